/- Contracts of functions, part CSrtuTells2. -/
import Derived.Test.YtogbnemojakcpaaGreatCSrtuTells1
import Derived.Laws.BitsAllLaws
import Derived.RangeFuncRecord
import Derived.RangeFuncLeaves
import Derived.RangeFuncCalls
set_option linter.unusedVariables false
set_option linter.unusedSimpArgs false
set_option maxRecDepth 100000
set_option maxHeartbeats 4000000
namespace Go.Proofs.YtogbnemojakcpaaGreat
open Go.RowKit
def gg (Q:World→Ending→World→Prop)(w:World)(e:Ending)(w':World) : Prop:=∃ F free,e = .returned (.func (.func F) #[] free)∧tU Tryz.prog F=some (false,true)∧az [] w w'∧Calls Tryz.prog F free w' (Q w')
theorem jV{g:Nat}{C:ai}{w:World}{a most:Int}(hC:ag w g C)(ha:0≤a∧a<65536) :
    Calls Tryz.prog 237 #[.pointer (some ⟨g,0,none⟩),.int .u16 a,.int .i64 most] w (jH g .i64 65536 C.wordV (bA C a most) w):=by
 have hlen:=hC.len
 have hrr:=hC.wordV
 refine en 26 Tryz.func237 rfl<|sg<|Pl 1<|ng<|Pl 1<|L0<|Oc<|m3 (bK hC) fun l d e m=>L0<|Oi C.wordV<|Pl 1<|nt<|?_
 refine sg<|Pl 4<|cu 4 [14] 18 (((decide (1≤C.wordV))&&(decide (C.wordV≤most)))) (fun K c=>?_) ?_
 refine bl 14 ((decide (1≤C.wordV))) (fun b=>?_) (fun b=>?_)
 have f:=of_decide_eq_true b
 exact Pl 4<|ce c (decide (C.wordV≤most)) (by rw[b];rfl)
 have f:=of_decide_eq_false b
 exact Pl 4<|ce c false (by rw[b];rfl)
 refine L0<|Oc<|m2 (aS (((decide (1≤C.wordV))&&(decide (C.wordV≤most)))) 5 d) fun o h i=>ng<|Pl 3<|L0<|Oc<|mq (g7 (a:=a) (n:=C.wordV) (by omega))<|L0<|Oc<|m2 (aS ((cH a C.wordV)) 7 h) fun p j k=>ng<|Pl 2<|nl<|?_
 refine tn<|rt<|rr (.int .i64 C.wordV)<|?_
 have hs:bA C a most=(((C.wordsC 1).need ((decide (1≤C.wordV))&&(decide (C.wordV≤most))) 5).need (cH a C.wordV) 7):=by
   unfold bA
   (try simp only[bs,if_true,if_false,decide_true,decide_false,reduceIte])
   all_goals rfl
 rw[hs]
 exact⟨rfl,j,(u1 e (u1 i k im) im),hrr⟩
theorem i4{g:Nat}{C:ai}{w:World}{n:Int}(hC:ag w g C)(hn:0≤n∧n<65536) :
    Calls Tryz.prog 242 #[.pointer (some ⟨g,0,none⟩),.int .i64 n] w (fun e w'=>∃ v,e = .returned v∧ir w.heap.size w' v ((cA C n).wordsR n)∧ag w' g ((cA C n).wordsC n)∧az [g] w w'):=by
 have hlen:=hC.len
 refine en 16 Tryz.func242 rfl<|sg<|Pl 1<|ng<|Pl 2<|L0<|Oc<|m3 (bF hC) fun l c a m=>L0<|Oi C.byteV<|Pl 1<|L0<|Oi (2*n)<|Pl 1<|L0<|Oc<|m2 (aS ((C.byteV==(2*n))) 5 c) fun o d b=>?_
 refine ng<|Pl 2<|L0<|Oc<|jc (dm (n:=n) d) fun f h p i q r j k=>Pl 1<|nt<|rt<|rr (.slice f ((((C.bytesC 1).need (C.byteV==(2*n)) 5).wordsR n).length) h)<|?_
 have hs:cA C n=((C.bytesC 1).need (C.byteV==(2*n)) 5):=by
   unfold cA
   (try simp only[bs,if_true,if_false,decide_true,decide_false,reduceIte])
   all_goals rfl
 rw[hs]
 exact⟨_,rfl,(b6.weaken i (le a.size b.size)),j,(u1 a (u1 b k im) im)⟩
theorem fI{most:Int}{g gm:Nat}{c:Int}{C:ai}{w:World}(hcode:B8 c)(hC:ag w g C)(hm:w.heap[gm]? = some (.cells (mC c) 30 (0,0)))(hne:g≠gm){bc:Nat}{bm:Nat}(hbc:w.heap[bc]? = some (.cells #[.pointer (some ⟨g,0,none⟩)] 113 (0,0)))(n_bc_g:bc≠g)(n_bc_gm:bc≠gm)(hbm:w.heap[bm]? = some (.cells #[.pointer (some ⟨gm,0,none⟩)] 161 (0,0)))(n_bm_g:bm≠g)(n_bm_gm:bm≠gm) :
    Calls Tryz.prog 236 #[.int .i64 most,.pointer (some ⟨bc,0,none⟩),.pointer (some ⟨bm,0,none⟩)] w (nd g gm (bA (C.wordsC 1) C.wordV most) (mG c 0 C.wordV (C.wordsC 1).wordV 0 0 0 0 0 0 0 0 nS nS nS nS 0 0 0 0 0 nS) w):=by
 obtain⟨hcode1,hcode2⟩:=hcode
 have hlen:=hC.len
 refine en 20 Tryz.func236 rfl<|sq<|Rg 6 (fun w'=>w'.cell? ⟨bm,0,none⟩=some (.pointer (some ⟨gm,0,none⟩))∧w'.cell? ⟨bc,0,none⟩=some (.pointer (some ⟨g,0,none⟩))) fun I d=>?_
 have m:=ub d hbm
 have n:=ub d hbc
 refine bg ⟨(au m rfl),(au n rfl)⟩ fun o=>Rl 0 o (fun _ hs=>hs.1)<|Rl 1 o (fun _ hs=>hs.2)<|?_
 refine R0 2 rfl<|Oc<|m3 (bK (ag.old hC d)) fun J F i K=>?_
 have p:=aK i n_bm_g m
 have q:=aK i n_bc_g n
 refine bg ⟨(au p rfl),(au q rfl)⟩ fun r=>Rt 3 r<|Rt 4 r<|?_
 have s:=uz d i
 have t:=aK s (Ne.symm hne) hm
 refine R0 5 rfl<|bC t 2 (mG c 0 C.wordV 0 0 0 0 0 0 0 0 0 nS nS nS nS 0 0 0 0 0 nS) fun L G j=>?_
 have u:=aK j n_bm_gm p
 have v:=aK j n_bc_gm q
 refine bg ⟨(au u rfl),(au v rfl)⟩ fun M=>re<|tn<|Rg 12 (fun w'=>w'.cell? ⟨bm,0,none⟩=some (.pointer (some ⟨gm,0,none⟩))∧w'.cell? ⟨bc,0,none⟩=some (.pointer (some ⟨g,0,none⟩))∧w'.cell? ⟨gm,2,none⟩=some (.int .u16 C.wordV)) fun N e=>?_
 have x:=ub e u
 have y:=ub e v
 have z:=ub e G
 refine bg ⟨(au x rfl),(au y rfl),(au z rfl)⟩ fun b=>Rl 0 b (fun _ hs=>hs.1)<|Rl 1 b (fun _ hs=>hs.2.1)<|Rl 2 b (fun _ hs=>hs.1)<|Rt 3 b<|Rt 4 b<|Rl 5 b (fun _ hs=>hs.2.2)<|Rt 6 b<|?_
 have A:=aE j e
 refine R0 7 rfl<|Oc<|m3 (jV (a:=C.wordV) (most:=most) (ag.upd F A (aa hne am) (ah (aG t (by decide)) aA)) (by omega)) fun O H f P=>?_
 have B:=aK f n_bm_g x
 have D:=aK f n_bc_g y
 have k:=aK f (Ne.symm hne) z
 refine bg ⟨(au B rfl),(au D rfl),(au k rfl)⟩ fun l=>Rr 8 l (.int .u16 ((C.wordsC 1).wordV)) (fun _ _=>ck (.int .u16 (IntKind.u16.wrap ((C.wordsC 1).wordV))) (by kernel_rfl) (congrArg (Value.int .u16) (hM (by omega))))<|Rt 9 l<|Rt 10 l<|R0 11 rfl<|bC k 3 (mG c 0 C.wordV ((C.wordsC 1).wordV) 0 0 0 0 0 0 0 0 nS nS nS nS 0 0 0 0 0 nS) fun Q E h=>?_
 refine bg ⟨(au (aK h n_bm_gm B) rfl),(au (aK h n_bc_gm D) rfl),(au E rfl)⟩ fun R=>re<|rm (.tuple #[])<|?_
 exact⟨rfl,(ag.upd H h (aa hne am) (ah (aG k (by decide)) aA)),E,(ui s (ui A (us f h)))⟩
theorem vJ{g gm:Nat}{c:Int}{C:ai}{w:World}(hcode:B8 c)(hC:ag w g C)(hm:w.heap[gm]? = some (.cells (mC c) 30 (0,0)))(hne:g≠gm){bc:Nat}{bm:Nat}{bw:Nat}(hbc:w.heap[bc]? = some (.cells #[.pointer (some ⟨g,0,none⟩)] 113 (0,0)))(n_bc_g:bc≠g)(n_bc_gm:bc≠gm)(hbm:w.heap[bm]? = some (.cells #[.pointer (some ⟨gm,0,none⟩)] 161 (0,0)))(n_bm_g:bm≠g)(n_bm_gm:bm≠gm)(hbw:w.heap[bw]? = some (.cells #[.func (.func 236) #[] #[.pointer (some ⟨bc,0,none⟩),.pointer (some ⟨bm,0,none⟩)]] 239 (0,0)))(n_bw_g:bw≠g)(n_bw_gm:bw≠gm) :
    Calls Tryz.prog 238 #[.pointer (some ⟨bw,0,none⟩)] w (bS g gm (bP 125 c C).1 (bP 125 c C).2 w):=by
 obtain⟨hcode1,hcode2⟩:=hcode
 have hlen:=hC.len
 refine en 3 Tryz.func238 rfl<|go<|L0<|aZ hbw 0<|L0<|gH #[] #[.pointer (some ⟨bc,0,none⟩),.pointer (some ⟨bm,0,none⟩)] (args:=#[.int .i64 125,.pointer (some ⟨bc,0,none⟩),.pointer (some ⟨bm,0,none⟩)])<|m3 (fI (most:=125) ⟨hcode1,hcode2⟩ hC hm hne hbc n_bc_g n_bc_gm hbm n_bm_g n_bm_gm) fun e a b d=>?_
 have f:=(hC).wordV
 have h:=bE (c3 (hC).rng 1)
 refine nl<|rm (.tuple #[])<|?_
 have hs:bP 125 c C=((bA (C.wordsC 1) C.wordV 125),(aU.mk c 0 C.wordV ((C.wordsC 1).wordV) 0 0 0 0 0 0 0 0 [] [] [] [] 0 0 0 0 0 [])):=by
   unfold bP
   (try simp only[bs,if_true,if_false,decide_true,decide_false,reduceIte])
   all_goals rfl
 rw[hs]
 exact⟨rfl,a,⟨_,⟨b,rfl⟩,⟨_,_,_,_,_,rfl,aB.nil ..,aB.nil ..,aB.nil ..,aB.nil ..,aB.nil ..,(bL (by omega))⟩⟩,d⟩
theorem ve{g gm:Nat}{c:Int}{C:ai}{w:World}(hcode:B8 c)(hC:ag w g C)(hm:w.heap[gm]? = some (.cells (mC c) 30 (0,0)))(hne:g≠gm){bc:Nat}{bm:Nat}(hbc:w.heap[bc]? = some (.cells #[.pointer (some ⟨g,0,none⟩)] 113 (0,0)))(n_bc_g:bc≠g)(n_bc_gm:bc≠gm)(hbm:w.heap[bm]? = some (.cells #[.pointer (some ⟨gm,0,none⟩)] 161 (0,0)))(n_bm_g:bm≠g)(n_bm_gm:bm≠gm) :
    Calls Tryz.prog 239 #[.pointer (some ⟨bc,0,none⟩),.pointer (some ⟨bm,0,none⟩)] w (bS g gm (bX c C).1 (bX c C).2 w):=by
 obtain⟨hcode1,hcode2⟩:=hcode
 have hlen:=hC.len
 refine en 26 Tryz.func239 rfl<|sg<|L0<|aZ hbc 0<|L0<|Oc<|m3 (bF hC) fun N B k O=>L0<|Oi C.byteV<|Pl 1<|ng<|?_
 have l:=aK k n_bc_g hbc
 refine L0<|aZ l 0<|Pl 1<|L0<|Oe (.int .i64 (Int.tmod C.byteV 2)) (.int .i64 (C.byteV%2)) (congrArg (Value.int .i64) (Int.tmod_eq_emod_of_nonneg (by omega)))<|Pl 2<|cu 3 [10] 13 ((((C.byteV%2)==0)&&(decide (2≤C.byteV)))) (fun K m=>?_) ?_
 refine bl 10 (((C.byteV%2)==0)) (fun a=>?_) (fun a=>?_)
 have D:=ap a
 exact Pl 3<|ce m (decide (2≤C.byteV)) (by rw[a];rfl)
 have D:=aq a
 exact Pl 3<|ce m false (by rw[a];rfl)
 refine Pl 1<|cu 3 [14] 17 (((((C.byteV%2)==0)&&(decide (2≤C.byteV)))&&(decide (C.byteV≤250)))) (fun K o=>?_) ?_
 refine bl 14 ((((C.byteV%2)==0)&&(decide (2≤C.byteV)))) (fun b=>?_) (fun b=>?_)
 have E:=(aO b).1
 have F:=(aO b).2
 have P:=ap E
 have Q:=of_decide_eq_true F
 exact Pl 3<|ce o (decide (C.byteV≤250)) (by rw[b];rfl)
 exact Pl 3<|ce o false (by rw[b];rfl)
 refine L0<|Oc<|m2 (aS (((((C.byteV%2)==0)&&(decide (2≤C.byteV)))&&(decide (C.byteV≤250)))) 5 B) fun R G H=>nt<|Rg 8 (fun w'=>w'.cell? ⟨bm,0,none⟩=some (.pointer (some ⟨gm,0,none⟩))∧w'.cell? ⟨bc,0,none⟩=some (.pointer (some ⟨g,0,none⟩))) fun S p=>?_
 have q:=aE H p
 have i:=u1 k q im
 have r:=aK i n_bm_g hbm
 have s:=aK q n_bc_g l
 refine bg ⟨(au r rfl),(au s rfl)⟩ fun f=>Rl 0 f (fun _ hs=>hs.1)<|Rl 1 f (fun _ hs=>hs.2)<|Rt 2 f<|Rr 3 f (.int .i64 (C.byteV/2)) (fun _ _=>ck (.int .i64 (IntKind.i64.wrap (Int.tdiv C.byteV 2))) (by kernel_rfl) (congrArg (Value.int .i64) (eO (by omega) (by omega))))<|?_
 refine R0 4 rfl<|Oc<|jc (dm (n:=(C.byteV/2)) (ag.old G p)) fun I J T t U V L j=>?_
 have u:=aK j n_bm_g r
 have v:=aK j n_bc_g s
 refine bg ⟨(au u rfl),(au v rfl)⟩ fun y=>Rt 5 y<|Rt 6 y<|?_
 have z:=u1 i j im
 have A:=aK z (Ne.symm hne) hm
 refine R0 7 rfl<|bC A 12 (mG c 0 0 0 0 0 0 0 0 0 0 0 (.slice I ((((C.bytesC 1).need ((((C.byteV%2)==0)&&(decide (2≤C.byteV)))&&(decide (C.byteV≤250))) 5).wordsR (C.byteV/2)).length) J) nS nS nS 0 0 0 0 0 nS) fun W M d=>?_
 refine bg ⟨(au (aK d n_bm_gm u) rfl),(au (aK d n_bc_gm v) rfl)⟩ fun X=>re<|rm (.tuple #[])<|?_
 have hs:bX c C=((((C.bytesC 1).need ((((C.byteV%2)==0)&&(decide (2≤C.byteV)))&&(decide (C.byteV≤250))) 5).wordsC (C.byteV/2)),(aU.mk c 0 0 0 0 0 0 0 0 0 0 0 (((C.bytesC 1).need ((((C.byteV%2)==0)&&(decide (2≤C.byteV)))&&(decide (C.byteV≤250))) 5).wordsR (C.byteV/2)) [] [] [] 0 0 0 0 0 [])):=by
   unfold bX nE hG
   (try simp only[bs,if_true,if_false,decide_true,decide_false,reduceIte])
   all_goals rfl
 rw[hs]
 exact⟨rfl,(ag.upd L d (aa hne am) (ah (aG A (by decide)) aA)),⟨_,⟨M,rfl⟩,⟨_,_,_,_,_,rfl,((ax t d (fun x hx=>(aa (fun e=>(ay (ak hm) i.size t) (e▸hx)) am)) (fun _ _ h=>h))).rd,aB.nil ..,aB.nil ..,aB.nil ..,aB.nil ..,(bL (by omega))⟩⟩,(us z d)⟩
theorem vB{g gm:Nat}{c:Int}{C:ai}{w:World}(hcode:B8 c)(hC:ag w g C)(hm:w.heap[gm]? = some (.cells (mC c) 30 (0,0)))(hne:g≠gm){bc:Nat}{bm:Nat}(hbc:w.heap[bc]? = some (.cells #[.pointer (some ⟨g,0,none⟩)] 113 (0,0)))(n_bc_g:bc≠g)(n_bc_gm:bc≠gm)(hbm:w.heap[bm]? = some (.cells #[.pointer (some ⟨gm,0,none⟩)] 161 (0,0)))(n_bm_g:bm≠g)(n_bm_gm:bm≠gm) :
    Calls Tryz.prog 240 #[.pointer (some ⟨bc,0,none⟩),.pointer (some ⟨bm,0,none⟩)] w (bS g gm (d7 c C).1 (d7 c C).2 w):=by
 obtain⟨hcode1,hcode2⟩:=hcode
 have hlen:=hC.len
 refine en 12 Tryz.func240 rfl<|Rg 12 (fun w'=>w'.cell? ⟨bm,0,none⟩=some (.pointer (some ⟨gm,0,none⟩))∧w'.cell? ⟨bc,0,none⟩=some (.pointer (some ⟨g,0,none⟩))) fun A a=>?_
 have i:=ub a hbm
 have j:=ub a hbc
 refine bg ⟨(au i rfl),(au j rfl)⟩ fun b=>Rl 0 b (fun _ hs=>hs.1)<|Rl 1 b (fun _ hs=>hs.1)<|Rl 2 b (fun _ hs=>hs.2)<|Rl 4 b (fun _ hs=>hs.2)<|?_
 refine R0 3 rfl<|Oc<|m3 (bK (ag.old hC a)) fun B v d D=>?_
 have k:=aK d n_bm_g i
 have l:=aK d n_bc_g j
 refine bg ⟨(au k rfl),(au l rfl)⟩ fun E=>R0 5 rfl<|Oc<|m3 (bK v) fun F x e G=>?_
 have m:=aK e n_bm_g k
 have n:=aK e n_bc_g l
 refine bg ⟨(au m rfl),(au n rfl)⟩ fun o=>Rt 6 o<|Rt 7 o<|?_
 have p:=uz a (u1 d e im)
 have q:=aK p (Ne.symm hne) hm
 refine R0 8 rfl<|bC q 2 (mG c 0 C.wordV 0 0 0 0 0 0 0 0 0 nS nS nS nS 0 0 0 0 0 nS) fun H y f=>?_
 have r:=aK f n_bm_gm m
 have s:=aK f n_bc_gm n
 refine bg ⟨(au r rfl),(au s rfl)⟩ fun t=>Rt 9 t<|Rt 10 t<|R0 11 rfl<|bC y 4 (mG c 0 C.wordV 0 ((C.wordsC 1).wordV) 0 0 0 0 0 0 0 nS nS nS nS 0 0 0 0 0 nS) fun I z h=>?_
 refine bg ⟨(au (aK h n_bm_gm r) rfl),(au (aK h n_bc_gm s) rfl)⟩ fun J=>re<|rm (.tuple #[])<|?_
 have hs:d7 c C=(((C.wordsC 1).wordsC 1),(aU.mk c 0 C.wordV 0 ((C.wordsC 1).wordV) 0 0 0 0 0 0 0 [] [] [] [] 0 0 0 0 0 [])):=by
   unfold d7
   (try simp only[bs,if_true,if_false,decide_true,decide_false,reduceIte])
   all_goals rfl
 rw[hs]
 have u:=u1 f h im
 exact⟨rfl,(ag.upd x u (aa hne am) (ah (aG q (by decide)) aA)),⟨_,⟨z,rfl⟩,⟨_,_,_,_,_,rfl,aB.nil ..,aB.nil ..,aB.nil ..,aB.nil ..,aB.nil ..,(bL (by omega))⟩⟩,(us p u)⟩
theorem vq{ask:Bool}{g gm:Nat}{c:Int}{C:ai}{w:World}(hcode:B8 c)(hC:ag w g C)(hm:w.heap[gm]? = some (.cells (mC c) 30 (0,0)))(hne:g≠gm){bc:Nat}{bm:Nat}{bw:Nat}{ba:Nat}(hbc:w.heap[bc]? = some (.cells #[.pointer (some ⟨g,0,none⟩)] 113 (0,0)))(n_bc_g:bc≠g)(n_bc_gm:bc≠gm)(hbm:w.heap[bm]? = some (.cells #[.pointer (some ⟨gm,0,none⟩)] 161 (0,0)))(n_bm_g:bm≠g)(n_bm_gm:bm≠gm)(hbw:w.heap[bw]? = some (.cells #[.func (.func 236) #[] #[.pointer (some ⟨bc,0,none⟩),.pointer (some ⟨bm,0,none⟩)]] 239 (0,0)))(n_bw_g:bw≠g)(n_bw_gm:bw≠gm)(hba:w.heap[ba]? = some (.cells #[.bool ask] 4 (0,0)))(n_ba_g:ba≠g)(n_ba_gm:ba≠gm)(hask:ask=true) :
    Calls Tryz.prog 241 #[.pointer (some ⟨bw,0,none⟩),.pointer (some ⟨ba,0,none⟩),.pointer (some ⟨bc,0,none⟩),.pointer (some ⟨bm,0,none⟩)] w (bS g gm (cG c C).1 (cG c C).2 w):=by
 obtain⟨hcode1,hcode2⟩:=hcode
 have hlen:=hC.len
 refine en 17 Tryz.func241 rfl<|sg<|L0<|aZ hbw 0<|L0<|gH #[] #[.pointer (some ⟨bc,0,none⟩),.pointer (some ⟨bm,0,none⟩)] (args:=#[.int .i64 123,.pointer (some ⟨bc,0,none⟩),.pointer (some ⟨bm,0,none⟩)])<|m3 (fI (most:=123) ⟨hcode1,hcode2⟩ hC hm hne hbc n_bc_g n_bc_gm hbm n_bm_g n_bm_gm) fun B u v k=>?_
 have D:=(hC).wordV
 have E:=bE (c3 (hC).rng 1)
 refine ng<|?_
 refine L0<|aZ (az.blk k (aa n_ba_g (aa n_ba_gm am)) hba) 0<|nt<|ct hask<|Rg 11 (fun w'=>w'.cell? ⟨bm,0,none⟩=some (.pointer (some ⟨gm,0,none⟩))∧w'.cell? ⟨bc,0,none⟩=some (.pointer (some ⟨g,0,none⟩))∧w'.cell? ⟨gm,3,none⟩=some (.int .u16 ((C.wordsC 1).wordV))) fun F i=>?_
 have d:=aE k i
 have l:=az.blk d (aa n_bm_g (aa n_bm_gm am)) hbm
 have m:=az.blk d (aa n_bc_g (aa n_bc_gm am)) hbc
 have o:=ub i v
 refine bg ⟨(au l rfl),(au m rfl),(au o rfl)⟩ fun a=>Rl 0 a (fun _ hs=>hs.1)<|Rl 1 a (fun _ hs=>hs.2.1)<|Rl 2 a (fun _ hs=>hs.1)<|Rt 3 a<|Rt 4 a<|Rl 5 a (fun _ hs=>hs.2.2)<|Rr 6 a (.int .i64 ((C.wordsC 1).wordV)) (fun _ _=>ck (.int .i64 (IntKind.i64.wrap ((C.wordsC 1).wordV))) (by kernel_rfl) (congrArg (Value.int .i64) (i64_in (by omega))))<|?_
 refine R0 7 rfl<|Oc<|jc (i4 (n:=(C.wordsC 1).wordV) (ag.old u i) (by omega)) fun y z G p H I A f=>?_
 have q:=aK f n_bm_g l
 have r:=aK f n_bc_g m
 have j:=aK f (Ne.symm hne) o
 refine bg ⟨(au q rfl),(au r rfl),(au j rfl)⟩ fun s=>Rt 8 s<|Rt 9 s<|R0 10 rfl<|bC j 12 (mG c 0 C.wordV ((C.wordsC 1).wordV) 0 0 0 0 0 0 0 0 (.slice y (((cA (bA (C.wordsC 1) C.wordV 123) ((C.wordsC 1).wordV)).wordsR ((C.wordsC 1).wordV)).length) z) nS nS nS 0 0 0 0 0 nS) fun J t b=>?_
 refine bg ⟨(au (aK b n_bm_gm q) rfl),(au (aK b n_bc_gm r) rfl),(au t rfl)⟩ fun K=>re<|rm (.tuple #[])<|?_
 have hs:cG c C=(((cA (bA (C.wordsC 1) C.wordV 123) ((C.wordsC 1).wordV)).wordsC ((C.wordsC 1).wordV)),(aU.mk c 0 C.wordV ((C.wordsC 1).wordV) 0 0 0 0 0 0 0 0 ((cA (bA (C.wordsC 1) C.wordV 123) ((C.wordsC 1).wordV)).wordsR ((C.wordsC 1).wordV)) [] [] [] 0 0 0 0 0 [])):=by
   unfold cG kJ
   (try simp only[hask,bs,if_true,if_false,decide_true,decide_false,reduceIte])
   all_goals rfl
 rw[hs]
 exact⟨rfl,(ag.upd A b (aa hne am) (ah (aG j (by decide)) aA)),⟨_,⟨t,rfl⟩,⟨_,_,_,_,_,rfl,((ax p b (fun x hx=>(aa (fun e=>(ay (ak hm) d.size p) (e▸hx)) am)) (fun _ _ h=>h))).rd,aB.nil ..,aB.nil ..,aB.nil ..,aB.nil ..,(bL (by omega))⟩⟩,(ut d (us f b) (ac im (ac im av)))⟩
theorem vj{ask:Bool}{g gm:Nat}{c:Int}{C:ai}{w:World}(hcode:B8 c)(hC:ag w g C)(hm:w.heap[gm]? = some (.cells (mC c) 30 (0,0)))(hne:g≠gm){bc:Nat}{bm:Nat}{bw:Nat}{ba:Nat}(hbc:w.heap[bc]? = some (.cells #[.pointer (some ⟨g,0,none⟩)] 113 (0,0)))(n_bc_g:bc≠g)(n_bc_gm:bc≠gm)(hbm:w.heap[bm]? = some (.cells #[.pointer (some ⟨gm,0,none⟩)] 161 (0,0)))(n_bm_g:bm≠g)(n_bm_gm:bm≠gm)(hbw:w.heap[bw]? = some (.cells #[.func (.func 236) #[] #[.pointer (some ⟨bc,0,none⟩),.pointer (some ⟨bm,0,none⟩)]] 239 (0,0)))(n_bw_g:bw≠g)(n_bw_gm:bw≠gm)(hba:w.heap[ba]? = some (.cells #[.bool ask] 4 (0,0)))(n_ba_g:ba≠g)(n_ba_gm:ba≠gm)(hask:ask=false) :
    Calls Tryz.prog 241 #[.pointer (some ⟨bw,0,none⟩),.pointer (some ⟨ba,0,none⟩),.pointer (some ⟨bc,0,none⟩),.pointer (some ⟨bm,0,none⟩)] w (bS g gm (bP 123 c C).1 (bP 123 c C).2 w):=by
 obtain⟨hcode1,hcode2⟩:=hcode
 have hlen:=hC.len
 refine en 17 Tryz.func241 rfl<|sg<|L0<|aZ hbw 0<|L0<|gH #[] #[.pointer (some ⟨bc,0,none⟩),.pointer (some ⟨bm,0,none⟩)] (args:=#[.int .i64 123,.pointer (some ⟨bc,0,none⟩),.pointer (some ⟨bm,0,none⟩)])<|m3 (fI (most:=123) ⟨hcode1,hcode2⟩ hC hm hne hbc n_bc_g n_bc_gm hbm n_bm_g n_bm_gm) fun e b d a=>?_
 have f:=(hC).wordV
 have h:=bE (c3 (hC).rng 1)
 refine ng<|?_
 refine L0<|aZ (az.blk a (aa n_ba_g (aa n_ba_gm am)) hba) 0<|nt<|cf hask<|sk<|rm (.tuple #[])<|?_
 have hs:bP 123 c C=((bA (C.wordsC 1) C.wordV 123),(aU.mk c 0 C.wordV ((C.wordsC 1).wordV) 0 0 0 0 0 0 0 0 [] [] [] [] 0 0 0 0 0 [])):=by
   unfold bP
   (try simp only[hask,bs,if_true,if_false,decide_true,decide_false,reduceIte])
   all_goals rfl
 rw[hs]
 exact⟨rfl,b,⟨_,⟨d,rfl⟩,⟨_,_,_,_,_,rfl,aB.nil ..,aB.nil ..,aB.nil ..,aB.nil ..,aB.nil ..,(bL (by omega))⟩⟩,a⟩
theorem vA{g gm:Nat}{c:Int}{C:ai}{w:World}(hcode:B8 c)(hC:ag w g C)(hm:w.heap[gm]? = some (.cells (mC c) 30 (0,0)))(hne:g≠gm){bc:Nat}{bm:Nat}(hbc:w.heap[bc]? = some (.cells #[.pointer (some ⟨g,0,none⟩)] 113 (0,0)))(n_bc_g:bc≠g)(n_bc_gm:bc≠gm)(hbm:w.heap[bm]? = some (.cells #[.pointer (some ⟨gm,0,none⟩)] 161 (0,0)))(n_bm_g:bm≠g)(n_bm_gm:bm≠gm) :
    Calls Tryz.prog 243 #[.pointer (some ⟨bc,0,none⟩),.pointer (some ⟨bm,0,none⟩)] w (bS g gm (cw c C).1 (cw c C).2 w):=by
 obtain⟨hcode1,hcode2⟩:=hcode
 have hlen:=hC.len
 refine en 17 Tryz.func243 rfl<|Rg 18 (fun w'=>w'.cell? ⟨bm,0,none⟩=some (.pointer (some ⟨gm,0,none⟩))∧w'.cell? ⟨bc,0,none⟩=some (.pointer (some ⟨g,0,none⟩))) fun K b=>?_
 have k:=ub b hbm
 have l:=ub b hbc
 refine bg ⟨(au k rfl),(au l rfl)⟩ fun a=>Rl 0 a (fun _ hs=>hs.1)<|Rl 1 a (fun _ hs=>hs.1)<|Rl 2 a (fun _ hs=>hs.1)<|Rl 3 a (fun _ hs=>hs.2)<|Rl 5 a (fun _ hs=>hs.2)<|Rl 7 a (fun _ hs=>hs.2)<|?_
 refine R0 4 rfl<|Oc<|m3 (bK (ag.old hC b)) fun L E d M=>?_
 have m:=aK d n_bm_g k
 have n:=aK d n_bc_g l
 refine bg ⟨(au m rfl),(au n rfl)⟩ fun N=>R0 6 rfl<|Oc<|m3 (bK E) fun O F e P=>?_
 have o:=aK e n_bm_g m
 have p:=aK e n_bc_g n
 refine bg ⟨(au o rfl),(au p rfl)⟩ fun Q=>R0 8 rfl<|Oc<|m3 (bK F) fun R G f S=>?_
 have q:=aK f n_bm_g o
 have r:=aK f n_bc_g p
 refine bg ⟨(au q rfl),(au r rfl)⟩ fun s=>Rt 9 s<|Rt 10 s<|?_
 have t:=uz b (u1 d (u1 e f im) im)
 have u:=aK t (Ne.symm hne) hm
 refine R0 11 rfl<|bC u 2 (mG c 0 C.wordV 0 0 0 0 0 0 0 0 0 nS nS nS nS 0 0 0 0 0 nS) fun T H h=>?_
 have v:=aK h n_bm_gm q
 have x:=aK h n_bc_gm r
 refine bg ⟨(au v rfl),(au x rfl)⟩ fun y=>Rt 12 y<|Rt 13 y<|R0 14 rfl<|bC H 5 (mG c 0 C.wordV 0 0 ((C.wordsC 1).wordV) 0 0 0 0 0 0 nS nS nS nS 0 0 0 0 0 nS) fun U I i=>?_
 have z:=aK i n_bm_gm v
 have A:=aK i n_bc_gm x
 refine bg ⟨(au z rfl),(au A rfl)⟩ fun B=>Rt 15 B<|Rt 16 B<|R0 17 rfl<|bC I 6 (mG c 0 C.wordV 0 0 ((C.wordsC 1).wordV) (((C.wordsC 1).wordsC 1).wordV) 0 0 0 0 0 nS nS nS nS 0 0 0 0 0 nS) fun V J j=>?_
 refine bg ⟨(au (aK j n_bm_gm z) rfl),(au (aK j n_bc_gm A) rfl)⟩ fun W=>re<|rm (.tuple #[])<|?_
 have hs:cw c C=((((C.wordsC 1).wordsC 1).wordsC 1),(aU.mk c 0 C.wordV 0 0 ((C.wordsC 1).wordV) (((C.wordsC 1).wordsC 1).wordV) 0 0 0 0 0 [] [] [] [] 0 0 0 0 0 [])):=by
   unfold cw
   (try simp only[bs,if_true,if_false,decide_true,decide_false,reduceIte])
   all_goals rfl
 rw[hs]
 have D:=u1 h (u1 i j im) im
 exact⟨rfl,(ag.upd G D (aa hne am) (ah (aG u (by decide)) aA)),⟨_,⟨J,rfl⟩,⟨_,_,_,_,_,rfl,aB.nil ..,aB.nil ..,aB.nil ..,aB.nil ..,aB.nil ..,(bL (by omega))⟩⟩,(us t D)⟩
theorem vO{g gm:Nat}{c:Int}{C:ai}{w:World}(hcode:B8 c)(hC:ag w g C)(hm:w.heap[gm]? = some (.cells (mC c) 30 (0,0)))(hne:g≠gm){bc:Nat}{bm:Nat}{bw:Nat}(hbc:w.heap[bc]? = some (.cells #[.pointer (some ⟨g,0,none⟩)] 113 (0,0)))(n_bc_g:bc≠g)(n_bc_gm:bc≠gm)(hbm:w.heap[bm]? = some (.cells #[.pointer (some ⟨gm,0,none⟩)] 161 (0,0)))(n_bm_g:bm≠g)(n_bm_gm:bm≠gm)(hbw:w.heap[bw]? = some (.cells #[.func (.func 236) #[] #[.pointer (some ⟨bc,0,none⟩),.pointer (some ⟨bm,0,none⟩)]] 239 (0,0)))(n_bw_g:bw≠g)(n_bw_gm:bw≠gm) :
    Calls Tryz.prog 244 #[.pointer (some ⟨bw,0,none⟩),.pointer (some ⟨bc,0,none⟩),.pointer (some ⟨bm,0,none⟩)] w (bS g gm (cI c C).1 (cI c C).2 w):=by
 obtain⟨hcode1,hcode2⟩:=hcode
 have hlen:=hC.len
 refine en 21 Tryz.func244 rfl<|sg<|L0<|aZ hbw 0<|L0<|gH #[] #[.pointer (some ⟨bc,0,none⟩),.pointer (some ⟨bm,0,none⟩)] (args:=#[.int .i64 125,.pointer (some ⟨bc,0,none⟩),.pointer (some ⟨bm,0,none⟩)])<|m3 (fI (most:=125) ⟨hcode1,hcode2⟩ hC hm hne hbc n_bc_g n_bc_gm hbm n_bm_g n_bm_gm) fun X P Q q=>?_
 have Y:=(hC).wordV
 have Z:=bE (c3 (hC).rng 1)
 refine nt<|sq<|Rg 6 (fun w'=>w'.cell? ⟨bm,0,none⟩=some (.pointer (some ⟨gm,0,none⟩))∧w'.cell? ⟨bc,0,none⟩=some (.pointer (some ⟨g,0,none⟩))) fun a0 k=>?_
 have o:=aE q k
 have r:=az.blk o (aa n_bm_g (aa n_bm_gm am)) hbm
 have s:=az.blk o (aa n_bc_g (aa n_bc_gm am)) hbc
 refine bg ⟨(au r rfl),(au s rfl)⟩ fun t=>Rl 0 t (fun _ hs=>hs.1)<|Rl 1 t (fun _ hs=>hs.2)<|?_
 refine R0 2 rfl<|Oc<|m3 (bK (ag.old P k)) fun a1 R d a2=>?_
 have u:=aK d n_bm_g r
 have v:=aK d n_bc_g s
 refine bg ⟨(au u rfl),(au v rfl)⟩ fun y=>Rt 3 y<|Rt 4 y<|?_
 have z:=aK (uz k d) (Ne.symm hne) Q
 refine R0 5 rfl<|bC z 7 (mG c 0 C.wordV ((C.wordsC 1).wordV) 0 0 0 ((bA (C.wordsC 1) C.wordV 125).wordV) 0 0 0 0 nS nS nS nS 0 0 0 0 0 nS) fun a3 S l=>?_
 have A:=aK l n_bm_gm u
 have B:=aK l n_bc_gm v
 refine bg ⟨(au A rfl),(au B rfl)⟩ fun a4=>re<|tn<|Rg 12 (fun w'=>w'.cell? ⟨bm,0,none⟩=some (.pointer (some ⟨gm,0,none⟩))∧w'.cell? ⟨bc,0,none⟩=some (.pointer (some ⟨g,0,none⟩))∧w'.cell? ⟨gm,7,none⟩=some (.int .u16 ((bA (C.wordsC 1) C.wordV 125).wordV))) fun a5 f=>?_
 have D:=ub f A
 have E:=ub f B
 have F:=ub f S
 refine bg ⟨(au D rfl),(au E rfl),(au F rfl)⟩ fun b=>Rl 0 b (fun _ hs=>hs.1)<|Rl 1 b (fun _ hs=>hs.2.1)<|Rl 2 b (fun _ hs=>hs.2.1)<|Rl 3 b (fun _ hs=>hs.1)<|Rt 4 b<|Rt 5 b<|Rl 6 b (fun _ hs=>hs.2.2)<|?_
 have G:=aE l f
 refine R0 7 rfl<|Oc<|m3 (jV (a:=(bA (C.wordsC 1) C.wordV 125).wordV) (most:=121) (ag.upd R G (aa hne am) (ah (aG z (by decide)) aA)) (by omega)) fun a6 T i a7=>?_
 have H:=aK i n_bm_g D
 have I:=aK i n_bc_g E
 have J:=aK i (Ne.symm hne) F
 refine bg ⟨(au H rfl),(au I rfl),(au J rfl)⟩ fun a8=>R0 8 rfl<|Oc<|jc (i4 (n:=((bA (C.wordsC 1) C.wordV 125).wordsC 1).wordV) T (by omega)) fun U V a9 K ab ad W m=>?_
 have L:=aK m n_bm_g H
 have M:=aK m n_bc_g I
 have p:=aK m (Ne.symm hne) J
 refine bg ⟨(au L rfl),(au M rfl),(au p rfl)⟩ fun N=>Rt 9 N<|Rt 10 N<|R0 11 rfl<|bC p 12 (mG c 0 C.wordV ((C.wordsC 1).wordV) 0 0 0 ((bA (C.wordsC 1) C.wordV 125).wordV) 0 0 0 0 (.slice U (((cA (bA ((bA (C.wordsC 1) C.wordV 125).wordsC 1) ((bA (C.wordsC 1) C.wordV 125).wordV) 121) (((bA (C.wordsC 1) C.wordV 125).wordsC 1).wordV)).wordsR (((bA (C.wordsC 1) C.wordV 125).wordsC 1).wordV)).length) V) nS nS nS 0 0 0 0 0 nS) fun ae O j=>?_
 refine bg ⟨(au (aK j n_bm_gm L) rfl),(au (aK j n_bc_gm M) rfl),(au O rfl)⟩ fun af=>re<|rm (.tuple #[])<|?_
 have hs:cI c C=(((cA (bA ((bA (C.wordsC 1) C.wordV 125).wordsC 1) ((bA (C.wordsC 1) C.wordV 125).wordV) 121) (((bA (C.wordsC 1) C.wordV 125).wordsC 1).wordV)).wordsC (((bA (C.wordsC 1) C.wordV 125).wordsC 1).wordV)),(aU.mk c 0 C.wordV ((C.wordsC 1).wordV) 0 0 0 ((bA (C.wordsC 1) C.wordV 125).wordV) 0 0 0 0 ((cA (bA ((bA (C.wordsC 1) C.wordV 125).wordsC 1) ((bA (C.wordsC 1) C.wordV 125).wordV) 121) (((bA (C.wordsC 1) C.wordV 125).wordsC 1).wordV)).wordsR (((bA (C.wordsC 1) C.wordV 125).wordsC 1).wordV)) [] [] [] 0 0 0 0 0 [])):=by
   unfold cI kF px jG
   (try simp only[bs,if_true,if_false,decide_true,decide_false,reduceIte])
   all_goals rfl
 rw[hs]
 exact⟨rfl,(ag.upd W j (aa hne am) (ah (aG p (by decide)) aA)),⟨_,⟨O,rfl⟩,⟨_,_,_,_,_,rfl,((ax K j (fun x hx=>(aa (fun e=>(ay (ak hm) (le (le (le (le (le q.size k.size) d.size) l.size) f.size) i.size) K) (e▸hx)) am)) (fun _ _ h=>h))).rd,aB.nil ..,aB.nil ..,aB.nil ..,aB.nil ..,(bL (by omega))⟩⟩,(ut o (ui d (ui G (ui i (us m j)))) (ac im (ac im av)))⟩
theorem vZ{g gm:Nat}{c:Int}{C:ai}{w:World}(hcode:B8 c)(hC:ag w g C)(hm:w.heap[gm]? = some (.cells (mC c) 30 (0,0)))(hne:g≠gm){bc:Nat}{bm:Nat}(hbc:w.heap[bc]? = some (.cells #[.pointer (some ⟨g,0,none⟩)] 113 (0,0)))(n_bc_g:bc≠g)(n_bc_gm:bc≠gm)(hbm:w.heap[bm]? = some (.cells #[.pointer (some ⟨gm,0,none⟩)] 161 (0,0)))(n_bm_g:bm≠g)(n_bm_gm:bm≠gm) :
    Calls Tryz.prog 245 #[.pointer (some ⟨bc,0,none⟩),.pointer (some ⟨bm,0,none⟩)] w (bS g gm (cJ c C).1 (cJ c C).2 w):=by
 obtain⟨hcode1,hcode2⟩:=hcode
 have hlen:=hC.len
 refine en 7 Tryz.func245 rfl<|Rg 6 (fun w'=>w'.cell? ⟨bm,0,none⟩=some (.pointer (some ⟨gm,0,none⟩))∧w'.cell? ⟨bc,0,none⟩=some (.pointer (some ⟨g,0,none⟩))) fun p a=>?_
 have e:=ub a hbm
 have f:=ub a hbc
 refine bg ⟨(au e rfl),(au f rfl)⟩ fun h=>Rl 0 h (fun _ hs=>hs.1)<|Rl 1 h (fun _ hs=>hs.2)<|?_
 refine R0 2 rfl<|Oc<|m3 (bK (ag.old hC a)) fun q n d r=>?_
 have i:=aK d n_bm_g e
 have j:=aK d n_bc_g f
 refine bg ⟨(au i rfl),(au j rfl)⟩ fun k=>Rt 3 k<|Rt 4 k<|?_
 have l:=uz a d
 have m:=aK l (Ne.symm hne) hm
 refine R0 5 rfl<|bC m 2 (mG c 0 C.wordV 0 0 0 0 0 0 0 0 0 nS nS nS nS 0 0 0 0 0 nS) fun s o b=>?_
 refine bg ⟨(au (aK b n_bm_gm i) rfl),(au (aK b n_bc_gm j) rfl)⟩ fun t=>re<|rm (.tuple #[])<|?_
 have hs:cJ c C=((C.wordsC 1),(aU.mk c 0 C.wordV 0 0 0 0 0 0 0 0 0 [] [] [] [] 0 0 0 0 0 [])):=by
   unfold cJ
   (try simp only[bs,if_true,if_false,decide_true,decide_false,reduceIte])
   all_goals rfl
 rw[hs]
 exact⟨rfl,(ag.upd n b (aa hne am) (ah (aG m (by decide)) aA)),⟨_,⟨o,rfl⟩,⟨_,_,_,_,_,rfl,aB.nil ..,aB.nil ..,aB.nil ..,aB.nil ..,aB.nil ..,(bL (by omega))⟩⟩,(us l b)⟩
theorem vX{g gm:Nat}{c:Int}{C:ai}{w:World}(hcode:B8 c)(hC:ag w g C)(hm:w.heap[gm]? = some (.cells (mC c) 30 (0,0)))(hne:g≠gm){bc:Nat}{bm:Nat}(hbc:w.heap[bc]? = some (.cells #[.pointer (some ⟨g,0,none⟩)] 113 (0,0)))(n_bc_g:bc≠g)(n_bc_gm:bc≠gm)(hbm:w.heap[bm]? = some (.cells #[.pointer (some ⟨gm,0,none⟩)] 161 (0,0)))(n_bm_g:bm≠g)(n_bm_gm:bm≠gm) :
    Calls Tryz.prog 246 #[.pointer (some ⟨bc,0,none⟩),.pointer (some ⟨bm,0,none⟩)] w (bS g gm (jb c C).1 (jb c C).2 w):=by
 obtain⟨hcode1,hcode2⟩:=hcode
 have hlen:=hC.len
 refine en 36 Tryz.func246 rfl<|sg<|L0<|aZ hbc 0<|L0<|Oc<|m3 (bK hC) fun T G k U=>L0<|Oi C.wordV<|Pl 1<|ng<|?_
 have l:=aK k n_bc_g hbc
 refine L0<|aZ l 0<|Pl 1<|L0<|Oe (.int .i64 (Int.tmod C.wordV 2)) (.int .i64 (C.wordV%2)) (congrArg (Value.int .i64) (Int.tmod_eq_emod_of_nonneg (by omega)))<|Pl 2<|cu 3 [11] 14 ((((C.wordV%2)==0)&&(decide (2≤C.wordV)))) (fun K m=>?_) ?_
 refine bl 11 (((C.wordV%2)==0)) (fun a=>?_) (fun a=>?_)
 have H:=ap a
 exact Pl 3<|ce m (decide (2≤C.wordV)) (by rw[a];rfl)
 have H:=aq a
 exact Pl 3<|ce m false (by rw[a];rfl)
 refine Pl 1<|cu 3 [15] 18 (((((C.wordV%2)==0)&&(decide (2≤C.wordV)))&&(decide (C.wordV≤64)))) (fun K o=>?_) ?_
 refine bl 15 ((((C.wordV%2)==0)&&(decide (2≤C.wordV)))) (fun b=>?_) (fun b=>?_)
 have I:=(aO b).1
 have J:=(aO b).2
 have V:=ap I
 have W:=of_decide_eq_true J
 exact Pl 3<|ce o (decide (C.wordV≤64)) (by rw[b];rfl)
 exact Pl 3<|ce o false (by rw[b];rfl)
 refine L0<|Oc<|m2 (aS (((((C.wordV%2)==0)&&(decide (2≤C.wordV)))&&(decide (C.wordV≤64)))) 5 G) fun X L p=>ng<|?_
 have q:=aK p n_bc_g l
 refine L0<|aZ q 0<|L0<|Oc<|m3 (bK L) fun Y M r Z=>L0<|Oi (((C.wordsC 1).need ((((C.wordV%2)==0)&&(decide (2≤C.wordV)))&&(decide (C.wordV≤64))) 5).wordV)<|Pl 1<|ng<|?_
 have s:=aK r n_bc_g q
 refine L0<|aZ s 0<|Pl 1<|L0<|Oi (2*(((C.wordsC 1).need ((((C.wordV%2)==0)&&(decide (2≤C.wordV)))&&(decide (C.wordV≤64))) 5).wordV))<|L0<|Oi (2+(2*(((C.wordsC 1).need ((((C.wordV%2)==0)&&(decide (2≤C.wordV)))&&(decide (C.wordV≤64))) 5).wordV)))<|Pl 2<|L0<|Oc<|m2 (aS (((2+(2*(((C.wordsC 1).need ((((C.wordV%2)==0)&&(decide (2≤C.wordV)))&&(decide (C.wordV≤64))) 5).wordV)))==C.wordV)) 5 M) fun a0 N O=>nt<|Rg 7 (fun w'=>w'.cell? ⟨bm,0,none⟩=some (.pointer (some ⟨gm,0,none⟩))∧w'.cell? ⟨bc,0,none⟩=some (.pointer (some ⟨g,0,none⟩))) fun a1 t=>?_
 have u:=aE O t
 have f:=u1 k (u1 p (u1 r u im) im) im
 have v:=aK f n_bm_g hbm
 have y:=aK u n_bc_g s
 refine bg ⟨(au v rfl),(au y rfl)⟩ fun i=>Rl 0 i (fun _ hs=>hs.1)<|Rl 1 i (fun _ hs=>hs.2)<|Rt 2 i<|?_
 refine R0 3 rfl<|Oc<|jc (dm (n:=((C.wordsC 1).need ((((C.wordV%2)==0)&&(decide (2≤C.wordV)))&&(decide (C.wordV≤64))) 5).wordV) (ag.old N t)) fun P Q a2 z a3 a4 R j=>?_
 have A:=aK j n_bm_g v
 have B:=aK j n_bc_g y
 refine bg ⟨(au A rfl),(au B rfl)⟩ fun D=>Rt 4 D<|Rt 5 D<|?_
 have E:=u1 f j im
 have F:=aK E (Ne.symm hne) hm
 refine R0 6 rfl<|bC F 12 (mG c 0 0 0 0 0 0 0 0 0 0 0 (.slice P ((((((C.wordsC 1).need ((((C.wordV%2)==0)&&(decide (2≤C.wordV)))&&(decide (C.wordV≤64))) 5).wordsC 1).need ((2+(2*(((C.wordsC 1).need ((((C.wordV%2)==0)&&(decide (2≤C.wordV)))&&(decide (C.wordV≤64))) 5).wordV)))==C.wordV) 5).wordsR (((C.wordsC 1).need ((((C.wordV%2)==0)&&(decide (2≤C.wordV)))&&(decide (C.wordV≤64))) 5).wordV)).length) Q) nS nS nS 0 0 0 0 0 nS) fun a5 S d=>?_
 refine bg ⟨(au (aK d n_bm_gm A) rfl),(au (aK d n_bc_gm B) rfl)⟩ fun a6=>re<|rm (.tuple #[])<|?_
 have hs:jb c C=((((((C.wordsC 1).need ((((C.wordV%2)==0)&&(decide (2≤C.wordV)))&&(decide (C.wordV≤64))) 5).wordsC 1).need ((2+(2*(((C.wordsC 1).need ((((C.wordV%2)==0)&&(decide (2≤C.wordV)))&&(decide (C.wordV≤64))) 5).wordV)))==C.wordV) 5).wordsC (((C.wordsC 1).need ((((C.wordV%2)==0)&&(decide (2≤C.wordV)))&&(decide (C.wordV≤64))) 5).wordV)),(aU.mk c 0 0 0 0 0 0 0 0 0 0 0 (((((C.wordsC 1).need ((((C.wordV%2)==0)&&(decide (2≤C.wordV)))&&(decide (C.wordV≤64))) 5).wordsC 1).need ((2+(2*(((C.wordsC 1).need ((((C.wordV%2)==0)&&(decide (2≤C.wordV)))&&(decide (C.wordV≤64))) 5).wordV)))==C.wordV) 5).wordsR (((C.wordsC 1).need ((((C.wordV%2)==0)&&(decide (2≤C.wordV)))&&(decide (C.wordV≤64))) 5).wordV)) [] [] [] 0 0 0 0 0 [])):=by
   unfold jb uI tB hG
   (try simp only[bs,if_true,if_false,decide_true,decide_false,reduceIte])
   all_goals rfl
 rw[hs]
 exact⟨rfl,(ag.upd R d (aa hne am) (ah (aG F (by decide)) aA)),⟨_,⟨S,rfl⟩,⟨_,_,_,_,_,rfl,((ax z d (fun x hx=>(aa (fun e=>(ay (ak hm) f.size z) (e▸hx)) am)) (fun _ _ h=>h))).rd,aB.nil ..,aB.nil ..,aB.nil ..,aB.nil ..,(bL (by omega))⟩⟩,(us E d)⟩
open Go.RowKit
theorem oA{g gm:Nat}{C:ai}{w:World}(hC:ag w g C)(hm:w.heap[gm]? = some (.cells (mC 3) 30 (0,0)))(hne:g≠gm) : Calls Tryz.prog 204 #[.int .i64 0,.pointer (some ⟨gm,0,none⟩),.pointer (some ⟨g,0,none⟩)] w (gg (fun W=>bS g gm (bP 125 3 C).1 (bP 125 3 C).2 W) w):=by
 refine en 67 Tryz.func204 rfl<|sg<|L0<|dC #[.pointer (some ⟨gm,0,none⟩)] fun n D f o a=>L0<|dC #[.pointer (some ⟨g,0,none⟩)] fun p E h q b=>Pl 1<|ng<|Pl 1<|L0<|bD #[.nilFunc] fun r F d s t=>L0<|bC s 0 #[.func (.func 236) #[] #[.pointer (some ⟨p,0,none⟩),.pointer (some ⟨n,0,none⟩)]] fun G u v=>nl<|?_
 refine tn<|sg<|Pl 2<|L0<|bD #[.bool false] fun H I x y z=>L0<|bC y 0 #[.bool true] fun J A B=>nt<|sq<|sg<|?_
 have i:=ud z B x
 have j:=ud t (aE v i) d
 have k:=aE b j
 have l:=ub k o
 refine L0<|aZ l 0<|Pl 2<|?_
 have e:=aE a k
 have m:=ub e hm
 refine L0<|aZ m 0<|Pl 1<|nt<|bk<|sg<|L0<|aZ A 0<|Pl 9<|nt<|c1<|sg<|?_
 refine Pl 2<|nt<|rt<|br<|tr<|rr (.func (.func 238) #[] #[.pointer (some ⟨r,0,none⟩)])<|?_
 exact⟨_,_,rfl,by kernel_rfl,e,vJ (c:=3) ⟨by decide,by decide⟩ (ag.old hC e) m hne (ub j q) (Ne.symm (nb (ag.lt hC) a.size h)) (Ne.symm (nb (ak hm) a.size h)) l (Ne.symm (nb (ag.lt hC) lr f)) (Ne.symm (nb (ak hm) lr f)) (ub i u) (Ne.symm (nb (ag.lt hC) (le a.size b.size) d)) (Ne.symm (nb (ak hm) (le a.size b.size) d))⟩
theorem oc{g gm:Nat}{C:ai}{w:World}(hC:ag w g C)(hm:w.heap[gm]? = some (.cells (mC 4) 30 (0,0)))(hne:g≠gm) : Calls Tryz.prog 204 #[.int .i64 0,.pointer (some ⟨gm,0,none⟩),.pointer (some ⟨g,0,none⟩)] w (gg (fun W=>bS g gm (bP 125 4 C).1 (bP 125 4 C).2 W) w):=by
 refine en 67 Tryz.func204 rfl<|sg<|L0<|dC #[.pointer (some ⟨gm,0,none⟩)] fun n D f o a=>L0<|dC #[.pointer (some ⟨g,0,none⟩)] fun p E h q b=>Pl 1<|ng<|Pl 1<|L0<|bD #[.nilFunc] fun r F d s t=>L0<|bC s 0 #[.func (.func 236) #[] #[.pointer (some ⟨p,0,none⟩),.pointer (some ⟨n,0,none⟩)]] fun G u v=>nl<|?_
 refine tn<|sg<|Pl 2<|L0<|bD #[.bool false] fun H I x y z=>L0<|bC y 0 #[.bool true] fun J A B=>nt<|sq<|sg<|?_
 have i:=ud z B x
 have j:=ud t (aE v i) d
 have k:=aE b j
 have l:=ub k o
 refine L0<|aZ l 0<|Pl 2<|?_
 have e:=aE a k
 have m:=ub e hm
 refine L0<|aZ m 0<|Pl 1<|nt<|bk<|sg<|L0<|aZ A 0<|Pl 9<|nt<|c1<|sg<|?_
 refine Pl 2<|nt<|rt<|br<|tr<|rr (.func (.func 238) #[] #[.pointer (some ⟨r,0,none⟩)])<|?_
 exact⟨_,_,rfl,by kernel_rfl,e,vJ (c:=4) ⟨by decide,by decide⟩ (ag.old hC e) m hne (ub j q) (Ne.symm (nb (ag.lt hC) a.size h)) (Ne.symm (nb (ak hm) a.size h)) l (Ne.symm (nb (ag.lt hC) lr f)) (Ne.symm (nb (ak hm) lr f)) (ub i u) (Ne.symm (nb (ag.lt hC) (le a.size b.size) d)) (Ne.symm (nb (ak hm) (le a.size b.size) d))⟩
theorem oa{g gm:Nat}{C:ai}{w:World}(hC:ag w g C)(hm:w.heap[gm]? = some (.cells (mC 3) 30 (0,0)))(hne:g≠gm) : Calls Tryz.prog 204 #[.int .i64 1,.pointer (some ⟨gm,0,none⟩),.pointer (some ⟨g,0,none⟩)] w (gg (fun W=>bS g gm (bX 3 C).1 (bX 3 C).2 W) w):=by
 refine en 67 Tryz.func204 rfl<|sg<|L0<|dC #[.pointer (some ⟨gm,0,none⟩)] fun d z e m a=>L0<|dC #[.pointer (some ⟨g,0,none⟩)] fun f A h n o=>Pl 1<|ng<|Pl 1<|L0<|bD #[.nilFunc] fun B D p q r=>L0<|bC q 0 #[.func (.func 236) #[] #[.pointer (some ⟨f,0,none⟩),.pointer (some ⟨d,0,none⟩)]] fun E F s=>nl<|?_
 refine tn<|sg<|Pl 2<|L0<|bD #[.bool false] fun G H t u v=>L0<|bC u 0 #[.bool false] fun I x y=>nt<|sq<|sg<|?_
 have i:=ud r (aE s (ud v y t)) p
 have j:=aE o i
 have k:=ub j m
 refine L0<|aZ k 0<|Pl 2<|?_
 have b:=aE a j
 have l:=ub b hm
 refine L0<|aZ l 0<|Pl 1<|nt<|bk<|sg<|L0<|aZ x 0<|Pl 9<|nt<|c0<|sq<|sq<|?_
 refine go<|Pl 3<|nt<|c1<|aX<|c1<|sg<|Pl 2<|nt<|rt<|?_
 refine br<|tr<|rr (.func (.func 239) #[] #[.pointer (some ⟨f,0,none⟩),.pointer (some ⟨d,0,none⟩)])<|?_
 exact⟨_,_,rfl,by kernel_rfl,b,ve (c:=3) ⟨by decide,by decide⟩ (ag.old hC b) l hne (ub i n) (Ne.symm (nb (ag.lt hC) a.size h)) (Ne.symm (nb (ak hm) a.size h)) k (Ne.symm (nb (ag.lt hC) lr e)) (Ne.symm (nb (ak hm) lr e))⟩
theorem oW{g gm:Nat}{C:ai}{w:World}(hC:ag w g C)(hm:w.heap[gm]? = some (.cells (mC 4) 30 (0,0)))(hne:g≠gm) : Calls Tryz.prog 204 #[.int .i64 1,.pointer (some ⟨gm,0,none⟩),.pointer (some ⟨g,0,none⟩)] w (gg (fun W=>bS g gm (bX 4 C).1 (bX 4 C).2 W) w):=by
 refine en 67 Tryz.func204 rfl<|sg<|L0<|dC #[.pointer (some ⟨gm,0,none⟩)] fun d z e m a=>L0<|dC #[.pointer (some ⟨g,0,none⟩)] fun f A h n o=>Pl 1<|ng<|Pl 1<|L0<|bD #[.nilFunc] fun B D p q r=>L0<|bC q 0 #[.func (.func 236) #[] #[.pointer (some ⟨f,0,none⟩),.pointer (some ⟨d,0,none⟩)]] fun E F s=>nl<|?_
 refine tn<|sg<|Pl 2<|L0<|bD #[.bool false] fun G H t u v=>L0<|bC u 0 #[.bool false] fun I x y=>nt<|sq<|sg<|?_
 have i:=ud r (aE s (ud v y t)) p
 have j:=aE o i
 have k:=ub j m
 refine L0<|aZ k 0<|Pl 2<|?_
 have b:=aE a j
 have l:=ub b hm
 refine L0<|aZ l 0<|Pl 1<|nt<|bk<|sg<|L0<|aZ x 0<|Pl 9<|nt<|c0<|sq<|sq<|?_
 refine go<|Pl 3<|nt<|c0<|sg<|Pl 3<|nt<|c1<|aX<|c1<|?_
 refine sg<|Pl 2<|nt<|rt<|br<|tr<|rr (.func (.func 239) #[] #[.pointer (some ⟨f,0,none⟩),.pointer (some ⟨d,0,none⟩)])<|?_
 exact⟨_,_,rfl,by kernel_rfl,b,ve (c:=4) ⟨by decide,by decide⟩ (ag.old hC b) l hne (ub i n) (Ne.symm (nb (ag.lt hC) a.size h)) (Ne.symm (nb (ak hm) a.size h)) k (Ne.symm (nb (ag.lt hC) lr e)) (Ne.symm (nb (ak hm) lr e))⟩
theorem ol{g gm:Nat}{C:ai}{w:World}(hC:ag w g C)(hm:w.heap[gm]? = some (.cells (mC 6) 30 (0,0)))(hne:g≠gm) : Calls Tryz.prog 204 #[.int .i64 0,.pointer (some ⟨gm,0,none⟩),.pointer (some ⟨g,0,none⟩)] w (gg (fun W=>bS g gm (d7 6 C).1 (d7 6 C).2 W) w):=by
 refine en 67 Tryz.func204 rfl<|sg<|L0<|dC #[.pointer (some ⟨gm,0,none⟩)] fun d z e m a=>L0<|dC #[.pointer (some ⟨g,0,none⟩)] fun f A h n o=>Pl 1<|ng<|Pl 1<|L0<|bD #[.nilFunc] fun B D p q r=>L0<|bC q 0 #[.func (.func 236) #[] #[.pointer (some ⟨f,0,none⟩),.pointer (some ⟨d,0,none⟩)]] fun E F s=>nl<|?_
 refine tn<|sg<|Pl 2<|L0<|bD #[.bool false] fun G H t u v=>L0<|bC u 0 #[.bool true] fun I x y=>nt<|sq<|sg<|?_
 have i:=ud r (aE s (ud v y t)) p
 have j:=aE o i
 have k:=ub j m
 refine L0<|aZ k 0<|Pl 2<|?_
 have b:=aE a j
 have l:=ub b hm
 refine L0<|aZ l 0<|Pl 1<|nt<|bk<|sg<|L0<|aZ x 0<|Pl 9<|nt<|c0<|sq<|sq<|?_
 refine go<|Pl 3<|nt<|c0<|sg<|Pl 3<|nt<|c0<|go<|Pl 7<|nl<|?_
 refine tn<|c0<|sg<|Pl 3<|nt<|c1<|sg<|Pl 2<|nt<|rt<|?_
 refine br<|tr<|rr (.func (.func 240) #[] #[.pointer (some ⟨f,0,none⟩),.pointer (some ⟨d,0,none⟩)])<|?_
 exact⟨_,_,rfl,by kernel_rfl,b,vB (c:=6) ⟨by decide,by decide⟩ (ag.old hC b) l hne (ub i n) (Ne.symm (nb (ag.lt hC) a.size h)) (Ne.symm (nb (ak hm) a.size h)) k (Ne.symm (nb (ag.lt hC) lr e)) (Ne.symm (nb (ak hm) lr e))⟩
theorem oJ{g gm:Nat}{C:ai}{w:World}(hC:ag w g C)(hm:w.heap[gm]? = some (.cells (mC 6) 30 (0,0)))(hne:g≠gm) : Calls Tryz.prog 204 #[.int .i64 1,.pointer (some ⟨gm,0,none⟩),.pointer (some ⟨g,0,none⟩)] w (gg (fun W=>bS g gm (d7 6 C).1 (d7 6 C).2 W) w):=by
 refine en 67 Tryz.func204 rfl<|sg<|L0<|dC #[.pointer (some ⟨gm,0,none⟩)] fun d z e m a=>L0<|dC #[.pointer (some ⟨g,0,none⟩)] fun f A h n o=>Pl 1<|ng<|Pl 1<|L0<|bD #[.nilFunc] fun B D p q r=>L0<|bC q 0 #[.func (.func 236) #[] #[.pointer (some ⟨f,0,none⟩),.pointer (some ⟨d,0,none⟩)]] fun E F s=>nl<|?_
 refine tn<|sg<|Pl 2<|L0<|bD #[.bool false] fun G H t u v=>L0<|bC u 0 #[.bool false] fun I x y=>nt<|sq<|sg<|?_
 have i:=ud r (aE s (ud v y t)) p
 have j:=aE o i
 have k:=ub j m
 refine L0<|aZ k 0<|Pl 2<|?_
 have b:=aE a j
 have l:=ub b hm
 refine L0<|aZ l 0<|Pl 1<|nt<|bk<|sg<|L0<|aZ x 0<|Pl 9<|nt<|c0<|sq<|sq<|?_
 refine go<|Pl 3<|nt<|c0<|sg<|Pl 3<|nt<|c0<|go<|Pl 7<|nl<|?_
 refine tn<|c0<|sg<|Pl 3<|nt<|c1<|sg<|Pl 2<|nt<|rt<|?_
 refine br<|tr<|rr (.func (.func 240) #[] #[.pointer (some ⟨f,0,none⟩),.pointer (some ⟨d,0,none⟩)])<|?_
 exact⟨_,_,rfl,by kernel_rfl,b,vB (c:=6) ⟨by decide,by decide⟩ (ag.old hC b) l hne (ub i n) (Ne.symm (nb (ag.lt hC) a.size h)) (Ne.symm (nb (ak hm) a.size h)) k (Ne.symm (nb (ag.lt hC) lr e)) (Ne.symm (nb (ak hm) lr e))⟩
theorem mw{g gm:Nat}{C:ai}{w:World}(hC:ag w g C)(hm:w.heap[gm]? = some (.cells (mC 16) 30 (0,0)))(hne:g≠gm) : Calls Tryz.prog 204 #[.int .i64 0,.pointer (some ⟨gm,0,none⟩),.pointer (some ⟨g,0,none⟩)] w (gg (fun W=>bS g gm (cG 16 C).1 (cG 16 C).2 W) w):=by
 refine en 67 Tryz.func204 rfl<|sg<|L0<|dC #[.pointer (some ⟨gm,0,none⟩)] fun j E k t a=>L0<|dC #[.pointer (some ⟨g,0,none⟩)] fun l F m u b=>Pl 1<|ng<|Pl 1<|L0<|bD #[.nilFunc] fun v G d x e=>L0<|bC x 0 #[.func (.func 236) #[] #[.pointer (some ⟨l,0,none⟩),.pointer (some ⟨j,0,none⟩)]] fun H y f=>nl<|?_
 refine tn<|sg<|Pl 2<|L0<|bD #[.bool false] fun z I h A B=>L0<|bC A 0 #[.bool true] fun J n D=>nt<|sq<|sg<|?_
 have o:=ud B D h
 have p:=ud e (aE f o) d
 have q:=aE b p
 have r:=ub q t
 refine L0<|aZ r 0<|Pl 2<|?_
 have i:=aE a q
 have s:=ub i hm
 refine L0<|aZ s 0<|Pl 1<|nt<|bk<|sg<|L0<|aZ n 0<|Pl 9<|nt<|c0<|sq<|sq<|?_
 refine go<|Pl 3<|nt<|c0<|sg<|Pl 3<|nt<|c0<|go<|Pl 7<|nl<|?_
 refine tn<|c0<|sg<|Pl 3<|nt<|c0<|sg<|Pl 3<|nt<|c1<|?_
 refine sg<|Pl 2<|nt<|rt<|br<|tr<|rr (.func (.func 241) #[] #[.pointer (some ⟨v,0,none⟩),.pointer (some ⟨z,0,none⟩),.pointer (some ⟨l,0,none⟩),.pointer (some ⟨j,0,none⟩)])<|?_
 exact⟨_,_,rfl,by kernel_rfl,i,vq (c:=16) ⟨by decide,by decide⟩ (ag.old hC i) s hne (ub p u) (Ne.symm (nb (ag.lt hC) a.size m)) (Ne.symm (nb (ak hm) a.size m)) r (Ne.symm (nb (ag.lt hC) lr k)) (Ne.symm (nb (ak hm) lr k)) (ub o y) (Ne.symm (nb (ag.lt hC) (le a.size b.size) d)) (Ne.symm (nb (ak hm) (le a.size b.size) d)) n (Ne.symm (nb (ag.lt hC) (le (le (le a.size b.size) e.size) f.size) h)) (Ne.symm (nb (ak hm) (le (le (le a.size b.size) e.size) f.size) h)) rfl⟩
theorem mr{g gm:Nat}{C:ai}{w:World}(hC:ag w g C)(hm:w.heap[gm]? = some (.cells (mC 16) 30 (0,0)))(hne:g≠gm) : Calls Tryz.prog 204 #[.int .i64 1,.pointer (some ⟨gm,0,none⟩),.pointer (some ⟨g,0,none⟩)] w (gg (fun W=>bS g gm (bP 123 16 C).1 (bP 123 16 C).2 W) w):=by
 refine en 67 Tryz.func204 rfl<|sg<|L0<|dC #[.pointer (some ⟨gm,0,none⟩)] fun j E k t a=>L0<|dC #[.pointer (some ⟨g,0,none⟩)] fun l F m u b=>Pl 1<|ng<|Pl 1<|L0<|bD #[.nilFunc] fun v G d x e=>L0<|bC x 0 #[.func (.func 236) #[] #[.pointer (some ⟨l,0,none⟩),.pointer (some ⟨j,0,none⟩)]] fun H y f=>nl<|?_
 refine tn<|sg<|Pl 2<|L0<|bD #[.bool false] fun z I h A B=>L0<|bC A 0 #[.bool false] fun J n D=>nt<|sq<|sg<|?_
 have o:=ud B D h
 have p:=ud e (aE f o) d
 have q:=aE b p
 have r:=ub q t
 refine L0<|aZ r 0<|Pl 2<|?_
 have i:=aE a q
 have s:=ub i hm
 refine L0<|aZ s 0<|Pl 1<|nt<|bk<|sg<|L0<|aZ n 0<|Pl 9<|nt<|c0<|sq<|sq<|?_
 refine go<|Pl 3<|nt<|c0<|sg<|Pl 3<|nt<|c0<|go<|Pl 7<|nl<|?_
 refine tn<|c0<|sg<|Pl 3<|nt<|c0<|sg<|Pl 3<|nt<|c1<|?_
 refine sg<|Pl 2<|nt<|rt<|br<|tr<|rr (.func (.func 241) #[] #[.pointer (some ⟨v,0,none⟩),.pointer (some ⟨z,0,none⟩),.pointer (some ⟨l,0,none⟩),.pointer (some ⟨j,0,none⟩)])<|?_
 exact⟨_,_,rfl,by kernel_rfl,i,vj (c:=16) ⟨by decide,by decide⟩ (ag.old hC i) s hne (ub p u) (Ne.symm (nb (ag.lt hC) a.size m)) (Ne.symm (nb (ak hm) a.size m)) r (Ne.symm (nb (ag.lt hC) lr k)) (Ne.symm (nb (ak hm) lr k)) (ub o y) (Ne.symm (nb (ag.lt hC) (le a.size b.size) d)) (Ne.symm (nb (ak hm) (le a.size b.size) d)) n (Ne.symm (nb (ag.lt hC) (le (le (le a.size b.size) e.size) f.size) h)) (Ne.symm (nb (ak hm) (le (le (le a.size b.size) e.size) f.size) h)) rfl⟩
theorem mN{g gm:Nat}{C:ai}{w:World}(hC:ag w g C)(hm:w.heap[gm]? = some (.cells (mC 22) 30 (0,0)))(hne:g≠gm) : Calls Tryz.prog 204 #[.int .i64 0,.pointer (some ⟨gm,0,none⟩),.pointer (some ⟨g,0,none⟩)] w (gg (fun W=>bS g gm (cw 22 C).1 (cw 22 C).2 W) w):=by
 refine en 67 Tryz.func204 rfl<|sg<|L0<|dC #[.pointer (some ⟨gm,0,none⟩)] fun d z e m a=>L0<|dC #[.pointer (some ⟨g,0,none⟩)] fun f A h n o=>Pl 1<|ng<|Pl 1<|L0<|bD #[.nilFunc] fun B D p q r=>L0<|bC q 0 #[.func (.func 236) #[] #[.pointer (some ⟨f,0,none⟩),.pointer (some ⟨d,0,none⟩)]] fun E F s=>nl<|?_
 refine tn<|sg<|Pl 2<|L0<|bD #[.bool false] fun G H t u v=>L0<|bC u 0 #[.bool true] fun I x y=>nt<|sq<|sg<|?_
 have i:=ud r (aE s (ud v y t)) p
 have j:=aE o i
 have k:=ub j m
 refine L0<|aZ k 0<|Pl 2<|?_
 have b:=aE a j
 have l:=ub b hm
 refine L0<|aZ l 0<|Pl 1<|nt<|bk<|sg<|L0<|aZ x 0<|Pl 9<|nt<|c0<|sq<|sq<|?_
 refine go<|Pl 3<|nt<|c0<|sg<|Pl 3<|nt<|c0<|go<|Pl 7<|nl<|?_
 refine tn<|c0<|sg<|Pl 3<|nt<|c0<|sg<|Pl 3<|nt<|c0<|?_
 refine sg<|Pl 3<|nt<|c1<|sg<|Pl 2<|nt<|rt<|br<|tr<|?_
 refine rr (.func (.func 243) #[] #[.pointer (some ⟨f,0,none⟩),.pointer (some ⟨d,0,none⟩)])<|?_
 exact⟨_,_,rfl,by kernel_rfl,b,vA (c:=22) ⟨by decide,by decide⟩ (ag.old hC b) l hne (ub i n) (Ne.symm (nb (ag.lt hC) a.size h)) (Ne.symm (nb (ak hm) a.size h)) k (Ne.symm (nb (ag.lt hC) lr e)) (Ne.symm (nb (ak hm) lr e))⟩
theorem mI{g gm:Nat}{C:ai}{w:World}(hC:ag w g C)(hm:w.heap[gm]? = some (.cells (mC 22) 30 (0,0)))(hne:g≠gm) : Calls Tryz.prog 204 #[.int .i64 1,.pointer (some ⟨gm,0,none⟩),.pointer (some ⟨g,0,none⟩)] w (gg (fun W=>bS g gm (cw 22 C).1 (cw 22 C).2 W) w):=by
 refine en 67 Tryz.func204 rfl<|sg<|L0<|dC #[.pointer (some ⟨gm,0,none⟩)] fun d z e m a=>L0<|dC #[.pointer (some ⟨g,0,none⟩)] fun f A h n o=>Pl 1<|ng<|Pl 1<|L0<|bD #[.nilFunc] fun B D p q r=>L0<|bC q 0 #[.func (.func 236) #[] #[.pointer (some ⟨f,0,none⟩),.pointer (some ⟨d,0,none⟩)]] fun E F s=>nl<|?_
 refine tn<|sg<|Pl 2<|L0<|bD #[.bool false] fun G H t u v=>L0<|bC u 0 #[.bool false] fun I x y=>nt<|sq<|sg<|?_
 have i:=ud r (aE s (ud v y t)) p
 have j:=aE o i
 have k:=ub j m
 refine L0<|aZ k 0<|Pl 2<|?_
 have b:=aE a j
 have l:=ub b hm
 refine L0<|aZ l 0<|Pl 1<|nt<|bk<|sg<|L0<|aZ x 0<|Pl 9<|nt<|c0<|sq<|sq<|?_
 refine go<|Pl 3<|nt<|c0<|sg<|Pl 3<|nt<|c0<|go<|Pl 7<|nl<|?_
 refine tn<|c0<|sg<|Pl 3<|nt<|c0<|sg<|Pl 3<|nt<|c0<|?_
 refine sg<|Pl 3<|nt<|c1<|sg<|Pl 2<|nt<|rt<|br<|tr<|?_
 refine rr (.func (.func 243) #[] #[.pointer (some ⟨f,0,none⟩),.pointer (some ⟨d,0,none⟩)])<|?_
 exact⟨_,_,rfl,by kernel_rfl,b,vA (c:=22) ⟨by decide,by decide⟩ (ag.old hC b) l hne (ub i n) (Ne.symm (nb (ag.lt hC) a.size h)) (Ne.symm (nb (ak hm) a.size h)) k (Ne.symm (nb (ag.lt hC) lr e)) (Ne.symm (nb (ak hm) lr e))⟩
theorem mF{g gm:Nat}{C:ai}{w:World}(hC:ag w g C)(hm:w.heap[gm]? = some (.cells (mC 23) 30 (0,0)))(hne:g≠gm) : Calls Tryz.prog 204 #[.int .i64 0,.pointer (some ⟨gm,0,none⟩),.pointer (some ⟨g,0,none⟩)] w (gg (fun W=>bS g gm (cI 23 C).1 (cI 23 C).2 W) w):=by
 refine en 67 Tryz.func204 rfl<|sg<|L0<|dC #[.pointer (some ⟨gm,0,none⟩)] fun f D h q a=>L0<|dC #[.pointer (some ⟨g,0,none⟩)] fun i E j r b=>Pl 1<|ng<|Pl 1<|L0<|bD #[.nilFunc] fun s F d t u=>L0<|bC t 0 #[.func (.func 236) #[] #[.pointer (some ⟨i,0,none⟩),.pointer (some ⟨f,0,none⟩)]] fun G v x=>nl<|?_
 refine tn<|sg<|Pl 2<|L0<|bD #[.bool false] fun H I y z A=>L0<|bC z 0 #[.bool true] fun J k B=>nt<|sq<|sg<|?_
 have l:=ud A B y
 have m:=ud u (aE x l) d
 have n:=aE b m
 have o:=ub n q
 refine L0<|aZ o 0<|Pl 2<|?_
 have e:=aE a n
 have p:=ub e hm
 refine L0<|aZ p 0<|Pl 1<|nt<|bk<|sg<|L0<|aZ k 0<|Pl 9<|nt<|c0<|sq<|sq<|?_
 refine go<|Pl 3<|nt<|c0<|sg<|Pl 3<|nt<|c0<|go<|Pl 3<|L1<|aZ k 0<|?_
 refine Pl 3<|nt<|c0<|sg<|Pl 3<|nt<|c0<|sg<|Pl 3<|nl<|?_
 refine tn<|c0<|sg<|Pl 3<|nt<|c0<|sg<|Pl 3<|nt<|c1<|?_
 refine sg<|Pl 2<|nt<|rt<|br<|tr<|rr (.func (.func 244) #[] #[.pointer (some ⟨s,0,none⟩),.pointer (some ⟨i,0,none⟩),.pointer (some ⟨f,0,none⟩)])<|?_
 exact⟨_,_,rfl,by kernel_rfl,e,vO (c:=23) ⟨by decide,by decide⟩ (ag.old hC e) p hne (ub m r) (Ne.symm (nb (ag.lt hC) a.size j)) (Ne.symm (nb (ak hm) a.size j)) o (Ne.symm (nb (ag.lt hC) lr h)) (Ne.symm (nb (ak hm) lr h)) (ub l v) (Ne.symm (nb (ag.lt hC) (le a.size b.size) d)) (Ne.symm (nb (ak hm) (le a.size b.size) d))⟩
theorem mt{g gm:Nat}{C:ai}{w:World}(hC:ag w g C)(hm:w.heap[gm]? = some (.cells (mC 23) 30 (0,0)))(hne:g≠gm) : Calls Tryz.prog 204 #[.int .i64 1,.pointer (some ⟨gm,0,none⟩),.pointer (some ⟨g,0,none⟩)] w (gg (fun W=>bS g gm (bX 23 C).1 (bX 23 C).2 W) w):=by
 refine en 67 Tryz.func204 rfl<|sg<|L0<|dC #[.pointer (some ⟨gm,0,none⟩)] fun d z e n a=>L0<|dC #[.pointer (some ⟨g,0,none⟩)] fun f A h o p=>Pl 1<|ng<|Pl 1<|L0<|bD #[.nilFunc] fun B D q r s=>L0<|bC r 0 #[.func (.func 236) #[] #[.pointer (some ⟨f,0,none⟩),.pointer (some ⟨d,0,none⟩)]] fun E F t=>nl<|?_
 refine tn<|sg<|Pl 2<|L0<|bD #[.bool false] fun G H u v x=>L0<|bC v 0 #[.bool false] fun I i y=>nt<|sq<|sg<|?_
 have j:=ud s (aE t (ud x y u)) q
 have k:=aE p j
 have l:=ub k n
 refine L0<|aZ l 0<|Pl 2<|?_
 have b:=aE a k
 have m:=ub b hm
 refine L0<|aZ m 0<|Pl 1<|nt<|bk<|sg<|L0<|aZ i 0<|Pl 9<|nt<|c0<|sq<|sq<|?_
 refine go<|Pl 3<|nt<|c0<|sg<|Pl 3<|nt<|c0<|go<|Pl 3<|L1<|aZ i 0<|?_
 refine Pl 3<|nt<|c1<|sg<|Pl 2<|nt<|rt<|br<|tr<|rr (.func (.func 239) #[] #[.pointer (some ⟨f,0,none⟩),.pointer (some ⟨d,0,none⟩)])<|?_
 exact⟨_,_,rfl,by kernel_rfl,b,ve (c:=23) ⟨by decide,by decide⟩ (ag.old hC b) m hne (ub j o) (Ne.symm (nb (ag.lt hC) a.size h)) (Ne.symm (nb (ak hm) a.size h)) l (Ne.symm (nb (ag.lt hC) lr e)) (Ne.symm (nb (ak hm) lr e))⟩
theorem mH{g gm:Nat}{C:ai}{w:World}(hC:ag w g C)(hm:w.heap[gm]? = some (.cells (mC 24) 30 (0,0)))(hne:g≠gm) : Calls Tryz.prog 204 #[.int .i64 0,.pointer (some ⟨gm,0,none⟩),.pointer (some ⟨g,0,none⟩)] w (gg (fun W=>bS g gm (cJ 24 C).1 (cJ 24 C).2 W) w):=by
 refine en 67 Tryz.func204 rfl<|sg<|L0<|dC #[.pointer (some ⟨gm,0,none⟩)] fun d z e n a=>L0<|dC #[.pointer (some ⟨g,0,none⟩)] fun f A h o p=>Pl 1<|ng<|Pl 1<|L0<|bD #[.nilFunc] fun B D q r s=>L0<|bC r 0 #[.func (.func 236) #[] #[.pointer (some ⟨f,0,none⟩),.pointer (some ⟨d,0,none⟩)]] fun E F t=>nl<|?_
 refine tn<|sg<|Pl 2<|L0<|bD #[.bool false] fun G H u v x=>L0<|bC v 0 #[.bool true] fun I i y=>nt<|sq<|sg<|?_
 have j:=ud s (aE t (ud x y u)) q
 have k:=aE p j
 have l:=ub k n
 refine L0<|aZ l 0<|Pl 2<|?_
 have b:=aE a k
 have m:=ub b hm
 refine L0<|aZ m 0<|Pl 1<|nt<|bk<|sg<|L0<|aZ i 0<|Pl 9<|nt<|c0<|sq<|sq<|?_
 refine go<|Pl 3<|nt<|c0<|sg<|Pl 3<|nt<|c0<|go<|Pl 7<|nl<|?_
 refine tn<|c0<|sg<|Pl 3<|nt<|c0<|sg<|Pl 3<|nt<|c0<|?_
 refine sg<|Pl 3<|nt<|c0<|sg<|Pl 3<|nt<|c0<|sg<|?_
 refine Pl 3<|L1<|aZ i 0<|Pl 2<|nt<|c1<|sg<|Pl 2<|nt<|rt<|br<|tr<|?_
 refine rr (.func (.func 245) #[] #[.pointer (some ⟨f,0,none⟩),.pointer (some ⟨d,0,none⟩)])<|?_
 exact⟨_,_,rfl,by kernel_rfl,b,vZ (c:=24) ⟨by decide,by decide⟩ (ag.old hC b) m hne (ub j o) (Ne.symm (nb (ag.lt hC) a.size h)) (Ne.symm (nb (ak hm) a.size h)) l (Ne.symm (nb (ag.lt hC) lr e)) (Ne.symm (nb (ak hm) lr e))⟩
theorem mP{g gm:Nat}{C:ai}{w:World}(hC:ag w g C)(hm:w.heap[gm]? = some (.cells (mC 24) 30 (0,0)))(hne:g≠gm) : Calls Tryz.prog 204 #[.int .i64 1,.pointer (some ⟨gm,0,none⟩),.pointer (some ⟨g,0,none⟩)] w (gg (fun W=>bS g gm (jb 24 C).1 (jb 24 C).2 W) w):=by
 refine en 67 Tryz.func204 rfl<|sg<|L0<|dC #[.pointer (some ⟨gm,0,none⟩)] fun d z e n a=>L0<|dC #[.pointer (some ⟨g,0,none⟩)] fun f A h o p=>Pl 1<|ng<|Pl 1<|L0<|bD #[.nilFunc] fun B D q r s=>L0<|bC r 0 #[.func (.func 236) #[] #[.pointer (some ⟨f,0,none⟩),.pointer (some ⟨d,0,none⟩)]] fun E F t=>nl<|?_
 refine tn<|sg<|Pl 2<|L0<|bD #[.bool false] fun G H u v x=>L0<|bC v 0 #[.bool false] fun I i y=>nt<|sq<|sg<|?_
 have j:=ud s (aE t (ud x y u)) q
 have k:=aE p j
 have l:=ub k n
 refine L0<|aZ l 0<|Pl 2<|?_
 have b:=aE a k
 have m:=ub b hm
 refine L0<|aZ m 0<|Pl 1<|nt<|bk<|sg<|L0<|aZ i 0<|Pl 9<|nt<|c0<|sq<|sq<|?_
 refine go<|Pl 3<|nt<|c0<|sg<|Pl 3<|nt<|c0<|go<|Pl 7<|nl<|?_
 refine tn<|c0<|sg<|Pl 3<|nt<|c0<|sg<|Pl 3<|nt<|c0<|?_
 refine sg<|Pl 3<|nt<|c0<|sg<|Pl 3<|nt<|c0<|sg<|?_
 refine Pl 3<|L1<|aZ i 0<|Pl 2<|nt<|c0<|sg<|Pl 3<|nt<|c1<|sg<|?_
 refine Pl 2<|nt<|rt<|br<|tr<|rr (.func (.func 246) #[] #[.pointer (some ⟨f,0,none⟩),.pointer (some ⟨d,0,none⟩)])<|?_
 exact⟨_,_,rfl,by kernel_rfl,b,vX (c:=24) ⟨by decide,by decide⟩ (ag.old hC b) m hne (ub j o) (Ne.symm (nb (ag.lt hC) a.size h)) (Ne.symm (nb (ak hm) a.size h)) l (Ne.symm (nb (ag.lt hC) lr e)) (Ne.symm (nb (ak hm) lr e))⟩
theorem mg{c:Int}{g gm:Nat}{C:ai}{w:World}(hC:ag w g C)(hm:w.heap[gm]? = some (.cells (mC c) 30 (0,0)))(hne:g≠gm)(k3:(c==3)=false)(k4:(c==4)=false)(k6:(c==6)=false)(f:(c==16)=false)(h:(c==22)=false)(a:(c==23)=false)(b:(c==24)=false) : Calls Tryz.prog 204 #[.int .i64 0,.pointer (some ⟨gm,0,none⟩),.pointer (some ⟨g,0,none⟩)] w (c8 .nilFunc w):=by
 refine en 67 Tryz.func204 rfl<|sg<|L0<|dC #[.pointer (some ⟨gm,0,none⟩)] fun i x y j k=>L0<|dC #[.pointer (some ⟨g,0,none⟩)] fun l z A B m=>Pl 1<|ng<|Pl 1<|L0<|bD #[.nilFunc] fun D E n o p=>L0<|bC o 0 #[.func (.func 236) #[] #[.pointer (some ⟨l,0,none⟩),.pointer (some ⟨i,0,none⟩)]] fun F G q=>nl<|?_
 refine tn<|sg<|Pl 2<|L0<|bD #[.bool false] fun H I r s t=>L0<|bC s 0 #[.bool true] fun J u v=>nt<|sq<|sg<|?_
 have d:=aE m (ud p (aE q (ud t v r)) n)
 refine L0<|aZ (ub d j) 0<|Pl 2<|?_
 have e:=aE k d
 refine L0<|aZ (ub e hm) 0<|Pl 1<|nt<|bk<|sg<|L0<|aZ u 0<|Pl 4<|sy 22 k3<|Pl 5<|nt<|cf k4<|?_
 refine sq<|sg<|Pl 3<|nt<|cf k3<|sg<|Pl 3<|nt<|cf k4<|go<|?_
 refine Pl 3<|sy 35 a<|Pl 4<|nt<|c0<|sg<|Pl 3<|nt<|cf k6<|sg<|?_
 refine Pl 3<|nt<|cf f<|sg<|Pl 3<|nt<|cf h<|sg<|Pl 3<|nl<|?_
 refine tn<|cf a<|sg<|Pl 3<|sy 59 b<|Pl 3<|nt<|c0<|sg<|Pl 3<|nl<|?_
 refine tn<|cf b<|sk<|bn<|tn<|sg<|Pl 1<|nt<|rt<|rr (.nilFunc)<|?_
 exact⟨rfl,e⟩
theorem md{c:Int}{g gm:Nat}{C:ai}{w:World}(hC:ag w g C)(hm:w.heap[gm]? = some (.cells (mC c) 30 (0,0)))(hne:g≠gm)(k3:(c==3)=false)(k4:(c==4)=false)(k6:(c==6)=false)(f:(c==16)=false)(h:(c==22)=false)(a:(c==23)=false)(b:(c==24)=false) : Calls Tryz.prog 204 #[.int .i64 1,.pointer (some ⟨gm,0,none⟩),.pointer (some ⟨g,0,none⟩)] w (c8 .nilFunc w):=by
 refine en 67 Tryz.func204 rfl<|sg<|L0<|dC #[.pointer (some ⟨gm,0,none⟩)] fun i x y j k=>L0<|dC #[.pointer (some ⟨g,0,none⟩)] fun l z A B m=>Pl 1<|ng<|Pl 1<|L0<|bD #[.nilFunc] fun D E n o p=>L0<|bC o 0 #[.func (.func 236) #[] #[.pointer (some ⟨l,0,none⟩),.pointer (some ⟨i,0,none⟩)]] fun F G q=>nl<|?_
 refine tn<|sg<|Pl 2<|L0<|bD #[.bool false] fun H I r s t=>L0<|bC s 0 #[.bool false] fun J u v=>nt<|sq<|sg<|?_
 have d:=aE m (ud p (aE q (ud t v r)) n)
 refine L0<|aZ (ub d j) 0<|Pl 2<|?_
 have e:=aE k d
 refine L0<|aZ (ub e hm) 0<|Pl 1<|nt<|bk<|sg<|L0<|aZ u 0<|Pl 9<|nt<|c0<|sq<|sq<|?_
 refine go<|Pl 3<|nt<|cf k3<|sg<|Pl 3<|nt<|cf k4<|go<|Pl 3<|sy 35 a<|?_
 refine Pl 4<|nt<|c0<|sg<|Pl 3<|nt<|cf k6<|sg<|Pl 3<|nl<|?_
 refine tn<|cf f<|sg<|Pl 3<|nt<|cf h<|sg<|Pl 3<|nt<|cf a<|?_
 refine sg<|Pl 3<|sy 59 b<|Pl 3<|nt<|c0<|sg<|Pl 3<|nt<|cf b<|?_
 refine sk<|bn<|tn<|sg<|Pl 1<|nt<|rt<|rr (.nilFunc)<|?_
 exact⟨rfl,e⟩
theorem j7{dir c:Int}{r:ai × aU}{g gm:Nat}{C:ai}{w:World}(hC:ag w g C)(hm:w.heap[gm]? = some (.cells (mC c) 30 (0,0)))(hne:g≠gm)(hd:dir=0∨dir=1)(h:aH dir c C=some r) : Calls Tryz.prog 204 #[.int .i64 dir,.pointer (some ⟨gm,0,none⟩),.pointer (some ⟨g,0,none⟩)] w (gg (fun W=>bS g gm r.1 r.2 W) w):=by
  by_cases h3:c=3
  · subst h3
    rcases hd with rfl|rfl
    · obtain rfl:bP 125 3 C=r:=Option.some.inj h
      exact oA hC hm hne
    · obtain rfl:bX 3 C=r:=Option.some.inj h
      exact oa hC hm hne
  by_cases h4:c=4
  · subst h4
    rcases hd with rfl|rfl
    · obtain rfl:bP 125 4 C=r:=Option.some.inj h
      exact oc hC hm hne
    · obtain rfl:bX 4 C=r:=Option.some.inj h
      exact oW hC hm hne
  by_cases h6:c=6
  · subst h6
    rcases hd with rfl|rfl
    · obtain rfl:d7 6 C=r:=Option.some.inj h
      exact ol hC hm hne
    · obtain rfl:d7 6 C=r:=Option.some.inj h
      exact oJ hC hm hne
  by_cases a:c=16
  · subst a
    rcases hd with rfl|rfl
    · obtain rfl:cG 16 C=r:=Option.some.inj h
      exact mw hC hm hne
    · obtain rfl:bP 123 16 C=r:=Option.some.inj h
      exact mr hC hm hne
  by_cases b:c=22
  · subst b
    rcases hd with rfl|rfl
    · obtain rfl:cw 22 C=r:=Option.some.inj h
      exact mN hC hm hne
    · obtain rfl:cw 22 C=r:=Option.some.inj h
      exact mI hC hm hne
  by_cases d:c=23
  · subst d
    rcases hd with rfl|rfl
    · obtain rfl:cI 23 C=r:=Option.some.inj h
      exact mF hC hm hne
    · obtain rfl:bX 23 C=r:=Option.some.inj h
      exact mt hC hm hne
  by_cases e:c=24
  · subst e
    rcases hd with rfl|rfl
    · obtain rfl:cJ 24 C=r:=Option.some.inj h
      exact mH hC hm hne
    · obtain rfl:jb 24 C=r:=Option.some.inj h
      exact mP hC hm hne
  exfalso
  unfold aH at h
  simp[h3,h4,h6,a,b,d,e] at h
theorem iI{dir c:Int}{g gm:Nat}{C:ai}{w:World}(hC:ag w g C)(hm:w.heap[gm]? = some (.cells (mC c) 30 (0,0)))(hne:g≠gm)(hd:dir=0∨dir=1)(h:aH dir c C=none) : Calls Tryz.prog 204 #[.int .i64 dir,.pointer (some ⟨gm,0,none⟩),.pointer (some ⟨g,0,none⟩)] w (c8 .nilFunc w):=by
  have k3:(c==3)=false:=by
    cases hk:(c==3)
    · rfl
    · obtain rfl:c=3:=by simpa using hk
      rcases hd with rfl|rfl<;>cases h
  have k4:(c==4)=false:=by
    cases hk:(c==4)
    · rfl
    · obtain rfl:c=4:=by simpa using hk
      rcases hd with rfl|rfl<;>cases h
  have k6:(c==6)=false:=by
    cases hk:(c==6)
    · rfl
    · obtain rfl:c=6:=by simpa using hk
      rcases hd with rfl|rfl<;>cases h
  have a:(c==16)=false:=by
    cases hk:(c==16)
    · rfl
    · obtain rfl:c=16:=by simpa using hk
      rcases hd with rfl|rfl<;>cases h
  have b:(c==22)=false:=by
    cases hk:(c==22)
    · rfl
    · obtain rfl:c=22:=by simpa using hk
      rcases hd with rfl|rfl<;>cases h
  have d:(c==23)=false:=by
    cases hk:(c==23)
    · rfl
    · obtain rfl:c=23:=by simpa using hk
      rcases hd with rfl|rfl<;>cases h
  have e:(c==24)=false:=by
    cases hk:(c==24)
    · rfl
    · obtain rfl:c=24:=by simpa using hk
      rcases hd with rfl|rfl<;>cases h
  rcases hd with rfl|rfl
  · exact mg hC hm hne k3 k4 k6 a b d e
  · exact md hC hm hne k3 k4 k6 a b d e
open Go.RowKit
theorem kN{m:Md}{A:Option Addr}{cp:Nat}{b:List Int}{w:World}{c:Int}(hcode:B8 c)(hsl:aQ m w (.slice A b.length cp) b)(hb:b.length≤1048576) :
    Calls Tryz.prog 140 #[.int .i64 0,.int .u8 c,.slice A b.length cp] w (dx (aj aH 0 c b) w):=by
 obtain⟨hcode1,hcode2⟩:=hcode
 have hln:(b.length:Int)≤1048576:=by omega
 refine en 40 Tryz.func140 rfl<|sg<|L0<|bD mZ fun U V k i v=>Pl 1<|nt<|sq<|sg<|Pl 6<|nt<|c0<|?_
 refine aX<|sg<|Pl 2<|L0<|bD mZ fun W X g l K=>L0<|aT l (mC c) fun Y x n=>ng<|Pl 1<|?_
 have h:=ud K n g
 have o:=aE v h
 refine L0<|Oc<|e3 (di (aQ.old hsl o) (by omega)) fun Z a0 d y a=>Pl 1<|ng<|Pl 2<|?_
 have z:=aE o a
 refine wo (aH 0 c ⟨b,false,0⟩) (fun hr=>?_) (fun r hr=>?_)
 refine L0<|Oc<|m1 (iI (dir:=0) (c:=c) y (ub a x) (Ne.symm (nb (ak l) n.size d)) (Or.inl rfl) hr) fun a1 B=>Pl 1<|nt<|sq<|sg<|Pl 2<|nt<|c1<|sg<|Pl 1<|?_
 refine L0<|aT (ub (aE h (aE a B)) i) mZ fun a2 L M=>Pl 1<|nt<|rt<|tr<|bu L (.int .i64 4)<|?_
 have hs:aj aH 0 c b=(aU.zero,4):=by
   unfold aj
   (try simp only[bs,if_true,if_false,decide_true,decide_false,eq_self,true_or,or_true,or_false,false_or,if_true,if_false,cP,cO,cN,cR,reduceIte,hr])
   all_goals rfl
 rw[hs]
 exact bT (ud z (uz B M) k)
 have C:=nb (ak l) n.size d
 refine L0<|Oc<|m7 (j7 (dir:=0) (c:=c) y (ub a x) (Ne.symm C) (Or.inl rfl) hr) fun N D a3 O E hcall51=>Pl 1<|nt<|sq<|sg<|Pl 2<|nt<|c0<|aX<|sq<|?_
 refine go<|Pl 1<|L0<|gH (f:=N) (args:=D) (hf:=O) #[] D<|m3 (hcall51) fun a4 F P G=>?_
 obtain⟨Q,j,p⟩:=P
 refine ng<|Pl 1<|L0<|Oc<|m2 (bM F) fun a5 H q=>nt<|sq<|sg<|Pl 1<|L0<|Oc<|mq (bp H)<|?_
 have a6:=ag.len H
 refine Pl 1<|ng<|Pl 2<|nt<|?_
 have s:=uz E (u1 G q im)
 have I:=ut z s (ac (ni o.size d) (ac (ni v.size g) av))
 have hs:aj aH 0 c b=aP r.2 r.1:=by
   unfold aj
   (try simp only[bs,if_true,if_false,decide_true,decide_false,eq_self,true_or,or_true,or_false,false_or,if_true,if_false,cP,cO,cN,cR,reduceIte,hr])
   all_goals rfl
 refine cb ((r.1.endC.e != 0)) (fun t=>?_) (fun t=>?_)
 have u:=al t
 refine sg<|Pl 2<|?_
 refine L0<|aT (ub (ud h (ud a s d) g) i) mZ fun a7 R S=>Pl 1<|nt<|rt<|tr<|bu R (.int .i64 r.1.endC.e)<|?_
 rw[hs]
 exact bh u (ud I S k)
 have u:=ae t
 refine aX<|sg<|?_
 refine L0<|bV (hz:=(by rw[j.2];exact aN)) (aK q C j.1)<|?_
 refine L0<|aT (hz:=(by rw[j.2];exact aN)) (hv:=p.size) (h1:=p.one) (ub (ud h (ud a s d) g) i) (Q) fun a8 T J=>Pl 1<|nt<|rt<|dG 22 j.2 T (.int .i64 0)<|?_
 rw[hs]
 exact bt u (bq.upd p (us q J) (ah (ag.safe F _ (by decide)) (ah (aG (ub (ud h (ud a (uz E G) d) g) i) (by decide)) aA))) (ud I J k)
theorem kc{m:Md}{A:Option Addr}{cp:Nat}{b:List Int}{w:World}{c:Int}(hcode:B8 c)(hsl:aQ m w (.slice A b.length cp) b)(hb:b.length≤1048576) :
    Calls Tryz.prog 140 #[.int .i64 1,.int .u8 c,.slice A b.length cp] w (dx (aj aH 1 c b) w):=by
 obtain⟨hcode1,hcode2⟩:=hcode
 have hln:(b.length:Int)≤1048576:=by omega
 refine en 40 Tryz.func140 rfl<|sg<|L0<|bD mZ fun U V k i v=>Pl 1<|nt<|sq<|sg<|Pl 6<|nt<|c0<|?_
 refine aX<|sg<|Pl 2<|L0<|bD mZ fun W X g l K=>L0<|aT l (mC c) fun Y x n=>ng<|Pl 1<|?_
 have h:=ud K n g
 have o:=aE v h
 refine L0<|Oc<|e3 (di (aQ.old hsl o) (by omega)) fun Z a0 d y a=>Pl 1<|ng<|Pl 2<|?_
 have z:=aE o a
 refine wo (aH 1 c ⟨b,false,0⟩) (fun hr=>?_) (fun r hr=>?_)
 refine L0<|Oc<|m1 (iI (dir:=1) (c:=c) y (ub a x) (Ne.symm (nb (ak l) n.size d)) (Or.inr rfl) hr) fun a1 B=>Pl 1<|nt<|sq<|sg<|Pl 2<|nt<|c1<|sg<|Pl 1<|?_
 refine L0<|aT (ub (aE h (aE a B)) i) mZ fun a2 L M=>Pl 1<|nt<|rt<|tr<|bu L (.int .i64 4)<|?_
 have hs:aj aH 1 c b=(aU.zero,4):=by
   unfold aj
   (try simp only[bs,if_true,if_false,decide_true,decide_false,eq_self,true_or,or_true,or_false,false_or,if_true,if_false,cP,cO,cN,cR,reduceIte,hr])
   all_goals rfl
 rw[hs]
 exact bT (ud z (uz B M) k)
 have C:=nb (ak l) n.size d
 refine L0<|Oc<|m7 (j7 (dir:=1) (c:=c) y (ub a x) (Ne.symm C) (Or.inr rfl) hr) fun N D a3 O E hcall51=>Pl 1<|nt<|sq<|sg<|Pl 2<|nt<|c0<|aX<|sq<|?_
 refine go<|Pl 1<|L0<|gH (f:=N) (args:=D) (hf:=O) #[] D<|m3 (hcall51) fun a4 F P G=>?_
 obtain⟨Q,j,p⟩:=P
 refine ng<|Pl 1<|L0<|Oc<|m2 (bM F) fun a5 H q=>nt<|sq<|sg<|Pl 1<|L0<|Oc<|mq (bp H)<|?_
 have a6:=ag.len H
 refine Pl 1<|ng<|Pl 2<|nt<|?_
 have s:=uz E (u1 G q im)
 have I:=ut z s (ac (ni o.size d) (ac (ni v.size g) av))
 have hs:aj aH 1 c b=aP r.2 r.1:=by
   unfold aj
   (try simp only[bs,if_true,if_false,decide_true,decide_false,eq_self,true_or,or_true,or_false,false_or,if_true,if_false,cP,cO,cN,cR,reduceIte,hr])
   all_goals rfl
 refine cb ((r.1.endC.e != 0)) (fun t=>?_) (fun t=>?_)
 have u:=al t
 refine sg<|Pl 2<|?_
 refine L0<|aT (ub (ud h (ud a s d) g) i) mZ fun a7 R S=>Pl 1<|nt<|rt<|tr<|bu R (.int .i64 r.1.endC.e)<|?_
 rw[hs]
 exact bh u (ud I S k)
 have u:=ae t
 refine aX<|sg<|?_
 refine L0<|bV (hz:=(by rw[j.2];exact aN)) (aK q C j.1)<|?_
 refine L0<|aT (hz:=(by rw[j.2];exact aN)) (hv:=p.size) (h1:=p.one) (ub (ud h (ud a s d) g) i) (Q) fun a8 T J=>Pl 1<|nt<|rt<|dG 22 j.2 T (.int .i64 0)<|?_
 rw[hs]
 exact bt u (bq.upd p (us q J) (ah (ag.safe F _ (by decide)) (ah (aG (ub (ud h (ud a (uz E G) d) g) i) (by decide)) aA))) (ud I J k)
theorem k9{m:Md}{A:Option Addr}{cp:Nat}{b:List Int}{w:World}{dir c:Int}(hcode:B8 c)(hsl:aQ m w (.slice A b.length cp) b)(hb:b.length≤1048576)(hd:¬ (dir=0∨dir=1)) :
    Calls Tryz.prog 140 #[.int .i64 dir,.int .u8 c,.slice A b.length cp] w (dx (aj aH dir c b) w):=by
 obtain⟨hcode1,hcode2⟩:=hcode
 have hln:(b.length:Int)≤1048576:=by omega
 have e0:(dir != 0)=true:=by simp;omega
 have e1:(dir != 1)=true:=by simp;omega
 refine en 40 Tryz.func140 rfl<|sg<|L0<|bD mZ fun g h a d e=>Pl 1<|nt<|sq<|sg<|Pl 3<|sy 14 e0<|Pl 3<|nl<|?_
 refine tn<|ct e1<|sg<|Pl 1<|L0<|aT d mZ fun i dF f=>Pl 1<|nt<|rt<|tr<|bu dF (.int .i64 1)<|?_
 have hs:aj aH dir c b=(aU.zero,1):=by
   unfold aj aH
   (try simp only[e0,e1,bs,if_true,if_false,decide_true,decide_false,eq_self,true_or,or_true,or_false,false_or,if_true,if_false,cP,cO,cN,cR,reduceIte,hd])
   all_goals rfl
 rw[hs]
 exact bT (ud e f a)
theorem mV{m:Md}{v:Value}{b:List Int}{w:World}{dir c:Int}(hc:B8 c)(h:aQ m w v b)(hb:b.length≤1048576) :
    Calls Tryz.prog 140 #[.int .i64 dir,.int .u8 c,v] w (dx (aj aH dir c b) w):=by
  obtain⟨A,cp,rfl,_,_⟩:=h.shape
  by_cases h0:dir=0
  · subst h0;exact kN hc h hb
  by_cases h1:dir=1
  · subst h1;exact kc hc h hb
  exact k9 hc h hb (by omega)
open Go.RowKit
theorem iK{most:Int}{g gm:Nat}{c:Int}{C:ai}{w:World}(hcode:B8 c)(hC:ag w g C)(hm:w.heap[gm]? = some (.cells (mC c) 30 (0,0)))(hne:g≠gm) :
    Calls Tryz.prog 232 #[.agg #[.pointer (some ⟨g,0,none⟩),.pointer (some ⟨gm,0,none⟩)],.int .u16 most] w (nd g gm (bo C most) (mG c 0 C.wordV (C.wordsC 1).wordV 0 0 0 0 0 0 0 0 nS nS nS nS 0 0 0 0 0 nS) w):=by
 obtain⟨hcode1,hcode2⟩:=hcode
 have hlen:=hC.len
 refine en 51 Tryz.func232 rfl<|sg<|L0<|dC #[.pointer (some ⟨g,0,none⟩),.pointer (some ⟨gm,0,none⟩)] fun f an P a7 a8=>nt<|sq<|Rg 8 (fun w'=>w'.cell? ⟨f,1,none⟩=some (.pointer (some ⟨gm,0,none⟩))∧w'.cell? ⟨f,0,none⟩=some (.pointer (some ⟨g,0,none⟩))) fun ao Q=>?_
 have t:=ub Q a7
 refine bg ⟨(au t rfl),(au t rfl)⟩ fun o=>Rt 0 o<|Rl 1 o (fun _ hs=>hs.1)<|Rt 2 o<|Rl 3 o (fun _ hs=>hs.2)<|?_
 have R:=aE a8 Q
 refine R0 4 rfl<|Oc<|m3 (bK (ag.old hC R)) fun ap a9 S aq=>?_
 have h:=nb (ag.lt hC) lr P
 have u:=aK S (Ne.symm h) t
 refine bg ⟨(au u rfl),(au u rfl)⟩ fun T=>Rt 5 T<|Rt 6 T<|?_
 have U:=uz R S
 have V:=aK U (Ne.symm hne) hm
 refine R0 7 rfl<|bC V 2 (mG c 0 C.wordV 0 0 0 0 0 0 0 0 0 nS nS nS nS 0 0 0 0 0 nS) fun ar ab W=>?_
 have X:=nb (ak hm) lr P
 have v:=aK W (Ne.symm X) u
 refine bg ⟨(au v rfl),(au v rfl)⟩ fun av=>re<|tn<|sq<|Rg 8 (fun w'=>w'.cell? ⟨f,1,none⟩=some (.pointer (some ⟨gm,0,none⟩))∧w'.cell? ⟨f,0,none⟩=some (.pointer (some ⟨g,0,none⟩))) fun aw x=>?_
 have y:=ub x v
 refine bg ⟨(au y rfl),(au y rfl)⟩ fun p=>Rt 0 p<|Rl 1 p (fun _ hs=>hs.1)<|Rt 2 p<|Rl 3 p (fun _ hs=>hs.2)<|?_
 have Y:=aE W x
 refine R0 4 rfl<|Oc<|m3 (bK (ag.upd a9 Y (aa hne am) (ah (aG V (by decide)) aA))) fun ax Z z ay=>?_
 have A:=aK z (Ne.symm h) y
 refine bg ⟨(au A rfl),(au A rfl)⟩ fun a0=>Rt 5 a0<|Rt 6 a0<|?_
 have B:=aK (uz x z) (Ne.symm hne) ab
 refine R0 7 rfl<|bC B 3 (mG c 0 C.wordV ((C.wordsC 1).wordV) 0 0 0 0 0 0 0 0 nS nS nS nS 0 0 0 0 0 nS) fun az ac a1=>?_
 have D:=aK a1 (Ne.symm X) A
 refine bg ⟨(au D rfl),(au D rfl)⟩ fun aB=>re<|tn<|sq<|Rg 18 (fun w'=>w'.cell? ⟨f,0,none⟩=some (.pointer (some ⟨g,0,none⟩))∧w'.cell? ⟨f,1,none⟩=some (.pointer (some ⟨gm,0,none⟩))∧w'.cell? ⟨gm,3,none⟩=some (.int .u16 ((C.wordsC 1).wordV))) fun aC E=>?_
 have q:=ub E D
 have F:=ub E ac
 refine bg ⟨(au q rfl),(au q rfl),(au F rfl)⟩ fun b=>Rt 0 b<|Rl 1 b (fun _ hs=>hs.1)<|Rt 2 b<|Rl 3 b (fun _ hs=>hs.2.1)<|Rt 4 b<|Rt 5 b<|Rl 6 b (fun _ hs=>hs.2.2)<|Rt 7 b<|Rt 8 b<|?_
 have G:=aE a1 E
 have a2:=ui U (ui Y (us z G))
 refine sG 26 ((decide (1≤((C.wordsC 1).wordV)))) (fun i=>?_) (fun i=>?_)
 have ad:=of_decide_eq_true i
 refine Rt 9 b<|Rl 10 b (fun _ hs=>hs.2.1)<|Rt 11 b<|Rt 12 b<|Rl 13 b (fun _ hs=>hs.2.2)<|Rt 14 b<|Rt 15 b<|Rt 16 b<|?_
 refine R0 17 rfl<|Oc<|m2 (aS ((decide (((C.wordsC 1).wordV)≤most))) 5 (ag.upd Z G (aa hne am) (ah (aG B (by decide)) aA))) fun aD ae H=>?_
 have I:=aK H (Ne.symm h) q
 have a3:=aK H (Ne.symm hne) F
 refine bg ⟨(au I rfl),(au I rfl),(au a3 rfl)⟩ fun aF=>re<|tn<|Rg 15 (fun w'=>w'.cell? ⟨f,0,none⟩=some (.pointer (some ⟨g,0,none⟩))∧w'.cell? ⟨f,1,none⟩=some (.pointer (some ⟨gm,0,none⟩))∧w'.cell? ⟨gm,2,none⟩=some (.int .u16 C.wordV)∧w'.cell? ⟨gm,3,none⟩=some (.int .u16 ((C.wordsC 1).wordV))) fun aH r=>?_
 have j:=ub r I
 have k:=ub r a3
 refine bg ⟨(au j rfl),(au j rfl),(au k rfl),(au k rfl)⟩ fun d=>Rt 0 d<|Rl 1 d (fun _ hs=>hs.1)<|Rt 2 d<|Rl 3 d (fun _ hs=>hs.2.1)<|Rt 4 d<|Rt 5 d<|Rl 6 d (fun _ hs=>hs.2.2.1)<|Rt 7 d<|Rl 8 d (fun _ hs=>hs.2.1)<|Rt 9 d<|Rt 10 d<|Rl 11 d (fun _ hs=>hs.2.2.2)<|Rr 12 d (.int .i64 ((C.wordsC 1).wordV)) (fun _ _=>ck (.int .i64 (IntKind.i64.wrap ((C.wordsC 1).wordV))) (by kernel_rfl) (congrArg (Value.int .i64) (i64_in (by omega))))<|?_
 refine R0 13 rfl<|Oc<|mq (g7 (a:=C.wordV) (n:=(C.wordsC 1).wordV) (by omega))<|bg ⟨(au j rfl),(au j rfl),(au k rfl),(au k rfl)⟩ fun aI=>?_
 refine R0 14 rfl<|Oc<|m2 (aS ((cH C.wordV ((C.wordsC 1).wordV))) 7 (ag.old ae r)) fun aJ af J=>?_
 have a4:=aK J (Ne.symm h) j
 have K:=aK J (Ne.symm hne) k
 refine bg ⟨(au a4 rfl),(au a4 rfl),(au K rfl),(au K rfl)⟩ fun aL=>re<|rm (.tuple #[])<|?_
 have hs:bo C most=((((C.wordsC 1).wordsC 1).need (decide (((C.wordsC 1).wordV)≤most)) 5).need (cH C.wordV ((C.wordsC 1).wordV)) 7):=by
   unfold bo gP
   (try simp only[i,bs,if_true,if_false,decide_true,decide_false,reduceIte])
   all_goals rfl
 rw[hs]
 exact⟨rfl,af,K,(u1 a2 (u1 H (uz r J) im) im)⟩
 have ad:=of_decide_eq_false i
 refine Ro 9 b<|Ro 10 b<|Ro 11 b<|Ro 12 b<|Ro 13 b<|Ro 14 b<|Ro 15 b<|Rt 16 b<|?_
 refine R0 17 rfl<|Oc<|m2 (aS (false) 5 (ag.upd Z G (aa hne am) (ah (aG B (by decide)) aA))) fun aM aj L=>?_
 have M:=aK L (Ne.symm h) q
 have a5:=aK L (Ne.symm hne) F
 refine bg ⟨(au M rfl),(au M rfl),(au a5 rfl)⟩ fun aN=>re<|tn<|Rg 15 (fun w'=>w'.cell? ⟨f,0,none⟩=some (.pointer (some ⟨g,0,none⟩))∧w'.cell? ⟨f,1,none⟩=some (.pointer (some ⟨gm,0,none⟩))∧w'.cell? ⟨gm,2,none⟩=some (.int .u16 C.wordV)∧w'.cell? ⟨gm,3,none⟩=some (.int .u16 ((C.wordsC 1).wordV))) fun aO s=>?_
 have l:=ub s M
 have m:=ub s a5
 refine bg ⟨(au l rfl),(au l rfl),(au m rfl),(au m rfl)⟩ fun e=>Rt 0 e<|Rl 1 e (fun _ hs=>hs.1)<|Rt 2 e<|Rl 3 e (fun _ hs=>hs.2.1)<|Rt 4 e<|Rt 5 e<|Rl 6 e (fun _ hs=>hs.2.2.1)<|Rt 7 e<|Rl 8 e (fun _ hs=>hs.2.1)<|Rt 9 e<|Rt 10 e<|Rl 11 e (fun _ hs=>hs.2.2.2)<|Rr 12 e (.int .i64 ((C.wordsC 1).wordV)) (fun _ _=>ck (.int .i64 (IntKind.i64.wrap ((C.wordsC 1).wordV))) (by kernel_rfl) (congrArg (Value.int .i64) (i64_in (by omega))))<|?_
 refine R0 13 rfl<|Oc<|mq (g7 (a:=C.wordV) (n:=(C.wordsC 1).wordV) (by omega))<|bg ⟨(au l rfl),(au l rfl),(au m rfl),(au m rfl)⟩ fun aP=>?_
 refine R0 14 rfl<|Oc<|m2 (aS ((cH C.wordV ((C.wordsC 1).wordV))) 7 (ag.old aj s)) fun aQ al N=>?_
 have a6:=aK N (Ne.symm h) l
 have O:=aK N (Ne.symm hne) m
 refine bg ⟨(au a6 rfl),(au a6 rfl),(au O rfl),(au O rfl)⟩ fun aR=>re<|rm (.tuple #[])<|?_
 have hs:bo C most=((((C.wordsC 1).wordsC 1).need false 5).need (cH C.wordV ((C.wordsC 1).wordV)) 7):=by
   unfold bo gP
   (try simp only[i,bs,if_true,if_false,decide_true,decide_false,reduceIte])
   all_goals rfl
 rw[hs]
 exact⟨rfl,al,O,(u1 a2 (u1 L (uz s N) im) im)⟩
theorem gk{g gm:Nat}{c:Int}{C:ai}{w:World}(hcode:B8 c)(hC:ag w g C)(hm:w.heap[gm]? = some (.cells (mC c) 30 (0,0)))(hne:g≠gm) :
    Calls Tryz.prog 196 #[.agg #[.pointer (some ⟨g,0,none⟩),.pointer (some ⟨gm,0,none⟩)]] w (bS g gm (cQ 2000 c C).1 (cQ 2000 c C).2 w):=by
 obtain⟨hcode1,hcode2⟩:=hcode
 have hlen:=hC.len
 refine en 4 Tryz.func196 rfl<|sg<|L0<|dC #[.pointer (some ⟨g,0,none⟩),.pointer (some ⟨gm,0,none⟩)] fun i j k d a=>nt<|go<|L0<|bV d<|?_
 have b:=ag.old hC a
 refine L0<|Oc<|m3 (iK (most:=2000) ⟨hcode1,hcode2⟩ b (ub a hm) hne) fun l e f h=>?_
 have m:=(b).wordV
 have n:=bE (c3 (b).rng 1)
 refine nl<|rm (.tuple #[])<|?_
 have hs:cQ 2000 c C=((bo C 2000),(aU.mk c 0 C.wordV ((C.wordsC 1).wordV) 0 0 0 0 0 0 0 0 [] [] [] [] 0 0 0 0 0 [])):=by
   unfold cQ
   (try simp only[bs,if_true,if_false,decide_true,decide_false,reduceIte])
   all_goals rfl
 rw[hs]
 exact⟨rfl,e,⟨_,⟨f,rfl⟩,⟨_,_,_,_,_,rfl,aB.nil ..,aB.nil ..,aB.nil ..,aB.nil ..,aB.nil ..,(bL (by omega))⟩⟩,(uz a h)⟩
theorem jB{g gm:Nat}{c:Int}{C:ai}{w:World}(hcode:B8 c)(hC:ag w g C)(hm:w.heap[gm]? = some (.cells (mC c) 30 (0,0)))(hne:g≠gm) :
    Calls Tryz.prog 197 #[.agg #[.pointer (some ⟨g,0,none⟩),.pointer (some ⟨gm,0,none⟩)]] w (bS g gm (cM c C).1 (cM c C).2 w):=by
 obtain⟨hcode1,hcode2⟩:=hcode
 have hlen:=hC.len
 refine en 24 Tryz.func197 rfl<|sg<|L0<|dC #[.pointer (some ⟨g,0,none⟩),.pointer (some ⟨gm,0,none⟩)] fun j J k l m=>ng<|Pl 1<|L0<|aZ l 0<|?_
 refine L0<|Oc<|m3 (bF (ag.old hC m)) fun L z o M=>Pl 1<|ng<|Pl 1<|?_
 have e:=nb (ag.lt hC) lr k
 have p:=aK o (Ne.symm e) l
 refine L0<|aZ p 0<|Pl 3<|cu 3 [10] 13 (((decide (1≤C.byteV))&&(decide (C.byteV≤250)))) (fun K q=>?_) ?_
 refine bl 10 ((decide (1≤C.byteV))) (fun b=>?_) (fun b=>?_)
 have A:=of_decide_eq_true b
 exact Pl 3<|ce q (decide (C.byteV≤250)) (by rw[b];rfl)
 have A:=of_decide_eq_false b
 exact Pl 3<|ce q false (by rw[b];rfl)
 refine L0<|Oc<|m2 (aS (((decide (1≤C.byteV))&&(decide (C.byteV≤250)))) 5 z) fun N B D=>nt<|Rg 10 (fun w'=>w'.cell? ⟨j,1,none⟩=some (.pointer (some ⟨gm,0,none⟩))∧w'.cell? ⟨j,0,none⟩=some (.pointer (some ⟨g,0,none⟩))) fun O r=>?_
 have s:=aE D r
 have f:=aK s (Ne.symm e) p
 refine bg ⟨(au f rfl),(au f rfl)⟩ fun a=>Rt 0 a<|Rl 1 a (fun _ hs=>hs.1)<|Rt 2 a<|Rl 3 a (fun _ hs=>hs.2)<|Rt 4 a<|Rr 5 a (.int .i64 C.byteV) (fun _ _=>ck (.int .i64 (IntKind.i64.wrap C.byteV)) (by kernel_rfl) (congrArg (Value.int .i64) (i64_in (by omega))))<|?_
 have t:=ag.old B r
 refine R0 6 rfl<|Oc<|pm (bW (n:=C.byteV) t) fun E F P G Q R H u=>?_
 have S:=Nat.le_trans (ai.bytesR_le ((C.bytesC 1).need ((decide (1≤C.byteV))&&(decide (C.byteV≤250))) 5) C.byteV) (ag.len t)
 have h:=aK u (Ne.symm e) f
 refine bg ⟨(au h rfl),(au h rfl)⟩ fun v=>Rt 7 v<|Rt 8 v<|?_
 have x:=uz m (u1 o (u1 s u im) im)
 have i:=aK x (Ne.symm hne) hm
 refine R0 9 rfl<|bC i 14 (mG c 0 0 0 0 0 0 0 0 0 0 0 nS nS (.slice E ((((C.bytesC 1).need ((decide (1≤C.byteV))&&(decide (C.byteV≤250))) 5).bytesR C.byteV).length) F) nS 0 0 0 0 0 nS) fun T I d=>?_
 have y:=aK d (Ne.symm (nb (ak hm) lr k)) h
 refine bg ⟨(au y rfl),(au y rfl)⟩ fun U=>re<|rm (.tuple #[])<|?_
 have hs:cM c C=((((C.bytesC 1).need ((decide (1≤C.byteV))&&(decide (C.byteV≤250))) 5).bytesC C.byteV),(aU.mk c 0 0 0 0 0 0 0 0 0 0 0 [] [] (((C.bytesC 1).need ((decide (1≤C.byteV))&&(decide (C.byteV≤250))) 5).bytesR C.byteV) [] 0 0 0 0 0 [])):=by
   unfold cM dA
   (try simp only[bs,if_true,if_false,decide_true,decide_false,reduceIte])
   all_goals rfl
 rw[hs]
 exact⟨rfl,(ag.upd H d (aa hne am) (ah (aG i (by decide)) aA)),⟨_,⟨I,rfl⟩,⟨_,_,_,_,_,rfl,aB.nil ..,aB.nil ..,(aQ.upd' G d (ah (aG i (by decide)) aA)),aB.nil ..,aB.nil ..,(bL (by omega))⟩⟩,(us x d)⟩
theorem jP{g gm:Nat}{c:Int}{C:ai}{w:World}(hcode:B8 c)(hC:ag w g C)(hm:w.heap[gm]? = some (.cells (mC c) 30 (0,0)))(hne:g≠gm) :
    Calls Tryz.prog 198 #[.agg #[.pointer (some ⟨g,0,none⟩),.pointer (some ⟨gm,0,none⟩)]] w (bS g gm (cE c C).1 (cE c C).2 w):=by
 obtain⟨hcode1,hcode2⟩:=hcode
 have hlen:=hC.len
 refine en 33 Tryz.func198 rfl<|sg<|L0<|dC #[.pointer (some ⟨g,0,none⟩),.pointer (some ⟨gm,0,none⟩)] fun b Z y R S=>nt<|sq<|Rg 8 (fun w'=>w'.cell? ⟨b,1,none⟩=some (.pointer (some ⟨gm,0,none⟩))∧w'.cell? ⟨b,0,none⟩=some (.pointer (some ⟨g,0,none⟩))) fun a0 z=>?_
 have j:=ub z R
 refine bg ⟨(au j rfl),(au j rfl)⟩ fun e=>Rt 0 e<|Rl 1 e (fun _ hs=>hs.1)<|Rt 2 e<|Rl 3 e (fun _ hs=>hs.2)<|?_
 have A:=aE S z
 refine R0 4 rfl<|Oc<|m3 (bK (ag.old hC A)) fun a1 T B a2=>?_
 have f:=nb (ag.lt hC) lr y
 have k:=aK B (Ne.symm f) j
 refine bg ⟨(au k rfl),(au k rfl)⟩ fun D=>Rt 5 D<|Rt 6 D<|?_
 have E:=uz A B
 have F:=aK E (Ne.symm hne) hm
 refine R0 7 rfl<|bC F 2 (mG c 0 C.wordV 0 0 0 0 0 0 0 0 0 nS nS nS nS 0 0 0 0 0 nS) fun a3 U G=>?_
 have H:=nb (ak hm) lr y
 have l:=aK G (Ne.symm H) k
 refine bg ⟨(au l rfl),(au l rfl)⟩ fun a4=>re<|tn<|sq<|Rg 8 (fun w'=>w'.cell? ⟨b,1,none⟩=some (.pointer (some ⟨gm,0,none⟩))∧w'.cell? ⟨b,0,none⟩=some (.pointer (some ⟨g,0,none⟩))) fun a5 m=>?_
 have n:=ub m l
 refine bg ⟨(au n rfl),(au n rfl)⟩ fun h=>Rt 0 h<|Rl 1 h (fun _ hs=>hs.1)<|Rt 2 h<|Rl 3 h (fun _ hs=>hs.2)<|?_
 have I:=aE G m
 refine R0 4 rfl<|Oc<|m3 (bK (ag.upd T I (aa hne am) (ah (aG F (by decide)) aA))) fun a6 J o a7=>?_
 have p:=aK o (Ne.symm f) n
 refine bg ⟨(au p rfl),(au p rfl)⟩ fun K=>Rt 5 K<|Rt 6 K<|?_
 have q:=aK (uz m o) (Ne.symm hne) U
 refine R0 7 rfl<|bC q 4 (mG c 0 C.wordV 0 ((C.wordsC 1).wordV) 0 0 0 0 0 0 0 nS nS nS nS 0 0 0 0 0 nS) fun a8 V L=>?_
 have r:=aK L (Ne.symm H) p
 refine bg ⟨(au r rfl),(au r rfl)⟩ fun a9=>re<|tn<|Rg 17 (fun w'=>w'.cell? ⟨b,0,none⟩=some (.pointer (some ⟨g,0,none⟩))∧w'.cell? ⟨b,1,none⟩=some (.pointer (some ⟨gm,0,none⟩))∧w'.cell? ⟨gm,4,none⟩=some (.int .u16 ((C.wordsC 1).wordV))) fun ab s=>?_
 have i:=ub s r
 have t:=ub s V
 refine bg ⟨(au i rfl),(au i rfl),(au t rfl)⟩ fun a=>Rt 0 a<|Rl 1 a (fun _ hs=>hs.1)<|Rt 2 a<|Rl 3 a (fun _ hs=>hs.2.1)<|Rt 4 a<|Rt 5 a<|Rl 6 a (fun _ hs=>hs.2.2)<|Rt 7 a<|Rt 8 a<|?_
 have u:=aE L s
 have M:=ui E (ui I (us o u))
 refine sG 24 ((((C.wordsC 1).wordV)==0)) (fun d=>?_) (fun d=>?_)
 have W:=ap d
 refine Ro 9 a<|Ro 10 a<|Ro 11 a<|Ro 12 a<|Ro 13 a<|Ro 14 a<|Rt 15 a<|?_
 refine R0 16 rfl<|Oc<|m2 (aS (true) 6 (ag.upd J u (aa hne am) (ah (aG q (by decide)) aA))) fun ac X v=>?_
 have N:=aK v (Ne.symm f) i
 have O:=aK v (Ne.symm hne) t
 refine bg ⟨(au N rfl),(au N rfl),(au O rfl)⟩ fun ad=>re<|rm (.tuple #[])<|?_
 have hs:cE c C=((((C.wordsC 1).wordsC 1).need true 6),(aU.mk c 0 C.wordV 0 ((C.wordsC 1).wordV) 0 0 0 0 0 0 0 [] [] [] [] 0 0 0 0 0 [])):=by
   unfold cE eF
   (try simp only[d,bs,if_true,if_false,decide_true,decide_false,reduceIte])
   all_goals rfl
 rw[hs]
 exact⟨rfl,X,⟨_,⟨O,rfl⟩,⟨_,_,_,_,_,rfl,aB.nil ..,aB.nil ..,aB.nil ..,aB.nil ..,aB.nil ..,(bL (by omega))⟩⟩,(u1 M v im)⟩
 have W:=aq d
 refine Rt 9 a<|Rl 10 a (fun _ hs=>hs.2.1)<|Rt 11 a<|Rt 12 a<|Rl 13 a (fun _ hs=>hs.2.2)<|Rt 14 a<|Rt 15 a<|?_
 refine R0 16 rfl<|Oc<|m2 (aS ((((C.wordsC 1).wordV)==65280)) 6 (ag.upd J u (aa hne am) (ah (aG q (by decide)) aA))) fun ae Y x=>?_
 have P:=aK x (Ne.symm f) i
 have Q:=aK x (Ne.symm hne) t
 refine bg ⟨(au P rfl),(au P rfl),(au Q rfl)⟩ fun af=>re<|rm (.tuple #[])<|?_
 have hs:cE c C=((((C.wordsC 1).wordsC 1).need (((C.wordsC 1).wordV)==65280) 6),(aU.mk c 0 C.wordV 0 ((C.wordsC 1).wordV) 0 0 0 0 0 0 0 [] [] [] [] 0 0 0 0 0 [])):=by
   unfold cE eF
   (try simp only[d,bs,if_true,if_false,decide_true,decide_false,reduceIte])
   all_goals rfl
 rw[hs]
 exact⟨rfl,Y,⟨_,⟨Q,rfl⟩,⟨_,_,_,_,_,rfl,aB.nil ..,aB.nil ..,aB.nil ..,aB.nil ..,aB.nil ..,(bL (by omega))⟩⟩,(u1 M x im)⟩
theorem pY{g gm:Nat}{c:Int}{C:ai}{w:World}(hcode:B8 c)(hC:ag w g C)(hm:w.heap[gm]? = some (.cells (mC c) 30 (0,0)))(hne:g≠gm) :
    Calls Tryz.prog 200 #[.agg #[.pointer (some ⟨g,0,none⟩),.pointer (some ⟨gm,0,none⟩)]] w (bS g gm (cQ 1968 c C).1 (cQ 1968 c C).2 w):=by
 obtain⟨hcode1,hcode2⟩:=hcode
 have hlen:=hC.len
 refine en 4 Tryz.func200 rfl<|sg<|L0<|dC #[.pointer (some ⟨g,0,none⟩),.pointer (some ⟨gm,0,none⟩)] fun i j k d a=>nt<|go<|L0<|bV d<|?_
 have b:=ag.old hC a
 refine L0<|Oc<|m3 (iK (most:=1968) ⟨hcode1,hcode2⟩ b (ub a hm) hne) fun l e f h=>?_
 have m:=(b).wordV
 have n:=bE (c3 (b).rng 1)
 refine nl<|rm (.tuple #[])<|?_
 have hs:cQ 1968 c C=((bo C 1968),(aU.mk c 0 C.wordV ((C.wordsC 1).wordV) 0 0 0 0 0 0 0 0 [] [] [] [] 0 0 0 0 0 [])):=by
   unfold cQ
   (try simp only[bs,if_true,if_false,decide_true,decide_false,reduceIte])
   all_goals rfl
 rw[hs]
 exact⟨rfl,e,⟨_,⟨f,rfl⟩,⟨_,_,_,_,_,rfl,aB.nil ..,aB.nil ..,aB.nil ..,aB.nil ..,aB.nil ..,(bL (by omega))⟩⟩,(uz a h)⟩
theorem oL{g gm:Nat}{c:Int}{C:ai}{w:World}(hcode:B8 c)(hC:ag w g C)(hm:w.heap[gm]? = some (.cells (mC c) 30 (0,0)))(hne:g≠gm) :
    Calls Tryz.prog 200 #[.agg #[.pointer (some ⟨g,0,none⟩),.pointer (some ⟨gm,0,none⟩)]] w (nd g gm (bo C 1968) (mG c 0 C.wordV (C.wordsC 1).wordV 0 0 0 0 0 0 0 0 nS nS nS nS 0 0 0 0 0 nS) w):=by
 obtain⟨hcode1,hcode2⟩:=hcode
 have hlen:=hC.len
 refine en 4 Tryz.func200 rfl<|sg<|L0<|dC #[.pointer (some ⟨g,0,none⟩),.pointer (some ⟨gm,0,none⟩)] fun i j k d a=>nt<|go<|L0<|bV d<|?_
 have b:=ag.old hC a
 refine L0<|Oc<|m3 (iK (most:=1968) ⟨hcode1,hcode2⟩ b (ub a hm) hne) fun l e f h=>?_
 have m:=(b).wordV
 have n:=bE (c3 (b).rng 1)
 refine nl<|rm (.tuple #[])<|?_
 have hs:bo C 1968=(bo C 1968):=by
   unfold bo gP
   (try simp only[bs,if_true,if_false,decide_true,decide_false,reduceIte])
   all_goals rfl
 rw[hs]
 exact⟨rfl,e,f,(uz a h)⟩
theorem sa{g gm:Nat}{c:Int}{C:ai}{w:World}(hcode:B8 c)(hC:ag w g C)(hm:w.heap[gm]? = some (.cells (mC c) 30 (0,0)))(hne:g≠gm) :
    Calls Tryz.prog 199 #[.agg #[.pointer (some ⟨g,0,none⟩),.pointer (some ⟨gm,0,none⟩)]] w (bS g gm (f9 c C).1 (f9 c C).2 w):=by
 obtain⟨hcode1,hcode2⟩:=hcode
 have hlen:=hC.len
 refine en 46 Tryz.func199 rfl<|sg<|L0<|dC #[.pointer (some ⟨g,0,none⟩),.pointer (some ⟨gm,0,none⟩)] fun o a3 F G f=>ng<|L0<|bV G<|?_
 have t:=ag.old hC f
 refine L0<|Oc<|m3 (oL ⟨hcode1,hcode2⟩ t (ub f hm) hne) fun a4 Q R p=>?_
 have a5:=(t).wordV
 have a6:=bE (c3 (t).rng 1)
 refine ng<|Pl 1<|?_
 have i:=nb (ag.lt hC) lr F
 have H:=az.blk p (aa (Ne.symm i) (aa (Ne.symm (nb (ak hm) lr F)) am)) G
 refine L0<|aZ H 0<|L0<|Oc<|m3 (bF Q) fun a7 S u a8=>L0<|Oi ((bo C 1968).byteV)<|Pl 1<|nt<|sq<|Rg 12 (fun w'=>w'.cell? ⟨o,0,none⟩=some (.pointer (some ⟨g,0,none⟩))∧w'.cell? ⟨o,1,none⟩=some (.pointer (some ⟨gm,0,none⟩))∧w'.cell? ⟨gm,3,none⟩=some (.int .u16 ((C.wordsC 1).wordV))) fun a9 q=>?_
 have v:=aE u q
 have j:=aK v (Ne.symm i) H
 have y:=aK v (Ne.symm hne) R
 refine bg ⟨(au j rfl),(au j rfl),(au y rfl)⟩ fun a=>Rt 0 a<|Rl 1 a (fun _ hs=>hs.1)<|Rt 2 a<|Rt 3 a<|Rl 4 a (fun _ hs=>hs.2.1)<|Rt 5 a<|Rt 6 a<|Rl 7 a (fun _ hs=>hs.2.2)<|Rr 8 a (.int .i64 ((C.wordsC 1).wordV)) (fun _ _=>ck (.int .i64 (IntKind.i64.wrap ((C.wordsC 1).wordV))) (by kernel_rfl) (congrArg (Value.int .i64) (i64_in (by omega))))<|R0 9 rfl<|Oc<|mq (iN (n:=(C.wordsC 1).wordV) (by omega))<|bg ⟨(au j rfl),(au j rfl),(au y rfl)⟩ fun T=>Rt 10 T<|?_
 refine R0 11 rfl<|Oc<|m2 (aS ((((bo C 1968).byteV)==(dz ((C.wordsC 1).wordV)))) 5 (ag.old S q)) fun ab U k=>?_
 have z:=aK k (Ne.symm i) j
 have I:=aK k (Ne.symm hne) y
 refine bg ⟨(au z rfl),(au z rfl),(au I rfl)⟩ fun ad=>re<|tn<|sq<|Rg 16 (fun w'=>w'.cell? ⟨o,0,none⟩=some (.pointer (some ⟨g,0,none⟩))∧w'.cell? ⟨o,1,none⟩=some (.pointer (some ⟨gm,0,none⟩))∧w'.cell? ⟨gm,3,none⟩=some (.int .u16 ((C.wordsC 1).wordV))) fun ae d=>?_
 have A:=ub d z
 have J:=ub d I
 refine bg ⟨(au A rfl),(au A rfl),(au J rfl)⟩ fun b=>Rt 0 b<|Rl 1 b (fun _ hs=>hs.1)<|Rt 2 b<|Rt 4 b<|Rl 5 b (fun _ hs=>hs.2.1)<|Rt 6 b<|Rt 7 b<|Rl 8 b (fun _ hs=>hs.2.2)<|Rr 9 b (.int .i64 ((C.wordsC 1).wordV)) (fun _ _=>ck (.int .i64 (IntKind.i64.wrap ((C.wordsC 1).wordV))) (by kernel_rfl) (congrArg (Value.int .i64) (i64_in (by omega))))<|?_
 have K:=ag.old U d
 refine R0 3 rfl<|Oc<|pm (bW (n:=(bo C 1968).byteV) K) fun V W af X aj al Y l=>?_
 have an:=Nat.le_trans (ai.bytesR_le (((bo C 1968).bytesC 1).need (((bo C 1968).byteV)==(dz ((C.wordsC 1).wordV))) 5) ((bo C 1968).byteV)) (ag.len K)
 have B:=aK l (Ne.symm i) A
 have L:=aK l (Ne.symm hne) J
 refine bg ⟨(au B rfl),(au B rfl),(au L rfl)⟩ fun ao=>R0 10 rfl<|Oc (args:=#[.slice V (((((bo C 1968).bytesC 1).need (((bo C 1968).byteV)==(dz ((C.wordsC 1).wordV))) 5).bytesR ((bo C 1968).byteV)).length) W,.int .i64 ((C.wordsC 1).wordV)])<|m6 (mf X (by omega) (by omega) (by omega)) fun Z a0 ap D aq ar r=>?_
 have s:=ub r B
 have M:=ub r L
 refine bg ⟨(au s rfl),(au s rfl),(au M rfl)⟩ fun m=>Rt 11 m<|Rt 12 m<|Rt 13 m<|Rt 14 m<|Rt 15 m<|re<|tn<|sg<|Pl 1<|L0<|aZ s 0<|Pl 1<|?_
 refine L0<|Oc<|m2 (aS ((bN ((((bo C 1968).bytesC 1).need (((bo C 1968).byteV)==(dz ((C.wordsC 1).wordV))) 5).bytesR ((bo C 1968).byteV)) ((C.wordsC 1).wordV)).isSome) 6 (ag.old Y r)) fun aw a1 E=>nt<|go<|Pl 1<|?_
 refine L0<|aZ (aK E (Ne.symm i) s) 1<|Pl 3<|?_
 have N:=aK E (Ne.symm hne) M
 refine L0<|bC N 13 (mG c 0 C.wordV ((C.wordsC 1).wordV) 0 0 0 0 0 0 0 0 nS (.slice Z (((bN ((((bo C 1968).bytesC 1).need (((bo C 1968).byteV)==(dz ((C.wordsC 1).wordV))) 5).bytesR ((bo C 1968).byteV)) ((C.wordsC 1).wordV)).getD []).length) a0) nS nS 0 0 0 0 0 nS) fun aC a2 O=>nl<|rm (.tuple #[])<|?_
 have P:=us E O
 have hs:f9 c C=((((((bo C 1968).bytesC 1).need (((bo C 1968).byteV)==(dz ((C.wordsC 1).wordV))) 5).bytesC ((bo C 1968).byteV)).need ((bN ((((bo C 1968).bytesC 1).need (((bo C 1968).byteV)==(dz ((C.wordsC 1).wordV))) 5).bytesR ((bo C 1968).byteV)) ((C.wordsC 1).wordV)).isSome) 6),(aU.mk c 0 C.wordV ((C.wordsC 1).wordV) 0 0 0 0 0 0 0 0 [] ((bN ((((bo C 1968).bytesC 1).need (((bo C 1968).byteV)==(dz ((C.wordsC 1).wordV))) 5).bytesR ((bo C 1968).byteV)) ((C.wordsC 1).wordV)).getD []) [] [] 0 0 0 0 0 [])):=by
   unfold f9 ns nm gc m9 mR
   (try simp only[bs,if_true,if_false,decide_true,decide_false,reduceIte])
   all_goals rfl
 rw[hs]
 exact⟨rfl,(ag.upd a1 O (aa hne am) (ah (aG N (by decide)) aA)),⟨_,⟨a2,rfl⟩,⟨_,_,_,_,_,rfl,aB.nil ..,((ax D P (fun x hx=>(aa (fun e=>(ay (ag.lt hC) (le (le (le (le (le (le f.size p.size) u.size) q.size) k.size) d.size) l.size) D) (e▸hx)) (aa (fun e=>(ay (ak hm) (le (le (le (le (le (le f.size p.size) u.size) q.size) k.size) d.size) l.size) D) (e▸hx)) am))) (fun _ _ h=>h))).rd,aB.nil ..,aB.nil ..,aB.nil ..,(bL (by omega))⟩⟩,(uz f (ut p (ui v (ui k (uz d (ui l (uz r P))))) (ac im (ac im av))))⟩
open Go.RowKit
theorem sj(c:Int) : c=1∨c=2∨c=5∨c=15∨(c≠1∧c≠2∧c≠5∧c≠15):=by omega
theorem jm{m:Md}{A:Option Addr}{cp:Nat}{b:List Int}{w:World}{c:Int}(hcode:B8 c)(hsl:aQ m w (.slice A b.length cp) b)(hb:b.length≤1048576) :
    Calls Tryz.prog 138 #[.int .i64 0,.int .u8 c,.slice A b.length cp] w (dx (aj aC 0 c b) w):=by
 obtain⟨hcode1,hcode2⟩:=hcode
 have hln:(b.length:Int)≤1048576:=by omega
 refine en 72 Tryz.func138 rfl<|sg<|L0<|bD mZ fun cG cH l k y=>Pl 1<|nt<|sq<|sg<|Pl 6<|nt<|c0<|?_
 refine aX<|sg<|Pl 2<|L0<|bD mZ fun a cI g n bC=>L0<|aT n (mC c) fun cJ F o=>ng<|Pl 1<|?_
 have i:=ud bC o g
 have u:=aE y i
 refine L0<|Oc<|e3 (di (aQ.old hsl u) (by omega)) fun d cK f s z=>Pl 1<|L0<|bD #[.pointer none,.pointer none] fun cL cM p af bE=>L0<|aT af #[.pointer (some ⟨d,0,none⟩),.pointer (some ⟨a,0,none⟩)] fun cS bF an=>ng<|L0<|rc fun cT cU ao bG ap=>?_
 have O:=ub ap bF
 refine L0<|bV O<|Pl 1<|L0<|bV O<|Pl 2<|L0<|eX bG 1 fun cV bH aq=>?_
 have t:=nb (ak af) an.size ao
 have P:=aK aq t O
 refine L0<|bV P<|Pl 1<|L0<|bV P<|Pl 2<|L0<|eX bH 2 fun cW bI ar=>?_
 have Q:=aK ar t P
 refine L0<|bV Q<|Pl 1<|L0<|bV Q<|Pl 2<|L0<|eX bI 5 fun cX bJ au=>?_
 have v:=aK au t Q
 refine L0<|bV v<|Pl 1<|L0<|bV v<|Pl 2<|L0<|eX bJ 15 fun cY B C=>Pl 2<|ng<|Pl 2<|?_
 have D:=ud bE (aE an (ud ap (u1 aq (u1 ar (u1 au C im) im) im) ao)) p
 have j:=aE z D
 have E:=aE u j
 rcases sj c with hk|hk|hk|hk|hk
 have k1:(c==1)=true:=by rw[hk];rfl
 have k2:(c==2)=false:=by rw[hk];rfl
 have k5:(c==5)=false:=by rw[hk];rfl
 have r:(c==15)=false:=by rw[hk];rfl
 refine L0<|kv (hf:=(by subst hk;kernel_rfl)) B c (.agg #[.nilFunc,.nilFunc]) (some (0,.agg #[.func (.func 196) #[.agg #[.pointer (some ⟨d,0,none⟩),.pointer (some ⟨a,0,none⟩)]] #[],.func (.func 197) #[.agg #[.pointer (some ⟨d,0,none⟩),.pointer (some ⟨a,0,none⟩)]] #[]]))<|Pl 3<|L0<|bD #[.nilFunc,.nilFunc] fun cZ d0 bK bL bN=>L0<|aT bL #[.func (.func 196) #[.agg #[.pointer (some ⟨d,0,none⟩),.pointer (some ⟨a,0,none⟩)]] #[],.func (.func 197) #[.agg #[.pointer (some ⟨d,0,none⟩),.pointer (some ⟨a,0,none⟩)]] #[]] fun d1 bO bP=>Pl 1<|nt<|sq<|sg<|Pl 2<|nt<|c0<|?_
 refine aX<|sg<|Pl 2<|L0<|aZ bO 0<|?_
 have R:=ud bN bP bK
 have aw:=aE j R
 have ax:=nb (ak n) o.size f
 refine L0<|gH #[.agg #[.pointer (some ⟨d,0,none⟩),.pointer (some ⟨a,0,none⟩)]] #[] (args:=#[.agg #[.pointer (some ⟨d,0,none⟩),.pointer (some ⟨a,0,none⟩)]])<|m3 (gk (c:=c) ⟨hcode1,hcode2⟩ (ag.old s (aE D R)) (ub aw F) (Ne.symm ax)) fun d2 bQ bR ay=>?_
 obtain⟨bS,G,S⟩:=bR
 refine ab bQ fun x89 aB aD=>?_
 refine ng<|Pl 1<|?_
 have aF:=uz R ay
 have aH:=nb (ag.lt s) lr p
 have aI:=az.blk (us C aF) (aa t (aa (Ne.symm aH) (aa (Ne.symm (nb (ak n) (le o.size z.size) p)) am))) v
 refine L0<|aZ aI 0<|L0<|Oc<|m2 (bM aD) fun d3 aJ H=>nt<|sq<|sg<|Pl 1<|?_
 refine L0<|aZ (aK H (Ne.symm aH) aI) 0<|L0<|Oc<|mq (bp aJ)<|?_
 have d4:=ag.len aJ
 refine Pl 1<|ng<|Pl 2<|nt<|?_
 have T:=u1 aF H im
 have aL:=ut E T (ac (ni u.size f) (ac (ni y.size g) av))
 have hs:aj aC 0 c b=aP ((cQ 2000 c (ai.mk b false 0)).2) ((cQ 2000 c (ai.mk b false 0)).1):=by
   unfold aj aC
   (try simp only[bs,if_true,if_false,decide_true,decide_false,eq_self,true_or,or_true,or_false,false_or,if_true,if_false,cP,cO,cN,cR,reduceIte,k1,k2,k5,r])
   all_goals rfl
 refine cb ((x89.endC.e != 0)) (fun U=>?_) (fun U=>?_)
 have V:=al U
 refine sg<|Pl 2<|?_
 refine L0<|aT (ub (ud i (ud j T f) g) k) mZ fun d5 bU bW=>Pl 1<|nt<|rt<|tr<|bu bU (.int .i64 x89.endC.e)<|?_
 subst aB
 rw[hs]
 exact bh V (ud aL bW l)
 have V:=ae U
 refine aX<|sg<|?_
 refine L0<|bV (hz:=(by rw[G.2];exact aN)) (aK H ax G.1)<|?_
 refine L0<|aT (hz:=(by rw[G.2];exact aN)) (hv:=S.size) (h1:=S.one) (ub (ud i (ud j T f) g) k) (bS) fun d6 bX aM=>Pl 1<|nt<|rt<|dG 22 G.2 bX (.int .i64 0)<|?_
 subst aB
 rw[hs]
 exact bt V (bq.upd S (us H aM) (ah (ag.safe aD _ (by decide)) (ah (aG (ub (ud i (ud aw ay f) g) k) (by decide)) aA))) (ud aL aM l)
 have k1:(c==1)=false:=by rw[hk];rfl
 have k2:(c==2)=true:=by rw[hk];rfl
 have k5:(c==5)=false:=by rw[hk];rfl
 have r:(c==15)=false:=by rw[hk];rfl
 refine L0<|kv (hf:=(by subst hk;kernel_rfl)) B c (.agg #[.nilFunc,.nilFunc]) (some (1,.agg #[.func (.func 196) #[.agg #[.pointer (some ⟨d,0,none⟩),.pointer (some ⟨a,0,none⟩)]] #[],.func (.func 197) #[.agg #[.pointer (some ⟨d,0,none⟩),.pointer (some ⟨a,0,none⟩)]] #[]]))<|Pl 3<|L0<|bD #[.nilFunc,.nilFunc] fun d7 d8 bY bZ c2=>L0<|aT bZ #[.func (.func 196) #[.agg #[.pointer (some ⟨d,0,none⟩),.pointer (some ⟨a,0,none⟩)]] #[],.func (.func 197) #[.agg #[.pointer (some ⟨d,0,none⟩),.pointer (some ⟨a,0,none⟩)]] #[]] fun d9 c3 c4=>Pl 1<|nt<|sq<|sg<|Pl 2<|nt<|c0<|?_
 refine aX<|sg<|Pl 2<|L0<|aZ c3 0<|?_
 have W:=ud c2 c4 bY
 have aO:=aE j W
 have aR:=nb (ak n) o.size f
 refine L0<|gH #[.agg #[.pointer (some ⟨d,0,none⟩),.pointer (some ⟨a,0,none⟩)]] #[] (args:=#[.agg #[.pointer (some ⟨d,0,none⟩),.pointer (some ⟨a,0,none⟩)]])<|m3 (gk (c:=c) ⟨hcode1,hcode2⟩ (ag.old s (aE D W)) (ub aO F) (Ne.symm aR)) fun da c5 c6 aS=>?_
 obtain⟨c7,I,X⟩:=c6
 refine ab c5 fun aV aW aY=>?_
 refine ng<|Pl 1<|?_
 have b0:=uz W aS
 have b1:=nb (ag.lt s) lr p
 have b2:=az.blk (us C b0) (aa t (aa (Ne.symm b1) (aa (Ne.symm (nb (ak n) (le o.size z.size) p)) am))) v
 refine L0<|aZ b2 0<|L0<|Oc<|m2 (bM aY) fun db b3 J=>nt<|sq<|sg<|Pl 1<|?_
 refine L0<|aZ (aK J (Ne.symm b1) b2) 0<|L0<|Oc<|mq (bp b3)<|?_
 have dc:=ag.len b3
 refine Pl 1<|ng<|Pl 2<|nt<|?_
 have Y:=u1 b0 J im
 have b4:=ut E Y (ac (ni u.size f) (ac (ni y.size g) av))
 have hs:aj aC 0 c b=aP ((cQ 2000 c (ai.mk b false 0)).2) ((cQ 2000 c (ai.mk b false 0)).1):=by
   unfold aj aC
   (try simp only[bs,if_true,if_false,decide_true,decide_false,eq_self,true_or,or_true,or_false,false_or,if_true,if_false,cP,cO,cN,cR,reduceIte,k1,k2,k5,r])
   all_goals rfl
 refine cb ((aV.endC.e != 0)) (fun Z=>?_) (fun Z=>?_)
 have a0:=al Z
 refine sg<|Pl 2<|?_
 refine L0<|aT (ub (ud i (ud j Y f) g) k) mZ fun dd c8 c9=>Pl 1<|nt<|rt<|tr<|bu c8 (.int .i64 aV.endC.e)<|?_
 subst aW
 rw[hs]
 exact bh a0 (ud b4 c9 l)
 have a0:=ae Z
 refine aX<|sg<|?_
 refine L0<|bV (hz:=(by rw[I.2];exact aN)) (aK J aR I.1)<|?_
 refine L0<|aT (hz:=(by rw[I.2];exact aN)) (hv:=X.size) (h1:=X.one) (ub (ud i (ud j Y f) g) k) (c7) fun de ca b5=>Pl 1<|nt<|rt<|dG 22 I.2 ca (.int .i64 0)<|?_
 subst aW
 rw[hs]
 exact bt a0 (bq.upd X (us J b5) (ah (ag.safe aY _ (by decide)) (ah (aG (ub (ud i (ud aO aS f) g) k) (by decide)) aA))) (ud b4 b5 l)
 have k1:(c==1)=false:=by rw[hk];rfl
 have k2:(c==2)=false:=by rw[hk];rfl
 have k5:(c==5)=true:=by rw[hk];rfl
 have r:(c==15)=false:=by rw[hk];rfl
 refine L0<|kv (hf:=(by subst hk;kernel_rfl)) B c (.agg #[.nilFunc,.nilFunc]) (some (2,.agg #[.func (.func 198) #[.agg #[.pointer (some ⟨d,0,none⟩),.pointer (some ⟨a,0,none⟩)]] #[],.func (.func 198) #[.agg #[.pointer (some ⟨d,0,none⟩),.pointer (some ⟨a,0,none⟩)]] #[]]))<|Pl 3<|L0<|bD #[.nilFunc,.nilFunc] fun df dg cc cd ce=>L0<|aT cd #[.func (.func 198) #[.agg #[.pointer (some ⟨d,0,none⟩),.pointer (some ⟨a,0,none⟩)]] #[],.func (.func 198) #[.agg #[.pointer (some ⟨d,0,none⟩),.pointer (some ⟨a,0,none⟩)]] #[]] fun dh cf cg=>Pl 1<|nt<|sq<|sg<|Pl 2<|nt<|c0<|?_
 refine aX<|sg<|Pl 2<|L0<|aZ cf 0<|?_
 have a1:=ud ce cg cc
 have b6:=aE j a1
 have b7:=nb (ak n) o.size f
 refine L0<|gH #[.agg #[.pointer (some ⟨d,0,none⟩),.pointer (some ⟨a,0,none⟩)]] #[] (args:=#[.agg #[.pointer (some ⟨d,0,none⟩),.pointer (some ⟨a,0,none⟩)]])<|m3 (jP (c:=c) ⟨hcode1,hcode2⟩ (ag.old s (aE D a1)) (ub b6 F) (Ne.symm b7)) fun dj ch ci b8=>?_
 obtain⟨cj,K,a2⟩:=ci
 refine ab ch fun b9 ba bb=>?_
 refine ng<|Pl 1<|?_
 have bc:=uz a1 b8
 have bd:=nb (ag.lt s) lr p
 have be:=az.blk (us C bc) (aa t (aa (Ne.symm bd) (aa (Ne.symm (nb (ak n) (le o.size z.size) p)) am))) v
 refine L0<|aZ be 0<|L0<|Oc<|m2 (bM bb) fun dk bf L=>nt<|sq<|sg<|Pl 1<|?_
 refine L0<|aZ (aK L (Ne.symm bd) be) 0<|L0<|Oc<|mq (bp bf)<|?_
 have dl:=ag.len bf
 refine Pl 1<|ng<|Pl 2<|nt<|?_
 have a3:=u1 bc L im
 have bg:=ut E a3 (ac (ni u.size f) (ac (ni y.size g) av))
 have hs:aj aC 0 c b=aP ((cE c (ai.mk b false 0)).2) ((cE c (ai.mk b false 0)).1):=by
   unfold aj aC
   (try simp only[bs,if_true,if_false,decide_true,decide_false,eq_self,true_or,or_true,or_false,false_or,if_true,if_false,cP,cO,cN,cR,reduceIte,k1,k2,k5,r])
   all_goals rfl
 refine cb ((b9.endC.e != 0)) (fun a4=>?_) (fun a4=>?_)
 have a5:=al a4
 refine sg<|Pl 2<|?_
 refine L0<|aT (ub (ud i (ud j a3 f) g) k) mZ fun dm ck cl=>Pl 1<|nt<|rt<|tr<|bu ck (.int .i64 b9.endC.e)<|?_
 subst ba
 rw[hs]
 exact bh a5 (ud bg cl l)
 have a5:=ae a4
 refine aX<|sg<|?_
 refine L0<|bV (hz:=(by rw[K.2];exact aN)) (aK L b7 K.1)<|?_
 refine L0<|aT (hz:=(by rw[K.2];exact aN)) (hv:=a2.size) (h1:=a2.one) (ub (ud i (ud j a3 f) g) k) (cj) fun dn cm bi=>Pl 1<|nt<|rt<|dG 22 K.2 cm (.int .i64 0)<|?_
 subst ba
 rw[hs]
 exact bt a5 (bq.upd a2 (us L bi) (ah (ag.safe bb _ (by decide)) (ah (aG (ub (ud i (ud b6 b8 f) g) k) (by decide)) aA))) (ud bg bi l)
 have k1:(c==1)=false:=by rw[hk];rfl
 have k2:(c==2)=false:=by rw[hk];rfl
 have k5:(c==5)=false:=by rw[hk];rfl
 have r:(c==15)=true:=by rw[hk];rfl
 refine L0<|kv (hf:=(by subst hk;kernel_rfl)) B c (.agg #[.nilFunc,.nilFunc]) (some (3,.agg #[.func (.func 199) #[.agg #[.pointer (some ⟨d,0,none⟩),.pointer (some ⟨a,0,none⟩)]] #[],.func (.func 200) #[.agg #[.pointer (some ⟨d,0,none⟩),.pointer (some ⟨a,0,none⟩)]] #[]]))<|Pl 3<|L0<|bD #[.nilFunc,.nilFunc] fun dp dq cn co cq=>L0<|aT co #[.func (.func 199) #[.agg #[.pointer (some ⟨d,0,none⟩),.pointer (some ⟨a,0,none⟩)]] #[],.func (.func 200) #[.agg #[.pointer (some ⟨d,0,none⟩),.pointer (some ⟨a,0,none⟩)]] #[]] fun dr cr cs=>Pl 1<|nt<|sq<|sg<|Pl 2<|nt<|c0<|?_
 refine aX<|sg<|Pl 2<|L0<|aZ cr 0<|?_
 have a6:=ud cq cs cn
 have bj:=aE j a6
 have bk:=nb (ak n) o.size f
 refine L0<|gH #[.agg #[.pointer (some ⟨d,0,none⟩),.pointer (some ⟨a,0,none⟩)]] #[] (args:=#[.agg #[.pointer (some ⟨d,0,none⟩),.pointer (some ⟨a,0,none⟩)]])<|m3 (sa (c:=c) ⟨hcode1,hcode2⟩ (ag.old s (aE D a6)) (ub bj F) (Ne.symm bk)) fun ds bl ct bm=>?_
 obtain⟨cu,M,a7⟩:=ct
 refine ng<|Pl 1<|?_
 have bn:=uz a6 bm
 have bo:=nb (ag.lt s) lr p
 have br:=az.blk (us C bn) (aa t (aa (Ne.symm bo) (aa (Ne.symm (nb (ak n) (le o.size z.size) p)) am))) v
 refine L0<|aZ br 0<|L0<|Oc<|m2 (bM bl) fun dt cv N=>?_
 refine ab cv fun bv bw bx=>?_
 refine nt<|sq<|sg<|Pl 1<|?_
 refine L0<|aZ (aK N (Ne.symm bo) br) 0<|L0<|Oc<|mq (bp bx)<|?_
 have du:=ag.len bx
 refine Pl 1<|ng<|Pl 2<|nt<|?_
 have a8:=u1 bn N im
 have bz:=ut E a8 (ac (ni u.size f) (ac (ni y.size g) av))
 have hs:aj aC 0 c b=aP ((f9 c (ai.mk b false 0)).2) ((f9 c (ai.mk b false 0)).1):=by
   unfold aj aC
   (try simp only[bs,if_true,if_false,decide_true,decide_false,eq_self,true_or,or_true,or_false,false_or,if_true,if_false,cP,cO,cN,cR,reduceIte,k1,k2,k5,r])
   all_goals rfl
 refine cb ((bv.e != 0)) (fun a9=>?_) (fun a9=>?_)
 have ad:=al a9
 refine sg<|Pl 2<|?_
 refine L0<|aT (ub (ud i (ud j a8 f) g) k) mZ fun dv cw cx=>Pl 1<|nt<|rt<|tr<|bu cw (.int .i64 bv.e)<|?_
 subst bw
 rw[hs]
 exact bh ad (ud bz cx l)
 have ad:=ae a9
 refine aX<|sg<|?_
 refine L0<|bV (hz:=(by rw[M.2];exact aN)) (aK N bk M.1)<|?_
 refine L0<|aT (hz:=(by rw[M.2];exact aN)) (hv:=a7.size) (h1:=a7.one) (ub (ud i (ud j a8 f) g) k) (cu) fun dw cy bA=>Pl 1<|nt<|rt<|dG 22 M.2 cy (.int .i64 0)<|?_
 subst bw
 rw[hs]
 exact bt ad (bq.upd a7 (us N bA) (ah (ag.safe bl _ (by decide)) (ah (aG (ub (ud i (ud bj bm f) g) k) (by decide)) aA))) (ud bz bA l)
 have k1:(c==1)=false:=by simpa using hk.1
 have k2:(c==2)=false:=by simpa using hk.2.1
 have k5:(c==5)=false:=by simpa using hk.2.2.1
 have r:(c==15)=false:=by simpa using hk.2.2.2
 refine L0<|kv (hf:=(uD (q:=.u8) (x:=c) #[⟨.int .u8 1,.agg #[.func (.func 196) #[.agg #[.pointer (some ⟨d,0,none⟩),.pointer (some ⟨a,0,none⟩)]] #[],.func (.func 197) #[.agg #[.pointer (some ⟨d,0,none⟩),.pointer (some ⟨a,0,none⟩)]] #[]],0⟩,⟨.int .u8 2,.agg #[.func (.func 196) #[.agg #[.pointer (some ⟨d,0,none⟩),.pointer (some ⟨a,0,none⟩)]] #[],.func (.func 197) #[.agg #[.pointer (some ⟨d,0,none⟩),.pointer (some ⟨a,0,none⟩)]] #[]],1⟩,⟨.int .u8 5,.agg #[.func (.func 198) #[.agg #[.pointer (some ⟨d,0,none⟩),.pointer (some ⟨a,0,none⟩)]] #[],.func (.func 198) #[.agg #[.pointer (some ⟨d,0,none⟩),.pointer (some ⟨a,0,none⟩)]] #[]],2⟩,⟨.int .u8 15,.agg #[.func (.func 199) #[.agg #[.pointer (some ⟨d,0,none⟩),.pointer (some ⟨a,0,none⟩)]] #[],.func (.func 200) #[.agg #[.pointer (some ⟨d,0,none⟩),.pointer (some ⟨a,0,none⟩)]] #[]],3⟩] (ey _ _ (by intro e he;simp only[List.mem_cons,List.not_mem_nil,or_false] at he;obtain⟨z1,z2,z5,dy⟩:=hk;rcases he with rfl | rfl | rfl | rfl<;>exact⟨_,rfl,fun h=>by simp_all⟩)))) B c (.agg #[.nilFunc,.nilFunc]) none<|Pl 3<|L0<|bD #[.nilFunc,.nilFunc] fun dz dA cz cA cB=>L0<|aT cA #[.nilFunc,.nilFunc] fun dB dC cC=>Pl 1<|nt<|sq<|sg<|Pl 2<|nt<|c1<|?_
 refine sg<|Pl 1<|?_
 have bB:=ud cB cC cz
 refine L0<|aT (ub (aE i (aE j bB)) k) mZ fun dD cD cF=>Pl 1<|nt<|rt<|tr<|bu cD (.int .i64 4)<|?_
 have hs:aj aC 0 c b=(aU.zero,4):=by
   unfold aj aC
   (try simp only[bs,if_true,if_false,decide_true,decide_false,eq_self,true_or,or_true,or_false,false_or,if_true,if_false,cP,cO,cN,cR,reduceIte,k1,k2,k5,r])
   all_goals rfl
 rw[hs]
 exact bT (ud E (uz bB cF) l)
theorem jj{m:Md}{A:Option Addr}{cp:Nat}{b:List Int}{w:World}{c:Int}(hcode:B8 c)(hsl:aQ m w (.slice A b.length cp) b)(hb:b.length≤1048576) :
    Calls Tryz.prog 138 #[.int .i64 1,.int .u8 c,.slice A b.length cp] w (dx (aj aC 1 c b) w):=by
 obtain⟨hcode1,hcode2⟩:=hcode
 have hln:(b.length:Int)≤1048576:=by omega
 refine en 72 Tryz.func138 rfl<|sg<|L0<|bD mZ fun cG cH l k y=>Pl 1<|nt<|sq<|sg<|Pl 6<|nt<|c0<|?_
 refine aX<|sg<|Pl 2<|L0<|bD mZ fun a cI g n bC=>L0<|aT n (mC c) fun cJ F o=>ng<|Pl 1<|?_
 have i:=ud bC o g
 have u:=aE y i
 refine L0<|Oc<|e3 (di (aQ.old hsl u) (by omega)) fun d cK f s z=>Pl 1<|L0<|bD #[.pointer none,.pointer none] fun cL cS p af bE=>L0<|aT af #[.pointer (some ⟨d,0,none⟩),.pointer (some ⟨a,0,none⟩)] fun cT bF an=>ng<|L0<|rc fun cU cV ao bG ap=>?_
 have O:=ub ap bF
 refine L0<|bV O<|Pl 1<|L0<|bV O<|Pl 2<|L0<|eX bG 1 fun cW bH aq=>?_
 have t:=nb (ak af) an.size ao
 have P:=aK aq t O
 refine L0<|bV P<|Pl 1<|L0<|bV P<|Pl 2<|L0<|eX bH 2 fun cX bI ar=>?_
 have Q:=aK ar t P
 refine L0<|bV Q<|Pl 1<|L0<|bV Q<|Pl 2<|L0<|eX bI 5 fun cY bJ au=>?_
 have v:=aK au t Q
 refine L0<|bV v<|Pl 1<|L0<|bV v<|Pl 2<|L0<|eX bJ 15 fun cZ B C=>Pl 2<|ng<|Pl 2<|?_
 have D:=ud bE (aE an (ud ap (u1 aq (u1 ar (u1 au C im) im) im) ao)) p
 have j:=aE z D
 have E:=aE u j
 rcases sj c with hk|hk|hk|hk|hk
 have k1:(c==1)=true:=by rw[hk];rfl
 have k2:(c==2)=false:=by rw[hk];rfl
 have k5:(c==5)=false:=by rw[hk];rfl
 have r:(c==15)=false:=by rw[hk];rfl
 refine L0<|kv (hf:=(by subst hk;kernel_rfl)) B c (.agg #[.nilFunc,.nilFunc]) (some (0,.agg #[.func (.func 196) #[.agg #[.pointer (some ⟨d,0,none⟩),.pointer (some ⟨a,0,none⟩)]] #[],.func (.func 197) #[.agg #[.pointer (some ⟨d,0,none⟩),.pointer (some ⟨a,0,none⟩)]] #[]]))<|Pl 3<|L0<|bD #[.nilFunc,.nilFunc] fun d0 d1 bK bL bN=>L0<|aT bL #[.func (.func 196) #[.agg #[.pointer (some ⟨d,0,none⟩),.pointer (some ⟨a,0,none⟩)]] #[],.func (.func 197) #[.agg #[.pointer (some ⟨d,0,none⟩),.pointer (some ⟨a,0,none⟩)]] #[]] fun d2 bO bP=>Pl 1<|nt<|sq<|sg<|Pl 2<|nt<|c0<|?_
 refine aX<|sg<|Pl 2<|L0<|aZ bO 1<|?_
 have R:=ud bN bP bK
 have aw:=aE j R
 have ax:=nb (ak n) o.size f
 refine L0<|gH #[.agg #[.pointer (some ⟨d,0,none⟩),.pointer (some ⟨a,0,none⟩)]] #[] (args:=#[.agg #[.pointer (some ⟨d,0,none⟩),.pointer (some ⟨a,0,none⟩)]])<|m3 (jB (c:=c) ⟨hcode1,hcode2⟩ (ag.old s (aE D R)) (ub aw F) (Ne.symm ax)) fun d3 bQ bR ay=>?_
 obtain⟨bS,G,S⟩:=bR
 refine ab bQ fun x89 aB aD=>?_
 refine ng<|Pl 1<|?_
 have aF:=uz R ay
 have aH:=nb (ag.lt s) lr p
 have aI:=az.blk (us C aF) (aa t (aa (Ne.symm aH) (aa (Ne.symm (nb (ak n) (le o.size z.size) p)) am))) v
 refine L0<|aZ aI 0<|L0<|Oc<|m2 (bM aD) fun d4 aJ H=>nt<|sq<|sg<|Pl 1<|?_
 refine L0<|aZ (aK H (Ne.symm aH) aI) 0<|L0<|Oc<|mq (bp aJ)<|?_
 have d5:=ag.len aJ
 refine Pl 1<|ng<|Pl 2<|nt<|?_
 have T:=u1 aF H im
 have aL:=ut E T (ac (ni u.size f) (ac (ni y.size g) av))
 have hs:aj aC 1 c b=aP ((cM c (ai.mk b false 0)).2) ((cM c (ai.mk b false 0)).1):=by
   unfold aj aC
   (try simp only[bs,if_true,if_false,decide_true,decide_false,eq_self,true_or,or_true,or_false,false_or,if_true,if_false,cP,cO,cN,cR,reduceIte,k1,k2,k5,r])
   all_goals rfl
 refine cb ((x89.endC.e != 0)) (fun U=>?_) (fun U=>?_)
 have V:=al U
 refine sg<|Pl 2<|?_
 refine L0<|aT (ub (ud i (ud j T f) g) k) mZ fun d6 bU bW=>Pl 1<|nt<|rt<|tr<|bu bU (.int .i64 x89.endC.e)<|?_
 subst aB
 rw[hs]
 exact bh V (ud aL bW l)
 have V:=ae U
 refine aX<|sg<|?_
 refine L0<|bV (hz:=(by rw[G.2];exact aN)) (aK H ax G.1)<|?_
 refine L0<|aT (hz:=(by rw[G.2];exact aN)) (hv:=S.size) (h1:=S.one) (ub (ud i (ud j T f) g) k) (bS) fun d7 bX aM=>Pl 1<|nt<|rt<|dG 22 G.2 bX (.int .i64 0)<|?_
 subst aB
 rw[hs]
 exact bt V (bq.upd S (us H aM) (ah (ag.safe aD _ (by decide)) (ah (aG (ub (ud i (ud aw ay f) g) k) (by decide)) aA))) (ud aL aM l)
 have k1:(c==1)=false:=by rw[hk];rfl
 have k2:(c==2)=true:=by rw[hk];rfl
 have k5:(c==5)=false:=by rw[hk];rfl
 have r:(c==15)=false:=by rw[hk];rfl
 refine L0<|kv (hf:=(by subst hk;kernel_rfl)) B c (.agg #[.nilFunc,.nilFunc]) (some (1,.agg #[.func (.func 196) #[.agg #[.pointer (some ⟨d,0,none⟩),.pointer (some ⟨a,0,none⟩)]] #[],.func (.func 197) #[.agg #[.pointer (some ⟨d,0,none⟩),.pointer (some ⟨a,0,none⟩)]] #[]]))<|Pl 3<|L0<|bD #[.nilFunc,.nilFunc] fun d8 d9 bY bZ c2=>L0<|aT bZ #[.func (.func 196) #[.agg #[.pointer (some ⟨d,0,none⟩),.pointer (some ⟨a,0,none⟩)]] #[],.func (.func 197) #[.agg #[.pointer (some ⟨d,0,none⟩),.pointer (some ⟨a,0,none⟩)]] #[]] fun da c3 c4=>Pl 1<|nt<|sq<|sg<|Pl 2<|nt<|c0<|?_
 refine aX<|sg<|Pl 2<|L0<|aZ c3 1<|?_
 have W:=ud c2 c4 bY
 have aO:=aE j W
 have aR:=nb (ak n) o.size f
 refine L0<|gH #[.agg #[.pointer (some ⟨d,0,none⟩),.pointer (some ⟨a,0,none⟩)]] #[] (args:=#[.agg #[.pointer (some ⟨d,0,none⟩),.pointer (some ⟨a,0,none⟩)]])<|m3 (jB (c:=c) ⟨hcode1,hcode2⟩ (ag.old s (aE D W)) (ub aO F) (Ne.symm aR)) fun db c5 c6 aS=>?_
 obtain⟨c7,I,X⟩:=c6
 refine ab c5 fun aV aW aY=>?_
 refine ng<|Pl 1<|?_
 have b0:=uz W aS
 have b1:=nb (ag.lt s) lr p
 have b2:=az.blk (us C b0) (aa t (aa (Ne.symm b1) (aa (Ne.symm (nb (ak n) (le o.size z.size) p)) am))) v
 refine L0<|aZ b2 0<|L0<|Oc<|m2 (bM aY) fun dc b3 J=>nt<|sq<|sg<|Pl 1<|?_
 refine L0<|aZ (aK J (Ne.symm b1) b2) 0<|L0<|Oc<|mq (bp b3)<|?_
 have dd:=ag.len b3
 refine Pl 1<|ng<|Pl 2<|nt<|?_
 have Y:=u1 b0 J im
 have b4:=ut E Y (ac (ni u.size f) (ac (ni y.size g) av))
 have hs:aj aC 1 c b=aP ((cM c (ai.mk b false 0)).2) ((cM c (ai.mk b false 0)).1):=by
   unfold aj aC
   (try simp only[bs,if_true,if_false,decide_true,decide_false,eq_self,true_or,or_true,or_false,false_or,if_true,if_false,cP,cO,cN,cR,reduceIte,k1,k2,k5,r])
   all_goals rfl
 refine cb ((aV.endC.e != 0)) (fun Z=>?_) (fun Z=>?_)
 have a0:=al Z
 refine sg<|Pl 2<|?_
 refine L0<|aT (ub (ud i (ud j Y f) g) k) mZ fun de c8 c9=>Pl 1<|nt<|rt<|tr<|bu c8 (.int .i64 aV.endC.e)<|?_
 subst aW
 rw[hs]
 exact bh a0 (ud b4 c9 l)
 have a0:=ae Z
 refine aX<|sg<|?_
 refine L0<|bV (hz:=(by rw[I.2];exact aN)) (aK J aR I.1)<|?_
 refine L0<|aT (hz:=(by rw[I.2];exact aN)) (hv:=X.size) (h1:=X.one) (ub (ud i (ud j Y f) g) k) (c7) fun df ca b5=>Pl 1<|nt<|rt<|dG 22 I.2 ca (.int .i64 0)<|?_
 subst aW
 rw[hs]
 exact bt a0 (bq.upd X (us J b5) (ah (ag.safe aY _ (by decide)) (ah (aG (ub (ud i (ud aO aS f) g) k) (by decide)) aA))) (ud b4 b5 l)
 have k1:(c==1)=false:=by rw[hk];rfl
 have k2:(c==2)=false:=by rw[hk];rfl
 have k5:(c==5)=true:=by rw[hk];rfl
 have r:(c==15)=false:=by rw[hk];rfl
 refine L0<|kv (hf:=(by subst hk;kernel_rfl)) B c (.agg #[.nilFunc,.nilFunc]) (some (2,.agg #[.func (.func 198) #[.agg #[.pointer (some ⟨d,0,none⟩),.pointer (some ⟨a,0,none⟩)]] #[],.func (.func 198) #[.agg #[.pointer (some ⟨d,0,none⟩),.pointer (some ⟨a,0,none⟩)]] #[]]))<|Pl 3<|L0<|bD #[.nilFunc,.nilFunc] fun dg dh cc cd ce=>L0<|aT cd #[.func (.func 198) #[.agg #[.pointer (some ⟨d,0,none⟩),.pointer (some ⟨a,0,none⟩)]] #[],.func (.func 198) #[.agg #[.pointer (some ⟨d,0,none⟩),.pointer (some ⟨a,0,none⟩)]] #[]] fun dj cf cg=>Pl 1<|nt<|sq<|sg<|Pl 2<|nt<|c0<|?_
 refine aX<|sg<|Pl 2<|L0<|aZ cf 1<|?_
 have a1:=ud ce cg cc
 have b6:=aE j a1
 have b7:=nb (ak n) o.size f
 refine L0<|gH #[.agg #[.pointer (some ⟨d,0,none⟩),.pointer (some ⟨a,0,none⟩)]] #[] (args:=#[.agg #[.pointer (some ⟨d,0,none⟩),.pointer (some ⟨a,0,none⟩)]])<|m3 (jP (c:=c) ⟨hcode1,hcode2⟩ (ag.old s (aE D a1)) (ub b6 F) (Ne.symm b7)) fun dk ch ci b8=>?_
 obtain⟨cj,K,a2⟩:=ci
 refine ab ch fun b9 ba bb=>?_
 refine ng<|Pl 1<|?_
 have bc:=uz a1 b8
 have bd:=nb (ag.lt s) lr p
 have be:=az.blk (us C bc) (aa t (aa (Ne.symm bd) (aa (Ne.symm (nb (ak n) (le o.size z.size) p)) am))) v
 refine L0<|aZ be 0<|L0<|Oc<|m2 (bM bb) fun dl bf L=>nt<|sq<|sg<|Pl 1<|?_
 refine L0<|aZ (aK L (Ne.symm bd) be) 0<|L0<|Oc<|mq (bp bf)<|?_
 have dm:=ag.len bf
 refine Pl 1<|ng<|Pl 2<|nt<|?_
 have a3:=u1 bc L im
 have bg:=ut E a3 (ac (ni u.size f) (ac (ni y.size g) av))
 have hs:aj aC 1 c b=aP ((cE c (ai.mk b false 0)).2) ((cE c (ai.mk b false 0)).1):=by
   unfold aj aC
   (try simp only[bs,if_true,if_false,decide_true,decide_false,eq_self,true_or,or_true,or_false,false_or,if_true,if_false,cP,cO,cN,cR,reduceIte,k1,k2,k5,r])
   all_goals rfl
 refine cb ((b9.endC.e != 0)) (fun a4=>?_) (fun a4=>?_)
 have a5:=al a4
 refine sg<|Pl 2<|?_
 refine L0<|aT (ub (ud i (ud j a3 f) g) k) mZ fun dn ck cl=>Pl 1<|nt<|rt<|tr<|bu ck (.int .i64 b9.endC.e)<|?_
 subst ba
 rw[hs]
 exact bh a5 (ud bg cl l)
 have a5:=ae a4
 refine aX<|sg<|?_
 refine L0<|bV (hz:=(by rw[K.2];exact aN)) (aK L b7 K.1)<|?_
 refine L0<|aT (hz:=(by rw[K.2];exact aN)) (hv:=a2.size) (h1:=a2.one) (ub (ud i (ud j a3 f) g) k) (cj) fun dp cm bi=>Pl 1<|nt<|rt<|dG 22 K.2 cm (.int .i64 0)<|?_
 subst ba
 rw[hs]
 exact bt a5 (bq.upd a2 (us L bi) (ah (ag.safe bb _ (by decide)) (ah (aG (ub (ud i (ud b6 b8 f) g) k) (by decide)) aA))) (ud bg bi l)
 have k1:(c==1)=false:=by rw[hk];rfl
 have k2:(c==2)=false:=by rw[hk];rfl
 have k5:(c==5)=false:=by rw[hk];rfl
 have r:(c==15)=true:=by rw[hk];rfl
 refine L0<|kv (hf:=(by subst hk;kernel_rfl)) B c (.agg #[.nilFunc,.nilFunc]) (some (3,.agg #[.func (.func 199) #[.agg #[.pointer (some ⟨d,0,none⟩),.pointer (some ⟨a,0,none⟩)]] #[],.func (.func 200) #[.agg #[.pointer (some ⟨d,0,none⟩),.pointer (some ⟨a,0,none⟩)]] #[]]))<|Pl 3<|L0<|bD #[.nilFunc,.nilFunc] fun dq dr cn co cq=>L0<|aT co #[.func (.func 199) #[.agg #[.pointer (some ⟨d,0,none⟩),.pointer (some ⟨a,0,none⟩)]] #[],.func (.func 200) #[.agg #[.pointer (some ⟨d,0,none⟩),.pointer (some ⟨a,0,none⟩)]] #[]] fun ds cr cs=>Pl 1<|nt<|sq<|sg<|Pl 2<|nt<|c0<|?_
 refine aX<|sg<|Pl 2<|L0<|aZ cr 1<|?_
 have a6:=ud cq cs cn
 have bj:=aE j a6
 have bk:=nb (ak n) o.size f
 refine L0<|gH #[.agg #[.pointer (some ⟨d,0,none⟩),.pointer (some ⟨a,0,none⟩)]] #[] (args:=#[.agg #[.pointer (some ⟨d,0,none⟩),.pointer (some ⟨a,0,none⟩)]])<|m3 (pY (c:=c) ⟨hcode1,hcode2⟩ (ag.old s (aE D a6)) (ub bj F) (Ne.symm bk)) fun dt ct cu bl=>?_
 obtain⟨cv,M,a7⟩:=cu
 refine ab ct fun bm bn bo=>?_
 refine ng<|Pl 1<|?_
 have br:=uz a6 bl
 have bv:=nb (ag.lt s) lr p
 have bw:=az.blk (us C br) (aa t (aa (Ne.symm bv) (aa (Ne.symm (nb (ak n) (le o.size z.size) p)) am))) v
 refine L0<|aZ bw 0<|L0<|Oc<|m2 (bM bo) fun du bx N=>nt<|sq<|sg<|Pl 1<|?_
 refine L0<|aZ (aK N (Ne.symm bv) bw) 0<|L0<|Oc<|mq (bp bx)<|?_
 have dv:=ag.len bx
 refine Pl 1<|ng<|Pl 2<|nt<|?_
 have a8:=u1 br N im
 have bz:=ut E a8 (ac (ni u.size f) (ac (ni y.size g) av))
 have hs:aj aC 1 c b=aP ((cQ 1968 c (ai.mk b false 0)).2) ((cQ 1968 c (ai.mk b false 0)).1):=by
   unfold aj aC
   (try simp only[bs,if_true,if_false,decide_true,decide_false,eq_self,true_or,or_true,or_false,false_or,if_true,if_false,cP,cO,cN,cR,reduceIte,k1,k2,k5,r])
   all_goals rfl
 refine cb ((bm.endC.e != 0)) (fun a9=>?_) (fun a9=>?_)
 have ad:=al a9
 refine sg<|Pl 2<|?_
 refine L0<|aT (ub (ud i (ud j a8 f) g) k) mZ fun dw cw cx=>Pl 1<|nt<|rt<|tr<|bu cw (.int .i64 bm.endC.e)<|?_
 subst bn
 rw[hs]
 exact bh ad (ud bz cx l)
 have ad:=ae a9
 refine aX<|sg<|?_
 refine L0<|bV (hz:=(by rw[M.2];exact aN)) (aK N bk M.1)<|?_
 refine L0<|aT (hz:=(by rw[M.2];exact aN)) (hv:=a7.size) (h1:=a7.one) (ub (ud i (ud j a8 f) g) k) (cv) fun dy cy bA=>Pl 1<|nt<|rt<|dG 22 M.2 cy (.int .i64 0)<|?_
 subst bn
 rw[hs]
 exact bt ad (bq.upd a7 (us N bA) (ah (ag.safe bo _ (by decide)) (ah (aG (ub (ud i (ud bj bl f) g) k) (by decide)) aA))) (ud bz bA l)
 have k1:(c==1)=false:=by simpa using hk.1
 have k2:(c==2)=false:=by simpa using hk.2.1
 have k5:(c==5)=false:=by simpa using hk.2.2.1
 have r:(c==15)=false:=by simpa using hk.2.2.2
 refine L0<|kv (hf:=(uD (q:=.u8) (x:=c) #[⟨.int .u8 1,.agg #[.func (.func 196) #[.agg #[.pointer (some ⟨d,0,none⟩),.pointer (some ⟨a,0,none⟩)]] #[],.func (.func 197) #[.agg #[.pointer (some ⟨d,0,none⟩),.pointer (some ⟨a,0,none⟩)]] #[]],0⟩,⟨.int .u8 2,.agg #[.func (.func 196) #[.agg #[.pointer (some ⟨d,0,none⟩),.pointer (some ⟨a,0,none⟩)]] #[],.func (.func 197) #[.agg #[.pointer (some ⟨d,0,none⟩),.pointer (some ⟨a,0,none⟩)]] #[]],1⟩,⟨.int .u8 5,.agg #[.func (.func 198) #[.agg #[.pointer (some ⟨d,0,none⟩),.pointer (some ⟨a,0,none⟩)]] #[],.func (.func 198) #[.agg #[.pointer (some ⟨d,0,none⟩),.pointer (some ⟨a,0,none⟩)]] #[]],2⟩,⟨.int .u8 15,.agg #[.func (.func 199) #[.agg #[.pointer (some ⟨d,0,none⟩),.pointer (some ⟨a,0,none⟩)]] #[],.func (.func 200) #[.agg #[.pointer (some ⟨d,0,none⟩),.pointer (some ⟨a,0,none⟩)]] #[]],3⟩] (ey _ _ (by intro e he;simp only[List.mem_cons,List.not_mem_nil,or_false] at he;obtain⟨z1,z2,z5,dz⟩:=hk;rcases he with rfl | rfl | rfl | rfl<;>exact⟨_,rfl,fun h=>by simp_all⟩)))) B c (.agg #[.nilFunc,.nilFunc]) none<|Pl 3<|L0<|bD #[.nilFunc,.nilFunc] fun dA dB cz cA cB=>L0<|aT cA #[.nilFunc,.nilFunc] fun dC dD cC=>Pl 1<|nt<|sq<|sg<|Pl 2<|nt<|c1<|?_
 refine sg<|Pl 1<|?_
 have bB:=ud cB cC cz
 refine L0<|aT (ub (aE i (aE j bB)) k) mZ fun dE cD cF=>Pl 1<|nt<|rt<|tr<|bu cD (.int .i64 4)<|?_
 have hs:aj aC 1 c b=(aU.zero,4):=by
   unfold aj aC
   (try simp only[bs,if_true,if_false,decide_true,decide_false,eq_self,true_or,or_true,or_false,false_or,if_true,if_false,cP,cO,cN,cR,reduceIte,k1,k2,k5,r])
   all_goals rfl
 rw[hs]
 exact bT (ud E (uz bB cF) l)
theorem ju{m:Md}{A:Option Addr}{cp:Nat}{b:List Int}{w:World}{dir c:Int}(hcode:B8 c)(hsl:aQ m w (.slice A b.length cp) b)(hb:b.length≤1048576)(hd:¬ (dir=0∨dir=1)) :
    Calls Tryz.prog 138 #[.int .i64 dir,.int .u8 c,.slice A b.length cp] w (dx (aj aC dir c b) w):=by
 obtain⟨hcode1,hcode2⟩:=hcode
 have hln:(b.length:Int)≤1048576:=by omega
 have e0:(dir != 0)=true:=by simp;omega
 have e1:(dir != 1)=true:=by simp;omega
 refine en 72 Tryz.func138 rfl<|sg<|L0<|bD mZ fun g h a d e=>Pl 1<|nt<|sq<|sg<|Pl 3<|sy 16 e0<|Pl 3<|nl<|?_
 refine tn<|ct e1<|sg<|Pl 1<|L0<|aT d mZ fun i dF f=>Pl 1<|nt<|rt<|tr<|bu dF (.int .i64 1)<|?_
 have hs:aj aC dir c b=(aU.zero,1):=by
   unfold aj aC
   (try simp only[e0,e1,bs,if_true,if_false,decide_true,decide_false,eq_self,true_or,or_true,or_false,false_or,if_true,if_false,cP,cO,cN,cR,reduceIte,hd])
   all_goals rfl
 rw[hs]
 exact bT (ud e f a)
theorem lh{m:Md}{v:Value}{b:List Int}{w:World}{dir c:Int}(hc:B8 c)(h:aQ m w v b)(hb:b.length≤1048576) :
    Calls Tryz.prog 138 #[.int .i64 dir,.int .u8 c,v] w (dx (aj aC dir c b) w):=by
  obtain⟨A,cp,rfl,_,_⟩:=h.shape
  by_cases h0:dir=0
  · subst h0;exact jm hc h hb
  by_cases h1:dir=1
  · subst h1;exact jj hc h hb
  exact ju hc h hb (by omega)
open Go.RowKit
def dk (c:ai) : ai:=(c.wordsC 1).need (c.wordV==0 || c.wordV==65535) 6
theorem t7{v:Int}(h:0≤v∧v<65536) : bits .and .u16 v 255=v%256:=by
  rw[u16_and v 255 h.1 h.2 (by decide) (by decide)]
  show((v.toNat &&& (2 ^ 8-1) : Nat) : Int)=_
  rw[Nat.and_two_pow_sub_one_eq_mod]
  omega
def eg (dir sub v:Int) : Bool:=if (sub==2 || (decide (11≤sub)&&decide (sub≤18)))&&dir==1 then true else if sub==1 then v==0 || v==65280 else if sub==3 then v%256==0 else v==0
theorem lI{g:Nat}{c:ai}{w:World}(hc:ag w g c) :
    Calls Tryz.prog 249 #[.pointer (some ⟨g,0,none⟩)] w (jH g .u16 65536 c.wordV (dk c) w):=by
 have hr:=hc.wordV
 refine en 15 Tryz.func249 rfl<|sg<|Pl 1<|ng<|Pl 1<|L0<|Oc<|m3 (bK hc) fun l d e m=>Pl 1<|nt<|sq<|?_
 refine go<|Pl 4<|cu 3 [9] 12 (((c.wordV==0)||(c.wordV==65535))) (fun K b=>?_) ?_
 refine bl 9 ((c.wordV==0)) (fun a=>?_) (fun a=>?_)
 have f:=ap a
 exact Pl 3<|ce b true (by rw[a];rfl)
 have f:=aq a
 exact Pl 3<|ce b (c.wordV==65535) (by rw[a];rfl)
 refine L0<|Oc<|m2 (aS (((c.wordV==0)||(c.wordV==65535))) 6 d) fun n h i=>?_
 refine ab h fun x19 j k=>?_
 refine ng<|Pl 2<|nt<|rt<|rr (.int .u16 c.wordV)<|?_
 subst j
 exact⟨rfl,k,(u1 e i im),hr⟩
theorem qW{v:Int}{w:World}:Calls Tryz.prog 265 #[.int .u16 v] w (c8 (.bool (v==0 || v==65280)) w):=by
 refine en 9 Tryz.func265 rfl<|sg<|Pl 1<|ng<|Pl 3<|cu 3 [5] 8 (((v==0)||(v==65280))) (fun K b=>?_) ?_
 refine bl 5 ((v==0)) (fun a=>?_) (fun a=>?_)
 have c:=ap a
 exact Pl 3<|ce b true (by rw[a];rfl)
 have c:=aq a
 exact Pl 3<|ce b (v==65280) (by rw[a];rfl)
 refine Pl 1<|nt<|rt<|rr (.bool ((v==0)||(v==65280)))<|?_
 exact⟨rfl,(az.refl [] _)⟩
theorem qy{v:Int}{w:World}(hv:0≤v∧v<65536) : Calls Tryz.prog 266 #[.int .u16 v] w (c8 (.bool (v%256==0)) w):=by
 refine en 6 Tryz.func266 rfl<|sg<|Pl 1<|ng<|Pl 1<|L0<|Oe (.int .u16 (bits .and .u16 v 255)) (.int .u16 (v%256)) (congrArg (Value.int .u16) (t7 (by omega)))<|Pl 2<|nt<|rt<|?_
 refine rr (.bool ((v%256)==0))<|?_
 exact⟨rfl,(az.refl [] _)⟩
theorem qI{v x:Int}{gb:Nat}{w:World}(hB:w.heap[gb]? = some (.cells #[.int .u16 v] 24 (0,0))) : Calls Tryz.prog 264 #[.int .u16 x,.pointer (some ⟨gb,0,none⟩)] w (c8 (.bool (v==0)) w):=by
 refine en 6 Tryz.func264 rfl<|sg<|Pl 1<|ng<|L0<|aZ hB 0<|Pl 2<|nt<|rt<|rr (.bool (v==0))<|?_
 exact⟨rfl,(az.refl [] _)⟩
theorem ua{dir v:Int}{w:World}(hv:0≤v∧v<65536) : Calls Tryz.prog 248 #[.int .i64 dir,.int .u16 1,.int .u16 v] w (c8 (.bool (eg dir 1 v)) w):=by
 refine en 42 Tryz.func248 rfl<|sg<|L0<|dC #[.int .u16 v] fun l m n b c=>Pl 1<|ng<|Pl 2<|ng<|?_
 refine L0<|rc fun o p d e f=>L0<|eX e 1 fun q g h=>L0<|eX g 3 fun r i j=>Pl 2<|ng<|Pl 11<|nt<|sq<|sg<|?_
 refine Pl 5<|nt<|c0<|aX<|sg<|Pl 2<|L0<|kv i 1 (.nilFunc) (some (0,.func (.func 265) #[] #[]))<|Pl 5<|nt<|sq<|?_
 refine sg<|Pl 2<|nt<|c0<|aX<|sg<|Pl 1<|?_
 have a:=ud f (u1 h j im) d
 refine L0<|aZ (ub a b) 0<|L0<|gH #[] #[] (args:=#[.int .u16 v])<|m1 (qW) fun s k=>Pl 1<|nt<|rt<|rr (.bool (v==0 || v==65280))<|?_
 have hs:eg dir 1 v=(v==0 || v==65280):=by
   unfold eg
   (try simp only[bs,if_true,if_false,decide_true,decide_false,reduceIte])
   all_goals rfl
 rw[hs]
 exact⟨rfl,(aE c (aE a k))⟩
theorem uy{dir v:Int}{w:World}(hv:0≤v∧v<65536) : Calls Tryz.prog 248 #[.int .i64 dir,.int .u16 3,.int .u16 v] w (c8 (.bool (eg dir 3 v)) w):=by
 refine en 42 Tryz.func248 rfl<|sg<|L0<|dC #[.int .u16 v] fun l m n b c=>Pl 1<|ng<|Pl 2<|ng<|?_
 refine L0<|rc fun o p d e f=>L0<|eX e 1 fun q g h=>L0<|eX g 3 fun r i j=>Pl 2<|ng<|Pl 11<|nt<|sq<|sg<|?_
 refine Pl 5<|nt<|c0<|aX<|sg<|Pl 2<|L0<|kv i 3 (.nilFunc) (some (1,.func (.func 266) #[] #[]))<|Pl 5<|nt<|sq<|?_
 refine sg<|Pl 2<|nt<|c0<|aX<|sg<|Pl 1<|?_
 have a:=ud f (u1 h j im) d
 refine L0<|aZ (ub a b) 0<|L0<|gH #[] #[] (args:=#[.int .u16 v])<|m1 (qy hv) fun s k=>Pl 1<|nt<|rt<|rr (.bool (v%256==0))<|?_
 have hs:eg dir 3 v=(v%256==0):=by
   unfold eg
   (try simp only[bs,if_true,if_false,decide_true,decide_false,reduceIte])
   all_goals rfl
 rw[hs]
 exact⟨rfl,(aE c (aE a k))⟩
theorem tf{dir sub v:Int}{w:World}(hv:0≤v∧v<65536)(h1:sub≠1)(h3:sub≠3) : Calls Tryz.prog 248 #[.int .i64 dir,.int .u16 sub,.int .u16 v] w (c8 (.bool (eg dir sub v)) w):=by
 have n1:(sub==1)=false:=by simpa using h1
 have n3:(sub==3)=false:=by simpa using h3
 refine en 42 Tryz.func248 rfl<|sg<|L0<|dC #[.int .u16 v] fun f G H o p=>Pl 1<|ng<|Pl 2<|ng<|?_
 refine L0<|rc fun I J r s t=>L0<|eX s 1 fun L u y=>L0<|eX u 3 fun M z A=>Pl 2<|ng<|Pl 3<|cu 7 [17] 24 (((sub==2)||((decide (11≤sub))&&(decide (sub≤18))))) (fun K g=>?_) ?_
 refine bl 17 ((sub==2)) (fun a=>?_) (fun a=>?_)
 have B:=ap a
 exact Pl 7<|ce g true (by rw[a];rfl)
 have B:=aq a
 refine Pl 3<|cu 3 [20] 23 (((decide (11≤sub))&&(decide (sub≤18)))) (fun K i=>?_) ?_
 refine bl 20 ((decide (11≤sub))) (fun b=>?_) (fun b=>?_)
 have C:=of_decide_eq_true b
 exact Pl 3<|ce i (decide (sub≤18)) (by rw[b];rfl)
 have C:=of_decide_eq_false b
 exact Pl 3<|ce i false (by rw[b];rfl)
 exact Pl 1<|ce g ((decide (11≤sub))&&(decide (sub≤18))) (by rw[a];rfl)
 refine Pl 1<|nt<|sq<|sg<|Pl 2<|cu 3 [26] 29 ((((sub==2)||((decide (11≤sub))&&(decide (sub≤18))))&&(dir==1))) (fun K j=>?_) ?_
 refine bl 26 (((sub==2)||((decide (11≤sub))&&(decide (sub≤18))))) (fun c=>?_) (fun c=>?_)
 exact Pl 3<|ce j (dir==1) (by rw[c];rfl)
 have D:=(aD c).1
 have N:=(aD c).2
 have O:=aq D
 exact Pl 3<|ce j false (by rw[c];rfl)
 refine nt<|?_
 have k:=ud t (u1 y A im) r
 have l:=aE p k
 refine cb ((((sub==2)||((decide (11≤sub))&&(decide (sub≤18))))&&(dir==1))) (fun d=>?_) (fun d=>?_)
 have E:=(aO d).1
 have m:=(aO d).2
 have P:=ap m
 refine sg<|Pl 1<|nt<|rt<|tr<|rr (.bool true)<|?_
 have hs:eg dir sub v=true:=by
   unfold eg
   (try simp only[d,E,m,bs,if_true,if_false,decide_true,decide_false,n1,n3,reduceIte])
   all_goals rfl
 rw[hs]
 exact⟨rfl,l⟩
 refine aX<|sg<|Pl 2<|L0<|kv (hf:=(uD (q:=.u16) (x:=sub) #[⟨.int .u16 1,.func (.func 265) #[] #[],0⟩,⟨.int .u16 3,.func (.func 266) #[] #[],1⟩] (ey _ _ (by intro e he;simp only[List.mem_cons,List.not_mem_nil,or_false] at he;rcases he with rfl | rfl;exact⟨_,rfl,fun h=>h1 h.symm⟩;exact⟨_,rfl,fun h=>h3 h.symm⟩)))) z sub (.nilFunc) none<|Pl 5<|nt<|sq<|sg<|Pl 2<|nl<|?_
 refine tn<|c1<|go<|Pl 2<|ng<|Pl 1<|?_
 have n:=ub k o
 refine L0<|aZ n 0<|L0<|gH #[] #[.pointer (some ⟨f,0,none⟩)] (args:=#[.int .u16 v,.pointer (some ⟨f,0,none⟩)])<|m1 (qI n) fun Q F=>Pl 1<|nt<|rt<|rr (.bool (v==0))<|?_
 have hs:eg dir sub v=(v==0):=by
   unfold eg
   (try simp only[d,bs,if_true,if_false,decide_true,decide_false,n1,n3,reduceIte])
   all_goals rfl
 rw[hs]
 exact⟨rfl,(aE l F)⟩
theorem se{dir sub v:Int}{w:World}(hv:0≤v∧v<65536) : Calls Tryz.prog 248 #[.int .i64 dir,.int .u16 sub,.int .u16 v] w (c8 (.bool (eg dir sub v)) w):=by
  by_cases h1:sub=1
  · subst h1;exact ua hv
  by_cases h3:sub=3
  · subst h3;exact uy hv
  exact tf hv h1 h3
open Go.RowKit
def ej (dir:Int)(C:ai) : ai:=(C.wordsC 1).need (dw C.wordV&&(dir==0 || C.wordV != 4)) 8
def i8 (C:ai) : ai:=C.need (((C.l.length:Int)%2==0&&decide (2≤(C.l.length:Int)))&&decide ((C.l.length:Int)≤250)) 5
def dX (dir c:Int)(C:ai) : ai × aU :=
  if C.wordV != 0 then (((ej dir C).wordsC 1).need ((((ej dir C).wordsR 1).length:Int)==1&&eg dir C.wordV (((ej dir C).wordsR 1).getD 0 0)) 6,{ aU.zero with code:=c,sub:=C.wordV,words:=(ej dir C).wordsR 1 })
  else ((i8 (ej dir C)).wordsC (((ej dir C).l.length:Int)/2),{ aU.zero with code:=c,sub:=C.wordV,words:=(i8 (ej dir C)).wordsR (((ej dir C).l.length:Int)/2) })
def fw (C:ai)(lo hi:Int) : ai:=(C.bytesC 1).need (decide (lo≤C.byteV)&&decide (C.byteV≤hi)) 5
def fT (C:ai) : ai:=((dk (fw C 6 70)).wordsC 1).wordsC 1
def c9 (c:Int)(C:ai) : ai × aU :=
  if c==7 then (C.bytesC 1,{ aU.zero with code:=c,value:=C.byteV })
  else if c==11 then ((dk C).wordsC 1,{ aU.zero with code:=c,status:=C.wordV,events:=(dk C).wordV })
  else if c==12 then ((fT C).bytesC (C.byteV-6),{ aU.zero with code:=c,status:=(fw C 6 70).wordV,events:=(dk (fw C 6 70)).wordV,messages:=((dk (fw C 6 70)).wordsC 1).wordV,data:=(fT C).bytesR (C.byteV-6) })
  else if c==17 then ((fw C 1 251).bytesC C.byteV,{ aU.zero with code:=c,data:=(fw C 1 251).bytesR C.byteV })
  else (C,{ aU.zero with code:=c })
theorem lZ{g gm:Nat}{dir c:Int}{C:ai}{w:World}(hcode:B8 c)(hC:ag w g C)(hm:w.heap[gm]? = some (.cells #[.int .u8 c,.int .u8 0,.int .u16 0,.int .u16 0,.int .u16 0,.int .u16 0,.int .u16 0,.int .u16 0,.int .u16 0,.int .u16 0,.int .u16 0,.int .u16 0,.slice none 0 0,.slice none 0 0,.slice none 0 0,.slice none 0 0,.int .u8 0,.int .u8 0,.int .u8 0,.int .u8 0,.int .u8 0,.slice none 0 0] 30 (0,0)))(hne:g≠gm) :
    Calls Tryz.prog 206 #[.int .i64 dir,.pointer (some ⟨g,0,none⟩),.pointer (some ⟨gm,0,none⟩)] w (bS g gm (dX dir c C).1 (dX dir c C).2 w):=by
 obtain⟨hcode1,hcode2⟩:=hcode
 have hlen:=hC.len
 refine en 84 Tryz.func206 rfl<|sg<|Pl 2<|L0<|Oc<|m3 (bK hC) fun b1 a4 t b2=>Pl 2<|?_
 have J:=aK t (Ne.symm hne) hm
 refine L0<|bC J 8 (mG c 0 0 0 0 0 0 0 C.wordV 0 0 0 nS nS nS nS 0 0 0 0 0 nS) fun b3 dF L=>ng<|Pl 4<|L0<|aZ dF 8<|L0<|Oc<|m1 (qU (x:=C.wordV) (w:=_)) fun b4 r=>Pl 1<|cu 10 [18] 28 (((dw C.wordV)&&((dir==0)||(C.wordV != 4)))) (fun K M=>?_) ?_
 refine bl 18 ((dw C.wordV)) (fun u=>?_) (fun u=>?_)
 refine Pl 3<|cu 6 [21] 27 (((dir==0)||(C.wordV != 4))) (fun K N=>?_) ?_
 refine bl 21 ((dir==0)) (fun j=>?_) (fun j=>?_)
 have a5:=ap j
 exact Pl 6<|ce N true (by rw[j];rfl)
 have a5:=aq j
 refine Pl 3<|?_
 exact L1<|aZ (ub r dF) 8<|Pl 2<|ce N (C.wordV != 4) (by rw[j];rfl)
 exact Pl 1<|ce M ((dir==0)||(C.wordV != 4)) (by rw[u];rfl)
 exact Pl 10<|ce M false (by rw[u];rfl)
 have O:=aE L r
 refine L0<|Oc<|m2 (aS (((dw C.wordV)&&((dir==0)||(C.wordV != 4)))) 8 (ag.upd a4 O (aa hne am) (ah (aG J (by decide)) aA))) fun b5 a6 y=>?_
 refine ab a6 fun x30 z s=>?_
 refine nt<|sq<|sg<|Pl 3<|?_
 have A:=aK (uz r y) (Ne.symm hne) dF
 refine L0<|aZ A 8<|Pl 1<|nt<|?_
 have d:=ui t (us O y)
 refine cb ((C.wordV != 0)) (fun f=>?_) (fun f=>?_)
 have a7:=al f
 refine sg<|Pl 2<|L0<|Oc<|jc (dm (n:=1) s) fun P Q b6 i b7 b8 R S=>Pl 2<|?_
 have B:=aK S (Ne.symm hne) A
 refine L0<|bC B 12 (mG c 0 0 0 0 0 0 0 C.wordV 0 0 0 (.slice P ((x30.wordsR 1).length) Q) nS nS nS 0 0 0 0 0 nS) fun b9 a8 a9=>nt<|sq<|Rg 22 (fun w'=>w'.cell? ⟨gm,12,none⟩=some (.slice P ((x30.wordsR 1).length) Q)∧w'.cell? ⟨gm,8,none⟩=some (.int .u16 C.wordV)) fun ba T=>?_
 have b:=ub T a8
 refine bg ⟨(au b rfl),(au b rfl)⟩ fun a=>Rt 0 a<|Rt 1 a<|Rt 2 a<|Rt 3 a<|Rl 4 a (fun _ hs=>hs.1)<|Rt 5 a<|Rt 6 a<|Rt 7 a<|?_
 have k:=aE a9 T
 have U:=ut d (us S k) (ac im (ac im av))
 refine sG 47 (((((x30.wordsR 1).length:Nat) : Int)==1)) (fun m=>?_) (fun m=>?_)
 have ad:=ap m
 refine Rt 8 a<|Rt 9 a<|Rt 10 a<|Rt 11 a<|Rl 12 a (fun _ hs=>hs.2)<|Rt 13 a<|Rt 14 a<|Rt 15 a<|Rl 16 a (fun _ hs=>hs.1)<|?_
 have V:=ax i k (fun x hx=>(aa (fun e=>(ay (ak hm) d.size i) (e▸hx)) am)) (fun _ _ h=>h)
 refine f3 (ei.at_ (V).rd 0 (by omega)) fun af aj an ao bb=>R0 17 rfl<|fR ((x30.wordsR 1).length) 0 an (by omega)<|bg ⟨(au b rfl),(au b rfl)⟩ fun bc=>R0 18 rfl<|cY (p:=⟨af,aj+0,none⟩) (v:=.int .u16 ((x30.wordsR 1).getD 0 0)) ao<|bg ⟨(au b rfl),(au b rfl)⟩ fun bd=>R0 19 rfl<|Oc<|m1 (se (dir:=dir) (sub:=C.wordV) (v:=((x30.wordsR 1).getD 0 0)) (by omega)) fun be D=>?_
 have E:=ub D b
 refine bg ⟨(au E rfl),(au E rfl)⟩ fun ar=>Rt 20 ar<|?_
 refine R0 21 rfl<|Oc<|m2 (aS ((eg dir C.wordV ((x30.wordsR 1).getD 0 0))) 6 (ag.upd R (aE k D) (aa hne am) (ah (aG B (by decide)) aA))) fun bf aw W=>?_
 refine ab aw fun bh aC aD=>?_
 have F:=aK W (Ne.symm hne) E
 refine bg ⟨(au F rfl),(au F rfl)⟩ fun bi=>re<|tn<|rt<|tr<|rr (.tuple #[])<|?_
 subst aC z
 have X:=uz D W
 have hs:dX dir c C=(((((C.wordsC 1).need ((dw C.wordV)&&((dir==0)||(C.wordV != 4))) 8).wordsC 1).need (eg dir C.wordV ((((C.wordsC 1).need ((dw C.wordV)&&((dir==0)||(C.wordV != 4))) 8).wordsR 1).getD 0 0)) 6),(aU.mk c 0 0 0 0 0 0 0 C.wordV 0 0 0 (((C.wordsC 1).need ((dw C.wordV)&&((dir==0)||(C.wordV != 4))) 8).wordsR 1) [] [] [] 0 0 0 0 0 [])):=by
   unfold dX ej i8
   (try simp only[f,m,bs,if_true,if_false,decide_true,decide_false,reduceIte])
   all_goals rfl
 rw[hs]
 exact⟨rfl,aD,⟨_,⟨F,rfl⟩,⟨_,_,_,_,_,rfl,((ax V X (fun x hx=>(aa (fun e=>(ay (ag.lt hC) d.size i) (e▸hx)) am)) (fun _ _ h=>h))).rd,aB.nil ..,aB.nil ..,aB.nil ..,aB.nil ..,(bL (by omega))⟩⟩,(az.mono (S':=[g,gm]) (u1 U X im) (t0 (Or.inl (by simp)) (Or.inl (by simp))))⟩
 have ad:=aq m
 refine Ro 8 a<|Ro 9 a<|Ro 10 a<|Ro 11 a<|Ro 12 a<|Ro 13 a<|Ro 14 a<|Ro 15 a<|Ro 16 a<|Ro 17 a<|Ro 18 a<|Ro 19 a<|Rt 20 a<|?_
 refine R0 21 rfl<|Oc<|m2 (aS (false) 6 (ag.upd R k (aa hne am) (ah (aG B (by decide)) aA))) fun bj aF G=>?_
 have H:=aK G (Ne.symm hne) b
 refine bg ⟨(au H rfl),(au H rfl)⟩ fun bk=>re<|tn<|rt<|tr<|rr (.tuple #[])<|?_
 subst z
 have hs:dX dir c C=(((((C.wordsC 1).need ((dw C.wordV)&&((dir==0)||(C.wordV != 4))) 8).wordsC 1).need false 6),(aU.mk c 0 0 0 0 0 0 0 C.wordV 0 0 0 (((C.wordsC 1).need ((dw C.wordV)&&((dir==0)||(C.wordV != 4))) 8).wordsR 1) [] [] [] 0 0 0 0 0 [])):=by
   unfold dX ej i8
   (try simp only[f,m,bs,if_true,if_false,decide_true,decide_false,reduceIte])
   all_goals rfl
 rw[hs]
 exact⟨rfl,aF,⟨_,⟨H,rfl⟩,⟨_,_,_,_,_,rfl,((ax i (us k G) (fun x hx=>(aa (fun e=>(ay (ak hm) d.size i) (e▸hx)) (aa (fun e=>(ay (ag.lt hC) d.size i) (e▸hx)) am))) (fun _ _ h=>h))).rd,aB.nil ..,aB.nil ..,aB.nil ..,aB.nil ..,(bL (by omega))⟩⟩,(az.mono (S':=[g,gm]) (u1 U G im) (t0 (Or.inl (by simp)) (Or.inl (by simp))))⟩
 have a7:=ae f
 refine aX<|sg<|Pl 1<|L0<|Oc<|mq (dv s)<|?_
 have bm:=ag.len s
 refine Pl 1<|ng<|Pl 2<|L0<|Oe (.int .i64 (Int.tmod ((x30.l.length:Nat) : Int) 2)) (.int .i64 (((x30.l.length:Nat) : Int)%2)) (congrArg (Value.int .i64) (Int.tmod_eq_emod_of_nonneg (by omega)))<|Pl 2<|cu 3 [68] 71 ((((((x30.l.length:Nat) : Int)%2)==0)&&(decide (2≤((x30.l.length:Nat) : Int))))) (fun K Y=>?_) ?_
 refine bl 68 (((((x30.l.length:Nat) : Int)%2)==0)) (fun o=>?_) (fun o=>?_)
 have aH:=ap o
 exact Pl 3<|ce Y (decide (2≤((x30.l.length:Nat) : Int))) (by rw[o];rfl)
 have aH:=aq o
 exact Pl 3<|ce Y false (by rw[o];rfl)
 refine Pl 1<|cu 3 [72] 75 (((((((x30.l.length:Nat) : Int)%2)==0)&&(decide (2≤((x30.l.length:Nat) : Int))))&&(decide (((x30.l.length:Nat) : Int)≤250)))) (fun K Z=>?_) ?_
 refine bl 72 ((((((x30.l.length:Nat) : Int)%2)==0)&&(decide (2≤((x30.l.length:Nat) : Int))))) (fun q=>?_) (fun q=>?_)
 have aI:=(aO q).1
 have aJ:=(aO q).2
 have bn:=ap aI
 have bo:=of_decide_eq_true aJ
 exact Pl 3<|ce Z (decide (((x30.l.length:Nat) : Int)≤250)) (by rw[q];rfl)
 exact Pl 3<|ce Z false (by rw[q];rfl)
 refine L0<|Oc<|m2 (aS (((((((x30.l.length:Nat) : Int)%2)==0)&&(decide (2≤((x30.l.length:Nat) : Int))))&&(decide (((x30.l.length:Nat) : Int)≤250)))) 5 s) fun bp aL a0=>?_
 refine ab aL fun aM aN aP=>?_
 refine nt<|go<|Pl 3<|L0<|Oe (.int .i64 (IntKind.i64.wrap (Int.tdiv ((x30.l.length:Nat) : Int) 2))) (.int .i64 (((x30.l.length:Nat) : Int)/2)) (congrArg (Value.int .i64) (eO (by omega) (by omega)))<|L0<|Oc<|jc (dm (n:=(((x30.l.length:Nat) : Int)/2)) aP) fun aQ aR bq a1 br bt aT aV=>?_
 refine ab aT fun bu aW aY=>?_
 refine Pl 2<|?_
 have a2:=u1 a0 aV im
 have a3:=aK a2 (Ne.symm hne) A
 refine L0<|bC a3 12 (mG c 0 0 0 0 0 0 0 C.wordV 0 0 0 (.slice aQ ((aM.wordsR (((x30.l.length:Nat) : Int)/2)).length) aR) nS nS nS 0 0 0 0 0 nS) fun bv b0 I=>nl<|rm (.tuple #[])<|?_
 subst aW aN z
 have hs:dX dir c C=(((((C.wordsC 1).need ((dw C.wordV)&&((dir==0)||(C.wordV != 4))) 8).need ((((((((C.wordsC 1).need ((dw C.wordV)&&((dir==0)||(C.wordV != 4))) 8).l.length:Nat) : Int)%2)==0)&&(decide (2≤((((C.wordsC 1).need ((dw C.wordV)&&((dir==0)||(C.wordV != 4))) 8).l.length:Nat) : Int))))&&(decide (((((C.wordsC 1).need ((dw C.wordV)&&((dir==0)||(C.wordV != 4))) 8).l.length:Nat) : Int)≤250))) 5).wordsC (((((C.wordsC 1).need ((dw C.wordV)&&((dir==0)||(C.wordV != 4))) 8).l.length:Nat) : Int)/2)),(aU.mk c 0 0 0 0 0 0 0 C.wordV 0 0 0 ((((C.wordsC 1).need ((dw C.wordV)&&((dir==0)||(C.wordV != 4))) 8).need ((((((((C.wordsC 1).need ((dw C.wordV)&&((dir==0)||(C.wordV != 4))) 8).l.length:Nat) : Int)%2)==0)&&(decide (2≤((((C.wordsC 1).need ((dw C.wordV)&&((dir==0)||(C.wordV != 4))) 8).l.length:Nat) : Int))))&&(decide (((((C.wordsC 1).need ((dw C.wordV)&&((dir==0)||(C.wordV != 4))) 8).l.length:Nat) : Int)≤250))) 5).wordsR (((((C.wordsC 1).need ((dw C.wordV)&&((dir==0)||(C.wordV != 4))) 8).l.length:Nat) : Int)/2)) [] [] [] 0 0 0 0 0 [])):=by
   unfold dX ej i8
   (try simp only[f,bs,if_true,if_false,decide_true,decide_false,reduceIte])
   all_goals rfl
 rw[hs]
 exact⟨rfl,(ag.upd aY I (aa hne am) (ah (aG a3 (by decide)) aA)),⟨_,⟨b0,rfl⟩,⟨_,_,_,_,_,rfl,((ax a1 I (fun x hx=>(aa (fun e=>(ay (ak hm) (le (le (le (le t.size L.size) r.size) y.size) a0.size) a1) (e▸hx)) am)) (fun _ _ h=>h))).rd,aB.nil ..,aB.nil ..,aB.nil ..,aB.nil ..,(bL (by omega))⟩⟩,(az.mono (S':=[g,gm]) (ut d (us a2 I) (ac im (ac im av))) (t0 (Or.inl (by simp)) (Or.inl (by simp))))⟩
theorem fg{g gm:Nat}{c:Int}{C:ai}{w:World}(hcode:B8 c)(hC:ag w g C)(hm:w.heap[gm]? = some (.cells #[.int .u8 c,.int .u8 0,.int .u16 0,.int .u16 0,.int .u16 0,.int .u16 0,.int .u16 0,.int .u16 0,.int .u16 0,.int .u16 0,.int .u16 0,.int .u16 0,.slice none 0 0,.slice none 0 0,.slice none 0 0,.slice none 0 0,.int .u8 0,.int .u8 0,.int .u8 0,.int .u8 0,.int .u8 0,.slice none 0 0] 30 (0,0)))(hne:g≠gm) :
    Calls Tryz.prog 207 #[.pointer (some ⟨g,0,none⟩),.pointer (some ⟨gm,0,none⟩)] w (bS g gm (c9 c C).1 (c9 c C).2 w):=by
 obtain⟨hcode1,hcode2⟩:=hcode
 have hlen:=hC.len
 refine en 84 Tryz.func207 rfl<|sg<|Pl 3<|L0<|aZ hm 0<|nt<|bk<|sg<|Pl 2<|nt<|cb ((c==7)) (fun a=>?_) (fun a=>?_)
 have M:=ap a
 refine go<|Pl 2<|L0<|Oc<|m3 (bF hC) fun aN N m aO=>L0<|td C.byteV<|Pl 2<|?_
 have o:=aK m (Ne.symm hne) hm
 refine L0<|bC o 4 (mG c 0 0 0 C.byteV 0 0 0 0 0 0 0 nS nS nS nS 0 0 0 0 0 nS) fun aP O p=>nl<|bn<|rm (.tuple #[])<|?_
 have hs:c9 c C=((C.bytesC 1),(aU.mk c 0 0 0 C.byteV 0 0 0 0 0 0 0 [] [] [] [] 0 0 0 0 0 [])):=by
   unfold c9 fT fw
   (try simp only[a,bs,if_true,if_false,decide_true,decide_false,reduceIte])
   all_goals rfl
 rw[hs]
 exact⟨rfl,(ag.upd N p (aa hne am) (ah (aG o (by decide)) aA)),⟨_,⟨O,rfl⟩,⟨_,_,_,_,_,rfl,aB.nil ..,aB.nil ..,aB.nil ..,aB.nil ..,aB.nil ..,(bL (by omega))⟩⟩,(us m p)⟩
 have M:=aq a
 refine sg<|Pl 2<|nt<|cb ((c==11)) (fun b=>?_) (fun b=>?_)
 have P:=ap b
 refine sg<|Pl 2<|L0<|Oc<|m3 (lI hC) fun aR Q q aT=>Pl 2<|?_
 have r:=aK q (Ne.symm hne) hm
 refine L0<|bC r 9 (mG c 0 0 0 0 0 0 0 0 C.wordV 0 0 nS nS nS nS 0 0 0 0 0 nS) fun aV R s=>nt<|go<|Pl 2<|?_
 refine L0<|Oc<|m3 (bK (ag.upd Q s (aa hne am) (ah (aG r (by decide)) aA))) fun aW S t aX=>Pl 2<|?_
 have u:=aK t (Ne.symm hne) R
 refine L0<|bC u 10 (mG c 0 0 0 0 0 0 0 0 C.wordV ((dk C).wordV) 0 nS nS nS nS 0 0 0 0 0 nS) fun aY T v=>nl<|bn<|rm (.tuple #[])<|?_
 have hs:c9 c C=(((dk C).wordsC 1),(aU.mk c 0 0 0 0 0 0 0 0 C.wordV ((dk C).wordV) 0 [] [] [] [] 0 0 0 0 0 [])):=by
   unfold c9 fT fw
   (try simp only[a,b,bs,if_true,if_false,decide_true,decide_false,reduceIte])
   all_goals rfl
 rw[hs]
 exact⟨rfl,(ag.upd S v (aa hne am) (ah (aG u (by decide)) aA)),⟨_,⟨T,rfl⟩,⟨_,_,_,_,_,rfl,aB.nil ..,aB.nil ..,aB.nil ..,aB.nil ..,aB.nil ..,(bL (by omega))⟩⟩,(ui q (ui s (us t v)))⟩
 have P:=aq b
 refine sg<|Pl 2<|nt<|cb ((c==12)) (fun d=>?_) (fun d=>?_)
 have U:=ap d
 refine sg<|Pl 1<|L0<|Oc<|m3 (bF hC) fun b0 V W b1=>L0<|Oi C.byteV<|Pl 1<|ng<|Pl 4<|cu 3 [38] 41 (((decide (6≤C.byteV))&&(decide (C.byteV≤70)))) (fun K x=>?_) ?_
 refine bl 38 ((decide (6≤C.byteV))) (fun e=>?_) (fun e=>?_)
 have X:=of_decide_eq_true e
 exact Pl 3<|ce x (decide (C.byteV≤70)) (by rw[e];rfl)
 have X:=of_decide_eq_false e
 exact Pl 3<|ce x false (by rw[e];rfl)
 refine L0<|Oc<|m2 (aS (((decide (6≤C.byteV))&&(decide (C.byteV≤70)))) 5 V) fun b2 Y Z=>?_
 refine ab Y fun x53 a0 a1=>?_
 refine ng<|Pl 2<|L0<|Oc<|m3 (lI a1) fun b3 a2 a3 b4=>Pl 2<|?_
 have y:=u1 W (u1 Z a3 im) im
 have z:=aK y (Ne.symm hne) hm
 refine L0<|bC z 9 (mG c 0 0 0 0 0 0 0 0 x53.wordV 0 0 nS nS nS nS 0 0 0 0 0 nS) fun b5 a4 A=>ng<|Pl 3<|?_
 refine L0<|Oc<|m3 (bK (ag.upd a2 A (aa hne am) (ah (aG z (by decide)) aA))) fun b6 a5 a6 b7=>Pl 1<|L0<|Oc<|m3 (bK a5) fun b8 a7 a8 b9=>?_
 refine ab a7 fun kq a9 ac=>?_
 refine Pl 2<|?_
 have B:=u1 a6 a8 im
 have D:=aK B (Ne.symm hne) a4
 refine L0<|bC D 10 (mG c 0 0 0 0 0 0 0 0 x53.wordV ((dk x53).wordV) 0 nS nS nS nS 0 0 0 0 0 nS) fun ba ad ae=>Pl 2<|L0<|bC ad 11 (mG c 0 0 0 0 0 0 0 0 x53.wordV ((dk x53).wordV) (((dk x53).wordsC 1).wordV) nS nS nS nS 0 0 0 0 0 nS) fun bb af aj=>nt<|go<|Pl 3<|L0<|Oi (C.byteV-6)<|?_
 have E:=u1 ae aj im
 have F:=ag.upd ac E (aa hne am) (ah (aG D (by decide)) aA)
 refine L0<|Oc<|pm (bW (n:=(C.byteV-6)) F) fun ak al bc an bd be ao G=>?_
 have bf:=Nat.le_trans (ai.bytesR_le kq (C.byteV-6)) (ag.len F)
 refine Pl 2<|?_
 have i:=aK G (Ne.symm hne) af
 refine L0<|bC i 14 (mG c 0 0 0 0 0 0 0 0 x53.wordV ((dk x53).wordV) (((dk x53).wordsC 1).wordV) nS nS (.slice ak ((kq.bytesR (C.byteV-6)).length) al) nS 0 0 0 0 0 nS) fun bg ar j=>nl<|bn<|rm (.tuple #[])<|?_
 subst a9 a0
 have hs:c9 c C=(((((dk ((C.bytesC 1).need ((decide (6≤C.byteV))&&(decide (C.byteV≤70))) 5)).wordsC 1).wordsC 1).bytesC (C.byteV-6)),(aU.mk c 0 0 0 0 0 0 0 0 (((C.bytesC 1).need ((decide (6≤C.byteV))&&(decide (C.byteV≤70))) 5).wordV) ((dk ((C.bytesC 1).need ((decide (6≤C.byteV))&&(decide (C.byteV≤70))) 5)).wordV) (((dk ((C.bytesC 1).need ((decide (6≤C.byteV))&&(decide (C.byteV≤70))) 5)).wordsC 1).wordV) [] [] ((((dk ((C.bytesC 1).need ((decide (6≤C.byteV))&&(decide (C.byteV≤70))) 5)).wordsC 1).wordsC 1).bytesR (C.byteV-6)) [] 0 0 0 0 0 [])):=by
   unfold c9 fT fw
   (try simp only[a,b,d,bs,if_true,if_false,decide_true,decide_false,reduceIte])
   all_goals rfl
 rw[hs]
 exact⟨rfl,(ag.upd ao j (aa hne am) (ah (aG i (by decide)) aA)),⟨_,⟨ar,rfl⟩,⟨_,_,_,_,_,rfl,aB.nil ..,aB.nil ..,(aQ.upd' an j (ah (aG i (by decide)) aA)),aB.nil ..,aB.nil ..,(bL (by omega))⟩⟩,(ui y (ui A (ui B (ui E (us G j)))))⟩
 have U:=aq d
 refine sg<|Pl 2<|nt<|cb ((c==17)) (fun f=>?_) (fun f=>?_)
 have au:=ap f
 refine sg<|Pl 1<|L0<|Oc<|m3 (bF hC) fun bh aw ax bi=>L0<|Oi C.byteV<|Pl 1<|ng<|Pl 4<|cu 3 [73] 76 (((decide (1≤C.byteV))&&(decide (C.byteV≤251)))) (fun K H=>?_) ?_
 refine bl 73 ((decide (1≤C.byteV))) (fun h=>?_) (fun h=>?_)
 have ay:=of_decide_eq_true h
 exact Pl 3<|ce H (decide (C.byteV≤251)) (by rw[h];rfl)
 have ay:=of_decide_eq_false h
 exact Pl 3<|ce H false (by rw[h];rfl)
 refine L0<|Oc<|m2 (aS (((decide (1≤C.byteV))&&(decide (C.byteV≤251)))) 5 aw) fun bj aC aD=>?_
 refine ab aC fun I aE J=>?_
 refine nt<|go<|Pl 3<|L0<|Oc<|pm (bW (n:=C.byteV) J) fun aF aH bm aI bo bp aJ aL=>?_
 have bq:=Nat.le_trans (ai.bytesR_le I C.byteV) (ag.len J)
 refine Pl 2<|?_
 have L:=u1 ax (u1 aD aL im) im
 have k:=aK L (Ne.symm hne) hm
 refine L0<|bC k 14 (mG c 0 0 0 0 0 0 0 0 0 0 0 nS nS (.slice aF ((I.bytesR C.byteV).length) aH) nS 0 0 0 0 0 nS) fun br aM l=>nl<|bn<|rm (.tuple #[])<|?_
 subst aE
 have hs:c9 c C=((((C.bytesC 1).need ((decide (1≤C.byteV))&&(decide (C.byteV≤251))) 5).bytesC C.byteV),(aU.mk c 0 0 0 0 0 0 0 0 0 0 0 [] [] (((C.bytesC 1).need ((decide (1≤C.byteV))&&(decide (C.byteV≤251))) 5).bytesR C.byteV) [] 0 0 0 0 0 [])):=by
   unfold c9 fT fw
   (try simp only[a,b,d,f,bs,if_true,if_false,decide_true,decide_false,reduceIte])
   all_goals rfl
 rw[hs]
 exact⟨rfl,(ag.upd aJ l (aa hne am) (ah (aG k (by decide)) aA)),⟨_,⟨aM,rfl⟩,⟨_,_,_,_,_,rfl,aB.nil ..,aB.nil ..,(aQ.upd' aI l (ah (aG k (by decide)) aA)),aB.nil ..,aB.nil ..,(bL (by omega))⟩⟩,(us L l)⟩
 have au:=aq f
 refine sk<|bn<|rm (.tuple #[])<|?_
 have hs:c9 c C=(C,(aU.mk c 0 0 0 0 0 0 0 0 0 0 0 [] [] [] [] 0 0 0 0 0 [])):=by
   unfold c9 fT fw
   (try simp only[a,b,d,f,bs,if_true,if_false,decide_true,decide_false,reduceIte])
   all_goals rfl
 rw[hs]
 exact⟨rfl,hC,⟨_,⟨hm,rfl⟩,⟨_,_,_,_,_,rfl,aB.nil ..,aB.nil ..,aB.nil ..,aB.nil ..,aB.nil ..,(bL (by omega))⟩⟩,(az.mono (S':=[g,gm]) (az.refl [] _) av)⟩
open Go.RowKit
def aW (dir c:Int)(C:ai) : Option (ai × aU) :=
  if c==8 then some (dX dir c C)
  else if c==7 || c==11 || c==12 || c==17 then (if dir==1 then some (c9 c C) else some (C,{ aU.zero with code:=c }))
  else none
theorem ky{m:Md}{A:Option Addr}{cp:Nat}{b:List Int}{w:World}{c:Int}(hcode:B8 c)(hsl:aQ m w (.slice A b.length cp) b)(hb:b.length≤1048576) :
    Calls Tryz.prog 142 #[.int .i64 0,.int .u8 c,.slice A b.length cp] w (dx (aj aW 0 c b) w):=by
 obtain⟨hcode1,hcode2⟩:=hcode
 have hln:(b.length:Int)≤1048576:=by omega
 refine en 47 Tryz.func142 rfl<|sg<|L0<|bD mZ fun b3 b4 h g N=>Pl 1<|nt<|sq<|sg<|Pl 6<|nt<|c0<|?_
 refine aX<|sg<|Pl 2<|L0<|bD mZ fun b5 b6 p O a9=>L0<|aT O (mC c) fun b7 q P=>ng<|Pl 1<|?_
 have f:=ud a9 P p
 have l:=aE N f
 refine L0<|Oc<|e3 (di (aQ.old hsl l) (by omega)) fun b8 b9 a r d=>Pl 1<|nt<|sq<|sg<|Pl 1<|nt<|bk<|sg<|Pl 2<|nl<|?_
 refine tn<|?_
 have o:=aE l d
 refine cb ((c==8)) (fun i=>?_) (fun i=>?_)
 have aa:=ap i
 refine go<|Pl 2<|?_
 have Q:=nb (ak O) P.size a
 refine L0<|Oc<|m3 (lZ (dir:=0) (c:=c) ⟨hcode1,hcode2⟩ r (ub d q) (Ne.symm Q)) fun ba ad af R=>?_
 obtain⟨am,t,u⟩:=af
 refine ab ad fun x41 S T=>?_
 refine nl<|bn<|tn<|sg<|Pl 1<|L0<|Oc<|m2 (bM T) fun bb U v=>nt<|sq<|sg<|Pl 1<|L0<|Oc<|mq (bp U)<|?_
 have bc:=ag.len U
 refine Pl 1<|ng<|Pl 2<|nt<|?_
 have x:=u1 R v im
 have V:=ut o x (ac (ni l.size a) (ac (ni N.size p) av))
 have hs:aj aW 0 c b=aP ((dX 0 c (ai.mk b false 0)).2) ((dX 0 c (ai.mk b false 0)).1):=by
   unfold aj aW
   (try simp only[i,bs,if_true,if_false,decide_true,decide_false,eq_self,true_or,or_true,or_false,false_or,if_true,if_false,cP,cO,cN,cR,reduceIte])
   all_goals rfl
 refine cb ((x41.endC.e != 0)) (fun y=>?_) (fun y=>?_)
 have z:=al y
 refine sg<|Pl 2<|?_
 refine L0<|aT (ub (ud f (ud d x a) p) g) mZ fun bd an ao=>Pl 1<|nt<|rt<|tr<|bu an (.int .i64 x41.endC.e)<|?_
 subst S
 rw[hs]
 exact bh z (ud V ao h)
 have z:=ae y
 refine aX<|sg<|?_
 refine L0<|bV (hz:=(by rw[t.2];exact aN)) (aK v Q t.1)<|?_
 refine L0<|aT (hz:=(by rw[t.2];exact aN)) (hv:=u.size) (h1:=u.one) (ub (ud f (ud d x a) p) g) (am) fun be ar W=>Pl 1<|nt<|rt<|dG 22 t.2 ar (.int .i64 0)<|?_
 subst S
 rw[hs]
 exact bt z (bq.upd u (us v W) (ah (ag.safe T _ (by decide)) (ah (aG (ub (ud f (ud d R a) p) g) (by decide)) aA))) (ud V W h)
 have aa:=aq i
 refine sq<|sg<|Pl 2<|nt<|cb ((c==7)) (fun j=>?_) (fun j=>?_)
 have au:=ap j
 refine aX<|ct j<|sg<|Pl 2<|nt<|c0<|sk<|bn<|tn<|sg<|?_
 refine Pl 1<|L0<|Oc<|m2 (bM r) fun bf X B=>nt<|sq<|sg<|Pl 1<|L0<|Oc<|mq (bp X)<|?_
 have bg:=ag.len X
 refine Pl 1<|ng<|Pl 2<|nt<|?_
 have Y:=ud o B (le l.size a)
 have hs:aj aW 0 c b=aP (aU.mk c 0 0 0 0 0 0 0 0 0 0 0 [] [] [] [] 0 0 0 0 0 []) (ai.mk b false 0):=by
   unfold aj aW
   (try simp only[i,j,bs,if_true,if_false,decide_true,decide_false,eq_self,true_or,or_true,or_false,false_or,if_true,if_false,cP,cO,cN,cR,reduceIte])
   all_goals rfl
 refine cb (((((ai.mk b false 0).endC).e)!=0)) (fun C=>?_) (fun C=>?_)
 have D:=al C
 refine sg<|Pl 2<|?_
 refine L0<|aT (ub (aE f (ud d B a)) g) mZ fun bi aw ax=>Pl 1<|nt<|rt<|tr<|bu aw (.int .i64 (((ai.mk b false 0).endC).e))<|?_
 rw[hs]
 exact bh D (ud Y ax h)
 have D:=ae C
 refine aX<|sg<|?_
 have Z:=ud d B a
 refine L0<|bV (ub Z q)<|?_
 refine L0<|aT (ub (aE f Z) g) (mC c) fun bj ay az=>Pl 1<|nt<|rt<|bu ay (.int .i64 0)<|?_
 rw[hs]
 exact bt D ⟨_,_,_,_,_,rfl,aB.nil ..,aB.nil ..,aB.nil ..,aB.nil ..,aB.nil ..,(bL (by omega))⟩ (ud Y az h)
 have au:=aq j
 refine sg<|Pl 2<|nt<|cb ((c==11)) (fun k=>?_) (fun k=>?_)
 have aC:=ap k
 refine aX<|ct k<|sg<|Pl 2<|nt<|c0<|sk<|bn<|tn<|sg<|?_
 refine Pl 1<|L0<|Oc<|m2 (bM r) fun bl a0 E=>nt<|sq<|sg<|Pl 1<|L0<|Oc<|mq (bp a0)<|?_
 have bm:=ag.len a0
 refine Pl 1<|ng<|Pl 2<|nt<|?_
 have a1:=ud o E (le l.size a)
 have hs:aj aW 0 c b=aP (aU.mk c 0 0 0 0 0 0 0 0 0 0 0 [] [] [] [] 0 0 0 0 0 []) (ai.mk b false 0):=by
   unfold aj aW
   (try simp only[i,j,k,bs,if_true,if_false,decide_true,decide_false,eq_self,true_or,or_true,or_false,false_or,if_true,if_false,cP,cO,cN,cR,reduceIte])
   all_goals rfl
 refine cb (((((ai.mk b false 0).endC).e)!=0)) (fun F=>?_) (fun F=>?_)
 have G:=al F
 refine sg<|Pl 2<|?_
 refine L0<|aT (ub (aE f (ud d E a)) g) mZ fun bo aD aF=>Pl 1<|nt<|rt<|tr<|bu aD (.int .i64 (((ai.mk b false 0).endC).e))<|?_
 rw[hs]
 exact bh G (ud a1 aF h)
 have G:=ae F
 refine aX<|sg<|?_
 have a2:=ud d E a
 refine L0<|bV (ub a2 q)<|?_
 refine L0<|aT (ub (aE f a2) g) (mC c) fun bv aH aI=>Pl 1<|nt<|rt<|bu aH (.int .i64 0)<|?_
 rw[hs]
 exact bt G ⟨_,_,_,_,_,rfl,aB.nil ..,aB.nil ..,aB.nil ..,aB.nil ..,aB.nil ..,(bL (by omega))⟩ (ud a1 aI h)
 have aC:=aq k
 refine sg<|Pl 2<|nt<|cb ((c==12)) (fun n=>?_) (fun n=>?_)
 have aJ:=ap n
 refine aX<|ct n<|sg<|Pl 2<|nt<|c0<|sk<|bn<|tn<|sg<|?_
 refine Pl 1<|L0<|Oc<|m2 (bM r) fun bw a3 H=>nt<|sq<|sg<|Pl 1<|L0<|Oc<|mq (bp a3)<|?_
 have bx:=ag.len a3
 refine Pl 1<|ng<|Pl 2<|nt<|?_
 have a4:=ud o H (le l.size a)
 have hs:aj aW 0 c b=aP (aU.mk c 0 0 0 0 0 0 0 0 0 0 0 [] [] [] [] 0 0 0 0 0 []) (ai.mk b false 0):=by
   unfold aj aW
   (try simp only[i,j,k,n,bs,if_true,if_false,decide_true,decide_false,eq_self,true_or,or_true,or_false,false_or,if_true,if_false,cP,cO,cN,cR,reduceIte])
   all_goals rfl
 refine cb (((((ai.mk b false 0).endC).e)!=0)) (fun I=>?_) (fun I=>?_)
 have J:=al I
 refine sg<|Pl 2<|?_
 refine L0<|aT (ub (aE f (ud d H a)) g) mZ fun bz aL aM=>Pl 1<|nt<|rt<|tr<|bu aL (.int .i64 (((ai.mk b false 0).endC).e))<|?_
 rw[hs]
 exact bh J (ud a4 aM h)
 have J:=ae I
 refine aX<|sg<|?_
 have a5:=ud d H a
 refine L0<|bV (ub a5 q)<|?_
 refine L0<|aT (ub (aE f a5) g) (mC c) fun bA aO aR=>Pl 1<|nt<|rt<|bu aO (.int .i64 0)<|?_
 rw[hs]
 exact bt J ⟨_,_,_,_,_,rfl,aB.nil ..,aB.nil ..,aB.nil ..,aB.nil ..,aB.nil ..,(bL (by omega))⟩ (ud a4 aR h)
 have aJ:=aq n
 refine go<|Pl 2<|nt<|cb ((c==17)) (fun s=>?_) (fun s=>?_)
 have aS:=ap s
 refine sg<|Pl 2<|nt<|c0<|sk<|bn<|tn<|sg<|Pl 1<|L0<|Oc<|m2 (bM r) fun bB a6 K=>nl<|?_
 refine tn<|sq<|sg<|Pl 1<|L0<|Oc<|mq (bp a6)<|?_
 have bC:=ag.len a6
 refine Pl 1<|ng<|Pl 2<|nt<|?_
 have a7:=ud o K (le l.size a)
 have hs:aj aW 0 c b=aP (aU.mk c 0 0 0 0 0 0 0 0 0 0 0 [] [] [] [] 0 0 0 0 0 []) (ai.mk b false 0):=by
   unfold aj aW
   (try simp only[i,j,k,n,s,bs,if_true,if_false,decide_true,decide_false,eq_self,true_or,or_true,or_false,false_or,if_true,if_false,cP,cO,cN,cR,reduceIte])
   all_goals rfl
 refine cb (((((ai.mk b false 0).endC).e)!=0)) (fun L=>?_) (fun L=>?_)
 have M:=al L
 refine sg<|Pl 2<|?_
 refine L0<|aT (ub (aE f (ud d K a)) g) mZ fun bE aV aY=>Pl 1<|nt<|rt<|tr<|bu aV (.int .i64 (((ai.mk b false 0).endC).e))<|?_
 rw[hs]
 exact bh M (ud a7 aY h)
 have M:=ae L
 refine aX<|sg<|?_
 have a8:=ud d K a
 refine L0<|bV (ub a8 q)<|?_
 refine L0<|aT (ub (aE f a8) g) (mC c) fun bF aZ b0=>Pl 1<|nt<|rt<|bu aZ (.int .i64 0)<|?_
 rw[hs]
 exact bt M ⟨_,_,_,_,_,rfl,aB.nil ..,aB.nil ..,aB.nil ..,aB.nil ..,aB.nil ..,(bL (by omega))⟩ (ud a7 b0 h)
 have aS:=aq s
 refine sg<|Pl 1<|?_
 refine L0<|aT (ub (aE f d) g) mZ fun bG b1 b2=>Pl 1<|nt<|rt<|br<|tr<|bu b1 (.int .i64 4)<|?_
 have hs:aj aW 0 c b=(aU.zero,4):=by
   unfold aj aW
   (try simp only[i,j,k,n,s,bs,if_true,if_false,decide_true,decide_false,eq_self,true_or,or_true,or_false,false_or,if_true,if_false,cP,cO,cN,cR,reduceIte])
   all_goals rfl
 rw[hs]
 exact bT (ud o b2 h)
theorem kA{m:Md}{A:Option Addr}{cp:Nat}{b:List Int}{w:World}{c:Int}(hcode:B8 c)(hsl:aQ m w (.slice A b.length cp) b)(hb:b.length≤1048576) :
    Calls Tryz.prog 142 #[.int .i64 1,.int .u8 c,.slice A b.length cp] w (dx (aj aW 1 c b) w):=by
 obtain⟨hcode1,hcode2⟩:=hcode
 have hln:(b.length:Int)≤1048576:=by omega
 refine en 47 Tryz.func142 rfl<|sg<|L0<|bD mZ fun bR bS i h p=>Pl 1<|nt<|sq<|sg<|Pl 6<|nt<|c0<|?_
 refine aX<|sg<|Pl 2<|L0<|bD mZ fun bU bW f q b3=>L0<|aT q (mC c) fun bX t r=>ng<|Pl 1<|?_
 have g:=ud b3 r f
 have n:=aE p g
 refine L0<|Oc<|e3 (di (aQ.old hsl n) (by omega)) fun bY bZ a u d=>Pl 1<|nt<|sq<|sg<|Pl 1<|nt<|bk<|sg<|Pl 2<|nl<|?_
 refine tn<|?_
 have s:=aE n d
 refine cb ((c==8)) (fun j=>?_) (fun j=>?_)
 have b4:=ap j
 refine go<|Pl 2<|?_
 have a2:=nb (ak q) r.size a
 refine L0<|Oc<|m3 (lZ (dir:=1) (c:=c) ⟨hcode1,hcode2⟩ u (ub d t) (Ne.symm a2)) fun c2 b5 b6 a3=>?_
 obtain⟨b7,x,D⟩:=b6
 refine ab b5 fun x41 a4 a5=>?_
 refine nl<|bn<|tn<|sg<|Pl 1<|L0<|Oc<|m2 (bM a5) fun c3 a6 E=>nt<|sq<|sg<|Pl 1<|L0<|Oc<|mq (bp a6)<|?_
 have c4:=ag.len a6
 refine Pl 1<|ng<|Pl 2<|nt<|?_
 have F:=u1 a3 E im
 have a7:=ut s F (ac (ni n.size a) (ac (ni p.size f) av))
 have hs:aj aW 1 c b=aP ((dX 1 c (ai.mk b false 0)).2) ((dX 1 c (ai.mk b false 0)).1):=by
   unfold aj aW
   (try simp only[j,bs,if_true,if_false,decide_true,decide_false,eq_self,true_or,or_true,or_false,false_or,if_true,if_false,cP,cO,cN,cR,reduceIte])
   all_goals rfl
 refine cb ((x41.endC.e != 0)) (fun G=>?_) (fun G=>?_)
 have H:=al G
 refine sg<|Pl 2<|?_
 refine L0<|aT (ub (ud g (ud d F a) f) h) mZ fun c5 b8 b9=>Pl 1<|nt<|rt<|tr<|bu b8 (.int .i64 x41.endC.e)<|?_
 subst a4
 rw[hs]
 exact bh H (ud a7 b9 i)
 have H:=ae G
 refine aX<|sg<|?_
 refine L0<|bV (hz:=(by rw[x.2];exact aN)) (aK E a2 x.1)<|?_
 refine L0<|aT (hz:=(by rw[x.2];exact aN)) (hv:=D.size) (h1:=D.one) (ub (ud g (ud d F a) f) h) (b7) fun c6 ba a8=>Pl 1<|nt<|rt<|dG 22 x.2 ba (.int .i64 0)<|?_
 subst a4
 rw[hs]
 exact bt H (bq.upd D (us E a8) (ah (ag.safe a5 _ (by decide)) (ah (aG (ub (ud g (ud d a3 a) f) h) (by decide)) aA))) (ud a7 a8 i)
 have b4:=aq j
 refine sq<|sg<|Pl 2<|nt<|cb ((c==7)) (fun k=>?_) (fun k=>?_)
 have bb:=ap k
 refine aX<|ct k<|sg<|Pl 2<|nt<|c1<|go<|Pl 1<|?_
 have a9:=nb (ak q) r.size a
 refine L0<|Oc<|m3 (fg (c:=c) ⟨hcode1,hcode2⟩ u (ub d t) (Ne.symm a9)) fun c7 bc bd aa=>?_
 obtain⟨be,y,I⟩:=bd
 refine ab bc fun x81 ad af=>?_
 refine nl<|bn<|tn<|sg<|Pl 1<|L0<|Oc<|m2 (bM af) fun c8 am J=>nt<|sq<|sg<|Pl 1<|L0<|Oc<|mq (bp am)<|?_
 have ca:=ag.len am
 refine Pl 1<|ng<|Pl 2<|nt<|?_
 have K:=u1 aa J im
 have an:=ut s K (ac (ni n.size a) (ac (ni p.size f) av))
 have hs:aj aW 1 c b=aP ((c9 c (ai.mk b false 0)).2) ((c9 c (ai.mk b false 0)).1):=by
   unfold aj aW
   (try simp only[j,k,bs,if_true,if_false,decide_true,decide_false,eq_self,true_or,or_true,or_false,false_or,if_true,if_false,cP,cO,cN,cR,reduceIte])
   all_goals rfl
 refine cb ((x81.endC.e != 0)) (fun L=>?_) (fun L=>?_)
 have M:=al L
 refine sg<|Pl 2<|?_
 refine L0<|aT (ub (ud g (ud d K a) f) h) mZ fun cc bf bg=>Pl 1<|nt<|rt<|tr<|bu bf (.int .i64 x81.endC.e)<|?_
 subst ad
 rw[hs]
 exact bh M (ud an bg i)
 have M:=ae L
 refine aX<|sg<|?_
 refine L0<|bV (hz:=(by rw[y.2];exact aN)) (aK J a9 y.1)<|?_
 refine L0<|aT (hz:=(by rw[y.2];exact aN)) (hv:=I.size) (h1:=I.one) (ub (ud g (ud d K a) f) h) (be) fun cd bi ao=>Pl 1<|nt<|rt<|dG 22 y.2 bi (.int .i64 0)<|?_
 subst ad
 rw[hs]
 exact bt M (bq.upd I (us J ao) (ah (ag.safe af _ (by decide)) (ah (aG (ub (ud g (ud d aa a) f) h) (by decide)) aA))) (ud an ao i)
 have bb:=aq k
 refine sg<|Pl 2<|nt<|cb ((c==11)) (fun l=>?_) (fun l=>?_)
 have bj:=ap l
 refine aX<|ct l<|sg<|Pl 2<|nt<|c1<|go<|Pl 1<|?_
 have ar:=nb (ak q) r.size a
 refine L0<|Oc<|m3 (fg (c:=c) ⟨hcode1,hcode2⟩ u (ub d t) (Ne.symm ar)) fun ce bl bm au=>?_
 obtain⟨bo,z,N⟩:=bm
 refine ab bl fun aw ax ay=>?_
 refine nl<|bn<|tn<|sg<|Pl 1<|L0<|Oc<|m2 (bM ay) fun cf az O=>nt<|sq<|sg<|Pl 1<|L0<|Oc<|mq (bp az)<|?_
 have cg:=ag.len az
 refine Pl 1<|ng<|Pl 2<|nt<|?_
 have P:=u1 au O im
 have aB:=ut s P (ac (ni n.size a) (ac (ni p.size f) av))
 have hs:aj aW 1 c b=aP ((c9 c (ai.mk b false 0)).2) ((c9 c (ai.mk b false 0)).1):=by
   unfold aj aW
   (try simp only[j,k,l,bs,if_true,if_false,decide_true,decide_false,eq_self,true_or,or_true,or_false,false_or,if_true,if_false,cP,cO,cN,cR,reduceIte])
   all_goals rfl
 refine cb ((aw.endC.e != 0)) (fun Q=>?_) (fun Q=>?_)
 have R:=al Q
 refine sg<|Pl 2<|?_
 refine L0<|aT (ub (ud g (ud d P a) f) h) mZ fun ch bv bw=>Pl 1<|nt<|rt<|tr<|bu bv (.int .i64 aw.endC.e)<|?_
 subst ax
 rw[hs]
 exact bh R (ud aB bw i)
 have R:=ae Q
 refine aX<|sg<|?_
 refine L0<|bV (hz:=(by rw[z.2];exact aN)) (aK O ar z.1)<|?_
 refine L0<|aT (hz:=(by rw[z.2];exact aN)) (hv:=N.size) (h1:=N.one) (ub (ud g (ud d P a) f) h) (bo) fun ci bx aC=>Pl 1<|nt<|rt<|dG 22 z.2 bx (.int .i64 0)<|?_
 subst ax
 rw[hs]
 exact bt R (bq.upd N (us O aC) (ah (ag.safe ay _ (by decide)) (ah (aG (ub (ud g (ud d au a) f) h) (by decide)) aA))) (ud aB aC i)
 have bj:=aq l
 refine sg<|Pl 2<|nt<|cb ((c==12)) (fun o=>?_) (fun o=>?_)
 have bz:=ap o
 refine aX<|ct o<|sg<|Pl 2<|nt<|c1<|go<|Pl 1<|?_
 have aD:=nb (ak q) r.size a
 refine L0<|Oc<|m3 (fg (c:=c) ⟨hcode1,hcode2⟩ u (ub d t) (Ne.symm aD)) fun cj bA bB aF=>?_
 obtain⟨bC,B,S⟩:=bB
 refine ab bA fun aH aI aJ=>?_
 refine nl<|bn<|tn<|sg<|Pl 1<|L0<|Oc<|m2 (bM aJ) fun ck aL T=>nt<|sq<|sg<|Pl 1<|L0<|Oc<|mq (bp aL)<|?_
 have cl:=ag.len aL
 refine Pl 1<|ng<|Pl 2<|nt<|?_
 have U:=u1 aF T im
 have aM:=ut s U (ac (ni n.size a) (ac (ni p.size f) av))
 have hs:aj aW 1 c b=aP ((c9 c (ai.mk b false 0)).2) ((c9 c (ai.mk b false 0)).1):=by
   unfold aj aW
   (try simp only[j,k,l,o,bs,if_true,if_false,decide_true,decide_false,eq_self,true_or,or_true,or_false,false_or,if_true,if_false,cP,cO,cN,cR,reduceIte])
   all_goals rfl
 refine cb ((aH.endC.e != 0)) (fun V=>?_) (fun V=>?_)
 have W:=al V
 refine sg<|Pl 2<|?_
 refine L0<|aT (ub (ud g (ud d U a) f) h) mZ fun cm bE bF=>Pl 1<|nt<|rt<|tr<|bu bE (.int .i64 aH.endC.e)<|?_
 subst aI
 rw[hs]
 exact bh W (ud aM bF i)
 have W:=ae V
 refine aX<|sg<|?_
 refine L0<|bV (hz:=(by rw[B.2];exact aN)) (aK T aD B.1)<|?_
 refine L0<|aT (hz:=(by rw[B.2];exact aN)) (hv:=S.size) (h1:=S.one) (ub (ud g (ud d U a) f) h) (bC) fun cn bG aO=>Pl 1<|nt<|rt<|dG 22 B.2 bG (.int .i64 0)<|?_
 subst aI
 rw[hs]
 exact bt W (bq.upd S (us T aO) (ah (ag.safe aJ _ (by decide)) (ah (aG (ub (ud g (ud d aF a) f) h) (by decide)) aA))) (ud aM aO i)
 have bz:=aq o
 refine go<|Pl 2<|nt<|cb ((c==17)) (fun v=>?_) (fun v=>?_)
 have bH:=ap v
 refine sg<|Pl 2<|nt<|c1<|go<|Pl 1<|?_
 have aR:=nb (ak q) r.size a
 refine L0<|Oc<|m3 (fg (c:=c) ⟨hcode1,hcode2⟩ u (ub d t) (Ne.symm aR)) fun co bI bJ aS=>?_
 obtain⟨bK,C,X⟩:=bJ
 refine ab bI fun aV aY aZ=>?_
 refine nl<|bn<|tn<|sg<|Pl 1<|L0<|Oc<|m2 (bM aZ) fun cq b0 Y=>nt<|sq<|sg<|Pl 1<|L0<|Oc<|mq (bp b0)<|?_
 have cr:=ag.len b0
 refine Pl 1<|ng<|Pl 2<|nt<|?_
 have Z:=u1 aS Y im
 have b1:=ut s Z (ac (ni n.size a) (ac (ni p.size f) av))
 have hs:aj aW 1 c b=aP ((c9 c (ai.mk b false 0)).2) ((c9 c (ai.mk b false 0)).1):=by
   unfold aj aW
   (try simp only[j,k,l,o,v,bs,if_true,if_false,decide_true,decide_false,eq_self,true_or,or_true,or_false,false_or,if_true,if_false,cP,cO,cN,cR,reduceIte])
   all_goals rfl
 refine cb ((aV.endC.e != 0)) (fun a0=>?_) (fun a0=>?_)
 have a1:=al a0
 refine sg<|Pl 2<|?_
 refine L0<|aT (ub (ud g (ud d Z a) f) h) mZ fun cs bL bN=>Pl 1<|nt<|rt<|tr<|bu bL (.int .i64 aV.endC.e)<|?_
 subst aY
 rw[hs]
 exact bh a1 (ud b1 bN i)
 have a1:=ae a0
 refine aX<|sg<|?_
 refine L0<|bV (hz:=(by rw[C.2];exact aN)) (aK Y aR C.1)<|?_
 refine L0<|aT (hz:=(by rw[C.2];exact aN)) (hv:=X.size) (h1:=X.one) (ub (ud g (ud d Z a) f) h) (bK) fun cu bO b2=>Pl 1<|nt<|rt<|dG 22 C.2 bO (.int .i64 0)<|?_
 subst aY
 rw[hs]
 exact bt a1 (bq.upd X (us Y b2) (ah (ag.safe aZ _ (by decide)) (ah (aG (ub (ud g (ud d aS a) f) h) (by decide)) aA))) (ud b1 b2 i)
 have bH:=aq v
 refine sg<|Pl 1<|?_
 refine L0<|aT (ub (aE g d) h) mZ fun cv bP bQ=>Pl 1<|nt<|rt<|br<|tr<|bu bP (.int .i64 4)<|?_
 have hs:aj aW 1 c b=(aU.zero,4):=by
   unfold aj aW
   (try simp only[j,k,l,o,v,bs,if_true,if_false,decide_true,decide_false,eq_self,true_or,or_true,or_false,false_or,if_true,if_false,cP,cO,cN,cR,reduceIte])
   all_goals rfl
 rw[hs]
 exact bT (ud s bQ i)
theorem kI{m:Md}{A:Option Addr}{cp:Nat}{b:List Int}{w:World}{dir c:Int}(hcode:B8 c)(hsl:aQ m w (.slice A b.length cp) b)(hb:b.length≤1048576)(hd:¬ (dir=0∨dir=1)) :
    Calls Tryz.prog 142 #[.int .i64 dir,.int .u8 c,.slice A b.length cp] w (dx (aj aW dir c b) w):=by
 obtain⟨hcode1,hcode2⟩:=hcode
 have hln:(b.length:Int)≤1048576:=by omega
 have e0:(dir != 0)=true:=by simp;omega
 have e1:(dir != 1)=true:=by simp;omega
 refine en 47 Tryz.func142 rfl<|sg<|L0<|bD mZ fun g h a d e=>Pl 1<|nt<|sq<|sg<|Pl 3<|sy 13 e0<|Pl 3<|nl<|?_
 refine tn<|ct e1<|sg<|Pl 1<|L0<|aT d mZ fun i dF f=>Pl 1<|nt<|rt<|tr<|bu dF (.int .i64 1)<|?_
 have hs:aj aW dir c b=(aU.zero,1):=by
   unfold aj aW
   (try simp only[e0,e1,bs,if_true,if_false,decide_true,decide_false,eq_self,true_or,or_true,or_false,false_or,if_true,if_false,cP,cO,cN,cR,reduceIte,hd])
   all_goals rfl
 rw[hs]
 exact bT (ud e f a)
theorem mY{m:Md}{v:Value}{b:List Int}{w:World}{dir c:Int}(hc:B8 c)(h:aQ m w v b)(hb:b.length≤1048576) :
    Calls Tryz.prog 142 #[.int .i64 dir,.int .u8 c,v] w (dx (aj aW dir c b) w):=by
  obtain⟨A,cp,rfl,_,_⟩:=h.shape
  by_cases h0:dir=0
  · subst h0;exact ky hc h hb
  by_cases h1:dir=1
  · subst h1;exact kA hc h hb
  exact kI hc h hb (by omega)
open Go.RowKit
def e9:Nat→ai→List Obj→ai × List Obj
  | 0,C,L=>(C,L)
  | n+1,C,L=>e9 n (((C.bytesC 1).bytesC 1).bytesC (C.bytesC 1).byteV) (L++[⟨C.byteV,((C.bytesC 1).bytesC 1).bytesR (C.bytesC 1).byteV⟩])
def kH (C:ai) : ai:=(C.bytesC 1).need (bI C.byteV) 6
def kn (C:ai) : ai:=((kH C).bytesC 1).need ((kH C).byteV==0 || (kH C).byteV==255) 6
def qY (C:ai) : ai:=((kn C).bytesC 1).need ((kH C).byteV != 0 || (kn C).byteV==0) 6
def uo (kd:Int)(C:ai) : ai:=((qY C).bytesC 1).need (kd != 4 || (qY C).byteV==1) 5
def eo (kd:Int)(C:ai) : ai × List Obj:=e9 (qY C).byteV.toNat (uo kd C) []
theorem mJ{g gm:Nat}{c me kd:Int}{C0:ai}{w:World}(hcode:B8 c)(hme:B8 me)(hkd:B8 kd)(hC:ag w g C0)(hm:w.heap[gm]? = some (.cells #[.int .u8 c,.int .u8 0,.int .u16 0,.int .u16 0,.int .u16 0,.int .u16 0,.int .u16 0,.int .u16 0,.int .u16 0,.int .u16 0,.int .u16 0,.int .u16 0,.slice none 0 0,.slice none 0 0,.slice none 0 0,.slice none 0 0,.int .u8 me,.int .u8 kd,.int .u8 0,.int .u8 0,.int .u8 0,.slice none 0 0] 30 (0,0)))(hne:g≠gm) :
    Calls Tryz.prog 213 #[.pointer (some ⟨g,0,none⟩),.pointer (some ⟨gm,0,none⟩)] w (bS g gm (eo kd C0).1 { aU.zero with code:=c,mei:=me,kind:=kd,level:=C0.byteV,more:=(kH C0).byteV,next:=(kn C0).byteV,objects:=(eo kd C0).2 } w):=by
 obtain⟨hcode1,hcode2⟩:=hcode
 obtain⟨hme1,hme2⟩:=hme
 obtain⟨hkd1,hkd2⟩:=hkd
 refine en 92 Tryz.func213 rfl<|sg<|Pl 2<|L0<|Oc<|m3 (bF hC) fun cR bN b cT=>Pl 2<|?_
 have an:=aK b (Ne.symm hne) hm
 refine L0<|bC an 18 (mG c 0 0 0 0 0 0 0 0 0 0 0 nS nS nS nS me kd C0.byteV 0 0 nS) fun cU dF j=>ng<|Pl 4<|L0<|aZ dF 18<|L0<|Oc<|m1 (o2 (x:=C0.byteV) (w:=_)) fun cV d=>?_
 have ao:=aE j d
 refine L0<|Oc<|m2 (aS ((bI C0.byteV)) 6 (ag.upd bN ao (aa hne am) (ah (aG an (by decide)) aA))) fun cW bO l=>?_
 refine ab bO fun x25 bP bQ=>?_
 refine ng<|Pl 2<|L0<|Oc<|m3 (bF bQ) fun cX bR o cY=>Pl 2<|?_
 have ar:=u1 l o im
 have au:=aK (uz d ar) (Ne.symm hne) dF
 refine L0<|bC au 19 (mG c 0 0 0 0 0 0 0 0 0 0 0 nS nS nS nS me kd C0.byteV x25.byteV 0 nS) fun cZ U f=>ng<|Pl 4<|L0<|aZ U 19<|Pl 2<|cu 6 [29] 35 (((x25.byteV==0)||(x25.byteV==255))) (fun K aw=>?_) ?_
 refine bl 29 ((x25.byteV==0)) (fun E=>?_) (fun E=>?_)
 have bT:=ap E
 exact Pl 6<|ce aw true (by rw[E];rfl)
 have bT:=aq E
 exact Pl 3<|L1<|aZ U 19<|Pl 2<|ce aw (x25.byteV==255) (by rw[E];rfl)
 refine L0<|Oc<|m2 (aS (((x25.byteV==0)||(x25.byteV==255))) 6 (ag.upd bR f (aa hne am) (ah (aG au (by decide)) aA))) fun d0 bU p=>?_
 refine ab bU fun x44 bV bX=>?_
 refine ng<|Pl 2<|L0<|Oc<|m3 (bF bX) fun d1 bY q d2=>Pl 2<|?_
 have aC:=u1 p q im
 have aD:=aK aC (Ne.symm hne) U
 refine L0<|bC aD 20 (mG c 0 0 0 0 0 0 0 0 0 0 0 nS nS nS nS me kd C0.byteV x25.byteV x44.byteV nS) fun d3 V h=>ng<|Pl 4<|L0<|aZ V 19<|Pl 2<|cu 6 [48] 54 (((x25.byteV != 0)||(x44.byteV==0))) (fun K aF=>?_) ?_
 refine bl 48 ((x25.byteV != 0)) (fun F=>?_) (fun F=>?_)
 have bZ:=al F
 exact Pl 6<|ce aF true (by rw[F];rfl)
 have bZ:=ae F
 exact Pl 3<|L1<|aZ V 20<|Pl 2<|ce aF (x44.byteV==0) (by rw[F];rfl)
 refine L0<|Oc<|m2 (aS (((x25.byteV != 0)||(x44.byteV==0))) 6 (ag.upd bY h (aa hne am) (ah (aG aD (by decide)) aA))) fun d4 c0 r=>?_
 refine ab c0 fun x62 c1 c2=>?_
 refine ng<|Pl 1<|L0<|Oc<|m3 (bF c2) fun d5 c3 s d6=>L0<|Oi x62.byteV<|Pl 1<|ng<|Pl 4<|?_
 have aH:=u1 r s im
 have aI:=aK aH (Ne.symm hne) V
 refine L0<|aZ aI 17<|Pl 2<|cu 3 [65] 68 (((kd != 4)||(x62.byteV==1))) (fun K aJ=>?_) ?_
 refine bl 65 ((kd != 4)) (fun G=>?_) (fun G=>?_)
 have c4:=al G
 exact Pl 3<|ce aJ true (by rw[G];rfl)
 have c4:=ae G
 exact Pl 3<|ce aJ (x62.byteV==1) (by rw[G];rfl)
 refine L0<|Oc<|m2 (aS (((kd != 4)||(x62.byteV==1))) 5 c3) fun W c5 i=>?_
 refine ab c5 fun x76 c6 c7=>?_
 refine ng<|Pl 2<|nt<|bk<|?_
 refine gI (fun x=>[(0,.pointer (some ⟨g,0,none⟩)),(1,.pointer (some ⟨gm,0,none⟩)),(70,.int .i64 x62.byteV),(71,.int .i64 ((x.1:Nat) : Int))]) (fun(x:Nat × ai × List Obj × Option Addr × Nat) w'=>az [g,gm] W w'∧ag w' g x.2.1∧w'.heap[gm]? = some (.cells #[.int .u8 c,.int .u8 0,.int .u16 0,.int .u16 0,.int .u16 0,.int .u16 0,.int .u16 0,.int .u16 0,.int .u16 0,.int .u16 0,.int .u16 0,.int .u16 0,.slice none 0 0,.slice none 0 0,.slice none 0 0,.slice none 0 0,.int .u8 me,.int .u8 kd,.int .u8 C0.byteV,.int .u8 x25.byteV,.int .u8 x44.byteV,.slice x.2.2.2.1 x.2.2.1.length x.2.2.2.2] 30 (0,0))∧b6 W.heap.size 111 2 (cS true) w' (.slice x.2.2.2.1 x.2.2.1.length x.2.2.2.2) x.2.2.1∧(x.1≤x62.byteV.toNat)∧(e9 (x62.byteV.toNat-x.1) x.2.1 x.2.2.1=e9 x62.byteV.toNat x76 [])∧(x.2.2.1.length≤x.1)) (fun x=>x62.byteV.toNat-x.1) (0,x76,[],none,0) ⟨az.refl _ _,c7,(aK i (Ne.symm hne) aI),b6.nil ..,(by(try dsimp only);omega),(by(try dsimp only);rw[Nat.sub_zero]),(by(try dsimp only);(try simp only[List.length_append,List.length_cons,List.length_nil]);omega)⟩ ?_
 rintro⟨k,C,L,A,cp⟩ X ⟨v,c8,c9,ca,cd,cf,cg⟩
 refine gJ [(0,.pointer (some ⟨g,0,none⟩)),(1,.pointer (some ⟨gm,0,none⟩)),(70,.int .i64 x62.byteV),(71,.int .i64 ((k:Nat) : Int))] ?_
 have u:ag X g C:=c8
 have D:X.heap[gm]? = some (.cells #[.int .u8 c,.int .u8 0,.int .u16 0,.int .u16 0,.int .u16 0,.int .u16 0,.int .u16 0,.int .u16 0,.int .u16 0,.int .u16 0,.int .u16 0,.int .u16 0,.slice none 0 0,.slice none 0 0,.slice none 0 0,.slice none 0 0,.int .u8 me,.int .u8 kd,.int .u8 C0.byteV,.int .u8 x25.byteV,.int .u8 x44.byteV,.slice A L.length cp] 30 (0,0)):=c9
 have a:b6 W.heap.size 111 2 (cS true) X (.slice A L.length cp) L:=ca
 have d7:k≤x62.byteV.toNat:=cd
 have d8:e9 (x62.byteV.toNat-k) C L=e9 x62.byteV.toNat x76 []:=cf
 have d9:L.length≤k:=cg
 have hobj:e9 (x62.byteV.toNat-k) C L=e9 x62.byteV.toNat x76 []:=by assumption
 refine sg<|Pl 1<|nt<|sq<|?_
 refine cb ((decide (((k:Nat) : Int)<x62.byteV))) (fun Y=>?_) (fun Y=>?_)
 have ch:=of_decide_eq_true Y
 refine aX<|sq<|bk<|sg<|Pl 1<|L0<|Oc<|m3 (bF u) fun da aL y db=>Pl 1<|nt<|Rg 17 (fun w'=>True) fun dc t=>bg trivial fun z=>Rt 0 z<|?_
 refine Rt 1 z<|Rt 2 z<|Rt 3 z<|Rt 5 z<|Rt 6 z<|Rt 7 z<|?_
 refine R2 4 8 rfl rfl ?_ ?_
 have Z:=aE y t
 have a0:=aK Z (Ne.symm hne) D
 refine  aZ a0 21<|bg trivial fun dd=>?_
 refine R0 8 rfl<|Oc<|m3 (bF (ag.old aL t)) fun de aN a1 df=>bg trivial fun ci=>Rr 9 ci (.int .i64 ((C.bytesC 1).byteV)) (fun _ _=>ck (.int .i64 (IntKind.i64.wrap ((C.bytesC 1).byteV))) (by kernel_rfl) (congrArg (Value.int .i64) (i64_in (by omega))))<|R0 10 rfl<|Oc<|pm (bW (n:=(C.bytesC 1).byteV) aN) fun cj cl dg cm dh di cn a2=>?_
 have dj:=Nat.le_trans (ai.bytesR_le ((C.bytesC 1).bytesC 1) ((C.bytesC 1).byteV)) (ag.len aN)
 refine ab cn fun dk co cq=>?_
 refine bg trivial fun cr=>Rt 11 cr<|R0 12 rfl<|gA (m:=1) (e:=111) #[.int .u8 C.byteV,.slice cj ((((C.bytesC 1).bytesC 1).bytesR ((C.bytesC 1).byteV)).length) cl] fun dl dm dn cs I=>?_
 have ct:=ip (R:=cS true) (x:=(Obj.mk C.byteV (((C.bytesC 1).bytesC 1).bytesR ((C.bytesC 1).byteV)))) cs rfl ⟨_,rfl,(aQ.upd' cm I aA),b8 (by omega)⟩
 refine bg trivial fun dp=>?_
 have aO:=u1 a1 (aE a2 I) im
 have a3:=u1 Z aO im
 have aP:=ax a a3 (fun x hx=>(aa (fun e=>(ay (ag.lt hC) (le (le (le (le (le (le (le (le (le (le (le b.size j.size) d.size) l.size) o.size) f.size) p.size) q.size) h.size) r.size) s.size) i.size) a) (e▸hx)) am)) (cS.upd8 a3 (ah (ag.safe u _ (by decide)) aA))
 refine R0 13 rfl<|fm (xs:=L) (ys:=([(Obj.mk C.byteV (((C.bytesC 1).bytesC 1).bytesR ((C.bytesC 1).byteV)))])) (.agg #[.int .u8 0,.slice none 0 0]) 2 32 aP ct (by simp) cS.ones (fun w' hv=>cS.upd8 hv (cc (cF _ aP (by decide)) aA)) (by(try simp only[List.length_append,List.length_cons,List.length_nil,bB]);omega) (le (le (le (le (le v.size y.size) t.size) a1.size) a2.size) I.size) fun aR aT dq aV aW=>bg trivial fun aY=>Rt 14 aY<|Rt 15 aY<|?_
 have b0:=az.blk (ut (az.mono (S':=(g :: (ob A++[]))) aO (ac im av)) aW (aM il av)) (aa (Ne.symm hne) (bi (ay (ak hm) (le (le (le (le (le (le (le (le (le (le (le b.size j.size) d.size) l.size) o.size) f.size) p.size) q.size) h.size) r.size) s.size) i.size) a) am)) a0
 refine R0 16 rfl<|bC b0 21 (mG c 0 0 0 0 0 0 0 0 0 0 0 nS nS nS nS me kd C0.byteV x25.byteV x44.byteV (.slice aR ((L++[(Obj.mk C.byteV (((C.bytesC 1).bytesC 1).bytesR ((C.bytesC 1).byteV)))]).length) aT)) fun dr cv a4=>bg trivial fun ds=>re<|bn<|tn<|go<|L0<|Oi (((k:Nat) : Int)+1)<|Pl 1<|nl<|?_
 subst co
 have b1:=u1 (az.mono (S':=(ob A++(gm :: []))) aW (aM il av)) a4 im
 have b2:=u1 a1 a2 im
 have b3:=u1 Z b2 im
 exact ek ((k+1),(((C.bytesC 1).bytesC 1).bytesC ((C.bytesC 1).byteV)),(L++[(Obj.mk C.byteV (((C.bytesC 1).bytesC 1).bytesR ((C.bytesC 1).byteV)))]),aR,aT) ⟨(ut v (ut (az.mono (S':=(g :: (ob A++(gm :: [])))) a3 (ac im av)) b1 (aM il (ac im av))) (ac im (aM (cC a lr) (ac im av)))),(ag.upd cq (ut (az.mono (S':=(ob A++(gm :: []))) I av) b1 (aM il (ac im av))) (bi (ay (ag.lt hC) (le (le (le (le (le (le (le (le (le (le (le b.size j.size) d.size) l.size) o.size) f.size) p.size) q.size) h.size) r.size) s.size) i.size) a) (aa hne am)) (cc (cF _ (ax a b3 (fun x hx=>(aa (fun e=>(ay (ag.lt hC) (le (le (le (le (le (le (le (le (le (le (le b.size j.size) d.size) l.size) o.size) f.size) p.size) q.size) h.size) r.size) s.size) i.size) a) (e▸hx)) am)) (cS.upd8 b3 (ah (ag.safe u _ (by decide)) aA))) (by decide)) (ah (aG (aK b2 (Ne.symm hne) a0) (by decide)) aA))),cv,(ax aV a4 (fun x hx=>(aa (fun e=>(ay (ak hm) (le (le (le (le (le (le (le (le (le (le (le b.size j.size) d.size) l.size) o.size) f.size) p.size) q.size) h.size) r.size) s.size) i.size) aV) (e▸hx)) am)) (cS.upd8 a4 (ah (aG b0 (by decide)) aA))),(by(try dsimp only);omega),(by(try dsimp only);rw[← hobj,show x62.byteV.toNat-k=(x62.byteV.toNat-(k+1))+1 from by omega];rfl),(by(try dsimp only);(try simp only[List.length_append,List.length_cons,List.length_nil]);omega)⟩ (by omega)
 refine  Oc<|m3 (bF (ag.old aL t)) fun dt J B du=>bg trivial fun cw=>Rr 9 cw (.int .i64 ((C.bytesC 1).byteV)) (fun _ _=>ck (.int .i64 (IntKind.i64.wrap ((C.bytesC 1).byteV))) (by kernel_rfl) (congrArg (Value.int .i64) (i64_in (by omega))))<|?_
 refine R2 4 10 rfl rfl ?_ ?_
 have a5:=u1 y (uz t B) im
 have a6:=aK a5 (Ne.symm hne) D
 refine  aZ a6 21<|bg trivial fun dv=>R0 10 rfl<|Oc<|pm (bW (n:=(C.bytesC 1).byteV) J) fun cx cy dw cz dx dy cA M=>?_
 have dz:=Nat.le_trans (ai.bytesR_le ((C.bytesC 1).bytesC 1) ((C.bytesC 1).byteV)) (ag.len J)
 refine ab cA fun dA cB cD=>?_
 refine bg trivial fun cE=>Rt 11 cE<|R0 12 rfl<|gA (m:=1) (e:=111) #[.int .u8 C.byteV,.slice cx ((((C.bytesC 1).bytesC 1).bytesR ((C.bytesC 1).byteV)).length) cy] fun dB dC dD cG N=>?_
 have cH:=ip (R:=cS true) (x:=(Obj.mk C.byteV (((C.bytesC 1).bytesC 1).bytesR ((C.bytesC 1).byteV)))) cG rfl ⟨_,rfl,(aQ.upd' cz N aA),b8 (by omega)⟩
 refine bg trivial fun dE=>?_
 have b4:=aE M N
 have a7:=u1 a5 b4 im
 have b5:=ax a a7 (fun x hx=>(aa (fun e=>(ay (ag.lt hC) (le (le (le (le (le (le (le (le (le (le (le b.size j.size) d.size) l.size) o.size) f.size) p.size) q.size) h.size) r.size) s.size) i.size) a) (e▸hx)) am)) (cS.upd8 a7 (ah (ag.safe u _ (by decide)) aA))
 refine R0 13 rfl<|fm (xs:=L) (ys:=([(Obj.mk C.byteV (((C.bytesC 1).bytesC 1).bytesR ((C.bytesC 1).byteV)))])) (.agg #[.int .u8 0,.slice none 0 0]) 2 32 b5 cH (by simp) cS.ones (fun w' hv=>cS.upd8 hv (cc (cF _ b5 (by decide)) aA)) (by(try simp only[List.length_append,List.length_cons,List.length_nil,bB]);omega) (le (le (le (le (le v.size y.size) t.size) B.size) M.size) N.size) fun b7 b9 dG ba bb=>bg trivial fun bc=>Rt 14 bc<|Rt 15 bc<|?_
 have bd:=az.blk (ut (az.mono (S':=(g :: (ob A++[]))) b4 (ac im av)) bb (aM il av)) (aa (Ne.symm hne) (bi (ay (ak hm) (le (le (le (le (le (le (le (le (le (le (le b.size j.size) d.size) l.size) o.size) f.size) p.size) q.size) h.size) r.size) s.size) i.size) a) am)) a6
 refine R0 16 rfl<|bC bd 21 (mG c 0 0 0 0 0 0 0 0 0 0 0 nS nS nS nS me kd C0.byteV x25.byteV x44.byteV (.slice b7 ((L++[(Obj.mk C.byteV (((C.bytesC 1).bytesC 1).bytesR ((C.bytesC 1).byteV)))]).length) b9)) fun dH cI a8=>bg trivial fun dI=>re<|bn<|tn<|go<|L0<|Oi (((k:Nat) : Int)+1)<|Pl 1<|nl<|?_
 subst cB
 have be:=u1 (az.mono (S':=(ob A++(gm :: []))) bb (aM il av)) a8 im
 have bf:=u1 a5 M im
 exact ek ((k+1),(((C.bytesC 1).bytesC 1).bytesC ((C.bytesC 1).byteV)),(L++[(Obj.mk C.byteV (((C.bytesC 1).bytesC 1).bytesR ((C.bytesC 1).byteV)))]),b7,b9) ⟨(ut v (ut (az.mono (S':=(g :: (ob A++(gm :: [])))) a7 (ac im av)) be (aM il (ac im av))) (ac im (aM (cC a lr) (ac im av)))),(ag.upd cD (ut (az.mono (S':=(ob A++(gm :: []))) N av) be (aM il (ac im av))) (bi (ay (ag.lt hC) (le (le (le (le (le (le (le (le (le (le (le b.size j.size) d.size) l.size) o.size) f.size) p.size) q.size) h.size) r.size) s.size) i.size) a) (aa hne am)) (cc (cF _ (ax a bf (fun x hx=>(aa (fun e=>(ay (ag.lt hC) (le (le (le (le (le (le (le (le (le (le (le b.size j.size) d.size) l.size) o.size) f.size) p.size) q.size) h.size) r.size) s.size) i.size) a) (e▸hx)) am)) (cS.upd8 bf (ah (ag.safe u _ (by decide)) aA))) (by decide)) (ah (aG (aK M (Ne.symm hne) a6) (by decide)) aA))),cI,(ax ba a8 (fun x hx=>(aa (fun e=>(ay (ak hm) (le (le (le (le (le (le (le (le (le (le (le b.size j.size) d.size) l.size) o.size) f.size) p.size) q.size) h.size) r.size) s.size) i.size) ba) (e▸hx)) am)) (cS.upd8 a8 (ah (aG bd (by decide)) aA))),(by(try dsimp only);omega),(by(try dsimp only);rw[← hobj,show x62.byteV.toNat-k=(x62.byteV.toNat-(k+1))+1 from by omega];rfl),(by(try dsimp only);(try simp only[List.length_append,List.length_cons,List.length_nil]);omega)⟩ (by omega)
 refine  Oc<|pm (bW (n:=(C.bytesC 1).byteV) J) fun bh bj dK bm dL dM cJ H=>?_
 have dN:=Nat.le_trans (ai.bytesR_le ((C.bytesC 1).bytesC 1) ((C.bytesC 1).byteV)) (ag.len J)
 refine ab cJ fun dO bo bp=>?_
 refine bg trivial fun cK=>Rt 11 cK<|?_
 refine R2 4 12 rfl rfl ?_ ?_
 have O:=u1 y (uz t (u1 B H im)) im
 have a9:=aK O (Ne.symm hne) D
 refine  aZ a9 21<|bg trivial fun dP=>R0 12 rfl<|gA (m:=1) (e:=111) #[.int .u8 C.byteV,.slice bh ((((C.bytesC 1).bytesC 1).bytesR ((C.bytesC 1).byteV)).length) bj] fun dQ dR dS cL P=>?_
 have cM:=ip (R:=cS true) (x:=(Obj.mk C.byteV (((C.bytesC 1).bytesC 1).bytesR ((C.bytesC 1).byteV)))) cL rfl ⟨_,rfl,(aQ.upd' bm P aA),b8 (by omega)⟩
 refine bg trivial fun dT=>?_
 have ad:=aE O P
 have bq:=ax a ad (fun x hx=>(aa (fun e=>(ay (ag.lt hC) (le (le (le (le (le (le (le (le (le (le (le b.size j.size) d.size) l.size) o.size) f.size) p.size) q.size) h.size) r.size) s.size) i.size) a) (e▸hx)) am)) (cS.upd8 ad (ah (ag.safe u _ (by decide)) aA))
 refine R0 13 rfl<|fm (xs:=L) (ys:=([(Obj.mk C.byteV (((C.bytesC 1).bytesC 1).bytesR ((C.bytesC 1).byteV)))])) (.agg #[.int .u8 0,.slice none 0 0]) 2 32 bq cM (by simp) cS.ones (fun w' hv=>cS.upd8 hv (cc (cF _ bq (by decide)) aA)) (by(try simp only[List.length_append,List.length_cons,List.length_nil,bB]);omega) (le (le (le (le (le v.size y.size) t.size) B.size) H.size) P.size) fun br bs dU bt bu=>bg trivial fun bv=>Rt 14 bv<|Rt 15 bv<|?_
 have bw:=ut (az.mono (S':=(ob A++[])) P av) bu (aM il av)
 have bz:=az.blk bw (bi (ay (ak hm) (le (le (le (le (le (le (le (le (le (le (le b.size j.size) d.size) l.size) o.size) f.size) p.size) q.size) h.size) r.size) s.size) i.size) a) am) a9
 refine R0 16 rfl<|bC bz 21 (mG c 0 0 0 0 0 0 0 0 0 0 0 nS nS nS nS me kd C0.byteV x25.byteV x44.byteV (.slice br ((L++[(Obj.mk C.byteV (((C.bytesC 1).bytesC 1).bytesR ((C.bytesC 1).byteV)))]).length) bs)) fun dV cN Q=>bg trivial fun dW=>re<|bn<|tn<|go<|L0<|Oi (((k:Nat) : Int)+1)<|Pl 1<|nl<|?_
 subst bo
 exact ek ((k+1),(((C.bytesC 1).bytesC 1).bytesC ((C.bytesC 1).byteV)),(L++[(Obj.mk C.byteV (((C.bytesC 1).bytesC 1).bytesR ((C.bytesC 1).byteV)))]),br,bs) ⟨(ut v (ut (az.mono (S':=(g :: (ob A++(gm :: [])))) ad (ac im av)) (u1 (az.mono (S':=(ob A++(gm :: []))) bu (aM il av)) Q im) (aM il (ac im av))) (ac im (aM (cC a lr) (ac im av)))),(ag.upd bp (u1 (az.mono (S':=(ob A++(gm :: []))) bw (aM il av)) Q im) (bi (ay (ag.lt hC) (le (le (le (le (le (le (le (le (le (le (le b.size j.size) d.size) l.size) o.size) f.size) p.size) q.size) h.size) r.size) s.size) i.size) a) (aa hne am)) (cc (cF _ (ax a O (fun x hx=>(aa (fun e=>(ay (ag.lt hC) (le (le (le (le (le (le (le (le (le (le (le b.size j.size) d.size) l.size) o.size) f.size) p.size) q.size) h.size) r.size) s.size) i.size) a) (e▸hx)) am)) (cS.upd8 O (ah (ag.safe u _ (by decide)) aA))) (by decide)) (ah (aG a9 (by decide)) aA))),cN,(ax bt Q (fun x hx=>(aa (fun e=>(ay (ak hm) (le (le (le (le (le (le (le (le (le (le (le b.size j.size) d.size) l.size) o.size) f.size) p.size) q.size) h.size) r.size) s.size) i.size) bt) (e▸hx)) am)) (cS.upd8 Q (ah (aG bz (by decide)) aA))),(by(try dsimp only);omega),(by(try dsimp only);rw[← hobj,show x62.byteV.toNat-k=(x62.byteV.toNat-(k+1))+1 from by omega];rfl),(by(try dsimp only);(try simp only[List.length_append,List.length_cons,List.length_nil]);omega)⟩ (by omega)
 refine  gA (m:=1) (e:=111) #[.int .u8 C.byteV,.slice bh ((((C.bytesC 1).bytesC 1).bytesR ((C.bytesC 1).byteV)).length) bj] fun dX dY dZ cO S=>?_
 have cP:=ip (R:=cS true) (x:=(Obj.mk C.byteV (((C.bytesC 1).bytesC 1).bytesR ((C.bytesC 1).byteV)))) cO rfl ⟨_,rfl,(aQ.upd' bm S aA),b8 (by omega)⟩
 refine bg trivial fun e0=>?_
 have T:=u1 y (uz t (u1 B (aE H S) im)) im
 have bA:=aK T (Ne.symm hne) D
 refine R0 4 rfl<|aZ bA 21<|bg trivial fun e1=>?_
 have bD:=ax a T (fun x hx=>(aa (fun e=>(ay (ag.lt hC) (le (le (le (le (le (le (le (le (le (le (le b.size j.size) d.size) l.size) o.size) f.size) p.size) q.size) h.size) r.size) s.size) i.size) a) (e▸hx)) am)) (cS.upd8 T (ah (ag.safe u _ (by decide)) aA))
 refine R0 13 rfl<|fm (xs:=L) (ys:=([(Obj.mk C.byteV (((C.bytesC 1).bytesC 1).bytesR ((C.bytesC 1).byteV)))])) (.agg #[.int .u8 0,.slice none 0 0]) 2 32 bD cP (by simp) cS.ones (fun w' hv=>cS.upd8 hv (cc (cF _ bD (by decide)) aA)) (by(try simp only[List.length_append,List.length_cons,List.length_nil,bB]);omega) (le (le (le (le (le v.size y.size) t.size) B.size) H.size) S.size) fun bE bG e2 bH bJ=>bg trivial fun bK=>Rt 14 bK<|Rt 15 bK<|?_
 have bL:=az.blk bJ (bi (ay (ak hm) (le (le (le (le (le (le (le (le (le (le (le b.size j.size) d.size) l.size) o.size) f.size) p.size) q.size) h.size) r.size) s.size) i.size) a) am) bA
 refine R0 16 rfl<|bC bL 21 (mG c 0 0 0 0 0 0 0 0 0 0 0 nS nS nS nS me kd C0.byteV x25.byteV x44.byteV (.slice bE ((L++[(Obj.mk C.byteV (((C.bytesC 1).bytesC 1).bytesR ((C.bytesC 1).byteV)))]).length) bG)) fun e3 cQ af=>bg trivial fun e4=>re<|bn<|tn<|go<|L0<|Oi (((k:Nat) : Int)+1)<|Pl 1<|nl<|?_
 subst bo
 have bM:=u1 (az.mono (S':=(ob A++(gm :: []))) bJ (aM il av)) af im
 have aj:=u1 y (uz t (u1 B H im)) im
 exact ek ((k+1),(((C.bytesC 1).bytesC 1).bytesC ((C.bytesC 1).byteV)),(L++[(Obj.mk C.byteV (((C.bytesC 1).bytesC 1).bytesR ((C.bytesC 1).byteV)))]),bE,bG) ⟨(ut v (ut (az.mono (S':=(g :: (ob A++(gm :: [])))) T (ac im av)) bM (aM il (ac im av))) (ac im (aM (cC a lr) (ac im av)))),(ag.upd bp (ut (az.mono (S':=(ob A++(gm :: []))) S av) bM (aM il (ac im av))) (bi (ay (ag.lt hC) (le (le (le (le (le (le (le (le (le (le (le b.size j.size) d.size) l.size) o.size) f.size) p.size) q.size) h.size) r.size) s.size) i.size) a) (aa hne am)) (cc (cF _ (ax a aj (fun x hx=>(aa (fun e=>(ay (ag.lt hC) (le (le (le (le (le (le (le (le (le (le (le b.size j.size) d.size) l.size) o.size) f.size) p.size) q.size) h.size) r.size) s.size) i.size) a) (e▸hx)) am)) (cS.upd8 aj (ah (ag.safe u _ (by decide)) aA))) (by decide)) (ah (aG (aK aj (Ne.symm hne) D) (by decide)) aA))),cQ,(ax bH af (fun x hx=>(aa (fun e=>(ay (ak hm) (le (le (le (le (le (le (le (le (le (le (le b.size j.size) d.size) l.size) o.size) f.size) p.size) q.size) h.size) r.size) s.size) i.size) bH) (e▸hx)) am)) (cS.upd8 af (ah (aG bL (by decide)) aA))),(by(try dsimp only);omega),(by(try dsimp only);rw[← hobj,show x62.byteV.toNat-k=(x62.byteV.toNat-(k+1))+1 from by omega];rfl),(by(try dsimp only);(try simp only[List.length_append,List.length_cons,List.length_nil]);omega)⟩ (by omega)
 have ch:=of_decide_eq_false Y
 refine xt<|tx<|tx<|bx<|rm (.tuple #[])<|?_
 subst c6 c1 bV bP
 have hf:eo kd C0=(C,L):=by
   have h1:e9 ((((((C0.bytesC 1).need (bI C0.byteV) 6).bytesC 1).need ((((C0.bytesC 1).need (bI C0.byteV) 6).byteV==0)||(((C0.bytesC 1).need (bI C0.byteV) 6).byteV==255)) 6).bytesC 1).need ((((C0.bytesC 1).need (bI C0.byteV) 6).byteV != 0)||(((((C0.bytesC 1).need (bI C0.byteV) 6).bytesC 1).need ((((C0.bytesC 1).need (bI C0.byteV) 6).byteV==0)||(((C0.bytesC 1).need (bI C0.byteV) 6).byteV==255)) 6).byteV==0)) 6).byteV.toNat ((((((((C0.bytesC 1).need (bI C0.byteV) 6).bytesC 1).need ((((C0.bytesC 1).need (bI C0.byteV) 6).byteV==0)||(((C0.bytesC 1).need (bI C0.byteV) 6).byteV==255)) 6).bytesC 1).need ((((C0.bytesC 1).need (bI C0.byteV) 6).byteV != 0)||(((((C0.bytesC 1).need (bI C0.byteV) 6).bytesC 1).need ((((C0.bytesC 1).need (bI C0.byteV) 6).byteV==0)||(((C0.bytesC 1).need (bI C0.byteV) 6).byteV==255)) 6).byteV==0)) 6).bytesC 1).need ((kd != 4)||(((((((C0.bytesC 1).need (bI C0.byteV) 6).bytesC 1).need ((((C0.bytesC 1).need (bI C0.byteV) 6).byteV==0)||(((C0.bytesC 1).need (bI C0.byteV) 6).byteV==255)) 6).bytesC 1).need ((((C0.bytesC 1).need (bI C0.byteV) 6).byteV != 0)||(((((C0.bytesC 1).need (bI C0.byteV) 6).bytesC 1).need ((((C0.bytesC 1).need (bI C0.byteV) 6).byteV==0)||(((C0.bytesC 1).need (bI C0.byteV) 6).byteV==255)) 6).byteV==0)) 6).byteV==1)) 5) []=(C,L):=by
     rw[← hobj,show((((((C0.bytesC 1).need (bI C0.byteV) 6).bytesC 1).need ((((C0.bytesC 1).need (bI C0.byteV) 6).byteV==0)||(((C0.bytesC 1).need (bI C0.byteV) 6).byteV==255)) 6).bytesC 1).need ((((C0.bytesC 1).need (bI C0.byteV) 6).byteV != 0)||(((((C0.bytesC 1).need (bI C0.byteV) 6).bytesC 1).need ((((C0.bytesC 1).need (bI C0.byteV) 6).byteV==0)||(((C0.bytesC 1).need (bI C0.byteV) 6).byteV==255)) 6).byteV==0)) 6).byteV.toNat-k=0 from by omega]
     rfl
   exact h1
 rw[hf]
 exact⟨rfl,u,⟨_,⟨D,rfl⟩,⟨_,_,_,_,_,rfl,aB.nil ..,aB.nil ..,aB.nil ..,aB.nil ..,(a).rd,⟨(b8 (x:=c) (by omega)),(b8 (x:=0) (by omega)),(dJ (x:=0) (by omega)),(dJ (x:=0) (by omega)),(dJ (x:=0) (by omega)),(dJ (x:=0) (by omega)),(dJ (x:=0) (by omega)),(dJ (x:=0) (by omega)),(dJ (x:=0) (by omega)),(dJ (x:=0) (by omega)),(dJ (x:=0) (by omega)),(dJ (x:=0) (by omega)),(b8 (x:=me) (by omega)),(b8 (x:=kd) (by omega)),(b8 (x:=C0.byteV) (by omega)),(b8 (x:=((C0.bytesC 1).need (bI C0.byteV) 6).byteV) (by omega)),(b8 (x:=((((C0.bytesC 1).need (bI C0.byteV) 6).bytesC 1).need ((((C0.bytesC 1).need (bI C0.byteV) 6).byteV==0)||(((C0.bytesC 1).need (bI C0.byteV) 6).byteV==255)) 6).byteV) (by omega))⟩⟩⟩,(ui b (ui ao (ui ar (ui f (ui aC (ui h (ui aH (ui i v))))))))⟩
open Go.RowKit
def dt (C:ai) : ai:=(C.bytesC 1).need (C.byteV==13 || C.byteV==14) 8
def eG (C:ai) : ai:=(dt C).need (decide (((dt C).l.length:Int)≤251)) 5
def fQ (C:ai) : ai:=((dt C).bytesC 1).need (decide (1≤(dt C).byteV)&&decide ((dt C).byteV≤4)) 6
def bJ (dir c:Int)(C:ai) : Option (ai × aU) :=
  if c != 43 then none
  else if C.byteV==13 then some ((eG C).bytesC ((eG C).l.length:Int),{ aU.zero with code:=c,mei:=C.byteV,data:=(eG C).bytesR ((eG C).l.length:Int) })
  else if dir==1 then some ((eo (dt C).byteV (fQ C)).1,{ aU.zero with code:=c,mei:=C.byteV,kind:=(dt C).byteV,level:=(fQ C).byteV,more:=(kH (fQ C)).byteV,next:=(kn (fQ C)).byteV,objects:=(eo (dt C).byteV (fQ C)).2 })
  else some ((fQ C).bytesC 1,{ aU.zero with code:=c,mei:=C.byteV,kind:=(dt C).byteV,next:=(fQ C).byteV })
theorem lN{m:Md}{A:Option Addr}{cp:Nat}{b:List Int}{w:World}{c:Int}(hcode:B8 c)(hsl:aQ m w (.slice A b.length cp) b)(hb:b.length≤1048576) :
    Calls Tryz.prog 146 #[.int .i64 0,.int .u8 c,.slice A b.length cp] w (dx (aj bJ 0 c b) w):=by
 obtain⟨hcode1,hcode2⟩:=hcode
 have hln:(b.length:Int)≤1048576:=by omega
 refine en 81 Tryz.func146 rfl<|sg<|L0<|bD mZ fun N bc p h i=>Pl 1<|nt<|sq<|bk<|sg<|Pl 7<|nt<|?_
 refine c0<|sg<|Pl 3<|nt<|cb ((c != 43)) (fun o=>?_) (fun o=>?_)
 have aw:=al o
 refine sg<|Pl 1<|L0<|aT h mZ fun bd ax ay=>Pl 1<|nt<|rt<|br<|tr<|bu ax (.int .i64 4)<|?_
 have hs:aj bJ 0 c b=(aU.zero,4):=by
   unfold aj bJ eG fQ dt
   (try simp only[o,bs,if_true,if_false,decide_true,decide_false,eq_self,true_or,or_true,or_false,false_or,if_true,if_false,cP,cO,cN,cR,reduceIte])
   all_goals rfl
 rw[hs]
 exact bT (ud i ay p)
 have aw:=ae o
 refine sk<|bn<|tn<|sg<|Pl 1<|?_
 refine L0<|Oc<|e3 (di (aQ.old hsl i) (by omega)) fun O be a P j=>Pl 1<|ng<|Pl 2<|L0<|Oc<|m3 (bF P) fun bf aC f bg=>Pl 1<|L0<|bD mZ fun Q bi g aD aF=>L0<|aT aD (mG c 0 0 0 0 0 0 0 0 0 0 0 nS nS nS nS ((ai.mk b false 0).byteV) 0 0 0 0 nS) fun bj B aH=>nt<|sq<|?_
 refine go<|Pl 2<|L0<|aZ B 16<|Pl 2<|cu 4 [33] 37 (((((ai.mk b false 0).byteV)==13)||(((ai.mk b false 0).byteV)==14))) (fun K R=>?_) ?_
 refine bl 33 ((((ai.mk b false 0).byteV)==13)) (fun q=>?_) (fun q=>?_)
 have aI:=ap q
 exact Pl 4<|ce R true (by rw[q];rfl)
 have aI:=aq q
 exact Pl 1<|L1<|aZ B 16<|Pl 2<|ce R (((ai.mk b false 0).byteV)==14) (by rw[q];rfl)
 have S:=ud aF aH g
 refine L0<|Oc<|m2 (aS (((((ai.mk b false 0).byteV)==13)||(((ai.mk b false 0).byteV)==14))) 8 (ag.old aC S)) fun bm aJ T=>?_
 refine ab aJ fun gz t u=>?_
 refine nt<|sq<|sg<|Pl 1<|?_
 have d:=nb (ag.lt P) f.size g
 have C:=aK T (Ne.symm d) B
 refine L0<|aZ C 16<|Pl 1<|nt<|?_
 have k:=ud j (u1 f (uz S T) im) a
 have U:=aE i k
 refine cb ((((ai.mk b false 0).byteV)==13)) (fun r=>?_) (fun r=>?_)
 have aL:=ap r
 refine sg<|Pl 2<|L0<|Oc<|mq (dv u)<|?_
 have bo:=ag.len u
 refine Pl 1<|L0<|Oc<|m2 (aS ((decide (((gz.l.length:Nat) : Int)≤251))) 5 u) fun bq aM aN=>?_
 refine ab aM fun x59 V v=>?_
 refine nt<|go<|Pl 2<|L0<|Oc<|mq (dv v)<|?_
 have bv:=ag.len v
 refine L0<|Oc<|pm (bW (n:=((x59.l.length:Nat) : Int)) v) fun W X bw Y bx bz aO aR=>?_
 have bA:=Nat.le_trans (ai.bytesR_le x59 ((x59.l.length:Nat) : Int)) (ag.len v)
 refine ab aO fun x69 Z D=>?_
 refine Pl 1<|?_
 have x:=u1 aN aR im
 have y:=aK x (Ne.symm d) C
 refine L0<|bC y 14 (mG c 0 0 0 0 0 0 0 0 0 0 0 nS nS (.slice W ((x59.bytesR ((x59.l.length:Nat) : Int)).length) X) nS ((ai.mk b false 0).byteV) 0 0 0 0 nS) fun bB aV a0=>ng<|Pl 1<|?_
 refine L0<|Oc<|m2 (bM (ag.upd D a0 (aa d am) (ah (aG y (by decide)) aA))) fun bE a1 a2=>nt<|sq<|sg<|Pl 1<|L0<|Oc<|mq (bp a1)<|?_
 have bG:=ag.len a1
 refine Pl 1<|ng<|Pl 2<|nt<|?_
 have E:=us a0 a2
 have F:=ui x E
 have a3:=ut U F (ac (ni (le (le i.size j.size) f.size) g) (ac (ni i.size a) av))
 have hs:aj bJ 0 c b=aP (aU.mk c 0 0 0 0 0 0 0 0 0 0 0 [] [] (((((ai.mk b false 0).bytesC 1).need ((((ai.mk b false 0).byteV)==13)||(((ai.mk b false 0).byteV)==14)) 8).need (decide ((((((ai.mk b false 0).bytesC 1).need ((((ai.mk b false 0).byteV)==13)||(((ai.mk b false 0).byteV)==14)) 8).l.length:Nat) : Int)≤251)) 5).bytesR ((((((ai.mk b false 0).bytesC 1).need ((((ai.mk b false 0).byteV)==13)||(((ai.mk b false 0).byteV)==14)) 8).need (decide ((((((ai.mk b false 0).bytesC 1).need ((((ai.mk b false 0).byteV)==13)||(((ai.mk b false 0).byteV)==14)) 8).l.length:Nat) : Int)≤251)) 5).l.length:Nat) : Int)) [] ((ai.mk b false 0).byteV) 0 0 0 0 []) (((((ai.mk b false 0).bytesC 1).need ((((ai.mk b false 0).byteV)==13)||(((ai.mk b false 0).byteV)==14)) 8).need (decide ((((((ai.mk b false 0).bytesC 1).need ((((ai.mk b false 0).byteV)==13)||(((ai.mk b false 0).byteV)==14)) 8).l.length:Nat) : Int)≤251)) 5).bytesC ((((((ai.mk b false 0).bytesC 1).need ((((ai.mk b false 0).byteV)==13)||(((ai.mk b false 0).byteV)==14)) 8).need (decide ((((((ai.mk b false 0).bytesC 1).need ((((ai.mk b false 0).byteV)==13)||(((ai.mk b false 0).byteV)==14)) 8).l.length:Nat) : Int)≤251)) 5).l.length:Nat) : Int)):=by
   unfold aj bJ eG fQ dt
   (try simp only[o,r,bs,if_true,if_false,decide_true,decide_false,eq_self,true_or,or_true,or_false,false_or,if_true,if_false,cP,cO,cN,cR,reduceIte])
   all_goals rfl
 refine cb ((x69.endC.e != 0)) (fun G=>?_) (fun G=>?_)
 have H:=al G
 refine sg<|Pl 2<|?_
 refine L0<|aT (ub (ut k F (ac (ni (le j.size f.size) g) (ac (nr a) av))) h) mZ fun bH aW a4=>Pl 1<|nt<|rt<|tr<|bu aW (.int .i64 x69.endC.e)<|?_
 subst Z V t
 have bI:=aQ.upd' Y (u1 (az.mono (S':=[Q,O,N]) E (ac im (ac im av))) a4 im) (ah (aG y (by decide)) (ah (ag.safe D _ (by decide)) (ah (aG (ub (ud k x a) h) (by decide)) aA)))
 rw[hs]
 exact bh H (ud a3 a4 p)
 have H:=ae G
 refine aX<|sg<|?_
 refine L0<|bV (aK a2 (Ne.symm d) aV)<|?_
 refine L0<|aT (ub (ut k F (ac (ni (le j.size f.size) g) (ac (nr a) av))) h) (mG c 0 0 0 0 0 0 0 0 0 0 0 nS nS (.slice W ((x59.bytesR ((x59.l.length:Nat) : Int)).length) X) nS ((ai.mk b false 0).byteV) 0 0 0 0 nS) fun bK aY a5=>Pl 1<|nt<|rt<|bu aY (.int .i64 0)<|?_
 subst Z V t
 rw[hs]
 exact bt H ⟨_,_,_,_,_,rfl,aB.nil ..,aB.nil ..,(aQ.upd' Y (u1 (az.mono (S':=[Q,O,N]) E (ac im (ac im av))) a5 im) (ah (aG y (by decide)) (ah (ag.safe D _ (by decide)) (ah (aG (ub (ud k x a) h) (by decide)) aA)))),aB.nil ..,aB.nil ..,(bL (by omega))⟩ (ud a3 a5 p)
 have aL:=aq r
 refine sg<|Pl 1<|L0<|Oc<|m3 (bF u) fun bN b0 a6 bO=>Pl 1<|?_
 have a7:=aK a6 (Ne.symm d) C
 refine L0<|bC a7 17 (mG c 0 0 0 0 0 0 0 0 0 0 0 nS nS nS nS ((ai.mk b false 0).byteV) gz.byteV 0 0 0 nS) fun bP I a8=>ng<|Pl 2<|L0<|aZ I 17<|Pl 2<|cu 4 [59] 63 (((decide (1≤gz.byteV))&&(decide (gz.byteV≤4)))) (fun K a9=>?_) ?_
 refine bl 59 ((decide (1≤gz.byteV))) (fun s=>?_) (fun s=>?_)
 have b1:=of_decide_eq_true s
 exact Pl 1<|L1<|aZ I 17<|Pl 2<|ce a9 (decide (gz.byteV≤4)) (by rw[s];rfl)
 have b1:=of_decide_eq_false s
 exact Pl 4<|ce a9 false (by rw[s];rfl)
 refine L0<|Oc<|m2 (aS (((decide (1≤gz.byteV))&&(decide (gz.byteV≤4)))) 6 (ag.upd b0 a8 (aa d am) (ah (aG a7 (by decide)) aA))) fun bQ b2 b3=>?_
 refine ab b2 fun z ad b4=>?_
 refine ng<|Pl 2<|nt<|c0<|go<|Pl 1<|L0<|Oc<|m3 (bF b4) fun bR b5 b6 bS=>Pl 1<|?_
 have af:=u1 b3 b6 im
 have ak:=aK af (Ne.symm d) I
 refine L0<|bC ak 20 (mG c 0 0 0 0 0 0 0 0 0 0 0 nS nS nS nS ((ai.mk b false 0).byteV) gz.byteV 0 0 z.byteV nS) fun bU b7 an=>ng<|Pl 1<|?_
 refine L0<|Oc<|m2 (bM (ag.upd b5 an (aa d am) (ah (aG ak (by decide)) aA))) fun bX ao ar=>nt<|sq<|sg<|Pl 1<|L0<|Oc<|mq (bp ao)<|?_
 have bY:=ag.len ao
 refine Pl 1<|ng<|Pl 2<|nt<|?_
 have J:=ui a6 (ui a8 (ui af (us an ar)))
 have au:=ut U J (ac (ni (le (le i.size j.size) f.size) g) (ac (ni i.size a) av))
 have hs:aj bJ 0 c b=aP (aU.mk c 0 0 0 0 0 0 0 0 0 0 0 [] [] [] [] ((ai.mk b false 0).byteV) ((((ai.mk b false 0).bytesC 1).need ((((ai.mk b false 0).byteV)==13)||(((ai.mk b false 0).byteV)==14)) 8).byteV) 0 0 ((((((ai.mk b false 0).bytesC 1).need ((((ai.mk b false 0).byteV)==13)||(((ai.mk b false 0).byteV)==14)) 8).bytesC 1).need ((decide (1≤(((ai.mk b false 0).bytesC 1).need ((((ai.mk b false 0).byteV)==13)||(((ai.mk b false 0).byteV)==14)) 8).byteV))&&(decide ((((ai.mk b false 0).bytesC 1).need ((((ai.mk b false 0).byteV)==13)||(((ai.mk b false 0).byteV)==14)) 8).byteV≤4))) 6).byteV) []) ((((((ai.mk b false 0).bytesC 1).need ((((ai.mk b false 0).byteV)==13)||(((ai.mk b false 0).byteV)==14)) 8).bytesC 1).need ((decide (1≤(((ai.mk b false 0).bytesC 1).need ((((ai.mk b false 0).byteV)==13)||(((ai.mk b false 0).byteV)==14)) 8).byteV))&&(decide ((((ai.mk b false 0).bytesC 1).need ((((ai.mk b false 0).byteV)==13)||(((ai.mk b false 0).byteV)==14)) 8).byteV≤4))) 6).bytesC 1):=by
   unfold aj bJ eG fQ dt
   (try simp only[o,r,bs,if_true,if_false,decide_true,decide_false,eq_self,true_or,or_true,or_false,false_or,if_true,if_false,cP,cO,cN,cR,reduceIte])
   all_goals rfl
 refine cb (((((z.bytesC 1).endC).e)!=0)) (fun L=>?_) (fun L=>?_)
 have M:=al L
 refine sg<|Pl 2<|?_
 refine L0<|aT (ub (ut k J (ac (ni (le j.size f.size) g) (ac (nr a) av))) h) mZ fun bZ b8 b9=>Pl 1<|nt<|rt<|tr<|bu b8 (.int .i64 (((z.bytesC 1).endC).e))<|?_
 subst ad t
 rw[hs]
 exact bh M (ud au b9 p)
 have M:=ae L
 refine aX<|sg<|?_
 refine L0<|bV (aK ar (Ne.symm d) b7)<|?_
 refine L0<|aT (ub (ut k J (ac (ni (le j.size f.size) g) (ac (nr a) av))) h) (mG c 0 0 0 0 0 0 0 0 0 0 0 nS nS nS nS ((ai.mk b false 0).byteV) gz.byteV 0 0 z.byteV nS) fun c1 ba bb=>Pl 1<|nt<|rt<|bu ba (.int .i64 0)<|?_
 subst ad t
 rw[hs]
 exact bt M ⟨_,_,_,_,_,rfl,aB.nil ..,aB.nil ..,aB.nil ..,aB.nil ..,aB.nil ..,(bL (by omega))⟩ (ud au bb p)
theorem lv{m:Md}{A:Option Addr}{cp:Nat}{b:List Int}{w:World}{c:Int}(hcode:B8 c)(hsl:aQ m w (.slice A b.length cp) b)(hb:b.length≤1048576) :
    Calls Tryz.prog 146 #[.int .i64 1,.int .u8 c,.slice A b.length cp] w (dx (aj bJ 1 c b) w):=by
 obtain⟨hcode1,hcode2⟩:=hcode
 have hln:(b.length:Int)≤1048576:=by omega
 refine en 81 Tryz.func146 rfl<|sg<|L0<|bD mZ fun S bg p h k=>Pl 1<|nt<|sq<|bk<|sg<|Pl 7<|nt<|?_
 refine c0<|sg<|Pl 3<|nt<|cb ((c != 43)) (fun o=>?_) (fun o=>?_)
 have aD:=al o
 refine sg<|Pl 1<|L0<|aT h mZ fun bi aF aH=>Pl 1<|nt<|rt<|br<|tr<|bu aF (.int .i64 4)<|?_
 have hs:aj bJ 1 c b=(aU.zero,4):=by
   unfold aj bJ eG fQ dt
   (try simp only[o,bs,if_true,if_false,decide_true,decide_false,eq_self,true_or,or_true,or_false,false_or,if_true,if_false,cP,cO,cN,cR,reduceIte])
   all_goals rfl
 rw[hs]
 exact bT (ud k aH p)
 have aD:=ae o
 refine sk<|bn<|tn<|sg<|Pl 1<|?_
 refine L0<|Oc<|e3 (di (aQ.old hsl k) (by omega)) fun T bj a U i=>Pl 1<|ng<|Pl 2<|L0<|Oc<|m3 (bF U) fun bm aI d bo=>Pl 1<|L0<|bD mZ fun V bv f aJ aL=>L0<|aT aJ (mG c 0 0 0 0 0 0 0 0 0 0 0 nS nS nS nS ((ai.mk b false 0).byteV) 0 0 0 0 nS) fun bw B aM=>nt<|sq<|?_
 refine go<|Pl 2<|L0<|aZ B 16<|Pl 2<|cu 4 [33] 37 (((((ai.mk b false 0).byteV)==13)||(((ai.mk b false 0).byteV)==14))) (fun K W=>?_) ?_
 refine bl 33 ((((ai.mk b false 0).byteV)==13)) (fun q=>?_) (fun q=>?_)
 have aO:=ap q
 exact Pl 4<|ce W true (by rw[q];rfl)
 have aO:=aq q
 exact Pl 1<|L1<|aZ B 16<|Pl 2<|ce W (((ai.mk b false 0).byteV)==14) (by rw[q];rfl)
 have X:=ud aL aM f
 refine L0<|Oc<|m2 (aS (((((ai.mk b false 0).byteV)==13)||(((ai.mk b false 0).byteV)==14))) 8 (ag.old aI X)) fun bx aR Y=>?_
 refine ab aR fun gz t u=>?_
 refine nt<|sq<|sg<|Pl 1<|?_
 have g:=nb (ag.lt U) d.size f
 have C:=aK Y (Ne.symm g) B
 refine L0<|aZ C 16<|Pl 1<|nt<|?_
 have j:=ud i (u1 d (uz X Y) im) a
 have Z:=aE k j
 refine cb ((((ai.mk b false 0).byteV)==13)) (fun r=>?_) (fun r=>?_)
 have aV:=ap r
 refine sg<|Pl 2<|L0<|Oc<|mq (dv u)<|?_
 have bz:=ag.len u
 refine Pl 1<|L0<|Oc<|m2 (aS ((decide (((gz.l.length:Nat) : Int)≤251))) 5 u) fun bA aW aY=>?_
 refine ab aW fun x59 a0 v=>?_
 refine nt<|go<|Pl 2<|L0<|Oc<|mq (dv v)<|?_
 have bB:=ag.len v
 refine L0<|Oc<|pm (bW (n:=((x59.l.length:Nat) : Int)) v) fun a1 a2 bE a3 bG bH b0 b1=>?_
 have bI:=Nat.le_trans (ai.bytesR_le x59 ((x59.l.length:Nat) : Int)) (ag.len v)
 refine ab b0 fun x69 a4 D=>?_
 refine Pl 1<|?_
 have x:=u1 aY b1 im
 have y:=aK x (Ne.symm g) C
 refine L0<|bC y 14 (mG c 0 0 0 0 0 0 0 0 0 0 0 nS nS (.slice a1 ((x59.bytesR ((x59.l.length:Nat) : Int)).length) a2) nS ((ai.mk b false 0).byteV) 0 0 0 0 nS) fun bK b2 a5=>ng<|Pl 1<|?_
 refine L0<|Oc<|m2 (bM (ag.upd D a5 (aa g am) (ah (aG y (by decide)) aA))) fun bN a6 a7=>nt<|sq<|sg<|Pl 1<|L0<|Oc<|mq (bp a6)<|?_
 have bO:=ag.len a6
 refine Pl 1<|ng<|Pl 2<|nt<|?_
 have E:=us a5 a7
 have F:=ui x E
 have a8:=ut Z F (ac (ni (le (le k.size i.size) d.size) f) (ac (ni k.size a) av))
 have hs:aj bJ 1 c b=aP (aU.mk c 0 0 0 0 0 0 0 0 0 0 0 [] [] (((((ai.mk b false 0).bytesC 1).need ((((ai.mk b false 0).byteV)==13)||(((ai.mk b false 0).byteV)==14)) 8).need (decide ((((((ai.mk b false 0).bytesC 1).need ((((ai.mk b false 0).byteV)==13)||(((ai.mk b false 0).byteV)==14)) 8).l.length:Nat) : Int)≤251)) 5).bytesR ((((((ai.mk b false 0).bytesC 1).need ((((ai.mk b false 0).byteV)==13)||(((ai.mk b false 0).byteV)==14)) 8).need (decide ((((((ai.mk b false 0).bytesC 1).need ((((ai.mk b false 0).byteV)==13)||(((ai.mk b false 0).byteV)==14)) 8).l.length:Nat) : Int)≤251)) 5).l.length:Nat) : Int)) [] ((ai.mk b false 0).byteV) 0 0 0 0 []) (((((ai.mk b false 0).bytesC 1).need ((((ai.mk b false 0).byteV)==13)||(((ai.mk b false 0).byteV)==14)) 8).need (decide ((((((ai.mk b false 0).bytesC 1).need ((((ai.mk b false 0).byteV)==13)||(((ai.mk b false 0).byteV)==14)) 8).l.length:Nat) : Int)≤251)) 5).bytesC ((((((ai.mk b false 0).bytesC 1).need ((((ai.mk b false 0).byteV)==13)||(((ai.mk b false 0).byteV)==14)) 8).need (decide ((((((ai.mk b false 0).bytesC 1).need ((((ai.mk b false 0).byteV)==13)||(((ai.mk b false 0).byteV)==14)) 8).l.length:Nat) : Int)≤251)) 5).l.length:Nat) : Int)):=by
   unfold aj bJ eG fQ dt
   (try simp only[o,r,bs,if_true,if_false,decide_true,decide_false,eq_self,true_or,or_true,or_false,false_or,if_true,if_false,cP,cO,cN,cR,reduceIte])
   all_goals rfl
 refine cb ((x69.endC.e != 0)) (fun G=>?_) (fun G=>?_)
 have H:=al G
 refine sg<|Pl 2<|?_
 refine L0<|aT (ub (ut j F (ac (ni (le i.size d.size) f) (ac (nr a) av))) h) mZ fun bP b3 a9=>Pl 1<|nt<|rt<|tr<|bu b3 (.int .i64 x69.endC.e)<|?_
 subst a4 a0 t
 have bQ:=aQ.upd' a3 (u1 (az.mono (S':=[V,T,S]) E (ac im (ac im av))) a9 im) (ah (aG y (by decide)) (ah (ag.safe D _ (by decide)) (ah (aG (ub (ud j x a) h) (by decide)) aA)))
 rw[hs]
 exact bh H (ud a8 a9 p)
 have H:=ae G
 refine aX<|sg<|?_
 refine L0<|bV (aK a7 (Ne.symm g) b2)<|?_
 refine L0<|aT (ub (ut j F (ac (ni (le i.size d.size) f) (ac (nr a) av))) h) (mG c 0 0 0 0 0 0 0 0 0 0 0 nS nS (.slice a1 ((x59.bytesR ((x59.l.length:Nat) : Int)).length) a2) nS ((ai.mk b false 0).byteV) 0 0 0 0 nS) fun bR b4 ad=>Pl 1<|nt<|rt<|bu b4 (.int .i64 0)<|?_
 subst a4 a0 t
 rw[hs]
 exact bt H ⟨_,_,_,_,_,rfl,aB.nil ..,aB.nil ..,(aQ.upd' a3 (u1 (az.mono (S':=[V,T,S]) E (ac im (ac im av))) ad im) (ah (aG y (by decide)) (ah (ag.safe D _ (by decide)) (ah (aG (ub (ud j x a) h) (by decide)) aA)))),aB.nil ..,aB.nil ..,(bL (by omega))⟩ (ud a8 ad p)
 have aV:=aq r
 refine sg<|Pl 1<|L0<|Oc<|m3 (bF u) fun bS b5 I bU=>Pl 1<|?_
 have af:=aK I (Ne.symm g) C
 refine L0<|bC af 17 (mG c 0 0 0 0 0 0 0 0 0 0 0 nS nS nS nS ((ai.mk b false 0).byteV) gz.byteV 0 0 0 nS) fun bX J L=>ng<|Pl 2<|L0<|aZ J 17<|Pl 2<|cu 4 [59] 63 (((decide (1≤gz.byteV))&&(decide (gz.byteV≤4)))) (fun K ak=>?_) ?_
 refine bl 59 ((decide (1≤gz.byteV))) (fun s=>?_) (fun s=>?_)
 have b6:=of_decide_eq_true s
 exact Pl 1<|L1<|aZ J 17<|Pl 2<|ce ak (decide (gz.byteV≤4)) (by rw[s];rfl)
 have b6:=of_decide_eq_false s
 exact Pl 4<|ce ak false (by rw[s];rfl)
 refine L0<|Oc<|m2 (aS (((decide (1≤gz.byteV))&&(decide (gz.byteV≤4)))) 6 (ag.upd b5 L (aa g am) (ah (aG af (by decide)) aA))) fun bY b7 M=>?_
 refine ab b7 fun bZ an b9=>?_
 refine ng<|Pl 2<|nt<|c1<|go<|Pl 1<|?_
 refine L0<|Oc<|m3 (mJ (c:=c) (me:=(ai.mk b false 0).byteV) (kd:=gz.byteV) ⟨hcode1,hcode2⟩ (b8 (by omega)) (b8 (by omega)) b9 (aK M (Ne.symm g) J) g) fun c2 ao ba ar=>?_
 obtain⟨bb,z,N⟩:=ba
 refine ng<|Pl 1<|L0<|Oc<|m2 (bM ao) fun c3 bc O=>?_
 refine ab bc fun au aw ax=>?_
 refine nt<|sq<|sg<|Pl 1<|L0<|Oc<|mq (bp ax)<|?_
 have c4:=ag.len ax
 refine Pl 1<|ng<|Pl 2<|nt<|?_
 have P:=ui I (ui L (ui M (u1 ar O im)))
 have ay:=ut Z P (ac (ni k.size a) (ac (ni (le (le k.size i.size) d.size) f) av))
 have hs:aj bJ 1 c b=aP ({ aU.zero with code:=c,mei:=(ai.mk b false 0).byteV,kind:=(((ai.mk b false 0).bytesC 1).need ((((ai.mk b false 0).byteV)==13)||(((ai.mk b false 0).byteV)==14)) 8).byteV,level:=(((((ai.mk b false 0).bytesC 1).need ((((ai.mk b false 0).byteV)==13)||(((ai.mk b false 0).byteV)==14)) 8).bytesC 1).need ((decide (1≤(((ai.mk b false 0).bytesC 1).need ((((ai.mk b false 0).byteV)==13)||(((ai.mk b false 0).byteV)==14)) 8).byteV))&&(decide ((((ai.mk b false 0).bytesC 1).need ((((ai.mk b false 0).byteV)==13)||(((ai.mk b false 0).byteV)==14)) 8).byteV≤4))) 6).byteV,more:=(kH (((((ai.mk b false 0).bytesC 1).need ((((ai.mk b false 0).byteV)==13)||(((ai.mk b false 0).byteV)==14)) 8).bytesC 1).need ((decide (1≤(((ai.mk b false 0).bytesC 1).need ((((ai.mk b false 0).byteV)==13)||(((ai.mk b false 0).byteV)==14)) 8).byteV))&&(decide ((((ai.mk b false 0).bytesC 1).need ((((ai.mk b false 0).byteV)==13)||(((ai.mk b false 0).byteV)==14)) 8).byteV≤4))) 6)).byteV,next:=(kn (((((ai.mk b false 0).bytesC 1).need ((((ai.mk b false 0).byteV)==13)||(((ai.mk b false 0).byteV)==14)) 8).bytesC 1).need ((decide (1≤(((ai.mk b false 0).bytesC 1).need ((((ai.mk b false 0).byteV)==13)||(((ai.mk b false 0).byteV)==14)) 8).byteV))&&(decide ((((ai.mk b false 0).bytesC 1).need ((((ai.mk b false 0).byteV)==13)||(((ai.mk b false 0).byteV)==14)) 8).byteV≤4))) 6)).byteV,objects:=(eo (((ai.mk b false 0).bytesC 1).need ((((ai.mk b false 0).byteV)==13)||(((ai.mk b false 0).byteV)==14)) 8).byteV (((((ai.mk b false 0).bytesC 1).need ((((ai.mk b false 0).byteV)==13)||(((ai.mk b false 0).byteV)==14)) 8).bytesC 1).need ((decide (1≤(((ai.mk b false 0).bytesC 1).need ((((ai.mk b false 0).byteV)==13)||(((ai.mk b false 0).byteV)==14)) 8).byteV))&&(decide ((((ai.mk b false 0).bytesC 1).need ((((ai.mk b false 0).byteV)==13)||(((ai.mk b false 0).byteV)==14)) 8).byteV≤4))) 6)).2 }) ((eo (((ai.mk b false 0).bytesC 1).need ((((ai.mk b false 0).byteV)==13)||(((ai.mk b false 0).byteV)==14)) 8).byteV (((((ai.mk b false 0).bytesC 1).need ((((ai.mk b false 0).byteV)==13)||(((ai.mk b false 0).byteV)==14)) 8).bytesC 1).need ((decide (1≤(((ai.mk b false 0).bytesC 1).need ((((ai.mk b false 0).byteV)==13)||(((ai.mk b false 0).byteV)==14)) 8).byteV))&&(decide ((((ai.mk b false 0).bytesC 1).need ((((ai.mk b false 0).byteV)==13)||(((ai.mk b false 0).byteV)==14)) 8).byteV≤4))) 6)).1):=by
   unfold aj bJ eG fQ dt
   (try simp only[o,r,bs,if_true,if_false,decide_true,decide_false,eq_self,true_or,or_true,or_false,false_or,if_true,if_false,cP,cO,cN,cR,reduceIte])
   all_goals rfl
 refine cb ((au.e != 0)) (fun Q=>?_) (fun Q=>?_)
 have R:=al Q
 refine sg<|Pl 2<|?_
 refine L0<|aT (ub (ut j P (ac (nr a) (ac (ni (le i.size d.size) f) av))) h) mZ fun c5 bd be=>Pl 1<|nt<|rt<|tr<|bu bd (.int .i64 au.e)<|?_
 subst aw an t
 rw[hs]
 exact bh R (ud ay be p)
 have R:=ae Q
 refine aX<|sg<|?_
 refine L0<|bV (hz:=(by rw[z.2];exact aN)) (aK O (Ne.symm g) z.1)<|?_
 refine L0<|aT (hz:=(by rw[z.2];exact aN)) (hv:=N.size) (h1:=N.one) (ub (ut j P (ac (nr a) (ac (ni (le i.size d.size) f) av))) h) (bb) fun c6 bf aC=>Pl 1<|nt<|rt<|dG 22 z.2 bf (.int .i64 0)<|?_
 subst aw an t
 rw[hs]
 exact bt R (bq.upd N (us O aC) (ah (ag.safe ao _ (by decide)) (ah (aG (ub (ut j (ui I (ui L (ui M ar))) (ac (nr a) (ac (ni (le i.size d.size) f) av))) h) (by decide)) aA))) (ud ay aC p)
theorem kX{m:Md}{A:Option Addr}{cp:Nat}{b:List Int}{w:World}{dir c:Int}(hcode:B8 c)(hsl:aQ m w (.slice A b.length cp) b)(hb:b.length≤1048576)(hd:¬ (dir=0∨dir=1)) :
    Calls Tryz.prog 146 #[.int .i64 dir,.int .u8 c,.slice A b.length cp] w (dx (aj bJ dir c b) w):=by
 obtain⟨hcode1,hcode2⟩:=hcode
 have hln:(b.length:Int)≤1048576:=by omega
 have e0:(dir != 0)=true:=by simp;omega
 have e1:(dir != 1)=true:=by simp;omega
 refine en 81 Tryz.func146 rfl<|sg<|L0<|bD mZ fun g h a d e=>Pl 1<|nt<|sq<|bk<|sg<|Pl 3<|sy 14 e0<|Pl 4<|nl<|?_
 refine tn<|ct e1<|sg<|Pl 1<|L0<|aT d mZ fun i dF f=>Pl 1<|nt<|rt<|br<|tr<|bu dF (.int .i64 1)<|?_
 have hs:aj bJ dir c b=(aU.zero,1):=by
   unfold aj bJ eG fQ dt
   (try simp only[e0,e1,bs,if_true,if_false,decide_true,decide_false,eq_self,true_or,or_true,or_false,false_or,if_true,if_false,cP,cO,cN,cR,reduceIte,hd])
   all_goals rfl
 rw[hs]
 exact bT (ud e f a)
theorem oX{m:Md}{v:Value}{b:List Int}{w:World}{dir c:Int}(hc:B8 c)(h:aQ m w v b)(hb:b.length≤1048576) :
    Calls Tryz.prog 146 #[.int .i64 dir,.int .u8 c,v] w (dx (aj bJ dir c b) w):=by
  obtain⟨A,cp,rfl,_,_⟩:=h.shape
  by_cases h0:dir=0
  · subst h0;exact lN hc h hb
  by_cases h1:dir=1
  · subst h1;exact lv hc h hb
  exact kX hc h hb (by omega)
open Go.RowKit
def io (C:ai) : ai:=(C.bytesC 1).need (C.byteV==6) 9
def ii (C:ai) : ai:=((io C).wordsC 1).need ((io C).wordV != 0) 6
def lw (C:ai) : ai:=((ii C).wordsC 1).need (decide ((ii C).wordV≤9999)) 7
def cZ (C:ai) : ai:=((lw C).wordsC 1).need ((lw C).wordV != 0) 5
def aF (C:ai) : cW:=⟨(io C).wordV,(ii C).wordV,(lw C).wordV,[]⟩
def dH (s:Int)(C:ai) : Int:=s+(2+2*(lw C).wordV)
def dO (s:Int)(C:ai) : ai:=(cZ C).need (decide (dH s C≤245)) 5
def fU (C:ai) : ai:=(C.bytesC 1).need ((C.byteV%2==1&&decide (3≤C.byteV))&&decide (C.byteV≤((C.bytesC 1).l.length:Int))) 5
def fW (C:ai) : ai:=((fU C).bytesC 1).need ((fU C).byteV==6) 9
def dV (C:ai) : ai:=(fW C).wordsC (Int.tdiv (C.byteV-1) 2)
def dK (C:ai) : cW:=⟨0,0,0,(fW C).wordsR (Int.tdiv (C.byteV-1) 2)⟩
def lQ (C:ai) : ai:=(cZ C).need (decide (2*(lw C).wordV≤((cZ C).l.length:Int))) 5
def gE (C:ai) : ai:=(lQ C).wordsC (lw C).wordV
def ge (C:ai) : cW:=⟨(io C).wordV,(ii C).wordV,(lw C).wordV,(lQ C).wordsR (lw C).wordV⟩
def tz (g:Nat)(C':ai)(r:cW)(w:World)(e:Ending)(w':World) : Prop:=∃ A c,e = .returned (.agg #[.int .u16 r.file,.int .u16 r.record,.int .u16 r.count,.slice A r.words.length c])∧ei true w' (.slice A r.words.length c) r.words∧dF r.file∧dF r.record∧dF r.count∧ag w' g C'∧az [g] w w'
theorem l4{g:Nat}{C:ai}{w:World}(hC:ag w g C) : Calls Tryz.prog 251 #[.pointer (some ⟨g,0,none⟩)] w (tz g (cZ C) (aF C) w):=by
 have hlen:=hC.len
 refine en 34 Tryz.func251 rfl<|sg<|L0<|bD #[.int .u16 0,.int .u16 0,.int .u16 0,.slice none 0 0] fun Z a0 c B b=>ng<|Pl 2<|?_
 refine L0<|Oc<|m3 (bF (ag.old hC b)) fun a1 D d a2=>Pl 1<|L0<|Oc<|m2 (aS ((C.byteV==6)) 9 D) fun a3 E e=>?_
 refine ab E fun f3 F G=>?_
 refine ng<|L0<|bD #[.int .u16 0,.int .u16 0,.int .u16 0,.slice none 0 0] fun a4 a5 f H h=>ng<|Pl 1<|?_
 refine L0<|Oc<|m3 (bK (ag.old G h)) fun a6 I i a7=>Pl 1<|?_
 have a:=nb (ag.lt hC) (le (le b.size d.size) e.size) f
 have j:=aK i (Ne.symm a) H
 refine L0<|bC j 0 #[.int .u16 f3.wordV,.int .u16 0,.int .u16 0,.slice none 0 0] fun a8 k l=>ng<|Pl 2<|L0<|aZ k 0<|Pl 1<|?_
 refine L0<|Oc<|m2 (aS ((f3.wordV != 0)) 6 (ag.upd I l (aa a am) (ah (aG j (by decide)) aA))) fun a9 J K=>?_
 refine ab J fun gz L M=>?_
 refine ng<|Pl 1<|L0<|Oc<|m3 (bK M) fun ac N O ad=>Pl 1<|?_
 have m:=u1 K O im
 have n:=aK m (Ne.symm a) k
 refine L0<|bC n 1 #[.int .u16 f3.wordV,.int .u16 gz.wordV,.int .u16 0,.slice none 0 0] fun ae o p=>ng<|Pl 2<|L0<|aZ o 1<|Pl 1<|?_
 refine L0<|Oc<|m2 (aS ((decide (gz.wordV≤9999))) 7 (ag.upd N p (aa a am) (ah (aG n (by decide)) aA))) fun af P Q=>?_
 refine ab P fun x61 R S=>?_
 refine ng<|Pl 1<|L0<|Oc<|m3 (bK S) fun aj T U ak=>Pl 1<|?_
 have q:=u1 Q U im
 have r:=aK q (Ne.symm a) o
 refine L0<|bC r 2 #[.int .u16 f3.wordV,.int .u16 gz.wordV,.int .u16 x61.wordV,.slice none 0 0] fun al s t=>ng<|Pl 2<|L0<|aZ s 2<|Pl 1<|?_
 refine L0<|Oc<|m2 (aS ((x61.wordV != 0)) 5 (ag.upd T t (aa a am) (ah (aG r (by decide)) aA))) fun an V u=>?_
 refine ab V fun x77 W X=>?_
 refine ng<|?_
 refine L0<|bV (aK u (Ne.symm a) s)<|?_
 have v:=u1 d (u1 e (ud h (ui i (ui l (ui m (ui p (ui q (us t u)))))) f) im) im
 have y:=nb (ag.lt hC) lr c
 have z:=aK v (Ne.symm y) B
 refine L0<|aT z #[.int .u16 f3.wordV,.int .u16 gz.wordV,.int .u16 x61.wordV,.slice none 0 0] fun ao Y A=>nt<|rt<|tJ Y<|?_
 subst W R L F
 exact⟨_,_,rfl,aB.nil ..,dJ (x:=((C.bytesC 1).need (C.byteV==6) 9).wordV) (by omega),dJ (x:=((((C.bytesC 1).need (C.byteV==6) 9).wordsC 1).need (((C.bytesC 1).need (C.byteV==6) 9).wordV != 0) 6).wordV) (by omega),dJ (x:=((((((C.bytesC 1).need (C.byteV==6) 9).wordsC 1).need (((C.bytesC 1).need (C.byteV==6) 9).wordV != 0) 6).wordsC 1).need (decide (((((C.bytesC 1).need (C.byteV==6) 9).wordsC 1).need (((C.bytesC 1).need (C.byteV==6) 9).wordV != 0) 6).wordV≤9999)) 7).wordV) (by omega),(ag.upd X A (aa y am) (ah (aG z (by decide)) aA)),(ue b (us v A) c)⟩
theorem pj{g:Nat}{C:ai}{w:World}(hC:ag w g C) : Calls Tryz.prog 254 #[.pointer (some ⟨g,0,none⟩)] w (tz g (dV C) (dK C) w):=by
 have hlen:=hC.len
 refine en 33 Tryz.func254 rfl<|sg<|L0<|bD #[.int .u16 0,.int .u16 0,.int .u16 0,.slice none 0 0] fun R S f i j=>ng<|Pl 1<|?_
 refine L0<|Oc<|m3 (bF (ag.old hC j)) fun T c k U=>L0<|Oi C.byteV<|Pl 1<|ng<|Pl 2<|L0<|Oe (.int .i64 (Int.tmod C.byteV 2)) (.int .i64 (C.byteV%2)) (congrArg (Value.int .i64) (Int.tmod_eq_emod_of_nonneg (by omega)))<|Pl 2<|cu 3 [11] 14 ((((C.byteV%2)==1)&&(decide (3≤C.byteV)))) (fun K m=>?_) ?_
 refine bl 11 (((C.byteV%2)==1)) (fun a=>?_) (fun a=>?_)
 have y:=ap a
 exact Pl 3<|ce m (decide (3≤C.byteV)) (by rw[a];rfl)
 have y:=aq a
 exact Pl 3<|ce m false (by rw[a];rfl)
 refine Pl 1<|cu 5 [15] 20 (((((C.byteV%2)==1)&&(decide (3≤C.byteV)))&&(decide (C.byteV≤(((C.bytesC 1).l.length:Nat) : Int))))) (fun K o=>?_) ?_
 refine bl 15 ((((C.byteV%2)==1)&&(decide (3≤C.byteV)))) (fun b=>?_) (fun b=>?_)
 have z:=(aO b).1
 have A:=(aO b).2
 have V:=ap z
 have W:=of_decide_eq_true A
 refine Pl 2<|L1<|Oc<|mq (dv c)<|?_
 have X:=ag.len c
 exact Pl 2<|ce o (decide (C.byteV≤(((C.bytesC 1).l.length:Nat) : Int))) (by rw[b];rfl)
 exact Pl 5<|ce o false (by rw[b];rfl)
 refine L0<|Oc<|m2 (aS (((((C.byteV%2)==1)&&(decide (3≤C.byteV)))&&(decide (C.byteV≤(((C.bytesC 1).l.length:Nat) : Int))))) 5 c) fun Y B p=>?_
 refine ab B fun x28 D E=>?_
 refine ng<|Pl 2<|L0<|Oc<|m3 (bF E) fun Z F q a0=>Pl 1<|L0<|Oc<|m2 (aS ((x28.byteV==6)) 9 F) fun a1 G r=>?_
 refine ab G fun x38 H I=>?_
 refine ng<|Pl 2<|L0<|Oi (C.byteV-1)<|L0<|Oe (.int .i64 (IntKind.i64.wrap (Int.tdiv (C.byteV-1) 2))) (.int .i64 (Int.tdiv (C.byteV-1) 2)) (congrArg (Value.int .i64) (iG (by omega) (by omega)))<|L0<|Oc<|jc (dm (n:=(Int.tdiv (C.byteV-1) 2)) I) fun J L a2 s a3 a4 M N=>?_
 refine ab M fun x48 O P=>?_
 refine Pl 1<|?_
 have t:=u1 k (u1 p (u1 q (u1 r N im) im) im) im
 have u:=nb (ag.lt hC) lr f
 have v:=aK t (Ne.symm u) i
 refine L0<|aT v #[.int .u16 0,.int .u16 0,.int .u16 0,.slice J ((x38.wordsR (Int.tdiv (C.byteV-1) 2)).length) L] fun a5 Q d=>nt<|rt<|tJ Q<|?_
 subst O H D
 exact⟨_,_,rfl,((ax s d (fun x hx=>(aa (fun e=>(ay (ak i) (le (le (le k.size p.size) q.size) r.size) s) (e▸hx)) am)) (fun _ _ h=>h))).rd,dJ (x:=0) (by omega),dJ (x:=0) (by omega),dJ (x:=0) (by omega),(ag.upd P d (aa u am) (ah (aG v (by decide)) aA)),(ue j (us t d) f)⟩
theorem rf{g:Nat}{C:ai}{w:World}(hC:ag w g C) : Calls Tryz.prog 256 #[.pointer (some ⟨g,0,none⟩)] w (tz g (gE C) (ge C) w):=by
 have hlen:=hC.len
 refine en 22 Tryz.func256 rfl<|sg<|L0<|bD #[.int .u16 0,.int .u16 0,.int .u16 0,.slice none 0 0] fun X Y v f i=>ng<|Pl 1<|?_
 refine L0<|Oc<|sQ (l4 (ag.old hC i)) fun I J Z a0 K L M N c=>?_
 obtain⟨a1,a2⟩:=K
 obtain⟨a3,a4⟩:=L
 obtain⟨a5,a6⟩:=M
 refine L0<|bD #[.int .u16 0,.int .u16 0,.int .u16 0,.slice none 0 0] fun O a7 j y z=>L0<|aT y #[.int .u16 ((aF C).file),.int .u16 ((aF C).record),.int .u16 ((aF C).count),.slice I ((aF C).words.length) J] fun a8 P k=>nt<|sq<|Rg 9 (fun w'=>w'.cell? ⟨O,2,none⟩=some (.int .u16 ((aF C).count))) fun a9 d=>?_
 have m:=ub d P
 refine bg (au m rfl) fun a=>Rt 0 a<|Rt 1 a<|Rl 2 a (fun _ hs=>hs)<|Rr 3 a (.int .i64 ((aF C).count)) (fun _ _=>ck (.int .i64 (IntKind.i64.wrap ((aF C).count))) (by kernel_rfl) (congrArg (Value.int .i64) (i64_in (by omega))))<|Rr 4 a (.int .i64 (2*((aF C).count))) (fun _ _=>ck (.int .i64 (IntKind.i64.wrap (2*((aF C).count)))) (by kernel_rfl) (congrArg (Value.int .i64) (IntWalk.i64_in _ (by omega))))<|Rt 5 a<|?_
 have o:=ud z (aE k d) j
 have p:=ag.old N o
 refine R0 6 rfl<|Oc<|mq (dv p)<|?_
 have ac:=ag.len p
 refine bg (au m rfl) fun Q=>Rt 7 Q<|R0 8 rfl<|Oc<|m2 (aS ((decide ((2*((aF C).count))≤(((cZ C).l.length:Nat) : Int)))) 5 p) fun ad R b=>?_
 refine ab R fun x54 S T=>?_
 have q:=nb (ag.lt hC) (le i.size c.size) j
 have r:=aK b (Ne.symm q) m
 refine bg (au r rfl) fun ae=>re<|tn<|sg<|Pl 2<|L0<|aZ r 2<|L0<|Oi ((aF C).count)<|L0<|Oc<|jc (dm (n:=(aF C).count) T) fun A B af s aj al U t=>Pl 1<|?_
 have D:=aK t (Ne.symm q) r
 refine L0<|bC D 3 #[.int .u16 ((aF C).file),.int .u16 ((aF C).record),.int .u16 ((aF C).count),.slice A ((x54.wordsR ((aF C).count)).length) B] fun an V E=>ng<|L0<|bV V<|?_
 have F:=u1 c (ue o (ui b (us t E)) j) im
 have u:=nb (ag.lt hC) lr v
 refine L0<|aT (aK F (Ne.symm u) f) #[.int .u16 ((aF C).file),.int .u16 ((aF C).record),.int .u16 ((aF C).count),.slice A ((x54.wordsR ((aF C).count)).length) B] fun ao W G=>nt<|rt<|tJ W<|?_
 subst S
 have H:=us E G
 exact⟨_,_,rfl,((ax s H (fun x hx=>(aa (fun e=>(ay (ak y) (le (le k.size d.size) b.size) s) (e▸hx)) (aa (fun e=>(ay (ak f) (le (le (le (le c.size z.size) k.size) d.size) b.size) s) (e▸hx)) am))) (fun _ _ h=>h))).rd,dJ (x:=(aF C).file) (by omega),dJ (x:=(aF C).record) (by omega),dJ (x:=(aF C).count) (by omega),(ag.upd U H (aa q (aa u am)) (ah (aG D (by decide)) (ah (aG (aK (u1 c (uz o (u1 b t im)) im) (Ne.symm u) f) (by decide)) aA))),(ue i (us F G) v)⟩
theorem mE{n:Int}{w:World}(hn:0≤n∧n<256) : Calls Tryz.prog 252 #[.int .i64 n] w (c8 (.bool ((decide (7≤n)&&decide (n≤245))&&n%7==0)) w):=by
 refine en 14 Tryz.func252 rfl<|sg<|Pl 1<|ng<|Pl 3<|cu 3 [5] 8 (((decide (7≤n))&&(decide (n≤245)))) (fun K c=>?_) ?_
 refine bl 5 ((decide (7≤n))) (fun a=>?_) (fun a=>?_)
 have e:=of_decide_eq_true a
 exact Pl 3<|ce c (decide (n≤245)) (by rw[a];rfl)
 have e:=of_decide_eq_false a
 exact Pl 3<|ce c false (by rw[a];rfl)
 refine Pl 1<|cu 4 [9] 13 ((((decide (7≤n))&&(decide (n≤245)))&&((n%7)==0))) (fun K d=>?_) ?_
 refine bl 9 (((decide (7≤n))&&(decide (n≤245)))) (fun b=>?_) (fun b=>?_)
 have f:=(aO b).1
 have g:=(aO b).2
 have h:=of_decide_eq_true f
 have i:=of_decide_eq_true g
 exact Pl 1<|L1<|Oe (.int .i64 (Int.tmod n 7)) (.int .i64 (n%7)) (congrArg (Value.int .i64) (Int.tmod_eq_emod_of_nonneg (by omega)))<|Pl 2<|ce d ((n%7)==0) (by rw[b];rfl)
 exact Pl 4<|ce d false (by rw[b];rfl)
 refine Pl 1<|nt<|rt<|rr (.bool (((decide (7≤n))&&(decide (n≤245)))&&((n%7)==0)))<|?_
 exact⟨rfl,(az.refl [] _)⟩
theorem ml{n:Int}{w:World}(hn:0≤n∧n<256) : Calls Tryz.prog 253 #[.int .i64 n] w (c8 (.bool (decide (4≤n)&&decide (n≤245))) w):=by
 refine en 9 Tryz.func253 rfl<|sg<|Pl 1<|ng<|Pl 3<|cu 3 [5] 8 (((decide (4≤n))&&(decide (n≤245)))) (fun K b=>?_) ?_
 refine bl 5 ((decide (4≤n))) (fun a=>?_) (fun a=>?_)
 have c:=of_decide_eq_true a
 exact Pl 3<|ce b (decide (n≤245)) (by rw[a];rfl)
 have c:=of_decide_eq_false a
 exact Pl 3<|ce b false (by rw[a];rfl)
 refine Pl 1<|nt<|rt<|rr (.bool ((decide (4≤n))&&(decide (n≤245))))<|?_
 exact⟨rfl,(az.refl [] _)⟩
theorem mj{n:Int}{w:World}(hn:0≤n∧n<256) : Calls Tryz.prog 255 #[.int .i64 n] w (c8 (.bool (decide (9≤n)&&decide (n≤251))) w):=by
 refine en 9 Tryz.func255 rfl<|sg<|Pl 1<|ng<|Pl 3<|cu 3 [5] 8 (((decide (9≤n))&&(decide (n≤251)))) (fun K b=>?_) ?_
 refine bl 5 ((decide (9≤n))) (fun a=>?_) (fun a=>?_)
 have c:=of_decide_eq_true a
 exact Pl 3<|ce b (decide (n≤251)) (by rw[a];rfl)
 have c:=of_decide_eq_false a
 exact Pl 3<|ce b false (by rw[a];rfl)
 refine Pl 1<|nt<|rt<|rr (.bool ((decide (9≤n))&&(decide (n≤251))))<|?_
 exact⟨rfl,(az.refl [] _)⟩
theorem ga{e:Int}{w:World}:Calls Tryz.prog 211 #[.int .i64 e] w (c8 (.int .i64 (if e==2 then 5 else e)) w):=by
 refine en 6 Tryz.func211 rfl<|sg<|Pl 1<|nt<|sq<|sg<|Pl 2<|nt<|cb ((e==2)) (fun a=>?_) (fun a=>?_)
 have b:=ap a
 refine sg<|Pl 1<|nt<|rt<|tr<|rr (.int .i64 5)<|?_
 have hs:(if e==2 then (5:Int) else e)=5:=by simp only[a,bs,if_true,if_false,decide_true,decide_false,reduceIte]
 rw[hs]
 exact⟨rfl,(az.refl [] _)⟩
 have b:=aq a
 refine aX<|sg<|Pl 2<|nt<|rt<|rr (.int .i64 e)<|?_
 have hs:(if e==2 then (5:Int) else e)=e:=by simp only[a,bs,if_true,if_false,decide_true,decide_false,reduceIte]
 rw[hs]
 exact⟨rfl,(az.refl [] _)⟩
open Go.RowKit
structure WF (F:Fence) (n:Nat) (P:Program) (ops:Array Oper) (Q:Exit→Act→World→Prop) (l:List Oper) (a:Act) (w:World) : Prop where
  out:wpListIn F n P ops Q l a w
def dR (F:Fence) : Prop:=F=Fence.wide∨∃ l,F=Fence.wide.inRound l
theorem iQ:dR Fence.wide:=.inl rfl
theorem i9(l:Nat) : dR (Fence.wide.inRound l):=.inr ⟨l,rfl⟩
theorem dR.fn{F:Fence}(h:dR F)(f:FuncId) : F.fn f:=by
  rcases h with rfl|⟨l,rfl⟩<;>trivial
theorem dR.depth{F:Fence}(h:dR F) : F.depth=none:=by
  rcases h with rfl|⟨l,rfl⟩<;>rfl
section
variable {F:Fence}{n:Nat}{P:Program}{Q:Exit→Act→World→Prop}{a:Act}{w:World}{K:Act→World→Prop}{ops:Array Oper}{rest:List Oper}{o:Oper}{N:Option Tmp}
theorem tt{f:FuncId}{args:Array Value}{R:Ending→World→Prop}(hF:dR F)(h:Calls P f args w R) : CallsIn F n P f args w R:=by
  rcases hF with rfl|⟨l,rfl⟩
  · exact callsIn_wide.2 h
  · exact CallsIn.inRound l (callsIn_wide.2 h)
theorem u4{row:String}{args:Array Value}{R:Value→World→Prop}(hF:dR F)(h:Rows P row args w R) : RowsIn F n P row args w R:=by
  have h0:RowsIn Fence.wide n P row args w R:=fun c cs _=>let ⟨v,w',r,s⟩:=h c cs; ⟨v,w',r,stepsIn_wide.2 s⟩
  rcases hF with rfl|⟨l,rfl⟩
  · exact h0
  · exact h0
def eL:Op→Bool
  | .defer _=>false
  | _=>true
theorem vQ(hF:dR F)(hd:eL o.op=true)(h:o.wp P a w K Q) : o.wpIn F n P a w K Q:=by
  refine⟨fun f _=>hF.fn f,?_⟩
  rw[Oper.semAt_eq _ _ _ (fun c hc=>by rw[hc] at hd;cases hd)]
  unfold Oper.wp at h
  have hdep:∀ {p:Prop},F.depth.isSome=true→p:=fun h=>by rw[hF.depth] at h;cases h
  generalize (execOp a.eval o).run P w=r at h ⊢
  cases r with
  | ok x w' =>
    cases x<;>simp only[Oper.upon,Oper.uponIn] at h ⊢
    case value u=>exact h
    case skip=>exact h
    case defer d=>exact h
    case enter f args=>exact⟨hdep,tt hF h⟩
    case row row args=>exact⟨hdep,u4 hF h⟩
  | halt x w' =>
    cases x<;>simp only[Oper.upon,Oper.uponIn] at h ⊢
    case panic u=>exact h
theorem vU{id:Nat}{l:List Oper}(n:Nat)(h:WF Fence.wide n P l.toArray Q l a w) : (Code.region id l.toArray false).wp P Q a w:=wpIn_wide.1 (wpIn_region_lit h.out)
theorem vh{id:Nat}{l:List Oper}(h:WF F n P l.toArray Q l a w) : (Code.region id l.toArray false).wpIn F n P Q a w:=wpIn_region_lit h.out
theorem uU(h:Q .normal a w) : WF F n P ops Q [] a w:=⟨h⟩
theorem vI(hF:dR F)(hd:eL o.op=true)(hw:Region.wanted o (yielded ops a.tmps)=true)(h:OW P o a w (WF F n P ops Q rest) Q) : WF F n P ops Q (o :: rest) a w:=by
  refine⟨?_⟩
  unfold wpListIn
  rw[if_pos hw]
  exact vQ hF hd (fM h fun _ _ h=>h.out)
theorem v5(hF:dR F)(hw:Region.wanted o (yielded ops a.tmps)=false)(hN:o.dst=N)(h:WF F n P ops Q rest (a.put N undef) w) : WF F n P ops Q (o :: rest) a w:=by
  subst hN
  refine⟨?_⟩
  unfold wpListIn
  rw[if_neg (by simp[hw])]
  exact⟨fun f _=>hF.fn f,h.out⟩
theorem sW{x:Operand}{opds:Array Operand}{ts:Array TypeId}{l:Nat}{r:Loop}(args:Array Value)(hw:Region.wanted o (yielded ops a.tmps)=true)(hN:o.dst=N)(hop:o.op = .call { callee:=.value x,args:=opds,argTypes:=ts })
    (hx:a.eval x = .func (.yield l) #[] #[]) (hargs:opds.map a.eval=args) (hl:w.heap[l]? = some (.loop r)) (hs:args.size=r.params.size)
    (h:RoundIn Fence.wide (n-1) P l r.fn ((r.params.zip args).foldl (fun tmps (t,a)=>tmps.setIfInBounds t a) r.tmps) r.assign r.body w (fun e w'=>∃ v,e = .returned v∧WF Fence.wide n P ops Q rest (a.put N v) w')) : WF Fence.wide n P ops Q (o :: rest) a w:=by
  subst hN
  refine⟨?_⟩
  unfold wpListIn
  rw[if_pos hw]
  refine⟨fun f _=>trivial,?_⟩
  have hrun:(o.semAt Fence.wide.round a.eval).run P w = .ok (.round l r.fn ((r.params.zip args).foldl (fun tmps (t,a)=>tmps.setIfInBounds t a) r.tmps) r.assign r.body) w:=by
    show(execOp a.eval o).run P w=_
    unfold execOp
    simp only[hop,resolve,hx,Deferred.ofValue,Sem.run_bind,Sem.run_pure,Result.andThen_ok,invoke,hargs]
    have:=run_yield (P:=P) (args:=args) hl hs
    simpa using this
  rw[hrun,Oper.uponIn_round]
  refine⟨(by simp[Fence.wide]),h.mono fun e w' hh=>?_⟩
  obtain⟨v,rfl,h2⟩:=hh
  exact h2.out
end
theorem sf{P:Program}{n:Nat}{ops:Array Oper}{Q:Exit→Act→World→Prop}{rest:List Oper}{o:Oper}{a:Act}{w:World}{N:Option Tmp}{x:Operand}{opds:Array Operand}{ts:Array TypeId}{l:Nat}{r:Loop}(v:Value)(p:Tmp)(hw:Region.wanted o (yielded ops a.tmps)=true)(hN:o.dst=N)(hop:o.op = .call { callee:=.value x,args:=opds,argTypes:=ts })
    (hx:a.eval x = .func (.yield l) #[] #[]) (hargs:opds.map a.eval = #[v]) (hl:w.heap[l]? = some (.loop r)) (hp:r.params = #[p])
    (h:RoundIn Fence.wide (n-1) P l r.fn (r.tmps.setIfInBounds p v) r.assign r.body w (fun e w'=>∃ u,e = .returned u∧WF Fence.wide n P ops Q rest (a.put N u) w')) : WF Fence.wide n P ops Q (o :: rest) a w:=by
  refine sW #[v] hw hN hop hx hargs hl (by rw[hp];rfl) ?_
  have:((r.params.zip #[v]).foldl (fun tmps (t,a)=>tmps.setIfInBounds t a) r.tmps)=r.tmps.setIfInBounds p v:=by rw[hp];simp
  rw[this]
  exact h
theorem eY{w:World}{l:Nat}(o:Go.Obj) : az [l] w (w.putObj l o) :=
  ⟨rfl,rfl,rfl,by simp[World.putObj],fun k hk hn=>World.putObj_heap_other (by simpa using hn)⟩
theorem iE{w:World}{l:Nat}{o:Go.Obj}(o':Go.Obj)(h:w.heap[l]? = some o) : (w.putObj l o').heap[l]? = some o':=World.putObj_heap_same (ak h)
def gp:Go.Obj→Bool
  | .cells ..=>false
  | _=>true
theorem aB.updl{α:Type}{m:Md}{e:TypeId}{sz:Nat}{R:World→α→List Value→Prop}{w w':World}{v:Value}{xs:List α}{l:Nat}{o:Go.Obj}
    (h:aB m e sz R w v xs) (hu:az [l] w w') (hl:w.heap[l]? = some o) (ho:gp o=true) (hR:∀ x cs,R w x cs→R w' x cs) : aB m e sz R w' v xs:=by
  obtain⟨A,c,rfl,h1,h2,h0,h3⟩:=h
  refine⟨A,c,rfl,h1,h2,h0,fun hp=>?_⟩
  obtain⟨b,off,cells,t,fr,rfl,hb,ht,hx⟩:=h3 hp
  refine⟨b,off,cells,t,fr,rfl,?_,ht,fun j x hj=>?_⟩
  · refine hu.blk (fun hbs=>?_) hb
    simp at hbs
    subst hbs
    rw[hl] at hb
    injection hb with hb
    subst hb
    cases ho
  · obtain⟨cs,hl,hr,hc⟩:=hx j x hj
    exact⟨cs,hl,hR _ _ hr,hc⟩
theorem aQ.updl{m:Md}{w w':World}{v:Value}{xs:List Int}{l:Nat}{o:Go.Obj}(h:aQ m w v xs)(hu:az [l] w w')(hl:w.heap[l]? = some o)(ho:gp o=true) : aQ m w' v xs:=aB.updl h hu hl ho fun _ _ h=>h
theorem ei.updl{m:Md}{w w':World}{v:Value}{xs:List Int}{l:Nat}{o:Go.Obj}(h:ei m w v xs)(hu:az [l] w w')(hl:w.heap[l]? = some o)(ho:gp o=true) : ei m w' v xs:=aB.updl h hu hl ho fun _ _ h=>h
theorem b9.updl{m:Md}{w w':World}{l:Nat}{o:Go.Obj}(hu:az [l] w w')(hl:w.heap[l]? = some o)(ho:gp o=true)(r:cW)(cs:List Value)(h:b9 m w r cs) : b9 m w' r cs:=by
  obtain⟨v,h1,h2,h3⟩:=h
  exact⟨v,h1,ei.updl h2 hu hl ho,h3⟩
theorem ag.updl{w w':World}{g:Nat}{c:ai}{l:Nat}{o:Go.Obj}(h:ag w g c)(hu:az [l] w w')(hg:g∉[l])(hl:w.heap[l]? = some o)(ho:gp o=true) : ag w' g c:=by
  obtain⟨v,hb,hr,hn⟩:=h
  exact⟨v,hu.blk hg hb,hr.updl hu hl ho,hn⟩
theorem qN{n:Nat}{P:Program}{l:Nat}{f:FuncId}{tmps:Array Value}{assign body:Code}{w:World}{r:Loop}{R:Ending→World→Prop}
    (h:assign.wpIn (Fence.wide.inRound l) n P (Exit.then (fun a₁ w₁=>w₁.heap[l]? = some (.loop r)∧r.state = .ready∧∀ w₂,w₂.heap[l]? = some (.loop { r with state:=.busy })→az [l] w₁ w₂ →
      body.wpIn (Fence.wide.inRound l) n P (Exit.then (fun _ w₃=>∃ r',w₃.heap[l]? = some (.loop r')∧∀ w₄,w₄.heap[l]? = some (.loop { r' with state:=.ready,pending:=none })→az [l] w₃ w₄→R (.returned (.bool true)) w₄) (fun _ _ _=>False)) a₁ w₂) (fun _ _ _=>False)) { tmps:=tmps,defers:=[] } w) :
    RoundIn Fence.wide n P l f tmps assign body w R:=by
  refine roundIn_of_wpIn trivial (Code.wpIn_mono (fun e a w q=>?_) h)
  cases e with
  | normal =>
    obtain⟨h1,h2,h3⟩:=q
    refine⟨_,run_beginRound h1 h2,Code.wpIn_mono (fun e a w q=>?_) (h3 _ (iE _ h1) (eY _))⟩
    cases e with
    | normal =>
      obtain⟨r',h4,h5⟩:=q
      exact⟨_,_,run_endRound none h4,h5 _ (iE _ h4) (eY _)⟩
    | _=>exact q.elim
  | _=>exact q.elim
theorem iz{n:Nat}{P:Program}{l:Nat}{f:FuncId}{tmps:Array Value}{assign body:Code}{w:World}{r:Loop}{R:Ending→World→Prop}
    (hl:w.heap[l]? = some (.loop r))
    (h:assign.wpIn (Fence.wide.inRound l) n P (Exit.then (fun a₁ w₁=>w₁.heap[l]? = some (.loop r)∧r.state = .ready∧∀ w₂,w₂.heap[l]? = some (.loop { r with state:=.busy })→az [l] w₁ w₂ →
      body.wpIn (Fence.wide.inRound l) n P (Exit.then (fun _ w₃=>∃ r',w₃.heap[l]? = some (.loop r')∧∀ w₄,w₄.heap[l]? = some (.loop { r' with state:=.ready,pending:=none })→az [l] w₃ w₄→R (.returned (.bool true)) w₄) (fun _ _ _=>False)) a₁ w₂) (fun _ _ _=>False)) { tmps:=tmps,defers:=[] } w) :
    RoundIn Fence.wide n P l f tmps assign body w R:=qN h
theorem q7{P:Program}{Q:Exit→Act→World→Prop}{a:Act}{w:World}{g:Operand}{ps:Array Tmp}{assign body:Code}{f:FuncId}{fn:Func}(cap:Array Value)
    (hx : a.eval g = .func (.func f) #[] cap) (hf : P.funcs[f]? = some fn) (hname : (fn.name == "runtime.NumGoroutine") = false) (hb : fn.body.isSome = true)
    (h:∀ fn0 D l w₂,w.heap.size≤D→w.heap.size≤l→D≠l→w₂.heap[D]? = some (.deferred (some []))→w₂.heap[l]? = some (.loop { state:=.ready,pending:=none,fn:=fn0,tmps:=a.tmps,params:=ps,assign:=assign,body:=body,defers:=D })→az [] w w₂ →
      Calls P f (#[.func (.yield l) #[] #[]]++cap) w₂ (fun e w₃=>∃ v r',e = .returned v∧w₃.heap[l]? = some (.loop r')∧r'.state≠.busy∧r'.pending=none∧∀ w₄,az [l] w₃ w₄→Q .normal { a with defers:={ target:=.collected D,args:=#[] } :: a.defers } w₄)) :
    (Code.rangeFunc g ps assign body).wp P Q a w:=by
  refine(wpIn_wide (n:=9)).1 (wpIn_rangeFunc fun fn0 _=>?_)
  have h1 : fn.name ≠ "runtime.NumGoroutine" := by simpa using hname
  obtain⟨cd,hcd⟩:=Option.isSome_iff_exists.1 hb
  refine⟨w.heap.size+1,[{ target:=.collected w.heap.size,args:=#[] }],((w.alloc (.deferred (some []))).alloc (.loop { state:=.ready,pending:=none,fn:=fn0,tmps:=a.tmps,params:=ps,assign:=assign,body:=body,defers:=w.heap.size })),
    { target:=.fn (.func f) cap,args:=#[]++#[.func (.yield (w.heap.size+1)) #[] #[]] },((w.alloc (.deferred (some []))).alloc (.loop { state:=.ready,pending:=none,fn:=fn0,tmps:=a.tmps,params:=ps,assign:=assign,body:=body,defers:=w.heap.size })),
    f,#[.func (.yield (w.heap.size+1)) #[] #[]]++cap,((w.alloc (.deferred (some []))).alloc (.loop { state:=.ready,pending:=none,fn:=fn0,tmps:=a.tmps,params:=ps,assign:=assign,body:=body,defers:=w.heap.size })),run_enterLoop_outer fn0 a.tmps ps assign body,?_,fun _ _=>trivial,?_,by simp[Fence.wide],?_⟩
  · unfold resolve
    simp only[rangeCall,hx,Deferred.ofValue,Sem.run_pure,List.map_toArray,List.map_cons,List.map_nil]
    rfl
  · simp[invoke,callFunc,hf,h1,hcd]
  · have hD:((w.alloc (.deferred (some []))).alloc (.loop { state:=.ready,pending:=none,fn:=fn0,tmps:=a.tmps,params:=ps,assign:=assign,body:=body,defers:=w.heap.size })).heap[w.heap.size]? = some (.deferred (some [])):=rR (dq w _) _
    have hl:((w.alloc (.deferred (some []))).alloc (.loop { state:=.ready,pending:=none,fn:=fn0,tmps:=a.tmps,params:=ps,assign:=assign,body:=body,defers:=w.heap.size })).heap[w.heap.size+1]? = some (.loop { state:=.ready,pending:=none,fn:=fn0,tmps:=a.tmps,params:=ps,assign:=assign,body:=body,defers:=w.heap.size }):=by
      have:=dq (w.alloc (.deferred (some []))) (.loop { state:=.ready,pending:=none,fn:=fn0,tmps:=a.tmps,params:=ps,assign:=assign,body:=body,defers:=w.heap.size })
      simpa using this
    refine callsIn_wide.2 ((h fn0 w.heap.size (w.heap.size+1) _ (Nat.le_refl _) (by omega) (by omega) hD hl (((az.refl [] w).alloc _).alloc _)).mono ?_)
    rintro e w₃ ⟨v,r',rfl,h3,h4,h5,h6⟩
    refine⟨_,_,run_endLoop h3 h4,?_⟩
    rw[h5]
    exact h6 _ (eY _)
theorem lc{P:Program}{f:FuncId}{fn:Func}{c:Code}{args:Array Value}{w:World}{R:Ending→World→Prop}(hf:P.funcs[f]? = some fn)(hb:fn.body=some c)
    (h:c.wp P (bodyPostM Fence.wide 9 P fn R) { tmps:=args++Array.replicate (fn.ntmps-args.size) undef,defers:=[] } w) : Calls P f args w R :=
  callsIn_wide.1 (callsIn_of_wp_marks hf hb trivial (wpIn_wide.2 h) rfl)
theorem sD{P:Program}{fn:Func}{R:Ending→World→Prop}{a:Act}{w:World}{D:Nat}(hd:a.defers=[{ target:=.collected D,args:=#[] }])(hD:w.heap[D]? = some (.deferred (some [])))
    (h:∀ w',az [D] w w'→∃ v,(results fn a.tmps).run P w' = .ok v w'∧R (.returned v) w') : bodyPostM Fence.wide 9 P fn R .ret a w:=by
  show LeavesInM Fence.wide 9 P fn a.tmps R a.defers .returning w
  rw[hd]
  exact⟨by simp,.inl ⟨D,_,rfl,run_takeDeferred hD,h _ (eY _)⟩⟩
theorem rF{P:Program}{fn:Func}{R:Ending→World→Prop}{a:Act}{w:World}(hd:a.defers=[])(h:∃ v,(results fn a.tmps).run P w = .ok v w∧R (.returned v) w) : bodyPostM Fence.wide 9 P fn R .ret a w:=by
  show LeavesInM Fence.wide 9 P fn a.tmps R a.defers .returning w
  rw[hd]
  exact h
end Go.Proofs.YtogbnemojakcpaaGreat
