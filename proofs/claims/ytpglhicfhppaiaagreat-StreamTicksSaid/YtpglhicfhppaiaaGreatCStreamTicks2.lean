/- Contracts of functions, part CStreamTicks2. -/
import Derived.Test.YtpglhicfhppaiaaGreatCStreamTicks1
import Derived.Laws.BitsAllLaws
set_option linter.unusedVariables false
set_option linter.unusedSimpArgs false
set_option maxRecDepth 100000
set_option maxHeartbeats 4000000
namespace Go.Proofs.YtpglhicfhppaiaaGreat
open Go.RowKit
def ft (Q:World→Ending→World→Prop)(w:World)(e:Ending)(w':World) : Prop:=∃ F free,e = .returned (.func (.func F) #[] free)∧t4 Tryz.prog F=some (false,true)∧au [] w w'∧Calls Tryz.prog F free w' (Q w')
theorem iB{g:Nat}{C:ak}{w:World}{a most:Int}(hC:ae w g C)(ha:0≤a∧a<65536) :
    Calls Tryz.prog 110 #[.pointer (some ⟨g,0,none⟩),.int .u16 a,.int .i64 most] w (iI g .i64 65536 C.wordV (bo C a most) w):=by
 have hlen:=hC.len
 have hrr:=hC.wordV
 refine en 26 Tryz.func110 rfl<|sg<|Pl 1<|ng<|Pl 1<|L0<|Oc<|m3 (bh hC) fun l d e m=>L0<|Oi C.wordV<|Pl 1<|nt<|?_
 refine sg<|Pl 4<|cu 4 [14] 18 (((decide (1≤C.wordV))&&(decide (C.wordV≤most)))) (fun K c=>?_) ?_
 refine bl 14 ((decide (1≤C.wordV))) (fun b=>?_) (fun b=>?_)
 have f:=of_decide_eq_true b
 exact Pl 4<|ce c (decide (C.wordV≤most)) (by rw[b];rfl)
 have f:=of_decide_eq_false b
 exact Pl 4<|ce c false (by rw[b];rfl)
 refine L0<|Oc<|m2 (aL (((decide (1≤C.wordV))&&(decide (C.wordV≤most)))) 5 d) fun o h i=>ng<|Pl 3<|L0<|Oc<|mq (fv (a:=a) (n:=C.wordV) (by omega))<|L0<|Oc<|m2 (aL ((dc a C.wordV)) 7 h) fun p j k=>ng<|Pl 2<|nl<|?_
 refine tn<|rt<|rr (.int .i64 C.wordV)<|?_
 have hs:bo C a most=(((C.wordsC 1).need ((decide (1≤C.wordV))&&(decide (C.wordV≤most))) 5).need (dc a C.wordV) 7):=by
   unfold bo
   (try simp only[bs,if_true,if_false,decide_true,decide_false,reduceIte])
   all_goals rfl
 rw[hs]
 exact⟨rfl,j,(u1 e (u1 i k im) im),hrr⟩
theorem gp{g:Nat}{C:ak}{w:World}{n:Int}(hC:ae w g C)(hn:0≤n∧n<65536) :
    Calls Tryz.prog 116 #[.pointer (some ⟨g,0,none⟩),.int .i64 n] w (fun e w'=>∃ v,e = .returned v∧jd w.heap.size w' v ((bX C n).wordsR n)∧ae w' g ((bX C n).wordsC n)∧au [g] w w'):=by
 have hlen:=hC.len
 refine en 16 Tryz.func116 rfl<|sg<|Pl 1<|ng<|Pl 2<|L0<|Oc<|m3 (bi hC) fun l c a m=>L0<|Oi C.byteV<|Pl 1<|L0<|Oi (2*n)<|Pl 1<|L0<|Oc<|m2 (aL ((C.byteV==(2*n))) 5 c) fun o d b=>?_
 refine ng<|Pl 2<|L0<|Oc<|mw (cH (n:=n) d) fun f h p i q r j k=>Pl 1<|nt<|rt<|rr (.slice f ((((C.bytesC 1).need (C.byteV==(2*n)) 5).wordsR n).length) h)<|?_
 have hs:bX C n=((C.bytesC 1).need (C.byteV==(2*n)) 5):=by
   unfold bX
   (try simp only[bs,if_true,if_false,decide_true,decide_false,reduceIte])
   all_goals rfl
 rw[hs]
 exact⟨_,rfl,(aN.weaken i (le a.size b.size)),j,(u1 a (u1 b k im) im)⟩
theorem f4{most:Int}{g gm:Nat}{c:Int}{C:ak}{w:World}(hcode:B8 c)(hC:ae w g C)(hm:w.heap[gm]? = some (.cells (mC c) 31 (0,0)))(hne:g≠gm){bc:Nat}{bm:Nat}(hbc:w.heap[bc]? = some (.cells #[.pointer (some ⟨g,0,none⟩)] 143 (0,0)))(n_bc_g:bc≠g)(n_bc_gm:bc≠gm)(hbm:w.heap[bm]? = some (.cells #[.pointer (some ⟨gm,0,none⟩)] 145 (0,0)))(n_bm_g:bm≠g)(n_bm_gm:bm≠gm) :
    Calls Tryz.prog 109 #[.int .i64 most,.pointer (some ⟨bc,0,none⟩),.pointer (some ⟨bm,0,none⟩)] w (m0 g gm (bo (C.wordsC 1) C.wordV most) (mG c 0 C.wordV (C.wordsC 1).wordV 0 0 0 0 0 0 0 0 nS nS nS nS 0 0 0 0 0 nS) w):=by
 obtain⟨hcode1,hcode2⟩:=hcode
 have hlen:=hC.len
 refine en 20 Tryz.func109 rfl<|sq<|Rg 6 (fun w'=>w'.cell? ⟨bm,0,none⟩=some (.pointer (some ⟨gm,0,none⟩))∧w'.cell? ⟨bc,0,none⟩=some (.pointer (some ⟨g,0,none⟩))) fun I d=>?_
 have m:=ub d hbm
 have n:=ub d hbc
 refine be ⟨(ai m rfl),(ai n rfl)⟩ fun o=>Rl 0 o (fun _ hs=>hs.1)<|Rl 1 o (fun _ hs=>hs.2)<|?_
 refine R0 2 rfl<|Oc<|m3 (bh (ae.old hC d)) fun J F i K=>?_
 have p:=aO i n_bm_g m
 have q:=aO i n_bc_g n
 refine be ⟨(ai p rfl),(ai q rfl)⟩ fun r=>Rt 3 r<|Rt 4 r<|?_
 have s:=uz d i
 have t:=aO s (Ne.symm hne) hm
 refine R0 5 rfl<|bO t 2 (mG c 0 C.wordV 0 0 0 0 0 0 0 0 0 nS nS nS nS 0 0 0 0 0 nS) fun L G j=>?_
 have u:=aO j n_bm_gm p
 have v:=aO j n_bc_gm q
 refine be ⟨(ai u rfl),(ai v rfl)⟩ fun M=>re<|tn<|Rg 12 (fun w'=>w'.cell? ⟨bm,0,none⟩=some (.pointer (some ⟨gm,0,none⟩))∧w'.cell? ⟨bc,0,none⟩=some (.pointer (some ⟨g,0,none⟩))∧w'.cell? ⟨gm,2,none⟩=some (.int .u16 C.wordV)) fun N e=>?_
 have x:=ub e u
 have y:=ub e v
 have z:=ub e G
 refine be ⟨(ai x rfl),(ai y rfl),(ai z rfl)⟩ fun b=>Rl 0 b (fun _ hs=>hs.1)<|Rl 1 b (fun _ hs=>hs.2.1)<|Rl 2 b (fun _ hs=>hs.1)<|Rt 3 b<|Rt 4 b<|Rl 5 b (fun _ hs=>hs.2.2)<|Rt 6 b<|?_
 have A:=aE j e
 refine R0 7 rfl<|Oc<|m3 (iB (a:=C.wordV) (most:=most) (ae.upd F A (aa hne ax) (ah (aD t (by decide)) az)) (by omega)) fun O H f P=>?_
 have B:=aO f n_bm_g x
 have D:=aO f n_bc_g y
 have k:=aO f (Ne.symm hne) z
 refine be ⟨(ai B rfl),(ai D rfl),(ai k rfl)⟩ fun l=>Rr 8 l (.int .u16 ((C.wordsC 1).wordV)) (fun _ _=>bV (.int .u16 (IntKind.u16.wrap ((C.wordsC 1).wordV))) (by kernel_rfl) (congrArg (Value.int .u16) (lY (by omega))))<|Rt 9 l<|Rt 10 l<|R0 11 rfl<|bO k 3 (mG c 0 C.wordV ((C.wordsC 1).wordV) 0 0 0 0 0 0 0 0 nS nS nS nS 0 0 0 0 0 nS) fun Q E h=>?_
 refine be ⟨(ai (aO h n_bm_gm B) rfl),(ai (aO h n_bc_gm D) rfl),(ai E rfl)⟩ fun R=>re<|rm (.tuple #[])<|?_
 exact⟨rfl,(ae.upd H h (aa hne ax) (ah (aD k (by decide)) az)),E,(ui s (ui A (us f h)))⟩
theorem vk{g gm:Nat}{c:Int}{C:ak}{w:World}(hcode:B8 c)(hC:ae w g C)(hm:w.heap[gm]? = some (.cells (mC c) 31 (0,0)))(hne:g≠gm){bc:Nat}{bm:Nat}{bw:Nat}(hbc:w.heap[bc]? = some (.cells #[.pointer (some ⟨g,0,none⟩)] 143 (0,0)))(n_bc_g:bc≠g)(n_bc_gm:bc≠gm)(hbm:w.heap[bm]? = some (.cells #[.pointer (some ⟨gm,0,none⟩)] 145 (0,0)))(n_bm_g:bm≠g)(n_bm_gm:bm≠gm)(hbw:w.heap[bw]? = some (.cells #[.func (.func 109) #[] #[.pointer (some ⟨bc,0,none⟩),.pointer (some ⟨bm,0,none⟩)]] 183 (0,0)))(n_bw_g:bw≠g)(n_bw_gm:bw≠gm) :
    Calls Tryz.prog 111 #[.pointer (some ⟨bw,0,none⟩)] w (bD g gm (cg 125 c C).1 (cg 125 c C).2 w):=by
 obtain⟨hcode1,hcode2⟩:=hcode
 have hlen:=hC.len
 refine en 3 Tryz.func111 rfl<|go<|L0<|aR hbw 0<|L0<|eP #[] #[.pointer (some ⟨bc,0,none⟩),.pointer (some ⟨bm,0,none⟩)] (args:=#[.int .i64 125,.pointer (some ⟨bc,0,none⟩),.pointer (some ⟨bm,0,none⟩)])<|m3 (f4 (most:=125) ⟨hcode1,hcode2⟩ hC hm hne hbc n_bc_g n_bc_gm hbm n_bm_g n_bm_gm) fun e a b d=>?_
 have f:=(hC).wordV
 have h:=d6 (cD (hC).rng 1)
 refine nl<|rm (.tuple #[])<|?_
 have hs:cg 125 c C=((bo (C.wordsC 1) C.wordV 125),(bf.mk c 0 C.wordV ((C.wordsC 1).wordV) 0 0 0 0 0 0 0 0 [] [] [] [] 0 0 0 0 0 [])):=by
   unfold cg
   (try simp only[bs,if_true,if_false,decide_true,decide_false,reduceIte])
   all_goals rfl
 rw[hs]
 exact⟨rfl,a,⟨_,⟨b,rfl⟩,⟨_,_,_,_,_,rfl,aH.nil ..,aH.nil ..,aH.nil ..,aH.nil ..,aH.nil ..,⟨(b8 (x:=c) (by omega)),(b8 (x:=0) (by omega)),(aB (x:=C.wordV) (by omega)),(aB (x:=(C.wordsC 1).wordV) (by omega)),(aB (x:=0) (by omega)),(aB (x:=0) (by omega)),(aB (x:=0) (by omega)),(aB (x:=0) (by omega)),(aB (x:=0) (by omega)),(aB (x:=0) (by omega)),(aB (x:=0) (by omega)),(aB (x:=0) (by omega)),(b8 (x:=0) (by omega)),(b8 (x:=0) (by omega)),(b8 (x:=0) (by omega)),(b8 (x:=0) (by omega)),(b8 (x:=0) (by omega))⟩⟩⟩,d⟩
theorem ug{g gm:Nat}{c:Int}{C:ak}{w:World}(hcode:B8 c)(hC:ae w g C)(hm:w.heap[gm]? = some (.cells (mC c) 31 (0,0)))(hne:g≠gm){bc:Nat}{bm:Nat}(hbc:w.heap[bc]? = some (.cells #[.pointer (some ⟨g,0,none⟩)] 143 (0,0)))(n_bc_g:bc≠g)(n_bc_gm:bc≠gm)(hbm:w.heap[bm]? = some (.cells #[.pointer (some ⟨gm,0,none⟩)] 145 (0,0)))(n_bm_g:bm≠g)(n_bm_gm:bm≠gm) :
    Calls Tryz.prog 112 #[.pointer (some ⟨bc,0,none⟩),.pointer (some ⟨bm,0,none⟩)] w (bD g gm (cZ c C).1 (cZ c C).2 w):=by
 obtain⟨hcode1,hcode2⟩:=hcode
 have hlen:=hC.len
 refine en 26 Tryz.func112 rfl<|sg<|L0<|aR hbc 0<|L0<|Oc<|m3 (bi hC) fun N B k O=>L0<|Oi C.byteV<|Pl 1<|ng<|?_
 have l:=aO k n_bc_g hbc
 refine L0<|aR l 0<|Pl 1<|L0<|Oe (.int .i64 (Int.tmod C.byteV 2)) (.int .i64 (C.byteV%2)) (congrArg (Value.int .i64) (Int.tmod_eq_emod_of_nonneg (by omega)))<|Pl 2<|cu 3 [10] 13 ((((C.byteV%2)==0)&&(decide (2≤C.byteV)))) (fun K m=>?_) ?_
 refine bl 10 (((C.byteV%2)==0)) (fun a=>?_) (fun a=>?_)
 have D:=aA a
 exact Pl 3<|ce m (decide (2≤C.byteV)) (by rw[a];rfl)
 have D:=aG a
 exact Pl 3<|ce m false (by rw[a];rfl)
 refine Pl 1<|cu 3 [14] 17 (((((C.byteV%2)==0)&&(decide (2≤C.byteV)))&&(decide (C.byteV≤250)))) (fun K o=>?_) ?_
 refine bl 14 ((((C.byteV%2)==0)&&(decide (2≤C.byteV)))) (fun b=>?_) (fun b=>?_)
 have E:=(bM b).1
 have F:=(bM b).2
 have P:=aA E
 have Q:=of_decide_eq_true F
 exact Pl 3<|ce o (decide (C.byteV≤250)) (by rw[b];rfl)
 exact Pl 3<|ce o false (by rw[b];rfl)
 refine L0<|Oc<|m2 (aL (((((C.byteV%2)==0)&&(decide (2≤C.byteV)))&&(decide (C.byteV≤250)))) 5 B) fun R G H=>nt<|Rg 8 (fun w'=>w'.cell? ⟨bm,0,none⟩=some (.pointer (some ⟨gm,0,none⟩))∧w'.cell? ⟨bc,0,none⟩=some (.pointer (some ⟨g,0,none⟩))) fun S p=>?_
 have q:=aE H p
 have i:=u1 k q im
 have r:=aO i n_bm_g hbm
 have s:=aO q n_bc_g l
 refine be ⟨(ai r rfl),(ai s rfl)⟩ fun f=>Rl 0 f (fun _ hs=>hs.1)<|Rl 1 f (fun _ hs=>hs.2)<|Rt 2 f<|Rr 3 f (.int .i64 (C.byteV/2)) (fun _ _=>bV (.int .i64 (IntKind.i64.wrap (Int.tdiv C.byteV 2))) (by kernel_rfl) (congrArg (Value.int .i64) (mt (by omega) (by omega))))<|?_
 refine R0 4 rfl<|Oc<|mw (cH (n:=(C.byteV/2)) (ae.old G p)) fun I J T t U V L j=>?_
 have u:=aO j n_bm_g r
 have v:=aO j n_bc_g s
 refine be ⟨(ai u rfl),(ai v rfl)⟩ fun y=>Rt 5 y<|Rt 6 y<|?_
 have z:=u1 i j im
 have A:=aO z (Ne.symm hne) hm
 refine R0 7 rfl<|bO A 12 (mG c 0 0 0 0 0 0 0 0 0 0 0 (.slice I ((((C.bytesC 1).need ((((C.byteV%2)==0)&&(decide (2≤C.byteV)))&&(decide (C.byteV≤250))) 5).wordsR (C.byteV/2)).length) J) nS nS nS 0 0 0 0 0 nS) fun W M d=>?_
 refine be ⟨(ai (aO d n_bm_gm u) rfl),(ai (aO d n_bc_gm v) rfl)⟩ fun X=>re<|rm (.tuple #[])<|?_
 have hs:cZ c C=((((C.bytesC 1).need ((((C.byteV%2)==0)&&(decide (2≤C.byteV)))&&(decide (C.byteV≤250))) 5).wordsC (C.byteV/2)),(bf.mk c 0 0 0 0 0 0 0 0 0 0 0 (((C.bytesC 1).need ((((C.byteV%2)==0)&&(decide (2≤C.byteV)))&&(decide (C.byteV≤250))) 5).wordsR (C.byteV/2)) [] [] [] 0 0 0 0 0 [])):=by
   unfold cZ pA jj
   (try simp only[bs,if_true,if_false,decide_true,decide_false,reduceIte])
   all_goals rfl
 rw[hs]
 exact⟨rfl,(ae.upd L d (aa hne ax) (ah (aD A (by decide)) az)),⟨_,⟨M,rfl⟩,⟨_,_,_,_,_,rfl,((am t d (fun x hx=>(aa (fun e=>(aq (aj hm) i.size t) (e▸hx)) ax)) (fun _ _ h=>h))).rd,aH.nil ..,aH.nil ..,aH.nil ..,aH.nil ..,⟨(b8 (x:=c) (by omega)),(b8 (x:=0) (by omega)),(aB (x:=0) (by omega)),(aB (x:=0) (by omega)),(aB (x:=0) (by omega)),(aB (x:=0) (by omega)),(aB (x:=0) (by omega)),(aB (x:=0) (by omega)),(aB (x:=0) (by omega)),(aB (x:=0) (by omega)),(aB (x:=0) (by omega)),(aB (x:=0) (by omega)),(b8 (x:=0) (by omega)),(b8 (x:=0) (by omega)),(b8 (x:=0) (by omega)),(b8 (x:=0) (by omega)),(b8 (x:=0) (by omega))⟩⟩⟩,(us z d)⟩
theorem vg{g gm:Nat}{c:Int}{C:ak}{w:World}(hcode:B8 c)(hC:ae w g C)(hm:w.heap[gm]? = some (.cells (mC c) 31 (0,0)))(hne:g≠gm){bc:Nat}{bm:Nat}(hbc:w.heap[bc]? = some (.cells #[.pointer (some ⟨g,0,none⟩)] 143 (0,0)))(n_bc_g:bc≠g)(n_bc_gm:bc≠gm)(hbm:w.heap[bm]? = some (.cells #[.pointer (some ⟨gm,0,none⟩)] 145 (0,0)))(n_bm_g:bm≠g)(n_bm_gm:bm≠gm) :
    Calls Tryz.prog 114 #[.pointer (some ⟨bc,0,none⟩),.pointer (some ⟨bm,0,none⟩)] w (bD g gm (eM c C).1 (eM c C).2 w):=by
 obtain⟨hcode1,hcode2⟩:=hcode
 have hlen:=hC.len
 refine en 12 Tryz.func114 rfl<|Rg 12 (fun w'=>w'.cell? ⟨bm,0,none⟩=some (.pointer (some ⟨gm,0,none⟩))∧w'.cell? ⟨bc,0,none⟩=some (.pointer (some ⟨g,0,none⟩))) fun B a=>?_
 have i:=ub a hbm
 have j:=ub a hbc
 refine be ⟨(ai i rfl),(ai j rfl)⟩ fun b=>Rl 0 b (fun _ hs=>hs.1)<|Rl 1 b (fun _ hs=>hs.1)<|Rl 2 b (fun _ hs=>hs.2)<|Rl 4 b (fun _ hs=>hs.2)<|?_
 refine R0 3 rfl<|Oc<|m3 (bh (ae.old hC a)) fun D v d E=>?_
 have k:=aO d n_bm_g i
 have l:=aO d n_bc_g j
 refine be ⟨(ai k rfl),(ai l rfl)⟩ fun F=>R0 5 rfl<|Oc<|m3 (bh v) fun G y e H=>?_
 have m:=aO e n_bm_g k
 have n:=aO e n_bc_g l
 refine be ⟨(ai m rfl),(ai n rfl)⟩ fun o=>Rt 6 o<|Rt 7 o<|?_
 have p:=uz a (u1 d e im)
 have q:=aO p (Ne.symm hne) hm
 refine R0 8 rfl<|bO q 2 (mG c 0 C.wordV 0 0 0 0 0 0 0 0 0 nS nS nS nS 0 0 0 0 0 nS) fun I z f=>?_
 have r:=aO f n_bm_gm m
 have s:=aO f n_bc_gm n
 refine be ⟨(ai r rfl),(ai s rfl)⟩ fun t=>Rt 9 t<|Rt 10 t<|R0 11 rfl<|bO z 4 (mG c 0 C.wordV 0 ((C.wordsC 1).wordV) 0 0 0 0 0 0 0 nS nS nS nS 0 0 0 0 0 nS) fun J A h=>?_
 refine be ⟨(ai (aO h n_bm_gm r) rfl),(ai (aO h n_bc_gm s) rfl)⟩ fun K=>re<|rm (.tuple #[])<|?_
 have hs:eM c C=(((C.wordsC 1).wordsC 1),(bf.mk c 0 C.wordV 0 ((C.wordsC 1).wordV) 0 0 0 0 0 0 0 [] [] [] [] 0 0 0 0 0 [])):=by
   unfold eM
   (try simp only[bs,if_true,if_false,decide_true,decide_false,reduceIte])
   all_goals rfl
 rw[hs]
 have u:=u1 f h im
 exact⟨rfl,(ae.upd y u (aa hne ax) (ah (aD q (by decide)) az)),⟨_,⟨A,rfl⟩,⟨_,_,_,_,_,rfl,aH.nil ..,aH.nil ..,aH.nil ..,aH.nil ..,aH.nil ..,⟨(b8 (x:=c) (by omega)),(b8 (x:=0) (by omega)),(aB (x:=C.wordV) (by omega)),(aB (x:=0) (by omega)),(aB (x:=(C.wordsC 1).wordV) (by omega)),(aB (x:=0) (by omega)),(aB (x:=0) (by omega)),(aB (x:=0) (by omega)),(aB (x:=0) (by omega)),(aB (x:=0) (by omega)),(aB (x:=0) (by omega)),(aB (x:=0) (by omega)),(b8 (x:=0) (by omega)),(b8 (x:=0) (by omega)),(b8 (x:=0) (by omega)),(b8 (x:=0) (by omega)),(b8 (x:=0) (by omega))⟩⟩⟩,(us p u)⟩
theorem uo{ask:Bool}{g gm:Nat}{c:Int}{C:ak}{w:World}(hcode:B8 c)(hC:ae w g C)(hm:w.heap[gm]? = some (.cells (mC c) 31 (0,0)))(hne:g≠gm){bc:Nat}{bm:Nat}{bw:Nat}{ba:Nat}(hbc:w.heap[bc]? = some (.cells #[.pointer (some ⟨g,0,none⟩)] 143 (0,0)))(n_bc_g:bc≠g)(n_bc_gm:bc≠gm)(hbm:w.heap[bm]? = some (.cells #[.pointer (some ⟨gm,0,none⟩)] 145 (0,0)))(n_bm_g:bm≠g)(n_bm_gm:bm≠gm)(hbw:w.heap[bw]? = some (.cells #[.func (.func 109) #[] #[.pointer (some ⟨bc,0,none⟩),.pointer (some ⟨bm,0,none⟩)]] 183 (0,0)))(n_bw_g:bw≠g)(n_bw_gm:bw≠gm)(hba:w.heap[ba]? = some (.cells #[.bool ask] 4 (0,0)))(n_ba_g:ba≠g)(n_ba_gm:ba≠gm)(hask:ask=true) :
    Calls Tryz.prog 115 #[.pointer (some ⟨bw,0,none⟩),.pointer (some ⟨ba,0,none⟩),.pointer (some ⟨bc,0,none⟩),.pointer (some ⟨bm,0,none⟩)] w (bD g gm (eR c C).1 (eR c C).2 w):=by
 obtain⟨hcode1,hcode2⟩:=hcode
 have hlen:=hC.len
 refine en 17 Tryz.func115 rfl<|sg<|L0<|aR hbw 0<|L0<|eP #[] #[.pointer (some ⟨bc,0,none⟩),.pointer (some ⟨bm,0,none⟩)] (args:=#[.int .i64 123,.pointer (some ⟨bc,0,none⟩),.pointer (some ⟨bm,0,none⟩)])<|m3 (f4 (most:=123) ⟨hcode1,hcode2⟩ hC hm hne hbc n_bc_g n_bc_gm hbm n_bm_g n_bm_gm) fun B u v k=>?_
 have D:=(hC).wordV
 have E:=d6 (cD (hC).rng 1)
 refine ng<|?_
 refine L0<|aR (au.blk k (aa n_ba_g (aa n_ba_gm ax)) hba) 0<|nt<|ct hask<|Rg 11 (fun w'=>w'.cell? ⟨bm,0,none⟩=some (.pointer (some ⟨gm,0,none⟩))∧w'.cell? ⟨bc,0,none⟩=some (.pointer (some ⟨g,0,none⟩))∧w'.cell? ⟨gm,3,none⟩=some (.int .u16 ((C.wordsC 1).wordV))) fun F i=>?_
 have d:=aE k i
 have l:=au.blk d (aa n_bm_g (aa n_bm_gm ax)) hbm
 have m:=au.blk d (aa n_bc_g (aa n_bc_gm ax)) hbc
 have o:=ub i v
 refine be ⟨(ai l rfl),(ai m rfl),(ai o rfl)⟩ fun a=>Rl 0 a (fun _ hs=>hs.1)<|Rl 1 a (fun _ hs=>hs.2.1)<|Rl 2 a (fun _ hs=>hs.1)<|Rt 3 a<|Rt 4 a<|Rl 5 a (fun _ hs=>hs.2.2)<|Rr 6 a (.int .i64 ((C.wordsC 1).wordV)) (fun _ _=>bV (.int .i64 (IntKind.i64.wrap ((C.wordsC 1).wordV))) (by kernel_rfl) (congrArg (Value.int .i64) (i64_in (by omega))))<|?_
 refine R0 7 rfl<|Oc<|mw (gp (n:=(C.wordsC 1).wordV) (ae.old u i) (by omega)) fun y z G p H I A f=>?_
 have q:=aO f n_bm_g l
 have r:=aO f n_bc_g m
 have j:=aO f (Ne.symm hne) o
 refine be ⟨(ai q rfl),(ai r rfl),(ai j rfl)⟩ fun s=>Rt 8 s<|Rt 9 s<|R0 10 rfl<|bO j 12 (mG c 0 C.wordV ((C.wordsC 1).wordV) 0 0 0 0 0 0 0 0 (.slice y (((bX (bo (C.wordsC 1) C.wordV 123) ((C.wordsC 1).wordV)).wordsR ((C.wordsC 1).wordV)).length) z) nS nS nS 0 0 0 0 0 nS) fun J t b=>?_
 refine be ⟨(ai (aO b n_bm_gm q) rfl),(ai (aO b n_bc_gm r) rfl),(ai t rfl)⟩ fun K=>re<|rm (.tuple #[])<|?_
 have hs:eR c C=(((bX (bo (C.wordsC 1) C.wordV 123) ((C.wordsC 1).wordV)).wordsC ((C.wordsC 1).wordV)),(bf.mk c 0 C.wordV ((C.wordsC 1).wordV) 0 0 0 0 0 0 0 0 ((bX (bo (C.wordsC 1) C.wordV 123) ((C.wordsC 1).wordV)).wordsR ((C.wordsC 1).wordV)) [] [] [] 0 0 0 0 0 [])):=by
   unfold eR l6
   (try simp only[hask,bs,if_true,if_false,decide_true,decide_false,reduceIte])
   all_goals rfl
 rw[hs]
 exact⟨rfl,(ae.upd A b (aa hne ax) (ah (aD j (by decide)) az)),⟨_,⟨t,rfl⟩,⟨_,_,_,_,_,rfl,((am p b (fun x hx=>(aa (fun e=>(aq (aj hm) d.size p) (e▸hx)) ax)) (fun _ _ h=>h))).rd,aH.nil ..,aH.nil ..,aH.nil ..,aH.nil ..,⟨(b8 (x:=c) (by omega)),(b8 (x:=0) (by omega)),(aB (x:=C.wordV) (by omega)),(aB (x:=(C.wordsC 1).wordV) (by omega)),(aB (x:=0) (by omega)),(aB (x:=0) (by omega)),(aB (x:=0) (by omega)),(aB (x:=0) (by omega)),(aB (x:=0) (by omega)),(aB (x:=0) (by omega)),(aB (x:=0) (by omega)),(aB (x:=0) (by omega)),(b8 (x:=0) (by omega)),(b8 (x:=0) (by omega)),(b8 (x:=0) (by omega)),(b8 (x:=0) (by omega)),(b8 (x:=0) (by omega))⟩⟩⟩,(ut d (us f b) (ac im (ac im av)))⟩
theorem uh{ask:Bool}{g gm:Nat}{c:Int}{C:ak}{w:World}(hcode:B8 c)(hC:ae w g C)(hm:w.heap[gm]? = some (.cells (mC c) 31 (0,0)))(hne:g≠gm){bc:Nat}{bm:Nat}{bw:Nat}{ba:Nat}(hbc:w.heap[bc]? = some (.cells #[.pointer (some ⟨g,0,none⟩)] 143 (0,0)))(n_bc_g:bc≠g)(n_bc_gm:bc≠gm)(hbm:w.heap[bm]? = some (.cells #[.pointer (some ⟨gm,0,none⟩)] 145 (0,0)))(n_bm_g:bm≠g)(n_bm_gm:bm≠gm)(hbw:w.heap[bw]? = some (.cells #[.func (.func 109) #[] #[.pointer (some ⟨bc,0,none⟩),.pointer (some ⟨bm,0,none⟩)]] 183 (0,0)))(n_bw_g:bw≠g)(n_bw_gm:bw≠gm)(hba:w.heap[ba]? = some (.cells #[.bool ask] 4 (0,0)))(n_ba_g:ba≠g)(n_ba_gm:ba≠gm)(hask:ask=false) :
    Calls Tryz.prog 115 #[.pointer (some ⟨bw,0,none⟩),.pointer (some ⟨ba,0,none⟩),.pointer (some ⟨bc,0,none⟩),.pointer (some ⟨bm,0,none⟩)] w (bD g gm (cg 123 c C).1 (cg 123 c C).2 w):=by
 obtain⟨hcode1,hcode2⟩:=hcode
 have hlen:=hC.len
 refine en 17 Tryz.func115 rfl<|sg<|L0<|aR hbw 0<|L0<|eP #[] #[.pointer (some ⟨bc,0,none⟩),.pointer (some ⟨bm,0,none⟩)] (args:=#[.int .i64 123,.pointer (some ⟨bc,0,none⟩),.pointer (some ⟨bm,0,none⟩)])<|m3 (f4 (most:=123) ⟨hcode1,hcode2⟩ hC hm hne hbc n_bc_g n_bc_gm hbm n_bm_g n_bm_gm) fun e b d a=>?_
 have f:=(hC).wordV
 have h:=d6 (cD (hC).rng 1)
 refine ng<|?_
 refine L0<|aR (au.blk a (aa n_ba_g (aa n_ba_gm ax)) hba) 0<|nt<|cf hask<|sk<|rm (.tuple #[])<|?_
 have hs:cg 123 c C=((bo (C.wordsC 1) C.wordV 123),(bf.mk c 0 C.wordV ((C.wordsC 1).wordV) 0 0 0 0 0 0 0 0 [] [] [] [] 0 0 0 0 0 [])):=by
   unfold cg
   (try simp only[hask,bs,if_true,if_false,decide_true,decide_false,reduceIte])
   all_goals rfl
 rw[hs]
 exact⟨rfl,b,⟨_,⟨d,rfl⟩,⟨_,_,_,_,_,rfl,aH.nil ..,aH.nil ..,aH.nil ..,aH.nil ..,aH.nil ..,⟨(b8 (x:=c) (by omega)),(b8 (x:=0) (by omega)),(aB (x:=C.wordV) (by omega)),(aB (x:=(C.wordsC 1).wordV) (by omega)),(aB (x:=0) (by omega)),(aB (x:=0) (by omega)),(aB (x:=0) (by omega)),(aB (x:=0) (by omega)),(aB (x:=0) (by omega)),(aB (x:=0) (by omega)),(aB (x:=0) (by omega)),(aB (x:=0) (by omega)),(b8 (x:=0) (by omega)),(b8 (x:=0) (by omega)),(b8 (x:=0) (by omega)),(b8 (x:=0) (by omega)),(b8 (x:=0) (by omega))⟩⟩⟩,a⟩
theorem vm{g gm:Nat}{c:Int}{C:ak}{w:World}(hcode:B8 c)(hC:ae w g C)(hm:w.heap[gm]? = some (.cells (mC c) 31 (0,0)))(hne:g≠gm){bc:Nat}{bm:Nat}(hbc:w.heap[bc]? = some (.cells #[.pointer (some ⟨g,0,none⟩)] 143 (0,0)))(n_bc_g:bc≠g)(n_bc_gm:bc≠gm)(hbm:w.heap[bm]? = some (.cells #[.pointer (some ⟨gm,0,none⟩)] 145 (0,0)))(n_bm_g:bm≠g)(n_bm_gm:bm≠gm) :
    Calls Tryz.prog 117 #[.pointer (some ⟨bc,0,none⟩),.pointer (some ⟨bm,0,none⟩)] w (bD g gm (dI c C).1 (dI c C).2 w):=by
 obtain⟨hcode1,hcode2⟩:=hcode
 have hlen:=hC.len
 refine en 17 Tryz.func117 rfl<|Rg 18 (fun w'=>w'.cell? ⟨bm,0,none⟩=some (.pointer (some ⟨gm,0,none⟩))∧w'.cell? ⟨bc,0,none⟩=some (.pointer (some ⟨g,0,none⟩))) fun L b=>?_
 have k:=ub b hbm
 have l:=ub b hbc
 refine be ⟨(ai k rfl),(ai l rfl)⟩ fun a=>Rl 0 a (fun _ hs=>hs.1)<|Rl 1 a (fun _ hs=>hs.1)<|Rl 2 a (fun _ hs=>hs.1)<|Rl 3 a (fun _ hs=>hs.2)<|Rl 5 a (fun _ hs=>hs.2)<|Rl 7 a (fun _ hs=>hs.2)<|?_
 refine R0 4 rfl<|Oc<|m3 (bh (ae.old hC b)) fun M F d N=>?_
 have m:=aO d n_bm_g k
 have n:=aO d n_bc_g l
 refine be ⟨(ai m rfl),(ai n rfl)⟩ fun O=>R0 6 rfl<|Oc<|m3 (bh F) fun P G e Q=>?_
 have o:=aO e n_bm_g m
 have p:=aO e n_bc_g n
 refine be ⟨(ai o rfl),(ai p rfl)⟩ fun R=>R0 8 rfl<|Oc<|m3 (bh G) fun S H f T=>?_
 have q:=aO f n_bm_g o
 have r:=aO f n_bc_g p
 refine be ⟨(ai q rfl),(ai r rfl)⟩ fun s=>Rt 9 s<|Rt 10 s<|?_
 have t:=uz b (u1 d (u1 e f im) im)
 have u:=aO t (Ne.symm hne) hm
 refine R0 11 rfl<|bO u 2 (mG c 0 C.wordV 0 0 0 0 0 0 0 0 0 nS nS nS nS 0 0 0 0 0 nS) fun U I h=>?_
 have v:=aO h n_bm_gm q
 have y:=aO h n_bc_gm r
 refine be ⟨(ai v rfl),(ai y rfl)⟩ fun z=>Rt 12 z<|Rt 13 z<|R0 14 rfl<|bO I 5 (mG c 0 C.wordV 0 0 ((C.wordsC 1).wordV) 0 0 0 0 0 0 nS nS nS nS 0 0 0 0 0 nS) fun V J i=>?_
 have A:=aO i n_bm_gm v
 have B:=aO i n_bc_gm y
 refine be ⟨(ai A rfl),(ai B rfl)⟩ fun D=>Rt 15 D<|Rt 16 D<|R0 17 rfl<|bO J 6 (mG c 0 C.wordV 0 0 ((C.wordsC 1).wordV) (((C.wordsC 1).wordsC 1).wordV) 0 0 0 0 0 nS nS nS nS 0 0 0 0 0 nS) fun W K j=>?_
 refine be ⟨(ai (aO j n_bm_gm A) rfl),(ai (aO j n_bc_gm B) rfl)⟩ fun X=>re<|rm (.tuple #[])<|?_
 have hs:dI c C=((((C.wordsC 1).wordsC 1).wordsC 1),(bf.mk c 0 C.wordV 0 0 ((C.wordsC 1).wordV) (((C.wordsC 1).wordsC 1).wordV) 0 0 0 0 0 [] [] [] [] 0 0 0 0 0 [])):=by
   unfold dI
   (try simp only[bs,if_true,if_false,decide_true,decide_false,reduceIte])
   all_goals rfl
 rw[hs]
 have E:=u1 h (u1 i j im) im
 exact⟨rfl,(ae.upd H E (aa hne ax) (ah (aD u (by decide)) az)),⟨_,⟨K,rfl⟩,⟨_,_,_,_,_,rfl,aH.nil ..,aH.nil ..,aH.nil ..,aH.nil ..,aH.nil ..,⟨(b8 (x:=c) (by omega)),(b8 (x:=0) (by omega)),(aB (x:=C.wordV) (by omega)),(aB (x:=0) (by omega)),(aB (x:=0) (by omega)),(aB (x:=(C.wordsC 1).wordV) (by omega)),(aB (x:=((C.wordsC 1).wordsC 1).wordV) (by omega)),(aB (x:=0) (by omega)),(aB (x:=0) (by omega)),(aB (x:=0) (by omega)),(aB (x:=0) (by omega)),(aB (x:=0) (by omega)),(b8 (x:=0) (by omega)),(b8 (x:=0) (by omega)),(b8 (x:=0) (by omega)),(b8 (x:=0) (by omega)),(b8 (x:=0) (by omega))⟩⟩⟩,(us t E)⟩
theorem vJ{g gm:Nat}{c:Int}{C:ak}{w:World}(hcode:B8 c)(hC:ae w g C)(hm:w.heap[gm]? = some (.cells (mC c) 31 (0,0)))(hne:g≠gm){bc:Nat}{bm:Nat}{bw:Nat}(hbc:w.heap[bc]? = some (.cells #[.pointer (some ⟨g,0,none⟩)] 143 (0,0)))(n_bc_g:bc≠g)(n_bc_gm:bc≠gm)(hbm:w.heap[bm]? = some (.cells #[.pointer (some ⟨gm,0,none⟩)] 145 (0,0)))(n_bm_g:bm≠g)(n_bm_gm:bm≠gm)(hbw:w.heap[bw]? = some (.cells #[.func (.func 109) #[] #[.pointer (some ⟨bc,0,none⟩),.pointer (some ⟨bm,0,none⟩)]] 183 (0,0)))(n_bw_g:bw≠g)(n_bw_gm:bw≠gm) :
    Calls Tryz.prog 118 #[.pointer (some ⟨bw,0,none⟩),.pointer (some ⟨bc,0,none⟩),.pointer (some ⟨bm,0,none⟩)] w (bD g gm (eT c C).1 (eT c C).2 w):=by
 obtain⟨hcode1,hcode2⟩:=hcode
 have hlen:=hC.len
 refine en 21 Tryz.func118 rfl<|sg<|L0<|aR hbw 0<|L0<|eP #[] #[.pointer (some ⟨bc,0,none⟩),.pointer (some ⟨bm,0,none⟩)] (args:=#[.int .i64 125,.pointer (some ⟨bc,0,none⟩),.pointer (some ⟨bm,0,none⟩)])<|m3 (f4 (most:=125) ⟨hcode1,hcode2⟩ hC hm hne hbc n_bc_g n_bc_gm hbm n_bm_g n_bm_gm) fun X P Q q=>?_
 have Y:=(hC).wordV
 have Z:=d6 (cD (hC).rng 1)
 refine nt<|sq<|Rg 6 (fun w'=>w'.cell? ⟨bm,0,none⟩=some (.pointer (some ⟨gm,0,none⟩))∧w'.cell? ⟨bc,0,none⟩=some (.pointer (some ⟨g,0,none⟩))) fun a0 k=>?_
 have o:=aE q k
 have r:=au.blk o (aa n_bm_g (aa n_bm_gm ax)) hbm
 have s:=au.blk o (aa n_bc_g (aa n_bc_gm ax)) hbc
 refine be ⟨(ai r rfl),(ai s rfl)⟩ fun t=>Rl 0 t (fun _ hs=>hs.1)<|Rl 1 t (fun _ hs=>hs.2)<|?_
 refine R0 2 rfl<|Oc<|m3 (bh (ae.old P k)) fun a1 R d a2=>?_
 have u:=aO d n_bm_g r
 have v:=aO d n_bc_g s
 refine be ⟨(ai u rfl),(ai v rfl)⟩ fun y=>Rt 3 y<|Rt 4 y<|?_
 have z:=aO (uz k d) (Ne.symm hne) Q
 refine R0 5 rfl<|bO z 7 (mG c 0 C.wordV ((C.wordsC 1).wordV) 0 0 0 ((bo (C.wordsC 1) C.wordV 125).wordV) 0 0 0 0 nS nS nS nS 0 0 0 0 0 nS) fun a3 S l=>?_
 have A:=aO l n_bm_gm u
 have B:=aO l n_bc_gm v
 refine be ⟨(ai A rfl),(ai B rfl)⟩ fun a4=>re<|tn<|Rg 12 (fun w'=>w'.cell? ⟨bm,0,none⟩=some (.pointer (some ⟨gm,0,none⟩))∧w'.cell? ⟨bc,0,none⟩=some (.pointer (some ⟨g,0,none⟩))∧w'.cell? ⟨gm,7,none⟩=some (.int .u16 ((bo (C.wordsC 1) C.wordV 125).wordV))) fun a5 f=>?_
 have D:=ub f A
 have E:=ub f B
 have F:=ub f S
 refine be ⟨(ai D rfl),(ai E rfl),(ai F rfl)⟩ fun b=>Rl 0 b (fun _ hs=>hs.1)<|Rl 1 b (fun _ hs=>hs.2.1)<|Rl 2 b (fun _ hs=>hs.2.1)<|Rl 3 b (fun _ hs=>hs.1)<|Rt 4 b<|Rt 5 b<|Rl 6 b (fun _ hs=>hs.2.2)<|?_
 have G:=aE l f
 refine R0 7 rfl<|Oc<|m3 (iB (a:=(bo (C.wordsC 1) C.wordV 125).wordV) (most:=121) (ae.upd R G (aa hne ax) (ah (aD z (by decide)) az)) (by omega)) fun a6 T i a7=>?_
 have H:=aO i n_bm_g D
 have I:=aO i n_bc_g E
 have J:=aO i (Ne.symm hne) F
 refine be ⟨(ai H rfl),(ai I rfl),(ai J rfl)⟩ fun a8=>R0 8 rfl<|Oc<|mw (gp (n:=((bo (C.wordsC 1) C.wordV 125).wordsC 1).wordV) T (by omega)) fun U V a9 K ab ad W m=>?_
 have L:=aO m n_bm_g H
 have M:=aO m n_bc_g I
 have p:=aO m (Ne.symm hne) J
 refine be ⟨(ai L rfl),(ai M rfl),(ai p rfl)⟩ fun N=>Rt 9 N<|Rt 10 N<|R0 11 rfl<|bO p 12 (mG c 0 C.wordV ((C.wordsC 1).wordV) 0 0 0 ((bo (C.wordsC 1) C.wordV 125).wordV) 0 0 0 0 (.slice U (((bX (bo ((bo (C.wordsC 1) C.wordV 125).wordsC 1) ((bo (C.wordsC 1) C.wordV 125).wordV) 121) (((bo (C.wordsC 1) C.wordV 125).wordsC 1).wordV)).wordsR (((bo (C.wordsC 1) C.wordV 125).wordsC 1).wordV)).length) V) nS nS nS 0 0 0 0 0 nS) fun af O j=>?_
 refine be ⟨(ai (aO j n_bm_gm L) rfl),(ai (aO j n_bc_gm M) rfl),(ai O rfl)⟩ fun ag=>re<|rm (.tuple #[])<|?_
 have hs:eT c C=(((bX (bo ((bo (C.wordsC 1) C.wordV 125).wordsC 1) ((bo (C.wordsC 1) C.wordV 125).wordV) 121) (((bo (C.wordsC 1) C.wordV 125).wordsC 1).wordV)).wordsC (((bo (C.wordsC 1) C.wordV 125).wordsC 1).wordV)),(bf.mk c 0 C.wordV ((C.wordsC 1).wordV) 0 0 0 ((bo (C.wordsC 1) C.wordV 125).wordV) 0 0 0 0 ((bX (bo ((bo (C.wordsC 1) C.wordV 125).wordsC 1) ((bo (C.wordsC 1) C.wordV 125).wordV) 121) (((bo (C.wordsC 1) C.wordV 125).wordsC 1).wordV)).wordsR (((bo (C.wordsC 1) C.wordV 125).wordsC 1).wordV)) [] [] [] 0 0 0 0 0 [])):=by
   unfold eT l5 rL jV
   (try simp only[bs,if_true,if_false,decide_true,decide_false,reduceIte])
   all_goals rfl
 rw[hs]
 exact⟨rfl,(ae.upd W j (aa hne ax) (ah (aD p (by decide)) az)),⟨_,⟨O,rfl⟩,⟨_,_,_,_,_,rfl,((am K j (fun x hx=>(aa (fun e=>(aq (aj hm) (le (le (le (le (le q.size k.size) d.size) l.size) f.size) i.size) K) (e▸hx)) ax)) (fun _ _ h=>h))).rd,aH.nil ..,aH.nil ..,aH.nil ..,aH.nil ..,⟨(b8 (x:=c) (by omega)),(b8 (x:=0) (by omega)),(aB (x:=C.wordV) (by omega)),(aB (x:=(C.wordsC 1).wordV) (by omega)),(aB (x:=0) (by omega)),(aB (x:=0) (by omega)),(aB (x:=0) (by omega)),(aB (x:=(bo (C.wordsC 1) C.wordV 125).wordV) (by omega)),(aB (x:=0) (by omega)),(aB (x:=0) (by omega)),(aB (x:=0) (by omega)),(aB (x:=0) (by omega)),(b8 (x:=0) (by omega)),(b8 (x:=0) (by omega)),(b8 (x:=0) (by omega)),(b8 (x:=0) (by omega)),(b8 (x:=0) (by omega))⟩⟩⟩,(ut o (ui d (ui G (ui i (us m j)))) (ac im (ac im av)))⟩
theorem vH{g gm:Nat}{c:Int}{C:ak}{w:World}(hcode:B8 c)(hC:ae w g C)(hm:w.heap[gm]? = some (.cells (mC c) 31 (0,0)))(hne:g≠gm){bc:Nat}{bm:Nat}(hbc:w.heap[bc]? = some (.cells #[.pointer (some ⟨g,0,none⟩)] 143 (0,0)))(n_bc_g:bc≠g)(n_bc_gm:bc≠gm)(hbm:w.heap[bm]? = some (.cells #[.pointer (some ⟨gm,0,none⟩)] 145 (0,0)))(n_bm_g:bm≠g)(n_bm_gm:bm≠gm) :
    Calls Tryz.prog 119 #[.pointer (some ⟨bc,0,none⟩),.pointer (some ⟨bm,0,none⟩)] w (bD g gm (eN c C).1 (eN c C).2 w):=by
 obtain⟨hcode1,hcode2⟩:=hcode
 have hlen:=hC.len
 refine en 7 Tryz.func119 rfl<|Rg 6 (fun w'=>w'.cell? ⟨bm,0,none⟩=some (.pointer (some ⟨gm,0,none⟩))∧w'.cell? ⟨bc,0,none⟩=some (.pointer (some ⟨g,0,none⟩))) fun p a=>?_
 have e:=ub a hbm
 have f:=ub a hbc
 refine be ⟨(ai e rfl),(ai f rfl)⟩ fun h=>Rl 0 h (fun _ hs=>hs.1)<|Rl 1 h (fun _ hs=>hs.2)<|?_
 refine R0 2 rfl<|Oc<|m3 (bh (ae.old hC a)) fun q n d r=>?_
 have i:=aO d n_bm_g e
 have j:=aO d n_bc_g f
 refine be ⟨(ai i rfl),(ai j rfl)⟩ fun k=>Rt 3 k<|Rt 4 k<|?_
 have l:=uz a d
 have m:=aO l (Ne.symm hne) hm
 refine R0 5 rfl<|bO m 2 (mG c 0 C.wordV 0 0 0 0 0 0 0 0 0 nS nS nS nS 0 0 0 0 0 nS) fun s o b=>?_
 refine be ⟨(ai (aO b n_bm_gm i) rfl),(ai (aO b n_bc_gm j) rfl)⟩ fun t=>re<|rm (.tuple #[])<|?_
 have hs:eN c C=((C.wordsC 1),(bf.mk c 0 C.wordV 0 0 0 0 0 0 0 0 0 [] [] [] [] 0 0 0 0 0 [])):=by
   unfold eN
   (try simp only[bs,if_true,if_false,decide_true,decide_false,reduceIte])
   all_goals rfl
 rw[hs]
 exact⟨rfl,(ae.upd n b (aa hne ax) (ah (aD m (by decide)) az)),⟨_,⟨o,rfl⟩,⟨_,_,_,_,_,rfl,aH.nil ..,aH.nil ..,aH.nil ..,aH.nil ..,aH.nil ..,⟨(b8 (x:=c) (by omega)),(b8 (x:=0) (by omega)),(aB (x:=C.wordV) (by omega)),(aB (x:=0) (by omega)),(aB (x:=0) (by omega)),(aB (x:=0) (by omega)),(aB (x:=0) (by omega)),(aB (x:=0) (by omega)),(aB (x:=0) (by omega)),(aB (x:=0) (by omega)),(aB (x:=0) (by omega)),(aB (x:=0) (by omega)),(b8 (x:=0) (by omega)),(b8 (x:=0) (by omega)),(b8 (x:=0) (by omega)),(b8 (x:=0) (by omega)),(b8 (x:=0) (by omega))⟩⟩⟩,(us l b)⟩
theorem vz{g gm:Nat}{c:Int}{C:ak}{w:World}(hcode:B8 c)(hC:ae w g C)(hm:w.heap[gm]? = some (.cells (mC c) 31 (0,0)))(hne:g≠gm){bc:Nat}{bm:Nat}(hbc:w.heap[bc]? = some (.cells #[.pointer (some ⟨g,0,none⟩)] 143 (0,0)))(n_bc_g:bc≠g)(n_bc_gm:bc≠gm)(hbm:w.heap[bm]? = some (.cells #[.pointer (some ⟨gm,0,none⟩)] 145 (0,0)))(n_bm_g:bm≠g)(n_bm_gm:bm≠gm) :
    Calls Tryz.prog 120 #[.pointer (some ⟨bc,0,none⟩),.pointer (some ⟨bm,0,none⟩)] w (bD g gm (rO c C).1 (rO c C).2 w):=by
 obtain⟨hcode1,hcode2⟩:=hcode
 have hlen:=hC.len
 refine en 36 Tryz.func120 rfl<|sg<|L0<|aR hbc 0<|L0<|Oc<|m3 (bh hC) fun T G k U=>L0<|Oi C.wordV<|Pl 1<|ng<|?_
 have l:=aO k n_bc_g hbc
 refine L0<|aR l 0<|Pl 1<|L0<|Oe (.int .i64 (Int.tmod C.wordV 2)) (.int .i64 (C.wordV%2)) (congrArg (Value.int .i64) (Int.tmod_eq_emod_of_nonneg (by omega)))<|Pl 2<|cu 3 [11] 14 ((((C.wordV%2)==0)&&(decide (2≤C.wordV)))) (fun K m=>?_) ?_
 refine bl 11 (((C.wordV%2)==0)) (fun a=>?_) (fun a=>?_)
 have H:=aA a
 exact Pl 3<|ce m (decide (2≤C.wordV)) (by rw[a];rfl)
 have H:=aG a
 exact Pl 3<|ce m false (by rw[a];rfl)
 refine Pl 1<|cu 3 [15] 18 (((((C.wordV%2)==0)&&(decide (2≤C.wordV)))&&(decide (C.wordV≤64)))) (fun K o=>?_) ?_
 refine bl 15 ((((C.wordV%2)==0)&&(decide (2≤C.wordV)))) (fun b=>?_) (fun b=>?_)
 have I:=(bM b).1
 have J:=(bM b).2
 have V:=aA I
 have W:=of_decide_eq_true J
 exact Pl 3<|ce o (decide (C.wordV≤64)) (by rw[b];rfl)
 exact Pl 3<|ce o false (by rw[b];rfl)
 refine L0<|Oc<|m2 (aL (((((C.wordV%2)==0)&&(decide (2≤C.wordV)))&&(decide (C.wordV≤64)))) 5 G) fun X L p=>ng<|?_
 have q:=aO p n_bc_g l
 refine L0<|aR q 0<|L0<|Oc<|m3 (bh L) fun Y M r Z=>L0<|Oi (((C.wordsC 1).need ((((C.wordV%2)==0)&&(decide (2≤C.wordV)))&&(decide (C.wordV≤64))) 5).wordV)<|Pl 1<|ng<|?_
 have s:=aO r n_bc_g q
 refine L0<|aR s 0<|Pl 1<|L0<|Oi (2*(((C.wordsC 1).need ((((C.wordV%2)==0)&&(decide (2≤C.wordV)))&&(decide (C.wordV≤64))) 5).wordV))<|L0<|Oi (2+(2*(((C.wordsC 1).need ((((C.wordV%2)==0)&&(decide (2≤C.wordV)))&&(decide (C.wordV≤64))) 5).wordV)))<|Pl 2<|L0<|Oc<|m2 (aL (((2+(2*(((C.wordsC 1).need ((((C.wordV%2)==0)&&(decide (2≤C.wordV)))&&(decide (C.wordV≤64))) 5).wordV)))==C.wordV)) 5 M) fun a0 N O=>nt<|Rg 7 (fun w'=>w'.cell? ⟨bm,0,none⟩=some (.pointer (some ⟨gm,0,none⟩))∧w'.cell? ⟨bc,0,none⟩=some (.pointer (some ⟨g,0,none⟩))) fun a1 t=>?_
 have u:=aE O t
 have f:=u1 k (u1 p (u1 r u im) im) im
 have v:=aO f n_bm_g hbm
 have y:=aO u n_bc_g s
 refine be ⟨(ai v rfl),(ai y rfl)⟩ fun i=>Rl 0 i (fun _ hs=>hs.1)<|Rl 1 i (fun _ hs=>hs.2)<|Rt 2 i<|?_
 refine R0 3 rfl<|Oc<|mw (cH (n:=((C.wordsC 1).need ((((C.wordV%2)==0)&&(decide (2≤C.wordV)))&&(decide (C.wordV≤64))) 5).wordV) (ae.old N t)) fun P Q a2 z a3 a4 R j=>?_
 have A:=aO j n_bm_g v
 have B:=aO j n_bc_g y
 refine be ⟨(ai A rfl),(ai B rfl)⟩ fun D=>Rt 4 D<|Rt 5 D<|?_
 have E:=u1 f j im
 have F:=aO E (Ne.symm hne) hm
 refine R0 6 rfl<|bO F 12 (mG c 0 0 0 0 0 0 0 0 0 0 0 (.slice P ((((((C.wordsC 1).need ((((C.wordV%2)==0)&&(decide (2≤C.wordV)))&&(decide (C.wordV≤64))) 5).wordsC 1).need ((2+(2*(((C.wordsC 1).need ((((C.wordV%2)==0)&&(decide (2≤C.wordV)))&&(decide (C.wordV≤64))) 5).wordV)))==C.wordV) 5).wordsR (((C.wordsC 1).need ((((C.wordV%2)==0)&&(decide (2≤C.wordV)))&&(decide (C.wordV≤64))) 5).wordV)).length) Q) nS nS nS 0 0 0 0 0 nS) fun a5 S d=>?_
 refine be ⟨(ai (aO d n_bm_gm A) rfl),(ai (aO d n_bc_gm B) rfl)⟩ fun a6=>re<|rm (.tuple #[])<|?_
 have hs:rO c C=((((((C.wordsC 1).need ((((C.wordV%2)==0)&&(decide (2≤C.wordV)))&&(decide (C.wordV≤64))) 5).wordsC 1).need ((2+(2*(((C.wordsC 1).need ((((C.wordV%2)==0)&&(decide (2≤C.wordV)))&&(decide (C.wordV≤64))) 5).wordV)))==C.wordV) 5).wordsC (((C.wordsC 1).need ((((C.wordV%2)==0)&&(decide (2≤C.wordV)))&&(decide (C.wordV≤64))) 5).wordV)),(bf.mk c 0 0 0 0 0 0 0 0 0 0 0 (((((C.wordsC 1).need ((((C.wordV%2)==0)&&(decide (2≤C.wordV)))&&(decide (C.wordV≤64))) 5).wordsC 1).need ((2+(2*(((C.wordsC 1).need ((((C.wordV%2)==0)&&(decide (2≤C.wordV)))&&(decide (C.wordV≤64))) 5).wordV)))==C.wordV) 5).wordsR (((C.wordsC 1).need ((((C.wordV%2)==0)&&(decide (2≤C.wordV)))&&(decide (C.wordV≤64))) 5).wordV)) [] [] [] 0 0 0 0 0 [])):=by
   unfold rO uQ tB jj
   (try simp only[bs,if_true,if_false,decide_true,decide_false,reduceIte])
   all_goals rfl
 rw[hs]
 exact⟨rfl,(ae.upd R d (aa hne ax) (ah (aD F (by decide)) az)),⟨_,⟨S,rfl⟩,⟨_,_,_,_,_,rfl,((am z d (fun x hx=>(aa (fun e=>(aq (aj hm) f.size z) (e▸hx)) ax)) (fun _ _ h=>h))).rd,aH.nil ..,aH.nil ..,aH.nil ..,aH.nil ..,⟨(b8 (x:=c) (by omega)),(b8 (x:=0) (by omega)),(aB (x:=0) (by omega)),(aB (x:=0) (by omega)),(aB (x:=0) (by omega)),(aB (x:=0) (by omega)),(aB (x:=0) (by omega)),(aB (x:=0) (by omega)),(aB (x:=0) (by omega)),(aB (x:=0) (by omega)),(aB (x:=0) (by omega)),(aB (x:=0) (by omega)),(b8 (x:=0) (by omega)),(b8 (x:=0) (by omega)),(b8 (x:=0) (by omega)),(b8 (x:=0) (by omega)),(b8 (x:=0) (by omega))⟩⟩⟩,(us E d)⟩
open Go.RowKit
theorem nc{g gm:Nat}{C:ak}{w:World}(hC:ae w g C)(hm:w.heap[gm]? = some (.cells (mC 3) 31 (0,0)))(hne:g≠gm) : Calls Tryz.prog 86 #[.int .i64 0,.pointer (some ⟨gm,0,none⟩),.pointer (some ⟨g,0,none⟩)] w (ft (fun W=>bD g gm (cg 125 3 C).1 (cg 125 3 C).2 W) w):=by
 refine en 67 Tryz.func86 rfl<|sg<|L0<|cW #[.pointer (some ⟨gm,0,none⟩)] fun n D f o a=>L0<|cW #[.pointer (some ⟨g,0,none⟩)] fun p E h q b=>Pl 1<|ng<|Pl 1<|L0<|bz #[.nilFunc] fun r F d s t=>L0<|bO s 0 #[.func (.func 109) #[] #[.pointer (some ⟨p,0,none⟩),.pointer (some ⟨n,0,none⟩)]] fun G u v=>nl<|?_
 refine tn<|sg<|Pl 2<|L0<|bz #[.bool false] fun H I x y z=>L0<|bO y 0 #[.bool true] fun J A B=>nt<|sq<|sg<|?_
 have i:=ud z B x
 have j:=ud t (aE v i) d
 have k:=aE b j
 have l:=ub k o
 refine L0<|aR l 0<|Pl 2<|?_
 have e:=aE a k
 have m:=ub e hm
 refine L0<|aR m 0<|Pl 1<|nt<|bk<|sg<|L0<|aR A 0<|Pl 9<|nt<|c1<|sg<|?_
 refine Pl 2<|nt<|rt<|br<|tr<|rr (.func (.func 111) #[] #[.pointer (some ⟨r,0,none⟩)])<|?_
 exact⟨_,_,rfl,by kernel_rfl,e,vk (c:=3) ⟨by decide,by decide⟩ (ae.old hC e) m hne (ub j q) (Ne.symm (nb (ae.lt hC) a.size h)) (Ne.symm (nb (aj hm) a.size h)) l (Ne.symm (nb (ae.lt hC) lr f)) (Ne.symm (nb (aj hm) lr f)) (ub i u) (Ne.symm (nb (ae.lt hC) (le a.size b.size) d)) (Ne.symm (nb (aj hm) (le a.size b.size) d))⟩
theorem mL{g gm:Nat}{C:ak}{w:World}(hC:ae w g C)(hm:w.heap[gm]? = some (.cells (mC 4) 31 (0,0)))(hne:g≠gm) : Calls Tryz.prog 86 #[.int .i64 0,.pointer (some ⟨gm,0,none⟩),.pointer (some ⟨g,0,none⟩)] w (ft (fun W=>bD g gm (cg 125 4 C).1 (cg 125 4 C).2 W) w):=by
 refine en 67 Tryz.func86 rfl<|sg<|L0<|cW #[.pointer (some ⟨gm,0,none⟩)] fun n D f o a=>L0<|cW #[.pointer (some ⟨g,0,none⟩)] fun p E h q b=>Pl 1<|ng<|Pl 1<|L0<|bz #[.nilFunc] fun r F d s t=>L0<|bO s 0 #[.func (.func 109) #[] #[.pointer (some ⟨p,0,none⟩),.pointer (some ⟨n,0,none⟩)]] fun G u v=>nl<|?_
 refine tn<|sg<|Pl 2<|L0<|bz #[.bool false] fun H I x y z=>L0<|bO y 0 #[.bool true] fun J A B=>nt<|sq<|sg<|?_
 have i:=ud z B x
 have j:=ud t (aE v i) d
 have k:=aE b j
 have l:=ub k o
 refine L0<|aR l 0<|Pl 2<|?_
 have e:=aE a k
 have m:=ub e hm
 refine L0<|aR m 0<|Pl 1<|nt<|bk<|sg<|L0<|aR A 0<|Pl 9<|nt<|c1<|sg<|?_
 refine Pl 2<|nt<|rt<|br<|tr<|rr (.func (.func 111) #[] #[.pointer (some ⟨r,0,none⟩)])<|?_
 exact⟨_,_,rfl,by kernel_rfl,e,vk (c:=4) ⟨by decide,by decide⟩ (ae.old hC e) m hne (ub j q) (Ne.symm (nb (ae.lt hC) a.size h)) (Ne.symm (nb (aj hm) a.size h)) l (Ne.symm (nb (ae.lt hC) lr f)) (Ne.symm (nb (aj hm) lr f)) (ub i u) (Ne.symm (nb (ae.lt hC) (le a.size b.size) d)) (Ne.symm (nb (aj hm) (le a.size b.size) d))⟩
theorem oe{g gm:Nat}{C:ak}{w:World}(hC:ae w g C)(hm:w.heap[gm]? = some (.cells (mC 3) 31 (0,0)))(hne:g≠gm) : Calls Tryz.prog 86 #[.int .i64 1,.pointer (some ⟨gm,0,none⟩),.pointer (some ⟨g,0,none⟩)] w (ft (fun W=>bD g gm (cZ 3 C).1 (cZ 3 C).2 W) w):=by
 refine en 67 Tryz.func86 rfl<|sg<|L0<|cW #[.pointer (some ⟨gm,0,none⟩)] fun d z e m a=>L0<|cW #[.pointer (some ⟨g,0,none⟩)] fun f A h n o=>Pl 1<|ng<|Pl 1<|L0<|bz #[.nilFunc] fun B D p q r=>L0<|bO q 0 #[.func (.func 109) #[] #[.pointer (some ⟨f,0,none⟩),.pointer (some ⟨d,0,none⟩)]] fun E F s=>nl<|?_
 refine tn<|sg<|Pl 2<|L0<|bz #[.bool false] fun G H t u v=>L0<|bO u 0 #[.bool false] fun I x y=>nt<|sq<|sg<|?_
 have i:=ud r (aE s (ud v y t)) p
 have j:=aE o i
 have k:=ub j m
 refine L0<|aR k 0<|Pl 2<|?_
 have b:=aE a j
 have l:=ub b hm
 refine L0<|aR l 0<|Pl 1<|nt<|bk<|sg<|L0<|aR x 0<|Pl 9<|nt<|c0<|sq<|sq<|?_
 refine go<|Pl 3<|nt<|c1<|bB<|c1<|sg<|Pl 2<|nt<|rt<|?_
 refine br<|tr<|rr (.func (.func 112) #[] #[.pointer (some ⟨f,0,none⟩),.pointer (some ⟨d,0,none⟩)])<|?_
 exact⟨_,_,rfl,by kernel_rfl,b,ug (c:=3) ⟨by decide,by decide⟩ (ae.old hC b) l hne (ub i n) (Ne.symm (nb (ae.lt hC) a.size h)) (Ne.symm (nb (aj hm) a.size h)) k (Ne.symm (nb (ae.lt hC) lr e)) (Ne.symm (nb (aj hm) lr e))⟩
theorem nW{g gm:Nat}{C:ak}{w:World}(hC:ae w g C)(hm:w.heap[gm]? = some (.cells (mC 4) 31 (0,0)))(hne:g≠gm) : Calls Tryz.prog 86 #[.int .i64 1,.pointer (some ⟨gm,0,none⟩),.pointer (some ⟨g,0,none⟩)] w (ft (fun W=>bD g gm (cZ 4 C).1 (cZ 4 C).2 W) w):=by
 refine en 67 Tryz.func86 rfl<|sg<|L0<|cW #[.pointer (some ⟨gm,0,none⟩)] fun d z e m a=>L0<|cW #[.pointer (some ⟨g,0,none⟩)] fun f A h n o=>Pl 1<|ng<|Pl 1<|L0<|bz #[.nilFunc] fun B D p q r=>L0<|bO q 0 #[.func (.func 109) #[] #[.pointer (some ⟨f,0,none⟩),.pointer (some ⟨d,0,none⟩)]] fun E F s=>nl<|?_
 refine tn<|sg<|Pl 2<|L0<|bz #[.bool false] fun G H t u v=>L0<|bO u 0 #[.bool false] fun I x y=>nt<|sq<|sg<|?_
 have i:=ud r (aE s (ud v y t)) p
 have j:=aE o i
 have k:=ub j m
 refine L0<|aR k 0<|Pl 2<|?_
 have b:=aE a j
 have l:=ub b hm
 refine L0<|aR l 0<|Pl 1<|nt<|bk<|sg<|L0<|aR x 0<|Pl 9<|nt<|c0<|sq<|sq<|?_
 refine go<|Pl 3<|nt<|c0<|sg<|Pl 3<|nt<|c1<|bB<|c1<|?_
 refine sg<|Pl 2<|nt<|rt<|br<|tr<|rr (.func (.func 112) #[] #[.pointer (some ⟨f,0,none⟩),.pointer (some ⟨d,0,none⟩)])<|?_
 exact⟨_,_,rfl,by kernel_rfl,b,ug (c:=4) ⟨by decide,by decide⟩ (ae.old hC b) l hne (ub i n) (Ne.symm (nb (ae.lt hC) a.size h)) (Ne.symm (nb (aj hm) a.size h)) k (Ne.symm (nb (ae.lt hC) lr e)) (Ne.symm (nb (aj hm) lr e))⟩
theorem mX{g gm:Nat}{C:ak}{w:World}(hC:ae w g C)(hm:w.heap[gm]? = some (.cells (mC 6) 31 (0,0)))(hne:g≠gm) : Calls Tryz.prog 86 #[.int .i64 0,.pointer (some ⟨gm,0,none⟩),.pointer (some ⟨g,0,none⟩)] w (ft (fun W=>bD g gm (eM 6 C).1 (eM 6 C).2 W) w):=by
 refine en 67 Tryz.func86 rfl<|sg<|L0<|cW #[.pointer (some ⟨gm,0,none⟩)] fun d z e m a=>L0<|cW #[.pointer (some ⟨g,0,none⟩)] fun f A h n o=>Pl 1<|ng<|Pl 1<|L0<|bz #[.nilFunc] fun B D p q r=>L0<|bO q 0 #[.func (.func 109) #[] #[.pointer (some ⟨f,0,none⟩),.pointer (some ⟨d,0,none⟩)]] fun E F s=>nl<|?_
 refine tn<|sg<|Pl 2<|L0<|bz #[.bool false] fun G H t u v=>L0<|bO u 0 #[.bool true] fun I x y=>nt<|sq<|sg<|?_
 have i:=ud r (aE s (ud v y t)) p
 have j:=aE o i
 have k:=ub j m
 refine L0<|aR k 0<|Pl 2<|?_
 have b:=aE a j
 have l:=ub b hm
 refine L0<|aR l 0<|Pl 1<|nt<|bk<|sg<|L0<|aR x 0<|Pl 9<|nt<|c0<|sq<|sq<|?_
 refine go<|Pl 3<|nt<|c0<|sg<|Pl 3<|nt<|c0<|go<|Pl 7<|nl<|?_
 refine tn<|c0<|sg<|Pl 3<|nt<|c1<|sg<|Pl 2<|nt<|rt<|?_
 refine br<|tr<|rr (.func (.func 114) #[] #[.pointer (some ⟨f,0,none⟩),.pointer (some ⟨d,0,none⟩)])<|?_
 exact⟨_,_,rfl,by kernel_rfl,b,vg (c:=6) ⟨by decide,by decide⟩ (ae.old hC b) l hne (ub i n) (Ne.symm (nb (ae.lt hC) a.size h)) (Ne.symm (nb (aj hm) a.size h)) k (Ne.symm (nb (ae.lt hC) lr e)) (Ne.symm (nb (aj hm) lr e))⟩
theorem nE{g gm:Nat}{C:ak}{w:World}(hC:ae w g C)(hm:w.heap[gm]? = some (.cells (mC 6) 31 (0,0)))(hne:g≠gm) : Calls Tryz.prog 86 #[.int .i64 1,.pointer (some ⟨gm,0,none⟩),.pointer (some ⟨g,0,none⟩)] w (ft (fun W=>bD g gm (eM 6 C).1 (eM 6 C).2 W) w):=by
 refine en 67 Tryz.func86 rfl<|sg<|L0<|cW #[.pointer (some ⟨gm,0,none⟩)] fun d z e m a=>L0<|cW #[.pointer (some ⟨g,0,none⟩)] fun f A h n o=>Pl 1<|ng<|Pl 1<|L0<|bz #[.nilFunc] fun B D p q r=>L0<|bO q 0 #[.func (.func 109) #[] #[.pointer (some ⟨f,0,none⟩),.pointer (some ⟨d,0,none⟩)]] fun E F s=>nl<|?_
 refine tn<|sg<|Pl 2<|L0<|bz #[.bool false] fun G H t u v=>L0<|bO u 0 #[.bool false] fun I x y=>nt<|sq<|sg<|?_
 have i:=ud r (aE s (ud v y t)) p
 have j:=aE o i
 have k:=ub j m
 refine L0<|aR k 0<|Pl 2<|?_
 have b:=aE a j
 have l:=ub b hm
 refine L0<|aR l 0<|Pl 1<|nt<|bk<|sg<|L0<|aR x 0<|Pl 9<|nt<|c0<|sq<|sq<|?_
 refine go<|Pl 3<|nt<|c0<|sg<|Pl 3<|nt<|c0<|go<|Pl 7<|nl<|?_
 refine tn<|c0<|sg<|Pl 3<|nt<|c1<|sg<|Pl 2<|nt<|rt<|?_
 refine br<|tr<|rr (.func (.func 114) #[] #[.pointer (some ⟨f,0,none⟩),.pointer (some ⟨d,0,none⟩)])<|?_
 exact⟨_,_,rfl,by kernel_rfl,b,vg (c:=6) ⟨by decide,by decide⟩ (ae.old hC b) l hne (ub i n) (Ne.symm (nb (ae.lt hC) a.size h)) (Ne.symm (nb (aj hm) a.size h)) k (Ne.symm (nb (ae.lt hC) lr e)) (Ne.symm (nb (aj hm) lr e))⟩
theorem lJ{g gm:Nat}{C:ak}{w:World}(hC:ae w g C)(hm:w.heap[gm]? = some (.cells (mC 16) 31 (0,0)))(hne:g≠gm) : Calls Tryz.prog 86 #[.int .i64 0,.pointer (some ⟨gm,0,none⟩),.pointer (some ⟨g,0,none⟩)] w (ft (fun W=>bD g gm (eR 16 C).1 (eR 16 C).2 W) w):=by
 refine en 67 Tryz.func86 rfl<|sg<|L0<|cW #[.pointer (some ⟨gm,0,none⟩)] fun j E k t a=>L0<|cW #[.pointer (some ⟨g,0,none⟩)] fun l F m u b=>Pl 1<|ng<|Pl 1<|L0<|bz #[.nilFunc] fun v G d x e=>L0<|bO x 0 #[.func (.func 109) #[] #[.pointer (some ⟨l,0,none⟩),.pointer (some ⟨j,0,none⟩)]] fun H y f=>nl<|?_
 refine tn<|sg<|Pl 2<|L0<|bz #[.bool false] fun z I h A B=>L0<|bO A 0 #[.bool true] fun J n D=>nt<|sq<|sg<|?_
 have o:=ud B D h
 have p:=ud e (aE f o) d
 have q:=aE b p
 have r:=ub q t
 refine L0<|aR r 0<|Pl 2<|?_
 have i:=aE a q
 have s:=ub i hm
 refine L0<|aR s 0<|Pl 1<|nt<|bk<|sg<|L0<|aR n 0<|Pl 9<|nt<|c0<|sq<|sq<|?_
 refine go<|Pl 3<|nt<|c0<|sg<|Pl 3<|nt<|c0<|go<|Pl 7<|nl<|?_
 refine tn<|c0<|sg<|Pl 3<|nt<|c0<|sg<|Pl 3<|nt<|c1<|?_
 refine sg<|Pl 2<|nt<|rt<|br<|tr<|rr (.func (.func 115) #[] #[.pointer (some ⟨v,0,none⟩),.pointer (some ⟨z,0,none⟩),.pointer (some ⟨l,0,none⟩),.pointer (some ⟨j,0,none⟩)])<|?_
 exact⟨_,_,rfl,by kernel_rfl,i,uo (c:=16) ⟨by decide,by decide⟩ (ae.old hC i) s hne (ub p u) (Ne.symm (nb (ae.lt hC) a.size m)) (Ne.symm (nb (aj hm) a.size m)) r (Ne.symm (nb (ae.lt hC) lr k)) (Ne.symm (nb (aj hm) lr k)) (ub o y) (Ne.symm (nb (ae.lt hC) (le a.size b.size) d)) (Ne.symm (nb (aj hm) (le a.size b.size) d)) n (Ne.symm (nb (ae.lt hC) (le (le (le a.size b.size) e.size) f.size) h)) (Ne.symm (nb (aj hm) (le (le (le a.size b.size) e.size) f.size) h)) rfl⟩
theorem l1{g gm:Nat}{C:ak}{w:World}(hC:ae w g C)(hm:w.heap[gm]? = some (.cells (mC 16) 31 (0,0)))(hne:g≠gm) : Calls Tryz.prog 86 #[.int .i64 1,.pointer (some ⟨gm,0,none⟩),.pointer (some ⟨g,0,none⟩)] w (ft (fun W=>bD g gm (cg 123 16 C).1 (cg 123 16 C).2 W) w):=by
 refine en 67 Tryz.func86 rfl<|sg<|L0<|cW #[.pointer (some ⟨gm,0,none⟩)] fun j E k t a=>L0<|cW #[.pointer (some ⟨g,0,none⟩)] fun l F m u b=>Pl 1<|ng<|Pl 1<|L0<|bz #[.nilFunc] fun v G d x e=>L0<|bO x 0 #[.func (.func 109) #[] #[.pointer (some ⟨l,0,none⟩),.pointer (some ⟨j,0,none⟩)]] fun H y f=>nl<|?_
 refine tn<|sg<|Pl 2<|L0<|bz #[.bool false] fun z I h A B=>L0<|bO A 0 #[.bool false] fun J n D=>nt<|sq<|sg<|?_
 have o:=ud B D h
 have p:=ud e (aE f o) d
 have q:=aE b p
 have r:=ub q t
 refine L0<|aR r 0<|Pl 2<|?_
 have i:=aE a q
 have s:=ub i hm
 refine L0<|aR s 0<|Pl 1<|nt<|bk<|sg<|L0<|aR n 0<|Pl 9<|nt<|c0<|sq<|sq<|?_
 refine go<|Pl 3<|nt<|c0<|sg<|Pl 3<|nt<|c0<|go<|Pl 7<|nl<|?_
 refine tn<|c0<|sg<|Pl 3<|nt<|c0<|sg<|Pl 3<|nt<|c1<|?_
 refine sg<|Pl 2<|nt<|rt<|br<|tr<|rr (.func (.func 115) #[] #[.pointer (some ⟨v,0,none⟩),.pointer (some ⟨z,0,none⟩),.pointer (some ⟨l,0,none⟩),.pointer (some ⟨j,0,none⟩)])<|?_
 exact⟨_,_,rfl,by kernel_rfl,i,uh (c:=16) ⟨by decide,by decide⟩ (ae.old hC i) s hne (ub p u) (Ne.symm (nb (ae.lt hC) a.size m)) (Ne.symm (nb (aj hm) a.size m)) r (Ne.symm (nb (ae.lt hC) lr k)) (Ne.symm (nb (aj hm) lr k)) (ub o y) (Ne.symm (nb (ae.lt hC) (le a.size b.size) d)) (Ne.symm (nb (aj hm) (le a.size b.size) d)) n (Ne.symm (nb (ae.lt hC) (le (le (le a.size b.size) e.size) f.size) h)) (Ne.symm (nb (aj hm) (le (le (le a.size b.size) e.size) f.size) h)) rfl⟩
theorem lT{g gm:Nat}{C:ak}{w:World}(hC:ae w g C)(hm:w.heap[gm]? = some (.cells (mC 22) 31 (0,0)))(hne:g≠gm) : Calls Tryz.prog 86 #[.int .i64 0,.pointer (some ⟨gm,0,none⟩),.pointer (some ⟨g,0,none⟩)] w (ft (fun W=>bD g gm (dI 22 C).1 (dI 22 C).2 W) w):=by
 refine en 67 Tryz.func86 rfl<|sg<|L0<|cW #[.pointer (some ⟨gm,0,none⟩)] fun d z e m a=>L0<|cW #[.pointer (some ⟨g,0,none⟩)] fun f A h n o=>Pl 1<|ng<|Pl 1<|L0<|bz #[.nilFunc] fun B D p q r=>L0<|bO q 0 #[.func (.func 109) #[] #[.pointer (some ⟨f,0,none⟩),.pointer (some ⟨d,0,none⟩)]] fun E F s=>nl<|?_
 refine tn<|sg<|Pl 2<|L0<|bz #[.bool false] fun G H t u v=>L0<|bO u 0 #[.bool true] fun I x y=>nt<|sq<|sg<|?_
 have i:=ud r (aE s (ud v y t)) p
 have j:=aE o i
 have k:=ub j m
 refine L0<|aR k 0<|Pl 2<|?_
 have b:=aE a j
 have l:=ub b hm
 refine L0<|aR l 0<|Pl 1<|nt<|bk<|sg<|L0<|aR x 0<|Pl 9<|nt<|c0<|sq<|sq<|?_
 refine go<|Pl 3<|nt<|c0<|sg<|Pl 3<|nt<|c0<|go<|Pl 7<|nl<|?_
 refine tn<|c0<|sg<|Pl 3<|nt<|c0<|sg<|Pl 3<|nt<|c0<|?_
 refine sg<|Pl 3<|nt<|c1<|sg<|Pl 2<|nt<|rt<|br<|tr<|?_
 refine rr (.func (.func 117) #[] #[.pointer (some ⟨f,0,none⟩),.pointer (some ⟨d,0,none⟩)])<|?_
 exact⟨_,_,rfl,by kernel_rfl,b,vm (c:=22) ⟨by decide,by decide⟩ (ae.old hC b) l hne (ub i n) (Ne.symm (nb (ae.lt hC) a.size h)) (Ne.symm (nb (aj hm) a.size h)) k (Ne.symm (nb (ae.lt hC) lr e)) (Ne.symm (nb (aj hm) lr e))⟩
theorem ma{g gm:Nat}{C:ak}{w:World}(hC:ae w g C)(hm:w.heap[gm]? = some (.cells (mC 22) 31 (0,0)))(hne:g≠gm) : Calls Tryz.prog 86 #[.int .i64 1,.pointer (some ⟨gm,0,none⟩),.pointer (some ⟨g,0,none⟩)] w (ft (fun W=>bD g gm (dI 22 C).1 (dI 22 C).2 W) w):=by
 refine en 67 Tryz.func86 rfl<|sg<|L0<|cW #[.pointer (some ⟨gm,0,none⟩)] fun d z e m a=>L0<|cW #[.pointer (some ⟨g,0,none⟩)] fun f A h n o=>Pl 1<|ng<|Pl 1<|L0<|bz #[.nilFunc] fun B D p q r=>L0<|bO q 0 #[.func (.func 109) #[] #[.pointer (some ⟨f,0,none⟩),.pointer (some ⟨d,0,none⟩)]] fun E F s=>nl<|?_
 refine tn<|sg<|Pl 2<|L0<|bz #[.bool false] fun G H t u v=>L0<|bO u 0 #[.bool false] fun I x y=>nt<|sq<|sg<|?_
 have i:=ud r (aE s (ud v y t)) p
 have j:=aE o i
 have k:=ub j m
 refine L0<|aR k 0<|Pl 2<|?_
 have b:=aE a j
 have l:=ub b hm
 refine L0<|aR l 0<|Pl 1<|nt<|bk<|sg<|L0<|aR x 0<|Pl 9<|nt<|c0<|sq<|sq<|?_
 refine go<|Pl 3<|nt<|c0<|sg<|Pl 3<|nt<|c0<|go<|Pl 7<|nl<|?_
 refine tn<|c0<|sg<|Pl 3<|nt<|c0<|sg<|Pl 3<|nt<|c0<|?_
 refine sg<|Pl 3<|nt<|c1<|sg<|Pl 2<|nt<|rt<|br<|tr<|?_
 refine rr (.func (.func 117) #[] #[.pointer (some ⟨f,0,none⟩),.pointer (some ⟨d,0,none⟩)])<|?_
 exact⟨_,_,rfl,by kernel_rfl,b,vm (c:=22) ⟨by decide,by decide⟩ (ae.old hC b) l hne (ub i n) (Ne.symm (nb (ae.lt hC) a.size h)) (Ne.symm (nb (aj hm) a.size h)) k (Ne.symm (nb (ae.lt hC) lr e)) (Ne.symm (nb (aj hm) lr e))⟩
theorem kY{g gm:Nat}{C:ak}{w:World}(hC:ae w g C)(hm:w.heap[gm]? = some (.cells (mC 23) 31 (0,0)))(hne:g≠gm) : Calls Tryz.prog 86 #[.int .i64 0,.pointer (some ⟨gm,0,none⟩),.pointer (some ⟨g,0,none⟩)] w (ft (fun W=>bD g gm (eT 23 C).1 (eT 23 C).2 W) w):=by
 refine en 67 Tryz.func86 rfl<|sg<|L0<|cW #[.pointer (some ⟨gm,0,none⟩)] fun f D h q a=>L0<|cW #[.pointer (some ⟨g,0,none⟩)] fun i E j r b=>Pl 1<|ng<|Pl 1<|L0<|bz #[.nilFunc] fun s F d t u=>L0<|bO t 0 #[.func (.func 109) #[] #[.pointer (some ⟨i,0,none⟩),.pointer (some ⟨f,0,none⟩)]] fun G v x=>nl<|?_
 refine tn<|sg<|Pl 2<|L0<|bz #[.bool false] fun H I y z A=>L0<|bO z 0 #[.bool true] fun J k B=>nt<|sq<|sg<|?_
 have l:=ud A B y
 have m:=ud u (aE x l) d
 have n:=aE b m
 have o:=ub n q
 refine L0<|aR o 0<|Pl 2<|?_
 have e:=aE a n
 have p:=ub e hm
 refine L0<|aR p 0<|Pl 1<|nt<|bk<|sg<|L0<|aR k 0<|Pl 9<|nt<|c0<|sq<|sq<|?_
 refine go<|Pl 3<|nt<|c0<|sg<|Pl 3<|nt<|c0<|go<|Pl 3<|L1<|aR k 0<|?_
 refine Pl 3<|nt<|c0<|sg<|Pl 3<|nt<|c0<|sg<|Pl 3<|nl<|?_
 refine tn<|c0<|sg<|Pl 3<|nt<|c0<|sg<|Pl 3<|nt<|c1<|?_
 refine sg<|Pl 2<|nt<|rt<|br<|tr<|rr (.func (.func 118) #[] #[.pointer (some ⟨s,0,none⟩),.pointer (some ⟨i,0,none⟩),.pointer (some ⟨f,0,none⟩)])<|?_
 exact⟨_,_,rfl,by kernel_rfl,e,vJ (c:=23) ⟨by decide,by decide⟩ (ae.old hC e) p hne (ub m r) (Ne.symm (nb (ae.lt hC) a.size j)) (Ne.symm (nb (aj hm) a.size j)) o (Ne.symm (nb (ae.lt hC) lr h)) (Ne.symm (nb (aj hm) lr h)) (ub l v) (Ne.symm (nb (ae.lt hC) (le a.size b.size) d)) (Ne.symm (nb (aj hm) (le a.size b.size) d))⟩
theorem lW{g gm:Nat}{C:ak}{w:World}(hC:ae w g C)(hm:w.heap[gm]? = some (.cells (mC 23) 31 (0,0)))(hne:g≠gm) : Calls Tryz.prog 86 #[.int .i64 1,.pointer (some ⟨gm,0,none⟩),.pointer (some ⟨g,0,none⟩)] w (ft (fun W=>bD g gm (cZ 23 C).1 (cZ 23 C).2 W) w):=by
 refine en 67 Tryz.func86 rfl<|sg<|L0<|cW #[.pointer (some ⟨gm,0,none⟩)] fun d z e n a=>L0<|cW #[.pointer (some ⟨g,0,none⟩)] fun f A h o p=>Pl 1<|ng<|Pl 1<|L0<|bz #[.nilFunc] fun B D q r s=>L0<|bO r 0 #[.func (.func 109) #[] #[.pointer (some ⟨f,0,none⟩),.pointer (some ⟨d,0,none⟩)]] fun E F t=>nl<|?_
 refine tn<|sg<|Pl 2<|L0<|bz #[.bool false] fun G H u v x=>L0<|bO v 0 #[.bool false] fun I i y=>nt<|sq<|sg<|?_
 have j:=ud s (aE t (ud x y u)) q
 have k:=aE p j
 have l:=ub k n
 refine L0<|aR l 0<|Pl 2<|?_
 have b:=aE a k
 have m:=ub b hm
 refine L0<|aR m 0<|Pl 1<|nt<|bk<|sg<|L0<|aR i 0<|Pl 9<|nt<|c0<|sq<|sq<|?_
 refine go<|Pl 3<|nt<|c0<|sg<|Pl 3<|nt<|c0<|go<|Pl 3<|L1<|aR i 0<|?_
 refine Pl 3<|nt<|c1<|sg<|Pl 2<|nt<|rt<|br<|tr<|rr (.func (.func 112) #[] #[.pointer (some ⟨f,0,none⟩),.pointer (some ⟨d,0,none⟩)])<|?_
 exact⟨_,_,rfl,by kernel_rfl,b,ug (c:=23) ⟨by decide,by decide⟩ (ae.old hC b) m hne (ub j o) (Ne.symm (nb (ae.lt hC) a.size h)) (Ne.symm (nb (aj hm) a.size h)) l (Ne.symm (nb (ae.lt hC) lr e)) (Ne.symm (nb (aj hm) lr e))⟩
theorem l2{g gm:Nat}{C:ak}{w:World}(hC:ae w g C)(hm:w.heap[gm]? = some (.cells (mC 24) 31 (0,0)))(hne:g≠gm) : Calls Tryz.prog 86 #[.int .i64 0,.pointer (some ⟨gm,0,none⟩),.pointer (some ⟨g,0,none⟩)] w (ft (fun W=>bD g gm (eN 24 C).1 (eN 24 C).2 W) w):=by
 refine en 67 Tryz.func86 rfl<|sg<|L0<|cW #[.pointer (some ⟨gm,0,none⟩)] fun d z e n a=>L0<|cW #[.pointer (some ⟨g,0,none⟩)] fun f A h o p=>Pl 1<|ng<|Pl 1<|L0<|bz #[.nilFunc] fun B D q r s=>L0<|bO r 0 #[.func (.func 109) #[] #[.pointer (some ⟨f,0,none⟩),.pointer (some ⟨d,0,none⟩)]] fun E F t=>nl<|?_
 refine tn<|sg<|Pl 2<|L0<|bz #[.bool false] fun G H u v x=>L0<|bO v 0 #[.bool true] fun I i y=>nt<|sq<|sg<|?_
 have j:=ud s (aE t (ud x y u)) q
 have k:=aE p j
 have l:=ub k n
 refine L0<|aR l 0<|Pl 2<|?_
 have b:=aE a k
 have m:=ub b hm
 refine L0<|aR m 0<|Pl 1<|nt<|bk<|sg<|L0<|aR i 0<|Pl 9<|nt<|c0<|sq<|sq<|?_
 refine go<|Pl 3<|nt<|c0<|sg<|Pl 3<|nt<|c0<|go<|Pl 7<|nl<|?_
 refine tn<|c0<|sg<|Pl 3<|nt<|c0<|sg<|Pl 3<|nt<|c0<|?_
 refine sg<|Pl 3<|nt<|c0<|sg<|Pl 3<|nt<|c0<|sg<|?_
 refine Pl 3<|L1<|aR i 0<|Pl 2<|nt<|c1<|sg<|Pl 2<|nt<|rt<|br<|tr<|?_
 refine rr (.func (.func 119) #[] #[.pointer (some ⟨f,0,none⟩),.pointer (some ⟨d,0,none⟩)])<|?_
 exact⟨_,_,rfl,by kernel_rfl,b,vH (c:=24) ⟨by decide,by decide⟩ (ae.old hC b) m hne (ub j o) (Ne.symm (nb (ae.lt hC) a.size h)) (Ne.symm (nb (aj hm) a.size h)) l (Ne.symm (nb (ae.lt hC) lr e)) (Ne.symm (nb (aj hm) lr e))⟩
theorem lV{g gm:Nat}{C:ak}{w:World}(hC:ae w g C)(hm:w.heap[gm]? = some (.cells (mC 24) 31 (0,0)))(hne:g≠gm) : Calls Tryz.prog 86 #[.int .i64 1,.pointer (some ⟨gm,0,none⟩),.pointer (some ⟨g,0,none⟩)] w (ft (fun W=>bD g gm (rO 24 C).1 (rO 24 C).2 W) w):=by
 refine en 67 Tryz.func86 rfl<|sg<|L0<|cW #[.pointer (some ⟨gm,0,none⟩)] fun d z e n a=>L0<|cW #[.pointer (some ⟨g,0,none⟩)] fun f A h o p=>Pl 1<|ng<|Pl 1<|L0<|bz #[.nilFunc] fun B D q r s=>L0<|bO r 0 #[.func (.func 109) #[] #[.pointer (some ⟨f,0,none⟩),.pointer (some ⟨d,0,none⟩)]] fun E F t=>nl<|?_
 refine tn<|sg<|Pl 2<|L0<|bz #[.bool false] fun G H u v x=>L0<|bO v 0 #[.bool false] fun I i y=>nt<|sq<|sg<|?_
 have j:=ud s (aE t (ud x y u)) q
 have k:=aE p j
 have l:=ub k n
 refine L0<|aR l 0<|Pl 2<|?_
 have b:=aE a k
 have m:=ub b hm
 refine L0<|aR m 0<|Pl 1<|nt<|bk<|sg<|L0<|aR i 0<|Pl 9<|nt<|c0<|sq<|sq<|?_
 refine go<|Pl 3<|nt<|c0<|sg<|Pl 3<|nt<|c0<|go<|Pl 7<|nl<|?_
 refine tn<|c0<|sg<|Pl 3<|nt<|c0<|sg<|Pl 3<|nt<|c0<|?_
 refine sg<|Pl 3<|nt<|c0<|sg<|Pl 3<|nt<|c0<|sg<|?_
 refine Pl 3<|L1<|aR i 0<|Pl 2<|nt<|c0<|sg<|Pl 3<|nt<|c1<|sg<|?_
 refine Pl 2<|nt<|rt<|br<|tr<|rr (.func (.func 120) #[] #[.pointer (some ⟨f,0,none⟩),.pointer (some ⟨d,0,none⟩)])<|?_
 exact⟨_,_,rfl,by kernel_rfl,b,vz (c:=24) ⟨by decide,by decide⟩ (ae.old hC b) m hne (ub j o) (Ne.symm (nb (ae.lt hC) a.size h)) (Ne.symm (nb (aj hm) a.size h)) l (Ne.symm (nb (ae.lt hC) lr e)) (Ne.symm (nb (aj hm) lr e))⟩
theorem lv{c:Int}{g gm:Nat}{C:ak}{w:World}(hC:ae w g C)(hm:w.heap[gm]? = some (.cells (mC c) 31 (0,0)))(hne:g≠gm)(k3:(c==3)=false)(k4:(c==4)=false)(k6:(c==6)=false)(f:(c==16)=false)(h:(c==22)=false)(a:(c==23)=false)(b:(c==24)=false) : Calls Tryz.prog 86 #[.int .i64 0,.pointer (some ⟨gm,0,none⟩),.pointer (some ⟨g,0,none⟩)] w (bg .nilFunc w):=by
 refine en 67 Tryz.func86 rfl<|sg<|L0<|cW #[.pointer (some ⟨gm,0,none⟩)] fun i x y j k=>L0<|cW #[.pointer (some ⟨g,0,none⟩)] fun l z A B m=>Pl 1<|ng<|Pl 1<|L0<|bz #[.nilFunc] fun D E n o p=>L0<|bO o 0 #[.func (.func 109) #[] #[.pointer (some ⟨l,0,none⟩),.pointer (some ⟨i,0,none⟩)]] fun F G q=>nl<|?_
 refine tn<|sg<|Pl 2<|L0<|bz #[.bool false] fun H I r s t=>L0<|bO s 0 #[.bool true] fun J u v=>nt<|sq<|sg<|?_
 have d:=aE m (ud p (aE q (ud t v r)) n)
 refine L0<|aR (ub d j) 0<|Pl 2<|?_
 have e:=aE k d
 refine L0<|aR (ub e hm) 0<|Pl 1<|nt<|bk<|sg<|L0<|aR u 0<|Pl 4<|sy 22 k3<|Pl 5<|nt<|cf k4<|?_
 refine sq<|sg<|Pl 3<|nt<|cf k3<|sg<|Pl 3<|nt<|cf k4<|go<|?_
 refine Pl 3<|sy 35 a<|Pl 4<|nt<|c0<|sg<|Pl 3<|nt<|cf k6<|sg<|?_
 refine Pl 3<|nt<|cf f<|sg<|Pl 3<|nt<|cf h<|sg<|Pl 3<|nl<|?_
 refine tn<|cf a<|sg<|Pl 3<|sy 59 b<|Pl 3<|nt<|c0<|sg<|Pl 3<|nl<|?_
 refine tn<|cf b<|sk<|bn<|tn<|sg<|Pl 1<|nt<|rt<|rr (.nilFunc)<|?_
 exact⟨rfl,e⟩
theorem lc{c:Int}{g gm:Nat}{C:ak}{w:World}(hC:ae w g C)(hm:w.heap[gm]? = some (.cells (mC c) 31 (0,0)))(hne:g≠gm)(k3:(c==3)=false)(k4:(c==4)=false)(k6:(c==6)=false)(f:(c==16)=false)(h:(c==22)=false)(a:(c==23)=false)(b:(c==24)=false) : Calls Tryz.prog 86 #[.int .i64 1,.pointer (some ⟨gm,0,none⟩),.pointer (some ⟨g,0,none⟩)] w (bg .nilFunc w):=by
 refine en 67 Tryz.func86 rfl<|sg<|L0<|cW #[.pointer (some ⟨gm,0,none⟩)] fun i x y j k=>L0<|cW #[.pointer (some ⟨g,0,none⟩)] fun l z A B m=>Pl 1<|ng<|Pl 1<|L0<|bz #[.nilFunc] fun D E n o p=>L0<|bO o 0 #[.func (.func 109) #[] #[.pointer (some ⟨l,0,none⟩),.pointer (some ⟨i,0,none⟩)]] fun F G q=>nl<|?_
 refine tn<|sg<|Pl 2<|L0<|bz #[.bool false] fun H I r s t=>L0<|bO s 0 #[.bool false] fun J u v=>nt<|sq<|sg<|?_
 have d:=aE m (ud p (aE q (ud t v r)) n)
 refine L0<|aR (ub d j) 0<|Pl 2<|?_
 have e:=aE k d
 refine L0<|aR (ub e hm) 0<|Pl 1<|nt<|bk<|sg<|L0<|aR u 0<|Pl 9<|nt<|c0<|sq<|sq<|?_
 refine go<|Pl 3<|nt<|cf k3<|sg<|Pl 3<|nt<|cf k4<|go<|Pl 3<|sy 35 a<|?_
 refine Pl 4<|nt<|c0<|sg<|Pl 3<|nt<|cf k6<|sg<|Pl 3<|nl<|?_
 refine tn<|cf f<|sg<|Pl 3<|nt<|cf h<|sg<|Pl 3<|nt<|cf a<|?_
 refine sg<|Pl 3<|sy 59 b<|Pl 3<|nt<|c0<|sg<|Pl 3<|nt<|cf b<|?_
 refine sk<|bn<|tn<|sg<|Pl 1<|nt<|rt<|rr (.nilFunc)<|?_
 exact⟨rfl,e⟩
theorem gR{dir c:Int}{r:ak × bf}{g gm:Nat}{C:ak}{w:World}(hC:ae w g C)(hm:w.heap[gm]? = some (.cells (mC c) 31 (0,0)))(hne:g≠gm)(hd:dir=0∨dir=1)(h:bG dir c C=some r) : Calls Tryz.prog 86 #[.int .i64 dir,.pointer (some ⟨gm,0,none⟩),.pointer (some ⟨g,0,none⟩)] w (ft (fun W=>bD g gm r.1 r.2 W) w):=by
  by_cases h3:c=3
  · subst h3
    rcases hd with rfl|rfl
    · obtain rfl:cg 125 3 C=r:=Option.some.inj h
      exact nc hC hm hne
    · obtain rfl:cZ 3 C=r:=Option.some.inj h
      exact oe hC hm hne
  by_cases h4:c=4
  · subst h4
    rcases hd with rfl|rfl
    · obtain rfl:cg 125 4 C=r:=Option.some.inj h
      exact mL hC hm hne
    · obtain rfl:cZ 4 C=r:=Option.some.inj h
      exact nW hC hm hne
  by_cases h6:c=6
  · subst h6
    rcases hd with rfl|rfl
    · obtain rfl:eM 6 C=r:=Option.some.inj h
      exact mX hC hm hne
    · obtain rfl:eM 6 C=r:=Option.some.inj h
      exact nE hC hm hne
  by_cases a:c=16
  · subst a
    rcases hd with rfl|rfl
    · obtain rfl:eR 16 C=r:=Option.some.inj h
      exact lJ hC hm hne
    · obtain rfl:cg 123 16 C=r:=Option.some.inj h
      exact l1 hC hm hne
  by_cases b:c=22
  · subst b
    rcases hd with rfl|rfl
    · obtain rfl:dI 22 C=r:=Option.some.inj h
      exact lT hC hm hne
    · obtain rfl:dI 22 C=r:=Option.some.inj h
      exact ma hC hm hne
  by_cases d:c=23
  · subst d
    rcases hd with rfl|rfl
    · obtain rfl:eT 23 C=r:=Option.some.inj h
      exact kY hC hm hne
    · obtain rfl:cZ 23 C=r:=Option.some.inj h
      exact lW hC hm hne
  by_cases e:c=24
  · subst e
    rcases hd with rfl|rfl
    · obtain rfl:eN 24 C=r:=Option.some.inj h
      exact l2 hC hm hne
    · obtain rfl:rO 24 C=r:=Option.some.inj h
      exact lV hC hm hne
  exfalso
  unfold bG at h
  simp[h3,h4,h6,a,b,d,e] at h
theorem i3{dir c:Int}{g gm:Nat}{C:ak}{w:World}(hC:ae w g C)(hm:w.heap[gm]? = some (.cells (mC c) 31 (0,0)))(hne:g≠gm)(hd:dir=0∨dir=1)(h:bG dir c C=none) : Calls Tryz.prog 86 #[.int .i64 dir,.pointer (some ⟨gm,0,none⟩),.pointer (some ⟨g,0,none⟩)] w (bg .nilFunc w):=by
  have k3:(c==3)=false:=by
    cases hk:(c==3)
    · rfl
    · obtain rfl:c=3:=by simpa using hk
      rcases hd with rfl|rfl<;>cases h
  have k4:(c==4)=false:=by
    cases hk:(c==4)
    · rfl
    · obtain rfl:c=4:=by simpa using hk
      rcases hd with rfl|rfl<;>cases h
  have k6:(c==6)=false:=by
    cases hk:(c==6)
    · rfl
    · obtain rfl:c=6:=by simpa using hk
      rcases hd with rfl|rfl<;>cases h
  have a:(c==16)=false:=by
    cases hk:(c==16)
    · rfl
    · obtain rfl:c=16:=by simpa using hk
      rcases hd with rfl|rfl<;>cases h
  have b:(c==22)=false:=by
    cases hk:(c==22)
    · rfl
    · obtain rfl:c=22:=by simpa using hk
      rcases hd with rfl|rfl<;>cases h
  have d:(c==23)=false:=by
    cases hk:(c==23)
    · rfl
    · obtain rfl:c=23:=by simpa using hk
      rcases hd with rfl|rfl<;>cases h
  have e:(c==24)=false:=by
    cases hk:(c==24)
    · rfl
    · obtain rfl:c=24:=by simpa using hk
      rcases hd with rfl|rfl<;>cases h
  rcases hd with rfl|rfl
  · exact lv hC hm hne k3 k4 k6 a b d e
  · exact lc hC hm hne k3 k4 k6 a b d e
open Go.RowKit
theorem jf{m:Bool}{A:Option Addr}{cp:Nat}{b:List Int}{w:World}{c:Int}(hcode:B8 c)(hsl:aM m w (.slice A b.length cp) b)(hb:b.length≤1048576) :
    Calls Tryz.prog 60 #[.int .i64 0,.int .u8 c,.slice A b.length cp] w (cO (al bG 0 c b) w):=by
 obtain⟨hcode1,hcode2⟩:=hcode
 have hln:(b.length:Int)≤1048576:=by omega
 refine en 40 Tryz.func60 rfl<|sg<|L0<|bz mZ fun U V l j v=>Pl 1<|nt<|sq<|sg<|Pl 6<|nt<|c0<|?_
 refine bB<|sg<|Pl 2<|L0<|bz mZ fun W X g n K=>L0<|b6 n (mC c) fun Y x o=>ng<|Pl 1<|?_
 have h:=ud K o g
 have p:=aE v h
 refine L0<|Oc<|e3 (cl (aM.old hsl p) (by omega)) fun Z a0 d y a=>Pl 1<|ng<|Pl 2<|?_
 have z:=aE p a
 refine wo (bG 0 c ⟨b,false,0⟩) (fun hr=>?_) (fun r hr=>?_)
 refine L0<|Oc<|m1 (i3 (dir:=0) (c:=c) y (ub a x) (Ne.symm (nb (aj n) o.size d)) (Or.inl rfl) hr) fun a1 B=>Pl 1<|nt<|sq<|sg<|Pl 2<|nt<|c1<|sg<|Pl 1<|?_
 refine L0<|b6 (ub (aE h (aE a B)) j) mZ fun a2 L M=>Pl 1<|nt<|rt<|tr<|cc L (.int .i64 4)<|?_
 have hs:al bG 0 c b=(bf.zero,4):=by
   unfold al
   (try simp only[bs,if_true,if_false,decide_true,decide_false,eq_self,true_or,or_true,or_false,false_or,if_true,if_false,cJ,cK,cF,cI,reduceIte,hr])
   all_goals rfl
 rw[hs]
 exact bE (ud z (uz B M) l)
 have C:=nb (aj n) o.size d
 refine L0<|Oc<|tj (gR (dir:=0) (c:=c) y (ub a x) (Ne.symm C) (Or.inl rfl) hr) fun N D a3 O E hcall51=>Pl 1<|nt<|sq<|sg<|Pl 2<|nt<|c0<|bB<|sq<|?_
 refine go<|Pl 1<|L0<|eP (f:=N) (args:=D) (hf:=O) #[] D<|m3 (hcall51) fun a4 F P G=>?_
 obtain⟨Q,k,q⟩:=P
 refine ng<|Pl 1<|L0<|Oc<|m2 (bA F) fun a5 H s=>nt<|sq<|sg<|Pl 1<|L0<|Oc<|mq (aX H)<|?_
 have a6:=ae.len H
 refine Pl 1<|ng<|Pl 2<|nt<|?_
 have t:=uz E (u1 G s im)
 have I:=ut z t (ac (ni p.size d) (ac (ni v.size g) av))
 refine cb ((r.1.endC.e != 0)) (fun i=>?_) (fun i=>?_)
 have u:=ay i
 refine sg<|Pl 2<|?_
 refine L0<|b6 (ub (ud h (ud a t d) g) j) mZ fun a7 R S=>Pl 1<|nt<|rt<|tr<|cc R (.int .i64 r.1.endC.e)<|?_
 have hs:al bG 0 c b=aQ r.2 r.1:=by
   unfold al
   (try simp only[i,bs,if_true,if_false,decide_true,decide_false,eq_self,true_or,or_true,or_false,false_or,if_true,if_false,cJ,cK,cF,cI,reduceIte,hr])
   all_goals rfl
 rw[hs]
 exact aS u (ud I S l)
 have u:=ag i
 refine bB<|sg<|?_
 refine L0<|c9 (hz:=(by rw[k.2];exact aP)) (aO s C k.1)<|?_
 refine L0<|b6 (hz:=(by rw[k.2];exact aP)) (hv:=q.size) (h1:=q.one) (ub (ud h (ud a t d) g) j) (Q) fun a8 T J=>Pl 1<|nt<|rt<|dy 22 k.2 T (.int .i64 0)<|?_
 have hs:al bG 0 c b=aQ r.2 r.1:=by
   unfold al
   (try simp only[i,bs,if_true,if_false,decide_true,decide_false,eq_self,true_or,or_true,or_false,false_or,if_true,if_false,cJ,cK,cF,cI,reduceIte,hr])
   all_goals rfl
 rw[hs]
 exact aY u (aU.upd q (us s J) (ah (ae.safe F _ (by decide)) (ah (aD (ub (ud h (ud a (uz E G) d) g) j) (by decide)) az))) (ud I J l)
theorem jn{m:Bool}{A:Option Addr}{cp:Nat}{b:List Int}{w:World}{c:Int}(hcode:B8 c)(hsl:aM m w (.slice A b.length cp) b)(hb:b.length≤1048576) :
    Calls Tryz.prog 60 #[.int .i64 1,.int .u8 c,.slice A b.length cp] w (cO (al bG 1 c b) w):=by
 obtain⟨hcode1,hcode2⟩:=hcode
 have hln:(b.length:Int)≤1048576:=by omega
 refine en 40 Tryz.func60 rfl<|sg<|L0<|bz mZ fun U V l j v=>Pl 1<|nt<|sq<|sg<|Pl 6<|nt<|c0<|?_
 refine bB<|sg<|Pl 2<|L0<|bz mZ fun W X g n K=>L0<|b6 n (mC c) fun Y x o=>ng<|Pl 1<|?_
 have h:=ud K o g
 have p:=aE v h
 refine L0<|Oc<|e3 (cl (aM.old hsl p) (by omega)) fun Z a0 d y a=>Pl 1<|ng<|Pl 2<|?_
 have z:=aE p a
 refine wo (bG 1 c ⟨b,false,0⟩) (fun hr=>?_) (fun r hr=>?_)
 refine L0<|Oc<|m1 (i3 (dir:=1) (c:=c) y (ub a x) (Ne.symm (nb (aj n) o.size d)) (Or.inr rfl) hr) fun a1 B=>Pl 1<|nt<|sq<|sg<|Pl 2<|nt<|c1<|sg<|Pl 1<|?_
 refine L0<|b6 (ub (aE h (aE a B)) j) mZ fun a2 L M=>Pl 1<|nt<|rt<|tr<|cc L (.int .i64 4)<|?_
 have hs:al bG 1 c b=(bf.zero,4):=by
   unfold al
   (try simp only[bs,if_true,if_false,decide_true,decide_false,eq_self,true_or,or_true,or_false,false_or,if_true,if_false,cJ,cK,cF,cI,reduceIte,hr])
   all_goals rfl
 rw[hs]
 exact bE (ud z (uz B M) l)
 have C:=nb (aj n) o.size d
 refine L0<|Oc<|tj (gR (dir:=1) (c:=c) y (ub a x) (Ne.symm C) (Or.inr rfl) hr) fun N D a3 O E hcall51=>Pl 1<|nt<|sq<|sg<|Pl 2<|nt<|c0<|bB<|sq<|?_
 refine go<|Pl 1<|L0<|eP (f:=N) (args:=D) (hf:=O) #[] D<|m3 (hcall51) fun a4 F P G=>?_
 obtain⟨Q,k,q⟩:=P
 refine ng<|Pl 1<|L0<|Oc<|m2 (bA F) fun a5 H s=>nt<|sq<|sg<|Pl 1<|L0<|Oc<|mq (aX H)<|?_
 have a6:=ae.len H
 refine Pl 1<|ng<|Pl 2<|nt<|?_
 have t:=uz E (u1 G s im)
 have I:=ut z t (ac (ni p.size d) (ac (ni v.size g) av))
 refine cb ((r.1.endC.e != 0)) (fun i=>?_) (fun i=>?_)
 have u:=ay i
 refine sg<|Pl 2<|?_
 refine L0<|b6 (ub (ud h (ud a t d) g) j) mZ fun a7 R S=>Pl 1<|nt<|rt<|tr<|cc R (.int .i64 r.1.endC.e)<|?_
 have hs:al bG 1 c b=aQ r.2 r.1:=by
   unfold al
   (try simp only[i,bs,if_true,if_false,decide_true,decide_false,eq_self,true_or,or_true,or_false,false_or,if_true,if_false,cJ,cK,cF,cI,reduceIte,hr])
   all_goals rfl
 rw[hs]
 exact aS u (ud I S l)
 have u:=ag i
 refine bB<|sg<|?_
 refine L0<|c9 (hz:=(by rw[k.2];exact aP)) (aO s C k.1)<|?_
 refine L0<|b6 (hz:=(by rw[k.2];exact aP)) (hv:=q.size) (h1:=q.one) (ub (ud h (ud a t d) g) j) (Q) fun a8 T J=>Pl 1<|nt<|rt<|dy 22 k.2 T (.int .i64 0)<|?_
 have hs:al bG 1 c b=aQ r.2 r.1:=by
   unfold al
   (try simp only[i,bs,if_true,if_false,decide_true,decide_false,eq_self,true_or,or_true,or_false,false_or,if_true,if_false,cJ,cK,cF,cI,reduceIte,hr])
   all_goals rfl
 rw[hs]
 exact aY u (aU.upd q (us s J) (ah (ae.safe F _ (by decide)) (ah (aD (ub (ud h (ud a (uz E G) d) g) j) (by decide)) az))) (ud I J l)
theorem j2{m:Bool}{A:Option Addr}{cp:Nat}{b:List Int}{w:World}{dir c:Int}(hcode:B8 c)(hsl:aM m w (.slice A b.length cp) b)(hb:b.length≤1048576)(hd:¬ (dir=0∨dir=1)) :
    Calls Tryz.prog 60 #[.int .i64 dir,.int .u8 c,.slice A b.length cp] w (cO (al bG dir c b) w):=by
 obtain⟨hcode1,hcode2⟩:=hcode
 have hln:(b.length:Int)≤1048576:=by omega
 have e0:(dir != 0)=true:=by simp;omega
 have e1:(dir != 1)=true:=by simp;omega
 refine en 40 Tryz.func60 rfl<|sg<|L0<|bz mZ fun g h a d e=>Pl 1<|nt<|sq<|sg<|Pl 3<|sy 14 e0<|Pl 3<|nl<|?_
 refine tn<|ct e1<|sg<|Pl 1<|L0<|b6 d mZ fun i dq f=>Pl 1<|nt<|rt<|tr<|cc dq (.int .i64 1)<|?_
 have hs:al bG dir c b=(bf.zero,1):=by
   unfold al bG
   (try simp only[e0,e1,bs,if_true,if_false,decide_true,decide_false,eq_self,true_or,or_true,or_false,false_or,if_true,if_false,cJ,cK,cF,cI,reduceIte,hd])
   all_goals rfl
 rw[hs]
 exact bE (ud e f a)
theorem l9{m:Bool}{v:Value}{b:List Int}{w:World}{dir c:Int}(hc:B8 c)(h:aM m w v b)(hb:b.length≤1048576) :
    Calls Tryz.prog 60 #[.int .i64 dir,.int .u8 c,v] w (cO (al bG dir c b) w):=by
  obtain⟨A,cp,rfl,_,_⟩:=h.shape
  by_cases h0:dir=0
  · subst h0;exact jf hc h hb
  by_cases h1:dir=1
  · subst h1;exact jn hc h hb
  exact j2 hc h hb (by omega)
open Go.RowKit
theorem gP{most:Int}{g gm:Nat}{c:Int}{C:ak}{w:World}(hcode:B8 c)(hC:ae w g C)(hm:w.heap[gm]? = some (.cells (mC c) 31 (0,0)))(hne:g≠gm) :
    Calls Tryz.prog 103 #[.agg #[.pointer (some ⟨g,0,none⟩),.pointer (some ⟨gm,0,none⟩)],.int .u16 most] w (m0 g gm (bI C most) (mG c 0 C.wordV (C.wordsC 1).wordV 0 0 0 0 0 0 0 0 nS nS nS nS 0 0 0 0 0 nS) w):=by
 obtain⟨hcode1,hcode2⟩:=hcode
 have hlen:=hC.len
 refine en 51 Tryz.func103 rfl<|sg<|L0<|cW #[.pointer (some ⟨g,0,none⟩),.pointer (some ⟨gm,0,none⟩)] fun f an P a7 a8=>nt<|sq<|Rg 8 (fun w'=>w'.cell? ⟨f,1,none⟩=some (.pointer (some ⟨gm,0,none⟩))∧w'.cell? ⟨f,0,none⟩=some (.pointer (some ⟨g,0,none⟩))) fun ao Q=>?_
 have t:=ub Q a7
 refine be ⟨(ai t rfl),(ai t rfl)⟩ fun o=>Rt 0 o<|Rl 1 o (fun _ hs=>hs.1)<|Rt 2 o<|Rl 3 o (fun _ hs=>hs.2)<|?_
 have R:=aE a8 Q
 refine R0 4 rfl<|Oc<|m3 (bh (ae.old hC R)) fun ap a9 S aq=>?_
 have h:=nb (ae.lt hC) lr P
 have u:=aO S (Ne.symm h) t
 refine be ⟨(ai u rfl),(ai u rfl)⟩ fun T=>Rt 5 T<|Rt 6 T<|?_
 have U:=uz R S
 have V:=aO U (Ne.symm hne) hm
 refine R0 7 rfl<|bO V 2 (mG c 0 C.wordV 0 0 0 0 0 0 0 0 0 nS nS nS nS 0 0 0 0 0 nS) fun ar ab W=>?_
 have X:=nb (aj hm) lr P
 have v:=aO W (Ne.symm X) u
 refine be ⟨(ai v rfl),(ai v rfl)⟩ fun au=>re<|tn<|sq<|Rg 8 (fun w'=>w'.cell? ⟨f,1,none⟩=some (.pointer (some ⟨gm,0,none⟩))∧w'.cell? ⟨f,0,none⟩=some (.pointer (some ⟨g,0,none⟩))) fun av x=>?_
 have y:=ub x v
 refine be ⟨(ai y rfl),(ai y rfl)⟩ fun p=>Rt 0 p<|Rl 1 p (fun _ hs=>hs.1)<|Rt 2 p<|Rl 3 p (fun _ hs=>hs.2)<|?_
 have Y:=aE W x
 refine R0 4 rfl<|Oc<|m3 (bh (ae.upd a9 Y (aa hne ax) (ah (aD V (by decide)) az))) fun aw Z z ay=>?_
 have A:=aO z (Ne.symm h) y
 refine be ⟨(ai A rfl),(ai A rfl)⟩ fun a0=>Rt 5 a0<|Rt 6 a0<|?_
 have B:=aO (uz x z) (Ne.symm hne) ab
 refine R0 7 rfl<|bO B 3 (mG c 0 C.wordV ((C.wordsC 1).wordV) 0 0 0 0 0 0 0 0 nS nS nS nS 0 0 0 0 0 nS) fun aA ac a1=>?_
 have D:=aO a1 (Ne.symm X) A
 refine be ⟨(ai D rfl),(ai D rfl)⟩ fun aB=>re<|tn<|sq<|Rg 18 (fun w'=>w'.cell? ⟨f,0,none⟩=some (.pointer (some ⟨g,0,none⟩))∧w'.cell? ⟨f,1,none⟩=some (.pointer (some ⟨gm,0,none⟩))∧w'.cell? ⟨gm,3,none⟩=some (.int .u16 ((C.wordsC 1).wordV))) fun aC E=>?_
 have q:=ub E D
 have F:=ub E ac
 refine be ⟨(ai q rfl),(ai q rfl),(ai F rfl)⟩ fun b=>Rt 0 b<|Rl 1 b (fun _ hs=>hs.1)<|Rt 2 b<|Rl 3 b (fun _ hs=>hs.2.1)<|Rt 4 b<|Rt 5 b<|Rl 6 b (fun _ hs=>hs.2.2)<|Rt 7 b<|Rt 8 b<|?_
 have G:=aE a1 E
 have a2:=ui U (ui Y (us z G))
 refine tM 26 ((decide (1≤((C.wordsC 1).wordV)))) (fun i=>?_) (fun i=>?_)
 have ad:=of_decide_eq_true i
 refine Rt 9 b<|Rl 10 b (fun _ hs=>hs.2.1)<|Rt 11 b<|Rt 12 b<|Rl 13 b (fun _ hs=>hs.2.2)<|Rt 14 b<|Rt 15 b<|Rt 16 b<|?_
 refine R0 17 rfl<|Oc<|m2 (aL ((decide (((C.wordsC 1).wordV)≤most))) 5 (ae.upd Z G (aa hne ax) (ah (aD B (by decide)) az))) fun aF af H=>?_
 have I:=aO H (Ne.symm h) q
 have a3:=aO H (Ne.symm hne) F
 refine be ⟨(ai I rfl),(ai I rfl),(ai a3 rfl)⟩ fun aG=>re<|tn<|Rg 15 (fun w'=>w'.cell? ⟨f,0,none⟩=some (.pointer (some ⟨g,0,none⟩))∧w'.cell? ⟨f,1,none⟩=some (.pointer (some ⟨gm,0,none⟩))∧w'.cell? ⟨gm,2,none⟩=some (.int .u16 C.wordV)∧w'.cell? ⟨gm,3,none⟩=some (.int .u16 ((C.wordsC 1).wordV))) fun aH r=>?_
 have j:=ub r I
 have k:=ub r a3
 refine be ⟨(ai j rfl),(ai j rfl),(ai k rfl),(ai k rfl)⟩ fun d=>Rt 0 d<|Rl 1 d (fun _ hs=>hs.1)<|Rt 2 d<|Rl 3 d (fun _ hs=>hs.2.1)<|Rt 4 d<|Rt 5 d<|Rl 6 d (fun _ hs=>hs.2.2.1)<|Rt 7 d<|Rl 8 d (fun _ hs=>hs.2.1)<|Rt 9 d<|Rt 10 d<|Rl 11 d (fun _ hs=>hs.2.2.2)<|Rr 12 d (.int .i64 ((C.wordsC 1).wordV)) (fun _ _=>bV (.int .i64 (IntKind.i64.wrap ((C.wordsC 1).wordV))) (by kernel_rfl) (congrArg (Value.int .i64) (i64_in (by omega))))<|?_
 refine R0 13 rfl<|Oc<|mq (fv (a:=C.wordV) (n:=(C.wordsC 1).wordV) (by omega))<|be ⟨(ai j rfl),(ai j rfl),(ai k rfl),(ai k rfl)⟩ fun aI=>?_
 refine R0 14 rfl<|Oc<|m2 (aL ((dc C.wordV ((C.wordsC 1).wordV))) 7 (ae.old af r)) fun aJ ag J=>?_
 have a4:=aO J (Ne.symm h) j
 have K:=aO J (Ne.symm hne) k
 refine be ⟨(ai a4 rfl),(ai a4 rfl),(ai K rfl),(ai K rfl)⟩ fun aK=>re<|rm (.tuple #[])<|?_
 have hs:bI C most=((((C.wordsC 1).wordsC 1).need (decide (((C.wordsC 1).wordV)≤most)) 5).need (dc C.wordV ((C.wordsC 1).wordV)) 7):=by
   unfold bI jc
   (try simp only[i,bs,if_true,if_false,decide_true,decide_false,reduceIte])
   all_goals rfl
 rw[hs]
 exact⟨rfl,ag,K,(u1 a2 (u1 H (uz r J) im) im)⟩
 have ad:=of_decide_eq_false i
 refine Ro 9 b<|Ro 10 b<|Ro 11 b<|Ro 12 b<|Ro 13 b<|Ro 14 b<|Ro 15 b<|Rt 16 b<|?_
 refine R0 17 rfl<|Oc<|m2 (aL (false) 5 (ae.upd Z G (aa hne ax) (ah (aD B (by decide)) az))) fun aM al L=>?_
 have M:=aO L (Ne.symm h) q
 have a5:=aO L (Ne.symm hne) F
 refine be ⟨(ai M rfl),(ai M rfl),(ai a5 rfl)⟩ fun aN=>re<|tn<|Rg 15 (fun w'=>w'.cell? ⟨f,0,none⟩=some (.pointer (some ⟨g,0,none⟩))∧w'.cell? ⟨f,1,none⟩=some (.pointer (some ⟨gm,0,none⟩))∧w'.cell? ⟨gm,2,none⟩=some (.int .u16 C.wordV)∧w'.cell? ⟨gm,3,none⟩=some (.int .u16 ((C.wordsC 1).wordV))) fun aP s=>?_
 have l:=ub s M
 have m:=ub s a5
 refine be ⟨(ai l rfl),(ai l rfl),(ai m rfl),(ai m rfl)⟩ fun e=>Rt 0 e<|Rl 1 e (fun _ hs=>hs.1)<|Rt 2 e<|Rl 3 e (fun _ hs=>hs.2.1)<|Rt 4 e<|Rt 5 e<|Rl 6 e (fun _ hs=>hs.2.2.1)<|Rt 7 e<|Rl 8 e (fun _ hs=>hs.2.1)<|Rt 9 e<|Rt 10 e<|Rl 11 e (fun _ hs=>hs.2.2.2)<|Rr 12 e (.int .i64 ((C.wordsC 1).wordV)) (fun _ _=>bV (.int .i64 (IntKind.i64.wrap ((C.wordsC 1).wordV))) (by kernel_rfl) (congrArg (Value.int .i64) (i64_in (by omega))))<|?_
 refine R0 13 rfl<|Oc<|mq (fv (a:=C.wordV) (n:=(C.wordsC 1).wordV) (by omega))<|be ⟨(ai l rfl),(ai l rfl),(ai m rfl),(ai m rfl)⟩ fun aQ=>?_
 refine R0 14 rfl<|Oc<|m2 (aL ((dc C.wordV ((C.wordsC 1).wordV))) 7 (ae.old al s)) fun aR am N=>?_
 have a6:=aO N (Ne.symm h) l
 have O:=aO N (Ne.symm hne) m
 refine be ⟨(ai a6 rfl),(ai a6 rfl),(ai O rfl),(ai O rfl)⟩ fun aS=>re<|rm (.tuple #[])<|?_
 have hs:bI C most=((((C.wordsC 1).wordsC 1).need false 5).need (dc C.wordV ((C.wordsC 1).wordV)) 7):=by
   unfold bI jc
   (try simp only[i,bs,if_true,if_false,decide_true,decide_false,reduceIte])
   all_goals rfl
 rw[hs]
 exact⟨rfl,am,O,(u1 a2 (u1 L (uz s N) im) im)⟩
theorem fJ{g gm:Nat}{c:Int}{C:ak}{w:World}(hcode:B8 c)(hC:ae w g C)(hm:w.heap[gm]? = some (.cells (mC c) 31 (0,0)))(hne:g≠gm) :
    Calls Tryz.prog 78 #[.agg #[.pointer (some ⟨g,0,none⟩),.pointer (some ⟨gm,0,none⟩)]] w (bD g gm (cM 2000 c C).1 (cM 2000 c C).2 w):=by
 obtain⟨hcode1,hcode2⟩:=hcode
 have hlen:=hC.len
 refine en 4 Tryz.func78 rfl<|sg<|L0<|cW #[.pointer (some ⟨g,0,none⟩),.pointer (some ⟨gm,0,none⟩)] fun i j k d a=>nt<|go<|L0<|c9 d<|?_
 have b:=ae.old hC a
 refine L0<|Oc<|m3 (gP (most:=2000) ⟨hcode1,hcode2⟩ b (ub a hm) hne) fun l e f h=>?_
 have m:=(b).wordV
 have n:=d6 (cD (b).rng 1)
 refine nl<|rm (.tuple #[])<|?_
 have hs:cM 2000 c C=((bI C 2000),(bf.mk c 0 C.wordV ((C.wordsC 1).wordV) 0 0 0 0 0 0 0 0 [] [] [] [] 0 0 0 0 0 [])):=by
   unfold cM
   (try simp only[bs,if_true,if_false,decide_true,decide_false,reduceIte])
   all_goals rfl
 rw[hs]
 exact⟨rfl,e,⟨_,⟨f,rfl⟩,⟨_,_,_,_,_,rfl,aH.nil ..,aH.nil ..,aH.nil ..,aH.nil ..,aH.nil ..,⟨(b8 (x:=c) (by omega)),(b8 (x:=0) (by omega)),(aB (x:=C.wordV) (by omega)),(aB (x:=(C.wordsC 1).wordV) (by omega)),(aB (x:=0) (by omega)),(aB (x:=0) (by omega)),(aB (x:=0) (by omega)),(aB (x:=0) (by omega)),(aB (x:=0) (by omega)),(aB (x:=0) (by omega)),(aB (x:=0) (by omega)),(aB (x:=0) (by omega)),(b8 (x:=0) (by omega)),(b8 (x:=0) (by omega)),(b8 (x:=0) (by omega)),(b8 (x:=0) (by omega)),(b8 (x:=0) (by omega))⟩⟩⟩,(uz a h)⟩
theorem iW{g gm:Nat}{c:Int}{C:ak}{w:World}(hcode:B8 c)(hC:ae w g C)(hm:w.heap[gm]? = some (.cells (mC c) 31 (0,0)))(hne:g≠gm) :
    Calls Tryz.prog 79 #[.agg #[.pointer (some ⟨g,0,none⟩),.pointer (some ⟨gm,0,none⟩)]] w (bD g gm (de c C).1 (de c C).2 w):=by
 obtain⟨hcode1,hcode2⟩:=hcode
 have hlen:=hC.len
 refine en 24 Tryz.func79 rfl<|sg<|L0<|cW #[.pointer (some ⟨g,0,none⟩),.pointer (some ⟨gm,0,none⟩)] fun j L k l m=>ng<|Pl 1<|L0<|aR l 0<|?_
 refine L0<|Oc<|m3 (bi (ae.old hC m)) fun M A o N=>Pl 1<|ng<|Pl 1<|?_
 have e:=nb (ae.lt hC) lr k
 have p:=aO o (Ne.symm e) l
 refine L0<|aR p 0<|Pl 3<|cu 3 [10] 13 (((decide (1≤C.byteV))&&(decide (C.byteV≤250)))) (fun K q=>?_) ?_
 refine bl 10 ((decide (1≤C.byteV))) (fun b=>?_) (fun b=>?_)
 have B:=of_decide_eq_true b
 exact Pl 3<|ce q (decide (C.byteV≤250)) (by rw[b];rfl)
 have B:=of_decide_eq_false b
 exact Pl 3<|ce q false (by rw[b];rfl)
 refine L0<|Oc<|m2 (aL (((decide (1≤C.byteV))&&(decide (C.byteV≤250)))) 5 A) fun O D E=>nt<|Rg 10 (fun w'=>w'.cell? ⟨j,1,none⟩=some (.pointer (some ⟨gm,0,none⟩))∧w'.cell? ⟨j,0,none⟩=some (.pointer (some ⟨g,0,none⟩))) fun P r=>?_
 have s:=aE E r
 have f:=aO s (Ne.symm e) p
 refine be ⟨(ai f rfl),(ai f rfl)⟩ fun a=>Rt 0 a<|Rl 1 a (fun _ hs=>hs.1)<|Rt 2 a<|Rl 3 a (fun _ hs=>hs.2)<|Rt 4 a<|Rr 5 a (.int .i64 C.byteV) (fun _ _=>bV (.int .i64 (IntKind.i64.wrap C.byteV)) (by kernel_rfl) (congrArg (Value.int .i64) (i64_in (by omega))))<|?_
 have t:=ae.old D r
 refine R0 6 rfl<|Oc<|nz (bC (n:=C.byteV) t) fun F G Q H R S I u=>?_
 have T:=Nat.le_trans (ak.bytesR_le ((C.bytesC 1).need ((decide (1≤C.byteV))&&(decide (C.byteV≤250))) 5) C.byteV) (ae.len t)
 have h:=aO u (Ne.symm e) f
 refine be ⟨(ai h rfl),(ai h rfl)⟩ fun v=>Rt 7 v<|Rt 8 v<|?_
 have y:=uz m (u1 o (u1 s u im) im)
 have i:=aO y (Ne.symm hne) hm
 refine R0 9 rfl<|bO i 14 (mG c 0 0 0 0 0 0 0 0 0 0 0 nS nS (.slice F ((((C.bytesC 1).need ((decide (1≤C.byteV))&&(decide (C.byteV≤250))) 5).bytesR C.byteV).length) G) nS 0 0 0 0 0 nS) fun U J d=>?_
 have z:=aO d (Ne.symm (nb (aj hm) lr k)) h
 refine be ⟨(ai z rfl),(ai z rfl)⟩ fun V=>re<|rm (.tuple #[])<|?_
 have hs:de c C=((((C.bytesC 1).need ((decide (1≤C.byteV))&&(decide (C.byteV≤250))) 5).bytesC C.byteV),(bf.mk c 0 0 0 0 0 0 0 0 0 0 0 [] [] (((C.bytesC 1).need ((decide (1≤C.byteV))&&(decide (C.byteV≤250))) 5).bytesR C.byteV) [] 0 0 0 0 0 [])):=by
   unfold de lF
   (try simp only[bs,if_true,if_false,decide_true,decide_false,reduceIte])
   all_goals rfl
 rw[hs]
 exact⟨rfl,(ae.upd I d (aa hne ax) (ah (aD i (by decide)) az)),⟨_,⟨J,rfl⟩,⟨_,_,_,_,_,rfl,aH.nil ..,aH.nil ..,(aM.upd' H d (ah (aD i (by decide)) az)),aH.nil ..,aH.nil ..,⟨(b8 (x:=c) (by omega)),(b8 (x:=0) (by omega)),(aB (x:=0) (by omega)),(aB (x:=0) (by omega)),(aB (x:=0) (by omega)),(aB (x:=0) (by omega)),(aB (x:=0) (by omega)),(aB (x:=0) (by omega)),(aB (x:=0) (by omega)),(aB (x:=0) (by omega)),(aB (x:=0) (by omega)),(aB (x:=0) (by omega)),(b8 (x:=0) (by omega)),(b8 (x:=0) (by omega)),(b8 (x:=0) (by omega)),(b8 (x:=0) (by omega)),(b8 (x:=0) (by omega))⟩⟩⟩,(us y d)⟩
theorem iS{g gm:Nat}{c:Int}{C:ak}{w:World}(hcode:B8 c)(hC:ae w g C)(hm:w.heap[gm]? = some (.cells (mC c) 31 (0,0)))(hne:g≠gm) :
    Calls Tryz.prog 80 #[.agg #[.pointer (some ⟨g,0,none⟩),.pointer (some ⟨gm,0,none⟩)]] w (bD g gm (cY c C).1 (cY c C).2 w):=by
 obtain⟨hcode1,hcode2⟩:=hcode
 have hlen:=hC.len
 refine en 33 Tryz.func80 rfl<|sg<|L0<|cW #[.pointer (some ⟨g,0,none⟩),.pointer (some ⟨gm,0,none⟩)] fun b a0 z S T=>nt<|sq<|Rg 8 (fun w'=>w'.cell? ⟨b,1,none⟩=some (.pointer (some ⟨gm,0,none⟩))∧w'.cell? ⟨b,0,none⟩=some (.pointer (some ⟨g,0,none⟩))) fun a1 A=>?_
 have j:=ub A S
 refine be ⟨(ai j rfl),(ai j rfl)⟩ fun e=>Rt 0 e<|Rl 1 e (fun _ hs=>hs.1)<|Rt 2 e<|Rl 3 e (fun _ hs=>hs.2)<|?_
 have B:=aE T A
 refine R0 4 rfl<|Oc<|m3 (bh (ae.old hC B)) fun a2 U D a3=>?_
 have f:=nb (ae.lt hC) lr z
 have k:=aO D (Ne.symm f) j
 refine be ⟨(ai k rfl),(ai k rfl)⟩ fun E=>Rt 5 E<|Rt 6 E<|?_
 have F:=uz B D
 have G:=aO F (Ne.symm hne) hm
 refine R0 7 rfl<|bO G 2 (mG c 0 C.wordV 0 0 0 0 0 0 0 0 0 nS nS nS nS 0 0 0 0 0 nS) fun a4 V H=>?_
 have I:=nb (aj hm) lr z
 have l:=aO H (Ne.symm I) k
 refine be ⟨(ai l rfl),(ai l rfl)⟩ fun a5=>re<|tn<|sq<|Rg 8 (fun w'=>w'.cell? ⟨b,1,none⟩=some (.pointer (some ⟨gm,0,none⟩))∧w'.cell? ⟨b,0,none⟩=some (.pointer (some ⟨g,0,none⟩))) fun a6 m=>?_
 have n:=ub m l
 refine be ⟨(ai n rfl),(ai n rfl)⟩ fun h=>Rt 0 h<|Rl 1 h (fun _ hs=>hs.1)<|Rt 2 h<|Rl 3 h (fun _ hs=>hs.2)<|?_
 have J:=aE H m
 refine R0 4 rfl<|Oc<|m3 (bh (ae.upd U J (aa hne ax) (ah (aD G (by decide)) az))) fun a7 K o a8=>?_
 have p:=aO o (Ne.symm f) n
 refine be ⟨(ai p rfl),(ai p rfl)⟩ fun L=>Rt 5 L<|Rt 6 L<|?_
 have q:=aO (uz m o) (Ne.symm hne) V
 refine R0 7 rfl<|bO q 4 (mG c 0 C.wordV 0 ((C.wordsC 1).wordV) 0 0 0 0 0 0 0 nS nS nS nS 0 0 0 0 0 nS) fun a9 W M=>?_
 have r:=aO M (Ne.symm I) p
 refine be ⟨(ai r rfl),(ai r rfl)⟩ fun ab=>re<|tn<|Rg 17 (fun w'=>w'.cell? ⟨b,0,none⟩=some (.pointer (some ⟨g,0,none⟩))∧w'.cell? ⟨b,1,none⟩=some (.pointer (some ⟨gm,0,none⟩))∧w'.cell? ⟨gm,4,none⟩=some (.int .u16 ((C.wordsC 1).wordV))) fun ac s=>?_
 have i:=ub s r
 have t:=ub s W
 refine be ⟨(ai i rfl),(ai i rfl),(ai t rfl)⟩ fun a=>Rt 0 a<|Rl 1 a (fun _ hs=>hs.1)<|Rt 2 a<|Rl 3 a (fun _ hs=>hs.2.1)<|Rt 4 a<|Rt 5 a<|Rl 6 a (fun _ hs=>hs.2.2)<|Rt 7 a<|Rt 8 a<|?_
 have u:=aE M s
 have N:=ui F (ui J (us o u))
 refine tM 24 ((((C.wordsC 1).wordV)==0)) (fun d=>?_) (fun d=>?_)
 have X:=aA d
 refine Ro 9 a<|Ro 10 a<|Ro 11 a<|Ro 12 a<|Ro 13 a<|Ro 14 a<|Rt 15 a<|?_
 refine R0 16 rfl<|Oc<|m2 (aL (true) 6 (ae.upd K u (aa hne ax) (ah (aD q (by decide)) az))) fun ad Y v=>?_
 have O:=aO v (Ne.symm f) i
 have P:=aO v (Ne.symm hne) t
 refine be ⟨(ai O rfl),(ai O rfl),(ai P rfl)⟩ fun af=>re<|rm (.tuple #[])<|?_
 have hs:cY c C=((((C.wordsC 1).wordsC 1).need true 6),(bf.mk c 0 C.wordV 0 ((C.wordsC 1).wordV) 0 0 0 0 0 0 0 [] [] [] [] 0 0 0 0 0 [])):=by
   unfold cY oG
   (try simp only[d,bs,if_true,if_false,decide_true,decide_false,reduceIte])
   all_goals rfl
 rw[hs]
 exact⟨rfl,Y,⟨_,⟨P,rfl⟩,⟨_,_,_,_,_,rfl,aH.nil ..,aH.nil ..,aH.nil ..,aH.nil ..,aH.nil ..,⟨(b8 (x:=c) (by omega)),(b8 (x:=0) (by omega)),(aB (x:=C.wordV) (by omega)),(aB (x:=0) (by omega)),(aB (x:=(C.wordsC 1).wordV) (by omega)),(aB (x:=0) (by omega)),(aB (x:=0) (by omega)),(aB (x:=0) (by omega)),(aB (x:=0) (by omega)),(aB (x:=0) (by omega)),(aB (x:=0) (by omega)),(aB (x:=0) (by omega)),(b8 (x:=0) (by omega)),(b8 (x:=0) (by omega)),(b8 (x:=0) (by omega)),(b8 (x:=0) (by omega)),(b8 (x:=0) (by omega))⟩⟩⟩,(u1 N v im)⟩
 have X:=aG d
 refine Rt 9 a<|Rl 10 a (fun _ hs=>hs.2.1)<|Rt 11 a<|Rt 12 a<|Rl 13 a (fun _ hs=>hs.2.2)<|Rt 14 a<|Rt 15 a<|?_
 refine R0 16 rfl<|Oc<|m2 (aL ((((C.wordsC 1).wordV)==65280)) 6 (ae.upd K u (aa hne ax) (ah (aD q (by decide)) az))) fun ag Z y=>?_
 have Q:=aO y (Ne.symm f) i
 have R:=aO y (Ne.symm hne) t
 refine be ⟨(ai Q rfl),(ai Q rfl),(ai R rfl)⟩ fun al=>re<|rm (.tuple #[])<|?_
 have hs:cY c C=((((C.wordsC 1).wordsC 1).need (((C.wordsC 1).wordV)==65280) 6),(bf.mk c 0 C.wordV 0 ((C.wordsC 1).wordV) 0 0 0 0 0 0 0 [] [] [] [] 0 0 0 0 0 [])):=by
   unfold cY oG
   (try simp only[d,bs,if_true,if_false,decide_true,decide_false,reduceIte])
   all_goals rfl
 rw[hs]
 exact⟨rfl,Z,⟨_,⟨R,rfl⟩,⟨_,_,_,_,_,rfl,aH.nil ..,aH.nil ..,aH.nil ..,aH.nil ..,aH.nil ..,⟨(b8 (x:=c) (by omega)),(b8 (x:=0) (by omega)),(aB (x:=C.wordV) (by omega)),(aB (x:=0) (by omega)),(aB (x:=(C.wordsC 1).wordV) (by omega)),(aB (x:=0) (by omega)),(aB (x:=0) (by omega)),(aB (x:=0) (by omega)),(aB (x:=0) (by omega)),(aB (x:=0) (by omega)),(aB (x:=0) (by omega)),(aB (x:=0) (by omega)),(b8 (x:=0) (by omega)),(b8 (x:=0) (by omega)),(b8 (x:=0) (by omega)),(b8 (x:=0) (by omega)),(b8 (x:=0) (by omega))⟩⟩⟩,(u1 N y im)⟩
theorem pi{g gm:Nat}{c:Int}{C:ak}{w:World}(hcode:B8 c)(hC:ae w g C)(hm:w.heap[gm]? = some (.cells (mC c) 31 (0,0)))(hne:g≠gm) :
    Calls Tryz.prog 82 #[.agg #[.pointer (some ⟨g,0,none⟩),.pointer (some ⟨gm,0,none⟩)]] w (bD g gm (cM 1968 c C).1 (cM 1968 c C).2 w):=by
 obtain⟨hcode1,hcode2⟩:=hcode
 have hlen:=hC.len
 refine en 4 Tryz.func82 rfl<|sg<|L0<|cW #[.pointer (some ⟨g,0,none⟩),.pointer (some ⟨gm,0,none⟩)] fun i j k d a=>nt<|go<|L0<|c9 d<|?_
 have b:=ae.old hC a
 refine L0<|Oc<|m3 (gP (most:=1968) ⟨hcode1,hcode2⟩ b (ub a hm) hne) fun l e f h=>?_
 have m:=(b).wordV
 have n:=d6 (cD (b).rng 1)
 refine nl<|rm (.tuple #[])<|?_
 have hs:cM 1968 c C=((bI C 1968),(bf.mk c 0 C.wordV ((C.wordsC 1).wordV) 0 0 0 0 0 0 0 0 [] [] [] [] 0 0 0 0 0 [])):=by
   unfold cM
   (try simp only[bs,if_true,if_false,decide_true,decide_false,reduceIte])
   all_goals rfl
 rw[hs]
 exact⟨rfl,e,⟨_,⟨f,rfl⟩,⟨_,_,_,_,_,rfl,aH.nil ..,aH.nil ..,aH.nil ..,aH.nil ..,aH.nil ..,⟨(b8 (x:=c) (by omega)),(b8 (x:=0) (by omega)),(aB (x:=C.wordV) (by omega)),(aB (x:=(C.wordsC 1).wordV) (by omega)),(aB (x:=0) (by omega)),(aB (x:=0) (by omega)),(aB (x:=0) (by omega)),(aB (x:=0) (by omega)),(aB (x:=0) (by omega)),(aB (x:=0) (by omega)),(aB (x:=0) (by omega)),(aB (x:=0) (by omega)),(b8 (x:=0) (by omega)),(b8 (x:=0) (by omega)),(b8 (x:=0) (by omega)),(b8 (x:=0) (by omega)),(b8 (x:=0) (by omega))⟩⟩⟩,(uz a h)⟩
theorem nB{g gm:Nat}{c:Int}{C:ak}{w:World}(hcode:B8 c)(hC:ae w g C)(hm:w.heap[gm]? = some (.cells (mC c) 31 (0,0)))(hne:g≠gm) :
    Calls Tryz.prog 82 #[.agg #[.pointer (some ⟨g,0,none⟩),.pointer (some ⟨gm,0,none⟩)]] w (m0 g gm (bI C 1968) (mG c 0 C.wordV (C.wordsC 1).wordV 0 0 0 0 0 0 0 0 nS nS nS nS 0 0 0 0 0 nS) w):=by
 obtain⟨hcode1,hcode2⟩:=hcode
 have hlen:=hC.len
 refine en 4 Tryz.func82 rfl<|sg<|L0<|cW #[.pointer (some ⟨g,0,none⟩),.pointer (some ⟨gm,0,none⟩)] fun i j k d a=>nt<|go<|L0<|c9 d<|?_
 have b:=ae.old hC a
 refine L0<|Oc<|m3 (gP (most:=1968) ⟨hcode1,hcode2⟩ b (ub a hm) hne) fun l e f h=>?_
 have m:=(b).wordV
 have n:=d6 (cD (b).rng 1)
 refine nl<|rm (.tuple #[])<|?_
 have hs:bI C 1968=(bI C 1968):=by
   unfold bI jc
   (try simp only[bs,if_true,if_false,decide_true,decide_false,reduceIte])
   all_goals rfl
 rw[hs]
 exact⟨rfl,e,f,(uz a h)⟩
theorem qY{g gm:Nat}{c:Int}{C:ak}{w:World}(hcode:B8 c)(hC:ae w g C)(hm:w.heap[gm]? = some (.cells (mC c) 31 (0,0)))(hne:g≠gm) :
    Calls Tryz.prog 81 #[.agg #[.pointer (some ⟨g,0,none⟩),.pointer (some ⟨gm,0,none⟩)]] w (bD g gm (jw c C).1 (jw c C).2 w):=by
 obtain⟨hcode1,hcode2⟩:=hcode
 have hlen:=hC.len
 refine en 46 Tryz.func81 rfl<|sg<|L0<|cW #[.pointer (some ⟨g,0,none⟩),.pointer (some ⟨gm,0,none⟩)] fun o a3 F G f=>ng<|L0<|c9 G<|?_
 have t:=ae.old hC f
 refine L0<|Oc<|m3 (nB ⟨hcode1,hcode2⟩ t (ub f hm) hne) fun a4 Q R p=>?_
 have a5:=(t).wordV
 have a6:=d6 (cD (t).rng 1)
 refine ng<|Pl 1<|?_
 have i:=nb (ae.lt hC) lr F
 have H:=au.blk p (aa (Ne.symm i) (aa (Ne.symm (nb (aj hm) lr F)) ax)) G
 refine L0<|aR H 0<|L0<|Oc<|m3 (bi Q) fun a7 S u a8=>L0<|Oi ((bI C 1968).byteV)<|Pl 1<|nt<|sq<|Rg 12 (fun w'=>w'.cell? ⟨o,0,none⟩=some (.pointer (some ⟨g,0,none⟩))∧w'.cell? ⟨o,1,none⟩=some (.pointer (some ⟨gm,0,none⟩))∧w'.cell? ⟨gm,3,none⟩=some (.int .u16 ((C.wordsC 1).wordV))) fun a9 q=>?_
 have v:=aE u q
 have j:=aO v (Ne.symm i) H
 have y:=aO v (Ne.symm hne) R
 refine be ⟨(ai j rfl),(ai j rfl),(ai y rfl)⟩ fun a=>Rt 0 a<|Rl 1 a (fun _ hs=>hs.1)<|Rt 2 a<|Rt 3 a<|Rl 4 a (fun _ hs=>hs.2.1)<|Rt 5 a<|Rt 6 a<|Rl 7 a (fun _ hs=>hs.2.2)<|Rr 8 a (.int .i64 ((C.wordsC 1).wordV)) (fun _ _=>bV (.int .i64 (IntKind.i64.wrap ((C.wordsC 1).wordV))) (by kernel_rfl) (congrArg (Value.int .i64) (i64_in (by omega))))<|R0 9 rfl<|Oc<|mq (hY (n:=(C.wordsC 1).wordV) (by omega))<|be ⟨(ai j rfl),(ai j rfl),(ai y rfl)⟩ fun T=>Rt 10 T<|?_
 refine R0 11 rfl<|Oc<|m2 (aL ((((bI C 1968).byteV)==(eE ((C.wordsC 1).wordV)))) 5 (ae.old S q)) fun ab U k=>?_
 have z:=aO k (Ne.symm i) j
 have I:=aO k (Ne.symm hne) y
 refine be ⟨(ai z rfl),(ai z rfl),(ai I rfl)⟩ fun ad=>re<|tn<|sq<|Rg 16 (fun w'=>w'.cell? ⟨o,0,none⟩=some (.pointer (some ⟨g,0,none⟩))∧w'.cell? ⟨o,1,none⟩=some (.pointer (some ⟨gm,0,none⟩))∧w'.cell? ⟨gm,3,none⟩=some (.int .u16 ((C.wordsC 1).wordV))) fun af d=>?_
 have A:=ub d z
 have J:=ub d I
 refine be ⟨(ai A rfl),(ai A rfl),(ai J rfl)⟩ fun b=>Rt 0 b<|Rl 1 b (fun _ hs=>hs.1)<|Rt 2 b<|Rt 4 b<|Rl 5 b (fun _ hs=>hs.2.1)<|Rt 6 b<|Rt 7 b<|Rl 8 b (fun _ hs=>hs.2.2)<|Rr 9 b (.int .i64 ((C.wordsC 1).wordV)) (fun _ _=>bV (.int .i64 (IntKind.i64.wrap ((C.wordsC 1).wordV))) (by kernel_rfl) (congrArg (Value.int .i64) (i64_in (by omega))))<|?_
 have K:=ae.old U d
 refine R0 3 rfl<|Oc<|nz (bC (n:=(bI C 1968).byteV) K) fun V W ag X al an Y l=>?_
 have ao:=Nat.le_trans (ak.bytesR_le (((bI C 1968).bytesC 1).need (((bI C 1968).byteV)==(eE ((C.wordsC 1).wordV))) 5) ((bI C 1968).byteV)) (ae.len K)
 have B:=aO l (Ne.symm i) A
 have L:=aO l (Ne.symm hne) J
 refine be ⟨(ai B rfl),(ai B rfl),(ai L rfl)⟩ fun ap=>R0 10 rfl<|Oc (args:=#[.slice V (((((bI C 1968).bytesC 1).need (((bI C 1968).byteV)==(eE ((C.wordsC 1).wordV))) 5).bytesR ((bI C 1968).byteV)).length) W,.int .i64 ((C.wordsC 1).wordV)])<|gH (kX X (by omega) (by omega) (by omega)) fun Z a0 ar D aw ay r=>?_
 have s:=ub r B
 have M:=ub r L
 refine be ⟨(ai s rfl),(ai s rfl),(ai M rfl)⟩ fun m=>Rt 11 m<|Rt 12 m<|Rt 13 m<|Rt 14 m<|Rt 15 m<|re<|tn<|sg<|Pl 1<|L0<|aR s 0<|Pl 1<|?_
 refine L0<|Oc<|m2 (aL ((cz ((((bI C 1968).bytesC 1).need (((bI C 1968).byteV)==(eE ((C.wordsC 1).wordV))) 5).bytesR ((bI C 1968).byteV)) ((C.wordsC 1).wordV)).isSome) 6 (ae.old Y r)) fun aA a1 E=>nt<|go<|Pl 1<|?_
 refine L0<|aR (aO E (Ne.symm i) s) 1<|Pl 3<|?_
 have N:=aO E (Ne.symm hne) M
 refine L0<|bO N 13 (mG c 0 C.wordV ((C.wordsC 1).wordV) 0 0 0 0 0 0 0 0 nS (.slice Z (((cz ((((bI C 1968).bytesC 1).need (((bI C 1968).byteV)==(eE ((C.wordsC 1).wordV))) 5).bytesR ((bI C 1968).byteV)) ((C.wordsC 1).wordV)).getD []).length) a0) nS nS 0 0 0 0 0 nS) fun aC a2 O=>nl<|rm (.tuple #[])<|?_
 have P:=us E O
 have hs:jw c C=((((((bI C 1968).bytesC 1).need (((bI C 1968).byteV)==(eE ((C.wordsC 1).wordV))) 5).bytesC ((bI C 1968).byteV)).need ((cz ((((bI C 1968).bytesC 1).need (((bI C 1968).byteV)==(eE ((C.wordsC 1).wordV))) 5).bytesR ((bI C 1968).byteV)) ((C.wordsC 1).wordV)).isSome) 6),(bf.mk c 0 C.wordV ((C.wordsC 1).wordV) 0 0 0 0 0 0 0 0 [] ((cz ((((bI C 1968).bytesC 1).need (((bI C 1968).byteV)==(eE ((C.wordsC 1).wordV))) 5).bytesR ((bI C 1968).byteV)) ((C.wordsC 1).wordV)).getD []) [] [] 0 0 0 0 0 [])):=by
   unfold jw ve uf sw u0 u6
   (try simp only[bs,if_true,if_false,decide_true,decide_false,reduceIte])
   all_goals rfl
 rw[hs]
 exact⟨rfl,(ae.upd a1 O (aa hne ax) (ah (aD N (by decide)) az)),⟨_,⟨a2,rfl⟩,⟨_,_,_,_,_,rfl,aH.nil ..,((am D P (fun x hx=>(aa (fun e=>(aq (ae.lt hC) (le (le (le (le (le (le f.size p.size) u.size) q.size) k.size) d.size) l.size) D) (e▸hx)) (aa (fun e=>(aq (aj hm) (le (le (le (le (le (le f.size p.size) u.size) q.size) k.size) d.size) l.size) D) (e▸hx)) ax))) (fun _ _ h=>h))).rd,aH.nil ..,aH.nil ..,aH.nil ..,⟨(b8 (x:=c) (by omega)),(b8 (x:=0) (by omega)),(aB (x:=C.wordV) (by omega)),(aB (x:=(C.wordsC 1).wordV) (by omega)),(aB (x:=0) (by omega)),(aB (x:=0) (by omega)),(aB (x:=0) (by omega)),(aB (x:=0) (by omega)),(aB (x:=0) (by omega)),(aB (x:=0) (by omega)),(aB (x:=0) (by omega)),(aB (x:=0) (by omega)),(b8 (x:=0) (by omega)),(b8 (x:=0) (by omega)),(b8 (x:=0) (by omega)),(b8 (x:=0) (by omega)),(b8 (x:=0) (by omega))⟩⟩⟩,(uz f (ut p (ui v (ui k (uz d (ui l (uz r P))))) (ac im (ac im av))))⟩
open Go.RowKit
theorem rF(c:Int) : c=1∨c=2∨c=5∨c=15∨(c≠1∧c≠2∧c≠5∧c≠15):=by omega
theorem ik{m:Bool}{A:Option Addr}{cp:Nat}{b:List Int}{w:World}{c:Int}(hcode:B8 c)(hsl:aM m w (.slice A b.length cp) b)(hb:b.length≤1048576) :
    Calls Tryz.prog 58 #[.int .i64 0,.int .u8 c,.slice A b.length cp] w (cO (al aJ 0 c b) w):=by
 obtain⟨hcode1,hcode2⟩:=hcode
 have hln:(b.length:Int)≤1048576:=by omega
 refine en 72 Tryz.func58 rfl<|sg<|L0<|bz mZ fun cH cL n k y=>Pl 1<|nt<|sq<|sg<|Pl 6<|nt<|c0<|?_
 refine bB<|sg<|Pl 2<|L0<|bz mZ fun a cN g o bD=>L0<|b6 o (mC c) fun cP J p=>ng<|Pl 1<|?_
 have i:=ud bD p g
 have u:=aE y i
 refine L0<|Oc<|e3 (cl (aM.old hsl u) (by omega)) fun d cQ f s z=>Pl 1<|L0<|bz #[.pointer none,.pointer none] fun cR cS r af bF=>L0<|b6 af #[.pointer (some ⟨d,0,none⟩),.pointer (some ⟨a,0,none⟩)] fun cT bG ai=>ng<|L0<|qG fun cU cV am bH an=>?_
 have S:=ub an bG
 refine L0<|c9 S<|Pl 1<|L0<|c9 S<|Pl 2<|L0<|eo bH 1 fun cW bI ao=>?_
 have t:=nb (aj af) ai.size am
 have T:=aO ao t S
 refine L0<|c9 T<|Pl 1<|L0<|c9 T<|Pl 2<|L0<|eo bI 2 fun cX bJ ap=>?_
 have U:=aO ap t T
 refine L0<|c9 U<|Pl 1<|L0<|c9 U<|Pl 2<|L0<|eo bJ 5 fun cZ bK aq=>?_
 have v:=aO aq t U
 refine L0<|c9 v<|Pl 1<|L0<|c9 v<|Pl 2<|L0<|eo bK 15 fun d0 B C=>Pl 2<|ng<|Pl 2<|?_
 have D:=ud bF (aE ai (ud an (u1 ao (u1 ap (u1 aq C im) im) im) am)) r
 have j:=aE z D
 have E:=aE u j
 rcases rF c with hk|hk|hk|hk|hk
 have k1:(c==1)=true:=by rw[hk];rfl
 have k2:(c==2)=false:=by rw[hk];rfl
 have k5:(c==5)=false:=by rw[hk];rfl
 have l:(c==15)=false:=by rw[hk];rfl
 refine L0<|j3 (hf:=(by subst hk;kernel_rfl)) B c (.agg #[.nilFunc,.nilFunc]) (some (0,.agg #[.func (.func 78) #[.agg #[.pointer (some ⟨d,0,none⟩),.pointer (some ⟨a,0,none⟩)]] #[],.func (.func 79) #[.agg #[.pointer (some ⟨d,0,none⟩),.pointer (some ⟨a,0,none⟩)]] #[]]))<|Pl 3<|L0<|bz #[.nilFunc,.nilFunc] fun d1 d2 bL bM bN=>L0<|b6 bM #[.func (.func 78) #[.agg #[.pointer (some ⟨d,0,none⟩),.pointer (some ⟨a,0,none⟩)]] #[],.func (.func 79) #[.agg #[.pointer (some ⟨d,0,none⟩),.pointer (some ⟨a,0,none⟩)]] #[]] fun d3 bO bP=>Pl 1<|nt<|sq<|sg<|Pl 2<|nt<|c0<|?_
 refine bB<|sg<|Pl 2<|L0<|aR bO 0<|?_
 have V:=ud bN bP bL
 have ar:=aE j V
 have aw:=nb (aj o) p.size f
 refine L0<|eP #[.agg #[.pointer (some ⟨d,0,none⟩),.pointer (some ⟨a,0,none⟩)]] #[] (args:=#[.agg #[.pointer (some ⟨d,0,none⟩),.pointer (some ⟨a,0,none⟩)]])<|m3 (fJ (c:=c) ⟨hcode1,hcode2⟩ (ae.old s (aE D V)) (ub ar J) (Ne.symm aw)) fun d4 bQ bR aA=>?_
 obtain⟨bS,K,W⟩:=bR
 refine ab bQ fun x89 aB aC=>?_
 refine ng<|Pl 1<|?_
 have aF:=uz V aA
 have aG:=nb (ae.lt s) lr r
 have aH:=au.blk (us C aF) (aa t (aa (Ne.symm aG) (aa (Ne.symm (nb (aj o) (le p.size z.size) r)) ax))) v
 refine L0<|aR aH 0<|L0<|Oc<|m2 (bA aC) fun d5 aI L=>nt<|sq<|sg<|Pl 1<|?_
 refine L0<|aR (aO L (Ne.symm aG) aH) 0<|L0<|Oc<|mq (aX aI)<|?_
 have d6:=ae.len aI
 refine Pl 1<|ng<|Pl 2<|nt<|?_
 have X:=u1 aF L im
 have aK:=ut E X (ac (ni u.size f) (ac (ni y.size g) av))
 refine cb ((x89.endC.e != 0)) (fun F=>?_) (fun F=>?_)
 have Y:=ay F
 refine sg<|Pl 2<|?_
 refine L0<|b6 (ub (ud i (ud j X f) g) k) mZ fun d7 bT bU=>Pl 1<|nt<|rt<|tr<|cc bT (.int .i64 x89.endC.e)<|?_
 subst aB
 have hs:al aJ 0 c b=aQ ((cM 2000 c (ak.mk b false 0)).2) ((cM 2000 c (ak.mk b false 0)).1):=by
   unfold al aJ
   (try simp only[F,bs,if_true,if_false,decide_true,decide_false,eq_self,true_or,or_true,or_false,false_or,if_true,if_false,cJ,cK,cF,cI,reduceIte,k1,k2,k5,l])
   all_goals rfl
 rw[hs]
 exact aS Y (ud aK bU n)
 have Y:=ag F
 refine bB<|sg<|?_
 refine L0<|c9 (hz:=(by rw[K.2];exact aP)) (aO L aw K.1)<|?_
 refine L0<|b6 (hz:=(by rw[K.2];exact aP)) (hv:=W.size) (h1:=W.one) (ub (ud i (ud j X f) g) k) (bS) fun d8 bV aL=>Pl 1<|nt<|rt<|dy 22 K.2 bV (.int .i64 0)<|?_
 subst aB
 have hs:al aJ 0 c b=aQ ((cM 2000 c (ak.mk b false 0)).2) ((cM 2000 c (ak.mk b false 0)).1):=by
   unfold al aJ
   (try simp only[F,bs,if_true,if_false,decide_true,decide_false,eq_self,true_or,or_true,or_false,false_or,if_true,if_false,cJ,cK,cF,cI,reduceIte,k1,k2,k5,l])
   all_goals rfl
 rw[hs]
 exact aY Y (aU.upd W (us L aL) (ah (ae.safe aC _ (by decide)) (ah (aD (ub (ud i (ud ar aA f) g) k) (by decide)) az))) (ud aK aL n)
 have k1:(c==1)=false:=by rw[hk];rfl
 have k2:(c==2)=true:=by rw[hk];rfl
 have k5:(c==5)=false:=by rw[hk];rfl
 have l:(c==15)=false:=by rw[hk];rfl
 refine L0<|j3 (hf:=(by subst hk;kernel_rfl)) B c (.agg #[.nilFunc,.nilFunc]) (some (1,.agg #[.func (.func 78) #[.agg #[.pointer (some ⟨d,0,none⟩),.pointer (some ⟨a,0,none⟩)]] #[],.func (.func 79) #[.agg #[.pointer (some ⟨d,0,none⟩),.pointer (some ⟨a,0,none⟩)]] #[]]))<|Pl 3<|L0<|bz #[.nilFunc,.nilFunc] fun d9 da bW bX bY=>L0<|b6 bX #[.func (.func 78) #[.agg #[.pointer (some ⟨d,0,none⟩),.pointer (some ⟨a,0,none⟩)]] #[],.func (.func 79) #[.agg #[.pointer (some ⟨d,0,none⟩),.pointer (some ⟨a,0,none⟩)]] #[]] fun db bZ c2=>Pl 1<|nt<|sq<|sg<|Pl 2<|nt<|c0<|?_
 refine bB<|sg<|Pl 2<|L0<|aR bZ 0<|?_
 have Z:=ud bY c2 bW
 have aN:=aE j Z
 have aT:=nb (aj o) p.size f
 refine L0<|eP #[.agg #[.pointer (some ⟨d,0,none⟩),.pointer (some ⟨a,0,none⟩)]] #[] (args:=#[.agg #[.pointer (some ⟨d,0,none⟩),.pointer (some ⟨a,0,none⟩)]])<|m3 (fJ (c:=c) ⟨hcode1,hcode2⟩ (ae.old s (aE D Z)) (ub aN J) (Ne.symm aT)) fun dc c3 c4 aV=>?_
 obtain⟨c5,M,a0⟩:=c4
 refine ab c3 fun aW aZ b0=>?_
 refine ng<|Pl 1<|?_
 have b1:=uz Z aV
 have b2:=nb (ae.lt s) lr r
 have b3:=au.blk (us C b1) (aa t (aa (Ne.symm b2) (aa (Ne.symm (nb (aj o) (le p.size z.size) r)) ax))) v
 refine L0<|aR b3 0<|L0<|Oc<|m2 (bA b0) fun dd b4 N=>nt<|sq<|sg<|Pl 1<|?_
 refine L0<|aR (aO N (Ne.symm b2) b3) 0<|L0<|Oc<|mq (aX b4)<|?_
 have de:=ae.len b4
 refine Pl 1<|ng<|Pl 2<|nt<|?_
 have a1:=u1 b1 N im
 have b5:=ut E a1 (ac (ni u.size f) (ac (ni y.size g) av))
 refine cb ((aW.endC.e != 0)) (fun G=>?_) (fun G=>?_)
 have a2:=ay G
 refine sg<|Pl 2<|?_
 refine L0<|b6 (ub (ud i (ud j a1 f) g) k) mZ fun df c6 c7=>Pl 1<|nt<|rt<|tr<|cc c6 (.int .i64 aW.endC.e)<|?_
 subst aZ
 have hs:al aJ 0 c b=aQ ((cM 2000 c (ak.mk b false 0)).2) ((cM 2000 c (ak.mk b false 0)).1):=by
   unfold al aJ
   (try simp only[G,bs,if_true,if_false,decide_true,decide_false,eq_self,true_or,or_true,or_false,false_or,if_true,if_false,cJ,cK,cF,cI,reduceIte,k1,k2,k5,l])
   all_goals rfl
 rw[hs]
 exact aS a2 (ud b5 c7 n)
 have a2:=ag G
 refine bB<|sg<|?_
 refine L0<|c9 (hz:=(by rw[M.2];exact aP)) (aO N aT M.1)<|?_
 refine L0<|b6 (hz:=(by rw[M.2];exact aP)) (hv:=a0.size) (h1:=a0.one) (ub (ud i (ud j a1 f) g) k) (c5) fun dg c8 b7=>Pl 1<|nt<|rt<|dy 22 M.2 c8 (.int .i64 0)<|?_
 subst aZ
 have hs:al aJ 0 c b=aQ ((cM 2000 c (ak.mk b false 0)).2) ((cM 2000 c (ak.mk b false 0)).1):=by
   unfold al aJ
   (try simp only[G,bs,if_true,if_false,decide_true,decide_false,eq_self,true_or,or_true,or_false,false_or,if_true,if_false,cJ,cK,cF,cI,reduceIte,k1,k2,k5,l])
   all_goals rfl
 rw[hs]
 exact aY a2 (aU.upd a0 (us N b7) (ah (ae.safe b0 _ (by decide)) (ah (aD (ub (ud i (ud aN aV f) g) k) (by decide)) az))) (ud b5 b7 n)
 have k1:(c==1)=false:=by rw[hk];rfl
 have k2:(c==2)=false:=by rw[hk];rfl
 have k5:(c==5)=true:=by rw[hk];rfl
 have l:(c==15)=false:=by rw[hk];rfl
 refine L0<|j3 (hf:=(by subst hk;kernel_rfl)) B c (.agg #[.nilFunc,.nilFunc]) (some (2,.agg #[.func (.func 80) #[.agg #[.pointer (some ⟨d,0,none⟩),.pointer (some ⟨a,0,none⟩)]] #[],.func (.func 80) #[.agg #[.pointer (some ⟨d,0,none⟩),.pointer (some ⟨a,0,none⟩)]] #[]]))<|Pl 3<|L0<|bz #[.nilFunc,.nilFunc] fun dh di ca cd ce=>L0<|b6 cd #[.func (.func 80) #[.agg #[.pointer (some ⟨d,0,none⟩),.pointer (some ⟨a,0,none⟩)]] #[],.func (.func 80) #[.agg #[.pointer (some ⟨d,0,none⟩),.pointer (some ⟨a,0,none⟩)]] #[]] fun dj cf cg=>Pl 1<|nt<|sq<|sg<|Pl 2<|nt<|c0<|?_
 refine bB<|sg<|Pl 2<|L0<|aR cf 0<|?_
 have a3:=ud ce cg ca
 have b8:=aE j a3
 have b9:=nb (aj o) p.size f
 refine L0<|eP #[.agg #[.pointer (some ⟨d,0,none⟩),.pointer (some ⟨a,0,none⟩)]] #[] (args:=#[.agg #[.pointer (some ⟨d,0,none⟩),.pointer (some ⟨a,0,none⟩)]])<|m3 (iS (c:=c) ⟨hcode1,hcode2⟩ (ae.old s (aE D a3)) (ub b8 J) (Ne.symm b9)) fun dk ch ci ba=>?_
 obtain⟨cj,O,a4⟩:=ci
 refine ab ch fun bb bc bd=>?_
 refine ng<|Pl 1<|?_
 have be:=uz a3 ba
 have bg:=nb (ae.lt s) lr r
 have bh:=au.blk (us C be) (aa t (aa (Ne.symm bg) (aa (Ne.symm (nb (aj o) (le p.size z.size) r)) ax))) v
 refine L0<|aR bh 0<|L0<|Oc<|m2 (bA bd) fun dl bi P=>nt<|sq<|sg<|Pl 1<|?_
 refine L0<|aR (aO P (Ne.symm bg) bh) 0<|L0<|Oc<|mq (aX bi)<|?_
 have dm:=ae.len bi
 refine Pl 1<|ng<|Pl 2<|nt<|?_
 have a5:=u1 be P im
 have bj:=ut E a5 (ac (ni u.size f) (ac (ni y.size g) av))
 refine cb ((bb.endC.e != 0)) (fun H=>?_) (fun H=>?_)
 have a6:=ay H
 refine sg<|Pl 2<|?_
 refine L0<|b6 (ub (ud i (ud j a5 f) g) k) mZ fun dn ck cm=>Pl 1<|nt<|rt<|tr<|cc ck (.int .i64 bb.endC.e)<|?_
 subst bc
 have hs:al aJ 0 c b=aQ ((cY c (ak.mk b false 0)).2) ((cY c (ak.mk b false 0)).1):=by
   unfold al aJ
   (try simp only[H,bs,if_true,if_false,decide_true,decide_false,eq_self,true_or,or_true,or_false,false_or,if_true,if_false,cJ,cK,cF,cI,reduceIte,k1,k2,k5,l])
   all_goals rfl
 rw[hs]
 exact aS a6 (ud bj cm n)
 have a6:=ag H
 refine bB<|sg<|?_
 refine L0<|c9 (hz:=(by rw[O.2];exact aP)) (aO P b9 O.1)<|?_
 refine L0<|b6 (hz:=(by rw[O.2];exact aP)) (hv:=a4.size) (h1:=a4.one) (ub (ud i (ud j a5 f) g) k) (cj) fun dp cn bk=>Pl 1<|nt<|rt<|dy 22 O.2 cn (.int .i64 0)<|?_
 subst bc
 have hs:al aJ 0 c b=aQ ((cY c (ak.mk b false 0)).2) ((cY c (ak.mk b false 0)).1):=by
   unfold al aJ
   (try simp only[H,bs,if_true,if_false,decide_true,decide_false,eq_self,true_or,or_true,or_false,false_or,if_true,if_false,cJ,cK,cF,cI,reduceIte,k1,k2,k5,l])
   all_goals rfl
 rw[hs]
 exact aY a6 (aU.upd a4 (us P bk) (ah (ae.safe bd _ (by decide)) (ah (aD (ub (ud i (ud b8 ba f) g) k) (by decide)) az))) (ud bj bk n)
 have k1:(c==1)=false:=by rw[hk];rfl
 have k2:(c==2)=false:=by rw[hk];rfl
 have k5:(c==5)=false:=by rw[hk];rfl
 have l:(c==15)=true:=by rw[hk];rfl
 refine L0<|j3 (hf:=(by subst hk;kernel_rfl)) B c (.agg #[.nilFunc,.nilFunc]) (some (3,.agg #[.func (.func 81) #[.agg #[.pointer (some ⟨d,0,none⟩),.pointer (some ⟨a,0,none⟩)]] #[],.func (.func 82) #[.agg #[.pointer (some ⟨d,0,none⟩),.pointer (some ⟨a,0,none⟩)]] #[]]))<|Pl 3<|L0<|bz #[.nilFunc,.nilFunc] fun dq dr co cq cr=>L0<|b6 cq #[.func (.func 81) #[.agg #[.pointer (some ⟨d,0,none⟩),.pointer (some ⟨a,0,none⟩)]] #[],.func (.func 82) #[.agg #[.pointer (some ⟨d,0,none⟩),.pointer (some ⟨a,0,none⟩)]] #[]] fun ds cs ct=>Pl 1<|nt<|sq<|sg<|Pl 2<|nt<|c0<|?_
 refine bB<|sg<|Pl 2<|L0<|aR cs 0<|?_
 have a7:=ud cr ct co
 have bl:=aE j a7
 have bm:=nb (aj o) p.size f
 refine L0<|eP #[.agg #[.pointer (some ⟨d,0,none⟩),.pointer (some ⟨a,0,none⟩)]] #[] (args:=#[.agg #[.pointer (some ⟨d,0,none⟩),.pointer (some ⟨a,0,none⟩)]])<|m3 (qY (c:=c) ⟨hcode1,hcode2⟩ (ae.old s (aE D a7)) (ub bl J) (Ne.symm bm)) fun dt bn cu bo=>?_
 obtain⟨cv,Q,a8⟩:=cu
 refine ng<|Pl 1<|?_
 have bp:=uz a7 bo
 have bq:=nb (ae.lt s) lr r
 have br:=au.blk (us C bp) (aa t (aa (Ne.symm bq) (aa (Ne.symm (nb (aj o) (le p.size z.size) r)) ax))) v
 refine L0<|aR br 0<|L0<|Oc<|m2 (bA bn) fun du cw R=>?_
 refine ab cw fun bt bu bv=>?_
 refine nt<|sq<|sg<|Pl 1<|?_
 refine L0<|aR (aO R (Ne.symm bq) br) 0<|L0<|Oc<|mq (aX bv)<|?_
 have dv:=ae.len bv
 refine Pl 1<|ng<|Pl 2<|nt<|?_
 have a9:=u1 bp R im
 have bw:=ut E a9 (ac (ni u.size f) (ac (ni y.size g) av))
 refine cb ((bt.e != 0)) (fun I=>?_) (fun I=>?_)
 have ad:=ay I
 refine sg<|Pl 2<|?_
 refine L0<|b6 (ub (ud i (ud j a9 f) g) k) mZ fun dw cx cy=>Pl 1<|nt<|rt<|tr<|cc cx (.int .i64 bt.e)<|?_
 subst bu
 have hs:al aJ 0 c b=aQ ((jw c (ak.mk b false 0)).2) ((jw c (ak.mk b false 0)).1):=by
   unfold al aJ
   (try simp only[I,bs,if_true,if_false,decide_true,decide_false,eq_self,true_or,or_true,or_false,false_or,if_true,if_false,cJ,cK,cF,cI,reduceIte,k1,k2,k5,l])
   all_goals rfl
 rw[hs]
 exact aS ad (ud bw cy n)
 have ad:=ag I
 refine bB<|sg<|?_
 refine L0<|c9 (hz:=(by rw[Q.2];exact aP)) (aO R bm Q.1)<|?_
 refine L0<|b6 (hz:=(by rw[Q.2];exact aP)) (hv:=a8.size) (h1:=a8.one) (ub (ud i (ud j a9 f) g) k) (cv) fun dx cz bx=>Pl 1<|nt<|rt<|dy 22 Q.2 cz (.int .i64 0)<|?_
 subst bu
 have hs:al aJ 0 c b=aQ ((jw c (ak.mk b false 0)).2) ((jw c (ak.mk b false 0)).1):=by
   unfold al aJ
   (try simp only[I,bs,if_true,if_false,decide_true,decide_false,eq_self,true_or,or_true,or_false,false_or,if_true,if_false,cJ,cK,cF,cI,reduceIte,k1,k2,k5,l])
   all_goals rfl
 rw[hs]
 exact aY ad (aU.upd a8 (us R bx) (ah (ae.safe bn _ (by decide)) (ah (aD (ub (ud i (ud bl bo f) g) k) (by decide)) az))) (ud bw bx n)
 have k1:(c==1)=false:=by simpa using hk.1
 have k2:(c==2)=false:=by simpa using hk.2.1
 have k5:(c==5)=false:=by simpa using hk.2.2.1
 have l:(c==15)=false:=by simpa using hk.2.2.2
 refine L0<|j3 (hf:=(tS (q:=.u8) (x:=c) #[⟨.int .u8 1,.agg #[.func (.func 78) #[.agg #[.pointer (some ⟨d,0,none⟩),.pointer (some ⟨a,0,none⟩)]] #[],.func (.func 79) #[.agg #[.pointer (some ⟨d,0,none⟩),.pointer (some ⟨a,0,none⟩)]] #[]],0⟩,⟨.int .u8 2,.agg #[.func (.func 78) #[.agg #[.pointer (some ⟨d,0,none⟩),.pointer (some ⟨a,0,none⟩)]] #[],.func (.func 79) #[.agg #[.pointer (some ⟨d,0,none⟩),.pointer (some ⟨a,0,none⟩)]] #[]],1⟩,⟨.int .u8 5,.agg #[.func (.func 80) #[.agg #[.pointer (some ⟨d,0,none⟩),.pointer (some ⟨a,0,none⟩)]] #[],.func (.func 80) #[.agg #[.pointer (some ⟨d,0,none⟩),.pointer (some ⟨a,0,none⟩)]] #[]],2⟩,⟨.int .u8 15,.agg #[.func (.func 81) #[.agg #[.pointer (some ⟨d,0,none⟩),.pointer (some ⟨a,0,none⟩)]] #[],.func (.func 82) #[.agg #[.pointer (some ⟨d,0,none⟩),.pointer (some ⟨a,0,none⟩)]] #[]],3⟩] (dK _ _ (by intro e he;simp only[List.mem_cons,List.not_mem_nil,or_false] at he;obtain⟨z1,z2,z5,dz⟩:=hk;rcases he with rfl | rfl | rfl | rfl<;>exact⟨_,rfl,fun h=>by simp_all⟩)))) B c (.agg #[.nilFunc,.nilFunc]) none<|Pl 3<|L0<|bz #[.nilFunc,.nilFunc] fun dA dB cA cB cC=>L0<|b6 cB #[.nilFunc,.nilFunc] fun dC dD cD=>Pl 1<|nt<|sq<|sg<|Pl 2<|nt<|c1<|?_
 refine sg<|Pl 1<|?_
 have bC:=ud cC cD cA
 refine L0<|b6 (ub (aE i (aE j bC)) k) mZ fun dE cE cG=>Pl 1<|nt<|rt<|tr<|cc cE (.int .i64 4)<|?_
 have hs:al aJ 0 c b=(bf.zero,4):=by
   unfold al aJ
   (try simp only[bs,if_true,if_false,decide_true,decide_false,eq_self,true_or,or_true,or_false,false_or,if_true,if_false,cJ,cK,cF,cI,reduceIte,k1,k2,k5,l])
   all_goals rfl
 rw[hs]
 exact bE (ud E (uz bC cG) n)
theorem ig{m:Bool}{A:Option Addr}{cp:Nat}{b:List Int}{w:World}{c:Int}(hcode:B8 c)(hsl:aM m w (.slice A b.length cp) b)(hb:b.length≤1048576) :
    Calls Tryz.prog 58 #[.int .i64 1,.int .u8 c,.slice A b.length cp] w (cO (al aJ 1 c b) w):=by
 obtain⟨hcode1,hcode2⟩:=hcode
 have hln:(b.length:Int)≤1048576:=by omega
 refine en 72 Tryz.func58 rfl<|sg<|L0<|bz mZ fun cH cL n k y=>Pl 1<|nt<|sq<|sg<|Pl 6<|nt<|c0<|?_
 refine bB<|sg<|Pl 2<|L0<|bz mZ fun a cN g o bD=>L0<|b6 o (mC c) fun cP J p=>ng<|Pl 1<|?_
 have i:=ud bD p g
 have u:=aE y i
 refine L0<|Oc<|e3 (cl (aM.old hsl u) (by omega)) fun d cQ f s z=>Pl 1<|L0<|bz #[.pointer none,.pointer none] fun cR cS r af bF=>L0<|b6 af #[.pointer (some ⟨d,0,none⟩),.pointer (some ⟨a,0,none⟩)] fun cT bG ai=>ng<|L0<|qG fun cU cV am bH an=>?_
 have S:=ub an bG
 refine L0<|c9 S<|Pl 1<|L0<|c9 S<|Pl 2<|L0<|eo bH 1 fun cW bI ao=>?_
 have t:=nb (aj af) ai.size am
 have T:=aO ao t S
 refine L0<|c9 T<|Pl 1<|L0<|c9 T<|Pl 2<|L0<|eo bI 2 fun cX bJ ap=>?_
 have U:=aO ap t T
 refine L0<|c9 U<|Pl 1<|L0<|c9 U<|Pl 2<|L0<|eo bJ 5 fun cZ bK aq=>?_
 have v:=aO aq t U
 refine L0<|c9 v<|Pl 1<|L0<|c9 v<|Pl 2<|L0<|eo bK 15 fun d0 B C=>Pl 2<|ng<|Pl 2<|?_
 have D:=ud bF (aE ai (ud an (u1 ao (u1 ap (u1 aq C im) im) im) am)) r
 have j:=aE z D
 have E:=aE u j
 rcases rF c with hk|hk|hk|hk|hk
 have k1:(c==1)=true:=by rw[hk];rfl
 have k2:(c==2)=false:=by rw[hk];rfl
 have k5:(c==5)=false:=by rw[hk];rfl
 have l:(c==15)=false:=by rw[hk];rfl
 refine L0<|j3 (hf:=(by subst hk;kernel_rfl)) B c (.agg #[.nilFunc,.nilFunc]) (some (0,.agg #[.func (.func 78) #[.agg #[.pointer (some ⟨d,0,none⟩),.pointer (some ⟨a,0,none⟩)]] #[],.func (.func 79) #[.agg #[.pointer (some ⟨d,0,none⟩),.pointer (some ⟨a,0,none⟩)]] #[]]))<|Pl 3<|L0<|bz #[.nilFunc,.nilFunc] fun d1 d2 bL bM bN=>L0<|b6 bM #[.func (.func 78) #[.agg #[.pointer (some ⟨d,0,none⟩),.pointer (some ⟨a,0,none⟩)]] #[],.func (.func 79) #[.agg #[.pointer (some ⟨d,0,none⟩),.pointer (some ⟨a,0,none⟩)]] #[]] fun d3 bO bP=>Pl 1<|nt<|sq<|sg<|Pl 2<|nt<|c0<|?_
 refine bB<|sg<|Pl 2<|L0<|aR bO 1<|?_
 have V:=ud bN bP bL
 have ar:=aE j V
 have aw:=nb (aj o) p.size f
 refine L0<|eP #[.agg #[.pointer (some ⟨d,0,none⟩),.pointer (some ⟨a,0,none⟩)]] #[] (args:=#[.agg #[.pointer (some ⟨d,0,none⟩),.pointer (some ⟨a,0,none⟩)]])<|m3 (iW (c:=c) ⟨hcode1,hcode2⟩ (ae.old s (aE D V)) (ub ar J) (Ne.symm aw)) fun d4 bQ bR aA=>?_
 obtain⟨bS,K,W⟩:=bR
 refine ab bQ fun x89 aB aC=>?_
 refine ng<|Pl 1<|?_
 have aF:=uz V aA
 have aG:=nb (ae.lt s) lr r
 have aH:=au.blk (us C aF) (aa t (aa (Ne.symm aG) (aa (Ne.symm (nb (aj o) (le p.size z.size) r)) ax))) v
 refine L0<|aR aH 0<|L0<|Oc<|m2 (bA aC) fun d5 aI L=>nt<|sq<|sg<|Pl 1<|?_
 refine L0<|aR (aO L (Ne.symm aG) aH) 0<|L0<|Oc<|mq (aX aI)<|?_
 have d6:=ae.len aI
 refine Pl 1<|ng<|Pl 2<|nt<|?_
 have X:=u1 aF L im
 have aK:=ut E X (ac (ni u.size f) (ac (ni y.size g) av))
 refine cb ((x89.endC.e != 0)) (fun F=>?_) (fun F=>?_)
 have Y:=ay F
 refine sg<|Pl 2<|?_
 refine L0<|b6 (ub (ud i (ud j X f) g) k) mZ fun d7 bT bU=>Pl 1<|nt<|rt<|tr<|cc bT (.int .i64 x89.endC.e)<|?_
 subst aB
 have hs:al aJ 1 c b=aQ ((de c (ak.mk b false 0)).2) ((de c (ak.mk b false 0)).1):=by
   unfold al aJ
   (try simp only[F,bs,if_true,if_false,decide_true,decide_false,eq_self,true_or,or_true,or_false,false_or,if_true,if_false,cJ,cK,cF,cI,reduceIte,k1,k2,k5,l])
   all_goals rfl
 rw[hs]
 exact aS Y (ud aK bU n)
 have Y:=ag F
 refine bB<|sg<|?_
 refine L0<|c9 (hz:=(by rw[K.2];exact aP)) (aO L aw K.1)<|?_
 refine L0<|b6 (hz:=(by rw[K.2];exact aP)) (hv:=W.size) (h1:=W.one) (ub (ud i (ud j X f) g) k) (bS) fun d8 bV aL=>Pl 1<|nt<|rt<|dy 22 K.2 bV (.int .i64 0)<|?_
 subst aB
 have hs:al aJ 1 c b=aQ ((de c (ak.mk b false 0)).2) ((de c (ak.mk b false 0)).1):=by
   unfold al aJ
   (try simp only[F,bs,if_true,if_false,decide_true,decide_false,eq_self,true_or,or_true,or_false,false_or,if_true,if_false,cJ,cK,cF,cI,reduceIte,k1,k2,k5,l])
   all_goals rfl
 rw[hs]
 exact aY Y (aU.upd W (us L aL) (ah (ae.safe aC _ (by decide)) (ah (aD (ub (ud i (ud ar aA f) g) k) (by decide)) az))) (ud aK aL n)
 have k1:(c==1)=false:=by rw[hk];rfl
 have k2:(c==2)=true:=by rw[hk];rfl
 have k5:(c==5)=false:=by rw[hk];rfl
 have l:(c==15)=false:=by rw[hk];rfl
 refine L0<|j3 (hf:=(by subst hk;kernel_rfl)) B c (.agg #[.nilFunc,.nilFunc]) (some (1,.agg #[.func (.func 78) #[.agg #[.pointer (some ⟨d,0,none⟩),.pointer (some ⟨a,0,none⟩)]] #[],.func (.func 79) #[.agg #[.pointer (some ⟨d,0,none⟩),.pointer (some ⟨a,0,none⟩)]] #[]]))<|Pl 3<|L0<|bz #[.nilFunc,.nilFunc] fun d9 da bW bX bY=>L0<|b6 bX #[.func (.func 78) #[.agg #[.pointer (some ⟨d,0,none⟩),.pointer (some ⟨a,0,none⟩)]] #[],.func (.func 79) #[.agg #[.pointer (some ⟨d,0,none⟩),.pointer (some ⟨a,0,none⟩)]] #[]] fun db bZ c2=>Pl 1<|nt<|sq<|sg<|Pl 2<|nt<|c0<|?_
 refine bB<|sg<|Pl 2<|L0<|aR bZ 1<|?_
 have Z:=ud bY c2 bW
 have aN:=aE j Z
 have aT:=nb (aj o) p.size f
 refine L0<|eP #[.agg #[.pointer (some ⟨d,0,none⟩),.pointer (some ⟨a,0,none⟩)]] #[] (args:=#[.agg #[.pointer (some ⟨d,0,none⟩),.pointer (some ⟨a,0,none⟩)]])<|m3 (iW (c:=c) ⟨hcode1,hcode2⟩ (ae.old s (aE D Z)) (ub aN J) (Ne.symm aT)) fun dc c3 c4 aV=>?_
 obtain⟨c5,M,a0⟩:=c4
 refine ab c3 fun aW aZ b0=>?_
 refine ng<|Pl 1<|?_
 have b1:=uz Z aV
 have b2:=nb (ae.lt s) lr r
 have b3:=au.blk (us C b1) (aa t (aa (Ne.symm b2) (aa (Ne.symm (nb (aj o) (le p.size z.size) r)) ax))) v
 refine L0<|aR b3 0<|L0<|Oc<|m2 (bA b0) fun dd b4 N=>nt<|sq<|sg<|Pl 1<|?_
 refine L0<|aR (aO N (Ne.symm b2) b3) 0<|L0<|Oc<|mq (aX b4)<|?_
 have df:=ae.len b4
 refine Pl 1<|ng<|Pl 2<|nt<|?_
 have a1:=u1 b1 N im
 have b5:=ut E a1 (ac (ni u.size f) (ac (ni y.size g) av))
 refine cb ((aW.endC.e != 0)) (fun G=>?_) (fun G=>?_)
 have a2:=ay G
 refine sg<|Pl 2<|?_
 refine L0<|b6 (ub (ud i (ud j a1 f) g) k) mZ fun dg c6 c7=>Pl 1<|nt<|rt<|tr<|cc c6 (.int .i64 aW.endC.e)<|?_
 subst aZ
 have hs:al aJ 1 c b=aQ ((de c (ak.mk b false 0)).2) ((de c (ak.mk b false 0)).1):=by
   unfold al aJ
   (try simp only[G,bs,if_true,if_false,decide_true,decide_false,eq_self,true_or,or_true,or_false,false_or,if_true,if_false,cJ,cK,cF,cI,reduceIte,k1,k2,k5,l])
   all_goals rfl
 rw[hs]
 exact aS a2 (ud b5 c7 n)
 have a2:=ag G
 refine bB<|sg<|?_
 refine L0<|c9 (hz:=(by rw[M.2];exact aP)) (aO N aT M.1)<|?_
 refine L0<|b6 (hz:=(by rw[M.2];exact aP)) (hv:=a0.size) (h1:=a0.one) (ub (ud i (ud j a1 f) g) k) (c5) fun dh c8 b7=>Pl 1<|nt<|rt<|dy 22 M.2 c8 (.int .i64 0)<|?_
 subst aZ
 have hs:al aJ 1 c b=aQ ((de c (ak.mk b false 0)).2) ((de c (ak.mk b false 0)).1):=by
   unfold al aJ
   (try simp only[G,bs,if_true,if_false,decide_true,decide_false,eq_self,true_or,or_true,or_false,false_or,if_true,if_false,cJ,cK,cF,cI,reduceIte,k1,k2,k5,l])
   all_goals rfl
 rw[hs]
 exact aY a2 (aU.upd a0 (us N b7) (ah (ae.safe b0 _ (by decide)) (ah (aD (ub (ud i (ud aN aV f) g) k) (by decide)) az))) (ud b5 b7 n)
 have k1:(c==1)=false:=by rw[hk];rfl
 have k2:(c==2)=false:=by rw[hk];rfl
 have k5:(c==5)=true:=by rw[hk];rfl
 have l:(c==15)=false:=by rw[hk];rfl
 refine L0<|j3 (hf:=(by subst hk;kernel_rfl)) B c (.agg #[.nilFunc,.nilFunc]) (some (2,.agg #[.func (.func 80) #[.agg #[.pointer (some ⟨d,0,none⟩),.pointer (some ⟨a,0,none⟩)]] #[],.func (.func 80) #[.agg #[.pointer (some ⟨d,0,none⟩),.pointer (some ⟨a,0,none⟩)]] #[]]))<|Pl 3<|L0<|bz #[.nilFunc,.nilFunc] fun di dj ca cd ce=>L0<|b6 cd #[.func (.func 80) #[.agg #[.pointer (some ⟨d,0,none⟩),.pointer (some ⟨a,0,none⟩)]] #[],.func (.func 80) #[.agg #[.pointer (some ⟨d,0,none⟩),.pointer (some ⟨a,0,none⟩)]] #[]] fun dk cf cg=>Pl 1<|nt<|sq<|sg<|Pl 2<|nt<|c0<|?_
 refine bB<|sg<|Pl 2<|L0<|aR cf 1<|?_
 have a3:=ud ce cg ca
 have b8:=aE j a3
 have b9:=nb (aj o) p.size f
 refine L0<|eP #[.agg #[.pointer (some ⟨d,0,none⟩),.pointer (some ⟨a,0,none⟩)]] #[] (args:=#[.agg #[.pointer (some ⟨d,0,none⟩),.pointer (some ⟨a,0,none⟩)]])<|m3 (iS (c:=c) ⟨hcode1,hcode2⟩ (ae.old s (aE D a3)) (ub b8 J) (Ne.symm b9)) fun dl ch ci ba=>?_
 obtain⟨cj,O,a4⟩:=ci
 refine ab ch fun bb bc bd=>?_
 refine ng<|Pl 1<|?_
 have be:=uz a3 ba
 have bg:=nb (ae.lt s) lr r
 have bh:=au.blk (us C be) (aa t (aa (Ne.symm bg) (aa (Ne.symm (nb (aj o) (le p.size z.size) r)) ax))) v
 refine L0<|aR bh 0<|L0<|Oc<|m2 (bA bd) fun dm bi P=>nt<|sq<|sg<|Pl 1<|?_
 refine L0<|aR (aO P (Ne.symm bg) bh) 0<|L0<|Oc<|mq (aX bi)<|?_
 have dn:=ae.len bi
 refine Pl 1<|ng<|Pl 2<|nt<|?_
 have a5:=u1 be P im
 have bj:=ut E a5 (ac (ni u.size f) (ac (ni y.size g) av))
 refine cb ((bb.endC.e != 0)) (fun H=>?_) (fun H=>?_)
 have a6:=ay H
 refine sg<|Pl 2<|?_
 refine L0<|b6 (ub (ud i (ud j a5 f) g) k) mZ fun dp ck cm=>Pl 1<|nt<|rt<|tr<|cc ck (.int .i64 bb.endC.e)<|?_
 subst bc
 have hs:al aJ 1 c b=aQ ((cY c (ak.mk b false 0)).2) ((cY c (ak.mk b false 0)).1):=by
   unfold al aJ
   (try simp only[H,bs,if_true,if_false,decide_true,decide_false,eq_self,true_or,or_true,or_false,false_or,if_true,if_false,cJ,cK,cF,cI,reduceIte,k1,k2,k5,l])
   all_goals rfl
 rw[hs]
 exact aS a6 (ud bj cm n)
 have a6:=ag H
 refine bB<|sg<|?_
 refine L0<|c9 (hz:=(by rw[O.2];exact aP)) (aO P b9 O.1)<|?_
 refine L0<|b6 (hz:=(by rw[O.2];exact aP)) (hv:=a4.size) (h1:=a4.one) (ub (ud i (ud j a5 f) g) k) (cj) fun dq cn bk=>Pl 1<|nt<|rt<|dy 22 O.2 cn (.int .i64 0)<|?_
 subst bc
 have hs:al aJ 1 c b=aQ ((cY c (ak.mk b false 0)).2) ((cY c (ak.mk b false 0)).1):=by
   unfold al aJ
   (try simp only[H,bs,if_true,if_false,decide_true,decide_false,eq_self,true_or,or_true,or_false,false_or,if_true,if_false,cJ,cK,cF,cI,reduceIte,k1,k2,k5,l])
   all_goals rfl
 rw[hs]
 exact aY a6 (aU.upd a4 (us P bk) (ah (ae.safe bd _ (by decide)) (ah (aD (ub (ud i (ud b8 ba f) g) k) (by decide)) az))) (ud bj bk n)
 have k1:(c==1)=false:=by rw[hk];rfl
 have k2:(c==2)=false:=by rw[hk];rfl
 have k5:(c==5)=false:=by rw[hk];rfl
 have l:(c==15)=true:=by rw[hk];rfl
 refine L0<|j3 (hf:=(by subst hk;kernel_rfl)) B c (.agg #[.nilFunc,.nilFunc]) (some (3,.agg #[.func (.func 81) #[.agg #[.pointer (some ⟨d,0,none⟩),.pointer (some ⟨a,0,none⟩)]] #[],.func (.func 82) #[.agg #[.pointer (some ⟨d,0,none⟩),.pointer (some ⟨a,0,none⟩)]] #[]]))<|Pl 3<|L0<|bz #[.nilFunc,.nilFunc] fun dr ds co cq cr=>L0<|b6 cq #[.func (.func 81) #[.agg #[.pointer (some ⟨d,0,none⟩),.pointer (some ⟨a,0,none⟩)]] #[],.func (.func 82) #[.agg #[.pointer (some ⟨d,0,none⟩),.pointer (some ⟨a,0,none⟩)]] #[]] fun dt cs ct=>Pl 1<|nt<|sq<|sg<|Pl 2<|nt<|c0<|?_
 refine bB<|sg<|Pl 2<|L0<|aR cs 1<|?_
 have a7:=ud cr ct co
 have bl:=aE j a7
 have bm:=nb (aj o) p.size f
 refine L0<|eP #[.agg #[.pointer (some ⟨d,0,none⟩),.pointer (some ⟨a,0,none⟩)]] #[] (args:=#[.agg #[.pointer (some ⟨d,0,none⟩),.pointer (some ⟨a,0,none⟩)]])<|m3 (pi (c:=c) ⟨hcode1,hcode2⟩ (ae.old s (aE D a7)) (ub bl J) (Ne.symm bm)) fun du cu cv bn=>?_
 obtain⟨cw,Q,a8⟩:=cv
 refine ab cu fun bo bp bq=>?_
 refine ng<|Pl 1<|?_
 have br:=uz a7 bn
 have bt:=nb (ae.lt s) lr r
 have bu:=au.blk (us C br) (aa t (aa (Ne.symm bt) (aa (Ne.symm (nb (aj o) (le p.size z.size) r)) ax))) v
 refine L0<|aR bu 0<|L0<|Oc<|m2 (bA bq) fun dv bv R=>nt<|sq<|sg<|Pl 1<|?_
 refine L0<|aR (aO R (Ne.symm bt) bu) 0<|L0<|Oc<|mq (aX bv)<|?_
 have dw:=ae.len bv
 refine Pl 1<|ng<|Pl 2<|nt<|?_
 have a9:=u1 br R im
 have bw:=ut E a9 (ac (ni u.size f) (ac (ni y.size g) av))
 refine cb ((bo.endC.e != 0)) (fun I=>?_) (fun I=>?_)
 have ad:=ay I
 refine sg<|Pl 2<|?_
 refine L0<|b6 (ub (ud i (ud j a9 f) g) k) mZ fun dx cx cy=>Pl 1<|nt<|rt<|tr<|cc cx (.int .i64 bo.endC.e)<|?_
 subst bp
 have hs:al aJ 1 c b=aQ ((cM 1968 c (ak.mk b false 0)).2) ((cM 1968 c (ak.mk b false 0)).1):=by
   unfold al aJ
   (try simp only[I,bs,if_true,if_false,decide_true,decide_false,eq_self,true_or,or_true,or_false,false_or,if_true,if_false,cJ,cK,cF,cI,reduceIte,k1,k2,k5,l])
   all_goals rfl
 rw[hs]
 exact aS ad (ud bw cy n)
 have ad:=ag I
 refine bB<|sg<|?_
 refine L0<|c9 (hz:=(by rw[Q.2];exact aP)) (aO R bm Q.1)<|?_
 refine L0<|b6 (hz:=(by rw[Q.2];exact aP)) (hv:=a8.size) (h1:=a8.one) (ub (ud i (ud j a9 f) g) k) (cw) fun dz cz bx=>Pl 1<|nt<|rt<|dy 22 Q.2 cz (.int .i64 0)<|?_
 subst bp
 have hs:al aJ 1 c b=aQ ((cM 1968 c (ak.mk b false 0)).2) ((cM 1968 c (ak.mk b false 0)).1):=by
   unfold al aJ
   (try simp only[I,bs,if_true,if_false,decide_true,decide_false,eq_self,true_or,or_true,or_false,false_or,if_true,if_false,cJ,cK,cF,cI,reduceIte,k1,k2,k5,l])
   all_goals rfl
 rw[hs]
 exact aY ad (aU.upd a8 (us R bx) (ah (ae.safe bq _ (by decide)) (ah (aD (ub (ud i (ud bl bn f) g) k) (by decide)) az))) (ud bw bx n)
 have k1:(c==1)=false:=by simpa using hk.1
 have k2:(c==2)=false:=by simpa using hk.2.1
 have k5:(c==5)=false:=by simpa using hk.2.2.1
 have l:(c==15)=false:=by simpa using hk.2.2.2
 refine L0<|j3 (hf:=(tS (q:=.u8) (x:=c) #[⟨.int .u8 1,.agg #[.func (.func 78) #[.agg #[.pointer (some ⟨d,0,none⟩),.pointer (some ⟨a,0,none⟩)]] #[],.func (.func 79) #[.agg #[.pointer (some ⟨d,0,none⟩),.pointer (some ⟨a,0,none⟩)]] #[]],0⟩,⟨.int .u8 2,.agg #[.func (.func 78) #[.agg #[.pointer (some ⟨d,0,none⟩),.pointer (some ⟨a,0,none⟩)]] #[],.func (.func 79) #[.agg #[.pointer (some ⟨d,0,none⟩),.pointer (some ⟨a,0,none⟩)]] #[]],1⟩,⟨.int .u8 5,.agg #[.func (.func 80) #[.agg #[.pointer (some ⟨d,0,none⟩),.pointer (some ⟨a,0,none⟩)]] #[],.func (.func 80) #[.agg #[.pointer (some ⟨d,0,none⟩),.pointer (some ⟨a,0,none⟩)]] #[]],2⟩,⟨.int .u8 15,.agg #[.func (.func 81) #[.agg #[.pointer (some ⟨d,0,none⟩),.pointer (some ⟨a,0,none⟩)]] #[],.func (.func 82) #[.agg #[.pointer (some ⟨d,0,none⟩),.pointer (some ⟨a,0,none⟩)]] #[]],3⟩] (dK _ _ (by intro e he;simp only[List.mem_cons,List.not_mem_nil,or_false] at he;obtain⟨z1,z2,z5,dA⟩:=hk;rcases he with rfl | rfl | rfl | rfl<;>exact⟨_,rfl,fun h=>by simp_all⟩)))) B c (.agg #[.nilFunc,.nilFunc]) none<|Pl 3<|L0<|bz #[.nilFunc,.nilFunc] fun dB dC cA cB cC=>L0<|b6 cB #[.nilFunc,.nilFunc] fun dD dE cD=>Pl 1<|nt<|sq<|sg<|Pl 2<|nt<|c1<|?_
 refine sg<|Pl 1<|?_
 have bC:=ud cC cD cA
 refine L0<|b6 (ub (aE i (aE j bC)) k) mZ fun dF cE cG=>Pl 1<|nt<|rt<|tr<|cc cE (.int .i64 4)<|?_
 have hs:al aJ 1 c b=(bf.zero,4):=by
   unfold al aJ
   (try simp only[bs,if_true,if_false,decide_true,decide_false,eq_self,true_or,or_true,or_false,false_or,if_true,if_false,cJ,cK,cF,cI,reduceIte,k1,k2,k5,l])
   all_goals rfl
 rw[hs]
 exact bE (ud E (uz bC cG) n)
theorem ip{m:Bool}{A:Option Addr}{cp:Nat}{b:List Int}{w:World}{dir c:Int}(hcode:B8 c)(hsl:aM m w (.slice A b.length cp) b)(hb:b.length≤1048576)(hd:¬ (dir=0∨dir=1)) :
    Calls Tryz.prog 58 #[.int .i64 dir,.int .u8 c,.slice A b.length cp] w (cO (al aJ dir c b) w):=by
 obtain⟨hcode1,hcode2⟩:=hcode
 have hln:(b.length:Int)≤1048576:=by omega
 have e0:(dir != 0)=true:=by simp;omega
 have e1:(dir != 1)=true:=by simp;omega
 refine en 72 Tryz.func58 rfl<|sg<|L0<|bz mZ fun g h a d e=>Pl 1<|nt<|sq<|sg<|Pl 3<|sy 16 e0<|Pl 3<|nl<|?_
 refine tn<|ct e1<|sg<|Pl 1<|L0<|b6 d mZ fun i dq f=>Pl 1<|nt<|rt<|tr<|cc dq (.int .i64 1)<|?_
 have hs:al aJ dir c b=(bf.zero,1):=by
   unfold al aJ
   (try simp only[e0,e1,bs,if_true,if_false,decide_true,decide_false,eq_self,true_or,or_true,or_false,false_or,if_true,if_false,cJ,cK,cF,cI,reduceIte,hd])
   all_goals rfl
 rw[hs]
 exact bE (ud e f a)
theorem ka{m:Bool}{v:Value}{b:List Int}{w:World}{dir c:Int}(hc:B8 c)(h:aM m w v b)(hb:b.length≤1048576) :
    Calls Tryz.prog 58 #[.int .i64 dir,.int .u8 c,v] w (cO (al aJ dir c b) w):=by
  obtain⟨A,cp,rfl,_,_⟩:=h.shape
  by_cases h0:dir=0
  · subst h0;exact ik hc h hb
  by_cases h1:dir=1
  · subst h1;exact ig hc h hb
  exact ip hc h hb (by omega)
open Go.RowKit
def cR (c:ak) : ak:=(c.wordsC 1).need (c.wordV==0 || c.wordV==65535) 6
theorem rU{v:Int}(h:0≤v∧v<65536) : bits .and .u16 v 255=v%256:=by
  rw[u16_and v 255 h.1 h.2 (by decide) (by decide)]
  show((v.toNat &&& (2 ^ 8-1) : Nat) : Int)=_
  rw[Nat.and_two_pow_sub_one_eq_mod]
  omega
def fo (dir sub v:Int) : Bool:=if (sub==2 || (decide (11≤sub)&&decide (sub≤18)))&&dir==1 then true else if sub==1 then v==0 || v==65280 else if sub==3 then v%256==0 else v==0
theorem jJ{g:Nat}{c:ak}{w:World}(hc:ae w g c) :
    Calls Tryz.prog 123 #[.pointer (some ⟨g,0,none⟩)] w (iI g .u16 65536 c.wordV (cR c) w):=by
 have hr:=hc.wordV
 refine en 15 Tryz.func123 rfl<|sg<|Pl 1<|ng<|Pl 1<|L0<|Oc<|m3 (bh hc) fun l d e m=>Pl 1<|nt<|sq<|?_
 refine go<|Pl 4<|cu 3 [9] 12 (((c.wordV==0)||(c.wordV==65535))) (fun K b=>?_) ?_
 refine bl 9 ((c.wordV==0)) (fun a=>?_) (fun a=>?_)
 have f:=aA a
 exact Pl 3<|ce b true (by rw[a];rfl)
 have f:=aG a
 exact Pl 3<|ce b (c.wordV==65535) (by rw[a];rfl)
 refine L0<|Oc<|m2 (aL (((c.wordV==0)||(c.wordV==65535))) 6 d) fun n h i=>?_
 refine ab h fun x19 j k=>?_
 refine ng<|Pl 2<|nt<|rt<|rr (.int .u16 c.wordV)<|?_
 subst j
 exact⟨rfl,k,(u1 e i im),hr⟩
theorem pj{v:Int}{w:World}:Calls Tryz.prog 137 #[.int .u16 v] w (bg (.bool (v==0 || v==65280)) w):=by
 refine en 9 Tryz.func137 rfl<|sg<|Pl 1<|ng<|Pl 3<|cu 3 [5] 8 (((v==0)||(v==65280))) (fun K b=>?_) ?_
 refine bl 5 ((v==0)) (fun a=>?_) (fun a=>?_)
 have c:=aA a
 exact Pl 3<|ce b true (by rw[a];rfl)
 have c:=aG a
 exact Pl 3<|ce b (v==65280) (by rw[a];rfl)
 refine Pl 1<|nt<|rt<|rr (.bool ((v==0)||(v==65280)))<|?_
 exact⟨rfl,(au.refl [] _)⟩
theorem oN{v:Int}{w:World}(hv:0≤v∧v<65536) : Calls Tryz.prog 138 #[.int .u16 v] w (bg (.bool (v%256==0)) w):=by
 refine en 6 Tryz.func138 rfl<|sg<|Pl 1<|ng<|Pl 1<|L0<|Oe (.int .u16 (bits .and .u16 v 255)) (.int .u16 (v%256)) (congrArg (Value.int .u16) (rU (by omega)))<|Pl 2<|nt<|rt<|?_
 refine rr (.bool ((v%256)==0))<|?_
 exact⟨rfl,(au.refl [] _)⟩
theorem oC{v x:Int}{gb:Nat}{w:World}(hB:w.heap[gb]? = some (.cells #[.int .u16 v] 22 (0,0))) : Calls Tryz.prog 136 #[.int .u16 x,.pointer (some ⟨gb,0,none⟩)] w (bg (.bool (v==0)) w):=by
 refine en 6 Tryz.func136 rfl<|sg<|Pl 1<|ng<|L0<|aR hB 0<|Pl 2<|nt<|rt<|rr (.bool (v==0))<|?_
 exact⟨rfl,(au.refl [] _)⟩
theorem t7{dir v:Int}{w:World}(hv:0≤v∧v<65536) : Calls Tryz.prog 122 #[.int .i64 dir,.int .u16 1,.int .u16 v] w (bg (.bool (fo dir 1 v)) w):=by
 refine en 42 Tryz.func122 rfl<|sg<|L0<|cW #[.int .u16 v] fun l m n b c=>Pl 1<|ng<|Pl 2<|ng<|?_
 refine L0<|qG fun o p d e f=>L0<|eo e 1 fun q g h=>L0<|eo g 3 fun r i j=>Pl 2<|ng<|Pl 11<|nt<|sq<|sg<|?_
 refine Pl 5<|nt<|c0<|bB<|sg<|Pl 2<|L0<|j3 i 1 (.nilFunc) (some (0,.func (.func 137) #[] #[]))<|Pl 5<|nt<|sq<|?_
 refine sg<|Pl 2<|nt<|c0<|bB<|sg<|Pl 1<|?_
 have a:=ud f (u1 h j im) d
 refine L0<|aR (ub a b) 0<|L0<|eP #[] #[] (args:=#[.int .u16 v])<|m1 (pj) fun s k=>Pl 1<|nt<|rt<|rr (.bool (v==0 || v==65280))<|?_
 have hs:fo dir 1 v=(v==0 || v==65280):=by
   unfold fo
   (try simp only[bs,if_true,if_false,decide_true,decide_false,reduceIte])
   all_goals rfl
 rw[hs]
 exact⟨rfl,(aE c (aE a k))⟩
theorem t8{dir v:Int}{w:World}(hv:0≤v∧v<65536) : Calls Tryz.prog 122 #[.int .i64 dir,.int .u16 3,.int .u16 v] w (bg (.bool (fo dir 3 v)) w):=by
 refine en 42 Tryz.func122 rfl<|sg<|L0<|cW #[.int .u16 v] fun l m n b c=>Pl 1<|ng<|Pl 2<|ng<|?_
 refine L0<|qG fun o p d e f=>L0<|eo e 1 fun q g h=>L0<|eo g 3 fun r i j=>Pl 2<|ng<|Pl 11<|nt<|sq<|sg<|?_
 refine Pl 5<|nt<|c0<|bB<|sg<|Pl 2<|L0<|j3 i 3 (.nilFunc) (some (1,.func (.func 138) #[] #[]))<|Pl 5<|nt<|sq<|?_
 refine sg<|Pl 2<|nt<|c0<|bB<|sg<|Pl 1<|?_
 have a:=ud f (u1 h j im) d
 refine L0<|aR (ub a b) 0<|L0<|eP #[] #[] (args:=#[.int .u16 v])<|m1 (oN hv) fun s k=>Pl 1<|nt<|rt<|rr (.bool (v%256==0))<|?_
 have hs:fo dir 3 v=(v%256==0):=by
   unfold fo
   (try simp only[bs,if_true,if_false,decide_true,decide_false,reduceIte])
   all_goals rfl
 rw[hs]
 exact⟨rfl,(aE c (aE a k))⟩
theorem sS{dir sub v:Int}{w:World}(hv:0≤v∧v<65536)(h1:sub≠1)(h3:sub≠3) : Calls Tryz.prog 122 #[.int .i64 dir,.int .u16 sub,.int .u16 v] w (bg (.bool (fo dir sub v)) w):=by
 have n1:(sub==1)=false:=by simpa using h1
 have n3:(sub==3)=false:=by simpa using h3
 refine en 42 Tryz.func122 rfl<|sg<|L0<|cW #[.int .u16 v] fun f G H o p=>Pl 1<|ng<|Pl 2<|ng<|?_
 refine L0<|qG fun I J r s t=>L0<|eo s 1 fun L u y=>L0<|eo u 3 fun M z A=>Pl 2<|ng<|Pl 3<|cu 7 [17] 24 (((sub==2)||((decide (11≤sub))&&(decide (sub≤18))))) (fun K g=>?_) ?_
 refine bl 17 ((sub==2)) (fun a=>?_) (fun a=>?_)
 have B:=aA a
 exact Pl 7<|ce g true (by rw[a];rfl)
 have B:=aG a
 refine Pl 3<|cu 3 [20] 23 (((decide (11≤sub))&&(decide (sub≤18)))) (fun K i=>?_) ?_
 refine bl 20 ((decide (11≤sub))) (fun b=>?_) (fun b=>?_)
 have C:=of_decide_eq_true b
 exact Pl 3<|ce i (decide (sub≤18)) (by rw[b];rfl)
 have C:=of_decide_eq_false b
 exact Pl 3<|ce i false (by rw[b];rfl)
 exact Pl 1<|ce g ((decide (11≤sub))&&(decide (sub≤18))) (by rw[a];rfl)
 refine Pl 1<|nt<|sq<|sg<|Pl 2<|cu 3 [26] 29 ((((sub==2)||((decide (11≤sub))&&(decide (sub≤18))))&&(dir==1))) (fun K j=>?_) ?_
 refine bl 26 (((sub==2)||((decide (11≤sub))&&(decide (sub≤18))))) (fun c=>?_) (fun c=>?_)
 exact Pl 3<|ce j (dir==1) (by rw[c];rfl)
 have D:=(aC c).1
 have N:=(aC c).2
 have O:=aG D
 exact Pl 3<|ce j false (by rw[c];rfl)
 refine nt<|?_
 have k:=ud t (u1 y A im) r
 have l:=aE p k
 refine cb ((((sub==2)||((decide (11≤sub))&&(decide (sub≤18))))&&(dir==1))) (fun d=>?_) (fun d=>?_)
 have E:=(bM d).1
 have m:=(bM d).2
 have P:=aA m
 refine sg<|Pl 1<|nt<|rt<|tr<|rr (.bool true)<|?_
 have hs:fo dir sub v=true:=by
   unfold fo
   (try simp only[d,E,m,bs,if_true,if_false,decide_true,decide_false,n1,n3,reduceIte])
   all_goals rfl
 rw[hs]
 exact⟨rfl,l⟩
 refine bB<|sg<|Pl 2<|L0<|j3 (hf:=(tS (q:=.u16) (x:=sub) #[⟨.int .u16 1,.func (.func 137) #[] #[],0⟩,⟨.int .u16 3,.func (.func 138) #[] #[],1⟩] (dK _ _ (by intro e he;simp only[List.mem_cons,List.not_mem_nil,or_false] at he;rcases he with rfl | rfl;exact⟨_,rfl,fun h=>h1 h.symm⟩;exact⟨_,rfl,fun h=>h3 h.symm⟩)))) z sub (.nilFunc) none<|Pl 5<|nt<|sq<|sg<|Pl 2<|nl<|?_
 refine tn<|c1<|go<|Pl 2<|ng<|Pl 1<|?_
 have n:=ub k o
 refine L0<|aR n 0<|L0<|eP #[] #[.pointer (some ⟨f,0,none⟩)] (args:=#[.int .u16 v,.pointer (some ⟨f,0,none⟩)])<|m1 (oC n) fun Q F=>Pl 1<|nt<|rt<|rr (.bool (v==0))<|?_
 have hs:fo dir sub v=(v==0):=by
   unfold fo
   (try simp only[d,bs,if_true,if_false,decide_true,decide_false,n1,n3,reduceIte])
   all_goals rfl
 rw[hs]
 exact⟨rfl,(aE l F)⟩
theorem qe{dir sub v:Int}{w:World}(hv:0≤v∧v<65536) : Calls Tryz.prog 122 #[.int .i64 dir,.int .u16 sub,.int .u16 v] w (bg (.bool (fo dir sub v)) w):=by
  by_cases h1:sub=1
  · subst h1;exact t7 hv
  by_cases h3:sub=3
  · subst h3;exact t8 hv
  exact sS hv h1 h3
open Go.RowKit
def eI (dir:Int)(C:ak) : ak:=(C.wordsC 1).need (dX C.wordV&&(dir==0 || C.wordV != 4)) 8
def jW (C:ak) : ak:=C.need (((C.l.length:Int)%2==0&&decide (2≤(C.l.length:Int)))&&decide ((C.l.length:Int)≤250)) 5
def dj (dir c:Int)(C:ak) : ak × bf :=
  if C.wordV != 0 then (((eI dir C).wordsC 1).need ((((eI dir C).wordsR 1).length:Int)==1&&fo dir C.wordV (((eI dir C).wordsR 1).getD 0 0)) 6,{ bf.zero with code:=c,sub:=C.wordV,words:=(eI dir C).wordsR 1 })
  else ((jW (eI dir C)).wordsC (((eI dir C).l.length:Int)/2),{ bf.zero with code:=c,sub:=C.wordV,words:=(jW (eI dir C)).wordsR (((eI dir C).l.length:Int)/2) })
def ic (C:ak)(lo hi:Int) : ak:=(C.bytesC 1).need (decide (lo≤C.byteV)&&decide (C.byteV≤hi)) 5
def hH (C:ak) : ak:=((cR (ic C 6 70)).wordsC 1).wordsC 1
def bp (c:Int)(C:ak) : ak × bf :=
  if c==7 then (C.bytesC 1,{ bf.zero with code:=c,value:=C.byteV })
  else if c==11 then ((cR C).wordsC 1,{ bf.zero with code:=c,status:=C.wordV,events:=(cR C).wordV })
  else if c==12 then ((hH C).bytesC (C.byteV-6),{ bf.zero with code:=c,status:=(ic C 6 70).wordV,events:=(cR (ic C 6 70)).wordV,messages:=((cR (ic C 6 70)).wordsC 1).wordV,data:=(hH C).bytesR (C.byteV-6) })
  else if c==17 then ((ic C 1 251).bytesC C.byteV,{ bf.zero with code:=c,data:=(ic C 1 251).bytesR C.byteV })
  else (C,{ bf.zero with code:=c })
theorem jT{g gm:Nat}{dir c:Int}{C:ak}{w:World}(hcode:B8 c)(hC:ae w g C)(hm:w.heap[gm]? = some (.cells #[.int .u8 c,.int .u8 0,.int .u16 0,.int .u16 0,.int .u16 0,.int .u16 0,.int .u16 0,.int .u16 0,.int .u16 0,.int .u16 0,.int .u16 0,.int .u16 0,.slice none 0 0,.slice none 0 0,.slice none 0 0,.slice none 0 0,.int .u8 0,.int .u8 0,.int .u8 0,.int .u8 0,.int .u8 0,.slice none 0 0] 31 (0,0)))(hne:g≠gm) :
    Calls Tryz.prog 88 #[.int .i64 dir,.pointer (some ⟨g,0,none⟩),.pointer (some ⟨gm,0,none⟩)] w (bD g gm (dj dir c C).1 (dj dir c C).2 w):=by
 obtain⟨hcode1,hcode2⟩:=hcode
 have hlen:=hC.len
 refine en 84 Tryz.func88 rfl<|sg<|Pl 2<|L0<|Oc<|m3 (bh hC) fun aZ a4 t b0=>Pl 2<|?_
 have J:=aO t (Ne.symm hne) hm
 refine L0<|bO J 8 (mG c 0 0 0 0 0 0 0 C.wordV 0 0 0 nS nS nS nS 0 0 0 0 0 nS) fun b1 dq L=>ng<|Pl 4<|L0<|aR dq 8<|L0<|Oc<|m1 (oK (x:=C.wordV) (w:=_)) fun b2 r=>Pl 1<|cu 10 [18] 28 (((dX C.wordV)&&((dir==0)||(C.wordV != 4)))) (fun K M=>?_) ?_
 refine bl 18 ((dX C.wordV)) (fun u=>?_) (fun u=>?_)
 refine Pl 3<|cu 6 [21] 27 (((dir==0)||(C.wordV != 4))) (fun K N=>?_) ?_
 refine bl 21 ((dir==0)) (fun j=>?_) (fun j=>?_)
 have a5:=aA j
 exact Pl 6<|ce N true (by rw[j];rfl)
 have a5:=aG j
 refine Pl 3<|?_
 exact L1<|aR (ub r dq) 8<|Pl 2<|ce N (C.wordV != 4) (by rw[j];rfl)
 exact Pl 1<|ce M ((dir==0)||(C.wordV != 4)) (by rw[u];rfl)
 exact Pl 10<|ce M false (by rw[u];rfl)
 have O:=aE L r
 refine L0<|Oc<|m2 (aL (((dX C.wordV)&&((dir==0)||(C.wordV != 4)))) 8 (ae.upd a4 O (aa hne ax) (ah (aD J (by decide)) az))) fun b3 a6 y=>?_
 refine ab a6 fun x30 z s=>?_
 refine nt<|sq<|sg<|Pl 3<|?_
 have A:=aO (uz r y) (Ne.symm hne) dq
 refine L0<|aR A 8<|Pl 1<|nt<|?_
 have d:=ui t (us O y)
 refine cb ((C.wordV != 0)) (fun f=>?_) (fun f=>?_)
 have a7:=ay f
 refine sg<|Pl 2<|L0<|Oc<|mw (cH (n:=1) s) fun P Q b4 i b5 b6 R S=>Pl 2<|?_
 have B:=aO S (Ne.symm hne) A
 refine L0<|bO B 12 (mG c 0 0 0 0 0 0 0 C.wordV 0 0 0 (.slice P ((x30.wordsR 1).length) Q) nS nS nS 0 0 0 0 0 nS) fun b7 a8 a9=>nt<|sq<|Rg 22 (fun w'=>w'.cell? ⟨gm,12,none⟩=some (.slice P ((x30.wordsR 1).length) Q)∧w'.cell? ⟨gm,8,none⟩=some (.int .u16 C.wordV)) fun b9 T=>?_
 have b:=ub T a8
 refine be ⟨(ai b rfl),(ai b rfl)⟩ fun a=>Rt 0 a<|Rt 1 a<|Rt 2 a<|Rt 3 a<|Rl 4 a (fun _ hs=>hs.1)<|Rt 5 a<|Rt 6 a<|Rt 7 a<|?_
 have k:=aE a9 T
 have U:=ut d (us S k) (ac im (ac im av))
 refine tM 47 (((((x30.wordsR 1).length:Nat) : Int)==1)) (fun m=>?_) (fun m=>?_)
 have ad:=aA m
 refine Rt 8 a<|Rt 9 a<|Rt 10 a<|Rt 11 a<|Rl 12 a (fun _ hs=>hs.2)<|Rt 13 a<|Rt 14 a<|Rt 15 a<|Rl 16 a (fun _ hs=>hs.1)<|?_
 have V:=am i k (fun x hx=>(aa (fun e=>(aq (aj hm) d.size i) (e▸hx)) ax)) (fun _ _ h=>h)
 refine fE (dJ.at_ (V).rd 0 (by omega)) fun af al an ao ba=>R0 17 rfl<|mN ((x30.wordsR 1).length) 0 an (by omega)<|be ⟨(ai b rfl),(ai b rfl)⟩ fun bb=>R0 18 rfl<|jx (p:=⟨af,al+0,none⟩) (v:=.int .u16 ((x30.wordsR 1).getD 0 0)) ao<|be ⟨(ai b rfl),(ai b rfl)⟩ fun bc=>R0 19 rfl<|Oc<|m1 (qe (dir:=dir) (sub:=C.wordV) (v:=((x30.wordsR 1).getD 0 0)) (by omega)) fun bd D=>?_
 have E:=ub D b
 refine be ⟨(ai E rfl),(ai E rfl)⟩ fun ap=>Rt 20 ap<|?_
 refine R0 21 rfl<|Oc<|m2 (aL ((fo dir C.wordV ((x30.wordsR 1).getD 0 0))) 6 (ae.upd R (aE k D) (aa hne ax) (ah (aD B (by decide)) az))) fun bg ar W=>?_
 refine ab ar fun bi aw aC=>?_
 have F:=aO W (Ne.symm hne) E
 refine be ⟨(ai F rfl),(ai F rfl)⟩ fun bj=>re<|tn<|rt<|tr<|rr (.tuple #[])<|?_
 subst aw z
 have X:=uz D W
 have hs:dj dir c C=(((((C.wordsC 1).need ((dX C.wordV)&&((dir==0)||(C.wordV != 4))) 8).wordsC 1).need (fo dir C.wordV ((((C.wordsC 1).need ((dX C.wordV)&&((dir==0)||(C.wordV != 4))) 8).wordsR 1).getD 0 0)) 6),(bf.mk c 0 0 0 0 0 0 0 C.wordV 0 0 0 (((C.wordsC 1).need ((dX C.wordV)&&((dir==0)||(C.wordV != 4))) 8).wordsR 1) [] [] [] 0 0 0 0 0 [])):=by
   unfold dj eI jW
   (try simp only[f,m,bs,if_true,if_false,decide_true,decide_false,reduceIte])
   all_goals rfl
 rw[hs]
 exact⟨rfl,aC,⟨_,⟨F,rfl⟩,⟨_,_,_,_,_,rfl,((am V X (fun x hx=>(aa (fun e=>(aq (ae.lt hC) d.size i) (e▸hx)) ax)) (fun _ _ h=>h))).rd,aH.nil ..,aH.nil ..,aH.nil ..,aH.nil ..,⟨(b8 (x:=c) (by omega)),(b8 (x:=0) (by omega)),(aB (x:=0) (by omega)),(aB (x:=0) (by omega)),(aB (x:=0) (by omega)),(aB (x:=0) (by omega)),(aB (x:=0) (by omega)),(aB (x:=0) (by omega)),(aB (x:=C.wordV) (by omega)),(aB (x:=0) (by omega)),(aB (x:=0) (by omega)),(aB (x:=0) (by omega)),(b8 (x:=0) (by omega)),(b8 (x:=0) (by omega)),(b8 (x:=0) (by omega)),(b8 (x:=0) (by omega)),(b8 (x:=0) (by omega))⟩⟩⟩,(au.mono (S':=[g,gm]) (u1 U X im) (rX (Or.inl (by simp)) (Or.inl (by simp))))⟩
 have ad:=aG m
 refine Ro 8 a<|Ro 9 a<|Ro 10 a<|Ro 11 a<|Ro 12 a<|Ro 13 a<|Ro 14 a<|Ro 15 a<|Ro 16 a<|Ro 17 a<|Ro 18 a<|Ro 19 a<|Rt 20 a<|?_
 refine R0 21 rfl<|Oc<|m2 (aL (false) 6 (ae.upd R k (aa hne ax) (ah (aD B (by decide)) az))) fun bk aF G=>?_
 have H:=aO G (Ne.symm hne) b
 refine be ⟨(ai H rfl),(ai H rfl)⟩ fun bm=>re<|tn<|rt<|tr<|rr (.tuple #[])<|?_
 subst z
 have hs:dj dir c C=(((((C.wordsC 1).need ((dX C.wordV)&&((dir==0)||(C.wordV != 4))) 8).wordsC 1).need false 6),(bf.mk c 0 0 0 0 0 0 0 C.wordV 0 0 0 (((C.wordsC 1).need ((dX C.wordV)&&((dir==0)||(C.wordV != 4))) 8).wordsR 1) [] [] [] 0 0 0 0 0 [])):=by
   unfold dj eI jW
   (try simp only[f,m,bs,if_true,if_false,decide_true,decide_false,reduceIte])
   all_goals rfl
 rw[hs]
 exact⟨rfl,aF,⟨_,⟨H,rfl⟩,⟨_,_,_,_,_,rfl,((am i (us k G) (fun x hx=>(aa (fun e=>(aq (aj hm) d.size i) (e▸hx)) (aa (fun e=>(aq (ae.lt hC) d.size i) (e▸hx)) ax))) (fun _ _ h=>h))).rd,aH.nil ..,aH.nil ..,aH.nil ..,aH.nil ..,⟨(b8 (x:=c) (by omega)),(b8 (x:=0) (by omega)),(aB (x:=0) (by omega)),(aB (x:=0) (by omega)),(aB (x:=0) (by omega)),(aB (x:=0) (by omega)),(aB (x:=0) (by omega)),(aB (x:=0) (by omega)),(aB (x:=C.wordV) (by omega)),(aB (x:=0) (by omega)),(aB (x:=0) (by omega)),(aB (x:=0) (by omega)),(b8 (x:=0) (by omega)),(b8 (x:=0) (by omega)),(b8 (x:=0) (by omega)),(b8 (x:=0) (by omega)),(b8 (x:=0) (by omega))⟩⟩⟩,(au.mono (S':=[g,gm]) (u1 U G im) (rX (Or.inl (by simp)) (Or.inl (by simp))))⟩
 have a7:=ag f
 refine bB<|sg<|Pl 1<|L0<|Oc<|mq (cE s)<|?_
 have bn:=ae.len s
 refine Pl 1<|ng<|Pl 2<|L0<|Oe (.int .i64 (Int.tmod ((x30.l.length:Nat) : Int) 2)) (.int .i64 (((x30.l.length:Nat) : Int)%2)) (congrArg (Value.int .i64) (Int.tmod_eq_emod_of_nonneg (by omega)))<|Pl 2<|cu 3 [68] 71 ((((((x30.l.length:Nat) : Int)%2)==0)&&(decide (2≤((x30.l.length:Nat) : Int))))) (fun K Y=>?_) ?_
 refine bl 68 (((((x30.l.length:Nat) : Int)%2)==0)) (fun o=>?_) (fun o=>?_)
 have aI:=aA o
 exact Pl 3<|ce Y (decide (2≤((x30.l.length:Nat) : Int))) (by rw[o];rfl)
 have aI:=aG o
 exact Pl 3<|ce Y false (by rw[o];rfl)
 refine Pl 1<|cu 3 [72] 75 (((((((x30.l.length:Nat) : Int)%2)==0)&&(decide (2≤((x30.l.length:Nat) : Int))))&&(decide (((x30.l.length:Nat) : Int)≤250)))) (fun K Z=>?_) ?_
 refine bl 72 ((((((x30.l.length:Nat) : Int)%2)==0)&&(decide (2≤((x30.l.length:Nat) : Int))))) (fun q=>?_) (fun q=>?_)
 have aJ:=(bM q).1
 have aK:=(bM q).2
 have bo:=aA aJ
 have bp:=of_decide_eq_true aK
 exact Pl 3<|ce Z (decide (((x30.l.length:Nat) : Int)≤250)) (by rw[q];rfl)
 exact Pl 3<|ce Z false (by rw[q];rfl)
 refine L0<|Oc<|m2 (aL (((((((x30.l.length:Nat) : Int)%2)==0)&&(decide (2≤((x30.l.length:Nat) : Int))))&&(decide (((x30.l.length:Nat) : Int)≤250)))) 5 s) fun bq aM a0=>?_
 refine ab aM fun aN aP aQ=>?_
 refine nt<|go<|Pl 3<|L0<|Oe (.int .i64 (IntKind.i64.wrap (Int.tdiv ((x30.l.length:Nat) : Int) 2))) (.int .i64 (((x30.l.length:Nat) : Int)/2)) (congrArg (Value.int .i64) (mt (by omega) (by omega)))<|L0<|Oc<|mw (cH (n:=(((x30.l.length:Nat) : Int)/2)) aQ) fun aS aT br a1 bt bu aU aV=>?_
 refine ab aU fun bv aW aX=>?_
 refine Pl 2<|?_
 have a2:=u1 a0 aV im
 have a3:=aO a2 (Ne.symm hne) A
 refine L0<|bO a3 12 (mG c 0 0 0 0 0 0 0 C.wordV 0 0 0 (.slice aS ((aN.wordsR (((x30.l.length:Nat) : Int)/2)).length) aT) nS nS nS 0 0 0 0 0 nS) fun bw aY I=>nl<|rm (.tuple #[])<|?_
 subst aW aP z
 have hs:dj dir c C=(((((C.wordsC 1).need ((dX C.wordV)&&((dir==0)||(C.wordV != 4))) 8).need ((((((((C.wordsC 1).need ((dX C.wordV)&&((dir==0)||(C.wordV != 4))) 8).l.length:Nat) : Int)%2)==0)&&(decide (2≤((((C.wordsC 1).need ((dX C.wordV)&&((dir==0)||(C.wordV != 4))) 8).l.length:Nat) : Int))))&&(decide (((((C.wordsC 1).need ((dX C.wordV)&&((dir==0)||(C.wordV != 4))) 8).l.length:Nat) : Int)≤250))) 5).wordsC (((((C.wordsC 1).need ((dX C.wordV)&&((dir==0)||(C.wordV != 4))) 8).l.length:Nat) : Int)/2)),(bf.mk c 0 0 0 0 0 0 0 C.wordV 0 0 0 ((((C.wordsC 1).need ((dX C.wordV)&&((dir==0)||(C.wordV != 4))) 8).need ((((((((C.wordsC 1).need ((dX C.wordV)&&((dir==0)||(C.wordV != 4))) 8).l.length:Nat) : Int)%2)==0)&&(decide (2≤((((C.wordsC 1).need ((dX C.wordV)&&((dir==0)||(C.wordV != 4))) 8).l.length:Nat) : Int))))&&(decide (((((C.wordsC 1).need ((dX C.wordV)&&((dir==0)||(C.wordV != 4))) 8).l.length:Nat) : Int)≤250))) 5).wordsR (((((C.wordsC 1).need ((dX C.wordV)&&((dir==0)||(C.wordV != 4))) 8).l.length:Nat) : Int)/2)) [] [] [] 0 0 0 0 0 [])):=by
   unfold dj eI jW
   (try simp only[f,bs,if_true,if_false,decide_true,decide_false,reduceIte])
   all_goals rfl
 rw[hs]
 exact⟨rfl,(ae.upd aX I (aa hne ax) (ah (aD a3 (by decide)) az)),⟨_,⟨aY,rfl⟩,⟨_,_,_,_,_,rfl,((am a1 I (fun x hx=>(aa (fun e=>(aq (aj hm) (le (le (le (le t.size L.size) r.size) y.size) a0.size) a1) (e▸hx)) ax)) (fun _ _ h=>h))).rd,aH.nil ..,aH.nil ..,aH.nil ..,aH.nil ..,⟨(b8 (x:=c) (by omega)),(b8 (x:=0) (by omega)),(aB (x:=0) (by omega)),(aB (x:=0) (by omega)),(aB (x:=0) (by omega)),(aB (x:=0) (by omega)),(aB (x:=0) (by omega)),(aB (x:=0) (by omega)),(aB (x:=C.wordV) (by omega)),(aB (x:=0) (by omega)),(aB (x:=0) (by omega)),(aB (x:=0) (by omega)),(b8 (x:=0) (by omega)),(b8 (x:=0) (by omega)),(b8 (x:=0) (by omega)),(b8 (x:=0) (by omega)),(b8 (x:=0) (by omega))⟩⟩⟩,(au.mono (S':=[g,gm]) (ut d (us a2 I) (ac im (ac im av))) (rX (Or.inl (by simp)) (Or.inl (by simp))))⟩
theorem et{g gm:Nat}{c:Int}{C:ak}{w:World}(hcode:B8 c)(hC:ae w g C)(hm:w.heap[gm]? = some (.cells #[.int .u8 c,.int .u8 0,.int .u16 0,.int .u16 0,.int .u16 0,.int .u16 0,.int .u16 0,.int .u16 0,.int .u16 0,.int .u16 0,.int .u16 0,.int .u16 0,.slice none 0 0,.slice none 0 0,.slice none 0 0,.slice none 0 0,.int .u8 0,.int .u8 0,.int .u8 0,.int .u8 0,.int .u8 0,.slice none 0 0] 31 (0,0)))(hne:g≠gm) :
    Calls Tryz.prog 89 #[.pointer (some ⟨g,0,none⟩),.pointer (some ⟨gm,0,none⟩)] w (bD g gm (bp c C).1 (bp c C).2 w):=by
 obtain⟨hcode1,hcode2⟩:=hcode
 have hlen:=hC.len
 refine en 84 Tryz.func89 rfl<|sg<|Pl 3<|L0<|aR hm 0<|nt<|bk<|sg<|Pl 2<|nt<|cb ((c==7)) (fun a=>?_) (fun a=>?_)
 have N:=aA a
 refine go<|Pl 2<|L0<|Oc<|m3 (bi hC) fun aS O m aT=>L0<|vv C.byteV<|Pl 2<|?_
 have o:=aO m (Ne.symm hne) hm
 refine L0<|bO o 4 (mG c 0 0 0 C.byteV 0 0 0 0 0 0 0 nS nS nS nS 0 0 0 0 0 nS) fun aU P p=>nl<|bn<|rm (.tuple #[])<|?_
 have hs:bp c C=((C.bytesC 1),(bf.mk c 0 0 0 C.byteV 0 0 0 0 0 0 0 [] [] [] [] 0 0 0 0 0 [])):=by
   unfold bp hH ic
   (try simp only[a,bs,if_true,if_false,decide_true,decide_false,reduceIte])
   all_goals rfl
 rw[hs]
 exact⟨rfl,(ae.upd O p (aa hne ax) (ah (aD o (by decide)) az)),⟨_,⟨P,rfl⟩,⟨_,_,_,_,_,rfl,aH.nil ..,aH.nil ..,aH.nil ..,aH.nil ..,aH.nil ..,⟨(b8 (x:=c) (by omega)),(b8 (x:=0) (by omega)),(aB (x:=0) (by omega)),(aB (x:=0) (by omega)),(aB (x:=C.byteV) (by omega)),(aB (x:=0) (by omega)),(aB (x:=0) (by omega)),(aB (x:=0) (by omega)),(aB (x:=0) (by omega)),(aB (x:=0) (by omega)),(aB (x:=0) (by omega)),(aB (x:=0) (by omega)),(b8 (x:=0) (by omega)),(b8 (x:=0) (by omega)),(b8 (x:=0) (by omega)),(b8 (x:=0) (by omega)),(b8 (x:=0) (by omega))⟩⟩⟩,(us m p)⟩
 have N:=aG a
 refine sg<|Pl 2<|nt<|cb ((c==11)) (fun b=>?_) (fun b=>?_)
 have Q:=aA b
 refine sg<|Pl 2<|L0<|Oc<|m3 (jJ hC) fun aV R q aW=>Pl 2<|?_
 have r:=aO q (Ne.symm hne) hm
 refine L0<|bO r 9 (mG c 0 0 0 0 0 0 0 0 C.wordV 0 0 nS nS nS nS 0 0 0 0 0 nS) fun aX S s=>nt<|go<|Pl 2<|?_
 refine L0<|Oc<|m3 (bh (ae.upd R s (aa hne ax) (ah (aD r (by decide)) az))) fun aY T t aZ=>Pl 2<|?_
 have u:=aO t (Ne.symm hne) S
 refine L0<|bO u 10 (mG c 0 0 0 0 0 0 0 0 C.wordV ((cR C).wordV) 0 nS nS nS nS 0 0 0 0 0 nS) fun b0 U v=>nl<|bn<|rm (.tuple #[])<|?_
 have hs:bp c C=(((cR C).wordsC 1),(bf.mk c 0 0 0 0 0 0 0 0 C.wordV ((cR C).wordV) 0 [] [] [] [] 0 0 0 0 0 [])):=by
   unfold bp hH ic
   (try simp only[a,b,bs,if_true,if_false,decide_true,decide_false,reduceIte])
   all_goals rfl
 rw[hs]
 exact⟨rfl,(ae.upd T v (aa hne ax) (ah (aD u (by decide)) az)),⟨_,⟨U,rfl⟩,⟨_,_,_,_,_,rfl,aH.nil ..,aH.nil ..,aH.nil ..,aH.nil ..,aH.nil ..,⟨(b8 (x:=c) (by omega)),(b8 (x:=0) (by omega)),(aB (x:=0) (by omega)),(aB (x:=0) (by omega)),(aB (x:=0) (by omega)),(aB (x:=0) (by omega)),(aB (x:=0) (by omega)),(aB (x:=0) (by omega)),(aB (x:=0) (by omega)),(aB (x:=C.wordV) (by omega)),(aB (x:=(cR C).wordV) (by omega)),(aB (x:=0) (by omega)),(b8 (x:=0) (by omega)),(b8 (x:=0) (by omega)),(b8 (x:=0) (by omega)),(b8 (x:=0) (by omega)),(b8 (x:=0) (by omega))⟩⟩⟩,(ui q (ui s (us t v)))⟩
 have Q:=aG b
 refine sg<|Pl 2<|nt<|cb ((c==12)) (fun d=>?_) (fun d=>?_)
 have V:=aA d
 refine sg<|Pl 1<|L0<|Oc<|m3 (bi hC) fun b1 W X b2=>L0<|Oi C.byteV<|Pl 1<|ng<|Pl 4<|cu 3 [38] 41 (((decide (6≤C.byteV))&&(decide (C.byteV≤70)))) (fun K y=>?_) ?_
 refine bl 38 ((decide (6≤C.byteV))) (fun e=>?_) (fun e=>?_)
 have Y:=of_decide_eq_true e
 exact Pl 3<|ce y (decide (C.byteV≤70)) (by rw[e];rfl)
 have Y:=of_decide_eq_false e
 exact Pl 3<|ce y false (by rw[e];rfl)
 refine L0<|Oc<|m2 (aL (((decide (6≤C.byteV))&&(decide (C.byteV≤70)))) 5 W) fun b3 Z a0=>?_
 refine ab Z fun x53 a1 a2=>?_
 refine ng<|Pl 2<|L0<|Oc<|m3 (jJ a2) fun b4 a3 a4 b5=>Pl 2<|?_
 have z:=u1 X (u1 a0 a4 im) im
 have A:=aO z (Ne.symm hne) hm
 refine L0<|bO A 9 (mG c 0 0 0 0 0 0 0 0 x53.wordV 0 0 nS nS nS nS 0 0 0 0 0 nS) fun b6 a5 B=>ng<|Pl 3<|?_
 refine L0<|Oc<|m3 (bh (ae.upd a3 B (aa hne ax) (ah (aD A (by decide)) az))) fun b7 a6 a7 b9=>Pl 1<|L0<|Oc<|m3 (bh a6) fun ba a8 a9 bb=>?_
 refine ab a8 fun jA ac ad=>?_
 refine Pl 2<|?_
 have D:=u1 a7 a9 im
 have E:=aO D (Ne.symm hne) a5
 refine L0<|bO E 10 (mG c 0 0 0 0 0 0 0 0 x53.wordV ((cR x53).wordV) 0 nS nS nS nS 0 0 0 0 0 nS) fun bc af ag=>Pl 2<|L0<|bO af 11 (mG c 0 0 0 0 0 0 0 0 x53.wordV ((cR x53).wordV) (((cR x53).wordsC 1).wordV) nS nS nS nS 0 0 0 0 0 nS) fun bd ai aj=>nt<|go<|Pl 3<|L0<|Oi (C.byteV-6)<|?_
 have F:=u1 ag aj im
 have G:=ae.upd ad F (aa hne ax) (ah (aD E (by decide)) az)
 refine L0<|Oc<|nz (bC (n:=(C.byteV-6)) G) fun al am be an bg bj ao H=>?_
 have bm:=Nat.le_trans (ak.bytesR_le jA (C.byteV-6)) (ae.len G)
 refine Pl 2<|?_
 have i:=aO H (Ne.symm hne) ai
 refine L0<|bO i 14 (mG c 0 0 0 0 0 0 0 0 x53.wordV ((cR x53).wordV) (((cR x53).wordsC 1).wordV) nS nS (.slice al ((jA.bytesR (C.byteV-6)).length) am) nS 0 0 0 0 0 nS) fun bo ap j=>nl<|bn<|rm (.tuple #[])<|?_
 subst ac a1
 have hs:bp c C=(((((cR ((C.bytesC 1).need ((decide (6≤C.byteV))&&(decide (C.byteV≤70))) 5)).wordsC 1).wordsC 1).bytesC (C.byteV-6)),(bf.mk c 0 0 0 0 0 0 0 0 (((C.bytesC 1).need ((decide (6≤C.byteV))&&(decide (C.byteV≤70))) 5).wordV) ((cR ((C.bytesC 1).need ((decide (6≤C.byteV))&&(decide (C.byteV≤70))) 5)).wordV) (((cR ((C.bytesC 1).need ((decide (6≤C.byteV))&&(decide (C.byteV≤70))) 5)).wordsC 1).wordV) [] [] ((((cR ((C.bytesC 1).need ((decide (6≤C.byteV))&&(decide (C.byteV≤70))) 5)).wordsC 1).wordsC 1).bytesR (C.byteV-6)) [] 0 0 0 0 0 [])):=by
   unfold bp hH ic
   (try simp only[a,b,d,bs,if_true,if_false,decide_true,decide_false,reduceIte])
   all_goals rfl
 rw[hs]
 exact⟨rfl,(ae.upd ao j (aa hne ax) (ah (aD i (by decide)) az)),⟨_,⟨ap,rfl⟩,⟨_,_,_,_,_,rfl,aH.nil ..,aH.nil ..,(aM.upd' an j (ah (aD i (by decide)) az)),aH.nil ..,aH.nil ..,⟨(b8 (x:=c) (by omega)),(b8 (x:=0) (by omega)),(aB (x:=0) (by omega)),(aB (x:=0) (by omega)),(aB (x:=0) (by omega)),(aB (x:=0) (by omega)),(aB (x:=0) (by omega)),(aB (x:=0) (by omega)),(aB (x:=0) (by omega)),(aB (x:=((C.bytesC 1).need ((decide (6≤C.byteV))&&(decide (C.byteV≤70))) 5).wordV) (by omega)),(aB (x:=(cR ((C.bytesC 1).need ((decide (6≤C.byteV))&&(decide (C.byteV≤70))) 5)).wordV) (by omega)),(aB (x:=((cR ((C.bytesC 1).need ((decide (6≤C.byteV))&&(decide (C.byteV≤70))) 5)).wordsC 1).wordV) (by omega)),(b8 (x:=0) (by omega)),(b8 (x:=0) (by omega)),(b8 (x:=0) (by omega)),(b8 (x:=0) (by omega)),(b8 (x:=0) (by omega))⟩⟩⟩,(ui z (ui B (ui D (ui F (us H j)))))⟩
 have V:=aG d
 refine sg<|Pl 2<|nt<|cb ((c==17)) (fun f=>?_) (fun f=>?_)
 have aq:=aA f
 refine sg<|Pl 1<|L0<|Oc<|m3 (bi hC) fun bq ar aw br=>L0<|Oi C.byteV<|Pl 1<|ng<|Pl 4<|cu 3 [73] 76 (((decide (1≤C.byteV))&&(decide (C.byteV≤251)))) (fun K I=>?_) ?_
 refine bl 73 ((decide (1≤C.byteV))) (fun h=>?_) (fun h=>?_)
 have ay:=of_decide_eq_true h
 exact Pl 3<|ce I (decide (C.byteV≤251)) (by rw[h];rfl)
 have ay:=of_decide_eq_false h
 exact Pl 3<|ce I false (by rw[h];rfl)
 refine L0<|Oc<|m2 (aL (((decide (1≤C.byteV))&&(decide (C.byteV≤251)))) 5 ar) fun bt aC aE=>?_
 refine ab aC fun J aF L=>?_
 refine nt<|go<|Pl 3<|L0<|Oc<|nz (bC (n:=C.byteV) L) fun aI aJ bu aK bv bw aN aP=>?_
 have bx:=Nat.le_trans (ak.bytesR_le J C.byteV) (ae.len L)
 refine Pl 2<|?_
 have M:=u1 aw (u1 aE aP im) im
 have k:=aO M (Ne.symm hne) hm
 refine L0<|bO k 14 (mG c 0 0 0 0 0 0 0 0 0 0 0 nS nS (.slice aI ((J.bytesR C.byteV).length) aJ) nS 0 0 0 0 0 nS) fun bz aQ l=>nl<|bn<|rm (.tuple #[])<|?_
 subst aF
 have hs:bp c C=((((C.bytesC 1).need ((decide (1≤C.byteV))&&(decide (C.byteV≤251))) 5).bytesC C.byteV),(bf.mk c 0 0 0 0 0 0 0 0 0 0 0 [] [] (((C.bytesC 1).need ((decide (1≤C.byteV))&&(decide (C.byteV≤251))) 5).bytesR C.byteV) [] 0 0 0 0 0 [])):=by
   unfold bp hH ic
   (try simp only[a,b,d,f,bs,if_true,if_false,decide_true,decide_false,reduceIte])
   all_goals rfl
 rw[hs]
 exact⟨rfl,(ae.upd aN l (aa hne ax) (ah (aD k (by decide)) az)),⟨_,⟨aQ,rfl⟩,⟨_,_,_,_,_,rfl,aH.nil ..,aH.nil ..,(aM.upd' aK l (ah (aD k (by decide)) az)),aH.nil ..,aH.nil ..,⟨(b8 (x:=c) (by omega)),(b8 (x:=0) (by omega)),(aB (x:=0) (by omega)),(aB (x:=0) (by omega)),(aB (x:=0) (by omega)),(aB (x:=0) (by omega)),(aB (x:=0) (by omega)),(aB (x:=0) (by omega)),(aB (x:=0) (by omega)),(aB (x:=0) (by omega)),(aB (x:=0) (by omega)),(aB (x:=0) (by omega)),(b8 (x:=0) (by omega)),(b8 (x:=0) (by omega)),(b8 (x:=0) (by omega)),(b8 (x:=0) (by omega)),(b8 (x:=0) (by omega))⟩⟩⟩,(us M l)⟩
 have aq:=aG f
 refine sk<|bn<|rm (.tuple #[])<|?_
 have hs:bp c C=(C,(bf.mk c 0 0 0 0 0 0 0 0 0 0 0 [] [] [] [] 0 0 0 0 0 [])):=by
   unfold bp hH ic
   (try simp only[a,b,d,f,bs,if_true,if_false,decide_true,decide_false,reduceIte])
   all_goals rfl
 rw[hs]
 exact⟨rfl,hC,⟨_,⟨hm,rfl⟩,⟨_,_,_,_,_,rfl,aH.nil ..,aH.nil ..,aH.nil ..,aH.nil ..,aH.nil ..,⟨(b8 (x:=c) (by omega)),(b8 (x:=0) (by omega)),(aB (x:=0) (by omega)),(aB (x:=0) (by omega)),(aB (x:=0) (by omega)),(aB (x:=0) (by omega)),(aB (x:=0) (by omega)),(aB (x:=0) (by omega)),(aB (x:=0) (by omega)),(aB (x:=0) (by omega)),(aB (x:=0) (by omega)),(aB (x:=0) (by omega)),(b8 (x:=0) (by omega)),(b8 (x:=0) (by omega)),(b8 (x:=0) (by omega)),(b8 (x:=0) (by omega)),(b8 (x:=0) (by omega))⟩⟩⟩,(au.mono (S':=[g,gm]) (au.refl [] _) av)⟩
open Go.RowKit
def aI (dir c:Int)(C:ak) : Option (ak × bf) :=
  if c==8 then some (dj dir c C)
  else if c==7 || c==11 || c==12 || c==17 then (if dir==1 then some (bp c C) else some (C,{ bf.zero with code:=c }))
  else none
theorem jm{m:Bool}{A:Option Addr}{cp:Nat}{b:List Int}{w:World}{c:Int}(hcode:B8 c)(hsl:aM m w (.slice A b.length cp) b)(hb:b.length≤1048576) :
    Calls Tryz.prog 62 #[.int .i64 0,.int .u8 c,.slice A b.length cp] w (cO (al aI 0 c b) w):=by
 obtain⟨hcode1,hcode2⟩:=hcode
 have hln:(b.length:Int)≤1048576:=by omega
 refine en 47 Tryz.func62 rfl<|sg<|L0<|bz mZ fun b7 b9 j i O=>Pl 1<|nt<|sq<|sg<|Pl 6<|nt<|c0<|?_
 refine bB<|sg<|Pl 2<|L0<|bz mZ fun ba bb q P aa=>L0<|b6 P (mC c) fun bc r Q=>ng<|Pl 1<|?_
 have g:=ud aa Q q
 have n:=aE O g
 refine L0<|Oc<|e3 (cl (aM.old hsl n) (by omega)) fun bd be a s d=>Pl 1<|nt<|sq<|sg<|Pl 1<|nt<|bk<|sg<|Pl 2<|nl<|?_
 refine tn<|?_
 have o:=aE n d
 refine cb ((c==8)) (fun f=>?_) (fun f=>?_)
 have ad:=aA f
 refine go<|Pl 2<|?_
 have R:=nb (aj P) Q.size a
 refine L0<|Oc<|m3 (jT (dir:=0) (c:=c) ⟨hcode1,hcode2⟩ s (ub d r) (Ne.symm R)) fun bg af ai S=>?_
 obtain⟨am,B,C⟩:=ai
 refine ab af fun x41 T U=>?_
 refine nl<|bn<|tn<|sg<|Pl 1<|L0<|Oc<|m2 (bA U) fun bh V D=>nt<|sq<|sg<|Pl 1<|L0<|Oc<|mq (aX V)<|?_
 have bi:=ae.len V
 refine Pl 1<|ng<|Pl 2<|nt<|?_
 have E:=u1 S D im
 have W:=ut o E (ac (ni n.size a) (ac (ni O.size q) av))
 refine cb ((x41.endC.e != 0)) (fun t=>?_) (fun t=>?_)
 have F:=ay t
 refine sg<|Pl 2<|?_
 refine L0<|b6 (ub (ud g (ud d E a) q) i) mZ fun bj an ao=>Pl 1<|nt<|rt<|tr<|cc an (.int .i64 x41.endC.e)<|?_
 subst T
 have hs:al aI 0 c b=aQ ((dj 0 c (ak.mk b false 0)).2) ((dj 0 c (ak.mk b false 0)).1):=by
   unfold al aI
   (try simp only[f,t,bs,if_true,if_false,decide_true,decide_false,eq_self,true_or,or_true,or_false,false_or,if_true,if_false,cJ,cK,cF,cI,reduceIte])
   all_goals rfl
 rw[hs]
 exact aS F (ud W ao j)
 have F:=ag t
 refine bB<|sg<|?_
 refine L0<|c9 (hz:=(by rw[B.2];exact aP)) (aO D R B.1)<|?_
 refine L0<|b6 (hz:=(by rw[B.2];exact aP)) (hv:=C.size) (h1:=C.one) (ub (ud g (ud d E a) q) i) (am) fun bl ap X=>Pl 1<|nt<|rt<|dy 22 B.2 ap (.int .i64 0)<|?_
 subst T
 have hs:al aI 0 c b=aQ ((dj 0 c (ak.mk b false 0)).2) ((dj 0 c (ak.mk b false 0)).1):=by
   unfold al aI
   (try simp only[f,t,bs,if_true,if_false,decide_true,decide_false,eq_self,true_or,or_true,or_false,false_or,if_true,if_false,cJ,cK,cF,cI,reduceIte])
   all_goals rfl
 rw[hs]
 exact aY F (aU.upd C (us D X) (ah (ae.safe U _ (by decide)) (ah (aD (ub (ud g (ud d S a) q) i) (by decide)) az))) (ud W X j)
 have ad:=aG f
 refine sq<|sg<|Pl 2<|nt<|cb ((c==7)) (fun h=>?_) (fun h=>?_)
 have aq:=aA h
 refine bB<|ct h<|sg<|Pl 2<|nt<|c0<|sk<|bn<|tn<|sg<|?_
 refine Pl 1<|L0<|Oc<|m2 (bA s) fun bm Y G=>nt<|sq<|sg<|Pl 1<|L0<|Oc<|mq (aX Y)<|?_
 have bo:=ae.len Y
 refine Pl 1<|ng<|Pl 2<|nt<|?_
 have Z:=ud o G (le n.size a)
 refine cb (((((ak.mk b false 0).endC).e)!=0)) (fun u=>?_) (fun u=>?_)
 have H:=ay u
 refine sg<|Pl 2<|?_
 refine L0<|b6 (ub (aE g (ud d G a)) i) mZ fun bp ar au=>Pl 1<|nt<|rt<|tr<|cc ar (.int .i64 (((ak.mk b false 0).endC).e))<|?_
 have hs:al aI 0 c b=aQ (bf.mk c 0 0 0 0 0 0 0 0 0 0 0 [] [] [] [] 0 0 0 0 0 []) (ak.mk b false 0):=by
   unfold al aI
   (try simp only[f,h,u,bs,if_true,if_false,decide_true,decide_false,eq_self,true_or,or_true,or_false,false_or,if_true,if_false,cJ,cK,cF,cI,reduceIte])
   all_goals rfl
 rw[hs]
 exact aS H (ud Z au j)
 have H:=ag u
 refine bB<|sg<|?_
 have a0:=ud d G a
 refine L0<|c9 (ub a0 r)<|?_
 refine L0<|b6 (ub (aE g a0) i) (mC c) fun bq aw ax=>Pl 1<|nt<|rt<|cc aw (.int .i64 0)<|?_
 have hs:al aI 0 c b=aQ (bf.mk c 0 0 0 0 0 0 0 0 0 0 0 [] [] [] [] 0 0 0 0 0 []) (ak.mk b false 0):=by
   unfold al aI
   (try simp only[f,h,u,bs,if_true,if_false,decide_true,decide_false,eq_self,true_or,or_true,or_false,false_or,if_true,if_false,cJ,cK,cF,cI,reduceIte])
   all_goals rfl
 rw[hs]
 exact aY H ⟨_,_,_,_,_,rfl,aH.nil ..,aH.nil ..,aH.nil ..,aH.nil ..,aH.nil ..,⟨(b8 (x:=c) (by omega)),(b8 (x:=0) (by omega)),(aB (x:=0) (by omega)),(aB (x:=0) (by omega)),(aB (x:=0) (by omega)),(aB (x:=0) (by omega)),(aB (x:=0) (by omega)),(aB (x:=0) (by omega)),(aB (x:=0) (by omega)),(aB (x:=0) (by omega)),(aB (x:=0) (by omega)),(aB (x:=0) (by omega)),(b8 (x:=0) (by omega)),(b8 (x:=0) (by omega)),(b8 (x:=0) (by omega)),(b8 (x:=0) (by omega)),(b8 (x:=0) (by omega))⟩⟩ (ud Z ax j)
 have aq:=aG h
 refine sg<|Pl 2<|nt<|cb ((c==11)) (fun k=>?_) (fun k=>?_)
 have aC:=aA k
 refine bB<|ct k<|sg<|Pl 2<|nt<|c0<|sk<|bn<|tn<|sg<|?_
 refine Pl 1<|L0<|Oc<|m2 (bA s) fun bt a1 I=>nt<|sq<|sg<|Pl 1<|L0<|Oc<|mq (aX a1)<|?_
 have bu:=ae.len a1
 refine Pl 1<|ng<|Pl 2<|nt<|?_
 have a2:=ud o I (le n.size a)
 refine cb (((((ak.mk b false 0).endC).e)!=0)) (fun v=>?_) (fun v=>?_)
 have J:=ay v
 refine sg<|Pl 2<|?_
 refine L0<|b6 (ub (aE g (ud d I a)) i) mZ fun bv aF aJ=>Pl 1<|nt<|rt<|tr<|cc aF (.int .i64 (((ak.mk b false 0).endC).e))<|?_
 have hs:al aI 0 c b=aQ (bf.mk c 0 0 0 0 0 0 0 0 0 0 0 [] [] [] [] 0 0 0 0 0 []) (ak.mk b false 0):=by
   unfold al aI
   (try simp only[f,h,k,v,bs,if_true,if_false,decide_true,decide_false,eq_self,true_or,or_true,or_false,false_or,if_true,if_false,cJ,cK,cF,cI,reduceIte])
   all_goals rfl
 rw[hs]
 exact aS J (ud a2 aJ j)
 have J:=ag v
 refine bB<|sg<|?_
 have a3:=ud d I a
 refine L0<|c9 (ub a3 r)<|?_
 refine L0<|b6 (ub (aE g a3) i) (mC c) fun bw aK aL=>Pl 1<|nt<|rt<|cc aK (.int .i64 0)<|?_
 have hs:al aI 0 c b=aQ (bf.mk c 0 0 0 0 0 0 0 0 0 0 0 [] [] [] [] 0 0 0 0 0 []) (ak.mk b false 0):=by
   unfold al aI
   (try simp only[f,h,k,v,bs,if_true,if_false,decide_true,decide_false,eq_self,true_or,or_true,or_false,false_or,if_true,if_false,cJ,cK,cF,cI,reduceIte])
   all_goals rfl
 rw[hs]
 exact aY J ⟨_,_,_,_,_,rfl,aH.nil ..,aH.nil ..,aH.nil ..,aH.nil ..,aH.nil ..,⟨(b8 (x:=c) (by omega)),(b8 (x:=0) (by omega)),(aB (x:=0) (by omega)),(aB (x:=0) (by omega)),(aB (x:=0) (by omega)),(aB (x:=0) (by omega)),(aB (x:=0) (by omega)),(aB (x:=0) (by omega)),(aB (x:=0) (by omega)),(aB (x:=0) (by omega)),(aB (x:=0) (by omega)),(aB (x:=0) (by omega)),(b8 (x:=0) (by omega)),(b8 (x:=0) (by omega)),(b8 (x:=0) (by omega)),(b8 (x:=0) (by omega)),(b8 (x:=0) (by omega))⟩⟩ (ud a2 aL j)
 have aC:=aG k
 refine sg<|Pl 2<|nt<|cb ((c==12)) (fun l=>?_) (fun l=>?_)
 have aN:=aA l
 refine bB<|ct l<|sg<|Pl 2<|nt<|c0<|sk<|bn<|tn<|sg<|?_
 refine Pl 1<|L0<|Oc<|m2 (bA s) fun bx a4 K=>nt<|sq<|sg<|Pl 1<|L0<|Oc<|mq (aX a4)<|?_
 have bC:=ae.len a4
 refine Pl 1<|ng<|Pl 2<|nt<|?_
 have a5:=ud o K (le n.size a)
 refine cb (((((ak.mk b false 0).endC).e)!=0)) (fun y=>?_) (fun y=>?_)
 have L:=ay y
 refine sg<|Pl 2<|?_
 refine L0<|b6 (ub (aE g (ud d K a)) i) mZ fun bD aR aT=>Pl 1<|nt<|rt<|tr<|cc aR (.int .i64 (((ak.mk b false 0).endC).e))<|?_
 have hs:al aI 0 c b=aQ (bf.mk c 0 0 0 0 0 0 0 0 0 0 0 [] [] [] [] 0 0 0 0 0 []) (ak.mk b false 0):=by
   unfold al aI
   (try simp only[f,h,k,l,y,bs,if_true,if_false,decide_true,decide_false,eq_self,true_or,or_true,or_false,false_or,if_true,if_false,cJ,cK,cF,cI,reduceIte])
   all_goals rfl
 rw[hs]
 exact aS L (ud a5 aT j)
 have L:=ag y
 refine bB<|sg<|?_
 have a6:=ud d K a
 refine L0<|c9 (ub a6 r)<|?_
 refine L0<|b6 (ub (aE g a6) i) (mC c) fun bF aV aW=>Pl 1<|nt<|rt<|cc aV (.int .i64 0)<|?_
 have hs:al aI 0 c b=aQ (bf.mk c 0 0 0 0 0 0 0 0 0 0 0 [] [] [] [] 0 0 0 0 0 []) (ak.mk b false 0):=by
   unfold al aI
   (try simp only[f,h,k,l,y,bs,if_true,if_false,decide_true,decide_false,eq_self,true_or,or_true,or_false,false_or,if_true,if_false,cJ,cK,cF,cI,reduceIte])
   all_goals rfl
 rw[hs]
 exact aY L ⟨_,_,_,_,_,rfl,aH.nil ..,aH.nil ..,aH.nil ..,aH.nil ..,aH.nil ..,⟨(b8 (x:=c) (by omega)),(b8 (x:=0) (by omega)),(aB (x:=0) (by omega)),(aB (x:=0) (by omega)),(aB (x:=0) (by omega)),(aB (x:=0) (by omega)),(aB (x:=0) (by omega)),(aB (x:=0) (by omega)),(aB (x:=0) (by omega)),(aB (x:=0) (by omega)),(aB (x:=0) (by omega)),(aB (x:=0) (by omega)),(b8 (x:=0) (by omega)),(b8 (x:=0) (by omega)),(b8 (x:=0) (by omega)),(b8 (x:=0) (by omega)),(b8 (x:=0) (by omega))⟩⟩ (ud a5 aW j)
 have aN:=aG l
 refine go<|Pl 2<|nt<|cb ((c==17)) (fun p=>?_) (fun p=>?_)
 have aZ:=aA p
 refine sg<|Pl 2<|nt<|c0<|sk<|bn<|tn<|sg<|Pl 1<|L0<|Oc<|m2 (bA s) fun bG a7 M=>nl<|?_
 refine tn<|sq<|sg<|Pl 1<|L0<|Oc<|mq (aX a7)<|?_
 have bH:=ae.len a7
 refine Pl 1<|ng<|Pl 2<|nt<|?_
 have a8:=ud o M (le n.size a)
 refine cb (((((ak.mk b false 0).endC).e)!=0)) (fun z=>?_) (fun z=>?_)
 have N:=ay z
 refine sg<|Pl 2<|?_
 refine L0<|b6 (ub (aE g (ud d M a)) i) mZ fun bI b0 b1=>Pl 1<|nt<|rt<|tr<|cc b0 (.int .i64 (((ak.mk b false 0).endC).e))<|?_
 have hs:al aI 0 c b=aQ (bf.mk c 0 0 0 0 0 0 0 0 0 0 0 [] [] [] [] 0 0 0 0 0 []) (ak.mk b false 0):=by
   unfold al aI
   (try simp only[f,h,k,l,p,z,bs,if_true,if_false,decide_true,decide_false,eq_self,true_or,or_true,or_false,false_or,if_true,if_false,cJ,cK,cF,cI,reduceIte])
   all_goals rfl
 rw[hs]
 exact aS N (ud a8 b1 j)
 have N:=ag z
 refine bB<|sg<|?_
 have a9:=ud d M a
 refine L0<|c9 (ub a9 r)<|?_
 refine L0<|b6 (ub (aE g a9) i) (mC c) fun bJ b2 b3=>Pl 1<|nt<|rt<|cc b2 (.int .i64 0)<|?_
 have hs:al aI 0 c b=aQ (bf.mk c 0 0 0 0 0 0 0 0 0 0 0 [] [] [] [] 0 0 0 0 0 []) (ak.mk b false 0):=by
   unfold al aI
   (try simp only[f,h,k,l,p,z,bs,if_true,if_false,decide_true,decide_false,eq_self,true_or,or_true,or_false,false_or,if_true,if_false,cJ,cK,cF,cI,reduceIte])
   all_goals rfl
 rw[hs]
 exact aY N ⟨_,_,_,_,_,rfl,aH.nil ..,aH.nil ..,aH.nil ..,aH.nil ..,aH.nil ..,⟨(b8 (x:=c) (by omega)),(b8 (x:=0) (by omega)),(aB (x:=0) (by omega)),(aB (x:=0) (by omega)),(aB (x:=0) (by omega)),(aB (x:=0) (by omega)),(aB (x:=0) (by omega)),(aB (x:=0) (by omega)),(aB (x:=0) (by omega)),(aB (x:=0) (by omega)),(aB (x:=0) (by omega)),(aB (x:=0) (by omega)),(b8 (x:=0) (by omega)),(b8 (x:=0) (by omega)),(b8 (x:=0) (by omega)),(b8 (x:=0) (by omega)),(b8 (x:=0) (by omega))⟩⟩ (ud a8 b3 j)
 have aZ:=aG p
 refine sg<|Pl 1<|?_
 refine L0<|b6 (ub (aE g d) i) mZ fun bK b4 b5=>Pl 1<|nt<|rt<|br<|tr<|cc b4 (.int .i64 4)<|?_
 have hs:al aI 0 c b=(bf.zero,4):=by
   unfold al aI
   (try simp only[f,h,k,l,p,bs,if_true,if_false,decide_true,decide_false,eq_self,true_or,or_true,or_false,false_or,if_true,if_false,cJ,cK,cF,cI,reduceIte])
   all_goals rfl
 rw[hs]
 exact bE (ud o b5 j)
theorem js{m:Bool}{A:Option Addr}{cp:Nat}{b:List Int}{w:World}{c:Int}(hcode:B8 c)(hsl:aM m w (.slice A b.length cp) b)(hb:b.length≤1048576) :
    Calls Tryz.prog 62 #[.int .i64 1,.int .u8 c,.slice A b.length cp] w (cO (al aI 1 c b) w):=by
 obtain⟨hcode1,hcode2⟩:=hcode
 have hln:(b.length:Int)≤1048576:=by omega
 refine en 47 Tryz.func62 rfl<|sg<|L0<|bz mZ fun bS bT k h p=>Pl 1<|nt<|sq<|sg<|Pl 6<|nt<|c0<|?_
 refine bB<|sg<|Pl 2<|L0<|bz mZ fun bU bV f q b4=>L0<|b6 q (mC c) fun bW u r=>ng<|Pl 1<|?_
 have g:=ud b4 r f
 have o:=aE p g
 refine L0<|Oc<|e3 (cl (aM.old hsl o) (by omega)) fun bX bY a v d=>Pl 1<|nt<|sq<|sg<|Pl 1<|nt<|bk<|sg<|Pl 2<|nl<|?_
 refine tn<|?_
 have s:=aE o d
 refine cb ((c==8)) (fun i=>?_) (fun i=>?_)
 have b5:=aA i
 refine go<|Pl 2<|?_
 have a2:=nb (aj q) r.size a
 refine L0<|Oc<|m3 (jT (dir:=1) (c:=c) ⟨hcode1,hcode2⟩ v (ub d u) (Ne.symm a2)) fun bZ b7 b8 a3=>?_
 obtain⟨b9,D,I⟩:=b8
 refine ab b7 fun x41 a4 a5=>?_
 refine nl<|bn<|tn<|sg<|Pl 1<|L0<|Oc<|m2 (bA a5) fun c2 a6 J=>nt<|sq<|sg<|Pl 1<|L0<|Oc<|mq (aX a6)<|?_
 have c3:=ae.len a6
 refine Pl 1<|ng<|Pl 2<|nt<|?_
 have K:=u1 a3 J im
 have a7:=ut s K (ac (ni o.size a) (ac (ni p.size f) av))
 refine cb ((x41.endC.e != 0)) (fun x=>?_) (fun x=>?_)
 have L:=ay x
 refine sg<|Pl 2<|?_
 refine L0<|b6 (ub (ud g (ud d K a) f) h) mZ fun c4 ba bb=>Pl 1<|nt<|rt<|tr<|cc ba (.int .i64 x41.endC.e)<|?_
 subst a4
 have hs:al aI 1 c b=aQ ((dj 1 c (ak.mk b false 0)).2) ((dj 1 c (ak.mk b false 0)).1):=by
   unfold al aI
   (try simp only[i,x,bs,if_true,if_false,decide_true,decide_false,eq_self,true_or,or_true,or_false,false_or,if_true,if_false,cJ,cK,cF,cI,reduceIte])
   all_goals rfl
 rw[hs]
 exact aS L (ud a7 bb k)
 have L:=ag x
 refine bB<|sg<|?_
 refine L0<|c9 (hz:=(by rw[D.2];exact aP)) (aO J a2 D.1)<|?_
 refine L0<|b6 (hz:=(by rw[D.2];exact aP)) (hv:=I.size) (h1:=I.one) (ub (ud g (ud d K a) f) h) (b9) fun c5 bc a8=>Pl 1<|nt<|rt<|dy 22 D.2 bc (.int .i64 0)<|?_
 subst a4
 have hs:al aI 1 c b=aQ ((dj 1 c (ak.mk b false 0)).2) ((dj 1 c (ak.mk b false 0)).1):=by
   unfold al aI
   (try simp only[i,x,bs,if_true,if_false,decide_true,decide_false,eq_self,true_or,or_true,or_false,false_or,if_true,if_false,cJ,cK,cF,cI,reduceIte])
   all_goals rfl
 rw[hs]
 exact aY L (aU.upd I (us J a8) (ah (ae.safe a5 _ (by decide)) (ah (aD (ub (ud g (ud d a3 a) f) h) (by decide)) az))) (ud a7 a8 k)
 have b5:=aG i
 refine sq<|sg<|Pl 2<|nt<|cb ((c==7)) (fun j=>?_) (fun j=>?_)
 have bd:=aA j
 refine bB<|ct j<|sg<|Pl 2<|nt<|c1<|go<|Pl 1<|?_
 have a9:=nb (aj q) r.size a
 refine L0<|Oc<|m3 (et (c:=c) ⟨hcode1,hcode2⟩ v (ub d u) (Ne.symm a9)) fun c6 be bg aa=>?_
 obtain⟨bh,E,M⟩:=bg
 refine ab be fun x81 ad af=>?_
 refine nl<|bn<|tn<|sg<|Pl 1<|L0<|Oc<|m2 (bA af) fun c7 ai N=>nt<|sq<|sg<|Pl 1<|L0<|Oc<|mq (aX ai)<|?_
 have c8:=ae.len ai
 refine Pl 1<|ng<|Pl 2<|nt<|?_
 have O:=u1 aa N im
 have am:=ut s O (ac (ni o.size a) (ac (ni p.size f) av))
 refine cb ((x81.endC.e != 0)) (fun y=>?_) (fun y=>?_)
 have P:=ay y
 refine sg<|Pl 2<|?_
 refine L0<|b6 (ub (ud g (ud d O a) f) h) mZ fun ca bi bj=>Pl 1<|nt<|rt<|tr<|cc bi (.int .i64 x81.endC.e)<|?_
 subst ad
 have hs:al aI 1 c b=aQ ((bp c (ak.mk b false 0)).2) ((bp c (ak.mk b false 0)).1):=by
   unfold al aI
   (try simp only[i,j,y,bs,if_true,if_false,decide_true,decide_false,eq_self,true_or,or_true,or_false,false_or,if_true,if_false,cJ,cK,cF,cI,reduceIte])
   all_goals rfl
 rw[hs]
 exact aS P (ud am bj k)
 have P:=ag y
 refine bB<|sg<|?_
 refine L0<|c9 (hz:=(by rw[E.2];exact aP)) (aO N a9 E.1)<|?_
 refine L0<|b6 (hz:=(by rw[E.2];exact aP)) (hv:=M.size) (h1:=M.one) (ub (ud g (ud d O a) f) h) (bh) fun cd bl an=>Pl 1<|nt<|rt<|dy 22 E.2 bl (.int .i64 0)<|?_
 subst ad
 have hs:al aI 1 c b=aQ ((bp c (ak.mk b false 0)).2) ((bp c (ak.mk b false 0)).1):=by
   unfold al aI
   (try simp only[i,j,y,bs,if_true,if_false,decide_true,decide_false,eq_self,true_or,or_true,or_false,false_or,if_true,if_false,cJ,cK,cF,cI,reduceIte])
   all_goals rfl
 rw[hs]
 exact aY P (aU.upd M (us N an) (ah (ae.safe af _ (by decide)) (ah (aD (ub (ud g (ud d aa a) f) h) (by decide)) az))) (ud am an k)
 have bd:=aG j
 refine sg<|Pl 2<|nt<|cb ((c==11)) (fun l=>?_) (fun l=>?_)
 have bm:=aA l
 refine bB<|ct l<|sg<|Pl 2<|nt<|c1<|go<|Pl 1<|?_
 have ao:=nb (aj q) r.size a
 refine L0<|Oc<|m3 (et (c:=c) ⟨hcode1,hcode2⟩ v (ub d u) (Ne.symm ao)) fun ce bo bq ap=>?_
 obtain⟨bt,F,Q⟩:=bq
 refine ab bo fun aq ar au=>?_
 refine nl<|bn<|tn<|sg<|Pl 1<|L0<|Oc<|m2 (bA au) fun cf aw R=>nt<|sq<|sg<|Pl 1<|L0<|Oc<|mq (aX aw)<|?_
 have cg:=ae.len aw
 refine Pl 1<|ng<|Pl 2<|nt<|?_
 have S:=u1 ap R im
 have ax:=ut s S (ac (ni o.size a) (ac (ni p.size f) av))
 refine cb ((aq.endC.e != 0)) (fun z=>?_) (fun z=>?_)
 have T:=ay z
 refine sg<|Pl 2<|?_
 refine L0<|b6 (ub (ud g (ud d S a) f) h) mZ fun ch bu bv=>Pl 1<|nt<|rt<|tr<|cc bu (.int .i64 aq.endC.e)<|?_
 subst ar
 have hs:al aI 1 c b=aQ ((bp c (ak.mk b false 0)).2) ((bp c (ak.mk b false 0)).1):=by
   unfold al aI
   (try simp only[i,j,l,z,bs,if_true,if_false,decide_true,decide_false,eq_self,true_or,or_true,or_false,false_or,if_true,if_false,cJ,cK,cF,cI,reduceIte])
   all_goals rfl
 rw[hs]
 exact aS T (ud ax bv k)
 have T:=ag z
 refine bB<|sg<|?_
 refine L0<|c9 (hz:=(by rw[F.2];exact aP)) (aO R ao F.1)<|?_
 refine L0<|b6 (hz:=(by rw[F.2];exact aP)) (hv:=Q.size) (h1:=Q.one) (ub (ud g (ud d S a) f) h) (bt) fun ci bw aB=>Pl 1<|nt<|rt<|dy 22 F.2 bw (.int .i64 0)<|?_
 subst ar
 have hs:al aI 1 c b=aQ ((bp c (ak.mk b false 0)).2) ((bp c (ak.mk b false 0)).1):=by
   unfold al aI
   (try simp only[i,j,l,z,bs,if_true,if_false,decide_true,decide_false,eq_self,true_or,or_true,or_false,false_or,if_true,if_false,cJ,cK,cF,cI,reduceIte])
   all_goals rfl
 rw[hs]
 exact aY T (aU.upd Q (us R aB) (ah (ae.safe au _ (by decide)) (ah (aD (ub (ud g (ud d ap a) f) h) (by decide)) az))) (ud ax aB k)
 have bm:=aG l
 refine sg<|Pl 2<|nt<|cb ((c==12)) (fun n=>?_) (fun n=>?_)
 have bx:=aA n
 refine bB<|ct n<|sg<|Pl 2<|nt<|c1<|go<|Pl 1<|?_
 have aC:=nb (aj q) r.size a
 refine L0<|Oc<|m3 (et (c:=c) ⟨hcode1,hcode2⟩ v (ub d u) (Ne.symm aC)) fun cj bC bD aF=>?_
 obtain⟨bF,G,U⟩:=bD
 refine ab bC fun aH aJ aK=>?_
 refine nl<|bn<|tn<|sg<|Pl 1<|L0<|Oc<|m2 (bA aK) fun ck aL V=>nt<|sq<|sg<|Pl 1<|L0<|Oc<|mq (aX aL)<|?_
 have cm:=ae.len aL
 refine Pl 1<|ng<|Pl 2<|nt<|?_
 have W:=u1 aF V im
 have aN:=ut s W (ac (ni o.size a) (ac (ni p.size f) av))
 refine cb ((aH.endC.e != 0)) (fun B=>?_) (fun B=>?_)
 have X:=ay B
 refine sg<|Pl 2<|?_
 refine L0<|b6 (ub (ud g (ud d W a) f) h) mZ fun cn bG bH=>Pl 1<|nt<|rt<|tr<|cc bG (.int .i64 aH.endC.e)<|?_
 subst aJ
 have hs:al aI 1 c b=aQ ((bp c (ak.mk b false 0)).2) ((bp c (ak.mk b false 0)).1):=by
   unfold al aI
   (try simp only[i,j,l,n,B,bs,if_true,if_false,decide_true,decide_false,eq_self,true_or,or_true,or_false,false_or,if_true,if_false,cJ,cK,cF,cI,reduceIte])
   all_goals rfl
 rw[hs]
 exact aS X (ud aN bH k)
 have X:=ag B
 refine bB<|sg<|?_
 refine L0<|c9 (hz:=(by rw[G.2];exact aP)) (aO V aC G.1)<|?_
 refine L0<|b6 (hz:=(by rw[G.2];exact aP)) (hv:=U.size) (h1:=U.one) (ub (ud g (ud d W a) f) h) (bF) fun co bI aR=>Pl 1<|nt<|rt<|dy 22 G.2 bI (.int .i64 0)<|?_
 subst aJ
 have hs:al aI 1 c b=aQ ((bp c (ak.mk b false 0)).2) ((bp c (ak.mk b false 0)).1):=by
   unfold al aI
   (try simp only[i,j,l,n,B,bs,if_true,if_false,decide_true,decide_false,eq_self,true_or,or_true,or_false,false_or,if_true,if_false,cJ,cK,cF,cI,reduceIte])
   all_goals rfl
 rw[hs]
 exact aY X (aU.upd U (us V aR) (ah (ae.safe aK _ (by decide)) (ah (aD (ub (ud g (ud d aF a) f) h) (by decide)) az))) (ud aN aR k)
 have bx:=aG n
 refine go<|Pl 2<|nt<|cb ((c==17)) (fun t=>?_) (fun t=>?_)
 have bJ:=aA t
 refine sg<|Pl 2<|nt<|c1<|go<|Pl 1<|?_
 have aT:=nb (aj q) r.size a
 refine L0<|Oc<|m3 (et (c:=c) ⟨hcode1,hcode2⟩ v (ub d u) (Ne.symm aT)) fun cq bK bL aV=>?_
 obtain⟨bM,H,Y⟩:=bL
 refine ab bK fun aW aZ b0=>?_
 refine nl<|bn<|tn<|sg<|Pl 1<|L0<|Oc<|m2 (bA b0) fun cr b1 Z=>nt<|sq<|sg<|Pl 1<|L0<|Oc<|mq (aX b1)<|?_
 have cs:=ae.len b1
 refine Pl 1<|ng<|Pl 2<|nt<|?_
 have a0:=u1 aV Z im
 have b2:=ut s a0 (ac (ni o.size a) (ac (ni p.size f) av))
 refine cb ((aW.endC.e != 0)) (fun C=>?_) (fun C=>?_)
 have a1:=ay C
 refine sg<|Pl 2<|?_
 refine L0<|b6 (ub (ud g (ud d a0 a) f) h) mZ fun cu bN bO=>Pl 1<|nt<|rt<|tr<|cc bN (.int .i64 aW.endC.e)<|?_
 subst aZ
 have hs:al aI 1 c b=aQ ((bp c (ak.mk b false 0)).2) ((bp c (ak.mk b false 0)).1):=by
   unfold al aI
   (try simp only[i,j,l,n,t,C,bs,if_true,if_false,decide_true,decide_false,eq_self,true_or,or_true,or_false,false_or,if_true,if_false,cJ,cK,cF,cI,reduceIte])
   all_goals rfl
 rw[hs]
 exact aS a1 (ud b2 bO k)
 have a1:=ag C
 refine bB<|sg<|?_
 refine L0<|c9 (hz:=(by rw[H.2];exact aP)) (aO Z aT H.1)<|?_
 refine L0<|b6 (hz:=(by rw[H.2];exact aP)) (hv:=Y.size) (h1:=Y.one) (ub (ud g (ud d a0 a) f) h) (bM) fun cv bP b3=>Pl 1<|nt<|rt<|dy 22 H.2 bP (.int .i64 0)<|?_
 subst aZ
 have hs:al aI 1 c b=aQ ((bp c (ak.mk b false 0)).2) ((bp c (ak.mk b false 0)).1):=by
   unfold al aI
   (try simp only[i,j,l,n,t,C,bs,if_true,if_false,decide_true,decide_false,eq_self,true_or,or_true,or_false,false_or,if_true,if_false,cJ,cK,cF,cI,reduceIte])
   all_goals rfl
 rw[hs]
 exact aY a1 (aU.upd Y (us Z b3) (ah (ae.safe b0 _ (by decide)) (ah (aD (ub (ud g (ud d aV a) f) h) (by decide)) az))) (ud b2 b3 k)
 have bJ:=aG t
 refine sg<|Pl 1<|?_
 refine L0<|b6 (ub (aE g d) h) mZ fun cw bQ bR=>Pl 1<|nt<|rt<|br<|tr<|cc bQ (.int .i64 4)<|?_
 have hs:al aI 1 c b=(bf.zero,4):=by
   unfold al aI
   (try simp only[i,j,l,n,t,bs,if_true,if_false,decide_true,decide_false,eq_self,true_or,or_true,or_false,false_or,if_true,if_false,cJ,cK,cF,cI,reduceIte])
   all_goals rfl
 rw[hs]
 exact bE (ud s bR k)
theorem jr{m:Bool}{A:Option Addr}{cp:Nat}{b:List Int}{w:World}{dir c:Int}(hcode:B8 c)(hsl:aM m w (.slice A b.length cp) b)(hb:b.length≤1048576)(hd:¬ (dir=0∨dir=1)) :
    Calls Tryz.prog 62 #[.int .i64 dir,.int .u8 c,.slice A b.length cp] w (cO (al aI dir c b) w):=by
 obtain⟨hcode1,hcode2⟩:=hcode
 have hln:(b.length:Int)≤1048576:=by omega
 have e0:(dir != 0)=true:=by simp;omega
 have e1:(dir != 1)=true:=by simp;omega
 refine en 47 Tryz.func62 rfl<|sg<|L0<|bz mZ fun g h a d e=>Pl 1<|nt<|sq<|sg<|Pl 3<|sy 13 e0<|Pl 3<|nl<|?_
 refine tn<|ct e1<|sg<|Pl 1<|L0<|b6 d mZ fun i dq f=>Pl 1<|nt<|rt<|tr<|cc dq (.int .i64 1)<|?_
 have hs:al aI dir c b=(bf.zero,1):=by
   unfold al aI
   (try simp only[e0,e1,bs,if_true,if_false,decide_true,decide_false,eq_self,true_or,or_true,or_false,false_or,if_true,if_false,cJ,cK,cF,cI,reduceIte,hd])
   all_goals rfl
 rw[hs]
 exact bE (ud e f a)
theorem lC{m:Bool}{v:Value}{b:List Int}{w:World}{dir c:Int}(hc:B8 c)(h:aM m w v b)(hb:b.length≤1048576) :
    Calls Tryz.prog 62 #[.int .i64 dir,.int .u8 c,v] w (cO (al aI dir c b) w):=by
  obtain⟨A,cp,rfl,_,_⟩:=h.shape
  by_cases h0:dir=0
  · subst h0;exact jm hc h hb
  by_cases h1:dir=1
  · subst h1;exact js hc h hb
  exact jr hc h hb (by omega)
open Go.RowKit
def fy:Nat→ak→List Obj→ak × List Obj
  | 0,C,L=>(C,L)
  | n+1,C,L=>fy n (((C.bytesC 1).bytesC 1).bytesC (C.bytesC 1).byteV) (L++[⟨C.byteV,((C.bytesC 1).bytesC 1).bytesR (C.bytesC 1).byteV⟩])
def kc (C:ak) : ak:=(C.bytesC 1).need (bu C.byteV) 6
def nG (C:ak) : ak:=((kc C).bytesC 1).need ((kc C).byteV==0 || (kc C).byteV==255) 6
def s8 (C:ak) : ak:=((nG C).bytesC 1).need ((kc C).byteV != 0 || (nG C).byteV==0) 6
def uq (kd:Int)(C:ak) : ak:=((s8 C).bytesC 1).need (kd != 4 || (s8 C).byteV==1) 5
def dv (kd:Int)(C:ak) : ak × List Obj:=fy (s8 C).byteV.toNat (uq kd C) []
theorem kW{g gm:Nat}{c me kd:Int}{C0:ak}{w:World}(hcode:B8 c)(hme:B8 me)(hkd:B8 kd)(hC:ae w g C0)(hm:w.heap[gm]? = some (.cells #[.int .u8 c,.int .u8 0,.int .u16 0,.int .u16 0,.int .u16 0,.int .u16 0,.int .u16 0,.int .u16 0,.int .u16 0,.int .u16 0,.int .u16 0,.int .u16 0,.slice none 0 0,.slice none 0 0,.slice none 0 0,.slice none 0 0,.int .u8 me,.int .u8 kd,.int .u8 0,.int .u8 0,.int .u8 0,.slice none 0 0] 31 (0,0)))(hne:g≠gm) :
    Calls Tryz.prog 99 #[.pointer (some ⟨g,0,none⟩),.pointer (some ⟨gm,0,none⟩)] w (bD g gm (dv kd C0).1 { bf.zero with code:=c,mei:=me,kind:=kd,level:=C0.byteV,more:=(kc C0).byteV,next:=(nG C0).byteV,objects:=(dv kd C0).2 } w):=by
 obtain⟨hcode1,hcode2⟩:=hcode
 obtain⟨hme1,hme2⟩:=hme
 obtain⟨hkd1,hkd2⟩:=hkd
 refine en 92 Tryz.func99 rfl<|sg<|Pl 2<|L0<|Oc<|m3 (bi hC) fun cT bR b cU=>Pl 2<|?_
 have al:=aO b (Ne.symm hne) hm
 refine L0<|bO al 18 (mG c 0 0 0 0 0 0 0 0 0 0 0 nS nS nS nS me kd C0.byteV 0 0 nS) fun cV dq j=>ng<|Pl 4<|L0<|aR dq 18<|L0<|Oc<|m1 (od (x:=C0.byteV) (w:=_)) fun cW d=>?_
 have an:=aE j d
 refine L0<|Oc<|m2 (aL ((bu C0.byteV)) 6 (ae.upd bR an (aa hne ax) (ah (aD al (by decide)) az))) fun cX bT l=>?_
 refine ab bT fun x25 bU bW=>?_
 refine ng<|Pl 2<|L0<|Oc<|m3 (bi bW) fun cY bX o cZ=>Pl 2<|?_
 have ao:=u1 l o im
 have ar:=aO (uz d ao) (Ne.symm hne) dq
 refine L0<|bO ar 19 (mG c 0 0 0 0 0 0 0 0 0 0 0 nS nS nS nS me kd C0.byteV x25.byteV 0 nS) fun d0 U f=>ng<|Pl 4<|L0<|aR U 19<|Pl 2<|cu 6 [29] 35 (((x25.byteV==0)||(x25.byteV==255))) (fun K aw=>?_) ?_
 refine bl 29 ((x25.byteV==0)) (fun E=>?_) (fun E=>?_)
 have bY:=aA E
 exact Pl 6<|ce aw true (by rw[E];rfl)
 have bY:=aG E
 exact Pl 3<|L1<|aR U 19<|Pl 2<|ce aw (x25.byteV==255) (by rw[E];rfl)
 refine L0<|Oc<|m2 (aL (((x25.byteV==0)||(x25.byteV==255))) 6 (ae.upd bX f (aa hne ax) (ah (aD ar (by decide)) az))) fun d1 bZ p=>?_
 refine ab bZ fun x44 c0 c1=>?_
 refine ng<|Pl 2<|L0<|Oc<|m3 (bi c1) fun d2 c2 q d3=>Pl 2<|?_
 have aC:=u1 p q im
 have aF:=aO aC (Ne.symm hne) U
 refine L0<|bO aF 20 (mG c 0 0 0 0 0 0 0 0 0 0 0 nS nS nS nS me kd C0.byteV x25.byteV x44.byteV nS) fun d4 V h=>ng<|Pl 4<|L0<|aR V 19<|Pl 2<|cu 6 [48] 54 (((x25.byteV != 0)||(x44.byteV==0))) (fun K aI=>?_) ?_
 refine bl 48 ((x25.byteV != 0)) (fun F=>?_) (fun F=>?_)
 have c3:=ay F
 exact Pl 6<|ce aI true (by rw[F];rfl)
 have c3:=ag F
 exact Pl 3<|L1<|aR V 20<|Pl 2<|ce aI (x44.byteV==0) (by rw[F];rfl)
 refine L0<|Oc<|m2 (aL (((x25.byteV != 0)||(x44.byteV==0))) 6 (ae.upd c2 h (aa hne ax) (ah (aD aF (by decide)) az))) fun d5 c4 r=>?_
 refine ab c4 fun x62 c5 c6=>?_
 refine ng<|Pl 1<|L0<|Oc<|m3 (bi c6) fun d6 c7 s d7=>L0<|Oi x62.byteV<|Pl 1<|ng<|Pl 4<|?_
 have aJ:=u1 r s im
 have aP:=aO aJ (Ne.symm hne) V
 refine L0<|aR aP 17<|Pl 2<|cu 3 [65] 68 (((kd != 4)||(x62.byteV==1))) (fun K aQ=>?_) ?_
 refine bl 65 ((kd != 4)) (fun G=>?_) (fun G=>?_)
 have c8:=ay G
 exact Pl 3<|ce aQ true (by rw[G];rfl)
 have c8:=ag G
 exact Pl 3<|ce aQ (x62.byteV==1) (by rw[G];rfl)
 refine L0<|Oc<|m2 (aL (((kd != 4)||(x62.byteV==1))) 5 c7) fun W c9 i=>?_
 refine ab c9 fun x76 ca cc=>?_
 refine ng<|Pl 2<|nt<|bk<|?_
 refine fR (fun x=>[(0,.pointer (some ⟨g,0,none⟩)),(1,.pointer (some ⟨gm,0,none⟩)),(70,.int .i64 x62.byteV),(71,.int .i64 ((x.1:Nat) : Int))]) (fun(x:Nat × ak × List Obj × Option Addr × Nat) w'=>au [g,gm] W w'∧ae w' g x.2.1∧w'.heap[gm]? = some (.cells #[.int .u8 c,.int .u8 0,.int .u16 0,.int .u16 0,.int .u16 0,.int .u16 0,.int .u16 0,.int .u16 0,.int .u16 0,.int .u16 0,.int .u16 0,.int .u16 0,.slice none 0 0,.slice none 0 0,.slice none 0 0,.slice none 0 0,.int .u8 me,.int .u8 kd,.int .u8 C0.byteV,.int .u8 x25.byteV,.int .u8 x44.byteV,.slice x.2.2.2.1 x.2.2.1.length x.2.2.2.2] 31 (0,0))∧aN W.heap.size 85 2 (cm true) w' (.slice x.2.2.2.1 x.2.2.1.length x.2.2.2.2) x.2.2.1∧(x.1≤x62.byteV.toNat)∧(fy (x62.byteV.toNat-x.1) x.2.1 x.2.2.1=fy x62.byteV.toNat x76 [])∧(x.2.2.1.length≤x.1)) (fun x=>x62.byteV.toNat-x.1) (0,x76,[],none,0) ⟨au.refl _ _,cc,(aO i (Ne.symm hne) aP),aN.nil ..,(by(try dsimp only);omega),(by(try dsimp only);rw[Nat.sub_zero]),(by(try dsimp only);(try simp only[List.length_append,List.length_cons,List.length_nil]);omega)⟩ ?_
 rintro⟨k,C,L,A,cp⟩ X ⟨v,cd,cf,cg,ch,ci,cj⟩
 refine fz [(0,.pointer (some ⟨g,0,none⟩)),(1,.pointer (some ⟨gm,0,none⟩)),(70,.int .i64 x62.byteV),(71,.int .i64 ((k:Nat) : Int))] ?_
 have u:ae X g C:=cd
 have D:X.heap[gm]? = some (.cells #[.int .u8 c,.int .u8 0,.int .u16 0,.int .u16 0,.int .u16 0,.int .u16 0,.int .u16 0,.int .u16 0,.int .u16 0,.int .u16 0,.int .u16 0,.int .u16 0,.slice none 0 0,.slice none 0 0,.slice none 0 0,.slice none 0 0,.int .u8 me,.int .u8 kd,.int .u8 C0.byteV,.int .u8 x25.byteV,.int .u8 x44.byteV,.slice A L.length cp] 31 (0,0)):=cf
 have a:aN W.heap.size 85 2 (cm true) X (.slice A L.length cp) L:=cg
 have d8:k≤x62.byteV.toNat:=ch
 have d9:fy (x62.byteV.toNat-k) C L=fy x62.byteV.toNat x76 []:=ci
 have da:L.length≤k:=cj
 have hobj:fy (x62.byteV.toNat-k) C L=fy x62.byteV.toNat x76 []:=by assumption
 refine sg<|Pl 1<|nt<|sq<|?_
 refine cb ((decide (((k:Nat) : Int)<x62.byteV))) (fun Y=>?_) (fun Y=>?_)
 have cl:=of_decide_eq_true Y
 refine bB<|sq<|bk<|sg<|Pl 1<|L0<|Oc<|m3 (bi u) fun db aS y dc=>Pl 1<|nt<|Rg 17 (fun w'=>True) fun dd t=>be trivial fun z=>Rt 0 z<|?_
 refine Rt 1 z<|Rt 2 z<|Rt 3 z<|Rt 5 z<|Rt 6 z<|Rt 7 z<|?_
 refine R2 4 8 rfl rfl ?_ ?_
 have Z:=aE y t
 have a0:=aO Z (Ne.symm hne) D
 refine  aR a0 21<|be trivial fun de=>?_
 refine R0 8 rfl<|Oc<|m3 (bi (ae.old aS t)) fun df aU a1 dg=>be trivial fun cn=>Rr 9 cn (.int .i64 ((C.bytesC 1).byteV)) (fun _ _=>bV (.int .i64 (IntKind.i64.wrap ((C.bytesC 1).byteV))) (by kernel_rfl) (congrArg (Value.int .i64) (i64_in (by omega))))<|R0 10 rfl<|Oc<|nz (bC (n:=(C.bytesC 1).byteV) aU) fun co cq dh cr di dj cs a2=>?_
 have dk:=Nat.le_trans (ak.bytesR_le ((C.bytesC 1).bytesC 1) ((C.bytesC 1).byteV)) (ae.len aU)
 refine ab cs fun dl ct cv=>?_
 refine be trivial fun cw=>Rt 11 cw<|R0 12 rfl<|fk (m:=1) (e:=85) #[.int .u8 C.byteV,.slice co ((((C.bytesC 1).bytesC 1).bytesR ((C.bytesC 1).byteV)).length) cq] fun dm dn dp cx I=>?_
 have cy:=lM (R:=cm true) (x:=(Obj.mk C.byteV (((C.bytesC 1).bytesC 1).bytesR ((C.bytesC 1).byteV)))) cx rfl ⟨_,rfl,(aM.upd' cr I az),b8 (by omega)⟩
 refine be trivial fun dr=>?_
 have aV:=u1 a1 (aE a2 I) im
 have a3:=u1 Z aV im
 have aW:=am a a3 (fun x hx=>(aa (fun e=>(aq (ae.lt hC) (le (le (le (le (le (le (le (le (le (le (le b.size j.size) d.size) l.size) o.size) f.size) p.size) q.size) h.size) r.size) s.size) i.size) a) (e▸hx)) ax)) (cm.upd8 a3 (ah (ae.safe u _ (by decide)) az))
 refine R0 13 rfl<|hM (xs:=L) (ys:=([(Obj.mk C.byteV (((C.bytesC 1).bytesC 1).bytesR ((C.bytesC 1).byteV)))])) (.agg #[.int .u8 0,.slice none 0 0]) 2 32 aW cy (by simp) cm.ones (fun w' hv=>cm.upd8 hv (bS (ck _ aW (by decide)) az)) (by(try simp only[List.length_append,List.length_cons,List.length_nil,aT]);omega) (le (le (le (le (le v.size y.size) t.size) a1.size) a2.size) I.size) fun aX aY ds aZ b0=>be trivial fun b1=>Rt 14 b1<|Rt 15 b1<|?_
 have b2:=au.blk (ut (au.mono (S':=(g :: (ob A++[]))) aV (ac im av)) b0 (ap il av)) (aa (Ne.symm hne) (aK (aq (aj hm) (le (le (le (le (le (le (le (le (le (le (le b.size j.size) d.size) l.size) o.size) f.size) p.size) q.size) h.size) r.size) s.size) i.size) a) ax)) a0
 refine R0 16 rfl<|bO b2 21 (mG c 0 0 0 0 0 0 0 0 0 0 0 nS nS nS nS me kd C0.byteV x25.byteV x44.byteV (.slice aX ((L++[(Obj.mk C.byteV (((C.bytesC 1).bytesC 1).bytesR ((C.bytesC 1).byteV)))]).length) aY)) fun dt cz a4=>be trivial fun du=>re<|bn<|tn<|go<|L0<|Oi (((k:Nat) : Int)+1)<|Pl 1<|nl<|?_
 subst ct
 have b3:=u1 (au.mono (S':=(ob A++(gm :: []))) b0 (ap il av)) a4 im
 have b4:=u1 a1 a2 im
 have b5:=u1 Z b4 im
 exact dZ ((k+1),(((C.bytesC 1).bytesC 1).bytesC ((C.bytesC 1).byteV)),(L++[(Obj.mk C.byteV (((C.bytesC 1).bytesC 1).bytesR ((C.bytesC 1).byteV)))]),aX,aY) ⟨(ut v (ut (au.mono (S':=(g :: (ob A++(gm :: [])))) a3 (ac im av)) b3 (ap il (ac im av))) (ac im (ap (bt a lr) (ac im av)))),(ae.upd cv (ut (au.mono (S':=(ob A++(gm :: []))) I av) b3 (ap il (ac im av))) (aK (aq (ae.lt hC) (le (le (le (le (le (le (le (le (le (le (le b.size j.size) d.size) l.size) o.size) f.size) p.size) q.size) h.size) r.size) s.size) i.size) a) (aa hne ax)) (bS (ck _ (am a b5 (fun x hx=>(aa (fun e=>(aq (ae.lt hC) (le (le (le (le (le (le (le (le (le (le (le b.size j.size) d.size) l.size) o.size) f.size) p.size) q.size) h.size) r.size) s.size) i.size) a) (e▸hx)) ax)) (cm.upd8 b5 (ah (ae.safe u _ (by decide)) az))) (by decide)) (ah (aD (aO b4 (Ne.symm hne) a0) (by decide)) az))),cz,(am aZ a4 (fun x hx=>(aa (fun e=>(aq (aj hm) (le (le (le (le (le (le (le (le (le (le (le b.size j.size) d.size) l.size) o.size) f.size) p.size) q.size) h.size) r.size) s.size) i.size) aZ) (e▸hx)) ax)) (cm.upd8 a4 (ah (aD b2 (by decide)) az))),(by(try dsimp only);omega),(by(try dsimp only);rw[← hobj,show x62.byteV.toNat-k=(x62.byteV.toNat-(k+1))+1 from by omega];rfl),(by(try dsimp only);(try simp only[List.length_append,List.length_cons,List.length_nil]);omega)⟩ (by omega)
 refine  Oc<|m3 (bi (ae.old aS t)) fun dw J B dx=>be trivial fun cA=>Rr 9 cA (.int .i64 ((C.bytesC 1).byteV)) (fun _ _=>bV (.int .i64 (IntKind.i64.wrap ((C.bytesC 1).byteV))) (by kernel_rfl) (congrArg (Value.int .i64) (i64_in (by omega))))<|?_
 refine R2 4 10 rfl rfl ?_ ?_
 have a5:=u1 y (uz t B) im
 have a6:=aO a5 (Ne.symm hne) D
 refine  aR a6 21<|be trivial fun dy=>R0 10 rfl<|Oc<|nz (bC (n:=(C.bytesC 1).byteV) J) fun cB cC dz cD dA dB cE M=>?_
 have dC:=Nat.le_trans (ak.bytesR_le ((C.bytesC 1).bytesC 1) ((C.bytesC 1).byteV)) (ae.len J)
 refine ab cE fun dD cF cG=>?_
 refine be trivial fun cH=>Rt 11 cH<|R0 12 rfl<|fk (m:=1) (e:=85) #[.int .u8 C.byteV,.slice cB ((((C.bytesC 1).bytesC 1).bytesR ((C.bytesC 1).byteV)).length) cC] fun dE dF dG cI N=>?_
 have cJ:=lM (R:=cm true) (x:=(Obj.mk C.byteV (((C.bytesC 1).bytesC 1).bytesR ((C.bytesC 1).byteV)))) cI rfl ⟨_,rfl,(aM.upd' cD N az),b8 (by omega)⟩
 refine be trivial fun dH=>?_
 have b6:=aE M N
 have a7:=u1 a5 b6 im
 have b7:=am a a7 (fun x hx=>(aa (fun e=>(aq (ae.lt hC) (le (le (le (le (le (le (le (le (le (le (le b.size j.size) d.size) l.size) o.size) f.size) p.size) q.size) h.size) r.size) s.size) i.size) a) (e▸hx)) ax)) (cm.upd8 a7 (ah (ae.safe u _ (by decide)) az))
 refine R0 13 rfl<|hM (xs:=L) (ys:=([(Obj.mk C.byteV (((C.bytesC 1).bytesC 1).bytesR ((C.bytesC 1).byteV)))])) (.agg #[.int .u8 0,.slice none 0 0]) 2 32 b7 cJ (by simp) cm.ones (fun w' hv=>cm.upd8 hv (bS (ck _ b7 (by decide)) az)) (by(try simp only[List.length_append,List.length_cons,List.length_nil,aT]);omega) (le (le (le (le (le v.size y.size) t.size) B.size) M.size) N.size) fun b9 ba dI bb bc=>be trivial fun bd=>Rt 14 bd<|Rt 15 bd<|?_
 have bg:=au.blk (ut (au.mono (S':=(g :: (ob A++[]))) b6 (ac im av)) bc (ap il av)) (aa (Ne.symm hne) (aK (aq (aj hm) (le (le (le (le (le (le (le (le (le (le (le b.size j.size) d.size) l.size) o.size) f.size) p.size) q.size) h.size) r.size) s.size) i.size) a) ax)) a6
 refine R0 16 rfl<|bO bg 21 (mG c 0 0 0 0 0 0 0 0 0 0 0 nS nS nS nS me kd C0.byteV x25.byteV x44.byteV (.slice b9 ((L++[(Obj.mk C.byteV (((C.bytesC 1).bytesC 1).bytesR ((C.bytesC 1).byteV)))]).length) ba)) fun dJ cK a8=>be trivial fun dK=>re<|bn<|tn<|go<|L0<|Oi (((k:Nat) : Int)+1)<|Pl 1<|nl<|?_
 subst cF
 have bh:=u1 (au.mono (S':=(ob A++(gm :: []))) bc (ap il av)) a8 im
 have bj:=u1 a5 M im
 exact dZ ((k+1),(((C.bytesC 1).bytesC 1).bytesC ((C.bytesC 1).byteV)),(L++[(Obj.mk C.byteV (((C.bytesC 1).bytesC 1).bytesR ((C.bytesC 1).byteV)))]),b9,ba) ⟨(ut v (ut (au.mono (S':=(g :: (ob A++(gm :: [])))) a7 (ac im av)) bh (ap il (ac im av))) (ac im (ap (bt a lr) (ac im av)))),(ae.upd cG (ut (au.mono (S':=(ob A++(gm :: []))) N av) bh (ap il (ac im av))) (aK (aq (ae.lt hC) (le (le (le (le (le (le (le (le (le (le (le b.size j.size) d.size) l.size) o.size) f.size) p.size) q.size) h.size) r.size) s.size) i.size) a) (aa hne ax)) (bS (ck _ (am a bj (fun x hx=>(aa (fun e=>(aq (ae.lt hC) (le (le (le (le (le (le (le (le (le (le (le b.size j.size) d.size) l.size) o.size) f.size) p.size) q.size) h.size) r.size) s.size) i.size) a) (e▸hx)) ax)) (cm.upd8 bj (ah (ae.safe u _ (by decide)) az))) (by decide)) (ah (aD (aO M (Ne.symm hne) a6) (by decide)) az))),cK,(am bb a8 (fun x hx=>(aa (fun e=>(aq (aj hm) (le (le (le (le (le (le (le (le (le (le (le b.size j.size) d.size) l.size) o.size) f.size) p.size) q.size) h.size) r.size) s.size) i.size) bb) (e▸hx)) ax)) (cm.upd8 a8 (ah (aD bg (by decide)) az))),(by(try dsimp only);omega),(by(try dsimp only);rw[← hobj,show x62.byteV.toNat-k=(x62.byteV.toNat-(k+1))+1 from by omega];rfl),(by(try dsimp only);(try simp only[List.length_append,List.length_cons,List.length_nil]);omega)⟩ (by omega)
 refine  Oc<|nz (bC (n:=(C.bytesC 1).byteV) J) fun bm bo dL bp dM dN cL H=>?_
 have dO:=Nat.le_trans (ak.bytesR_le ((C.bytesC 1).bytesC 1) ((C.bytesC 1).byteV)) (ae.len J)
 refine ab cL fun dP bq br=>?_
 refine be trivial fun cM=>Rt 11 cM<|?_
 refine R2 4 12 rfl rfl ?_ ?_
 have O:=u1 y (uz t (u1 B H im)) im
 have a9:=aO O (Ne.symm hne) D
 refine  aR a9 21<|be trivial fun dQ=>R0 12 rfl<|fk (m:=1) (e:=85) #[.int .u8 C.byteV,.slice bm ((((C.bytesC 1).bytesC 1).bytesR ((C.bytesC 1).byteV)).length) bo] fun dR dS dT cN P=>?_
 have cO:=lM (R:=cm true) (x:=(Obj.mk C.byteV (((C.bytesC 1).bytesC 1).bytesR ((C.bytesC 1).byteV)))) cN rfl ⟨_,rfl,(aM.upd' bp P az),b8 (by omega)⟩
 refine be trivial fun dU=>?_
 have ad:=aE O P
 have bs:=am a ad (fun x hx=>(aa (fun e=>(aq (ae.lt hC) (le (le (le (le (le (le (le (le (le (le (le b.size j.size) d.size) l.size) o.size) f.size) p.size) q.size) h.size) r.size) s.size) i.size) a) (e▸hx)) ax)) (cm.upd8 ad (ah (ae.safe u _ (by decide)) az))
 refine R0 13 rfl<|hM (xs:=L) (ys:=([(Obj.mk C.byteV (((C.bytesC 1).bytesC 1).bytesR ((C.bytesC 1).byteV)))])) (.agg #[.int .u8 0,.slice none 0 0]) 2 32 bs cO (by simp) cm.ones (fun w' hv=>cm.upd8 hv (bS (ck _ bs (by decide)) az)) (by(try simp only[List.length_append,List.length_cons,List.length_nil,aT]);omega) (le (le (le (le (le v.size y.size) t.size) B.size) H.size) P.size) fun bv bw dV bz bA=>be trivial fun bE=>Rt 14 bE<|Rt 15 bE<|?_
 have bF:=ut (au.mono (S':=(ob A++[])) P av) bA (ap il av)
 have bG:=au.blk bF (aK (aq (aj hm) (le (le (le (le (le (le (le (le (le (le (le b.size j.size) d.size) l.size) o.size) f.size) p.size) q.size) h.size) r.size) s.size) i.size) a) ax) a9
 refine R0 16 rfl<|bO bG 21 (mG c 0 0 0 0 0 0 0 0 0 0 0 nS nS nS nS me kd C0.byteV x25.byteV x44.byteV (.slice bv ((L++[(Obj.mk C.byteV (((C.bytesC 1).bytesC 1).bytesR ((C.bytesC 1).byteV)))]).length) bw)) fun dW cP Q=>be trivial fun dX=>re<|bn<|tn<|go<|L0<|Oi (((k:Nat) : Int)+1)<|Pl 1<|nl<|?_
 subst bq
 exact dZ ((k+1),(((C.bytesC 1).bytesC 1).bytesC ((C.bytesC 1).byteV)),(L++[(Obj.mk C.byteV (((C.bytesC 1).bytesC 1).bytesR ((C.bytesC 1).byteV)))]),bv,bw) ⟨(ut v (ut (au.mono (S':=(g :: (ob A++(gm :: [])))) ad (ac im av)) (u1 (au.mono (S':=(ob A++(gm :: []))) bA (ap il av)) Q im) (ap il (ac im av))) (ac im (ap (bt a lr) (ac im av)))),(ae.upd br (u1 (au.mono (S':=(ob A++(gm :: []))) bF (ap il av)) Q im) (aK (aq (ae.lt hC) (le (le (le (le (le (le (le (le (le (le (le b.size j.size) d.size) l.size) o.size) f.size) p.size) q.size) h.size) r.size) s.size) i.size) a) (aa hne ax)) (bS (ck _ (am a O (fun x hx=>(aa (fun e=>(aq (ae.lt hC) (le (le (le (le (le (le (le (le (le (le (le b.size j.size) d.size) l.size) o.size) f.size) p.size) q.size) h.size) r.size) s.size) i.size) a) (e▸hx)) ax)) (cm.upd8 O (ah (ae.safe u _ (by decide)) az))) (by decide)) (ah (aD a9 (by decide)) az))),cP,(am bz Q (fun x hx=>(aa (fun e=>(aq (aj hm) (le (le (le (le (le (le (le (le (le (le (le b.size j.size) d.size) l.size) o.size) f.size) p.size) q.size) h.size) r.size) s.size) i.size) bz) (e▸hx)) ax)) (cm.upd8 Q (ah (aD bG (by decide)) az))),(by(try dsimp only);omega),(by(try dsimp only);rw[← hobj,show x62.byteV.toNat-k=(x62.byteV.toNat-(k+1))+1 from by omega];rfl),(by(try dsimp only);(try simp only[List.length_append,List.length_cons,List.length_nil]);omega)⟩ (by omega)
 refine  fk (m:=1) (e:=85) #[.int .u8 C.byteV,.slice bm ((((C.bytesC 1).bytesC 1).bytesR ((C.bytesC 1).byteV)).length) bo] fun dY e0 e1 cQ S=>?_
 have cR:=lM (R:=cm true) (x:=(Obj.mk C.byteV (((C.bytesC 1).bytesC 1).bytesR ((C.bytesC 1).byteV)))) cQ rfl ⟨_,rfl,(aM.upd' bp S az),b8 (by omega)⟩
 refine be trivial fun e2=>?_
 have T:=u1 y (uz t (u1 B (aE H S) im)) im
 have bH:=aO T (Ne.symm hne) D
 refine R0 4 rfl<|aR bH 21<|be trivial fun e3=>?_
 have bI:=am a T (fun x hx=>(aa (fun e=>(aq (ae.lt hC) (le (le (le (le (le (le (le (le (le (le (le b.size j.size) d.size) l.size) o.size) f.size) p.size) q.size) h.size) r.size) s.size) i.size) a) (e▸hx)) ax)) (cm.upd8 T (ah (ae.safe u _ (by decide)) az))
 refine R0 13 rfl<|hM (xs:=L) (ys:=([(Obj.mk C.byteV (((C.bytesC 1).bytesC 1).bytesR ((C.bytesC 1).byteV)))])) (.agg #[.int .u8 0,.slice none 0 0]) 2 32 bI cR (by simp) cm.ones (fun w' hv=>cm.upd8 hv (bS (ck _ bI (by decide)) az)) (by(try simp only[List.length_append,List.length_cons,List.length_nil,aT]);omega) (le (le (le (le (le v.size y.size) t.size) B.size) H.size) S.size) fun bJ bK e4 bL bM=>be trivial fun bN=>Rt 14 bN<|Rt 15 bN<|?_
 have bP:=au.blk bM (aK (aq (aj hm) (le (le (le (le (le (le (le (le (le (le (le b.size j.size) d.size) l.size) o.size) f.size) p.size) q.size) h.size) r.size) s.size) i.size) a) ax) bH
 refine R0 16 rfl<|bO bP 21 (mG c 0 0 0 0 0 0 0 0 0 0 0 nS nS nS nS me kd C0.byteV x25.byteV x44.byteV (.slice bJ ((L++[(Obj.mk C.byteV (((C.bytesC 1).bytesC 1).bytesR ((C.bytesC 1).byteV)))]).length) bK)) fun e5 cS af=>be trivial fun e6=>re<|bn<|tn<|go<|L0<|Oi (((k:Nat) : Int)+1)<|Pl 1<|nl<|?_
 subst bq
 have bQ:=u1 (au.mono (S':=(ob A++(gm :: []))) bM (ap il av)) af im
 have ai:=u1 y (uz t (u1 B H im)) im
 exact dZ ((k+1),(((C.bytesC 1).bytesC 1).bytesC ((C.bytesC 1).byteV)),(L++[(Obj.mk C.byteV (((C.bytesC 1).bytesC 1).bytesR ((C.bytesC 1).byteV)))]),bJ,bK) ⟨(ut v (ut (au.mono (S':=(g :: (ob A++(gm :: [])))) T (ac im av)) bQ (ap il (ac im av))) (ac im (ap (bt a lr) (ac im av)))),(ae.upd br (ut (au.mono (S':=(ob A++(gm :: []))) S av) bQ (ap il (ac im av))) (aK (aq (ae.lt hC) (le (le (le (le (le (le (le (le (le (le (le b.size j.size) d.size) l.size) o.size) f.size) p.size) q.size) h.size) r.size) s.size) i.size) a) (aa hne ax)) (bS (ck _ (am a ai (fun x hx=>(aa (fun e=>(aq (ae.lt hC) (le (le (le (le (le (le (le (le (le (le (le b.size j.size) d.size) l.size) o.size) f.size) p.size) q.size) h.size) r.size) s.size) i.size) a) (e▸hx)) ax)) (cm.upd8 ai (ah (ae.safe u _ (by decide)) az))) (by decide)) (ah (aD (aO ai (Ne.symm hne) D) (by decide)) az))),cS,(am bL af (fun x hx=>(aa (fun e=>(aq (aj hm) (le (le (le (le (le (le (le (le (le (le (le b.size j.size) d.size) l.size) o.size) f.size) p.size) q.size) h.size) r.size) s.size) i.size) bL) (e▸hx)) ax)) (cm.upd8 af (ah (aD bP (by decide)) az))),(by(try dsimp only);omega),(by(try dsimp only);rw[← hobj,show x62.byteV.toNat-k=(x62.byteV.toNat-(k+1))+1 from by omega];rfl),(by(try dsimp only);(try simp only[List.length_append,List.length_cons,List.length_nil]);omega)⟩ (by omega)
 have cl:=of_decide_eq_false Y
 refine xt<|tx<|tx<|bx<|rm (.tuple #[])<|?_
 subst ca c5 c0 bU
 have hf:dv kd C0=(C,L):=by
   have h1:fy ((((((C0.bytesC 1).need (bu C0.byteV) 6).bytesC 1).need ((((C0.bytesC 1).need (bu C0.byteV) 6).byteV==0)||(((C0.bytesC 1).need (bu C0.byteV) 6).byteV==255)) 6).bytesC 1).need ((((C0.bytesC 1).need (bu C0.byteV) 6).byteV != 0)||(((((C0.bytesC 1).need (bu C0.byteV) 6).bytesC 1).need ((((C0.bytesC 1).need (bu C0.byteV) 6).byteV==0)||(((C0.bytesC 1).need (bu C0.byteV) 6).byteV==255)) 6).byteV==0)) 6).byteV.toNat ((((((((C0.bytesC 1).need (bu C0.byteV) 6).bytesC 1).need ((((C0.bytesC 1).need (bu C0.byteV) 6).byteV==0)||(((C0.bytesC 1).need (bu C0.byteV) 6).byteV==255)) 6).bytesC 1).need ((((C0.bytesC 1).need (bu C0.byteV) 6).byteV != 0)||(((((C0.bytesC 1).need (bu C0.byteV) 6).bytesC 1).need ((((C0.bytesC 1).need (bu C0.byteV) 6).byteV==0)||(((C0.bytesC 1).need (bu C0.byteV) 6).byteV==255)) 6).byteV==0)) 6).bytesC 1).need ((kd != 4)||(((((((C0.bytesC 1).need (bu C0.byteV) 6).bytesC 1).need ((((C0.bytesC 1).need (bu C0.byteV) 6).byteV==0)||(((C0.bytesC 1).need (bu C0.byteV) 6).byteV==255)) 6).bytesC 1).need ((((C0.bytesC 1).need (bu C0.byteV) 6).byteV != 0)||(((((C0.bytesC 1).need (bu C0.byteV) 6).bytesC 1).need ((((C0.bytesC 1).need (bu C0.byteV) 6).byteV==0)||(((C0.bytesC 1).need (bu C0.byteV) 6).byteV==255)) 6).byteV==0)) 6).byteV==1)) 5) []=(C,L):=by
     rw[← hobj,show((((((C0.bytesC 1).need (bu C0.byteV) 6).bytesC 1).need ((((C0.bytesC 1).need (bu C0.byteV) 6).byteV==0)||(((C0.bytesC 1).need (bu C0.byteV) 6).byteV==255)) 6).bytesC 1).need ((((C0.bytesC 1).need (bu C0.byteV) 6).byteV != 0)||(((((C0.bytesC 1).need (bu C0.byteV) 6).bytesC 1).need ((((C0.bytesC 1).need (bu C0.byteV) 6).byteV==0)||(((C0.bytesC 1).need (bu C0.byteV) 6).byteV==255)) 6).byteV==0)) 6).byteV.toNat-k=0 from by omega]
     rfl
   exact h1
 rw[hf]
 exact⟨rfl,u,⟨_,⟨D,rfl⟩,⟨_,_,_,_,_,rfl,aH.nil ..,aH.nil ..,aH.nil ..,aH.nil ..,(a).rd,⟨(b8 (x:=c) (by omega)),(b8 (x:=0) (by omega)),(aB (x:=0) (by omega)),(aB (x:=0) (by omega)),(aB (x:=0) (by omega)),(aB (x:=0) (by omega)),(aB (x:=0) (by omega)),(aB (x:=0) (by omega)),(aB (x:=0) (by omega)),(aB (x:=0) (by omega)),(aB (x:=0) (by omega)),(aB (x:=0) (by omega)),(b8 (x:=me) (by omega)),(b8 (x:=kd) (by omega)),(b8 (x:=C0.byteV) (by omega)),(b8 (x:=((C0.bytesC 1).need (bu C0.byteV) 6).byteV) (by omega)),(b8 (x:=((((C0.bytesC 1).need (bu C0.byteV) 6).bytesC 1).need ((((C0.bytesC 1).need (bu C0.byteV) 6).byteV==0)||(((C0.bytesC 1).need (bu C0.byteV) 6).byteV==255)) 6).byteV) (by omega))⟩⟩⟩,(ui b (ui an (ui ao (ui f (ui aC (ui h (ui aJ (ui i v))))))))⟩
open Go.RowKit
def e7 (C:ak) : ak:=(C.bytesC 1).need (C.byteV==13 || C.byteV==14) 8
def fg (C:ak) : ak:=(e7 C).need (decide (((e7 C).l.length:Int)≤251)) 5
def eF (C:ak) : ak:=((e7 C).bytesC 1).need (decide (1≤(e7 C).byteV)&&decide ((e7 C).byteV≤4)) 6
def bq (dir c:Int)(C:ak) : Option (ak × bf) :=
  if c != 43 then none
  else if C.byteV==13 then some ((fg C).bytesC ((fg C).l.length:Int),{ bf.zero with code:=c,mei:=C.byteV,data:=(fg C).bytesR ((fg C).l.length:Int) })
  else if dir==1 then some ((dv (e7 C).byteV (eF C)).1,{ bf.zero with code:=c,mei:=C.byteV,kind:=(e7 C).byteV,level:=(eF C).byteV,more:=(kc (eF C)).byteV,next:=(nG (eF C)).byteV,objects:=(dv (e7 C).byteV (eF C)).2 })
  else some ((eF C).bytesC 1,{ bf.zero with code:=c,mei:=C.byteV,kind:=(e7 C).byteV,next:=(eF C).byteV })
theorem kv{m:Bool}{A:Option Addr}{cp:Nat}{b:List Int}{w:World}{c:Int}(hcode:B8 c)(hsl:aM m w (.slice A b.length cp) b)(hb:b.length≤1048576) :
    Calls Tryz.prog 66 #[.int .i64 0,.int .u8 c,.slice A b.length cp] w (cO (al bq 0 c b) w):=by
 obtain⟨hcode1,hcode2⟩:=hcode
 have hln:(b.length:Int)≤1048576:=by omega
 refine en 81 Tryz.func66 rfl<|sg<|L0<|bz mZ fun O bh q i j=>Pl 1<|nt<|sq<|bk<|sg<|Pl 7<|nt<|?_
 refine c0<|sg<|Pl 3<|nt<|cb ((c != 43)) (fun f=>?_) (fun f=>?_)
 have aq:=ay f
 refine sg<|Pl 1<|L0<|b6 i mZ fun bj ar aw=>Pl 1<|nt<|rt<|br<|tr<|cc ar (.int .i64 4)<|?_
 have hs:al bq 0 c b=(bf.zero,4):=by
   unfold al bq fg eF e7
   (try simp only[f,bs,if_true,if_false,decide_true,decide_false,eq_self,true_or,or_true,or_false,false_or,if_true,if_false,cJ,cK,cF,cI,reduceIte])
   all_goals rfl
 rw[hs]
 exact bE (ud j aw q)
 have aq:=ag f
 refine sk<|bn<|tn<|sg<|Pl 1<|?_
 refine L0<|Oc<|e3 (cl (aM.old hsl j) (by omega)) fun P bm a Q k=>Pl 1<|ng<|Pl 2<|L0<|Oc<|m3 (bi Q) fun bo aC g bp=>Pl 1<|L0<|bz mZ fun R bt h aF aI=>L0<|b6 aF (mG c 0 0 0 0 0 0 0 0 0 0 0 nS nS nS nS ((ak.mk b false 0).byteV) 0 0 0 0 nS) fun bu E aJ=>nt<|sq<|?_
 refine go<|Pl 2<|L0<|aR E 16<|Pl 2<|cu 4 [33] 37 (((((ak.mk b false 0).byteV)==13)||(((ak.mk b false 0).byteV)==14))) (fun K S=>?_) ?_
 refine bl 33 ((((ak.mk b false 0).byteV)==13)) (fun r=>?_) (fun r=>?_)
 have aK:=aA r
 exact Pl 4<|ce S true (by rw[r];rfl)
 have aK:=aG r
 exact Pl 1<|L1<|aR E 16<|Pl 2<|ce S (((ak.mk b false 0).byteV)==14) (by rw[r];rfl)
 have T:=ud aI aJ h
 refine L0<|Oc<|m2 (aL (((((ak.mk b false 0).byteV)==13)||(((ak.mk b false 0).byteV)==14))) 8 (ae.old aC T)) fun bv aN U=>?_
 refine ab aN fun g7 v y=>?_
 refine nt<|sq<|sg<|Pl 1<|?_
 have d:=nb (ae.lt Q) g.size h
 have F:=aO U (Ne.symm d) E
 refine L0<|aR F 16<|Pl 1<|nt<|?_
 have o:=ud k (u1 g (uz T U) im) a
 have V:=aE j o
 refine cb ((((ak.mk b false 0).byteV)==13)) (fun p=>?_) (fun p=>?_)
 have aP:=aA p
 refine sg<|Pl 2<|L0<|Oc<|mq (cE y)<|?_
 have bw:=ae.len y
 refine Pl 1<|L0<|Oc<|m2 (aL ((decide (((g7.l.length:Nat) : Int)≤251))) 5 y) fun bx aT aU=>?_
 refine ab aT fun x59 W z=>?_
 refine nt<|go<|Pl 2<|L0<|Oc<|mq (cE z)<|?_
 have bD:=ae.len z
 refine L0<|Oc<|nz (bC (n:=((x59.l.length:Nat) : Int)) z) fun X Y bF Z bG bH aV aW=>?_
 have bI:=Nat.le_trans (ak.bytesR_le x59 ((x59.l.length:Nat) : Int)) (ae.len z)
 refine ab aV fun x69 a0 G=>?_
 refine Pl 1<|?_
 have B:=u1 aU aW im
 have C:=aO B (Ne.symm d) F
 refine L0<|bO C 14 (mG c 0 0 0 0 0 0 0 0 0 0 0 nS nS (.slice X ((x59.bytesR ((x59.l.length:Nat) : Int)).length) Y) nS ((ak.mk b false 0).byteV) 0 0 0 0 nS) fun bJ aZ a1=>ng<|Pl 1<|?_
 refine L0<|Oc<|m2 (bA (ae.upd G a1 (aa d ax) (ah (aD C (by decide)) az))) fun bK a2 a3=>nt<|sq<|sg<|Pl 1<|L0<|Oc<|mq (aX a2)<|?_
 have bL:=ae.len a2
 refine Pl 1<|ng<|Pl 2<|nt<|?_
 have H:=us a1 a3
 have I:=ui B H
 have a4:=ut V I (ac (ni (le (le j.size k.size) g.size) h) (ac (ni j.size a) av))
 refine cb ((x69.endC.e != 0)) (fun s=>?_) (fun s=>?_)
 have J:=ay s
 refine sg<|Pl 2<|?_
 refine L0<|b6 (ub (ut o I (ac (ni (le k.size g.size) h) (ac (nr a) av))) i) mZ fun bM b0 a5=>Pl 1<|nt<|rt<|tr<|cc b0 (.int .i64 x69.endC.e)<|?_
 subst a0 W v
 have bN:=aM.upd' Z (u1 (au.mono (S':=[R,P,O]) H (ac im (ac im av))) a5 im) (ah (aD C (by decide)) (ah (ae.safe G _ (by decide)) (ah (aD (ub (ud o B a) i) (by decide)) az)))
 have hs:al bq 0 c b=aQ (bf.mk c 0 0 0 0 0 0 0 0 0 0 0 [] [] (((((ak.mk b false 0).bytesC 1).need ((((ak.mk b false 0).byteV)==13)||(((ak.mk b false 0).byteV)==14)) 8).need (decide ((((((ak.mk b false 0).bytesC 1).need ((((ak.mk b false 0).byteV)==13)||(((ak.mk b false 0).byteV)==14)) 8).l.length:Nat) : Int)≤251)) 5).bytesR ((((((ak.mk b false 0).bytesC 1).need ((((ak.mk b false 0).byteV)==13)||(((ak.mk b false 0).byteV)==14)) 8).need (decide ((((((ak.mk b false 0).bytesC 1).need ((((ak.mk b false 0).byteV)==13)||(((ak.mk b false 0).byteV)==14)) 8).l.length:Nat) : Int)≤251)) 5).l.length:Nat) : Int)) [] ((ak.mk b false 0).byteV) 0 0 0 0 []) (((((ak.mk b false 0).bytesC 1).need ((((ak.mk b false 0).byteV)==13)||(((ak.mk b false 0).byteV)==14)) 8).need (decide ((((((ak.mk b false 0).bytesC 1).need ((((ak.mk b false 0).byteV)==13)||(((ak.mk b false 0).byteV)==14)) 8).l.length:Nat) : Int)≤251)) 5).bytesC ((((((ak.mk b false 0).bytesC 1).need ((((ak.mk b false 0).byteV)==13)||(((ak.mk b false 0).byteV)==14)) 8).need (decide ((((((ak.mk b false 0).bytesC 1).need ((((ak.mk b false 0).byteV)==13)||(((ak.mk b false 0).byteV)==14)) 8).l.length:Nat) : Int)≤251)) 5).l.length:Nat) : Int)):=by
   unfold al bq fg eF e7
   (try simp only[f,p,s,bs,if_true,if_false,decide_true,decide_false,eq_self,true_or,or_true,or_false,false_or,if_true,if_false,cJ,cK,cF,cI,reduceIte])
   all_goals rfl
 rw[hs]
 exact aS J (ud a4 a5 q)
 have J:=ag s
 refine bB<|sg<|?_
 refine L0<|c9 (aO a3 (Ne.symm d) aZ)<|?_
 refine L0<|b6 (ub (ut o I (ac (ni (le k.size g.size) h) (ac (nr a) av))) i) (mG c 0 0 0 0 0 0 0 0 0 0 0 nS nS (.slice X ((x59.bytesR ((x59.l.length:Nat) : Int)).length) Y) nS ((ak.mk b false 0).byteV) 0 0 0 0 nS) fun bP b1 a6=>Pl 1<|nt<|rt<|cc b1 (.int .i64 0)<|?_
 subst a0 W v
 have hs:al bq 0 c b=aQ (bf.mk c 0 0 0 0 0 0 0 0 0 0 0 [] [] (((((ak.mk b false 0).bytesC 1).need ((((ak.mk b false 0).byteV)==13)||(((ak.mk b false 0).byteV)==14)) 8).need (decide ((((((ak.mk b false 0).bytesC 1).need ((((ak.mk b false 0).byteV)==13)||(((ak.mk b false 0).byteV)==14)) 8).l.length:Nat) : Int)≤251)) 5).bytesR ((((((ak.mk b false 0).bytesC 1).need ((((ak.mk b false 0).byteV)==13)||(((ak.mk b false 0).byteV)==14)) 8).need (decide ((((((ak.mk b false 0).bytesC 1).need ((((ak.mk b false 0).byteV)==13)||(((ak.mk b false 0).byteV)==14)) 8).l.length:Nat) : Int)≤251)) 5).l.length:Nat) : Int)) [] ((ak.mk b false 0).byteV) 0 0 0 0 []) (((((ak.mk b false 0).bytesC 1).need ((((ak.mk b false 0).byteV)==13)||(((ak.mk b false 0).byteV)==14)) 8).need (decide ((((((ak.mk b false 0).bytesC 1).need ((((ak.mk b false 0).byteV)==13)||(((ak.mk b false 0).byteV)==14)) 8).l.length:Nat) : Int)≤251)) 5).bytesC ((((((ak.mk b false 0).bytesC 1).need ((((ak.mk b false 0).byteV)==13)||(((ak.mk b false 0).byteV)==14)) 8).need (decide ((((((ak.mk b false 0).bytesC 1).need ((((ak.mk b false 0).byteV)==13)||(((ak.mk b false 0).byteV)==14)) 8).l.length:Nat) : Int)≤251)) 5).l.length:Nat) : Int)):=by
   unfold al bq fg eF e7
   (try simp only[f,p,s,bs,if_true,if_false,decide_true,decide_false,eq_self,true_or,or_true,or_false,false_or,if_true,if_false,cJ,cK,cF,cI,reduceIte])
   all_goals rfl
 rw[hs]
 exact aY J ⟨_,_,_,_,_,rfl,aH.nil ..,aH.nil ..,(aM.upd' Z (u1 (au.mono (S':=[R,P,O]) H (ac im (ac im av))) a6 im) (ah (aD C (by decide)) (ah (ae.safe G _ (by decide)) (ah (aD (ub (ud o B a) i) (by decide)) az)))),aH.nil ..,aH.nil ..,⟨(b8 (x:=c) (by omega)),(b8 (x:=0) (by omega)),(aB (x:=0) (by omega)),(aB (x:=0) (by omega)),(aB (x:=0) (by omega)),(aB (x:=0) (by omega)),(aB (x:=0) (by omega)),(aB (x:=0) (by omega)),(aB (x:=0) (by omega)),(aB (x:=0) (by omega)),(aB (x:=0) (by omega)),(aB (x:=0) (by omega)),(b8 (x:=(ak.mk b false 0).byteV) (by omega)),(b8 (x:=0) (by omega)),(b8 (x:=0) (by omega)),(b8 (x:=0) (by omega)),(b8 (x:=0) (by omega))⟩⟩ (ud a4 a6 q)
 have aP:=aG p
 refine sg<|Pl 1<|L0<|Oc<|m3 (bi y) fun bQ b2 a7 bR=>Pl 1<|?_
 have a8:=aO a7 (Ne.symm d) F
 refine L0<|bO a8 17 (mG c 0 0 0 0 0 0 0 0 0 0 0 nS nS nS nS ((ak.mk b false 0).byteV) g7.byteV 0 0 0 nS) fun bS L a9=>ng<|Pl 2<|L0<|aR L 17<|Pl 2<|cu 4 [59] 63 (((decide (1≤g7.byteV))&&(decide (g7.byteV≤4)))) (fun K ad=>?_) ?_
 refine bl 59 ((decide (1≤g7.byteV))) (fun t=>?_) (fun t=>?_)
 have b3:=of_decide_eq_true t
 exact Pl 1<|L1<|aR L 17<|Pl 2<|ce ad (decide (g7.byteV≤4)) (by rw[t];rfl)
 have b3:=of_decide_eq_false t
 exact Pl 4<|ce ad false (by rw[t];rfl)
 refine L0<|Oc<|m2 (aL (((decide (1≤g7.byteV))&&(decide (g7.byteV≤4)))) 6 (ae.upd b2 a9 (aa d ax) (ah (aD a8 (by decide)) az))) fun bT b4 b5=>?_
 refine ab b4 fun D af b7=>?_
 refine ng<|Pl 2<|nt<|c0<|go<|Pl 1<|L0<|Oc<|m3 (bi b7) fun bU b9 ba bV=>Pl 1<|?_
 have ai:=u1 b5 ba im
 have aj:=aO ai (Ne.symm d) L
 refine L0<|bO aj 20 (mG c 0 0 0 0 0 0 0 0 0 0 0 nS nS nS nS ((ak.mk b false 0).byteV) g7.byteV 0 0 D.byteV nS) fun bW bb am=>ng<|Pl 1<|?_
 refine L0<|Oc<|m2 (bA (ae.upd b9 am (aa d ax) (ah (aD aj (by decide)) az))) fun bX an ao=>nt<|sq<|sg<|Pl 1<|L0<|Oc<|mq (aX an)<|?_
 have bY:=ae.len an
 refine Pl 1<|ng<|Pl 2<|nt<|?_
 have M:=ui a7 (ui a9 (ui ai (us am ao)))
 have ap:=ut V M (ac (ni (le (le j.size k.size) g.size) h) (ac (ni j.size a) av))
 refine cb (((((D.bytesC 1).endC).e)!=0)) (fun u=>?_) (fun u=>?_)
 have N:=ay u
 refine sg<|Pl 2<|?_
 refine L0<|b6 (ub (ut o M (ac (ni (le k.size g.size) h) (ac (nr a) av))) i) mZ fun bZ bc bd=>Pl 1<|nt<|rt<|tr<|cc bc (.int .i64 (((D.bytesC 1).endC).e))<|?_
 subst af v
 have hs:al bq 0 c b=aQ (bf.mk c 0 0 0 0 0 0 0 0 0 0 0 [] [] [] [] ((ak.mk b false 0).byteV) ((((ak.mk b false 0).bytesC 1).need ((((ak.mk b false 0).byteV)==13)||(((ak.mk b false 0).byteV)==14)) 8).byteV) 0 0 ((((((ak.mk b false 0).bytesC 1).need ((((ak.mk b false 0).byteV)==13)||(((ak.mk b false 0).byteV)==14)) 8).bytesC 1).need ((decide (1≤(((ak.mk b false 0).bytesC 1).need ((((ak.mk b false 0).byteV)==13)||(((ak.mk b false 0).byteV)==14)) 8).byteV))&&(decide ((((ak.mk b false 0).bytesC 1).need ((((ak.mk b false 0).byteV)==13)||(((ak.mk b false 0).byteV)==14)) 8).byteV≤4))) 6).byteV) []) ((((((ak.mk b false 0).bytesC 1).need ((((ak.mk b false 0).byteV)==13)||(((ak.mk b false 0).byteV)==14)) 8).bytesC 1).need ((decide (1≤(((ak.mk b false 0).bytesC 1).need ((((ak.mk b false 0).byteV)==13)||(((ak.mk b false 0).byteV)==14)) 8).byteV))&&(decide ((((ak.mk b false 0).bytesC 1).need ((((ak.mk b false 0).byteV)==13)||(((ak.mk b false 0).byteV)==14)) 8).byteV≤4))) 6).bytesC 1):=by
   unfold al bq fg eF e7
   (try simp only[f,p,u,bs,if_true,if_false,decide_true,decide_false,eq_self,true_or,or_true,or_false,false_or,if_true,if_false,cJ,cK,cF,cI,reduceIte])
   all_goals rfl
 rw[hs]
 exact aS N (ud ap bd q)
 have N:=ag u
 refine bB<|sg<|?_
 refine L0<|c9 (aO ao (Ne.symm d) bb)<|?_
 refine L0<|b6 (ub (ut o M (ac (ni (le k.size g.size) h) (ac (nr a) av))) i) (mG c 0 0 0 0 0 0 0 0 0 0 0 nS nS nS nS ((ak.mk b false 0).byteV) g7.byteV 0 0 D.byteV nS) fun c1 be bg=>Pl 1<|nt<|rt<|cc be (.int .i64 0)<|?_
 subst af v
 have hs:al bq 0 c b=aQ (bf.mk c 0 0 0 0 0 0 0 0 0 0 0 [] [] [] [] ((ak.mk b false 0).byteV) ((((ak.mk b false 0).bytesC 1).need ((((ak.mk b false 0).byteV)==13)||(((ak.mk b false 0).byteV)==14)) 8).byteV) 0 0 ((((((ak.mk b false 0).bytesC 1).need ((((ak.mk b false 0).byteV)==13)||(((ak.mk b false 0).byteV)==14)) 8).bytesC 1).need ((decide (1≤(((ak.mk b false 0).bytesC 1).need ((((ak.mk b false 0).byteV)==13)||(((ak.mk b false 0).byteV)==14)) 8).byteV))&&(decide ((((ak.mk b false 0).bytesC 1).need ((((ak.mk b false 0).byteV)==13)||(((ak.mk b false 0).byteV)==14)) 8).byteV≤4))) 6).byteV) []) ((((((ak.mk b false 0).bytesC 1).need ((((ak.mk b false 0).byteV)==13)||(((ak.mk b false 0).byteV)==14)) 8).bytesC 1).need ((decide (1≤(((ak.mk b false 0).bytesC 1).need ((((ak.mk b false 0).byteV)==13)||(((ak.mk b false 0).byteV)==14)) 8).byteV))&&(decide ((((ak.mk b false 0).bytesC 1).need ((((ak.mk b false 0).byteV)==13)||(((ak.mk b false 0).byteV)==14)) 8).byteV≤4))) 6).bytesC 1):=by
   unfold al bq fg eF e7
   (try simp only[f,p,u,bs,if_true,if_false,decide_true,decide_false,eq_self,true_or,or_true,or_false,false_or,if_true,if_false,cJ,cK,cF,cI,reduceIte])
   all_goals rfl
 rw[hs]
 exact aY N ⟨_,_,_,_,_,rfl,aH.nil ..,aH.nil ..,aH.nil ..,aH.nil ..,aH.nil ..,⟨(b8 (x:=c) (by omega)),(b8 (x:=0) (by omega)),(aB (x:=0) (by omega)),(aB (x:=0) (by omega)),(aB (x:=0) (by omega)),(aB (x:=0) (by omega)),(aB (x:=0) (by omega)),(aB (x:=0) (by omega)),(aB (x:=0) (by omega)),(aB (x:=0) (by omega)),(aB (x:=0) (by omega)),(aB (x:=0) (by omega)),(b8 (x:=(ak.mk b false 0).byteV) (by omega)),(b8 (x:=(((ak.mk b false 0).bytesC 1).need ((((ak.mk b false 0).byteV)==13)||(((ak.mk b false 0).byteV)==14)) 8).byteV) (by omega)),(b8 (x:=0) (by omega)),(b8 (x:=0) (by omega)),(b8 (x:=(((((ak.mk b false 0).bytesC 1).need ((((ak.mk b false 0).byteV)==13)||(((ak.mk b false 0).byteV)==14)) 8).bytesC 1).need ((decide (1≤(((ak.mk b false 0).bytesC 1).need ((((ak.mk b false 0).byteV)==13)||(((ak.mk b false 0).byteV)==14)) 8).byteV))&&(decide ((((ak.mk b false 0).bytesC 1).need ((((ak.mk b false 0).byteV)==13)||(((ak.mk b false 0).byteV)==14)) 8).byteV≤4))) 6).byteV) (by omega))⟩⟩ (ud ap bg q)
theorem ke{m:Bool}{A:Option Addr}{cp:Nat}{b:List Int}{w:World}{c:Int}(hcode:B8 c)(hsl:aM m w (.slice A b.length cp) b)(hb:b.length≤1048576) :
    Calls Tryz.prog 66 #[.int .i64 1,.int .u8 c,.slice A b.length cp] w (cO (al bq 1 c b) w):=by
 obtain⟨hcode1,hcode2⟩:=hcode
 have hln:(b.length:Int)≤1048576:=by omega
 refine en 81 Tryz.func66 rfl<|sg<|L0<|bz mZ fun T bp q h o=>Pl 1<|nt<|sq<|bk<|sg<|Pl 7<|nt<|?_
 refine c0<|sg<|Pl 3<|nt<|cb ((c != 43)) (fun i=>?_) (fun i=>?_)
 have aF:=ay i
 refine sg<|Pl 1<|L0<|b6 h mZ fun bt aI aJ=>Pl 1<|nt<|rt<|br<|tr<|cc aI (.int .i64 4)<|?_
 have hs:al bq 1 c b=(bf.zero,4):=by
   unfold al bq fg eF e7
   (try simp only[i,bs,if_true,if_false,decide_true,decide_false,eq_self,true_or,or_true,or_false,false_or,if_true,if_false,cJ,cK,cF,cI,reduceIte])
   all_goals rfl
 rw[hs]
 exact bE (ud o aJ q)
 have aF:=ag i
 refine sk<|bn<|tn<|sg<|Pl 1<|?_
 refine L0<|Oc<|e3 (cl (aM.old hsl o) (by omega)) fun U bu a V j=>Pl 1<|ng<|Pl 2<|L0<|Oc<|m3 (bi V) fun bv aK d bw=>Pl 1<|L0<|bz mZ fun W bx f aN aT=>L0<|b6 aN (mG c 0 0 0 0 0 0 0 0 0 0 0 nS nS nS nS ((ak.mk b false 0).byteV) 0 0 0 0 nS) fun bD E aV=>nt<|sq<|?_
 refine go<|Pl 2<|L0<|aR E 16<|Pl 2<|cu 4 [33] 37 (((((ak.mk b false 0).byteV)==13)||(((ak.mk b false 0).byteV)==14))) (fun K X=>?_) ?_
 refine bl 33 ((((ak.mk b false 0).byteV)==13)) (fun r=>?_) (fun r=>?_)
 have aW:=aA r
 exact Pl 4<|ce X true (by rw[r];rfl)
 have aW:=aG r
 exact Pl 1<|L1<|aR E 16<|Pl 2<|ce X (((ak.mk b false 0).byteV)==14) (by rw[r];rfl)
 have Y:=ud aT aV f
 refine L0<|Oc<|m2 (aL (((((ak.mk b false 0).byteV)==13)||(((ak.mk b false 0).byteV)==14))) 8 (ae.old aK Y)) fun bF aZ Z=>?_
 refine ab aZ fun g7 v y=>?_
 refine nt<|sq<|sg<|Pl 1<|?_
 have g:=nb (ae.lt V) d.size f
 have F:=aO Z (Ne.symm g) E
 refine L0<|aR F 16<|Pl 1<|nt<|?_
 have k:=ud j (u1 d (uz Y Z) im) a
 have a0:=aE o k
 refine cb ((((ak.mk b false 0).byteV)==13)) (fun p=>?_) (fun p=>?_)
 have b0:=aA p
 refine sg<|Pl 2<|L0<|Oc<|mq (cE y)<|?_
 have bG:=ae.len y
 refine Pl 1<|L0<|Oc<|m2 (aL ((decide (((g7.l.length:Nat) : Int)≤251))) 5 y) fun bH b1 b2=>?_
 refine ab b1 fun x59 a1 z=>?_
 refine nt<|go<|Pl 2<|L0<|Oc<|mq (cE z)<|?_
 have bI:=ae.len z
 refine L0<|Oc<|nz (bC (n:=((x59.l.length:Nat) : Int)) z) fun a2 a3 bJ a4 bK bL b3 b4=>?_
 have bM:=Nat.le_trans (ak.bytesR_le x59 ((x59.l.length:Nat) : Int)) (ae.len z)
 refine ab b3 fun x69 a5 G=>?_
 refine Pl 1<|?_
 have B:=u1 b2 b4 im
 have C:=aO B (Ne.symm g) F
 refine L0<|bO C 14 (mG c 0 0 0 0 0 0 0 0 0 0 0 nS nS (.slice a2 ((x59.bytesR ((x59.l.length:Nat) : Int)).length) a3) nS ((ak.mk b false 0).byteV) 0 0 0 0 nS) fun bN b5 a6=>ng<|Pl 1<|?_
 refine L0<|Oc<|m2 (bA (ae.upd G a6 (aa g ax) (ah (aD C (by decide)) az))) fun bP a7 a8=>nt<|sq<|sg<|Pl 1<|L0<|Oc<|mq (aX a7)<|?_
 have bQ:=ae.len a7
 refine Pl 1<|ng<|Pl 2<|nt<|?_
 have H:=us a6 a8
 have I:=ui B H
 have a9:=ut a0 I (ac (ni (le (le o.size j.size) d.size) f) (ac (ni o.size a) av))
 refine cb ((x69.endC.e != 0)) (fun s=>?_) (fun s=>?_)
 have J:=ay s
 refine sg<|Pl 2<|?_
 refine L0<|b6 (ub (ut k I (ac (ni (le j.size d.size) f) (ac (nr a) av))) h) mZ fun bR b7 ad=>Pl 1<|nt<|rt<|tr<|cc b7 (.int .i64 x69.endC.e)<|?_
 subst a5 a1 v
 have bS:=aM.upd' a4 (u1 (au.mono (S':=[W,U,T]) H (ac im (ac im av))) ad im) (ah (aD C (by decide)) (ah (ae.safe G _ (by decide)) (ah (aD (ub (ud k B a) h) (by decide)) az)))
 have hs:al bq 1 c b=aQ (bf.mk c 0 0 0 0 0 0 0 0 0 0 0 [] [] (((((ak.mk b false 0).bytesC 1).need ((((ak.mk b false 0).byteV)==13)||(((ak.mk b false 0).byteV)==14)) 8).need (decide ((((((ak.mk b false 0).bytesC 1).need ((((ak.mk b false 0).byteV)==13)||(((ak.mk b false 0).byteV)==14)) 8).l.length:Nat) : Int)≤251)) 5).bytesR ((((((ak.mk b false 0).bytesC 1).need ((((ak.mk b false 0).byteV)==13)||(((ak.mk b false 0).byteV)==14)) 8).need (decide ((((((ak.mk b false 0).bytesC 1).need ((((ak.mk b false 0).byteV)==13)||(((ak.mk b false 0).byteV)==14)) 8).l.length:Nat) : Int)≤251)) 5).l.length:Nat) : Int)) [] ((ak.mk b false 0).byteV) 0 0 0 0 []) (((((ak.mk b false 0).bytesC 1).need ((((ak.mk b false 0).byteV)==13)||(((ak.mk b false 0).byteV)==14)) 8).need (decide ((((((ak.mk b false 0).bytesC 1).need ((((ak.mk b false 0).byteV)==13)||(((ak.mk b false 0).byteV)==14)) 8).l.length:Nat) : Int)≤251)) 5).bytesC ((((((ak.mk b false 0).bytesC 1).need ((((ak.mk b false 0).byteV)==13)||(((ak.mk b false 0).byteV)==14)) 8).need (decide ((((((ak.mk b false 0).bytesC 1).need ((((ak.mk b false 0).byteV)==13)||(((ak.mk b false 0).byteV)==14)) 8).l.length:Nat) : Int)≤251)) 5).l.length:Nat) : Int)):=by
   unfold al bq fg eF e7
   (try simp only[i,p,s,bs,if_true,if_false,decide_true,decide_false,eq_self,true_or,or_true,or_false,false_or,if_true,if_false,cJ,cK,cF,cI,reduceIte])
   all_goals rfl
 rw[hs]
 exact aS J (ud a9 ad q)
 have J:=ag s
 refine bB<|sg<|?_
 refine L0<|c9 (aO a8 (Ne.symm g) b5)<|?_
 refine L0<|b6 (ub (ut k I (ac (ni (le j.size d.size) f) (ac (nr a) av))) h) (mG c 0 0 0 0 0 0 0 0 0 0 0 nS nS (.slice a2 ((x59.bytesR ((x59.l.length:Nat) : Int)).length) a3) nS ((ak.mk b false 0).byteV) 0 0 0 0 nS) fun bT b9 af=>Pl 1<|nt<|rt<|cc b9 (.int .i64 0)<|?_
 subst a5 a1 v
 have hs:al bq 1 c b=aQ (bf.mk c 0 0 0 0 0 0 0 0 0 0 0 [] [] (((((ak.mk b false 0).bytesC 1).need ((((ak.mk b false 0).byteV)==13)||(((ak.mk b false 0).byteV)==14)) 8).need (decide ((((((ak.mk b false 0).bytesC 1).need ((((ak.mk b false 0).byteV)==13)||(((ak.mk b false 0).byteV)==14)) 8).l.length:Nat) : Int)≤251)) 5).bytesR ((((((ak.mk b false 0).bytesC 1).need ((((ak.mk b false 0).byteV)==13)||(((ak.mk b false 0).byteV)==14)) 8).need (decide ((((((ak.mk b false 0).bytesC 1).need ((((ak.mk b false 0).byteV)==13)||(((ak.mk b false 0).byteV)==14)) 8).l.length:Nat) : Int)≤251)) 5).l.length:Nat) : Int)) [] ((ak.mk b false 0).byteV) 0 0 0 0 []) (((((ak.mk b false 0).bytesC 1).need ((((ak.mk b false 0).byteV)==13)||(((ak.mk b false 0).byteV)==14)) 8).need (decide ((((((ak.mk b false 0).bytesC 1).need ((((ak.mk b false 0).byteV)==13)||(((ak.mk b false 0).byteV)==14)) 8).l.length:Nat) : Int)≤251)) 5).bytesC ((((((ak.mk b false 0).bytesC 1).need ((((ak.mk b false 0).byteV)==13)||(((ak.mk b false 0).byteV)==14)) 8).need (decide ((((((ak.mk b false 0).bytesC 1).need ((((ak.mk b false 0).byteV)==13)||(((ak.mk b false 0).byteV)==14)) 8).l.length:Nat) : Int)≤251)) 5).l.length:Nat) : Int)):=by
   unfold al bq fg eF e7
   (try simp only[i,p,s,bs,if_true,if_false,decide_true,decide_false,eq_self,true_or,or_true,or_false,false_or,if_true,if_false,cJ,cK,cF,cI,reduceIte])
   all_goals rfl
 rw[hs]
 exact aY J ⟨_,_,_,_,_,rfl,aH.nil ..,aH.nil ..,(aM.upd' a4 (u1 (au.mono (S':=[W,U,T]) H (ac im (ac im av))) af im) (ah (aD C (by decide)) (ah (ae.safe G _ (by decide)) (ah (aD (ub (ud k B a) h) (by decide)) az)))),aH.nil ..,aH.nil ..,⟨(b8 (x:=c) (by omega)),(b8 (x:=0) (by omega)),(aB (x:=0) (by omega)),(aB (x:=0) (by omega)),(aB (x:=0) (by omega)),(aB (x:=0) (by omega)),(aB (x:=0) (by omega)),(aB (x:=0) (by omega)),(aB (x:=0) (by omega)),(aB (x:=0) (by omega)),(aB (x:=0) (by omega)),(aB (x:=0) (by omega)),(b8 (x:=(ak.mk b false 0).byteV) (by omega)),(b8 (x:=0) (by omega)),(b8 (x:=0) (by omega)),(b8 (x:=0) (by omega)),(b8 (x:=0) (by omega))⟩⟩ (ud a9 af q)
 have b0:=aG p
 refine sg<|Pl 1<|L0<|Oc<|m3 (bi y) fun bU ba L bV=>Pl 1<|?_
 have ai:=aO L (Ne.symm g) F
 refine L0<|bO ai 17 (mG c 0 0 0 0 0 0 0 0 0 0 0 nS nS nS nS ((ak.mk b false 0).byteV) g7.byteV 0 0 0 nS) fun bW M N=>ng<|Pl 2<|L0<|aR M 17<|Pl 2<|cu 4 [59] 63 (((decide (1≤g7.byteV))&&(decide (g7.byteV≤4)))) (fun K aj=>?_) ?_
 refine bl 59 ((decide (1≤g7.byteV))) (fun t=>?_) (fun t=>?_)
 have bb:=of_decide_eq_true t
 exact Pl 1<|L1<|aR M 17<|Pl 2<|ce aj (decide (g7.byteV≤4)) (by rw[t];rfl)
 have bb:=of_decide_eq_false t
 exact Pl 4<|ce aj false (by rw[t];rfl)
 refine L0<|Oc<|m2 (aL (((decide (1≤g7.byteV))&&(decide (g7.byteV≤4)))) 6 (ae.upd ba N (aa g ax) (ah (aD ai (by decide)) az))) fun bX bc O=>?_
 refine ab bc fun bY am bd=>?_
 refine ng<|Pl 2<|nt<|c1<|go<|Pl 1<|?_
 refine L0<|Oc<|m3 (kW (c:=c) (me:=(ak.mk b false 0).byteV) (kd:=g7.byteV) ⟨hcode1,hcode2⟩ (b8 (by omega)) (b8 (by omega)) bd (aO O (Ne.symm g) M) g) fun bZ an be ao=>?_
 obtain⟨bg,D,P⟩:=be
 refine ng<|Pl 1<|L0<|Oc<|m2 (bA an) fun c2 bh Q=>?_
 refine ab bh fun ap aq ar=>?_
 refine nt<|sq<|sg<|Pl 1<|L0<|Oc<|mq (aX ar)<|?_
 have c3:=ae.len ar
 refine Pl 1<|ng<|Pl 2<|nt<|?_
 have R:=ui L (ui N (ui O (u1 ao Q im)))
 have aw:=ut a0 R (ac (ni o.size a) (ac (ni (le (le o.size j.size) d.size) f) av))
 refine cb ((ap.e != 0)) (fun u=>?_) (fun u=>?_)
 have S:=ay u
 refine sg<|Pl 2<|?_
 refine L0<|b6 (ub (ut k R (ac (nr a) (ac (ni (le j.size d.size) f) av))) h) mZ fun c4 bj bm=>Pl 1<|nt<|rt<|tr<|cc bj (.int .i64 ap.e)<|?_
 subst aq am v
 have hs:al bq 1 c b=aQ ({ bf.zero with code:=c,mei:=(ak.mk b false 0).byteV,kind:=(((ak.mk b false 0).bytesC 1).need ((((ak.mk b false 0).byteV)==13)||(((ak.mk b false 0).byteV)==14)) 8).byteV,level:=(((((ak.mk b false 0).bytesC 1).need ((((ak.mk b false 0).byteV)==13)||(((ak.mk b false 0).byteV)==14)) 8).bytesC 1).need ((decide (1≤(((ak.mk b false 0).bytesC 1).need ((((ak.mk b false 0).byteV)==13)||(((ak.mk b false 0).byteV)==14)) 8).byteV))&&(decide ((((ak.mk b false 0).bytesC 1).need ((((ak.mk b false 0).byteV)==13)||(((ak.mk b false 0).byteV)==14)) 8).byteV≤4))) 6).byteV,more:=(kc (((((ak.mk b false 0).bytesC 1).need ((((ak.mk b false 0).byteV)==13)||(((ak.mk b false 0).byteV)==14)) 8).bytesC 1).need ((decide (1≤(((ak.mk b false 0).bytesC 1).need ((((ak.mk b false 0).byteV)==13)||(((ak.mk b false 0).byteV)==14)) 8).byteV))&&(decide ((((ak.mk b false 0).bytesC 1).need ((((ak.mk b false 0).byteV)==13)||(((ak.mk b false 0).byteV)==14)) 8).byteV≤4))) 6)).byteV,next:=(nG (((((ak.mk b false 0).bytesC 1).need ((((ak.mk b false 0).byteV)==13)||(((ak.mk b false 0).byteV)==14)) 8).bytesC 1).need ((decide (1≤(((ak.mk b false 0).bytesC 1).need ((((ak.mk b false 0).byteV)==13)||(((ak.mk b false 0).byteV)==14)) 8).byteV))&&(decide ((((ak.mk b false 0).bytesC 1).need ((((ak.mk b false 0).byteV)==13)||(((ak.mk b false 0).byteV)==14)) 8).byteV≤4))) 6)).byteV,objects:=(dv (((ak.mk b false 0).bytesC 1).need ((((ak.mk b false 0).byteV)==13)||(((ak.mk b false 0).byteV)==14)) 8).byteV (((((ak.mk b false 0).bytesC 1).need ((((ak.mk b false 0).byteV)==13)||(((ak.mk b false 0).byteV)==14)) 8).bytesC 1).need ((decide (1≤(((ak.mk b false 0).bytesC 1).need ((((ak.mk b false 0).byteV)==13)||(((ak.mk b false 0).byteV)==14)) 8).byteV))&&(decide ((((ak.mk b false 0).bytesC 1).need ((((ak.mk b false 0).byteV)==13)||(((ak.mk b false 0).byteV)==14)) 8).byteV≤4))) 6)).2 }) ((dv (((ak.mk b false 0).bytesC 1).need ((((ak.mk b false 0).byteV)==13)||(((ak.mk b false 0).byteV)==14)) 8).byteV (((((ak.mk b false 0).bytesC 1).need ((((ak.mk b false 0).byteV)==13)||(((ak.mk b false 0).byteV)==14)) 8).bytesC 1).need ((decide (1≤(((ak.mk b false 0).bytesC 1).need ((((ak.mk b false 0).byteV)==13)||(((ak.mk b false 0).byteV)==14)) 8).byteV))&&(decide ((((ak.mk b false 0).bytesC 1).need ((((ak.mk b false 0).byteV)==13)||(((ak.mk b false 0).byteV)==14)) 8).byteV≤4))) 6)).1):=by
   unfold al bq fg eF e7
   (try simp only[i,p,u,bs,if_true,if_false,decide_true,decide_false,eq_self,true_or,or_true,or_false,false_or,if_true,if_false,cJ,cK,cF,cI,reduceIte])
   all_goals rfl
 rw[hs]
 exact aS S (ud aw bm q)
 have S:=ag u
 refine bB<|sg<|?_
 refine L0<|c9 (hz:=(by rw[D.2];exact aP)) (aO Q (Ne.symm g) D.1)<|?_
 refine L0<|b6 (hz:=(by rw[D.2];exact aP)) (hv:=P.size) (h1:=P.one) (ub (ut k R (ac (nr a) (ac (ni (le j.size d.size) f) av))) h) (bg) fun c5 bo aC=>Pl 1<|nt<|rt<|dy 22 D.2 bo (.int .i64 0)<|?_
 subst aq am v
 have hs:al bq 1 c b=aQ ({ bf.zero with code:=c,mei:=(ak.mk b false 0).byteV,kind:=(((ak.mk b false 0).bytesC 1).need ((((ak.mk b false 0).byteV)==13)||(((ak.mk b false 0).byteV)==14)) 8).byteV,level:=(((((ak.mk b false 0).bytesC 1).need ((((ak.mk b false 0).byteV)==13)||(((ak.mk b false 0).byteV)==14)) 8).bytesC 1).need ((decide (1≤(((ak.mk b false 0).bytesC 1).need ((((ak.mk b false 0).byteV)==13)||(((ak.mk b false 0).byteV)==14)) 8).byteV))&&(decide ((((ak.mk b false 0).bytesC 1).need ((((ak.mk b false 0).byteV)==13)||(((ak.mk b false 0).byteV)==14)) 8).byteV≤4))) 6).byteV,more:=(kc (((((ak.mk b false 0).bytesC 1).need ((((ak.mk b false 0).byteV)==13)||(((ak.mk b false 0).byteV)==14)) 8).bytesC 1).need ((decide (1≤(((ak.mk b false 0).bytesC 1).need ((((ak.mk b false 0).byteV)==13)||(((ak.mk b false 0).byteV)==14)) 8).byteV))&&(decide ((((ak.mk b false 0).bytesC 1).need ((((ak.mk b false 0).byteV)==13)||(((ak.mk b false 0).byteV)==14)) 8).byteV≤4))) 6)).byteV,next:=(nG (((((ak.mk b false 0).bytesC 1).need ((((ak.mk b false 0).byteV)==13)||(((ak.mk b false 0).byteV)==14)) 8).bytesC 1).need ((decide (1≤(((ak.mk b false 0).bytesC 1).need ((((ak.mk b false 0).byteV)==13)||(((ak.mk b false 0).byteV)==14)) 8).byteV))&&(decide ((((ak.mk b false 0).bytesC 1).need ((((ak.mk b false 0).byteV)==13)||(((ak.mk b false 0).byteV)==14)) 8).byteV≤4))) 6)).byteV,objects:=(dv (((ak.mk b false 0).bytesC 1).need ((((ak.mk b false 0).byteV)==13)||(((ak.mk b false 0).byteV)==14)) 8).byteV (((((ak.mk b false 0).bytesC 1).need ((((ak.mk b false 0).byteV)==13)||(((ak.mk b false 0).byteV)==14)) 8).bytesC 1).need ((decide (1≤(((ak.mk b false 0).bytesC 1).need ((((ak.mk b false 0).byteV)==13)||(((ak.mk b false 0).byteV)==14)) 8).byteV))&&(decide ((((ak.mk b false 0).bytesC 1).need ((((ak.mk b false 0).byteV)==13)||(((ak.mk b false 0).byteV)==14)) 8).byteV≤4))) 6)).2 }) ((dv (((ak.mk b false 0).bytesC 1).need ((((ak.mk b false 0).byteV)==13)||(((ak.mk b false 0).byteV)==14)) 8).byteV (((((ak.mk b false 0).bytesC 1).need ((((ak.mk b false 0).byteV)==13)||(((ak.mk b false 0).byteV)==14)) 8).bytesC 1).need ((decide (1≤(((ak.mk b false 0).bytesC 1).need ((((ak.mk b false 0).byteV)==13)||(((ak.mk b false 0).byteV)==14)) 8).byteV))&&(decide ((((ak.mk b false 0).bytesC 1).need ((((ak.mk b false 0).byteV)==13)||(((ak.mk b false 0).byteV)==14)) 8).byteV≤4))) 6)).1):=by
   unfold al bq fg eF e7
   (try simp only[i,p,u,bs,if_true,if_false,decide_true,decide_false,eq_self,true_or,or_true,or_false,false_or,if_true,if_false,cJ,cK,cF,cI,reduceIte])
   all_goals rfl
 rw[hs]
 exact aY S (aU.upd P (us Q aC) (ah (ae.safe an _ (by decide)) (ah (aD (ub (ut k (ui L (ui N (ui O ao))) (ac (nr a) (ac (ni (le j.size d.size) f) av))) h) (by decide)) az))) (ud aw aC q)
theorem jP{m:Bool}{A:Option Addr}{cp:Nat}{b:List Int}{w:World}{dir c:Int}(hcode:B8 c)(hsl:aM m w (.slice A b.length cp) b)(hb:b.length≤1048576)(hd:¬ (dir=0∨dir=1)) :
    Calls Tryz.prog 66 #[.int .i64 dir,.int .u8 c,.slice A b.length cp] w (cO (al bq dir c b) w):=by
 obtain⟨hcode1,hcode2⟩:=hcode
 have hln:(b.length:Int)≤1048576:=by omega
 have e0:(dir != 0)=true:=by simp;omega
 have e1:(dir != 1)=true:=by simp;omega
 refine en 81 Tryz.func66 rfl<|sg<|L0<|bz mZ fun g h a d e=>Pl 1<|nt<|sq<|bk<|sg<|Pl 3<|sy 14 e0<|Pl 4<|nl<|?_
 refine tn<|ct e1<|sg<|Pl 1<|L0<|b6 d mZ fun i dq f=>Pl 1<|nt<|rt<|br<|tr<|cc dq (.int .i64 1)<|?_
 have hs:al bq dir c b=(bf.zero,1):=by
   unfold al bq fg eF e7
   (try simp only[e0,e1,bs,if_true,if_false,decide_true,decide_false,eq_self,true_or,or_true,or_false,false_or,if_true,if_false,cJ,cK,cF,cI,reduceIte,hd])
   all_goals rfl
 rw[hs]
 exact bE (ud e f a)
theorem mT{m:Bool}{v:Value}{b:List Int}{w:World}{dir c:Int}(hc:B8 c)(h:aM m w v b)(hb:b.length≤1048576) :
    Calls Tryz.prog 66 #[.int .i64 dir,.int .u8 c,v] w (cO (al bq dir c b) w):=by
  obtain⟨A,cp,rfl,_,_⟩:=h.shape
  by_cases h0:dir=0
  · subst h0;exact kv hc h hb
  by_cases h1:dir=1
  · subst h1;exact ke hc h hb
  exact jP hc h hb (by omega)
end Go.Proofs.YtpglhicfhppaiaaGreat
