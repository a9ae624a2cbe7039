/- Contracts of functions, part CStreamParts2. -/
import Derived.Test.YtpglhicfhppaiaaGreatCStreamParts1
import Derived.Laws.BitsAllLaws
set_option linter.unusedVariables false
set_option linter.unusedSimpArgs false
set_option maxRecDepth 100000
set_option maxHeartbeats 4000000
namespace Go.Proofs.YtpglhicfhppaiaaGreat
open Go.RowKit
def fi (Q:World→Ending→World→Prop)(w:World)(e:Ending)(w':World) : Prop:=∃ F free,e = .returned (.func (.func F) #[] free)∧sR Tryz.prog F=some (false,true)∧ax [] w w'∧Calls Tryz.prog F free w' (Q w')
theorem iB{g:Nat}{C:ak}{w:World}{a most:Int}(hC:ae w g C)(ha:0≤a∧a<65536) :
    Calls Tryz.prog 110 #[.pointer (some ⟨g,0,none⟩),.int .u16 a,.int .i64 most] w (iz g .i64 65536 C.wordV (bq C a most) w):=by
 have hlen:=hC.len
 have hrr:=hC.wordV
 refine en 26 Tryz.func110 rfl<|sg<|Pl 1<|ng<|Pl 1<|L0<|Oc<|m3 (bj hC) fun l d e m=>L0<|Oi C.wordV<|Pl 1<|nt<|?_
 refine sg<|Pl 4<|cu 4 [14] 18 (((decide (1≤C.wordV))&&(decide (C.wordV≤most)))) (fun K c=>?_) ?_
 refine bl 14 ((decide (1≤C.wordV))) (fun b=>?_) (fun b=>?_)
 have f:=of_decide_eq_true b
 exact Pl 4<|ce c (decide (C.wordV≤most)) (by rw[b];rfl)
 have f:=of_decide_eq_false b
 exact Pl 4<|ce c false (by rw[b];rfl)
 refine L0<|Oc<|m2 (aM (((decide (1≤C.wordV))&&(decide (C.wordV≤most)))) 5 d) fun o h i=>ng<|Pl 3<|L0<|Oc<|mq (fh (a:=a) (n:=C.wordV) (by omega))<|L0<|Oc<|m2 (aM ((da a C.wordV)) 7 h) fun p j k=>ng<|Pl 2<|nl<|?_
 refine tn<|rt<|rr (.int .i64 C.wordV)<|?_
 have hs:bq C a most=(((C.wordsC 1).need ((decide (1≤C.wordV))&&(decide (C.wordV≤most))) 5).need (da a C.wordV) 7):=by
   unfold bq
   (try simp only[bs,if_true,if_false,decide_true,decide_false,reduceIte])
   all_goals rfl
 rw[hs]
 exact⟨rfl,j,(u1 e (u1 i k im) im),hrr⟩
theorem gj{g:Nat}{C:ak}{w:World}{n:Int}(hC:ae w g C)(hn:0≤n∧n<65536) :
    Calls Tryz.prog 116 #[.pointer (some ⟨g,0,none⟩),.int .i64 n] w (fun e w'=>∃ v,e = .returned v∧j1 w.heap.size w' v ((bZ C n).wordsR n)∧ae w' g ((bZ C n).wordsC n)∧ax [g] w w'):=by
 have hlen:=hC.len
 refine en 16 Tryz.func116 rfl<|sg<|Pl 1<|ng<|Pl 2<|L0<|Oc<|m3 (bo hC) fun l c a m=>L0<|Oi C.byteV<|Pl 1<|L0<|Oi (2*n)<|Pl 1<|L0<|Oc<|m2 (aM ((C.byteV==(2*n))) 5 c) fun o d b=>?_
 refine ng<|Pl 2<|L0<|Oc<|mr (cD (n:=n) d) fun f h p i q r j k=>Pl 1<|nt<|rt<|rr (.slice f ((((C.bytesC 1).need (C.byteV==(2*n)) 5).wordsR n).length) h)<|?_
 have hs:bZ C n=((C.bytesC 1).need (C.byteV==(2*n)) 5):=by
   unfold bZ
   (try simp only[bs,if_true,if_false,decide_true,decide_false,reduceIte])
   all_goals rfl
 rw[hs]
 exact⟨_,rfl,(aO.weaken i (le a.size b.size)),j,(u1 a (u1 b k im) im)⟩
theorem eV{most:Int}{g gm:Nat}{c:Int}{C:ak}{w:World}(hcode:B8 c)(hC:ae w g C)(hm:w.heap[gm]? = some (.cells (mC c) 31 (0,0)))(hne:g≠gm){bc:Nat}{bm:Nat}(hbc:w.heap[bc]? = some (.cells #[.pointer (some ⟨g,0,none⟩)] 143 (0,0)))(n_bc_g:bc≠g)(n_bc_gm:bc≠gm)(hbm:w.heap[bm]? = some (.cells #[.pointer (some ⟨gm,0,none⟩)] 145 (0,0)))(n_bm_g:bm≠g)(n_bm_gm:bm≠gm) :
    Calls Tryz.prog 109 #[.int .i64 most,.pointer (some ⟨bc,0,none⟩),.pointer (some ⟨bm,0,none⟩)] w (lH g gm (bq (C.wordsC 1) C.wordV most) (mG c 0 C.wordV (C.wordsC 1).wordV 0 0 0 0 0 0 0 0 nS nS nS nS 0 0 0 0 0 nS) w):=by
 obtain⟨hcode1,hcode2⟩:=hcode
 have hlen:=hC.len
 refine en 20 Tryz.func109 rfl<|sq<|Rg 6 (fun w'=>w'.cell? ⟨bm,0,none⟩=some (.pointer (some ⟨gm,0,none⟩))∧w'.cell? ⟨bc,0,none⟩=some (.pointer (some ⟨g,0,none⟩))) fun I d=>?_
 have m:=ub d hbm
 have n:=ub d hbc
 refine bg ⟨(aj m rfl),(aj n rfl)⟩ fun o=>Rl 0 o (fun _ hs=>hs.1)<|Rl 1 o (fun _ hs=>hs.2)<|?_
 refine R0 2 rfl<|Oc<|m3 (bj (ae.old hC d)) fun J F i K=>?_
 have p:=aQ i n_bm_g m
 have q:=aQ i n_bc_g n
 refine bg ⟨(aj p rfl),(aj q rfl)⟩ fun r=>Rt 3 r<|Rt 4 r<|?_
 have s:=uz d i
 have t:=aQ s (Ne.symm hne) hm
 refine R0 5 rfl<|bS t 2 (mG c 0 C.wordV 0 0 0 0 0 0 0 0 0 nS nS nS nS 0 0 0 0 0 nS) fun L G j=>?_
 have u:=aQ j n_bm_gm p
 have v:=aQ j n_bc_gm q
 refine bg ⟨(aj u rfl),(aj v rfl)⟩ fun M=>re<|tn<|Rg 12 (fun w'=>w'.cell? ⟨bm,0,none⟩=some (.pointer (some ⟨gm,0,none⟩))∧w'.cell? ⟨bc,0,none⟩=some (.pointer (some ⟨g,0,none⟩))∧w'.cell? ⟨gm,2,none⟩=some (.int .u16 C.wordV)) fun N e=>?_
 have x:=ub e u
 have y:=ub e v
 have z:=ub e G
 refine bg ⟨(aj x rfl),(aj y rfl),(aj z rfl)⟩ fun b=>Rl 0 b (fun _ hs=>hs.1)<|Rl 1 b (fun _ hs=>hs.2.1)<|Rl 2 b (fun _ hs=>hs.1)<|Rt 3 b<|Rt 4 b<|Rl 5 b (fun _ hs=>hs.2.2)<|Rt 6 b<|?_
 have A:=aG j e
 refine R0 7 rfl<|Oc<|m3 (iB (a:=C.wordV) (most:=most) (ae.upd F A (aa hne av) (ah (aF t (by decide)) az)) (by omega)) fun O H f P=>?_
 have B:=aQ f n_bm_g x
 have D:=aQ f n_bc_g y
 have k:=aQ f (Ne.symm hne) z
 refine bg ⟨(aj B rfl),(aj D rfl),(aj k rfl)⟩ fun l=>Rr 8 l (.int .u16 ((C.wordsC 1).wordV)) (fun _ _=>bX (.int .u16 (IntKind.u16.wrap ((C.wordsC 1).wordV))) (by kernel_rfl) (congrArg (Value.int .u16) (lc (by omega))))<|Rt 9 l<|Rt 10 l<|R0 11 rfl<|bS k 3 (mG c 0 C.wordV ((C.wordsC 1).wordV) 0 0 0 0 0 0 0 0 nS nS nS nS 0 0 0 0 0 nS) fun Q E h=>?_
 refine bg ⟨(aj (aQ h n_bm_gm B) rfl),(aj (aQ h n_bc_gm D) rfl),(aj E rfl)⟩ fun R=>re<|rm (.tuple #[])<|?_
 exact⟨rfl,(ae.upd H h (aa hne av) (ah (aF k (by decide)) az)),E,(ui s (ui A (us f h)))⟩
theorem uY{g gm:Nat}{c:Int}{C:ak}{w:World}(hcode:B8 c)(hC:ae w g C)(hm:w.heap[gm]? = some (.cells (mC c) 31 (0,0)))(hne:g≠gm){bc:Nat}{bm:Nat}{bw:Nat}(hbc:w.heap[bc]? = some (.cells #[.pointer (some ⟨g,0,none⟩)] 143 (0,0)))(n_bc_g:bc≠g)(n_bc_gm:bc≠gm)(hbm:w.heap[bm]? = some (.cells #[.pointer (some ⟨gm,0,none⟩)] 145 (0,0)))(n_bm_g:bm≠g)(n_bm_gm:bm≠gm)(hbw:w.heap[bw]? = some (.cells #[.func (.func 109) #[] #[.pointer (some ⟨bc,0,none⟩),.pointer (some ⟨bm,0,none⟩)]] 183 (0,0)))(n_bw_g:bw≠g)(n_bw_gm:bw≠gm) :
    Calls Tryz.prog 111 #[.pointer (some ⟨bw,0,none⟩)] w (bE g gm (cc 125 c C).1 (cc 125 c C).2 w):=by
 obtain⟨hcode1,hcode2⟩:=hcode
 have hlen:=hC.len
 refine en 3 Tryz.func111 rfl<|go<|L0<|aU hbw 0<|L0<|eK #[] #[.pointer (some ⟨bc,0,none⟩),.pointer (some ⟨bm,0,none⟩)] (args:=#[.int .i64 125,.pointer (some ⟨bc,0,none⟩),.pointer (some ⟨bm,0,none⟩)])<|m3 (eV (most:=125) ⟨hcode1,hcode2⟩ hC hm hne hbc n_bc_g n_bc_gm hbm n_bm_g n_bm_gm) fun e a b d=>?_
 have f:=(hC).wordV
 have h:=cX (cA (hC).rng 1)
 refine nl<|rm (.tuple #[])<|?_
 have hs:cc 125 c C=((bq (C.wordsC 1) C.wordV 125),(bh.mk c 0 C.wordV ((C.wordsC 1).wordV) 0 0 0 0 0 0 0 0 [] [] [] [] 0 0 0 0 0 [])):=by
   unfold cc
   (try simp only[bs,if_true,if_false,decide_true,decide_false,reduceIte])
   all_goals rfl
 rw[hs]
 exact⟨rfl,a,⟨_,⟨b,rfl⟩,⟨_,_,_,_,_,rfl,aI.nil ..,aI.nil ..,aI.nil ..,aI.nil ..,aI.nil ..,⟨(b8 (x:=c) (by omega)),(b8 (x:=0) (by omega)),(aD (x:=C.wordV) (by omega)),(aD (x:=(C.wordsC 1).wordV) (by omega)),(aD (x:=0) (by omega)),(aD (x:=0) (by omega)),(aD (x:=0) (by omega)),(aD (x:=0) (by omega)),(aD (x:=0) (by omega)),(aD (x:=0) (by omega)),(aD (x:=0) (by omega)),(aD (x:=0) (by omega)),(b8 (x:=0) (by omega)),(b8 (x:=0) (by omega)),(b8 (x:=0) (by omega)),(b8 (x:=0) (by omega)),(b8 (x:=0) (by omega))⟩⟩⟩,d⟩
theorem uF{g gm:Nat}{c:Int}{C:ak}{w:World}(hcode:B8 c)(hC:ae w g C)(hm:w.heap[gm]? = some (.cells (mC c) 31 (0,0)))(hne:g≠gm){bc:Nat}{bm:Nat}(hbc:w.heap[bc]? = some (.cells #[.pointer (some ⟨g,0,none⟩)] 143 (0,0)))(n_bc_g:bc≠g)(n_bc_gm:bc≠gm)(hbm:w.heap[bm]? = some (.cells #[.pointer (some ⟨gm,0,none⟩)] 145 (0,0)))(n_bm_g:bm≠g)(n_bm_gm:bm≠gm) :
    Calls Tryz.prog 112 #[.pointer (some ⟨bc,0,none⟩),.pointer (some ⟨bm,0,none⟩)] w (bE g gm (cW c C).1 (cW c C).2 w):=by
 obtain⟨hcode1,hcode2⟩:=hcode
 have hlen:=hC.len
 refine en 26 Tryz.func112 rfl<|sg<|L0<|aU hbc 0<|L0<|Oc<|m3 (bo hC) fun N B k O=>L0<|Oi C.byteV<|Pl 1<|ng<|?_
 have l:=aQ k n_bc_g hbc
 refine L0<|aU l 0<|Pl 1<|L0<|Oe (.int .i64 (Int.tmod C.byteV 2)) (.int .i64 (C.byteV%2)) (congrArg (Value.int .i64) (Int.tmod_eq_emod_of_nonneg (by omega)))<|Pl 2<|cu 3 [10] 13 ((((C.byteV%2)==0)&&(decide (2≤C.byteV)))) (fun K m=>?_) ?_
 refine bl 10 (((C.byteV%2)==0)) (fun a=>?_) (fun a=>?_)
 have D:=aB a
 exact Pl 3<|ce m (decide (2≤C.byteV)) (by rw[a];rfl)
 have D:=aH a
 exact Pl 3<|ce m false (by rw[a];rfl)
 refine Pl 1<|cu 3 [14] 17 (((((C.byteV%2)==0)&&(decide (2≤C.byteV)))&&(decide (C.byteV≤250)))) (fun K o=>?_) ?_
 refine bl 14 ((((C.byteV%2)==0)&&(decide (2≤C.byteV)))) (fun b=>?_) (fun b=>?_)
 have E:=(bQ b).1
 have F:=(bQ b).2
 have P:=aB E
 have Q:=of_decide_eq_true F
 exact Pl 3<|ce o (decide (C.byteV≤250)) (by rw[b];rfl)
 exact Pl 3<|ce o false (by rw[b];rfl)
 refine L0<|Oc<|m2 (aM (((((C.byteV%2)==0)&&(decide (2≤C.byteV)))&&(decide (C.byteV≤250)))) 5 B) fun R G H=>nt<|Rg 8 (fun w'=>w'.cell? ⟨bm,0,none⟩=some (.pointer (some ⟨gm,0,none⟩))∧w'.cell? ⟨bc,0,none⟩=some (.pointer (some ⟨g,0,none⟩))) fun S p=>?_
 have q:=aG H p
 have i:=u1 k q im
 have r:=aQ i n_bm_g hbm
 have s:=aQ q n_bc_g l
 refine bg ⟨(aj r rfl),(aj s rfl)⟩ fun f=>Rl 0 f (fun _ hs=>hs.1)<|Rl 1 f (fun _ hs=>hs.2)<|Rt 2 f<|Rr 3 f (.int .i64 (C.byteV/2)) (fun _ _=>bX (.int .i64 (IntKind.i64.wrap (Int.tdiv C.byteV 2))) (by kernel_rfl) (congrArg (Value.int .i64) (mh (by omega) (by omega))))<|?_
 refine R0 4 rfl<|Oc<|mr (cD (n:=(C.byteV/2)) (ae.old G p)) fun I J T t U V L j=>?_
 have u:=aQ j n_bm_g r
 have v:=aQ j n_bc_g s
 refine bg ⟨(aj u rfl),(aj v rfl)⟩ fun y=>Rt 5 y<|Rt 6 y<|?_
 have z:=u1 i j im
 have A:=aQ z (Ne.symm hne) hm
 refine R0 7 rfl<|bS A 12 (mG c 0 0 0 0 0 0 0 0 0 0 0 (.slice I ((((C.bytesC 1).need ((((C.byteV%2)==0)&&(decide (2≤C.byteV)))&&(decide (C.byteV≤250))) 5).wordsR (C.byteV/2)).length) J) nS nS nS 0 0 0 0 0 nS) fun W M d=>?_
 refine bg ⟨(aj (aQ d n_bm_gm u) rfl),(aj (aQ d n_bc_gm v) rfl)⟩ fun X=>re<|rm (.tuple #[])<|?_
 have hs:cW c C=((((C.bytesC 1).need ((((C.byteV%2)==0)&&(decide (2≤C.byteV)))&&(decide (C.byteV≤250))) 5).wordsC (C.byteV/2)),(bh.mk c 0 0 0 0 0 0 0 0 0 0 0 (((C.bytesC 1).need ((((C.byteV%2)==0)&&(decide (2≤C.byteV)))&&(decide (C.byteV≤250))) 5).wordsR (C.byteV/2)) [] [] [] 0 0 0 0 0 [])):=by
   unfold cW p5 jc
   (try simp only[bs,if_true,if_false,decide_true,decide_false,reduceIte])
   all_goals rfl
 rw[hs]
 exact⟨rfl,(ae.upd L d (aa hne av) (ah (aF A (by decide)) az)),⟨_,⟨M,rfl⟩,⟨_,_,_,_,_,rfl,((am t d (fun x hx=>(aa (fun e=>(ap (ai hm) i.size t) (e▸hx)) av)) (fun _ _ h=>h))).rd,aI.nil ..,aI.nil ..,aI.nil ..,aI.nil ..,⟨(b8 (x:=c) (by omega)),(b8 (x:=0) (by omega)),(aD (x:=0) (by omega)),(aD (x:=0) (by omega)),(aD (x:=0) (by omega)),(aD (x:=0) (by omega)),(aD (x:=0) (by omega)),(aD (x:=0) (by omega)),(aD (x:=0) (by omega)),(aD (x:=0) (by omega)),(aD (x:=0) (by omega)),(aD (x:=0) (by omega)),(b8 (x:=0) (by omega)),(b8 (x:=0) (by omega)),(b8 (x:=0) (by omega)),(b8 (x:=0) (by omega)),(b8 (x:=0) (by omega))⟩⟩⟩,(us z d)⟩
theorem v5{g gm:Nat}{c:Int}{C:ak}{w:World}(hcode:B8 c)(hC:ae w g C)(hm:w.heap[gm]? = some (.cells (mC c) 31 (0,0)))(hne:g≠gm){bc:Nat}{bm:Nat}(hbc:w.heap[bc]? = some (.cells #[.pointer (some ⟨g,0,none⟩)] 143 (0,0)))(n_bc_g:bc≠g)(n_bc_gm:bc≠gm)(hbm:w.heap[bm]? = some (.cells #[.pointer (some ⟨gm,0,none⟩)] 145 (0,0)))(n_bm_g:bm≠g)(n_bm_gm:bm≠gm) :
    Calls Tryz.prog 114 #[.pointer (some ⟨bc,0,none⟩),.pointer (some ⟨bm,0,none⟩)] w (bE g gm (eF c C).1 (eF c C).2 w):=by
 obtain⟨hcode1,hcode2⟩:=hcode
 have hlen:=hC.len
 refine en 12 Tryz.func114 rfl<|Rg 12 (fun w'=>w'.cell? ⟨bm,0,none⟩=some (.pointer (some ⟨gm,0,none⟩))∧w'.cell? ⟨bc,0,none⟩=some (.pointer (some ⟨g,0,none⟩))) fun B a=>?_
 have i:=ub a hbm
 have j:=ub a hbc
 refine bg ⟨(aj i rfl),(aj j rfl)⟩ fun b=>Rl 0 b (fun _ hs=>hs.1)<|Rl 1 b (fun _ hs=>hs.1)<|Rl 2 b (fun _ hs=>hs.2)<|Rl 4 b (fun _ hs=>hs.2)<|?_
 refine R0 3 rfl<|Oc<|m3 (bj (ae.old hC a)) fun D v d E=>?_
 have k:=aQ d n_bm_g i
 have l:=aQ d n_bc_g j
 refine bg ⟨(aj k rfl),(aj l rfl)⟩ fun F=>R0 5 rfl<|Oc<|m3 (bj v) fun G y e H=>?_
 have m:=aQ e n_bm_g k
 have n:=aQ e n_bc_g l
 refine bg ⟨(aj m rfl),(aj n rfl)⟩ fun o=>Rt 6 o<|Rt 7 o<|?_
 have p:=uz a (u1 d e im)
 have q:=aQ p (Ne.symm hne) hm
 refine R0 8 rfl<|bS q 2 (mG c 0 C.wordV 0 0 0 0 0 0 0 0 0 nS nS nS nS 0 0 0 0 0 nS) fun I z f=>?_
 have r:=aQ f n_bm_gm m
 have s:=aQ f n_bc_gm n
 refine bg ⟨(aj r rfl),(aj s rfl)⟩ fun t=>Rt 9 t<|Rt 10 t<|R0 11 rfl<|bS z 4 (mG c 0 C.wordV 0 ((C.wordsC 1).wordV) 0 0 0 0 0 0 0 nS nS nS nS 0 0 0 0 0 nS) fun J A h=>?_
 refine bg ⟨(aj (aQ h n_bm_gm r) rfl),(aj (aQ h n_bc_gm s) rfl)⟩ fun K=>re<|rm (.tuple #[])<|?_
 have hs:eF c C=(((C.wordsC 1).wordsC 1),(bh.mk c 0 C.wordV 0 ((C.wordsC 1).wordV) 0 0 0 0 0 0 0 [] [] [] [] 0 0 0 0 0 [])):=by
   unfold eF
   (try simp only[bs,if_true,if_false,decide_true,decide_false,reduceIte])
   all_goals rfl
 rw[hs]
 have u:=u1 f h im
 exact⟨rfl,(ae.upd y u (aa hne av) (ah (aF q (by decide)) az)),⟨_,⟨A,rfl⟩,⟨_,_,_,_,_,rfl,aI.nil ..,aI.nil ..,aI.nil ..,aI.nil ..,aI.nil ..,⟨(b8 (x:=c) (by omega)),(b8 (x:=0) (by omega)),(aD (x:=C.wordV) (by omega)),(aD (x:=0) (by omega)),(aD (x:=(C.wordsC 1).wordV) (by omega)),(aD (x:=0) (by omega)),(aD (x:=0) (by omega)),(aD (x:=0) (by omega)),(aD (x:=0) (by omega)),(aD (x:=0) (by omega)),(aD (x:=0) (by omega)),(aD (x:=0) (by omega)),(b8 (x:=0) (by omega)),(b8 (x:=0) (by omega)),(b8 (x:=0) (by omega)),(b8 (x:=0) (by omega)),(b8 (x:=0) (by omega))⟩⟩⟩,(us p u)⟩
theorem uD{ask:Bool}{g gm:Nat}{c:Int}{C:ak}{w:World}(hcode:B8 c)(hC:ae w g C)(hm:w.heap[gm]? = some (.cells (mC c) 31 (0,0)))(hne:g≠gm){bc:Nat}{bm:Nat}{bw:Nat}{ba:Nat}(hbc:w.heap[bc]? = some (.cells #[.pointer (some ⟨g,0,none⟩)] 143 (0,0)))(n_bc_g:bc≠g)(n_bc_gm:bc≠gm)(hbm:w.heap[bm]? = some (.cells #[.pointer (some ⟨gm,0,none⟩)] 145 (0,0)))(n_bm_g:bm≠g)(n_bm_gm:bm≠gm)(hbw:w.heap[bw]? = some (.cells #[.func (.func 109) #[] #[.pointer (some ⟨bc,0,none⟩),.pointer (some ⟨bm,0,none⟩)]] 183 (0,0)))(n_bw_g:bw≠g)(n_bw_gm:bw≠gm)(hba:w.heap[ba]? = some (.cells #[.bool ask] 4 (0,0)))(n_ba_g:ba≠g)(n_ba_gm:ba≠gm)(hask:ask=true) :
    Calls Tryz.prog 115 #[.pointer (some ⟨bw,0,none⟩),.pointer (some ⟨ba,0,none⟩),.pointer (some ⟨bc,0,none⟩),.pointer (some ⟨bm,0,none⟩)] w (bE g gm (eH c C).1 (eH c C).2 w):=by
 obtain⟨hcode1,hcode2⟩:=hcode
 have hlen:=hC.len
 refine en 17 Tryz.func115 rfl<|sg<|L0<|aU hbw 0<|L0<|eK #[] #[.pointer (some ⟨bc,0,none⟩),.pointer (some ⟨bm,0,none⟩)] (args:=#[.int .i64 123,.pointer (some ⟨bc,0,none⟩),.pointer (some ⟨bm,0,none⟩)])<|m3 (eV (most:=123) ⟨hcode1,hcode2⟩ hC hm hne hbc n_bc_g n_bc_gm hbm n_bm_g n_bm_gm) fun B u v k=>?_
 have D:=(hC).wordV
 have E:=cX (cA (hC).rng 1)
 refine ng<|?_
 refine L0<|aU (ax.blk k (aa n_ba_g (aa n_ba_gm av)) hba) 0<|nt<|ct hask<|Rg 11 (fun w'=>w'.cell? ⟨bm,0,none⟩=some (.pointer (some ⟨gm,0,none⟩))∧w'.cell? ⟨bc,0,none⟩=some (.pointer (some ⟨g,0,none⟩))∧w'.cell? ⟨gm,3,none⟩=some (.int .u16 ((C.wordsC 1).wordV))) fun F i=>?_
 have d:=aG k i
 have l:=ax.blk d (aa n_bm_g (aa n_bm_gm av)) hbm
 have m:=ax.blk d (aa n_bc_g (aa n_bc_gm av)) hbc
 have o:=ub i v
 refine bg ⟨(aj l rfl),(aj m rfl),(aj o rfl)⟩ fun a=>Rl 0 a (fun _ hs=>hs.1)<|Rl 1 a (fun _ hs=>hs.2.1)<|Rl 2 a (fun _ hs=>hs.1)<|Rt 3 a<|Rt 4 a<|Rl 5 a (fun _ hs=>hs.2.2)<|Rr 6 a (.int .i64 ((C.wordsC 1).wordV)) (fun _ _=>bX (.int .i64 (IntKind.i64.wrap ((C.wordsC 1).wordV))) (by kernel_rfl) (congrArg (Value.int .i64) (i64_in (by omega))))<|?_
 refine R0 7 rfl<|Oc<|mr (gj (n:=(C.wordsC 1).wordV) (ae.old u i) (by omega)) fun y z G p H I A f=>?_
 have q:=aQ f n_bm_g l
 have r:=aQ f n_bc_g m
 have j:=aQ f (Ne.symm hne) o
 refine bg ⟨(aj q rfl),(aj r rfl),(aj j rfl)⟩ fun s=>Rt 8 s<|Rt 9 s<|R0 10 rfl<|bS j 12 (mG c 0 C.wordV ((C.wordsC 1).wordV) 0 0 0 0 0 0 0 0 (.slice y (((bZ (bq (C.wordsC 1) C.wordV 123) ((C.wordsC 1).wordV)).wordsR ((C.wordsC 1).wordV)).length) z) nS nS nS 0 0 0 0 0 nS) fun J t b=>?_
 refine bg ⟨(aj (aQ b n_bm_gm q) rfl),(aj (aQ b n_bc_gm r) rfl),(aj t rfl)⟩ fun K=>re<|rm (.tuple #[])<|?_
 have hs:eH c C=(((bZ (bq (C.wordsC 1) C.wordV 123) ((C.wordsC 1).wordV)).wordsC ((C.wordsC 1).wordV)),(bh.mk c 0 C.wordV ((C.wordsC 1).wordV) 0 0 0 0 0 0 0 0 ((bZ (bq (C.wordsC 1) C.wordV 123) ((C.wordsC 1).wordV)).wordsR ((C.wordsC 1).wordV)) [] [] [] 0 0 0 0 0 [])):=by
   unfold eH l1
   (try simp only[hask,bs,if_true,if_false,decide_true,decide_false,reduceIte])
   all_goals rfl
 rw[hs]
 exact⟨rfl,(ae.upd A b (aa hne av) (ah (aF j (by decide)) az)),⟨_,⟨t,rfl⟩,⟨_,_,_,_,_,rfl,((am p b (fun x hx=>(aa (fun e=>(ap (ai hm) d.size p) (e▸hx)) av)) (fun _ _ h=>h))).rd,aI.nil ..,aI.nil ..,aI.nil ..,aI.nil ..,⟨(b8 (x:=c) (by omega)),(b8 (x:=0) (by omega)),(aD (x:=C.wordV) (by omega)),(aD (x:=(C.wordsC 1).wordV) (by omega)),(aD (x:=0) (by omega)),(aD (x:=0) (by omega)),(aD (x:=0) (by omega)),(aD (x:=0) (by omega)),(aD (x:=0) (by omega)),(aD (x:=0) (by omega)),(aD (x:=0) (by omega)),(aD (x:=0) (by omega)),(b8 (x:=0) (by omega)),(b8 (x:=0) (by omega)),(b8 (x:=0) (by omega)),(b8 (x:=0) (by omega)),(b8 (x:=0) (by omega))⟩⟩⟩,(ut d (us f b) (ac im (ac im au)))⟩
theorem uL{ask:Bool}{g gm:Nat}{c:Int}{C:ak}{w:World}(hcode:B8 c)(hC:ae w g C)(hm:w.heap[gm]? = some (.cells (mC c) 31 (0,0)))(hne:g≠gm){bc:Nat}{bm:Nat}{bw:Nat}{ba:Nat}(hbc:w.heap[bc]? = some (.cells #[.pointer (some ⟨g,0,none⟩)] 143 (0,0)))(n_bc_g:bc≠g)(n_bc_gm:bc≠gm)(hbm:w.heap[bm]? = some (.cells #[.pointer (some ⟨gm,0,none⟩)] 145 (0,0)))(n_bm_g:bm≠g)(n_bm_gm:bm≠gm)(hbw:w.heap[bw]? = some (.cells #[.func (.func 109) #[] #[.pointer (some ⟨bc,0,none⟩),.pointer (some ⟨bm,0,none⟩)]] 183 (0,0)))(n_bw_g:bw≠g)(n_bw_gm:bw≠gm)(hba:w.heap[ba]? = some (.cells #[.bool ask] 4 (0,0)))(n_ba_g:ba≠g)(n_ba_gm:ba≠gm)(hask:ask=false) :
    Calls Tryz.prog 115 #[.pointer (some ⟨bw,0,none⟩),.pointer (some ⟨ba,0,none⟩),.pointer (some ⟨bc,0,none⟩),.pointer (some ⟨bm,0,none⟩)] w (bE g gm (cc 123 c C).1 (cc 123 c C).2 w):=by
 obtain⟨hcode1,hcode2⟩:=hcode
 have hlen:=hC.len
 refine en 17 Tryz.func115 rfl<|sg<|L0<|aU hbw 0<|L0<|eK #[] #[.pointer (some ⟨bc,0,none⟩),.pointer (some ⟨bm,0,none⟩)] (args:=#[.int .i64 123,.pointer (some ⟨bc,0,none⟩),.pointer (some ⟨bm,0,none⟩)])<|m3 (eV (most:=123) ⟨hcode1,hcode2⟩ hC hm hne hbc n_bc_g n_bc_gm hbm n_bm_g n_bm_gm) fun e b d a=>?_
 have f:=(hC).wordV
 have h:=cX (cA (hC).rng 1)
 refine ng<|?_
 refine L0<|aU (ax.blk a (aa n_ba_g (aa n_ba_gm av)) hba) 0<|nt<|cf hask<|sk<|rm (.tuple #[])<|?_
 have hs:cc 123 c C=((bq (C.wordsC 1) C.wordV 123),(bh.mk c 0 C.wordV ((C.wordsC 1).wordV) 0 0 0 0 0 0 0 0 [] [] [] [] 0 0 0 0 0 [])):=by
   unfold cc
   (try simp only[hask,bs,if_true,if_false,decide_true,decide_false,reduceIte])
   all_goals rfl
 rw[hs]
 exact⟨rfl,b,⟨_,⟨d,rfl⟩,⟨_,_,_,_,_,rfl,aI.nil ..,aI.nil ..,aI.nil ..,aI.nil ..,aI.nil ..,⟨(b8 (x:=c) (by omega)),(b8 (x:=0) (by omega)),(aD (x:=C.wordV) (by omega)),(aD (x:=(C.wordsC 1).wordV) (by omega)),(aD (x:=0) (by omega)),(aD (x:=0) (by omega)),(aD (x:=0) (by omega)),(aD (x:=0) (by omega)),(aD (x:=0) (by omega)),(aD (x:=0) (by omega)),(aD (x:=0) (by omega)),(aD (x:=0) (by omega)),(b8 (x:=0) (by omega)),(b8 (x:=0) (by omega)),(b8 (x:=0) (by omega)),(b8 (x:=0) (by omega)),(b8 (x:=0) (by omega))⟩⟩⟩,a⟩
theorem vf{g gm:Nat}{c:Int}{C:ak}{w:World}(hcode:B8 c)(hC:ae w g C)(hm:w.heap[gm]? = some (.cells (mC c) 31 (0,0)))(hne:g≠gm){bc:Nat}{bm:Nat}(hbc:w.heap[bc]? = some (.cells #[.pointer (some ⟨g,0,none⟩)] 143 (0,0)))(n_bc_g:bc≠g)(n_bc_gm:bc≠gm)(hbm:w.heap[bm]? = some (.cells #[.pointer (some ⟨gm,0,none⟩)] 145 (0,0)))(n_bm_g:bm≠g)(n_bm_gm:bm≠gm) :
    Calls Tryz.prog 117 #[.pointer (some ⟨bc,0,none⟩),.pointer (some ⟨bm,0,none⟩)] w (bE g gm (dC c C).1 (dC c C).2 w):=by
 obtain⟨hcode1,hcode2⟩:=hcode
 have hlen:=hC.len
 refine en 17 Tryz.func117 rfl<|Rg 18 (fun w'=>w'.cell? ⟨bm,0,none⟩=some (.pointer (some ⟨gm,0,none⟩))∧w'.cell? ⟨bc,0,none⟩=some (.pointer (some ⟨g,0,none⟩))) fun L b=>?_
 have k:=ub b hbm
 have l:=ub b hbc
 refine bg ⟨(aj k rfl),(aj l rfl)⟩ fun a=>Rl 0 a (fun _ hs=>hs.1)<|Rl 1 a (fun _ hs=>hs.1)<|Rl 2 a (fun _ hs=>hs.1)<|Rl 3 a (fun _ hs=>hs.2)<|Rl 5 a (fun _ hs=>hs.2)<|Rl 7 a (fun _ hs=>hs.2)<|?_
 refine R0 4 rfl<|Oc<|m3 (bj (ae.old hC b)) fun M F d N=>?_
 have m:=aQ d n_bm_g k
 have n:=aQ d n_bc_g l
 refine bg ⟨(aj m rfl),(aj n rfl)⟩ fun O=>R0 6 rfl<|Oc<|m3 (bj F) fun P G e Q=>?_
 have o:=aQ e n_bm_g m
 have p:=aQ e n_bc_g n
 refine bg ⟨(aj o rfl),(aj p rfl)⟩ fun R=>R0 8 rfl<|Oc<|m3 (bj G) fun S H f T=>?_
 have q:=aQ f n_bm_g o
 have r:=aQ f n_bc_g p
 refine bg ⟨(aj q rfl),(aj r rfl)⟩ fun s=>Rt 9 s<|Rt 10 s<|?_
 have t:=uz b (u1 d (u1 e f im) im)
 have u:=aQ t (Ne.symm hne) hm
 refine R0 11 rfl<|bS u 2 (mG c 0 C.wordV 0 0 0 0 0 0 0 0 0 nS nS nS nS 0 0 0 0 0 nS) fun U I h=>?_
 have v:=aQ h n_bm_gm q
 have y:=aQ h n_bc_gm r
 refine bg ⟨(aj v rfl),(aj y rfl)⟩ fun z=>Rt 12 z<|Rt 13 z<|R0 14 rfl<|bS I 5 (mG c 0 C.wordV 0 0 ((C.wordsC 1).wordV) 0 0 0 0 0 0 nS nS nS nS 0 0 0 0 0 nS) fun V J i=>?_
 have A:=aQ i n_bm_gm v
 have B:=aQ i n_bc_gm y
 refine bg ⟨(aj A rfl),(aj B rfl)⟩ fun D=>Rt 15 D<|Rt 16 D<|R0 17 rfl<|bS J 6 (mG c 0 C.wordV 0 0 ((C.wordsC 1).wordV) (((C.wordsC 1).wordsC 1).wordV) 0 0 0 0 0 nS nS nS nS 0 0 0 0 0 nS) fun W K j=>?_
 refine bg ⟨(aj (aQ j n_bm_gm A) rfl),(aj (aQ j n_bc_gm B) rfl)⟩ fun X=>re<|rm (.tuple #[])<|?_
 have hs:dC c C=((((C.wordsC 1).wordsC 1).wordsC 1),(bh.mk c 0 C.wordV 0 0 ((C.wordsC 1).wordV) (((C.wordsC 1).wordsC 1).wordV) 0 0 0 0 0 [] [] [] [] 0 0 0 0 0 [])):=by
   unfold dC
   (try simp only[bs,if_true,if_false,decide_true,decide_false,reduceIte])
   all_goals rfl
 rw[hs]
 have E:=u1 h (u1 i j im) im
 exact⟨rfl,(ae.upd H E (aa hne av) (ah (aF u (by decide)) az)),⟨_,⟨K,rfl⟩,⟨_,_,_,_,_,rfl,aI.nil ..,aI.nil ..,aI.nil ..,aI.nil ..,aI.nil ..,⟨(b8 (x:=c) (by omega)),(b8 (x:=0) (by omega)),(aD (x:=C.wordV) (by omega)),(aD (x:=0) (by omega)),(aD (x:=0) (by omega)),(aD (x:=(C.wordsC 1).wordV) (by omega)),(aD (x:=((C.wordsC 1).wordsC 1).wordV) (by omega)),(aD (x:=0) (by omega)),(aD (x:=0) (by omega)),(aD (x:=0) (by omega)),(aD (x:=0) (by omega)),(aD (x:=0) (by omega)),(b8 (x:=0) (by omega)),(b8 (x:=0) (by omega)),(b8 (x:=0) (by omega)),(b8 (x:=0) (by omega)),(b8 (x:=0) (by omega))⟩⟩⟩,(us t E)⟩
theorem vK{g gm:Nat}{c:Int}{C:ak}{w:World}(hcode:B8 c)(hC:ae w g C)(hm:w.heap[gm]? = some (.cells (mC c) 31 (0,0)))(hne:g≠gm){bc:Nat}{bm:Nat}{bw:Nat}(hbc:w.heap[bc]? = some (.cells #[.pointer (some ⟨g,0,none⟩)] 143 (0,0)))(n_bc_g:bc≠g)(n_bc_gm:bc≠gm)(hbm:w.heap[bm]? = some (.cells #[.pointer (some ⟨gm,0,none⟩)] 145 (0,0)))(n_bm_g:bm≠g)(n_bm_gm:bm≠gm)(hbw:w.heap[bw]? = some (.cells #[.func (.func 109) #[] #[.pointer (some ⟨bc,0,none⟩),.pointer (some ⟨bm,0,none⟩)]] 183 (0,0)))(n_bw_g:bw≠g)(n_bw_gm:bw≠gm) :
    Calls Tryz.prog 118 #[.pointer (some ⟨bw,0,none⟩),.pointer (some ⟨bc,0,none⟩),.pointer (some ⟨bm,0,none⟩)] w (bE g gm (eL c C).1 (eL c C).2 w):=by
 obtain⟨hcode1,hcode2⟩:=hcode
 have hlen:=hC.len
 refine en 21 Tryz.func118 rfl<|sg<|L0<|aU hbw 0<|L0<|eK #[] #[.pointer (some ⟨bc,0,none⟩),.pointer (some ⟨bm,0,none⟩)] (args:=#[.int .i64 125,.pointer (some ⟨bc,0,none⟩),.pointer (some ⟨bm,0,none⟩)])<|m3 (eV (most:=125) ⟨hcode1,hcode2⟩ hC hm hne hbc n_bc_g n_bc_gm hbm n_bm_g n_bm_gm) fun X P Q q=>?_
 have Y:=(hC).wordV
 have Z:=cX (cA (hC).rng 1)
 refine nt<|sq<|Rg 6 (fun w'=>w'.cell? ⟨bm,0,none⟩=some (.pointer (some ⟨gm,0,none⟩))∧w'.cell? ⟨bc,0,none⟩=some (.pointer (some ⟨g,0,none⟩))) fun a0 k=>?_
 have o:=aG q k
 have r:=ax.blk o (aa n_bm_g (aa n_bm_gm av)) hbm
 have s:=ax.blk o (aa n_bc_g (aa n_bc_gm av)) hbc
 refine bg ⟨(aj r rfl),(aj s rfl)⟩ fun t=>Rl 0 t (fun _ hs=>hs.1)<|Rl 1 t (fun _ hs=>hs.2)<|?_
 refine R0 2 rfl<|Oc<|m3 (bj (ae.old P k)) fun a1 R d a2=>?_
 have u:=aQ d n_bm_g r
 have v:=aQ d n_bc_g s
 refine bg ⟨(aj u rfl),(aj v rfl)⟩ fun y=>Rt 3 y<|Rt 4 y<|?_
 have z:=aQ (uz k d) (Ne.symm hne) Q
 refine R0 5 rfl<|bS z 7 (mG c 0 C.wordV ((C.wordsC 1).wordV) 0 0 0 ((bq (C.wordsC 1) C.wordV 125).wordV) 0 0 0 0 nS nS nS nS 0 0 0 0 0 nS) fun a3 S l=>?_
 have A:=aQ l n_bm_gm u
 have B:=aQ l n_bc_gm v
 refine bg ⟨(aj A rfl),(aj B rfl)⟩ fun a4=>re<|tn<|Rg 12 (fun w'=>w'.cell? ⟨bm,0,none⟩=some (.pointer (some ⟨gm,0,none⟩))∧w'.cell? ⟨bc,0,none⟩=some (.pointer (some ⟨g,0,none⟩))∧w'.cell? ⟨gm,7,none⟩=some (.int .u16 ((bq (C.wordsC 1) C.wordV 125).wordV))) fun a5 f=>?_
 have D:=ub f A
 have E:=ub f B
 have F:=ub f S
 refine bg ⟨(aj D rfl),(aj E rfl),(aj F rfl)⟩ fun b=>Rl 0 b (fun _ hs=>hs.1)<|Rl 1 b (fun _ hs=>hs.2.1)<|Rl 2 b (fun _ hs=>hs.2.1)<|Rl 3 b (fun _ hs=>hs.1)<|Rt 4 b<|Rt 5 b<|Rl 6 b (fun _ hs=>hs.2.2)<|?_
 have G:=aG l f
 refine R0 7 rfl<|Oc<|m3 (iB (a:=(bq (C.wordsC 1) C.wordV 125).wordV) (most:=121) (ae.upd R G (aa hne av) (ah (aF z (by decide)) az)) (by omega)) fun a6 T i a7=>?_
 have H:=aQ i n_bm_g D
 have I:=aQ i n_bc_g E
 have J:=aQ i (Ne.symm hne) F
 refine bg ⟨(aj H rfl),(aj I rfl),(aj J rfl)⟩ fun a8=>R0 8 rfl<|Oc<|mr (gj (n:=((bq (C.wordsC 1) C.wordV 125).wordsC 1).wordV) T (by omega)) fun U V a9 K ab ad W m=>?_
 have L:=aQ m n_bm_g H
 have M:=aQ m n_bc_g I
 have p:=aQ m (Ne.symm hne) J
 refine bg ⟨(aj L rfl),(aj M rfl),(aj p rfl)⟩ fun N=>Rt 9 N<|Rt 10 N<|R0 11 rfl<|bS p 12 (mG c 0 C.wordV ((C.wordsC 1).wordV) 0 0 0 ((bq (C.wordsC 1) C.wordV 125).wordV) 0 0 0 0 (.slice U (((bZ (bq ((bq (C.wordsC 1) C.wordV 125).wordsC 1) ((bq (C.wordsC 1) C.wordV 125).wordV) 121) (((bq (C.wordsC 1) C.wordV 125).wordsC 1).wordV)).wordsR (((bq (C.wordsC 1) C.wordV 125).wordsC 1).wordV)).length) V) nS nS nS 0 0 0 0 0 nS) fun af O j=>?_
 refine bg ⟨(aj (aQ j n_bm_gm L) rfl),(aj (aQ j n_bc_gm M) rfl),(aj O rfl)⟩ fun ag=>re<|rm (.tuple #[])<|?_
 have hs:eL c C=(((bZ (bq ((bq (C.wordsC 1) C.wordV 125).wordsC 1) ((bq (C.wordsC 1) C.wordV 125).wordV) 121) (((bq (C.wordsC 1) C.wordV 125).wordsC 1).wordV)).wordsC (((bq (C.wordsC 1) C.wordV 125).wordsC 1).wordV)),(bh.mk c 0 C.wordV ((C.wordsC 1).wordV) 0 0 0 ((bq (C.wordsC 1) C.wordV 125).wordV) 0 0 0 0 ((bZ (bq ((bq (C.wordsC 1) C.wordV 125).wordsC 1) ((bq (C.wordsC 1) C.wordV 125).wordV) 121) (((bq (C.wordsC 1) C.wordV 125).wordsC 1).wordV)).wordsR (((bq (C.wordsC 1) C.wordV 125).wordsC 1).wordV)) [] [] [] 0 0 0 0 0 [])):=by
   unfold eL kY rI jI
   (try simp only[bs,if_true,if_false,decide_true,decide_false,reduceIte])
   all_goals rfl
 rw[hs]
 exact⟨rfl,(ae.upd W j (aa hne av) (ah (aF p (by decide)) az)),⟨_,⟨O,rfl⟩,⟨_,_,_,_,_,rfl,((am K j (fun x hx=>(aa (fun e=>(ap (ai hm) (le (le (le (le (le q.size k.size) d.size) l.size) f.size) i.size) K) (e▸hx)) av)) (fun _ _ h=>h))).rd,aI.nil ..,aI.nil ..,aI.nil ..,aI.nil ..,⟨(b8 (x:=c) (by omega)),(b8 (x:=0) (by omega)),(aD (x:=C.wordV) (by omega)),(aD (x:=(C.wordsC 1).wordV) (by omega)),(aD (x:=0) (by omega)),(aD (x:=0) (by omega)),(aD (x:=0) (by omega)),(aD (x:=(bq (C.wordsC 1) C.wordV 125).wordV) (by omega)),(aD (x:=0) (by omega)),(aD (x:=0) (by omega)),(aD (x:=0) (by omega)),(aD (x:=0) (by omega)),(b8 (x:=0) (by omega)),(b8 (x:=0) (by omega)),(b8 (x:=0) (by omega)),(b8 (x:=0) (by omega)),(b8 (x:=0) (by omega))⟩⟩⟩,(ut o (ui d (ui G (ui i (us m j)))) (ac im (ac im au)))⟩
theorem vD{g gm:Nat}{c:Int}{C:ak}{w:World}(hcode:B8 c)(hC:ae w g C)(hm:w.heap[gm]? = some (.cells (mC c) 31 (0,0)))(hne:g≠gm){bc:Nat}{bm:Nat}(hbc:w.heap[bc]? = some (.cells #[.pointer (some ⟨g,0,none⟩)] 143 (0,0)))(n_bc_g:bc≠g)(n_bc_gm:bc≠gm)(hbm:w.heap[bm]? = some (.cells #[.pointer (some ⟨gm,0,none⟩)] 145 (0,0)))(n_bm_g:bm≠g)(n_bm_gm:bm≠gm) :
    Calls Tryz.prog 119 #[.pointer (some ⟨bc,0,none⟩),.pointer (some ⟨bm,0,none⟩)] w (bE g gm (eS c C).1 (eS c C).2 w):=by
 obtain⟨hcode1,hcode2⟩:=hcode
 have hlen:=hC.len
 refine en 7 Tryz.func119 rfl<|Rg 6 (fun w'=>w'.cell? ⟨bm,0,none⟩=some (.pointer (some ⟨gm,0,none⟩))∧w'.cell? ⟨bc,0,none⟩=some (.pointer (some ⟨g,0,none⟩))) fun p a=>?_
 have e:=ub a hbm
 have f:=ub a hbc
 refine bg ⟨(aj e rfl),(aj f rfl)⟩ fun h=>Rl 0 h (fun _ hs=>hs.1)<|Rl 1 h (fun _ hs=>hs.2)<|?_
 refine R0 2 rfl<|Oc<|m3 (bj (ae.old hC a)) fun q n d r=>?_
 have i:=aQ d n_bm_g e
 have j:=aQ d n_bc_g f
 refine bg ⟨(aj i rfl),(aj j rfl)⟩ fun k=>Rt 3 k<|Rt 4 k<|?_
 have l:=uz a d
 have m:=aQ l (Ne.symm hne) hm
 refine R0 5 rfl<|bS m 2 (mG c 0 C.wordV 0 0 0 0 0 0 0 0 0 nS nS nS nS 0 0 0 0 0 nS) fun s o b=>?_
 refine bg ⟨(aj (aQ b n_bm_gm i) rfl),(aj (aQ b n_bc_gm j) rfl)⟩ fun t=>re<|rm (.tuple #[])<|?_
 have hs:eS c C=((C.wordsC 1),(bh.mk c 0 C.wordV 0 0 0 0 0 0 0 0 0 [] [] [] [] 0 0 0 0 0 [])):=by
   unfold eS
   (try simp only[bs,if_true,if_false,decide_true,decide_false,reduceIte])
   all_goals rfl
 rw[hs]
 exact⟨rfl,(ae.upd n b (aa hne av) (ah (aF m (by decide)) az)),⟨_,⟨o,rfl⟩,⟨_,_,_,_,_,rfl,aI.nil ..,aI.nil ..,aI.nil ..,aI.nil ..,aI.nil ..,⟨(b8 (x:=c) (by omega)),(b8 (x:=0) (by omega)),(aD (x:=C.wordV) (by omega)),(aD (x:=0) (by omega)),(aD (x:=0) (by omega)),(aD (x:=0) (by omega)),(aD (x:=0) (by omega)),(aD (x:=0) (by omega)),(aD (x:=0) (by omega)),(aD (x:=0) (by omega)),(aD (x:=0) (by omega)),(aD (x:=0) (by omega)),(b8 (x:=0) (by omega)),(b8 (x:=0) (by omega)),(b8 (x:=0) (by omega)),(b8 (x:=0) (by omega)),(b8 (x:=0) (by omega))⟩⟩⟩,(us l b)⟩
theorem vB{g gm:Nat}{c:Int}{C:ak}{w:World}(hcode:B8 c)(hC:ae w g C)(hm:w.heap[gm]? = some (.cells (mC c) 31 (0,0)))(hne:g≠gm){bc:Nat}{bm:Nat}(hbc:w.heap[bc]? = some (.cells #[.pointer (some ⟨g,0,none⟩)] 143 (0,0)))(n_bc_g:bc≠g)(n_bc_gm:bc≠gm)(hbm:w.heap[bm]? = some (.cells #[.pointer (some ⟨gm,0,none⟩)] 145 (0,0)))(n_bm_g:bm≠g)(n_bm_gm:bm≠gm) :
    Calls Tryz.prog 120 #[.pointer (some ⟨bc,0,none⟩),.pointer (some ⟨bm,0,none⟩)] w (bE g gm (rE c C).1 (rE c C).2 w):=by
 obtain⟨hcode1,hcode2⟩:=hcode
 have hlen:=hC.len
 refine en 36 Tryz.func120 rfl<|sg<|L0<|aU hbc 0<|L0<|Oc<|m3 (bj hC) fun T G k U=>L0<|Oi C.wordV<|Pl 1<|ng<|?_
 have l:=aQ k n_bc_g hbc
 refine L0<|aU l 0<|Pl 1<|L0<|Oe (.int .i64 (Int.tmod C.wordV 2)) (.int .i64 (C.wordV%2)) (congrArg (Value.int .i64) (Int.tmod_eq_emod_of_nonneg (by omega)))<|Pl 2<|cu 3 [11] 14 ((((C.wordV%2)==0)&&(decide (2≤C.wordV)))) (fun K m=>?_) ?_
 refine bl 11 (((C.wordV%2)==0)) (fun a=>?_) (fun a=>?_)
 have H:=aB a
 exact Pl 3<|ce m (decide (2≤C.wordV)) (by rw[a];rfl)
 have H:=aH a
 exact Pl 3<|ce m false (by rw[a];rfl)
 refine Pl 1<|cu 3 [15] 18 (((((C.wordV%2)==0)&&(decide (2≤C.wordV)))&&(decide (C.wordV≤64)))) (fun K o=>?_) ?_
 refine bl 15 ((((C.wordV%2)==0)&&(decide (2≤C.wordV)))) (fun b=>?_) (fun b=>?_)
 have I:=(bQ b).1
 have J:=(bQ b).2
 have V:=aB I
 have W:=of_decide_eq_true J
 exact Pl 3<|ce o (decide (C.wordV≤64)) (by rw[b];rfl)
 exact Pl 3<|ce o false (by rw[b];rfl)
 refine L0<|Oc<|m2 (aM (((((C.wordV%2)==0)&&(decide (2≤C.wordV)))&&(decide (C.wordV≤64)))) 5 G) fun X L p=>ng<|?_
 have q:=aQ p n_bc_g l
 refine L0<|aU q 0<|L0<|Oc<|m3 (bj L) fun Y M r Z=>L0<|Oi (((C.wordsC 1).need ((((C.wordV%2)==0)&&(decide (2≤C.wordV)))&&(decide (C.wordV≤64))) 5).wordV)<|Pl 1<|ng<|?_
 have s:=aQ r n_bc_g q
 refine L0<|aU s 0<|Pl 1<|L0<|Oi (2*(((C.wordsC 1).need ((((C.wordV%2)==0)&&(decide (2≤C.wordV)))&&(decide (C.wordV≤64))) 5).wordV))<|L0<|Oi (2+(2*(((C.wordsC 1).need ((((C.wordV%2)==0)&&(decide (2≤C.wordV)))&&(decide (C.wordV≤64))) 5).wordV)))<|Pl 2<|L0<|Oc<|m2 (aM (((2+(2*(((C.wordsC 1).need ((((C.wordV%2)==0)&&(decide (2≤C.wordV)))&&(decide (C.wordV≤64))) 5).wordV)))==C.wordV)) 5 M) fun a0 N O=>nt<|Rg 7 (fun w'=>w'.cell? ⟨bm,0,none⟩=some (.pointer (some ⟨gm,0,none⟩))∧w'.cell? ⟨bc,0,none⟩=some (.pointer (some ⟨g,0,none⟩))) fun a1 t=>?_
 have u:=aG O t
 have f:=u1 k (u1 p (u1 r u im) im) im
 have v:=aQ f n_bm_g hbm
 have y:=aQ u n_bc_g s
 refine bg ⟨(aj v rfl),(aj y rfl)⟩ fun i=>Rl 0 i (fun _ hs=>hs.1)<|Rl 1 i (fun _ hs=>hs.2)<|Rt 2 i<|?_
 refine R0 3 rfl<|Oc<|mr (cD (n:=((C.wordsC 1).need ((((C.wordV%2)==0)&&(decide (2≤C.wordV)))&&(decide (C.wordV≤64))) 5).wordV) (ae.old N t)) fun P Q a2 z a3 a4 R j=>?_
 have A:=aQ j n_bm_g v
 have B:=aQ j n_bc_g y
 refine bg ⟨(aj A rfl),(aj B rfl)⟩ fun D=>Rt 4 D<|Rt 5 D<|?_
 have E:=u1 f j im
 have F:=aQ E (Ne.symm hne) hm
 refine R0 6 rfl<|bS F 12 (mG c 0 0 0 0 0 0 0 0 0 0 0 (.slice P ((((((C.wordsC 1).need ((((C.wordV%2)==0)&&(decide (2≤C.wordV)))&&(decide (C.wordV≤64))) 5).wordsC 1).need ((2+(2*(((C.wordsC 1).need ((((C.wordV%2)==0)&&(decide (2≤C.wordV)))&&(decide (C.wordV≤64))) 5).wordV)))==C.wordV) 5).wordsR (((C.wordsC 1).need ((((C.wordV%2)==0)&&(decide (2≤C.wordV)))&&(decide (C.wordV≤64))) 5).wordV)).length) Q) nS nS nS 0 0 0 0 0 nS) fun a5 S d=>?_
 refine bg ⟨(aj (aQ d n_bm_gm A) rfl),(aj (aQ d n_bc_gm B) rfl)⟩ fun a6=>re<|rm (.tuple #[])<|?_
 have hs:rE c C=((((((C.wordsC 1).need ((((C.wordV%2)==0)&&(decide (2≤C.wordV)))&&(decide (C.wordV≤64))) 5).wordsC 1).need ((2+(2*(((C.wordsC 1).need ((((C.wordV%2)==0)&&(decide (2≤C.wordV)))&&(decide (C.wordV≤64))) 5).wordV)))==C.wordV) 5).wordsC (((C.wordsC 1).need ((((C.wordV%2)==0)&&(decide (2≤C.wordV)))&&(decide (C.wordV≤64))) 5).wordV)),(bh.mk c 0 0 0 0 0 0 0 0 0 0 0 (((((C.wordsC 1).need ((((C.wordV%2)==0)&&(decide (2≤C.wordV)))&&(decide (C.wordV≤64))) 5).wordsC 1).need ((2+(2*(((C.wordsC 1).need ((((C.wordV%2)==0)&&(decide (2≤C.wordV)))&&(decide (C.wordV≤64))) 5).wordV)))==C.wordV) 5).wordsR (((C.wordsC 1).need ((((C.wordV%2)==0)&&(decide (2≤C.wordV)))&&(decide (C.wordV≤64))) 5).wordV)) [] [] [] 0 0 0 0 0 [])):=by
   unfold rE uf tv jc
   (try simp only[bs,if_true,if_false,decide_true,decide_false,reduceIte])
   all_goals rfl
 rw[hs]
 exact⟨rfl,(ae.upd R d (aa hne av) (ah (aF F (by decide)) az)),⟨_,⟨S,rfl⟩,⟨_,_,_,_,_,rfl,((am z d (fun x hx=>(aa (fun e=>(ap (ai hm) f.size z) (e▸hx)) av)) (fun _ _ h=>h))).rd,aI.nil ..,aI.nil ..,aI.nil ..,aI.nil ..,⟨(b8 (x:=c) (by omega)),(b8 (x:=0) (by omega)),(aD (x:=0) (by omega)),(aD (x:=0) (by omega)),(aD (x:=0) (by omega)),(aD (x:=0) (by omega)),(aD (x:=0) (by omega)),(aD (x:=0) (by omega)),(aD (x:=0) (by omega)),(aD (x:=0) (by omega)),(aD (x:=0) (by omega)),(aD (x:=0) (by omega)),(b8 (x:=0) (by omega)),(b8 (x:=0) (by omega)),(b8 (x:=0) (by omega)),(b8 (x:=0) (by omega)),(b8 (x:=0) (by omega))⟩⟩⟩,(us E d)⟩
open Go.RowKit
theorem mR{g gm:Nat}{C:ak}{w:World}(hC:ae w g C)(hm:w.heap[gm]? = some (.cells (mC 3) 31 (0,0)))(hne:g≠gm) : Calls Tryz.prog 86 #[.int .i64 0,.pointer (some ⟨gm,0,none⟩),.pointer (some ⟨g,0,none⟩)] w (fi (fun W=>bE g gm (cc 125 3 C).1 (cc 125 3 C).2 W) w):=by
 refine en 67 Tryz.func86 rfl<|sg<|L0<|cS #[.pointer (some ⟨gm,0,none⟩)] fun n D f o a=>L0<|cS #[.pointer (some ⟨g,0,none⟩)] fun p E h q b=>Pl 1<|ng<|Pl 1<|L0<|bB #[.nilFunc] fun r F d s t=>L0<|bS s 0 #[.func (.func 109) #[] #[.pointer (some ⟨p,0,none⟩),.pointer (some ⟨n,0,none⟩)]] fun G u v=>nl<|?_
 refine tn<|sg<|Pl 2<|L0<|bB #[.bool false] fun H I x y z=>L0<|bS y 0 #[.bool true] fun J A B=>nt<|sq<|sg<|?_
 have i:=ud z B x
 have j:=ud t (aG v i) d
 have k:=aG b j
 have l:=ub k o
 refine L0<|aU l 0<|Pl 2<|?_
 have e:=aG a k
 have m:=ub e hm
 refine L0<|aU m 0<|Pl 1<|nt<|bk<|sg<|L0<|aU A 0<|Pl 9<|nt<|c1<|sg<|?_
 refine Pl 2<|nt<|rt<|br<|tr<|rr (.func (.func 111) #[] #[.pointer (some ⟨r,0,none⟩)])<|?_
 exact⟨_,_,rfl,by kernel_rfl,e,uY (c:=3) ⟨by decide,by decide⟩ (ae.old hC e) m hne (ub j q) (Ne.symm (nb (ae.lt hC) a.size h)) (Ne.symm (nb (ai hm) a.size h)) l (Ne.symm (nb (ae.lt hC) lr f)) (Ne.symm (nb (ai hm) lr f)) (ub i u) (Ne.symm (nb (ae.lt hC) (le a.size b.size) d)) (Ne.symm (nb (ai hm) (le a.size b.size) d))⟩
theorem o1{g gm:Nat}{C:ak}{w:World}(hC:ae w g C)(hm:w.heap[gm]? = some (.cells (mC 4) 31 (0,0)))(hne:g≠gm) : Calls Tryz.prog 86 #[.int .i64 0,.pointer (some ⟨gm,0,none⟩),.pointer (some ⟨g,0,none⟩)] w (fi (fun W=>bE g gm (cc 125 4 C).1 (cc 125 4 C).2 W) w):=by
 refine en 67 Tryz.func86 rfl<|sg<|L0<|cS #[.pointer (some ⟨gm,0,none⟩)] fun n D f o a=>L0<|cS #[.pointer (some ⟨g,0,none⟩)] fun p E h q b=>Pl 1<|ng<|Pl 1<|L0<|bB #[.nilFunc] fun r F d s t=>L0<|bS s 0 #[.func (.func 109) #[] #[.pointer (some ⟨p,0,none⟩),.pointer (some ⟨n,0,none⟩)]] fun G u v=>nl<|?_
 refine tn<|sg<|Pl 2<|L0<|bB #[.bool false] fun H I x y z=>L0<|bS y 0 #[.bool true] fun J A B=>nt<|sq<|sg<|?_
 have i:=ud z B x
 have j:=ud t (aG v i) d
 have k:=aG b j
 have l:=ub k o
 refine L0<|aU l 0<|Pl 2<|?_
 have e:=aG a k
 have m:=ub e hm
 refine L0<|aU m 0<|Pl 1<|nt<|bk<|sg<|L0<|aU A 0<|Pl 9<|nt<|c1<|sg<|?_
 refine Pl 2<|nt<|rt<|br<|tr<|rr (.func (.func 111) #[] #[.pointer (some ⟨r,0,none⟩)])<|?_
 exact⟨_,_,rfl,by kernel_rfl,e,uY (c:=4) ⟨by decide,by decide⟩ (ae.old hC e) m hne (ub j q) (Ne.symm (nb (ae.lt hC) a.size h)) (Ne.symm (nb (ai hm) a.size h)) l (Ne.symm (nb (ae.lt hC) lr f)) (Ne.symm (nb (ai hm) lr f)) (ub i u) (Ne.symm (nb (ae.lt hC) (le a.size b.size) d)) (Ne.symm (nb (ai hm) (le a.size b.size) d))⟩
theorem mK{g gm:Nat}{C:ak}{w:World}(hC:ae w g C)(hm:w.heap[gm]? = some (.cells (mC 3) 31 (0,0)))(hne:g≠gm) : Calls Tryz.prog 86 #[.int .i64 1,.pointer (some ⟨gm,0,none⟩),.pointer (some ⟨g,0,none⟩)] w (fi (fun W=>bE g gm (cW 3 C).1 (cW 3 C).2 W) w):=by
 refine en 67 Tryz.func86 rfl<|sg<|L0<|cS #[.pointer (some ⟨gm,0,none⟩)] fun d z e m a=>L0<|cS #[.pointer (some ⟨g,0,none⟩)] fun f A h n o=>Pl 1<|ng<|Pl 1<|L0<|bB #[.nilFunc] fun B D p q r=>L0<|bS q 0 #[.func (.func 109) #[] #[.pointer (some ⟨f,0,none⟩),.pointer (some ⟨d,0,none⟩)]] fun E F s=>nl<|?_
 refine tn<|sg<|Pl 2<|L0<|bB #[.bool false] fun G H t u v=>L0<|bS u 0 #[.bool false] fun I x y=>nt<|sq<|sg<|?_
 have i:=ud r (aG s (ud v y t)) p
 have j:=aG o i
 have k:=ub j m
 refine L0<|aU k 0<|Pl 2<|?_
 have b:=aG a j
 have l:=ub b hm
 refine L0<|aU l 0<|Pl 1<|nt<|bk<|sg<|L0<|aU x 0<|Pl 9<|nt<|c0<|sq<|sq<|?_
 refine go<|Pl 3<|nt<|c1<|bC<|c1<|sg<|Pl 2<|nt<|rt<|?_
 refine br<|tr<|rr (.func (.func 112) #[] #[.pointer (some ⟨f,0,none⟩),.pointer (some ⟨d,0,none⟩)])<|?_
 exact⟨_,_,rfl,by kernel_rfl,b,uF (c:=3) ⟨by decide,by decide⟩ (ae.old hC b) l hne (ub i n) (Ne.symm (nb (ae.lt hC) a.size h)) (Ne.symm (nb (ai hm) a.size h)) k (Ne.symm (nb (ae.lt hC) lr e)) (Ne.symm (nb (ai hm) lr e))⟩
theorem o9{g gm:Nat}{C:ak}{w:World}(hC:ae w g C)(hm:w.heap[gm]? = some (.cells (mC 4) 31 (0,0)))(hne:g≠gm) : Calls Tryz.prog 86 #[.int .i64 1,.pointer (some ⟨gm,0,none⟩),.pointer (some ⟨g,0,none⟩)] w (fi (fun W=>bE g gm (cW 4 C).1 (cW 4 C).2 W) w):=by
 refine en 67 Tryz.func86 rfl<|sg<|L0<|cS #[.pointer (some ⟨gm,0,none⟩)] fun d z e m a=>L0<|cS #[.pointer (some ⟨g,0,none⟩)] fun f A h n o=>Pl 1<|ng<|Pl 1<|L0<|bB #[.nilFunc] fun B D p q r=>L0<|bS q 0 #[.func (.func 109) #[] #[.pointer (some ⟨f,0,none⟩),.pointer (some ⟨d,0,none⟩)]] fun E F s=>nl<|?_
 refine tn<|sg<|Pl 2<|L0<|bB #[.bool false] fun G H t u v=>L0<|bS u 0 #[.bool false] fun I x y=>nt<|sq<|sg<|?_
 have i:=ud r (aG s (ud v y t)) p
 have j:=aG o i
 have k:=ub j m
 refine L0<|aU k 0<|Pl 2<|?_
 have b:=aG a j
 have l:=ub b hm
 refine L0<|aU l 0<|Pl 1<|nt<|bk<|sg<|L0<|aU x 0<|Pl 9<|nt<|c0<|sq<|sq<|?_
 refine go<|Pl 3<|nt<|c0<|sg<|Pl 3<|nt<|c1<|bC<|c1<|?_
 refine sg<|Pl 2<|nt<|rt<|br<|tr<|rr (.func (.func 112) #[] #[.pointer (some ⟨f,0,none⟩),.pointer (some ⟨d,0,none⟩)])<|?_
 exact⟨_,_,rfl,by kernel_rfl,b,uF (c:=4) ⟨by decide,by decide⟩ (ae.old hC b) l hne (ub i n) (Ne.symm (nb (ae.lt hC) a.size h)) (Ne.symm (nb (ai hm) a.size h)) k (Ne.symm (nb (ae.lt hC) lr e)) (Ne.symm (nb (ai hm) lr e))⟩
theorem nE{g gm:Nat}{C:ak}{w:World}(hC:ae w g C)(hm:w.heap[gm]? = some (.cells (mC 6) 31 (0,0)))(hne:g≠gm) : Calls Tryz.prog 86 #[.int .i64 0,.pointer (some ⟨gm,0,none⟩),.pointer (some ⟨g,0,none⟩)] w (fi (fun W=>bE g gm (eF 6 C).1 (eF 6 C).2 W) w):=by
 refine en 67 Tryz.func86 rfl<|sg<|L0<|cS #[.pointer (some ⟨gm,0,none⟩)] fun d z e m a=>L0<|cS #[.pointer (some ⟨g,0,none⟩)] fun f A h n o=>Pl 1<|ng<|Pl 1<|L0<|bB #[.nilFunc] fun B D p q r=>L0<|bS q 0 #[.func (.func 109) #[] #[.pointer (some ⟨f,0,none⟩),.pointer (some ⟨d,0,none⟩)]] fun E F s=>nl<|?_
 refine tn<|sg<|Pl 2<|L0<|bB #[.bool false] fun G H t u v=>L0<|bS u 0 #[.bool true] fun I x y=>nt<|sq<|sg<|?_
 have i:=ud r (aG s (ud v y t)) p
 have j:=aG o i
 have k:=ub j m
 refine L0<|aU k 0<|Pl 2<|?_
 have b:=aG a j
 have l:=ub b hm
 refine L0<|aU l 0<|Pl 1<|nt<|bk<|sg<|L0<|aU x 0<|Pl 9<|nt<|c0<|sq<|sq<|?_
 refine go<|Pl 3<|nt<|c0<|sg<|Pl 3<|nt<|c0<|go<|Pl 7<|nl<|?_
 refine tn<|c0<|sg<|Pl 3<|nt<|c1<|sg<|Pl 2<|nt<|rt<|?_
 refine br<|tr<|rr (.func (.func 114) #[] #[.pointer (some ⟨f,0,none⟩),.pointer (some ⟨d,0,none⟩)])<|?_
 exact⟨_,_,rfl,by kernel_rfl,b,v5 (c:=6) ⟨by decide,by decide⟩ (ae.old hC b) l hne (ub i n) (Ne.symm (nb (ae.lt hC) a.size h)) (Ne.symm (nb (ai hm) a.size h)) k (Ne.symm (nb (ae.lt hC) lr e)) (Ne.symm (nb (ai hm) lr e))⟩
theorem nM{g gm:Nat}{C:ak}{w:World}(hC:ae w g C)(hm:w.heap[gm]? = some (.cells (mC 6) 31 (0,0)))(hne:g≠gm) : Calls Tryz.prog 86 #[.int .i64 1,.pointer (some ⟨gm,0,none⟩),.pointer (some ⟨g,0,none⟩)] w (fi (fun W=>bE g gm (eF 6 C).1 (eF 6 C).2 W) w):=by
 refine en 67 Tryz.func86 rfl<|sg<|L0<|cS #[.pointer (some ⟨gm,0,none⟩)] fun d z e m a=>L0<|cS #[.pointer (some ⟨g,0,none⟩)] fun f A h n o=>Pl 1<|ng<|Pl 1<|L0<|bB #[.nilFunc] fun B D p q r=>L0<|bS q 0 #[.func (.func 109) #[] #[.pointer (some ⟨f,0,none⟩),.pointer (some ⟨d,0,none⟩)]] fun E F s=>nl<|?_
 refine tn<|sg<|Pl 2<|L0<|bB #[.bool false] fun G H t u v=>L0<|bS u 0 #[.bool false] fun I x y=>nt<|sq<|sg<|?_
 have i:=ud r (aG s (ud v y t)) p
 have j:=aG o i
 have k:=ub j m
 refine L0<|aU k 0<|Pl 2<|?_
 have b:=aG a j
 have l:=ub b hm
 refine L0<|aU l 0<|Pl 1<|nt<|bk<|sg<|L0<|aU x 0<|Pl 9<|nt<|c0<|sq<|sq<|?_
 refine go<|Pl 3<|nt<|c0<|sg<|Pl 3<|nt<|c0<|go<|Pl 7<|nl<|?_
 refine tn<|c0<|sg<|Pl 3<|nt<|c1<|sg<|Pl 2<|nt<|rt<|?_
 refine br<|tr<|rr (.func (.func 114) #[] #[.pointer (some ⟨f,0,none⟩),.pointer (some ⟨d,0,none⟩)])<|?_
 exact⟨_,_,rfl,by kernel_rfl,b,v5 (c:=6) ⟨by decide,by decide⟩ (ae.old hC b) l hne (ub i n) (Ne.symm (nb (ae.lt hC) a.size h)) (Ne.symm (nb (ai hm) a.size h)) k (Ne.symm (nb (ae.lt hC) lr e)) (Ne.symm (nb (ai hm) lr e))⟩
theorem kZ{g gm:Nat}{C:ak}{w:World}(hC:ae w g C)(hm:w.heap[gm]? = some (.cells (mC 16) 31 (0,0)))(hne:g≠gm) : Calls Tryz.prog 86 #[.int .i64 0,.pointer (some ⟨gm,0,none⟩),.pointer (some ⟨g,0,none⟩)] w (fi (fun W=>bE g gm (eH 16 C).1 (eH 16 C).2 W) w):=by
 refine en 67 Tryz.func86 rfl<|sg<|L0<|cS #[.pointer (some ⟨gm,0,none⟩)] fun j E k t a=>L0<|cS #[.pointer (some ⟨g,0,none⟩)] fun l F m u b=>Pl 1<|ng<|Pl 1<|L0<|bB #[.nilFunc] fun v G d x e=>L0<|bS x 0 #[.func (.func 109) #[] #[.pointer (some ⟨l,0,none⟩),.pointer (some ⟨j,0,none⟩)]] fun H y f=>nl<|?_
 refine tn<|sg<|Pl 2<|L0<|bB #[.bool false] fun z I h A B=>L0<|bS A 0 #[.bool true] fun J n D=>nt<|sq<|sg<|?_
 have o:=ud B D h
 have p:=ud e (aG f o) d
 have q:=aG b p
 have r:=ub q t
 refine L0<|aU r 0<|Pl 2<|?_
 have i:=aG a q
 have s:=ub i hm
 refine L0<|aU s 0<|Pl 1<|nt<|bk<|sg<|L0<|aU n 0<|Pl 9<|nt<|c0<|sq<|sq<|?_
 refine go<|Pl 3<|nt<|c0<|sg<|Pl 3<|nt<|c0<|go<|Pl 7<|nl<|?_
 refine tn<|c0<|sg<|Pl 3<|nt<|c0<|sg<|Pl 3<|nt<|c1<|?_
 refine sg<|Pl 2<|nt<|rt<|br<|tr<|rr (.func (.func 115) #[] #[.pointer (some ⟨v,0,none⟩),.pointer (some ⟨z,0,none⟩),.pointer (some ⟨l,0,none⟩),.pointer (some ⟨j,0,none⟩)])<|?_
 exact⟨_,_,rfl,by kernel_rfl,i,uD (c:=16) ⟨by decide,by decide⟩ (ae.old hC i) s hne (ub p u) (Ne.symm (nb (ae.lt hC) a.size m)) (Ne.symm (nb (ai hm) a.size m)) r (Ne.symm (nb (ae.lt hC) lr k)) (Ne.symm (nb (ai hm) lr k)) (ub o y) (Ne.symm (nb (ae.lt hC) (le a.size b.size) d)) (Ne.symm (nb (ai hm) (le a.size b.size) d)) n (Ne.symm (nb (ae.lt hC) (le (le (le a.size b.size) e.size) f.size) h)) (Ne.symm (nb (ai hm) (le (le (le a.size b.size) e.size) f.size) h)) rfl⟩
theorem kU{g gm:Nat}{C:ak}{w:World}(hC:ae w g C)(hm:w.heap[gm]? = some (.cells (mC 16) 31 (0,0)))(hne:g≠gm) : Calls Tryz.prog 86 #[.int .i64 1,.pointer (some ⟨gm,0,none⟩),.pointer (some ⟨g,0,none⟩)] w (fi (fun W=>bE g gm (cc 123 16 C).1 (cc 123 16 C).2 W) w):=by
 refine en 67 Tryz.func86 rfl<|sg<|L0<|cS #[.pointer (some ⟨gm,0,none⟩)] fun j E k t a=>L0<|cS #[.pointer (some ⟨g,0,none⟩)] fun l F m u b=>Pl 1<|ng<|Pl 1<|L0<|bB #[.nilFunc] fun v G d x e=>L0<|bS x 0 #[.func (.func 109) #[] #[.pointer (some ⟨l,0,none⟩),.pointer (some ⟨j,0,none⟩)]] fun H y f=>nl<|?_
 refine tn<|sg<|Pl 2<|L0<|bB #[.bool false] fun z I h A B=>L0<|bS A 0 #[.bool false] fun J n D=>nt<|sq<|sg<|?_
 have o:=ud B D h
 have p:=ud e (aG f o) d
 have q:=aG b p
 have r:=ub q t
 refine L0<|aU r 0<|Pl 2<|?_
 have i:=aG a q
 have s:=ub i hm
 refine L0<|aU s 0<|Pl 1<|nt<|bk<|sg<|L0<|aU n 0<|Pl 9<|nt<|c0<|sq<|sq<|?_
 refine go<|Pl 3<|nt<|c0<|sg<|Pl 3<|nt<|c0<|go<|Pl 7<|nl<|?_
 refine tn<|c0<|sg<|Pl 3<|nt<|c0<|sg<|Pl 3<|nt<|c1<|?_
 refine sg<|Pl 2<|nt<|rt<|br<|tr<|rr (.func (.func 115) #[] #[.pointer (some ⟨v,0,none⟩),.pointer (some ⟨z,0,none⟩),.pointer (some ⟨l,0,none⟩),.pointer (some ⟨j,0,none⟩)])<|?_
 exact⟨_,_,rfl,by kernel_rfl,i,uL (c:=16) ⟨by decide,by decide⟩ (ae.old hC i) s hne (ub p u) (Ne.symm (nb (ae.lt hC) a.size m)) (Ne.symm (nb (ai hm) a.size m)) r (Ne.symm (nb (ae.lt hC) lr k)) (Ne.symm (nb (ai hm) lr k)) (ub o y) (Ne.symm (nb (ae.lt hC) (le a.size b.size) d)) (Ne.symm (nb (ai hm) (le a.size b.size) d)) n (Ne.symm (nb (ae.lt hC) (le (le (le a.size b.size) e.size) f.size) h)) (Ne.symm (nb (ai hm) (le (le (le a.size b.size) e.size) f.size) h)) rfl⟩
theorem ll{g gm:Nat}{C:ak}{w:World}(hC:ae w g C)(hm:w.heap[gm]? = some (.cells (mC 22) 31 (0,0)))(hne:g≠gm) : Calls Tryz.prog 86 #[.int .i64 0,.pointer (some ⟨gm,0,none⟩),.pointer (some ⟨g,0,none⟩)] w (fi (fun W=>bE g gm (dC 22 C).1 (dC 22 C).2 W) w):=by
 refine en 67 Tryz.func86 rfl<|sg<|L0<|cS #[.pointer (some ⟨gm,0,none⟩)] fun d z e m a=>L0<|cS #[.pointer (some ⟨g,0,none⟩)] fun f A h n o=>Pl 1<|ng<|Pl 1<|L0<|bB #[.nilFunc] fun B D p q r=>L0<|bS q 0 #[.func (.func 109) #[] #[.pointer (some ⟨f,0,none⟩),.pointer (some ⟨d,0,none⟩)]] fun E F s=>nl<|?_
 refine tn<|sg<|Pl 2<|L0<|bB #[.bool false] fun G H t u v=>L0<|bS u 0 #[.bool true] fun I x y=>nt<|sq<|sg<|?_
 have i:=ud r (aG s (ud v y t)) p
 have j:=aG o i
 have k:=ub j m
 refine L0<|aU k 0<|Pl 2<|?_
 have b:=aG a j
 have l:=ub b hm
 refine L0<|aU l 0<|Pl 1<|nt<|bk<|sg<|L0<|aU x 0<|Pl 9<|nt<|c0<|sq<|sq<|?_
 refine go<|Pl 3<|nt<|c0<|sg<|Pl 3<|nt<|c0<|go<|Pl 7<|nl<|?_
 refine tn<|c0<|sg<|Pl 3<|nt<|c0<|sg<|Pl 3<|nt<|c0<|?_
 refine sg<|Pl 3<|nt<|c1<|sg<|Pl 2<|nt<|rt<|br<|tr<|?_
 refine rr (.func (.func 117) #[] #[.pointer (some ⟨f,0,none⟩),.pointer (some ⟨d,0,none⟩)])<|?_
 exact⟨_,_,rfl,by kernel_rfl,b,vf (c:=22) ⟨by decide,by decide⟩ (ae.old hC b) l hne (ub i n) (Ne.symm (nb (ae.lt hC) a.size h)) (Ne.symm (nb (ai hm) a.size h)) k (Ne.symm (nb (ae.lt hC) lr e)) (Ne.symm (nb (ai hm) lr e))⟩
theorem lI{g gm:Nat}{C:ak}{w:World}(hC:ae w g C)(hm:w.heap[gm]? = some (.cells (mC 22) 31 (0,0)))(hne:g≠gm) : Calls Tryz.prog 86 #[.int .i64 1,.pointer (some ⟨gm,0,none⟩),.pointer (some ⟨g,0,none⟩)] w (fi (fun W=>bE g gm (dC 22 C).1 (dC 22 C).2 W) w):=by
 refine en 67 Tryz.func86 rfl<|sg<|L0<|cS #[.pointer (some ⟨gm,0,none⟩)] fun d z e m a=>L0<|cS #[.pointer (some ⟨g,0,none⟩)] fun f A h n o=>Pl 1<|ng<|Pl 1<|L0<|bB #[.nilFunc] fun B D p q r=>L0<|bS q 0 #[.func (.func 109) #[] #[.pointer (some ⟨f,0,none⟩),.pointer (some ⟨d,0,none⟩)]] fun E F s=>nl<|?_
 refine tn<|sg<|Pl 2<|L0<|bB #[.bool false] fun G H t u v=>L0<|bS u 0 #[.bool false] fun I x y=>nt<|sq<|sg<|?_
 have i:=ud r (aG s (ud v y t)) p
 have j:=aG o i
 have k:=ub j m
 refine L0<|aU k 0<|Pl 2<|?_
 have b:=aG a j
 have l:=ub b hm
 refine L0<|aU l 0<|Pl 1<|nt<|bk<|sg<|L0<|aU x 0<|Pl 9<|nt<|c0<|sq<|sq<|?_
 refine go<|Pl 3<|nt<|c0<|sg<|Pl 3<|nt<|c0<|go<|Pl 7<|nl<|?_
 refine tn<|c0<|sg<|Pl 3<|nt<|c0<|sg<|Pl 3<|nt<|c0<|?_
 refine sg<|Pl 3<|nt<|c1<|sg<|Pl 2<|nt<|rt<|br<|tr<|?_
 refine rr (.func (.func 117) #[] #[.pointer (some ⟨f,0,none⟩),.pointer (some ⟨d,0,none⟩)])<|?_
 exact⟨_,_,rfl,by kernel_rfl,b,vf (c:=22) ⟨by decide,by decide⟩ (ae.old hC b) l hne (ub i n) (Ne.symm (nb (ae.lt hC) a.size h)) (Ne.symm (nb (ai hm) a.size h)) k (Ne.symm (nb (ae.lt hC) lr e)) (Ne.symm (nb (ai hm) lr e))⟩
theorem lM{g gm:Nat}{C:ak}{w:World}(hC:ae w g C)(hm:w.heap[gm]? = some (.cells (mC 23) 31 (0,0)))(hne:g≠gm) : Calls Tryz.prog 86 #[.int .i64 0,.pointer (some ⟨gm,0,none⟩),.pointer (some ⟨g,0,none⟩)] w (fi (fun W=>bE g gm (eL 23 C).1 (eL 23 C).2 W) w):=by
 refine en 67 Tryz.func86 rfl<|sg<|L0<|cS #[.pointer (some ⟨gm,0,none⟩)] fun f D h q a=>L0<|cS #[.pointer (some ⟨g,0,none⟩)] fun i E j r b=>Pl 1<|ng<|Pl 1<|L0<|bB #[.nilFunc] fun s F d t u=>L0<|bS t 0 #[.func (.func 109) #[] #[.pointer (some ⟨i,0,none⟩),.pointer (some ⟨f,0,none⟩)]] fun G v x=>nl<|?_
 refine tn<|sg<|Pl 2<|L0<|bB #[.bool false] fun H I y z A=>L0<|bS z 0 #[.bool true] fun J k B=>nt<|sq<|sg<|?_
 have l:=ud A B y
 have m:=ud u (aG x l) d
 have n:=aG b m
 have o:=ub n q
 refine L0<|aU o 0<|Pl 2<|?_
 have e:=aG a n
 have p:=ub e hm
 refine L0<|aU p 0<|Pl 1<|nt<|bk<|sg<|L0<|aU k 0<|Pl 9<|nt<|c0<|sq<|sq<|?_
 refine go<|Pl 3<|nt<|c0<|sg<|Pl 3<|nt<|c0<|go<|Pl 3<|L1<|aU k 0<|?_
 refine Pl 3<|nt<|c0<|sg<|Pl 3<|nt<|c0<|sg<|Pl 3<|nl<|?_
 refine tn<|c0<|sg<|Pl 3<|nt<|c0<|sg<|Pl 3<|nt<|c1<|?_
 refine sg<|Pl 2<|nt<|rt<|br<|tr<|rr (.func (.func 118) #[] #[.pointer (some ⟨s,0,none⟩),.pointer (some ⟨i,0,none⟩),.pointer (some ⟨f,0,none⟩)])<|?_
 exact⟨_,_,rfl,by kernel_rfl,e,vK (c:=23) ⟨by decide,by decide⟩ (ae.old hC e) p hne (ub m r) (Ne.symm (nb (ae.lt hC) a.size j)) (Ne.symm (nb (ai hm) a.size j)) o (Ne.symm (nb (ae.lt hC) lr h)) (Ne.symm (nb (ai hm) lr h)) (ub l v) (Ne.symm (nb (ae.lt hC) (le a.size b.size) d)) (Ne.symm (nb (ai hm) (le a.size b.size) d))⟩
theorem lL{g gm:Nat}{C:ak}{w:World}(hC:ae w g C)(hm:w.heap[gm]? = some (.cells (mC 23) 31 (0,0)))(hne:g≠gm) : Calls Tryz.prog 86 #[.int .i64 1,.pointer (some ⟨gm,0,none⟩),.pointer (some ⟨g,0,none⟩)] w (fi (fun W=>bE g gm (cW 23 C).1 (cW 23 C).2 W) w):=by
 refine en 67 Tryz.func86 rfl<|sg<|L0<|cS #[.pointer (some ⟨gm,0,none⟩)] fun d z e n a=>L0<|cS #[.pointer (some ⟨g,0,none⟩)] fun f A h o p=>Pl 1<|ng<|Pl 1<|L0<|bB #[.nilFunc] fun B D q r s=>L0<|bS r 0 #[.func (.func 109) #[] #[.pointer (some ⟨f,0,none⟩),.pointer (some ⟨d,0,none⟩)]] fun E F t=>nl<|?_
 refine tn<|sg<|Pl 2<|L0<|bB #[.bool false] fun G H u v x=>L0<|bS v 0 #[.bool false] fun I i y=>nt<|sq<|sg<|?_
 have j:=ud s (aG t (ud x y u)) q
 have k:=aG p j
 have l:=ub k n
 refine L0<|aU l 0<|Pl 2<|?_
 have b:=aG a k
 have m:=ub b hm
 refine L0<|aU m 0<|Pl 1<|nt<|bk<|sg<|L0<|aU i 0<|Pl 9<|nt<|c0<|sq<|sq<|?_
 refine go<|Pl 3<|nt<|c0<|sg<|Pl 3<|nt<|c0<|go<|Pl 3<|L1<|aU i 0<|?_
 refine Pl 3<|nt<|c1<|sg<|Pl 2<|nt<|rt<|br<|tr<|rr (.func (.func 112) #[] #[.pointer (some ⟨f,0,none⟩),.pointer (some ⟨d,0,none⟩)])<|?_
 exact⟨_,_,rfl,by kernel_rfl,b,uF (c:=23) ⟨by decide,by decide⟩ (ae.old hC b) m hne (ub j o) (Ne.symm (nb (ae.lt hC) a.size h)) (Ne.symm (nb (ai hm) a.size h)) l (Ne.symm (nb (ae.lt hC) lr e)) (Ne.symm (nb (ai hm) lr e))⟩
theorem kO{g gm:Nat}{C:ak}{w:World}(hC:ae w g C)(hm:w.heap[gm]? = some (.cells (mC 24) 31 (0,0)))(hne:g≠gm) : Calls Tryz.prog 86 #[.int .i64 0,.pointer (some ⟨gm,0,none⟩),.pointer (some ⟨g,0,none⟩)] w (fi (fun W=>bE g gm (eS 24 C).1 (eS 24 C).2 W) w):=by
 refine en 67 Tryz.func86 rfl<|sg<|L0<|cS #[.pointer (some ⟨gm,0,none⟩)] fun d z e n a=>L0<|cS #[.pointer (some ⟨g,0,none⟩)] fun f A h o p=>Pl 1<|ng<|Pl 1<|L0<|bB #[.nilFunc] fun B D q r s=>L0<|bS r 0 #[.func (.func 109) #[] #[.pointer (some ⟨f,0,none⟩),.pointer (some ⟨d,0,none⟩)]] fun E F t=>nl<|?_
 refine tn<|sg<|Pl 2<|L0<|bB #[.bool false] fun G H u v x=>L0<|bS v 0 #[.bool true] fun I i y=>nt<|sq<|sg<|?_
 have j:=ud s (aG t (ud x y u)) q
 have k:=aG p j
 have l:=ub k n
 refine L0<|aU l 0<|Pl 2<|?_
 have b:=aG a k
 have m:=ub b hm
 refine L0<|aU m 0<|Pl 1<|nt<|bk<|sg<|L0<|aU i 0<|Pl 9<|nt<|c0<|sq<|sq<|?_
 refine go<|Pl 3<|nt<|c0<|sg<|Pl 3<|nt<|c0<|go<|Pl 7<|nl<|?_
 refine tn<|c0<|sg<|Pl 3<|nt<|c0<|sg<|Pl 3<|nt<|c0<|?_
 refine sg<|Pl 3<|nt<|c0<|sg<|Pl 3<|nt<|c0<|sg<|?_
 refine Pl 3<|L1<|aU i 0<|Pl 2<|nt<|c1<|sg<|Pl 2<|nt<|rt<|br<|tr<|?_
 refine rr (.func (.func 119) #[] #[.pointer (some ⟨f,0,none⟩),.pointer (some ⟨d,0,none⟩)])<|?_
 exact⟨_,_,rfl,by kernel_rfl,b,vD (c:=24) ⟨by decide,by decide⟩ (ae.old hC b) m hne (ub j o) (Ne.symm (nb (ae.lt hC) a.size h)) (Ne.symm (nb (ai hm) a.size h)) l (Ne.symm (nb (ae.lt hC) lr e)) (Ne.symm (nb (ai hm) lr e))⟩
theorem lg{g gm:Nat}{C:ak}{w:World}(hC:ae w g C)(hm:w.heap[gm]? = some (.cells (mC 24) 31 (0,0)))(hne:g≠gm) : Calls Tryz.prog 86 #[.int .i64 1,.pointer (some ⟨gm,0,none⟩),.pointer (some ⟨g,0,none⟩)] w (fi (fun W=>bE g gm (rE 24 C).1 (rE 24 C).2 W) w):=by
 refine en 67 Tryz.func86 rfl<|sg<|L0<|cS #[.pointer (some ⟨gm,0,none⟩)] fun d z e n a=>L0<|cS #[.pointer (some ⟨g,0,none⟩)] fun f A h o p=>Pl 1<|ng<|Pl 1<|L0<|bB #[.nilFunc] fun B D q r s=>L0<|bS r 0 #[.func (.func 109) #[] #[.pointer (some ⟨f,0,none⟩),.pointer (some ⟨d,0,none⟩)]] fun E F t=>nl<|?_
 refine tn<|sg<|Pl 2<|L0<|bB #[.bool false] fun G H u v x=>L0<|bS v 0 #[.bool false] fun I i y=>nt<|sq<|sg<|?_
 have j:=ud s (aG t (ud x y u)) q
 have k:=aG p j
 have l:=ub k n
 refine L0<|aU l 0<|Pl 2<|?_
 have b:=aG a k
 have m:=ub b hm
 refine L0<|aU m 0<|Pl 1<|nt<|bk<|sg<|L0<|aU i 0<|Pl 9<|nt<|c0<|sq<|sq<|?_
 refine go<|Pl 3<|nt<|c0<|sg<|Pl 3<|nt<|c0<|go<|Pl 7<|nl<|?_
 refine tn<|c0<|sg<|Pl 3<|nt<|c0<|sg<|Pl 3<|nt<|c0<|?_
 refine sg<|Pl 3<|nt<|c0<|sg<|Pl 3<|nt<|c0<|sg<|?_
 refine Pl 3<|L1<|aU i 0<|Pl 2<|nt<|c0<|sg<|Pl 3<|nt<|c1<|sg<|?_
 refine Pl 2<|nt<|rt<|br<|tr<|rr (.func (.func 120) #[] #[.pointer (some ⟨f,0,none⟩),.pointer (some ⟨d,0,none⟩)])<|?_
 exact⟨_,_,rfl,by kernel_rfl,b,vB (c:=24) ⟨by decide,by decide⟩ (ae.old hC b) m hne (ub j o) (Ne.symm (nb (ae.lt hC) a.size h)) (Ne.symm (nb (ai hm) a.size h)) l (Ne.symm (nb (ae.lt hC) lr e)) (Ne.symm (nb (ai hm) lr e))⟩
theorem ld{c:Int}{g gm:Nat}{C:ak}{w:World}(hC:ae w g C)(hm:w.heap[gm]? = some (.cells (mC c) 31 (0,0)))(hne:g≠gm)(k3:(c==3)=false)(k4:(c==4)=false)(k6:(c==6)=false)(f:(c==16)=false)(h:(c==22)=false)(a:(c==23)=false)(b:(c==24)=false) : Calls Tryz.prog 86 #[.int .i64 0,.pointer (some ⟨gm,0,none⟩),.pointer (some ⟨g,0,none⟩)] w (bi .nilFunc w):=by
 refine en 67 Tryz.func86 rfl<|sg<|L0<|cS #[.pointer (some ⟨gm,0,none⟩)] fun i x y j k=>L0<|cS #[.pointer (some ⟨g,0,none⟩)] fun l z A B m=>Pl 1<|ng<|Pl 1<|L0<|bB #[.nilFunc] fun D E n o p=>L0<|bS o 0 #[.func (.func 109) #[] #[.pointer (some ⟨l,0,none⟩),.pointer (some ⟨i,0,none⟩)]] fun F G q=>nl<|?_
 refine tn<|sg<|Pl 2<|L0<|bB #[.bool false] fun H I r s t=>L0<|bS s 0 #[.bool true] fun J u v=>nt<|sq<|sg<|?_
 have d:=aG m (ud p (aG q (ud t v r)) n)
 refine L0<|aU (ub d j) 0<|Pl 2<|?_
 have e:=aG k d
 refine L0<|aU (ub e hm) 0<|Pl 1<|nt<|bk<|sg<|L0<|aU u 0<|Pl 4<|sy 22 k3<|Pl 5<|nt<|cf k4<|?_
 refine sq<|sg<|Pl 3<|nt<|cf k3<|sg<|Pl 3<|nt<|cf k4<|go<|?_
 refine Pl 3<|sy 35 a<|Pl 4<|nt<|c0<|sg<|Pl 3<|nt<|cf k6<|sg<|?_
 refine Pl 3<|nt<|cf f<|sg<|Pl 3<|nt<|cf h<|sg<|Pl 3<|nl<|?_
 refine tn<|cf a<|sg<|Pl 3<|sy 59 b<|Pl 3<|nt<|c0<|sg<|Pl 3<|nl<|?_
 refine tn<|cf b<|sk<|bn<|tn<|sg<|Pl 1<|nt<|rt<|rr (.nilFunc)<|?_
 exact⟨rfl,e⟩
theorem lW{c:Int}{g gm:Nat}{C:ak}{w:World}(hC:ae w g C)(hm:w.heap[gm]? = some (.cells (mC c) 31 (0,0)))(hne:g≠gm)(k3:(c==3)=false)(k4:(c==4)=false)(k6:(c==6)=false)(f:(c==16)=false)(h:(c==22)=false)(a:(c==23)=false)(b:(c==24)=false) : Calls Tryz.prog 86 #[.int .i64 1,.pointer (some ⟨gm,0,none⟩),.pointer (some ⟨g,0,none⟩)] w (bi .nilFunc w):=by
 refine en 67 Tryz.func86 rfl<|sg<|L0<|cS #[.pointer (some ⟨gm,0,none⟩)] fun i x y j k=>L0<|cS #[.pointer (some ⟨g,0,none⟩)] fun l z A B m=>Pl 1<|ng<|Pl 1<|L0<|bB #[.nilFunc] fun D E n o p=>L0<|bS o 0 #[.func (.func 109) #[] #[.pointer (some ⟨l,0,none⟩),.pointer (some ⟨i,0,none⟩)]] fun F G q=>nl<|?_
 refine tn<|sg<|Pl 2<|L0<|bB #[.bool false] fun H I r s t=>L0<|bS s 0 #[.bool false] fun J u v=>nt<|sq<|sg<|?_
 have d:=aG m (ud p (aG q (ud t v r)) n)
 refine L0<|aU (ub d j) 0<|Pl 2<|?_
 have e:=aG k d
 refine L0<|aU (ub e hm) 0<|Pl 1<|nt<|bk<|sg<|L0<|aU u 0<|Pl 9<|nt<|c0<|sq<|sq<|?_
 refine go<|Pl 3<|nt<|cf k3<|sg<|Pl 3<|nt<|cf k4<|go<|Pl 3<|sy 35 a<|?_
 refine Pl 4<|nt<|c0<|sg<|Pl 3<|nt<|cf k6<|sg<|Pl 3<|nl<|?_
 refine tn<|cf f<|sg<|Pl 3<|nt<|cf h<|sg<|Pl 3<|nt<|cf a<|?_
 refine sg<|Pl 3<|sy 59 b<|Pl 3<|nt<|c0<|sg<|Pl 3<|nt<|cf b<|?_
 refine sk<|bn<|tn<|sg<|Pl 1<|nt<|rt<|rr (.nilFunc)<|?_
 exact⟨rfl,e⟩
theorem i7{dir c:Int}{r:ak × bh}{g gm:Nat}{C:ak}{w:World}(hC:ae w g C)(hm:w.heap[gm]? = some (.cells (mC c) 31 (0,0)))(hne:g≠gm)(hd:dir=0∨dir=1)(h:bG dir c C=some r) : Calls Tryz.prog 86 #[.int .i64 dir,.pointer (some ⟨gm,0,none⟩),.pointer (some ⟨g,0,none⟩)] w (fi (fun W=>bE g gm r.1 r.2 W) w):=by
  by_cases h3:c=3
  · subst h3
    rcases hd with rfl|rfl
    · obtain rfl:cc 125 3 C=r:=Option.some.inj h
      exact mR hC hm hne
    · obtain rfl:cW 3 C=r:=Option.some.inj h
      exact mK hC hm hne
  by_cases h4:c=4
  · subst h4
    rcases hd with rfl|rfl
    · obtain rfl:cc 125 4 C=r:=Option.some.inj h
      exact o1 hC hm hne
    · obtain rfl:cW 4 C=r:=Option.some.inj h
      exact o9 hC hm hne
  by_cases h6:c=6
  · subst h6
    rcases hd with rfl|rfl
    · obtain rfl:eF 6 C=r:=Option.some.inj h
      exact nE hC hm hne
    · obtain rfl:eF 6 C=r:=Option.some.inj h
      exact nM hC hm hne
  by_cases a:c=16
  · subst a
    rcases hd with rfl|rfl
    · obtain rfl:eH 16 C=r:=Option.some.inj h
      exact kZ hC hm hne
    · obtain rfl:cc 123 16 C=r:=Option.some.inj h
      exact kU hC hm hne
  by_cases b:c=22
  · subst b
    rcases hd with rfl|rfl
    · obtain rfl:dC 22 C=r:=Option.some.inj h
      exact ll hC hm hne
    · obtain rfl:dC 22 C=r:=Option.some.inj h
      exact lI hC hm hne
  by_cases d:c=23
  · subst d
    rcases hd with rfl|rfl
    · obtain rfl:eL 23 C=r:=Option.some.inj h
      exact lM hC hm hne
    · obtain rfl:cW 23 C=r:=Option.some.inj h
      exact lL hC hm hne
  by_cases e:c=24
  · subst e
    rcases hd with rfl|rfl
    · obtain rfl:eS 24 C=r:=Option.some.inj h
      exact kO hC hm hne
    · obtain rfl:rE 24 C=r:=Option.some.inj h
      exact lg hC hm hne
  exfalso
  unfold bG at h
  simp[h3,h4,h6,a,b,d,e] at h
theorem i4{dir c:Int}{g gm:Nat}{C:ak}{w:World}(hC:ae w g C)(hm:w.heap[gm]? = some (.cells (mC c) 31 (0,0)))(hne:g≠gm)(hd:dir=0∨dir=1)(h:bG dir c C=none) : Calls Tryz.prog 86 #[.int .i64 dir,.pointer (some ⟨gm,0,none⟩),.pointer (some ⟨g,0,none⟩)] w (bi .nilFunc w):=by
  have k3:(c==3)=false:=by
    cases hk:(c==3)
    · rfl
    · obtain rfl:c=3:=by simpa using hk
      rcases hd with rfl|rfl<;>cases h
  have k4:(c==4)=false:=by
    cases hk:(c==4)
    · rfl
    · obtain rfl:c=4:=by simpa using hk
      rcases hd with rfl|rfl<;>cases h
  have k6:(c==6)=false:=by
    cases hk:(c==6)
    · rfl
    · obtain rfl:c=6:=by simpa using hk
      rcases hd with rfl|rfl<;>cases h
  have a:(c==16)=false:=by
    cases hk:(c==16)
    · rfl
    · obtain rfl:c=16:=by simpa using hk
      rcases hd with rfl|rfl<;>cases h
  have b:(c==22)=false:=by
    cases hk:(c==22)
    · rfl
    · obtain rfl:c=22:=by simpa using hk
      rcases hd with rfl|rfl<;>cases h
  have d:(c==23)=false:=by
    cases hk:(c==23)
    · rfl
    · obtain rfl:c=23:=by simpa using hk
      rcases hd with rfl|rfl<;>cases h
  have e:(c==24)=false:=by
    cases hk:(c==24)
    · rfl
    · obtain rfl:c=24:=by simpa using hk
      rcases hd with rfl|rfl<;>cases h
  rcases hd with rfl|rfl
  · exact ld hC hm hne k3 k4 k6 a b d e
  · exact lW hC hm hne k3 k4 k6 a b d e
open Go.RowKit
theorem jt{m:Bool}{A:Option Addr}{cp:Nat}{b:List Int}{w:World}{c:Int}(hcode:B8 c)(hsl:aN m w (.slice A b.length cp) b)(hb:b.length≤1048576) :
    Calls Tryz.prog 60 #[.int .i64 0,.int .u8 c,.slice A b.length cp] w (cM (al bG 0 c b) w):=by
 obtain⟨hcode1,hcode2⟩:=hcode
 have hln:(b.length:Int)≤1048576:=by omega
 refine en 40 Tryz.func60 rfl<|sg<|L0<|bB mZ fun U V l j v=>Pl 1<|nt<|sq<|sg<|Pl 6<|nt<|c0<|?_
 refine bC<|sg<|Pl 2<|L0<|bB mZ fun W X g n K=>L0<|be n (mC c) fun Y x o=>ng<|Pl 1<|?_
 have h:=ud K o g
 have p:=aG v h
 refine L0<|Oc<|e3 (ca (aN.old hsl p) (by omega)) fun Z a0 d y a=>Pl 1<|ng<|Pl 2<|?_
 have z:=aG p a
 refine wo (bG 0 c ⟨b,false,0⟩) (fun hr=>?_) (fun r hr=>?_)
 refine L0<|Oc<|m1 (i4 (dir:=0) (c:=c) y (ub a x) (Ne.symm (nb (ai n) o.size d)) (Or.inl rfl) hr) fun a1 B=>Pl 1<|nt<|sq<|sg<|Pl 2<|nt<|c1<|sg<|Pl 1<|?_
 refine L0<|be (ub (aG h (aG a B)) j) mZ fun a2 L M=>Pl 1<|nt<|rt<|tr<|c9 L (.int .i64 4)<|?_
 have hs:al bG 0 c b=(bh.zero,4):=by
   unfold al
   (try simp only[bs,if_true,if_false,decide_true,decide_false,eq_self,true_or,or_true,or_false,false_or,if_true,if_false,cG,cC,cH,cE,reduceIte,hr])
   all_goals rfl
 rw[hs]
 exact bF (ud z (uz B M) l)
 have C:=nb (ai n) o.size d
 refine L0<|Oc<|tG (i7 (dir:=0) (c:=c) y (ub a x) (Ne.symm C) (Or.inl rfl) hr) fun N D a3 O E hcall51=>Pl 1<|nt<|sq<|sg<|Pl 2<|nt<|c0<|bC<|sq<|?_
 refine go<|Pl 1<|L0<|eK (f:=N) (args:=D) (hf:=O) #[] D<|m3 (hcall51) fun a4 F P G=>?_
 obtain⟨Q,k,q⟩:=P
 refine ng<|Pl 1<|L0<|Oc<|m2 (bA F) fun a5 H s=>nt<|sq<|sg<|Pl 1<|L0<|Oc<|mq (b7 H)<|?_
 have a6:=ae.len H
 refine Pl 1<|ng<|Pl 2<|nt<|?_
 have t:=uz E (u1 G s im)
 have I:=ut z t (ac (ni p.size d) (ac (ni v.size g) au))
 refine cb ((r.1.endC.e != 0)) (fun i=>?_) (fun i=>?_)
 have u:=ay i
 refine sg<|Pl 2<|?_
 refine L0<|be (ub (ud h (ud a t d) g) j) mZ fun a7 R S=>Pl 1<|nt<|rt<|tr<|c9 R (.int .i64 r.1.endC.e)<|?_
 have hs:al bG 0 c b=aT r.2 r.1:=by
   unfold al
   (try simp only[i,bs,if_true,if_false,decide_true,decide_false,eq_self,true_or,or_true,or_false,false_or,if_true,if_false,cG,cC,cH,cE,reduceIte,hr])
   all_goals rfl
 rw[hs]
 exact aV u (ud I S l)
 have u:=ag i
 refine bC<|sg<|?_
 refine L0<|c7 (hz:=(by rw[k.2];exact aS)) (aQ s C k.1)<|?_
 refine L0<|be (hz:=(by rw[k.2];exact aS)) (hv:=q.size) (h1:=q.one) (ub (ud h (ud a t d) g) j) (Q) fun a8 T J=>Pl 1<|nt<|rt<|dF 22 k.2 T (.int .i64 0)<|?_
 have hs:al bG 0 c b=aT r.2 r.1:=by
   unfold al
   (try simp only[i,bs,if_true,if_false,decide_true,decide_false,eq_self,true_or,or_true,or_false,false_or,if_true,if_false,cG,cC,cH,cE,reduceIte,hr])
   all_goals rfl
 rw[hs]
 exact b9 u (aX.upd q (us s J) (ah (ae.safe F _ (by decide)) (ah (aF (ub (ud h (ud a (uz E G) d) g) j) (by decide)) az))) (ud I J l)
theorem j9{m:Bool}{A:Option Addr}{cp:Nat}{b:List Int}{w:World}{c:Int}(hcode:B8 c)(hsl:aN m w (.slice A b.length cp) b)(hb:b.length≤1048576) :
    Calls Tryz.prog 60 #[.int .i64 1,.int .u8 c,.slice A b.length cp] w (cM (al bG 1 c b) w):=by
 obtain⟨hcode1,hcode2⟩:=hcode
 have hln:(b.length:Int)≤1048576:=by omega
 refine en 40 Tryz.func60 rfl<|sg<|L0<|bB mZ fun U V l j v=>Pl 1<|nt<|sq<|sg<|Pl 6<|nt<|c0<|?_
 refine bC<|sg<|Pl 2<|L0<|bB mZ fun W X g n K=>L0<|be n (mC c) fun Y x o=>ng<|Pl 1<|?_
 have h:=ud K o g
 have p:=aG v h
 refine L0<|Oc<|e3 (ca (aN.old hsl p) (by omega)) fun Z a0 d y a=>Pl 1<|ng<|Pl 2<|?_
 have z:=aG p a
 refine wo (bG 1 c ⟨b,false,0⟩) (fun hr=>?_) (fun r hr=>?_)
 refine L0<|Oc<|m1 (i4 (dir:=1) (c:=c) y (ub a x) (Ne.symm (nb (ai n) o.size d)) (Or.inr rfl) hr) fun a1 B=>Pl 1<|nt<|sq<|sg<|Pl 2<|nt<|c1<|sg<|Pl 1<|?_
 refine L0<|be (ub (aG h (aG a B)) j) mZ fun a2 L M=>Pl 1<|nt<|rt<|tr<|c9 L (.int .i64 4)<|?_
 have hs:al bG 1 c b=(bh.zero,4):=by
   unfold al
   (try simp only[bs,if_true,if_false,decide_true,decide_false,eq_self,true_or,or_true,or_false,false_or,if_true,if_false,cG,cC,cH,cE,reduceIte,hr])
   all_goals rfl
 rw[hs]
 exact bF (ud z (uz B M) l)
 have C:=nb (ai n) o.size d
 refine L0<|Oc<|tG (i7 (dir:=1) (c:=c) y (ub a x) (Ne.symm C) (Or.inr rfl) hr) fun N D a3 O E hcall51=>Pl 1<|nt<|sq<|sg<|Pl 2<|nt<|c0<|bC<|sq<|?_
 refine go<|Pl 1<|L0<|eK (f:=N) (args:=D) (hf:=O) #[] D<|m3 (hcall51) fun a4 F P G=>?_
 obtain⟨Q,k,q⟩:=P
 refine ng<|Pl 1<|L0<|Oc<|m2 (bA F) fun a5 H s=>nt<|sq<|sg<|Pl 1<|L0<|Oc<|mq (b7 H)<|?_
 have a6:=ae.len H
 refine Pl 1<|ng<|Pl 2<|nt<|?_
 have t:=uz E (u1 G s im)
 have I:=ut z t (ac (ni p.size d) (ac (ni v.size g) au))
 refine cb ((r.1.endC.e != 0)) (fun i=>?_) (fun i=>?_)
 have u:=ay i
 refine sg<|Pl 2<|?_
 refine L0<|be (ub (ud h (ud a t d) g) j) mZ fun a7 R S=>Pl 1<|nt<|rt<|tr<|c9 R (.int .i64 r.1.endC.e)<|?_
 have hs:al bG 1 c b=aT r.2 r.1:=by
   unfold al
   (try simp only[i,bs,if_true,if_false,decide_true,decide_false,eq_self,true_or,or_true,or_false,false_or,if_true,if_false,cG,cC,cH,cE,reduceIte,hr])
   all_goals rfl
 rw[hs]
 exact aV u (ud I S l)
 have u:=ag i
 refine bC<|sg<|?_
 refine L0<|c7 (hz:=(by rw[k.2];exact aS)) (aQ s C k.1)<|?_
 refine L0<|be (hz:=(by rw[k.2];exact aS)) (hv:=q.size) (h1:=q.one) (ub (ud h (ud a t d) g) j) (Q) fun a8 T J=>Pl 1<|nt<|rt<|dF 22 k.2 T (.int .i64 0)<|?_
 have hs:al bG 1 c b=aT r.2 r.1:=by
   unfold al
   (try simp only[i,bs,if_true,if_false,decide_true,decide_false,eq_self,true_or,or_true,or_false,false_or,if_true,if_false,cG,cC,cH,cE,reduceIte,hr])
   all_goals rfl
 rw[hs]
 exact b9 u (aX.upd q (us s J) (ah (ae.safe F _ (by decide)) (ah (aF (ub (ud h (ud a (uz E G) d) g) j) (by decide)) az))) (ud I J l)
theorem jm{m:Bool}{A:Option Addr}{cp:Nat}{b:List Int}{w:World}{dir c:Int}(hcode:B8 c)(hsl:aN m w (.slice A b.length cp) b)(hb:b.length≤1048576)(hd:¬ (dir=0∨dir=1)) :
    Calls Tryz.prog 60 #[.int .i64 dir,.int .u8 c,.slice A b.length cp] w (cM (al bG dir c b) w):=by
 obtain⟨hcode1,hcode2⟩:=hcode
 have hln:(b.length:Int)≤1048576:=by omega
 have e0:(dir != 0)=true:=by simp;omega
 have e1:(dir != 1)=true:=by simp;omega
 refine en 40 Tryz.func60 rfl<|sg<|L0<|bB mZ fun g h a d e=>Pl 1<|nt<|sq<|sg<|Pl 3<|sy 14 e0<|Pl 3<|nl<|?_
 refine tn<|ct e1<|sg<|Pl 1<|L0<|be d mZ fun i dp f=>Pl 1<|nt<|rt<|tr<|c9 dp (.int .i64 1)<|?_
 have hs:al bG dir c b=(bh.zero,1):=by
   unfold al bG
   (try simp only[e0,e1,bs,if_true,if_false,decide_true,decide_false,eq_self,true_or,or_true,or_false,false_or,if_true,if_false,cG,cC,cH,cE,reduceIte,hd])
   all_goals rfl
 rw[hs]
 exact bF (ud e f a)
theorem m5{m:Bool}{v:Value}{b:List Int}{w:World}{dir c:Int}(hc:B8 c)(h:aN m w v b)(hb:b.length≤1048576) :
    Calls Tryz.prog 60 #[.int .i64 dir,.int .u8 c,v] w (cM (al bG dir c b) w):=by
  obtain⟨A,cp,rfl,_,_⟩:=h.shape
  by_cases h0:dir=0
  · subst h0;exact jt hc h hb
  by_cases h1:dir=1
  · subst h1;exact j9 hc h hb
  exact jm hc h hb (by omega)
open Go.RowKit
theorem gJ{most:Int}{g gm:Nat}{c:Int}{C:ak}{w:World}(hcode:B8 c)(hC:ae w g C)(hm:w.heap[gm]? = some (.cells (mC c) 31 (0,0)))(hne:g≠gm) :
    Calls Tryz.prog 103 #[.agg #[.pointer (some ⟨g,0,none⟩),.pointer (some ⟨gm,0,none⟩)],.int .u16 most] w (lH g gm (bL C most) (mG c 0 C.wordV (C.wordsC 1).wordV 0 0 0 0 0 0 0 0 nS nS nS nS 0 0 0 0 0 nS) w):=by
 obtain⟨hcode1,hcode2⟩:=hcode
 have hlen:=hC.len
 refine en 51 Tryz.func103 rfl<|sg<|L0<|cS #[.pointer (some ⟨g,0,none⟩),.pointer (some ⟨gm,0,none⟩)] fun f an P a7 a8=>nt<|sq<|Rg 8 (fun w'=>w'.cell? ⟨f,1,none⟩=some (.pointer (some ⟨gm,0,none⟩))∧w'.cell? ⟨f,0,none⟩=some (.pointer (some ⟨g,0,none⟩))) fun ao Q=>?_
 have t:=ub Q a7
 refine bg ⟨(aj t rfl),(aj t rfl)⟩ fun o=>Rt 0 o<|Rl 1 o (fun _ hs=>hs.1)<|Rt 2 o<|Rl 3 o (fun _ hs=>hs.2)<|?_
 have R:=aG a8 Q
 refine R0 4 rfl<|Oc<|m3 (bj (ae.old hC R)) fun ap a9 S aq=>?_
 have h:=nb (ae.lt hC) lr P
 have u:=aQ S (Ne.symm h) t
 refine bg ⟨(aj u rfl),(aj u rfl)⟩ fun T=>Rt 5 T<|Rt 6 T<|?_
 have U:=uz R S
 have V:=aQ U (Ne.symm hne) hm
 refine R0 7 rfl<|bS V 2 (mG c 0 C.wordV 0 0 0 0 0 0 0 0 0 nS nS nS nS 0 0 0 0 0 nS) fun ar ab W=>?_
 have X:=nb (ai hm) lr P
 have v:=aQ W (Ne.symm X) u
 refine bg ⟨(aj v rfl),(aj v rfl)⟩ fun au=>re<|tn<|sq<|Rg 8 (fun w'=>w'.cell? ⟨f,1,none⟩=some (.pointer (some ⟨gm,0,none⟩))∧w'.cell? ⟨f,0,none⟩=some (.pointer (some ⟨g,0,none⟩))) fun aw x=>?_
 have y:=ub x v
 refine bg ⟨(aj y rfl),(aj y rfl)⟩ fun p=>Rt 0 p<|Rl 1 p (fun _ hs=>hs.1)<|Rt 2 p<|Rl 3 p (fun _ hs=>hs.2)<|?_
 have Y:=aG W x
 refine R0 4 rfl<|Oc<|m3 (bj (ae.upd a9 Y (aa hne av) (ah (aF V (by decide)) az))) fun ax Z z ay=>?_
 have A:=aQ z (Ne.symm h) y
 refine bg ⟨(aj A rfl),(aj A rfl)⟩ fun a0=>Rt 5 a0<|Rt 6 a0<|?_
 have B:=aQ (uz x z) (Ne.symm hne) ab
 refine R0 7 rfl<|bS B 3 (mG c 0 C.wordV ((C.wordsC 1).wordV) 0 0 0 0 0 0 0 0 nS nS nS nS 0 0 0 0 0 nS) fun aA ac a1=>?_
 have D:=aQ a1 (Ne.symm X) A
 refine bg ⟨(aj D rfl),(aj D rfl)⟩ fun aB=>re<|tn<|sq<|Rg 18 (fun w'=>w'.cell? ⟨f,0,none⟩=some (.pointer (some ⟨g,0,none⟩))∧w'.cell? ⟨f,1,none⟩=some (.pointer (some ⟨gm,0,none⟩))∧w'.cell? ⟨gm,3,none⟩=some (.int .u16 ((C.wordsC 1).wordV))) fun aC E=>?_
 have q:=ub E D
 have F:=ub E ac
 refine bg ⟨(aj q rfl),(aj q rfl),(aj F rfl)⟩ fun b=>Rt 0 b<|Rl 1 b (fun _ hs=>hs.1)<|Rt 2 b<|Rl 3 b (fun _ hs=>hs.2.1)<|Rt 4 b<|Rt 5 b<|Rl 6 b (fun _ hs=>hs.2.2)<|Rt 7 b<|Rt 8 b<|?_
 have G:=aG a1 E
 have a2:=ui U (ui Y (us z G))
 refine tw 26 ((decide (1≤((C.wordsC 1).wordV)))) (fun i=>?_) (fun i=>?_)
 have ad:=of_decide_eq_true i
 refine Rt 9 b<|Rl 10 b (fun _ hs=>hs.2.1)<|Rt 11 b<|Rt 12 b<|Rl 13 b (fun _ hs=>hs.2.2)<|Rt 14 b<|Rt 15 b<|Rt 16 b<|?_
 refine R0 17 rfl<|Oc<|m2 (aM ((decide (((C.wordsC 1).wordV)≤most))) 5 (ae.upd Z G (aa hne av) (ah (aF B (by decide)) az))) fun aD af H=>?_
 have I:=aQ H (Ne.symm h) q
 have a3:=aQ H (Ne.symm hne) F
 refine bg ⟨(aj I rfl),(aj I rfl),(aj a3 rfl)⟩ fun aE=>re<|tn<|Rg 15 (fun w'=>w'.cell? ⟨f,0,none⟩=some (.pointer (some ⟨g,0,none⟩))∧w'.cell? ⟨f,1,none⟩=some (.pointer (some ⟨gm,0,none⟩))∧w'.cell? ⟨gm,2,none⟩=some (.int .u16 C.wordV)∧w'.cell? ⟨gm,3,none⟩=some (.int .u16 ((C.wordsC 1).wordV))) fun aH r=>?_
 have j:=ub r I
 have k:=ub r a3
 refine bg ⟨(aj j rfl),(aj j rfl),(aj k rfl),(aj k rfl)⟩ fun d=>Rt 0 d<|Rl 1 d (fun _ hs=>hs.1)<|Rt 2 d<|Rl 3 d (fun _ hs=>hs.2.1)<|Rt 4 d<|Rt 5 d<|Rl 6 d (fun _ hs=>hs.2.2.1)<|Rt 7 d<|Rl 8 d (fun _ hs=>hs.2.1)<|Rt 9 d<|Rt 10 d<|Rl 11 d (fun _ hs=>hs.2.2.2)<|Rr 12 d (.int .i64 ((C.wordsC 1).wordV)) (fun _ _=>bX (.int .i64 (IntKind.i64.wrap ((C.wordsC 1).wordV))) (by kernel_rfl) (congrArg (Value.int .i64) (i64_in (by omega))))<|?_
 refine R0 13 rfl<|Oc<|mq (fh (a:=C.wordV) (n:=(C.wordsC 1).wordV) (by omega))<|bg ⟨(aj j rfl),(aj j rfl),(aj k rfl),(aj k rfl)⟩ fun aI=>?_
 refine R0 14 rfl<|Oc<|m2 (aM ((da C.wordV ((C.wordsC 1).wordV))) 7 (ae.old af r)) fun aJ ag J=>?_
 have a4:=aQ J (Ne.symm h) j
 have K:=aQ J (Ne.symm hne) k
 refine bg ⟨(aj a4 rfl),(aj a4 rfl),(aj K rfl),(aj K rfl)⟩ fun aK=>re<|rm (.tuple #[])<|?_
 have hs:bL C most=((((C.wordsC 1).wordsC 1).need (decide (((C.wordsC 1).wordV)≤most)) 5).need (da C.wordV ((C.wordsC 1).wordV)) 7):=by
   unfold bL jd
   (try simp only[i,bs,if_true,if_false,decide_true,decide_false,reduceIte])
   all_goals rfl
 rw[hs]
 exact⟨rfl,ag,K,(u1 a2 (u1 H (uz r J) im) im)⟩
 have ad:=of_decide_eq_false i
 refine Ro 9 b<|Ro 10 b<|Ro 11 b<|Ro 12 b<|Ro 13 b<|Ro 14 b<|Ro 15 b<|Rt 16 b<|?_
 refine R0 17 rfl<|Oc<|m2 (aM (false) 5 (ae.upd Z G (aa hne av) (ah (aF B (by decide)) az))) fun aL al L=>?_
 have M:=aQ L (Ne.symm h) q
 have a5:=aQ L (Ne.symm hne) F
 refine bg ⟨(aj M rfl),(aj M rfl),(aj a5 rfl)⟩ fun aN=>re<|tn<|Rg 15 (fun w'=>w'.cell? ⟨f,0,none⟩=some (.pointer (some ⟨g,0,none⟩))∧w'.cell? ⟨f,1,none⟩=some (.pointer (some ⟨gm,0,none⟩))∧w'.cell? ⟨gm,2,none⟩=some (.int .u16 C.wordV)∧w'.cell? ⟨gm,3,none⟩=some (.int .u16 ((C.wordsC 1).wordV))) fun aO s=>?_
 have l:=ub s M
 have m:=ub s a5
 refine bg ⟨(aj l rfl),(aj l rfl),(aj m rfl),(aj m rfl)⟩ fun e=>Rt 0 e<|Rl 1 e (fun _ hs=>hs.1)<|Rt 2 e<|Rl 3 e (fun _ hs=>hs.2.1)<|Rt 4 e<|Rt 5 e<|Rl 6 e (fun _ hs=>hs.2.2.1)<|Rt 7 e<|Rl 8 e (fun _ hs=>hs.2.1)<|Rt 9 e<|Rt 10 e<|Rl 11 e (fun _ hs=>hs.2.2.2)<|Rr 12 e (.int .i64 ((C.wordsC 1).wordV)) (fun _ _=>bX (.int .i64 (IntKind.i64.wrap ((C.wordsC 1).wordV))) (by kernel_rfl) (congrArg (Value.int .i64) (i64_in (by omega))))<|?_
 refine R0 13 rfl<|Oc<|mq (fh (a:=C.wordV) (n:=(C.wordsC 1).wordV) (by omega))<|bg ⟨(aj l rfl),(aj l rfl),(aj m rfl),(aj m rfl)⟩ fun aP=>?_
 refine R0 14 rfl<|Oc<|m2 (aM ((da C.wordV ((C.wordsC 1).wordV))) 7 (ae.old al s)) fun aR am N=>?_
 have a6:=aQ N (Ne.symm h) l
 have O:=aQ N (Ne.symm hne) m
 refine bg ⟨(aj a6 rfl),(aj a6 rfl),(aj O rfl),(aj O rfl)⟩ fun aS=>re<|rm (.tuple #[])<|?_
 have hs:bL C most=((((C.wordsC 1).wordsC 1).need false 5).need (da C.wordV ((C.wordsC 1).wordV)) 7):=by
   unfold bL jd
   (try simp only[i,bs,if_true,if_false,decide_true,decide_false,reduceIte])
   all_goals rfl
 rw[hs]
 exact⟨rfl,am,O,(u1 a2 (u1 L (uz s N) im) im)⟩
theorem fG{g gm:Nat}{c:Int}{C:ak}{w:World}(hcode:B8 c)(hC:ae w g C)(hm:w.heap[gm]? = some (.cells (mC c) 31 (0,0)))(hne:g≠gm) :
    Calls Tryz.prog 78 #[.agg #[.pointer (some ⟨g,0,none⟩),.pointer (some ⟨gm,0,none⟩)]] w (bE g gm (cI 2000 c C).1 (cI 2000 c C).2 w):=by
 obtain⟨hcode1,hcode2⟩:=hcode
 have hlen:=hC.len
 refine en 4 Tryz.func78 rfl<|sg<|L0<|cS #[.pointer (some ⟨g,0,none⟩),.pointer (some ⟨gm,0,none⟩)] fun i j k d a=>nt<|go<|L0<|c7 d<|?_
 have b:=ae.old hC a
 refine L0<|Oc<|m3 (gJ (most:=2000) ⟨hcode1,hcode2⟩ b (ub a hm) hne) fun l e f h=>?_
 have m:=(b).wordV
 have n:=cX (cA (b).rng 1)
 refine nl<|rm (.tuple #[])<|?_
 have hs:cI 2000 c C=((bL C 2000),(bh.mk c 0 C.wordV ((C.wordsC 1).wordV) 0 0 0 0 0 0 0 0 [] [] [] [] 0 0 0 0 0 [])):=by
   unfold cI
   (try simp only[bs,if_true,if_false,decide_true,decide_false,reduceIte])
   all_goals rfl
 rw[hs]
 exact⟨rfl,e,⟨_,⟨f,rfl⟩,⟨_,_,_,_,_,rfl,aI.nil ..,aI.nil ..,aI.nil ..,aI.nil ..,aI.nil ..,⟨(b8 (x:=c) (by omega)),(b8 (x:=0) (by omega)),(aD (x:=C.wordV) (by omega)),(aD (x:=(C.wordsC 1).wordV) (by omega)),(aD (x:=0) (by omega)),(aD (x:=0) (by omega)),(aD (x:=0) (by omega)),(aD (x:=0) (by omega)),(aD (x:=0) (by omega)),(aD (x:=0) (by omega)),(aD (x:=0) (by omega)),(aD (x:=0) (by omega)),(b8 (x:=0) (by omega)),(b8 (x:=0) (by omega)),(b8 (x:=0) (by omega)),(b8 (x:=0) (by omega)),(b8 (x:=0) (by omega))⟩⟩⟩,(uz a h)⟩
theorem iP{g gm:Nat}{c:Int}{C:ak}{w:World}(hcode:B8 c)(hC:ae w g C)(hm:w.heap[gm]? = some (.cells (mC c) 31 (0,0)))(hne:g≠gm) :
    Calls Tryz.prog 79 #[.agg #[.pointer (some ⟨g,0,none⟩),.pointer (some ⟨gm,0,none⟩)]] w (bE g gm (db c C).1 (db c C).2 w):=by
 obtain⟨hcode1,hcode2⟩:=hcode
 have hlen:=hC.len
 refine en 24 Tryz.func79 rfl<|sg<|L0<|cS #[.pointer (some ⟨g,0,none⟩),.pointer (some ⟨gm,0,none⟩)] fun j L k l m=>ng<|Pl 1<|L0<|aU l 0<|?_
 refine L0<|Oc<|m3 (bo (ae.old hC m)) fun M A o N=>Pl 1<|ng<|Pl 1<|?_
 have e:=nb (ae.lt hC) lr k
 have p:=aQ o (Ne.symm e) l
 refine L0<|aU p 0<|Pl 3<|cu 3 [10] 13 (((decide (1≤C.byteV))&&(decide (C.byteV≤250)))) (fun K q=>?_) ?_
 refine bl 10 ((decide (1≤C.byteV))) (fun b=>?_) (fun b=>?_)
 have B:=of_decide_eq_true b
 exact Pl 3<|ce q (decide (C.byteV≤250)) (by rw[b];rfl)
 have B:=of_decide_eq_false b
 exact Pl 3<|ce q false (by rw[b];rfl)
 refine L0<|Oc<|m2 (aM (((decide (1≤C.byteV))&&(decide (C.byteV≤250)))) 5 A) fun O D E=>nt<|Rg 10 (fun w'=>w'.cell? ⟨j,1,none⟩=some (.pointer (some ⟨gm,0,none⟩))∧w'.cell? ⟨j,0,none⟩=some (.pointer (some ⟨g,0,none⟩))) fun P r=>?_
 have s:=aG E r
 have f:=aQ s (Ne.symm e) p
 refine bg ⟨(aj f rfl),(aj f rfl)⟩ fun a=>Rt 0 a<|Rl 1 a (fun _ hs=>hs.1)<|Rt 2 a<|Rl 3 a (fun _ hs=>hs.2)<|Rt 4 a<|Rr 5 a (.int .i64 C.byteV) (fun _ _=>bX (.int .i64 (IntKind.i64.wrap C.byteV)) (by kernel_rfl) (congrArg (Value.int .i64) (i64_in (by omega))))<|?_
 have t:=ae.old D r
 refine R0 6 rfl<|Oc<|mY (bD (n:=C.byteV) t) fun F G Q H R S I u=>?_
 have T:=Nat.le_trans (ak.bytesR_le ((C.bytesC 1).need ((decide (1≤C.byteV))&&(decide (C.byteV≤250))) 5) C.byteV) (ae.len t)
 have h:=aQ u (Ne.symm e) f
 refine bg ⟨(aj h rfl),(aj h rfl)⟩ fun v=>Rt 7 v<|Rt 8 v<|?_
 have y:=uz m (u1 o (u1 s u im) im)
 have i:=aQ y (Ne.symm hne) hm
 refine R0 9 rfl<|bS i 14 (mG c 0 0 0 0 0 0 0 0 0 0 0 nS nS (.slice F ((((C.bytesC 1).need ((decide (1≤C.byteV))&&(decide (C.byteV≤250))) 5).bytesR C.byteV).length) G) nS 0 0 0 0 0 nS) fun U J d=>?_
 have z:=aQ d (Ne.symm (nb (ai hm) lr k)) h
 refine bg ⟨(aj z rfl),(aj z rfl)⟩ fun V=>re<|rm (.tuple #[])<|?_
 have hs:db c C=((((C.bytesC 1).need ((decide (1≤C.byteV))&&(decide (C.byteV≤250))) 5).bytesC C.byteV),(bh.mk c 0 0 0 0 0 0 0 0 0 0 0 [] [] (((C.bytesC 1).need ((decide (1≤C.byteV))&&(decide (C.byteV≤250))) 5).bytesR C.byteV) [] 0 0 0 0 0 [])):=by
   unfold db lP
   (try simp only[bs,if_true,if_false,decide_true,decide_false,reduceIte])
   all_goals rfl
 rw[hs]
 exact⟨rfl,(ae.upd I d (aa hne av) (ah (aF i (by decide)) az)),⟨_,⟨J,rfl⟩,⟨_,_,_,_,_,rfl,aI.nil ..,aI.nil ..,(aN.upd' H d (ah (aF i (by decide)) az)),aI.nil ..,aI.nil ..,⟨(b8 (x:=c) (by omega)),(b8 (x:=0) (by omega)),(aD (x:=0) (by omega)),(aD (x:=0) (by omega)),(aD (x:=0) (by omega)),(aD (x:=0) (by omega)),(aD (x:=0) (by omega)),(aD (x:=0) (by omega)),(aD (x:=0) (by omega)),(aD (x:=0) (by omega)),(aD (x:=0) (by omega)),(aD (x:=0) (by omega)),(b8 (x:=0) (by omega)),(b8 (x:=0) (by omega)),(b8 (x:=0) (by omega)),(b8 (x:=0) (by omega)),(b8 (x:=0) (by omega))⟩⟩⟩,(us y d)⟩
theorem iH{g gm:Nat}{c:Int}{C:ak}{w:World}(hcode:B8 c)(hC:ae w g C)(hm:w.heap[gm]? = some (.cells (mC c) 31 (0,0)))(hne:g≠gm) :
    Calls Tryz.prog 80 #[.agg #[.pointer (some ⟨g,0,none⟩),.pointer (some ⟨gm,0,none⟩)]] w (bE g gm (cU c C).1 (cU c C).2 w):=by
 obtain⟨hcode1,hcode2⟩:=hcode
 have hlen:=hC.len
 refine en 33 Tryz.func80 rfl<|sg<|L0<|cS #[.pointer (some ⟨g,0,none⟩),.pointer (some ⟨gm,0,none⟩)] fun b a0 z S T=>nt<|sq<|Rg 8 (fun w'=>w'.cell? ⟨b,1,none⟩=some (.pointer (some ⟨gm,0,none⟩))∧w'.cell? ⟨b,0,none⟩=some (.pointer (some ⟨g,0,none⟩))) fun a1 A=>?_
 have j:=ub A S
 refine bg ⟨(aj j rfl),(aj j rfl)⟩ fun e=>Rt 0 e<|Rl 1 e (fun _ hs=>hs.1)<|Rt 2 e<|Rl 3 e (fun _ hs=>hs.2)<|?_
 have B:=aG T A
 refine R0 4 rfl<|Oc<|m3 (bj (ae.old hC B)) fun a2 U D a3=>?_
 have f:=nb (ae.lt hC) lr z
 have k:=aQ D (Ne.symm f) j
 refine bg ⟨(aj k rfl),(aj k rfl)⟩ fun E=>Rt 5 E<|Rt 6 E<|?_
 have F:=uz B D
 have G:=aQ F (Ne.symm hne) hm
 refine R0 7 rfl<|bS G 2 (mG c 0 C.wordV 0 0 0 0 0 0 0 0 0 nS nS nS nS 0 0 0 0 0 nS) fun a4 V H=>?_
 have I:=nb (ai hm) lr z
 have l:=aQ H (Ne.symm I) k
 refine bg ⟨(aj l rfl),(aj l rfl)⟩ fun a5=>re<|tn<|sq<|Rg 8 (fun w'=>w'.cell? ⟨b,1,none⟩=some (.pointer (some ⟨gm,0,none⟩))∧w'.cell? ⟨b,0,none⟩=some (.pointer (some ⟨g,0,none⟩))) fun a6 m=>?_
 have n:=ub m l
 refine bg ⟨(aj n rfl),(aj n rfl)⟩ fun h=>Rt 0 h<|Rl 1 h (fun _ hs=>hs.1)<|Rt 2 h<|Rl 3 h (fun _ hs=>hs.2)<|?_
 have J:=aG H m
 refine R0 4 rfl<|Oc<|m3 (bj (ae.upd U J (aa hne av) (ah (aF G (by decide)) az))) fun a7 K o a8=>?_
 have p:=aQ o (Ne.symm f) n
 refine bg ⟨(aj p rfl),(aj p rfl)⟩ fun L=>Rt 5 L<|Rt 6 L<|?_
 have q:=aQ (uz m o) (Ne.symm hne) V
 refine R0 7 rfl<|bS q 4 (mG c 0 C.wordV 0 ((C.wordsC 1).wordV) 0 0 0 0 0 0 0 nS nS nS nS 0 0 0 0 0 nS) fun a9 W M=>?_
 have r:=aQ M (Ne.symm I) p
 refine bg ⟨(aj r rfl),(aj r rfl)⟩ fun ab=>re<|tn<|Rg 17 (fun w'=>w'.cell? ⟨b,0,none⟩=some (.pointer (some ⟨g,0,none⟩))∧w'.cell? ⟨b,1,none⟩=some (.pointer (some ⟨gm,0,none⟩))∧w'.cell? ⟨gm,4,none⟩=some (.int .u16 ((C.wordsC 1).wordV))) fun ac s=>?_
 have i:=ub s r
 have t:=ub s W
 refine bg ⟨(aj i rfl),(aj i rfl),(aj t rfl)⟩ fun a=>Rt 0 a<|Rl 1 a (fun _ hs=>hs.1)<|Rt 2 a<|Rl 3 a (fun _ hs=>hs.2.1)<|Rt 4 a<|Rt 5 a<|Rl 6 a (fun _ hs=>hs.2.2)<|Rt 7 a<|Rt 8 a<|?_
 have u:=aG M s
 have N:=ui F (ui J (us o u))
 refine tw 24 ((((C.wordsC 1).wordV)==0)) (fun d=>?_) (fun d=>?_)
 have X:=aB d
 refine Ro 9 a<|Ro 10 a<|Ro 11 a<|Ro 12 a<|Ro 13 a<|Ro 14 a<|Rt 15 a<|?_
 refine R0 16 rfl<|Oc<|m2 (aM (true) 6 (ae.upd K u (aa hne av) (ah (aF q (by decide)) az))) fun ad Y v=>?_
 have O:=aQ v (Ne.symm f) i
 have P:=aQ v (Ne.symm hne) t
 refine bg ⟨(aj O rfl),(aj O rfl),(aj P rfl)⟩ fun af=>re<|rm (.tuple #[])<|?_
 have hs:cU c C=((((C.wordsC 1).wordsC 1).need true 6),(bh.mk c 0 C.wordV 0 ((C.wordsC 1).wordV) 0 0 0 0 0 0 0 [] [] [] [] 0 0 0 0 0 [])):=by
   unfold cU oE
   (try simp only[d,bs,if_true,if_false,decide_true,decide_false,reduceIte])
   all_goals rfl
 rw[hs]
 exact⟨rfl,Y,⟨_,⟨P,rfl⟩,⟨_,_,_,_,_,rfl,aI.nil ..,aI.nil ..,aI.nil ..,aI.nil ..,aI.nil ..,⟨(b8 (x:=c) (by omega)),(b8 (x:=0) (by omega)),(aD (x:=C.wordV) (by omega)),(aD (x:=0) (by omega)),(aD (x:=(C.wordsC 1).wordV) (by omega)),(aD (x:=0) (by omega)),(aD (x:=0) (by omega)),(aD (x:=0) (by omega)),(aD (x:=0) (by omega)),(aD (x:=0) (by omega)),(aD (x:=0) (by omega)),(aD (x:=0) (by omega)),(b8 (x:=0) (by omega)),(b8 (x:=0) (by omega)),(b8 (x:=0) (by omega)),(b8 (x:=0) (by omega)),(b8 (x:=0) (by omega))⟩⟩⟩,(u1 N v im)⟩
 have X:=aH d
 refine Rt 9 a<|Rl 10 a (fun _ hs=>hs.2.1)<|Rt 11 a<|Rt 12 a<|Rl 13 a (fun _ hs=>hs.2.2)<|Rt 14 a<|Rt 15 a<|?_
 refine R0 16 rfl<|Oc<|m2 (aM ((((C.wordsC 1).wordV)==65280)) 6 (ae.upd K u (aa hne av) (ah (aF q (by decide)) az))) fun ag Z y=>?_
 have Q:=aQ y (Ne.symm f) i
 have R:=aQ y (Ne.symm hne) t
 refine bg ⟨(aj Q rfl),(aj Q rfl),(aj R rfl)⟩ fun al=>re<|rm (.tuple #[])<|?_
 have hs:cU c C=((((C.wordsC 1).wordsC 1).need (((C.wordsC 1).wordV)==65280) 6),(bh.mk c 0 C.wordV 0 ((C.wordsC 1).wordV) 0 0 0 0 0 0 0 [] [] [] [] 0 0 0 0 0 [])):=by
   unfold cU oE
   (try simp only[d,bs,if_true,if_false,decide_true,decide_false,reduceIte])
   all_goals rfl
 rw[hs]
 exact⟨rfl,Z,⟨_,⟨R,rfl⟩,⟨_,_,_,_,_,rfl,aI.nil ..,aI.nil ..,aI.nil ..,aI.nil ..,aI.nil ..,⟨(b8 (x:=c) (by omega)),(b8 (x:=0) (by omega)),(aD (x:=C.wordV) (by omega)),(aD (x:=0) (by omega)),(aD (x:=(C.wordsC 1).wordV) (by omega)),(aD (x:=0) (by omega)),(aD (x:=0) (by omega)),(aD (x:=0) (by omega)),(aD (x:=0) (by omega)),(aD (x:=0) (by omega)),(aD (x:=0) (by omega)),(aD (x:=0) (by omega)),(b8 (x:=0) (by omega)),(b8 (x:=0) (by omega)),(b8 (x:=0) (by omega)),(b8 (x:=0) (by omega)),(b8 (x:=0) (by omega))⟩⟩⟩,(u1 N y im)⟩
theorem pg{g gm:Nat}{c:Int}{C:ak}{w:World}(hcode:B8 c)(hC:ae w g C)(hm:w.heap[gm]? = some (.cells (mC c) 31 (0,0)))(hne:g≠gm) :
    Calls Tryz.prog 82 #[.agg #[.pointer (some ⟨g,0,none⟩),.pointer (some ⟨gm,0,none⟩)]] w (bE g gm (cI 1968 c C).1 (cI 1968 c C).2 w):=by
 obtain⟨hcode1,hcode2⟩:=hcode
 have hlen:=hC.len
 refine en 4 Tryz.func82 rfl<|sg<|L0<|cS #[.pointer (some ⟨g,0,none⟩),.pointer (some ⟨gm,0,none⟩)] fun i j k d a=>nt<|go<|L0<|c7 d<|?_
 have b:=ae.old hC a
 refine L0<|Oc<|m3 (gJ (most:=1968) ⟨hcode1,hcode2⟩ b (ub a hm) hne) fun l e f h=>?_
 have m:=(b).wordV
 have n:=cX (cA (b).rng 1)
 refine nl<|rm (.tuple #[])<|?_
 have hs:cI 1968 c C=((bL C 1968),(bh.mk c 0 C.wordV ((C.wordsC 1).wordV) 0 0 0 0 0 0 0 0 [] [] [] [] 0 0 0 0 0 [])):=by
   unfold cI
   (try simp only[bs,if_true,if_false,decide_true,decide_false,reduceIte])
   all_goals rfl
 rw[hs]
 exact⟨rfl,e,⟨_,⟨f,rfl⟩,⟨_,_,_,_,_,rfl,aI.nil ..,aI.nil ..,aI.nil ..,aI.nil ..,aI.nil ..,⟨(b8 (x:=c) (by omega)),(b8 (x:=0) (by omega)),(aD (x:=C.wordV) (by omega)),(aD (x:=(C.wordsC 1).wordV) (by omega)),(aD (x:=0) (by omega)),(aD (x:=0) (by omega)),(aD (x:=0) (by omega)),(aD (x:=0) (by omega)),(aD (x:=0) (by omega)),(aD (x:=0) (by omega)),(aD (x:=0) (by omega)),(aD (x:=0) (by omega)),(b8 (x:=0) (by omega)),(b8 (x:=0) (by omega)),(b8 (x:=0) (by omega)),(b8 (x:=0) (by omega)),(b8 (x:=0) (by omega))⟩⟩⟩,(uz a h)⟩
theorem nI{g gm:Nat}{c:Int}{C:ak}{w:World}(hcode:B8 c)(hC:ae w g C)(hm:w.heap[gm]? = some (.cells (mC c) 31 (0,0)))(hne:g≠gm) :
    Calls Tryz.prog 82 #[.agg #[.pointer (some ⟨g,0,none⟩),.pointer (some ⟨gm,0,none⟩)]] w (lH g gm (bL C 1968) (mG c 0 C.wordV (C.wordsC 1).wordV 0 0 0 0 0 0 0 0 nS nS nS nS 0 0 0 0 0 nS) w):=by
 obtain⟨hcode1,hcode2⟩:=hcode
 have hlen:=hC.len
 refine en 4 Tryz.func82 rfl<|sg<|L0<|cS #[.pointer (some ⟨g,0,none⟩),.pointer (some ⟨gm,0,none⟩)] fun i j k d a=>nt<|go<|L0<|c7 d<|?_
 have b:=ae.old hC a
 refine L0<|Oc<|m3 (gJ (most:=1968) ⟨hcode1,hcode2⟩ b (ub a hm) hne) fun l e f h=>?_
 have m:=(b).wordV
 have n:=cX (cA (b).rng 1)
 refine nl<|rm (.tuple #[])<|?_
 have hs:bL C 1968=(bL C 1968):=by
   unfold bL jd
   (try simp only[bs,if_true,if_false,decide_true,decide_false,reduceIte])
   all_goals rfl
 rw[hs]
 exact⟨rfl,e,f,(uz a h)⟩
theorem qA{g gm:Nat}{c:Int}{C:ak}{w:World}(hcode:B8 c)(hC:ae w g C)(hm:w.heap[gm]? = some (.cells (mC c) 31 (0,0)))(hne:g≠gm) :
    Calls Tryz.prog 81 #[.agg #[.pointer (some ⟨g,0,none⟩),.pointer (some ⟨gm,0,none⟩)]] w (bE g gm (j3 c C).1 (j3 c C).2 w):=by
 obtain⟨hcode1,hcode2⟩:=hcode
 have hlen:=hC.len
 refine en 46 Tryz.func81 rfl<|sg<|L0<|cS #[.pointer (some ⟨g,0,none⟩),.pointer (some ⟨gm,0,none⟩)] fun o a3 F G f=>ng<|L0<|c7 G<|?_
 have t:=ae.old hC f
 refine L0<|Oc<|m3 (nI ⟨hcode1,hcode2⟩ t (ub f hm) hne) fun a4 Q R p=>?_
 have a5:=(t).wordV
 have a6:=cX (cA (t).rng 1)
 refine ng<|Pl 1<|?_
 have i:=nb (ae.lt hC) lr F
 have H:=ax.blk p (aa (Ne.symm i) (aa (Ne.symm (nb (ai hm) lr F)) av)) G
 refine L0<|aU H 0<|L0<|Oc<|m3 (bo Q) fun a7 S u a8=>L0<|Oi ((bL C 1968).byteV)<|Pl 1<|nt<|sq<|Rg 12 (fun w'=>w'.cell? ⟨o,0,none⟩=some (.pointer (some ⟨g,0,none⟩))∧w'.cell? ⟨o,1,none⟩=some (.pointer (some ⟨gm,0,none⟩))∧w'.cell? ⟨gm,3,none⟩=some (.int .u16 ((C.wordsC 1).wordV))) fun a9 q=>?_
 have v:=aG u q
 have j:=aQ v (Ne.symm i) H
 have y:=aQ v (Ne.symm hne) R
 refine bg ⟨(aj j rfl),(aj j rfl),(aj y rfl)⟩ fun a=>Rt 0 a<|Rl 1 a (fun _ hs=>hs.1)<|Rt 2 a<|Rt 3 a<|Rl 4 a (fun _ hs=>hs.2.1)<|Rt 5 a<|Rt 6 a<|Rl 7 a (fun _ hs=>hs.2.2)<|Rr 8 a (.int .i64 ((C.wordsC 1).wordV)) (fun _ _=>bX (.int .i64 (IntKind.i64.wrap ((C.wordsC 1).wordV))) (by kernel_rfl) (congrArg (Value.int .i64) (i64_in (by omega))))<|R0 9 rfl<|Oc<|mq (gP (n:=(C.wordsC 1).wordV) (by omega))<|bg ⟨(aj j rfl),(aj j rfl),(aj y rfl)⟩ fun T=>Rt 10 T<|?_
 refine R0 11 rfl<|Oc<|m2 (aM ((((bL C 1968).byteV)==(eB ((C.wordsC 1).wordV)))) 5 (ae.old S q)) fun ab U k=>?_
 have z:=aQ k (Ne.symm i) j
 have I:=aQ k (Ne.symm hne) y
 refine bg ⟨(aj z rfl),(aj z rfl),(aj I rfl)⟩ fun ad=>re<|tn<|sq<|Rg 16 (fun w'=>w'.cell? ⟨o,0,none⟩=some (.pointer (some ⟨g,0,none⟩))∧w'.cell? ⟨o,1,none⟩=some (.pointer (some ⟨gm,0,none⟩))∧w'.cell? ⟨gm,3,none⟩=some (.int .u16 ((C.wordsC 1).wordV))) fun af d=>?_
 have A:=ub d z
 have J:=ub d I
 refine bg ⟨(aj A rfl),(aj A rfl),(aj J rfl)⟩ fun b=>Rt 0 b<|Rl 1 b (fun _ hs=>hs.1)<|Rt 2 b<|Rt 4 b<|Rl 5 b (fun _ hs=>hs.2.1)<|Rt 6 b<|Rt 7 b<|Rl 8 b (fun _ hs=>hs.2.2)<|Rr 9 b (.int .i64 ((C.wordsC 1).wordV)) (fun _ _=>bX (.int .i64 (IntKind.i64.wrap ((C.wordsC 1).wordV))) (by kernel_rfl) (congrArg (Value.int .i64) (i64_in (by omega))))<|?_
 have K:=ae.old U d
 refine R0 3 rfl<|Oc<|mY (bD (n:=(bL C 1968).byteV) K) fun V W ag X al an Y l=>?_
 have ao:=Nat.le_trans (ak.bytesR_le (((bL C 1968).bytesC 1).need (((bL C 1968).byteV)==(eB ((C.wordsC 1).wordV))) 5) ((bL C 1968).byteV)) (ae.len K)
 have B:=aQ l (Ne.symm i) A
 have L:=aQ l (Ne.symm hne) J
 refine bg ⟨(aj B rfl),(aj B rfl),(aj L rfl)⟩ fun aq=>R0 10 rfl<|Oc (args:=#[.slice V (((((bL C 1968).bytesC 1).need (((bL C 1968).byteV)==(eB ((C.wordsC 1).wordV))) 5).bytesR ((bL C 1968).byteV)).length) W,.int .i64 ((C.wordsC 1).wordV)])<|oB (lq X (by omega) (by omega) (by omega)) fun Z a0 ar D aw ay r=>?_
 have s:=ub r B
 have M:=ub r L
 refine bg ⟨(aj s rfl),(aj s rfl),(aj M rfl)⟩ fun m=>Rt 11 m<|Rt 12 m<|Rt 13 m<|Rt 14 m<|Rt 15 m<|re<|tn<|sg<|Pl 1<|L0<|aU s 0<|Pl 1<|?_
 refine L0<|Oc<|m2 (aM ((co ((((bL C 1968).bytesC 1).need (((bL C 1968).byteV)==(eB ((C.wordsC 1).wordV))) 5).bytesR ((bL C 1968).byteV)) ((C.wordsC 1).wordV)).isSome) 6 (ae.old Y r)) fun aA a1 E=>nt<|go<|Pl 1<|?_
 refine L0<|aU (aQ E (Ne.symm i) s) 1<|Pl 3<|?_
 have N:=aQ E (Ne.symm hne) M
 refine L0<|bS N 13 (mG c 0 C.wordV ((C.wordsC 1).wordV) 0 0 0 0 0 0 0 0 nS (.slice Z (((co ((((bL C 1968).bytesC 1).need (((bL C 1968).byteV)==(eB ((C.wordsC 1).wordV))) 5).bytesR ((bL C 1968).byteV)) ((C.wordsC 1).wordV)).getD []).length) a0) nS nS 0 0 0 0 0 nS) fun aB a2 O=>nl<|rm (.tuple #[])<|?_
 have P:=us E O
 have hs:j3 c C=((((((bL C 1968).bytesC 1).need (((bL C 1968).byteV)==(eB ((C.wordsC 1).wordV))) 5).bytesC ((bL C 1968).byteV)).need ((co ((((bL C 1968).bytesC 1).need (((bL C 1968).byteV)==(eB ((C.wordsC 1).wordV))) 5).bytesR ((bL C 1968).byteV)) ((C.wordsC 1).wordV)).isSome) 6),(bh.mk c 0 C.wordV ((C.wordsC 1).wordV) 0 0 0 0 0 0 0 0 [] ((co ((((bL C 1968).bytesC 1).need (((bL C 1968).byteV)==(eB ((C.wordsC 1).wordV))) 5).bytesR ((bL C 1968).byteV)) ((C.wordsC 1).wordV)).getD []) [] [] 0 0 0 0 0 [])):=by
   unfold j3 vg uo sa tS tO
   (try simp only[bs,if_true,if_false,decide_true,decide_false,reduceIte])
   all_goals rfl
 rw[hs]
 exact⟨rfl,(ae.upd a1 O (aa hne av) (ah (aF N (by decide)) az)),⟨_,⟨a2,rfl⟩,⟨_,_,_,_,_,rfl,aI.nil ..,((am D P (fun x hx=>(aa (fun e=>(ap (ae.lt hC) (le (le (le (le (le (le f.size p.size) u.size) q.size) k.size) d.size) l.size) D) (e▸hx)) (aa (fun e=>(ap (ai hm) (le (le (le (le (le (le f.size p.size) u.size) q.size) k.size) d.size) l.size) D) (e▸hx)) av))) (fun _ _ h=>h))).rd,aI.nil ..,aI.nil ..,aI.nil ..,⟨(b8 (x:=c) (by omega)),(b8 (x:=0) (by omega)),(aD (x:=C.wordV) (by omega)),(aD (x:=(C.wordsC 1).wordV) (by omega)),(aD (x:=0) (by omega)),(aD (x:=0) (by omega)),(aD (x:=0) (by omega)),(aD (x:=0) (by omega)),(aD (x:=0) (by omega)),(aD (x:=0) (by omega)),(aD (x:=0) (by omega)),(aD (x:=0) (by omega)),(b8 (x:=0) (by omega)),(b8 (x:=0) (by omega)),(b8 (x:=0) (by omega)),(b8 (x:=0) (by omega)),(b8 (x:=0) (by omega))⟩⟩⟩,(uz f (ut p (ui v (ui k (uz d (ui l (uz r P))))) (ac im (ac im au))))⟩
open Go.RowKit
theorem rB(c:Int) : c=1∨c=2∨c=5∨c=15∨(c≠1∧c≠2∧c≠5∧c≠15):=by omega
theorem i9{m:Bool}{A:Option Addr}{cp:Nat}{b:List Int}{w:World}{c:Int}(hcode:B8 c)(hsl:aN m w (.slice A b.length cp) b)(hb:b.length≤1048576) :
    Calls Tryz.prog 58 #[.int .i64 0,.int .u8 c,.slice A b.length cp] w (cM (al aL 0 c b) w):=by
 obtain⟨hcode1,hcode2⟩:=hcode
 have hln:(b.length:Int)≤1048576:=by omega
 refine en 72 Tryz.func58 rfl<|sg<|L0<|bB mZ fun cL cN n k y=>Pl 1<|nt<|sq<|sg<|Pl 6<|nt<|c0<|?_
 refine bC<|sg<|Pl 2<|L0<|bB mZ fun a cO g o bD=>L0<|be o (mC c) fun cP J p=>ng<|Pl 1<|?_
 have i:=ud bD p g
 have u:=aG y i
 refine L0<|Oc<|e3 (ca (aN.old hsl u) (by omega)) fun d cQ f s z=>Pl 1<|L0<|bB #[.pointer none,.pointer none] fun cR cS r af bE=>L0<|be af #[.pointer (some ⟨d,0,none⟩),.pointer (some ⟨a,0,none⟩)] fun cT bG aj=>ng<|L0<|rb fun cV cW am bH an=>?_
 have S:=ub an bG
 refine L0<|c7 S<|Pl 1<|L0<|c7 S<|Pl 2<|L0<|eo bH 1 fun cX bI ao=>?_
 have t:=nb (ai af) aj.size am
 have T:=aQ ao t S
 refine L0<|c7 T<|Pl 1<|L0<|c7 T<|Pl 2<|L0<|eo bI 2 fun cY bJ ap=>?_
 have U:=aQ ap t T
 refine L0<|c7 U<|Pl 1<|L0<|c7 U<|Pl 2<|L0<|eo bJ 5 fun cZ bK aq=>?_
 have v:=aQ aq t U
 refine L0<|c7 v<|Pl 1<|L0<|c7 v<|Pl 2<|L0<|eo bK 15 fun d0 B C=>Pl 2<|ng<|Pl 2<|?_
 have D:=ud bE (aG aj (ud an (u1 ao (u1 ap (u1 aq C im) im) im) am)) r
 have j:=aG z D
 have E:=aG u j
 rcases rB c with hk|hk|hk|hk|hk
 have k1:(c==1)=true:=by rw[hk];rfl
 have k2:(c==2)=false:=by rw[hk];rfl
 have k5:(c==5)=false:=by rw[hk];rfl
 have l:(c==15)=false:=by rw[hk];rfl
 refine L0<|jg (hf:=(by subst hk;kernel_rfl)) B c (.agg #[.nilFunc,.nilFunc]) (some (0,.agg #[.func (.func 78) #[.agg #[.pointer (some ⟨d,0,none⟩),.pointer (some ⟨a,0,none⟩)]] #[],.func (.func 79) #[.agg #[.pointer (some ⟨d,0,none⟩),.pointer (some ⟨a,0,none⟩)]] #[]]))<|Pl 3<|L0<|bB #[.nilFunc,.nilFunc] fun d1 d2 bL bM bN=>L0<|be bM #[.func (.func 78) #[.agg #[.pointer (some ⟨d,0,none⟩),.pointer (some ⟨a,0,none⟩)]] #[],.func (.func 79) #[.agg #[.pointer (some ⟨d,0,none⟩),.pointer (some ⟨a,0,none⟩)]] #[]] fun d3 bO bP=>Pl 1<|nt<|sq<|sg<|Pl 2<|nt<|c0<|?_
 refine bC<|sg<|Pl 2<|L0<|aU bO 0<|?_
 have V:=ud bN bP bL
 have ar:=aG j V
 have aw:=nb (ai o) p.size f
 refine L0<|eK #[.agg #[.pointer (some ⟨d,0,none⟩),.pointer (some ⟨a,0,none⟩)]] #[] (args:=#[.agg #[.pointer (some ⟨d,0,none⟩),.pointer (some ⟨a,0,none⟩)]])<|m3 (fG (c:=c) ⟨hcode1,hcode2⟩ (ae.old s (aG D V)) (ub ar J) (Ne.symm aw)) fun d4 bQ bR aA=>?_
 obtain⟨bS,K,W⟩:=bR
 refine ab bQ fun x89 aB aC=>?_
 refine ng<|Pl 1<|?_
 have aD:=uz V aA
 have aE:=nb (ae.lt s) lr r
 have aH:=ax.blk (us C aD) (aa t (aa (Ne.symm aE) (aa (Ne.symm (nb (ai o) (le p.size z.size) r)) av))) v
 refine L0<|aU aH 0<|L0<|Oc<|m2 (bA aC) fun d5 aI L=>nt<|sq<|sg<|Pl 1<|?_
 refine L0<|aU (aQ L (Ne.symm aE) aH) 0<|L0<|Oc<|mq (b7 aI)<|?_
 have d6:=ae.len aI
 refine Pl 1<|ng<|Pl 2<|nt<|?_
 have X:=u1 aD L im
 have aJ:=ut E X (ac (ni u.size f) (ac (ni y.size g) au))
 refine cb ((x89.endC.e != 0)) (fun F=>?_) (fun F=>?_)
 have Y:=ay F
 refine sg<|Pl 2<|?_
 refine L0<|be (ub (ud i (ud j X f) g) k) mZ fun d7 bT bU=>Pl 1<|nt<|rt<|tr<|c9 bT (.int .i64 x89.endC.e)<|?_
 subst aB
 have hs:al aL 0 c b=aT ((cI 2000 c (ak.mk b false 0)).2) ((cI 2000 c (ak.mk b false 0)).1):=by
   unfold al aL
   (try simp only[F,bs,if_true,if_false,decide_true,decide_false,eq_self,true_or,or_true,or_false,false_or,if_true,if_false,cG,cC,cH,cE,reduceIte,k1,k2,k5,l])
   all_goals rfl
 rw[hs]
 exact aV Y (ud aJ bU n)
 have Y:=ag F
 refine bC<|sg<|?_
 refine L0<|c7 (hz:=(by rw[K.2];exact aS)) (aQ L aw K.1)<|?_
 refine L0<|be (hz:=(by rw[K.2];exact aS)) (hv:=W.size) (h1:=W.one) (ub (ud i (ud j X f) g) k) (bS) fun d8 bV aK=>Pl 1<|nt<|rt<|dF 22 K.2 bV (.int .i64 0)<|?_
 subst aB
 have hs:al aL 0 c b=aT ((cI 2000 c (ak.mk b false 0)).2) ((cI 2000 c (ak.mk b false 0)).1):=by
   unfold al aL
   (try simp only[F,bs,if_true,if_false,decide_true,decide_false,eq_self,true_or,or_true,or_false,false_or,if_true,if_false,cG,cC,cH,cE,reduceIte,k1,k2,k5,l])
   all_goals rfl
 rw[hs]
 exact b9 Y (aX.upd W (us L aK) (ah (ae.safe aC _ (by decide)) (ah (aF (ub (ud i (ud ar aA f) g) k) (by decide)) az))) (ud aJ aK n)
 have k1:(c==1)=false:=by rw[hk];rfl
 have k2:(c==2)=true:=by rw[hk];rfl
 have k5:(c==5)=false:=by rw[hk];rfl
 have l:(c==15)=false:=by rw[hk];rfl
 refine L0<|jg (hf:=(by subst hk;kernel_rfl)) B c (.agg #[.nilFunc,.nilFunc]) (some (1,.agg #[.func (.func 78) #[.agg #[.pointer (some ⟨d,0,none⟩),.pointer (some ⟨a,0,none⟩)]] #[],.func (.func 79) #[.agg #[.pointer (some ⟨d,0,none⟩),.pointer (some ⟨a,0,none⟩)]] #[]]))<|Pl 3<|L0<|bB #[.nilFunc,.nilFunc] fun d9 da bW bX bY=>L0<|be bX #[.func (.func 78) #[.agg #[.pointer (some ⟨d,0,none⟩),.pointer (some ⟨a,0,none⟩)]] #[],.func (.func 79) #[.agg #[.pointer (some ⟨d,0,none⟩),.pointer (some ⟨a,0,none⟩)]] #[]] fun db bZ c2=>Pl 1<|nt<|sq<|sg<|Pl 2<|nt<|c0<|?_
 refine bC<|sg<|Pl 2<|L0<|aU bZ 0<|?_
 have Z:=ud bY c2 bW
 have aM:=aG j Z
 have aO:=nb (ai o) p.size f
 refine L0<|eK #[.agg #[.pointer (some ⟨d,0,none⟩),.pointer (some ⟨a,0,none⟩)]] #[] (args:=#[.agg #[.pointer (some ⟨d,0,none⟩),.pointer (some ⟨a,0,none⟩)]])<|m3 (fG (c:=c) ⟨hcode1,hcode2⟩ (ae.old s (aG D Z)) (ub aM J) (Ne.symm aO)) fun dc c3 c4 aP=>?_
 obtain⟨c5,M,a0⟩:=c4
 refine ab c3 fun aR aW aY=>?_
 refine ng<|Pl 1<|?_
 have aZ:=uz Z aP
 have b0:=nb (ae.lt s) lr r
 have b1:=ax.blk (us C aZ) (aa t (aa (Ne.symm b0) (aa (Ne.symm (nb (ai o) (le p.size z.size) r)) av))) v
 refine L0<|aU b1 0<|L0<|Oc<|m2 (bA aY) fun dd b2 N=>nt<|sq<|sg<|Pl 1<|?_
 refine L0<|aU (aQ N (Ne.symm b0) b1) 0<|L0<|Oc<|mq (b7 b2)<|?_
 have de:=ae.len b2
 refine Pl 1<|ng<|Pl 2<|nt<|?_
 have a1:=u1 aZ N im
 have b3:=ut E a1 (ac (ni u.size f) (ac (ni y.size g) au))
 refine cb ((aR.endC.e != 0)) (fun G=>?_) (fun G=>?_)
 have a2:=ay G
 refine sg<|Pl 2<|?_
 refine L0<|be (ub (ud i (ud j a1 f) g) k) mZ fun df c6 c8=>Pl 1<|nt<|rt<|tr<|c9 c6 (.int .i64 aR.endC.e)<|?_
 subst aW
 have hs:al aL 0 c b=aT ((cI 2000 c (ak.mk b false 0)).2) ((cI 2000 c (ak.mk b false 0)).1):=by
   unfold al aL
   (try simp only[G,bs,if_true,if_false,decide_true,decide_false,eq_self,true_or,or_true,or_false,false_or,if_true,if_false,cG,cC,cH,cE,reduceIte,k1,k2,k5,l])
   all_goals rfl
 rw[hs]
 exact aV a2 (ud b3 c8 n)
 have a2:=ag G
 refine bC<|sg<|?_
 refine L0<|c7 (hz:=(by rw[M.2];exact aS)) (aQ N aO M.1)<|?_
 refine L0<|be (hz:=(by rw[M.2];exact aS)) (hv:=a0.size) (h1:=a0.one) (ub (ud i (ud j a1 f) g) k) (c5) fun dg cc b4=>Pl 1<|nt<|rt<|dF 22 M.2 cc (.int .i64 0)<|?_
 subst aW
 have hs:al aL 0 c b=aT ((cI 2000 c (ak.mk b false 0)).2) ((cI 2000 c (ak.mk b false 0)).1):=by
   unfold al aL
   (try simp only[G,bs,if_true,if_false,decide_true,decide_false,eq_self,true_or,or_true,or_false,false_or,if_true,if_false,cG,cC,cH,cE,reduceIte,k1,k2,k5,l])
   all_goals rfl
 rw[hs]
 exact b9 a2 (aX.upd a0 (us N b4) (ah (ae.safe aY _ (by decide)) (ah (aF (ub (ud i (ud aM aP f) g) k) (by decide)) az))) (ud b3 b4 n)
 have k1:(c==1)=false:=by rw[hk];rfl
 have k2:(c==2)=false:=by rw[hk];rfl
 have k5:(c==5)=true:=by rw[hk];rfl
 have l:(c==15)=false:=by rw[hk];rfl
 refine L0<|jg (hf:=(by subst hk;kernel_rfl)) B c (.agg #[.nilFunc,.nilFunc]) (some (2,.agg #[.func (.func 80) #[.agg #[.pointer (some ⟨d,0,none⟩),.pointer (some ⟨a,0,none⟩)]] #[],.func (.func 80) #[.agg #[.pointer (some ⟨d,0,none⟩),.pointer (some ⟨a,0,none⟩)]] #[]]))<|Pl 3<|L0<|bB #[.nilFunc,.nilFunc] fun dh di cd ce cf=>L0<|be ce #[.func (.func 80) #[.agg #[.pointer (some ⟨d,0,none⟩),.pointer (some ⟨a,0,none⟩)]] #[],.func (.func 80) #[.agg #[.pointer (some ⟨d,0,none⟩),.pointer (some ⟨a,0,none⟩)]] #[]] fun dj cg ch=>Pl 1<|nt<|sq<|sg<|Pl 2<|nt<|c0<|?_
 refine bC<|sg<|Pl 2<|L0<|aU cg 0<|?_
 have a3:=ud cf ch cd
 have b5:=aG j a3
 have b6:=nb (ai o) p.size f
 refine L0<|eK #[.agg #[.pointer (some ⟨d,0,none⟩),.pointer (some ⟨a,0,none⟩)]] #[] (args:=#[.agg #[.pointer (some ⟨d,0,none⟩),.pointer (some ⟨a,0,none⟩)]])<|m3 (iH (c:=c) ⟨hcode1,hcode2⟩ (ae.old s (aG D a3)) (ub b5 J) (Ne.symm b6)) fun dk ci cj b8=>?_
 obtain⟨ck,O,a4⟩:=cj
 refine ab ci fun ba bb bc=>?_
 refine ng<|Pl 1<|?_
 have bd:=uz a3 b8
 have bf:=nb (ae.lt s) lr r
 have bg:=ax.blk (us C bd) (aa t (aa (Ne.symm bf) (aa (Ne.symm (nb (ai o) (le p.size z.size) r)) av))) v
 refine L0<|aU bg 0<|L0<|Oc<|m2 (bA bc) fun dl bi P=>nt<|sq<|sg<|Pl 1<|?_
 refine L0<|aU (aQ P (Ne.symm bf) bg) 0<|L0<|Oc<|mq (b7 bi)<|?_
 have dm:=ae.len bi
 refine Pl 1<|ng<|Pl 2<|nt<|?_
 have a5:=u1 bd P im
 have bj:=ut E a5 (ac (ni u.size f) (ac (ni y.size g) au))
 refine cb ((ba.endC.e != 0)) (fun H=>?_) (fun H=>?_)
 have a6:=ay H
 refine sg<|Pl 2<|?_
 refine L0<|be (ub (ud i (ud j a5 f) g) k) mZ fun dn cl cm=>Pl 1<|nt<|rt<|tr<|c9 cl (.int .i64 ba.endC.e)<|?_
 subst bb
 have hs:al aL 0 c b=aT ((cU c (ak.mk b false 0)).2) ((cU c (ak.mk b false 0)).1):=by
   unfold al aL
   (try simp only[H,bs,if_true,if_false,decide_true,decide_false,eq_self,true_or,or_true,or_false,false_or,if_true,if_false,cG,cC,cH,cE,reduceIte,k1,k2,k5,l])
   all_goals rfl
 rw[hs]
 exact aV a6 (ud bj cm n)
 have a6:=ag H
 refine bC<|sg<|?_
 refine L0<|c7 (hz:=(by rw[O.2];exact aS)) (aQ P b6 O.1)<|?_
 refine L0<|be (hz:=(by rw[O.2];exact aS)) (hv:=a4.size) (h1:=a4.one) (ub (ud i (ud j a5 f) g) k) (ck) fun dp cn bk=>Pl 1<|nt<|rt<|dF 22 O.2 cn (.int .i64 0)<|?_
 subst bb
 have hs:al aL 0 c b=aT ((cU c (ak.mk b false 0)).2) ((cU c (ak.mk b false 0)).1):=by
   unfold al aL
   (try simp only[H,bs,if_true,if_false,decide_true,decide_false,eq_self,true_or,or_true,or_false,false_or,if_true,if_false,cG,cC,cH,cE,reduceIte,k1,k2,k5,l])
   all_goals rfl
 rw[hs]
 exact b9 a6 (aX.upd a4 (us P bk) (ah (ae.safe bc _ (by decide)) (ah (aF (ub (ud i (ud b5 b8 f) g) k) (by decide)) az))) (ud bj bk n)
 have k1:(c==1)=false:=by rw[hk];rfl
 have k2:(c==2)=false:=by rw[hk];rfl
 have k5:(c==5)=false:=by rw[hk];rfl
 have l:(c==15)=true:=by rw[hk];rfl
 refine L0<|jg (hf:=(by subst hk;kernel_rfl)) B c (.agg #[.nilFunc,.nilFunc]) (some (3,.agg #[.func (.func 81) #[.agg #[.pointer (some ⟨d,0,none⟩),.pointer (some ⟨a,0,none⟩)]] #[],.func (.func 82) #[.agg #[.pointer (some ⟨d,0,none⟩),.pointer (some ⟨a,0,none⟩)]] #[]]))<|Pl 3<|L0<|bB #[.nilFunc,.nilFunc] fun dq dr co cq cr=>L0<|be cq #[.func (.func 81) #[.agg #[.pointer (some ⟨d,0,none⟩),.pointer (some ⟨a,0,none⟩)]] #[],.func (.func 82) #[.agg #[.pointer (some ⟨d,0,none⟩),.pointer (some ⟨a,0,none⟩)]] #[]] fun ds cs ct=>Pl 1<|nt<|sq<|sg<|Pl 2<|nt<|c0<|?_
 refine bC<|sg<|Pl 2<|L0<|aU cs 0<|?_
 have a7:=ud cr ct co
 have bl:=aG j a7
 have bm:=nb (ai o) p.size f
 refine L0<|eK #[.agg #[.pointer (some ⟨d,0,none⟩),.pointer (some ⟨a,0,none⟩)]] #[] (args:=#[.agg #[.pointer (some ⟨d,0,none⟩),.pointer (some ⟨a,0,none⟩)]])<|m3 (qA (c:=c) ⟨hcode1,hcode2⟩ (ae.old s (aG D a7)) (ub bl J) (Ne.symm bm)) fun dt bn cu bo=>?_
 obtain⟨cv,Q,a8⟩:=cu
 refine ng<|Pl 1<|?_
 have bp:=uz a7 bo
 have bq:=nb (ae.lt s) lr r
 have br:=ax.blk (us C bp) (aa t (aa (Ne.symm bq) (aa (Ne.symm (nb (ai o) (le p.size z.size) r)) av))) v
 refine L0<|aU br 0<|L0<|Oc<|m2 (bA bn) fun du cw R=>?_
 refine ab cw fun bt bu bv=>?_
 refine nt<|sq<|sg<|Pl 1<|?_
 refine L0<|aU (aQ R (Ne.symm bq) br) 0<|L0<|Oc<|mq (b7 bv)<|?_
 have dv:=ae.len bv
 refine Pl 1<|ng<|Pl 2<|nt<|?_
 have a9:=u1 bp R im
 have bw:=ut E a9 (ac (ni u.size f) (ac (ni y.size g) au))
 refine cb ((bt.e != 0)) (fun I=>?_) (fun I=>?_)
 have ad:=ay I
 refine sg<|Pl 2<|?_
 refine L0<|be (ub (ud i (ud j a9 f) g) k) mZ fun dw cx cy=>Pl 1<|nt<|rt<|tr<|c9 cx (.int .i64 bt.e)<|?_
 subst bu
 have hs:al aL 0 c b=aT ((j3 c (ak.mk b false 0)).2) ((j3 c (ak.mk b false 0)).1):=by
   unfold al aL
   (try simp only[I,bs,if_true,if_false,decide_true,decide_false,eq_self,true_or,or_true,or_false,false_or,if_true,if_false,cG,cC,cH,cE,reduceIte,k1,k2,k5,l])
   all_goals rfl
 rw[hs]
 exact aV ad (ud bw cy n)
 have ad:=ag I
 refine bC<|sg<|?_
 refine L0<|c7 (hz:=(by rw[Q.2];exact aS)) (aQ R bm Q.1)<|?_
 refine L0<|be (hz:=(by rw[Q.2];exact aS)) (hv:=a8.size) (h1:=a8.one) (ub (ud i (ud j a9 f) g) k) (cv) fun dx cz bx=>Pl 1<|nt<|rt<|dF 22 Q.2 cz (.int .i64 0)<|?_
 subst bu
 have hs:al aL 0 c b=aT ((j3 c (ak.mk b false 0)).2) ((j3 c (ak.mk b false 0)).1):=by
   unfold al aL
   (try simp only[I,bs,if_true,if_false,decide_true,decide_false,eq_self,true_or,or_true,or_false,false_or,if_true,if_false,cG,cC,cH,cE,reduceIte,k1,k2,k5,l])
   all_goals rfl
 rw[hs]
 exact b9 ad (aX.upd a8 (us R bx) (ah (ae.safe bn _ (by decide)) (ah (aF (ub (ud i (ud bl bo f) g) k) (by decide)) az))) (ud bw bx n)
 have k1:(c==1)=false:=by simpa using hk.1
 have k2:(c==2)=false:=by simpa using hk.2.1
 have k5:(c==5)=false:=by simpa using hk.2.2.1
 have l:(c==15)=false:=by simpa using hk.2.2.2
 refine L0<|jg (hf:=(tQ (q:=.u8) (x:=c) #[⟨.int .u8 1,.agg #[.func (.func 78) #[.agg #[.pointer (some ⟨d,0,none⟩),.pointer (some ⟨a,0,none⟩)]] #[],.func (.func 79) #[.agg #[.pointer (some ⟨d,0,none⟩),.pointer (some ⟨a,0,none⟩)]] #[]],0⟩,⟨.int .u8 2,.agg #[.func (.func 78) #[.agg #[.pointer (some ⟨d,0,none⟩),.pointer (some ⟨a,0,none⟩)]] #[],.func (.func 79) #[.agg #[.pointer (some ⟨d,0,none⟩),.pointer (some ⟨a,0,none⟩)]] #[]],1⟩,⟨.int .u8 5,.agg #[.func (.func 80) #[.agg #[.pointer (some ⟨d,0,none⟩),.pointer (some ⟨a,0,none⟩)]] #[],.func (.func 80) #[.agg #[.pointer (some ⟨d,0,none⟩),.pointer (some ⟨a,0,none⟩)]] #[]],2⟩,⟨.int .u8 15,.agg #[.func (.func 81) #[.agg #[.pointer (some ⟨d,0,none⟩),.pointer (some ⟨a,0,none⟩)]] #[],.func (.func 82) #[.agg #[.pointer (some ⟨d,0,none⟩),.pointer (some ⟨a,0,none⟩)]] #[]],3⟩] (dM _ _ (by intro e he;simp only[List.mem_cons,List.not_mem_nil,or_false] at he;obtain⟨z1,z2,z5,dy⟩:=hk;rcases he with rfl | rfl | rfl | rfl<;>exact⟨_,rfl,fun h=>by simp_all⟩)))) B c (.agg #[.nilFunc,.nilFunc]) none<|Pl 3<|L0<|bB #[.nilFunc,.nilFunc] fun dz dA cA cB cD=>L0<|be cB #[.nilFunc,.nilFunc] fun dB dC cF=>Pl 1<|nt<|sq<|sg<|Pl 2<|nt<|c1<|?_
 refine sg<|Pl 1<|?_
 have bz:=ud cD cF cA
 refine L0<|be (ub (aG i (aG j bz)) k) mZ fun dD cJ cK=>Pl 1<|nt<|rt<|tr<|c9 cJ (.int .i64 4)<|?_
 have hs:al aL 0 c b=(bh.zero,4):=by
   unfold al aL
   (try simp only[bs,if_true,if_false,decide_true,decide_false,eq_self,true_or,or_true,or_false,false_or,if_true,if_false,cG,cC,cH,cE,reduceIte,k1,k2,k5,l])
   all_goals rfl
 rw[hs]
 exact bF (ud E (uz bz cK) n)
theorem ig{m:Bool}{A:Option Addr}{cp:Nat}{b:List Int}{w:World}{c:Int}(hcode:B8 c)(hsl:aN m w (.slice A b.length cp) b)(hb:b.length≤1048576) :
    Calls Tryz.prog 58 #[.int .i64 1,.int .u8 c,.slice A b.length cp] w (cM (al aL 1 c b) w):=by
 obtain⟨hcode1,hcode2⟩:=hcode
 have hln:(b.length:Int)≤1048576:=by omega
 refine en 72 Tryz.func58 rfl<|sg<|L0<|bB mZ fun cL cN n k y=>Pl 1<|nt<|sq<|sg<|Pl 6<|nt<|c0<|?_
 refine bC<|sg<|Pl 2<|L0<|bB mZ fun a cO g o bD=>L0<|be o (mC c) fun cP J p=>ng<|Pl 1<|?_
 have i:=ud bD p g
 have u:=aG y i
 refine L0<|Oc<|e3 (ca (aN.old hsl u) (by omega)) fun d cQ f s z=>Pl 1<|L0<|bB #[.pointer none,.pointer none] fun cR cS r af bE=>L0<|be af #[.pointer (some ⟨d,0,none⟩),.pointer (some ⟨a,0,none⟩)] fun cT bG aj=>ng<|L0<|rb fun cV cW am bH an=>?_
 have S:=ub an bG
 refine L0<|c7 S<|Pl 1<|L0<|c7 S<|Pl 2<|L0<|eo bH 1 fun cX bI ao=>?_
 have t:=nb (ai af) aj.size am
 have T:=aQ ao t S
 refine L0<|c7 T<|Pl 1<|L0<|c7 T<|Pl 2<|L0<|eo bI 2 fun cY bJ ap=>?_
 have U:=aQ ap t T
 refine L0<|c7 U<|Pl 1<|L0<|c7 U<|Pl 2<|L0<|eo bJ 5 fun cZ bK aq=>?_
 have v:=aQ aq t U
 refine L0<|c7 v<|Pl 1<|L0<|c7 v<|Pl 2<|L0<|eo bK 15 fun d0 B C=>Pl 2<|ng<|Pl 2<|?_
 have D:=ud bE (aG aj (ud an (u1 ao (u1 ap (u1 aq C im) im) im) am)) r
 have j:=aG z D
 have E:=aG u j
 rcases rB c with hk|hk|hk|hk|hk
 have k1:(c==1)=true:=by rw[hk];rfl
 have k2:(c==2)=false:=by rw[hk];rfl
 have k5:(c==5)=false:=by rw[hk];rfl
 have l:(c==15)=false:=by rw[hk];rfl
 refine L0<|jg (hf:=(by subst hk;kernel_rfl)) B c (.agg #[.nilFunc,.nilFunc]) (some (0,.agg #[.func (.func 78) #[.agg #[.pointer (some ⟨d,0,none⟩),.pointer (some ⟨a,0,none⟩)]] #[],.func (.func 79) #[.agg #[.pointer (some ⟨d,0,none⟩),.pointer (some ⟨a,0,none⟩)]] #[]]))<|Pl 3<|L0<|bB #[.nilFunc,.nilFunc] fun d1 d2 bL bM bN=>L0<|be bM #[.func (.func 78) #[.agg #[.pointer (some ⟨d,0,none⟩),.pointer (some ⟨a,0,none⟩)]] #[],.func (.func 79) #[.agg #[.pointer (some ⟨d,0,none⟩),.pointer (some ⟨a,0,none⟩)]] #[]] fun d3 bO bP=>Pl 1<|nt<|sq<|sg<|Pl 2<|nt<|c0<|?_
 refine bC<|sg<|Pl 2<|L0<|aU bO 1<|?_
 have V:=ud bN bP bL
 have ar:=aG j V
 have aw:=nb (ai o) p.size f
 refine L0<|eK #[.agg #[.pointer (some ⟨d,0,none⟩),.pointer (some ⟨a,0,none⟩)]] #[] (args:=#[.agg #[.pointer (some ⟨d,0,none⟩),.pointer (some ⟨a,0,none⟩)]])<|m3 (iP (c:=c) ⟨hcode1,hcode2⟩ (ae.old s (aG D V)) (ub ar J) (Ne.symm aw)) fun d4 bQ bR aA=>?_
 obtain⟨bS,K,W⟩:=bR
 refine ab bQ fun x89 aB aC=>?_
 refine ng<|Pl 1<|?_
 have aD:=uz V aA
 have aE:=nb (ae.lt s) lr r
 have aH:=ax.blk (us C aD) (aa t (aa (Ne.symm aE) (aa (Ne.symm (nb (ai o) (le p.size z.size) r)) av))) v
 refine L0<|aU aH 0<|L0<|Oc<|m2 (bA aC) fun d5 aI L=>nt<|sq<|sg<|Pl 1<|?_
 refine L0<|aU (aQ L (Ne.symm aE) aH) 0<|L0<|Oc<|mq (b7 aI)<|?_
 have d6:=ae.len aI
 refine Pl 1<|ng<|Pl 2<|nt<|?_
 have X:=u1 aD L im
 have aJ:=ut E X (ac (ni u.size f) (ac (ni y.size g) au))
 refine cb ((x89.endC.e != 0)) (fun F=>?_) (fun F=>?_)
 have Y:=ay F
 refine sg<|Pl 2<|?_
 refine L0<|be (ub (ud i (ud j X f) g) k) mZ fun d7 bT bU=>Pl 1<|nt<|rt<|tr<|c9 bT (.int .i64 x89.endC.e)<|?_
 subst aB
 have hs:al aL 1 c b=aT ((db c (ak.mk b false 0)).2) ((db c (ak.mk b false 0)).1):=by
   unfold al aL
   (try simp only[F,bs,if_true,if_false,decide_true,decide_false,eq_self,true_or,or_true,or_false,false_or,if_true,if_false,cG,cC,cH,cE,reduceIte,k1,k2,k5,l])
   all_goals rfl
 rw[hs]
 exact aV Y (ud aJ bU n)
 have Y:=ag F
 refine bC<|sg<|?_
 refine L0<|c7 (hz:=(by rw[K.2];exact aS)) (aQ L aw K.1)<|?_
 refine L0<|be (hz:=(by rw[K.2];exact aS)) (hv:=W.size) (h1:=W.one) (ub (ud i (ud j X f) g) k) (bS) fun d8 bV aK=>Pl 1<|nt<|rt<|dF 22 K.2 bV (.int .i64 0)<|?_
 subst aB
 have hs:al aL 1 c b=aT ((db c (ak.mk b false 0)).2) ((db c (ak.mk b false 0)).1):=by
   unfold al aL
   (try simp only[F,bs,if_true,if_false,decide_true,decide_false,eq_self,true_or,or_true,or_false,false_or,if_true,if_false,cG,cC,cH,cE,reduceIte,k1,k2,k5,l])
   all_goals rfl
 rw[hs]
 exact b9 Y (aX.upd W (us L aK) (ah (ae.safe aC _ (by decide)) (ah (aF (ub (ud i (ud ar aA f) g) k) (by decide)) az))) (ud aJ aK n)
 have k1:(c==1)=false:=by rw[hk];rfl
 have k2:(c==2)=true:=by rw[hk];rfl
 have k5:(c==5)=false:=by rw[hk];rfl
 have l:(c==15)=false:=by rw[hk];rfl
 refine L0<|jg (hf:=(by subst hk;kernel_rfl)) B c (.agg #[.nilFunc,.nilFunc]) (some (1,.agg #[.func (.func 78) #[.agg #[.pointer (some ⟨d,0,none⟩),.pointer (some ⟨a,0,none⟩)]] #[],.func (.func 79) #[.agg #[.pointer (some ⟨d,0,none⟩),.pointer (some ⟨a,0,none⟩)]] #[]]))<|Pl 3<|L0<|bB #[.nilFunc,.nilFunc] fun d9 da bW bX bY=>L0<|be bX #[.func (.func 78) #[.agg #[.pointer (some ⟨d,0,none⟩),.pointer (some ⟨a,0,none⟩)]] #[],.func (.func 79) #[.agg #[.pointer (some ⟨d,0,none⟩),.pointer (some ⟨a,0,none⟩)]] #[]] fun dc bZ c2=>Pl 1<|nt<|sq<|sg<|Pl 2<|nt<|c0<|?_
 refine bC<|sg<|Pl 2<|L0<|aU bZ 1<|?_
 have Z:=ud bY c2 bW
 have aM:=aG j Z
 have aO:=nb (ai o) p.size f
 refine L0<|eK #[.agg #[.pointer (some ⟨d,0,none⟩),.pointer (some ⟨a,0,none⟩)]] #[] (args:=#[.agg #[.pointer (some ⟨d,0,none⟩),.pointer (some ⟨a,0,none⟩)]])<|m3 (iP (c:=c) ⟨hcode1,hcode2⟩ (ae.old s (aG D Z)) (ub aM J) (Ne.symm aO)) fun dd c3 c4 aP=>?_
 obtain⟨c5,M,a0⟩:=c4
 refine ab c3 fun aR aW aY=>?_
 refine ng<|Pl 1<|?_
 have aZ:=uz Z aP
 have b0:=nb (ae.lt s) lr r
 have b1:=ax.blk (us C aZ) (aa t (aa (Ne.symm b0) (aa (Ne.symm (nb (ai o) (le p.size z.size) r)) av))) v
 refine L0<|aU b1 0<|L0<|Oc<|m2 (bA aY) fun de b2 N=>nt<|sq<|sg<|Pl 1<|?_
 refine L0<|aU (aQ N (Ne.symm b0) b1) 0<|L0<|Oc<|mq (b7 b2)<|?_
 have df:=ae.len b2
 refine Pl 1<|ng<|Pl 2<|nt<|?_
 have a1:=u1 aZ N im
 have b3:=ut E a1 (ac (ni u.size f) (ac (ni y.size g) au))
 refine cb ((aR.endC.e != 0)) (fun G=>?_) (fun G=>?_)
 have a2:=ay G
 refine sg<|Pl 2<|?_
 refine L0<|be (ub (ud i (ud j a1 f) g) k) mZ fun dg c6 c8=>Pl 1<|nt<|rt<|tr<|c9 c6 (.int .i64 aR.endC.e)<|?_
 subst aW
 have hs:al aL 1 c b=aT ((db c (ak.mk b false 0)).2) ((db c (ak.mk b false 0)).1):=by
   unfold al aL
   (try simp only[G,bs,if_true,if_false,decide_true,decide_false,eq_self,true_or,or_true,or_false,false_or,if_true,if_false,cG,cC,cH,cE,reduceIte,k1,k2,k5,l])
   all_goals rfl
 rw[hs]
 exact aV a2 (ud b3 c8 n)
 have a2:=ag G
 refine bC<|sg<|?_
 refine L0<|c7 (hz:=(by rw[M.2];exact aS)) (aQ N aO M.1)<|?_
 refine L0<|be (hz:=(by rw[M.2];exact aS)) (hv:=a0.size) (h1:=a0.one) (ub (ud i (ud j a1 f) g) k) (c5) fun dh cc b4=>Pl 1<|nt<|rt<|dF 22 M.2 cc (.int .i64 0)<|?_
 subst aW
 have hs:al aL 1 c b=aT ((db c (ak.mk b false 0)).2) ((db c (ak.mk b false 0)).1):=by
   unfold al aL
   (try simp only[G,bs,if_true,if_false,decide_true,decide_false,eq_self,true_or,or_true,or_false,false_or,if_true,if_false,cG,cC,cH,cE,reduceIte,k1,k2,k5,l])
   all_goals rfl
 rw[hs]
 exact b9 a2 (aX.upd a0 (us N b4) (ah (ae.safe aY _ (by decide)) (ah (aF (ub (ud i (ud aM aP f) g) k) (by decide)) az))) (ud b3 b4 n)
 have k1:(c==1)=false:=by rw[hk];rfl
 have k2:(c==2)=false:=by rw[hk];rfl
 have k5:(c==5)=true:=by rw[hk];rfl
 have l:(c==15)=false:=by rw[hk];rfl
 refine L0<|jg (hf:=(by subst hk;kernel_rfl)) B c (.agg #[.nilFunc,.nilFunc]) (some (2,.agg #[.func (.func 80) #[.agg #[.pointer (some ⟨d,0,none⟩),.pointer (some ⟨a,0,none⟩)]] #[],.func (.func 80) #[.agg #[.pointer (some ⟨d,0,none⟩),.pointer (some ⟨a,0,none⟩)]] #[]]))<|Pl 3<|L0<|bB #[.nilFunc,.nilFunc] fun di dj cd ce cf=>L0<|be ce #[.func (.func 80) #[.agg #[.pointer (some ⟨d,0,none⟩),.pointer (some ⟨a,0,none⟩)]] #[],.func (.func 80) #[.agg #[.pointer (some ⟨d,0,none⟩),.pointer (some ⟨a,0,none⟩)]] #[]] fun dk cg ch=>Pl 1<|nt<|sq<|sg<|Pl 2<|nt<|c0<|?_
 refine bC<|sg<|Pl 2<|L0<|aU cg 1<|?_
 have a3:=ud cf ch cd
 have b5:=aG j a3
 have b6:=nb (ai o) p.size f
 refine L0<|eK #[.agg #[.pointer (some ⟨d,0,none⟩),.pointer (some ⟨a,0,none⟩)]] #[] (args:=#[.agg #[.pointer (some ⟨d,0,none⟩),.pointer (some ⟨a,0,none⟩)]])<|m3 (iH (c:=c) ⟨hcode1,hcode2⟩ (ae.old s (aG D a3)) (ub b5 J) (Ne.symm b6)) fun dl ci cj b8=>?_
 obtain⟨ck,O,a4⟩:=cj
 refine ab ci fun ba bb bc=>?_
 refine ng<|Pl 1<|?_
 have bd:=uz a3 b8
 have bf:=nb (ae.lt s) lr r
 have bg:=ax.blk (us C bd) (aa t (aa (Ne.symm bf) (aa (Ne.symm (nb (ai o) (le p.size z.size) r)) av))) v
 refine L0<|aU bg 0<|L0<|Oc<|m2 (bA bc) fun dm bi P=>nt<|sq<|sg<|Pl 1<|?_
 refine L0<|aU (aQ P (Ne.symm bf) bg) 0<|L0<|Oc<|mq (b7 bi)<|?_
 have dn:=ae.len bi
 refine Pl 1<|ng<|Pl 2<|nt<|?_
 have a5:=u1 bd P im
 have bj:=ut E a5 (ac (ni u.size f) (ac (ni y.size g) au))
 refine cb ((ba.endC.e != 0)) (fun H=>?_) (fun H=>?_)
 have a6:=ay H
 refine sg<|Pl 2<|?_
 refine L0<|be (ub (ud i (ud j a5 f) g) k) mZ fun dp cl cm=>Pl 1<|nt<|rt<|tr<|c9 cl (.int .i64 ba.endC.e)<|?_
 subst bb
 have hs:al aL 1 c b=aT ((cU c (ak.mk b false 0)).2) ((cU c (ak.mk b false 0)).1):=by
   unfold al aL
   (try simp only[H,bs,if_true,if_false,decide_true,decide_false,eq_self,true_or,or_true,or_false,false_or,if_true,if_false,cG,cC,cH,cE,reduceIte,k1,k2,k5,l])
   all_goals rfl
 rw[hs]
 exact aV a6 (ud bj cm n)
 have a6:=ag H
 refine bC<|sg<|?_
 refine L0<|c7 (hz:=(by rw[O.2];exact aS)) (aQ P b6 O.1)<|?_
 refine L0<|be (hz:=(by rw[O.2];exact aS)) (hv:=a4.size) (h1:=a4.one) (ub (ud i (ud j a5 f) g) k) (ck) fun dq cn bk=>Pl 1<|nt<|rt<|dF 22 O.2 cn (.int .i64 0)<|?_
 subst bb
 have hs:al aL 1 c b=aT ((cU c (ak.mk b false 0)).2) ((cU c (ak.mk b false 0)).1):=by
   unfold al aL
   (try simp only[H,bs,if_true,if_false,decide_true,decide_false,eq_self,true_or,or_true,or_false,false_or,if_true,if_false,cG,cC,cH,cE,reduceIte,k1,k2,k5,l])
   all_goals rfl
 rw[hs]
 exact b9 a6 (aX.upd a4 (us P bk) (ah (ae.safe bc _ (by decide)) (ah (aF (ub (ud i (ud b5 b8 f) g) k) (by decide)) az))) (ud bj bk n)
 have k1:(c==1)=false:=by rw[hk];rfl
 have k2:(c==2)=false:=by rw[hk];rfl
 have k5:(c==5)=false:=by rw[hk];rfl
 have l:(c==15)=true:=by rw[hk];rfl
 refine L0<|jg (hf:=(by subst hk;kernel_rfl)) B c (.agg #[.nilFunc,.nilFunc]) (some (3,.agg #[.func (.func 81) #[.agg #[.pointer (some ⟨d,0,none⟩),.pointer (some ⟨a,0,none⟩)]] #[],.func (.func 82) #[.agg #[.pointer (some ⟨d,0,none⟩),.pointer (some ⟨a,0,none⟩)]] #[]]))<|Pl 3<|L0<|bB #[.nilFunc,.nilFunc] fun dr ds co cq cr=>L0<|be cq #[.func (.func 81) #[.agg #[.pointer (some ⟨d,0,none⟩),.pointer (some ⟨a,0,none⟩)]] #[],.func (.func 82) #[.agg #[.pointer (some ⟨d,0,none⟩),.pointer (some ⟨a,0,none⟩)]] #[]] fun dt cs ct=>Pl 1<|nt<|sq<|sg<|Pl 2<|nt<|c0<|?_
 refine bC<|sg<|Pl 2<|L0<|aU cs 1<|?_
 have a7:=ud cr ct co
 have bl:=aG j a7
 have bm:=nb (ai o) p.size f
 refine L0<|eK #[.agg #[.pointer (some ⟨d,0,none⟩),.pointer (some ⟨a,0,none⟩)]] #[] (args:=#[.agg #[.pointer (some ⟨d,0,none⟩),.pointer (some ⟨a,0,none⟩)]])<|m3 (pg (c:=c) ⟨hcode1,hcode2⟩ (ae.old s (aG D a7)) (ub bl J) (Ne.symm bm)) fun du cu cv bn=>?_
 obtain⟨cw,Q,a8⟩:=cv
 refine ab cu fun bo bp bq=>?_
 refine ng<|Pl 1<|?_
 have br:=uz a7 bn
 have bt:=nb (ae.lt s) lr r
 have bu:=ax.blk (us C br) (aa t (aa (Ne.symm bt) (aa (Ne.symm (nb (ai o) (le p.size z.size) r)) av))) v
 refine L0<|aU bu 0<|L0<|Oc<|m2 (bA bq) fun dv bv R=>nt<|sq<|sg<|Pl 1<|?_
 refine L0<|aU (aQ R (Ne.symm bt) bu) 0<|L0<|Oc<|mq (b7 bv)<|?_
 have dw:=ae.len bv
 refine Pl 1<|ng<|Pl 2<|nt<|?_
 have a9:=u1 br R im
 have bw:=ut E a9 (ac (ni u.size f) (ac (ni y.size g) au))
 refine cb ((bo.endC.e != 0)) (fun I=>?_) (fun I=>?_)
 have ad:=ay I
 refine sg<|Pl 2<|?_
 refine L0<|be (ub (ud i (ud j a9 f) g) k) mZ fun dx cx cy=>Pl 1<|nt<|rt<|tr<|c9 cx (.int .i64 bo.endC.e)<|?_
 subst bp
 have hs:al aL 1 c b=aT ((cI 1968 c (ak.mk b false 0)).2) ((cI 1968 c (ak.mk b false 0)).1):=by
   unfold al aL
   (try simp only[I,bs,if_true,if_false,decide_true,decide_false,eq_self,true_or,or_true,or_false,false_or,if_true,if_false,cG,cC,cH,cE,reduceIte,k1,k2,k5,l])
   all_goals rfl
 rw[hs]
 exact aV ad (ud bw cy n)
 have ad:=ag I
 refine bC<|sg<|?_
 refine L0<|c7 (hz:=(by rw[Q.2];exact aS)) (aQ R bm Q.1)<|?_
 refine L0<|be (hz:=(by rw[Q.2];exact aS)) (hv:=a8.size) (h1:=a8.one) (ub (ud i (ud j a9 f) g) k) (cw) fun dy cz bx=>Pl 1<|nt<|rt<|dF 22 Q.2 cz (.int .i64 0)<|?_
 subst bp
 have hs:al aL 1 c b=aT ((cI 1968 c (ak.mk b false 0)).2) ((cI 1968 c (ak.mk b false 0)).1):=by
   unfold al aL
   (try simp only[I,bs,if_true,if_false,decide_true,decide_false,eq_self,true_or,or_true,or_false,false_or,if_true,if_false,cG,cC,cH,cE,reduceIte,k1,k2,k5,l])
   all_goals rfl
 rw[hs]
 exact b9 ad (aX.upd a8 (us R bx) (ah (ae.safe bq _ (by decide)) (ah (aF (ub (ud i (ud bl bn f) g) k) (by decide)) az))) (ud bw bx n)
 have k1:(c==1)=false:=by simpa using hk.1
 have k2:(c==2)=false:=by simpa using hk.2.1
 have k5:(c==5)=false:=by simpa using hk.2.2.1
 have l:(c==15)=false:=by simpa using hk.2.2.2
 refine L0<|jg (hf:=(tQ (q:=.u8) (x:=c) #[⟨.int .u8 1,.agg #[.func (.func 78) #[.agg #[.pointer (some ⟨d,0,none⟩),.pointer (some ⟨a,0,none⟩)]] #[],.func (.func 79) #[.agg #[.pointer (some ⟨d,0,none⟩),.pointer (some ⟨a,0,none⟩)]] #[]],0⟩,⟨.int .u8 2,.agg #[.func (.func 78) #[.agg #[.pointer (some ⟨d,0,none⟩),.pointer (some ⟨a,0,none⟩)]] #[],.func (.func 79) #[.agg #[.pointer (some ⟨d,0,none⟩),.pointer (some ⟨a,0,none⟩)]] #[]],1⟩,⟨.int .u8 5,.agg #[.func (.func 80) #[.agg #[.pointer (some ⟨d,0,none⟩),.pointer (some ⟨a,0,none⟩)]] #[],.func (.func 80) #[.agg #[.pointer (some ⟨d,0,none⟩),.pointer (some ⟨a,0,none⟩)]] #[]],2⟩,⟨.int .u8 15,.agg #[.func (.func 81) #[.agg #[.pointer (some ⟨d,0,none⟩),.pointer (some ⟨a,0,none⟩)]] #[],.func (.func 82) #[.agg #[.pointer (some ⟨d,0,none⟩),.pointer (some ⟨a,0,none⟩)]] #[]],3⟩] (dM _ _ (by intro e he;simp only[List.mem_cons,List.not_mem_nil,or_false] at he;obtain⟨z1,z2,z5,dz⟩:=hk;rcases he with rfl | rfl | rfl | rfl<;>exact⟨_,rfl,fun h=>by simp_all⟩)))) B c (.agg #[.nilFunc,.nilFunc]) none<|Pl 3<|L0<|bB #[.nilFunc,.nilFunc] fun dA dB cA cB cD=>L0<|be cB #[.nilFunc,.nilFunc] fun dC dD cF=>Pl 1<|nt<|sq<|sg<|Pl 2<|nt<|c1<|?_
 refine sg<|Pl 1<|?_
 have bz:=ud cD cF cA
 refine L0<|be (ub (aG i (aG j bz)) k) mZ fun dE cJ cK=>Pl 1<|nt<|rt<|tr<|c9 cJ (.int .i64 4)<|?_
 have hs:al aL 1 c b=(bh.zero,4):=by
   unfold al aL
   (try simp only[bs,if_true,if_false,decide_true,decide_false,eq_self,true_or,or_true,or_false,false_or,if_true,if_false,cG,cC,cH,cE,reduceIte,k1,k2,k5,l])
   all_goals rfl
 rw[hs]
 exact bF (ud E (uz bz cK) n)
theorem ii{m:Bool}{A:Option Addr}{cp:Nat}{b:List Int}{w:World}{dir c:Int}(hcode:B8 c)(hsl:aN m w (.slice A b.length cp) b)(hb:b.length≤1048576)(hd:¬ (dir=0∨dir=1)) :
    Calls Tryz.prog 58 #[.int .i64 dir,.int .u8 c,.slice A b.length cp] w (cM (al aL dir c b) w):=by
 obtain⟨hcode1,hcode2⟩:=hcode
 have hln:(b.length:Int)≤1048576:=by omega
 have e0:(dir != 0)=true:=by simp;omega
 have e1:(dir != 1)=true:=by simp;omega
 refine en 72 Tryz.func58 rfl<|sg<|L0<|bB mZ fun g h a d e=>Pl 1<|nt<|sq<|sg<|Pl 3<|sy 16 e0<|Pl 3<|nl<|?_
 refine tn<|ct e1<|sg<|Pl 1<|L0<|be d mZ fun i dp f=>Pl 1<|nt<|rt<|tr<|c9 dp (.int .i64 1)<|?_
 have hs:al aL dir c b=(bh.zero,1):=by
   unfold al aL
   (try simp only[e0,e1,bs,if_true,if_false,decide_true,decide_false,eq_self,true_or,or_true,or_false,false_or,if_true,if_false,cG,cC,cH,cE,reduceIte,hd])
   all_goals rfl
 rw[hs]
 exact bF (ud e f a)
theorem kC{m:Bool}{v:Value}{b:List Int}{w:World}{dir c:Int}(hc:B8 c)(h:aN m w v b)(hb:b.length≤1048576) :
    Calls Tryz.prog 58 #[.int .i64 dir,.int .u8 c,v] w (cM (al aL dir c b) w):=by
  obtain⟨A,cp,rfl,_,_⟩:=h.shape
  by_cases h0:dir=0
  · subst h0;exact i9 hc h hb
  by_cases h1:dir=1
  · subst h1;exact ig hc h hb
  exact ii hc h hb (by omega)
open Go.RowKit
def cO (c:ak) : ak:=(c.wordsC 1).need (c.wordV==0 || c.wordV==65535) 6
theorem sr{v:Int}(h:0≤v∧v<65536) : bits .and .u16 v 255=v%256:=by
  rw[u16_and v 255 h.1 h.2 (by decide) (by decide)]
  show((v.toNat &&& (2 ^ 8-1) : Nat) : Int)=_
  rw[Nat.and_two_pow_sub_one_eq_mod]
  omega
def fp (dir sub v:Int) : Bool:=if (sub==2 || (decide (11≤sub)&&decide (sub≤18)))&&dir==1 then true else if sub==1 then v==0 || v==65280 else if sub==3 then v%256==0 else v==0
theorem jM{g:Nat}{c:ak}{w:World}(hc:ae w g c) :
    Calls Tryz.prog 123 #[.pointer (some ⟨g,0,none⟩)] w (iz g .u16 65536 c.wordV (cO c) w):=by
 have hr:=hc.wordV
 refine en 15 Tryz.func123 rfl<|sg<|Pl 1<|ng<|Pl 1<|L0<|Oc<|m3 (bj hc) fun l d e m=>Pl 1<|nt<|sq<|?_
 refine go<|Pl 4<|cu 3 [9] 12 (((c.wordV==0)||(c.wordV==65535))) (fun K b=>?_) ?_
 refine bl 9 ((c.wordV==0)) (fun a=>?_) (fun a=>?_)
 have f:=aB a
 exact Pl 3<|ce b true (by rw[a];rfl)
 have f:=aH a
 exact Pl 3<|ce b (c.wordV==65535) (by rw[a];rfl)
 refine L0<|Oc<|m2 (aM (((c.wordV==0)||(c.wordV==65535))) 6 d) fun n h i=>?_
 refine ab h fun x19 j k=>?_
 refine ng<|Pl 2<|nt<|rt<|rr (.int .u16 c.wordV)<|?_
 subst j
 exact⟨rfl,k,(u1 e i im),hr⟩
theorem pm{v:Int}{w:World}:Calls Tryz.prog 137 #[.int .u16 v] w (bi (.bool (v==0 || v==65280)) w):=by
 refine en 9 Tryz.func137 rfl<|sg<|Pl 1<|ng<|Pl 3<|cu 3 [5] 8 (((v==0)||(v==65280))) (fun K b=>?_) ?_
 refine bl 5 ((v==0)) (fun a=>?_) (fun a=>?_)
 have c:=aB a
 exact Pl 3<|ce b true (by rw[a];rfl)
 have c:=aH a
 exact Pl 3<|ce b (v==65280) (by rw[a];rfl)
 refine Pl 1<|nt<|rt<|rr (.bool ((v==0)||(v==65280)))<|?_
 exact⟨rfl,(ax.refl [] _)⟩
theorem ou{v:Int}{w:World}(hv:0≤v∧v<65536) : Calls Tryz.prog 138 #[.int .u16 v] w (bi (.bool (v%256==0)) w):=by
 refine en 6 Tryz.func138 rfl<|sg<|Pl 1<|ng<|Pl 1<|L0<|Oe (.int .u16 (bits .and .u16 v 255)) (.int .u16 (v%256)) (congrArg (Value.int .u16) (sr (by omega)))<|Pl 2<|nt<|rt<|?_
 refine rr (.bool ((v%256)==0))<|?_
 exact⟨rfl,(ax.refl [] _)⟩
theorem pE{v x:Int}{gb:Nat}{w:World}(hB:w.heap[gb]? = some (.cells #[.int .u16 v] 22 (0,0))) : Calls Tryz.prog 136 #[.int .u16 x,.pointer (some ⟨gb,0,none⟩)] w (bi (.bool (v==0)) w):=by
 refine en 6 Tryz.func136 rfl<|sg<|Pl 1<|ng<|L0<|aU hB 0<|Pl 2<|nt<|rt<|rr (.bool (v==0))<|?_
 exact⟨rfl,(ax.refl [] _)⟩
theorem ti{dir v:Int}{w:World}(hv:0≤v∧v<65536) : Calls Tryz.prog 122 #[.int .i64 dir,.int .u16 1,.int .u16 v] w (bi (.bool (fp dir 1 v)) w):=by
 refine en 42 Tryz.func122 rfl<|sg<|L0<|cS #[.int .u16 v] fun l m n b c=>Pl 1<|ng<|Pl 2<|ng<|?_
 refine L0<|rb fun o p d e f=>L0<|eo e 1 fun q g h=>L0<|eo g 3 fun r i j=>Pl 2<|ng<|Pl 11<|nt<|sq<|sg<|?_
 refine Pl 5<|nt<|c0<|bC<|sg<|Pl 2<|L0<|jg i 1 (.nilFunc) (some (0,.func (.func 137) #[] #[]))<|Pl 5<|nt<|sq<|?_
 refine sg<|Pl 2<|nt<|c0<|bC<|sg<|Pl 1<|?_
 have a:=ud f (u1 h j im) d
 refine L0<|aU (ub a b) 0<|L0<|eK #[] #[] (args:=#[.int .u16 v])<|m1 (pm) fun s k=>Pl 1<|nt<|rt<|rr (.bool (v==0 || v==65280))<|?_
 have hs:fp dir 1 v=(v==0 || v==65280):=by
   unfold fp
   (try simp only[bs,if_true,if_false,decide_true,decide_false,reduceIte])
   all_goals rfl
 rw[hs]
 exact⟨rfl,(aG c (aG a k))⟩
theorem t0{dir v:Int}{w:World}(hv:0≤v∧v<65536) : Calls Tryz.prog 122 #[.int .i64 dir,.int .u16 3,.int .u16 v] w (bi (.bool (fp dir 3 v)) w):=by
 refine en 42 Tryz.func122 rfl<|sg<|L0<|cS #[.int .u16 v] fun l m n b c=>Pl 1<|ng<|Pl 2<|ng<|?_
 refine L0<|rb fun o p d e f=>L0<|eo e 1 fun q g h=>L0<|eo g 3 fun r i j=>Pl 2<|ng<|Pl 11<|nt<|sq<|sg<|?_
 refine Pl 5<|nt<|c0<|bC<|sg<|Pl 2<|L0<|jg i 3 (.nilFunc) (some (1,.func (.func 138) #[] #[]))<|Pl 5<|nt<|sq<|?_
 refine sg<|Pl 2<|nt<|c0<|bC<|sg<|Pl 1<|?_
 have a:=ud f (u1 h j im) d
 refine L0<|aU (ub a b) 0<|L0<|eK #[] #[] (args:=#[.int .u16 v])<|m1 (ou hv) fun s k=>Pl 1<|nt<|rt<|rr (.bool (v%256==0))<|?_
 have hs:fp dir 3 v=(v%256==0):=by
   unfold fp
   (try simp only[bs,if_true,if_false,decide_true,decide_false,reduceIte])
   all_goals rfl
 rw[hs]
 exact⟨rfl,(aG c (aG a k))⟩
theorem s1{dir sub v:Int}{w:World}(hv:0≤v∧v<65536)(h1:sub≠1)(h3:sub≠3) : Calls Tryz.prog 122 #[.int .i64 dir,.int .u16 sub,.int .u16 v] w (bi (.bool (fp dir sub v)) w):=by
 have n1:(sub==1)=false:=by simpa using h1
 have n3:(sub==3)=false:=by simpa using h3
 refine en 42 Tryz.func122 rfl<|sg<|L0<|cS #[.int .u16 v] fun f G H o p=>Pl 1<|ng<|Pl 2<|ng<|?_
 refine L0<|rb fun I J r s t=>L0<|eo s 1 fun L u y=>L0<|eo u 3 fun M z A=>Pl 2<|ng<|Pl 3<|cu 7 [17] 24 (((sub==2)||((decide (11≤sub))&&(decide (sub≤18))))) (fun K g=>?_) ?_
 refine bl 17 ((sub==2)) (fun a=>?_) (fun a=>?_)
 have B:=aB a
 exact Pl 7<|ce g true (by rw[a];rfl)
 have B:=aH a
 refine Pl 3<|cu 3 [20] 23 (((decide (11≤sub))&&(decide (sub≤18)))) (fun K i=>?_) ?_
 refine bl 20 ((decide (11≤sub))) (fun b=>?_) (fun b=>?_)
 have C:=of_decide_eq_true b
 exact Pl 3<|ce i (decide (sub≤18)) (by rw[b];rfl)
 have C:=of_decide_eq_false b
 exact Pl 3<|ce i false (by rw[b];rfl)
 exact Pl 1<|ce g ((decide (11≤sub))&&(decide (sub≤18))) (by rw[a];rfl)
 refine Pl 1<|nt<|sq<|sg<|Pl 2<|cu 3 [26] 29 ((((sub==2)||((decide (11≤sub))&&(decide (sub≤18))))&&(dir==1))) (fun K j=>?_) ?_
 refine bl 26 (((sub==2)||((decide (11≤sub))&&(decide (sub≤18))))) (fun c=>?_) (fun c=>?_)
 exact Pl 3<|ce j (dir==1) (by rw[c];rfl)
 have D:=(aE c).1
 have N:=(aE c).2
 have O:=aH D
 exact Pl 3<|ce j false (by rw[c];rfl)
 refine nt<|?_
 have k:=ud t (u1 y A im) r
 have l:=aG p k
 refine cb ((((sub==2)||((decide (11≤sub))&&(decide (sub≤18))))&&(dir==1))) (fun d=>?_) (fun d=>?_)
 have E:=(bQ d).1
 have m:=(bQ d).2
 have P:=aB m
 refine sg<|Pl 1<|nt<|rt<|tr<|rr (.bool true)<|?_
 have hs:fp dir sub v=true:=by
   unfold fp
   (try simp only[d,E,m,bs,if_true,if_false,decide_true,decide_false,n1,n3,reduceIte])
   all_goals rfl
 rw[hs]
 exact⟨rfl,l⟩
 refine bC<|sg<|Pl 2<|L0<|jg (hf:=(tQ (q:=.u16) (x:=sub) #[⟨.int .u16 1,.func (.func 137) #[] #[],0⟩,⟨.int .u16 3,.func (.func 138) #[] #[],1⟩] (dM _ _ (by intro e he;simp only[List.mem_cons,List.not_mem_nil,or_false] at he;rcases he with rfl | rfl;exact⟨_,rfl,fun h=>h1 h.symm⟩;exact⟨_,rfl,fun h=>h3 h.symm⟩)))) z sub (.nilFunc) none<|Pl 5<|nt<|sq<|sg<|Pl 2<|nl<|?_
 refine tn<|c1<|go<|Pl 2<|ng<|Pl 1<|?_
 have n:=ub k o
 refine L0<|aU n 0<|L0<|eK #[] #[.pointer (some ⟨f,0,none⟩)] (args:=#[.int .u16 v,.pointer (some ⟨f,0,none⟩)])<|m1 (pE n) fun Q F=>Pl 1<|nt<|rt<|rr (.bool (v==0))<|?_
 have hs:fp dir sub v=(v==0):=by
   unfold fp
   (try simp only[d,bs,if_true,if_false,decide_true,decide_false,n1,n3,reduceIte])
   all_goals rfl
 rw[hs]
 exact⟨rfl,(aG l F)⟩
theorem q8{dir sub v:Int}{w:World}(hv:0≤v∧v<65536) : Calls Tryz.prog 122 #[.int .i64 dir,.int .u16 sub,.int .u16 v] w (bi (.bool (fp dir sub v)) w):=by
  by_cases h1:sub=1
  · subst h1;exact ti hv
  by_cases h3:sub=3
  · subst h3;exact t0 hv
  exact s1 hv h1 h3
open Go.RowKit
def eR (dir:Int)(C:ak) : ak:=(C.wordsC 1).need (e4 C.wordV&&(dir==0 || C.wordV != 4)) 8
def jP (C:ak) : ak:=C.need (((C.l.length:Int)%2==0&&decide (2≤(C.l.length:Int)))&&decide ((C.l.length:Int)≤250)) 5
def dk (dir c:Int)(C:ak) : ak × bh :=
  if C.wordV != 0 then (((eR dir C).wordsC 1).need ((((eR dir C).wordsR 1).length:Int)==1&&fp dir C.wordV (((eR dir C).wordsR 1).getD 0 0)) 6,{ bh.zero with code:=c,sub:=C.wordV,words:=(eR dir C).wordsR 1 })
  else ((jP (eR dir C)).wordsC (((eR dir C).l.length:Int)/2),{ bh.zero with code:=c,sub:=C.wordV,words:=(jP (eR dir C)).wordsR (((eR dir C).l.length:Int)/2) })
def gL (C:ak)(lo hi:Int) : ak:=(C.bytesC 1).need (decide (lo≤C.byteV)&&decide (C.byteV≤hi)) 5
def i6 (C:ak) : ak:=((cO (gL C 6 70)).wordsC 1).wordsC 1
def bu (c:Int)(C:ak) : ak × bh :=
  if c==7 then (C.bytesC 1,{ bh.zero with code:=c,value:=C.byteV })
  else if c==11 then ((cO C).wordsC 1,{ bh.zero with code:=c,status:=C.wordV,events:=(cO C).wordV })
  else if c==12 then ((i6 C).bytesC (C.byteV-6),{ bh.zero with code:=c,status:=(gL C 6 70).wordV,events:=(cO (gL C 6 70)).wordV,messages:=((cO (gL C 6 70)).wordsC 1).wordV,data:=(i6 C).bytesR (C.byteV-6) })
  else if c==17 then ((gL C 1 251).bytesC C.byteV,{ bh.zero with code:=c,data:=(gL C 1 251).bytesR C.byteV })
  else (C,{ bh.zero with code:=c })
theorem kv{g gm:Nat}{dir c:Int}{C:ak}{w:World}(hcode:B8 c)(hC:ae w g C)(hm:w.heap[gm]? = some (.cells #[.int .u8 c,.int .u8 0,.int .u16 0,.int .u16 0,.int .u16 0,.int .u16 0,.int .u16 0,.int .u16 0,.int .u16 0,.int .u16 0,.int .u16 0,.int .u16 0,.slice none 0 0,.slice none 0 0,.slice none 0 0,.slice none 0 0,.int .u8 0,.int .u8 0,.int .u8 0,.int .u8 0,.int .u8 0,.slice none 0 0] 31 (0,0)))(hne:g≠gm) :
    Calls Tryz.prog 88 #[.int .i64 dir,.pointer (some ⟨g,0,none⟩),.pointer (some ⟨gm,0,none⟩)] w (bE g gm (dk dir c C).1 (dk dir c C).2 w):=by
 obtain⟨hcode1,hcode2⟩:=hcode
 have hlen:=hC.len
 refine en 84 Tryz.func88 rfl<|sg<|Pl 2<|L0<|Oc<|m3 (bj hC) fun aZ a4 t b0=>Pl 2<|?_
 have J:=aQ t (Ne.symm hne) hm
 refine L0<|bS J 8 (mG c 0 0 0 0 0 0 0 C.wordV 0 0 0 nS nS nS nS 0 0 0 0 0 nS) fun b1 dp L=>ng<|Pl 4<|L0<|aU dp 8<|L0<|Oc<|m1 (px (x:=C.wordV) (w:=_)) fun b2 r=>Pl 1<|cu 10 [18] 28 (((e4 C.wordV)&&((dir==0)||(C.wordV != 4)))) (fun K M=>?_) ?_
 refine bl 18 ((e4 C.wordV)) (fun u=>?_) (fun u=>?_)
 refine Pl 3<|cu 6 [21] 27 (((dir==0)||(C.wordV != 4))) (fun K N=>?_) ?_
 refine bl 21 ((dir==0)) (fun j=>?_) (fun j=>?_)
 have a5:=aB j
 exact Pl 6<|ce N true (by rw[j];rfl)
 have a5:=aH j
 refine Pl 3<|?_
 exact L1<|aU (ub r dp) 8<|Pl 2<|ce N (C.wordV != 4) (by rw[j];rfl)
 exact Pl 1<|ce M ((dir==0)||(C.wordV != 4)) (by rw[u];rfl)
 exact Pl 10<|ce M false (by rw[u];rfl)
 have O:=aG L r
 refine L0<|Oc<|m2 (aM (((e4 C.wordV)&&((dir==0)||(C.wordV != 4)))) 8 (ae.upd a4 O (aa hne av) (ah (aF J (by decide)) az))) fun b3 a6 y=>?_
 refine ab a6 fun x30 z s=>?_
 refine nt<|sq<|sg<|Pl 3<|?_
 have A:=aQ (uz r y) (Ne.symm hne) dp
 refine L0<|aU A 8<|Pl 1<|nt<|?_
 have d:=ui t (us O y)
 refine cb ((C.wordV != 0)) (fun f=>?_) (fun f=>?_)
 have a7:=ay f
 refine sg<|Pl 2<|L0<|Oc<|mr (cD (n:=1) s) fun P Q b4 i b5 b6 R S=>Pl 2<|?_
 have B:=aQ S (Ne.symm hne) A
 refine L0<|bS B 12 (mG c 0 0 0 0 0 0 0 C.wordV 0 0 0 (.slice P ((x30.wordsR 1).length) Q) nS nS nS 0 0 0 0 0 nS) fun b7 a8 a9=>nt<|sq<|Rg 22 (fun w'=>w'.cell? ⟨gm,12,none⟩=some (.slice P ((x30.wordsR 1).length) Q)∧w'.cell? ⟨gm,8,none⟩=some (.int .u16 C.wordV)) fun b9 T=>?_
 have b:=ub T a8
 refine bg ⟨(aj b rfl),(aj b rfl)⟩ fun a=>Rt 0 a<|Rt 1 a<|Rt 2 a<|Rt 3 a<|Rl 4 a (fun _ hs=>hs.1)<|Rt 5 a<|Rt 6 a<|Rt 7 a<|?_
 have k:=aG a9 T
 have U:=ut d (us S k) (ac im (ac im au))
 refine tw 47 (((((x30.wordsR 1).length:Nat) : Int)==1)) (fun m=>?_) (fun m=>?_)
 have ad:=aB m
 refine Rt 8 a<|Rt 9 a<|Rt 10 a<|Rt 11 a<|Rl 12 a (fun _ hs=>hs.2)<|Rt 13 a<|Rt 14 a<|Rt 15 a<|Rl 16 a (fun _ hs=>hs.1)<|?_
 have V:=am i k (fun x hx=>(aa (fun e=>(ap (ai hm) d.size i) (e▸hx)) av)) (fun _ _ h=>h)
 refine fF (dE.at_ (V).rd 0 (by omega)) fun af al an ao ba=>R0 17 rfl<|ny ((x30.wordsR 1).length) 0 an (by omega)<|bg ⟨(aj b rfl),(aj b rfl)⟩ fun bb=>R0 18 rfl<|jx (p:=⟨af,al+0,none⟩) (v:=.int .u16 ((x30.wordsR 1).getD 0 0)) ao<|bg ⟨(aj b rfl),(aj b rfl)⟩ fun bc=>R0 19 rfl<|Oc<|m1 (q8 (dir:=dir) (sub:=C.wordV) (v:=((x30.wordsR 1).getD 0 0)) (by omega)) fun bd D=>?_
 have E:=ub D b
 refine bg ⟨(aj E rfl),(aj E rfl)⟩ fun aq=>Rt 20 aq<|?_
 refine R0 21 rfl<|Oc<|m2 (aM ((fp dir C.wordV ((x30.wordsR 1).getD 0 0))) 6 (ae.upd R (aG k D) (aa hne av) (ah (aF B (by decide)) az))) fun be ar W=>?_
 refine ab ar fun bf aw aA=>?_
 have F:=aQ W (Ne.symm hne) E
 refine bg ⟨(aj F rfl),(aj F rfl)⟩ fun bi=>re<|tn<|rt<|tr<|rr (.tuple #[])<|?_
 subst aw z
 have X:=uz D W
 have hs:dk dir c C=(((((C.wordsC 1).need ((e4 C.wordV)&&((dir==0)||(C.wordV != 4))) 8).wordsC 1).need (fp dir C.wordV ((((C.wordsC 1).need ((e4 C.wordV)&&((dir==0)||(C.wordV != 4))) 8).wordsR 1).getD 0 0)) 6),(bh.mk c 0 0 0 0 0 0 0 C.wordV 0 0 0 (((C.wordsC 1).need ((e4 C.wordV)&&((dir==0)||(C.wordV != 4))) 8).wordsR 1) [] [] [] 0 0 0 0 0 [])):=by
   unfold dk eR jP
   (try simp only[f,m,bs,if_true,if_false,decide_true,decide_false,reduceIte])
   all_goals rfl
 rw[hs]
 exact⟨rfl,aA,⟨_,⟨F,rfl⟩,⟨_,_,_,_,_,rfl,((am V X (fun x hx=>(aa (fun e=>(ap (ae.lt hC) d.size i) (e▸hx)) av)) (fun _ _ h=>h))).rd,aI.nil ..,aI.nil ..,aI.nil ..,aI.nil ..,⟨(b8 (x:=c) (by omega)),(b8 (x:=0) (by omega)),(aD (x:=0) (by omega)),(aD (x:=0) (by omega)),(aD (x:=0) (by omega)),(aD (x:=0) (by omega)),(aD (x:=0) (by omega)),(aD (x:=0) (by omega)),(aD (x:=C.wordV) (by omega)),(aD (x:=0) (by omega)),(aD (x:=0) (by omega)),(aD (x:=0) (by omega)),(b8 (x:=0) (by omega)),(b8 (x:=0) (by omega)),(b8 (x:=0) (by omega)),(b8 (x:=0) (by omega)),(b8 (x:=0) (by omega))⟩⟩⟩,(ax.mono (S':=[g,gm]) (u1 U X im) (rL (Or.inl (by simp)) (Or.inl (by simp))))⟩
 have ad:=aH m
 refine Ro 8 a<|Ro 9 a<|Ro 10 a<|Ro 11 a<|Ro 12 a<|Ro 13 a<|Ro 14 a<|Ro 15 a<|Ro 16 a<|Ro 17 a<|Ro 18 a<|Ro 19 a<|Rt 20 a<|?_
 refine R0 21 rfl<|Oc<|m2 (aM (false) 6 (ae.upd R k (aa hne av) (ah (aF B (by decide)) az))) fun bk aC G=>?_
 have H:=aQ G (Ne.symm hne) b
 refine bg ⟨(aj H rfl),(aj H rfl)⟩ fun bm=>re<|tn<|rt<|tr<|rr (.tuple #[])<|?_
 subst z
 have hs:dk dir c C=(((((C.wordsC 1).need ((e4 C.wordV)&&((dir==0)||(C.wordV != 4))) 8).wordsC 1).need false 6),(bh.mk c 0 0 0 0 0 0 0 C.wordV 0 0 0 (((C.wordsC 1).need ((e4 C.wordV)&&((dir==0)||(C.wordV != 4))) 8).wordsR 1) [] [] [] 0 0 0 0 0 [])):=by
   unfold dk eR jP
   (try simp only[f,m,bs,if_true,if_false,decide_true,decide_false,reduceIte])
   all_goals rfl
 rw[hs]
 exact⟨rfl,aC,⟨_,⟨H,rfl⟩,⟨_,_,_,_,_,rfl,((am i (us k G) (fun x hx=>(aa (fun e=>(ap (ai hm) d.size i) (e▸hx)) (aa (fun e=>(ap (ae.lt hC) d.size i) (e▸hx)) av))) (fun _ _ h=>h))).rd,aI.nil ..,aI.nil ..,aI.nil ..,aI.nil ..,⟨(b8 (x:=c) (by omega)),(b8 (x:=0) (by omega)),(aD (x:=0) (by omega)),(aD (x:=0) (by omega)),(aD (x:=0) (by omega)),(aD (x:=0) (by omega)),(aD (x:=0) (by omega)),(aD (x:=0) (by omega)),(aD (x:=C.wordV) (by omega)),(aD (x:=0) (by omega)),(aD (x:=0) (by omega)),(aD (x:=0) (by omega)),(b8 (x:=0) (by omega)),(b8 (x:=0) (by omega)),(b8 (x:=0) (by omega)),(b8 (x:=0) (by omega)),(b8 (x:=0) (by omega))⟩⟩⟩,(ax.mono (S':=[g,gm]) (u1 U G im) (rL (Or.inl (by simp)) (Or.inl (by simp))))⟩
 have a7:=ag f
 refine bC<|sg<|Pl 1<|L0<|Oc<|mq (cy s)<|?_
 have bn:=ae.len s
 refine Pl 1<|ng<|Pl 2<|L0<|Oe (.int .i64 (Int.tmod ((x30.l.length:Nat) : Int) 2)) (.int .i64 (((x30.l.length:Nat) : Int)%2)) (congrArg (Value.int .i64) (Int.tmod_eq_emod_of_nonneg (by omega)))<|Pl 2<|cu 3 [68] 71 ((((((x30.l.length:Nat) : Int)%2)==0)&&(decide (2≤((x30.l.length:Nat) : Int))))) (fun K Y=>?_) ?_
 refine bl 68 (((((x30.l.length:Nat) : Int)%2)==0)) (fun o=>?_) (fun o=>?_)
 have aE:=aB o
 exact Pl 3<|ce Y (decide (2≤((x30.l.length:Nat) : Int))) (by rw[o];rfl)
 have aE:=aH o
 exact Pl 3<|ce Y false (by rw[o];rfl)
 refine Pl 1<|cu 3 [72] 75 (((((((x30.l.length:Nat) : Int)%2)==0)&&(decide (2≤((x30.l.length:Nat) : Int))))&&(decide (((x30.l.length:Nat) : Int)≤250)))) (fun K Z=>?_) ?_
 refine bl 72 ((((((x30.l.length:Nat) : Int)%2)==0)&&(decide (2≤((x30.l.length:Nat) : Int))))) (fun q=>?_) (fun q=>?_)
 have aJ:=(bQ q).1
 have aK:=(bQ q).2
 have bo:=aB aJ
 have bp:=of_decide_eq_true aK
 exact Pl 3<|ce Z (decide (((x30.l.length:Nat) : Int)≤250)) (by rw[q];rfl)
 exact Pl 3<|ce Z false (by rw[q];rfl)
 refine L0<|Oc<|m2 (aM (((((((x30.l.length:Nat) : Int)%2)==0)&&(decide (2≤((x30.l.length:Nat) : Int))))&&(decide (((x30.l.length:Nat) : Int)≤250)))) 5 s) fun bq aL a0=>?_
 refine ab aL fun aN aO aP=>?_
 refine nt<|go<|Pl 3<|L0<|Oe (.int .i64 (IntKind.i64.wrap (Int.tdiv ((x30.l.length:Nat) : Int) 2))) (.int .i64 (((x30.l.length:Nat) : Int)/2)) (congrArg (Value.int .i64) (mh (by omega) (by omega)))<|L0<|Oc<|mr (cD (n:=(((x30.l.length:Nat) : Int)/2)) aP) fun aR aS br a1 bt bu aT aV=>?_
 refine ab aT fun bv aW aX=>?_
 refine Pl 2<|?_
 have a2:=u1 a0 aV im
 have a3:=aQ a2 (Ne.symm hne) A
 refine L0<|bS a3 12 (mG c 0 0 0 0 0 0 0 C.wordV 0 0 0 (.slice aR ((aN.wordsR (((x30.l.length:Nat) : Int)/2)).length) aS) nS nS nS 0 0 0 0 0 nS) fun bw aY I=>nl<|rm (.tuple #[])<|?_
 subst aW aO z
 have hs:dk dir c C=(((((C.wordsC 1).need ((e4 C.wordV)&&((dir==0)||(C.wordV != 4))) 8).need ((((((((C.wordsC 1).need ((e4 C.wordV)&&((dir==0)||(C.wordV != 4))) 8).l.length:Nat) : Int)%2)==0)&&(decide (2≤((((C.wordsC 1).need ((e4 C.wordV)&&((dir==0)||(C.wordV != 4))) 8).l.length:Nat) : Int))))&&(decide (((((C.wordsC 1).need ((e4 C.wordV)&&((dir==0)||(C.wordV != 4))) 8).l.length:Nat) : Int)≤250))) 5).wordsC (((((C.wordsC 1).need ((e4 C.wordV)&&((dir==0)||(C.wordV != 4))) 8).l.length:Nat) : Int)/2)),(bh.mk c 0 0 0 0 0 0 0 C.wordV 0 0 0 ((((C.wordsC 1).need ((e4 C.wordV)&&((dir==0)||(C.wordV != 4))) 8).need ((((((((C.wordsC 1).need ((e4 C.wordV)&&((dir==0)||(C.wordV != 4))) 8).l.length:Nat) : Int)%2)==0)&&(decide (2≤((((C.wordsC 1).need ((e4 C.wordV)&&((dir==0)||(C.wordV != 4))) 8).l.length:Nat) : Int))))&&(decide (((((C.wordsC 1).need ((e4 C.wordV)&&((dir==0)||(C.wordV != 4))) 8).l.length:Nat) : Int)≤250))) 5).wordsR (((((C.wordsC 1).need ((e4 C.wordV)&&((dir==0)||(C.wordV != 4))) 8).l.length:Nat) : Int)/2)) [] [] [] 0 0 0 0 0 [])):=by
   unfold dk eR jP
   (try simp only[f,bs,if_true,if_false,decide_true,decide_false,reduceIte])
   all_goals rfl
 rw[hs]
 exact⟨rfl,(ae.upd aX I (aa hne av) (ah (aF a3 (by decide)) az)),⟨_,⟨aY,rfl⟩,⟨_,_,_,_,_,rfl,((am a1 I (fun x hx=>(aa (fun e=>(ap (ai hm) (le (le (le (le t.size L.size) r.size) y.size) a0.size) a1) (e▸hx)) av)) (fun _ _ h=>h))).rd,aI.nil ..,aI.nil ..,aI.nil ..,aI.nil ..,⟨(b8 (x:=c) (by omega)),(b8 (x:=0) (by omega)),(aD (x:=0) (by omega)),(aD (x:=0) (by omega)),(aD (x:=0) (by omega)),(aD (x:=0) (by omega)),(aD (x:=0) (by omega)),(aD (x:=0) (by omega)),(aD (x:=C.wordV) (by omega)),(aD (x:=0) (by omega)),(aD (x:=0) (by omega)),(aD (x:=0) (by omega)),(b8 (x:=0) (by omega)),(b8 (x:=0) (by omega)),(b8 (x:=0) (by omega)),(b8 (x:=0) (by omega)),(b8 (x:=0) (by omega))⟩⟩⟩,(ax.mono (S':=[g,gm]) (ut d (us a2 I) (ac im (ac im au))) (rL (Or.inl (by simp)) (Or.inl (by simp))))⟩
theorem ep{g gm:Nat}{c:Int}{C:ak}{w:World}(hcode:B8 c)(hC:ae w g C)(hm:w.heap[gm]? = some (.cells #[.int .u8 c,.int .u8 0,.int .u16 0,.int .u16 0,.int .u16 0,.int .u16 0,.int .u16 0,.int .u16 0,.int .u16 0,.int .u16 0,.int .u16 0,.int .u16 0,.slice none 0 0,.slice none 0 0,.slice none 0 0,.slice none 0 0,.int .u8 0,.int .u8 0,.int .u8 0,.int .u8 0,.int .u8 0,.slice none 0 0] 31 (0,0)))(hne:g≠gm) :
    Calls Tryz.prog 89 #[.pointer (some ⟨g,0,none⟩),.pointer (some ⟨gm,0,none⟩)] w (bE g gm (bu c C).1 (bu c C).2 w):=by
 obtain⟨hcode1,hcode2⟩:=hcode
 have hlen:=hC.len
 refine en 84 Tryz.func89 rfl<|sg<|Pl 3<|L0<|aU hm 0<|nt<|bk<|sg<|Pl 2<|nt<|cb ((c==7)) (fun a=>?_) (fun a=>?_)
 have N:=aB a
 refine go<|Pl 2<|L0<|Oc<|m3 (bo hC) fun aR O m aS=>L0<|vM C.byteV<|Pl 2<|?_
 have o:=aQ m (Ne.symm hne) hm
 refine L0<|bS o 4 (mG c 0 0 0 C.byteV 0 0 0 0 0 0 0 nS nS nS nS 0 0 0 0 0 nS) fun aT P p=>nl<|bn<|rm (.tuple #[])<|?_
 have hs:bu c C=((C.bytesC 1),(bh.mk c 0 0 0 C.byteV 0 0 0 0 0 0 0 [] [] [] [] 0 0 0 0 0 [])):=by
   unfold bu i6 gL
   (try simp only[a,bs,if_true,if_false,decide_true,decide_false,reduceIte])
   all_goals rfl
 rw[hs]
 exact⟨rfl,(ae.upd O p (aa hne av) (ah (aF o (by decide)) az)),⟨_,⟨P,rfl⟩,⟨_,_,_,_,_,rfl,aI.nil ..,aI.nil ..,aI.nil ..,aI.nil ..,aI.nil ..,⟨(b8 (x:=c) (by omega)),(b8 (x:=0) (by omega)),(aD (x:=0) (by omega)),(aD (x:=0) (by omega)),(aD (x:=C.byteV) (by omega)),(aD (x:=0) (by omega)),(aD (x:=0) (by omega)),(aD (x:=0) (by omega)),(aD (x:=0) (by omega)),(aD (x:=0) (by omega)),(aD (x:=0) (by omega)),(aD (x:=0) (by omega)),(b8 (x:=0) (by omega)),(b8 (x:=0) (by omega)),(b8 (x:=0) (by omega)),(b8 (x:=0) (by omega)),(b8 (x:=0) (by omega))⟩⟩⟩,(us m p)⟩
 have N:=aH a
 refine sg<|Pl 2<|nt<|cb ((c==11)) (fun b=>?_) (fun b=>?_)
 have Q:=aB b
 refine sg<|Pl 2<|L0<|Oc<|m3 (jM hC) fun aV R q aW=>Pl 2<|?_
 have r:=aQ q (Ne.symm hne) hm
 refine L0<|bS r 9 (mG c 0 0 0 0 0 0 0 0 C.wordV 0 0 nS nS nS nS 0 0 0 0 0 nS) fun aX S s=>nt<|go<|Pl 2<|?_
 refine L0<|Oc<|m3 (bj (ae.upd R s (aa hne av) (ah (aF r (by decide)) az))) fun aY T t aZ=>Pl 2<|?_
 have u:=aQ t (Ne.symm hne) S
 refine L0<|bS u 10 (mG c 0 0 0 0 0 0 0 0 C.wordV ((cO C).wordV) 0 nS nS nS nS 0 0 0 0 0 nS) fun b0 U v=>nl<|bn<|rm (.tuple #[])<|?_
 have hs:bu c C=(((cO C).wordsC 1),(bh.mk c 0 0 0 0 0 0 0 0 C.wordV ((cO C).wordV) 0 [] [] [] [] 0 0 0 0 0 [])):=by
   unfold bu i6 gL
   (try simp only[a,b,bs,if_true,if_false,decide_true,decide_false,reduceIte])
   all_goals rfl
 rw[hs]
 exact⟨rfl,(ae.upd T v (aa hne av) (ah (aF u (by decide)) az)),⟨_,⟨U,rfl⟩,⟨_,_,_,_,_,rfl,aI.nil ..,aI.nil ..,aI.nil ..,aI.nil ..,aI.nil ..,⟨(b8 (x:=c) (by omega)),(b8 (x:=0) (by omega)),(aD (x:=0) (by omega)),(aD (x:=0) (by omega)),(aD (x:=0) (by omega)),(aD (x:=0) (by omega)),(aD (x:=0) (by omega)),(aD (x:=0) (by omega)),(aD (x:=0) (by omega)),(aD (x:=C.wordV) (by omega)),(aD (x:=(cO C).wordV) (by omega)),(aD (x:=0) (by omega)),(b8 (x:=0) (by omega)),(b8 (x:=0) (by omega)),(b8 (x:=0) (by omega)),(b8 (x:=0) (by omega)),(b8 (x:=0) (by omega))⟩⟩⟩,(ui q (ui s (us t v)))⟩
 have Q:=aH b
 refine sg<|Pl 2<|nt<|cb ((c==12)) (fun d=>?_) (fun d=>?_)
 have V:=aB d
 refine sg<|Pl 1<|L0<|Oc<|m3 (bo hC) fun b1 W X b2=>L0<|Oi C.byteV<|Pl 1<|ng<|Pl 4<|cu 3 [38] 41 (((decide (6≤C.byteV))&&(decide (C.byteV≤70)))) (fun K y=>?_) ?_
 refine bl 38 ((decide (6≤C.byteV))) (fun e=>?_) (fun e=>?_)
 have Y:=of_decide_eq_true e
 exact Pl 3<|ce y (decide (C.byteV≤70)) (by rw[e];rfl)
 have Y:=of_decide_eq_false e
 exact Pl 3<|ce y false (by rw[e];rfl)
 refine L0<|Oc<|m2 (aM (((decide (6≤C.byteV))&&(decide (C.byteV≤70)))) 5 W) fun b3 Z a0=>?_
 refine ab Z fun x53 a1 a2=>?_
 refine ng<|Pl 2<|L0<|Oc<|m3 (jM a2) fun b4 a3 a4 b5=>Pl 2<|?_
 have z:=u1 X (u1 a0 a4 im) im
 have A:=aQ z (Ne.symm hne) hm
 refine L0<|bS A 9 (mG c 0 0 0 0 0 0 0 0 x53.wordV 0 0 nS nS nS nS 0 0 0 0 0 nS) fun b6 a5 B=>ng<|Pl 3<|?_
 refine L0<|Oc<|m3 (bj (ae.upd a3 B (aa hne av) (ah (aF A (by decide)) az))) fun b7 a6 a7 b9=>Pl 1<|L0<|Oc<|m3 (bj a6) fun ba a8 a9 bb=>?_
 refine ab a8 fun mB ac ad=>?_
 refine Pl 2<|?_
 have D:=u1 a7 a9 im
 have E:=aQ D (Ne.symm hne) a5
 refine L0<|bS E 10 (mG c 0 0 0 0 0 0 0 0 x53.wordV ((cO x53).wordV) 0 nS nS nS nS 0 0 0 0 0 nS) fun bc af ag=>Pl 2<|L0<|bS af 11 (mG c 0 0 0 0 0 0 0 0 x53.wordV ((cO x53).wordV) (((cO x53).wordsC 1).wordV) nS nS nS nS 0 0 0 0 0 nS) fun bd ai aj=>nt<|go<|Pl 3<|L0<|Oi (C.byteV-6)<|?_
 have F:=u1 ag aj im
 have G:=ae.upd ad F (aa hne av) (ah (aF E (by decide)) az)
 refine L0<|Oc<|mY (bD (n:=(C.byteV-6)) G) fun al am be an bf bg ao H=>?_
 have bi:=Nat.le_trans (ak.bytesR_le mB (C.byteV-6)) (ae.len G)
 refine Pl 2<|?_
 have i:=aQ H (Ne.symm hne) ai
 refine L0<|bS i 14 (mG c 0 0 0 0 0 0 0 0 x53.wordV ((cO x53).wordV) (((cO x53).wordsC 1).wordV) nS nS (.slice al ((mB.bytesR (C.byteV-6)).length) am) nS 0 0 0 0 0 nS) fun bm ap j=>nl<|bn<|rm (.tuple #[])<|?_
 subst ac a1
 have hs:bu c C=(((((cO ((C.bytesC 1).need ((decide (6≤C.byteV))&&(decide (C.byteV≤70))) 5)).wordsC 1).wordsC 1).bytesC (C.byteV-6)),(bh.mk c 0 0 0 0 0 0 0 0 (((C.bytesC 1).need ((decide (6≤C.byteV))&&(decide (C.byteV≤70))) 5).wordV) ((cO ((C.bytesC 1).need ((decide (6≤C.byteV))&&(decide (C.byteV≤70))) 5)).wordV) (((cO ((C.bytesC 1).need ((decide (6≤C.byteV))&&(decide (C.byteV≤70))) 5)).wordsC 1).wordV) [] [] ((((cO ((C.bytesC 1).need ((decide (6≤C.byteV))&&(decide (C.byteV≤70))) 5)).wordsC 1).wordsC 1).bytesR (C.byteV-6)) [] 0 0 0 0 0 [])):=by
   unfold bu i6 gL
   (try simp only[a,b,d,bs,if_true,if_false,decide_true,decide_false,reduceIte])
   all_goals rfl
 rw[hs]
 exact⟨rfl,(ae.upd ao j (aa hne av) (ah (aF i (by decide)) az)),⟨_,⟨ap,rfl⟩,⟨_,_,_,_,_,rfl,aI.nil ..,aI.nil ..,(aN.upd' an j (ah (aF i (by decide)) az)),aI.nil ..,aI.nil ..,⟨(b8 (x:=c) (by omega)),(b8 (x:=0) (by omega)),(aD (x:=0) (by omega)),(aD (x:=0) (by omega)),(aD (x:=0) (by omega)),(aD (x:=0) (by omega)),(aD (x:=0) (by omega)),(aD (x:=0) (by omega)),(aD (x:=0) (by omega)),(aD (x:=((C.bytesC 1).need ((decide (6≤C.byteV))&&(decide (C.byteV≤70))) 5).wordV) (by omega)),(aD (x:=(cO ((C.bytesC 1).need ((decide (6≤C.byteV))&&(decide (C.byteV≤70))) 5)).wordV) (by omega)),(aD (x:=((cO ((C.bytesC 1).need ((decide (6≤C.byteV))&&(decide (C.byteV≤70))) 5)).wordsC 1).wordV) (by omega)),(b8 (x:=0) (by omega)),(b8 (x:=0) (by omega)),(b8 (x:=0) (by omega)),(b8 (x:=0) (by omega)),(b8 (x:=0) (by omega))⟩⟩⟩,(ui z (ui B (ui D (ui F (us H j)))))⟩
 have V:=aH d
 refine sg<|Pl 2<|nt<|cb ((c==17)) (fun f=>?_) (fun f=>?_)
 have aq:=aB f
 refine sg<|Pl 1<|L0<|Oc<|m3 (bo hC) fun bp ar aw bq=>L0<|Oi C.byteV<|Pl 1<|ng<|Pl 4<|cu 3 [73] 76 (((decide (1≤C.byteV))&&(decide (C.byteV≤251)))) (fun K I=>?_) ?_
 refine bl 73 ((decide (1≤C.byteV))) (fun h=>?_) (fun h=>?_)
 have ay:=of_decide_eq_true h
 exact Pl 3<|ce I (decide (C.byteV≤251)) (by rw[h];rfl)
 have ay:=of_decide_eq_false h
 exact Pl 3<|ce I false (by rw[h];rfl)
 refine L0<|Oc<|m2 (aM (((decide (1≤C.byteV))&&(decide (C.byteV≤251)))) 5 ar) fun br aA aC=>?_
 refine ab aA fun J aE L=>?_
 refine nt<|go<|Pl 3<|L0<|Oc<|mY (bD (n:=C.byteV) L) fun aG aJ bt aK bv bw aL aO=>?_
 have bx:=Nat.le_trans (ak.bytesR_le J C.byteV) (ae.len L)
 refine Pl 2<|?_
 have M:=u1 aw (u1 aC aO im) im
 have k:=aQ M (Ne.symm hne) hm
 refine L0<|bS k 14 (mG c 0 0 0 0 0 0 0 0 0 0 0 nS nS (.slice aG ((J.bytesR C.byteV).length) aJ) nS 0 0 0 0 0 nS) fun bz aP l=>nl<|bn<|rm (.tuple #[])<|?_
 subst aE
 have hs:bu c C=((((C.bytesC 1).need ((decide (1≤C.byteV))&&(decide (C.byteV≤251))) 5).bytesC C.byteV),(bh.mk c 0 0 0 0 0 0 0 0 0 0 0 [] [] (((C.bytesC 1).need ((decide (1≤C.byteV))&&(decide (C.byteV≤251))) 5).bytesR C.byteV) [] 0 0 0 0 0 [])):=by
   unfold bu i6 gL
   (try simp only[a,b,d,f,bs,if_true,if_false,decide_true,decide_false,reduceIte])
   all_goals rfl
 rw[hs]
 exact⟨rfl,(ae.upd aL l (aa hne av) (ah (aF k (by decide)) az)),⟨_,⟨aP,rfl⟩,⟨_,_,_,_,_,rfl,aI.nil ..,aI.nil ..,(aN.upd' aK l (ah (aF k (by decide)) az)),aI.nil ..,aI.nil ..,⟨(b8 (x:=c) (by omega)),(b8 (x:=0) (by omega)),(aD (x:=0) (by omega)),(aD (x:=0) (by omega)),(aD (x:=0) (by omega)),(aD (x:=0) (by omega)),(aD (x:=0) (by omega)),(aD (x:=0) (by omega)),(aD (x:=0) (by omega)),(aD (x:=0) (by omega)),(aD (x:=0) (by omega)),(aD (x:=0) (by omega)),(b8 (x:=0) (by omega)),(b8 (x:=0) (by omega)),(b8 (x:=0) (by omega)),(b8 (x:=0) (by omega)),(b8 (x:=0) (by omega))⟩⟩⟩,(us M l)⟩
 have aq:=aH f
 refine sk<|bn<|rm (.tuple #[])<|?_
 have hs:bu c C=(C,(bh.mk c 0 0 0 0 0 0 0 0 0 0 0 [] [] [] [] 0 0 0 0 0 [])):=by
   unfold bu i6 gL
   (try simp only[a,b,d,f,bs,if_true,if_false,decide_true,decide_false,reduceIte])
   all_goals rfl
 rw[hs]
 exact⟨rfl,hC,⟨_,⟨hm,rfl⟩,⟨_,_,_,_,_,rfl,aI.nil ..,aI.nil ..,aI.nil ..,aI.nil ..,aI.nil ..,⟨(b8 (x:=c) (by omega)),(b8 (x:=0) (by omega)),(aD (x:=0) (by omega)),(aD (x:=0) (by omega)),(aD (x:=0) (by omega)),(aD (x:=0) (by omega)),(aD (x:=0) (by omega)),(aD (x:=0) (by omega)),(aD (x:=0) (by omega)),(aD (x:=0) (by omega)),(aD (x:=0) (by omega)),(aD (x:=0) (by omega)),(b8 (x:=0) (by omega)),(b8 (x:=0) (by omega)),(b8 (x:=0) (by omega)),(b8 (x:=0) (by omega)),(b8 (x:=0) (by omega))⟩⟩⟩,(ax.mono (S':=[g,gm]) (ax.refl [] _) au)⟩
open Go.RowKit
def aK (dir c:Int)(C:ak) : Option (ak × bh) :=
  if c==8 then some (dk dir c C)
  else if c==7 || c==11 || c==12 || c==17 then (if dir==1 then some (bu c C) else some (C,{ bh.zero with code:=c }))
  else none
theorem iZ{m:Bool}{A:Option Addr}{cp:Nat}{b:List Int}{w:World}{c:Int}(hcode:B8 c)(hsl:aN m w (.slice A b.length cp) b)(hb:b.length≤1048576) :
    Calls Tryz.prog 62 #[.int .i64 0,.int .u8 c,.slice A b.length cp] w (cM (al aK 0 c b) w):=by
 obtain⟨hcode1,hcode2⟩:=hcode
 have hln:(b.length:Int)≤1048576:=by omega
 refine en 47 Tryz.func62 rfl<|sg<|L0<|bB mZ fun b4 b5 j i O=>Pl 1<|nt<|sq<|sg<|Pl 6<|nt<|c0<|?_
 refine bC<|sg<|Pl 2<|L0<|bB mZ fun b6 ba q P aa=>L0<|be P (mC c) fun bb r Q=>ng<|Pl 1<|?_
 have g:=ud aa Q q
 have n:=aG O g
 refine L0<|Oc<|e3 (ca (aN.old hsl n) (by omega)) fun bc bd a s d=>Pl 1<|nt<|sq<|sg<|Pl 1<|nt<|bk<|sg<|Pl 2<|nl<|?_
 refine tn<|?_
 have o:=aG n d
 refine cb ((c==8)) (fun f=>?_) (fun f=>?_)
 have ad:=aB f
 refine go<|Pl 2<|?_
 have R:=nb (ai P) Q.size a
 refine L0<|Oc<|m3 (kv (dir:=0) (c:=c) ⟨hcode1,hcode2⟩ s (ub d r) (Ne.symm R)) fun bf af aj S=>?_
 obtain⟨am,B,C⟩:=aj
 refine ab af fun x41 T U=>?_
 refine nl<|bn<|tn<|sg<|Pl 1<|L0<|Oc<|m2 (bA U) fun bg V D=>nt<|sq<|sg<|Pl 1<|L0<|Oc<|mq (b7 V)<|?_
 have bi:=ae.len V
 refine Pl 1<|ng<|Pl 2<|nt<|?_
 have E:=u1 S D im
 have W:=ut o E (ac (ni n.size a) (ac (ni O.size q) au))
 refine cb ((x41.endC.e != 0)) (fun t=>?_) (fun t=>?_)
 have F:=ay t
 refine sg<|Pl 2<|?_
 refine L0<|be (ub (ud g (ud d E a) q) i) mZ fun bj an ao=>Pl 1<|nt<|rt<|tr<|c9 an (.int .i64 x41.endC.e)<|?_
 subst T
 have hs:al aK 0 c b=aT ((dk 0 c (ak.mk b false 0)).2) ((dk 0 c (ak.mk b false 0)).1):=by
   unfold al aK
   (try simp only[f,t,bs,if_true,if_false,decide_true,decide_false,eq_self,true_or,or_true,or_false,false_or,if_true,if_false,cG,cC,cH,cE,reduceIte])
   all_goals rfl
 rw[hs]
 exact aV F (ud W ao j)
 have F:=ag t
 refine bC<|sg<|?_
 refine L0<|c7 (hz:=(by rw[B.2];exact aS)) (aQ D R B.1)<|?_
 refine L0<|be (hz:=(by rw[B.2];exact aS)) (hv:=C.size) (h1:=C.one) (ub (ud g (ud d E a) q) i) (am) fun bl ap X=>Pl 1<|nt<|rt<|dF 22 B.2 ap (.int .i64 0)<|?_
 subst T
 have hs:al aK 0 c b=aT ((dk 0 c (ak.mk b false 0)).2) ((dk 0 c (ak.mk b false 0)).1):=by
   unfold al aK
   (try simp only[f,t,bs,if_true,if_false,decide_true,decide_false,eq_self,true_or,or_true,or_false,false_or,if_true,if_false,cG,cC,cH,cE,reduceIte])
   all_goals rfl
 rw[hs]
 exact b9 F (aX.upd C (us D X) (ah (ae.safe U _ (by decide)) (ah (aF (ub (ud g (ud d S a) q) i) (by decide)) az))) (ud W X j)
 have ad:=aH f
 refine sq<|sg<|Pl 2<|nt<|cb ((c==7)) (fun h=>?_) (fun h=>?_)
 have aq:=aB h
 refine bC<|ct h<|sg<|Pl 2<|nt<|c0<|sk<|bn<|tn<|sg<|?_
 refine Pl 1<|L0<|Oc<|m2 (bA s) fun bm Y G=>nt<|sq<|sg<|Pl 1<|L0<|Oc<|mq (b7 Y)<|?_
 have bo:=ae.len Y
 refine Pl 1<|ng<|Pl 2<|nt<|?_
 have Z:=ud o G (le n.size a)
 refine cb (((((ak.mk b false 0).endC).e)!=0)) (fun u=>?_) (fun u=>?_)
 have H:=ay u
 refine sg<|Pl 2<|?_
 refine L0<|be (ub (aG g (ud d G a)) i) mZ fun bp ar av=>Pl 1<|nt<|rt<|tr<|c9 ar (.int .i64 (((ak.mk b false 0).endC).e))<|?_
 have hs:al aK 0 c b=aT (bh.mk c 0 0 0 0 0 0 0 0 0 0 0 [] [] [] [] 0 0 0 0 0 []) (ak.mk b false 0):=by
   unfold al aK
   (try simp only[f,h,u,bs,if_true,if_false,decide_true,decide_false,eq_self,true_or,or_true,or_false,false_or,if_true,if_false,cG,cC,cH,cE,reduceIte])
   all_goals rfl
 rw[hs]
 exact aV H (ud Z av j)
 have H:=ag u
 refine bC<|sg<|?_
 have a0:=ud d G a
 refine L0<|c7 (ub a0 r)<|?_
 refine L0<|be (ub (aG g a0) i) (mC c) fun bq aw ax=>Pl 1<|nt<|rt<|c9 aw (.int .i64 0)<|?_
 have hs:al aK 0 c b=aT (bh.mk c 0 0 0 0 0 0 0 0 0 0 0 [] [] [] [] 0 0 0 0 0 []) (ak.mk b false 0):=by
   unfold al aK
   (try simp only[f,h,u,bs,if_true,if_false,decide_true,decide_false,eq_self,true_or,or_true,or_false,false_or,if_true,if_false,cG,cC,cH,cE,reduceIte])
   all_goals rfl
 rw[hs]
 exact b9 H ⟨_,_,_,_,_,rfl,aI.nil ..,aI.nil ..,aI.nil ..,aI.nil ..,aI.nil ..,⟨(b8 (x:=c) (by omega)),(b8 (x:=0) (by omega)),(aD (x:=0) (by omega)),(aD (x:=0) (by omega)),(aD (x:=0) (by omega)),(aD (x:=0) (by omega)),(aD (x:=0) (by omega)),(aD (x:=0) (by omega)),(aD (x:=0) (by omega)),(aD (x:=0) (by omega)),(aD (x:=0) (by omega)),(aD (x:=0) (by omega)),(b8 (x:=0) (by omega)),(b8 (x:=0) (by omega)),(b8 (x:=0) (by omega)),(b8 (x:=0) (by omega)),(b8 (x:=0) (by omega))⟩⟩ (ud Z ax j)
 have aq:=aH h
 refine sg<|Pl 2<|nt<|cb ((c==11)) (fun k=>?_) (fun k=>?_)
 have aA:=aB k
 refine bC<|ct k<|sg<|Pl 2<|nt<|c0<|sk<|bn<|tn<|sg<|?_
 refine Pl 1<|L0<|Oc<|m2 (bA s) fun bt a1 I=>nt<|sq<|sg<|Pl 1<|L0<|Oc<|mq (b7 a1)<|?_
 have bu:=ae.len a1
 refine Pl 1<|ng<|Pl 2<|nt<|?_
 have a2:=ud o I (le n.size a)
 refine cb (((((ak.mk b false 0).endC).e)!=0)) (fun v=>?_) (fun v=>?_)
 have J:=ay v
 refine sg<|Pl 2<|?_
 refine L0<|be (ub (aG g (ud d I a)) i) mZ fun bv aC aE=>Pl 1<|nt<|rt<|tr<|c9 aC (.int .i64 (((ak.mk b false 0).endC).e))<|?_
 have hs:al aK 0 c b=aT (bh.mk c 0 0 0 0 0 0 0 0 0 0 0 [] [] [] [] 0 0 0 0 0 []) (ak.mk b false 0):=by
   unfold al aK
   (try simp only[f,h,k,v,bs,if_true,if_false,decide_true,decide_false,eq_self,true_or,or_true,or_false,false_or,if_true,if_false,cG,cC,cH,cE,reduceIte])
   all_goals rfl
 rw[hs]
 exact aV J (ud a2 aE j)
 have J:=ag v
 refine bC<|sg<|?_
 have a3:=ud d I a
 refine L0<|c7 (ub a3 r)<|?_
 refine L0<|be (ub (aG g a3) i) (mC c) fun bw aJ aL=>Pl 1<|nt<|rt<|c9 aJ (.int .i64 0)<|?_
 have hs:al aK 0 c b=aT (bh.mk c 0 0 0 0 0 0 0 0 0 0 0 [] [] [] [] 0 0 0 0 0 []) (ak.mk b false 0):=by
   unfold al aK
   (try simp only[f,h,k,v,bs,if_true,if_false,decide_true,decide_false,eq_self,true_or,or_true,or_false,false_or,if_true,if_false,cG,cC,cH,cE,reduceIte])
   all_goals rfl
 rw[hs]
 exact b9 J ⟨_,_,_,_,_,rfl,aI.nil ..,aI.nil ..,aI.nil ..,aI.nil ..,aI.nil ..,⟨(b8 (x:=c) (by omega)),(b8 (x:=0) (by omega)),(aD (x:=0) (by omega)),(aD (x:=0) (by omega)),(aD (x:=0) (by omega)),(aD (x:=0) (by omega)),(aD (x:=0) (by omega)),(aD (x:=0) (by omega)),(aD (x:=0) (by omega)),(aD (x:=0) (by omega)),(aD (x:=0) (by omega)),(aD (x:=0) (by omega)),(b8 (x:=0) (by omega)),(b8 (x:=0) (by omega)),(b8 (x:=0) (by omega)),(b8 (x:=0) (by omega)),(b8 (x:=0) (by omega))⟩⟩ (ud a2 aL j)
 have aA:=aH k
 refine sg<|Pl 2<|nt<|cb ((c==12)) (fun l=>?_) (fun l=>?_)
 have aM:=aB l
 refine bC<|ct l<|sg<|Pl 2<|nt<|c0<|sk<|bn<|tn<|sg<|?_
 refine Pl 1<|L0<|Oc<|m2 (bA s) fun bx a4 K=>nt<|sq<|sg<|Pl 1<|L0<|Oc<|mq (b7 a4)<|?_
 have bz:=ae.len a4
 refine Pl 1<|ng<|Pl 2<|nt<|?_
 have a5:=ud o K (le n.size a)
 refine cb (((((ak.mk b false 0).endC).e)!=0)) (fun y=>?_) (fun y=>?_)
 have L:=ay y
 refine sg<|Pl 2<|?_
 refine L0<|be (ub (aG g (ud d K a)) i) mZ fun bD aO aP=>Pl 1<|nt<|rt<|tr<|c9 aO (.int .i64 (((ak.mk b false 0).endC).e))<|?_
 have hs:al aK 0 c b=aT (bh.mk c 0 0 0 0 0 0 0 0 0 0 0 [] [] [] [] 0 0 0 0 0 []) (ak.mk b false 0):=by
   unfold al aK
   (try simp only[f,h,k,l,y,bs,if_true,if_false,decide_true,decide_false,eq_self,true_or,or_true,or_false,false_or,if_true,if_false,cG,cC,cH,cE,reduceIte])
   all_goals rfl
 rw[hs]
 exact aV L (ud a5 aP j)
 have L:=ag y
 refine bC<|sg<|?_
 have a6:=ud d K a
 refine L0<|c7 (ub a6 r)<|?_
 refine L0<|be (ub (aG g a6) i) (mC c) fun bE aR aU=>Pl 1<|nt<|rt<|c9 aR (.int .i64 0)<|?_
 have hs:al aK 0 c b=aT (bh.mk c 0 0 0 0 0 0 0 0 0 0 0 [] [] [] [] 0 0 0 0 0 []) (ak.mk b false 0):=by
   unfold al aK
   (try simp only[f,h,k,l,y,bs,if_true,if_false,decide_true,decide_false,eq_self,true_or,or_true,or_false,false_or,if_true,if_false,cG,cC,cH,cE,reduceIte])
   all_goals rfl
 rw[hs]
 exact b9 L ⟨_,_,_,_,_,rfl,aI.nil ..,aI.nil ..,aI.nil ..,aI.nil ..,aI.nil ..,⟨(b8 (x:=c) (by omega)),(b8 (x:=0) (by omega)),(aD (x:=0) (by omega)),(aD (x:=0) (by omega)),(aD (x:=0) (by omega)),(aD (x:=0) (by omega)),(aD (x:=0) (by omega)),(aD (x:=0) (by omega)),(aD (x:=0) (by omega)),(aD (x:=0) (by omega)),(aD (x:=0) (by omega)),(aD (x:=0) (by omega)),(b8 (x:=0) (by omega)),(b8 (x:=0) (by omega)),(b8 (x:=0) (by omega)),(b8 (x:=0) (by omega)),(b8 (x:=0) (by omega))⟩⟩ (ud a5 aU j)
 have aM:=aH l
 refine go<|Pl 2<|nt<|cb ((c==17)) (fun p=>?_) (fun p=>?_)
 have aW:=aB p
 refine sg<|Pl 2<|nt<|c0<|sk<|bn<|tn<|sg<|Pl 1<|L0<|Oc<|m2 (bA s) fun bG a7 M=>nl<|?_
 refine tn<|sq<|sg<|Pl 1<|L0<|Oc<|mq (b7 a7)<|?_
 have bH:=ae.len a7
 refine Pl 1<|ng<|Pl 2<|nt<|?_
 have a8:=ud o M (le n.size a)
 refine cb (((((ak.mk b false 0).endC).e)!=0)) (fun z=>?_) (fun z=>?_)
 have N:=ay z
 refine sg<|Pl 2<|?_
 refine L0<|be (ub (aG g (ud d M a)) i) mZ fun bI aY aZ=>Pl 1<|nt<|rt<|tr<|c9 aY (.int .i64 (((ak.mk b false 0).endC).e))<|?_
 have hs:al aK 0 c b=aT (bh.mk c 0 0 0 0 0 0 0 0 0 0 0 [] [] [] [] 0 0 0 0 0 []) (ak.mk b false 0):=by
   unfold al aK
   (try simp only[f,h,k,l,p,z,bs,if_true,if_false,decide_true,decide_false,eq_self,true_or,or_true,or_false,false_or,if_true,if_false,cG,cC,cH,cE,reduceIte])
   all_goals rfl
 rw[hs]
 exact aV N (ud a8 aZ j)
 have N:=ag z
 refine bC<|sg<|?_
 have a9:=ud d M a
 refine L0<|c7 (ub a9 r)<|?_
 refine L0<|be (ub (aG g a9) i) (mC c) fun bJ b0 b1=>Pl 1<|nt<|rt<|c9 b0 (.int .i64 0)<|?_
 have hs:al aK 0 c b=aT (bh.mk c 0 0 0 0 0 0 0 0 0 0 0 [] [] [] [] 0 0 0 0 0 []) (ak.mk b false 0):=by
   unfold al aK
   (try simp only[f,h,k,l,p,z,bs,if_true,if_false,decide_true,decide_false,eq_self,true_or,or_true,or_false,false_or,if_true,if_false,cG,cC,cH,cE,reduceIte])
   all_goals rfl
 rw[hs]
 exact b9 N ⟨_,_,_,_,_,rfl,aI.nil ..,aI.nil ..,aI.nil ..,aI.nil ..,aI.nil ..,⟨(b8 (x:=c) (by omega)),(b8 (x:=0) (by omega)),(aD (x:=0) (by omega)),(aD (x:=0) (by omega)),(aD (x:=0) (by omega)),(aD (x:=0) (by omega)),(aD (x:=0) (by omega)),(aD (x:=0) (by omega)),(aD (x:=0) (by omega)),(aD (x:=0) (by omega)),(aD (x:=0) (by omega)),(aD (x:=0) (by omega)),(b8 (x:=0) (by omega)),(b8 (x:=0) (by omega)),(b8 (x:=0) (by omega)),(b8 (x:=0) (by omega)),(b8 (x:=0) (by omega))⟩⟩ (ud a8 b1 j)
 have aW:=aH p
 refine sg<|Pl 1<|?_
 refine L0<|be (ub (aG g d) i) mZ fun bK b2 b3=>Pl 1<|nt<|rt<|br<|tr<|c9 b2 (.int .i64 4)<|?_
 have hs:al aK 0 c b=(bh.zero,4):=by
   unfold al aK
   (try simp only[f,h,k,l,p,bs,if_true,if_false,decide_true,decide_false,eq_self,true_or,or_true,or_false,false_or,if_true,if_false,cG,cC,cH,cE,reduceIte])
   all_goals rfl
 rw[hs]
 exact bF (ud o b3 j)
theorem jo{m:Bool}{A:Option Addr}{cp:Nat}{b:List Int}{w:World}{c:Int}(hcode:B8 c)(hsl:aN m w (.slice A b.length cp) b)(hb:b.length≤1048576) :
    Calls Tryz.prog 62 #[.int .i64 1,.int .u8 c,.slice A b.length cp] w (cM (al aK 1 c b) w):=by
 obtain⟨hcode1,hcode2⟩:=hcode
 have hln:(b.length:Int)≤1048576:=by omega
 refine en 47 Tryz.func62 rfl<|sg<|L0<|bB mZ fun bS bT k h p=>Pl 1<|nt<|sq<|sg<|Pl 6<|nt<|c0<|?_
 refine bC<|sg<|Pl 2<|L0<|bB mZ fun bU bV f q b2=>L0<|be q (mC c) fun bW u r=>ng<|Pl 1<|?_
 have g:=ud b2 r f
 have o:=aG p g
 refine L0<|Oc<|e3 (ca (aN.old hsl o) (by omega)) fun bX bY a v d=>Pl 1<|nt<|sq<|sg<|Pl 1<|nt<|bk<|sg<|Pl 2<|nl<|?_
 refine tn<|?_
 have s:=aG o d
 refine cb ((c==8)) (fun i=>?_) (fun i=>?_)
 have b3:=aB i
 refine go<|Pl 2<|?_
 have a2:=nb (ai q) r.size a
 refine L0<|Oc<|m3 (kv (dir:=1) (c:=c) ⟨hcode1,hcode2⟩ v (ub d u) (Ne.symm a2)) fun bZ b4 b5 a3=>?_
 obtain⟨b6,D,I⟩:=b5
 refine ab b4 fun x41 a4 a5=>?_
 refine nl<|bn<|tn<|sg<|Pl 1<|L0<|Oc<|m2 (bA a5) fun c2 a6 J=>nt<|sq<|sg<|Pl 1<|L0<|Oc<|mq (b7 a6)<|?_
 have c3:=ae.len a6
 refine Pl 1<|ng<|Pl 2<|nt<|?_
 have K:=u1 a3 J im
 have a7:=ut s K (ac (ni o.size a) (ac (ni p.size f) au))
 refine cb ((x41.endC.e != 0)) (fun x=>?_) (fun x=>?_)
 have L:=ay x
 refine sg<|Pl 2<|?_
 refine L0<|be (ub (ud g (ud d K a) f) h) mZ fun c4 b8 ba=>Pl 1<|nt<|rt<|tr<|c9 b8 (.int .i64 x41.endC.e)<|?_
 subst a4
 have hs:al aK 1 c b=aT ((dk 1 c (ak.mk b false 0)).2) ((dk 1 c (ak.mk b false 0)).1):=by
   unfold al aK
   (try simp only[i,x,bs,if_true,if_false,decide_true,decide_false,eq_self,true_or,or_true,or_false,false_or,if_true,if_false,cG,cC,cH,cE,reduceIte])
   all_goals rfl
 rw[hs]
 exact aV L (ud a7 ba k)
 have L:=ag x
 refine bC<|sg<|?_
 refine L0<|c7 (hz:=(by rw[D.2];exact aS)) (aQ J a2 D.1)<|?_
 refine L0<|be (hz:=(by rw[D.2];exact aS)) (hv:=I.size) (h1:=I.one) (ub (ud g (ud d K a) f) h) (b6) fun c5 bb a8=>Pl 1<|nt<|rt<|dF 22 D.2 bb (.int .i64 0)<|?_
 subst a4
 have hs:al aK 1 c b=aT ((dk 1 c (ak.mk b false 0)).2) ((dk 1 c (ak.mk b false 0)).1):=by
   unfold al aK
   (try simp only[i,x,bs,if_true,if_false,decide_true,decide_false,eq_self,true_or,or_true,or_false,false_or,if_true,if_false,cG,cC,cH,cE,reduceIte])
   all_goals rfl
 rw[hs]
 exact b9 L (aX.upd I (us J a8) (ah (ae.safe a5 _ (by decide)) (ah (aF (ub (ud g (ud d a3 a) f) h) (by decide)) az))) (ud a7 a8 k)
 have b3:=aH i
 refine sq<|sg<|Pl 2<|nt<|cb ((c==7)) (fun j=>?_) (fun j=>?_)
 have bc:=aB j
 refine bC<|ct j<|sg<|Pl 2<|nt<|c1<|go<|Pl 1<|?_
 have a9:=nb (ai q) r.size a
 refine L0<|Oc<|m3 (ep (c:=c) ⟨hcode1,hcode2⟩ v (ub d u) (Ne.symm a9)) fun c6 bd bf aa=>?_
 obtain⟨bg,E,M⟩:=bf
 refine ab bd fun x81 ad af=>?_
 refine nl<|bn<|tn<|sg<|Pl 1<|L0<|Oc<|m2 (bA af) fun c8 aj N=>nt<|sq<|sg<|Pl 1<|L0<|Oc<|mq (b7 aj)<|?_
 have cc:=ae.len aj
 refine Pl 1<|ng<|Pl 2<|nt<|?_
 have O:=u1 aa N im
 have am:=ut s O (ac (ni o.size a) (ac (ni p.size f) au))
 refine cb ((x81.endC.e != 0)) (fun y=>?_) (fun y=>?_)
 have P:=ay y
 refine sg<|Pl 2<|?_
 refine L0<|be (ub (ud g (ud d O a) f) h) mZ fun cd bi bj=>Pl 1<|nt<|rt<|tr<|c9 bi (.int .i64 x81.endC.e)<|?_
 subst ad
 have hs:al aK 1 c b=aT ((bu c (ak.mk b false 0)).2) ((bu c (ak.mk b false 0)).1):=by
   unfold al aK
   (try simp only[i,j,y,bs,if_true,if_false,decide_true,decide_false,eq_self,true_or,or_true,or_false,false_or,if_true,if_false,cG,cC,cH,cE,reduceIte])
   all_goals rfl
 rw[hs]
 exact aV P (ud am bj k)
 have P:=ag y
 refine bC<|sg<|?_
 refine L0<|c7 (hz:=(by rw[E.2];exact aS)) (aQ N a9 E.1)<|?_
 refine L0<|be (hz:=(by rw[E.2];exact aS)) (hv:=M.size) (h1:=M.one) (ub (ud g (ud d O a) f) h) (bg) fun ce bl an=>Pl 1<|nt<|rt<|dF 22 E.2 bl (.int .i64 0)<|?_
 subst ad
 have hs:al aK 1 c b=aT ((bu c (ak.mk b false 0)).2) ((bu c (ak.mk b false 0)).1):=by
   unfold al aK
   (try simp only[i,j,y,bs,if_true,if_false,decide_true,decide_false,eq_self,true_or,or_true,or_false,false_or,if_true,if_false,cG,cC,cH,cE,reduceIte])
   all_goals rfl
 rw[hs]
 exact b9 P (aX.upd M (us N an) (ah (ae.safe af _ (by decide)) (ah (aF (ub (ud g (ud d aa a) f) h) (by decide)) az))) (ud am an k)
 have bc:=aH j
 refine sg<|Pl 2<|nt<|cb ((c==11)) (fun l=>?_) (fun l=>?_)
 have bm:=aB l
 refine bC<|ct l<|sg<|Pl 2<|nt<|c1<|go<|Pl 1<|?_
 have ao:=nb (ai q) r.size a
 refine L0<|Oc<|m3 (ep (c:=c) ⟨hcode1,hcode2⟩ v (ub d u) (Ne.symm ao)) fun cf bo bp ap=>?_
 obtain⟨bq,F,Q⟩:=bp
 refine ab bo fun aq ar av=>?_
 refine nl<|bn<|tn<|sg<|Pl 1<|L0<|Oc<|m2 (bA av) fun cg aw R=>nt<|sq<|sg<|Pl 1<|L0<|Oc<|mq (b7 aw)<|?_
 have ch:=ae.len aw
 refine Pl 1<|ng<|Pl 2<|nt<|?_
 have S:=u1 ap R im
 have ax:=ut s S (ac (ni o.size a) (ac (ni p.size f) au))
 refine cb ((aq.endC.e != 0)) (fun z=>?_) (fun z=>?_)
 have T:=ay z
 refine sg<|Pl 2<|?_
 refine L0<|be (ub (ud g (ud d S a) f) h) mZ fun ci bt bv=>Pl 1<|nt<|rt<|tr<|c9 bt (.int .i64 aq.endC.e)<|?_
 subst ar
 have hs:al aK 1 c b=aT ((bu c (ak.mk b false 0)).2) ((bu c (ak.mk b false 0)).1):=by
   unfold al aK
   (try simp only[i,j,l,z,bs,if_true,if_false,decide_true,decide_false,eq_self,true_or,or_true,or_false,false_or,if_true,if_false,cG,cC,cH,cE,reduceIte])
   all_goals rfl
 rw[hs]
 exact aV T (ud ax bv k)
 have T:=ag z
 refine bC<|sg<|?_
 refine L0<|c7 (hz:=(by rw[F.2];exact aS)) (aQ R ao F.1)<|?_
 refine L0<|be (hz:=(by rw[F.2];exact aS)) (hv:=Q.size) (h1:=Q.one) (ub (ud g (ud d S a) f) h) (bq) fun cj bw aA=>Pl 1<|nt<|rt<|dF 22 F.2 bw (.int .i64 0)<|?_
 subst ar
 have hs:al aK 1 c b=aT ((bu c (ak.mk b false 0)).2) ((bu c (ak.mk b false 0)).1):=by
   unfold al aK
   (try simp only[i,j,l,z,bs,if_true,if_false,decide_true,decide_false,eq_self,true_or,or_true,or_false,false_or,if_true,if_false,cG,cC,cH,cE,reduceIte])
   all_goals rfl
 rw[hs]
 exact b9 T (aX.upd Q (us R aA) (ah (ae.safe av _ (by decide)) (ah (aF (ub (ud g (ud d ap a) f) h) (by decide)) az))) (ud ax aA k)
 have bm:=aH l
 refine sg<|Pl 2<|nt<|cb ((c==12)) (fun n=>?_) (fun n=>?_)
 have bx:=aB n
 refine bC<|ct n<|sg<|Pl 2<|nt<|c1<|go<|Pl 1<|?_
 have aC:=nb (ai q) r.size a
 refine L0<|Oc<|m3 (ep (c:=c) ⟨hcode1,hcode2⟩ v (ub d u) (Ne.symm aC)) fun ck bz bD aD=>?_
 obtain⟨bE,G,U⟩:=bD
 refine ab bz fun aE aI aJ=>?_
 refine nl<|bn<|tn<|sg<|Pl 1<|L0<|Oc<|m2 (bA aJ) fun cl aL V=>nt<|sq<|sg<|Pl 1<|L0<|Oc<|mq (b7 aL)<|?_
 have cm:=ae.len aL
 refine Pl 1<|ng<|Pl 2<|nt<|?_
 have W:=u1 aD V im
 have aM:=ut s W (ac (ni o.size a) (ac (ni p.size f) au))
 refine cb ((aE.endC.e != 0)) (fun B=>?_) (fun B=>?_)
 have X:=ay B
 refine sg<|Pl 2<|?_
 refine L0<|be (ub (ud g (ud d W a) f) h) mZ fun cn bG bH=>Pl 1<|nt<|rt<|tr<|c9 bG (.int .i64 aE.endC.e)<|?_
 subst aI
 have hs:al aK 1 c b=aT ((bu c (ak.mk b false 0)).2) ((bu c (ak.mk b false 0)).1):=by
   unfold al aK
   (try simp only[i,j,l,n,B,bs,if_true,if_false,decide_true,decide_false,eq_self,true_or,or_true,or_false,false_or,if_true,if_false,cG,cC,cH,cE,reduceIte])
   all_goals rfl
 rw[hs]
 exact aV X (ud aM bH k)
 have X:=ag B
 refine bC<|sg<|?_
 refine L0<|c7 (hz:=(by rw[G.2];exact aS)) (aQ V aC G.1)<|?_
 refine L0<|be (hz:=(by rw[G.2];exact aS)) (hv:=U.size) (h1:=U.one) (ub (ud g (ud d W a) f) h) (bE) fun co bI aO=>Pl 1<|nt<|rt<|dF 22 G.2 bI (.int .i64 0)<|?_
 subst aI
 have hs:al aK 1 c b=aT ((bu c (ak.mk b false 0)).2) ((bu c (ak.mk b false 0)).1):=by
   unfold al aK
   (try simp only[i,j,l,n,B,bs,if_true,if_false,decide_true,decide_false,eq_self,true_or,or_true,or_false,false_or,if_true,if_false,cG,cC,cH,cE,reduceIte])
   all_goals rfl
 rw[hs]
 exact b9 X (aX.upd U (us V aO) (ah (ae.safe aJ _ (by decide)) (ah (aF (ub (ud g (ud d aD a) f) h) (by decide)) az))) (ud aM aO k)
 have bx:=aH n
 refine go<|Pl 2<|nt<|cb ((c==17)) (fun t=>?_) (fun t=>?_)
 have bJ:=aB t
 refine sg<|Pl 2<|nt<|c1<|go<|Pl 1<|?_
 have aP:=nb (ai q) r.size a
 refine L0<|Oc<|m3 (ep (c:=c) ⟨hcode1,hcode2⟩ v (ub d u) (Ne.symm aP)) fun cq bK bL aR=>?_
 obtain⟨bM,H,Y⟩:=bL
 refine ab bK fun aU aW aY=>?_
 refine nl<|bn<|tn<|sg<|Pl 1<|L0<|Oc<|m2 (bA aY) fun cr aZ Z=>nt<|sq<|sg<|Pl 1<|L0<|Oc<|mq (b7 aZ)<|?_
 have cs:=ae.len aZ
 refine Pl 1<|ng<|Pl 2<|nt<|?_
 have a0:=u1 aR Z im
 have b0:=ut s a0 (ac (ni o.size a) (ac (ni p.size f) au))
 refine cb ((aU.endC.e != 0)) (fun C=>?_) (fun C=>?_)
 have a1:=ay C
 refine sg<|Pl 2<|?_
 refine L0<|be (ub (ud g (ud d a0 a) f) h) mZ fun cu bN bO=>Pl 1<|nt<|rt<|tr<|c9 bN (.int .i64 aU.endC.e)<|?_
 subst aW
 have hs:al aK 1 c b=aT ((bu c (ak.mk b false 0)).2) ((bu c (ak.mk b false 0)).1):=by
   unfold al aK
   (try simp only[i,j,l,n,t,C,bs,if_true,if_false,decide_true,decide_false,eq_self,true_or,or_true,or_false,false_or,if_true,if_false,cG,cC,cH,cE,reduceIte])
   all_goals rfl
 rw[hs]
 exact aV a1 (ud b0 bO k)
 have a1:=ag C
 refine bC<|sg<|?_
 refine L0<|c7 (hz:=(by rw[H.2];exact aS)) (aQ Z aP H.1)<|?_
 refine L0<|be (hz:=(by rw[H.2];exact aS)) (hv:=Y.size) (h1:=Y.one) (ub (ud g (ud d a0 a) f) h) (bM) fun cv bP b1=>Pl 1<|nt<|rt<|dF 22 H.2 bP (.int .i64 0)<|?_
 subst aW
 have hs:al aK 1 c b=aT ((bu c (ak.mk b false 0)).2) ((bu c (ak.mk b false 0)).1):=by
   unfold al aK
   (try simp only[i,j,l,n,t,C,bs,if_true,if_false,decide_true,decide_false,eq_self,true_or,or_true,or_false,false_or,if_true,if_false,cG,cC,cH,cE,reduceIte])
   all_goals rfl
 rw[hs]
 exact b9 a1 (aX.upd Y (us Z b1) (ah (ae.safe aY _ (by decide)) (ah (aF (ub (ud g (ud d aR a) f) h) (by decide)) az))) (ud b0 b1 k)
 have bJ:=aH t
 refine sg<|Pl 1<|?_
 refine L0<|be (ub (aG g d) h) mZ fun cw bQ bR=>Pl 1<|nt<|rt<|br<|tr<|c9 bQ (.int .i64 4)<|?_
 have hs:al aK 1 c b=(bh.zero,4):=by
   unfold al aK
   (try simp only[i,j,l,n,t,bs,if_true,if_false,decide_true,decide_false,eq_self,true_or,or_true,or_false,false_or,if_true,if_false,cG,cC,cH,cE,reduceIte])
   all_goals rfl
 rw[hs]
 exact bF (ud s bR k)
theorem jf{m:Bool}{A:Option Addr}{cp:Nat}{b:List Int}{w:World}{dir c:Int}(hcode:B8 c)(hsl:aN m w (.slice A b.length cp) b)(hb:b.length≤1048576)(hd:¬ (dir=0∨dir=1)) :
    Calls Tryz.prog 62 #[.int .i64 dir,.int .u8 c,.slice A b.length cp] w (cM (al aK dir c b) w):=by
 obtain⟨hcode1,hcode2⟩:=hcode
 have hln:(b.length:Int)≤1048576:=by omega
 have e0:(dir != 0)=true:=by simp;omega
 have e1:(dir != 1)=true:=by simp;omega
 refine en 47 Tryz.func62 rfl<|sg<|L0<|bB mZ fun g h a d e=>Pl 1<|nt<|sq<|sg<|Pl 3<|sy 13 e0<|Pl 3<|nl<|?_
 refine tn<|ct e1<|sg<|Pl 1<|L0<|be d mZ fun i dp f=>Pl 1<|nt<|rt<|tr<|c9 dp (.int .i64 1)<|?_
 have hs:al aK dir c b=(bh.zero,1):=by
   unfold al aK
   (try simp only[e0,e1,bs,if_true,if_false,decide_true,decide_false,eq_self,true_or,or_true,or_false,false_or,if_true,if_false,cG,cC,cH,cE,reduceIte,hd])
   all_goals rfl
 rw[hs]
 exact bF (ud e f a)
theorem lU{m:Bool}{v:Value}{b:List Int}{w:World}{dir c:Int}(hc:B8 c)(h:aN m w v b)(hb:b.length≤1048576) :
    Calls Tryz.prog 62 #[.int .i64 dir,.int .u8 c,v] w (cM (al aK dir c b) w):=by
  obtain⟨A,cp,rfl,_,_⟩:=h.shape
  by_cases h0:dir=0
  · subst h0;exact iZ hc h hb
  by_cases h1:dir=1
  · subst h1;exact jo hc h hb
  exact jf hc h hb (by omega)
open Go.RowKit
def fA:Nat→ak→List Obj→ak × List Obj
  | 0,C,L=>(C,L)
  | n+1,C,L=>fA n (((C.bytesC 1).bytesC 1).bytesC (C.bytesC 1).byteV) (L++[⟨C.byteV,((C.bytesC 1).bytesC 1).bytesR (C.bytesC 1).byteV⟩])
def k9 (C:ak) : ak:=(C.bytesC 1).need (bz C.byteV) 6
def nj (C:ak) : ak:=((k9 C).bytesC 1).need ((k9 C).byteV==0 || (k9 C).byteV==255) 6
def se (C:ak) : ak:=((nj C).bytesC 1).need ((k9 C).byteV != 0 || (nj C).byteV==0) 6
def uw (kd:Int)(C:ak) : ak:=((se C).bytesC 1).need (kd != 4 || (se C).byteV==1) 5
def dt (kd:Int)(C:ak) : ak × List Obj:=fA (se C).byteV.toNat (uw kd C) []
theorem la{g gm:Nat}{c me kd:Int}{C0:ak}{w:World}(hcode:B8 c)(hme:B8 me)(hkd:B8 kd)(hC:ae w g C0)(hm:w.heap[gm]? = some (.cells #[.int .u8 c,.int .u8 0,.int .u16 0,.int .u16 0,.int .u16 0,.int .u16 0,.int .u16 0,.int .u16 0,.int .u16 0,.int .u16 0,.int .u16 0,.int .u16 0,.slice none 0 0,.slice none 0 0,.slice none 0 0,.slice none 0 0,.int .u8 me,.int .u8 kd,.int .u8 0,.int .u8 0,.int .u8 0,.slice none 0 0] 31 (0,0)))(hne:g≠gm) :
    Calls Tryz.prog 99 #[.pointer (some ⟨g,0,none⟩),.pointer (some ⟨gm,0,none⟩)] w (bE g gm (dt kd C0).1 { bh.zero with code:=c,mei:=me,kind:=kd,level:=C0.byteV,more:=(k9 C0).byteV,next:=(nj C0).byteV,objects:=(dt kd C0).2 } w):=by
 obtain⟨hcode1,hcode2⟩:=hcode
 obtain⟨hme1,hme2⟩:=hme
 obtain⟨hkd1,hkd2⟩:=hkd
 refine en 92 Tryz.func99 rfl<|sg<|Pl 2<|L0<|Oc<|m3 (bo hC) fun cT bQ b cU=>Pl 2<|?_
 have al:=aQ b (Ne.symm hne) hm
 refine L0<|bS al 18 (mG c 0 0 0 0 0 0 0 0 0 0 0 nS nS nS nS me kd C0.byteV 0 0 nS) fun cV dp j=>ng<|Pl 4<|L0<|aU dp 18<|L0<|Oc<|m1 (nX (x:=C0.byteV) (w:=_)) fun cW d=>?_
 have an:=aG j d
 refine L0<|Oc<|m2 (aM ((bz C0.byteV)) 6 (ae.upd bQ an (aa hne av) (ah (aF al (by decide)) az))) fun cX bR l=>?_
 refine ab bR fun x25 bT bU=>?_
 refine ng<|Pl 2<|L0<|Oc<|m3 (bo bU) fun cY bV o cZ=>Pl 2<|?_
 have ao:=u1 l o im
 have ar:=aQ (uz d ao) (Ne.symm hne) dp
 refine L0<|bS ar 19 (mG c 0 0 0 0 0 0 0 0 0 0 0 nS nS nS nS me kd C0.byteV x25.byteV 0 nS) fun d0 U f=>ng<|Pl 4<|L0<|aU U 19<|Pl 2<|cu 6 [29] 35 (((x25.byteV==0)||(x25.byteV==255))) (fun K aw=>?_) ?_
 refine bl 29 ((x25.byteV==0)) (fun E=>?_) (fun E=>?_)
 have bY:=aB E
 exact Pl 6<|ce aw true (by rw[E];rfl)
 have bY:=aH E
 exact Pl 3<|L1<|aU U 19<|Pl 2<|ce aw (x25.byteV==255) (by rw[E];rfl)
 refine L0<|Oc<|m2 (aM (((x25.byteV==0)||(x25.byteV==255))) 6 (ae.upd bV f (aa hne av) (ah (aF ar (by decide)) az))) fun d1 bZ p=>?_
 refine ab bZ fun x44 c0 c1=>?_
 refine ng<|Pl 2<|L0<|Oc<|m3 (bo c1) fun d2 c2 q d3=>Pl 2<|?_
 have aC:=u1 p q im
 have aE:=aQ aC (Ne.symm hne) U
 refine L0<|bS aE 20 (mG c 0 0 0 0 0 0 0 0 0 0 0 nS nS nS nS me kd C0.byteV x25.byteV x44.byteV nS) fun d4 V h=>ng<|Pl 4<|L0<|aU V 19<|Pl 2<|cu 6 [48] 54 (((x25.byteV != 0)||(x44.byteV==0))) (fun K aJ=>?_) ?_
 refine bl 48 ((x25.byteV != 0)) (fun F=>?_) (fun F=>?_)
 have c3:=ay F
 exact Pl 6<|ce aJ true (by rw[F];rfl)
 have c3:=ag F
 exact Pl 3<|L1<|aU V 20<|Pl 2<|ce aJ (x44.byteV==0) (by rw[F];rfl)
 refine L0<|Oc<|m2 (aM (((x25.byteV != 0)||(x44.byteV==0))) 6 (ae.upd c2 h (aa hne av) (ah (aF aE (by decide)) az))) fun d5 c4 r=>?_
 refine ab c4 fun x62 c5 c6=>?_
 refine ng<|Pl 1<|L0<|Oc<|m3 (bo c6) fun d6 c7 s d7=>L0<|Oi x62.byteV<|Pl 1<|ng<|Pl 4<|?_
 have aK:=u1 r s im
 have aL:=aQ aK (Ne.symm hne) V
 refine L0<|aU aL 17<|Pl 2<|cu 3 [65] 68 (((kd != 4)||(x62.byteV==1))) (fun K aP=>?_) ?_
 refine bl 65 ((kd != 4)) (fun G=>?_) (fun G=>?_)
 have c8:=ay G
 exact Pl 3<|ce aP true (by rw[G];rfl)
 have c8:=ag G
 exact Pl 3<|ce aP (x62.byteV==1) (by rw[G];rfl)
 refine L0<|Oc<|m2 (aM (((kd != 4)||(x62.byteV==1))) 5 c7) fun W c9 i=>?_
 refine ab c9 fun x76 ca cc=>?_
 refine ng<|Pl 2<|nt<|bk<|?_
 refine fR (fun x=>[(0,.pointer (some ⟨g,0,none⟩)),(1,.pointer (some ⟨gm,0,none⟩)),(70,.int .i64 x62.byteV),(71,.int .i64 ((x.1:Nat) : Int))]) (fun(x:Nat × ak × List Obj × Option Addr × Nat) w'=>ax [g,gm] W w'∧ae w' g x.2.1∧w'.heap[gm]? = some (.cells #[.int .u8 c,.int .u8 0,.int .u16 0,.int .u16 0,.int .u16 0,.int .u16 0,.int .u16 0,.int .u16 0,.int .u16 0,.int .u16 0,.int .u16 0,.int .u16 0,.slice none 0 0,.slice none 0 0,.slice none 0 0,.slice none 0 0,.int .u8 me,.int .u8 kd,.int .u8 C0.byteV,.int .u8 x25.byteV,.int .u8 x44.byteV,.slice x.2.2.2.1 x.2.2.1.length x.2.2.2.2] 31 (0,0))∧aO W.heap.size 85 2 (cl true) w' (.slice x.2.2.2.1 x.2.2.1.length x.2.2.2.2) x.2.2.1∧(x.1≤x62.byteV.toNat)∧(fA (x62.byteV.toNat-x.1) x.2.1 x.2.2.1=fA x62.byteV.toNat x76 [])∧(x.2.2.1.length≤x.1)) (fun x=>x62.byteV.toNat-x.1) (0,x76,[],none,0) ⟨ax.refl _ _,cc,(aQ i (Ne.symm hne) aL),aO.nil ..,(by(try dsimp only);omega),(by(try dsimp only);rw[Nat.sub_zero]),(by(try dsimp only);(try simp only[List.length_append,List.length_cons,List.length_nil]);omega)⟩ ?_
 rintro⟨k,C,L,A,cp⟩ X ⟨v,cd,cf,ch,ci,cj,ck⟩
 refine ge [(0,.pointer (some ⟨g,0,none⟩)),(1,.pointer (some ⟨gm,0,none⟩)),(70,.int .i64 x62.byteV),(71,.int .i64 ((k:Nat) : Int))] ?_
 have u:ae X g C:=cd
 have D:X.heap[gm]? = some (.cells #[.int .u8 c,.int .u8 0,.int .u16 0,.int .u16 0,.int .u16 0,.int .u16 0,.int .u16 0,.int .u16 0,.int .u16 0,.int .u16 0,.int .u16 0,.int .u16 0,.slice none 0 0,.slice none 0 0,.slice none 0 0,.slice none 0 0,.int .u8 me,.int .u8 kd,.int .u8 C0.byteV,.int .u8 x25.byteV,.int .u8 x44.byteV,.slice A L.length cp] 31 (0,0)):=cf
 have a:aO W.heap.size 85 2 (cl true) X (.slice A L.length cp) L:=ch
 have d8:k≤x62.byteV.toNat:=ci
 have d9:fA (x62.byteV.toNat-k) C L=fA x62.byteV.toNat x76 []:=cj
 have da:L.length≤k:=ck
 have hobj:fA (x62.byteV.toNat-k) C L=fA x62.byteV.toNat x76 []:=by assumption
 refine sg<|Pl 1<|nt<|sq<|?_
 refine cb ((decide (((k:Nat) : Int)<x62.byteV))) (fun Y=>?_) (fun Y=>?_)
 have cm:=of_decide_eq_true Y
 refine bC<|sq<|bk<|sg<|Pl 1<|L0<|Oc<|m3 (bo u) fun db aS y dc=>Pl 1<|nt<|Rg 17 (fun w'=>True) fun dd t=>bg trivial fun z=>Rt 0 z<|?_
 refine Rt 1 z<|Rt 2 z<|Rt 3 z<|Rt 5 z<|Rt 6 z<|Rt 7 z<|?_
 refine R2 4 8 rfl rfl ?_ ?_
 have Z:=aG y t
 have a0:=aQ Z (Ne.symm hne) D
 refine  aU a0 21<|bg trivial fun de=>?_
 refine R0 8 rfl<|Oc<|m3 (bo (ae.old aS t)) fun df aT a1 dg=>bg trivial fun cn=>Rr 9 cn (.int .i64 ((C.bytesC 1).byteV)) (fun _ _=>bX (.int .i64 (IntKind.i64.wrap ((C.bytesC 1).byteV))) (by kernel_rfl) (congrArg (Value.int .i64) (i64_in (by omega))))<|R0 10 rfl<|Oc<|mY (bD (n:=(C.bytesC 1).byteV) aT) fun co cq dh cr di dj cs a2=>?_
 have dk:=Nat.le_trans (ak.bytesR_le ((C.bytesC 1).bytesC 1) ((C.bytesC 1).byteV)) (ae.len aT)
 refine ab cs fun dl ct cv=>?_
 refine bg trivial fun cw=>Rt 11 cw<|R0 12 rfl<|fg (m:=1) (e:=85) #[.int .u8 C.byteV,.slice co ((((C.bytesC 1).bytesC 1).bytesR ((C.bytesC 1).byteV)).length) cq] fun dm dn dq cx I=>?_
 have cy:=l2 (R:=cl true) (x:=(Obj.mk C.byteV (((C.bytesC 1).bytesC 1).bytesR ((C.bytesC 1).byteV)))) cx rfl ⟨_,rfl,(aN.upd' cr I az),b8 (by omega)⟩
 refine bg trivial fun dr=>?_
 have aV:=u1 a1 (aG a2 I) im
 have a3:=u1 Z aV im
 have aW:=am a a3 (fun x hx=>(aa (fun e=>(ap (ae.lt hC) (le (le (le (le (le (le (le (le (le (le (le b.size j.size) d.size) l.size) o.size) f.size) p.size) q.size) h.size) r.size) s.size) i.size) a) (e▸hx)) av)) (cl.upd8 a3 (ah (ae.safe u _ (by decide)) az))
 refine R0 13 rfl<|hG (xs:=L) (ys:=([(Obj.mk C.byteV (((C.bytesC 1).bytesC 1).bytesR ((C.bytesC 1).byteV)))])) (.agg #[.int .u8 0,.slice none 0 0]) 2 32 aW cy (by simp) cl.ones (fun w' hv=>cl.upd8 hv (bW (cg _ aW (by decide)) az)) (by(try simp only[List.length_append,List.length_cons,List.length_nil,aR]);omega) (le (le (le (le (le v.size y.size) t.size) a1.size) a2.size) I.size) fun aX aY ds aZ b0=>bg trivial fun b1=>Rt 14 b1<|Rt 15 b1<|?_
 have b2:=ax.blk (ut (ax.mono (S':=(g :: (ob A++[]))) aV (ac im au)) b0 (aq il au)) (aa (Ne.symm hne) (aA (ap (ai hm) (le (le (le (le (le (le (le (le (le (le (le b.size j.size) d.size) l.size) o.size) f.size) p.size) q.size) h.size) r.size) s.size) i.size) a) av)) a0
 refine R0 16 rfl<|bS b2 21 (mG c 0 0 0 0 0 0 0 0 0 0 0 nS nS nS nS me kd C0.byteV x25.byteV x44.byteV (.slice aX ((L++[(Obj.mk C.byteV (((C.bytesC 1).bytesC 1).bytesR ((C.bytesC 1).byteV)))]).length) aY)) fun du cz a4=>bg trivial fun dv=>re<|bn<|tn<|go<|L0<|Oi (((k:Nat) : Int)+1)<|Pl 1<|nl<|?_
 subst ct
 have b3:=u1 (ax.mono (S':=(ob A++(gm :: []))) b0 (aq il au)) a4 im
 have b4:=u1 a1 a2 im
 have b5:=u1 Z b4 im
 exact dY ((k+1),(((C.bytesC 1).bytesC 1).bytesC ((C.bytesC 1).byteV)),(L++[(Obj.mk C.byteV (((C.bytesC 1).bytesC 1).bytesR ((C.bytesC 1).byteV)))]),aX,aY) ⟨(ut v (ut (ax.mono (S':=(g :: (ob A++(gm :: [])))) a3 (ac im au)) b3 (aq il (ac im au))) (ac im (aq (bv a lr) (ac im au)))),(ae.upd cv (ut (ax.mono (S':=(ob A++(gm :: []))) I au) b3 (aq il (ac im au))) (aA (ap (ae.lt hC) (le (le (le (le (le (le (le (le (le (le (le b.size j.size) d.size) l.size) o.size) f.size) p.size) q.size) h.size) r.size) s.size) i.size) a) (aa hne av)) (bW (cg _ (am a b5 (fun x hx=>(aa (fun e=>(ap (ae.lt hC) (le (le (le (le (le (le (le (le (le (le (le b.size j.size) d.size) l.size) o.size) f.size) p.size) q.size) h.size) r.size) s.size) i.size) a) (e▸hx)) av)) (cl.upd8 b5 (ah (ae.safe u _ (by decide)) az))) (by decide)) (ah (aF (aQ b4 (Ne.symm hne) a0) (by decide)) az))),cz,(am aZ a4 (fun x hx=>(aa (fun e=>(ap (ai hm) (le (le (le (le (le (le (le (le (le (le (le b.size j.size) d.size) l.size) o.size) f.size) p.size) q.size) h.size) r.size) s.size) i.size) aZ) (e▸hx)) av)) (cl.upd8 a4 (ah (aF b2 (by decide)) az))),(by(try dsimp only);omega),(by(try dsimp only);rw[← hobj,show x62.byteV.toNat-k=(x62.byteV.toNat-(k+1))+1 from by omega];rfl),(by(try dsimp only);(try simp only[List.length_append,List.length_cons,List.length_nil]);omega)⟩ (by omega)
 refine  Oc<|m3 (bo (ae.old aS t)) fun dw J B dx=>bg trivial fun cA=>Rr 9 cA (.int .i64 ((C.bytesC 1).byteV)) (fun _ _=>bX (.int .i64 (IntKind.i64.wrap ((C.bytesC 1).byteV))) (by kernel_rfl) (congrArg (Value.int .i64) (i64_in (by omega))))<|?_
 refine R2 4 10 rfl rfl ?_ ?_
 have a5:=u1 y (uz t B) im
 have a6:=aQ a5 (Ne.symm hne) D
 refine  aU a6 21<|bg trivial fun dy=>R0 10 rfl<|Oc<|mY (bD (n:=(C.bytesC 1).byteV) J) fun cB cC dz cD dA dB cE M=>?_
 have dC:=Nat.le_trans (ak.bytesR_le ((C.bytesC 1).bytesC 1) ((C.bytesC 1).byteV)) (ae.len J)
 refine ab cE fun dD cF cG=>?_
 refine bg trivial fun cH=>Rt 11 cH<|R0 12 rfl<|fg (m:=1) (e:=85) #[.int .u8 C.byteV,.slice cB ((((C.bytesC 1).bytesC 1).bytesR ((C.bytesC 1).byteV)).length) cC] fun dE dF dG cI N=>?_
 have cJ:=l2 (R:=cl true) (x:=(Obj.mk C.byteV (((C.bytesC 1).bytesC 1).bytesR ((C.bytesC 1).byteV)))) cI rfl ⟨_,rfl,(aN.upd' cD N az),b8 (by omega)⟩
 refine bg trivial fun dH=>?_
 have b6:=aG M N
 have a7:=u1 a5 b6 im
 have b7:=am a a7 (fun x hx=>(aa (fun e=>(ap (ae.lt hC) (le (le (le (le (le (le (le (le (le (le (le b.size j.size) d.size) l.size) o.size) f.size) p.size) q.size) h.size) r.size) s.size) i.size) a) (e▸hx)) av)) (cl.upd8 a7 (ah (ae.safe u _ (by decide)) az))
 refine R0 13 rfl<|hG (xs:=L) (ys:=([(Obj.mk C.byteV (((C.bytesC 1).bytesC 1).bytesR ((C.bytesC 1).byteV)))])) (.agg #[.int .u8 0,.slice none 0 0]) 2 32 b7 cJ (by simp) cl.ones (fun w' hv=>cl.upd8 hv (bW (cg _ b7 (by decide)) az)) (by(try simp only[List.length_append,List.length_cons,List.length_nil,aR]);omega) (le (le (le (le (le v.size y.size) t.size) B.size) M.size) N.size) fun b9 ba dI bb bc=>bg trivial fun bd=>Rt 14 bd<|Rt 15 bd<|?_
 have be:=ax.blk (ut (ax.mono (S':=(g :: (ob A++[]))) b6 (ac im au)) bc (aq il au)) (aa (Ne.symm hne) (aA (ap (ai hm) (le (le (le (le (le (le (le (le (le (le (le b.size j.size) d.size) l.size) o.size) f.size) p.size) q.size) h.size) r.size) s.size) i.size) a) av)) a6
 refine R0 16 rfl<|bS be 21 (mG c 0 0 0 0 0 0 0 0 0 0 0 nS nS nS nS me kd C0.byteV x25.byteV x44.byteV (.slice b9 ((L++[(Obj.mk C.byteV (((C.bytesC 1).bytesC 1).bytesR ((C.bytesC 1).byteV)))]).length) ba)) fun dJ cK a8=>bg trivial fun dK=>re<|bn<|tn<|go<|L0<|Oi (((k:Nat) : Int)+1)<|Pl 1<|nl<|?_
 subst cF
 have bf:=u1 (ax.mono (S':=(ob A++(gm :: []))) bc (aq il au)) a8 im
 have bi:=u1 a5 M im
 exact dY ((k+1),(((C.bytesC 1).bytesC 1).bytesC ((C.bytesC 1).byteV)),(L++[(Obj.mk C.byteV (((C.bytesC 1).bytesC 1).bytesR ((C.bytesC 1).byteV)))]),b9,ba) ⟨(ut v (ut (ax.mono (S':=(g :: (ob A++(gm :: [])))) a7 (ac im au)) bf (aq il (ac im au))) (ac im (aq (bv a lr) (ac im au)))),(ae.upd cG (ut (ax.mono (S':=(ob A++(gm :: []))) N au) bf (aq il (ac im au))) (aA (ap (ae.lt hC) (le (le (le (le (le (le (le (le (le (le (le b.size j.size) d.size) l.size) o.size) f.size) p.size) q.size) h.size) r.size) s.size) i.size) a) (aa hne av)) (bW (cg _ (am a bi (fun x hx=>(aa (fun e=>(ap (ae.lt hC) (le (le (le (le (le (le (le (le (le (le (le b.size j.size) d.size) l.size) o.size) f.size) p.size) q.size) h.size) r.size) s.size) i.size) a) (e▸hx)) av)) (cl.upd8 bi (ah (ae.safe u _ (by decide)) az))) (by decide)) (ah (aF (aQ M (Ne.symm hne) a6) (by decide)) az))),cK,(am bb a8 (fun x hx=>(aa (fun e=>(ap (ai hm) (le (le (le (le (le (le (le (le (le (le (le b.size j.size) d.size) l.size) o.size) f.size) p.size) q.size) h.size) r.size) s.size) i.size) bb) (e▸hx)) av)) (cl.upd8 a8 (ah (aF be (by decide)) az))),(by(try dsimp only);omega),(by(try dsimp only);rw[← hobj,show x62.byteV.toNat-k=(x62.byteV.toNat-(k+1))+1 from by omega];rfl),(by(try dsimp only);(try simp only[List.length_append,List.length_cons,List.length_nil]);omega)⟩ (by omega)
 refine  Oc<|mY (bD (n:=(C.bytesC 1).byteV) J) fun bj bm dL bp dM dN cL H=>?_
 have dO:=Nat.le_trans (ak.bytesR_le ((C.bytesC 1).bytesC 1) ((C.bytesC 1).byteV)) (ae.len J)
 refine ab cL fun dP bq br=>?_
 refine bg trivial fun cM=>Rt 11 cM<|?_
 refine R2 4 12 rfl rfl ?_ ?_
 have O:=u1 y (uz t (u1 B H im)) im
 have a9:=aQ O (Ne.symm hne) D
 refine  aU a9 21<|bg trivial fun dQ=>R0 12 rfl<|fg (m:=1) (e:=85) #[.int .u8 C.byteV,.slice bj ((((C.bytesC 1).bytesC 1).bytesR ((C.bytesC 1).byteV)).length) bm] fun dR dS dT cN P=>?_
 have cO:=l2 (R:=cl true) (x:=(Obj.mk C.byteV (((C.bytesC 1).bytesC 1).bytesR ((C.bytesC 1).byteV)))) cN rfl ⟨_,rfl,(aN.upd' bp P az),b8 (by omega)⟩
 refine bg trivial fun dU=>?_
 have ad:=aG O P
 have bs:=am a ad (fun x hx=>(aa (fun e=>(ap (ae.lt hC) (le (le (le (le (le (le (le (le (le (le (le b.size j.size) d.size) l.size) o.size) f.size) p.size) q.size) h.size) r.size) s.size) i.size) a) (e▸hx)) av)) (cl.upd8 ad (ah (ae.safe u _ (by decide)) az))
 refine R0 13 rfl<|hG (xs:=L) (ys:=([(Obj.mk C.byteV (((C.bytesC 1).bytesC 1).bytesR ((C.bytesC 1).byteV)))])) (.agg #[.int .u8 0,.slice none 0 0]) 2 32 bs cO (by simp) cl.ones (fun w' hv=>cl.upd8 hv (bW (cg _ bs (by decide)) az)) (by(try simp only[List.length_append,List.length_cons,List.length_nil,aR]);omega) (le (le (le (le (le v.size y.size) t.size) B.size) H.size) P.size) fun bt bu dV bw bA=>bg trivial fun bB=>Rt 14 bB<|Rt 15 bB<|?_
 have bF:=ut (ax.mono (S':=(ob A++[])) P au) bA (aq il au)
 have bG:=ax.blk bF (aA (ap (ai hm) (le (le (le (le (le (le (le (le (le (le (le b.size j.size) d.size) l.size) o.size) f.size) p.size) q.size) h.size) r.size) s.size) i.size) a) av) a9
 refine R0 16 rfl<|bS bG 21 (mG c 0 0 0 0 0 0 0 0 0 0 0 nS nS nS nS me kd C0.byteV x25.byteV x44.byteV (.slice bt ((L++[(Obj.mk C.byteV (((C.bytesC 1).bytesC 1).bytesR ((C.bytesC 1).byteV)))]).length) bu)) fun dW cP Q=>bg trivial fun dX=>re<|bn<|tn<|go<|L0<|Oi (((k:Nat) : Int)+1)<|Pl 1<|nl<|?_
 subst bq
 exact dY ((k+1),(((C.bytesC 1).bytesC 1).bytesC ((C.bytesC 1).byteV)),(L++[(Obj.mk C.byteV (((C.bytesC 1).bytesC 1).bytesR ((C.bytesC 1).byteV)))]),bt,bu) ⟨(ut v (ut (ax.mono (S':=(g :: (ob A++(gm :: [])))) ad (ac im au)) (u1 (ax.mono (S':=(ob A++(gm :: []))) bA (aq il au)) Q im) (aq il (ac im au))) (ac im (aq (bv a lr) (ac im au)))),(ae.upd br (u1 (ax.mono (S':=(ob A++(gm :: []))) bF (aq il au)) Q im) (aA (ap (ae.lt hC) (le (le (le (le (le (le (le (le (le (le (le b.size j.size) d.size) l.size) o.size) f.size) p.size) q.size) h.size) r.size) s.size) i.size) a) (aa hne av)) (bW (cg _ (am a O (fun x hx=>(aa (fun e=>(ap (ae.lt hC) (le (le (le (le (le (le (le (le (le (le (le b.size j.size) d.size) l.size) o.size) f.size) p.size) q.size) h.size) r.size) s.size) i.size) a) (e▸hx)) av)) (cl.upd8 O (ah (ae.safe u _ (by decide)) az))) (by decide)) (ah (aF a9 (by decide)) az))),cP,(am bw Q (fun x hx=>(aa (fun e=>(ap (ai hm) (le (le (le (le (le (le (le (le (le (le (le b.size j.size) d.size) l.size) o.size) f.size) p.size) q.size) h.size) r.size) s.size) i.size) bw) (e▸hx)) av)) (cl.upd8 Q (ah (aF bG (by decide)) az))),(by(try dsimp only);omega),(by(try dsimp only);rw[← hobj,show x62.byteV.toNat-k=(x62.byteV.toNat-(k+1))+1 from by omega];rfl),(by(try dsimp only);(try simp only[List.length_append,List.length_cons,List.length_nil]);omega)⟩ (by omega)
 refine  fg (m:=1) (e:=85) #[.int .u8 C.byteV,.slice bj ((((C.bytesC 1).bytesC 1).bytesR ((C.bytesC 1).byteV)).length) bm] fun dZ e0 e1 cQ S=>?_
 have cR:=l2 (R:=cl true) (x:=(Obj.mk C.byteV (((C.bytesC 1).bytesC 1).bytesR ((C.bytesC 1).byteV)))) cQ rfl ⟨_,rfl,(aN.upd' bp S az),b8 (by omega)⟩
 refine bg trivial fun e2=>?_
 have T:=u1 y (uz t (u1 B (aG H S) im)) im
 have bH:=aQ T (Ne.symm hne) D
 refine R0 4 rfl<|aU bH 21<|bg trivial fun e3=>?_
 have bI:=am a T (fun x hx=>(aa (fun e=>(ap (ae.lt hC) (le (le (le (le (le (le (le (le (le (le (le b.size j.size) d.size) l.size) o.size) f.size) p.size) q.size) h.size) r.size) s.size) i.size) a) (e▸hx)) av)) (cl.upd8 T (ah (ae.safe u _ (by decide)) az))
 refine R0 13 rfl<|hG (xs:=L) (ys:=([(Obj.mk C.byteV (((C.bytesC 1).bytesC 1).bytesR ((C.bytesC 1).byteV)))])) (.agg #[.int .u8 0,.slice none 0 0]) 2 32 bI cR (by simp) cl.ones (fun w' hv=>cl.upd8 hv (bW (cg _ bI (by decide)) az)) (by(try simp only[List.length_append,List.length_cons,List.length_nil,aR]);omega) (le (le (le (le (le v.size y.size) t.size) B.size) H.size) S.size) fun bJ bK e4 bL bM=>bg trivial fun bN=>Rt 14 bN<|Rt 15 bN<|?_
 have bO:=ax.blk bM (aA (ap (ai hm) (le (le (le (le (le (le (le (le (le (le (le b.size j.size) d.size) l.size) o.size) f.size) p.size) q.size) h.size) r.size) s.size) i.size) a) av) bH
 refine R0 16 rfl<|bS bO 21 (mG c 0 0 0 0 0 0 0 0 0 0 0 nS nS nS nS me kd C0.byteV x25.byteV x44.byteV (.slice bJ ((L++[(Obj.mk C.byteV (((C.bytesC 1).bytesC 1).bytesR ((C.bytesC 1).byteV)))]).length) bK)) fun e5 cS af=>bg trivial fun e6=>re<|bn<|tn<|go<|L0<|Oi (((k:Nat) : Int)+1)<|Pl 1<|nl<|?_
 subst bq
 have bP:=u1 (ax.mono (S':=(ob A++(gm :: []))) bM (aq il au)) af im
 have aj:=u1 y (uz t (u1 B H im)) im
 exact dY ((k+1),(((C.bytesC 1).bytesC 1).bytesC ((C.bytesC 1).byteV)),(L++[(Obj.mk C.byteV (((C.bytesC 1).bytesC 1).bytesR ((C.bytesC 1).byteV)))]),bJ,bK) ⟨(ut v (ut (ax.mono (S':=(g :: (ob A++(gm :: [])))) T (ac im au)) bP (aq il (ac im au))) (ac im (aq (bv a lr) (ac im au)))),(ae.upd br (ut (ax.mono (S':=(ob A++(gm :: []))) S au) bP (aq il (ac im au))) (aA (ap (ae.lt hC) (le (le (le (le (le (le (le (le (le (le (le b.size j.size) d.size) l.size) o.size) f.size) p.size) q.size) h.size) r.size) s.size) i.size) a) (aa hne av)) (bW (cg _ (am a aj (fun x hx=>(aa (fun e=>(ap (ae.lt hC) (le (le (le (le (le (le (le (le (le (le (le b.size j.size) d.size) l.size) o.size) f.size) p.size) q.size) h.size) r.size) s.size) i.size) a) (e▸hx)) av)) (cl.upd8 aj (ah (ae.safe u _ (by decide)) az))) (by decide)) (ah (aF (aQ aj (Ne.symm hne) D) (by decide)) az))),cS,(am bL af (fun x hx=>(aa (fun e=>(ap (ai hm) (le (le (le (le (le (le (le (le (le (le (le b.size j.size) d.size) l.size) o.size) f.size) p.size) q.size) h.size) r.size) s.size) i.size) bL) (e▸hx)) av)) (cl.upd8 af (ah (aF bO (by decide)) az))),(by(try dsimp only);omega),(by(try dsimp only);rw[← hobj,show x62.byteV.toNat-k=(x62.byteV.toNat-(k+1))+1 from by omega];rfl),(by(try dsimp only);(try simp only[List.length_append,List.length_cons,List.length_nil]);omega)⟩ (by omega)
 have cm:=of_decide_eq_false Y
 refine xt<|tx<|tx<|bx<|rm (.tuple #[])<|?_
 subst ca c5 c0 bT
 have hf:dt kd C0=(C,L):=by
   have h1:fA ((((((C0.bytesC 1).need (bz C0.byteV) 6).bytesC 1).need ((((C0.bytesC 1).need (bz C0.byteV) 6).byteV==0)||(((C0.bytesC 1).need (bz C0.byteV) 6).byteV==255)) 6).bytesC 1).need ((((C0.bytesC 1).need (bz C0.byteV) 6).byteV != 0)||(((((C0.bytesC 1).need (bz C0.byteV) 6).bytesC 1).need ((((C0.bytesC 1).need (bz C0.byteV) 6).byteV==0)||(((C0.bytesC 1).need (bz C0.byteV) 6).byteV==255)) 6).byteV==0)) 6).byteV.toNat ((((((((C0.bytesC 1).need (bz C0.byteV) 6).bytesC 1).need ((((C0.bytesC 1).need (bz C0.byteV) 6).byteV==0)||(((C0.bytesC 1).need (bz C0.byteV) 6).byteV==255)) 6).bytesC 1).need ((((C0.bytesC 1).need (bz C0.byteV) 6).byteV != 0)||(((((C0.bytesC 1).need (bz C0.byteV) 6).bytesC 1).need ((((C0.bytesC 1).need (bz C0.byteV) 6).byteV==0)||(((C0.bytesC 1).need (bz C0.byteV) 6).byteV==255)) 6).byteV==0)) 6).bytesC 1).need ((kd != 4)||(((((((C0.bytesC 1).need (bz C0.byteV) 6).bytesC 1).need ((((C0.bytesC 1).need (bz C0.byteV) 6).byteV==0)||(((C0.bytesC 1).need (bz C0.byteV) 6).byteV==255)) 6).bytesC 1).need ((((C0.bytesC 1).need (bz C0.byteV) 6).byteV != 0)||(((((C0.bytesC 1).need (bz C0.byteV) 6).bytesC 1).need ((((C0.bytesC 1).need (bz C0.byteV) 6).byteV==0)||(((C0.bytesC 1).need (bz C0.byteV) 6).byteV==255)) 6).byteV==0)) 6).byteV==1)) 5) []=(C,L):=by
     rw[← hobj,show((((((C0.bytesC 1).need (bz C0.byteV) 6).bytesC 1).need ((((C0.bytesC 1).need (bz C0.byteV) 6).byteV==0)||(((C0.bytesC 1).need (bz C0.byteV) 6).byteV==255)) 6).bytesC 1).need ((((C0.bytesC 1).need (bz C0.byteV) 6).byteV != 0)||(((((C0.bytesC 1).need (bz C0.byteV) 6).bytesC 1).need ((((C0.bytesC 1).need (bz C0.byteV) 6).byteV==0)||(((C0.bytesC 1).need (bz C0.byteV) 6).byteV==255)) 6).byteV==0)) 6).byteV.toNat-k=0 from by omega]
     rfl
   exact h1
 rw[hf]
 exact⟨rfl,u,⟨_,⟨D,rfl⟩,⟨_,_,_,_,_,rfl,aI.nil ..,aI.nil ..,aI.nil ..,aI.nil ..,(a).rd,⟨(b8 (x:=c) (by omega)),(b8 (x:=0) (by omega)),(aD (x:=0) (by omega)),(aD (x:=0) (by omega)),(aD (x:=0) (by omega)),(aD (x:=0) (by omega)),(aD (x:=0) (by omega)),(aD (x:=0) (by omega)),(aD (x:=0) (by omega)),(aD (x:=0) (by omega)),(aD (x:=0) (by omega)),(aD (x:=0) (by omega)),(b8 (x:=me) (by omega)),(b8 (x:=kd) (by omega)),(b8 (x:=C0.byteV) (by omega)),(b8 (x:=((C0.bytesC 1).need (bz C0.byteV) 6).byteV) (by omega)),(b8 (x:=((((C0.bytesC 1).need (bz C0.byteV) 6).bytesC 1).need ((((C0.bytesC 1).need (bz C0.byteV) 6).byteV==0)||(((C0.bytesC 1).need (bz C0.byteV) 6).byteV==255)) 6).byteV) (by omega))⟩⟩⟩,(ui b (ui an (ui ao (ui f (ui aC (ui h (ui aK (ui i v))))))))⟩
open Go.RowKit
def e6 (C:ak) : ak:=(C.bytesC 1).need (C.byteV==13 || C.byteV==14) 8
def fk (C:ak) : ak:=(e6 C).need (decide (((e6 C).l.length:Int)≤251)) 5
def eD (C:ak) : ak:=((e6 C).bytesC 1).need (decide (1≤(e6 C).byteV)&&decide ((e6 C).byteV≤4)) 6
def bt (dir c:Int)(C:ak) : Option (ak × bh) :=
  if c != 43 then none
  else if C.byteV==13 then some ((fk C).bytesC ((fk C).l.length:Int),{ bh.zero with code:=c,mei:=C.byteV,data:=(fk C).bytesR ((fk C).l.length:Int) })
  else if dir==1 then some ((dt (e6 C).byteV (eD C)).1,{ bh.zero with code:=c,mei:=C.byteV,kind:=(e6 C).byteV,level:=(eD C).byteV,more:=(k9 (eD C)).byteV,next:=(nj (eD C)).byteV,objects:=(dt (e6 C).byteV (eD C)).2 })
  else some ((eD C).bytesC 1,{ bh.zero with code:=c,mei:=C.byteV,kind:=(e6 C).byteV,next:=(eD C).byteV })
theorem jA{m:Bool}{A:Option Addr}{cp:Nat}{b:List Int}{w:World}{c:Int}(hcode:B8 c)(hsl:aN m w (.slice A b.length cp) b)(hb:b.length≤1048576) :
    Calls Tryz.prog 66 #[.int .i64 0,.int .u8 c,.slice A b.length cp] w (cM (al bt 0 c b) w):=by
 obtain⟨hcode1,hcode2⟩:=hcode
 have hln:(b.length:Int)≤1048576:=by omega
 refine en 81 Tryz.func66 rfl<|sg<|L0<|bB mZ fun O bg q i j=>Pl 1<|nt<|sq<|bk<|sg<|Pl 7<|nt<|?_
 refine c0<|sg<|Pl 3<|nt<|cb ((c != 43)) (fun f=>?_) (fun f=>?_)
 have aq:=ay f
 refine sg<|Pl 1<|L0<|be i mZ fun bi ar aw=>Pl 1<|nt<|rt<|br<|tr<|c9 ar (.int .i64 4)<|?_
 have hs:al bt 0 c b=(bh.zero,4):=by
   unfold al bt fk eD e6
   (try simp only[f,bs,if_true,if_false,decide_true,decide_false,eq_self,true_or,or_true,or_false,false_or,if_true,if_false,cG,cC,cH,cE,reduceIte])
   all_goals rfl
 rw[hs]
 exact bF (ud j aw q)
 have aq:=ag f
 refine sk<|bn<|tn<|sg<|Pl 1<|?_
 refine L0<|Oc<|e3 (ca (aN.old hsl j) (by omega)) fun P bj a Q k=>Pl 1<|ng<|Pl 2<|L0<|Oc<|m3 (bo Q) fun bm aA g bp=>Pl 1<|L0<|bB mZ fun R bq h aC aE=>L0<|be aC (mG c 0 0 0 0 0 0 0 0 0 0 0 nS nS nS nS ((ak.mk b false 0).byteV) 0 0 0 0 nS) fun bu E aJ=>nt<|sq<|?_
 refine go<|Pl 2<|L0<|aU E 16<|Pl 2<|cu 4 [33] 37 (((((ak.mk b false 0).byteV)==13)||(((ak.mk b false 0).byteV)==14))) (fun K S=>?_) ?_
 refine bl 33 ((((ak.mk b false 0).byteV)==13)) (fun r=>?_) (fun r=>?_)
 have aK:=aB r
 exact Pl 4<|ce S true (by rw[r];rfl)
 have aK:=aH r
 exact Pl 1<|L1<|aU E 16<|Pl 2<|ce S (((ak.mk b false 0).byteV)==14) (by rw[r];rfl)
 have T:=ud aE aJ h
 refine L0<|Oc<|m2 (aM (((((ak.mk b false 0).byteV)==13)||(((ak.mk b false 0).byteV)==14))) 8 (ae.old aA T)) fun bv aL U=>?_
 refine ab aL fun fU v y=>?_
 refine nt<|sq<|sg<|Pl 1<|?_
 have d:=nb (ae.lt Q) g.size h
 have F:=aQ U (Ne.symm d) E
 refine L0<|aU F 16<|Pl 1<|nt<|?_
 have o:=ud k (u1 g (uz T U) im) a
 have V:=aG j o
 refine cb ((((ak.mk b false 0).byteV)==13)) (fun p=>?_) (fun p=>?_)
 have aO:=aB p
 refine sg<|Pl 2<|L0<|Oc<|mq (cy y)<|?_
 have bw:=ae.len y
 refine Pl 1<|L0<|Oc<|m2 (aM ((decide (((fU.l.length:Nat) : Int)≤251))) 5 y) fun bx aP aR=>?_
 refine ab aP fun x59 W z=>?_
 refine nt<|go<|Pl 2<|L0<|Oc<|mq (cy z)<|?_
 have bz:=ae.len z
 refine L0<|Oc<|mY (bD (n:=((x59.l.length:Nat) : Int)) z) fun X Y bE Z bG bH aS aW=>?_
 have bI:=Nat.le_trans (ak.bytesR_le x59 ((x59.l.length:Nat) : Int)) (ae.len z)
 refine ab aS fun x69 a0 G=>?_
 refine Pl 1<|?_
 have B:=u1 aR aW im
 have C:=aQ B (Ne.symm d) F
 refine L0<|bS C 14 (mG c 0 0 0 0 0 0 0 0 0 0 0 nS nS (.slice X ((x59.bytesR ((x59.l.length:Nat) : Int)).length) Y) nS ((ak.mk b false 0).byteV) 0 0 0 0 nS) fun bJ aX a1=>ng<|Pl 1<|?_
 refine L0<|Oc<|m2 (bA (ae.upd G a1 (aa d av) (ah (aF C (by decide)) az))) fun bK a2 a3=>nt<|sq<|sg<|Pl 1<|L0<|Oc<|mq (b7 a2)<|?_
 have bL:=ae.len a2
 refine Pl 1<|ng<|Pl 2<|nt<|?_
 have H:=us a1 a3
 have I:=ui B H
 have a4:=ut V I (ac (ni (le (le j.size k.size) g.size) h) (ac (ni j.size a) au))
 refine cb ((x69.endC.e != 0)) (fun s=>?_) (fun s=>?_)
 have J:=ay s
 refine sg<|Pl 2<|?_
 refine L0<|be (ub (ut o I (ac (ni (le k.size g.size) h) (ac (nr a) au))) i) mZ fun bM aY a5=>Pl 1<|nt<|rt<|tr<|c9 aY (.int .i64 x69.endC.e)<|?_
 subst a0 W v
 have bN:=aN.upd' Z (u1 (ax.mono (S':=[R,P,O]) H (ac im (ac im au))) a5 im) (ah (aF C (by decide)) (ah (ae.safe G _ (by decide)) (ah (aF (ub (ud o B a) i) (by decide)) az)))
 have hs:al bt 0 c b=aT (bh.mk c 0 0 0 0 0 0 0 0 0 0 0 [] [] (((((ak.mk b false 0).bytesC 1).need ((((ak.mk b false 0).byteV)==13)||(((ak.mk b false 0).byteV)==14)) 8).need (decide ((((((ak.mk b false 0).bytesC 1).need ((((ak.mk b false 0).byteV)==13)||(((ak.mk b false 0).byteV)==14)) 8).l.length:Nat) : Int)≤251)) 5).bytesR ((((((ak.mk b false 0).bytesC 1).need ((((ak.mk b false 0).byteV)==13)||(((ak.mk b false 0).byteV)==14)) 8).need (decide ((((((ak.mk b false 0).bytesC 1).need ((((ak.mk b false 0).byteV)==13)||(((ak.mk b false 0).byteV)==14)) 8).l.length:Nat) : Int)≤251)) 5).l.length:Nat) : Int)) [] ((ak.mk b false 0).byteV) 0 0 0 0 []) (((((ak.mk b false 0).bytesC 1).need ((((ak.mk b false 0).byteV)==13)||(((ak.mk b false 0).byteV)==14)) 8).need (decide ((((((ak.mk b false 0).bytesC 1).need ((((ak.mk b false 0).byteV)==13)||(((ak.mk b false 0).byteV)==14)) 8).l.length:Nat) : Int)≤251)) 5).bytesC ((((((ak.mk b false 0).bytesC 1).need ((((ak.mk b false 0).byteV)==13)||(((ak.mk b false 0).byteV)==14)) 8).need (decide ((((((ak.mk b false 0).bytesC 1).need ((((ak.mk b false 0).byteV)==13)||(((ak.mk b false 0).byteV)==14)) 8).l.length:Nat) : Int)≤251)) 5).l.length:Nat) : Int)):=by
   unfold al bt fk eD e6
   (try simp only[f,p,s,bs,if_true,if_false,decide_true,decide_false,eq_self,true_or,or_true,or_false,false_or,if_true,if_false,cG,cC,cH,cE,reduceIte])
   all_goals rfl
 rw[hs]
 exact aV J (ud a4 a5 q)
 have J:=ag s
 refine bC<|sg<|?_
 refine L0<|c7 (aQ a3 (Ne.symm d) aX)<|?_
 refine L0<|be (ub (ut o I (ac (ni (le k.size g.size) h) (ac (nr a) au))) i) (mG c 0 0 0 0 0 0 0 0 0 0 0 nS nS (.slice X ((x59.bytesR ((x59.l.length:Nat) : Int)).length) Y) nS ((ak.mk b false 0).byteV) 0 0 0 0 nS) fun bO aZ a6=>Pl 1<|nt<|rt<|c9 aZ (.int .i64 0)<|?_
 subst a0 W v
 have hs:al bt 0 c b=aT (bh.mk c 0 0 0 0 0 0 0 0 0 0 0 [] [] (((((ak.mk b false 0).bytesC 1).need ((((ak.mk b false 0).byteV)==13)||(((ak.mk b false 0).byteV)==14)) 8).need (decide ((((((ak.mk b false 0).bytesC 1).need ((((ak.mk b false 0).byteV)==13)||(((ak.mk b false 0).byteV)==14)) 8).l.length:Nat) : Int)≤251)) 5).bytesR ((((((ak.mk b false 0).bytesC 1).need ((((ak.mk b false 0).byteV)==13)||(((ak.mk b false 0).byteV)==14)) 8).need (decide ((((((ak.mk b false 0).bytesC 1).need ((((ak.mk b false 0).byteV)==13)||(((ak.mk b false 0).byteV)==14)) 8).l.length:Nat) : Int)≤251)) 5).l.length:Nat) : Int)) [] ((ak.mk b false 0).byteV) 0 0 0 0 []) (((((ak.mk b false 0).bytesC 1).need ((((ak.mk b false 0).byteV)==13)||(((ak.mk b false 0).byteV)==14)) 8).need (decide ((((((ak.mk b false 0).bytesC 1).need ((((ak.mk b false 0).byteV)==13)||(((ak.mk b false 0).byteV)==14)) 8).l.length:Nat) : Int)≤251)) 5).bytesC ((((((ak.mk b false 0).bytesC 1).need ((((ak.mk b false 0).byteV)==13)||(((ak.mk b false 0).byteV)==14)) 8).need (decide ((((((ak.mk b false 0).bytesC 1).need ((((ak.mk b false 0).byteV)==13)||(((ak.mk b false 0).byteV)==14)) 8).l.length:Nat) : Int)≤251)) 5).l.length:Nat) : Int)):=by
   unfold al bt fk eD e6
   (try simp only[f,p,s,bs,if_true,if_false,decide_true,decide_false,eq_self,true_or,or_true,or_false,false_or,if_true,if_false,cG,cC,cH,cE,reduceIte])
   all_goals rfl
 rw[hs]
 exact b9 J ⟨_,_,_,_,_,rfl,aI.nil ..,aI.nil ..,(aN.upd' Z (u1 (ax.mono (S':=[R,P,O]) H (ac im (ac im au))) a6 im) (ah (aF C (by decide)) (ah (ae.safe G _ (by decide)) (ah (aF (ub (ud o B a) i) (by decide)) az)))),aI.nil ..,aI.nil ..,⟨(b8 (x:=c) (by omega)),(b8 (x:=0) (by omega)),(aD (x:=0) (by omega)),(aD (x:=0) (by omega)),(aD (x:=0) (by omega)),(aD (x:=0) (by omega)),(aD (x:=0) (by omega)),(aD (x:=0) (by omega)),(aD (x:=0) (by omega)),(aD (x:=0) (by omega)),(aD (x:=0) (by omega)),(aD (x:=0) (by omega)),(b8 (x:=(ak.mk b false 0).byteV) (by omega)),(b8 (x:=0) (by omega)),(b8 (x:=0) (by omega)),(b8 (x:=0) (by omega)),(b8 (x:=0) (by omega))⟩⟩ (ud a4 a6 q)
 have aO:=aH p
 refine sg<|Pl 1<|L0<|Oc<|m3 (bo y) fun bP b0 a7 bQ=>Pl 1<|?_
 have a8:=aQ a7 (Ne.symm d) F
 refine L0<|bS a8 17 (mG c 0 0 0 0 0 0 0 0 0 0 0 nS nS nS nS ((ak.mk b false 0).byteV) fU.byteV 0 0 0 nS) fun bR L a9=>ng<|Pl 2<|L0<|aU L 17<|Pl 2<|cu 4 [59] 63 (((decide (1≤fU.byteV))&&(decide (fU.byteV≤4)))) (fun K ad=>?_) ?_
 refine bl 59 ((decide (1≤fU.byteV))) (fun t=>?_) (fun t=>?_)
 have b1:=of_decide_eq_true t
 exact Pl 1<|L1<|aU L 17<|Pl 2<|ce ad (decide (fU.byteV≤4)) (by rw[t];rfl)
 have b1:=of_decide_eq_false t
 exact Pl 4<|ce ad false (by rw[t];rfl)
 refine L0<|Oc<|m2 (aM (((decide (1≤fU.byteV))&&(decide (fU.byteV≤4)))) 6 (ae.upd b0 a9 (aa d av) (ah (aF a8 (by decide)) az))) fun bT b2 b3=>?_
 refine ab b2 fun D af b4=>?_
 refine ng<|Pl 2<|nt<|c0<|go<|Pl 1<|L0<|Oc<|m3 (bo b4) fun bU b5 b6 bV=>Pl 1<|?_
 have ai:=u1 b3 b6 im
 have aj:=aQ ai (Ne.symm d) L
 refine L0<|bS aj 20 (mG c 0 0 0 0 0 0 0 0 0 0 0 nS nS nS nS ((ak.mk b false 0).byteV) fU.byteV 0 0 D.byteV nS) fun bW ba am=>ng<|Pl 1<|?_
 refine L0<|Oc<|m2 (bA (ae.upd b5 am (aa d av) (ah (aF aj (by decide)) az))) fun bX an ao=>nt<|sq<|sg<|Pl 1<|L0<|Oc<|mq (b7 an)<|?_
 have bY:=ae.len an
 refine Pl 1<|ng<|Pl 2<|nt<|?_
 have M:=ui a7 (ui a9 (ui ai (us am ao)))
 have ap:=ut V M (ac (ni (le (le j.size k.size) g.size) h) (ac (ni j.size a) au))
 refine cb (((((D.bytesC 1).endC).e)!=0)) (fun u=>?_) (fun u=>?_)
 have N:=ay u
 refine sg<|Pl 2<|?_
 refine L0<|be (ub (ut o M (ac (ni (le k.size g.size) h) (ac (nr a) au))) i) mZ fun bZ bb bc=>Pl 1<|nt<|rt<|tr<|c9 bb (.int .i64 (((D.bytesC 1).endC).e))<|?_
 subst af v
 have hs:al bt 0 c b=aT (bh.mk c 0 0 0 0 0 0 0 0 0 0 0 [] [] [] [] ((ak.mk b false 0).byteV) ((((ak.mk b false 0).bytesC 1).need ((((ak.mk b false 0).byteV)==13)||(((ak.mk b false 0).byteV)==14)) 8).byteV) 0 0 ((((((ak.mk b false 0).bytesC 1).need ((((ak.mk b false 0).byteV)==13)||(((ak.mk b false 0).byteV)==14)) 8).bytesC 1).need ((decide (1≤(((ak.mk b false 0).bytesC 1).need ((((ak.mk b false 0).byteV)==13)||(((ak.mk b false 0).byteV)==14)) 8).byteV))&&(decide ((((ak.mk b false 0).bytesC 1).need ((((ak.mk b false 0).byteV)==13)||(((ak.mk b false 0).byteV)==14)) 8).byteV≤4))) 6).byteV) []) ((((((ak.mk b false 0).bytesC 1).need ((((ak.mk b false 0).byteV)==13)||(((ak.mk b false 0).byteV)==14)) 8).bytesC 1).need ((decide (1≤(((ak.mk b false 0).bytesC 1).need ((((ak.mk b false 0).byteV)==13)||(((ak.mk b false 0).byteV)==14)) 8).byteV))&&(decide ((((ak.mk b false 0).bytesC 1).need ((((ak.mk b false 0).byteV)==13)||(((ak.mk b false 0).byteV)==14)) 8).byteV≤4))) 6).bytesC 1):=by
   unfold al bt fk eD e6
   (try simp only[f,p,u,bs,if_true,if_false,decide_true,decide_false,eq_self,true_or,or_true,or_false,false_or,if_true,if_false,cG,cC,cH,cE,reduceIte])
   all_goals rfl
 rw[hs]
 exact aV N (ud ap bc q)
 have N:=ag u
 refine bC<|sg<|?_
 refine L0<|c7 (aQ ao (Ne.symm d) ba)<|?_
 refine L0<|be (ub (ut o M (ac (ni (le k.size g.size) h) (ac (nr a) au))) i) (mG c 0 0 0 0 0 0 0 0 0 0 0 nS nS nS nS ((ak.mk b false 0).byteV) fU.byteV 0 0 D.byteV nS) fun c1 bd bf=>Pl 1<|nt<|rt<|c9 bd (.int .i64 0)<|?_
 subst af v
 have hs:al bt 0 c b=aT (bh.mk c 0 0 0 0 0 0 0 0 0 0 0 [] [] [] [] ((ak.mk b false 0).byteV) ((((ak.mk b false 0).bytesC 1).need ((((ak.mk b false 0).byteV)==13)||(((ak.mk b false 0).byteV)==14)) 8).byteV) 0 0 ((((((ak.mk b false 0).bytesC 1).need ((((ak.mk b false 0).byteV)==13)||(((ak.mk b false 0).byteV)==14)) 8).bytesC 1).need ((decide (1≤(((ak.mk b false 0).bytesC 1).need ((((ak.mk b false 0).byteV)==13)||(((ak.mk b false 0).byteV)==14)) 8).byteV))&&(decide ((((ak.mk b false 0).bytesC 1).need ((((ak.mk b false 0).byteV)==13)||(((ak.mk b false 0).byteV)==14)) 8).byteV≤4))) 6).byteV) []) ((((((ak.mk b false 0).bytesC 1).need ((((ak.mk b false 0).byteV)==13)||(((ak.mk b false 0).byteV)==14)) 8).bytesC 1).need ((decide (1≤(((ak.mk b false 0).bytesC 1).need ((((ak.mk b false 0).byteV)==13)||(((ak.mk b false 0).byteV)==14)) 8).byteV))&&(decide ((((ak.mk b false 0).bytesC 1).need ((((ak.mk b false 0).byteV)==13)||(((ak.mk b false 0).byteV)==14)) 8).byteV≤4))) 6).bytesC 1):=by
   unfold al bt fk eD e6
   (try simp only[f,p,u,bs,if_true,if_false,decide_true,decide_false,eq_self,true_or,or_true,or_false,false_or,if_true,if_false,cG,cC,cH,cE,reduceIte])
   all_goals rfl
 rw[hs]
 exact b9 N ⟨_,_,_,_,_,rfl,aI.nil ..,aI.nil ..,aI.nil ..,aI.nil ..,aI.nil ..,⟨(b8 (x:=c) (by omega)),(b8 (x:=0) (by omega)),(aD (x:=0) (by omega)),(aD (x:=0) (by omega)),(aD (x:=0) (by omega)),(aD (x:=0) (by omega)),(aD (x:=0) (by omega)),(aD (x:=0) (by omega)),(aD (x:=0) (by omega)),(aD (x:=0) (by omega)),(aD (x:=0) (by omega)),(aD (x:=0) (by omega)),(b8 (x:=(ak.mk b false 0).byteV) (by omega)),(b8 (x:=(((ak.mk b false 0).bytesC 1).need ((((ak.mk b false 0).byteV)==13)||(((ak.mk b false 0).byteV)==14)) 8).byteV) (by omega)),(b8 (x:=0) (by omega)),(b8 (x:=0) (by omega)),(b8 (x:=(((((ak.mk b false 0).bytesC 1).need ((((ak.mk b false 0).byteV)==13)||(((ak.mk b false 0).byteV)==14)) 8).bytesC 1).need ((decide (1≤(((ak.mk b false 0).bytesC 1).need ((((ak.mk b false 0).byteV)==13)||(((ak.mk b false 0).byteV)==14)) 8).byteV))&&(decide ((((ak.mk b false 0).bytesC 1).need ((((ak.mk b false 0).byteV)==13)||(((ak.mk b false 0).byteV)==14)) 8).byteV≤4))) 6).byteV) (by omega))⟩⟩ (ud ap bf q)
theorem kp{m:Bool}{A:Option Addr}{cp:Nat}{b:List Int}{w:World}{c:Int}(hcode:B8 c)(hsl:aN m w (.slice A b.length cp) b)(hb:b.length≤1048576) :
    Calls Tryz.prog 66 #[.int .i64 1,.int .u8 c,.slice A b.length cp] w (cM (al bt 1 c b) w):=by
 obtain⟨hcode1,hcode2⟩:=hcode
 have hln:(b.length:Int)≤1048576:=by omega
 refine en 81 Tryz.func66 rfl<|sg<|L0<|bB mZ fun T bp q h o=>Pl 1<|nt<|sq<|bk<|sg<|Pl 7<|nt<|?_
 refine c0<|sg<|Pl 3<|nt<|cb ((c != 43)) (fun i=>?_) (fun i=>?_)
 have aC:=ay i
 refine sg<|Pl 1<|L0<|be h mZ fun bq aE aJ=>Pl 1<|nt<|rt<|br<|tr<|c9 aE (.int .i64 4)<|?_
 have hs:al bt 1 c b=(bh.zero,4):=by
   unfold al bt fk eD e6
   (try simp only[i,bs,if_true,if_false,decide_true,decide_false,eq_self,true_or,or_true,or_false,false_or,if_true,if_false,cG,cC,cH,cE,reduceIte])
   all_goals rfl
 rw[hs]
 exact bF (ud o aJ q)
 have aC:=ag i
 refine sk<|bn<|tn<|sg<|Pl 1<|?_
 refine L0<|Oc<|e3 (ca (aN.old hsl o) (by omega)) fun U bu a V j=>Pl 1<|ng<|Pl 2<|L0<|Oc<|m3 (bo V) fun bv aK d bw=>Pl 1<|L0<|bB mZ fun W bx f aL aO=>L0<|be aL (mG c 0 0 0 0 0 0 0 0 0 0 0 nS nS nS nS ((ak.mk b false 0).byteV) 0 0 0 0 nS) fun bz E aP=>nt<|sq<|?_
 refine go<|Pl 2<|L0<|aU E 16<|Pl 2<|cu 4 [33] 37 (((((ak.mk b false 0).byteV)==13)||(((ak.mk b false 0).byteV)==14))) (fun K X=>?_) ?_
 refine bl 33 ((((ak.mk b false 0).byteV)==13)) (fun r=>?_) (fun r=>?_)
 have aR:=aB r
 exact Pl 4<|ce X true (by rw[r];rfl)
 have aR:=aH r
 exact Pl 1<|L1<|aU E 16<|Pl 2<|ce X (((ak.mk b false 0).byteV)==14) (by rw[r];rfl)
 have Y:=ud aO aP f
 refine L0<|Oc<|m2 (aM (((((ak.mk b false 0).byteV)==13)||(((ak.mk b false 0).byteV)==14))) 8 (ae.old aK Y)) fun bE aW Z=>?_
 refine ab aW fun fU v y=>?_
 refine nt<|sq<|sg<|Pl 1<|?_
 have g:=nb (ae.lt V) d.size f
 have F:=aQ Z (Ne.symm g) E
 refine L0<|aU F 16<|Pl 1<|nt<|?_
 have k:=ud j (u1 d (uz Y Z) im) a
 have a0:=aG o k
 refine cb ((((ak.mk b false 0).byteV)==13)) (fun p=>?_) (fun p=>?_)
 have aY:=aB p
 refine sg<|Pl 2<|L0<|Oc<|mq (cy y)<|?_
 have bG:=ae.len y
 refine Pl 1<|L0<|Oc<|m2 (aM ((decide (((fU.l.length:Nat) : Int)≤251))) 5 y) fun bH aZ b0=>?_
 refine ab aZ fun x59 a1 z=>?_
 refine nt<|go<|Pl 2<|L0<|Oc<|mq (cy z)<|?_
 have bI:=ae.len z
 refine L0<|Oc<|mY (bD (n:=((x59.l.length:Nat) : Int)) z) fun a2 a3 bJ a4 bK bL b1 b2=>?_
 have bM:=Nat.le_trans (ak.bytesR_le x59 ((x59.l.length:Nat) : Int)) (ae.len z)
 refine ab b1 fun x69 a5 G=>?_
 refine Pl 1<|?_
 have B:=u1 b0 b2 im
 have C:=aQ B (Ne.symm g) F
 refine L0<|bS C 14 (mG c 0 0 0 0 0 0 0 0 0 0 0 nS nS (.slice a2 ((x59.bytesR ((x59.l.length:Nat) : Int)).length) a3) nS ((ak.mk b false 0).byteV) 0 0 0 0 nS) fun bN b3 a6=>ng<|Pl 1<|?_
 refine L0<|Oc<|m2 (bA (ae.upd G a6 (aa g av) (ah (aF C (by decide)) az))) fun bO a7 a8=>nt<|sq<|sg<|Pl 1<|L0<|Oc<|mq (b7 a7)<|?_
 have bP:=ae.len a7
 refine Pl 1<|ng<|Pl 2<|nt<|?_
 have H:=us a6 a8
 have I:=ui B H
 have a9:=ut a0 I (ac (ni (le (le o.size j.size) d.size) f) (ac (ni o.size a) au))
 refine cb ((x69.endC.e != 0)) (fun s=>?_) (fun s=>?_)
 have J:=ay s
 refine sg<|Pl 2<|?_
 refine L0<|be (ub (ut k I (ac (ni (le j.size d.size) f) (ac (nr a) au))) h) mZ fun bQ b4 ad=>Pl 1<|nt<|rt<|tr<|c9 b4 (.int .i64 x69.endC.e)<|?_
 subst a5 a1 v
 have bR:=aN.upd' a4 (u1 (ax.mono (S':=[W,U,T]) H (ac im (ac im au))) ad im) (ah (aF C (by decide)) (ah (ae.safe G _ (by decide)) (ah (aF (ub (ud k B a) h) (by decide)) az)))
 have hs:al bt 1 c b=aT (bh.mk c 0 0 0 0 0 0 0 0 0 0 0 [] [] (((((ak.mk b false 0).bytesC 1).need ((((ak.mk b false 0).byteV)==13)||(((ak.mk b false 0).byteV)==14)) 8).need (decide ((((((ak.mk b false 0).bytesC 1).need ((((ak.mk b false 0).byteV)==13)||(((ak.mk b false 0).byteV)==14)) 8).l.length:Nat) : Int)≤251)) 5).bytesR ((((((ak.mk b false 0).bytesC 1).need ((((ak.mk b false 0).byteV)==13)||(((ak.mk b false 0).byteV)==14)) 8).need (decide ((((((ak.mk b false 0).bytesC 1).need ((((ak.mk b false 0).byteV)==13)||(((ak.mk b false 0).byteV)==14)) 8).l.length:Nat) : Int)≤251)) 5).l.length:Nat) : Int)) [] ((ak.mk b false 0).byteV) 0 0 0 0 []) (((((ak.mk b false 0).bytesC 1).need ((((ak.mk b false 0).byteV)==13)||(((ak.mk b false 0).byteV)==14)) 8).need (decide ((((((ak.mk b false 0).bytesC 1).need ((((ak.mk b false 0).byteV)==13)||(((ak.mk b false 0).byteV)==14)) 8).l.length:Nat) : Int)≤251)) 5).bytesC ((((((ak.mk b false 0).bytesC 1).need ((((ak.mk b false 0).byteV)==13)||(((ak.mk b false 0).byteV)==14)) 8).need (decide ((((((ak.mk b false 0).bytesC 1).need ((((ak.mk b false 0).byteV)==13)||(((ak.mk b false 0).byteV)==14)) 8).l.length:Nat) : Int)≤251)) 5).l.length:Nat) : Int)):=by
   unfold al bt fk eD e6
   (try simp only[i,p,s,bs,if_true,if_false,decide_true,decide_false,eq_self,true_or,or_true,or_false,false_or,if_true,if_false,cG,cC,cH,cE,reduceIte])
   all_goals rfl
 rw[hs]
 exact aV J (ud a9 ad q)
 have J:=ag s
 refine bC<|sg<|?_
 refine L0<|c7 (aQ a8 (Ne.symm g) b3)<|?_
 refine L0<|be (ub (ut k I (ac (ni (le j.size d.size) f) (ac (nr a) au))) h) (mG c 0 0 0 0 0 0 0 0 0 0 0 nS nS (.slice a2 ((x59.bytesR ((x59.l.length:Nat) : Int)).length) a3) nS ((ak.mk b false 0).byteV) 0 0 0 0 nS) fun bT b5 af=>Pl 1<|nt<|rt<|c9 b5 (.int .i64 0)<|?_
 subst a5 a1 v
 have hs:al bt 1 c b=aT (bh.mk c 0 0 0 0 0 0 0 0 0 0 0 [] [] (((((ak.mk b false 0).bytesC 1).need ((((ak.mk b false 0).byteV)==13)||(((ak.mk b false 0).byteV)==14)) 8).need (decide ((((((ak.mk b false 0).bytesC 1).need ((((ak.mk b false 0).byteV)==13)||(((ak.mk b false 0).byteV)==14)) 8).l.length:Nat) : Int)≤251)) 5).bytesR ((((((ak.mk b false 0).bytesC 1).need ((((ak.mk b false 0).byteV)==13)||(((ak.mk b false 0).byteV)==14)) 8).need (decide ((((((ak.mk b false 0).bytesC 1).need ((((ak.mk b false 0).byteV)==13)||(((ak.mk b false 0).byteV)==14)) 8).l.length:Nat) : Int)≤251)) 5).l.length:Nat) : Int)) [] ((ak.mk b false 0).byteV) 0 0 0 0 []) (((((ak.mk b false 0).bytesC 1).need ((((ak.mk b false 0).byteV)==13)||(((ak.mk b false 0).byteV)==14)) 8).need (decide ((((((ak.mk b false 0).bytesC 1).need ((((ak.mk b false 0).byteV)==13)||(((ak.mk b false 0).byteV)==14)) 8).l.length:Nat) : Int)≤251)) 5).bytesC ((((((ak.mk b false 0).bytesC 1).need ((((ak.mk b false 0).byteV)==13)||(((ak.mk b false 0).byteV)==14)) 8).need (decide ((((((ak.mk b false 0).bytesC 1).need ((((ak.mk b false 0).byteV)==13)||(((ak.mk b false 0).byteV)==14)) 8).l.length:Nat) : Int)≤251)) 5).l.length:Nat) : Int)):=by
   unfold al bt fk eD e6
   (try simp only[i,p,s,bs,if_true,if_false,decide_true,decide_false,eq_self,true_or,or_true,or_false,false_or,if_true,if_false,cG,cC,cH,cE,reduceIte])
   all_goals rfl
 rw[hs]
 exact b9 J ⟨_,_,_,_,_,rfl,aI.nil ..,aI.nil ..,(aN.upd' a4 (u1 (ax.mono (S':=[W,U,T]) H (ac im (ac im au))) af im) (ah (aF C (by decide)) (ah (ae.safe G _ (by decide)) (ah (aF (ub (ud k B a) h) (by decide)) az)))),aI.nil ..,aI.nil ..,⟨(b8 (x:=c) (by omega)),(b8 (x:=0) (by omega)),(aD (x:=0) (by omega)),(aD (x:=0) (by omega)),(aD (x:=0) (by omega)),(aD (x:=0) (by omega)),(aD (x:=0) (by omega)),(aD (x:=0) (by omega)),(aD (x:=0) (by omega)),(aD (x:=0) (by omega)),(aD (x:=0) (by omega)),(aD (x:=0) (by omega)),(b8 (x:=(ak.mk b false 0).byteV) (by omega)),(b8 (x:=0) (by omega)),(b8 (x:=0) (by omega)),(b8 (x:=0) (by omega)),(b8 (x:=0) (by omega))⟩⟩ (ud a9 af q)
 have aY:=aH p
 refine sg<|Pl 1<|L0<|Oc<|m3 (bo y) fun bU b6 L bV=>Pl 1<|?_
 have ai:=aQ L (Ne.symm g) F
 refine L0<|bS ai 17 (mG c 0 0 0 0 0 0 0 0 0 0 0 nS nS nS nS ((ak.mk b false 0).byteV) fU.byteV 0 0 0 nS) fun bW M N=>ng<|Pl 2<|L0<|aU M 17<|Pl 2<|cu 4 [59] 63 (((decide (1≤fU.byteV))&&(decide (fU.byteV≤4)))) (fun K aj=>?_) ?_
 refine bl 59 ((decide (1≤fU.byteV))) (fun t=>?_) (fun t=>?_)
 have ba:=of_decide_eq_true t
 exact Pl 1<|L1<|aU M 17<|Pl 2<|ce aj (decide (fU.byteV≤4)) (by rw[t];rfl)
 have ba:=of_decide_eq_false t
 exact Pl 4<|ce aj false (by rw[t];rfl)
 refine L0<|Oc<|m2 (aM (((decide (1≤fU.byteV))&&(decide (fU.byteV≤4)))) 6 (ae.upd b6 N (aa g av) (ah (aF ai (by decide)) az))) fun bX bb O=>?_
 refine ab bb fun bY am bc=>?_
 refine ng<|Pl 2<|nt<|c1<|go<|Pl 1<|?_
 refine L0<|Oc<|m3 (la (c:=c) (me:=(ak.mk b false 0).byteV) (kd:=fU.byteV) ⟨hcode1,hcode2⟩ (b8 (by omega)) (b8 (by omega)) bc (aQ O (Ne.symm g) M) g) fun bZ an bd ao=>?_
 obtain⟨bf,D,P⟩:=bd
 refine ng<|Pl 1<|L0<|Oc<|m2 (bA an) fun c2 bg Q=>?_
 refine ab bg fun ap aq ar=>?_
 refine nt<|sq<|sg<|Pl 1<|L0<|Oc<|mq (b7 ar)<|?_
 have c3:=ae.len ar
 refine Pl 1<|ng<|Pl 2<|nt<|?_
 have R:=ui L (ui N (ui O (u1 ao Q im)))
 have aw:=ut a0 R (ac (ni o.size a) (ac (ni (le (le o.size j.size) d.size) f) au))
 refine cb ((ap.e != 0)) (fun u=>?_) (fun u=>?_)
 have S:=ay u
 refine sg<|Pl 2<|?_
 refine L0<|be (ub (ut k R (ac (nr a) (ac (ni (le j.size d.size) f) au))) h) mZ fun c4 bi bj=>Pl 1<|nt<|rt<|tr<|c9 bi (.int .i64 ap.e)<|?_
 subst aq am v
 have hs:al bt 1 c b=aT ({ bh.zero with code:=c,mei:=(ak.mk b false 0).byteV,kind:=(((ak.mk b false 0).bytesC 1).need ((((ak.mk b false 0).byteV)==13)||(((ak.mk b false 0).byteV)==14)) 8).byteV,level:=(((((ak.mk b false 0).bytesC 1).need ((((ak.mk b false 0).byteV)==13)||(((ak.mk b false 0).byteV)==14)) 8).bytesC 1).need ((decide (1≤(((ak.mk b false 0).bytesC 1).need ((((ak.mk b false 0).byteV)==13)||(((ak.mk b false 0).byteV)==14)) 8).byteV))&&(decide ((((ak.mk b false 0).bytesC 1).need ((((ak.mk b false 0).byteV)==13)||(((ak.mk b false 0).byteV)==14)) 8).byteV≤4))) 6).byteV,more:=(k9 (((((ak.mk b false 0).bytesC 1).need ((((ak.mk b false 0).byteV)==13)||(((ak.mk b false 0).byteV)==14)) 8).bytesC 1).need ((decide (1≤(((ak.mk b false 0).bytesC 1).need ((((ak.mk b false 0).byteV)==13)||(((ak.mk b false 0).byteV)==14)) 8).byteV))&&(decide ((((ak.mk b false 0).bytesC 1).need ((((ak.mk b false 0).byteV)==13)||(((ak.mk b false 0).byteV)==14)) 8).byteV≤4))) 6)).byteV,next:=(nj (((((ak.mk b false 0).bytesC 1).need ((((ak.mk b false 0).byteV)==13)||(((ak.mk b false 0).byteV)==14)) 8).bytesC 1).need ((decide (1≤(((ak.mk b false 0).bytesC 1).need ((((ak.mk b false 0).byteV)==13)||(((ak.mk b false 0).byteV)==14)) 8).byteV))&&(decide ((((ak.mk b false 0).bytesC 1).need ((((ak.mk b false 0).byteV)==13)||(((ak.mk b false 0).byteV)==14)) 8).byteV≤4))) 6)).byteV,objects:=(dt (((ak.mk b false 0).bytesC 1).need ((((ak.mk b false 0).byteV)==13)||(((ak.mk b false 0).byteV)==14)) 8).byteV (((((ak.mk b false 0).bytesC 1).need ((((ak.mk b false 0).byteV)==13)||(((ak.mk b false 0).byteV)==14)) 8).bytesC 1).need ((decide (1≤(((ak.mk b false 0).bytesC 1).need ((((ak.mk b false 0).byteV)==13)||(((ak.mk b false 0).byteV)==14)) 8).byteV))&&(decide ((((ak.mk b false 0).bytesC 1).need ((((ak.mk b false 0).byteV)==13)||(((ak.mk b false 0).byteV)==14)) 8).byteV≤4))) 6)).2 }) ((dt (((ak.mk b false 0).bytesC 1).need ((((ak.mk b false 0).byteV)==13)||(((ak.mk b false 0).byteV)==14)) 8).byteV (((((ak.mk b false 0).bytesC 1).need ((((ak.mk b false 0).byteV)==13)||(((ak.mk b false 0).byteV)==14)) 8).bytesC 1).need ((decide (1≤(((ak.mk b false 0).bytesC 1).need ((((ak.mk b false 0).byteV)==13)||(((ak.mk b false 0).byteV)==14)) 8).byteV))&&(decide ((((ak.mk b false 0).bytesC 1).need ((((ak.mk b false 0).byteV)==13)||(((ak.mk b false 0).byteV)==14)) 8).byteV≤4))) 6)).1):=by
   unfold al bt fk eD e6
   (try simp only[i,p,u,bs,if_true,if_false,decide_true,decide_false,eq_self,true_or,or_true,or_false,false_or,if_true,if_false,cG,cC,cH,cE,reduceIte])
   all_goals rfl
 rw[hs]
 exact aV S (ud aw bj q)
 have S:=ag u
 refine bC<|sg<|?_
 refine L0<|c7 (hz:=(by rw[D.2];exact aS)) (aQ Q (Ne.symm g) D.1)<|?_
 refine L0<|be (hz:=(by rw[D.2];exact aS)) (hv:=P.size) (h1:=P.one) (ub (ut k R (ac (nr a) (ac (ni (le j.size d.size) f) au))) h) (bf) fun c5 bm aA=>Pl 1<|nt<|rt<|dF 22 D.2 bm (.int .i64 0)<|?_
 subst aq am v
 have hs:al bt 1 c b=aT ({ bh.zero with code:=c,mei:=(ak.mk b false 0).byteV,kind:=(((ak.mk b false 0).bytesC 1).need ((((ak.mk b false 0).byteV)==13)||(((ak.mk b false 0).byteV)==14)) 8).byteV,level:=(((((ak.mk b false 0).bytesC 1).need ((((ak.mk b false 0).byteV)==13)||(((ak.mk b false 0).byteV)==14)) 8).bytesC 1).need ((decide (1≤(((ak.mk b false 0).bytesC 1).need ((((ak.mk b false 0).byteV)==13)||(((ak.mk b false 0).byteV)==14)) 8).byteV))&&(decide ((((ak.mk b false 0).bytesC 1).need ((((ak.mk b false 0).byteV)==13)||(((ak.mk b false 0).byteV)==14)) 8).byteV≤4))) 6).byteV,more:=(k9 (((((ak.mk b false 0).bytesC 1).need ((((ak.mk b false 0).byteV)==13)||(((ak.mk b false 0).byteV)==14)) 8).bytesC 1).need ((decide (1≤(((ak.mk b false 0).bytesC 1).need ((((ak.mk b false 0).byteV)==13)||(((ak.mk b false 0).byteV)==14)) 8).byteV))&&(decide ((((ak.mk b false 0).bytesC 1).need ((((ak.mk b false 0).byteV)==13)||(((ak.mk b false 0).byteV)==14)) 8).byteV≤4))) 6)).byteV,next:=(nj (((((ak.mk b false 0).bytesC 1).need ((((ak.mk b false 0).byteV)==13)||(((ak.mk b false 0).byteV)==14)) 8).bytesC 1).need ((decide (1≤(((ak.mk b false 0).bytesC 1).need ((((ak.mk b false 0).byteV)==13)||(((ak.mk b false 0).byteV)==14)) 8).byteV))&&(decide ((((ak.mk b false 0).bytesC 1).need ((((ak.mk b false 0).byteV)==13)||(((ak.mk b false 0).byteV)==14)) 8).byteV≤4))) 6)).byteV,objects:=(dt (((ak.mk b false 0).bytesC 1).need ((((ak.mk b false 0).byteV)==13)||(((ak.mk b false 0).byteV)==14)) 8).byteV (((((ak.mk b false 0).bytesC 1).need ((((ak.mk b false 0).byteV)==13)||(((ak.mk b false 0).byteV)==14)) 8).bytesC 1).need ((decide (1≤(((ak.mk b false 0).bytesC 1).need ((((ak.mk b false 0).byteV)==13)||(((ak.mk b false 0).byteV)==14)) 8).byteV))&&(decide ((((ak.mk b false 0).bytesC 1).need ((((ak.mk b false 0).byteV)==13)||(((ak.mk b false 0).byteV)==14)) 8).byteV≤4))) 6)).2 }) ((dt (((ak.mk b false 0).bytesC 1).need ((((ak.mk b false 0).byteV)==13)||(((ak.mk b false 0).byteV)==14)) 8).byteV (((((ak.mk b false 0).bytesC 1).need ((((ak.mk b false 0).byteV)==13)||(((ak.mk b false 0).byteV)==14)) 8).bytesC 1).need ((decide (1≤(((ak.mk b false 0).bytesC 1).need ((((ak.mk b false 0).byteV)==13)||(((ak.mk b false 0).byteV)==14)) 8).byteV))&&(decide ((((ak.mk b false 0).bytesC 1).need ((((ak.mk b false 0).byteV)==13)||(((ak.mk b false 0).byteV)==14)) 8).byteV≤4))) 6)).1):=by
   unfold al bt fk eD e6
   (try simp only[i,p,u,bs,if_true,if_false,decide_true,decide_false,eq_self,true_or,or_true,or_false,false_or,if_true,if_false,cG,cC,cH,cE,reduceIte])
   all_goals rfl
 rw[hs]
 exact b9 S (aX.upd P (us Q aA) (ah (ae.safe an _ (by decide)) (ah (aF (ub (ut k (ui L (ui N (ui O ao))) (ac (nr a) (ac (ni (le j.size d.size) f) au))) h) (by decide)) az))) (ud aw aA q)
theorem kj{m:Bool}{A:Option Addr}{cp:Nat}{b:List Int}{w:World}{dir c:Int}(hcode:B8 c)(hsl:aN m w (.slice A b.length cp) b)(hb:b.length≤1048576)(hd:¬ (dir=0∨dir=1)) :
    Calls Tryz.prog 66 #[.int .i64 dir,.int .u8 c,.slice A b.length cp] w (cM (al bt dir c b) w):=by
 obtain⟨hcode1,hcode2⟩:=hcode
 have hln:(b.length:Int)≤1048576:=by omega
 have e0:(dir != 0)=true:=by simp;omega
 have e1:(dir != 1)=true:=by simp;omega
 refine en 81 Tryz.func66 rfl<|sg<|L0<|bB mZ fun g h a d e=>Pl 1<|nt<|sq<|bk<|sg<|Pl 3<|sy 14 e0<|Pl 4<|nl<|?_
 refine tn<|ct e1<|sg<|Pl 1<|L0<|be d mZ fun i dp f=>Pl 1<|nt<|rt<|br<|tr<|c9 dp (.int .i64 1)<|?_
 have hs:al bt dir c b=(bh.zero,1):=by
   unfold al bt fk eD e6
   (try simp only[e0,e1,bs,if_true,if_false,decide_true,decide_false,eq_self,true_or,or_true,or_false,false_or,if_true,if_false,cG,cC,cH,cE,reduceIte,hd])
   all_goals rfl
 rw[hs]
 exact bF (ud e f a)
theorem mS{m:Bool}{v:Value}{b:List Int}{w:World}{dir c:Int}(hc:B8 c)(h:aN m w v b)(hb:b.length≤1048576) :
    Calls Tryz.prog 66 #[.int .i64 dir,.int .u8 c,v] w (cM (al bt dir c b) w):=by
  obtain⟨A,cp,rfl,_,_⟩:=h.shape
  by_cases h0:dir=0
  · subst h0;exact jA hc h hb
  by_cases h1:dir=1
  · subst h1;exact kp hc h hb
  exact kj hc h hb (by omega)
end Go.Proofs.YtpglhicfhppaiaaGreat
