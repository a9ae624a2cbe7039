/- Contracts of functions, part CStreamRuns2. -/
import Derived.Test.YtdkhbcefkfgbdaaGreatCStreamRuns1
import Derived.Laws.BitsAllLaws
import Derived.RangeFuncRecord
import Derived.RangeFuncLeaves
import Derived.RangeFuncCalls
set_option linter.unusedVariables false
set_option linter.unusedSimpArgs false
set_option maxRecDepth 100000
set_option maxHeartbeats 4000000
namespace Go.Proofs.YtdkhbcefkfgbdaaGreat
open Go.RowKit
def iP (Q:World→Ending→World→Prop)(w:World)(e:Ending)(w':World) : Prop:=∃ F free,e = .returned (.func (.func F) #[] free)∧zM Tryz.prog F=some (false,true)∧aD [] w w'∧Calls Tryz.prog F free w' (Q w')
variable {C:al}{g:Nat}{most:Int}{w:World}
theorem nf{a:Int}(hC:ae w g C)(ha:0≤a∧a<65536) :
    Calls Tryz.prog 199 #[vP g 0,vW a,vI most] w (mv g .i64 65536 C.wordV (bJ C a most) w):=by
 have hlen:=hC.len
 have hrr:=hC.wordV
 refine en 26 Tryz.func199 rfl<|ak 1<|aL 1<|az<|m3 (bL hC) fun k b c l=>b6 C.wordV<|aj 1<|ak 4<|cV 4 [14] 18 14 (decide (1≤C.wordV)) (decide (C.wordV≤most)) (fun K d e=>?_) ?_
 have m:=of_decide_eq_true e
 exact Pl 4<|ce d _ rfl
 refine az<|m2 (bf (((decide (1≤C.wordV))&&(decide (C.wordV≤most)))) 5 b) fun o f h=>aL 3<|az<|mq (iI (a:=a) (n:=C.wordV) (by omega))<|az<|m2 (bf ((dh a C.wordV)) 7 f) fun p i j=>aL 2<|nl<|tn<|rt<|rr (vI C.wordV)<|?_
 exact dq (by unfold bJ;(try simp only[bj,reduceIte])<;>rfl) ⟨rfl,i,(u1 c (u1 h j im) im),hrr⟩
variable {n:Int}
theorem kk(hC:ae w g C)(hn:0≤n∧n<65536) :
    Calls Tryz.prog 205 #[vP g 0,vI n] w (fun e w'=>∃ v,e = .returned v∧kx w.heap.size w' v ((cM C n).wordsR n)∧ae w' g ((cM C n).wordsC n)∧aD [g] w w'):=by
 have hlen:=hC.len
 refine en 16 Tryz.func205 rfl<|ak 1<|aL 2<|az<|m3 (bM hC) fun l c a m=>b6 C.byteV<|Pl 1<|b6 (2*n)<|Pl 1<|az<|m2 (bf ((C.byteV==(2*n))) 5 c) fun o d b=>?_
 refine aL 2<|az<|kF (dU (n:=n) d) fun f h p i q r j k=>aj 1<|rt<|rr (.slice f ((((C.bytesC 1).need (C.byteV==(2*n)) 5).wordsR n).length) h)<|?_
 have hs:cM C n=((C.bytesC 1).need (C.byteV==(2*n)) 5):=by
   unfold cM
   (try simp only[bj,reduceIte])
   all_goals rfl
 rw[hs]
 exact⟨_,rfl,(aQ.weaken i (le a.size b.size)),j,(u1 a (u1 b k im) im)⟩
variable {bc bm gm:Nat}{c:Int}
theorem ig(hcode:B8 c)(hC:ae w g C)(hm:w.heap[gm]? = some (.cells (mC c) 45 (0,0)))(hne:g≠gm)   (hbc:w.heap[bc]? = some (.cells #[vP g 0] 164 (0,0)))(n_bc_g:bc≠g)(n_bc_gm:bc≠gm)(hbm:w.heap[bm]? = some (.cells #[vP gm 0] 166 (0,0)))(n_bm_g:bm≠g)(n_bm_gm:bm≠gm) :
    Calls Tryz.prog 198 #[vI most,vP bc 0,vP bm 0] w (rc g gm (bJ (C.wordsC 1) C.wordV most) (mG c 0 C.wordV (C.wordsC 1).wordV 0 0 0 0 0 0 0 0 nS nS nS nS 0 0 0 0 0 nS) w):=by
 obtain⟨hcode1,hcode2⟩:=hcode
 have hlen:=hC.len
 refine en 20 Tryz.func198 rfl<|sq<|Rg 6 (fun w'=>w'.cell? ⟨bm,0,none⟩=some (vP gm 0)∧w'.cell? ⟨bc,0,none⟩=some (vP g 0)) fun I d=>?_
 have m:=ub d hbm
 have n:=ub d hbc
 refine bB ⟨(ap m rfl),(ap n rfl)⟩ fun o=>Rl 0 o (fun _ hs=>hs.1)<|Rl 1 o (fun _ hs=>hs.2)<|?_
 refine R0 2 rfl<|Oc<|m3 (bL (ae.old hC d)) fun J F i K=>?_
 have p:=aY i n_bm_g m
 have q:=aY i n_bc_g n
 refine bB ⟨(ap p rfl),(ap q rfl)⟩ fun r=>Rt 3 r<|Rt 4 r<|?_
 have s:=uz d i
 have t:=aY s (Ne.symm hne) hm
 refine R0 5 rfl<|bI t 2 (mG c 0 C.wordV 0 0 0 0 0 0 0 0 0 nS nS nS nS 0 0 0 0 0 nS) fun L G j=>?_
 have u:=aY j n_bm_gm p
 have v:=aY j n_bc_gm q
 refine bB ⟨(ap u rfl),(ap v rfl)⟩ fun M=>re<|tn<|Rg 12 (fun w'=>w'.cell? ⟨bm,0,none⟩=some (vP gm 0)∧w'.cell? ⟨bc,0,none⟩=some (vP g 0)∧w'.cell? ⟨gm,2,none⟩=some (vW C.wordV)) fun N e=>?_
 have x:=ub e u
 have y:=ub e v
 have z:=ub e G
 refine bB ⟨(ap x rfl),(ap y rfl),(ap z rfl)⟩ fun b=>Rl 0 b (fun _ hs=>hs.1)<|Rl 1 b (fun _ hs=>hs.2.1)<|Rl 2 b (fun _ hs=>hs.1)<|Rt 3 b<|Rt 4 b<|Rl 5 b (fun _ hs=>hs.2.2)<|Rt 6 b<|?_
 have A:=aM j e
 refine R0 7 rfl<|Oc<|m3 (nf (a:=C.wordV) (most:=most) (ae.upd F A (aa hne ay) (ah (aW t (by decide)) aC)) (by omega)) fun O H f P=>?_
 have B:=aY f n_bm_g x
 have D:=aY f n_bc_g y
 have k:=aY f (Ne.symm hne) z
 refine bB ⟨(ap B rfl),(ap D rfl),(ap k rfl)⟩ fun l=>Rr 8 l (vW ((C.wordsC 1).wordV)) (fun _ _=>bF (vW (IntKind.u16.wrap ((C.wordsC 1).wordV))) (by kernel_rfl) (congrArg (Value.int .u16) (i6 (by omega))))<|Rt 9 l<|Rt 10 l<|R0 11 rfl<|bI k 3 (mG c 0 C.wordV ((C.wordsC 1).wordV) 0 0 0 0 0 0 0 0 nS nS nS nS 0 0 0 0 0 nS) fun Q E h=>?_
 refine bB ⟨(ap (aY h n_bm_gm B) rfl),(ap (aY h n_bc_gm D) rfl),(ap E rfl)⟩ fun R=>re<|rm (.tuple #[])<|?_
 exact⟨rfl,(ae.upd H h (aa hne ay) (ah (aW k (by decide)) aC)),E,(ui s (ui A (us f h)))⟩
variable {bw:Nat}
theorem CV(hcode:B8 c)(hC:ae w g C)(hm:w.heap[gm]? = some (.cells (mC c) 45 (0,0)))(hne:g≠gm)    (hbc:w.heap[bc]? = some (.cells #[vP g 0] 164 (0,0)))(n_bc_g:bc≠g)(n_bc_gm:bc≠gm)(hbm:w.heap[bm]? = some (.cells #[vP gm 0] 166 (0,0)))(n_bm_g:bm≠g)(n_bm_gm:bm≠gm)(hbw:w.heap[bw]? = some (.cells #[.func (.func 198) #[] #[vP bc 0,vP bm 0]] 218 (0,0)))(n_bw_g:bw≠g)(n_bw_gm:bw≠gm) :
    Calls Tryz.prog 200 #[vP bw 0] w (c5 g gm (bX 125 c C).1 (bX 125 c C).2 w):=by
 obtain⟨hcode1,hcode2⟩:=hcode
 have hlen:=hC.len
 refine en 3 Tryz.func200 rfl<|go<|aH hbw 0<|L0<|i4 #[] #[vP bc 0,vP bm 0] (args:=#[vI 125,vP bc 0,vP bm 0])<|m3 (ig (most:=125) ⟨hcode1,hcode2⟩ hC hm hne hbc n_bc_g n_bc_gm hbm n_bm_g n_bm_gm) fun e a b d=>?_
 have f:=(hC).wordV
 have h:=bN (ck (hC).rng 1)
 refine nl<|rm (.tuple #[])<|?_
 have hs:bX 125 c C=((bJ (C.wordsC 1) C.wordV 125),(bg.mk c 0 C.wordV ((C.wordsC 1).wordV) 0 0 0 0 0 0 0 0 [] [] [] [] 0 0 0 0 0 [])):=by
   unfold bX
   (try simp only[bj,reduceIte])
   all_goals rfl
 rw[hs]
 exact⟨rfl,a,⟨_,⟨b,rfl⟩,⟨_,_,_,_,_,rfl,aI.nil ..,aI.nil ..,aI.nil ..,aI.nil ..,aI.nil ..,(c8 (by omega))⟩⟩,d⟩
theorem C5(hcode:B8 c)(hC:ae w g C)(hm:w.heap[gm]? = some (.cells (mC c) 45 (0,0)))(hne:g≠gm)   (hbc:w.heap[bc]? = some (.cells #[vP g 0] 164 (0,0)))(n_bc_g:bc≠g)(n_bc_gm:bc≠gm)(hbm:w.heap[bm]? = some (.cells #[vP gm 0] 166 (0,0)))(n_bm_g:bm≠g)(n_bm_gm:bm≠gm) :
    Calls Tryz.prog 201 #[vP bc 0,vP bm 0] w (c5 g gm (cj c C).1 (cj c C).2 w):=by
 obtain⟨hcode1,hcode2⟩:=hcode
 have hlen:=hC.len
 refine en 26 Tryz.func201 rfl<|sg<|aH hbc 0<|az<|m3 (bM hC) fun M y i N=>b6 C.byteV<|Pl 1<|ng<|?_
 have j:=aY i n_bc_g hbc
 refine aH j 0<|Pl 1<|L0<|Oe (vI (Int.tmod C.byteV 2)) (vI (C.byteV%2)) (congrArg (Value.int .i64) (Int.tmod_eq_emod_of_nonneg (by omega)))<|Pl 2<|cV 3 [10] 13 10 ((C.byteV%2)==0) (decide (2≤C.byteV)) (fun K z A=>?_) ?_
 have O:=am A
 exact Pl 3<|ce z _ rfl
 refine Pl 1<|cV 3 [14] 17 14 (((C.byteV%2)==0)&&(decide (2≤C.byteV))) (decide (C.byteV≤250)) (fun K B k=>?_) ?_
 have D:=(aR k).1
 have E:=(aR k).2
 have P:=am D
 have Q:=of_decide_eq_true E
 exact Pl 3<|ce B _ rfl
 refine az<|m2 (bf (((((C.byteV%2)==0)&&(decide (2≤C.byteV)))&&(decide (C.byteV≤250)))) 5 y) fun R F G=>nt<|Rg 8 (fun w'=>w'.cell? ⟨bm,0,none⟩=some (vP gm 0)∧w'.cell? ⟨bc,0,none⟩=some (vP g 0)) fun S l=>?_
 have m:=aM G l
 have b:=u1 i m im
 have o:=aY b n_bm_g hbm
 have p:=aY m n_bc_g j
 refine bB ⟨(ap o rfl),(ap p rfl)⟩ fun d=>Rl 0 d (fun _ hs=>hs.1)<|Rl 1 d (fun _ hs=>hs.2)<|Rt 2 d<|Rr 3 d (vI (C.byteV/2)) (fun _ _=>bF (vI (IntKind.i64.wrap (Int.tdiv C.byteV 2))) (by kernel_rfl) (congrArg (Value.int .i64) (fJ (by omega) (by omega))))<|?_
 refine R0 4 rfl<|Oc<|kF (dU (n:=(C.byteV/2)) (ae.old F l)) fun H I T q U V J f=>?_
 have r:=aY f n_bm_g o
 have s:=aY f n_bc_g p
 refine bB ⟨(ap r rfl),(ap s rfl)⟩ fun t=>Rt 5 t<|Rt 6 t<|?_
 have u:=u1 b f im
 have v:=aY u (Ne.symm hne) hm
 refine R0 7 rfl<|bI v 12 (mG c 0 0 0 0 0 0 0 0 0 0 0 (.slice H ((((C.bytesC 1).need ((((C.byteV%2)==0)&&(decide (2≤C.byteV)))&&(decide (C.byteV≤250))) 5).wordsR (C.byteV/2)).length) I) nS nS nS 0 0 0 0 0 nS) fun W L a=>?_
 refine bB ⟨(ap (aY a n_bm_gm r) rfl),(ap (aY a n_bc_gm s) rfl)⟩ fun X=>re<|rm (.tuple #[])<|?_
 exact dq (by unfold cj s9 jO;(try simp only[bj,reduceIte])<;>rfl) ⟨rfl,(ae.upd J a (aa hne ay) (ah (aW v (by decide)) aC)),⟨_,⟨L,rfl⟩,⟨_,_,_,_,_,rfl,(aQ.hi (ai q a (fun x hx=>(aa (fun e=>(aG (ag hm) b.size q) (e▸hx)) ay)) (fun _ _ h=>h)) b.size),aI.nil ..,aI.nil ..,aI.nil ..,aI.nil ..,(c8 (by omega))⟩⟩,(us u a)⟩
theorem CR(hcode:B8 c)(hC:ae w g C)(hm:w.heap[gm]? = some (.cells (mC c) 45 (0,0)))(hne:g≠gm)   (hbc:w.heap[bc]? = some (.cells #[vP g 0] 164 (0,0)))(n_bc_g:bc≠g)(n_bc_gm:bc≠gm)(hbm:w.heap[bm]? = some (.cells #[vP gm 0] 166 (0,0)))(n_bm_g:bm≠g)(n_bm_gm:bm≠gm) :
    Calls Tryz.prog 203 #[vP bc 0,vP bm 0] w (c5 g gm (dD c C).1 (dD c C).2 w):=by
 obtain⟨hcode1,hcode2⟩:=hcode
 have hlen:=hC.len
 refine en 12 Tryz.func203 rfl<|Rg 12 (fun w'=>w'.cell? ⟨bm,0,none⟩=some (vP gm 0)∧w'.cell? ⟨bc,0,none⟩=some (vP g 0)) fun A a=>?_
 have i:=ub a hbm
 have j:=ub a hbc
 refine bB ⟨(ap i rfl),(ap j rfl)⟩ fun b=>Rl 0 b (fun _ hs=>hs.1)<|Rl 1 b (fun _ hs=>hs.1)<|Rl 2 b (fun _ hs=>hs.2)<|Rl 4 b (fun _ hs=>hs.2)<|?_
 refine R0 3 rfl<|Oc<|m3 (bL (ae.old hC a)) fun B v d D=>?_
 have k:=aY d n_bm_g i
 have l:=aY d n_bc_g j
 refine bB ⟨(ap k rfl),(ap l rfl)⟩ fun E=>R0 5 rfl<|Oc<|m3 (bL v) fun F x e G=>?_
 have m:=aY e n_bm_g k
 have n:=aY e n_bc_g l
 refine bB ⟨(ap m rfl),(ap n rfl)⟩ fun o=>Rt 6 o<|Rt 7 o<|?_
 have p:=uz a (u1 d e im)
 have q:=aY p (Ne.symm hne) hm
 refine R0 8 rfl<|bI q 2 (mG c 0 C.wordV 0 0 0 0 0 0 0 0 0 nS nS nS nS 0 0 0 0 0 nS) fun H y f=>?_
 have r:=aY f n_bm_gm m
 have s:=aY f n_bc_gm n
 refine bB ⟨(ap r rfl),(ap s rfl)⟩ fun t=>Rt 9 t<|Rt 10 t<|R0 11 rfl<|bI y 4 (mG c 0 C.wordV 0 ((C.wordsC 1).wordV) 0 0 0 0 0 0 0 nS nS nS nS 0 0 0 0 0 nS) fun I z h=>?_
 refine bB ⟨(ap (aY h n_bm_gm r) rfl),(ap (aY h n_bc_gm s) rfl)⟩ fun J=>re<|rm (.tuple #[])<|?_
 have hs:dD c C=(((C.wordsC 1).wordsC 1),(bg.mk c 0 C.wordV 0 ((C.wordsC 1).wordV) 0 0 0 0 0 0 0 [] [] [] [] 0 0 0 0 0 [])):=by
   unfold dD
   (try simp only[bj,reduceIte])
   all_goals rfl
 rw[hs]
 have u:=u1 f h im
 exact⟨rfl,(ae.upd x u (aa hne ay) (ah (aW q (by decide)) aC)),⟨_,⟨z,rfl⟩,⟨_,_,_,_,_,rfl,aI.nil ..,aI.nil ..,aI.nil ..,aI.nil ..,aI.nil ..,(c8 (by omega))⟩⟩,(us p u)⟩
theorem Ce{ask:Bool}     (hcode:B8 c)(hC:ae w g C)(hm:w.heap[gm]? = some (.cells (mC c) 45 (0,0)))(hne:g≠gm)    {ba:Nat}(hbc:w.heap[bc]? = some (.cells #[vP g 0] 164 (0,0)))(n_bc_g:bc≠g)(n_bc_gm:bc≠gm)(hbm:w.heap[bm]? = some (.cells #[vP gm 0] 166 (0,0)))(n_bm_g:bm≠g)(n_bm_gm:bm≠gm)(hbw:w.heap[bw]? = some (.cells #[.func (.func 198) #[] #[vP bc 0,vP bm 0]] 218 (0,0)))(n_bw_g:bw≠g)(n_bw_gm:bw≠gm)(hba:w.heap[ba]? = some (.cells #[.bool ask] 4 (0,0)))(n_ba_g:ba≠g)(n_ba_gm:ba≠gm)(hask:ask=true) :
    Calls Tryz.prog 204 #[vP bw 0,vP ba 0,vP bc 0,vP bm 0] w (c5 g gm (d8 c C).1 (d8 c C).2 w):=by
 obtain⟨hcode1,hcode2⟩:=hcode
 have hlen:=hC.len
 refine en 17 Tryz.func204 rfl<|sg<|aH hbw 0<|L0<|i4 #[] #[vP bc 0,vP bm 0] (args:=#[vI 123,vP bc 0,vP bm 0])<|m3 (ig (most:=123) ⟨hcode1,hcode2⟩ hC hm hne hbc n_bc_g n_bc_gm hbm n_bm_g n_bm_gm) fun B u v k=>?_
 have D:=(hC).wordV
 have E:=bN (ck (hC).rng 1)
 refine ng<|?_
 refine aH (aD.blk k (aa n_ba_g (aa n_ba_gm ay)) hba) 0<|nt<|ct hask<|Rg 11 (fun w'=>w'.cell? ⟨bm,0,none⟩=some (vP gm 0)∧w'.cell? ⟨bc,0,none⟩=some (vP g 0)∧w'.cell? ⟨gm,3,none⟩=some (vW ((C.wordsC 1).wordV))) fun F i=>?_
 have b:=aM k i
 have l:=aD.blk b (aa n_bm_g (aa n_bm_gm ay)) hbm
 have m:=aD.blk b (aa n_bc_g (aa n_bc_gm ay)) hbc
 have o:=ub i v
 refine bB ⟨(ap l rfl),(ap m rfl),(ap o rfl)⟩ fun a=>Rl 0 a (fun _ hs=>hs.1)<|Rl 1 a (fun _ hs=>hs.2.1)<|Rl 2 a (fun _ hs=>hs.1)<|Rt 3 a<|Rt 4 a<|Rl 5 a (fun _ hs=>hs.2.2)<|Rr 6 a (vI ((C.wordsC 1).wordV)) (fun _ _=>bF (vI (IntKind.i64.wrap ((C.wordsC 1).wordV))) (by kernel_rfl) (congrArg (Value.int .i64) (i64_in (by omega))))<|?_
 refine R0 7 rfl<|Oc<|kF (kk (n:=(C.wordsC 1).wordV) (ae.old u i) (by omega)) fun y z G p H I A f=>?_
 have q:=aY f n_bm_g l
 have r:=aY f n_bc_g m
 have j:=aY f (Ne.symm hne) o
 refine bB ⟨(ap q rfl),(ap r rfl),(ap j rfl)⟩ fun s=>Rt 8 s<|Rt 9 s<|R0 10 rfl<|bI j 12 (mG c 0 C.wordV ((C.wordsC 1).wordV) 0 0 0 0 0 0 0 0 (.slice y (((cM (bJ (C.wordsC 1) C.wordV 123) ((C.wordsC 1).wordV)).wordsR ((C.wordsC 1).wordV)).length) z) nS nS nS 0 0 0 0 0 nS) fun J t d=>?_
 refine bB ⟨(ap (aY d n_bm_gm q) rfl),(ap (aY d n_bc_gm r) rfl),(ap t rfl)⟩ fun K=>re<|rm (.tuple #[])<|?_
 have hs:d8 c C=(((cM (bJ (C.wordsC 1) C.wordV 123) ((C.wordsC 1).wordV)).wordsC ((C.wordsC 1).wordV)),(bg.mk c 0 C.wordV ((C.wordsC 1).wordV) 0 0 0 0 0 0 0 0 ((cM (bJ (C.wordsC 1) C.wordV 123) ((C.wordsC 1).wordV)).wordsR ((C.wordsC 1).wordV)) [] [] [] 0 0 0 0 0 [])):=by
   unfold d8 nh
   (try simp only[hask,bj,reduceIte])
   all_goals rfl
 rw[hs]
 exact⟨rfl,(ae.upd A d (aa hne ay) (ah (aW j (by decide)) aC)),⟨_,⟨t,rfl⟩,⟨_,_,_,_,_,rfl,(aQ.hi (ai p d (fun x hx=>(aa (fun e=>(aG (ag hm) b.size p) (e▸hx)) ay)) (fun _ _ h=>h)) b.size),aI.nil ..,aI.nil ..,aI.nil ..,aI.nil ..,(c8 (by omega))⟩⟩,(ut b (us f d) (ac im (ac im aA)))⟩
theorem BU{ask:Bool}     (hcode:B8 c)(hC:ae w g C)(hm:w.heap[gm]? = some (.cells (mC c) 45 (0,0)))(hne:g≠gm)    {ba:Nat}(hbc:w.heap[bc]? = some (.cells #[vP g 0] 164 (0,0)))(n_bc_g:bc≠g)(n_bc_gm:bc≠gm)(hbm:w.heap[bm]? = some (.cells #[vP gm 0] 166 (0,0)))(n_bm_g:bm≠g)(n_bm_gm:bm≠gm)(hbw:w.heap[bw]? = some (.cells #[.func (.func 198) #[] #[vP bc 0,vP bm 0]] 218 (0,0)))(n_bw_g:bw≠g)(n_bw_gm:bw≠gm)(hba:w.heap[ba]? = some (.cells #[.bool ask] 4 (0,0)))(n_ba_g:ba≠g)(n_ba_gm:ba≠gm)(hask:ask=false) :
    Calls Tryz.prog 204 #[vP bw 0,vP ba 0,vP bc 0,vP bm 0] w (c5 g gm (bX 123 c C).1 (bX 123 c C).2 w):=by
 obtain⟨hcode1,hcode2⟩:=hcode
 have hlen:=hC.len
 refine en 17 Tryz.func204 rfl<|sg<|aH hbw 0<|L0<|i4 #[] #[vP bc 0,vP bm 0] (args:=#[vI 123,vP bc 0,vP bm 0])<|m3 (ig (most:=123) ⟨hcode1,hcode2⟩ hC hm hne hbc n_bc_g n_bc_gm hbm n_bm_g n_bm_gm) fun e b d a=>?_
 have f:=(hC).wordV
 have h:=bN (ck (hC).rng 1)
 refine ng<|?_
 refine aH (aD.blk a (aa n_ba_g (aa n_ba_gm ay)) hba) 0<|nt<|cf hask<|sk<|rm (.tuple #[])<|?_
 have hs:bX 123 c C=((bJ (C.wordsC 1) C.wordV 123),(bg.mk c 0 C.wordV ((C.wordsC 1).wordV) 0 0 0 0 0 0 0 0 [] [] [] [] 0 0 0 0 0 [])):=by
   unfold bX
   (try simp only[hask,bj,reduceIte])
   all_goals rfl
 rw[hs]
 exact⟨rfl,b,⟨_,⟨d,rfl⟩,⟨_,_,_,_,_,rfl,aI.nil ..,aI.nil ..,aI.nil ..,aI.nil ..,aI.nil ..,(c8 (by omega))⟩⟩,a⟩
theorem CS(hcode:B8 c)(hC:ae w g C)(hm:w.heap[gm]? = some (.cells (mC c) 45 (0,0)))(hne:g≠gm)   (hbc:w.heap[bc]? = some (.cells #[vP g 0] 164 (0,0)))(n_bc_g:bc≠g)(n_bc_gm:bc≠gm)(hbm:w.heap[bm]? = some (.cells #[vP gm 0] 166 (0,0)))(n_bm_g:bm≠g)(n_bm_gm:bm≠gm) :
    Calls Tryz.prog 206 #[vP bc 0,vP bm 0] w (c5 g gm (cF c C).1 (cF c C).2 w):=by
 obtain⟨hcode1,hcode2⟩:=hcode
 have hlen:=hC.len
 refine en 17 Tryz.func206 rfl<|Rg 18 (fun w'=>w'.cell? ⟨bm,0,none⟩=some (vP gm 0)∧w'.cell? ⟨bc,0,none⟩=some (vP g 0)) fun K b=>?_
 have k:=ub b hbm
 have l:=ub b hbc
 refine bB ⟨(ap k rfl),(ap l rfl)⟩ fun a=>Rl 0 a (fun _ hs=>hs.1)<|Rl 1 a (fun _ hs=>hs.1)<|Rl 2 a (fun _ hs=>hs.1)<|Rl 3 a (fun _ hs=>hs.2)<|Rl 5 a (fun _ hs=>hs.2)<|Rl 7 a (fun _ hs=>hs.2)<|?_
 refine R0 4 rfl<|Oc<|m3 (bL (ae.old hC b)) fun L E d M=>?_
 have m:=aY d n_bm_g k
 have n:=aY d n_bc_g l
 refine bB ⟨(ap m rfl),(ap n rfl)⟩ fun N=>R0 6 rfl<|Oc<|m3 (bL E) fun O F e P=>?_
 have o:=aY e n_bm_g m
 have p:=aY e n_bc_g n
 refine bB ⟨(ap o rfl),(ap p rfl)⟩ fun Q=>R0 8 rfl<|Oc<|m3 (bL F) fun R G f S=>?_
 have q:=aY f n_bm_g o
 have r:=aY f n_bc_g p
 refine bB ⟨(ap q rfl),(ap r rfl)⟩ fun s=>Rt 9 s<|Rt 10 s<|?_
 have t:=uz b (u1 d (u1 e f im) im)
 have u:=aY t (Ne.symm hne) hm
 refine R0 11 rfl<|bI u 2 (mG c 0 C.wordV 0 0 0 0 0 0 0 0 0 nS nS nS nS 0 0 0 0 0 nS) fun T H h=>?_
 have v:=aY h n_bm_gm q
 have x:=aY h n_bc_gm r
 refine bB ⟨(ap v rfl),(ap x rfl)⟩ fun y=>Rt 12 y<|Rt 13 y<|R0 14 rfl<|bI H 5 (mG c 0 C.wordV 0 0 ((C.wordsC 1).wordV) 0 0 0 0 0 0 nS nS nS nS 0 0 0 0 0 nS) fun U I i=>?_
 have z:=aY i n_bm_gm v
 have A:=aY i n_bc_gm x
 refine bB ⟨(ap z rfl),(ap A rfl)⟩ fun B=>Rt 15 B<|Rt 16 B<|R0 17 rfl<|bI I 6 (mG c 0 C.wordV 0 0 ((C.wordsC 1).wordV) (((C.wordsC 1).wordsC 1).wordV) 0 0 0 0 0 nS nS nS nS 0 0 0 0 0 nS) fun V J j=>?_
 refine bB ⟨(ap (aY j n_bm_gm z) rfl),(ap (aY j n_bc_gm A) rfl)⟩ fun W=>re<|rm (.tuple #[])<|?_
 have hs:cF c C=((((C.wordsC 1).wordsC 1).wordsC 1),(bg.mk c 0 C.wordV 0 0 ((C.wordsC 1).wordV) (((C.wordsC 1).wordsC 1).wordV) 0 0 0 0 0 [] [] [] [] 0 0 0 0 0 [])):=by
   unfold cF
   (try simp only[bj,reduceIte])
   all_goals rfl
 rw[hs]
 have D:=u1 h (u1 i j im) im
 exact⟨rfl,(ae.upd G D (aa hne ay) (ah (aW u (by decide)) aC)),⟨_,⟨J,rfl⟩,⟨_,_,_,_,_,rfl,aI.nil ..,aI.nil ..,aI.nil ..,aI.nil ..,aI.nil ..,(c8 (by omega))⟩⟩,(us t D)⟩
theorem D7(hcode:B8 c)(hC:ae w g C)(hm:w.heap[gm]? = some (.cells (mC c) 45 (0,0)))(hne:g≠gm)    (hbc:w.heap[bc]? = some (.cells #[vP g 0] 164 (0,0)))(n_bc_g:bc≠g)(n_bc_gm:bc≠gm)(hbm:w.heap[bm]? = some (.cells #[vP gm 0] 166 (0,0)))(n_bm_g:bm≠g)(n_bm_gm:bm≠gm)(hbw:w.heap[bw]? = some (.cells #[.func (.func 198) #[] #[vP bc 0,vP bm 0]] 218 (0,0)))(n_bw_g:bw≠g)(n_bw_gm:bw≠gm) :
    Calls Tryz.prog 207 #[vP bw 0,vP bc 0,vP bm 0] w (c5 g gm (d6 c C).1 (d6 c C).2 w):=by
 obtain⟨hcode1,hcode2⟩:=hcode
 have hlen:=hC.len
 refine en 21 Tryz.func207 rfl<|sg<|aH hbw 0<|L0<|i4 #[] #[vP bc 0,vP bm 0] (args:=#[vI 125,vP bc 0,vP bm 0])<|m3 (ig (most:=125) ⟨hcode1,hcode2⟩ hC hm hne hbc n_bc_g n_bc_gm hbm n_bm_g n_bm_gm) fun X P Q o=>?_
 have Y:=(hC).wordV
 have Z:=bN (ck (hC).rng 1)
 refine nt<|sq<|Rg 6 (fun w'=>w'.cell? ⟨bm,0,none⟩=some (vP gm 0)∧w'.cell? ⟨bc,0,none⟩=some (vP g 0)) fun a0 j=>?_
 have p:=aM o j
 have r:=aD.blk p (aa n_bm_g (aa n_bm_gm ay)) hbm
 have s:=aD.blk p (aa n_bc_g (aa n_bc_gm ay)) hbc
 refine bB ⟨(ap r rfl),(ap s rfl)⟩ fun t=>Rl 0 t (fun _ hs=>hs.1)<|Rl 1 t (fun _ hs=>hs.2)<|?_
 refine R0 2 rfl<|Oc<|m3 (bL (ae.old P j)) fun a1 R d a2=>?_
 have u:=aY d n_bm_g r
 have v:=aY d n_bc_g s
 refine bB ⟨(ap u rfl),(ap v rfl)⟩ fun y=>Rt 3 y<|Rt 4 y<|?_
 have z:=aY (uz j d) (Ne.symm hne) Q
 refine R0 5 rfl<|bI z 7 (mG c 0 C.wordV ((C.wordsC 1).wordV) 0 0 0 ((bJ (C.wordsC 1) C.wordV 125).wordV) 0 0 0 0 nS nS nS nS 0 0 0 0 0 nS) fun a3 S k=>?_
 have A:=aY k n_bm_gm u
 have B:=aY k n_bc_gm v
 refine bB ⟨(ap A rfl),(ap B rfl)⟩ fun a4=>re<|tn<|Rg 12 (fun w'=>w'.cell? ⟨bm,0,none⟩=some (vP gm 0)∧w'.cell? ⟨bc,0,none⟩=some (vP g 0)∧w'.cell? ⟨gm,7,none⟩=some (vW ((bJ (C.wordsC 1) C.wordV 125).wordV))) fun a5 f=>?_
 have D:=ub f A
 have E:=ub f B
 have F:=ub f S
 refine bB ⟨(ap D rfl),(ap E rfl),(ap F rfl)⟩ fun b=>Rl 0 b (fun _ hs=>hs.1)<|Rl 1 b (fun _ hs=>hs.2.1)<|Rl 2 b (fun _ hs=>hs.2.1)<|Rl 3 b (fun _ hs=>hs.1)<|Rt 4 b<|Rt 5 b<|Rl 6 b (fun _ hs=>hs.2.2)<|?_
 have G:=aM k f
 refine R0 7 rfl<|Oc<|m3 (nf (a:=(bJ (C.wordsC 1) C.wordV 125).wordV) (most:=121) (ae.upd R G (aa hne ay) (ah (aW z (by decide)) aC)) (by omega)) fun a6 T i a7=>?_
 have H:=aY i n_bm_g D
 have I:=aY i n_bc_g E
 have J:=aY i (Ne.symm hne) F
 refine bB ⟨(ap H rfl),(ap I rfl),(ap J rfl)⟩ fun a8=>R0 8 rfl<|Oc<|kF (kk (n:=((bJ (C.wordsC 1) C.wordV 125).wordsC 1).wordV) T (by omega)) fun U V a9 K ab ad W m=>?_
 have L:=aY m n_bm_g H
 have M:=aY m n_bc_g I
 have q:=aY m (Ne.symm hne) J
 refine bB ⟨(ap L rfl),(ap M rfl),(ap q rfl)⟩ fun N=>Rt 9 N<|Rt 10 N<|R0 11 rfl<|bI q 12 (mG c 0 C.wordV ((C.wordsC 1).wordV) 0 0 0 ((bJ (C.wordsC 1) C.wordV 125).wordV) 0 0 0 0 (.slice U (((cM (bJ ((bJ (C.wordsC 1) C.wordV 125).wordsC 1) ((bJ (C.wordsC 1) C.wordV 125).wordV) 121) (((bJ (C.wordsC 1) C.wordV 125).wordsC 1).wordV)).wordsR (((bJ (C.wordsC 1) C.wordV 125).wordsC 1).wordV)).length) V) nS nS nS 0 0 0 0 0 nS) fun af O l=>?_
 refine bB ⟨(ap (aY l n_bm_gm L) rfl),(ap (aY l n_bc_gm M) rfl),(ap O rfl)⟩ fun aj=>re<|rm (.tuple #[])<|?_
 have hs:d6 c C=(((cM (bJ ((bJ (C.wordsC 1) C.wordV 125).wordsC 1) ((bJ (C.wordsC 1) C.wordV 125).wordV) 121) (((bJ (C.wordsC 1) C.wordV 125).wordsC 1).wordV)).wordsC (((bJ (C.wordsC 1) C.wordV 125).wordsC 1).wordV)),(bg.mk c 0 C.wordV ((C.wordsC 1).wordV) 0 0 0 ((bJ (C.wordsC 1) C.wordV 125).wordV) 0 0 0 0 ((cM (bJ ((bJ (C.wordsC 1) C.wordV 125).wordsC 1) ((bJ (C.wordsC 1) C.wordV 125).wordV) 121) (((bJ (C.wordsC 1) C.wordV 125).wordsC 1).wordV)).wordsR (((bJ (C.wordsC 1) C.wordV 125).wordsC 1).wordV)) [] [] [] 0 0 0 0 0 [])):=by
   unfold d6 nH uL mr
   (try simp only[bj,reduceIte])
   all_goals rfl
 rw[hs]
 exact⟨rfl,(ae.upd W l (aa hne ay) (ah (aW q (by decide)) aC)),⟨_,⟨O,rfl⟩,⟨_,_,_,_,_,rfl,(aQ.hi (ai K l (fun x hx=>(aa (fun e=>(aG (ag hm) (le (le (le (le (le o.size j.size) d.size) k.size) f.size) i.size) K) (e▸hx)) ay)) (fun _ _ h=>h)) (le (le (le (le (le o.size j.size) d.size) k.size) f.size) i.size)),aI.nil ..,aI.nil ..,aI.nil ..,aI.nil ..,(c8 (by omega))⟩⟩,(ut p (ui d (ui G (ui i (us m l)))) (ac im (ac im aA)))⟩
theorem D9(hcode:B8 c)(hC:ae w g C)(hm:w.heap[gm]? = some (.cells (mC c) 45 (0,0)))(hne:g≠gm)   (hbc:w.heap[bc]? = some (.cells #[vP g 0] 164 (0,0)))(n_bc_g:bc≠g)(n_bc_gm:bc≠gm)(hbm:w.heap[bm]? = some (.cells #[vP gm 0] 166 (0,0)))(n_bm_g:bm≠g)(n_bm_gm:bm≠gm) :
    Calls Tryz.prog 208 #[vP bc 0,vP bm 0] w (c5 g gm (d7 c C).1 (d7 c C).2 w):=by
 obtain⟨hcode1,hcode2⟩:=hcode
 have hlen:=hC.len
 refine en 7 Tryz.func208 rfl<|Rg 6 (fun w'=>w'.cell? ⟨bm,0,none⟩=some (vP gm 0)∧w'.cell? ⟨bc,0,none⟩=some (vP g 0)) fun p a=>?_
 have e:=ub a hbm
 have f:=ub a hbc
 refine bB ⟨(ap e rfl),(ap f rfl)⟩ fun h=>Rl 0 h (fun _ hs=>hs.1)<|Rl 1 h (fun _ hs=>hs.2)<|?_
 refine R0 2 rfl<|Oc<|m3 (bL (ae.old hC a)) fun q n d r=>?_
 have i:=aY d n_bm_g e
 have j:=aY d n_bc_g f
 refine bB ⟨(ap i rfl),(ap j rfl)⟩ fun k=>Rt 3 k<|Rt 4 k<|?_
 have l:=uz a d
 have m:=aY l (Ne.symm hne) hm
 refine R0 5 rfl<|bI m 2 (mG c 0 C.wordV 0 0 0 0 0 0 0 0 0 nS nS nS nS 0 0 0 0 0 nS) fun s o b=>?_
 refine bB ⟨(ap (aY b n_bm_gm i) rfl),(ap (aY b n_bc_gm j) rfl)⟩ fun t=>re<|rm (.tuple #[])<|?_
 have hs:d7 c C=((C.wordsC 1),(bg.mk c 0 C.wordV 0 0 0 0 0 0 0 0 0 [] [] [] [] 0 0 0 0 0 [])):=by
   unfold d7
   (try simp only[bj,reduceIte])
   all_goals rfl
 rw[hs]
 exact⟨rfl,(ae.upd n b (aa hne ay) (ah (aW m (by decide)) aC)),⟨_,⟨o,rfl⟩,⟨_,_,_,_,_,rfl,aI.nil ..,aI.nil ..,aI.nil ..,aI.nil ..,aI.nil ..,(c8 (by omega))⟩⟩,(us l b)⟩
theorem CW(hcode:B8 c)(hC:ae w g C)(hm:w.heap[gm]? = some (.cells (mC c) 45 (0,0)))(hne:g≠gm)   (hbc:w.heap[bc]? = some (.cells #[vP g 0] 164 (0,0)))(n_bc_g:bc≠g)(n_bc_gm:bc≠gm)(hbm:w.heap[bm]? = some (.cells #[vP gm 0] 166 (0,0)))(n_bm_g:bm≠g)(n_bm_gm:bm≠gm) :
    Calls Tryz.prog 209 #[vP bc 0,vP bm 0] w (c5 g gm (m6 c C).1 (m6 c C).2 w):=by
 obtain⟨hcode1,hcode2⟩:=hcode
 have hlen:=hC.len
 refine en 36 Tryz.func209 rfl<|sg<|aH hbc 0<|az<|m3 (bL hC) fun S D i T=>b6 C.wordV<|Pl 1<|ng<|?_
 have j:=aY i n_bc_g hbc
 refine aH j 0<|Pl 1<|L0<|Oe (vI (Int.tmod C.wordV 2)) (vI (C.wordV%2)) (congrArg (Value.int .i64) (Int.tmod_eq_emod_of_nonneg (by omega)))<|Pl 2<|cV 3 [11] 14 11 ((C.wordV%2)==0) (decide (2≤C.wordV)) (fun K E F=>?_) ?_
 have U:=am F
 exact Pl 3<|ce E _ rfl
 refine Pl 1<|cV 3 [15] 18 15 (((C.wordV%2)==0)&&(decide (2≤C.wordV))) (decide (C.wordV≤64)) (fun K G k=>?_) ?_
 have H:=(aR k).1
 have I:=(aR k).2
 have V:=am H
 have W:=of_decide_eq_true I
 exact Pl 3<|ce G _ rfl
 refine az<|m2 (bf (((((C.wordV%2)==0)&&(decide (2≤C.wordV)))&&(decide (C.wordV≤64)))) 5 D) fun X J l=>ng<|?_
 have m:=aY l n_bc_g j
 refine aH m 0<|az<|m3 (bL J) fun Y L o Z=>b6 (((C.wordsC 1).need ((((C.wordV%2)==0)&&(decide (2≤C.wordV)))&&(decide (C.wordV≤64))) 5).wordV)<|Pl 1<|ng<|?_
 have p:=aY o n_bc_g m
 refine aH p 0<|Pl 1<|b6 (2*(((C.wordsC 1).need ((((C.wordV%2)==0)&&(decide (2≤C.wordV)))&&(decide (C.wordV≤64))) 5).wordV))<|b6 (2+(2*(((C.wordsC 1).need ((((C.wordV%2)==0)&&(decide (2≤C.wordV)))&&(decide (C.wordV≤64))) 5).wordV)))<|Pl 2<|az<|m2 (bf (((2+(2*(((C.wordsC 1).need ((((C.wordV%2)==0)&&(decide (2≤C.wordV)))&&(decide (C.wordV≤64))) 5).wordV)))==C.wordV)) 5 L) fun a0 M N=>nt<|Rg 7 (fun w'=>w'.cell? ⟨bm,0,none⟩=some (vP gm 0)∧w'.cell? ⟨bc,0,none⟩=some (vP g 0)) fun a1 q=>?_
 have r:=aM N q
 have b:=u1 i (u1 l (u1 o r im) im) im
 have s:=aY b n_bm_g hbm
 have t:=aY r n_bc_g p
 refine bB ⟨(ap s rfl),(ap t rfl)⟩ fun d=>Rl 0 d (fun _ hs=>hs.1)<|Rl 1 d (fun _ hs=>hs.2)<|Rt 2 d<|?_
 refine R0 3 rfl<|Oc<|kF (dU (n:=((C.wordsC 1).need ((((C.wordV%2)==0)&&(decide (2≤C.wordV)))&&(decide (C.wordV≤64))) 5).wordV) (ae.old M q)) fun O P a2 u a3 a4 Q f=>?_
 have v:=aY f n_bm_g s
 have y:=aY f n_bc_g t
 refine bB ⟨(ap v rfl),(ap y rfl)⟩ fun z=>Rt 4 z<|Rt 5 z<|?_
 have A:=u1 b f im
 have B:=aY A (Ne.symm hne) hm
 refine R0 6 rfl<|bI B 12 (mG c 0 0 0 0 0 0 0 0 0 0 0 (.slice O ((((((C.wordsC 1).need ((((C.wordV%2)==0)&&(decide (2≤C.wordV)))&&(decide (C.wordV≤64))) 5).wordsC 1).need ((2+(2*(((C.wordsC 1).need ((((C.wordV%2)==0)&&(decide (2≤C.wordV)))&&(decide (C.wordV≤64))) 5).wordV)))==C.wordV) 5).wordsR (((C.wordsC 1).need ((((C.wordV%2)==0)&&(decide (2≤C.wordV)))&&(decide (C.wordV≤64))) 5).wordV)).length) P) nS nS nS 0 0 0 0 0 nS) fun a5 R a=>?_
 refine bB ⟨(ap (aY a n_bm_gm v) rfl),(ap (aY a n_bc_gm y) rfl)⟩ fun a6=>re<|rm (.tuple #[])<|?_
 exact dq (by unfold m6 BP AK jO;(try simp only[bj,reduceIte])<;>rfl) ⟨rfl,(ae.upd Q a (aa hne ay) (ah (aW B (by decide)) aC)),⟨_,⟨R,rfl⟩,⟨_,_,_,_,_,rfl,(aQ.hi (ai u a (fun x hx=>(aa (fun e=>(aG (ag hm) b.size u) (e▸hx)) ay)) (fun _ _ h=>h)) b.size),aI.nil ..,aI.nil ..,aI.nil ..,aI.nil ..,(c8 (by omega))⟩⟩,(us A a)⟩
open Go.RowKit
theorem sR(hC:ae w g C)(hm:w.heap[gm]? = some (.cells (mC 3) 45 (0,0)))(hne:g≠gm) : Calls Tryz.prog 148 #[vI 0,vP gm 0,vP g 0] w (iP (fun W=>c5 g gm (bX 125 3 C).1 (bX 125 3 C).2 W) w):=by
 refine en 67 Tryz.func148 rfl<|sg<|L0<|dK #[vP gm 0] fun n D f o a=>L0<|dK #[vP g 0] fun p E h q b=>Pl 1<|aL 1<|aK #[.nilFunc] fun r F d s t=>L0<|bI s 0 #[.func (.func 198) #[] #[vP p 0,vP n 0]] fun G u v=>nl<|tn<|ak 2<|aK #[.bool false] fun H I x y z=>L0<|bI y 0 #[.bool true] fun J A B=>nt<|sq<|sg<|?_
 have i:=ud z B x
 have j:=ud t (aM v i) d
 have k:=aM b j
 have l:=ub k o
 refine aH l 0<|Pl 2<|?_
 have e:=aM a k
 have m:=ub e hm
 refine aH m 0<|aj 1<|bk<|sg<|aH A 0<|aj 9<|c1<|ax 2<|rt<|br<|tr<|rr (.func (.func 200) #[] #[vP r 0])<|?_
 exact⟨_,_,rfl,by kernel_rfl,e,CV (c:=3) ⟨by decide,by decide⟩ (ae.old hC e) m hne (ub j q) (Ne.symm (nb (ae.lt hC) a.size h)) (Ne.symm (nb (ag hm) a.size h)) l (Ne.symm (nb (ae.lt hC) lr f)) (Ne.symm (nb (ag hm) lr f)) (ub i u) (Ne.symm (nb (ae.lt hC) (le a.size b.size) d)) (Ne.symm (nb (ag hm) (le a.size b.size) d))⟩
theorem ug(hC:ae w g C)(hm:w.heap[gm]? = some (.cells (mC 4) 45 (0,0)))(hne:g≠gm) : Calls Tryz.prog 148 #[vI 0,vP gm 0,vP g 0] w (iP (fun W=>c5 g gm (bX 125 4 C).1 (bX 125 4 C).2 W) w):=by
 refine en 67 Tryz.func148 rfl<|sg<|L0<|dK #[vP gm 0] fun n D f o a=>L0<|dK #[vP g 0] fun p E h q b=>Pl 1<|aL 1<|aK #[.nilFunc] fun r F d s t=>L0<|bI s 0 #[.func (.func 198) #[] #[vP p 0,vP n 0]] fun G u v=>nl<|tn<|ak 2<|aK #[.bool false] fun H I x y z=>L0<|bI y 0 #[.bool true] fun J A B=>nt<|sq<|sg<|?_
 have i:=ud z B x
 have j:=ud t (aM v i) d
 have k:=aM b j
 have l:=ub k o
 refine aH l 0<|Pl 2<|?_
 have e:=aM a k
 have m:=ub e hm
 refine aH m 0<|aj 1<|bk<|sg<|aH A 0<|aj 9<|c1<|ax 2<|rt<|br<|tr<|rr (.func (.func 200) #[] #[vP r 0])<|?_
 exact⟨_,_,rfl,by kernel_rfl,e,CV (c:=4) ⟨by decide,by decide⟩ (ae.old hC e) m hne (ub j q) (Ne.symm (nb (ae.lt hC) a.size h)) (Ne.symm (nb (ag hm) a.size h)) l (Ne.symm (nb (ae.lt hC) lr f)) (Ne.symm (nb (ag hm) lr f)) (ub i u) (Ne.symm (nb (ae.lt hC) (le a.size b.size) d)) (Ne.symm (nb (ag hm) (le a.size b.size) d))⟩
theorem u5(hC:ae w g C)(hm:w.heap[gm]? = some (.cells (mC 3) 45 (0,0)))(hne:g≠gm) : Calls Tryz.prog 148 #[vI 1,vP gm 0,vP g 0] w (iP (fun W=>c5 g gm (cj 3 C).1 (cj 3 C).2 W) w):=by
 refine en 67 Tryz.func148 rfl<|sg<|L0<|dK #[vP gm 0] fun d z e m a=>L0<|dK #[vP g 0] fun f A h n o=>Pl 1<|aL 1<|aK #[.nilFunc] fun B D p q r=>L0<|bI q 0 #[.func (.func 198) #[] #[vP f 0,vP d 0]] fun E F s=>nl<|tn<|ak 2<|aK #[.bool false] fun G H t u v=>L0<|bI u 0 #[.bool false] fun I x y=>nt<|sq<|sg<|?_
 have i:=ud r (aM s (ud v y t)) p
 have j:=aM o i
 have k:=ub j m
 refine aH k 0<|Pl 2<|?_
 have b:=aM a j
 have l:=ub b hm
 refine aH l 0<|aj 1<|bk<|sg<|aH x 0<|aj 9<|c0<|sq<|sq<|go<|aj 3<|c1<|bp<|c1<|ax 2<|rt<|br<|tr<|rr (.func (.func 201) #[] #[vP f 0,vP d 0])<|?_
 exact⟨_,_,rfl,by kernel_rfl,b,C5 (c:=3) ⟨by decide,by decide⟩ (ae.old hC b) l hne (ub i n) (Ne.symm (nb (ae.lt hC) a.size h)) (Ne.symm (nb (ag hm) a.size h)) k (Ne.symm (nb (ae.lt hC) lr e)) (Ne.symm (nb (ag hm) lr e))⟩
theorem un(hC:ae w g C)(hm:w.heap[gm]? = some (.cells (mC 4) 45 (0,0)))(hne:g≠gm) : Calls Tryz.prog 148 #[vI 1,vP gm 0,vP g 0] w (iP (fun W=>c5 g gm (cj 4 C).1 (cj 4 C).2 W) w):=by
 refine en 67 Tryz.func148 rfl<|sg<|L0<|dK #[vP gm 0] fun d z e m a=>L0<|dK #[vP g 0] fun f A h n o=>Pl 1<|aL 1<|aK #[.nilFunc] fun B D p q r=>L0<|bI q 0 #[.func (.func 198) #[] #[vP f 0,vP d 0]] fun E F s=>nl<|tn<|ak 2<|aK #[.bool false] fun G H t u v=>L0<|bI u 0 #[.bool false] fun I x y=>nt<|sq<|sg<|?_
 have i:=ud r (aM s (ud v y t)) p
 have j:=aM o i
 have k:=ub j m
 refine aH k 0<|Pl 2<|?_
 have b:=aM a j
 have l:=ub b hm
 refine aH l 0<|aj 1<|bk<|sg<|aH x 0<|aj 9<|c0<|sq<|sq<|go<|aj 3<|c0<|ax 3<|c1<|bp<|c1<|ax 2<|rt<|br<|tr<|rr (.func (.func 201) #[] #[vP f 0,vP d 0])<|?_
 exact⟨_,_,rfl,by kernel_rfl,b,C5 (c:=4) ⟨by decide,by decide⟩ (ae.old hC b) l hne (ub i n) (Ne.symm (nb (ae.lt hC) a.size h)) (Ne.symm (nb (ag hm) a.size h)) k (Ne.symm (nb (ae.lt hC) lr e)) (Ne.symm (nb (ag hm) lr e))⟩
theorem tN(hC:ae w g C)(hm:w.heap[gm]? = some (.cells (mC 6) 45 (0,0)))(hne:g≠gm) : Calls Tryz.prog 148 #[vI 0,vP gm 0,vP g 0] w (iP (fun W=>c5 g gm (dD 6 C).1 (dD 6 C).2 W) w):=by
 refine en 67 Tryz.func148 rfl<|sg<|L0<|dK #[vP gm 0] fun d z e m a=>L0<|dK #[vP g 0] fun f A h n o=>Pl 1<|aL 1<|aK #[.nilFunc] fun B D p q r=>L0<|bI q 0 #[.func (.func 198) #[] #[vP f 0,vP d 0]] fun E F s=>nl<|tn<|ak 2<|aK #[.bool false] fun G H t u v=>L0<|bI u 0 #[.bool true] fun I x y=>nt<|sq<|sg<|?_
 have i:=ud r (aM s (ud v y t)) p
 have j:=aM o i
 have k:=ub j m
 refine aH k 0<|Pl 2<|?_
 have b:=aM a j
 have l:=ub b hm
 refine aH l 0<|aj 1<|bk<|sg<|aH x 0<|aj 9<|c0<|sq<|sq<|go<|aj 3<|c0<|ax 3<|c0<|go<|Pl 7<|nl<|tn<|c0<|ax 3<|c1<|ax 2<|rt<|br<|tr<|rr (.func (.func 203) #[] #[vP f 0,vP d 0])<|?_
 exact⟨_,_,rfl,by kernel_rfl,b,CR (c:=6) ⟨by decide,by decide⟩ (ae.old hC b) l hne (ub i n) (Ne.symm (nb (ae.lt hC) a.size h)) (Ne.symm (nb (ag hm) a.size h)) k (Ne.symm (nb (ae.lt hC) lr e)) (Ne.symm (nb (ag hm) lr e))⟩
theorem sF(hC:ae w g C)(hm:w.heap[gm]? = some (.cells (mC 6) 45 (0,0)))(hne:g≠gm) : Calls Tryz.prog 148 #[vI 1,vP gm 0,vP g 0] w (iP (fun W=>c5 g gm (dD 6 C).1 (dD 6 C).2 W) w):=by
 refine en 67 Tryz.func148 rfl<|sg<|L0<|dK #[vP gm 0] fun d z e m a=>L0<|dK #[vP g 0] fun f A h n o=>Pl 1<|aL 1<|aK #[.nilFunc] fun B D p q r=>L0<|bI q 0 #[.func (.func 198) #[] #[vP f 0,vP d 0]] fun E F s=>nl<|tn<|ak 2<|aK #[.bool false] fun G H t u v=>L0<|bI u 0 #[.bool false] fun I x y=>nt<|sq<|sg<|?_
 have i:=ud r (aM s (ud v y t)) p
 have j:=aM o i
 have k:=ub j m
 refine aH k 0<|Pl 2<|?_
 have b:=aM a j
 have l:=ub b hm
 refine aH l 0<|aj 1<|bk<|sg<|aH x 0<|aj 9<|c0<|sq<|sq<|go<|aj 3<|c0<|ax 3<|c0<|go<|Pl 7<|nl<|tn<|c0<|ax 3<|c1<|ax 2<|rt<|br<|tr<|rr (.func (.func 203) #[] #[vP f 0,vP d 0])<|?_
 exact⟨_,_,rfl,by kernel_rfl,b,CR (c:=6) ⟨by decide,by decide⟩ (ae.old hC b) l hne (ub i n) (Ne.symm (nb (ae.lt hC) a.size h)) (Ne.symm (nb (ag hm) a.size h)) k (Ne.symm (nb (ae.lt hC) lr e)) (Ne.symm (nb (ag hm) lr e))⟩
theorem qs(hC:ae w g C)(hm:w.heap[gm]? = some (.cells (mC 16) 45 (0,0)))(hne:g≠gm) : Calls Tryz.prog 148 #[vI 0,vP gm 0,vP g 0] w (iP (fun W=>c5 g gm (d8 16 C).1 (d8 16 C).2 W) w):=by
 refine en 67 Tryz.func148 rfl<|sg<|L0<|dK #[vP gm 0] fun j E k t a=>L0<|dK #[vP g 0] fun l F m u b=>Pl 1<|aL 1<|aK #[.nilFunc] fun v G d x e=>L0<|bI x 0 #[.func (.func 198) #[] #[vP l 0,vP j 0]] fun H y f=>nl<|tn<|ak 2<|aK #[.bool false] fun z I h A B=>L0<|bI A 0 #[.bool true] fun J n D=>nt<|sq<|sg<|?_
 have o:=ud B D h
 have p:=ud e (aM f o) d
 have q:=aM b p
 have r:=ub q t
 refine aH r 0<|Pl 2<|?_
 have i:=aM a q
 have s:=ub i hm
 refine aH s 0<|aj 1<|bk<|sg<|aH n 0<|aj 9<|c0<|sq<|sq<|go<|aj 3<|c0<|ax 3<|c0<|go<|Pl 7<|nl<|tn<|c0<|ax 3<|c0<|ax 3<|c1<|ax 2<|rt<|br<|tr<|rr (.func (.func 204) #[] #[vP v 0,vP z 0,vP l 0,vP j 0])<|?_
 exact⟨_,_,rfl,by kernel_rfl,i,Ce (c:=16) ⟨by decide,by decide⟩ (ae.old hC i) s hne (ub p u) (Ne.symm (nb (ae.lt hC) a.size m)) (Ne.symm (nb (ag hm) a.size m)) r (Ne.symm (nb (ae.lt hC) lr k)) (Ne.symm (nb (ag hm) lr k)) (ub o y) (Ne.symm (nb (ae.lt hC) (le a.size b.size) d)) (Ne.symm (nb (ag hm) (le a.size b.size) d)) n (Ne.symm (nb (ae.lt hC) (le (le (le a.size b.size) e.size) f.size) h)) (Ne.symm (nb (ag hm) (le (le (le a.size b.size) e.size) f.size) h)) rfl⟩
theorem qD(hC:ae w g C)(hm:w.heap[gm]? = some (.cells (mC 16) 45 (0,0)))(hne:g≠gm) : Calls Tryz.prog 148 #[vI 1,vP gm 0,vP g 0] w (iP (fun W=>c5 g gm (bX 123 16 C).1 (bX 123 16 C).2 W) w):=by
 refine en 67 Tryz.func148 rfl<|sg<|L0<|dK #[vP gm 0] fun j E k t a=>L0<|dK #[vP g 0] fun l F m u b=>Pl 1<|aL 1<|aK #[.nilFunc] fun v G d x e=>L0<|bI x 0 #[.func (.func 198) #[] #[vP l 0,vP j 0]] fun H y f=>nl<|tn<|ak 2<|aK #[.bool false] fun z I h A B=>L0<|bI A 0 #[.bool false] fun J n D=>nt<|sq<|sg<|?_
 have o:=ud B D h
 have p:=ud e (aM f o) d
 have q:=aM b p
 have r:=ub q t
 refine aH r 0<|Pl 2<|?_
 have i:=aM a q
 have s:=ub i hm
 refine aH s 0<|aj 1<|bk<|sg<|aH n 0<|aj 9<|c0<|sq<|sq<|go<|aj 3<|c0<|ax 3<|c0<|go<|Pl 7<|nl<|tn<|c0<|ax 3<|c0<|ax 3<|c1<|ax 2<|rt<|br<|tr<|rr (.func (.func 204) #[] #[vP v 0,vP z 0,vP l 0,vP j 0])<|?_
 exact⟨_,_,rfl,by kernel_rfl,i,BU (c:=16) ⟨by decide,by decide⟩ (ae.old hC i) s hne (ub p u) (Ne.symm (nb (ae.lt hC) a.size m)) (Ne.symm (nb (ag hm) a.size m)) r (Ne.symm (nb (ae.lt hC) lr k)) (Ne.symm (nb (ag hm) lr k)) (ub o y) (Ne.symm (nb (ae.lt hC) (le a.size b.size) d)) (Ne.symm (nb (ag hm) (le a.size b.size) d)) n (Ne.symm (nb (ae.lt hC) (le (le (le a.size b.size) e.size) f.size) h)) (Ne.symm (nb (ag hm) (le (le (le a.size b.size) e.size) f.size) h)) rfl⟩
theorem qp(hC:ae w g C)(hm:w.heap[gm]? = some (.cells (mC 22) 45 (0,0)))(hne:g≠gm) : Calls Tryz.prog 148 #[vI 0,vP gm 0,vP g 0] w (iP (fun W=>c5 g gm (cF 22 C).1 (cF 22 C).2 W) w):=by
 refine en 67 Tryz.func148 rfl<|sg<|L0<|dK #[vP gm 0] fun d z e m a=>L0<|dK #[vP g 0] fun f A h n o=>Pl 1<|aL 1<|aK #[.nilFunc] fun B D p q r=>L0<|bI q 0 #[.func (.func 198) #[] #[vP f 0,vP d 0]] fun E F s=>nl<|tn<|ak 2<|aK #[.bool false] fun G H t u v=>L0<|bI u 0 #[.bool true] fun I x y=>nt<|sq<|sg<|?_
 have i:=ud r (aM s (ud v y t)) p
 have j:=aM o i
 have k:=ub j m
 refine aH k 0<|Pl 2<|?_
 have b:=aM a j
 have l:=ub b hm
 refine aH l 0<|aj 1<|bk<|sg<|aH x 0<|aj 9<|c0<|sq<|sq<|go<|aj 3<|c0<|ax 3<|c0<|go<|Pl 7<|nl<|tn<|c0<|ax 3<|c0<|ax 3<|c0<|ax 3<|c1<|ax 2<|rt<|br<|tr<|rr (.func (.func 206) #[] #[vP f 0,vP d 0])<|?_
 exact⟨_,_,rfl,by kernel_rfl,b,CS (c:=22) ⟨by decide,by decide⟩ (ae.old hC b) l hne (ub i n) (Ne.symm (nb (ae.lt hC) a.size h)) (Ne.symm (nb (ag hm) a.size h)) k (Ne.symm (nb (ae.lt hC) lr e)) (Ne.symm (nb (ag hm) lr e))⟩
theorem rb(hC:ae w g C)(hm:w.heap[gm]? = some (.cells (mC 22) 45 (0,0)))(hne:g≠gm) : Calls Tryz.prog 148 #[vI 1,vP gm 0,vP g 0] w (iP (fun W=>c5 g gm (cF 22 C).1 (cF 22 C).2 W) w):=by
 refine en 67 Tryz.func148 rfl<|sg<|L0<|dK #[vP gm 0] fun d z e m a=>L0<|dK #[vP g 0] fun f A h n o=>Pl 1<|aL 1<|aK #[.nilFunc] fun B D p q r=>L0<|bI q 0 #[.func (.func 198) #[] #[vP f 0,vP d 0]] fun E F s=>nl<|tn<|ak 2<|aK #[.bool false] fun G H t u v=>L0<|bI u 0 #[.bool false] fun I x y=>nt<|sq<|sg<|?_
 have i:=ud r (aM s (ud v y t)) p
 have j:=aM o i
 have k:=ub j m
 refine aH k 0<|Pl 2<|?_
 have b:=aM a j
 have l:=ub b hm
 refine aH l 0<|aj 1<|bk<|sg<|aH x 0<|aj 9<|c0<|sq<|sq<|go<|aj 3<|c0<|ax 3<|c0<|go<|Pl 7<|nl<|tn<|c0<|ax 3<|c0<|ax 3<|c0<|ax 3<|c1<|ax 2<|rt<|br<|tr<|rr (.func (.func 206) #[] #[vP f 0,vP d 0])<|?_
 exact⟨_,_,rfl,by kernel_rfl,b,CS (c:=22) ⟨by decide,by decide⟩ (ae.old hC b) l hne (ub i n) (Ne.symm (nb (ae.lt hC) a.size h)) (Ne.symm (nb (ag hm) a.size h)) k (Ne.symm (nb (ae.lt hC) lr e)) (Ne.symm (nb (ag hm) lr e))⟩
theorem qx(hC:ae w g C)(hm:w.heap[gm]? = some (.cells (mC 23) 45 (0,0)))(hne:g≠gm) : Calls Tryz.prog 148 #[vI 0,vP gm 0,vP g 0] w (iP (fun W=>c5 g gm (d6 23 C).1 (d6 23 C).2 W) w):=by
 refine en 67 Tryz.func148 rfl<|sg<|L0<|dK #[vP gm 0] fun f D h q a=>L0<|dK #[vP g 0] fun i E j r b=>Pl 1<|aL 1<|aK #[.nilFunc] fun s F d t u=>L0<|bI t 0 #[.func (.func 198) #[] #[vP i 0,vP f 0]] fun G v x=>nl<|tn<|ak 2<|aK #[.bool false] fun H I y z A=>L0<|bI z 0 #[.bool true] fun J k B=>nt<|sq<|sg<|?_
 have l:=ud A B y
 have m:=ud u (aM x l) d
 have n:=aM b m
 have o:=ub n q
 refine aH o 0<|Pl 2<|?_
 have e:=aM a n
 have p:=ub e hm
 refine aH p 0<|aj 1<|bk<|sg<|aH k 0<|aj 9<|c0<|sq<|sq<|go<|aj 3<|c0<|ax 3<|c0<|go<|Pl 3<|L1<|dp k 0<|aj 3<|c0<|ax 3<|c0<|ak 3<|nl<|tn<|c0<|ax 3<|c0<|ax 3<|c1<|ax 2<|rt<|br<|tr<|rr (.func (.func 207) #[] #[vP s 0,vP i 0,vP f 0])<|?_
 exact⟨_,_,rfl,by kernel_rfl,e,D7 (c:=23) ⟨by decide,by decide⟩ (ae.old hC e) p hne (ub m r) (Ne.symm (nb (ae.lt hC) a.size j)) (Ne.symm (nb (ag hm) a.size j)) o (Ne.symm (nb (ae.lt hC) lr h)) (Ne.symm (nb (ag hm) lr h)) (ub l v) (Ne.symm (nb (ae.lt hC) (le a.size b.size) d)) (Ne.symm (nb (ag hm) (le a.size b.size) d))⟩
theorem ri(hC:ae w g C)(hm:w.heap[gm]? = some (.cells (mC 23) 45 (0,0)))(hne:g≠gm) : Calls Tryz.prog 148 #[vI 1,vP gm 0,vP g 0] w (iP (fun W=>c5 g gm (cj 23 C).1 (cj 23 C).2 W) w):=by
 refine en 67 Tryz.func148 rfl<|sg<|L0<|dK #[vP gm 0] fun d z e n a=>L0<|dK #[vP g 0] fun f A h o p=>Pl 1<|aL 1<|aK #[.nilFunc] fun B D q r s=>L0<|bI r 0 #[.func (.func 198) #[] #[vP f 0,vP d 0]] fun E F t=>nl<|tn<|ak 2<|aK #[.bool false] fun G H u v x=>L0<|bI v 0 #[.bool false] fun I i y=>nt<|sq<|sg<|?_
 have j:=ud s (aM t (ud x y u)) q
 have k:=aM p j
 have l:=ub k n
 refine aH l 0<|Pl 2<|?_
 have b:=aM a k
 have m:=ub b hm
 refine aH m 0<|aj 1<|bk<|sg<|aH i 0<|aj 9<|c0<|sq<|sq<|go<|aj 3<|c0<|ax 3<|c0<|go<|Pl 3<|L1<|dp i 0<|aj 3<|c1<|ax 2<|rt<|br<|tr<|rr (.func (.func 201) #[] #[vP f 0,vP d 0])<|?_
 exact⟨_,_,rfl,by kernel_rfl,b,C5 (c:=23) ⟨by decide,by decide⟩ (ae.old hC b) m hne (ub j o) (Ne.symm (nb (ae.lt hC) a.size h)) (Ne.symm (nb (ag hm) a.size h)) l (Ne.symm (nb (ae.lt hC) lr e)) (Ne.symm (nb (ag hm) lr e))⟩
theorem r7(hC:ae w g C)(hm:w.heap[gm]? = some (.cells (mC 24) 45 (0,0)))(hne:g≠gm) : Calls Tryz.prog 148 #[vI 0,vP gm 0,vP g 0] w (iP (fun W=>c5 g gm (d7 24 C).1 (d7 24 C).2 W) w):=by
 refine en 67 Tryz.func148 rfl<|sg<|L0<|dK #[vP gm 0] fun d z e n a=>L0<|dK #[vP g 0] fun f A h o p=>Pl 1<|aL 1<|aK #[.nilFunc] fun B D q r s=>L0<|bI r 0 #[.func (.func 198) #[] #[vP f 0,vP d 0]] fun E F t=>nl<|tn<|ak 2<|aK #[.bool false] fun G H u v x=>L0<|bI v 0 #[.bool true] fun I i y=>nt<|sq<|sg<|?_
 have j:=ud s (aM t (ud x y u)) q
 have k:=aM p j
 have l:=ub k n
 refine aH l 0<|Pl 2<|?_
 have b:=aM a k
 have m:=ub b hm
 refine aH m 0<|aj 1<|bk<|sg<|aH i 0<|aj 9<|c0<|sq<|sq<|go<|aj 3<|c0<|ax 3<|c0<|go<|Pl 7<|nl<|tn<|c0<|ax 3<|c0<|ax 3<|c0<|ax 3<|c0<|ax 3<|c0<|ak 3<|L1<|dp i 0<|aj 2<|c1<|ax 2<|rt<|br<|tr<|rr (.func (.func 208) #[] #[vP f 0,vP d 0])<|?_
 exact⟨_,_,rfl,by kernel_rfl,b,D9 (c:=24) ⟨by decide,by decide⟩ (ae.old hC b) m hne (ub j o) (Ne.symm (nb (ae.lt hC) a.size h)) (Ne.symm (nb (ag hm) a.size h)) l (Ne.symm (nb (ae.lt hC) lr e)) (Ne.symm (nb (ag hm) lr e))⟩
theorem qX(hC:ae w g C)(hm:w.heap[gm]? = some (.cells (mC 24) 45 (0,0)))(hne:g≠gm) : Calls Tryz.prog 148 #[vI 1,vP gm 0,vP g 0] w (iP (fun W=>c5 g gm (m6 24 C).1 (m6 24 C).2 W) w):=by
 refine en 67 Tryz.func148 rfl<|sg<|L0<|dK #[vP gm 0] fun d z e n a=>L0<|dK #[vP g 0] fun f A h o p=>Pl 1<|aL 1<|aK #[.nilFunc] fun B D q r s=>L0<|bI r 0 #[.func (.func 198) #[] #[vP f 0,vP d 0]] fun E F t=>nl<|tn<|ak 2<|aK #[.bool false] fun G H u v x=>L0<|bI v 0 #[.bool false] fun I i y=>nt<|sq<|sg<|?_
 have j:=ud s (aM t (ud x y u)) q
 have k:=aM p j
 have l:=ub k n
 refine aH l 0<|Pl 2<|?_
 have b:=aM a k
 have m:=ub b hm
 refine aH m 0<|aj 1<|bk<|sg<|aH i 0<|aj 9<|c0<|sq<|sq<|go<|aj 3<|c0<|ax 3<|c0<|go<|Pl 7<|nl<|tn<|c0<|ax 3<|c0<|ax 3<|c0<|ax 3<|c0<|ax 3<|c0<|ak 3<|L1<|dp i 0<|aj 2<|c0<|ax 3<|c1<|ax 2<|rt<|br<|tr<|rr (.func (.func 209) #[] #[vP f 0,vP d 0])<|?_
 exact⟨_,_,rfl,by kernel_rfl,b,CW (c:=24) ⟨by decide,by decide⟩ (ae.old hC b) m hne (ub j o) (Ne.symm (nb (ae.lt hC) a.size h)) (Ne.symm (nb (ag hm) a.size h)) l (Ne.symm (nb (ae.lt hC) lr e)) (Ne.symm (nb (ag hm) lr e))⟩
theorem qH(hC:ae w g C)(hm:w.heap[gm]? = some (.cells (mC c) 45 (0,0)))(hne:g≠gm)(k3:(c==3)=false)(k4:(c==4)=false)(k6:(c==6)=false)(f:(c==16)=false)(h:(c==22)=false)(a:(c==23)=false)(b:(c==24)=false) : Calls Tryz.prog 148 #[vI 0,vP gm 0,vP g 0] w (bD .nilFunc w):=by
 refine en 67 Tryz.func148 rfl<|sg<|L0<|dK #[vP gm 0] fun i x y j k=>L0<|dK #[vP g 0] fun l z A B m=>Pl 1<|aL 1<|aK #[.nilFunc] fun D E n o p=>L0<|bI o 0 #[.func (.func 198) #[] #[vP l 0,vP i 0]] fun F G q=>nl<|tn<|ak 2<|aK #[.bool false] fun H I r s t=>L0<|bI s 0 #[.bool true] fun J u v=>nt<|sq<|sg<|?_
 have d:=aM m (ud p (aM q (ud t v r)) n)
 refine aH (ub d j) 0<|Pl 2<|?_
 have e:=aM k d
 exact aH (ub e hm) 0<|aj 1<|bk<|sg<|aH u 0<|Pl 4<|sy 22 k3<|aj 5<|cf k4<|sq<|ax 3<|cf k3<|ax 3<|cf k4<|go<|Pl 3<|sy 35 a<|aj 4<|c0<|ax 3<|cf k6<|ax 3<|cf f<|ax 3<|cf h<|ak 3<|nl<|tn<|cf a<|ak 3<|sy 59 b<|aj 3<|c0<|ak 3<|nl<|tn<|cf b<|sk<|bn<|tn<|ax 1<|rt<|rr (.nilFunc)<|⟨rfl,e⟩
theorem qy(hC:ae w g C)(hm:w.heap[gm]? = some (.cells (mC c) 45 (0,0)))(hne:g≠gm)(k3:(c==3)=false)(k4:(c==4)=false)(k6:(c==6)=false)(f:(c==16)=false)(h:(c==22)=false)(a:(c==23)=false)(b:(c==24)=false) : Calls Tryz.prog 148 #[vI 1,vP gm 0,vP g 0] w (bD .nilFunc w):=by
 refine en 67 Tryz.func148 rfl<|sg<|L0<|dK #[vP gm 0] fun i x y j k=>L0<|dK #[vP g 0] fun l z A B m=>Pl 1<|aL 1<|aK #[.nilFunc] fun D E n o p=>L0<|bI o 0 #[.func (.func 198) #[] #[vP l 0,vP i 0]] fun F G q=>nl<|tn<|ak 2<|aK #[.bool false] fun H I r s t=>L0<|bI s 0 #[.bool false] fun J u v=>nt<|sq<|sg<|?_
 have d:=aM m (ud p (aM q (ud t v r)) n)
 refine aH (ub d j) 0<|Pl 2<|?_
 have e:=aM k d
 exact aH (ub e hm) 0<|aj 1<|bk<|sg<|aH u 0<|aj 9<|c0<|sq<|sq<|go<|aj 3<|cf k3<|ax 3<|cf k4<|go<|Pl 3<|sy 35 a<|aj 4<|c0<|ax 3<|cf k6<|ak 3<|nl<|tn<|cf f<|ax 3<|cf h<|ax 3<|cf a<|ak 3<|sy 59 b<|aj 3<|c0<|ax 3<|cf b<|sk<|bn<|tn<|ax 1<|rt<|rr (.nilFunc)<|⟨rfl,e⟩
variable {dir:Int}
theorem lh{r:al × bg}    (hC:ae w g C)(hm:w.heap[gm]? = some (.cells (mC c) 45 (0,0)))(hne:g≠gm)(hd:dir=0∨dir=1)(h:b7 dir c C=some r) : Calls Tryz.prog 148 #[.int .i64 dir,.pointer (some ⟨gm,0,none⟩),.pointer (some ⟨g,0,none⟩)] w (iP (fun W=>c5 g gm r.1 r.2 W) w):=by
  by_cases h3:c=3
  · subst h3
    rcases hd with rfl|rfl
    · obtain rfl:bX 125 3 C=r:=Option.some.inj h
      exact sR hC hm hne
    · obtain rfl:cj 3 C=r:=Option.some.inj h
      exact u5 hC hm hne
  by_cases h4:c=4
  · subst h4
    rcases hd with rfl|rfl
    · obtain rfl:bX 125 4 C=r:=Option.some.inj h
      exact ug hC hm hne
    · obtain rfl:cj 4 C=r:=Option.some.inj h
      exact un hC hm hne
  by_cases h6:c=6
  · subst h6
    rcases hd with rfl|rfl
    · obtain rfl:dD 6 C=r:=Option.some.inj h
      exact tN hC hm hne
    · obtain rfl:dD 6 C=r:=Option.some.inj h
      exact sF hC hm hne
  by_cases a:c=16
  · subst a
    rcases hd with rfl|rfl
    · obtain rfl:d8 16 C=r:=Option.some.inj h
      exact qs hC hm hne
    · obtain rfl:bX 123 16 C=r:=Option.some.inj h
      exact qD hC hm hne
  by_cases b:c=22
  · subst b
    rcases hd with rfl|rfl
    · obtain rfl:cF 22 C=r:=Option.some.inj h
      exact qp hC hm hne
    · obtain rfl:cF 22 C=r:=Option.some.inj h
      exact rb hC hm hne
  by_cases d:c=23
  · subst d
    rcases hd with rfl|rfl
    · obtain rfl:d6 23 C=r:=Option.some.inj h
      exact qx hC hm hne
    · obtain rfl:cj 23 C=r:=Option.some.inj h
      exact ri hC hm hne
  by_cases e:c=24
  · subst e
    rcases hd with rfl|rfl
    · obtain rfl:d7 24 C=r:=Option.some.inj h
      exact r7 hC hm hne
    · obtain rfl:m6 24 C=r:=Option.some.inj h
      exact qX hC hm hne
  exfalso
  unfold b7 at h
  simp[h3,h4,h6,a,b,d,e] at h
theorem kX(hC:ae w g C)(hm:w.heap[gm]? = some (.cells (mC c) 45 (0,0)))(hne:g≠gm)(hd:dir=0∨dir=1)(h:b7 dir c C=none) : Calls Tryz.prog 148 #[.int .i64 dir,.pointer (some ⟨gm,0,none⟩),.pointer (some ⟨g,0,none⟩)] w (bD .nilFunc w):=by
  have k3:(c==3)=false:=by
    cases hk:(c==3)
    · rfl
    · obtain rfl:c=3:=by simpa using hk
      rcases hd with rfl|rfl<;>cases h
  have k4:(c==4)=false:=by
    cases hk:(c==4)
    · rfl
    · obtain rfl:c=4:=by simpa using hk
      rcases hd with rfl|rfl<;>cases h
  have k6:(c==6)=false:=by
    cases hk:(c==6)
    · rfl
    · obtain rfl:c=6:=by simpa using hk
      rcases hd with rfl|rfl<;>cases h
  have a:(c==16)=false:=by
    cases hk:(c==16)
    · rfl
    · obtain rfl:c=16:=by simpa using hk
      rcases hd with rfl|rfl<;>cases h
  have b:(c==22)=false:=by
    cases hk:(c==22)
    · rfl
    · obtain rfl:c=22:=by simpa using hk
      rcases hd with rfl|rfl<;>cases h
  have d:(c==23)=false:=by
    cases hk:(c==23)
    · rfl
    · obtain rfl:c=23:=by simpa using hk
      rcases hd with rfl|rfl<;>cases h
  have e:(c==24)=false:=by
    cases hk:(c==24)
    · rfl
    · obtain rfl:c=24:=by simpa using hk
      rcases hd with rfl|rfl<;>cases h
  rcases hd with rfl|rfl
  · exact qH hC hm hne k3 k4 k6 a b d e
  · exact qy hC hm hne k3 k4 k6 a b d e
open Go.RowKit
variable {A:Option Addr}{b:List Int}{cp:Nat}{m:Md}
theorem o6(hcode:B8 c)(hsl:aO m w (.slice A b.length cp) b)(hb:b.length≤1048576) :
    Calls Tryz.prog 98 #[vI 0,vB c,.slice A b.length cp] w (eo (aq b7 0 c b) w):=by
 obtain⟨hcode1,hcode2⟩:=hcode
 have hln:(b.length:Int)≤1048576:=by omega
 refine en 40 Tryz.func98 rfl<|sg<|aK mZ fun U V l i n=>aj 1<|sq<|ax 6<|c0<|bp<|ak 2<|aK mZ fun W X g o y=>aE o (mC c) fun Y z j=>aL 1<|?_
 have h:=ud y j g
 have p:=aM n h
 refine az<|e3 (dA (aO.old hsl p) (by omega)) fun Z a0 d B a=>Pl 1<|aL 2<|?_
 have C:=aM p a
 refine wo (b7 0 c ⟨b,false,0⟩) (fun hr=>?_) (fun r hr=>?_)
 refine az<|m1 (kX (dir:=0) (c:=c) B (ub a z) (Ne.symm (nb (ag o) j.size d)) (Or.inl rfl) hr) fun a1 D=>aj 1<|sq<|ax 2<|c1<|ak 1<|?_
 refine aE (ub (aM h (aM a D)) i) mZ fun a2 L M=>aj 1<|bh<|bV L (vI 4)<|?_
 exact dq (by unfold aq;(try simp only[bj,dl,dm,dj,dn,dk,reduceIte,hr])<;>rfl) (c7 (ud C (uz D M) l))
 have E:=nb (ag o) j.size d
 refine az<|pK (lh (dir:=0) (c:=c) B (ub a z) (Ne.symm E) (Or.inl rfl) hr) fun N F a3 O q hcall51=>aj 1<|sq<|ax 2<|c0<|bp<|sq<|go<|Pl 1<|L0<|i4 (f:=N) (args:=F) (hf:=O) #[] F<|m3 (hcall51) fun a4 G P H=>?_
 obtain⟨Q,k,s⟩:=P
 refine aL 1<|az<|m2 (et G) fun a5 I t=>nt<|sq<|ak 1<|az<|mq (cl I)<|?_
 have a6:=ae.len I
 refine Pl 1<|cy 2<|?_
 have u:=uz q (u1 H t im)
 have J:=ut C u (ac (ni p.size d) (ac (ni n.size g) aA))
 have hs:aq b7 0 c b=bA r.2 r.1:=by
   unfold aq
   (try simp only[bj,dl,dm,dj,dn,dk,reduceIte,hr])
   all_goals rfl
 refine cb ((r.1.endC.e != 0)) (fun v=>?_) (fun v=>?_)
 have x:=av v
 refine ak 2<|?_
 refine aE (ub (ud h (ud a u d) g) i) mZ fun a7 R S=>aj 1<|bh<|bV R (vI r.1.endC.e)<|?_
 rw[hs]
 exact cR x (ud J S l)
 have x:=aJ v
 refine bp<|sg<|?_
 refine L0<|cO (hz:=(by rw[k.2];exact be)) (aY t E k.1)<|?_
 refine aE (hz:=(by rw[k.2];exact be)) (hv:=s.size) (h1:=s.one) (ub (ud h (ud a u d) g) i) (Q) fun a8 T K=>aj 1<|rt<|eW 22 k.2 T (vI 0)<|?_
 rw[hs]
 exact dt x (aS.lo (aS.upd s (us t K) (ah (ae.safe G _ (by decide)) (ah (aW (ub (ud h (ud a (uz q H) d) g) i) (by decide)) aC))) (le (le (le (le n.size y.size) j.size) a.size) q.size)) (ud J K l)
theorem nZ(hcode:B8 c)(hsl:aO m w (.slice A b.length cp) b)(hb:b.length≤1048576) :
    Calls Tryz.prog 98 #[vI 1,vB c,.slice A b.length cp] w (eo (aq b7 1 c b) w):=by
 obtain⟨hcode1,hcode2⟩:=hcode
 have hln:(b.length:Int)≤1048576:=by omega
 refine en 40 Tryz.func98 rfl<|sg<|aK mZ fun U V l i n=>aj 1<|sq<|ax 6<|c0<|bp<|ak 2<|aK mZ fun W X g o y=>aE o (mC c) fun Y z j=>aL 1<|?_
 have h:=ud y j g
 have p:=aM n h
 refine az<|e3 (dA (aO.old hsl p) (by omega)) fun Z a0 d B a=>Pl 1<|aL 2<|?_
 have C:=aM p a
 refine wo (b7 1 c ⟨b,false,0⟩) (fun hr=>?_) (fun r hr=>?_)
 refine az<|m1 (kX (dir:=1) (c:=c) B (ub a z) (Ne.symm (nb (ag o) j.size d)) (Or.inr rfl) hr) fun a1 D=>aj 1<|sq<|ax 2<|c1<|ak 1<|?_
 refine aE (ub (aM h (aM a D)) i) mZ fun a2 L M=>aj 1<|bh<|bV L (vI 4)<|?_
 exact dq (by unfold aq;(try simp only[bj,dl,dm,dj,dn,dk,reduceIte,hr])<;>rfl) (c7 (ud C (uz D M) l))
 have E:=nb (ag o) j.size d
 refine az<|pK (lh (dir:=1) (c:=c) B (ub a z) (Ne.symm E) (Or.inr rfl) hr) fun N F a3 O q hcall51=>aj 1<|sq<|ax 2<|c0<|bp<|sq<|go<|Pl 1<|L0<|i4 (f:=N) (args:=F) (hf:=O) #[] F<|m3 (hcall51) fun a4 G P H=>?_
 obtain⟨Q,k,s⟩:=P
 refine aL 1<|az<|m2 (et G) fun a5 I t=>nt<|sq<|ak 1<|az<|mq (cl I)<|?_
 have a6:=ae.len I
 refine Pl 1<|cy 2<|?_
 have u:=uz q (u1 H t im)
 have J:=ut C u (ac (ni p.size d) (ac (ni n.size g) aA))
 have hs:aq b7 1 c b=bA r.2 r.1:=by
   unfold aq
   (try simp only[bj,dl,dm,dj,dn,dk,reduceIte,hr])
   all_goals rfl
 refine cb ((r.1.endC.e != 0)) (fun v=>?_) (fun v=>?_)
 have x:=av v
 refine ak 2<|?_
 refine aE (ub (ud h (ud a u d) g) i) mZ fun a7 R S=>aj 1<|bh<|bV R (vI r.1.endC.e)<|?_
 rw[hs]
 exact cR x (ud J S l)
 have x:=aJ v
 refine bp<|sg<|?_
 refine L0<|cO (hz:=(by rw[k.2];exact be)) (aY t E k.1)<|?_
 refine aE (hz:=(by rw[k.2];exact be)) (hv:=s.size) (h1:=s.one) (ub (ud h (ud a u d) g) i) (Q) fun a8 T K=>aj 1<|rt<|eW 22 k.2 T (vI 0)<|?_
 rw[hs]
 exact dt x (aS.lo (aS.upd s (us t K) (ah (ae.safe G _ (by decide)) (ah (aW (ub (ud h (ud a (uz q H) d) g) i) (by decide)) aC))) (le (le (le (le n.size y.size) j.size) a.size) q.size)) (ud J K l)
theorem nN(hcode:B8 c)(hsl:aO m w (.slice A b.length cp) b)(hb:b.length≤1048576)(hd:¬ (dir=0∨dir=1)) :
    Calls Tryz.prog 98 #[vI dir,vB c,.slice A b.length cp] w (eo (aq b7 dir c b) w):=by
 obtain⟨hcode1,hcode2⟩:=hcode
 have hln:(b.length:Int)≤1048576:=by omega
 have e0:(dir != 0)=true:=by simp;omega
 have e1:(dir != 1)=true:=by simp;omega
 refine en 40 Tryz.func98 rfl<|sg<|aK mZ fun g h a d e=>aj 1<|sq<|ak 3<|sy 14 e0<|Pl 3<|nl<|tn<|ct e1<|ak 1<|aE d mZ fun i ej f=>aj 1<|bh<|bV ej (vI 1)<|?_
 exact dq (by unfold aq b7;(try simp only[e0,e1,bj,dl,dm,dj,dn,dk,reduceIte,hd])<;>rfl) (c7 (ud e f a))
theorem ql{v:Value}    (hc:B8 c)(h:aO m w v b)(hb:b.length≤1048576) :
    Calls Tryz.prog 98 #[.int .i64 dir,.int .u8 c,v] w (eo (aq b7 dir c b) w):=by
  obtain⟨A,cp,rfl,_,_⟩:=h.shape
  by_cases h0:dir=0
  · subst h0;exact o6 hc h hb
  by_cases h1:dir=1
  · subst h1;exact nZ hc h hb
  exact nN hc h hb (by omega)
open Go.RowKit
theorem l2(hcode:B8 c)(hC:ae w g C)(hm:w.heap[gm]? = some (.cells (mC c) 45 (0,0)))(hne:g≠gm) :
    Calls Tryz.prog 193 #[.agg #[vP g 0,vP gm 0],vW most] w (rc g gm (c9 C most) (mG c 0 C.wordV (C.wordsC 1).wordV 0 0 0 0 0 0 0 0 nS nS nS nS 0 0 0 0 0 nS) w):=by
 obtain⟨hcode1,hcode2⟩:=hcode
 have hlen:=hC.len
 refine en 51 Tryz.func193 rfl<|sg<|L0<|dK #[vP g 0,vP gm 0] fun f am P a7 a8=>nt<|sq<|Rg 8 (fun w'=>w'.cell? ⟨f,1,none⟩=some (vP gm 0)∧w'.cell? ⟨f,0,none⟩=some (vP g 0)) fun an Q=>?_
 have t:=ub Q a7
 refine bB ⟨(ap t rfl),(ap t rfl)⟩ fun o=>Rt 0 o<|Rl 1 o (fun _ hs=>hs.1)<|Rt 2 o<|Rl 3 o (fun _ hs=>hs.2)<|?_
 have R:=aM a8 Q
 refine R0 4 rfl<|Oc<|m3 (bL (ae.old hC R)) fun ao a9 S aq=>?_
 have h:=nb (ae.lt hC) lr P
 have u:=aY S (Ne.symm h) t
 refine bB ⟨(ap u rfl),(ap u rfl)⟩ fun T=>Rt 5 T<|Rt 6 T<|?_
 have U:=uz R S
 have V:=aY U (Ne.symm hne) hm
 refine R0 7 rfl<|bI V 2 (mG c 0 C.wordV 0 0 0 0 0 0 0 0 0 nS nS nS nS 0 0 0 0 0 nS) fun ar ab W=>?_
 have X:=nb (ag hm) lr P
 have v:=aY W (Ne.symm X) u
 refine bB ⟨(ap v rfl),(ap v rfl)⟩ fun au=>re<|tn<|sq<|Rg 8 (fun w'=>w'.cell? ⟨f,1,none⟩=some (vP gm 0)∧w'.cell? ⟨f,0,none⟩=some (vP g 0)) fun av x=>?_
 have y:=ub x v
 refine bB ⟨(ap y rfl),(ap y rfl)⟩ fun p=>Rt 0 p<|Rl 1 p (fun _ hs=>hs.1)<|Rt 2 p<|Rl 3 p (fun _ hs=>hs.2)<|?_
 have Y:=aM W x
 refine R0 4 rfl<|Oc<|m3 (bL (ae.upd a9 Y (aa hne ay) (ah (aW V (by decide)) aC))) fun aw Z z ax=>?_
 have A:=aY z (Ne.symm h) y
 refine bB ⟨(ap A rfl),(ap A rfl)⟩ fun a0=>Rt 5 a0<|Rt 6 a0<|?_
 have B:=aY (uz x z) (Ne.symm hne) ab
 refine R0 7 rfl<|bI B 3 (mG c 0 C.wordV ((C.wordsC 1).wordV) 0 0 0 0 0 0 0 0 nS nS nS nS 0 0 0 0 0 nS) fun az ac a1=>?_
 have D:=aY a1 (Ne.symm X) A
 refine bB ⟨(ap D rfl),(ap D rfl)⟩ fun aA=>re<|tn<|sq<|Rg 18 (fun w'=>w'.cell? ⟨f,0,none⟩=some (vP g 0)∧w'.cell? ⟨f,1,none⟩=some (vP gm 0)∧w'.cell? ⟨gm,3,none⟩=some (vW ((C.wordsC 1).wordV))) fun aB E=>?_
 have q:=ub E D
 have F:=ub E ac
 refine bB ⟨(ap q rfl),(ap q rfl),(ap F rfl)⟩ fun b=>Rt 0 b<|Rl 1 b (fun _ hs=>hs.1)<|Rt 2 b<|Rl 3 b (fun _ hs=>hs.2.1)<|Rt 4 b<|Rt 5 b<|Rl 6 b (fun _ hs=>hs.2.2)<|Rt 7 b<|Rt 8 b<|?_
 have G:=aM a1 E
 have a2:=ui U (ui Y (us z G))
 refine ze 26 ((decide (1≤((C.wordsC 1).wordV)))) (fun i=>?_) (fun i=>?_)
 have ad:=of_decide_eq_true i
 refine Rt 9 b<|Rl 10 b (fun _ hs=>hs.2.1)<|Rt 11 b<|Rt 12 b<|Rl 13 b (fun _ hs=>hs.2.2)<|Rt 14 b<|Rt 15 b<|Rt 16 b<|?_
 refine R0 17 rfl<|Oc<|m2 (bf ((decide (((C.wordsC 1).wordV)≤most))) 5 (ae.upd Z G (aa hne ay) (ah (aW B (by decide)) aC))) fun aD af H=>?_
 have I:=aY H (Ne.symm h) q
 have a3:=aY H (Ne.symm hne) F
 refine bB ⟨(ap I rfl),(ap I rfl),(ap a3 rfl)⟩ fun aE=>re<|tn<|Rg 15 (fun w'=>w'.cell? ⟨f,0,none⟩=some (vP g 0)∧w'.cell? ⟨f,1,none⟩=some (vP gm 0)∧w'.cell? ⟨gm,2,none⟩=some (vW C.wordV)∧w'.cell? ⟨gm,3,none⟩=some (vW ((C.wordsC 1).wordV))) fun aF r=>?_
 have j:=ub r I
 have k:=ub r a3
 refine bB ⟨(ap j rfl),(ap j rfl),(ap k rfl),(ap k rfl)⟩ fun d=>Rt 0 d<|Rl 1 d (fun _ hs=>hs.1)<|Rt 2 d<|Rl 3 d (fun _ hs=>hs.2.1)<|Rt 4 d<|Rt 5 d<|Rl 6 d (fun _ hs=>hs.2.2.1)<|Rt 7 d<|Rl 8 d (fun _ hs=>hs.2.1)<|Rt 9 d<|Rt 10 d<|Rl 11 d (fun _ hs=>hs.2.2.2)<|Rr 12 d (vI ((C.wordsC 1).wordV)) (fun _ _=>bF (vI (IntKind.i64.wrap ((C.wordsC 1).wordV))) (by kernel_rfl) (congrArg (Value.int .i64) (i64_in (by omega))))<|R0 13 rfl<|Oc<|mq (iI (a:=C.wordV) (n:=(C.wordsC 1).wordV) (by omega))<|bB ⟨(ap j rfl),(ap j rfl),(ap k rfl),(ap k rfl)⟩ fun aG=>?_
 refine R0 14 rfl<|Oc<|m2 (bf ((dh C.wordV ((C.wordsC 1).wordV))) 7 (ae.old af r)) fun aH ai J=>?_
 have a4:=aY J (Ne.symm h) j
 have K:=aY J (Ne.symm hne) k
 refine bB ⟨(ap a4 rfl),(ap a4 rfl),(ap K rfl),(ap K rfl)⟩ fun aI=>re<|rm (.tuple #[])<|?_
 have hs:c9 C most=((((C.wordsC 1).wordsC 1).need (decide (((C.wordsC 1).wordV)≤most)) 5).need (dh C.wordV ((C.wordsC 1).wordV)) 7):=by
   unfold c9 jK
   (try simp only[i,bj,reduceIte])
   all_goals rfl
 rw[hs]
 exact⟨rfl,ai,K,(u1 a2 (u1 H (uz r J) im) im)⟩
 have ad:=of_decide_eq_false i
 refine Ro 9 b<|Ro 10 b<|Ro 11 b<|Ro 12 b<|Ro 13 b<|Ro 14 b<|Ro 15 b<|Rt 16 b<|?_
 refine R0 17 rfl<|Oc<|m2 (bf (false) 5 (ae.upd Z G (aa hne ay) (ah (aW B (by decide)) aC))) fun aJ aj L=>?_
 have M:=aY L (Ne.symm h) q
 have a5:=aY L (Ne.symm hne) F
 refine bB ⟨(ap M rfl),(ap M rfl),(ap a5 rfl)⟩ fun aK=>re<|tn<|Rg 15 (fun w'=>w'.cell? ⟨f,0,none⟩=some (vP g 0)∧w'.cell? ⟨f,1,none⟩=some (vP gm 0)∧w'.cell? ⟨gm,2,none⟩=some (vW C.wordV)∧w'.cell? ⟨gm,3,none⟩=some (vW ((C.wordsC 1).wordV))) fun aL s=>?_
 have l:=ub s M
 have m:=ub s a5
 refine bB ⟨(ap l rfl),(ap l rfl),(ap m rfl),(ap m rfl)⟩ fun e=>Rt 0 e<|Rl 1 e (fun _ hs=>hs.1)<|Rt 2 e<|Rl 3 e (fun _ hs=>hs.2.1)<|Rt 4 e<|Rt 5 e<|Rl 6 e (fun _ hs=>hs.2.2.1)<|Rt 7 e<|Rl 8 e (fun _ hs=>hs.2.1)<|Rt 9 e<|Rt 10 e<|Rl 11 e (fun _ hs=>hs.2.2.2)<|Rr 12 e (vI ((C.wordsC 1).wordV)) (fun _ _=>bF (vI (IntKind.i64.wrap ((C.wordsC 1).wordV))) (by kernel_rfl) (congrArg (Value.int .i64) (i64_in (by omega))))<|R0 13 rfl<|Oc<|mq (iI (a:=C.wordV) (n:=(C.wordsC 1).wordV) (by omega))<|bB ⟨(ap l rfl),(ap l rfl),(ap m rfl),(ap m rfl)⟩ fun aN=>?_
 refine R0 14 rfl<|Oc<|m2 (bf ((dh C.wordV ((C.wordsC 1).wordV))) 7 (ae.old aj s)) fun aO ak N=>?_
 have a6:=aY N (Ne.symm h) l
 have O:=aY N (Ne.symm hne) m
 refine bB ⟨(ap a6 rfl),(ap a6 rfl),(ap O rfl),(ap O rfl)⟩ fun aP=>re<|rm (.tuple #[])<|?_
 have hs:c9 C most=((((C.wordsC 1).wordsC 1).need false 5).need (dh C.wordV ((C.wordsC 1).wordV)) 7):=by
   unfold c9 jK
   (try simp only[i,bj,reduceIte])
   all_goals rfl
 rw[hs]
 exact⟨rfl,ak,O,(u1 a2 (u1 L (uz s N) im) im)⟩
theorem jr(hcode:B8 c)(hC:ae w g C)(hm:w.heap[gm]? = some (.cells (mC c) 45 (0,0)))(hne:g≠gm) :
    Calls Tryz.prog 140 #[.agg #[vP g 0,vP gm 0]] w (c5 g gm (dT 2000 c C).1 (dT 2000 c C).2 w):=by
 obtain⟨hcode1,hcode2⟩:=hcode
 have hlen:=hC.len
 refine en 4 Tryz.func140 rfl<|sg<|L0<|dK #[vP g 0,vP gm 0] fun i j k d a=>nt<|go<|L0<|cO d<|?_
 have b:=ae.old hC a
 refine az<|m3 (l2 (most:=2000) ⟨hcode1,hcode2⟩ b (ub a hm) hne) fun l e f h=>?_
 have m:=(b).wordV
 have n:=bN (ck (b).rng 1)
 refine nl<|rm (.tuple #[])<|?_
 exact dq (by unfold dT;(try simp only[bj,reduceIte])<;>rfl) ⟨rfl,e,⟨_,⟨f,rfl⟩,⟨_,_,_,_,_,rfl,aI.nil ..,aI.nil ..,aI.nil ..,aI.nil ..,aI.nil ..,⟨(b8 (x:=c) (by omega)),(b8 (x:=0) (by omega)),(ci (x:=C.wordV) (by omega)),(ci (x:=(C.wordsC 1).wordV) (by omega)),(ci (x:=0) (by omega)),(ci (x:=0) (by omega)),(ci (x:=0) (by omega)),(ci (x:=0) (by omega)),(ci (x:=0) (by omega)),(ci (x:=0) (by omega)),(ci (x:=0) (by omega)),(ci (x:=0) (by omega)),(b8 (x:=0) (by omega)),(b8 (x:=0) (by omega)),(b8 (x:=0) (by omega)),(b8 (x:=0) (by omega)),(b8 (x:=0) (by omega))⟩⟩⟩,(uz a h)⟩
theorem nd(hcode:B8 c)(hC:ae w g C)(hm:w.heap[gm]? = some (.cells (mC c) 45 (0,0)))(hne:g≠gm) :
    Calls Tryz.prog 141 #[.agg #[vP g 0,vP gm 0]] w (c5 g gm (dL c C).1 (dL c C).2 w):=by
 obtain⟨hcode1,hcode2⟩:=hcode
 have hlen:=hC.len
 refine en 24 Tryz.func141 rfl<|sg<|L0<|dK #[vP g 0,vP gm 0] fun l L m o d=>aL 1<|aH o 0<|?_
 refine az<|m3 (bM (ae.old hC d)) fun M A e N=>Pl 1<|aL 1<|?_
 have f:=nb (ae.lt hC) lr m
 have p:=aY e (Ne.symm f) o
 refine aH p 0<|Pl 3<|cV 3 [10] 13 10 (decide (1≤C.byteV)) (decide (C.byteV≤250)) (fun K B D=>?_) ?_
 have O:=of_decide_eq_true D
 exact Pl 3<|ce B _ rfl
 refine az<|m2 (bf (((decide (1≤C.byteV))&&(decide (C.byteV≤250)))) 5 A) fun P E r=>nt<|Rg 10 (fun w'=>w'.cell? ⟨l,1,none⟩=some (vP gm 0)∧w'.cell? ⟨l,0,none⟩=some (vP g 0)) fun Q h=>?_
 have s:=aM r h
 have i:=aY s (Ne.symm f) p
 refine bB ⟨(ap i rfl),(ap i rfl)⟩ fun a=>Rt 0 a<|Rl 1 a (fun _ hs=>hs.1)<|Rt 2 a<|Rl 3 a (fun _ hs=>hs.2)<|Rt 4 a<|Rr 5 a (vI C.byteV) (fun _ _=>bF (vI (IntKind.i64.wrap C.byteV)) (by kernel_rfl) (congrArg (Value.int .i64) (i64_in (by omega))))<|?_
 have t:=ae.old E h
 refine R0 6 rfl<|Oc<|tT (c3 (n:=C.byteV) t) fun F G R H S T I u=>?_
 have U:=Nat.le_trans (al.bytesR_le ((C.bytesC 1).need ((decide (1≤C.byteV))&&(decide (C.byteV≤250))) 5) C.byteV) (ae.len t)
 have j:=aY u (Ne.symm f) i
 refine bB ⟨(ap j rfl),(ap j rfl)⟩ fun v=>Rt 7 v<|Rt 8 v<|?_
 have y:=uz d (u1 e (u1 s u im) im)
 have k:=aY y (Ne.symm hne) hm
 refine R0 9 rfl<|bI k 14 (mG c 0 0 0 0 0 0 0 0 0 0 0 nS nS (.slice F ((((C.bytesC 1).need ((decide (1≤C.byteV))&&(decide (C.byteV≤250))) 5).bytesR C.byteV).length) G) nS 0 0 0 0 0 nS) fun V J b=>?_
 have z:=aY b (Ne.symm (nb (ag hm) lr m)) j
 refine bB ⟨(ap z rfl),(ap z rfl)⟩ fun W=>re<|rm (.tuple #[])<|?_
 exact dq (by unfold dL ei;(try simp only[bj,reduceIte])<;>rfl) ⟨rfl,(ae.upd I b (aa hne ay) (ah (aW k (by decide)) aC)),⟨_,⟨J,rfl⟩,⟨_,_,_,_,_,rfl,aI.nil ..,aI.nil ..,(aI.hi_le (aO.upd' H b (ah (aW k (by decide)) aC)) (le (le (le d.size e.size) r.size) h.size) fun _ _ q=>q),aI.nil ..,aI.nil ..,⟨(b8 (x:=c) (by omega)),(b8 (x:=0) (by omega)),(ci (x:=0) (by omega)),(ci (x:=0) (by omega)),(ci (x:=0) (by omega)),(ci (x:=0) (by omega)),(ci (x:=0) (by omega)),(ci (x:=0) (by omega)),(ci (x:=0) (by omega)),(ci (x:=0) (by omega)),(ci (x:=0) (by omega)),(ci (x:=0) (by omega)),(b8 (x:=0) (by omega)),(b8 (x:=0) (by omega)),(b8 (x:=0) (by omega)),(b8 (x:=0) (by omega)),(b8 (x:=0) (by omega))⟩⟩⟩,(us y b)⟩
theorem mF(hcode:B8 c)(hC:ae w g C)(hm:w.heap[gm]? = some (.cells (mC c) 45 (0,0)))(hne:g≠gm) :
    Calls Tryz.prog 142 #[.agg #[vP g 0,vP gm 0]] w (c5 g gm (de c C).1 (de c C).2 w):=by
 obtain⟨hcode1,hcode2⟩:=hcode
 have hlen:=hC.len
 refine en 33 Tryz.func142 rfl<|sg<|L0<|dK #[vP g 0,vP gm 0] fun b a0 z S T=>nt<|sq<|Rg 8 (fun w'=>w'.cell? ⟨b,1,none⟩=some (vP gm 0)∧w'.cell? ⟨b,0,none⟩=some (vP g 0)) fun a1 A=>?_
 have j:=ub A S
 refine bB ⟨(ap j rfl),(ap j rfl)⟩ fun e=>Rt 0 e<|Rl 1 e (fun _ hs=>hs.1)<|Rt 2 e<|Rl 3 e (fun _ hs=>hs.2)<|?_
 have B:=aM T A
 refine R0 4 rfl<|Oc<|m3 (bL (ae.old hC B)) fun a2 U D a3=>?_
 have f:=nb (ae.lt hC) lr z
 have k:=aY D (Ne.symm f) j
 refine bB ⟨(ap k rfl),(ap k rfl)⟩ fun E=>Rt 5 E<|Rt 6 E<|?_
 have F:=uz B D
 have G:=aY F (Ne.symm hne) hm
 refine R0 7 rfl<|bI G 2 (mG c 0 C.wordV 0 0 0 0 0 0 0 0 0 nS nS nS nS 0 0 0 0 0 nS) fun a4 V H=>?_
 have I:=nb (ag hm) lr z
 have l:=aY H (Ne.symm I) k
 refine bB ⟨(ap l rfl),(ap l rfl)⟩ fun a5=>re<|tn<|sq<|Rg 8 (fun w'=>w'.cell? ⟨b,1,none⟩=some (vP gm 0)∧w'.cell? ⟨b,0,none⟩=some (vP g 0)) fun a6 m=>?_
 have n:=ub m l
 refine bB ⟨(ap n rfl),(ap n rfl)⟩ fun h=>Rt 0 h<|Rl 1 h (fun _ hs=>hs.1)<|Rt 2 h<|Rl 3 h (fun _ hs=>hs.2)<|?_
 have J:=aM H m
 refine R0 4 rfl<|Oc<|m3 (bL (ae.upd U J (aa hne ay) (ah (aW G (by decide)) aC))) fun a7 K o a8=>?_
 have p:=aY o (Ne.symm f) n
 refine bB ⟨(ap p rfl),(ap p rfl)⟩ fun L=>Rt 5 L<|Rt 6 L<|?_
 have q:=aY (uz m o) (Ne.symm hne) V
 refine R0 7 rfl<|bI q 4 (mG c 0 C.wordV 0 ((C.wordsC 1).wordV) 0 0 0 0 0 0 0 nS nS nS nS 0 0 0 0 0 nS) fun a9 W M=>?_
 have r:=aY M (Ne.symm I) p
 refine bB ⟨(ap r rfl),(ap r rfl)⟩ fun ab=>re<|tn<|Rg 17 (fun w'=>w'.cell? ⟨b,0,none⟩=some (vP g 0)∧w'.cell? ⟨b,1,none⟩=some (vP gm 0)∧w'.cell? ⟨gm,4,none⟩=some (vW ((C.wordsC 1).wordV))) fun ac s=>?_
 have i:=ub s r
 have t:=ub s W
 refine bB ⟨(ap i rfl),(ap i rfl),(ap t rfl)⟩ fun a=>Rt 0 a<|Rl 1 a (fun _ hs=>hs.1)<|Rt 2 a<|Rl 3 a (fun _ hs=>hs.2.1)<|Rt 4 a<|Rt 5 a<|Rl 6 a (fun _ hs=>hs.2.2)<|Rt 7 a<|Rt 8 a<|?_
 have u:=aM M s
 have N:=ui F (ui J (us o u))
 refine ze 24 ((((C.wordsC 1).wordV)==0)) (fun d=>?_) (fun d=>?_)
 have X:=am d
 refine Ro 9 a<|Ro 10 a<|Ro 11 a<|Ro 12 a<|Ro 13 a<|Ro 14 a<|Rt 15 a<|?_
 refine R0 16 rfl<|Oc<|m2 (bf (true) 6 (ae.upd K u (aa hne ay) (ah (aW q (by decide)) aC))) fun ad Y v=>?_
 have O:=aY v (Ne.symm f) i
 have P:=aY v (Ne.symm hne) t
 refine bB ⟨(ap O rfl),(ap O rfl),(ap P rfl)⟩ fun af=>re<|rm (.tuple #[])<|?_
 have hs:de c C=((((C.wordsC 1).wordsC 1).need true 6),(bg.mk c 0 C.wordV 0 ((C.wordsC 1).wordV) 0 0 0 0 0 0 0 [] [] [] [] 0 0 0 0 0 [])):=by
   unfold de fv
   (try simp only[d,bj,reduceIte])
   all_goals rfl
 rw[hs]
 exact⟨rfl,Y,⟨_,⟨P,rfl⟩,⟨_,_,_,_,_,rfl,aI.nil ..,aI.nil ..,aI.nil ..,aI.nil ..,aI.nil ..,⟨(b8 (x:=c) (by omega)),(b8 (x:=0) (by omega)),(ci (x:=C.wordV) (by omega)),(ci (x:=0) (by omega)),(ci (x:=(C.wordsC 1).wordV) (by omega)),(ci (x:=0) (by omega)),(ci (x:=0) (by omega)),(ci (x:=0) (by omega)),(ci (x:=0) (by omega)),(ci (x:=0) (by omega)),(ci (x:=0) (by omega)),(ci (x:=0) (by omega)),(b8 (x:=0) (by omega)),(b8 (x:=0) (by omega)),(b8 (x:=0) (by omega)),(b8 (x:=0) (by omega)),(b8 (x:=0) (by omega))⟩⟩⟩,(u1 N v im)⟩
 have X:=au d
 refine Rt 9 a<|Rl 10 a (fun _ hs=>hs.2.1)<|Rt 11 a<|Rt 12 a<|Rl 13 a (fun _ hs=>hs.2.2)<|Rt 14 a<|Rt 15 a<|?_
 refine R0 16 rfl<|Oc<|m2 (bf ((((C.wordsC 1).wordV)==65280)) 6 (ae.upd K u (aa hne ay) (ah (aW q (by decide)) aC))) fun ai Z y=>?_
 have Q:=aY y (Ne.symm f) i
 have R:=aY y (Ne.symm hne) t
 refine bB ⟨(ap Q rfl),(ap Q rfl),(ap R rfl)⟩ fun aj=>re<|rm (.tuple #[])<|?_
 have hs:de c C=((((C.wordsC 1).wordsC 1).need (((C.wordsC 1).wordV)==65280) 6),(bg.mk c 0 C.wordV 0 ((C.wordsC 1).wordV) 0 0 0 0 0 0 0 [] [] [] [] 0 0 0 0 0 [])):=by
   unfold de fv
   (try simp only[d,bj,reduceIte])
   all_goals rfl
 rw[hs]
 exact⟨rfl,Z,⟨_,⟨R,rfl⟩,⟨_,_,_,_,_,rfl,aI.nil ..,aI.nil ..,aI.nil ..,aI.nil ..,aI.nil ..,⟨(b8 (x:=c) (by omega)),(b8 (x:=0) (by omega)),(ci (x:=C.wordV) (by omega)),(ci (x:=0) (by omega)),(ci (x:=(C.wordsC 1).wordV) (by omega)),(ci (x:=0) (by omega)),(ci (x:=0) (by omega)),(ci (x:=0) (by omega)),(ci (x:=0) (by omega)),(ci (x:=0) (by omega)),(ci (x:=0) (by omega)),(ci (x:=0) (by omega)),(b8 (x:=0) (by omega)),(b8 (x:=0) (by omega)),(b8 (x:=0) (by omega)),(b8 (x:=0) (by omega)),(b8 (x:=0) (by omega))⟩⟩⟩,(u1 N y im)⟩
theorem w3(hcode:B8 c)(hC:ae w g C)(hm:w.heap[gm]? = some (.cells (mC c) 45 (0,0)))(hne:g≠gm) :
    Calls Tryz.prog 144 #[.agg #[vP g 0,vP gm 0]] w (c5 g gm (dT 1968 c C).1 (dT 1968 c C).2 w):=by
 obtain⟨hcode1,hcode2⟩:=hcode
 have hlen:=hC.len
 refine en 4 Tryz.func144 rfl<|sg<|L0<|dK #[vP g 0,vP gm 0] fun i j k d a=>nt<|go<|L0<|cO d<|?_
 have b:=ae.old hC a
 refine az<|m3 (l2 (most:=1968) ⟨hcode1,hcode2⟩ b (ub a hm) hne) fun l e f h=>?_
 have m:=(b).wordV
 have n:=bN (ck (b).rng 1)
 refine nl<|rm (.tuple #[])<|?_
 exact dq (by unfold dT;(try simp only[bj,reduceIte])<;>rfl) ⟨rfl,e,⟨_,⟨f,rfl⟩,⟨_,_,_,_,_,rfl,aI.nil ..,aI.nil ..,aI.nil ..,aI.nil ..,aI.nil ..,⟨(b8 (x:=c) (by omega)),(b8 (x:=0) (by omega)),(ci (x:=C.wordV) (by omega)),(ci (x:=(C.wordsC 1).wordV) (by omega)),(ci (x:=0) (by omega)),(ci (x:=0) (by omega)),(ci (x:=0) (by omega)),(ci (x:=0) (by omega)),(ci (x:=0) (by omega)),(ci (x:=0) (by omega)),(ci (x:=0) (by omega)),(ci (x:=0) (by omega)),(b8 (x:=0) (by omega)),(b8 (x:=0) (by omega)),(b8 (x:=0) (by omega)),(b8 (x:=0) (by omega)),(b8 (x:=0) (by omega))⟩⟩⟩,(uz a h)⟩
theorem tC(hcode:B8 c)(hC:ae w g C)(hm:w.heap[gm]? = some (.cells (mC c) 45 (0,0)))(hne:g≠gm) :
    Calls Tryz.prog 144 #[.agg #[vP g 0,vP gm 0]] w (rc g gm (c9 C 1968) (mG c 0 C.wordV (C.wordsC 1).wordV 0 0 0 0 0 0 0 0 nS nS nS nS 0 0 0 0 0 nS) w):=by
 obtain⟨hcode1,hcode2⟩:=hcode
 have hlen:=hC.len
 refine en 4 Tryz.func144 rfl<|sg<|L0<|dK #[vP g 0,vP gm 0] fun i j k d a=>nt<|go<|L0<|cO d<|?_
 have b:=ae.old hC a
 refine az<|m3 (l2 (most:=1968) ⟨hcode1,hcode2⟩ b (ub a hm) hne) fun l e f h=>?_
 have m:=(b).wordV
 have n:=bN (ck (b).rng 1)
 refine nl<|rm (.tuple #[])<|?_
 have hs:c9 C 1968=(c9 C 1968):=by
   unfold c9 jK
   (try simp only[bj,reduceIte])
   all_goals rfl
 rw[hs]
 exact⟨rfl,e,f,(uz a h)⟩
theorem xl(hcode:B8 c)(hC:ae w g C)(hm:w.heap[gm]? = some (.cells (mC c) 45 (0,0)))(hne:g≠gm) :
    Calls Tryz.prog 143 #[.agg #[vP g 0,vP gm 0]] w (c5 g gm (gR c C).1 (gR c C).2 w):=by
 obtain⟨hcode1,hcode2⟩:=hcode
 have hlen:=hC.len
 refine en 46 Tryz.func143 rfl<|sg<|L0<|dK #[vP g 0,vP gm 0] fun q a3 F G f=>ng<|L0<|cO G<|?_
 have u:=ae.old hC f
 refine az<|m3 (tC ⟨hcode1,hcode2⟩ u (ub f hm) hne) fun a4 Q R k=>?_
 have a5:=(u).wordV
 have a6:=bN (ck (u).rng 1)
 refine aL 1<|?_
 have l:=nb (ae.lt hC) lr F
 have H:=aD.blk k (aa (Ne.symm l) (aa (Ne.symm (nb (ag hm) lr F)) ay)) G
 refine aH H 0<|az<|m3 (bM Q) fun a7 S r a8=>b6 ((c9 C 1968).byteV)<|aj 1<|sq<|Rg 12 (fun w'=>w'.cell? ⟨q,0,none⟩=some (vP g 0)∧w'.cell? ⟨q,1,none⟩=some (vP gm 0)∧w'.cell? ⟨gm,3,none⟩=some (vW ((C.wordsC 1).wordV))) fun a9 m=>?_
 have v:=aM r m
 have o:=aY v (Ne.symm l) H
 have y:=aY v (Ne.symm hne) R
 refine bB ⟨(ap o rfl),(ap o rfl),(ap y rfl)⟩ fun a=>Rt 0 a<|Rl 1 a (fun _ hs=>hs.1)<|Rt 2 a<|Rt 3 a<|Rl 4 a (fun _ hs=>hs.2.1)<|Rt 5 a<|Rt 6 a<|Rl 7 a (fun _ hs=>hs.2.2)<|Rr 8 a (vI ((C.wordsC 1).wordV)) (fun _ _=>bF (vI (IntKind.i64.wrap ((C.wordsC 1).wordV))) (by kernel_rfl) (congrArg (Value.int .i64) (i64_in (by omega))))<|R0 9 rfl<|Oc<|mq (ly (n:=(C.wordsC 1).wordV) (by omega))<|bB ⟨(ap o rfl),(ap o rfl),(ap y rfl)⟩ fun T=>Rt 10 T<|?_
 refine R0 11 rfl<|Oc<|m2 (bf ((((c9 C 1968).byteV)==(eF ((C.wordsC 1).wordV)))) 5 (ae.old S m)) fun ab U i=>?_
 have z:=aY i (Ne.symm l) o
 have I:=aY i (Ne.symm hne) y
 refine bB ⟨(ap z rfl),(ap z rfl),(ap I rfl)⟩ fun ad=>re<|tn<|sq<|Rg 16 (fun w'=>w'.cell? ⟨q,0,none⟩=some (vP g 0)∧w'.cell? ⟨q,1,none⟩=some (vP gm 0)∧w'.cell? ⟨gm,3,none⟩=some (vW ((C.wordsC 1).wordV))) fun af d=>?_
 have A:=ub d z
 have J:=ub d I
 refine bB ⟨(ap A rfl),(ap A rfl),(ap J rfl)⟩ fun b=>Rt 0 b<|Rl 1 b (fun _ hs=>hs.1)<|Rt 2 b<|Rt 4 b<|Rl 5 b (fun _ hs=>hs.2.1)<|Rt 6 b<|Rt 7 b<|Rl 8 b (fun _ hs=>hs.2.2)<|Rr 9 b (vI ((C.wordsC 1).wordV)) (fun _ _=>bF (vI (IntKind.i64.wrap ((C.wordsC 1).wordV))) (by kernel_rfl) (congrArg (Value.int .i64) (i64_in (by omega))))<|?_
 have K:=ae.old U d
 refine R0 3 rfl<|Oc<|tT (c3 (n:=(c9 C 1968).byteV) K) fun V W am X an ao Y j=>?_
 have aq:=Nat.le_trans (al.bytesR_le (((c9 C 1968).bytesC 1).need (((c9 C 1968).byteV)==(eF ((C.wordsC 1).wordV))) 5) ((c9 C 1968).byteV)) (ae.len K)
 have B:=aY j (Ne.symm l) A
 have L:=aY j (Ne.symm hne) J
 refine bB ⟨(ap B rfl),(ap B rfl),(ap L rfl)⟩ fun ar=>R0 10 rfl<|Oc (args:=#[.slice V (((((c9 C 1968).bytesC 1).need (((c9 C 1968).byteV)==(eF ((C.wordsC 1).wordV))) 5).bytesR ((c9 C 1968).byteV)).length) W,vI ((C.wordsC 1).wordV)])<|nk (pQ X (by omega) (by omega) (by omega)) fun Z a0 au D av aw s=>?_
 have t:=ub s B
 have M:=ub s L
 refine bB ⟨(ap t rfl),(ap t rfl),(ap M rfl)⟩ fun p=>Rt 11 p<|Rt 12 p<|Rt 13 p<|Rt 14 p<|Rt 15 p<|re<|tn<|ak 1<|aH t 0<|Pl 1<|?_
 refine az<|m2 (bf ((cc ((((c9 C 1968).bytesC 1).need (((c9 C 1968).byteV)==(eF ((C.wordsC 1).wordV))) 5).bytesR ((c9 C 1968).byteV)) ((C.wordsC 1).wordV)).isSome) 6 (ae.old Y s)) fun ax a1 E=>nt<|go<|Pl 1<|?_
 refine aH (aY E (Ne.symm l) t) 1<|Pl 3<|?_
 have N:=aY E (Ne.symm hne) M
 refine L0<|bI N 13 (mG c 0 C.wordV ((C.wordsC 1).wordV) 0 0 0 0 0 0 0 0 nS (.slice Z (((cc ((((c9 C 1968).bytesC 1).need (((c9 C 1968).byteV)==(eF ((C.wordsC 1).wordV))) 5).bytesR ((c9 C 1968).byteV)) ((C.wordsC 1).wordV)).getD []).length) a0) nS nS 0 0 0 0 0 nS) fun aB a2 O=>nl<|rm (.tuple #[])<|?_
 have P:=us E O
 exact dq (by unfold gR rZ s3 iM qK r5;(try simp only[bj,reduceIte])<;>rfl) ⟨rfl,(ae.upd a1 O (aa hne ay) (ah (aW N (by decide)) aC)),⟨_,⟨a2,rfl⟩,⟨_,_,_,_,_,rfl,aI.nil ..,(aQ.hi (ai D P (fun x hx=>(aa (fun e=>(aG (ae.lt hC) (le (le (le (le (le (le f.size k.size) r.size) m.size) i.size) d.size) j.size) D) (e▸hx)) (aa (fun e=>(aG (ag hm) (le (le (le (le (le (le f.size k.size) r.size) m.size) i.size) d.size) j.size) D) (e▸hx)) ay))) (fun _ _ h=>h)) (le (le (le (le (le (le f.size k.size) r.size) m.size) i.size) d.size) j.size)),aI.nil ..,aI.nil ..,aI.nil ..,⟨(b8 (x:=c) (by omega)),(b8 (x:=0) (by omega)),(ci (x:=C.wordV) (by omega)),(ci (x:=(C.wordsC 1).wordV) (by omega)),(ci (x:=0) (by omega)),(ci (x:=0) (by omega)),(ci (x:=0) (by omega)),(ci (x:=0) (by omega)),(ci (x:=0) (by omega)),(ci (x:=0) (by omega)),(ci (x:=0) (by omega)),(ci (x:=0) (by omega)),(b8 (x:=0) (by omega)),(b8 (x:=0) (by omega)),(b8 (x:=0) (by omega)),(b8 (x:=0) (by omega)),(b8 (x:=0) (by omega))⟩⟩⟩,(uz f (ut k (ui v (ui i (uz d (ui j (uz s P))))) (ac im (ac im aA))))⟩
open Go.RowKit
theorem za(c:Int) : c=1∨c=2∨c=5∨c=15∨(c≠1∧c≠2∧c≠5∧c≠15):=by omega
theorem mh(hcode:B8 c)(hsl:aO m w (.slice A b.length cp) b)(hb:b.length≤1048576) :
    Calls Tryz.prog 96 #[vI 0,vB c,.slice A b.length cp] w (eo (aq aU 0 c b) w):=by
 obtain⟨hcode1,hcode2⟩:=hcode
 have hln:(b.length:Int)≤1048576:=by omega
 refine en 72 Tryz.func96 rfl<|sg<|aK mZ fun a5 bY P H t=>aj 1<|sq<|ax 6<|c0<|bp<|ak 2<|aK mZ fun a bZ y p z=>aE p (mC c) fun c2 I f=>aL 1<|?_
 have B:=ud z f y
 have Q:=aM t B
 refine az<|e3 (dA (aO.old hsl Q) (by omega)) fun d c3 r D i=>Pl 1<|aK #[.pointer none,.pointer none] fun a6 c4 E a7 s=>aE a7 #[vP d 0,vP a 0] fun c5 aG j=>ng<|L0<|y7 fun c6 c8 J aI k=>?_
 have R:=ub k aG
 refine L0<|cO R<|Pl 1<|L0<|cO R<|Pl 2<|L0<|gB aI 1 fun c9 aN l=>?_
 have K:=nb (ag a7) j.size J
 have S:=aY l K R
 refine L0<|cO S<|Pl 1<|L0<|cO S<|Pl 2<|L0<|gB aN 2 fun ca aP n=>?_
 have T:=aY n K S
 refine L0<|cO T<|Pl 1<|L0<|cO T<|Pl 2<|L0<|gB aP 5 fun cc aQ o=>?_
 have U:=aY o K T
 refine L0<|cO U<|Pl 1<|L0<|cO U<|Pl 2<|L0<|gB aQ 15 fun aR F u=>aj 2<|CI (fun x=>[(6,vP a5 0),(8,vP a 0),(9,vP a6 0)]) (fun(x:al × Array Value × bg) w'=>aD [d,a] aR w'∧ae w' d x.1∧w'.heap[a]? = some (.cells x.2.1 45 (0,0))∧aS (.hi w.heap.size) w' x.2.1.toList x.2.2∧(aq aU 0 c b=bA x.2.2 x.1)) ?_ fun L=>?_
 rintro⟨C,cs,M⟩ V ⟨aT,aV,aX,aZ,b0⟩
 refine eH [(6,vP a5 0),(8,vP a 0),(9,vP a6 0)] ?_
 have a8:ae V d C:=aV
 have b1:V.heap[a]? = some (.cells cs 45 (0,0)):=aX
 have N:aS (.hi w.heap.size) V cs.toList M:=aZ
 have W:=aS.size N
 have a9:aq aU 0 c b=bA M C:=b0
 refine ak 1<|?_
 have X:=us u aT
 have ac:=nb (ae.lt D) lr E
 have ad:=aD.blk X (aa K (aa (Ne.symm ac) (aa (Ne.symm (nb (ag p) (le f.size i.size) E)) ay))) U
 refine aH ad 0<|az<|m2 (et a8) fun cd af O=>nt<|sq<|ak 1<|?_
 refine aH (aY O (Ne.symm ac) ad) 0<|az<|mq (cl af)<|?_
 have ce:=ae.len af
 refine Pl 1<|cy 2<|?_
 have Y:=ud i (ud s (us j (ud k (ui l (ui n (ui o (u1 X O im)))) J)) E) r
 have ai:=ud Q Y (le t.size y)
 refine cb ((C.endC.e != 0)) (fun Z=>?_) (fun Z=>?_)
 have a0:=av Z
 refine ak 2<|?_
 refine aE (ub (ud B Y y) H) mZ fun cf b2 b3=>aj 1<|bh<|bV b2 (vI C.endC.e)<|?_
 rw[a9]
 exact cR a0 (ud ai b3 P)
 have a0:=aJ Z
 refine bp<|sg<|?_
 refine L0<|cO (hz:=(by rw[W];exact be)) (aY O (nb (ag p) f.size r) b1)<|?_
 refine aE (hz:=(by rw[W];exact be)) (hv:=N.size) (h1:=N.one) (ub (ud B Y y) H) (cs) fun cg b4 am=>aj 1<|rt<|eW 22 W b4 (vI 0)<|?_
 rw[a9]
 exact dt a0 (aS.upd N (us O am) (ah (ae.safe a8 _ (by decide)) (ah (aW (ub (ud B (ud i (ud s (us j (ud k (ui l (ui n (ui o X))) J)) E) r) y) H) (by decide)) aC))) (ud ai am P)
 refine ak 2<|?_
 have G:=ud s (aM j (ud k (u1 l (u1 n (u1 o u im) im) im) J)) E
 have v:=aM i G
 rcases za c with hk|hk|hk|hk|hk
 have k1:(c==1)=true:=by rw[hk];rfl
 have k2:(c==2)=false:=by rw[hk];rfl
 have k5:(c==5)=false:=by rw[hk];rfl
 have g:(c==15)=false:=by rw[hk];rfl
 refine L0<|nJ (hf:=(by subst hk;kernel_rfl)) F c (.agg #[.nilFunc,.nilFunc]) (some (0,.agg #[.func (.func 140) #[.agg #[vP d 0,vP a 0]] #[],.func (.func 141) #[.agg #[vP d 0,vP a 0]] #[]]))<|Pl 3<|aK #[.nilFunc,.nilFunc] fun ch ci b5 b6 an=>aE b6 #[.func (.func 140) #[.agg #[vP d 0,vP a 0]] #[],.func (.func 141) #[.agg #[vP d 0,vP a 0]] #[]] fun cj b7 ao=>aj 1<|sq<|ax 2<|c0<|bp<|ak 2<|aH b7 0<|?_
 have a1:=ud an ao b5
 refine L0<|i4 #[.agg #[vP d 0,vP a 0]] #[] (args:=#[.agg #[vP d 0,vP a 0]])<|m3 (jr (c:=c) ⟨hcode1,hcode2⟩ (ae.old D (aM G a1)) (ub (aM v a1) I) (Ne.symm (nb (ag p) f.size r))) fun ck b8 b9 ba=>?_
 obtain⟨cm,bb,bc⟩:=b9
 refine ab b8 fun bd bf bi=>?_
 refine nt<|?_
 exact L (bd,_,(dT 2000 c (al.mk b false 0)).2) ⟨(uz a1 ba),bi,bb.1,(aS.lo bc (le (le (le (le (le (le (le (le (le (le (le (le t.size z.size) f.size) i.size) s.size) j.size) k.size) l.size) n.size) o.size) u.size) an.size) ao.size)),by subst bf;unfold aq aU ;(try simp only[bj,dl,dm,dj,dn,dk,reduceIte,k1,k2,k5,g])<;>rfl⟩
 have k1:(c==1)=false:=by rw[hk];rfl
 have k2:(c==2)=true:=by rw[hk];rfl
 have k5:(c==5)=false:=by rw[hk];rfl
 have g:(c==15)=false:=by rw[hk];rfl
 refine L0<|nJ (hf:=(by subst hk;kernel_rfl)) F c (.agg #[.nilFunc,.nilFunc]) (some (1,.agg #[.func (.func 140) #[.agg #[vP d 0,vP a 0]] #[],.func (.func 141) #[.agg #[vP d 0,vP a 0]] #[]]))<|Pl 3<|aK #[.nilFunc,.nilFunc] fun cn co bk bl ap=>aE bl #[.func (.func 140) #[.agg #[vP d 0,vP a 0]] #[],.func (.func 141) #[.agg #[vP d 0,vP a 0]] #[]] fun cq bm ar=>aj 1<|sq<|ax 2<|c0<|bp<|ak 2<|aH bm 0<|?_
 have a2:=ud ap ar bk
 refine L0<|i4 #[.agg #[vP d 0,vP a 0]] #[] (args:=#[.agg #[vP d 0,vP a 0]])<|m3 (jr (c:=c) ⟨hcode1,hcode2⟩ (ae.old D (aM G a2)) (ub (aM v a2) I) (Ne.symm (nb (ag p) f.size r))) fun cr bn bo bq=>?_
 obtain⟨ct,br,bs⟩:=bo
 refine ab bn fun bt bu bv=>?_
 refine nt<|?_
 exact L (bt,_,(dT 2000 c (al.mk b false 0)).2) ⟨(uz a2 bq),bv,br.1,(aS.lo bs (le (le (le (le (le (le (le (le (le (le (le (le t.size z.size) f.size) i.size) s.size) j.size) k.size) l.size) n.size) o.size) u.size) ap.size) ar.size)),by subst bu;unfold aq aU ;(try simp only[bj,dl,dm,dj,dn,dk,reduceIte,k1,k2,k5,g])<;>rfl⟩
 have k1:(c==1)=false:=by rw[hk];rfl
 have k2:(c==2)=false:=by rw[hk];rfl
 have k5:(c==5)=true:=by rw[hk];rfl
 have g:(c==15)=false:=by rw[hk];rfl
 refine L0<|nJ (hf:=(by subst hk;kernel_rfl)) F c (.agg #[.nilFunc,.nilFunc]) (some (2,.agg #[.func (.func 142) #[.agg #[vP d 0,vP a 0]] #[],.func (.func 142) #[.agg #[vP d 0,vP a 0]] #[]]))<|Pl 3<|aK #[.nilFunc,.nilFunc] fun cu cv bw bx au=>aE bx #[.func (.func 142) #[.agg #[vP d 0,vP a 0]] #[],.func (.func 142) #[.agg #[vP d 0,vP a 0]] #[]] fun cw bz aw=>aj 1<|sq<|ax 2<|c0<|bp<|ak 2<|aH bz 0<|?_
 have a3:=ud au aw bw
 refine L0<|i4 #[.agg #[vP d 0,vP a 0]] #[] (args:=#[.agg #[vP d 0,vP a 0]])<|m3 (mF (c:=c) ⟨hcode1,hcode2⟩ (ae.old D (aM G a3)) (ub (aM v a3) I) (Ne.symm (nb (ag p) f.size r))) fun cx bB bC bD=>?_
 obtain⟨cz,bE,bF⟩:=bC
 refine ab bB fun bG bH bI=>?_
 refine nt<|?_
 exact L (bG,_,(de c (al.mk b false 0)).2) ⟨(uz a3 bD),bI,bE.1,(aS.lo bF (le (le (le (le (le (le (le (le (le (le (le (le t.size z.size) f.size) i.size) s.size) j.size) k.size) l.size) n.size) o.size) u.size) au.size) aw.size)),by subst bH;unfold aq aU ;(try simp only[bj,dl,dm,dj,dn,dk,reduceIte,k1,k2,k5,g])<;>rfl⟩
 have k1:(c==1)=false:=by rw[hk];rfl
 have k2:(c==2)=false:=by rw[hk];rfl
 have k5:(c==5)=false:=by rw[hk];rfl
 have g:(c==15)=true:=by rw[hk];rfl
 refine L0<|nJ (hf:=(by subst hk;kernel_rfl)) F c (.agg #[.nilFunc,.nilFunc]) (some (3,.agg #[.func (.func 143) #[.agg #[vP d 0,vP a 0]] #[],.func (.func 144) #[.agg #[vP d 0,vP a 0]] #[]]))<|Pl 3<|aK #[.nilFunc,.nilFunc] fun cA cB bJ bK aA=>aE bK #[.func (.func 143) #[.agg #[vP d 0,vP a 0]] #[],.func (.func 144) #[.agg #[vP d 0,vP a 0]] #[]] fun cC bL aB=>aj 1<|sq<|ax 2<|c0<|bp<|ak 2<|aH bL 0<|?_
 have a4:=ud aA aB bJ
 refine L0<|i4 #[.agg #[vP d 0,vP a 0]] #[] (args:=#[.agg #[vP d 0,vP a 0]])<|m3 (xl (c:=c) ⟨hcode1,hcode2⟩ (ae.old D (aM G a4)) (ub (aM v a4) I) (Ne.symm (nb (ag p) f.size r))) fun cD bM bN bO=>?_
 obtain⟨cE,bP,bQ⟩:=bN
 refine nt<|?_
 exact L ((gR c (al.mk b false 0)).1,_,(gR c (al.mk b false 0)).2) ⟨(uz a4 bO),bM,bP.1,(aS.lo bQ (le (le (le (le (le (le (le (le (le (le (le (le t.size z.size) f.size) i.size) s.size) j.size) k.size) l.size) n.size) o.size) u.size) aA.size) aB.size)),by unfold aq aU ;(try simp only[bj,dl,dm,dj,dn,dk,reduceIte,k1,k2,k5,g])<;>rfl⟩
 have k1:(c==1)=false:=by simpa using hk.1
 have k2:(c==2)=false:=by simpa using hk.2.1
 have k5:(c==5)=false:=by simpa using hk.2.2.1
 have g:(c==15)=false:=by simpa using hk.2.2.2
 refine L0<|nJ (hf:=(BN (q:=.u8) (x:=c) #[⟨vB 1,.agg #[.func (.func 140) #[.agg #[vP d 0,vP a 0]] #[],.func (.func 141) #[.agg #[vP d 0,vP a 0]] #[]],0⟩,⟨vB 2,.agg #[.func (.func 140) #[.agg #[vP d 0,vP a 0]] #[],.func (.func 141) #[.agg #[vP d 0,vP a 0]] #[]],1⟩,⟨vB 5,.agg #[.func (.func 142) #[.agg #[vP d 0,vP a 0]] #[],.func (.func 142) #[.agg #[vP d 0,vP a 0]] #[]],2⟩,⟨vB 15,.agg #[.func (.func 143) #[.agg #[vP d 0,vP a 0]] #[],.func (.func 144) #[.agg #[vP d 0,vP a 0]] #[]],3⟩] (fp _ _ (by intro e he;simp only[List.mem_cons,List.not_mem_nil,or_false] at he;obtain⟨z1,z2,z5,cF⟩:=hk;rcases he with rfl | rfl | rfl | rfl<;>exact⟨_,rfl,fun h=>by simp_all⟩)))) F c (.agg #[.nilFunc,.nilFunc]) none<|Pl 3<|aK #[.nilFunc,.nilFunc] fun cG cH bR bS bT=>aE bS #[.nilFunc,.nilFunc] fun cI cJ bU=>aj 1<|sq<|ax 2<|c1<|ak 1<|?_
 have aF:=ud bT bU bR
 refine aE (ub (aM B (aM v aF)) H) mZ fun cK bW bX=>aj 1<|bh<|bV bW (vI 4)<|?_
 exact dq (by unfold aq aU;(try simp only[bj,dl,dm,dj,dn,dk,reduceIte,k1,k2,k5,g])<;>rfl) (c7 (ud (aM Q v) (uz aF bX) P))
theorem lN(hcode:B8 c)(hsl:aO m w (.slice A b.length cp) b)(hb:b.length≤1048576) :
    Calls Tryz.prog 96 #[vI 1,vB c,.slice A b.length cp] w (eo (aq aU 1 c b) w):=by
 obtain⟨hcode1,hcode2⟩:=hcode
 have hln:(b.length:Int)≤1048576:=by omega
 refine en 72 Tryz.func96 rfl<|sg<|aK mZ fun a5 c3 P H t=>aj 1<|sq<|ax 6<|c0<|bp<|ak 2<|aK mZ fun a c4 y p z=>aE p (mC c) fun c5 I f=>aL 1<|?_
 have B:=ud z f y
 have Q:=aM t B
 refine az<|e3 (dA (aO.old hsl Q) (by omega)) fun d c6 r D i=>Pl 1<|aK #[.pointer none,.pointer none] fun a6 c8 E a7 s=>aE a7 #[vP d 0,vP a 0] fun c9 aG j=>ng<|L0<|y7 fun ca cc J aI k=>?_
 have R:=ub k aG
 refine L0<|cO R<|Pl 1<|L0<|cO R<|Pl 2<|L0<|gB aI 1 fun cd aN l=>?_
 have K:=nb (ag a7) j.size J
 have S:=aY l K R
 refine L0<|cO S<|Pl 1<|L0<|cO S<|Pl 2<|L0<|gB aN 2 fun ce aP n=>?_
 have T:=aY n K S
 refine L0<|cO T<|Pl 1<|L0<|cO T<|Pl 2<|L0<|gB aP 5 fun cf aQ o=>?_
 have U:=aY o K T
 refine L0<|cO U<|Pl 1<|L0<|cO U<|Pl 2<|L0<|gB aQ 15 fun aR F u=>aj 2<|CI (fun x=>[(6,vP a5 0),(8,vP a 0),(9,vP a6 0)]) (fun(x:al × Array Value × bg) w'=>aD [d,a] aR w'∧ae w' d x.1∧w'.heap[a]? = some (.cells x.2.1 45 (0,0))∧aS (.hi w.heap.size) w' x.2.1.toList x.2.2∧(aq aU 1 c b=bA x.2.2 x.1)) ?_ fun L=>?_
 rintro⟨C,cs,M⟩ V ⟨aT,aV,aX,aZ,b0⟩
 refine eH [(6,vP a5 0),(8,vP a 0),(9,vP a6 0)] ?_
 have a8:ae V d C:=aV
 have b1:V.heap[a]? = some (.cells cs 45 (0,0)):=aX
 have N:aS (.hi w.heap.size) V cs.toList M:=aZ
 have W:=aS.size N
 have a9:aq aU 1 c b=bA M C:=b0
 refine ak 1<|?_
 have X:=us u aT
 have ac:=nb (ae.lt D) lr E
 have ad:=aD.blk X (aa K (aa (Ne.symm ac) (aa (Ne.symm (nb (ag p) (le f.size i.size) E)) ay))) U
 refine aH ad 0<|az<|m2 (et a8) fun cg af O=>nt<|sq<|ak 1<|?_
 refine aH (aY O (Ne.symm ac) ad) 0<|az<|mq (cl af)<|?_
 have ch:=ae.len af
 refine Pl 1<|cy 2<|?_
 have Y:=ud i (ud s (us j (ud k (ui l (ui n (ui o (u1 X O im)))) J)) E) r
 have ai:=ud Q Y (le t.size y)
 refine cb ((C.endC.e != 0)) (fun Z=>?_) (fun Z=>?_)
 have a0:=av Z
 refine ak 2<|?_
 refine aE (ub (ud B Y y) H) mZ fun ci b2 b3=>aj 1<|bh<|bV b2 (vI C.endC.e)<|?_
 rw[a9]
 exact cR a0 (ud ai b3 P)
 have a0:=aJ Z
 refine bp<|sg<|?_
 refine L0<|cO (hz:=(by rw[W];exact be)) (aY O (nb (ag p) f.size r) b1)<|?_
 refine aE (hz:=(by rw[W];exact be)) (hv:=N.size) (h1:=N.one) (ub (ud B Y y) H) (cs) fun cj b4 am=>aj 1<|rt<|eW 22 W b4 (vI 0)<|?_
 rw[a9]
 exact dt a0 (aS.upd N (us O am) (ah (ae.safe a8 _ (by decide)) (ah (aW (ub (ud B (ud i (ud s (us j (ud k (ui l (ui n (ui o X))) J)) E) r) y) H) (by decide)) aC))) (ud ai am P)
 refine ak 2<|?_
 have G:=ud s (aM j (ud k (u1 l (u1 n (u1 o u im) im) im) J)) E
 have v:=aM i G
 rcases za c with hk|hk|hk|hk|hk
 have k1:(c==1)=true:=by rw[hk];rfl
 have k2:(c==2)=false:=by rw[hk];rfl
 have k5:(c==5)=false:=by rw[hk];rfl
 have g:(c==15)=false:=by rw[hk];rfl
 refine L0<|nJ (hf:=(by subst hk;kernel_rfl)) F c (.agg #[.nilFunc,.nilFunc]) (some (0,.agg #[.func (.func 140) #[.agg #[vP d 0,vP a 0]] #[],.func (.func 141) #[.agg #[vP d 0,vP a 0]] #[]]))<|Pl 3<|aK #[.nilFunc,.nilFunc] fun ck cm b5 b6 an=>aE b6 #[.func (.func 140) #[.agg #[vP d 0,vP a 0]] #[],.func (.func 141) #[.agg #[vP d 0,vP a 0]] #[]] fun cn b7 ao=>aj 1<|sq<|ax 2<|c0<|bp<|ak 2<|aH b7 1<|?_
 have a1:=ud an ao b5
 refine L0<|i4 #[.agg #[vP d 0,vP a 0]] #[] (args:=#[.agg #[vP d 0,vP a 0]])<|m3 (nd (c:=c) ⟨hcode1,hcode2⟩ (ae.old D (aM G a1)) (ub (aM v a1) I) (Ne.symm (nb (ag p) f.size r))) fun co b8 b9 ba=>?_
 obtain⟨cq,bb,bc⟩:=b9
 refine ab b8 fun bd bf bi=>?_
 refine nt<|?_
 exact L (bd,_,(dL c (al.mk b false 0)).2) ⟨(uz a1 ba),bi,bb.1,(aS.lo bc (le (le (le (le (le (le (le (le (le (le (le (le t.size z.size) f.size) i.size) s.size) j.size) k.size) l.size) n.size) o.size) u.size) an.size) ao.size)),by subst bf;unfold aq aU ;(try simp only[bj,dl,dm,dj,dn,dk,reduceIte,k1,k2,k5,g])<;>rfl⟩
 have k1:(c==1)=false:=by rw[hk];rfl
 have k2:(c==2)=true:=by rw[hk];rfl
 have k5:(c==5)=false:=by rw[hk];rfl
 have g:(c==15)=false:=by rw[hk];rfl
 refine L0<|nJ (hf:=(by subst hk;kernel_rfl)) F c (.agg #[.nilFunc,.nilFunc]) (some (1,.agg #[.func (.func 140) #[.agg #[vP d 0,vP a 0]] #[],.func (.func 141) #[.agg #[vP d 0,vP a 0]] #[]]))<|Pl 3<|aK #[.nilFunc,.nilFunc] fun cr ct bk bl ap=>aE bl #[.func (.func 140) #[.agg #[vP d 0,vP a 0]] #[],.func (.func 141) #[.agg #[vP d 0,vP a 0]] #[]] fun cu bm ar=>aj 1<|sq<|ax 2<|c0<|bp<|ak 2<|aH bm 1<|?_
 have a2:=ud ap ar bk
 refine L0<|i4 #[.agg #[vP d 0,vP a 0]] #[] (args:=#[.agg #[vP d 0,vP a 0]])<|m3 (nd (c:=c) ⟨hcode1,hcode2⟩ (ae.old D (aM G a2)) (ub (aM v a2) I) (Ne.symm (nb (ag p) f.size r))) fun cv bn bo bq=>?_
 obtain⟨cw,br,bs⟩:=bo
 refine ab bn fun bt bu bv=>?_
 refine nt<|?_
 exact L (bt,_,(dL c (al.mk b false 0)).2) ⟨(uz a2 bq),bv,br.1,(aS.lo bs (le (le (le (le (le (le (le (le (le (le (le (le t.size z.size) f.size) i.size) s.size) j.size) k.size) l.size) n.size) o.size) u.size) ap.size) ar.size)),by subst bu;unfold aq aU ;(try simp only[bj,dl,dm,dj,dn,dk,reduceIte,k1,k2,k5,g])<;>rfl⟩
 have k1:(c==1)=false:=by rw[hk];rfl
 have k2:(c==2)=false:=by rw[hk];rfl
 have k5:(c==5)=true:=by rw[hk];rfl
 have g:(c==15)=false:=by rw[hk];rfl
 refine L0<|nJ (hf:=(by subst hk;kernel_rfl)) F c (.agg #[.nilFunc,.nilFunc]) (some (2,.agg #[.func (.func 142) #[.agg #[vP d 0,vP a 0]] #[],.func (.func 142) #[.agg #[vP d 0,vP a 0]] #[]]))<|Pl 3<|aK #[.nilFunc,.nilFunc] fun cx cz bw bx au=>aE bx #[.func (.func 142) #[.agg #[vP d 0,vP a 0]] #[],.func (.func 142) #[.agg #[vP d 0,vP a 0]] #[]] fun cA bz aw=>aj 1<|sq<|ax 2<|c0<|bp<|ak 2<|aH bz 1<|?_
 have a3:=ud au aw bw
 refine L0<|i4 #[.agg #[vP d 0,vP a 0]] #[] (args:=#[.agg #[vP d 0,vP a 0]])<|m3 (mF (c:=c) ⟨hcode1,hcode2⟩ (ae.old D (aM G a3)) (ub (aM v a3) I) (Ne.symm (nb (ag p) f.size r))) fun cB bB bC bD=>?_
 obtain⟨cC,bE,bF⟩:=bC
 refine ab bB fun bG bH bI=>?_
 refine nt<|?_
 exact L (bG,_,(de c (al.mk b false 0)).2) ⟨(uz a3 bD),bI,bE.1,(aS.lo bF (le (le (le (le (le (le (le (le (le (le (le (le t.size z.size) f.size) i.size) s.size) j.size) k.size) l.size) n.size) o.size) u.size) au.size) aw.size)),by subst bH;unfold aq aU ;(try simp only[bj,dl,dm,dj,dn,dk,reduceIte,k1,k2,k5,g])<;>rfl⟩
 have k1:(c==1)=false:=by rw[hk];rfl
 have k2:(c==2)=false:=by rw[hk];rfl
 have k5:(c==5)=false:=by rw[hk];rfl
 have g:(c==15)=true:=by rw[hk];rfl
 refine L0<|nJ (hf:=(by subst hk;kernel_rfl)) F c (.agg #[.nilFunc,.nilFunc]) (some (3,.agg #[.func (.func 143) #[.agg #[vP d 0,vP a 0]] #[],.func (.func 144) #[.agg #[vP d 0,vP a 0]] #[]]))<|Pl 3<|aK #[.nilFunc,.nilFunc] fun cD cE bJ bK aA=>aE bK #[.func (.func 143) #[.agg #[vP d 0,vP a 0]] #[],.func (.func 144) #[.agg #[vP d 0,vP a 0]] #[]] fun cF bL aB=>aj 1<|sq<|ax 2<|c0<|bp<|ak 2<|aH bL 1<|?_
 have a4:=ud aA aB bJ
 refine L0<|i4 #[.agg #[vP d 0,vP a 0]] #[] (args:=#[.agg #[vP d 0,vP a 0]])<|m3 (w3 (c:=c) ⟨hcode1,hcode2⟩ (ae.old D (aM G a4)) (ub (aM v a4) I) (Ne.symm (nb (ag p) f.size r))) fun cG bM bN bO=>?_
 obtain⟨cH,bP,bQ⟩:=bN
 refine ab bM fun bR bS bT=>?_
 refine nt<|?_
 exact L (bR,_,(dT 1968 c (al.mk b false 0)).2) ⟨(uz a4 bO),bT,bP.1,(aS.lo bQ (le (le (le (le (le (le (le (le (le (le (le (le t.size z.size) f.size) i.size) s.size) j.size) k.size) l.size) n.size) o.size) u.size) aA.size) aB.size)),by subst bS;unfold aq aU ;(try simp only[bj,dl,dm,dj,dn,dk,reduceIte,k1,k2,k5,g])<;>rfl⟩
 have k1:(c==1)=false:=by simpa using hk.1
 have k2:(c==2)=false:=by simpa using hk.2.1
 have k5:(c==5)=false:=by simpa using hk.2.2.1
 have g:(c==15)=false:=by simpa using hk.2.2.2
 refine L0<|nJ (hf:=(BN (q:=.u8) (x:=c) #[⟨vB 1,.agg #[.func (.func 140) #[.agg #[vP d 0,vP a 0]] #[],.func (.func 141) #[.agg #[vP d 0,vP a 0]] #[]],0⟩,⟨vB 2,.agg #[.func (.func 140) #[.agg #[vP d 0,vP a 0]] #[],.func (.func 141) #[.agg #[vP d 0,vP a 0]] #[]],1⟩,⟨vB 5,.agg #[.func (.func 142) #[.agg #[vP d 0,vP a 0]] #[],.func (.func 142) #[.agg #[vP d 0,vP a 0]] #[]],2⟩,⟨vB 15,.agg #[.func (.func 143) #[.agg #[vP d 0,vP a 0]] #[],.func (.func 144) #[.agg #[vP d 0,vP a 0]] #[]],3⟩] (fp _ _ (by intro e he;simp only[List.mem_cons,List.not_mem_nil,or_false] at he;obtain⟨z1,z2,z5,cI⟩:=hk;rcases he with rfl | rfl | rfl | rfl<;>exact⟨_,rfl,fun h=>by simp_all⟩)))) F c (.agg #[.nilFunc,.nilFunc]) none<|Pl 3<|aK #[.nilFunc,.nilFunc] fun cJ cK bU bW bX=>aE bW #[.nilFunc,.nilFunc] fun cL cM bY=>aj 1<|sq<|ax 2<|c1<|ak 1<|?_
 have aF:=ud bX bY bU
 refine aE (ub (aM B (aM v aF)) H) mZ fun cN bZ c2=>aj 1<|bh<|bV bZ (vI 4)<|?_
 exact dq (by unfold aq aU;(try simp only[bj,dl,dm,dj,dn,dk,reduceIte,k1,k2,k5,g])<;>rfl) (c7 (ud (aM Q v) (uz aF c2) P))
theorem m9(hcode:B8 c)(hsl:aO m w (.slice A b.length cp) b)(hb:b.length≤1048576)(hd:¬ (dir=0∨dir=1)) :
    Calls Tryz.prog 96 #[vI dir,vB c,.slice A b.length cp] w (eo (aq aU dir c b) w):=by
 obtain⟨hcode1,hcode2⟩:=hcode
 have hln:(b.length:Int)≤1048576:=by omega
 have e0:(dir != 0)=true:=by simp;omega
 have e1:(dir != 1)=true:=by simp;omega
 refine en 72 Tryz.func96 rfl<|sg<|aK mZ fun g h a d e=>aj 1<|sq<|ak 3<|sy 16 e0<|Pl 3<|nl<|tn<|ct e1<|ak 1<|aE d mZ fun i ej f=>aj 1<|bh<|bV ej (vI 1)<|?_
 exact dq (by unfold aq aU;(try simp only[e0,e1,bj,dl,dm,dj,dn,dk,reduceIte,hd])<;>rfl) (c7 (ud e f a))
theorem pg{v:Value}    (hc:B8 c)(h:aO m w v b)(hb:b.length≤1048576) :
    Calls Tryz.prog 96 #[.int .i64 dir,.int .u8 c,v] w (eo (aq aU dir c b) w):=by
  obtain⟨A,cp,rfl,_,_⟩:=h.shape
  by_cases h0:dir=0
  · subst h0;exact mh hc h hb
  by_cases h1:dir=1
  · subst h1;exact lN hc h hb
  exact m9 hc h hb (by omega)
open Go.RowKit
def dQ (c:al) : al:=(c.wordsC 1).need (c.wordV==0 || c.wordV==65535) 6
variable {v:Int}
theorem Ai(h:0≤v∧v<65536) : bits .and .u16 v 255=v%256:=by
  rw[u16_and v 255 h.1 h.2 (by decide) (by decide)]
  show((v.toNat &&& (2 ^ 8-1) : Nat) : Int)=_
  rw[Nat.and_two_pow_sub_one_eq_mod]
  omega
def fO (dir sub v:Int) : Bool:=if (sub==2 || (decide (11≤sub)&&decide (sub≤18)))&&dir==1 then true else if sub==1 then v==0 || v==65280 else if sub==3 then v%256==0 else v==0
theorem pi{c:al}  (hc:ae w g c) :
    Calls Tryz.prog 212 #[vP g 0] w (mv g .u16 65536 c.wordV (dQ c) w):=by
 have hr:=hc.wordV
 refine en 15 Tryz.func212 rfl<|ak 1<|aL 1<|az<|m3 (bL hc) fun k a b l=>aj 1<|sq<|go<|Pl 4<|eE 3 [9] 12 9 (c.wordV==0) (c.wordV==65535) (fun K d e=>?_) ?_
 have m:=au e
 exact Pl 3<|ce d _ rfl
 refine az<|m2 (bf (((c.wordV==0)||(c.wordV==65535))) 6 a) fun n f h=>?_
 refine ab f fun x19 i j=>?_
 refine cy 2<|rt<|rr (vW c.wordV)<|?_
 subst i
 exact⟨rfl,j,(u1 b h im),hr⟩
theorem vm:Calls Tryz.prog 231 #[vW v] w (bD (.bool (v==0 || v==65280)) w):=by
 refine en 9 Tryz.func231 rfl<|ak 1<|aL 3<|eE 3 [5] 8 5 (v==0) (v==65280) (fun K a b=>?_) ?_
 have c:=au b
 exact Pl 3<|ce a _ rfl
 exact aj 1<|rt<|rr (.bool ((v==0)||(v==65280)))<|⟨rfl,(aD.refl [] _)⟩
theorem wu(hv:0≤v∧v<65536) : Calls Tryz.prog 232 #[vW v] w (bD (.bool (v%256==0)) w):=by
 exact en 6 Tryz.func232 rfl<|ak 1<|aL 1<|L0<|Oe (vW (bits .and .u16 v 255)) (vW (v%256)) (congrArg (Value.int .u16) (Ai (by omega)))<|aj 2<|rt<|rr (.bool ((v%256)==0))<|⟨rfl,(aD.refl [] _)⟩
theorem vY{x:Int}{gb:Nat}  (hB:w.heap[gb]? = some (.cells #[vW v] 37 (0,0))) : Calls Tryz.prog 230 #[vW x,vP gb 0] w (bD (.bool (v==0)) w):=by
 exact en 6 Tryz.func230 rfl<|ak 1<|ng<|aH hB 0<|aj 2<|rt<|rr (.bool (v==0))<|⟨rfl,(aD.refl [] _)⟩
theorem Bh(hv:0≤v∧v<65536) : Calls Tryz.prog 211 #[vI dir,vW 1,vW v] w (bD (.bool (fO dir 1 v)) w):=by
 refine en 42 Tryz.func211 rfl<|sg<|L0<|dK #[vW v] fun l m n b c=>Pl 1<|aL 2<|ng<|L0<|y7 fun o p d e f=>L0<|gB e 1 fun q g h=>L0<|gB g 3 fun r i j=>Pl 2<|cy 11<|sq<|ax 5<|c0<|bp<|ak 2<|L0<|nJ i 1 (.nilFunc) (some (0,.func (.func 231) #[] #[]))<|aj 5<|sq<|ax 2<|c0<|bp<|ak 1<|?_
 have a:=ud f (u1 h j im) d
 refine aH (ub a b) 0<|L0<|i4 #[] #[] (args:=#[vW v])<|m1 (vm) fun s k=>aj 1<|rt<|rr (.bool (v==0 || v==65280))<|?_
 exact dq (by unfold fO;(try simp only[bj,reduceIte])<;>rfl) ⟨rfl,(aM c (aM a k))⟩
theorem AO(hv:0≤v∧v<65536) : Calls Tryz.prog 211 #[vI dir,vW 3,vW v] w (bD (.bool (fO dir 3 v)) w):=by
 refine en 42 Tryz.func211 rfl<|sg<|L0<|dK #[vW v] fun l m n b c=>Pl 1<|aL 2<|ng<|L0<|y7 fun o p d e f=>L0<|gB e 1 fun q g h=>L0<|gB g 3 fun r i j=>Pl 2<|cy 11<|sq<|ax 5<|c0<|bp<|ak 2<|L0<|nJ i 3 (.nilFunc) (some (1,.func (.func 232) #[] #[]))<|aj 5<|sq<|ax 2<|c0<|bp<|ak 1<|?_
 have a:=ud f (u1 h j im) d
 refine aH (ub a b) 0<|L0<|i4 #[] #[] (args:=#[vW v])<|m1 (wu hv) fun s k=>aj 1<|rt<|rr (.bool (v%256==0))<|?_
 exact dq (by unfold fO;(try simp only[bj,reduceIte])<;>rfl) ⟨rfl,(aM c (aM a k))⟩
theorem Az{sub:Int}  (hv:0≤v∧v<65536)(h1:sub≠1)(h3:sub≠3) : Calls Tryz.prog 211 #[vI dir,vW sub,vW v] w (bD (.bool (fO dir sub v)) w):=by
 have n1:(sub==1)=false:=by simpa using h1
 have n3:(sub==3)=false:=by simpa using h3
 refine en 42 Tryz.func211 rfl<|sg<|L0<|dK #[vW v] fun c D E k l=>Pl 1<|aL 2<|ng<|L0<|y7 fun F G m n o=>L0<|gB n 1 fun H p r=>L0<|gB p 3 fun I s t=>Pl 2<|aL 3<|cu 7 [17] 24 (((sub==2)||((decide (11≤sub))&&(decide (sub≤18))))) (fun K d=>?_) ?_
 refine bl 17 ((sub==2)) (fun a=>?_) (fun a=>?_)
 have u:=am a
 exact Pl 7<|ce d true (by rw[a];rfl)
 have u:=au a
 refine Pl 3<|cV 3 [20] 23 20 (decide (11≤sub)) (decide (sub≤18)) (fun K y z=>?_) ?_
 have J:=of_decide_eq_true z
 exact Pl 3<|ce y _ rfl
 exact Pl 1<|ce d ((decide (11≤sub))&&(decide (sub≤18))) (by rw[a];rfl)
 refine aj 1<|sq<|ak 2<|cV 3 [26] 29 26 ((sub==2)||((decide (11≤sub))&&(decide (sub≤18)))) (dir==1) (fun K A L=>?_) ?_
 exact Pl 3<|ce A _ rfl
 refine nt<|?_
 have f:=ud o (u1 r t im) m
 have g:=aM l f
 refine cb ((((sub==2)||((decide (11≤sub))&&(decide (sub≤18))))&&(dir==1))) (fun b=>?_) (fun b=>?_)
 have B:=(aR b).1
 have i:=(aR b).2
 have M:=am i
 exact ax 1<|bh<|rr (.bool true)<|dq (by unfold fO;(try simp only[b,B,i,bj,n1,n3,reduceIte])<;>rfl) ⟨rfl,g⟩
 refine bp<|ak 2<|L0<|nJ (hf:=(BN (q:=.u16) (x:=sub) #[⟨vW 1,.func (.func 231) #[] #[],0⟩,⟨vW 3,.func (.func 232) #[] #[],1⟩] (fp _ _ (by intro e he;simp only[List.mem_cons,List.not_mem_nil,or_false] at he;rcases he with rfl | rfl;exact⟨_,rfl,fun h=>h1 h.symm⟩;exact⟨_,rfl,fun h=>h3 h.symm⟩)))) s sub (.nilFunc) none<|aj 5<|sq<|ak 2<|nl<|tn<|c1<|go<|Pl 2<|aL 1<|?_
 have j:=ub f k
 refine aH j 0<|L0<|i4 #[] #[vP c 0] (args:=#[vW v,vP c 0])<|m1 (vY j) fun N C=>aj 1<|rt<|rr (.bool (v==0))<|?_
 exact dq (by unfold fO;(try simp only[b,bj,n1,n3,reduceIte])<;>rfl) ⟨rfl,(aM g C)⟩
theorem yB{sub:Int}  (hv:0≤v∧v<65536) : Calls Tryz.prog 211 #[.int .i64 dir,.int .u16 sub,.int .u16 v] w (bD (.bool (fO dir sub v)) w):=by
  by_cases h1:sub=1
  · subst h1;exact Bh hv
  by_cases h3:sub=3
  · subst h3;exact AO hv
  exact Az hv h1 h3
open Go.RowKit
def fh (dir:Int)(C:al) : al:=(C.wordsC 1).need (ed C.wordV&&(dir==0 || C.wordV != 4)) 8
def kg (C:al) : al:=C.need (((C.l.length:Int)%2==0&&decide (2≤(C.l.length:Int)))&&decide ((C.l.length:Int)≤250)) 5
def fx (dir c:Int)(C:al) : al × bg :=
  if C.wordV != 0 then (((fh dir C).wordsC 1).need ((((fh dir C).wordsR 1).length:Int)==1&&fO dir C.wordV (((fh dir C).wordsR 1).getD 0 0)) 6,{ bg.zero with code:=c,sub:=C.wordV,words:=(fh dir C).wordsR 1 })
  else ((kg (fh dir C)).wordsC (((fh dir C).l.length:Int)/2),{ bg.zero with code:=c,sub:=C.wordV,words:=(kg (fh dir C)).wordsR (((fh dir C).l.length:Int)/2) })
def gU (C:al)(lo hi:Int) : al:=(C.bytesC 1).need (decide (lo≤C.byteV)&&decide (C.byteV≤hi)) 5
def iC (C:al) : al:=((dQ (gU C 6 70)).wordsC 1).wordsC 1
def cW (c:Int)(C:al) : al × bg :=
  if c==7 then (C.bytesC 1,{ bg.zero with code:=c,value:=C.byteV })
  else if c==11 then ((dQ C).wordsC 1,{ bg.zero with code:=c,status:=C.wordV,events:=(dQ C).wordV })
  else if c==12 then ((iC C).bytesC (C.byteV-6),{ bg.zero with code:=c,status:=(gU C 6 70).wordV,events:=(dQ (gU C 6 70)).wordV,messages:=((dQ (gU C 6 70)).wordsC 1).wordV,data:=(iC C).bytesR (C.byteV-6) })
  else if c==17 then ((gU C 1 251).bytesC C.byteV,{ bg.zero with code:=c,data:=(gU C 1 251).bytesR C.byteV })
  else (C,{ bg.zero with code:=c })
theorem oA(hcode:B8 c)(hC:ae w g C)(hm:w.heap[gm]? = some (.cells #[vB c,vB 0,vW 0,vW 0,vW 0,vW 0,vW 0,vW 0,vW 0,vW 0,vW 0,vW 0,nS,nS,nS,nS,vB 0,vB 0,vB 0,vB 0,vB 0,nS] 45 (0,0)))(hne:g≠gm) :
    Calls Tryz.prog 150 #[vI dir,vP g 0,vP gm 0] w (c5 g gm (fx dir c C).1 (fx dir c C).2 w):=by
 obtain⟨hcode1,hcode2⟩:=hcode
 have hlen:=hC.len
 refine en 84 Tryz.func150 rfl<|ak 2<|az<|m3 (bL hC) fun b1 Z o b2=>Pl 2<|?_
 have I:=aY o (Ne.symm hne) hm
 refine L0<|bI I 8 (mG c 0 0 0 0 0 0 0 C.wordV 0 0 0 nS nS nS nS 0 0 0 0 0 nS) fun b3 ej s=>aL 4<|aH ej 8<|az<|m1 (vi (x:=C.wordV) (w:=_)) fun b4 j=>Pl 1<|cu 10 [18] 28 (((ed C.wordV)&&((dir==0)||(C.wordV != 4)))) (fun K J=>?_) ?_
 refine bl 18 ((ed C.wordV)) (fun t=>?_) (fun t=>?_)
 refine Pl 3<|eE 6 [21] 27 21 (dir==0) (C.wordV != 4) (fun K a0 a1=>?_) ?_
 have b5:=au a1
 refine Pl 3<|?_
 exact L1<|dp (ub j ej) 8<|Pl 2<|ce a0 _ rfl
 exact Pl 1<|ce J ((dir==0)||(C.wordV != 4)) (by rw[t];rfl)
 exact Pl 10<|ce J false (by rw[t];rfl)
 have L:=aM s j
 refine az<|m2 (bf (((ed C.wordV)&&((dir==0)||(C.wordV != 4)))) 8 (ae.upd Z L (aa hne ay) (ah (aW I (by decide)) aC))) fun b6 a2 q=>?_
 refine ab a2 fun x30 u r=>?_
 refine nt<|sq<|ak 3<|?_
 have y:=aY (uz j q) (Ne.symm hne) ej
 refine aH y 8<|aj 1<|?_
 have b:=ui o (us L q)
 refine cb ((C.wordV != 0)) (fun f=>?_) (fun f=>?_)
 have a3:=av f
 refine ak 2<|az<|kF (dU (n:=1) r) fun M N b7 i b8 b9 O P=>Pl 2<|?_
 have z:=aY P (Ne.symm hne) y
 refine L0<|bI z 12 (mG c 0 0 0 0 0 0 0 C.wordV 0 0 0 (.slice M ((x30.wordsR 1).length) N) nS nS nS 0 0 0 0 0 nS) fun ba a4 a5=>nt<|sq<|Rg 22 (fun w'=>w'.cell? ⟨gm,12,none⟩=some (.slice M ((x30.wordsR 1).length) N)∧w'.cell? ⟨gm,8,none⟩=some (vW C.wordV)) fun bb Q=>?_
 have d:=ub Q a4
 refine bB ⟨(ap d rfl),(ap d rfl)⟩ fun a=>Rt 0 a<|Rt 1 a<|Rt 2 a<|Rt 3 a<|Rl 4 a (fun _ hs=>hs.1)<|Rt 5 a<|Rt 6 a<|Rt 7 a<|?_
 have k:=aM a5 Q
 have R:=ut b (us P k) (ac im (ac im aA))
 refine ze 47 ((((x30.wordsR 1).length:Int)==1)) (fun m=>?_) (fun m=>?_)
 have a6:=am m
 refine Rt 8 a<|Rt 9 a<|Rt 10 a<|Rt 11 a<|Rl 12 a (fun _ hs=>hs.2)<|Rt 13 a<|Rt 14 a<|Rt 15 a<|Rl 16 a (fun _ hs=>hs.1)<|?_
 have S:=ai i k (fun x hx=>(aa (fun e=>(aG (ag hm) b.size i) (e▸hx)) ay)) (fun _ _ h=>h)
 refine ea (fg.at_ (S).rd 0 (by omega)) fun a7 a8 a9 ad bc=>R0 17 rfl<|iV ((x30.wordsR 1).length) 0 a9 (by omega)<|bB ⟨(ap d rfl),(ap d rfl)⟩ fun bd=>R0 18 rfl<|dX (p:=⟨a7,a8+0,none⟩) (v:=vW ((x30.wordsR 1).getD 0 0)) ad<|bB ⟨(ap d rfl),(ap d rfl)⟩ fun be=>R0 19 rfl<|Oc<|m1 (yB (dir:=dir) (sub:=C.wordV) (v:=((x30.wordsR 1).getD 0 0)) (by omega)) fun bi A=>?_
 have B:=ub A d
 refine bB ⟨(ap B rfl),(ap B rfl)⟩ fun af=>Rt 20 af<|?_
 refine R0 21 rfl<|Oc<|m2 (bf ((fO dir C.wordV ((x30.wordsR 1).getD 0 0))) 6 (ae.upd O (aM k A) (aa hne ay) (ah (aW z (by decide)) aC))) fun bk an T=>?_
 refine ab an fun bm ao aq=>?_
 have D:=aY T (Ne.symm hne) B
 refine bB ⟨(ap D rfl),(ap D rfl)⟩ fun bn=>re<|tn<|bh<|rr (.tuple #[])<|?_
 subst ao u
 have U:=uz A T
 have hs:fx dir c C=(((((C.wordsC 1).need ((ed C.wordV)&&((dir==0)||(C.wordV != 4))) 8).wordsC 1).need (fO dir C.wordV ((((C.wordsC 1).need ((ed C.wordV)&&((dir==0)||(C.wordV != 4))) 8).wordsR 1).getD 0 0)) 6),(bg.mk c 0 0 0 0 0 0 0 C.wordV 0 0 0 (((C.wordsC 1).need ((ed C.wordV)&&((dir==0)||(C.wordV != 4))) 8).wordsR 1) [] [] [] 0 0 0 0 0 [])):=by
   unfold fx fh kg
   (try simp only[f,m,bj,reduceIte])
   all_goals rfl
 rw[hs]
 exact⟨rfl,aq,⟨_,⟨D,rfl⟩,⟨_,_,_,_,_,rfl,(aQ.hi (ai S U (fun x hx=>(aa (fun e=>(aG (ae.lt hC) b.size i) (e▸hx)) ay)) (fun _ _ h=>h)) b.size),aI.nil ..,aI.nil ..,aI.nil ..,aI.nil ..,(c8 (by omega))⟩⟩,(aD.mono (S':=[g,gm]) (u1 R U im) (A7 (Or.inl (by simp)) (Or.inl (by simp))))⟩
 have a6:=au m
 refine Ro 8 a<|Ro 9 a<|Ro 10 a<|Ro 11 a<|Ro 12 a<|Ro 13 a<|Ro 14 a<|Ro 15 a<|Ro 16 a<|Ro 17 a<|Ro 18 a<|Ro 19 a<|Rt 20 a<|?_
 refine R0 21 rfl<|Oc<|m2 (bf (false) 6 (ae.upd O k (aa hne ay) (ah (aW z (by decide)) aC))) fun bo ar E=>?_
 have F:=aY E (Ne.symm hne) d
 refine bB ⟨(ap F rfl),(ap F rfl)⟩ fun bq=>re<|tn<|bh<|rr (.tuple #[])<|?_
 subst u
 have hs:fx dir c C=(((((C.wordsC 1).need ((ed C.wordV)&&((dir==0)||(C.wordV != 4))) 8).wordsC 1).need false 6),(bg.mk c 0 0 0 0 0 0 0 C.wordV 0 0 0 (((C.wordsC 1).need ((ed C.wordV)&&((dir==0)||(C.wordV != 4))) 8).wordsR 1) [] [] [] 0 0 0 0 0 [])):=by
   unfold fx fh kg
   (try simp only[f,m,bj,reduceIte])
   all_goals rfl
 rw[hs]
 exact⟨rfl,ar,⟨_,⟨F,rfl⟩,⟨_,_,_,_,_,rfl,(aQ.hi (ai i (us k E) (fun x hx=>(aa (fun e=>(aG (ag hm) b.size i) (e▸hx)) (aa (fun e=>(aG (ae.lt hC) b.size i) (e▸hx)) ay))) (fun _ _ h=>h)) b.size),aI.nil ..,aI.nil ..,aI.nil ..,aI.nil ..,(c8 (by omega))⟩⟩,(aD.mono (S':=[g,gm]) (u1 R E im) (A7 (Or.inl (by simp)) (Or.inl (by simp))))⟩
 have a3:=aJ f
 refine bp<|ak 1<|az<|mq (dR r)<|?_
 have br:=ae.len r
 refine Pl 1<|aL 2<|L0<|Oe (vI (Int.tmod (x30.l.length:Int) 2)) (vI ((x30.l.length:Int)%2)) (congrArg (Value.int .i64) (Int.tmod_eq_emod_of_nonneg (by omega)))<|Pl 2<|cV 3 [68] 71 68 (((x30.l.length:Int)%2)==0) (decide (2≤(x30.l.length:Int))) (fun K aw ax=>?_) ?_
 have bs:=am ax
 exact Pl 3<|ce aw _ rfl
 refine Pl 1<|cV 3 [72] 75 72 ((((x30.l.length:Int)%2)==0)&&(decide (2≤(x30.l.length:Int)))) (decide ((x30.l.length:Int)≤250)) (fun K aB V=>?_) ?_
 have aE:=(aR V).1
 have aF:=(aR V).2
 have bt:=am aE
 have bu:=of_decide_eq_true aF
 exact Pl 3<|ce aB _ rfl
 refine az<|m2 (bf ((((((x30.l.length:Int)%2)==0)&&(decide (2≤(x30.l.length:Int))))&&(decide ((x30.l.length:Int)≤250)))) 5 r) fun bv aK G=>?_
 refine ab aK fun aN aO aP=>?_
 refine nt<|go<|Pl 3<|L0<|Oe (vI (IntKind.i64.wrap (Int.tdiv (x30.l.length:Int) 2))) (vI ((x30.l.length:Int)/2)) (congrArg (Value.int .i64) (fJ (by omega) (by omega)))<|az<|kF (dU (n:=((x30.l.length:Int)/2)) aP) fun aS aT bw W bx bz aU aV=>?_
 refine ab aU fun bA aX aZ=>?_
 refine Pl 2<|?_
 have X:=u1 G aV im
 have Y:=aY X (Ne.symm hne) y
 refine L0<|bI Y 12 (mG c 0 0 0 0 0 0 0 C.wordV 0 0 0 (.slice aS ((aN.wordsR ((x30.l.length:Int)/2)).length) aT) nS nS nS 0 0 0 0 0 nS) fun bC b0 H=>nl<|rm (.tuple #[])<|?_
 subst aX aO u
 have hs:fx dir c C=(((((C.wordsC 1).need ((ed C.wordV)&&((dir==0)||(C.wordV != 4))) 8).need ((((((((C.wordsC 1).need ((ed C.wordV)&&((dir==0)||(C.wordV != 4))) 8).l.length:Nat) : Int)%2)==0)&&(decide (2≤((((C.wordsC 1).need ((ed C.wordV)&&((dir==0)||(C.wordV != 4))) 8).l.length:Nat) : Int))))&&(decide (((((C.wordsC 1).need ((ed C.wordV)&&((dir==0)||(C.wordV != 4))) 8).l.length:Nat) : Int)≤250))) 5).wordsC (((((C.wordsC 1).need ((ed C.wordV)&&((dir==0)||(C.wordV != 4))) 8).l.length:Nat) : Int)/2)),(bg.mk c 0 0 0 0 0 0 0 C.wordV 0 0 0 ((((C.wordsC 1).need ((ed C.wordV)&&((dir==0)||(C.wordV != 4))) 8).need ((((((((C.wordsC 1).need ((ed C.wordV)&&((dir==0)||(C.wordV != 4))) 8).l.length:Nat) : Int)%2)==0)&&(decide (2≤((((C.wordsC 1).need ((ed C.wordV)&&((dir==0)||(C.wordV != 4))) 8).l.length:Nat) : Int))))&&(decide (((((C.wordsC 1).need ((ed C.wordV)&&((dir==0)||(C.wordV != 4))) 8).l.length:Nat) : Int)≤250))) 5).wordsR (((((C.wordsC 1).need ((ed C.wordV)&&((dir==0)||(C.wordV != 4))) 8).l.length:Nat) : Int)/2)) [] [] [] 0 0 0 0 0 [])):=by
   unfold fx fh kg
   (try simp only[f,bj,reduceIte])
   all_goals rfl
 rw[hs]
 exact⟨rfl,(ae.upd aZ H (aa hne ay) (ah (aW Y (by decide)) aC)),⟨_,⟨b0,rfl⟩,⟨_,_,_,_,_,rfl,(aQ.hi (ai W H (fun x hx=>(aa (fun e=>(aG (ag hm) (le (le (le (le o.size s.size) j.size) q.size) G.size) W) (e▸hx)) ay)) (fun _ _ h=>h)) (le (le (le (le o.size s.size) j.size) q.size) G.size)),aI.nil ..,aI.nil ..,aI.nil ..,aI.nil ..,(c8 (by omega))⟩⟩,(aD.mono (S':=[g,gm]) (ut b (us X H) (ac im (ac im aA))) (A7 (Or.inl (by simp)) (Or.inl (by simp))))⟩
theorem gz(hcode:B8 c)(hC:ae w g C)(hm:w.heap[gm]? = some (.cells #[vB c,vB 0,vW 0,vW 0,vW 0,vW 0,vW 0,vW 0,vW 0,vW 0,vW 0,vW 0,nS,nS,nS,nS,vB 0,vB 0,vB 0,vB 0,vB 0,nS] 45 (0,0)))(hne:g≠gm) :
    Calls Tryz.prog 151 #[vP g 0,vP gm 0] w (c5 g gm (cW c C).1 (cW c C).2 w):=by
 obtain⟨hcode1,hcode2⟩:=hcode
 have hlen:=hC.len
 refine en 84 Tryz.func151 rfl<|ak 3<|aH hm 0<|nt<|bk<|ax 2<|cb ((c==7)) (fun a=>?_) (fun a=>?_)
 have S:=am a
 refine go<|Pl 2<|az<|m3 (bM hC) fun aQ T l aR=>L0<|zZ C.byteV<|Pl 2<|?_
 have m:=aY l (Ne.symm hne) hm
 refine L0<|bI m 4 (mG c 0 0 0 C.byteV 0 0 0 0 0 0 0 nS nS nS nS 0 0 0 0 0 nS) fun aS U o=>nl<|bn<|rm (.tuple #[])<|?_
 have hs:cW c C=((C.bytesC 1),(bg.mk c 0 0 0 C.byteV 0 0 0 0 0 0 0 [] [] [] [] 0 0 0 0 0 [])):=by
   unfold cW iC gU
   (try simp only[a,bj,reduceIte])
   all_goals rfl
 rw[hs]
 exact⟨rfl,(ae.upd T o (aa hne ay) (ah (aW m (by decide)) aC)),⟨_,⟨U,rfl⟩,⟨_,_,_,_,_,rfl,aI.nil ..,aI.nil ..,aI.nil ..,aI.nil ..,aI.nil ..,(c8 (by omega))⟩⟩,(us l o)⟩
 have S:=au a
 refine ax 2<|cb ((c==11)) (fun b=>?_) (fun b=>?_)
 have V:=am b
 refine ak 2<|az<|m3 (pi hC) fun aT W p aU=>Pl 2<|?_
 have r:=aY p (Ne.symm hne) hm
 refine L0<|bI r 9 (mG c 0 0 0 0 0 0 0 0 C.wordV 0 0 nS nS nS nS 0 0 0 0 0 nS) fun aV X s=>nt<|go<|Pl 2<|?_
 refine az<|m3 (bL (ae.upd W s (aa hne ay) (ah (aW r (by decide)) aC))) fun aX Y t aZ=>Pl 2<|?_
 have u:=aY t (Ne.symm hne) X
 refine L0<|bI u 10 (mG c 0 0 0 0 0 0 0 0 C.wordV ((dQ C).wordV) 0 nS nS nS nS 0 0 0 0 0 nS) fun b0 Z v=>nl<|bn<|rm (.tuple #[])<|?_
 have hs:cW c C=(((dQ C).wordsC 1),(bg.mk c 0 0 0 0 0 0 0 0 C.wordV ((dQ C).wordV) 0 [] [] [] [] 0 0 0 0 0 [])):=by
   unfold cW iC gU
   (try simp only[a,b,bj,reduceIte])
   all_goals rfl
 rw[hs]
 exact⟨rfl,(ae.upd Y v (aa hne ay) (ah (aW u (by decide)) aC)),⟨_,⟨Z,rfl⟩,⟨_,_,_,_,_,rfl,aI.nil ..,aI.nil ..,aI.nil ..,aI.nil ..,aI.nil ..,(c8 (by omega))⟩⟩,(ui p (ui s (us t v)))⟩
 have V:=au b
 refine ax 2<|cb ((c==12)) (fun d=>?_) (fun d=>?_)
 have a0:=am d
 refine ak 1<|az<|m3 (bM hC) fun b1 a1 x b2=>b6 C.byteV<|Pl 1<|aL 4<|cV 3 [38] 41 38 (decide (6≤C.byteV)) (decide (C.byteV≤70)) (fun K a2 a3=>?_) ?_
 have b3:=of_decide_eq_true a3
 exact Pl 3<|ce a2 _ rfl
 refine az<|m2 (bf (((decide (6≤C.byteV))&&(decide (C.byteV≤70)))) 5 a1) fun b4 a4 y=>?_
 refine ab a4 fun x53 a5 a6=>?_
 refine aL 2<|az<|m3 (pi a6) fun b5 a7 z b7=>Pl 2<|?_
 have A:=u1 x (u1 y z im) im
 have B:=aY A (Ne.symm hne) hm
 refine L0<|bI B 9 (mG c 0 0 0 0 0 0 0 0 x53.wordV 0 0 nS nS nS nS 0 0 0 0 0 nS) fun b8 a8 f=>aL 3<|?_
 refine az<|m3 (bL (ae.upd a7 f (aa hne ay) (ah (aW B (by decide)) aC))) fun b9 a9 D ba=>Pl 1<|az<|m3 (bL a9) fun bb ac E bc=>?_
 refine ab ac fun l0 ad af=>?_
 refine Pl 2<|?_
 have F:=u1 D E im
 have G:=aY F (Ne.symm hne) a8
 refine L0<|bI G 10 (mG c 0 0 0 0 0 0 0 0 x53.wordV ((dQ x53).wordV) 0 nS nS nS nS 0 0 0 0 0 nS) fun bd ag H=>Pl 2<|L0<|bI ag 11 (mG c 0 0 0 0 0 0 0 0 x53.wordV ((dQ x53).wordV) (((dQ x53).wordsC 1).wordV) nS nS nS nS 0 0 0 0 0 nS) fun be ai I=>nt<|go<|Pl 3<|b6 (C.byteV-6)<|?_
 have J:=u1 H I im
 have L:=ae.upd af J (aa hne ay) (ah (aW G (by decide)) aC)
 refine az<|tT (c3 (n:=(C.byteV-6)) L) fun aj an bh ao bi bl ap M=>?_
 have bm:=Nat.le_trans (al.bytesR_le l0 (C.byteV-6)) (ae.len L)
 refine Pl 2<|?_
 have h:=aY M (Ne.symm hne) ai
 refine L0<|bI h 14 (mG c 0 0 0 0 0 0 0 0 x53.wordV ((dQ x53).wordV) (((dQ x53).wordsC 1).wordV) nS nS (.slice aj ((l0.bytesR (C.byteV-6)).length) an) nS 0 0 0 0 0 nS) fun bo aq i=>nl<|bn<|rm (.tuple #[])<|?_
 subst ad a5
 have hs:cW c C=(((((dQ ((C.bytesC 1).need ((decide (6≤C.byteV))&&(decide (C.byteV≤70))) 5)).wordsC 1).wordsC 1).bytesC (C.byteV-6)),(bg.mk c 0 0 0 0 0 0 0 0 (((C.bytesC 1).need ((decide (6≤C.byteV))&&(decide (C.byteV≤70))) 5).wordV) ((dQ ((C.bytesC 1).need ((decide (6≤C.byteV))&&(decide (C.byteV≤70))) 5)).wordV) (((dQ ((C.bytesC 1).need ((decide (6≤C.byteV))&&(decide (C.byteV≤70))) 5)).wordsC 1).wordV) [] [] ((((dQ ((C.bytesC 1).need ((decide (6≤C.byteV))&&(decide (C.byteV≤70))) 5)).wordsC 1).wordsC 1).bytesR (C.byteV-6)) [] 0 0 0 0 0 [])):=by
   unfold cW iC gU
   (try simp only[a,b,d,bj,reduceIte])
   all_goals rfl
 rw[hs]
 exact⟨rfl,(ae.upd ap i (aa hne ay) (ah (aW h (by decide)) aC)),⟨_,⟨aq,rfl⟩,⟨_,_,_,_,_,rfl,aI.nil ..,aI.nil ..,(aI.hi_le (aO.upd' ao i (ah (aW h (by decide)) aC)) (le (le (le (le (le (le (le x.size y.size) z.size) f.size) D.size) E.size) H.size) I.size) fun _ _ q=>q),aI.nil ..,aI.nil ..,(c8 (by omega))⟩⟩,(ui A (ui f (ui F (ui J (us M i)))))⟩
 have a0:=au d
 refine ax 2<|cb ((c==17)) (fun e=>?_) (fun e=>?_)
 have ar:=am e
 refine ak 1<|az<|m3 (bM hC) fun bp av N bq=>b6 C.byteV<|Pl 1<|aL 4<|cV 3 [73] 76 73 (decide (1≤C.byteV)) (decide (C.byteV≤251)) (fun K aw aB=>?_) ?_
 have br:=of_decide_eq_true aB
 exact Pl 3<|ce aw _ rfl
 refine az<|m2 (bf (((decide (1≤C.byteV))&&(decide (C.byteV≤251)))) 5 av) fun bs aE O=>?_
 refine ab aE fun P aF Q=>?_
 refine nt<|go<|Pl 3<|az<|tT (c3 (n:=C.byteV) Q) fun aG aJ bt aK bu bv aM aN=>?_
 have bw:=Nat.le_trans (al.bytesR_le P C.byteV) (ae.len Q)
 refine Pl 2<|?_
 have R:=u1 N (u1 O aN im) im
 have j:=aY R (Ne.symm hne) hm
 refine L0<|bI j 14 (mG c 0 0 0 0 0 0 0 0 0 0 0 nS nS (.slice aG ((P.bytesR C.byteV).length) aJ) nS 0 0 0 0 0 nS) fun bx aP k=>nl<|bn<|rm (.tuple #[])<|?_
 subst aF
 have hs:cW c C=((((C.bytesC 1).need ((decide (1≤C.byteV))&&(decide (C.byteV≤251))) 5).bytesC C.byteV),(bg.mk c 0 0 0 0 0 0 0 0 0 0 0 [] [] (((C.bytesC 1).need ((decide (1≤C.byteV))&&(decide (C.byteV≤251))) 5).bytesR C.byteV) [] 0 0 0 0 0 [])):=by
   unfold cW iC gU
   (try simp only[a,b,d,e,bj,reduceIte])
   all_goals rfl
 rw[hs]
 exact⟨rfl,(ae.upd aM k (aa hne ay) (ah (aW j (by decide)) aC)),⟨_,⟨aP,rfl⟩,⟨_,_,_,_,_,rfl,aI.nil ..,aI.nil ..,(aI.hi_le (aO.upd' aK k (ah (aW j (by decide)) aC)) (le N.size O.size) fun _ _ q=>q),aI.nil ..,aI.nil ..,(c8 (by omega))⟩⟩,(us R k)⟩
 have ar:=au e
 refine sk<|bn<|rm (.tuple #[])<|?_
 have hs:cW c C=(C,(bg.mk c 0 0 0 0 0 0 0 0 0 0 0 [] [] [] [] 0 0 0 0 0 [])):=by
   unfold cW iC gU
   (try simp only[a,b,d,e,bj,reduceIte])
   all_goals rfl
 rw[hs]
 exact⟨rfl,hC,⟨_,⟨hm,rfl⟩,⟨_,_,_,_,_,rfl,aI.nil ..,aI.nil ..,aI.nil ..,aI.nil ..,aI.nil ..,(c8 (by omega))⟩⟩,(aD.mono (S':=[g,gm]) (aD.refl [] _) aA)⟩
open Go.RowKit
def bv (dir c:Int)(C:al) : Option (al × bg) :=
  if c==8 then some (fx dir c C)
  else if c==7 || c==11 || c==12 || c==17 then (if dir==1 then some (cW c C) else some (C,{ bg.zero with code:=c }))
  else none
theorem nC(hcode:B8 c)(hsl:aO m w (.slice A b.length cp) b)(hb:b.length≤1048576) :
    Calls Tryz.prog 100 #[vI 0,vB c,.slice A b.length cp] w (eo (aq bv 0 c b) w):=by
 obtain⟨hcode1,hcode2⟩:=hcode
 have hln:(b.length:Int)≤1048576:=by omega
 refine en 47 Tryz.func100 rfl<|sg<|aK mZ fun H an t q I=>aj 1<|sq<|ax 6<|c0<|bp<|ak 2<|aK mZ fun a ao k u R=>aE u (mC c) fun ap l v=>aL 1<|?_
 have n:=ud R v k
 have y:=aM I n
 refine az<|e3 (dA (aO.old hsl y) (by omega)) fun d S r o f=>aj 1<|x8 (fun x=>[(6,vP H 0),(8,vP a 0),(9,vP d 0)]) (fun(x:al × Array Value × bg) w'=>aD [d,a] S w'∧ae w' d x.1∧w'.heap[a]? = some (.cells x.2.1 45 (0,0))∧aS (.hi w.heap.size) w' x.2.1.toList x.2.2∧(aq bv 0 c b=bA x.2.2 x.1)) ?_ ?_
 rintro⟨C,cs,M⟩ z ⟨J,T,U,V,W⟩
 refine eH [(6,vP H 0),(8,vP a 0),(9,vP d 0)] ?_
 have K:ae z d C:=T
 have X:z.heap[a]? = some (.cells cs 45 (0,0)):=U
 have s:aS (.hi w.heap.size) z cs.toList M:=V
 have B:=aS.size s
 have L:aq bv 0 c b=bA M C:=W
 refine ak 1<|az<|m2 (et K) fun ar N D=>nt<|sq<|ak 1<|az<|mq (cl N)<|?_
 have aw:=ae.len N
 refine Pl 1<|cy 2<|?_
 have E:=ud f (u1 J D im) r
 have O:=ud y E (le I.size k)
 refine cb ((C.endC.e != 0)) (fun F=>?_) (fun F=>?_)
 have G:=av F
 refine ak 2<|?_
 refine aE (ub (ud n E k) q) mZ fun ay Y Z=>aj 1<|bh<|bV Y (vI C.endC.e)<|?_
 rw[L]
 exact cR G (ud O Z t)
 have G:=aJ F
 refine bp<|sg<|?_
 refine L0<|cO (hz:=(by rw[B];exact be)) (aY D (nb (ag u) v.size r) X)<|?_
 refine aE (hz:=(by rw[B];exact be)) (hv:=s.size) (h1:=s.one) (ub (ud n E k) q) (cs) fun aB a0 P=>aj 1<|rt<|eW 22 B a0 (vI 0)<|?_
 rw[L]
 exact dt G (aS.upd s (us D P) (ah (ae.safe K _ (by decide)) (ah (aW (ub (ud n (ud f J r) k) q) (by decide)) aC))) (ud O P t)
 refine ax 1<|bk<|ax 2<|?_
 have Q:=aM y f
 refine cb ((c==8)) (fun g=>?_) (fun g=>?_)
 have a1:=am g
 refine go<|Pl 2<|?_
 refine az<|m3 (oA (dir:=0) (c:=c) ⟨hcode1,hcode2⟩ o (ub f l) (Ne.symm (nb (ag u) v.size r))) fun aF a2 a3 a4=>?_
 obtain⟨aG,a5,a6⟩:=a3
 refine ab a2 fun x80 a7 a8=>?_
 exact nl<|bn<|jn (x80,_,(fx 0 c (al.mk b false 0)).2) ⟨a4,a8,a5.1,(aS.lo a6 Q.size),by subst a7;unfold aq bv ;(try simp only[g,bj,dl,dm,dj,dn,dk,reduceIte])<;>rfl⟩
 have a1:=au g
 refine sq<|ax 2<|cb ((c==7)) (fun h=>?_) (fun h=>?_)
 have a9:=am h
 refine bp<|ct h<|ax 2<|c0<|sk<|bn<|?_
 exact jn ((al.mk b false 0),_,(bg.mk c 0 0 0 0 0 0 0 0 0 0 0 [] [] [] [] 0 0 0 0 0 [])) ⟨(aD.mono (S':=[d,a]) (aD.refl [] _) aA),o,(ub f l),⟨_,_,_,_,_,rfl,aI.nil ..,aI.nil ..,aI.nil ..,aI.nil ..,aI.nil ..,(c8 (by omega))⟩,by unfold aq bv ;(try simp only[g,h,bj,dl,dm,dj,dn,dk,reduceIte])<;>rfl⟩
 have a9:=au h
 refine ax 2<|cb ((c==11)) (fun i=>?_) (fun i=>?_)
 have aa:=am i
 refine bp<|ct i<|ax 2<|c0<|sk<|bn<|?_
 exact jn ((al.mk b false 0),_,(bg.mk c 0 0 0 0 0 0 0 0 0 0 0 [] [] [] [] 0 0 0 0 0 [])) ⟨(aD.mono (S':=[d,a]) (aD.refl [] _) aA),o,(ub f l),⟨_,_,_,_,_,rfl,aI.nil ..,aI.nil ..,aI.nil ..,aI.nil ..,aI.nil ..,(c8 (by omega))⟩,by unfold aq bv ;(try simp only[g,h,i,bj,dl,dm,dj,dn,dk,reduceIte])<;>rfl⟩
 have aa:=au i
 refine ax 2<|cb ((c==12)) (fun j=>?_) (fun j=>?_)
 have ac:=am j
 refine bp<|ct j<|ax 2<|c0<|sk<|bn<|?_
 exact jn ((al.mk b false 0),_,(bg.mk c 0 0 0 0 0 0 0 0 0 0 0 [] [] [] [] 0 0 0 0 0 [])) ⟨(aD.mono (S':=[d,a]) (aD.refl [] _) aA),o,(ub f l),⟨_,_,_,_,_,rfl,aI.nil ..,aI.nil ..,aI.nil ..,aI.nil ..,aI.nil ..,(c8 (by omega))⟩,by unfold aq bv ;(try simp only[g,h,i,j,bj,dl,dm,dj,dn,dk,reduceIte])<;>rfl⟩
 have ac:=au j
 refine go<|aj 2<|cb ((c==17)) (fun p=>?_) (fun p=>?_)
 have ad:=am p
 refine ax 2<|c0<|sk<|bn<|?_
 exact jn ((al.mk b false 0),_,(bg.mk c 0 0 0 0 0 0 0 0 0 0 0 [] [] [] [] 0 0 0 0 0 [])) ⟨(aD.mono (S':=[d,a]) (aD.refl [] _) aA),o,(ub f l),⟨_,_,_,_,_,rfl,aI.nil ..,aI.nil ..,aI.nil ..,aI.nil ..,aI.nil ..,(c8 (by omega))⟩,by unfold aq bv ;(try simp only[g,h,i,j,p,bj,dl,dm,dj,dn,dk,reduceIte])<;>rfl⟩
 have ad:=au p
 refine ak 1<|?_
 refine aE (ub (aM n f) q) mZ fun aH af ai=>aj 1<|rt<|br<|tr<|bV af (vI 4)<|?_
 exact dq (by unfold aq bv;(try simp only[g,h,i,j,p,bj,dl,dm,dj,dn,dk,reduceIte])<;>rfl) (c7 (ud Q ai t))
theorem nW(hcode:B8 c)(hsl:aO m w (.slice A b.length cp) b)(hb:b.length≤1048576) :
    Calls Tryz.prog 100 #[vI 1,vB c,.slice A b.length cp] w (eo (aq bv 1 c b) w):=by
 obtain⟨hcode1,hcode2⟩:=hcode
 have hln:(b.length:Int)≤1048576:=by omega
 refine en 47 Tryz.func100 rfl<|sg<|aK mZ fun I ba y u J=>aj 1<|sq<|ax 6<|c0<|bp<|ak 2<|aK mZ fun n bb o i R=>aE i (mC c) fun bc p j=>aL 1<|?_
 have q:=ud R j o
 have z:=aM J q
 refine az<|e3 (dA (aO.old hsl z) (by omega)) fun r S g s a=>aj 1<|x8 (fun x=>[(6,vP I 0),(8,vP n 0),(9,vP r 0)]) (fun(x:al × Array Value × bg) w'=>aD [r,n] S w'∧ae w' r x.1∧w'.heap[n]? = some (.cells x.2.1 45 (0,0))∧aS (.hi w.heap.size) w' x.2.1.toList x.2.2∧(aq bv 1 c b=bA x.2.2 x.1)) ?_ ?_
 rintro⟨C,cs,M⟩ B ⟨K,T,U,V,W⟩
 refine eH [(6,vP I 0),(8,vP n 0),(9,vP r 0)] ?_
 have L:ae B r C:=T
 have X:B.heap[n]? = some (.cells cs 45 (0,0)):=U
 have v:aS (.hi w.heap.size) B cs.toList M:=V
 have D:=aS.size v
 have N:aq bv 1 c b=bA M C:=W
 refine ak 1<|az<|m2 (et L) fun bd O E=>nt<|sq<|ak 1<|az<|mq (cl O)<|?_
 have bf:=ae.len O
 refine Pl 1<|cy 2<|?_
 have F:=ud a (u1 K E im) g
 have P:=ud z F (le J.size o)
 refine cb ((C.endC.e != 0)) (fun G=>?_) (fun G=>?_)
 have H:=av G
 refine ak 2<|?_
 refine aE (ub (ud q F o) u) mZ fun bi Y Z=>aj 1<|bh<|bV Y (vI C.endC.e)<|?_
 rw[N]
 exact cR H (ud P Z y)
 have H:=aJ G
 refine bp<|sg<|?_
 refine L0<|cO (hz:=(by rw[D];exact be)) (aY E (nb (ag i) j.size g) X)<|?_
 refine aE (hz:=(by rw[D];exact be)) (hv:=v.size) (h1:=v.one) (ub (ud q F o) u) (cs) fun bl a0 Q=>aj 1<|rt<|eW 22 D a0 (vI 0)<|?_
 rw[N]
 exact dt H (aS.upd v (us E Q) (ah (ae.safe L _ (by decide)) (ah (aW (ub (ud q (ud a K g) o) u) (by decide)) aC))) (ud P Q y)
 refine ax 1<|bk<|ax 2<|?_
 have l:=aM z a
 refine cb ((c==8)) (fun d=>?_) (fun d=>?_)
 have a1:=am d
 refine go<|Pl 2<|?_
 refine az<|m3 (oA (dir:=1) (c:=c) ⟨hcode1,hcode2⟩ s (ub a p) (Ne.symm (nb (ag i) j.size g))) fun bm a2 a3 a4=>?_
 obtain⟨bo,a5,a6⟩:=a3
 refine ab a2 fun x80 a7 a8=>?_
 exact nl<|bn<|jn (x80,_,(fx 1 c (al.mk b false 0)).2) ⟨a4,a8,a5.1,(aS.lo a6 l.size),by subst a7;unfold aq bv ;(try simp only[d,bj,dl,dm,dj,dn,dk,reduceIte])<;>rfl⟩
 have a1:=au d
 refine sq<|ax 2<|cb ((c==7)) (fun f=>?_) (fun f=>?_)
 have a9:=am f
 refine bp<|ct f<|ax 2<|c1<|go<|Pl 1<|?_
 refine az<|m3 (gz (c:=c) ⟨hcode1,hcode2⟩ s (ub a p) (Ne.symm (nb (ag i) j.size g))) fun bq aa ac ad=>?_
 obtain⟨bs,af,ai⟩:=ac
 refine ab aa fun x93 an ao=>?_
 exact nl<|bn<|jn (x93,_,(cW c (al.mk b false 0)).2) ⟨ad,ao,af.1,(aS.lo ai l.size),by subst an;unfold aq bv ;(try simp only[d,f,bj,dl,dm,dj,dn,dk,reduceIte])<;>rfl⟩
 have a9:=au f
 refine ax 2<|cb ((c==11)) (fun h=>?_) (fun h=>?_)
 have ap:=am h
 refine bp<|ct h<|ax 2<|c1<|go<|Pl 1<|?_
 refine az<|m3 (gz (c:=c) ⟨hcode1,hcode2⟩ s (ub a p) (Ne.symm (nb (ag i) j.size g))) fun bt ar aw ay=>?_
 obtain⟨bu,aA,aB⟩:=aw
 refine ab ar fun aF aG aH=>?_
 exact nl<|bn<|jn (aF,_,(cW c (al.mk b false 0)).2) ⟨ay,aH,aA.1,(aS.lo aB l.size),by subst aG;unfold aq bv ;(try simp only[d,f,h,bj,dl,dm,dj,dn,dk,reduceIte])<;>rfl⟩
 have ap:=au h
 refine ax 2<|cb ((c==12)) (fun k=>?_) (fun k=>?_)
 have aI:=am k
 refine bp<|ct k<|ax 2<|c1<|go<|Pl 1<|?_
 refine az<|m3 (gz (c:=c) ⟨hcode1,hcode2⟩ s (ub a p) (Ne.symm (nb (ag i) j.size g))) fun bw aN aP aQ=>?_
 obtain⟨bx,aR,aT⟩:=aP
 refine ab aN fun aU aV aX=>?_
 exact nl<|bn<|jn (aU,_,(cW c (al.mk b false 0)).2) ⟨aQ,aX,aR.1,(aS.lo aT l.size),by subst aV;unfold aq bv ;(try simp only[d,f,h,k,bj,dl,dm,dj,dn,dk,reduceIte])<;>rfl⟩
 have aI:=au k
 refine go<|aj 2<|cb ((c==17)) (fun t=>?_) (fun t=>?_)
 have aZ:=am t
 refine ax 2<|c1<|go<|Pl 1<|?_
 refine az<|m3 (gz (c:=c) ⟨hcode1,hcode2⟩ s (ub a p) (Ne.symm (nb (ag i) j.size g))) fun bz b0 b1 b2=>?_
 obtain⟨bB,b3,b4⟩:=b1
 refine ab b0 fun b5 b6 b7=>?_
 exact nl<|bn<|jn (b5,_,(cW c (al.mk b false 0)).2) ⟨b2,b7,b3.1,(aS.lo b4 l.size),by subst b6;unfold aq bv ;(try simp only[d,f,h,k,t,bj,dl,dm,dj,dn,dk,reduceIte])<;>rfl⟩
 have aZ:=au t
 refine ak 1<|?_
 refine aE (ub (aM q a) u) mZ fun bC b8 b9=>aj 1<|rt<|br<|tr<|bV b8 (vI 4)<|?_
 exact dq (by unfold aq bv;(try simp only[d,f,h,k,t,bj,dl,dm,dj,dn,dk,reduceIte])<;>rfl) (c7 (ud l b9 y))
theorem nB(hcode:B8 c)(hsl:aO m w (.slice A b.length cp) b)(hb:b.length≤1048576)(hd:¬ (dir=0∨dir=1)) :
    Calls Tryz.prog 100 #[vI dir,vB c,.slice A b.length cp] w (eo (aq bv dir c b) w):=by
 obtain⟨hcode1,hcode2⟩:=hcode
 have hln:(b.length:Int)≤1048576:=by omega
 have e0:(dir != 0)=true:=by simp;omega
 have e1:(dir != 1)=true:=by simp;omega
 refine en 47 Tryz.func100 rfl<|sg<|aK mZ fun g h a d e=>aj 1<|sq<|ak 3<|sy 13 e0<|Pl 3<|nl<|tn<|ct e1<|ak 1<|aE d mZ fun i ej f=>aj 1<|bh<|bV ej (vI 1)<|?_
 exact dq (by unfold aq bv;(try simp only[e0,e1,bj,dl,dm,dj,dn,dk,reduceIte,hd])<;>rfl) (c7 (ud e f a))
theorem qn{v:Value}    (hc:B8 c)(h:aO m w v b)(hb:b.length≤1048576) :
    Calls Tryz.prog 100 #[.int .i64 dir,.int .u8 c,v] w (eo (aq bv dir c b) w):=by
  obtain⟨A,cp,rfl,_,_⟩:=h.shape
  by_cases h0:dir=0
  · subst h0;exact nC hc h hb
  by_cases h1:dir=1
  · subst h1;exact nW hc h hb
  exact nB hc h hb (by omega)
open Go.RowKit
def f4:Nat→al→List Obj→al × List Obj
  | 0,C,L=>(C,L)
  | n+1,C,L=>f4 n (((C.bytesC 1).bytesC 1).bytesC (C.bytesC 1).byteV) (L++[⟨C.byteV,((C.bytesC 1).bytesC 1).bytesR (C.bytesC 1).byteV⟩])
def o3 (C:al) : al:=(C.bytesC 1).need (bT C.byteV) 6
def nV (C:al) : al:=((o3 C).bytesC 1).need ((o3 C).byteV==0 || (o3 C).byteV==255) 6
def uK (C:al) : al:=((nV C).bytesC 1).need ((o3 C).byteV != 0 || (nV C).byteV==0) 6
def Bt (kd:Int)(C:al) : al:=((uK C).bytesC 1).need (kd != 4 || (uK C).byteV==1) 5
def fk (kd:Int)(C:al) : al × List Obj:=f4 (uK C).byteV.toNat (Bt kd C) []
theorem pO{me kd:Int}{C0:al}  (hcode:B8 c)(hme:B8 me)(hkd:B8 kd)(hC:ae w g C0)(hm:w.heap[gm]? = some (.cells #[vB c,vB 0,vW 0,vW 0,vW 0,vW 0,vW 0,vW 0,vW 0,vW 0,vW 0,vW 0,nS,nS,nS,nS,vB me,vB kd,vB 0,vB 0,vB 0,nS] 45 (0,0)))(hne:g≠gm) :
    Calls Tryz.prog 161 #[vP g 0,vP gm 0] w (c5 g gm (fk kd C0).1 { bg.zero with code:=c,mei:=me,kind:=kd,level:=C0.byteV,more:=(o3 C0).byteV,next:=(nV C0).byteV,objects:=(fk kd C0).2 } w):=by
 obtain⟨hcode1,hcode2⟩:=hcode
 obtain⟨hme1,hme2⟩:=hme
 obtain⟨hkd1,hkd2⟩:=hkd
 refine en 92 Tryz.func161 rfl<|ak 2<|az<|m3 (bM hC) fun cU bO b cV=>Pl 2<|?_
 have af:=aY b (Ne.symm hne) hm
 refine L0<|bI af 18 (mG c 0 0 0 0 0 0 0 0 0 0 0 nS nS nS nS me kd C0.byteV 0 0 nS) fun cW ej j=>aL 4<|aH ej 18<|az<|m1 (t6 (x:=C0.byteV) (w:=_)) fun cX d=>?_
 have am:=aM j d
 refine az<|m2 (bf ((bT C0.byteV)) 6 (ae.upd bO am (aa hne ay) (ah (aW af (by decide)) aC))) fun cZ bP l=>?_
 refine ab bP fun x25 bQ bR=>?_
 refine aL 2<|az<|m3 (bM bR) fun d0 bS o d1=>Pl 2<|?_
 have an:=u1 l o im
 have ao:=aY (uz d an) (Ne.symm hne) ej
 refine L0<|bI ao 19 (mG c 0 0 0 0 0 0 0 0 0 0 0 nS nS nS nS me kd C0.byteV x25.byteV 0 nS) fun d2 T f=>aL 4<|aH T 19<|Pl 2<|eE 6 [29] 35 29 (x25.byteV==0) (x25.byteV==255) (fun K bU bV=>?_) ?_
 have d3:=au bV
 exact Pl 3<|L1<|dp T 19<|Pl 2<|ce bU _ rfl
 refine az<|m2 (bf (((x25.byteV==0)||(x25.byteV==255))) 6 (ae.upd bS f (aa hne ay) (ah (aW ao (by decide)) aC))) fun d4 bW p=>?_
 refine ab bW fun x44 bX bY=>?_
 refine aL 2<|az<|m3 (bM bY) fun d5 bZ r d6=>Pl 2<|?_
 have ap:=u1 p r im
 have aq:=aY ap (Ne.symm hne) T
 refine L0<|bI aq 20 (mG c 0 0 0 0 0 0 0 0 0 0 0 nS nS nS nS me kd C0.byteV x25.byteV x44.byteV nS) fun d7 U h=>aL 4<|aH U 19<|Pl 2<|eE 6 [48] 54 48 (x25.byteV != 0) (x44.byteV==0) (fun K c0 c1=>?_) ?_
 have d8:=aJ c1
 exact Pl 3<|L1<|dp U 20<|Pl 2<|ce c0 _ rfl
 refine az<|m2 (bf (((x25.byteV != 0)||(x44.byteV==0))) 6 (ae.upd bZ h (aa hne ay) (ah (aW aq (by decide)) aC))) fun d9 c2 s=>?_
 refine ab c2 fun x62 c4 c6=>?_
 refine aL 1<|az<|m3 (bM c6) fun da c7 t db=>b6 x62.byteV<|Pl 1<|aL 4<|?_
 have ar:=u1 s t im
 have av:=aY ar (Ne.symm hne) U
 refine aH av 17<|Pl 2<|eE 3 [65] 68 65 (kd != 4) (x62.byteV==1) (fun K c8 c9=>?_) ?_
 have dc:=aJ c9
 exact Pl 3<|ce c8 _ rfl
 refine az<|m2 (bf (((kd != 4)||(x62.byteV==1))) 5 c7) fun V ca i=>?_
 refine ab ca fun x76 cc cd=>?_
 refine cy 2<|bk<|?_
 refine fE (fun x=>[(0,vP g 0),(1,vP gm 0),(70,vI x62.byteV),(71,vI (x.1:Int))]) (fun(x:Nat × al × List Obj × Option Addr × Nat) w'=>aD [g,gm] V w'∧ae w' g x.2.1∧w'.heap[gm]? = some (.cells #[vB c,vB 0,vW 0,vW 0,vW 0,vW 0,vW 0,vW 0,vW 0,vW 0,vW 0,vW 0,nS,nS,nS,nS,vB me,vB kd,vB C0.byteV,vB x25.byteV,vB x44.byteV,.slice x.2.2.2.1 x.2.2.1.length x.2.2.2.2] 45 (0,0))∧aQ V.heap.size 100 2 (cY (.hi w.heap.size)) w' (.slice x.2.2.2.1 x.2.2.1.length x.2.2.2.2) x.2.2.1∧(x.1≤x62.byteV.toNat)∧(f4 (x62.byteV.toNat-x.1) x.2.1 x.2.2.1=f4 x62.byteV.toNat x76 [])∧(x.2.2.1.length≤x.1)) (fun x=>x62.byteV.toNat-x.1) (0,x76,[],none,0) ⟨aD.refl _ _,cd,(aY i (Ne.symm hne) av),aQ.nil ..,(by(try dsimp only);omega),(by(try dsimp only);rw[Nat.sub_zero]),(by(try dsimp only);(try simp only[cD]);omega)⟩ ?_
 rintro⟨k,C,L,A,cp⟩ W ⟨v,cf,cg,ch,cj,ck,cl⟩
 refine eH [(0,vP g 0),(1,vP gm 0),(70,vI x62.byteV),(71,vI (k:Int))] ?_
 have z:ae W g C:=cf
 have E:W.heap[gm]? = some (.cells #[vB c,vB 0,vW 0,vW 0,vW 0,vW 0,vW 0,vW 0,vW 0,vW 0,vW 0,vW 0,nS,nS,nS,nS,vB me,vB kd,vB C0.byteV,vB x25.byteV,vB x44.byteV,.slice A L.length cp] 45 (0,0)):=cg
 have a:aQ V.heap.size 100 2 (cY (.hi w.heap.size)) W (.slice A L.length cp) L:=ch
 have dd:k≤x62.byteV.toNat:=cj
 have de:f4 (x62.byteV.toNat-k) C L=f4 x62.byteV.toNat x76 []:=ck
 have df:L.length≤k:=cl
 have hobj:f4 (x62.byteV.toNat-k) C L=f4 x62.byteV.toNat x76 []:=by assumption
 refine ax 1<|sq<|?_
 refine cb ((decide ((k:Int)<x62.byteV))) (fun X=>?_) (fun X=>?_)
 have cm:=of_decide_eq_true X
 refine bp<|sq<|bk<|ak 1<|az<|m3 (bM z) fun dg aw y dh=>aj 1<|Rg 17 (fun w'=>True) fun di u=>bB trivial fun D=>Rt 0 D<|Rt 1 D<|Rt 2 D<|Rt 3 D<|Rt 5 D<|Rt 6 D<|Rt 7 D<|R2 4 8 rfl rfl ?_ ?_
 have Y:=aM y u
 have Z:=aY Y (Ne.symm hne) E
 refine  dp Z 21<|bB trivial fun dj=>?_
 refine R0 8 rfl<|Oc<|m3 (bM (ae.old aw u)) fun dk aE G dl=>bB trivial fun cn=>Rr 9 cn (vI ((C.bytesC 1).byteV)) (fun _ _=>bF (vI (IntKind.i64.wrap ((C.bytesC 1).byteV))) (by kernel_rfl) (congrArg (Value.int .i64) (i64_in (by omega))))<|R0 10 rfl<|Oc<|tT (c3 (n:=(C.bytesC 1).byteV) aE) fun co cq dm cr dn dq cs a0=>?_
 have dr:=Nat.le_trans (al.bytesR_le ((C.bytesC 1).bytesC 1) ((C.bytesC 1).byteV)) (ae.len aE)
 refine ab cs fun ds ct cu=>?_
 refine bB trivial fun cv=>Rt 11 cv<|R0 12 rfl<|ep (m:=1) (e:=100) #[vB C.byteV,.slice co ((((C.bytesC 1).bytesC 1).bytesR ((C.bytesC 1).byteV)).length) cq] fun dt du dv cw H=>?_
 have cx:=ky (R:=cY (.hi w.heap.size)) (x:=(Obj.mk C.byteV (((C.bytesC 1).bytesC 1).bytesR ((C.bytesC 1).byteV)))) cw rfl ⟨_,rfl,(aI.hi_le (aO.upd' cr H aC) (le (le (le (le (le (le (le (le (le (le (le (le (le (le (le b.size j.size) d.size) l.size) o.size) f.size) p.size) r.size) h.size) s.size) t.size) i.size) v.size) y.size) u.size) G.size) fun _ _ q=>q),b8 (x:=C.byteV) (by omega)⟩
 refine bB trivial fun dw=>?_
 have aF:=u1 G (aM a0 H) im
 have a1:=u1 Y aF im
 have aK:=ai a a1 (fun x hx=>(aa (fun e=>(aG (ae.lt hC) (le (le (le (le (le (le (le (le (le (le (le b.size j.size) d.size) l.size) o.size) f.size) p.size) r.size) h.size) s.size) t.size) i.size) a) (e▸hx)) ay)) (cY.upd8 a1 (ah (ae.safe z _ (by decide)) aC))
 refine R0 13 rfl<|gL (xs:=L) (ys:=([(Obj.mk C.byteV (((C.bytesC 1).bytesC 1).bytesR ((C.bytesC 1).byteV)))])) (.agg #[vB 0,nS]) 2 32 aK cx (by simp) cY.ones (fun w' hv=>cY.upd8 hv (b9 (bi _ aK (by decide)) aC)) (by(try simp only[cD,aN]);omega) (le (le (le (le (le v.size y.size) u.size) G.size) a0.size) H.size) fun aP aR dx aS aT=>bB trivial fun aU=>Rt 14 aU<|Rt 15 aU<|?_
 have aV:=aD.blk (ut (aD.mono (S':=(g :: (ob A++[]))) aF (ac im aA)) aT (aB il aA)) (aa (Ne.symm hne) (aZ (aG (ag hm) (le (le (le (le (le (le (le (le (le (le (le b.size j.size) d.size) l.size) o.size) f.size) p.size) r.size) h.size) s.size) t.size) i.size) a) ay)) Z
 refine R0 16 rfl<|bI aV 21 (mG c 0 0 0 0 0 0 0 0 0 0 0 nS nS nS nS me kd C0.byteV x25.byteV x44.byteV (.slice aP ((L++[(Obj.mk C.byteV (((C.bytesC 1).bytesC 1).bytesR ((C.bytesC 1).byteV)))]).length) aR)) fun dy cz a2=>bB trivial fun dz=>re<|bn<|tn<|go<|b6 ((k:Int)+1)<|Pl 1<|nl<|?_
 subst ct
 have aX:=u1 (aD.mono (S':=(ob A++(gm :: []))) aT (aB il aA)) a2 im
 have b0:=u1 G a0 im
 have b1:=u1 Y b0 im
 exact dH ((k+1),(((C.bytesC 1).bytesC 1).bytesC ((C.bytesC 1).byteV)),(L++[(Obj.mk C.byteV (((C.bytesC 1).bytesC 1).bytesR ((C.bytesC 1).byteV)))]),aP,aR) ⟨(ut v (ut (aD.mono (S':=(g :: (ob A++(gm :: [])))) a1 (ac im aA)) aX (aB il (ac im aA))) (ac im (aB (bE a lr) (ac im aA)))),(ae.upd cu (ut (aD.mono (S':=(ob A++(gm :: []))) H aA) aX (aB il (ac im aA))) (aZ (aG (ae.lt hC) (le (le (le (le (le (le (le (le (le (le (le b.size j.size) d.size) l.size) o.size) f.size) p.size) r.size) h.size) s.size) t.size) i.size) a) (aa hne ay)) (b9 (bi _ (ai a b1 (fun x hx=>(aa (fun e=>(aG (ae.lt hC) (le (le (le (le (le (le (le (le (le (le (le b.size j.size) d.size) l.size) o.size) f.size) p.size) r.size) h.size) s.size) t.size) i.size) a) (e▸hx)) ay)) (cY.upd8 b1 (ah (ae.safe z _ (by decide)) aC))) (by decide)) (ah (aW (aY b0 (Ne.symm hne) Z) (by decide)) aC))),cz,(ai aS a2 (fun x hx=>(aa (fun e=>(aG (ag hm) (le (le (le (le (le (le (le (le (le (le (le b.size j.size) d.size) l.size) o.size) f.size) p.size) r.size) h.size) s.size) t.size) i.size) aS) (e▸hx)) ay)) (cY.upd8 a2 (ah (aW aV (by decide)) aC))),(by(try dsimp only);omega),(by(try dsimp only);rw[← hobj,show x62.byteV.toNat-k=(x62.byteV.toNat-(k+1))+1 from by omega];rfl),(by(try dsimp only);(try simp only[cD]);omega)⟩ (by omega)
 refine  Oc<|m3 (bM (ae.old aw u)) fun dA I B dB=>bB trivial fun cA=>Rr 9 cA (vI ((C.bytesC 1).byteV)) (fun _ _=>bF (vI (IntKind.i64.wrap ((C.bytesC 1).byteV))) (by kernel_rfl) (congrArg (Value.int .i64) (i64_in (by omega))))<|R2 4 10 rfl rfl ?_ ?_
 have a3:=u1 y (uz u B) im
 have a4:=aY a3 (Ne.symm hne) E
 refine  dp a4 21<|bB trivial fun dC=>R0 10 rfl<|Oc<|tT (c3 (n:=(C.bytesC 1).byteV) I) fun cB cC dD cE dE dF cF J=>?_
 have dG:=Nat.le_trans (al.bytesR_le ((C.bytesC 1).bytesC 1) ((C.bytesC 1).byteV)) (ae.len I)
 refine ab cF fun dI cG cH=>?_
 refine bB trivial fun cI=>Rt 11 cI<|R0 12 rfl<|ep (m:=1) (e:=100) #[vB C.byteV,.slice cB ((((C.bytesC 1).bytesC 1).bytesR ((C.bytesC 1).byteV)).length) cC] fun dJ dK dL cJ M=>?_
 have cK:=ky (R:=cY (.hi w.heap.size)) (x:=(Obj.mk C.byteV (((C.bytesC 1).bytesC 1).bytesR ((C.bytesC 1).byteV)))) cJ rfl ⟨_,rfl,(aI.hi_le (aO.upd' cE M aC) (le (le (le (le (le (le (le (le (le (le (le (le (le (le (le b.size j.size) d.size) l.size) o.size) f.size) p.size) r.size) h.size) s.size) t.size) i.size) v.size) y.size) u.size) B.size) fun _ _ q=>q),b8 (x:=C.byteV) (by omega)⟩
 refine bB trivial fun dM=>?_
 have b2:=aM J M
 have a5:=u1 a3 b2 im
 have b3:=ai a a5 (fun x hx=>(aa (fun e=>(aG (ae.lt hC) (le (le (le (le (le (le (le (le (le (le (le b.size j.size) d.size) l.size) o.size) f.size) p.size) r.size) h.size) s.size) t.size) i.size) a) (e▸hx)) ay)) (cY.upd8 a5 (ah (ae.safe z _ (by decide)) aC))
 refine R0 13 rfl<|gL (xs:=L) (ys:=([(Obj.mk C.byteV (((C.bytesC 1).bytesC 1).bytesR ((C.bytesC 1).byteV)))])) (.agg #[vB 0,nS]) 2 32 b3 cK (by simp) cY.ones (fun w' hv=>cY.upd8 hv (b9 (bi _ b3 (by decide)) aC)) (by(try simp only[cD,aN]);omega) (le (le (le (le (le v.size y.size) u.size) B.size) J.size) M.size) fun b4 b5 dN b7 ba=>bB trivial fun bb=>Rt 14 bb<|Rt 15 bb<|?_
 have bc:=aD.blk (ut (aD.mono (S':=(g :: (ob A++[]))) b2 (ac im aA)) ba (aB il aA)) (aa (Ne.symm hne) (aZ (aG (ag hm) (le (le (le (le (le (le (le (le (le (le (le b.size j.size) d.size) l.size) o.size) f.size) p.size) r.size) h.size) s.size) t.size) i.size) a) ay)) a4
 refine R0 16 rfl<|bI bc 21 (mG c 0 0 0 0 0 0 0 0 0 0 0 nS nS nS nS me kd C0.byteV x25.byteV x44.byteV (.slice b4 ((L++[(Obj.mk C.byteV (((C.bytesC 1).bytesC 1).bytesR ((C.bytesC 1).byteV)))]).length) b5)) fun dO cL a6=>bB trivial fun dP=>re<|bn<|tn<|go<|b6 ((k:Int)+1)<|Pl 1<|nl<|?_
 subst cG
 have bd:=u1 (aD.mono (S':=(ob A++(gm :: []))) ba (aB il aA)) a6 im
 have be:=u1 a3 J im
 exact dH ((k+1),(((C.bytesC 1).bytesC 1).bytesC ((C.bytesC 1).byteV)),(L++[(Obj.mk C.byteV (((C.bytesC 1).bytesC 1).bytesR ((C.bytesC 1).byteV)))]),b4,b5) ⟨(ut v (ut (aD.mono (S':=(g :: (ob A++(gm :: [])))) a5 (ac im aA)) bd (aB il (ac im aA))) (ac im (aB (bE a lr) (ac im aA)))),(ae.upd cH (ut (aD.mono (S':=(ob A++(gm :: []))) M aA) bd (aB il (ac im aA))) (aZ (aG (ae.lt hC) (le (le (le (le (le (le (le (le (le (le (le b.size j.size) d.size) l.size) o.size) f.size) p.size) r.size) h.size) s.size) t.size) i.size) a) (aa hne ay)) (b9 (bi _ (ai a be (fun x hx=>(aa (fun e=>(aG (ae.lt hC) (le (le (le (le (le (le (le (le (le (le (le b.size j.size) d.size) l.size) o.size) f.size) p.size) r.size) h.size) s.size) t.size) i.size) a) (e▸hx)) ay)) (cY.upd8 be (ah (ae.safe z _ (by decide)) aC))) (by decide)) (ah (aW (aY J (Ne.symm hne) a4) (by decide)) aC))),cL,(ai b7 a6 (fun x hx=>(aa (fun e=>(aG (ag hm) (le (le (le (le (le (le (le (le (le (le (le b.size j.size) d.size) l.size) o.size) f.size) p.size) r.size) h.size) s.size) t.size) i.size) b7) (e▸hx)) ay)) (cY.upd8 a6 (ah (aW bc (by decide)) aC))),(by(try dsimp only);omega),(by(try dsimp only);rw[← hobj,show x62.byteV.toNat-k=(x62.byteV.toNat-(k+1))+1 from by omega];rfl),(by(try dsimp only);(try simp only[cD]);omega)⟩ (by omega)
 refine  Oc<|tT (c3 (n:=(C.bytesC 1).byteV) I) fun bh bj dQ bl dR dS cM F=>?_
 have dT:=Nat.le_trans (al.bytesR_le ((C.bytesC 1).bytesC 1) ((C.bytesC 1).byteV)) (ae.len I)
 refine ab cM fun dU bm bo=>?_
 refine bB trivial fun cN=>Rt 11 cN<|R2 4 12 rfl rfl ?_ ?_
 have N:=u1 y (uz u (u1 B F im)) im
 have a7:=aY N (Ne.symm hne) E
 refine  dp a7 21<|bB trivial fun dV=>R0 12 rfl<|ep (m:=1) (e:=100) #[vB C.byteV,.slice bh ((((C.bytesC 1).bytesC 1).bytesR ((C.bytesC 1).byteV)).length) bj] fun dW dX dY cO O=>?_
 have cP:=ky (R:=cY (.hi w.heap.size)) (x:=(Obj.mk C.byteV (((C.bytesC 1).bytesC 1).bytesR ((C.bytesC 1).byteV)))) cO rfl ⟨_,rfl,(aI.hi_le (aO.upd' bl O aC) (le (le (le (le (le (le (le (le (le (le (le (le (le (le (le b.size j.size) d.size) l.size) o.size) f.size) p.size) r.size) h.size) s.size) t.size) i.size) v.size) y.size) u.size) B.size) fun _ _ q=>q),b8 (x:=C.byteV) (by omega)⟩
 refine bB trivial fun dZ=>?_
 have a8:=aM N O
 have bq:=ai a a8 (fun x hx=>(aa (fun e=>(aG (ae.lt hC) (le (le (le (le (le (le (le (le (le (le (le b.size j.size) d.size) l.size) o.size) f.size) p.size) r.size) h.size) s.size) t.size) i.size) a) (e▸hx)) ay)) (cY.upd8 a8 (ah (ae.safe z _ (by decide)) aC))
 refine R0 13 rfl<|gL (xs:=L) (ys:=([(Obj.mk C.byteV (((C.bytesC 1).bytesC 1).bytesR ((C.bytesC 1).byteV)))])) (.agg #[vB 0,nS]) 2 32 bq cP (by simp) cY.ones (fun w' hv=>cY.upd8 hv (b9 (bi _ bq (by decide)) aC)) (by(try simp only[cD,aN]);omega) (le (le (le (le (le v.size y.size) u.size) B.size) F.size) O.size) fun br bs e0 bt bu=>bB trivial fun bv=>Rt 14 bv<|Rt 15 bv<|?_
 have bw:=ut (aD.mono (S':=(ob A++[])) O aA) bu (aB il aA)
 have bz:=aD.blk bw (aZ (aG (ag hm) (le (le (le (le (le (le (le (le (le (le (le b.size j.size) d.size) l.size) o.size) f.size) p.size) r.size) h.size) s.size) t.size) i.size) a) ay) a7
 refine R0 16 rfl<|bI bz 21 (mG c 0 0 0 0 0 0 0 0 0 0 0 nS nS nS nS me kd C0.byteV x25.byteV x44.byteV (.slice br ((L++[(Obj.mk C.byteV (((C.bytesC 1).bytesC 1).bytesR ((C.bytesC 1).byteV)))]).length) bs)) fun e1 cQ P=>bB trivial fun e2=>re<|bn<|tn<|go<|b6 ((k:Int)+1)<|Pl 1<|nl<|?_
 subst bm
 exact dH ((k+1),(((C.bytesC 1).bytesC 1).bytesC ((C.bytesC 1).byteV)),(L++[(Obj.mk C.byteV (((C.bytesC 1).bytesC 1).bytesR ((C.bytesC 1).byteV)))]),br,bs) ⟨(ut v (ut (aD.mono (S':=(g :: (ob A++(gm :: [])))) a8 (ac im aA)) (u1 (aD.mono (S':=(ob A++(gm :: []))) bu (aB il aA)) P im) (aB il (ac im aA))) (ac im (aB (bE a lr) (ac im aA)))),(ae.upd bo (u1 (aD.mono (S':=(ob A++(gm :: []))) bw (aB il aA)) P im) (aZ (aG (ae.lt hC) (le (le (le (le (le (le (le (le (le (le (le b.size j.size) d.size) l.size) o.size) f.size) p.size) r.size) h.size) s.size) t.size) i.size) a) (aa hne ay)) (b9 (bi _ (ai a N (fun x hx=>(aa (fun e=>(aG (ae.lt hC) (le (le (le (le (le (le (le (le (le (le (le b.size j.size) d.size) l.size) o.size) f.size) p.size) r.size) h.size) s.size) t.size) i.size) a) (e▸hx)) ay)) (cY.upd8 N (ah (ae.safe z _ (by decide)) aC))) (by decide)) (ah (aW a7 (by decide)) aC))),cQ,(ai bt P (fun x hx=>(aa (fun e=>(aG (ag hm) (le (le (le (le (le (le (le (le (le (le (le b.size j.size) d.size) l.size) o.size) f.size) p.size) r.size) h.size) s.size) t.size) i.size) bt) (e▸hx)) ay)) (cY.upd8 P (ah (aW bz (by decide)) aC))),(by(try dsimp only);omega),(by(try dsimp only);rw[← hobj,show x62.byteV.toNat-k=(x62.byteV.toNat-(k+1))+1 from by omega];rfl),(by(try dsimp only);(try simp only[cD]);omega)⟩ (by omega)
 refine  ep (m:=1) (e:=100) #[vB C.byteV,.slice bh ((((C.bytesC 1).bytesC 1).bytesR ((C.bytesC 1).byteV)).length) bj] fun e3 e4 e5 cR Q=>?_
 have cS:=ky (R:=cY (.hi w.heap.size)) (x:=(Obj.mk C.byteV (((C.bytesC 1).bytesC 1).bytesR ((C.bytesC 1).byteV)))) cR rfl ⟨_,rfl,(aI.hi_le (aO.upd' bl Q aC) (le (le (le (le (le (le (le (le (le (le (le (le (le (le (le b.size j.size) d.size) l.size) o.size) f.size) p.size) r.size) h.size) s.size) t.size) i.size) v.size) y.size) u.size) B.size) fun _ _ q=>q),b8 (x:=C.byteV) (by omega)⟩
 refine bB trivial fun e6=>?_
 have S:=u1 y (uz u (u1 B (aM F Q) im)) im
 have bA:=aY S (Ne.symm hne) E
 refine R0 4 rfl<|dp bA 21<|bB trivial fun e7=>?_
 have bC:=ai a S (fun x hx=>(aa (fun e=>(aG (ae.lt hC) (le (le (le (le (le (le (le (le (le (le (le b.size j.size) d.size) l.size) o.size) f.size) p.size) r.size) h.size) s.size) t.size) i.size) a) (e▸hx)) ay)) (cY.upd8 S (ah (ae.safe z _ (by decide)) aC))
 refine R0 13 rfl<|gL (xs:=L) (ys:=([(Obj.mk C.byteV (((C.bytesC 1).bytesC 1).bytesR ((C.bytesC 1).byteV)))])) (.agg #[vB 0,nS]) 2 32 bC cS (by simp) cY.ones (fun w' hv=>cY.upd8 hv (b9 (bi _ bC (by decide)) aC)) (by(try simp only[cD,aN]);omega) (le (le (le (le (le v.size y.size) u.size) B.size) F.size) Q.size) fun bD bG e8 bH bJ=>bB trivial fun bK=>Rt 14 bK<|Rt 15 bK<|?_
 have bL:=aD.blk bJ (aZ (aG (ag hm) (le (le (le (le (le (le (le (le (le (le (le b.size j.size) d.size) l.size) o.size) f.size) p.size) r.size) h.size) s.size) t.size) i.size) a) ay) bA
 refine R0 16 rfl<|bI bL 21 (mG c 0 0 0 0 0 0 0 0 0 0 0 nS nS nS nS me kd C0.byteV x25.byteV x44.byteV (.slice bD ((L++[(Obj.mk C.byteV (((C.bytesC 1).bytesC 1).bytesR ((C.bytesC 1).byteV)))]).length) bG)) fun e9 cT a9=>bB trivial fun ea=>re<|bn<|tn<|go<|b6 ((k:Int)+1)<|Pl 1<|nl<|?_
 subst bm
 have bN:=u1 (aD.mono (S':=(ob A++(gm :: []))) bJ (aB il aA)) a9 im
 have ad:=u1 y (uz u (u1 B F im)) im
 exact dH ((k+1),(((C.bytesC 1).bytesC 1).bytesC ((C.bytesC 1).byteV)),(L++[(Obj.mk C.byteV (((C.bytesC 1).bytesC 1).bytesR ((C.bytesC 1).byteV)))]),bD,bG) ⟨(ut v (ut (aD.mono (S':=(g :: (ob A++(gm :: [])))) S (ac im aA)) bN (aB il (ac im aA))) (ac im (aB (bE a lr) (ac im aA)))),(ae.upd bo (ut (aD.mono (S':=(ob A++(gm :: []))) Q aA) bN (aB il (ac im aA))) (aZ (aG (ae.lt hC) (le (le (le (le (le (le (le (le (le (le (le b.size j.size) d.size) l.size) o.size) f.size) p.size) r.size) h.size) s.size) t.size) i.size) a) (aa hne ay)) (b9 (bi _ (ai a ad (fun x hx=>(aa (fun e=>(aG (ae.lt hC) (le (le (le (le (le (le (le (le (le (le (le b.size j.size) d.size) l.size) o.size) f.size) p.size) r.size) h.size) s.size) t.size) i.size) a) (e▸hx)) ay)) (cY.upd8 ad (ah (ae.safe z _ (by decide)) aC))) (by decide)) (ah (aW (aY ad (Ne.symm hne) E) (by decide)) aC))),cT,(ai bH a9 (fun x hx=>(aa (fun e=>(aG (ag hm) (le (le (le (le (le (le (le (le (le (le (le b.size j.size) d.size) l.size) o.size) f.size) p.size) r.size) h.size) s.size) t.size) i.size) bH) (e▸hx)) ay)) (cY.upd8 a9 (ah (aW bL (by decide)) aC))),(by(try dsimp only);omega),(by(try dsimp only);rw[← hobj,show x62.byteV.toNat-k=(x62.byteV.toNat-(k+1))+1 from by omega];rfl),(by(try dsimp only);(try simp only[cD]);omega)⟩ (by omega)
 have cm:=of_decide_eq_false X
 refine xt<|tx<|tx<|bx<|rm (.tuple #[])<|?_
 subst cc c4 bX bQ
 have hf:fk kd C0=(C,L):=by
   have h1:f4 ((((((C0.bytesC 1).need (bT C0.byteV) 6).bytesC 1).need ((((C0.bytesC 1).need (bT C0.byteV) 6).byteV==0)||(((C0.bytesC 1).need (bT C0.byteV) 6).byteV==255)) 6).bytesC 1).need ((((C0.bytesC 1).need (bT C0.byteV) 6).byteV != 0)||(((((C0.bytesC 1).need (bT C0.byteV) 6).bytesC 1).need ((((C0.bytesC 1).need (bT C0.byteV) 6).byteV==0)||(((C0.bytesC 1).need (bT C0.byteV) 6).byteV==255)) 6).byteV==0)) 6).byteV.toNat ((((((((C0.bytesC 1).need (bT C0.byteV) 6).bytesC 1).need ((((C0.bytesC 1).need (bT C0.byteV) 6).byteV==0)||(((C0.bytesC 1).need (bT C0.byteV) 6).byteV==255)) 6).bytesC 1).need ((((C0.bytesC 1).need (bT C0.byteV) 6).byteV != 0)||(((((C0.bytesC 1).need (bT C0.byteV) 6).bytesC 1).need ((((C0.bytesC 1).need (bT C0.byteV) 6).byteV==0)||(((C0.bytesC 1).need (bT C0.byteV) 6).byteV==255)) 6).byteV==0)) 6).bytesC 1).need ((kd != 4)||(((((((C0.bytesC 1).need (bT C0.byteV) 6).bytesC 1).need ((((C0.bytesC 1).need (bT C0.byteV) 6).byteV==0)||(((C0.bytesC 1).need (bT C0.byteV) 6).byteV==255)) 6).bytesC 1).need ((((C0.bytesC 1).need (bT C0.byteV) 6).byteV != 0)||(((((C0.bytesC 1).need (bT C0.byteV) 6).bytesC 1).need ((((C0.bytesC 1).need (bT C0.byteV) 6).byteV==0)||(((C0.bytesC 1).need (bT C0.byteV) 6).byteV==255)) 6).byteV==0)) 6).byteV==1)) 5) []=(C,L):=by
     rw[← hobj,show((((((C0.bytesC 1).need (bT C0.byteV) 6).bytesC 1).need ((((C0.bytesC 1).need (bT C0.byteV) 6).byteV==0)||(((C0.bytesC 1).need (bT C0.byteV) 6).byteV==255)) 6).bytesC 1).need ((((C0.bytesC 1).need (bT C0.byteV) 6).byteV != 0)||(((((C0.bytesC 1).need (bT C0.byteV) 6).bytesC 1).need ((((C0.bytesC 1).need (bT C0.byteV) 6).byteV==0)||(((C0.bytesC 1).need (bT C0.byteV) 6).byteV==255)) 6).byteV==0)) 6).byteV.toNat-k=0 from by omega]
     rfl
   exact h1
 rw[hf]
 exact⟨rfl,z,⟨_,⟨E,rfl⟩,⟨_,_,_,_,_,rfl,aI.nil ..,aI.nil ..,aI.nil ..,aI.nil ..,(aQ.hi a (le (le (le (le (le (le (le (le (le (le (le b.size j.size) d.size) l.size) o.size) f.size) p.size) r.size) h.size) s.size) t.size) i.size)),⟨(b8 (x:=c) (by omega)),(b8 (x:=0) (by omega)),(ci (x:=0) (by omega)),(ci (x:=0) (by omega)),(ci (x:=0) (by omega)),(ci (x:=0) (by omega)),(ci (x:=0) (by omega)),(ci (x:=0) (by omega)),(ci (x:=0) (by omega)),(ci (x:=0) (by omega)),(ci (x:=0) (by omega)),(ci (x:=0) (by omega)),(b8 (x:=me) (by omega)),(b8 (x:=kd) (by omega)),(b8 (x:=C0.byteV) (by omega)),(b8 (x:=((C0.bytesC 1).need (bT C0.byteV) 6).byteV) (by omega)),(b8 (x:=((((C0.bytesC 1).need (bT C0.byteV) 6).bytesC 1).need ((((C0.bytesC 1).need (bT C0.byteV) 6).byteV==0)||(((C0.bytesC 1).need (bT C0.byteV) 6).byteV==255)) 6).byteV) (by omega))⟩⟩⟩,(ui b (ui am (ui an (ui f (ui ap (ui h (ui ar (ui i v))))))))⟩
open Go.RowKit
def e9 (C:al) : al:=(C.bytesC 1).need (C.byteV==13 || C.byteV==14) 8
def fA (C:al) : al:=(e9 C).need (decide (((e9 C).l.length:Int)≤251)) 5
def iu (C:al) : al:=((e9 C).bytesC 1).need (decide (1≤(e9 C).byteV)&&decide ((e9 C).byteV≤4)) 6
def ca (dir c:Int)(C:al) : Option (al × bg) :=
  if c != 43 then none
  else if C.byteV==13 then some ((fA C).bytesC ((fA C).l.length:Int),{ bg.zero with code:=c,mei:=C.byteV,data:=(fA C).bytesR ((fA C).l.length:Int) })
  else if dir==1 then some ((fk (e9 C).byteV (iu C)).1,{ bg.zero with code:=c,mei:=C.byteV,kind:=(e9 C).byteV,level:=(iu C).byteV,more:=(o3 (iu C)).byteV,next:=(nV (iu C)).byteV,objects:=(fk (e9 C).byteV (iu C)).2 })
  else some ((iu C).bytesC 1,{ bg.zero with code:=c,mei:=C.byteV,kind:=(e9 C).byteV,next:=(iu C).byteV })
theorem pa(hcode:B8 c)(hsl:aO m w (.slice A b.length cp) b)(hb:b.length≤1048576) :
    Calls Tryz.prog 104 #[vI 0,vB c,.slice A b.length cp] w (eo (aq ca 0 c b) w):=by
 obtain⟨hcode1,hcode2⟩:=hcode
 have hln:(b.length:Int)≤1048576:=by omega
 refine en 81 Tryz.func104 rfl<|sg<|aK mZ fun S bm y o p=>aj 1<|sq<|bk<|ax 7<|c0<|ax 3<|cb ((c != 43)) (fun f=>?_) (fun f=>?_)
 have ac:=av f
 refine ak 1<|aE o mZ fun bo ad af=>aj 1<|rt<|br<|tr<|bV ad (vI 4)<|?_
 exact dq (by unfold aq ca fA iu e9;(try simp only[f,bj,dl,dm,dj,dn,dk,reduceIte])<;>rfl) (c7 (ud p af y))
 have ac:=aJ f
 refine sk<|bn<|tn<|ak 1<|?_
 refine az<|e3 (dA (aO.old hsl p) (by omega)) fun g bq T z B=>Pl 1<|aL 2<|az<|m3 (bM z) fun bs ag h bt=>Pl 1<|aK mZ fun i bu j ai U=>aE ai (mG c 0 0 0 0 0 0 0 0 0 0 0 nS nS nS nS ((al.mk b false 0).byteV) 0 0 0 0 nS) fun bv D V=>nt<|sq<|go<|Pl 2<|aH D 16<|Pl 2<|eE 4 [33] 37 33 (((al.mk b false 0).byteV)==13) (((al.mk b false 0).byteV)==14) (fun K an ao=>?_) ?_
 have bw:=au ao
 exact Pl 1<|L1<|dp D 16<|Pl 2<|ce an _ rfl
 have E:=ud U V j
 refine az<|m2 (bf (((((al.mk b false 0).byteV)==13)||(((al.mk b false 0).byteV)==14))) 8 (ae.old ag E)) fun ap ar r=>?_
 refine ab ar fun ka s t=>?_
 refine nt<|x8 (fun x=>[(6,vP S 0),(7,vI 0),(8,vP g 0),(9,vP i 0)]) (fun(x:al × Array Value × bg) w'=>aD [g,i] ap w'∧ae w' g x.1∧w'.heap[i]? = some (.cells x.2.1 45 (0,0))∧aS (.hi w.heap.size) w' x.2.1.toList x.2.2∧(aq ca 0 c b=bA x.2.2 x.1)) ?_ ?_
 rintro⟨C,cs,M⟩ F ⟨W,aw,aA,aB,aF⟩
 refine eH [(6,vP S 0),(7,vI 0),(8,vP g 0),(9,vP i 0)] ?_
 have X:ae F g C:=aw
 have aG:F.heap[i]? = some (.cells cs 45 (0,0)):=aA
 have u:aS (.hi w.heap.size) F cs.toList M:=aB
 have G:=aS.size u
 have Y:aq ca 0 c b=bA M C:=aF
 refine ak 1<|az<|m2 (et X) fun bx Z H=>nt<|sq<|ak 1<|az<|mq (cl Z)<|?_
 have bz:=ae.len Z
 refine Pl 1<|cy 2<|?_
 have I:=ud B (u1 h (ue E (ui r (u1 W H im)) j) im) T
 have a0:=aM p I
 refine cb ((C.endC.e != 0)) (fun J=>?_) (fun J=>?_)
 have L:=av J
 refine ak 2<|?_
 refine aE (ub I o) mZ fun bB aN aP=>aj 1<|bh<|bV aN (vI C.endC.e)<|?_
 subst s
 rw[Y]
 exact cR L (ud a0 aP y)
 have L:=aJ J
 refine bp<|sg<|?_
 refine L0<|cO (hz:=(by rw[G];exact be)) (aY H (Ne.symm (nb (ae.lt z) h.size j)) aG)<|?_
 refine aE (hz:=(by rw[G];exact be)) (hv:=u.size) (h1:=u.one) (ub I o) (cs) fun bC aQ a1=>aj 1<|rt<|eW 22 G aQ (vI 0)<|?_
 subst s
 rw[Y]
 exact dt L (aS.upd u (us H a1) (ah (ae.safe X _ (by decide)) (ah (aW (ub (ud B (u1 h (ue E (ui r W) j) im) T) o) (by decide)) aC))) (ud a0 a1 y)
 refine ak 1<|?_
 have a:=nb (ae.lt z) h.size j
 have N:=aY r (Ne.symm a) D
 refine aH N 16<|aj 1<|cb ((((al.mk b false 0).byteV)==13)) (fun k=>?_) (fun k=>?_)
 have aR:=am k
 refine ak 2<|az<|mq (dR t)<|?_
 have bD:=ae.len t
 refine Pl 1<|az<|m2 (bf ((decide ((ka.l.length:Int)≤251))) 5 t) fun bE aT a2=>?_
 refine ab aT fun d aU v=>?_
 refine nt<|go<|Pl 2<|az<|mq (dR v)<|?_
 have bF:=ae.len v
 refine az<|tT (c3 (n:=(d.l.length:Int)) v) fun aV aX bG aZ bH bJ b0 b1=>?_
 have bK:=Nat.le_trans (al.bytesR_le d (d.l.length:Int)) (ae.len v)
 refine ab b0 fun b2 b3 b4=>?_
 refine Pl 1<|?_
 have a3:=u1 a2 b1 im
 have O:=aY a3 (Ne.symm a) N
 refine L0<|bI O 14 (mG c 0 0 0 0 0 0 0 0 0 0 0 nS nS (.slice aV ((d.bytesR (d.l.length:Int)).length) aX) nS ((al.mk b false 0).byteV) 0 0 0 0 nS) fun bL b5 P=>nl<|?_
 exact jn (b2,_,(bg.mk c 0 0 0 0 0 0 0 0 0 0 0 [] [] (d.bytesR (d.l.length:Int)) [] ((al.mk b false 0).byteV) 0 0 0 0 [])) ⟨(us a3 P),(ae.upd b4 P (aa a ay) (ah (aW O (by decide)) aC)),b5,⟨_,_,_,_,_,rfl,aI.nil ..,aI.nil ..,(aI.hi_le (aO.upd' aZ P (ah (aW O (by decide)) aC)) (le (le (le (le (le (le p.size B.size) h.size) U.size) V.size) r.size) a2.size) fun _ _ q=>q),aI.nil ..,aI.nil ..,(c8 (by omega))⟩,by subst b3 aU s;unfold aq ca fA iu e9;(try simp only[f,k,bj,dl,dm,dj,dn,dk,reduceIte])<;>rfl⟩
 have aR:=au k
 refine ak 1<|az<|m3 (bM t) fun bN b6 a4 bO=>Pl 1<|?_
 have a5:=aY a4 (Ne.symm a) N
 refine L0<|bI a5 17 (mG c 0 0 0 0 0 0 0 0 0 0 0 nS nS nS nS ((al.mk b false 0).byteV) ka.byteV 0 0 0 nS) fun bP Q a6=>aL 2<|aH Q 17<|Pl 2<|cV 4 [59] 63 59 (decide (1≤ka.byteV)) (decide (ka.byteV≤4)) (fun K b7 b8=>?_) ?_
 have bQ:=of_decide_eq_true b8
 exact Pl 1<|L1<|dp Q 17<|Pl 2<|ce b7 _ rfl
 refine az<|m2 (bf (((decide (1≤ka.byteV))&&(decide (ka.byteV≤4)))) 6 (ae.upd b6 a6 (aa a ay) (ah (aW a5 (by decide)) aC))) fun bR b9 ba=>?_
 refine ab b9 fun R bb bc=>?_
 refine cy 2<|c0<|go<|Pl 1<|az<|m3 (bM bc) fun bS bd bi bT=>Pl 1<|?_
 have a7:=u1 ba bi im
 have a8:=aY a7 (Ne.symm a) Q
 refine L0<|bI a8 20 (mG c 0 0 0 0 0 0 0 0 0 0 0 nS nS nS nS ((al.mk b false 0).byteV) ka.byteV 0 0 R.byteV nS) fun bU bl a9=>nl<|?_
 exact jn ((R.bytesC 1),_,(bg.mk c 0 0 0 0 0 0 0 0 0 0 0 [] [] [] [] ((al.mk b false 0).byteV) ka.byteV 0 0 R.byteV [])) ⟨(ui a4 (ui a6 (us a7 a9))),(ae.upd bd a9 (aa a ay) (ah (aW a8 (by decide)) aC)),bl,⟨_,_,_,_,_,rfl,aI.nil ..,aI.nil ..,aI.nil ..,aI.nil ..,aI.nil ..,(c8 (by omega))⟩,by subst bb s;unfold aq ca fA iu e9;(try simp only[f,k,bj,dl,dm,dj,dn,dk,reduceIte])<;>rfl⟩
theorem oS(hcode:B8 c)(hsl:aO m w (.slice A b.length cp) b)(hb:b.length≤1048576) :
    Calls Tryz.prog 104 #[vI 1,vB c,.slice A b.length cp] w (eo (aq ca 1 c b) w):=by
 obtain⟨hcode1,hcode2⟩:=hcode
 have hln:(b.length:Int)≤1048576:=by omega
 refine en 81 Tryz.func104 rfl<|sg<|aK mZ fun X bm B s h=>aj 1<|sq<|bk<|ax 7<|c0<|ax 3<|cb ((c != 43)) (fun f=>?_) (fun f=>?_)
 have a8:=av f
 refine ak 1<|aE s mZ fun bo a9 ac=>aj 1<|rt<|br<|tr<|bV a9 (vI 4)<|?_
 exact dq (by unfold aq ca fA iu e9;(try simp only[f,bj,dl,dm,dj,dn,dk,reduceIte])<;>rfl) (c7 (ud h ac B))
 have a8:=aJ f
 refine sk<|bn<|tn<|ak 1<|?_
 refine az<|e3 (dA (aO.old hsl h) (by omega)) fun i bq Y D t=>Pl 1<|aL 2<|az<|m3 (bM D) fun bs ad g bt=>Pl 1<|aK mZ fun j bu k af E=>aE af (mG c 0 0 0 0 0 0 0 0 0 0 0 nS nS nS nS ((al.mk b false 0).byteV) 0 0 0 0 nS) fun bv F G=>nt<|sq<|go<|Pl 2<|aH F 16<|Pl 2<|eE 4 [33] 37 33 (((al.mk b false 0).byteV)==13) (((al.mk b false 0).byteV)==14) (fun K ag ai=>?_) ?_
 have bw:=au ai
 exact Pl 1<|L1<|dp F 16<|Pl 2<|ce ag _ rfl
 have H:=ud E G k
 refine az<|m2 (bf (((((al.mk b false 0).byteV)==13)||(((al.mk b false 0).byteV)==14))) 8 (ae.old ad H)) fun an ao o=>?_
 refine ab ao fun ka u v=>?_
 refine nt<|x8 (fun x=>[(6,vP X 0),(7,vI 0),(8,vP i 0),(9,vP j 0)]) (fun(x:al × Array Value × bg) w'=>aD [i,j] an w'∧ae w' i x.1∧w'.heap[j]? = some (.cells x.2.1 45 (0,0))∧aS (.hi w.heap.size) w' x.2.1.toList x.2.2∧(aq ca 1 c b=bA x.2.2 x.1)) ?_ ?_
 rintro⟨C,cs,M⟩ I ⟨Z,ap,ar,aw,aA⟩
 refine eH [(6,vP X 0),(7,vI 0),(8,vP i 0),(9,vP j 0)] ?_
 have a0:ae I i C:=ap
 have aB:I.heap[j]? = some (.cells cs 45 (0,0)):=ar
 have y:aS (.hi w.heap.size) I cs.toList M:=aw
 have J:=aS.size y
 have a1:aq ca 1 c b=bA M C:=aA
 refine ak 1<|az<|m2 (et a0) fun bx a2 L=>nt<|sq<|ak 1<|az<|mq (cl a2)<|?_
 have bz:=ae.len a2
 refine Pl 1<|cy 2<|?_
 have N:=ud t (u1 g (ue H (ui o (u1 Z L im)) k) im) Y
 have a3:=aM h N
 refine cb ((C.endC.e != 0)) (fun O=>?_) (fun O=>?_)
 have P:=av O
 refine ak 2<|?_
 refine aE (ub N s) mZ fun bB aF aG=>aj 1<|bh<|bV aF (vI C.endC.e)<|?_
 subst u
 rw[a1]
 exact cR P (ud a3 aG B)
 have P:=aJ O
 refine bp<|sg<|?_
 refine L0<|cO (hz:=(by rw[J];exact be)) (aY L (Ne.symm (nb (ae.lt D) g.size k)) aB)<|?_
 refine aE (hz:=(by rw[J];exact be)) (hv:=y.size) (h1:=y.one) (ub N s) (cs) fun bC aN a4=>aj 1<|rt<|eW 22 J aN (vI 0)<|?_
 subst u
 rw[a1]
 exact dt P (aS.upd y (us L a4) (ah (ae.safe a0 _ (by decide)) (ah (aW (ub (ud t (u1 g (ue H (ui o Z) k) im) Y) s) (by decide)) aC))) (ud a3 a4 B)
 refine ak 1<|?_
 have a:=nb (ae.lt D) g.size k
 have Q:=aY o (Ne.symm a) F
 refine aH Q 16<|aj 1<|cb ((((al.mk b false 0).byteV)==13)) (fun p=>?_) (fun p=>?_)
 have aP:=am p
 refine ak 2<|az<|mq (dR v)<|?_
 have bD:=ae.len v
 refine Pl 1<|az<|m2 (bf ((decide ((ka.l.length:Int)≤251))) 5 v) fun bE aQ a5=>?_
 refine ab aQ fun d aR z=>?_
 refine nt<|go<|Pl 2<|az<|mq (dR z)<|?_
 have bF:=ae.len z
 refine az<|tT (c3 (n:=(d.l.length:Int)) z) fun aT aU bG aV bH bJ aX aZ=>?_
 have bK:=Nat.le_trans (al.bytesR_le d (d.l.length:Int)) (ae.len z)
 refine ab aX fun b0 b1 b2=>?_
 refine Pl 1<|?_
 have a6:=u1 a5 aZ im
 have R:=aY a6 (Ne.symm a) Q
 refine L0<|bI R 14 (mG c 0 0 0 0 0 0 0 0 0 0 0 nS nS (.slice aT ((d.bytesR (d.l.length:Int)).length) aU) nS ((al.mk b false 0).byteV) 0 0 0 0 nS) fun bL b3 S=>nl<|?_
 exact jn (b0,_,(bg.mk c 0 0 0 0 0 0 0 0 0 0 0 [] [] (d.bytesR (d.l.length:Int)) [] ((al.mk b false 0).byteV) 0 0 0 0 [])) ⟨(us a6 S),(ae.upd b2 S (aa a ay) (ah (aW R (by decide)) aC)),b3,⟨_,_,_,_,_,rfl,aI.nil ..,aI.nil ..,(aI.hi_le (aO.upd' aV S (ah (aW R (by decide)) aC)) (le (le (le (le (le (le h.size t.size) g.size) E.size) G.size) o.size) a5.size) fun _ _ q=>q),aI.nil ..,aI.nil ..,(c8 (by omega))⟩,by subst b1 aR u;unfold aq ca fA iu e9;(try simp only[f,p,bj,dl,dm,dj,dn,dk,reduceIte])<;>rfl⟩
 have aP:=au p
 refine ak 1<|az<|m3 (bM v) fun bN b4 T bO=>Pl 1<|?_
 have a7:=aY T (Ne.symm a) Q
 refine L0<|bI a7 17 (mG c 0 0 0 0 0 0 0 0 0 0 0 nS nS nS nS ((al.mk b false 0).byteV) ka.byteV 0 0 0 nS) fun bP U V=>aL 2<|aH U 17<|Pl 2<|cV 4 [59] 63 59 (decide (1≤ka.byteV)) (decide (ka.byteV≤4)) (fun K b5 b6=>?_) ?_
 have bQ:=of_decide_eq_true b6
 exact Pl 1<|L1<|dp U 17<|Pl 2<|ce b5 _ rfl
 refine az<|m2 (bf (((decide (1≤ka.byteV))&&(decide (ka.byteV≤4)))) 6 (ae.upd b4 V (aa a ay) (ah (aW a7 (by decide)) aC))) fun bR b7 W=>?_
 refine ab b7 fun r b9 ba=>?_
 refine cy 2<|c1<|go<|Pl 1<|?_
 refine az<|m3 (pO (c:=c) (me:=(al.mk b false 0).byteV) (kd:=ka.byteV) ⟨hcode1,hcode2⟩ (b8 (by omega)) (b8 (by omega)) ba (aY W (Ne.symm a) U) a) fun bS bb bc bd=>?_
 obtain⟨bT,bi,bl⟩:=bc
 refine nl<|?_
 exact jn ((fk ka.byteV r).1,_,{ bg.zero with code:=c,mei:=(al.mk b false 0).byteV,kind:=ka.byteV,level:=r.byteV,more:=(o3 r).byteV,next:=(nV r).byteV,objects:=(fk ka.byteV r).2 }) ⟨(ui T (ui V (ui W bd))),bb,bi.1,(aS.lo bl (le (le (le (le (le (le (le (le h.size t.size) g.size) E.size) G.size) o.size) T.size) V.size) W.size)),by subst b9 u;unfold aq ca fA iu e9;(try simp only[f,p,bj,dl,dm,dj,dn,dk,reduceIte])<;>rfl⟩
theorem p3(hcode:B8 c)(hsl:aO m w (.slice A b.length cp) b)(hb:b.length≤1048576)(hd:¬ (dir=0∨dir=1)) :
    Calls Tryz.prog 104 #[vI dir,vB c,.slice A b.length cp] w (eo (aq ca dir c b) w):=by
 obtain⟨hcode1,hcode2⟩:=hcode
 have hln:(b.length:Int)≤1048576:=by omega
 have e0:(dir != 0)=true:=by simp;omega
 have e1:(dir != 1)=true:=by simp;omega
 refine en 81 Tryz.func104 rfl<|sg<|aK mZ fun g h a d e=>aj 1<|sq<|bk<|ak 3<|sy 14 e0<|Pl 4<|nl<|tn<|ct e1<|ak 1<|aE d mZ fun i ej f=>aj 1<|rt<|br<|tr<|bV ej (vI 1)<|?_
 exact dq (by unfold aq ca fA iu e9;(try simp only[e0,e1,bj,dl,dm,dj,dn,dk,reduceIte,hd])<;>rfl) (c7 (ud e f a))
theorem t7{v:Value}    (hc:B8 c)(h:aO m w v b)(hb:b.length≤1048576) :
    Calls Tryz.prog 104 #[.int .i64 dir,.int .u8 c,v] w (eo (aq ca dir c b) w):=by
  obtain⟨A,cp,rfl,_,_⟩:=h.shape
  by_cases h0:dir=0
  · subst h0;exact pa hc h hb
  by_cases h1:dir=1
  · subst h1;exact oS hc h hb
  exact p3 hc h hb (by omega)
open Go.RowKit
def kp (C:al) : al:=(C.bytesC 1).need (C.byteV==6) 9
def ku (C:al) : al:=((kp C).wordsC 1).need ((kp C).wordV != 0) 6
def pA (C:al) : al:=((ku C).wordsC 1).need (decide ((ku C).wordV≤9999)) 7
def dz (C:al) : al:=((pA C).wordsC 1).need ((pA C).wordV != 0) 5
def aP (C:al) : dx:=⟨(kp C).wordV,(ku C).wordV,(pA C).wordV,[]⟩
def eu (s:Int)(C:al) : Int:=s+(2+2*(pA C).wordV)
def eM (s:Int)(C:al) : al:=(dz C).need (decide (eu s C≤245)) 5
def iD (C:al) : al:=(C.bytesC 1).need ((C.byteV%2==1&&decide (3≤C.byteV))&&decide (C.byteV≤((C.bytesC 1).l.length:Int))) 5
def iB (C:al) : al:=((iD C).bytesC 1).need ((iD C).byteV==6) 9
def eT (C:al) : al:=(iB C).wordsC (Int.tdiv (C.byteV-1) 2)
def eI (C:al) : dx:=⟨0,0,0,(iB C).wordsR (Int.tdiv (C.byteV-1) 2)⟩
def ot (C:al) : al:=(dz C).need (decide (2*(pA C).wordV≤((dz C).l.length:Int))) 5
def ju (C:al) : al:=(ot C).wordsC (pA C).wordV
def iQ (C:al) : dx:=⟨(kp C).wordV,(ku C).wordV,(pA C).wordV,(ot C).wordsR (pA C).wordV⟩
def zy (g:Nat)(C':al)(r:dx)(w:World)(e:Ending)(w':World) : Prop:=∃ A c,e = .returned (.agg #[.int .u16 r.file,.int .u16 r.record,.int .u16 r.count,.slice A r.words.length c])∧fg (.hi w.heap.size) w' (.slice A r.words.length c) r.words∧ej r.file∧ej r.record∧ej r.count∧ae w' g C'∧aD [g] w w'
theorem oN(hC:ae w g C) : Calls Tryz.prog 214 #[vP g 0] w (zy g (dz C) (aP C) w):=by
 have hlen:=hC.len
 refine en 34 Tryz.func214 rfl<|sg<|aK #[vW 0,vW 0,vW 0,nS] fun Z a0 c B b=>aL 2<|?_
 refine az<|m3 (bM (ae.old hC b)) fun a1 D d a2=>Pl 1<|az<|m2 (bf ((C.byteV==6)) 9 D) fun a3 E e=>?_
 refine ab E fun ea F G=>?_
 refine ng<|aK #[vW 0,vW 0,vW 0,nS] fun a4 a5 f H h=>aL 1<|?_
 refine az<|m3 (bL (ae.old G h)) fun a6 I i a7=>Pl 1<|?_
 have a:=nb (ae.lt hC) (le (le b.size d.size) e.size) f
 have j:=aY i (Ne.symm a) H
 refine L0<|bI j 0 #[vW ea.wordV,vW 0,vW 0,nS] fun a8 k l=>aL 2<|aH k 0<|Pl 1<|?_
 refine az<|m2 (bf ((ea.wordV != 0)) 6 (ae.upd I l (aa a ay) (ah (aW j (by decide)) aC))) fun a9 J K=>?_
 refine ab J fun ka L M=>?_
 refine aL 1<|az<|m3 (bL M) fun ac N O ad=>Pl 1<|?_
 have m:=u1 K O im
 have n:=aY m (Ne.symm a) k
 refine L0<|bI n 1 #[vW ea.wordV,vW ka.wordV,vW 0,nS] fun af o p=>aL 2<|aH o 1<|Pl 1<|?_
 refine az<|m2 (bf ((decide (ka.wordV≤9999))) 7 (ae.upd N p (aa a ay) (ah (aW n (by decide)) aC))) fun ag P Q=>?_
 refine ab P fun x61 R S=>?_
 refine aL 1<|az<|m3 (bL S) fun ai T U aj=>Pl 1<|?_
 have q:=u1 Q U im
 have r:=aY q (Ne.symm a) o
 refine L0<|bI r 2 #[vW ea.wordV,vW ka.wordV,vW x61.wordV,nS] fun ak s t=>aL 2<|aH s 2<|Pl 1<|?_
 refine az<|m2 (bf ((x61.wordV != 0)) 5 (ae.upd T t (aa a ay) (ah (aW r (by decide)) aC))) fun am V u=>?_
 refine ab V fun x77 W X=>?_
 refine ng<|?_
 refine L0<|cO (aY u (Ne.symm a) s)<|?_
 have v:=u1 d (u1 e (ud h (ui i (ui l (ui m (ui p (ui q (us t u)))))) f) im) im
 have y:=nb (ae.lt hC) lr c
 have z:=aY v (Ne.symm y) B
 refine aE z #[vW ea.wordV,vW ka.wordV,vW x61.wordV,nS] fun an Y A=>p6<|zO Y<|?_
 subst W R L F
 exact⟨_,_,rfl,aI.nil ..,ci (x:=((C.bytesC 1).need (C.byteV==6) 9).wordV) (by omega),ci (x:=((((C.bytesC 1).need (C.byteV==6) 9).wordsC 1).need (((C.bytesC 1).need (C.byteV==6) 9).wordV != 0) 6).wordV) (by omega),ci (x:=((((((C.bytesC 1).need (C.byteV==6) 9).wordsC 1).need (((C.bytesC 1).need (C.byteV==6) 9).wordV != 0) 6).wordsC 1).need (decide (((((C.bytesC 1).need (C.byteV==6) 9).wordsC 1).need (((C.bytesC 1).need (C.byteV==6) 9).wordV != 0) 6).wordV≤9999)) 7).wordV) (by omega),(ae.upd X A (aa y ay) (ah (aW z (by decide)) aC)),(ue b (us v A) c)⟩
theorem sU(hC:ae w g C) : Calls Tryz.prog 217 #[vP g 0] w (zy g (eT C) (eI C) w):=by
 have hlen:=hC.len
 refine en 33 Tryz.func217 rfl<|sg<|aK #[vW 0,vW 0,vW 0,nS] fun Q R k m a=>aL 1<|?_
 refine az<|m3 (bM (ae.old hC a)) fun S b c T=>b6 C.byteV<|Pl 1<|aL 2<|L0<|Oe (vI (Int.tmod C.byteV 2)) (vI (C.byteV%2)) (congrArg (Value.int .i64) (Int.tmod_eq_emod_of_nonneg (by omega)))<|Pl 2<|cV 3 [11] 14 11 ((C.byteV%2)==1) (decide (3≤C.byteV)) (fun K t u=>?_) ?_
 have U:=am u
 exact Pl 3<|ce t _ rfl
 refine Pl 1<|cV 5 [15] 20 15 (((C.byteV%2)==1)&&(decide (3≤C.byteV))) (decide (C.byteV≤(((C.bytesC 1).l.length:Nat) : Int))) (fun K v o=>?_) ?_
 have y:=(aR o).1
 have z:=(aR o).2
 have V:=am y
 have W:=of_decide_eq_true z
 refine Pl 2<|L1<|Oc<|mq (dR b)<|?_
 have X:=ae.len b
 exact Pl 2<|ce v _ rfl
 refine az<|m2 (bf (((((C.byteV%2)==1)&&(decide (3≤C.byteV)))&&(decide (C.byteV≤(((C.bytesC 1).l.length:Nat) : Int))))) 5 b) fun Y A d=>?_
 refine ab A fun x28 B D=>?_
 refine aL 2<|az<|m3 (bM D) fun Z E f a0=>Pl 1<|az<|m2 (bf ((x28.byteV==6)) 9 E) fun a1 F i=>?_
 refine ab F fun x38 G H=>?_
 refine aL 2<|b6 (C.byteV-1)<|L0<|Oe (vI (IntKind.i64.wrap (Int.tdiv (C.byteV-1) 2))) (vI (Int.tdiv (C.byteV-1) 2)) (congrArg (Value.int .i64) (lD (by omega) (by omega)))<|az<|kF (dU (n:=(Int.tdiv (C.byteV-1) 2)) H) fun I J a2 p a3 a4 L M=>?_
 refine ab L fun x48 N O=>?_
 refine Pl 1<|?_
 have q:=u1 c (u1 d (u1 f (u1 i M im) im) im) im
 have r:=nb (ae.lt hC) lr k
 have s:=aY q (Ne.symm r) m
 refine aE s #[vW 0,vW 0,vW 0,.slice I ((x38.wordsR (Int.tdiv (C.byteV-1) 2)).length) J] fun a5 P j=>p6<|zO P<|?_
 subst N G B
 exact⟨_,_,rfl,(aQ.hi (ai p j (fun x hx=>(aa (fun e=>(aG (ag m) (le (le (le c.size d.size) f.size) i.size) p) (e▸hx)) ay)) (fun _ _ h=>h)) (le (le (le (le a.size c.size) d.size) f.size) i.size)),ci (x:=0) (by omega),ci (x:=0) (by omega),ci (x:=0) (by omega),(ae.upd O j (aa r ay) (ah (aW s (by decide)) aC)),(ue a (us q j) k)⟩
theorem yc(hC:ae w g C) : Calls Tryz.prog 219 #[vP g 0] w (zy g (ju C) (iQ C) w):=by
 have hlen:=hC.len
 refine en 22 Tryz.func219 rfl<|sg<|aK #[vW 0,vW 0,vW 0,nS] fun X Y y j f=>aL 1<|?_
 refine az<|Aj (oN (ae.old hC f)) fun I J Z a0 K L M N c=>?_
 obtain⟨a1,a2⟩:=K
 obtain⟨a3,a4⟩:=L
 obtain⟨a5,a6⟩:=M
 refine aK #[vW 0,vW 0,vW 0,nS] fun O a7 k z m=>aE z #[vW ((aP C).file),vW ((aP C).record),vW ((aP C).count),.slice I ((aP C).words.length) J] fun a8 P i=>nt<|sq<|Rg 9 (fun w'=>w'.cell? ⟨O,2,none⟩=some (vW ((aP C).count))) fun a9 d=>?_
 have o:=ub d P
 refine bB (ap o rfl) fun a=>Rt 0 a<|Rt 1 a<|Rl 2 a (fun _ hs=>hs)<|Rr 3 a (vI ((aP C).count)) (fun _ _=>bF (vI (IntKind.i64.wrap ((aP C).count))) (by kernel_rfl) (congrArg (Value.int .i64) (i64_in (by omega))))<|Rr 4 a (vI (2*((aP C).count))) (fun _ _=>bF (vI (IntKind.i64.wrap (2*((aP C).count)))) (by kernel_rfl) (congrArg (Value.int .i64) (IntWalk.i64_in _ (by omega))))<|Rt 5 a<|?_
 have p:=ud m (aM i d) k
 have q:=ae.old N p
 refine R0 6 rfl<|Oc<|mq (dR q)<|?_
 have ac:=ae.len q
 refine bB (ap o rfl) fun Q=>Rt 7 Q<|R0 8 rfl<|Oc<|m2 (bf ((decide ((2*((aP C).count))≤(((dz C).l.length:Nat) : Int)))) 5 q) fun ad R b=>?_
 refine ab R fun x54 S T=>?_
 have r:=nb (ae.lt hC) (le f.size c.size) k
 have s:=aY b (Ne.symm r) o
 refine bB (ap s rfl) fun af=>re<|tn<|ak 2<|aH s 2<|b6 ((aP C).count)<|az<|kF (dU (n:=(aP C).count) T) fun A B aj t am an U u=>Pl 1<|?_
 have D:=aY u (Ne.symm r) s
 refine L0<|bI D 3 #[vW ((aP C).file),vW ((aP C).record),vW ((aP C).count),.slice A ((x54.wordsR ((aP C).count)).length) B] fun ao V E=>ng<|L0<|cO V<|?_
 have F:=u1 c (ue p (ui b (us u E)) k) im
 have v:=nb (ae.lt hC) lr y
 refine aE (aY F (Ne.symm v) j) #[vW ((aP C).file),vW ((aP C).record),vW ((aP C).count),.slice A ((x54.wordsR ((aP C).count)).length) B] fun aq W G=>p6<|zO W<|?_
 subst S
 have H:=us E G
 exact⟨_,_,rfl,(aQ.hi (ai t H (fun x hx=>(aa (fun e=>(aG (ag z) (le (le i.size d.size) b.size) t) (e▸hx)) (aa (fun e=>(aG (ag j) (le (le (le (le c.size m.size) i.size) d.size) b.size) t) (e▸hx)) ay))) (fun _ _ h=>h)) (le (le (le (le (le f.size c.size) m.size) i.size) d.size) b.size)),ci (x:=(aP C).file) (by omega),ci (x:=(aP C).record) (by omega),ci (x:=(aP C).count) (by omega),(ae.upd U H (aa r (aa v ay)) (ah (aW D (by decide)) (ah (aW (aY (u1 c (uz p (u1 b u im)) im) (Ne.symm v) j) (by decide)) aC))),(ue f (us F G) y)⟩
theorem rq(hn:0≤n∧n<256) : Calls Tryz.prog 215 #[vI n] w (bD (.bool ((decide (7≤n)&&decide (n≤245))&&n%7==0)) w):=by
 refine en 14 Tryz.func215 rfl<|ak 1<|aL 3<|cV 3 [5] 8 5 (decide (7≤n)) (decide (n≤245)) (fun K b c=>?_) ?_
 have g:=of_decide_eq_true c
 exact Pl 3<|ce b _ rfl
 refine Pl 1<|cV 4 [9] 13 9 ((decide (7≤n))&&(decide (n≤245))) ((n%7)==0) (fun K d a=>?_) ?_
 have e:=(aR a).1
 have f:=(aR a).2
 have h:=of_decide_eq_true e
 have i:=of_decide_eq_true f
 exact Pl 1<|L1<|Oe (vI (Int.tmod n 7)) (vI (n%7)) (congrArg (Value.int .i64) (Int.tmod_eq_emod_of_nonneg (by omega)))<|Pl 2<|ce d _ rfl
 exact aj 1<|rt<|rr (.bool (((decide (7≤n))&&(decide (n≤245)))&&((n%7)==0)))<|⟨rfl,(aD.refl [] _)⟩
theorem qV(hn:0≤n∧n<256) : Calls Tryz.prog 216 #[vI n] w (bD (.bool (decide (4≤n)&&decide (n≤245))) w):=by
 refine en 9 Tryz.func216 rfl<|ak 1<|aL 3<|cV 3 [5] 8 5 (decide (4≤n)) (decide (n≤245)) (fun K a b=>?_) ?_
 have c:=of_decide_eq_true b
 exact Pl 3<|ce a _ rfl
 exact aj 1<|rt<|rr (.bool ((decide (4≤n))&&(decide (n≤245))))<|⟨rfl,(aD.refl [] _)⟩
theorem qu(hn:0≤n∧n<256) : Calls Tryz.prog 218 #[vI n] w (bD (.bool (decide (9≤n)&&decide (n≤251))) w):=by
 refine en 9 Tryz.func218 rfl<|ak 1<|aL 3<|cV 3 [5] 8 5 (decide (9≤n)) (decide (n≤251)) (fun K a b=>?_) ?_
 have c:=of_decide_eq_true b
 exact Pl 3<|ce a _ rfl
 exact aj 1<|rt<|rr (.bool ((decide (9≤n))&&(decide (n≤251))))<|⟨rfl,(aD.refl [] _)⟩
theorem iJ{e:Int}  : Calls Tryz.prog 158 #[vI e] w (bD (vI (if e==2 then 5 else e)) w):=by
 refine en 6 Tryz.func158 rfl<|ax 1<|sq<|ax 2<|cb ((e==2)) (fun a=>?_) (fun a=>?_)
 have b:=am a
 refine ax 1<|bh<|rr (vI 5)<|?_
 have hs:(if e==2 then (5:Int) else e)=5:=by simp only[a,bj,reduceIte]
 rw[hs]
 exact⟨rfl,(aD.refl [] _)⟩
 have b:=au a
 refine bp<|ax 2<|rt<|rr (vI e)<|?_
 have hs:(if e==2 then (5:Int) else e)=e:=by simp only[a,bj,reduceIte]
 rw[hs]
 exact⟨rfl,(aD.refl [] _)⟩
open Go.RowKit
structure WF (F:Fence) (n:Nat) (P:Program) (ops:Array Oper) (Q:Exit→Act→World→Prop) (l:List Oper) (a:Act) (w:World) : Prop where
  out:wpListIn F n P ops Q l a w
def eL (F:Fence) : Prop:=F=Fence.wide∨∃ l,F=Fence.wide.inRound l
theorem l7:eL Fence.wide:=.inl rfl
theorem ki(l:Nat) : eL (Fence.wide.inRound l):=.inr ⟨l,rfl⟩
theorem eL.fn{F:Fence}(h:eL F)(f:FuncId) : F.fn f:=by
  rcases h with rfl|⟨l,rfl⟩<;>trivial
theorem eL.depth{F:Fence}(h:eL F) : F.depth=none:=by
  rcases h with rfl|⟨l,rfl⟩<;>rfl
section
variable {F:Fence}{n:Nat}{P:Program}{Q:Exit→Act→World→Prop}{a:Act}{w:World}{K:Act→World→Prop}{ops:Array Oper}{rest:List Oper}{o:Oper}{N:Option Tmp}
theorem zY{f:FuncId}{args:Array Value}{R:Ending→World→Prop}(hF:eL F)(h:Calls P f args w R) : CallsIn F n P f args w R:=by
  rcases hF with rfl|⟨l,rfl⟩
  · exact callsIn_wide.2 h
  · exact CallsIn.inRound l (callsIn_wide.2 h)
theorem Bs{row:String}{args:Array Value}{R:Value→World→Prop}(hF:eL F)(h:Rows P row args w R) : RowsIn F n P row args w R:=by
  have h0:RowsIn Fence.wide n P row args w R:=fun c cs _=>let ⟨v,w',r,s⟩:=h c cs; ⟨v,w',r,stepsIn_wide.2 s⟩
  rcases hF with rfl|⟨l,rfl⟩
  · exact h0
  · exact h0
def fH:Op→Bool
  | .defer _=>false
  | _=>true
theorem De(hF:eL F)(hd:fH o.op=true)(h:o.wp P a w K Q) : o.wpIn F n P a w K Q:=by
  refine⟨fun f _=>hF.fn f,?_⟩
  rw[Oper.semAt_eq _ _ _ (fun c hc=>by rw[hc] at hd;cases hd)]
  unfold Oper.wp at h
  have hdep:∀ {p:Prop},F.depth.isSome=true→p:=fun h=>by rw[hF.depth] at h;cases h
  generalize (execOp a.eval o).run P w=r at h ⊢
  cases r with
  | ok x w' =>
    cases x<;>simp only[Oper.upon,Oper.uponIn] at h ⊢
    case value u=>exact h
    case skip=>exact h
    case defer d=>exact h
    case enter f args=>exact⟨hdep,zY hF h⟩
    case row row args=>exact⟨hdep,Bs hF h⟩
  | halt x w' =>
    cases x<;>simp only[Oper.upon,Oper.uponIn] at h ⊢
    case panic u=>exact h
theorem D0{id:Nat}{l:List Oper}(n:Nat)(h:WF Fence.wide n P l.toArray Q l a w) : (Code.region id l.toArray false).wp P Q a w:=wpIn_wide.1 (wpIn_region_lit h.out)
theorem Ct{id:Nat}{l:List Oper}(h:WF F n P l.toArray Q l a w) : (Code.region id l.toArray false).wpIn F n P Q a w:=wpIn_region_lit h.out
theorem Cx(h:Q .normal a w) : WF F n P ops Q [] a w:=⟨h⟩
theorem CH(hF:eL F)(hd:fH o.op=true)(hw:Region.wanted o (yielded ops a.tmps)=true)(h:OW P o a w (WF F n P ops Q rest) Q) : WF F n P ops Q (o :: rest) a w:=by
  refine⟨?_⟩
  unfold wpListIn
  rw[if_pos hw]
  exact De hF hd (ib h fun _ _ h=>h.out)
theorem Cr(hF:eL F)(hw:Region.wanted o (yielded ops a.tmps)=false)(hN:o.dst=N)(h:WF F n P ops Q rest (a.put N undef) w) : WF F n P ops Q (o :: rest) a w:=by
  subst hN
  refine⟨?_⟩
  unfold wpListIn
  rw[if_neg (by simp[hw])]
  exact⟨fun f _=>hF.fn f,h.out⟩
theorem zz{x:Operand}{opds:Array Operand}{ts:Array TypeId}{l:Nat}{r:Loop}(args:Array Value)(hw:Region.wanted o (yielded ops a.tmps)=true)(hN:o.dst=N)(hop:o.op = .call { callee:=.value x,args:=opds,argTypes:=ts })
    (hx:a.eval x = .func (.yield l) #[] #[]) (hargs:opds.map a.eval=args) (hl:w.heap[l]? = some (.loop r)) (hs:args.size=r.params.size)
    (h:RoundIn Fence.wide (n-1) P l r.fn ((r.params.zip args).foldl (fun tmps (t,a)=>tmps.setIfInBounds t a) r.tmps) r.assign r.body w (fun e w'=>∃ v,e = .returned v∧WF Fence.wide n P ops Q rest (a.put N v) w')) : WF Fence.wide n P ops Q (o :: rest) a w:=by
  subst hN
  refine⟨?_⟩
  unfold wpListIn
  rw[if_pos hw]
  refine⟨fun f _=>trivial,?_⟩
  have hrun:(o.semAt Fence.wide.round a.eval).run P w = .ok (.round l r.fn ((r.params.zip args).foldl (fun tmps (t,a)=>tmps.setIfInBounds t a) r.tmps) r.assign r.body) w:=by
    show(execOp a.eval o).run P w=_
    unfold execOp
    simp only[hop,resolve,hx,Deferred.ofValue,Sem.run_bind,Sem.run_pure,Result.andThen_ok,invoke,hargs]
    have:=run_yield (P:=P) (args:=args) hl hs
    simpa using this
  rw[hrun,Oper.uponIn_round]
  refine⟨(by simp[Fence.wide]),h.mono fun e w' hh=>?_⟩
  obtain⟨v,rfl,h2⟩:=hh
  exact h2.out
end
theorem ya{P:Program}{n:Nat}{ops:Array Oper}{Q:Exit→Act→World→Prop}{rest:List Oper}{o:Oper}{a:Act}{w:World}{N:Option Tmp}{x:Operand}{opds:Array Operand}{ts:Array TypeId}{l:Nat}{r:Loop}(v:Value)(p:Tmp)(hw:Region.wanted o (yielded ops a.tmps)=true)(hN:o.dst=N)(hop:o.op = .call { callee:=.value x,args:=opds,argTypes:=ts })
    (hx:a.eval x = .func (.yield l) #[] #[]) (hargs:opds.map a.eval = #[v]) (hl:w.heap[l]? = some (.loop r)) (hp:r.params = #[p])
    (h:RoundIn Fence.wide (n-1) P l r.fn (r.tmps.setIfInBounds p v) r.assign r.body w (fun e w'=>∃ u,e = .returned u∧WF Fence.wide n P ops Q rest (a.put N u) w')) : WF Fence.wide n P ops Q (o :: rest) a w:=by
  refine zz #[v] hw hN hop hx hargs hl (by rw[hp];rfl) ?_
  have:((r.params.zip #[v]).foldl (fun tmps (t,a)=>tmps.setIfInBounds t a) r.tmps)=r.tmps.setIfInBounds p v:=by rw[hp];simp
  rw[this]
  exact h
theorem gi{w:World}{l:Nat}(o:Go.Obj) : aD [l] w (w.putObj l o) :=
  ⟨rfl,rfl,rfl,by simp[World.putObj],fun k hk hn=>World.putObj_heap_other (by simpa using hn)⟩
theorem l4{w:World}{l:Nat}{o:Go.Obj}(o':Go.Obj)(h:w.heap[l]? = some o) : (w.putObj l o').heap[l]? = some o':=World.putObj_heap_same (ag h)
def j7:Go.Obj→Bool
  | .cells ..=>false
  | _=>true
theorem aI.updl{α:Type}{m:Md}{e:TypeId}{sz:Nat}{R:World→α→List Value→Prop}{w w':World}{v:Value}{xs:List α}{l:Nat}{o:Go.Obj}
    (h:aI m e sz R w v xs) (hu:aD [l] w w') (hl:w.heap[l]? = some o) (ho:j7 o=true) (hR:∀ x cs,R w x cs→R w' x cs) : aI m e sz R w' v xs:=by
  obtain⟨A,c,rfl,h1,h2,h0,h3⟩:=h
  refine⟨A,c,rfl,h1,h2,h0,fun hp=>?_⟩
  obtain⟨b,off,cells,t,fr,rfl,hb,ht,hx⟩:=h3 hp
  refine⟨b,off,cells,t,fr,rfl,?_,ht,fun j x hj=>?_⟩
  · refine hu.blk (fun hbs=>?_) hb
    simp at hbs
    subst hbs
    rw[hl] at hb
    injection hb with hb
    subst hb
    cases ho
  · obtain⟨cs,hl,hr,hc⟩:=hx j x hj
    exact⟨cs,hl,hR _ _ hr,hc⟩
theorem aO.updl{m:Md}{w w':World}{v:Value}{xs:List Int}{l:Nat}{o:Go.Obj}(h:aO m w v xs)(hu:aD [l] w w')(hl:w.heap[l]? = some o)(ho:j7 o=true) : aO m w' v xs:=aI.updl h hu hl ho fun _ _ h=>h
theorem fg.updl{m:Md}{w w':World}{v:Value}{xs:List Int}{l:Nat}{o:Go.Obj}(h:fg m w v xs)(hu:aD [l] w w')(hl:w.heap[l]? = some o)(ho:j7 o=true) : fg m w' v xs:=aI.updl h hu hl ho fun _ _ h=>h
theorem bC.updl{m:Md}{w w':World}{l:Nat}{o:Go.Obj}(hu:aD [l] w w')(hl:w.heap[l]? = some o)(ho:j7 o=true)(r:dx)(cs:List Value)(h:bC m w r cs) : bC m w' r cs:=by
  obtain⟨v,h1,h2,h3⟩:=h
  exact⟨v,h1,fg.updl h2 hu hl ho,h3⟩
theorem ae.updl{w w':World}{g:Nat}{c:al}{l:Nat}{o:Go.Obj}(h:ae w g c)(hu:aD [l] w w')(hg:g∉[l])(hl:w.heap[l]? = some o)(ho:j7 o=true) : ae w' g c:=by
  obtain⟨v,hb,hr,hn⟩:=h
  exact⟨v,hu.blk hg hb,hr.updl hu hl ho,hn⟩
theorem wR{n:Nat}{P:Program}{l:Nat}{f:FuncId}{tmps:Array Value}{assign body:Code}{w:World}{r:Loop}{R:Ending→World→Prop}
    (h:assign.wpIn (Fence.wide.inRound l) n P (Exit.then (fun a₁ w₁=>w₁.heap[l]? = some (.loop r)∧r.state = .ready∧∀ w₂,w₂.heap[l]? = some (.loop { r with state:=.busy })→aD [l] w₁ w₂ →
      body.wpIn (Fence.wide.inRound l) n P (Exit.then (fun _ w₃=>∃ r',w₃.heap[l]? = some (.loop r')∧∀ w₄,w₄.heap[l]? = some (.loop { r' with state:=.ready,pending:=none })→aD [l] w₃ w₄→R (.returned (.bool true)) w₄) (fun _ _ _=>False)) a₁ w₂) (fun _ _ _=>False)) { tmps:=tmps,defers:=[] } w) :
    RoundIn Fence.wide n P l f tmps assign body w R:=by
  refine roundIn_of_wpIn trivial (Code.wpIn_mono (fun e a w q=>?_) h)
  cases e with
  | normal =>
    obtain⟨h1,h2,h3⟩:=q
    refine⟨_,run_beginRound h1 h2,Code.wpIn_mono (fun e a w q=>?_) (h3 _ (l4 _ h1) (gi _))⟩
    cases e with
    | normal =>
      obtain⟨r',h4,h5⟩:=q
      exact⟨_,_,run_endRound none h4,h5 _ (l4 _ h4) (gi _)⟩
    | _=>exact q.elim
  | _=>exact q.elim
theorem l6{n:Nat}{P:Program}{l:Nat}{f:FuncId}{tmps:Array Value}{assign body:Code}{w:World}{r:Loop}{R:Ending→World→Prop}
    (hl:w.heap[l]? = some (.loop r))
    (h:assign.wpIn (Fence.wide.inRound l) n P (Exit.then (fun a₁ w₁=>w₁.heap[l]? = some (.loop r)∧r.state = .ready∧∀ w₂,w₂.heap[l]? = some (.loop { r with state:=.busy })→aD [l] w₁ w₂ →
      body.wpIn (Fence.wide.inRound l) n P (Exit.then (fun _ w₃=>∃ r',w₃.heap[l]? = some (.loop r')∧∀ w₄,w₄.heap[l]? = some (.loop { r' with state:=.ready,pending:=none })→aD [l] w₃ w₄→R (.returned (.bool true)) w₄) (fun _ _ _=>False)) a₁ w₂) (fun _ _ _=>False)) { tmps:=tmps,defers:=[] } w) :
    RoundIn Fence.wide n P l f tmps assign body w R:=wR h
theorem wG{P:Program}{Q:Exit→Act→World→Prop}{a:Act}{w:World}{g:Operand}{ps:Array Tmp}{assign body:Code}{f:FuncId}{fn:Func}(cap:Array Value)
    (hx : a.eval g = .func (.func f) #[] cap) (hf : P.funcs[f]? = some fn) (hname : (fn.name == "runtime.NumGoroutine") = false) (hb : fn.body.isSome = true)
    (h:∀ fn0 D l w₂,w.heap.size≤D→w.heap.size≤l→D≠l→w₂.heap[D]? = some (.deferred (some []))→w₂.heap[l]? = some (.loop { state:=.ready,pending:=none,fn:=fn0,tmps:=a.tmps,params:=ps,assign:=assign,body:=body,defers:=D })→aD [] w w₂ →
      Calls P f (#[.func (.yield l) #[] #[]]++cap) w₂ (fun e w₃=>∃ v r',e = .returned v∧w₃.heap[l]? = some (.loop r')∧r'.state≠.busy∧r'.pending=none∧∀ w₄,aD [l] w₃ w₄→Q .normal { a with defers:={ target:=.collected D,args:=#[] } :: a.defers } w₄)) :
    (Code.rangeFunc g ps assign body).wp P Q a w:=by
  refine(wpIn_wide (n:=9)).1 (wpIn_rangeFunc fun fn0 _=>?_)
  have h1 : fn.name ≠ "runtime.NumGoroutine" := by simpa using hname
  obtain⟨cd,hcd⟩:=Option.isSome_iff_exists.1 hb
  refine⟨w.heap.size+1,[{ target:=.collected w.heap.size,args:=#[] }],((w.alloc (.deferred (some []))).alloc (.loop { state:=.ready,pending:=none,fn:=fn0,tmps:=a.tmps,params:=ps,assign:=assign,body:=body,defers:=w.heap.size })),
    { target:=.fn (.func f) cap,args:=#[]++#[.func (.yield (w.heap.size+1)) #[] #[]] },((w.alloc (.deferred (some []))).alloc (.loop { state:=.ready,pending:=none,fn:=fn0,tmps:=a.tmps,params:=ps,assign:=assign,body:=body,defers:=w.heap.size })),
    f,#[.func (.yield (w.heap.size+1)) #[] #[]]++cap,((w.alloc (.deferred (some []))).alloc (.loop { state:=.ready,pending:=none,fn:=fn0,tmps:=a.tmps,params:=ps,assign:=assign,body:=body,defers:=w.heap.size })),run_enterLoop_outer fn0 a.tmps ps assign body,?_,fun _ _=>trivial,?_,by simp[Fence.wide],?_⟩
  · unfold resolve
    simp only[rangeCall,hx,Deferred.ofValue,Sem.run_pure,List.map_toArray,List.map_cons,List.map_nil]
    rfl
  · simp[invoke,callFunc,hf,h1,hcd]
  · have hD:((w.alloc (.deferred (some []))).alloc (.loop { state:=.ready,pending:=none,fn:=fn0,tmps:=a.tmps,params:=ps,assign:=assign,body:=body,defers:=w.heap.size })).heap[w.heap.size]? = some (.deferred (some [])):=yS (eg w _) _
    have hl:((w.alloc (.deferred (some []))).alloc (.loop { state:=.ready,pending:=none,fn:=fn0,tmps:=a.tmps,params:=ps,assign:=assign,body:=body,defers:=w.heap.size })).heap[w.heap.size+1]? = some (.loop { state:=.ready,pending:=none,fn:=fn0,tmps:=a.tmps,params:=ps,assign:=assign,body:=body,defers:=w.heap.size }):=by
      have:=eg (w.alloc (.deferred (some []))) (.loop { state:=.ready,pending:=none,fn:=fn0,tmps:=a.tmps,params:=ps,assign:=assign,body:=body,defers:=w.heap.size })
      simpa using this
    refine callsIn_wide.2 ((h fn0 w.heap.size (w.heap.size+1) _ (Nat.le_refl _) (by omega) (by omega) hD hl (((aD.refl [] w).alloc _).alloc _)).mono ?_)
    rintro e w₃ ⟨v,r',rfl,h3,h4,h5,h6⟩
    refine⟨_,_,run_endLoop h3 h4,?_⟩
    rw[h5]
    exact h6 _ (gi _)
theorem oV{P:Program}{f:FuncId}{fn:Func}{c:Code}{args:Array Value}{w:World}{R:Ending→World→Prop}(hf:P.funcs[f]? = some fn)(hb:fn.body=some c)
    (h:c.wp P (bodyPostM Fence.wide 9 P fn R) { tmps:=args++Array.replicate (fn.ntmps-args.size) undef,defers:=[] } w) : Calls P f args w R :=
  callsIn_wide.1 (callsIn_of_wp_marks hf hb trivial (wpIn_wide.2 h) rfl)
theorem An{P:Program}{fn:Func}{R:Ending→World→Prop}{a:Act}{w:World}{D:Nat}(hd:a.defers=[{ target:=.collected D,args:=#[] }])(hD:w.heap[D]? = some (.deferred (some [])))
    (h:∀ w',aD [D] w w'→∃ v,(results fn a.tmps).run P w' = .ok v w'∧R (.returned v) w') : bodyPostM Fence.wide 9 P fn R .ret a w:=by
  show LeavesInM Fence.wide 9 P fn a.tmps R a.defers .returning w
  rw[hd]
  exact⟨by simp,.inl ⟨D,_,rfl,run_takeDeferred hD,h _ (gi _)⟩⟩
theorem yo{P:Program}{fn:Func}{R:Ending→World→Prop}{a:Act}{w:World}(hd:a.defers=[])(h:∃ v,(results fn a.tmps).run P w = .ok v w∧R (.returned v) w) : bodyPostM Fence.wide 9 P fn R .ret a w:=by
  show LeavesInM Fence.wide 9 P fn a.tmps R a.defers .returning w
  rw[hd]
  exact h
open Go.RowKit
structure GF (E:Fence) (m:Nat) (P:Program) (ops:Array Oper) (Q:Exit→Act→World→Prop) (l:List Oper) (n:Nat) (D:List Deferred) (F:Fr) (w:World) : Prop where
  out:∀ a,Ag n D F a→WF E m P ops Q l a w
structure GI (E:Fence) (m:Nat) (P:Program) (c:Code) (Q:Exit→Act→World→Prop) (n:Nat) (D:List Deferred) (F:Fr) (w:World) : Prop where
  out:∀ a,Ag n D F a→c.wpIn E m P Q a w
section
variable {E:Fence}{m:Nat}{P:Program}{Q:Exit→Act→World→Prop}{n:Nat}{D:List Deferred}{F:Fr}{w:World}{ops:Array Oper}{rest l:List Oper}{d:Option Tmp}{op:Op}{t:TypeId}{s:String}{af:Array Edge}{gu:Option (Nat × Bool)}{x y c:Code}{id:Nat}
theorem C9(m:Nat)(h:GF Fence.wide m P l.toArray Q l n D F w) : GC P (.region id l.toArray false) Q n D F w:=⟨fun a ha=>D0 m (h.out a ha)⟩
theorem AI(h:GF E m P l.toArray Q l n D F w) : GI E m P (.region id l.toArray false) Q n D F w:=⟨fun a ha=>Ct (h.out a ha)⟩
theorem Cg(h:GI E m P c (Exit.inBlock id Q) n D F w) : GI E m P (.block id c) Q n D F w:=⟨fun a ha=>wpIn_block (h.out a ha)⟩
theorem ur(h:GQ Q .normal n D F w) : GF E m P ops Q [] n D F w:=⟨fun a ha=>Cx (h.out a ha)⟩
theorem CE(hE:eL E)(h:OG P ⟨d,op,t,s,af,gu⟩ n D F w (GF E m P ops Q rest n D) Q)(hw:lv ops F gu=(true,true))(hd:fH op=true) : GF E m P ops Q (⟨d,op,t,s,af,gu⟩ :: rest) n D F w :=
  ⟨fun a ha=>CH hE hd (fq ha hw) (h.out a ha _ fun F' w' a' k ha'=>k.out a' ha')⟩
theorem CK(hE:eL E){o:Oper}(h:GF E m P ops Q rest n D (q8 P ops w F o) w)(hc:pX P ops w n 1 (o :: rest) F=qv P ops w 1 (o :: rest) F)(hd:fH o.op=true) : GF E m P ops Q (o :: rest) n D F w:=by
  simp only[pX,qv,List.cons.injEq,Prod.mk.injEq,Bool.and_eq_true] at hc
  obtain⟨⟨⟨h1,h2,h3⟩,h4⟩,h5⟩:=hc
  refine⟨fun a ha=>?_⟩
  cases hon:(lv ops F o.guard).2 with
  | true =>
    rw[hon] at h3 h4
    simp only[cond_true] at h3 h4
    have hst:q8 P ops w F o=pt o.dst (vo P w F o) F:=by simp[q8,hon]
    rw[hst] at h
    exact CH hE hd (fq ha (Prod.ext h1 hon)) (ft (N:=o.dst) (vo P w F o) rfl (by rw[← i9 ha h3];exact h4) (h.out _ (ha.put h2)))
  | false =>
    have hst:q8 P ops w F o=pt o.dst undef F:=by simp[q8,hon]
    rw[hst] at h
    exact Cr (N:=o.dst) hE (fq ha (Prod.ext h1 hon)) rfl (h.out _ (ha.put h2))
theorem F0(h:OG P ⟨d,op,t,s,af,gu⟩ n D F w (GF Fence.wide m P ops Q rest n D) Q)(hw:lv ops F gu=(true,true):=by kernel_rfl)(hd:fH op=true:=by kernel_rfl) : GF Fence.wide m P ops Q (⟨d,op,t,s,af,gu⟩ :: rest) n D F w:=CE l7 h hw hd
theorem lU{q:Nat}(h:OG P ⟨d,op,t,s,af,gu⟩ n D F w (GF (Fence.wide.inRound q) m P ops Q rest n D) Q)(hw:lv ops F gu=(true,true):=by kernel_rfl)(hd:fH op=true:=by kernel_rfl) : GF (Fence.wide.inRound q) m P ops Q (⟨d,op,t,s,af,gu⟩ :: rest) n D F w:=CE (ki _) h hw hd
theorem Fp{o:Oper}(h:GF Fence.wide m P ops Q rest n D (q8 P ops w F o) w)(hc:pX P ops w n 1 (o :: rest) F=qv P ops w 1 (o :: rest) F:=by kernel_rfl)(hd:fH o.op=true:=by kernel_rfl) : GF Fence.wide m P ops Q (o :: rest) n D F w:=CK l7 h hc hd
theorem AJ{q:Nat}{o:Oper}(h:GF (Fence.wide.inRound q) m P ops Q rest n D (q8 P ops w F o) w)(hc:pX P ops w n 1 (o :: rest) F=qv P ops w 1 (o :: rest) F:=by kernel_rfl)(hd:fH o.op=true:=by kernel_rfl) : GF (Fence.wide.inRound q) m P ops Q (o :: rest) n D F w:=CK (ki _) h hc hd
theorem BV(j:Nat)(e:Bool)(ht:e=true→GF E m P ops Q l n D ((j,.bool true) :: F) w)(hf:e=false→GF E m P ops Q l n D ((j,.bool false) :: F) w)(hv:lk F j=some (.bool e):=by kernel_rfl) : GF E m P ops Q l n D F w:=by
  refine⟨fun a ha=>?_⟩
  have key:∀ b,e=b→Ag n D ((j,.bool b) :: F) a:=fun b hb=>⟨ha.sz,ha.df,fun i v hi=>by
    rcases gp hi with⟨rfl,rfl⟩|⟨_,h2⟩
    · rw[← hb];exact ha.at_ _ _ hv
    · exact ha.at_ _ _ h2⟩
  rcases g8 e with q|q
  · exact(ht q).out a (key _ q)
  · exact(hf q).out a (key _ q)
theorem Fy{x:Operand}{opds:Array Operand}{ts:Array TypeId}{q:Nat}{r:Loop}(v:Value)(p:Tmp)(hl:w.heap[q]? = some (.loop r))(hp:r.params = #[p])
    (h:RoundIn Fence.wide (m-1) P q r.fn (r.tmps.setIfInBounds p v) r.assign r.body w (fun e w'=>∃ u,e = .returned u∧GF Fence.wide m P ops Q rest n D (pt d u F) w'))
    (hw:lv ops F gu=(true,true):=by kernel_rfl) (hx:ee F x=some (.func (.yield q) #[] #[]):=by kernel_rfl) (ha:opds.toList.map (ee F)=[some v]:=by kernel_rfl) (hd:f8 n d=true:=by kernel_rfl) :
    GF Fence.wide m P ops Q (⟨d,.call { callee:=.value x,args:=opds,argTypes:=ts },t,s,af,gu⟩ :: rest) n D F w :=
  ⟨fun a hag=>ya v p (fq hag hw) rfl rfl (hag.ev hx) (by apply Array.toList_inj.1;rw[Array.toList_map];exact kH (vs:=[v]) hag ha) hl hp (h.mono fun e w' hh=>by
    obtain⟨u,rfl,hk⟩:=hh
    exact⟨u,rfl,hk.out _ (hag.put hd)⟩)⟩
theorem qP{g:Operand}{ps:Array Tmp}{assign body:Code}{f:FuncId}(cap:Array Value)
    (h:∀ a,Ag n D F a→∀ fn0 D' q w₂,w.heap.size≤D'→w.heap.size≤q→D'≠q→w₂.heap[D']? = some (.deferred (some []))→w₂.heap[q]? = some (.loop { state:=.ready,pending:=none,fn:=fn0,tmps:=a.tmps,params:=ps,assign:=assign,body:=body,defers:=D' })→aD [] w w₂ →
      Calls P f (#[.func (.yield q) #[] #[]]++cap) w₂ (fun e w₃=>∃ v r',e = .returned v∧w₃.heap[q]? = some (.loop r')∧r'.state≠.busy∧r'.pending=none∧∀ w₄,aD [q] w₃ w₄→GQ Q .normal n ({ target:=.collected D',args:=#[] } :: D) F w₄))
    (hx:ee F g=some (.func (.func f) #[] cap):=by kernel_rfl) (hf:zM P f=some (false,true):=by kernel_rfl) : GC P (.rangeFunc g ps assign body) Q n D F w:=by
  obtain⟨fn,h1,h2,h3⟩:=jf hf
  refine⟨fun a ha=>wG cap (ha.ev hx) h1 h2 h3 fun fn0 D' q w₂ g1 g2 g3 g4 g5 g6=>(h a ha fn0 D' q w₂ g1 g2 g3 g4 g5 g6).mono fun e w₃ hh=>?_⟩
  obtain⟨v,r',k1,k2,k3,k4,k5⟩:=hh
  exact⟨v,r',k1,k2,k3,k4,fun w₄ hu=>(k5 w₄ hu).out _ ⟨ha.sz,by rw[ha.df],ha.at_⟩⟩
theorem Cl{a:Act}(ha:Ag n D F a)(p:Tmp){v:Value}(h:GI E m P c Q n [] ((p,v) :: F) w)(hp:Nat.blt p n=true:=by kernel_rfl) : c.wpIn E m P Q { tmps:=a.tmps.setIfInBounds p v,defers:=[] } w:=by
  have h0:Ag n [] F { tmps:=a.tmps,defers:=[] }:=⟨ha.sz,rfl,ha.at_⟩
  exact h.out _ (h0.put (d:=some p) hp)
theorem Cw{r:Loop}{q:Nat}{c:Code}{Qb:Exit→Act→World→Prop}(h1:w.heap[q]? = some (.loop r))(h2:r.state = .ready)(h:∀ w₂,w₂.heap[q]? = some (.loop { r with state:=.busy })→aD [q] w w₂→GI E m P c Qb n D F w₂) :
    GQ (Exit.then (fun a₁ w₁=>w₁.heap[q]? = some (.loop r)∧r.state = .ready∧∀ w₂,w₂.heap[q]? = some (.loop { r with state:=.busy })→aD [q] w₁ w₂→c.wpIn E m P Qb a₁ w₂) Q) .normal n D F w:=⟨fun a ha=>⟨h1,h2,fun w₂ k1 k2=>(h w₂ k1 k2).out a ha⟩⟩
theorem BY{r:Loop}{q:Nat}{Z:World→Prop}(h1:w.heap[q]? = some (.loop r))(h:∀ w₄,w₄.heap[q]? = some (.loop { r with state:=.ready,pending:=none })→aD [q] w w₄→Z w₄) :
    GQ (Exit.then (fun _ w₃=>∃ r',w₃.heap[q]? = some (.loop r')∧∀ w₄,w₄.heap[q]? = some (.loop { r' with state:=.ready,pending:=none })→aD [q] w₃ w₄→Z w₄) Q) .normal n D F w:=⟨fun a ha=>⟨r,h1,h⟩⟩
end
section
variable {P:Program}{n:Nat}{F:Fr}{w:World}{fn:Func}{R:Ending→World→Prop}
theorem AF{f:FuncId}{c:Code}{args:List Value}{w:World}(n:Nat)(hf:P.funcs[f]? = some fn)(hb:fn.body=some c)
    (h:GC P c (bodyPostM Fence.wide 9 P fn R) n [] (vy 0 args) w) (hn:args.length+(fn.ntmps-args.length)=n:=by kernel_rfl) : Calls P f args.toArray w R:=by
  subst hn
  exact oV hf hb (by simpa using h.out _ (CT (args:=args) (m:=fn.ntmps-args.length)))
theorem AE{D:Nat}(hD:w.heap[D]? = some (.deferred (some [])))(h:∀ w',aD [D] w w'→GQ (fun _ a w'=>∃ v,(results fn a.tmps).run P w' = .ok v w'∧R (.returned v) w') .ret n [{ target:=.collected D,args:=#[] }] F w') : GQ (bodyPostM Fence.wide 9 P fn R) .ret n [{ target:=.collected D,args:=#[] }] F w :=
  ⟨fun a ha=>An ha.df hD fun w' hu=>(h w' hu).out a ha⟩
theorem rx{D:List Deferred}{g:Nat}{cs:Array Value}{t:TypeId}{fr:Nat × Nat}(B:w.heap[g]? = some (.cells cs t fr))(u:Value)(h:R (.returned (.tuple #[.agg cs,u])) w)(hc:AH P fn.results F=some (some (.pointer (some ⟨g,0,none⟩)),some u,some true,some cs.size):=by kernel_rfl) : GQ (fun _ a w'=>∃ v,(results fn a.tmps).run P w' = .ok v w'∧R (.returned v) w') .ret n D F w :=
  ⟨fun a ha=>⟨_,kE ha B rfl hc,h⟩⟩
theorem ry{g:Nat}{cs:Array Value}{t:TypeId}{fr:Nat × Nat}(B:w.heap[g]? = some (.cells cs t fr))(u:Value)(h:R (.returned (.tuple #[.agg cs,u])) w)(hc:AH P fn.results F=some (some (.pointer (some ⟨g,0,none⟩)),some u,some true,some cs.size):=by kernel_rfl) : GQ (bodyPostM Fence.wide 9 P fn R) .ret n [] F w :=
  ⟨fun a ha=>yo ha.df ⟨_,kE ha B rfl hc,h⟩⟩
end
open Go.RowKit
def zX (mk:Nat→Value)(w:World)(e:Ending)(w':World) : Prop:=∃ gs,e = .returned (.tuple #[mk gs,.bool true])∧w.heap.size≤gs∧w'.heap[gs]? = some (.cells #[.int .i64 0] 3 (0,0))∧aD [] w w'
def Cy (gs:Nat) : Value:=.agg #[.func (.func 215) #[] #[],.func (.func 213) #[] #[.pointer (some ⟨gs,0,none⟩)]]
def Cj (gs:Nat) : Value:=.agg #[.func (.func 216) #[] #[],.func (.func 217) #[] #[]]
def Ca (gs:Nat) : Value:=.agg #[.func (.func 218) #[] #[],.func (.func 219) #[] #[]]
theorem xR{w:World}:Calls Tryz.prog 153 #[vI 0,vB 20] w (zX Cy w):=by
 refine en 27 Tryz.func153 rfl<|sg<|aK #[.nilFunc,.nilFunc] fun m n g b c=>Pl 1<|ng<|aK #[vI 0] fun d o a h i=>L0<|bI h 0 #[vI 0] fun p j k=>nt<|sq<|go<|aj 2<|sq<|bk<|ax 7<|c1<|ak 2<|?_
 have e:=ud i k a
 refine aE (ub e b) #[.func (.func 215) #[] #[],.func (.func 213) #[] #[vP d 0]] fun q l f=>aj 1<|rt<|br<|tr<|bV l (.bool true)<|?_
 exact⟨d,rfl,(Nat.le_trans c.size a),(aY f (Ne.symm (nb (ag b) lr a)) j),(ud c (uz e f) g)⟩
theorem xc{w:World}:Calls Tryz.prog 153 #[vI 1,vB 20] w (zX Cj w):=by
 refine en 27 Tryz.func153 rfl<|sg<|aK #[.nilFunc,.nilFunc] fun m n f b c=>Pl 1<|ng<|aK #[vI 0] fun g o a h i=>L0<|bI h 0 #[vI 0] fun p j k=>nt<|sq<|go<|aj 2<|sq<|bk<|ax 7<|c0<|ax 3<|c1<|ak 1<|?_
 have d:=ud i k a
 refine aE (ub d b) #[.func (.func 216) #[] #[],.func (.func 217) #[] #[]] fun q l e=>aj 1<|rt<|br<|tr<|bV l (.bool true)<|?_
 exact⟨g,rfl,(Nat.le_trans c.size a),(aY e (Ne.symm (nb (ag b) lr a)) j),(ud c (uz d e) f)⟩
theorem xx{dir:Int}{w:World}:Calls Tryz.prog 153 #[vI dir,vB 21] w (zX Ca w):=by
 refine en 27 Tryz.func153 rfl<|sg<|aK #[.nilFunc,.nilFunc] fun m n f b c=>Pl 1<|ng<|aK #[vI 0] fun g o a h i=>L0<|bI h 0 #[vI 0] fun p j k=>nt<|sq<|go<|aj 2<|sq<|bk<|ax 7<|c0<|ax 3<|c0<|ax 3<|c1<|ak 1<|?_
 have d:=ud i k a
 refine aE (ub d b) #[.func (.func 218) #[] #[],.func (.func 219) #[] #[]] fun q l e=>aj 1<|rt<|br<|tr<|bV l (.bool true)<|?_
 exact⟨g,rfl,(Nat.le_trans c.size a),(aY e (Ne.symm (nb (ag b) lr a)) j),(ud c (uz d e) f)⟩
theorem oB{dir x:Int}{w:World}(n1:(x==20)=false)(n2:(x==21)=false) : Calls Tryz.prog 153 #[vI dir,vB x] w (bD (.tuple #[.agg #[.nilFunc,.nilFunc],.bool false]) w):=by
 refine en 27 Tryz.func153 rfl<|sg<|aK #[.nilFunc,.nilFunc] fun k l b c d=>Pl 1<|ng<|aK #[vI 0] fun m n e f g=>L0<|bI f 0 #[vI 0] fun o p h=>nt<|sq<|go<|aj 2<|sq<|bk<|ak 3<|sy 12 n1<|aj 4<|c0<|ax 3<|cf n1<|ax 3<|cf n2<|sk<|bn<|tn<|ak 1<|?_
 have a:=ud g h e
 refine aE (ub a c) #[.nilFunc,.nilFunc] fun q i j=>aj 1<|rt<|bV i (.bool false)<|?_
 exact⟨rfl,(ud d (uz a j) b)⟩
theorem l9{gb:Nat}{f:Fn}{x y:Array Value}{w:World}:Calls Tryz.prog 157 #[vP gb 0,.func f x y] w (fun e w'=>∃ b1 b2,e = .returned (.func (.func 220) #[] #[vP b1 0,vP b2 0])∧w.heap.size≤b1∧w.heap.size≤b2∧b1≠b2 ∧
      w'.heap[b1]? = some (.cells #[vP gb 0] 164 (0,0))∧w'.heap[b2]? = some (.cells #[.func f x y] 178 (0,0))∧aD [] w w'):=by
 refine en 6 Tryz.func157 rfl<|sg<|L0<|dK #[vP gb 0] fun a k i b c=>L0<|dK #[.func f x y] fun d l g j h=>Pl 1<|cy 2<|rt<|rr (.func (.func 220) #[] #[vP a 0,vP d 0])<|?_
 exact⟨a,d,rfl,i,(Nat.le_trans c.size g),(nb (ag b) lr g),(ub h b),j,(aM c h)⟩
theorem um{g gs:Nat}{s:Int}{C:al}{w:World}(hC:ae w g C)(hS:w.heap[gs]? = some (.cells #[vI s] 3 (0,0)))(hne:g≠gs)(hs:0≤s∧s≤1000000000000) :
    Calls Tryz.prog 213 #[vP g 0,vP gs 0] w (fun e w'=>∃ A c,e = .returned (.agg #[vW (aP C).file,vW (aP C).record,vW (aP C).count,.slice A (aP C).words.length c])∧fg (.hi w.heap.size) w' (.slice A (aP C).words.length c) (aP C).words∧ej (aP C).file∧ej (aP C).record∧ej (aP C).count∧ae w' g (eM s C)∧w'.heap[gs]? = some (.cells #[vI (eu s C)] 3 (0,0))∧aD [g,gs] w w'):=by
 refine en 19 Tryz.func213 rfl<|sg<|aK #[vW 0,vW 0,vW 0,nS] fun T U d j a=>aL 1<|?_
 refine az<|Aj (oN (ae.old hC a)) fun k l V I J K L m f=>?_
 obtain⟨W,X⟩:=J
 obtain⟨Y,Z⟩:=K
 obtain⟨a0,a1⟩:=L
 refine aK #[vW 0,vW 0,vW 0,nS] fun a2 a3 h M N=>aE M #[vW ((aP C).file),vW ((aP C).record),vW ((aP C).count),.slice k ((aP C).words.length) l] fun a4 n O=>ng<|?_
 have o:=ud N O h
 have p:=aM f o
 have r:=aY (uz a p) (Ne.symm hne) hS
 refine aH r 0<|Pl 1<|aH n 2<|b6 ((aP C).count)<|b6 (2*((aP C).count))<|b6 (2+(2*((aP C).count)))<|b6 (s+(2+(2*((aP C).count))))<|L0<|bI r 0 #[vI (s+(2+(2*((aP C).count))))] fun a5 t u=>aL 1<|aH t 0<|Pl 1<|?_
 have v:=uz o u
 have b:=uz a f
 have y:=aY b (Ne.symm hne) hS
 refine az<|m2 (bf ((decide ((s+(2+(2*((aP C).count))))≤245))) 5 (ae.upd m v (aa hne ay) (ah (aW y (by decide)) aC))) fun a6 P z=>?_
 refine ab P fun x47 Q R=>?_
 refine ng<|?_
 have B:=us u z
 refine L0<|cO (aD.blk B (aa (Ne.symm (nb (ag hS) b.size h)) (aa (Ne.symm (nb (ae.lt hC) b.size h)) ay)) n)<|?_
 have i:=nb (ae.lt hC) lr d
 have D:=nb (ag hS) lr d
 have E:=aD.blk (ui p B) (aa (Ne.symm D) (aa (Ne.symm i) ay)) j
 refine aE E #[vW ((aP C).file),vW ((aP C).record),vW ((aP C).count),.slice k ((aP C).words.length) l] fun a7 S F=>p6<|zO S<|?_
 subst Q
 have G:=us z F
 have H:=us v G
 exact⟨_,_,rfl,(aI.hi_le (fg.upd' I H (ah (aW y (by decide)) (ah (ae.safe m _ (by decide)) (ah (aW (aY f (Ne.symm i) j) (by decide)) aC)))) a.size fun _ _ q=>q),ci (x:=(aP C).file) (by omega),ci (x:=(aP C).record) (by omega),ci (x:=(aP C).count) (by omega),(ae.upd R F (aa i ay) (ah (aW E (by decide)) aC)),(aD.blk G (aa (Ne.symm hne) (aa D ay)) t),(ut (aD.mono (S':=[g,gs]) b (ac im aA)) H (ac im (ac im (ac (nr d) aA))))⟩
def fP (c:Int)(v:Value) : Array Value:=#[.int .u8 c,.int .u8 0,.int .u16 0,.int .u16 0,.int .u16 0,.int .u16 0,.int .u16 0,.int .u16 0,.int .u16 0,.int .u16 0,.int .u16 0,.int .u16 0,gT,gT,gT,v,.int .u8 0,.int .u8 0,.int .u8 0,.int .u8 0,.int .u8 0,gT]
structure JR (w0:World) (gb gs gm l:Nat) (c:Int) (r:Loop) (C:al) (s:Int) (L:List dx) (A:Option Addr) (cp:Nat) (W:World) : Prop where
  u:aD [gb,gs,gm,l] w0 W
  hC:ae W gb C
  hS:W.heap[gs]? = some (.cells #[.int .i64 s] 3 (0,0))
  hm:W.heap[gm]? = some (.cells (fP c (.slice A L.length cp)) 45 (0,0))
  ho:aQ w0.heap.size 98 4 (bC (.hi w0.heap.size)) W (.slice A L.length cp) L
  hl:W.heap[l]? = some (.loop r)
def cU (s:Int)(C:al) : Int × al × dx:=(eu s C,eM s C,aP C)
def bR (s:Int)(C:al) : Int × al × dx:=(s,eT C,eI C)
def cP (s:Int)(C:al) : Int × al × dx:=(s,ju C,iQ C)
def aT (one:Int→al→Int × al × dx) : Nat→Int→al→List dx→al × List dx
  | 0,_,C,L=>(C,L)
  | n+1,s,C,L =>
    if decide (0<(C.l.length:Int))&&C.e==0 then
      (if (one s C).2.1.e != 0 then ((one s C).2.1,L) else aT one n (one s C).1 (one s C).2.1 (L++[(one s C).2.2]))
    else (C,L)
theorem iT(C:al)(n:Int) : (C.bytesC n).l.length≤C.l.length:=by
  unfold al.bytesC
  split
  · unfold al.need
    split<;>simp
  · simp
theorem l1(C:al)(h:0<C.l.length) : (C.bytesC 1).l.length<C.l.length:=by
  unfold al.bytesC
  split
  · unfold al.need
    split<;>simpa using h
  · simp
    omega
theorem ey(C:al)(b:Bool)(e:Int) : (C.need b e).l.length=C.l.length:=by
  unfold al.need
  split<;>rfl
theorem eK(C:al)(n:Int) : (C.wordsC n).l.length≤C.l.length:=by
  unfold al.wordsC
  split<;>exact iT ..
theorem pk(C:al)(h:0<C.l.length) : (dz C).l.length<C.l.length:=by
  have h1:(kp C).l.length<C.l.length:=by unfold kp;rw[ey];exact l1 C h
  have h2:(ku C).l.length≤(kp C).l.length:=by unfold ku;rw[ey];exact eK ..
  have h3:(pA C).l.length≤(ku C).l.length:=by unfold pA;rw[ey];exact eK ..
  have h4:(dz C).l.length≤(pA C).l.length:=by unfold dz;rw[ey];exact eK ..
  omega
theorem rO(s:Int)(C:al)(h:0<C.l.length) : (cU s C).2.1.l.length<C.l.length:=by
  show(eM s C).l.length<_
  unfold eM
  rw[ey]
  exact pk C h
theorem lc(s:Int)(C:al)(h:0<C.l.length) : (bR s C).2.1.l.length<C.l.length:=by
  show(eT C).l.length<_
  have h1:(iD C).l.length<C.l.length:=by unfold iD;rw[ey];exact l1 C h
  have h2:(iB C).l.length≤(iD C).l.length:=by unfold iB;rw[ey];exact iT ..
  have h3:(eT C).l.length≤(iB C).l.length:=by unfold eT;exact eK ..
  omega
theorem s1(s:Int)(C:al)(h:0<C.l.length) : (cP s C).2.1.l.length<C.l.length:=by
  show(ju C).l.length<_
  have h1:=pk C h
  have h2:(ot C).l.length=(dz C).l.length:=by unfold ot;rw[ey]
  have h3:(ju C).l.length≤(ot C).l.length:=by unfold ju;exact eK ..
  omega
theorem gn(one:Int→al→Int × al × dx)(n:Nat)(s:Int)(C:al)(L:List dx)(h:(decide (0<(C.l.length:Int))&&C.e==0)=false) : aT one n s C L=(C,L):=by
  cases n with
  | zero=>rfl
  | succ n=>simp only[aT,h,Bool.false_eq_true,if_false]
open Go.RowKit
def dO (fn0:FuncId)(tm:Array Value)(asg bdy:Code)(D:Nat) : Loop:={ state:=.ready,pending:=none,fn:=fn0,tmps:=tm,params:=#[53],assign:=asg,body:=bdy,defers:=D }
def r6 (w:World)(gb gs gm l:Nat)(c:Int)(R:Loop) : Prop:=∀ (W:World)(C:al)(s:Int)(L:List dx)(A:Option Addr)(cp:Nat)(x:dx)(Ax:Option Addr)(cx:Nat),JR w gb gs gm l c R C s L A cp W→fg (.hi w.heap.size) W (.slice Ax x.words.length cx) x.words→ej x.file→ej x.record→ej x.count→L.length≤1048576 →
    RoundIn Fence.wide 8 Tryz.prog l R.fn (R.tmps.setIfInBounds 53 (.agg #[.int .u16 x.file,.int .u16 x.record,.int .u16 x.count,.slice Ax x.words.length cx])) R.assign R.body W (fun e W'=>e = .returned (.bool true)∧W.heap.size≤W'.heap.size∧∃ A2 c2,JR w gb gs gm l c R C s (L++[x]) A2 c2 W')
theorem zw{w:World}{gb gs gm l b1 b2 fn0 D:Nat}{tm:Array Value}{asg bdy:Code}{c:Int}{C0:al}(hC:ae w gb C0)(hS:w.heap[gs]? = some (.cells #[vI 0] 3 (0,0)))(hm:w.heap[gm]? = some (.cells (fP c gT) 45 (0,0)))
    (hl:w.heap[l]? = some (.loop (dO fn0 tm asg bdy D))) (hb1:w.heap[b1]? = some (.cells #[vP gb 0] 164 (0,0))) (hb2:w.heap[b2]? = some (.cells #[.func (.func 213) #[] #[vP gs 0]] 178 (0,0)))
    (n1:gb≠gs) (n2:gb≠gm) (n3:gb≠l) (n4:gs≠gm) (n5:gs≠l) (n6:gm≠l) (m1:b1≠gb) (m2:b1≠gs) (m3:b1≠gm) (m4:b1≠l) (k1:b2≠gb) (k2:b2≠gs) (k3:b2≠gm) (k4:b2≠l) (hround:r6 w gb gs gm l c (dO fn0 tm asg bdy D)) :
    Calls Tryz.prog 220 #[.func (.yield l) #[] #[],vP b1 0,vP b2 0] w (fun e W=>e = .returned (.tuple #[])∧∃ s A cp,JR w gb gs gm l c (dO fn0 tm asg bdy D) (aT cU C0.l.length 0 C0 []).1 s (aT cU C0.l.length 0 C0 []).2 A cp W):=by
 have hlen:=hC.len
 refine en 25 Tryz.func220 rfl<|bk<|?_
 refine fE (fun x=>[(0,.func (.yield l) #[] #[]),(1,vP b1 0),(2,vP b2 0)]) (fun(x:Nat × al × Int × List dx × Option Addr × Nat) w'=>aD [gb,gs,gm,l] w w'∧ae w' gb x.2.1∧w'.heap[gs]? = some (.cells #[vI x.2.2.1] 3 (0,0))∧w'.heap[gm]? = some (.cells (fP c (.slice x.2.2.2.2.1 x.2.2.2.1.length x.2.2.2.2.2)) 45 (0,0))∧w'.heap[l]? = some (.loop (dO fn0 tm asg bdy D))∧aQ w.heap.size 98 4 (bC (.hi w.heap.size)) w' (.slice x.2.2.2.2.1 x.2.2.2.1.length x.2.2.2.2.2) x.2.2.2.1∧(aT cU x.1 x.2.2.1 x.2.1 x.2.2.2.1=aT cU C0.l.length 0 C0 [])∧(x.2.1.l.length≤x.1)∧(0≤x.2.2.1∧x.2.2.1≤131074*(x.2.2.2.1.length:Int))∧(x.2.2.2.1.length+x.1≤C0.l.length)) (fun x=>x.1) (C0.l.length,C0,0,[],none,0) ⟨aD.refl _ _,hC,hS,hm,hl,aQ.nil ..,rfl,(Nat.le_refl _),(by(try dsimp only);omega),(by(try dsimp only);(try simp only[List.length_nil]);omega)⟩ ?_
 rintro⟨n,C,s,L,A,cp⟩ h ⟨i,I,J,M,N,O,P,Q,R,S⟩
 refine eH [(0,.func (.yield l) #[] #[]),(1,vP b1 0),(2,vP b2 0)] ?_
 have b:ae h gb C:=I
 have m:h.heap[gs]? = some (.cells #[vI s] 3 (0,0)):=J
 have t:h.heap[gm]? = some (.cells (fP c (.slice A L.length cp)) 45 (0,0)):=M
 have v:h.heap[l]? = some (.loop (dO fn0 tm asg bdy D)):=N
 have d:aQ w.heap.size 98 4 (bC (.hi w.heap.size)) h (.slice A L.length cp) L:=O
 have af:aT cU n s C L=aT cU C0.l.length 0 C0 []:=P
 have aj:C.l.length≤n:=Q
 have ak:0≤s∧s≤131074*(L.length:Int):=R
 have an:L.length+n≤C0.l.length:=S
 have hrec:aT cU n s C L=aT cU C0.l.length 0 C0 []:=by assumption
 refine sq<|sg<|?_
 have o:=aD.blk i (aa m1 (aa m2 (aa m3 (aa m4 ay)))) hb1
 refine aH o 0<|az<|mq (dR b)<|?_
 have ao:=ae.len b
 refine Pl 2<|cV 4 [8] 12 8 (decide (0<(C.l.length:Int))) (C.e==0) (fun K T U=>?_) ?_
 have ap:=of_decide_eq_true U
 refine L1<|dp o 0<|L1<|Oc<|mq (cl b)<|?_
 have aq:=ae.len b
 exact Pl 2<|ce T _ rfl
 refine nt<|cb (((decide (0<(C.l.length:Int)))&&(C.e==0))) (fun f=>?_) (fun f=>?_)
 have y:=(aR f).1
 have z:=(aR f).2
 have ar:=of_decide_eq_true y
 have au:=am z
 refine bp<|bk<|sg<|?_
 refine aH (aD.blk i (aa k1 (aa k2 (aa k3 (aa k4 ay)))) hb2) 0<|aH o 0<|L0<|i4 #[] #[vP gs 0] (args:=#[vP gb 0,vP gs 0])<|Dl (um (s:=s) b m n1 (by omega)) fun B E aw V X Y Z a0 F a1=>?_
 have ax:eu s C=s+(2+2*(aP C).count):=rfl
 obtain⟨aB,aF⟩:=X
 obtain⟨aL,aN⟩:=Y
 obtain⟨aO,aS⟩:=Z
 refine aK #[vW 0,vW 0,vW 0,nS] fun aU aV a2 a3 a4=>aE a3 #[vW ((aP C).file),vW ((aP C).record),vW ((aP C).count),.slice B ((aP C).words.length) E] fun a5 a6 a7=>nt<|sq<|C9 9<|?_
 have j:=ud a4 a7 a2
 have a:=aM a1 j
 refine F0<|dp (aD.blk a (aa m1 (aa m2 ay)) o) 0<|?_
 have p:=ae.old a0 j
 refine F0<|Oc<|mq (cl p)<|?_
 have aX:=ae.len p
 refine Fp<|Fp<|?_
 have G:=ut i a (ac im (ac im aA))
 refine BV 19 ((((eM s C).e)!=0)) (fun k=>?_) (fun k=>?_)
 have a8:=av k
 refine Fp<|Fp<|Fp<|Fp<|Fp<|ur<|tn<|c1<|rt<|br<|tr<|br<|rr (.tuple #[])<|?_
 have hfin:aT cU C0.l.length 0 C0 []=((eM s C),L):=by
   rw[← hrec]
   rw[show n=(n-1)+1 from by omega]
   simp only[aT,cU,f,y,z,k,bj,reduceIte]
 refine⟨rfl,(eu s C),A,cp,?_⟩
 rw[hfin]
 exact⟨G,p,(ub j F),(aD.blk a (aa (Ne.symm n2) (aa (Ne.symm n4) ay)) t),(ai d a (fun x hx=>(aa (fun e=>(aG (ae.lt hC) lr d) (e▸hx)) (aa (fun e=>(aG (ag hS) lr d) (e▸hx)) ay))) (bC.upd16 a (ah (ae.safe b _ (by decide)) (ah (aW m (by decide)) aC)))),(aD.blk a (aa (Ne.symm n3) (aa (Ne.symm n5) ay)) v)⟩
 have a8:=aJ k
 refine Fp<|F0<|cO a6<|?_
 have H:=aD.blk a (aa (Ne.symm n3) (aa (Ne.symm n5) ay)) v
 have a9:JR w gb gs gm l c (dO fn0 tm asg bdy D) (eM s C) (eu s C) L A cp a5:=⟨G,p,(ub j F),(aD.blk a (aa (Ne.symm n2) (aa (Ne.symm n4) ay)) t),(ai d a (fun x hx=>(aa (fun e=>(aG (ae.lt hC) lr d) (e▸hx)) (aa (fun e=>(aG (ag hS) lr d) (e▸hx)) ay))) (bC.upd16 a (ah (ae.safe b _ (by decide)) (ah (aW m (by decide)) aC)))),H⟩
 refine Fy (r:=dO fn0 tm asg bdy D) (.agg #[vW ((aP C).file),vW ((aP C).record),vW ((aP C).count),.slice B ((aP C).words.length) E]) 53 H rfl<|?_
 refine RoundIn.mono (hround _ _ _ _ _ _ (aP C) _ _ a9 (aI.hi_le (fg.upd' V j aC) i.size fun _ _ q=>q) (ci (by omega)) (ci (by omega)) (ci (by omega)) (by omega)) ?_
 rintro _ aY ⟨rfl,aZ,ab,ad,g⟩
 refine⟨_,rfl,?_⟩
 exact Fp<|Fp<|ur<|tn<|c0<|sk<|bn<|dH ((n-1),(eM s C),(eu s C),(L++[(aP C)]),ab,ad) ⟨g.u,g.hC,g.hS,g.hm,g.hl,g.ho,(by(try dsimp only);rw[← hrec,show n=(n-1)+1 from by omega];simp only[aT,cU,f,y,z,k,bj,Nat.add_sub_cancel,reduceIte]),(by(try dsimp only);have hd:=rO s C (by omega);have ku:(cU s C).2.1.l.length=(eM s C).l.length:=rfl;omega),(by(try dsimp only);simp only[cD];omega),(by(try dsimp only);simp only[cD];omega)⟩ (by omega)
 refine xt<|tx<|tx<|bx<|rm (.tuple #[])<|?_
 have hfin:aT cU C0.l.length 0 C0 []=(C,L):=by
   rw[← hrec]
   exact gn _ _ _ _ _ (by simp only[f,bj])
 refine⟨rfl,s,A,cp,?_⟩
 rw[hfin]
 exact⟨i,b,m,t,d,v⟩
theorem zQ{w:World}{gb gs gm l b1 b2 fn0 D:Nat}{tm:Array Value}{asg bdy:Code}{c:Int}{C0:al}(hC:ae w gb C0)(hS:w.heap[gs]? = some (.cells #[vI 0] 3 (0,0)))(hm:w.heap[gm]? = some (.cells (fP c gT) 45 (0,0)))
    (hl:w.heap[l]? = some (.loop (dO fn0 tm asg bdy D))) (hb1:w.heap[b1]? = some (.cells #[vP gb 0] 164 (0,0))) (hb2:w.heap[b2]? = some (.cells #[.func (.func 217) #[] #[]] 178 (0,0)))
    (n1:gb≠gs) (n2:gb≠gm) (n3:gb≠l) (n4:gs≠gm) (n5:gs≠l) (n6:gm≠l) (m1:b1≠gb) (m2:b1≠gs) (m3:b1≠gm) (m4:b1≠l) (k1:b2≠gb) (k2:b2≠gs) (k3:b2≠gm) (k4:b2≠l) (hround:r6 w gb gs gm l c (dO fn0 tm asg bdy D)) :
    Calls Tryz.prog 220 #[.func (.yield l) #[] #[],vP b1 0,vP b2 0] w (fun e W=>e = .returned (.tuple #[])∧∃ s A cp,JR w gb gs gm l c (dO fn0 tm asg bdy D) (aT bR C0.l.length 0 C0 []).1 s (aT bR C0.l.length 0 C0 []).2 A cp W):=by
 have hlen:=hC.len
 refine en 25 Tryz.func220 rfl<|bk<|?_
 refine fE (fun x=>[(0,.func (.yield l) #[] #[]),(1,vP b1 0),(2,vP b2 0)]) (fun(x:Nat × al × Int × List dx × Option Addr × Nat) w'=>aD [gb,gs,gm,l] w w'∧ae w' gb x.2.1∧w'.heap[gs]? = some (.cells #[vI x.2.2.1] 3 (0,0))∧w'.heap[gm]? = some (.cells (fP c (.slice x.2.2.2.2.1 x.2.2.2.1.length x.2.2.2.2.2)) 45 (0,0))∧w'.heap[l]? = some (.loop (dO fn0 tm asg bdy D))∧aQ w.heap.size 98 4 (bC (.hi w.heap.size)) w' (.slice x.2.2.2.2.1 x.2.2.2.1.length x.2.2.2.2.2) x.2.2.2.1∧(aT bR x.1 x.2.2.1 x.2.1 x.2.2.2.1=aT bR C0.l.length 0 C0 [])∧(x.2.1.l.length≤x.1)∧(0≤x.2.2.1∧x.2.2.1≤131074*(x.2.2.2.1.length:Int))∧(x.2.2.2.1.length+x.1≤C0.l.length)) (fun x=>x.1) (C0.l.length,C0,0,[],none,0) ⟨aD.refl _ _,hC,hS,hm,hl,aQ.nil ..,rfl,(Nat.le_refl _),(by(try dsimp only);omega),(by(try dsimp only);(try simp only[List.length_nil]);omega)⟩ ?_
 rintro⟨n,C,s,L,A,cp⟩ g ⟨h,H,I,J,M,N,O,P,Q,R⟩
 refine eH [(0,.func (.yield l) #[] #[]),(1,vP b1 0),(2,vP b2 0)] ?_
 have b:ae g gb C:=H
 have o:g.heap[gs]? = some (.cells #[vI s] 3 (0,0)):=I
 have p:g.heap[gm]? = some (.cells (fP c (.slice A L.length cp)) 45 (0,0)):=J
 have t:g.heap[l]? = some (.loop (dO fn0 tm asg bdy D)):=M
 have i:aQ w.heap.size 98 4 (bC (.hi w.heap.size)) g (.slice A L.length cp) L:=N
 have ac:aT bR n s C L=aT bR C0.l.length 0 C0 []:=O
 have ad:C.l.length≤n:=P
 have af:0≤s∧s≤131074*(L.length:Int):=Q
 have ag:L.length+n≤C0.l.length:=R
 have hrec:aT bR n s C L=aT bR C0.l.length 0 C0 []:=by assumption
 refine sq<|sg<|?_
 have k:=aD.blk h (aa m1 (aa m2 (aa m3 (aa m4 ay)))) hb1
 refine aH k 0<|az<|mq (dR b)<|?_
 have aj:=ae.len b
 refine Pl 2<|cV 4 [8] 12 8 (decide (0<(C.l.length:Int))) (C.e==0) (fun K S T=>?_) ?_
 have ak:=of_decide_eq_true T
 refine L1<|dp k 0<|L1<|Oc<|mq (cl b)<|?_
 have an:=ae.len b
 exact Pl 2<|ce S _ rfl
 refine nt<|cb (((decide (0<(C.l.length:Int)))&&(C.e==0))) (fun d=>?_) (fun d=>?_)
 have v:=(aR d).1
 have y:=(aR d).2
 have ao:=of_decide_eq_true v
 have ap:=am y
 refine bp<|bk<|sg<|?_
 refine aH (aD.blk h (aa k1 (aa k2 (aa k3 (aa k4 ay)))) hb2) 0<|aH k 0<|L0<|i4 #[] #[] (args:=#[vP gb 0])<|Aj (sU b) fun B E aq U V X Y Z a0=>?_
 obtain⟨ar,au⟩:=V
 obtain⟨aw,ax⟩:=X
 obtain⟨aA,aB⟩:=Y
 refine aK #[vW 0,vW 0,vW 0,nS] fun aF aL a1 a2 a3=>aE a2 #[vW ((eI C).file),vW ((eI C).record),vW ((eI C).count),.slice B ((eI C).words.length) E] fun a4 a5 a6=>nt<|sq<|C9 9<|?_
 have z:=ud a3 a6 a1
 have a:=aM a0 z
 refine F0<|dp (aY a m1 k) 0<|?_
 have m:=ae.old Z z
 refine F0<|Oc<|mq (cl m)<|?_
 have aN:=ae.len m
 refine Fp<|Fp<|?_
 have F:=u1 h a im
 refine BV 19 ((((eT C).e)!=0)) (fun j=>?_) (fun j=>?_)
 have a7:=av j
 refine Fp<|Fp<|Fp<|Fp<|Fp<|ur<|tn<|c1<|rt<|br<|tr<|br<|rr (.tuple #[])<|?_
 have hfin:aT bR C0.l.length 0 C0 []=((eT C),L):=by
   rw[← hrec]
   rw[show n=(n-1)+1 from by omega]
   simp only[aT,bR,d,v,y,j,bj,reduceIte]
 refine⟨rfl,s,A,cp,?_⟩
 rw[hfin]
 exact⟨F,m,(aY a (Ne.symm n1) o),(aY a (Ne.symm n2) p),(ai i a (fun x hx=>(aa (fun e=>(aG (ae.lt hC) lr i) (e▸hx)) ay)) (bC.upd16 a (ah (ae.safe b _ (by decide)) aC))),(aY a (Ne.symm n3) t)⟩
 have a7:=aJ j
 refine Fp<|F0<|cO a5<|?_
 have G:=aY a (Ne.symm n3) t
 have a8:JR w gb gs gm l c (dO fn0 tm asg bdy D) (eT C) s L A cp a4:=⟨F,m,(aY a (Ne.symm n1) o),(aY a (Ne.symm n2) p),(ai i a (fun x hx=>(aa (fun e=>(aG (ae.lt hC) lr i) (e▸hx)) ay)) (bC.upd16 a (ah (ae.safe b _ (by decide)) aC))),G⟩
 refine Fy (r:=dO fn0 tm asg bdy D) (.agg #[vW ((eI C).file),vW ((eI C).record),vW ((eI C).count),.slice B ((eI C).words.length) E]) 53 G rfl<|?_
 refine RoundIn.mono (hround _ _ _ _ _ _ (eI C) _ _ a8 (aI.hi_le (fg.upd' U z aC) h.size fun _ _ q=>q) (ci (by omega)) (ci (by omega)) (ci (by omega)) (by omega)) ?_
 rintro _ aO ⟨rfl,aP,a9,ab,f⟩
 refine⟨_,rfl,?_⟩
 exact Fp<|Fp<|ur<|tn<|c0<|sk<|bn<|dH ((n-1),(eT C),s,(L++[(eI C)]),a9,ab) ⟨f.u,f.hC,f.hS,f.hm,f.hl,f.ho,(by(try dsimp only);rw[← hrec,show n=(n-1)+1 from by omega];simp only[aT,bR,d,v,y,j,bj,Nat.add_sub_cancel,reduceIte]),(by(try dsimp only);have hd:=lc s C (by omega);have ku:(bR s C).2.1.l.length=(eT C).l.length:=rfl;omega),(by(try dsimp only);simp only[cD];omega),(by(try dsimp only);simp only[cD];omega)⟩ (by omega)
 refine xt<|tx<|tx<|bx<|rm (.tuple #[])<|?_
 have hfin:aT bR C0.l.length 0 C0 []=(C,L):=by
   rw[← hrec]
   exact gn _ _ _ _ _ (by simp only[d,bj])
 refine⟨rfl,s,A,cp,?_⟩
 rw[hfin]
 exact⟨h,b,o,p,i,t⟩
theorem Ap{w:World}{gb gs gm l b1 b2 fn0 D:Nat}{tm:Array Value}{asg bdy:Code}{c:Int}{C0:al}(hC:ae w gb C0)(hS:w.heap[gs]? = some (.cells #[vI 0] 3 (0,0)))(hm:w.heap[gm]? = some (.cells (fP c gT) 45 (0,0)))
    (hl:w.heap[l]? = some (.loop (dO fn0 tm asg bdy D))) (hb1:w.heap[b1]? = some (.cells #[vP gb 0] 164 (0,0))) (hb2:w.heap[b2]? = some (.cells #[.func (.func 219) #[] #[]] 178 (0,0)))
    (n1:gb≠gs) (n2:gb≠gm) (n3:gb≠l) (n4:gs≠gm) (n5:gs≠l) (n6:gm≠l) (m1:b1≠gb) (m2:b1≠gs) (m3:b1≠gm) (m4:b1≠l) (k1:b2≠gb) (k2:b2≠gs) (k3:b2≠gm) (k4:b2≠l) (hround:r6 w gb gs gm l c (dO fn0 tm asg bdy D)) :
    Calls Tryz.prog 220 #[.func (.yield l) #[] #[],vP b1 0,vP b2 0] w (fun e W=>e = .returned (.tuple #[])∧∃ s A cp,JR w gb gs gm l c (dO fn0 tm asg bdy D) (aT cP C0.l.length 0 C0 []).1 s (aT cP C0.l.length 0 C0 []).2 A cp W):=by
 have hlen:=hC.len
 refine en 25 Tryz.func220 rfl<|bk<|?_
 refine fE (fun x=>[(0,.func (.yield l) #[] #[]),(1,vP b1 0),(2,vP b2 0)]) (fun(x:Nat × al × Int × List dx × Option Addr × Nat) w'=>aD [gb,gs,gm,l] w w'∧ae w' gb x.2.1∧w'.heap[gs]? = some (.cells #[vI x.2.2.1] 3 (0,0))∧w'.heap[gm]? = some (.cells (fP c (.slice x.2.2.2.2.1 x.2.2.2.1.length x.2.2.2.2.2)) 45 (0,0))∧w'.heap[l]? = some (.loop (dO fn0 tm asg bdy D))∧aQ w.heap.size 98 4 (bC (.hi w.heap.size)) w' (.slice x.2.2.2.2.1 x.2.2.2.1.length x.2.2.2.2.2) x.2.2.2.1∧(aT cP x.1 x.2.2.1 x.2.1 x.2.2.2.1=aT cP C0.l.length 0 C0 [])∧(x.2.1.l.length≤x.1)∧(0≤x.2.2.1∧x.2.2.1≤131074*(x.2.2.2.1.length:Int))∧(x.2.2.2.1.length+x.1≤C0.l.length)) (fun x=>x.1) (C0.l.length,C0,0,[],none,0) ⟨aD.refl _ _,hC,hS,hm,hl,aQ.nil ..,rfl,(Nat.le_refl _),(by(try dsimp only);omega),(by(try dsimp only);(try simp only[List.length_nil]);omega)⟩ ?_
 rintro⟨n,C,s,L,A,cp⟩ g ⟨h,H,I,J,M,N,O,P,Q,R⟩
 refine eH [(0,.func (.yield l) #[] #[]),(1,vP b1 0),(2,vP b2 0)] ?_
 have b:ae g gb C:=H
 have o:g.heap[gs]? = some (.cells #[vI s] 3 (0,0)):=I
 have p:g.heap[gm]? = some (.cells (fP c (.slice A L.length cp)) 45 (0,0)):=J
 have t:g.heap[l]? = some (.loop (dO fn0 tm asg bdy D)):=M
 have i:aQ w.heap.size 98 4 (bC (.hi w.heap.size)) g (.slice A L.length cp) L:=N
 have ac:aT cP n s C L=aT cP C0.l.length 0 C0 []:=O
 have ad:C.l.length≤n:=P
 have af:0≤s∧s≤131074*(L.length:Int):=Q
 have ag:L.length+n≤C0.l.length:=R
 have hrec:aT cP n s C L=aT cP C0.l.length 0 C0 []:=by assumption
 refine sq<|sg<|?_
 have k:=aD.blk h (aa m1 (aa m2 (aa m3 (aa m4 ay)))) hb1
 refine aH k 0<|az<|mq (dR b)<|?_
 have aj:=ae.len b
 refine Pl 2<|cV 4 [8] 12 8 (decide (0<(C.l.length:Int))) (C.e==0) (fun K S T=>?_) ?_
 have ak:=of_decide_eq_true T
 refine L1<|dp k 0<|L1<|Oc<|mq (cl b)<|?_
 have an:=ae.len b
 exact Pl 2<|ce S _ rfl
 refine nt<|cb (((decide (0<(C.l.length:Int)))&&(C.e==0))) (fun d=>?_) (fun d=>?_)
 have v:=(aR d).1
 have y:=(aR d).2
 have ao:=of_decide_eq_true v
 have ap:=am y
 refine bp<|bk<|sg<|?_
 refine aH (aD.blk h (aa k1 (aa k2 (aa k3 (aa k4 ay)))) hb2) 0<|aH k 0<|L0<|i4 #[] #[] (args:=#[vP gb 0])<|Aj (yc b) fun B E aq U V X Y Z a0=>?_
 obtain⟨ar,au⟩:=V
 obtain⟨aw,ax⟩:=X
 obtain⟨aA,aB⟩:=Y
 refine aK #[vW 0,vW 0,vW 0,nS] fun aF aL a1 a2 a3=>aE a2 #[vW ((iQ C).file),vW ((iQ C).record),vW ((iQ C).count),.slice B ((iQ C).words.length) E] fun a4 a5 a6=>nt<|sq<|C9 9<|?_
 have z:=ud a3 a6 a1
 have a:=aM a0 z
 refine F0<|dp (aY a m1 k) 0<|?_
 have m:=ae.old Z z
 refine F0<|Oc<|mq (cl m)<|?_
 have aN:=ae.len m
 refine Fp<|Fp<|?_
 have F:=u1 h a im
 refine BV 19 ((((ju C).e)!=0)) (fun j=>?_) (fun j=>?_)
 have a7:=av j
 refine Fp<|Fp<|Fp<|Fp<|Fp<|ur<|tn<|c1<|rt<|br<|tr<|br<|rr (.tuple #[])<|?_
 have hfin:aT cP C0.l.length 0 C0 []=((ju C),L):=by
   rw[← hrec]
   rw[show n=(n-1)+1 from by omega]
   simp only[aT,cP,d,v,y,j,bj,reduceIte]
 refine⟨rfl,s,A,cp,?_⟩
 rw[hfin]
 exact⟨F,m,(aY a (Ne.symm n1) o),(aY a (Ne.symm n2) p),(ai i a (fun x hx=>(aa (fun e=>(aG (ae.lt hC) lr i) (e▸hx)) ay)) (bC.upd16 a (ah (ae.safe b _ (by decide)) aC))),(aY a (Ne.symm n3) t)⟩
 have a7:=aJ j
 refine Fp<|F0<|cO a5<|?_
 have G:=aY a (Ne.symm n3) t
 have a8:JR w gb gs gm l c (dO fn0 tm asg bdy D) (ju C) s L A cp a4:=⟨F,m,(aY a (Ne.symm n1) o),(aY a (Ne.symm n2) p),(ai i a (fun x hx=>(aa (fun e=>(aG (ae.lt hC) lr i) (e▸hx)) ay)) (bC.upd16 a (ah (ae.safe b _ (by decide)) aC))),G⟩
 refine Fy (r:=dO fn0 tm asg bdy D) (.agg #[vW ((iQ C).file),vW ((iQ C).record),vW ((iQ C).count),.slice B ((iQ C).words.length) E]) 53 G rfl<|?_
 refine RoundIn.mono (hround _ _ _ _ _ _ (iQ C) _ _ a8 (aI.hi_le (fg.upd' U z aC) h.size fun _ _ q=>q) (ci (by omega)) (ci (by omega)) (ci (by omega)) (by omega)) ?_
 rintro _ aO ⟨rfl,aP,a9,ab,f⟩
 refine⟨_,rfl,?_⟩
 exact Fp<|Fp<|ur<|tn<|c0<|sk<|bn<|dH ((n-1),(ju C),s,(L++[(iQ C)]),a9,ab) ⟨f.u,f.hC,f.hS,f.hm,f.hl,f.ho,(by(try dsimp only);rw[← hrec,show n=(n-1)+1 from by omega];simp only[aT,cP,d,v,y,j,bj,Nat.add_sub_cancel,reduceIte]),(by(try dsimp only);have hd:=s1 s C (by omega);have ku:(cP s C).2.1.l.length=(ju C).l.length:=rfl;omega),(by(try dsimp only);simp only[cD];omega),(by(try dsimp only);simp only[cD];omega)⟩ (by omega)
 refine xt<|tx<|tx<|bx<|rm (.tuple #[])<|?_
 have hfin:aT cP C0.l.length 0 C0 []=(C,L):=by
   rw[← hrec]
   exact gn _ _ _ _ _ (by simp only[d,bj])
 refine⟨rfl,s,A,cp,?_⟩
 rw[hfin]
 exact⟨h,b,o,p,i,t⟩
end Go.Proofs.YtdkhbcefkfgbdaaGreat
