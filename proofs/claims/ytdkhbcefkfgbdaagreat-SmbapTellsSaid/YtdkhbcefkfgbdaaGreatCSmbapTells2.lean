/- Contracts of functions, part CSmbapTells2. -/
import Derived.Test.YtdkhbcefkfgbdaaGreatCSmbapTells1
import Derived.Laws.BitsAllLaws
import Derived.RangeFuncRecord
import Derived.RangeFuncLeaves
import Derived.RangeFuncCalls
set_option linter.unusedVariables false
set_option linter.unusedSimpArgs false
set_option maxRecDepth 100000
set_option maxHeartbeats 4000000
namespace Go.Proofs.YtdkhbcefkfgbdaaGreat
open Go.RowKit
def gp (Q:World→Ending→World→Prop)(w:World)(e:Ending)(w':World) : Prop:=∃ F free,e = .returned (.func (.func F) #[] free)∧tW Tryz.prog F=some (false,true)∧aC [] w w'∧Calls Tryz.prog F free w' (Q w')
variable {C:ag}{g:Nat}{most:Int}{w:World}
theorem kx{a:Int}(hC:ae w g C)(ha:0≤a∧a<65536) :
    Calls Tryz.prog 199 #[vP g 0,vW a,vI most] w (jQ g .i64 65536 C.wordV (bB C a most) w):=by
 have hlen:=hC.len
 have hrr:=hC.wordV
 refine en 26 Tryz.func199 rfl<|al 1<|aK 1<|aq<|m3 (bF hC) fun k b c l=>bt C.wordV<|am 1<|al 4<|dc 4 [14] 18 14 (decide (1≤C.wordV)) (decide (C.wordV≤most)) (fun K d e=>?_) ?_
 have m:=of_decide_eq_true e
 exact Pl 4<|ce d _ rfl
 refine aq<|m2 (aZ (((decide (1≤C.wordV))&&(decide (C.wordV≤most)))) 5 b) fun o f h=>aK 3<|aq<|mq (gh (a:=a) (n:=C.wordV) (by omega))<|aq<|m2 (aZ ((cK a C.wordV)) 7 f) fun p i j=>aK 2<|nl<|tn<|rt<|rr (vI C.wordV)<|?_
 exact cZ (by unfold bB;(try simp only[bp,reduceIte])<;>rfl) ⟨rfl,i,(u1 c (u1 h j im) im),hrr⟩
variable {n:Int}
theorem ie(hC:ae w g C)(hn:0≤n∧n<65536) :
    Calls Tryz.prog 205 #[vP g 0,vI n] w (fun e w'=>∃ v,e = .returned v∧io w.heap.size w' v ((cv C n).wordsR n)∧ae w' g ((cv C n).wordsC n)∧aC [g] w w'):=by
 have hlen:=hC.len
 refine en 16 Tryz.func205 rfl<|al 1<|aK 2<|aq<|m3 (bD hC) fun l c a m=>bt C.byteV<|Pl 1<|bt (2*n)<|Pl 1<|aq<|m2 (aZ ((C.byteV==(2*n))) 5 c) fun o d b=>?_
 refine aK 2<|aq<|iG (dn (n:=n) d) fun f h p i q r j k=>am 1<|rt<|rr (.slice f ((((C.bytesC 1).need (C.byteV==(2*n)) 5).wordsR n).length) h)<|?_
 have hs:cv C n=((C.bytesC 1).need (C.byteV==(2*n)) 5):=by
   unfold cv
   (try simp only[bp,reduceIte])
   all_goals rfl
 rw[hs]
 exact⟨_,rfl,(aT.weaken i (le a.size b.size)),j,(u1 a (u1 b k im) im)⟩
variable {bc bm gm:Nat}{c:Int}
theorem fQ(hcode:B8 c)(hC:ae w g C)(hm:w.heap[gm]? = some (.cells (mC c) 45 (0,0)))(hne:g≠gm)   (hbc:w.heap[bc]? = some (.cells #[vP g 0] 164 (0,0)))(n_bc_g:bc≠g)(n_bc_gm:bc≠gm)(hbm:w.heap[bm]? = some (.cells #[vP gm 0] 166 (0,0)))(n_bm_g:bm≠g)(n_bm_gm:bm≠gm) :
    Calls Tryz.prog 198 #[vI most,vP bc 0,vP bm 0] w (mM g gm (bB (C.wordsC 1) C.wordV most) (mG c 0 C.wordV (C.wordsC 1).wordV 0 0 0 0 0 0 0 0 nS nS nS nS 0 0 0 0 0 nS) w):=by
 obtain⟨hcode1,hcode2⟩:=hcode
 have hlen:=hC.len
 refine en 20 Tryz.func198 rfl<|sq<|Rg 6 (fun w'=>w'.cell? ⟨bm,0,none⟩=some (vP gm 0)∧w'.cell? ⟨bc,0,none⟩=some (vP g 0)) fun I d=>?_
 have m:=ub d hbm
 have n:=ub d hbc
 refine bz ⟨(ak m rfl),(ak n rfl)⟩ fun o=>Rl 0 o (fun _ hs=>hs.1)<|Rl 1 o (fun _ hs=>hs.2)<|?_
 refine R0 2 rfl<|Oc<|m3 (bF (ae.old hC d)) fun J F i K=>?_
 have p:=aS i n_bm_g m
 have q:=aS i n_bc_g n
 refine bz ⟨(ak p rfl),(ak q rfl)⟩ fun r=>Rt 3 r<|Rt 4 r<|?_
 have s:=uz d i
 have t:=aS s (Ne.symm hne) hm
 refine R0 5 rfl<|bE t 2 (mG c 0 C.wordV 0 0 0 0 0 0 0 0 0 nS nS nS nS 0 0 0 0 0 nS) fun L G j=>?_
 have u:=aS j n_bm_gm p
 have v:=aS j n_bc_gm q
 refine bz ⟨(ak u rfl),(ak v rfl)⟩ fun M=>re<|tn<|Rg 12 (fun w'=>w'.cell? ⟨bm,0,none⟩=some (vP gm 0)∧w'.cell? ⟨bc,0,none⟩=some (vP g 0)∧w'.cell? ⟨gm,2,none⟩=some (vW C.wordV)) fun N e=>?_
 have x:=ub e u
 have y:=ub e v
 have z:=ub e G
 refine bz ⟨(ak x rfl),(ak y rfl),(ak z rfl)⟩ fun b=>Rl 0 b (fun _ hs=>hs.1)<|Rl 1 b (fun _ hs=>hs.2.1)<|Rl 2 b (fun _ hs=>hs.1)<|Rt 3 b<|Rt 4 b<|Rl 5 b (fun _ hs=>hs.2.2)<|Rt 6 b<|?_
 have A:=aQ j e
 refine R0 7 rfl<|Oc<|m3 (kx (a:=C.wordV) (most:=most) (ae.upd F A (aa hne ax) (ah (aR t (by decide)) aE)) (by omega)) fun O H f P=>?_
 have B:=aS f n_bm_g x
 have D:=aS f n_bc_g y
 have k:=aS f (Ne.symm hne) z
 refine bz ⟨(ak B rfl),(ak D rfl),(ak k rfl)⟩ fun l=>Rr 8 l (vW ((C.wordsC 1).wordV)) (fun _ _=>bv (vW (IntKind.u16.wrap ((C.wordsC 1).wordV))) (by kernel_rfl) (congrArg (Value.int .u16) (i8 (by omega))))<|Rt 9 l<|Rt 10 l<|R0 11 rfl<|bE k 3 (mG c 0 C.wordV ((C.wordsC 1).wordV) 0 0 0 0 0 0 0 0 nS nS nS nS 0 0 0 0 0 nS) fun Q E h=>?_
 refine bz ⟨(ak (aS h n_bm_gm B) rfl),(ak (aS h n_bc_gm D) rfl),(ak E rfl)⟩ fun R=>re<|rm (.tuple #[])<|?_
 exact⟨rfl,(ae.upd H h (aa hne ax) (ah (aR k (by decide)) aE)),E,(ui s (ui A (us f h)))⟩
variable {bw:Nat}
theorem vX(hcode:B8 c)(hC:ae w g C)(hm:w.heap[gm]? = some (.cells (mC c) 45 (0,0)))(hne:g≠gm)    (hbc:w.heap[bc]? = some (.cells #[vP g 0] 164 (0,0)))(n_bc_g:bc≠g)(n_bc_gm:bc≠gm)(hbm:w.heap[bm]? = some (.cells #[vP gm 0] 166 (0,0)))(n_bm_g:bm≠g)(n_bm_gm:bm≠gm)(hbw:w.heap[bw]? = some (.cells #[.func (.func 198) #[] #[vP bc 0,vP bm 0]] 218 (0,0)))(n_bw_g:bw≠g)(n_bw_gm:bw≠gm) :
    Calls Tryz.prog 200 #[vP bw 0] w (bQ g gm (bL 125 c C).1 (bL 125 c C).2 w):=by
 obtain⟨hcode1,hcode2⟩:=hcode
 have hlen:=hC.len
 refine en 3 Tryz.func200 rfl<|go<|aF hbw 0<|L0<|fV #[] #[vP bc 0,vP bm 0] (args:=#[vI 125,vP bc 0,vP bm 0])<|m3 (fQ (most:=125) ⟨hcode1,hcode2⟩ hC hm hne hbc n_bc_g n_bc_gm hbm n_bm_g n_bm_gm) fun e a b d=>?_
 have f:=(hC).wordV
 have h:=bG (c3 (hC).rng 1)
 refine nl<|rm (.tuple #[])<|?_
 have hs:bL 125 c C=((bB (C.wordsC 1) C.wordV 125),(b6.mk c 0 C.wordV ((C.wordsC 1).wordV) 0 0 0 0 0 0 0 0 [] [] [] [] 0 0 0 0 0 [])):=by
   unfold bL
   (try simp only[bp,reduceIte])
   all_goals rfl
 rw[hs]
 exact⟨rfl,a,⟨_,⟨b,rfl⟩,⟨_,_,_,_,_,rfl,aG.nil ..,aG.nil ..,aG.nil ..,aG.nil ..,aG.nil ..,(bR (by omega))⟩⟩,d⟩
theorem v8(hcode:B8 c)(hC:ae w g C)(hm:w.heap[gm]? = some (.cells (mC c) 45 (0,0)))(hne:g≠gm)   (hbc:w.heap[bc]? = some (.cells #[vP g 0] 164 (0,0)))(n_bc_g:bc≠g)(n_bc_gm:bc≠gm)(hbm:w.heap[bm]? = some (.cells #[vP gm 0] 166 (0,0)))(n_bm_g:bm≠g)(n_bm_gm:bm≠gm) :
    Calls Tryz.prog 201 #[vP bc 0,vP bm 0] w (bQ g gm (c5 c C).1 (c5 c C).2 w):=by
 obtain⟨hcode1,hcode2⟩:=hcode
 have hlen:=hC.len
 refine en 26 Tryz.func201 rfl<|sg<|aF hbc 0<|aq<|m3 (bD hC) fun M y i N=>bt C.byteV<|Pl 1<|ng<|?_
 have j:=aS i n_bc_g hbc
 refine aF j 0<|Pl 1<|L0<|Oe (vI (Int.tmod C.byteV 2)) (vI (C.byteV%2)) (congrArg (Value.int .i64) (Int.tmod_eq_emod_of_nonneg (by omega)))<|Pl 2<|dc 3 [10] 13 10 ((C.byteV%2)==0) (decide (2≤C.byteV)) (fun K z A=>?_) ?_
 have O:=ap A
 exact Pl 3<|ce z _ rfl
 refine Pl 1<|dc 3 [14] 17 14 (((C.byteV%2)==0)&&(decide (2≤C.byteV))) (decide (C.byteV≤250)) (fun K B k=>?_) ?_
 have D:=(aW k).1
 have E:=(aW k).2
 have P:=ap D
 have Q:=of_decide_eq_true E
 exact Pl 3<|ce B _ rfl
 refine aq<|m2 (aZ (((((C.byteV%2)==0)&&(decide (2≤C.byteV)))&&(decide (C.byteV≤250)))) 5 y) fun R F G=>nt<|Rg 8 (fun w'=>w'.cell? ⟨bm,0,none⟩=some (vP gm 0)∧w'.cell? ⟨bc,0,none⟩=some (vP g 0)) fun S l=>?_
 have m:=aQ G l
 have b:=u1 i m im
 have o:=aS b n_bm_g hbm
 have p:=aS m n_bc_g j
 refine bz ⟨(ak o rfl),(ak p rfl)⟩ fun d=>Rl 0 d (fun _ hs=>hs.1)<|Rl 1 d (fun _ hs=>hs.2)<|Rt 2 d<|Rr 3 d (vI (C.byteV/2)) (fun _ _=>bv (vI (IntKind.i64.wrap (Int.tdiv C.byteV 2))) (by kernel_rfl) (congrArg (Value.int .i64) (eJ (by omega) (by omega))))<|?_
 refine R0 4 rfl<|Oc<|iG (dn (n:=(C.byteV/2)) (ae.old F l)) fun H I T q U V J f=>?_
 have r:=aS f n_bm_g o
 have s:=aS f n_bc_g p
 refine bz ⟨(ak r rfl),(ak s rfl)⟩ fun t=>Rt 5 t<|Rt 6 t<|?_
 have u:=u1 b f im
 have v:=aS u (Ne.symm hne) hm
 refine R0 7 rfl<|bE v 12 (mG c 0 0 0 0 0 0 0 0 0 0 0 (.slice H ((((C.bytesC 1).need ((((C.byteV%2)==0)&&(decide (2≤C.byteV)))&&(decide (C.byteV≤250))) 5).wordsR (C.byteV/2)).length) I) nS nS nS 0 0 0 0 0 nS) fun W L a=>?_
 refine bz ⟨(ak (aS a n_bm_gm r) rfl),(ak (aS a n_bc_gm s) rfl)⟩ fun X=>re<|rm (.tuple #[])<|?_
 exact cZ (by unfold c5 nN hH;(try simp only[bp,reduceIte])<;>rfl) ⟨rfl,(ae.upd J a (aa hne ax) (ah (aR v (by decide)) aE)),⟨_,⟨L,rfl⟩,⟨_,_,_,_,_,rfl,(aT.hi (av q a (fun x hx=>(aa (fun e=>(aD (ai hm) b.size q) (e▸hx)) ax)) (fun _ _ h=>h)) b.size),aG.nil ..,aG.nil ..,aG.nil ..,aG.nil ..,(bR (by omega))⟩⟩,(us u a)⟩
theorem vM(hcode:B8 c)(hC:ae w g C)(hm:w.heap[gm]? = some (.cells (mC c) 45 (0,0)))(hne:g≠gm)   (hbc:w.heap[bc]? = some (.cells #[vP g 0] 164 (0,0)))(n_bc_g:bc≠g)(n_bc_gm:bc≠gm)(hbm:w.heap[bm]? = some (.cells #[vP gm 0] 166 (0,0)))(n_bm_g:bm≠g)(n_bm_gm:bm≠gm) :
    Calls Tryz.prog 203 #[vP bc 0,vP bm 0] w (bQ g gm (d9 c C).1 (d9 c C).2 w):=by
 obtain⟨hcode1,hcode2⟩:=hcode
 have hlen:=hC.len
 refine en 12 Tryz.func203 rfl<|Rg 12 (fun w'=>w'.cell? ⟨bm,0,none⟩=some (vP gm 0)∧w'.cell? ⟨bc,0,none⟩=some (vP g 0)) fun A a=>?_
 have i:=ub a hbm
 have j:=ub a hbc
 refine bz ⟨(ak i rfl),(ak j rfl)⟩ fun b=>Rl 0 b (fun _ hs=>hs.1)<|Rl 1 b (fun _ hs=>hs.1)<|Rl 2 b (fun _ hs=>hs.2)<|Rl 4 b (fun _ hs=>hs.2)<|?_
 refine R0 3 rfl<|Oc<|m3 (bF (ae.old hC a)) fun B v d D=>?_
 have k:=aS d n_bm_g i
 have l:=aS d n_bc_g j
 refine bz ⟨(ak k rfl),(ak l rfl)⟩ fun E=>R0 5 rfl<|Oc<|m3 (bF v) fun F x e G=>?_
 have m:=aS e n_bm_g k
 have n:=aS e n_bc_g l
 refine bz ⟨(ak m rfl),(ak n rfl)⟩ fun o=>Rt 6 o<|Rt 7 o<|?_
 have p:=uz a (u1 d e im)
 have q:=aS p (Ne.symm hne) hm
 refine R0 8 rfl<|bE q 2 (mG c 0 C.wordV 0 0 0 0 0 0 0 0 0 nS nS nS nS 0 0 0 0 0 nS) fun H y f=>?_
 have r:=aS f n_bm_gm m
 have s:=aS f n_bc_gm n
 refine bz ⟨(ak r rfl),(ak s rfl)⟩ fun t=>Rt 9 t<|Rt 10 t<|R0 11 rfl<|bE y 4 (mG c 0 C.wordV 0 ((C.wordsC 1).wordV) 0 0 0 0 0 0 0 nS nS nS nS 0 0 0 0 0 nS) fun I z h=>?_
 refine bz ⟨(ak (aS h n_bm_gm r) rfl),(ak (aS h n_bc_gm s) rfl)⟩ fun J=>re<|rm (.tuple #[])<|?_
 have hs:d9 c C=(((C.wordsC 1).wordsC 1),(b6.mk c 0 C.wordV 0 ((C.wordsC 1).wordV) 0 0 0 0 0 0 0 [] [] [] [] 0 0 0 0 0 [])):=by
   unfold d9
   (try simp only[bp,reduceIte])
   all_goals rfl
 rw[hs]
 have u:=u1 f h im
 exact⟨rfl,(ae.upd x u (aa hne ax) (ah (aR q (by decide)) aE)),⟨_,⟨z,rfl⟩,⟨_,_,_,_,_,rfl,aG.nil ..,aG.nil ..,aG.nil ..,aG.nil ..,aG.nil ..,(bR (by omega))⟩⟩,(us p u)⟩
theorem vf{ask:Bool}     (hcode:B8 c)(hC:ae w g C)(hm:w.heap[gm]? = some (.cells (mC c) 45 (0,0)))(hne:g≠gm)    {ba:Nat}(hbc:w.heap[bc]? = some (.cells #[vP g 0] 164 (0,0)))(n_bc_g:bc≠g)(n_bc_gm:bc≠gm)(hbm:w.heap[bm]? = some (.cells #[vP gm 0] 166 (0,0)))(n_bm_g:bm≠g)(n_bm_gm:bm≠gm)(hbw:w.heap[bw]? = some (.cells #[.func (.func 198) #[] #[vP bc 0,vP bm 0]] 218 (0,0)))(n_bw_g:bw≠g)(n_bw_gm:bw≠gm)(hba:w.heap[ba]? = some (.cells #[.bool ask] 4 (0,0)))(n_ba_g:ba≠g)(n_ba_gm:ba≠gm)(hask:ask=true) :
    Calls Tryz.prog 204 #[vP bw 0,vP ba 0,vP bc 0,vP bm 0] w (bQ g gm (cF c C).1 (cF c C).2 w):=by
 obtain⟨hcode1,hcode2⟩:=hcode
 have hlen:=hC.len
 refine en 17 Tryz.func204 rfl<|sg<|aF hbw 0<|L0<|fV #[] #[vP bc 0,vP bm 0] (args:=#[vI 123,vP bc 0,vP bm 0])<|m3 (fQ (most:=123) ⟨hcode1,hcode2⟩ hC hm hne hbc n_bc_g n_bc_gm hbm n_bm_g n_bm_gm) fun B u v k=>?_
 have D:=(hC).wordV
 have E:=bG (c3 (hC).rng 1)
 refine ng<|?_
 refine aF (aC.blk k (aa n_ba_g (aa n_ba_gm ax)) hba) 0<|nt<|ct hask<|Rg 11 (fun w'=>w'.cell? ⟨bm,0,none⟩=some (vP gm 0)∧w'.cell? ⟨bc,0,none⟩=some (vP g 0)∧w'.cell? ⟨gm,3,none⟩=some (vW ((C.wordsC 1).wordV))) fun F i=>?_
 have b:=aQ k i
 have l:=aC.blk b (aa n_bm_g (aa n_bm_gm ax)) hbm
 have m:=aC.blk b (aa n_bc_g (aa n_bc_gm ax)) hbc
 have o:=ub i v
 refine bz ⟨(ak l rfl),(ak m rfl),(ak o rfl)⟩ fun a=>Rl 0 a (fun _ hs=>hs.1)<|Rl 1 a (fun _ hs=>hs.2.1)<|Rl 2 a (fun _ hs=>hs.1)<|Rt 3 a<|Rt 4 a<|Rl 5 a (fun _ hs=>hs.2.2)<|Rr 6 a (vI ((C.wordsC 1).wordV)) (fun _ _=>bv (vI (IntKind.i64.wrap ((C.wordsC 1).wordV))) (by kernel_rfl) (congrArg (Value.int .i64) (i64_in (by omega))))<|?_
 refine R0 7 rfl<|Oc<|iG (ie (n:=(C.wordsC 1).wordV) (ae.old u i) (by omega)) fun y z G p H I A f=>?_
 have q:=aS f n_bm_g l
 have r:=aS f n_bc_g m
 have j:=aS f (Ne.symm hne) o
 refine bz ⟨(ak q rfl),(ak r rfl),(ak j rfl)⟩ fun s=>Rt 8 s<|Rt 9 s<|R0 10 rfl<|bE j 12 (mG c 0 C.wordV ((C.wordsC 1).wordV) 0 0 0 0 0 0 0 0 (.slice y (((cv (bB (C.wordsC 1) C.wordV 123) ((C.wordsC 1).wordV)).wordsR ((C.wordsC 1).wordV)).length) z) nS nS nS 0 0 0 0 0 nS) fun J t d=>?_
 refine bz ⟨(ak (aS d n_bm_gm q) rfl),(ak (aS d n_bc_gm r) rfl),(ak t rfl)⟩ fun K=>re<|rm (.tuple #[])<|?_
 have hs:cF c C=(((cv (bB (C.wordsC 1) C.wordV 123) ((C.wordsC 1).wordV)).wordsC ((C.wordsC 1).wordV)),(b6.mk c 0 C.wordV ((C.wordsC 1).wordV) 0 0 0 0 0 0 0 0 ((cv (bB (C.wordsC 1) C.wordV 123) ((C.wordsC 1).wordV)).wordsR ((C.wordsC 1).wordV)) [] [] [] 0 0 0 0 0 [])):=by
   unfold cF kH
   (try simp only[hask,bp,reduceIte])
   all_goals rfl
 rw[hs]
 exact⟨rfl,(ae.upd A d (aa hne ax) (ah (aR j (by decide)) aE)),⟨_,⟨t,rfl⟩,⟨_,_,_,_,_,rfl,(aT.hi (av p d (fun x hx=>(aa (fun e=>(aD (ai hm) b.size p) (e▸hx)) ax)) (fun _ _ h=>h)) b.size),aG.nil ..,aG.nil ..,aG.nil ..,aG.nil ..,(bR (by omega))⟩⟩,(ut b (us f d) (ac im (ac im aA)))⟩
theorem vh{ask:Bool}     (hcode:B8 c)(hC:ae w g C)(hm:w.heap[gm]? = some (.cells (mC c) 45 (0,0)))(hne:g≠gm)    {ba:Nat}(hbc:w.heap[bc]? = some (.cells #[vP g 0] 164 (0,0)))(n_bc_g:bc≠g)(n_bc_gm:bc≠gm)(hbm:w.heap[bm]? = some (.cells #[vP gm 0] 166 (0,0)))(n_bm_g:bm≠g)(n_bm_gm:bm≠gm)(hbw:w.heap[bw]? = some (.cells #[.func (.func 198) #[] #[vP bc 0,vP bm 0]] 218 (0,0)))(n_bw_g:bw≠g)(n_bw_gm:bw≠gm)(hba:w.heap[ba]? = some (.cells #[.bool ask] 4 (0,0)))(n_ba_g:ba≠g)(n_ba_gm:ba≠gm)(hask:ask=false) :
    Calls Tryz.prog 204 #[vP bw 0,vP ba 0,vP bc 0,vP bm 0] w (bQ g gm (bL 123 c C).1 (bL 123 c C).2 w):=by
 obtain⟨hcode1,hcode2⟩:=hcode
 have hlen:=hC.len
 refine en 17 Tryz.func204 rfl<|sg<|aF hbw 0<|L0<|fV #[] #[vP bc 0,vP bm 0] (args:=#[vI 123,vP bc 0,vP bm 0])<|m3 (fQ (most:=123) ⟨hcode1,hcode2⟩ hC hm hne hbc n_bc_g n_bc_gm hbm n_bm_g n_bm_gm) fun e b d a=>?_
 have f:=(hC).wordV
 have h:=bG (c3 (hC).rng 1)
 refine ng<|?_
 refine aF (aC.blk a (aa n_ba_g (aa n_ba_gm ax)) hba) 0<|nt<|cf hask<|sk<|rm (.tuple #[])<|?_
 have hs:bL 123 c C=((bB (C.wordsC 1) C.wordV 123),(b6.mk c 0 C.wordV ((C.wordsC 1).wordV) 0 0 0 0 0 0 0 0 [] [] [] [] 0 0 0 0 0 [])):=by
   unfold bL
   (try simp only[hask,bp,reduceIte])
   all_goals rfl
 rw[hs]
 exact⟨rfl,b,⟨_,⟨d,rfl⟩,⟨_,_,_,_,_,rfl,aG.nil ..,aG.nil ..,aG.nil ..,aG.nil ..,aG.nil ..,(bR (by omega))⟩⟩,a⟩
theorem vS(hcode:B8 c)(hC:ae w g C)(hm:w.heap[gm]? = some (.cells (mC c) 45 (0,0)))(hne:g≠gm)   (hbc:w.heap[bc]? = some (.cells #[vP g 0] 164 (0,0)))(n_bc_g:bc≠g)(n_bc_gm:bc≠gm)(hbm:w.heap[bm]? = some (.cells #[vP gm 0] 166 (0,0)))(n_bm_g:bm≠g)(n_bm_gm:bm≠gm) :
    Calls Tryz.prog 206 #[vP bc 0,vP bm 0] w (bQ g gm (ck c C).1 (ck c C).2 w):=by
 obtain⟨hcode1,hcode2⟩:=hcode
 have hlen:=hC.len
 refine en 17 Tryz.func206 rfl<|Rg 18 (fun w'=>w'.cell? ⟨bm,0,none⟩=some (vP gm 0)∧w'.cell? ⟨bc,0,none⟩=some (vP g 0)) fun K b=>?_
 have k:=ub b hbm
 have l:=ub b hbc
 refine bz ⟨(ak k rfl),(ak l rfl)⟩ fun a=>Rl 0 a (fun _ hs=>hs.1)<|Rl 1 a (fun _ hs=>hs.1)<|Rl 2 a (fun _ hs=>hs.1)<|Rl 3 a (fun _ hs=>hs.2)<|Rl 5 a (fun _ hs=>hs.2)<|Rl 7 a (fun _ hs=>hs.2)<|?_
 refine R0 4 rfl<|Oc<|m3 (bF (ae.old hC b)) fun L E d M=>?_
 have m:=aS d n_bm_g k
 have n:=aS d n_bc_g l
 refine bz ⟨(ak m rfl),(ak n rfl)⟩ fun N=>R0 6 rfl<|Oc<|m3 (bF E) fun O F e P=>?_
 have o:=aS e n_bm_g m
 have p:=aS e n_bc_g n
 refine bz ⟨(ak o rfl),(ak p rfl)⟩ fun Q=>R0 8 rfl<|Oc<|m3 (bF F) fun R G f S=>?_
 have q:=aS f n_bm_g o
 have r:=aS f n_bc_g p
 refine bz ⟨(ak q rfl),(ak r rfl)⟩ fun s=>Rt 9 s<|Rt 10 s<|?_
 have t:=uz b (u1 d (u1 e f im) im)
 have u:=aS t (Ne.symm hne) hm
 refine R0 11 rfl<|bE u 2 (mG c 0 C.wordV 0 0 0 0 0 0 0 0 0 nS nS nS nS 0 0 0 0 0 nS) fun T H h=>?_
 have v:=aS h n_bm_gm q
 have x:=aS h n_bc_gm r
 refine bz ⟨(ak v rfl),(ak x rfl)⟩ fun y=>Rt 12 y<|Rt 13 y<|R0 14 rfl<|bE H 5 (mG c 0 C.wordV 0 0 ((C.wordsC 1).wordV) 0 0 0 0 0 0 nS nS nS nS 0 0 0 0 0 nS) fun U I i=>?_
 have z:=aS i n_bm_gm v
 have A:=aS i n_bc_gm x
 refine bz ⟨(ak z rfl),(ak A rfl)⟩ fun B=>Rt 15 B<|Rt 16 B<|R0 17 rfl<|bE I 6 (mG c 0 C.wordV 0 0 ((C.wordsC 1).wordV) (((C.wordsC 1).wordsC 1).wordV) 0 0 0 0 0 nS nS nS nS 0 0 0 0 0 nS) fun V J j=>?_
 refine bz ⟨(ak (aS j n_bm_gm z) rfl),(ak (aS j n_bc_gm A) rfl)⟩ fun W=>re<|rm (.tuple #[])<|?_
 have hs:ck c C=((((C.wordsC 1).wordsC 1).wordsC 1),(b6.mk c 0 C.wordV 0 0 ((C.wordsC 1).wordV) (((C.wordsC 1).wordsC 1).wordV) 0 0 0 0 0 [] [] [] [] 0 0 0 0 0 [])):=by
   unfold ck
   (try simp only[bp,reduceIte])
   all_goals rfl
 rw[hs]
 have D:=u1 h (u1 i j im) im
 exact⟨rfl,(ae.upd G D (aa hne ax) (ah (aR u (by decide)) aE)),⟨_,⟨J,rfl⟩,⟨_,_,_,_,_,rfl,aG.nil ..,aG.nil ..,aG.nil ..,aG.nil ..,aG.nil ..,(bR (by omega))⟩⟩,(us t D)⟩
theorem w8(hcode:B8 c)(hC:ae w g C)(hm:w.heap[gm]? = some (.cells (mC c) 45 (0,0)))(hne:g≠gm)    (hbc:w.heap[bc]? = some (.cells #[vP g 0] 164 (0,0)))(n_bc_g:bc≠g)(n_bc_gm:bc≠gm)(hbm:w.heap[bm]? = some (.cells #[vP gm 0] 166 (0,0)))(n_bm_g:bm≠g)(n_bm_gm:bm≠gm)(hbw:w.heap[bw]? = some (.cells #[.func (.func 198) #[] #[vP bc 0,vP bm 0]] 218 (0,0)))(n_bw_g:bw≠g)(n_bw_gm:bw≠gm) :
    Calls Tryz.prog 207 #[vP bw 0,vP bc 0,vP bm 0] w (bQ g gm (cE c C).1 (cE c C).2 w):=by
 obtain⟨hcode1,hcode2⟩:=hcode
 have hlen:=hC.len
 refine en 21 Tryz.func207 rfl<|sg<|aF hbw 0<|L0<|fV #[] #[vP bc 0,vP bm 0] (args:=#[vI 125,vP bc 0,vP bm 0])<|m3 (fQ (most:=125) ⟨hcode1,hcode2⟩ hC hm hne hbc n_bc_g n_bc_gm hbm n_bm_g n_bm_gm) fun X P Q o=>?_
 have Y:=(hC).wordV
 have Z:=bG (c3 (hC).rng 1)
 refine nt<|sq<|Rg 6 (fun w'=>w'.cell? ⟨bm,0,none⟩=some (vP gm 0)∧w'.cell? ⟨bc,0,none⟩=some (vP g 0)) fun a0 j=>?_
 have p:=aQ o j
 have r:=aC.blk p (aa n_bm_g (aa n_bm_gm ax)) hbm
 have s:=aC.blk p (aa n_bc_g (aa n_bc_gm ax)) hbc
 refine bz ⟨(ak r rfl),(ak s rfl)⟩ fun t=>Rl 0 t (fun _ hs=>hs.1)<|Rl 1 t (fun _ hs=>hs.2)<|?_
 refine R0 2 rfl<|Oc<|m3 (bF (ae.old P j)) fun a1 R d a2=>?_
 have u:=aS d n_bm_g r
 have v:=aS d n_bc_g s
 refine bz ⟨(ak u rfl),(ak v rfl)⟩ fun y=>Rt 3 y<|Rt 4 y<|?_
 have z:=aS (uz j d) (Ne.symm hne) Q
 refine R0 5 rfl<|bE z 7 (mG c 0 C.wordV ((C.wordsC 1).wordV) 0 0 0 ((bB (C.wordsC 1) C.wordV 125).wordV) 0 0 0 0 nS nS nS nS 0 0 0 0 0 nS) fun a3 S k=>?_
 have A:=aS k n_bm_gm u
 have B:=aS k n_bc_gm v
 refine bz ⟨(ak A rfl),(ak B rfl)⟩ fun a4=>re<|tn<|Rg 12 (fun w'=>w'.cell? ⟨bm,0,none⟩=some (vP gm 0)∧w'.cell? ⟨bc,0,none⟩=some (vP g 0)∧w'.cell? ⟨gm,7,none⟩=some (vW ((bB (C.wordsC 1) C.wordV 125).wordV))) fun a5 f=>?_
 have D:=ub f A
 have E:=ub f B
 have F:=ub f S
 refine bz ⟨(ak D rfl),(ak E rfl),(ak F rfl)⟩ fun b=>Rl 0 b (fun _ hs=>hs.1)<|Rl 1 b (fun _ hs=>hs.2.1)<|Rl 2 b (fun _ hs=>hs.2.1)<|Rl 3 b (fun _ hs=>hs.1)<|Rt 4 b<|Rt 5 b<|Rl 6 b (fun _ hs=>hs.2.2)<|?_
 have G:=aQ k f
 refine R0 7 rfl<|Oc<|m3 (kx (a:=(bB (C.wordsC 1) C.wordV 125).wordV) (most:=121) (ae.upd R G (aa hne ax) (ah (aR z (by decide)) aE)) (by omega)) fun a6 T i a7=>?_
 have H:=aS i n_bm_g D
 have I:=aS i n_bc_g E
 have J:=aS i (Ne.symm hne) F
 refine bz ⟨(ak H rfl),(ak I rfl),(ak J rfl)⟩ fun a8=>R0 8 rfl<|Oc<|iG (ie (n:=((bB (C.wordsC 1) C.wordV 125).wordsC 1).wordV) T (by omega)) fun U V a9 K ab ad W m=>?_
 have L:=aS m n_bm_g H
 have M:=aS m n_bc_g I
 have q:=aS m (Ne.symm hne) J
 refine bz ⟨(ak L rfl),(ak M rfl),(ak q rfl)⟩ fun N=>Rt 9 N<|Rt 10 N<|R0 11 rfl<|bE q 12 (mG c 0 C.wordV ((C.wordsC 1).wordV) 0 0 0 ((bB (C.wordsC 1) C.wordV 125).wordV) 0 0 0 0 (.slice U (((cv (bB ((bB (C.wordsC 1) C.wordV 125).wordsC 1) ((bB (C.wordsC 1) C.wordV 125).wordV) 121) (((bB (C.wordsC 1) C.wordV 125).wordsC 1).wordV)).wordsR (((bB (C.wordsC 1) C.wordV 125).wordsC 1).wordV)).length) V) nS nS nS 0 0 0 0 0 nS) fun af O l=>?_
 refine bz ⟨(ak (aS l n_bm_gm L) rfl),(ak (aS l n_bc_gm M) rfl),(ak O rfl)⟩ fun aj=>re<|rm (.tuple #[])<|?_
 have hs:cE c C=(((cv (bB ((bB (C.wordsC 1) C.wordV 125).wordsC 1) ((bB (C.wordsC 1) C.wordV 125).wordV) 121) (((bB (C.wordsC 1) C.wordV 125).wordsC 1).wordV)).wordsC (((bB (C.wordsC 1) C.wordV 125).wordsC 1).wordV)),(b6.mk c 0 C.wordV ((C.wordsC 1).wordV) 0 0 0 ((bB (C.wordsC 1) C.wordV 125).wordV) 0 0 0 0 ((cv (bB ((bB (C.wordsC 1) C.wordV 125).wordsC 1) ((bB (C.wordsC 1) C.wordV 125).wordV) 121) (((bB (C.wordsC 1) C.wordV 125).wordsC 1).wordV)).wordsR (((bB (C.wordsC 1) C.wordV 125).wordsC 1).wordV)) [] [] [] 0 0 0 0 0 [])):=by
   unfold cE l0 pD ki
   (try simp only[bp,reduceIte])
   all_goals rfl
 rw[hs]
 exact⟨rfl,(ae.upd W l (aa hne ax) (ah (aR q (by decide)) aE)),⟨_,⟨O,rfl⟩,⟨_,_,_,_,_,rfl,(aT.hi (av K l (fun x hx=>(aa (fun e=>(aD (ai hm) (le (le (le (le (le o.size j.size) d.size) k.size) f.size) i.size) K) (e▸hx)) ax)) (fun _ _ h=>h)) (le (le (le (le (le o.size j.size) d.size) k.size) f.size) i.size)),aG.nil ..,aG.nil ..,aG.nil ..,aG.nil ..,(bR (by omega))⟩⟩,(ut p (ui d (ui G (ui i (us m l)))) (ac im (ac im aA)))⟩
theorem wc(hcode:B8 c)(hC:ae w g C)(hm:w.heap[gm]? = some (.cells (mC c) 45 (0,0)))(hne:g≠gm)   (hbc:w.heap[bc]? = some (.cells #[vP g 0] 164 (0,0)))(n_bc_g:bc≠g)(n_bc_gm:bc≠gm)(hbm:w.heap[bm]? = some (.cells #[vP gm 0] 166 (0,0)))(n_bm_g:bm≠g)(n_bm_gm:bm≠gm) :
    Calls Tryz.prog 208 #[vP bc 0,vP bm 0] w (bQ g gm (cG c C).1 (cG c C).2 w):=by
 obtain⟨hcode1,hcode2⟩:=hcode
 have hlen:=hC.len
 refine en 7 Tryz.func208 rfl<|Rg 6 (fun w'=>w'.cell? ⟨bm,0,none⟩=some (vP gm 0)∧w'.cell? ⟨bc,0,none⟩=some (vP g 0)) fun p a=>?_
 have e:=ub a hbm
 have f:=ub a hbc
 refine bz ⟨(ak e rfl),(ak f rfl)⟩ fun h=>Rl 0 h (fun _ hs=>hs.1)<|Rl 1 h (fun _ hs=>hs.2)<|?_
 refine R0 2 rfl<|Oc<|m3 (bF (ae.old hC a)) fun q n d r=>?_
 have i:=aS d n_bm_g e
 have j:=aS d n_bc_g f
 refine bz ⟨(ak i rfl),(ak j rfl)⟩ fun k=>Rt 3 k<|Rt 4 k<|?_
 have l:=uz a d
 have m:=aS l (Ne.symm hne) hm
 refine R0 5 rfl<|bE m 2 (mG c 0 C.wordV 0 0 0 0 0 0 0 0 0 nS nS nS nS 0 0 0 0 0 nS) fun s o b=>?_
 refine bz ⟨(ak (aS b n_bm_gm i) rfl),(ak (aS b n_bc_gm j) rfl)⟩ fun t=>re<|rm (.tuple #[])<|?_
 have hs:cG c C=((C.wordsC 1),(b6.mk c 0 C.wordV 0 0 0 0 0 0 0 0 0 [] [] [] [] 0 0 0 0 0 [])):=by
   unfold cG
   (try simp only[bp,reduceIte])
   all_goals rfl
 rw[hs]
 exact⟨rfl,(ae.upd n b (aa hne ax) (ah (aR m (by decide)) aE)),⟨_,⟨o,rfl⟩,⟨_,_,_,_,_,rfl,aG.nil ..,aG.nil ..,aG.nil ..,aG.nil ..,aG.nil ..,(bR (by omega))⟩⟩,(us l b)⟩
theorem wb(hcode:B8 c)(hC:ae w g C)(hm:w.heap[gm]? = some (.cells (mC c) 45 (0,0)))(hne:g≠gm)   (hbc:w.heap[bc]? = some (.cells #[vP g 0] 164 (0,0)))(n_bc_g:bc≠g)(n_bc_gm:bc≠gm)(hbm:w.heap[bm]? = some (.cells #[vP gm 0] 166 (0,0)))(n_bm_g:bm≠g)(n_bm_gm:bm≠gm) :
    Calls Tryz.prog 209 #[vP bc 0,vP bm 0] w (bQ g gm (jC c C).1 (jC c C).2 w):=by
 obtain⟨hcode1,hcode2⟩:=hcode
 have hlen:=hC.len
 refine en 36 Tryz.func209 rfl<|sg<|aF hbc 0<|aq<|m3 (bF hC) fun S D i T=>bt C.wordV<|Pl 1<|ng<|?_
 have j:=aS i n_bc_g hbc
 refine aF j 0<|Pl 1<|L0<|Oe (vI (Int.tmod C.wordV 2)) (vI (C.wordV%2)) (congrArg (Value.int .i64) (Int.tmod_eq_emod_of_nonneg (by omega)))<|Pl 2<|dc 3 [11] 14 11 ((C.wordV%2)==0) (decide (2≤C.wordV)) (fun K E F=>?_) ?_
 have U:=ap F
 exact Pl 3<|ce E _ rfl
 refine Pl 1<|dc 3 [15] 18 15 (((C.wordV%2)==0)&&(decide (2≤C.wordV))) (decide (C.wordV≤64)) (fun K G k=>?_) ?_
 have H:=(aW k).1
 have I:=(aW k).2
 have V:=ap H
 have W:=of_decide_eq_true I
 exact Pl 3<|ce G _ rfl
 refine aq<|m2 (aZ (((((C.wordV%2)==0)&&(decide (2≤C.wordV)))&&(decide (C.wordV≤64)))) 5 D) fun X J l=>ng<|?_
 have m:=aS l n_bc_g j
 refine aF m 0<|aq<|m3 (bF J) fun Y L o Z=>bt (((C.wordsC 1).need ((((C.wordV%2)==0)&&(decide (2≤C.wordV)))&&(decide (C.wordV≤64))) 5).wordV)<|Pl 1<|ng<|?_
 have p:=aS o n_bc_g m
 refine aF p 0<|Pl 1<|bt (2*(((C.wordsC 1).need ((((C.wordV%2)==0)&&(decide (2≤C.wordV)))&&(decide (C.wordV≤64))) 5).wordV))<|bt (2+(2*(((C.wordsC 1).need ((((C.wordV%2)==0)&&(decide (2≤C.wordV)))&&(decide (C.wordV≤64))) 5).wordV)))<|Pl 2<|aq<|m2 (aZ (((2+(2*(((C.wordsC 1).need ((((C.wordV%2)==0)&&(decide (2≤C.wordV)))&&(decide (C.wordV≤64))) 5).wordV)))==C.wordV)) 5 L) fun a0 M N=>nt<|Rg 7 (fun w'=>w'.cell? ⟨bm,0,none⟩=some (vP gm 0)∧w'.cell? ⟨bc,0,none⟩=some (vP g 0)) fun a1 q=>?_
 have r:=aQ N q
 have b:=u1 i (u1 l (u1 o r im) im) im
 have s:=aS b n_bm_g hbm
 have t:=aS r n_bc_g p
 refine bz ⟨(ak s rfl),(ak t rfl)⟩ fun d=>Rl 0 d (fun _ hs=>hs.1)<|Rl 1 d (fun _ hs=>hs.2)<|Rt 2 d<|?_
 refine R0 3 rfl<|Oc<|iG (dn (n:=((C.wordsC 1).need ((((C.wordV%2)==0)&&(decide (2≤C.wordV)))&&(decide (C.wordV≤64))) 5).wordV) (ae.old M q)) fun O P a2 u a3 a4 Q f=>?_
 have v:=aS f n_bm_g s
 have y:=aS f n_bc_g t
 refine bz ⟨(ak v rfl),(ak y rfl)⟩ fun z=>Rt 4 z<|Rt 5 z<|?_
 have A:=u1 b f im
 have B:=aS A (Ne.symm hne) hm
 refine R0 6 rfl<|bE B 12 (mG c 0 0 0 0 0 0 0 0 0 0 0 (.slice O ((((((C.wordsC 1).need ((((C.wordV%2)==0)&&(decide (2≤C.wordV)))&&(decide (C.wordV≤64))) 5).wordsC 1).need ((2+(2*(((C.wordsC 1).need ((((C.wordV%2)==0)&&(decide (2≤C.wordV)))&&(decide (C.wordV≤64))) 5).wordV)))==C.wordV) 5).wordsR (((C.wordsC 1).need ((((C.wordV%2)==0)&&(decide (2≤C.wordV)))&&(decide (C.wordV≤64))) 5).wordV)).length) P) nS nS nS 0 0 0 0 0 nS) fun a5 R a=>?_
 refine bz ⟨(ak (aS a n_bm_gm v) rfl),(ak (aS a n_bc_gm y) rfl)⟩ fun a6=>re<|rm (.tuple #[])<|?_
 exact cZ (by unfold jC uN tL hH;(try simp only[bp,reduceIte])<;>rfl) ⟨rfl,(ae.upd Q a (aa hne ax) (ah (aR B (by decide)) aE)),⟨_,⟨R,rfl⟩,⟨_,_,_,_,_,rfl,(aT.hi (av u a (fun x hx=>(aa (fun e=>(aD (ai hm) b.size u) (e▸hx)) ax)) (fun _ _ h=>h)) b.size),aG.nil ..,aG.nil ..,aG.nil ..,aG.nil ..,(bR (by omega))⟩⟩,(us A a)⟩
open Go.RowKit
theorem oy(hC:ae w g C)(hm:w.heap[gm]? = some (.cells (mC 3) 45 (0,0)))(hne:g≠gm) : Calls Tryz.prog 148 #[vI 0,vP gm 0,vP g 0] w (gp (fun W=>bQ g gm (bL 125 3 C).1 (bL 125 3 C).2 W) w):=by
 refine en 67 Tryz.func148 rfl<|sg<|L0<|dw #[vP gm 0] fun n D f o a=>L0<|dw #[vP g 0] fun p E h q b=>Pl 1<|aK 1<|aJ #[.nilFunc] fun r F d s t=>L0<|bE s 0 #[.func (.func 198) #[] #[vP p 0,vP n 0]] fun G u v=>nl<|tn<|al 2<|aJ #[.bool false] fun H I x y z=>L0<|bE y 0 #[.bool true] fun J A B=>nt<|sq<|sg<|?_
 have i:=ud z B x
 have j:=ud t (aQ v i) d
 have k:=aQ b j
 have l:=ub k o
 refine aF l 0<|Pl 2<|?_
 have e:=aQ a k
 have m:=ub e hm
 refine aF m 0<|am 1<|bk<|sg<|aF A 0<|am 9<|c1<|az 2<|rt<|br<|tr<|rr (.func (.func 200) #[] #[vP r 0])<|?_
 exact⟨_,_,rfl,by kernel_rfl,e,vX (c:=3) ⟨by decide,by decide⟩ (ae.old hC e) m hne (ub j q) (Ne.symm (nb (ae.lt hC) a.size h)) (Ne.symm (nb (ai hm) a.size h)) l (Ne.symm (nb (ae.lt hC) lr f)) (Ne.symm (nb (ai hm) lr f)) (ub i u) (Ne.symm (nb (ae.lt hC) (le a.size b.size) d)) (Ne.symm (nb (ai hm) (le a.size b.size) d))⟩
theorem pf(hC:ae w g C)(hm:w.heap[gm]? = some (.cells (mC 4) 45 (0,0)))(hne:g≠gm) : Calls Tryz.prog 148 #[vI 0,vP gm 0,vP g 0] w (gp (fun W=>bQ g gm (bL 125 4 C).1 (bL 125 4 C).2 W) w):=by
 refine en 67 Tryz.func148 rfl<|sg<|L0<|dw #[vP gm 0] fun n D f o a=>L0<|dw #[vP g 0] fun p E h q b=>Pl 1<|aK 1<|aJ #[.nilFunc] fun r F d s t=>L0<|bE s 0 #[.func (.func 198) #[] #[vP p 0,vP n 0]] fun G u v=>nl<|tn<|al 2<|aJ #[.bool false] fun H I x y z=>L0<|bE y 0 #[.bool true] fun J A B=>nt<|sq<|sg<|?_
 have i:=ud z B x
 have j:=ud t (aQ v i) d
 have k:=aQ b j
 have l:=ub k o
 refine aF l 0<|Pl 2<|?_
 have e:=aQ a k
 have m:=ub e hm
 refine aF m 0<|am 1<|bk<|sg<|aF A 0<|am 9<|c1<|az 2<|rt<|br<|tr<|rr (.func (.func 200) #[] #[vP r 0])<|?_
 exact⟨_,_,rfl,by kernel_rfl,e,vX (c:=4) ⟨by decide,by decide⟩ (ae.old hC e) m hne (ub j q) (Ne.symm (nb (ae.lt hC) a.size h)) (Ne.symm (nb (ai hm) a.size h)) l (Ne.symm (nb (ae.lt hC) lr f)) (Ne.symm (nb (ai hm) lr f)) (ub i u) (Ne.symm (nb (ae.lt hC) (le a.size b.size) d)) (Ne.symm (nb (ai hm) (le a.size b.size) d))⟩
theorem oD(hC:ae w g C)(hm:w.heap[gm]? = some (.cells (mC 3) 45 (0,0)))(hne:g≠gm) : Calls Tryz.prog 148 #[vI 1,vP gm 0,vP g 0] w (gp (fun W=>bQ g gm (c5 3 C).1 (c5 3 C).2 W) w):=by
 refine en 67 Tryz.func148 rfl<|sg<|L0<|dw #[vP gm 0] fun d z e m a=>L0<|dw #[vP g 0] fun f A h n o=>Pl 1<|aK 1<|aJ #[.nilFunc] fun B D p q r=>L0<|bE q 0 #[.func (.func 198) #[] #[vP f 0,vP d 0]] fun E F s=>nl<|tn<|al 2<|aJ #[.bool false] fun G H t u v=>L0<|bE u 0 #[.bool false] fun I x y=>nt<|sq<|sg<|?_
 have i:=ud r (aQ s (ud v y t)) p
 have j:=aQ o i
 have k:=ub j m
 refine aF k 0<|Pl 2<|?_
 have b:=aQ a j
 have l:=ub b hm
 refine aF l 0<|am 1<|bk<|sg<|aF x 0<|am 9<|c0<|sq<|sq<|go<|am 3<|c1<|bu<|c1<|az 2<|rt<|br<|tr<|rr (.func (.func 201) #[] #[vP f 0,vP d 0])<|?_
 exact⟨_,_,rfl,by kernel_rfl,b,v8 (c:=3) ⟨by decide,by decide⟩ (ae.old hC b) l hne (ub i n) (Ne.symm (nb (ae.lt hC) a.size h)) (Ne.symm (nb (ai hm) a.size h)) k (Ne.symm (nb (ae.lt hC) lr e)) (Ne.symm (nb (ai hm) lr e))⟩
theorem oE(hC:ae w g C)(hm:w.heap[gm]? = some (.cells (mC 4) 45 (0,0)))(hne:g≠gm) : Calls Tryz.prog 148 #[vI 1,vP gm 0,vP g 0] w (gp (fun W=>bQ g gm (c5 4 C).1 (c5 4 C).2 W) w):=by
 refine en 67 Tryz.func148 rfl<|sg<|L0<|dw #[vP gm 0] fun d z e m a=>L0<|dw #[vP g 0] fun f A h n o=>Pl 1<|aK 1<|aJ #[.nilFunc] fun B D p q r=>L0<|bE q 0 #[.func (.func 198) #[] #[vP f 0,vP d 0]] fun E F s=>nl<|tn<|al 2<|aJ #[.bool false] fun G H t u v=>L0<|bE u 0 #[.bool false] fun I x y=>nt<|sq<|sg<|?_
 have i:=ud r (aQ s (ud v y t)) p
 have j:=aQ o i
 have k:=ub j m
 refine aF k 0<|Pl 2<|?_
 have b:=aQ a j
 have l:=ub b hm
 refine aF l 0<|am 1<|bk<|sg<|aF x 0<|am 9<|c0<|sq<|sq<|go<|am 3<|c0<|az 3<|c1<|bu<|c1<|az 2<|rt<|br<|tr<|rr (.func (.func 201) #[] #[vP f 0,vP d 0])<|?_
 exact⟨_,_,rfl,by kernel_rfl,b,v8 (c:=4) ⟨by decide,by decide⟩ (ae.old hC b) l hne (ub i n) (Ne.symm (nb (ae.lt hC) a.size h)) (Ne.symm (nb (ai hm) a.size h)) k (Ne.symm (nb (ae.lt hC) lr e)) (Ne.symm (nb (ai hm) lr e))⟩
theorem pk(hC:ae w g C)(hm:w.heap[gm]? = some (.cells (mC 6) 45 (0,0)))(hne:g≠gm) : Calls Tryz.prog 148 #[vI 0,vP gm 0,vP g 0] w (gp (fun W=>bQ g gm (d9 6 C).1 (d9 6 C).2 W) w):=by
 refine en 67 Tryz.func148 rfl<|sg<|L0<|dw #[vP gm 0] fun d z e m a=>L0<|dw #[vP g 0] fun f A h n o=>Pl 1<|aK 1<|aJ #[.nilFunc] fun B D p q r=>L0<|bE q 0 #[.func (.func 198) #[] #[vP f 0,vP d 0]] fun E F s=>nl<|tn<|al 2<|aJ #[.bool false] fun G H t u v=>L0<|bE u 0 #[.bool true] fun I x y=>nt<|sq<|sg<|?_
 have i:=ud r (aQ s (ud v y t)) p
 have j:=aQ o i
 have k:=ub j m
 refine aF k 0<|Pl 2<|?_
 have b:=aQ a j
 have l:=ub b hm
 refine aF l 0<|am 1<|bk<|sg<|aF x 0<|am 9<|c0<|sq<|sq<|go<|am 3<|c0<|az 3<|c0<|go<|Pl 7<|nl<|tn<|c0<|az 3<|c1<|az 2<|rt<|br<|tr<|rr (.func (.func 203) #[] #[vP f 0,vP d 0])<|?_
 exact⟨_,_,rfl,by kernel_rfl,b,vM (c:=6) ⟨by decide,by decide⟩ (ae.old hC b) l hne (ub i n) (Ne.symm (nb (ae.lt hC) a.size h)) (Ne.symm (nb (ai hm) a.size h)) k (Ne.symm (nb (ae.lt hC) lr e)) (Ne.symm (nb (ai hm) lr e))⟩
theorem oF(hC:ae w g C)(hm:w.heap[gm]? = some (.cells (mC 6) 45 (0,0)))(hne:g≠gm) : Calls Tryz.prog 148 #[vI 1,vP gm 0,vP g 0] w (gp (fun W=>bQ g gm (d9 6 C).1 (d9 6 C).2 W) w):=by
 refine en 67 Tryz.func148 rfl<|sg<|L0<|dw #[vP gm 0] fun d z e m a=>L0<|dw #[vP g 0] fun f A h n o=>Pl 1<|aK 1<|aJ #[.nilFunc] fun B D p q r=>L0<|bE q 0 #[.func (.func 198) #[] #[vP f 0,vP d 0]] fun E F s=>nl<|tn<|al 2<|aJ #[.bool false] fun G H t u v=>L0<|bE u 0 #[.bool false] fun I x y=>nt<|sq<|sg<|?_
 have i:=ud r (aQ s (ud v y t)) p
 have j:=aQ o i
 have k:=ub j m
 refine aF k 0<|Pl 2<|?_
 have b:=aQ a j
 have l:=ub b hm
 refine aF l 0<|am 1<|bk<|sg<|aF x 0<|am 9<|c0<|sq<|sq<|go<|am 3<|c0<|az 3<|c0<|go<|Pl 7<|nl<|tn<|c0<|az 3<|c1<|az 2<|rt<|br<|tr<|rr (.func (.func 203) #[] #[vP f 0,vP d 0])<|?_
 exact⟨_,_,rfl,by kernel_rfl,b,vM (c:=6) ⟨by decide,by decide⟩ (ae.old hC b) l hne (ub i n) (Ne.symm (nb (ae.lt hC) a.size h)) (Ne.symm (nb (ai hm) a.size h)) k (Ne.symm (nb (ae.lt hC) lr e)) (Ne.symm (nb (ai hm) lr e))⟩
theorem nD(hC:ae w g C)(hm:w.heap[gm]? = some (.cells (mC 16) 45 (0,0)))(hne:g≠gm) : Calls Tryz.prog 148 #[vI 0,vP gm 0,vP g 0] w (gp (fun W=>bQ g gm (cF 16 C).1 (cF 16 C).2 W) w):=by
 refine en 67 Tryz.func148 rfl<|sg<|L0<|dw #[vP gm 0] fun j E k t a=>L0<|dw #[vP g 0] fun l F m u b=>Pl 1<|aK 1<|aJ #[.nilFunc] fun v G d x e=>L0<|bE x 0 #[.func (.func 198) #[] #[vP l 0,vP j 0]] fun H y f=>nl<|tn<|al 2<|aJ #[.bool false] fun z I h A B=>L0<|bE A 0 #[.bool true] fun J n D=>nt<|sq<|sg<|?_
 have o:=ud B D h
 have p:=ud e (aQ f o) d
 have q:=aQ b p
 have r:=ub q t
 refine aF r 0<|Pl 2<|?_
 have i:=aQ a q
 have s:=ub i hm
 refine aF s 0<|am 1<|bk<|sg<|aF n 0<|am 9<|c0<|sq<|sq<|go<|am 3<|c0<|az 3<|c0<|go<|Pl 7<|nl<|tn<|c0<|az 3<|c0<|az 3<|c1<|az 2<|rt<|br<|tr<|rr (.func (.func 204) #[] #[vP v 0,vP z 0,vP l 0,vP j 0])<|?_
 exact⟨_,_,rfl,by kernel_rfl,i,vf (c:=16) ⟨by decide,by decide⟩ (ae.old hC i) s hne (ub p u) (Ne.symm (nb (ae.lt hC) a.size m)) (Ne.symm (nb (ai hm) a.size m)) r (Ne.symm (nb (ae.lt hC) lr k)) (Ne.symm (nb (ai hm) lr k)) (ub o y) (Ne.symm (nb (ae.lt hC) (le a.size b.size) d)) (Ne.symm (nb (ai hm) (le a.size b.size) d)) n (Ne.symm (nb (ae.lt hC) (le (le (le a.size b.size) e.size) f.size) h)) (Ne.symm (nb (ai hm) (le (le (le a.size b.size) e.size) f.size) h)) rfl⟩
theorem n9(hC:ae w g C)(hm:w.heap[gm]? = some (.cells (mC 16) 45 (0,0)))(hne:g≠gm) : Calls Tryz.prog 148 #[vI 1,vP gm 0,vP g 0] w (gp (fun W=>bQ g gm (bL 123 16 C).1 (bL 123 16 C).2 W) w):=by
 refine en 67 Tryz.func148 rfl<|sg<|L0<|dw #[vP gm 0] fun j E k t a=>L0<|dw #[vP g 0] fun l F m u b=>Pl 1<|aK 1<|aJ #[.nilFunc] fun v G d x e=>L0<|bE x 0 #[.func (.func 198) #[] #[vP l 0,vP j 0]] fun H y f=>nl<|tn<|al 2<|aJ #[.bool false] fun z I h A B=>L0<|bE A 0 #[.bool false] fun J n D=>nt<|sq<|sg<|?_
 have o:=ud B D h
 have p:=ud e (aQ f o) d
 have q:=aQ b p
 have r:=ub q t
 refine aF r 0<|Pl 2<|?_
 have i:=aQ a q
 have s:=ub i hm
 refine aF s 0<|am 1<|bk<|sg<|aF n 0<|am 9<|c0<|sq<|sq<|go<|am 3<|c0<|az 3<|c0<|go<|Pl 7<|nl<|tn<|c0<|az 3<|c0<|az 3<|c1<|az 2<|rt<|br<|tr<|rr (.func (.func 204) #[] #[vP v 0,vP z 0,vP l 0,vP j 0])<|?_
 exact⟨_,_,rfl,by kernel_rfl,i,vh (c:=16) ⟨by decide,by decide⟩ (ae.old hC i) s hne (ub p u) (Ne.symm (nb (ae.lt hC) a.size m)) (Ne.symm (nb (ai hm) a.size m)) r (Ne.symm (nb (ae.lt hC) lr k)) (Ne.symm (nb (ai hm) lr k)) (ub o y) (Ne.symm (nb (ae.lt hC) (le a.size b.size) d)) (Ne.symm (nb (ai hm) (le a.size b.size) d)) n (Ne.symm (nb (ae.lt hC) (le (le (le a.size b.size) e.size) f.size) h)) (Ne.symm (nb (ai hm) (le (le (le a.size b.size) e.size) f.size) h)) rfl⟩
theorem nB(hC:ae w g C)(hm:w.heap[gm]? = some (.cells (mC 22) 45 (0,0)))(hne:g≠gm) : Calls Tryz.prog 148 #[vI 0,vP gm 0,vP g 0] w (gp (fun W=>bQ g gm (ck 22 C).1 (ck 22 C).2 W) w):=by
 refine en 67 Tryz.func148 rfl<|sg<|L0<|dw #[vP gm 0] fun d z e m a=>L0<|dw #[vP g 0] fun f A h n o=>Pl 1<|aK 1<|aJ #[.nilFunc] fun B D p q r=>L0<|bE q 0 #[.func (.func 198) #[] #[vP f 0,vP d 0]] fun E F s=>nl<|tn<|al 2<|aJ #[.bool false] fun G H t u v=>L0<|bE u 0 #[.bool true] fun I x y=>nt<|sq<|sg<|?_
 have i:=ud r (aQ s (ud v y t)) p
 have j:=aQ o i
 have k:=ub j m
 refine aF k 0<|Pl 2<|?_
 have b:=aQ a j
 have l:=ub b hm
 refine aF l 0<|am 1<|bk<|sg<|aF x 0<|am 9<|c0<|sq<|sq<|go<|am 3<|c0<|az 3<|c0<|go<|Pl 7<|nl<|tn<|c0<|az 3<|c0<|az 3<|c0<|az 3<|c1<|az 2<|rt<|br<|tr<|rr (.func (.func 206) #[] #[vP f 0,vP d 0])<|?_
 exact⟨_,_,rfl,by kernel_rfl,b,vS (c:=22) ⟨by decide,by decide⟩ (ae.old hC b) l hne (ub i n) (Ne.symm (nb (ae.lt hC) a.size h)) (Ne.symm (nb (ai hm) a.size h)) k (Ne.symm (nb (ae.lt hC) lr e)) (Ne.symm (nb (ai hm) lr e))⟩
theorem n8(hC:ae w g C)(hm:w.heap[gm]? = some (.cells (mC 22) 45 (0,0)))(hne:g≠gm) : Calls Tryz.prog 148 #[vI 1,vP gm 0,vP g 0] w (gp (fun W=>bQ g gm (ck 22 C).1 (ck 22 C).2 W) w):=by
 refine en 67 Tryz.func148 rfl<|sg<|L0<|dw #[vP gm 0] fun d z e m a=>L0<|dw #[vP g 0] fun f A h n o=>Pl 1<|aK 1<|aJ #[.nilFunc] fun B D p q r=>L0<|bE q 0 #[.func (.func 198) #[] #[vP f 0,vP d 0]] fun E F s=>nl<|tn<|al 2<|aJ #[.bool false] fun G H t u v=>L0<|bE u 0 #[.bool false] fun I x y=>nt<|sq<|sg<|?_
 have i:=ud r (aQ s (ud v y t)) p
 have j:=aQ o i
 have k:=ub j m
 refine aF k 0<|Pl 2<|?_
 have b:=aQ a j
 have l:=ub b hm
 refine aF l 0<|am 1<|bk<|sg<|aF x 0<|am 9<|c0<|sq<|sq<|go<|am 3<|c0<|az 3<|c0<|go<|Pl 7<|nl<|tn<|c0<|az 3<|c0<|az 3<|c0<|az 3<|c1<|az 2<|rt<|br<|tr<|rr (.func (.func 206) #[] #[vP f 0,vP d 0])<|?_
 exact⟨_,_,rfl,by kernel_rfl,b,vS (c:=22) ⟨by decide,by decide⟩ (ae.old hC b) l hne (ub i n) (Ne.symm (nb (ae.lt hC) a.size h)) (Ne.symm (nb (ai hm) a.size h)) k (Ne.symm (nb (ae.lt hC) lr e)) (Ne.symm (nb (ai hm) lr e))⟩
theorem mN(hC:ae w g C)(hm:w.heap[gm]? = some (.cells (mC 23) 45 (0,0)))(hne:g≠gm) : Calls Tryz.prog 148 #[vI 0,vP gm 0,vP g 0] w (gp (fun W=>bQ g gm (cE 23 C).1 (cE 23 C).2 W) w):=by
 refine en 67 Tryz.func148 rfl<|sg<|L0<|dw #[vP gm 0] fun f D h q a=>L0<|dw #[vP g 0] fun i E j r b=>Pl 1<|aK 1<|aJ #[.nilFunc] fun s F d t u=>L0<|bE t 0 #[.func (.func 198) #[] #[vP i 0,vP f 0]] fun G v x=>nl<|tn<|al 2<|aJ #[.bool false] fun H I y z A=>L0<|bE z 0 #[.bool true] fun J k B=>nt<|sq<|sg<|?_
 have l:=ud A B y
 have m:=ud u (aQ x l) d
 have n:=aQ b m
 have o:=ub n q
 refine aF o 0<|Pl 2<|?_
 have e:=aQ a n
 have p:=ub e hm
 refine aF p 0<|am 1<|bk<|sg<|aF k 0<|am 9<|c0<|sq<|sq<|go<|am 3<|c0<|az 3<|c0<|go<|Pl 3<|L1<|cY k 0<|am 3<|c0<|az 3<|c0<|al 3<|nl<|tn<|c0<|az 3<|c0<|az 3<|c1<|az 2<|rt<|br<|tr<|rr (.func (.func 207) #[] #[vP s 0,vP i 0,vP f 0])<|?_
 exact⟨_,_,rfl,by kernel_rfl,e,w8 (c:=23) ⟨by decide,by decide⟩ (ae.old hC e) p hne (ub m r) (Ne.symm (nb (ae.lt hC) a.size j)) (Ne.symm (nb (ai hm) a.size j)) o (Ne.symm (nb (ae.lt hC) lr h)) (Ne.symm (nb (ai hm) lr h)) (ub l v) (Ne.symm (nb (ae.lt hC) (le a.size b.size) d)) (Ne.symm (nb (ai hm) (le a.size b.size) d))⟩
theorem mL(hC:ae w g C)(hm:w.heap[gm]? = some (.cells (mC 23) 45 (0,0)))(hne:g≠gm) : Calls Tryz.prog 148 #[vI 1,vP gm 0,vP g 0] w (gp (fun W=>bQ g gm (c5 23 C).1 (c5 23 C).2 W) w):=by
 refine en 67 Tryz.func148 rfl<|sg<|L0<|dw #[vP gm 0] fun d z e n a=>L0<|dw #[vP g 0] fun f A h o p=>Pl 1<|aK 1<|aJ #[.nilFunc] fun B D q r s=>L0<|bE r 0 #[.func (.func 198) #[] #[vP f 0,vP d 0]] fun E F t=>nl<|tn<|al 2<|aJ #[.bool false] fun G H u v x=>L0<|bE v 0 #[.bool false] fun I i y=>nt<|sq<|sg<|?_
 have j:=ud s (aQ t (ud x y u)) q
 have k:=aQ p j
 have l:=ub k n
 refine aF l 0<|Pl 2<|?_
 have b:=aQ a k
 have m:=ub b hm
 refine aF m 0<|am 1<|bk<|sg<|aF i 0<|am 9<|c0<|sq<|sq<|go<|am 3<|c0<|az 3<|c0<|go<|Pl 3<|L1<|cY i 0<|am 3<|c1<|az 2<|rt<|br<|tr<|rr (.func (.func 201) #[] #[vP f 0,vP d 0])<|?_
 exact⟨_,_,rfl,by kernel_rfl,b,v8 (c:=23) ⟨by decide,by decide⟩ (ae.old hC b) m hne (ub j o) (Ne.symm (nb (ae.lt hC) a.size h)) (Ne.symm (nb (ai hm) a.size h)) l (Ne.symm (nb (ae.lt hC) lr e)) (Ne.symm (nb (ai hm) lr e))⟩
theorem ny(hC:ae w g C)(hm:w.heap[gm]? = some (.cells (mC 24) 45 (0,0)))(hne:g≠gm) : Calls Tryz.prog 148 #[vI 0,vP gm 0,vP g 0] w (gp (fun W=>bQ g gm (cG 24 C).1 (cG 24 C).2 W) w):=by
 refine en 67 Tryz.func148 rfl<|sg<|L0<|dw #[vP gm 0] fun d z e n a=>L0<|dw #[vP g 0] fun f A h o p=>Pl 1<|aK 1<|aJ #[.nilFunc] fun B D q r s=>L0<|bE r 0 #[.func (.func 198) #[] #[vP f 0,vP d 0]] fun E F t=>nl<|tn<|al 2<|aJ #[.bool false] fun G H u v x=>L0<|bE v 0 #[.bool true] fun I i y=>nt<|sq<|sg<|?_
 have j:=ud s (aQ t (ud x y u)) q
 have k:=aQ p j
 have l:=ub k n
 refine aF l 0<|Pl 2<|?_
 have b:=aQ a k
 have m:=ub b hm
 refine aF m 0<|am 1<|bk<|sg<|aF i 0<|am 9<|c0<|sq<|sq<|go<|am 3<|c0<|az 3<|c0<|go<|Pl 7<|nl<|tn<|c0<|az 3<|c0<|az 3<|c0<|az 3<|c0<|az 3<|c0<|al 3<|L1<|cY i 0<|am 2<|c1<|az 2<|rt<|br<|tr<|rr (.func (.func 208) #[] #[vP f 0,vP d 0])<|?_
 exact⟨_,_,rfl,by kernel_rfl,b,wc (c:=24) ⟨by decide,by decide⟩ (ae.old hC b) m hne (ub j o) (Ne.symm (nb (ae.lt hC) a.size h)) (Ne.symm (nb (ai hm) a.size h)) l (Ne.symm (nb (ae.lt hC) lr e)) (Ne.symm (nb (ai hm) lr e))⟩
theorem nj(hC:ae w g C)(hm:w.heap[gm]? = some (.cells (mC 24) 45 (0,0)))(hne:g≠gm) : Calls Tryz.prog 148 #[vI 1,vP gm 0,vP g 0] w (gp (fun W=>bQ g gm (jC 24 C).1 (jC 24 C).2 W) w):=by
 refine en 67 Tryz.func148 rfl<|sg<|L0<|dw #[vP gm 0] fun d z e n a=>L0<|dw #[vP g 0] fun f A h o p=>Pl 1<|aK 1<|aJ #[.nilFunc] fun B D q r s=>L0<|bE r 0 #[.func (.func 198) #[] #[vP f 0,vP d 0]] fun E F t=>nl<|tn<|al 2<|aJ #[.bool false] fun G H u v x=>L0<|bE v 0 #[.bool false] fun I i y=>nt<|sq<|sg<|?_
 have j:=ud s (aQ t (ud x y u)) q
 have k:=aQ p j
 have l:=ub k n
 refine aF l 0<|Pl 2<|?_
 have b:=aQ a k
 have m:=ub b hm
 refine aF m 0<|am 1<|bk<|sg<|aF i 0<|am 9<|c0<|sq<|sq<|go<|am 3<|c0<|az 3<|c0<|go<|Pl 7<|nl<|tn<|c0<|az 3<|c0<|az 3<|c0<|az 3<|c0<|az 3<|c0<|al 3<|L1<|cY i 0<|am 2<|c0<|az 3<|c1<|az 2<|rt<|br<|tr<|rr (.func (.func 209) #[] #[vP f 0,vP d 0])<|?_
 exact⟨_,_,rfl,by kernel_rfl,b,wb (c:=24) ⟨by decide,by decide⟩ (ae.old hC b) m hne (ub j o) (Ne.symm (nb (ae.lt hC) a.size h)) (Ne.symm (nb (ai hm) a.size h)) l (Ne.symm (nb (ae.lt hC) lr e)) (Ne.symm (nb (ai hm) lr e))⟩
theorem mP(hC:ae w g C)(hm:w.heap[gm]? = some (.cells (mC c) 45 (0,0)))(hne:g≠gm)(k3:(c==3)=false)(k4:(c==4)=false)(k6:(c==6)=false)(f:(c==16)=false)(h:(c==22)=false)(a:(c==23)=false)(b:(c==24)=false) : Calls Tryz.prog 148 #[vI 0,vP gm 0,vP g 0] w (cg .nilFunc w):=by
 refine en 67 Tryz.func148 rfl<|sg<|L0<|dw #[vP gm 0] fun i x y j k=>L0<|dw #[vP g 0] fun l z A B m=>Pl 1<|aK 1<|aJ #[.nilFunc] fun D E n o p=>L0<|bE o 0 #[.func (.func 198) #[] #[vP l 0,vP i 0]] fun F G q=>nl<|tn<|al 2<|aJ #[.bool false] fun H I r s t=>L0<|bE s 0 #[.bool true] fun J u v=>nt<|sq<|sg<|?_
 have d:=aQ m (ud p (aQ q (ud t v r)) n)
 refine aF (ub d j) 0<|Pl 2<|?_
 have e:=aQ k d
 exact aF (ub e hm) 0<|am 1<|bk<|sg<|aF u 0<|Pl 4<|sy 22 k3<|am 5<|cf k4<|sq<|az 3<|cf k3<|az 3<|cf k4<|go<|Pl 3<|sy 35 a<|am 4<|c0<|az 3<|cf k6<|az 3<|cf f<|az 3<|cf h<|al 3<|nl<|tn<|cf a<|al 3<|sy 59 b<|am 3<|c0<|al 3<|nl<|tn<|cf b<|sk<|bn<|tn<|az 1<|rt<|rr (.nilFunc)<|⟨rfl,e⟩
theorem nw(hC:ae w g C)(hm:w.heap[gm]? = some (.cells (mC c) 45 (0,0)))(hne:g≠gm)(k3:(c==3)=false)(k4:(c==4)=false)(k6:(c==6)=false)(f:(c==16)=false)(h:(c==22)=false)(a:(c==23)=false)(b:(c==24)=false) : Calls Tryz.prog 148 #[vI 1,vP gm 0,vP g 0] w (cg .nilFunc w):=by
 refine en 67 Tryz.func148 rfl<|sg<|L0<|dw #[vP gm 0] fun i x y j k=>L0<|dw #[vP g 0] fun l z A B m=>Pl 1<|aK 1<|aJ #[.nilFunc] fun D E n o p=>L0<|bE o 0 #[.func (.func 198) #[] #[vP l 0,vP i 0]] fun F G q=>nl<|tn<|al 2<|aJ #[.bool false] fun H I r s t=>L0<|bE s 0 #[.bool false] fun J u v=>nt<|sq<|sg<|?_
 have d:=aQ m (ud p (aQ q (ud t v r)) n)
 refine aF (ub d j) 0<|Pl 2<|?_
 have e:=aQ k d
 exact aF (ub e hm) 0<|am 1<|bk<|sg<|aF u 0<|am 9<|c0<|sq<|sq<|go<|am 3<|cf k3<|az 3<|cf k4<|go<|Pl 3<|sy 35 a<|am 4<|c0<|az 3<|cf k6<|al 3<|nl<|tn<|cf f<|az 3<|cf h<|az 3<|cf a<|al 3<|sy 59 b<|am 3<|c0<|az 3<|cf b<|sk<|bn<|tn<|az 1<|rt<|rr (.nilFunc)<|⟨rfl,e⟩
variable {dir:Int}
theorem iZ{r:ag × b6}    (hC:ae w g C)(hm:w.heap[gm]? = some (.cells (mC c) 45 (0,0)))(hne:g≠gm)(hd:dir=0∨dir=1)(h:aY dir c C=some r) : Calls Tryz.prog 148 #[.int .i64 dir,.pointer (some ⟨gm,0,none⟩),.pointer (some ⟨g,0,none⟩)] w (gp (fun W=>bQ g gm r.1 r.2 W) w):=by
  by_cases h3:c=3
  · subst h3
    rcases hd with rfl|rfl
    · obtain rfl:bL 125 3 C=r:=Option.some.inj h
      exact oy hC hm hne
    · obtain rfl:c5 3 C=r:=Option.some.inj h
      exact oD hC hm hne
  by_cases h4:c=4
  · subst h4
    rcases hd with rfl|rfl
    · obtain rfl:bL 125 4 C=r:=Option.some.inj h
      exact pf hC hm hne
    · obtain rfl:c5 4 C=r:=Option.some.inj h
      exact oE hC hm hne
  by_cases h6:c=6
  · subst h6
    rcases hd with rfl|rfl
    · obtain rfl:d9 6 C=r:=Option.some.inj h
      exact pk hC hm hne
    · obtain rfl:d9 6 C=r:=Option.some.inj h
      exact oF hC hm hne
  by_cases a:c=16
  · subst a
    rcases hd with rfl|rfl
    · obtain rfl:cF 16 C=r:=Option.some.inj h
      exact nD hC hm hne
    · obtain rfl:bL 123 16 C=r:=Option.some.inj h
      exact n9 hC hm hne
  by_cases b:c=22
  · subst b
    rcases hd with rfl|rfl
    · obtain rfl:ck 22 C=r:=Option.some.inj h
      exact nB hC hm hne
    · obtain rfl:ck 22 C=r:=Option.some.inj h
      exact n8 hC hm hne
  by_cases d:c=23
  · subst d
    rcases hd with rfl|rfl
    · obtain rfl:cE 23 C=r:=Option.some.inj h
      exact mN hC hm hne
    · obtain rfl:c5 23 C=r:=Option.some.inj h
      exact mL hC hm hne
  by_cases e:c=24
  · subst e
    rcases hd with rfl|rfl
    · obtain rfl:cG 24 C=r:=Option.some.inj h
      exact ny hC hm hne
    · obtain rfl:jC 24 C=r:=Option.some.inj h
      exact nj hC hm hne
  exfalso
  unfold aY at h
  simp[h3,h4,h6,a,b,d,e] at h
theorem jf(hC:ae w g C)(hm:w.heap[gm]? = some (.cells (mC c) 45 (0,0)))(hne:g≠gm)(hd:dir=0∨dir=1)(h:aY dir c C=none) : Calls Tryz.prog 148 #[.int .i64 dir,.pointer (some ⟨gm,0,none⟩),.pointer (some ⟨g,0,none⟩)] w (cg .nilFunc w):=by
  have k3:(c==3)=false:=by
    cases hk:(c==3)
    · rfl
    · obtain rfl:c=3:=by simpa using hk
      rcases hd with rfl|rfl<;>cases h
  have k4:(c==4)=false:=by
    cases hk:(c==4)
    · rfl
    · obtain rfl:c=4:=by simpa using hk
      rcases hd with rfl|rfl<;>cases h
  have k6:(c==6)=false:=by
    cases hk:(c==6)
    · rfl
    · obtain rfl:c=6:=by simpa using hk
      rcases hd with rfl|rfl<;>cases h
  have a:(c==16)=false:=by
    cases hk:(c==16)
    · rfl
    · obtain rfl:c=16:=by simpa using hk
      rcases hd with rfl|rfl<;>cases h
  have b:(c==22)=false:=by
    cases hk:(c==22)
    · rfl
    · obtain rfl:c=22:=by simpa using hk
      rcases hd with rfl|rfl<;>cases h
  have d:(c==23)=false:=by
    cases hk:(c==23)
    · rfl
    · obtain rfl:c=23:=by simpa using hk
      rcases hd with rfl|rfl<;>cases h
  have e:(c==24)=false:=by
    cases hk:(c==24)
    · rfl
    · obtain rfl:c=24:=by simpa using hk
      rcases hd with rfl|rfl<;>cases h
  rcases hd with rfl|rfl
  · exact mP hC hm hne k3 k4 k6 a b d e
  · exact nw hC hm hne k3 k4 k6 a b d e
open Go.RowKit
variable {A:Option Addr}{b:List Int}{cp:Nat}{m:Md}
theorem kZ(hcode:B8 c)(hsl:aV m w (.slice A b.length cp) b)(hb:b.length≤1048576) :
    Calls Tryz.prog 98 #[vI 0,vB c,.slice A b.length cp] w (dy (aj aY 0 c b) w):=by
 obtain⟨hcode1,hcode2⟩:=hcode
 have hln:(b.length:Int)≤1048576:=by omega
 refine en 40 Tryz.func98 rfl<|sg<|aJ mZ fun U V l i n=>am 1<|sq<|az 6<|c0<|bu<|al 2<|aJ mZ fun W X g o y=>aB o (mC c) fun Y z j=>aK 1<|?_
 have h:=ud y j g
 have p:=aQ n h
 refine aq<|e3 (d8 (aV.old hsl p) (by omega)) fun Z a0 d B a=>Pl 1<|aK 2<|?_
 have C:=aQ p a
 refine wo (aY 0 c ⟨b,false,0⟩) (fun hr=>?_) (fun r hr=>?_)
 refine aq<|m1 (jf (dir:=0) (c:=c) B (ub a z) (Ne.symm (nb (ai o) j.size d)) (Or.inl rfl) hr) fun a1 D=>am 1<|sq<|az 2<|c1<|al 1<|?_
 refine aB (ub (aQ h (aQ a D)) i) mZ fun a2 L M=>am 1<|bq<|c9 L (vI 4)<|?_
 exact cZ (by unfold aj;(try simp only[bp,cQ,cN,cR,cP,cO,reduceIte,hr])<;>rfl) (bT (ud C (uz D M) l))
 have E:=nb (ai o) j.size d
 refine aq<|mu (iZ (dir:=0) (c:=c) B (ub a z) (Ne.symm E) (Or.inl rfl) hr) fun N F a3 O q hcall51=>am 1<|sq<|az 2<|c0<|bu<|sq<|go<|Pl 1<|L0<|fV (f:=N) (args:=F) (hf:=O) #[] F<|m3 (hcall51) fun a4 G P H=>?_
 obtain⟨Q,k,s⟩:=P
 refine aK 1<|aq<|m2 (dA G) fun a5 I t=>nt<|sq<|al 1<|aq<|mq (c4 I)<|?_
 have a6:=ae.len I
 refine Pl 1<|cJ 2<|?_
 have u:=uz q (u1 H t im)
 have J:=ut C u (ac (ni p.size d) (ac (ni n.size g) aA))
 have hs:aj aY 0 c b=bj r.2 r.1:=by
   unfold aj
   (try simp only[bp,cQ,cN,cR,cP,cO,reduceIte,hr])
   all_goals rfl
 refine cb ((r.1.endC.e != 0)) (fun v=>?_) (fun v=>?_)
 have x:=ay v
 refine al 2<|?_
 refine aB (ub (ud h (ud a u d) g) i) mZ fun a7 R S=>am 1<|bq<|c9 R (vI r.1.endC.e)<|?_
 rw[hs]
 exact cz x (ud J S l)
 have x:=aI v
 refine bu<|sg<|?_
 refine L0<|cM (hz:=(by rw[k.2];exact aX)) (aS t E k.1)<|?_
 refine aB (hz:=(by rw[k.2];exact aX)) (hv:=s.size) (h1:=s.one) (ub (ud h (ud a u d) g) i) (Q) fun a8 T K=>am 1<|rt<|dW 22 k.2 T (vI 0)<|?_
 rw[hs]
 exact cW x (aU.lo (aU.upd s (us t K) (ah (ae.safe G _ (by decide)) (ah (aR (ub (ud h (ud a (uz q H) d) g) i) (by decide)) aE))) (le (le (le (le n.size y.size) j.size) a.size) q.size)) (ud J K l)
theorem l8(hcode:B8 c)(hsl:aV m w (.slice A b.length cp) b)(hb:b.length≤1048576) :
    Calls Tryz.prog 98 #[vI 1,vB c,.slice A b.length cp] w (dy (aj aY 1 c b) w):=by
 obtain⟨hcode1,hcode2⟩:=hcode
 have hln:(b.length:Int)≤1048576:=by omega
 refine en 40 Tryz.func98 rfl<|sg<|aJ mZ fun U V l i n=>am 1<|sq<|az 6<|c0<|bu<|al 2<|aJ mZ fun W X g o y=>aB o (mC c) fun Y z j=>aK 1<|?_
 have h:=ud y j g
 have p:=aQ n h
 refine aq<|e3 (d8 (aV.old hsl p) (by omega)) fun Z a0 d B a=>Pl 1<|aK 2<|?_
 have C:=aQ p a
 refine wo (aY 1 c ⟨b,false,0⟩) (fun hr=>?_) (fun r hr=>?_)
 refine aq<|m1 (jf (dir:=1) (c:=c) B (ub a z) (Ne.symm (nb (ai o) j.size d)) (Or.inr rfl) hr) fun a1 D=>am 1<|sq<|az 2<|c1<|al 1<|?_
 refine aB (ub (aQ h (aQ a D)) i) mZ fun a2 L M=>am 1<|bq<|c9 L (vI 4)<|?_
 exact cZ (by unfold aj;(try simp only[bp,cQ,cN,cR,cP,cO,reduceIte,hr])<;>rfl) (bT (ud C (uz D M) l))
 have E:=nb (ai o) j.size d
 refine aq<|mu (iZ (dir:=1) (c:=c) B (ub a z) (Ne.symm E) (Or.inr rfl) hr) fun N F a3 O q hcall51=>am 1<|sq<|az 2<|c0<|bu<|sq<|go<|Pl 1<|L0<|fV (f:=N) (args:=F) (hf:=O) #[] F<|m3 (hcall51) fun a4 G P H=>?_
 obtain⟨Q,k,s⟩:=P
 refine aK 1<|aq<|m2 (dA G) fun a5 I t=>nt<|sq<|al 1<|aq<|mq (c4 I)<|?_
 have a6:=ae.len I
 refine Pl 1<|cJ 2<|?_
 have u:=uz q (u1 H t im)
 have J:=ut C u (ac (ni p.size d) (ac (ni n.size g) aA))
 have hs:aj aY 1 c b=bj r.2 r.1:=by
   unfold aj
   (try simp only[bp,cQ,cN,cR,cP,cO,reduceIte,hr])
   all_goals rfl
 refine cb ((r.1.endC.e != 0)) (fun v=>?_) (fun v=>?_)
 have x:=ay v
 refine al 2<|?_
 refine aB (ub (ud h (ud a u d) g) i) mZ fun a7 R S=>am 1<|bq<|c9 R (vI r.1.endC.e)<|?_
 rw[hs]
 exact cz x (ud J S l)
 have x:=aI v
 refine bu<|sg<|?_
 refine L0<|cM (hz:=(by rw[k.2];exact aX)) (aS t E k.1)<|?_
 refine aB (hz:=(by rw[k.2];exact aX)) (hv:=s.size) (h1:=s.one) (ub (ud h (ud a u d) g) i) (Q) fun a8 T K=>am 1<|rt<|dW 22 k.2 T (vI 0)<|?_
 rw[hs]
 exact cW x (aU.lo (aU.upd s (us t K) (ah (ae.safe G _ (by decide)) (ah (aR (ub (ud h (ud a (uz q H) d) g) i) (by decide)) aE))) (le (le (le (le n.size y.size) j.size) a.size) q.size)) (ud J K l)
theorem kI(hcode:B8 c)(hsl:aV m w (.slice A b.length cp) b)(hb:b.length≤1048576)(hd:¬ (dir=0∨dir=1)) :
    Calls Tryz.prog 98 #[vI dir,vB c,.slice A b.length cp] w (dy (aj aY dir c b) w):=by
 obtain⟨hcode1,hcode2⟩:=hcode
 have hln:(b.length:Int)≤1048576:=by omega
 have e0:(dir != 0)=true:=by simp;omega
 have e1:(dir != 1)=true:=by simp;omega
 refine en 40 Tryz.func98 rfl<|sg<|aJ mZ fun g h a d e=>am 1<|sq<|al 3<|sy 14 e0<|Pl 3<|nl<|tn<|ct e1<|al 1<|aB d mZ fun i dC f=>am 1<|bq<|c9 dC (vI 1)<|?_
 exact cZ (by unfold aj aY;(try simp only[e0,e1,bp,cQ,cN,cR,cP,cO,reduceIte,hd])<;>rfl) (bT (ud e f a))
theorem nz{v:Value}    (hc:B8 c)(h:aV m w v b)(hb:b.length≤1048576) :
    Calls Tryz.prog 98 #[.int .i64 dir,.int .u8 c,v] w (dy (aj aY dir c b) w):=by
  obtain⟨A,cp,rfl,_,_⟩:=h.shape
  by_cases h0:dir=0
  · subst h0;exact kZ hc h hb
  by_cases h1:dir=1
  · subst h1;exact l8 hc h hb
  exact kI hc h hb (by omega)
open Go.RowKit
theorem iP(hcode:B8 c)(hC:ae w g C)(hm:w.heap[gm]? = some (.cells (mC c) 45 (0,0)))(hne:g≠gm) :
    Calls Tryz.prog 193 #[.agg #[vP g 0,vP gm 0],vW most] w (mM g gm (bU C most) (mG c 0 C.wordV (C.wordsC 1).wordV 0 0 0 0 0 0 0 0 nS nS nS nS 0 0 0 0 0 nS) w):=by
 obtain⟨hcode1,hcode2⟩:=hcode
 have hlen:=hC.len
 refine en 51 Tryz.func193 rfl<|sg<|L0<|dw #[vP g 0,vP gm 0] fun f an P a7 a8=>nt<|sq<|Rg 8 (fun w'=>w'.cell? ⟨f,1,none⟩=some (vP gm 0)∧w'.cell? ⟨f,0,none⟩=some (vP g 0)) fun ao Q=>?_
 have t:=ub Q a7
 refine bz ⟨(ak t rfl),(ak t rfl)⟩ fun o=>Rt 0 o<|Rl 1 o (fun _ hs=>hs.1)<|Rt 2 o<|Rl 3 o (fun _ hs=>hs.2)<|?_
 have R:=aQ a8 Q
 refine R0 4 rfl<|Oc<|m3 (bF (ae.old hC R)) fun ap a9 S aq=>?_
 have h:=nb (ae.lt hC) lr P
 have u:=aS S (Ne.symm h) t
 refine bz ⟨(ak u rfl),(ak u rfl)⟩ fun T=>Rt 5 T<|Rt 6 T<|?_
 have U:=uz R S
 have V:=aS U (Ne.symm hne) hm
 refine R0 7 rfl<|bE V 2 (mG c 0 C.wordV 0 0 0 0 0 0 0 0 0 nS nS nS nS 0 0 0 0 0 nS) fun ar ab W=>?_
 have X:=nb (ai hm) lr P
 have v:=aS W (Ne.symm X) u
 refine bz ⟨(ak v rfl),(ak v rfl)⟩ fun au=>re<|tn<|sq<|Rg 8 (fun w'=>w'.cell? ⟨f,1,none⟩=some (vP gm 0)∧w'.cell? ⟨f,0,none⟩=some (vP g 0)) fun av x=>?_
 have y:=ub x v
 refine bz ⟨(ak y rfl),(ak y rfl)⟩ fun p=>Rt 0 p<|Rl 1 p (fun _ hs=>hs.1)<|Rt 2 p<|Rl 3 p (fun _ hs=>hs.2)<|?_
 have Y:=aQ W x
 refine R0 4 rfl<|Oc<|m3 (bF (ae.upd a9 Y (aa hne ax) (ah (aR V (by decide)) aE))) fun aw Z z ay=>?_
 have A:=aS z (Ne.symm h) y
 refine bz ⟨(ak A rfl),(ak A rfl)⟩ fun a0=>Rt 5 a0<|Rt 6 a0<|?_
 have B:=aS (uz x z) (Ne.symm hne) ab
 refine R0 7 rfl<|bE B 3 (mG c 0 C.wordV ((C.wordsC 1).wordV) 0 0 0 0 0 0 0 0 nS nS nS nS 0 0 0 0 0 nS) fun az ac a1=>?_
 have D:=aS a1 (Ne.symm X) A
 refine bz ⟨(ak D rfl),(ak D rfl)⟩ fun aA=>re<|tn<|sq<|Rg 18 (fun w'=>w'.cell? ⟨f,0,none⟩=some (vP g 0)∧w'.cell? ⟨f,1,none⟩=some (vP gm 0)∧w'.cell? ⟨gm,3,none⟩=some (vW ((C.wordsC 1).wordV))) fun aB E=>?_
 have q:=ub E D
 have F:=ub E ac
 refine bz ⟨(ak q rfl),(ak q rfl),(ak F rfl)⟩ fun b=>Rt 0 b<|Rl 1 b (fun _ hs=>hs.1)<|Rt 2 b<|Rl 3 b (fun _ hs=>hs.2.1)<|Rt 4 b<|Rt 5 b<|Rl 6 b (fun _ hs=>hs.2.2)<|Rt 7 b<|Rt 8 b<|?_
 have G:=aQ a1 E
 have a2:=ui U (ui Y (us z G))
 refine tT 26 ((decide (1≤((C.wordsC 1).wordV)))) (fun i=>?_) (fun i=>?_)
 have ad:=of_decide_eq_true i
 refine Rt 9 b<|Rl 10 b (fun _ hs=>hs.2.1)<|Rt 11 b<|Rt 12 b<|Rl 13 b (fun _ hs=>hs.2.2)<|Rt 14 b<|Rt 15 b<|Rt 16 b<|?_
 refine R0 17 rfl<|Oc<|m2 (aZ ((decide (((C.wordsC 1).wordV)≤most))) 5 (ae.upd Z G (aa hne ax) (ah (aR B (by decide)) aE))) fun aC af H=>?_
 have I:=aS H (Ne.symm h) q
 have a3:=aS H (Ne.symm hne) F
 refine bz ⟨(ak I rfl),(ak I rfl),(ak a3 rfl)⟩ fun aD=>re<|tn<|Rg 15 (fun w'=>w'.cell? ⟨f,0,none⟩=some (vP g 0)∧w'.cell? ⟨f,1,none⟩=some (vP gm 0)∧w'.cell? ⟨gm,2,none⟩=some (vW C.wordV)∧w'.cell? ⟨gm,3,none⟩=some (vW ((C.wordsC 1).wordV))) fun aF r=>?_
 have j:=ub r I
 have k:=ub r a3
 refine bz ⟨(ak j rfl),(ak j rfl),(ak k rfl),(ak k rfl)⟩ fun d=>Rt 0 d<|Rl 1 d (fun _ hs=>hs.1)<|Rt 2 d<|Rl 3 d (fun _ hs=>hs.2.1)<|Rt 4 d<|Rt 5 d<|Rl 6 d (fun _ hs=>hs.2.2.1)<|Rt 7 d<|Rl 8 d (fun _ hs=>hs.2.1)<|Rt 9 d<|Rt 10 d<|Rl 11 d (fun _ hs=>hs.2.2.2)<|Rr 12 d (vI ((C.wordsC 1).wordV)) (fun _ _=>bv (vI (IntKind.i64.wrap ((C.wordsC 1).wordV))) (by kernel_rfl) (congrArg (Value.int .i64) (i64_in (by omega))))<|R0 13 rfl<|Oc<|mq (gh (a:=C.wordV) (n:=(C.wordsC 1).wordV) (by omega))<|bz ⟨(ak j rfl),(ak j rfl),(ak k rfl),(ak k rfl)⟩ fun aG=>?_
 refine R0 14 rfl<|Oc<|m2 (aZ ((cK C.wordV ((C.wordsC 1).wordV))) 7 (ae.old af r)) fun aH aj J=>?_
 have a4:=aS J (Ne.symm h) j
 have K:=aS J (Ne.symm hne) k
 refine bz ⟨(ak a4 rfl),(ak a4 rfl),(ak K rfl),(ak K rfl)⟩ fun aI=>re<|rm (.tuple #[])<|?_
 have hs:bU C most=((((C.wordsC 1).wordsC 1).need (decide (((C.wordsC 1).wordV)≤most)) 5).need (cK C.wordV ((C.wordsC 1).wordV)) 7):=by
   unfold bU i7
   (try simp only[i,bp,reduceIte])
   all_goals rfl
 rw[hs]
 exact⟨rfl,aj,K,(u1 a2 (u1 H (uz r J) im) im)⟩
 have ad:=of_decide_eq_false i
 refine Ro 9 b<|Ro 10 b<|Ro 11 b<|Ro 12 b<|Ro 13 b<|Ro 14 b<|Ro 15 b<|Rt 16 b<|?_
 refine R0 17 rfl<|Oc<|m2 (aZ (false) 5 (ae.upd Z G (aa hne ax) (ah (aR B (by decide)) aE))) fun aJ al L=>?_
 have M:=aS L (Ne.symm h) q
 have a5:=aS L (Ne.symm hne) F
 refine bz ⟨(ak M rfl),(ak M rfl),(ak a5 rfl)⟩ fun aK=>re<|tn<|Rg 15 (fun w'=>w'.cell? ⟨f,0,none⟩=some (vP g 0)∧w'.cell? ⟨f,1,none⟩=some (vP gm 0)∧w'.cell? ⟨gm,2,none⟩=some (vW C.wordV)∧w'.cell? ⟨gm,3,none⟩=some (vW ((C.wordsC 1).wordV))) fun aL s=>?_
 have l:=ub s M
 have m:=ub s a5
 refine bz ⟨(ak l rfl),(ak l rfl),(ak m rfl),(ak m rfl)⟩ fun e=>Rt 0 e<|Rl 1 e (fun _ hs=>hs.1)<|Rt 2 e<|Rl 3 e (fun _ hs=>hs.2.1)<|Rt 4 e<|Rt 5 e<|Rl 6 e (fun _ hs=>hs.2.2.1)<|Rt 7 e<|Rl 8 e (fun _ hs=>hs.2.1)<|Rt 9 e<|Rt 10 e<|Rl 11 e (fun _ hs=>hs.2.2.2)<|Rr 12 e (vI ((C.wordsC 1).wordV)) (fun _ _=>bv (vI (IntKind.i64.wrap ((C.wordsC 1).wordV))) (by kernel_rfl) (congrArg (Value.int .i64) (i64_in (by omega))))<|R0 13 rfl<|Oc<|mq (gh (a:=C.wordV) (n:=(C.wordsC 1).wordV) (by omega))<|bz ⟨(ak l rfl),(ak l rfl),(ak m rfl),(ak m rfl)⟩ fun aM=>?_
 refine R0 14 rfl<|Oc<|m2 (aZ ((cK C.wordV ((C.wordsC 1).wordV))) 7 (ae.old al s)) fun aN am N=>?_
 have a6:=aS N (Ne.symm h) l
 have O:=aS N (Ne.symm hne) m
 refine bz ⟨(ak a6 rfl),(ak a6 rfl),(ak O rfl),(ak O rfl)⟩ fun aO=>re<|rm (.tuple #[])<|?_
 have hs:bU C most=((((C.wordsC 1).wordsC 1).need false 5).need (cK C.wordV ((C.wordsC 1).wordV)) 7):=by
   unfold bU i7
   (try simp only[i,bp,reduceIte])
   all_goals rfl
 rw[hs]
 exact⟨rfl,am,O,(u1 a2 (u1 L (uz s N) im) im)⟩
theorem gy(hcode:B8 c)(hC:ae w g C)(hm:w.heap[gm]? = some (.cells (mC c) 45 (0,0)))(hne:g≠gm) :
    Calls Tryz.prog 140 #[.agg #[vP g 0,vP gm 0]] w (bQ g gm (dl 2000 c C).1 (dl 2000 c C).2 w):=by
 obtain⟨hcode1,hcode2⟩:=hcode
 have hlen:=hC.len
 refine en 4 Tryz.func140 rfl<|sg<|L0<|dw #[vP g 0,vP gm 0] fun i j k d a=>nt<|go<|L0<|cM d<|?_
 have b:=ae.old hC a
 refine aq<|m3 (iP (most:=2000) ⟨hcode1,hcode2⟩ b (ub a hm) hne) fun l e f h=>?_
 have m:=(b).wordV
 have n:=bG (c3 (b).rng 1)
 refine nl<|rm (.tuple #[])<|?_
 exact cZ (by unfold dl;(try simp only[bp,reduceIte])<;>rfl) ⟨rfl,e,⟨_,⟨f,rfl⟩,⟨_,_,_,_,_,rfl,aG.nil ..,aG.nil ..,aG.nil ..,aG.nil ..,aG.nil ..,⟨(b8 (x:=c) (by omega)),(b8 (x:=0) (by omega)),(c6 (x:=C.wordV) (by omega)),(c6 (x:=(C.wordsC 1).wordV) (by omega)),(c6 (x:=0) (by omega)),(c6 (x:=0) (by omega)),(c6 (x:=0) (by omega)),(c6 (x:=0) (by omega)),(c6 (x:=0) (by omega)),(c6 (x:=0) (by omega)),(c6 (x:=0) (by omega)),(c6 (x:=0) (by omega)),(b8 (x:=0) (by omega)),(b8 (x:=0) (by omega)),(b8 (x:=0) (by omega)),(b8 (x:=0) (by omega)),(b8 (x:=0) (by omega))⟩⟩⟩,(uz a h)⟩
theorem kj(hcode:B8 c)(hC:ae w g C)(hm:w.heap[gm]? = some (.cells (mC c) 45 (0,0)))(hne:g≠gm) :
    Calls Tryz.prog 141 #[.agg #[vP g 0,vP gm 0]] w (bQ g gm (de c C).1 (de c C).2 w):=by
 obtain⟨hcode1,hcode2⟩:=hcode
 have hlen:=hC.len
 refine en 24 Tryz.func141 rfl<|sg<|L0<|dw #[vP g 0,vP gm 0] fun l L m o d=>aK 1<|aF o 0<|?_
 refine aq<|m3 (bD (ae.old hC d)) fun M A e N=>Pl 1<|aK 1<|?_
 have f:=nb (ae.lt hC) lr m
 have p:=aS e (Ne.symm f) o
 refine aF p 0<|Pl 3<|dc 3 [10] 13 10 (decide (1≤C.byteV)) (decide (C.byteV≤250)) (fun K B D=>?_) ?_
 have O:=of_decide_eq_true D
 exact Pl 3<|ce B _ rfl
 refine aq<|m2 (aZ (((decide (1≤C.byteV))&&(decide (C.byteV≤250)))) 5 A) fun P E r=>nt<|Rg 10 (fun w'=>w'.cell? ⟨l,1,none⟩=some (vP gm 0)∧w'.cell? ⟨l,0,none⟩=some (vP g 0)) fun Q h=>?_
 have s:=aQ r h
 have i:=aS s (Ne.symm f) p
 refine bz ⟨(ak i rfl),(ak i rfl)⟩ fun a=>Rt 0 a<|Rl 1 a (fun _ hs=>hs.1)<|Rt 2 a<|Rl 3 a (fun _ hs=>hs.2)<|Rt 4 a<|Rr 5 a (vI C.byteV) (fun _ _=>bv (vI (IntKind.i64.wrap C.byteV)) (by kernel_rfl) (congrArg (Value.int .i64) (i64_in (by omega))))<|?_
 have t:=ae.old E h
 refine R0 6 rfl<|Oc<|oZ (bN (n:=C.byteV) t) fun F G R H S T I u=>?_
 have U:=Nat.le_trans (ag.bytesR_le ((C.bytesC 1).need ((decide (1≤C.byteV))&&(decide (C.byteV≤250))) 5) C.byteV) (ae.len t)
 have j:=aS u (Ne.symm f) i
 refine bz ⟨(ak j rfl),(ak j rfl)⟩ fun v=>Rt 7 v<|Rt 8 v<|?_
 have y:=uz d (u1 e (u1 s u im) im)
 have k:=aS y (Ne.symm hne) hm
 refine R0 9 rfl<|bE k 14 (mG c 0 0 0 0 0 0 0 0 0 0 0 nS nS (.slice F ((((C.bytesC 1).need ((decide (1≤C.byteV))&&(decide (C.byteV≤250))) 5).bytesR C.byteV).length) G) nS 0 0 0 0 0 nS) fun V J b=>?_
 have z:=aS b (Ne.symm (nb (ai hm) lr m)) j
 refine bz ⟨(ak z rfl),(ak z rfl)⟩ fun W=>re<|rm (.tuple #[])<|?_
 exact cZ (by unfold de du;(try simp only[bp,reduceIte])<;>rfl) ⟨rfl,(ae.upd I b (aa hne ax) (ah (aR k (by decide)) aE)),⟨_,⟨J,rfl⟩,⟨_,_,_,_,_,rfl,aG.nil ..,aG.nil ..,(aG.hi_le (aV.upd' H b (ah (aR k (by decide)) aE)) (le (le (le d.size e.size) r.size) h.size) fun _ _ q=>q),aG.nil ..,aG.nil ..,⟨(b8 (x:=c) (by omega)),(b8 (x:=0) (by omega)),(c6 (x:=0) (by omega)),(c6 (x:=0) (by omega)),(c6 (x:=0) (by omega)),(c6 (x:=0) (by omega)),(c6 (x:=0) (by omega)),(c6 (x:=0) (by omega)),(c6 (x:=0) (by omega)),(c6 (x:=0) (by omega)),(c6 (x:=0) (by omega)),(c6 (x:=0) (by omega)),(b8 (x:=0) (by omega)),(b8 (x:=0) (by omega)),(b8 (x:=0) (by omega)),(b8 (x:=0) (by omega)),(b8 (x:=0) (by omega))⟩⟩⟩,(us y b)⟩
theorem kf(hcode:B8 c)(hC:ae w g C)(hm:w.heap[gm]? = some (.cells (mC c) 45 (0,0)))(hne:g≠gm) :
    Calls Tryz.prog 142 #[.agg #[vP g 0,vP gm 0]] w (bQ g gm (cI c C).1 (cI c C).2 w):=by
 obtain⟨hcode1,hcode2⟩:=hcode
 have hlen:=hC.len
 refine en 33 Tryz.func142 rfl<|sg<|L0<|dw #[vP g 0,vP gm 0] fun b a0 z S T=>nt<|sq<|Rg 8 (fun w'=>w'.cell? ⟨b,1,none⟩=some (vP gm 0)∧w'.cell? ⟨b,0,none⟩=some (vP g 0)) fun a1 A=>?_
 have j:=ub A S
 refine bz ⟨(ak j rfl),(ak j rfl)⟩ fun e=>Rt 0 e<|Rl 1 e (fun _ hs=>hs.1)<|Rt 2 e<|Rl 3 e (fun _ hs=>hs.2)<|?_
 have B:=aQ T A
 refine R0 4 rfl<|Oc<|m3 (bF (ae.old hC B)) fun a2 U D a3=>?_
 have f:=nb (ae.lt hC) lr z
 have k:=aS D (Ne.symm f) j
 refine bz ⟨(ak k rfl),(ak k rfl)⟩ fun E=>Rt 5 E<|Rt 6 E<|?_
 have F:=uz B D
 have G:=aS F (Ne.symm hne) hm
 refine R0 7 rfl<|bE G 2 (mG c 0 C.wordV 0 0 0 0 0 0 0 0 0 nS nS nS nS 0 0 0 0 0 nS) fun a4 V H=>?_
 have I:=nb (ai hm) lr z
 have l:=aS H (Ne.symm I) k
 refine bz ⟨(ak l rfl),(ak l rfl)⟩ fun a5=>re<|tn<|sq<|Rg 8 (fun w'=>w'.cell? ⟨b,1,none⟩=some (vP gm 0)∧w'.cell? ⟨b,0,none⟩=some (vP g 0)) fun a6 m=>?_
 have n:=ub m l
 refine bz ⟨(ak n rfl),(ak n rfl)⟩ fun h=>Rt 0 h<|Rl 1 h (fun _ hs=>hs.1)<|Rt 2 h<|Rl 3 h (fun _ hs=>hs.2)<|?_
 have J:=aQ H m
 refine R0 4 rfl<|Oc<|m3 (bF (ae.upd U J (aa hne ax) (ah (aR G (by decide)) aE))) fun a7 K o a8=>?_
 have p:=aS o (Ne.symm f) n
 refine bz ⟨(ak p rfl),(ak p rfl)⟩ fun L=>Rt 5 L<|Rt 6 L<|?_
 have q:=aS (uz m o) (Ne.symm hne) V
 refine R0 7 rfl<|bE q 4 (mG c 0 C.wordV 0 ((C.wordsC 1).wordV) 0 0 0 0 0 0 0 nS nS nS nS 0 0 0 0 0 nS) fun a9 W M=>?_
 have r:=aS M (Ne.symm I) p
 refine bz ⟨(ak r rfl),(ak r rfl)⟩ fun ab=>re<|tn<|Rg 17 (fun w'=>w'.cell? ⟨b,0,none⟩=some (vP g 0)∧w'.cell? ⟨b,1,none⟩=some (vP gm 0)∧w'.cell? ⟨gm,4,none⟩=some (vW ((C.wordsC 1).wordV))) fun ac s=>?_
 have i:=ub s r
 have t:=ub s W
 refine bz ⟨(ak i rfl),(ak i rfl),(ak t rfl)⟩ fun a=>Rt 0 a<|Rl 1 a (fun _ hs=>hs.1)<|Rt 2 a<|Rl 3 a (fun _ hs=>hs.2.1)<|Rt 4 a<|Rt 5 a<|Rl 6 a (fun _ hs=>hs.2.2)<|Rt 7 a<|Rt 8 a<|?_
 have u:=aQ M s
 have N:=ui F (ui J (us o u))
 refine tT 24 ((((C.wordsC 1).wordV)==0)) (fun d=>?_) (fun d=>?_)
 have X:=ap d
 refine Ro 9 a<|Ro 10 a<|Ro 11 a<|Ro 12 a<|Ro 13 a<|Ro 14 a<|Rt 15 a<|?_
 refine R0 16 rfl<|Oc<|m2 (aZ (true) 6 (ae.upd K u (aa hne ax) (ah (aR q (by decide)) aE))) fun ad Y v=>?_
 have O:=aS v (Ne.symm f) i
 have P:=aS v (Ne.symm hne) t
 refine bz ⟨(ak O rfl),(ak O rfl),(ak P rfl)⟩ fun af=>re<|rm (.tuple #[])<|?_
 have hs:cI c C=((((C.wordsC 1).wordsC 1).need true 6),(b6.mk c 0 C.wordV 0 ((C.wordsC 1).wordV) 0 0 0 0 0 0 0 [] [] [] [] 0 0 0 0 0 [])):=by
   unfold cI ey
   (try simp only[d,bp,reduceIte])
   all_goals rfl
 rw[hs]
 exact⟨rfl,Y,⟨_,⟨P,rfl⟩,⟨_,_,_,_,_,rfl,aG.nil ..,aG.nil ..,aG.nil ..,aG.nil ..,aG.nil ..,⟨(b8 (x:=c) (by omega)),(b8 (x:=0) (by omega)),(c6 (x:=C.wordV) (by omega)),(c6 (x:=0) (by omega)),(c6 (x:=(C.wordsC 1).wordV) (by omega)),(c6 (x:=0) (by omega)),(c6 (x:=0) (by omega)),(c6 (x:=0) (by omega)),(c6 (x:=0) (by omega)),(c6 (x:=0) (by omega)),(c6 (x:=0) (by omega)),(c6 (x:=0) (by omega)),(b8 (x:=0) (by omega)),(b8 (x:=0) (by omega)),(b8 (x:=0) (by omega)),(b8 (x:=0) (by omega)),(b8 (x:=0) (by omega))⟩⟩⟩,(u1 N v im)⟩
 have X:=au d
 refine Rt 9 a<|Rl 10 a (fun _ hs=>hs.2.1)<|Rt 11 a<|Rt 12 a<|Rl 13 a (fun _ hs=>hs.2.2)<|Rt 14 a<|Rt 15 a<|?_
 refine R0 16 rfl<|Oc<|m2 (aZ ((((C.wordsC 1).wordV)==65280)) 6 (ae.upd K u (aa hne ax) (ah (aR q (by decide)) aE))) fun aj Z y=>?_
 have Q:=aS y (Ne.symm f) i
 have R:=aS y (Ne.symm hne) t
 refine bz ⟨(ak Q rfl),(ak Q rfl),(ak R rfl)⟩ fun al=>re<|rm (.tuple #[])<|?_
 have hs:cI c C=((((C.wordsC 1).wordsC 1).need (((C.wordsC 1).wordV)==65280) 6),(b6.mk c 0 C.wordV 0 ((C.wordsC 1).wordV) 0 0 0 0 0 0 0 [] [] [] [] 0 0 0 0 0 [])):=by
   unfold cI ey
   (try simp only[d,bp,reduceIte])
   all_goals rfl
 rw[hs]
 exact⟨rfl,Z,⟨_,⟨R,rfl⟩,⟨_,_,_,_,_,rfl,aG.nil ..,aG.nil ..,aG.nil ..,aG.nil ..,aG.nil ..,⟨(b8 (x:=c) (by omega)),(b8 (x:=0) (by omega)),(c6 (x:=C.wordV) (by omega)),(c6 (x:=0) (by omega)),(c6 (x:=(C.wordsC 1).wordV) (by omega)),(c6 (x:=0) (by omega)),(c6 (x:=0) (by omega)),(c6 (x:=0) (by omega)),(c6 (x:=0) (by omega)),(c6 (x:=0) (by omega)),(c6 (x:=0) (by omega)),(c6 (x:=0) (by omega)),(b8 (x:=0) (by omega)),(b8 (x:=0) (by omega)),(b8 (x:=0) (by omega)),(b8 (x:=0) (by omega)),(b8 (x:=0) (by omega))⟩⟩⟩,(u1 N y im)⟩
theorem pE(hcode:B8 c)(hC:ae w g C)(hm:w.heap[gm]? = some (.cells (mC c) 45 (0,0)))(hne:g≠gm) :
    Calls Tryz.prog 144 #[.agg #[vP g 0,vP gm 0]] w (bQ g gm (dl 1968 c C).1 (dl 1968 c C).2 w):=by
 obtain⟨hcode1,hcode2⟩:=hcode
 have hlen:=hC.len
 refine en 4 Tryz.func144 rfl<|sg<|L0<|dw #[vP g 0,vP gm 0] fun i j k d a=>nt<|go<|L0<|cM d<|?_
 have b:=ae.old hC a
 refine aq<|m3 (iP (most:=1968) ⟨hcode1,hcode2⟩ b (ub a hm) hne) fun l e f h=>?_
 have m:=(b).wordV
 have n:=bG (c3 (b).rng 1)
 refine nl<|rm (.tuple #[])<|?_
 exact cZ (by unfold dl;(try simp only[bp,reduceIte])<;>rfl) ⟨rfl,e,⟨_,⟨f,rfl⟩,⟨_,_,_,_,_,rfl,aG.nil ..,aG.nil ..,aG.nil ..,aG.nil ..,aG.nil ..,⟨(b8 (x:=c) (by omega)),(b8 (x:=0) (by omega)),(c6 (x:=C.wordV) (by omega)),(c6 (x:=(C.wordsC 1).wordV) (by omega)),(c6 (x:=0) (by omega)),(c6 (x:=0) (by omega)),(c6 (x:=0) (by omega)),(c6 (x:=0) (by omega)),(c6 (x:=0) (by omega)),(c6 (x:=0) (by omega)),(c6 (x:=0) (by omega)),(c6 (x:=0) (by omega)),(b8 (x:=0) (by omega)),(b8 (x:=0) (by omega)),(b8 (x:=0) (by omega)),(b8 (x:=0) (by omega)),(b8 (x:=0) (by omega))⟩⟩⟩,(uz a h)⟩
theorem oO(hcode:B8 c)(hC:ae w g C)(hm:w.heap[gm]? = some (.cells (mC c) 45 (0,0)))(hne:g≠gm) :
    Calls Tryz.prog 144 #[.agg #[vP g 0,vP gm 0]] w (mM g gm (bU C 1968) (mG c 0 C.wordV (C.wordsC 1).wordV 0 0 0 0 0 0 0 0 nS nS nS nS 0 0 0 0 0 nS) w):=by
 obtain⟨hcode1,hcode2⟩:=hcode
 have hlen:=hC.len
 refine en 4 Tryz.func144 rfl<|sg<|L0<|dw #[vP g 0,vP gm 0] fun i j k d a=>nt<|go<|L0<|cM d<|?_
 have b:=ae.old hC a
 refine aq<|m3 (iP (most:=1968) ⟨hcode1,hcode2⟩ b (ub a hm) hne) fun l e f h=>?_
 have m:=(b).wordV
 have n:=bG (c3 (b).rng 1)
 refine nl<|rm (.tuple #[])<|?_
 have hs:bU C 1968=(bU C 1968):=by
   unfold bU i7
   (try simp only[bp,reduceIte])
   all_goals rfl
 rw[hs]
 exact⟨rfl,e,f,(uz a h)⟩
theorem s4(hcode:B8 c)(hC:ae w g C)(hm:w.heap[gm]? = some (.cells (mC c) 45 (0,0)))(hne:g≠gm) :
    Calls Tryz.prog 143 #[.agg #[vP g 0,vP gm 0]] w (bQ g gm (fo c C).1 (fo c C).2 w):=by
 obtain⟨hcode1,hcode2⟩:=hcode
 have hlen:=hC.len
 refine en 46 Tryz.func143 rfl<|sg<|L0<|dw #[vP g 0,vP gm 0] fun q a3 F G f=>ng<|L0<|cM G<|?_
 have u:=ae.old hC f
 refine aq<|m3 (oO ⟨hcode1,hcode2⟩ u (ub f hm) hne) fun a4 Q R k=>?_
 have a5:=(u).wordV
 have a6:=bG (c3 (u).rng 1)
 refine aK 1<|?_
 have l:=nb (ae.lt hC) lr F
 have H:=aC.blk k (aa (Ne.symm l) (aa (Ne.symm (nb (ai hm) lr F)) ax)) G
 refine aF H 0<|aq<|m3 (bD Q) fun a7 S r a8=>bt ((bU C 1968).byteV)<|am 1<|sq<|Rg 12 (fun w'=>w'.cell? ⟨q,0,none⟩=some (vP g 0)∧w'.cell? ⟨q,1,none⟩=some (vP gm 0)∧w'.cell? ⟨gm,3,none⟩=some (vW ((C.wordsC 1).wordV))) fun a9 m=>?_
 have v:=aQ r m
 have o:=aS v (Ne.symm l) H
 have y:=aS v (Ne.symm hne) R
 refine bz ⟨(ak o rfl),(ak o rfl),(ak y rfl)⟩ fun a=>Rt 0 a<|Rl 1 a (fun _ hs=>hs.1)<|Rt 2 a<|Rt 3 a<|Rl 4 a (fun _ hs=>hs.2.1)<|Rt 5 a<|Rt 6 a<|Rl 7 a (fun _ hs=>hs.2.2)<|Rr 8 a (vI ((C.wordsC 1).wordV)) (fun _ _=>bv (vI (IntKind.i64.wrap ((C.wordsC 1).wordV))) (by kernel_rfl) (congrArg (Value.int .i64) (i64_in (by omega))))<|R0 9 rfl<|Oc<|mq (je (n:=(C.wordsC 1).wordV) (by omega))<|bz ⟨(ak o rfl),(ak o rfl),(ak y rfl)⟩ fun T=>Rt 10 T<|?_
 refine R0 11 rfl<|Oc<|m2 (aZ ((((bU C 1968).byteV)==(dG ((C.wordsC 1).wordV)))) 5 (ae.old S m)) fun ab U i=>?_
 have z:=aS i (Ne.symm l) o
 have I:=aS i (Ne.symm hne) y
 refine bz ⟨(ak z rfl),(ak z rfl),(ak I rfl)⟩ fun ad=>re<|tn<|sq<|Rg 16 (fun w'=>w'.cell? ⟨q,0,none⟩=some (vP g 0)∧w'.cell? ⟨q,1,none⟩=some (vP gm 0)∧w'.cell? ⟨gm,3,none⟩=some (vW ((C.wordsC 1).wordV))) fun af d=>?_
 have A:=ub d z
 have J:=ub d I
 refine bz ⟨(ak A rfl),(ak A rfl),(ak J rfl)⟩ fun b=>Rt 0 b<|Rl 1 b (fun _ hs=>hs.1)<|Rt 2 b<|Rt 4 b<|Rl 5 b (fun _ hs=>hs.2.1)<|Rt 6 b<|Rt 7 b<|Rl 8 b (fun _ hs=>hs.2.2)<|Rr 9 b (vI ((C.wordsC 1).wordV)) (fun _ _=>bv (vI (IntKind.i64.wrap ((C.wordsC 1).wordV))) (by kernel_rfl) (congrArg (Value.int .i64) (i64_in (by omega))))<|?_
 have K:=ae.old U d
 refine R0 3 rfl<|Oc<|oZ (bN (n:=(bU C 1968).byteV) K) fun V W aj X an ao Y j=>?_
 have ap:=Nat.le_trans (ag.bytesR_le (((bU C 1968).bytesC 1).need (((bU C 1968).byteV)==(dG ((C.wordsC 1).wordV))) 5) ((bU C 1968).byteV)) (ae.len K)
 have B:=aS j (Ne.symm l) A
 have L:=aS j (Ne.symm hne) J
 refine bz ⟨(ak B rfl),(ak B rfl),(ak L rfl)⟩ fun ar=>R0 10 rfl<|Oc (args:=#[.slice V (((((bU C 1968).bytesC 1).need (((bU C 1968).byteV)==(dG ((C.wordsC 1).wordV))) 5).bytesR ((bU C 1968).byteV)).length) W,vI ((C.wordsC 1).wordV)])<|tA (nE X (by omega) (by omega) (by omega)) fun Z a0 au D aw ay s=>?_
 have t:=ub s B
 have M:=ub s L
 refine bz ⟨(ak t rfl),(ak t rfl),(ak M rfl)⟩ fun p=>Rt 11 p<|Rt 12 p<|Rt 13 p<|Rt 14 p<|Rt 15 p<|re<|tn<|al 1<|aF t 0<|Pl 1<|?_
 refine aq<|m2 (aZ ((bX ((((bU C 1968).bytesC 1).need (((bU C 1968).byteV)==(dG ((C.wordsC 1).wordV))) 5).bytesR ((bU C 1968).byteV)) ((C.wordsC 1).wordV)).isSome) 6 (ae.old Y s)) fun az a1 E=>nt<|go<|Pl 1<|?_
 refine aF (aS E (Ne.symm l) t) 1<|Pl 3<|?_
 have N:=aS E (Ne.symm hne) M
 refine L0<|bE N 13 (mG c 0 C.wordV ((C.wordsC 1).wordV) 0 0 0 0 0 0 0 0 nS (.slice Z (((bX ((((bU C 1968).bytesC 1).need (((bU C 1968).byteV)==(dG ((C.wordsC 1).wordV))) 5).bytesR ((bU C 1968).byteV)) ((C.wordsC 1).wordV)).getD []).length) a0) nS nS 0 0 0 0 0 nS) fun aB a2 O=>nl<|rm (.tuple #[])<|?_
 have P:=us E O
 exact cZ (by unfold fo o1 nR gg nc nF;(try simp only[bp,reduceIte])<;>rfl) ⟨rfl,(ae.upd a1 O (aa hne ax) (ah (aR N (by decide)) aE)),⟨_,⟨a2,rfl⟩,⟨_,_,_,_,_,rfl,aG.nil ..,(aT.hi (av D P (fun x hx=>(aa (fun e=>(aD (ae.lt hC) (le (le (le (le (le (le f.size k.size) r.size) m.size) i.size) d.size) j.size) D) (e▸hx)) (aa (fun e=>(aD (ai hm) (le (le (le (le (le (le f.size k.size) r.size) m.size) i.size) d.size) j.size) D) (e▸hx)) ax))) (fun _ _ h=>h)) (le (le (le (le (le (le f.size k.size) r.size) m.size) i.size) d.size) j.size)),aG.nil ..,aG.nil ..,aG.nil ..,⟨(b8 (x:=c) (by omega)),(b8 (x:=0) (by omega)),(c6 (x:=C.wordV) (by omega)),(c6 (x:=(C.wordsC 1).wordV) (by omega)),(c6 (x:=0) (by omega)),(c6 (x:=0) (by omega)),(c6 (x:=0) (by omega)),(c6 (x:=0) (by omega)),(c6 (x:=0) (by omega)),(c6 (x:=0) (by omega)),(c6 (x:=0) (by omega)),(c6 (x:=0) (by omega)),(b8 (x:=0) (by omega)),(b8 (x:=0) (by omega)),(b8 (x:=0) (by omega)),(b8 (x:=0) (by omega)),(b8 (x:=0) (by omega))⟩⟩⟩,(uz f (ut k (ui v (ui i (uz d (ui j (uz s P))))) (ac im (ac im aA))))⟩
open Go.RowKit
theorem sv(c:Int) : c=1∨c=2∨c=5∨c=15∨(c≠1∧c≠2∧c≠5∧c≠15):=by omega
theorem jK(hcode:B8 c)(hsl:aV m w (.slice A b.length cp) b)(hb:b.length≤1048576) :
    Calls Tryz.prog 96 #[vI 0,vB c,.slice A b.length cp] w (dy (aj aN 0 c b) w):=by
 obtain⟨hcode1,hcode2⟩:=hcode
 have hln:(b.length:Int)≤1048576:=by omega
 refine en 72 Tryz.func96 rfl<|sg<|aJ mZ fun a5 bY P H t=>am 1<|sq<|az 6<|c0<|bu<|al 2<|aJ mZ fun a bZ y p z=>aB p (mC c) fun c2 I f=>aK 1<|?_
 have B:=ud z f y
 have Q:=aQ t B
 refine aq<|e3 (d8 (aV.old hsl Q) (by omega)) fun d c3 r D i=>Pl 1<|aJ #[.pointer none,.pointer none] fun a6 c5 E a7 s=>aB a7 #[vP d 0,vP a 0] fun c6 aH j=>ng<|L0<|rX fun c7 c8 J aL k=>?_
 have R:=ub k aH
 refine L0<|cM R<|Pl 1<|L0<|cM R<|Pl 2<|L0<|fe aL 1 fun ca aM l=>?_
 have K:=nb (ai a7) j.size J
 have S:=aS l K R
 refine L0<|cM S<|Pl 1<|L0<|cM S<|Pl 2<|L0<|fe aM 2 fun cc aO n=>?_
 have T:=aS n K S
 refine L0<|cM T<|Pl 1<|L0<|cM T<|Pl 2<|L0<|fe aO 5 fun cd aP o=>?_
 have U:=aS o K T
 refine L0<|cM U<|Pl 1<|L0<|cM U<|Pl 2<|L0<|fe aP 15 fun aT F u=>am 2<|vK (fun x=>[(6,vP a5 0),(8,vP a 0),(9,vP a6 0)]) (fun(x:ag × Array Value × b6) w'=>aC [d,a] aT w'∧ae w' d x.1∧w'.heap[a]? = some (.cells x.2.1 45 (0,0))∧aU (.hi w.heap.size) w' x.2.1.toList x.2.2∧(aj aN 0 c b=bj x.2.2 x.1)) ?_ fun L=>?_
 rintro⟨C,cs,M⟩ V ⟨aW,aY,aZ,b0,b1⟩
 refine fs [(6,vP a5 0),(8,vP a 0),(9,vP a6 0)] ?_
 have a8:ae V d C:=aY
 have b2:V.heap[a]? = some (.cells cs 45 (0,0)):=aZ
 have N:aU (.hi w.heap.size) V cs.toList M:=b0
 have W:=aU.size N
 have a9:aj aN 0 c b=bj M C:=b1
 refine al 1<|?_
 have X:=us u aW
 have ac:=nb (ae.lt D) lr E
 have ad:=aC.blk X (aa K (aa (Ne.symm ac) (aa (Ne.symm (nb (ai p) (le f.size i.size) E)) ax))) U
 refine aF ad 0<|aq<|m2 (dA a8) fun ce af O=>nt<|sq<|al 1<|?_
 refine aF (aS O (Ne.symm ac) ad) 0<|aq<|mq (c4 af)<|?_
 have cf:=ae.len af
 refine Pl 1<|cJ 2<|?_
 have Y:=ud i (ud s (us j (ud k (ui l (ui n (ui o (u1 X O im)))) J)) E) r
 have ak:=ud Q Y (le t.size y)
 refine cb ((C.endC.e != 0)) (fun Z=>?_) (fun Z=>?_)
 have a0:=ay Z
 refine al 2<|?_
 refine aB (ub (ud B Y y) H) mZ fun cg b3 b4=>am 1<|bq<|c9 b3 (vI C.endC.e)<|?_
 rw[a9]
 exact cz a0 (ud ak b4 P)
 have a0:=aI Z
 refine bu<|sg<|?_
 refine L0<|cM (hz:=(by rw[W];exact aX)) (aS O (nb (ai p) f.size r) b2)<|?_
 refine aB (hz:=(by rw[W];exact aX)) (hv:=N.size) (h1:=N.one) (ub (ud B Y y) H) (cs) fun ch b5 an=>am 1<|rt<|dW 22 W b5 (vI 0)<|?_
 rw[a9]
 exact cW a0 (aU.upd N (us O an) (ah (ae.safe a8 _ (by decide)) (ah (aR (ub (ud B (ud i (ud s (us j (ud k (ui l (ui n (ui o X))) J)) E) r) y) H) (by decide)) aE))) (ud ak an P)
 refine al 2<|?_
 have G:=ud s (aQ j (ud k (u1 l (u1 n (u1 o u im) im) im) J)) E
 have v:=aQ i G
 rcases sv c with hk|hk|hk|hk|hk
 have k1:(c==1)=true:=by rw[hk];rfl
 have k2:(c==2)=false:=by rw[hk];rfl
 have k5:(c==5)=false:=by rw[hk];rfl
 have g:(c==15)=false:=by rw[hk];rfl
 refine L0<|kR (hf:=(by subst hk;kernel_rfl)) F c (.agg #[.nilFunc,.nilFunc]) (some (0,.agg #[.func (.func 140) #[.agg #[vP d 0,vP a 0]] #[],.func (.func 141) #[.agg #[vP d 0,vP a 0]] #[]]))<|Pl 3<|aJ #[.nilFunc,.nilFunc] fun ci cj b7 b8 ao=>aB b8 #[.func (.func 140) #[.agg #[vP d 0,vP a 0]] #[],.func (.func 141) #[.agg #[vP d 0,vP a 0]] #[]] fun ck b9 ap=>am 1<|sq<|az 2<|c0<|bu<|al 2<|aF b9 0<|?_
 have a1:=ud ao ap b7
 refine L0<|fV #[.agg #[vP d 0,vP a 0]] #[] (args:=#[.agg #[vP d 0,vP a 0]])<|m3 (gy (c:=c) ⟨hcode1,hcode2⟩ (ae.old D (aQ G a1)) (ub (aQ v a1) I) (Ne.symm (nb (ai p) f.size r))) fun cl ba bb bc=>?_
 obtain⟨cm,bd,be⟩:=bb
 refine ab ba fun bf bg bh=>?_
 refine nt<|?_
 exact L (bf,_,(dl 2000 c (ag.mk b false 0)).2) ⟨(uz a1 bc),bh,bd.1,(aU.lo be (le (le (le (le (le (le (le (le (le (le (le (le t.size z.size) f.size) i.size) s.size) j.size) k.size) l.size) n.size) o.size) u.size) ao.size) ap.size)),by subst bg;unfold aj aN ;(try simp only[bp,cQ,cN,cR,cP,cO,reduceIte,k1,k2,k5,g])<;>rfl⟩
 have k1:(c==1)=false:=by rw[hk];rfl
 have k2:(c==2)=true:=by rw[hk];rfl
 have k5:(c==5)=false:=by rw[hk];rfl
 have g:(c==15)=false:=by rw[hk];rfl
 refine L0<|kR (hf:=(by subst hk;kernel_rfl)) F c (.agg #[.nilFunc,.nilFunc]) (some (1,.agg #[.func (.func 140) #[.agg #[vP d 0,vP a 0]] #[],.func (.func 141) #[.agg #[vP d 0,vP a 0]] #[]]))<|Pl 3<|aJ #[.nilFunc,.nilFunc] fun cn co bi bk ar=>aB bk #[.func (.func 140) #[.agg #[vP d 0,vP a 0]] #[],.func (.func 141) #[.agg #[vP d 0,vP a 0]] #[]] fun cq bl au=>am 1<|sq<|az 2<|c0<|bu<|al 2<|aF bl 0<|?_
 have a2:=ud ar au bi
 refine L0<|fV #[.agg #[vP d 0,vP a 0]] #[] (args:=#[.agg #[vP d 0,vP a 0]])<|m3 (gy (c:=c) ⟨hcode1,hcode2⟩ (ae.old D (aQ G a2)) (ub (aQ v a2) I) (Ne.symm (nb (ai p) f.size r))) fun cr bm bn bo=>?_
 obtain⟨ct,br,bs⟩:=bn
 refine ab bm fun bt bv bw=>?_
 refine nt<|?_
 exact L (bt,_,(dl 2000 c (ag.mk b false 0)).2) ⟨(uz a2 bo),bw,br.1,(aU.lo bs (le (le (le (le (le (le (le (le (le (le (le (le t.size z.size) f.size) i.size) s.size) j.size) k.size) l.size) n.size) o.size) u.size) ar.size) au.size)),by subst bv;unfold aj aN ;(try simp only[bp,cQ,cN,cR,cP,cO,reduceIte,k1,k2,k5,g])<;>rfl⟩
 have k1:(c==1)=false:=by rw[hk];rfl
 have k2:(c==2)=false:=by rw[hk];rfl
 have k5:(c==5)=true:=by rw[hk];rfl
 have g:(c==15)=false:=by rw[hk];rfl
 refine L0<|kR (hf:=(by subst hk;kernel_rfl)) F c (.agg #[.nilFunc,.nilFunc]) (some (2,.agg #[.func (.func 142) #[.agg #[vP d 0,vP a 0]] #[],.func (.func 142) #[.agg #[vP d 0,vP a 0]] #[]]))<|Pl 3<|aJ #[.nilFunc,.nilFunc] fun cu cv bx bz av=>aB bz #[.func (.func 142) #[.agg #[vP d 0,vP a 0]] #[],.func (.func 142) #[.agg #[vP d 0,vP a 0]] #[]] fun cw bA aw=>am 1<|sq<|az 2<|c0<|bu<|al 2<|aF bA 0<|?_
 have a3:=ud av aw bx
 refine L0<|fV #[.agg #[vP d 0,vP a 0]] #[] (args:=#[.agg #[vP d 0,vP a 0]])<|m3 (kf (c:=c) ⟨hcode1,hcode2⟩ (ae.old D (aQ G a3)) (ub (aQ v a3) I) (Ne.symm (nb (ai p) f.size r))) fun cx bB bC bD=>?_
 obtain⟨cy,bE,bF⟩:=bC
 refine ab bB fun bG bH bI=>?_
 refine nt<|?_
 exact L (bG,_,(cI c (ag.mk b false 0)).2) ⟨(uz a3 bD),bI,bE.1,(aU.lo bF (le (le (le (le (le (le (le (le (le (le (le (le t.size z.size) f.size) i.size) s.size) j.size) k.size) l.size) n.size) o.size) u.size) av.size) aw.size)),by subst bH;unfold aj aN ;(try simp only[bp,cQ,cN,cR,cP,cO,reduceIte,k1,k2,k5,g])<;>rfl⟩
 have k1:(c==1)=false:=by rw[hk];rfl
 have k2:(c==2)=false:=by rw[hk];rfl
 have k5:(c==5)=false:=by rw[hk];rfl
 have g:(c==15)=true:=by rw[hk];rfl
 refine L0<|kR (hf:=(by subst hk;kernel_rfl)) F c (.agg #[.nilFunc,.nilFunc]) (some (3,.agg #[.func (.func 143) #[.agg #[vP d 0,vP a 0]] #[],.func (.func 144) #[.agg #[vP d 0,vP a 0]] #[]]))<|Pl 3<|aJ #[.nilFunc,.nilFunc] fun cA cB bJ bK aA=>aB bK #[.func (.func 143) #[.agg #[vP d 0,vP a 0]] #[],.func (.func 144) #[.agg #[vP d 0,vP a 0]] #[]] fun cC bL aD=>am 1<|sq<|az 2<|c0<|bu<|al 2<|aF bL 0<|?_
 have a4:=ud aA aD bJ
 refine L0<|fV #[.agg #[vP d 0,vP a 0]] #[] (args:=#[.agg #[vP d 0,vP a 0]])<|m3 (s4 (c:=c) ⟨hcode1,hcode2⟩ (ae.old D (aQ G a4)) (ub (aQ v a4) I) (Ne.symm (nb (ai p) f.size r))) fun cD bM bN bO=>?_
 obtain⟨cE,bP,bQ⟩:=bN
 refine nt<|?_
 exact L ((fo c (ag.mk b false 0)).1,_,(fo c (ag.mk b false 0)).2) ⟨(uz a4 bO),bM,bP.1,(aU.lo bQ (le (le (le (le (le (le (le (le (le (le (le (le t.size z.size) f.size) i.size) s.size) j.size) k.size) l.size) n.size) o.size) u.size) aA.size) aD.size)),by unfold aj aN ;(try simp only[bp,cQ,cN,cR,cP,cO,reduceIte,k1,k2,k5,g])<;>rfl⟩
 have k1:(c==1)=false:=by simpa using hk.1
 have k2:(c==2)=false:=by simpa using hk.2.1
 have k5:(c==5)=false:=by simpa using hk.2.2.1
 have g:(c==15)=false:=by simpa using hk.2.2.2
 refine L0<|kR (hf:=(uK (q:=.u8) (x:=c) #[⟨vB 1,.agg #[.func (.func 140) #[.agg #[vP d 0,vP a 0]] #[],.func (.func 141) #[.agg #[vP d 0,vP a 0]] #[]],0⟩,⟨vB 2,.agg #[.func (.func 140) #[.agg #[vP d 0,vP a 0]] #[],.func (.func 141) #[.agg #[vP d 0,vP a 0]] #[]],1⟩,⟨vB 5,.agg #[.func (.func 142) #[.agg #[vP d 0,vP a 0]] #[],.func (.func 142) #[.agg #[vP d 0,vP a 0]] #[]],2⟩,⟨vB 15,.agg #[.func (.func 143) #[.agg #[vP d 0,vP a 0]] #[],.func (.func 144) #[.agg #[vP d 0,vP a 0]] #[]],3⟩] (eB _ _ (by intro e he;simp only[List.mem_cons,List.not_mem_nil,or_false] at he;obtain⟨z1,z2,z5,cF⟩:=hk;rcases he with rfl | rfl | rfl | rfl<;>exact⟨_,rfl,fun h=>by simp_all⟩)))) F c (.agg #[.nilFunc,.nilFunc]) none<|Pl 3<|aJ #[.nilFunc,.nilFunc] fun cG cH bR bS bU=>aB bS #[.nilFunc,.nilFunc] fun cK cL bV=>am 1<|sq<|az 2<|c1<|al 1<|?_
 have aG:=ud bU bV bR
 refine aB (ub (aQ B (aQ v aG)) H) mZ fun cS bW bX=>am 1<|bq<|c9 bW (vI 4)<|?_
 exact cZ (by unfold aj aN;(try simp only[bp,cQ,cN,cR,cP,cO,reduceIte,k1,k2,k5,g])<;>rfl) (bT (ud (aQ Q v) (uz aG bX) P))
theorem jx(hcode:B8 c)(hsl:aV m w (.slice A b.length cp) b)(hb:b.length≤1048576) :
    Calls Tryz.prog 96 #[vI 1,vB c,.slice A b.length cp] w (dy (aj aN 1 c b) w):=by
 obtain⟨hcode1,hcode2⟩:=hcode
 have hln:(b.length:Int)≤1048576:=by omega
 refine en 72 Tryz.func96 rfl<|sg<|aJ mZ fun a5 c3 P H t=>am 1<|sq<|az 6<|c0<|bu<|al 2<|aJ mZ fun a c5 y p z=>aB p (mC c) fun c6 I f=>aK 1<|?_
 have B:=ud z f y
 have Q:=aQ t B
 refine aq<|e3 (d8 (aV.old hsl Q) (by omega)) fun d c7 r D i=>Pl 1<|aJ #[.pointer none,.pointer none] fun a6 c8 E a7 s=>aB a7 #[vP d 0,vP a 0] fun ca aH j=>ng<|L0<|rX fun cc cd J aL k=>?_
 have R:=ub k aH
 refine L0<|cM R<|Pl 1<|L0<|cM R<|Pl 2<|L0<|fe aL 1 fun ce aM l=>?_
 have K:=nb (ai a7) j.size J
 have S:=aS l K R
 refine L0<|cM S<|Pl 1<|L0<|cM S<|Pl 2<|L0<|fe aM 2 fun cf aO n=>?_
 have T:=aS n K S
 refine L0<|cM T<|Pl 1<|L0<|cM T<|Pl 2<|L0<|fe aO 5 fun cg aP o=>?_
 have U:=aS o K T
 refine L0<|cM U<|Pl 1<|L0<|cM U<|Pl 2<|L0<|fe aP 15 fun aT F u=>am 2<|vK (fun x=>[(6,vP a5 0),(8,vP a 0),(9,vP a6 0)]) (fun(x:ag × Array Value × b6) w'=>aC [d,a] aT w'∧ae w' d x.1∧w'.heap[a]? = some (.cells x.2.1 45 (0,0))∧aU (.hi w.heap.size) w' x.2.1.toList x.2.2∧(aj aN 1 c b=bj x.2.2 x.1)) ?_ fun L=>?_
 rintro⟨C,cs,M⟩ V ⟨aW,aY,aZ,b0,b1⟩
 refine fs [(6,vP a5 0),(8,vP a 0),(9,vP a6 0)] ?_
 have a8:ae V d C:=aY
 have b2:V.heap[a]? = some (.cells cs 45 (0,0)):=aZ
 have N:aU (.hi w.heap.size) V cs.toList M:=b0
 have W:=aU.size N
 have a9:aj aN 1 c b=bj M C:=b1
 refine al 1<|?_
 have X:=us u aW
 have ac:=nb (ae.lt D) lr E
 have ad:=aC.blk X (aa K (aa (Ne.symm ac) (aa (Ne.symm (nb (ai p) (le f.size i.size) E)) ax))) U
 refine aF ad 0<|aq<|m2 (dA a8) fun ch af O=>nt<|sq<|al 1<|?_
 refine aF (aS O (Ne.symm ac) ad) 0<|aq<|mq (c4 af)<|?_
 have ci:=ae.len af
 refine Pl 1<|cJ 2<|?_
 have Y:=ud i (ud s (us j (ud k (ui l (ui n (ui o (u1 X O im)))) J)) E) r
 have ak:=ud Q Y (le t.size y)
 refine cb ((C.endC.e != 0)) (fun Z=>?_) (fun Z=>?_)
 have a0:=ay Z
 refine al 2<|?_
 refine aB (ub (ud B Y y) H) mZ fun cj b3 b4=>am 1<|bq<|c9 b3 (vI C.endC.e)<|?_
 rw[a9]
 exact cz a0 (ud ak b4 P)
 have a0:=aI Z
 refine bu<|sg<|?_
 refine L0<|cM (hz:=(by rw[W];exact aX)) (aS O (nb (ai p) f.size r) b2)<|?_
 refine aB (hz:=(by rw[W];exact aX)) (hv:=N.size) (h1:=N.one) (ub (ud B Y y) H) (cs) fun ck b5 an=>am 1<|rt<|dW 22 W b5 (vI 0)<|?_
 rw[a9]
 exact cW a0 (aU.upd N (us O an) (ah (ae.safe a8 _ (by decide)) (ah (aR (ub (ud B (ud i (ud s (us j (ud k (ui l (ui n (ui o X))) J)) E) r) y) H) (by decide)) aE))) (ud ak an P)
 refine al 2<|?_
 have G:=ud s (aQ j (ud k (u1 l (u1 n (u1 o u im) im) im) J)) E
 have v:=aQ i G
 rcases sv c with hk|hk|hk|hk|hk
 have k1:(c==1)=true:=by rw[hk];rfl
 have k2:(c==2)=false:=by rw[hk];rfl
 have k5:(c==5)=false:=by rw[hk];rfl
 have g:(c==15)=false:=by rw[hk];rfl
 refine L0<|kR (hf:=(by subst hk;kernel_rfl)) F c (.agg #[.nilFunc,.nilFunc]) (some (0,.agg #[.func (.func 140) #[.agg #[vP d 0,vP a 0]] #[],.func (.func 141) #[.agg #[vP d 0,vP a 0]] #[]]))<|Pl 3<|aJ #[.nilFunc,.nilFunc] fun cl cm b7 b8 ao=>aB b8 #[.func (.func 140) #[.agg #[vP d 0,vP a 0]] #[],.func (.func 141) #[.agg #[vP d 0,vP a 0]] #[]] fun cn b9 ap=>am 1<|sq<|az 2<|c0<|bu<|al 2<|aF b9 1<|?_
 have a1:=ud ao ap b7
 refine L0<|fV #[.agg #[vP d 0,vP a 0]] #[] (args:=#[.agg #[vP d 0,vP a 0]])<|m3 (kj (c:=c) ⟨hcode1,hcode2⟩ (ae.old D (aQ G a1)) (ub (aQ v a1) I) (Ne.symm (nb (ai p) f.size r))) fun co ba bb bc=>?_
 obtain⟨cq,bd,be⟩:=bb
 refine ab ba fun bf bg bh=>?_
 refine nt<|?_
 exact L (bf,_,(de c (ag.mk b false 0)).2) ⟨(uz a1 bc),bh,bd.1,(aU.lo be (le (le (le (le (le (le (le (le (le (le (le (le t.size z.size) f.size) i.size) s.size) j.size) k.size) l.size) n.size) o.size) u.size) ao.size) ap.size)),by subst bg;unfold aj aN ;(try simp only[bp,cQ,cN,cR,cP,cO,reduceIte,k1,k2,k5,g])<;>rfl⟩
 have k1:(c==1)=false:=by rw[hk];rfl
 have k2:(c==2)=true:=by rw[hk];rfl
 have k5:(c==5)=false:=by rw[hk];rfl
 have g:(c==15)=false:=by rw[hk];rfl
 refine L0<|kR (hf:=(by subst hk;kernel_rfl)) F c (.agg #[.nilFunc,.nilFunc]) (some (1,.agg #[.func (.func 140) #[.agg #[vP d 0,vP a 0]] #[],.func (.func 141) #[.agg #[vP d 0,vP a 0]] #[]]))<|Pl 3<|aJ #[.nilFunc,.nilFunc] fun cr ct bi bk ar=>aB bk #[.func (.func 140) #[.agg #[vP d 0,vP a 0]] #[],.func (.func 141) #[.agg #[vP d 0,vP a 0]] #[]] fun cu bl au=>am 1<|sq<|az 2<|c0<|bu<|al 2<|aF bl 1<|?_
 have a2:=ud ar au bi
 refine L0<|fV #[.agg #[vP d 0,vP a 0]] #[] (args:=#[.agg #[vP d 0,vP a 0]])<|m3 (kj (c:=c) ⟨hcode1,hcode2⟩ (ae.old D (aQ G a2)) (ub (aQ v a2) I) (Ne.symm (nb (ai p) f.size r))) fun cv bm bn bo=>?_
 obtain⟨cw,br,bs⟩:=bn
 refine ab bm fun bt bv bw=>?_
 refine nt<|?_
 exact L (bt,_,(de c (ag.mk b false 0)).2) ⟨(uz a2 bo),bw,br.1,(aU.lo bs (le (le (le (le (le (le (le (le (le (le (le (le t.size z.size) f.size) i.size) s.size) j.size) k.size) l.size) n.size) o.size) u.size) ar.size) au.size)),by subst bv;unfold aj aN ;(try simp only[bp,cQ,cN,cR,cP,cO,reduceIte,k1,k2,k5,g])<;>rfl⟩
 have k1:(c==1)=false:=by rw[hk];rfl
 have k2:(c==2)=false:=by rw[hk];rfl
 have k5:(c==5)=true:=by rw[hk];rfl
 have g:(c==15)=false:=by rw[hk];rfl
 refine L0<|kR (hf:=(by subst hk;kernel_rfl)) F c (.agg #[.nilFunc,.nilFunc]) (some (2,.agg #[.func (.func 142) #[.agg #[vP d 0,vP a 0]] #[],.func (.func 142) #[.agg #[vP d 0,vP a 0]] #[]]))<|Pl 3<|aJ #[.nilFunc,.nilFunc] fun cx cy bx bz av=>aB bz #[.func (.func 142) #[.agg #[vP d 0,vP a 0]] #[],.func (.func 142) #[.agg #[vP d 0,vP a 0]] #[]] fun cA bA aw=>am 1<|sq<|az 2<|c0<|bu<|al 2<|aF bA 1<|?_
 have a3:=ud av aw bx
 refine L0<|fV #[.agg #[vP d 0,vP a 0]] #[] (args:=#[.agg #[vP d 0,vP a 0]])<|m3 (kf (c:=c) ⟨hcode1,hcode2⟩ (ae.old D (aQ G a3)) (ub (aQ v a3) I) (Ne.symm (nb (ai p) f.size r))) fun cB bB bC bD=>?_
 obtain⟨cC,bE,bF⟩:=bC
 refine ab bB fun bG bH bI=>?_
 refine nt<|?_
 exact L (bG,_,(cI c (ag.mk b false 0)).2) ⟨(uz a3 bD),bI,bE.1,(aU.lo bF (le (le (le (le (le (le (le (le (le (le (le (le t.size z.size) f.size) i.size) s.size) j.size) k.size) l.size) n.size) o.size) u.size) av.size) aw.size)),by subst bH;unfold aj aN ;(try simp only[bp,cQ,cN,cR,cP,cO,reduceIte,k1,k2,k5,g])<;>rfl⟩
 have k1:(c==1)=false:=by rw[hk];rfl
 have k2:(c==2)=false:=by rw[hk];rfl
 have k5:(c==5)=false:=by rw[hk];rfl
 have g:(c==15)=true:=by rw[hk];rfl
 refine L0<|kR (hf:=(by subst hk;kernel_rfl)) F c (.agg #[.nilFunc,.nilFunc]) (some (3,.agg #[.func (.func 143) #[.agg #[vP d 0,vP a 0]] #[],.func (.func 144) #[.agg #[vP d 0,vP a 0]] #[]]))<|Pl 3<|aJ #[.nilFunc,.nilFunc] fun cD cE bJ bK aA=>aB bK #[.func (.func 143) #[.agg #[vP d 0,vP a 0]] #[],.func (.func 144) #[.agg #[vP d 0,vP a 0]] #[]] fun cF bL aD=>am 1<|sq<|az 2<|c0<|bu<|al 2<|aF bL 1<|?_
 have a4:=ud aA aD bJ
 refine L0<|fV #[.agg #[vP d 0,vP a 0]] #[] (args:=#[.agg #[vP d 0,vP a 0]])<|m3 (pE (c:=c) ⟨hcode1,hcode2⟩ (ae.old D (aQ G a4)) (ub (aQ v a4) I) (Ne.symm (nb (ai p) f.size r))) fun cG bM bN bO=>?_
 obtain⟨cH,bP,bQ⟩:=bN
 refine ab bM fun bR bS bU=>?_
 refine nt<|?_
 exact L (bR,_,(dl 1968 c (ag.mk b false 0)).2) ⟨(uz a4 bO),bU,bP.1,(aU.lo bQ (le (le (le (le (le (le (le (le (le (le (le (le t.size z.size) f.size) i.size) s.size) j.size) k.size) l.size) n.size) o.size) u.size) aA.size) aD.size)),by subst bS;unfold aj aN ;(try simp only[bp,cQ,cN,cR,cP,cO,reduceIte,k1,k2,k5,g])<;>rfl⟩
 have k1:(c==1)=false:=by simpa using hk.1
 have k2:(c==2)=false:=by simpa using hk.2.1
 have k5:(c==5)=false:=by simpa using hk.2.2.1
 have g:(c==15)=false:=by simpa using hk.2.2.2
 refine L0<|kR (hf:=(uK (q:=.u8) (x:=c) #[⟨vB 1,.agg #[.func (.func 140) #[.agg #[vP d 0,vP a 0]] #[],.func (.func 141) #[.agg #[vP d 0,vP a 0]] #[]],0⟩,⟨vB 2,.agg #[.func (.func 140) #[.agg #[vP d 0,vP a 0]] #[],.func (.func 141) #[.agg #[vP d 0,vP a 0]] #[]],1⟩,⟨vB 5,.agg #[.func (.func 142) #[.agg #[vP d 0,vP a 0]] #[],.func (.func 142) #[.agg #[vP d 0,vP a 0]] #[]],2⟩,⟨vB 15,.agg #[.func (.func 143) #[.agg #[vP d 0,vP a 0]] #[],.func (.func 144) #[.agg #[vP d 0,vP a 0]] #[]],3⟩] (eB _ _ (by intro e he;simp only[List.mem_cons,List.not_mem_nil,or_false] at he;obtain⟨z1,z2,z5,cK⟩:=hk;rcases he with rfl | rfl | rfl | rfl<;>exact⟨_,rfl,fun h=>by simp_all⟩)))) F c (.agg #[.nilFunc,.nilFunc]) none<|Pl 3<|aJ #[.nilFunc,.nilFunc] fun cL cS bV bW bX=>aB bW #[.nilFunc,.nilFunc] fun cT cU bY=>am 1<|sq<|az 2<|c1<|al 1<|?_
 have aG:=ud bX bY bV
 refine aB (ub (aQ B (aQ v aG)) H) mZ fun cV bZ c2=>am 1<|bq<|c9 bZ (vI 4)<|?_
 exact cZ (by unfold aj aN;(try simp only[bp,cQ,cN,cR,cP,cO,reduceIte,k1,k2,k5,g])<;>rfl) (bT (ud (aQ Q v) (uz aG c2) P))
theorem jr(hcode:B8 c)(hsl:aV m w (.slice A b.length cp) b)(hb:b.length≤1048576)(hd:¬ (dir=0∨dir=1)) :
    Calls Tryz.prog 96 #[vI dir,vB c,.slice A b.length cp] w (dy (aj aN dir c b) w):=by
 obtain⟨hcode1,hcode2⟩:=hcode
 have hln:(b.length:Int)≤1048576:=by omega
 have e0:(dir != 0)=true:=by simp;omega
 have e1:(dir != 1)=true:=by simp;omega
 refine en 72 Tryz.func96 rfl<|sg<|aJ mZ fun g h a d e=>am 1<|sq<|al 3<|sy 16 e0<|Pl 3<|nl<|tn<|ct e1<|al 1<|aB d mZ fun i dC f=>am 1<|bq<|c9 dC (vI 1)<|?_
 exact cZ (by unfold aj aN;(try simp only[e0,e1,bp,cQ,cN,cR,cP,cO,reduceIte,hd])<;>rfl) (bT (ud e f a))
theorem m8{v:Value}    (hc:B8 c)(h:aV m w v b)(hb:b.length≤1048576) :
    Calls Tryz.prog 96 #[.int .i64 dir,.int .u8 c,v] w (dy (aj aN dir c b) w):=by
  obtain⟨A,cp,rfl,_,_⟩:=h.shape
  by_cases h0:dir=0
  · subst h0;exact jK hc h hb
  by_cases h1:dir=1
  · subst h1;exact jx hc h hb
  exact jr hc h hb (by omega)
open Go.RowKit
def dj (c:ag) : ag:=(c.wordsC 1).need (c.wordV==0 || c.wordV==65535) 6
variable {v:Int}
theorem tI(h:0≤v∧v<65536) : bits .and .u16 v 255=v%256:=by
  rw[u16_and v 255 h.1 h.2 (by decide) (by decide)]
  show((v.toNat &&& (2 ^ 8-1) : Nat) : Int)=_
  rw[Nat.and_two_pow_sub_one_eq_mod]
  omega
def eQ (dir sub v:Int) : Bool:=if (sub==2 || (decide (11≤sub)&&decide (sub≤18)))&&dir==1 then true else if sub==1 then v==0 || v==65280 else if sub==3 then v%256==0 else v==0
theorem lv{c:ag}  (hc:ae w g c) :
    Calls Tryz.prog 212 #[vP g 0] w (jQ g .u16 65536 c.wordV (dj c) w):=by
 have hr:=hc.wordV
 refine en 15 Tryz.func212 rfl<|al 1<|aK 1<|aq<|m3 (bF hc) fun k a b l=>am 1<|sq<|go<|Pl 4<|dX 3 [9] 12 9 (c.wordV==0) (c.wordV==65535) (fun K d e=>?_) ?_
 have m:=au e
 exact Pl 3<|ce d _ rfl
 refine aq<|m2 (aZ (((c.wordV==0)||(c.wordV==65535))) 6 a) fun n f h=>?_
 refine ab f fun x19 i j=>?_
 refine cJ 2<|rt<|rr (vW c.wordV)<|?_
 subst i
 exact⟨rfl,j,(u1 b h im),hr⟩
theorem qF:Calls Tryz.prog 231 #[vW v] w (cg (.bool (v==0 || v==65280)) w):=by
 refine en 9 Tryz.func231 rfl<|al 1<|aK 3<|dX 3 [5] 8 5 (v==0) (v==65280) (fun K a b=>?_) ?_
 have c:=au b
 exact Pl 3<|ce a _ rfl
 exact am 1<|rt<|rr (.bool ((v==0)||(v==65280)))<|⟨rfl,(aC.refl [] _)⟩
theorem qN(hv:0≤v∧v<65536) : Calls Tryz.prog 232 #[vW v] w (cg (.bool (v%256==0)) w):=by
 exact en 6 Tryz.func232 rfl<|al 1<|aK 1<|L0<|Oe (vW (bits .and .u16 v 255)) (vW (v%256)) (congrArg (Value.int .u16) (tI (by omega)))<|am 2<|rt<|rr (.bool ((v%256)==0))<|⟨rfl,(aC.refl [] _)⟩
theorem qj{x:Int}{gb:Nat}  (hB:w.heap[gb]? = some (.cells #[vW v] 37 (0,0))) : Calls Tryz.prog 230 #[vW x,vP gb 0] w (cg (.bool (v==0)) w):=by
 exact en 6 Tryz.func230 rfl<|al 1<|ng<|aF hB 0<|am 2<|rt<|rr (.bool (v==0))<|⟨rfl,(aC.refl [] _)⟩
theorem uB(hv:0≤v∧v<65536) : Calls Tryz.prog 211 #[vI dir,vW 1,vW v] w (cg (.bool (eQ dir 1 v)) w):=by
 refine en 42 Tryz.func211 rfl<|sg<|L0<|dw #[vW v] fun l m n b c=>Pl 1<|aK 2<|ng<|L0<|rX fun o p d e f=>L0<|fe e 1 fun q g h=>L0<|fe g 3 fun r i j=>Pl 2<|cJ 11<|sq<|az 5<|c0<|bu<|al 2<|L0<|kR i 1 (.nilFunc) (some (0,.func (.func 231) #[] #[]))<|am 5<|sq<|az 2<|c0<|bu<|al 1<|?_
 have a:=ud f (u1 h j im) d
 refine aF (ub a b) 0<|L0<|fV #[] #[] (args:=#[vW v])<|m1 (qF) fun s k=>am 1<|rt<|rr (.bool (v==0 || v==65280))<|?_
 exact cZ (by unfold eQ;(try simp only[bp,reduceIte])<;>rfl) ⟨rfl,(aQ c (aQ a k))⟩
theorem uw(hv:0≤v∧v<65536) : Calls Tryz.prog 211 #[vI dir,vW 3,vW v] w (cg (.bool (eQ dir 3 v)) w):=by
 refine en 42 Tryz.func211 rfl<|sg<|L0<|dw #[vW v] fun l m n b c=>Pl 1<|aK 2<|ng<|L0<|rX fun o p d e f=>L0<|fe e 1 fun q g h=>L0<|fe g 3 fun r i j=>Pl 2<|cJ 11<|sq<|az 5<|c0<|bu<|al 2<|L0<|kR i 3 (.nilFunc) (some (1,.func (.func 232) #[] #[]))<|am 5<|sq<|az 2<|c0<|bu<|al 1<|?_
 have a:=ud f (u1 h j im) d
 refine aF (ub a b) 0<|L0<|fV #[] #[] (args:=#[vW v])<|m1 (qN hv) fun s k=>am 1<|rt<|rr (.bool (v%256==0))<|?_
 exact cZ (by unfold eQ;(try simp only[bp,reduceIte])<;>rfl) ⟨rfl,(aQ c (aQ a k))⟩
theorem ti{sub:Int}  (hv:0≤v∧v<65536)(h1:sub≠1)(h3:sub≠3) : Calls Tryz.prog 211 #[vI dir,vW sub,vW v] w (cg (.bool (eQ dir sub v)) w):=by
 have n1:(sub==1)=false:=by simpa using h1
 have n3:(sub==3)=false:=by simpa using h3
 refine en 42 Tryz.func211 rfl<|sg<|L0<|dw #[vW v] fun c D E k l=>Pl 1<|aK 2<|ng<|L0<|rX fun F G m n o=>L0<|fe n 1 fun H p r=>L0<|fe p 3 fun I s t=>Pl 2<|aK 3<|cu 7 [17] 24 (((sub==2)||((decide (11≤sub))&&(decide (sub≤18))))) (fun K d=>?_) ?_
 refine bl 17 ((sub==2)) (fun a=>?_) (fun a=>?_)
 have u:=ap a
 exact Pl 7<|ce d true (by rw[a];rfl)
 have u:=au a
 refine Pl 3<|dc 3 [20] 23 20 (decide (11≤sub)) (decide (sub≤18)) (fun K y z=>?_) ?_
 have J:=of_decide_eq_true z
 exact Pl 3<|ce y _ rfl
 exact Pl 1<|ce d ((decide (11≤sub))&&(decide (sub≤18))) (by rw[a];rfl)
 refine am 1<|sq<|al 2<|dc 3 [26] 29 26 ((sub==2)||((decide (11≤sub))&&(decide (sub≤18)))) (dir==1) (fun K A L=>?_) ?_
 exact Pl 3<|ce A _ rfl
 refine nt<|?_
 have f:=ud o (u1 r t im) m
 have g:=aQ l f
 refine cb ((((sub==2)||((decide (11≤sub))&&(decide (sub≤18))))&&(dir==1))) (fun b=>?_) (fun b=>?_)
 have B:=(aW b).1
 have i:=(aW b).2
 have M:=ap i
 exact az 1<|bq<|rr (.bool true)<|cZ (by unfold eQ;(try simp only[b,B,i,bp,n1,n3,reduceIte])<;>rfl) ⟨rfl,g⟩
 refine bu<|al 2<|L0<|kR (hf:=(uK (q:=.u16) (x:=sub) #[⟨vW 1,.func (.func 231) #[] #[],0⟩,⟨vW 3,.func (.func 232) #[] #[],1⟩] (eB _ _ (by intro e he;simp only[List.mem_cons,List.not_mem_nil,or_false] at he;rcases he with rfl | rfl;exact⟨_,rfl,fun h=>h1 h.symm⟩;exact⟨_,rfl,fun h=>h3 h.symm⟩)))) s sub (.nilFunc) none<|am 5<|sq<|al 2<|nl<|tn<|c1<|go<|Pl 2<|aK 1<|?_
 have j:=ub f k
 refine aF j 0<|L0<|fV #[] #[vP c 0] (args:=#[vW v,vP c 0])<|m1 (qj j) fun N C=>am 1<|rt<|rr (.bool (v==0))<|?_
 exact cZ (by unfold eQ;(try simp only[b,bp,n1,n3,reduceIte])<;>rfl) ⟨rfl,(aQ g C)⟩
theorem s8{sub:Int}  (hv:0≤v∧v<65536) : Calls Tryz.prog 211 #[.int .i64 dir,.int .u16 sub,.int .u16 v] w (cg (.bool (eQ dir sub v)) w):=by
  by_cases h1:sub=1
  · subst h1;exact uB hv
  by_cases h3:sub=3
  · subst h3;exact uw hv
  exact ti hv h1 h3
open Go.RowKit
def ek (dir:Int)(C:ag) : ag:=(C.wordsC 1).need (dt C.wordV&&(dir==0 || C.wordV != 4)) 8
def ii (C:ag) : ag:=C.need (((C.l.length:Int)%2==0&&decide (2≤(C.l.length:Int)))&&decide ((C.l.length:Int)≤250)) 5
def eA (dir c:Int)(C:ag) : ag × b6 :=
  if C.wordV != 0 then (((ek dir C).wordsC 1).need ((((ek dir C).wordsR 1).length:Int)==1&&eQ dir C.wordV (((ek dir C).wordsR 1).getD 0 0)) 6,{ b6.zero with code:=c,sub:=C.wordV,words:=(ek dir C).wordsR 1 })
  else ((ii (ek dir C)).wordsC (((ek dir C).l.length:Int)/2),{ b6.zero with code:=c,sub:=C.wordV,words:=(ii (ek dir C)).wordsR (((ek dir C).l.length:Int)/2) })
def fz (C:ag)(lo hi:Int) : ag:=(C.bytesC 1).need (decide (lo≤C.byteV)&&decide (C.byteV≤hi)) 5
def gc (C:ag) : ag:=((dj (fz C 6 70)).wordsC 1).wordsC 1
def cC (c:Int)(C:ag) : ag × b6 :=
  if c==7 then (C.bytesC 1,{ b6.zero with code:=c,value:=C.byteV })
  else if c==11 then ((dj C).wordsC 1,{ b6.zero with code:=c,status:=C.wordV,events:=(dj C).wordV })
  else if c==12 then ((gc C).bytesC (C.byteV-6),{ b6.zero with code:=c,status:=(fz C 6 70).wordV,events:=(dj (fz C 6 70)).wordV,messages:=((dj (fz C 6 70)).wordsC 1).wordV,data:=(gc C).bytesR (C.byteV-6) })
  else if c==17 then ((fz C 1 251).bytesC C.byteV,{ b6.zero with code:=c,data:=(fz C 1 251).bytesR C.byteV })
  else (C,{ b6.zero with code:=c })
theorem lE(hcode:B8 c)(hC:ae w g C)(hm:w.heap[gm]? = some (.cells #[vB c,vB 0,vW 0,vW 0,vW 0,vW 0,vW 0,vW 0,vW 0,vW 0,vW 0,vW 0,nS,nS,nS,nS,vB 0,vB 0,vB 0,vB 0,vB 0,nS] 45 (0,0)))(hne:g≠gm) :
    Calls Tryz.prog 150 #[vI dir,vP g 0,vP gm 0] w (bQ g gm (eA dir c C).1 (eA dir c C).2 w):=by
 obtain⟨hcode1,hcode2⟩:=hcode
 have hlen:=hC.len
 refine en 84 Tryz.func150 rfl<|al 2<|aq<|m3 (bF hC) fun b2 Z o b3=>Pl 2<|?_
 have I:=aS o (Ne.symm hne) hm
 refine L0<|bE I 8 (mG c 0 0 0 0 0 0 0 C.wordV 0 0 0 nS nS nS nS 0 0 0 0 0 nS) fun b4 dC s=>aK 4<|aF dC 8<|aq<|m1 (qm (x:=C.wordV) (w:=_)) fun b5 j=>Pl 1<|cu 10 [18] 28 (((dt C.wordV)&&((dir==0)||(C.wordV != 4)))) (fun K J=>?_) ?_
 refine bl 18 ((dt C.wordV)) (fun t=>?_) (fun t=>?_)
 refine Pl 3<|dX 6 [21] 27 21 (dir==0) (C.wordV != 4) (fun K a0 a1=>?_) ?_
 have b7:=au a1
 refine Pl 3<|?_
 exact L1<|cY (ub j dC) 8<|Pl 2<|ce a0 _ rfl
 exact Pl 1<|ce J ((dir==0)||(C.wordV != 4)) (by rw[t];rfl)
 exact Pl 10<|ce J false (by rw[t];rfl)
 have L:=aQ s j
 refine aq<|m2 (aZ (((dt C.wordV)&&((dir==0)||(C.wordV != 4)))) 8 (ae.upd Z L (aa hne ax) (ah (aR I (by decide)) aE))) fun b8 a2 q=>?_
 refine ab a2 fun x30 u r=>?_
 refine nt<|sq<|al 3<|?_
 have y:=aS (uz j q) (Ne.symm hne) dC
 refine aF y 8<|am 1<|?_
 have b:=ui o (us L q)
 refine cb ((C.wordV != 0)) (fun f=>?_) (fun f=>?_)
 have a3:=ay f
 refine al 2<|aq<|iG (dn (n:=1) r) fun M N b9 i ba bb O P=>Pl 2<|?_
 have z:=aS P (Ne.symm hne) y
 refine L0<|bE z 12 (mG c 0 0 0 0 0 0 0 C.wordV 0 0 0 (.slice M ((x30.wordsR 1).length) N) nS nS nS 0 0 0 0 0 nS) fun bc a4 a5=>nt<|sq<|Rg 22 (fun w'=>w'.cell? ⟨gm,12,none⟩=some (.slice M ((x30.wordsR 1).length) N)∧w'.cell? ⟨gm,8,none⟩=some (vW C.wordV)) fun bd Q=>?_
 have d:=ub Q a4
 refine bz ⟨(ak d rfl),(ak d rfl)⟩ fun a=>Rt 0 a<|Rt 1 a<|Rt 2 a<|Rt 3 a<|Rl 4 a (fun _ hs=>hs.1)<|Rt 5 a<|Rt 6 a<|Rt 7 a<|?_
 have k:=aQ a5 Q
 have R:=ut b (us P k) (ac im (ac im aA))
 refine tT 47 ((((x30.wordsR 1).length:Int)==1)) (fun m=>?_) (fun m=>?_)
 have a6:=ap m
 refine Rt 8 a<|Rt 9 a<|Rt 10 a<|Rt 11 a<|Rl 12 a (fun _ hs=>hs.2)<|Rt 13 a<|Rt 14 a<|Rt 15 a<|Rl 16 a (fun _ hs=>hs.1)<|?_
 have S:=av i k (fun x hx=>(aa (fun e=>(aD (ai hm) b.size i) (e▸hx)) ax)) (fun _ _ h=>h)
 refine eH (ej.at_ (S).rd 0 (by omega)) fun a7 a8 a9 ad be=>R0 17 rfl<|ia ((x30.wordsR 1).length) 0 a9 (by omega)<|bz ⟨(ak d rfl),(ak d rfl)⟩ fun bf=>R0 18 rfl<|er (p:=⟨a7,a8+0,none⟩) (v:=vW ((x30.wordsR 1).getD 0 0)) ad<|bz ⟨(ak d rfl),(ak d rfl)⟩ fun bg=>R0 19 rfl<|Oc<|m1 (s8 (dir:=dir) (sub:=C.wordV) (v:=((x30.wordsR 1).getD 0 0)) (by omega)) fun bh A=>?_
 have B:=ub A d
 refine bz ⟨(ak B rfl),(ak B rfl)⟩ fun af=>Rt 20 af<|?_
 refine R0 21 rfl<|Oc<|m2 (aZ ((eQ dir C.wordV ((x30.wordsR 1).getD 0 0))) 6 (ae.upd O (aQ k A) (aa hne ax) (ah (aR z (by decide)) aE))) fun bi aj T=>?_
 refine ab aj fun bj an ao=>?_
 have D:=aS T (Ne.symm hne) B
 refine bz ⟨(ak D rfl),(ak D rfl)⟩ fun bk=>re<|tn<|bq<|rr (.tuple #[])<|?_
 subst an u
 have U:=uz A T
 have hs:eA dir c C=(((((C.wordsC 1).need ((dt C.wordV)&&((dir==0)||(C.wordV != 4))) 8).wordsC 1).need (eQ dir C.wordV ((((C.wordsC 1).need ((dt C.wordV)&&((dir==0)||(C.wordV != 4))) 8).wordsR 1).getD 0 0)) 6),(b6.mk c 0 0 0 0 0 0 0 C.wordV 0 0 0 (((C.wordsC 1).need ((dt C.wordV)&&((dir==0)||(C.wordV != 4))) 8).wordsR 1) [] [] [] 0 0 0 0 0 [])):=by
   unfold eA ek ii
   (try simp only[f,m,bp,reduceIte])
   all_goals rfl
 rw[hs]
 exact⟨rfl,ao,⟨_,⟨D,rfl⟩,⟨_,_,_,_,_,rfl,(aT.hi (av S U (fun x hx=>(aa (fun e=>(aD (ae.lt hC) b.size i) (e▸hx)) ax)) (fun _ _ h=>h)) b.size),aG.nil ..,aG.nil ..,aG.nil ..,aG.nil ..,(bR (by omega))⟩⟩,(aC.mono (S':=[g,gm]) (u1 R U im) (sV (Or.inl (by simp)) (Or.inl (by simp))))⟩
 have a6:=au m
 refine Ro 8 a<|Ro 9 a<|Ro 10 a<|Ro 11 a<|Ro 12 a<|Ro 13 a<|Ro 14 a<|Ro 15 a<|Ro 16 a<|Ro 17 a<|Ro 18 a<|Ro 19 a<|Rt 20 a<|?_
 refine R0 21 rfl<|Oc<|m2 (aZ (false) 6 (ae.upd O k (aa hne ax) (ah (aR z (by decide)) aE))) fun bm ar E=>?_
 have F:=aS E (Ne.symm hne) d
 refine bz ⟨(ak F rfl),(ak F rfl)⟩ fun bn=>re<|tn<|bq<|rr (.tuple #[])<|?_
 subst u
 have hs:eA dir c C=(((((C.wordsC 1).need ((dt C.wordV)&&((dir==0)||(C.wordV != 4))) 8).wordsC 1).need false 6),(b6.mk c 0 0 0 0 0 0 0 C.wordV 0 0 0 (((C.wordsC 1).need ((dt C.wordV)&&((dir==0)||(C.wordV != 4))) 8).wordsR 1) [] [] [] 0 0 0 0 0 [])):=by
   unfold eA ek ii
   (try simp only[f,m,bp,reduceIte])
   all_goals rfl
 rw[hs]
 exact⟨rfl,ar,⟨_,⟨F,rfl⟩,⟨_,_,_,_,_,rfl,(aT.hi (av i (us k E) (fun x hx=>(aa (fun e=>(aD (ai hm) b.size i) (e▸hx)) (aa (fun e=>(aD (ae.lt hC) b.size i) (e▸hx)) ax))) (fun _ _ h=>h)) b.size),aG.nil ..,aG.nil ..,aG.nil ..,aG.nil ..,(bR (by omega))⟩⟩,(aC.mono (S':=[g,gm]) (u1 R E im) (sV (Or.inl (by simp)) (Or.inl (by simp))))⟩
 have a3:=aI f
 refine bu<|al 1<|aq<|mq (dm r)<|?_
 have bo:=ae.len r
 refine Pl 1<|aK 2<|L0<|Oe (vI (Int.tmod (x30.l.length:Int) 2)) (vI ((x30.l.length:Int)%2)) (congrArg (Value.int .i64) (Int.tmod_eq_emod_of_nonneg (by omega)))<|Pl 2<|dc 3 [68] 71 68 (((x30.l.length:Int)%2)==0) (decide (2≤(x30.l.length:Int))) (fun K aw az=>?_) ?_
 have br:=ap az
 exact Pl 3<|ce aw _ rfl
 refine Pl 1<|dc 3 [72] 75 72 ((((x30.l.length:Int)%2)==0)&&(decide (2≤(x30.l.length:Int)))) (decide ((x30.l.length:Int)≤250)) (fun K aB V=>?_) ?_
 have aH:=(aW V).1
 have aJ:=(aW V).2
 have bs:=ap aH
 have bt:=of_decide_eq_true aJ
 exact Pl 3<|ce aB _ rfl
 refine aq<|m2 (aZ ((((((x30.l.length:Int)%2)==0)&&(decide (2≤(x30.l.length:Int))))&&(decide ((x30.l.length:Int)≤250)))) 5 r) fun bv aL G=>?_
 refine ab aL fun aM aN aO=>?_
 refine nt<|go<|Pl 3<|L0<|Oe (vI (IntKind.i64.wrap (Int.tdiv (x30.l.length:Int) 2))) (vI ((x30.l.length:Int)/2)) (congrArg (Value.int .i64) (eJ (by omega) (by omega)))<|aq<|iG (dn (n:=((x30.l.length:Int)/2)) aO) fun aP aU bw W bx bA aV aX=>?_
 refine ab aV fun bB aY b0=>?_
 refine Pl 2<|?_
 have X:=u1 G aX im
 have Y:=aS X (Ne.symm hne) y
 refine L0<|bE Y 12 (mG c 0 0 0 0 0 0 0 C.wordV 0 0 0 (.slice aP ((aM.wordsR ((x30.l.length:Int)/2)).length) aU) nS nS nS 0 0 0 0 0 nS) fun bC b1 H=>nl<|rm (.tuple #[])<|?_
 subst aY aN u
 have hs:eA dir c C=(((((C.wordsC 1).need ((dt C.wordV)&&((dir==0)||(C.wordV != 4))) 8).need ((((((((C.wordsC 1).need ((dt C.wordV)&&((dir==0)||(C.wordV != 4))) 8).l.length:Nat) : Int)%2)==0)&&(decide (2≤((((C.wordsC 1).need ((dt C.wordV)&&((dir==0)||(C.wordV != 4))) 8).l.length:Nat) : Int))))&&(decide (((((C.wordsC 1).need ((dt C.wordV)&&((dir==0)||(C.wordV != 4))) 8).l.length:Nat) : Int)≤250))) 5).wordsC (((((C.wordsC 1).need ((dt C.wordV)&&((dir==0)||(C.wordV != 4))) 8).l.length:Nat) : Int)/2)),(b6.mk c 0 0 0 0 0 0 0 C.wordV 0 0 0 ((((C.wordsC 1).need ((dt C.wordV)&&((dir==0)||(C.wordV != 4))) 8).need ((((((((C.wordsC 1).need ((dt C.wordV)&&((dir==0)||(C.wordV != 4))) 8).l.length:Nat) : Int)%2)==0)&&(decide (2≤((((C.wordsC 1).need ((dt C.wordV)&&((dir==0)||(C.wordV != 4))) 8).l.length:Nat) : Int))))&&(decide (((((C.wordsC 1).need ((dt C.wordV)&&((dir==0)||(C.wordV != 4))) 8).l.length:Nat) : Int)≤250))) 5).wordsR (((((C.wordsC 1).need ((dt C.wordV)&&((dir==0)||(C.wordV != 4))) 8).l.length:Nat) : Int)/2)) [] [] [] 0 0 0 0 0 [])):=by
   unfold eA ek ii
   (try simp only[f,bp,reduceIte])
   all_goals rfl
 rw[hs]
 exact⟨rfl,(ae.upd b0 H (aa hne ax) (ah (aR Y (by decide)) aE)),⟨_,⟨b1,rfl⟩,⟨_,_,_,_,_,rfl,(aT.hi (av W H (fun x hx=>(aa (fun e=>(aD (ai hm) (le (le (le (le o.size s.size) j.size) q.size) G.size) W) (e▸hx)) ax)) (fun _ _ h=>h)) (le (le (le (le o.size s.size) j.size) q.size) G.size)),aG.nil ..,aG.nil ..,aG.nil ..,aG.nil ..,(bR (by omega))⟩⟩,(aC.mono (S':=[g,gm]) (ut b (us X H) (ac im (ac im aA))) (sV (Or.inl (by simp)) (Or.inl (by simp))))⟩
theorem fc(hcode:B8 c)(hC:ae w g C)(hm:w.heap[gm]? = some (.cells #[vB c,vB 0,vW 0,vW 0,vW 0,vW 0,vW 0,vW 0,vW 0,vW 0,vW 0,vW 0,nS,nS,nS,nS,vB 0,vB 0,vB 0,vB 0,vB 0,nS] 45 (0,0)))(hne:g≠gm) :
    Calls Tryz.prog 151 #[vP g 0,vP gm 0] w (bQ g gm (cC c C).1 (cC c C).2 w):=by
 obtain⟨hcode1,hcode2⟩:=hcode
 have hlen:=hC.len
 refine en 84 Tryz.func151 rfl<|al 3<|aF hm 0<|nt<|bk<|az 2<|cb ((c==7)) (fun a=>?_) (fun a=>?_)
 have S:=ap a
 refine go<|Pl 2<|aq<|m3 (bD hC) fun aP T l aQ=>L0<|tR C.byteV<|Pl 2<|?_
 have m:=aS l (Ne.symm hne) hm
 refine L0<|bE m 4 (mG c 0 0 0 C.byteV 0 0 0 0 0 0 0 nS nS nS nS 0 0 0 0 0 nS) fun aT U o=>nl<|bn<|rm (.tuple #[])<|?_
 have hs:cC c C=((C.bytesC 1),(b6.mk c 0 0 0 C.byteV 0 0 0 0 0 0 0 [] [] [] [] 0 0 0 0 0 [])):=by
   unfold cC gc fz
   (try simp only[a,bp,reduceIte])
   all_goals rfl
 rw[hs]
 exact⟨rfl,(ae.upd T o (aa hne ax) (ah (aR m (by decide)) aE)),⟨_,⟨U,rfl⟩,⟨_,_,_,_,_,rfl,aG.nil ..,aG.nil ..,aG.nil ..,aG.nil ..,aG.nil ..,(bR (by omega))⟩⟩,(us l o)⟩
 have S:=au a
 refine az 2<|cb ((c==11)) (fun b=>?_) (fun b=>?_)
 have V:=ap b
 refine al 2<|aq<|m3 (lv hC) fun aU W p aW=>Pl 2<|?_
 have r:=aS p (Ne.symm hne) hm
 refine L0<|bE r 9 (mG c 0 0 0 0 0 0 0 0 C.wordV 0 0 nS nS nS nS 0 0 0 0 0 nS) fun aX X s=>nt<|go<|Pl 2<|?_
 refine aq<|m3 (bF (ae.upd W s (aa hne ax) (ah (aR r (by decide)) aE))) fun aY Y t b0=>Pl 2<|?_
 have u:=aS t (Ne.symm hne) X
 refine L0<|bE u 10 (mG c 0 0 0 0 0 0 0 0 C.wordV ((dj C).wordV) 0 nS nS nS nS 0 0 0 0 0 nS) fun b1 Z v=>nl<|bn<|rm (.tuple #[])<|?_
 have hs:cC c C=(((dj C).wordsC 1),(b6.mk c 0 0 0 0 0 0 0 0 C.wordV ((dj C).wordV) 0 [] [] [] [] 0 0 0 0 0 [])):=by
   unfold cC gc fz
   (try simp only[a,b,bp,reduceIte])
   all_goals rfl
 rw[hs]
 exact⟨rfl,(ae.upd Y v (aa hne ax) (ah (aR u (by decide)) aE)),⟨_,⟨Z,rfl⟩,⟨_,_,_,_,_,rfl,aG.nil ..,aG.nil ..,aG.nil ..,aG.nil ..,aG.nil ..,(bR (by omega))⟩⟩,(ui p (ui s (us t v)))⟩
 have V:=au b
 refine az 2<|cb ((c==12)) (fun d=>?_) (fun d=>?_)
 have a0:=ap d
 refine al 1<|aq<|m3 (bD hC) fun b2 a1 x b3=>bt C.byteV<|Pl 1<|aK 4<|dc 3 [38] 41 38 (decide (6≤C.byteV)) (decide (C.byteV≤70)) (fun K a2 a3=>?_) ?_
 have b4:=of_decide_eq_true a3
 exact Pl 3<|ce a2 _ rfl
 refine aq<|m2 (aZ (((decide (6≤C.byteV))&&(decide (C.byteV≤70)))) 5 a1) fun b5 a4 y=>?_
 refine ab a4 fun x53 a5 a6=>?_
 refine aK 2<|aq<|m3 (lv a6) fun b7 a7 z b8=>Pl 2<|?_
 have A:=u1 x (u1 y z im) im
 have B:=aS A (Ne.symm hne) hm
 refine L0<|bE B 9 (mG c 0 0 0 0 0 0 0 0 x53.wordV 0 0 nS nS nS nS 0 0 0 0 0 nS) fun b9 a8 f=>aK 3<|?_
 refine aq<|m3 (bF (ae.upd a7 f (aa hne ax) (ah (aR B (by decide)) aE))) fun ba a9 D bb=>Pl 1<|aq<|m3 (bF a9) fun bc ac E bd=>?_
 refine ab ac fun l1 ad af=>?_
 refine Pl 2<|?_
 have F:=u1 D E im
 have G:=aS F (Ne.symm hne) a8
 refine L0<|bE G 10 (mG c 0 0 0 0 0 0 0 0 x53.wordV ((dj x53).wordV) 0 nS nS nS nS 0 0 0 0 0 nS) fun be ai H=>Pl 2<|L0<|bE ai 11 (mG c 0 0 0 0 0 0 0 0 x53.wordV ((dj x53).wordV) (((dj x53).wordsC 1).wordV) nS nS nS nS 0 0 0 0 0 nS) fun bf aj I=>nt<|go<|Pl 3<|bt (C.byteV-6)<|?_
 have J:=u1 H I im
 have L:=ae.upd af J (aa hne ax) (ah (aR G (by decide)) aE)
 refine aq<|oZ (bN (n:=(C.byteV-6)) L) fun ak am bg an bh bi ao M=>?_
 have bj:=Nat.le_trans (ag.bytesR_le l1 (C.byteV-6)) (ae.len L)
 refine Pl 2<|?_
 have h:=aS M (Ne.symm hne) aj
 refine L0<|bE h 14 (mG c 0 0 0 0 0 0 0 0 x53.wordV ((dj x53).wordV) (((dj x53).wordsC 1).wordV) nS nS (.slice ak ((l1.bytesR (C.byteV-6)).length) am) nS 0 0 0 0 0 nS) fun bl ar i=>nl<|bn<|rm (.tuple #[])<|?_
 subst ad a5
 have hs:cC c C=(((((dj ((C.bytesC 1).need ((decide (6≤C.byteV))&&(decide (C.byteV≤70))) 5)).wordsC 1).wordsC 1).bytesC (C.byteV-6)),(b6.mk c 0 0 0 0 0 0 0 0 (((C.bytesC 1).need ((decide (6≤C.byteV))&&(decide (C.byteV≤70))) 5).wordV) ((dj ((C.bytesC 1).need ((decide (6≤C.byteV))&&(decide (C.byteV≤70))) 5)).wordV) (((dj ((C.bytesC 1).need ((decide (6≤C.byteV))&&(decide (C.byteV≤70))) 5)).wordsC 1).wordV) [] [] ((((dj ((C.bytesC 1).need ((decide (6≤C.byteV))&&(decide (C.byteV≤70))) 5)).wordsC 1).wordsC 1).bytesR (C.byteV-6)) [] 0 0 0 0 0 [])):=by
   unfold cC gc fz
   (try simp only[a,b,d,bp,reduceIte])
   all_goals rfl
 rw[hs]
 exact⟨rfl,(ae.upd ao i (aa hne ax) (ah (aR h (by decide)) aE)),⟨_,⟨ar,rfl⟩,⟨_,_,_,_,_,rfl,aG.nil ..,aG.nil ..,(aG.hi_le (aV.upd' an i (ah (aR h (by decide)) aE)) (le (le (le (le (le (le (le x.size y.size) z.size) f.size) D.size) E.size) H.size) I.size) fun _ _ q=>q),aG.nil ..,aG.nil ..,(bR (by omega))⟩⟩,(ui A (ui f (ui F (ui J (us M i)))))⟩
 have a0:=au d
 refine az 2<|cb ((c==17)) (fun e=>?_) (fun e=>?_)
 have av:=ap e
 refine al 1<|aq<|m3 (bD hC) fun bm aw N bo=>bt C.byteV<|Pl 1<|aK 4<|dc 3 [73] 76 73 (decide (1≤C.byteV)) (decide (C.byteV≤251)) (fun K ay aB=>?_) ?_
 have bq:=of_decide_eq_true aB
 exact Pl 3<|ce ay _ rfl
 refine aq<|m2 (aZ (((decide (1≤C.byteV))&&(decide (C.byteV≤251)))) 5 aw) fun br aD O=>?_
 refine ab aD fun P aH Q=>?_
 refine nt<|go<|Pl 3<|aq<|oZ (bN (n:=C.byteV) Q) fun aI aJ bs aL bu bv aM aN=>?_
 have bw:=Nat.le_trans (ag.bytesR_le P C.byteV) (ae.len Q)
 refine Pl 2<|?_
 have R:=u1 N (u1 O aN im) im
 have j:=aS R (Ne.symm hne) hm
 refine L0<|bE j 14 (mG c 0 0 0 0 0 0 0 0 0 0 0 nS nS (.slice aI ((P.bytesR C.byteV).length) aJ) nS 0 0 0 0 0 nS) fun bx aO k=>nl<|bn<|rm (.tuple #[])<|?_
 subst aH
 have hs:cC c C=((((C.bytesC 1).need ((decide (1≤C.byteV))&&(decide (C.byteV≤251))) 5).bytesC C.byteV),(b6.mk c 0 0 0 0 0 0 0 0 0 0 0 [] [] (((C.bytesC 1).need ((decide (1≤C.byteV))&&(decide (C.byteV≤251))) 5).bytesR C.byteV) [] 0 0 0 0 0 [])):=by
   unfold cC gc fz
   (try simp only[a,b,d,e,bp,reduceIte])
   all_goals rfl
 rw[hs]
 exact⟨rfl,(ae.upd aM k (aa hne ax) (ah (aR j (by decide)) aE)),⟨_,⟨aO,rfl⟩,⟨_,_,_,_,_,rfl,aG.nil ..,aG.nil ..,(aG.hi_le (aV.upd' aL k (ah (aR j (by decide)) aE)) (le N.size O.size) fun _ _ q=>q),aG.nil ..,aG.nil ..,(bR (by omega))⟩⟩,(us R k)⟩
 have av:=au e
 refine sk<|bn<|rm (.tuple #[])<|?_
 have hs:cC c C=(C,(b6.mk c 0 0 0 0 0 0 0 0 0 0 0 [] [] [] [] 0 0 0 0 0 [])):=by
   unfold cC gc fz
   (try simp only[a,b,d,e,bp,reduceIte])
   all_goals rfl
 rw[hs]
 exact⟨rfl,hC,⟨_,⟨hm,rfl⟩,⟨_,_,_,_,_,rfl,aG.nil ..,aG.nil ..,aG.nil ..,aG.nil ..,aG.nil ..,(bR (by omega))⟩⟩,(aC.mono (S':=[g,gm]) (aC.refl [] _) aA)⟩
open Go.RowKit
def bh (dir c:Int)(C:ag) : Option (ag × b6) :=
  if c==8 then some (eA dir c C)
  else if c==7 || c==11 || c==12 || c==17 then (if dir==1 then some (cC c C) else some (C,{ b6.zero with code:=c }))
  else none
theorem kN(hcode:B8 c)(hsl:aV m w (.slice A b.length cp) b)(hb:b.length≤1048576) :
    Calls Tryz.prog 100 #[vI 0,vB c,.slice A b.length cp] w (dy (aj bh 0 c b) w):=by
 obtain⟨hcode1,hcode2⟩:=hcode
 have hln:(b.length:Int)≤1048576:=by omega
 refine en 47 Tryz.func100 rfl<|sg<|aJ mZ fun H an t q I=>am 1<|sq<|az 6<|c0<|bu<|al 2<|aJ mZ fun a ao k u R=>aB u (mC c) fun ar l v=>aK 1<|?_
 have n:=ud R v k
 have y:=aQ I n
 refine aq<|e3 (d8 (aV.old hsl y) (by omega)) fun d S r o f=>am 1<|ro (fun x=>[(6,vP H 0),(8,vP a 0),(9,vP d 0)]) (fun(x:ag × Array Value × b6) w'=>aC [d,a] S w'∧ae w' d x.1∧w'.heap[a]? = some (.cells x.2.1 45 (0,0))∧aU (.hi w.heap.size) w' x.2.1.toList x.2.2∧(aj bh 0 c b=bj x.2.2 x.1)) ?_ ?_
 rintro⟨C,cs,M⟩ z ⟨J,T,U,V,W⟩
 refine fs [(6,vP H 0),(8,vP a 0),(9,vP d 0)] ?_
 have K:ae z d C:=T
 have X:z.heap[a]? = some (.cells cs 45 (0,0)):=U
 have s:aU (.hi w.heap.size) z cs.toList M:=V
 have B:=aU.size s
 have L:aj bh 0 c b=bj M C:=W
 refine al 1<|aq<|m2 (dA K) fun av N D=>nt<|sq<|al 1<|aq<|mq (c4 N)<|?_
 have aw:=ae.len N
 refine Pl 1<|cJ 2<|?_
 have E:=ud f (u1 J D im) r
 have O:=ud y E (le I.size k)
 refine cb ((C.endC.e != 0)) (fun F=>?_) (fun F=>?_)
 have G:=ay F
 refine al 2<|?_
 refine aB (ub (ud n E k) q) mZ fun ax Y Z=>am 1<|bq<|c9 Y (vI C.endC.e)<|?_
 rw[L]
 exact cz G (ud O Z t)
 have G:=aI F
 refine bu<|sg<|?_
 refine L0<|cM (hz:=(by rw[B];exact aX)) (aS D (nb (ai u) v.size r) X)<|?_
 refine aB (hz:=(by rw[B];exact aX)) (hv:=s.size) (h1:=s.one) (ub (ud n E k) q) (cs) fun aD a0 P=>am 1<|rt<|dW 22 B a0 (vI 0)<|?_
 rw[L]
 exact cW G (aU.upd s (us D P) (ah (ae.safe K _ (by decide)) (ah (aR (ub (ud n (ud f J r) k) q) (by decide)) aE))) (ud O P t)
 refine az 1<|bk<|az 2<|?_
 have Q:=aQ y f
 refine cb ((c==8)) (fun g=>?_) (fun g=>?_)
 have a1:=ap g
 refine go<|Pl 2<|?_
 refine aq<|m3 (lE (dir:=0) (c:=c) ⟨hcode1,hcode2⟩ o (ub f l) (Ne.symm (nb (ai u) v.size r))) fun aF a2 a3 a4=>?_
 obtain⟨aH,a5,a6⟩:=a3
 refine ab a2 fun x80 a7 a8=>?_
 exact nl<|bn<|jn (x80,_,(eA 0 c (ag.mk b false 0)).2) ⟨a4,a8,a5.1,(aU.lo a6 Q.size),by subst a7;unfold aj bh ;(try simp only[g,bp,cQ,cN,cR,cP,cO,reduceIte])<;>rfl⟩
 have a1:=au g
 refine sq<|az 2<|cb ((c==7)) (fun h=>?_) (fun h=>?_)
 have a9:=ap h
 refine bu<|ct h<|az 2<|c0<|sk<|bn<|?_
 exact jn ((ag.mk b false 0),_,(b6.mk c 0 0 0 0 0 0 0 0 0 0 0 [] [] [] [] 0 0 0 0 0 [])) ⟨(aC.mono (S':=[d,a]) (aC.refl [] _) aA),o,(ub f l),⟨_,_,_,_,_,rfl,aG.nil ..,aG.nil ..,aG.nil ..,aG.nil ..,aG.nil ..,(bR (by omega))⟩,by unfold aj bh ;(try simp only[g,h,bp,cQ,cN,cR,cP,cO,reduceIte])<;>rfl⟩
 have a9:=au h
 refine az 2<|cb ((c==11)) (fun i=>?_) (fun i=>?_)
 have aa:=ap i
 refine bu<|ct i<|az 2<|c0<|sk<|bn<|?_
 exact jn ((ag.mk b false 0),_,(b6.mk c 0 0 0 0 0 0 0 0 0 0 0 [] [] [] [] 0 0 0 0 0 [])) ⟨(aC.mono (S':=[d,a]) (aC.refl [] _) aA),o,(ub f l),⟨_,_,_,_,_,rfl,aG.nil ..,aG.nil ..,aG.nil ..,aG.nil ..,aG.nil ..,(bR (by omega))⟩,by unfold aj bh ;(try simp only[g,h,i,bp,cQ,cN,cR,cP,cO,reduceIte])<;>rfl⟩
 have aa:=au i
 refine az 2<|cb ((c==12)) (fun j=>?_) (fun j=>?_)
 have ac:=ap j
 refine bu<|ct j<|az 2<|c0<|sk<|bn<|?_
 exact jn ((ag.mk b false 0),_,(b6.mk c 0 0 0 0 0 0 0 0 0 0 0 [] [] [] [] 0 0 0 0 0 [])) ⟨(aC.mono (S':=[d,a]) (aC.refl [] _) aA),o,(ub f l),⟨_,_,_,_,_,rfl,aG.nil ..,aG.nil ..,aG.nil ..,aG.nil ..,aG.nil ..,(bR (by omega))⟩,by unfold aj bh ;(try simp only[g,h,i,j,bp,cQ,cN,cR,cP,cO,reduceIte])<;>rfl⟩
 have ac:=au j
 refine go<|am 2<|cb ((c==17)) (fun p=>?_) (fun p=>?_)
 have ad:=ap p
 refine az 2<|c0<|sk<|bn<|?_
 exact jn ((ag.mk b false 0),_,(b6.mk c 0 0 0 0 0 0 0 0 0 0 0 [] [] [] [] 0 0 0 0 0 [])) ⟨(aC.mono (S':=[d,a]) (aC.refl [] _) aA),o,(ub f l),⟨_,_,_,_,_,rfl,aG.nil ..,aG.nil ..,aG.nil ..,aG.nil ..,aG.nil ..,(bR (by omega))⟩,by unfold aj bh ;(try simp only[g,h,i,j,p,bp,cQ,cN,cR,cP,cO,reduceIte])<;>rfl⟩
 have ad:=au p
 refine al 1<|?_
 refine aB (ub (aQ n f) q) mZ fun aL af ak=>am 1<|rt<|br<|tr<|c9 af (vI 4)<|?_
 exact cZ (by unfold aj bh;(try simp only[g,h,i,j,p,bp,cQ,cN,cR,cP,cO,reduceIte])<;>rfl) (bT (ud Q ak t))
theorem kW(hcode:B8 c)(hsl:aV m w (.slice A b.length cp) b)(hb:b.length≤1048576) :
    Calls Tryz.prog 100 #[vI 1,vB c,.slice A b.length cp] w (dy (aj bh 1 c b) w):=by
 obtain⟨hcode1,hcode2⟩:=hcode
 have hln:(b.length:Int)≤1048576:=by omega
 refine en 47 Tryz.func100 rfl<|sg<|aJ mZ fun I bc y u J=>am 1<|sq<|az 6<|c0<|bu<|al 2<|aJ mZ fun n bd o i R=>aB i (mC c) fun be p j=>aK 1<|?_
 have q:=ud R j o
 have z:=aQ J q
 refine aq<|e3 (d8 (aV.old hsl z) (by omega)) fun r S g s a=>am 1<|ro (fun x=>[(6,vP I 0),(8,vP n 0),(9,vP r 0)]) (fun(x:ag × Array Value × b6) w'=>aC [r,n] S w'∧ae w' r x.1∧w'.heap[n]? = some (.cells x.2.1 45 (0,0))∧aU (.hi w.heap.size) w' x.2.1.toList x.2.2∧(aj bh 1 c b=bj x.2.2 x.1)) ?_ ?_
 rintro⟨C,cs,M⟩ B ⟨K,T,U,V,W⟩
 refine fs [(6,vP I 0),(8,vP n 0),(9,vP r 0)] ?_
 have L:ae B r C:=T
 have X:B.heap[n]? = some (.cells cs 45 (0,0)):=U
 have v:aU (.hi w.heap.size) B cs.toList M:=V
 have D:=aU.size v
 have N:aj bh 1 c b=bj M C:=W
 refine al 1<|aq<|m2 (dA L) fun bf O E=>nt<|sq<|al 1<|aq<|mq (c4 O)<|?_
 have bg:=ae.len O
 refine Pl 1<|cJ 2<|?_
 have F:=ud a (u1 K E im) g
 have P:=ud z F (le J.size o)
 refine cb ((C.endC.e != 0)) (fun G=>?_) (fun G=>?_)
 have H:=ay G
 refine al 2<|?_
 refine aB (ub (ud q F o) u) mZ fun bi Y Z=>am 1<|bq<|c9 Y (vI C.endC.e)<|?_
 rw[N]
 exact cz H (ud P Z y)
 have H:=aI G
 refine bu<|sg<|?_
 refine L0<|cM (hz:=(by rw[D];exact aX)) (aS E (nb (ai i) j.size g) X)<|?_
 refine aB (hz:=(by rw[D];exact aX)) (hv:=v.size) (h1:=v.one) (ub (ud q F o) u) (cs) fun bl a0 Q=>am 1<|rt<|dW 22 D a0 (vI 0)<|?_
 rw[N]
 exact cW H (aU.upd v (us E Q) (ah (ae.safe L _ (by decide)) (ah (aR (ub (ud q (ud a K g) o) u) (by decide)) aE))) (ud P Q y)
 refine az 1<|bk<|az 2<|?_
 have l:=aQ z a
 refine cb ((c==8)) (fun d=>?_) (fun d=>?_)
 have a1:=ap d
 refine go<|Pl 2<|?_
 refine aq<|m3 (lE (dir:=1) (c:=c) ⟨hcode1,hcode2⟩ s (ub a p) (Ne.symm (nb (ai i) j.size g))) fun bm a2 a3 a4=>?_
 obtain⟨bo,a5,a6⟩:=a3
 refine ab a2 fun x80 a7 a8=>?_
 exact nl<|bn<|jn (x80,_,(eA 1 c (ag.mk b false 0)).2) ⟨a4,a8,a5.1,(aU.lo a6 l.size),by subst a7;unfold aj bh ;(try simp only[d,bp,cQ,cN,cR,cP,cO,reduceIte])<;>rfl⟩
 have a1:=au d
 refine sq<|az 2<|cb ((c==7)) (fun f=>?_) (fun f=>?_)
 have a9:=ap f
 refine bu<|ct f<|az 2<|c1<|go<|Pl 1<|?_
 refine aq<|m3 (fc (c:=c) ⟨hcode1,hcode2⟩ s (ub a p) (Ne.symm (nb (ai i) j.size g))) fun bs aa ac ad=>?_
 obtain⟨bt,af,ak⟩:=ac
 refine ab aa fun x93 an ao=>?_
 exact nl<|bn<|jn (x93,_,(cC c (ag.mk b false 0)).2) ⟨ad,ao,af.1,(aU.lo ak l.size),by subst an;unfold aj bh ;(try simp only[d,f,bp,cQ,cN,cR,cP,cO,reduceIte])<;>rfl⟩
 have a9:=au f
 refine az 2<|cb ((c==11)) (fun h=>?_) (fun h=>?_)
 have ar:=ap h
 refine bu<|ct h<|az 2<|c1<|go<|Pl 1<|?_
 refine aq<|m3 (fc (c:=c) ⟨hcode1,hcode2⟩ s (ub a p) (Ne.symm (nb (ai i) j.size g))) fun bv av aw ax=>?_
 obtain⟨bw,aA,aD⟩:=aw
 refine ab av fun aF aG aH=>?_
 exact nl<|bn<|jn (aF,_,(cC c (ag.mk b false 0)).2) ⟨ax,aH,aA.1,(aU.lo aD l.size),by subst aG;unfold aj bh ;(try simp only[d,f,h,bp,cQ,cN,cR,cP,cO,reduceIte])<;>rfl⟩
 have ar:=au h
 refine az 2<|cb ((c==12)) (fun k=>?_) (fun k=>?_)
 have aL:=ap k
 refine bu<|ct k<|az 2<|c1<|go<|Pl 1<|?_
 refine aq<|m3 (fc (c:=c) ⟨hcode1,hcode2⟩ s (ub a p) (Ne.symm (nb (ai i) j.size g))) fun bx aM aN aO=>?_
 obtain⟨bz,aP,aT⟩:=aN
 refine ab aM fun aW aY aZ=>?_
 exact nl<|bn<|jn (aW,_,(cC c (ag.mk b false 0)).2) ⟨aO,aZ,aP.1,(aU.lo aT l.size),by subst aY;unfold aj bh ;(try simp only[d,f,h,k,bp,cQ,cN,cR,cP,cO,reduceIte])<;>rfl⟩
 have aL:=au k
 refine go<|am 2<|cb ((c==17)) (fun t=>?_) (fun t=>?_)
 have b0:=ap t
 refine az 2<|c1<|go<|Pl 1<|?_
 refine aq<|m3 (fc (c:=c) ⟨hcode1,hcode2⟩ s (ub a p) (Ne.symm (nb (ai i) j.size g))) fun bA b1 b2 b3=>?_
 obtain⟨bB,b4,b5⟩:=b2
 refine ab b1 fun b7 b8 b9=>?_
 exact nl<|bn<|jn (b7,_,(cC c (ag.mk b false 0)).2) ⟨b3,b9,b4.1,(aU.lo b5 l.size),by subst b8;unfold aj bh ;(try simp only[d,f,h,k,t,bp,cQ,cN,cR,cP,cO,reduceIte])<;>rfl⟩
 have b0:=au t
 refine al 1<|?_
 refine aB (ub (aQ q a) u) mZ fun bC ba bb=>am 1<|rt<|br<|tr<|c9 ba (vI 4)<|?_
 exact cZ (by unfold aj bh;(try simp only[d,f,h,k,t,bp,cQ,cN,cR,cP,cO,reduceIte])<;>rfl) (bT (ud l bb y))
theorem kA(hcode:B8 c)(hsl:aV m w (.slice A b.length cp) b)(hb:b.length≤1048576)(hd:¬ (dir=0∨dir=1)) :
    Calls Tryz.prog 100 #[vI dir,vB c,.slice A b.length cp] w (dy (aj bh dir c b) w):=by
 obtain⟨hcode1,hcode2⟩:=hcode
 have hln:(b.length:Int)≤1048576:=by omega
 have e0:(dir != 0)=true:=by simp;omega
 have e1:(dir != 1)=true:=by simp;omega
 refine en 47 Tryz.func100 rfl<|sg<|aJ mZ fun g h a d e=>am 1<|sq<|al 3<|sy 13 e0<|Pl 3<|nl<|tn<|ct e1<|al 1<|aB d mZ fun i dC f=>am 1<|bq<|c9 dC (vI 1)<|?_
 exact cZ (by unfold aj bh;(try simp only[e0,e1,bp,cQ,cN,cR,cP,cO,reduceIte,hd])<;>rfl) (bT (ud e f a))
theorem mS{v:Value}    (hc:B8 c)(h:aV m w v b)(hb:b.length≤1048576) :
    Calls Tryz.prog 100 #[.int .i64 dir,.int .u8 c,v] w (dy (aj bh dir c b) w):=by
  obtain⟨A,cp,rfl,_,_⟩:=h.shape
  by_cases h0:dir=0
  · subst h0;exact kN hc h hb
  by_cases h1:dir=1
  · subst h1;exact kW hc h hb
  exact kA hc h hb (by omega)
open Go.RowKit
def ee:Nat→ag→List Obj→ag × List Obj
  | 0,C,L=>(C,L)
  | n+1,C,L=>ee n (((C.bytesC 1).bytesC 1).bytesC (C.bytesC 1).byteV) (L++[⟨C.byteV,((C.bytesC 1).bytesC 1).bytesR (C.bytesC 1).byteV⟩])
def kE (C:ag) : ag:=(C.bytesC 1).need (bJ C.byteV) 6
def kV (C:ag) : ag:=((kE C).bytesC 1).need ((kE C).byteV==0 || (kE C).byteV==255) 6
def pB (C:ag) : ag:=((kV C).bytesC 1).need ((kE C).byteV != 0 || (kV C).byteV==0) 6
def ua (kd:Int)(C:ag) : ag:=((pB C).bytesC 1).need (kd != 4 || (pB C).byteV==1) 5
def eo (kd:Int)(C:ag) : ag × List Obj:=ee (pB C).byteV.toNat (ua kd C) []
theorem mO{me kd:Int}{C0:ag}  (hcode:B8 c)(hme:B8 me)(hkd:B8 kd)(hC:ae w g C0)(hm:w.heap[gm]? = some (.cells #[vB c,vB 0,vW 0,vW 0,vW 0,vW 0,vW 0,vW 0,vW 0,vW 0,vW 0,vW 0,nS,nS,nS,nS,vB me,vB kd,vB 0,vB 0,vB 0,nS] 45 (0,0)))(hne:g≠gm) :
    Calls Tryz.prog 161 #[vP g 0,vP gm 0] w (bQ g gm (eo kd C0).1 { b6.zero with code:=c,mei:=me,kind:=kd,level:=C0.byteV,more:=(kE C0).byteV,next:=(kV C0).byteV,objects:=(eo kd C0).2 } w):=by
 obtain⟨hcode1,hcode2⟩:=hcode
 obtain⟨hme1,hme2⟩:=hme
 obtain⟨hkd1,hkd2⟩:=hkd
 refine en 92 Tryz.func161 rfl<|al 2<|aq<|m3 (bD hC) fun cU bO b cV=>Pl 2<|?_
 have af:=aS b (Ne.symm hne) hm
 refine L0<|bE af 18 (mG c 0 0 0 0 0 0 0 0 0 0 0 nS nS nS nS me kd C0.byteV 0 0 nS) fun cW dC j=>aK 4<|aF dC 18<|aq<|m1 (p7 (x:=C0.byteV) (w:=_)) fun cX d=>?_
 have aj:=aQ j d
 refine aq<|m2 (aZ ((bJ C0.byteV)) 6 (ae.upd bO aj (aa hne ax) (ah (aR af (by decide)) aE))) fun cZ bP l=>?_
 refine ab bP fun x25 bR bS=>?_
 refine aK 2<|aq<|m3 (bD bS) fun d0 bT o d1=>Pl 2<|?_
 have ak:=u1 l o im
 have an:=aS (uz d ak) (Ne.symm hne) dC
 refine L0<|bE an 19 (mG c 0 0 0 0 0 0 0 0 0 0 0 nS nS nS nS me kd C0.byteV x25.byteV 0 nS) fun d2 T f=>aK 4<|aF T 19<|Pl 2<|dX 6 [29] 35 29 (x25.byteV==0) (x25.byteV==255) (fun K bU bV=>?_) ?_
 have d3:=au bV
 exact Pl 3<|L1<|cY T 19<|Pl 2<|ce bU _ rfl
 refine aq<|m2 (aZ (((x25.byteV==0)||(x25.byteV==255))) 6 (ae.upd bT f (aa hne ax) (ah (aR an (by decide)) aE))) fun d4 bX p=>?_
 refine ab bX fun x44 bY bZ=>?_
 refine aK 2<|aq<|m3 (bD bZ) fun d5 c0 r d6=>Pl 2<|?_
 have ao:=u1 p r im
 have ap:=aS ao (Ne.symm hne) T
 refine L0<|bE ap 20 (mG c 0 0 0 0 0 0 0 0 0 0 0 nS nS nS nS me kd C0.byteV x25.byteV x44.byteV nS) fun d7 U h=>aK 4<|aF U 19<|Pl 2<|dX 6 [48] 54 48 (x25.byteV != 0) (x44.byteV==0) (fun K c1 c2=>?_) ?_
 have d8:=aI c2
 exact Pl 3<|L1<|cY U 20<|Pl 2<|ce c1 _ rfl
 refine aq<|m2 (aZ (((x25.byteV != 0)||(x44.byteV==0))) 6 (ae.upd c0 h (aa hne ax) (ah (aR ap (by decide)) aE))) fun d9 c3 s=>?_
 refine ab c3 fun x62 c4 c5=>?_
 refine aK 1<|aq<|m3 (bD c5) fun da c8 t db=>bt x62.byteV<|Pl 1<|aK 4<|?_
 have ar:=u1 s t im
 have aw:=aS ar (Ne.symm hne) U
 refine aF aw 17<|Pl 2<|dX 3 [65] 68 65 (kd != 4) (x62.byteV==1) (fun K c9 ca=>?_) ?_
 have dc:=aI ca
 exact Pl 3<|ce c9 _ rfl
 refine aq<|m2 (aZ (((kd != 4)||(x62.byteV==1))) 5 c8) fun V cc i=>?_
 refine ab cc fun x76 cd cf=>?_
 refine cJ 2<|bk<|?_
 refine iq (fun x=>[(0,vP g 0),(1,vP gm 0),(70,vI x62.byteV),(71,vI (x.1:Int))]) (fun(x:Nat × ag × List Obj × Option Addr × Nat) w'=>aC [g,gm] V w'∧ae w' g x.2.1∧w'.heap[gm]? = some (.cells #[vB c,vB 0,vW 0,vW 0,vW 0,vW 0,vW 0,vW 0,vW 0,vW 0,vW 0,vW 0,nS,nS,nS,nS,vB me,vB kd,vB C0.byteV,vB x25.byteV,vB x44.byteV,.slice x.2.2.2.1 x.2.2.1.length x.2.2.2.2] 45 (0,0))∧aT V.heap.size 100 2 (cD (.hi w.heap.size)) w' (.slice x.2.2.2.1 x.2.2.1.length x.2.2.2.2) x.2.2.1∧(x.1≤x62.byteV.toNat)∧(ee (x62.byteV.toNat-x.1) x.2.1 x.2.2.1=ee x62.byteV.toNat x76 [])∧(x.2.2.1.length≤x.1)) (fun x=>x62.byteV.toNat-x.1) (0,x76,[],none,0) ⟨aC.refl _ _,cf,(aS i (Ne.symm hne) aw),aT.nil ..,(by(try dsimp only);omega),(by(try dsimp only);rw[Nat.sub_zero]),(by(try dsimp only);(try simp only[ef]);omega)⟩ ?_
 rintro⟨k,C,L,A,cp⟩ W ⟨v,cg,ch,ci,cj,ck,cl⟩
 refine fs [(0,vP g 0),(1,vP gm 0),(70,vI x62.byteV),(71,vI (k:Int))] ?_
 have z:ae W g C:=cg
 have E:W.heap[gm]? = some (.cells #[vB c,vB 0,vW 0,vW 0,vW 0,vW 0,vW 0,vW 0,vW 0,vW 0,vW 0,vW 0,nS,nS,nS,nS,vB me,vB kd,vB C0.byteV,vB x25.byteV,vB x44.byteV,.slice A L.length cp] 45 (0,0)):=ch
 have a:aT V.heap.size 100 2 (cD (.hi w.heap.size)) W (.slice A L.length cp) L:=ci
 have dd:k≤x62.byteV.toNat:=cj
 have de:ee (x62.byteV.toNat-k) C L=ee x62.byteV.toNat x76 []:=ck
 have df:L.length≤k:=cl
 have hobj:ee (x62.byteV.toNat-k) C L=ee x62.byteV.toNat x76 []:=by assumption
 refine az 1<|sq<|?_
 refine cb ((decide ((k:Int)<x62.byteV))) (fun X=>?_) (fun X=>?_)
 have cm:=of_decide_eq_true X
 refine bu<|sq<|bk<|al 1<|aq<|m3 (bD z) fun dg ay y dh=>am 1<|Rg 17 (fun w'=>True) fun di u=>bz trivial fun D=>Rt 0 D<|Rt 1 D<|Rt 2 D<|Rt 3 D<|Rt 5 D<|Rt 6 D<|Rt 7 D<|R2 4 8 rfl rfl ?_ ?_
 have Y:=aQ y u
 have Z:=aS Y (Ne.symm hne) E
 refine  cY Z 21<|bz trivial fun dj=>?_
 refine R0 8 rfl<|Oc<|m3 (bD (ae.old ay u)) fun dk aB G dl=>bz trivial fun cn=>Rr 9 cn (vI ((C.bytesC 1).byteV)) (fun _ _=>bv (vI (IntKind.i64.wrap ((C.bytesC 1).byteV))) (by kernel_rfl) (congrArg (Value.int .i64) (i64_in (by omega))))<|R0 10 rfl<|Oc<|oZ (bN (n:=(C.bytesC 1).byteV) aB) fun co cq dm cr dn dp cs a0=>?_
 have dq:=Nat.le_trans (ag.bytesR_le ((C.bytesC 1).bytesC 1) ((C.bytesC 1).byteV)) (ae.len aB)
 refine ab cs fun dr ct cu=>?_
 refine bz trivial fun cv=>Rt 11 cv<|R0 12 rfl<|gv (m:=1) (e:=100) #[vB C.byteV,.slice co ((((C.bytesC 1).bytesC 1).bytesR ((C.bytesC 1).byteV)).length) cq] fun ds dt du cw H=>?_
 have cx:=ip (R:=cD (.hi w.heap.size)) (x:=(Obj.mk C.byteV (((C.bytesC 1).bytesC 1).bytesR ((C.bytesC 1).byteV)))) cw rfl ⟨_,rfl,(aG.hi_le (aV.upd' cr H aE) (le (le (le (le (le (le (le (le (le (le (le (le (le (le (le b.size j.size) d.size) l.size) o.size) f.size) p.size) r.size) h.size) s.size) t.size) i.size) v.size) y.size) u.size) G.size) fun _ _ q=>q),b8 (x:=C.byteV) (by omega)⟩
 refine bz trivial fun dv=>?_
 have aJ:=u1 G (aQ a0 H) im
 have a1:=u1 Y aJ im
 have aL:=av a a1 (fun x hx=>(aa (fun e=>(aD (ae.lt hC) (le (le (le (le (le (le (le (le (le (le (le b.size j.size) d.size) l.size) o.size) f.size) p.size) r.size) h.size) s.size) t.size) i.size) a) (e▸hx)) ax)) (cD.upd8 a1 (ah (ae.safe z _ (by decide)) aE))
 refine R0 13 rfl<|fl (xs:=L) (ys:=([(Obj.mk C.byteV (((C.bytesC 1).bytesC 1).bytesR ((C.bytesC 1).byteV)))])) (.agg #[vB 0,nS]) 2 32 aL cx (by simp) cD.ones (fun w' hv=>cD.upd8 hv (bK (bW _ aL (by decide)) aE)) (by(try simp only[ef,be]);omega) (le (le (le (le (le v.size y.size) u.size) G.size) a0.size) H.size) fun aM aN dw aO aP=>bz trivial fun aU=>Rt 14 aU<|Rt 15 aU<|?_
 have aW:=aC.blk (ut (aC.mono (S':=(g :: (ob A++[]))) aJ (ac im aA)) aP (aH il aA)) (aa (Ne.symm hne) (b7 (aD (ai hm) (le (le (le (le (le (le (le (le (le (le (le b.size j.size) d.size) l.size) o.size) f.size) p.size) r.size) h.size) s.size) t.size) i.size) a) ax)) Z
 refine R0 16 rfl<|bE aW 21 (mG c 0 0 0 0 0 0 0 0 0 0 0 nS nS nS nS me kd C0.byteV x25.byteV x44.byteV (.slice aM ((L++[(Obj.mk C.byteV (((C.bytesC 1).bytesC 1).bytesR ((C.bytesC 1).byteV)))]).length) aN)) fun dx cy a2=>bz trivial fun dy=>re<|bn<|tn<|go<|bt ((k:Int)+1)<|Pl 1<|nl<|?_
 subst ct
 have aX:=u1 (aC.mono (S':=(ob A++(gm :: []))) aP (aH il aA)) a2 im
 have aY:=u1 G a0 im
 have b0:=u1 Y aY im
 exact fv ((k+1),(((C.bytesC 1).bytesC 1).bytesC ((C.bytesC 1).byteV)),(L++[(Obj.mk C.byteV (((C.bytesC 1).bytesC 1).bytesR ((C.bytesC 1).byteV)))]),aM,aN) ⟨(ut v (ut (aC.mono (S':=(g :: (ob A++(gm :: [])))) a1 (ac im aA)) aX (aH il (ac im aA))) (ac im (aH (c7 a lr) (ac im aA)))),(ae.upd cu (ut (aC.mono (S':=(ob A++(gm :: []))) H aA) aX (aH il (ac im aA))) (b7 (aD (ae.lt hC) (le (le (le (le (le (le (le (le (le (le (le b.size j.size) d.size) l.size) o.size) f.size) p.size) r.size) h.size) s.size) t.size) i.size) a) (aa hne ax)) (bK (bW _ (av a b0 (fun x hx=>(aa (fun e=>(aD (ae.lt hC) (le (le (le (le (le (le (le (le (le (le (le b.size j.size) d.size) l.size) o.size) f.size) p.size) r.size) h.size) s.size) t.size) i.size) a) (e▸hx)) ax)) (cD.upd8 b0 (ah (ae.safe z _ (by decide)) aE))) (by decide)) (ah (aR (aS aY (Ne.symm hne) Z) (by decide)) aE))),cy,(av aO a2 (fun x hx=>(aa (fun e=>(aD (ai hm) (le (le (le (le (le (le (le (le (le (le (le b.size j.size) d.size) l.size) o.size) f.size) p.size) r.size) h.size) s.size) t.size) i.size) aO) (e▸hx)) ax)) (cD.upd8 a2 (ah (aR aW (by decide)) aE))),(by(try dsimp only);omega),(by(try dsimp only);rw[← hobj,show x62.byteV.toNat-k=(x62.byteV.toNat-(k+1))+1 from by omega];rfl),(by(try dsimp only);(try simp only[ef]);omega)⟩ (by omega)
 refine  Oc<|m3 (bD (ae.old ay u)) fun dz I B dA=>bz trivial fun cz=>Rr 9 cz (vI ((C.bytesC 1).byteV)) (fun _ _=>bv (vI (IntKind.i64.wrap ((C.bytesC 1).byteV))) (by kernel_rfl) (congrArg (Value.int .i64) (i64_in (by omega))))<|R2 4 10 rfl rfl ?_ ?_
 have a3:=u1 y (uz u B) im
 have a4:=aS a3 (Ne.symm hne) E
 refine  cY a4 21<|bz trivial fun dB=>R0 10 rfl<|Oc<|oZ (bN (n:=(C.bytesC 1).byteV) I) fun cA cB dD cC dE dF cE J=>?_
 have dG:=Nat.le_trans (ag.bytesR_le ((C.bytesC 1).bytesC 1) ((C.bytesC 1).byteV)) (ae.len I)
 refine ab cE fun dH cF cG=>?_
 refine bz trivial fun cH=>Rt 11 cH<|R0 12 rfl<|gv (m:=1) (e:=100) #[vB C.byteV,.slice cA ((((C.bytesC 1).bytesC 1).bytesR ((C.bytesC 1).byteV)).length) cB] fun dI dJ dK cI M=>?_
 have cK:=ip (R:=cD (.hi w.heap.size)) (x:=(Obj.mk C.byteV (((C.bytesC 1).bytesC 1).bytesR ((C.bytesC 1).byteV)))) cI rfl ⟨_,rfl,(aG.hi_le (aV.upd' cC M aE) (le (le (le (le (le (le (le (le (le (le (le (le (le (le (le b.size j.size) d.size) l.size) o.size) f.size) p.size) r.size) h.size) s.size) t.size) i.size) v.size) y.size) u.size) B.size) fun _ _ q=>q),b8 (x:=C.byteV) (by omega)⟩
 refine bz trivial fun dL=>?_
 have b1:=aQ J M
 have a5:=u1 a3 b1 im
 have b2:=av a a5 (fun x hx=>(aa (fun e=>(aD (ae.lt hC) (le (le (le (le (le (le (le (le (le (le (le b.size j.size) d.size) l.size) o.size) f.size) p.size) r.size) h.size) s.size) t.size) i.size) a) (e▸hx)) ax)) (cD.upd8 a5 (ah (ae.safe z _ (by decide)) aE))
 refine R0 13 rfl<|fl (xs:=L) (ys:=([(Obj.mk C.byteV (((C.bytesC 1).bytesC 1).bytesR ((C.bytesC 1).byteV)))])) (.agg #[vB 0,nS]) 2 32 b2 cK (by simp) cD.ones (fun w' hv=>cD.upd8 hv (bK (bW _ b2 (by decide)) aE)) (by(try simp only[ef,be]);omega) (le (le (le (le (le v.size y.size) u.size) B.size) J.size) M.size) fun b3 b4 dM b5 b9=>bz trivial fun ba=>Rt 14 ba<|Rt 15 ba<|?_
 have bb:=aC.blk (ut (aC.mono (S':=(g :: (ob A++[]))) b1 (ac im aA)) b9 (aH il aA)) (aa (Ne.symm hne) (b7 (aD (ai hm) (le (le (le (le (le (le (le (le (le (le (le b.size j.size) d.size) l.size) o.size) f.size) p.size) r.size) h.size) s.size) t.size) i.size) a) ax)) a4
 refine R0 16 rfl<|bE bb 21 (mG c 0 0 0 0 0 0 0 0 0 0 0 nS nS nS nS me kd C0.byteV x25.byteV x44.byteV (.slice b3 ((L++[(Obj.mk C.byteV (((C.bytesC 1).bytesC 1).bytesR ((C.bytesC 1).byteV)))]).length) b4)) fun dN cL a6=>bz trivial fun dO=>re<|bn<|tn<|go<|bt ((k:Int)+1)<|Pl 1<|nl<|?_
 subst cF
 have bc:=u1 (aC.mono (S':=(ob A++(gm :: []))) b9 (aH il aA)) a6 im
 have bd:=u1 a3 J im
 exact fv ((k+1),(((C.bytesC 1).bytesC 1).bytesC ((C.bytesC 1).byteV)),(L++[(Obj.mk C.byteV (((C.bytesC 1).bytesC 1).bytesR ((C.bytesC 1).byteV)))]),b3,b4) ⟨(ut v (ut (aC.mono (S':=(g :: (ob A++(gm :: [])))) a5 (ac im aA)) bc (aH il (ac im aA))) (ac im (aH (c7 a lr) (ac im aA)))),(ae.upd cG (ut (aC.mono (S':=(ob A++(gm :: []))) M aA) bc (aH il (ac im aA))) (b7 (aD (ae.lt hC) (le (le (le (le (le (le (le (le (le (le (le b.size j.size) d.size) l.size) o.size) f.size) p.size) r.size) h.size) s.size) t.size) i.size) a) (aa hne ax)) (bK (bW _ (av a bd (fun x hx=>(aa (fun e=>(aD (ae.lt hC) (le (le (le (le (le (le (le (le (le (le (le b.size j.size) d.size) l.size) o.size) f.size) p.size) r.size) h.size) s.size) t.size) i.size) a) (e▸hx)) ax)) (cD.upd8 bd (ah (ae.safe z _ (by decide)) aE))) (by decide)) (ah (aR (aS J (Ne.symm hne) a4) (by decide)) aE))),cL,(av b5 a6 (fun x hx=>(aa (fun e=>(aD (ai hm) (le (le (le (le (le (le (le (le (le (le (le b.size j.size) d.size) l.size) o.size) f.size) p.size) r.size) h.size) s.size) t.size) i.size) b5) (e▸hx)) ax)) (cD.upd8 a6 (ah (aR bb (by decide)) aE))),(by(try dsimp only);omega),(by(try dsimp only);rw[← hobj,show x62.byteV.toNat-k=(x62.byteV.toNat-(k+1))+1 from by omega];rfl),(by(try dsimp only);(try simp only[ef]);omega)⟩ (by omega)
 refine  Oc<|oZ (bN (n:=(C.bytesC 1).byteV) I) fun bf bg dP bh dQ dR cM F=>?_
 have dS:=Nat.le_trans (ag.bytesR_le ((C.bytesC 1).bytesC 1) ((C.bytesC 1).byteV)) (ae.len I)
 refine ab cM fun dT bi bj=>?_
 refine bz trivial fun cN=>Rt 11 cN<|R2 4 12 rfl rfl ?_ ?_
 have N:=u1 y (uz u (u1 B F im)) im
 have a7:=aS N (Ne.symm hne) E
 refine  cY a7 21<|bz trivial fun dU=>R0 12 rfl<|gv (m:=1) (e:=100) #[vB C.byteV,.slice bf ((((C.bytesC 1).bytesC 1).bytesR ((C.bytesC 1).byteV)).length) bg] fun dV dW dY cO O=>?_
 have cP:=ip (R:=cD (.hi w.heap.size)) (x:=(Obj.mk C.byteV (((C.bytesC 1).bytesC 1).bytesR ((C.bytesC 1).byteV)))) cO rfl ⟨_,rfl,(aG.hi_le (aV.upd' bh O aE) (le (le (le (le (le (le (le (le (le (le (le (le (le (le (le b.size j.size) d.size) l.size) o.size) f.size) p.size) r.size) h.size) s.size) t.size) i.size) v.size) y.size) u.size) B.size) fun _ _ q=>q),b8 (x:=C.byteV) (by omega)⟩
 refine bz trivial fun dZ=>?_
 have a8:=aQ N O
 have bl:=av a a8 (fun x hx=>(aa (fun e=>(aD (ae.lt hC) (le (le (le (le (le (le (le (le (le (le (le b.size j.size) d.size) l.size) o.size) f.size) p.size) r.size) h.size) s.size) t.size) i.size) a) (e▸hx)) ax)) (cD.upd8 a8 (ah (ae.safe z _ (by decide)) aE))
 refine R0 13 rfl<|fl (xs:=L) (ys:=([(Obj.mk C.byteV (((C.bytesC 1).bytesC 1).bytesR ((C.bytesC 1).byteV)))])) (.agg #[vB 0,nS]) 2 32 bl cP (by simp) cD.ones (fun w' hv=>cD.upd8 hv (bK (bW _ bl (by decide)) aE)) (by(try simp only[ef,be]);omega) (le (le (le (le (le v.size y.size) u.size) B.size) F.size) O.size) fun bm bo e0 bp bq=>bz trivial fun br=>Rt 14 br<|Rt 15 br<|?_
 have bs:=ut (aC.mono (S':=(ob A++[])) O aA) bq (aH il aA)
 have bw:=aC.blk bs (b7 (aD (ai hm) (le (le (le (le (le (le (le (le (le (le (le b.size j.size) d.size) l.size) o.size) f.size) p.size) r.size) h.size) s.size) t.size) i.size) a) ax) a7
 refine R0 16 rfl<|bE bw 21 (mG c 0 0 0 0 0 0 0 0 0 0 0 nS nS nS nS me kd C0.byteV x25.byteV x44.byteV (.slice bm ((L++[(Obj.mk C.byteV (((C.bytesC 1).bytesC 1).bytesR ((C.bytesC 1).byteV)))]).length) bo)) fun e1 cQ P=>bz trivial fun e2=>re<|bn<|tn<|go<|bt ((k:Int)+1)<|Pl 1<|nl<|?_
 subst bi
 exact fv ((k+1),(((C.bytesC 1).bytesC 1).bytesC ((C.bytesC 1).byteV)),(L++[(Obj.mk C.byteV (((C.bytesC 1).bytesC 1).bytesR ((C.bytesC 1).byteV)))]),bm,bo) ⟨(ut v (ut (aC.mono (S':=(g :: (ob A++(gm :: [])))) a8 (ac im aA)) (u1 (aC.mono (S':=(ob A++(gm :: []))) bq (aH il aA)) P im) (aH il (ac im aA))) (ac im (aH (c7 a lr) (ac im aA)))),(ae.upd bj (u1 (aC.mono (S':=(ob A++(gm :: []))) bs (aH il aA)) P im) (b7 (aD (ae.lt hC) (le (le (le (le (le (le (le (le (le (le (le b.size j.size) d.size) l.size) o.size) f.size) p.size) r.size) h.size) s.size) t.size) i.size) a) (aa hne ax)) (bK (bW _ (av a N (fun x hx=>(aa (fun e=>(aD (ae.lt hC) (le (le (le (le (le (le (le (le (le (le (le b.size j.size) d.size) l.size) o.size) f.size) p.size) r.size) h.size) s.size) t.size) i.size) a) (e▸hx)) ax)) (cD.upd8 N (ah (ae.safe z _ (by decide)) aE))) (by decide)) (ah (aR a7 (by decide)) aE))),cQ,(av bp P (fun x hx=>(aa (fun e=>(aD (ai hm) (le (le (le (le (le (le (le (le (le (le (le b.size j.size) d.size) l.size) o.size) f.size) p.size) r.size) h.size) s.size) t.size) i.size) bp) (e▸hx)) ax)) (cD.upd8 P (ah (aR bw (by decide)) aE))),(by(try dsimp only);omega),(by(try dsimp only);rw[← hobj,show x62.byteV.toNat-k=(x62.byteV.toNat-(k+1))+1 from by omega];rfl),(by(try dsimp only);(try simp only[ef]);omega)⟩ (by omega)
 refine  gv (m:=1) (e:=100) #[vB C.byteV,.slice bf ((((C.bytesC 1).bytesC 1).bytesR ((C.bytesC 1).byteV)).length) bg] fun e3 e4 e5 cR Q=>?_
 have cS:=ip (R:=cD (.hi w.heap.size)) (x:=(Obj.mk C.byteV (((C.bytesC 1).bytesC 1).bytesR ((C.bytesC 1).byteV)))) cR rfl ⟨_,rfl,(aG.hi_le (aV.upd' bh Q aE) (le (le (le (le (le (le (le (le (le (le (le (le (le (le (le b.size j.size) d.size) l.size) o.size) f.size) p.size) r.size) h.size) s.size) t.size) i.size) v.size) y.size) u.size) B.size) fun _ _ q=>q),b8 (x:=C.byteV) (by omega)⟩
 refine bz trivial fun e6=>?_
 have S:=u1 y (uz u (u1 B (aQ F Q) im)) im
 have bA:=aS S (Ne.symm hne) E
 refine R0 4 rfl<|cY bA 21<|bz trivial fun e7=>?_
 have bB:=av a S (fun x hx=>(aa (fun e=>(aD (ae.lt hC) (le (le (le (le (le (le (le (le (le (le (le b.size j.size) d.size) l.size) o.size) f.size) p.size) r.size) h.size) s.size) t.size) i.size) a) (e▸hx)) ax)) (cD.upd8 S (ah (ae.safe z _ (by decide)) aE))
 refine R0 13 rfl<|fl (xs:=L) (ys:=([(Obj.mk C.byteV (((C.bytesC 1).bytesC 1).bytesR ((C.bytesC 1).byteV)))])) (.agg #[vB 0,nS]) 2 32 bB cS (by simp) cD.ones (fun w' hv=>cD.upd8 hv (bK (bW _ bB (by decide)) aE)) (by(try simp only[ef,be]);omega) (le (le (le (le (le v.size y.size) u.size) B.size) F.size) Q.size) fun bC bF e8 bG bH=>bz trivial fun bI=>Rt 14 bI<|Rt 15 bI<|?_
 have bL:=aC.blk bH (b7 (aD (ai hm) (le (le (le (le (le (le (le (le (le (le (le b.size j.size) d.size) l.size) o.size) f.size) p.size) r.size) h.size) s.size) t.size) i.size) a) ax) bA
 refine R0 16 rfl<|bE bL 21 (mG c 0 0 0 0 0 0 0 0 0 0 0 nS nS nS nS me kd C0.byteV x25.byteV x44.byteV (.slice bC ((L++[(Obj.mk C.byteV (((C.bytesC 1).bytesC 1).bytesR ((C.bytesC 1).byteV)))]).length) bF)) fun e9 cT a9=>bz trivial fun ea=>re<|bn<|tn<|go<|bt ((k:Int)+1)<|Pl 1<|nl<|?_
 subst bi
 have bM:=u1 (aC.mono (S':=(ob A++(gm :: []))) bH (aH il aA)) a9 im
 have ad:=u1 y (uz u (u1 B F im)) im
 exact fv ((k+1),(((C.bytesC 1).bytesC 1).bytesC ((C.bytesC 1).byteV)),(L++[(Obj.mk C.byteV (((C.bytesC 1).bytesC 1).bytesR ((C.bytesC 1).byteV)))]),bC,bF) ⟨(ut v (ut (aC.mono (S':=(g :: (ob A++(gm :: [])))) S (ac im aA)) bM (aH il (ac im aA))) (ac im (aH (c7 a lr) (ac im aA)))),(ae.upd bj (ut (aC.mono (S':=(ob A++(gm :: []))) Q aA) bM (aH il (ac im aA))) (b7 (aD (ae.lt hC) (le (le (le (le (le (le (le (le (le (le (le b.size j.size) d.size) l.size) o.size) f.size) p.size) r.size) h.size) s.size) t.size) i.size) a) (aa hne ax)) (bK (bW _ (av a ad (fun x hx=>(aa (fun e=>(aD (ae.lt hC) (le (le (le (le (le (le (le (le (le (le (le b.size j.size) d.size) l.size) o.size) f.size) p.size) r.size) h.size) s.size) t.size) i.size) a) (e▸hx)) ax)) (cD.upd8 ad (ah (ae.safe z _ (by decide)) aE))) (by decide)) (ah (aR (aS ad (Ne.symm hne) E) (by decide)) aE))),cT,(av bG a9 (fun x hx=>(aa (fun e=>(aD (ai hm) (le (le (le (le (le (le (le (le (le (le (le b.size j.size) d.size) l.size) o.size) f.size) p.size) r.size) h.size) s.size) t.size) i.size) bG) (e▸hx)) ax)) (cD.upd8 a9 (ah (aR bL (by decide)) aE))),(by(try dsimp only);omega),(by(try dsimp only);rw[← hobj,show x62.byteV.toNat-k=(x62.byteV.toNat-(k+1))+1 from by omega];rfl),(by(try dsimp only);(try simp only[ef]);omega)⟩ (by omega)
 have cm:=of_decide_eq_false X
 refine xt<|tx<|tx<|bx<|rm (.tuple #[])<|?_
 subst cd c4 bY bR
 have hf:eo kd C0=(C,L):=by
   have h1:ee ((((((C0.bytesC 1).need (bJ C0.byteV) 6).bytesC 1).need ((((C0.bytesC 1).need (bJ C0.byteV) 6).byteV==0)||(((C0.bytesC 1).need (bJ C0.byteV) 6).byteV==255)) 6).bytesC 1).need ((((C0.bytesC 1).need (bJ C0.byteV) 6).byteV != 0)||(((((C0.bytesC 1).need (bJ C0.byteV) 6).bytesC 1).need ((((C0.bytesC 1).need (bJ C0.byteV) 6).byteV==0)||(((C0.bytesC 1).need (bJ C0.byteV) 6).byteV==255)) 6).byteV==0)) 6).byteV.toNat ((((((((C0.bytesC 1).need (bJ C0.byteV) 6).bytesC 1).need ((((C0.bytesC 1).need (bJ C0.byteV) 6).byteV==0)||(((C0.bytesC 1).need (bJ C0.byteV) 6).byteV==255)) 6).bytesC 1).need ((((C0.bytesC 1).need (bJ C0.byteV) 6).byteV != 0)||(((((C0.bytesC 1).need (bJ C0.byteV) 6).bytesC 1).need ((((C0.bytesC 1).need (bJ C0.byteV) 6).byteV==0)||(((C0.bytesC 1).need (bJ C0.byteV) 6).byteV==255)) 6).byteV==0)) 6).bytesC 1).need ((kd != 4)||(((((((C0.bytesC 1).need (bJ C0.byteV) 6).bytesC 1).need ((((C0.bytesC 1).need (bJ C0.byteV) 6).byteV==0)||(((C0.bytesC 1).need (bJ C0.byteV) 6).byteV==255)) 6).bytesC 1).need ((((C0.bytesC 1).need (bJ C0.byteV) 6).byteV != 0)||(((((C0.bytesC 1).need (bJ C0.byteV) 6).bytesC 1).need ((((C0.bytesC 1).need (bJ C0.byteV) 6).byteV==0)||(((C0.bytesC 1).need (bJ C0.byteV) 6).byteV==255)) 6).byteV==0)) 6).byteV==1)) 5) []=(C,L):=by
     rw[← hobj,show((((((C0.bytesC 1).need (bJ C0.byteV) 6).bytesC 1).need ((((C0.bytesC 1).need (bJ C0.byteV) 6).byteV==0)||(((C0.bytesC 1).need (bJ C0.byteV) 6).byteV==255)) 6).bytesC 1).need ((((C0.bytesC 1).need (bJ C0.byteV) 6).byteV != 0)||(((((C0.bytesC 1).need (bJ C0.byteV) 6).bytesC 1).need ((((C0.bytesC 1).need (bJ C0.byteV) 6).byteV==0)||(((C0.bytesC 1).need (bJ C0.byteV) 6).byteV==255)) 6).byteV==0)) 6).byteV.toNat-k=0 from by omega]
     rfl
   exact h1
 rw[hf]
 exact⟨rfl,z,⟨_,⟨E,rfl⟩,⟨_,_,_,_,_,rfl,aG.nil ..,aG.nil ..,aG.nil ..,aG.nil ..,(aT.hi a (le (le (le (le (le (le (le (le (le (le (le b.size j.size) d.size) l.size) o.size) f.size) p.size) r.size) h.size) s.size) t.size) i.size)),⟨(b8 (x:=c) (by omega)),(b8 (x:=0) (by omega)),(c6 (x:=0) (by omega)),(c6 (x:=0) (by omega)),(c6 (x:=0) (by omega)),(c6 (x:=0) (by omega)),(c6 (x:=0) (by omega)),(c6 (x:=0) (by omega)),(c6 (x:=0) (by omega)),(c6 (x:=0) (by omega)),(c6 (x:=0) (by omega)),(c6 (x:=0) (by omega)),(b8 (x:=me) (by omega)),(b8 (x:=kd) (by omega)),(b8 (x:=C0.byteV) (by omega)),(b8 (x:=((C0.bytesC 1).need (bJ C0.byteV) 6).byteV) (by omega)),(b8 (x:=((((C0.bytesC 1).need (bJ C0.byteV) 6).bytesC 1).need ((((C0.bytesC 1).need (bJ C0.byteV) 6).byteV==0)||(((C0.bytesC 1).need (bJ C0.byteV) 6).byteV==255)) 6).byteV) (by omega))⟩⟩⟩,(ui b (ui aj (ui ak (ui f (ui ao (ui h (ui ar (ui i v))))))))⟩
open Go.RowKit
def dr (C:ag) : ag:=(C.bytesC 1).need (C.byteV==13 || C.byteV==14) 8
def eF (C:ag) : ag:=(dr C).need (decide (((dr C).l.length:Int)≤251)) 5
def fZ (C:ag) : ag:=((dr C).bytesC 1).need (decide (1≤(dr C).byteV)&&decide ((dr C).byteV≤4)) 6
def bY (dir c:Int)(C:ag) : Option (ag × b6) :=
  if c != 43 then none
  else if C.byteV==13 then some ((eF C).bytesC ((eF C).l.length:Int),{ b6.zero with code:=c,mei:=C.byteV,data:=(eF C).bytesR ((eF C).l.length:Int) })
  else if dir==1 then some ((eo (dr C).byteV (fZ C)).1,{ b6.zero with code:=c,mei:=C.byteV,kind:=(dr C).byteV,level:=(fZ C).byteV,more:=(kE (fZ C)).byteV,next:=(kV (fZ C)).byteV,objects:=(eo (dr C).byteV (fZ C)).2 })
  else some ((fZ C).bytesC 1,{ b6.zero with code:=c,mei:=C.byteV,kind:=(dr C).byteV,next:=(fZ C).byteV })
theorem lC(hcode:B8 c)(hsl:aV m w (.slice A b.length cp) b)(hb:b.length≤1048576) :
    Calls Tryz.prog 104 #[vI 0,vB c,.slice A b.length cp] w (dy (aj bY 0 c b) w):=by
 obtain⟨hcode1,hcode2⟩:=hcode
 have hln:(b.length:Int)≤1048576:=by omega
 refine en 81 Tryz.func104 rfl<|sg<|aJ mZ fun S bl y o p=>am 1<|sq<|bk<|az 7<|c0<|az 3<|cb ((c != 43)) (fun f=>?_) (fun f=>?_)
 have ac:=ay f
 refine al 1<|aB o mZ fun bm ad af=>am 1<|rt<|br<|tr<|c9 ad (vI 4)<|?_
 exact cZ (by unfold aj bY eF fZ dr;(try simp only[f,bp,cQ,cN,cR,cP,cO,reduceIte])<;>rfl) (bT (ud p af y))
 have ac:=aI f
 refine sk<|bn<|tn<|al 1<|?_
 refine aq<|e3 (d8 (aV.old hsl p) (by omega)) fun g bo T z B=>Pl 1<|aK 2<|aq<|m3 (bD z) fun bs ai h bt=>Pl 1<|aJ mZ fun i bv j ak U=>aB ak (mG c 0 0 0 0 0 0 0 0 0 0 0 nS nS nS nS ((ag.mk b false 0).byteV) 0 0 0 0 nS) fun bw D V=>nt<|sq<|go<|Pl 2<|aF D 16<|Pl 2<|dX 4 [33] 37 33 (((ag.mk b false 0).byteV)==13) (((ag.mk b false 0).byteV)==14) (fun K an ao=>?_) ?_
 have bx:=au ao
 exact Pl 1<|L1<|cY D 16<|Pl 2<|ce an _ rfl
 have E:=ud U V j
 refine aq<|m2 (aZ (((((ag.mk b false 0).byteV)==13)||(((ag.mk b false 0).byteV)==14))) 8 (ae.old ai E)) fun ar av r=>?_
 refine ab av fun gR s t=>?_
 refine nt<|ro (fun x=>[(6,vP S 0),(7,vI 0),(8,vP g 0),(9,vP i 0)]) (fun(x:ag × Array Value × b6) w'=>aC [g,i] ar w'∧ae w' g x.1∧w'.heap[i]? = some (.cells x.2.1 45 (0,0))∧aU (.hi w.heap.size) w' x.2.1.toList x.2.2∧(aj bY 0 c b=bj x.2.2 x.1)) ?_ ?_
 rintro⟨C,cs,M⟩ F ⟨W,aw,aA,aD,aH⟩
 refine fs [(6,vP S 0),(7,vI 0),(8,vP g 0),(9,vP i 0)] ?_
 have X:ae F g C:=aw
 have aL:F.heap[i]? = some (.cells cs 45 (0,0)):=aA
 have u:aU (.hi w.heap.size) F cs.toList M:=aD
 have G:=aU.size u
 have Y:aj bY 0 c b=bj M C:=aH
 refine al 1<|aq<|m2 (dA X) fun bz Z H=>nt<|sq<|al 1<|aq<|mq (c4 Z)<|?_
 have bA:=ae.len Z
 refine Pl 1<|cJ 2<|?_
 have I:=ud B (u1 h (ue E (ui r (u1 W H im)) j) im) T
 have a0:=aQ p I
 refine cb ((C.endC.e != 0)) (fun J=>?_) (fun J=>?_)
 have L:=ay J
 refine al 2<|?_
 refine aB (ub I o) mZ fun bB aM aN=>am 1<|bq<|c9 aM (vI C.endC.e)<|?_
 subst s
 rw[Y]
 exact cz L (ud a0 aN y)
 have L:=aI J
 refine bu<|sg<|?_
 refine L0<|cM (hz:=(by rw[G];exact aX)) (aS H (Ne.symm (nb (ae.lt z) h.size j)) aL)<|?_
 refine aB (hz:=(by rw[G];exact aX)) (hv:=u.size) (h1:=u.one) (ub I o) (cs) fun bC aO a1=>am 1<|rt<|dW 22 G aO (vI 0)<|?_
 subst s
 rw[Y]
 exact cW L (aU.upd u (us H a1) (ah (ae.safe X _ (by decide)) (ah (aR (ub (ud B (u1 h (ue E (ui r W) j) im) T) o) (by decide)) aE))) (ud a0 a1 y)
 refine al 1<|?_
 have a:=nb (ae.lt z) h.size j
 have N:=aS r (Ne.symm a) D
 refine aF N 16<|am 1<|cb ((((ag.mk b false 0).byteV)==13)) (fun k=>?_) (fun k=>?_)
 have aP:=ap k
 refine al 2<|aq<|mq (dm t)<|?_
 have bF:=ae.len t
 refine Pl 1<|aq<|m2 (aZ ((decide ((gR.l.length:Int)≤251))) 5 t) fun bG aT a2=>?_
 refine ab aT fun d aW v=>?_
 refine nt<|go<|Pl 2<|aq<|mq (dm v)<|?_
 have bH:=ae.len v
 refine aq<|oZ (bN (n:=(d.l.length:Int)) v) fun aY b0 bI b1 bJ bK b2 b3=>?_
 have bL:=Nat.le_trans (ag.bytesR_le d (d.l.length:Int)) (ae.len v)
 refine ab b2 fun b4 b5 b7=>?_
 refine Pl 1<|?_
 have a3:=u1 a2 b3 im
 have O:=aS a3 (Ne.symm a) N
 refine L0<|bE O 14 (mG c 0 0 0 0 0 0 0 0 0 0 0 nS nS (.slice aY ((d.bytesR (d.l.length:Int)).length) b0) nS ((ag.mk b false 0).byteV) 0 0 0 0 nS) fun bM b8 P=>nl<|?_
 exact jn (b4,_,(b6.mk c 0 0 0 0 0 0 0 0 0 0 0 [] [] (d.bytesR (d.l.length:Int)) [] ((ag.mk b false 0).byteV) 0 0 0 0 [])) ⟨(us a3 P),(ae.upd b7 P (aa a ax) (ah (aR O (by decide)) aE)),b8,⟨_,_,_,_,_,rfl,aG.nil ..,aG.nil ..,(aG.hi_le (aV.upd' b1 P (ah (aR O (by decide)) aE)) (le (le (le (le (le (le p.size B.size) h.size) U.size) V.size) r.size) a2.size) fun _ _ q=>q),aG.nil ..,aG.nil ..,(bR (by omega))⟩,by subst b5 aW s;unfold aj bY eF fZ dr;(try simp only[f,k,bp,cQ,cN,cR,cP,cO,reduceIte])<;>rfl⟩
 have aP:=au k
 refine al 1<|aq<|m3 (bD t) fun bO b9 a4 bP=>Pl 1<|?_
 have a5:=aS a4 (Ne.symm a) N
 refine L0<|bE a5 17 (mG c 0 0 0 0 0 0 0 0 0 0 0 nS nS nS nS ((ag.mk b false 0).byteV) gR.byteV 0 0 0 nS) fun bQ Q a6=>aK 2<|aF Q 17<|Pl 2<|dc 4 [59] 63 59 (decide (1≤gR.byteV)) (decide (gR.byteV≤4)) (fun K ba bb=>?_) ?_
 have bS:=of_decide_eq_true bb
 exact Pl 1<|L1<|cY Q 17<|Pl 2<|ce ba _ rfl
 refine aq<|m2 (aZ (((decide (1≤gR.byteV))&&(decide (gR.byteV≤4)))) 6 (ae.upd b9 a6 (aa a ax) (ah (aR a5 (by decide)) aE))) fun bU bc bd=>?_
 refine ab bc fun R be bf=>?_
 refine cJ 2<|c0<|go<|Pl 1<|aq<|m3 (bD bf) fun bV bg bh bW=>Pl 1<|?_
 have a7:=u1 bd bh im
 have a8:=aS a7 (Ne.symm a) Q
 refine L0<|bE a8 20 (mG c 0 0 0 0 0 0 0 0 0 0 0 nS nS nS nS ((ag.mk b false 0).byteV) gR.byteV 0 0 R.byteV nS) fun bX bi a9=>nl<|?_
 exact jn ((R.bytesC 1),_,(b6.mk c 0 0 0 0 0 0 0 0 0 0 0 [] [] [] [] ((ag.mk b false 0).byteV) gR.byteV 0 0 R.byteV [])) ⟨(ui a4 (ui a6 (us a7 a9))),(ae.upd bg a9 (aa a ax) (ah (aR a8 (by decide)) aE)),bi,⟨_,_,_,_,_,rfl,aG.nil ..,aG.nil ..,aG.nil ..,aG.nil ..,aG.nil ..,(bR (by omega))⟩,by subst be s;unfold aj bY eF fZ dr;(try simp only[f,k,bp,cQ,cN,cR,cP,cO,reduceIte])<;>rfl⟩
theorem mg(hcode:B8 c)(hsl:aV m w (.slice A b.length cp) b)(hb:b.length≤1048576) :
    Calls Tryz.prog 104 #[vI 1,vB c,.slice A b.length cp] w (dy (aj bY 1 c b) w):=by
 obtain⟨hcode1,hcode2⟩:=hcode
 have hln:(b.length:Int)≤1048576:=by omega
 refine en 81 Tryz.func104 rfl<|sg<|aJ mZ fun X bl B s h=>am 1<|sq<|bk<|az 7<|c0<|az 3<|cb ((c != 43)) (fun f=>?_) (fun f=>?_)
 have a8:=ay f
 refine al 1<|aB s mZ fun bm a9 ac=>am 1<|rt<|br<|tr<|c9 a9 (vI 4)<|?_
 exact cZ (by unfold aj bY eF fZ dr;(try simp only[f,bp,cQ,cN,cR,cP,cO,reduceIte])<;>rfl) (bT (ud h ac B))
 have a8:=aI f
 refine sk<|bn<|tn<|al 1<|?_
 refine aq<|e3 (d8 (aV.old hsl h) (by omega)) fun i bo Y D t=>Pl 1<|aK 2<|aq<|m3 (bD D) fun bs ad g bt=>Pl 1<|aJ mZ fun j bv k af E=>aB af (mG c 0 0 0 0 0 0 0 0 0 0 0 nS nS nS nS ((ag.mk b false 0).byteV) 0 0 0 0 nS) fun bw F G=>nt<|sq<|go<|Pl 2<|aF F 16<|Pl 2<|dX 4 [33] 37 33 (((ag.mk b false 0).byteV)==13) (((ag.mk b false 0).byteV)==14) (fun K ai ak=>?_) ?_
 have bx:=au ak
 exact Pl 1<|L1<|cY F 16<|Pl 2<|ce ai _ rfl
 have H:=ud E G k
 refine aq<|m2 (aZ (((((ag.mk b false 0).byteV)==13)||(((ag.mk b false 0).byteV)==14))) 8 (ae.old ad H)) fun an ao o=>?_
 refine ab ao fun gR u v=>?_
 refine nt<|ro (fun x=>[(6,vP X 0),(7,vI 0),(8,vP i 0),(9,vP j 0)]) (fun(x:ag × Array Value × b6) w'=>aC [i,j] an w'∧ae w' i x.1∧w'.heap[j]? = some (.cells x.2.1 45 (0,0))∧aU (.hi w.heap.size) w' x.2.1.toList x.2.2∧(aj bY 1 c b=bj x.2.2 x.1)) ?_ ?_
 rintro⟨C,cs,M⟩ I ⟨Z,ar,av,aw,aA⟩
 refine fs [(6,vP X 0),(7,vI 0),(8,vP i 0),(9,vP j 0)] ?_
 have a0:ae I i C:=ar
 have aD:I.heap[j]? = some (.cells cs 45 (0,0)):=av
 have y:aU (.hi w.heap.size) I cs.toList M:=aw
 have J:=aU.size y
 have a1:aj bY 1 c b=bj M C:=aA
 refine al 1<|aq<|m2 (dA a0) fun bz a2 L=>nt<|sq<|al 1<|aq<|mq (c4 a2)<|?_
 have bA:=ae.len a2
 refine Pl 1<|cJ 2<|?_
 have N:=ud t (u1 g (ue H (ui o (u1 Z L im)) k) im) Y
 have a3:=aQ h N
 refine cb ((C.endC.e != 0)) (fun O=>?_) (fun O=>?_)
 have P:=ay O
 refine al 2<|?_
 refine aB (ub N s) mZ fun bB aH aL=>am 1<|bq<|c9 aH (vI C.endC.e)<|?_
 subst u
 rw[a1]
 exact cz P (ud a3 aL B)
 have P:=aI O
 refine bu<|sg<|?_
 refine L0<|cM (hz:=(by rw[J];exact aX)) (aS L (Ne.symm (nb (ae.lt D) g.size k)) aD)<|?_
 refine aB (hz:=(by rw[J];exact aX)) (hv:=y.size) (h1:=y.one) (ub N s) (cs) fun bC aM a4=>am 1<|rt<|dW 22 J aM (vI 0)<|?_
 subst u
 rw[a1]
 exact cW P (aU.upd y (us L a4) (ah (ae.safe a0 _ (by decide)) (ah (aR (ub (ud t (u1 g (ue H (ui o Z) k) im) Y) s) (by decide)) aE))) (ud a3 a4 B)
 refine al 1<|?_
 have a:=nb (ae.lt D) g.size k
 have Q:=aS o (Ne.symm a) F
 refine aF Q 16<|am 1<|cb ((((ag.mk b false 0).byteV)==13)) (fun p=>?_) (fun p=>?_)
 have aN:=ap p
 refine al 2<|aq<|mq (dm v)<|?_
 have bF:=ae.len v
 refine Pl 1<|aq<|m2 (aZ ((decide ((gR.l.length:Int)≤251))) 5 v) fun bG aO a5=>?_
 refine ab aO fun d aP z=>?_
 refine nt<|go<|Pl 2<|aq<|mq (dm z)<|?_
 have bH:=ae.len z
 refine aq<|oZ (bN (n:=(d.l.length:Int)) z) fun aT aW bI aY bJ bK b0 b1=>?_
 have bL:=Nat.le_trans (ag.bytesR_le d (d.l.length:Int)) (ae.len z)
 refine ab b0 fun b2 b3 b4=>?_
 refine Pl 1<|?_
 have a6:=u1 a5 b1 im
 have R:=aS a6 (Ne.symm a) Q
 refine L0<|bE R 14 (mG c 0 0 0 0 0 0 0 0 0 0 0 nS nS (.slice aT ((d.bytesR (d.l.length:Int)).length) aW) nS ((ag.mk b false 0).byteV) 0 0 0 0 nS) fun bM b5 S=>nl<|?_
 exact jn (b2,_,(b6.mk c 0 0 0 0 0 0 0 0 0 0 0 [] [] (d.bytesR (d.l.length:Int)) [] ((ag.mk b false 0).byteV) 0 0 0 0 [])) ⟨(us a6 S),(ae.upd b4 S (aa a ax) (ah (aR R (by decide)) aE)),b5,⟨_,_,_,_,_,rfl,aG.nil ..,aG.nil ..,(aG.hi_le (aV.upd' aY S (ah (aR R (by decide)) aE)) (le (le (le (le (le (le h.size t.size) g.size) E.size) G.size) o.size) a5.size) fun _ _ q=>q),aG.nil ..,aG.nil ..,(bR (by omega))⟩,by subst b3 aP u;unfold aj bY eF fZ dr;(try simp only[f,p,bp,cQ,cN,cR,cP,cO,reduceIte])<;>rfl⟩
 have aN:=au p
 refine al 1<|aq<|m3 (bD v) fun bO b7 T bP=>Pl 1<|?_
 have a7:=aS T (Ne.symm a) Q
 refine L0<|bE a7 17 (mG c 0 0 0 0 0 0 0 0 0 0 0 nS nS nS nS ((ag.mk b false 0).byteV) gR.byteV 0 0 0 nS) fun bQ U V=>aK 2<|aF U 17<|Pl 2<|dc 4 [59] 63 59 (decide (1≤gR.byteV)) (decide (gR.byteV≤4)) (fun K b9 ba=>?_) ?_
 have bS:=of_decide_eq_true ba
 exact Pl 1<|L1<|cY U 17<|Pl 2<|ce b9 _ rfl
 refine aq<|m2 (aZ (((decide (1≤gR.byteV))&&(decide (gR.byteV≤4)))) 6 (ae.upd b7 V (aa a ax) (ah (aR a7 (by decide)) aE))) fun bU bb W=>?_
 refine ab bb fun r bc bd=>?_
 refine cJ 2<|c1<|go<|Pl 1<|?_
 refine aq<|m3 (mO (c:=c) (me:=(ag.mk b false 0).byteV) (kd:=gR.byteV) ⟨hcode1,hcode2⟩ (b8 (by omega)) (b8 (by omega)) bd (aS W (Ne.symm a) U) a) fun bV be bf bg=>?_
 obtain⟨bW,bh,bi⟩:=bf
 refine nl<|?_
 exact jn ((eo gR.byteV r).1,_,{ b6.zero with code:=c,mei:=(ag.mk b false 0).byteV,kind:=gR.byteV,level:=r.byteV,more:=(kE r).byteV,next:=(kV r).byteV,objects:=(eo gR.byteV r).2 }) ⟨(ui T (ui V (ui W bg))),be,bh.1,(aU.lo bi (le (le (le (le (le (le (le (le h.size t.size) g.size) E.size) G.size) o.size) T.size) V.size) W.size)),by subst bc u;unfold aj bY eF fZ dr;(try simp only[f,p,bp,cQ,cN,cR,cP,cO,reduceIte])<;>rfl⟩
theorem lz(hcode:B8 c)(hsl:aV m w (.slice A b.length cp) b)(hb:b.length≤1048576)(hd:¬ (dir=0∨dir=1)) :
    Calls Tryz.prog 104 #[vI dir,vB c,.slice A b.length cp] w (dy (aj bY dir c b) w):=by
 obtain⟨hcode1,hcode2⟩:=hcode
 have hln:(b.length:Int)≤1048576:=by omega
 have e0:(dir != 0)=true:=by simp;omega
 have e1:(dir != 1)=true:=by simp;omega
 refine en 81 Tryz.func104 rfl<|sg<|aJ mZ fun g h a d e=>am 1<|sq<|bk<|al 3<|sy 14 e0<|Pl 4<|nl<|tn<|ct e1<|al 1<|aB d mZ fun i dC f=>am 1<|rt<|br<|tr<|c9 dC (vI 1)<|?_
 exact cZ (by unfold aj bY eF fZ dr;(try simp only[e0,e1,bp,cQ,cN,cR,cP,cO,reduceIte,hd])<;>rfl) (bT (ud e f a))
theorem oq{v:Value}    (hc:B8 c)(h:aV m w v b)(hb:b.length≤1048576) :
    Calls Tryz.prog 104 #[.int .i64 dir,.int .u8 c,v] w (dy (aj bY dir c b) w):=by
  obtain⟨A,cp,rfl,_,_⟩:=h.shape
  by_cases h0:dir=0
  · subst h0;exact lC hc h hb
  by_cases h1:dir=1
  · subst h1;exact mg hc h hb
  exact lz hc h hb (by omega)
open Go.RowKit
def ir (C:ag) : ag:=(C.bytesC 1).need (C.byteV==6) 9
def iu (C:ag) : ag:=((ir C).wordsC 1).need ((ir C).wordV != 0) 6
def lW (C:ag) : ag:=((iu C).wordsC 1).need (decide ((iu C).wordV≤9999)) 7
def d7 (C:ag) : ag:=((lW C).wordsC 1).need ((lW C).wordV != 0) 5
def aL (C:ag) : cX:=⟨(ir C).wordV,(iu C).wordV,(lW C).wordV,[]⟩
def dF (s:Int)(C:ag) : Int:=s+(2+2*(lW C).wordV)
def dL (s:Int)(C:ag) : ag:=(d7 C).need (decide (dF s C≤245)) 5
def g9 (C:ag) : ag:=(C.bytesC 1).need ((C.byteV%2==1&&decide (3≤C.byteV))&&decide (C.byteV≤((C.bytesC 1).l.length:Int))) 5
def g7 (C:ag) : ag:=((g9 C).bytesC 1).need ((g9 C).byteV==6) 9
def eb (C:ag) : ag:=(g7 C).wordsC (Int.tdiv (C.byteV-1) 2)
def dK (C:ag) : cX:=⟨0,0,0,(g7 C).wordsR (Int.tdiv (C.byteV-1) 2)⟩
def lw (C:ag) : ag:=(d7 C).need (decide (2*(lW C).wordV≤((d7 C).l.length:Int))) 5
def gN (C:ag) : ag:=(lw C).wordsC (lW C).wordV
def gr (C:ag) : cX:=⟨(ir C).wordV,(iu C).wordV,(lW C).wordV,(lw C).wordsR (lW C).wordV⟩
def sM (g:Nat)(C':ag)(r:cX)(w:World)(e:Ending)(w':World) : Prop:=∃ A c,e = .returned (.agg #[.int .u16 r.file,.int .u16 r.record,.int .u16 r.count,.slice A r.words.length c])∧ej (.hi w.heap.size) w' (.slice A r.words.length c) r.words∧dC r.file∧dC r.record∧dC r.count∧ae w' g C'∧aC [g] w w'
theorem lb(hC:ae w g C) : Calls Tryz.prog 214 #[vP g 0] w (sM g (d7 C) (aL C) w):=by
 have hlen:=hC.len
 refine en 34 Tryz.func214 rfl<|sg<|aJ #[vW 0,vW 0,vW 0,nS] fun Z a0 c B b=>aK 2<|?_
 refine aq<|m3 (bD (ae.old hC b)) fun a1 D d a2=>Pl 1<|aq<|m2 (aZ ((C.byteV==6)) 9 D) fun a3 E e=>?_
 refine ab E fun eH F G=>?_
 refine ng<|aJ #[vW 0,vW 0,vW 0,nS] fun a4 a5 f H h=>aK 1<|?_
 refine aq<|m3 (bF (ae.old G h)) fun a6 I i a7=>Pl 1<|?_
 have a:=nb (ae.lt hC) (le (le b.size d.size) e.size) f
 have j:=aS i (Ne.symm a) H
 refine L0<|bE j 0 #[vW eH.wordV,vW 0,vW 0,nS] fun a8 k l=>aK 2<|aF k 0<|Pl 1<|?_
 refine aq<|m2 (aZ ((eH.wordV != 0)) 6 (ae.upd I l (aa a ax) (ah (aR j (by decide)) aE))) fun a9 J K=>?_
 refine ab J fun gR L M=>?_
 refine aK 1<|aq<|m3 (bF M) fun ac N O ad=>Pl 1<|?_
 have m:=u1 K O im
 have n:=aS m (Ne.symm a) k
 refine L0<|bE n 1 #[vW eH.wordV,vW gR.wordV,vW 0,nS] fun af o p=>aK 2<|aF o 1<|Pl 1<|?_
 refine aq<|m2 (aZ ((decide (gR.wordV≤9999))) 7 (ae.upd N p (aa a ax) (ah (aR n (by decide)) aE))) fun ai P Q=>?_
 refine ab P fun x61 R S=>?_
 refine aK 1<|aq<|m3 (bF S) fun aj T U ak=>Pl 1<|?_
 have q:=u1 Q U im
 have r:=aS q (Ne.symm a) o
 refine L0<|bE r 2 #[vW eH.wordV,vW gR.wordV,vW x61.wordV,nS] fun al s t=>aK 2<|aF s 2<|Pl 1<|?_
 refine aq<|m2 (aZ ((x61.wordV != 0)) 5 (ae.upd T t (aa a ax) (ah (aR r (by decide)) aE))) fun am V u=>?_
 refine ab V fun x77 W X=>?_
 refine ng<|?_
 refine L0<|cM (aS u (Ne.symm a) s)<|?_
 have v:=u1 d (u1 e (ud h (ui i (ui l (ui m (ui p (ui q (us t u)))))) f) im) im
 have y:=nb (ae.lt hC) lr c
 have z:=aS v (Ne.symm y) B
 refine aB z #[vW eH.wordV,vW gR.wordV,vW x61.wordV,nS] fun an Y A=>oS<|tU Y<|?_
 subst W R L F
 exact⟨_,_,rfl,aG.nil ..,c6 (x:=((C.bytesC 1).need (C.byteV==6) 9).wordV) (by omega),c6 (x:=((((C.bytesC 1).need (C.byteV==6) 9).wordsC 1).need (((C.bytesC 1).need (C.byteV==6) 9).wordV != 0) 6).wordV) (by omega),c6 (x:=((((((C.bytesC 1).need (C.byteV==6) 9).wordsC 1).need (((C.bytesC 1).need (C.byteV==6) 9).wordV != 0) 6).wordsC 1).need (decide (((((C.bytesC 1).need (C.byteV==6) 9).wordsC 1).need (((C.bytesC 1).need (C.byteV==6) 9).wordV != 0) 6).wordV≤9999)) 7).wordV) (by omega),(ae.upd X A (aa y ax) (ah (aR z (by decide)) aE)),(ue b (us v A) c)⟩
theorem pi(hC:ae w g C) : Calls Tryz.prog 217 #[vP g 0] w (sM g (eb C) (dK C) w):=by
 have hlen:=hC.len
 refine en 33 Tryz.func217 rfl<|sg<|aJ #[vW 0,vW 0,vW 0,nS] fun Q R k m a=>aK 1<|?_
 refine aq<|m3 (bD (ae.old hC a)) fun S b c T=>bt C.byteV<|Pl 1<|aK 2<|L0<|Oe (vI (Int.tmod C.byteV 2)) (vI (C.byteV%2)) (congrArg (Value.int .i64) (Int.tmod_eq_emod_of_nonneg (by omega)))<|Pl 2<|dc 3 [11] 14 11 ((C.byteV%2)==1) (decide (3≤C.byteV)) (fun K t u=>?_) ?_
 have U:=ap u
 exact Pl 3<|ce t _ rfl
 refine Pl 1<|dc 5 [15] 20 15 (((C.byteV%2)==1)&&(decide (3≤C.byteV))) (decide (C.byteV≤(((C.bytesC 1).l.length:Nat) : Int))) (fun K v o=>?_) ?_
 have y:=(aW o).1
 have z:=(aW o).2
 have V:=ap y
 have W:=of_decide_eq_true z
 refine Pl 2<|L1<|Oc<|mq (dm b)<|?_
 have X:=ae.len b
 exact Pl 2<|ce v _ rfl
 refine aq<|m2 (aZ (((((C.byteV%2)==1)&&(decide (3≤C.byteV)))&&(decide (C.byteV≤(((C.bytesC 1).l.length:Nat) : Int))))) 5 b) fun Y A d=>?_
 refine ab A fun x28 B D=>?_
 refine aK 2<|aq<|m3 (bD D) fun Z E f a0=>Pl 1<|aq<|m2 (aZ ((x28.byteV==6)) 9 E) fun a1 F i=>?_
 refine ab F fun x38 G H=>?_
 refine aK 2<|bt (C.byteV-1)<|L0<|Oe (vI (IntKind.i64.wrap (Int.tdiv (C.byteV-1) 2))) (vI (Int.tdiv (C.byteV-1) 2)) (congrArg (Value.int .i64) (ja (by omega) (by omega)))<|aq<|iG (dn (n:=(Int.tdiv (C.byteV-1) 2)) H) fun I J a2 p a3 a4 L M=>?_
 refine ab L fun x48 N O=>?_
 refine Pl 1<|?_
 have q:=u1 c (u1 d (u1 f (u1 i M im) im) im) im
 have r:=nb (ae.lt hC) lr k
 have s:=aS q (Ne.symm r) m
 refine aB s #[vW 0,vW 0,vW 0,.slice I ((x38.wordsR (Int.tdiv (C.byteV-1) 2)).length) J] fun a5 P j=>oS<|tU P<|?_
 subst N G B
 exact⟨_,_,rfl,(aT.hi (av p j (fun x hx=>(aa (fun e=>(aD (ai m) (le (le (le c.size d.size) f.size) i.size) p) (e▸hx)) ax)) (fun _ _ h=>h)) (le (le (le (le a.size c.size) d.size) f.size) i.size)),c6 (x:=0) (by omega),c6 (x:=0) (by omega),c6 (x:=0) (by omega),(ae.upd O j (aa r ax) (ah (aR s (by decide)) aE)),(ue a (us q j) k)⟩
theorem rz(hC:ae w g C) : Calls Tryz.prog 219 #[vP g 0] w (sM g (gN C) (gr C) w):=by
 have hlen:=hC.len
 refine en 22 Tryz.func219 rfl<|sg<|aJ #[vW 0,vW 0,vW 0,nS] fun X Y y j f=>aK 1<|?_
 refine aq<|tf (lb (ae.old hC f)) fun I J Z a0 K L M N c=>?_
 obtain⟨a1,a2⟩:=K
 obtain⟨a3,a4⟩:=L
 obtain⟨a5,a6⟩:=M
 refine aJ #[vW 0,vW 0,vW 0,nS] fun O a7 k z m=>aB z #[vW ((aL C).file),vW ((aL C).record),vW ((aL C).count),.slice I ((aL C).words.length) J] fun a8 P i=>nt<|sq<|Rg 9 (fun w'=>w'.cell? ⟨O,2,none⟩=some (vW ((aL C).count))) fun a9 d=>?_
 have o:=ub d P
 refine bz (ak o rfl) fun a=>Rt 0 a<|Rt 1 a<|Rl 2 a (fun _ hs=>hs)<|Rr 3 a (vI ((aL C).count)) (fun _ _=>bv (vI (IntKind.i64.wrap ((aL C).count))) (by kernel_rfl) (congrArg (Value.int .i64) (i64_in (by omega))))<|Rr 4 a (vI (2*((aL C).count))) (fun _ _=>bv (vI (IntKind.i64.wrap (2*((aL C).count)))) (by kernel_rfl) (congrArg (Value.int .i64) (IntWalk.i64_in _ (by omega))))<|Rt 5 a<|?_
 have p:=ud m (aQ i d) k
 have q:=ae.old N p
 refine R0 6 rfl<|Oc<|mq (dm q)<|?_
 have ac:=ae.len q
 refine bz (ak o rfl) fun Q=>Rt 7 Q<|R0 8 rfl<|Oc<|m2 (aZ ((decide ((2*((aL C).count))≤(((d7 C).l.length:Nat) : Int)))) 5 q) fun ad R b=>?_
 refine ab R fun x54 S T=>?_
 have r:=nb (ae.lt hC) (le f.size c.size) k
 have s:=aS b (Ne.symm r) o
 refine bz (ak s rfl) fun af=>re<|tn<|al 2<|aF s 2<|bt ((aL C).count)<|aq<|iG (dn (n:=(aL C).count) T) fun A B aj t am an U u=>Pl 1<|?_
 have D:=aS u (Ne.symm r) s
 refine L0<|bE D 3 #[vW ((aL C).file),vW ((aL C).record),vW ((aL C).count),.slice A ((x54.wordsR ((aL C).count)).length) B] fun ao V E=>ng<|L0<|cM V<|?_
 have F:=u1 c (ue p (ui b (us u E)) k) im
 have v:=nb (ae.lt hC) lr y
 refine aB (aS F (Ne.symm v) j) #[vW ((aL C).file),vW ((aL C).record),vW ((aL C).count),.slice A ((x54.wordsR ((aL C).count)).length) B] fun ap W G=>oS<|tU W<|?_
 subst S
 have H:=us E G
 exact⟨_,_,rfl,(aT.hi (av t H (fun x hx=>(aa (fun e=>(aD (ai z) (le (le i.size d.size) b.size) t) (e▸hx)) (aa (fun e=>(aD (ai j) (le (le (le (le c.size m.size) i.size) d.size) b.size) t) (e▸hx)) ax))) (fun _ _ h=>h)) (le (le (le (le (le f.size c.size) m.size) i.size) d.size) b.size)),c6 (x:=(aL C).file) (by omega),c6 (x:=(aL C).record) (by omega),c6 (x:=(aL C).count) (by omega),(ae.upd U H (aa r (aa v ax)) (ah (aR D (by decide)) (ah (aR (aS (u1 c (uz p (u1 b u im)) im) (Ne.symm v) j) (by decide)) aE))),(ue f (us F G) y)⟩
theorem mJ(hn:0≤n∧n<256) : Calls Tryz.prog 215 #[vI n] w (cg (.bool ((decide (7≤n)&&decide (n≤245))&&n%7==0)) w):=by
 refine en 14 Tryz.func215 rfl<|al 1<|aK 3<|dc 3 [5] 8 5 (decide (7≤n)) (decide (n≤245)) (fun K b c=>?_) ?_
 have g:=of_decide_eq_true c
 exact Pl 3<|ce b _ rfl
 refine Pl 1<|dc 4 [9] 13 9 ((decide (7≤n))&&(decide (n≤245))) ((n%7)==0) (fun K d a=>?_) ?_
 have e:=(aW a).1
 have f:=(aW a).2
 have h:=of_decide_eq_true e
 have i:=of_decide_eq_true f
 exact Pl 1<|L1<|Oe (vI (Int.tmod n 7)) (vI (n%7)) (congrArg (Value.int .i64) (Int.tmod_eq_emod_of_nonneg (by omega)))<|Pl 2<|ce d _ rfl
 exact am 1<|rt<|rr (.bool (((decide (7≤n))&&(decide (n≤245)))&&((n%7)==0)))<|⟨rfl,(aC.refl [] _)⟩
theorem nq(hn:0≤n∧n<256) : Calls Tryz.prog 216 #[vI n] w (cg (.bool (decide (4≤n)&&decide (n≤245))) w):=by
 refine en 9 Tryz.func216 rfl<|al 1<|aK 3<|dc 3 [5] 8 5 (decide (4≤n)) (decide (n≤245)) (fun K a b=>?_) ?_
 have c:=of_decide_eq_true b
 exact Pl 3<|ce a _ rfl
 exact am 1<|rt<|rr (.bool ((decide (4≤n))&&(decide (n≤245))))<|⟨rfl,(aC.refl [] _)⟩
theorem nn(hn:0≤n∧n<256) : Calls Tryz.prog 218 #[vI n] w (cg (.bool (decide (9≤n)&&decide (n≤251))) w):=by
 refine en 9 Tryz.func218 rfl<|al 1<|aK 3<|dc 3 [5] 8 5 (decide (9≤n)) (decide (n≤251)) (fun K a b=>?_) ?_
 have c:=of_decide_eq_true b
 exact Pl 3<|ce a _ rfl
 exact am 1<|rt<|rr (.bool ((decide (9≤n))&&(decide (n≤251))))<|⟨rfl,(aC.refl [] _)⟩
theorem gk{e:Int}  : Calls Tryz.prog 158 #[vI e] w (cg (vI (if e==2 then 5 else e)) w):=by
 refine en 6 Tryz.func158 rfl<|az 1<|sq<|az 2<|cb ((e==2)) (fun a=>?_) (fun a=>?_)
 have b:=ap a
 refine az 1<|bq<|rr (vI 5)<|?_
 have hs:(if e==2 then (5:Int) else e)=5:=by simp only[a,bp,reduceIte]
 rw[hs]
 exact⟨rfl,(aC.refl [] _)⟩
 have b:=au a
 refine bu<|az 2<|rt<|rr (vI e)<|?_
 have hs:(if e==2 then (5:Int) else e)=e:=by simp only[a,bp,reduceIte]
 rw[hs]
 exact⟨rfl,(aC.refl [] _)⟩
open Go.RowKit
structure WF (F:Fence) (n:Nat) (P:Program) (ops:Array Oper) (Q:Exit→Act→World→Prop) (l:List Oper) (a:Act) (w:World) : Prop where
  out:wpListIn F n P ops Q l a w
def dM (F:Fence) : Prop:=F=Fence.wide∨∃ l,F=Fence.wide.inRound l
theorem iX:dM Fence.wide:=.inl rfl
theorem i9(l:Nat) : dM (Fence.wide.inRound l):=.inr ⟨l,rfl⟩
theorem dM.fn{F:Fence}(h:dM F)(f:FuncId) : F.fn f:=by
  rcases h with rfl|⟨l,rfl⟩<;>trivial
theorem dM.depth{F:Fence}(h:dM F) : F.depth=none:=by
  rcases h with rfl|⟨l,rfl⟩<;>rfl
section
variable {F:Fence}{n:Nat}{P:Program}{Q:Exit→Act→World→Prop}{a:Act}{w:World}{K:Act→World→Prop}{ops:Array Oper}{rest:List Oper}{o:Oper}{N:Option Tmp}
theorem t1{f:FuncId}{args:Array Value}{R:Ending→World→Prop}(hF:dM F)(h:Calls P f args w R) : CallsIn F n P f args w R:=by
  rcases hF with rfl|⟨l,rfl⟩
  · exact callsIn_wide.2 h
  · exact CallsIn.inRound l (callsIn_wide.2 h)
theorem uE{row:String}{args:Array Value}{R:Value→World→Prop}(hF:dM F)(h:Rows P row args w R) : RowsIn F n P row args w R:=by
  have h0:RowsIn Fence.wide n P row args w R:=fun c cs _=>let ⟨v,w',r,s⟩:=h c cs; ⟨v,w',r,stepsIn_wide.2 s⟩
  rcases hF with rfl|⟨l,rfl⟩
  · exact h0
  · exact h0
def eO:Op→Bool
  | .defer _=>false
  | _=>true
theorem vY(hF:dM F)(hd:eO o.op=true)(h:o.wp P a w K Q) : o.wpIn F n P a w K Q:=by
  refine⟨fun f _=>hF.fn f,?_⟩
  rw[Oper.semAt_eq _ _ _ (fun c hc=>by rw[hc] at hd;cases hd)]
  unfold Oper.wp at h
  have hdep:∀ {p:Prop},F.depth.isSome=true→p:=fun h=>by rw[hF.depth] at h;cases h
  generalize (execOp a.eval o).run P w=r at h ⊢
  cases r with
  | ok x w' =>
    cases x<;>simp only[Oper.upon,Oper.uponIn] at h ⊢
    case value u=>exact h
    case skip=>exact h
    case defer d=>exact h
    case enter f args=>exact⟨hdep,t1 hF h⟩
    case row row args=>exact⟨hdep,uE hF h⟩
  | halt x w' =>
    cases x<;>simp only[Oper.upon,Oper.uponIn] at h ⊢
    case panic u=>exact h
theorem w9{id:Nat}{l:List Oper}(n:Nat)(h:WF Fence.wide n P l.toArray Q l a w) : (Code.region id l.toArray false).wp P Q a w:=wpIn_wide.1 (wpIn_region_lit h.out)
theorem vv{id:Nat}{l:List Oper}(h:WF F n P l.toArray Q l a w) : (Code.region id l.toArray false).wpIn F n P Q a w:=wpIn_region_lit h.out
theorem vz(h:Q .normal a w) : WF F n P ops Q [] a w:=⟨h⟩
theorem vV(hF:dM F)(hd:eO o.op=true)(hw:Region.wanted o (yielded ops a.tmps)=true)(h:OW P o a w (WF F n P ops Q rest) Q) : WF F n P ops Q (o :: rest) a w:=by
  refine⟨?_⟩
  unfold wpListIn
  rw[if_pos hw]
  exact vY hF hd (gI h fun _ _ h=>h.out)
theorem vq(hF:dM F)(hw:Region.wanted o (yielded ops a.tmps)=false)(hN:o.dst=N)(h:WF F n P ops Q rest (a.put N undef) w) : WF F n P ops Q (o :: rest) a w:=by
  subst hN
  refine⟨?_⟩
  unfold wpListIn
  rw[if_neg (by simp[hw])]
  exact⟨fun f _=>hF.fn f,h.out⟩
theorem sW{x:Operand}{opds:Array Operand}{ts:Array TypeId}{l:Nat}{r:Loop}(args:Array Value)(hw:Region.wanted o (yielded ops a.tmps)=true)(hN:o.dst=N)(hop:o.op = .call { callee:=.value x,args:=opds,argTypes:=ts })
    (hx:a.eval x = .func (.yield l) #[] #[]) (hargs:opds.map a.eval=args) (hl:w.heap[l]? = some (.loop r)) (hs:args.size=r.params.size)
    (h:RoundIn Fence.wide (n-1) P l r.fn ((r.params.zip args).foldl (fun tmps (t,a)=>tmps.setIfInBounds t a) r.tmps) r.assign r.body w (fun e w'=>∃ v,e = .returned v∧WF Fence.wide n P ops Q rest (a.put N v) w')) : WF Fence.wide n P ops Q (o :: rest) a w:=by
  subst hN
  refine⟨?_⟩
  unfold wpListIn
  rw[if_pos hw]
  refine⟨fun f _=>trivial,?_⟩
  have hrun:(o.semAt Fence.wide.round a.eval).run P w = .ok (.round l r.fn ((r.params.zip args).foldl (fun tmps (t,a)=>tmps.setIfInBounds t a) r.tmps) r.assign r.body) w:=by
    show(execOp a.eval o).run P w=_
    unfold execOp
    simp only[hop,resolve,hx,Deferred.ofValue,Sem.run_bind,Sem.run_pure,Result.andThen_ok,invoke,hargs]
    have:=run_yield (P:=P) (args:=args) hl hs
    simpa using this
  rw[hrun,Oper.uponIn_round]
  refine⟨(by simp[Fence.wide]),h.mono fun e w' hh=>?_⟩
  obtain⟨v,rfl,h2⟩:=hh
  exact h2.out
end
theorem sr{P:Program}{n:Nat}{ops:Array Oper}{Q:Exit→Act→World→Prop}{rest:List Oper}{o:Oper}{a:Act}{w:World}{N:Option Tmp}{x:Operand}{opds:Array Operand}{ts:Array TypeId}{l:Nat}{r:Loop}(v:Value)(p:Tmp)(hw:Region.wanted o (yielded ops a.tmps)=true)(hN:o.dst=N)(hop:o.op = .call { callee:=.value x,args:=opds,argTypes:=ts })
    (hx:a.eval x = .func (.yield l) #[] #[]) (hargs:opds.map a.eval = #[v]) (hl:w.heap[l]? = some (.loop r)) (hp:r.params = #[p])
    (h:RoundIn Fence.wide (n-1) P l r.fn (r.tmps.setIfInBounds p v) r.assign r.body w (fun e w'=>∃ u,e = .returned u∧WF Fence.wide n P ops Q rest (a.put N u) w')) : WF Fence.wide n P ops Q (o :: rest) a w:=by
  refine sW #[v] hw hN hop hx hargs hl (by rw[hp];rfl) ?_
  have:((r.params.zip #[v]).foldl (fun tmps (t,a)=>tmps.setIfInBounds t a) r.tmps)=r.tmps.setIfInBounds p v:=by rw[hp];simp
  rw[this]
  exact h
theorem eX{w:World}{l:Nat}(o:Go.Obj) : aC [l] w (w.putObj l o) :=
  ⟨rfl,rfl,rfl,by simp[World.putObj],fun k hk hn=>World.putObj_heap_other (by simpa using hn)⟩
theorem iK{w:World}{l:Nat}{o:Go.Obj}(o':Go.Obj)(h:w.heap[l]? = some o) : (w.putObj l o').heap[l]? = some o':=World.putObj_heap_same (ai h)
def gA:Go.Obj→Bool
  | .cells ..=>false
  | _=>true
theorem aG.updl{α:Type}{m:Md}{e:TypeId}{sz:Nat}{R:World→α→List Value→Prop}{w w':World}{v:Value}{xs:List α}{l:Nat}{o:Go.Obj}
    (h:aG m e sz R w v xs) (hu:aC [l] w w') (hl:w.heap[l]? = some o) (ho:gA o=true) (hR:∀ x cs,R w x cs→R w' x cs) : aG m e sz R w' v xs:=by
  obtain⟨A,c,rfl,h1,h2,h0,h3⟩:=h
  refine⟨A,c,rfl,h1,h2,h0,fun hp=>?_⟩
  obtain⟨b,off,cells,t,fr,rfl,hb,ht,hx⟩:=h3 hp
  refine⟨b,off,cells,t,fr,rfl,?_,ht,fun j x hj=>?_⟩
  · refine hu.blk (fun hbs=>?_) hb
    simp at hbs
    subst hbs
    rw[hl] at hb
    injection hb with hb
    subst hb
    cases ho
  · obtain⟨cs,hl,hr,hc⟩:=hx j x hj
    exact⟨cs,hl,hR _ _ hr,hc⟩
theorem aV.updl{m:Md}{w w':World}{v:Value}{xs:List Int}{l:Nat}{o:Go.Obj}(h:aV m w v xs)(hu:aC [l] w w')(hl:w.heap[l]? = some o)(ho:gA o=true) : aV m w' v xs:=aG.updl h hu hl ho fun _ _ h=>h
theorem ej.updl{m:Md}{w w':World}{v:Value}{xs:List Int}{l:Nat}{o:Go.Obj}(h:ej m w v xs)(hu:aC [l] w w')(hl:w.heap[l]? = some o)(ho:gA o=true) : ej m w' v xs:=aG.updl h hu hl ho fun _ _ h=>h
theorem bo.updl{m:Md}{w w':World}{l:Nat}{o:Go.Obj}(hu:aC [l] w w')(hl:w.heap[l]? = some o)(ho:gA o=true)(r:cX)(cs:List Value)(h:bo m w r cs) : bo m w' r cs:=by
  obtain⟨v,h1,h2,h3⟩:=h
  exact⟨v,h1,ej.updl h2 hu hl ho,h3⟩
theorem ae.updl{w w':World}{g:Nat}{c:ag}{l:Nat}{o:Go.Obj}(h:ae w g c)(hu:aC [l] w w')(hg:g∉[l])(hl:w.heap[l]? = some o)(ho:gA o=true) : ae w' g c:=by
  obtain⟨v,hb,hr,hn⟩:=h
  exact⟨v,hu.blk hg hb,hr.updl hu hl ho,hn⟩
theorem qY{n:Nat}{P:Program}{l:Nat}{f:FuncId}{tmps:Array Value}{assign body:Code}{w:World}{r:Loop}{R:Ending→World→Prop}
    (h:assign.wpIn (Fence.wide.inRound l) n P (Exit.then (fun a₁ w₁=>w₁.heap[l]? = some (.loop r)∧r.state = .ready∧∀ w₂,w₂.heap[l]? = some (.loop { r with state:=.busy })→aC [l] w₁ w₂ →
      body.wpIn (Fence.wide.inRound l) n P (Exit.then (fun _ w₃=>∃ r',w₃.heap[l]? = some (.loop r')∧∀ w₄,w₄.heap[l]? = some (.loop { r' with state:=.ready,pending:=none })→aC [l] w₃ w₄→R (.returned (.bool true)) w₄) (fun _ _ _=>False)) a₁ w₂) (fun _ _ _=>False)) { tmps:=tmps,defers:=[] } w) :
    RoundIn Fence.wide n P l f tmps assign body w R:=by
  refine roundIn_of_wpIn trivial (Code.wpIn_mono (fun e a w q=>?_) h)
  cases e with
  | normal =>
    obtain⟨h1,h2,h3⟩:=q
    refine⟨_,run_beginRound h1 h2,Code.wpIn_mono (fun e a w q=>?_) (h3 _ (iK _ h1) (eX _))⟩
    cases e with
    | normal =>
      obtain⟨r',h4,h5⟩:=q
      exact⟨_,_,run_endRound none h4,h5 _ (iK _ h4) (eX _)⟩
    | _=>exact q.elim
  | _=>exact q.elim
theorem iU{n:Nat}{P:Program}{l:Nat}{f:FuncId}{tmps:Array Value}{assign body:Code}{w:World}{r:Loop}{R:Ending→World→Prop}
    (hl:w.heap[l]? = some (.loop r))
    (h:assign.wpIn (Fence.wide.inRound l) n P (Exit.then (fun a₁ w₁=>w₁.heap[l]? = some (.loop r)∧r.state = .ready∧∀ w₂,w₂.heap[l]? = some (.loop { r with state:=.busy })→aC [l] w₁ w₂ →
      body.wpIn (Fence.wide.inRound l) n P (Exit.then (fun _ w₃=>∃ r',w₃.heap[l]? = some (.loop r')∧∀ w₄,w₄.heap[l]? = some (.loop { r' with state:=.ready,pending:=none })→aC [l] w₃ w₄→R (.returned (.bool true)) w₄) (fun _ _ _=>False)) a₁ w₂) (fun _ _ _=>False)) { tmps:=tmps,defers:=[] } w) :
    RoundIn Fence.wide n P l f tmps assign body w R:=qY h
theorem pQ{P:Program}{Q:Exit→Act→World→Prop}{a:Act}{w:World}{g:Operand}{ps:Array Tmp}{assign body:Code}{f:FuncId}{fn:Func}(cap:Array Value)
    (hx : a.eval g = .func (.func f) #[] cap) (hf : P.funcs[f]? = some fn) (hname : (fn.name == "runtime.NumGoroutine") = false) (hb : fn.body.isSome = true)
    (h:∀ fn0 D l w₂,w.heap.size≤D→w.heap.size≤l→D≠l→w₂.heap[D]? = some (.deferred (some []))→w₂.heap[l]? = some (.loop { state:=.ready,pending:=none,fn:=fn0,tmps:=a.tmps,params:=ps,assign:=assign,body:=body,defers:=D })→aC [] w w₂ →
      Calls P f (#[.func (.yield l) #[] #[]]++cap) w₂ (fun e w₃=>∃ v r',e = .returned v∧w₃.heap[l]? = some (.loop r')∧r'.state≠.busy∧r'.pending=none∧∀ w₄,aC [l] w₃ w₄→Q .normal { a with defers:={ target:=.collected D,args:=#[] } :: a.defers } w₄)) :
    (Code.rangeFunc g ps assign body).wp P Q a w:=by
  refine(wpIn_wide (n:=9)).1 (wpIn_rangeFunc fun fn0 _=>?_)
  have h1 : fn.name ≠ "runtime.NumGoroutine" := by simpa using hname
  obtain⟨cd,hcd⟩:=Option.isSome_iff_exists.1 hb
  refine⟨w.heap.size+1,[{ target:=.collected w.heap.size,args:=#[] }],((w.alloc (.deferred (some []))).alloc (.loop { state:=.ready,pending:=none,fn:=fn0,tmps:=a.tmps,params:=ps,assign:=assign,body:=body,defers:=w.heap.size })),
    { target:=.fn (.func f) cap,args:=#[]++#[.func (.yield (w.heap.size+1)) #[] #[]] },((w.alloc (.deferred (some []))).alloc (.loop { state:=.ready,pending:=none,fn:=fn0,tmps:=a.tmps,params:=ps,assign:=assign,body:=body,defers:=w.heap.size })),
    f,#[.func (.yield (w.heap.size+1)) #[] #[]]++cap,((w.alloc (.deferred (some []))).alloc (.loop { state:=.ready,pending:=none,fn:=fn0,tmps:=a.tmps,params:=ps,assign:=assign,body:=body,defers:=w.heap.size })),run_enterLoop_outer fn0 a.tmps ps assign body,?_,fun _ _=>trivial,?_,by simp[Fence.wide],?_⟩
  · unfold resolve
    simp only[rangeCall,hx,Deferred.ofValue,Sem.run_pure,List.map_toArray,List.map_cons,List.map_nil]
    rfl
  · simp[invoke,callFunc,hf,h1,hcd]
  · have hD:((w.alloc (.deferred (some []))).alloc (.loop { state:=.ready,pending:=none,fn:=fn0,tmps:=a.tmps,params:=ps,assign:=assign,body:=body,defers:=w.heap.size })).heap[w.heap.size]? = some (.deferred (some [])):=rC (dV w _) _
    have hl:((w.alloc (.deferred (some []))).alloc (.loop { state:=.ready,pending:=none,fn:=fn0,tmps:=a.tmps,params:=ps,assign:=assign,body:=body,defers:=w.heap.size })).heap[w.heap.size+1]? = some (.loop { state:=.ready,pending:=none,fn:=fn0,tmps:=a.tmps,params:=ps,assign:=assign,body:=body,defers:=w.heap.size }):=by
      have:=dV (w.alloc (.deferred (some []))) (.loop { state:=.ready,pending:=none,fn:=fn0,tmps:=a.tmps,params:=ps,assign:=assign,body:=body,defers:=w.heap.size })
      simpa using this
    refine callsIn_wide.2 ((h fn0 w.heap.size (w.heap.size+1) _ (Nat.le_refl _) (by omega) (by omega) hD hl (((aC.refl [] w).alloc _).alloc _)).mono ?_)
    rintro e w₃ ⟨v,r',rfl,h3,h4,h5,h6⟩
    refine⟨_,_,run_endLoop h3 h4,?_⟩
    rw[h5]
    exact h6 _ (eX _)
theorem lU{P:Program}{f:FuncId}{fn:Func}{c:Code}{args:Array Value}{w:World}{R:Ending→World→Prop}(hf:P.funcs[f]? = some fn)(hb:fn.body=some c)
    (h:c.wp P (bodyPostM Fence.wide 9 P fn R) { tmps:=args++Array.replicate (fn.ntmps-args.size) undef,defers:=[] } w) : Calls P f args w R :=
  callsIn_wide.1 (callsIn_of_wp_marks hf hb trivial (wpIn_wide.2 h) rfl)
theorem t6{P:Program}{fn:Func}{R:Ending→World→Prop}{a:Act}{w:World}{D:Nat}(hd:a.defers=[{ target:=.collected D,args:=#[] }])(hD:w.heap[D]? = some (.deferred (some [])))
    (h:∀ w',aC [D] w w'→∃ v,(results fn a.tmps).run P w' = .ok v w'∧R (.returned v) w') : bodyPostM Fence.wide 9 P fn R .ret a w:=by
  show LeavesInM Fence.wide 9 P fn a.tmps R a.defers .returning w
  rw[hd]
  exact⟨by simp,.inl ⟨D,_,rfl,run_takeDeferred hD,h _ (eX _)⟩⟩
theorem so{P:Program}{fn:Func}{R:Ending→World→Prop}{a:Act}{w:World}(hd:a.defers=[])(h:∃ v,(results fn a.tmps).run P w = .ok v w∧R (.returned v) w) : bodyPostM Fence.wide 9 P fn R .ret a w:=by
  show LeavesInM Fence.wide 9 P fn a.tmps R a.defers .returning w
  rw[hd]
  exact h
open Go.RowKit
structure GF (E:Fence) (m:Nat) (P:Program) (ops:Array Oper) (Q:Exit→Act→World→Prop) (l:List Oper) (n:Nat) (D:List Deferred) (F:Fr) (w:World) : Prop where
  out:∀ a,Ag n D F a→WF E m P ops Q l a w
structure GI (E:Fence) (m:Nat) (P:Program) (c:Code) (Q:Exit→Act→World→Prop) (n:Nat) (D:List Deferred) (F:Fr) (w:World) : Prop where
  out:∀ a,Ag n D F a→c.wpIn E m P Q a w
section
variable {E:Fence}{m:Nat}{P:Program}{Q:Exit→Act→World→Prop}{n:Nat}{D:List Deferred}{F:Fr}{w:World}{ops:Array Oper}{rest l:List Oper}{d:Option Tmp}{op:Op}{t:TypeId}{s:String}{af:Array Edge}{gu:Option (Nat × Bool)}{x y c:Code}{id:Nat}
theorem v5(m:Nat)(h:GF Fence.wide m P l.toArray Q l n D F w) : GC P (.region id l.toArray false) Q n D F w:=⟨fun a ha=>w9 m (h.out a ha)⟩
theorem tN(h:GF E m P l.toArray Q l n D F w) : GI E m P (.region id l.toArray false) Q n D F w:=⟨fun a ha=>vv (h.out a ha)⟩
theorem vF(h:GI E m P c (Exit.inBlock id Q) n D F w) : GI E m P (.block id c) Q n D F w:=⟨fun a ha=>wpIn_block (h.out a ha)⟩
theorem pu(h:GQ Q .normal n D F w) : GF E m P ops Q [] n D F w:=⟨fun a ha=>vz (h.out a ha)⟩
theorem vU(hE:dM E)(h:OG P ⟨d,op,t,s,af,gu⟩ n D F w (GF E m P ops Q rest n D) Q)(hw:jo ops F gu=(true,true))(hd:eO op=true) : GF E m P ops Q (⟨d,op,t,s,af,gu⟩ :: rest) n D F w :=
  ⟨fun a ha=>vV hE hd (eM ha hw) (h.out a ha _ fun F' w' a' k ha'=>k.out a' ha')⟩
theorem vG(hE:dM E){o:Oper}(h:GF E m P ops Q rest n D (nC P ops w F o) w)(hc:mI P ops w n 1 (o :: rest) F=mB P ops w 1 (o :: rest) F)(hd:eO o.op=true) : GF E m P ops Q (o :: rest) n D F w:=by
  simp only[mI,mB,List.cons.injEq,Prod.mk.injEq,Bool.and_eq_true] at hc
  obtain⟨⟨⟨h1,h2,h3⟩,h4⟩,h5⟩:=hc
  refine⟨fun a ha=>?_⟩
  cases hon:(jo ops F o.guard).2 with
  | true =>
    rw[hon] at h3 h4
    simp only[cond_true] at h3 h4
    have hst:nC P ops w F o=pt o.dst (vo P w F o) F:=by simp[nC,hon]
    rw[hst] at h
    exact vV hE hd (eM ha (Prod.ext h1 hon)) (fH (N:=o.dst) (vo P w F o) rfl (by rw[← fJ ha h3];exact h4) (h.out _ (ha.put h2)))
  | false =>
    have hst:nC P ops w F o=pt o.dst undef F:=by simp[nC,hon]
    rw[hst] at h
    exact vq (N:=o.dst) hE (eM ha (Prod.ext h1 hon)) rfl (h.out _ (ha.put h2))
theorem F0(h:OG P ⟨d,op,t,s,af,gu⟩ n D F w (GF Fence.wide m P ops Q rest n D) Q)(hw:jo ops F gu=(true,true):=by kernel_rfl)(hd:eO op=true:=by kernel_rfl) : GF Fence.wide m P ops Q (⟨d,op,t,s,af,gu⟩ :: rest) n D F w:=vU iX h hw hd
theorem jN{q:Nat}(h:OG P ⟨d,op,t,s,af,gu⟩ n D F w (GF (Fence.wide.inRound q) m P ops Q rest n D) Q)(hw:jo ops F gu=(true,true):=by kernel_rfl)(hd:eO op=true:=by kernel_rfl) : GF (Fence.wide.inRound q) m P ops Q (⟨d,op,t,s,af,gu⟩ :: rest) n D F w:=vU (i9 _) h hw hd
theorem Fp{o:Oper}(h:GF Fence.wide m P ops Q rest n D (nC P ops w F o) w)(hc:mI P ops w n 1 (o :: rest) F=mB P ops w 1 (o :: rest) F:=by kernel_rfl)(hd:eO o.op=true:=by kernel_rfl) : GF Fence.wide m P ops Q (o :: rest) n D F w:=vG iX h hc hd
theorem tP{q:Nat}{o:Oper}(h:GF (Fence.wide.inRound q) m P ops Q rest n D (nC P ops w F o) w)(hc:mI P ops w n 1 (o :: rest) F=mB P ops w 1 (o :: rest) F:=by kernel_rfl)(hd:eO o.op=true:=by kernel_rfl) : GF (Fence.wide.inRound q) m P ops Q (o :: rest) n D F w:=vG (i9 _) h hc hd
theorem v9(j:Nat)(e:Bool)(ht:e=true→GF E m P ops Q l n D ((j,.bool true) :: F) w)(hf:e=false→GF E m P ops Q l n D ((j,.bool false) :: F) w)(hv:lk F j=some (.bool e):=by kernel_rfl) : GF E m P ops Q l n D F w:=by
  refine⟨fun a ha=>?_⟩
  have key:∀ b,e=b→Ag n D ((j,.bool b) :: F) a:=fun b hb=>⟨ha.sz,ha.df,fun i v hi=>by
    rcases fg hi with⟨rfl,rfl⟩|⟨_,h2⟩
    · rw[← hb];exact ha.at_ _ _ hv
    · exact ha.at_ _ _ h2⟩
  rcases fP e with q|q
  · exact(ht q).out a (key _ q)
  · exact(hf q).out a (key _ q)
theorem Fy{x:Operand}{opds:Array Operand}{ts:Array TypeId}{q:Nat}{r:Loop}(v:Value)(p:Tmp)(hl:w.heap[q]? = some (.loop r))(hp:r.params = #[p])
    (h:RoundIn Fence.wide (m-1) P q r.fn (r.tmps.setIfInBounds p v) r.assign r.body w (fun e w'=>∃ u,e = .returned u∧GF Fence.wide m P ops Q rest n D (pt d u F) w'))
    (hw:jo ops F gu=(true,true):=by kernel_rfl) (hx:dJ F x=some (.func (.yield q) #[] #[]):=by kernel_rfl) (ha:opds.toList.map (dJ F)=[some v]:=by kernel_rfl) (hd:eG n d=true:=by kernel_rfl) :
    GF Fence.wide m P ops Q (⟨d,.call { callee:=.value x,args:=opds,argTypes:=ts },t,s,af,gu⟩ :: rest) n D F w :=
  ⟨fun a hag=>sr v p (eM hag hw) rfl rfl (hag.ev hx) (by apply Array.toList_inj.1;rw[Array.toList_map];exact kM (vs:=[v]) hag ha) hl hp (h.mono fun e w' hh=>by
    obtain⟨u,rfl,hk⟩:=hh
    exact⟨u,rfl,hk.out _ (hag.put hd)⟩)⟩
theorem mK{g:Operand}{ps:Array Tmp}{assign body:Code}{f:FuncId}(cap:Array Value)
    (h:∀ a,Ag n D F a→∀ fn0 D' q w₂,w.heap.size≤D'→w.heap.size≤q→D'≠q→w₂.heap[D']? = some (.deferred (some []))→w₂.heap[q]? = some (.loop { state:=.ready,pending:=none,fn:=fn0,tmps:=a.tmps,params:=ps,assign:=assign,body:=body,defers:=D' })→aC [] w w₂ →
      Calls P f (#[.func (.yield q) #[] #[]]++cap) w₂ (fun e w₃=>∃ v r',e = .returned v∧w₃.heap[q]? = some (.loop r')∧r'.state≠.busy∧r'.pending=none∧∀ w₄,aC [q] w₃ w₄→GQ Q .normal n ({ target:=.collected D',args:=#[] } :: D) F w₄))
    (hx:dJ F g=some (.func (.func f) #[] cap):=by kernel_rfl) (hf:tW P f=some (false,true):=by kernel_rfl) : GC P (.rangeFunc g ps assign body) Q n D F w:=by
  obtain⟨fn,h1,h2,h3⟩:=jc hf
  refine⟨fun a ha=>pQ cap (ha.ev hx) h1 h2 h3 fun fn0 D' q w₂ g1 g2 g3 g4 g5 g6=>(h a ha fn0 D' q w₂ g1 g2 g3 g4 g5 g6).mono fun e w₃ hh=>?_⟩
  obtain⟨v,r',k1,k2,k3,k4,k5⟩:=hh
  exact⟨v,r',k1,k2,k3,k4,fun w₄ hu=>(k5 w₄ hu).out _ ⟨ha.sz,by rw[ha.df],ha.at_⟩⟩
theorem vk{a:Act}(ha:Ag n D F a)(p:Tmp){v:Value}(h:GI E m P c Q n [] ((p,v) :: F) w)(hp:Nat.blt p n=true:=by kernel_rfl) : c.wpIn E m P Q { tmps:=a.tmps.setIfInBounds p v,defers:=[] } w:=by
  have h0:Ag n [] F { tmps:=a.tmps,defers:=[] }:=⟨ha.sz,rfl,ha.at_⟩
  exact h.out _ (h0.put (d:=some p) hp)
theorem vp{r:Loop}{q:Nat}{c:Code}{Qb:Exit→Act→World→Prop}(h1:w.heap[q]? = some (.loop r))(h2:r.state = .ready)(h:∀ w₂,w₂.heap[q]? = some (.loop { r with state:=.busy })→aC [q] w w₂→GI E m P c Qb n D F w₂) :
    GQ (Exit.then (fun a₁ w₁=>w₁.heap[q]? = some (.loop r)∧r.state = .ready∧∀ w₂,w₂.heap[q]? = some (.loop { r with state:=.busy })→aC [q] w₁ w₂→c.wpIn E m P Qb a₁ w₂) Q) .normal n D F w:=⟨fun a ha=>⟨h1,h2,fun w₂ k1 k2=>(h w₂ k1 k2).out a ha⟩⟩
theorem vC{r:Loop}{q:Nat}{Z:World→Prop}(h1:w.heap[q]? = some (.loop r))(h:∀ w₄,w₄.heap[q]? = some (.loop { r with state:=.ready,pending:=none })→aC [q] w w₄→Z w₄) :
    GQ (Exit.then (fun _ w₃=>∃ r',w₃.heap[q]? = some (.loop r')∧∀ w₄,w₄.heap[q]? = some (.loop { r' with state:=.ready,pending:=none })→aC [q] w₃ w₄→Z w₄) Q) .normal n D F w:=⟨fun a ha=>⟨r,h1,h⟩⟩
end
section
variable {P:Program}{n:Nat}{F:Fr}{w:World}{fn:Func}{R:Ending→World→Prop}
theorem tM{f:FuncId}{c:Code}{args:List Value}{w:World}(n:Nat)(hf:P.funcs[f]? = some fn)(hb:fn.body=some c)
    (h:GC P c (bodyPostM Fence.wide 9 P fn R) n [] (pY 0 args) w) (hn:args.length+(fn.ntmps-args.length)=n:=by kernel_rfl) : Calls P f args.toArray w R:=by
  subst hn
  exact lU hf hb (by simpa using h.out _ (vO (args:=args) (m:=fn.ntmps-args.length)))
theorem tQ{D:Nat}(hD:w.heap[D]? = some (.deferred (some [])))(h:∀ w',aC [D] w w'→GQ (fun _ a w'=>∃ v,(results fn a.tmps).run P w' = .ok v w'∧R (.returned v) w') .ret n [{ target:=.collected D,args:=#[] }] F w') : GQ (bodyPostM Fence.wide 9 P fn R) .ret n [{ target:=.collected D,args:=#[] }] F w :=
  ⟨fun a ha=>t6 ha.df hD fun w' hu=>(h w' hu).out a ha⟩
theorem rx{D:List Deferred}{g:Nat}{cs:Array Value}{t:TypeId}{fr:Nat × Nat}(B:w.heap[g]? = some (.cells cs t fr))(u:Value)(h:R (.returned (.tuple #[.agg cs,u])) w)(hc:tV P fn.results F=some (some (.pointer (some ⟨g,0,none⟩)),some u,some true,some cs.size):=by kernel_rfl) : GQ (fun _ a w'=>∃ v,(results fn a.tmps).run P w' = .ok v w'∧R (.returned v) w') .ret n D F w :=
  ⟨fun a ha=>⟨_,iE ha B rfl hc,h⟩⟩
theorem ry{g:Nat}{cs:Array Value}{t:TypeId}{fr:Nat × Nat}(B:w.heap[g]? = some (.cells cs t fr))(u:Value)(h:R (.returned (.tuple #[.agg cs,u])) w)(hc:tV P fn.results F=some (some (.pointer (some ⟨g,0,none⟩)),some u,some true,some cs.size):=by kernel_rfl) : GQ (bodyPostM Fence.wide 9 P fn R) .ret n [] F w :=
  ⟨fun a ha=>so ha.df ⟨_,iE ha B rfl hc,h⟩⟩
end
open Go.RowKit
def sQ (mk:Nat→Value)(w:World)(e:Ending)(w':World) : Prop:=∃ gs,e = .returned (.tuple #[mk gs,.bool true])∧w.heap.size≤gs∧w'.heap[gs]? = some (.cells #[.int .i64 0] 3 (0,0))∧aC [] w w'
def vA (gs:Nat) : Value:=.agg #[.func (.func 215) #[] #[],.func (.func 213) #[] #[.pointer (some ⟨gs,0,none⟩)]]
def uX (gs:Nat) : Value:=.agg #[.func (.func 216) #[] #[],.func (.func 217) #[] #[]]
def vg (gs:Nat) : Value:=.agg #[.func (.func 218) #[] #[],.func (.func 219) #[] #[]]
theorem rY{w:World}:Calls Tryz.prog 153 #[vI 0,vB 20] w (sQ vA w):=by
 refine en 27 Tryz.func153 rfl<|sg<|aJ #[.nilFunc,.nilFunc] fun m n g b c=>Pl 1<|ng<|aJ #[vI 0] fun d o a h i=>L0<|bE h 0 #[vI 0] fun p j k=>nt<|sq<|go<|am 2<|sq<|bk<|az 7<|c1<|al 2<|?_
 have e:=ud i k a
 refine aB (ub e b) #[.func (.func 215) #[] #[],.func (.func 213) #[] #[vP d 0]] fun q l f=>am 1<|rt<|br<|tr<|c9 l (.bool true)<|?_
 exact⟨d,rfl,(Nat.le_trans c.size a),(aS f (Ne.symm (nb (ai b) lr a)) j),(ud c (uz e f) g)⟩
theorem rW{w:World}:Calls Tryz.prog 153 #[vI 1,vB 20] w (sQ uX w):=by
 refine en 27 Tryz.func153 rfl<|sg<|aJ #[.nilFunc,.nilFunc] fun m n f b c=>Pl 1<|ng<|aJ #[vI 0] fun g o a h i=>L0<|bE h 0 #[vI 0] fun p j k=>nt<|sq<|go<|am 2<|sq<|bk<|az 7<|c0<|az 3<|c1<|al 1<|?_
 have d:=ud i k a
 refine aB (ub d b) #[.func (.func 216) #[] #[],.func (.func 217) #[] #[]] fun q l e=>am 1<|rt<|br<|tr<|c9 l (.bool true)<|?_
 exact⟨g,rfl,(Nat.le_trans c.size a),(aS e (Ne.symm (nb (ai b) lr a)) j),(ud c (uz d e) f)⟩
theorem rA{dir:Int}{w:World}:Calls Tryz.prog 153 #[vI dir,vB 21] w (sQ vg w):=by
 refine en 27 Tryz.func153 rfl<|sg<|aJ #[.nilFunc,.nilFunc] fun m n f b c=>Pl 1<|ng<|aJ #[vI 0] fun g o a h i=>L0<|bE h 0 #[vI 0] fun p j k=>nt<|sq<|go<|am 2<|sq<|bk<|az 7<|c0<|az 3<|c0<|az 3<|c1<|al 1<|?_
 have d:=ud i k a
 refine aB (ub d b) #[.func (.func 218) #[] #[],.func (.func 219) #[] #[]] fun q l e=>am 1<|rt<|br<|tr<|c9 l (.bool true)<|?_
 exact⟨g,rfl,(Nat.le_trans c.size a),(aS e (Ne.symm (nb (ai b) lr a)) j),(ud c (uz d e) f)⟩
theorem lR{dir x:Int}{w:World}(n1:(x==20)=false)(n2:(x==21)=false) : Calls Tryz.prog 153 #[vI dir,vB x] w (cg (.tuple #[.agg #[.nilFunc,.nilFunc],.bool false]) w):=by
 refine en 27 Tryz.func153 rfl<|sg<|aJ #[.nilFunc,.nilFunc] fun k l b c d=>Pl 1<|ng<|aJ #[vI 0] fun m n e f g=>L0<|bE f 0 #[vI 0] fun o p h=>nt<|sq<|go<|am 2<|sq<|bk<|al 3<|sy 12 n1<|am 4<|c0<|az 3<|cf n1<|az 3<|cf n2<|sk<|bn<|tn<|al 1<|?_
 have a:=ud g h e
 refine aB (ub a c) #[.nilFunc,.nilFunc] fun q i j=>am 1<|rt<|c9 i (.bool false)<|?_
 exact⟨rfl,(ud d (uz a j) b)⟩
theorem iV{gb:Nat}{f:Fn}{x y:Array Value}{w:World}:Calls Tryz.prog 157 #[vP gb 0,.func f x y] w (fun e w'=>∃ b1 b2,e = .returned (.func (.func 220) #[] #[vP b1 0,vP b2 0])∧w.heap.size≤b1∧w.heap.size≤b2∧b1≠b2 ∧
      w'.heap[b1]? = some (.cells #[vP gb 0] 164 (0,0))∧w'.heap[b2]? = some (.cells #[.func f x y] 178 (0,0))∧aC [] w w'):=by
 refine en 6 Tryz.func157 rfl<|sg<|L0<|dw #[vP gb 0] fun a k i b c=>L0<|dw #[.func f x y] fun d l g j h=>Pl 1<|cJ 2<|rt<|rr (.func (.func 220) #[] #[vP a 0,vP d 0])<|?_
 exact⟨a,d,rfl,i,(Nat.le_trans c.size g),(nb (ai b) lr g),(ub h b),j,(aQ c h)⟩
theorem oJ{g gs:Nat}{s:Int}{C:ag}{w:World}(hC:ae w g C)(hS:w.heap[gs]? = some (.cells #[vI s] 3 (0,0)))(hne:g≠gs)(hs:0≤s∧s≤1000000000000) :
    Calls Tryz.prog 213 #[vP g 0,vP gs 0] w (fun e w'=>∃ A c,e = .returned (.agg #[vW (aL C).file,vW (aL C).record,vW (aL C).count,.slice A (aL C).words.length c])∧ej (.hi w.heap.size) w' (.slice A (aL C).words.length c) (aL C).words∧dC (aL C).file∧dC (aL C).record∧dC (aL C).count∧ae w' g (dL s C)∧w'.heap[gs]? = some (.cells #[vI (dF s C)] 3 (0,0))∧aC [g,gs] w w'):=by
 refine en 19 Tryz.func213 rfl<|sg<|aJ #[vW 0,vW 0,vW 0,nS] fun T U d j a=>aK 1<|?_
 refine aq<|tf (lb (ae.old hC a)) fun k l V I J K L m f=>?_
 obtain⟨W,X⟩:=J
 obtain⟨Y,Z⟩:=K
 obtain⟨a0,a1⟩:=L
 refine aJ #[vW 0,vW 0,vW 0,nS] fun a2 a3 h M N=>aB M #[vW ((aL C).file),vW ((aL C).record),vW ((aL C).count),.slice k ((aL C).words.length) l] fun a4 n O=>ng<|?_
 have o:=ud N O h
 have p:=aQ f o
 have r:=aS (uz a p) (Ne.symm hne) hS
 refine aF r 0<|Pl 1<|aF n 2<|bt ((aL C).count)<|bt (2*((aL C).count))<|bt (2+(2*((aL C).count)))<|bt (s+(2+(2*((aL C).count))))<|L0<|bE r 0 #[vI (s+(2+(2*((aL C).count))))] fun a5 t u=>aK 1<|aF t 0<|Pl 1<|?_
 have v:=uz o u
 have b:=uz a f
 have y:=aS b (Ne.symm hne) hS
 refine aq<|m2 (aZ ((decide ((s+(2+(2*((aL C).count))))≤245))) 5 (ae.upd m v (aa hne ax) (ah (aR y (by decide)) aE))) fun a6 P z=>?_
 refine ab P fun x47 Q R=>?_
 refine ng<|?_
 have B:=us u z
 refine L0<|cM (aC.blk B (aa (Ne.symm (nb (ai hS) b.size h)) (aa (Ne.symm (nb (ae.lt hC) b.size h)) ax)) n)<|?_
 have i:=nb (ae.lt hC) lr d
 have D:=nb (ai hS) lr d
 have E:=aC.blk (ui p B) (aa (Ne.symm D) (aa (Ne.symm i) ax)) j
 refine aB E #[vW ((aL C).file),vW ((aL C).record),vW ((aL C).count),.slice k ((aL C).words.length) l] fun a7 S F=>oS<|tU S<|?_
 subst Q
 have G:=us z F
 have H:=us v G
 exact⟨_,_,rfl,(aG.hi_le (ej.upd' I H (ah (aR y (by decide)) (ah (ae.safe m _ (by decide)) (ah (aR (aS f (Ne.symm i) j) (by decide)) aE)))) a.size fun _ _ q=>q),c6 (x:=(aL C).file) (by omega),c6 (x:=(aL C).record) (by omega),c6 (x:=(aL C).count) (by omega),(ae.upd R F (aa i ax) (ah (aR E (by decide)) aE)),(aC.blk G (aa (Ne.symm hne) (aa D ax)) t),(ut (aC.mono (S':=[g,gs]) b (ac im aA)) H (ac im (ac im (ac (nr d) aA))))⟩
def eP (c:Int)(v:Value) : Array Value:=#[.int .u8 c,.int .u8 0,.int .u16 0,.int .u16 0,.int .u16 0,.int .u16 0,.int .u16 0,.int .u16 0,.int .u16 0,.int .u16 0,.int .u16 0,.int .u16 0,fF,fF,fF,v,.int .u8 0,.int .u8 0,.int .u8 0,.int .u8 0,.int .u8 0,fF]
structure JR (w0:World) (gb gs gm l:Nat) (c:Int) (r:Loop) (C:ag) (s:Int) (L:List cX) (A:Option Addr) (cp:Nat) (W:World) : Prop where
  u:aC [gb,gs,gm,l] w0 W
  hC:ae W gb C
  hS:W.heap[gs]? = some (.cells #[.int .i64 s] 3 (0,0))
  hm:W.heap[gm]? = some (.cells (eP c (.slice A L.length cp)) 45 (0,0))
  ho:aT w0.heap.size 98 4 (bo (.hi w0.heap.size)) W (.slice A L.length cp) L
  hl:W.heap[l]? = some (.loop r)
def cw (s:Int)(C:ag) : Int × ag × cX:=(dF s C,dL s C,aL C)
def bH (s:Int)(C:ag) : Int × ag × cX:=(s,eb C,dK C)
def cy (s:Int)(C:ag) : Int × ag × cX:=(s,gN C,gr C)
def aM (one:Int→ag→Int × ag × cX) : Nat→Int→ag→List cX→ag × List cX
  | 0,_,C,L=>(C,L)
  | n+1,s,C,L =>
    if decide (0<(C.l.length:Int))&&C.e==0 then
      (if (one s C).2.1.e != 0 then ((one s C).2.1,L) else aM one n (one s C).1 (one s C).2.1 (L++[(one s C).2.2]))
    else (C,L)
theorem gn(C:ag)(n:Int) : (C.bytesC n).l.length≤C.l.length:=by
  unfold ag.bytesC
  split
  · unfold ag.need
    split<;>simp
  · simp
theorem iI(C:ag)(h:0<C.l.length) : (C.bytesC 1).l.length<C.l.length:=by
  unfold ag.bytesC
  split
  · unfold ag.need
    split<;>simpa using h
  · simp
    omega
theorem dE(C:ag)(b:Bool)(e:Int) : (C.need b e).l.length=C.l.length:=by
  unfold ag.need
  split<;>rfl
theorem dN(C:ag)(n:Int) : (C.wordsC n).l.length≤C.l.length:=by
  unfold ag.wordsC
  split<;>exact gn ..
theorem md(C:ag)(h:0<C.l.length) : (d7 C).l.length<C.l.length:=by
  have h1:(ir C).l.length<C.l.length:=by unfold ir;rw[dE];exact iI C h
  have h2:(iu C).l.length≤(ir C).l.length:=by unfold iu;rw[dE];exact dN ..
  have h3:(lW C).l.length≤(iu C).l.length:=by unfold lW;rw[dE];exact dN ..
  have h4:(d7 C).l.length≤(lW C).l.length:=by unfold d7;rw[dE];exact dN ..
  omega
theorem o4(s:Int)(C:ag)(h:0<C.l.length) : (cw s C).2.1.l.length<C.l.length:=by
  show(dL s C).l.length<_
  unfold dL
  rw[dE]
  exact md C h
theorem iJ(s:Int)(C:ag)(h:0<C.l.length) : (bH s C).2.1.l.length<C.l.length:=by
  show(eb C).l.length<_
  have h1:(g9 C).l.length<C.l.length:=by unfold g9;rw[dE];exact iI C h
  have h2:(g7 C).l.length≤(g9 C).l.length:=by unfold g7;rw[dE];exact gn ..
  have h3:(eb C).l.length≤(g7 C).l.length:=by unfold eb;exact dN ..
  omega
theorem nV(s:Int)(C:ag)(h:0<C.l.length) : (cy s C).2.1.l.length<C.l.length:=by
  show(gN C).l.length<_
  have h1:=md C h
  have h2:(lw C).l.length=(d7 C).l.length:=by unfold lw;rw[dE]
  have h3:(gN C).l.length≤(lw C).l.length:=by unfold gN;exact dN ..
  omega
theorem f7(one:Int→ag→Int × ag × cX)(n:Nat)(s:Int)(C:ag)(L:List cX)(h:(decide (0<(C.l.length:Int))&&C.e==0)=false) : aM one n s C L=(C,L):=by
  cases n with
  | zero=>rfl
  | succ n=>simp only[aM,h,Bool.false_eq_true,if_false]
open Go.RowKit
def di (fn0:FuncId)(tm:Array Value)(asg bdy:Code)(D:Nat) : Loop:={ state:=.ready,pending:=none,fn:=fn0,tmps:=tm,params:=#[53],assign:=asg,body:=bdy,defers:=D }
def nf (w:World)(gb gs gm l:Nat)(c:Int)(R:Loop) : Prop:=∀ (W:World)(C:ag)(s:Int)(L:List cX)(A:Option Addr)(cp:Nat)(x:cX)(Ax:Option Addr)(cx:Nat),JR w gb gs gm l c R C s L A cp W→ej (.hi w.heap.size) W (.slice Ax x.words.length cx) x.words→dC x.file→dC x.record→dC x.count→L.length≤1048576 →
    RoundIn Fence.wide 8 Tryz.prog l R.fn (R.tmps.setIfInBounds 53 (.agg #[.int .u16 x.file,.int .u16 x.record,.int .u16 x.count,.slice Ax x.words.length cx])) R.assign R.body W (fun e W'=>e = .returned (.bool true)∧W.heap.size≤W'.heap.size∧∃ A2 c2,JR w gb gs gm l c R C s (L++[x]) A2 c2 W')
theorem tG{w:World}{gb gs gm l b1 b2 fn0 D:Nat}{tm:Array Value}{asg bdy:Code}{c:Int}{C0:ag}(hC:ae w gb C0)(hS:w.heap[gs]? = some (.cells #[vI 0] 3 (0,0)))(hm:w.heap[gm]? = some (.cells (eP c fF) 45 (0,0)))
    (hl:w.heap[l]? = some (.loop (di fn0 tm asg bdy D))) (hb1:w.heap[b1]? = some (.cells #[vP gb 0] 164 (0,0))) (hb2:w.heap[b2]? = some (.cells #[.func (.func 213) #[] #[vP gs 0]] 178 (0,0)))
    (n1:gb≠gs) (n2:gb≠gm) (n3:gb≠l) (n4:gs≠gm) (n5:gs≠l) (n6:gm≠l) (m1:b1≠gb) (m2:b1≠gs) (m3:b1≠gm) (m4:b1≠l) (k1:b2≠gb) (k2:b2≠gs) (k3:b2≠gm) (k4:b2≠l) (hround:nf w gb gs gm l c (di fn0 tm asg bdy D)) :
    Calls Tryz.prog 220 #[.func (.yield l) #[] #[],vP b1 0,vP b2 0] w (fun e W=>e = .returned (.tuple #[])∧∃ s A cp,JR w gb gs gm l c (di fn0 tm asg bdy D) (aM cw C0.l.length 0 C0 []).1 s (aM cw C0.l.length 0 C0 []).2 A cp W):=by
 have hlen:=hC.len
 refine en 25 Tryz.func220 rfl<|bk<|?_
 refine iq (fun x=>[(0,.func (.yield l) #[] #[]),(1,vP b1 0),(2,vP b2 0)]) (fun(x:Nat × ag × Int × List cX × Option Addr × Nat) w'=>aC [gb,gs,gm,l] w w'∧ae w' gb x.2.1∧w'.heap[gs]? = some (.cells #[vI x.2.2.1] 3 (0,0))∧w'.heap[gm]? = some (.cells (eP c (.slice x.2.2.2.2.1 x.2.2.2.1.length x.2.2.2.2.2)) 45 (0,0))∧w'.heap[l]? = some (.loop (di fn0 tm asg bdy D))∧aT w.heap.size 98 4 (bo (.hi w.heap.size)) w' (.slice x.2.2.2.2.1 x.2.2.2.1.length x.2.2.2.2.2) x.2.2.2.1∧(aM cw x.1 x.2.2.1 x.2.1 x.2.2.2.1=aM cw C0.l.length 0 C0 [])∧(x.2.1.l.length≤x.1)∧(0≤x.2.2.1∧x.2.2.1≤131074*(x.2.2.2.1.length:Int))∧(x.2.2.2.1.length+x.1≤C0.l.length)) (fun x=>x.1) (C0.l.length,C0,0,[],none,0) ⟨aC.refl _ _,hC,hS,hm,hl,aT.nil ..,rfl,(Nat.le_refl _),(by(try dsimp only);omega),(by(try dsimp only);(try simp only[List.length_nil]);omega)⟩ ?_
 rintro⟨n,C,s,L,A,cp⟩ h ⟨i,I,J,M,N,O,P,Q,R,S⟩
 refine fs [(0,.func (.yield l) #[] #[]),(1,vP b1 0),(2,vP b2 0)] ?_
 have b:ae h gb C:=I
 have m:h.heap[gs]? = some (.cells #[vI s] 3 (0,0)):=J
 have t:h.heap[gm]? = some (.cells (eP c (.slice A L.length cp)) 45 (0,0)):=M
 have v:h.heap[l]? = some (.loop (di fn0 tm asg bdy D)):=N
 have d:aT w.heap.size 98 4 (bo (.hi w.heap.size)) h (.slice A L.length cp) L:=O
 have af:aM cw n s C L=aM cw C0.l.length 0 C0 []:=P
 have aj:C.l.length≤n:=Q
 have ak:0≤s∧s≤131074*(L.length:Int):=R
 have al:L.length+n≤C0.l.length:=S
 have hrec:aM cw n s C L=aM cw C0.l.length 0 C0 []:=by assumption
 refine sq<|sg<|?_
 have o:=aC.blk i (aa m1 (aa m2 (aa m3 (aa m4 ax)))) hb1
 refine aF o 0<|aq<|mq (dm b)<|?_
 have am:=ae.len b
 refine Pl 2<|dc 4 [8] 12 8 (decide (0<(C.l.length:Int))) (C.e==0) (fun K T U=>?_) ?_
 have an:=of_decide_eq_true U
 refine L1<|cY o 0<|L1<|Oc<|mq (c4 b)<|?_
 have ao:=ae.len b
 exact Pl 2<|ce T _ rfl
 refine nt<|cb (((decide (0<(C.l.length:Int)))&&(C.e==0))) (fun f=>?_) (fun f=>?_)
 have y:=(aW f).1
 have z:=(aW f).2
 have ar:=of_decide_eq_true y
 have au:=ap z
 refine bu<|bk<|sg<|?_
 refine aF (aC.blk i (aa k1 (aa k2 (aa k3 (aa k4 ax)))) hb2) 0<|aF o 0<|L0<|fV #[] #[vP gs 0] (args:=#[vP gb 0,vP gs 0])<|w4 (oJ (s:=s) b m n1 (by omega)) fun B E aw V X Y Z a0 F a1=>?_
 have az:dF s C=s+(2+2*(aL C).count):=rfl
 obtain⟨aH,aK⟩:=X
 obtain⟨aN,aO⟩:=Y
 obtain⟨aP,aS⟩:=Z
 refine aJ #[vW 0,vW 0,vW 0,nS] fun aU aV a2 a3 a4=>aB a3 #[vW ((aL C).file),vW ((aL C).record),vW ((aL C).count),.slice B ((aL C).words.length) E] fun a5 a6 a7=>nt<|sq<|v5 9<|?_
 have j:=ud a4 a7 a2
 have a:=aQ a1 j
 refine F0<|cY (aC.blk a (aa m1 (aa m2 ax)) o) 0<|?_
 have p:=ae.old a0 j
 refine F0<|Oc<|mq (c4 p)<|?_
 have aX:=ae.len p
 refine Fp<|Fp<|?_
 have G:=ut i a (ac im (ac im aA))
 refine v9 19 ((((dL s C).e)!=0)) (fun k=>?_) (fun k=>?_)
 have a8:=ay k
 refine Fp<|Fp<|Fp<|Fp<|Fp<|pu<|tn<|c1<|rt<|br<|tr<|br<|rr (.tuple #[])<|?_
 have hfin:aM cw C0.l.length 0 C0 []=((dL s C),L):=by
   rw[← hrec]
   rw[show n=(n-1)+1 from by omega]
   simp only[aM,cw,f,y,z,k,bp,reduceIte]
 refine⟨rfl,(dF s C),A,cp,?_⟩
 rw[hfin]
 exact⟨G,p,(ub j F),(aC.blk a (aa (Ne.symm n2) (aa (Ne.symm n4) ax)) t),(av d a (fun x hx=>(aa (fun e=>(aD (ae.lt hC) lr d) (e▸hx)) (aa (fun e=>(aD (ai hS) lr d) (e▸hx)) ax))) (bo.upd16 a (ah (ae.safe b _ (by decide)) (ah (aR m (by decide)) aE)))),(aC.blk a (aa (Ne.symm n3) (aa (Ne.symm n5) ax)) v)⟩
 have a8:=aI k
 refine Fp<|F0<|cM a6<|?_
 have H:=aC.blk a (aa (Ne.symm n3) (aa (Ne.symm n5) ax)) v
 have a9:JR w gb gs gm l c (di fn0 tm asg bdy D) (dL s C) (dF s C) L A cp a5:=⟨G,p,(ub j F),(aC.blk a (aa (Ne.symm n2) (aa (Ne.symm n4) ax)) t),(av d a (fun x hx=>(aa (fun e=>(aD (ae.lt hC) lr d) (e▸hx)) (aa (fun e=>(aD (ai hS) lr d) (e▸hx)) ax))) (bo.upd16 a (ah (ae.safe b _ (by decide)) (ah (aR m (by decide)) aE)))),H⟩
 refine Fy (r:=di fn0 tm asg bdy D) (.agg #[vW ((aL C).file),vW ((aL C).record),vW ((aL C).count),.slice B ((aL C).words.length) E]) 53 H rfl<|?_
 refine RoundIn.mono (hround _ _ _ _ _ _ (aL C) _ _ a9 (aG.hi_le (ej.upd' V j aE) i.size fun _ _ q=>q) (c6 (by omega)) (c6 (by omega)) (c6 (by omega)) (by omega)) ?_
 rintro _ aY ⟨rfl,aZ,ab,ad,g⟩
 refine⟨_,rfl,?_⟩
 exact Fp<|Fp<|pu<|tn<|c0<|sk<|bn<|fv ((n-1),(dL s C),(dF s C),(L++[(aL C)]),ab,ad) ⟨g.u,g.hC,g.hS,g.hm,g.hl,g.ho,(by(try dsimp only);rw[← hrec,show n=(n-1)+1 from by omega];simp only[aM,cw,f,y,z,k,bp,Nat.add_sub_cancel,reduceIte]),(by(try dsimp only);have hd:=o4 s C (by omega);have iu:(cw s C).2.1.l.length=(dL s C).l.length:=rfl;omega),(by(try dsimp only);simp only[ef];omega),(by(try dsimp only);simp only[ef];omega)⟩ (by omega)
 refine xt<|tx<|tx<|bx<|rm (.tuple #[])<|?_
 have hfin:aM cw C0.l.length 0 C0 []=(C,L):=by
   rw[← hrec]
   exact f7 _ _ _ _ _ (by simp only[f,bp])
 refine⟨rfl,s,A,cp,?_⟩
 rw[hfin]
 exact⟨i,b,m,t,d,v⟩
theorem sT{w:World}{gb gs gm l b1 b2 fn0 D:Nat}{tm:Array Value}{asg bdy:Code}{c:Int}{C0:ag}(hC:ae w gb C0)(hS:w.heap[gs]? = some (.cells #[vI 0] 3 (0,0)))(hm:w.heap[gm]? = some (.cells (eP c fF) 45 (0,0)))
    (hl:w.heap[l]? = some (.loop (di fn0 tm asg bdy D))) (hb1:w.heap[b1]? = some (.cells #[vP gb 0] 164 (0,0))) (hb2:w.heap[b2]? = some (.cells #[.func (.func 217) #[] #[]] 178 (0,0)))
    (n1:gb≠gs) (n2:gb≠gm) (n3:gb≠l) (n4:gs≠gm) (n5:gs≠l) (n6:gm≠l) (m1:b1≠gb) (m2:b1≠gs) (m3:b1≠gm) (m4:b1≠l) (k1:b2≠gb) (k2:b2≠gs) (k3:b2≠gm) (k4:b2≠l) (hround:nf w gb gs gm l c (di fn0 tm asg bdy D)) :
    Calls Tryz.prog 220 #[.func (.yield l) #[] #[],vP b1 0,vP b2 0] w (fun e W=>e = .returned (.tuple #[])∧∃ s A cp,JR w gb gs gm l c (di fn0 tm asg bdy D) (aM bH C0.l.length 0 C0 []).1 s (aM bH C0.l.length 0 C0 []).2 A cp W):=by
 have hlen:=hC.len
 refine en 25 Tryz.func220 rfl<|bk<|?_
 refine iq (fun x=>[(0,.func (.yield l) #[] #[]),(1,vP b1 0),(2,vP b2 0)]) (fun(x:Nat × ag × Int × List cX × Option Addr × Nat) w'=>aC [gb,gs,gm,l] w w'∧ae w' gb x.2.1∧w'.heap[gs]? = some (.cells #[vI x.2.2.1] 3 (0,0))∧w'.heap[gm]? = some (.cells (eP c (.slice x.2.2.2.2.1 x.2.2.2.1.length x.2.2.2.2.2)) 45 (0,0))∧w'.heap[l]? = some (.loop (di fn0 tm asg bdy D))∧aT w.heap.size 98 4 (bo (.hi w.heap.size)) w' (.slice x.2.2.2.2.1 x.2.2.2.1.length x.2.2.2.2.2) x.2.2.2.1∧(aM bH x.1 x.2.2.1 x.2.1 x.2.2.2.1=aM bH C0.l.length 0 C0 [])∧(x.2.1.l.length≤x.1)∧(0≤x.2.2.1∧x.2.2.1≤131074*(x.2.2.2.1.length:Int))∧(x.2.2.2.1.length+x.1≤C0.l.length)) (fun x=>x.1) (C0.l.length,C0,0,[],none,0) ⟨aC.refl _ _,hC,hS,hm,hl,aT.nil ..,rfl,(Nat.le_refl _),(by(try dsimp only);omega),(by(try dsimp only);(try simp only[List.length_nil]);omega)⟩ ?_
 rintro⟨n,C,s,L,A,cp⟩ g ⟨h,H,I,J,M,N,O,P,Q,R⟩
 refine fs [(0,.func (.yield l) #[] #[]),(1,vP b1 0),(2,vP b2 0)] ?_
 have b:ae g gb C:=H
 have o:g.heap[gs]? = some (.cells #[vI s] 3 (0,0)):=I
 have p:g.heap[gm]? = some (.cells (eP c (.slice A L.length cp)) 45 (0,0)):=J
 have t:g.heap[l]? = some (.loop (di fn0 tm asg bdy D)):=M
 have i:aT w.heap.size 98 4 (bo (.hi w.heap.size)) g (.slice A L.length cp) L:=N
 have ac:aM bH n s C L=aM bH C0.l.length 0 C0 []:=O
 have ad:C.l.length≤n:=P
 have af:0≤s∧s≤131074*(L.length:Int):=Q
 have ai:L.length+n≤C0.l.length:=R
 have hrec:aM bH n s C L=aM bH C0.l.length 0 C0 []:=by assumption
 refine sq<|sg<|?_
 have k:=aC.blk h (aa m1 (aa m2 (aa m3 (aa m4 ax)))) hb1
 refine aF k 0<|aq<|mq (dm b)<|?_
 have aj:=ae.len b
 refine Pl 2<|dc 4 [8] 12 8 (decide (0<(C.l.length:Int))) (C.e==0) (fun K S T=>?_) ?_
 have ak:=of_decide_eq_true T
 refine L1<|cY k 0<|L1<|Oc<|mq (c4 b)<|?_
 have al:=ae.len b
 exact Pl 2<|ce S _ rfl
 refine nt<|cb (((decide (0<(C.l.length:Int)))&&(C.e==0))) (fun d=>?_) (fun d=>?_)
 have v:=(aW d).1
 have y:=(aW d).2
 have am:=of_decide_eq_true v
 have an:=ap y
 refine bu<|bk<|sg<|?_
 refine aF (aC.blk h (aa k1 (aa k2 (aa k3 (aa k4 ax)))) hb2) 0<|aF k 0<|L0<|fV #[] #[] (args:=#[vP gb 0])<|tf (pi b) fun B E ao U V X Y Z a0=>?_
 obtain⟨ar,au⟩:=V
 obtain⟨aw,az⟩:=X
 obtain⟨aA,aH⟩:=Y
 refine aJ #[vW 0,vW 0,vW 0,nS] fun aK aL a1 a2 a3=>aB a2 #[vW ((dK C).file),vW ((dK C).record),vW ((dK C).count),.slice B ((dK C).words.length) E] fun a4 a5 a6=>nt<|sq<|v5 9<|?_
 have z:=ud a3 a6 a1
 have a:=aQ a0 z
 refine F0<|cY (aS a m1 k) 0<|?_
 have m:=ae.old Z z
 refine F0<|Oc<|mq (c4 m)<|?_
 have aN:=ae.len m
 refine Fp<|Fp<|?_
 have F:=u1 h a im
 refine v9 19 ((((eb C).e)!=0)) (fun j=>?_) (fun j=>?_)
 have a7:=ay j
 refine Fp<|Fp<|Fp<|Fp<|Fp<|pu<|tn<|c1<|rt<|br<|tr<|br<|rr (.tuple #[])<|?_
 have hfin:aM bH C0.l.length 0 C0 []=((eb C),L):=by
   rw[← hrec]
   rw[show n=(n-1)+1 from by omega]
   simp only[aM,bH,d,v,y,j,bp,reduceIte]
 refine⟨rfl,s,A,cp,?_⟩
 rw[hfin]
 exact⟨F,m,(aS a (Ne.symm n1) o),(aS a (Ne.symm n2) p),(av i a (fun x hx=>(aa (fun e=>(aD (ae.lt hC) lr i) (e▸hx)) ax)) (bo.upd16 a (ah (ae.safe b _ (by decide)) aE))),(aS a (Ne.symm n3) t)⟩
 have a7:=aI j
 refine Fp<|F0<|cM a5<|?_
 have G:=aS a (Ne.symm n3) t
 have a8:JR w gb gs gm l c (di fn0 tm asg bdy D) (eb C) s L A cp a4:=⟨F,m,(aS a (Ne.symm n1) o),(aS a (Ne.symm n2) p),(av i a (fun x hx=>(aa (fun e=>(aD (ae.lt hC) lr i) (e▸hx)) ax)) (bo.upd16 a (ah (ae.safe b _ (by decide)) aE))),G⟩
 refine Fy (r:=di fn0 tm asg bdy D) (.agg #[vW ((dK C).file),vW ((dK C).record),vW ((dK C).count),.slice B ((dK C).words.length) E]) 53 G rfl<|?_
 refine RoundIn.mono (hround _ _ _ _ _ _ (dK C) _ _ a8 (aG.hi_le (ej.upd' U z aE) h.size fun _ _ q=>q) (c6 (by omega)) (c6 (by omega)) (c6 (by omega)) (by omega)) ?_
 rintro _ aO ⟨rfl,aP,a9,ab,f⟩
 refine⟨_,rfl,?_⟩
 exact Fp<|Fp<|pu<|tn<|c0<|sk<|bn<|fv ((n-1),(eb C),s,(L++[(dK C)]),a9,ab) ⟨f.u,f.hC,f.hS,f.hm,f.hl,f.ho,(by(try dsimp only);rw[← hrec,show n=(n-1)+1 from by omega];simp only[aM,bH,d,v,y,j,bp,Nat.add_sub_cancel,reduceIte]),(by(try dsimp only);have hd:=iJ s C (by omega);have iu:(bH s C).2.1.l.length=(eb C).l.length:=rfl;omega),(by(try dsimp only);simp only[ef];omega),(by(try dsimp only);simp only[ef];omega)⟩ (by omega)
 refine xt<|tx<|tx<|bx<|rm (.tuple #[])<|?_
 have hfin:aM bH C0.l.length 0 C0 []=(C,L):=by
   rw[← hrec]
   exact f7 _ _ _ _ _ (by simp only[d,bp])
 refine⟨rfl,s,A,cp,?_⟩
 rw[hfin]
 exact⟨h,b,o,p,i,t⟩
theorem tk{w:World}{gb gs gm l b1 b2 fn0 D:Nat}{tm:Array Value}{asg bdy:Code}{c:Int}{C0:ag}(hC:ae w gb C0)(hS:w.heap[gs]? = some (.cells #[vI 0] 3 (0,0)))(hm:w.heap[gm]? = some (.cells (eP c fF) 45 (0,0)))
    (hl:w.heap[l]? = some (.loop (di fn0 tm asg bdy D))) (hb1:w.heap[b1]? = some (.cells #[vP gb 0] 164 (0,0))) (hb2:w.heap[b2]? = some (.cells #[.func (.func 219) #[] #[]] 178 (0,0)))
    (n1:gb≠gs) (n2:gb≠gm) (n3:gb≠l) (n4:gs≠gm) (n5:gs≠l) (n6:gm≠l) (m1:b1≠gb) (m2:b1≠gs) (m3:b1≠gm) (m4:b1≠l) (k1:b2≠gb) (k2:b2≠gs) (k3:b2≠gm) (k4:b2≠l) (hround:nf w gb gs gm l c (di fn0 tm asg bdy D)) :
    Calls Tryz.prog 220 #[.func (.yield l) #[] #[],vP b1 0,vP b2 0] w (fun e W=>e = .returned (.tuple #[])∧∃ s A cp,JR w gb gs gm l c (di fn0 tm asg bdy D) (aM cy C0.l.length 0 C0 []).1 s (aM cy C0.l.length 0 C0 []).2 A cp W):=by
 have hlen:=hC.len
 refine en 25 Tryz.func220 rfl<|bk<|?_
 refine iq (fun x=>[(0,.func (.yield l) #[] #[]),(1,vP b1 0),(2,vP b2 0)]) (fun(x:Nat × ag × Int × List cX × Option Addr × Nat) w'=>aC [gb,gs,gm,l] w w'∧ae w' gb x.2.1∧w'.heap[gs]? = some (.cells #[vI x.2.2.1] 3 (0,0))∧w'.heap[gm]? = some (.cells (eP c (.slice x.2.2.2.2.1 x.2.2.2.1.length x.2.2.2.2.2)) 45 (0,0))∧w'.heap[l]? = some (.loop (di fn0 tm asg bdy D))∧aT w.heap.size 98 4 (bo (.hi w.heap.size)) w' (.slice x.2.2.2.2.1 x.2.2.2.1.length x.2.2.2.2.2) x.2.2.2.1∧(aM cy x.1 x.2.2.1 x.2.1 x.2.2.2.1=aM cy C0.l.length 0 C0 [])∧(x.2.1.l.length≤x.1)∧(0≤x.2.2.1∧x.2.2.1≤131074*(x.2.2.2.1.length:Int))∧(x.2.2.2.1.length+x.1≤C0.l.length)) (fun x=>x.1) (C0.l.length,C0,0,[],none,0) ⟨aC.refl _ _,hC,hS,hm,hl,aT.nil ..,rfl,(Nat.le_refl _),(by(try dsimp only);omega),(by(try dsimp only);(try simp only[List.length_nil]);omega)⟩ ?_
 rintro⟨n,C,s,L,A,cp⟩ g ⟨h,H,I,J,M,N,O,P,Q,R⟩
 refine fs [(0,.func (.yield l) #[] #[]),(1,vP b1 0),(2,vP b2 0)] ?_
 have b:ae g gb C:=H
 have o:g.heap[gs]? = some (.cells #[vI s] 3 (0,0)):=I
 have p:g.heap[gm]? = some (.cells (eP c (.slice A L.length cp)) 45 (0,0)):=J
 have t:g.heap[l]? = some (.loop (di fn0 tm asg bdy D)):=M
 have i:aT w.heap.size 98 4 (bo (.hi w.heap.size)) g (.slice A L.length cp) L:=N
 have ac:aM cy n s C L=aM cy C0.l.length 0 C0 []:=O
 have ad:C.l.length≤n:=P
 have af:0≤s∧s≤131074*(L.length:Int):=Q
 have ai:L.length+n≤C0.l.length:=R
 have hrec:aM cy n s C L=aM cy C0.l.length 0 C0 []:=by assumption
 refine sq<|sg<|?_
 have k:=aC.blk h (aa m1 (aa m2 (aa m3 (aa m4 ax)))) hb1
 refine aF k 0<|aq<|mq (dm b)<|?_
 have aj:=ae.len b
 refine Pl 2<|dc 4 [8] 12 8 (decide (0<(C.l.length:Int))) (C.e==0) (fun K S T=>?_) ?_
 have ak:=of_decide_eq_true T
 refine L1<|cY k 0<|L1<|Oc<|mq (c4 b)<|?_
 have al:=ae.len b
 exact Pl 2<|ce S _ rfl
 refine nt<|cb (((decide (0<(C.l.length:Int)))&&(C.e==0))) (fun d=>?_) (fun d=>?_)
 have v:=(aW d).1
 have y:=(aW d).2
 have am:=of_decide_eq_true v
 have an:=ap y
 refine bu<|bk<|sg<|?_
 refine aF (aC.blk h (aa k1 (aa k2 (aa k3 (aa k4 ax)))) hb2) 0<|aF k 0<|L0<|fV #[] #[] (args:=#[vP gb 0])<|tf (rz b) fun B E ao U V X Y Z a0=>?_
 obtain⟨ar,au⟩:=V
 obtain⟨aw,az⟩:=X
 obtain⟨aA,aH⟩:=Y
 refine aJ #[vW 0,vW 0,vW 0,nS] fun aK aL a1 a2 a3=>aB a2 #[vW ((gr C).file),vW ((gr C).record),vW ((gr C).count),.slice B ((gr C).words.length) E] fun a4 a5 a6=>nt<|sq<|v5 9<|?_
 have z:=ud a3 a6 a1
 have a:=aQ a0 z
 refine F0<|cY (aS a m1 k) 0<|?_
 have m:=ae.old Z z
 refine F0<|Oc<|mq (c4 m)<|?_
 have aN:=ae.len m
 refine Fp<|Fp<|?_
 have F:=u1 h a im
 refine v9 19 ((((gN C).e)!=0)) (fun j=>?_) (fun j=>?_)
 have a7:=ay j
 refine Fp<|Fp<|Fp<|Fp<|Fp<|pu<|tn<|c1<|rt<|br<|tr<|br<|rr (.tuple #[])<|?_
 have hfin:aM cy C0.l.length 0 C0 []=((gN C),L):=by
   rw[← hrec]
   rw[show n=(n-1)+1 from by omega]
   simp only[aM,cy,d,v,y,j,bp,reduceIte]
 refine⟨rfl,s,A,cp,?_⟩
 rw[hfin]
 exact⟨F,m,(aS a (Ne.symm n1) o),(aS a (Ne.symm n2) p),(av i a (fun x hx=>(aa (fun e=>(aD (ae.lt hC) lr i) (e▸hx)) ax)) (bo.upd16 a (ah (ae.safe b _ (by decide)) aE))),(aS a (Ne.symm n3) t)⟩
 have a7:=aI j
 refine Fp<|F0<|cM a5<|?_
 have G:=aS a (Ne.symm n3) t
 have a8:JR w gb gs gm l c (di fn0 tm asg bdy D) (gN C) s L A cp a4:=⟨F,m,(aS a (Ne.symm n1) o),(aS a (Ne.symm n2) p),(av i a (fun x hx=>(aa (fun e=>(aD (ae.lt hC) lr i) (e▸hx)) ax)) (bo.upd16 a (ah (ae.safe b _ (by decide)) aE))),G⟩
 refine Fy (r:=di fn0 tm asg bdy D) (.agg #[vW ((gr C).file),vW ((gr C).record),vW ((gr C).count),.slice B ((gr C).words.length) E]) 53 G rfl<|?_
 refine RoundIn.mono (hround _ _ _ _ _ _ (gr C) _ _ a8 (aG.hi_le (ej.upd' U z aE) h.size fun _ _ q=>q) (c6 (by omega)) (c6 (by omega)) (c6 (by omega)) (by omega)) ?_
 rintro _ aO ⟨rfl,aP,a9,ab,f⟩
 refine⟨_,rfl,?_⟩
 exact Fp<|Fp<|pu<|tn<|c0<|sk<|bn<|fv ((n-1),(gN C),s,(L++[(gr C)]),a9,ab) ⟨f.u,f.hC,f.hS,f.hm,f.hl,f.ho,(by(try dsimp only);rw[← hrec,show n=(n-1)+1 from by omega];simp only[aM,cy,d,v,y,j,bp,Nat.add_sub_cancel,reduceIte]),(by(try dsimp only);have hd:=nV s C (by omega);have iu:(cy s C).2.1.l.length=(gN C).l.length:=rfl;omega),(by(try dsimp only);simp only[ef];omega),(by(try dsimp only);simp only[ef];omega)⟩ (by omega)
 refine xt<|tx<|tx<|bx<|rm (.tuple #[])<|?_
 have hfin:aM cy C0.l.length 0 C0 []=(C,L):=by
   rw[← hrec]
   exact f7 _ _ _ _ _ (by simp only[d,bp])
 refine⟨rfl,s,A,cp,?_⟩
 rw[hfin]
 exact⟨h,b,o,p,i,t⟩
end Go.Proofs.YtdkhbcefkfgbdaaGreat
