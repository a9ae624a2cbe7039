/- Contracts of functions, part CSascTells2. -/
import Derived.Test.YtdkhbcefkfgbdaaGreatCSascTells1
import Derived.Laws.BitsAllLaws
import Derived.RangeFuncRecord
import Derived.RangeFuncLeaves
import Derived.RangeFuncCalls
set_option linter.unusedVariables false
set_option linter.unusedSimpArgs false
set_option maxRecDepth 100000
set_option maxHeartbeats 4000000
namespace Go.Proofs.YtdkhbcefkfgbdaaGreat
open Go.RowKit
def gL (Q:World→Ending→World→Prop)(w:World)(e:Ending)(w':World) : Prop:=∃ F free,e = .returned (.func (.func F) #[] free)∧vn Tryz.prog F=some (false,true)∧aE [] w w'∧Calls Tryz.prog F free w' (Q w')
variable {C:ah}{g:Nat}{most:Int}{w:World}
theorem kv{a:Int}(hC:ae w g C)(ha:0≤a∧a<65536) :
    Calls Tryz.prog 199 #[vP g 0,vW a,vI most] w (kA g .i64 65536 C.wordV (bB C a most) w):=by
 have hlen:=hC.len
 have hrr:=hC.wordV
 refine en 26 Tryz.func199 rfl<|aq 1<|aL 1<|ax<|m3 (bN hC) fun k b c l=>be C.wordV<|ap 1<|aq 4<|cY 4 [14] 18 14 (decide (1≤C.wordV)) (decide (C.wordV≤most)) (fun K d e=>?_) ?_
 have m:=of_decide_eq_true e
 exact Pl 4<|ce d _ rfl
 refine ax<|m2 (aY (((decide (1≤C.wordV))&&(decide (C.wordV≤most)))) 5 b) fun o f h=>aL 3<|ax<|mq (gM (a:=a) (n:=C.wordV) (by omega))<|ax<|m2 (aY ((cK a C.wordV)) 7 f) fun p i j=>aL 2<|nl<|tn<|rt<|rr (vI C.wordV)<|?_
 exact cZ (by unfold bB;(try simp only[bq,reduceIte])<;>rfl) ⟨rfl,i,(u1 c (u1 h j im) im),hrr⟩
variable {n:Int}
theorem iI(hC:ae w g C)(hn:0≤n∧n<65536) :
    Calls Tryz.prog 205 #[vP g 0,vI n] w (fun e w'=>∃ v,e = .returned v∧iV w.heap.size w' v ((cw C n).wordsR n)∧ae w' g ((cw C n).wordsC n)∧aE [g] w w'):=by
 have hlen:=hC.len
 refine en 16 Tryz.func205 rfl<|aq 1<|aL 2<|ax<|m3 (bI hC) fun l c a m=>be C.byteV<|Pl 1<|be (2*n)<|Pl 1<|ax<|m2 (aY ((C.byteV==(2*n))) 5 c) fun o d b=>?_
 refine aL 2<|ax<|lv (dt (n:=n) d) fun f h p i q r j k=>ap 1<|rt<|rr (.slice f ((((C.bytesC 1).need (C.byteV==(2*n)) 5).wordsR n).length) h)<|?_
 have hs:cw C n=((C.bytesC 1).need (C.byteV==(2*n)) 5):=by
   unfold cw
   (try simp only[bq,reduceIte])
   all_goals rfl
 rw[hs]
 exact⟨_,rfl,(aW.weaken i (le a.size b.size)),j,(u1 a (u1 b k im) im)⟩
variable {bc bm gm:Nat}{c:Int}
theorem gi(hcode:B8 c)(hC:ae w g C)(hm:w.heap[gm]? = some (.cells (mC c) 45 (0,0)))(hne:g≠gm)   (hbc:w.heap[bc]? = some (.cells #[vP g 0] 164 (0,0)))(n_bc_g:bc≠g)(n_bc_gm:bc≠gm)(hbm:w.heap[bm]? = some (.cells #[vP gm 0] 166 (0,0)))(n_bm_g:bm≠g)(n_bm_gm:bm≠gm) :
    Calls Tryz.prog 198 #[vI most,vP bc 0,vP bm 0] w (nk g gm (bB (C.wordsC 1) C.wordV most) (mG c 0 C.wordV (C.wordsC 1).wordV 0 0 0 0 0 0 0 0 nS nS nS nS 0 0 0 0 0 nS) w):=by
 obtain⟨hcode1,hcode2⟩:=hcode
 have hlen:=hC.len
 refine en 20 Tryz.func198 rfl<|sq<|Rg 6 (fun w'=>w'.cell? ⟨bm,0,none⟩=some (vP gm 0)∧w'.cell? ⟨bc,0,none⟩=some (vP g 0)) fun I d=>?_
 have m:=ub d hbm
 have n:=ub d hbc
 refine bA ⟨(am m rfl),(am n rfl)⟩ fun o=>Rl 0 o (fun _ hs=>hs.1)<|Rl 1 o (fun _ hs=>hs.2)<|?_
 refine R0 2 rfl<|Oc<|m3 (bN (ae.old hC d)) fun J F i K=>?_
 have p:=aV i n_bm_g m
 have q:=aV i n_bc_g n
 refine bA ⟨(am p rfl),(am q rfl)⟩ fun r=>Rt 3 r<|Rt 4 r<|?_
 have s:=uz d i
 have t:=aV s (Ne.symm hne) hm
 refine R0 5 rfl<|bD t 2 (mG c 0 C.wordV 0 0 0 0 0 0 0 0 0 nS nS nS nS 0 0 0 0 0 nS) fun L G j=>?_
 have u:=aV j n_bm_gm p
 have v:=aV j n_bc_gm q
 refine bA ⟨(am u rfl),(am v rfl)⟩ fun M=>re<|tn<|Rg 12 (fun w'=>w'.cell? ⟨bm,0,none⟩=some (vP gm 0)∧w'.cell? ⟨bc,0,none⟩=some (vP g 0)∧w'.cell? ⟨gm,2,none⟩=some (vW C.wordV)) fun N e=>?_
 have x:=ub e u
 have y:=ub e v
 have z:=ub e G
 refine bA ⟨(am x rfl),(am y rfl),(am z rfl)⟩ fun b=>Rl 0 b (fun _ hs=>hs.1)<|Rl 1 b (fun _ hs=>hs.2.1)<|Rl 2 b (fun _ hs=>hs.1)<|Rt 3 b<|Rt 4 b<|Rl 5 b (fun _ hs=>hs.2.2)<|Rt 6 b<|?_
 have A:=aN j e
 refine R0 7 rfl<|Oc<|m3 (kv (a:=C.wordV) (most:=most) (ae.upd F A (aa hne av) (ai (aT t (by decide)) aC)) (by omega)) fun O H f P=>?_
 have B:=aV f n_bm_g x
 have D:=aV f n_bc_g y
 have k:=aV f (Ne.symm hne) z
 refine bA ⟨(am B rfl),(am D rfl),(am k rfl)⟩ fun l=>Rr 8 l (vW ((C.wordsC 1).wordV)) (fun _ _=>c9 (vW (IntKind.u16.wrap ((C.wordsC 1).wordV))) (by kernel_rfl) (congrArg (Value.int .u16) (ly (by omega))))<|Rt 9 l<|Rt 10 l<|R0 11 rfl<|bD k 3 (mG c 0 C.wordV ((C.wordsC 1).wordV) 0 0 0 0 0 0 0 0 nS nS nS nS 0 0 0 0 0 nS) fun Q E h=>?_
 refine bA ⟨(am (aV h n_bm_gm B) rfl),(am (aV h n_bc_gm D) rfl),(am E rfl)⟩ fun R=>re<|rm (.tuple #[])<|?_
 exact⟨rfl,(ae.upd H h (aa hne av) (ai (aT k (by decide)) aC)),E,(ui s (ui A (us f h)))⟩
variable {bw:Nat}
theorem xl(hcode:B8 c)(hC:ae w g C)(hm:w.heap[gm]? = some (.cells (mC c) 45 (0,0)))(hne:g≠gm)    (hbc:w.heap[bc]? = some (.cells #[vP g 0] 164 (0,0)))(n_bc_g:bc≠g)(n_bc_gm:bc≠gm)(hbm:w.heap[bm]? = some (.cells #[vP gm 0] 166 (0,0)))(n_bm_g:bm≠g)(n_bm_gm:bm≠gm)(hbw:w.heap[bw]? = some (.cells #[.func (.func 198) #[] #[vP bc 0,vP bm 0]] 218 (0,0)))(n_bw_g:bw≠g)(n_bw_gm:bw≠gm) :
    Calls Tryz.prog 200 #[vP bw 0] w (bQ g gm (bO 125 c C).1 (bO 125 c C).2 w):=by
 obtain⟨hcode1,hcode2⟩:=hcode
 have hlen:=hC.len
 refine en 3 Tryz.func200 rfl<|go<|aH hbw 0<|L0<|i7 #[] #[vP bc 0,vP bm 0] (args:=#[vI 125,vP bc 0,vP bm 0])<|m3 (gi (most:=125) ⟨hcode1,hcode2⟩ hC hm hne hbc n_bc_g n_bc_gm hbm n_bm_g n_bm_gm) fun e a b d=>?_
 have f:=(hC).wordV
 have h:=bF (c6 (hC).rng 1)
 refine nl<|rm (.tuple #[])<|?_
 have hs:bO 125 c C=((bB (C.wordsC 1) C.wordV 125),(b7.mk c 0 C.wordV ((C.wordsC 1).wordV) 0 0 0 0 0 0 0 0 [] [] [] [] 0 0 0 0 0 [])):=by
   unfold bO
   (try simp only[bq,reduceIte])
   all_goals rfl
 rw[hs]
 exact⟨rfl,a,⟨_,⟨b,rfl⟩,⟨_,_,_,_,_,rfl,aI.nil ..,aI.nil ..,aI.nil ..,aI.nil ..,aI.nil ..,(bT (by omega))⟩⟩,d⟩
theorem wX(hcode:B8 c)(hC:ae w g C)(hm:w.heap[gm]? = some (.cells (mC c) 45 (0,0)))(hne:g≠gm)   (hbc:w.heap[bc]? = some (.cells #[vP g 0] 164 (0,0)))(n_bc_g:bc≠g)(n_bc_gm:bc≠gm)(hbm:w.heap[bm]? = some (.cells #[vP gm 0] 166 (0,0)))(n_bm_g:bm≠g)(n_bm_gm:bm≠gm) :
    Calls Tryz.prog 201 #[vP bc 0,vP bm 0] w (bQ g gm (c3 c C).1 (c3 c C).2 w):=by
 obtain⟨hcode1,hcode2⟩:=hcode
 have hlen:=hC.len
 refine en 26 Tryz.func201 rfl<|sg<|aH hbc 0<|ax<|m3 (bI hC) fun M y i N=>be C.byteV<|Pl 1<|ng<|?_
 have j:=aV i n_bc_g hbc
 refine aH j 0<|Pl 1<|L0<|Oe (vI (Int.tmod C.byteV 2)) (vI (C.byteV%2)) (congrArg (Value.int .i64) (Int.tmod_eq_emod_of_nonneg (by omega)))<|Pl 2<|cY 3 [10] 13 10 ((C.byteV%2)==0) (decide (2≤C.byteV)) (fun K z A=>?_) ?_
 have O:=ak A
 exact Pl 3<|ce z _ rfl
 refine Pl 1<|cY 3 [14] 17 14 (((C.byteV%2)==0)&&(decide (2≤C.byteV))) (decide (C.byteV≤250)) (fun K B k=>?_) ?_
 have D:=(aS k).1
 have E:=(aS k).2
 have P:=ak D
 have Q:=of_decide_eq_true E
 exact Pl 3<|ce B _ rfl
 refine ax<|m2 (aY (((((C.byteV%2)==0)&&(decide (2≤C.byteV)))&&(decide (C.byteV≤250)))) 5 y) fun R F G=>nt<|Rg 8 (fun w'=>w'.cell? ⟨bm,0,none⟩=some (vP gm 0)∧w'.cell? ⟨bc,0,none⟩=some (vP g 0)) fun S l=>?_
 have m:=aN G l
 have b:=u1 i m im
 have o:=aV b n_bm_g hbm
 have p:=aV m n_bc_g j
 refine bA ⟨(am o rfl),(am p rfl)⟩ fun d=>Rl 0 d (fun _ hs=>hs.1)<|Rl 1 d (fun _ hs=>hs.2)<|Rt 2 d<|Rr 3 d (vI (C.byteV/2)) (fun _ _=>c9 (vI (IntKind.i64.wrap (Int.tdiv C.byteV 2))) (by kernel_rfl) (congrArg (Value.int .i64) (fa (by omega) (by omega))))<|?_
 refine R0 4 rfl<|Oc<|lv (dt (n:=(C.byteV/2)) (ae.old F l)) fun H I T q U V J f=>?_
 have r:=aV f n_bm_g o
 have s:=aV f n_bc_g p
 refine bA ⟨(am r rfl),(am s rfl)⟩ fun t=>Rt 5 t<|Rt 6 t<|?_
 have u:=u1 b f im
 have v:=aV u (Ne.symm hne) hm
 refine R0 7 rfl<|bD v 12 (mG c 0 0 0 0 0 0 0 0 0 0 0 (.slice H ((((C.bytesC 1).need ((((C.byteV%2)==0)&&(decide (2≤C.byteV)))&&(decide (C.byteV≤250))) 5).wordsR (C.byteV/2)).length) I) nS nS nS 0 0 0 0 0 nS) fun W L a=>?_
 refine bA ⟨(am (aV a n_bm_gm r) rfl),(am (aV a n_bc_gm s) rfl)⟩ fun X=>re<|rm (.tuple #[])<|?_
 exact cZ (by unfold c3 oS ip;(try simp only[bq,reduceIte])<;>rfl) ⟨rfl,(ae.upd J a (aa hne av) (ai (aT v (by decide)) aC)),⟨_,⟨L,rfl⟩,⟨_,_,_,_,_,rfl,(aW.hi (al q a (fun x hx=>(aa (fun e=>(aG (ag hm) b.size q) (e▸hx)) av)) (fun _ _ h=>h)) b.size),aI.nil ..,aI.nil ..,aI.nil ..,aI.nil ..,(bT (by omega))⟩⟩,(us u a)⟩
theorem xy(hcode:B8 c)(hC:ae w g C)(hm:w.heap[gm]? = some (.cells (mC c) 45 (0,0)))(hne:g≠gm)   (hbc:w.heap[bc]? = some (.cells #[vP g 0] 164 (0,0)))(n_bc_g:bc≠g)(n_bc_gm:bc≠gm)(hbm:w.heap[bm]? = some (.cells #[vP gm 0] 166 (0,0)))(n_bm_g:bm≠g)(n_bm_gm:bm≠gm) :
    Calls Tryz.prog 203 #[vP bc 0,vP bm 0] w (bQ g gm (dc c C).1 (dc c C).2 w):=by
 obtain⟨hcode1,hcode2⟩:=hcode
 have hlen:=hC.len
 refine en 12 Tryz.func203 rfl<|Rg 12 (fun w'=>w'.cell? ⟨bm,0,none⟩=some (vP gm 0)∧w'.cell? ⟨bc,0,none⟩=some (vP g 0)) fun A a=>?_
 have i:=ub a hbm
 have j:=ub a hbc
 refine bA ⟨(am i rfl),(am j rfl)⟩ fun b=>Rl 0 b (fun _ hs=>hs.1)<|Rl 1 b (fun _ hs=>hs.1)<|Rl 2 b (fun _ hs=>hs.2)<|Rl 4 b (fun _ hs=>hs.2)<|?_
 refine R0 3 rfl<|Oc<|m3 (bN (ae.old hC a)) fun B v d D=>?_
 have k:=aV d n_bm_g i
 have l:=aV d n_bc_g j
 refine bA ⟨(am k rfl),(am l rfl)⟩ fun E=>R0 5 rfl<|Oc<|m3 (bN v) fun F x e G=>?_
 have m:=aV e n_bm_g k
 have n:=aV e n_bc_g l
 refine bA ⟨(am m rfl),(am n rfl)⟩ fun o=>Rt 6 o<|Rt 7 o<|?_
 have p:=uz a (u1 d e im)
 have q:=aV p (Ne.symm hne) hm
 refine R0 8 rfl<|bD q 2 (mG c 0 C.wordV 0 0 0 0 0 0 0 0 0 nS nS nS nS 0 0 0 0 0 nS) fun H y f=>?_
 have r:=aV f n_bm_gm m
 have s:=aV f n_bc_gm n
 refine bA ⟨(am r rfl),(am s rfl)⟩ fun t=>Rt 9 t<|Rt 10 t<|R0 11 rfl<|bD y 4 (mG c 0 C.wordV 0 ((C.wordsC 1).wordV) 0 0 0 0 0 0 0 nS nS nS nS 0 0 0 0 0 nS) fun I z h=>?_
 refine bA ⟨(am (aV h n_bm_gm r) rfl),(am (aV h n_bc_gm s) rfl)⟩ fun J=>re<|rm (.tuple #[])<|?_
 have hs:dc c C=(((C.wordsC 1).wordsC 1),(b7.mk c 0 C.wordV 0 ((C.wordsC 1).wordV) 0 0 0 0 0 0 0 [] [] [] [] 0 0 0 0 0 [])):=by
   unfold dc
   (try simp only[bq,reduceIte])
   all_goals rfl
 rw[hs]
 have u:=u1 f h im
 exact⟨rfl,(ae.upd x u (aa hne av) (ai (aT q (by decide)) aC)),⟨_,⟨z,rfl⟩,⟨_,_,_,_,_,rfl,aI.nil ..,aI.nil ..,aI.nil ..,aI.nil ..,aI.nil ..,(bT (by omega))⟩⟩,(us p u)⟩
theorem wP{ask:Bool}     (hcode:B8 c)(hC:ae w g C)(hm:w.heap[gm]? = some (.cells (mC c) 45 (0,0)))(hne:g≠gm)    {ba:Nat}(hbc:w.heap[bc]? = some (.cells #[vP g 0] 164 (0,0)))(n_bc_g:bc≠g)(n_bc_gm:bc≠gm)(hbm:w.heap[bm]? = some (.cells #[vP gm 0] 166 (0,0)))(n_bm_g:bm≠g)(n_bm_gm:bm≠gm)(hbw:w.heap[bw]? = some (.cells #[.func (.func 198) #[] #[vP bc 0,vP bm 0]] 218 (0,0)))(n_bw_g:bw≠g)(n_bw_gm:bw≠gm)(hba:w.heap[ba]? = some (.cells #[.bool ask] 4 (0,0)))(n_ba_g:ba≠g)(n_ba_gm:ba≠gm)(hask:ask=true) :
    Calls Tryz.prog 204 #[vP bw 0,vP ba 0,vP bc 0,vP bm 0] w (bQ g gm (cG c C).1 (cG c C).2 w):=by
 obtain⟨hcode1,hcode2⟩:=hcode
 have hlen:=hC.len
 refine en 17 Tryz.func204 rfl<|sg<|aH hbw 0<|L0<|i7 #[] #[vP bc 0,vP bm 0] (args:=#[vI 123,vP bc 0,vP bm 0])<|m3 (gi (most:=123) ⟨hcode1,hcode2⟩ hC hm hne hbc n_bc_g n_bc_gm hbm n_bm_g n_bm_gm) fun B u v k=>?_
 have D:=(hC).wordV
 have E:=bF (c6 (hC).rng 1)
 refine ng<|?_
 refine aH (aE.blk k (aa n_ba_g (aa n_ba_gm av)) hba) 0<|nt<|ct hask<|Rg 11 (fun w'=>w'.cell? ⟨bm,0,none⟩=some (vP gm 0)∧w'.cell? ⟨bc,0,none⟩=some (vP g 0)∧w'.cell? ⟨gm,3,none⟩=some (vW ((C.wordsC 1).wordV))) fun F i=>?_
 have b:=aN k i
 have l:=aE.blk b (aa n_bm_g (aa n_bm_gm av)) hbm
 have m:=aE.blk b (aa n_bc_g (aa n_bc_gm av)) hbc
 have o:=ub i v
 refine bA ⟨(am l rfl),(am m rfl),(am o rfl)⟩ fun a=>Rl 0 a (fun _ hs=>hs.1)<|Rl 1 a (fun _ hs=>hs.2.1)<|Rl 2 a (fun _ hs=>hs.1)<|Rt 3 a<|Rt 4 a<|Rl 5 a (fun _ hs=>hs.2.2)<|Rr 6 a (vI ((C.wordsC 1).wordV)) (fun _ _=>c9 (vI (IntKind.i64.wrap ((C.wordsC 1).wordV))) (by kernel_rfl) (congrArg (Value.int .i64) (i64_in (by omega))))<|?_
 refine R0 7 rfl<|Oc<|lv (iI (n:=(C.wordsC 1).wordV) (ae.old u i) (by omega)) fun y z G p H I A f=>?_
 have q:=aV f n_bm_g l
 have r:=aV f n_bc_g m
 have j:=aV f (Ne.symm hne) o
 refine bA ⟨(am q rfl),(am r rfl),(am j rfl)⟩ fun s=>Rt 8 s<|Rt 9 s<|R0 10 rfl<|bD j 12 (mG c 0 C.wordV ((C.wordsC 1).wordV) 0 0 0 0 0 0 0 0 (.slice y (((cw (bB (C.wordsC 1) C.wordV 123) ((C.wordsC 1).wordV)).wordsR ((C.wordsC 1).wordV)).length) z) nS nS nS 0 0 0 0 0 nS) fun J t d=>?_
 refine bA ⟨(am (aV d n_bm_gm q) rfl),(am (aV d n_bc_gm r) rfl),(am t rfl)⟩ fun K=>re<|rm (.tuple #[])<|?_
 have hs:cG c C=(((cw (bB (C.wordsC 1) C.wordV 123) ((C.wordsC 1).wordV)).wordsC ((C.wordsC 1).wordV)),(b7.mk c 0 C.wordV ((C.wordsC 1).wordV) 0 0 0 0 0 0 0 0 ((cw (bB (C.wordsC 1) C.wordV 123) ((C.wordsC 1).wordV)).wordsR ((C.wordsC 1).wordV)) [] [] [] 0 0 0 0 0 [])):=by
   unfold cG ld
   (try simp only[hask,bq,reduceIte])
   all_goals rfl
 rw[hs]
 exact⟨rfl,(ae.upd A d (aa hne av) (ai (aT j (by decide)) aC)),⟨_,⟨t,rfl⟩,⟨_,_,_,_,_,rfl,(aW.hi (al p d (fun x hx=>(aa (fun e=>(aG (ag hm) b.size p) (e▸hx)) av)) (fun _ _ h=>h)) b.size),aI.nil ..,aI.nil ..,aI.nil ..,aI.nil ..,(bT (by omega))⟩⟩,(ut b (us f d) (ac im (ac im aA)))⟩
theorem x8{ask:Bool}     (hcode:B8 c)(hC:ae w g C)(hm:w.heap[gm]? = some (.cells (mC c) 45 (0,0)))(hne:g≠gm)    {ba:Nat}(hbc:w.heap[bc]? = some (.cells #[vP g 0] 164 (0,0)))(n_bc_g:bc≠g)(n_bc_gm:bc≠gm)(hbm:w.heap[bm]? = some (.cells #[vP gm 0] 166 (0,0)))(n_bm_g:bm≠g)(n_bm_gm:bm≠gm)(hbw:w.heap[bw]? = some (.cells #[.func (.func 198) #[] #[vP bc 0,vP bm 0]] 218 (0,0)))(n_bw_g:bw≠g)(n_bw_gm:bw≠gm)(hba:w.heap[ba]? = some (.cells #[.bool ask] 4 (0,0)))(n_ba_g:ba≠g)(n_ba_gm:ba≠gm)(hask:ask=false) :
    Calls Tryz.prog 204 #[vP bw 0,vP ba 0,vP bc 0,vP bm 0] w (bQ g gm (bO 123 c C).1 (bO 123 c C).2 w):=by
 obtain⟨hcode1,hcode2⟩:=hcode
 have hlen:=hC.len
 refine en 17 Tryz.func204 rfl<|sg<|aH hbw 0<|L0<|i7 #[] #[vP bc 0,vP bm 0] (args:=#[vI 123,vP bc 0,vP bm 0])<|m3 (gi (most:=123) ⟨hcode1,hcode2⟩ hC hm hne hbc n_bc_g n_bc_gm hbm n_bm_g n_bm_gm) fun e b d a=>?_
 have f:=(hC).wordV
 have h:=bF (c6 (hC).rng 1)
 refine ng<|?_
 refine aH (aE.blk a (aa n_ba_g (aa n_ba_gm av)) hba) 0<|nt<|cf hask<|sk<|rm (.tuple #[])<|?_
 have hs:bO 123 c C=((bB (C.wordsC 1) C.wordV 123),(b7.mk c 0 C.wordV ((C.wordsC 1).wordV) 0 0 0 0 0 0 0 0 [] [] [] [] 0 0 0 0 0 [])):=by
   unfold bO
   (try simp only[hask,bq,reduceIte])
   all_goals rfl
 rw[hs]
 exact⟨rfl,b,⟨_,⟨d,rfl⟩,⟨_,_,_,_,_,rfl,aI.nil ..,aI.nil ..,aI.nil ..,aI.nil ..,aI.nil ..,(bT (by omega))⟩⟩,a⟩
theorem xu(hcode:B8 c)(hC:ae w g C)(hm:w.heap[gm]? = some (.cells (mC c) 45 (0,0)))(hne:g≠gm)   (hbc:w.heap[bc]? = some (.cells #[vP g 0] 164 (0,0)))(n_bc_g:bc≠g)(n_bc_gm:bc≠gm)(hbm:w.heap[bm]? = some (.cells #[vP gm 0] 166 (0,0)))(n_bm_g:bm≠g)(n_bm_gm:bm≠gm) :
    Calls Tryz.prog 206 #[vP bc 0,vP bm 0] w (bQ g gm (ck c C).1 (ck c C).2 w):=by
 obtain⟨hcode1,hcode2⟩:=hcode
 have hlen:=hC.len
 refine en 17 Tryz.func206 rfl<|Rg 18 (fun w'=>w'.cell? ⟨bm,0,none⟩=some (vP gm 0)∧w'.cell? ⟨bc,0,none⟩=some (vP g 0)) fun K b=>?_
 have k:=ub b hbm
 have l:=ub b hbc
 refine bA ⟨(am k rfl),(am l rfl)⟩ fun a=>Rl 0 a (fun _ hs=>hs.1)<|Rl 1 a (fun _ hs=>hs.1)<|Rl 2 a (fun _ hs=>hs.1)<|Rl 3 a (fun _ hs=>hs.2)<|Rl 5 a (fun _ hs=>hs.2)<|Rl 7 a (fun _ hs=>hs.2)<|?_
 refine R0 4 rfl<|Oc<|m3 (bN (ae.old hC b)) fun L E d M=>?_
 have m:=aV d n_bm_g k
 have n:=aV d n_bc_g l
 refine bA ⟨(am m rfl),(am n rfl)⟩ fun N=>R0 6 rfl<|Oc<|m3 (bN E) fun O F e P=>?_
 have o:=aV e n_bm_g m
 have p:=aV e n_bc_g n
 refine bA ⟨(am o rfl),(am p rfl)⟩ fun Q=>R0 8 rfl<|Oc<|m3 (bN F) fun R G f S=>?_
 have q:=aV f n_bm_g o
 have r:=aV f n_bc_g p
 refine bA ⟨(am q rfl),(am r rfl)⟩ fun s=>Rt 9 s<|Rt 10 s<|?_
 have t:=uz b (u1 d (u1 e f im) im)
 have u:=aV t (Ne.symm hne) hm
 refine R0 11 rfl<|bD u 2 (mG c 0 C.wordV 0 0 0 0 0 0 0 0 0 nS nS nS nS 0 0 0 0 0 nS) fun T H h=>?_
 have v:=aV h n_bm_gm q
 have x:=aV h n_bc_gm r
 refine bA ⟨(am v rfl),(am x rfl)⟩ fun y=>Rt 12 y<|Rt 13 y<|R0 14 rfl<|bD H 5 (mG c 0 C.wordV 0 0 ((C.wordsC 1).wordV) 0 0 0 0 0 0 nS nS nS nS 0 0 0 0 0 nS) fun U I i=>?_
 have z:=aV i n_bm_gm v
 have A:=aV i n_bc_gm x
 refine bA ⟨(am z rfl),(am A rfl)⟩ fun B=>Rt 15 B<|Rt 16 B<|R0 17 rfl<|bD I 6 (mG c 0 C.wordV 0 0 ((C.wordsC 1).wordV) (((C.wordsC 1).wordsC 1).wordV) 0 0 0 0 0 nS nS nS nS 0 0 0 0 0 nS) fun V J j=>?_
 refine bA ⟨(am (aV j n_bm_gm z) rfl),(am (aV j n_bc_gm A) rfl)⟩ fun W=>re<|rm (.tuple #[])<|?_
 have hs:ck c C=((((C.wordsC 1).wordsC 1).wordsC 1),(b7.mk c 0 C.wordV 0 0 ((C.wordsC 1).wordV) (((C.wordsC 1).wordsC 1).wordV) 0 0 0 0 0 [] [] [] [] 0 0 0 0 0 [])):=by
   unfold ck
   (try simp only[bq,reduceIte])
   all_goals rfl
 rw[hs]
 have D:=u1 h (u1 i j im) im
 exact⟨rfl,(ae.upd G D (aa hne av) (ai (aT u (by decide)) aC)),⟨_,⟨J,rfl⟩,⟨_,_,_,_,_,rfl,aI.nil ..,aI.nil ..,aI.nil ..,aI.nil ..,aI.nil ..,(bT (by omega))⟩⟩,(us t D)⟩
theorem xP(hcode:B8 c)(hC:ae w g C)(hm:w.heap[gm]? = some (.cells (mC c) 45 (0,0)))(hne:g≠gm)    (hbc:w.heap[bc]? = some (.cells #[vP g 0] 164 (0,0)))(n_bc_g:bc≠g)(n_bc_gm:bc≠gm)(hbm:w.heap[bm]? = some (.cells #[vP gm 0] 166 (0,0)))(n_bm_g:bm≠g)(n_bm_gm:bm≠gm)(hbw:w.heap[bw]? = some (.cells #[.func (.func 198) #[] #[vP bc 0,vP bm 0]] 218 (0,0)))(n_bw_g:bw≠g)(n_bw_gm:bw≠gm) :
    Calls Tryz.prog 207 #[vP bw 0,vP bc 0,vP bm 0] w (bQ g gm (cH c C).1 (cH c C).2 w):=by
 obtain⟨hcode1,hcode2⟩:=hcode
 have hlen:=hC.len
 refine en 21 Tryz.func207 rfl<|sg<|aH hbw 0<|L0<|i7 #[] #[vP bc 0,vP bm 0] (args:=#[vI 125,vP bc 0,vP bm 0])<|m3 (gi (most:=125) ⟨hcode1,hcode2⟩ hC hm hne hbc n_bc_g n_bc_gm hbm n_bm_g n_bm_gm) fun X P Q o=>?_
 have Y:=(hC).wordV
 have Z:=bF (c6 (hC).rng 1)
 refine nt<|sq<|Rg 6 (fun w'=>w'.cell? ⟨bm,0,none⟩=some (vP gm 0)∧w'.cell? ⟨bc,0,none⟩=some (vP g 0)) fun a0 j=>?_
 have p:=aN o j
 have r:=aE.blk p (aa n_bm_g (aa n_bm_gm av)) hbm
 have s:=aE.blk p (aa n_bc_g (aa n_bc_gm av)) hbc
 refine bA ⟨(am r rfl),(am s rfl)⟩ fun t=>Rl 0 t (fun _ hs=>hs.1)<|Rl 1 t (fun _ hs=>hs.2)<|?_
 refine R0 2 rfl<|Oc<|m3 (bN (ae.old P j)) fun a1 R d a2=>?_
 have u:=aV d n_bm_g r
 have v:=aV d n_bc_g s
 refine bA ⟨(am u rfl),(am v rfl)⟩ fun y=>Rt 3 y<|Rt 4 y<|?_
 have z:=aV (uz j d) (Ne.symm hne) Q
 refine R0 5 rfl<|bD z 7 (mG c 0 C.wordV ((C.wordsC 1).wordV) 0 0 0 ((bB (C.wordsC 1) C.wordV 125).wordV) 0 0 0 0 nS nS nS nS 0 0 0 0 0 nS) fun a3 S k=>?_
 have A:=aV k n_bm_gm u
 have B:=aV k n_bc_gm v
 refine bA ⟨(am A rfl),(am B rfl)⟩ fun a4=>re<|tn<|Rg 12 (fun w'=>w'.cell? ⟨bm,0,none⟩=some (vP gm 0)∧w'.cell? ⟨bc,0,none⟩=some (vP g 0)∧w'.cell? ⟨gm,7,none⟩=some (vW ((bB (C.wordsC 1) C.wordV 125).wordV))) fun a5 f=>?_
 have D:=ub f A
 have E:=ub f B
 have F:=ub f S
 refine bA ⟨(am D rfl),(am E rfl),(am F rfl)⟩ fun b=>Rl 0 b (fun _ hs=>hs.1)<|Rl 1 b (fun _ hs=>hs.2.1)<|Rl 2 b (fun _ hs=>hs.2.1)<|Rl 3 b (fun _ hs=>hs.1)<|Rt 4 b<|Rt 5 b<|Rl 6 b (fun _ hs=>hs.2.2)<|?_
 have G:=aN k f
 refine R0 7 rfl<|Oc<|m3 (kv (a:=(bB (C.wordsC 1) C.wordV 125).wordV) (most:=121) (ae.upd R G (aa hne av) (ai (aT z (by decide)) aC)) (by omega)) fun a6 T i a7=>?_
 have H:=aV i n_bm_g D
 have I:=aV i n_bc_g E
 have J:=aV i (Ne.symm hne) F
 refine bA ⟨(am H rfl),(am I rfl),(am J rfl)⟩ fun a8=>R0 8 rfl<|Oc<|lv (iI (n:=((bB (C.wordsC 1) C.wordV 125).wordsC 1).wordV) T (by omega)) fun U V a9 K ab ad W m=>?_
 have L:=aV m n_bm_g H
 have M:=aV m n_bc_g I
 have q:=aV m (Ne.symm hne) J
 refine bA ⟨(am L rfl),(am M rfl),(am q rfl)⟩ fun N=>Rt 9 N<|Rt 10 N<|R0 11 rfl<|bD q 12 (mG c 0 C.wordV ((C.wordsC 1).wordV) 0 0 0 ((bB (C.wordsC 1) C.wordV 125).wordV) 0 0 0 0 (.slice U (((cw (bB ((bB (C.wordsC 1) C.wordV 125).wordsC 1) ((bB (C.wordsC 1) C.wordV 125).wordV) 121) (((bB (C.wordsC 1) C.wordV 125).wordsC 1).wordV)).wordsR (((bB (C.wordsC 1) C.wordV 125).wordsC 1).wordV)).length) V) nS nS nS 0 0 0 0 0 nS) fun af O l=>?_
 refine bA ⟨(am (aV l n_bm_gm L) rfl),(am (aV l n_bc_gm M) rfl),(am O rfl)⟩ fun aj=>re<|rm (.tuple #[])<|?_
 have hs:cH c C=(((cw (bB ((bB (C.wordsC 1) C.wordV 125).wordsC 1) ((bB (C.wordsC 1) C.wordV 125).wordV) 121) (((bB (C.wordsC 1) C.wordV 125).wordsC 1).wordV)).wordsC (((bB (C.wordsC 1) C.wordV 125).wordsC 1).wordV)),(b7.mk c 0 C.wordV ((C.wordsC 1).wordV) 0 0 0 ((bB (C.wordsC 1) C.wordV 125).wordV) 0 0 0 0 ((cw (bB ((bB (C.wordsC 1) C.wordV 125).wordsC 1) ((bB (C.wordsC 1) C.wordV 125).wordV) 121) (((bB (C.wordsC 1) C.wordV 125).wordsC 1).wordV)).wordsR (((bB (C.wordsC 1) C.wordV 125).wordsC 1).wordV)) [] [] [] 0 0 0 0 0 [])):=by
   unfold cH l8 qZ ku
   (try simp only[bq,reduceIte])
   all_goals rfl
 rw[hs]
 exact⟨rfl,(ae.upd W l (aa hne av) (ai (aT q (by decide)) aC)),⟨_,⟨O,rfl⟩,⟨_,_,_,_,_,rfl,(aW.hi (al K l (fun x hx=>(aa (fun e=>(aG (ag hm) (le (le (le (le (le o.size j.size) d.size) k.size) f.size) i.size) K) (e▸hx)) av)) (fun _ _ h=>h)) (le (le (le (le (le o.size j.size) d.size) k.size) f.size) i.size)),aI.nil ..,aI.nil ..,aI.nil ..,aI.nil ..,(bT (by omega))⟩⟩,(ut p (ui d (ui G (ui i (us m l)))) (ac im (ac im aA)))⟩
theorem xD(hcode:B8 c)(hC:ae w g C)(hm:w.heap[gm]? = some (.cells (mC c) 45 (0,0)))(hne:g≠gm)   (hbc:w.heap[bc]? = some (.cells #[vP g 0] 164 (0,0)))(n_bc_g:bc≠g)(n_bc_gm:bc≠gm)(hbm:w.heap[bm]? = some (.cells #[vP gm 0] 166 (0,0)))(n_bm_g:bm≠g)(n_bm_gm:bm≠gm) :
    Calls Tryz.prog 208 #[vP bc 0,vP bm 0] w (bQ g gm (cI c C).1 (cI c C).2 w):=by
 obtain⟨hcode1,hcode2⟩:=hcode
 have hlen:=hC.len
 refine en 7 Tryz.func208 rfl<|Rg 6 (fun w'=>w'.cell? ⟨bm,0,none⟩=some (vP gm 0)∧w'.cell? ⟨bc,0,none⟩=some (vP g 0)) fun p a=>?_
 have e:=ub a hbm
 have f:=ub a hbc
 refine bA ⟨(am e rfl),(am f rfl)⟩ fun h=>Rl 0 h (fun _ hs=>hs.1)<|Rl 1 h (fun _ hs=>hs.2)<|?_
 refine R0 2 rfl<|Oc<|m3 (bN (ae.old hC a)) fun q n d r=>?_
 have i:=aV d n_bm_g e
 have j:=aV d n_bc_g f
 refine bA ⟨(am i rfl),(am j rfl)⟩ fun k=>Rt 3 k<|Rt 4 k<|?_
 have l:=uz a d
 have m:=aV l (Ne.symm hne) hm
 refine R0 5 rfl<|bD m 2 (mG c 0 C.wordV 0 0 0 0 0 0 0 0 0 nS nS nS nS 0 0 0 0 0 nS) fun s o b=>?_
 refine bA ⟨(am (aV b n_bm_gm i) rfl),(am (aV b n_bc_gm j) rfl)⟩ fun t=>re<|rm (.tuple #[])<|?_
 have hs:cI c C=((C.wordsC 1),(b7.mk c 0 C.wordV 0 0 0 0 0 0 0 0 0 [] [] [] [] 0 0 0 0 0 [])):=by
   unfold cI
   (try simp only[bq,reduceIte])
   all_goals rfl
 rw[hs]
 exact⟨rfl,(ae.upd n b (aa hne av) (ai (aT m (by decide)) aC)),⟨_,⟨o,rfl⟩,⟨_,_,_,_,_,rfl,aI.nil ..,aI.nil ..,aI.nil ..,aI.nil ..,aI.nil ..,(bT (by omega))⟩⟩,(us l b)⟩
theorem xC(hcode:B8 c)(hC:ae w g C)(hm:w.heap[gm]? = some (.cells (mC c) 45 (0,0)))(hne:g≠gm)   (hbc:w.heap[bc]? = some (.cells #[vP g 0] 164 (0,0)))(n_bc_g:bc≠g)(n_bc_gm:bc≠gm)(hbm:w.heap[bm]? = some (.cells #[vP gm 0] 166 (0,0)))(n_bm_g:bm≠g)(n_bm_gm:bm≠gm) :
    Calls Tryz.prog 209 #[vP bc 0,vP bm 0] w (bQ g gm (jQ c C).1 (jQ c C).2 w):=by
 obtain⟨hcode1,hcode2⟩:=hcode
 have hlen:=hC.len
 refine en 36 Tryz.func209 rfl<|sg<|aH hbc 0<|ax<|m3 (bN hC) fun S D i T=>be C.wordV<|Pl 1<|ng<|?_
 have j:=aV i n_bc_g hbc
 refine aH j 0<|Pl 1<|L0<|Oe (vI (Int.tmod C.wordV 2)) (vI (C.wordV%2)) (congrArg (Value.int .i64) (Int.tmod_eq_emod_of_nonneg (by omega)))<|Pl 2<|cY 3 [11] 14 11 ((C.wordV%2)==0) (decide (2≤C.wordV)) (fun K E F=>?_) ?_
 have U:=ak F
 exact Pl 3<|ce E _ rfl
 refine Pl 1<|cY 3 [15] 18 15 (((C.wordV%2)==0)&&(decide (2≤C.wordV))) (decide (C.wordV≤64)) (fun K G k=>?_) ?_
 have H:=(aS k).1
 have I:=(aS k).2
 have V:=ak H
 have W:=of_decide_eq_true I
 exact Pl 3<|ce G _ rfl
 refine ax<|m2 (aY (((((C.wordV%2)==0)&&(decide (2≤C.wordV)))&&(decide (C.wordV≤64)))) 5 D) fun X J l=>ng<|?_
 have m:=aV l n_bc_g j
 refine aH m 0<|ax<|m3 (bN J) fun Y L o Z=>be (((C.wordsC 1).need ((((C.wordV%2)==0)&&(decide (2≤C.wordV)))&&(decide (C.wordV≤64))) 5).wordV)<|Pl 1<|ng<|?_
 have p:=aV o n_bc_g m
 refine aH p 0<|Pl 1<|be (2*(((C.wordsC 1).need ((((C.wordV%2)==0)&&(decide (2≤C.wordV)))&&(decide (C.wordV≤64))) 5).wordV))<|be (2+(2*(((C.wordsC 1).need ((((C.wordV%2)==0)&&(decide (2≤C.wordV)))&&(decide (C.wordV≤64))) 5).wordV)))<|Pl 2<|ax<|m2 (aY (((2+(2*(((C.wordsC 1).need ((((C.wordV%2)==0)&&(decide (2≤C.wordV)))&&(decide (C.wordV≤64))) 5).wordV)))==C.wordV)) 5 L) fun a0 M N=>nt<|Rg 7 (fun w'=>w'.cell? ⟨bm,0,none⟩=some (vP gm 0)∧w'.cell? ⟨bc,0,none⟩=some (vP g 0)) fun a1 q=>?_
 have r:=aN N q
 have b:=u1 i (u1 l (u1 o r im) im) im
 have s:=aV b n_bm_g hbm
 have t:=aV r n_bc_g p
 refine bA ⟨(am s rfl),(am t rfl)⟩ fun d=>Rl 0 d (fun _ hs=>hs.1)<|Rl 1 d (fun _ hs=>hs.2)<|Rt 2 d<|?_
 refine R0 3 rfl<|Oc<|lv (dt (n:=((C.wordsC 1).need ((((C.wordV%2)==0)&&(decide (2≤C.wordV)))&&(decide (C.wordV≤64))) 5).wordV) (ae.old M q)) fun O P a2 u a3 a4 Q f=>?_
 have v:=aV f n_bm_g s
 have y:=aV f n_bc_g t
 refine bA ⟨(am v rfl),(am y rfl)⟩ fun z=>Rt 4 z<|Rt 5 z<|?_
 have A:=u1 b f im
 have B:=aV A (Ne.symm hne) hm
 refine R0 6 rfl<|bD B 12 (mG c 0 0 0 0 0 0 0 0 0 0 0 (.slice O ((((((C.wordsC 1).need ((((C.wordV%2)==0)&&(decide (2≤C.wordV)))&&(decide (C.wordV≤64))) 5).wordsC 1).need ((2+(2*(((C.wordsC 1).need ((((C.wordV%2)==0)&&(decide (2≤C.wordV)))&&(decide (C.wordV≤64))) 5).wordV)))==C.wordV) 5).wordsR (((C.wordsC 1).need ((((C.wordV%2)==0)&&(decide (2≤C.wordV)))&&(decide (C.wordV≤64))) 5).wordV)).length) P) nS nS nS 0 0 0 0 0 nS) fun a5 R a=>?_
 refine bA ⟨(am (aV a n_bm_gm v) rfl),(am (aV a n_bc_gm y) rfl)⟩ fun a6=>re<|rm (.tuple #[])<|?_
 exact cZ (by unfold jQ wi vj ip;(try simp only[bq,reduceIte])<;>rfl) ⟨rfl,(ae.upd Q a (aa hne av) (ai (aT B (by decide)) aC)),⟨_,⟨R,rfl⟩,⟨_,_,_,_,_,rfl,(aW.hi (al u a (fun x hx=>(aa (fun e=>(aG (ag hm) b.size u) (e▸hx)) av)) (fun _ _ h=>h)) b.size),aI.nil ..,aI.nil ..,aI.nil ..,aI.nil ..,(bT (by omega))⟩⟩,(us A a)⟩
open Go.RowKit
theorem pa(hC:ae w g C)(hm:w.heap[gm]? = some (.cells (mC 3) 45 (0,0)))(hne:g≠gm) : Calls Tryz.prog 148 #[vI 0,vP gm 0,vP g 0] w (gL (fun W=>bQ g gm (bO 125 3 C).1 (bO 125 3 C).2 W) w):=by
 refine en 67 Tryz.func148 rfl<|sg<|L0<|dF #[vP gm 0] fun n D f o a=>L0<|dF #[vP g 0] fun p E h q b=>Pl 1<|aL 1<|aK #[.nilFunc] fun r F d s t=>L0<|bD s 0 #[.func (.func 198) #[] #[vP p 0,vP n 0]] fun G u v=>nl<|tn<|aq 2<|aK #[.bool false] fun H I x y z=>L0<|bD y 0 #[.bool true] fun J A B=>nt<|sq<|sg<|?_
 have i:=ud z B x
 have j:=ud t (aN v i) d
 have k:=aN b j
 have l:=ub k o
 refine aH l 0<|Pl 2<|?_
 have e:=aN a k
 have m:=ub e hm
 refine aH m 0<|ap 1<|bk<|sg<|aH A 0<|ap 9<|c1<|az 2<|rt<|br<|tr<|rr (.func (.func 200) #[] #[vP r 0])<|?_
 exact⟨_,_,rfl,by kernel_rfl,e,xl (c:=3) ⟨by decide,by decide⟩ (ae.old hC e) m hne (ub j q) (Ne.symm (nb (ae.lt hC) a.size h)) (Ne.symm (nb (ag hm) a.size h)) l (Ne.symm (nb (ae.lt hC) lr f)) (Ne.symm (nb (ag hm) lr f)) (ub i u) (Ne.symm (nb (ae.lt hC) (le a.size b.size) d)) (Ne.symm (nb (ag hm) (le a.size b.size) d))⟩
theorem pi(hC:ae w g C)(hm:w.heap[gm]? = some (.cells (mC 4) 45 (0,0)))(hne:g≠gm) : Calls Tryz.prog 148 #[vI 0,vP gm 0,vP g 0] w (gL (fun W=>bQ g gm (bO 125 4 C).1 (bO 125 4 C).2 W) w):=by
 refine en 67 Tryz.func148 rfl<|sg<|L0<|dF #[vP gm 0] fun n D f o a=>L0<|dF #[vP g 0] fun p E h q b=>Pl 1<|aL 1<|aK #[.nilFunc] fun r F d s t=>L0<|bD s 0 #[.func (.func 198) #[] #[vP p 0,vP n 0]] fun G u v=>nl<|tn<|aq 2<|aK #[.bool false] fun H I x y z=>L0<|bD y 0 #[.bool true] fun J A B=>nt<|sq<|sg<|?_
 have i:=ud z B x
 have j:=ud t (aN v i) d
 have k:=aN b j
 have l:=ub k o
 refine aH l 0<|Pl 2<|?_
 have e:=aN a k
 have m:=ub e hm
 refine aH m 0<|ap 1<|bk<|sg<|aH A 0<|ap 9<|c1<|az 2<|rt<|br<|tr<|rr (.func (.func 200) #[] #[vP r 0])<|?_
 exact⟨_,_,rfl,by kernel_rfl,e,xl (c:=4) ⟨by decide,by decide⟩ (ae.old hC e) m hne (ub j q) (Ne.symm (nb (ae.lt hC) a.size h)) (Ne.symm (nb (ag hm) a.size h)) l (Ne.symm (nb (ae.lt hC) lr f)) (Ne.symm (nb (ag hm) lr f)) (ub i u) (Ne.symm (nb (ae.lt hC) (le a.size b.size) d)) (Ne.symm (nb (ag hm) (le a.size b.size) d))⟩
theorem p7(hC:ae w g C)(hm:w.heap[gm]? = some (.cells (mC 3) 45 (0,0)))(hne:g≠gm) : Calls Tryz.prog 148 #[vI 1,vP gm 0,vP g 0] w (gL (fun W=>bQ g gm (c3 3 C).1 (c3 3 C).2 W) w):=by
 refine en 67 Tryz.func148 rfl<|sg<|L0<|dF #[vP gm 0] fun d z e m a=>L0<|dF #[vP g 0] fun f A h n o=>Pl 1<|aL 1<|aK #[.nilFunc] fun B D p q r=>L0<|bD q 0 #[.func (.func 198) #[] #[vP f 0,vP d 0]] fun E F s=>nl<|tn<|aq 2<|aK #[.bool false] fun G H t u v=>L0<|bD u 0 #[.bool false] fun I x y=>nt<|sq<|sg<|?_
 have i:=ud r (aN s (ud v y t)) p
 have j:=aN o i
 have k:=ub j m
 refine aH k 0<|Pl 2<|?_
 have b:=aN a j
 have l:=ub b hm
 refine aH l 0<|ap 1<|bk<|sg<|aH x 0<|ap 9<|c0<|sq<|sq<|go<|ap 3<|c1<|bz<|c1<|az 2<|rt<|br<|tr<|rr (.func (.func 201) #[] #[vP f 0,vP d 0])<|?_
 exact⟨_,_,rfl,by kernel_rfl,b,wX (c:=3) ⟨by decide,by decide⟩ (ae.old hC b) l hne (ub i n) (Ne.symm (nb (ae.lt hC) a.size h)) (Ne.symm (nb (ag hm) a.size h)) k (Ne.symm (nb (ae.lt hC) lr e)) (Ne.symm (nb (ag hm) lr e))⟩
theorem p6(hC:ae w g C)(hm:w.heap[gm]? = some (.cells (mC 4) 45 (0,0)))(hne:g≠gm) : Calls Tryz.prog 148 #[vI 1,vP gm 0,vP g 0] w (gL (fun W=>bQ g gm (c3 4 C).1 (c3 4 C).2 W) w):=by
 refine en 67 Tryz.func148 rfl<|sg<|L0<|dF #[vP gm 0] fun d z e m a=>L0<|dF #[vP g 0] fun f A h n o=>Pl 1<|aL 1<|aK #[.nilFunc] fun B D p q r=>L0<|bD q 0 #[.func (.func 198) #[] #[vP f 0,vP d 0]] fun E F s=>nl<|tn<|aq 2<|aK #[.bool false] fun G H t u v=>L0<|bD u 0 #[.bool false] fun I x y=>nt<|sq<|sg<|?_
 have i:=ud r (aN s (ud v y t)) p
 have j:=aN o i
 have k:=ub j m
 refine aH k 0<|Pl 2<|?_
 have b:=aN a j
 have l:=ub b hm
 refine aH l 0<|ap 1<|bk<|sg<|aH x 0<|ap 9<|c0<|sq<|sq<|go<|ap 3<|c0<|az 3<|c1<|bz<|c1<|az 2<|rt<|br<|tr<|rr (.func (.func 201) #[] #[vP f 0,vP d 0])<|?_
 exact⟨_,_,rfl,by kernel_rfl,b,wX (c:=4) ⟨by decide,by decide⟩ (ae.old hC b) l hne (ub i n) (Ne.symm (nb (ae.lt hC) a.size h)) (Ne.symm (nb (ag hm) a.size h)) k (Ne.symm (nb (ae.lt hC) lr e)) (Ne.symm (nb (ag hm) lr e))⟩
theorem q4(hC:ae w g C)(hm:w.heap[gm]? = some (.cells (mC 6) 45 (0,0)))(hne:g≠gm) : Calls Tryz.prog 148 #[vI 0,vP gm 0,vP g 0] w (gL (fun W=>bQ g gm (dc 6 C).1 (dc 6 C).2 W) w):=by
 refine en 67 Tryz.func148 rfl<|sg<|L0<|dF #[vP gm 0] fun d z e m a=>L0<|dF #[vP g 0] fun f A h n o=>Pl 1<|aL 1<|aK #[.nilFunc] fun B D p q r=>L0<|bD q 0 #[.func (.func 198) #[] #[vP f 0,vP d 0]] fun E F s=>nl<|tn<|aq 2<|aK #[.bool false] fun G H t u v=>L0<|bD u 0 #[.bool true] fun I x y=>nt<|sq<|sg<|?_
 have i:=ud r (aN s (ud v y t)) p
 have j:=aN o i
 have k:=ub j m
 refine aH k 0<|Pl 2<|?_
 have b:=aN a j
 have l:=ub b hm
 refine aH l 0<|ap 1<|bk<|sg<|aH x 0<|ap 9<|c0<|sq<|sq<|go<|ap 3<|c0<|az 3<|c0<|go<|Pl 7<|nl<|tn<|c0<|az 3<|c1<|az 2<|rt<|br<|tr<|rr (.func (.func 203) #[] #[vP f 0,vP d 0])<|?_
 exact⟨_,_,rfl,by kernel_rfl,b,xy (c:=6) ⟨by decide,by decide⟩ (ae.old hC b) l hne (ub i n) (Ne.symm (nb (ae.lt hC) a.size h)) (Ne.symm (nb (ag hm) a.size h)) k (Ne.symm (nb (ae.lt hC) lr e)) (Ne.symm (nb (ag hm) lr e))⟩
theorem p4(hC:ae w g C)(hm:w.heap[gm]? = some (.cells (mC 6) 45 (0,0)))(hne:g≠gm) : Calls Tryz.prog 148 #[vI 1,vP gm 0,vP g 0] w (gL (fun W=>bQ g gm (dc 6 C).1 (dc 6 C).2 W) w):=by
 refine en 67 Tryz.func148 rfl<|sg<|L0<|dF #[vP gm 0] fun d z e m a=>L0<|dF #[vP g 0] fun f A h n o=>Pl 1<|aL 1<|aK #[.nilFunc] fun B D p q r=>L0<|bD q 0 #[.func (.func 198) #[] #[vP f 0,vP d 0]] fun E F s=>nl<|tn<|aq 2<|aK #[.bool false] fun G H t u v=>L0<|bD u 0 #[.bool false] fun I x y=>nt<|sq<|sg<|?_
 have i:=ud r (aN s (ud v y t)) p
 have j:=aN o i
 have k:=ub j m
 refine aH k 0<|Pl 2<|?_
 have b:=aN a j
 have l:=ub b hm
 refine aH l 0<|ap 1<|bk<|sg<|aH x 0<|ap 9<|c0<|sq<|sq<|go<|ap 3<|c0<|az 3<|c0<|go<|Pl 7<|nl<|tn<|c0<|az 3<|c1<|az 2<|rt<|br<|tr<|rr (.func (.func 203) #[] #[vP f 0,vP d 0])<|?_
 exact⟨_,_,rfl,by kernel_rfl,b,xy (c:=6) ⟨by decide,by decide⟩ (ae.old hC b) l hne (ub i n) (Ne.symm (nb (ae.lt hC) a.size h)) (Ne.symm (nb (ag hm) a.size h)) k (Ne.symm (nb (ae.lt hC) lr e)) (Ne.symm (nb (ag hm) lr e))⟩
theorem o3(hC:ae w g C)(hm:w.heap[gm]? = some (.cells (mC 16) 45 (0,0)))(hne:g≠gm) : Calls Tryz.prog 148 #[vI 0,vP gm 0,vP g 0] w (gL (fun W=>bQ g gm (cG 16 C).1 (cG 16 C).2 W) w):=by
 refine en 67 Tryz.func148 rfl<|sg<|L0<|dF #[vP gm 0] fun j E k t a=>L0<|dF #[vP g 0] fun l F m u b=>Pl 1<|aL 1<|aK #[.nilFunc] fun v G d x e=>L0<|bD x 0 #[.func (.func 198) #[] #[vP l 0,vP j 0]] fun H y f=>nl<|tn<|aq 2<|aK #[.bool false] fun z I h A B=>L0<|bD A 0 #[.bool true] fun J n D=>nt<|sq<|sg<|?_
 have o:=ud B D h
 have p:=ud e (aN f o) d
 have q:=aN b p
 have r:=ub q t
 refine aH r 0<|Pl 2<|?_
 have i:=aN a q
 have s:=ub i hm
 refine aH s 0<|ap 1<|bk<|sg<|aH n 0<|ap 9<|c0<|sq<|sq<|go<|ap 3<|c0<|az 3<|c0<|go<|Pl 7<|nl<|tn<|c0<|az 3<|c0<|az 3<|c1<|az 2<|rt<|br<|tr<|rr (.func (.func 204) #[] #[vP v 0,vP z 0,vP l 0,vP j 0])<|?_
 exact⟨_,_,rfl,by kernel_rfl,i,wP (c:=16) ⟨by decide,by decide⟩ (ae.old hC i) s hne (ub p u) (Ne.symm (nb (ae.lt hC) a.size m)) (Ne.symm (nb (ag hm) a.size m)) r (Ne.symm (nb (ae.lt hC) lr k)) (Ne.symm (nb (ag hm) lr k)) (ub o y) (Ne.symm (nb (ae.lt hC) (le a.size b.size) d)) (Ne.symm (nb (ag hm) (le a.size b.size) d)) n (Ne.symm (nb (ae.lt hC) (le (le (le a.size b.size) e.size) f.size) h)) (Ne.symm (nb (ag hm) (le (le (le a.size b.size) e.size) f.size) h)) rfl⟩
theorem nh(hC:ae w g C)(hm:w.heap[gm]? = some (.cells (mC 16) 45 (0,0)))(hne:g≠gm) : Calls Tryz.prog 148 #[vI 1,vP gm 0,vP g 0] w (gL (fun W=>bQ g gm (bO 123 16 C).1 (bO 123 16 C).2 W) w):=by
 refine en 67 Tryz.func148 rfl<|sg<|L0<|dF #[vP gm 0] fun j E k t a=>L0<|dF #[vP g 0] fun l F m u b=>Pl 1<|aL 1<|aK #[.nilFunc] fun v G d x e=>L0<|bD x 0 #[.func (.func 198) #[] #[vP l 0,vP j 0]] fun H y f=>nl<|tn<|aq 2<|aK #[.bool false] fun z I h A B=>L0<|bD A 0 #[.bool false] fun J n D=>nt<|sq<|sg<|?_
 have o:=ud B D h
 have p:=ud e (aN f o) d
 have q:=aN b p
 have r:=ub q t
 refine aH r 0<|Pl 2<|?_
 have i:=aN a q
 have s:=ub i hm
 refine aH s 0<|ap 1<|bk<|sg<|aH n 0<|ap 9<|c0<|sq<|sq<|go<|ap 3<|c0<|az 3<|c0<|go<|Pl 7<|nl<|tn<|c0<|az 3<|c0<|az 3<|c1<|az 2<|rt<|br<|tr<|rr (.func (.func 204) #[] #[vP v 0,vP z 0,vP l 0,vP j 0])<|?_
 exact⟨_,_,rfl,by kernel_rfl,i,x8 (c:=16) ⟨by decide,by decide⟩ (ae.old hC i) s hne (ub p u) (Ne.symm (nb (ae.lt hC) a.size m)) (Ne.symm (nb (ag hm) a.size m)) r (Ne.symm (nb (ae.lt hC) lr k)) (Ne.symm (nb (ag hm) lr k)) (ub o y) (Ne.symm (nb (ae.lt hC) (le a.size b.size) d)) (Ne.symm (nb (ag hm) (le a.size b.size) d)) n (Ne.symm (nb (ae.lt hC) (le (le (le a.size b.size) e.size) f.size) h)) (Ne.symm (nb (ag hm) (le (le (le a.size b.size) e.size) f.size) h)) rfl⟩
theorem nA(hC:ae w g C)(hm:w.heap[gm]? = some (.cells (mC 22) 45 (0,0)))(hne:g≠gm) : Calls Tryz.prog 148 #[vI 0,vP gm 0,vP g 0] w (gL (fun W=>bQ g gm (ck 22 C).1 (ck 22 C).2 W) w):=by
 refine en 67 Tryz.func148 rfl<|sg<|L0<|dF #[vP gm 0] fun d z e m a=>L0<|dF #[vP g 0] fun f A h n o=>Pl 1<|aL 1<|aK #[.nilFunc] fun B D p q r=>L0<|bD q 0 #[.func (.func 198) #[] #[vP f 0,vP d 0]] fun E F s=>nl<|tn<|aq 2<|aK #[.bool false] fun G H t u v=>L0<|bD u 0 #[.bool true] fun I x y=>nt<|sq<|sg<|?_
 have i:=ud r (aN s (ud v y t)) p
 have j:=aN o i
 have k:=ub j m
 refine aH k 0<|Pl 2<|?_
 have b:=aN a j
 have l:=ub b hm
 refine aH l 0<|ap 1<|bk<|sg<|aH x 0<|ap 9<|c0<|sq<|sq<|go<|ap 3<|c0<|az 3<|c0<|go<|Pl 7<|nl<|tn<|c0<|az 3<|c0<|az 3<|c0<|az 3<|c1<|az 2<|rt<|br<|tr<|rr (.func (.func 206) #[] #[vP f 0,vP d 0])<|?_
 exact⟨_,_,rfl,by kernel_rfl,b,xu (c:=22) ⟨by decide,by decide⟩ (ae.old hC b) l hne (ub i n) (Ne.symm (nb (ae.lt hC) a.size h)) (Ne.symm (nb (ag hm) a.size h)) k (Ne.symm (nb (ae.lt hC) lr e)) (Ne.symm (nb (ag hm) lr e))⟩
theorem nU(hC:ae w g C)(hm:w.heap[gm]? = some (.cells (mC 22) 45 (0,0)))(hne:g≠gm) : Calls Tryz.prog 148 #[vI 1,vP gm 0,vP g 0] w (gL (fun W=>bQ g gm (ck 22 C).1 (ck 22 C).2 W) w):=by
 refine en 67 Tryz.func148 rfl<|sg<|L0<|dF #[vP gm 0] fun d z e m a=>L0<|dF #[vP g 0] fun f A h n o=>Pl 1<|aL 1<|aK #[.nilFunc] fun B D p q r=>L0<|bD q 0 #[.func (.func 198) #[] #[vP f 0,vP d 0]] fun E F s=>nl<|tn<|aq 2<|aK #[.bool false] fun G H t u v=>L0<|bD u 0 #[.bool false] fun I x y=>nt<|sq<|sg<|?_
 have i:=ud r (aN s (ud v y t)) p
 have j:=aN o i
 have k:=ub j m
 refine aH k 0<|Pl 2<|?_
 have b:=aN a j
 have l:=ub b hm
 refine aH l 0<|ap 1<|bk<|sg<|aH x 0<|ap 9<|c0<|sq<|sq<|go<|ap 3<|c0<|az 3<|c0<|go<|Pl 7<|nl<|tn<|c0<|az 3<|c0<|az 3<|c0<|az 3<|c1<|az 2<|rt<|br<|tr<|rr (.func (.func 206) #[] #[vP f 0,vP d 0])<|?_
 exact⟨_,_,rfl,by kernel_rfl,b,xu (c:=22) ⟨by decide,by decide⟩ (ae.old hC b) l hne (ub i n) (Ne.symm (nb (ae.lt hC) a.size h)) (Ne.symm (nb (ag hm) a.size h)) k (Ne.symm (nb (ae.lt hC) lr e)) (Ne.symm (nb (ag hm) lr e))⟩
theorem o4(hC:ae w g C)(hm:w.heap[gm]? = some (.cells (mC 23) 45 (0,0)))(hne:g≠gm) : Calls Tryz.prog 148 #[vI 0,vP gm 0,vP g 0] w (gL (fun W=>bQ g gm (cH 23 C).1 (cH 23 C).2 W) w):=by
 refine en 67 Tryz.func148 rfl<|sg<|L0<|dF #[vP gm 0] fun f D h q a=>L0<|dF #[vP g 0] fun i E j r b=>Pl 1<|aL 1<|aK #[.nilFunc] fun s F d t u=>L0<|bD t 0 #[.func (.func 198) #[] #[vP i 0,vP f 0]] fun G v x=>nl<|tn<|aq 2<|aK #[.bool false] fun H I y z A=>L0<|bD z 0 #[.bool true] fun J k B=>nt<|sq<|sg<|?_
 have l:=ud A B y
 have m:=ud u (aN x l) d
 have n:=aN b m
 have o:=ub n q
 refine aH o 0<|Pl 2<|?_
 have e:=aN a n
 have p:=ub e hm
 refine aH p 0<|ap 1<|bk<|sg<|aH k 0<|ap 9<|c0<|sq<|sq<|go<|ap 3<|c0<|az 3<|c0<|go<|Pl 3<|L1<|cS k 0<|ap 3<|c0<|az 3<|c0<|aq 3<|nl<|tn<|c0<|az 3<|c0<|az 3<|c1<|az 2<|rt<|br<|tr<|rr (.func (.func 207) #[] #[vP s 0,vP i 0,vP f 0])<|?_
 exact⟨_,_,rfl,by kernel_rfl,e,xP (c:=23) ⟨by decide,by decide⟩ (ae.old hC e) p hne (ub m r) (Ne.symm (nb (ae.lt hC) a.size j)) (Ne.symm (nb (ag hm) a.size j)) o (Ne.symm (nb (ae.lt hC) lr h)) (Ne.symm (nb (ag hm) lr h)) (ub l v) (Ne.symm (nb (ae.lt hC) (le a.size b.size) d)) (Ne.symm (nb (ag hm) (le a.size b.size) d))⟩
theorem nF(hC:ae w g C)(hm:w.heap[gm]? = some (.cells (mC 23) 45 (0,0)))(hne:g≠gm) : Calls Tryz.prog 148 #[vI 1,vP gm 0,vP g 0] w (gL (fun W=>bQ g gm (c3 23 C).1 (c3 23 C).2 W) w):=by
 refine en 67 Tryz.func148 rfl<|sg<|L0<|dF #[vP gm 0] fun d z e n a=>L0<|dF #[vP g 0] fun f A h o p=>Pl 1<|aL 1<|aK #[.nilFunc] fun B D q r s=>L0<|bD r 0 #[.func (.func 198) #[] #[vP f 0,vP d 0]] fun E F t=>nl<|tn<|aq 2<|aK #[.bool false] fun G H u v x=>L0<|bD v 0 #[.bool false] fun I i y=>nt<|sq<|sg<|?_
 have j:=ud s (aN t (ud x y u)) q
 have k:=aN p j
 have l:=ub k n
 refine aH l 0<|Pl 2<|?_
 have b:=aN a k
 have m:=ub b hm
 refine aH m 0<|ap 1<|bk<|sg<|aH i 0<|ap 9<|c0<|sq<|sq<|go<|ap 3<|c0<|az 3<|c0<|go<|Pl 3<|L1<|cS i 0<|ap 3<|c1<|az 2<|rt<|br<|tr<|rr (.func (.func 201) #[] #[vP f 0,vP d 0])<|?_
 exact⟨_,_,rfl,by kernel_rfl,b,wX (c:=23) ⟨by decide,by decide⟩ (ae.old hC b) m hne (ub j o) (Ne.symm (nb (ae.lt hC) a.size h)) (Ne.symm (nb (ag hm) a.size h)) l (Ne.symm (nb (ae.lt hC) lr e)) (Ne.symm (nb (ag hm) lr e))⟩
theorem o9(hC:ae w g C)(hm:w.heap[gm]? = some (.cells (mC 24) 45 (0,0)))(hne:g≠gm) : Calls Tryz.prog 148 #[vI 0,vP gm 0,vP g 0] w (gL (fun W=>bQ g gm (cI 24 C).1 (cI 24 C).2 W) w):=by
 refine en 67 Tryz.func148 rfl<|sg<|L0<|dF #[vP gm 0] fun d z e n a=>L0<|dF #[vP g 0] fun f A h o p=>Pl 1<|aL 1<|aK #[.nilFunc] fun B D q r s=>L0<|bD r 0 #[.func (.func 198) #[] #[vP f 0,vP d 0]] fun E F t=>nl<|tn<|aq 2<|aK #[.bool false] fun G H u v x=>L0<|bD v 0 #[.bool true] fun I i y=>nt<|sq<|sg<|?_
 have j:=ud s (aN t (ud x y u)) q
 have k:=aN p j
 have l:=ub k n
 refine aH l 0<|Pl 2<|?_
 have b:=aN a k
 have m:=ub b hm
 refine aH m 0<|ap 1<|bk<|sg<|aH i 0<|ap 9<|c0<|sq<|sq<|go<|ap 3<|c0<|az 3<|c0<|go<|Pl 7<|nl<|tn<|c0<|az 3<|c0<|az 3<|c0<|az 3<|c0<|az 3<|c0<|aq 3<|L1<|cS i 0<|ap 2<|c1<|az 2<|rt<|br<|tr<|rr (.func (.func 208) #[] #[vP f 0,vP d 0])<|?_
 exact⟨_,_,rfl,by kernel_rfl,b,xD (c:=24) ⟨by decide,by decide⟩ (ae.old hC b) m hne (ub j o) (Ne.symm (nb (ae.lt hC) a.size h)) (Ne.symm (nb (ag hm) a.size h)) l (Ne.symm (nb (ae.lt hC) lr e)) (Ne.symm (nb (ag hm) lr e))⟩
theorem nR(hC:ae w g C)(hm:w.heap[gm]? = some (.cells (mC 24) 45 (0,0)))(hne:g≠gm) : Calls Tryz.prog 148 #[vI 1,vP gm 0,vP g 0] w (gL (fun W=>bQ g gm (jQ 24 C).1 (jQ 24 C).2 W) w):=by
 refine en 67 Tryz.func148 rfl<|sg<|L0<|dF #[vP gm 0] fun d z e n a=>L0<|dF #[vP g 0] fun f A h o p=>Pl 1<|aL 1<|aK #[.nilFunc] fun B D q r s=>L0<|bD r 0 #[.func (.func 198) #[] #[vP f 0,vP d 0]] fun E F t=>nl<|tn<|aq 2<|aK #[.bool false] fun G H u v x=>L0<|bD v 0 #[.bool false] fun I i y=>nt<|sq<|sg<|?_
 have j:=ud s (aN t (ud x y u)) q
 have k:=aN p j
 have l:=ub k n
 refine aH l 0<|Pl 2<|?_
 have b:=aN a k
 have m:=ub b hm
 refine aH m 0<|ap 1<|bk<|sg<|aH i 0<|ap 9<|c0<|sq<|sq<|go<|ap 3<|c0<|az 3<|c0<|go<|Pl 7<|nl<|tn<|c0<|az 3<|c0<|az 3<|c0<|az 3<|c0<|az 3<|c0<|aq 3<|L1<|cS i 0<|ap 2<|c0<|az 3<|c1<|az 2<|rt<|br<|tr<|rr (.func (.func 209) #[] #[vP f 0,vP d 0])<|?_
 exact⟨_,_,rfl,by kernel_rfl,b,xC (c:=24) ⟨by decide,by decide⟩ (ae.old hC b) m hne (ub j o) (Ne.symm (nb (ae.lt hC) a.size h)) (Ne.symm (nb (ag hm) a.size h)) l (Ne.symm (nb (ae.lt hC) lr e)) (Ne.symm (nb (ag hm) lr e))⟩
theorem nZ(hC:ae w g C)(hm:w.heap[gm]? = some (.cells (mC c) 45 (0,0)))(hne:g≠gm)(k3:(c==3)=false)(k4:(c==4)=false)(k6:(c==6)=false)(f:(c==16)=false)(h:(c==22)=false)(a:(c==23)=false)(b:(c==24)=false) : Calls Tryz.prog 148 #[vI 0,vP gm 0,vP g 0] w (bW .nilFunc w):=by
 refine en 67 Tryz.func148 rfl<|sg<|L0<|dF #[vP gm 0] fun i x y j k=>L0<|dF #[vP g 0] fun l z A B m=>Pl 1<|aL 1<|aK #[.nilFunc] fun D E n o p=>L0<|bD o 0 #[.func (.func 198) #[] #[vP l 0,vP i 0]] fun F G q=>nl<|tn<|aq 2<|aK #[.bool false] fun H I r s t=>L0<|bD s 0 #[.bool true] fun J u v=>nt<|sq<|sg<|?_
 have d:=aN m (ud p (aN q (ud t v r)) n)
 refine aH (ub d j) 0<|Pl 2<|?_
 have e:=aN k d
 exact aH (ub e hm) 0<|ap 1<|bk<|sg<|aH u 0<|Pl 4<|sy 22 k3<|ap 5<|cf k4<|sq<|az 3<|cf k3<|az 3<|cf k4<|go<|Pl 3<|sy 35 a<|ap 4<|c0<|az 3<|cf k6<|az 3<|cf f<|az 3<|cf h<|aq 3<|nl<|tn<|cf a<|aq 3<|sy 59 b<|ap 3<|c0<|aq 3<|nl<|tn<|cf b<|sk<|bn<|tn<|az 1<|rt<|rr (.nilFunc)<|⟨rfl,e⟩
theorem o1(hC:ae w g C)(hm:w.heap[gm]? = some (.cells (mC c) 45 (0,0)))(hne:g≠gm)(k3:(c==3)=false)(k4:(c==4)=false)(k6:(c==6)=false)(f:(c==16)=false)(h:(c==22)=false)(a:(c==23)=false)(b:(c==24)=false) : Calls Tryz.prog 148 #[vI 1,vP gm 0,vP g 0] w (bW .nilFunc w):=by
 refine en 67 Tryz.func148 rfl<|sg<|L0<|dF #[vP gm 0] fun i x y j k=>L0<|dF #[vP g 0] fun l z A B m=>Pl 1<|aL 1<|aK #[.nilFunc] fun D E n o p=>L0<|bD o 0 #[.func (.func 198) #[] #[vP l 0,vP i 0]] fun F G q=>nl<|tn<|aq 2<|aK #[.bool false] fun H I r s t=>L0<|bD s 0 #[.bool false] fun J u v=>nt<|sq<|sg<|?_
 have d:=aN m (ud p (aN q (ud t v r)) n)
 refine aH (ub d j) 0<|Pl 2<|?_
 have e:=aN k d
 exact aH (ub e hm) 0<|ap 1<|bk<|sg<|aH u 0<|ap 9<|c0<|sq<|sq<|go<|ap 3<|cf k3<|az 3<|cf k4<|go<|Pl 3<|sy 35 a<|ap 4<|c0<|az 3<|cf k6<|aq 3<|nl<|tn<|cf f<|az 3<|cf h<|az 3<|cf a<|aq 3<|sy 59 b<|ap 3<|c0<|az 3<|cf b<|sk<|bn<|tn<|az 1<|rt<|rr (.nilFunc)<|⟨rfl,e⟩
variable {dir:Int}
theorem jD{r:ah × b7}    (hC:ae w g C)(hm:w.heap[gm]? = some (.cells (mC c) 45 (0,0)))(hne:g≠gm)(hd:dir=0∨dir=1)(h:aZ dir c C=some r) : Calls Tryz.prog 148 #[.int .i64 dir,.pointer (some ⟨gm,0,none⟩),.pointer (some ⟨g,0,none⟩)] w (gL (fun W=>bQ g gm r.1 r.2 W) w):=by
  by_cases h3:c=3
  · subst h3
    rcases hd with rfl|rfl
    · obtain rfl:bO 125 3 C=r:=Option.some.inj h
      exact pa hC hm hne
    · obtain rfl:c3 3 C=r:=Option.some.inj h
      exact p7 hC hm hne
  by_cases h4:c=4
  · subst h4
    rcases hd with rfl|rfl
    · obtain rfl:bO 125 4 C=r:=Option.some.inj h
      exact pi hC hm hne
    · obtain rfl:c3 4 C=r:=Option.some.inj h
      exact p6 hC hm hne
  by_cases h6:c=6
  · subst h6
    rcases hd with rfl|rfl
    · obtain rfl:dc 6 C=r:=Option.some.inj h
      exact q4 hC hm hne
    · obtain rfl:dc 6 C=r:=Option.some.inj h
      exact p4 hC hm hne
  by_cases a:c=16
  · subst a
    rcases hd with rfl|rfl
    · obtain rfl:cG 16 C=r:=Option.some.inj h
      exact o3 hC hm hne
    · obtain rfl:bO 123 16 C=r:=Option.some.inj h
      exact nh hC hm hne
  by_cases b:c=22
  · subst b
    rcases hd with rfl|rfl
    · obtain rfl:ck 22 C=r:=Option.some.inj h
      exact nA hC hm hne
    · obtain rfl:ck 22 C=r:=Option.some.inj h
      exact nU hC hm hne
  by_cases d:c=23
  · subst d
    rcases hd with rfl|rfl
    · obtain rfl:cH 23 C=r:=Option.some.inj h
      exact o4 hC hm hne
    · obtain rfl:c3 23 C=r:=Option.some.inj h
      exact nF hC hm hne
  by_cases e:c=24
  · subst e
    rcases hd with rfl|rfl
    · obtain rfl:cI 24 C=r:=Option.some.inj h
      exact o9 hC hm hne
    · obtain rfl:jQ 24 C=r:=Option.some.inj h
      exact nR hC hm hne
  exfalso
  unfold aZ at h
  simp[h3,h4,h6,a,b,d,e] at h
theorem js(hC:ae w g C)(hm:w.heap[gm]? = some (.cells (mC c) 45 (0,0)))(hne:g≠gm)(hd:dir=0∨dir=1)(h:aZ dir c C=none) : Calls Tryz.prog 148 #[.int .i64 dir,.pointer (some ⟨gm,0,none⟩),.pointer (some ⟨g,0,none⟩)] w (bW .nilFunc w):=by
  have k3:(c==3)=false:=by
    cases hk:(c==3)
    · rfl
    · obtain rfl:c=3:=by simpa using hk
      rcases hd with rfl|rfl<;>cases h
  have k4:(c==4)=false:=by
    cases hk:(c==4)
    · rfl
    · obtain rfl:c=4:=by simpa using hk
      rcases hd with rfl|rfl<;>cases h
  have k6:(c==6)=false:=by
    cases hk:(c==6)
    · rfl
    · obtain rfl:c=6:=by simpa using hk
      rcases hd with rfl|rfl<;>cases h
  have a:(c==16)=false:=by
    cases hk:(c==16)
    · rfl
    · obtain rfl:c=16:=by simpa using hk
      rcases hd with rfl|rfl<;>cases h
  have b:(c==22)=false:=by
    cases hk:(c==22)
    · rfl
    · obtain rfl:c=22:=by simpa using hk
      rcases hd with rfl|rfl<;>cases h
  have d:(c==23)=false:=by
    cases hk:(c==23)
    · rfl
    · obtain rfl:c=23:=by simpa using hk
      rcases hd with rfl|rfl<;>cases h
  have e:(c==24)=false:=by
    cases hk:(c==24)
    · rfl
    · obtain rfl:c=24:=by simpa using hk
      rcases hd with rfl|rfl<;>cases h
  rcases hd with rfl|rfl
  · exact nZ hC hm hne k3 k4 k6 a b d e
  · exact o1 hC hm hne k3 k4 k6 a b d e
open Go.RowKit
variable {A:Option Addr}{b:List Int}{cp:Nat}{m:Md}
theorem l4(hcode:B8 c)(hsl:aX m w (.slice A b.length cp) b)(hb:b.length≤1048576) :
    Calls Tryz.prog 98 #[vI 0,vB c,.slice A b.length cp] w (dG (aj aZ 0 c b) w):=by
 obtain⟨hcode1,hcode2⟩:=hcode
 have hln:(b.length:Int)≤1048576:=by omega
 refine en 40 Tryz.func98 rfl<|sg<|aK mZ fun U V l i n=>ap 1<|sq<|az 6<|c0<|bz<|aq 2<|aK mZ fun W X g o y=>aD o (mC c) fun Y z j=>aL 1<|?_
 have h:=ud y j g
 have p:=aN n h
 refine ax<|e3 (di (aX.old hsl p) (by omega)) fun Z a0 d B a=>Pl 1<|aL 2<|?_
 have C:=aN p a
 refine wo (aZ 0 c ⟨b,false,0⟩) (fun hr=>?_) (fun r hr=>?_)
 refine ax<|m1 (js (dir:=0) (c:=c) B (ub a z) (Ne.symm (nb (ag o) j.size d)) (Or.inl rfl) hr) fun a1 D=>ap 1<|sq<|az 2<|c1<|aq 1<|?_
 refine aD (ub (aN h (aN a D)) i) mZ fun a2 L M=>ap 1<|bj<|c8 L (vI 4)<|?_
 exact cZ (by unfold aj;(try simp only[bq,cR,cN,cO,cQ,cP,reduceIte,hr])<;>rfl) (bU (ud C (uz D M) l))
 have E:=nb (ag o) j.size d
 refine ax<|nc (jD (dir:=0) (c:=c) B (ub a z) (Ne.symm E) (Or.inl rfl) hr) fun N F a3 O q hcall51=>ap 1<|sq<|az 2<|c0<|bz<|sq<|go<|Pl 1<|L0<|i7 (f:=N) (args:=F) (hf:=O) #[] F<|m3 (hcall51) fun a4 G P H=>?_
 obtain⟨Q,k,s⟩:=P
 refine aL 1<|ax<|m2 (dI G) fun a5 I t=>nt<|sq<|aq 1<|ax<|mq (c4 I)<|?_
 have a6:=ae.len I
 refine Pl 1<|db 2<|?_
 have u:=uz q (u1 H t im)
 have J:=ut C u (ac (ni p.size d) (ac (ni n.size g) aA))
 have hs:aj aZ 0 c b=bp r.2 r.1:=by
   unfold aj
   (try simp only[bq,cR,cN,cO,cQ,cP,reduceIte,hr])
   all_goals rfl
 refine cb ((r.1.endC.e != 0)) (fun v=>?_) (fun v=>?_)
 have x:=ay v
 refine aq 2<|?_
 refine aD (ub (ud h (ud a u d) g) i) mZ fun a7 R S=>ap 1<|bj<|c8 R (vI r.1.endC.e)<|?_
 rw[hs]
 exact cA x (ud J S l)
 have x:=aJ v
 refine bz<|sg<|?_
 refine L0<|cJ (hz:=(by rw[k.2];exact b6)) (aV t E k.1)<|?_
 refine aD (hz:=(by rw[k.2];exact b6)) (hv:=s.size) (h1:=s.one) (ub (ud h (ud a u d) g) i) (Q) fun a8 T K=>ap 1<|rt<|eu 22 k.2 T (vI 0)<|?_
 rw[hs]
 exact cW x (aU.lo (aU.upd s (us t K) (ai (ae.safe G _ (by decide)) (ai (aT (ub (ud h (ud a (uz q H) d) g) i) (by decide)) aC))) (le (le (le (le n.size y.size) j.size) a.size) q.size)) (ud J K l)
theorem lw(hcode:B8 c)(hsl:aX m w (.slice A b.length cp) b)(hb:b.length≤1048576) :
    Calls Tryz.prog 98 #[vI 1,vB c,.slice A b.length cp] w (dG (aj aZ 1 c b) w):=by
 obtain⟨hcode1,hcode2⟩:=hcode
 have hln:(b.length:Int)≤1048576:=by omega
 refine en 40 Tryz.func98 rfl<|sg<|aK mZ fun U V l i n=>ap 1<|sq<|az 6<|c0<|bz<|aq 2<|aK mZ fun W X g o y=>aD o (mC c) fun Y z j=>aL 1<|?_
 have h:=ud y j g
 have p:=aN n h
 refine ax<|e3 (di (aX.old hsl p) (by omega)) fun Z a0 d B a=>Pl 1<|aL 2<|?_
 have C:=aN p a
 refine wo (aZ 1 c ⟨b,false,0⟩) (fun hr=>?_) (fun r hr=>?_)
 refine ax<|m1 (js (dir:=1) (c:=c) B (ub a z) (Ne.symm (nb (ag o) j.size d)) (Or.inr rfl) hr) fun a1 D=>ap 1<|sq<|az 2<|c1<|aq 1<|?_
 refine aD (ub (aN h (aN a D)) i) mZ fun a2 L M=>ap 1<|bj<|c8 L (vI 4)<|?_
 exact cZ (by unfold aj;(try simp only[bq,cR,cN,cO,cQ,cP,reduceIte,hr])<;>rfl) (bU (ud C (uz D M) l))
 have E:=nb (ag o) j.size d
 refine ax<|nc (jD (dir:=1) (c:=c) B (ub a z) (Ne.symm E) (Or.inr rfl) hr) fun N F a3 O q hcall51=>ap 1<|sq<|az 2<|c0<|bz<|sq<|go<|Pl 1<|L0<|i7 (f:=N) (args:=F) (hf:=O) #[] F<|m3 (hcall51) fun a4 G P H=>?_
 obtain⟨Q,k,s⟩:=P
 refine aL 1<|ax<|m2 (dI G) fun a5 I t=>nt<|sq<|aq 1<|ax<|mq (c4 I)<|?_
 have a6:=ae.len I
 refine Pl 1<|db 2<|?_
 have u:=uz q (u1 H t im)
 have J:=ut C u (ac (ni p.size d) (ac (ni n.size g) aA))
 have hs:aj aZ 1 c b=bp r.2 r.1:=by
   unfold aj
   (try simp only[bq,cR,cN,cO,cQ,cP,reduceIte,hr])
   all_goals rfl
 refine cb ((r.1.endC.e != 0)) (fun v=>?_) (fun v=>?_)
 have x:=ay v
 refine aq 2<|?_
 refine aD (ub (ud h (ud a u d) g) i) mZ fun a7 R S=>ap 1<|bj<|c8 R (vI r.1.endC.e)<|?_
 rw[hs]
 exact cA x (ud J S l)
 have x:=aJ v
 refine bz<|sg<|?_
 refine L0<|cJ (hz:=(by rw[k.2];exact b6)) (aV t E k.1)<|?_
 refine aD (hz:=(by rw[k.2];exact b6)) (hv:=s.size) (h1:=s.one) (ub (ud h (ud a u d) g) i) (Q) fun a8 T K=>ap 1<|rt<|eu 22 k.2 T (vI 0)<|?_
 rw[hs]
 exact cW x (aU.lo (aU.upd s (us t K) (ai (ae.safe G _ (by decide)) (ai (aT (ub (ud h (ud a (uz q H) d) g) i) (by decide)) aC))) (le (le (le (le n.size y.size) j.size) a.size) q.size)) (ud J K l)
theorem lf(hcode:B8 c)(hsl:aX m w (.slice A b.length cp) b)(hb:b.length≤1048576)(hd:¬ (dir=0∨dir=1)) :
    Calls Tryz.prog 98 #[vI dir,vB c,.slice A b.length cp] w (dG (aj aZ dir c b) w):=by
 obtain⟨hcode1,hcode2⟩:=hcode
 have hln:(b.length:Int)≤1048576:=by omega
 have e0:(dir != 0)=true:=by simp;omega
 have e1:(dir != 1)=true:=by simp;omega
 refine en 40 Tryz.func98 rfl<|sg<|aK mZ fun g h a d e=>ap 1<|sq<|aq 3<|sy 14 e0<|Pl 3<|nl<|tn<|ct e1<|aq 1<|aD d mZ fun i dB f=>ap 1<|bj<|c8 dB (vI 1)<|?_
 exact cZ (by unfold aj aZ;(try simp only[e0,e1,bq,cR,cN,cO,cQ,cP,reduceIte,hd])<;>rfl) (bU (ud e f a))
theorem nm{v:Value}    (hc:B8 c)(h:aX m w v b)(hb:b.length≤1048576) :
    Calls Tryz.prog 98 #[.int .i64 dir,.int .u8 c,v] w (dG (aj aZ dir c b) w):=by
  obtain⟨A,cp,rfl,_,_⟩:=h.shape
  by_cases h0:dir=0
  · subst h0;exact l4 hc h hb
  by_cases h1:dir=1
  · subst h1;exact lw hc h hb
  exact lf hc h hb (by omega)
open Go.RowKit
theorem ji(hcode:B8 c)(hC:ae w g C)(hm:w.heap[gm]? = some (.cells (mC c) 45 (0,0)))(hne:g≠gm) :
    Calls Tryz.prog 193 #[.agg #[vP g 0,vP gm 0],vW most] w (nk g gm (bV C most) (mG c 0 C.wordV (C.wordsC 1).wordV 0 0 0 0 0 0 0 0 nS nS nS nS 0 0 0 0 0 nS) w):=by
 obtain⟨hcode1,hcode2⟩:=hcode
 have hlen:=hC.len
 refine en 51 Tryz.func193 rfl<|sg<|L0<|dF #[vP g 0,vP gm 0] fun f an P a7 a8=>nt<|sq<|Rg 8 (fun w'=>w'.cell? ⟨f,1,none⟩=some (vP gm 0)∧w'.cell? ⟨f,0,none⟩=some (vP g 0)) fun ao Q=>?_
 have t:=ub Q a7
 refine bA ⟨(am t rfl),(am t rfl)⟩ fun o=>Rt 0 o<|Rl 1 o (fun _ hs=>hs.1)<|Rt 2 o<|Rl 3 o (fun _ hs=>hs.2)<|?_
 have R:=aN a8 Q
 refine R0 4 rfl<|Oc<|m3 (bN (ae.old hC R)) fun ap a9 S aq=>?_
 have h:=nb (ae.lt hC) lr P
 have u:=aV S (Ne.symm h) t
 refine bA ⟨(am u rfl),(am u rfl)⟩ fun T=>Rt 5 T<|Rt 6 T<|?_
 have U:=uz R S
 have V:=aV U (Ne.symm hne) hm
 refine R0 7 rfl<|bD V 2 (mG c 0 C.wordV 0 0 0 0 0 0 0 0 0 nS nS nS nS 0 0 0 0 0 nS) fun ar ab W=>?_
 have X:=nb (ag hm) lr P
 have v:=aV W (Ne.symm X) u
 refine bA ⟨(am v rfl),(am v rfl)⟩ fun au=>re<|tn<|sq<|Rg 8 (fun w'=>w'.cell? ⟨f,1,none⟩=some (vP gm 0)∧w'.cell? ⟨f,0,none⟩=some (vP g 0)) fun aw x=>?_
 have y:=ub x v
 refine bA ⟨(am y rfl),(am y rfl)⟩ fun p=>Rt 0 p<|Rl 1 p (fun _ hs=>hs.1)<|Rt 2 p<|Rl 3 p (fun _ hs=>hs.2)<|?_
 have Y:=aN W x
 refine R0 4 rfl<|Oc<|m3 (bN (ae.upd a9 Y (aa hne av) (ai (aT V (by decide)) aC))) fun ax Z z ay=>?_
 have A:=aV z (Ne.symm h) y
 refine bA ⟨(am A rfl),(am A rfl)⟩ fun a0=>Rt 5 a0<|Rt 6 a0<|?_
 have B:=aV (uz x z) (Ne.symm hne) ab
 refine R0 7 rfl<|bD B 3 (mG c 0 C.wordV ((C.wordsC 1).wordV) 0 0 0 0 0 0 0 0 nS nS nS nS 0 0 0 0 0 nS) fun az ac a1=>?_
 have D:=aV a1 (Ne.symm X) A
 refine bA ⟨(am D rfl),(am D rfl)⟩ fun aA=>re<|tn<|sq<|Rg 18 (fun w'=>w'.cell? ⟨f,0,none⟩=some (vP g 0)∧w'.cell? ⟨f,1,none⟩=some (vP gm 0)∧w'.cell? ⟨gm,3,none⟩=some (vW ((C.wordsC 1).wordV))) fun aB E=>?_
 have q:=ub E D
 have F:=ub E ac
 refine bA ⟨(am q rfl),(am q rfl),(am F rfl)⟩ fun b=>Rt 0 b<|Rl 1 b (fun _ hs=>hs.1)<|Rt 2 b<|Rl 3 b (fun _ hs=>hs.2.1)<|Rt 4 b<|Rt 5 b<|Rl 6 b (fun _ hs=>hs.2.2)<|Rt 7 b<|Rt 8 b<|?_
 have G:=aN a1 E
 have a2:=ui U (ui Y (us z G))
 refine vq 26 ((decide (1≤((C.wordsC 1).wordV)))) (fun i=>?_) (fun i=>?_)
 have ad:=of_decide_eq_true i
 refine Rt 9 b<|Rl 10 b (fun _ hs=>hs.2.1)<|Rt 11 b<|Rt 12 b<|Rl 13 b (fun _ hs=>hs.2.2)<|Rt 14 b<|Rt 15 b<|Rt 16 b<|?_
 refine R0 17 rfl<|Oc<|m2 (aY ((decide (((C.wordsC 1).wordV)≤most))) 5 (ae.upd Z G (aa hne av) (ai (aT B (by decide)) aC))) fun aD af H=>?_
 have I:=aV H (Ne.symm h) q
 have a3:=aV H (Ne.symm hne) F
 refine bA ⟨(am I rfl),(am I rfl),(am a3 rfl)⟩ fun aE=>re<|tn<|Rg 15 (fun w'=>w'.cell? ⟨f,0,none⟩=some (vP g 0)∧w'.cell? ⟨f,1,none⟩=some (vP gm 0)∧w'.cell? ⟨gm,2,none⟩=some (vW C.wordV)∧w'.cell? ⟨gm,3,none⟩=some (vW ((C.wordsC 1).wordV))) fun aF r=>?_
 have j:=ub r I
 have k:=ub r a3
 refine bA ⟨(am j rfl),(am j rfl),(am k rfl),(am k rfl)⟩ fun d=>Rt 0 d<|Rl 1 d (fun _ hs=>hs.1)<|Rt 2 d<|Rl 3 d (fun _ hs=>hs.2.1)<|Rt 4 d<|Rt 5 d<|Rl 6 d (fun _ hs=>hs.2.2.1)<|Rt 7 d<|Rl 8 d (fun _ hs=>hs.2.1)<|Rt 9 d<|Rt 10 d<|Rl 11 d (fun _ hs=>hs.2.2.2)<|Rr 12 d (vI ((C.wordsC 1).wordV)) (fun _ _=>c9 (vI (IntKind.i64.wrap ((C.wordsC 1).wordV))) (by kernel_rfl) (congrArg (Value.int .i64) (i64_in (by omega))))<|R0 13 rfl<|Oc<|mq (gM (a:=C.wordV) (n:=(C.wordsC 1).wordV) (by omega))<|bA ⟨(am j rfl),(am j rfl),(am k rfl),(am k rfl)⟩ fun aG=>?_
 refine R0 14 rfl<|Oc<|m2 (aY ((cK C.wordV ((C.wordsC 1).wordV))) 7 (ae.old af r)) fun aH aj J=>?_
 have a4:=aV J (Ne.symm h) j
 have K:=aV J (Ne.symm hne) k
 refine bA ⟨(am a4 rfl),(am a4 rfl),(am K rfl),(am K rfl)⟩ fun aI=>re<|rm (.tuple #[])<|?_
 have hs:bV C most=((((C.wordsC 1).wordsC 1).need (decide (((C.wordsC 1).wordV)≤most)) 5).need (cK C.wordV ((C.wordsC 1).wordV)) 7):=by
   unfold bV ir
   (try simp only[i,bq,reduceIte])
   all_goals rfl
 rw[hs]
 exact⟨rfl,aj,K,(u1 a2 (u1 H (uz r J) im) im)⟩
 have ad:=of_decide_eq_false i
 refine Ro 9 b<|Ro 10 b<|Ro 11 b<|Ro 12 b<|Ro 13 b<|Ro 14 b<|Ro 15 b<|Rt 16 b<|?_
 refine R0 17 rfl<|Oc<|m2 (aY (false) 5 (ae.upd Z G (aa hne av) (ai (aT B (by decide)) aC))) fun aJ ak L=>?_
 have M:=aV L (Ne.symm h) q
 have a5:=aV L (Ne.symm hne) F
 refine bA ⟨(am M rfl),(am M rfl),(am a5 rfl)⟩ fun aK=>re<|tn<|Rg 15 (fun w'=>w'.cell? ⟨f,0,none⟩=some (vP g 0)∧w'.cell? ⟨f,1,none⟩=some (vP gm 0)∧w'.cell? ⟨gm,2,none⟩=some (vW C.wordV)∧w'.cell? ⟨gm,3,none⟩=some (vW ((C.wordsC 1).wordV))) fun aL s=>?_
 have l:=ub s M
 have m:=ub s a5
 refine bA ⟨(am l rfl),(am l rfl),(am m rfl),(am m rfl)⟩ fun e=>Rt 0 e<|Rl 1 e (fun _ hs=>hs.1)<|Rt 2 e<|Rl 3 e (fun _ hs=>hs.2.1)<|Rt 4 e<|Rt 5 e<|Rl 6 e (fun _ hs=>hs.2.2.1)<|Rt 7 e<|Rl 8 e (fun _ hs=>hs.2.1)<|Rt 9 e<|Rt 10 e<|Rl 11 e (fun _ hs=>hs.2.2.2)<|Rr 12 e (vI ((C.wordsC 1).wordV)) (fun _ _=>c9 (vI (IntKind.i64.wrap ((C.wordsC 1).wordV))) (by kernel_rfl) (congrArg (Value.int .i64) (i64_in (by omega))))<|R0 13 rfl<|Oc<|mq (gM (a:=C.wordV) (n:=(C.wordsC 1).wordV) (by omega))<|bA ⟨(am l rfl),(am l rfl),(am m rfl),(am m rfl)⟩ fun aM=>?_
 refine R0 14 rfl<|Oc<|m2 (aY ((cK C.wordV ((C.wordsC 1).wordV))) 7 (ae.old ak s)) fun aO al N=>?_
 have a6:=aV N (Ne.symm h) l
 have O:=aV N (Ne.symm hne) m
 refine bA ⟨(am a6 rfl),(am a6 rfl),(am O rfl),(am O rfl)⟩ fun aP=>re<|rm (.tuple #[])<|?_
 have hs:bV C most=((((C.wordsC 1).wordsC 1).need false 5).need (cK C.wordV ((C.wordsC 1).wordV)) 7):=by
   unfold bV ir
   (try simp only[i,bq,reduceIte])
   all_goals rfl
 rw[hs]
 exact⟨rfl,al,O,(u1 a2 (u1 L (uz s N) im) im)⟩
theorem gR(hcode:B8 c)(hC:ae w g C)(hm:w.heap[gm]? = some (.cells (mC c) 45 (0,0)))(hne:g≠gm) :
    Calls Tryz.prog 140 #[.agg #[vP g 0,vP gm 0]] w (bQ g gm (dm 2000 c C).1 (dm 2000 c C).2 w):=by
 obtain⟨hcode1,hcode2⟩:=hcode
 have hlen:=hC.len
 refine en 4 Tryz.func140 rfl<|sg<|L0<|dF #[vP g 0,vP gm 0] fun i j k d a=>nt<|go<|L0<|cJ d<|?_
 have b:=ae.old hC a
 refine ax<|m3 (ji (most:=2000) ⟨hcode1,hcode2⟩ b (ub a hm) hne) fun l e f h=>?_
 have m:=(b).wordV
 have n:=bF (c6 (b).rng 1)
 refine nl<|rm (.tuple #[])<|?_
 exact cZ (by unfold dm;(try simp only[bq,reduceIte])<;>rfl) ⟨rfl,e,⟨_,⟨f,rfl⟩,⟨_,_,_,_,_,rfl,aI.nil ..,aI.nil ..,aI.nil ..,aI.nil ..,aI.nil ..,⟨(b8 (x:=c) (by omega)),(b8 (x:=0) (by omega)),(c7 (x:=C.wordV) (by omega)),(c7 (x:=(C.wordsC 1).wordV) (by omega)),(c7 (x:=0) (by omega)),(c7 (x:=0) (by omega)),(c7 (x:=0) (by omega)),(c7 (x:=0) (by omega)),(c7 (x:=0) (by omega)),(c7 (x:=0) (by omega)),(c7 (x:=0) (by omega)),(c7 (x:=0) (by omega)),(b8 (x:=0) (by omega)),(b8 (x:=0) (by omega)),(b8 (x:=0) (by omega)),(b8 (x:=0) (by omega)),(b8 (x:=0) (by omega))⟩⟩⟩,(uz a h)⟩
theorem kT(hcode:B8 c)(hC:ae w g C)(hm:w.heap[gm]? = some (.cells (mC c) 45 (0,0)))(hne:g≠gm) :
    Calls Tryz.prog 141 #[.agg #[vP g 0,vP gm 0]] w (bQ g gm (dg c C).1 (dg c C).2 w):=by
 obtain⟨hcode1,hcode2⟩:=hcode
 have hlen:=hC.len
 refine en 24 Tryz.func141 rfl<|sg<|L0<|dF #[vP g 0,vP gm 0] fun l L m o d=>aL 1<|aH o 0<|?_
 refine ax<|m3 (bI (ae.old hC d)) fun M A e N=>Pl 1<|aL 1<|?_
 have f:=nb (ae.lt hC) lr m
 have p:=aV e (Ne.symm f) o
 refine aH p 0<|Pl 3<|cY 3 [10] 13 10 (decide (1≤C.byteV)) (decide (C.byteV≤250)) (fun K B D=>?_) ?_
 have O:=of_decide_eq_true D
 exact Pl 3<|ce B _ rfl
 refine ax<|m2 (aY (((decide (1≤C.byteV))&&(decide (C.byteV≤250)))) 5 A) fun P E r=>nt<|Rg 10 (fun w'=>w'.cell? ⟨l,1,none⟩=some (vP gm 0)∧w'.cell? ⟨l,0,none⟩=some (vP g 0)) fun Q h=>?_
 have s:=aN r h
 have i:=aV s (Ne.symm f) p
 refine bA ⟨(am i rfl),(am i rfl)⟩ fun a=>Rt 0 a<|Rl 1 a (fun _ hs=>hs.1)<|Rt 2 a<|Rl 3 a (fun _ hs=>hs.2)<|Rt 4 a<|Rr 5 a (vI C.byteV) (fun _ _=>c9 (vI (IntKind.i64.wrap C.byteV)) (by kernel_rfl) (congrArg (Value.int .i64) (i64_in (by omega))))<|?_
 have t:=ae.old E h
 refine R0 6 rfl<|Oc<|qm (bX (n:=C.byteV) t) fun F G R H S T I u=>?_
 have U:=Nat.le_trans (ah.bytesR_le ((C.bytesC 1).need ((decide (1≤C.byteV))&&(decide (C.byteV≤250))) 5) C.byteV) (ae.len t)
 have j:=aV u (Ne.symm f) i
 refine bA ⟨(am j rfl),(am j rfl)⟩ fun v=>Rt 7 v<|Rt 8 v<|?_
 have y:=uz d (u1 e (u1 s u im) im)
 have k:=aV y (Ne.symm hne) hm
 refine R0 9 rfl<|bD k 14 (mG c 0 0 0 0 0 0 0 0 0 0 0 nS nS (.slice F ((((C.bytesC 1).need ((decide (1≤C.byteV))&&(decide (C.byteV≤250))) 5).bytesR C.byteV).length) G) nS 0 0 0 0 0 nS) fun V J b=>?_
 have z:=aV b (Ne.symm (nb (ag hm) lr m)) j
 refine bA ⟨(am z rfl),(am z rfl)⟩ fun W=>re<|rm (.tuple #[])<|?_
 exact cZ (by unfold dg dA;(try simp only[bq,reduceIte])<;>rfl) ⟨rfl,(ae.upd I b (aa hne av) (ai (aT k (by decide)) aC)),⟨_,⟨J,rfl⟩,⟨_,_,_,_,_,rfl,aI.nil ..,aI.nil ..,(aI.hi_le (aX.upd' H b (ai (aT k (by decide)) aC)) (le (le (le d.size e.size) r.size) h.size) fun _ _ q=>q),aI.nil ..,aI.nil ..,⟨(b8 (x:=c) (by omega)),(b8 (x:=0) (by omega)),(c7 (x:=0) (by omega)),(c7 (x:=0) (by omega)),(c7 (x:=0) (by omega)),(c7 (x:=0) (by omega)),(c7 (x:=0) (by omega)),(c7 (x:=0) (by omega)),(c7 (x:=0) (by omega)),(c7 (x:=0) (by omega)),(c7 (x:=0) (by omega)),(c7 (x:=0) (by omega)),(b8 (x:=0) (by omega)),(b8 (x:=0) (by omega)),(b8 (x:=0) (by omega)),(b8 (x:=0) (by omega)),(b8 (x:=0) (by omega))⟩⟩⟩,(us y b)⟩
theorem kH(hcode:B8 c)(hC:ae w g C)(hm:w.heap[gm]? = some (.cells (mC c) 45 (0,0)))(hne:g≠gm) :
    Calls Tryz.prog 142 #[.agg #[vP g 0,vP gm 0]] w (bQ g gm (cL c C).1 (cL c C).2 w):=by
 obtain⟨hcode1,hcode2⟩:=hcode
 have hlen:=hC.len
 refine en 33 Tryz.func142 rfl<|sg<|L0<|dF #[vP g 0,vP gm 0] fun b a0 z S T=>nt<|sq<|Rg 8 (fun w'=>w'.cell? ⟨b,1,none⟩=some (vP gm 0)∧w'.cell? ⟨b,0,none⟩=some (vP g 0)) fun a1 A=>?_
 have j:=ub A S
 refine bA ⟨(am j rfl),(am j rfl)⟩ fun e=>Rt 0 e<|Rl 1 e (fun _ hs=>hs.1)<|Rt 2 e<|Rl 3 e (fun _ hs=>hs.2)<|?_
 have B:=aN T A
 refine R0 4 rfl<|Oc<|m3 (bN (ae.old hC B)) fun a2 U D a3=>?_
 have f:=nb (ae.lt hC) lr z
 have k:=aV D (Ne.symm f) j
 refine bA ⟨(am k rfl),(am k rfl)⟩ fun E=>Rt 5 E<|Rt 6 E<|?_
 have F:=uz B D
 have G:=aV F (Ne.symm hne) hm
 refine R0 7 rfl<|bD G 2 (mG c 0 C.wordV 0 0 0 0 0 0 0 0 0 nS nS nS nS 0 0 0 0 0 nS) fun a4 V H=>?_
 have I:=nb (ag hm) lr z
 have l:=aV H (Ne.symm I) k
 refine bA ⟨(am l rfl),(am l rfl)⟩ fun a5=>re<|tn<|sq<|Rg 8 (fun w'=>w'.cell? ⟨b,1,none⟩=some (vP gm 0)∧w'.cell? ⟨b,0,none⟩=some (vP g 0)) fun a6 m=>?_
 have n:=ub m l
 refine bA ⟨(am n rfl),(am n rfl)⟩ fun h=>Rt 0 h<|Rl 1 h (fun _ hs=>hs.1)<|Rt 2 h<|Rl 3 h (fun _ hs=>hs.2)<|?_
 have J:=aN H m
 refine R0 4 rfl<|Oc<|m3 (bN (ae.upd U J (aa hne av) (ai (aT G (by decide)) aC))) fun a7 K o a8=>?_
 have p:=aV o (Ne.symm f) n
 refine bA ⟨(am p rfl),(am p rfl)⟩ fun L=>Rt 5 L<|Rt 6 L<|?_
 have q:=aV (uz m o) (Ne.symm hne) V
 refine R0 7 rfl<|bD q 4 (mG c 0 C.wordV 0 ((C.wordsC 1).wordV) 0 0 0 0 0 0 0 nS nS nS nS 0 0 0 0 0 nS) fun a9 W M=>?_
 have r:=aV M (Ne.symm I) p
 refine bA ⟨(am r rfl),(am r rfl)⟩ fun ab=>re<|tn<|Rg 17 (fun w'=>w'.cell? ⟨b,0,none⟩=some (vP g 0)∧w'.cell? ⟨b,1,none⟩=some (vP gm 0)∧w'.cell? ⟨gm,4,none⟩=some (vW ((C.wordsC 1).wordV))) fun ac s=>?_
 have i:=ub s r
 have t:=ub s W
 refine bA ⟨(am i rfl),(am i rfl),(am t rfl)⟩ fun a=>Rt 0 a<|Rl 1 a (fun _ hs=>hs.1)<|Rt 2 a<|Rl 3 a (fun _ hs=>hs.2.1)<|Rt 4 a<|Rt 5 a<|Rl 6 a (fun _ hs=>hs.2.2)<|Rt 7 a<|Rt 8 a<|?_
 have u:=aN M s
 have N:=ui F (ui J (us o u))
 refine vq 24 ((((C.wordsC 1).wordV)==0)) (fun d=>?_) (fun d=>?_)
 have X:=ak d
 refine Ro 9 a<|Ro 10 a<|Ro 11 a<|Ro 12 a<|Ro 13 a<|Ro 14 a<|Rt 15 a<|?_
 refine R0 16 rfl<|Oc<|m2 (aY (true) 6 (ae.upd K u (aa hne av) (ai (aT q (by decide)) aC))) fun ad Y v=>?_
 have O:=aV v (Ne.symm f) i
 have P:=aV v (Ne.symm hne) t
 refine bA ⟨(am O rfl),(am O rfl),(am P rfl)⟩ fun af=>re<|rm (.tuple #[])<|?_
 have hs:cL c C=((((C.wordsC 1).wordsC 1).need true 6),(b7.mk c 0 C.wordV 0 ((C.wordsC 1).wordV) 0 0 0 0 0 0 0 [] [] [] [] 0 0 0 0 0 [])):=by
   unfold cL eO
   (try simp only[d,bq,reduceIte])
   all_goals rfl
 rw[hs]
 exact⟨rfl,Y,⟨_,⟨P,rfl⟩,⟨_,_,_,_,_,rfl,aI.nil ..,aI.nil ..,aI.nil ..,aI.nil ..,aI.nil ..,⟨(b8 (x:=c) (by omega)),(b8 (x:=0) (by omega)),(c7 (x:=C.wordV) (by omega)),(c7 (x:=0) (by omega)),(c7 (x:=(C.wordsC 1).wordV) (by omega)),(c7 (x:=0) (by omega)),(c7 (x:=0) (by omega)),(c7 (x:=0) (by omega)),(c7 (x:=0) (by omega)),(c7 (x:=0) (by omega)),(c7 (x:=0) (by omega)),(c7 (x:=0) (by omega)),(b8 (x:=0) (by omega)),(b8 (x:=0) (by omega)),(b8 (x:=0) (by omega)),(b8 (x:=0) (by omega)),(b8 (x:=0) (by omega))⟩⟩⟩,(u1 N v im)⟩
 have X:=au d
 refine Rt 9 a<|Rl 10 a (fun _ hs=>hs.2.1)<|Rt 11 a<|Rt 12 a<|Rl 13 a (fun _ hs=>hs.2.2)<|Rt 14 a<|Rt 15 a<|?_
 refine R0 16 rfl<|Oc<|m2 (aY ((((C.wordsC 1).wordV)==65280)) 6 (ae.upd K u (aa hne av) (ai (aT q (by decide)) aC))) fun aj Z y=>?_
 have Q:=aV y (Ne.symm f) i
 have R:=aV y (Ne.symm hne) t
 refine bA ⟨(am Q rfl),(am Q rfl),(am R rfl)⟩ fun al=>re<|rm (.tuple #[])<|?_
 have hs:cL c C=((((C.wordsC 1).wordsC 1).need (((C.wordsC 1).wordV)==65280) 6),(b7.mk c 0 C.wordV 0 ((C.wordsC 1).wordV) 0 0 0 0 0 0 0 [] [] [] [] 0 0 0 0 0 [])):=by
   unfold cL eO
   (try simp only[d,bq,reduceIte])
   all_goals rfl
 rw[hs]
 exact⟨rfl,Z,⟨_,⟨R,rfl⟩,⟨_,_,_,_,_,rfl,aI.nil ..,aI.nil ..,aI.nil ..,aI.nil ..,aI.nil ..,⟨(b8 (x:=c) (by omega)),(b8 (x:=0) (by omega)),(c7 (x:=C.wordV) (by omega)),(c7 (x:=0) (by omega)),(c7 (x:=(C.wordsC 1).wordV) (by omega)),(c7 (x:=0) (by omega)),(c7 (x:=0) (by omega)),(c7 (x:=0) (by omega)),(c7 (x:=0) (by omega)),(c7 (x:=0) (by omega)),(c7 (x:=0) (by omega)),(c7 (x:=0) (by omega)),(b8 (x:=0) (by omega)),(b8 (x:=0) (by omega)),(b8 (x:=0) (by omega)),(b8 (x:=0) (by omega)),(b8 (x:=0) (by omega))⟩⟩⟩,(u1 N y im)⟩
theorem qE(hcode:B8 c)(hC:ae w g C)(hm:w.heap[gm]? = some (.cells (mC c) 45 (0,0)))(hne:g≠gm) :
    Calls Tryz.prog 144 #[.agg #[vP g 0,vP gm 0]] w (bQ g gm (dm 1968 c C).1 (dm 1968 c C).2 w):=by
 obtain⟨hcode1,hcode2⟩:=hcode
 have hlen:=hC.len
 refine en 4 Tryz.func144 rfl<|sg<|L0<|dF #[vP g 0,vP gm 0] fun i j k d a=>nt<|go<|L0<|cJ d<|?_
 have b:=ae.old hC a
 refine ax<|m3 (ji (most:=1968) ⟨hcode1,hcode2⟩ b (ub a hm) hne) fun l e f h=>?_
 have m:=(b).wordV
 have n:=bF (c6 (b).rng 1)
 refine nl<|rm (.tuple #[])<|?_
 exact cZ (by unfold dm;(try simp only[bq,reduceIte])<;>rfl) ⟨rfl,e,⟨_,⟨f,rfl⟩,⟨_,_,_,_,_,rfl,aI.nil ..,aI.nil ..,aI.nil ..,aI.nil ..,aI.nil ..,⟨(b8 (x:=c) (by omega)),(b8 (x:=0) (by omega)),(c7 (x:=C.wordV) (by omega)),(c7 (x:=(C.wordsC 1).wordV) (by omega)),(c7 (x:=0) (by omega)),(c7 (x:=0) (by omega)),(c7 (x:=0) (by omega)),(c7 (x:=0) (by omega)),(c7 (x:=0) (by omega)),(c7 (x:=0) (by omega)),(c7 (x:=0) (by omega)),(c7 (x:=0) (by omega)),(b8 (x:=0) (by omega)),(b8 (x:=0) (by omega)),(b8 (x:=0) (by omega)),(b8 (x:=0) (by omega)),(b8 (x:=0) (by omega))⟩⟩⟩,(uz a h)⟩
theorem pj(hcode:B8 c)(hC:ae w g C)(hm:w.heap[gm]? = some (.cells (mC c) 45 (0,0)))(hne:g≠gm) :
    Calls Tryz.prog 144 #[.agg #[vP g 0,vP gm 0]] w (nk g gm (bV C 1968) (mG c 0 C.wordV (C.wordsC 1).wordV 0 0 0 0 0 0 0 0 nS nS nS nS 0 0 0 0 0 nS) w):=by
 obtain⟨hcode1,hcode2⟩:=hcode
 have hlen:=hC.len
 refine en 4 Tryz.func144 rfl<|sg<|L0<|dF #[vP g 0,vP gm 0] fun i j k d a=>nt<|go<|L0<|cJ d<|?_
 have b:=ae.old hC a
 refine ax<|m3 (ji (most:=1968) ⟨hcode1,hcode2⟩ b (ub a hm) hne) fun l e f h=>?_
 have m:=(b).wordV
 have n:=bF (c6 (b).rng 1)
 refine nl<|rm (.tuple #[])<|?_
 have hs:bV C 1968=(bV C 1968):=by
   unfold bV ir
   (try simp only[bq,reduceIte])
   all_goals rfl
 rw[hs]
 exact⟨rfl,e,f,(uz a h)⟩
theorem tJ(hcode:B8 c)(hC:ae w g C)(hm:w.heap[gm]? = some (.cells (mC c) 45 (0,0)))(hne:g≠gm) :
    Calls Tryz.prog 143 #[.agg #[vP g 0,vP gm 0]] w (bQ g gm (fS c C).1 (fS c C).2 w):=by
 obtain⟨hcode1,hcode2⟩:=hcode
 have hlen:=hC.len
 refine en 46 Tryz.func143 rfl<|sg<|L0<|dF #[vP g 0,vP gm 0] fun q a3 F G f=>ng<|L0<|cJ G<|?_
 have u:=ae.old hC f
 refine ax<|m3 (pj ⟨hcode1,hcode2⟩ u (ub f hm) hne) fun a4 Q R k=>?_
 have a5:=(u).wordV
 have a6:=bF (c6 (u).rng 1)
 refine aL 1<|?_
 have l:=nb (ae.lt hC) lr F
 have H:=aE.blk k (aa (Ne.symm l) (aa (Ne.symm (nb (ag hm) lr F)) av)) G
 refine aH H 0<|ax<|m3 (bI Q) fun a7 S r a8=>be ((bV C 1968).byteV)<|ap 1<|sq<|Rg 12 (fun w'=>w'.cell? ⟨q,0,none⟩=some (vP g 0)∧w'.cell? ⟨q,1,none⟩=some (vP gm 0)∧w'.cell? ⟨gm,3,none⟩=some (vW ((C.wordsC 1).wordV))) fun a9 m=>?_
 have v:=aN r m
 have o:=aV v (Ne.symm l) H
 have y:=aV v (Ne.symm hne) R
 refine bA ⟨(am o rfl),(am o rfl),(am y rfl)⟩ fun a=>Rt 0 a<|Rl 1 a (fun _ hs=>hs.1)<|Rt 2 a<|Rt 3 a<|Rl 4 a (fun _ hs=>hs.2.1)<|Rt 5 a<|Rt 6 a<|Rl 7 a (fun _ hs=>hs.2.2)<|Rr 8 a (vI ((C.wordsC 1).wordV)) (fun _ _=>c9 (vI (IntKind.i64.wrap ((C.wordsC 1).wordV))) (by kernel_rfl) (congrArg (Value.int .i64) (i64_in (by omega))))<|R0 9 rfl<|Oc<|mq (jl (n:=(C.wordsC 1).wordV) (by omega))<|bA ⟨(am o rfl),(am o rfl),(am y rfl)⟩ fun T=>Rt 10 T<|?_
 refine R0 11 rfl<|Oc<|m2 (aY ((((bV C 1968).byteV)==(dP ((C.wordsC 1).wordV)))) 5 (ae.old S m)) fun ab U i=>?_
 have z:=aV i (Ne.symm l) o
 have I:=aV i (Ne.symm hne) y
 refine bA ⟨(am z rfl),(am z rfl),(am I rfl)⟩ fun ad=>re<|tn<|sq<|Rg 16 (fun w'=>w'.cell? ⟨q,0,none⟩=some (vP g 0)∧w'.cell? ⟨q,1,none⟩=some (vP gm 0)∧w'.cell? ⟨gm,3,none⟩=some (vW ((C.wordsC 1).wordV))) fun af d=>?_
 have A:=ub d z
 have J:=ub d I
 refine bA ⟨(am A rfl),(am A rfl),(am J rfl)⟩ fun b=>Rt 0 b<|Rl 1 b (fun _ hs=>hs.1)<|Rt 2 b<|Rt 4 b<|Rl 5 b (fun _ hs=>hs.2.1)<|Rt 6 b<|Rt 7 b<|Rl 8 b (fun _ hs=>hs.2.2)<|Rr 9 b (vI ((C.wordsC 1).wordV)) (fun _ _=>c9 (vI (IntKind.i64.wrap ((C.wordsC 1).wordV))) (by kernel_rfl) (congrArg (Value.int .i64) (i64_in (by omega))))<|?_
 have K:=ae.old U d
 refine R0 3 rfl<|Oc<|qm (bX (n:=(bV C 1968).byteV) K) fun V W aj X ak an Y j=>?_
 have ao:=Nat.le_trans (ah.bytesR_le (((bV C 1968).bytesC 1).need (((bV C 1968).byteV)==(dP ((C.wordsC 1).wordV))) 5) ((bV C 1968).byteV)) (ae.len K)
 have B:=aV j (Ne.symm l) A
 have L:=aV j (Ne.symm hne) J
 refine bA ⟨(am B rfl),(am B rfl),(am L rfl)⟩ fun ar=>R0 10 rfl<|Oc (args:=#[.slice V (((((bV C 1968).bytesC 1).need (((bV C 1968).byteV)==(dP ((C.wordsC 1).wordV))) 5).bytesR ((bV C 1968).byteV)).length) W,vI ((C.wordsC 1).wordV)])<|tv (o2 X (by omega) (by omega) (by omega)) fun Z a0 au D aw ay s=>?_
 have t:=ub s B
 have M:=ub s L
 refine bA ⟨(am t rfl),(am t rfl),(am M rfl)⟩ fun p=>Rt 11 p<|Rt 12 p<|Rt 13 p<|Rt 14 p<|Rt 15 p<|re<|tn<|aq 1<|aH t 0<|Pl 1<|?_
 refine ax<|m2 (aY ((bZ ((((bV C 1968).bytesC 1).need (((bV C 1968).byteV)==(dP ((C.wordsC 1).wordV))) 5).bytesR ((bV C 1968).byteV)) ((C.wordsC 1).wordV)).isSome) 6 (ae.old Y s)) fun az a1 E=>nt<|go<|Pl 1<|?_
 refine aH (aV E (Ne.symm l) t) 1<|Pl 3<|?_
 have N:=aV E (Ne.symm hne) M
 refine L0<|bD N 13 (mG c 0 C.wordV ((C.wordsC 1).wordV) 0 0 0 0 0 0 0 0 nS (.slice Z (((bZ ((((bV C 1968).bytesC 1).need (((bV C 1968).byteV)==(dP ((C.wordsC 1).wordV))) 5).bytesR ((bV C 1968).byteV)) ((C.wordsC 1).wordV)).getD []).length) a0) nS nS 0 0 0 0 0 nS) fun aB a2 O=>nl<|rm (.tuple #[])<|?_
 have P:=us E O
 exact cZ (by unfold fS oH oU gE od oq;(try simp only[bq,reduceIte])<;>rfl) ⟨rfl,(ae.upd a1 O (aa hne av) (ai (aT N (by decide)) aC)),⟨_,⟨a2,rfl⟩,⟨_,_,_,_,_,rfl,aI.nil ..,(aW.hi (al D P (fun x hx=>(aa (fun e=>(aG (ae.lt hC) (le (le (le (le (le (le f.size k.size) r.size) m.size) i.size) d.size) j.size) D) (e▸hx)) (aa (fun e=>(aG (ag hm) (le (le (le (le (le (le f.size k.size) r.size) m.size) i.size) d.size) j.size) D) (e▸hx)) av))) (fun _ _ h=>h)) (le (le (le (le (le (le f.size k.size) r.size) m.size) i.size) d.size) j.size)),aI.nil ..,aI.nil ..,aI.nil ..,⟨(b8 (x:=c) (by omega)),(b8 (x:=0) (by omega)),(c7 (x:=C.wordV) (by omega)),(c7 (x:=(C.wordsC 1).wordV) (by omega)),(c7 (x:=0) (by omega)),(c7 (x:=0) (by omega)),(c7 (x:=0) (by omega)),(c7 (x:=0) (by omega)),(c7 (x:=0) (by omega)),(c7 (x:=0) (by omega)),(c7 (x:=0) (by omega)),(c7 (x:=0) (by omega)),(b8 (x:=0) (by omega)),(b8 (x:=0) (by omega)),(b8 (x:=0) (by omega)),(b8 (x:=0) (by omega)),(b8 (x:=0) (by omega))⟩⟩⟩,(uz f (ut k (ui v (ui i (uz d (ui j (uz s P))))) (ac im (ac im aA))))⟩
open Go.RowKit
theorem tW(c:Int) : c=1∨c=2∨c=5∨c=15∨(c≠1∧c≠2∧c≠5∧c≠15):=by omega
theorem jX(hcode:B8 c)(hsl:aX m w (.slice A b.length cp) b)(hb:b.length≤1048576) :
    Calls Tryz.prog 96 #[vI 0,vB c,.slice A b.length cp] w (dG (aj aP 0 c b) w):=by
 obtain⟨hcode1,hcode2⟩:=hcode
 have hln:(b.length:Int)≤1048576:=by omega
 refine en 72 Tryz.func96 rfl<|sg<|aK mZ fun a5 bY P H t=>ap 1<|sq<|az 6<|c0<|bz<|aq 2<|aK mZ fun a bZ y p z=>aD p (mC c) fun c2 I f=>aL 1<|?_
 have B:=ud z f y
 have Q:=aN t B
 refine ax<|e3 (di (aX.old hsl Q) (by omega)) fun d c3 r D i=>Pl 1<|aK #[.pointer none,.pointer none] fun a6 c5 E a7 s=>aD a7 #[vP d 0,vP a 0] fun c6 aG j=>ng<|L0<|sL fun c7 c9 J aI k=>?_
 have R:=ub k aG
 refine L0<|cJ R<|Pl 1<|L0<|cJ R<|Pl 2<|L0<|fH aI 1 fun ca aM l=>?_
 have K:=nb (ag a7) j.size J
 have S:=aV l K R
 refine L0<|cJ S<|Pl 1<|L0<|cJ S<|Pl 2<|L0<|fH aM 2 fun cc aO n=>?_
 have T:=aV n K S
 refine L0<|cJ T<|Pl 1<|L0<|cJ T<|Pl 2<|L0<|fH aO 5 fun cd aQ o=>?_
 have U:=aV o K T
 refine L0<|cJ U<|Pl 1<|L0<|cJ U<|Pl 2<|L0<|fH aQ 15 fun aR F u=>ap 2<|xf (fun x=>[(6,vP a5 0),(8,vP a 0),(9,vP a6 0)]) (fun(x:ah × Array Value × b7) w'=>aE [d,a] aR w'∧ae w' d x.1∧w'.heap[a]? = some (.cells x.2.1 45 (0,0))∧aU (.hi w.heap.size) w' x.2.1.toList x.2.2∧(aj aP 0 c b=bp x.2.2 x.1)) ?_ fun L=>?_
 rintro⟨C,cs,M⟩ V ⟨aS,aW,aY,aZ,b0⟩
 refine f5 [(6,vP a5 0),(8,vP a 0),(9,vP a6 0)] ?_
 have a8:ae V d C:=aW
 have b1:V.heap[a]? = some (.cells cs 45 (0,0)):=aY
 have N:aU (.hi w.heap.size) V cs.toList M:=aZ
 have W:=aU.size N
 have a9:aj aP 0 c b=bp M C:=b0
 refine aq 1<|?_
 have X:=us u aS
 have ac:=nb (ae.lt D) lr E
 have ad:=aE.blk X (aa K (aa (Ne.symm ac) (aa (Ne.symm (nb (ag p) (le f.size i.size) E)) av))) U
 refine aH ad 0<|ax<|m2 (dI a8) fun ce af O=>nt<|sq<|aq 1<|?_
 refine aH (aV O (Ne.symm ac) ad) 0<|ax<|mq (c4 af)<|?_
 have cf:=ae.len af
 refine Pl 1<|db 2<|?_
 have Y:=ud i (ud s (us j (ud k (ui l (ui n (ui o (u1 X O im)))) J)) E) r
 have ak:=ud Q Y (le t.size y)
 refine cb ((C.endC.e != 0)) (fun Z=>?_) (fun Z=>?_)
 have a0:=ay Z
 refine aq 2<|?_
 refine aD (ub (ud B Y y) H) mZ fun cg b2 b3=>ap 1<|bj<|c8 b2 (vI C.endC.e)<|?_
 rw[a9]
 exact cA a0 (ud ak b3 P)
 have a0:=aJ Z
 refine bz<|sg<|?_
 refine L0<|cJ (hz:=(by rw[W];exact b6)) (aV O (nb (ag p) f.size r) b1)<|?_
 refine aD (hz:=(by rw[W];exact b6)) (hv:=N.size) (h1:=N.one) (ub (ud B Y y) H) (cs) fun ch b4 al=>ap 1<|rt<|eu 22 W b4 (vI 0)<|?_
 rw[a9]
 exact cW a0 (aU.upd N (us O al) (ai (ae.safe a8 _ (by decide)) (ai (aT (ub (ud B (ud i (ud s (us j (ud k (ui l (ui n (ui o X))) J)) E) r) y) H) (by decide)) aC))) (ud ak al P)
 refine aq 2<|?_
 have G:=ud s (aN j (ud k (u1 l (u1 n (u1 o u im) im) im) J)) E
 have v:=aN i G
 rcases tW c with hk|hk|hk|hk|hk
 have k1:(c==1)=true:=by rw[hk];rfl
 have k2:(c==2)=false:=by rw[hk];rfl
 have k5:(c==5)=false:=by rw[hk];rfl
 have g:(c==15)=false:=by rw[hk];rfl
 refine L0<|lE (hf:=(by subst hk;kernel_rfl)) F c (.agg #[.nilFunc,.nilFunc]) (some (0,.agg #[.func (.func 140) #[.agg #[vP d 0,vP a 0]] #[],.func (.func 141) #[.agg #[vP d 0,vP a 0]] #[]]))<|Pl 3<|aK #[.nilFunc,.nilFunc] fun ci cj b5 b8 am=>aD b8 #[.func (.func 140) #[.agg #[vP d 0,vP a 0]] #[],.func (.func 141) #[.agg #[vP d 0,vP a 0]] #[]] fun ck b9 an=>ap 1<|sq<|az 2<|c0<|bz<|aq 2<|aH b9 0<|?_
 have a1:=ud am an b5
 refine L0<|i7 #[.agg #[vP d 0,vP a 0]] #[] (args:=#[.agg #[vP d 0,vP a 0]])<|m3 (gR (c:=c) ⟨hcode1,hcode2⟩ (ae.old D (aN G a1)) (ub (aN v a1) I) (Ne.symm (nb (ag p) f.size r))) fun cl ba bb bc=>?_
 obtain⟨cm,bd,be⟩:=bb
 refine ab ba fun bf bg bh=>?_
 refine nt<|?_
 exact L (bf,_,(dm 2000 c (ah.mk b false 0)).2) ⟨(uz a1 bc),bh,bd.1,(aU.lo be (le (le (le (le (le (le (le (le (le (le (le (le t.size z.size) f.size) i.size) s.size) j.size) k.size) l.size) n.size) o.size) u.size) am.size) an.size)),by subst bg;unfold aj aP ;(try simp only[bq,cR,cN,cO,cQ,cP,reduceIte,k1,k2,k5,g])<;>rfl⟩
 have k1:(c==1)=false:=by rw[hk];rfl
 have k2:(c==2)=true:=by rw[hk];rfl
 have k5:(c==5)=false:=by rw[hk];rfl
 have g:(c==15)=false:=by rw[hk];rfl
 refine L0<|lE (hf:=(by subst hk;kernel_rfl)) F c (.agg #[.nilFunc,.nilFunc]) (some (1,.agg #[.func (.func 140) #[.agg #[vP d 0,vP a 0]] #[],.func (.func 141) #[.agg #[vP d 0,vP a 0]] #[]]))<|Pl 3<|aK #[.nilFunc,.nilFunc] fun cn co bi bk ao=>aD bk #[.func (.func 140) #[.agg #[vP d 0,vP a 0]] #[],.func (.func 141) #[.agg #[vP d 0,vP a 0]] #[]] fun cq bl ar=>ap 1<|sq<|az 2<|c0<|bz<|aq 2<|aH bl 0<|?_
 have a2:=ud ao ar bi
 refine L0<|i7 #[.agg #[vP d 0,vP a 0]] #[] (args:=#[.agg #[vP d 0,vP a 0]])<|m3 (gR (c:=c) ⟨hcode1,hcode2⟩ (ae.old D (aN G a2)) (ub (aN v a2) I) (Ne.symm (nb (ag p) f.size r))) fun cr bm bn bo=>?_
 obtain⟨ct,br,bs⟩:=bn
 refine ab bm fun bt bu bv=>?_
 refine nt<|?_
 exact L (bt,_,(dm 2000 c (ah.mk b false 0)).2) ⟨(uz a2 bo),bv,br.1,(aU.lo bs (le (le (le (le (le (le (le (le (le (le (le (le t.size z.size) f.size) i.size) s.size) j.size) k.size) l.size) n.size) o.size) u.size) ao.size) ar.size)),by subst bu;unfold aj aP ;(try simp only[bq,cR,cN,cO,cQ,cP,reduceIte,k1,k2,k5,g])<;>rfl⟩
 have k1:(c==1)=false:=by rw[hk];rfl
 have k2:(c==2)=false:=by rw[hk];rfl
 have k5:(c==5)=true:=by rw[hk];rfl
 have g:(c==15)=false:=by rw[hk];rfl
 refine L0<|lE (hf:=(by subst hk;kernel_rfl)) F c (.agg #[.nilFunc,.nilFunc]) (some (2,.agg #[.func (.func 142) #[.agg #[vP d 0,vP a 0]] #[],.func (.func 142) #[.agg #[vP d 0,vP a 0]] #[]]))<|Pl 3<|aK #[.nilFunc,.nilFunc] fun cu cv bw bx au=>aD bx #[.func (.func 142) #[.agg #[vP d 0,vP a 0]] #[],.func (.func 142) #[.agg #[vP d 0,vP a 0]] #[]] fun cw bA aw=>ap 1<|sq<|az 2<|c0<|bz<|aq 2<|aH bA 0<|?_
 have a3:=ud au aw bw
 refine L0<|i7 #[.agg #[vP d 0,vP a 0]] #[] (args:=#[.agg #[vP d 0,vP a 0]])<|m3 (kH (c:=c) ⟨hcode1,hcode2⟩ (ae.old D (aN G a3)) (ub (aN v a3) I) (Ne.symm (nb (ag p) f.size r))) fun cx bB bC bD=>?_
 obtain⟨cy,bE,bF⟩:=bC
 refine ab bB fun bG bH bI=>?_
 refine nt<|?_
 exact L (bG,_,(cL c (ah.mk b false 0)).2) ⟨(uz a3 bD),bI,bE.1,(aU.lo bF (le (le (le (le (le (le (le (le (le (le (le (le t.size z.size) f.size) i.size) s.size) j.size) k.size) l.size) n.size) o.size) u.size) au.size) aw.size)),by subst bH;unfold aj aP ;(try simp only[bq,cR,cN,cO,cQ,cP,reduceIte,k1,k2,k5,g])<;>rfl⟩
 have k1:(c==1)=false:=by rw[hk];rfl
 have k2:(c==2)=false:=by rw[hk];rfl
 have k5:(c==5)=false:=by rw[hk];rfl
 have g:(c==15)=true:=by rw[hk];rfl
 refine L0<|lE (hf:=(by subst hk;kernel_rfl)) F c (.agg #[.nilFunc,.nilFunc]) (some (3,.agg #[.func (.func 143) #[.agg #[vP d 0,vP a 0]] #[],.func (.func 144) #[.agg #[vP d 0,vP a 0]] #[]]))<|Pl 3<|aK #[.nilFunc,.nilFunc] fun cz cB bJ bK aA=>aD bK #[.func (.func 143) #[.agg #[vP d 0,vP a 0]] #[],.func (.func 144) #[.agg #[vP d 0,vP a 0]] #[]] fun cC bL aB=>ap 1<|sq<|az 2<|c0<|bz<|aq 2<|aH bL 0<|?_
 have a4:=ud aA aB bJ
 refine L0<|i7 #[.agg #[vP d 0,vP a 0]] #[] (args:=#[.agg #[vP d 0,vP a 0]])<|m3 (tJ (c:=c) ⟨hcode1,hcode2⟩ (ae.old D (aN G a4)) (ub (aN v a4) I) (Ne.symm (nb (ag p) f.size r))) fun cD bM bN bO=>?_
 obtain⟨cE,bP,bQ⟩:=bN
 refine nt<|?_
 exact L ((fS c (ah.mk b false 0)).1,_,(fS c (ah.mk b false 0)).2) ⟨(uz a4 bO),bM,bP.1,(aU.lo bQ (le (le (le (le (le (le (le (le (le (le (le (le t.size z.size) f.size) i.size) s.size) j.size) k.size) l.size) n.size) o.size) u.size) aA.size) aB.size)),by unfold aj aP ;(try simp only[bq,cR,cN,cO,cQ,cP,reduceIte,k1,k2,k5,g])<;>rfl⟩
 have k1:(c==1)=false:=by simpa using hk.1
 have k2:(c==2)=false:=by simpa using hk.2.1
 have k5:(c==5)=false:=by simpa using hk.2.2.1
 have g:(c==15)=false:=by simpa using hk.2.2.2
 refine L0<|lE (hf:=(we (q:=.u8) (x:=c) #[⟨vB 1,.agg #[.func (.func 140) #[.agg #[vP d 0,vP a 0]] #[],.func (.func 141) #[.agg #[vP d 0,vP a 0]] #[]],0⟩,⟨vB 2,.agg #[.func (.func 140) #[.agg #[vP d 0,vP a 0]] #[],.func (.func 141) #[.agg #[vP d 0,vP a 0]] #[]],1⟩,⟨vB 5,.agg #[.func (.func 142) #[.agg #[vP d 0,vP a 0]] #[],.func (.func 142) #[.agg #[vP d 0,vP a 0]] #[]],2⟩,⟨vB 15,.agg #[.func (.func 143) #[.agg #[vP d 0,vP a 0]] #[],.func (.func 144) #[.agg #[vP d 0,vP a 0]] #[]],3⟩] (eP _ _ (by intro e he;simp only[List.mem_cons,List.not_mem_nil,or_false] at he;obtain⟨z1,z2,z5,cF⟩:=hk;rcases he with rfl | rfl | rfl | rfl<;>exact⟨_,rfl,fun h=>by simp_all⟩)))) F c (.agg #[.nilFunc,.nilFunc]) none<|Pl 3<|aK #[.nilFunc,.nilFunc] fun cG cH bR bS bT=>aD bS #[.nilFunc,.nilFunc] fun cI cK bV=>ap 1<|sq<|az 2<|c1<|aq 1<|?_
 have aF:=ud bT bV bR
 refine aD (ub (aN B (aN v aF)) H) mZ fun cM bW bX=>ap 1<|bj<|c8 bW (vI 4)<|?_
 exact cZ (by unfold aj aP;(try simp only[bq,cR,cN,cO,cQ,cP,reduceIte,k1,k2,k5,g])<;>rfl) (bU (ud (aN Q v) (uz aF bX) P))
theorem kq(hcode:B8 c)(hsl:aX m w (.slice A b.length cp) b)(hb:b.length≤1048576) :
    Calls Tryz.prog 96 #[vI 1,vB c,.slice A b.length cp] w (dG (aj aP 1 c b) w):=by
 obtain⟨hcode1,hcode2⟩:=hcode
 have hln:(b.length:Int)≤1048576:=by omega
 refine en 72 Tryz.func96 rfl<|sg<|aK mZ fun a5 c3 P H t=>ap 1<|sq<|az 6<|c0<|bz<|aq 2<|aK mZ fun a c5 y p z=>aD p (mC c) fun c6 I f=>aL 1<|?_
 have B:=ud z f y
 have Q:=aN t B
 refine ax<|e3 (di (aX.old hsl Q) (by omega)) fun d c7 r D i=>Pl 1<|aK #[.pointer none,.pointer none] fun a6 c9 E a7 s=>aD a7 #[vP d 0,vP a 0] fun ca aG j=>ng<|L0<|sL fun cc cd J aI k=>?_
 have R:=ub k aG
 refine L0<|cJ R<|Pl 1<|L0<|cJ R<|Pl 2<|L0<|fH aI 1 fun ce aM l=>?_
 have K:=nb (ag a7) j.size J
 have S:=aV l K R
 refine L0<|cJ S<|Pl 1<|L0<|cJ S<|Pl 2<|L0<|fH aM 2 fun cf aO n=>?_
 have T:=aV n K S
 refine L0<|cJ T<|Pl 1<|L0<|cJ T<|Pl 2<|L0<|fH aO 5 fun cg aQ o=>?_
 have U:=aV o K T
 refine L0<|cJ U<|Pl 1<|L0<|cJ U<|Pl 2<|L0<|fH aQ 15 fun aR F u=>ap 2<|xf (fun x=>[(6,vP a5 0),(8,vP a 0),(9,vP a6 0)]) (fun(x:ah × Array Value × b7) w'=>aE [d,a] aR w'∧ae w' d x.1∧w'.heap[a]? = some (.cells x.2.1 45 (0,0))∧aU (.hi w.heap.size) w' x.2.1.toList x.2.2∧(aj aP 1 c b=bp x.2.2 x.1)) ?_ fun L=>?_
 rintro⟨C,cs,M⟩ V ⟨aS,aW,aY,aZ,b0⟩
 refine f5 [(6,vP a5 0),(8,vP a 0),(9,vP a6 0)] ?_
 have a8:ae V d C:=aW
 have b1:V.heap[a]? = some (.cells cs 45 (0,0)):=aY
 have N:aU (.hi w.heap.size) V cs.toList M:=aZ
 have W:=aU.size N
 have a9:aj aP 1 c b=bp M C:=b0
 refine aq 1<|?_
 have X:=us u aS
 have ac:=nb (ae.lt D) lr E
 have ad:=aE.blk X (aa K (aa (Ne.symm ac) (aa (Ne.symm (nb (ag p) (le f.size i.size) E)) av))) U
 refine aH ad 0<|ax<|m2 (dI a8) fun ch af O=>nt<|sq<|aq 1<|?_
 refine aH (aV O (Ne.symm ac) ad) 0<|ax<|mq (c4 af)<|?_
 have ci:=ae.len af
 refine Pl 1<|db 2<|?_
 have Y:=ud i (ud s (us j (ud k (ui l (ui n (ui o (u1 X O im)))) J)) E) r
 have ak:=ud Q Y (le t.size y)
 refine cb ((C.endC.e != 0)) (fun Z=>?_) (fun Z=>?_)
 have a0:=ay Z
 refine aq 2<|?_
 refine aD (ub (ud B Y y) H) mZ fun cj b2 b3=>ap 1<|bj<|c8 b2 (vI C.endC.e)<|?_
 rw[a9]
 exact cA a0 (ud ak b3 P)
 have a0:=aJ Z
 refine bz<|sg<|?_
 refine L0<|cJ (hz:=(by rw[W];exact b6)) (aV O (nb (ag p) f.size r) b1)<|?_
 refine aD (hz:=(by rw[W];exact b6)) (hv:=N.size) (h1:=N.one) (ub (ud B Y y) H) (cs) fun ck b4 al=>ap 1<|rt<|eu 22 W b4 (vI 0)<|?_
 rw[a9]
 exact cW a0 (aU.upd N (us O al) (ai (ae.safe a8 _ (by decide)) (ai (aT (ub (ud B (ud i (ud s (us j (ud k (ui l (ui n (ui o X))) J)) E) r) y) H) (by decide)) aC))) (ud ak al P)
 refine aq 2<|?_
 have G:=ud s (aN j (ud k (u1 l (u1 n (u1 o u im) im) im) J)) E
 have v:=aN i G
 rcases tW c with hk|hk|hk|hk|hk
 have k1:(c==1)=true:=by rw[hk];rfl
 have k2:(c==2)=false:=by rw[hk];rfl
 have k5:(c==5)=false:=by rw[hk];rfl
 have g:(c==15)=false:=by rw[hk];rfl
 refine L0<|lE (hf:=(by subst hk;kernel_rfl)) F c (.agg #[.nilFunc,.nilFunc]) (some (0,.agg #[.func (.func 140) #[.agg #[vP d 0,vP a 0]] #[],.func (.func 141) #[.agg #[vP d 0,vP a 0]] #[]]))<|Pl 3<|aK #[.nilFunc,.nilFunc] fun cl cm b5 b8 am=>aD b8 #[.func (.func 140) #[.agg #[vP d 0,vP a 0]] #[],.func (.func 141) #[.agg #[vP d 0,vP a 0]] #[]] fun cn b9 an=>ap 1<|sq<|az 2<|c0<|bz<|aq 2<|aH b9 1<|?_
 have a1:=ud am an b5
 refine L0<|i7 #[.agg #[vP d 0,vP a 0]] #[] (args:=#[.agg #[vP d 0,vP a 0]])<|m3 (kT (c:=c) ⟨hcode1,hcode2⟩ (ae.old D (aN G a1)) (ub (aN v a1) I) (Ne.symm (nb (ag p) f.size r))) fun co ba bb bc=>?_
 obtain⟨cq,bd,be⟩:=bb
 refine ab ba fun bf bg bh=>?_
 refine nt<|?_
 exact L (bf,_,(dg c (ah.mk b false 0)).2) ⟨(uz a1 bc),bh,bd.1,(aU.lo be (le (le (le (le (le (le (le (le (le (le (le (le t.size z.size) f.size) i.size) s.size) j.size) k.size) l.size) n.size) o.size) u.size) am.size) an.size)),by subst bg;unfold aj aP ;(try simp only[bq,cR,cN,cO,cQ,cP,reduceIte,k1,k2,k5,g])<;>rfl⟩
 have k1:(c==1)=false:=by rw[hk];rfl
 have k2:(c==2)=true:=by rw[hk];rfl
 have k5:(c==5)=false:=by rw[hk];rfl
 have g:(c==15)=false:=by rw[hk];rfl
 refine L0<|lE (hf:=(by subst hk;kernel_rfl)) F c (.agg #[.nilFunc,.nilFunc]) (some (1,.agg #[.func (.func 140) #[.agg #[vP d 0,vP a 0]] #[],.func (.func 141) #[.agg #[vP d 0,vP a 0]] #[]]))<|Pl 3<|aK #[.nilFunc,.nilFunc] fun cr ct bi bk ao=>aD bk #[.func (.func 140) #[.agg #[vP d 0,vP a 0]] #[],.func (.func 141) #[.agg #[vP d 0,vP a 0]] #[]] fun cu bl ar=>ap 1<|sq<|az 2<|c0<|bz<|aq 2<|aH bl 1<|?_
 have a2:=ud ao ar bi
 refine L0<|i7 #[.agg #[vP d 0,vP a 0]] #[] (args:=#[.agg #[vP d 0,vP a 0]])<|m3 (kT (c:=c) ⟨hcode1,hcode2⟩ (ae.old D (aN G a2)) (ub (aN v a2) I) (Ne.symm (nb (ag p) f.size r))) fun cv bm bn bo=>?_
 obtain⟨cw,br,bs⟩:=bn
 refine ab bm fun bt bu bv=>?_
 refine nt<|?_
 exact L (bt,_,(dg c (ah.mk b false 0)).2) ⟨(uz a2 bo),bv,br.1,(aU.lo bs (le (le (le (le (le (le (le (le (le (le (le (le t.size z.size) f.size) i.size) s.size) j.size) k.size) l.size) n.size) o.size) u.size) ao.size) ar.size)),by subst bu;unfold aj aP ;(try simp only[bq,cR,cN,cO,cQ,cP,reduceIte,k1,k2,k5,g])<;>rfl⟩
 have k1:(c==1)=false:=by rw[hk];rfl
 have k2:(c==2)=false:=by rw[hk];rfl
 have k5:(c==5)=true:=by rw[hk];rfl
 have g:(c==15)=false:=by rw[hk];rfl
 refine L0<|lE (hf:=(by subst hk;kernel_rfl)) F c (.agg #[.nilFunc,.nilFunc]) (some (2,.agg #[.func (.func 142) #[.agg #[vP d 0,vP a 0]] #[],.func (.func 142) #[.agg #[vP d 0,vP a 0]] #[]]))<|Pl 3<|aK #[.nilFunc,.nilFunc] fun cx cy bw bx au=>aD bx #[.func (.func 142) #[.agg #[vP d 0,vP a 0]] #[],.func (.func 142) #[.agg #[vP d 0,vP a 0]] #[]] fun cz bA aw=>ap 1<|sq<|az 2<|c0<|bz<|aq 2<|aH bA 1<|?_
 have a3:=ud au aw bw
 refine L0<|i7 #[.agg #[vP d 0,vP a 0]] #[] (args:=#[.agg #[vP d 0,vP a 0]])<|m3 (kH (c:=c) ⟨hcode1,hcode2⟩ (ae.old D (aN G a3)) (ub (aN v a3) I) (Ne.symm (nb (ag p) f.size r))) fun cB bB bC bD=>?_
 obtain⟨cC,bE,bF⟩:=bC
 refine ab bB fun bG bH bI=>?_
 refine nt<|?_
 exact L (bG,_,(cL c (ah.mk b false 0)).2) ⟨(uz a3 bD),bI,bE.1,(aU.lo bF (le (le (le (le (le (le (le (le (le (le (le (le t.size z.size) f.size) i.size) s.size) j.size) k.size) l.size) n.size) o.size) u.size) au.size) aw.size)),by subst bH;unfold aj aP ;(try simp only[bq,cR,cN,cO,cQ,cP,reduceIte,k1,k2,k5,g])<;>rfl⟩
 have k1:(c==1)=false:=by rw[hk];rfl
 have k2:(c==2)=false:=by rw[hk];rfl
 have k5:(c==5)=false:=by rw[hk];rfl
 have g:(c==15)=true:=by rw[hk];rfl
 refine L0<|lE (hf:=(by subst hk;kernel_rfl)) F c (.agg #[.nilFunc,.nilFunc]) (some (3,.agg #[.func (.func 143) #[.agg #[vP d 0,vP a 0]] #[],.func (.func 144) #[.agg #[vP d 0,vP a 0]] #[]]))<|Pl 3<|aK #[.nilFunc,.nilFunc] fun cD cE bJ bK aA=>aD bK #[.func (.func 143) #[.agg #[vP d 0,vP a 0]] #[],.func (.func 144) #[.agg #[vP d 0,vP a 0]] #[]] fun cF bL aB=>ap 1<|sq<|az 2<|c0<|bz<|aq 2<|aH bL 1<|?_
 have a4:=ud aA aB bJ
 refine L0<|i7 #[.agg #[vP d 0,vP a 0]] #[] (args:=#[.agg #[vP d 0,vP a 0]])<|m3 (qE (c:=c) ⟨hcode1,hcode2⟩ (ae.old D (aN G a4)) (ub (aN v a4) I) (Ne.symm (nb (ag p) f.size r))) fun cG bM bN bO=>?_
 obtain⟨cH,bP,bQ⟩:=bN
 refine ab bM fun bR bS bT=>?_
 refine nt<|?_
 exact L (bR,_,(dm 1968 c (ah.mk b false 0)).2) ⟨(uz a4 bO),bT,bP.1,(aU.lo bQ (le (le (le (le (le (le (le (le (le (le (le (le t.size z.size) f.size) i.size) s.size) j.size) k.size) l.size) n.size) o.size) u.size) aA.size) aB.size)),by subst bS;unfold aj aP ;(try simp only[bq,cR,cN,cO,cQ,cP,reduceIte,k1,k2,k5,g])<;>rfl⟩
 have k1:(c==1)=false:=by simpa using hk.1
 have k2:(c==2)=false:=by simpa using hk.2.1
 have k5:(c==5)=false:=by simpa using hk.2.2.1
 have g:(c==15)=false:=by simpa using hk.2.2.2
 refine L0<|lE (hf:=(we (q:=.u8) (x:=c) #[⟨vB 1,.agg #[.func (.func 140) #[.agg #[vP d 0,vP a 0]] #[],.func (.func 141) #[.agg #[vP d 0,vP a 0]] #[]],0⟩,⟨vB 2,.agg #[.func (.func 140) #[.agg #[vP d 0,vP a 0]] #[],.func (.func 141) #[.agg #[vP d 0,vP a 0]] #[]],1⟩,⟨vB 5,.agg #[.func (.func 142) #[.agg #[vP d 0,vP a 0]] #[],.func (.func 142) #[.agg #[vP d 0,vP a 0]] #[]],2⟩,⟨vB 15,.agg #[.func (.func 143) #[.agg #[vP d 0,vP a 0]] #[],.func (.func 144) #[.agg #[vP d 0,vP a 0]] #[]],3⟩] (eP _ _ (by intro e he;simp only[List.mem_cons,List.not_mem_nil,or_false] at he;obtain⟨z1,z2,z5,cI⟩:=hk;rcases he with rfl | rfl | rfl | rfl<;>exact⟨_,rfl,fun h=>by simp_all⟩)))) F c (.agg #[.nilFunc,.nilFunc]) none<|Pl 3<|aK #[.nilFunc,.nilFunc] fun cK cM bV bW bX=>aD bW #[.nilFunc,.nilFunc] fun cS cT bY=>ap 1<|sq<|az 2<|c1<|aq 1<|?_
 have aF:=ud bX bY bV
 refine aD (ub (aN B (aN v aF)) H) mZ fun cU bZ c2=>ap 1<|bj<|c8 bZ (vI 4)<|?_
 exact cZ (by unfold aj aP;(try simp only[bq,cR,cN,cO,cQ,cP,reduceIte,k1,k2,k5,g])<;>rfl) (bU (ud (aN Q v) (uz aF c2) P))
theorem jV(hcode:B8 c)(hsl:aX m w (.slice A b.length cp) b)(hb:b.length≤1048576)(hd:¬ (dir=0∨dir=1)) :
    Calls Tryz.prog 96 #[vI dir,vB c,.slice A b.length cp] w (dG (aj aP dir c b) w):=by
 obtain⟨hcode1,hcode2⟩:=hcode
 have hln:(b.length:Int)≤1048576:=by omega
 have e0:(dir != 0)=true:=by simp;omega
 have e1:(dir != 1)=true:=by simp;omega
 refine en 72 Tryz.func96 rfl<|sg<|aK mZ fun g h a d e=>ap 1<|sq<|aq 3<|sy 16 e0<|Pl 3<|nl<|tn<|ct e1<|aq 1<|aD d mZ fun i dB f=>ap 1<|bj<|c8 dB (vI 1)<|?_
 exact cZ (by unfold aj aP;(try simp only[e0,e1,bq,cR,cN,cO,cQ,cP,reduceIte,hd])<;>rfl) (bU (ud e f a))
theorem mr{v:Value}    (hc:B8 c)(h:aX m w v b)(hb:b.length≤1048576) :
    Calls Tryz.prog 96 #[.int .i64 dir,.int .u8 c,v] w (dG (aj aP dir c b) w):=by
  obtain⟨A,cp,rfl,_,_⟩:=h.shape
  by_cases h0:dir=0
  · subst h0;exact jX hc h hb
  by_cases h1:dir=1
  · subst h1;exact kq hc h hb
  exact jV hc h hb (by omega)
open Go.RowKit
def dp (c:ah) : ah:=(c.wordsC 1).need (c.wordV==0 || c.wordV==65535) 6
variable {v:Int}
theorem vc(h:0≤v∧v<65536) : bits .and .u16 v 255=v%256:=by
  rw[u16_and v 255 h.1 h.2 (by decide) (by decide)]
  show((v.toNat &&& (2 ^ 8-1) : Nat) : Int)=_
  rw[Nat.and_two_pow_sub_one_eq_mod]
  omega
def fd (dir sub v:Int) : Bool:=if (sub==2 || (decide (11≤sub)&&decide (sub≤18)))&&dir==1 then true else if sub==1 then v==0 || v==65280 else if sub==3 then v%256==0 else v==0
theorem mS{c:ah}  (hc:ae w g c) :
    Calls Tryz.prog 212 #[vP g 0] w (kA g .u16 65536 c.wordV (dp c) w):=by
 have hr:=hc.wordV
 refine en 15 Tryz.func212 rfl<|aq 1<|aL 1<|ax<|m3 (bN hc) fun k a b l=>ap 1<|sq<|go<|Pl 4<|ea 3 [9] 12 9 (c.wordV==0) (c.wordV==65535) (fun K d e=>?_) ?_
 have m:=au e
 exact Pl 3<|ce d _ rfl
 refine ax<|m2 (aY (((c.wordV==0)||(c.wordV==65535))) 6 a) fun n f h=>?_
 refine ab f fun x19 i j=>?_
 refine db 2<|rt<|rr (vW c.wordV)<|?_
 subst i
 exact⟨rfl,j,(u1 b h im),hr⟩
theorem qP:Calls Tryz.prog 231 #[vW v] w (bW (.bool (v==0 || v==65280)) w):=by
 refine en 9 Tryz.func231 rfl<|aq 1<|aL 3<|ea 3 [5] 8 5 (v==0) (v==65280) (fun K a b=>?_) ?_
 have c:=au b
 exact Pl 3<|ce a _ rfl
 exact ap 1<|rt<|rr (.bool ((v==0)||(v==65280)))<|⟨rfl,(aE.refl [] _)⟩
theorem qJ(hv:0≤v∧v<65536) : Calls Tryz.prog 232 #[vW v] w (bW (.bool (v%256==0)) w):=by
 exact en 6 Tryz.func232 rfl<|aq 1<|aL 1<|L0<|Oe (vW (bits .and .u16 v 255)) (vW (v%256)) (congrArg (Value.int .u16) (vc (by omega)))<|ap 2<|rt<|rr (.bool ((v%256)==0))<|⟨rfl,(aE.refl [] _)⟩
theorem rv{x:Int}{gb:Nat}  (hB:w.heap[gb]? = some (.cells #[vW v] 37 (0,0))) : Calls Tryz.prog 230 #[vW x,vP gb 0] w (bW (.bool (v==0)) w):=by
 exact en 6 Tryz.func230 rfl<|aq 1<|ng<|aH hB 0<|ap 2<|rt<|rr (.bool (v==0))<|⟨rfl,(aE.refl [] _)⟩
theorem vH(hv:0≤v∧v<65536) : Calls Tryz.prog 211 #[vI dir,vW 1,vW v] w (bW (.bool (fd dir 1 v)) w):=by
 refine en 42 Tryz.func211 rfl<|sg<|L0<|dF #[vW v] fun l m n b c=>Pl 1<|aL 2<|ng<|L0<|sL fun o p d e f=>L0<|fH e 1 fun q g h=>L0<|fH g 3 fun r i j=>Pl 2<|db 11<|sq<|az 5<|c0<|bz<|aq 2<|L0<|lE i 1 (.nilFunc) (some (0,.func (.func 231) #[] #[]))<|ap 5<|sq<|az 2<|c0<|bz<|aq 1<|?_
 have a:=ud f (u1 h j im) d
 refine aH (ub a b) 0<|L0<|i7 #[] #[] (args:=#[vW v])<|m1 (qP) fun s k=>ap 1<|rt<|rr (.bool (v==0 || v==65280))<|?_
 exact cZ (by unfold fd;(try simp only[bq,reduceIte])<;>rfl) ⟨rfl,(aN c (aN a k))⟩
theorem vO(hv:0≤v∧v<65536) : Calls Tryz.prog 211 #[vI dir,vW 3,vW v] w (bW (.bool (fd dir 3 v)) w):=by
 refine en 42 Tryz.func211 rfl<|sg<|L0<|dF #[vW v] fun l m n b c=>Pl 1<|aL 2<|ng<|L0<|sL fun o p d e f=>L0<|fH e 1 fun q g h=>L0<|fH g 3 fun r i j=>Pl 2<|db 11<|sq<|az 5<|c0<|bz<|aq 2<|L0<|lE i 3 (.nilFunc) (some (1,.func (.func 232) #[] #[]))<|ap 5<|sq<|az 2<|c0<|bz<|aq 1<|?_
 have a:=ud f (u1 h j im) d
 refine aH (ub a b) 0<|L0<|i7 #[] #[] (args:=#[vW v])<|m1 (qJ hv) fun s k=>ap 1<|rt<|rr (.bool (v%256==0))<|?_
 exact cZ (by unfold fd;(try simp only[bq,reduceIte])<;>rfl) ⟨rfl,(aN c (aN a k))⟩
theorem uq{sub:Int}  (hv:0≤v∧v<65536)(h1:sub≠1)(h3:sub≠3) : Calls Tryz.prog 211 #[vI dir,vW sub,vW v] w (bW (.bool (fd dir sub v)) w):=by
 have n1:(sub==1)=false:=by simpa using h1
 have n3:(sub==3)=false:=by simpa using h3
 refine en 42 Tryz.func211 rfl<|sg<|L0<|dF #[vW v] fun c D E k l=>Pl 1<|aL 2<|ng<|L0<|sL fun F G m n o=>L0<|fH n 1 fun H p r=>L0<|fH p 3 fun I s t=>Pl 2<|aL 3<|cu 7 [17] 24 (((sub==2)||((decide (11≤sub))&&(decide (sub≤18))))) (fun K d=>?_) ?_
 refine bl 17 ((sub==2)) (fun a=>?_) (fun a=>?_)
 have u:=ak a
 exact Pl 7<|ce d true (by rw[a];rfl)
 have u:=au a
 refine Pl 3<|cY 3 [20] 23 20 (decide (11≤sub)) (decide (sub≤18)) (fun K y z=>?_) ?_
 have J:=of_decide_eq_true z
 exact Pl 3<|ce y _ rfl
 exact Pl 1<|ce d ((decide (11≤sub))&&(decide (sub≤18))) (by rw[a];rfl)
 refine ap 1<|sq<|aq 2<|cY 3 [26] 29 26 ((sub==2)||((decide (11≤sub))&&(decide (sub≤18)))) (dir==1) (fun K A L=>?_) ?_
 exact Pl 3<|ce A _ rfl
 refine nt<|?_
 have f:=ud o (u1 r t im) m
 have g:=aN l f
 refine cb ((((sub==2)||((decide (11≤sub))&&(decide (sub≤18))))&&(dir==1))) (fun b=>?_) (fun b=>?_)
 have B:=(aS b).1
 have i:=(aS b).2
 have M:=ak i
 exact az 1<|bj<|rr (.bool true)<|cZ (by unfold fd;(try simp only[b,B,i,bq,n1,n3,reduceIte])<;>rfl) ⟨rfl,g⟩
 refine bz<|aq 2<|L0<|lE (hf:=(we (q:=.u16) (x:=sub) #[⟨vW 1,.func (.func 231) #[] #[],0⟩,⟨vW 3,.func (.func 232) #[] #[],1⟩] (eP _ _ (by intro e he;simp only[List.mem_cons,List.not_mem_nil,or_false] at he;rcases he with rfl | rfl;exact⟨_,rfl,fun h=>h1 h.symm⟩;exact⟨_,rfl,fun h=>h3 h.symm⟩)))) s sub (.nilFunc) none<|ap 5<|sq<|aq 2<|nl<|tn<|c1<|go<|Pl 2<|aL 1<|?_
 have j:=ub f k
 refine aH j 0<|L0<|i7 #[] #[vP c 0] (args:=#[vW v,vP c 0])<|m1 (rv j) fun N C=>ap 1<|rt<|rr (.bool (v==0))<|?_
 exact cZ (by unfold fd;(try simp only[b,bq,n1,n3,reduceIte])<;>rfl) ⟨rfl,(aN g C)⟩
theorem tQ{sub:Int}  (hv:0≤v∧v<65536) : Calls Tryz.prog 211 #[.int .i64 dir,.int .u16 sub,.int .u16 v] w (bW (.bool (fd dir sub v)) w):=by
  by_cases h1:sub=1
  · subst h1;exact vH hv
  by_cases h3:sub=3
  · subst h3;exact vO hv
  exact uq hv h1 h3
open Go.RowKit
def eA (dir:Int)(C:ah) : ah:=(C.wordsC 1).need (dy C.wordV&&(dir==0 || C.wordV != 4)) 8
def iJ (C:ah) : ah:=C.need (((C.l.length:Int)%2==0&&decide (2≤(C.l.length:Int)))&&decide ((C.l.length:Int)≤250)) 5
def eR (dir c:Int)(C:ah) : ah × b7 :=
  if C.wordV != 0 then (((eA dir C).wordsC 1).need ((((eA dir C).wordsR 1).length:Int)==1&&fd dir C.wordV (((eA dir C).wordsR 1).getD 0 0)) 6,{ b7.zero with code:=c,sub:=C.wordV,words:=(eA dir C).wordsR 1 })
  else ((iJ (eA dir C)).wordsC (((eA dir C).l.length:Int)/2),{ b7.zero with code:=c,sub:=C.wordV,words:=(iJ (eA dir C)).wordsR (((eA dir C).l.length:Int)/2) })
def fW (C:ah)(lo hi:Int) : ah:=(C.bytesC 1).need (decide (lo≤C.byteV)&&decide (C.byteV≤hi)) 5
def gx (C:ah) : ah:=((dp (fW C 6 70)).wordsC 1).wordsC 1
def cD (c:Int)(C:ah) : ah × b7 :=
  if c==7 then (C.bytesC 1,{ b7.zero with code:=c,value:=C.byteV })
  else if c==11 then ((dp C).wordsC 1,{ b7.zero with code:=c,status:=C.wordV,events:=(dp C).wordV })
  else if c==12 then ((gx C).bytesC (C.byteV-6),{ b7.zero with code:=c,status:=(fW C 6 70).wordV,events:=(dp (fW C 6 70)).wordV,messages:=((dp (fW C 6 70)).wordsC 1).wordV,data:=(gx C).bytesR (C.byteV-6) })
  else if c==17 then ((fW C 1 251).bytesC C.byteV,{ b7.zero with code:=c,data:=(fW C 1 251).bytesR C.byteV })
  else (C,{ b7.zero with code:=c })
theorem mV(hcode:B8 c)(hC:ae w g C)(hm:w.heap[gm]? = some (.cells #[vB c,vB 0,vW 0,vW 0,vW 0,vW 0,vW 0,vW 0,vW 0,vW 0,vW 0,vW 0,nS,nS,nS,nS,vB 0,vB 0,vB 0,vB 0,vB 0,nS] 45 (0,0)))(hne:g≠gm) :
    Calls Tryz.prog 150 #[vI dir,vP g 0,vP gm 0] w (bQ g gm (eR dir c C).1 (eR dir c C).2 w):=by
 obtain⟨hcode1,hcode2⟩:=hcode
 have hlen:=hC.len
 refine en 84 Tryz.func150 rfl<|aq 2<|ax<|m3 (bN hC) fun b2 Z o b3=>Pl 2<|?_
 have I:=aV o (Ne.symm hne) hm
 refine L0<|bD I 8 (mG c 0 0 0 0 0 0 0 C.wordV 0 0 0 nS nS nS nS 0 0 0 0 0 nS) fun b4 dB s=>aL 4<|aH dB 8<|ax<|m1 (qB (x:=C.wordV) (w:=_)) fun b5 j=>Pl 1<|cu 10 [18] 28 (((dy C.wordV)&&((dir==0)||(C.wordV != 4)))) (fun K J=>?_) ?_
 refine bl 18 ((dy C.wordV)) (fun t=>?_) (fun t=>?_)
 refine Pl 3<|ea 6 [21] 27 21 (dir==0) (C.wordV != 4) (fun K a0 a1=>?_) ?_
 have b6:=au a1
 refine Pl 3<|?_
 exact L1<|cS (ub j dB) 8<|Pl 2<|ce a0 _ rfl
 exact Pl 1<|ce J ((dir==0)||(C.wordV != 4)) (by rw[t];rfl)
 exact Pl 10<|ce J false (by rw[t];rfl)
 have L:=aN s j
 refine ax<|m2 (aY (((dy C.wordV)&&((dir==0)||(C.wordV != 4)))) 8 (ae.upd Z L (aa hne av) (ai (aT I (by decide)) aC))) fun b8 a2 q=>?_
 refine ab a2 fun x30 u r=>?_
 refine nt<|sq<|aq 3<|?_
 have y:=aV (uz j q) (Ne.symm hne) dB
 refine aH y 8<|ap 1<|?_
 have b:=ui o (us L q)
 refine cb ((C.wordV != 0)) (fun f=>?_) (fun f=>?_)
 have a3:=ay f
 refine aq 2<|ax<|lv (dt (n:=1) r) fun M N b9 i ba bb O P=>Pl 2<|?_
 have z:=aV P (Ne.symm hne) y
 refine L0<|bD z 12 (mG c 0 0 0 0 0 0 0 C.wordV 0 0 0 (.slice M ((x30.wordsR 1).length) N) nS nS nS 0 0 0 0 0 nS) fun bc a4 a5=>nt<|sq<|Rg 22 (fun w'=>w'.cell? ⟨gm,12,none⟩=some (.slice M ((x30.wordsR 1).length) N)∧w'.cell? ⟨gm,8,none⟩=some (vW C.wordV)) fun bd Q=>?_
 have d:=ub Q a4
 refine bA ⟨(am d rfl),(am d rfl)⟩ fun a=>Rt 0 a<|Rt 1 a<|Rt 2 a<|Rt 3 a<|Rl 4 a (fun _ hs=>hs.1)<|Rt 5 a<|Rt 6 a<|Rt 7 a<|?_
 have k:=aN a5 Q
 have R:=ut b (us P k) (ac im (ac im aA))
 refine vq 47 ((((x30.wordsR 1).length:Int)==1)) (fun m=>?_) (fun m=>?_)
 have a6:=ak m
 refine Rt 8 a<|Rt 9 a<|Rt 10 a<|Rt 11 a<|Rl 12 a (fun _ hs=>hs.2)<|Rt 13 a<|Rt 14 a<|Rt 15 a<|Rl 16 a (fun _ hs=>hs.1)<|?_
 have S:=al i k (fun x hx=>(aa (fun e=>(aG (ag hm) b.size i) (e▸hx)) av)) (fun _ _ h=>h)
 refine eF (ez.at_ (S).rd 0 (by omega)) fun a7 a8 a9 ad be=>R0 17 rfl<|hM ((x30.wordsR 1).length) 0 a9 (by omega)<|bA ⟨(am d rfl),(am d rfl)⟩ fun bf=>R0 18 rfl<|dC (p:=⟨a7,a8+0,none⟩) (v:=vW ((x30.wordsR 1).getD 0 0)) ad<|bA ⟨(am d rfl),(am d rfl)⟩ fun bg=>R0 19 rfl<|Oc<|m1 (tQ (dir:=dir) (sub:=C.wordV) (v:=((x30.wordsR 1).getD 0 0)) (by omega)) fun bh A=>?_
 have B:=ub A d
 refine bA ⟨(am B rfl),(am B rfl)⟩ fun af=>Rt 20 af<|?_
 refine R0 21 rfl<|Oc<|m2 (aY ((fd dir C.wordV ((x30.wordsR 1).getD 0 0))) 6 (ae.upd O (aN k A) (aa hne av) (ai (aT z (by decide)) aC))) fun bi aj T=>?_
 refine ab aj fun bk an ao=>?_
 have D:=aV T (Ne.symm hne) B
 refine bA ⟨(am D rfl),(am D rfl)⟩ fun bm=>re<|tn<|bj<|rr (.tuple #[])<|?_
 subst an u
 have U:=uz A T
 have hs:eR dir c C=(((((C.wordsC 1).need ((dy C.wordV)&&((dir==0)||(C.wordV != 4))) 8).wordsC 1).need (fd dir C.wordV ((((C.wordsC 1).need ((dy C.wordV)&&((dir==0)||(C.wordV != 4))) 8).wordsR 1).getD 0 0)) 6),(b7.mk c 0 0 0 0 0 0 0 C.wordV 0 0 0 (((C.wordsC 1).need ((dy C.wordV)&&((dir==0)||(C.wordV != 4))) 8).wordsR 1) [] [] [] 0 0 0 0 0 [])):=by
   unfold eR eA iJ
   (try simp only[f,m,bq,reduceIte])
   all_goals rfl
 rw[hs]
 exact⟨rfl,ao,⟨_,⟨D,rfl⟩,⟨_,_,_,_,_,rfl,(aW.hi (al S U (fun x hx=>(aa (fun e=>(aG (ae.lt hC) b.size i) (e▸hx)) av)) (fun _ _ h=>h)) b.size),aI.nil ..,aI.nil ..,aI.nil ..,aI.nil ..,(bT (by omega))⟩⟩,(aE.mono (S':=[g,gm]) (u1 R U im) (ug (Or.inl (by simp)) (Or.inl (by simp))))⟩
 have a6:=au m
 refine Ro 8 a<|Ro 9 a<|Ro 10 a<|Ro 11 a<|Ro 12 a<|Ro 13 a<|Ro 14 a<|Ro 15 a<|Ro 16 a<|Ro 17 a<|Ro 18 a<|Ro 19 a<|Rt 20 a<|?_
 refine R0 21 rfl<|Oc<|m2 (aY (false) 6 (ae.upd O k (aa hne av) (ai (aT z (by decide)) aC))) fun bn ar E=>?_
 have F:=aV E (Ne.symm hne) d
 refine bA ⟨(am F rfl),(am F rfl)⟩ fun bo=>re<|tn<|bj<|rr (.tuple #[])<|?_
 subst u
 have hs:eR dir c C=(((((C.wordsC 1).need ((dy C.wordV)&&((dir==0)||(C.wordV != 4))) 8).wordsC 1).need false 6),(b7.mk c 0 0 0 0 0 0 0 C.wordV 0 0 0 (((C.wordsC 1).need ((dy C.wordV)&&((dir==0)||(C.wordV != 4))) 8).wordsR 1) [] [] [] 0 0 0 0 0 [])):=by
   unfold eR eA iJ
   (try simp only[f,m,bq,reduceIte])
   all_goals rfl
 rw[hs]
 exact⟨rfl,ar,⟨_,⟨F,rfl⟩,⟨_,_,_,_,_,rfl,(aW.hi (al i (us k E) (fun x hx=>(aa (fun e=>(aG (ag hm) b.size i) (e▸hx)) (aa (fun e=>(aG (ae.lt hC) b.size i) (e▸hx)) av))) (fun _ _ h=>h)) b.size),aI.nil ..,aI.nil ..,aI.nil ..,aI.nil ..,(bT (by omega))⟩⟩,(aE.mono (S':=[g,gm]) (u1 R E im) (ug (Or.inl (by simp)) (Or.inl (by simp))))⟩
 have a3:=aJ f
 refine bz<|aq 1<|ax<|mq (dx r)<|?_
 have bp:=ae.len r
 refine Pl 1<|aL 2<|L0<|Oe (vI (Int.tmod (x30.l.length:Int) 2)) (vI ((x30.l.length:Int)%2)) (congrArg (Value.int .i64) (Int.tmod_eq_emod_of_nonneg (by omega)))<|Pl 2<|cY 3 [68] 71 68 (((x30.l.length:Int)%2)==0) (decide (2≤(x30.l.length:Int))) (fun K aw az=>?_) ?_
 have br:=ak az
 exact Pl 3<|ce aw _ rfl
 refine Pl 1<|cY 3 [72] 75 72 ((((x30.l.length:Int)%2)==0)&&(decide (2≤(x30.l.length:Int)))) (decide ((x30.l.length:Int)≤250)) (fun K aB V=>?_) ?_
 have aD:=(aS V).1
 have aF:=(aS V).2
 have bs:=ak aD
 have bt:=of_decide_eq_true aF
 exact Pl 3<|ce aB _ rfl
 refine ax<|m2 (aY ((((((x30.l.length:Int)%2)==0)&&(decide (2≤(x30.l.length:Int))))&&(decide ((x30.l.length:Int)≤250)))) 5 r) fun bu aK G=>?_
 refine ab aK fun aM aO aP=>?_
 refine nt<|go<|Pl 3<|L0<|Oe (vI (IntKind.i64.wrap (Int.tdiv (x30.l.length:Int) 2))) (vI ((x30.l.length:Int)/2)) (congrArg (Value.int .i64) (fa (by omega) (by omega)))<|ax<|lv (dt (n:=((x30.l.length:Int)/2)) aP) fun aQ aR bv W bw bx aU aX=>?_
 refine ab aU fun bB aZ b0=>?_
 refine Pl 2<|?_
 have X:=u1 G aX im
 have Y:=aV X (Ne.symm hne) y
 refine L0<|bD Y 12 (mG c 0 0 0 0 0 0 0 C.wordV 0 0 0 (.slice aQ ((aM.wordsR ((x30.l.length:Int)/2)).length) aR) nS nS nS 0 0 0 0 0 nS) fun bC b1 H=>nl<|rm (.tuple #[])<|?_
 subst aZ aO u
 have hs:eR dir c C=(((((C.wordsC 1).need ((dy C.wordV)&&((dir==0)||(C.wordV != 4))) 8).need ((((((((C.wordsC 1).need ((dy C.wordV)&&((dir==0)||(C.wordV != 4))) 8).l.length:Nat) : Int)%2)==0)&&(decide (2≤((((C.wordsC 1).need ((dy C.wordV)&&((dir==0)||(C.wordV != 4))) 8).l.length:Nat) : Int))))&&(decide (((((C.wordsC 1).need ((dy C.wordV)&&((dir==0)||(C.wordV != 4))) 8).l.length:Nat) : Int)≤250))) 5).wordsC (((((C.wordsC 1).need ((dy C.wordV)&&((dir==0)||(C.wordV != 4))) 8).l.length:Nat) : Int)/2)),(b7.mk c 0 0 0 0 0 0 0 C.wordV 0 0 0 ((((C.wordsC 1).need ((dy C.wordV)&&((dir==0)||(C.wordV != 4))) 8).need ((((((((C.wordsC 1).need ((dy C.wordV)&&((dir==0)||(C.wordV != 4))) 8).l.length:Nat) : Int)%2)==0)&&(decide (2≤((((C.wordsC 1).need ((dy C.wordV)&&((dir==0)||(C.wordV != 4))) 8).l.length:Nat) : Int))))&&(decide (((((C.wordsC 1).need ((dy C.wordV)&&((dir==0)||(C.wordV != 4))) 8).l.length:Nat) : Int)≤250))) 5).wordsR (((((C.wordsC 1).need ((dy C.wordV)&&((dir==0)||(C.wordV != 4))) 8).l.length:Nat) : Int)/2)) [] [] [] 0 0 0 0 0 [])):=by
   unfold eR eA iJ
   (try simp only[f,bq,reduceIte])
   all_goals rfl
 rw[hs]
 exact⟨rfl,(ae.upd b0 H (aa hne av) (ai (aT Y (by decide)) aC)),⟨_,⟨b1,rfl⟩,⟨_,_,_,_,_,rfl,(aW.hi (al W H (fun x hx=>(aa (fun e=>(aG (ag hm) (le (le (le (le o.size s.size) j.size) q.size) G.size) W) (e▸hx)) av)) (fun _ _ h=>h)) (le (le (le (le o.size s.size) j.size) q.size) G.size)),aI.nil ..,aI.nil ..,aI.nil ..,aI.nil ..,(bT (by omega))⟩⟩,(aE.mono (S':=[g,gm]) (ut b (us X H) (ac im (ac im aA))) (ug (Or.inl (by simp)) (Or.inl (by simp))))⟩
theorem fC(hcode:B8 c)(hC:ae w g C)(hm:w.heap[gm]? = some (.cells #[vB c,vB 0,vW 0,vW 0,vW 0,vW 0,vW 0,vW 0,vW 0,vW 0,vW 0,vW 0,nS,nS,nS,nS,vB 0,vB 0,vB 0,vB 0,vB 0,nS] 45 (0,0)))(hne:g≠gm) :
    Calls Tryz.prog 151 #[vP g 0,vP gm 0] w (bQ g gm (cD c C).1 (cD c C).2 w):=by
 obtain⟨hcode1,hcode2⟩:=hcode
 have hlen:=hC.len
 refine en 84 Tryz.func151 rfl<|aq 3<|aH hm 0<|nt<|bk<|az 2<|cb ((c==7)) (fun a=>?_) (fun a=>?_)
 have S:=ak a
 refine go<|Pl 2<|ax<|m3 (bI hC) fun aP T l aQ=>L0<|vm C.byteV<|Pl 2<|?_
 have m:=aV l (Ne.symm hne) hm
 refine L0<|bD m 4 (mG c 0 0 0 C.byteV 0 0 0 0 0 0 0 nS nS nS nS 0 0 0 0 0 nS) fun aR U o=>nl<|bn<|rm (.tuple #[])<|?_
 have hs:cD c C=((C.bytesC 1),(b7.mk c 0 0 0 C.byteV 0 0 0 0 0 0 0 [] [] [] [] 0 0 0 0 0 [])):=by
   unfold cD gx fW
   (try simp only[a,bq,reduceIte])
   all_goals rfl
 rw[hs]
 exact⟨rfl,(ae.upd T o (aa hne av) (ai (aT m (by decide)) aC)),⟨_,⟨U,rfl⟩,⟨_,_,_,_,_,rfl,aI.nil ..,aI.nil ..,aI.nil ..,aI.nil ..,aI.nil ..,(bT (by omega))⟩⟩,(us l o)⟩
 have S:=au a
 refine az 2<|cb ((c==11)) (fun b=>?_) (fun b=>?_)
 have V:=ak b
 refine aq 2<|ax<|m3 (mS hC) fun aS W p aU=>Pl 2<|?_
 have r:=aV p (Ne.symm hne) hm
 refine L0<|bD r 9 (mG c 0 0 0 0 0 0 0 0 C.wordV 0 0 nS nS nS nS 0 0 0 0 0 nS) fun aW X s=>nt<|go<|Pl 2<|?_
 refine ax<|m3 (bN (ae.upd W s (aa hne av) (ai (aT r (by decide)) aC))) fun aZ Y t b0=>Pl 2<|?_
 have u:=aV t (Ne.symm hne) X
 refine L0<|bD u 10 (mG c 0 0 0 0 0 0 0 0 C.wordV ((dp C).wordV) 0 nS nS nS nS 0 0 0 0 0 nS) fun b1 Z v=>nl<|bn<|rm (.tuple #[])<|?_
 have hs:cD c C=(((dp C).wordsC 1),(b7.mk c 0 0 0 0 0 0 0 0 C.wordV ((dp C).wordV) 0 [] [] [] [] 0 0 0 0 0 [])):=by
   unfold cD gx fW
   (try simp only[a,b,bq,reduceIte])
   all_goals rfl
 rw[hs]
 exact⟨rfl,(ae.upd Y v (aa hne av) (ai (aT u (by decide)) aC)),⟨_,⟨Z,rfl⟩,⟨_,_,_,_,_,rfl,aI.nil ..,aI.nil ..,aI.nil ..,aI.nil ..,aI.nil ..,(bT (by omega))⟩⟩,(ui p (ui s (us t v)))⟩
 have V:=au b
 refine az 2<|cb ((c==12)) (fun d=>?_) (fun d=>?_)
 have a0:=ak d
 refine aq 1<|ax<|m3 (bI hC) fun b2 a1 x b3=>be C.byteV<|Pl 1<|aL 4<|cY 3 [38] 41 38 (decide (6≤C.byteV)) (decide (C.byteV≤70)) (fun K a2 a3=>?_) ?_
 have b4:=of_decide_eq_true a3
 exact Pl 3<|ce a2 _ rfl
 refine ax<|m2 (aY (((decide (6≤C.byteV))&&(decide (C.byteV≤70)))) 5 a1) fun b5 a4 y=>?_
 refine ab a4 fun x53 a5 a6=>?_
 refine aL 2<|ax<|m3 (mS a6) fun b6 a7 z b8=>Pl 2<|?_
 have A:=u1 x (u1 y z im) im
 have B:=aV A (Ne.symm hne) hm
 refine L0<|bD B 9 (mG c 0 0 0 0 0 0 0 0 x53.wordV 0 0 nS nS nS nS 0 0 0 0 0 nS) fun b9 a8 f=>aL 3<|?_
 refine ax<|m3 (bN (ae.upd a7 f (aa hne av) (ai (aT B (by decide)) aC))) fun ba a9 D bb=>Pl 1<|ax<|m3 (bN a9) fun bc ac E bd=>?_
 refine ab ac fun lK ad af=>?_
 refine Pl 2<|?_
 have F:=u1 D E im
 have G:=aV F (Ne.symm hne) a8
 refine L0<|bD G 10 (mG c 0 0 0 0 0 0 0 0 x53.wordV ((dp x53).wordV) 0 nS nS nS nS 0 0 0 0 0 nS) fun bf ag H=>Pl 2<|L0<|bD ag 11 (mG c 0 0 0 0 0 0 0 0 x53.wordV ((dp x53).wordV) (((dp x53).wordsC 1).wordV) nS nS nS nS 0 0 0 0 0 nS) fun bg aj I=>nt<|go<|Pl 3<|be (C.byteV-6)<|?_
 have J:=u1 H I im
 have L:=ae.upd af J (aa hne av) (ai (aT G (by decide)) aC)
 refine ax<|qm (bX (n:=(C.byteV-6)) L) fun al am bh an bi bj ao M=>?_
 have bl:=Nat.le_trans (ah.bytesR_le lK (C.byteV-6)) (ae.len L)
 refine Pl 2<|?_
 have h:=aV M (Ne.symm hne) aj
 refine L0<|bD h 14 (mG c 0 0 0 0 0 0 0 0 x53.wordV ((dp x53).wordV) (((dp x53).wordsC 1).wordV) nS nS (.slice al ((lK.bytesR (C.byteV-6)).length) am) nS 0 0 0 0 0 nS) fun bm ap i=>nl<|bn<|rm (.tuple #[])<|?_
 subst ad a5
 have hs:cD c C=(((((dp ((C.bytesC 1).need ((decide (6≤C.byteV))&&(decide (C.byteV≤70))) 5)).wordsC 1).wordsC 1).bytesC (C.byteV-6)),(b7.mk c 0 0 0 0 0 0 0 0 (((C.bytesC 1).need ((decide (6≤C.byteV))&&(decide (C.byteV≤70))) 5).wordV) ((dp ((C.bytesC 1).need ((decide (6≤C.byteV))&&(decide (C.byteV≤70))) 5)).wordV) (((dp ((C.bytesC 1).need ((decide (6≤C.byteV))&&(decide (C.byteV≤70))) 5)).wordsC 1).wordV) [] [] ((((dp ((C.bytesC 1).need ((decide (6≤C.byteV))&&(decide (C.byteV≤70))) 5)).wordsC 1).wordsC 1).bytesR (C.byteV-6)) [] 0 0 0 0 0 [])):=by
   unfold cD gx fW
   (try simp only[a,b,d,bq,reduceIte])
   all_goals rfl
 rw[hs]
 exact⟨rfl,(ae.upd ao i (aa hne av) (ai (aT h (by decide)) aC)),⟨_,⟨ap,rfl⟩,⟨_,_,_,_,_,rfl,aI.nil ..,aI.nil ..,(aI.hi_le (aX.upd' an i (ai (aT h (by decide)) aC)) (le (le (le (le (le (le (le x.size y.size) z.size) f.size) D.size) E.size) H.size) I.size) fun _ _ q=>q),aI.nil ..,aI.nil ..,(bT (by omega))⟩⟩,(ui A (ui f (ui F (ui J (us M i)))))⟩
 have a0:=au d
 refine az 2<|cb ((c==17)) (fun e=>?_) (fun e=>?_)
 have ar:=ak e
 refine aq 1<|ax<|m3 (bI hC) fun bo aw N bp=>be C.byteV<|Pl 1<|aL 4<|cY 3 [73] 76 73 (decide (1≤C.byteV)) (decide (C.byteV≤251)) (fun K ay aB=>?_) ?_
 have br:=of_decide_eq_true aB
 exact Pl 3<|ce ay _ rfl
 refine ax<|m2 (aY (((decide (1≤C.byteV))&&(decide (C.byteV≤251)))) 5 aw) fun bs aD O=>?_
 refine ab aD fun P aF Q=>?_
 refine nt<|go<|Pl 3<|ax<|qm (bX (n:=C.byteV) Q) fun aG aJ bt aK bu bv aM aN=>?_
 have bw:=Nat.le_trans (ah.bytesR_le P C.byteV) (ae.len Q)
 refine Pl 2<|?_
 have R:=u1 N (u1 O aN im) im
 have j:=aV R (Ne.symm hne) hm
 refine L0<|bD j 14 (mG c 0 0 0 0 0 0 0 0 0 0 0 nS nS (.slice aG ((P.bytesR C.byteV).length) aJ) nS 0 0 0 0 0 nS) fun bx aO k=>nl<|bn<|rm (.tuple #[])<|?_
 subst aF
 have hs:cD c C=((((C.bytesC 1).need ((decide (1≤C.byteV))&&(decide (C.byteV≤251))) 5).bytesC C.byteV),(b7.mk c 0 0 0 0 0 0 0 0 0 0 0 [] [] (((C.bytesC 1).need ((decide (1≤C.byteV))&&(decide (C.byteV≤251))) 5).bytesR C.byteV) [] 0 0 0 0 0 [])):=by
   unfold cD gx fW
   (try simp only[a,b,d,e,bq,reduceIte])
   all_goals rfl
 rw[hs]
 exact⟨rfl,(ae.upd aM k (aa hne av) (ai (aT j (by decide)) aC)),⟨_,⟨aO,rfl⟩,⟨_,_,_,_,_,rfl,aI.nil ..,aI.nil ..,(aI.hi_le (aX.upd' aK k (ai (aT j (by decide)) aC)) (le N.size O.size) fun _ _ q=>q),aI.nil ..,aI.nil ..,(bT (by omega))⟩⟩,(us R k)⟩
 have ar:=au e
 refine sk<|bn<|rm (.tuple #[])<|?_
 have hs:cD c C=(C,(b7.mk c 0 0 0 0 0 0 0 0 0 0 0 [] [] [] [] 0 0 0 0 0 [])):=by
   unfold cD gx fW
   (try simp only[a,b,d,e,bq,reduceIte])
   all_goals rfl
 rw[hs]
 exact⟨rfl,hC,⟨_,⟨hm,rfl⟩,⟨_,_,_,_,_,rfl,aI.nil ..,aI.nil ..,aI.nil ..,aI.nil ..,aI.nil ..,(bT (by omega))⟩⟩,(aE.mono (S':=[g,gm]) (aE.refl [] _) aA)⟩
open Go.RowKit
def bi (dir c:Int)(C:ah) : Option (ah × b7) :=
  if c==8 then some (eR dir c C)
  else if c==7 || c==11 || c==12 || c==17 then (if dir==1 then some (cD c C) else some (C,{ b7.zero with code:=c }))
  else none
theorem lx(hcode:B8 c)(hsl:aX m w (.slice A b.length cp) b)(hb:b.length≤1048576) :
    Calls Tryz.prog 100 #[vI 0,vB c,.slice A b.length cp] w (dG (aj bi 0 c b) w):=by
 obtain⟨hcode1,hcode2⟩:=hcode
 have hln:(b.length:Int)≤1048576:=by omega
 refine en 47 Tryz.func100 rfl<|sg<|aK mZ fun H am t q I=>ap 1<|sq<|az 6<|c0<|bz<|aq 2<|aK mZ fun a an k u R=>aD u (mC c) fun ao l v=>aL 1<|?_
 have n:=ud R v k
 have y:=aN I n
 refine ax<|e3 (di (aX.old hsl y) (by omega)) fun d S r o f=>ap 1<|sn (fun x=>[(6,vP H 0),(8,vP a 0),(9,vP d 0)]) (fun(x:ah × Array Value × b7) w'=>aE [d,a] S w'∧ae w' d x.1∧w'.heap[a]? = some (.cells x.2.1 45 (0,0))∧aU (.hi w.heap.size) w' x.2.1.toList x.2.2∧(aj bi 0 c b=bp x.2.2 x.1)) ?_ ?_
 rintro⟨C,cs,M⟩ z ⟨J,T,U,V,W⟩
 refine f5 [(6,vP H 0),(8,vP a 0),(9,vP d 0)] ?_
 have K:ae z d C:=T
 have X:z.heap[a]? = some (.cells cs 45 (0,0)):=U
 have s:aU (.hi w.heap.size) z cs.toList M:=V
 have B:=aU.size s
 have L:aj bi 0 c b=bp M C:=W
 refine aq 1<|ax<|m2 (dI K) fun ar N D=>nt<|sq<|aq 1<|ax<|mq (c4 N)<|?_
 have av:=ae.len N
 refine Pl 1<|db 2<|?_
 have E:=ud f (u1 J D im) r
 have O:=ud y E (le I.size k)
 refine cb ((C.endC.e != 0)) (fun F=>?_) (fun F=>?_)
 have G:=ay F
 refine aq 2<|?_
 refine aD (ub (ud n E k) q) mZ fun aw Y Z=>ap 1<|bj<|c8 Y (vI C.endC.e)<|?_
 rw[L]
 exact cA G (ud O Z t)
 have G:=aJ F
 refine bz<|sg<|?_
 refine L0<|cJ (hz:=(by rw[B];exact b6)) (aV D (nb (ag u) v.size r) X)<|?_
 refine aD (hz:=(by rw[B];exact b6)) (hv:=s.size) (h1:=s.one) (ub (ud n E k) q) (cs) fun aB a0 P=>ap 1<|rt<|eu 22 B a0 (vI 0)<|?_
 rw[L]
 exact cW G (aU.upd s (us D P) (ai (ae.safe K _ (by decide)) (ai (aT (ub (ud n (ud f J r) k) q) (by decide)) aC))) (ud O P t)
 refine az 1<|bk<|az 2<|?_
 have Q:=aN y f
 refine cb ((c==8)) (fun g=>?_) (fun g=>?_)
 have a1:=ak g
 refine go<|Pl 2<|?_
 refine ax<|m3 (mV (dir:=0) (c:=c) ⟨hcode1,hcode2⟩ o (ub f l) (Ne.symm (nb (ag u) v.size r))) fun aF a2 a3 a4=>?_
 obtain⟨aG,a5,a6⟩:=a3
 refine ab a2 fun x80 a7 a8=>?_
 exact nl<|bn<|jn (x80,_,(eR 0 c (ah.mk b false 0)).2) ⟨a4,a8,a5.1,(aU.lo a6 Q.size),by subst a7;unfold aj bi ;(try simp only[g,bq,cR,cN,cO,cQ,cP,reduceIte])<;>rfl⟩
 have a1:=au g
 refine sq<|az 2<|cb ((c==7)) (fun h=>?_) (fun h=>?_)
 have a9:=ak h
 refine bz<|ct h<|az 2<|c0<|sk<|bn<|?_
 exact jn ((ah.mk b false 0),_,(b7.mk c 0 0 0 0 0 0 0 0 0 0 0 [] [] [] [] 0 0 0 0 0 [])) ⟨(aE.mono (S':=[d,a]) (aE.refl [] _) aA),o,(ub f l),⟨_,_,_,_,_,rfl,aI.nil ..,aI.nil ..,aI.nil ..,aI.nil ..,aI.nil ..,(bT (by omega))⟩,by unfold aj bi ;(try simp only[g,h,bq,cR,cN,cO,cQ,cP,reduceIte])<;>rfl⟩
 have a9:=au h
 refine az 2<|cb ((c==11)) (fun i=>?_) (fun i=>?_)
 have aa:=ak i
 refine bz<|ct i<|az 2<|c0<|sk<|bn<|?_
 exact jn ((ah.mk b false 0),_,(b7.mk c 0 0 0 0 0 0 0 0 0 0 0 [] [] [] [] 0 0 0 0 0 [])) ⟨(aE.mono (S':=[d,a]) (aE.refl [] _) aA),o,(ub f l),⟨_,_,_,_,_,rfl,aI.nil ..,aI.nil ..,aI.nil ..,aI.nil ..,aI.nil ..,(bT (by omega))⟩,by unfold aj bi ;(try simp only[g,h,i,bq,cR,cN,cO,cQ,cP,reduceIte])<;>rfl⟩
 have aa:=au i
 refine az 2<|cb ((c==12)) (fun j=>?_) (fun j=>?_)
 have ac:=ak j
 refine bz<|ct j<|az 2<|c0<|sk<|bn<|?_
 exact jn ((ah.mk b false 0),_,(b7.mk c 0 0 0 0 0 0 0 0 0 0 0 [] [] [] [] 0 0 0 0 0 [])) ⟨(aE.mono (S':=[d,a]) (aE.refl [] _) aA),o,(ub f l),⟨_,_,_,_,_,rfl,aI.nil ..,aI.nil ..,aI.nil ..,aI.nil ..,aI.nil ..,(bT (by omega))⟩,by unfold aj bi ;(try simp only[g,h,i,j,bq,cR,cN,cO,cQ,cP,reduceIte])<;>rfl⟩
 have ac:=au j
 refine go<|ap 2<|cb ((c==17)) (fun p=>?_) (fun p=>?_)
 have ad:=ak p
 refine az 2<|c0<|sk<|bn<|?_
 exact jn ((ah.mk b false 0),_,(b7.mk c 0 0 0 0 0 0 0 0 0 0 0 [] [] [] [] 0 0 0 0 0 [])) ⟨(aE.mono (S':=[d,a]) (aE.refl [] _) aA),o,(ub f l),⟨_,_,_,_,_,rfl,aI.nil ..,aI.nil ..,aI.nil ..,aI.nil ..,aI.nil ..,(bT (by omega))⟩,by unfold aj bi ;(try simp only[g,h,i,j,p,bq,cR,cN,cO,cQ,cP,reduceIte])<;>rfl⟩
 have ad:=au p
 refine aq 1<|?_
 refine aD (ub (aN n f) q) mZ fun aH af al=>ap 1<|rt<|br<|tr<|c8 af (vI 4)<|?_
 exact cZ (by unfold aj bi;(try simp only[g,h,i,j,p,bq,cR,cN,cO,cQ,cP,reduceIte])<;>rfl) (bU (ud Q al t))
theorem lg(hcode:B8 c)(hsl:aX m w (.slice A b.length cp) b)(hb:b.length≤1048576) :
    Calls Tryz.prog 100 #[vI 1,vB c,.slice A b.length cp] w (dG (aj bi 1 c b) w):=by
 obtain⟨hcode1,hcode2⟩:=hcode
 have hln:(b.length:Int)≤1048576:=by omega
 refine en 47 Tryz.func100 rfl<|sg<|aK mZ fun I bc y u J=>ap 1<|sq<|az 6<|c0<|bz<|aq 2<|aK mZ fun n bd o i R=>aD i (mC c) fun be p j=>aL 1<|?_
 have q:=ud R j o
 have z:=aN J q
 refine ax<|e3 (di (aX.old hsl z) (by omega)) fun r S g s a=>ap 1<|sn (fun x=>[(6,vP I 0),(8,vP n 0),(9,vP r 0)]) (fun(x:ah × Array Value × b7) w'=>aE [r,n] S w'∧ae w' r x.1∧w'.heap[n]? = some (.cells x.2.1 45 (0,0))∧aU (.hi w.heap.size) w' x.2.1.toList x.2.2∧(aj bi 1 c b=bp x.2.2 x.1)) ?_ ?_
 rintro⟨C,cs,M⟩ B ⟨K,T,U,V,W⟩
 refine f5 [(6,vP I 0),(8,vP n 0),(9,vP r 0)] ?_
 have L:ae B r C:=T
 have X:B.heap[n]? = some (.cells cs 45 (0,0)):=U
 have v:aU (.hi w.heap.size) B cs.toList M:=V
 have D:=aU.size v
 have N:aj bi 1 c b=bp M C:=W
 refine aq 1<|ax<|m2 (dI L) fun bf O E=>nt<|sq<|aq 1<|ax<|mq (c4 O)<|?_
 have bg:=ae.len O
 refine Pl 1<|db 2<|?_
 have F:=ud a (u1 K E im) g
 have P:=ud z F (le J.size o)
 refine cb ((C.endC.e != 0)) (fun G=>?_) (fun G=>?_)
 have H:=ay G
 refine aq 2<|?_
 refine aD (ub (ud q F o) u) mZ fun bh Y Z=>ap 1<|bj<|c8 Y (vI C.endC.e)<|?_
 rw[N]
 exact cA H (ud P Z y)
 have H:=aJ G
 refine bz<|sg<|?_
 refine L0<|cJ (hz:=(by rw[D];exact b6)) (aV E (nb (ag i) j.size g) X)<|?_
 refine aD (hz:=(by rw[D];exact b6)) (hv:=v.size) (h1:=v.one) (ub (ud q F o) u) (cs) fun bl a0 Q=>ap 1<|rt<|eu 22 D a0 (vI 0)<|?_
 rw[N]
 exact cW H (aU.upd v (us E Q) (ai (ae.safe L _ (by decide)) (ai (aT (ub (ud q (ud a K g) o) u) (by decide)) aC))) (ud P Q y)
 refine az 1<|bk<|az 2<|?_
 have l:=aN z a
 refine cb ((c==8)) (fun d=>?_) (fun d=>?_)
 have a1:=ak d
 refine go<|Pl 2<|?_
 refine ax<|m3 (mV (dir:=1) (c:=c) ⟨hcode1,hcode2⟩ s (ub a p) (Ne.symm (nb (ag i) j.size g))) fun bm a2 a3 a4=>?_
 obtain⟨bo,a5,a6⟩:=a3
 refine ab a2 fun x80 a7 a8=>?_
 exact nl<|bn<|jn (x80,_,(eR 1 c (ah.mk b false 0)).2) ⟨a4,a8,a5.1,(aU.lo a6 l.size),by subst a7;unfold aj bi ;(try simp only[d,bq,cR,cN,cO,cQ,cP,reduceIte])<;>rfl⟩
 have a1:=au d
 refine sq<|az 2<|cb ((c==7)) (fun f=>?_) (fun f=>?_)
 have a9:=ak f
 refine bz<|ct f<|az 2<|c1<|go<|Pl 1<|?_
 refine ax<|m3 (fC (c:=c) ⟨hcode1,hcode2⟩ s (ub a p) (Ne.symm (nb (ag i) j.size g))) fun bs aa ac ad=>?_
 obtain⟨bt,af,al⟩:=ac
 refine ab aa fun x93 am an=>?_
 exact nl<|bn<|jn (x93,_,(cD c (ah.mk b false 0)).2) ⟨ad,an,af.1,(aU.lo al l.size),by subst am;unfold aj bi ;(try simp only[d,f,bq,cR,cN,cO,cQ,cP,reduceIte])<;>rfl⟩
 have a9:=au f
 refine az 2<|cb ((c==11)) (fun h=>?_) (fun h=>?_)
 have ao:=ak h
 refine bz<|ct h<|az 2<|c1<|go<|Pl 1<|?_
 refine ax<|m3 (fC (c:=c) ⟨hcode1,hcode2⟩ s (ub a p) (Ne.symm (nb (ag i) j.size g))) fun bu ar av aw=>?_
 obtain⟨bv,aA,aB⟩:=av
 refine ab ar fun aF aG aH=>?_
 exact nl<|bn<|jn (aF,_,(cD c (ah.mk b false 0)).2) ⟨aw,aH,aA.1,(aU.lo aB l.size),by subst aG;unfold aj bi ;(try simp only[d,f,h,bq,cR,cN,cO,cQ,cP,reduceIte])<;>rfl⟩
 have ao:=au h
 refine az 2<|cb ((c==12)) (fun k=>?_) (fun k=>?_)
 have aI:=ak k
 refine bz<|ct k<|az 2<|c1<|go<|Pl 1<|?_
 refine ax<|m3 (fC (c:=c) ⟨hcode1,hcode2⟩ s (ub a p) (Ne.symm (nb (ag i) j.size g))) fun bw aM aO aP=>?_
 obtain⟨bx,aQ,aR⟩:=aO
 refine ab aM fun aS aW aY=>?_
 exact nl<|bn<|jn (aS,_,(cD c (ah.mk b false 0)).2) ⟨aP,aY,aQ.1,(aU.lo aR l.size),by subst aW;unfold aj bi ;(try simp only[d,f,h,k,bq,cR,cN,cO,cQ,cP,reduceIte])<;>rfl⟩
 have aI:=au k
 refine go<|ap 2<|cb ((c==17)) (fun t=>?_) (fun t=>?_)
 have aZ:=ak t
 refine az 2<|c1<|go<|Pl 1<|?_
 refine ax<|m3 (fC (c:=c) ⟨hcode1,hcode2⟩ s (ub a p) (Ne.symm (nb (ag i) j.size g))) fun bA b0 b1 b2=>?_
 obtain⟨bB,b3,b4⟩:=b1
 refine ab b0 fun b5 b8 b9=>?_
 exact nl<|bn<|jn (b5,_,(cD c (ah.mk b false 0)).2) ⟨b2,b9,b3.1,(aU.lo b4 l.size),by subst b8;unfold aj bi ;(try simp only[d,f,h,k,t,bq,cR,cN,cO,cQ,cP,reduceIte])<;>rfl⟩
 have aZ:=au t
 refine aq 1<|?_
 refine aD (ub (aN q a) u) mZ fun bC ba bb=>ap 1<|rt<|br<|tr<|c8 ba (vI 4)<|?_
 exact cZ (by unfold aj bi;(try simp only[d,f,h,k,t,bq,cR,cN,cO,cQ,cP,reduceIte])<;>rfl) (bU (ud l bb y))
theorem lH(hcode:B8 c)(hsl:aX m w (.slice A b.length cp) b)(hb:b.length≤1048576)(hd:¬ (dir=0∨dir=1)) :
    Calls Tryz.prog 100 #[vI dir,vB c,.slice A b.length cp] w (dG (aj bi dir c b) w):=by
 obtain⟨hcode1,hcode2⟩:=hcode
 have hln:(b.length:Int)≤1048576:=by omega
 have e0:(dir != 0)=true:=by simp;omega
 have e1:(dir != 1)=true:=by simp;omega
 refine en 47 Tryz.func100 rfl<|sg<|aK mZ fun g h a d e=>ap 1<|sq<|aq 3<|sy 13 e0<|Pl 3<|nl<|tn<|ct e1<|aq 1<|aD d mZ fun i dB f=>ap 1<|bj<|c8 dB (vI 1)<|?_
 exact cZ (by unfold aj bi;(try simp only[e0,e1,bq,cR,cN,cO,cQ,cP,reduceIte,hd])<;>rfl) (bU (ud e f a))
theorem nB{v:Value}    (hc:B8 c)(h:aX m w v b)(hb:b.length≤1048576) :
    Calls Tryz.prog 100 #[.int .i64 dir,.int .u8 c,v] w (dG (aj bi dir c b) w):=by
  obtain⟨A,cp,rfl,_,_⟩:=h.shape
  by_cases h0:dir=0
  · subst h0;exact lx hc h hb
  by_cases h1:dir=1
  · subst h1;exact lg hc h hb
  exact lH hc h hb (by omega)
open Go.RowKit
def el:Nat→ah→List Obj→ah × List Obj
  | 0,C,L=>(C,L)
  | n+1,C,L=>el n (((C.bytesC 1).bytesC 1).bytesC (C.bytesC 1).byteV) (L++[⟨C.byteV,((C.bytesC 1).bytesC 1).bytesR (C.bytesC 1).byteV⟩])
def l9 (C:ah) : ah:=(C.bytesC 1).need (bL C.byteV) 6
def lF (C:ah) : ah:=((l9 C).bytesC 1).need ((l9 C).byteV==0 || (l9 C).byteV==255) 6
def qF (C:ah) : ah:=((lF C).bytesC 1).need ((l9 C).byteV != 0 || (lF C).byteV==0) 6
def vK (kd:Int)(C:ah) : ah:=((qF C).bytesC 1).need (kd != 4 || (qF C).byteV==1) 5
def eD (kd:Int)(C:ah) : ah × List Obj:=el (qF C).byteV.toNat (vK kd C) []
theorem o6{me kd:Int}{C0:ah}  (hcode:B8 c)(hme:B8 me)(hkd:B8 kd)(hC:ae w g C0)(hm:w.heap[gm]? = some (.cells #[vB c,vB 0,vW 0,vW 0,vW 0,vW 0,vW 0,vW 0,vW 0,vW 0,vW 0,vW 0,nS,nS,nS,nS,vB me,vB kd,vB 0,vB 0,vB 0,nS] 45 (0,0)))(hne:g≠gm) :
    Calls Tryz.prog 161 #[vP g 0,vP gm 0] w (bQ g gm (eD kd C0).1 { b7.zero with code:=c,mei:=me,kind:=kd,level:=C0.byteV,more:=(l9 C0).byteV,next:=(lF C0).byteV,objects:=(eD kd C0).2 } w):=by
 obtain⟨hcode1,hcode2⟩:=hcode
 obtain⟨hme1,hme2⟩:=hme
 obtain⟨hkd1,hkd2⟩:=hkd
 refine en 92 Tryz.func161 rfl<|aq 2<|ax<|m3 (bI hC) fun cU bO b cV=>Pl 2<|?_
 have af:=aV b (Ne.symm hne) hm
 refine L0<|bD af 18 (mG c 0 0 0 0 0 0 0 0 0 0 0 nS nS nS nS me kd C0.byteV 0 0 nS) fun cW dB j=>aL 4<|aH dB 18<|ax<|m1 (pY (x:=C0.byteV) (w:=_)) fun cX d=>?_
 have aj:=aN j d
 refine ax<|m2 (aY ((bL C0.byteV)) 6 (ae.upd bO aj (aa hne av) (ai (aT af (by decide)) aC))) fun cY bP l=>?_
 refine ab bP fun x25 bR bS=>?_
 refine aL 2<|ax<|m3 (bI bS) fun cZ bT o d0=>Pl 2<|?_
 have ak:=u1 l o im
 have am:=aV (uz d ak) (Ne.symm hne) dB
 refine L0<|bD am 19 (mG c 0 0 0 0 0 0 0 0 0 0 0 nS nS nS nS me kd C0.byteV x25.byteV 0 nS) fun d1 T f=>aL 4<|aH T 19<|Pl 2<|ea 6 [29] 35 29 (x25.byteV==0) (x25.byteV==255) (fun K bU bV=>?_) ?_
 have d2:=au bV
 exact Pl 3<|L1<|cS T 19<|Pl 2<|ce bU _ rfl
 refine ax<|m2 (aY (((x25.byteV==0)||(x25.byteV==255))) 6 (ae.upd bT f (aa hne av) (ai (aT am (by decide)) aC))) fun d3 bW p=>?_
 refine ab bW fun x44 bY bZ=>?_
 refine aL 2<|ax<|m3 (bI bZ) fun d4 c0 r d5=>Pl 2<|?_
 have an:=u1 p r im
 have ao:=aV an (Ne.symm hne) T
 refine L0<|bD ao 20 (mG c 0 0 0 0 0 0 0 0 0 0 0 nS nS nS nS me kd C0.byteV x25.byteV x44.byteV nS) fun d6 U h=>aL 4<|aH U 19<|Pl 2<|ea 6 [48] 54 48 (x25.byteV != 0) (x44.byteV==0) (fun K c1 c2=>?_) ?_
 have d7:=aJ c2
 exact Pl 3<|L1<|cS U 20<|Pl 2<|ce c1 _ rfl
 refine ax<|m2 (aY (((x25.byteV != 0)||(x44.byteV==0))) 6 (ae.upd c0 h (aa hne av) (ai (aT ao (by decide)) aC))) fun d9 c3 s=>?_
 refine ab c3 fun x62 c4 c5=>?_
 refine aL 1<|ax<|m3 (bI c5) fun da c6 t dc=>be x62.byteV<|Pl 1<|aL 4<|?_
 have ar:=u1 s t im
 have aw:=aV ar (Ne.symm hne) U
 refine aH aw 17<|Pl 2<|ea 3 [65] 68 65 (kd != 4) (x62.byteV==1) (fun K c8 ca=>?_) ?_
 have dd:=aJ ca
 exact Pl 3<|ce c8 _ rfl
 refine ax<|m2 (aY (((kd != 4)||(x62.byteV==1))) 5 c6) fun V cc i=>?_
 refine ab cc fun x76 cd cf=>?_
 refine db 2<|bk<|?_
 refine gw (fun x=>[(0,vP g 0),(1,vP gm 0),(70,vI x62.byteV),(71,vI (x.1:Int))]) (fun(x:Nat × ah × List Obj × Option Addr × Nat) w'=>aE [g,gm] V w'∧ae w' g x.2.1∧w'.heap[gm]? = some (.cells #[vB c,vB 0,vW 0,vW 0,vW 0,vW 0,vW 0,vW 0,vW 0,vW 0,vW 0,vW 0,nS,nS,nS,nS,vB me,vB kd,vB C0.byteV,vB x25.byteV,vB x44.byteV,.slice x.2.2.2.1 x.2.2.1.length x.2.2.2.2] 45 (0,0))∧aW V.heap.size 100 2 (cF (.hi w.heap.size)) w' (.slice x.2.2.2.1 x.2.2.1.length x.2.2.2.2) x.2.2.1∧(x.1≤x62.byteV.toNat)∧(el (x62.byteV.toNat-x.1) x.2.1 x.2.2.1=el x62.byteV.toNat x76 [])∧(x.2.2.1.length≤x.1)) (fun x=>x62.byteV.toNat-x.1) (0,x76,[],none,0) ⟨aE.refl _ _,cf,(aV i (Ne.symm hne) aw),aW.nil ..,(by(try dsimp only);omega),(by(try dsimp only);rw[Nat.sub_zero]),(by(try dsimp only);(try simp only[d8]);omega)⟩ ?_
 rintro⟨k,C,L,A,cp⟩ W ⟨v,cg,ch,ci,cj,ck,cl⟩
 refine f5 [(0,vP g 0),(1,vP gm 0),(70,vI x62.byteV),(71,vI (k:Int))] ?_
 have z:ae W g C:=cg
 have E:W.heap[gm]? = some (.cells #[vB c,vB 0,vW 0,vW 0,vW 0,vW 0,vW 0,vW 0,vW 0,vW 0,vW 0,vW 0,nS,nS,nS,nS,vB me,vB kd,vB C0.byteV,vB x25.byteV,vB x44.byteV,.slice A L.length cp] 45 (0,0)):=ch
 have a:aW V.heap.size 100 2 (cF (.hi w.heap.size)) W (.slice A L.length cp) L:=ci
 have de:k≤x62.byteV.toNat:=cj
 have df:el (x62.byteV.toNat-k) C L=el x62.byteV.toNat x76 []:=ck
 have dg:L.length≤k:=cl
 have hobj:el (x62.byteV.toNat-k) C L=el x62.byteV.toNat x76 []:=by assumption
 refine az 1<|sq<|?_
 refine cb ((decide ((k:Int)<x62.byteV))) (fun X=>?_) (fun X=>?_)
 have cm:=of_decide_eq_true X
 refine bz<|sq<|bk<|aq 1<|ax<|m3 (bI z) fun dh ay y di=>ap 1<|Rg 17 (fun w'=>True) fun dj u=>bA trivial fun D=>Rt 0 D<|Rt 1 D<|Rt 2 D<|Rt 3 D<|Rt 5 D<|Rt 6 D<|Rt 7 D<|R2 4 8 rfl rfl ?_ ?_
 have Y:=aN y u
 have Z:=aV Y (Ne.symm hne) E
 refine  cS Z 21<|bA trivial fun dk=>?_
 refine R0 8 rfl<|Oc<|m3 (bI (ae.old ay u)) fun dl aD G dm=>bA trivial fun cn=>Rr 9 cn (vI ((C.bytesC 1).byteV)) (fun _ _=>c9 (vI (IntKind.i64.wrap ((C.bytesC 1).byteV))) (by kernel_rfl) (congrArg (Value.int .i64) (i64_in (by omega))))<|R0 10 rfl<|Oc<|qm (bX (n:=(C.bytesC 1).byteV) aD) fun co cq dn cr dp dq cs a0=>?_
 have dr:=Nat.le_trans (ah.bytesR_le ((C.bytesC 1).bytesC 1) ((C.bytesC 1).byteV)) (ae.len aD)
 refine ab cs fun ds ct cu=>?_
 refine bA trivial fun cv=>Rt 11 cv<|R0 12 rfl<|eX (m:=1) (e:=100) #[vB C.byteV,.slice co ((((C.bytesC 1).bytesC 1).bytesR ((C.bytesC 1).byteV)).length) cq] fun dt du dv cw H=>?_
 have cx:=iU (R:=cF (.hi w.heap.size)) (x:=(Obj.mk C.byteV (((C.bytesC 1).bytesC 1).bytesR ((C.bytesC 1).byteV)))) cw rfl ⟨_,rfl,(aI.hi_le (aX.upd' cr H aC) (le (le (le (le (le (le (le (le (le (le (le (le (le (le (le b.size j.size) d.size) l.size) o.size) f.size) p.size) r.size) h.size) s.size) t.size) i.size) v.size) y.size) u.size) G.size) fun _ _ q=>q),b8 (x:=C.byteV) (by omega)⟩
 refine bA trivial fun dw=>?_
 have aF:=u1 G (aN a0 H) im
 have a1:=u1 Y aF im
 have aK:=al a a1 (fun x hx=>(aa (fun e=>(aG (ae.lt hC) (le (le (le (le (le (le (le (le (le (le (le b.size j.size) d.size) l.size) o.size) f.size) p.size) r.size) h.size) s.size) t.size) i.size) a) (e▸hx)) av)) (cF.upd8 a1 (ai (ae.safe z _ (by decide)) aC))
 refine R0 13 rfl<|fL (xs:=L) (ys:=([(Obj.mk C.byteV (((C.bytesC 1).bytesC 1).bytesR ((C.bytesC 1).byteV)))])) (.agg #[vB 0,nS]) 2 32 aK cx (by simp) cF.ones (fun w' hv=>cF.upd8 hv (bf (bv _ aK (by decide)) aC)) (by(try simp only[d8,aQ]);omega) (le (le (le (le (le v.size y.size) u.size) G.size) a0.size) H.size) fun aM aO dx aP aR=>bA trivial fun aS=>Rt 14 aS<|Rt 15 aS<|?_
 have aU:=aE.blk (ut (aE.mono (S':=(g :: (ob A++[]))) aF (ac im aA)) aR (aB il aA)) (aa (Ne.symm hne) (b9 (aG (ag hm) (le (le (le (le (le (le (le (le (le (le (le b.size j.size) d.size) l.size) o.size) f.size) p.size) r.size) h.size) s.size) t.size) i.size) a) av)) Z
 refine R0 16 rfl<|bD aU 21 (mG c 0 0 0 0 0 0 0 0 0 0 0 nS nS nS nS me kd C0.byteV x25.byteV x44.byteV (.slice aM ((L++[(Obj.mk C.byteV (((C.bytesC 1).bytesC 1).bytesR ((C.bytesC 1).byteV)))]).length) aO)) fun dy cy a2=>bA trivial fun dz=>re<|bn<|tn<|go<|be ((k:Int)+1)<|Pl 1<|nl<|?_
 subst ct
 have aZ:=u1 (aE.mono (S':=(ob A++(gm :: []))) aR (aB il aA)) a2 im
 have b0:=u1 G a0 im
 have b1:=u1 Y b0 im
 exact ed ((k+1),(((C.bytesC 1).bytesC 1).bytesC ((C.bytesC 1).byteV)),(L++[(Obj.mk C.byteV (((C.bytesC 1).bytesC 1).bytesR ((C.bytesC 1).byteV)))]),aM,aO) ⟨(ut v (ut (aE.mono (S':=(g :: (ob A++(gm :: [])))) a1 (ac im aA)) aZ (aB il (ac im aA))) (ac im (aB (bC a lr) (ac im aA)))),(ae.upd cu (ut (aE.mono (S':=(ob A++(gm :: []))) H aA) aZ (aB il (ac im aA))) (b9 (aG (ae.lt hC) (le (le (le (le (le (le (le (le (le (le (le b.size j.size) d.size) l.size) o.size) f.size) p.size) r.size) h.size) s.size) t.size) i.size) a) (aa hne av)) (bf (bv _ (al a b1 (fun x hx=>(aa (fun e=>(aG (ae.lt hC) (le (le (le (le (le (le (le (le (le (le (le b.size j.size) d.size) l.size) o.size) f.size) p.size) r.size) h.size) s.size) t.size) i.size) a) (e▸hx)) av)) (cF.upd8 b1 (ai (ae.safe z _ (by decide)) aC))) (by decide)) (ai (aT (aV b0 (Ne.symm hne) Z) (by decide)) aC))),cy,(al aP a2 (fun x hx=>(aa (fun e=>(aG (ag hm) (le (le (le (le (le (le (le (le (le (le (le b.size j.size) d.size) l.size) o.size) f.size) p.size) r.size) h.size) s.size) t.size) i.size) aP) (e▸hx)) av)) (cF.upd8 a2 (ai (aT aU (by decide)) aC))),(by(try dsimp only);omega),(by(try dsimp only);rw[← hobj,show x62.byteV.toNat-k=(x62.byteV.toNat-(k+1))+1 from by omega];rfl),(by(try dsimp only);(try simp only[d8]);omega)⟩ (by omega)
 refine  Oc<|m3 (bI (ae.old ay u)) fun dA I B dC=>bA trivial fun cz=>Rr 9 cz (vI ((C.bytesC 1).byteV)) (fun _ _=>c9 (vI (IntKind.i64.wrap ((C.bytesC 1).byteV))) (by kernel_rfl) (congrArg (Value.int .i64) (i64_in (by omega))))<|R2 4 10 rfl rfl ?_ ?_
 have a3:=u1 y (uz u B) im
 have a4:=aV a3 (Ne.symm hne) E
 refine  cS a4 21<|bA trivial fun dD=>R0 10 rfl<|Oc<|qm (bX (n:=(C.bytesC 1).byteV) I) fun cA cB dE cC dF dG cD J=>?_
 have dH:=Nat.le_trans (ah.bytesR_le ((C.bytesC 1).bytesC 1) ((C.bytesC 1).byteV)) (ae.len I)
 refine ab cD fun dI cE cG=>?_
 refine bA trivial fun cH=>Rt 11 cH<|R0 12 rfl<|eX (m:=1) (e:=100) #[vB C.byteV,.slice cA ((((C.bytesC 1).bytesC 1).bytesR ((C.bytesC 1).byteV)).length) cB] fun dJ dK dL cI M=>?_
 have cJ:=iU (R:=cF (.hi w.heap.size)) (x:=(Obj.mk C.byteV (((C.bytesC 1).bytesC 1).bytesR ((C.bytesC 1).byteV)))) cI rfl ⟨_,rfl,(aI.hi_le (aX.upd' cC M aC) (le (le (le (le (le (le (le (le (le (le (le (le (le (le (le b.size j.size) d.size) l.size) o.size) f.size) p.size) r.size) h.size) s.size) t.size) i.size) v.size) y.size) u.size) B.size) fun _ _ q=>q),b8 (x:=C.byteV) (by omega)⟩
 refine bA trivial fun dM=>?_
 have b2:=aN J M
 have a5:=u1 a3 b2 im
 have b3:=al a a5 (fun x hx=>(aa (fun e=>(aG (ae.lt hC) (le (le (le (le (le (le (le (le (le (le (le b.size j.size) d.size) l.size) o.size) f.size) p.size) r.size) h.size) s.size) t.size) i.size) a) (e▸hx)) av)) (cF.upd8 a5 (ai (ae.safe z _ (by decide)) aC))
 refine R0 13 rfl<|fL (xs:=L) (ys:=([(Obj.mk C.byteV (((C.bytesC 1).bytesC 1).bytesR ((C.bytesC 1).byteV)))])) (.agg #[vB 0,nS]) 2 32 b3 cJ (by simp) cF.ones (fun w' hv=>cF.upd8 hv (bf (bv _ b3 (by decide)) aC)) (by(try simp only[d8,aQ]);omega) (le (le (le (le (le v.size y.size) u.size) B.size) J.size) M.size) fun b4 b5 dN b6 ba=>bA trivial fun bb=>Rt 14 bb<|Rt 15 bb<|?_
 have bc:=aE.blk (ut (aE.mono (S':=(g :: (ob A++[]))) b2 (ac im aA)) ba (aB il aA)) (aa (Ne.symm hne) (b9 (aG (ag hm) (le (le (le (le (le (le (le (le (le (le (le b.size j.size) d.size) l.size) o.size) f.size) p.size) r.size) h.size) s.size) t.size) i.size) a) av)) a4
 refine R0 16 rfl<|bD bc 21 (mG c 0 0 0 0 0 0 0 0 0 0 0 nS nS nS nS me kd C0.byteV x25.byteV x44.byteV (.slice b4 ((L++[(Obj.mk C.byteV (((C.bytesC 1).bytesC 1).bytesR ((C.bytesC 1).byteV)))]).length) b5)) fun dO cK a6=>bA trivial fun dP=>re<|bn<|tn<|go<|be ((k:Int)+1)<|Pl 1<|nl<|?_
 subst cE
 have bd:=u1 (aE.mono (S':=(ob A++(gm :: []))) ba (aB il aA)) a6 im
 have bg:=u1 a3 J im
 exact ed ((k+1),(((C.bytesC 1).bytesC 1).bytesC ((C.bytesC 1).byteV)),(L++[(Obj.mk C.byteV (((C.bytesC 1).bytesC 1).bytesR ((C.bytesC 1).byteV)))]),b4,b5) ⟨(ut v (ut (aE.mono (S':=(g :: (ob A++(gm :: [])))) a5 (ac im aA)) bd (aB il (ac im aA))) (ac im (aB (bC a lr) (ac im aA)))),(ae.upd cG (ut (aE.mono (S':=(ob A++(gm :: []))) M aA) bd (aB il (ac im aA))) (b9 (aG (ae.lt hC) (le (le (le (le (le (le (le (le (le (le (le b.size j.size) d.size) l.size) o.size) f.size) p.size) r.size) h.size) s.size) t.size) i.size) a) (aa hne av)) (bf (bv _ (al a bg (fun x hx=>(aa (fun e=>(aG (ae.lt hC) (le (le (le (le (le (le (le (le (le (le (le b.size j.size) d.size) l.size) o.size) f.size) p.size) r.size) h.size) s.size) t.size) i.size) a) (e▸hx)) av)) (cF.upd8 bg (ai (ae.safe z _ (by decide)) aC))) (by decide)) (ai (aT (aV J (Ne.symm hne) a4) (by decide)) aC))),cK,(al b6 a6 (fun x hx=>(aa (fun e=>(aG (ag hm) (le (le (le (le (le (le (le (le (le (le (le b.size j.size) d.size) l.size) o.size) f.size) p.size) r.size) h.size) s.size) t.size) i.size) b6) (e▸hx)) av)) (cF.upd8 a6 (ai (aT bc (by decide)) aC))),(by(try dsimp only);omega),(by(try dsimp only);rw[← hobj,show x62.byteV.toNat-k=(x62.byteV.toNat-(k+1))+1 from by omega];rfl),(by(try dsimp only);(try simp only[d8]);omega)⟩ (by omega)
 refine  Oc<|qm (bX (n:=(C.bytesC 1).byteV) I) fun bh bi dQ bj dR dS cL F=>?_
 have dT:=Nat.le_trans (ah.bytesR_le ((C.bytesC 1).bytesC 1) ((C.bytesC 1).byteV)) (ae.len I)
 refine ab cL fun dU bl bm=>?_
 refine bA trivial fun cM=>Rt 11 cM<|R2 4 12 rfl rfl ?_ ?_
 have N:=u1 y (uz u (u1 B F im)) im
 have a7:=aV N (Ne.symm hne) E
 refine  cS a7 21<|bA trivial fun dV=>R0 12 rfl<|eX (m:=1) (e:=100) #[vB C.byteV,.slice bh ((((C.bytesC 1).bytesC 1).bytesR ((C.bytesC 1).byteV)).length) bi] fun dW dX dY cN O=>?_
 have cO:=iU (R:=cF (.hi w.heap.size)) (x:=(Obj.mk C.byteV (((C.bytesC 1).bytesC 1).bytesR ((C.bytesC 1).byteV)))) cN rfl ⟨_,rfl,(aI.hi_le (aX.upd' bj O aC) (le (le (le (le (le (le (le (le (le (le (le (le (le (le (le b.size j.size) d.size) l.size) o.size) f.size) p.size) r.size) h.size) s.size) t.size) i.size) v.size) y.size) u.size) B.size) fun _ _ q=>q),b8 (x:=C.byteV) (by omega)⟩
 refine bA trivial fun dZ=>?_
 have a8:=aN N O
 have bo:=al a a8 (fun x hx=>(aa (fun e=>(aG (ae.lt hC) (le (le (le (le (le (le (le (le (le (le (le b.size j.size) d.size) l.size) o.size) f.size) p.size) r.size) h.size) s.size) t.size) i.size) a) (e▸hx)) av)) (cF.upd8 a8 (ai (ae.safe z _ (by decide)) aC))
 refine R0 13 rfl<|fL (xs:=L) (ys:=([(Obj.mk C.byteV (((C.bytesC 1).bytesC 1).bytesR ((C.bytesC 1).byteV)))])) (.agg #[vB 0,nS]) 2 32 bo cO (by simp) cF.ones (fun w' hv=>cF.upd8 hv (bf (bv _ bo (by decide)) aC)) (by(try simp only[d8,aQ]);omega) (le (le (le (le (le v.size y.size) u.size) B.size) F.size) O.size) fun bp bq e0 br bs=>bA trivial fun bt=>Rt 14 bt<|Rt 15 bt<|?_
 have bu:=ut (aE.mono (S':=(ob A++[])) O aA) bs (aB il aA)
 have bw:=aE.blk bu (b9 (aG (ag hm) (le (le (le (le (le (le (le (le (le (le (le b.size j.size) d.size) l.size) o.size) f.size) p.size) r.size) h.size) s.size) t.size) i.size) a) av) a7
 refine R0 16 rfl<|bD bw 21 (mG c 0 0 0 0 0 0 0 0 0 0 0 nS nS nS nS me kd C0.byteV x25.byteV x44.byteV (.slice bp ((L++[(Obj.mk C.byteV (((C.bytesC 1).bytesC 1).bytesR ((C.bytesC 1).byteV)))]).length) bq)) fun e1 cP P=>bA trivial fun e2=>re<|bn<|tn<|go<|be ((k:Int)+1)<|Pl 1<|nl<|?_
 subst bl
 exact ed ((k+1),(((C.bytesC 1).bytesC 1).bytesC ((C.bytesC 1).byteV)),(L++[(Obj.mk C.byteV (((C.bytesC 1).bytesC 1).bytesR ((C.bytesC 1).byteV)))]),bp,bq) ⟨(ut v (ut (aE.mono (S':=(g :: (ob A++(gm :: [])))) a8 (ac im aA)) (u1 (aE.mono (S':=(ob A++(gm :: []))) bs (aB il aA)) P im) (aB il (ac im aA))) (ac im (aB (bC a lr) (ac im aA)))),(ae.upd bm (u1 (aE.mono (S':=(ob A++(gm :: []))) bu (aB il aA)) P im) (b9 (aG (ae.lt hC) (le (le (le (le (le (le (le (le (le (le (le b.size j.size) d.size) l.size) o.size) f.size) p.size) r.size) h.size) s.size) t.size) i.size) a) (aa hne av)) (bf (bv _ (al a N (fun x hx=>(aa (fun e=>(aG (ae.lt hC) (le (le (le (le (le (le (le (le (le (le (le b.size j.size) d.size) l.size) o.size) f.size) p.size) r.size) h.size) s.size) t.size) i.size) a) (e▸hx)) av)) (cF.upd8 N (ai (ae.safe z _ (by decide)) aC))) (by decide)) (ai (aT a7 (by decide)) aC))),cP,(al br P (fun x hx=>(aa (fun e=>(aG (ag hm) (le (le (le (le (le (le (le (le (le (le (le b.size j.size) d.size) l.size) o.size) f.size) p.size) r.size) h.size) s.size) t.size) i.size) br) (e▸hx)) av)) (cF.upd8 P (ai (aT bw (by decide)) aC))),(by(try dsimp only);omega),(by(try dsimp only);rw[← hobj,show x62.byteV.toNat-k=(x62.byteV.toNat-(k+1))+1 from by omega];rfl),(by(try dsimp only);(try simp only[d8]);omega)⟩ (by omega)
 refine  eX (m:=1) (e:=100) #[vB C.byteV,.slice bh ((((C.bytesC 1).bytesC 1).bytesR ((C.bytesC 1).byteV)).length) bi] fun e3 e4 e5 cQ Q=>?_
 have cR:=iU (R:=cF (.hi w.heap.size)) (x:=(Obj.mk C.byteV (((C.bytesC 1).bytesC 1).bytesR ((C.bytesC 1).byteV)))) cQ rfl ⟨_,rfl,(aI.hi_le (aX.upd' bj Q aC) (le (le (le (le (le (le (le (le (le (le (le (le (le (le (le b.size j.size) d.size) l.size) o.size) f.size) p.size) r.size) h.size) s.size) t.size) i.size) v.size) y.size) u.size) B.size) fun _ _ q=>q),b8 (x:=C.byteV) (by omega)⟩
 refine bA trivial fun e6=>?_
 have S:=u1 y (uz u (u1 B (aN F Q) im)) im
 have bB:=aV S (Ne.symm hne) E
 refine R0 4 rfl<|cS bB 21<|bA trivial fun e7=>?_
 have bE:=al a S (fun x hx=>(aa (fun e=>(aG (ae.lt hC) (le (le (le (le (le (le (le (le (le (le (le b.size j.size) d.size) l.size) o.size) f.size) p.size) r.size) h.size) s.size) t.size) i.size) a) (e▸hx)) av)) (cF.upd8 S (ai (ae.safe z _ (by decide)) aC))
 refine R0 13 rfl<|fL (xs:=L) (ys:=([(Obj.mk C.byteV (((C.bytesC 1).bytesC 1).bytesR ((C.bytesC 1).byteV)))])) (.agg #[vB 0,nS]) 2 32 bE cR (by simp) cF.ones (fun w' hv=>cF.upd8 hv (bf (bv _ bE (by decide)) aC)) (by(try simp only[d8,aQ]);omega) (le (le (le (le (le v.size y.size) u.size) B.size) F.size) Q.size) fun bF bG e8 bH bJ=>bA trivial fun bK=>Rt 14 bK<|Rt 15 bK<|?_
 have bM:=aE.blk bJ (b9 (aG (ag hm) (le (le (le (le (le (le (le (le (le (le (le b.size j.size) d.size) l.size) o.size) f.size) p.size) r.size) h.size) s.size) t.size) i.size) a) av) bB
 refine R0 16 rfl<|bD bM 21 (mG c 0 0 0 0 0 0 0 0 0 0 0 nS nS nS nS me kd C0.byteV x25.byteV x44.byteV (.slice bF ((L++[(Obj.mk C.byteV (((C.bytesC 1).bytesC 1).bytesR ((C.bytesC 1).byteV)))]).length) bG)) fun e9 cT a9=>bA trivial fun eb=>re<|bn<|tn<|go<|be ((k:Int)+1)<|Pl 1<|nl<|?_
 subst bl
 have bN:=u1 (aE.mono (S':=(ob A++(gm :: []))) bJ (aB il aA)) a9 im
 have ad:=u1 y (uz u (u1 B F im)) im
 exact ed ((k+1),(((C.bytesC 1).bytesC 1).bytesC ((C.bytesC 1).byteV)),(L++[(Obj.mk C.byteV (((C.bytesC 1).bytesC 1).bytesR ((C.bytesC 1).byteV)))]),bF,bG) ⟨(ut v (ut (aE.mono (S':=(g :: (ob A++(gm :: [])))) S (ac im aA)) bN (aB il (ac im aA))) (ac im (aB (bC a lr) (ac im aA)))),(ae.upd bm (ut (aE.mono (S':=(ob A++(gm :: []))) Q aA) bN (aB il (ac im aA))) (b9 (aG (ae.lt hC) (le (le (le (le (le (le (le (le (le (le (le b.size j.size) d.size) l.size) o.size) f.size) p.size) r.size) h.size) s.size) t.size) i.size) a) (aa hne av)) (bf (bv _ (al a ad (fun x hx=>(aa (fun e=>(aG (ae.lt hC) (le (le (le (le (le (le (le (le (le (le (le b.size j.size) d.size) l.size) o.size) f.size) p.size) r.size) h.size) s.size) t.size) i.size) a) (e▸hx)) av)) (cF.upd8 ad (ai (ae.safe z _ (by decide)) aC))) (by decide)) (ai (aT (aV ad (Ne.symm hne) E) (by decide)) aC))),cT,(al bH a9 (fun x hx=>(aa (fun e=>(aG (ag hm) (le (le (le (le (le (le (le (le (le (le (le b.size j.size) d.size) l.size) o.size) f.size) p.size) r.size) h.size) s.size) t.size) i.size) bH) (e▸hx)) av)) (cF.upd8 a9 (ai (aT bM (by decide)) aC))),(by(try dsimp only);omega),(by(try dsimp only);rw[← hobj,show x62.byteV.toNat-k=(x62.byteV.toNat-(k+1))+1 from by omega];rfl),(by(try dsimp only);(try simp only[d8]);omega)⟩ (by omega)
 have cm:=of_decide_eq_false X
 refine xt<|tx<|tx<|bx<|rm (.tuple #[])<|?_
 subst cd c4 bY bR
 have hf:eD kd C0=(C,L):=by
   have h1:el ((((((C0.bytesC 1).need (bL C0.byteV) 6).bytesC 1).need ((((C0.bytesC 1).need (bL C0.byteV) 6).byteV==0)||(((C0.bytesC 1).need (bL C0.byteV) 6).byteV==255)) 6).bytesC 1).need ((((C0.bytesC 1).need (bL C0.byteV) 6).byteV != 0)||(((((C0.bytesC 1).need (bL C0.byteV) 6).bytesC 1).need ((((C0.bytesC 1).need (bL C0.byteV) 6).byteV==0)||(((C0.bytesC 1).need (bL C0.byteV) 6).byteV==255)) 6).byteV==0)) 6).byteV.toNat ((((((((C0.bytesC 1).need (bL C0.byteV) 6).bytesC 1).need ((((C0.bytesC 1).need (bL C0.byteV) 6).byteV==0)||(((C0.bytesC 1).need (bL C0.byteV) 6).byteV==255)) 6).bytesC 1).need ((((C0.bytesC 1).need (bL C0.byteV) 6).byteV != 0)||(((((C0.bytesC 1).need (bL C0.byteV) 6).bytesC 1).need ((((C0.bytesC 1).need (bL C0.byteV) 6).byteV==0)||(((C0.bytesC 1).need (bL C0.byteV) 6).byteV==255)) 6).byteV==0)) 6).bytesC 1).need ((kd != 4)||(((((((C0.bytesC 1).need (bL C0.byteV) 6).bytesC 1).need ((((C0.bytesC 1).need (bL C0.byteV) 6).byteV==0)||(((C0.bytesC 1).need (bL C0.byteV) 6).byteV==255)) 6).bytesC 1).need ((((C0.bytesC 1).need (bL C0.byteV) 6).byteV != 0)||(((((C0.bytesC 1).need (bL C0.byteV) 6).bytesC 1).need ((((C0.bytesC 1).need (bL C0.byteV) 6).byteV==0)||(((C0.bytesC 1).need (bL C0.byteV) 6).byteV==255)) 6).byteV==0)) 6).byteV==1)) 5) []=(C,L):=by
     rw[← hobj,show((((((C0.bytesC 1).need (bL C0.byteV) 6).bytesC 1).need ((((C0.bytesC 1).need (bL C0.byteV) 6).byteV==0)||(((C0.bytesC 1).need (bL C0.byteV) 6).byteV==255)) 6).bytesC 1).need ((((C0.bytesC 1).need (bL C0.byteV) 6).byteV != 0)||(((((C0.bytesC 1).need (bL C0.byteV) 6).bytesC 1).need ((((C0.bytesC 1).need (bL C0.byteV) 6).byteV==0)||(((C0.bytesC 1).need (bL C0.byteV) 6).byteV==255)) 6).byteV==0)) 6).byteV.toNat-k=0 from by omega]
     rfl
   exact h1
 rw[hf]
 exact⟨rfl,z,⟨_,⟨E,rfl⟩,⟨_,_,_,_,_,rfl,aI.nil ..,aI.nil ..,aI.nil ..,aI.nil ..,(aW.hi a (le (le (le (le (le (le (le (le (le (le (le b.size j.size) d.size) l.size) o.size) f.size) p.size) r.size) h.size) s.size) t.size) i.size)),⟨(b8 (x:=c) (by omega)),(b8 (x:=0) (by omega)),(c7 (x:=0) (by omega)),(c7 (x:=0) (by omega)),(c7 (x:=0) (by omega)),(c7 (x:=0) (by omega)),(c7 (x:=0) (by omega)),(c7 (x:=0) (by omega)),(c7 (x:=0) (by omega)),(c7 (x:=0) (by omega)),(c7 (x:=0) (by omega)),(c7 (x:=0) (by omega)),(b8 (x:=me) (by omega)),(b8 (x:=kd) (by omega)),(b8 (x:=C0.byteV) (by omega)),(b8 (x:=((C0.bytesC 1).need (bL C0.byteV) 6).byteV) (by omega)),(b8 (x:=((((C0.bytesC 1).need (bL C0.byteV) 6).bytesC 1).need ((((C0.bytesC 1).need (bL C0.byteV) 6).byteV==0)||(((C0.bytesC 1).need (bL C0.byteV) 6).byteV==255)) 6).byteV) (by omega))⟩⟩⟩,(ui b (ui aj (ui ak (ui f (ui an (ui h (ui ar (ui i v))))))))⟩
open Go.RowKit
def dw (C:ah) : ah:=(C.bytesC 1).need (C.byteV==13 || C.byteV==14) 8
def eW (C:ah) : ah:=(dw C).need (decide (((dw C).l.length:Int)≤251)) 5
def gp (C:ah) : ah:=((dw C).bytesC 1).need (decide (1≤(dw C).byteV)&&decide ((dw C).byteV≤4)) 6
def bY (dir c:Int)(C:ah) : Option (ah × b7) :=
  if c != 43 then none
  else if C.byteV==13 then some ((eW C).bytesC ((eW C).l.length:Int),{ b7.zero with code:=c,mei:=C.byteV,data:=(eW C).bytesR ((eW C).l.length:Int) })
  else if dir==1 then some ((eD (dw C).byteV (gp C)).1,{ b7.zero with code:=c,mei:=C.byteV,kind:=(dw C).byteV,level:=(gp C).byteV,more:=(l9 (gp C)).byteV,next:=(lF (gp C)).byteV,objects:=(eD (dw C).byteV (gp C)).2 })
  else some ((gp C).bytesC 1,{ b7.zero with code:=c,mei:=C.byteV,kind:=(dw C).byteV,next:=(gp C).byteV })
theorem n9(hcode:B8 c)(hsl:aX m w (.slice A b.length cp) b)(hb:b.length≤1048576) :
    Calls Tryz.prog 104 #[vI 0,vB c,.slice A b.length cp] w (dG (aj bY 0 c b) w):=by
 obtain⟨hcode1,hcode2⟩:=hcode
 have hln:(b.length:Int)≤1048576:=by omega
 refine en 81 Tryz.func104 rfl<|sg<|aK mZ fun S bl y o p=>ap 1<|sq<|bk<|az 7<|c0<|az 3<|cb ((c != 43)) (fun f=>?_) (fun f=>?_)
 have ac:=ay f
 refine aq 1<|aD o mZ fun bm ad af=>ap 1<|rt<|br<|tr<|c8 ad (vI 4)<|?_
 exact cZ (by unfold aj bY eW gp dw;(try simp only[f,bq,cR,cN,cO,cQ,cP,reduceIte])<;>rfl) (bU (ud p af y))
 have ac:=aJ f
 refine sk<|bn<|tn<|aq 1<|?_
 refine ax<|e3 (di (aX.old hsl p) (by omega)) fun g bo T z B=>Pl 1<|aL 2<|ax<|m3 (bI z) fun bs ag h bt=>Pl 1<|aK mZ fun i bu j al U=>aD al (mG c 0 0 0 0 0 0 0 0 0 0 0 nS nS nS nS ((ah.mk b false 0).byteV) 0 0 0 0 nS) fun bv D V=>nt<|sq<|go<|Pl 2<|aH D 16<|Pl 2<|ea 4 [33] 37 33 (((ah.mk b false 0).byteV)==13) (((ah.mk b false 0).byteV)==14) (fun K am an=>?_) ?_
 have bw:=au an
 exact Pl 1<|L1<|cS D 16<|Pl 2<|ce am _ rfl
 have E:=ud U V j
 refine ax<|m2 (aY (((((ah.mk b false 0).byteV)==13)||(((ah.mk b false 0).byteV)==14))) 8 (ae.old ag E)) fun ao ar r=>?_
 refine ab ar fun ia s t=>?_
 refine nt<|sn (fun x=>[(6,vP S 0),(7,vI 0),(8,vP g 0),(9,vP i 0)]) (fun(x:ah × Array Value × b7) w'=>aE [g,i] ao w'∧ae w' g x.1∧w'.heap[i]? = some (.cells x.2.1 45 (0,0))∧aU (.hi w.heap.size) w' x.2.1.toList x.2.2∧(aj bY 0 c b=bp x.2.2 x.1)) ?_ ?_
 rintro⟨C,cs,M⟩ F ⟨W,aw,aA,aB,aF⟩
 refine f5 [(6,vP S 0),(7,vI 0),(8,vP g 0),(9,vP i 0)] ?_
 have X:ae F g C:=aw
 have aG:F.heap[i]? = some (.cells cs 45 (0,0)):=aA
 have u:aU (.hi w.heap.size) F cs.toList M:=aB
 have G:=aU.size u
 have Y:aj bY 0 c b=bp M C:=aF
 refine aq 1<|ax<|m2 (dI X) fun bx Z H=>nt<|sq<|aq 1<|ax<|mq (c4 Z)<|?_
 have bA:=ae.len Z
 refine Pl 1<|db 2<|?_
 have I:=ud B (u1 h (ue E (ui r (u1 W H im)) j) im) T
 have a0:=aN p I
 refine cb ((C.endC.e != 0)) (fun J=>?_) (fun J=>?_)
 have L:=ay J
 refine aq 2<|?_
 refine aD (ub I o) mZ fun bB aM aO=>ap 1<|bj<|c8 aM (vI C.endC.e)<|?_
 subst s
 rw[Y]
 exact cA L (ud a0 aO y)
 have L:=aJ J
 refine bz<|sg<|?_
 refine L0<|cJ (hz:=(by rw[G];exact b6)) (aV H (Ne.symm (nb (ae.lt z) h.size j)) aG)<|?_
 refine aD (hz:=(by rw[G];exact b6)) (hv:=u.size) (h1:=u.one) (ub I o) (cs) fun bC aP a1=>ap 1<|rt<|eu 22 G aP (vI 0)<|?_
 subst s
 rw[Y]
 exact cW L (aU.upd u (us H a1) (ai (ae.safe X _ (by decide)) (ai (aT (ub (ud B (u1 h (ue E (ui r W) j) im) T) o) (by decide)) aC))) (ud a0 a1 y)
 refine aq 1<|?_
 have a:=nb (ae.lt z) h.size j
 have N:=aV r (Ne.symm a) D
 refine aH N 16<|ap 1<|cb ((((ah.mk b false 0).byteV)==13)) (fun k=>?_) (fun k=>?_)
 have aQ:=ak k
 refine aq 2<|ax<|mq (dx t)<|?_
 have bE:=ae.len t
 refine Pl 1<|ax<|m2 (aY ((decide ((ia.l.length:Int)≤251))) 5 t) fun bF aR a2=>?_
 refine ab aR fun d aS v=>?_
 refine nt<|go<|Pl 2<|ax<|mq (dx v)<|?_
 have bG:=ae.len v
 refine ax<|qm (bX (n:=(d.l.length:Int)) v) fun aW aZ bH b0 bJ bK b1 b2=>?_
 have bL:=Nat.le_trans (ah.bytesR_le d (d.l.length:Int)) (ae.len v)
 refine ab b1 fun b3 b4 b5=>?_
 refine Pl 1<|?_
 have a3:=u1 a2 b2 im
 have O:=aV a3 (Ne.symm a) N
 refine L0<|bD O 14 (mG c 0 0 0 0 0 0 0 0 0 0 0 nS nS (.slice aW ((d.bytesR (d.l.length:Int)).length) aZ) nS ((ah.mk b false 0).byteV) 0 0 0 0 nS) fun bM b8 P=>nl<|?_
 exact jn (b3,_,(b7.mk c 0 0 0 0 0 0 0 0 0 0 0 [] [] (d.bytesR (d.l.length:Int)) [] ((ah.mk b false 0).byteV) 0 0 0 0 [])) ⟨(us a3 P),(ae.upd b5 P (aa a av) (ai (aT O (by decide)) aC)),b8,⟨_,_,_,_,_,rfl,aI.nil ..,aI.nil ..,(aI.hi_le (aX.upd' b0 P (ai (aT O (by decide)) aC)) (le (le (le (le (le (le p.size B.size) h.size) U.size) V.size) r.size) a2.size) fun _ _ q=>q),aI.nil ..,aI.nil ..,(bT (by omega))⟩,by subst b4 aS s;unfold aj bY eW gp dw;(try simp only[f,k,bq,cR,cN,cO,cQ,cP,reduceIte])<;>rfl⟩
 have aQ:=au k
 refine aq 1<|ax<|m3 (bI t) fun bN b9 a4 bO=>Pl 1<|?_
 have a5:=aV a4 (Ne.symm a) N
 refine L0<|bD a5 17 (mG c 0 0 0 0 0 0 0 0 0 0 0 nS nS nS nS ((ah.mk b false 0).byteV) ia.byteV 0 0 0 nS) fun bP Q a6=>aL 2<|aH Q 17<|Pl 2<|cY 4 [59] 63 59 (decide (1≤ia.byteV)) (decide (ia.byteV≤4)) (fun K ba bb=>?_) ?_
 have bQ:=of_decide_eq_true bb
 exact Pl 1<|L1<|cS Q 17<|Pl 2<|ce ba _ rfl
 refine ax<|m2 (aY (((decide (1≤ia.byteV))&&(decide (ia.byteV≤4)))) 6 (ae.upd b9 a6 (aa a av) (ai (aT a5 (by decide)) aC))) fun bR bc bd=>?_
 refine ab bc fun R be bf=>?_
 refine db 2<|c0<|go<|Pl 1<|ax<|m3 (bI bf) fun bS bg bh bV=>Pl 1<|?_
 have a7:=u1 bd bh im
 have a8:=aV a7 (Ne.symm a) Q
 refine L0<|bD a8 20 (mG c 0 0 0 0 0 0 0 0 0 0 0 nS nS nS nS ((ah.mk b false 0).byteV) ia.byteV 0 0 R.byteV nS) fun bW bi a9=>nl<|?_
 exact jn ((R.bytesC 1),_,(b7.mk c 0 0 0 0 0 0 0 0 0 0 0 [] [] [] [] ((ah.mk b false 0).byteV) ia.byteV 0 0 R.byteV [])) ⟨(ui a4 (ui a6 (us a7 a9))),(ae.upd bg a9 (aa a av) (ai (aT a8 (by decide)) aC)),bi,⟨_,_,_,_,_,rfl,aI.nil ..,aI.nil ..,aI.nil ..,aI.nil ..,aI.nil ..,(bT (by omega))⟩,by subst be s;unfold aj bY eW gp dw;(try simp only[f,k,bq,cR,cN,cO,cQ,cP,reduceIte])<;>rfl⟩
theorem m7(hcode:B8 c)(hsl:aX m w (.slice A b.length cp) b)(hb:b.length≤1048576) :
    Calls Tryz.prog 104 #[vI 1,vB c,.slice A b.length cp] w (dG (aj bY 1 c b) w):=by
 obtain⟨hcode1,hcode2⟩:=hcode
 have hln:(b.length:Int)≤1048576:=by omega
 refine en 81 Tryz.func104 rfl<|sg<|aK mZ fun X bl B s h=>ap 1<|sq<|bk<|az 7<|c0<|az 3<|cb ((c != 43)) (fun f=>?_) (fun f=>?_)
 have a8:=ay f
 refine aq 1<|aD s mZ fun bm a9 ac=>ap 1<|rt<|br<|tr<|c8 a9 (vI 4)<|?_
 exact cZ (by unfold aj bY eW gp dw;(try simp only[f,bq,cR,cN,cO,cQ,cP,reduceIte])<;>rfl) (bU (ud h ac B))
 have a8:=aJ f
 refine sk<|bn<|tn<|aq 1<|?_
 refine ax<|e3 (di (aX.old hsl h) (by omega)) fun i bo Y D t=>Pl 1<|aL 2<|ax<|m3 (bI D) fun bs ad g bt=>Pl 1<|aK mZ fun j bu k af E=>aD af (mG c 0 0 0 0 0 0 0 0 0 0 0 nS nS nS nS ((ah.mk b false 0).byteV) 0 0 0 0 nS) fun bv F G=>nt<|sq<|go<|Pl 2<|aH F 16<|Pl 2<|ea 4 [33] 37 33 (((ah.mk b false 0).byteV)==13) (((ah.mk b false 0).byteV)==14) (fun K ag al=>?_) ?_
 have bw:=au al
 exact Pl 1<|L1<|cS F 16<|Pl 2<|ce ag _ rfl
 have H:=ud E G k
 refine ax<|m2 (aY (((((ah.mk b false 0).byteV)==13)||(((ah.mk b false 0).byteV)==14))) 8 (ae.old ad H)) fun am an o=>?_
 refine ab an fun ia u v=>?_
 refine nt<|sn (fun x=>[(6,vP X 0),(7,vI 0),(8,vP i 0),(9,vP j 0)]) (fun(x:ah × Array Value × b7) w'=>aE [i,j] am w'∧ae w' i x.1∧w'.heap[j]? = some (.cells x.2.1 45 (0,0))∧aU (.hi w.heap.size) w' x.2.1.toList x.2.2∧(aj bY 1 c b=bp x.2.2 x.1)) ?_ ?_
 rintro⟨C,cs,M⟩ I ⟨Z,ao,ar,aw,aA⟩
 refine f5 [(6,vP X 0),(7,vI 0),(8,vP i 0),(9,vP j 0)] ?_
 have a0:ae I i C:=ao
 have aB:I.heap[j]? = some (.cells cs 45 (0,0)):=ar
 have y:aU (.hi w.heap.size) I cs.toList M:=aw
 have J:=aU.size y
 have a1:aj bY 1 c b=bp M C:=aA
 refine aq 1<|ax<|m2 (dI a0) fun bx a2 L=>nt<|sq<|aq 1<|ax<|mq (c4 a2)<|?_
 have bA:=ae.len a2
 refine Pl 1<|db 2<|?_
 have N:=ud t (u1 g (ue H (ui o (u1 Z L im)) k) im) Y
 have a3:=aN h N
 refine cb ((C.endC.e != 0)) (fun O=>?_) (fun O=>?_)
 have P:=ay O
 refine aq 2<|?_
 refine aD (ub N s) mZ fun bB aF aG=>ap 1<|bj<|c8 aF (vI C.endC.e)<|?_
 subst u
 rw[a1]
 exact cA P (ud a3 aG B)
 have P:=aJ O
 refine bz<|sg<|?_
 refine L0<|cJ (hz:=(by rw[J];exact b6)) (aV L (Ne.symm (nb (ae.lt D) g.size k)) aB)<|?_
 refine aD (hz:=(by rw[J];exact b6)) (hv:=y.size) (h1:=y.one) (ub N s) (cs) fun bC aM a4=>ap 1<|rt<|eu 22 J aM (vI 0)<|?_
 subst u
 rw[a1]
 exact cW P (aU.upd y (us L a4) (ai (ae.safe a0 _ (by decide)) (ai (aT (ub (ud t (u1 g (ue H (ui o Z) k) im) Y) s) (by decide)) aC))) (ud a3 a4 B)
 refine aq 1<|?_
 have a:=nb (ae.lt D) g.size k
 have Q:=aV o (Ne.symm a) F
 refine aH Q 16<|ap 1<|cb ((((ah.mk b false 0).byteV)==13)) (fun p=>?_) (fun p=>?_)
 have aO:=ak p
 refine aq 2<|ax<|mq (dx v)<|?_
 have bE:=ae.len v
 refine Pl 1<|ax<|m2 (aY ((decide ((ia.l.length:Int)≤251))) 5 v) fun bF aP a5=>?_
 refine ab aP fun d aQ z=>?_
 refine nt<|go<|Pl 2<|ax<|mq (dx z)<|?_
 have bG:=ae.len z
 refine ax<|qm (bX (n:=(d.l.length:Int)) z) fun aR aS bH aW bJ bK aZ b0=>?_
 have bL:=Nat.le_trans (ah.bytesR_le d (d.l.length:Int)) (ae.len z)
 refine ab aZ fun b1 b2 b3=>?_
 refine Pl 1<|?_
 have a6:=u1 a5 b0 im
 have R:=aV a6 (Ne.symm a) Q
 refine L0<|bD R 14 (mG c 0 0 0 0 0 0 0 0 0 0 0 nS nS (.slice aR ((d.bytesR (d.l.length:Int)).length) aS) nS ((ah.mk b false 0).byteV) 0 0 0 0 nS) fun bM b4 S=>nl<|?_
 exact jn (b1,_,(b7.mk c 0 0 0 0 0 0 0 0 0 0 0 [] [] (d.bytesR (d.l.length:Int)) [] ((ah.mk b false 0).byteV) 0 0 0 0 [])) ⟨(us a6 S),(ae.upd b3 S (aa a av) (ai (aT R (by decide)) aC)),b4,⟨_,_,_,_,_,rfl,aI.nil ..,aI.nil ..,(aI.hi_le (aX.upd' aW S (ai (aT R (by decide)) aC)) (le (le (le (le (le (le h.size t.size) g.size) E.size) G.size) o.size) a5.size) fun _ _ q=>q),aI.nil ..,aI.nil ..,(bT (by omega))⟩,by subst b2 aQ u;unfold aj bY eW gp dw;(try simp only[f,p,bq,cR,cN,cO,cQ,cP,reduceIte])<;>rfl⟩
 have aO:=au p
 refine aq 1<|ax<|m3 (bI v) fun bN b5 T bO=>Pl 1<|?_
 have a7:=aV T (Ne.symm a) Q
 refine L0<|bD a7 17 (mG c 0 0 0 0 0 0 0 0 0 0 0 nS nS nS nS ((ah.mk b false 0).byteV) ia.byteV 0 0 0 nS) fun bP U V=>aL 2<|aH U 17<|Pl 2<|cY 4 [59] 63 59 (decide (1≤ia.byteV)) (decide (ia.byteV≤4)) (fun K b9 ba=>?_) ?_
 have bQ:=of_decide_eq_true ba
 exact Pl 1<|L1<|cS U 17<|Pl 2<|ce b9 _ rfl
 refine ax<|m2 (aY (((decide (1≤ia.byteV))&&(decide (ia.byteV≤4)))) 6 (ae.upd b5 V (aa a av) (ai (aT a7 (by decide)) aC))) fun bR bb W=>?_
 refine ab bb fun r bc bd=>?_
 refine db 2<|c1<|go<|Pl 1<|?_
 refine ax<|m3 (o6 (c:=c) (me:=(ah.mk b false 0).byteV) (kd:=ia.byteV) ⟨hcode1,hcode2⟩ (b8 (by omega)) (b8 (by omega)) bd (aV W (Ne.symm a) U) a) fun bS be bf bg=>?_
 obtain⟨bV,bh,bi⟩:=bf
 refine nl<|?_
 exact jn ((eD ia.byteV r).1,_,{ b7.zero with code:=c,mei:=(ah.mk b false 0).byteV,kind:=ia.byteV,level:=r.byteV,more:=(l9 r).byteV,next:=(lF r).byteV,objects:=(eD ia.byteV r).2 }) ⟨(ui T (ui V (ui W bg))),be,bh.1,(aU.lo bi (le (le (le (le (le (le (le (le h.size t.size) g.size) E.size) G.size) o.size) T.size) V.size) W.size)),by subst bc u;unfold aj bY eW gp dw;(try simp only[f,p,bq,cR,cN,cO,cQ,cP,reduceIte])<;>rfl⟩
theorem lT(hcode:B8 c)(hsl:aX m w (.slice A b.length cp) b)(hb:b.length≤1048576)(hd:¬ (dir=0∨dir=1)) :
    Calls Tryz.prog 104 #[vI dir,vB c,.slice A b.length cp] w (dG (aj bY dir c b) w):=by
 obtain⟨hcode1,hcode2⟩:=hcode
 have hln:(b.length:Int)≤1048576:=by omega
 have e0:(dir != 0)=true:=by simp;omega
 have e1:(dir != 1)=true:=by simp;omega
 refine en 81 Tryz.func104 rfl<|sg<|aK mZ fun g h a d e=>ap 1<|sq<|bk<|aq 3<|sy 14 e0<|Pl 4<|nl<|tn<|ct e1<|aq 1<|aD d mZ fun i dB f=>ap 1<|rt<|br<|tr<|c8 dB (vI 1)<|?_
 exact cZ (by unfold aj bY eW gp dw;(try simp only[e0,e1,bq,cR,cN,cO,cQ,cP,reduceIte,hd])<;>rfl) (bU (ud e f a))
theorem q9{v:Value}    (hc:B8 c)(h:aX m w v b)(hb:b.length≤1048576) :
    Calls Tryz.prog 104 #[.int .i64 dir,.int .u8 c,v] w (dG (aj bY dir c b) w):=by
  obtain⟨A,cp,rfl,_,_⟩:=h.shape
  by_cases h0:dir=0
  · subst h0;exact n9 hc h hb
  by_cases h1:dir=1
  · subst h1;exact m7 hc h hb
  exact lT hc h hb (by omega)
open Go.RowKit
def iP (C:ah) : ah:=(C.bytesC 1).need (C.byteV==6) 9
def iT (C:ah) : ah:=((iP C).wordsC 1).need ((iP C).wordV != 0) 6
def lU (C:ah) : ah:=((iT C).wordsC 1).need (decide ((iT C).wordV≤9999)) 7
def d7 (C:ah) : ah:=((lU C).wordsC 1).need ((lU C).wordV != 0) 5
def aM (C:ah) : cX:=⟨(iP C).wordV,(iT C).wordV,(lU C).wordV,[]⟩
def dK (s:Int)(C:ah) : Int:=s+(2+2*(lU C).wordV)
def dX (s:Int)(C:ah) : ah:=(d7 C).need (decide (dK s C≤245)) 5
def gv (C:ah) : ah:=(C.bytesC 1).need ((C.byteV%2==1&&decide (3≤C.byteV))&&decide (C.byteV≤((C.bytesC 1).l.length:Int))) 5
def gq (C:ah) : ah:=((gv C).bytesC 1).need ((gv C).byteV==6) 9
def eo (C:ah) : ah:=(gq C).wordsC (Int.tdiv (C.byteV-1) 2)
def dQ (C:ah) : cX:=⟨0,0,0,(gq C).wordsR (Int.tdiv (C.byteV-1) 2)⟩
def mf (C:ah) : ah:=(d7 C).need (decide (2*(lU C).wordV≤((d7 C).l.length:Int))) 5
def i9 (C:ah) : ah:=(mf C).wordsC (lU C).wordV
def gF (C:ah) : cX:=⟨(iP C).wordV,(iT C).wordV,(lU C).wordV,(mf C).wordsR (lU C).wordV⟩
def ur (g:Nat)(C':ah)(r:cX)(w:World)(e:Ending)(w':World) : Prop:=∃ A c,e = .returned (.agg #[.int .u16 r.file,.int .u16 r.record,.int .u16 r.count,.slice A r.words.length c])∧ez (.hi w.heap.size) w' (.slice A r.words.length c) r.words∧dB r.file∧dB r.record∧dB r.count∧ae w' g C'∧aE [g] w w'
theorem mX(hC:ae w g C) : Calls Tryz.prog 214 #[vP g 0] w (ur g (d7 C) (aM C) w):=by
 have hlen:=hC.len
 refine en 34 Tryz.func214 rfl<|sg<|aK #[vW 0,vW 0,vW 0,nS] fun Z a0 c B b=>aL 2<|?_
 refine ax<|m3 (bI (ae.old hC b)) fun a1 D d a2=>Pl 1<|ax<|m2 (aY ((C.byteV==6)) 9 D) fun a3 E e=>?_
 refine ab E fun eF F G=>?_
 refine ng<|aK #[vW 0,vW 0,vW 0,nS] fun a4 a5 f H h=>aL 1<|?_
 refine ax<|m3 (bN (ae.old G h)) fun a6 I i a7=>Pl 1<|?_
 have a:=nb (ae.lt hC) (le (le b.size d.size) e.size) f
 have j:=aV i (Ne.symm a) H
 refine L0<|bD j 0 #[vW eF.wordV,vW 0,vW 0,nS] fun a8 k l=>aL 2<|aH k 0<|Pl 1<|?_
 refine ax<|m2 (aY ((eF.wordV != 0)) 6 (ae.upd I l (aa a av) (ai (aT j (by decide)) aC))) fun a9 J K=>?_
 refine ab J fun ia L M=>?_
 refine aL 1<|ax<|m3 (bN M) fun ac N O ad=>Pl 1<|?_
 have m:=u1 K O im
 have n:=aV m (Ne.symm a) k
 refine L0<|bD n 1 #[vW eF.wordV,vW ia.wordV,vW 0,nS] fun af o p=>aL 2<|aH o 1<|Pl 1<|?_
 refine ax<|m2 (aY ((decide (ia.wordV≤9999))) 7 (ae.upd N p (aa a av) (ai (aT n (by decide)) aC))) fun ag P Q=>?_
 refine ab P fun x61 R S=>?_
 refine aL 1<|ax<|m3 (bN S) fun aj T U ak=>Pl 1<|?_
 have q:=u1 Q U im
 have r:=aV q (Ne.symm a) o
 refine L0<|bD r 2 #[vW eF.wordV,vW ia.wordV,vW x61.wordV,nS] fun al s t=>aL 2<|aH s 2<|Pl 1<|?_
 refine ax<|m2 (aY ((x61.wordV != 0)) 5 (ae.upd T t (aa a av) (ai (aT r (by decide)) aC))) fun am V u=>?_
 refine ab V fun x77 W X=>?_
 refine ng<|?_
 refine L0<|cJ (aV u (Ne.symm a) s)<|?_
 have v:=u1 d (u1 e (ud h (ui i (ui l (ui m (ui p (ui q (us t u)))))) f) im) im
 have y:=nb (ae.lt hC) lr c
 have z:=aV v (Ne.symm y) B
 refine aD z #[vW eF.wordV,vW ia.wordV,vW x61.wordV,nS] fun an Y A=>nK<|v8 Y<|?_
 subst W R L F
 exact⟨_,_,rfl,aI.nil ..,c7 (x:=((C.bytesC 1).need (C.byteV==6) 9).wordV) (by omega),c7 (x:=((((C.bytesC 1).need (C.byteV==6) 9).wordsC 1).need (((C.bytesC 1).need (C.byteV==6) 9).wordV != 0) 6).wordV) (by omega),c7 (x:=((((((C.bytesC 1).need (C.byteV==6) 9).wordsC 1).need (((C.bytesC 1).need (C.byteV==6) 9).wordV != 0) 6).wordsC 1).need (decide (((((C.bytesC 1).need (C.byteV==6) 9).wordsC 1).need (((C.bytesC 1).need (C.byteV==6) 9).wordV != 0) 6).wordV≤9999)) 7).wordV) (by omega),(ae.upd X A (aa y av) (ai (aT z (by decide)) aC)),(ue b (us v A) c)⟩
theorem pk(hC:ae w g C) : Calls Tryz.prog 217 #[vP g 0] w (ur g (eo C) (dQ C) w):=by
 have hlen:=hC.len
 refine en 33 Tryz.func217 rfl<|sg<|aK #[vW 0,vW 0,vW 0,nS] fun Q R k m a=>aL 1<|?_
 refine ax<|m3 (bI (ae.old hC a)) fun S b c T=>be C.byteV<|Pl 1<|aL 2<|L0<|Oe (vI (Int.tmod C.byteV 2)) (vI (C.byteV%2)) (congrArg (Value.int .i64) (Int.tmod_eq_emod_of_nonneg (by omega)))<|Pl 2<|cY 3 [11] 14 11 ((C.byteV%2)==1) (decide (3≤C.byteV)) (fun K t u=>?_) ?_
 have U:=ak u
 exact Pl 3<|ce t _ rfl
 refine Pl 1<|cY 5 [15] 20 15 (((C.byteV%2)==1)&&(decide (3≤C.byteV))) (decide (C.byteV≤(((C.bytesC 1).l.length:Nat) : Int))) (fun K v o=>?_) ?_
 have y:=(aS o).1
 have z:=(aS o).2
 have V:=ak y
 have W:=of_decide_eq_true z
 refine Pl 2<|L1<|Oc<|mq (dx b)<|?_
 have X:=ae.len b
 exact Pl 2<|ce v _ rfl
 refine ax<|m2 (aY (((((C.byteV%2)==1)&&(decide (3≤C.byteV)))&&(decide (C.byteV≤(((C.bytesC 1).l.length:Nat) : Int))))) 5 b) fun Y A d=>?_
 refine ab A fun x28 B D=>?_
 refine aL 2<|ax<|m3 (bI D) fun Z E f a0=>Pl 1<|ax<|m2 (aY ((x28.byteV==6)) 9 E) fun a1 F i=>?_
 refine ab F fun x38 G H=>?_
 refine aL 2<|be (C.byteV-1)<|L0<|Oe (vI (IntKind.i64.wrap (Int.tdiv (C.byteV-1) 2))) (vI (Int.tdiv (C.byteV-1) 2)) (congrArg (Value.int .i64) (jy (by omega) (by omega)))<|ax<|lv (dt (n:=(Int.tdiv (C.byteV-1) 2)) H) fun I J a2 p a3 a4 L M=>?_
 refine ab L fun x48 N O=>?_
 refine Pl 1<|?_
 have q:=u1 c (u1 d (u1 f (u1 i M im) im) im) im
 have r:=nb (ae.lt hC) lr k
 have s:=aV q (Ne.symm r) m
 refine aD s #[vW 0,vW 0,vW 0,.slice I ((x38.wordsR (Int.tdiv (C.byteV-1) 2)).length) J] fun a5 P j=>nK<|v8 P<|?_
 subst N G B
 exact⟨_,_,rfl,(aW.hi (al p j (fun x hx=>(aa (fun e=>(aG (ag m) (le (le (le c.size d.size) f.size) i.size) p) (e▸hx)) av)) (fun _ _ h=>h)) (le (le (le (le a.size c.size) d.size) f.size) i.size)),c7 (x:=0) (by omega),c7 (x:=0) (by omega),c7 (x:=0) (by omega),(ae.upd O j (aa r av) (ai (aT s (by decide)) aC)),(ue a (us q j) k)⟩
theorem sw(hC:ae w g C) : Calls Tryz.prog 219 #[vP g 0] w (ur g (i9 C) (gF C) w):=by
 have hlen:=hC.len
 refine en 22 Tryz.func219 rfl<|sg<|aK #[vW 0,vW 0,vW 0,nS] fun X Y y j f=>aL 1<|?_
 refine ax<|uk (mX (ae.old hC f)) fun I J Z a0 K L M N c=>?_
 obtain⟨a1,a2⟩:=K
 obtain⟨a3,a4⟩:=L
 obtain⟨a5,a6⟩:=M
 refine aK #[vW 0,vW 0,vW 0,nS] fun O a7 k z m=>aD z #[vW ((aM C).file),vW ((aM C).record),vW ((aM C).count),.slice I ((aM C).words.length) J] fun a8 P i=>nt<|sq<|Rg 9 (fun w'=>w'.cell? ⟨O,2,none⟩=some (vW ((aM C).count))) fun a9 d=>?_
 have o:=ub d P
 refine bA (am o rfl) fun a=>Rt 0 a<|Rt 1 a<|Rl 2 a (fun _ hs=>hs)<|Rr 3 a (vI ((aM C).count)) (fun _ _=>c9 (vI (IntKind.i64.wrap ((aM C).count))) (by kernel_rfl) (congrArg (Value.int .i64) (i64_in (by omega))))<|Rr 4 a (vI (2*((aM C).count))) (fun _ _=>c9 (vI (IntKind.i64.wrap (2*((aM C).count)))) (by kernel_rfl) (congrArg (Value.int .i64) (IntWalk.i64_in _ (by omega))))<|Rt 5 a<|?_
 have p:=ud m (aN i d) k
 have q:=ae.old N p
 refine R0 6 rfl<|Oc<|mq (dx q)<|?_
 have ac:=ae.len q
 refine bA (am o rfl) fun Q=>Rt 7 Q<|R0 8 rfl<|Oc<|m2 (aY ((decide ((2*((aM C).count))≤(((d7 C).l.length:Nat) : Int)))) 5 q) fun ad R b=>?_
 refine ab R fun x54 S T=>?_
 have r:=nb (ae.lt hC) (le f.size c.size) k
 have s:=aV b (Ne.symm r) o
 refine bA (am s rfl) fun af=>re<|tn<|aq 2<|aH s 2<|be ((aM C).count)<|ax<|lv (dt (n:=(aM C).count) T) fun A B aj t ak an U u=>Pl 1<|?_
 have D:=aV u (Ne.symm r) s
 refine L0<|bD D 3 #[vW ((aM C).file),vW ((aM C).record),vW ((aM C).count),.slice A ((x54.wordsR ((aM C).count)).length) B] fun ao V E=>ng<|L0<|cJ V<|?_
 have F:=u1 c (ue p (ui b (us u E)) k) im
 have v:=nb (ae.lt hC) lr y
 refine aD (aV F (Ne.symm v) j) #[vW ((aM C).file),vW ((aM C).record),vW ((aM C).count),.slice A ((x54.wordsR ((aM C).count)).length) B] fun ap W G=>nK<|v8 W<|?_
 subst S
 have H:=us E G
 exact⟨_,_,rfl,(aW.hi (al t H (fun x hx=>(aa (fun e=>(aG (ag z) (le (le i.size d.size) b.size) t) (e▸hx)) (aa (fun e=>(aG (ag j) (le (le (le (le c.size m.size) i.size) d.size) b.size) t) (e▸hx)) av))) (fun _ _ h=>h)) (le (le (le (le (le f.size c.size) m.size) i.size) d.size) b.size)),c7 (x:=(aM C).file) (by omega),c7 (x:=(aM C).record) (by omega),c7 (x:=(aM C).count) (by omega),(ae.upd U H (aa r (aa v av)) (ai (aT D (by decide)) (ai (aT (aV (u1 c (uz p (u1 b u im)) im) (Ne.symm v) j) (by decide)) aC))),(ue f (us F G) y)⟩
theorem nq(hn:0≤n∧n<256) : Calls Tryz.prog 215 #[vI n] w (bW (.bool ((decide (7≤n)&&decide (n≤245))&&n%7==0)) w):=by
 refine en 14 Tryz.func215 rfl<|aq 1<|aL 3<|cY 3 [5] 8 5 (decide (7≤n)) (decide (n≤245)) (fun K b c=>?_) ?_
 have g:=of_decide_eq_true c
 exact Pl 3<|ce b _ rfl
 refine Pl 1<|cY 4 [9] 13 9 ((decide (7≤n))&&(decide (n≤245))) ((n%7)==0) (fun K d a=>?_) ?_
 have e:=(aS a).1
 have f:=(aS a).2
 have h:=of_decide_eq_true e
 have i:=of_decide_eq_true f
 exact Pl 1<|L1<|Oe (vI (Int.tmod n 7)) (vI (n%7)) (congrArg (Value.int .i64) (Int.tmod_eq_emod_of_nonneg (by omega)))<|Pl 2<|ce d _ rfl
 exact ap 1<|rt<|rr (.bool (((decide (7≤n))&&(decide (n≤245)))&&((n%7)==0)))<|⟨rfl,(aE.refl [] _)⟩
theorem o5(hn:0≤n∧n<256) : Calls Tryz.prog 216 #[vI n] w (bW (.bool (decide (4≤n)&&decide (n≤245))) w):=by
 refine en 9 Tryz.func216 rfl<|aq 1<|aL 3<|cY 3 [5] 8 5 (decide (4≤n)) (decide (n≤245)) (fun K a b=>?_) ?_
 have c:=of_decide_eq_true b
 exact Pl 3<|ce a _ rfl
 exact ap 1<|rt<|rr (.bool ((decide (4≤n))&&(decide (n≤245))))<|⟨rfl,(aE.refl [] _)⟩
theorem nY(hn:0≤n∧n<256) : Calls Tryz.prog 218 #[vI n] w (bW (.bool (decide (9≤n)&&decide (n≤251))) w):=by
 refine en 9 Tryz.func218 rfl<|aq 1<|aL 3<|cY 3 [5] 8 5 (decide (9≤n)) (decide (n≤251)) (fun K a b=>?_) ?_
 have c:=of_decide_eq_true b
 exact Pl 3<|ce a _ rfl
 exact ap 1<|rt<|rr (.bool ((decide (9≤n))&&(decide (n≤251))))<|⟨rfl,(aE.refl [] _)⟩
theorem gN{e:Int}  : Calls Tryz.prog 158 #[vI e] w (bW (vI (if e==2 then 5 else e)) w):=by
 refine en 6 Tryz.func158 rfl<|az 1<|sq<|az 2<|cb ((e==2)) (fun a=>?_) (fun a=>?_)
 have b:=ak a
 refine az 1<|bj<|rr (vI 5)<|?_
 have hs:(if e==2 then (5:Int) else e)=5:=by simp only[a,bq,reduceIte]
 rw[hs]
 exact⟨rfl,(aE.refl [] _)⟩
 have b:=au a
 refine bz<|az 2<|rt<|rr (vI e)<|?_
 have hs:(if e==2 then (5:Int) else e)=e:=by simp only[a,bq,reduceIte]
 rw[hs]
 exact⟨rfl,(aE.refl [] _)⟩
open Go.RowKit
structure WF (F:Fence) (n:Nat) (P:Program) (ops:Array Oper) (Q:Exit→Act→World→Prop) (l:List Oper) (a:Act) (w:World) : Prop where
  out:wpListIn F n P ops Q l a w
def dS (F:Fence) : Prop:=F=Fence.wide∨∃ l,F=Fence.wide.inRound l
theorem jm:dS Fence.wide:=.inl rfl
theorem iH(l:Nat) : dS (Fence.wide.inRound l):=.inr ⟨l,rfl⟩
theorem dS.fn{F:Fence}(h:dS F)(f:FuncId) : F.fn f:=by
  rcases h with rfl|⟨l,rfl⟩<;>trivial
theorem dS.depth{F:Fence}(h:dS F) : F.depth=none:=by
  rcases h with rfl|⟨l,rfl⟩<;>rfl
section
variable {F:Fence}{n:Nat}{P:Program}{Q:Exit→Act→World→Prop}{a:Act}{w:World}{K:Act→World→Prop}{ops:Array Oper}{rest:List Oper}{o:Oper}{N:Option Tmp}
theorem uo{f:FuncId}{args:Array Value}{R:Ending→World→Prop}(hF:dS F)(h:Calls P f args w R) : CallsIn F n P f args w R:=by
  rcases hF with rfl|⟨l,rfl⟩
  · exact callsIn_wide.2 h
  · exact CallsIn.inRound l (callsIn_wide.2 h)
theorem vN{row:String}{args:Array Value}{R:Value→World→Prop}(hF:dS F)(h:Rows P row args w R) : RowsIn F n P row args w R:=by
  have h0:RowsIn Fence.wide n P row args w R:=fun c cs _=>let ⟨v,w',r,s⟩:=h c cs; ⟨v,w',r,stepsIn_wide.2 s⟩
  rcases hF with rfl|⟨l,rfl⟩
  · exact h0
  · exact h0
def eZ:Op→Bool
  | .defer _=>false
  | _=>true
theorem xQ(hF:dS F)(hd:eZ o.op=true)(h:o.wp P a w K Q) : o.wpIn F n P a w K Q:=by
  refine⟨fun f _=>hF.fn f,?_⟩
  rw[Oper.semAt_eq _ _ _ (fun c hc=>by rw[hc] at hd;cases hd)]
  unfold Oper.wp at h
  have hdep:∀ {p:Prop},F.depth.isSome=true→p:=fun h=>by rw[hF.depth] at h;cases h
  generalize (execOp a.eval o).run P w=r at h ⊢
  cases r with
  | ok x w' =>
    cases x<;>simp only[Oper.upon,Oper.uponIn] at h ⊢
    case value u=>exact h
    case skip=>exact h
    case defer d=>exact h
    case enter f args=>exact⟨hdep,uo hF h⟩
    case row row args=>exact⟨hdep,vN hF h⟩
  | halt x w' =>
    cases x<;>simp only[Oper.upon,Oper.uponIn] at h ⊢
    case panic u=>exact h
theorem xN{id:Nat}{l:List Oper}(n:Nat)(h:WF Fence.wide n P l.toArray Q l a w) : (Code.region id l.toArray false).wp P Q a w:=wpIn_wide.1 (wpIn_region_lit h.out)
theorem wy{id:Nat}{l:List Oper}(h:WF F n P l.toArray Q l a w) : (Code.region id l.toArray false).wpIn F n P Q a w:=wpIn_region_lit h.out
theorem wV(h:Q .normal a w) : WF F n P ops Q [] a w:=⟨h⟩
theorem xr(hF:dS F)(hd:eZ o.op=true)(hw:Region.wanted o (yielded ops a.tmps)=true)(h:OW P o a w (WF F n P ops Q rest) Q) : WF F n P ops Q (o :: rest) a w:=by
  refine⟨?_⟩
  unfold wpListIn
  rw[if_pos hw]
  exact xQ hF hd (gQ h fun _ _ h=>h.out)
theorem wM(hF:dS F)(hw:Region.wanted o (yielded ops a.tmps)=false)(hN:o.dst=N)(h:WF F n P ops Q rest (a.put N undef) w) : WF F n P ops Q (o :: rest) a w:=by
  subst hN
  refine⟨?_⟩
  unfold wpListIn
  rw[if_neg (by simp[hw])]
  exact⟨fun f _=>hF.fn f,h.out⟩
theorem uB{x:Operand}{opds:Array Operand}{ts:Array TypeId}{l:Nat}{r:Loop}(args:Array Value)(hw:Region.wanted o (yielded ops a.tmps)=true)(hN:o.dst=N)(hop:o.op = .call { callee:=.value x,args:=opds,argTypes:=ts })
    (hx:a.eval x = .func (.yield l) #[] #[]) (hargs:opds.map a.eval=args) (hl:w.heap[l]? = some (.loop r)) (hs:args.size=r.params.size)
    (h:RoundIn Fence.wide (n-1) P l r.fn ((r.params.zip args).foldl (fun tmps (t,a)=>tmps.setIfInBounds t a) r.tmps) r.assign r.body w (fun e w'=>∃ v,e = .returned v∧WF Fence.wide n P ops Q rest (a.put N v) w')) : WF Fence.wide n P ops Q (o :: rest) a w:=by
  subst hN
  refine⟨?_⟩
  unfold wpListIn
  rw[if_pos hw]
  refine⟨fun f _=>trivial,?_⟩
  have hrun:(o.semAt Fence.wide.round a.eval).run P w = .ok (.round l r.fn ((r.params.zip args).foldl (fun tmps (t,a)=>tmps.setIfInBounds t a) r.tmps) r.assign r.body) w:=by
    show(execOp a.eval o).run P w=_
    unfold execOp
    simp only[hop,resolve,hx,Deferred.ofValue,Sem.run_bind,Sem.run_pure,Result.andThen_ok,invoke,hargs]
    have:=run_yield (P:=P) (args:=args) hl hs
    simpa using this
  rw[hrun,Oper.uponIn_round]
  refine⟨(by simp[Fence.wide]),h.mono fun e w' hh=>?_⟩
  obtain⟨v,rfl,h2⟩:=hh
  exact h2.out
end
theorem ta{P:Program}{n:Nat}{ops:Array Oper}{Q:Exit→Act→World→Prop}{rest:List Oper}{o:Oper}{a:Act}{w:World}{N:Option Tmp}{x:Operand}{opds:Array Operand}{ts:Array TypeId}{l:Nat}{r:Loop}(v:Value)(p:Tmp)(hw:Region.wanted o (yielded ops a.tmps)=true)(hN:o.dst=N)(hop:o.op = .call { callee:=.value x,args:=opds,argTypes:=ts })
    (hx:a.eval x = .func (.yield l) #[] #[]) (hargs:opds.map a.eval = #[v]) (hl:w.heap[l]? = some (.loop r)) (hp:r.params = #[p])
    (h:RoundIn Fence.wide (n-1) P l r.fn (r.tmps.setIfInBounds p v) r.assign r.body w (fun e w'=>∃ u,e = .returned u∧WF Fence.wide n P ops Q rest (a.put N u) w')) : WF Fence.wide n P ops Q (o :: rest) a w:=by
  refine uB #[v] hw hN hop hx hargs hl (by rw[hp];rfl) ?_
  have:((r.params.zip #[v]).foldl (fun tmps (t,a)=>tmps.setIfInBounds t a) r.tmps)=r.tmps.setIfInBounds p v:=by rw[hp];simp
  rw[this]
  exact h
theorem fB{w:World}{l:Nat}(o:Go.Obj) : aE [l] w (w.putObj l o) :=
  ⟨rfl,rfl,rfl,by simp[World.putObj],fun k hk hn=>World.putObj_heap_other (by simpa using hn)⟩
theorem jG{w:World}{l:Nat}{o:Go.Obj}(o':Go.Obj)(h:w.heap[l]? = some o) : (w.putObj l o').heap[l]? = some o':=World.putObj_heap_same (ag h)
def i5:Go.Obj→Bool
  | .cells ..=>false
  | _=>true
theorem aI.updl{α:Type}{m:Md}{e:TypeId}{sz:Nat}{R:World→α→List Value→Prop}{w w':World}{v:Value}{xs:List α}{l:Nat}{o:Go.Obj}
    (h:aI m e sz R w v xs) (hu:aE [l] w w') (hl:w.heap[l]? = some o) (ho:i5 o=true) (hR:∀ x cs,R w x cs→R w' x cs) : aI m e sz R w' v xs:=by
  obtain⟨A,c,rfl,h1,h2,h0,h3⟩:=h
  refine⟨A,c,rfl,h1,h2,h0,fun hp=>?_⟩
  obtain⟨b,off,cells,t,fr,rfl,hb,ht,hx⟩:=h3 hp
  refine⟨b,off,cells,t,fr,rfl,?_,ht,fun j x hj=>?_⟩
  · refine hu.blk (fun hbs=>?_) hb
    simp at hbs
    subst hbs
    rw[hl] at hb
    injection hb with hb
    subst hb
    cases ho
  · obtain⟨cs,hl,hr,hc⟩:=hx j x hj
    exact⟨cs,hl,hR _ _ hr,hc⟩
theorem aX.updl{m:Md}{w w':World}{v:Value}{xs:List Int}{l:Nat}{o:Go.Obj}(h:aX m w v xs)(hu:aE [l] w w')(hl:w.heap[l]? = some o)(ho:i5 o=true) : aX m w' v xs:=aI.updl h hu hl ho fun _ _ h=>h
theorem ez.updl{m:Md}{w w':World}{v:Value}{xs:List Int}{l:Nat}{o:Go.Obj}(h:ez m w v xs)(hu:aE [l] w w')(hl:w.heap[l]? = some o)(ho:i5 o=true) : ez m w' v xs:=aI.updl h hu hl ho fun _ _ h=>h
theorem bt.updl{m:Md}{w w':World}{l:Nat}{o:Go.Obj}(hu:aE [l] w w')(hl:w.heap[l]? = some o)(ho:i5 o=true)(r:cX)(cs:List Value)(h:bt m w r cs) : bt m w' r cs:=by
  obtain⟨v,h1,h2,h3⟩:=h
  exact⟨v,h1,ez.updl h2 hu hl ho,h3⟩
theorem ae.updl{w w':World}{g:Nat}{c:ah}{l:Nat}{o:Go.Obj}(h:ae w g c)(hu:aE [l] w w')(hg:g∉[l])(hl:w.heap[l]? = some o)(ho:i5 o=true) : ae w' g c:=by
  obtain⟨v,hb,hr,hn⟩:=h
  exact⟨v,hu.blk hg hb,hr.updl hu hl ho,hn⟩
theorem rb{n:Nat}{P:Program}{l:Nat}{f:FuncId}{tmps:Array Value}{assign body:Code}{w:World}{r:Loop}{R:Ending→World→Prop}
    (h:assign.wpIn (Fence.wide.inRound l) n P (Exit.then (fun a₁ w₁=>w₁.heap[l]? = some (.loop r)∧r.state = .ready∧∀ w₂,w₂.heap[l]? = some (.loop { r with state:=.busy })→aE [l] w₁ w₂ →
      body.wpIn (Fence.wide.inRound l) n P (Exit.then (fun _ w₃=>∃ r',w₃.heap[l]? = some (.loop r')∧∀ w₄,w₄.heap[l]? = some (.loop { r' with state:=.ready,pending:=none })→aE [l] w₃ w₄→R (.returned (.bool true)) w₄) (fun _ _ _=>False)) a₁ w₂) (fun _ _ _=>False)) { tmps:=tmps,defers:=[] } w) :
    RoundIn Fence.wide n P l f tmps assign body w R:=by
  refine roundIn_of_wpIn trivial (Code.wpIn_mono (fun e a w q=>?_) h)
  cases e with
  | normal =>
    obtain⟨h1,h2,h3⟩:=q
    refine⟨_,run_beginRound h1 h2,Code.wpIn_mono (fun e a w q=>?_) (h3 _ (jG _ h1) (fB _))⟩
    cases e with
    | normal =>
      obtain⟨r',h4,h5⟩:=q
      exact⟨_,_,run_endRound none h4,h5 _ (jG _ h4) (fB _)⟩
    | _=>exact q.elim
  | _=>exact q.elim
theorem jC{n:Nat}{P:Program}{l:Nat}{f:FuncId}{tmps:Array Value}{assign body:Code}{w:World}{r:Loop}{R:Ending→World→Prop}
    (hl:w.heap[l]? = some (.loop r))
    (h:assign.wpIn (Fence.wide.inRound l) n P (Exit.then (fun a₁ w₁=>w₁.heap[l]? = some (.loop r)∧r.state = .ready∧∀ w₂,w₂.heap[l]? = some (.loop { r with state:=.busy })→aE [l] w₁ w₂ →
      body.wpIn (Fence.wide.inRound l) n P (Exit.then (fun _ w₃=>∃ r',w₃.heap[l]? = some (.loop r')∧∀ w₄,w₄.heap[l]? = some (.loop { r' with state:=.ready,pending:=none })→aE [l] w₃ w₄→R (.returned (.bool true)) w₄) (fun _ _ _=>False)) a₁ w₂) (fun _ _ _=>False)) { tmps:=tmps,defers:=[] } w) :
    RoundIn Fence.wide n P l f tmps assign body w R:=rb h
theorem rN{P:Program}{Q:Exit→Act→World→Prop}{a:Act}{w:World}{g:Operand}{ps:Array Tmp}{assign body:Code}{f:FuncId}{fn:Func}(cap:Array Value)
    (hx : a.eval g = .func (.func f) #[] cap) (hf : P.funcs[f]? = some fn) (hname : (fn.name == "runtime.NumGoroutine") = false) (hb : fn.body.isSome = true)
    (h:∀ fn0 D l w₂,w.heap.size≤D→w.heap.size≤l→D≠l→w₂.heap[D]? = some (.deferred (some []))→w₂.heap[l]? = some (.loop { state:=.ready,pending:=none,fn:=fn0,tmps:=a.tmps,params:=ps,assign:=assign,body:=body,defers:=D })→aE [] w w₂ →
      Calls P f (#[.func (.yield l) #[] #[]]++cap) w₂ (fun e w₃=>∃ v r',e = .returned v∧w₃.heap[l]? = some (.loop r')∧r'.state≠.busy∧r'.pending=none∧∀ w₄,aE [l] w₃ w₄→Q .normal { a with defers:={ target:=.collected D,args:=#[] } :: a.defers } w₄)) :
    (Code.rangeFunc g ps assign body).wp P Q a w:=by
  refine(wpIn_wide (n:=9)).1 (wpIn_rangeFunc fun fn0 _=>?_)
  have h1 : fn.name ≠ "runtime.NumGoroutine" := by simpa using hname
  obtain⟨cd,hcd⟩:=Option.isSome_iff_exists.1 hb
  refine⟨w.heap.size+1,[{ target:=.collected w.heap.size,args:=#[] }],((w.alloc (.deferred (some []))).alloc (.loop { state:=.ready,pending:=none,fn:=fn0,tmps:=a.tmps,params:=ps,assign:=assign,body:=body,defers:=w.heap.size })),
    { target:=.fn (.func f) cap,args:=#[]++#[.func (.yield (w.heap.size+1)) #[] #[]] },((w.alloc (.deferred (some []))).alloc (.loop { state:=.ready,pending:=none,fn:=fn0,tmps:=a.tmps,params:=ps,assign:=assign,body:=body,defers:=w.heap.size })),
    f,#[.func (.yield (w.heap.size+1)) #[] #[]]++cap,((w.alloc (.deferred (some []))).alloc (.loop { state:=.ready,pending:=none,fn:=fn0,tmps:=a.tmps,params:=ps,assign:=assign,body:=body,defers:=w.heap.size })),run_enterLoop_outer fn0 a.tmps ps assign body,?_,fun _ _=>trivial,?_,by simp[Fence.wide],?_⟩
  · unfold resolve
    simp only[rangeCall,hx,Deferred.ofValue,Sem.run_pure,List.map_toArray,List.map_cons,List.map_nil]
    rfl
  · simp[invoke,callFunc,hf,h1,hcd]
  · have hD:((w.alloc (.deferred (some []))).alloc (.loop { state:=.ready,pending:=none,fn:=fn0,tmps:=a.tmps,params:=ps,assign:=assign,body:=body,defers:=w.heap.size })).heap[w.heap.size]? = some (.deferred (some [])):=tD (eb w _) _
    have hl:((w.alloc (.deferred (some []))).alloc (.loop { state:=.ready,pending:=none,fn:=fn0,tmps:=a.tmps,params:=ps,assign:=assign,body:=body,defers:=w.heap.size })).heap[w.heap.size+1]? = some (.loop { state:=.ready,pending:=none,fn:=fn0,tmps:=a.tmps,params:=ps,assign:=assign,body:=body,defers:=w.heap.size }):=by
      have:=eb (w.alloc (.deferred (some []))) (.loop { state:=.ready,pending:=none,fn:=fn0,tmps:=a.tmps,params:=ps,assign:=assign,body:=body,defers:=w.heap.size })
      simpa using this
    refine callsIn_wide.2 ((h fn0 w.heap.size (w.heap.size+1) _ (Nat.le_refl _) (by omega) (by omega) hD hl (((aE.refl [] w).alloc _).alloc _)).mono ?_)
    rintro e w₃ ⟨v,r',rfl,h3,h4,h5,h6⟩
    refine⟨_,_,run_endLoop h3 h4,?_⟩
    rw[h5]
    exact h6 _ (fB _)
theorem mz{P:Program}{f:FuncId}{fn:Func}{c:Code}{args:Array Value}{w:World}{R:Ending→World→Prop}(hf:P.funcs[f]? = some fn)(hb:fn.body=some c)
    (h:c.wp P (bodyPostM Fence.wide 9 P fn R) { tmps:=args++Array.replicate (fn.ntmps-args.size) undef,defers:=[] } w) : Calls P f args w R :=
  callsIn_wide.1 (callsIn_of_wp_marks hf hb trivial (wpIn_wide.2 h) rfl)
theorem uT{P:Program}{fn:Func}{R:Ending→World→Prop}{a:Act}{w:World}{D:Nat}(hd:a.defers=[{ target:=.collected D,args:=#[] }])(hD:w.heap[D]? = some (.deferred (some [])))
    (h:∀ w',aE [D] w w'→∃ v,(results fn a.tmps).run P w' = .ok v w'∧R (.returned v) w') : bodyPostM Fence.wide 9 P fn R .ret a w:=by
  show LeavesInM Fence.wide 9 P fn a.tmps R a.defers .returning w
  rw[hd]
  exact⟨by simp,.inl ⟨D,_,rfl,run_takeDeferred hD,h _ (fB _)⟩⟩
theorem tj{P:Program}{fn:Func}{R:Ending→World→Prop}{a:Act}{w:World}(hd:a.defers=[])(h:∃ v,(results fn a.tmps).run P w = .ok v w∧R (.returned v) w) : bodyPostM Fence.wide 9 P fn R .ret a w:=by
  show LeavesInM Fence.wide 9 P fn a.tmps R a.defers .returning w
  rw[hd]
  exact h
open Go.RowKit
structure GF (E:Fence) (m:Nat) (P:Program) (ops:Array Oper) (Q:Exit→Act→World→Prop) (l:List Oper) (n:Nat) (D:List Deferred) (F:Fr) (w:World) : Prop where
  out:∀ a,Ag n D F a→WF E m P ops Q l a w
structure GI (E:Fence) (m:Nat) (P:Program) (c:Code) (Q:Exit→Act→World→Prop) (n:Nat) (D:List Deferred) (F:Fr) (w:World) : Prop where
  out:∀ a,Ag n D F a→c.wpIn E m P Q a w
section
variable {E:Fence}{m:Nat}{P:Program}{Q:Exit→Act→World→Prop}{n:Nat}{D:List Deferred}{F:Fr}{w:World}{ops:Array Oper}{rest l:List Oper}{d:Option Tmp}{op:Op}{t:TypeId}{s:String}{af:Array Edge}{gu:Option (Nat × Bool)}{x y c:Code}{id:Nat}
theorem wx(m:Nat)(h:GF Fence.wide m P l.toArray Q l n D F w) : GC P (.region id l.toArray false) Q n D F w:=⟨fun a ha=>xN m (h.out a ha)⟩
theorem vg(h:GF E m P l.toArray Q l n D F w) : GI E m P (.region id l.toArray false) Q n D F w:=⟨fun a ha=>wy (h.out a ha)⟩
theorem ww(h:GI E m P c (Exit.inBlock id Q) n D F w) : GI E m P (.block id c) Q n D F w:=⟨fun a ha=>wpIn_block (h.out a ha)⟩
theorem qs(h:GQ Q .normal n D F w) : GF E m P ops Q [] n D F w:=⟨fun a ha=>wV (h.out a ha)⟩
theorem xp(hE:dS E)(h:OG P ⟨d,op,t,s,af,gu⟩ n D F w (GF E m P ops Q rest n D) Q)(hw:jM ops F gu=(true,true))(hd:eZ op=true) : GF E m P ops Q (⟨d,op,t,s,af,gu⟩ :: rest) n D F w :=
  ⟨fun a ha=>xr hE hd (f7 ha hw) (h.out a ha _ fun F' w' a' k ha'=>k.out a' ha')⟩
theorem xn(hE:dS E){o:Oper}(h:GF E m P ops Q rest n D (o7 P ops w F o) w)(hc:oh P ops w n 1 (o :: rest) F=oc P ops w 1 (o :: rest) F)(hd:eZ o.op=true) : GF E m P ops Q (o :: rest) n D F w:=by
  simp only[oh,oc,List.cons.injEq,Prod.mk.injEq,Bool.and_eq_true] at hc
  obtain⟨⟨⟨h1,h2,h3⟩,h4⟩,h5⟩:=hc
  refine⟨fun a ha=>?_⟩
  cases hon:(jM ops F o.guard).2 with
  | true =>
    rw[hon] at h3 h4
    simp only[cond_true] at h3 h4
    have hst:o7 P ops w F o=pt o.dst (vo P w F o) F:=by simp[o7,hon]
    rw[hst] at h
    exact xr hE hd (f7 ha (Prod.ext h1 hon)) (fT (N:=o.dst) (vo P w F o) rfl (by rw[← gg ha h3];exact h4) (h.out _ (ha.put h2)))
  | false =>
    have hst:o7 P ops w F o=pt o.dst undef F:=by simp[o7,hon]
    rw[hst] at h
    exact wM (N:=o.dst) hE (f7 ha (Prod.ext h1 hon)) rfl (h.out _ (ha.put h2))
theorem F0(h:OG P ⟨d,op,t,s,af,gu⟩ n D F w (GF Fence.wide m P ops Q rest n D) Q)(hw:jM ops F gu=(true,true):=by kernel_rfl)(hd:eZ op=true:=by kernel_rfl) : GF Fence.wide m P ops Q (⟨d,op,t,s,af,gu⟩ :: rest) n D F w:=xp jm h hw hd
theorem kp{q:Nat}(h:OG P ⟨d,op,t,s,af,gu⟩ n D F w (GF (Fence.wide.inRound q) m P ops Q rest n D) Q)(hw:jM ops F gu=(true,true):=by kernel_rfl)(hd:eZ op=true:=by kernel_rfl) : GF (Fence.wide.inRound q) m P ops Q (⟨d,op,t,s,af,gu⟩ :: rest) n D F w:=xp (iH _) h hw hd
theorem Fp{o:Oper}(h:GF Fence.wide m P ops Q rest n D (o7 P ops w F o) w)(hc:oh P ops w n 1 (o :: rest) F=oc P ops w 1 (o :: rest) F:=by kernel_rfl)(hd:eZ o.op=true:=by kernel_rfl) : GF Fence.wide m P ops Q (o :: rest) n D F w:=xn jm h hc hd
theorem vk{q:Nat}{o:Oper}(h:GF (Fence.wide.inRound q) m P ops Q rest n D (o7 P ops w F o) w)(hc:oh P ops w n 1 (o :: rest) F=oc P ops w 1 (o :: rest) F:=by kernel_rfl)(hd:eZ o.op=true:=by kernel_rfl) : GF (Fence.wide.inRound q) m P ops Q (o :: rest) n D F w:=xn (iH _) h hc hd
theorem wR(j:Nat)(e:Bool)(ht:e=true→GF E m P ops Q l n D ((j,.bool true) :: F) w)(hf:e=false→GF E m P ops Q l n D ((j,.bool false) :: F) w)(hv:lk F j=some (.bool e):=by kernel_rfl) : GF E m P ops Q l n D F w:=by
  refine⟨fun a ha=>?_⟩
  have key:∀ b,e=b→Ag n D ((j,.bool b) :: F) a:=fun b hb=>⟨ha.sz,ha.df,fun i v hi=>by
    rcases fF hi with⟨rfl,rfl⟩|⟨_,h2⟩
    · rw[← hb];exact ha.at_ _ _ hv
    · exact ha.at_ _ _ h2⟩
  rcases fp e with q|q
  · exact(ht q).out a (key _ q)
  · exact(hf q).out a (key _ q)
theorem Fy{x:Operand}{opds:Array Operand}{ts:Array TypeId}{q:Nat}{r:Loop}(v:Value)(p:Tmp)(hl:w.heap[q]? = some (.loop r))(hp:r.params = #[p])
    (h:RoundIn Fence.wide (m-1) P q r.fn (r.tmps.setIfInBounds p v) r.assign r.body w (fun e w'=>∃ u,e = .returned u∧GF Fence.wide m P ops Q rest n D (pt d u F) w'))
    (hw:jM ops F gu=(true,true):=by kernel_rfl) (hx:dO F x=some (.func (.yield q) #[] #[]):=by kernel_rfl) (ha:opds.toList.map (dO F)=[some v]:=by kernel_rfl) (hd:eL n d=true:=by kernel_rfl) :
    GF Fence.wide m P ops Q (⟨d,.call { callee:=.value x,args:=opds,argTypes:=ts },t,s,af,gu⟩ :: rest) n D F w :=
  ⟨fun a hag=>ta v p (f7 hag hw) rfl rfl (hag.ev hx) (by apply Array.toList_inj.1;rw[Array.toList_map];exact lC (vs:=[v]) hag ha) hl hp (h.mono fun e w' hh=>by
    obtain⟨u,rfl,hk⟩:=hh
    exact⟨u,rfl,hk.out _ (hag.put hd)⟩)⟩
theorem ns{g:Operand}{ps:Array Tmp}{assign body:Code}{f:FuncId}(cap:Array Value)
    (h:∀ a,Ag n D F a→∀ fn0 D' q w₂,w.heap.size≤D'→w.heap.size≤q→D'≠q→w₂.heap[D']? = some (.deferred (some []))→w₂.heap[q]? = some (.loop { state:=.ready,pending:=none,fn:=fn0,tmps:=a.tmps,params:=ps,assign:=assign,body:=body,defers:=D' })→aE [] w w₂ →
      Calls P f (#[.func (.yield q) #[] #[]]++cap) w₂ (fun e w₃=>∃ v r',e = .returned v∧w₃.heap[q]? = some (.loop r')∧r'.state≠.busy∧r'.pending=none∧∀ w₄,aE [q] w₃ w₄→GQ Q .normal n ({ target:=.collected D',args:=#[] } :: D) F w₄))
    (hx:dO F g=some (.func (.func f) #[] cap):=by kernel_rfl) (hf:vn P f=some (false,true):=by kernel_rfl) : GC P (.rangeFunc g ps assign body) Q n D F w:=by
  obtain⟨fn,h1,h2,h3⟩:=jJ hf
  refine⟨fun a ha=>rN cap (ha.ev hx) h1 h2 h3 fun fn0 D' q w₂ g1 g2 g3 g4 g5 g6=>(h a ha fn0 D' q w₂ g1 g2 g3 g4 g5 g6).mono fun e w₃ hh=>?_⟩
  obtain⟨v,r',k1,k2,k3,k4,k5⟩:=hh
  exact⟨v,r',k1,k2,k3,k4,fun w₄ hu=>(k5 w₄ hu).out _ ⟨ha.sz,by rw[ha.df],ha.at_⟩⟩
theorem x9{a:Act}(ha:Ag n D F a)(p:Tmp){v:Value}(h:GI E m P c Q n [] ((p,v) :: F) w)(hp:Nat.blt p n=true:=by kernel_rfl) : c.wpIn E m P Q { tmps:=a.tmps.setIfInBounds p v,defers:=[] } w:=by
  have h0:Ag n [] F { tmps:=a.tmps,defers:=[] }:=⟨ha.sz,rfl,ha.at_⟩
  exact h.out _ (h0.put (d:=some p) hp)
theorem wO{r:Loop}{q:Nat}{c:Code}{Qb:Exit→Act→World→Prop}(h1:w.heap[q]? = some (.loop r))(h2:r.state = .ready)(h:∀ w₂,w₂.heap[q]? = some (.loop { r with state:=.busy })→aE [q] w w₂→GI E m P c Qb n D F w₂) :
    GQ (Exit.then (fun a₁ w₁=>w₁.heap[q]? = some (.loop r)∧r.state = .ready∧∀ w₂,w₂.heap[q]? = some (.loop { r with state:=.busy })→aE [q] w₁ w₂→c.wpIn E m P Qb a₁ w₂) Q) .normal n D F w:=⟨fun a ha=>⟨h1,h2,fun w₂ k1 k2=>(h w₂ k1 k2).out a ha⟩⟩
theorem xb{r:Loop}{q:Nat}{Z:World→Prop}(h1:w.heap[q]? = some (.loop r))(h:∀ w₄,w₄.heap[q]? = some (.loop { r with state:=.ready,pending:=none })→aE [q] w w₄→Z w₄) :
    GQ (Exit.then (fun _ w₃=>∃ r',w₃.heap[q]? = some (.loop r')∧∀ w₄,w₄.heap[q]? = some (.loop { r' with state:=.ready,pending:=none })→aE [q] w₃ w₄→Z w₄) Q) .normal n D F w:=⟨fun a ha=>⟨r,h1,h⟩⟩
end
section
variable {P:Program}{n:Nat}{F:Fr}{w:World}{fn:Func}{R:Ending→World→Prop}
theorem vp{f:FuncId}{c:Code}{args:List Value}{w:World}(n:Nat)(hf:P.funcs[f]? = some fn)(hb:fn.body=some c)
    (h:GC P c (bodyPostM Fence.wide 9 P fn R) n [] (rg 0 args) w) (hn:args.length+(fn.ntmps-args.length)=n:=by kernel_rfl) : Calls P f args.toArray w R:=by
  subst hn
  exact mz hf hb (by simpa using h.out _ (xm (args:=args) (m:=fn.ntmps-args.length)))
theorem vi{D:Nat}(hD:w.heap[D]? = some (.deferred (some [])))(h:∀ w',aE [D] w w'→GQ (fun _ a w'=>∃ v,(results fn a.tmps).run P w' = .ok v w'∧R (.returned v) w') .ret n [{ target:=.collected D,args:=#[] }] F w') : GQ (bodyPostM Fence.wide 9 P fn R) .ret n [{ target:=.collected D,args:=#[] }] F w :=
  ⟨fun a ha=>uT ha.df hD fun w' hu=>(h w' hu).out a ha⟩
theorem rx{D:List Deferred}{g:Nat}{cs:Array Value}{t:TypeId}{fr:Nat × Nat}(B:w.heap[g]? = some (.cells cs t fr))(u:Value)(h:R (.returned (.tuple #[.agg cs,u])) w)(hc:vt P fn.results F=some (some (.pointer (some ⟨g,0,none⟩)),some u,some true,some cs.size):=by kernel_rfl) : GQ (fun _ a w'=>∃ v,(results fn a.tmps).run P w' = .ok v w'∧R (.returned v) w') .ret n D F w :=
  ⟨fun a ha=>⟨_,j7 ha B rfl hc,h⟩⟩
theorem ry{g:Nat}{cs:Array Value}{t:TypeId}{fr:Nat × Nat}(B:w.heap[g]? = some (.cells cs t fr))(u:Value)(h:R (.returned (.tuple #[.agg cs,u])) w)(hc:vt P fn.results F=some (some (.pointer (some ⟨g,0,none⟩)),some u,some true,some cs.size):=by kernel_rfl) : GQ (bodyPostM Fence.wide 9 P fn R) .ret n [] F w :=
  ⟨fun a ha=>tj ha.df ⟨_,j7 ha B rfl hc,h⟩⟩
end
open Go.RowKit
def v3 (mk:Nat→Value)(w:World)(e:Ending)(w':World) : Prop:=∃ gs,e = .returned (.tuple #[mk gs,.bool true])∧w.heap.size≤gs∧w'.heap[gs]? = some (.cells #[.int .i64 0] 3 (0,0))∧aE [] w w'
def wU (gs:Nat) : Value:=.agg #[.func (.func 215) #[] #[],.func (.func 213) #[] #[.pointer (some ⟨gs,0,none⟩)]]
def wv (gs:Nat) : Value:=.agg #[.func (.func 216) #[] #[],.func (.func 217) #[] #[]]
def wE (gs:Nat) : Value:=.agg #[.func (.func 218) #[] #[],.func (.func 219) #[] #[]]
theorem sC{w:World}:Calls Tryz.prog 153 #[vI 0,vB 20] w (v3 wU w):=by
 refine en 27 Tryz.func153 rfl<|sg<|aK #[.nilFunc,.nilFunc] fun m n g b c=>Pl 1<|ng<|aK #[vI 0] fun d o a h i=>L0<|bD h 0 #[vI 0] fun p j k=>nt<|sq<|go<|ap 2<|sq<|bk<|az 7<|c1<|aq 2<|?_
 have e:=ud i k a
 refine aD (ub e b) #[.func (.func 215) #[] #[],.func (.func 213) #[] #[vP d 0]] fun q l f=>ap 1<|rt<|br<|tr<|c8 l (.bool true)<|?_
 exact⟨d,rfl,(Nat.le_trans c.size a),(aV f (Ne.symm (nb (ag b) lr a)) j),(ud c (uz e f) g)⟩
theorem t8{w:World}:Calls Tryz.prog 153 #[vI 1,vB 20] w (v3 wv w):=by
 refine en 27 Tryz.func153 rfl<|sg<|aK #[.nilFunc,.nilFunc] fun m n f b c=>Pl 1<|ng<|aK #[vI 0] fun g o a h i=>L0<|bD h 0 #[vI 0] fun p j k=>nt<|sq<|go<|ap 2<|sq<|bk<|az 7<|c0<|az 3<|c1<|aq 1<|?_
 have d:=ud i k a
 refine aD (ub d b) #[.func (.func 216) #[] #[],.func (.func 217) #[] #[]] fun q l e=>ap 1<|rt<|br<|tr<|c8 l (.bool true)<|?_
 exact⟨g,rfl,(Nat.le_trans c.size a),(aV e (Ne.symm (nb (ag b) lr a)) j),(ud c (uz d e) f)⟩
theorem sK{dir:Int}{w:World}:Calls Tryz.prog 153 #[vI dir,vB 21] w (v3 wE w):=by
 refine en 27 Tryz.func153 rfl<|sg<|aK #[.nilFunc,.nilFunc] fun m n f b c=>Pl 1<|ng<|aK #[vI 0] fun g o a h i=>L0<|bD h 0 #[vI 0] fun p j k=>nt<|sq<|go<|ap 2<|sq<|bk<|az 7<|c0<|az 3<|c0<|az 3<|c1<|aq 1<|?_
 have d:=ud i k a
 refine aD (ub d b) #[.func (.func 218) #[] #[],.func (.func 219) #[] #[]] fun q l e=>ap 1<|rt<|br<|tr<|c8 l (.bool true)<|?_
 exact⟨g,rfl,(Nat.le_trans c.size a),(aV e (Ne.symm (nb (ag b) lr a)) j),(ud c (uz d e) f)⟩
theorem mh{dir x:Int}{w:World}(n1:(x==20)=false)(n2:(x==21)=false) : Calls Tryz.prog 153 #[vI dir,vB x] w (bW (.tuple #[.agg #[.nilFunc,.nilFunc],.bool false]) w):=by
 refine en 27 Tryz.func153 rfl<|sg<|aK #[.nilFunc,.nilFunc] fun k l b c d=>Pl 1<|ng<|aK #[vI 0] fun m n e f g=>L0<|bD f 0 #[vI 0] fun o p h=>nt<|sq<|go<|ap 2<|sq<|bk<|aq 3<|sy 12 n1<|ap 4<|c0<|az 3<|cf n1<|az 3<|cf n2<|sk<|bn<|tn<|aq 1<|?_
 have a:=ud g h e
 refine aD (ub a c) #[.nilFunc,.nilFunc] fun q i j=>ap 1<|rt<|c8 i (.bool false)<|?_
 exact⟨rfl,(ud d (uz a j) b)⟩
theorem jd{gb:Nat}{f:Fn}{x y:Array Value}{w:World}:Calls Tryz.prog 157 #[vP gb 0,.func f x y] w (fun e w'=>∃ b1 b2,e = .returned (.func (.func 220) #[] #[vP b1 0,vP b2 0])∧w.heap.size≤b1∧w.heap.size≤b2∧b1≠b2 ∧
      w'.heap[b1]? = some (.cells #[vP gb 0] 164 (0,0))∧w'.heap[b2]? = some (.cells #[.func f x y] 178 (0,0))∧aE [] w w'):=by
 refine en 6 Tryz.func157 rfl<|sg<|L0<|dF #[vP gb 0] fun a k i b c=>L0<|dF #[.func f x y] fun d l g j h=>Pl 1<|db 2<|rt<|rr (.func (.func 220) #[] #[vP a 0,vP d 0])<|?_
 exact⟨a,d,rfl,i,(Nat.le_trans c.size g),(nb (ag b) lr g),(ub h b),j,(aN c h)⟩
theorem pC{g gs:Nat}{s:Int}{C:ah}{w:World}(hC:ae w g C)(hS:w.heap[gs]? = some (.cells #[vI s] 3 (0,0)))(hne:g≠gs)(hs:0≤s∧s≤1000000000000) :
    Calls Tryz.prog 213 #[vP g 0,vP gs 0] w (fun e w'=>∃ A c,e = .returned (.agg #[vW (aM C).file,vW (aM C).record,vW (aM C).count,.slice A (aM C).words.length c])∧ez (.hi w.heap.size) w' (.slice A (aM C).words.length c) (aM C).words∧dB (aM C).file∧dB (aM C).record∧dB (aM C).count∧ae w' g (dX s C)∧w'.heap[gs]? = some (.cells #[vI (dK s C)] 3 (0,0))∧aE [g,gs] w w'):=by
 refine en 19 Tryz.func213 rfl<|sg<|aK #[vW 0,vW 0,vW 0,nS] fun T U d j a=>aL 1<|?_
 refine ax<|uk (mX (ae.old hC a)) fun k l V I J K L m f=>?_
 obtain⟨W,X⟩:=J
 obtain⟨Y,Z⟩:=K
 obtain⟨a0,a1⟩:=L
 refine aK #[vW 0,vW 0,vW 0,nS] fun a2 a3 h M N=>aD M #[vW ((aM C).file),vW ((aM C).record),vW ((aM C).count),.slice k ((aM C).words.length) l] fun a4 n O=>ng<|?_
 have o:=ud N O h
 have p:=aN f o
 have r:=aV (uz a p) (Ne.symm hne) hS
 refine aH r 0<|Pl 1<|aH n 2<|be ((aM C).count)<|be (2*((aM C).count))<|be (2+(2*((aM C).count)))<|be (s+(2+(2*((aM C).count))))<|L0<|bD r 0 #[vI (s+(2+(2*((aM C).count))))] fun a5 t u=>aL 1<|aH t 0<|Pl 1<|?_
 have v:=uz o u
 have b:=uz a f
 have y:=aV b (Ne.symm hne) hS
 refine ax<|m2 (aY ((decide ((s+(2+(2*((aM C).count))))≤245))) 5 (ae.upd m v (aa hne av) (ai (aT y (by decide)) aC))) fun a6 P z=>?_
 refine ab P fun x47 Q R=>?_
 refine ng<|?_
 have B:=us u z
 refine L0<|cJ (aE.blk B (aa (Ne.symm (nb (ag hS) b.size h)) (aa (Ne.symm (nb (ae.lt hC) b.size h)) av)) n)<|?_
 have i:=nb (ae.lt hC) lr d
 have D:=nb (ag hS) lr d
 have E:=aE.blk (ui p B) (aa (Ne.symm D) (aa (Ne.symm i) av)) j
 refine aD E #[vW ((aM C).file),vW ((aM C).record),vW ((aM C).count),.slice k ((aM C).words.length) l] fun a7 S F=>nK<|v8 S<|?_
 subst Q
 have G:=us z F
 have H:=us v G
 exact⟨_,_,rfl,(aI.hi_le (ez.upd' I H (ai (aT y (by decide)) (ai (ae.safe m _ (by decide)) (ai (aT (aV f (Ne.symm i) j) (by decide)) aC)))) a.size fun _ _ q=>q),c7 (x:=(aM C).file) (by omega),c7 (x:=(aM C).record) (by omega),c7 (x:=(aM C).count) (by omega),(ae.upd R F (aa i av) (ai (aT E (by decide)) aC)),(aE.blk G (aa (Ne.symm hne) (aa D av)) t),(ut (aE.mono (S':=[g,gs]) b (ac im aA)) H (ac im (ac im (ac (nr d) aA))))⟩
def fg (c:Int)(v:Value) : Array Value:=#[.int .u8 c,.int .u8 0,.int .u16 0,.int .u16 0,.int .u16 0,.int .u16 0,.int .u16 0,.int .u16 0,.int .u16 0,.int .u16 0,.int .u16 0,.int .u16 0,g7,g7,g7,v,.int .u8 0,.int .u8 0,.int .u8 0,.int .u8 0,.int .u8 0,g7]
structure JR (w0:World) (gb gs gm l:Nat) (c:Int) (r:Loop) (C:ah) (s:Int) (L:List cX) (A:Option Addr) (cp:Nat) (W:World) : Prop where
  u:aE [gb,gs,gm,l] w0 W
  hC:ae W gb C
  hS:W.heap[gs]? = some (.cells #[.int .i64 s] 3 (0,0))
  hm:W.heap[gm]? = some (.cells (fg c (.slice A L.length cp)) 45 (0,0))
  ho:aW w0.heap.size 98 4 (bt (.hi w0.heap.size)) W (.slice A L.length cp) L
  hl:W.heap[l]? = some (.loop r)
def cy (s:Int)(C:ah) : Int × ah × cX:=(dK s C,dX s C,aM C)
def bH (s:Int)(C:ah) : Int × ah × cX:=(s,eo C,dQ C)
def cC (s:Int)(C:ah) : Int × ah × cX:=(s,i9 C,gF C)
def aO (one:Int→ah→Int × ah × cX) : Nat→Int→ah→List cX→ah × List cX
  | 0,_,C,L=>(C,L)
  | n+1,s,C,L =>
    if decide (0<(C.l.length:Int))&&C.e==0 then
      (if (one s C).2.1.e != 0 then ((one s C).2.1,L) else aO one n (one s C).1 (one s C).2.1 (L++[(one s C).2.2]))
    else (C,L)
theorem gG(C:ah)(n:Int) : (C.bytesC n).l.length≤C.l.length:=by
  unfold ah.bytesC
  split
  · unfold ah.need
    split<;>simp
  · simp
theorem j8(C:ah)(h:0<C.l.length) : (C.bytesC 1).l.length<C.l.length:=by
  unfold ah.bytesC
  split
  · unfold ah.need
    split<;>simpa using h
  · simp
    omega
theorem dH(C:ah)(b:Bool)(e:Int) : (C.need b e).l.length=C.l.length:=by
  unfold ah.need
  split<;>rfl
theorem dU(C:ah)(n:Int) : (C.wordsC n).l.length≤C.l.length:=by
  unfold ah.wordsC
  split<;>exact gG ..
theorem mQ(C:ah)(h:0<C.l.length) : (d7 C).l.length<C.l.length:=by
  have h1:(iP C).l.length<C.l.length:=by unfold iP;rw[dH];exact j8 C h
  have h2:(iT C).l.length≤(iP C).l.length:=by unfold iT;rw[dH];exact dU ..
  have h3:(lU C).l.length≤(iT C).l.length:=by unfold lU;rw[dH];exact dU ..
  have h4:(d7 C).l.length≤(lU C).l.length:=by unfold d7;rw[dH];exact dU ..
  omega
theorem oW(s:Int)(C:ah)(h:0<C.l.length) : (cy s C).2.1.l.length<C.l.length:=by
  show(dX s C).l.length<_
  unfold dX
  rw[dH]
  exact mQ C h
theorem jv(s:Int)(C:ah)(h:0<C.l.length) : (bH s C).2.1.l.length<C.l.length:=by
  show(eo C).l.length<_
  have h1:(gv C).l.length<C.l.length:=by unfold gv;rw[dH];exact j8 C h
  have h2:(gq C).l.length≤(gv C).l.length:=by unfold gq;rw[dH];exact gG ..
  have h3:(eo C).l.length≤(gq C).l.length:=by unfold eo;exact dU ..
  omega
theorem oX(s:Int)(C:ah)(h:0<C.l.length) : (cC s C).2.1.l.length<C.l.length:=by
  show(i9 C).l.length<_
  have h1:=mQ C h
  have h2:(mf C).l.length=(d7 C).l.length:=by unfold mf;rw[dH]
  have h3:(i9 C).l.length≤(mf C).l.length:=by unfold i9;exact dU ..
  omega
theorem fG(one:Int→ah→Int × ah × cX)(n:Nat)(s:Int)(C:ah)(L:List cX)(h:(decide (0<(C.l.length:Int))&&C.e==0)=false) : aO one n s C L=(C,L):=by
  cases n with
  | zero=>rfl
  | succ n=>simp only[aO,h,Bool.false_eq_true,if_false]
open Go.RowKit
def dh (fn0:FuncId)(tm:Array Value)(asg bdy:Code)(D:Nat) : Loop:={ state:=.ready,pending:=none,fn:=fn0,tmps:=tm,params:=#[53],assign:=asg,body:=bdy,defers:=D }
def nH (w:World)(gb gs gm l:Nat)(c:Int)(R:Loop) : Prop:=∀ (W:World)(C:ah)(s:Int)(L:List cX)(A:Option Addr)(cp:Nat)(x:cX)(Ax:Option Addr)(cx:Nat),JR w gb gs gm l c R C s L A cp W→ez (.hi w.heap.size) W (.slice Ax x.words.length cx) x.words→dB x.file→dB x.record→dB x.count→L.length≤1048576 →
    RoundIn Fence.wide 8 Tryz.prog l R.fn (R.tmps.setIfInBounds 53 (.agg #[.int .u16 x.file,.int .u16 x.record,.int .u16 x.count,.slice Ax x.words.length cx])) R.assign R.body W (fun e W'=>e = .returned (.bool true)∧W.heap.size≤W'.heap.size∧∃ A2 c2,JR w gb gs gm l c R C s (L++[x]) A2 c2 W')
theorem uC{w:World}{gb gs gm l b1 b2 fn0 D:Nat}{tm:Array Value}{asg bdy:Code}{c:Int}{C0:ah}(hC:ae w gb C0)(hS:w.heap[gs]? = some (.cells #[vI 0] 3 (0,0)))(hm:w.heap[gm]? = some (.cells (fg c g7) 45 (0,0)))
    (hl:w.heap[l]? = some (.loop (dh fn0 tm asg bdy D))) (hb1:w.heap[b1]? = some (.cells #[vP gb 0] 164 (0,0))) (hb2:w.heap[b2]? = some (.cells #[.func (.func 213) #[] #[vP gs 0]] 178 (0,0)))
    (n1:gb≠gs) (n2:gb≠gm) (n3:gb≠l) (n4:gs≠gm) (n5:gs≠l) (n6:gm≠l) (m1:b1≠gb) (m2:b1≠gs) (m3:b1≠gm) (m4:b1≠l) (k1:b2≠gb) (k2:b2≠gs) (k3:b2≠gm) (k4:b2≠l) (hround:nH w gb gs gm l c (dh fn0 tm asg bdy D)) :
    Calls Tryz.prog 220 #[.func (.yield l) #[] #[],vP b1 0,vP b2 0] w (fun e W=>e = .returned (.tuple #[])∧∃ s A cp,JR w gb gs gm l c (dh fn0 tm asg bdy D) (aO cy C0.l.length 0 C0 []).1 s (aO cy C0.l.length 0 C0 []).2 A cp W):=by
 have hlen:=hC.len
 refine en 25 Tryz.func220 rfl<|bk<|?_
 refine gw (fun x=>[(0,.func (.yield l) #[] #[]),(1,vP b1 0),(2,vP b2 0)]) (fun(x:Nat × ah × Int × List cX × Option Addr × Nat) w'=>aE [gb,gs,gm,l] w w'∧ae w' gb x.2.1∧w'.heap[gs]? = some (.cells #[vI x.2.2.1] 3 (0,0))∧w'.heap[gm]? = some (.cells (fg c (.slice x.2.2.2.2.1 x.2.2.2.1.length x.2.2.2.2.2)) 45 (0,0))∧w'.heap[l]? = some (.loop (dh fn0 tm asg bdy D))∧aW w.heap.size 98 4 (bt (.hi w.heap.size)) w' (.slice x.2.2.2.2.1 x.2.2.2.1.length x.2.2.2.2.2) x.2.2.2.1∧(aO cy x.1 x.2.2.1 x.2.1 x.2.2.2.1=aO cy C0.l.length 0 C0 [])∧(x.2.1.l.length≤x.1)∧(0≤x.2.2.1∧x.2.2.1≤131074*(x.2.2.2.1.length:Int))∧(x.2.2.2.1.length+x.1≤C0.l.length)) (fun x=>x.1) (C0.l.length,C0,0,[],none,0) ⟨aE.refl _ _,hC,hS,hm,hl,aW.nil ..,rfl,(Nat.le_refl _),(by(try dsimp only);omega),(by(try dsimp only);(try simp only[List.length_nil]);omega)⟩ ?_
 rintro⟨n,C,s,L,A,cp⟩ h ⟨i,I,J,M,N,O,P,Q,R,S⟩
 refine f5 [(0,.func (.yield l) #[] #[]),(1,vP b1 0),(2,vP b2 0)] ?_
 have b:ae h gb C:=I
 have m:h.heap[gs]? = some (.cells #[vI s] 3 (0,0)):=J
 have t:h.heap[gm]? = some (.cells (fg c (.slice A L.length cp)) 45 (0,0)):=M
 have v:h.heap[l]? = some (.loop (dh fn0 tm asg bdy D)):=N
 have d:aW w.heap.size 98 4 (bt (.hi w.heap.size)) h (.slice A L.length cp) L:=O
 have af:aO cy n s C L=aO cy C0.l.length 0 C0 []:=P
 have aj:C.l.length≤n:=Q
 have am:0≤s∧s≤131074*(L.length:Int):=R
 have an:L.length+n≤C0.l.length:=S
 have hrec:aO cy n s C L=aO cy C0.l.length 0 C0 []:=by assumption
 refine sq<|sg<|?_
 have o:=aE.blk i (aa m1 (aa m2 (aa m3 (aa m4 av)))) hb1
 refine aH o 0<|ax<|mq (dx b)<|?_
 have ao:=ae.len b
 refine Pl 2<|cY 4 [8] 12 8 (decide (0<(C.l.length:Int))) (C.e==0) (fun K T U=>?_) ?_
 have ap:=of_decide_eq_true U
 refine L1<|cS o 0<|L1<|Oc<|mq (c4 b)<|?_
 have aq:=ae.len b
 exact Pl 2<|ce T _ rfl
 refine nt<|cb (((decide (0<(C.l.length:Int)))&&(C.e==0))) (fun f=>?_) (fun f=>?_)
 have y:=(aS f).1
 have z:=(aS f).2
 have ar:=of_decide_eq_true y
 have au:=ak z
 refine bz<|bk<|sg<|?_
 refine aH (aE.blk i (aa k1 (aa k2 (aa k3 (aa k4 av)))) hb2) 0<|aH o 0<|L0<|i7 #[] #[vP gs 0] (args:=#[vP gb 0,vP gs 0])<|xT (pC (s:=s) b m n1 (by omega)) fun B E aw V X Y Z a0 F a1=>?_
 have az:dK s C=s+(2+2*(aM C).count):=rfl
 obtain⟨aB,aF⟩:=X
 obtain⟨aL,aP⟩:=Y
 obtain⟨aQ,aR⟩:=Z
 refine aK #[vW 0,vW 0,vW 0,nS] fun aU aV a2 a3 a4=>aD a3 #[vW ((aM C).file),vW ((aM C).record),vW ((aM C).count),.slice B ((aM C).words.length) E] fun a5 a6 a7=>nt<|sq<|wx 9<|?_
 have j:=ud a4 a7 a2
 have a:=aN a1 j
 refine F0<|cS (aE.blk a (aa m1 (aa m2 av)) o) 0<|?_
 have p:=ae.old a0 j
 refine F0<|Oc<|mq (c4 p)<|?_
 have aX:=ae.len p
 refine Fp<|Fp<|?_
 have G:=ut i a (ac im (ac im aA))
 refine wR 19 ((((dX s C).e)!=0)) (fun k=>?_) (fun k=>?_)
 have a8:=ay k
 refine Fp<|Fp<|Fp<|Fp<|Fp<|qs<|tn<|c1<|rt<|br<|tr<|br<|rr (.tuple #[])<|?_
 have hfin:aO cy C0.l.length 0 C0 []=((dX s C),L):=by
   rw[← hrec]
   rw[show n=(n-1)+1 from by omega]
   simp only[aO,cy,f,y,z,k,bq,reduceIte]
 refine⟨rfl,(dK s C),A,cp,?_⟩
 rw[hfin]
 exact⟨G,p,(ub j F),(aE.blk a (aa (Ne.symm n2) (aa (Ne.symm n4) av)) t),(al d a (fun x hx=>(aa (fun e=>(aG (ae.lt hC) lr d) (e▸hx)) (aa (fun e=>(aG (ag hS) lr d) (e▸hx)) av))) (bt.upd16 a (ai (ae.safe b _ (by decide)) (ai (aT m (by decide)) aC)))),(aE.blk a (aa (Ne.symm n3) (aa (Ne.symm n5) av)) v)⟩
 have a8:=aJ k
 refine Fp<|F0<|cJ a6<|?_
 have H:=aE.blk a (aa (Ne.symm n3) (aa (Ne.symm n5) av)) v
 have a9:JR w gb gs gm l c (dh fn0 tm asg bdy D) (dX s C) (dK s C) L A cp a5:=⟨G,p,(ub j F),(aE.blk a (aa (Ne.symm n2) (aa (Ne.symm n4) av)) t),(al d a (fun x hx=>(aa (fun e=>(aG (ae.lt hC) lr d) (e▸hx)) (aa (fun e=>(aG (ag hS) lr d) (e▸hx)) av))) (bt.upd16 a (ai (ae.safe b _ (by decide)) (ai (aT m (by decide)) aC)))),H⟩
 refine Fy (r:=dh fn0 tm asg bdy D) (.agg #[vW ((aM C).file),vW ((aM C).record),vW ((aM C).count),.slice B ((aM C).words.length) E]) 53 H rfl<|?_
 refine RoundIn.mono (hround _ _ _ _ _ _ (aM C) _ _ a9 (aI.hi_le (ez.upd' V j aC) i.size fun _ _ q=>q) (c7 (by omega)) (c7 (by omega)) (c7 (by omega)) (by omega)) ?_
 rintro _ aY ⟨rfl,aZ,ab,ad,g⟩
 refine⟨_,rfl,?_⟩
 exact Fp<|Fp<|qs<|tn<|c0<|sk<|bn<|ed ((n-1),(dX s C),(dK s C),(L++[(aM C)]),ab,ad) ⟨g.u,g.hC,g.hS,g.hm,g.hl,g.ho,(by(try dsimp only);rw[← hrec,show n=(n-1)+1 from by omega];simp only[aO,cy,f,y,z,k,bq,Nat.add_sub_cancel,reduceIte]),(by(try dsimp only);have hd:=oW s C (by omega);have iT:(cy s C).2.1.l.length=(dX s C).l.length:=rfl;omega),(by(try dsimp only);simp only[d8];omega),(by(try dsimp only);simp only[d8];omega)⟩ (by omega)
 refine xt<|tx<|tx<|bx<|rm (.tuple #[])<|?_
 have hfin:aO cy C0.l.length 0 C0 []=(C,L):=by
   rw[← hrec]
   exact fG _ _ _ _ _ (by simp only[f,bq])
 refine⟨rfl,s,A,cp,?_⟩
 rw[hfin]
 exact⟨i,b,m,t,d,v⟩
theorem uO{w:World}{gb gs gm l b1 b2 fn0 D:Nat}{tm:Array Value}{asg bdy:Code}{c:Int}{C0:ah}(hC:ae w gb C0)(hS:w.heap[gs]? = some (.cells #[vI 0] 3 (0,0)))(hm:w.heap[gm]? = some (.cells (fg c g7) 45 (0,0)))
    (hl:w.heap[l]? = some (.loop (dh fn0 tm asg bdy D))) (hb1:w.heap[b1]? = some (.cells #[vP gb 0] 164 (0,0))) (hb2:w.heap[b2]? = some (.cells #[.func (.func 217) #[] #[]] 178 (0,0)))
    (n1:gb≠gs) (n2:gb≠gm) (n3:gb≠l) (n4:gs≠gm) (n5:gs≠l) (n6:gm≠l) (m1:b1≠gb) (m2:b1≠gs) (m3:b1≠gm) (m4:b1≠l) (k1:b2≠gb) (k2:b2≠gs) (k3:b2≠gm) (k4:b2≠l) (hround:nH w gb gs gm l c (dh fn0 tm asg bdy D)) :
    Calls Tryz.prog 220 #[.func (.yield l) #[] #[],vP b1 0,vP b2 0] w (fun e W=>e = .returned (.tuple #[])∧∃ s A cp,JR w gb gs gm l c (dh fn0 tm asg bdy D) (aO bH C0.l.length 0 C0 []).1 s (aO bH C0.l.length 0 C0 []).2 A cp W):=by
 have hlen:=hC.len
 refine en 25 Tryz.func220 rfl<|bk<|?_
 refine gw (fun x=>[(0,.func (.yield l) #[] #[]),(1,vP b1 0),(2,vP b2 0)]) (fun(x:Nat × ah × Int × List cX × Option Addr × Nat) w'=>aE [gb,gs,gm,l] w w'∧ae w' gb x.2.1∧w'.heap[gs]? = some (.cells #[vI x.2.2.1] 3 (0,0))∧w'.heap[gm]? = some (.cells (fg c (.slice x.2.2.2.2.1 x.2.2.2.1.length x.2.2.2.2.2)) 45 (0,0))∧w'.heap[l]? = some (.loop (dh fn0 tm asg bdy D))∧aW w.heap.size 98 4 (bt (.hi w.heap.size)) w' (.slice x.2.2.2.2.1 x.2.2.2.1.length x.2.2.2.2.2) x.2.2.2.1∧(aO bH x.1 x.2.2.1 x.2.1 x.2.2.2.1=aO bH C0.l.length 0 C0 [])∧(x.2.1.l.length≤x.1)∧(0≤x.2.2.1∧x.2.2.1≤131074*(x.2.2.2.1.length:Int))∧(x.2.2.2.1.length+x.1≤C0.l.length)) (fun x=>x.1) (C0.l.length,C0,0,[],none,0) ⟨aE.refl _ _,hC,hS,hm,hl,aW.nil ..,rfl,(Nat.le_refl _),(by(try dsimp only);omega),(by(try dsimp only);(try simp only[List.length_nil]);omega)⟩ ?_
 rintro⟨n,C,s,L,A,cp⟩ g ⟨h,H,I,J,M,N,O,P,Q,R⟩
 refine f5 [(0,.func (.yield l) #[] #[]),(1,vP b1 0),(2,vP b2 0)] ?_
 have b:ae g gb C:=H
 have o:g.heap[gs]? = some (.cells #[vI s] 3 (0,0)):=I
 have p:g.heap[gm]? = some (.cells (fg c (.slice A L.length cp)) 45 (0,0)):=J
 have t:g.heap[l]? = some (.loop (dh fn0 tm asg bdy D)):=M
 have i:aW w.heap.size 98 4 (bt (.hi w.heap.size)) g (.slice A L.length cp) L:=N
 have ac:aO bH n s C L=aO bH C0.l.length 0 C0 []:=O
 have ad:C.l.length≤n:=P
 have af:0≤s∧s≤131074*(L.length:Int):=Q
 have ag:L.length+n≤C0.l.length:=R
 have hrec:aO bH n s C L=aO bH C0.l.length 0 C0 []:=by assumption
 refine sq<|sg<|?_
 have k:=aE.blk h (aa m1 (aa m2 (aa m3 (aa m4 av)))) hb1
 refine aH k 0<|ax<|mq (dx b)<|?_
 have aj:=ae.len b
 refine Pl 2<|cY 4 [8] 12 8 (decide (0<(C.l.length:Int))) (C.e==0) (fun K S T=>?_) ?_
 have am:=of_decide_eq_true T
 refine L1<|cS k 0<|L1<|Oc<|mq (c4 b)<|?_
 have an:=ae.len b
 exact Pl 2<|ce S _ rfl
 refine nt<|cb (((decide (0<(C.l.length:Int)))&&(C.e==0))) (fun d=>?_) (fun d=>?_)
 have v:=(aS d).1
 have y:=(aS d).2
 have ao:=of_decide_eq_true v
 have ap:=ak y
 refine bz<|bk<|sg<|?_
 refine aH (aE.blk h (aa k1 (aa k2 (aa k3 (aa k4 av)))) hb2) 0<|aH k 0<|L0<|i7 #[] #[] (args:=#[vP gb 0])<|uk (pk b) fun B E aq U V X Y Z a0=>?_
 obtain⟨ar,au⟩:=V
 obtain⟨aw,az⟩:=X
 obtain⟨aA,aB⟩:=Y
 refine aK #[vW 0,vW 0,vW 0,nS] fun aF aL a1 a2 a3=>aD a2 #[vW ((dQ C).file),vW ((dQ C).record),vW ((dQ C).count),.slice B ((dQ C).words.length) E] fun a4 a5 a6=>nt<|sq<|wx 9<|?_
 have z:=ud a3 a6 a1
 have a:=aN a0 z
 refine F0<|cS (aV a m1 k) 0<|?_
 have m:=ae.old Z z
 refine F0<|Oc<|mq (c4 m)<|?_
 have aM:=ae.len m
 refine Fp<|Fp<|?_
 have F:=u1 h a im
 refine wR 19 ((((eo C).e)!=0)) (fun j=>?_) (fun j=>?_)
 have a7:=ay j
 refine Fp<|Fp<|Fp<|Fp<|Fp<|qs<|tn<|c1<|rt<|br<|tr<|br<|rr (.tuple #[])<|?_
 have hfin:aO bH C0.l.length 0 C0 []=((eo C),L):=by
   rw[← hrec]
   rw[show n=(n-1)+1 from by omega]
   simp only[aO,bH,d,v,y,j,bq,reduceIte]
 refine⟨rfl,s,A,cp,?_⟩
 rw[hfin]
 exact⟨F,m,(aV a (Ne.symm n1) o),(aV a (Ne.symm n2) p),(al i a (fun x hx=>(aa (fun e=>(aG (ae.lt hC) lr i) (e▸hx)) av)) (bt.upd16 a (ai (ae.safe b _ (by decide)) aC))),(aV a (Ne.symm n3) t)⟩
 have a7:=aJ j
 refine Fp<|F0<|cJ a5<|?_
 have G:=aV a (Ne.symm n3) t
 have a8:JR w gb gs gm l c (dh fn0 tm asg bdy D) (eo C) s L A cp a4:=⟨F,m,(aV a (Ne.symm n1) o),(aV a (Ne.symm n2) p),(al i a (fun x hx=>(aa (fun e=>(aG (ae.lt hC) lr i) (e▸hx)) av)) (bt.upd16 a (ai (ae.safe b _ (by decide)) aC))),G⟩
 refine Fy (r:=dh fn0 tm asg bdy D) (.agg #[vW ((dQ C).file),vW ((dQ C).record),vW ((dQ C).count),.slice B ((dQ C).words.length) E]) 53 G rfl<|?_
 refine RoundIn.mono (hround _ _ _ _ _ _ (dQ C) _ _ a8 (aI.hi_le (ez.upd' U z aC) h.size fun _ _ q=>q) (c7 (by omega)) (c7 (by omega)) (c7 (by omega)) (by omega)) ?_
 rintro _ aP ⟨rfl,aQ,a9,ab,f⟩
 refine⟨_,rfl,?_⟩
 exact Fp<|Fp<|qs<|tn<|c0<|sk<|bn<|ed ((n-1),(eo C),s,(L++[(dQ C)]),a9,ab) ⟨f.u,f.hC,f.hS,f.hm,f.hl,f.ho,(by(try dsimp only);rw[← hrec,show n=(n-1)+1 from by omega];simp only[aO,bH,d,v,y,j,bq,Nat.add_sub_cancel,reduceIte]),(by(try dsimp only);have hd:=jv s C (by omega);have iT:(bH s C).2.1.l.length=(eo C).l.length:=rfl;omega),(by(try dsimp only);simp only[d8];omega),(by(try dsimp only);simp only[d8];omega)⟩ (by omega)
 refine xt<|tx<|tx<|bx<|rm (.tuple #[])<|?_
 have hfin:aO bH C0.l.length 0 C0 []=(C,L):=by
   rw[← hrec]
   exact fG _ _ _ _ _ (by simp only[d,bq])
 refine⟨rfl,s,A,cp,?_⟩
 rw[hfin]
 exact⟨h,b,o,p,i,t⟩
theorem v4{w:World}{gb gs gm l b1 b2 fn0 D:Nat}{tm:Array Value}{asg bdy:Code}{c:Int}{C0:ah}(hC:ae w gb C0)(hS:w.heap[gs]? = some (.cells #[vI 0] 3 (0,0)))(hm:w.heap[gm]? = some (.cells (fg c g7) 45 (0,0)))
    (hl:w.heap[l]? = some (.loop (dh fn0 tm asg bdy D))) (hb1:w.heap[b1]? = some (.cells #[vP gb 0] 164 (0,0))) (hb2:w.heap[b2]? = some (.cells #[.func (.func 219) #[] #[]] 178 (0,0)))
    (n1:gb≠gs) (n2:gb≠gm) (n3:gb≠l) (n4:gs≠gm) (n5:gs≠l) (n6:gm≠l) (m1:b1≠gb) (m2:b1≠gs) (m3:b1≠gm) (m4:b1≠l) (k1:b2≠gb) (k2:b2≠gs) (k3:b2≠gm) (k4:b2≠l) (hround:nH w gb gs gm l c (dh fn0 tm asg bdy D)) :
    Calls Tryz.prog 220 #[.func (.yield l) #[] #[],vP b1 0,vP b2 0] w (fun e W=>e = .returned (.tuple #[])∧∃ s A cp,JR w gb gs gm l c (dh fn0 tm asg bdy D) (aO cC C0.l.length 0 C0 []).1 s (aO cC C0.l.length 0 C0 []).2 A cp W):=by
 have hlen:=hC.len
 refine en 25 Tryz.func220 rfl<|bk<|?_
 refine gw (fun x=>[(0,.func (.yield l) #[] #[]),(1,vP b1 0),(2,vP b2 0)]) (fun(x:Nat × ah × Int × List cX × Option Addr × Nat) w'=>aE [gb,gs,gm,l] w w'∧ae w' gb x.2.1∧w'.heap[gs]? = some (.cells #[vI x.2.2.1] 3 (0,0))∧w'.heap[gm]? = some (.cells (fg c (.slice x.2.2.2.2.1 x.2.2.2.1.length x.2.2.2.2.2)) 45 (0,0))∧w'.heap[l]? = some (.loop (dh fn0 tm asg bdy D))∧aW w.heap.size 98 4 (bt (.hi w.heap.size)) w' (.slice x.2.2.2.2.1 x.2.2.2.1.length x.2.2.2.2.2) x.2.2.2.1∧(aO cC x.1 x.2.2.1 x.2.1 x.2.2.2.1=aO cC C0.l.length 0 C0 [])∧(x.2.1.l.length≤x.1)∧(0≤x.2.2.1∧x.2.2.1≤131074*(x.2.2.2.1.length:Int))∧(x.2.2.2.1.length+x.1≤C0.l.length)) (fun x=>x.1) (C0.l.length,C0,0,[],none,0) ⟨aE.refl _ _,hC,hS,hm,hl,aW.nil ..,rfl,(Nat.le_refl _),(by(try dsimp only);omega),(by(try dsimp only);(try simp only[List.length_nil]);omega)⟩ ?_
 rintro⟨n,C,s,L,A,cp⟩ g ⟨h,H,I,J,M,N,O,P,Q,R⟩
 refine f5 [(0,.func (.yield l) #[] #[]),(1,vP b1 0),(2,vP b2 0)] ?_
 have b:ae g gb C:=H
 have o:g.heap[gs]? = some (.cells #[vI s] 3 (0,0)):=I
 have p:g.heap[gm]? = some (.cells (fg c (.slice A L.length cp)) 45 (0,0)):=J
 have t:g.heap[l]? = some (.loop (dh fn0 tm asg bdy D)):=M
 have i:aW w.heap.size 98 4 (bt (.hi w.heap.size)) g (.slice A L.length cp) L:=N
 have ac:aO cC n s C L=aO cC C0.l.length 0 C0 []:=O
 have ad:C.l.length≤n:=P
 have af:0≤s∧s≤131074*(L.length:Int):=Q
 have ag:L.length+n≤C0.l.length:=R
 have hrec:aO cC n s C L=aO cC C0.l.length 0 C0 []:=by assumption
 refine sq<|sg<|?_
 have k:=aE.blk h (aa m1 (aa m2 (aa m3 (aa m4 av)))) hb1
 refine aH k 0<|ax<|mq (dx b)<|?_
 have aj:=ae.len b
 refine Pl 2<|cY 4 [8] 12 8 (decide (0<(C.l.length:Int))) (C.e==0) (fun K S T=>?_) ?_
 have am:=of_decide_eq_true T
 refine L1<|cS k 0<|L1<|Oc<|mq (c4 b)<|?_
 have an:=ae.len b
 exact Pl 2<|ce S _ rfl
 refine nt<|cb (((decide (0<(C.l.length:Int)))&&(C.e==0))) (fun d=>?_) (fun d=>?_)
 have v:=(aS d).1
 have y:=(aS d).2
 have ao:=of_decide_eq_true v
 have ap:=ak y
 refine bz<|bk<|sg<|?_
 refine aH (aE.blk h (aa k1 (aa k2 (aa k3 (aa k4 av)))) hb2) 0<|aH k 0<|L0<|i7 #[] #[] (args:=#[vP gb 0])<|uk (sw b) fun B E aq U V X Y Z a0=>?_
 obtain⟨ar,au⟩:=V
 obtain⟨aw,az⟩:=X
 obtain⟨aA,aB⟩:=Y
 refine aK #[vW 0,vW 0,vW 0,nS] fun aF aL a1 a2 a3=>aD a2 #[vW ((gF C).file),vW ((gF C).record),vW ((gF C).count),.slice B ((gF C).words.length) E] fun a4 a5 a6=>nt<|sq<|wx 9<|?_
 have z:=ud a3 a6 a1
 have a:=aN a0 z
 refine F0<|cS (aV a m1 k) 0<|?_
 have m:=ae.old Z z
 refine F0<|Oc<|mq (c4 m)<|?_
 have aM:=ae.len m
 refine Fp<|Fp<|?_
 have F:=u1 h a im
 refine wR 19 ((((i9 C).e)!=0)) (fun j=>?_) (fun j=>?_)
 have a7:=ay j
 refine Fp<|Fp<|Fp<|Fp<|Fp<|qs<|tn<|c1<|rt<|br<|tr<|br<|rr (.tuple #[])<|?_
 have hfin:aO cC C0.l.length 0 C0 []=((i9 C),L):=by
   rw[← hrec]
   rw[show n=(n-1)+1 from by omega]
   simp only[aO,cC,d,v,y,j,bq,reduceIte]
 refine⟨rfl,s,A,cp,?_⟩
 rw[hfin]
 exact⟨F,m,(aV a (Ne.symm n1) o),(aV a (Ne.symm n2) p),(al i a (fun x hx=>(aa (fun e=>(aG (ae.lt hC) lr i) (e▸hx)) av)) (bt.upd16 a (ai (ae.safe b _ (by decide)) aC))),(aV a (Ne.symm n3) t)⟩
 have a7:=aJ j
 refine Fp<|F0<|cJ a5<|?_
 have G:=aV a (Ne.symm n3) t
 have a8:JR w gb gs gm l c (dh fn0 tm asg bdy D) (i9 C) s L A cp a4:=⟨F,m,(aV a (Ne.symm n1) o),(aV a (Ne.symm n2) p),(al i a (fun x hx=>(aa (fun e=>(aG (ae.lt hC) lr i) (e▸hx)) av)) (bt.upd16 a (ai (ae.safe b _ (by decide)) aC))),G⟩
 refine Fy (r:=dh fn0 tm asg bdy D) (.agg #[vW ((gF C).file),vW ((gF C).record),vW ((gF C).count),.slice B ((gF C).words.length) E]) 53 G rfl<|?_
 refine RoundIn.mono (hround _ _ _ _ _ _ (gF C) _ _ a8 (aI.hi_le (ez.upd' U z aC) h.size fun _ _ q=>q) (c7 (by omega)) (c7 (by omega)) (c7 (by omega)) (by omega)) ?_
 rintro _ aP ⟨rfl,aQ,a9,ab,f⟩
 refine⟨_,rfl,?_⟩
 exact Fp<|Fp<|qs<|tn<|c0<|sk<|bn<|ed ((n-1),(i9 C),s,(L++[(gF C)]),a9,ab) ⟨f.u,f.hC,f.hS,f.hm,f.hl,f.ho,(by(try dsimp only);rw[← hrec,show n=(n-1)+1 from by omega];simp only[aO,cC,d,v,y,j,bq,Nat.add_sub_cancel,reduceIte]),(by(try dsimp only);have hd:=oX s C (by omega);have iT:(cC s C).2.1.l.length=(i9 C).l.length:=rfl;omega),(by(try dsimp only);simp only[d8];omega),(by(try dsimp only);simp only[d8];omega)⟩ (by omega)
 refine xt<|tx<|tx<|bx<|rm (.tuple #[])<|?_
 have hfin:aO cC C0.l.length 0 C0 []=(C,L):=by
   rw[← hrec]
   exact fG _ _ _ _ _ (by simp only[d,bq])
 refine⟨rfl,s,A,cp,?_⟩
 rw[hfin]
 exact⟨h,b,o,p,i,t⟩
end Go.Proofs.YtdkhbcefkfgbdaaGreat
