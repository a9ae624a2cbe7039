/- Contracts of functions, part CAscParses6. -/
import Derived.Test.YtogbnemojakcpaaGreatCAscParses1
import Derived.Test.YtogbnemojakcpaaGreatCAscParses2
import Derived.Test.YtogbnemojakcpaaGreatCAscParses3
import Derived.Test.YtogbnemojakcpaaGreatCAscParses4
import Derived.Test.YtogbnemojakcpaaGreatCAscParses5
import Derived.Deep.Slices
import Derived.ChangeArms
import Derived.WideShapes
set_option linter.unusedVariables false
set_option linter.unusedSimpArgs false
set_option maxRecDepth 100000
set_option maxHeartbeats 4000000
namespace Go.Proofs.YtogbnemojakcpaaGreat
open Go.RowKit
def tD (w0:World)(m:Md)(A:Option Addr)(cp:Nat)(full:List Int)(g gm:Nat)(C':ah)(cs:Array Value)(w:World)(e:Ending)(w':World) : Prop:=e = .returned (.tuple #[])∧RC w0 m A cp full w' g C'∧w'.heap[gm]? = some (.cells cs 30 (0,0))∧aD [g,gm] w w'
theorem ma{w0:World}{m:Md}{A:Option Addr}{cp:Nat}{full:List Int}{w:World}{g gm:Nat}{c:Int}{C:ah}{most:Int}(hcode:B8 c)(hC:RC w0 m A cp full w g C)(hm:w.heap[gm]? = some (.cells (mC c) 30 (0,0)))(hgm:w0.heap.size≤gm)(hne:g≠gm) :
    Calls Tryz.prog 150 #[.pointer (some ⟨g,0,none⟩),.pointer (some ⟨gm,0,none⟩),.int .i64 most] w (tD w0 m A cp full g gm (bA C most) (mG c 0 C.wordV (C.wordsC 1).wordV 0 0 0 0 0 0 0 0 nS nS nS nS 0 0 0 0 0 nS) w):=by
 obtain⟨hcode1,hcode2⟩:=hcode
 have hrng:=bR (RC.rng hC)
 refine en 39 Tryz.func150 rfl<|sg<|Pl 2<|L0<|Oc<|m3 (cO hC) fun G t e H=>Pl 2<|?_
 refine L0<|bT (aU e (Ne.symm hne) hm) 2 (mG c 0 C.wordV 0 0 0 0 0 0 0 0 0 nS nS nS nS 0 0 0 0 0 nS) fun I dm f=>ng<|Pl 2<|?_
 have h:=us e f
 refine L0<|Oc<|m3 (cO (RC.upd t f (aa hne ay) (hC.u.trans' h (fun x hx=>.inr (by simp at hx;rcases hx with rfl | rfl;exact hC.new;exact hgm))))) fun J v i L=>Pl 2<|?_
 refine L0<|bT (aU i (Ne.symm hne) dm) 3 (mG c 0 C.wordV ((C.wordsC 1).wordV) 0 0 0 0 0 0 0 0 nS nS nS nS 0 0 0 0 0 nS) fun M j k=>ng<|Pl 3<|L0<|aR j 3<|L0<|Oi ((C.wordsC 1).wordV)<|Pl 1<|ng<|Pl 4<|cu 4 [25] 29 (((decide (0<((C.wordsC 1).wordV)))&&(decide (((C.wordsC 1).wordV)≤most)))) (fun K l=>?_) ?_
 refine bl 25 ((decide (0<((C.wordsC 1).wordV)))) (fun b=>?_) (fun b=>?_)
 have y:=of_decide_eq_true b
 exact Pl 4<|ce l (decide (((C.wordsC 1).wordV)≤most)) (by rw[b];rfl)
 have y:=of_decide_eq_false b
 exact Pl 4<|ce l false (by rw[b];rfl)
 have o:=ut h (us i k) (ac im (ac im aq))
 refine L0<|Oc<|m2 (aV (((decide (0<((C.wordsC 1).wordV)))&&(decide (((C.wordsC 1).wordV)≤most)))) 5 (RC.upd v k (aa hne ay) (hC.u.trans' o (fun x hx=>.inr (by simp at hx;rcases hx with rfl | rfl;exact hC.new;exact hgm))))) fun z B p=>?_
 refine fj B fun x36 D q=>?_
 refine nt<|go<|Pl 4<|?_
 have r:=aU p (Ne.symm hne) j
 refine L0<|aR r 2<|Pl 1<|L0<|Oc<|m1 (oT (a:=C.wordV) (n:=(C.wordsC 1).wordV) (w:=z) (by omega) (by omega)) fun N d=>?_
 refine L0<|Oc<|m2 (aV ((dh C.wordV ((C.wordsC 1).wordV))) 7 (RC.upd q d ay (aD.step (RC.u q) d))) fun O E F=>nl<|rm (.tuple #[])<|?_
 subst D
 have hs:bA C most=((((C.wordsC 1).wordsC 1).need ((decide (0<((C.wordsC 1).wordV)))&&(decide (((C.wordsC 1).wordV)≤most))) 5).need (dh C.wordV ((C.wordsC 1).wordV)) 7):=by
   unfold bA iw
   (try simp only[bs,if_true,if_false,decide_true,decide_false,dk,reduceIte])
   all_goals rfl
 rw[hs]
 have s:=uz d F
 exact⟨rfl,E,(aU s (Ne.symm hne) r),(u1 o (u1 p s im) im)⟩
theorem jN{m:Md}{A:Option Addr}{cp:Nat}{b:List Int}{w:World}{c:Int}(hcode:B8 c)(hsl:b9 m w (.slice A b.length cp) b)(hb:b.length≤1048576) :
    Calls Tryz.prog 93 #[.int .i64 0,.int .u8 c,.slice A b.length cp] w (d9 (.slice A b.length cp) b (ae aE 0 c b) w):=by
 obtain⟨hcode1,hcode2⟩:=hcode
 have hln:(b.length:Int)≤1048576:=by omega
 refine en 113 Tryz.func93 rfl<|sg<|L0<|bI mZ fun aW d2 r i f=>Pl 1<|nt<|sq<|sg<|Pl 6<|nt<|c0<|?_
 refine bo<|sg<|Pl 2<|L0<|dz #[.slice A b.length cp,.int .i64 0,.bool false,.int .i64 0] fun j d3 a l g=>Pl 1<|ng<|Pl 2<|L0<|bI mZ fun ab d4 d ad N=>L0<|b6 ad (mC c) fun a2 a3 E=>?_
 refine nt<|sq<|sg<|Pl 1<|nt<|bk<|sq<|sg<|Pl 2<|nl<|?_
 refine tn<|?_
 have O:=ud N E d
 have o:=aH g O
 have s:=aH f o
 refine cb ((c==1)) (fun k=>?_) (fun k=>?_)
 have c2:=al k
 refine bo<|ct k<|sq<|sg<|Pl 2<|nt<|c1<|sg<|Pl 1<|?_
 have af:RC w _ A cp b a2 j (ah.mk b false 0):=⟨hsl,s,(Nat.le_trans f.size a),⟨0,(ub O l),Nat.zero_le _,rfl⟩,by omega⟩
 have aX:=nb (ak l) lr d
 refine L0<|Oc<|m3 (ma (most:=2000) (b8 (by omega)) af a3 (Nat.le_trans (le f.size g.size) d) aX) fun d5 c3 c4 c5=>?_
 have d6:=bR (RC.rng af)
 have d7:=bR (c:=(ah.mk b false 0).wordsC 1) (cI (RC.rng af) 1)
 refine nt<|xt<|tx<|bx<|tn<|sg<|Pl 1<|L0<|Oc<|m2 (dX c3) fun da aj aY=>nt<|sq<|sq<|?_
 refine go<|Pl 3<|L0<|dU (p:=⟨j,3,none⟩) (v:=.int .i64 (((bA (ah.mk b false 0) 2000).endC).e)) (RC.fld aj)<|Pl 1<|nt<|?_
 have am:=u1 c5 aY im
 have aZ:=ut s am (ac (ni f.size a) (ac (ni (le f.size g.size) d) aq))
 refine cb (((((bA (ah.mk b false 0) 2000).endC).e)!=0)) (fun P=>?_) (fun P=>?_)
 have an:=au P
 refine sq<|Rg 7 (fun w'=>w'.cell? ⟨j,3,none⟩=some (.int .i64 (((bA (ah.mk b false 0) 2000).endC).e))) fun db a4=>?_
 have b0:=RC.upd aj a4 ay (aD.step (RC.u aj) a4)
 refine bh (RC.fld b0) fun Q=>Rt 0 Q<|Rt 1 Q<|Rt 2 Q<|Rt 3 Q<|Rl 4 Q (fun _ hs=>hs)<|?_
 refine R0 5 rfl<|b6 (ub (ut o (aH am a4) (ac (nr a) (ac (ni g.size d) aq))) i) mZ fun dc c6 b1=>?_
 have b2:=ud aZ (uz a4 b1) r
 refine bh (RC.fld (RC.upd b0 b1 (aa (Ne.symm (nb (ak i) lr a)) ay) b2)) fun c7=>Rt 6 c7<|re<|tn<|rt<|tr<|bF c6 (.int .i64 (((bA (ah.mk b false 0) 2000).endC).e))<|?_
 have hs:ae aE 0 c b=aF (aP.mk c 0 ((ah.mk b false 0).wordV) (((ah.mk b false 0).wordsC 1).wordV) 0 0 0 0 0 0 0 0 [] [] [] [] 0 0 0 0 0 []) (bA (ah.mk b false 0) 2000):=by
   unfold ae aE cE cv ck eo jV fh jW jt jj d8 dK
   (try simp only[k,P,bs,if_true,if_false,decide_true,decide_false,eq_self,true_or,or_true,or_false,false_or,if_true,if_false,ch,cg,cc,bZ,reduceIte,dk])
   all_goals rfl
 rw[hs]
 exact bg an b2
 have an:=ai P
 refine bo<|sg<|?_
 refine L0<|cl (aU aY (Ne.symm aX) c4)<|?_
 refine L0<|b6 (ub (ut o am (ac (nr a) (ac (ni g.size d) aq))) i) (mG c 0 ((ah.mk b false 0).wordV) (((ah.mk b false 0).wordsC 1).wordV) 0 0 0 0 0 0 0 0 nS nS nS nS 0 0 0 0 0 nS) fun dd c8 c9=>Pl 1<|nt<|rt<|bF c8 (.int .i64 0)<|?_
 have hs:ae aE 0 c b=aF (aP.mk c 0 ((ah.mk b false 0).wordV) (((ah.mk b false 0).wordsC 1).wordV) 0 0 0 0 0 0 0 0 [] [] [] [] 0 0 0 0 0 []) (bA (ah.mk b false 0) 2000):=by
   unfold ae aE cE cv ck eo jV fh jW jt jj d8 dK
   (try simp only[k,P,bs,if_true,if_false,decide_true,decide_false,eq_self,true_or,or_true,or_false,false_or,if_true,if_false,ch,cg,cc,bZ,reduceIte,dk])
   all_goals rfl
 rw[hs]
 exact bj an ⟨_,_,_,_,_,rfl,aK.nil ..,aK.nil ..,(fun _ _ _=>aK.nil ..),aK.nil ..,aK.nil ..,⟨(b8 (x:=c) (by omega)),(b8 (x:=0) (by omega)),(aC (x:=(ah.mk b false 0).wordV) (by omega)),(aC (x:=((ah.mk b false 0).wordsC 1).wordV) (by omega)),(aC (x:=0) (by omega)),(aC (x:=0) (by omega)),(aC (x:=0) (by omega)),(aC (x:=0) (by omega)),(aC (x:=0) (by omega)),(aC (x:=0) (by omega)),(aC (x:=0) (by omega)),(aC (x:=0) (by omega)),(b8 (x:=0) (by omega)),(b8 (x:=0) (by omega)),(b8 (x:=0) (by omega)),(b8 (x:=0) (by omega)),(b8 (x:=0) (by omega))⟩⟩ (ud aZ c9 r)
 have c2:=ap k
 refine go<|Pl 2<|nt<|cb ((c==2)) (fun q=>?_) (fun q=>?_)
 have ca:=al q
 refine sq<|sg<|Pl 2<|nt<|c1<|sg<|Pl 1<|?_
 have ao:RC w _ A cp b a2 j (ah.mk b false 0):=⟨hsl,s,(Nat.le_trans f.size a),⟨0,(ub O l),Nat.zero_le _,rfl⟩,by omega⟩
 have b3:=nb (ak l) lr d
 refine L0<|Oc<|m3 (ma (most:=2000) (b8 (by omega)) ao a3 (Nat.le_trans (le f.size g.size) d) b3) fun de cd cf cj=>?_
 have df:=bR (RC.rng ao)
 have dg:=bR (c:=(ah.mk b false 0).wordsC 1) (cI (RC.rng ao) 1)
 refine nt<|xt<|tx<|bx<|tn<|sg<|Pl 1<|L0<|Oc<|m2 (dX cd) fun dh ar b4=>nt<|sq<|sq<|?_
 refine go<|Pl 3<|L0<|dU (p:=⟨j,3,none⟩) (v:=.int .i64 (((bA (ah.mk b false 0) 2000).endC).e)) (RC.fld ar)<|Pl 1<|nt<|?_
 have av:=u1 cj b4 im
 have b5:=ut s av (ac (ni f.size a) (ac (ni (le f.size g.size) d) aq))
 refine cb (((((bA (ah.mk b false 0) 2000).endC).e)!=0)) (fun R=>?_) (fun R=>?_)
 have aw:=au R
 refine sq<|Rg 7 (fun w'=>w'.cell? ⟨j,3,none⟩=some (.int .i64 (((bA (ah.mk b false 0) 2000).endC).e))) fun di a5=>?_
 have b7:=RC.upd ar a5 ay (aD.step (RC.u ar) a5)
 refine bh (RC.fld b7) fun S=>Rt 0 S<|Rt 1 S<|Rt 2 S<|Rt 3 S<|Rl 4 S (fun _ hs=>hs)<|?_
 refine R0 5 rfl<|b6 (ub (ut o (aH av a5) (ac (nr a) (ac (ni g.size d) aq))) i) mZ fun dj cm ba=>?_
 have bb:=ud b5 (uz a5 ba) r
 refine bh (RC.fld (RC.upd b7 ba (aa (Ne.symm (nb (ak i) lr a)) ay) bb)) fun cn=>Rt 6 cn<|re<|tn<|rt<|tr<|bF cm (.int .i64 (((bA (ah.mk b false 0) 2000).endC).e))<|?_
 have hs:ae aE 0 c b=aF (aP.mk c 0 ((ah.mk b false 0).wordV) (((ah.mk b false 0).wordsC 1).wordV) 0 0 0 0 0 0 0 0 [] [] [] [] 0 0 0 0 0 []) (bA (ah.mk b false 0) 2000):=by
   unfold ae aE cE cv ck eo jV fh jW jt jj d8 dK
   (try simp only[k,q,R,bs,if_true,if_false,decide_true,decide_false,eq_self,true_or,or_true,or_false,false_or,if_true,if_false,ch,cg,cc,bZ,reduceIte,dk])
   all_goals rfl
 rw[hs]
 exact bg aw bb
 have aw:=ai R
 refine bo<|sg<|?_
 refine L0<|cl (aU b4 (Ne.symm b3) cf)<|?_
 refine L0<|b6 (ub (ut o av (ac (nr a) (ac (ni g.size d) aq))) i) (mG c 0 ((ah.mk b false 0).wordV) (((ah.mk b false 0).wordsC 1).wordV) 0 0 0 0 0 0 0 0 nS nS nS nS 0 0 0 0 0 nS) fun dl co cq=>Pl 1<|nt<|rt<|bF co (.int .i64 0)<|?_
 have hs:ae aE 0 c b=aF (aP.mk c 0 ((ah.mk b false 0).wordV) (((ah.mk b false 0).wordsC 1).wordV) 0 0 0 0 0 0 0 0 [] [] [] [] 0 0 0 0 0 []) (bA (ah.mk b false 0) 2000):=by
   unfold ae aE cE cv ck eo jV fh jW jt jj d8 dK
   (try simp only[k,q,R,bs,if_true,if_false,decide_true,decide_false,eq_self,true_or,or_true,or_false,false_or,if_true,if_false,ch,cg,cc,bZ,reduceIte,dk])
   all_goals rfl
 rw[hs]
 exact bj aw ⟨_,_,_,_,_,rfl,aK.nil ..,aK.nil ..,(fun _ _ _=>aK.nil ..),aK.nil ..,aK.nil ..,⟨(b8 (x:=c) (by omega)),(b8 (x:=0) (by omega)),(aC (x:=(ah.mk b false 0).wordV) (by omega)),(aC (x:=((ah.mk b false 0).wordsC 1).wordV) (by omega)),(aC (x:=0) (by omega)),(aC (x:=0) (by omega)),(aC (x:=0) (by omega)),(aC (x:=0) (by omega)),(aC (x:=0) (by omega)),(aC (x:=0) (by omega)),(aC (x:=0) (by omega)),(aC (x:=0) (by omega)),(b8 (x:=0) (by omega)),(b8 (x:=0) (by omega)),(b8 (x:=0) (by omega)),(b8 (x:=0) (by omega)),(b8 (x:=0) (by omega))⟩⟩ (ud b5 cq r)
 have ca:=ap q
 refine sg<|Pl 2<|nt<|cb ((c==5)) (fun z=>?_) (fun z=>?_)
 have cr:=al z
 refine sg<|Pl 1<|?_
 have cs:RC w _ A cp b a2 j (ah.mk b false 0):=⟨hsl,s,(Nat.le_trans f.size a),⟨0,(ub O l),Nat.zero_le _,rfl⟩,by omega⟩
 refine L0<|Oc<|m3 (cO cs) fun dm cw bc dn=>Pl 1<|?_
 have T:=nb (ak l) lr d
 refine L0<|bT (aU bc (Ne.symm T) a3) 2 (mG c 0 ((ah.mk b false 0).wordV) 0 0 0 0 0 0 0 0 0 nS nS nS nS 0 0 0 0 0 nS) fun dp cx bd=>ng<|Pl 1<|?_
 have az:=us bc bd
 have be:=ut s az (ac (ni f.size a) (ac (ni (le f.size g.size) d) aq))
 refine L0<|Oc<|m3 (cO (RC.upd cw bd (aa T ay) be)) fun dq cy bf dr=>Pl 1<|?_
 refine L0<|bT (aU bf (Ne.symm T) cx) 4 (mG c 0 ((ah.mk b false 0).wordV) 0 (((ah.mk b false 0).wordsC 1).wordV) 0 0 0 0 0 0 0 nS nS nS nS 0 0 0 0 0 nS) fun ds aB bi=>nt<|go<|Pl 2<|L0<|aR aB 4<|Pl 2<|cu 4 [62] 66 ((((((ah.mk b false 0).wordsC 1).wordV)==0)||((((ah.mk b false 0).wordsC 1).wordV)==65280))) (fun K bm=>?_) ?_
 refine bl 62 (((((ah.mk b false 0).wordsC 1).wordV)==0)) (fun U=>?_) (fun U=>?_)
 have cz:=al U
 exact Pl 4<|ce bm true (by rw[U];rfl)
 have cz:=ap U
 exact Pl 1<|L1<|aR aB 4<|Pl 2<|ce bm ((((ah.mk b false 0).wordsC 1).wordV)==65280) (by rw[U];rfl)
 have aG:=us bf bi
 have bp:=ut be aG (ac (ni f.size a) (ac (ni (le f.size g.size) d) aq))
 refine L0<|Oc<|m2 (aV ((((((ah.mk b false 0).wordsC 1).wordV)==0)||((((ah.mk b false 0).wordsC 1).wordV)==65280))) 6 (RC.upd cy bi (aa T ay) bp)) fun dt cA cB=>?_
 refine fj cA fun J bq cC=>?_
 refine nl<|bn<|tn<|sg<|Pl 1<|L0<|Oc<|m2 (dX cC) fun dv aI cD=>nt<|sq<|sg<|Pl 3<|L0<|dU (p:=⟨j,3,none⟩) (v:=.int .i64 J.endC.e) (RC.fld aI)<|?_
 refine Pl 1<|nt<|?_
 have a6:=u1 cB cD im
 have bt:=ud bp a6 (le f.size a)
 refine cb ((J.endC.e != 0)) (fun V=>?_) (fun V=>?_)
 have aJ:=au V
 refine sq<|Rg 7 (fun w'=>w'.cell? ⟨j,3,none⟩=some (.int .i64 J.endC.e)) fun dw a7=>?_
 have bu:=RC.upd aI a7 ay (aD.step (RC.u aI) a7)
 refine bh (RC.fld bu) fun W=>Rt 0 W<|Rt 1 W<|Rt 2 W<|Rt 3 W<|Rl 4 W (fun _ hs=>hs)<|?_
 refine R0 5 rfl<|b6 (ub (ut o (ut az (u1 aG (aH a6 a7) im) (ac im (ac im aq))) (ac (nr a) (ac (ni g.size d) aq))) i) mZ fun dx cF bw=>?_
 have bz:=ud bt (uz a7 bw) r
 refine bh (RC.fld (RC.upd bu bw (aa (Ne.symm (nb (ak i) lr a)) ay) bz)) fun cG=>Rt 6 cG<|re<|tn<|rt<|tr<|bF cF (.int .i64 J.endC.e)<|?_
 have hs:ae aE 0 c b=aF (aP.mk c 0 ((ah.mk b false 0).wordV) 0 (((ah.mk b false 0).wordsC 1).wordV) 0 0 0 0 0 0 0 [] [] [] [] 0 0 0 0 0 []) J:=by
   subst bq
   unfold ae aE cE cv ck eo jV fh jW jt jj d8 dK
   (try simp only[k,q,z,V,bs,if_true,if_false,decide_true,decide_false,eq_self,true_or,or_true,or_false,false_or,if_true,if_false,ch,cg,cc,bZ,reduceIte,dk])
   all_goals rfl
 rw[hs]
 exact bg aJ bz
 have aJ:=ai V
 refine bo<|sg<|?_
 refine L0<|cl (aU a6 (Ne.symm T) aB)<|?_
 refine L0<|b6 (ub (ut o (ut az (u1 aG a6 im) (ac im (ac im aq))) (ac (nr a) (ac (ni g.size d) aq))) i) (mG c 0 ((ah.mk b false 0).wordV) 0 (((ah.mk b false 0).wordsC 1).wordV) 0 0 0 0 0 0 0 nS nS nS nS 0 0 0 0 0 nS) fun dy cH cK=>Pl 1<|nt<|rt<|bF cH (.int .i64 0)<|?_
 have hs:ae aE 0 c b=aF (aP.mk c 0 ((ah.mk b false 0).wordV) 0 (((ah.mk b false 0).wordsC 1).wordV) 0 0 0 0 0 0 0 [] [] [] [] 0 0 0 0 0 []) J:=by
   subst bq
   unfold ae aE cE cv ck eo jV fh jW jt jj d8 dK
   (try simp only[k,q,z,V,bs,if_true,if_false,decide_true,decide_false,eq_self,true_or,or_true,or_false,false_or,if_true,if_false,ch,cg,cc,bZ,reduceIte,dk])
   all_goals rfl
 rw[hs]
 exact bj aJ ⟨_,_,_,_,_,rfl,aK.nil ..,aK.nil ..,(fun _ _ _=>aK.nil ..),aK.nil ..,aK.nil ..,⟨(b8 (x:=c) (by omega)),(b8 (x:=0) (by omega)),(aC (x:=(ah.mk b false 0).wordV) (by omega)),(aC (x:=0) (by omega)),(aC (x:=((ah.mk b false 0).wordsC 1).wordV) (by omega)),(aC (x:=0) (by omega)),(aC (x:=0) (by omega)),(aC (x:=0) (by omega)),(aC (x:=0) (by omega)),(aC (x:=0) (by omega)),(aC (x:=0) (by omega)),(aC (x:=0) (by omega)),(b8 (x:=0) (by omega)),(b8 (x:=0) (by omega)),(b8 (x:=0) (by omega)),(b8 (x:=0) (by omega)),(b8 (x:=0) (by omega))⟩⟩ (ud bt cK r)
 have cr:=ap z
 refine sg<|Pl 2<|nt<|cb ((c==15)) (fun L=>?_) (fun L=>?_)
 have cL:=al L
 refine sg<|Pl 1<|?_
 have aL:RC w _ A cp b a2 j (ah.mk b false 0):=⟨hsl,s,(Nat.le_trans f.size a),⟨0,(ub O l),Nat.zero_le _,rfl⟩,by omega⟩
 have F:=nb (ak l) lr d
 refine L0<|Oc<|m3 (ma (most:=1968) (b8 (by omega)) aL a3 (Nat.le_trans (le f.size g.size) d) F) fun dA cM cN G=>?_
 have dB:=bR (RC.rng aL)
 have dC:=bR (c:=(ah.mk b false 0).wordsC 1) (cI (RC.rng aL) 1)
 refine nt<|sq<|sg<|Pl 2<|nt<|c0<|bo<|sg<|Pl 1<|L0<|Oc<|m3 (dG cM) fun cP bB B dD=>?_
 refine L0<|Oi ((bA (ah.mk b false 0) 1968).byteV)<|Pl 1<|ng<|Pl 3<|?_
 have bC:=aU B (Ne.symm F) cN
 refine L0<|aR bC 3<|L0<|Oi (((ah.mk b false 0).wordsC 1).wordV)<|L0<|Oc<|m1 (wa (n:=((ah.mk b false 0).wordsC 1).wordV) (w:=cP) (by omega)) fun dE t=>Pl 1<|?_
 refine L0<|Oc<|m2 (aV ((((bA (ah.mk b false 0) 1968).byteV)==(du (((ah.mk b false 0).wordsC 1).wordV)))) 5 (RC.upd bB t ay (aD.step (RC.u bB) t))) fun dF cQ H=>?_
 refine fj cQ fun I bD bE=>?_
 refine nt<|sq<|Rg 12 (fun w'=>w'.cell? ⟨ab,3,none⟩=some (.int .u16 (((ah.mk b false 0).wordsC 1).wordV))) fun dH y=>?_
 have bG:=uz t (aH H y)
 have bH:=aU bG (Ne.symm F) bC
 refine bh (ag bH rfl) fun X=>Rt 0 X<|Rt 1 X<|Rt 3 X<|Rl 4 X (fun _ hs=>hs)<|Rr 5 X (.int .i64 (((ah.mk b false 0).wordsC 1).wordV)) (fun _ _=>cJ (.int .i64 (IntKind.i64.wrap (((ah.mk b false 0).wordsC 1).wordV))) (by kernel_rfl) (congrArg (Value.int .i64) (i64_in (by omega))))<|?_
 have bJ:=RC.upd bE y ay (aD.step (RC.u bE) y)
 refine R0 2 rfl<|Oc<|nJ (fc (n:=(bA (ah.mk b false 0) 1968).byteV) (by omega) bJ) fun cR cS dI cT aM C=>?_
 have dJ:=Nat.le_trans (ah.bytesR_le I ((bA (ah.mk b false 0) 1968).byteV)) (RC.clen bJ)
 have bK:=aU C (Ne.symm F) bH
 refine bh (ag bK rfl) fun dL=>R0 6 rfl<|Oc (args:=#[.slice cR ((I.bytesR ((bA (ah.mk b false 0) 1968).byteV)).length) cS,.int .i64 (((ah.mk b false 0).wordsC 1).wordV)])<|ep (tV (n:=((ah.mk b false 0).wordsC 1).wordV) (cT _ _ (RC.rd aM)) (by omega) (by omega)) fun bL bM dM D dN dO a8=>?_
 have bN:=ub a8 bK
 refine bh (ag bN rfl) fun Y=>Rt 7 Y<|Rt 8 Y<|Rt 9 Y<|Rt 10 Y<|Rt 11 Y<|re<|tn<|sg<|Pl 2<|?_
 refine L0<|Oc<|m2 (aV ((ci (I.bytesR ((bA (ah.mk b false 0) 1968).byteV)) (((ah.mk b false 0).wordsC 1).wordV)).isSome) 6 (RC.upd aM a8 ay (aD.step (RC.u aM) a8))) fun dP cU bO=>?_
 refine fj cU fun M bP cV=>?_
 refine nt<|go<|Pl 2<|?_
 refine L0<|bT (aU bO (Ne.symm F) bN) 13 (mG c 0 ((ah.mk b false 0).wordV) (((ah.mk b false 0).wordsC 1).wordV) 0 0 0 0 0 0 0 0 nS (.slice bL (((ci (I.bytesR ((bA (ah.mk b false 0) 1968).byteV)) (((ah.mk b false 0).wordsC 1).wordV)).getD []).length) bM) nS nS 0 0 0 0 0 nS) fun dQ cW bQ=>nl<|bn<|tn<|sg<|Pl 1<|?_
 have aN:=us bO bQ
 have aO:=ut G (ui B (ui bG (ui C (uz a8 aN)))) (ac im (ac im aq))
 have bS:=ut s aO (ac (ni f.size a) (ac (ni (le f.size g.size) d) aq))
 refine L0<|Oc<|m2 (dX (RC.upd cV bQ (aa F ay) bS)) fun dR aQ Z=>nt<|sq<|sg<|Pl 3<|L0<|dU (p:=⟨j,3,none⟩) (v:=.int .i64 M.endC.e) (RC.fld aQ)<|Pl 1<|nt<|?_
 have bU:=ud bS Z (le f.size a)
 refine cb ((M.endC.e != 0)) (fun a0=>?_) (fun a0=>?_)
 have aS:=au a0
 refine sq<|Rg 7 (fun w'=>w'.cell? ⟨j,3,none⟩=some (.int .i64 M.endC.e)) fun dS a9=>?_
 have bV:=RC.upd aQ a9 ay (aD.step (RC.u aQ) a9)
 refine bh (RC.fld bV) fun a1=>Rt 0 a1<|Rt 1 a1<|Rt 2 a1<|Rt 3 a1<|Rl 4 a1 (fun _ hs=>hs)<|?_
 have bW:=aH Z a9
 refine R0 5 rfl<|b6 (ub (ut o (u1 aO bW im) (ac (nr a) (ac (ni g.size d) aq))) i) mZ fun dT cX aT=>?_
 have bX:=ud bU (uz a9 aT) r
 refine bh (RC.fld (RC.upd bV aT (aa (Ne.symm (nb (ak i) lr a)) ay) bX)) fun cY=>Rt 6 cY<|re<|tn<|rt<|tr<|bF cX (.int .i64 M.endC.e)<|?_
 have dV:=ax D (ut (aD.mono (S':=[j,ab,aW]) aN (ac im (ac im aq))) (us bW aT) (ac im (ac im aq))) (fun x hx=>(aa (fun e=>(aA (ak l) (le (le (le (le (le (le (le N.size E.size) G.size) B.size) t.size) H.size) y.size) C.size) D) (e▸hx)) (aa (fun e=>(aA (ak ad) (le (le (le (le (le (le E.size G.size) B.size) t.size) H.size) y.size) C.size) D) (e▸hx)) (aa (fun e=>(aA (ak i) (le (le (le (le (le (le (le (le g.size N.size) E.size) G.size) B.size) t.size) H.size) y.size) C.size) D) (e▸hx)) ay)))) (fun _ _ h=>h)
 have hs:ae aE 0 c b=aF (aP.mk c 0 ((ah.mk b false 0).wordV) (((ah.mk b false 0).wordsC 1).wordV) 0 0 0 0 0 0 0 0 [] ((ci (I.bytesR ((bA (ah.mk b false 0) 1968).byteV)) (((ah.mk b false 0).wordsC 1).wordV)).getD []) [] [] 0 0 0 0 0 []) M:=by
   subst bP bD
   unfold ae aE cE cv ck eo jV fh jW jt jj d8 dK
   (try simp only[k,q,z,L,a0,bs,if_true,if_false,decide_true,decide_false,eq_self,true_or,or_true,or_false,false_or,if_true,if_false,ch,cg,cc,bZ,reduceIte,dk])
   all_goals rfl
 rw[hs]
 exact bg aS bX
 have aS:=ai a0
 refine bo<|sg<|?_
 refine L0<|cl (aU Z (Ne.symm F) cW)<|?_
 refine L0<|b6 (ub (ut o (u1 aO Z im) (ac (nr a) (ac (ni g.size d) aq))) i) (mG c 0 ((ah.mk b false 0).wordV) (((ah.mk b false 0).wordsC 1).wordV) 0 0 0 0 0 0 0 0 nS (.slice bL (((ci (I.bytesR ((bA (ah.mk b false 0) 1968).byteV)) (((ah.mk b false 0).wordsC 1).wordV)).getD []).length) bM) nS nS 0 0 0 0 0 nS) fun dW cZ bY=>Pl 1<|nt<|rt<|bF cZ (.int .i64 0)<|?_
 have hs:ae aE 0 c b=aF (aP.mk c 0 ((ah.mk b false 0).wordV) (((ah.mk b false 0).wordsC 1).wordV) 0 0 0 0 0 0 0 0 [] ((ci (I.bytesR ((bA (ah.mk b false 0) 1968).byteV)) (((ah.mk b false 0).wordsC 1).wordV)).getD []) [] [] 0 0 0 0 0 []) M:=by
   subst bP bD
   unfold ae aE cE cv ck eo jV fh jW jt jj d8 dK
   (try simp only[k,q,z,L,a0,bs,if_true,if_false,decide_true,decide_false,eq_self,true_or,or_true,or_false,false_or,if_true,if_false,ch,cg,cc,bZ,reduceIte,dk])
   all_goals rfl
 rw[hs]
 exact bj aS ⟨_,_,_,_,_,rfl,aK.nil ..,((ax D (ut (aD.mono (S':=[j,ab,aW]) aN (ac im (ac im aq))) (us Z bY) (ac im (ac im aq))) (fun x hx=>(aa (fun e=>(aA (ak l) (le (le (le (le (le (le (le N.size E.size) G.size) B.size) t.size) H.size) y.size) C.size) D) (e▸hx)) (aa (fun e=>(aA (ak ad) (le (le (le (le (le (le E.size G.size) B.size) t.size) H.size) y.size) C.size) D) (e▸hx)) (aa (fun e=>(aA (ak i) (le (le (le (le (le (le (le (le g.size N.size) E.size) G.size) B.size) t.size) H.size) y.size) C.size) D) (e▸hx)) ay)))) (fun _ _ h=>h))).rd,(fun _ _ _=>aK.nil ..),aK.nil ..,aK.nil ..,⟨(b8 (x:=c) (by omega)),(b8 (x:=0) (by omega)),(aC (x:=(ah.mk b false 0).wordV) (by omega)),(aC (x:=((ah.mk b false 0).wordsC 1).wordV) (by omega)),(aC (x:=0) (by omega)),(aC (x:=0) (by omega)),(aC (x:=0) (by omega)),(aC (x:=0) (by omega)),(aC (x:=0) (by omega)),(aC (x:=0) (by omega)),(aC (x:=0) (by omega)),(aC (x:=0) (by omega)),(b8 (x:=0) (by omega)),(b8 (x:=0) (by omega)),(b8 (x:=0) (by omega)),(b8 (x:=0) (by omega)),(b8 (x:=0) (by omega))⟩⟩ (ud bU bY r)
 have cL:=ap L
 refine sg<|Pl 1<|?_
 refine L0<|b6 (ub o i) mZ fun dY d0 d1=>Pl 1<|nt<|rt<|br<|tr<|bF d0 (.int .i64 4)<|?_
 have hs:ae aE 0 c b=(aP.zero,4):=by
   unfold ae aE cE cv ck eo jV fh jW jt jj d8 dK
   (try simp only[k,q,z,L,bs,if_true,if_false,decide_true,decide_false,eq_self,true_or,or_true,or_false,false_or,if_true,if_false,ch,cg,cc,bZ,reduceIte,dk])
   all_goals rfl
 rw[hs]
 exact bv (ud s d1 r)
theorem jM{m:Md}{A:Option Addr}{cp:Nat}{b:List Int}{w:World}{c:Int}(hcode:B8 c)(hsl:b9 m w (.slice A b.length cp) b)(hb:b.length≤1048576) :
    Calls Tryz.prog 93 #[.int .i64 1,.int .u8 c,.slice A b.length cp] w (d9 (.slice A b.length cp) b (ae aE 1 c b) w):=by
 obtain⟨hcode1,hcode2⟩:=hcode
 have hln:(b.length:Int)≤1048576:=by omega
 refine en 113 Tryz.func93 rfl<|sg<|L0<|bI mZ fun cN cP q h d=>Pl 1<|nt<|sq<|sg<|Pl 6<|nt<|c0<|?_
 refine bo<|sg<|Pl 2<|L0<|dz #[.slice A b.length cp,.int .i64 0,.bool false,.int .i64 0] fun j cQ a s g=>Pl 1<|ng<|Pl 2<|L0<|bI mZ fun cR cS f bu bw=>L0<|b6 bu (mC c) fun P Q bz=>?_
 refine nt<|sq<|sg<|Pl 1<|nt<|bk<|sq<|sg<|Pl 2<|nl<|?_
 refine tn<|?_
 have B:=ud bw bz f
 have l:=aH g B
 have r:=aH d l
 refine cb ((c==1)) (fun i=>?_) (fun i=>?_)
 have bB:=al i
 refine bo<|ct i<|sq<|sg<|Pl 2<|nt<|c0<|bo<|sg<|?_
 refine Pl 1<|?_
 have bC:RC w _ A cp b P j (ah.mk b false 0):=⟨hsl,r,(Nat.le_trans d.size a),⟨0,(ub B s),Nat.zero_le _,rfl⟩,by omega⟩
 refine L0<|Oc<|m3 (dG bC) fun cT bD bE cU=>L0<|Oi ((ah.mk b false 0).byteV)<|Pl 1<|ng<|Pl 4<|cu 3 [41] 44 (((decide (0<((ah.mk b false 0).byteV)))&&(decide (((ah.mk b false 0).byteV)≤250)))) (fun K am=>?_) ?_
 refine bl 41 ((decide (0<((ah.mk b false 0).byteV)))) (fun C=>?_) (fun C=>?_)
 have bG:=of_decide_eq_true C
 exact Pl 3<|ce am (decide (((ah.mk b false 0).byteV)≤250)) (by rw[C];rfl)
 have bG:=of_decide_eq_false C
 exact Pl 3<|ce am false (by rw[C];rfl)
 refine L0<|Oc<|m2 (aV (((decide (0<((ah.mk b false 0).byteV)))&&(decide (((ah.mk b false 0).byteV)≤250)))) 5 bD) fun cV bH bJ=>?_
 refine fj bH fun x43 an ao=>?_
 refine nt<|go<|Pl 2<|L0<|Oc<|nJ (fc (n:=(ah.mk b false 0).byteV) (by omega) ao) fun ar av cW bK bL bM=>?_
 have cX:=Nat.le_trans (ah.bytesR_le x43 ((ah.mk b false 0).byteV)) (RC.clen ao)
 refine Pl 1<|?_
 have aw:=u1 bE (u1 bJ bM im) im
 have Y:=nb (ak s) lr f
 refine L0<|bT (aU aw (Ne.symm Y) Q) 14 (mG c 0 0 0 0 0 0 0 0 0 0 0 nS nS (.slice ar ((x43.bytesR ((ah.mk b false 0).byteV)).length) av) nS 0 0 0 0 0 nS) fun cY bN ax=>nl<|bn<|tn<|sg<|Pl 1<|?_
 have Z:=us aw ax
 have az:=ut r Z (ac (ni d.size a) (ac (ni (le d.size g.size) f) aq))
 refine L0<|Oc<|m2 (dX (RC.upd bL ax (aa Y ay) az)) fun cZ a0 R=>nt<|sq<|sg<|Pl 3<|L0<|dU (p:=⟨j,3,none⟩) (v:=.int .i64 (((x43.bytesC ((ah.mk b false 0).byteV)).endC).e)) (RC.fld a0)<|Pl 1<|nt<|?_
 have aA:=ud az R (le d.size a)
 refine cb (((((x43.bytesC ((ah.mk b false 0).byteV)).endC).e)!=0)) (fun D=>?_) (fun D=>?_)
 have a1:=au D
 refine sq<|Rg 7 (fun w'=>w'.cell? ⟨j,3,none⟩=some (.int .i64 (((x43.bytesC ((ah.mk b false 0).byteV)).endC).e))) fun d0 S=>?_
 have aB:=RC.upd a0 S ay (aD.step (RC.u a0) S)
 refine bh (RC.fld aB) fun E=>Rt 0 E<|Rt 1 E<|Rt 2 E<|Rt 3 E<|Rl 4 E (fun _ hs=>hs)<|?_
 refine R0 5 rfl<|b6 (ub (ut l (u1 Z (aH R S) im) (ac (nr a) (ac (ni g.size f) aq))) h) mZ fun d1 bO aG=>?_
 have aI:=ud aA (uz S aG) q
 refine bh (RC.fld (RC.upd aB aG (aa (Ne.symm (nb (ak h) lr a)) ay) aI)) fun bP=>Rt 6 bP<|re<|tn<|rt<|tr<|bF bO (.int .i64 (((x43.bytesC ((ah.mk b false 0).byteV)).endC).e))<|?_
 have hs:ae aE 1 c b=aF (aP.mk c 0 0 0 0 0 0 0 0 0 0 0 [] [] (x43.bytesR ((ah.mk b false 0).byteV)) [] 0 0 0 0 0 []) (x43.bytesC ((ah.mk b false 0).byteV)):=by
   subst an
   unfold ae aE cE cv ck eo jV fh jW jt jj d8 dK
   (try simp only[i,D,bs,if_true,if_false,decide_true,decide_false,eq_self,true_or,or_true,or_false,false_or,if_true,if_false,ch,cg,cc,bZ,reduceIte,dk])
   all_goals rfl
 rw[hs]
 exact bg a1 aI
 have a1:=ai D
 refine bo<|sg<|?_
 refine L0<|cl (aU R (Ne.symm Y) bN)<|?_
 refine L0<|b6 (ub (ut l (u1 Z R im) (ac (nr a) (ac (ni g.size f) aq))) h) (mG c 0 0 0 0 0 0 0 0 0 0 0 nS nS (.slice ar ((x43.bytesR ((ah.mk b false 0).byteV)).length) av) nS 0 0 0 0 0 nS) fun d2 bQ bS=>Pl 1<|nt<|rt<|bF bQ (.int .i64 0)<|?_
 have hs:ae aE 1 c b=aF (aP.mk c 0 0 0 0 0 0 0 0 0 0 0 [] [] (x43.bytesR ((ah.mk b false 0).byteV)) [] 0 0 0 0 0 []) (x43.bytesC ((ah.mk b false 0).byteV)):=by
   subst an
   unfold ae aE cE cv ck eo jV fh jW jt jj d8 dK
   (try simp only[i,D,bs,if_true,if_false,decide_true,decide_false,eq_self,true_or,or_true,or_false,false_or,if_true,if_false,ch,cg,cc,bZ,reduceIte,dk])
   all_goals rfl
 rw[hs]
 exact bj a1 ⟨_,_,_,_,_,rfl,aK.nil ..,aK.nil ..,bK,aK.nil ..,aK.nil ..,⟨(b8 (x:=c) (by omega)),(b8 (x:=0) (by omega)),(aC (x:=0) (by omega)),(aC (x:=0) (by omega)),(aC (x:=0) (by omega)),(aC (x:=0) (by omega)),(aC (x:=0) (by omega)),(aC (x:=0) (by omega)),(aC (x:=0) (by omega)),(aC (x:=0) (by omega)),(aC (x:=0) (by omega)),(aC (x:=0) (by omega)),(b8 (x:=0) (by omega)),(b8 (x:=0) (by omega)),(b8 (x:=0) (by omega)),(b8 (x:=0) (by omega)),(b8 (x:=0) (by omega))⟩⟩ (ud aA bS q)
 have bB:=ap i
 refine go<|Pl 2<|nt<|cb ((c==2)) (fun o=>?_) (fun o=>?_)
 have bU:=al o
 refine sq<|sg<|Pl 2<|nt<|c0<|bo<|sg<|Pl 1<|?_
 have bV:RC w _ A cp b P j (ah.mk b false 0):=⟨hsl,r,(Nat.le_trans d.size a),⟨0,(ub B s),Nat.zero_le _,rfl⟩,by omega⟩
 refine L0<|Oc<|m3 (dG bV) fun d3 bW bX d4=>L0<|Oi ((ah.mk b false 0).byteV)<|Pl 1<|ng<|Pl 4<|cu 3 [41] 44 (((decide (0<((ah.mk b false 0).byteV)))&&(decide (((ah.mk b false 0).byteV)≤250)))) (fun K aJ=>?_) ?_
 refine bl 41 ((decide (0<((ah.mk b false 0).byteV)))) (fun F=>?_) (fun F=>?_)
 have bY:=of_decide_eq_true F
 exact Pl 3<|ce aJ (decide (((ah.mk b false 0).byteV)≤250)) (by rw[F];rfl)
 have bY:=of_decide_eq_false F
 exact Pl 3<|ce aJ false (by rw[F];rfl)
 refine L0<|Oc<|m2 (aV (((decide (0<((ah.mk b false 0).byteV)))&&(decide (((ah.mk b false 0).byteV)≤250)))) 5 bW) fun d5 c2 c3=>?_
 refine fj c2 fun k aL aM=>?_
 refine nt<|go<|Pl 2<|L0<|Oc<|nJ (fc (n:=(ah.mk b false 0).byteV) (by omega) aM) fun aN aO d6 c4 c5 c6=>?_
 have d7:=Nat.le_trans (ah.bytesR_le k ((ah.mk b false 0).byteV)) (RC.clen aM)
 refine Pl 1<|?_
 have aQ:=u1 bX (u1 c3 c6 im) im
 have a2:=nb (ak s) lr f
 refine L0<|bT (aU aQ (Ne.symm a2) Q) 14 (mG c 0 0 0 0 0 0 0 0 0 0 0 nS nS (.slice aN ((k.bytesR ((ah.mk b false 0).byteV)).length) aO) nS 0 0 0 0 0 nS) fun da c7 aS=>nl<|bn<|tn<|sg<|Pl 1<|?_
 have a3:=us aQ aS
 have aT:=ut r a3 (ac (ni d.size a) (ac (ni (le d.size g.size) f) aq))
 refine L0<|Oc<|m2 (dX (RC.upd c5 aS (aa a2 ay) aT)) fun db a4 T=>nt<|sq<|sg<|Pl 3<|L0<|dU (p:=⟨j,3,none⟩) (v:=.int .i64 (((k.bytesC ((ah.mk b false 0).byteV)).endC).e)) (RC.fld a4)<|Pl 1<|nt<|?_
 have aW:=ud aT T (le d.size a)
 refine cb (((((k.bytesC ((ah.mk b false 0).byteV)).endC).e)!=0)) (fun G=>?_) (fun G=>?_)
 have a5:=au G
 refine sq<|Rg 7 (fun w'=>w'.cell? ⟨j,3,none⟩=some (.int .i64 (((k.bytesC ((ah.mk b false 0).byteV)).endC).e))) fun dc U=>?_
 have aX:=RC.upd a4 U ay (aD.step (RC.u a4) U)
 refine bh (RC.fld aX) fun H=>Rt 0 H<|Rt 1 H<|Rt 2 H<|Rt 3 H<|Rl 4 H (fun _ hs=>hs)<|?_
 refine R0 5 rfl<|b6 (ub (ut l (u1 a3 (aH T U) im) (ac (nr a) (ac (ni g.size f) aq))) h) mZ fun dd c8 aY=>?_
 have aZ:=ud aW (uz U aY) q
 refine bh (RC.fld (RC.upd aX aY (aa (Ne.symm (nb (ak h) lr a)) ay) aZ)) fun c9=>Rt 6 c9<|re<|tn<|rt<|tr<|bF c8 (.int .i64 (((k.bytesC ((ah.mk b false 0).byteV)).endC).e))<|?_
 have hs:ae aE 1 c b=aF (aP.mk c 0 0 0 0 0 0 0 0 0 0 0 [] [] (k.bytesR ((ah.mk b false 0).byteV)) [] 0 0 0 0 0 []) (k.bytesC ((ah.mk b false 0).byteV)):=by
   subst aL
   unfold ae aE cE cv ck eo jV fh jW jt jj d8 dK
   (try simp only[i,o,G,bs,if_true,if_false,decide_true,decide_false,eq_self,true_or,or_true,or_false,false_or,if_true,if_false,ch,cg,cc,bZ,reduceIte,dk])
   all_goals rfl
 rw[hs]
 exact bg a5 aZ
 have a5:=ai G
 refine bo<|sg<|?_
 refine L0<|cl (aU T (Ne.symm a2) c7)<|?_
 refine L0<|b6 (ub (ut l (u1 a3 T im) (ac (nr a) (ac (ni g.size f) aq))) h) (mG c 0 0 0 0 0 0 0 0 0 0 0 nS nS (.slice aN ((k.bytesR ((ah.mk b false 0).byteV)).length) aO) nS 0 0 0 0 0 nS) fun de ca cd=>Pl 1<|nt<|rt<|bF ca (.int .i64 0)<|?_
 have hs:ae aE 1 c b=aF (aP.mk c 0 0 0 0 0 0 0 0 0 0 0 [] [] (k.bytesR ((ah.mk b false 0).byteV)) [] 0 0 0 0 0 []) (k.bytesC ((ah.mk b false 0).byteV)):=by
   subst aL
   unfold ae aE cE cv ck eo jV fh jW jt jj d8 dK
   (try simp only[i,o,G,bs,if_true,if_false,decide_true,decide_false,eq_self,true_or,or_true,or_false,false_or,if_true,if_false,ch,cg,cc,bZ,reduceIte,dk])
   all_goals rfl
 rw[hs]
 exact bj a5 ⟨_,_,_,_,_,rfl,aK.nil ..,aK.nil ..,c4,aK.nil ..,aK.nil ..,⟨(b8 (x:=c) (by omega)),(b8 (x:=0) (by omega)),(aC (x:=0) (by omega)),(aC (x:=0) (by omega)),(aC (x:=0) (by omega)),(aC (x:=0) (by omega)),(aC (x:=0) (by omega)),(aC (x:=0) (by omega)),(aC (x:=0) (by omega)),(aC (x:=0) (by omega)),(aC (x:=0) (by omega)),(aC (x:=0) (by omega)),(b8 (x:=0) (by omega)),(b8 (x:=0) (by omega)),(b8 (x:=0) (by omega)),(b8 (x:=0) (by omega)),(b8 (x:=0) (by omega))⟩⟩ (ud aW cd q)
 have bU:=ap o
 refine sg<|Pl 2<|nt<|cb ((c==5)) (fun t=>?_) (fun t=>?_)
 have cf:=al t
 refine sg<|Pl 1<|?_
 have ci:RC w _ A cp b P j (ah.mk b false 0):=⟨hsl,r,(Nat.le_trans d.size a),⟨0,(ub B s),Nat.zero_le _,rfl⟩,by omega⟩
 refine L0<|Oc<|m3 (cO ci) fun df cj b0 dg=>Pl 1<|?_
 have I:=nb (ak s) lr f
 refine L0<|bT (aU b0 (Ne.symm I) Q) 2 (mG c 0 ((ah.mk b false 0).wordV) 0 0 0 0 0 0 0 0 0 nS nS nS nS 0 0 0 0 0 nS) fun dh cm b1=>ng<|Pl 1<|?_
 have a6:=us b0 b1
 have b2:=ut r a6 (ac (ni d.size a) (ac (ni (le d.size g.size) f) aq))
 refine L0<|Oc<|m3 (cO (RC.upd cj b1 (aa I ay) b2)) fun di cn b3 dj=>Pl 1<|?_
 refine L0<|bT (aU b3 (Ne.symm I) cm) 4 (mG c 0 ((ah.mk b false 0).wordV) 0 (((ah.mk b false 0).wordsC 1).wordV) 0 0 0 0 0 0 0 nS nS nS nS 0 0 0 0 0 nS) fun dl a7 b4=>nt<|go<|Pl 2<|L0<|aR a7 4<|Pl 2<|cu 4 [62] 66 ((((((ah.mk b false 0).wordsC 1).wordV)==0)||((((ah.mk b false 0).wordsC 1).wordV)==65280))) (fun K b5=>?_) ?_
 refine bl 62 (((((ah.mk b false 0).wordsC 1).wordV)==0)) (fun J=>?_) (fun J=>?_)
 have co:=al J
 exact Pl 4<|ce b5 true (by rw[J];rfl)
 have co:=ap J
 exact Pl 1<|L1<|aR a7 4<|Pl 2<|ce b5 ((((ah.mk b false 0).wordsC 1).wordV)==65280) (by rw[J];rfl)
 have a8:=us b3 b4
 have b7:=ut b2 a8 (ac (ni d.size a) (ac (ni (le d.size g.size) f) aq))
 refine L0<|Oc<|m2 (aV ((((((ah.mk b false 0).wordsC 1).wordV)==0)||((((ah.mk b false 0).wordsC 1).wordV)==65280))) 6 (RC.upd cn b4 (aa I ay) b7)) fun dm cq cr=>?_
 refine fj cq fun y ba cs=>?_
 refine nl<|bn<|tn<|sg<|Pl 1<|L0<|Oc<|m2 (dX cs) fun dn a9 cw=>nt<|sq<|sg<|Pl 3<|L0<|dU (p:=⟨j,3,none⟩) (v:=.int .i64 y.endC.e) (RC.fld a9)<|?_
 refine Pl 1<|nt<|?_
 have V:=u1 cr cw im
 have bb:=ud b7 V (le d.size a)
 refine cb ((y.endC.e != 0)) (fun L=>?_) (fun L=>?_)
 have ab:=au L
 refine sq<|Rg 7 (fun w'=>w'.cell? ⟨j,3,none⟩=some (.int .i64 y.endC.e)) fun dp W=>?_
 have bc:=RC.upd a9 W ay (aD.step (RC.u a9) W)
 refine bh (RC.fld bc) fun M=>Rt 0 M<|Rt 1 M<|Rt 2 M<|Rt 3 M<|Rl 4 M (fun _ hs=>hs)<|?_
 refine R0 5 rfl<|b6 (ub (ut l (ut a6 (u1 a8 (aH V W) im) (ac im (ac im aq))) (ac (nr a) (ac (ni g.size f) aq))) h) mZ fun dq cx bd=>?_
 have be:=ud bb (uz W bd) q
 refine bh (RC.fld (RC.upd bc bd (aa (Ne.symm (nb (ak h) lr a)) ay) be)) fun cy=>Rt 6 cy<|re<|tn<|rt<|tr<|bF cx (.int .i64 y.endC.e)<|?_
 have hs:ae aE 1 c b=aF (aP.mk c 0 ((ah.mk b false 0).wordV) 0 (((ah.mk b false 0).wordsC 1).wordV) 0 0 0 0 0 0 0 [] [] [] [] 0 0 0 0 0 []) y:=by
   subst ba
   unfold ae aE cE cv ck eo jV fh jW jt jj d8 dK
   (try simp only[i,o,t,L,bs,if_true,if_false,decide_true,decide_false,eq_self,true_or,or_true,or_false,false_or,if_true,if_false,ch,cg,cc,bZ,reduceIte,dk])
   all_goals rfl
 rw[hs]
 exact bg ab be
 have ab:=ai L
 refine bo<|sg<|?_
 refine L0<|cl (aU V (Ne.symm I) a7)<|?_
 refine L0<|b6 (ub (ut l (ut a6 (u1 a8 V im) (ac im (ac im aq))) (ac (nr a) (ac (ni g.size f) aq))) h) (mG c 0 ((ah.mk b false 0).wordV) 0 (((ah.mk b false 0).wordsC 1).wordV) 0 0 0 0 0 0 0 nS nS nS nS 0 0 0 0 0 nS) fun dr cz cA=>Pl 1<|nt<|rt<|bF cz (.int .i64 0)<|?_
 have hs:ae aE 1 c b=aF (aP.mk c 0 ((ah.mk b false 0).wordV) 0 (((ah.mk b false 0).wordsC 1).wordV) 0 0 0 0 0 0 0 [] [] [] [] 0 0 0 0 0 []) y:=by
   subst ba
   unfold ae aE cE cv ck eo jV fh jW jt jj d8 dK
   (try simp only[i,o,t,L,bs,if_true,if_false,decide_true,decide_false,eq_self,true_or,or_true,or_false,false_or,if_true,if_false,ch,cg,cc,bZ,reduceIte,dk])
   all_goals rfl
 rw[hs]
 exact bj ab ⟨_,_,_,_,_,rfl,aK.nil ..,aK.nil ..,(fun _ _ _=>aK.nil ..),aK.nil ..,aK.nil ..,⟨(b8 (x:=c) (by omega)),(b8 (x:=0) (by omega)),(aC (x:=(ah.mk b false 0).wordV) (by omega)),(aC (x:=0) (by omega)),(aC (x:=((ah.mk b false 0).wordsC 1).wordV) (by omega)),(aC (x:=0) (by omega)),(aC (x:=0) (by omega)),(aC (x:=0) (by omega)),(aC (x:=0) (by omega)),(aC (x:=0) (by omega)),(aC (x:=0) (by omega)),(aC (x:=0) (by omega)),(b8 (x:=0) (by omega)),(b8 (x:=0) (by omega)),(b8 (x:=0) (by omega)),(b8 (x:=0) (by omega)),(b8 (x:=0) (by omega))⟩⟩ (ud bb cA q)
 have cf:=ap t
 refine sg<|Pl 2<|nt<|cb ((c==15)) (fun z=>?_) (fun z=>?_)
 have cB:=al z
 refine sg<|Pl 1<|?_
 have ad:RC w _ A cp b P j (ah.mk b false 0):=⟨hsl,r,(Nat.le_trans d.size a),⟨0,(ub B s),Nat.zero_le _,rfl⟩,by omega⟩
 have bf:=nb (ak s) lr f
 refine L0<|Oc<|m3 (ma (most:=1968) (b8 (by omega)) ad Q (Nat.le_trans (le d.size g.size) f) bf) fun ds cC cD cF=>?_
 have dt:=bR (RC.rng ad)
 have du:=bR (c:=(ah.mk b false 0).wordsC 1) (cI (RC.rng ad) 1)
 refine nt<|sq<|sg<|Pl 2<|nt<|c1<|xt<|tx<|bx<|tn<|sq<|?_
 refine go<|Pl 1<|L0<|Oc<|m2 (dX cC) fun dv af bi=>nt<|sq<|sg<|Pl 3<|L0<|dU (p:=⟨j,3,none⟩) (v:=.int .i64 (((bA (ah.mk b false 0) 1968).endC).e)) (RC.fld af)<|Pl 1<|nt<|?_
 have ag:=u1 cF bi im
 have bm:=ut r ag (ac (ni d.size a) (ac (ni (le d.size g.size) f) aq))
 refine cb (((((bA (ah.mk b false 0) 1968).endC).e)!=0)) (fun N=>?_) (fun N=>?_)
 have aj:=au N
 refine sq<|Rg 7 (fun w'=>w'.cell? ⟨j,3,none⟩=some (.int .i64 (((bA (ah.mk b false 0) 1968).endC).e))) fun dw X=>?_
 have bp:=RC.upd af X ay (aD.step (RC.u af) X)
 refine bh (RC.fld bp) fun O=>Rt 0 O<|Rt 1 O<|Rt 2 O<|Rt 3 O<|Rl 4 O (fun _ hs=>hs)<|?_
 refine R0 5 rfl<|b6 (ub (ut l (aH ag X) (ac (nr a) (ac (ni g.size f) aq))) h) mZ fun dx cG bq=>?_
 have bt:=ud bm (uz X bq) q
 refine bh (RC.fld (RC.upd bp bq (aa (Ne.symm (nb (ak h) lr a)) ay) bt)) fun cH=>Rt 6 cH<|re<|tn<|rt<|tr<|bF cG (.int .i64 (((bA (ah.mk b false 0) 1968).endC).e))<|?_
 have hs:ae aE 1 c b=aF (aP.mk c 0 ((ah.mk b false 0).wordV) (((ah.mk b false 0).wordsC 1).wordV) 0 0 0 0 0 0 0 0 [] [] [] [] 0 0 0 0 0 []) (bA (ah.mk b false 0) 1968):=by
   unfold ae aE cE cv ck eo jV fh jW jt jj d8 dK
   (try simp only[i,o,t,z,N,bs,if_true,if_false,decide_true,decide_false,eq_self,true_or,or_true,or_false,false_or,if_true,if_false,ch,cg,cc,bZ,reduceIte,dk])
   all_goals rfl
 rw[hs]
 exact bg aj bt
 have aj:=ai N
 refine bo<|sg<|?_
 refine L0<|cl (aU bi (Ne.symm bf) cD)<|?_
 refine L0<|b6 (ub (ut l ag (ac (nr a) (ac (ni g.size f) aq))) h) (mG c 0 ((ah.mk b false 0).wordV) (((ah.mk b false 0).wordsC 1).wordV) 0 0 0 0 0 0 0 0 nS nS nS nS 0 0 0 0 0 nS) fun dy cJ cK=>Pl 1<|nt<|rt<|bF cJ (.int .i64 0)<|?_
 have hs:ae aE 1 c b=aF (aP.mk c 0 ((ah.mk b false 0).wordV) (((ah.mk b false 0).wordsC 1).wordV) 0 0 0 0 0 0 0 0 [] [] [] [] 0 0 0 0 0 []) (bA (ah.mk b false 0) 1968):=by
   unfold ae aE cE cv ck eo jV fh jW jt jj d8 dK
   (try simp only[i,o,t,z,N,bs,if_true,if_false,decide_true,decide_false,eq_self,true_or,or_true,or_false,false_or,if_true,if_false,ch,cg,cc,bZ,reduceIte,dk])
   all_goals rfl
 rw[hs]
 exact bj aj ⟨_,_,_,_,_,rfl,aK.nil ..,aK.nil ..,(fun _ _ _=>aK.nil ..),aK.nil ..,aK.nil ..,⟨(b8 (x:=c) (by omega)),(b8 (x:=0) (by omega)),(aC (x:=(ah.mk b false 0).wordV) (by omega)),(aC (x:=((ah.mk b false 0).wordsC 1).wordV) (by omega)),(aC (x:=0) (by omega)),(aC (x:=0) (by omega)),(aC (x:=0) (by omega)),(aC (x:=0) (by omega)),(aC (x:=0) (by omega)),(aC (x:=0) (by omega)),(aC (x:=0) (by omega)),(aC (x:=0) (by omega)),(b8 (x:=0) (by omega)),(b8 (x:=0) (by omega)),(b8 (x:=0) (by omega)),(b8 (x:=0) (by omega)),(b8 (x:=0) (by omega))⟩⟩ (ud bm cK q)
 have cB:=ap z
 refine sg<|Pl 1<|?_
 refine L0<|b6 (ub l h) mZ fun dA cL cM=>Pl 1<|nt<|rt<|br<|tr<|bF cL (.int .i64 4)<|?_
 have hs:ae aE 1 c b=(aP.zero,4):=by
   unfold ae aE cE cv ck eo jV fh jW jt jj d8 dK
   (try simp only[i,o,t,z,bs,if_true,if_false,decide_true,decide_false,eq_self,true_or,or_true,or_false,false_or,if_true,if_false,ch,cg,cc,bZ,reduceIte,dk])
   all_goals rfl
 rw[hs]
 exact bv (ud r cM q)
theorem jk{m:Md}{A:Option Addr}{cp:Nat}{b:List Int}{w:World}{dir c:Int}(hcode:B8 c)(hsl:b9 m w (.slice A b.length cp) b)(hb:b.length≤1048576)(hd:¬ (dir=0∨dir=1)) :
    Calls Tryz.prog 93 #[.int .i64 dir,.int .u8 c,.slice A b.length cp] w (d9 (.slice A b.length cp) b (ae aE dir c b) w):=by
 obtain⟨hcode1,hcode2⟩:=hcode
 have hln:(b.length:Int)≤1048576:=by omega
 have e0:(dir != 0)=true:=by simp;omega
 have e1:(dir != 1)=true:=by simp;omega
 refine en 113 Tryz.func93 rfl<|sg<|L0<|bI mZ fun g h a d e=>Pl 1<|nt<|sq<|sg<|Pl 3<|sy 16 e0<|Pl 3<|nl<|?_
 refine tn<|ct e1<|sg<|Pl 1<|L0<|b6 d mZ fun i dm f=>Pl 1<|nt<|rt<|tr<|bF dm (.int .i64 1)<|?_
 have hs:ae aE dir c b=(aP.zero,1):=by
   unfold ae aE cE cv ck eo jV fh jW jt jj d8 dK
   (try simp only[e0,e1,bs,if_true,if_false,decide_true,decide_false,eq_self,true_or,or_true,or_false,false_or,if_true,if_false,ch,cg,cc,bZ,reduceIte,hd,dk])
   all_goals rfl
 rw[hs]
 exact bv (ud e f a)
open Go.RowKit
theorem gn{C:ah}(h:ia C){b:Bool}{x:Int}:ia (C.need b x):=fun y hy=>h y (by rwa [jr] at hy)
theorem gE{C:ah}(h:ia C){n:Int}:ia (C.bytesC n):=gY h n
theorem kQ{C:ah}(h:ia C){n:Int}:ia (C.wordsC n):=cI h n
theorem u7(C:ah)(x:Int) : (C.bytesC 1).need (!(C.bytesC 1).sh) x=C.bytesC 1:=by
  by_cases hf:C.fails 1=true
  · exact dS (eJ hf)
  · have h:(C.bytesC 1).sh=false:=by
      unfold ah.bytesC
      rw[if_neg hf]
      unfold ah.fails at hf
      simp only[Bool.or_eq_true,decide_eq_true_eq,not_or] at hf
      show C.sh=false
      simpa using hf.1.1
    rw[h]
    unfold ah.need
    rw[if_neg (by rintro⟨_,h⟩;cases h)]
theorem ro{v:Int}(h:0≤v) : decide (0<v)=(v != 0):=by
  rw[Bool.eq_iff_iff]
  simp only[decide_eq_true_eq,bne_iff_ne,ne_eq]
  omega
def wx (C:ah) : ah:=((C.bytesC 1).need (!(C.bytesC 1).sh) 5).need (C.byteV==6) 9
def wv (C:ah) : ah:=((wx C).wordsC 1).need (decide (0<(wx C).wordV)) 6
def wu (C:ah) : ah:=((wv C).wordsC 1).need (decide ((wv C).wordV≤9999)) 7
def sm (C:ah) : ah:=((wu C).wordsC 1).need (decide (0<(wu C).wordV)) 5
theorem sl(C:ah) : wx C=hH C:=by unfold wx hH;rw[u7]
theorem pj{C:ah}(h:ia C) : ia (hH C):=gn (gE h)
theorem sC{C:ah}(h:ia C) : wv C=hY C:=by unfold wv hY;rw[sl,ro (bR (pj h)).1]
theorem tP{C:ah}(h:ia C) : ia (hY C):=gn (kQ (pj h))
theorem rX{C:ah}(h:ia C) : wu C=mj C:=by unfold wu mj;rw[sC h]
theorem ua{C:ah}(h:ia C) : ia (mj C):=gn (kQ (tP h))
theorem pq{C:ah}(h:ia C) : sm C=dy C:=by unfold sm dy;rw[rX h,ro (bR (ua h)).1]
theorem uM{C:ah}(h:C.e≠0) : C.endC=C:=by unfold ah.endC;exact dS h
theorem vE{b:List Int}(h:b.length≠0) : (ah.mk b false 0).byteV=b.getD 0 0∧(ah.mk b false 0).bytesC 1=⟨b.drop 1,false,0⟩:=by
  have hf:¬ (ah.mk b false 0).fails 1=true:=by
    unfold ah.fails
    simp only[Bool.or_eq_true,decide_eq_true_eq,not_or]
    exact⟨⟨by decide,by decide⟩,by omega⟩
  constructor
  · unfold ah.byteV ah.bytesR
    rw[if_neg hf]
    rcases b with _|⟨x,t⟩
    · exact absurd rfl h
    · rfl
  · unfold ah.bytesC
    rw[if_neg hf]
    rfl
def cR (b:List Int)(n:Int) : List Int:=(b.take (n+1).toNat).drop 1
def dr (one:Int→ah→Int × ah × dl)(c:Int)(b:List Int) : aP × Int :=
  if (aN one (cR b (b.getD 0 0)).length 0 ⟨cR b (b.getD 0 0),false,0⟩ []).1.e != 0 then (aP.zero,bp (aN one (cR b (b.getD 0 0)).length 0 ⟨cR b (b.getD 0 0),false,0⟩ []).1.e)
  else if decide (b.getD 0 0+1<(b.length:Int)) then (aP.zero,3)
  else ({ aP.zero with code:=c,recs:=(aN one (cR b (b.getD 0 0)).length 0 ⟨cR b (b.getD 0 0),false,0⟩ []).2 },0)
def bH (one:Int→ah→Int × ah × dl)(may:Int→Bool)(c:Int)(b:List Int) : aP × Int :=
  if (b.length:Int)==0 then (aP.zero,2)
  else if !(may (b.getD 0 0)) then (aP.zero,5)
  else if decide ((b.length:Int)<b.getD 0 0+1) then (aP.zero,2)
  else dr one c b
theorem j9{M:aP}{C:ah}(h:C.e≠0) : aF M C=(aP.zero,C.e):=by
  unfold aF
  rw[uM h,if_neg h]
theorem iA{one:Int→ah→Int × ah × dl}{may:Int→Bool}{c:Int}{b:List Int}(hr:∀ x,x∈b→0≤x∧x<256) : aF (dJ one may c ⟨b,false,0⟩).2 (dJ one may c ⟨b,false,0⟩).1=bH one may c b:=by
  unfold bH
  by_cases h0:b.length=0
  · rw[if_pos (by rw[beq_iff_eq];omega)]
    obtain rfl:=List.eq_nil_of_length_eq_zero h0
    have e1:(jX may ⟨[],false,0⟩).e=2:=by
      unfold jX
      rw[dS (eJ (by decide))]
      rfl
    have e2:((jX may ⟨[],false,0⟩).bytesC (ah.mk [] false 0).byteV).e=2:=by
      have hs:(jX may ⟨[],false,0⟩).sh=true:=by
        unfold jX
        rw[dS (eJ (by decide))]
        rfl
      unfold ah.bytesC
      rw[if_pos (by unfold ah.fails;rw[hs];rfl),dS (by show(jX may ⟨[],false,0⟩).e≠0;rw[e1];decide)]
      exact e1
    unfold dJ
    dsimp only
    rw[dS (by rw[e2];decide),j9 (by rw[e2];decide),e2]
  rw[if_neg (by rw[beq_iff_eq];omega)]
  obtain⟨e1,e2⟩:=vE h0
  have hn:0≤b.getD 0 0∧b.getD 0 0<256:=by
    rcases b with _|⟨x,t⟩
    · exact absurd rfl h0
    · exact hr x (by simp)
  by_cases hm:may (b.getD 0 0)=true
  · rw[if_neg (by rw[hm];decide)]
    have e3:jX may ⟨b,false,0⟩=⟨b.drop 1,false,0⟩:=by
      unfold jX
      rw[e1,e2,hm]
      rfl
    by_cases hs:(b.length:Int)<b.getD 0 0+1
    · rw[if_pos (by simpa using hs)]
      have hf:(ah.mk (b.drop 1) false 0).fails (b.getD 0 0)=true:=by
        unfold ah.fails
        simp only[Bool.or_eq_true,decide_eq_true_eq,List.length_drop]
        exact .inr (by omega)
      have e4:(jX may ⟨b,false,0⟩).bytesC (ah.mk b false 0).byteV=⟨[],true,2⟩:=by
        rw[e1,e3]
        unfold ah.bytesC
        rw[if_pos hf]
        rfl
      unfold dJ
      dsimp only
      rw[e4,dS (by decide),j9 (by decide)]
    · rw[if_neg (by simpa using hs)]
      have hf:¬ (ah.mk (b.drop 1) false 0).fails (b.getD 0 0)=true:=by
        unfold ah.fails
        simp only[Bool.or_eq_true,decide_eq_true_eq,List.length_drop,not_or]
        exact⟨⟨by decide,by omega⟩,by omega⟩
      have e4:(jX may ⟨b,false,0⟩).bytesC (ah.mk b false 0).byteV=⟨(b.drop 1).drop (b.getD 0 0).toNat,false,0⟩:=by
        rw[e1,e3]
        unfold ah.bytesC
        rw[if_neg hf]
      have e5:sU may ⟨b,false,0⟩=⟨cR b (b.getD 0 0),false,0⟩:=by
        unfold sU cR
        rw[e1,e3]
        unfold ah.bytesR
        rw[if_neg hf,show(b.getD 0 0+1).toNat=1+(b.getD 0 0).toNat from by omega,List.drop_take]
        rw[show 1+(b.getD 0 0).toNat-1=(b.getD 0 0).toNat from by omega]
      unfold dJ dr sW
      dsimp only
      rw[e4,e5]
      by_cases hz:(aN one (cR b (b.getD 0 0)).length 0 ⟨cR b (b.getD 0 0),false,0⟩ []).1.e=0
      · rw[hz,if_neg (by decide)]
        have e6:(ah.mk ((b.drop 1).drop (b.getD 0 0).toNat) false 0).need ((0:Int)==0) (bp 0)=⟨(b.drop 1).drop (b.getD 0 0).toNat,false,0⟩:=rfl
        rw[e6]
        by_cases hl:b.getD 0 0+1<(b.length:Int)
        · rw[if_pos (by simpa using hl)]
          have e7:(ah.mk ((b.drop 1).drop (b.getD 0 0).toNat) false 0).endC=⟨(b.drop 1).drop (b.getD 0 0).toNat,false,3⟩:=by
            unfold ah.endC ah.need
            rw[if_pos ⟨rfl,by rw[beq_eq_false_iff_ne];simp only[List.length_drop];omega⟩]
          unfold aF
          rw[e7,if_neg (show ¬ (3:Int)=0 from by decide)]
        · rw[if_neg (by simpa using hl)]
          have e7:(ah.mk ((b.drop 1).drop (b.getD 0 0).toNat) false 0).endC=⟨(b.drop 1).drop (b.getD 0 0).toNat,false,0⟩:=by
            unfold ah.endC ah.need
            rw[if_neg (by rintro⟨_,h⟩;rw[beq_eq_false_iff_ne] at h;simp only[List.length_drop] at h;omega)]
          unfold aF
          rw[e7,if_pos rfl]
      · rw[if_pos (by simpa using hz)]
        have hw:bp (aN one (cR b (b.getD 0 0)).length 0 ⟨cR b (b.getD 0 0),false,0⟩ []).1.e≠0:=by
          unfold bp
          split
          · decide
          · exact hz
        have e6:(ah.mk ((b.drop 1).drop (b.getD 0 0).toNat) false 0).need ((aN one (cR b (b.getD 0 0)).length 0 ⟨cR b (b.getD 0 0),false,0⟩ []).1.e==0) (bp (aN one (cR b (b.getD 0 0)).length 0 ⟨cR b (b.getD 0 0),false,0⟩ []).1.e)=⟨(b.drop 1).drop (b.getD 0 0).toNat,false,bp (aN one (cR b (b.getD 0 0)).length 0 ⟨cR b (b.getD 0 0),false,0⟩ []).1.e⟩:=by
          unfold ah.need
          rw[if_pos ⟨rfl,by simpa using hz⟩]
        rw[e6,j9 hw]
  · have hm:may (b.getD 0 0)=false:=by simpa using hm
    rw[if_pos (by rw[hm];rfl)]
    have e3:jX may ⟨b,false,0⟩=⟨b.drop 1,false,5⟩:=by
      unfold jX
      rw[e1,e2,hm]
      rfl
    have e4:((jX may ⟨b,false,0⟩).bytesC (ah.mk b false 0).byteV).e=5:=by
      rw[e3]
      unfold ah.bytesC
      split
      · rfl
      · rfl
    unfold dJ
    dsimp only
    rw[dS (by rw[e4];decide),j9 (by rw[e4];decide),e4]
theorem nT{b:List Int}(hr:∀ x,x∈b→0≤x∧x<256) : ae aZ 0 20 b=bH cM ed 20 b:=iA hr
theorem oc{b:List Int}(hr:∀ x,x∈b→0≤x∧x<256) : ae aZ 1 20 b=bH bG ef 20 b:=iA hr
theorem rS{dir:Int}{b:List Int}(hd:dir=0∨dir=1)(hr:∀ x,x∈b→0≤x∧x<256) : ae aZ dir 21 b=bH cN ec 21 b:=by
  unfold ae
  rw[if_pos hd]
  exact iA hr
theorem u5:∀ n:Nat,n<256→(decide (1≤(n:Int)%128)&&decide ((n:Int)%128≤3))=bY (n:Int):=by decide +kernel
theorem we{x:Int}(h:0≤x∧x<256) : (decide (1≤x%128)&&decide (x%128≤3))=bY x:=by
  obtain⟨n,rfl⟩:=Int.eq_ofNat_of_zero_le h.1
  exact u5 n (by omega)
theorem uT{x:Int}:(decide (0<x)&&decide (x<5))=(decide (1≤x)&&decide (x≤4)):=by
  rw[Bool.eq_iff_iff]
  simp only[Bool.and_eq_true,decide_eq_true_eq]
  omega
def dY (C:ah) : ah:=((dq C).bytesC 1).need (decide (0<(dq C).byteV)&&decide ((dq C).byteV<5)) 6
theorem sj(C:ah) : dY C=fI C:=by unfold dY fI;rw[uT]
def et (C:ah) : ah:=(C.bytesC 1).need (decide (1≤C.byteV%128)&&decide (C.byteV%128≤3)) 6
def eX (C:ah) : ah:=((et C).bytesC 1).need ((et C).byteV==0 || (et C).byteV==255) 6
def eW (C:ah) : ah:=((eX C).bytesC 1).need ((eX C).byteV==0 || (et C).byteV==255) 6
def fF (kd:Int)(C:ah) : ah:=((eW C).bytesC 1).need ((eW C).byteV==1 || kd != 4) 5
def db (kd:Int)(C:ah) : ah × List Obj:=eh (eW C).byteV.toNat (fF kd C) []
theorem jI{C:ah}(h:ia C) : et C=kG C:=by unfold et kG;rw[we (gX h)]
theorem nA{C:ah}(h:ia C) : eX C=kB C:=by unfold eX kB;rw[jI h]
theorem rC{C:ah}(h:ia C) : eW C=rD C:=by
  unfold eW rD
  rw[nA h,jI h]
  by_cases e:((kB C).bytesC 1).e=0
  · have h1:=(nz e).1
    unfold kB at h1
    have h2:=(s0 (by decide) h1).2
    congr 1
    rw[Bool.eq_iff_iff]
    simp only[Bool.or_eq_true,beq_iff_eq,bne_iff_ne,ne_eq] at h2 ⊢
    omega
  · rw[dS e,dS e]
theorem mV{kd:Int}{C:ah}(h:ia C) : db kd C=ek kd C:=by
  unfold db ek fF vO
  rw[rC h,Bool.or_comm]
def bM (dir c:Int)(C:ah) : Option (ah × aP) :=
  if c != 43 then none
  else if C.byteV==13 then some ((eb C).bytesC ((dq C).l.length:Int),{ aP.zero with code:=43,mei:=C.byteV,data:=(eb C).bytesR ((dq C).l.length:Int) })
  else if dir==0 then some ((dY C).bytesC 1,{ aP.zero with code:=43,mei:=C.byteV,kind:=(dq C).byteV,next:=(dY C).byteV })
  else some ((db (dq C).byteV (dY C)).1,{ aP.zero with code:=43,mei:=C.byteV,kind:=(dq C).byteV,level:=(dY C).byteV,more:=(et (dY C)).byteV,next:=(eX (dY C)).byteV,objects:=(db (dq C).byteV (dY C)).2 })
theorem nI{dir c:Int}{b:List Int}(hr:∀ x,x∈b→0≤x∧x<256) : ae bM dir c b=ae bE dir c b:=by
  unfold ae
  split
  · rename_i hd
    unfold bM bE
    by_cases hc:c=43
    · subst hc
      have hD:ia (dY ⟨b,false,0⟩):=gn (gE (gn (gE (C:=⟨b,false,0⟩) hr)))
      have hl:(eb ⟨b,false,0⟩).l.length=(dq ⟨b,false,0⟩).l.length:=by unfold eb;rw[jr]
      rw[if_neg (show ¬ (((43:Int)!=43)=true) from by decide),if_neg (show ¬ (((43:Int)!=43)=true) from by decide),jI hD,nA hD,mV hD,sj,hl]
      rcases hd with rfl|rfl
      · rw[if_pos (show((0:Int)==0)=true from rfl),if_neg (show ¬ ((0:Int)==1)=true from by decide)]
      · rw[if_neg (show ¬ ((1:Int)==0)=true from by decide),if_pos (show((1:Int)==1)=true from rfl)]
    · rw[if_pos (by simpa using hc),if_pos (by simpa using hc)]
  · rfl
open Go.RowKit
theorem RC.safe{w0:World}{m:Md}{A:Option Addr}{cp:Nat}{full:List Int}{w:World}{g:Nat}{C:ah}(h:RC w0 m A cp full w g C)(D:List TypeId)(hD:159∉D) : cW true D [g] w:=by
  obtain⟨k,h1,_⟩:=h.cell
  exact cW.one h1 hD
theorem RC.nrow{α:Type}{base sz n c:Nat}{e:TypeId}{R:World→α→List Value→Prop}{B:Option Addr}{xs:List α}{w0:World}{m:Md}{A:Option Addr}{cp:Nat}{full:List Int}{w:World}{g:Nat}{C:ah}(h:RC w0 m A cp full w g C)(ho:be base e sz R w (.slice B n c) xs)(ht:(159==e)=false) : g∉ob B:=by
  obtain⟨k,h1,_⟩:=h.cell
  exact cQ h1 ho ht
theorem RC.fld2{w0:World}{m:Md}{A:Option Addr}{cp:Nat}{full:List Int}{w:World}{g:Nat}{C:ah}(h:RC w0 m A cp full w g C) : w.cell? ⟨g,2,none⟩=some (.bool C.sh):=by
  obtain⟨k,h1,_⟩:=h.cell
  rw[bu h1]
  rfl
def uq (w0:World)(m:Md)(A:Option Addr)(cp:Nat)(full:List Int)(g:Nat)(C':ah)(r:dl)(w:World)(e:Ending)(w':World) : Prop:=e = .returned (.agg #[.int .u16 r.file,.int .u16 r.record,.int .u16 r.count,.slice none 0 0])∧dm r.file∧dm r.record∧dm r.count∧RC w0 m A cp full w' g C'∧aD [g] w w'
theorem ls{x:Int}(h : -1≤x∧x≤255) : 0≤Int.tdiv x 2∧Int.tdiv x 2≤127:=by
  by_cases h0:x = -1
  · subst h0;decide
  · rw[Int.tdiv_eq_ediv_of_nonneg (by omega)]
    omega
theorem gB{one:Int→ah→Int × ah × dl}{n:Nat}{s:Int}{C:ah}{L:List dl}{R:ah × List dl}(h3:(C.e=0∧C.l.length≤n∧aN one n s C L=R)∨(C.e≠0∧R.1=C))(hc:0<C.l.length)(he:C.e=0)(hlt:(one s C).2.1.l.length<C.l.length) :
    ((one s C).2.1.e=0∧(one s C).2.1.l.length≤n-1∧aN one (n-1) (one s C).1 (one s C).2.1 (L++[(one s C).2.2])=R)∨((one s C).2.1.e≠0∧R.1=(one s C).2.1):=by
  rcases h3 with⟨_,hn,hR⟩|⟨h,_⟩
  · obtain⟨k,rfl⟩ : ∃ k,n=k+1:=⟨n-1,by omega⟩
    unfold aN at hR
    rw[if_pos (by rw[he];simpa using hc)] at hR
    by_cases hz:(one s C).2.1.e=0
    · rw[if_neg (by rw[hz];decide)] at hR
      exact .inl ⟨hz,by omega,hR⟩
    · rw[if_pos (by simpa using hz)] at hR
      exact .inr ⟨hz,by rw[← hR]⟩
  · exact absurd he h
theorem f8{one:Int→ah→Int × ah × dl}{n:Nat}{s:Int}{C:ah}{L:List dl}{R:ah × List dl}(h3:(C.e=0∧C.l.length≤n∧aN one n s C L=R)∨(C.e≠0∧R.1=C))(hq:(decide (0<((C.l.length:Nat) : Int))&&C.e==0)=false) : R.1.e=C.e∧(C.e=0→R.2=L):=by
  rcases h3 with⟨he,hn,hR⟩|⟨h,h2⟩
  · rw[ge one n s C L hq] at hR
    rw[← hR]
    exact⟨rfl,fun _=>rfl⟩
  · rw[h2]
    exact⟨rfl,fun h3=>absurd h3 h⟩
def ft (R:ah × List dl)(w:World)(e:Ending)(w':World) : Prop:=∃ A2 n2 c2,e = .returned (.tuple #[.slice A2 n2 c2,.int .i64 (bp R.1.e)])∧(bp R.1.e=0→be w.heap.size 109 4 (bq true) w' (.slice A2 n2 c2) R.2)∧aD [] w w'
theorem jw{f:FuncId}{args:Array Value}{R:ah × List dl}{w:World}(h:Calls Tryz.prog f args w (ft R w))(h0:bp R.1.e=0) : Calls Tryz.prog f args w (fun e w'=>∃ v,e = .returned (.tuple #[v,.int .i64 0])∧be w.heap.size 109 4 (bq true) w' v R.2∧aD [] w w'):=by
  refine h.mono ?_
  rintro e w' ⟨A2,n2,c2,rfl,h1,h2⟩
  exact⟨_,by rw[h0],h1 h0,h2⟩
theorem ir{f:FuncId}{args:Array Value}{R:ah × List dl}{w:World}(h:Calls Tryz.prog f args w (ft R w)) : Calls Tryz.prog f args w (fun e w'=>∃ A2 n2 c2,e = .returned (.tuple #[.slice A2 n2 c2,.int .i64 (bp R.1.e)])∧aD [] w w'):=by
  refine h.mono ?_
  rintro e w' ⟨A2,n2,c2,rfl,h1,h2⟩
  exact⟨A2,n2,c2,rfl,h2⟩
theorem un{w0:World}{m:Md}{A:Option Addr}{cp:Nat}{full:List Int}{w:World}{g:Nat}{C:ah}(hC:RC w0 m A cp full w g C) : Calls Tryz.prog 218 #[.pointer (some ⟨g,0,none⟩)] w (uq w0 m A cp full g (dy C) (aL C) w):=by
 have hr:ia C:=RC.rng hC
 refine en 42 Tryz.func218 rfl<|sg<|L0<|bI #[.int .u16 0,.int .u16 0,.int .u16 0,.slice none 0 0] fun N O b i a=>ng<|Pl 1<|?_
 refine L0<|Oc<|m3 (dG (RC.upd hC a ay (aD.step (RC.u hC) a))) fun P c j Q=>Pl 1<|ng<|Pl 4<|L0<|dU (p:=⟨g,2,none⟩) (v:=.bool ((C.bytesC 1).sh)) (RC.fld2 c)<|Pl 1<|L0<|Oc<|m2 (aV ((!((C.bytesC 1).sh))) 5 c) fun R k l=>ng<|?_
 refine Pl 3<|L0<|Oc<|m2 (aV ((C.byteV==6)) 9 k) fun S n o=>?_
 refine fj n fun x26 q r=>?_
 refine ng<|Pl 1<|L0<|Oc<|m3 (cO r) fun T s t U=>Pl 1<|ng<|Pl 3<|L0<|Oc<|m2 (aV ((decide (0<x26.wordV))) 6 s) fun V y z=>nl<|?_
 refine tn<|sg<|Pl 1<|L0<|Oc<|m3 (cO y) fun W B D X=>Pl 1<|ng<|Pl 3<|L0<|Oc<|m2 (aV ((decide ((((x26.wordsC 1).need (decide (0<x26.wordV)) 6).wordV)≤9999))) 7 B) fun Y E F=>?_
 refine fj E fun x43 G H=>?_
 refine ng<|Pl 1<|L0<|Oc<|m3 (cO H) fun Z I J a0=>Pl 1<|ng<|Pl 3<|L0<|Oc<|m2 (aV ((decide (0<x43.wordV))) 5 I) fun a1 K L=>nl<|?_
 refine tn<|sg<|Pl 4<|?_
 have d:=u1 j (u1 l (u1 o (u1 t (u1 z (u1 D (u1 F (u1 J L im) im) im) im) im) im) im) im
 have e:=nb (RC.lt hC) lr b
 refine L0<|b6 (aU d (Ne.symm e) i) #[.int .u16 x26.wordV,.int .u16 (((x26.wordsC 1).need (decide (0<x26.wordV)) 6).wordV),.int .u16 x43.wordV,.slice none 0 0] fun a2 M f=>nt<|rt<|vh M<|?_
 subst G q
 have e1:dy C=(((((((((C.bytesC 1).need (!((C.bytesC 1).sh)) 5).need (C.byteV==6) 9).wordsC 1).need (decide (0<(((C.bytesC 1).need (!((C.bytesC 1).sh)) 5).need (C.byteV==6) 9).wordV)) 6).wordsC 1).need (decide (((((((C.bytesC 1).need (!((C.bytesC 1).sh)) 5).need (C.byteV==6) 9).wordsC 1).need (decide (0<(((C.bytesC 1).need (!((C.bytesC 1).sh)) 5).need (C.byteV==6) 9).wordV)) 6).wordV)≤9999)) 7).wordsC 1).need (decide (0<(((((((C.bytesC 1).need (!((C.bytesC 1).sh)) 5).need (C.byteV==6) 9).wordsC 1).need (decide (0<(((C.bytesC 1).need (!((C.bytesC 1).sh)) 5).need (C.byteV==6) 9).wordV)) 6).wordsC 1).need (decide (((((((C.bytesC 1).need (!((C.bytesC 1).sh)) 5).need (C.byteV==6) 9).wordsC 1).need (decide (0<(((C.bytesC 1).need (!((C.bytesC 1).sh)) 5).need (C.byteV==6) 9).wordV)) 6).wordV)≤9999)) 7).wordV)) 5):=by rw[← pq hr];rfl
 have e2:(aL C).file=(((C.bytesC 1).need (!((C.bytesC 1).sh)) 5).need (C.byteV==6) 9).wordV:=by show(hH C).wordV=_;rw[← sl];rfl
 have e3:(aL C).record=(((((C.bytesC 1).need (!((C.bytesC 1).sh)) 5).need (C.byteV==6) 9).wordsC 1).need (decide (0<(((C.bytesC 1).need (!((C.bytesC 1).sh)) 5).need (C.byteV==6) 9).wordV)) 6).wordV:=by show(hY C).wordV=_;rw[← sC hr];rfl
 have e4:(aL C).count=(((((((C.bytesC 1).need (!((C.bytesC 1).sh)) 5).need (C.byteV==6) 9).wordsC 1).need (decide (0<(((C.bytesC 1).need (!((C.bytesC 1).sh)) 5).need (C.byteV==6) 9).wordV)) 6).wordsC 1).need (decide (((((((C.bytesC 1).need (!((C.bytesC 1).sh)) 5).need (C.byteV==6) 9).wordsC 1).need (decide (0<(((C.bytesC 1).need (!((C.bytesC 1).sh)) 5).need (C.byteV==6) 9).wordV)) 6).wordV)≤9999)) 7).wordV:=by show(mj C).wordV=_;rw[← rX hr];rfl
 have h:=ue a (us d f) b
 unfold uq
 rw[e1,e2,e3,e4]
 exact⟨rfl,aC (by omega),aC (by omega),aC (by omega),(RC.upd K f (aa e ay) (hC.u.trans' h (fun x hx=>.inr (by simp at hx;subst hx;exact hC.new)))),h⟩
theorem sc{m:Md}{A:Option Addr}{cp:Nat}{b:List Int}{w:World}(hsl:b9 m w (.slice A b.length cp) b)(hb:b.length≤1048576) :
    Calls Tryz.prog 163 #[.int .i64 0,.int .u8 20,.slice A b.length cp] w (ft (aN cM b.length 0 ⟨b,false,0⟩ []) w):=by
 have hln:(b.length:Int)≤1048576:=by omega
 refine en 108 Tryz.func163 rfl<|sg<|Pl 2<|ng<|Pl 2<|L0<|dz #[.slice A b.length cp,.int .i64 0,.bool false,.int .i64 0] fun d U E a8 F=>Pl 1<|nt<|sq<|?_
 refine go<|Pl 1<|ng<|Pl 1<|nt<|sq<|bk<|?_
 have V:RC w _ A cp b U d (ah.mk b false 0):=⟨hsl,F,E,⟨0,a8,Nat.zero_le _,rfl⟩,by omega⟩
 refine i1 (fun x=>[(0,.int .i64 0),(1,.int .u8 20),(6,.slice none 0 0),(7,.int .i64 0),(8,.pointer (some ⟨d,0,none⟩)),(9,.slice x.2.2.2.1 x.2.2.1.length x.2.2.2.2.1),(10,.int .i64 x.2.2.2.2.2)]) (fun(x:Nat × ah × List dl × Option Addr × Nat × Int) w'=>aD [] w w'∧U.heap.size≤w'.heap.size∧RC w m A cp b w' d x.2.1∧be w.heap.size 109 4 (bq true) w' (.slice x.2.2.2.1 x.2.2.1.length x.2.2.2.2.1) x.2.2.1∧(0≤x.2.2.2.2.2)∧(x.2.1.e=0→x.2.2.2.2.2≤245)∧(x.2.2.1.length+x.2.1.l.length≤b.length)∧((x.2.1.e=0∧x.2.1.l.length≤x.1∧aN cM x.1 x.2.2.2.2.2 x.2.1 x.2.2.1=aN cM b.length 0 ⟨b,false,0⟩ [])∨(x.2.1.e≠0∧(aN cM b.length 0 ⟨b,false,0⟩ []).1=x.2.1))) (fun x=>x.2.1.l.length) (b.length,(ah.mk b false 0),[],none,0,0) ⟨F,lr,V,(be.nil w.heap.size _ _ (bq true) _),(by(try dsimp only);omega),(fun _=>(show(0:Int)≤245 from by decide)),(by(try dsimp only);simp),.inl ⟨rfl,Nat.le_refl _,rfl⟩⟩ ?_
 rintro⟨n,C,L,B,cq,s⟩ W ⟨a9,G,ab,ad,ae,af,ag,ai⟩
 refine iq [(0,.int .i64 0),(1,.int .u8 20),(6,.slice none 0 0),(7,.int .i64 0),(8,.pointer (some ⟨d,0,none⟩)),(9,.slice B L.length cq),(10,.int .i64 s)] ?_
 have a:RC w m A cp b W d C:=ab
 have hlC:=RC.clen a
 have hrC:ia C:=RC.rng a
 have i:be w.heap.size 109 4 (bq true) W (.slice B L.length cq) L:=ad
 have aP:0≤s:=ae
 have aQ:C.e=0→s≤245:=af
 have aW:L.length+C.l.length≤b.length:=ag
 have H:(C.e=0∧C.l.length≤n∧aN cM n s C L=aN cM b.length 0 ⟨b,false,0⟩ [])∨(C.e≠0∧(aN cM b.length 0 ⟨b,false,0⟩ []).1=C):=ai
 refine sq<|sg<|Pl 1<|L0<|Oc<|m1 (gO a) fun aX c=>?_
 have aY:=RC.clen a
 refine Pl 2<|cu 6 [20] 26 (((decide (0<((C.l.length:Nat) : Int)))&&(C.e==0))) (fun K X=>?_) ?_
 refine bl 20 ((decide (0<((C.l.length:Nat) : Int)))) (fun j=>?_) (fun j=>?_)
 have aj:=of_decide_eq_true j
 refine Pl 3<|?_
 exact L1<|dU (p:=⟨d,3,none⟩) (v:=.int .i64 C.e) (RC.fld (RC.upd a c ay (aD.step (RC.u a) c)))<|Pl 2<|ce X (C.e==0) (by rw[j];rfl)
 have aj:=of_decide_eq_false j
 exact Pl 6<|ce X false (by rw[j];rfl)
 refine nt<|?_
 have I:=aH a9 c
 refine cb (((decide (0<((C.l.length:Nat) : Int)))&&(C.e==0))) (fun f=>?_) (fun f=>?_)
 have J:=(aS f).1
 have M:=(aS f).2
 have aZ:=of_decide_eq_true J
 have b0:=al M
 refine bo<|bk<|sg<|Pl 1<|L0<|bI #[.int .u16 0,.int .u16 0,.int .u16 0,.slice none 0 0] fun b1 b2 k ak N=>L0<|b6 ak #[.int .u16 0,.int .u16 0,.int .u16 0,.slice none 0 0] fun b3 an O=>nt<|sq<|sg<|Pl 6<|nl<|?_
 refine tn<|c0<|sg<|Pl 1<|?_
 have Y:=ud N O k
 have r:=aH c Y
 refine L0<|Oc<|m5 (un (RC.upd a r ay (aD.step (RC.u a) r))) fun b4 ao ar au aw t=>?_
 obtain⟨b5,b7⟩:=ao
 obtain⟨b8,ba⟩:=ar
 obtain⟨bb,bc⟩:=au
 have P:=nb (RC.lt V) (le G c.size) k
 refine L0<|b6 (aU t (Ne.symm P) an) #[.int .u16 ((aL C).file),.int .u16 ((aL C).record),.int .u16 ((aL C).count),.slice none 0 0] fun bd Z y=>ng<|Pl 2<|nt<|c0<|sg<|Pl 1<|L0<|Oi (s+2)<|Pl 1<|L0<|aR Z 2<|?_
 refine L0<|Oi ((aL C).count)<|L0<|Oi (2*((aL C).count))<|L0<|Oi ((s+2)+(2*((aL C).count)))<|Pl 1<|nt<|go<|Pl 3<|?_
 have Q:=us t y
 have a0:=ud I (ue Y Q k) E
 refine L0<|Oc<|m2 (aV ((decide (((s+2)+(2*((aL C).count)))≤245))) 5 (RC.upd aw y (aa P ay) a0)) fun bf az o=>?_
 refine fj az fun x68 aA a1=>?_
 refine nt<|go<|Pl 1<|?_
 refine L0<|cl (aU o (Ne.symm P) Z)<|L0<|dx (m:=1) (e:=109) #[.int .u16 ((aL C).file),.int .u16 ((aL C).record),.int .u16 ((aL C).count),.slice none 0 0] fun bg bj bm aE z=>?_
 have aF:=iZ (R:=bq true) (x:=(dl.mk ((aL C).file) ((aL C).record) ((aL C).count) ([]))) aE rfl ⟨_,rfl,(aK.nil true _ _ _ _),aC (x:=(aL C).file) (by omega),aC (x:=(aL C).record) (by omega),aC (x:=(aL C).count) (by omega)⟩
 have a2:=aH o z
 have a3:=ue r (u1 Q a2 im) (le c.size k)
 have a4:=ax i a3 (fun x hx=>(aa (fun e=>(RC.nrow a i (by decide)) (e▸hx)) ay)) (bq.upd16 a3 (am (RC.safe a _ (by decide)) aG))
 refine L0<|gi (xs:=L) (ys:=([(dl.mk ((aL C).file) ((aL C).record) ((aL C).count) ([]))])) (.agg #[.int .u16 0,.int .u16 0,.int .u16 0,.slice none 0 0]) 4 32 a4 aF (by simp) bq.ones (fun w' hv=>bq.upd16 hv (cP (dc _ a4 (by decide)) aG)) (by(try simp only[List.length_append,List.length_cons,List.length_nil,aB]);omega) (le (le (le (le (le (le (le (le F.size G) c.size) N.size) O.size) t.size) y.size) o.size) z.size) fun aI aJ br aM S=>Pl 1<|nl<|bn<|?_
 subst aA
 have hC2:(cM s C).2.1=((dy C).need (decide (((s+2)+(2*((aL C).count)))≤245)) 5):=by show eC s C=_;(try simp only[eC,eg,← Int.add_assoc,f,J,M,bs,if_true,if_false,decide_true,decide_false]);all_goals rfl
 have hM2:[(cM s C).2.2]=[(dl.mk ((aL C).file) ((aL C).record) ((aL C).count) ([]))]:=by show[aL C]=_;(try simp only[eC,eg,← Int.add_assoc,f,J,M,bs,if_true,if_false,decide_true,decide_false]);all_goals rfl
 have hS2:(cM s C).1=((s+2)+(2*((aL C).count))):=by(try (show eg s C=_));(try simp only[eg,← Int.add_assoc]);all_goals rfl
 have hlt:=oY s C (by omega)
 have h9:=gB (one:=cM) H (by omega) (by omega) hlt
 rw[hC2,hM2,hS2] at h9
 rw[hC2] at hlt
 have a5:=ut a0 (ut (aD.mono (S':=(d :: (ob B++[]))) a2 (ac im aq)) S (av il aq)) (ac (nr E) (av (aT i lr) aq))
 have a6:=ue r (u1 Q o im) (le c.size k)
 exact ga ((n-1),((dy C).need (decide (((s+2)+(2*((aL C).count)))≤245)) 5),(L++[(dl.mk ((aL C).file) ((aL C).record) ((aL C).count) ([]))]),aI,aJ,((s+2)+(2*((aL C).count)))) ⟨a5,(le (le (le (le (le (le (le (le G c.size) N.size) O.size) t.size) y.size) o.size) z.size) S.size),(RC.upd a1 (ut (aD.mono (S':=(ob B++[])) z aq) S (av il aq)) (bi (RC.nrow a1 (ax i a6 (fun x hx=>(aa (fun e=>(RC.nrow a i (by decide)) (e▸hx)) ay)) (bq.upd16 a6 (am (RC.safe a _ (by decide)) aG))) (by decide)) ay) a5),aM,(by(try dsimp only);omega),(by(try dsimp only);intro he;have hk:=(s0 (by decide) he).2;simp only[decide_eq_true_eq] at hk;omega),(by(try dsimp only);simp only[List.length_append,List.length_cons,List.length_nil];omega),h9⟩ (by omega)
 refine xt<|tx<|tx<|bx<|tn<|sq<|sg<|Pl 3<|?_
 have T:=RC.upd a c ay (aD.step (RC.u a) c)
 refine L0<|dU (p:=⟨d,3,none⟩) (v:=.int .i64 C.e) (RC.fld T)<|Pl 1<|nt<|cb ((C.e==2)) (fun q=>?_) (fun q=>?_)
 have aO:=al q
 refine sg<|Pl 2<|nt<|rt<|tr<|rr (.tuple #[.slice none 0 0,.int .i64 5])<|?_
 obtain⟨hH,hY⟩:=f8 H f
 have hw:bp (aN cM b.length 0 ⟨b,false,0⟩ []).1.e=5:=by unfold bp;rw[hH,if_pos q]
 refine⟨none,0,0,by rw[hw],fun h=>absurd (hw.symm.trans h) (by decide),I⟩
 have aO:=ap q
 refine bo<|sq<|Rg 7 (fun w'=>w'.cell? ⟨d,3,none⟩=some (.int .i64 C.e)) fun bt D=>?_
 refine bh (RC.fld (RC.upd T D ay (aD.step (RC.u T) D))) fun g=>Rt 0 g<|Rt 1 g<|Rt 2 g<|Rt 3 g<|Rl 4 g (fun _ hs=>hs)<|Rt 5 g<|Rt 6 g<|re<|tn<|rt<|rr (.tuple #[.slice B L.length cq,.int .i64 C.e])<|?_
 obtain⟨hH,hY⟩:=f8 H f
 have hw:bp (aN cM b.length 0 ⟨b,false,0⟩ []).1.e=C.e:=by unfold bp;rw[hH,if_neg (by rw[q];decide)]
 have a7:=aH c D
 refine⟨_,_,_,by rw[hw],fun h=>by rw[hY (hw.symm.trans h)];exact(ax i a7 (fun x hx=>ay) (bq.upd16 a7 aG)),(aH I D)⟩
theorem ri{m:Md}{A:Option Addr}{cp:Nat}{b:List Int}{w:World}(hsl:b9 m w (.slice A b.length cp) b)(hb:b.length≤1048576) :
    Calls Tryz.prog 163 #[.int .i64 1,.int .u8 20,.slice A b.length cp] w (ft (aN bG b.length 0 ⟨b,false,0⟩ []) w):=by
 have hln:(b.length:Int)≤1048576:=by omega
 refine en 108 Tryz.func163 rfl<|sg<|Pl 2<|ng<|Pl 2<|L0<|dz #[.slice A b.length cp,.int .i64 0,.bool false,.int .i64 0] fun f ag M ba N=>Pl 1<|nt<|sq<|?_
 refine go<|Pl 1<|ng<|Pl 1<|nt<|sq<|bk<|?_
 have Z:RC w _ A cp b ag f (ah.mk b false 0):=⟨hsl,N,M,⟨0,ba,Nat.zero_le _,rfl⟩,by omega⟩
 refine i1 (fun x=>[(0,.int .i64 1),(1,.int .u8 20),(6,.slice none 0 0),(7,.int .i64 0),(8,.pointer (some ⟨f,0,none⟩)),(9,.slice x.2.2.2.1 x.2.2.1.length x.2.2.2.2.1),(10,.int .i64 x.2.2.2.2.2)]) (fun(x:Nat × ah × List dl × Option Addr × Nat × Int) w'=>aD [] w w'∧ag.heap.size≤w'.heap.size∧RC w m A cp b w' f x.2.1∧be w.heap.size 109 4 (bq true) w' (.slice x.2.2.2.1 x.2.2.1.length x.2.2.2.2.1) x.2.2.1∧(0≤x.2.2.2.2.2)∧(x.2.1.e=0→x.2.2.2.2.2≤245)∧(x.2.2.1.length+x.2.1.l.length≤b.length)∧((x.2.1.e=0∧x.2.1.l.length≤x.1∧aN bG x.1 x.2.2.2.2.2 x.2.1 x.2.2.1=aN bG b.length 0 ⟨b,false,0⟩ [])∨(x.2.1.e≠0∧(aN bG b.length 0 ⟨b,false,0⟩ []).1=x.2.1))) (fun x=>x.2.1.l.length) (b.length,(ah.mk b false 0),[],none,0,0) ⟨N,lr,Z,(be.nil w.heap.size _ _ (bq true) _),(by(try dsimp only);omega),(fun _=>(show(0:Int)≤245 from by decide)),(by(try dsimp only);simp),.inl ⟨rfl,Nat.le_refl _,rfl⟩⟩ ?_
 rintro⟨n,C,L,B,cq,s⟩ ai ⟨bb,r,bc,bd,bf,bg,bj,bm⟩
 refine iq [(0,.int .i64 1),(1,.int .u8 20),(6,.slice none 0 0),(7,.int .i64 0),(8,.pointer (some ⟨f,0,none⟩)),(9,.slice B L.length cq),(10,.int .i64 s)] ?_
 have a:RC w m A cp b ai f C:=bc
 have hlC:=RC.clen a
 have hrC:ia C:=RC.rng a
 have d:be w.heap.size 109 4 (bq true) ai (.slice B L.length cq) L:=bd
 have bY:0≤s:=bf
 have bZ:C.e=0→s≤245:=bg
 have c0:L.length+C.l.length≤b.length:=bj
 have O:(C.e=0∧C.l.length≤n∧aN bG n s C L=aN bG b.length 0 ⟨b,false,0⟩ [])∨(C.e≠0∧(aN bG b.length 0 ⟨b,false,0⟩ []).1=C):=bm
 refine sq<|sg<|Pl 1<|L0<|Oc<|m1 (gO a) fun c2 c=>?_
 have c3:=RC.clen a
 refine Pl 2<|cu 6 [20] 26 (((decide (0<((C.l.length:Nat) : Int)))&&(C.e==0))) (fun K aj=>?_) ?_
 refine bl 20 ((decide (0<((C.l.length:Nat) : Int)))) (fun z=>?_) (fun z=>?_)
 have br:=of_decide_eq_true z
 refine Pl 3<|?_
 exact L1<|dU (p:=⟨f,3,none⟩) (v:=.int .i64 C.e) (RC.fld (RC.upd a c ay (aD.step (RC.u a) c)))<|Pl 2<|ce aj (C.e==0) (by rw[z];rfl)
 have br:=of_decide_eq_false z
 exact Pl 6<|ce aj false (by rw[z];rfl)
 refine nt<|?_
 have D:=aH bb c
 refine cb (((decide (0<((C.l.length:Nat) : Int)))&&(C.e==0))) (fun g=>?_) (fun g=>?_)
 have E:=(aS g).1
 have F:=(aS g).2
 have c4:=of_decide_eq_true E
 have c5:=al F
 refine bo<|bk<|sg<|Pl 1<|L0<|bI #[.int .u16 0,.int .u16 0,.int .u16 0,.slice none 0 0] fun P c6 j a0 G=>L0<|b6 a0 #[.int .u16 0,.int .u16 0,.int .u16 0,.slice none 0 0] fun c7 an k=>nt<|sq<|sg<|Pl 6<|nl<|?_
 refine tn<|c1<|sg<|Pl 1<|?_
 have ao:=ud G k j
 have t:=aH c ao
 refine L0<|Oc<|m3 (dG (RC.upd a t ay (aD.step (RC.u a) t))) fun c8 H i c9=>L0<|Oi C.byteV<|Pl 1<|ng<|Pl 2<|L0<|Oe (.int .i64 (Int.tmod C.byteV 2)) (.int .i64 (C.byteV%2)) (congrArg (Value.int .i64) (Int.tmod_eq_emod_of_nonneg (by omega)))<|Pl 2<|cu 3 [41] 44 ((((C.byteV%2)==1)&&(decide (3≤C.byteV)))) (fun K ar=>?_) ?_
 refine bl 41 (((C.byteV%2)==1)) (fun I=>?_) (fun I=>?_)
 have bt:=al I
 exact Pl 3<|ce ar (decide (3≤C.byteV)) (by rw[I];rfl)
 have bt:=ap I
 exact Pl 3<|ce ar false (by rw[I];rfl)
 refine Pl 1<|?_
 have au:=ud D (uz ao i) M
 refine bl 45 ((((C.byteV%2)==1)&&(decide (3≤C.byteV)))) (fun o=>?_) (fun o=>?_)
 have a1:=(aS o).1
 have a2:=(aS o).2
 have ca:=al a1
 have cc:=of_decide_eq_true a2
 refine Pl 2<|L1<|Oc<|m1 (gO H) fun cd y=>?_
 have cf:=RC.clen H
 refine Pl 2<|?_
 refine L0<|Oc<|m2 (aV ((decide (C.byteV≤(((C.bytesC 1).l.length:Nat) : Int)))) 5 (RC.upd H y ay (aD.step (RC.u H) y))) fun cg bu Q=>?_
 refine fj bu fun x66 bv bw=>?_
 refine ng<|Pl 1<|L0<|Oc<|m3 (dG bw) fun ch bz S ci=>Pl 1<|ng<|Pl 3<|L0<|Oc<|m2 (aV ((x66.byteV==6)) 9 bz) fun cj bA T=>nl<|?_
 refine tn<|go<|Pl 2<|L0<|Oi (C.byteV-1)<|?_
 have ck:=ls (x:=(C.byteV-1)) (by omega)
 refine L0<|Oe (.int .i64 (IntKind.i64.wrap (Int.tdiv (C.byteV-1) 2))) (.int .i64 (Int.tdiv (C.byteV-1) 2)) (congrArg (Value.int .i64) (jD (by omega) (by omega)))<|L0<|Oc<|lS (fw (n:=(Int.tdiv (C.byteV-1) 2)) (by omega) bA) fun aw az cm aE cn co bB a3=>?_
 refine fj bB fun x82 bC aF=>?_
 refine Pl 1<|?_
 have aI:=uz y (u1 Q (u1 S (u1 T a3 im) im) im)
 have a4:=u1 i aI im
 have aJ:=nb (RC.lt Z) (le r c.size) j
 refine L0<|bT (aU a4 (Ne.symm aJ) an) 3 #[.int .u16 0,.int .u16 0,.int .u16 0,.slice aw ((((x66.bytesC 1).need (x66.byteV==6) 9).wordsR (Int.tdiv (C.byteV-1) 2)).length) az] fun cr bD a5=>nt<|go<|Pl 1<|L0<|cl bD<|L0<|dx (m:=1) (e:=109) #[.int .u16 0,.int .u16 0,.int .u16 0,.slice aw ((((x66.bytesC 1).need (x66.byteV==6) 9).wordsR (Int.tdiv (C.byteV-1) 2)).length) az] fun cs ct cv bE a6=>?_
 have a7:=aH a5 a6
 have bF:=iZ (R:=bq true) (x:=(dl.mk 0 0 0 (((x66.bytesC 1).need (x66.byteV==6) 9).wordsR (Int.tdiv (C.byteV-1) 2)))) bE rfl ⟨_,rfl,((ax aE a7 (fun x hx=>(aa (fun e=>(aA (ak a0) (le (le (le (le (le k.size i.size) y.size) Q.size) S.size) T.size) aE) (e▸hx)) ay)) (fun _ _ h=>h))).rd,aC (x:=0) (by omega),aC (x:=0) (by omega),aC (x:=0) (by omega)⟩
 have aK:=ue t (us a4 a7) (le c.size j)
 have aL:=ax d aK (fun x hx=>(aa (fun e=>(RC.nrow a d (by decide)) (e▸hx)) ay)) (bq.upd16 aK (am (RC.safe a _ (by decide)) aG))
 refine L0<|gi (xs:=L) (ys:=([(dl.mk 0 0 0 (((x66.bytesC 1).need (x66.byteV==6) 9).wordsR (Int.tdiv (C.byteV-1) 2)))])) (.agg #[.int .u16 0,.int .u16 0,.int .u16 0,.slice none 0 0]) 4 32 aL bF (by simp) bq.ones (fun w' hv=>bq.upd16 hv (cP (dc _ aL (by decide)) aG)) (by(try simp only[List.length_append,List.length_cons,List.length_nil,aB]);omega) (le (le (le (le (le (le (le (le (le (le (le (le N.size r) c.size) G.size) k.size) i.size) y.size) Q.size) S.size) T.size) a3.size) a5.size) a6.size) fun bH bJ cw bK aM=>Pl 1<|nl<|bn<|?_
 subst bC bv
 have hC2:(bG s C).2.1=(((((C.bytesC 1).need (decide (C.byteV≤(((C.bytesC 1).l.length:Nat) : Int))) 5).bytesC 1).need (((C.bytesC 1).need (decide (C.byteV≤(((C.bytesC 1).l.length:Nat) : Int))) 5).byteV==6) 9).wordsC (Int.tdiv (C.byteV-1) 2)):=by show eK C=_;(try simp only[eK,eu,gJ,gL,g,E,F,o,a1,a2,bs,if_true,if_false,decide_true,decide_false]);all_goals rfl
 have hM2:[(bG s C).2.2]=[(dl.mk 0 0 0 (((((C.bytesC 1).need (decide (C.byteV≤(((C.bytesC 1).l.length:Nat) : Int))) 5).bytesC 1).need (((C.bytesC 1).need (decide (C.byteV≤(((C.bytesC 1).l.length:Nat) : Int))) 5).byteV==6) 9).wordsR (Int.tdiv (C.byteV-1) 2)))]:=by show[eu C]=_;(try simp only[eK,eu,gJ,gL,g,E,F,o,a1,a2,bs,if_true,if_false,decide_true,decide_false]);all_goals rfl
 have hS2:(bG s C).1=s:=by(try (show s=_));(try simp only[eg,← Int.add_assoc]);all_goals rfl
 have hlt:=jf s C (by omega)
 have h9:=gB (one:=bG) O (by omega) (by omega) hlt
 rw[hC2,hM2,hS2] at h9
 rw[hC2] at hlt
 have aO:=ut (aD.mono (S':=(P :: (ob B++[]))) a7 (ac im aq)) aM (av il aq)
 have aP:=ut au (ut (aD.mono (S':=(f :: (P :: (ob B++[])))) aI (ac im aq)) aO (ac im (av il aq))) (ac (nr M) (ac (ni D.size j) (av (aT d lr) aq)))
 have aQ:=uz t a4
 exact ga ((n-1),(((((C.bytesC 1).need (decide (C.byteV≤(((C.bytesC 1).l.length:Nat) : Int))) 5).bytesC 1).need (((C.bytesC 1).need (decide (C.byteV≤(((C.bytesC 1).l.length:Nat) : Int))) 5).byteV==6) 9).wordsC (Int.tdiv (C.byteV-1) 2)),(L++[(dl.mk 0 0 0 (((((C.bytesC 1).need (decide (C.byteV≤(((C.bytesC 1).l.length:Nat) : Int))) 5).bytesC 1).need (((C.bytesC 1).need (decide (C.byteV≤(((C.bytesC 1).l.length:Nat) : Int))) 5).byteV==6) 9).wordsR (Int.tdiv (C.byteV-1) 2)))]),bH,bJ,s) ⟨aP,(le (le (le (le (le (le (le (le (le (le (le (le r c.size) G.size) k.size) i.size) y.size) Q.size) S.size) T.size) a3.size) a5.size) a6.size) aM.size),(RC.upd aF aO (aa aJ (bi (RC.nrow aF (ax d aQ (fun x hx=>(aa (fun e=>(RC.nrow a d (by decide)) (e▸hx)) ay)) (bq.upd16 aQ (am (RC.safe a _ (by decide)) aG))) (by decide)) ay)) aP),bK,(by(try dsimp only);omega),(by(try dsimp only);intro he;omega),(by(try dsimp only);simp only[List.length_append,List.length_cons,List.length_nil];omega),h9⟩ (by omega)
 refine Pl 5<|L0<|Oc<|m2 (aV (false) 5 H) fun cx bL U=>ng<|Pl 1<|L0<|Oc<|m3 (dG bL) fun cy bM V cz=>Pl 1<|ng<|Pl 3<|L0<|Oc<|m2 (aV (((((C.bytesC 1).need false 5).byteV)==6)) 9 bM) fun cA bN W=>?_
 refine fj bN fun X bO bP=>?_
 refine nt<|go<|Pl 2<|L0<|Oi (C.byteV-1)<|?_
 have cB:=ls (x:=(C.byteV-1)) (by omega)
 refine L0<|Oe (.int .i64 (IntKind.i64.wrap (Int.tdiv (C.byteV-1) 2))) (.int .i64 (Int.tdiv (C.byteV-1) 2)) (congrArg (Value.int .i64) (jD (by omega) (by omega)))<|L0<|Oc<|lS (fw (n:=(Int.tdiv (C.byteV-1) 2)) (by omega) bP) fun aR aW cC aX cD cE aY a8=>Pl 1<|?_
 have aZ:=u1 U (u1 V (u1 W a8 im) im) im
 have a9:=u1 i aZ im
 have b0:=nb (RC.lt Z) (le r c.size) j
 refine L0<|bT (aU a9 (Ne.symm b0) an) 3 #[.int .u16 0,.int .u16 0,.int .u16 0,.slice aR ((X.wordsR (Int.tdiv (C.byteV-1) 2)).length) aW] fun cF bQ ab=>nt<|go<|Pl 1<|L0<|cl bQ<|L0<|dx (m:=1) (e:=109) #[.int .u16 0,.int .u16 0,.int .u16 0,.slice aR ((X.wordsR (Int.tdiv (C.byteV-1) 2)).length) aW] fun cG cH cI bR ad=>?_
 have ae:=aH ab ad
 have bS:=iZ (R:=bq true) (x:=(dl.mk 0 0 0 (X.wordsR (Int.tdiv (C.byteV-1) 2)))) bR rfl ⟨_,rfl,((ax aX ae (fun x hx=>(aa (fun e=>(aA (ak a0) (le (le (le (le k.size i.size) U.size) V.size) W.size) aX) (e▸hx)) ay)) (fun _ _ h=>h))).rd,aC (x:=0) (by omega),aC (x:=0) (by omega),aC (x:=0) (by omega)⟩
 have b1:=ue t (us a9 ae) (le c.size j)
 have b2:=ax d b1 (fun x hx=>(aa (fun e=>(RC.nrow a d (by decide)) (e▸hx)) ay)) (bq.upd16 b1 (am (RC.safe a _ (by decide)) aG))
 refine L0<|gi (xs:=L) (ys:=([(dl.mk 0 0 0 (X.wordsR (Int.tdiv (C.byteV-1) 2)))])) (.agg #[.int .u16 0,.int .u16 0,.int .u16 0,.slice none 0 0]) 4 32 b2 bS (by simp) bq.ones (fun w' hv=>bq.upd16 hv (cP (dc _ b2 (by decide)) aG)) (by(try simp only[List.length_append,List.length_cons,List.length_nil,aB]);omega) (le (le (le (le (le (le (le (le (le (le (le N.size r) c.size) G.size) k.size) i.size) U.size) V.size) W.size) a8.size) ab.size) ad.size) fun bU bV cJ bW b3=>Pl 1<|nl<|bn<|?_
 subst bO
 have hC2:(bG s C).2.1=(((((C.bytesC 1).need false 5).bytesC 1).need ((((C.bytesC 1).need false 5).byteV)==6) 9).wordsC (Int.tdiv (C.byteV-1) 2)):=by show eK C=_;(try simp only[eK,eu,gJ,gL,g,E,F,o,bs,if_true,if_false,decide_true,decide_false]);all_goals rfl
 have hM2:[(bG s C).2.2]=[(dl.mk 0 0 0 (((((C.bytesC 1).need false 5).bytesC 1).need ((((C.bytesC 1).need false 5).byteV)==6) 9).wordsR (Int.tdiv (C.byteV-1) 2)))]:=by show[eu C]=_;(try simp only[eK,eu,gJ,gL,g,E,F,o,bs,if_true,if_false,decide_true,decide_false]);all_goals rfl
 have hS2:(bG s C).1=s:=by(try (show s=_));(try simp only[eg,← Int.add_assoc]);all_goals rfl
 have hlt:=jf s C (by omega)
 have h9:=gB (one:=bG) O (by omega) (by omega) hlt
 rw[hC2,hM2,hS2] at h9
 rw[hC2] at hlt
 have b4:=ut (aD.mono (S':=(P :: (ob B++[]))) ae (ac im aq)) b3 (av il aq)
 have b5:=ut au (ut (aD.mono (S':=(f :: (P :: (ob B++[])))) aZ (ac im aq)) b4 (ac im (av il aq))) (ac (nr M) (ac (ni D.size j) (av (aT d lr) aq)))
 have b7:=uz t a9
 exact ga ((n-1),(((((C.bytesC 1).need false 5).bytesC 1).need ((((C.bytesC 1).need false 5).byteV)==6) 9).wordsC (Int.tdiv (C.byteV-1) 2)),(L++[(dl.mk 0 0 0 (((((C.bytesC 1).need false 5).bytesC 1).need ((((C.bytesC 1).need false 5).byteV)==6) 9).wordsR (Int.tdiv (C.byteV-1) 2)))]),bU,bV,s) ⟨b5,(le (le (le (le (le (le (le (le (le (le (le r c.size) G.size) k.size) i.size) U.size) V.size) W.size) a8.size) ab.size) ad.size) b3.size),(RC.upd aY b4 (aa b0 (bi (RC.nrow aY (ax d b7 (fun x hx=>(aa (fun e=>(RC.nrow a d (by decide)) (e▸hx)) ay)) (bq.upd16 b7 (am (RC.safe a _ (by decide)) aG))) (by decide)) ay)) b5),bW,(by(try dsimp only);omega),(by(try dsimp only);intro he;omega),(by(try dsimp only);simp only[List.length_append,List.length_cons,List.length_nil];omega),h9⟩ (by omega)
 refine xt<|tx<|tx<|bx<|tn<|sq<|sg<|Pl 3<|?_
 have af:=RC.upd a c ay (aD.step (RC.u a) c)
 refine L0<|dU (p:=⟨f,3,none⟩) (v:=.int .i64 C.e) (RC.fld af)<|Pl 1<|nt<|cb ((C.e==2)) (fun J=>?_) (fun J=>?_)
 have bX:=al J
 refine sg<|Pl 2<|nt<|rt<|tr<|rr (.tuple #[.slice none 0 0,.int .i64 5])<|?_
 obtain⟨hH,hY⟩:=f8 O g
 have hw:bp (aN bG b.length 0 ⟨b,false,0⟩ []).1.e=5:=by unfold bp;rw[hH,if_pos J]
 refine⟨none,0,0,by rw[hw],fun h=>absurd (hw.symm.trans h) (by decide),D⟩
 have bX:=ap J
 refine bo<|sq<|Rg 7 (fun w'=>w'.cell? ⟨f,3,none⟩=some (.int .i64 C.e)) fun cK Y=>?_
 refine bh (RC.fld (RC.upd af Y ay (aD.step (RC.u af) Y))) fun q=>Rt 0 q<|Rt 1 q<|Rt 2 q<|Rt 3 q<|Rl 4 q (fun _ hs=>hs)<|Rt 5 q<|Rt 6 q<|re<|tn<|rt<|rr (.tuple #[.slice B L.length cq,.int .i64 C.e])<|?_
 obtain⟨hH,hY⟩:=f8 O g
 have hw:bp (aN bG b.length 0 ⟨b,false,0⟩ []).1.e=C.e:=by unfold bp;rw[hH,if_neg (by rw[J];decide)]
 have b8:=aH c Y
 refine⟨_,_,_,by rw[hw],fun h=>by rw[hY (hw.symm.trans h)];exact(ax d b8 (fun x hx=>ay) (bq.upd16 b8 aG)),(aH D Y)⟩
theorem si{m:Md}{A:Option Addr}{cp:Nat}{b:List Int}{w:World}{dir:Int}(hsl:b9 m w (.slice A b.length cp) b)(hb:b.length≤1048576) :
    Calls Tryz.prog 163 #[.int .i64 dir,.int .u8 21,.slice A b.length cp] w (ft (aN cN b.length 0 ⟨b,false,0⟩ []) w):=by
 have hln:(b.length:Int)≤1048576:=by omega
 refine en 108 Tryz.func163 rfl<|sg<|Pl 2<|ng<|Pl 2<|L0<|dz #[.slice A b.length cp,.int .i64 0,.bool false,.int .i64 0] fun d a3 N aF O=>Pl 1<|nt<|sq<|?_
 refine go<|Pl 1<|ng<|Pl 1<|nt<|sq<|bk<|?_
 have a4:RC w _ A cp b a3 d (ah.mk b false 0):=⟨hsl,O,N,⟨0,aF,Nat.zero_le _,rfl⟩,by omega⟩
 refine i1 (fun x=>[(0,.int .i64 dir),(1,.int .u8 21),(6,.slice none 0 0),(7,.int .i64 0),(8,.pointer (some ⟨d,0,none⟩)),(9,.slice x.2.2.2.1 x.2.2.1.length x.2.2.2.2.1),(10,.int .i64 x.2.2.2.2.2)]) (fun(x:Nat × ah × List dl × Option Addr × Nat × Int) w'=>aD [] w w'∧a3.heap.size≤w'.heap.size∧RC w m A cp b w' d x.2.1∧be w.heap.size 109 4 (bq true) w' (.slice x.2.2.2.1 x.2.2.1.length x.2.2.2.2.1) x.2.2.1∧(0≤x.2.2.2.2.2)∧(x.2.1.e=0→x.2.2.2.2.2≤245)∧(x.2.2.1.length+x.2.1.l.length≤b.length)∧((x.2.1.e=0∧x.2.1.l.length≤x.1∧aN cN x.1 x.2.2.2.2.2 x.2.1 x.2.2.1=aN cN b.length 0 ⟨b,false,0⟩ [])∨(x.2.1.e≠0∧(aN cN b.length 0 ⟨b,false,0⟩ []).1=x.2.1))) (fun x=>x.2.1.l.length) (b.length,(ah.mk b false 0),[],none,0,0) ⟨O,lr,a4,(be.nil w.heap.size _ _ (bq true) _),(by(try dsimp only);omega),(fun _=>(show(0:Int)≤245 from by decide)),(by(try dsimp only);simp),.inl ⟨rfl,Nat.le_refl _,rfl⟩⟩ ?_
 rintro⟨n,C,L,B,cq,s⟩ a5 ⟨aI,P,aJ,aK,aM,aO,aP,aQ⟩
 refine iq [(0,.int .i64 dir),(1,.int .u8 21),(6,.slice none 0 0),(7,.int .i64 0),(8,.pointer (some ⟨d,0,none⟩)),(9,.slice B L.length cq),(10,.int .i64 s)] ?_
 have a:RC w m A cp b a5 d C:=aJ
 have hlC:=RC.clen a
 have hrC:ia C:=RC.rng a
 have j:be w.heap.size 109 4 (bq true) a5 (.slice B L.length cq) L:=aK
 have bj:0≤s:=aM
 have bm:C.e=0→s≤245:=aO
 have br:L.length+C.l.length≤b.length:=aP
 have Q:(C.e=0∧C.l.length≤n∧aN cN n s C L=aN cN b.length 0 ⟨b,false,0⟩ [])∨(C.e≠0∧(aN cN b.length 0 ⟨b,false,0⟩ []).1=C):=aQ
 refine sq<|sg<|Pl 1<|L0<|Oc<|m1 (gO a) fun bt c=>?_
 have bu:=RC.clen a
 refine Pl 2<|cu 6 [20] 26 (((decide (0<((C.l.length:Nat) : Int)))&&(C.e==0))) (fun K a6=>?_) ?_
 refine bl 20 ((decide (0<((C.l.length:Nat) : Int)))) (fun r=>?_) (fun r=>?_)
 have aW:=of_decide_eq_true r
 refine Pl 3<|?_
 exact L1<|dU (p:=⟨d,3,none⟩) (v:=.int .i64 C.e) (RC.fld (RC.upd a c ay (aD.step (RC.u a) c)))<|Pl 2<|ce a6 (C.e==0) (by rw[r];rfl)
 have aW:=of_decide_eq_false r
 exact Pl 6<|ce a6 false (by rw[r];rfl)
 refine nt<|?_
 have F:=aH aI c
 refine cb (((decide (0<((C.l.length:Nat) : Int)))&&(C.e==0))) (fun g=>?_) (fun g=>?_)
 have S:=(aS g).1
 have T:=(aS g).2
 have bv:=of_decide_eq_true S
 have bw:=al T
 refine bo<|bk<|sg<|Pl 1<|L0<|bI #[.int .u16 0,.int .u16 0,.int .u16 0,.slice none 0 0] fun U bz k a7 V=>L0<|b6 a7 #[.int .u16 0,.int .u16 0,.int .u16 0,.slice none 0 0] fun bA aX G=>nt<|sq<|sg<|Pl 6<|nl<|?_
 refine tn<|c0<|sg<|Pl 1<|?_
 have a8:=ud V G k
 have H:=aH c a8
 refine L0<|Oc<|m5 (un (RC.upd a H ay (aD.step (RC.u a) H))) fun bB aY aZ b0 b1 t=>?_
 obtain⟨bC,bD⟩:=aY
 obtain⟨bE,bF⟩:=aZ
 obtain⟨bG,bH⟩:=b0
 have y:=nb (RC.lt a4) (le P c.size) k
 refine L0<|b6 (aU t (Ne.symm y) aX) #[.int .u16 ((aL C).file),.int .u16 ((aL C).record),.int .u16 ((aL C).count),.slice none 0 0] fun bJ b2 I=>ng<|Pl 2<|nt<|c1<|sq<|Rg 9 (fun w'=>w'.cell? ⟨U,2,none⟩=some (.int .u16 ((aL C).count))) fun bK z=>?_
 have a9:=ub z b2
 refine bh (ag a9 rfl) fun o=>Rt 0 o<|Rt 1 o<|Rl 2 o (fun _ hs=>hs)<|Rr 3 o (.int .i64 ((aL C).count)) (fun _ _=>cJ (.int .i64 (IntKind.i64.wrap ((aL C).count))) (by kernel_rfl) (congrArg (Value.int .i64) (i64_in (by omega))))<|Rr 4 o (.int .i64 (2*((aL C).count))) (fun _ _=>cJ (.int .i64 (IntKind.i64.wrap (2*((aL C).count)))) (by kernel_rfl) (congrArg (Value.int .i64) (IntWalk.i64_in _ (by omega))))<|Rt 5 o<|?_
 have ab:=aH I z
 have W:=us t ab
 have ad:=ud F (ue a8 W k) N
 have J:=RC.upd b1 ab (aa y ay) ad
 refine R0 6 rfl<|Oc<|m1 (gO J) fun bL f=>?_
 have bM:=RC.clen J
 have ae:=ub f a9
 refine bh (ag ae rfl) fun b3=>Rt 7 b3<|?_
 refine R0 8 rfl<|Oc<|m2 (aV ((decide ((2*((aL C).count))≤(((dy C).l.length:Nat) : Int)))) 5 (RC.upd J f ay (aD.step (RC.u J) f))) fun bN b4 q=>?_
 refine fj b4 fun x93 b5 b7=>?_
 have X:=aU q (Ne.symm y) ae
 refine bh (ag X rfl) fun bO=>re<|tn<|go<|Pl 2<|L0<|aR X 2<|L0<|Oi ((aL C).count)<|L0<|Oc<|lS (fw (n:=(aL C).count) (by omega) b7) fun af ai bP aj bQ bR an D=>Pl 1<|?_
 refine L0<|bT (aU D (Ne.symm y) X) 3 #[.int .u16 ((aL C).file),.int .u16 ((aL C).record),.int .u16 ((aL C).count),.slice af ((x93.wordsR ((aL C).count)).length) ai] fun bS b8 Y=>nt<|go<|Pl 1<|L0<|cl b8<|L0<|dx (m:=1) (e:=109) #[.int .u16 ((aL C).file),.int .u16 ((aL C).record),.int .u16 ((aL C).count),.slice af ((x93.wordsR ((aL C).count)).length) ai] fun bU bV bW ba Z=>?_
 have a0:=aH Y Z
 have bb:=iZ (R:=bq true) (x:=(dl.mk ((aL C).file) ((aL C).record) ((aL C).count) (x93.wordsR ((aL C).count)))) ba rfl ⟨_,rfl,((ax aj a0 (fun x hx=>(aa (fun e=>(aA (ak a7) (le (le (le (le (le G.size t.size) I.size) z.size) f.size) q.size) aj) (e▸hx)) ay)) (fun _ _ h=>h))).rd,aC (x:=(aL C).file) (by omega),aC (x:=(aL C).record) (by omega),aC (x:=(aL C).count) (by omega)⟩
 have ao:=uz f (ui q (us D a0))
 have ar:=ue H (ut W ao (ac im (ac im aq))) (le c.size k)
 have au:=ax j ar (fun x hx=>(aa (fun e=>(RC.nrow a j (by decide)) (e▸hx)) ay)) (bq.upd16 ar (am (RC.safe a _ (by decide)) aG))
 refine L0<|gi (xs:=L) (ys:=([(dl.mk ((aL C).file) ((aL C).record) ((aL C).count) (x93.wordsR ((aL C).count)))])) (.agg #[.int .u16 0,.int .u16 0,.int .u16 0,.slice none 0 0]) 4 32 au bb (by simp) bq.ones (fun w' hv=>bq.upd16 hv (cP (dc _ au (by decide)) aG)) (by(try simp only[List.length_append,List.length_cons,List.length_nil,aB]);omega) (le (le (le (le (le (le (le (le (le (le (le (le O.size P) c.size) V.size) G.size) t.size) I.size) z.size) f.size) q.size) D.size) Y.size) Z.size) fun bc bd bX bf a1=>Pl 1<|nl<|bn<|?_
 subst b5
 have hC2:(cN s C).2.1=(((dy C).need (decide ((2*((aL C).count))≤(((dy C).l.length:Nat) : Int))) 5).wordsC ((aL C).count)):=by show ib C=_;(try simp only[ib,gV,mu,g,S,T,bs,if_true,if_false,decide_true,decide_false]);all_goals rfl
 have hM2:[(cN s C).2.2]=[(dl.mk ((aL C).file) ((aL C).record) ((aL C).count) (((dy C).need (decide ((2*((aL C).count))≤(((dy C).l.length:Nat) : Int))) 5).wordsR ((aL C).count)))]:=by show[gV C]=_;(try simp only[ib,gV,mu,g,S,T,bs,if_true,if_false,decide_true,decide_false]);all_goals rfl
 have hS2:(cN s C).1=s:=by(try (show s=_));(try simp only[eg,← Int.add_assoc]);all_goals rfl
 have hlt:=ph s C (by omega)
 have h9:=gB (one:=cN) Q (by omega) (by omega) hlt
 rw[hC2,hM2,hS2] at h9
 rw[hC2] at hlt
 have aw:=ut ad (ut (aD.mono (S':=(d :: (U :: (ob B++[])))) ao (ac im (ac im aq))) a1 (av il aq)) (ac (nr N) (ac (ni F.size k) (av (aT j lr) aq)))
 have az:=ue H (u1 W (uz f (u1 q D im)) im) (le c.size k)
 exact ga ((n-1),(((dy C).need (decide ((2*((aL C).count))≤(((dy C).l.length:Nat) : Int))) 5).wordsC ((aL C).count)),(L++[(dl.mk ((aL C).file) ((aL C).record) ((aL C).count) (((dy C).need (decide ((2*((aL C).count))≤(((dy C).l.length:Nat) : Int))) 5).wordsR ((aL C).count)))]),bc,bd,s) ⟨aw,(le (le (le (le (le (le (le (le (le (le (le (le P c.size) V.size) G.size) t.size) I.size) z.size) f.size) q.size) D.size) Y.size) Z.size) a1.size),(RC.upd an (ut (aD.mono (S':=(U :: (ob B++[]))) a0 (ac im aq)) a1 (av il aq)) (aa y (bi (RC.nrow an (ax j az (fun x hx=>(aa (fun e=>(RC.nrow a j (by decide)) (e▸hx)) ay)) (bq.upd16 az (am (RC.safe a _ (by decide)) aG))) (by decide)) ay)) aw),bf,(by(try dsimp only);omega),(by(try dsimp only);intro he;omega),(by(try dsimp only);simp only[List.length_append,List.length_cons,List.length_nil];omega),h9⟩ (by omega)
 refine xt<|tx<|tx<|bx<|tn<|sq<|sg<|Pl 3<|?_
 have a2:=RC.upd a c ay (aD.step (RC.u a) c)
 refine L0<|dU (p:=⟨d,3,none⟩) (v:=.int .i64 C.e) (RC.fld a2)<|Pl 1<|nt<|cb ((C.e==2)) (fun E=>?_) (fun E=>?_)
 have bg:=al E
 refine sg<|Pl 2<|nt<|rt<|tr<|rr (.tuple #[.slice none 0 0,.int .i64 5])<|?_
 obtain⟨hH,hY⟩:=f8 Q g
 have hw:bp (aN cN b.length 0 ⟨b,false,0⟩ []).1.e=5:=by unfold bp;rw[hH,if_pos E]
 refine⟨none,0,0,by rw[hw],fun h=>absurd (hw.symm.trans h) (by decide),F⟩
 have bg:=ap E
 refine bo<|sq<|Rg 7 (fun w'=>w'.cell? ⟨d,3,none⟩=some (.int .i64 C.e)) fun bY M=>?_
 refine bh (RC.fld (RC.upd a2 M ay (aD.step (RC.u a2) M))) fun i=>Rt 0 i<|Rt 1 i<|Rt 2 i<|Rt 3 i<|Rl 4 i (fun _ hs=>hs)<|Rt 5 i<|Rt 6 i<|re<|tn<|rt<|rr (.tuple #[.slice B L.length cq,.int .i64 C.e])<|?_
 obtain⟨hH,hY⟩:=f8 Q g
 have hw:bp (aN cN b.length 0 ⟨b,false,0⟩ []).1.e=C.e:=by unfold bp;rw[hH,if_neg (by rw[E];decide)]
 have aE:=aH c M
 refine⟨_,_,_,by rw[hw],fun h=>by rw[hY (hw.symm.trans h)];exact(ax j aE (fun x hx=>ay) (bq.upd16 aE aG)),(aH F M)⟩
theorem kW{m:Md}{v:Value}{b:List Int}{w:World}(h:b9 m w v b)(hb:b.length≤1048576) :
    Calls Tryz.prog 163 #[.int .i64 0,.int .u8 20,v] w (ft (aN cM b.length 0 ⟨b,false,0⟩ []) w):=by
  obtain⟨A,cp,rfl,_,_⟩:=h.shape
  exact sc h hb
theorem kT{m:Md}{v:Value}{b:List Int}{w:World}(h:b9 m w v b)(hb:b.length≤1048576) :
    Calls Tryz.prog 163 #[.int .i64 1,.int .u8 20,v] w (ft (aN bG b.length 0 ⟨b,false,0⟩ []) w):=by
  obtain⟨A,cp,rfl,_,_⟩:=h.shape
  exact ri h hb
theorem lv{m:Md}{v:Value}{b:List Int}{w:World}{dir:Int}(h:b9 m w v b)(hb:b.length≤1048576) :
    Calls Tryz.prog 163 #[.int .i64 dir,.int .u8 21,v] w (ft (aN cN b.length 0 ⟨b,false,0⟩ []) w):=by
  obtain⟨A,cp,rfl,_,_⟩:=h.shape
  exact si h hb
open Go.RowKit
theorem fJ{x:Int}(h:bp x=0) : x=0:=by
  unfold bp at h
  split at h
  · cases h
  · exact h
theorem iG{x:Int}(h:¬ bp x=0) : (x != 0)=true:=by
  rw[bne_iff_ne]
  rintro rfl
  exact h rfl
theorem gj:((0:Int)!=0)=false:=rfl
theorem rv{m:Md}{A:Option Addr}{cp:Nat}{b:List Int}{w:World}(hsl:b9 m w (.slice A b.length cp) b)(hb:b.length≤1048576) :
    Calls Tryz.prog 96 #[.int .i64 0,.int .u8 20,.slice A b.length cp] w (d9 (.slice A b.length cp) b (bH cM ed 20 b) w):=by
 have hln:(b.length:Int)≤1048576:=by omega
 have hcp:b.length≤cp:=by obtain⟨_,_,hv,h1,_⟩:=aK.shape hsl;injection hv with _ _ h3;omega
 have hrb:=b9.range hsl
 refine en 101 Tryz.func96 rfl<|sg<|L0<|bI mZ fun a9 ab i g j=>Pl 1<|nt<|sq<|sg<|Pl 6<|nt<|c0<|?_
 refine bo<|sq<|sg<|Pl 6<|nt<|c0<|bo<|sq<|sg<|?_
 refine Pl 3<|nt<|cb ((((b.length:Nat) : Int)==0)) (fun a=>?_) (fun a=>?_)
 have J:=al a
 refine sg<|Pl 1<|L0<|b6 g mZ fun ac L M=>Pl 1<|nt<|rt<|tr<|bF L (.int .i64 2)<|?_
 have hs:bH cM ed 20 b=(aP.zero,2):=by
   unfold bH dr cR ed
   (try simp only[a,bs,if_true,if_false,decide_true,decide_false,gj,reduceIte])
   all_goals rfl
 rw[hs]
 exact bv (ud j M i)
 have J:=ap a
 refine bo<|sg<|Pl 1<|?_
 have t:=b9.old hsl j
 refine fy (b9.at_ t 0 (by omega)) fun N O Q R ad=>L0<|jb b.length 0 Q (by omega)<|L0<|dU (p:=⟨N,O+0,none⟩) (v:=.int .u8 (b.getD 0 0)) R<|L0<|Oi (b.getD 0 0)<|Pl 1<|ng<|Pl 3<|cu 3 [36] 39 (((decide (9≤(b.getD 0 0)))&&(decide ((b.getD 0 0)≤251)))) (fun K C=>?_) ?_
 refine bl 36 ((decide (9≤(b.getD 0 0)))) (fun l=>?_) (fun l=>?_)
 have S:=of_decide_eq_true l
 exact Pl 3<|ce C (decide ((b.getD 0 0)≤251)) (by rw[l];rfl)
 have S:=of_decide_eq_false l
 exact Pl 3<|ce C false (by rw[l];rfl)
 refine Pl 1<|nt<|sq<|sg<|Pl 6<|nt<|c1<|go<|Pl 3<|cu 3 [48] 51 (((decide (7≤(b.getD 0 0)))&&(decide ((b.getD 0 0)≤245)))) (fun K D=>?_) ?_
 refine bl 48 ((decide (7≤(b.getD 0 0)))) (fun o=>?_) (fun o=>?_)
 have T:=of_decide_eq_true o
 exact Pl 3<|ce D (decide ((b.getD 0 0)≤245)) (by rw[o];rfl)
 have T:=of_decide_eq_false o
 exact Pl 3<|ce D false (by rw[o];rfl)
 refine Pl 1<|cu 4 [52] 56 ((((decide (7≤(b.getD 0 0)))&&(decide ((b.getD 0 0)≤245)))&&(((b.getD 0 0)%7)==0))) (fun K E=>?_) ?_
 refine bl 52 (((decide (7≤(b.getD 0 0)))&&(decide ((b.getD 0 0)≤245)))) (fun q=>?_) (fun q=>?_)
 have U:=(aS q).1
 have V:=(aS q).2
 have ae:=of_decide_eq_true U
 have af:=of_decide_eq_true V
 exact Pl 1<|L1<|Oe (.int .i64 (Int.tmod (b.getD 0 0) 7)) (.int .i64 ((b.getD 0 0)%7)) (congrArg (Value.int .i64) (Int.tmod_eq_emod_of_nonneg (by omega)))<|Pl 2<|ce E (((b.getD 0 0)%7)==0) (by rw[q];rfl)
 exact Pl 4<|ce E false (by rw[q];rfl)
 refine Pl 1<|nt<|sq<|sg<|Pl 6<|nt<|c0<|bo<|sq<|sq<|?_
 refine go<|Pl 2<|nt<|cb ((!(((decide (7≤(b.getD 0 0)))&&(decide ((b.getD 0 0)≤245)))&&(((b.getD 0 0)%7)==0)))) (fun d=>?_) (fun d=>?_)
 have f:(((decide (7≤(b.getD 0 0)))&&(decide ((b.getD 0 0)≤245)))&&(((b.getD 0 0)%7)==0))=false:=by simpa only[Bool.not_eq_true',Bool.not_eq_false'] using d
 refine sg<|Pl 1<|L0<|b6 g mZ fun ag W X=>Pl 1<|nt<|rt<|tr<|bF W (.int .i64 5)<|?_
 have hs:bH cM ed 20 b=(aP.zero,5):=by
   unfold bH dr cR ed
   (try simp only[a,d,f,bs,if_true,if_false,decide_true,decide_false,gj,reduceIte])
   all_goals rfl
 rw[hs]
 exact bv (ud j X i)
 have f:(((decide (7≤(b.getD 0 0)))&&(decide ((b.getD 0 0)≤245)))&&(((b.getD 0 0)%7)==0))=true:=by simpa only[Bool.not_eq_true',Bool.not_eq_false'] using d
 have k:=(aS f).1
 have r:=(aS f).2
 have q32naa:=(aS k).1
 have q32nab:=(aS k).2
 have q32naap:=of_decide_eq_true q32naa
 have q32nabp:=of_decide_eq_true q32nab
 have q32nbp:=al r
 refine bo<|sq<|sg<|Pl 3<|L0<|Oi ((b.getD 0 0)+1)<|Pl 1<|nt<|cb ((decide (((b.length:Nat) : Int)<((b.getD 0 0)+1)))) (fun h=>?_) (fun h=>?_)
 have Y:=of_decide_eq_true h
 refine sg<|Pl 1<|L0<|b6 g mZ fun ah Z a0=>Pl 1<|nt<|rt<|tr<|bF Z (.int .i64 2)<|?_
 have hs:bH cM ed 20 b=(aP.zero,2):=by
   unfold bH dr cR ed
   (try simp only[a,d,f,k,q32naa,q32nab,r,h,bs,if_true,if_false,decide_true,decide_false,gj,reduceIte])
   all_goals rfl
 rw[hs]
 exact bv (ud j a0 i)
 have Y:=of_decide_eq_false h
 refine bo<|sg<|Pl 4<|L0<|Oi ((b.getD 0 0)+1)<|mM (g8 (P:=Tryz.prog) 22 5 1 Tryz.underlying22 rfl rfl A b.length cp (lo:=1) (up:=((b.getD 0 0)+1)) 1 ((((b.getD 0 0)+1)).toNat) (by omega) (by omega) (by omega) (by omega) (by omega)) fun u hrun43 F=>L0<|hZ (.slice u (((((b.getD 0 0)+1)).toNat)-1) (cp-1)) (eB (kl:=.i64) (kh:=.i64) (lo:=1) (hi:=((b.getD 0 0)+1)) (A:=A) (n:=b.length) (c:=cp) rfl Tryz.underlying22 (by kernel_rfl) (by kernel_rfl) (by kernel_rfl) (hrun43 _ _ _))<|?_
 by_cases hE:bp (aN cM (((b.take ((((b.getD 0 0)+1)).toNat)).drop 1)).length 0 ⟨((b.take ((((b.getD 0 0)+1)).toNat)).drop 1),false,0⟩ []).1.e=0
 refine L0<|Oc (args:=#[.int .i64 0,.int .u8 20,.slice u (((((b.getD 0 0)+1)).toNat)-1) (cp-1)])<|e2 (jw (kW (F _ _ _ _ _ t) (by rw[List.length_drop,List.length_take];omega)) hE) fun ai aj y z=>?_
 obtain⟨a1,a2,rfl,an,ao⟩:=aK.shape y.rd
 refine Pl 5<|nt<|sq<|sg<|Pl 2<|nt<|c0<|bo<|sq<|sq<|?_
 refine go<|Pl 3<|L0<|Oi ((b.getD 0 0)+1)<|Pl 1<|nt<|?_
 have G:=aH j z
 refine cb ((decide (((b.getD 0 0)+1)<((b.length:Nat) : Int)))) (fun s=>?_) (fun s=>?_)
 have a3:=of_decide_eq_true s
 refine sg<|Pl 1<|?_
 refine L0<|b6 (ub z g) mZ fun aq a4 a5=>Pl 1<|nt<|rt<|tr<|bF a4 (.int .i64 3)<|?_
 have hE0:(aN cM (((b.take ((((b.getD 0 0)+1)).toNat)).drop 1)).length 0 ⟨((b.take ((((b.getD 0 0)+1)).toNat)).drop 1),false,0⟩ []).1.e=0:=fJ hE
 have hs:bH cM ed 20 b=(aP.zero,3):=by
   unfold bH dr cR ed
   (try simp only[a,d,f,k,q32naa,q32nab,r,h,s,bs,if_true,if_false,decide_true,decide_false,hE0,gj,reduceIte])
   all_goals rfl
 rw[hs]
 exact bv (ud G a5 i)
 have a3:=of_decide_eq_false s
 refine bo<|sg<|Pl 3<|?_
 have H:=ub z g
 refine L0<|b6 H (mG 20 0 0 0 0 0 0 0 0 0 0 0 nS nS nS (.slice a1 ((aN cM (((b.take ((((b.getD 0 0)+1)).toNat)).drop 1)).length 0 ⟨((b.take ((((b.getD 0 0)+1)).toNat)).drop 1),false,0⟩ []).2.length) a2) 0 0 0 0 0 nS) fun ar a6 B=>Pl 1<|nt<|rt<|bF a6 (.int .i64 0)<|?_
 have hE0:(aN cM (((b.take ((((b.getD 0 0)+1)).toNat)).drop 1)).length 0 ⟨((b.take ((((b.getD 0 0)+1)).toNat)).drop 1),false,0⟩ []).1.e=0:=fJ hE
 have hs:bH cM ed 20 b=((aP.mk 20 0 0 0 0 0 0 0 0 0 0 0 [] [] [] (aN cM (((b.take ((((b.getD 0 0)+1)).toNat)).drop 1)).length 0 ⟨((b.take ((((b.getD 0 0)+1)).toNat)).drop 1),false,0⟩ []).2 0 0 0 0 0 []),0):=by
   unfold bH dr cR ed
   (try simp only[a,d,f,k,q32naa,q32nab,r,h,s,bs,if_true,if_false,decide_true,decide_false,hE0,gj,reduceIte])
   all_goals rfl
 rw[hs]
 exact⟨_,rfl,⟨_,_,_,_,_,rfl,aK.nil ..,aK.nil ..,(fun _ _ _=>aK.nil ..),((ax y B (fun x hx=>(aa (fun e=>(aA (ak g) lr y) (e▸hx)) ay)) (bq.upd16 B (am (aQ H (by decide)) aG)))).rd,aK.nil ..,⟨(b8 (x:=20) (by omega)),(b8 (x:=0) (by omega)),(aC (x:=0) (by omega)),(aC (x:=0) (by omega)),(aC (x:=0) (by omega)),(aC (x:=0) (by omega)),(aC (x:=0) (by omega)),(aC (x:=0) (by omega)),(aC (x:=0) (by omega)),(aC (x:=0) (by omega)),(aC (x:=0) (by omega)),(aC (x:=0) (by omega)),(b8 (x:=0) (by omega)),(b8 (x:=0) (by omega)),(b8 (x:=0) (by omega)),(b8 (x:=0) (by omega)),(b8 (x:=0) (by omega))⟩⟩,(ud G B i)⟩
 refine L0<|Oc (args:=#[.int .i64 0,.int .u8 20,.slice u (((((b.getD 0 0)+1)).toNat)-1) (cp-1)])<|?_
 refine(ir (kW (F _ _ _ _ _ t) (by rw[List.length_drop,List.length_take];omega))).mono ?_
 rintro _ au ⟨av,aw,az,rfl,I⟩
 refine⟨_,rfl,?_⟩
 have hE1:(bp (aN cM (((b.take ((((b.getD 0 0)+1)).toNat)).drop 1)).length 0 ⟨((b.take ((((b.getD 0 0)+1)).toNat)).drop 1),false,0⟩ []).1.e != 0)=true:=by simpa using hE
 refine Pl 5<|nt<|sq<|sg<|Pl 2<|nt<|ct hE1<|sg<|Pl 2<|?_
 refine L0<|b6 (ub I g) mZ fun aB a7 a8=>Pl 1<|nt<|rt<|tr<|bF a7 (.int .i64 (bp (aN cM (((b.take ((((b.getD 0 0)+1)).toNat)).drop 1)).length 0 ⟨((b.take ((((b.getD 0 0)+1)).toNat)).drop 1),false,0⟩ []).1.e))<|?_
 have hE3:((aN cM (((b.take ((((b.getD 0 0)+1)).toNat)).drop 1)).length 0 ⟨((b.take ((((b.getD 0 0)+1)).toNat)).drop 1),false,0⟩ []).1.e != 0)=true:=iG hE
 have hs:bH cM ed 20 b=(aP.zero,bp (aN cM (((b.take ((((b.getD 0 0)+1)).toNat)).drop 1)).length 0 ⟨((b.take ((((b.getD 0 0)+1)).toNat)).drop 1),false,0⟩ []).1.e):=by
   unfold bH dr cR ed
   (try simp only[a,d,f,k,q32naa,q32nab,r,h,hE1,bs,if_true,if_false,decide_true,decide_false,hE3,gj,reduceIte])
   all_goals rfl
 rw[hs]
 exact bv (ud j (uz I a8) i)
theorem rc{m:Md}{A:Option Addr}{cp:Nat}{b:List Int}{w:World}(hsl:b9 m w (.slice A b.length cp) b)(hb:b.length≤1048576) :
    Calls Tryz.prog 96 #[.int .i64 1,.int .u8 20,.slice A b.length cp] w (d9 (.slice A b.length cp) b (bH bG ef 20 b) w):=by
 have hln:(b.length:Int)≤1048576:=by omega
 have hcp:b.length≤cp:=by obtain⟨_,_,hv,h1,_⟩:=aK.shape hsl;injection hv with _ _ h3;omega
 have hrb:=b9.range hsl
 refine en 101 Tryz.func96 rfl<|sg<|L0<|bI mZ fun a5 a6 i g j=>Pl 1<|nt<|sq<|sg<|Pl 6<|nt<|c0<|?_
 refine bo<|sq<|sg<|Pl 6<|nt<|c0<|bo<|sq<|sg<|?_
 refine Pl 3<|nt<|cb ((((b.length:Nat) : Int)==0)) (fun a=>?_) (fun a=>?_)
 have H:=al a
 refine sg<|Pl 1<|L0<|b6 g mZ fun a7 I J=>Pl 1<|nt<|rt<|tr<|bF I (.int .i64 2)<|?_
 have hs:bH bG ef 20 b=(aP.zero,2):=by
   unfold bH dr cR ef
   (try simp only[a,bs,if_true,if_false,decide_true,decide_false,gj,reduceIte])
   all_goals rfl
 rw[hs]
 exact bv (ud j J i)
 have H:=ap a
 refine bo<|sg<|Pl 1<|?_
 have s:=b9.old hsl j
 refine fy (b9.at_ s 0 (by omega)) fun L M N O a8=>L0<|jb b.length 0 N (by omega)<|L0<|dU (p:=⟨L,M+0,none⟩) (v:=.int .u8 (b.getD 0 0)) O<|L0<|Oi (b.getD 0 0)<|Pl 1<|ng<|Pl 3<|cu 3 [36] 39 (((decide (9≤(b.getD 0 0)))&&(decide ((b.getD 0 0)≤251)))) (fun K B=>?_) ?_
 refine bl 36 ((decide (9≤(b.getD 0 0)))) (fun k=>?_) (fun k=>?_)
 have Q:=of_decide_eq_true k
 exact Pl 3<|ce B (decide ((b.getD 0 0)≤251)) (by rw[k];rfl)
 have Q:=of_decide_eq_false k
 exact Pl 3<|ce B false (by rw[k];rfl)
 refine Pl 1<|nt<|sq<|sg<|Pl 6<|nt<|c0<|bo<|sq<|sq<|?_
 refine go<|Pl 6<|nt<|c1<|go<|Pl 3<|cu 3 [65] 68 (((decide (4≤(b.getD 0 0)))&&(decide ((b.getD 0 0)≤245)))) (fun K C=>?_) ?_
 refine bl 65 ((decide (4≤(b.getD 0 0)))) (fun l=>?_) (fun l=>?_)
 have R:=of_decide_eq_true l
 exact Pl 3<|ce C (decide ((b.getD 0 0)≤245)) (by rw[l];rfl)
 have R:=of_decide_eq_false l
 exact Pl 3<|ce C false (by rw[l];rfl)
 refine Pl 1<|nt<|sq<|sg<|Pl 2<|nt<|cb ((!((decide (4≤(b.getD 0 0)))&&(decide ((b.getD 0 0)≤245))))) (fun d=>?_) (fun d=>?_)
 have f:((decide (4≤(b.getD 0 0)))&&(decide ((b.getD 0 0)≤245)))=false:=by simpa only[Bool.not_eq_true',Bool.not_eq_false'] using d
 refine sg<|Pl 1<|L0<|b6 g mZ fun a9 S T=>Pl 1<|nt<|rt<|tr<|bF S (.int .i64 5)<|?_
 have hs:bH bG ef 20 b=(aP.zero,5):=by
   unfold bH dr cR ef
   (try simp only[a,d,f,bs,if_true,if_false,decide_true,decide_false,gj,reduceIte])
   all_goals rfl
 rw[hs]
 exact bv (ud j T i)
 have f:((decide (4≤(b.getD 0 0)))&&(decide ((b.getD 0 0)≤245)))=true:=by simpa only[Bool.not_eq_true',Bool.not_eq_false'] using d
 have o:=(aS f).1
 have q:=(aS f).2
 have q30nap:=of_decide_eq_true o
 have q30nbp:=of_decide_eq_true q
 refine bo<|sq<|sg<|Pl 3<|L0<|Oi ((b.getD 0 0)+1)<|Pl 1<|nt<|cb ((decide (((b.length:Nat) : Int)<((b.getD 0 0)+1)))) (fun h=>?_) (fun h=>?_)
 have U:=of_decide_eq_true h
 refine sg<|Pl 1<|L0<|b6 g mZ fun ab V W=>Pl 1<|nt<|rt<|tr<|bF V (.int .i64 2)<|?_
 have hs:bH bG ef 20 b=(aP.zero,2):=by
   unfold bH dr cR ef
   (try simp only[a,d,f,o,q,h,bs,if_true,if_false,decide_true,decide_false,gj,reduceIte])
   all_goals rfl
 rw[hs]
 exact bv (ud j W i)
 have U:=of_decide_eq_false h
 refine bo<|sg<|Pl 4<|L0<|Oi ((b.getD 0 0)+1)<|mM (g8 (P:=Tryz.prog) 22 5 1 Tryz.underlying22 rfl rfl A b.length cp (lo:=1) (up:=((b.getD 0 0)+1)) 1 ((((b.getD 0 0)+1)).toNat) (by omega) (by omega) (by omega) (by omega) (by omega)) fun t hrun41 D=>L0<|hZ (.slice t (((((b.getD 0 0)+1)).toNat)-1) (cp-1)) (eB (kl:=.i64) (kh:=.i64) (lo:=1) (hi:=((b.getD 0 0)+1)) (A:=A) (n:=b.length) (c:=cp) rfl Tryz.underlying22 (by kernel_rfl) (by kernel_rfl) (by kernel_rfl) (hrun41 _ _ _))<|?_
 by_cases hE:bp (aN bG (((b.take ((((b.getD 0 0)+1)).toNat)).drop 1)).length 0 ⟨((b.take ((((b.getD 0 0)+1)).toNat)).drop 1),false,0⟩ []).1.e=0
 refine L0<|Oc (args:=#[.int .i64 1,.int .u8 20,.slice t (((((b.getD 0 0)+1)).toNat)-1) (cp-1)])<|e2 (jw (kT (D _ _ _ _ _ s) (by rw[List.length_drop,List.length_take];omega)) hE) fun ac ad u y=>?_
 obtain⟨X,Y,rfl,ae,af⟩:=aK.shape u.rd
 refine Pl 5<|nt<|sq<|sg<|Pl 2<|nt<|c0<|bo<|sq<|sq<|?_
 refine go<|Pl 3<|L0<|Oi ((b.getD 0 0)+1)<|Pl 1<|nt<|?_
 have E:=aH j y
 refine cb ((decide (((b.getD 0 0)+1)<((b.length:Nat) : Int)))) (fun r=>?_) (fun r=>?_)
 have Z:=of_decide_eq_true r
 refine sg<|Pl 1<|?_
 refine L0<|b6 (ub y g) mZ fun ag a0 a1=>Pl 1<|nt<|rt<|tr<|bF a0 (.int .i64 3)<|?_
 have hE0:(aN bG (((b.take ((((b.getD 0 0)+1)).toNat)).drop 1)).length 0 ⟨((b.take ((((b.getD 0 0)+1)).toNat)).drop 1),false,0⟩ []).1.e=0:=fJ hE
 have hs:bH bG ef 20 b=(aP.zero,3):=by
   unfold bH dr cR ef
   (try simp only[a,d,f,o,q,h,r,bs,if_true,if_false,decide_true,decide_false,hE0,gj,reduceIte])
   all_goals rfl
 rw[hs]
 exact bv (ud E a1 i)
 have Z:=of_decide_eq_false r
 refine bo<|sg<|Pl 3<|?_
 have F:=ub y g
 refine L0<|b6 F (mG 20 0 0 0 0 0 0 0 0 0 0 0 nS nS nS (.slice X ((aN bG (((b.take ((((b.getD 0 0)+1)).toNat)).drop 1)).length 0 ⟨((b.take ((((b.getD 0 0)+1)).toNat)).drop 1),false,0⟩ []).2.length) Y) 0 0 0 0 0 nS) fun ah a2 z=>Pl 1<|nt<|rt<|bF a2 (.int .i64 0)<|?_
 have hE0:(aN bG (((b.take ((((b.getD 0 0)+1)).toNat)).drop 1)).length 0 ⟨((b.take ((((b.getD 0 0)+1)).toNat)).drop 1),false,0⟩ []).1.e=0:=fJ hE
 have hs:bH bG ef 20 b=((aP.mk 20 0 0 0 0 0 0 0 0 0 0 0 [] [] [] (aN bG (((b.take ((((b.getD 0 0)+1)).toNat)).drop 1)).length 0 ⟨((b.take ((((b.getD 0 0)+1)).toNat)).drop 1),false,0⟩ []).2 0 0 0 0 0 []),0):=by
   unfold bH dr cR ef
   (try simp only[a,d,f,o,q,h,r,bs,if_true,if_false,decide_true,decide_false,hE0,gj,reduceIte])
   all_goals rfl
 rw[hs]
 exact⟨_,rfl,⟨_,_,_,_,_,rfl,aK.nil ..,aK.nil ..,(fun _ _ _=>aK.nil ..),((ax u z (fun x hx=>(aa (fun e=>(aA (ak g) lr u) (e▸hx)) ay)) (bq.upd16 z (am (aQ F (by decide)) aG)))).rd,aK.nil ..,⟨(b8 (x:=20) (by omega)),(b8 (x:=0) (by omega)),(aC (x:=0) (by omega)),(aC (x:=0) (by omega)),(aC (x:=0) (by omega)),(aC (x:=0) (by omega)),(aC (x:=0) (by omega)),(aC (x:=0) (by omega)),(aC (x:=0) (by omega)),(aC (x:=0) (by omega)),(aC (x:=0) (by omega)),(aC (x:=0) (by omega)),(b8 (x:=0) (by omega)),(b8 (x:=0) (by omega)),(b8 (x:=0) (by omega)),(b8 (x:=0) (by omega)),(b8 (x:=0) (by omega))⟩⟩,(ud E z i)⟩
 refine L0<|Oc (args:=#[.int .i64 1,.int .u8 20,.slice t (((((b.getD 0 0)+1)).toNat)-1) (cp-1)])<|?_
 refine(ir (kT (D _ _ _ _ _ s) (by rw[List.length_drop,List.length_take];omega))).mono ?_
 rintro _ ai ⟨aj,an,ao,rfl,G⟩
 refine⟨_,rfl,?_⟩
 have hE1:(bp (aN bG (((b.take ((((b.getD 0 0)+1)).toNat)).drop 1)).length 0 ⟨((b.take ((((b.getD 0 0)+1)).toNat)).drop 1),false,0⟩ []).1.e != 0)=true:=by simpa using hE
 refine Pl 5<|nt<|sq<|sg<|Pl 2<|nt<|ct hE1<|sg<|Pl 2<|?_
 refine L0<|b6 (ub G g) mZ fun aq a3 a4=>Pl 1<|nt<|rt<|tr<|bF a3 (.int .i64 (bp (aN bG (((b.take ((((b.getD 0 0)+1)).toNat)).drop 1)).length 0 ⟨((b.take ((((b.getD 0 0)+1)).toNat)).drop 1),false,0⟩ []).1.e))<|?_
 have hE3:((aN bG (((b.take ((((b.getD 0 0)+1)).toNat)).drop 1)).length 0 ⟨((b.take ((((b.getD 0 0)+1)).toNat)).drop 1),false,0⟩ []).1.e != 0)=true:=iG hE
 have hs:bH bG ef 20 b=(aP.zero,bp (aN bG (((b.take ((((b.getD 0 0)+1)).toNat)).drop 1)).length 0 ⟨((b.take ((((b.getD 0 0)+1)).toNat)).drop 1),false,0⟩ []).1.e):=by
   unfold bH dr cR ef
   (try simp only[a,d,f,o,q,h,hE1,bs,if_true,if_false,decide_true,decide_false,hE3,gj,reduceIte])
   all_goals rfl
 rw[hs]
 exact bv (ud j (uz G a4) i)
theorem rO{m:Md}{A:Option Addr}{cp:Nat}{b:List Int}{w:World}{dir:Int}(hd:dir=0∨dir=1)(hsl:b9 m w (.slice A b.length cp) b)(hb:b.length≤1048576) :
    Calls Tryz.prog 96 #[.int .i64 dir,.int .u8 21,.slice A b.length cp] w (d9 (.slice A b.length cp) b (bH cN ec 21 b) w):=by
 have hln:(b.length:Int)≤1048576:=by omega
 have hcp:b.length≤cp:=by obtain⟨_,_,hv,h1,_⟩:=aK.shape hsl;injection hv with _ _ h3;omega
 have hrb:=b9.range hsl
 have g:((dir != 0)&&(dir != 1))=false:=by rcases hd with rfl | rfl<;>rfl
 refine en 101 Tryz.func96 rfl<|sg<|L0<|bI mZ fun a6 a7 j h k=>Pl 1<|nt<|sq<|sg<|Pl 3<|cu 3 [14] 17 (((dir != 0)&&(dir != 1))) (fun K C=>?_) ?_
 refine bl 14 ((dir != 0)) (fun l=>?_) (fun l=>?_)
 have I:=au l
 exact Pl 3<|ce C (dir != 1) (by rw[l];rfl)
 have I:=ai l
 exact Pl 3<|ce C false (by rw[l];rfl)
 refine nt<|cf g<|bo<|sq<|sg<|Pl 6<|nt<|c0<|bo<|?_
 refine sq<|sg<|Pl 3<|nt<|cb ((((b.length:Nat) : Int)==0)) (fun a=>?_) (fun a=>?_)
 have J:=al a
 refine sg<|Pl 1<|L0<|b6 h mZ fun a8 L M=>Pl 1<|nt<|rt<|tr<|bF L (.int .i64 2)<|?_
 have hs:bH cN ec 21 b=(aP.zero,2):=by
   unfold bH dr cR ec
   (try simp only[g,a,bs,if_true,if_false,decide_true,decide_false,gj,reduceIte])
   all_goals rfl
 rw[hs]
 exact bv (ud k M j)
 have J:=ap a
 refine bo<|sg<|Pl 1<|?_
 have t:=b9.old hsl k
 refine fy (b9.at_ t 0 (by omega)) fun N O Q R a9=>L0<|jb b.length 0 Q (by omega)<|L0<|dU (p:=⟨N,O+0,none⟩) (v:=.int .u8 (b.getD 0 0)) R<|L0<|Oi (b.getD 0 0)<|Pl 1<|ng<|Pl 3<|cu 3 [36] 39 (((decide (9≤(b.getD 0 0)))&&(decide ((b.getD 0 0)≤251)))) (fun K D=>?_) ?_
 refine bl 36 ((decide (9≤(b.getD 0 0)))) (fun o=>?_) (fun o=>?_)
 have S:=of_decide_eq_true o
 exact Pl 3<|ce D (decide ((b.getD 0 0)≤251)) (by rw[o];rfl)
 have S:=of_decide_eq_false o
 exact Pl 3<|ce D false (by rw[o];rfl)
 refine Pl 1<|nt<|sq<|sg<|Pl 6<|nt<|c0<|bo<|sq<|sq<|?_
 refine go<|Pl 6<|nt<|c0<|bo<|sq<|sg<|Pl 2<|nt<|cb ((!((decide (9≤(b.getD 0 0)))&&(decide ((b.getD 0 0)≤251))))) (fun d=>?_) (fun d=>?_)
 have f:((decide (9≤(b.getD 0 0)))&&(decide ((b.getD 0 0)≤251)))=false:=by simpa only[Bool.not_eq_true',Bool.not_eq_false'] using d
 refine sg<|Pl 1<|L0<|b6 h mZ fun ab T U=>Pl 1<|nt<|rt<|tr<|bF T (.int .i64 5)<|?_
 have hs:bH cN ec 21 b=(aP.zero,5):=by
   unfold bH dr cR ec
   (try simp only[g,a,d,f,bs,if_true,if_false,decide_true,decide_false,gj,reduceIte])
   all_goals rfl
 rw[hs]
 exact bv (ud k U j)
 have f:((decide (9≤(b.getD 0 0)))&&(decide ((b.getD 0 0)≤251)))=true:=by simpa only[Bool.not_eq_true',Bool.not_eq_false'] using d
 have q:=(aS f).1
 have r:=(aS f).2
 have q30nap:=of_decide_eq_true q
 have q30nbp:=of_decide_eq_true r
 refine bo<|sq<|sg<|Pl 3<|L0<|Oi ((b.getD 0 0)+1)<|Pl 1<|nt<|cb ((decide (((b.length:Nat) : Int)<((b.getD 0 0)+1)))) (fun i=>?_) (fun i=>?_)
 have V:=of_decide_eq_true i
 refine sg<|Pl 1<|L0<|b6 h mZ fun ac W X=>Pl 1<|nt<|rt<|tr<|bF W (.int .i64 2)<|?_
 have hs:bH cN ec 21 b=(aP.zero,2):=by
   unfold bH dr cR ec
   (try simp only[g,a,d,f,q,r,i,bs,if_true,if_false,decide_true,decide_false,gj,reduceIte])
   all_goals rfl
 rw[hs]
 exact bv (ud k X j)
 have V:=of_decide_eq_false i
 refine bo<|sg<|Pl 4<|L0<|Oi ((b.getD 0 0)+1)<|mM (g8 (P:=Tryz.prog) 22 5 1 Tryz.underlying22 rfl rfl A b.length cp (lo:=1) (up:=((b.getD 0 0)+1)) 1 ((((b.getD 0 0)+1)).toNat) (by omega) (by omega) (by omega) (by omega) (by omega)) fun u hrun41 E=>L0<|hZ (.slice u (((((b.getD 0 0)+1)).toNat)-1) (cp-1)) (eB (kl:=.i64) (kh:=.i64) (lo:=1) (hi:=((b.getD 0 0)+1)) (A:=A) (n:=b.length) (c:=cp) rfl Tryz.underlying22 (by kernel_rfl) (by kernel_rfl) (by kernel_rfl) (hrun41 _ _ _))<|?_
 by_cases hE:bp (aN cN (((b.take ((((b.getD 0 0)+1)).toNat)).drop 1)).length 0 ⟨((b.take ((((b.getD 0 0)+1)).toNat)).drop 1),false,0⟩ []).1.e=0
 refine L0<|Oc (args:=#[.int .i64 dir,.int .u8 21,.slice u (((((b.getD 0 0)+1)).toNat)-1) (cp-1)])<|e2 (jw (lv (E _ _ _ _ _ t) (by rw[List.length_drop,List.length_take];omega)) hE) fun ad ae y z=>?_
 obtain⟨Y,Z,rfl,af,ag⟩:=aK.shape y.rd
 refine Pl 5<|nt<|sq<|sg<|Pl 2<|nt<|c0<|bo<|sq<|sq<|?_
 refine go<|Pl 3<|L0<|Oi ((b.getD 0 0)+1)<|Pl 1<|nt<|?_
 have F:=aH k z
 refine cb ((decide (((b.getD 0 0)+1)<((b.length:Nat) : Int)))) (fun s=>?_) (fun s=>?_)
 have a0:=of_decide_eq_true s
 refine sg<|Pl 1<|?_
 refine L0<|b6 (ub z h) mZ fun ah a1 a2=>Pl 1<|nt<|rt<|tr<|bF a1 (.int .i64 3)<|?_
 have hE0:(aN cN (((b.take ((((b.getD 0 0)+1)).toNat)).drop 1)).length 0 ⟨((b.take ((((b.getD 0 0)+1)).toNat)).drop 1),false,0⟩ []).1.e=0:=fJ hE
 have hs:bH cN ec 21 b=(aP.zero,3):=by
   unfold bH dr cR ec
   (try simp only[g,a,d,f,q,r,i,s,bs,if_true,if_false,decide_true,decide_false,hE0,gj,reduceIte])
   all_goals rfl
 rw[hs]
 exact bv (ud F a2 j)
 have a0:=of_decide_eq_false s
 refine bo<|sg<|Pl 3<|?_
 have G:=ub z h
 refine L0<|b6 G (mG 21 0 0 0 0 0 0 0 0 0 0 0 nS nS nS (.slice Y ((aN cN (((b.take ((((b.getD 0 0)+1)).toNat)).drop 1)).length 0 ⟨((b.take ((((b.getD 0 0)+1)).toNat)).drop 1),false,0⟩ []).2.length) Z) 0 0 0 0 0 nS) fun aj a3 B=>Pl 1<|nt<|rt<|bF a3 (.int .i64 0)<|?_
 have hE0:(aN cN (((b.take ((((b.getD 0 0)+1)).toNat)).drop 1)).length 0 ⟨((b.take ((((b.getD 0 0)+1)).toNat)).drop 1),false,0⟩ []).1.e=0:=fJ hE
 have hs:bH cN ec 21 b=((aP.mk 21 0 0 0 0 0 0 0 0 0 0 0 [] [] [] (aN cN (((b.take ((((b.getD 0 0)+1)).toNat)).drop 1)).length 0 ⟨((b.take ((((b.getD 0 0)+1)).toNat)).drop 1),false,0⟩ []).2 0 0 0 0 0 []),0):=by
   unfold bH dr cR ec
   (try simp only[g,a,d,f,q,r,i,s,bs,if_true,if_false,decide_true,decide_false,hE0,gj,reduceIte])
   all_goals rfl
 rw[hs]
 exact⟨_,rfl,⟨_,_,_,_,_,rfl,aK.nil ..,aK.nil ..,(fun _ _ _=>aK.nil ..),((ax y B (fun x hx=>(aa (fun e=>(aA (ak h) lr y) (e▸hx)) ay)) (bq.upd16 B (am (aQ G (by decide)) aG)))).rd,aK.nil ..,⟨(b8 (x:=21) (by omega)),(b8 (x:=0) (by omega)),(aC (x:=0) (by omega)),(aC (x:=0) (by omega)),(aC (x:=0) (by omega)),(aC (x:=0) (by omega)),(aC (x:=0) (by omega)),(aC (x:=0) (by omega)),(aC (x:=0) (by omega)),(aC (x:=0) (by omega)),(aC (x:=0) (by omega)),(aC (x:=0) (by omega)),(b8 (x:=0) (by omega)),(b8 (x:=0) (by omega)),(b8 (x:=0) (by omega)),(b8 (x:=0) (by omega)),(b8 (x:=0) (by omega))⟩⟩,(ud F B j)⟩
 refine L0<|Oc (args:=#[.int .i64 dir,.int .u8 21,.slice u (((((b.getD 0 0)+1)).toNat)-1) (cp-1)])<|?_
 refine(ir (lv (E _ _ _ _ _ t) (by rw[List.length_drop,List.length_take];omega))).mono ?_
 rintro _ an ⟨ao,aq,ar,rfl,H⟩
 refine⟨_,rfl,?_⟩
 have hE1:(bp (aN cN (((b.take ((((b.getD 0 0)+1)).toNat)).drop 1)).length 0 ⟨((b.take ((((b.getD 0 0)+1)).toNat)).drop 1),false,0⟩ []).1.e != 0)=true:=by simpa using hE
 refine Pl 5<|nt<|sq<|sg<|Pl 2<|nt<|ct hE1<|sg<|Pl 2<|?_
 refine L0<|b6 (ub H h) mZ fun av a4 a5=>Pl 1<|nt<|rt<|tr<|bF a4 (.int .i64 (bp (aN cN (((b.take ((((b.getD 0 0)+1)).toNat)).drop 1)).length 0 ⟨((b.take ((((b.getD 0 0)+1)).toNat)).drop 1),false,0⟩ []).1.e))<|?_
 have hE3:((aN cN (((b.take ((((b.getD 0 0)+1)).toNat)).drop 1)).length 0 ⟨((b.take ((((b.getD 0 0)+1)).toNat)).drop 1),false,0⟩ []).1.e != 0)=true:=iG hE
 have hs:bH cN ec 21 b=(aP.zero,bp (aN cN (((b.take ((((b.getD 0 0)+1)).toNat)).drop 1)).length 0 ⟨((b.take ((((b.getD 0 0)+1)).toNat)).drop 1),false,0⟩ []).1.e):=by
   unfold bH dr cR ec
   (try simp only[g,a,d,f,q,r,i,hE1,bs,if_true,if_false,decide_true,decide_false,hE3,gj,reduceIte])
   all_goals rfl
 rw[hs]
 exact bv (ud k (uz H a5) j)
theorem qF{A:Option Addr}{cp:Nat}{b:List Int}{w:World}{dir c:Int}(hd:dir=0∨dir=1)(hc:¬ c=20∧¬ c=21) :
    Calls Tryz.prog 96 #[.int .i64 dir,.int .u8 c,.slice A b.length cp] w (d9 (.slice A b.length cp) b (aP.zero,4) w):=by
 have g:((dir != 0)&&(dir != 1))=false:=by rcases hd with rfl | rfl<;>rfl
 have e2:((c != 20)&&(c != 21))=true:=by simp[hc.1,hc.2]
 refine en 101 Tryz.func96 rfl<|sg<|L0<|bI mZ fun o p h i j=>Pl 1<|nt<|sq<|sg<|Pl 3<|cu 3 [14] 17 (((dir != 0)&&(dir != 1))) (fun K e=>?_) ?_
 refine bl 14 ((dir != 0)) (fun a=>?_) (fun a=>?_)
 have k:=au a
 exact Pl 3<|ce e (dir != 1) (by rw[a];rfl)
 have k:=ai a
 exact Pl 3<|ce e false (by rw[a];rfl)
 refine nt<|cf g<|bo<|sq<|sg<|Pl 3<|cu 3 [21] 24 (((c != 20)&&(c != 21))) (fun K f=>?_) ?_
 refine bl 21 ((c != 20)) (fun d=>?_) (fun d=>?_)
 have l:=au d
 exact Pl 3<|ce f (c != 21) (by rw[d];rfl)
 have l:=ai d
 exact Pl 3<|ce f false (by rw[d];rfl)
 refine nt<|ct e2<|sg<|Pl 1<|L0<|b6 i mZ fun q m n=>Pl 1<|nt<|rt<|tr<|bF m (.int .i64 4)<|?_
 exact bv (ud j n h)
theorem rB{A:Option Addr}{cp:Nat}{b:List Int}{w:World}{dir c:Int}(hd:¬ (dir=0∨dir=1)) :
    Calls Tryz.prog 96 #[.int .i64 dir,.int .u8 c,.slice A b.length cp] w (d9 (.slice A b.length cp) b (aP.zero,1) w):=by
 have e:((dir != 0)&&(dir != 1))=true:=by simp;omega
 refine en 101 Tryz.func96 rfl<|sg<|L0<|bI mZ fun l m f g h=>Pl 1<|nt<|sq<|sg<|Pl 3<|cu 3 [14] 17 (((dir != 0)&&(dir != 1))) (fun K d=>?_) ?_
 refine bl 14 ((dir != 0)) (fun a=>?_) (fun a=>?_)
 have i:=au a
 exact Pl 3<|ce d (dir != 1) (by rw[a];rfl)
 have i:=ai a
 exact Pl 3<|ce d false (by rw[a];rfl)
 refine nt<|ct e<|sg<|Pl 1<|L0<|b6 g mZ fun n j k=>Pl 1<|nt<|rt<|tr<|bF j (.int .i64 1)<|?_
 exact bv (ud h k f)
theorem oA{dir c:Int}{b:List Int}(hd:dir=0∨dir=1)(hc:¬ c=20∧¬ c=21) : ae aZ dir c b=(aP.zero,4):=by
  unfold ae aZ
  rw[if_pos hd,if_neg (by simpa using hc.1),if_neg (by simpa using hc.2)]
theorem qp{form:Int→Int→ah→Option (ah × aP)}{dir c:Int}{b:List Int}(hd:¬ (dir=0∨dir=1)) : ae form dir c b=(aP.zero,1):=by
  unfold ae
  rw[if_neg hd]
theorem lX{m:Md}{v:Value}{b:List Int}{w:World}{dir c:Int}(hc:B8 c)(h:b9 m w v b)(hb:b.length≤1048576) :
    Calls Tryz.prog 96 #[.int .i64 dir,.int .u8 c,v] w (d9 v b (ae aZ dir c b) w):=by
  have hr:=b9.range h
  obtain⟨A,cp,rfl,_,_⟩:=h.shape
  by_cases hd:dir=0∨dir=1
  · by_cases a:c=20
    · subst a
      rcases hd with rfl|rfl
      · rw[nT hr];exact rv h hb
      · rw[oc hr];exact rc h hb
    · by_cases d:c=21
      · subst d
        rw[rS hd hr];exact rO hd h hb
      · rw[oA hd ⟨a,d⟩];exact qF hd ⟨a,d⟩
  · rw[qp hd];exact rB hd
open Go.RowKit
theorem sB{k i:Nat}{C:ah}{L:List Obj}{R:ah × List Obj}(h:eh (k-i) C L=R)(hk:k-i=0) : R=(C,L):=by
  rw[hk] at h
  exact h.symm
theorem kc{m:Md}{A:Option Addr}{cp:Nat}{b:List Int}{w:World}{c:Int}(hcode:B8 c)(hsl:b9 m w (.slice A b.length cp) b)(hb:b.length≤1048576) :
    Calls Tryz.prog 97 #[.int .i64 0,.int .u8 c,.slice A b.length cp] w (d9 (.slice A b.length cp) b (ae bM 0 c b) w):=by
 obtain⟨hcode1,hcode2⟩:=hcode
 have hln:(b.length:Int)≤1048576:=by omega
 refine en 176 Tryz.func97 rfl<|sg<|L0<|bI mZ fun bB bC r k a=>Pl 1<|nt<|sq<|sg<|Pl 6<|nt<|c0<|?_
 refine bo<|sq<|sg<|Pl 2<|nt<|cb ((c != 43)) (fun j=>?_) (fun j=>?_)
 have aL:=au j
 refine sg<|Pl 1<|L0<|b6 k mZ fun bD aM aN=>Pl 1<|nt<|rt<|tr<|bF aM (.int .i64 4)<|?_
 have hs:ae bM 0 c b=(aP.zero,4):=by
   unfold ae bM db fF eW eX et dY eb dq
   (try simp only[j,bs,if_true,if_false,decide_true,decide_false,eq_self,true_or,or_true,or_false,false_or,if_true,if_false,ch,cg,cc,bZ,reduceIte])
   all_goals rfl
 rw[hs]
 exact bv (ud a aN r)
 have aL:=ai j
 refine bo<|sg<|Pl 2<|L0<|dz #[.slice A b.length cp,.int .i64 0,.bool false,.int .i64 0] fun s bE d Y i=>Pl 1<|ng<|Pl 1<|L0<|bI mZ fun bG bH h aO aQ=>L0<|b6 aO (mC 43) fun aS aT aW=>?_
 refine ng<|Pl 1<|?_
 have Z:=ud aQ aW h
 have t:=aH i Z
 have a0:=aH a t
 have aX:RC w _ A cp b aS s (ah.mk b false 0):=⟨hsl,a0,(Nat.le_trans a.size d),⟨0,(ub Z Y),Nat.zero_le _,rfl⟩,by omega⟩
 refine L0<|Oc<|m3 (dG aX) fun bJ aY a1 bK=>Pl 1<|?_
 have f:=nb (ak Y) lr h
 refine L0<|bT (aU a1 (Ne.symm f) aT) 16 (mG 43 0 0 0 0 0 0 0 0 0 0 0 nS nS nS nS ((ah.mk b false 0).byteV) 0 0 0 0 nS) fun bL N a2=>ng<|Pl 2<|L0<|aR N 16<|Pl 2<|cu 4 [38] 42 (((((ah.mk b false 0).byteV)==13)||(((ah.mk b false 0).byteV)==14))) (fun K a3=>?_) ?_
 refine bl 38 ((((ah.mk b false 0).byteV)==13)) (fun y=>?_) (fun y=>?_)
 have aZ:=al y
 exact Pl 4<|ce a3 true (by rw[y];rfl)
 have aZ:=ap y
 exact Pl 1<|L1<|aR N 16<|Pl 2<|ce a3 (((ah.mk b false 0).byteV)==14) (by rw[y];rfl)
 have z:=us a1 a2
 have a4:=ut a0 z (ac (ni a.size d) (ac (ni (le a.size i.size) h) aq))
 refine L0<|Oc<|m2 (aV (((((ah.mk b false 0).byteV)==13)||(((ah.mk b false 0).byteV)==14))) 8 (RC.upd aY a2 (aa f ay) a4)) fun bN b0 q=>?_
 refine fj b0 fun x55 H B=>?_
 refine nt<|sq<|bk<|sg<|Pl 1<|?_
 have O:=aU q (Ne.symm f) N
 refine L0<|aR O 16<|Pl 2<|nt<|?_
 have a5:=ud a4 q (le a.size d)
 refine cb ((((ah.mk b false 0).byteV)==13)) (fun o=>?_) (fun o=>?_)
 have b1:=al o
 refine sg<|Pl 1<|L0<|Oc<|m1 (gO B) fun bO P=>?_
 have bP:=RC.clen B
 refine Pl 1<|ng<|Pl 3<|?_
 refine L0<|Oc<|m2 (aV ((decide (((x55.l.length:Nat) : Int)≤251))) 5 (RC.upd B P ay (aD.step (RC.u B) P))) fun bQ a6 b2=>nt<|go<|Pl 2<|L0<|Oc<|nJ (fc (n:=((x55.l.length:Nat) : Int)) (by omega) a6) fun a7 a8 bR b3 b4 b5=>?_
 have bS:=Nat.le_trans (ah.bytesR_le (x55.need (decide (((x55.l.length:Nat) : Int)≤251)) 5) ((x55.l.length:Nat) : Int)) (RC.clen a6)
 refine fj b4 fun j7 a9 b7=>?_
 refine Pl 1<|?_
 have ab:=uz P (u1 b2 b5 im)
 refine L0<|bT (aU ab (Ne.symm f) O) 14 (mG 43 0 0 0 0 0 0 0 0 0 0 0 nS nS (.slice a7 (((x55.need (decide (((x55.l.length:Nat) : Int)≤251)) 5).bytesR ((x55.l.length:Nat) : Int)).length) a8) nS ((ah.mk b false 0).byteV) 0 0 0 0 nS) fun bU ba ad=>nl<|bn<|tn<|sg<|Pl 1<|?_
 have Q:=us ab ad
 have af:=ut a5 Q (ac (ni a.size d) (ac (ni (le a.size i.size) h) aq))
 refine L0<|Oc<|m2 (dX (RC.upd b7 ad (aa f ay) af)) fun bV R I=>nt<|sq<|sg<|Pl 3<|L0<|dU (p:=⟨s,3,none⟩) (v:=.int .i64 j7.endC.e) (RC.fld R)<|Pl 1<|nt<|?_
 have ag:=ud af I (le a.size d)
 refine cb ((j7.endC.e != 0)) (fun C=>?_) (fun C=>?_)
 have S:=au C
 refine sq<|Rg 7 (fun w'=>w'.cell? ⟨s,3,none⟩=some (.int .i64 j7.endC.e)) fun bW J=>?_
 have aj:=RC.upd R J ay (aD.step (RC.u R) J)
 refine bh (RC.fld aj) fun D=>Rt 0 D<|Rt 1 D<|Rt 2 D<|Rt 3 D<|Rl 4 D (fun _ hs=>hs)<|?_
 refine R0 5 rfl<|b6 (ub (ut t (ut z (ui q (u1 Q (aH I J) im)) (ac im (ac im aq))) (ac (nr d) (ac (ni i.size h) aq))) k) mZ fun bX bb am=>?_
 have an:=ud ag (uz J am) r
 refine bh (RC.fld (RC.upd aj am (aa (Ne.symm (nb (ak k) lr d)) ay) an)) fun bc=>Rt 6 bc<|re<|tn<|rt<|tr<|bF bb (.int .i64 j7.endC.e)<|?_
 have hs:ae bM 0 c b=aF (aP.mk 43 0 0 0 0 0 0 0 0 0 0 0 [] [] ((x55.need (decide (((x55.l.length:Nat) : Int)≤251)) 5).bytesR ((x55.l.length:Nat) : Int)) [] ((ah.mk b false 0).byteV) 0 0 0 0 []) j7:=by
   subst a9 H
   unfold ae bM db fF eW eX et dY eb dq
   (try simp only[j,o,C,bs,if_true,if_false,decide_true,decide_false,eq_self,true_or,or_true,or_false,false_or,if_true,if_false,ch,cg,cc,bZ,reduceIte])
   all_goals rfl
 rw[hs]
 exact bg S an
 have S:=ai C
 refine bo<|sg<|?_
 refine L0<|cl (aU I (Ne.symm f) ba)<|?_
 refine L0<|b6 (ub (ut t (ut z (ui q (u1 Q I im)) (ac im (ac im aq))) (ac (nr d) (ac (ni i.size h) aq))) k) (mG 43 0 0 0 0 0 0 0 0 0 0 0 nS nS (.slice a7 (((x55.need (decide (((x55.l.length:Nat) : Int)≤251)) 5).bytesR ((x55.l.length:Nat) : Int)).length) a8) nS ((ah.mk b false 0).byteV) 0 0 0 0 nS) fun bY bd be=>Pl 1<|nt<|rt<|bF bd (.int .i64 0)<|?_
 have hs:ae bM 0 c b=aF (aP.mk 43 0 0 0 0 0 0 0 0 0 0 0 [] [] ((x55.need (decide (((x55.l.length:Nat) : Int)≤251)) 5).bytesR ((x55.l.length:Nat) : Int)) [] ((ah.mk b false 0).byteV) 0 0 0 0 []) j7:=by
   subst a9 H
   unfold ae bM db fF eW eX et dY eb dq
   (try simp only[j,o,C,bs,if_true,if_false,decide_true,decide_false,eq_self,true_or,or_true,or_false,false_or,if_true,if_false,ch,cg,cc,bZ,reduceIte])
   all_goals rfl
 rw[hs]
 exact bj S ⟨_,_,_,_,_,rfl,aK.nil ..,aK.nil ..,b3,aK.nil ..,aK.nil ..,⟨(b8 (x:=43) (by omega)),(b8 (x:=0) (by omega)),(aC (x:=0) (by omega)),(aC (x:=0) (by omega)),(aC (x:=0) (by omega)),(aC (x:=0) (by omega)),(aC (x:=0) (by omega)),(aC (x:=0) (by omega)),(aC (x:=0) (by omega)),(aC (x:=0) (by omega)),(aC (x:=0) (by omega)),(aC (x:=0) (by omega)),(b8 (x:=(ah.mk b false 0).byteV) (by omega)),(b8 (x:=0) (by omega)),(b8 (x:=0) (by omega)),(b8 (x:=0) (by omega)),(b8 (x:=0) (by omega))⟩⟩ (ud ag be r)
 have b1:=ap o
 refine sg<|Pl 3<|nt<|c1<|sg<|Pl 1<|L0<|Oc<|m3 (dG B) fun c2 bf ao c3=>Pl 1<|?_
 refine L0<|bT (aU ao (Ne.symm f) O) 17 (mG 43 0 0 0 0 0 0 0 0 0 0 0 nS nS nS nS ((ah.mk b false 0).byteV) x55.byteV 0 0 0 nS) fun c4 T ar=>ng<|Pl 2<|L0<|aR T 17<|Pl 2<|cu 4 [154] 158 (((decide (0<x55.byteV))&&(decide (x55.byteV<5)))) (fun K av=>?_) ?_
 refine bl 154 ((decide (0<x55.byteV))) (fun E=>?_) (fun E=>?_)
 have bi:=of_decide_eq_true E
 exact Pl 1<|L1<|aR T 17<|Pl 2<|ce av (decide (x55.byteV<5)) (by rw[E];rfl)
 have bi:=of_decide_eq_false E
 exact Pl 4<|ce av false (by rw[E];rfl)
 have U:=us ao ar
 have aw:=ut a5 U (ac (ni a.size d) (ac (ni (le a.size i.size) h) aq))
 refine L0<|Oc<|m2 (aV (((decide (0<x55.byteV))&&(decide (x55.byteV<5)))) 6 (RC.upd bf ar (aa f ay) aw)) fun c5 bm bp=>?_
 refine fj bm fun g ax bq=>?_
 refine nt<|go<|Pl 1<|L0<|Oc<|m3 (dG bq) fun c6 br bt c7=>Pl 1<|?_
 have az:=u1 bp bt im
 refine L0<|bT (aU az (Ne.symm f) T) 20 (mG 43 0 0 0 0 0 0 0 0 0 0 0 nS nS nS nS ((ah.mk b false 0).byteV) x55.byteV 0 0 g.byteV nS) fun c8 bu aA=>nl<|bn<|tn<|sg<|Pl 1<|?_
 have V:=us az aA
 have aB:=ut aw V (ac (ni a.size d) (ac (ni (le a.size i.size) h) aq))
 refine L0<|Oc<|m2 (dX (RC.upd br aA (aa f ay) aB)) fun c9 W L=>nt<|sq<|sg<|Pl 3<|L0<|dU (p:=⟨s,3,none⟩) (v:=.int .i64 (((g.bytesC 1).endC).e)) (RC.fld W)<|Pl 1<|nt<|?_
 have aE:=ud aB L (le a.size d)
 refine cb (((((g.bytesC 1).endC).e)!=0)) (fun F=>?_) (fun F=>?_)
 have X:=au F
 refine sq<|Rg 7 (fun w'=>w'.cell? ⟨s,3,none⟩=some (.int .i64 (((g.bytesC 1).endC).e))) fun ca M=>?_
 have aG:=RC.upd W M ay (aD.step (RC.u W) M)
 refine bh (RC.fld aG) fun G=>Rt 0 G<|Rt 1 G<|Rt 2 G<|Rt 3 G<|Rl 4 G (fun _ hs=>hs)<|?_
 refine R0 5 rfl<|b6 (ub (ut t (ut z (ui q (ut U (u1 V (aH L M) im) (ac im (ac im aq)))) (ac im (ac im aq))) (ac (nr d) (ac (ni i.size h) aq))) k) mZ fun cd bw aI=>?_
 have aJ:=ud aE (uz M aI) r
 refine bh (RC.fld (RC.upd aG aI (aa (Ne.symm (nb (ak k) lr d)) ay) aJ)) fun bx=>Rt 6 bx<|re<|tn<|rt<|tr<|bF bw (.int .i64 (((g.bytesC 1).endC).e))<|?_
 have hs:ae bM 0 c b=aF (aP.mk 43 0 0 0 0 0 0 0 0 0 0 0 [] [] [] [] ((ah.mk b false 0).byteV) x55.byteV 0 0 g.byteV []) (g.bytesC 1):=by
   subst ax H
   unfold ae bM db fF eW eX et dY eb dq
   (try simp only[j,o,F,bs,if_true,if_false,decide_true,decide_false,eq_self,true_or,or_true,or_false,false_or,if_true,if_false,ch,cg,cc,bZ,reduceIte])
   all_goals rfl
 rw[hs]
 exact bg X aJ
 have X:=ai F
 refine bo<|sg<|?_
 refine L0<|cl (aU L (Ne.symm f) bu)<|?_
 refine L0<|b6 (ub (ut t (ut z (ui q (ut U (u1 V L im) (ac im (ac im aq)))) (ac im (ac im aq))) (ac (nr d) (ac (ni i.size h) aq))) k) (mG 43 0 0 0 0 0 0 0 0 0 0 0 nS nS nS nS ((ah.mk b false 0).byteV) x55.byteV 0 0 g.byteV nS) fun cf bz bA=>Pl 1<|nt<|rt<|bF bz (.int .i64 0)<|?_
 have hs:ae bM 0 c b=aF (aP.mk 43 0 0 0 0 0 0 0 0 0 0 0 [] [] [] [] ((ah.mk b false 0).byteV) x55.byteV 0 0 g.byteV []) (g.bytesC 1):=by
   subst ax H
   unfold ae bM db fF eW eX et dY eb dq
   (try simp only[j,o,F,bs,if_true,if_false,decide_true,decide_false,eq_self,true_or,or_true,or_false,false_or,if_true,if_false,ch,cg,cc,bZ,reduceIte])
   all_goals rfl
 rw[hs]
 exact bj X ⟨_,_,_,_,_,rfl,aK.nil ..,aK.nil ..,(fun _ _ _=>aK.nil ..),aK.nil ..,aK.nil ..,⟨(b8 (x:=43) (by omega)),(b8 (x:=0) (by omega)),(aC (x:=0) (by omega)),(aC (x:=0) (by omega)),(aC (x:=0) (by omega)),(aC (x:=0) (by omega)),(aC (x:=0) (by omega)),(aC (x:=0) (by omega)),(aC (x:=0) (by omega)),(aC (x:=0) (by omega)),(aC (x:=0) (by omega)),(aC (x:=0) (by omega)),(b8 (x:=(ah.mk b false 0).byteV) (by omega)),(b8 (x:=x55.byteV) (by omega)),(b8 (x:=0) (by omega)),(b8 (x:=0) (by omega)),(b8 (x:=g.byteV) (by omega))⟩⟩ (ud aE bA r)
theorem kj{m:Md}{A:Option Addr}{cp:Nat}{b:List Int}{w:World}{c:Int}(hcode:B8 c)(hsl:b9 m w (.slice A b.length cp) b)(hb:b.length≤1048576) :
    Calls Tryz.prog 97 #[.int .i64 1,.int .u8 c,.slice A b.length cp] w (d9 (.slice A b.length cp) b (ae bM 1 c b) w):=by
 obtain⟨hcode1,hcode2⟩:=hcode
 have hln:(b.length:Int)≤1048576:=by omega
 refine en 176 Tryz.func97 rfl<|sg<|L0<|bI mZ fun a1 dL M y a=>Pl 1<|nt<|sq<|sg<|Pl 6<|nt<|c0<|?_
 refine bo<|sq<|sg<|Pl 2<|nt<|cb ((c != 43)) (fun z=>?_) (fun z=>?_)
 have cF:=au z
 refine sg<|Pl 1<|L0<|b6 y mZ fun dM cG cH=>Pl 1<|nt<|rt<|tr<|bF cG (.int .i64 4)<|?_
 have hs:ae bM 1 c b=(aP.zero,4):=by
   unfold ae bM db fF eW eX et dY eb dq
   (try simp only[z,bs,if_true,if_false,decide_true,decide_false,eq_self,true_or,or_true,or_false,false_or,if_true,if_false,ch,cg,cc,bZ,reduceIte])
   all_goals rfl
 rw[hs]
 exact bv (ud a cH M)
 have cF:=ai z
 refine bo<|sg<|Pl 2<|L0<|dz #[.slice A b.length cp,.int .i64 0,.bool false,.int .i64 0] fun t dN f b2 o=>Pl 1<|ng<|Pl 1<|L0<|bI mZ fun G dO q cI b3=>L0<|b6 cI (mC 43) fun cJ cK b4=>?_
 refine ng<|Pl 1<|?_
 have b5:=ud b3 b4 q
 have a2:=aH o b5
 have b7:=aH a a2
 have cL:RC w _ A cp b cJ t (ah.mk b false 0):=⟨hsl,b7,(Nat.le_trans a.size f),⟨0,(ub b5 b2),Nat.zero_le _,rfl⟩,by omega⟩
 refine L0<|Oc<|m3 (dG cL) fun dP cM ab dQ=>Pl 1<|?_
 have g:=nb (ak b2) lr q
 refine L0<|bT (aU ab (Ne.symm g) cK) 16 (mG 43 0 0 0 0 0 0 0 0 0 0 0 nS nS nS nS ((ah.mk b false 0).byteV) 0 0 0 0 nS) fun dR ad af=>ng<|Pl 2<|L0<|aR ad 16<|Pl 2<|cu 4 [38] 42 (((((ah.mk b false 0).byteV)==13)||(((ah.mk b false 0).byteV)==14))) (fun K ba=>?_) ?_
 refine bl 38 ((((ah.mk b false 0).byteV)==13)) (fun N=>?_) (fun N=>?_)
 have cN:=al N
 exact Pl 4<|ce ba true (by rw[N];rfl)
 have cN:=ap N
 exact Pl 1<|L1<|aR ad 16<|Pl 2<|ce ba (((ah.mk b false 0).byteV)==14) (by rw[N];rfl)
 have a3:=us ab af
 have bb:=ut b7 a3 (ac (ni a.size f) (ac (ni (le a.size o.size) q) aq))
 refine L0<|Oc<|m2 (aV (((((ah.mk b false 0).byteV)==13)||(((ah.mk b false 0).byteV)==14))) 8 (RC.upd cM af (aa g ay) bb)) fun dS cO H=>?_
 refine fj cO fun x55 a4 O=>?_
 refine nt<|sq<|bk<|sg<|Pl 1<|?_
 have ag:=aU H (Ne.symm g) ad
 refine L0<|aR ag 16<|Pl 2<|nt<|?_
 have bc:=ud bb H (le a.size f)
 refine cb ((((ah.mk b false 0).byteV)==13)) (fun E=>?_) (fun E=>?_)
 have cP:=al E
 refine sg<|Pl 1<|L0<|Oc<|m1 (gO O) fun dT aj=>?_
 have dV:=RC.clen O
 refine Pl 1<|ng<|Pl 3<|?_
 refine L0<|Oc<|m2 (aV ((decide (((x55.l.length:Nat) : Int)≤251))) 5 (RC.upd O aj ay (aD.step (RC.u O) aj))) fun dW bd cR=>nt<|go<|Pl 2<|L0<|Oc<|nJ (fc (n:=((x55.l.length:Nat) : Int)) (by omega) bd) fun bf bm dZ cS cT cU=>?_
 have e0:=Nat.le_trans (ah.bytesR_le (x55.need (decide (((x55.l.length:Nat) : Int)≤251)) 5) ((x55.l.length:Nat) : Int)) (RC.clen bd)
 refine fj cT fun j7 bp cV=>?_
 refine Pl 1<|?_
 have bq:=uz aj (u1 cR cU im)
 refine L0<|bT (aU bq (Ne.symm g) ag) 14 (mG 43 0 0 0 0 0 0 0 0 0 0 0 nS nS (.slice bf (((x55.need (decide (((x55.l.length:Nat) : Int)≤251)) 5).bytesR ((x55.l.length:Nat) : Int)).length) bm) nS ((ah.mk b false 0).byteV) 0 0 0 0 nS) fun e1 cW br=>nl<|bn<|tn<|sg<|Pl 1<|?_
 have am:=us bq br
 have bt:=ut bc am (ac (ni a.size f) (ac (ni (le a.size o.size) q) aq))
 refine L0<|Oc<|m2 (dX (RC.upd cV br (aa g ay) bt)) fun e2 an a5=>nt<|sq<|sg<|Pl 3<|L0<|dU (p:=⟨t,3,none⟩) (v:=.int .i64 j7.endC.e) (RC.fld an)<|Pl 1<|nt<|?_
 have bu:=ud bt a5 (le a.size f)
 refine cb ((j7.endC.e != 0)) (fun P=>?_) (fun P=>?_)
 have ao:=au P
 refine sq<|Rg 7 (fun w'=>w'.cell? ⟨t,3,none⟩=some (.int .i64 j7.endC.e)) fun e3 a6=>?_
 have bw:=RC.upd an a6 ay (aD.step (RC.u an) a6)
 refine bh (RC.fld bw) fun Q=>Rt 0 Q<|Rt 1 Q<|Rt 2 Q<|Rt 3 Q<|Rl 4 Q (fun _ hs=>hs)<|?_
 refine R0 5 rfl<|b6 (ub (ut a2 (ut a3 (ui H (u1 am (aH a5 a6) im)) (ac im (ac im aq))) (ac (nr f) (ac (ni o.size q) aq))) y) mZ fun e4 cX bz=>?_
 have bA:=ud bu (uz a6 bz) M
 refine bh (RC.fld (RC.upd bw bz (aa (Ne.symm (nb (ak y) lr f)) ay) bA)) fun cY=>Rt 6 cY<|re<|tn<|rt<|tr<|bF cX (.int .i64 j7.endC.e)<|?_
 have hs:ae bM 1 c b=aF (aP.mk 43 0 0 0 0 0 0 0 0 0 0 0 [] [] ((x55.need (decide (((x55.l.length:Nat) : Int)≤251)) 5).bytesR ((x55.l.length:Nat) : Int)) [] ((ah.mk b false 0).byteV) 0 0 0 0 []) j7:=by
   subst bp a4
   unfold ae bM db fF eW eX et dY eb dq
   (try simp only[z,E,P,bs,if_true,if_false,decide_true,decide_false,eq_self,true_or,or_true,or_false,false_or,if_true,if_false,ch,cg,cc,bZ,reduceIte])
   all_goals rfl
 rw[hs]
 exact bg ao bA
 have ao:=ai P
 refine bo<|sg<|?_
 refine L0<|cl (aU a5 (Ne.symm g) cW)<|?_
 refine L0<|b6 (ub (ut a2 (ut a3 (ui H (u1 am a5 im)) (ac im (ac im aq))) (ac (nr f) (ac (ni o.size q) aq))) y) (mG 43 0 0 0 0 0 0 0 0 0 0 0 nS nS (.slice bf (((x55.need (decide (((x55.l.length:Nat) : Int)≤251)) 5).bytesR ((x55.l.length:Nat) : Int)).length) bm) nS ((ah.mk b false 0).byteV) 0 0 0 0 nS) fun e5 cZ d0=>Pl 1<|nt<|rt<|bF cZ (.int .i64 0)<|?_
 have hs:ae bM 1 c b=aF (aP.mk 43 0 0 0 0 0 0 0 0 0 0 0 [] [] ((x55.need (decide (((x55.l.length:Nat) : Int)≤251)) 5).bytesR ((x55.l.length:Nat) : Int)) [] ((ah.mk b false 0).byteV) 0 0 0 0 []) j7:=by
   subst bp a4
   unfold ae bM db fF eW eX et dY eb dq
   (try simp only[z,E,P,bs,if_true,if_false,decide_true,decide_false,eq_self,true_or,or_true,or_false,false_or,if_true,if_false,ch,cg,cc,bZ,reduceIte])
   all_goals rfl
 rw[hs]
 exact bj ao ⟨_,_,_,_,_,rfl,aK.nil ..,aK.nil ..,cS,aK.nil ..,aK.nil ..,⟨(b8 (x:=43) (by omega)),(b8 (x:=0) (by omega)),(aC (x:=0) (by omega)),(aC (x:=0) (by omega)),(aC (x:=0) (by omega)),(aC (x:=0) (by omega)),(aC (x:=0) (by omega)),(aC (x:=0) (by omega)),(aC (x:=0) (by omega)),(aC (x:=0) (by omega)),(aC (x:=0) (by omega)),(aC (x:=0) (by omega)),(b8 (x:=(ah.mk b false 0).byteV) (by omega)),(b8 (x:=0) (by omega)),(b8 (x:=0) (by omega)),(b8 (x:=0) (by omega)),(b8 (x:=0) (by omega))⟩⟩ (ud bu d0 M)
 have cP:=ap E
 refine sg<|Pl 3<|nt<|c0<|sg<|Pl 1<|L0<|Oc<|m3 (dG O) fun e6 d1 ar e7=>Pl 1<|?_
 refine L0<|bT (aU ar (Ne.symm g) ag) 17 (mG 43 0 0 0 0 0 0 0 0 0 0 0 nS nS nS nS ((ah.mk b false 0).byteV) x55.byteV 0 0 0 nS) fun e8 aw az=>ng<|Pl 2<|L0<|aR aw 17<|Pl 2<|cu 4 [51] 55 (((decide (0<x55.byteV))&&(decide (x55.byteV<5)))) (fun K bB=>?_) ?_
 refine bl 51 ((decide (0<x55.byteV))) (fun S=>?_) (fun S=>?_)
 have d2:=of_decide_eq_true S
 exact Pl 1<|L1<|aR aw 17<|Pl 2<|ce bB (decide (x55.byteV<5)) (by rw[S];rfl)
 have d2:=of_decide_eq_false S
 exact Pl 4<|ce bB false (by rw[S];rfl)
 have bC:=us ar az
 have bD:=ut bc bC (ac (ni a.size f) (ac (ni (le a.size o.size) q) aq))
 refine L0<|Oc<|m2 (aV (((decide (0<x55.byteV))&&(decide (x55.byteV<5)))) 6 (RC.upd d1 az (aa g ay) bD)) fun e9 d3 bE=>?_
 refine fj d3 fun j bG d4=>?_
 refine ng<|Pl 1<|L0<|Oc<|m3 (dG d4) fun ea d5 bH ec=>Pl 1<|?_
 have bJ:=u1 bE bH im
 refine L0<|bT (aU bJ (Ne.symm g) aw) 18 (mG 43 0 0 0 0 0 0 0 0 0 0 0 nS nS nS nS ((ah.mk b false 0).byteV) x55.byteV j.byteV 0 0 nS) fun ed bK aA=>ng<|Pl 1<|L0<|aR bK 18<|L0<|Oe (.int .u8 (Int.tmod j.byteV 128)) (.int .u8 (j.byteV%128)) (congrArg (Value.int .u8) (Int.tmod_eq_emod_of_nonneg (by omega)))<|Pl 1<|ng<|Pl 4<|cu 3 [66] 69 (((decide (1≤(j.byteV%128)))&&(decide ((j.byteV%128)≤3)))) (fun K bL=>?_) ?_
 refine bl 66 ((decide (1≤(j.byteV%128)))) (fun T=>?_) (fun T=>?_)
 have d6:=of_decide_eq_true T
 exact Pl 3<|ce bL (decide ((j.byteV%128)≤3)) (by rw[T];rfl)
 have d6:=of_decide_eq_false T
 exact Pl 3<|ce bL false (by rw[T];rfl)
 have bN:=us bJ aA
 have bO:=ut bD bN (ac (ni a.size f) (ac (ni (le a.size o.size) q) aq))
 refine L0<|Oc<|m2 (aV (((decide (1≤(j.byteV%128)))&&(decide ((j.byteV%128)≤3)))) 6 (RC.upd d5 aA (aa g ay) bO)) fun ee d7 bP=>?_
 refine fj d7 fun k bQ d8=>?_
 refine ng<|Pl 1<|L0<|Oc<|m3 (dG d8) fun ef da bR eg=>Pl 1<|?_
 have bS:=u1 bP bR im
 refine L0<|bT (aU bS (Ne.symm g) bK) 19 (mG 43 0 0 0 0 0 0 0 0 0 0 0 nS nS nS nS ((ah.mk b false 0).byteV) x55.byteV j.byteV k.byteV 0 nS) fun ei aE aG=>ng<|Pl 2<|L0<|aR aE 19<|Pl 2<|cu 4 [78] 82 (((k.byteV==0)||(k.byteV==255))) (fun K bU=>?_) ?_
 refine bl 78 ((k.byteV==0)) (fun U=>?_) (fun U=>?_)
 have dc:=al U
 exact Pl 4<|ce bU true (by rw[U];rfl)
 have dc:=ap U
 exact Pl 1<|L1<|aR aE 19<|Pl 2<|ce bU (k.byteV==255) (by rw[U];rfl)
 have bV:=us bS aG
 have bW:=ut bO bV (ac (ni a.size f) (ac (ni (le a.size o.size) q) aq))
 refine L0<|Oc<|m2 (aV (((k.byteV==0)||(k.byteV==255))) 6 (RC.upd da aG (aa g ay) bW)) fun ej dd bX=>?_
 refine fj dd fun s bY de=>?_
 refine ng<|Pl 1<|L0<|Oc<|m3 (dG de) fun ek df c1 el=>Pl 1<|?_
 have c2:=u1 bX c1 im
 refine L0<|bT (aU c2 (Ne.symm g) aE) 20 (mG 43 0 0 0 0 0 0 0 0 0 0 0 nS nS nS nS ((ah.mk b false 0).byteV) x55.byteV j.byteV k.byteV s.byteV nS) fun em a7 aI=>ng<|Pl 2<|L0<|aR a7 20<|Pl 2<|cu 4 [91] 95 (((s.byteV==0)||(k.byteV==255))) (fun K c3=>?_) ?_
 refine bl 91 ((s.byteV==0)) (fun V=>?_) (fun V=>?_)
 have dg:=al V
 exact Pl 4<|ce c3 true (by rw[V];rfl)
 have dg:=ap V
 exact Pl 1<|L1<|aR a7 19<|Pl 2<|ce c3 (k.byteV==255) (by rw[V];rfl)
 have c4:=us c2 aI
 have c5:=ut bW c4 (ac (ni a.size f) (ac (ni (le a.size o.size) q) aq))
 refine L0<|Oc<|m2 (aV (((s.byteV==0)||(k.byteV==255))) 6 (RC.upd df aI (aa g ay) c5)) fun eo dh aJ=>?_
 refine fj dh fun d c6 di=>?_
 refine ng<|Pl 1<|L0<|Oc<|m3 (dG di) fun ep dj aL eq=>L0<|Oi d.byteV<|Pl 1<|ng<|Pl 4<|cu 4 [103] 107 (((d.byteV==1)||(x55.byteV != 4))) (fun K c7=>?_) ?_
 refine bl 103 ((d.byteV==1)) (fun W=>?_) (fun W=>?_)
 have dk:=al W
 exact Pl 4<|ce c7 true (by rw[W];rfl)
 have dk:=ap W
 refine Pl 1<|?_
 exact L1<|aR (aU (u1 aJ aL im) (Ne.symm g) a7) 17<|Pl 2<|ce c7 (x55.byteV != 4) (by rw[W];rfl)
 refine L0<|Oc<|m2 (aV (((d.byteV==1)||(x55.byteV != 4))) 5 dj) fun dl dm c8=>?_
 refine fj dm fun F c9 dn=>?_
 refine ng<|Pl 1<|nt<|bk<|?_
 have hKr:0≤d.byteV∧d.byteV<256:=by omega
 have aM:=u1 aJ (u1 aL c8 im) im
 refine i1 (fun x=>[(6,.pointer (some ⟨a1,0,none⟩)),(7,.int .i64 0),(8,.pointer (some ⟨t,0,none⟩)),(9,.pointer (some ⟨G,0,none⟩)),(12,.int .i64 d.byteV),(13,.int .i64 ((x.1:Nat) : Int))]) (fun(x:Nat × ah × List Obj × Option Addr × Nat) w'=>aD [] w w'∧dl.heap.size≤w'.heap.size∧w'.heap[a1]? = some (.cells mZ 30 (0,0))∧RC w m A cp b w' t x.2.1∧w'.heap[G]? = some (.cells (mG 43 0 0 0 0 0 0 0 0 0 0 0 nS nS nS nS ((ah.mk b false 0).byteV) x55.byteV j.byteV k.byteV s.byteV (.slice x.2.2.2.1 x.2.2.1.length x.2.2.2.2)) 30 (0,0))∧be w.heap.size 111 2 (nn (.slice A b.length cp) b) w' (.slice x.2.2.2.1 x.2.2.1.length x.2.2.2.2) x.2.2.1∧(x.1≤d.byteV.toNat)∧(x.2.2.1.length=x.1)∧(eh (d.byteV.toNat-x.1) x.2.1 x.2.2.1=eh d.byteV.toNat F [])) (fun x=>d.byteV.toNat-x.1) (0,F,[],none,0) ⟨(ud c5 aM (le a.size f)),lr,(ub (ut a2 (ut a3 (ui H (ut bC (ut bN (ut bV (u1 c4 aM im) (ac im (ac im aq))) (ac im (ac im aq))) (ac im (ac im aq)))) (ac im (ac im aq))) (ac (nr f) (ac (ni o.size q) aq))) y),dn,(aU aM (Ne.symm g) a7),(be.nil w.heap.size _ _ (nn (.slice A b.length cp) b) _),(by(try dsimp only);omega),rfl,rfl⟩ ?_
 rintro⟨i,C,L,B,cq⟩ a8 ⟨ca,cd,dp,dr,ds,dt,du,dv,dw⟩
 refine iq [(6,.pointer (some ⟨a1,0,none⟩)),(7,.int .i64 0),(8,.pointer (some ⟨t,0,none⟩)),(9,.pointer (some ⟨G,0,none⟩)),(12,.int .i64 d.byteV),(13,.int .i64 ((i:Nat) : Int))] ?_
 have I:a8.heap[a1]? = some (.cells mZ 30 (0,0)):=dp
 have D:RC w m A cp b a8 t C:=dr
 have hlC:=RC.clen D
 have hrC:ia C:=RC.rng D
 have hbv:=gX hrC
 have hbv2:=gX (gE hrC (n:=1))
 have cf:a8.heap[G]? = some (.cells (mG 43 0 0 0 0 0 0 0 0 0 0 0 nS nS nS nS ((ah.mk b false 0).byteV) x55.byteV j.byteV k.byteV s.byteV (.slice B L.length cq)) 30 (0,0)):=ds
 have r:be w.heap.size 111 2 (nn (.slice A b.length cp) b) a8 (.slice B L.length cq) L:=dt
 have er:i≤d.byteV.toNat:=du
 have es:L.length=i:=dv
 have ci:eh (d.byteV.toNat-i) C L=eh d.byteV.toNat F []:=dw
 refine sq<|sg<|Pl 3<|nt<|cb ((decide (((i:Nat) : Int)<d.byteV))) (fun X=>?_) (fun X=>?_)
 have dy:=of_decide_eq_true X
 refine bo<|sq<|bk<|sg<|Pl 1<|L0<|Oc<|m3 (dG D) fun eu dA aN ev=>Pl 1<|ng<|Pl 1<|L0<|Oc<|m3 (dG dA) fun ew cj aO ex=>?_
 refine L0<|Oi ((C.bytesC 1).byteV)<|Pl 1<|ng<|Pl 2<|L0<|Oc<|nJ (fc (n:=(C.bytesC 1).byteV) (by omega) cj) fun dB dC ey dD ck aQ=>?_
 have ez:=Nat.le_trans (ah.bytesR_le ((C.bytesC 1).bytesC 1) ((C.bytesC 1).byteV)) (RC.clen cj)
 refine Pl 1<|nt<|go<|Pl 1<|?_
 have aS:=u1 aN (u1 aO aQ im) im
 have aW:=aU aS (Ne.symm g) cf
 refine L0<|aR aW 21<|Pl 3<|L0<|dx (m:=1) (e:=111) #[.int .u8 C.byteV,.slice dB ((((C.bytesC 1).bytesC 1).bytesR ((C.bytesC 1).byteV)).length) dC] fun eA eB eC dE J=>?_
 have cm:=RC.upd ck J ay (aD.step (RC.u ck) J)
 have dF:=iZ (R:=nn (.slice A b.length cp) b) (x:=(Obj.mk C.byteV (((C.bytesC 1).bytesC 1).bytesR ((C.bytesC 1).byteV)))) dE rfl ⟨_,_,_,rfl,dD,b8 (x:=C.byteV) (by omega)⟩
 have cn:=aH aS J
 have co:=ax r cn (fun x hx=>(aa (fun e=>(RC.nrow D r (by decide)) (e▸hx)) ay)) (fun _ _ h=>h)
 refine L0<|gi (xs:=L) (ys:=([(Obj.mk C.byteV (((C.bytesC 1).bytesC 1).bytesR ((C.bytesC 1).byteV)))])) (.agg #[.int .u8 0,.slice none 0 0]) 2 32 co dF (by simp) nn.ones (fun _ _ _ _ h=>h) (by(try simp only[List.length_append,List.length_cons,List.length_nil,aB]);omega) (le (le (le (le (le (le (le (le (le (le (le (le (le (le (le (le (le (le (le (le (le (le (le (le (le a.size o.size) b3.size) b4.size) ab.size) af.size) H.size) ar.size) az.size) bE.size) bH.size) aA.size) bP.size) bR.size) aG.size) bX.size) c1.size) aI.size) aJ.size) aL.size) c8.size) cd) aN.size) aO.size) aQ.size) J.size) fun cr cs eD ct aX=>Pl 1<|?_
 have cv:=aD.blk (ut (aD.mono (S':=(ob B++[])) J aq) aX (av il aq)) (bi (cQ aW (ax r aS (fun x hx=>(aa (fun e=>(RC.nrow D r (by decide)) (e▸hx)) ay)) (fun _ _ h=>h)) (by decide)) ay) aW
 refine L0<|bT cv 21 (mG 43 0 0 0 0 0 0 0 0 0 0 0 nS nS nS nS ((ah.mk b false 0).byteV) x55.byteV j.byteV k.byteV s.byteV (.slice cr ((L++[(Obj.mk C.byteV (((C.bytesC 1).bytesC 1).bytesR ((C.bytesC 1).byteV)))]).length) cs)) fun eE dH aY=>nl<|bn<|tn<|go<|Pl 1<|L0<|Oi (((i:Nat) : Int)+1)<|Pl 1<|nl<|?_
 have cw:=u1 (aD.mono (S':=(ob B++(G :: []))) aX (av il aq)) aY im
 have cx:=ut (aD.mono (S':=(t :: (ob B++(G :: [])))) cn (ac im aq)) cw (av il (ac im aq))
 have cy:=ut ca cx (ac (ni a.size f) (av (aT r lr) (ac (ni (le a.size o.size) q) aq)))
 exact ga ((i+1),(((C.bytesC 1).bytesC 1).bytesC ((C.bytesC 1).byteV)),(L++[(Obj.mk C.byteV (((C.bytesC 1).bytesC 1).bytesR ((C.bytesC 1).byteV)))]),cr,cs) ⟨cy,(le (le (le (le (le (le cd aN.size) aO.size) aQ.size) J.size) aX.size) aY.size),(aD.blk cx (aa (nb (ak y) lr f) (bi (cQ I r (by decide)) (aa (nb (ak y) o.size q) ay))) I),(RC.upd cm cw (bi (RC.nrow cm co (by decide)) (aa g ay)) cy),dH,(ax ct aY (fun x hx=>(aa (fun e=>(cQ cv ct (by decide)) (e▸hx)) ay)) (fun _ _ h=>h)),(by(try dsimp only);omega),(by(try dsimp only);simp only[List.length_append,List.length_cons,List.length_nil];omega),(by(try dsimp only);rw[← ci,show d.byteV.toNat-i=(d.byteV.toNat-(i+1))+1 from by omega];rfl)⟩ (by omega)
 have dy:=of_decide_eq_false X
 refine xt<|tx<|tx<|bx<|bn<|tn<|sg<|Pl 1<|?_
 have hR:=sB ci (by omega)
 refine L0<|Oc<|m2 (dX D) fun eF aZ Y=>nt<|sq<|sg<|Pl 3<|L0<|dU (p:=⟨t,3,none⟩) (v:=.int .i64 C.endC.e) (RC.fld aZ)<|Pl 1<|nt<|?_
 have cz:=ud ca Y (le a.size f)
 refine cb ((C.endC.e != 0)) (fun Z=>?_) (fun Z=>?_)
 have b0:=au Z
 refine sq<|Rg 7 (fun w'=>w'.cell? ⟨t,3,none⟩=some (.int .i64 C.endC.e)) fun eG a9=>?_
 have cA:=RC.upd aZ a9 ay (aD.step (RC.u aZ) a9)
 refine bh (RC.fld cA) fun a0=>Rt 0 a0<|Rt 1 a0<|Rt 2 a0<|Rt 3 a0<|Rl 4 a0 (fun _ hs=>hs)<|?_
 have cB:=aH Y a9
 have cC:=nb (ak y) lr f
 refine R0 5 rfl<|b6 (aU cB cC I) mZ fun eH dI b1=>?_
 have cD:=ud cz (uz a9 b1) M
 refine bh (RC.fld (RC.upd cA b1 (aa (Ne.symm cC) ay) cD)) fun dJ=>Rt 6 dJ<|re<|tn<|rt<|tr<|bF dI (.int .i64 C.endC.e)<|?_
 have eI:=ax r (us cB b1) (fun x hx=>(aa (fun e=>(RC.nrow D r (by decide)) (e▸hx)) (aa (fun e=>(cQ I r (by decide)) (e▸hx)) ay))) (fun _ _ h=>h)
 have hs:ae bM 1 c b=aF (aP.mk 43 0 0 0 0 0 0 0 0 0 0 0 [] [] [] [] ((ah.mk b false 0).byteV) x55.byteV j.byteV k.byteV s.byteV (eh d.byteV.toNat F []).2) (eh d.byteV.toNat F []).1:=by
   subst c9 c6 bY bQ bG a4
   unfold ae bM db fF eW eX et dY eb dq
   (try simp only[z,E,X,Z,bs,if_true,if_false,decide_true,decide_false,eq_self,true_or,or_true,or_false,false_or,if_true,if_false,ch,cg,cc,bZ,reduceIte])
   all_goals rfl
 rw[hR] at hs
 rw[hs]
 exact bg b0 cD
 have b0:=ai Z
 refine bo<|sg<|?_
 refine L0<|cl (aU Y (Ne.symm g) cf)<|?_
 refine L0<|b6 (aU Y (nb (ak y) lr f) I) (mG 43 0 0 0 0 0 0 0 0 0 0 0 nS nS nS nS ((ah.mk b false 0).byteV) x55.byteV j.byteV k.byteV s.byteV (.slice B L.length cq)) fun eJ dK cE=>Pl 1<|nt<|rt<|bF dK (.int .i64 0)<|?_
 have hs:ae bM 1 c b=aF (aP.mk 43 0 0 0 0 0 0 0 0 0 0 0 [] [] [] [] ((ah.mk b false 0).byteV) x55.byteV j.byteV k.byteV s.byteV (eh d.byteV.toNat F []).2) (eh d.byteV.toNat F []).1:=by
   subst c9 c6 bY bQ bG a4
   unfold ae bM db fF eW eX et dY eb dq
   (try simp only[z,E,X,Z,bs,if_true,if_false,decide_true,decide_false,eq_self,true_or,or_true,or_false,false_or,if_true,if_false,ch,cg,cc,bZ,reduceIte])
   all_goals rfl
 rw[hR] at hs
 rw[hs]
 exact bj b0 ⟨_,_,_,_,_,rfl,aK.nil ..,aK.nil ..,(fun _ _ _=>aK.nil ..),aK.nil ..,((ax r (us Y cE) (fun x hx=>(aa (fun e=>(RC.nrow D r (by decide)) (e▸hx)) (aa (fun e=>(cQ I r (by decide)) (e▸hx)) ay))) (fun _ _ h=>h))).rd,⟨(b8 (x:=43) (by omega)),(b8 (x:=0) (by omega)),(aC (x:=0) (by omega)),(aC (x:=0) (by omega)),(aC (x:=0) (by omega)),(aC (x:=0) (by omega)),(aC (x:=0) (by omega)),(aC (x:=0) (by omega)),(aC (x:=0) (by omega)),(aC (x:=0) (by omega)),(aC (x:=0) (by omega)),(aC (x:=0) (by omega)),(b8 (x:=(ah.mk b false 0).byteV) (by omega)),(b8 (x:=x55.byteV) (by omega)),(b8 (x:=j.byteV) (by omega)),(b8 (x:=k.byteV) (by omega)),(b8 (x:=s.byteV) (by omega))⟩⟩ (ud cz cE M)
theorem kp{m:Md}{A:Option Addr}{cp:Nat}{b:List Int}{w:World}{dir c:Int}(hcode:B8 c)(hsl:b9 m w (.slice A b.length cp) b)(hb:b.length≤1048576)(hd:¬ (dir=0∨dir=1)) :
    Calls Tryz.prog 97 #[.int .i64 dir,.int .u8 c,.slice A b.length cp] w (d9 (.slice A b.length cp) b (ae bM dir c b) w):=by
 obtain⟨hcode1,hcode2⟩:=hcode
 have hln:(b.length:Int)≤1048576:=by omega
 have e0:(dir != 0)=true:=by simp;omega
 have e1:(dir != 1)=true:=by simp;omega
 refine en 176 Tryz.func97 rfl<|sg<|L0<|bI mZ fun g h a d e=>Pl 1<|nt<|sq<|sg<|Pl 3<|sy 19 e0<|Pl 3<|nl<|?_
 refine tn<|ct e1<|sg<|Pl 1<|L0<|b6 d mZ fun i dm f=>Pl 1<|nt<|rt<|tr<|bF dm (.int .i64 1)<|?_
 have hs:ae bM dir c b=(aP.zero,1):=by
   unfold ae bM db fF eW eX et dY eb dq
   (try simp only[e0,e1,bs,if_true,if_false,decide_true,decide_false,eq_self,true_or,or_true,or_false,false_or,if_true,if_false,ch,cg,cc,bZ,reduceIte,hd])
   all_goals rfl
 rw[hs]
 exact bv (ud e f a)
theorem oS{m:Md}{v:Value}{b:List Int}{w:World}{dir c:Int}(hc:B8 c)(h:b9 m w v b)(hb:b.length≤1048576) :
    Calls Tryz.prog 97 #[.int .i64 dir,.int .u8 c,v] w (d9 v b (ae bE dir c b) w):=by
  rw[← nI (b9.range h)]
  obtain⟨A,cp,rfl,_,_⟩:=h.shape
  by_cases h0:dir=0
  · subst h0;exact kc hc h hb
  by_cases h1:dir=1
  · subst h1;exact kj hc h hb
  exact kp hc h hb (by omega)
open Go.RowKit
theorem rH{x:Int}{w:World}:Calls Tryz.prog 148 #[.int .u8 x] w (cL (.bool (lY x)) w):=by
 refine en 37 Tryz.func148 rfl<|sg<|Pl 1<|ng<|Pl 3<|cu 3 [5] 8 (((decide (1≤x))&&(decide (x≤8)))) (fun K i=>?_) ?_
 refine bl 5 ((decide (1≤x))) (fun a=>?_) (fun a=>?_)
 have v:=of_decide_eq_true a
 exact Pl 3<|ce i (decide (x≤8)) (by rw[a];rfl)
 have v:=of_decide_eq_false a
 exact Pl 3<|ce i false (by rw[a];rfl)
 refine Pl 1<|cu 3 [9] 12 ((((decide (1≤x))&&(decide (x≤8)))||(x==11))) (fun K j=>?_) ?_
 refine bl 9 (((decide (1≤x))&&(decide (x≤8)))) (fun b=>?_) (fun b=>?_)
 have y:=(aS b).1
 have z:=(aS b).2
 have G:=of_decide_eq_true y
 have H:=of_decide_eq_true z
 exact Pl 3<|ce j true (by rw[b];rfl)
 exact Pl 3<|ce j (x==11) (by rw[b];rfl)
 refine Pl 1<|cu 3 [13] 16 (((((decide (1≤x))&&(decide (x≤8)))||(x==11))||(x==12))) (fun K k=>?_) ?_
 refine bl 13 ((((decide (1≤x))&&(decide (x≤8)))||(x==11))) (fun c=>?_) (fun c=>?_)
 exact Pl 3<|ce k true (by rw[c];rfl)
 have I:=(aJ c).1
 have A:=(aJ c).2
 have J:=ap A
 exact Pl 3<|ce k (x==12) (by rw[c];rfl)
 refine Pl 1<|cu 7 [17] 24 ((((((decide (1≤x))&&(decide (x≤8)))||(x==11))||(x==12))||((decide (15≤x))&&(decide (x≤17))))) (fun K l=>?_) ?_
 refine bl 17 (((((decide (1≤x))&&(decide (x≤8)))||(x==11))||(x==12))) (fun d=>?_) (fun d=>?_)
 exact Pl 7<|ce l true (by rw[d];rfl)
 have m:=(aJ d).1
 have B:=(aJ d).2
 have L:=(aJ m).1
 have C:=(aJ m).2
 have q16abp:=ap C
 have M:=ap B
 refine Pl 3<|cu 3 [20] 23 (((decide (15≤x))&&(decide (x≤17)))) (fun K n=>?_) ?_
 refine bl 20 ((decide (15≤x))) (fun e=>?_) (fun e=>?_)
 have D:=of_decide_eq_true e
 exact Pl 3<|ce n (decide (x≤17)) (by rw[e];rfl)
 have D:=of_decide_eq_false e
 exact Pl 3<|ce n false (by rw[e];rfl)
 exact Pl 1<|ce l ((decide (15≤x))&&(decide (x≤17))) (by rw[d];rfl)
 refine Pl 1<|cu 7 [25] 32 (((((((decide (1≤x))&&(decide (x≤8)))||(x==11))||(x==12))||((decide (15≤x))&&(decide (x≤17))))||((decide (20≤x))&&(decide (x≤24))))) (fun K o=>?_) ?_
 refine bl 25 ((((((decide (1≤x))&&(decide (x≤8)))||(x==11))||(x==12))||((decide (15≤x))&&(decide (x≤17))))) (fun f=>?_) (fun f=>?_)
 exact Pl 7<|ce o true (by rw[f];rfl)
 have p:=(aJ f).1
 have N:=(aJ f).2
 have q:=(aJ p).1
 have E:=(aJ p).2
 have q20aaa:=(aJ q).1
 have q20aab:=(aJ q).2
 have q20aabp:=ap q20aab
 have q20abp:=ap E
 refine Pl 3<|cu 3 [28] 31 (((decide (20≤x))&&(decide (x≤24)))) (fun K r=>?_) ?_
 refine bl 28 ((decide (20≤x))) (fun g=>?_) (fun g=>?_)
 have F:=of_decide_eq_true g
 exact Pl 3<|ce r (decide (x≤24)) (by rw[g];rfl)
 have F:=of_decide_eq_false g
 exact Pl 3<|ce r false (by rw[g];rfl)
 exact Pl 1<|ce o ((decide (20≤x))&&(decide (x≤24))) (by rw[f];rfl)
 refine Pl 1<|cu 3 [33] 36 ((((((((decide (1≤x))&&(decide (x≤8)))||(x==11))||(x==12))||((decide (15≤x))&&(decide (x≤17))))||((decide (20≤x))&&(decide (x≤24))))||(x==43))) (fun K s=>?_) ?_
 refine bl 33 (((((((decide (1≤x))&&(decide (x≤8)))||(x==11))||(x==12))||((decide (15≤x))&&(decide (x≤17))))||((decide (20≤x))&&(decide (x≤24))))) (fun h=>?_) (fun h=>?_)
 exact Pl 3<|ce s true (by rw[h];rfl)
 have t:=(aJ h).1
 have O:=(aJ h).2
 have u:=(aJ t).1
 have P:=(aJ t).2
 have q24aaa:=(aJ u).1
 have q24aab:=(aJ u).2
 have q24aaaa:=(aJ q24aaa).1
 have q24aaab:=(aJ q24aaa).2
 have q24aaabp:=ap q24aaab
 have q24aabp:=ap q24aab
 exact Pl 3<|ce s (x==43) (by rw[h];rfl)
 refine Pl 1<|nt<|rt<|rr (.bool (((((((decide (1≤x))&&(decide (x≤8)))||(x==11))||(x==12))||((decide (15≤x))&&(decide (x≤17))))||((decide (20≤x))&&(decide (x≤24))))||(x==43)))<|?_
 have hs:lY x=(((((((decide (1≤x))&&(decide (x≤8)))||(x==11))||(x==12))||((decide (15≤x))&&(decide (x≤17))))||((decide (20≤x))&&(decide (x≤24))))||(x==43)):=by
   unfold lY
   (try simp only[bs,if_true,if_false,decide_true,decide_false])
 rw[hs]
 exact⟨rfl,(aD.refl [] _)⟩
open Go.RowKit
def eM (b:List Int) : aP × Int :=
  if decide ((b.length:Int)<1) then (aP.zero,2)
  else if decide (b.getD 0 0-128<0) then (aP.zero,4)
  else if !(lY ((b.getD 0 0-128)%256)) then (aP.zero,4)
  else if decide ((b.length:Int)<2) then (aP.zero,2)
  else if !(da (b.getD 1 0)) then (aP.zero,6)
  else if decide (2<(b.length:Int)) then (aP.zero,3)
  else (nZ ((b.getD 0 0-128)%256) (b.getD 1 0),0)
theorem uF{x:Int}:lY x=f5 x:=by
  unfold lY f5
  rw[Bool.eq_iff_iff]
  simp only[decide_eq_true_eq,List.mem_cons,List.not_mem_nil,or_false,Bool.or_eq_true,Bool.and_eq_true,beq_iff_eq]
  omega
theorem sL(b:List Int) : eM b=eR b:=by
  unfold eM eR
  rw[uF,show decide ((b.length:Int)<1)=((b.length:Int)==0) from by rw[Bool.eq_iff_iff];simp only[decide_eq_true_eq,beq_iff_eq];omega,show decide (b.getD 0 0-128<0)=decide (b.getD 0 0<128) from by rw[Bool.eq_iff_iff];simp only[decide_eq_true_eq];omega]
  by_cases h:b.length=0
  · rw[show((b.length:Int)==0)=true from by rw[beq_iff_eq];omega];rfl
  · rw[show decide ((b.length:Int)<2)=((b.length:Int)==1) from by rw[Bool.eq_iff_iff];simp only[decide_eq_true_eq,beq_iff_eq];omega]
theorem mU{m:Md}{A:Option Addr}{cp:Nat}{b:List Int}{w:World}(hsl:b9 m w (.slice A b.length cp) b)(hb:b.length≤1048576) :
    Calls Tryz.prog 92 #[.slice A b.length cp] w (d9 (.slice A b.length cp) b (eM b) w):=by
 have hln:(b.length:Int)≤1048576:=by omega
 refine en 46 Tryz.func92 rfl<|sg<|L0<|bI mZ fun a2 a3 e f n=>Pl 1<|nt<|sq<|sg<|Pl 3<|nt<|cb ((decide (((b.length:Nat) : Int)<1))) (fun a=>?_) (fun a=>?_)
 have u:=of_decide_eq_true a
 refine sg<|Pl 1<|L0<|b6 f mZ fun a4 y z=>Pl 1<|nt<|rt<|tr<|bF y (.int .i64 2)<|?_
 have hs:eM b=(aP.zero,2):=by
   unfold eM
   (try simp only[a,bs,if_true,if_false,decide_true,decide_false,Bool.not_eq_true,reduceIte])
   all_goals rfl
 rw[hs]
 exact bv (ud n z e)
 have u:=of_decide_eq_false a
 refine bo<|sg<|Pl 1<|?_
 have s:=b9.old hsl n
 refine fy (b9.at_ s 0 (by omega)) fun B C D E a5=>L0<|jb b.length 0 D (by omega)<|L0<|dU (p:=⟨B,C+0,none⟩) (v:=.int .u8 (b.getD 0 0)) E<|L0<|Oi (b.getD 0 0)<|L0<|Oi ((b.getD 0 0)-128)<|Pl 1<|nt<|sq<|sg<|Pl 2<|nt<|?_
 refine cb ((decide (((b.getD 0 0)-128)<0))) (fun c=>?_) (fun c=>?_)
 have F:=of_decide_eq_true c
 refine sg<|Pl 1<|L0<|b6 f mZ fun a6 G H=>Pl 1<|nt<|rt<|tr<|bF G (.int .i64 4)<|?_
 have hs:eM b=(aP.zero,4):=by
   unfold eM
   (try simp only[a,c,bs,if_true,if_false,decide_true,decide_false,Bool.not_eq_true,reduceIte])
   all_goals rfl
 rw[hs]
 exact bv (ud n H e)
 have F:=of_decide_eq_false c
 refine bo<|sg<|Pl 2<|L0<|Oc<|m1 (rH (x:=(((b.getD 0 0)-128)%256))) fun a7 g=>Pl 1<|nt<|sq<|sg<|Pl 2<|nl<|?_
 refine tn<|?_
 have q:=aH n g
 refine cb ((!(lY (((b.getD 0 0)-128)%256)))) (fun d=>?_) (fun d=>?_)
 have i:(lY (((b.getD 0 0)-128)%256))=false:=by simpa using d
 refine sg<|Pl 1<|?_
 refine L0<|b6 (ub g f) mZ fun a8 I J=>Pl 1<|nt<|rt<|tr<|bF I (.int .i64 4)<|?_
 have hs:eM b=(aP.zero,4):=by
   unfold eM
   (try simp only[a,c,d,i,bs,if_true,if_false,decide_true,decide_false,Bool.not_eq_true,reduceIte])
   all_goals rfl
 rw[hs]
 exact bv (ud q J e)
 have i:(lY (((b.getD 0 0)-128)%256))=true:=by simpa using d
 refine bo<|sq<|sg<|Pl 3<|nt<|cb ((decide (((b.length:Nat) : Int)<2))) (fun h=>?_) (fun h=>?_)
 have K:=of_decide_eq_true h
 refine sg<|Pl 1<|?_
 refine L0<|b6 (ub g f) mZ fun a9 L M=>Pl 1<|nt<|rt<|tr<|bF L (.int .i64 2)<|?_
 have hs:eM b=(aP.zero,2):=by
   unfold eM
   (try simp only[a,c,d,i,h,bs,if_true,if_false,decide_true,decide_false,Bool.not_eq_true,reduceIte])
   all_goals rfl
 rw[hs]
 exact bv (ud q M e)
 have K:=of_decide_eq_false h
 refine bo<|sg<|Pl 1<|?_
 have t:=b9.old s g
 refine fy (b9.at_ t 1 (by omega)) fun N O P Q aa=>L0<|jb b.length 1 P (by omega)<|L0<|dU (p:=⟨N,O+1,none⟩) (v:=.int .u8 (b.getD 1 0)) Q<|L0<|Oc<|m1 (rU (x:=(b.getD 1 0)) (by omega)) fun ab k=>Pl 1<|nt<|sq<|sg<|Pl 2<|nt<|?_
 have r:=aH q k
 refine cb ((!(da (b.getD 1 0)))) (fun j=>?_) (fun j=>?_)
 have o:(da (b.getD 1 0))=false:=by simpa using j
 refine sg<|Pl 1<|?_
 refine L0<|b6 (ub (aH g k) f) mZ fun ac R S=>Pl 1<|nt<|rt<|tr<|bF R (.int .i64 6)<|?_
 have hs:eM b=(aP.zero,6):=by
   unfold eM
   (try simp only[a,c,d,i,h,j,o,bs,if_true,if_false,decide_true,decide_false,Bool.not_eq_true,reduceIte])
   all_goals rfl
 rw[hs]
 exact bv (ud r S e)
 have o:(da (b.getD 1 0))=true:=by simpa using j
 refine bo<|sq<|sg<|Pl 3<|nt<|cb ((decide (2<((b.length:Nat) : Int)))) (fun l=>?_) (fun l=>?_)
 have T:=of_decide_eq_true l
 refine sg<|Pl 1<|?_
 refine L0<|b6 (ub (aH g k) f) mZ fun ad U V=>Pl 1<|nt<|rt<|tr<|bF U (.int .i64 3)<|?_
 have hs:eM b=(aP.zero,3):=by
   unfold eM
   (try simp only[a,c,d,i,h,j,o,l,bs,if_true,if_false,decide_true,decide_false,Bool.not_eq_true,reduceIte])
   all_goals rfl
 rw[hs]
 exact bv (ud r V e)
 have T:=of_decide_eq_false l
 refine bo<|sg<|Pl 3<|?_
 refine fy (b9.at_ (b9.old t k) 1 (by omega)) fun W X Y Z ae=>L0<|jb b.length 1 Y (by omega)<|L0<|dU (p:=⟨W,X+1,none⟩) (v:=.int .u8 (b.getD 1 0)) Z<|Pl 1<|?_
 refine L0<|b6 (ub (aH g k) f) (mG (((b.getD 0 0)-128)%256) (b.getD 1 0) 0 0 0 0 0 0 0 0 0 0 nS nS nS nS 0 0 0 0 0 nS) fun af a0 a1=>Pl 1<|nt<|rt<|bF a0 (.int .i64 0)<|?_
 have hs:eM b=((aP.mk (((b.getD 0 0)-128)%256) (b.getD 1 0) 0 0 0 0 0 0 0 0 0 0 [] [] [] [] 0 0 0 0 0 []),0):=by
   unfold eM
   (try simp only[a,c,d,i,h,j,o,l,bs,if_true,if_false,decide_true,decide_false,Bool.not_eq_true,reduceIte])
   all_goals rfl
 rw[hs]
 exact⟨_,rfl,⟨_,_,_,_,_,rfl,aK.nil ..,aK.nil ..,(fun _ _ _=>aK.nil ..),aK.nil ..,aK.nil ..,⟨(b8 (x:=(((b.getD 0 0)-128)%256)) (by omega)),(b8 (x:=(b.getD 1 0)) (by omega)),(aC (x:=0) (by omega)),(aC (x:=0) (by omega)),(aC (x:=0) (by omega)),(aC (x:=0) (by omega)),(aC (x:=0) (by omega)),(aC (x:=0) (by omega)),(aC (x:=0) (by omega)),(aC (x:=0) (by omega)),(aC (x:=0) (by omega)),(aC (x:=0) (by omega)),(b8 (x:=0) (by omega)),(b8 (x:=0) (by omega)),(b8 (x:=0) (by omega)),(b8 (x:=0) (by omega)),(b8 (x:=0) (by omega))⟩⟩,(ud r a1 e)⟩
theorem oG{m:Md}{v:Value}{b:List Int}{w:World}(h:b9 m w v b)(hb:b.length≤1048576) : Calls Tryz.prog 92 #[v] w (d9 v b (eR b) w):=by
  obtain⟨A,cp,rfl,_,_⟩:=h.shape
  rw[← sL]
  exact mU h hb
open Go.RowKit
theorem g7{x y:aP × Int}(h:x=y){w:World}{e:Ending}{w':World}{v0:Value}{b:List Int}(k:d9 v0 b y w e w') : d9 v0 b x w e w':=by rw[h];exact k
theorem lT{m:Md}{v:Value}{b:List Int}{w:World}{dir c:Int}(hc:B8 c)(h:b9 m w v b)(hb:b.length≤1048576) :
    Calls Tryz.prog 93 #[.int .i64 dir,.int .u8 c,v] w (d9 v b (ae aE dir c b) w):=by
  obtain⟨A,cp,rfl,_,_⟩:=h.shape
  by_cases h0:dir=0
  · subst h0;exact jN hc h hb
  by_cases h1:dir=1
  · subst h1;exact jM hc h hb
  exact jk hc h hb (by omega)
theorem nu{m:Md}{v:Value}{b:List Int}{w:World}{dir c:Int}(hc:B8 c)(h:b9 m w v b)(hb:b.length≤1048576) :
    Calls Tryz.prog 94 #[.int .i64 dir,.int .u8 c,v] w (d9 v b (ae aI dir c b) w):=by
  obtain⟨A,cp,rfl,_,_⟩:=h.shape
  by_cases h0:dir=0
  · subst h0;exact kk hc h hb
  by_cases h1:dir=1
  · subst h1;exact kg hc h hb
  exact kH hc h hb (by omega)
theorem n8{m:Md}{v:Value}{b:List Int}{w:World}{dir c:Int}(hc:B8 c)(h:b9 m w v b)(hb:b.length≤1048576) :
    Calls Tryz.prog 95 #[.int .i64 dir,.int .u8 c,v] w (d9 v b (ae aM dir c b) w):=by
  obtain⟨A,cp,rfl,_,_⟩:=h.shape
  rw[← m7]
  by_cases h0:dir=0
  · subst h0;exact kz hc h hb
  by_cases h1:dir=1
  · subst h1;exact kq hc h hb
  exact kC hc h hb (by omega)
theorem nm{m:Md}{A:Option Addr}{cp:Nat}{b:List Int}{w:World}{dir:Int}(hsl:b9 m w (.slice A b.length cp) b)(hb:b.length≤1048576) :
    Calls Tryz.prog 25 #[.int .i64 dir,.slice A b.length cp] w (d9 (.slice A b.length cp) b (dM dir b) w):=by
 have hln:(b.length:Int)≤1048576:=by omega
 refine en 87 Tryz.func25 rfl<|sg<|L0<|bI mZ fun bN bO u d i=>Pl 1<|nt<|sq<|sg<|Pl 3<|cu 3 [11] 14 (((dir != 0)&&(dir != 1))) (fun K W=>?_) ?_
 refine bl 11 ((dir != 0)) (fun F=>?_) (fun F=>?_)
 have aY:=au F
 exact Pl 3<|ce W (dir != 1) (by rw[F];rfl)
 have aY:=ai F
 exact Pl 3<|ce W false (by rw[F];rfl)
 refine nt<|cb (((dir != 0)&&(dir != 1))) (fun f=>?_) (fun f=>?_)
 have X:=(aS f).1
 have Y:=(aS f).2
 have bP:=au X
 have bQ:=au Y
 refine sg<|Pl 1<|L0<|b6 d mZ fun bR b0 b1=>Pl 1<|nt<|rt<|tr<|bF b0 (.int .i64 1)<|?_
 have hs:fM dir b=(aP.zero,1):=by
   unfold fM
   (try simp only[f,X,Y,bs,if_true,if_false,decide_true,decide_false,eU,reduceIte])
   all_goals rfl
 rw[← eZ]
 refine g7 hs ?_
 exact bv (ud i b1 u)
 refine bo<|sq<|sg<|Pl 3<|nt<|cb ((((b.length:Nat) : Int)==0)) (fun g=>?_) (fun g=>?_)
 have b2:=al g
 refine sg<|Pl 1<|L0<|b6 d mZ fun bS b3 b4=>Pl 1<|nt<|rt<|tr<|bF b3 (.int .i64 2)<|?_
 have hs:fM dir b=(aP.zero,2):=by
   unfold fM
   (try simp only[f,g,bs,if_true,if_false,decide_true,decide_false,eU,reduceIte])
   all_goals rfl
 rw[← eZ]
 refine g7 hs ?_
 exact bv (ud i b4 u)
 have b2:=ap g
 refine bo<|sq<|sg<|Pl 3<|nt<|cb ((decide (253<((b.length:Nat) : Int)))) (fun j=>?_) (fun j=>?_)
 have b5:=of_decide_eq_true j
 refine sg<|Pl 1<|L0<|b6 d mZ fun bT b7 ba=>Pl 1<|nt<|rt<|tr<|bF b7 (.int .i64 3)<|?_
 have hs:fM dir b=(aP.zero,3):=by
   unfold fM
   (try simp only[f,g,j,bs,if_true,if_false,decide_true,decide_false,eU,reduceIte])
   all_goals rfl
 rw[← eZ]
 refine g7 hs ?_
 exact bv (ud i ba u)
 have b5:=of_decide_eq_false j
 refine bo<|sg<|Pl 1<|?_
 have G:=b9.old hsl i
 refine fy (b9.at_ G 0 (by omega)) fun bb bc bd be bU=>L0<|jb b.length 0 bd (by omega)<|L0<|dU (p:=⟨bb,bc+0,none⟩) (v:=.int .u8 (b.getD 0 0)) be<|Pl 1<|nt<|sq<|sg<|Pl 3<|cu 3 [29] 32 (((decide (128≤(b.getD 0 0)))&&(dir==1))) (fun K Z=>?_) ?_
 refine bl 29 ((decide (128≤(b.getD 0 0)))) (fun H=>?_) (fun H=>?_)
 have bf:=of_decide_eq_true H
 exact Pl 3<|ce Z (dir==1) (by rw[H];rfl)
 have bf:=of_decide_eq_false H
 exact Pl 3<|ce Z false (by rw[H];rfl)
 refine nt<|cb (((decide (128≤(b.getD 0 0)))&&(dir==1))) (fun x=>?_) (fun x=>?_)
 have a0:=(aS x).1
 have a1:=(aS x).2
 have bV:=of_decide_eq_true a0
 have bW:=al a1
 refine sg<|Pl 1<|L0<|Oc<|e2 (oG G (by omega)) fun bg bX I S=>?_
 refine Pl 2<|?_
 have a2:=ub S d
 refine L0<|b6 (hz:=(by rw[I.size];exact aO)) (hv:=I.size) (h1:=(di.one I (b9.old G S))) a2 (bg) fun bY bh a3=>Pl 1<|nt<|rt<|tr<|el 22 I.size bh (.int .i64 (((eR b)).2))<|?_
 have hs:fM dir b=(eR b):=by
   unfold fM
   (try simp only[f,g,j,x,a0,a1,bs,if_true,if_false,decide_true,decide_false,eU,reduceIte])
   all_goals rfl
 rw[← eZ]
 refine g7 hs ?_
 exact⟨_,rfl,(di.upd I a3 (am (aQ a2 (by decide)) aG)),(ud i (uz S a3) u)⟩
 refine bo<|sg<|Pl 3<|mM (dL (P:=Tryz.prog) 22 5 1 Tryz.underlying22 rfl rfl A b.length cp 1 (by omega)) fun bi hrun54 a4=>L0<|hZ (.slice bi (b.length-1) (cp-1)) (dW (kl:=.i64) (k:=((1:Nat) : Int)) (A:=A) (n:=b.length) (c:=cp) rfl Tryz.underlying22 (by kernel_rfl) (by kernel_rfl) (hrun54 _ _))<|L0<|Oc<|e2 (lT (dir:=dir) (c:=(b.getD 0 0)) (b8 (by omega)) (a4 _ _ _ _ _ G) (by(try simp only[List.length_drop]);omega)) fun a5 bZ bj e=>?_
 have L:=b9.old G e
 have l:=di.sub bj (fun m' w' q=>(a4 _ _ _ _ _ q))
 refine Pl 3<|L0<|bI mZ fun c0 c1 a bk bm=>L0<|b6 (hz:=(by rw[l.size];exact aO)) (hv:=l.size) (h1:=(di.one l hsl)) bk (a5) fun c2 a6 bn=>Pl 1<|nt<|sq<|sg<|Pl 2<|nt<|?_
 have M:=ud bm bn a
 have o:=aH e M
 have a7:=aH i o
 refine cb (((((ae aE dir (b.getD 0 0) (b.drop 1))).2)==4)) (fun h=>?_) (fun h=>?_)
 have bp:=al h
 refine go<|Pl 3<|mM (dL (P:=Tryz.prog) 22 5 1 Tryz.underlying22 rfl rfl A b.length cp 1 (by omega)) fun bq hrun75 a8=>L0<|hZ (.slice bq (b.length-1) (cp-1)) (dW (kl:=.i64) (k:=((1:Nat) : Int)) (A:=A) (n:=b.length) (c:=cp) rfl Tryz.underlying22 (by kernel_rfl) (by kernel_rfl) (hrun75 _ _))<|?_
 have a9:=b9.old L M
 refine L0<|Oc<|e2 (nu (dir:=dir) (c:=(b.getD 0 0)) (b8 (by omega)) (a8 _ _ _ _ _ a9) (by(try simp only[List.length_drop]);omega)) fun aa c3 br N=>?_
 have c4:=b9.old a9 N
 have r:=di.sub br (fun m' w' q=>(a8 _ _ _ _ _ q))
 refine Pl 3<|?_
 have ab:=ub N a6
 refine L0<|b6 (hz:=(by rw[r.size];exact aO)) (hv:=(Eq.trans r.size (Eq.symm l.size))) (h1:=(di.one r hsl)) ab (aa) fun c5 ad T=>Pl 1<|nt<|sq<|sg<|Pl 2<|nt<|?_
 have D:=uz N T
 have af:=ud a7 D (le (le i.size e.size) a)
 refine cb (((((ae aI dir (b.getD 0 0) (b.drop 1))).2)==4)) (fun y=>?_) (fun y=>?_)
 have bt:=al y
 refine go<|Pl 3<|mM (dL (P:=Tryz.prog) 22 5 1 Tryz.underlying22 rfl rfl A b.length cp 1 (by omega)) fun bu hrun92 ag=>L0<|hZ (.slice bu (b.length-1) (cp-1)) (dW (kl:=.i64) (k:=((1:Nat) : Int)) (A:=A) (n:=b.length) (c:=cp) rfl Tryz.underlying22 (by kernel_rfl) (by kernel_rfl) (hrun92 _ _))<|?_
 have ah:=ud M D a
 have aj:=b9.old L ah
 refine L0<|Oc<|e2 (n8 (dir:=dir) (c:=(b.getD 0 0)) (b8 (by omega)) (ag _ _ _ _ _ aj) (by(try simp only[List.length_drop]);omega)) fun ak c6 bw O=>?_
 have c7:=b9.old aj O
 have s:=di.sub bw (fun m' w' q=>(ag _ _ _ _ _ q))
 refine Pl 3<|?_
 have an:=ub O ad
 refine L0<|b6 (hz:=(by rw[s.size];exact aO)) (hv:=(Eq.trans s.size (Eq.symm r.size))) (h1:=(di.one s hsl)) an (ak) fun c8 ao U=>Pl 1<|nt<|sq<|sg<|Pl 2<|nt<|?_
 have E:=uz O U
 have ar:=ud af E (le (le i.size e.size) a)
 refine cb (((((ae aM dir (b.getD 0 0) (b.drop 1))).2)==4)) (fun B=>?_) (fun B=>?_)
 have bx:=al B
 refine go<|Pl 3<|mM (dL (P:=Tryz.prog) 22 5 1 Tryz.underlying22 rfl rfl A b.length cp 1 (by omega)) fun bz hrun110 av=>L0<|hZ (.slice bz (b.length-1) (cp-1)) (dW (kl:=.i64) (k:=((1:Nat) : Int)) (A:=A) (n:=b.length) (c:=cp) rfl Tryz.underlying22 (by kernel_rfl) (by kernel_rfl) (hrun110 _ _))<|?_
 have V:=u1 D E im
 have aw:=ud ah E a
 have ax:=b9.old L aw
 refine L0<|Oc<|e2 (lX (dir:=dir) (c:=(b.getD 0 0)) (b8 (by omega)) (av _ _ _ _ _ ax) (by(try simp only[List.length_drop]);omega)) fun ay c9 bA Q=>?_
 have ca:=b9.old ax Q
 have t:=di.sub bA (fun m' w' q=>(av _ _ _ _ _ q))
 refine Pl 3<|?_
 have az:=ub Q ao
 refine L0<|b6 (hz:=(by rw[t.size];exact aO)) (hv:=(Eq.trans t.size (Eq.symm s.size))) (h1:=(di.one t hsl)) az (ay) fun cc aA aB=>Pl 1<|nt<|sq<|sg<|Pl 2<|nt<|?_
 have C:=uz Q aB
 have aC:=ud ar C (le (le i.size e.size) a)
 refine cb (((((ae aZ dir (b.getD 0 0) (b.drop 1))).2)==4)) (fun J=>?_) (fun J=>?_)
 have bB:=al J
 refine go<|Pl 3<|mM (dL (P:=Tryz.prog) 22 5 1 Tryz.underlying22 rfl rfl A b.length cp 1 (by omega)) fun bC hrun130 aD=>L0<|hZ (.slice bC (b.length-1) (cp-1)) (dW (kl:=.i64) (k:=((1:Nat) : Int)) (A:=A) (n:=b.length) (c:=cp) rfl Tryz.underlying22 (by kernel_rfl) (by kernel_rfl) (hrun130 _ _))<|?_
 have cd:=u1 U C im
 have cg:=u1 E C im
 have ch:=u1 (u1 T E im) C im
 have aF:=u1 V C im
 have aJ:=b9.old L (ud aw C a)
 refine L0<|Oc<|e2 (oS (dir:=dir) (c:=(b.getD 0 0)) (b8 (by omega)) (aD _ _ _ _ _ aJ) (by(try simp only[List.length_drop]);omega)) fun aK ci bD R=>?_
 have cj:=b9.old aJ R
 have z:=di.sub bD (fun m' w' q=>(aD _ _ _ _ _ q))
 refine Pl 3<|?_
 have aL:=ub R aA
 refine L0<|b6 (hz:=(by rw[z.size];exact aO)) (hv:=(Eq.trans z.size (Eq.symm t.size))) (h1:=(di.one z hsl)) aL (aK) fun ck bG aN=>Pl 1<|ng<|L0<|cl (hz:=(by rw[z.size];exact aO)) bG<|Pl 1<|?_
 have aR:=uz R aN
 refine L0<|b6 (hz:=(by rw[z.size];exact aO)) (hv:=z.size) (h1:=(di.one z hsl)) (ub (ud o (u1 aF aR im) (le e.size a)) d) (aK) fun cm bH aT=>Pl 1<|nt<|rt<|el 22 z.size bH (.int .i64 (((ae bE dir (b.getD 0 0) (b.drop 1))).2))<|?_
 have hs:fM dir b=(ae bE dir (b.getD 0 0) (b.drop 1)):=by
   unfold fM
   (try simp only[f,g,j,x,h,y,B,J,bs,if_true,if_false,decide_true,decide_false,eU,reduceIte])
   all_goals rfl
 rw[← eZ]
 refine g7 hs ?_
 exact⟨_,rfl,(di.upd z (us aN aT) (am (aQ aL (by decide)) (am (aQ (ub (ud o (aH aF R) (le e.size a)) d) (by decide)) aG))),(ut aC (us aR aT) (ac (ni (le i.size e.size) a) (ac (nr u) aq)))⟩
 have bB:=ap J
 refine bo<|sg<|L0<|cl (hz:=(by rw[t.size];exact aO)) aA<|Pl 1<|?_
 refine L0<|b6 (hz:=(by rw[t.size];exact aO)) (hv:=t.size) (h1:=(di.one t hsl)) (ub (ud o (u1 V C im) (le e.size a)) d) (ay) fun cn bJ aU=>Pl 1<|nt<|rt<|el 22 t.size bJ (.int .i64 (((ae aZ dir (b.getD 0 0) (b.drop 1))).2))<|?_
 have hs:fM dir b=(ae aZ dir (b.getD 0 0) (b.drop 1)):=by
   unfold fM
   (try simp only[f,g,j,x,h,y,B,J,bs,if_true,if_false,decide_true,decide_false,eU,reduceIte])
   all_goals rfl
 rw[← eZ]
 refine g7 hs ?_
 exact⟨_,rfl,(di.upd t (us aB aU) (am (aQ az (by decide)) (am (aQ (ub (ud o (aH V Q) (le e.size a)) d) (by decide)) aG))),(ud aC aU u)⟩
 have bx:=ap B
 refine bo<|sq<|sg<|Pl 2<|nt<|cf B<|bo<|sg<|L0<|cl (hz:=(by rw[s.size];exact aO)) ao<|?_
 refine Pl 1<|?_
 refine L0<|b6 (hz:=(by rw[s.size];exact aO)) (hv:=s.size) (h1:=(di.one s hsl)) (ub (ud o (u1 D E im) (le e.size a)) d) (ak) fun co bK aV=>Pl 1<|nt<|rt<|el 22 s.size bK (.int .i64 (((ae aM dir (b.getD 0 0) (b.drop 1))).2))<|?_
 have hs:fM dir b=(ae aM dir (b.getD 0 0) (b.drop 1)):=by
   unfold fM
   (try simp only[f,g,j,x,h,y,B,bs,if_true,if_false,decide_true,decide_false,eU,reduceIte])
   all_goals rfl
 rw[← eZ]
 refine g7 hs ?_
 exact⟨_,rfl,(di.upd s (us U aV) (am (aQ an (by decide)) (am (aQ (ub (ud o (aH D O) (le e.size a)) d) (by decide)) aG))),(ud ar aV u)⟩
 have bt:=ap y
 refine bo<|sq<|sg<|Pl 2<|nt<|cf y<|bo<|sq<|sg<|?_
 refine Pl 2<|nt<|cf y<|bo<|sg<|L0<|cl (hz:=(by rw[r.size];exact aO)) ad<|Pl 1<|?_
 refine L0<|b6 (hz:=(by rw[r.size];exact aO)) (hv:=r.size) (h1:=(di.one r hsl)) (ub (ud o D (le e.size a)) d) (aa) fun cq bL aW=>Pl 1<|nt<|rt<|el 22 r.size bL (.int .i64 (((ae aI dir (b.getD 0 0) (b.drop 1))).2))<|?_
 have hs:fM dir b=(ae aI dir (b.getD 0 0) (b.drop 1)):=by
   unfold fM
   (try simp only[f,g,j,x,h,y,bs,if_true,if_false,decide_true,decide_false,eU,reduceIte])
   all_goals rfl
 rw[← eZ]
 refine g7 hs ?_
 exact⟨_,rfl,(di.upd r (us T aW) (am (aQ ab (by decide)) (am (aQ (ub (aH o N) d) (by decide)) aG))),(ud af aW u)⟩
 have bp:=ap h
 refine bo<|sq<|sg<|Pl 2<|nt<|cf h<|bo<|sq<|sg<|?_
 refine Pl 2<|nt<|cf h<|bo<|sq<|sg<|Pl 2<|nt<|cf h<|sk<|?_
 refine tn<|sg<|L0<|cl (hz:=(by rw[l.size];exact aO)) a6<|Pl 1<|?_
 refine L0<|b6 (hz:=(by rw[l.size];exact aO)) (hv:=l.size) (h1:=(di.one l hsl)) (ub o d) (a5) fun cr bM aX=>Pl 1<|nt<|rt<|el 22 l.size bM (.int .i64 (((ae aE dir (b.getD 0 0) (b.drop 1))).2))<|?_
 have hs:fM dir b=(ae aE dir (b.getD 0 0) (b.drop 1)):=by
   unfold fM
   (try simp only[f,g,j,x,h,bs,if_true,if_false,decide_true,decide_false,eU,reduceIte])
   all_goals rfl
 rw[← eZ]
 refine g7 hs ?_
 exact⟨_,rfl,(di.upd l (uz M aX) (am (aQ (ub e d) (by decide)) aG)),(ud a7 aX u)⟩
theorem oQ{m:Md}{v:Value}{b:List Int}{w:World}{dir:Int}(h:b9 m w v b)(hb:b.length≤1048576) : Calls Tryz.prog 25 #[.int .i64 dir,v] w (d9 v b (dM dir b) w):=by
  obtain⟨A,cp,rfl,_,_⟩:=h.shape
  exact nm h hb
open Go.RowKit
theorem lI{m:Md}{v:Value}{b:List Int}{w:World}{dir:Int}{M:aP}{E:Int}(hX:dM dir b=(M,E))(h:b9 m w v b)(hb:b.length≤1048576) : Calls Tryz.prog 25 #[.int .i64 dir,v] w (fun e w'=>∃ x,e = .returned (.tuple #[.agg (sT M x),.int .i64 E])∧di v b w' (sT M x).toList M∧aD [] w w'):=by
  refine(oQ h hb).mono ?_
  rintro e w' ⟨cs,rfl,h1,h2⟩
  rw[hX] at h1 ⊢
  obtain⟨x,rfl⟩:=oI (h1.rd (b9.old h h2))
  exact⟨x,rfl,h1,h2⟩
open Go.RowKit
open Go.RowKit
def fi (dir:Int)(b:List Int) : fE × Int :=
  if dir != 0&&dir != 1 then (fE.zero,1)
  else if decide ((b.length:Int)<9) then (fE.zero,2)
  else if decide (513<(b.length:Int)) then (fE.zero,3)
  else if ((b.getD 0 0 != 58)||(b.getD ((b.length:Int)-2).toNat 0 != 13))||(b.getD ((b.length:Int)-1).toNat 0 != 10) then (fE.zero,12)
  else match bU ((b.take ((b.length:Int)-2).toNat).drop 1) with
    | none=>(fE.zero,11)
    | some x=>if !(ei x) then (fE.zero,10) else ea (x.getD 0 0) 0 (dM dir ((x.take ((x.length:Int)-1).toNat).drop 1))
theorem tW{b:List Int}(h:3≤b.length) : fD (b.drop 1)=((b.getD ((b.length:Int)-2).toNat 0==13)&&(b.getD ((b.length:Int)-1).toNat 0==10)):=by
  unfold fD
  rw[show((((b.drop 1).length:Nat) : Int)-2).toNat=b.length-3 from by simp only[List.length_drop];omega,List.drop_drop,show 1+(b.length-3)=b.length-2 from by omega,show((b.length:Int)-2).toNat=b.length-2 from by omega,show((b.length:Int)-1).toNat=b.length-2+1 from by omega,decide_eq_true (show 2≤(((b.drop 1).length:Nat) : Int) from by simp only[List.length_drop];omega),Bool.true_and]
  have e:b.drop (b.length-2)=[b.getD (b.length-2) 0,b.getD (b.length-2+1) 0]:=by
    apply List.ext_getElem
    · simp;omega
    · intro i h1 h2
      simp only[List.length_cons,List.length_nil] at h2
      rw[List.getElem_drop]
      rcases i with _|_|i
      · simp[List.getD_eq_getElem?_getD,List.getElem?_eq_getElem (show b.length-2<b.length by omega)]
      · simp[List.getD_eq_getElem?_getD,List.getElem?_eq_getElem (show b.length-2+1<b.length by omega)]
      · omega
  rw[e,Bool.eq_iff_iff]
  simp only[decide_eq_true_eq,List.cons.injEq,and_true,Bool.and_eq_true,beq_iff_eq]
theorem eH{dir:Int}{b:List Int}:fi dir b=eA dir b:=by
  unfold fi eA
  split
  · rfl
  split
  · rfl
  rename_i hl
  have hl:9≤b.length:=by
    have:=of_decide_eq_false (by simpa using hl:decide ((b.length:Int)<9)=false)
    omega
  split
  · rfl
  have h2:=tW (b:=b) (by omega)
  by_cases hc:(((b.getD 0 0 != 58)||(b.getD ((b.length:Int)-2).toNat 0 != 13))||(b.getD ((b.length:Int)-1).toNat 0 != 10))=true
  · rw[if_pos hc]
    have hd:gk b=none:=by
      unfold gk
      rw[if_neg]
      rintro⟨k1,k2⟩
      rw[h2] at k2
      simp only[Bool.or_eq_true,bne_iff_ne,ne_eq,Bool.and_eq_true,beq_iff_eq] at hc k2
      rcases hc with(hc|hc) | hc
      · exact hc k1
      · exact hc k2.1
      · exact hc k2.2
    rw[hd]
  · rw[if_neg hc]
    simp only[Bool.or_eq_true,bne_iff_ne,ne_eq,not_or,Decidable.not_not] at hc
    have hd:gk b=some ((b.take ((b.length:Int)-2).toNat).drop 1):=by
      unfold gk
      rw[if_pos ⟨hc.1.1,by rw[h2,hc.1.2,hc.2];rfl⟩,List.drop_take,show((b.length:Int)-2).toNat-1=b.length-3 from by omega]
    rw[hd]
    dsimp only
    cases bU ((b.take ((b.length:Int)-2).toNat).drop 1) with
    | none=>rfl
    | some x=>dsimp only;rw[gW]
open Go.RowKit
theorem gR.old{base:Nat}{w w':World}{v:Value}{xs:List Int}(h:gR base w v xs)(hu:aD [] w w') : gR base w' v xs:=by
  obtain⟨g,cap,cur,n,h1,h2,h3,h4⟩:=h
  exact⟨g,cap,cur,n,h1,h2,hu.blk (by simp) h3,h4⟩
section
variable {P:Program}{n:Nat}{D:List Deferred}{F:Fr}{w:World}{K:Fr→World→Prop}{Q:Exit→Act→World→Prop}{d:Option Tmp}{t:TypeId}{s:String}{af:Array Edge}{gu:Option (Nat × Bool)}
end
open Go.RowKit
theorem rR{w:World}{c:Int}(hc:0≤c∧c<256) : Calls Tryz.prog 185 #[.int .u8 c] w (cL (.int .i64 (bN c)) w):=by
 refine en 23 Tryz.func185 rfl<|sg<|Pl 1<|nt<|sq<|bk<|sg<|Pl 3<|cu 3 [6] 9 (((decide (48≤c))&&(decide (c≤57)))) (fun K f=>?_) ?_
 refine bl 6 ((decide (48≤c))) (fun a=>?_) (fun a=>?_)
 have h:=of_decide_eq_true a
 exact Pl 3<|ce f (decide (c≤57)) (by rw[a];rfl)
 have h:=of_decide_eq_false a
 exact Pl 3<|ce f false (by rw[a];rfl)
 refine Pl 1<|nt<|cb (((decide (48≤c))&&(decide (c≤57)))) (fun d=>?_) (fun d=>?_)
 have i:=(aS d).1
 have j:=(aS d).2
 have n:=of_decide_eq_true i
 have o:=of_decide_eq_true j
 refine sg<|Pl 1<|L0<|Oi c<|L0<|Oi (c-48)<|Pl 1<|nt<|rt<|br<|tr<|rr (.int .i64 (c-48))<|?_
 have hs:bN c=(c-48):=by unfold bN;(try simp only[Bool.and_eq_true,decide_eq_true_eq,Bool.and_eq_false_iff,decide_eq_false_iff_not] at *);(repeat' split)<;>omega
 rw[hs]
 exact⟨rfl,(aD.refl [] _)⟩
 refine sg<|Pl 3<|cu 3 [16] 19 (((decide (65≤c))&&(decide (c≤70)))) (fun K g=>?_) ?_
 refine bl 16 ((decide (65≤c))) (fun b=>?_) (fun b=>?_)
 have k:=of_decide_eq_true b
 exact Pl 3<|ce g (decide (c≤70)) (by rw[b];rfl)
 have k:=of_decide_eq_false b
 exact Pl 3<|ce g false (by rw[b];rfl)
 refine Pl 1<|nt<|cb (((decide (65≤c))&&(decide (c≤70)))) (fun e=>?_) (fun e=>?_)
 have l:=(aS e).1
 have m:=(aS e).2
 have p:=of_decide_eq_true l
 have q:=of_decide_eq_true m
 refine sg<|Pl 1<|L0<|Oi c<|L0<|Oi (c-55)<|Pl 1<|nt<|rt<|br<|tr<|rr (.int .i64 (c-55))<|?_
 have hs:bN c=(c-55):=by unfold bN;(try simp only[Bool.and_eq_true,decide_eq_true_eq,Bool.and_eq_false_iff,decide_eq_false_iff_not] at *);(repeat' split)<;>omega
 rw[hs]
 exact⟨rfl,(aD.refl [] _)⟩
 refine sk<|bn<|tn<|sg<|Pl 1<|nt<|rt<|rr (.int .i64 (-1))<|?_
 have hs:bN c = -1:=by unfold bN;(try simp only[Bool.and_eq_true,decide_eq_true_eq,Bool.and_eq_false_iff,decide_eq_false_iff_not] at *);(repeat' split)<;>omega
 rw[hs]
 exact⟨rfl,(aD.refl [] _)⟩
theorem pg(c:Int) : -1≤bN c:=by
  unfold bN
  (repeat' split)<;>omega
theorem rz{xs:List Int}{w:World}(hr:dA xs)(hl:xs.length≤1048576) :
    Calls Tryz.prog 125 #[.string (strOfNums xs)] w (fz xs w):=by
 refine en 43 Tryz.func125 rfl<|sg<|Pl 2<|nt<|sq<|sg<|Pl 1<|L0<|Oe (.int .i64 (((strOfNums xs).size:Nat) : Int)) (.int .i64 ((xs.length:Nat) : Int)) (by rw[strOfNums_size])<|L0<|Oe (.int .i64 (Int.tmod ((xs.length:Nat) : Int) 2)) (.int .i64 (((xs.length:Nat) : Int)%2)) (congrArg (Value.int .i64) (Int.tmod_eq_emod_of_nonneg (by omega)))<|Pl 1<|nl<|?_
 refine tn<|cb (((((xs.length:Nat) : Int)%2)==1)) (fun d=>?_) (fun d=>?_)
 have v:=al d
 refine sg<|Pl 2<|nt<|rt<|tr<|rr (.tuple #[.slice none 0 0,.int .i64 11])<|?_
 have hs:bU xs=none:=iB (by omega)
 exact j5 hs ⟨rfl,(aD.refl [] _)⟩
 have v:=ap d
 refine bo<|sg<|Pl 1<|nt<|sq<|sg<|Pl 1<|nt<|bk<|?_
 refine i1 (fun x=>[(0,.string (strOfNums xs)),(4,.slice x.2.2.1 x.2.1.length x.2.2.2),(5,.int .i64 ((2*x.1:Nat) : Int))]) (fun(x:Nat × List Int × Option Addr × Nat) w'=>aD [] w w'∧eG w.heap.size w' (.slice x.2.2.1 x.2.1.length x.2.2.2) x.2.1∧(2*x.1≤xs.length)∧(bU xs=(bU (xs.drop (2*x.1))).map fun l=>x.2.1++l)∧(x.2.1.length=x.1)) (fun x=>xs.length-2*x.1) (0,[],none,0) ⟨aD.refl _ _,(be.nil w.heap.size _ _ sF _),(by(try dsimp only);omega),(by(try dsimp only);simp),(by(try dsimp only);rfl)⟩ ?_
 rintro⟨k,L,B,cq⟩ y ⟨f,z,A,C,D⟩
 refine iq [(0,.string (strOfNums xs)),(4,.slice B L.length cq),(5,.int .i64 ((2*k:Nat) : Int))] ?_
 have g:eG w.heap.size y (.slice B L.length cq) L:=z
 have R:2*k≤xs.length:=A
 have S:bU xs=(bU (xs.drop (2*k))).map fun l=>L++l:=C
 have T:L.length=k:=D
 have hL:bU xs=(bU (xs.drop (2*k))).map fun l=>L++l:=by assumption
 refine sq<|sg<|Pl 1<|L0<|Oi (((2*k:Nat) : Int)+1)<|Pl 1<|L0<|Oe (.int .i64 (((strOfNums xs).size:Nat) : Int)) (.int .i64 ((xs.length:Nat) : Int)) (by rw[strOfNums_size])<|Pl 1<|nt<|cb ((decide ((((2*k:Nat) : Int)+1)<((xs.length:Nat) : Int)))) (fun j=>?_) (fun j=>?_)
 have E:=of_decide_eq_true j
 refine bo<|sq<|bk<|sg<|Pl 2<|L0<|hZ (.int .u8 (xs.getD (2*k) 0)) (i2 (xs:=xs) (k:=.i64) (i:=((2*k:Nat) : Int)) (2*k) rfl Tryz.underlying9 (by kernel_rfl) (by kernel_rfl) hr rfl (by omega))<|?_
 have U:=i6 (xs.getD (2*k) 0)
 have V:=pg (xs.getD (2*k) 0)
 refine L0<|Oc<|m1 (rR (c:=(xs.getD (2*k) 0)) (w:=_) (eN (by omega) hr _)) fun W o=>Pl 1<|ng<|Pl 2<|L0<|Oi (((2*k:Nat) : Int)+1)<|L0<|hZ (.int .u8 (xs.getD ((((2*k:Nat) : Int)+1)).toNat 0)) (i2 (xs:=xs) (k:=.i64) (i:=(((2*k:Nat) : Int)+1)) ((((2*k:Nat) : Int)+1)).toNat rfl Tryz.underlying9 (by kernel_rfl) (by kernel_rfl) hr (by omega) (by omega))<|?_
 have X:=i6 (xs.getD ((((2*k:Nat) : Int)+1)).toNat 0)
 have Y:=pg (xs.getD ((((2*k:Nat) : Int)+1)).toNat 0)
 refine L0<|Oc<|m1 (rR (c:=(xs.getD ((((2*k:Nat) : Int)+1)).toNat 0)) (w:=_) (eN (by omega) hr _)) fun Z p=>Pl 1<|nt<|sq<|sg<|Pl 3<|cu 3 [30] 33 ((((bN (xs.getD (2*k) 0))==(-1))||((bN (xs.getD ((((2*k:Nat) : Int)+1)).toNat 0))==(-1)))) (fun K r=>?_) ?_
 refine bl 30 (((bN (xs.getD (2*k) 0))==(-1))) (fun a=>?_) (fun a=>?_)
 have F:=al a
 exact Pl 3<|ce r true (by rw[a];rfl)
 have F:=ap a
 exact Pl 3<|ce r ((bN (xs.getD ((((2*k:Nat) : Int)+1)).toNat 0))==(-1)) (by rw[a];rfl)
 refine nt<|?_
 have s:=aH o p
 have t:=aH f s
 refine cb ((((bN (xs.getD (2*k) 0))==(-1))||((bN (xs.getD ((((2*k:Nat) : Int)+1)).toNat 0))==(-1)))) (fun b=>?_) (fun b=>?_)
 refine sg<|Pl 2<|nt<|rt<|tr<|br<|tr<|tr<|br<|tr<|rr (.tuple #[.slice none 0 0,.int .i64 11])<|?_
 have hs:bU xs=none:=mt (k:=k) hL (by omega) (by have q:=b;simp only[Bool.or_eq_true,beq_iff_eq] at q;rw[show 2*k+1=(((2*k:Nat) : Int)+1).toNat from by omega];omega)
 exact j5 hs ⟨rfl,t⟩
 have G:=(aJ b).1
 have H:=(aJ b).2
 have a0:=ap G
 have a1:=ap H
 refine bo<|go<|Pl 2<|L0<|Oi (16*(bN (xs.getD (2*k) 0)))<|Pl 1<|L0<|Oi ((16*(bN (xs.getD (2*k) 0)))+(bN (xs.getD ((((2*k:Nat) : Int)+1)).toNat 0)))<|Pl 1<|L0<|dx (m:=1) (e:=5) #[.int .u8 (((16*(bN (xs.getD (2*k) 0)))+(bN (xs.getD ((((2*k:Nat) : Int)+1)).toNat 0)))%256)] fun a2 a3 I J n=>?_
 have M:=dF I (xs:=[(((16*(bN (xs.getD (2*k) 0)))+(bN (xs.getD ((((2*k:Nat) : Int)+1)).toNat 0)))%256)]) (by as_aux_lemma=>kernel_rfl) (az (by omega) aX) (by(try simp only[List.length_cons,List.length_nil]);omega) J
 refine L0<|cK bt (xs:=L) (ys:=([(((16*(bN (xs.getD (2*k) 0)))+(bN (xs.getD ((((2*k:Nat) : Int)+1)).toNat 0)))%256)])) (.int .u8 0) 1 (ax g (aH s n) (fun x hx=>ay) (fun _ _ h=>h)) (M).rd (by(try simp only[List.length_append,List.length_cons,List.length_nil,aB]);omega) (le (le (le f.size o.size) p.size) n.size) fun N O a4 P Q=>Pl 1<|nl<|bn<|tn<|go<|Pl 1<|L0<|Oi (((2*k:Nat) : Int)+2)<|Pl 1<|nl<|?_
 have u:=jy (k:=k) hL (by omega) (by omega) (by rw[show 2*k+1=(((2*k:Nat) : Int)+1).toNat from by omega];omega)
 rw[show 2*k+1=(((2*k:Nat) : Int)+1).toNat from by omega] at u
 exact ga ((k+1),(L++[(((16*(bN (xs.getD (2*k) 0)))+(bN (xs.getD ((((2*k:Nat) : Int)+1)).toNat 0)))%256)]),N,O) ⟨(ut t (ut (aD.mono (S':=(ob B++[])) n aq) Q (av il aq)) (av (aT g lr) aq)),P,(by(try dsimp only);omega),u,(by(try dsimp only);simp only[List.length_append,List.length_cons,List.length_nil];omega)⟩ (by omega)
 have E:=of_decide_eq_false j
 refine xt<|tx<|tx<|bx<|tn<|sg<|Pl 3<|nt<|rt<|rr (.tuple #[.slice B L.length cq,.int .i64 0])<|?_
 have hs:bU xs=some L:=lu hL (by omega)
 exact p5 hs ⟨_,rfl,g,f⟩
theorem tC{m:Md}{A:Option Addr}{cp:Nat}{b:List Int}{w:World}(hsl:b9 m w (.slice A b.length cp) b) :
    Calls Tryz.prog 186 #[.slice A b.length cp] w (cL (.int .u8 (dg b)) w):=by
 have hln:=aK.len hsl
 have hb:=b9.range hsl
 refine en 23 Tryz.func186 rfl<|sg<|Pl 1<|ng<|Pl 1<|nt<|sq<|sg<|?_
 refine Pl 1<|nt<|bk<|?_
 refine i1 (fun x=>[(0,.slice A b.length cp),(2,.int .u8 0),(3,.int .i64 (gf b x)),(4,.int .i64 ((x:Nat) : Int))]) (fun(x:Nat) w'=>aD [] w w'∧(x≤b.length)) (fun x=>b.length-x) 0 ⟨aD.refl _ _,(by(try dsimp only);omega)⟩ ?_
 rintro k j ⟨a,d⟩
 refine iq [(0,.slice A b.length cp),(2,.int .u8 0),(3,.int .i64 (gf b k)),(4,.int .i64 ((k:Nat) : Int))] ?_
 have l:k≤b.length:=d
 have hlr:=rq b k
 refine sq<|sg<|Pl 4<|nt<|cb ((decide (((k:Nat) : Int)<((b.length:Nat) : Int)))) (fun c=>?_) (fun c=>?_)
 have e:=of_decide_eq_true c
 refine bo<|sq<|bk<|go<|Pl 3<|?_
 refine fy (b9.at_ (b9.old hsl a) k (by omega)) fun f g h i n=>L0<|jb b.length k h (by omega)<|L0<|dU (p:=⟨f,g+k,none⟩) (v:=.int .u8 (b.getD k 0)) i<|L0<|Oi (b.getD k 0)<|L0<|Oi ((gf b k)+(b.getD k 0))<|L0<|Oe (.int .i64 (Int.tmod ((gf b k)+(b.getD k 0)) 256)) (.int .i64 (((gf b k)+(b.getD k 0))%256)) (congrArg (Value.int .i64) (Int.tmod_eq_emod_of_nonneg (by omega)))<|Pl 1<|nl<|bn<|tn<|go<|Pl 1<|L0<|Oi (((k:Nat) : Int)+1)<|Pl 1<|nl<|?_
 exact ga (k+1) ⟨a,(by(try dsimp only);omega)⟩ (by omega)
 have e:=of_decide_eq_false c
 refine xt<|tx<|tx<|bx<|tn<|sg<|Pl 1<|L0<|Oi (256-(gf b k))<|L0<|Oe (.int .i64 (Int.tmod (256-(gf b k)) 256)) (.int .i64 ((256-(gf b k))%256)) (congrArg (Value.int .i64) (Int.tmod_eq_emod_of_nonneg (by omega)))<|Pl 2<|nt<|rt<|?_
 refine rr (.int .u8 (((256-(gf b k))%256)%256))<|?_
 have hk:k=b.length:=by omega
 subst hk
 have hs:dg b=(((256-(gf b b.length))%256)%256):=by unfold dg t4;omega
 rw[hs]
 exact⟨rfl,a⟩
theorem uj{m:Md}{A:Option Addr}{cp:Nat}{b:List Int}{w:World}(hsl:b9 m w (.slice A b.length cp) b) :
    Calls Tryz.prog 126 #[.slice A b.length cp] w (cL (.bool (ei b)) w):=by
 have hln:=aK.len hsl
 refine en 9 Tryz.func126 rfl<|sg<|Pl 1<|nt<|sq<|sg<|Pl 3<|nt<|cb ((((b.length:Nat) : Int)==0)) (fun a=>?_) (fun a=>?_)
 have c:=al a
 refine sg<|Pl 1<|nt<|rt<|tr<|rr (.bool false)<|?_
 have hs:ei b=false:=by unfold ei;rw[decide_eq_false (by omega)];rfl
 rw[hs]
 exact⟨rfl,(aD.refl [] _)⟩
 have c:=ap a
 refine bo<|sg<|Pl 1<|L0<|Oc (args:=#[.slice A b.length cp])<|m1 (tC hsl) fun e d=>Pl 2<|nt<|rt<|rr (.bool ((dg b)==0))<|?_
 have hs:ei b=((dg b)==0):=by unfold ei;rw[decide_eq_true (by omega)];rfl
 rw[hs]
 exact⟨rfl,d⟩
open Go.RowKit
theorem nE{m:Md}{A:Option Addr}{cp:Nat}{b:List Int}{w:World}{dir:Int}(hsl:b9 m w (.slice A b.length cp) b)(hb:b.length≤1048576)(hcp:b.length≤cp) :
    Calls Tryz.prog 61 #[.int .i64 dir,.slice A b.length cp] w (oq (eA dir b) w):=by
 have hln:(b.length:Int)≤1048576:=by omega
 have hr:dA b:=b9.range hsl
 refine en 86 Tryz.func61 rfl<|sg<|L0<|bI #[.int .u8 0,.int .u16 0,.int .u8 0,.int .u8 0,.int .u16 0,.int .u16 0,.int .u16 0,.int .u16 0,.int .u16 0,.int .u16 0,.int .u16 0,.int .u16 0,.int .u16 0,.int .u16 0,.slice none 0 0,.slice none 0 0,.slice none 0 0,.slice none 0 0,.int .u8 0,.int .u8 0,.int .u8 0,.int .u8 0,.int .u8 0,.slice none 0 0] fun bq S l f q=>Pl 1<|ng<|Pl 3<|nt<|sq<|sq<|?_
 refine go<|Pl 3<|cu 3 [16] 19 (((dir != 0)&&(dir != 1))) (fun K T=>?_) ?_
 refine bl 16 ((dir != 0)) (fun z=>?_) (fun z=>?_)
 have ac:=au z
 exact Pl 3<|ce T (dir != 1) (by rw[z];rfl)
 have ac:=ai z
 exact Pl 3<|ce T false (by rw[z];rfl)
 refine nt<|cb (((dir != 0)&&(dir != 1))) (fun i=>?_) (fun i=>?_)
 have U:=(aS i).1
 have V:=(aS i).2
 have br:=au U
 have bt:=au V
 refine sg<|Pl 1<|L0<|b6 f #[.int .u8 0,.int .u16 0,.int .u8 0,.int .u8 0,.int .u16 0,.int .u16 0,.int .u16 0,.int .u16 0,.int .u16 0,.int .u16 0,.int .u16 0,.int .u16 0,.int .u16 0,.int .u16 0,.slice none 0 0,.slice none 0 0,.slice none 0 0,.slice none 0 0,.int .u8 0,.int .u8 0,.int .u8 0,.int .u8 0,.int .u8 0,.slice none 0 0] fun bu ae af=>Pl 1<|nt<|rt<|tr<|bF ae (.int .i64 1)<|?_
 have hs:fi dir b=(fE.zero,1):=by
   unfold fi
   (try simp only[i,U,V,bs,if_true,if_false,decide_true,decide_false,ea,reduceIte])
   all_goals rfl
 rw[← eH]
 refine er hs ?_
 exact dn (ud q af l)
 refine bo<|sq<|sg<|Pl 2<|nt<|cb ((decide (((b.length:Nat) : Int)<9))) (fun j=>?_) (fun j=>?_)
 have ag:=of_decide_eq_true j
 refine sg<|Pl 1<|L0<|b6 f #[.int .u8 0,.int .u16 0,.int .u8 0,.int .u8 0,.int .u16 0,.int .u16 0,.int .u16 0,.int .u16 0,.int .u16 0,.int .u16 0,.int .u16 0,.int .u16 0,.int .u16 0,.int .u16 0,.slice none 0 0,.slice none 0 0,.slice none 0 0,.slice none 0 0,.int .u8 0,.int .u8 0,.int .u8 0,.int .u8 0,.int .u8 0,.slice none 0 0] fun bv ah aj=>Pl 1<|nt<|rt<|tr<|bF ah (.int .i64 2)<|?_
 have hs:fi dir b=(fE.zero,2):=by
   unfold fi
   (try simp only[i,j,bs,if_true,if_false,decide_true,decide_false,ea,reduceIte])
   all_goals rfl
 rw[← eH]
 refine er hs ?_
 exact dn (ud q aj l)
 have ag:=of_decide_eq_false j
 refine bo<|sq<|sg<|Pl 2<|nt<|cb ((decide (513<((b.length:Nat) : Int)))) (fun k=>?_) (fun k=>?_)
 have al:=of_decide_eq_true k
 refine sg<|Pl 1<|L0<|b6 f #[.int .u8 0,.int .u16 0,.int .u8 0,.int .u8 0,.int .u16 0,.int .u16 0,.int .u16 0,.int .u16 0,.int .u16 0,.int .u16 0,.int .u16 0,.int .u16 0,.int .u16 0,.int .u16 0,.slice none 0 0,.slice none 0 0,.slice none 0 0,.slice none 0 0,.int .u8 0,.int .u8 0,.int .u8 0,.int .u8 0,.int .u8 0,.slice none 0 0] fun bw an ap=>Pl 1<|nt<|rt<|tr<|bF an (.int .i64 3)<|?_
 have hs:fi dir b=(fE.zero,3):=by
   unfold fi
   (try simp only[i,j,k,bs,if_true,if_false,decide_true,decide_false,ea,reduceIte])
   all_goals rfl
 rw[← eH]
 refine er hs ?_
 exact dn (ud q ap l)
 have al:=of_decide_eq_false k
 refine bo<|sq<|sg<|Pl 1<|?_
 have t:=b9.old hsl q
 refine fy (b9.at_ t 0 (by omega)) fun aq av az aB bx=>L0<|jb b.length 0 az (by omega)<|L0<|dU (p:=⟨aq,av+0,none⟩) (v:=.int .u8 (b.getD 0 0)) aB<|Pl 2<|bl 31 (((b.getD 0 0)!=58)) (fun o=>?_) (fun o=>?_)
 have aD:=au o
 refine Pl 15<|nt<|c1<|sg<|Pl 1<|L0<|b6 f #[.int .u8 0,.int .u16 0,.int .u8 0,.int .u8 0,.int .u16 0,.int .u16 0,.int .u16 0,.int .u16 0,.int .u16 0,.int .u16 0,.int .u16 0,.int .u16 0,.int .u16 0,.int .u16 0,.slice none 0 0,.slice none 0 0,.slice none 0 0,.slice none 0 0,.int .u8 0,.int .u8 0,.int .u8 0,.int .u8 0,.int .u8 0,.slice none 0 0] fun bz aE aF=>Pl 1<|nt<|rt<|tr<|bF aE (.int .i64 12)<|?_
 have hs:fi dir b=(fE.zero,12):=by
   unfold fi
   (try simp only[i,j,k,o,bs,if_true,if_false,decide_true,decide_false,ea,reduceIte])
   all_goals rfl
 rw[← eH]
 refine er hs ?_
 exact dn (ud q aF l)
 have aD:=ai o
 refine Pl 2<|L1<|Oi (((b.length:Nat) : Int)-2)<|fy (b9.at_ t (((((b.length:Nat) : Int)-2)).toNat) (by omega)) fun aI aJ aK aL bA=>L1<|u4 b.length (((((b.length:Nat) : Int)-2)).toNat) (((b.length:Nat) : Int)-2) (by omega) aK (by omega)<|L1<|dU (p:=⟨aI,aJ+(((((b.length:Nat) : Int)-2)).toNat),none⟩) (v:=.int .u8 (b.getD (((((b.length:Nat) : Int)-2)).toNat) 0)) aL<|Pl 3<|bl 39 (((b.getD (((((b.length:Nat) : Int)-2)).toNat) 0)!=13)) (fun r=>?_) (fun r=>?_)
 have aM:=au r
 refine Pl 7<|nt<|c1<|sg<|Pl 1<|L0<|b6 f #[.int .u8 0,.int .u16 0,.int .u8 0,.int .u8 0,.int .u16 0,.int .u16 0,.int .u16 0,.int .u16 0,.int .u16 0,.int .u16 0,.int .u16 0,.int .u16 0,.int .u16 0,.int .u16 0,.slice none 0 0,.slice none 0 0,.slice none 0 0,.slice none 0 0,.int .u8 0,.int .u8 0,.int .u8 0,.int .u8 0,.int .u8 0,.slice none 0 0] fun bB aN aO=>Pl 1<|nt<|rt<|tr<|bF aN (.int .i64 12)<|?_
 have hs:fi dir b=(fE.zero,12):=by
   unfold fi
   (try simp only[i,j,k,o,r,bs,if_true,if_false,decide_true,decide_false,ea,reduceIte])
   all_goals rfl
 rw[← eH]
 refine er hs ?_
 exact dn (ud q aO l)
 have aM:=ai r
 refine Pl 2<|L1<|Oi (((b.length:Nat) : Int)-1)<|fy (b9.at_ t (((((b.length:Nat) : Int)-1)).toNat) (by omega)) fun aP aR aT aV bC=>L1<|u4 b.length (((((b.length:Nat) : Int)-1)).toNat) (((b.length:Nat) : Int)-1) (by omega) aT (by omega)<|L1<|dU (p:=⟨aP,aR+(((((b.length:Nat) : Int)-1)).toNat),none⟩) (v:=.int .u8 (b.getD (((((b.length:Nat) : Int)-1)).toNat) 0)) aV<|Pl 2<|nt<|cb (((b.getD (((((b.length:Nat) : Int)-1)).toNat) 0)!=10)) (fun s=>?_) (fun s=>?_)
 have aX:=au s
 refine sg<|Pl 1<|L0<|b6 f #[.int .u8 0,.int .u16 0,.int .u8 0,.int .u8 0,.int .u16 0,.int .u16 0,.int .u16 0,.int .u16 0,.int .u16 0,.int .u16 0,.int .u16 0,.int .u16 0,.int .u16 0,.int .u16 0,.slice none 0 0,.slice none 0 0,.slice none 0 0,.slice none 0 0,.int .u8 0,.int .u8 0,.int .u8 0,.int .u8 0,.int .u8 0,.slice none 0 0] fun bD aY aZ=>Pl 1<|nt<|rt<|tr<|bF aY (.int .i64 12)<|?_
 have hs:fi dir b=(fE.zero,12):=by
   unfold fi
   (try simp only[i,j,k,o,r,s,bs,if_true,if_false,decide_true,decide_false,ea,reduceIte])
   all_goals rfl
 rw[← eH]
 refine er hs ?_
 exact dn (ud q aZ l)
 have aX:=ai s
 refine bo<|sg<|Pl 2<|L0<|Oi (((b.length:Nat) : Int)-2)<|mM (g8 (P:=Tryz.prog) 22 5 1 Tryz.underlying22 rfl rfl A b.length cp (lo:=1) (up:=(((b.length:Nat) : Int)-2)) 1 (((((b.length:Nat) : Int)-2)).toNat) (by omega) (by omega) (by omega) (by omega) (by omega)) fun W hrun64 H=>L0<|hZ (.slice W ((((((b.length:Nat) : Int)-2)).toNat)-1) (cp-1)) (eB (kl:=.i64) (kh:=.i64) (lo:=1) (hi:=(((b.length:Nat) : Int)-2)) (A:=A) (n:=b.length) (c:=cp) rfl Tryz.underlying22 (by kernel_rfl) (by kernel_rfl) (by kernel_rfl) (hrun64 _ _ _))<|L0<|hZ (.string (strOfNums ((b.take (((((b.length:Nat) : Int)-2)).toNat)).drop 1))) (dQ (A:=W) (n:=((((((b.length:Nat) : Int)-2)).toNat)-1)) (c:=(cp-1)) rfl (by kernel_rfl) Tryz.underlying22 Tryz.underlying5 Tryz.underlying9 (H _ _ _ _ _ t))<|?_
 rcases hth:bU ((b.take (((((b.length:Nat) : Int)-2)).toNat)).drop 1) with _|x
 have b0:=(rz (w:=S) (b9.range (H _ _ _ _ _ t)) (by rw[List.length_drop,List.length_take];omega)).mono (nh hth)
 refine L0<|Oc<|m1 b0 fun bE X=>Pl 5<|nt<|sq<|sg<|Pl 2<|nt<|c1<|sg<|Pl 2<|?_
 refine L0<|b6 (ub X f) #[.int .u8 0,.int .u16 0,.int .u8 0,.int .u8 0,.int .u16 0,.int .u16 0,.int .u16 0,.int .u16 0,.int .u16 0,.int .u16 0,.int .u16 0,.int .u16 0,.int .u16 0,.int .u16 0,.slice none 0 0,.slice none 0 0,.slice none 0 0,.slice none 0 0,.int .u8 0,.int .u8 0,.int .u8 0,.int .u8 0,.int .u8 0,.slice none 0 0] fun bG b1 b2=>Pl 1<|nt<|rt<|tr<|bF b1 (.int .i64 11)<|?_
 have hs:fi dir b=(fE.zero,11):=by
   unfold fi
   (try simp only[i,j,k,o,r,s,bs,if_true,if_false,decide_true,decide_false,ea,hth,reduceIte])
   all_goals rfl
 rw[← eH]
 refine er hs ?_
 exact dn (ud q (uz X b2) l)
 have hxl:2*x.length=(((b.take (((((b.length:Nat) : Int)-2)).toNat)).drop 1)).length:=by have:=kN hth;omega
 have hxl2:(((b.take (((((b.length:Nat) : Int)-2)).toNat)).drop 1)).length=b.length-3:=by rw[List.length_drop,List.length_take];omega
 have b3:=(rz (w:=S) (b9.range (H _ _ _ _ _ t)) (by rw[List.length_drop,List.length_take];omega)).mono (nC hth)
 refine L0<|Oc<|ep b3 fun I D bH J bJ bK Y=>Pl 5<|nt<|sq<|sg<|Pl 2<|nt<|c0<|bo<|sq<|?_
 refine go<|Pl 1<|L0<|Oc (args:=#[.slice I x.length D])<|m1 (uj (J).rd) fun bL L=>Pl 1<|nt<|sq<|sg<|Pl 2<|nt<|?_
 have B:=aH Y L
 have Z:=aH q B
 refine cb ((!(ei x))) (fun u=>?_) (fun u=>?_)
 have E:(ei x)=false:=by simpa using u
 refine sg<|Pl 1<|?_
 refine L0<|b6 (ub B f) #[.int .u8 0,.int .u16 0,.int .u8 0,.int .u8 0,.int .u16 0,.int .u16 0,.int .u16 0,.int .u16 0,.int .u16 0,.int .u16 0,.int .u16 0,.int .u16 0,.int .u16 0,.int .u16 0,.slice none 0 0,.slice none 0 0,.slice none 0 0,.slice none 0 0,.int .u8 0,.int .u8 0,.int .u8 0,.int .u8 0,.int .u8 0,.slice none 0 0] fun bM b4 b5=>Pl 1<|nt<|rt<|tr<|bF b4 (.int .i64 10)<|?_
 have hs:fi dir b=(fE.zero,10):=by
   unfold fi
   (try simp only[i,j,k,o,r,s,u,E,bs,if_true,if_false,decide_true,decide_false,ea,hth,reduceIte])
   all_goals rfl
 rw[← eH]
 refine er hs ?_
 exact dn (ud Z b5 l)
 have E:(ei x)=true:=by simpa using u
 refine bo<|sg<|Pl 4<|L0<|Oi (((x.length:Nat) : Int)-1)<|mM (g8 (P:=Tryz.prog) 22 5 1 Tryz.underlying22 rfl rfl I x.length D (lo:=1) (up:=(((x.length:Nat) : Int)-1)) 1 (((((x.length:Nat) : Int)-1)).toNat) (by omega) (by omega) (by omega) (by omega) (by omega)) fun b7 hrun96 a0=>L0<|hZ (.slice b7 ((((((x.length:Nat) : Int)-1)).toNat)-1) (D-1)) (eB (kl:=.i64) (kh:=.i64) (lo:=1) (hi:=(((x.length:Nat) : Int)-1)) (A:=I) (n:=x.length) (c:=D) rfl Tryz.underlying22 (by kernel_rfl) (by kernel_rfl) (by kernel_rfl) (hrun96 _ _ _))<|?_
 have a1:=ax J L (fun x hx=>ay) (fun _ _ h=>h)
 refine pr (dM dir ((x.take (((((x.length:Nat) : Int)-1)).toNat)).drop 1)) fun a M N=>?_
 refine L0<|Oc<|e2 (lI N (a0 _ _ _ _ _ (a1).rd) (by rw[List.length_drop,List.length_take];omega)) fun d bN ba F=>?_
 have a2:=ax a1 F (fun x hx=>ay) (fun _ _ h=>h)
 refine Pl 3<|L0<|bI mZ fun a3 bO a4 bb bc=>L0<|b6 bb (sT a d) fun bP bd be=>Pl 1<|nt<|sq<|sg<|Pl 2<|nt<|?_
 have O:=ud bc be a4
 have Q:=aH F O
 have a5:=aH Z Q
 refine cb ((M != 0)) (fun C=>?_) (fun C=>?_)
 have bf:=au C
 refine sg<|Pl 2<|?_
 refine L0<|b6 (ub (aH B Q) f) #[.int .u8 0,.int .u16 0,.int .u8 0,.int .u8 0,.int .u16 0,.int .u16 0,.int .u16 0,.int .u16 0,.int .u16 0,.int .u16 0,.int .u16 0,.int .u16 0,.int .u16 0,.int .u16 0,.slice none 0 0,.slice none 0 0,.slice none 0 0,.slice none 0 0,.int .u8 0,.int .u8 0,.int .u8 0,.int .u8 0,.int .u8 0,.slice none 0 0] fun bQ bg bi=>Pl 1<|nt<|rt<|tr<|bF bg (.int .i64 M)<|?_
 have hs:fi dir b=(fE.zero,M):=by
   unfold fi
   (try simp only[i,j,k,o,r,s,u,E,C,bs,if_true,if_false,decide_true,decide_false,ea,hth,N,reduceIte])
   all_goals rfl
 rw[← eH]
 refine er hs ?_
 exact dn (ud a5 bi l)
 have bf:=ai C
 refine bo<|sq<|?_
 have a6:=ax a2 O (fun x hx=>ay) (fun _ _ h=>h)
 refine fy (b9.at_ (a6).rd 0 (by omega)) fun bj bk a7 bm bR=>Rg 8 (fun w'=>w'.cell? ⟨bj,bk+0,none⟩=some (.int .u8 (x.getD 0 0))∧w'.heap[a3]? = some (.cells (sT a d) 30 (0,0))) fun bS G=>?_
 have a8:=ub G bd
 refine bh ⟨(uc G bm),a8⟩ fun y=>Rt 0 y<|nU 1 y x.length 0 0 rfl a7 (by omega)<|Rl 2 y (fun _ hs=>hs.1)<|Rt 3 y<|Rr 4 y (.agg (sT a d)) (fun w' hs=>jS (g:=a3) (off:=0) [.int .u8 a.code,.int .u8 a.fail,.int .u16 a.addr,.int .u16 a.count,.int .u16 a.value,.int .u16 a.and_,.int .u16 a.or_,.int .u16 a.addr2,.int .u16 a.sub,.int .u16 a.status,.int .u16 a.events,.int .u16 a.messages,.slice d.aw a.words.length d.kw,.slice d.ab a.bits.length d.kb,.slice d.ad a.data.length d.kd,.slice d.ar a.recs.length d.kr,.int .u8 a.mei,.int .u8 a.kind,.int .u8 a.level,.int .u8 a.more,.int .u8 a.next,.slice d.ao a.objects.length d.ko] rfl (by kernel_rfl) hs.2 (by kernel_rfl) (by kernel_rfl) rfl)<|Rt 5 y<|?_
 refine R0 6 rfl<|b6 (ub (aH B (aH Q G)) f) (vM (x.getD 0 0) 0 a d) fun bT bn a9=>?_
 have R:=uz G a9
 refine bh ⟨(cB ((ax a6 R (fun x hx=>(aa (fun e=>(aA (ak f) lr J) (e▸hx)) ay)) (fun _ _ h=>h))).rd a7 0 (by omega)),(aU a9 (Ne.symm (nb (ak f) (le (le Y.size L.size) F.size) a4)) a8)⟩ fun bp=>Rt 7 bp<|re<|tn<|rt<|bF bn (.int .i64 0)<|?_
 have hs:fi dir b=(⟨(x.getD 0 0),0,a⟩,0):=by
   unfold fi
   (try simp only[i,j,k,o,r,s,u,E,C,bs,if_true,if_false,decide_true,decide_false,ea,hth,N,reduceIte])
   all_goals rfl
 rw[← eH]
 refine er hs ?_
 exact⟨_,rfl,⟨sT a d,(by as_aux_lemma=>kernel_rfl),(aW.upd (di.rdt ba (a0 _ _ _ _ _ (a2).rd)) (uz O R) (am (aQ (ub (aH B F) f) (by decide)) aG)),b8 (x:=(x.getD 0 0)) (by omega),aC (x:=0) (by omega)⟩,(ud a5 R l)⟩
theorem oy{m:Md}{v:Value}{b:List Int}{w:World}{dir:Int}(h:b9 m w v b)(hb:b.length≤1048576) : Calls Tryz.prog 61 #[.int .i64 dir,v] w (oq (eA dir b) w):=by
  obtain⟨A,cp,rfl,hc,_⟩:=h.shape
  exact nE h hb hc
theorem lN{m:Md}{v:Value}{b:List Int}{w:World}{dir:Int}{F:fE}{E:Int}(hX:eA dir b=(F,E))(h:b9 m w v b)(hb:b.length≤1048576) : Calls Tryz.prog 61 #[.int .i64 dir,v] w (fun e w'=>∃ x,e = .returned (.tuple #[.agg (vM F.unit F.tid F.msg x),.int .i64 E])∧(aW true w' (sT F.msg x).toList F.msg∧(0≤F.unit∧F.unit<256)∧(0≤F.tid∧F.tid<65536))∧aD [] w w'):=by
  refine(oy h hb).mono ?_
  rintro e w' ⟨cs,rfl,h1,h2⟩
  rw[hX] at h1 ⊢
  obtain⟨c,rfl,h3,h4,h5⟩:=h1
  obtain⟨x,rfl⟩:=oI h3
  exact⟨x,by rw[rh],⟨h3,h4,h5⟩,h2⟩
open Go.RowKit
theorem lL{w:World}{dir:Int}{mA:Md}{A:Option Addr}{cpA:Nat}{b:List Int}(hb:b9 mA w (.slice A b.length cpA) b) :
    Calls Tryz.prog 12 #[.int .i64 dir,.slice A b.length cpA] w (cL (.bool true) w):=by
 refine en 47 Tryz.func12 rfl<|sg<|Pl 1<|ng<|L0<|Oc<|m1 (@tp _) fun S e=>Pl 1<|nt<|sq<|sq<|?_
 refine go<|Pl 3<|nt<|cb ((decide (700<((b.length:Nat) : Int)))) (fun f=>?_) (fun f=>?_)
 have B:=of_decide_eq_true f
 refine sg<|Pl 2<|nt<|rt<|tr<|rr (.bool true)<|?_
 exact⟨rfl,e⟩
 have B:=of_decide_eq_false f
 refine bo<|sg<|Pl 2<|?_
 have m:=b9.old hb e
 refine pr (eA dir b) fun a g h=>?_
 refine L0<|Oc<|e2 (iL h m (by omega)) fun x17 T C D=>?_
 obtain⟨E,U,V⟩:=C
 refine Pl 3<|L0<|bI #[.int .u8 0,.int .u16 0,.int .u8 0,.int .u8 0,.int .u16 0,.int .u16 0,.int .u16 0,.int .u16 0,.int .u16 0,.int .u16 0,.int .u16 0,.int .u16 0,.int .u16 0,.int .u16 0,.slice none 0 0,.slice none 0 0,.slice none 0 0,.slice none 0 0,.int .u8 0,.int .u8 0,.int .u8 0,.int .u8 0,.int .u8 0,.slice none 0 0] fun W X F G H=>L0<|b6 G (vM a.unit a.tid a.msg x17) fun Y n I=>Pl 1<|ng<|Pl 2<|?_
 have o:=ud H I F
 have p:=aH D o
 refine pr (eA dir b) fun c i j=>?_
 refine L0<|Oc<|e2 (lN j (b9.old m p) (by omega)) fun x38 Z J q=>?_
 obtain⟨L,a0,a1⟩:=J
 refine Pl 3<|L0<|bI #[.int .u8 0,.int .u16 0,.int .u8 0,.int .u8 0,.int .u16 0,.int .u16 0,.int .u16 0,.int .u16 0,.int .u16 0,.int .u16 0,.int .u16 0,.int .u16 0,.int .u16 0,.int .u16 0,.slice none 0 0,.slice none 0 0,.slice none 0 0,.slice none 0 0,.int .u8 0,.int .u8 0,.int .u8 0,.int .u8 0,.int .u8 0,.slice none 0 0] fun a2 a3 r M s=>L0<|b6 M (vM c.unit c.tid c.msg x38) fun a4 t u=>Pl 1<|ng<|Pl 7<|cu 6 [33] 39 (((g==i)&&((a.unit==c.unit)&&(a.tid==c.tid)))) (fun K v=>?_) ?_
 refine bl 33 ((g==i)) (fun d=>?_) (fun d=>?_)
 have N:=al d
 refine Pl 1<|?_
 exact L1<|wl (ub (aH q (ud s u r)) n) 0 2<|Pl 1<|L1<|wl t 0 2<|L1<|hZ (.bool ((a.unit==c.unit)&&(a.tid==c.tid))) (o5 a.unit a.tid c.unit c.tid rfl (by kernel_rfl) (by kernel_rfl) rfl)<|Pl 1<|ce v ((a.unit==c.unit)&&(a.tid==c.tid)) (by rw[d];rfl)
 have N:=ap d
 exact Pl 6<|ce v false (by rw[d];rfl)
 refine Pl 1<|?_
 have x:=ud s u r
 have k:=aH q x
 have y:=aH e (aH p k)
 refine bl 40 (((g==i)&&((a.unit==c.unit)&&(a.tid==c.tid)))) (fun l=>?_) (fun l=>?_)
 have O:=(aS l).1
 have z:=(aS l).2
 have a5:=al O
 have P:=(aS z).1
 have Q:=(aS z).2
 have q63bap:=al P
 have q63bbp:=al Q
 refine Pl 1<|?_
 refine L1<|wl (ub k n) 2 22<|Pl 1<|L1<|wl t 2 22<|?_
 refine L1<|Oc<|m1 (pp (aW.upd E (aH o k) aG) (aW.upd L x aG)) fun a6 R=>Pl 2<|nt<|rt<|rr (.bool (decide (a.msg=c.msg)))<|?_
 have hs:(decide (a.msg=c.msg))=true:=by obtain⟨rfl,rfl⟩:=Prod.mk.inj (h.symm.trans j);first | (simp;done) | (exfalso;simp_all)
 rw[hs]
 exact⟨rfl,(aH y R)⟩
 refine Pl 7<|nt<|rt<|rr (.bool false)<|?_
 have hs:false=true:=by obtain⟨rfl,rfl⟩:=Prod.mk.inj (h.symm.trans j);first | (simp;done) | (exfalso;simp_all)
 rw[hs]
 exact⟨rfl,y⟩
theorem ku{w:World}{dir:Int}{mA:Md}{vA:Value}{b:List Int}(hb:b9 mA w vA b) : Calls Tryz.prog 12 #[.int .i64 dir,vA] w (cL (.bool true) w):=by
  obtain⟨AA,cpA,rfl,_,_⟩:=hb.shape
  exact lL (dir:=dir) hb
open Go.RowKit
section
variable {H:Type}{enc:TypeId × Value→H}{P:Program}{w:World}{base:Nat}{spare:Nat→Bool}{held:Bool}
theorem nB(b off:Nat)(sp:Option Nat)(n:Nat)(h:sp=none) : (⟨b,off,sp⟩ : Addr).add n=⟨b,off+n,none⟩:=gZ b off n sp h
theorem pI{b off:Nat}{sp:Option Nat}{v:Value}(h:w.cell? ⟨b,off,sp⟩=some v) : sp=none:=by
  cases sp with
  | none=>rfl
  | some s =>
    unfold World.cell? at h
    simp at h
    split at h<;>cases h
theorem sH{α:Type}{Pd:DataW H→Prop}{R:World→α→List Value→Prop}{t e:TypeId}{sz fuel:Nat}{cs:List Value}{x:DataW H × List MemPlace}(ht:P.underlying t=some (.slice e))(hsz:P.cellsOf e=sz)(hp:0<sz)
    (hel:∀ n cs' y,cs'.length=sz→DataW.trod enc P w base spare held n e cs'=some y→Pd y.1→∃ x,R w x cs') (hP:∀ elems spare,x.1 = .slice elems spare→∀ d,d∈elems→Pd d) (h:DataW.trod enc P w base spare held fuel t cs=some x) : ∃ v xs,cs=[v]∧aK false e sz R w v xs:=by
  rcases Go.Deep.open_slice ht h with⟨rfl,_⟩|⟨a,len,cap,m,n,D,Pl,rfl,_,hl,hm,hmm,hxe,hx⟩
  · exact⟨_,[],rfl,aK.nil ..⟩
  have hlm:len≤m:=by rw[hmm];split<;>omega
  have key:∀ i:Fin len,∃ y:α × List Value,w.cells? base (a.add (i*sz)) sz=some y.2∧y.2.length=sz∧R w y.1 y.2:=fun i=>by
    obtain⟨cs',h1,h2⟩:=hx i (by omega)
    rw[hsz] at h1
    obtain⟨_,hlen,_⟩:=World.cells?_some h1
    obtain⟨y,hy⟩:=hel n cs' _ hlen h2 (hP _ _ (by rw[hxe]) _ (List.mem_map.2 ⟨i.1,List.mem_range.2 i.2,rfl⟩))
    exact⟨(y,cs'),h1,hlen,hy⟩
  obtain⟨f,hf⟩:=Classical.axiomOfChoice key
  refine⟨_,List.ofFn fun i=>(f i).1,rfl,some a,cap,by simp,by simpa using hl,hm,(fun h=>by cases h),fun hpos=>?_⟩
  have hpos':0<len:=by simpa using hpos
  obtain⟨b,off,sp⟩:=a
  have hsp:sp=none:=by
    obtain⟨h1,h2,_⟩:=hf ⟨0,hpos'⟩
    obtain⟨_,_,h3⟩:=World.cells?_some h1
    have h4:=h3 0 hp
    rw[List.getElem?_eq_getElem (by omega)] at h4
    cases sp with
    | none=>rfl
    | some s =>
      simp[Addr.add] at h4
      exact pI h4
  subst hsp
  have hc:∀ i:Fin len,∀ k u,(f i).2[k]? = some u→w.cell? ⟨b,off+i*sz+k,none⟩=some u:=fun i k u hu=>by
    obtain⟨h1,h2,_⟩:=hf i
    obtain⟨_,_,h3⟩:=World.cells?_some h1
    have hk:k<sz:=by have:=(List.getElem?_eq_some_iff.1 hu).1;omega
    have h4:=h3 k hk
    rw[nB _ _ _ _ rfl,nB _ _ _ _ rfl] at h4
    rw[h4,hu]
  have h0:∃ u,w.cell? ⟨b,off+0*sz+0,none⟩=some u:=by
    obtain⟨_,h2,_⟩:=hf ⟨0,hpos'⟩
    exact⟨_,hc ⟨0,hpos'⟩ 0 _ (List.getElem?_eq_getElem (by omega))⟩
  obtain⟨u,hu⟩:=h0
  unfold World.cell? at hu
  split at hu
  · rename_i cells t' fr hb
    refine⟨b,off,cells,t',fr,rfl,hb,fun h=>(by cases h),fun j y hj=>?_⟩
    have hjl:j<len:=by have:=(List.getElem?_eq_some_iff.1 hj).1;simpa using this
    have hy:(f ⟨j,hjl⟩).1=y:=by
      rw[List.getElem?_ofFn] at hj
      simpa [hjl] using hj
    obtain⟨_,h2,h3⟩:=hf ⟨j,hjl⟩
    refine⟨(f ⟨j,hjl⟩).2,h2,by rw[← hy];exact h3,fun i u hi=>?_⟩
    have:=hc ⟨j,hjl⟩ i u hi
    rw[bu hb] at this
    exact this
  · cases hu
theorem um{α:Type}{R:World→α→List Value→Prop}{t e:TypeId}{sz fuel:Nat}{cs:List Value}{x:DataW H × List MemPlace}(ht:P.underlying t=some (.slice e))(hsz:P.cellsOf e=sz)(hp:0<sz)
    (hel:∀ n cs' y,cs'.length=sz→DataW.trod enc P w base spare held n e cs'=some y→∃ x,R w x cs') (h:DataW.trod enc P w base spare held fuel t cs=some x) : ∃ v xs,cs=[v]∧aK false e sz R w v xs :=
  sH (Pd:=fun _=>True) ht hsz hp (fun n cs' y h1 h2 _=>hel n cs' y h1 h2) (fun _ _ _ _ _=>trivial) h
end
section
variable {H:Type}{enc:TypeId × Value→H}{w:World}{base:Nat}{spare:Nat→Bool}{held:Bool}{n:Nat}{y:DataW H × List MemPlace}
theorem wq{cs:List Value}(h:DataW.trod enc Tryz.prog w base spare held n 5 cs=some y) : ∃ x,sF w x cs:=by
  obtain⟨k,rfl,_,hw⟩:=DataW.trod_int Tryz.underlying5 h
  exact⟨k,rfl,qV hw⟩
theorem vP{cs:List Value}(h:DataW.trod enc Tryz.prog w base spare held n 22 cs=some y) : ∃ v xs,cs=[v]∧b9 false w v xs:=um Tryz.underlying22 (by kernel_rfl) (by decide) (fun _ _ _ _ h=>wq h) h
end
open Go.RowKit
section
variable {H:Type}{enc:TypeId × Value→H}{w:World}{base:Nat}{spare:Nat→Bool}{held:Bool}{n:Nat}{y:DataW H × List MemPlace}
end
open Go.RowKit
section
variable {H:Type}{enc:TypeId × Value→H}{w:World}{base:Nat}{spare:Nat→Bool}{held:Bool}{n:Nat}{y:DataW H × List MemPlace}
end
end Go.Proofs.YtogbnemojakcpaaGreat
