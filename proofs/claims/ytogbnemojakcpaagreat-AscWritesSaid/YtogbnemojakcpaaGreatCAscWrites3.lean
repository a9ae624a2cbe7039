/- Contracts of functions, part CAscWrites3. -/
import Derived.Test.YtogbnemojakcpaaGreatCAscWrites1
import Derived.Test.YtogbnemojakcpaaGreatCAscWrites2
import Derived.RangeFuncRecord
import Derived.RangeFuncLeaves
import Derived.RangeFuncCalls
set_option linter.unusedVariables false
set_option linter.unusedSimpArgs false
set_option maxRecDepth 100000
set_option maxHeartbeats 4000000
namespace Go.Proofs.YtogbnemojakcpaaGreat
open Go.RowKit
def aV (dir c:Int)(C:ak) : Option (ak × aP) :=
  if c==8 then some (ea dir c C)
  else if c==7 || c==11 || c==12 || c==17 then (if dir==1 then some (cn c C) else some (C,{ aP.zero with code:=c }))
  else none
theorem o5{m:Md}{A:Option Addr}{cp:Nat}{b:List Int}{w:World}{c:Int}(hcode:B8 c)(hsl:b9 m w (.slice A b.length cp) b)(hb:b.length≤1048576) :
    Calls Tryz.prog 142 #[.int .i64 0,.int .u8 c,.slice A b.length cp] w (dX (ai aV 0 c b) w):=by
 obtain⟨hcode1,hcode2⟩:=hcode
 have hln:(b.length:Int)≤1048576:=by omega
 refine en 47 Tryz.func142 rfl<|sg<|L0<|bH mZ fun b0 b1 h g N=>Pl 1<|nt<|sq<|sg<|Pl 6<|nt<|c0<|?_
 refine bf<|sg<|Pl 2<|L0<|bH mZ fun b2 b3 p O a9=>L0<|b7 O (mC c) fun b4 q P=>ng<|Pl 1<|?_
 have f:=ud a9 P p
 have l:=aD N f
 refine L0<|Oc<|e3 (ec (b9.old hsl l) (by omega)) fun b5 b8 a r d=>Pl 1<|nt<|sq<|sg<|Pl 1<|nt<|bk<|sg<|Pl 2<|nl<|?_
 refine tn<|?_
 have o:=aD l d
 refine cb ((c==8)) (fun i=>?_) (fun i=>?_)
 have aa:=ah i
 refine go<|Pl 2<|?_
 have Q:=nb (am O) P.size a
 refine L0<|Oc<|m3 (oE (dir:=0) (c:=c) ⟨hcode1,hcode2⟩ r (ub d q) (Ne.symm Q)) fun ba ad ae R=>?_
 obtain⟨af,t,u⟩:=ae
 refine ab ad fun x41 S T=>?_
 refine nl<|bn<|tn<|sg<|Pl 1<|L0<|Oc<|m2 (ck T) fun bb U v=>nt<|sq<|sg<|Pl 1<|L0<|Oc<|mq (bC U)<|?_
 have bc:=al.len U
 refine Pl 1<|ng<|Pl 2<|nt<|?_
 have x:=u1 R v im
 have V:=ut o x (ac (ni l.size a) (ac (ni N.size p) ay))
 have hs:ai aV 0 c b=b6 ((ea 0 c (ak.mk b false 0)).2) ((ea 0 c (ak.mk b false 0)).1):=by
   unfold ai aV
   (try simp only[i,bs,if_true,if_false,decide_true,decide_false,eq_self,true_or,or_true,or_false,false_or,if_true,if_false,dE,dC,dD,dF,reduceIte])
   all_goals rfl
 refine cb ((x41.endC.e != 0)) (fun y=>?_) (fun y=>?_)
 have z:=ax y
 refine sg<|Pl 2<|?_
 refine L0<|b7 (ub (ud f (ud d x a) p) g) mZ fun bd an ao=>Pl 1<|nt<|rt<|tr<|bJ an (.int .i64 x41.endC.e)<|?_
 subst S
 rw[hs]
 exact bz z (ud V ao h)
 have z:=ag y
 refine bf<|sg<|?_
 refine L0<|bO (hz:=(by rw[t.2];exact aI)) (aW v Q t.1)<|?_
 refine L0<|b7 (hz:=(by rw[t.2];exact aI)) (hv:=u.size) (h1:=u.one) (ub (ud f (ud d x a) p) g) (af) fun be ap W=>Pl 1<|nt<|rt<|eJ 22 t.2 ap (.int .i64 0)<|?_
 subst S
 rw[hs]
 exact bE z (aH.upd u (us v W) (aq (al.safe T _ (by decide)) (aq (aU (ub (ud f (ud d R a) p) g) (by decide)) aG))) (ud V W h)
 have aa:=aj i
 refine sq<|sg<|Pl 2<|nt<|cb ((c==7)) (fun j=>?_) (fun j=>?_)
 have ar:=ah j
 refine bf<|ct j<|sg<|Pl 2<|nt<|c0<|sk<|bn<|tn<|sg<|?_
 refine Pl 1<|L0<|Oc<|m2 (ck r) fun bg X B=>nt<|sq<|sg<|Pl 1<|L0<|Oc<|mq (bC X)<|?_
 have bh:=al.len X
 refine Pl 1<|ng<|Pl 2<|nt<|?_
 have Y:=ud o B (le l.size a)
 have hs:ai aV 0 c b=b6 (aP.mk c 0 0 0 0 0 0 0 0 0 0 0 [] [] [] [] 0 0 0 0 0 []) (ak.mk b false 0):=by
   unfold ai aV
   (try simp only[i,j,bs,if_true,if_false,decide_true,decide_false,eq_self,true_or,or_true,or_false,false_or,if_true,if_false,dE,dC,dD,dF,reduceIte])
   all_goals rfl
 refine cb (((((ak.mk b false 0).endC).e)!=0)) (fun C=>?_) (fun C=>?_)
 have D:=ax C
 refine sg<|Pl 2<|?_
 refine L0<|b7 (ub (aD f (ud d B a)) g) mZ fun bi au av=>Pl 1<|nt<|rt<|tr<|bJ au (.int .i64 (((ak.mk b false 0).endC).e))<|?_
 rw[hs]
 exact bz D (ud Y av h)
 have D:=ag C
 refine bf<|sg<|?_
 have Z:=ud d B a
 refine L0<|bO (ub Z q)<|?_
 refine L0<|b7 (ub (aD f Z) g) (mC c) fun bj aw az=>Pl 1<|nt<|rt<|bJ aw (.int .i64 0)<|?_
 rw[hs]
 exact bE D ⟨_,_,_,_,_,rfl,aL.nil ..,aL.nil ..,aL.nil ..,aL.nil ..,aL.nil ..,(cj (by omega))⟩ (ud Y az h)
 have ar:=aj j
 refine sg<|Pl 2<|nt<|cb ((c==11)) (fun k=>?_) (fun k=>?_)
 have aA:=ah k
 refine bf<|ct k<|sg<|Pl 2<|nt<|c0<|sk<|bn<|tn<|sg<|?_
 refine Pl 1<|L0<|Oc<|m2 (ck r) fun bl a0 E=>nt<|sq<|sg<|Pl 1<|L0<|Oc<|mq (bC a0)<|?_
 have bm:=al.len a0
 refine Pl 1<|ng<|Pl 2<|nt<|?_
 have a1:=ud o E (le l.size a)
 have hs:ai aV 0 c b=b6 (aP.mk c 0 0 0 0 0 0 0 0 0 0 0 [] [] [] [] 0 0 0 0 0 []) (ak.mk b false 0):=by
   unfold ai aV
   (try simp only[i,j,k,bs,if_true,if_false,decide_true,decide_false,eq_self,true_or,or_true,or_false,false_or,if_true,if_false,dE,dC,dD,dF,reduceIte])
   all_goals rfl
 refine cb (((((ak.mk b false 0).endC).e)!=0)) (fun F=>?_) (fun F=>?_)
 have G:=ax F
 refine sg<|Pl 2<|?_
 refine L0<|b7 (ub (aD f (ud d E a)) g) mZ fun bo aB aC=>Pl 1<|nt<|rt<|tr<|bJ aB (.int .i64 (((ak.mk b false 0).endC).e))<|?_
 rw[hs]
 exact bz G (ud a1 aC h)
 have G:=ag F
 refine bf<|sg<|?_
 have a2:=ud d E a
 refine L0<|bO (ub a2 q)<|?_
 refine L0<|b7 (ub (aD f a2) g) (mC c) fun bp aE aF=>Pl 1<|nt<|rt<|bJ aE (.int .i64 0)<|?_
 rw[hs]
 exact bE G ⟨_,_,_,_,_,rfl,aL.nil ..,aL.nil ..,aL.nil ..,aL.nil ..,aL.nil ..,(cj (by omega))⟩ (ud a1 aF h)
 have aA:=aj k
 refine sg<|Pl 2<|nt<|cb ((c==12)) (fun n=>?_) (fun n=>?_)
 have aJ:=ah n
 refine bf<|ct n<|sg<|Pl 2<|nt<|c0<|sk<|bn<|tn<|sg<|?_
 refine Pl 1<|L0<|Oc<|m2 (ck r) fun bq a3 H=>nt<|sq<|sg<|Pl 1<|L0<|Oc<|mq (bC a3)<|?_
 have bt:=al.len a3
 refine Pl 1<|ng<|Pl 2<|nt<|?_
 have a4:=ud o H (le l.size a)
 have hs:ai aV 0 c b=b6 (aP.mk c 0 0 0 0 0 0 0 0 0 0 0 [] [] [] [] 0 0 0 0 0 []) (ak.mk b false 0):=by
   unfold ai aV
   (try simp only[i,j,k,n,bs,if_true,if_false,decide_true,decide_false,eq_self,true_or,or_true,or_false,false_or,if_true,if_false,dE,dC,dD,dF,reduceIte])
   all_goals rfl
 refine cb (((((ak.mk b false 0).endC).e)!=0)) (fun I=>?_) (fun I=>?_)
 have J:=ax I
 refine sg<|Pl 2<|?_
 refine L0<|b7 (ub (aD f (ud d H a)) g) mZ fun bu aK aM=>Pl 1<|nt<|rt<|tr<|bJ aK (.int .i64 (((ak.mk b false 0).endC).e))<|?_
 rw[hs]
 exact bz J (ud a4 aM h)
 have J:=ag I
 refine bf<|sg<|?_
 have a5:=ud d H a
 refine L0<|bO (ub a5 q)<|?_
 refine L0<|b7 (ub (aD f a5) g) (mC c) fun bv aN aO=>Pl 1<|nt<|rt<|bJ aN (.int .i64 0)<|?_
 rw[hs]
 exact bE J ⟨_,_,_,_,_,rfl,aL.nil ..,aL.nil ..,aL.nil ..,aL.nil ..,aL.nil ..,(cj (by omega))⟩ (ud a4 aO h)
 have aJ:=aj n
 refine go<|Pl 2<|nt<|cb ((c==17)) (fun s=>?_) (fun s=>?_)
 have aQ:=ah s
 refine sg<|Pl 2<|nt<|c0<|sk<|bn<|tn<|sg<|Pl 1<|L0<|Oc<|m2 (ck r) fun bw a6 K=>nl<|?_
 refine tn<|sq<|sg<|Pl 1<|L0<|Oc<|mq (bC a6)<|?_
 have bx:=al.len a6
 refine Pl 1<|ng<|Pl 2<|nt<|?_
 have a7:=ud o K (le l.size a)
 have hs:ai aV 0 c b=b6 (aP.mk c 0 0 0 0 0 0 0 0 0 0 0 [] [] [] [] 0 0 0 0 0 []) (ak.mk b false 0):=by
   unfold ai aV
   (try simp only[i,j,k,n,s,bs,if_true,if_false,decide_true,decide_false,eq_self,true_or,or_true,or_false,false_or,if_true,if_false,dE,dC,dD,dF,reduceIte])
   all_goals rfl
 refine cb (((((ak.mk b false 0).endC).e)!=0)) (fun L=>?_) (fun L=>?_)
 have M:=ax L
 refine sg<|Pl 2<|?_
 refine L0<|b7 (ub (aD f (ud d K a)) g) mZ fun bA aR aS=>Pl 1<|nt<|rt<|tr<|bJ aR (.int .i64 (((ak.mk b false 0).endC).e))<|?_
 rw[hs]
 exact bz M (ud a7 aS h)
 have M:=ag L
 refine bf<|sg<|?_
 have a8:=ud d K a
 refine L0<|bO (ub a8 q)<|?_
 refine L0<|b7 (ub (aD f a8) g) (mC c) fun bB aT aX=>Pl 1<|nt<|rt<|bJ aT (.int .i64 0)<|?_
 rw[hs]
 exact bE M ⟨_,_,_,_,_,rfl,aL.nil ..,aL.nil ..,aL.nil ..,aL.nil ..,aL.nil ..,(cj (by omega))⟩ (ud a7 aX h)
 have aQ:=aj s
 refine sg<|Pl 1<|?_
 refine L0<|b7 (ub (aD f d) g) mZ fun bD aY aZ=>Pl 1<|nt<|rt<|br<|tr<|bJ aY (.int .i64 4)<|?_
 have hs:ai aV 0 c b=(aP.zero,4):=by
   unfold ai aV
   (try simp only[i,j,k,n,s,bs,if_true,if_false,decide_true,decide_false,eq_self,true_or,or_true,or_false,false_or,if_true,if_false,dE,dC,dD,dF,reduceIte])
   all_goals rfl
 rw[hs]
 exact cA (ud o aZ h)
theorem oe{m:Md}{A:Option Addr}{cp:Nat}{b:List Int}{w:World}{c:Int}(hcode:B8 c)(hsl:b9 m w (.slice A b.length cp) b)(hb:b.length≤1048576) :
    Calls Tryz.prog 142 #[.int .i64 1,.int .u8 c,.slice A b.length cp] w (dX (ai aV 1 c b) w):=by
 obtain⟨hcode1,hcode2⟩:=hcode
 have hln:(b.length:Int)≤1048576:=by omega
 refine en 47 Tryz.func142 rfl<|sg<|L0<|bH mZ fun bR bS i h p=>Pl 1<|nt<|sq<|sg<|Pl 6<|nt<|c0<|?_
 refine bf<|sg<|Pl 2<|L0<|bH mZ fun bT bU f q b0=>L0<|b7 q (mC c) fun bV t r=>ng<|Pl 1<|?_
 have g:=ud b0 r f
 have n:=aD p g
 refine L0<|Oc<|e3 (ec (b9.old hsl n) (by omega)) fun bW bX a u d=>Pl 1<|nt<|sq<|sg<|Pl 1<|nt<|bk<|sg<|Pl 2<|nl<|?_
 refine tn<|?_
 have s:=aD n d
 refine cb ((c==8)) (fun j=>?_) (fun j=>?_)
 have b1:=ah j
 refine go<|Pl 2<|?_
 have a2:=nb (am q) r.size a
 refine L0<|Oc<|m3 (oE (dir:=1) (c:=c) ⟨hcode1,hcode2⟩ u (ub d t) (Ne.symm a2)) fun bY b2 b3 a3=>?_
 obtain⟨b4,x,D⟩:=b3
 refine ab b2 fun x41 a4 a5=>?_
 refine nl<|bn<|tn<|sg<|Pl 1<|L0<|Oc<|m2 (ck a5) fun bZ a6 E=>nt<|sq<|sg<|Pl 1<|L0<|Oc<|mq (bC a6)<|?_
 have c2:=al.len a6
 refine Pl 1<|ng<|Pl 2<|nt<|?_
 have F:=u1 a3 E im
 have a7:=ut s F (ac (ni n.size a) (ac (ni p.size f) ay))
 have hs:ai aV 1 c b=b6 ((ea 1 c (ak.mk b false 0)).2) ((ea 1 c (ak.mk b false 0)).1):=by
   unfold ai aV
   (try simp only[j,bs,if_true,if_false,decide_true,decide_false,eq_self,true_or,or_true,or_false,false_or,if_true,if_false,dE,dC,dD,dF,reduceIte])
   all_goals rfl
 refine cb ((x41.endC.e != 0)) (fun G=>?_) (fun G=>?_)
 have H:=ax G
 refine sg<|Pl 2<|?_
 refine L0<|b7 (ub (ud g (ud d F a) f) h) mZ fun c3 b5 b8=>Pl 1<|nt<|rt<|tr<|bJ b5 (.int .i64 x41.endC.e)<|?_
 subst a4
 rw[hs]
 exact bz H (ud a7 b8 i)
 have H:=ag G
 refine bf<|sg<|?_
 refine L0<|bO (hz:=(by rw[x.2];exact aI)) (aW E a2 x.1)<|?_
 refine L0<|b7 (hz:=(by rw[x.2];exact aI)) (hv:=D.size) (h1:=D.one) (ub (ud g (ud d F a) f) h) (b4) fun c4 ba a8=>Pl 1<|nt<|rt<|eJ 22 x.2 ba (.int .i64 0)<|?_
 subst a4
 rw[hs]
 exact bE H (aH.upd D (us E a8) (aq (al.safe a5 _ (by decide)) (aq (aU (ub (ud g (ud d a3 a) f) h) (by decide)) aG))) (ud a7 a8 i)
 have b1:=aj j
 refine sq<|sg<|Pl 2<|nt<|cb ((c==7)) (fun k=>?_) (fun k=>?_)
 have bb:=ah k
 refine bf<|ct k<|sg<|Pl 2<|nt<|c1<|go<|Pl 1<|?_
 have a9:=nb (am q) r.size a
 refine L0<|Oc<|m3 (gW (c:=c) ⟨hcode1,hcode2⟩ u (ub d t) (Ne.symm a9)) fun c5 bc bd aa=>?_
 obtain⟨be,y,I⟩:=bd
 refine ab bc fun x81 ad ae=>?_
 refine nl<|bn<|tn<|sg<|Pl 1<|L0<|Oc<|m2 (ck ae) fun c6 af J=>nt<|sq<|sg<|Pl 1<|L0<|Oc<|mq (bC af)<|?_
 have c7:=al.len af
 refine Pl 1<|ng<|Pl 2<|nt<|?_
 have K:=u1 aa J im
 have an:=ut s K (ac (ni n.size a) (ac (ni p.size f) ay))
 have hs:ai aV 1 c b=b6 ((cn c (ak.mk b false 0)).2) ((cn c (ak.mk b false 0)).1):=by
   unfold ai aV
   (try simp only[j,k,bs,if_true,if_false,decide_true,decide_false,eq_self,true_or,or_true,or_false,false_or,if_true,if_false,dE,dC,dD,dF,reduceIte])
   all_goals rfl
 refine cb ((x81.endC.e != 0)) (fun L=>?_) (fun L=>?_)
 have M:=ax L
 refine sg<|Pl 2<|?_
 refine L0<|b7 (ub (ud g (ud d K a) f) h) mZ fun c8 bg bh=>Pl 1<|nt<|rt<|tr<|bJ bg (.int .i64 x81.endC.e)<|?_
 subst ad
 rw[hs]
 exact bz M (ud an bh i)
 have M:=ag L
 refine bf<|sg<|?_
 refine L0<|bO (hz:=(by rw[y.2];exact aI)) (aW J a9 y.1)<|?_
 refine L0<|b7 (hz:=(by rw[y.2];exact aI)) (hv:=I.size) (h1:=I.one) (ub (ud g (ud d K a) f) h) (be) fun c9 bi ao=>Pl 1<|nt<|rt<|eJ 22 y.2 bi (.int .i64 0)<|?_
 subst ad
 rw[hs]
 exact bE M (aH.upd I (us J ao) (aq (al.safe ae _ (by decide)) (aq (aU (ub (ud g (ud d aa a) f) h) (by decide)) aG))) (ud an ao i)
 have bb:=aj k
 refine sg<|Pl 2<|nt<|cb ((c==11)) (fun l=>?_) (fun l=>?_)
 have bj:=ah l
 refine bf<|ct l<|sg<|Pl 2<|nt<|c1<|go<|Pl 1<|?_
 have ap:=nb (am q) r.size a
 refine L0<|Oc<|m3 (gW (c:=c) ⟨hcode1,hcode2⟩ u (ub d t) (Ne.symm ap)) fun ca bl bm ar=>?_
 obtain⟨bo,z,N⟩:=bm
 refine ab bl fun au av aw=>?_
 refine nl<|bn<|tn<|sg<|Pl 1<|L0<|Oc<|m2 (ck aw) fun cc az O=>nt<|sq<|sg<|Pl 1<|L0<|Oc<|mq (bC az)<|?_
 have cd:=al.len az
 refine Pl 1<|ng<|Pl 2<|nt<|?_
 have P:=u1 ar O im
 have aA:=ut s P (ac (ni n.size a) (ac (ni p.size f) ay))
 have hs:ai aV 1 c b=b6 ((cn c (ak.mk b false 0)).2) ((cn c (ak.mk b false 0)).1):=by
   unfold ai aV
   (try simp only[j,k,l,bs,if_true,if_false,decide_true,decide_false,eq_self,true_or,or_true,or_false,false_or,if_true,if_false,dE,dC,dD,dF,reduceIte])
   all_goals rfl
 refine cb ((au.endC.e != 0)) (fun Q=>?_) (fun Q=>?_)
 have R:=ax Q
 refine sg<|Pl 2<|?_
 refine L0<|b7 (ub (ud g (ud d P a) f) h) mZ fun ce bp bq=>Pl 1<|nt<|rt<|tr<|bJ bp (.int .i64 au.endC.e)<|?_
 subst av
 rw[hs]
 exact bz R (ud aA bq i)
 have R:=ag Q
 refine bf<|sg<|?_
 refine L0<|bO (hz:=(by rw[z.2];exact aI)) (aW O ap z.1)<|?_
 refine L0<|b7 (hz:=(by rw[z.2];exact aI)) (hv:=N.size) (h1:=N.one) (ub (ud g (ud d P a) f) h) (bo) fun cf bt aB=>Pl 1<|nt<|rt<|eJ 22 z.2 bt (.int .i64 0)<|?_
 subst av
 rw[hs]
 exact bE R (aH.upd N (us O aB) (aq (al.safe aw _ (by decide)) (aq (aU (ub (ud g (ud d ar a) f) h) (by decide)) aG))) (ud aA aB i)
 have bj:=aj l
 refine sg<|Pl 2<|nt<|cb ((c==12)) (fun o=>?_) (fun o=>?_)
 have bu:=ah o
 refine bf<|ct o<|sg<|Pl 2<|nt<|c1<|go<|Pl 1<|?_
 have aC:=nb (am q) r.size a
 refine L0<|Oc<|m3 (gW (c:=c) ⟨hcode1,hcode2⟩ u (ub d t) (Ne.symm aC)) fun cg bv bw aE=>?_
 obtain⟨bx,B,S⟩:=bw
 refine ab bv fun aF aJ aK=>?_
 refine nl<|bn<|tn<|sg<|Pl 1<|L0<|Oc<|m2 (ck aK) fun ch aL T=>nt<|sq<|sg<|Pl 1<|L0<|Oc<|mq (bC aL)<|?_
 have ci:=al.len aL
 refine Pl 1<|ng<|Pl 2<|nt<|?_
 have U:=u1 aE T im
 have aM:=ut s U (ac (ni n.size a) (ac (ni p.size f) ay))
 have hs:ai aV 1 c b=b6 ((cn c (ak.mk b false 0)).2) ((cn c (ak.mk b false 0)).1):=by
   unfold ai aV
   (try simp only[j,k,l,o,bs,if_true,if_false,decide_true,decide_false,eq_self,true_or,or_true,or_false,false_or,if_true,if_false,dE,dC,dD,dF,reduceIte])
   all_goals rfl
 refine cb ((aF.endC.e != 0)) (fun V=>?_) (fun V=>?_)
 have W:=ax V
 refine sg<|Pl 2<|?_
 refine L0<|b7 (ub (ud g (ud d U a) f) h) mZ fun cj bA bB=>Pl 1<|nt<|rt<|tr<|bJ bA (.int .i64 aF.endC.e)<|?_
 subst aJ
 rw[hs]
 exact bz W (ud aM bB i)
 have W:=ag V
 refine bf<|sg<|?_
 refine L0<|bO (hz:=(by rw[B.2];exact aI)) (aW T aC B.1)<|?_
 refine L0<|b7 (hz:=(by rw[B.2];exact aI)) (hv:=S.size) (h1:=S.one) (ub (ud g (ud d U a) f) h) (bx) fun cl bD aN=>Pl 1<|nt<|rt<|eJ 22 B.2 bD (.int .i64 0)<|?_
 subst aJ
 rw[hs]
 exact bE W (aH.upd S (us T aN) (aq (al.safe aK _ (by decide)) (aq (aU (ub (ud g (ud d aE a) f) h) (by decide)) aG))) (ud aM aN i)
 have bu:=aj o
 refine go<|Pl 2<|nt<|cb ((c==17)) (fun v=>?_) (fun v=>?_)
 have bF:=ah v
 refine sg<|Pl 2<|nt<|c1<|go<|Pl 1<|?_
 have aO:=nb (am q) r.size a
 refine L0<|Oc<|m3 (gW (c:=c) ⟨hcode1,hcode2⟩ u (ub d t) (Ne.symm aO)) fun cm bG bI aQ=>?_
 obtain⟨bK,C,X⟩:=bI
 refine ab bG fun aR aS aT=>?_
 refine nl<|bn<|tn<|sg<|Pl 1<|L0<|Oc<|m2 (ck aT) fun co aX Y=>nt<|sq<|sg<|Pl 1<|L0<|Oc<|mq (bC aX)<|?_
 have cq:=al.len aX
 refine Pl 1<|ng<|Pl 2<|nt<|?_
 have Z:=u1 aQ Y im
 have aY:=ut s Z (ac (ni n.size a) (ac (ni p.size f) ay))
 have hs:ai aV 1 c b=b6 ((cn c (ak.mk b false 0)).2) ((cn c (ak.mk b false 0)).1):=by
   unfold ai aV
   (try simp only[j,k,l,o,v,bs,if_true,if_false,decide_true,decide_false,eq_self,true_or,or_true,or_false,false_or,if_true,if_false,dE,dC,dD,dF,reduceIte])
   all_goals rfl
 refine cb ((aR.endC.e != 0)) (fun a0=>?_) (fun a0=>?_)
 have a1:=ax a0
 refine sg<|Pl 2<|?_
 refine L0<|b7 (ub (ud g (ud d Z a) f) h) mZ fun cr bL bM=>Pl 1<|nt<|rt<|tr<|bJ bL (.int .i64 aR.endC.e)<|?_
 subst aS
 rw[hs]
 exact bz a1 (ud aY bM i)
 have a1:=ag a0
 refine bf<|sg<|?_
 refine L0<|bO (hz:=(by rw[C.2];exact aI)) (aW Y aO C.1)<|?_
 refine L0<|b7 (hz:=(by rw[C.2];exact aI)) (hv:=X.size) (h1:=X.one) (ub (ud g (ud d Z a) f) h) (bK) fun cs bN aZ=>Pl 1<|nt<|rt<|eJ 22 C.2 bN (.int .i64 0)<|?_
 subst aS
 rw[hs]
 exact bE a1 (aH.upd X (us Y aZ) (aq (al.safe aT _ (by decide)) (aq (aU (ub (ud g (ud d aQ a) f) h) (by decide)) aG))) (ud aY aZ i)
 have bF:=aj v
 refine sg<|Pl 1<|?_
 refine L0<|b7 (ub (aD g d) h) mZ fun cu bP bQ=>Pl 1<|nt<|rt<|br<|tr<|bJ bP (.int .i64 4)<|?_
 have hs:ai aV 1 c b=(aP.zero,4):=by
   unfold ai aV
   (try simp only[j,k,l,o,v,bs,if_true,if_false,decide_true,decide_false,eq_self,true_or,or_true,or_false,false_or,if_true,if_false,dE,dC,dD,dF,reduceIte])
   all_goals rfl
 rw[hs]
 exact cA (ud s bQ i)
theorem nL{m:Md}{A:Option Addr}{cp:Nat}{b:List Int}{w:World}{dir c:Int}(hcode:B8 c)(hsl:b9 m w (.slice A b.length cp) b)(hb:b.length≤1048576)(hd:¬ (dir=0∨dir=1)) :
    Calls Tryz.prog 142 #[.int .i64 dir,.int .u8 c,.slice A b.length cp] w (dX (ai aV dir c b) w):=by
 obtain⟨hcode1,hcode2⟩:=hcode
 have hln:(b.length:Int)≤1048576:=by omega
 have e0:(dir != 0)=true:=by simp;omega
 have e1:(dir != 1)=true:=by simp;omega
 refine en 47 Tryz.func142 rfl<|sg<|L0<|bH mZ fun g h a d e=>Pl 1<|nt<|sq<|sg<|Pl 3<|sy 13 e0<|Pl 3<|nl<|?_
 refine tn<|ct e1<|sg<|Pl 1<|L0<|b7 d mZ fun i dp f=>Pl 1<|nt<|rt<|tr<|bJ dp (.int .i64 1)<|?_
 have hs:ai aV dir c b=(aP.zero,1):=by
   unfold ai aV
   (try simp only[e0,e1,bs,if_true,if_false,decide_true,decide_false,eq_self,true_or,or_true,or_false,false_or,if_true,if_false,dE,dC,dD,dF,reduceIte,hd])
   all_goals rfl
 rw[hs]
 exact cA (ud e f a)
theorem lH{m:Md}{v:Value}{b:List Int}{w:World}{dir c:Int}(hc:B8 c)(h:b9 m w v b)(hb:b.length≤1048576) :
    Calls Tryz.prog 142 #[.int .i64 dir,.int .u8 c,v] w (dX (ai aV dir c b) w):=by
  obtain⟨A,cp,rfl,_,_⟩:=h.shape
  by_cases h0:dir=0
  · subst h0;exact o5 hc h hb
  by_cases h1:dir=1
  · subst h1;exact oe hc h hb
  exact nL hc h hb (by omega)
open Go.RowKit
def eg:Nat→ak→List Obj→ak × List Obj
  | 0,C,L=>(C,L)
  | n+1,C,L=>eg n (((C.bytesC 1).bytesC 1).bytesC (C.bytesC 1).byteV) (L++[⟨C.byteV,((C.bytesC 1).bytesC 1).bytesR (C.bytesC 1).byteV⟩])
def kK (C:ak) : ak:=(C.bytesC 1).need (cc C.byteV) 6
def kL (C:ak) : ak:=((kK C).bytesC 1).need ((kK C).byteV==0 || (kK C).byteV==255) 6
def mA (C:ak) : ak:=((kL C).bytesC 1).need ((kK C).byteV != 0 || (kL C).byteV==0) 6
def tV (kd:Int)(C:ak) : ak:=((mA C).bytesC 1).need (kd != 4 || (mA C).byteV==1) 5
def dT (kd:Int)(C:ak) : ak × List Obj:=eg (mA C).byteV.toNat (tV kd C) []
theorem qC{g gm:Nat}{c me kd:Int}{C0:ak}{w:World}(hcode:B8 c)(hme:B8 me)(hkd:B8 kd)(hC:al w g C0)(hm:w.heap[gm]? = some (.cells #[.int .u8 c,.int .u8 0,.int .u16 0,.int .u16 0,.int .u16 0,.int .u16 0,.int .u16 0,.int .u16 0,.int .u16 0,.int .u16 0,.int .u16 0,.int .u16 0,.slice none 0 0,.slice none 0 0,.slice none 0 0,.slice none 0 0,.int .u8 me,.int .u8 kd,.int .u8 0,.int .u8 0,.int .u8 0,.slice none 0 0] 30 (0,0)))(hne:g≠gm) :
    Calls Tryz.prog 213 #[.pointer (some ⟨g,0,none⟩),.pointer (some ⟨gm,0,none⟩)] w (cz g gm (dT kd C0).1 { aP.zero with code:=c,mei:=me,kind:=kd,level:=C0.byteV,more:=(kK C0).byteV,next:=(kL C0).byteV,objects:=(dT kd C0).2 } w):=by
 obtain⟨hcode1,hcode2⟩:=hcode
 obtain⟨hme1,hme2⟩:=hme
 obtain⟨hkd1,hkd2⟩:=hkd
 refine en 92 Tryz.func213 rfl<|sg<|Pl 2<|L0<|Oc<|m3 (bY hC) fun cR bL b cS=>Pl 2<|?_
 have ai:=aW b (Ne.symm hne) hm
 refine L0<|bX ai 18 (mG c 0 0 0 0 0 0 0 0 0 0 0 nS nS nS nS me kd C0.byteV 0 0 nS) fun cT dp j=>ng<|Pl 4<|L0<|aO dp 18<|L0<|Oc<|m1 (rZ (x:=C0.byteV) (w:=_)) fun cU d=>?_
 have an:=aD j d
 refine L0<|Oc<|m2 (be ((cc C0.byteV)) 6 (al.upd bL an (aa hne az) (aq (aU ai (by decide)) aG))) fun cV bM l=>?_
 refine ab bM fun x25 bN bO=>?_
 refine ng<|Pl 2<|L0<|Oc<|m3 (bY bO) fun cW bP o cX=>Pl 2<|?_
 have ao:=u1 l o im
 have ar:=aW (uz d ao) (Ne.symm hne) dp
 refine L0<|bX ar 19 (mG c 0 0 0 0 0 0 0 0 0 0 0 nS nS nS nS me kd C0.byteV x25.byteV 0 nS) fun cY U f=>ng<|Pl 4<|L0<|aO U 19<|Pl 2<|cu 6 [29] 35 (((x25.byteV==0)||(x25.byteV==255))) (fun K au=>?_) ?_
 refine bl 29 ((x25.byteV==0)) (fun E=>?_) (fun E=>?_)
 have bQ:=ah E
 exact Pl 6<|ce au true (by rw[E];rfl)
 have bQ:=aj E
 exact Pl 3<|L1<|aO U 19<|Pl 2<|ce au (x25.byteV==255) (by rw[E];rfl)
 refine L0<|Oc<|m2 (be (((x25.byteV==0)||(x25.byteV==255))) 6 (al.upd bP f (aa hne az) (aq (aU ar (by decide)) aG))) fun cZ bR p=>?_
 refine ab bR fun x44 bS bT=>?_
 refine ng<|Pl 2<|L0<|Oc<|m3 (bY bT) fun d0 bU q d1=>Pl 2<|?_
 have aw:=u1 p q im
 have aE:=aW aw (Ne.symm hne) U
 refine L0<|bX aE 20 (mG c 0 0 0 0 0 0 0 0 0 0 0 nS nS nS nS me kd C0.byteV x25.byteV x44.byteV nS) fun d2 V h=>ng<|Pl 4<|L0<|aO V 19<|Pl 2<|cu 6 [48] 54 (((x25.byteV != 0)||(x44.byteV==0))) (fun K aF=>?_) ?_
 refine bl 48 ((x25.byteV != 0)) (fun F=>?_) (fun F=>?_)
 have bV:=ax F
 exact Pl 6<|ce aF true (by rw[F];rfl)
 have bV:=ag F
 exact Pl 3<|L1<|aO V 20<|Pl 2<|ce aF (x44.byteV==0) (by rw[F];rfl)
 refine L0<|Oc<|m2 (be (((x25.byteV != 0)||(x44.byteV==0))) 6 (al.upd bU h (aa hne az) (aq (aU aE (by decide)) aG))) fun d3 bW r=>?_
 refine ab bW fun x62 bZ c0=>?_
 refine ng<|Pl 1<|L0<|Oc<|m3 (bY c0) fun d4 c1 s d5=>L0<|Oi x62.byteV<|Pl 1<|ng<|Pl 4<|?_
 have aH:=u1 r s im
 have aI:=aW aH (Ne.symm hne) V
 refine L0<|aO aI 17<|Pl 2<|cu 3 [65] 68 (((kd != 4)||(x62.byteV==1))) (fun K aJ=>?_) ?_
 refine bl 65 ((kd != 4)) (fun G=>?_) (fun G=>?_)
 have c2:=ax G
 exact Pl 3<|ce aJ true (by rw[G];rfl)
 have c2:=ag G
 exact Pl 3<|ce aJ (x62.byteV==1) (by rw[G];rfl)
 refine L0<|Oc<|m2 (be (((kd != 4)||(x62.byteV==1))) 5 c1) fun W c3 i=>?_
 refine ab c3 fun x76 c4 c5=>?_
 refine ng<|Pl 2<|nt<|bk<|?_
 refine iN (fun x=>[(0,.pointer (some ⟨g,0,none⟩)),(1,.pointer (some ⟨gm,0,none⟩)),(70,.int .i64 x62.byteV),(71,.int .i64 ((x.1:Nat) : Int))]) (fun(x:Nat × ak × List Obj × Option Addr × Nat) w'=>aC [g,gm] W w'∧al w' g x.2.1∧w'.heap[gm]? = some (.cells #[.int .u8 c,.int .u8 0,.int .u16 0,.int .u16 0,.int .u16 0,.int .u16 0,.int .u16 0,.int .u16 0,.int .u16 0,.int .u16 0,.int .u16 0,.int .u16 0,.slice none 0 0,.slice none 0 0,.slice none 0 0,.slice none 0 0,.int .u8 me,.int .u8 kd,.int .u8 C0.byteV,.int .u8 x25.byteV,.int .u8 x44.byteV,.slice x.2.2.2.1 x.2.2.1.length x.2.2.2.2] 30 (0,0))∧aS W.heap.size 111 2 (dg true) w' (.slice x.2.2.2.1 x.2.2.1.length x.2.2.2.2) x.2.2.1∧(x.1≤x62.byteV.toNat)∧(eg (x62.byteV.toNat-x.1) x.2.1 x.2.2.1=eg x62.byteV.toNat x76 [])∧(x.2.2.1.length≤x.1)) (fun x=>x62.byteV.toNat-x.1) (0,x76,[],none,0) ⟨aC.refl _ _,c5,(aW i (Ne.symm hne) aI),aS.nil ..,(by(try dsimp only);omega),(by(try dsimp only);rw[Nat.sub_zero]),(by(try dsimp only);(try simp only[List.length_append,List.length_cons,List.length_nil]);omega)⟩ ?_
 rintro⟨k,C,L,A,cp⟩ X ⟨v,c6,c7,c8,c9,ca,cd⟩
 refine iy [(0,.pointer (some ⟨g,0,none⟩)),(1,.pointer (some ⟨gm,0,none⟩)),(70,.int .i64 x62.byteV),(71,.int .i64 ((k:Nat) : Int))] ?_
 have u:al X g C:=c6
 have D:X.heap[gm]? = some (.cells #[.int .u8 c,.int .u8 0,.int .u16 0,.int .u16 0,.int .u16 0,.int .u16 0,.int .u16 0,.int .u16 0,.int .u16 0,.int .u16 0,.int .u16 0,.int .u16 0,.slice none 0 0,.slice none 0 0,.slice none 0 0,.slice none 0 0,.int .u8 me,.int .u8 kd,.int .u8 C0.byteV,.int .u8 x25.byteV,.int .u8 x44.byteV,.slice A L.length cp] 30 (0,0)):=c7
 have a:aS W.heap.size 111 2 (dg true) X (.slice A L.length cp) L:=c8
 have d6:k≤x62.byteV.toNat:=c9
 have d7:eg (x62.byteV.toNat-k) C L=eg x62.byteV.toNat x76 []:=ca
 have d8:L.length≤k:=cd
 have hobj:eg (x62.byteV.toNat-k) C L=eg x62.byteV.toNat x76 []:=by assumption
 refine sg<|Pl 1<|nt<|sq<|?_
 refine cb ((decide (((k:Nat) : Int)<x62.byteV))) (fun Y=>?_) (fun Y=>?_)
 have cf:=of_decide_eq_true Y
 refine bf<|sq<|bk<|sg<|Pl 1<|L0<|Oc<|m3 (bY u) fun d9 aK y da=>Pl 1<|nt<|Rg 17 (fun w'=>True) fun db t=>bi trivial fun z=>Rt 0 z<|?_
 refine Rt 1 z<|Rt 2 z<|Rt 3 z<|Rt 5 z<|Rt 6 z<|Rt 7 z<|?_
 refine R2 4 8 rfl rfl ?_ ?_
 have Z:=aD y t
 have a0:=aW Z (Ne.symm hne) D
 refine  aO a0 21<|bi trivial fun dc=>?_
 refine R0 8 rfl<|Oc<|m3 (bY (al.old aK t)) fun dd aM a1 de=>bi trivial fun cg=>Rr 9 cg (.int .i64 ((C.bytesC 1).byteV)) (fun _ _=>ch (.int .i64 (IntKind.i64.wrap ((C.bytesC 1).byteV))) (by kernel_rfl) (congrArg (Value.int .i64) (i64_in (by omega))))<|R0 10 rfl<|Oc<|tL (cE (n:=(C.bytesC 1).byteV) aM) fun ci cj df ck dh di cl a2=>?_
 have dj:=Nat.le_trans (ak.bytesR_le ((C.bytesC 1).bytesC 1) ((C.bytesC 1).byteV)) (al.len aM)
 refine ab cl fun dk cm cn=>?_
 refine bi trivial fun co=>Rt 11 co<|R0 12 rfl<|cL (m:=1) (e:=111) #[.int .u8 C.byteV,.slice ci ((((C.bytesC 1).bytesC 1).bytesR ((C.bytesC 1).byteV)).length) cj] fun dl dm dn cq I=>?_
 have cr:=kP (R:=dg true) (x:=(Obj.mk C.byteV (((C.bytesC 1).bytesC 1).bytesR ((C.bytesC 1).byteV)))) cq rfl ⟨_,rfl,(b9.upd' ck I aG),b8 (by omega)⟩
 refine bi trivial fun dq=>?_
 have aQ:=u1 a1 (aD a2 I) im
 have a3:=u1 Z aQ im
 have aR:=ap a a3 (fun x hx=>(aa (fun e=>(aB (al.lt hC) (le (le (le (le (le (le (le (le (le (le (le b.size j.size) d.size) l.size) o.size) f.size) p.size) q.size) h.size) r.size) s.size) i.size) a) (e▸hx)) az)) (dg.upd8 a3 (aq (al.safe u _ (by decide)) aG))
 refine R0 13 rfl<|ie (xs:=L) (ys:=([(Obj.mk C.byteV (((C.bytesC 1).bytesC 1).bytesR ((C.bytesC 1).byteV)))])) (.agg #[.int .u8 0,.slice none 0 0]) 2 32 aR cr (by simp) dg.ones (fun w' hv=>dg.upd8 hv (cP (dt _ aR (by decide)) aG)) (by(try simp only[List.length_append,List.length_cons,List.length_nil,aA]);omega) (le (le (le (le (le v.size y.size) t.size) a1.size) a2.size) I.size) fun aT aV dr aX aY=>bi trivial fun aZ=>Rt 14 aZ<|Rt 15 aZ<|?_
 have b0:=aC.blk (ut (aC.mono (S':=(g :: (ob A++[]))) aQ (ac im ay)) aY (av il ay)) (aa (Ne.symm hne) (bj (aB (am hm) (le (le (le (le (le (le (le (le (le (le (le b.size j.size) d.size) l.size) o.size) f.size) p.size) q.size) h.size) r.size) s.size) i.size) a) az)) a0
 refine R0 16 rfl<|bX b0 21 (mG c 0 0 0 0 0 0 0 0 0 0 0 nS nS nS nS me kd C0.byteV x25.byteV x44.byteV (.slice aT ((L++[(Obj.mk C.byteV (((C.bytesC 1).bytesC 1).bytesR ((C.bytesC 1).byteV)))]).length) aV)) fun ds cs a4=>bi trivial fun du=>re<|bn<|tn<|go<|L0<|Oi (((k:Nat) : Int)+1)<|Pl 1<|nl<|?_
 subst cm
 have b1:=u1 (aC.mono (S':=(ob A++(gm :: []))) aY (av il ay)) a4 im
 have b2:=u1 a1 a2 im
 have b3:=u1 Z b2 im
 exact gB ((k+1),(((C.bytesC 1).bytesC 1).bytesC ((C.bytesC 1).byteV)),(L++[(Obj.mk C.byteV (((C.bytesC 1).bytesC 1).bytesR ((C.bytesC 1).byteV)))]),aT,aV) ⟨(ut v (ut (aC.mono (S':=(g :: (ob A++(gm :: [])))) a3 (ac im ay)) b1 (av il (ac im ay))) (ac im (av (aN a lr) (ac im ay)))),(al.upd cn (ut (aC.mono (S':=(ob A++(gm :: []))) I ay) b1 (av il (ac im ay))) (bj (aB (al.lt hC) (le (le (le (le (le (le (le (le (le (le (le b.size j.size) d.size) l.size) o.size) f.size) p.size) q.size) h.size) r.size) s.size) i.size) a) (aa hne az)) (cP (dt _ (ap a b3 (fun x hx=>(aa (fun e=>(aB (al.lt hC) (le (le (le (le (le (le (le (le (le (le (le b.size j.size) d.size) l.size) o.size) f.size) p.size) q.size) h.size) r.size) s.size) i.size) a) (e▸hx)) az)) (dg.upd8 b3 (aq (al.safe u _ (by decide)) aG))) (by decide)) (aq (aU (aW b2 (Ne.symm hne) a0) (by decide)) aG))),cs,(ap aX a4 (fun x hx=>(aa (fun e=>(aB (am hm) (le (le (le (le (le (le (le (le (le (le (le b.size j.size) d.size) l.size) o.size) f.size) p.size) q.size) h.size) r.size) s.size) i.size) aX) (e▸hx)) az)) (dg.upd8 a4 (aq (aU b0 (by decide)) aG))),(by(try dsimp only);omega),(by(try dsimp only);rw[← hobj,show x62.byteV.toNat-k=(x62.byteV.toNat-(k+1))+1 from by omega];rfl),(by(try dsimp only);(try simp only[List.length_append,List.length_cons,List.length_nil]);omega)⟩ (by omega)
 refine  Oc<|m3 (bY (al.old aK t)) fun dv J B dw=>bi trivial fun ct=>Rr 9 ct (.int .i64 ((C.bytesC 1).byteV)) (fun _ _=>ch (.int .i64 (IntKind.i64.wrap ((C.bytesC 1).byteV))) (by kernel_rfl) (congrArg (Value.int .i64) (i64_in (by omega))))<|?_
 refine R2 4 10 rfl rfl ?_ ?_
 have a5:=u1 y (uz t B) im
 have a6:=aW a5 (Ne.symm hne) D
 refine  aO a6 21<|bi trivial fun dx=>R0 10 rfl<|Oc<|tL (cE (n:=(C.bytesC 1).byteV) J) fun cv cw dy cx dz dA cy M=>?_
 have dB:=Nat.le_trans (ak.bytesR_le ((C.bytesC 1).bytesC 1) ((C.bytesC 1).byteV)) (al.len J)
 refine ab cy fun dC cA cB=>?_
 refine bi trivial fun cC=>Rt 11 cC<|R0 12 rfl<|cL (m:=1) (e:=111) #[.int .u8 C.byteV,.slice cv ((((C.bytesC 1).bytesC 1).bytesR ((C.bytesC 1).byteV)).length) cw] fun dD dE dF cD N=>?_
 have cF:=kP (R:=dg true) (x:=(Obj.mk C.byteV (((C.bytesC 1).bytesC 1).bytesR ((C.bytesC 1).byteV)))) cD rfl ⟨_,rfl,(b9.upd' cx N aG),b8 (by omega)⟩
 refine bi trivial fun dG=>?_
 have b4:=aD M N
 have a7:=u1 a5 b4 im
 have b5:=ap a a7 (fun x hx=>(aa (fun e=>(aB (al.lt hC) (le (le (le (le (le (le (le (le (le (le (le b.size j.size) d.size) l.size) o.size) f.size) p.size) q.size) h.size) r.size) s.size) i.size) a) (e▸hx)) az)) (dg.upd8 a7 (aq (al.safe u _ (by decide)) aG))
 refine R0 13 rfl<|ie (xs:=L) (ys:=([(Obj.mk C.byteV (((C.bytesC 1).bytesC 1).bytesR ((C.bytesC 1).byteV)))])) (.agg #[.int .u8 0,.slice none 0 0]) 2 32 b5 cF (by simp) dg.ones (fun w' hv=>dg.upd8 hv (cP (dt _ b5 (by decide)) aG)) (by(try simp only[List.length_append,List.length_cons,List.length_nil,aA]);omega) (le (le (le (le (le v.size y.size) t.size) B.size) M.size) N.size) fun b6 b7 dH ba bb=>bi trivial fun bc=>Rt 14 bc<|Rt 15 bc<|?_
 have bd:=aC.blk (ut (aC.mono (S':=(g :: (ob A++[]))) b4 (ac im ay)) bb (av il ay)) (aa (Ne.symm hne) (bj (aB (am hm) (le (le (le (le (le (le (le (le (le (le (le b.size j.size) d.size) l.size) o.size) f.size) p.size) q.size) h.size) r.size) s.size) i.size) a) az)) a6
 refine R0 16 rfl<|bX bd 21 (mG c 0 0 0 0 0 0 0 0 0 0 0 nS nS nS nS me kd C0.byteV x25.byteV x44.byteV (.slice b6 ((L++[(Obj.mk C.byteV (((C.bytesC 1).bytesC 1).bytesR ((C.bytesC 1).byteV)))]).length) b7)) fun dI cG a8=>bi trivial fun dJ=>re<|bn<|tn<|go<|L0<|Oi (((k:Nat) : Int)+1)<|Pl 1<|nl<|?_
 subst cA
 have bg:=u1 (aC.mono (S':=(ob A++(gm :: []))) bb (av il ay)) a8 im
 have bh:=u1 a5 M im
 exact gB ((k+1),(((C.bytesC 1).bytesC 1).bytesC ((C.bytesC 1).byteV)),(L++[(Obj.mk C.byteV (((C.bytesC 1).bytesC 1).bytesR ((C.bytesC 1).byteV)))]),b6,b7) ⟨(ut v (ut (aC.mono (S':=(g :: (ob A++(gm :: [])))) a7 (ac im ay)) bg (av il (ac im ay))) (ac im (av (aN a lr) (ac im ay)))),(al.upd cB (ut (aC.mono (S':=(ob A++(gm :: []))) N ay) bg (av il (ac im ay))) (bj (aB (al.lt hC) (le (le (le (le (le (le (le (le (le (le (le b.size j.size) d.size) l.size) o.size) f.size) p.size) q.size) h.size) r.size) s.size) i.size) a) (aa hne az)) (cP (dt _ (ap a bh (fun x hx=>(aa (fun e=>(aB (al.lt hC) (le (le (le (le (le (le (le (le (le (le (le b.size j.size) d.size) l.size) o.size) f.size) p.size) q.size) h.size) r.size) s.size) i.size) a) (e▸hx)) az)) (dg.upd8 bh (aq (al.safe u _ (by decide)) aG))) (by decide)) (aq (aU (aW M (Ne.symm hne) a6) (by decide)) aG))),cG,(ap ba a8 (fun x hx=>(aa (fun e=>(aB (am hm) (le (le (le (le (le (le (le (le (le (le (le b.size j.size) d.size) l.size) o.size) f.size) p.size) q.size) h.size) r.size) s.size) i.size) ba) (e▸hx)) az)) (dg.upd8 a8 (aq (aU bd (by decide)) aG))),(by(try dsimp only);omega),(by(try dsimp only);rw[← hobj,show x62.byteV.toNat-k=(x62.byteV.toNat-(k+1))+1 from by omega];rfl),(by(try dsimp only);(try simp only[List.length_append,List.length_cons,List.length_nil]);omega)⟩ (by omega)
 refine  Oc<|tL (cE (n:=(C.bytesC 1).byteV) J) fun bm bo dK bp dL dM cH H=>?_
 have dN:=Nat.le_trans (ak.bytesR_le ((C.bytesC 1).bytesC 1) ((C.bytesC 1).byteV)) (al.len J)
 refine ab cH fun dO bq br=>?_
 refine bi trivial fun cI=>Rt 11 cI<|?_
 refine R2 4 12 rfl rfl ?_ ?_
 have O:=u1 y (uz t (u1 B H im)) im
 have a9:=aW O (Ne.symm hne) D
 refine  aO a9 21<|bi trivial fun dP=>R0 12 rfl<|cL (m:=1) (e:=111) #[.int .u8 C.byteV,.slice bm ((((C.bytesC 1).bytesC 1).bytesR ((C.bytesC 1).byteV)).length) bo] fun dQ dR dS cJ P=>?_
 have cK:=kP (R:=dg true) (x:=(Obj.mk C.byteV (((C.bytesC 1).bytesC 1).bytesR ((C.bytesC 1).byteV)))) cJ rfl ⟨_,rfl,(b9.upd' bp P aG),b8 (by omega)⟩
 refine bi trivial fun dU=>?_
 have ad:=aD O P
 have bs:=ap a ad (fun x hx=>(aa (fun e=>(aB (al.lt hC) (le (le (le (le (le (le (le (le (le (le (le b.size j.size) d.size) l.size) o.size) f.size) p.size) q.size) h.size) r.size) s.size) i.size) a) (e▸hx)) az)) (dg.upd8 ad (aq (al.safe u _ (by decide)) aG))
 refine R0 13 rfl<|ie (xs:=L) (ys:=([(Obj.mk C.byteV (((C.bytesC 1).bytesC 1).bytesR ((C.bytesC 1).byteV)))])) (.agg #[.int .u8 0,.slice none 0 0]) 2 32 bs cK (by simp) dg.ones (fun w' hv=>dg.upd8 hv (cP (dt _ bs (by decide)) aG)) (by(try simp only[List.length_append,List.length_cons,List.length_nil,aA]);omega) (le (le (le (le (le v.size y.size) t.size) B.size) H.size) P.size) fun bt bu dV bv bw=>bi trivial fun bz=>Rt 14 bz<|Rt 15 bz<|?_
 have bA:=ut (aC.mono (S':=(ob A++[])) P ay) bw (av il ay)
 have bB:=aC.blk bA (bj (aB (am hm) (le (le (le (le (le (le (le (le (le (le (le b.size j.size) d.size) l.size) o.size) f.size) p.size) q.size) h.size) r.size) s.size) i.size) a) az) a9
 refine R0 16 rfl<|bX bB 21 (mG c 0 0 0 0 0 0 0 0 0 0 0 nS nS nS nS me kd C0.byteV x25.byteV x44.byteV (.slice bt ((L++[(Obj.mk C.byteV (((C.bytesC 1).bytesC 1).bytesR ((C.bytesC 1).byteV)))]).length) bu)) fun dW cM Q=>bi trivial fun dX=>re<|bn<|tn<|go<|L0<|Oi (((k:Nat) : Int)+1)<|Pl 1<|nl<|?_
 subst bq
 exact gB ((k+1),(((C.bytesC 1).bytesC 1).bytesC ((C.bytesC 1).byteV)),(L++[(Obj.mk C.byteV (((C.bytesC 1).bytesC 1).bytesR ((C.bytesC 1).byteV)))]),bt,bu) ⟨(ut v (ut (aC.mono (S':=(g :: (ob A++(gm :: [])))) ad (ac im ay)) (u1 (aC.mono (S':=(ob A++(gm :: []))) bw (av il ay)) Q im) (av il (ac im ay))) (ac im (av (aN a lr) (ac im ay)))),(al.upd br (u1 (aC.mono (S':=(ob A++(gm :: []))) bA (av il ay)) Q im) (bj (aB (al.lt hC) (le (le (le (le (le (le (le (le (le (le (le b.size j.size) d.size) l.size) o.size) f.size) p.size) q.size) h.size) r.size) s.size) i.size) a) (aa hne az)) (cP (dt _ (ap a O (fun x hx=>(aa (fun e=>(aB (al.lt hC) (le (le (le (le (le (le (le (le (le (le (le b.size j.size) d.size) l.size) o.size) f.size) p.size) q.size) h.size) r.size) s.size) i.size) a) (e▸hx)) az)) (dg.upd8 O (aq (al.safe u _ (by decide)) aG))) (by decide)) (aq (aU a9 (by decide)) aG))),cM,(ap bv Q (fun x hx=>(aa (fun e=>(aB (am hm) (le (le (le (le (le (le (le (le (le (le (le b.size j.size) d.size) l.size) o.size) f.size) p.size) q.size) h.size) r.size) s.size) i.size) bv) (e▸hx)) az)) (dg.upd8 Q (aq (aU bB (by decide)) aG))),(by(try dsimp only);omega),(by(try dsimp only);rw[← hobj,show x62.byteV.toNat-k=(x62.byteV.toNat-(k+1))+1 from by omega];rfl),(by(try dsimp only);(try simp only[List.length_append,List.length_cons,List.length_nil]);omega)⟩ (by omega)
 refine  cL (m:=1) (e:=111) #[.int .u8 C.byteV,.slice bm ((((C.bytesC 1).bytesC 1).bytesR ((C.bytesC 1).byteV)).length) bo] fun dY dZ e0 cN S=>?_
 have cO:=kP (R:=dg true) (x:=(Obj.mk C.byteV (((C.bytesC 1).bytesC 1).bytesR ((C.bytesC 1).byteV)))) cN rfl ⟨_,rfl,(b9.upd' bp S aG),b8 (by omega)⟩
 refine bi trivial fun e1=>?_
 have T:=u1 y (uz t (u1 B (aD H S) im)) im
 have bC:=aW T (Ne.symm hne) D
 refine R0 4 rfl<|aO bC 21<|bi trivial fun e2=>?_
 have bD:=ap a T (fun x hx=>(aa (fun e=>(aB (al.lt hC) (le (le (le (le (le (le (le (le (le (le (le b.size j.size) d.size) l.size) o.size) f.size) p.size) q.size) h.size) r.size) s.size) i.size) a) (e▸hx)) az)) (dg.upd8 T (aq (al.safe u _ (by decide)) aG))
 refine R0 13 rfl<|ie (xs:=L) (ys:=([(Obj.mk C.byteV (((C.bytesC 1).bytesC 1).bytesR ((C.bytesC 1).byteV)))])) (.agg #[.int .u8 0,.slice none 0 0]) 2 32 bD cO (by simp) dg.ones (fun w' hv=>dg.upd8 hv (cP (dt _ bD (by decide)) aG)) (by(try simp only[List.length_append,List.length_cons,List.length_nil,aA]);omega) (le (le (le (le (le v.size y.size) t.size) B.size) H.size) S.size) fun bE bF e3 bG bH=>bi trivial fun bI=>Rt 14 bI<|Rt 15 bI<|?_
 have bJ:=aC.blk bH (bj (aB (am hm) (le (le (le (le (le (le (le (le (le (le (le b.size j.size) d.size) l.size) o.size) f.size) p.size) q.size) h.size) r.size) s.size) i.size) a) az) bC
 refine R0 16 rfl<|bX bJ 21 (mG c 0 0 0 0 0 0 0 0 0 0 0 nS nS nS nS me kd C0.byteV x25.byteV x44.byteV (.slice bE ((L++[(Obj.mk C.byteV (((C.bytesC 1).bytesC 1).bytesR ((C.bytesC 1).byteV)))]).length) bF)) fun e4 cQ ae=>bi trivial fun e5=>re<|bn<|tn<|go<|L0<|Oi (((k:Nat) : Int)+1)<|Pl 1<|nl<|?_
 subst bq
 have bK:=u1 (aC.mono (S':=(ob A++(gm :: []))) bH (av il ay)) ae im
 have af:=u1 y (uz t (u1 B H im)) im
 exact gB ((k+1),(((C.bytesC 1).bytesC 1).bytesC ((C.bytesC 1).byteV)),(L++[(Obj.mk C.byteV (((C.bytesC 1).bytesC 1).bytesR ((C.bytesC 1).byteV)))]),bE,bF) ⟨(ut v (ut (aC.mono (S':=(g :: (ob A++(gm :: [])))) T (ac im ay)) bK (av il (ac im ay))) (ac im (av (aN a lr) (ac im ay)))),(al.upd br (ut (aC.mono (S':=(ob A++(gm :: []))) S ay) bK (av il (ac im ay))) (bj (aB (al.lt hC) (le (le (le (le (le (le (le (le (le (le (le b.size j.size) d.size) l.size) o.size) f.size) p.size) q.size) h.size) r.size) s.size) i.size) a) (aa hne az)) (cP (dt _ (ap a af (fun x hx=>(aa (fun e=>(aB (al.lt hC) (le (le (le (le (le (le (le (le (le (le (le b.size j.size) d.size) l.size) o.size) f.size) p.size) q.size) h.size) r.size) s.size) i.size) a) (e▸hx)) az)) (dg.upd8 af (aq (al.safe u _ (by decide)) aG))) (by decide)) (aq (aU (aW af (Ne.symm hne) D) (by decide)) aG))),cQ,(ap bG ae (fun x hx=>(aa (fun e=>(aB (am hm) (le (le (le (le (le (le (le (le (le (le (le b.size j.size) d.size) l.size) o.size) f.size) p.size) q.size) h.size) r.size) s.size) i.size) bG) (e▸hx)) az)) (dg.upd8 ae (aq (aU bJ (by decide)) aG))),(by(try dsimp only);omega),(by(try dsimp only);rw[← hobj,show x62.byteV.toNat-k=(x62.byteV.toNat-(k+1))+1 from by omega];rfl),(by(try dsimp only);(try simp only[List.length_append,List.length_cons,List.length_nil]);omega)⟩ (by omega)
 have cf:=of_decide_eq_false Y
 refine xt<|tx<|tx<|bx<|rm (.tuple #[])<|?_
 subst c4 bZ bS bN
 have hf:dT kd C0=(C,L):=by
   have h1:eg ((((((C0.bytesC 1).need (cc C0.byteV) 6).bytesC 1).need ((((C0.bytesC 1).need (cc C0.byteV) 6).byteV==0)||(((C0.bytesC 1).need (cc C0.byteV) 6).byteV==255)) 6).bytesC 1).need ((((C0.bytesC 1).need (cc C0.byteV) 6).byteV != 0)||(((((C0.bytesC 1).need (cc C0.byteV) 6).bytesC 1).need ((((C0.bytesC 1).need (cc C0.byteV) 6).byteV==0)||(((C0.bytesC 1).need (cc C0.byteV) 6).byteV==255)) 6).byteV==0)) 6).byteV.toNat ((((((((C0.bytesC 1).need (cc C0.byteV) 6).bytesC 1).need ((((C0.bytesC 1).need (cc C0.byteV) 6).byteV==0)||(((C0.bytesC 1).need (cc C0.byteV) 6).byteV==255)) 6).bytesC 1).need ((((C0.bytesC 1).need (cc C0.byteV) 6).byteV != 0)||(((((C0.bytesC 1).need (cc C0.byteV) 6).bytesC 1).need ((((C0.bytesC 1).need (cc C0.byteV) 6).byteV==0)||(((C0.bytesC 1).need (cc C0.byteV) 6).byteV==255)) 6).byteV==0)) 6).bytesC 1).need ((kd != 4)||(((((((C0.bytesC 1).need (cc C0.byteV) 6).bytesC 1).need ((((C0.bytesC 1).need (cc C0.byteV) 6).byteV==0)||(((C0.bytesC 1).need (cc C0.byteV) 6).byteV==255)) 6).bytesC 1).need ((((C0.bytesC 1).need (cc C0.byteV) 6).byteV != 0)||(((((C0.bytesC 1).need (cc C0.byteV) 6).bytesC 1).need ((((C0.bytesC 1).need (cc C0.byteV) 6).byteV==0)||(((C0.bytesC 1).need (cc C0.byteV) 6).byteV==255)) 6).byteV==0)) 6).byteV==1)) 5) []=(C,L):=by
     rw[← hobj,show((((((C0.bytesC 1).need (cc C0.byteV) 6).bytesC 1).need ((((C0.bytesC 1).need (cc C0.byteV) 6).byteV==0)||(((C0.bytesC 1).need (cc C0.byteV) 6).byteV==255)) 6).bytesC 1).need ((((C0.bytesC 1).need (cc C0.byteV) 6).byteV != 0)||(((((C0.bytesC 1).need (cc C0.byteV) 6).bytesC 1).need ((((C0.bytesC 1).need (cc C0.byteV) 6).byteV==0)||(((C0.bytesC 1).need (cc C0.byteV) 6).byteV==255)) 6).byteV==0)) 6).byteV.toNat-k=0 from by omega]
     rfl
   exact h1
 rw[hf]
 exact⟨rfl,u,⟨_,⟨D,rfl⟩,⟨_,_,_,_,_,rfl,aL.nil ..,aL.nil ..,aL.nil ..,aL.nil ..,(a).rd,⟨(b8 (x:=c) (by omega)),(b8 (x:=0) (by omega)),(ez (x:=0) (by omega)),(ez (x:=0) (by omega)),(ez (x:=0) (by omega)),(ez (x:=0) (by omega)),(ez (x:=0) (by omega)),(ez (x:=0) (by omega)),(ez (x:=0) (by omega)),(ez (x:=0) (by omega)),(ez (x:=0) (by omega)),(ez (x:=0) (by omega)),(b8 (x:=me) (by omega)),(b8 (x:=kd) (by omega)),(b8 (x:=C0.byteV) (by omega)),(b8 (x:=((C0.bytesC 1).need (cc C0.byteV) 6).byteV) (by omega)),(b8 (x:=((((C0.bytesC 1).need (cc C0.byteV) 6).bytesC 1).need ((((C0.bytesC 1).need (cc C0.byteV) 6).byteV==0)||(((C0.bytesC 1).need (cc C0.byteV) 6).byteV==255)) 6).byteV) (by omega))⟩⟩⟩,(ui b (ui an (ui ao (ui f (ui aw (ui h (ui aH (ui i v))))))))⟩
open Go.RowKit
def dB (C:ak) : ak:=(C.bytesC 1).need (C.byteV==13 || C.byteV==14) 8
def fF (C:ak) : ak:=(dB C).need (decide (((dB C).l.length:Int)≤251)) 5
def ek (C:ak) : ak:=((dB C).bytesC 1).need (decide (1≤(dB C).byteV)&&decide ((dB C).byteV≤4)) 6
def bD (dir c:Int)(C:ak) : Option (ak × aP) :=
  if c != 43 then none
  else if C.byteV==13 then some ((fF C).bytesC ((fF C).l.length:Int),{ aP.zero with code:=c,mei:=C.byteV,data:=(fF C).bytesR ((fF C).l.length:Int) })
  else if dir==1 then some ((dT (dB C).byteV (ek C)).1,{ aP.zero with code:=c,mei:=C.byteV,kind:=(dB C).byteV,level:=(ek C).byteV,more:=(kK (ek C)).byteV,next:=(kL (ek C)).byteV,objects:=(dT (dB C).byteV (ek C)).2 })
  else some ((ek C).bytesC 1,{ aP.zero with code:=c,mei:=C.byteV,kind:=(dB C).byteV,next:=(ek C).byteV })
theorem oz{m:Md}{A:Option Addr}{cp:Nat}{b:List Int}{w:World}{c:Int}(hcode:B8 c)(hsl:b9 m w (.slice A b.length cp) b)(hb:b.length≤1048576) :
    Calls Tryz.prog 146 #[.int .i64 0,.int .u8 c,.slice A b.length cp] w (dX (ai bD 0 c b) w):=by
 obtain⟨hcode1,hcode2⟩:=hcode
 have hln:(b.length:Int)≤1048576:=by omega
 refine en 81 Tryz.func146 rfl<|sg<|L0<|bH mZ fun N ba p h i=>Pl 1<|nt<|sq<|bk<|sg<|Pl 7<|nt<|?_
 refine c0<|sg<|Pl 3<|nt<|cb ((c != 43)) (fun o=>?_) (fun o=>?_)
 have ar:=ax o
 refine sg<|Pl 1<|L0<|b7 h mZ fun bb au av=>Pl 1<|nt<|rt<|br<|tr<|bJ au (.int .i64 4)<|?_
 have hs:ai bD 0 c b=(aP.zero,4):=by
   unfold ai bD fF ek dB
   (try simp only[o,bs,if_true,if_false,decide_true,decide_false,eq_self,true_or,or_true,or_false,false_or,if_true,if_false,dE,dC,dD,dF,reduceIte])
   all_goals rfl
 rw[hs]
 exact cA (ud i av p)
 have ar:=ag o
 refine sk<|bn<|tn<|sg<|Pl 1<|?_
 refine L0<|Oc<|e3 (ec (b9.old hsl i) (by omega)) fun O bc a P j=>Pl 1<|ng<|Pl 2<|L0<|Oc<|m3 (bY P) fun bd aw f bg=>Pl 1<|L0<|bH mZ fun Q bh g aA aB=>L0<|b7 aA (mG c 0 0 0 0 0 0 0 0 0 0 0 nS nS nS nS ((ak.mk b false 0).byteV) 0 0 0 0 nS) fun bi B aE=>nt<|sq<|?_
 refine go<|Pl 2<|L0<|aO B 16<|Pl 2<|cu 4 [33] 37 (((((ak.mk b false 0).byteV)==13)||(((ak.mk b false 0).byteV)==14))) (fun K R=>?_) ?_
 refine bl 33 ((((ak.mk b false 0).byteV)==13)) (fun q=>?_) (fun q=>?_)
 have aF:=ah q
 exact Pl 4<|ce R true (by rw[q];rfl)
 have aF:=aj q
 exact Pl 1<|L1<|aO B 16<|Pl 2<|ce R (((ak.mk b false 0).byteV)==14) (by rw[q];rfl)
 have S:=ud aB aE g
 refine L0<|Oc<|m2 (be (((((ak.mk b false 0).byteV)==13)||(((ak.mk b false 0).byteV)==14))) 8 (al.old aw S)) fun bj aH T=>?_
 refine ab aH fun x45 t u=>?_
 refine nt<|sq<|sg<|Pl 1<|?_
 have d:=nb (al.lt P) f.size g
 have C:=aW T (Ne.symm d) B
 refine L0<|aO C 16<|Pl 1<|nt<|?_
 have k:=ud j (u1 f (uz S T) im) a
 have U:=aD i k
 refine cb ((((ak.mk b false 0).byteV)==13)) (fun r=>?_) (fun r=>?_)
 have aI:=ah r
 refine sg<|Pl 2<|L0<|Oc<|mq (eC u)<|?_
 have bm:=al.len u
 refine Pl 1<|L0<|Oc<|m2 (be ((decide (((x45.l.length:Nat) : Int)≤251))) 5 u) fun bo aJ aK=>?_
 refine ab aJ fun x59 V v=>?_
 refine nt<|go<|Pl 2<|L0<|Oc<|mq (eC v)<|?_
 have bp:=al.len v
 refine L0<|Oc<|tL (cE (n:=((x59.l.length:Nat) : Int)) v) fun W X bq Y bt bu aM aN=>?_
 have bv:=Nat.le_trans (ak.bytesR_le x59 ((x59.l.length:Nat) : Int)) (al.len v)
 refine ab aM fun x69 Z D=>?_
 refine Pl 1<|?_
 have x:=u1 aK aN im
 have y:=aW x (Ne.symm d) C
 refine L0<|bX y 14 (mG c 0 0 0 0 0 0 0 0 0 0 0 nS nS (.slice W ((x59.bytesR ((x59.l.length:Nat) : Int)).length) X) nS ((ak.mk b false 0).byteV) 0 0 0 0 nS) fun bw aQ a0=>ng<|Pl 1<|?_
 refine L0<|Oc<|m2 (ck (al.upd D a0 (aa d az) (aq (aU y (by decide)) aG))) fun bx a1 a2=>nt<|sq<|sg<|Pl 1<|L0<|Oc<|mq (bC a1)<|?_
 have bA:=al.len a1
 refine Pl 1<|ng<|Pl 2<|nt<|?_
 have E:=us a0 a2
 have F:=ui x E
 have a3:=ut U F (ac (ni (le (le i.size j.size) f.size) g) (ac (ni i.size a) ay))
 have hs:ai bD 0 c b=b6 (aP.mk c 0 0 0 0 0 0 0 0 0 0 0 [] [] (((((ak.mk b false 0).bytesC 1).need ((((ak.mk b false 0).byteV)==13)||(((ak.mk b false 0).byteV)==14)) 8).need (decide ((((((ak.mk b false 0).bytesC 1).need ((((ak.mk b false 0).byteV)==13)||(((ak.mk b false 0).byteV)==14)) 8).l.length:Nat) : Int)≤251)) 5).bytesR ((((((ak.mk b false 0).bytesC 1).need ((((ak.mk b false 0).byteV)==13)||(((ak.mk b false 0).byteV)==14)) 8).need (decide ((((((ak.mk b false 0).bytesC 1).need ((((ak.mk b false 0).byteV)==13)||(((ak.mk b false 0).byteV)==14)) 8).l.length:Nat) : Int)≤251)) 5).l.length:Nat) : Int)) [] ((ak.mk b false 0).byteV) 0 0 0 0 []) (((((ak.mk b false 0).bytesC 1).need ((((ak.mk b false 0).byteV)==13)||(((ak.mk b false 0).byteV)==14)) 8).need (decide ((((((ak.mk b false 0).bytesC 1).need ((((ak.mk b false 0).byteV)==13)||(((ak.mk b false 0).byteV)==14)) 8).l.length:Nat) : Int)≤251)) 5).bytesC ((((((ak.mk b false 0).bytesC 1).need ((((ak.mk b false 0).byteV)==13)||(((ak.mk b false 0).byteV)==14)) 8).need (decide ((((((ak.mk b false 0).bytesC 1).need ((((ak.mk b false 0).byteV)==13)||(((ak.mk b false 0).byteV)==14)) 8).l.length:Nat) : Int)≤251)) 5).l.length:Nat) : Int)):=by
   unfold ai bD fF ek dB
   (try simp only[o,r,bs,if_true,if_false,decide_true,decide_false,eq_self,true_or,or_true,or_false,false_or,if_true,if_false,dE,dC,dD,dF,reduceIte])
   all_goals rfl
 refine cb ((x69.endC.e != 0)) (fun G=>?_) (fun G=>?_)
 have H:=ax G
 refine sg<|Pl 2<|?_
 refine L0<|b7 (ub (ut k F (ac (ni (le j.size f.size) g) (ac (nr a) ay))) h) mZ fun bB aR a4=>Pl 1<|nt<|rt<|tr<|bJ aR (.int .i64 x69.endC.e)<|?_
 subst Z V t
 have bF:=b9.upd' Y (u1 (aC.mono (S':=[Q,O,N]) E (ac im (ac im ay))) a4 im) (aq (aU y (by decide)) (aq (al.safe D _ (by decide)) (aq (aU (ub (ud k x a) h) (by decide)) aG)))
 rw[hs]
 exact bz H (ud a3 a4 p)
 have H:=ag G
 refine bf<|sg<|?_
 refine L0<|bO (aW a2 (Ne.symm d) aQ)<|?_
 refine L0<|b7 (ub (ut k F (ac (ni (le j.size f.size) g) (ac (nr a) ay))) h) (mG c 0 0 0 0 0 0 0 0 0 0 0 nS nS (.slice W ((x59.bytesR ((x59.l.length:Nat) : Int)).length) X) nS ((ak.mk b false 0).byteV) 0 0 0 0 nS) fun bG aS a5=>Pl 1<|nt<|rt<|bJ aS (.int .i64 0)<|?_
 subst Z V t
 rw[hs]
 exact bE H ⟨_,_,_,_,_,rfl,aL.nil ..,aL.nil ..,(b9.upd' Y (u1 (aC.mono (S':=[Q,O,N]) E (ac im (ac im ay))) a5 im) (aq (aU y (by decide)) (aq (al.safe D _ (by decide)) (aq (aU (ub (ud k x a) h) (by decide)) aG)))),aL.nil ..,aL.nil ..,(cj (by omega))⟩ (ud a3 a5 p)
 have aI:=aj r
 refine sg<|Pl 1<|L0<|Oc<|m3 (bY u) fun bI aT a6 bK=>Pl 1<|?_
 have a7:=aW a6 (Ne.symm d) C
 refine L0<|bX a7 17 (mG c 0 0 0 0 0 0 0 0 0 0 0 nS nS nS nS ((ak.mk b false 0).byteV) x45.byteV 0 0 0 nS) fun bL I a8=>ng<|Pl 2<|L0<|aO I 17<|Pl 2<|cu 4 [59] 63 (((decide (1≤x45.byteV))&&(decide (x45.byteV≤4)))) (fun K a9=>?_) ?_
 refine bl 59 ((decide (1≤x45.byteV))) (fun s=>?_) (fun s=>?_)
 have aV:=of_decide_eq_true s
 exact Pl 1<|L1<|aO I 17<|Pl 2<|ce a9 (decide (x45.byteV≤4)) (by rw[s];rfl)
 have aV:=of_decide_eq_false s
 exact Pl 4<|ce a9 false (by rw[s];rfl)
 refine L0<|Oc<|m2 (be (((decide (1≤x45.byteV))&&(decide (x45.byteV≤4)))) 6 (al.upd aT a8 (aa d az) (aq (aU a7 (by decide)) aG))) fun bM aX aY=>?_
 refine ab aX fun z ad aZ=>?_
 refine ng<|Pl 2<|nt<|c0<|go<|Pl 1<|L0<|Oc<|m3 (bY aZ) fun bN b0 b1 bP=>Pl 1<|?_
 have ae:=u1 aY b1 im
 have af:=aW ae (Ne.symm d) I
 refine L0<|bX af 20 (mG c 0 0 0 0 0 0 0 0 0 0 0 nS nS nS nS ((ak.mk b false 0).byteV) x45.byteV 0 0 z.byteV nS) fun bQ b2 am=>ng<|Pl 1<|?_
 refine L0<|Oc<|m2 (ck (al.upd b0 am (aa d az) (aq (aU af (by decide)) aG))) fun bR an ao=>nt<|sq<|sg<|Pl 1<|L0<|Oc<|mq (bC an)<|?_
 have bS:=al.len an
 refine Pl 1<|ng<|Pl 2<|nt<|?_
 have J:=ui a6 (ui a8 (ui ae (us am ao)))
 have ap:=ut U J (ac (ni (le (le i.size j.size) f.size) g) (ac (ni i.size a) ay))
 have hs:ai bD 0 c b=b6 (aP.mk c 0 0 0 0 0 0 0 0 0 0 0 [] [] [] [] ((ak.mk b false 0).byteV) ((((ak.mk b false 0).bytesC 1).need ((((ak.mk b false 0).byteV)==13)||(((ak.mk b false 0).byteV)==14)) 8).byteV) 0 0 ((((((ak.mk b false 0).bytesC 1).need ((((ak.mk b false 0).byteV)==13)||(((ak.mk b false 0).byteV)==14)) 8).bytesC 1).need ((decide (1≤(((ak.mk b false 0).bytesC 1).need ((((ak.mk b false 0).byteV)==13)||(((ak.mk b false 0).byteV)==14)) 8).byteV))&&(decide ((((ak.mk b false 0).bytesC 1).need ((((ak.mk b false 0).byteV)==13)||(((ak.mk b false 0).byteV)==14)) 8).byteV≤4))) 6).byteV) []) ((((((ak.mk b false 0).bytesC 1).need ((((ak.mk b false 0).byteV)==13)||(((ak.mk b false 0).byteV)==14)) 8).bytesC 1).need ((decide (1≤(((ak.mk b false 0).bytesC 1).need ((((ak.mk b false 0).byteV)==13)||(((ak.mk b false 0).byteV)==14)) 8).byteV))&&(decide ((((ak.mk b false 0).bytesC 1).need ((((ak.mk b false 0).byteV)==13)||(((ak.mk b false 0).byteV)==14)) 8).byteV≤4))) 6).bytesC 1):=by
   unfold ai bD fF ek dB
   (try simp only[o,r,bs,if_true,if_false,decide_true,decide_false,eq_self,true_or,or_true,or_false,false_or,if_true,if_false,dE,dC,dD,dF,reduceIte])
   all_goals rfl
 refine cb (((((z.bytesC 1).endC).e)!=0)) (fun L=>?_) (fun L=>?_)
 have M:=ax L
 refine sg<|Pl 2<|?_
 refine L0<|b7 (ub (ut k J (ac (ni (le j.size f.size) g) (ac (nr a) ay))) h) mZ fun bT b3 b4=>Pl 1<|nt<|rt<|tr<|bJ b3 (.int .i64 (((z.bytesC 1).endC).e))<|?_
 subst ad t
 rw[hs]
 exact bz M (ud ap b4 p)
 have M:=ag L
 refine bf<|sg<|?_
 refine L0<|bO (aW ao (Ne.symm d) b2)<|?_
 refine L0<|b7 (ub (ut k J (ac (ni (le j.size f.size) g) (ac (nr a) ay))) h) (mG c 0 0 0 0 0 0 0 0 0 0 0 nS nS nS nS ((ak.mk b false 0).byteV) x45.byteV 0 0 z.byteV nS) fun bU b5 b8=>Pl 1<|nt<|rt<|bJ b5 (.int .i64 0)<|?_
 subst ad t
 rw[hs]
 exact bE M ⟨_,_,_,_,_,rfl,aL.nil ..,aL.nil ..,aL.nil ..,aL.nil ..,aL.nil ..,(cj (by omega))⟩ (ud ap b8 p)
theorem oI{m:Md}{A:Option Addr}{cp:Nat}{b:List Int}{w:World}{c:Int}(hcode:B8 c)(hsl:b9 m w (.slice A b.length cp) b)(hb:b.length≤1048576) :
    Calls Tryz.prog 146 #[.int .i64 1,.int .u8 c,.slice A b.length cp] w (dX (ai bD 1 c b) w):=by
 obtain⟨hcode1,hcode2⟩:=hcode
 have hln:(b.length:Int)≤1048576:=by omega
 refine en 81 Tryz.func146 rfl<|sg<|L0<|bH mZ fun S bh p h k=>Pl 1<|nt<|sq<|bk<|sg<|Pl 7<|nt<|?_
 refine c0<|sg<|Pl 3<|nt<|cb ((c != 43)) (fun o=>?_) (fun o=>?_)
 have aA:=ax o
 refine sg<|Pl 1<|L0<|b7 h mZ fun bi aB aE=>Pl 1<|nt<|rt<|br<|tr<|bJ aB (.int .i64 4)<|?_
 have hs:ai bD 1 c b=(aP.zero,4):=by
   unfold ai bD fF ek dB
   (try simp only[o,bs,if_true,if_false,decide_true,decide_false,eq_self,true_or,or_true,or_false,false_or,if_true,if_false,dE,dC,dD,dF,reduceIte])
   all_goals rfl
 rw[hs]
 exact cA (ud k aE p)
 have aA:=ag o
 refine sk<|bn<|tn<|sg<|Pl 1<|?_
 refine L0<|Oc<|e3 (ec (b9.old hsl k) (by omega)) fun T bj a U i=>Pl 1<|ng<|Pl 2<|L0<|Oc<|m3 (bY U) fun bm aF d bo=>Pl 1<|L0<|bH mZ fun V bp f aJ aK=>L0<|b7 aJ (mG c 0 0 0 0 0 0 0 0 0 0 0 nS nS nS nS ((ak.mk b false 0).byteV) 0 0 0 0 nS) fun bq B aM=>nt<|sq<|?_
 refine go<|Pl 2<|L0<|aO B 16<|Pl 2<|cu 4 [33] 37 (((((ak.mk b false 0).byteV)==13)||(((ak.mk b false 0).byteV)==14))) (fun K W=>?_) ?_
 refine bl 33 ((((ak.mk b false 0).byteV)==13)) (fun q=>?_) (fun q=>?_)
 have aN:=ah q
 exact Pl 4<|ce W true (by rw[q];rfl)
 have aN:=aj q
 exact Pl 1<|L1<|aO B 16<|Pl 2<|ce W (((ak.mk b false 0).byteV)==14) (by rw[q];rfl)
 have X:=ud aK aM f
 refine L0<|Oc<|m2 (be (((((ak.mk b false 0).byteV)==13)||(((ak.mk b false 0).byteV)==14))) 8 (al.old aF X)) fun bt aQ Y=>?_
 refine ab aQ fun x45 t u=>?_
 refine nt<|sq<|sg<|Pl 1<|?_
 have g:=nb (al.lt U) d.size f
 have C:=aW Y (Ne.symm g) B
 refine L0<|aO C 16<|Pl 1<|nt<|?_
 have j:=ud i (u1 d (uz X Y) im) a
 have Z:=aD k j
 refine cb ((((ak.mk b false 0).byteV)==13)) (fun r=>?_) (fun r=>?_)
 have aR:=ah r
 refine sg<|Pl 2<|L0<|Oc<|mq (eC u)<|?_
 have bu:=al.len u
 refine Pl 1<|L0<|Oc<|m2 (be ((decide (((x45.l.length:Nat) : Int)≤251))) 5 u) fun bv aS aT=>?_
 refine ab aS fun x59 a0 v=>?_
 refine nt<|go<|Pl 2<|L0<|Oc<|mq (eC v)<|?_
 have bw:=al.len v
 refine L0<|Oc<|tL (cE (n:=((x59.l.length:Nat) : Int)) v) fun a1 a2 bx a3 bA bB aV aX=>?_
 have bF:=Nat.le_trans (ak.bytesR_le x59 ((x59.l.length:Nat) : Int)) (al.len v)
 refine ab aV fun x69 a4 D=>?_
 refine Pl 1<|?_
 have x:=u1 aT aX im
 have y:=aW x (Ne.symm g) C
 refine L0<|bX y 14 (mG c 0 0 0 0 0 0 0 0 0 0 0 nS nS (.slice a1 ((x59.bytesR ((x59.l.length:Nat) : Int)).length) a2) nS ((ak.mk b false 0).byteV) 0 0 0 0 nS) fun bG aY a5=>ng<|Pl 1<|?_
 refine L0<|Oc<|m2 (ck (al.upd D a5 (aa g az) (aq (aU y (by decide)) aG))) fun bI a6 a7=>nt<|sq<|sg<|Pl 1<|L0<|Oc<|mq (bC a6)<|?_
 have bK:=al.len a6
 refine Pl 1<|ng<|Pl 2<|nt<|?_
 have E:=us a5 a7
 have F:=ui x E
 have a8:=ut Z F (ac (ni (le (le k.size i.size) d.size) f) (ac (ni k.size a) ay))
 have hs:ai bD 1 c b=b6 (aP.mk c 0 0 0 0 0 0 0 0 0 0 0 [] [] (((((ak.mk b false 0).bytesC 1).need ((((ak.mk b false 0).byteV)==13)||(((ak.mk b false 0).byteV)==14)) 8).need (decide ((((((ak.mk b false 0).bytesC 1).need ((((ak.mk b false 0).byteV)==13)||(((ak.mk b false 0).byteV)==14)) 8).l.length:Nat) : Int)≤251)) 5).bytesR ((((((ak.mk b false 0).bytesC 1).need ((((ak.mk b false 0).byteV)==13)||(((ak.mk b false 0).byteV)==14)) 8).need (decide ((((((ak.mk b false 0).bytesC 1).need ((((ak.mk b false 0).byteV)==13)||(((ak.mk b false 0).byteV)==14)) 8).l.length:Nat) : Int)≤251)) 5).l.length:Nat) : Int)) [] ((ak.mk b false 0).byteV) 0 0 0 0 []) (((((ak.mk b false 0).bytesC 1).need ((((ak.mk b false 0).byteV)==13)||(((ak.mk b false 0).byteV)==14)) 8).need (decide ((((((ak.mk b false 0).bytesC 1).need ((((ak.mk b false 0).byteV)==13)||(((ak.mk b false 0).byteV)==14)) 8).l.length:Nat) : Int)≤251)) 5).bytesC ((((((ak.mk b false 0).bytesC 1).need ((((ak.mk b false 0).byteV)==13)||(((ak.mk b false 0).byteV)==14)) 8).need (decide ((((((ak.mk b false 0).bytesC 1).need ((((ak.mk b false 0).byteV)==13)||(((ak.mk b false 0).byteV)==14)) 8).l.length:Nat) : Int)≤251)) 5).l.length:Nat) : Int)):=by
   unfold ai bD fF ek dB
   (try simp only[o,r,bs,if_true,if_false,decide_true,decide_false,eq_self,true_or,or_true,or_false,false_or,if_true,if_false,dE,dC,dD,dF,reduceIte])
   all_goals rfl
 refine cb ((x69.endC.e != 0)) (fun G=>?_) (fun G=>?_)
 have H:=ax G
 refine sg<|Pl 2<|?_
 refine L0<|b7 (ub (ut j F (ac (ni (le i.size d.size) f) (ac (nr a) ay))) h) mZ fun bL aZ a9=>Pl 1<|nt<|rt<|tr<|bJ aZ (.int .i64 x69.endC.e)<|?_
 subst a4 a0 t
 have bM:=b9.upd' a3 (u1 (aC.mono (S':=[V,T,S]) E (ac im (ac im ay))) a9 im) (aq (aU y (by decide)) (aq (al.safe D _ (by decide)) (aq (aU (ub (ud j x a) h) (by decide)) aG)))
 rw[hs]
 exact bz H (ud a8 a9 p)
 have H:=ag G
 refine bf<|sg<|?_
 refine L0<|bO (aW a7 (Ne.symm g) aY)<|?_
 refine L0<|b7 (ub (ut j F (ac (ni (le i.size d.size) f) (ac (nr a) ay))) h) (mG c 0 0 0 0 0 0 0 0 0 0 0 nS nS (.slice a1 ((x59.bytesR ((x59.l.length:Nat) : Int)).length) a2) nS ((ak.mk b false 0).byteV) 0 0 0 0 nS) fun bN b0 ad=>Pl 1<|nt<|rt<|bJ b0 (.int .i64 0)<|?_
 subst a4 a0 t
 rw[hs]
 exact bE H ⟨_,_,_,_,_,rfl,aL.nil ..,aL.nil ..,(b9.upd' a3 (u1 (aC.mono (S':=[V,T,S]) E (ac im (ac im ay))) ad im) (aq (aU y (by decide)) (aq (al.safe D _ (by decide)) (aq (aU (ub (ud j x a) h) (by decide)) aG)))),aL.nil ..,aL.nil ..,(cj (by omega))⟩ (ud a8 ad p)
 have aR:=aj r
 refine sg<|Pl 1<|L0<|Oc<|m3 (bY u) fun bP b1 I bQ=>Pl 1<|?_
 have ae:=aW I (Ne.symm g) C
 refine L0<|bX ae 17 (mG c 0 0 0 0 0 0 0 0 0 0 0 nS nS nS nS ((ak.mk b false 0).byteV) x45.byteV 0 0 0 nS) fun bR J L=>ng<|Pl 2<|L0<|aO J 17<|Pl 2<|cu 4 [59] 63 (((decide (1≤x45.byteV))&&(decide (x45.byteV≤4)))) (fun K af=>?_) ?_
 refine bl 59 ((decide (1≤x45.byteV))) (fun s=>?_) (fun s=>?_)
 have b2:=of_decide_eq_true s
 exact Pl 1<|L1<|aO J 17<|Pl 2<|ce af (decide (x45.byteV≤4)) (by rw[s];rfl)
 have b2:=of_decide_eq_false s
 exact Pl 4<|ce af false (by rw[s];rfl)
 refine L0<|Oc<|m2 (be (((decide (1≤x45.byteV))&&(decide (x45.byteV≤4)))) 6 (al.upd b1 L (aa g az) (aq (aU ae (by decide)) aG))) fun bS b3 M=>?_
 refine ab b3 fun bT am b4=>?_
 refine ng<|Pl 2<|nt<|c1<|go<|Pl 1<|?_
 refine L0<|Oc<|m3 (qC (c:=c) (me:=(ak.mk b false 0).byteV) (kd:=x45.byteV) ⟨hcode1,hcode2⟩ (b8 (by omega)) (b8 (by omega)) b4 (aW M (Ne.symm g) J) g) fun bU an b5 ao=>?_
 obtain⟨ba,z,N⟩:=b5
 refine ng<|Pl 1<|L0<|Oc<|m2 (ck an) fun bV bb O=>?_
 refine ab bb fun ap ar au=>?_
 refine nt<|sq<|sg<|Pl 1<|L0<|Oc<|mq (bC au)<|?_
 have bW:=al.len au
 refine Pl 1<|ng<|Pl 2<|nt<|?_
 have P:=ui I (ui L (ui M (u1 ao O im)))
 have av:=ut Z P (ac (ni k.size a) (ac (ni (le (le k.size i.size) d.size) f) ay))
 have hs:ai bD 1 c b=b6 ({ aP.zero with code:=c,mei:=(ak.mk b false 0).byteV,kind:=(((ak.mk b false 0).bytesC 1).need ((((ak.mk b false 0).byteV)==13)||(((ak.mk b false 0).byteV)==14)) 8).byteV,level:=(((((ak.mk b false 0).bytesC 1).need ((((ak.mk b false 0).byteV)==13)||(((ak.mk b false 0).byteV)==14)) 8).bytesC 1).need ((decide (1≤(((ak.mk b false 0).bytesC 1).need ((((ak.mk b false 0).byteV)==13)||(((ak.mk b false 0).byteV)==14)) 8).byteV))&&(decide ((((ak.mk b false 0).bytesC 1).need ((((ak.mk b false 0).byteV)==13)||(((ak.mk b false 0).byteV)==14)) 8).byteV≤4))) 6).byteV,more:=(kK (((((ak.mk b false 0).bytesC 1).need ((((ak.mk b false 0).byteV)==13)||(((ak.mk b false 0).byteV)==14)) 8).bytesC 1).need ((decide (1≤(((ak.mk b false 0).bytesC 1).need ((((ak.mk b false 0).byteV)==13)||(((ak.mk b false 0).byteV)==14)) 8).byteV))&&(decide ((((ak.mk b false 0).bytesC 1).need ((((ak.mk b false 0).byteV)==13)||(((ak.mk b false 0).byteV)==14)) 8).byteV≤4))) 6)).byteV,next:=(kL (((((ak.mk b false 0).bytesC 1).need ((((ak.mk b false 0).byteV)==13)||(((ak.mk b false 0).byteV)==14)) 8).bytesC 1).need ((decide (1≤(((ak.mk b false 0).bytesC 1).need ((((ak.mk b false 0).byteV)==13)||(((ak.mk b false 0).byteV)==14)) 8).byteV))&&(decide ((((ak.mk b false 0).bytesC 1).need ((((ak.mk b false 0).byteV)==13)||(((ak.mk b false 0).byteV)==14)) 8).byteV≤4))) 6)).byteV,objects:=(dT (((ak.mk b false 0).bytesC 1).need ((((ak.mk b false 0).byteV)==13)||(((ak.mk b false 0).byteV)==14)) 8).byteV (((((ak.mk b false 0).bytesC 1).need ((((ak.mk b false 0).byteV)==13)||(((ak.mk b false 0).byteV)==14)) 8).bytesC 1).need ((decide (1≤(((ak.mk b false 0).bytesC 1).need ((((ak.mk b false 0).byteV)==13)||(((ak.mk b false 0).byteV)==14)) 8).byteV))&&(decide ((((ak.mk b false 0).bytesC 1).need ((((ak.mk b false 0).byteV)==13)||(((ak.mk b false 0).byteV)==14)) 8).byteV≤4))) 6)).2 }) ((dT (((ak.mk b false 0).bytesC 1).need ((((ak.mk b false 0).byteV)==13)||(((ak.mk b false 0).byteV)==14)) 8).byteV (((((ak.mk b false 0).bytesC 1).need ((((ak.mk b false 0).byteV)==13)||(((ak.mk b false 0).byteV)==14)) 8).bytesC 1).need ((decide (1≤(((ak.mk b false 0).bytesC 1).need ((((ak.mk b false 0).byteV)==13)||(((ak.mk b false 0).byteV)==14)) 8).byteV))&&(decide ((((ak.mk b false 0).bytesC 1).need ((((ak.mk b false 0).byteV)==13)||(((ak.mk b false 0).byteV)==14)) 8).byteV≤4))) 6)).1):=by
   unfold ai bD fF ek dB
   (try simp only[o,r,bs,if_true,if_false,decide_true,decide_false,eq_self,true_or,or_true,or_false,false_or,if_true,if_false,dE,dC,dD,dF,reduceIte])
   all_goals rfl
 refine cb ((ap.e != 0)) (fun Q=>?_) (fun Q=>?_)
 have R:=ax Q
 refine sg<|Pl 2<|?_
 refine L0<|b7 (ub (ut j P (ac (nr a) (ac (ni (le i.size d.size) f) ay))) h) mZ fun bZ bc bd=>Pl 1<|nt<|rt<|tr<|bJ bc (.int .i64 ap.e)<|?_
 subst ar am t
 rw[hs]
 exact bz R (ud av bd p)
 have R:=ag Q
 refine bf<|sg<|?_
 refine L0<|bO (hz:=(by rw[z.2];exact aI)) (aW O (Ne.symm g) z.1)<|?_
 refine L0<|b7 (hz:=(by rw[z.2];exact aI)) (hv:=N.size) (h1:=N.one) (ub (ut j P (ac (nr a) (ac (ni (le i.size d.size) f) ay))) h) (ba) fun c2 bg aw=>Pl 1<|nt<|rt<|eJ 22 z.2 bg (.int .i64 0)<|?_
 subst ar am t
 rw[hs]
 exact bE R (aH.upd N (us O aw) (aq (al.safe an _ (by decide)) (aq (aU (ub (ut j (ui I (ui L (ui M ao))) (ac (nr a) (ac (ni (le i.size d.size) f) ay))) h) (by decide)) aG))) (ud av aw p)
theorem pu{m:Md}{A:Option Addr}{cp:Nat}{b:List Int}{w:World}{dir c:Int}(hcode:B8 c)(hsl:b9 m w (.slice A b.length cp) b)(hb:b.length≤1048576)(hd:¬ (dir=0∨dir=1)) :
    Calls Tryz.prog 146 #[.int .i64 dir,.int .u8 c,.slice A b.length cp] w (dX (ai bD dir c b) w):=by
 obtain⟨hcode1,hcode2⟩:=hcode
 have hln:(b.length:Int)≤1048576:=by omega
 have e0:(dir != 0)=true:=by simp;omega
 have e1:(dir != 1)=true:=by simp;omega
 refine en 81 Tryz.func146 rfl<|sg<|L0<|bH mZ fun g h a d e=>Pl 1<|nt<|sq<|bk<|sg<|Pl 3<|sy 14 e0<|Pl 4<|nl<|?_
 refine tn<|ct e1<|sg<|Pl 1<|L0<|b7 d mZ fun i dp f=>Pl 1<|nt<|rt<|br<|tr<|bJ dp (.int .i64 1)<|?_
 have hs:ai bD dir c b=(aP.zero,1):=by
   unfold ai bD fF ek dB
   (try simp only[e0,e1,bs,if_true,if_false,decide_true,decide_false,eq_self,true_or,or_true,or_false,false_or,if_true,if_false,dE,dC,dD,dF,reduceIte,hd])
   all_goals rfl
 rw[hs]
 exact cA (ud e f a)
theorem nq{m:Md}{v:Value}{b:List Int}{w:World}{dir c:Int}(hc:B8 c)(h:b9 m w v b)(hb:b.length≤1048576) :
    Calls Tryz.prog 146 #[.int .i64 dir,.int .u8 c,v] w (dX (ai bD dir c b) w):=by
  obtain⟨A,cp,rfl,_,_⟩:=h.shape
  by_cases h0:dir=0
  · subst h0;exact oz hc h hb
  by_cases h1:dir=1
  · subst h1;exact oI hc h hb
  exact pu hc h hb (by omega)
open Go.RowKit
def ig (C:ak) : ak:=(C.bytesC 1).need (C.byteV==6) 9
def iO (C:ak) : ak:=((ig C).wordsC 1).need ((ig C).wordV != 0) 6
def mc (C:ak) : ak:=((iO C).wordsC 1).need (decide ((iO C).wordV≤9999)) 7
def dw (C:ak) : ak:=((mc C).wordsC 1).need ((mc C).wordV != 0) 5
def aQ (C:ak) : dj:=⟨(ig C).wordV,(iO C).wordV,(mc C).wordV,[]⟩
def eK (s:Int)(C:ak) : Int:=s+(2+2*(mc C).wordV)
def eH (s:Int)(C:ak) : ak:=(dw C).need (decide (eK s C≤245)) 5
def ia (C:ak) : ak:=(C.bytesC 1).need ((C.byteV%2==1&&decide (3≤C.byteV))&&decide (C.byteV≤((C.bytesC 1).l.length:Int))) 5
def fM (C:ak) : ak:=((ia C).bytesC 1).need ((ia C).byteV==6) 9
def eN (C:ak) : ak:=(fM C).wordsC (Int.tdiv (C.byteV-1) 2)
def eO (C:ak) : dj:=⟨0,0,0,(fM C).wordsR (Int.tdiv (C.byteV-1) 2)⟩
def mz (C:ak) : ak:=(dw C).need (decide (2*(mc C).wordV≤((dw C).l.length:Int))) 5
def jb (C:ak) : ak:=(mz C).wordsC (mc C).wordV
def j5 (C:ak) : dj:=⟨(ig C).wordV,(iO C).wordV,(mc C).wordV,(mz C).wordsR (mc C).wordV⟩
def yd (g:Nat)(C':ak)(r:dj)(w:World)(e:Ending)(w':World) : Prop:=∃ A c,e = .returned (.agg #[.int .u16 r.file,.int .u16 r.record,.int .u16 r.count,.slice A r.words.length c])∧dU true w' (.slice A r.words.length c) r.words∧dp r.file∧dp r.record∧dp r.count∧al w' g C'∧aC [g] w w'
theorem pk{g:Nat}{C:ak}{w:World}(hC:al w g C) : Calls Tryz.prog 251 #[.pointer (some ⟨g,0,none⟩)] w (yd g (dw C) (aQ C) w):=by
 have hlen:=hC.len
 refine en 34 Tryz.func251 rfl<|sg<|L0<|bH #[.int .u16 0,.int .u16 0,.int .u16 0,.slice none 0 0] fun Z a0 c B b=>ng<|Pl 2<|?_
 refine L0<|Oc<|m3 (bY (al.old hC b)) fun a1 D d a2=>Pl 1<|L0<|Oc<|m2 (be ((C.byteV==6)) 9 D) fun a3 E e=>?_
 refine ab E fun gh F G=>?_
 refine ng<|L0<|bH #[.int .u16 0,.int .u16 0,.int .u16 0,.slice none 0 0] fun a4 a5 f H h=>ng<|Pl 1<|?_
 refine L0<|Oc<|m3 (ci (al.old G h)) fun a6 I i a7=>Pl 1<|?_
 have a:=nb (al.lt hC) (le (le b.size d.size) e.size) f
 have j:=aW i (Ne.symm a) H
 refine L0<|bX j 0 #[.int .u16 gh.wordV,.int .u16 0,.int .u16 0,.slice none 0 0] fun a8 k l=>ng<|Pl 2<|L0<|aO k 0<|Pl 1<|?_
 refine L0<|Oc<|m2 (be ((gh.wordV != 0)) 6 (al.upd I l (aa a az) (aq (aU j (by decide)) aG))) fun a9 J K=>?_
 refine ab J fun x45 L M=>?_
 refine ng<|Pl 1<|L0<|Oc<|m3 (ci M) fun ac N O ad=>Pl 1<|?_
 have m:=u1 K O im
 have n:=aW m (Ne.symm a) k
 refine L0<|bX n 1 #[.int .u16 gh.wordV,.int .u16 x45.wordV,.int .u16 0,.slice none 0 0] fun ae o p=>ng<|Pl 2<|L0<|aO o 1<|Pl 1<|?_
 refine L0<|Oc<|m2 (be ((decide (x45.wordV≤9999))) 7 (al.upd N p (aa a az) (aq (aU n (by decide)) aG))) fun af P Q=>?_
 refine ab P fun x61 R S=>?_
 refine ng<|Pl 1<|L0<|Oc<|m3 (ci S) fun ag T U ah=>Pl 1<|?_
 have q:=u1 Q U im
 have r:=aW q (Ne.symm a) o
 refine L0<|bX r 2 #[.int .u16 gh.wordV,.int .u16 x45.wordV,.int .u16 x61.wordV,.slice none 0 0] fun ai s t=>ng<|Pl 2<|L0<|aO s 2<|Pl 1<|?_
 refine L0<|Oc<|m2 (be ((x61.wordV != 0)) 5 (al.upd T t (aa a az) (aq (aU r (by decide)) aG))) fun aj V u=>?_
 refine ab V fun x77 W X=>?_
 refine ng<|?_
 refine L0<|bO (aW u (Ne.symm a) s)<|?_
 have v:=u1 d (u1 e (ud h (ui i (ui l (ui m (ui p (ui q (us t u)))))) f) im) im
 have y:=nb (al.lt hC) lr c
 have z:=aW v (Ne.symm y) B
 refine L0<|b7 z #[.int .u16 gh.wordV,.int .u16 x45.wordV,.int .u16 x61.wordV,.slice none 0 0] fun am Y A=>nt<|rt<|yn Y<|?_
 subst W R L F
 exact⟨_,_,rfl,aL.nil ..,ez (x:=((C.bytesC 1).need (C.byteV==6) 9).wordV) (by omega),ez (x:=((((C.bytesC 1).need (C.byteV==6) 9).wordsC 1).need (((C.bytesC 1).need (C.byteV==6) 9).wordV != 0) 6).wordV) (by omega),ez (x:=((((((C.bytesC 1).need (C.byteV==6) 9).wordsC 1).need (((C.bytesC 1).need (C.byteV==6) 9).wordV != 0) 6).wordsC 1).need (decide (((((C.bytesC 1).need (C.byteV==6) 9).wordsC 1).need (((C.bytesC 1).need (C.byteV==6) 9).wordV != 0) 6).wordV≤9999)) 7).wordV) (by omega),(al.upd X A (aa y az) (aq (aU z (by decide)) aG)),(ue b (us v A) c)⟩
theorem tb{g:Nat}{C:ak}{w:World}(hC:al w g C) : Calls Tryz.prog 254 #[.pointer (some ⟨g,0,none⟩)] w (yd g (eN C) (eO C) w):=by
 have hlen:=hC.len
 refine en 33 Tryz.func254 rfl<|sg<|L0<|bH #[.int .u16 0,.int .u16 0,.int .u16 0,.slice none 0 0] fun R S f i j=>ng<|Pl 1<|?_
 refine L0<|Oc<|m3 (bY (al.old hC j)) fun T c k U=>L0<|Oi C.byteV<|Pl 1<|ng<|Pl 2<|L0<|Oe (.int .i64 (Int.tmod C.byteV 2)) (.int .i64 (C.byteV%2)) (congrArg (Value.int .i64) (Int.tmod_eq_emod_of_nonneg (by omega)))<|Pl 2<|cu 3 [11] 14 ((((C.byteV%2)==1)&&(decide (3≤C.byteV)))) (fun K m=>?_) ?_
 refine bl 11 (((C.byteV%2)==1)) (fun a=>?_) (fun a=>?_)
 have y:=ah a
 exact Pl 3<|ce m (decide (3≤C.byteV)) (by rw[a];rfl)
 have y:=aj a
 exact Pl 3<|ce m false (by rw[a];rfl)
 refine Pl 1<|cu 5 [15] 20 (((((C.byteV%2)==1)&&(decide (3≤C.byteV)))&&(decide (C.byteV≤(((C.bytesC 1).l.length:Nat) : Int))))) (fun K o=>?_) ?_
 refine bl 15 ((((C.byteV%2)==1)&&(decide (3≤C.byteV)))) (fun b=>?_) (fun b=>?_)
 have z:=(aT b).1
 have A:=(aT b).2
 have V:=ah z
 have W:=of_decide_eq_true A
 refine Pl 2<|L1<|Oc<|mq (eC c)<|?_
 have X:=al.len c
 exact Pl 2<|ce o (decide (C.byteV≤(((C.bytesC 1).l.length:Nat) : Int))) (by rw[b];rfl)
 exact Pl 5<|ce o false (by rw[b];rfl)
 refine L0<|Oc<|m2 (be (((((C.byteV%2)==1)&&(decide (3≤C.byteV)))&&(decide (C.byteV≤(((C.bytesC 1).l.length:Nat) : Int))))) 5 c) fun Y B p=>?_
 refine ab B fun x28 D E=>?_
 refine ng<|Pl 2<|L0<|Oc<|m3 (bY E) fun Z F q a0=>Pl 1<|L0<|Oc<|m2 (be ((x28.byteV==6)) 9 F) fun a1 G r=>?_
 refine ab G fun x38 H I=>?_
 refine ng<|Pl 2<|L0<|Oi (C.byteV-1)<|L0<|Oe (.int .i64 (IntKind.i64.wrap (Int.tdiv (C.byteV-1) 2))) (.int .i64 (Int.tdiv (C.byteV-1) 2)) (congrArg (Value.int .i64) (lL (by omega) (by omega)))<|L0<|Oc<|nW (eo (n:=(Int.tdiv (C.byteV-1) 2)) I) fun J L a2 s a3 a4 M N=>?_
 refine ab M fun x48 O P=>?_
 refine Pl 1<|?_
 have t:=u1 k (u1 p (u1 q (u1 r N im) im) im) im
 have u:=nb (al.lt hC) lr f
 have v:=aW t (Ne.symm u) i
 refine L0<|b7 v #[.int .u16 0,.int .u16 0,.int .u16 0,.slice J ((x38.wordsR (Int.tdiv (C.byteV-1) 2)).length) L] fun a5 Q d=>nt<|rt<|yn Q<|?_
 subst O H D
 exact⟨_,_,rfl,((ap s d (fun x hx=>(aa (fun e=>(aB (am i) (le (le (le k.size p.size) q.size) r.size) s) (e▸hx)) az)) (fun _ _ h=>h))).rd,ez (x:=0) (by omega),ez (x:=0) (by omega),ez (x:=0) (by omega),(al.upd P d (aa u az) (aq (aU v (by decide)) aG)),(ue j (us t d) f)⟩
theorem wd{g:Nat}{C:ak}{w:World}(hC:al w g C) : Calls Tryz.prog 256 #[.pointer (some ⟨g,0,none⟩)] w (yd g (jb C) (j5 C) w):=by
 have hlen:=hC.len
 refine en 22 Tryz.func256 rfl<|sg<|L0<|bH #[.int .u16 0,.int .u16 0,.int .u16 0,.slice none 0 0] fun X Y v f i=>ng<|Pl 1<|?_
 refine L0<|Oc<|yT (pk (al.old hC i)) fun I J Z a0 K L M N c=>?_
 obtain⟨a1,a2⟩:=K
 obtain⟨a3,a4⟩:=L
 obtain⟨a5,a6⟩:=M
 refine L0<|bH #[.int .u16 0,.int .u16 0,.int .u16 0,.slice none 0 0] fun O a7 j y z=>L0<|b7 y #[.int .u16 ((aQ C).file),.int .u16 ((aQ C).record),.int .u16 ((aQ C).count),.slice I ((aQ C).words.length) J] fun a8 P k=>nt<|sq<|Rg 9 (fun w'=>w'.cell? ⟨O,2,none⟩=some (.int .u16 ((aQ C).count))) fun a9 d=>?_
 have m:=ub d P
 refine bi (ae m rfl) fun a=>Rt 0 a<|Rt 1 a<|Rl 2 a (fun _ hs=>hs)<|Rr 3 a (.int .i64 ((aQ C).count)) (fun _ _=>ch (.int .i64 (IntKind.i64.wrap ((aQ C).count))) (by kernel_rfl) (congrArg (Value.int .i64) (i64_in (by omega))))<|Rr 4 a (.int .i64 (2*((aQ C).count))) (fun _ _=>ch (.int .i64 (IntKind.i64.wrap (2*((aQ C).count)))) (by kernel_rfl) (congrArg (Value.int .i64) (IntWalk.i64_in _ (by omega))))<|Rt 5 a<|?_
 have o:=ud z (aD k d) j
 have p:=al.old N o
 refine R0 6 rfl<|Oc<|mq (eC p)<|?_
 have ac:=al.len p
 refine bi (ae m rfl) fun Q=>Rt 7 Q<|R0 8 rfl<|Oc<|m2 (be ((decide ((2*((aQ C).count))≤(((dw C).l.length:Nat) : Int)))) 5 p) fun ad R b=>?_
 refine ab R fun x54 S T=>?_
 have q:=nb (al.lt hC) (le i.size c.size) j
 have r:=aW b (Ne.symm q) m
 refine bi (ae r rfl) fun af=>re<|tn<|sg<|Pl 2<|L0<|aO r 2<|L0<|Oi ((aQ C).count)<|L0<|Oc<|nW (eo (n:=(aQ C).count) T) fun A B ag s ah ai U t=>Pl 1<|?_
 have D:=aW t (Ne.symm q) r
 refine L0<|bX D 3 #[.int .u16 ((aQ C).file),.int .u16 ((aQ C).record),.int .u16 ((aQ C).count),.slice A ((x54.wordsR ((aQ C).count)).length) B] fun aj V E=>ng<|L0<|bO V<|?_
 have F:=u1 c (ue o (ui b (us t E)) j) im
 have u:=nb (al.lt hC) lr v
 refine L0<|b7 (aW F (Ne.symm u) f) #[.int .u16 ((aQ C).file),.int .u16 ((aQ C).record),.int .u16 ((aQ C).count),.slice A ((x54.wordsR ((aQ C).count)).length) B] fun an W G=>nt<|rt<|yn W<|?_
 subst S
 have H:=us E G
 exact⟨_,_,rfl,((ap s H (fun x hx=>(aa (fun e=>(aB (am y) (le (le k.size d.size) b.size) s) (e▸hx)) (aa (fun e=>(aB (am f) (le (le (le (le c.size z.size) k.size) d.size) b.size) s) (e▸hx)) az))) (fun _ _ h=>h))).rd,ez (x:=(aQ C).file) (by omega),ez (x:=(aQ C).record) (by omega),ez (x:=(aQ C).count) (by omega),(al.upd U H (aa q (aa u az)) (aq (aU D (by decide)) (aq (aU (aW (u1 c (uz o (u1 b t im)) im) (Ne.symm u) f) (by decide)) aG))),(ue i (us F G) v)⟩
theorem qH{n:Int}{w:World}(hn:0≤n∧n<256) : Calls Tryz.prog 252 #[.int .i64 n] w (cG (.bool ((decide (7≤n)&&decide (n≤245))&&n%7==0)) w):=by
 refine en 14 Tryz.func252 rfl<|sg<|Pl 1<|ng<|Pl 3<|cu 3 [5] 8 (((decide (7≤n))&&(decide (n≤245)))) (fun K c=>?_) ?_
 refine bl 5 ((decide (7≤n))) (fun a=>?_) (fun a=>?_)
 have e:=of_decide_eq_true a
 exact Pl 3<|ce c (decide (n≤245)) (by rw[a];rfl)
 have e:=of_decide_eq_false a
 exact Pl 3<|ce c false (by rw[a];rfl)
 refine Pl 1<|cu 4 [9] 13 ((((decide (7≤n))&&(decide (n≤245)))&&((n%7)==0))) (fun K d=>?_) ?_
 refine bl 9 (((decide (7≤n))&&(decide (n≤245)))) (fun b=>?_) (fun b=>?_)
 have f:=(aT b).1
 have g:=(aT b).2
 have h:=of_decide_eq_true f
 have i:=of_decide_eq_true g
 exact Pl 1<|L1<|Oe (.int .i64 (Int.tmod n 7)) (.int .i64 (n%7)) (congrArg (Value.int .i64) (Int.tmod_eq_emod_of_nonneg (by omega)))<|Pl 2<|ce d ((n%7)==0) (by rw[b];rfl)
 exact Pl 4<|ce d false (by rw[b];rfl)
 refine Pl 1<|nt<|rt<|rr (.bool (((decide (7≤n))&&(decide (n≤245)))&&((n%7)==0)))<|?_
 exact⟨rfl,(aC.refl [] _)⟩
theorem qQ{n:Int}{w:World}(hn:0≤n∧n<256) : Calls Tryz.prog 253 #[.int .i64 n] w (cG (.bool (decide (4≤n)&&decide (n≤245))) w):=by
 refine en 9 Tryz.func253 rfl<|sg<|Pl 1<|ng<|Pl 3<|cu 3 [5] 8 (((decide (4≤n))&&(decide (n≤245)))) (fun K b=>?_) ?_
 refine bl 5 ((decide (4≤n))) (fun a=>?_) (fun a=>?_)
 have c:=of_decide_eq_true a
 exact Pl 3<|ce b (decide (n≤245)) (by rw[a];rfl)
 have c:=of_decide_eq_false a
 exact Pl 3<|ce b false (by rw[a];rfl)
 refine Pl 1<|nt<|rt<|rr (.bool ((decide (4≤n))&&(decide (n≤245))))<|?_
 exact⟨rfl,(aC.refl [] _)⟩
theorem rg{n:Int}{w:World}(hn:0≤n∧n<256) : Calls Tryz.prog 255 #[.int .i64 n] w (cG (.bool (decide (9≤n)&&decide (n≤251))) w):=by
 refine en 9 Tryz.func255 rfl<|sg<|Pl 1<|ng<|Pl 3<|cu 3 [5] 8 (((decide (9≤n))&&(decide (n≤251)))) (fun K b=>?_) ?_
 refine bl 5 ((decide (9≤n))) (fun a=>?_) (fun a=>?_)
 have c:=of_decide_eq_true a
 exact Pl 3<|ce b (decide (n≤251)) (by rw[a];rfl)
 have c:=of_decide_eq_false a
 exact Pl 3<|ce b false (by rw[a];rfl)
 refine Pl 1<|nt<|rt<|rr (.bool ((decide (9≤n))&&(decide (n≤251))))<|?_
 exact⟨rfl,(aC.refl [] _)⟩
theorem j9{e:Int}{w:World}:Calls Tryz.prog 211 #[.int .i64 e] w (cG (.int .i64 (if e==2 then 5 else e)) w):=by
 refine en 6 Tryz.func211 rfl<|sg<|Pl 1<|nt<|sq<|sg<|Pl 2<|nt<|cb ((e==2)) (fun a=>?_) (fun a=>?_)
 have b:=ah a
 refine sg<|Pl 1<|nt<|rt<|tr<|rr (.int .i64 5)<|?_
 have hs:(if e==2 then (5:Int) else e)=5:=by simp only[a,bs,if_true,if_false,decide_true,decide_false,reduceIte]
 rw[hs]
 exact⟨rfl,(aC.refl [] _)⟩
 have b:=aj a
 refine bf<|sg<|Pl 2<|nt<|rt<|rr (.int .i64 e)<|?_
 have hs:(if e==2 then (5:Int) else e)=e:=by simp only[a,bs,if_true,if_false,decide_true,decide_false,reduceIte]
 rw[hs]
 exact⟨rfl,(aC.refl [] _)⟩
open Go.RowKit
structure WF (F:Fence) (n:Nat) (P:Program) (ops:Array Oper) (Q:Exit→Act→World→Prop) (l:List Oper) (a:Act) (w:World) : Prop where
  out:wpListIn F n P ops Q l a w
def eU (F:Fence) : Prop:=F=Fence.wide∨∃ l,F=Fence.wide.inRound l
theorem lS:eU Fence.wide:=.inl rfl
theorem kp(l:Nat) : eU (Fence.wide.inRound l):=.inr ⟨l,rfl⟩
theorem eU.fn{F:Fence}(h:eU F)(f:FuncId) : F.fn f:=by
  rcases h with rfl|⟨l,rfl⟩<;>trivial
theorem eU.depth{F:Fence}(h:eU F) : F.depth=none:=by
  rcases h with rfl|⟨l,rfl⟩<;>rfl
section
variable {F:Fence}{n:Nat}{P:Program}{Q:Exit→Act→World→Prop}{a:Act}{w:World}{K:Act→World→Prop}{ops:Array Oper}{rest:List Oper}{o:Oper}{N:Option Tmp}
theorem yG{f:FuncId}{args:Array Value}{R:Ending→World→Prop}(hF:eU F)(h:Calls P f args w R) : CallsIn F n P f args w R:=by
  rcases hF with rfl|⟨l,rfl⟩
  · exact callsIn_wide.2 h
  · exact CallsIn.inRound l (callsIn_wide.2 h)
theorem zN{row:String}{args:Array Value}{R:Value→World→Prop}(hF:eU F)(h:Rows P row args w R) : RowsIn F n P row args w R:=by
  have h0:RowsIn Fence.wide n P row args w R:=fun c cs _=>let ⟨v,w',r,s⟩:=h c cs; ⟨v,w',r,stepsIn_wide.2 s⟩
  rcases hF with rfl|⟨l,rfl⟩
  · exact h0
  · exact h0
def gr:Op→Bool
  | .defer _=>false
  | _=>true
theorem BB(hF:eU F)(hd:gr o.op=true)(h:o.wp P a w K Q) : o.wpIn F n P a w K Q:=by
  refine⟨fun f _=>hF.fn f,?_⟩
  rw[Oper.semAt_eq _ _ _ (fun c hc=>by rw[hc] at hd;cases hd)]
  unfold Oper.wp at h
  have hdep:∀ {p:Prop},F.depth.isSome=true→p:=fun h=>by rw[hF.depth] at h;cases h
  generalize (execOp a.eval o).run P w=r at h ⊢
  cases r with
  | ok x w' =>
    cases x<;>simp only[Oper.upon,Oper.uponIn] at h ⊢
    case value u=>exact h
    case skip=>exact h
    case defer d=>exact h
    case enter f args=>exact⟨hdep,yG hF h⟩
    case row row args=>exact⟨hdep,zN hF h⟩
  | halt x w' =>
    cases x<;>simp only[Oper.upon,Oper.uponIn] at h ⊢
    case panic u=>exact h
theorem Bv{id:Nat}{l:List Oper}(n:Nat)(h:WF Fence.wide n P l.toArray Q l a w) : (Code.region id l.toArray false).wp P Q a w:=wpIn_wide.1 (wpIn_region_lit h.out)
theorem Ay{id:Nat}{l:List Oper}(h:WF F n P l.toArray Q l a w) : (Code.region id l.toArray false).wpIn F n P Q a w:=wpIn_region_lit h.out
theorem An(h:Q .normal a w) : WF F n P ops Q [] a w:=⟨h⟩
theorem Bm(hF:eU F)(hd:gr o.op=true)(hw:Region.wanted o (yielded ops a.tmps)=true)(h:OW P o a w (WF F n P ops Q rest) Q) : WF F n P ops Q (o :: rest) a w:=by
  refine⟨?_⟩
  unfold wpListIn
  rw[if_pos hw]
  exact BB hF hd (jz h fun _ _ h=>h.out)
theorem Ap(hF:eU F)(hw:Region.wanted o (yielded ops a.tmps)=false)(hN:o.dst=N)(h:WF F n P ops Q rest (a.put N undef) w) : WF F n P ops Q (o :: rest) a w:=by
  subst hN
  refine⟨?_⟩
  unfold wpListIn
  rw[if_neg (by simp[hw])]
  exact⟨fun f _=>hF.fn f,h.out⟩
theorem yw{x:Operand}{opds:Array Operand}{ts:Array TypeId}{l:Nat}{r:Loop}(args:Array Value)(hw:Region.wanted o (yielded ops a.tmps)=true)(hN:o.dst=N)(hop:o.op = .call { callee:=.value x,args:=opds,argTypes:=ts })
    (hx:a.eval x = .func (.yield l) #[] #[]) (hargs:opds.map a.eval=args) (hl:w.heap[l]? = some (.loop r)) (hs:args.size=r.params.size)
    (h:RoundIn Fence.wide (n-1) P l r.fn ((r.params.zip args).foldl (fun tmps (t,a)=>tmps.setIfInBounds t a) r.tmps) r.assign r.body w (fun e w'=>∃ v,e = .returned v∧WF Fence.wide n P ops Q rest (a.put N v) w')) : WF Fence.wide n P ops Q (o :: rest) a w:=by
  subst hN
  refine⟨?_⟩
  unfold wpListIn
  rw[if_pos hw]
  refine⟨fun f _=>trivial,?_⟩
  have hrun:(o.semAt Fence.wide.round a.eval).run P w = .ok (.round l r.fn ((r.params.zip args).foldl (fun tmps (t,a)=>tmps.setIfInBounds t a) r.tmps) r.assign r.body) w:=by
    show(execOp a.eval o).run P w=_
    unfold execOp
    simp only[hop,resolve,hx,Deferred.ofValue,Sem.run_bind,Sem.run_pure,Result.andThen_ok,invoke,hargs]
    have:=run_yield (P:=P) (args:=args) hl hs
    simpa using this
  rw[hrun,Oper.uponIn_round]
  refine⟨(by simp[Fence.wide]),h.mono fun e w' hh=>?_⟩
  obtain⟨v,rfl,h2⟩:=hh
  exact h2.out
end
theorem wE{P:Program}{n:Nat}{ops:Array Oper}{Q:Exit→Act→World→Prop}{rest:List Oper}{o:Oper}{a:Act}{w:World}{N:Option Tmp}{x:Operand}{opds:Array Operand}{ts:Array TypeId}{l:Nat}{r:Loop}(v:Value)(p:Tmp)(hw:Region.wanted o (yielded ops a.tmps)=true)(hN:o.dst=N)(hop:o.op = .call { callee:=.value x,args:=opds,argTypes:=ts })
    (hx:a.eval x = .func (.yield l) #[] #[]) (hargs:opds.map a.eval = #[v]) (hl:w.heap[l]? = some (.loop r)) (hp:r.params = #[p])
    (h:RoundIn Fence.wide (n-1) P l r.fn (r.tmps.setIfInBounds p v) r.assign r.body w (fun e w'=>∃ u,e = .returned u∧WF Fence.wide n P ops Q rest (a.put N u) w')) : WF Fence.wide n P ops Q (o :: rest) a w:=by
  refine yw #[v] hw hN hop hx hargs hl (by rw[hp];rfl) ?_
  have:((r.params.zip #[v]).foldl (fun tmps (t,a)=>tmps.setIfInBounds t a) r.tmps)=r.tmps.setIfInBounds p v:=by rw[hp];simp
  rw[this]
  exact h
theorem gY{w:World}{l:Nat}(o:Go.Obj) : aC [l] w (w.putObj l o) :=
  ⟨rfl,rfl,rfl,by simp[World.putObj],fun k hk hn=>World.putObj_heap_other (by simpa using hn)⟩
theorem lR{w:World}{l:Nat}{o:Go.Obj}(o':Go.Obj)(h:w.heap[l]? = some o) : (w.putObj l o').heap[l]? = some o':=World.putObj_heap_same (am h)
def jE:Go.Obj→Bool
  | .cells ..=>false
  | _=>true
theorem aL.updl{α:Type}{m:Md}{e:TypeId}{sz:Nat}{R:World→α→List Value→Prop}{w w':World}{v:Value}{xs:List α}{l:Nat}{o:Go.Obj}
    (h:aL m e sz R w v xs) (hu:aC [l] w w') (hl:w.heap[l]? = some o) (ho:jE o=true) (hR:∀ x cs,R w x cs→R w' x cs) : aL m e sz R w' v xs:=by
  obtain⟨A,c,rfl,h1,h2,h0,h3⟩:=h
  refine⟨A,c,rfl,h1,h2,h0,fun hp=>?_⟩
  obtain⟨b,off,cells,t,fr,rfl,hb,ht,hx⟩:=h3 hp
  refine⟨b,off,cells,t,fr,rfl,?_,ht,fun j x hj=>?_⟩
  · refine hu.blk (fun hbs=>?_) hb
    simp at hbs
    subst hbs
    rw[hl] at hb
    injection hb with hb
    subst hb
    cases ho
  · obtain⟨cs,hl,hr,hc⟩:=hx j x hj
    exact⟨cs,hl,hR _ _ hr,hc⟩
theorem b9.updl{m:Md}{w w':World}{v:Value}{xs:List Int}{l:Nat}{o:Go.Obj}(h:b9 m w v xs)(hu:aC [l] w w')(hl:w.heap[l]? = some o)(ho:jE o=true) : b9 m w' v xs:=aL.updl h hu hl ho fun _ _ h=>h
theorem dU.updl{m:Md}{w w':World}{v:Value}{xs:List Int}{l:Nat}{o:Go.Obj}(h:dU m w v xs)(hu:aC [l] w w')(hl:w.heap[l]? = some o)(ho:jE o=true) : dU m w' v xs:=aL.updl h hu hl ho fun _ _ h=>h
theorem bq.updl{m:Md}{w w':World}{l:Nat}{o:Go.Obj}(hu:aC [l] w w')(hl:w.heap[l]? = some o)(ho:jE o=true)(r:dj)(cs:List Value)(h:bq m w r cs) : bq m w' r cs:=by
  obtain⟨v,h1,h2,h3⟩:=h
  exact⟨v,h1,dU.updl h2 hu hl ho,h3⟩
theorem al.updl{w w':World}{g:Nat}{c:ak}{l:Nat}{o:Go.Obj}(h:al w g c)(hu:aC [l] w w')(hg:g∉[l])(hl:w.heap[l]? = some o)(ho:jE o=true) : al w' g c:=by
  obtain⟨v,hb,hr,hn⟩:=h
  exact⟨v,hu.blk hg hb,hr.updl hu hl ho,hn⟩
theorem tT{n:Nat}{P:Program}{l:Nat}{f:FuncId}{tmps:Array Value}{assign body:Code}{w:World}{r:Loop}{R:Ending→World→Prop}
    (h:assign.wpIn (Fence.wide.inRound l) n P (Exit.then (fun a₁ w₁=>w₁.heap[l]? = some (.loop r)∧r.state = .ready∧∀ w₂,w₂.heap[l]? = some (.loop { r with state:=.busy })→aC [l] w₁ w₂ →
      body.wpIn (Fence.wide.inRound l) n P (Exit.then (fun _ w₃=>∃ r',w₃.heap[l]? = some (.loop r')∧∀ w₄,w₄.heap[l]? = some (.loop { r' with state:=.ready,pending:=none })→aC [l] w₃ w₄→R (.returned (.bool true)) w₄) (fun _ _ _=>False)) a₁ w₂) (fun _ _ _=>False)) { tmps:=tmps,defers:=[] } w) :
    RoundIn Fence.wide n P l f tmps assign body w R:=by
  refine roundIn_of_wpIn trivial (Code.wpIn_mono (fun e a w q=>?_) h)
  cases e with
  | normal =>
    obtain⟨h1,h2,h3⟩:=q
    refine⟨_,run_beginRound h1 h2,Code.wpIn_mono (fun e a w q=>?_) (h3 _ (lR _ h1) (gY _))⟩
    cases e with
    | normal =>
      obtain⟨r',h4,h5⟩:=q
      exact⟨_,_,run_endRound none h4,h5 _ (lR _ h4) (gY _)⟩
    | _=>exact q.elim
  | _=>exact q.elim
theorem lz{n:Nat}{P:Program}{l:Nat}{f:FuncId}{tmps:Array Value}{assign body:Code}{w:World}{r:Loop}{R:Ending→World→Prop}
    (hl:w.heap[l]? = some (.loop r))
    (h:assign.wpIn (Fence.wide.inRound l) n P (Exit.then (fun a₁ w₁=>w₁.heap[l]? = some (.loop r)∧r.state = .ready∧∀ w₂,w₂.heap[l]? = some (.loop { r with state:=.busy })→aC [l] w₁ w₂ →
      body.wpIn (Fence.wide.inRound l) n P (Exit.then (fun _ w₃=>∃ r',w₃.heap[l]? = some (.loop r')∧∀ w₄,w₄.heap[l]? = some (.loop { r' with state:=.ready,pending:=none })→aC [l] w₃ w₄→R (.returned (.bool true)) w₄) (fun _ _ _=>False)) a₁ w₂) (fun _ _ _=>False)) { tmps:=tmps,defers:=[] } w) :
    RoundIn Fence.wide n P l f tmps assign body w R:=tT h
theorem vD{P:Program}{Q:Exit→Act→World→Prop}{a:Act}{w:World}{g:Operand}{ps:Array Tmp}{assign body:Code}{f:FuncId}{fn:Func}(cap:Array Value)
    (hx : a.eval g = .func (.func f) #[] cap) (hf : P.funcs[f]? = some fn) (hname : (fn.name == "runtime.NumGoroutine") = false) (hb : fn.body.isSome = true)
    (h:∀ fn0 D l w₂,w.heap.size≤D→w.heap.size≤l→D≠l→w₂.heap[D]? = some (.deferred (some []))→w₂.heap[l]? = some (.loop { state:=.ready,pending:=none,fn:=fn0,tmps:=a.tmps,params:=ps,assign:=assign,body:=body,defers:=D })→aC [] w w₂ →
      Calls P f (#[.func (.yield l) #[] #[]]++cap) w₂ (fun e w₃=>∃ v r',e = .returned v∧w₃.heap[l]? = some (.loop r')∧r'.state≠.busy∧r'.pending=none∧∀ w₄,aC [l] w₃ w₄→Q .normal { a with defers:={ target:=.collected D,args:=#[] } :: a.defers } w₄)) :
    (Code.rangeFunc g ps assign body).wp P Q a w:=by
  refine(wpIn_wide (n:=9)).1 (wpIn_rangeFunc fun fn0 _=>?_)
  have h1 : fn.name ≠ "runtime.NumGoroutine" := by simpa using hname
  obtain⟨cd,hcd⟩:=Option.isSome_iff_exists.1 hb
  refine⟨w.heap.size+1,[{ target:=.collected w.heap.size,args:=#[] }],((w.alloc (.deferred (some []))).alloc (.loop { state:=.ready,pending:=none,fn:=fn0,tmps:=a.tmps,params:=ps,assign:=assign,body:=body,defers:=w.heap.size })),
    { target:=.fn (.func f) cap,args:=#[]++#[.func (.yield (w.heap.size+1)) #[] #[]] },((w.alloc (.deferred (some []))).alloc (.loop { state:=.ready,pending:=none,fn:=fn0,tmps:=a.tmps,params:=ps,assign:=assign,body:=body,defers:=w.heap.size })),
    f,#[.func (.yield (w.heap.size+1)) #[] #[]]++cap,((w.alloc (.deferred (some []))).alloc (.loop { state:=.ready,pending:=none,fn:=fn0,tmps:=a.tmps,params:=ps,assign:=assign,body:=body,defers:=w.heap.size })),run_enterLoop_outer fn0 a.tmps ps assign body,?_,fun _ _=>trivial,?_,by simp[Fence.wide],?_⟩
  · unfold resolve
    simp only[rangeCall,hx,Deferred.ofValue,Sem.run_pure,List.map_toArray,List.map_cons,List.map_nil]
    rfl
  · simp[invoke,callFunc,hf,h1,hcd]
  · have hD:((w.alloc (.deferred (some []))).alloc (.loop { state:=.ready,pending:=none,fn:=fn0,tmps:=a.tmps,params:=ps,assign:=assign,body:=body,defers:=w.heap.size })).heap[w.heap.size]? = some (.deferred (some [])):=wa (ep w _) _
    have hl:((w.alloc (.deferred (some []))).alloc (.loop { state:=.ready,pending:=none,fn:=fn0,tmps:=a.tmps,params:=ps,assign:=assign,body:=body,defers:=w.heap.size })).heap[w.heap.size+1]? = some (.loop { state:=.ready,pending:=none,fn:=fn0,tmps:=a.tmps,params:=ps,assign:=assign,body:=body,defers:=w.heap.size }):=by
      have:=ep (w.alloc (.deferred (some []))) (.loop { state:=.ready,pending:=none,fn:=fn0,tmps:=a.tmps,params:=ps,assign:=assign,body:=body,defers:=w.heap.size })
      simpa using this
    refine callsIn_wide.2 ((h fn0 w.heap.size (w.heap.size+1) _ (Nat.le_refl _) (by omega) (by omega) hD hl (((aC.refl [] w).alloc _).alloc _)).mono ?_)
    rintro e w₃ ⟨v,r',rfl,h3,h4,h5,h6⟩
    refine⟨_,_,run_endLoop h3 h4,?_⟩
    rw[h5]
    exact h6 _ (gY _)
theorem pL{P:Program}{f:FuncId}{fn:Func}{c:Code}{args:Array Value}{w:World}{R:Ending→World→Prop}(hf:P.funcs[f]? = some fn)(hb:fn.body=some c)
    (h:c.wp P (bodyPostM Fence.wide 9 P fn R) { tmps:=args++Array.replicate (fn.ntmps-args.size) undef,defers:=[] } w) : Calls P f args w R :=
  callsIn_wide.1 (callsIn_of_wp_marks hf hb trivial (wpIn_wide.2 h) rfl)
theorem yl{P:Program}{fn:Func}{R:Ending→World→Prop}{a:Act}{w:World}{D:Nat}(hd:a.defers=[{ target:=.collected D,args:=#[] }])(hD:w.heap[D]? = some (.deferred (some [])))
    (h:∀ w',aC [D] w w'→∃ v,(results fn a.tmps).run P w' = .ok v w'∧R (.returned v) w') : bodyPostM Fence.wide 9 P fn R .ret a w:=by
  show LeavesInM Fence.wide 9 P fn a.tmps R a.defers .returning w
  rw[hd]
  exact⟨by simp,.inl ⟨D,_,rfl,run_takeDeferred hD,h _ (gY _)⟩⟩
theorem wS{P:Program}{fn:Func}{R:Ending→World→Prop}{a:Act}{w:World}(hd:a.defers=[])(h:∃ v,(results fn a.tmps).run P w = .ok v w∧R (.returned v) w) : bodyPostM Fence.wide 9 P fn R .ret a w:=by
  show LeavesInM Fence.wide 9 P fn a.tmps R a.defers .returning w
  rw[hd]
  exact h
open Go.RowKit
structure GF (E:Fence) (m:Nat) (P:Program) (ops:Array Oper) (Q:Exit→Act→World→Prop) (l:List Oper) (n:Nat) (D:List Deferred) (F:Fr) (w:World) : Prop where
  out:∀ a,Ag n D F a→WF E m P ops Q l a w
structure GI (E:Fence) (m:Nat) (P:Program) (c:Code) (Q:Exit→Act→World→Prop) (n:Nat) (D:List Deferred) (F:Fr) (w:World) : Prop where
  out:∀ a,Ag n D F a→c.wpIn E m P Q a w
section
variable {E:Fence}{m:Nat}{P:Program}{Q:Exit→Act→World→Prop}{n:Nat}{D:List Deferred}{F:Fr}{w:World}{ops:Array Oper}{rest l:List Oper}{d:Option Tmp}{op:Op}{t:TypeId}{s:String}{af:Array Edge}{gu:Option (Nat × Bool)}{x y c:Code}{id:Nat}
theorem AB(m:Nat)(h:GF Fence.wide m P l.toArray Q l n D F w) : GC P (.region id l.toArray false) Q n D F w:=⟨fun a ha=>Bv m (h.out a ha)⟩
theorem zy(h:GF E m P l.toArray Q l n D F w) : GI E m P (.region id l.toArray false) Q n D F w:=⟨fun a ha=>Ay (h.out a ha)⟩
theorem As(h:GI E m P c (Exit.inBlock id Q) n D F w) : GI E m P (.block id c) Q n D F w:=⟨fun a ha=>wpIn_block (h.out a ha)⟩
theorem tK(h:GQ Q .normal n D F w) : GF E m P ops Q [] n D F w:=⟨fun a ha=>An (h.out a ha)⟩
theorem Bj(hE:eU E)(h:OG P ⟨d,op,t,s,af,gu⟩ n D F w (GF E m P ops Q rest n D) Q)(hw:mb ops F gu=(true,true))(hd:gr op=true) : GF E m P ops Q (⟨d,op,t,s,af,gu⟩ :: rest) n D F w :=
  ⟨fun a ha=>Bm hE hd (gj ha hw) (h.out a ha _ fun F' w' a' k ha'=>k.out a' ha')⟩
theorem Bi(hE:eU E){o:Oper}(h:GF E m P ops Q rest n D (qn P ops w F o) w)(hc:xN P ops w n 1 (o :: rest) F=xQ P ops w 1 (o :: rest) F)(hd:gr o.op=true) : GF E m P ops Q (o :: rest) n D F w:=by
  simp only[xN,xQ,List.cons.injEq,Prod.mk.injEq,Bool.and_eq_true] at hc
  obtain⟨⟨⟨h1,h2,h3⟩,h4⟩,h5⟩:=hc
  refine⟨fun a ha=>?_⟩
  cases hon:(mb ops F o.guard).2 with
  | true =>
    rw[hon] at h3 h4
    simp only[cond_true] at h3 h4
    have hst:qn P ops w F o=pt o.dst (vo P w F o) F:=by simp[qn,hon]
    rw[hst] at h
    exact Bm hE hd (gj ha (Prod.ext h1 hon)) (gX (N:=o.dst) (vo P w F o) rfl (by rw[← iJ ha h3];exact h4) (h.out _ (ha.put h2)))
  | false =>
    have hst:qn P ops w F o=pt o.dst undef F:=by simp[qn,hon]
    rw[hst] at h
    exact Ap (N:=o.dst) hE (gj ha (Prod.ext h1 hon)) rfl (h.out _ (ha.put h2))
theorem F0(h:OG P ⟨d,op,t,s,af,gu⟩ n D F w (GF Fence.wide m P ops Q rest n D) Q)(hw:mb ops F gu=(true,true):=by kernel_rfl)(hd:gr op=true:=by kernel_rfl) : GF Fence.wide m P ops Q (⟨d,op,t,s,af,gu⟩ :: rest) n D F w:=Bj lS h hw hd
theorem mF{q:Nat}(h:OG P ⟨d,op,t,s,af,gu⟩ n D F w (GF (Fence.wide.inRound q) m P ops Q rest n D) Q)(hw:mb ops F gu=(true,true):=by kernel_rfl)(hd:gr op=true:=by kernel_rfl) : GF (Fence.wide.inRound q) m P ops Q (⟨d,op,t,s,af,gu⟩ :: rest) n D F w:=Bj (kp _) h hw hd
theorem Fp{o:Oper}(h:GF Fence.wide m P ops Q rest n D (qn P ops w F o) w)(hc:xN P ops w n 1 (o :: rest) F=xQ P ops w 1 (o :: rest) F:=by kernel_rfl)(hd:gr o.op=true:=by kernel_rfl) : GF Fence.wide m P ops Q (o :: rest) n D F w:=Bi lS h hc hd
theorem zz{q:Nat}{o:Oper}(h:GF (Fence.wide.inRound q) m P ops Q rest n D (qn P ops w F o) w)(hc:xN P ops w n 1 (o :: rest) F=xQ P ops w 1 (o :: rest) F:=by kernel_rfl)(hd:gr o.op=true:=by kernel_rfl) : GF (Fence.wide.inRound q) m P ops Q (o :: rest) n D F w:=Bi (kp _) h hc hd
theorem AS(j:Nat)(e:Bool)(ht:e=true→GF E m P ops Q l n D ((j,.bool true) :: F) w)(hf:e=false→GF E m P ops Q l n D ((j,.bool false) :: F) w)(hv:lk F j=some (.bool e):=by kernel_rfl) : GF E m P ops Q l n D F w:=by
  refine⟨fun a ha=>?_⟩
  have key:∀ b,e=b→Ag n D ((j,.bool b) :: F) a:=fun b hb=>⟨ha.sz,ha.df,fun i v hi=>by
    rcases gV hi with⟨rfl,rfl⟩|⟨_,h2⟩
    · rw[← hb];exact ha.at_ _ _ hv
    · exact ha.at_ _ _ h2⟩
  rcases ej e with q|q
  · exact(ht q).out a (key _ q)
  · exact(hf q).out a (key _ q)
theorem Fy{x:Operand}{opds:Array Operand}{ts:Array TypeId}{q:Nat}{r:Loop}(v:Value)(p:Tmp)(hl:w.heap[q]? = some (.loop r))(hp:r.params = #[p])
    (h:RoundIn Fence.wide (m-1) P q r.fn (r.tmps.setIfInBounds p v) r.assign r.body w (fun e w'=>∃ u,e = .returned u∧GF Fence.wide m P ops Q rest n D (pt d u F) w'))
    (hw:mb ops F gu=(true,true):=by kernel_rfl) (hx:fq F x=some (.func (.yield q) #[] #[]):=by kernel_rfl) (ha:opds.toList.map (fq F)=[some v]:=by kernel_rfl) (hd:gC n d=true:=by kernel_rfl) :
    GF Fence.wide m P ops Q (⟨d,.call { callee:=.value x,args:=opds,argTypes:=ts },t,s,af,gu⟩ :: rest) n D F w :=
  ⟨fun a hag=>wE v p (gj hag hw) rfl rfl (hag.ev hx) (by apply Array.toList_inj.1;rw[Array.toList_map];exact o3 (vs:=[v]) hag ha) hl hp (h.mono fun e w' hh=>by
    obtain⟨u,rfl,hk⟩:=hh
    exact⟨u,rfl,hk.out _ (hag.put hd)⟩)⟩
theorem rj{g:Operand}{ps:Array Tmp}{assign body:Code}{f:FuncId}(cap:Array Value)
    (h:∀ a,Ag n D F a→∀ fn0 D' q w₂,w.heap.size≤D'→w.heap.size≤q→D'≠q→w₂.heap[D']? = some (.deferred (some []))→w₂.heap[q]? = some (.loop { state:=.ready,pending:=none,fn:=fn0,tmps:=a.tmps,params:=ps,assign:=assign,body:=body,defers:=D' })→aC [] w w₂ →
      Calls P f (#[.func (.yield q) #[] #[]]++cap) w₂ (fun e w₃=>∃ v r',e = .returned v∧w₃.heap[q]? = some (.loop r')∧r'.state≠.busy∧r'.pending=none∧∀ w₄,aC [q] w₃ w₄→GQ Q .normal n ({ target:=.collected D',args:=#[] } :: D) F w₄))
    (hx:fq F g=some (.func (.func f) #[] cap):=by kernel_rfl) (hf:A8 P f=some (false,true):=by kernel_rfl) : GC P (.rangeFunc g ps assign body) Q n D F w:=by
  obtain⟨fn,h1,h2,h3⟩:=lx hf
  refine⟨fun a ha=>vD cap (ha.ev hx) h1 h2 h3 fun fn0 D' q w₂ g1 g2 g3 g4 g5 g6=>(h a ha fn0 D' q w₂ g1 g2 g3 g4 g5 g6).mono fun e w₃ hh=>?_⟩
  obtain⟨v,r',k1,k2,k3,k4,k5⟩:=hh
  exact⟨v,r',k1,k2,k3,k4,fun w₄ hu=>(k5 w₄ hu).out _ ⟨ha.sz,by rw[ha.df],ha.at_⟩⟩
theorem Av{a:Act}(ha:Ag n D F a)(p:Tmp){v:Value}(h:GI E m P c Q n [] ((p,v) :: F) w)(hp:Nat.blt p n=true:=by kernel_rfl) : c.wpIn E m P Q { tmps:=a.tmps.setIfInBounds p v,defers:=[] } w:=by
  have h0:Ag n [] F { tmps:=a.tmps,defers:=[] }:=⟨ha.sz,rfl,ha.at_⟩
  exact h.out _ (h0.put (d:=some p) hp)
theorem AV{r:Loop}{q:Nat}{c:Code}{Qb:Exit→Act→World→Prop}(h1:w.heap[q]? = some (.loop r))(h2:r.state = .ready)(h:∀ w₂,w₂.heap[q]? = some (.loop { r with state:=.busy })→aC [q] w w₂→GI E m P c Qb n D F w₂) :
    GQ (Exit.then (fun a₁ w₁=>w₁.heap[q]? = some (.loop r)∧r.state = .ready∧∀ w₂,w₂.heap[q]? = some (.loop { r with state:=.busy })→aC [q] w₁ w₂→c.wpIn E m P Qb a₁ w₂) Q) .normal n D F w:=⟨fun a ha=>⟨h1,h2,fun w₂ k1 k2=>(h w₂ k1 k2).out a ha⟩⟩
theorem AZ{r:Loop}{q:Nat}{Z:World→Prop}(h1:w.heap[q]? = some (.loop r))(h:∀ w₄,w₄.heap[q]? = some (.loop { r with state:=.ready,pending:=none })→aC [q] w w₄→Z w₄) :
    GQ (Exit.then (fun _ w₃=>∃ r',w₃.heap[q]? = some (.loop r')∧∀ w₄,w₄.heap[q]? = some (.loop { r' with state:=.ready,pending:=none })→aC [q] w₃ w₄→Z w₄) Q) .normal n D F w:=⟨fun a ha=>⟨r,h1,h⟩⟩
end
section
variable {P:Program}{n:Nat}{F:Fr}{w:World}{fn:Func}{R:Ending→World→Prop}
theorem zv{f:FuncId}{c:Code}{args:List Value}{w:World}(n:Nat)(hf:P.funcs[f]? = some fn)(hb:fn.body=some c)
    (h:GC P c (bodyPostM Fence.wide 9 P fn R) n [] (vQ 0 args) w) (hn:args.length+(fn.ntmps-args.length)=n:=by kernel_rfl) : Calls P f args.toArray w R:=by
  subst hn
  exact pL hf hb (by simpa using h.out _ (Bh (args:=args) (m:=fn.ntmps-args.length)))
theorem zu{D:Nat}(hD:w.heap[D]? = some (.deferred (some [])))(h:∀ w',aC [D] w w'→GQ (fun _ a w'=>∃ v,(results fn a.tmps).run P w' = .ok v w'∧R (.returned v) w') .ret n [{ target:=.collected D,args:=#[] }] F w') : GQ (bodyPostM Fence.wide 9 P fn R) .ret n [{ target:=.collected D,args:=#[] }] F w :=
  ⟨fun a ha=>yl ha.df hD fun w' hu=>(h w' hu).out a ha⟩
theorem rx{D:List Deferred}{g:Nat}{cs:Array Value}{t:TypeId}{fr:Nat × Nat}(B:w.heap[g]? = some (.cells cs t fr))(u:Value)(h:R (.returned (.tuple #[.agg cs,u])) w)(hc:zA P fn.results F=some (some (.pointer (some ⟨g,0,none⟩)),some u,some true,some cs.size):=by kernel_rfl) : GQ (fun _ a w'=>∃ v,(results fn a.tmps).run P w' = .ok v w'∧R (.returned v) w') .ret n D F w :=
  ⟨fun a ha=>⟨_,kX ha B rfl hc,h⟩⟩
theorem ry{g:Nat}{cs:Array Value}{t:TypeId}{fr:Nat × Nat}(B:w.heap[g]? = some (.cells cs t fr))(u:Value)(h:R (.returned (.tuple #[.agg cs,u])) w)(hc:zA P fn.results F=some (some (.pointer (some ⟨g,0,none⟩)),some u,some true,some cs.size):=by kernel_rfl) : GQ (bodyPostM Fence.wide 9 P fn R) .ret n [] F w :=
  ⟨fun a ha=>wS ha.df ⟨_,kX ha B rfl hc,h⟩⟩
end
open Go.RowKit
def yU (mk:Nat→Value)(w:World)(e:Ending)(w':World) : Prop:=∃ gs,e = .returned (.tuple #[mk gs,.bool true])∧w.heap.size≤gs∧w'.heap[gs]? = some (.cells #[.int .i64 0] 3 (0,0))∧aC [] w w'
def Ba (gs:Nat) : Value:=.agg #[.func (.func 252) #[] #[],.func (.func 250) #[] #[.pointer (some ⟨gs,0,none⟩)]]
def AT (gs:Nat) : Value:=.agg #[.func (.func 253) #[] #[],.func (.func 254) #[] #[]]
def AJ (gs:Nat) : Value:=.agg #[.func (.func 255) #[] #[],.func (.func 256) #[] #[]]
theorem wK{w:World}:Calls Tryz.prog 209 #[.int .i64 0,.int .u8 20] w (yU Ba w):=by
 refine en 27 Tryz.func209 rfl<|sg<|L0<|bH #[.nilFunc,.nilFunc] fun m n g b c=>Pl 1<|ng<|L0<|bH #[.int .i64 0] fun d o a h i=>L0<|bX h 0 #[.int .i64 0] fun p j k=>nt<|sq<|?_
 refine go<|Pl 2<|nt<|sq<|bk<|sg<|Pl 7<|nt<|c1<|sg<|?_
 refine Pl 2<|?_
 have e:=ud i k a
 refine L0<|b7 (ub e b) #[.func (.func 252) #[] #[],.func (.func 250) #[] #[.pointer (some ⟨d,0,none⟩)]] fun q l f=>Pl 1<|nt<|rt<|br<|tr<|bJ l (.bool true)<|?_
 exact⟨d,rfl,(Nat.le_trans c.size a),(aW f (Ne.symm (nb (am b) lr a)) j),(ud c (uz e f) g)⟩
theorem wZ{w:World}:Calls Tryz.prog 209 #[.int .i64 1,.int .u8 20] w (yU AT w):=by
 refine en 27 Tryz.func209 rfl<|sg<|L0<|bH #[.nilFunc,.nilFunc] fun m n f b c=>Pl 1<|ng<|L0<|bH #[.int .i64 0] fun g o a h i=>L0<|bX h 0 #[.int .i64 0] fun p j k=>nt<|sq<|?_
 refine go<|Pl 2<|nt<|sq<|bk<|sg<|Pl 7<|nt<|c0<|sg<|?_
 refine Pl 3<|nt<|c1<|sg<|Pl 1<|?_
 have d:=ud i k a
 refine L0<|b7 (ub d b) #[.func (.func 253) #[] #[],.func (.func 254) #[] #[]] fun q l e=>Pl 1<|nt<|rt<|br<|tr<|bJ l (.bool true)<|?_
 exact⟨g,rfl,(Nat.le_trans c.size a),(aW e (Ne.symm (nb (am b) lr a)) j),(ud c (uz d e) f)⟩
theorem wq{dir:Int}{w:World}:Calls Tryz.prog 209 #[.int .i64 dir,.int .u8 21] w (yU AJ w):=by
 refine en 27 Tryz.func209 rfl<|sg<|L0<|bH #[.nilFunc,.nilFunc] fun m n f b c=>Pl 1<|ng<|L0<|bH #[.int .i64 0] fun g o a h i=>L0<|bX h 0 #[.int .i64 0] fun p j k=>nt<|sq<|?_
 refine go<|Pl 2<|nt<|sq<|bk<|sg<|Pl 7<|nt<|c0<|sg<|?_
 refine Pl 3<|nt<|c0<|sg<|Pl 3<|nt<|c1<|sg<|Pl 1<|?_
 have d:=ud i k a
 refine L0<|b7 (ub d b) #[.func (.func 255) #[] #[],.func (.func 256) #[] #[]] fun q l e=>Pl 1<|nt<|rt<|br<|tr<|bJ l (.bool true)<|?_
 exact⟨g,rfl,(Nat.le_trans c.size a),(aW e (Ne.symm (nb (am b) lr a)) j),(ud c (uz d e) f)⟩
theorem oK{dir x:Int}{w:World}(n1:(x==20)=false)(n2:(x==21)=false) : Calls Tryz.prog 209 #[.int .i64 dir,.int .u8 x] w (cG (.tuple #[.agg #[.nilFunc,.nilFunc],.bool false]) w):=by
 refine en 27 Tryz.func209 rfl<|sg<|L0<|bH #[.nilFunc,.nilFunc] fun k l b c d=>Pl 1<|ng<|L0<|bH #[.int .i64 0] fun m n e f g=>L0<|bX f 0 #[.int .i64 0] fun o p h=>nt<|sq<|?_
 refine go<|Pl 2<|nt<|sq<|bk<|sg<|Pl 3<|sy 12 n1<|Pl 4<|nt<|c0<|?_
 refine sg<|Pl 3<|nt<|cf n1<|sg<|Pl 3<|nt<|cf n2<|sk<|bn<|?_
 refine tn<|sg<|Pl 1<|?_
 have a:=ud g h e
 refine L0<|b7 (ub a c) #[.nilFunc,.nilFunc] fun q i j=>Pl 1<|nt<|rt<|bJ i (.bool false)<|?_
 exact⟨rfl,(ud d (uz a j) b)⟩
theorem l8{gb:Nat}{f:Fn}{x y:Array Value}{w:World}:Calls Tryz.prog 210 #[.pointer (some ⟨gb,0,none⟩),.func f x y] w (fun e w'=>∃ b1 b2,e = .returned (.func (.func 257) #[] #[.pointer (some ⟨b1,0,none⟩),.pointer (some ⟨b2,0,none⟩)])∧w.heap.size≤b1∧w.heap.size≤b2∧b1≠b2 ∧
      w'.heap[b1]? = some (.cells #[.pointer (some ⟨gb,0,none⟩)] 113 (0,0))∧w'.heap[b2]? = some (.cells #[.func f x y] 212 (0,0))∧aC [] w w'):=by
 refine en 6 Tryz.func210 rfl<|sg<|L0<|dv #[.pointer (some ⟨gb,0,none⟩)] fun a k i b c=>L0<|dv #[.func f x y] fun d l g j h=>Pl 1<|ng<|Pl 2<|nt<|rt<|?_
 refine rr (.func (.func 257) #[] #[.pointer (some ⟨a,0,none⟩),.pointer (some ⟨d,0,none⟩)])<|?_
 exact⟨a,d,rfl,i,(Nat.le_trans c.size g),(nb (am b) lr g),(ub h b),j,(aD c h)⟩
theorem sD{g gs:Nat}{s:Int}{C:ak}{w:World}(hC:al w g C)(hS:w.heap[gs]? = some (.cells #[.int .i64 s] 3 (0,0)))(hne:g≠gs)(hs:0≤s∧s≤1000000000000) :
    Calls Tryz.prog 250 #[.pointer (some ⟨g,0,none⟩),.pointer (some ⟨gs,0,none⟩)] w (fun e w'=>∃ A c,e = .returned (.agg #[.int .u16 (aQ C).file,.int .u16 (aQ C).record,.int .u16 (aQ C).count,.slice A (aQ C).words.length c])∧dU true w' (.slice A (aQ C).words.length c) (aQ C).words∧dp (aQ C).file∧dp (aQ C).record∧dp (aQ C).count∧al w' g (eH s C)∧w'.heap[gs]? = some (.cells #[.int .i64 (eK s C)] 3 (0,0))∧aC [g,gs] w w'):=by
 refine en 19 Tryz.func250 rfl<|sg<|L0<|bH #[.int .u16 0,.int .u16 0,.int .u16 0,.slice none 0 0] fun S T b j d=>ng<|Pl 1<|?_
 refine L0<|Oc<|yT (pk (al.old hC d)) fun k l U H I J K m f=>?_
 obtain⟨V,W⟩:=I
 obtain⟨X,Y⟩:=J
 obtain⟨Z,a0⟩:=K
 refine L0<|bH #[.int .u16 0,.int .u16 0,.int .u16 0,.slice none 0 0] fun a1 a2 h L M=>L0<|b7 L #[.int .u16 ((aQ C).file),.int .u16 ((aQ C).record),.int .u16 ((aQ C).count),.slice k ((aQ C).words.length) l] fun a3 n N=>ng<|?_
 have o:=ud M N h
 have p:=aD f o
 have q:=aW (uz d p) (Ne.symm hne) hS
 refine L0<|aO q 0<|Pl 1<|L0<|aO n 2<|L0<|Oi ((aQ C).count)<|L0<|Oi (2*((aQ C).count))<|L0<|Oi (2+(2*((aQ C).count)))<|L0<|Oi (s+(2+(2*((aQ C).count))))<|L0<|bX q 0 #[.int .i64 (s+(2+(2*((aQ C).count))))] fun a4 r t=>ng<|Pl 1<|L0<|aO r 0<|?_
 refine Pl 1<|?_
 have u:=uz o t
 have a:=uz d f
 have v:=aW a (Ne.symm hne) hS
 refine L0<|Oc<|m2 (be ((decide ((s+(2+(2*((aQ C).count))))≤245))) 5 (al.upd m u (aa hne az) (aq (aU v (by decide)) aG))) fun a5 O y=>?_
 refine ab O fun x47 P Q=>?_
 refine ng<|?_
 have z:=us t y
 refine L0<|bO (aC.blk z (aa (Ne.symm (nb (am hS) a.size h)) (aa (Ne.symm (nb (al.lt hC) a.size h)) az)) n)<|?_
 have i:=nb (al.lt hC) lr b
 have B:=nb (am hS) lr b
 have D:=aC.blk (ui p z) (aa (Ne.symm B) (aa (Ne.symm i) az)) j
 refine L0<|b7 D #[.int .u16 ((aQ C).file),.int .u16 ((aQ C).record),.int .u16 ((aQ C).count),.slice k ((aQ C).words.length) l] fun a6 R E=>nt<|rt<|yn R<|?_
 subst P
 have F:=us y E
 have G:=us u F
 exact⟨_,_,rfl,(dU.upd' H G (aq (aU v (by decide)) (aq (al.safe m _ (by decide)) (aq (aU (aW f (Ne.symm i) j) (by decide)) aG)))),ez (x:=(aQ C).file) (by omega),ez (x:=(aQ C).record) (by omega),ez (x:=(aQ C).count) (by omega),(al.upd Q E (aa i az) (aq (aU D (by decide)) aG)),(aC.blk F (aa (Ne.symm hne) (aa B az)) r),(ut (aC.mono (S':=[g,gs]) a (ac im ay)) G (ac im (ac im (ac (nr b) ay))))⟩
def gt (c:Int)(v:Value) : Array Value:=#[.int .u8 c,.int .u8 0,.int .u16 0,.int .u16 0,.int .u16 0,.int .u16 0,.int .u16 0,.int .u16 0,.int .u16 0,.int .u16 0,.int .u16 0,.int .u16 0,fZ,fZ,fZ,v,.int .u8 0,.int .u8 0,.int .u8 0,.int .u8 0,.int .u8 0,fZ]
structure JR (w0:World) (gb gs gm l:Nat) (c:Int) (r:Loop) (C:ak) (s:Int) (L:List dj) (A:Option Addr) (cp:Nat) (W:World) : Prop where
  u:aC [gb,gs,gm,l] w0 W
  hC:al W gb C
  hS:W.heap[gs]? = some (.cells #[.int .i64 s] 3 (0,0))
  hm:W.heap[gm]? = some (.cells (gt c (.slice A L.length cp)) 30 (0,0))
  ho:aS w0.heap.size 109 4 (bq true) W (.slice A L.length cp) L
  hl:W.heap[l]? = some (.loop r)
def cK (s:Int)(C:ak) : Int × ak × dj:=(eK s C,eH s C,aQ C)
def bK (s:Int)(C:ak) : Int × ak × dj:=(s,eN C,eO C)
def cM (s:Int)(C:ak) : Int × ak × dj:=(s,jb C,j5 C)
def aR (one:Int→ak→Int × ak × dj) : Nat→Int→ak→List dj→ak × List dj
  | 0,_,C,L=>(C,L)
  | n+1,s,C,L =>
    if decide (0<(C.l.length:Int))&&C.e==0 then
      (if (one s C).2.1.e != 0 then ((one s C).2.1,L) else aR one n (one s C).1 (one s C).2.1 (L++[(one s C).2.2]))
    else (C,L)
theorem j8(C:ak)(n:Int) : (C.bytesC n).l.length≤C.l.length:=by
  unfold ak.bytesC
  split
  · unfold ak.need
    split<;>simp
  · simp
theorem lX(C:ak)(h:0<C.l.length) : (C.bytesC 1).l.length<C.l.length:=by
  unfold ak.bytesC
  split
  · unfold ak.need
    split<;>simpa using h
  · simp
    omega
theorem eL(C:ak)(b:Bool)(e:Int) : (C.need b e).l.length=C.l.length:=by
  unfold ak.need
  split<;>rfl
theorem eT(C:ak)(n:Int) : (C.wordsC n).l.length≤C.l.length:=by
  unfold ak.wordsC
  split<;>exact j8 ..
theorem pa(C:ak)(h:0<C.l.length) : (dw C).l.length<C.l.length:=by
  have h1:(ig C).l.length<C.l.length:=by unfold ig;rw[eL];exact lX C h
  have h2:(iO C).l.length≤(ig C).l.length:=by unfold iO;rw[eL];exact eT ..
  have h3:(mc C).l.length≤(iO C).l.length:=by unfold mc;rw[eL];exact eT ..
  have h4:(dw C).l.length≤(mc C).l.length:=by unfold dw;rw[eL];exact eT ..
  omega
theorem od(s:Int)(C:ak)(h:0<C.l.length) : (cK s C).2.1.l.length<C.l.length:=by
  show(eH s C).l.length<_
  unfold eH
  rw[eL]
  exact pa C h
theorem jm(s:Int)(C:ak)(h:0<C.l.length) : (bK s C).2.1.l.length<C.l.length:=by
  show(eN C).l.length<_
  have h1:(ia C).l.length<C.l.length:=by unfold ia;rw[eL];exact lX C h
  have h2:(fM C).l.length≤(ia C).l.length:=by unfold fM;rw[eL];exact j8 ..
  have h3:(eN C).l.length≤(fM C).l.length:=by unfold eN;exact eT ..
  omega
theorem nG(s:Int)(C:ak)(h:0<C.l.length) : (cM s C).2.1.l.length<C.l.length:=by
  show(jb C).l.length<_
  have h1:=pa C h
  have h2:(mz C).l.length=(dw C).l.length:=by unfold mz;rw[eL]
  have h3:(jb C).l.length≤(mz C).l.length:=by unfold jb;exact eT ..
  omega
theorem i3(one:Int→ak→Int × ak × dj)(n:Nat)(s:Int)(C:ak)(L:List dj)(h:(decide (0<(C.l.length:Int))&&C.e==0)=false) : aR one n s C L=(C,L):=by
  cases n with
  | zero=>rfl
  | succ n=>simp only[aR,h,Bool.false_eq_true,if_false]
open Go.RowKit
def eb (fn0:FuncId)(tm:Array Value)(asg bdy:Code)(D:Nat) : Loop:={ state:=.ready,pending:=none,fn:=fn0,tmps:=tm,params:=#[53],assign:=asg,body:=bdy,defers:=D }
def qq (w:World)(gb gs gm l:Nat)(c:Int)(R:Loop) : Prop:=∀ (W:World)(C:ak)(s:Int)(L:List dj)(A:Option Addr)(cp:Nat)(x:dj)(Ax:Option Addr)(cx:Nat),JR w gb gs gm l c R C s L A cp W→dU true W (.slice Ax x.words.length cx) x.words→dp x.file→dp x.record→dp x.count→L.length≤1048576 →
    RoundIn Fence.wide 8 Tryz.prog l R.fn (R.tmps.setIfInBounds 53 (.agg #[.int .u16 x.file,.int .u16 x.record,.int .u16 x.count,.slice Ax x.words.length cx])) R.assign R.body W (fun e W'=>e = .returned (.bool true)∧W.heap.size≤W'.heap.size∧∃ A2 c2,JR w gb gs gm l c R C s (L++[x]) A2 c2 W')
theorem yv{w:World}{gb gs gm l b1 b2 fn0 D:Nat}{tm:Array Value}{asg bdy:Code}{c:Int}{C0:ak}(hC:al w gb C0)(hS:w.heap[gs]? = some (.cells #[.int .i64 0] 3 (0,0)))(hm:w.heap[gm]? = some (.cells (gt c fZ) 30 (0,0)))
    (hl:w.heap[l]? = some (.loop (eb fn0 tm asg bdy D))) (hb1:w.heap[b1]? = some (.cells #[.pointer (some ⟨gb,0,none⟩)] 113 (0,0))) (hb2:w.heap[b2]? = some (.cells #[.func (.func 250) #[] #[.pointer (some ⟨gs,0,none⟩)]] 212 (0,0)))
    (n1:gb≠gs) (n2:gb≠gm) (n3:gb≠l) (n4:gs≠gm) (n5:gs≠l) (n6:gm≠l) (m1:b1≠gb) (m2:b1≠gs) (m3:b1≠gm) (m4:b1≠l) (k1:b2≠gb) (k2:b2≠gs) (k3:b2≠gm) (k4:b2≠l) (hround:qq w gb gs gm l c (eb fn0 tm asg bdy D)) :
    Calls Tryz.prog 257 #[.func (.yield l) #[] #[],.pointer (some ⟨b1,0,none⟩),.pointer (some ⟨b2,0,none⟩)] w (fun e W=>e = .returned (.tuple #[])∧∃ s A cp,JR w gb gs gm l c (eb fn0 tm asg bdy D) (aR cK C0.l.length 0 C0 []).1 s (aR cK C0.l.length 0 C0 []).2 A cp W):=by
 have hlen:=hC.len
 refine en 25 Tryz.func257 rfl<|bk<|?_
 refine iN (fun x=>[(0,.func (.yield l) #[] #[]),(1,.pointer (some ⟨b1,0,none⟩)),(2,.pointer (some ⟨b2,0,none⟩))]) (fun(x:Nat × ak × Int × List dj × Option Addr × Nat) w'=>aC [gb,gs,gm,l] w w'∧al w' gb x.2.1∧w'.heap[gs]? = some (.cells #[.int .i64 x.2.2.1] 3 (0,0))∧w'.heap[gm]? = some (.cells (gt c (.slice x.2.2.2.2.1 x.2.2.2.1.length x.2.2.2.2.2)) 30 (0,0))∧w'.heap[l]? = some (.loop (eb fn0 tm asg bdy D))∧aS w.heap.size 109 4 (bq true) w' (.slice x.2.2.2.2.1 x.2.2.2.1.length x.2.2.2.2.2) x.2.2.2.1∧(aR cK x.1 x.2.2.1 x.2.1 x.2.2.2.1=aR cK C0.l.length 0 C0 [])∧(x.2.1.l.length≤x.1)∧(0≤x.2.2.1∧x.2.2.1≤131074*(x.2.2.2.1.length:Int))∧(x.2.2.2.1.length+x.1≤C0.l.length)) (fun x=>x.1) (C0.l.length,C0,0,[],none,0) ⟨aC.refl _ _,hC,hS,hm,hl,aS.nil ..,rfl,(Nat.le_refl _),(by(try dsimp only);omega),(by(try dsimp only);(try simp only[List.length_nil]);omega)⟩ ?_
 rintro⟨n,C,s,L,A,cp⟩ h ⟨m,J,M,N,O,P,Q,R,S,T⟩
 refine iy [(0,.func (.yield l) #[] #[]),(1,.pointer (some ⟨b1,0,none⟩)),(2,.pointer (some ⟨b2,0,none⟩))] ?_
 have b:al h gb C:=J
 have o:h.heap[gs]? = some (.cells #[.int .i64 s] 3 (0,0)):=M
 have t:h.heap[gm]? = some (.cells (gt c (.slice A L.length cp)) 30 (0,0)):=N
 have v:h.heap[l]? = some (.loop (eb fn0 tm asg bdy D)):=O
 have d:aS w.heap.size 109 4 (bq true) h (.slice A L.length cp) L:=P
 have ae:aR cK n s C L=aR cK C0.l.length 0 C0 []:=Q
 have af:C.l.length≤n:=R
 have ai:0≤s∧s≤131074*(L.length:Int):=S
 have aj:L.length+n≤C0.l.length:=T
 have hrec:aR cK n s C L=aR cK C0.l.length 0 C0 []:=by assumption
 refine sq<|sg<|?_
 have p:=aC.blk m (aa m1 (aa m2 (aa m3 (aa m4 az)))) hb1
 refine L0<|aO p 0<|L0<|Oc<|mq (eC b)<|?_
 have an:=al.len b
 refine Pl 2<|cu 4 [8] 12 (((decide (0<((C.l.length:Nat) : Int)))&&(C.e==0))) (fun K B=>?_) ?_
 refine bl 8 ((decide (0<((C.l.length:Nat) : Int)))) (fun i=>?_) (fun i=>?_)
 have U:=of_decide_eq_true i
 refine L1<|aO p 0<|L1<|Oc<|mq (bC b)<|?_
 have ao:=al.len b
 exact Pl 2<|ce B (C.e==0) (by rw[i];rfl)
 have U:=of_decide_eq_false i
 exact Pl 4<|ce B false (by rw[i];rfl)
 refine nt<|cb (((decide (0<((C.l.length:Nat) : Int)))&&(C.e==0))) (fun f=>?_) (fun f=>?_)
 have y:=(aT f).1
 have z:=(aT f).2
 have ar:=of_decide_eq_true y
 have au:=ah z
 refine bf<|bk<|sg<|?_
 refine L0<|aO (aC.blk m (aa k1 (aa k2 (aa k3 (aa k4 az)))) hb2) 0<|L0<|aO p 0<|L0<|i2 #[] #[.pointer (some ⟨gs,0,none⟩)] (args:=#[.pointer (some ⟨gb,0,none⟩),.pointer (some ⟨gs,0,none⟩)])<|By (sD (s:=s) b o n1 (by omega)) fun E F av V X Y Z a0 G a1=>?_
 have aw:eK s C=s+(2+2*(aQ C).count):=rfl
 obtain⟨aA,aE⟩:=X
 obtain⟨aF,aH⟩:=Y
 obtain⟨aI,aJ⟩:=Z
 refine L0<|bH #[.int .u16 0,.int .u16 0,.int .u16 0,.slice none 0 0] fun aK aL a2 a3 a4=>L0<|b7 a3 #[.int .u16 ((aQ C).file),.int .u16 ((aQ C).record),.int .u16 ((aQ C).count),.slice E ((aQ C).words.length) F] fun a5 a6 a7=>nt<|sq<|AB 9<|?_
 have j:=ud a4 a7 a2
 have a:=aD a1 j
 refine F0<|aO (aC.blk a (aa m1 (aa m2 az)) p) 0<|?_
 have q:=al.old a0 j
 refine F0<|Oc<|mq (bC q)<|?_
 have aM:=al.len q
 refine Fp<|Fp<|?_
 have H:=ut m a (ac im (ac im ay))
 refine AS 19 ((((eH s C).e)!=0)) (fun k=>?_) (fun k=>?_)
 have a8:=ax k
 refine Fp<|Fp<|Fp<|Fp<|Fp<|tK<|tn<|c1<|rt<|br<|tr<|br<|rr (.tuple #[])<|?_
 have hfin:aR cK C0.l.length 0 C0 []=((eH s C),L):=by
   rw[← hrec]
   rw[show n=(n-1)+1 from by omega]
   simp only[aR,cK,f,y,z,k,bs,if_true,if_false,decide_true,decide_false,reduceIte]
 refine⟨rfl,(eK s C),A,cp,?_⟩
 rw[hfin]
 exact⟨H,q,(ub j G),(aC.blk a (aa (Ne.symm n2) (aa (Ne.symm n4) az)) t),(ap d a (fun x hx=>(aa (fun e=>(aB (al.lt hC) lr d) (e▸hx)) (aa (fun e=>(aB (am hS) lr d) (e▸hx)) az))) (bq.upd16 a (aq (al.safe b _ (by decide)) (aq (aU o (by decide)) aG)))),(aC.blk a (aa (Ne.symm n3) (aa (Ne.symm n5) az)) v)⟩
 have a8:=ag k
 refine Fp<|F0<|bO a6<|?_
 have I:=aC.blk a (aa (Ne.symm n3) (aa (Ne.symm n5) az)) v
 have a9:JR w gb gs gm l c (eb fn0 tm asg bdy D) (eH s C) (eK s C) L A cp a5:=⟨H,q,(ub j G),(aC.blk a (aa (Ne.symm n2) (aa (Ne.symm n4) az)) t),(ap d a (fun x hx=>(aa (fun e=>(aB (al.lt hC) lr d) (e▸hx)) (aa (fun e=>(aB (am hS) lr d) (e▸hx)) az))) (bq.upd16 a (aq (al.safe b _ (by decide)) (aq (aU o (by decide)) aG)))),I⟩
 refine Fy (r:=eb fn0 tm asg bdy D) (.agg #[.int .u16 ((aQ C).file),.int .u16 ((aQ C).record),.int .u16 ((aQ C).count),.slice E ((aQ C).words.length) F]) 53 I rfl<|?_
 refine RoundIn.mono (hround _ _ _ _ _ _ (aQ C) _ _ a9 (dU.upd' V j aG) (ez (by omega)) (ez (by omega)) (ez (by omega)) (by omega)) ?_
 rintro _ aN ⟨rfl,aP,ab,ad,g⟩
 refine⟨_,rfl,?_⟩
 exact Fp<|Fp<|tK<|tn<|c0<|sk<|bn<|gB ((n-1),(eH s C),(eK s C),(L++[(aQ C)]),ab,ad) ⟨g.u,g.hC,g.hS,g.hm,g.hl,g.ho,(by(try dsimp only);rw[← hrec,show n=(n-1)+1 from by omega];simp only[aR,cK,f,y,z,k,bs,if_true,if_false,decide_true,decide_false,Nat.add_sub_cancel,reduceIte]),(by(try dsimp only);have hd:=od s C (by omega);have iO:(cK s C).2.1.l.length=(eH s C).l.length:=rfl;omega),(by(try dsimp only);simp only[List.length_append,List.length_cons,List.length_nil];omega),(by(try dsimp only);simp only[List.length_append,List.length_cons,List.length_nil];omega)⟩ (by omega)
 refine xt<|tx<|tx<|bx<|rm (.tuple #[])<|?_
 have hfin:aR cK C0.l.length 0 C0 []=(C,L):=by
   rw[← hrec]
   exact i3 _ _ _ _ _ (by simp only[f,bs,if_true,if_false,decide_true,decide_false])
 refine⟨rfl,s,A,cp,?_⟩
 rw[hfin]
 exact⟨m,b,o,t,d,v⟩
theorem yk{w:World}{gb gs gm l b1 b2 fn0 D:Nat}{tm:Array Value}{asg bdy:Code}{c:Int}{C0:ak}(hC:al w gb C0)(hS:w.heap[gs]? = some (.cells #[.int .i64 0] 3 (0,0)))(hm:w.heap[gm]? = some (.cells (gt c fZ) 30 (0,0)))
    (hl:w.heap[l]? = some (.loop (eb fn0 tm asg bdy D))) (hb1:w.heap[b1]? = some (.cells #[.pointer (some ⟨gb,0,none⟩)] 113 (0,0))) (hb2:w.heap[b2]? = some (.cells #[.func (.func 254) #[] #[]] 212 (0,0)))
    (n1:gb≠gs) (n2:gb≠gm) (n3:gb≠l) (n4:gs≠gm) (n5:gs≠l) (n6:gm≠l) (m1:b1≠gb) (m2:b1≠gs) (m3:b1≠gm) (m4:b1≠l) (k1:b2≠gb) (k2:b2≠gs) (k3:b2≠gm) (k4:b2≠l) (hround:qq w gb gs gm l c (eb fn0 tm asg bdy D)) :
    Calls Tryz.prog 257 #[.func (.yield l) #[] #[],.pointer (some ⟨b1,0,none⟩),.pointer (some ⟨b2,0,none⟩)] w (fun e W=>e = .returned (.tuple #[])∧∃ s A cp,JR w gb gs gm l c (eb fn0 tm asg bdy D) (aR bK C0.l.length 0 C0 []).1 s (aR bK C0.l.length 0 C0 []).2 A cp W):=by
 have hlen:=hC.len
 refine en 25 Tryz.func257 rfl<|bk<|?_
 refine iN (fun x=>[(0,.func (.yield l) #[] #[]),(1,.pointer (some ⟨b1,0,none⟩)),(2,.pointer (some ⟨b2,0,none⟩))]) (fun(x:Nat × ak × Int × List dj × Option Addr × Nat) w'=>aC [gb,gs,gm,l] w w'∧al w' gb x.2.1∧w'.heap[gs]? = some (.cells #[.int .i64 x.2.2.1] 3 (0,0))∧w'.heap[gm]? = some (.cells (gt c (.slice x.2.2.2.2.1 x.2.2.2.1.length x.2.2.2.2.2)) 30 (0,0))∧w'.heap[l]? = some (.loop (eb fn0 tm asg bdy D))∧aS w.heap.size 109 4 (bq true) w' (.slice x.2.2.2.2.1 x.2.2.2.1.length x.2.2.2.2.2) x.2.2.2.1∧(aR bK x.1 x.2.2.1 x.2.1 x.2.2.2.1=aR bK C0.l.length 0 C0 [])∧(x.2.1.l.length≤x.1)∧(0≤x.2.2.1∧x.2.2.1≤131074*(x.2.2.2.1.length:Int))∧(x.2.2.2.1.length+x.1≤C0.l.length)) (fun x=>x.1) (C0.l.length,C0,0,[],none,0) ⟨aC.refl _ _,hC,hS,hm,hl,aS.nil ..,rfl,(Nat.le_refl _),(by(try dsimp only);omega),(by(try dsimp only);(try simp only[List.length_nil]);omega)⟩ ?_
 rintro⟨n,C,s,L,A,cp⟩ g ⟨k,I,J,M,N,O,P,Q,R,S⟩
 refine iy [(0,.func (.yield l) #[] #[]),(1,.pointer (some ⟨b1,0,none⟩)),(2,.pointer (some ⟨b2,0,none⟩))] ?_
 have b:al g gb C:=I
 have p:g.heap[gs]? = some (.cells #[.int .i64 s] 3 (0,0)):=J
 have q:g.heap[gm]? = some (.cells (gt c (.slice A L.length cp)) 30 (0,0)):=M
 have t:g.heap[l]? = some (.loop (eb fn0 tm asg bdy D)):=N
 have h:aS w.heap.size 109 4 (bq true) g (.slice A L.length cp) L:=O
 have ac:aR bK n s C L=aR bK C0.l.length 0 C0 []:=P
 have ad:C.l.length≤n:=Q
 have ae:0≤s∧s≤131074*(L.length:Int):=R
 have af:L.length+n≤C0.l.length:=S
 have hrec:aR bK n s C L=aR bK C0.l.length 0 C0 []:=by assumption
 refine sq<|sg<|?_
 have m:=aC.blk k (aa m1 (aa m2 (aa m3 (aa m4 az)))) hb1
 refine L0<|aO m 0<|L0<|Oc<|mq (eC b)<|?_
 have ai:=al.len b
 refine Pl 2<|cu 4 [8] 12 (((decide (0<((C.l.length:Nat) : Int)))&&(C.e==0))) (fun K B=>?_) ?_
 refine bl 8 ((decide (0<((C.l.length:Nat) : Int)))) (fun i=>?_) (fun i=>?_)
 have T:=of_decide_eq_true i
 refine L1<|aO m 0<|L1<|Oc<|mq (bC b)<|?_
 have aj:=al.len b
 exact Pl 2<|ce B (C.e==0) (by rw[i];rfl)
 have T:=of_decide_eq_false i
 exact Pl 4<|ce B false (by rw[i];rfl)
 refine nt<|cb (((decide (0<((C.l.length:Nat) : Int)))&&(C.e==0))) (fun d=>?_) (fun d=>?_)
 have v:=(aT d).1
 have y:=(aT d).2
 have am:=of_decide_eq_true v
 have an:=ah y
 refine bf<|bk<|sg<|?_
 refine L0<|aO (aC.blk k (aa k1 (aa k2 (aa k3 (aa k4 az)))) hb2) 0<|L0<|aO m 0<|L0<|i2 #[] #[] (args:=#[.pointer (some ⟨gb,0,none⟩)])<|yT (tb b) fun E F ao U V X Y Z a0=>?_
 obtain⟨ar,au⟩:=V
 obtain⟨av,aw⟩:=X
 obtain⟨ay,aA⟩:=Y
 refine L0<|bH #[.int .u16 0,.int .u16 0,.int .u16 0,.slice none 0 0] fun aE aF a1 a2 a3=>L0<|b7 a2 #[.int .u16 ((eO C).file),.int .u16 ((eO C).record),.int .u16 ((eO C).count),.slice E ((eO C).words.length) F] fun a4 a5 a6=>nt<|sq<|AB 9<|?_
 have z:=ud a3 a6 a1
 have a:=aD a0 z
 refine F0<|aO (aW a m1 m) 0<|?_
 have o:=al.old Z z
 refine F0<|Oc<|mq (bC o)<|?_
 have aH:=al.len o
 refine Fp<|Fp<|?_
 have G:=u1 k a im
 refine AS 19 ((((eN C).e)!=0)) (fun j=>?_) (fun j=>?_)
 have a7:=ax j
 refine Fp<|Fp<|Fp<|Fp<|Fp<|tK<|tn<|c1<|rt<|br<|tr<|br<|rr (.tuple #[])<|?_
 have hfin:aR bK C0.l.length 0 C0 []=((eN C),L):=by
   rw[← hrec]
   rw[show n=(n-1)+1 from by omega]
   simp only[aR,bK,d,v,y,j,bs,if_true,if_false,decide_true,decide_false,reduceIte]
 refine⟨rfl,s,A,cp,?_⟩
 rw[hfin]
 exact⟨G,o,(aW a (Ne.symm n1) p),(aW a (Ne.symm n2) q),(ap h a (fun x hx=>(aa (fun e=>(aB (al.lt hC) lr h) (e▸hx)) az)) (bq.upd16 a (aq (al.safe b _ (by decide)) aG))),(aW a (Ne.symm n3) t)⟩
 have a7:=ag j
 refine Fp<|F0<|bO a5<|?_
 have H:=aW a (Ne.symm n3) t
 have a8:JR w gb gs gm l c (eb fn0 tm asg bdy D) (eN C) s L A cp a4:=⟨G,o,(aW a (Ne.symm n1) p),(aW a (Ne.symm n2) q),(ap h a (fun x hx=>(aa (fun e=>(aB (al.lt hC) lr h) (e▸hx)) az)) (bq.upd16 a (aq (al.safe b _ (by decide)) aG))),H⟩
 refine Fy (r:=eb fn0 tm asg bdy D) (.agg #[.int .u16 ((eO C).file),.int .u16 ((eO C).record),.int .u16 ((eO C).count),.slice E ((eO C).words.length) F]) 53 H rfl<|?_
 refine RoundIn.mono (hround _ _ _ _ _ _ (eO C) _ _ a8 (dU.upd' U z aG) (ez (by omega)) (ez (by omega)) (ez (by omega)) (by omega)) ?_
 rintro _ aI ⟨rfl,aJ,a9,ab,f⟩
 refine⟨_,rfl,?_⟩
 exact Fp<|Fp<|tK<|tn<|c0<|sk<|bn<|gB ((n-1),(eN C),s,(L++[(eO C)]),a9,ab) ⟨f.u,f.hC,f.hS,f.hm,f.hl,f.ho,(by(try dsimp only);rw[← hrec,show n=(n-1)+1 from by omega];simp only[aR,bK,d,v,y,j,bs,if_true,if_false,decide_true,decide_false,Nat.add_sub_cancel,reduceIte]),(by(try dsimp only);have hd:=jm s C (by omega);have iO:(bK s C).2.1.l.length=(eN C).l.length:=rfl;omega),(by(try dsimp only);simp only[List.length_append,List.length_cons,List.length_nil];omega),(by(try dsimp only);simp only[List.length_append,List.length_cons,List.length_nil];omega)⟩ (by omega)
 refine xt<|tx<|tx<|bx<|rm (.tuple #[])<|?_
 have hfin:aR bK C0.l.length 0 C0 []=(C,L):=by
   rw[← hrec]
   exact i3 _ _ _ _ _ (by simp only[d,bs,if_true,if_false,decide_true,decide_false])
 refine⟨rfl,s,A,cp,?_⟩
 rw[hfin]
 exact⟨k,b,p,q,h,t⟩
theorem zc{w:World}{gb gs gm l b1 b2 fn0 D:Nat}{tm:Array Value}{asg bdy:Code}{c:Int}{C0:ak}(hC:al w gb C0)(hS:w.heap[gs]? = some (.cells #[.int .i64 0] 3 (0,0)))(hm:w.heap[gm]? = some (.cells (gt c fZ) 30 (0,0)))
    (hl:w.heap[l]? = some (.loop (eb fn0 tm asg bdy D))) (hb1:w.heap[b1]? = some (.cells #[.pointer (some ⟨gb,0,none⟩)] 113 (0,0))) (hb2:w.heap[b2]? = some (.cells #[.func (.func 256) #[] #[]] 212 (0,0)))
    (n1:gb≠gs) (n2:gb≠gm) (n3:gb≠l) (n4:gs≠gm) (n5:gs≠l) (n6:gm≠l) (m1:b1≠gb) (m2:b1≠gs) (m3:b1≠gm) (m4:b1≠l) (k1:b2≠gb) (k2:b2≠gs) (k3:b2≠gm) (k4:b2≠l) (hround:qq w gb gs gm l c (eb fn0 tm asg bdy D)) :
    Calls Tryz.prog 257 #[.func (.yield l) #[] #[],.pointer (some ⟨b1,0,none⟩),.pointer (some ⟨b2,0,none⟩)] w (fun e W=>e = .returned (.tuple #[])∧∃ s A cp,JR w gb gs gm l c (eb fn0 tm asg bdy D) (aR cM C0.l.length 0 C0 []).1 s (aR cM C0.l.length 0 C0 []).2 A cp W):=by
 have hlen:=hC.len
 refine en 25 Tryz.func257 rfl<|bk<|?_
 refine iN (fun x=>[(0,.func (.yield l) #[] #[]),(1,.pointer (some ⟨b1,0,none⟩)),(2,.pointer (some ⟨b2,0,none⟩))]) (fun(x:Nat × ak × Int × List dj × Option Addr × Nat) w'=>aC [gb,gs,gm,l] w w'∧al w' gb x.2.1∧w'.heap[gs]? = some (.cells #[.int .i64 x.2.2.1] 3 (0,0))∧w'.heap[gm]? = some (.cells (gt c (.slice x.2.2.2.2.1 x.2.2.2.1.length x.2.2.2.2.2)) 30 (0,0))∧w'.heap[l]? = some (.loop (eb fn0 tm asg bdy D))∧aS w.heap.size 109 4 (bq true) w' (.slice x.2.2.2.2.1 x.2.2.2.1.length x.2.2.2.2.2) x.2.2.2.1∧(aR cM x.1 x.2.2.1 x.2.1 x.2.2.2.1=aR cM C0.l.length 0 C0 [])∧(x.2.1.l.length≤x.1)∧(0≤x.2.2.1∧x.2.2.1≤131074*(x.2.2.2.1.length:Int))∧(x.2.2.2.1.length+x.1≤C0.l.length)) (fun x=>x.1) (C0.l.length,C0,0,[],none,0) ⟨aC.refl _ _,hC,hS,hm,hl,aS.nil ..,rfl,(Nat.le_refl _),(by(try dsimp only);omega),(by(try dsimp only);(try simp only[List.length_nil]);omega)⟩ ?_
 rintro⟨n,C,s,L,A,cp⟩ g ⟨k,I,J,M,N,O,P,Q,R,S⟩
 refine iy [(0,.func (.yield l) #[] #[]),(1,.pointer (some ⟨b1,0,none⟩)),(2,.pointer (some ⟨b2,0,none⟩))] ?_
 have b:al g gb C:=I
 have p:g.heap[gs]? = some (.cells #[.int .i64 s] 3 (0,0)):=J
 have q:g.heap[gm]? = some (.cells (gt c (.slice A L.length cp)) 30 (0,0)):=M
 have t:g.heap[l]? = some (.loop (eb fn0 tm asg bdy D)):=N
 have h:aS w.heap.size 109 4 (bq true) g (.slice A L.length cp) L:=O
 have ac:aR cM n s C L=aR cM C0.l.length 0 C0 []:=P
 have ad:C.l.length≤n:=Q
 have ae:0≤s∧s≤131074*(L.length:Int):=R
 have af:L.length+n≤C0.l.length:=S
 have hrec:aR cM n s C L=aR cM C0.l.length 0 C0 []:=by assumption
 refine sq<|sg<|?_
 have m:=aC.blk k (aa m1 (aa m2 (aa m3 (aa m4 az)))) hb1
 refine L0<|aO m 0<|L0<|Oc<|mq (eC b)<|?_
 have ai:=al.len b
 refine Pl 2<|cu 4 [8] 12 (((decide (0<((C.l.length:Nat) : Int)))&&(C.e==0))) (fun K B=>?_) ?_
 refine bl 8 ((decide (0<((C.l.length:Nat) : Int)))) (fun i=>?_) (fun i=>?_)
 have T:=of_decide_eq_true i
 refine L1<|aO m 0<|L1<|Oc<|mq (bC b)<|?_
 have aj:=al.len b
 exact Pl 2<|ce B (C.e==0) (by rw[i];rfl)
 have T:=of_decide_eq_false i
 exact Pl 4<|ce B false (by rw[i];rfl)
 refine nt<|cb (((decide (0<((C.l.length:Nat) : Int)))&&(C.e==0))) (fun d=>?_) (fun d=>?_)
 have v:=(aT d).1
 have y:=(aT d).2
 have am:=of_decide_eq_true v
 have an:=ah y
 refine bf<|bk<|sg<|?_
 refine L0<|aO (aC.blk k (aa k1 (aa k2 (aa k3 (aa k4 az)))) hb2) 0<|L0<|aO m 0<|L0<|i2 #[] #[] (args:=#[.pointer (some ⟨gb,0,none⟩)])<|yT (wd b) fun E F ao U V X Y Z a0=>?_
 obtain⟨ar,au⟩:=V
 obtain⟨av,aw⟩:=X
 obtain⟨ay,aA⟩:=Y
 refine L0<|bH #[.int .u16 0,.int .u16 0,.int .u16 0,.slice none 0 0] fun aE aF a1 a2 a3=>L0<|b7 a2 #[.int .u16 ((j5 C).file),.int .u16 ((j5 C).record),.int .u16 ((j5 C).count),.slice E ((j5 C).words.length) F] fun a4 a5 a6=>nt<|sq<|AB 9<|?_
 have z:=ud a3 a6 a1
 have a:=aD a0 z
 refine F0<|aO (aW a m1 m) 0<|?_
 have o:=al.old Z z
 refine F0<|Oc<|mq (bC o)<|?_
 have aH:=al.len o
 refine Fp<|Fp<|?_
 have G:=u1 k a im
 refine AS 19 ((((jb C).e)!=0)) (fun j=>?_) (fun j=>?_)
 have a7:=ax j
 refine Fp<|Fp<|Fp<|Fp<|Fp<|tK<|tn<|c1<|rt<|br<|tr<|br<|rr (.tuple #[])<|?_
 have hfin:aR cM C0.l.length 0 C0 []=((jb C),L):=by
   rw[← hrec]
   rw[show n=(n-1)+1 from by omega]
   simp only[aR,cM,d,v,y,j,bs,if_true,if_false,decide_true,decide_false,reduceIte]
 refine⟨rfl,s,A,cp,?_⟩
 rw[hfin]
 exact⟨G,o,(aW a (Ne.symm n1) p),(aW a (Ne.symm n2) q),(ap h a (fun x hx=>(aa (fun e=>(aB (al.lt hC) lr h) (e▸hx)) az)) (bq.upd16 a (aq (al.safe b _ (by decide)) aG))),(aW a (Ne.symm n3) t)⟩
 have a7:=ag j
 refine Fp<|F0<|bO a5<|?_
 have H:=aW a (Ne.symm n3) t
 have a8:JR w gb gs gm l c (eb fn0 tm asg bdy D) (jb C) s L A cp a4:=⟨G,o,(aW a (Ne.symm n1) p),(aW a (Ne.symm n2) q),(ap h a (fun x hx=>(aa (fun e=>(aB (al.lt hC) lr h) (e▸hx)) az)) (bq.upd16 a (aq (al.safe b _ (by decide)) aG))),H⟩
 refine Fy (r:=eb fn0 tm asg bdy D) (.agg #[.int .u16 ((j5 C).file),.int .u16 ((j5 C).record),.int .u16 ((j5 C).count),.slice E ((j5 C).words.length) F]) 53 H rfl<|?_
 refine RoundIn.mono (hround _ _ _ _ _ _ (j5 C) _ _ a8 (dU.upd' U z aG) (ez (by omega)) (ez (by omega)) (ez (by omega)) (by omega)) ?_
 rintro _ aI ⟨rfl,aJ,a9,ab,f⟩
 refine⟨_,rfl,?_⟩
 exact Fp<|Fp<|tK<|tn<|c0<|sk<|bn<|gB ((n-1),(jb C),s,(L++[(j5 C)]),a9,ab) ⟨f.u,f.hC,f.hS,f.hm,f.hl,f.ho,(by(try dsimp only);rw[← hrec,show n=(n-1)+1 from by omega];simp only[aR,cM,d,v,y,j,bs,if_true,if_false,decide_true,decide_false,Nat.add_sub_cancel,reduceIte]),(by(try dsimp only);have hd:=nG s C (by omega);have iO:(cM s C).2.1.l.length=(jb C).l.length:=rfl;omega),(by(try dsimp only);simp only[List.length_append,List.length_cons,List.length_nil];omega),(by(try dsimp only);simp only[List.length_append,List.length_cons,List.length_nil];omega)⟩ (by omega)
 refine xt<|tx<|tx<|bx<|rm (.tuple #[])<|?_
 have hfin:aR cM C0.l.length 0 C0 []=(C,L):=by
   rw[← hrec]
   exact i3 _ _ _ _ _ (by simp only[d,bs,if_true,if_false,decide_true,decide_false])
 refine⟨rfl,s,A,cp,?_⟩
 rw[hfin]
 exact⟨k,b,p,q,h,t⟩
open Go.RowKit
def fC (n:Int) : Bool:=(decide (7≤n)&&decide (n≤245))&&n%7==0
def fA (n:Int) : Bool:=decide (4≤n)&&decide (n≤245)
def fL (n:Int) : Bool:=decide (9≤n)&&decide (n≤251)
def kM (may:Int→Bool)(C:ak) : ak:=(C.bytesC 1).need (may C.byteV) 5
def vX (may:Int→Bool)(C:ak) : ak:=⟨(kM may C).bytesR C.byteV,false,0⟩
def qj (one:Int→ak→Int × ak × dj)(may:Int→Bool)(C:ak) : ak × List dj:=aR one (vX may C).l.length 0 (vX may C) []
def bp (e:Int) : Int:=if e==2 then 5 else e
def dK (one:Int→ak→Int × ak × dj)(may:Int→Bool)(c:Int)(C:ak) : ak × aP :=
  (((kM may C).bytesC C.byteV).need ((qj one may C).1.e==0) (bp (qj one may C).1.e),{ aP.zero with code:=c,recs:=(qj one may C).2 })
def aX (dir c:Int)(C:ak) : Option (ak × aP) :=
  if c==20 then (if dir==0 then some (dK cK fC c C) else some (dK bK fA c C)) else if c==21 then some (dK cM fL c C) else none
theorem uO:((20:Int)==20)=true:=rfl
theorem uY:((21:Int)==20)=false:=rfl
theorem uA:((21:Int)==21)=true:=rfl
theorem ph{m:Md}{A:Option Addr}{cp:Nat}{b:List Int}{w:World}{dir:Int}(hd:dir=0∨dir=1)(hsl:b9 m w (.slice A b.length cp) b)(hb:b.length≤1048576) :
    Calls Tryz.prog 144 #[.int .i64 0,.int .u8 20,.slice A b.length cp] w (dX (ai aX 0 20 b) w):=by
 have hln:(b.length:Int)≤1048576:=by omega
 have cH:((dir != 0)&&(dir != 1))=false:=by rcases hd with rfl | rfl<;>rfl
 refine zv 77 Tryz.func144 rfl<|sg<|L0<|bH mZ fun a9 cI bh K ad=>Pl 1<|nt<|sq<|sg<|Pl 6<|nt<|c0<|?_
 refine bf<|sg<|Pl 2<|L0<|Oc (args:=#[.int .i64 0,.int .u8 20])<|e3 wK fun v cJ Z G N=>Pl 3<|L0<|bH #[.nilFunc,.nilFunc] fun cM cN cd bi z=>L0<|b7 bi #[.func (.func 252) #[] #[],.func (.func 250) #[] #[.pointer (some ⟨v,0,none⟩)]] fun cO ce t=>Pl 1<|nt<|sq<|sq<|?_
 refine go<|Pl 2<|nt<|c0<|bf<|sg<|Pl 1<|?_
 have ae:=ud z t cd
 have a0:=aD N ae
 have bl:=aD ad a0
 refine L0<|Oc<|e3 (ec (b9.old hsl bl) (by omega)) fun a1 cQ U M r=>Pl 1<|ng<|Pl 1<|L0<|Oc<|m3 (bY M) fun cR cf o cS=>L0<|Oi ((ak.mk b false 0).byteV)<|Pl 1<|ng<|?_
 refine Pl 2<|?_
 have aH:=ud r o U
 have bm:=ub aH ce
 refine L0<|aO bm 0<|Pl 1<|L0<|i2 #[] #[] (args:=#[.int .i64 ((ak.mk b false 0).byteV)])<|m1 (qH (n:=(ak.mk b false 0).byteV) (by omega)) fun cT d=>?_
 refine L0<|Oc<|m2 (be ((fC ((ak.mk b false 0).byteV))) 5 (al.old cf d)) fun cU cg i=>?_
 refine ab cg fun x49 bo br=>?_
 refine ng<|Pl 2<|L0<|Oc<|tL (cE (n:=(ak.mk b false 0).byteV) br) fun cV cW cX ch cY cZ ci j=>?_
 have d0:=Nat.le_trans (ak.bytesR_le x49 ((ak.mk b false 0).byteV)) (al.len br)
 refine ab ci fun x58 bt aI=>?_
 refine L0<|Oc<|e3 (ec ch (by omega)) fun O d1 P Q g=>Pl 1<|ng<|Pl 2<|L0<|bH mZ fun B d2 H V p=>L0<|b7 V (mC 20) fun d3 cl h=>nt<|sq<|sg<|?_
 refine Pl 2<|?_
 have af:=ud p h H
 have ah:=aD g af
 have bu:=uz d (u1 i (aD j ah) im)
 refine L0<|aO (aW bu (nb (am bi) t.size U) bm) 1<|L0<|Oc<|yT (l8 (gb:=O) (f:=.func 250) (x:=#[]) (y:=#[.pointer (some ⟨v,0,none⟩)])) fun cm cn d4 aJ aK d5 bv bw k=>nt<|bk<|?_
 refine rj (f:=257) #[.pointer (some ⟨cm,0,none⟩),.pointer (some ⟨cn,0,none⟩)] fun a ha=>?_
 intro d6 co I d7 D E bx aj S J
 have bA:=nb (al.lt Q) lr H
 have an:=nb (al.lt Q) (le (le p.size h.size) k.size) E
 have bB:=nb (am G) (le (le (le (le (le (le (le z.size t.size) r.size) o.size) d.size) i.size) j.size) g.size) H
 have bD:=nb (am G) (le (le (le (le (le (le (le (le (le (le z.size t.size) r.size) o.size) d.size) i.size) j.size) g.size) p.size) h.size) k.size) E
 have a2:=nb (am V) (le h.size k.size) E
 have X:=aD k J
 have bF:=al.old Q (aD af X)
 have ao:=ud aH (aD bu X) U
 have bG:=ub (aD ae ao) G
 have aM:=ub X cl
 refine(yv (c:=20) bF bG aM S (ub J bv) (ub J bw) (Ne.symm (nb (am G) (le (le (le (le (le (le z.size t.size) r.size) o.size) d.size) i.size) j.size) P)) bA an bB bD a2 (Ne.symm (nb (al.lt Q) af.size aJ)) (Ne.symm (nb (am G) (le (le (le (le (le (le (le (le (le z.size t.size) r.size) o.size) d.size) i.size) j.size) g.size) p.size) h.size) aJ)) (Ne.symm (nb (am V) h.size aJ)) (nb (am bv) lr E) (Ne.symm (nb (al.lt Q) af.size aK)) (Ne.symm (nb (am G) (le (le (le (le (le (le (le (le (le z.size t.size) r.size) o.size) d.size) i.size) j.size) g.size) p.size) h.size) aK)) (Ne.symm (nb (am V) h.size aK)) (nb (am bw) lr E) ?_).mono ?_
 intro W C s L Ar cr x Ax cx hJ hrd hx1 hx2 hx3 hL
 simp only[dp] at hx1 hx2 hx3
 have hm2:W.heap[B]? = some (.cells #[.int .u8 20,.int .u8 0,.int .u16 0,.int .u16 0,.int .u16 0,.int .u16 0,.int .u16 0,.int .u16 0,.int .u16 0,.int .u16 0,.int .u16 0,.int .u16 0,.slice none 0 0,.slice none 0 0,.slice none 0 0,.slice Ar L.length cr,.int .u8 0,.int .u8 0,.int .u8 0,.int .u8 0,.int .u8 0,.slice none 0 0] 30 (0,0)):=hJ.hm
 refine lz hJ.hl ?_
 refine Av ha 53<|zy<|mF<|bH #[.int .u16 0,.int .u16 0,.int .u16 0,.slice none 0 0] fun d8 d9 bI cq bJ=>mF<|b7 cq #[.int .u16 x.file,.int .u16 x.record,.int .u16 x.count,.slice Ax x.words.length cx] fun da cs bK=>tK<|?_
 have bL:=ud bJ bK bI
 refine AV (ub bL hJ.hl) (by trivial) fun db ct aQ=>As<|zy<|zz<|?_
 have aS:=uz bL aQ
 have bM:=aW aS a2 hm2
 refine mF<|aO bM 15<|?_
 refine mF<|bO (aW aQ (Ne.symm (nb (am S) hJ.u.size bI)) cs)<|mF<|cL (m:=1) (e:=109) #[.int .u16 x.file,.int .u16 x.record,.int .u16 x.count,.slice Ax x.words.length cx] fun dc dd de cu aT=>?_
 have Y:=aD aS aT
 have cv:=kP (R:=bq true) (x:=(dj.mk x.file x.record x.count x.words)) cu rfl ⟨_,rfl,(dU.updl hrd Y hJ.hl rfl),ez (by omega),ez (by omega),ez (by omega)⟩
 have aV:=ap hJ.ho Y (fun x hx=>(aa (fun e=>(aB (am S) lr hJ.ho) (e▸hx)) az)) (bq.updl Y hJ.hl rfl)
 refine mF<|ie (xs:=L) (ys:=([(dj.mk x.file x.record x.count x.words)])) (.agg #[.int .u16 0,.int .u16 0,.int .u16 0,.slice none 0 0]) 4 32 aV cv (by simp) bq.ones (fun w' hv=>bq.upd16 hv (cP (dt _ aV (by decide)) aG)) (by(try simp only[List.length_append,List.length_cons,List.length_nil,aA]);omega) (le (le (le (le hJ.u.size bJ.size) bK.size) aQ.size) aT.size) fun bN bP df aY ar=>zz<|?_
 have bQ:=ut (aC.mono (S':=(ob Ar++[])) aT ay) ar (av il ay)
 have aZ:=aC.blk bQ (bj (aB (am aM) lr hJ.ho) az) bM
 refine mF<|bX aZ 15 (mG 20 0 0 0 0 0 0 0 0 0 0 0 nS nS nS (.slice bN ((L++[(dj.mk x.file x.record x.count x.words)]).length) bP) 0 0 0 0 0 nS) fun dg cw a3=>tK<|bn<|?_
 have bR:=u1 (aC.mono (S':=(ob Ar++(B :: []))) bQ (av il ay)) a3 im
 have b0:=aC.blk bR (bj (aB (am S) lr hJ.ho) (aa (Ne.symm a2) az)) ct
 refine AZ b0 fun dh cy a4=>?_
 have b1:=ut (aC.mono (S':=(I :: (ob Ar++(B :: [])))) Y (ac im ay)) (ut (aC.mono (S':=(ob Ar++(B :: (I :: [])))) ar (av il ay)) (us a3 a4) (ac im (ac im ay))) (av il (ac im (ac im ay)))
 have di:=ut hJ.u (ut (aC.mono (S':=(I :: (ob Ar++(B :: [])))) aS (ac im ay)) bR (av il (ac im ay))) (ac im (av (aN hJ.ho lr) (ac im ay)))
 have dk:=ut hJ.u (ut (aC.mono (S':=(I :: (ob Ar++[]))) Y (ac im ay)) ar (av il ay)) (ac im (av (aN hJ.ho lr) ay))
 exact⟨by trivial,b1.size,bN,bP,⟨(ut hJ.u b1 (ac im (av (aN hJ.ho lr) (ac im ay)))),(al.updl (al.upd (al.upd (al.updl hJ.hC Y (aa an az) hJ.hl rfl) ar (bj (aB (al.lt bF) lr hJ.ho) az) (cP (dt _ aV (by decide)) aG)) a3 (aa bA az) (aq (aU aZ (by decide)) aG)) a4 (aa an az) b0 rfl),(aC.blk b1 (aa bD (bj (aB (am bG) lr hJ.ho) (aa bB az))) hJ.hS),(aW a4 a2 cw),(ap (ap aY a3 (fun x hx=>(aa (fun e=>(aB (am aM) lr aY) (e▸hx)) az)) (bq.upd16 a3 (aq (aU aZ (by decide)) aG))) a4 (fun x hx=>(aa (fun e=>(aB (am S) lr aY) (e▸hx)) az)) (bq.updl a4 b0 rfl)),cy⟩⟩
 rintro _ cz ⟨rfl,dl,bS,bT,q⟩
 refine⟨_,_,rfl,q.hl,by simp[eb],by trivial,fun dm bU=>?_⟩
 refine ab q.hC fun b2 bV cA=>?_
 have cB:cz.heap[B]? = some (.cells #[.int .u8 20,.int .u8 0,.int .u16 0,.int .u16 0,.int .u16 0,.int .u16 0,.int .u16 0,.int .u16 0,.int .u16 0,.int .u16 0,.int .u16 0,.int .u16 0,.slice none 0 0,.slice none 0 0,.slice none 0 0,.slice bS ((aR cK (ak.mk (x49.bytesR ((ak.mk b false 0).byteV)) false 0).l.length 0 (ak.mk (x49.bytesR ((ak.mk b false 0).byteV)) false 0) []).2.length) bT,.int .u8 0,.int .u8 0,.int .u8 0,.int .u8 0,.int .u8 0,.slice none 0 0] 30 (0,0)):=q.hm
 refine bn<|tn<|sg<|Pl 2<|?_
 have au:=al.updl cA bU (aa an az) q.hl rfl
 refine L0<|Oc<|mq (bC au)<|?_
 have dn:=al.len au
 refine Pl 2<|L0<|Oc<|mq (bC au)<|?_
 have dq:=al.len au
 refine L0<|Oc<|m1 (j9 (e:=b2.e)) fun dr cC=>?_
 have F:=aD bU cC
 have bW:=u1 q.u F im
 have b3:=nb (am G) ae.size U
 have aw:=ud aH (uz d (u1 i j im)) U
 have b4:=ub (aD ae aw) G
 have b5:=al.upd aI (ut (aC.mono (S':=[v]) ah ay) (ut (aC.mono (S':=[O,v,B]) X ay) bW (ac im (ac im (ac im (ac (ni k.size E) ay))))) (ac (nr P) (ac im (ac (ni g.size H) ay)))) (aa (Ne.symm b3) az) (aq (aU b4 (by decide)) aG)
 refine L0<|Oc<|m2 (be ((b2.e==0)) (bp b2.e) b5) fun ds cD T=>?_
 refine ab cD fun bZ c1 b8=>?_
 refine ng<|Pl 1<|L0<|Oc<|m2 (ck b8) fun du c2 a5=>nt<|sq<|sg<|Pl 1<|L0<|Oc<|mq (bC c2)<|?_
 have dv:=al.len c2
 refine Pl 1<|ng<|Pl 2<|nt<|?_
 have a6:=u1 T a5 im
 have ba:=u1 (aC.mono (S':=[O,v,B,I,a1]) bW (ac im (ac im (ac im (ac im ay))))) a6 im
 have bb:=ut (aC.mono (S':=[v]) ao ay) ba (ac (ni aw.size P) (ac im (ac (ni (le (le (le (le (le r.size o.size) d.size) i.size) j.size) g.size) H) (ac (ni (le (le (le (le (le (le (le (le r.size o.size) d.size) i.size) j.size) g.size) p.size) h.size) k.size) E) (ac (nr U) ay)))))
 have c3:=ud bl bb (le ad.size Z)
 have hs:ai aX 0 20 b=b6 (aP.mk 20 0 0 0 0 0 0 0 0 0 0 0 [] [] [] (aR cK (ak.mk ((((ak.mk b false 0).bytesC 1).need (fC ((ak.mk b false 0).byteV)) 5).bytesR ((ak.mk b false 0).byteV)) false 0).l.length 0 (ak.mk ((((ak.mk b false 0).bytesC 1).need (fC ((ak.mk b false 0).byteV)) 5).bytesR ((ak.mk b false 0).byteV)) false 0) []).2 0 0 0 0 0 []) (((((ak.mk b false 0).bytesC 1).need (fC ((ak.mk b false 0).byteV)) 5).bytesC ((ak.mk b false 0).byteV)).need (((aR cK (ak.mk ((((ak.mk b false 0).bytesC 1).need (fC ((ak.mk b false 0).byteV)) 5).bytesR ((ak.mk b false 0).byteV)) false 0).l.length 0 (ak.mk ((((ak.mk b false 0).bytesC 1).need (fC ((ak.mk b false 0).byteV)) 5).bytesR ((ak.mk b false 0).byteV)) false 0) []).1).e==0) (bp ((aR cK (ak.mk ((((ak.mk b false 0).bytesC 1).need (fC ((ak.mk b false 0).byteV)) 5).bytesR ((ak.mk b false 0).byteV)) false 0).l.length 0 (ak.mk ((((ak.mk b false 0).bytesC 1).need (fC ((ak.mk b false 0).byteV)) 5).bytesR ((ak.mk b false 0).byteV)) false 0) []).1).e)):=by
   unfold ai aX dK qj vX kM
   (try simp only[bs,if_true,if_false,decide_true,decide_false,eq_self,true_or,or_true,or_false,false_or,if_true,if_false,dE,dC,dD,dF,reduceIte,uO,uY,uA])
   all_goals rfl
 refine cb ((bZ.endC.e != 0)) (fun bc=>?_) (fun bc=>?_)
 have bd:=ax bc
 refine sg<|Pl 2<|?_
 have c4:=ub (ud a0 bb Z) K
 refine L0<|b7 c4 mZ fun dw cF a7=>Pl 1<|nt<|rt<|tr<|?_
 have c5:=nb (am K) (le (le (le (le (le (le (le (le (le (le (le N.size z.size) t.size) r.size) o.size) d.size) i.size) j.size) g.size) p.size) h.size) k.size) D
 have c6:=aC.blk (u1 (aC.mono (S':=[O,v,B,I,a1,a9]) ba (ac im (ac im (ac im (ac im (ac im ay)))))) a7 im) (aa (Ne.symm (nb (al.lt Q) (le (le p.size h.size) k.size) D)) (aa (Ne.symm (nb (am G) (le (le (le (le (le (le (le (le (le (le z.size t.size) r.size) o.size) d.size) i.size) j.size) g.size) p.size) h.size) k.size) D)) (aa (Ne.symm (nb (am V) (le h.size k.size) D)) (aa bx (aa (Ne.symm (nb (al.lt M) (le (le (le (le (le (le (le o.size d.size) i.size) j.size) g.size) p.size) h.size) k.size) D)) (aa (Ne.symm c5) az)))))) aj
 refine zu c6 fun dx aE=>?_
 refine rx (aW aE c5 cF) (.int .i64 bZ.endC.e)<|?_
 subst c1 bV bt bo
 have c7:=us a7 aE
 have dy:=us F (us a6 c7)
 have dz:=us F (us a6 a7)
 have dA:=ub (ud a0 (ut (aC.mono (S':=[v]) ao ay) q.u (ac (ni aw.size P) (ac im (ac (ni (le (le (le (le (le r.size o.size) d.size) i.size) j.size) g.size) H) (ac (ni (le (le (le (le (le (le (le (le r.size o.size) d.size) i.size) j.size) g.size) p.size) h.size) k.size) E) ay))))) Z) K
 have dB:=al.upd aI (ut (aC.mono (S':=[v]) ah ay) (ut (aC.mono (S':=[O,v,B]) X ay) q.u (ac im (ac im (ac im (ac (ni k.size E) ay))))) (ac (nr P) (ac im (ac (ni g.size H) ay)))) (aa (Ne.symm b3) az) (aq (aU b4 (by decide)) aG)
 have dG:=us F a6
 have dH:=us F T
 have dI:=ap (ap (ap (ap (ap q.ho F (fun x hx=>(aa (fun e=>(aB (am S) lr q.ho) (e▸hx)) az)) (bq.updl F q.hl rfl)) T (fun x hx=>(aa (fun e=>(aB (al.lt M) (le (le (le (le (le (le (le (le o.size d.size) i.size) j.size) g.size) p.size) h.size) k.size) J.size) q.ho) (e▸hx)) az)) (bq.upd16 T (aq (al.safe b5 _ (by decide)) aG))) a5 (fun x hx=>(aa (fun e=>(aB (al.lt M) (le (le (le (le (le (le (le (le o.size d.size) i.size) j.size) g.size) p.size) h.size) k.size) J.size) q.ho) (e▸hx)) az)) (bq.upd16 a5 (aq (al.safe b8 _ (by decide)) aG))) a7 (fun x hx=>(aa (fun e=>(aB (am K) (le (le (le (le (le (le (le (le (le (le (le (le N.size z.size) t.size) r.size) o.size) d.size) i.size) j.size) g.size) p.size) h.size) k.size) J.size) q.ho) (e▸hx)) az)) (bq.upd16 a7 (aq (aU c4 (by decide)) aG))) aE (fun x hx=>(aa (fun e=>(aB (am aj) lr q.ho) (e▸hx)) az)) (bq.updl aE c6 rfl)
 rw[hs]
 exact bz bd (ut c3 c7 (ac (nr bh) (ac (ni (le (le (le (le (le (le (le (le (le (le (le (le ad.size N.size) z.size) t.size) r.size) o.size) d.size) i.size) j.size) g.size) p.size) h.size) k.size) D) ay)))
 have bd:=ag bc
 refine bf<|sg<|?_
 have bg:=us F a6
 refine L0<|bO (aC.blk bg (aa a2 (aa (Ne.symm (nb (al.lt M) (le (le (le (le o.size d.size) i.size) j.size) g.size) H)) az)) cB)<|?_
 have c8:=ub (ud a0 bb Z) K
 refine L0<|b7 c8 (mG 20 0 0 0 0 0 0 0 0 0 0 0 nS nS nS (.slice bS ((aR cK (ak.mk (x49.bytesR ((ak.mk b false 0).byteV)) false 0).l.length 0 (ak.mk (x49.bytesR ((ak.mk b false 0).byteV)) false 0) []).2.length) bT) 0 0 0 0 0 nS) fun dJ cG a8=>Pl 1<|nt<|rt<|?_
 have c9:=nb (am K) (le (le (le (le (le (le (le (le (le (le (le N.size z.size) t.size) r.size) o.size) d.size) i.size) j.size) g.size) p.size) h.size) k.size) D
 have ca:=aC.blk (u1 (aC.mono (S':=[O,v,B,I,a1,a9]) ba (ac im (ac im (ac im (ac im (ac im ay)))))) a8 im) (aa (Ne.symm (nb (al.lt Q) (le (le p.size h.size) k.size) D)) (aa (Ne.symm (nb (am G) (le (le (le (le (le (le (le (le (le (le z.size t.size) r.size) o.size) d.size) i.size) j.size) g.size) p.size) h.size) k.size) D)) (aa (Ne.symm (nb (am V) (le h.size k.size) D)) (aa bx (aa (Ne.symm (nb (al.lt M) (le (le (le (le (le (le (le o.size d.size) i.size) j.size) g.size) p.size) h.size) k.size) D)) (aa (Ne.symm c9) az)))))) aj
 refine zu ca fun dL aF=>?_
 refine rx (aW aF c9 cG) (.int .i64 0)<|?_
 subst c1 bV bt bo
 have cc:=us a8 aF
 have dM:=ut (aC.mono (S':=[I,a1,a9,co]) bg (ac im (ac im ay))) cc (ac im (ac im ay))
 have dN:=u1 (aC.mono (S':=[I,a1,a9]) bg (ac im (ac im ay))) a8 im
 have dO:=ub (ud a0 (ut (aC.mono (S':=[v]) ao ay) q.u (ac (ni aw.size P) (ac im (ac (ni (le (le (le (le (le r.size o.size) d.size) i.size) j.size) g.size) H) (ac (ni (le (le (le (le (le (le (le (le r.size o.size) d.size) i.size) j.size) g.size) p.size) h.size) k.size) E) ay))))) Z) K
 have dP:=al.upd aI (ut (aC.mono (S':=[v]) ah ay) (ut (aC.mono (S':=[O,v,B]) X ay) q.u (ac im (ac im (ac im (ac (ni k.size E) ay))))) (ac (nr P) (ac im (ac (ni g.size H) ay)))) (aa (Ne.symm b3) az) (aq (aU b4 (by decide)) aG)
 have dQ:=us F T
 rw[hs]
 exact bE bd ⟨_,_,_,_,_,rfl,aL.nil ..,aL.nil ..,aL.nil ..,((ap (ap (ap (ap (ap q.ho F (fun x hx=>(aa (fun e=>(aB (am S) lr q.ho) (e▸hx)) az)) (bq.updl F q.hl rfl)) T (fun x hx=>(aa (fun e=>(aB (al.lt M) (le (le (le (le (le (le (le (le o.size d.size) i.size) j.size) g.size) p.size) h.size) k.size) J.size) q.ho) (e▸hx)) az)) (bq.upd16 T (aq (al.safe b5 _ (by decide)) aG))) a5 (fun x hx=>(aa (fun e=>(aB (al.lt M) (le (le (le (le (le (le (le (le o.size d.size) i.size) j.size) g.size) p.size) h.size) k.size) J.size) q.ho) (e▸hx)) az)) (bq.upd16 a5 (aq (al.safe b8 _ (by decide)) aG))) a8 (fun x hx=>(aa (fun e=>(aB (am K) (le (le (le (le (le (le (le (le (le (le (le (le N.size z.size) t.size) r.size) o.size) d.size) i.size) j.size) g.size) p.size) h.size) k.size) J.size) q.ho) (e▸hx)) az)) (bq.upd16 a8 (aq (aU c8 (by decide)) aG))) aF (fun x hx=>(aa (fun e=>(aB (am aj) lr q.ho) (e▸hx)) az)) (bq.updl aF ca rfl))).rd,aL.nil ..,(cj (by omega))⟩ (ut c3 cc (ac (nr bh) (ac (ni (le (le (le (le (le (le (le (le (le (le (le (le ad.size N.size) z.size) t.size) r.size) o.size) d.size) i.size) j.size) g.size) p.size) h.size) k.size) D) ay)))
theorem oy{m:Md}{A:Option Addr}{cp:Nat}{b:List Int}{w:World}{dir:Int}(hd:dir=0∨dir=1)(hsl:b9 m w (.slice A b.length cp) b)(hb:b.length≤1048576) :
    Calls Tryz.prog 144 #[.int .i64 1,.int .u8 20,.slice A b.length cp] w (dX (ai aX 1 20 b) w):=by
 have hln:(b.length:Int)≤1048576:=by omega
 have cI:((dir != 0)&&(dir != 1))=false:=by rcases hd with rfl | rfl<;>rfl
 refine zv 77 Tryz.func144 rfl<|sg<|L0<|bH mZ fun a9 cJ bh K ad=>Pl 1<|nt<|sq<|sg<|Pl 6<|nt<|c0<|?_
 refine bf<|sg<|Pl 2<|L0<|Oc (args:=#[.int .i64 1,.int .u8 20])<|e3 wZ fun z cK Z G N=>Pl 3<|L0<|bH #[.nilFunc,.nilFunc] fun cM cN ce bi v=>L0<|b7 bi #[.func (.func 253) #[] #[],.func (.func 254) #[] #[]] fun cO cf t=>Pl 1<|nt<|sq<|sq<|?_
 refine go<|Pl 2<|nt<|c0<|bf<|sg<|Pl 1<|?_
 have ae:=ud v t ce
 have a0:=aD N ae
 have bl:=aD ad a0
 refine L0<|Oc<|e3 (ec (b9.old hsl bl) (by omega)) fun a1 cQ U M r=>Pl 1<|ng<|Pl 1<|L0<|Oc<|m3 (bY M) fun cR cg o cS=>L0<|Oi ((ak.mk b false 0).byteV)<|Pl 1<|ng<|?_
 refine Pl 2<|?_
 have aH:=ud r o U
 have bm:=ub aH cf
 refine L0<|aO bm 0<|Pl 1<|L0<|i2 #[] #[] (args:=#[.int .i64 ((ak.mk b false 0).byteV)])<|m1 (qQ (n:=(ak.mk b false 0).byteV) (by omega)) fun cT d=>?_
 refine L0<|Oc<|m2 (be ((fA ((ak.mk b false 0).byteV))) 5 (al.old cg d)) fun cU ch i=>?_
 refine ab ch fun x49 bo br=>?_
 refine ng<|Pl 2<|L0<|Oc<|tL (cE (n:=(ak.mk b false 0).byteV) br) fun cV cW cX ci cY cZ cl j=>?_
 have d0:=Nat.le_trans (ak.bytesR_le x49 ((ak.mk b false 0).byteV)) (al.len br)
 refine ab cl fun x58 bt aI=>?_
 refine L0<|Oc<|e3 (ec ci (by omega)) fun O d1 P Q g=>Pl 1<|ng<|Pl 2<|L0<|bH mZ fun B d2 H V p=>L0<|b7 V (mC 20) fun d3 cm h=>nt<|sq<|sg<|?_
 refine Pl 2<|?_
 have af:=ud p h H
 have ah:=aD g af
 have bu:=uz d (u1 i (aD j ah) im)
 refine L0<|aO (aW bu (nb (am bi) t.size U) bm) 1<|L0<|Oc<|yT (l8 (gb:=O) (f:=.func 254) (x:=#[]) (y:=#[])) fun cn co d4 aJ aK d5 bv bw k=>nt<|bk<|?_
 refine rj (f:=257) #[.pointer (some ⟨cn,0,none⟩),.pointer (some ⟨co,0,none⟩)] fun a ha=>?_
 intro d6 cq I d7 D E bx aj S J
 have bA:=nb (al.lt Q) lr H
 have an:=nb (al.lt Q) (le (le p.size h.size) k.size) E
 have bB:=nb (am G) (le (le (le (le (le (le (le v.size t.size) r.size) o.size) d.size) i.size) j.size) g.size) H
 have bD:=nb (am G) (le (le (le (le (le (le (le (le (le (le v.size t.size) r.size) o.size) d.size) i.size) j.size) g.size) p.size) h.size) k.size) E
 have a2:=nb (am V) (le h.size k.size) E
 have X:=aD k J
 have bF:=al.old Q (aD af X)
 have ao:=ud aH (aD bu X) U
 have bG:=ub (aD ae ao) G
 have aM:=ub X cm
 refine(yk (c:=20) bF bG aM S (ub J bv) (ub J bw) (Ne.symm (nb (am G) (le (le (le (le (le (le v.size t.size) r.size) o.size) d.size) i.size) j.size) P)) bA an bB bD a2 (Ne.symm (nb (al.lt Q) af.size aJ)) (Ne.symm (nb (am G) (le (le (le (le (le (le (le (le (le v.size t.size) r.size) o.size) d.size) i.size) j.size) g.size) p.size) h.size) aJ)) (Ne.symm (nb (am V) h.size aJ)) (nb (am bv) lr E) (Ne.symm (nb (al.lt Q) af.size aK)) (Ne.symm (nb (am G) (le (le (le (le (le (le (le (le (le v.size t.size) r.size) o.size) d.size) i.size) j.size) g.size) p.size) h.size) aK)) (Ne.symm (nb (am V) h.size aK)) (nb (am bw) lr E) ?_).mono ?_
 intro W C s L Ar cr x Ax cx hJ hrd hx1 hx2 hx3 hL
 simp only[dp] at hx1 hx2 hx3
 have hm2:W.heap[B]? = some (.cells #[.int .u8 20,.int .u8 0,.int .u16 0,.int .u16 0,.int .u16 0,.int .u16 0,.int .u16 0,.int .u16 0,.int .u16 0,.int .u16 0,.int .u16 0,.int .u16 0,.slice none 0 0,.slice none 0 0,.slice none 0 0,.slice Ar L.length cr,.int .u8 0,.int .u8 0,.int .u8 0,.int .u8 0,.int .u8 0,.slice none 0 0] 30 (0,0)):=hJ.hm
 refine lz hJ.hl ?_
 refine Av ha 53<|zy<|mF<|bH #[.int .u16 0,.int .u16 0,.int .u16 0,.slice none 0 0] fun d8 d9 bI cs bJ=>mF<|b7 cs #[.int .u16 x.file,.int .u16 x.record,.int .u16 x.count,.slice Ax x.words.length cx] fun da ct bL=>tK<|?_
 have bM:=ud bJ bL bI
 refine AV (ub bM hJ.hl) (by trivial) fun db cu aQ=>As<|zy<|zz<|?_
 have aS:=uz bM aQ
 have bN:=aW aS a2 hm2
 refine mF<|aO bN 15<|?_
 refine mF<|bO (aW aQ (Ne.symm (nb (am S) hJ.u.size bI)) ct)<|mF<|cL (m:=1) (e:=109) #[.int .u16 x.file,.int .u16 x.record,.int .u16 x.count,.slice Ax x.words.length cx] fun dc dd de cv aT=>?_
 have Y:=aD aS aT
 have cw:=kP (R:=bq true) (x:=(dj.mk x.file x.record x.count x.words)) cv rfl ⟨_,rfl,(dU.updl hrd Y hJ.hl rfl),ez (by omega),ez (by omega),ez (by omega)⟩
 have aV:=ap hJ.ho Y (fun x hx=>(aa (fun e=>(aB (am S) lr hJ.ho) (e▸hx)) az)) (bq.updl Y hJ.hl rfl)
 refine mF<|ie (xs:=L) (ys:=([(dj.mk x.file x.record x.count x.words)])) (.agg #[.int .u16 0,.int .u16 0,.int .u16 0,.slice none 0 0]) 4 32 aV cw (by simp) bq.ones (fun w' hv=>bq.upd16 hv (cP (dt _ aV (by decide)) aG)) (by(try simp only[List.length_append,List.length_cons,List.length_nil,aA]);omega) (le (le (le (le hJ.u.size bJ.size) bL.size) aQ.size) aT.size) fun bP bQ df aY ar=>zz<|?_
 have bR:=ut (aC.mono (S':=(ob Ar++[])) aT ay) ar (av il ay)
 have aZ:=aC.blk bR (bj (aB (am aM) lr hJ.ho) az) bN
 refine mF<|bX aZ 15 (mG 20 0 0 0 0 0 0 0 0 0 0 0 nS nS nS (.slice bP ((L++[(dj.mk x.file x.record x.count x.words)]).length) bQ) 0 0 0 0 0 nS) fun dg cy a3=>tK<|bn<|?_
 have bS:=u1 (aC.mono (S':=(ob Ar++(B :: []))) bR (av il ay)) a3 im
 have b0:=aC.blk bS (bj (aB (am S) lr hJ.ho) (aa (Ne.symm a2) az)) cu
 refine AZ b0 fun dh cz a4=>?_
 have b1:=ut (aC.mono (S':=(I :: (ob Ar++(B :: [])))) Y (ac im ay)) (ut (aC.mono (S':=(ob Ar++(B :: (I :: [])))) ar (av il ay)) (us a3 a4) (ac im (ac im ay))) (av il (ac im (ac im ay)))
 have di:=ut hJ.u (ut (aC.mono (S':=(I :: (ob Ar++(B :: [])))) aS (ac im ay)) bS (av il (ac im ay))) (ac im (av (aN hJ.ho lr) (ac im ay)))
 have dk:=ut hJ.u (ut (aC.mono (S':=(I :: (ob Ar++[]))) Y (ac im ay)) ar (av il ay)) (ac im (av (aN hJ.ho lr) ay))
 exact⟨by trivial,b1.size,bP,bQ,⟨(ut hJ.u b1 (ac im (av (aN hJ.ho lr) (ac im ay)))),(al.updl (al.upd (al.upd (al.updl hJ.hC Y (aa an az) hJ.hl rfl) ar (bj (aB (al.lt bF) lr hJ.ho) az) (cP (dt _ aV (by decide)) aG)) a3 (aa bA az) (aq (aU aZ (by decide)) aG)) a4 (aa an az) b0 rfl),(aC.blk b1 (aa bD (bj (aB (am bG) lr hJ.ho) (aa bB az))) hJ.hS),(aW a4 a2 cy),(ap (ap aY a3 (fun x hx=>(aa (fun e=>(aB (am aM) lr aY) (e▸hx)) az)) (bq.upd16 a3 (aq (aU aZ (by decide)) aG))) a4 (fun x hx=>(aa (fun e=>(aB (am S) lr aY) (e▸hx)) az)) (bq.updl a4 b0 rfl)),cz⟩⟩
 rintro _ cA ⟨rfl,dl,bT,bU,q⟩
 refine⟨_,_,rfl,q.hl,by simp[eb],by trivial,fun dm bV=>?_⟩
 refine ab q.hC fun b2 bW cB=>?_
 have cC:cA.heap[B]? = some (.cells #[.int .u8 20,.int .u8 0,.int .u16 0,.int .u16 0,.int .u16 0,.int .u16 0,.int .u16 0,.int .u16 0,.int .u16 0,.int .u16 0,.int .u16 0,.int .u16 0,.slice none 0 0,.slice none 0 0,.slice none 0 0,.slice bT ((aR bK (ak.mk (x49.bytesR ((ak.mk b false 0).byteV)) false 0).l.length 0 (ak.mk (x49.bytesR ((ak.mk b false 0).byteV)) false 0) []).2.length) bU,.int .u8 0,.int .u8 0,.int .u8 0,.int .u8 0,.int .u8 0,.slice none 0 0] 30 (0,0)):=q.hm
 refine bn<|tn<|sg<|Pl 2<|?_
 have au:=al.updl cB bV (aa an az) q.hl rfl
 refine L0<|Oc<|mq (bC au)<|?_
 have dn:=al.len au
 refine Pl 2<|L0<|Oc<|mq (bC au)<|?_
 have dq:=al.len au
 refine L0<|Oc<|m1 (j9 (e:=b2.e)) fun dr cD=>?_
 have F:=aD bV cD
 have bZ:=u1 q.u F im
 have b3:=nb (am G) ae.size U
 have aw:=ud aH (uz d (u1 i j im)) U
 have b4:=ub (aD ae aw) G
 have b5:=al.upd aI (ut (aC.mono (S':=[z]) ah ay) (ut (aC.mono (S':=[O,z,B]) X ay) bZ (ac im (ac im (ac im (ac (ni k.size E) ay))))) (ac (nr P) (ac im (ac (ni g.size H) ay)))) (aa (Ne.symm b3) az) (aq (aU b4 (by decide)) aG)
 refine L0<|Oc<|m2 (be ((b2.e==0)) (bp b2.e) b5) fun ds cF T=>?_
 refine ab cF fun c1 c2 b8=>?_
 refine ng<|Pl 1<|L0<|Oc<|m2 (ck b8) fun du c3 a5=>nt<|sq<|sg<|Pl 1<|L0<|Oc<|mq (bC c3)<|?_
 have dv:=al.len c3
 refine Pl 1<|ng<|Pl 2<|nt<|?_
 have a6:=u1 T a5 im
 have ba:=u1 (aC.mono (S':=[O,z,B,I,a1]) bZ (ac im (ac im (ac im (ac im ay))))) a6 im
 have bb:=ut (aC.mono (S':=[z]) ao ay) ba (ac (ni aw.size P) (ac im (ac (ni (le (le (le (le (le r.size o.size) d.size) i.size) j.size) g.size) H) (ac (ni (le (le (le (le (le (le (le (le r.size o.size) d.size) i.size) j.size) g.size) p.size) h.size) k.size) E) (ac (nr U) ay)))))
 have c4:=ud bl bb (le ad.size Z)
 have hs:ai aX 1 20 b=b6 (aP.mk 20 0 0 0 0 0 0 0 0 0 0 0 [] [] [] (aR bK (ak.mk ((((ak.mk b false 0).bytesC 1).need (fA ((ak.mk b false 0).byteV)) 5).bytesR ((ak.mk b false 0).byteV)) false 0).l.length 0 (ak.mk ((((ak.mk b false 0).bytesC 1).need (fA ((ak.mk b false 0).byteV)) 5).bytesR ((ak.mk b false 0).byteV)) false 0) []).2 0 0 0 0 0 []) (((((ak.mk b false 0).bytesC 1).need (fA ((ak.mk b false 0).byteV)) 5).bytesC ((ak.mk b false 0).byteV)).need (((aR bK (ak.mk ((((ak.mk b false 0).bytesC 1).need (fA ((ak.mk b false 0).byteV)) 5).bytesR ((ak.mk b false 0).byteV)) false 0).l.length 0 (ak.mk ((((ak.mk b false 0).bytesC 1).need (fA ((ak.mk b false 0).byteV)) 5).bytesR ((ak.mk b false 0).byteV)) false 0) []).1).e==0) (bp ((aR bK (ak.mk ((((ak.mk b false 0).bytesC 1).need (fA ((ak.mk b false 0).byteV)) 5).bytesR ((ak.mk b false 0).byteV)) false 0).l.length 0 (ak.mk ((((ak.mk b false 0).bytesC 1).need (fA ((ak.mk b false 0).byteV)) 5).bytesR ((ak.mk b false 0).byteV)) false 0) []).1).e)):=by
   unfold ai aX dK qj vX kM
   (try simp only[bs,if_true,if_false,decide_true,decide_false,eq_self,true_or,or_true,or_false,false_or,if_true,if_false,dE,dC,dD,dF,reduceIte,uO,uY,uA])
   all_goals rfl
 refine cb ((c1.endC.e != 0)) (fun bc=>?_) (fun bc=>?_)
 have bd:=ax bc
 refine sg<|Pl 2<|?_
 have c5:=ub (ud a0 bb Z) K
 refine L0<|b7 c5 mZ fun dw cG a7=>Pl 1<|nt<|rt<|tr<|?_
 have c6:=nb (am K) (le (le (le (le (le (le (le (le (le (le (le N.size v.size) t.size) r.size) o.size) d.size) i.size) j.size) g.size) p.size) h.size) k.size) D
 have c7:=aC.blk (u1 (aC.mono (S':=[O,z,B,I,a1,a9]) ba (ac im (ac im (ac im (ac im (ac im ay)))))) a7 im) (aa (Ne.symm (nb (al.lt Q) (le (le p.size h.size) k.size) D)) (aa (Ne.symm (nb (am G) (le (le (le (le (le (le (le (le (le (le v.size t.size) r.size) o.size) d.size) i.size) j.size) g.size) p.size) h.size) k.size) D)) (aa (Ne.symm (nb (am V) (le h.size k.size) D)) (aa bx (aa (Ne.symm (nb (al.lt M) (le (le (le (le (le (le (le o.size d.size) i.size) j.size) g.size) p.size) h.size) k.size) D)) (aa (Ne.symm c6) az)))))) aj
 refine zu c7 fun dx aE=>?_
 refine rx (aW aE c6 cG) (.int .i64 c1.endC.e)<|?_
 subst c2 bW bt bo
 have c8:=us a7 aE
 have dy:=us F (us a6 c8)
 have dz:=us F (us a6 a7)
 have dA:=ub (ud a0 (ut (aC.mono (S':=[z]) ao ay) q.u (ac (ni aw.size P) (ac im (ac (ni (le (le (le (le (le r.size o.size) d.size) i.size) j.size) g.size) H) (ac (ni (le (le (le (le (le (le (le (le r.size o.size) d.size) i.size) j.size) g.size) p.size) h.size) k.size) E) ay))))) Z) K
 have dB:=al.upd aI (ut (aC.mono (S':=[z]) ah ay) (ut (aC.mono (S':=[O,z,B]) X ay) q.u (ac im (ac im (ac im (ac (ni k.size E) ay))))) (ac (nr P) (ac im (ac (ni g.size H) ay)))) (aa (Ne.symm b3) az) (aq (aU b4 (by decide)) aG)
 have dG:=us F a6
 have dH:=us F T
 have dI:=ap (ap (ap (ap (ap q.ho F (fun x hx=>(aa (fun e=>(aB (am S) lr q.ho) (e▸hx)) az)) (bq.updl F q.hl rfl)) T (fun x hx=>(aa (fun e=>(aB (al.lt M) (le (le (le (le (le (le (le (le o.size d.size) i.size) j.size) g.size) p.size) h.size) k.size) J.size) q.ho) (e▸hx)) az)) (bq.upd16 T (aq (al.safe b5 _ (by decide)) aG))) a5 (fun x hx=>(aa (fun e=>(aB (al.lt M) (le (le (le (le (le (le (le (le o.size d.size) i.size) j.size) g.size) p.size) h.size) k.size) J.size) q.ho) (e▸hx)) az)) (bq.upd16 a5 (aq (al.safe b8 _ (by decide)) aG))) a7 (fun x hx=>(aa (fun e=>(aB (am K) (le (le (le (le (le (le (le (le (le (le (le (le N.size v.size) t.size) r.size) o.size) d.size) i.size) j.size) g.size) p.size) h.size) k.size) J.size) q.ho) (e▸hx)) az)) (bq.upd16 a7 (aq (aU c5 (by decide)) aG))) aE (fun x hx=>(aa (fun e=>(aB (am aj) lr q.ho) (e▸hx)) az)) (bq.updl aE c7 rfl)
 rw[hs]
 exact bz bd (ut c4 c8 (ac (nr bh) (ac (ni (le (le (le (le (le (le (le (le (le (le (le (le ad.size N.size) v.size) t.size) r.size) o.size) d.size) i.size) j.size) g.size) p.size) h.size) k.size) D) ay)))
 have bd:=ag bc
 refine bf<|sg<|?_
 have bg:=us F a6
 refine L0<|bO (aC.blk bg (aa a2 (aa (Ne.symm (nb (al.lt M) (le (le (le (le o.size d.size) i.size) j.size) g.size) H)) az)) cC)<|?_
 have c9:=ub (ud a0 bb Z) K
 refine L0<|b7 c9 (mG 20 0 0 0 0 0 0 0 0 0 0 0 nS nS nS (.slice bT ((aR bK (ak.mk (x49.bytesR ((ak.mk b false 0).byteV)) false 0).l.length 0 (ak.mk (x49.bytesR ((ak.mk b false 0).byteV)) false 0) []).2.length) bU) 0 0 0 0 0 nS) fun dJ cH a8=>Pl 1<|nt<|rt<|?_
 have ca:=nb (am K) (le (le (le (le (le (le (le (le (le (le (le N.size v.size) t.size) r.size) o.size) d.size) i.size) j.size) g.size) p.size) h.size) k.size) D
 have cc:=aC.blk (u1 (aC.mono (S':=[O,z,B,I,a1,a9]) ba (ac im (ac im (ac im (ac im (ac im ay)))))) a8 im) (aa (Ne.symm (nb (al.lt Q) (le (le p.size h.size) k.size) D)) (aa (Ne.symm (nb (am G) (le (le (le (le (le (le (le (le (le (le v.size t.size) r.size) o.size) d.size) i.size) j.size) g.size) p.size) h.size) k.size) D)) (aa (Ne.symm (nb (am V) (le h.size k.size) D)) (aa bx (aa (Ne.symm (nb (al.lt M) (le (le (le (le (le (le (le o.size d.size) i.size) j.size) g.size) p.size) h.size) k.size) D)) (aa (Ne.symm ca) az)))))) aj
 refine zu cc fun dL aF=>?_
 refine rx (aW aF ca cH) (.int .i64 0)<|?_
 subst c2 bW bt bo
 have cd:=us a8 aF
 have dM:=ut (aC.mono (S':=[I,a1,a9,cq]) bg (ac im (ac im ay))) cd (ac im (ac im ay))
 have dN:=u1 (aC.mono (S':=[I,a1,a9]) bg (ac im (ac im ay))) a8 im
 have dO:=ub (ud a0 (ut (aC.mono (S':=[z]) ao ay) q.u (ac (ni aw.size P) (ac im (ac (ni (le (le (le (le (le r.size o.size) d.size) i.size) j.size) g.size) H) (ac (ni (le (le (le (le (le (le (le (le r.size o.size) d.size) i.size) j.size) g.size) p.size) h.size) k.size) E) ay))))) Z) K
 have dP:=al.upd aI (ut (aC.mono (S':=[z]) ah ay) (ut (aC.mono (S':=[O,z,B]) X ay) q.u (ac im (ac im (ac im (ac (ni k.size E) ay))))) (ac (nr P) (ac im (ac (ni g.size H) ay)))) (aa (Ne.symm b3) az) (aq (aU b4 (by decide)) aG)
 have dQ:=us F T
 rw[hs]
 exact bE bd ⟨_,_,_,_,_,rfl,aL.nil ..,aL.nil ..,aL.nil ..,((ap (ap (ap (ap (ap q.ho F (fun x hx=>(aa (fun e=>(aB (am S) lr q.ho) (e▸hx)) az)) (bq.updl F q.hl rfl)) T (fun x hx=>(aa (fun e=>(aB (al.lt M) (le (le (le (le (le (le (le (le o.size d.size) i.size) j.size) g.size) p.size) h.size) k.size) J.size) q.ho) (e▸hx)) az)) (bq.upd16 T (aq (al.safe b5 _ (by decide)) aG))) a5 (fun x hx=>(aa (fun e=>(aB (al.lt M) (le (le (le (le (le (le (le (le o.size d.size) i.size) j.size) g.size) p.size) h.size) k.size) J.size) q.ho) (e▸hx)) az)) (bq.upd16 a5 (aq (al.safe b8 _ (by decide)) aG))) a8 (fun x hx=>(aa (fun e=>(aB (am K) (le (le (le (le (le (le (le (le (le (le (le (le N.size v.size) t.size) r.size) o.size) d.size) i.size) j.size) g.size) p.size) h.size) k.size) J.size) q.ho) (e▸hx)) az)) (bq.upd16 a8 (aq (aU c9 (by decide)) aG))) aF (fun x hx=>(aa (fun e=>(aB (am aj) lr q.ho) (e▸hx)) az)) (bq.updl aF cc rfl))).rd,aL.nil ..,(cj (by omega))⟩ (ut c4 cd (ac (nr bh) (ac (ni (le (le (le (le (le (le (le (le (le (le (le (le ad.size N.size) v.size) t.size) r.size) o.size) d.size) i.size) j.size) g.size) p.size) h.size) k.size) D) ay)))
theorem na{m:Md}{A:Option Addr}{cp:Nat}{b:List Int}{w:World}{dir:Int}(hd:dir=0∨dir=1)(hsl:b9 m w (.slice A b.length cp) b)(hb:b.length≤1048576) :
    Calls Tryz.prog 144 #[.int .i64 dir,.int .u8 21,.slice A b.length cp] w (dX (ai aX dir 21 b) w):=by
 have hln:(b.length:Int)≤1048576:=by omega
 have bm:((dir != 0)&&(dir != 1))=false:=by rcases hd with rfl | rfl<;>rfl
 refine zv 77 Tryz.func144 rfl<|sg<|L0<|bH mZ fun ae cT bo M af=>Pl 1<|nt<|sq<|sg<|Pl 3<|cu 3 [18] 21 (((dir != 0)&&(dir != 1))) (fun K br=>?_) ?_
 refine bl 18 ((dir != 0)) (fun a0=>?_) (fun a0=>?_)
 have cm:=ax a0
 exact Pl 3<|ce br (dir != 1) (by rw[a0];rfl)
 have cm:=ag a0
 exact Pl 3<|ce br false (by rw[a0];rfl)
 refine nt<|cf bm<|bf<|sg<|Pl 2<|L0<|Oc (args:=#[.int .i64 dir,.int .u8 21])<|e3 wq fun z cU a1 G O=>Pl 3<|L0<|bH #[.nilFunc,.nilFunc] fun cV cW cn bt v=>L0<|b7 bt #[.func (.func 255) #[] #[],.func (.func 256) #[] #[]] fun cX co t=>Pl 1<|nl<|?_
 refine tn<|sq<|sg<|Pl 2<|nt<|c0<|bf<|sg<|Pl 1<|?_
 have ah:=ud v t cn
 have a2:=aD O ah
 have bu:=aD af a2
 refine L0<|Oc<|e3 (ec (b9.old hsl bu) (by omega)) fun a3 cY V N r=>Pl 1<|ng<|Pl 1<|L0<|Oc<|m3 (bY N) fun cZ cq o d0=>L0<|Oi ((ak.mk b false 0).byteV)<|Pl 1<|ng<|?_
 refine Pl 2<|?_
 have aJ:=ud r o V
 have bv:=ub aJ co
 refine L0<|aO bv 0<|Pl 1<|L0<|i2 #[] #[] (args:=#[.int .i64 ((ak.mk b false 0).byteV)])<|m1 (rg (n:=(ak.mk b false 0).byteV) (by omega)) fun d1 d=>?_
 refine L0<|Oc<|m2 (be ((fL ((ak.mk b false 0).byteV))) 5 (al.old cq d)) fun d2 cs i=>?_
 refine ab cs fun x51 bw bx=>?_
 refine ng<|Pl 2<|L0<|Oc<|tL (cE (n:=(ak.mk b false 0).byteV) bx) fun d3 d4 d5 ct d6 d7 cv j=>?_
 have d8:=Nat.le_trans (ak.bytesR_le x51 ((ak.mk b false 0).byteV)) (al.len bx)
 refine ab cv fun x60 bA aK=>?_
 refine L0<|Oc<|e3 (ec ct (by omega)) fun P d9 Q S g=>Pl 1<|ng<|Pl 2<|L0<|bH mZ fun B da H X p=>L0<|b7 X (mC 21) fun db cw h=>nt<|sq<|sg<|?_
 refine Pl 2<|?_
 have aj:=ud p h H
 have an:=aD g aj
 have bB:=uz d (u1 i (aD j an) im)
 refine L0<|aO (aW bB (nb (am bt) t.size V) bv) 1<|L0<|Oc<|yT (l8 (gb:=P) (f:=.func 256) (x:=#[]) (y:=#[])) fun cy cz dc aM aQ dd bD bF k=>nt<|bk<|?_
 refine rj (f:=257) #[.pointer (some ⟨cy,0,none⟩),.pointer (some ⟨cz,0,none⟩)] fun a ha=>?_
 intro de cA I df D E bG ao T J
 have bI:=nb (al.lt S) lr H
 have ar:=nb (al.lt S) (le (le p.size h.size) k.size) E
 have bJ:=nb (am G) (le (le (le (le (le (le (le v.size t.size) r.size) o.size) d.size) i.size) j.size) g.size) H
 have bK:=nb (am G) (le (le (le (le (le (le (le (le (le (le v.size t.size) r.size) o.size) d.size) i.size) j.size) g.size) p.size) h.size) k.size) E
 have a4:=nb (am X) (le h.size k.size) E
 have Y:=aD k J
 have bL:=al.old S (aD aj Y)
 have au:=ud aJ (aD bB Y) V
 have bM:=ub (aD ah au) G
 have aS:=ub Y cw
 refine(zc (c:=21) bL bM aS T (ub J bD) (ub J bF) (Ne.symm (nb (am G) (le (le (le (le (le (le v.size t.size) r.size) o.size) d.size) i.size) j.size) Q)) bI ar bJ bK a4 (Ne.symm (nb (al.lt S) aj.size aM)) (Ne.symm (nb (am G) (le (le (le (le (le (le (le (le (le v.size t.size) r.size) o.size) d.size) i.size) j.size) g.size) p.size) h.size) aM)) (Ne.symm (nb (am X) h.size aM)) (nb (am bD) lr E) (Ne.symm (nb (al.lt S) aj.size aQ)) (Ne.symm (nb (am G) (le (le (le (le (le (le (le (le (le v.size t.size) r.size) o.size) d.size) i.size) j.size) g.size) p.size) h.size) aQ)) (Ne.symm (nb (am X) h.size aQ)) (nb (am bF) lr E) ?_).mono ?_
 intro W C s L Ar cr x Ax cx hJ hrd hx1 hx2 hx3 hL
 simp only[dp] at hx1 hx2 hx3
 have hm2:W.heap[B]? = some (.cells #[.int .u8 21,.int .u8 0,.int .u16 0,.int .u16 0,.int .u16 0,.int .u16 0,.int .u16 0,.int .u16 0,.int .u16 0,.int .u16 0,.int .u16 0,.int .u16 0,.slice none 0 0,.slice none 0 0,.slice none 0 0,.slice Ar L.length cr,.int .u8 0,.int .u8 0,.int .u8 0,.int .u8 0,.int .u8 0,.slice none 0 0] 30 (0,0)):=hJ.hm
 refine lz hJ.hl ?_
 refine Av ha 53<|zy<|mF<|bH #[.int .u16 0,.int .u16 0,.int .u16 0,.slice none 0 0] fun dg dh bN cB bP=>mF<|b7 cB #[.int .u16 x.file,.int .u16 x.record,.int .u16 x.count,.slice Ax x.words.length cx] fun di cC bQ=>tK<|?_
 have bR:=ud bP bQ bN
 refine AV (ub bR hJ.hl) (by trivial) fun dk cD aT=>As<|zy<|zz<|?_
 have aV:=uz bR aT
 have bS:=aW aV a4 hm2
 refine mF<|aO bS 15<|?_
 refine mF<|bO (aW aT (Ne.symm (nb (am T) hJ.u.size bN)) cC)<|mF<|cL (m:=1) (e:=109) #[.int .u16 x.file,.int .u16 x.record,.int .u16 x.count,.slice Ax x.words.length cx] fun dl dm dn cF aY=>?_
 have Z:=aD aV aY
 have cG:=kP (R:=bq true) (x:=(dj.mk x.file x.record x.count x.words)) cF rfl ⟨_,rfl,(dU.updl hrd Z hJ.hl rfl),ez (by omega),ez (by omega),ez (by omega)⟩
 have aZ:=ap hJ.ho Z (fun x hx=>(aa (fun e=>(aB (am T) lr hJ.ho) (e▸hx)) az)) (bq.updl Z hJ.hl rfl)
 refine mF<|ie (xs:=L) (ys:=([(dj.mk x.file x.record x.count x.words)])) (.agg #[.int .u16 0,.int .u16 0,.int .u16 0,.slice none 0 0]) 4 32 aZ cG (by simp) bq.ones (fun w' hv=>bq.upd16 hv (cP (dt _ aZ (by decide)) aG)) (by(try simp only[List.length_append,List.length_cons,List.length_nil,aA]);omega) (le (le (le (le hJ.u.size bP.size) bQ.size) aT.size) aY.size) fun bT bU dq b0 aw=>zz<|?_
 have bV:=ut (aC.mono (S':=(ob Ar++[])) aY ay) aw (av il ay)
 have b1:=aC.blk bV (bj (aB (am aS) lr hJ.ho) az) bS
 refine mF<|bX b1 15 (mG 21 0 0 0 0 0 0 0 0 0 0 0 nS nS nS (.slice bT ((L++[(dj.mk x.file x.record x.count x.words)]).length) bU) 0 0 0 0 0 nS) fun dr cH a5=>tK<|bn<|?_
 have bW:=u1 (aC.mono (S':=(ob Ar++(B :: []))) bV (av il ay)) a5 im
 have b2:=aC.blk bW (bj (aB (am T) lr hJ.ho) (aa (Ne.symm a4) az)) cD
 refine AZ b2 fun ds cI a6=>?_
 have b3:=ut (aC.mono (S':=(I :: (ob Ar++(B :: [])))) Z (ac im ay)) (ut (aC.mono (S':=(ob Ar++(B :: (I :: [])))) aw (av il ay)) (us a5 a6) (ac im (ac im ay))) (av il (ac im (ac im ay)))
 have du:=ut hJ.u (ut (aC.mono (S':=(I :: (ob Ar++(B :: [])))) aV (ac im ay)) bW (av il (ac im ay))) (ac im (av (aN hJ.ho lr) (ac im ay)))
 have dv:=ut hJ.u (ut (aC.mono (S':=(I :: (ob Ar++[]))) Z (ac im ay)) aw (av il ay)) (ac im (av (aN hJ.ho lr) ay))
 exact⟨by trivial,b3.size,bT,bU,⟨(ut hJ.u b3 (ac im (av (aN hJ.ho lr) (ac im ay)))),(al.updl (al.upd (al.upd (al.updl hJ.hC Z (aa ar az) hJ.hl rfl) aw (bj (aB (al.lt bL) lr hJ.ho) az) (cP (dt _ aZ (by decide)) aG)) a5 (aa bI az) (aq (aU b1 (by decide)) aG)) a6 (aa ar az) b2 rfl),(aC.blk b3 (aa bK (bj (aB (am bM) lr hJ.ho) (aa bJ az))) hJ.hS),(aW a6 a4 cH),(ap (ap b0 a5 (fun x hx=>(aa (fun e=>(aB (am aS) lr b0) (e▸hx)) az)) (bq.upd16 a5 (aq (aU b1 (by decide)) aG))) a6 (fun x hx=>(aa (fun e=>(aB (am T) lr b0) (e▸hx)) az)) (bq.updl a6 b2 rfl)),cI⟩⟩
 rintro _ cJ ⟨rfl,dw,bZ,c1,q⟩
 refine⟨_,_,rfl,q.hl,by simp[eb],by trivial,fun dx c2=>?_⟩
 refine ab q.hC fun b4 c3 cK=>?_
 have cN:cJ.heap[B]? = some (.cells #[.int .u8 21,.int .u8 0,.int .u16 0,.int .u16 0,.int .u16 0,.int .u16 0,.int .u16 0,.int .u16 0,.int .u16 0,.int .u16 0,.int .u16 0,.int .u16 0,.slice none 0 0,.slice none 0 0,.slice none 0 0,.slice bZ ((aR cM (ak.mk (x51.bytesR ((ak.mk b false 0).byteV)) false 0).l.length 0 (ak.mk (x51.bytesR ((ak.mk b false 0).byteV)) false 0) []).2.length) c1,.int .u8 0,.int .u8 0,.int .u8 0,.int .u8 0,.int .u8 0,.slice none 0 0] 30 (0,0)):=q.hm
 refine bn<|tn<|sg<|Pl 2<|?_
 have aE:=al.updl cK c2 (aa ar az) q.hl rfl
 refine L0<|Oc<|mq (bC aE)<|?_
 have dy:=al.len aE
 refine Pl 2<|L0<|Oc<|mq (bC aE)<|?_
 have dz:=al.len aE
 refine L0<|Oc<|m1 (j9 (e:=b4.e)) fun dA cO=>?_
 have F:=aD c2 cO
 have c4:=u1 q.u F im
 have b5:=nb (am G) ah.size V
 have aF:=ud aJ (uz d (u1 i j im)) V
 have b8:=ub (aD ah aF) G
 have ba:=al.upd aK (ut (aC.mono (S':=[z]) an ay) (ut (aC.mono (S':=[P,z,B]) Y ay) c4 (ac im (ac im (ac im (ac (ni k.size E) ay))))) (ac (nr Q) (ac im (ac (ni g.size H) ay)))) (aa (Ne.symm b5) az) (aq (aU b8 (by decide)) aG)
 refine L0<|Oc<|m2 (be ((b4.e==0)) (bp b4.e) ba) fun dB cQ U=>?_
 refine ab cQ fun c5 c6 bb=>?_
 refine ng<|Pl 1<|L0<|Oc<|m2 (ck bb) fun dG c7 a7=>nt<|sq<|sg<|Pl 1<|L0<|Oc<|mq (bC c7)<|?_
 have dH:=al.len c7
 refine Pl 1<|ng<|Pl 2<|nt<|?_
 have a8:=u1 U a7 im
 have bc:=u1 (aC.mono (S':=[P,z,B,I,a3]) c4 (ac im (ac im (ac im (ac im ay))))) a8 im
 have bd:=ut (aC.mono (S':=[z]) au ay) bc (ac (ni aF.size Q) (ac im (ac (ni (le (le (le (le (le r.size o.size) d.size) i.size) j.size) g.size) H) (ac (ni (le (le (le (le (le (le (le (le r.size o.size) d.size) i.size) j.size) g.size) p.size) h.size) k.size) E) (ac (nr V) ay)))))
 have c8:=ud bu bd (le af.size a1)
 have hs:ai aX dir 21 b=b6 (aP.mk 21 0 0 0 0 0 0 0 0 0 0 0 [] [] [] (aR cM (ak.mk ((((ak.mk b false 0).bytesC 1).need (fL ((ak.mk b false 0).byteV)) 5).bytesR ((ak.mk b false 0).byteV)) false 0).l.length 0 (ak.mk ((((ak.mk b false 0).bytesC 1).need (fL ((ak.mk b false 0).byteV)) 5).bytesR ((ak.mk b false 0).byteV)) false 0) []).2 0 0 0 0 0 []) (((((ak.mk b false 0).bytesC 1).need (fL ((ak.mk b false 0).byteV)) 5).bytesC ((ak.mk b false 0).byteV)).need (((aR cM (ak.mk ((((ak.mk b false 0).bytesC 1).need (fL ((ak.mk b false 0).byteV)) 5).bytesR ((ak.mk b false 0).byteV)) false 0).l.length 0 (ak.mk ((((ak.mk b false 0).bytesC 1).need (fL ((ak.mk b false 0).byteV)) 5).bytesR ((ak.mk b false 0).byteV)) false 0) []).1).e==0) (bp ((aR cM (ak.mk ((((ak.mk b false 0).bytesC 1).need (fL ((ak.mk b false 0).byteV)) 5).bytesR ((ak.mk b false 0).byteV)) false 0).l.length 0 (ak.mk ((((ak.mk b false 0).bytesC 1).need (fL ((ak.mk b false 0).byteV)) 5).bytesR ((ak.mk b false 0).byteV)) false 0) []).1).e)):=by
   unfold ai aX dK qj vX kM
   (try simp only[bm,bs,if_true,if_false,decide_true,decide_false,eq_self,true_or,or_true,or_false,false_or,if_true,if_false,dE,dC,dD,dF,reduceIte,uO,uY,uA,if_pos hd])
   all_goals rfl
 refine cb ((c5.endC.e != 0)) (fun bg=>?_) (fun bg=>?_)
 have bh:=ax bg
 refine sg<|Pl 2<|?_
 have c9:=ub (ud a2 bd a1) M
 refine L0<|b7 c9 mZ fun dI cR a9=>Pl 1<|nt<|rt<|tr<|?_
 have ca:=nb (am M) (le (le (le (le (le (le (le (le (le (le (le O.size v.size) t.size) r.size) o.size) d.size) i.size) j.size) g.size) p.size) h.size) k.size) D
 have cc:=aC.blk (u1 (aC.mono (S':=[P,z,B,I,a3,ae]) bc (ac im (ac im (ac im (ac im (ac im ay)))))) a9 im) (aa (Ne.symm (nb (al.lt S) (le (le p.size h.size) k.size) D)) (aa (Ne.symm (nb (am G) (le (le (le (le (le (le (le (le (le (le v.size t.size) r.size) o.size) d.size) i.size) j.size) g.size) p.size) h.size) k.size) D)) (aa (Ne.symm (nb (am X) (le h.size k.size) D)) (aa bG (aa (Ne.symm (nb (al.lt N) (le (le (le (le (le (le (le o.size d.size) i.size) j.size) g.size) p.size) h.size) k.size) D)) (aa (Ne.symm ca) az)))))) ao
 refine zu cc fun dJ aH=>?_
 refine rx (aW aH ca cR) (.int .i64 c5.endC.e)<|?_
 subst c6 c3 bA bw
 have cd:=us a9 aH
 have dL:=us F (us a8 cd)
 have dM:=us F (us a8 a9)
 have dN:=ub (ud a2 (ut (aC.mono (S':=[z]) au ay) q.u (ac (ni aF.size Q) (ac im (ac (ni (le (le (le (le (le r.size o.size) d.size) i.size) j.size) g.size) H) (ac (ni (le (le (le (le (le (le (le (le r.size o.size) d.size) i.size) j.size) g.size) p.size) h.size) k.size) E) ay))))) a1) M
 have dO:=al.upd aK (ut (aC.mono (S':=[z]) an ay) (ut (aC.mono (S':=[P,z,B]) Y ay) q.u (ac im (ac im (ac im (ac (ni k.size E) ay))))) (ac (nr Q) (ac im (ac (ni g.size H) ay)))) (aa (Ne.symm b5) az) (aq (aU b8 (by decide)) aG)
 have dP:=us F a8
 have dQ:=us F U
 have dR:=ap (ap (ap (ap (ap q.ho F (fun x hx=>(aa (fun e=>(aB (am T) lr q.ho) (e▸hx)) az)) (bq.updl F q.hl rfl)) U (fun x hx=>(aa (fun e=>(aB (al.lt N) (le (le (le (le (le (le (le (le o.size d.size) i.size) j.size) g.size) p.size) h.size) k.size) J.size) q.ho) (e▸hx)) az)) (bq.upd16 U (aq (al.safe ba _ (by decide)) aG))) a7 (fun x hx=>(aa (fun e=>(aB (al.lt N) (le (le (le (le (le (le (le (le o.size d.size) i.size) j.size) g.size) p.size) h.size) k.size) J.size) q.ho) (e▸hx)) az)) (bq.upd16 a7 (aq (al.safe bb _ (by decide)) aG))) a9 (fun x hx=>(aa (fun e=>(aB (am M) (le (le (le (le (le (le (le (le (le (le (le (le O.size v.size) t.size) r.size) o.size) d.size) i.size) j.size) g.size) p.size) h.size) k.size) J.size) q.ho) (e▸hx)) az)) (bq.upd16 a9 (aq (aU c9 (by decide)) aG))) aH (fun x hx=>(aa (fun e=>(aB (am ao) lr q.ho) (e▸hx)) az)) (bq.updl aH cc rfl)
 rw[hs]
 exact bz bh (ut c8 cd (ac (nr bo) (ac (ni (le (le (le (le (le (le (le (le (le (le (le (le af.size O.size) v.size) t.size) r.size) o.size) d.size) i.size) j.size) g.size) p.size) h.size) k.size) D) ay)))
 have bh:=ag bg
 refine bf<|sg<|?_
 have bi:=us F a8
 refine L0<|bO (aC.blk bi (aa a4 (aa (Ne.symm (nb (al.lt N) (le (le (le (le o.size d.size) i.size) j.size) g.size) H)) az)) cN)<|?_
 have cg:=ub (ud a2 bd a1) M
 refine L0<|b7 cg (mG 21 0 0 0 0 0 0 0 0 0 0 0 nS nS nS (.slice bZ ((aR cM (ak.mk (x51.bytesR ((ak.mk b false 0).byteV)) false 0).l.length 0 (ak.mk (x51.bytesR ((ak.mk b false 0).byteV)) false 0) []).2.length) c1) 0 0 0 0 0 nS) fun dS cS ad=>Pl 1<|nt<|rt<|?_
 have ch:=nb (am M) (le (le (le (le (le (le (le (le (le (le (le O.size v.size) t.size) r.size) o.size) d.size) i.size) j.size) g.size) p.size) h.size) k.size) D
 have ci:=aC.blk (u1 (aC.mono (S':=[P,z,B,I,a3,ae]) bc (ac im (ac im (ac im (ac im (ac im ay)))))) ad im) (aa (Ne.symm (nb (al.lt S) (le (le p.size h.size) k.size) D)) (aa (Ne.symm (nb (am G) (le (le (le (le (le (le (le (le (le (le v.size t.size) r.size) o.size) d.size) i.size) j.size) g.size) p.size) h.size) k.size) D)) (aa (Ne.symm (nb (am X) (le h.size k.size) D)) (aa bG (aa (Ne.symm (nb (al.lt N) (le (le (le (le (le (le (le o.size d.size) i.size) j.size) g.size) p.size) h.size) k.size) D)) (aa (Ne.symm ch) az)))))) ao
 refine zu ci fun dT aI=>?_
 refine rx (aW aI ch cS) (.int .i64 0)<|?_
 subst c6 c3 bA bw
 have cl:=us ad aI
 have dV:=ut (aC.mono (S':=[I,a3,ae,cA]) bi (ac im (ac im ay))) cl (ac im (ac im ay))
 have dW:=u1 (aC.mono (S':=[I,a3,ae]) bi (ac im (ac im ay))) ad im
 have dY:=ub (ud a2 (ut (aC.mono (S':=[z]) au ay) q.u (ac (ni aF.size Q) (ac im (ac (ni (le (le (le (le (le r.size o.size) d.size) i.size) j.size) g.size) H) (ac (ni (le (le (le (le (le (le (le (le r.size o.size) d.size) i.size) j.size) g.size) p.size) h.size) k.size) E) ay))))) a1) M
 have dZ:=al.upd aK (ut (aC.mono (S':=[z]) an ay) (ut (aC.mono (S':=[P,z,B]) Y ay) q.u (ac im (ac im (ac im (ac (ni k.size E) ay))))) (ac (nr Q) (ac im (ac (ni g.size H) ay)))) (aa (Ne.symm b5) az) (aq (aU b8 (by decide)) aG)
 have e0:=us F U
 rw[hs]
 exact bE bh ⟨_,_,_,_,_,rfl,aL.nil ..,aL.nil ..,aL.nil ..,((ap (ap (ap (ap (ap q.ho F (fun x hx=>(aa (fun e=>(aB (am T) lr q.ho) (e▸hx)) az)) (bq.updl F q.hl rfl)) U (fun x hx=>(aa (fun e=>(aB (al.lt N) (le (le (le (le (le (le (le (le o.size d.size) i.size) j.size) g.size) p.size) h.size) k.size) J.size) q.ho) (e▸hx)) az)) (bq.upd16 U (aq (al.safe ba _ (by decide)) aG))) a7 (fun x hx=>(aa (fun e=>(aB (al.lt N) (le (le (le (le (le (le (le (le o.size d.size) i.size) j.size) g.size) p.size) h.size) k.size) J.size) q.ho) (e▸hx)) az)) (bq.upd16 a7 (aq (al.safe bb _ (by decide)) aG))) ad (fun x hx=>(aa (fun e=>(aB (am M) (le (le (le (le (le (le (le (le (le (le (le (le O.size v.size) t.size) r.size) o.size) d.size) i.size) j.size) g.size) p.size) h.size) k.size) J.size) q.ho) (e▸hx)) az)) (bq.upd16 ad (aq (aU cg (by decide)) aG))) aI (fun x hx=>(aa (fun e=>(aB (am ao) lr q.ho) (e▸hx)) az)) (bq.updl aI ci rfl))).rd,aL.nil ..,(cj (by omega))⟩ (ut c8 cl (ac (nr bo) (ac (ni (le (le (le (le (le (le (le (le (le (le (le (le af.size O.size) v.size) t.size) r.size) o.size) d.size) i.size) j.size) g.size) p.size) h.size) k.size) D) ay)))
theorem th{A:Option Addr}{cp:Nat}{b:List Int}{w:World}{c:Int}(n1:(c==20)=false)(n2:(c==21)=false) : Calls Tryz.prog 144 #[.int .i64 0,.int .u8 c,.slice A b.length cp] w (dX (ai aX 0 c b) w):=by
 refine zv 77 Tryz.func144 rfl<|sg<|L0<|bH mZ fun n o d e f=>Pl 1<|nt<|sq<|sg<|Pl 6<|nt<|c0<|?_
 refine bf<|sg<|Pl 2<|L0<|Oc (args:=#[.int .i64 0,.int .u8 c])<|m1 (oK (dir:=0) (x:=c) n1 n2) fun p g=>Pl 3<|L0<|bH #[.nilFunc,.nilFunc] fun q r h i j=>L0<|b7 i #[.nilFunc,.nilFunc] fun s t k=>Pl 1<|nt<|sq<|sq<|?_
 refine go<|Pl 2<|nt<|c1<|sg<|Pl 1<|?_
 have a:=aD g (ud j k h)
 refine L0<|b7 (ub a e) mZ fun u l m=>Pl 1<|nt<|rt<|tr<|ry l (.int .i64 4)<|?_
 have hs:ai aX 0 c b=(aP.zero,4):=by
   unfold ai aX
   (try simp only[bs,if_true,if_false,decide_true,decide_false,eq_self,true_or,or_true,or_false,false_or,if_true,if_false,dE,dC,dD,dF,reduceIte,n1,n2])
   all_goals rfl
 rw[hs]
 exact cA (ud f (uz a m) d)
theorem sS{A:Option Addr}{cp:Nat}{b:List Int}{w:World}{c:Int}(n1:(c==20)=false)(n2:(c==21)=false) : Calls Tryz.prog 144 #[.int .i64 1,.int .u8 c,.slice A b.length cp] w (dX (ai aX 1 c b) w):=by
 refine zv 77 Tryz.func144 rfl<|sg<|L0<|bH mZ fun n o d e f=>Pl 1<|nt<|sq<|sg<|Pl 6<|nt<|c0<|?_
 refine bf<|sg<|Pl 2<|L0<|Oc (args:=#[.int .i64 1,.int .u8 c])<|m1 (oK (dir:=1) (x:=c) n1 n2) fun p g=>Pl 3<|L0<|bH #[.nilFunc,.nilFunc] fun q r h i j=>L0<|b7 i #[.nilFunc,.nilFunc] fun s t k=>Pl 1<|nt<|sq<|sq<|?_
 refine go<|Pl 2<|nt<|c1<|sg<|Pl 1<|?_
 have a:=aD g (ud j k h)
 refine L0<|b7 (ub a e) mZ fun u l m=>Pl 1<|nt<|rt<|tr<|ry l (.int .i64 4)<|?_
 have hs:ai aX 1 c b=(aP.zero,4):=by
   unfold ai aX
   (try simp only[bs,if_true,if_false,decide_true,decide_false,eq_self,true_or,or_true,or_false,false_or,if_true,if_false,dE,dC,dD,dF,reduceIte,n1,n2])
   all_goals rfl
 rw[hs]
 exact cA (ud f (uz a m) d)
theorem sw{A:Option Addr}{cp:Nat}{b:List Int}{w:World}{dir c:Int}(hd:¬ (dir=0∨dir=1)) : Calls Tryz.prog 144 #[.int .i64 dir,.int .u8 c,.slice A b.length cp] w (dX (ai aX dir c b) w):=by
 have e0:(dir != 0)=true:=by simp;omega
 have e1:(dir != 1)=true:=by simp;omega
 refine zv 77 Tryz.func144 rfl<|sg<|L0<|bH mZ fun g h a d e=>Pl 1<|nt<|sq<|sg<|Pl 3<|sy 18 e0<|Pl 3<|nl<|?_
 refine tn<|ct e1<|sg<|Pl 1<|L0<|b7 d mZ fun i dp f=>Pl 1<|nt<|rt<|tr<|ry dp (.int .i64 1)<|?_
 have hs:ai aX dir c b=(aP.zero,1):=by
   unfold ai aX
   (try simp only[e0,e1,bs,if_true,if_false,decide_true,decide_false,eq_self,true_or,or_true,or_false,false_or,if_true,if_false,dE,dC,dD,dF,reduceIte,hd])
   all_goals rfl
 rw[hs]
 exact cA (ud e f a)
theorem kG{m:Md}{v:Value}{b:List Int}{w:World}{dir c:Int}(hc:B8 c)(h:b9 m w v b)(hb:b.length≤1048576) :
    Calls Tryz.prog 144 #[.int .i64 dir,.int .u8 c,v] w (dX (ai aX dir c b) w):=by
  obtain⟨A,cp,rfl,_,_⟩:=h.shape
  by_cases h0:dir=0
  · subst h0
    by_cases a:c=20
    · subst a;exact ph (Or.inl (rfl:(0:Int)=0)) h hb
    by_cases d:c=21
    · subst d;exact na (Or.inl rfl) h hb
    exact th (by simpa using a) (by simpa using d)
  by_cases h1:dir=1
  · subst h1
    by_cases a:c=20
    · subst a;exact oy (Or.inl (rfl:(0:Int)=0)) h hb
    by_cases d:c=21
    · subst d;exact na (Or.inr rfl) h hb
    exact sS (by simpa using a) (by simpa using d)
  exact sw (by omega)
open Go.RowKit
def dZ (res:Option (List Int))(w:World)(e:Ending)(w':World) : Prop :=
  match res with
  | some l=>∃ v,e = .returned (.tuple #[v,.int .i64 0])∧eB w.heap.size w' v l∧aC [] w w'
  | none=>e = .returned (.tuple #[.slice none 0 0,.int .i64 1])∧aC [] w w'
def bh (parse:Int→Int→List Int→aP × Int)(lay:Int→aP→List Int)(dir:Int)(M:aP) : Option (List Int) :=
  if parse dir M.code (lay dir M)=(M,0) then some (lay dir M) else none
def fV:=ai aF
def gM:=ai aM
def gP:=ai aV
def iw:=ai bD
def fS:=ai aX
open Go.RowKit
def jO (M:aP) : Option (List Int):=if !(fj M.code M.fail) then none else if !(decide (M=gv M.code M.fail)) then none else some [(M.code+128)%256,M.fail]
theorem et{x y:Option (List Int)}(h:x=y){w:World}{e:Ending}{w':World}(k:dZ y w e w') : dZ x w e w':=by rw[h];exact k
theorem mN{m:Md}{cs:Array Value}{M:aP}{w:World}(h:aH m w cs.toList M) : Calls Tryz.prog 100 #[.agg cs] w (dZ (jO M) w):=by
 have hM:=h
 obtain⟨vw,vb,vd,vr,vo,h0,hw,hbt,hd,hr,ho,hR⟩:=h
 obtain rfl:cs=(bu M vw vb vd vr vo).toArray:=by apply Array.toList_inj.1;simpa using h0
 clear h0
 obtain⟨Aw,kw,rfl,_,_⟩:=hw.shape
 obtain⟨Ab,kb,rfl,_,_⟩:=hbt.shape
 obtain⟨Ad,kd,rfl,_,_⟩:=hd.shape
 obtain⟨Ar,kr,rfl,_,_⟩:=hr.shape
 obtain⟨Ao,ko,rfl,_,_⟩:=ho.shape
 obtain⟨q0,q1,q2,q3,q4,q5,q6,q7,q8,q9,I,J,K,L,N,O,P⟩:=hR
 simp only[B8,dp] at q0 q1 q2 q3 q4 q5 q6 q7 q8 q9 I J K L N O P
 refine en 26 Tryz.func100 rfl<|sg<|L0<|dv (mG M.code M.fail M.addr M.count M.value M.and_ M.or_ M.addr2 M.sub M.status M.events M.messages (.slice Aw M.words.length kw) (.slice Ab M.bits.length kb) (.slice Ad M.data.length kd) (.slice Ar M.recs.length kr) M.mei M.kind M.level M.more M.next (.slice Ao M.objects.length ko)) fun s a3 a4 k Q=>Pl 2<|ng<|Pl 1<|L0<|aO k 0<|Pl 1<|L0<|aO k 1<|Pl 1<|L0<|bH #[.int .u8 0,.int .u8 0] fun l a5 R S T=>?_
 refine L0<|b7 S #[.int .u8 M.code,.int .u8 M.fail] fun a6 U V=>nt<|sq<|sq<|Rg 10 (fun w'=>w'.heap[l]? = some (.cells #[.int .u8 M.code,.int .u8 M.fail] 154 (0,0))∧w'.heap[s]? = some (.cells (mG M.code M.fail M.addr M.count M.value M.and_ M.or_ M.addr2 M.sub M.status M.events M.messages (.slice Aw M.words.length kw) (.slice Ab M.bits.length kb) (.slice Ad M.data.length kd) (.slice Ar M.recs.length kr) M.mei M.kind M.level M.more M.next (.slice Ao M.objects.length ko)) 30 (0,0))) fun a7 t=>?_
 have u:=ub t U
 have v:=ud T (aD V t) R
 have y:=ub v k
 refine bi ⟨u,y⟩ fun W=>Rr 0 W (.agg #[.int .u8 M.code,.int .u8 M.fail]) (fun w' hs=>m7 (g:=l) (off:=0) [.int .u8 M.code,.int .u8 M.fail] rfl (by kernel_rfl) hs.1 (by kernel_rfl) (by kernel_rfl) rfl)<|R0 1 rfl<|Oc<|m1 (sI (a:=M.code) (b:=M.fail) (w:=_)) fun a8 n=>?_
 have z:=ub n u
 have C:=ub n y
 refine bi ⟨z,C⟩ fun c=>Rt 2 c<|Rt 3 c<|?_
 have D:=aD Q (aD v n)
 refine tJ 13 ((!(fj M.code M.fail))) (fun d=>?_) (fun d=>?_)
 have j:(fj M.code M.fail)=false:=by simpa using d
 refine Ro 4 c<|Ro 5 c<|Ro 6 c<|Ro 7 c<|Ro 8 c<|Rt 9 c<|re<|tn<|c1<|sg<|Pl 2<|nt<|?_
 refine rt<|tr<|rr (.tuple #[.slice none 0 0,.int .i64 1])<|?_
 have hs:jO M=none:=by
   unfold jO
   (try simp only[d,j,bs,if_true,if_false,decide_true,decide_false,reduceIte])
   all_goals rfl
 refine et hs ?_
 exact⟨rfl,D⟩
 have j:(fj M.code M.fail)=true:=by simpa using d
 refine Rr 4 c (.agg (mG M.code M.fail M.addr M.count M.value M.and_ M.or_ M.addr2 M.sub M.status M.events M.messages (.slice Aw M.words.length kw) (.slice Ab M.bits.length kb) (.slice Ad M.data.length kd) (.slice Ar M.recs.length kr) M.mei M.kind M.level M.more M.next (.slice Ao M.objects.length ko))) (fun w' hs=>m7 (g:=s) (off:=0) [.int .u8 M.code,.int .u8 M.fail,.int .u16 M.addr,.int .u16 M.count,.int .u16 M.value,.int .u16 M.and_,.int .u16 M.or_,.int .u16 M.addr2,.int .u16 M.sub,.int .u16 M.status,.int .u16 M.events,.int .u16 M.messages,.slice Aw M.words.length kw,.slice Ab M.bits.length kb,.slice Ad M.data.length kd,.slice Ar M.recs.length kr,.int .u8 M.mei,.int .u8 M.kind,.int .u8 M.level,.int .u8 M.more,.int .u8 M.next,.slice Ao M.objects.length ko] rfl (by kernel_rfl) hs.2 (by kernel_rfl) (by kernel_rfl) rfl)<|Rr 5 c (.agg #[.int .u8 M.code,.int .u8 M.fail]) (fun w' hs=>m7 (g:=l) (off:=0) [.int .u8 M.code,.int .u8 M.fail] rfl (by kernel_rfl) hs.1 (by kernel_rfl) (by kernel_rfl) rfl)<|R0 6 rfl<|Oc<|m1 (lK (a:=M.code) (b:=M.fail) (w:=_)) fun a9 o=>?_
 have E:=ub o z
 have F:=ub o C
 refine bi ⟨E,F⟩ fun aa=>?_
 have G:=aD D o
 refine R0 7 rfl<|Oc<|m1 (gT (A:=M) (B:=gv M.code M.fail) (aH.old hM G) (show aH true _ _ _ from⟨_,_,_,_,_,rfl,aL.nil ..,aL.nil ..,aL.nil ..,aL.nil ..,aL.nil ..,⟨(b8 (x:=M.code) (by omega)),(b8 (x:=M.fail) (by omega)),(ez (x:=0) (by omega)),(ez (x:=0) (by omega)),(ez (x:=0) (by omega)),(ez (x:=0) (by omega)),(ez (x:=0) (by omega)),(ez (x:=0) (by omega)),(ez (x:=0) (by omega)),(ez (x:=0) (by omega)),(ez (x:=0) (by omega)),(ez (x:=0) (by omega)),(b8 (x:=0) (by omega)),(b8 (x:=0) (by omega)),(b8 (x:=0) (by omega)),(b8 (x:=0) (by omega)),(b8 (x:=0) (by omega))⟩⟩)) fun ab p=>?_
 have q:=ub p F
 refine bi ⟨(ub p E),q⟩ fun H=>Rt 8 H<|Rt 9 H<|re<|tn<|?_
 have r:=aD G p
 refine cb ((!(decide (M=gv M.code M.fail)))) (fun f=>?_) (fun f=>?_)
 have i:(decide (M=gv M.code M.fail))=false:=by simpa using f
 have X:=of_decide_eq_false i
 refine sg<|Pl 2<|nt<|rt<|tr<|rr (.tuple #[.slice none 0 0,.int .i64 1])<|?_
 have hs:jO M=none:=by
   unfold jO
   (try simp only[d,j,f,i,bs,if_true,if_false,decide_true,decide_false,reduceIte])
   all_goals rfl
 refine et hs ?_
 exact⟨rfl,r⟩
 have i:(decide (M=gv M.code M.fail))=true:=by simpa using f
 have X:=of_decide_eq_true i
 refine bf<|sg<|Pl 1<|L0<|aO q 0<|Pl 2<|L0<|aO q 1<|L0<|cL (m:=2) (e:=5) #[.int .u8 ((M.code+128)%256),.int .u8 M.fail] fun Y ac Z a0 a1=>?_
 have a2:=cC Z (xs:=[((M.code+128)%256),M.fail]) (by as_aux_lemma=>kernel_rfl) (au (by omega) (au (by omega) aK)) (by(try simp only[List.length_cons,List.length_nil]);omega) a0
 refine Pl 2<|nt<|rt<|rr (.tuple #[.slice (some ⟨Y,0,none⟩) 2 2,.int .i64 0])<|?_
 have hs:jO M=(some [((M.code+128)%256),M.fail]):=by
   unfold jO
   (try simp only[d,j,f,i,bs,if_true,if_false,decide_true,decide_false,reduceIte])
   all_goals rfl
 refine et hs ?_
 exact⟨_,rfl,(aS.weaken a2 r.size),(aD r a1)⟩
open Go.RowKit
def bF (dir:Int)(M:aP) : List Int :=
  if (!(dir==0))&&(M.code==3 || M.code==4 || M.code==23) then [(2*(M.words.length:Int))%256]++aJ M.words
  else if M.code==6 then aJ [M.addr,M.value]
  else if M.code==22 then aJ [M.addr,M.and_,M.or_]
  else if M.code==16&&dir==0 then ((aJ [M.addr,M.count]++[(2*(M.words.length:Int))%256])++aJ M.words)
  else if M.code==23 then ((aJ [M.addr,M.count,M.addr2,(M.words.length:Int)%65536]++[(2*(M.words.length:Int))%256])++aJ M.words)
  else if M.code==24&&dir==0 then aJ [M.addr]
  else if M.code==24 then aJ [(2+2*(M.words.length:Int))%65536,(M.words.length:Int)%65536]++aJ M.words
  else aJ [M.addr,M.count]
theorem qK{m:Md}{cs:Array Value}{M:aP}{w:World}{dir:Int}(h:aH m w cs.toList M)(hf:bS M)(hd0:(dir==0)=true) : Calls Tryz.prog 205 #[.int .i64 dir,.agg cs] w (ik (bF dir M) w):=by
 obtain⟨vw,vb,vd,vr,vo,h0,hw,hbt,hd,hr,ho,hR⟩:=h
 obtain rfl:cs=(bu M vw vb vd vr vo).toArray:=by apply Array.toList_inj.1;simpa using h0
 clear h0
 obtain⟨Aw,kw,rfl,_,_⟩:=hw.shape
 obtain⟨Ab,kb,rfl,_,_⟩:=hbt.shape
 obtain⟨Ad,kd,rfl,_,_⟩:=hd.shape
 obtain⟨Ar,kr,rfl,_,_⟩:=hr.shape
 obtain⟨Ao,ko,rfl,_,_⟩:=ho.shape
 obtain⟨q0,q1,q2,q3,q4,q5,q6,q7,q8,q9,X,Y,Z,a0,a1,a2,a3⟩:=hR
 simp only[B8,dp] at q0 q1 q2 q3 q4 q5 q6 q7 q8 q9 X Y Z a0 a1 a2 a3
 have hf1:=hf.words
 have hf2:=hf.bits
 have hf3:=hf.data
 have hf4:=hf.recs
 have hf5:=hf.objects
 refine en 124 Tryz.func205 rfl<|sg<|L0<|dv (mG M.code M.fail M.addr M.count M.value M.and_ M.or_ M.addr2 M.sub M.status M.events M.messages (.slice Aw M.words.length kw) (.slice Ab M.bits.length kb) (.slice Ad M.data.length kd) (.slice Ar M.recs.length kr) M.mei M.kind M.level M.more M.next (.slice Ao M.objects.length ko)) fun bd be bf y i=>Pl 1<|ng<|Pl 1<|L0<|aO y 12<|Pl 2<|nt<|?_
 refine sg<|Pl 1<|L0<|Oi (2*((M.words.length:Nat) : Int))<|Pl 1<|L0<|cL (m:=1) (e:=5) #[.int .u8 ((2*((M.words.length:Nat) : Int))%256)] fun bg bh a4 a5 d=>?_
 have z:=cC a4 (xs:=[((2*((M.words.length:Nat) : Int))%256)]) (by as_aux_lemma=>kernel_rfl) (au (by omega) aK) (by(try simp only[List.length_cons,List.length_nil]);omega) a5
 refine Pl 1<|?_
 have A:=ub d y
 refine L0<|aO A 12<|?_
 have B:=aD i d
 refine L0<|Oc<|dG (bU (xs:=M.words) (dU.old hw B) (by(try simp only[List.length_cons,List.length_nil]);omega)) fun bi bj bm C bo bp b=>Pl 2<|ng<|Pl 3<|nt<|sq<|sg<|Pl 1<|?_
 have a:=ub b A
 refine L0<|aO a 0<|Pl 1<|nt<|bk<|sg<|Pl 3<|?_
 have j:(!(dir==0))=false:=by simp only[hd0,Bool.not_true,Bool.not_false]
 refine sy 27 j<|Pl 12<|nt<|c0<|sg<|Pl 3<|nt<|?_
 have l:=aD B b
 refine cb ((M.code==6)) (fun c=>?_) (fun c=>?_)
 have a6:=ah c
 refine sg<|Pl 1<|L0<|aO a 2<|Pl 1<|L0<|aO a 4<|L0<|cL (m:=2) (e:=24) #[.int .u16 M.addr,.int .u16 M.value] fun bq bt a7 a8 D=>?_
 have a9:=dL a7 (xs:=[M.addr,M.value]) (by as_aux_lemma=>kernel_rfl) (au (by omega) (au (by omega) aK)) (by(try simp only[List.length_cons,List.length_nil]);omega) a8
 refine L0<|Oc<|dG (bU (xs:=[M.addr,M.value]) (a9).rd (by(try simp only[List.length_cons,List.length_nil]);omega)) fun aa ab bv ac bw bx ad=>Pl 1<|nt<|rt<|br<|tr<|rr (.slice aa ((aJ ([M.addr,M.value])).length) ab)<|?_
 have hs:bF dir M=(aJ ([M.addr,M.value])):=by
   unfold bF
   (try simp only[hd0,j,c,bs,if_true,if_false,decide_true,decide_false,reduceIte])
   all_goals rfl
 rw[hs]
 exact⟨_,rfl,(aS.weaken ac (le (le (le i.size d.size) b.size) D.size)),(aD l (aD D ad))⟩
 have a6:=aj c
 refine sg<|Pl 3<|nt<|cb ((M.code==22)) (fun f=>?_) (fun f=>?_)
 have ae:=ah f
 refine sg<|Pl 1<|L0<|aO a 2<|Pl 1<|L0<|aO a 5<|Pl 1<|L0<|aO a 6<|L0<|cL (m:=3) (e:=24) #[.int .u16 M.addr,.int .u16 M.and_,.int .u16 M.or_] fun bz bA af ag E=>?_
 have ai:=dL af (xs:=[M.addr,M.and_,M.or_]) (by as_aux_lemma=>kernel_rfl) (au (by omega) (au (by omega) (au (by omega) aK))) (by(try simp only[List.length_cons,List.length_nil]);omega) ag
 refine L0<|Oc<|dG (bU (xs:=[M.addr,M.and_,M.or_]) (ai).rd (by(try simp only[List.length_cons,List.length_nil]);omega)) fun ak al bB am bC bD an=>Pl 1<|nt<|rt<|br<|tr<|rr (.slice ak ((aJ ([M.addr,M.and_,M.or_])).length) al)<|?_
 have hs:bF dir M=(aJ ([M.addr,M.and_,M.or_])):=by
   unfold bF
   (try simp only[hd0,j,c,f,bs,if_true,if_false,decide_true,decide_false,reduceIte])
   all_goals rfl
 rw[hs]
 exact⟨_,rfl,(aS.weaken am (le (le (le i.size d.size) b.size) E.size)),(aD l (aD E an))⟩
 have ae:=aj f
 refine sg<|Pl 3<|cu 2 [65] 67 (((M.code==16)&&(dir==0))) (fun K F=>?_) ?_
 refine bl 65 ((M.code==16)) (fun q=>?_) (fun q=>?_)
 have ao:=ah q
 exact Pl 2<|ce F (dir==0) (by rw[q];rfl)
 have ao:=aj q
 exact Pl 2<|ce F false (by rw[q];rfl)
 refine Pl 1<|nt<|cb (((M.code==16)&&(dir==0))) (fun g=>?_) (fun g=>?_)
 have k:=(aT g).1
 have G:=(aT g).2
 have aq:=ah k
 have bE:=ah G
 refine sg<|Pl 1<|L0<|aO a 2<|Pl 1<|L0<|aO a 3<|L0<|cL (m:=2) (e:=24) #[.int .u16 M.addr,.int .u16 M.count] fun bG bH ar aw s=>?_
 have ax:=dL ar (xs:=[M.addr,M.count]) (by as_aux_lemma=>kernel_rfl) (au (by omega) (au (by omega) aK)) (by(try simp only[List.length_cons,List.length_nil]);omega) aw
 refine L0<|Oc<|dG (bU (xs:=[M.addr,M.count]) (ax).rd (by(try simp only[List.length_cons,List.length_nil]);omega)) fun bI bJ bK H bL bM u=>Pl 1<|?_
 have I:=aD s u
 refine L0<|bR aZ (xs:=(aJ ([M.addr,M.count]))) (ys:=([((2*((M.words.length:Nat) : Int))%256)])) (.int .u8 0) 1 H ((ap z (aD b I) (fun x hx=>az) (fun _ _ h=>h))).rd (by(try simp only[List.length_append,List.length_cons,List.length_nil,aA]);omega) u.size fun bN bO bP J L=>Pl 1<|?_
 have N:=ut I L (av (aN H s.size) ay)
 refine L0<|bR aZ (xs:=((aJ ([M.addr,M.count]))++[((2*((M.words.length:Nat) : Int))%256)])) (ys:=(aJ M.words)) (.int .u8 0) 1 J ((ap C N (fun x hx=>az) (fun _ _ h=>h))).rd (by(try simp only[List.length_append,List.length_cons,List.length_nil,aA]);omega) (le u.size L.size) fun aB aC bQ aE aF=>Pl 1<|nt<|rt<|br<|tr<|rr (.slice aB ((((aJ ([M.addr,M.count]))++[((2*((M.words.length:Nat) : Int))%256)])++(aJ M.words)).length) aC)<|?_
 have hs:bF dir M=(((aJ ([M.addr,M.count]))++[((2*((M.words.length:Nat) : Int))%256)])++(aJ M.words)):=by
   unfold bF
   (try simp only[G,j,c,f,g,k,bs,if_true,if_false,decide_true,decide_false,reduceIte])
   all_goals rfl
 rw[hs]
 exact⟨_,rfl,(aS.weaken aE (le (le (le i.size d.size) b.size) s.size)),(aD l (ut N aF (av (aN J s.size) ay)))⟩
 have k:(M.code==16)=false:=by simpa only[hd0,bs] using g
 have aq:=aj k
 refine sg<|Pl 3<|nt<|cb ((M.code==23)) (fun n=>?_) (fun n=>?_)
 have aG:=ah n
 refine sg<|Pl 1<|L0<|aO a 2<|Pl 1<|L0<|aO a 3<|Pl 1<|L0<|aO a 7<|Pl 2<|L0<|cL (m:=4) (e:=24) #[.int .u16 M.addr,.int .u16 M.count,.int .u16 M.addr2,.int .u16 (((M.words.length:Nat) : Int)%65536)] fun bT bV aI aL t=>?_
 have aM:=dL aI (xs:=[M.addr,M.count,M.addr2,(((M.words.length:Nat) : Int)%65536)]) (by as_aux_lemma=>kernel_rfl) (au (by omega) (au (by omega) (au (by omega) (au (by omega) aK)))) (by(try simp only[List.length_cons,List.length_nil]);omega) aL
 refine L0<|Oc<|dG (bU (xs:=[M.addr,M.count,M.addr2,(((M.words.length:Nat) : Int)%65536)]) (aM).rd (by(try simp only[List.length_cons,List.length_nil]);omega)) fun bW bX bY O bZ c1 v=>Pl 1<|?_
 have P:=aD t v
 refine L0<|bR aZ (xs:=(aJ ([M.addr,M.count,M.addr2,(((M.words.length:Nat) : Int)%65536)]))) (ys:=([((2*((M.words.length:Nat) : Int))%256)])) (.int .u8 0) 1 O ((ap z (aD b P) (fun x hx=>az) (fun _ _ h=>h))).rd (by(try simp only[List.length_append,List.length_cons,List.length_nil,aA]);omega) v.size fun c2 c3 c4 Q R=>Pl 1<|?_
 have S:=ut P R (av (aN O t.size) ay)
 refine L0<|bR aZ (xs:=((aJ ([M.addr,M.count,M.addr2,(((M.words.length:Nat) : Int)%65536)]))++[((2*((M.words.length:Nat) : Int))%256)])) (ys:=(aJ M.words)) (.int .u8 0) 1 Q ((ap C S (fun x hx=>az) (fun _ _ h=>h))).rd (by(try simp only[List.length_append,List.length_cons,List.length_nil,aA]);omega) (le v.size R.size) fun aQ aR c5 aU aV=>Pl 1<|nt<|rt<|br<|tr<|rr (.slice aQ ((((aJ ([M.addr,M.count,M.addr2,(((M.words.length:Nat) : Int)%65536)]))++[((2*((M.words.length:Nat) : Int))%256)])++(aJ M.words)).length) aR)<|?_
 have hs:bF dir M=(((aJ ([M.addr,M.count,M.addr2,(((M.words.length:Nat) : Int)%65536)]))++[((2*((M.words.length:Nat) : Int))%256)])++(aJ M.words)):=by
   unfold bF
   (try simp only[hd0,j,c,f,g,k,n,bs,if_true,if_false,decide_true,decide_false,reduceIte])
   all_goals rfl
 rw[hs]
 exact⟨_,rfl,(aS.weaken aU (le (le (le i.size d.size) b.size) t.size)),(aD l (ut S aV (av (aN Q t.size) ay)))⟩
 have aG:=aj n
 refine sg<|Pl 3<|cu 2 [98] 100 (((M.code==24)&&(dir==0))) (fun K T=>?_) ?_
 refine bl 98 ((M.code==24)) (fun r=>?_) (fun r=>?_)
 have aW:=ah r
 exact Pl 2<|ce T (dir==0) (by rw[r];rfl)
 have aW:=aj r
 exact Pl 2<|ce T false (by rw[r];rfl)
 refine Pl 1<|nt<|cb (((M.code==24)&&(dir==0))) (fun o=>?_) (fun o=>?_)
 have p:=(aT o).1
 have U:=(aT o).2
 have aX:=ah p
 have c6:=ah U
 refine sg<|Pl 1<|L0<|aO a 2<|L0<|cL (m:=1) (e:=24) #[.int .u16 M.addr] fun c7 c8 aY b0 V=>?_
 have b1:=dL aY (xs:=[M.addr]) (by as_aux_lemma=>kernel_rfl) (au (by omega) aK) (by(try simp only[List.length_cons,List.length_nil]);omega) b0
 refine L0<|Oc<|dG (bU (xs:=[M.addr]) (b1).rd (by(try simp only[List.length_cons,List.length_nil]);omega)) fun b2 b3 c9 b4 ca cc b5=>Pl 1<|nt<|rt<|br<|tr<|rr (.slice b2 ((aJ ([M.addr])).length) b3)<|?_
 have hs:bF dir M=(aJ ([M.addr])):=by
   unfold bF
   (try simp only[U,j,c,f,g,k,n,o,p,bs,if_true,if_false,decide_true,decide_false,reduceIte])
   all_goals rfl
 rw[hs]
 exact⟨_,rfl,(aS.weaken b4 (le (le (le i.size d.size) b.size) V.size)),(aD l (aD V b5))⟩
 have p:(M.code==24)=false:=by simpa only[hd0,bs] using o
 have aX:=aj p
 refine sg<|Pl 3<|nt<|cf p<|sk<|bn<|tn<|sg<|Pl 1<|L0<|aO a 2<|Pl 1<|L0<|aO a 3<|?_
 refine L0<|cL (m:=2) (e:=24) #[.int .u16 M.addr,.int .u16 M.count] fun cd cg b6 b7 W=>?_
 have b8:=dL b6 (xs:=[M.addr,M.count]) (by as_aux_lemma=>kernel_rfl) (au (by omega) (au (by omega) aK)) (by(try simp only[List.length_cons,List.length_nil]);omega) b7
 refine L0<|Oc<|dG (bU (xs:=[M.addr,M.count]) (b8).rd (by(try simp only[List.length_cons,List.length_nil]);omega)) fun b9 ba ch bb ci cj bc=>Pl 1<|nt<|rt<|rr (.slice b9 ((aJ ([M.addr,M.count])).length) ba)<|?_
 have hs:bF dir M=(aJ ([M.addr,M.count])):=by
   unfold bF
   (try simp only[hd0,j,c,f,g,k,n,o,p,bs,if_true,if_false,decide_true,decide_false,reduceIte])
   all_goals rfl
 rw[hs]
 exact⟨_,rfl,(aS.weaken bb (le (le (le i.size d.size) b.size) W.size)),(aD l (aD W bc))⟩
theorem rp{m:Md}{cs:Array Value}{M:aP}{w:World}{dir:Int}(h:aH m w cs.toList M)(hf:bS M)(hd0:(dir==0)=false) : Calls Tryz.prog 205 #[.int .i64 dir,.agg cs] w (ik (bF dir M) w):=by
 obtain⟨vw,vb,vd,vr,vo,h0,hw,hbt,hd,hr,ho,hR⟩:=h
 obtain rfl:cs=(bu M vw vb vd vr vo).toArray:=by apply Array.toList_inj.1;simpa using h0
 clear h0
 obtain⟨Aw,kw,rfl,_,_⟩:=hw.shape
 obtain⟨Ab,kb,rfl,_,_⟩:=hbt.shape
 obtain⟨Ad,kd,rfl,_,_⟩:=hd.shape
 obtain⟨Ar,kr,rfl,_,_⟩:=hr.shape
 obtain⟨Ao,ko,rfl,_,_⟩:=ho.shape
 obtain⟨q0,q1,q2,q3,q4,q5,q6,q7,q8,q9,R,S,T,U,V,W,X⟩:=hR
 simp only[B8,dp] at q0 q1 q2 q3 q4 q5 q6 q7 q8 q9 R S T U V W X
 have hf1:=hf.words
 have hf2:=hf.bits
 have hf3:=hf.data
 have hf4:=hf.recs
 have hf5:=hf.objects
 refine en 124 Tryz.func205 rfl<|sg<|L0<|dv (mG M.code M.fail M.addr M.count M.value M.and_ M.or_ M.addr2 M.sub M.status M.events M.messages (.slice Aw M.words.length kw) (.slice Ab M.bits.length kb) (.slice Ad M.data.length kd) (.slice Ar M.recs.length kr) M.mei M.kind M.level M.more M.next (.slice Ao M.objects.length ko)) fun aX aY b0 A d=>Pl 1<|ng<|Pl 1<|L0<|aO A 12<|Pl 2<|nt<|?_
 refine sg<|Pl 1<|L0<|Oi (2*((M.words.length:Nat) : Int))<|Pl 1<|L0<|cL (m:=1) (e:=5) #[.int .u8 ((2*((M.words.length:Nat) : Int))%256)] fun b1 b2 Y Z f=>?_
 have B:=cC Y (xs:=[((2*((M.words.length:Nat) : Int))%256)]) (by as_aux_lemma=>kernel_rfl) (au (by omega) aK) (by(try simp only[List.length_cons,List.length_nil]);omega) Z
 refine Pl 1<|?_
 have C:=ub f A
 refine L0<|aO C 12<|?_
 have D:=aD d f
 refine L0<|Oc<|dG (bU (xs:=M.words) (dU.old hw D) (by(try simp only[List.length_cons,List.length_nil]);omega)) fun b3 b4 b5 E b6 b7 a=>Pl 2<|ng<|Pl 3<|nt<|sq<|sg<|Pl 1<|?_
 have b:=ub a C
 refine L0<|aO b 0<|Pl 1<|nt<|bk<|sg<|Pl 3<|?_
 have i:(!(dir==0))=true:=by simp only[hd0,Bool.not_true,Bool.not_false]
 refine sy 27 i<|Pl 3<|cu 3 [30] 33 (((M.code==3)||(M.code==4))) (fun K F=>?_) ?_
 refine bl 30 ((M.code==3)) (fun n=>?_) (fun n=>?_)
 have a0:=ah n
 exact Pl 3<|ce F true (by rw[n];rfl)
 have a0:=aj n
 exact Pl 3<|ce F (M.code==4) (by rw[n];rfl)
 refine Pl 1<|cu 3 [34] 37 ((((M.code==3)||(M.code==4))||(M.code==23))) (fun K G=>?_) ?_
 refine bl 34 (((M.code==3)||(M.code==4))) (fun o=>?_) (fun o=>?_)
 exact Pl 3<|ce G true (by rw[o];rfl)
 have a1:=(aE o).1
 have a2:=(aE o).2
 have b8:=aj a1
 have b9:=aj a2
 exact Pl 3<|ce G (M.code==23) (by rw[o];rfl)
 refine Pl 2<|nt<|?_
 have p:=aD D a
 refine cb ((((M.code==3)||(M.code==4))||(M.code==23))) (fun c=>?_) (fun c=>?_)
 refine sg<|Pl 2<|?_
 refine L0<|bR aZ (xs:=([((2*((M.words.length:Nat) : Int))%256)])) (ys:=(aJ M.words)) (.int .u8 0) 1 (ap B a (fun x hx=>az) (fun _ _ h=>h)) (E).rd (by(try simp only[List.length_append,List.length_cons,List.length_nil,aA]);omega) (le f.size a.size) fun a3 a4 ba a5 a6=>Pl 1<|nt<|rt<|br<|tr<|rr (.slice a3 (([((2*((M.words.length:Nat) : Int))%256)]++(aJ M.words)).length) a4)<|?_
 have hs:bF dir M=([((2*((M.words.length:Nat) : Int))%256)]++(aJ M.words)):=by
   unfold bF
   (try simp only[hd0,i,c,bs,if_true,if_false,decide_true,decide_false,reduceIte])
   all_goals rfl
 rw[hs]
 exact⟨_,rfl,(aS.weaken a5 d.size),(ut p a6 (av (aN B d.size) ay))⟩
 have j:=(aE c).1
 have k:=(aE c).2
 have q:=(aE j).1
 have r:=(aE j).2
 have q40aap:=aj q
 have q40abp:=aj r
 have bb:=aj k
 refine sg<|Pl 3<|nt<|cb ((M.code==6)) (fun g=>?_) (fun g=>?_)
 have a7:=ah g
 refine sg<|Pl 1<|L0<|aO b 2<|Pl 1<|L0<|aO b 4<|L0<|cL (m:=2) (e:=24) #[.int .u16 M.addr,.int .u16 M.value] fun bc bd a8 a9 H=>?_
 have aa:=dL a8 (xs:=[M.addr,M.value]) (by as_aux_lemma=>kernel_rfl) (au (by omega) (au (by omega) aK)) (by(try simp only[List.length_cons,List.length_nil]);omega) a9
 refine L0<|Oc<|dG (bU (xs:=[M.addr,M.value]) (aa).rd (by(try simp only[List.length_cons,List.length_nil]);omega)) fun ab ac be ad bf bg ae=>Pl 1<|nt<|rt<|br<|tr<|rr (.slice ab ((aJ ([M.addr,M.value])).length) ac)<|?_
 have hs:bF dir M=(aJ ([M.addr,M.value])):=by
   unfold bF
   (try simp only[hd0,i,c,j,q,r,k,g,bs,if_true,if_false,decide_true,decide_false,reduceIte])
   all_goals rfl
 rw[hs]
 exact⟨_,rfl,(aS.weaken ad (le (le (le d.size f.size) a.size) H.size)),(aD p (aD H ae))⟩
 have a7:=aj g
 refine sg<|Pl 3<|nt<|cb ((M.code==22)) (fun l=>?_) (fun l=>?_)
 have af:=ah l
 refine sg<|Pl 1<|L0<|aO b 2<|Pl 1<|L0<|aO b 5<|Pl 1<|L0<|aO b 6<|L0<|cL (m:=3) (e:=24) #[.int .u16 M.addr,.int .u16 M.and_,.int .u16 M.or_] fun bh bi ag ai I=>?_
 have ak:=dL ag (xs:=[M.addr,M.and_,M.or_]) (by as_aux_lemma=>kernel_rfl) (au (by omega) (au (by omega) (au (by omega) aK))) (by(try simp only[List.length_cons,List.length_nil]);omega) ai
 refine L0<|Oc<|dG (bU (xs:=[M.addr,M.and_,M.or_]) (ak).rd (by(try simp only[List.length_cons,List.length_nil]);omega)) fun al am bj an bm bo ao=>Pl 1<|nt<|rt<|br<|tr<|rr (.slice al ((aJ ([M.addr,M.and_,M.or_])).length) am)<|?_
 have hs:bF dir M=(aJ ([M.addr,M.and_,M.or_])):=by
   unfold bF
   (try simp only[hd0,i,c,j,q,r,k,g,l,bs,if_true,if_false,decide_true,decide_false,reduceIte])
   all_goals rfl
 rw[hs]
 exact⟨_,rfl,(aS.weaken an (le (le (le d.size f.size) a.size) I.size)),(aD p (aD I ao))⟩
 have af:=aj l
 refine sg<|Pl 3<|cu 2 [65] 67 (((M.code==16)&&(dir==0))) (fun K J=>?_) ?_
 refine bl 65 ((M.code==16)) (fun s=>?_) (fun s=>?_)
 have aq:=ah s
 exact Pl 2<|ce J (dir==0) (by rw[s];rfl)
 have aq:=aj s
 exact Pl 2<|ce J false (by rw[s];rfl)
 refine Pl 1<|nt<|?_
 have v:((M.code==16)&&(dir==0))=false:=by simp only[hd0,bs]
 refine cf v<|sg<|Pl 3<|nt<|cf k<|sg<|Pl 3<|cu 2 [98] 100 (((M.code==24)&&(dir==0))) (fun K L=>?_) ?_
 refine bl 98 ((M.code==24)) (fun t=>?_) (fun t=>?_)
 have ar:=ah t
 exact Pl 2<|ce L (dir==0) (by rw[t];rfl)
 have ar:=aj t
 exact Pl 2<|ce L false (by rw[t];rfl)
 refine Pl 1<|nt<|?_
 have y:((M.code==24)&&(dir==0))=false:=by simp only[hd0,bs]
 refine cf y<|sg<|Pl 3<|nt<|cb ((M.code==24)) (fun u=>?_) (fun u=>?_)
 have aw:=ah u
 refine sg<|Pl 1<|L0<|Oi (2*((M.words.length:Nat) : Int))<|L0<|Oi (2+(2*((M.words.length:Nat) : Int)))<|Pl 3<|L0<|cL (m:=2) (e:=24) #[.int .u16 ((2+(2*((M.words.length:Nat) : Int)))%65536),.int .u16 (((M.words.length:Nat) : Int)%65536)] fun bp bq ax aB z=>?_
 have aC:=dL ax (xs:=[((2+(2*((M.words.length:Nat) : Int)))%65536),(((M.words.length:Nat) : Int)%65536)]) (by as_aux_lemma=>kernel_rfl) (au (by omega) (au (by omega) aK)) (by(try simp only[List.length_cons,List.length_nil]);omega) aB
 refine L0<|Oc<|dG (bU (xs:=[((2+(2*((M.words.length:Nat) : Int)))%65536),(((M.words.length:Nat) : Int)%65536)]) (aC).rd (by(try simp only[List.length_cons,List.length_nil]);omega)) fun bt bv bw N bx bz O=>Pl 1<|?_
 have P:=aD z O
 refine L0<|bR aZ (xs:=(aJ ([((2+(2*((M.words.length:Nat) : Int)))%65536),(((M.words.length:Nat) : Int)%65536)]))) (ys:=(aJ M.words)) (.int .u8 0) 1 N ((ap E P (fun x hx=>az) (fun _ _ h=>h))).rd (by(try simp only[List.length_append,List.length_cons,List.length_nil,aA]);omega) O.size fun aF aG bA aI aL=>Pl 1<|nt<|rt<|br<|tr<|rr (.slice aF (((aJ ([((2+(2*((M.words.length:Nat) : Int)))%65536),(((M.words.length:Nat) : Int)%65536)]))++(aJ M.words)).length) aG)<|?_
 have hs:bF dir M=((aJ ([((2+(2*((M.words.length:Nat) : Int)))%65536),(((M.words.length:Nat) : Int)%65536)]))++(aJ M.words)):=by
   unfold bF
   (try simp only[hd0,i,c,j,q,r,k,g,l,v,y,u,bs,if_true,if_false,decide_true,decide_false,reduceIte])
   all_goals rfl
 rw[hs]
 exact⟨_,rfl,(aS.weaken aI (le (le (le d.size f.size) a.size) z.size)),(aD p (ut P aL (av (aN N z.size) ay)))⟩
 have aw:=aj u
 refine sk<|bn<|tn<|sg<|Pl 1<|L0<|aO b 2<|Pl 1<|L0<|aO b 3<|L0<|cL (m:=2) (e:=24) #[.int .u16 M.addr,.int .u16 M.count] fun bB bC aM aQ Q=>?_
 have aR:=dL aM (xs:=[M.addr,M.count]) (by as_aux_lemma=>kernel_rfl) (au (by omega) (au (by omega) aK)) (by(try simp only[List.length_cons,List.length_nil]);omega) aQ
 refine L0<|Oc<|dG (bU (xs:=[M.addr,M.count]) (aR).rd (by(try simp only[List.length_cons,List.length_nil]);omega)) fun aT aU bD aV bE bG aW=>Pl 1<|nt<|rt<|rr (.slice aT ((aJ ([M.addr,M.count])).length) aU)<|?_
 have hs:bF dir M=(aJ ([M.addr,M.count])):=by
   unfold bF
   (try simp only[hd0,i,c,j,q,r,k,g,l,v,y,u,bs,if_true,if_false,decide_true,decide_false,reduceIte])
   all_goals rfl
 rw[hs]
 exact⟨_,rfl,(aS.weaken aV (le (le (le d.size f.size) a.size) Q.size)),(aD p (aD Q aW))⟩
theorem vR{m:Md}{cs:Array Value}{M:aP}{w:World}{dir:Int}(h:aH m w cs.toList M)(hf:bS M) : Calls Tryz.prog 205 #[.int .i64 dir,.agg cs] w (ik (bF dir M) w):=by
  rcases ej (dir==0) with h0|h0
  · exact qK h hf h0
  · exact rp h hf h0
open Go.RowKit
def bI (dir:Int)(M:aP) : List Int :=
  if M.code==8 then aJ [M.sub]++aJ M.words
  else if dir==0 then []
  else if M.code==7 then [M.value%256]
  else if M.code==11 then aJ [M.status,M.events]
  else if M.code==12 then (([(6+(M.data.length:Int))%256]++aJ [M.status,M.events,M.messages])++M.data)
  else [(M.data.length:Int)%256]++M.data
theorem qN{m:Md}{cs:Array Value}{M:aP}{w:World}{dir:Int}(h:aH m w cs.toList M)(hf:bS M)(hd0:(dir==0)=true) : Calls Tryz.prog 208 #[.int .i64 dir,.agg cs] w (ik (bI dir M) w):=by
 obtain⟨vw,vb,vd,vr,vo,h0,hw,hbt,hd,hr,ho,hR⟩:=h
 obtain rfl:cs=(bu M vw vb vd vr vo).toArray:=by apply Array.toList_inj.1;simpa using h0
 clear h0
 obtain⟨Aw,kw,rfl,_,_⟩:=hw.shape
 obtain⟨Ab,kb,rfl,_,_⟩:=hbt.shape
 obtain⟨Ad,kd,rfl,_,_⟩:=hd.shape
 obtain⟨Ar,kr,rfl,_,_⟩:=hr.shape
 obtain⟨Ao,ko,rfl,_,_⟩:=ho.shape
 obtain⟨q0,q1,q2,q3,q4,q5,q6,q7,q8,q9,u,v,y,z,A,B,C⟩:=hR
 simp only[B8,dp] at q0 q1 q2 q3 q4 q5 q6 q7 q8 q9 u v y z A B C
 have hf1:=hf.words
 have hf2:=hf.bits
 have hf3:=hf.data
 have hf4:=hf.recs
 have hf5:=hf.objects
 refine en 70 Tryz.func208 rfl<|sg<|L0<|dv (mG M.code M.fail M.addr M.count M.value M.and_ M.or_ M.addr2 M.sub M.status M.events M.messages (.slice Aw M.words.length kw) (.slice Ab M.bits.length kb) (.slice Ad M.data.length kd) (.slice Ar M.recs.length kr) M.mei M.kind M.level M.more M.next (.slice Ao M.objects.length ko)) fun q O P i d=>Pl 1<|nt<|sq<|bk<|sg<|Pl 1<|L0<|aO i 0<|Pl 2<|nl<|?_
 refine tn<|cb ((M.code==8)) (fun a=>?_) (fun a=>?_)
 have D:=ah a
 refine sq<|Rg 9 (fun w'=>w'.cell? ⟨q,8,none⟩=some (.int .u16 M.sub)∧w'.cell? ⟨q,12,none⟩=some (.slice Aw M.words.length kw)) fun Q b=>?_
 have j:=ub b i
 refine bi ⟨(ae j rfl),(ae j rfl)⟩ fun f=>Rt 0 f<|Rl 1 f (fun _ hs=>hs.1)<|Rt 4 f<|Rl 5 f (fun _ hs=>hs.2)<|R0 2 rfl<|cL (m:=1) (e:=24) #[.int .u16 M.sub] fun R S E F c=>?_
 have G:=dL E (xs:=[M.sub]) (by as_aux_lemma=>kernel_rfl) (au (by omega) aK) (by(try simp only[List.length_cons,List.length_nil]);omega) F
 have k:=ub c j
 refine bi ⟨(ae k rfl),(ae k rfl)⟩ fun T=>R0 3 rfl<|Oc<|dG (bU (xs:=[M.sub]) (G).rd (by(try simp only[List.length_cons,List.length_nil]);omega)) fun H U V l W X n=>?_
 have o:=ub n k
 refine bi ⟨(ae o rfl),(ae o rfl)⟩ fun Y=>?_
 have r:=aD d (aD b (aD c n))
 refine R0 6 rfl<|Oc<|dG (bU (xs:=M.words) (dU.old hw r) (by(try simp only[List.length_cons,List.length_nil]);omega)) fun Z a0 a1 I a2 a3 g=>?_
 have p:=ub g o
 refine bi ⟨(ae p rfl),(ae p rfl)⟩ fun a4=>?_
 refine R0 7 rfl<|bR aZ (xs:=(aJ ([M.sub]))) (ys:=(aJ M.words)) (.int .u8 0) 1 (ap l g (fun x hx=>az) (fun _ _ h=>h)) (I).rd (by(try simp only[List.length_append,List.length_cons,List.length_nil,aA]);omega) (le n.size g.size) fun J K a5 L s=>?_
 have t:=aC.blk s (bj (aB (am i) (le b.size c.size) l) az) p
 refine bi ⟨(ae t rfl),(ae t rfl)⟩ fun N=>Rt 8 N<|re<|tn<|rt<|br<|tr<|rr (.slice J (((aJ ([M.sub]))++(aJ M.words)).length) K)<|?_
 have hs:bI dir M=((aJ ([M.sub]))++(aJ M.words)):=by
   unfold bI
   (try simp only[hd0,a,bs,if_true,if_false,decide_true,decide_false,reduceIte])
   all_goals rfl
 rw[hs]
 exact⟨_,rfl,(aS.weaken L (le (le d.size b.size) c.size)),(ut r (ut (aC.mono (S':=(ob H++[])) g ay) s (av il ay)) (av (aN l (le (le d.size b.size) c.size)) ay))⟩
 have D:=aj a
 refine sg<|Pl 3<|nt<|ct hd0<|sg<|Pl 1<|nt<|rt<|br<|tr<|?_
 refine rr (.slice none 0 0)<|?_
 have hs:bI dir M=[]:=by
   unfold bI
   (try simp only[hd0,a,bs,if_true,if_false,decide_true,decide_false,reduceIte])
   all_goals rfl
 rw[hs]
 exact⟨_,rfl,(aS.nil ..),d⟩
theorem rq{m:Md}{cs:Array Value}{M:aP}{w:World}{dir:Int}(h:aH m w cs.toList M)(hf:bS M)(hd0:(dir==0)=false) : Calls Tryz.prog 208 #[.int .i64 dir,.agg cs] w (ik (bI dir M) w):=by
 obtain⟨vw,vb,vd,vr,vo,h0,hw,hbt,hd,hr,ho,hR⟩:=h
 obtain rfl:cs=(bu M vw vb vd vr vo).toArray:=by apply Array.toList_inj.1;simpa using h0
 clear h0
 obtain⟨Aw,kw,rfl,_,_⟩:=hw.shape
 obtain⟨Ab,kb,rfl,_,_⟩:=hbt.shape
 obtain⟨Ad,kd,rfl,_,_⟩:=hd.shape
 obtain⟨Ar,kr,rfl,_,_⟩:=hr.shape
 obtain⟨Ao,ko,rfl,_,_⟩:=ho.shape
 obtain⟨q0,q1,q2,q3,q4,q5,q6,q7,q8,q9,ak,al,an,ao,aq,ar,aw⟩:=hR
 simp only[B8,dp] at q0 q1 q2 q3 q4 q5 q6 q7 q8 q9 ak al an ao aq ar aw
 have hf1:=hf.words
 have hf2:=hf.bits
 have hf3:=hf.data
 have hf4:=hf.recs
 have hf5:=hf.objects
 refine en 70 Tryz.func208 rfl<|sg<|L0<|dv (mG M.code M.fail M.addr M.count M.value M.and_ M.or_ M.addr2 M.sub M.status M.events M.messages (.slice Aw M.words.length kw) (.slice Ab M.bits.length kb) (.slice Ad M.data.length kd) (.slice Ar M.recs.length kr) M.mei M.kind M.level M.more M.next (.slice Ao M.objects.length ko)) fun l bY bZ b a=>Pl 1<|nt<|sq<|bk<|sg<|Pl 1<|L0<|aO b 0<|Pl 2<|nl<|?_
 refine tn<|cb ((M.code==8)) (fun f=>?_) (fun f=>?_)
 have ax:=ah f
 refine sq<|Rg 9 (fun w'=>w'.cell? ⟨l,8,none⟩=some (.int .u16 M.sub)∧w'.cell? ⟨l,12,none⟩=some (.slice Aw M.words.length kw)) fun c0 p=>?_
 have J:=ub p b
 refine bi ⟨(ae J rfl),(ae J rfl)⟩ fun E=>Rt 0 E<|Rl 1 E (fun _ hs=>hs.1)<|Rt 4 E<|Rl 5 E (fun _ hs=>hs.2)<|R0 2 rfl<|cL (m:=1) (e:=24) #[.int .u16 M.sub] fun c1 c2 aE aF q=>?_
 have aG:=dL aE (xs:=[M.sub]) (by as_aux_lemma=>kernel_rfl) (au (by omega) aK) (by(try simp only[List.length_cons,List.length_nil]);omega) aF
 have K:=ub q J
 refine bi ⟨(ae K rfl),(ae K rfl)⟩ fun c3=>R0 3 rfl<|Oc<|dG (bU (xs:=[M.sub]) (aG).rd (by(try simp only[List.length_cons,List.length_nil]);omega)) fun aI c4 c5 L c6 c7 N=>?_
 have O:=ub N K
 refine bi ⟨(ae O rfl),(ae O rfl)⟩ fun c8=>?_
 have X:=aD a (aD p (aD q N))
 refine R0 6 rfl<|Oc<|dG (bU (xs:=M.words) (dU.old hw X) (by(try simp only[List.length_cons,List.length_nil]);omega)) fun c9 ca cc aL cd ce F=>?_
 have P:=ub F O
 refine bi ⟨(ae P rfl),(ae P rfl)⟩ fun cg=>?_
 refine R0 7 rfl<|bR aZ (xs:=(aJ ([M.sub]))) (ys:=(aJ M.words)) (.int .u8 0) 1 (ap L F (fun x hx=>az) (fun _ _ h=>h)) (aL).rd (by(try simp only[List.length_append,List.length_cons,List.length_nil,aA]);omega) (le N.size F.size) fun aM aQ ci aR Y=>?_
 have Z:=aC.blk Y (bj (aB (am b) (le p.size q.size) L) az) P
 refine bi ⟨(ae Z rfl),(ae Z rfl)⟩ fun aT=>Rt 8 aT<|re<|tn<|rt<|br<|tr<|rr (.slice aM (((aJ ([M.sub]))++(aJ M.words)).length) aQ)<|?_
 have hs:bI dir M=((aJ ([M.sub]))++(aJ M.words)):=by
   unfold bI
   (try simp only[hd0,f,bs,if_true,if_false,decide_true,decide_false,reduceIte])
   all_goals rfl
 rw[hs]
 exact⟨_,rfl,(aS.weaken aR (le (le a.size p.size) q.size)),(ut X (ut (aC.mono (S':=(ob aI++[])) F ay) Y (av il ay)) (av (aN L (le (le a.size p.size) q.size)) ay))⟩
 have ax:=aj f
 refine sg<|Pl 3<|nt<|cf hd0<|sg<|Pl 1<|L0<|aO b 0<|Pl 2<|nt<|cb ((M.code==7)) (fun g=>?_) (fun g=>?_)
 have aU:=ah g
 refine sg<|Pl 1<|L0<|aO b 4<|Pl 1<|L0<|cL (m:=1) (e:=5) #[.int .u8 (M.value%256)] fun aV cj aW aX aY=>?_
 have b0:=cC aW (xs:=[(M.value%256)]) (by as_aux_lemma=>kernel_rfl) (au (by omega) aK) (by(try simp only[List.length_cons,List.length_nil]);omega) aX
 refine Pl 1<|nt<|rt<|br<|tr<|rr (.slice (some ⟨aV,0,none⟩) 1 1)<|?_
 have hs:bI dir M=[(M.value%256)]:=by
   unfold bI
   (try simp only[hd0,f,g,bs,if_true,if_false,decide_true,decide_false,reduceIte])
   all_goals rfl
 rw[hs]
 exact⟨_,rfl,(aS.weaken b0 a.size),(aD a aY)⟩
 have aU:=aj g
 refine sg<|Pl 1<|L0<|aO b 0<|Pl 2<|nt<|cb ((M.code==11)) (fun j=>?_) (fun j=>?_)
 have b1:=ah j
 refine sg<|Pl 1<|L0<|aO b 9<|Pl 1<|L0<|aO b 10<|L0<|cL (m:=2) (e:=24) #[.int .u16 M.status,.int .u16 M.events] fun ck cl b2 b3 a0=>?_
 have b4:=dL b2 (xs:=[M.status,M.events]) (by as_aux_lemma=>kernel_rfl) (au (by omega) (au (by omega) aK)) (by(try simp only[List.length_cons,List.length_nil]);omega) b3
 refine L0<|Oc<|dG (bU (xs:=[M.status,M.events]) (b4).rd (by(try simp only[List.length_cons,List.length_nil]);omega)) fun b5 b6 cm b7 cn co b8=>Pl 1<|nt<|rt<|br<|tr<|rr (.slice b5 ((aJ ([M.status,M.events])).length) b6)<|?_
 have hs:bI dir M=(aJ ([M.status,M.events])):=by
   unfold bI
   (try simp only[hd0,f,g,j,bs,if_true,if_false,decide_true,decide_false,reduceIte])
   all_goals rfl
 rw[hs]
 exact⟨_,rfl,(aS.weaken b7 (le a.size a0.size)),(aD a (aD a0 b8))⟩
 have b1:=aj j
 refine sg<|Pl 1<|L0<|aO b 0<|Pl 2<|nt<|cb ((M.code==12)) (fun k=>?_) (fun k=>?_)
 have ba:=ah k
 refine sq<|Rg 16 (fun w'=>w'.cell? ⟨l,14,none⟩=some (.slice Ad M.data.length kd)∧w'.cell? ⟨l,9,none⟩=some (.int .u16 M.status)∧w'.cell? ⟨l,10,none⟩=some (.int .u16 M.events)∧w'.cell? ⟨l,11,none⟩=some (.int .u16 M.messages)) fun cp c=>?_
 have n:=ub c b
 refine bi ⟨(ae n rfl),(ae n rfl),(ae n rfl),(ae n rfl)⟩ fun d=>Rt 0 d<|Rl 1 d (fun _ hs=>hs.1)<|Rt 2 d<|Rr 3 d (.int .i64 (6+((M.data.length:Nat) : Int))) (fun _ _=>ch (.int .i64 (IntKind.i64.wrap (6+((M.data.length:Nat) : Int)))) (by kernel_rfl) (congrArg (Value.int .i64) (IntWalk.i64_in _ (by omega))))<|Rt 4 d<|Rt 6 d<|Rl 7 d (fun _ hs=>hs.2.1)<|Rt 8 d<|Rl 9 d (fun _ hs=>hs.2.2.1)<|Rt 10 d<|Rl 11 d (fun _ hs=>hs.2.2.2)<|?_
 refine R2 5 12 rfl rfl ?_ ?_
 refine  cL (m:=1) (e:=5) #[.int .u8 ((6+((M.data.length:Nat) : Int))%256)] fun bb cq bc bd Q=>?_
 have R:=cC bc (xs:=[((6+((M.data.length:Nat) : Int))%256)]) (by as_aux_lemma=>kernel_rfl) (au (by omega) aK) (by(try simp only[List.length_cons,List.length_nil]);omega) bd
 have r:=ub Q n
 refine bi ⟨(ae r rfl),(ae r rfl),(ae r rfl),(ae r rfl)⟩ fun cr=>R0 12 rfl<|cL (m:=3) (e:=24) #[.int .u16 M.status,.int .u16 M.events,.int .u16 M.messages] fun ct cu be bf S=>?_
 have bg:=dL be (xs:=[M.status,M.events,M.messages]) (by as_aux_lemma=>kernel_rfl) (au (by omega) (au (by omega) (au (by omega) aK))) (by(try simp only[List.length_cons,List.length_nil]);omega) bf
 have s:=ub S r
 refine bi ⟨(ae s rfl),(ae s rfl),(ae s rfl),(ae s rfl)⟩ fun cv=>R0 13 rfl<|Oc<|dG (bU (xs:=[M.status,M.events,M.messages]) (bg).rd (by(try simp only[List.length_cons,List.length_nil]);omega)) fun cw cx cy bh cz cA T=>?_
 have t:=ub T s
 refine bi ⟨(ae t rfl),(ae t rfl),(ae t rfl),(ae t rfl)⟩ fun cB=>?_
 have a1:=aD S T
 refine R0 14 rfl<|bR aZ (xs:=([((6+((M.data.length:Nat) : Int))%256)])) (ys:=(aJ ([M.status,M.events,M.messages]))) (.int .u8 0) 1 (ap R a1 (fun x hx=>az) (fun _ _ h=>h)) (bh).rd (by(try simp only[List.length_append,List.length_cons,List.length_nil,aA]);omega) (le (le Q.size S.size) T.size) fun cD cE cF a2 a3=>?_
 have u:=aC.blk a3 (bj (aB (am b) c.size R) az) t
 refine bi ⟨(ae u rfl),(ae u rfl),(ae u rfl),(ae u rfl)⟩ fun bl=>Rt 15 bl<|re<|tn<|sg<|Pl 2<|L0<|aO u 14<|?_
 have a4:=ut Q (ut (aC.mono (S':=(ob (some ⟨bb,0,none⟩)++[])) a1 ay) a3 (av il ay)) (av (aN R lr) ay)
 have a5:=aD a (aD c a4)
 refine L0<|bR aZ (xs:=([((6+((M.data.length:Nat) : Int))%256)]++(aJ ([M.status,M.events,M.messages])))) (ys:=M.data) (.int .u8 0) 1 a2 (b9.old hd a5) (by(try simp only[List.length_append,List.length_cons,List.length_nil,aA]);omega) a4.size fun bm bo cG bp bq=>Pl 1<|nt<|rt<|br<|tr<|rr (.slice bm ((([((6+((M.data.length:Nat) : Int))%256)]++(aJ ([M.status,M.events,M.messages])))++M.data).length) bo)<|?_
 have hs:bI dir M=(([((6+((M.data.length:Nat) : Int))%256)]++(aJ ([M.status,M.events,M.messages])))++M.data):=by
   unfold bI
   (try simp only[hd0,f,g,j,k,bs,if_true,if_false,decide_true,decide_false,reduceIte])
   all_goals rfl
 rw[hs]
 exact⟨_,rfl,(aS.weaken bp (le a.size c.size)),(ut a5 bq (av (aN a2 (le a.size c.size)) ay))⟩
 refine  cL (m:=3) (e:=24) #[.int .u16 M.status,.int .u16 M.events,.int .u16 M.messages] fun cH cI bt bv i=>?_
 have a6:=dL bt (xs:=[M.status,M.events,M.messages]) (by as_aux_lemma=>kernel_rfl) (au (by omega) (au (by omega) (au (by omega) aK))) (by(try simp only[List.length_cons,List.length_nil]);omega) bv
 have o:=ub i n
 refine bi ⟨(ae o rfl),(ae o rfl),(ae o rfl),(ae o rfl)⟩ fun cJ=>?_
 refine R2 5 13 rfl rfl ?_ ?_
 refine  cL (m:=1) (e:=5) #[.int .u8 ((6+((M.data.length:Nat) : Int))%256)] fun bw cK bx bz G=>?_
 have U:=cC bx (xs:=[((6+((M.data.length:Nat) : Int))%256)]) (by as_aux_lemma=>kernel_rfl) (au (by omega) aK) (by(try simp only[List.length_cons,List.length_nil]);omega) bz
 have v:=ub G o
 refine bi ⟨(ae v rfl),(ae v rfl),(ae v rfl),(ae v rfl)⟩ fun cM=>?_
 refine R0 13 rfl<|Oc<|dG (bU (xs:=[M.status,M.events,M.messages]) ((ap a6 G (fun x hx=>az) (fun _ _ h=>h))).rd (by(try simp only[List.length_cons,List.length_nil]);omega)) fun cN cO cP bA cQ cR H=>?_
 have y:=ub H v
 refine bi ⟨(ae y rfl),(ae y rfl),(ae y rfl),(ae y rfl)⟩ fun cS=>?_
 refine R0 14 rfl<|bR aZ (xs:=([((6+((M.data.length:Nat) : Int))%256)])) (ys:=(aJ ([M.status,M.events,M.messages]))) (.int .u8 0) 1 (ap U H (fun x hx=>az) (fun _ _ h=>h)) (bA).rd (by(try simp only[List.length_append,List.length_cons,List.length_nil,aA]);omega) (le G.size H.size) fun cT cU cV a7 a8=>?_
 have z:=aC.blk a8 (bj (aB (am b) (le c.size i.size) U) az) y
 refine bi ⟨(ae z rfl),(ae z rfl),(ae z rfl),(ae z rfl)⟩ fun bB=>Rt 15 bB<|re<|tn<|sg<|Pl 2<|L0<|aO z 14<|?_
 have a9:=ut G (ut (aC.mono (S':=(ob (some ⟨bw,0,none⟩)++[])) H ay) a8 (av il ay)) (av (aN U lr) ay)
 have aa:=aD a (aD c (aD i a9))
 refine L0<|bR aZ (xs:=([((6+((M.data.length:Nat) : Int))%256)]++(aJ ([M.status,M.events,M.messages])))) (ys:=M.data) (.int .u8 0) 1 a7 (b9.old hd aa) (by(try simp only[List.length_append,List.length_cons,List.length_nil,aA]);omega) a9.size fun bC bD cW bE bF=>Pl 1<|nt<|rt<|br<|tr<|rr (.slice bC ((([((6+((M.data.length:Nat) : Int))%256)]++(aJ ([M.status,M.events,M.messages])))++M.data).length) bD)<|?_
 have hs:bI dir M=(([((6+((M.data.length:Nat) : Int))%256)]++(aJ ([M.status,M.events,M.messages])))++M.data):=by
   unfold bI
   (try simp only[hd0,f,g,j,k,bs,if_true,if_false,decide_true,decide_false,reduceIte])
   all_goals rfl
 rw[hs]
 exact⟨_,rfl,(aS.weaken bE (le (le a.size c.size) i.size)),(ut aa bF (av (aN a7 (le (le a.size c.size) i.size)) ay))⟩
 refine  Oc<|dG (bU (xs:=[M.status,M.events,M.messages]) (a6).rd (by(try simp only[List.length_cons,List.length_nil]);omega)) fun cX cY cZ bG d0 d1 A=>?_
 have B:=ub A o
 refine bi ⟨(ae B rfl),(ae B rfl),(ae B rfl),(ae B rfl)⟩ fun d2=>R0 5 rfl<|cL (m:=1) (e:=5) #[.int .u8 ((6+((M.data.length:Nat) : Int))%256)] fun d3 d4 bH bJ I=>?_
 have V:=cC bH (xs:=[((6+((M.data.length:Nat) : Int))%256)]) (by as_aux_lemma=>kernel_rfl) (au (by omega) aK) (by(try simp only[List.length_cons,List.length_nil]);omega) bJ
 have C:=ub I B
 refine bi ⟨(ae C rfl),(ae C rfl),(ae C rfl),(ae C rfl)⟩ fun d5=>?_
 refine R0 14 rfl<|bR aZ (xs:=([((6+((M.data.length:Nat) : Int))%256)])) (ys:=(aJ ([M.status,M.events,M.messages]))) (.int .u8 0) 1 V ((ap bG I (fun x hx=>az) (fun _ _ h=>h))).rd (by(try simp only[List.length_append,List.length_cons,List.length_nil,aA]);omega) I.size fun d6 d7 d8 ab ac=>?_
 have D:=aC.blk ac (bj (aB (am b) (le (le c.size i.size) A.size) V) az) C
 refine bi ⟨(ae D rfl),(ae D rfl),(ae D rfl),(ae D rfl)⟩ fun bK=>Rt 15 bK<|re<|tn<|sg<|Pl 2<|L0<|aO D 14<|?_
 have ad:=ut I ac (av (aN V lr) ay)
 have af:=aD a (aD c (aD i (aD A ad)))
 refine L0<|bR aZ (xs:=([((6+((M.data.length:Nat) : Int))%256)]++(aJ ([M.status,M.events,M.messages])))) (ys:=M.data) (.int .u8 0) 1 ab (b9.old hd af) (by(try simp only[List.length_append,List.length_cons,List.length_nil,aA]);omega) ad.size fun bL bM d9 bN bO=>Pl 1<|nt<|rt<|br<|tr<|rr (.slice bL ((([((6+((M.data.length:Nat) : Int))%256)]++(aJ ([M.status,M.events,M.messages])))++M.data).length) bM)<|?_
 have hs:bI dir M=(([((6+((M.data.length:Nat) : Int))%256)]++(aJ ([M.status,M.events,M.messages])))++M.data):=by
   unfold bI
   (try simp only[hd0,f,g,j,k,bs,if_true,if_false,decide_true,decide_false,reduceIte])
   all_goals rfl
 rw[hs]
 exact⟨_,rfl,(aS.weaken bN (le (le (le a.size c.size) i.size) A.size)),(ut af bO (av (aN ab (le (le (le a.size c.size) i.size) A.size)) ay))⟩
 have ba:=aj k
 refine sk<|bn<|tn<|sg<|Pl 1<|L0<|aO b 14<|Pl 2<|L0<|cL (m:=1) (e:=5) #[.int .u8 (((M.data.length:Nat) : Int)%256)] fun da db bP bQ W=>?_
 have ag:=cC bP (xs:=[(((M.data.length:Nat) : Int)%256)]) (by as_aux_lemma=>kernel_rfl) (au (by omega) aK) (by(try simp only[List.length_cons,List.length_nil]);omega) bQ
 refine Pl 1<|?_
 refine L0<|aO (ub W b) 14<|?_
 have ai:=aD a W
 refine L0<|bR aZ (xs:=([(((M.data.length:Nat) : Int)%256)])) (ys:=M.data) (.int .u8 0) 1 ag (b9.old hd ai) (by(try simp only[List.length_append,List.length_cons,List.length_nil,aA]);omega) W.size fun bT bV dc bW bX=>Pl 1<|nt<|rt<|rr (.slice bT (([(((M.data.length:Nat) : Int)%256)]++M.data).length) bV)<|?_
 have hs:bI dir M=([(((M.data.length:Nat) : Int)%256)]++M.data):=by
   unfold bI
   (try simp only[hd0,f,g,j,k,bs,if_true,if_false,decide_true,decide_false,reduceIte])
   all_goals rfl
 rw[hs]
 exact⟨_,rfl,(aS.weaken bW a.size),(ut ai bX (av (aN ag a.size) ay))⟩
theorem ur{m:Md}{cs:Array Value}{M:aP}{w:World}{dir:Int}(h:aH m w cs.toList M)(hf:bS M) : Calls Tryz.prog 208 #[.int .i64 dir,.agg cs] w (ik (bI dir M) w):=by
  rcases ej (dir==0) with h0|h0
  · exact qN h hf h0
  · exact rq h hf h0
end Go.Proofs.YtogbnemojakcpaaGreat
