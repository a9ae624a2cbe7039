/- Contracts of functions, part CAscParses3. -/
import Derived.Test.YtogbnemojakcpaaGreatCAscParses1
import Derived.Test.YtogbnemojakcpaaGreatCAscParses2
import Derived.RangeFuncRecord
import Derived.RangeFuncLeaves
import Derived.RangeFuncCalls
set_option linter.unusedVariables false
set_option linter.unusedSimpArgs false
set_option maxRecDepth 100000
set_option maxHeartbeats 4000000
namespace Go.Proofs.YtogbnemojakcpaaGreat
open Go.RowKit
def aM (dir c:Int)(C:ah) : Option (ah × aP) :=
  if c==8 then some (e8 dir c C)
  else if c==7 || c==11 || c==12 || c==17 then (if dir==1 then some (bX c C) else some (C,{ aP.zero with code:=c }))
  else none
theorem lR{m:Md}{A:Option Addr}{cp:Nat}{b:List Int}{w:World}{c:Int}(hcode:B8 c)(hsl:b9 m w (.slice A b.length cp) b)(hb:b.length≤1048576) :
    Calls Tryz.prog 142 #[.int .i64 0,.int .u8 c,.slice A b.length cp] w (dD (ae aM 0 c b) w):=by
 obtain⟨hcode1,hcode2⟩:=hcode
 have hln:(b.length:Int)≤1048576:=by omega
 refine en 47 Tryz.func142 rfl<|sg<|L0<|bI mZ fun b3 b4 j i O=>Pl 1<|nt<|sq<|sg<|Pl 6<|nt<|c0<|?_
 refine bo<|sg<|Pl 2<|L0<|bI mZ fun b5 b7 q P aa=>L0<|b6 P (mC c) fun ba r Q=>ng<|Pl 1<|?_
 have g:=ud aa Q q
 have n:=aH O g
 refine L0<|Oc<|e3 (dI (b9.old hsl n) (by omega)) fun bb bc a s d=>Pl 1<|nt<|sq<|sg<|Pl 1<|nt<|bk<|sg<|Pl 2<|nl<|?_
 refine tn<|?_
 have o:=aH n d
 refine cb ((c==8)) (fun f=>?_) (fun f=>?_)
 have ad:=al f
 refine go<|Pl 2<|?_
 have R:=nb (ak P) Q.size a
 refine L0<|Oc<|m3 (mE (dir:=0) (c:=c) ⟨hcode1,hcode2⟩ s (ub d r) (Ne.symm R)) fun bd af ag S=>?_
 obtain⟨an,B,C⟩:=ag
 refine ab af fun x41 T U=>?_
 refine nl<|bn<|tn<|sg<|Pl 1<|L0<|Oc<|m2 (cn U) fun be V D=>nt<|sq<|sg<|Pl 1<|L0<|Oc<|mq (bB V)<|?_
 have bf:=aj.len V
 refine Pl 1<|ng<|Pl 2<|nt<|?_
 have E:=u1 S D im
 have W:=ut o E (ac (ni n.size a) (ac (ni O.size q) aq))
 refine cb ((x41.endC.e != 0)) (fun t=>?_) (fun t=>?_)
 have F:=au t
 refine sg<|Pl 2<|?_
 refine L0<|b6 (ub (ud g (ud d E a) q) i) mZ fun bg ao ar=>Pl 1<|nt<|rt<|tr<|bF ao (.int .i64 x41.endC.e)<|?_
 subst T
 have hs:ae aM 0 c b=aF ((e8 0 c (ah.mk b false 0)).2) ((e8 0 c (ah.mk b false 0)).1):=by
   unfold ae aM
   (try simp only[f,t,bs,if_true,if_false,decide_true,decide_false,eq_self,true_or,or_true,or_false,false_or,if_true,if_false,ch,cg,cc,bZ,reduceIte])
   all_goals rfl
 rw[hs]
 exact bz F (ud W ar j)
 have F:=ai t
 refine bo<|sg<|?_
 refine L0<|cl (hz:=(by rw[B.2];exact aO)) (aU D R B.1)<|?_
 refine L0<|b6 (hz:=(by rw[B.2];exact aO)) (hv:=C.size) (h1:=C.one) (ub (ud g (ud d E a) q) i) (an) fun bh av X=>Pl 1<|nt<|rt<|el 22 B.2 av (.int .i64 0)<|?_
 subst T
 have hs:ae aM 0 c b=aF ((e8 0 c (ah.mk b false 0)).2) ((e8 0 c (ah.mk b false 0)).1):=by
   unfold ae aM
   (try simp only[f,t,bs,if_true,if_false,decide_true,decide_false,eq_self,true_or,or_true,or_false,false_or,if_true,if_false,ch,cg,cc,bZ,reduceIte])
   all_goals rfl
 rw[hs]
 exact bD F (aW.upd C (us D X) (am (aj.safe U _ (by decide)) (am (aQ (ub (ud g (ud d S a) q) i) (by decide)) aG))) (ud W X j)
 have ad:=ap f
 refine sq<|sg<|Pl 2<|nt<|cb ((c==7)) (fun h=>?_) (fun h=>?_)
 have aw:=al h
 refine bo<|ct h<|sg<|Pl 2<|nt<|c0<|sk<|bn<|tn<|sg<|?_
 refine Pl 1<|L0<|Oc<|m2 (cn s) fun bi Y G=>nt<|sq<|sg<|Pl 1<|L0<|Oc<|mq (bB Y)<|?_
 have bj:=aj.len Y
 refine Pl 1<|ng<|Pl 2<|nt<|?_
 have Z:=ud o G (le n.size a)
 refine cb (((((ah.mk b false 0).endC).e)!=0)) (fun u=>?_) (fun u=>?_)
 have H:=au u
 refine sg<|Pl 2<|?_
 refine L0<|b6 (ub (aH g (ud d G a)) i) mZ fun bl ax ay=>Pl 1<|nt<|rt<|tr<|bF ax (.int .i64 (((ah.mk b false 0).endC).e))<|?_
 have hs:ae aM 0 c b=aF (aP.mk c 0 0 0 0 0 0 0 0 0 0 0 [] [] [] [] 0 0 0 0 0 []) (ah.mk b false 0):=by
   unfold ae aM
   (try simp only[f,h,u,bs,if_true,if_false,decide_true,decide_false,eq_self,true_or,or_true,or_false,false_or,if_true,if_false,ch,cg,cc,bZ,reduceIte])
   all_goals rfl
 rw[hs]
 exact bz H (ud Z ay j)
 have H:=ai u
 refine bo<|sg<|?_
 have a0:=ud d G a
 refine L0<|cl (ub a0 r)<|?_
 refine L0<|b6 (ub (aH g a0) i) (mC c) fun bm az aA=>Pl 1<|nt<|rt<|bF az (.int .i64 0)<|?_
 have hs:ae aM 0 c b=aF (aP.mk c 0 0 0 0 0 0 0 0 0 0 0 [] [] [] [] 0 0 0 0 0 []) (ah.mk b false 0):=by
   unfold ae aM
   (try simp only[f,h,u,bs,if_true,if_false,decide_true,decide_false,eq_self,true_or,or_true,or_false,false_or,if_true,if_false,ch,cg,cc,bZ,reduceIte])
   all_goals rfl
 rw[hs]
 exact bD H ⟨_,_,_,_,_,rfl,aK.nil ..,aK.nil ..,aK.nil ..,aK.nil ..,aK.nil ..,⟨(b8 (x:=c) (by omega)),(b8 (x:=0) (by omega)),(aC (x:=0) (by omega)),(aC (x:=0) (by omega)),(aC (x:=0) (by omega)),(aC (x:=0) (by omega)),(aC (x:=0) (by omega)),(aC (x:=0) (by omega)),(aC (x:=0) (by omega)),(aC (x:=0) (by omega)),(aC (x:=0) (by omega)),(aC (x:=0) (by omega)),(b8 (x:=0) (by omega)),(b8 (x:=0) (by omega)),(b8 (x:=0) (by omega)),(b8 (x:=0) (by omega)),(b8 (x:=0) (by omega))⟩⟩ (ud Z aA j)
 have aw:=ap h
 refine sg<|Pl 2<|nt<|cb ((c==11)) (fun k=>?_) (fun k=>?_)
 have aB:=al k
 refine bo<|ct k<|sg<|Pl 2<|nt<|c0<|sk<|bn<|tn<|sg<|?_
 refine Pl 1<|L0<|Oc<|m2 (cn s) fun bp a1 I=>nt<|sq<|sg<|Pl 1<|L0<|Oc<|mq (bB a1)<|?_
 have bq:=aj.len a1
 refine Pl 1<|ng<|Pl 2<|nt<|?_
 have a2:=ud o I (le n.size a)
 refine cb (((((ah.mk b false 0).endC).e)!=0)) (fun v=>?_) (fun v=>?_)
 have J:=au v
 refine sg<|Pl 2<|?_
 refine L0<|b6 (ub (aH g (ud d I a)) i) mZ fun bt aD aE=>Pl 1<|nt<|rt<|tr<|bF aD (.int .i64 (((ah.mk b false 0).endC).e))<|?_
 have hs:ae aM 0 c b=aF (aP.mk c 0 0 0 0 0 0 0 0 0 0 0 [] [] [] [] 0 0 0 0 0 []) (ah.mk b false 0):=by
   unfold ae aM
   (try simp only[f,h,k,v,bs,if_true,if_false,decide_true,decide_false,eq_self,true_or,or_true,or_false,false_or,if_true,if_false,ch,cg,cc,bZ,reduceIte])
   all_goals rfl
 rw[hs]
 exact bz J (ud a2 aE j)
 have J:=ai v
 refine bo<|sg<|?_
 have a3:=ud d I a
 refine L0<|cl (ub a3 r)<|?_
 refine L0<|b6 (ub (aH g a3) i) (mC c) fun bu aI aJ=>Pl 1<|nt<|rt<|bF aI (.int .i64 0)<|?_
 have hs:ae aM 0 c b=aF (aP.mk c 0 0 0 0 0 0 0 0 0 0 0 [] [] [] [] 0 0 0 0 0 []) (ah.mk b false 0):=by
   unfold ae aM
   (try simp only[f,h,k,v,bs,if_true,if_false,decide_true,decide_false,eq_self,true_or,or_true,or_false,false_or,if_true,if_false,ch,cg,cc,bZ,reduceIte])
   all_goals rfl
 rw[hs]
 exact bD J ⟨_,_,_,_,_,rfl,aK.nil ..,aK.nil ..,aK.nil ..,aK.nil ..,aK.nil ..,⟨(b8 (x:=c) (by omega)),(b8 (x:=0) (by omega)),(aC (x:=0) (by omega)),(aC (x:=0) (by omega)),(aC (x:=0) (by omega)),(aC (x:=0) (by omega)),(aC (x:=0) (by omega)),(aC (x:=0) (by omega)),(aC (x:=0) (by omega)),(aC (x:=0) (by omega)),(aC (x:=0) (by omega)),(aC (x:=0) (by omega)),(b8 (x:=0) (by omega)),(b8 (x:=0) (by omega)),(b8 (x:=0) (by omega)),(b8 (x:=0) (by omega)),(b8 (x:=0) (by omega))⟩⟩ (ud a2 aJ j)
 have aB:=ap k
 refine sg<|Pl 2<|nt<|cb ((c==12)) (fun l=>?_) (fun l=>?_)
 have aL:=al l
 refine bo<|ct l<|sg<|Pl 2<|nt<|c0<|sk<|bn<|tn<|sg<|?_
 refine Pl 1<|L0<|Oc<|m2 (cn s) fun bv a4 K=>nt<|sq<|sg<|Pl 1<|L0<|Oc<|mq (bB a4)<|?_
 have bw:=aj.len a4
 refine Pl 1<|ng<|Pl 2<|nt<|?_
 have a5:=ud o K (le n.size a)
 refine cb (((((ah.mk b false 0).endC).e)!=0)) (fun y=>?_) (fun y=>?_)
 have L:=au y
 refine sg<|Pl 2<|?_
 refine L0<|b6 (ub (aH g (ud d K a)) i) mZ fun bx aN aR=>Pl 1<|nt<|rt<|tr<|bF aN (.int .i64 (((ah.mk b false 0).endC).e))<|?_
 have hs:ae aM 0 c b=aF (aP.mk c 0 0 0 0 0 0 0 0 0 0 0 [] [] [] [] 0 0 0 0 0 []) (ah.mk b false 0):=by
   unfold ae aM
   (try simp only[f,h,k,l,y,bs,if_true,if_false,decide_true,decide_false,eq_self,true_or,or_true,or_false,false_or,if_true,if_false,ch,cg,cc,bZ,reduceIte])
   all_goals rfl
 rw[hs]
 exact bz L (ud a5 aR j)
 have L:=ai y
 refine bo<|sg<|?_
 have a6:=ud d K a
 refine L0<|cl (ub a6 r)<|?_
 refine L0<|b6 (ub (aH g a6) i) (mC c) fun bA aS aT=>Pl 1<|nt<|rt<|bF aS (.int .i64 0)<|?_
 have hs:ae aM 0 c b=aF (aP.mk c 0 0 0 0 0 0 0 0 0 0 0 [] [] [] [] 0 0 0 0 0 []) (ah.mk b false 0):=by
   unfold ae aM
   (try simp only[f,h,k,l,y,bs,if_true,if_false,decide_true,decide_false,eq_self,true_or,or_true,or_false,false_or,if_true,if_false,ch,cg,cc,bZ,reduceIte])
   all_goals rfl
 rw[hs]
 exact bD L ⟨_,_,_,_,_,rfl,aK.nil ..,aK.nil ..,aK.nil ..,aK.nil ..,aK.nil ..,⟨(b8 (x:=c) (by omega)),(b8 (x:=0) (by omega)),(aC (x:=0) (by omega)),(aC (x:=0) (by omega)),(aC (x:=0) (by omega)),(aC (x:=0) (by omega)),(aC (x:=0) (by omega)),(aC (x:=0) (by omega)),(aC (x:=0) (by omega)),(aC (x:=0) (by omega)),(aC (x:=0) (by omega)),(aC (x:=0) (by omega)),(b8 (x:=0) (by omega)),(b8 (x:=0) (by omega)),(b8 (x:=0) (by omega)),(b8 (x:=0) (by omega)),(b8 (x:=0) (by omega))⟩⟩ (ud a5 aT j)
 have aL:=ap l
 refine go<|Pl 2<|nt<|cb ((c==17)) (fun p=>?_) (fun p=>?_)
 have aV:=al p
 refine sg<|Pl 2<|nt<|c0<|sk<|bn<|tn<|sg<|Pl 1<|L0<|Oc<|m2 (cn s) fun bC a7 M=>nl<|?_
 refine tn<|sq<|sg<|Pl 1<|L0<|Oc<|mq (bB a7)<|?_
 have bE:=aj.len a7
 refine Pl 1<|ng<|Pl 2<|nt<|?_
 have a8:=ud o M (le n.size a)
 refine cb (((((ah.mk b false 0).endC).e)!=0)) (fun z=>?_) (fun z=>?_)
 have N:=au z
 refine sg<|Pl 2<|?_
 refine L0<|b6 (ub (aH g (ud d M a)) i) mZ fun bG aX aY=>Pl 1<|nt<|rt<|tr<|bF aX (.int .i64 (((ah.mk b false 0).endC).e))<|?_
 have hs:ae aM 0 c b=aF (aP.mk c 0 0 0 0 0 0 0 0 0 0 0 [] [] [] [] 0 0 0 0 0 []) (ah.mk b false 0):=by
   unfold ae aM
   (try simp only[f,h,k,l,p,z,bs,if_true,if_false,decide_true,decide_false,eq_self,true_or,or_true,or_false,false_or,if_true,if_false,ch,cg,cc,bZ,reduceIte])
   all_goals rfl
 rw[hs]
 exact bz N (ud a8 aY j)
 have N:=ai z
 refine bo<|sg<|?_
 have a9:=ud d M a
 refine L0<|cl (ub a9 r)<|?_
 refine L0<|b6 (ub (aH g a9) i) (mC c) fun bH aZ b0=>Pl 1<|nt<|rt<|bF aZ (.int .i64 0)<|?_
 have hs:ae aM 0 c b=aF (aP.mk c 0 0 0 0 0 0 0 0 0 0 0 [] [] [] [] 0 0 0 0 0 []) (ah.mk b false 0):=by
   unfold ae aM
   (try simp only[f,h,k,l,p,z,bs,if_true,if_false,decide_true,decide_false,eq_self,true_or,or_true,or_false,false_or,if_true,if_false,ch,cg,cc,bZ,reduceIte])
   all_goals rfl
 rw[hs]
 exact bD N ⟨_,_,_,_,_,rfl,aK.nil ..,aK.nil ..,aK.nil ..,aK.nil ..,aK.nil ..,⟨(b8 (x:=c) (by omega)),(b8 (x:=0) (by omega)),(aC (x:=0) (by omega)),(aC (x:=0) (by omega)),(aC (x:=0) (by omega)),(aC (x:=0) (by omega)),(aC (x:=0) (by omega)),(aC (x:=0) (by omega)),(aC (x:=0) (by omega)),(aC (x:=0) (by omega)),(aC (x:=0) (by omega)),(aC (x:=0) (by omega)),(b8 (x:=0) (by omega)),(b8 (x:=0) (by omega)),(b8 (x:=0) (by omega)),(b8 (x:=0) (by omega)),(b8 (x:=0) (by omega))⟩⟩ (ud a8 b0 j)
 have aV:=ap p
 refine sg<|Pl 1<|?_
 refine L0<|b6 (ub (aH g d) i) mZ fun bJ b1 b2=>Pl 1<|nt<|rt<|br<|tr<|bF b1 (.int .i64 4)<|?_
 have hs:ae aM 0 c b=(aP.zero,4):=by
   unfold ae aM
   (try simp only[f,h,k,l,p,bs,if_true,if_false,decide_true,decide_false,eq_self,true_or,or_true,or_false,false_or,if_true,if_false,ch,cg,cc,bZ,reduceIte])
   all_goals rfl
 rw[hs]
 exact cD (ud o b2 j)
theorem lK{m:Md}{A:Option Addr}{cp:Nat}{b:List Int}{w:World}{c:Int}(hcode:B8 c)(hsl:b9 m w (.slice A b.length cp) b)(hb:b.length≤1048576) :
    Calls Tryz.prog 142 #[.int .i64 1,.int .u8 c,.slice A b.length cp] w (dD (ae aM 1 c b) w):=by
 obtain⟨hcode1,hcode2⟩:=hcode
 have hln:(b.length:Int)≤1048576:=by omega
 refine en 47 Tryz.func142 rfl<|sg<|L0<|bI mZ fun bQ bR k h p=>Pl 1<|nt<|sq<|sg<|Pl 6<|nt<|c0<|?_
 refine bo<|sg<|Pl 2<|L0<|bI mZ fun bS bT f q b1=>L0<|b6 q (mC c) fun bU u r=>ng<|Pl 1<|?_
 have g:=ud b1 r f
 have o:=aH p g
 refine L0<|Oc<|e3 (dI (b9.old hsl o) (by omega)) fun bV bW a v d=>Pl 1<|nt<|sq<|sg<|Pl 1<|nt<|bk<|sg<|Pl 2<|nl<|?_
 refine tn<|?_
 have s:=aH o d
 refine cb ((c==8)) (fun i=>?_) (fun i=>?_)
 have b2:=al i
 refine go<|Pl 2<|?_
 have a2:=nb (ak q) r.size a
 refine L0<|Oc<|m3 (mE (dir:=1) (c:=c) ⟨hcode1,hcode2⟩ v (ub d u) (Ne.symm a2)) fun bY b3 b4 a3=>?_
 obtain⟨b5,D,I⟩:=b4
 refine ab b3 fun x41 a4 a5=>?_
 refine nl<|bn<|tn<|sg<|Pl 1<|L0<|Oc<|m2 (cn a5) fun c2 a6 J=>nt<|sq<|sg<|Pl 1<|L0<|Oc<|mq (bB a6)<|?_
 have c3:=aj.len a6
 refine Pl 1<|ng<|Pl 2<|nt<|?_
 have K:=u1 a3 J im
 have a7:=ut s K (ac (ni o.size a) (ac (ni p.size f) aq))
 refine cb ((x41.endC.e != 0)) (fun x=>?_) (fun x=>?_)
 have L:=au x
 refine sg<|Pl 2<|?_
 refine L0<|b6 (ub (ud g (ud d K a) f) h) mZ fun c4 b7 b8=>Pl 1<|nt<|rt<|tr<|bF b7 (.int .i64 x41.endC.e)<|?_
 subst a4
 have hs:ae aM 1 c b=aF ((e8 1 c (ah.mk b false 0)).2) ((e8 1 c (ah.mk b false 0)).1):=by
   unfold ae aM
   (try simp only[i,x,bs,if_true,if_false,decide_true,decide_false,eq_self,true_or,or_true,or_false,false_or,if_true,if_false,ch,cg,cc,bZ,reduceIte])
   all_goals rfl
 rw[hs]
 exact bz L (ud a7 b8 k)
 have L:=ai x
 refine bo<|sg<|?_
 refine L0<|cl (hz:=(by rw[D.2];exact aO)) (aU J a2 D.1)<|?_
 refine L0<|b6 (hz:=(by rw[D.2];exact aO)) (hv:=I.size) (h1:=I.one) (ub (ud g (ud d K a) f) h) (b5) fun c5 ba a8=>Pl 1<|nt<|rt<|el 22 D.2 ba (.int .i64 0)<|?_
 subst a4
 have hs:ae aM 1 c b=aF ((e8 1 c (ah.mk b false 0)).2) ((e8 1 c (ah.mk b false 0)).1):=by
   unfold ae aM
   (try simp only[i,x,bs,if_true,if_false,decide_true,decide_false,eq_self,true_or,or_true,or_false,false_or,if_true,if_false,ch,cg,cc,bZ,reduceIte])
   all_goals rfl
 rw[hs]
 exact bD L (aW.upd I (us J a8) (am (aj.safe a5 _ (by decide)) (am (aQ (ub (ud g (ud d a3 a) f) h) (by decide)) aG))) (ud a7 a8 k)
 have b2:=ap i
 refine sq<|sg<|Pl 2<|nt<|cb ((c==7)) (fun j=>?_) (fun j=>?_)
 have bb:=al j
 refine bo<|ct j<|sg<|Pl 2<|nt<|c1<|go<|Pl 1<|?_
 have a9:=nb (ak q) r.size a
 refine L0<|Oc<|m3 (fY (c:=c) ⟨hcode1,hcode2⟩ v (ub d u) (Ne.symm a9)) fun c6 bc bd aa=>?_
 obtain⟨be,E,M⟩:=bd
 refine ab bc fun x81 ad af=>?_
 refine nl<|bn<|tn<|sg<|Pl 1<|L0<|Oc<|m2 (cn af) fun c7 ag N=>nt<|sq<|sg<|Pl 1<|L0<|Oc<|mq (bB ag)<|?_
 have c8:=aj.len ag
 refine Pl 1<|ng<|Pl 2<|nt<|?_
 have O:=u1 aa N im
 have an:=ut s O (ac (ni o.size a) (ac (ni p.size f) aq))
 refine cb ((x81.endC.e != 0)) (fun y=>?_) (fun y=>?_)
 have P:=au y
 refine sg<|Pl 2<|?_
 refine L0<|b6 (ub (ud g (ud d O a) f) h) mZ fun c9 bf bg=>Pl 1<|nt<|rt<|tr<|bF bf (.int .i64 x81.endC.e)<|?_
 subst ad
 have hs:ae aM 1 c b=aF ((bX c (ah.mk b false 0)).2) ((bX c (ah.mk b false 0)).1):=by
   unfold ae aM
   (try simp only[i,j,y,bs,if_true,if_false,decide_true,decide_false,eq_self,true_or,or_true,or_false,false_or,if_true,if_false,ch,cg,cc,bZ,reduceIte])
   all_goals rfl
 rw[hs]
 exact bz P (ud an bg k)
 have P:=ai y
 refine bo<|sg<|?_
 refine L0<|cl (hz:=(by rw[E.2];exact aO)) (aU N a9 E.1)<|?_
 refine L0<|b6 (hz:=(by rw[E.2];exact aO)) (hv:=M.size) (h1:=M.one) (ub (ud g (ud d O a) f) h) (be) fun ca bh ao=>Pl 1<|nt<|rt<|el 22 E.2 bh (.int .i64 0)<|?_
 subst ad
 have hs:ae aM 1 c b=aF ((bX c (ah.mk b false 0)).2) ((bX c (ah.mk b false 0)).1):=by
   unfold ae aM
   (try simp only[i,j,y,bs,if_true,if_false,decide_true,decide_false,eq_self,true_or,or_true,or_false,false_or,if_true,if_false,ch,cg,cc,bZ,reduceIte])
   all_goals rfl
 rw[hs]
 exact bD P (aW.upd M (us N ao) (am (aj.safe af _ (by decide)) (am (aQ (ub (ud g (ud d aa a) f) h) (by decide)) aG))) (ud an ao k)
 have bb:=ap j
 refine sg<|Pl 2<|nt<|cb ((c==11)) (fun l=>?_) (fun l=>?_)
 have bi:=al l
 refine bo<|ct l<|sg<|Pl 2<|nt<|c1<|go<|Pl 1<|?_
 have ar:=nb (ak q) r.size a
 refine L0<|Oc<|m3 (fY (c:=c) ⟨hcode1,hcode2⟩ v (ub d u) (Ne.symm ar)) fun cd bj bl av=>?_
 obtain⟨bm,F,Q⟩:=bl
 refine ab bj fun aw ax ay=>?_
 refine nl<|bn<|tn<|sg<|Pl 1<|L0<|Oc<|m2 (cn ay) fun ce az R=>nt<|sq<|sg<|Pl 1<|L0<|Oc<|mq (bB az)<|?_
 have cf:=aj.len az
 refine Pl 1<|ng<|Pl 2<|nt<|?_
 have S:=u1 av R im
 have aA:=ut s S (ac (ni o.size a) (ac (ni p.size f) aq))
 refine cb ((aw.endC.e != 0)) (fun z=>?_) (fun z=>?_)
 have T:=au z
 refine sg<|Pl 2<|?_
 refine L0<|b6 (ub (ud g (ud d S a) f) h) mZ fun ci bp bq=>Pl 1<|nt<|rt<|tr<|bF bp (.int .i64 aw.endC.e)<|?_
 subst ax
 have hs:ae aM 1 c b=aF ((bX c (ah.mk b false 0)).2) ((bX c (ah.mk b false 0)).1):=by
   unfold ae aM
   (try simp only[i,j,l,z,bs,if_true,if_false,decide_true,decide_false,eq_self,true_or,or_true,or_false,false_or,if_true,if_false,ch,cg,cc,bZ,reduceIte])
   all_goals rfl
 rw[hs]
 exact bz T (ud aA bq k)
 have T:=ai z
 refine bo<|sg<|?_
 refine L0<|cl (hz:=(by rw[F.2];exact aO)) (aU R ar F.1)<|?_
 refine L0<|b6 (hz:=(by rw[F.2];exact aO)) (hv:=Q.size) (h1:=Q.one) (ub (ud g (ud d S a) f) h) (bm) fun cj bt aB=>Pl 1<|nt<|rt<|el 22 F.2 bt (.int .i64 0)<|?_
 subst ax
 have hs:ae aM 1 c b=aF ((bX c (ah.mk b false 0)).2) ((bX c (ah.mk b false 0)).1):=by
   unfold ae aM
   (try simp only[i,j,l,z,bs,if_true,if_false,decide_true,decide_false,eq_self,true_or,or_true,or_false,false_or,if_true,if_false,ch,cg,cc,bZ,reduceIte])
   all_goals rfl
 rw[hs]
 exact bD T (aW.upd Q (us R aB) (am (aj.safe ay _ (by decide)) (am (aQ (ub (ud g (ud d av a) f) h) (by decide)) aG))) (ud aA aB k)
 have bi:=ap l
 refine sg<|Pl 2<|nt<|cb ((c==12)) (fun n=>?_) (fun n=>?_)
 have bu:=al n
 refine bo<|ct n<|sg<|Pl 2<|nt<|c1<|go<|Pl 1<|?_
 have aC:=nb (ak q) r.size a
 refine L0<|Oc<|m3 (fY (c:=c) ⟨hcode1,hcode2⟩ v (ub d u) (Ne.symm aC)) fun ck bv bw aD=>?_
 obtain⟨bx,G,U⟩:=bw
 refine ab bv fun aE aI aJ=>?_
 refine nl<|bn<|tn<|sg<|Pl 1<|L0<|Oc<|m2 (cn aJ) fun cm aK V=>nt<|sq<|sg<|Pl 1<|L0<|Oc<|mq (bB aK)<|?_
 have co:=aj.len aK
 refine Pl 1<|ng<|Pl 2<|nt<|?_
 have W:=u1 aD V im
 have aL:=ut s W (ac (ni o.size a) (ac (ni p.size f) aq))
 refine cb ((aE.endC.e != 0)) (fun B=>?_) (fun B=>?_)
 have X:=au B
 refine sg<|Pl 2<|?_
 refine L0<|b6 (ub (ud g (ud d W a) f) h) mZ fun cq bA bC=>Pl 1<|nt<|rt<|tr<|bF bA (.int .i64 aE.endC.e)<|?_
 subst aI
 have hs:ae aM 1 c b=aF ((bX c (ah.mk b false 0)).2) ((bX c (ah.mk b false 0)).1):=by
   unfold ae aM
   (try simp only[i,j,l,n,B,bs,if_true,if_false,decide_true,decide_false,eq_self,true_or,or_true,or_false,false_or,if_true,if_false,ch,cg,cc,bZ,reduceIte])
   all_goals rfl
 rw[hs]
 exact bz X (ud aL bC k)
 have X:=ai B
 refine bo<|sg<|?_
 refine L0<|cl (hz:=(by rw[G.2];exact aO)) (aU V aC G.1)<|?_
 refine L0<|b6 (hz:=(by rw[G.2];exact aO)) (hv:=U.size) (h1:=U.one) (ub (ud g (ud d W a) f) h) (bx) fun cr bE aN=>Pl 1<|nt<|rt<|el 22 G.2 bE (.int .i64 0)<|?_
 subst aI
 have hs:ae aM 1 c b=aF ((bX c (ah.mk b false 0)).2) ((bX c (ah.mk b false 0)).1):=by
   unfold ae aM
   (try simp only[i,j,l,n,B,bs,if_true,if_false,decide_true,decide_false,eq_self,true_or,or_true,or_false,false_or,if_true,if_false,ch,cg,cc,bZ,reduceIte])
   all_goals rfl
 rw[hs]
 exact bD X (aW.upd U (us V aN) (am (aj.safe aJ _ (by decide)) (am (aQ (ub (ud g (ud d aD a) f) h) (by decide)) aG))) (ud aL aN k)
 have bu:=ap n
 refine go<|Pl 2<|nt<|cb ((c==17)) (fun t=>?_) (fun t=>?_)
 have bG:=al t
 refine sg<|Pl 2<|nt<|c1<|go<|Pl 1<|?_
 have aR:=nb (ak q) r.size a
 refine L0<|Oc<|m3 (fY (c:=c) ⟨hcode1,hcode2⟩ v (ub d u) (Ne.symm aR)) fun cs bH bJ aS=>?_
 obtain⟨bK,H,Y⟩:=bJ
 refine ab bH fun aT aV aX=>?_
 refine nl<|bn<|tn<|sg<|Pl 1<|L0<|Oc<|m2 (cn aX) fun cu aY Z=>nt<|sq<|sg<|Pl 1<|L0<|Oc<|mq (bB aY)<|?_
 have cv:=aj.len aY
 refine Pl 1<|ng<|Pl 2<|nt<|?_
 have a0:=u1 aS Z im
 have aZ:=ut s a0 (ac (ni o.size a) (ac (ni p.size f) aq))
 refine cb ((aT.endC.e != 0)) (fun C=>?_) (fun C=>?_)
 have a1:=au C
 refine sg<|Pl 2<|?_
 refine L0<|b6 (ub (ud g (ud d a0 a) f) h) mZ fun cw bL bM=>Pl 1<|nt<|rt<|tr<|bF bL (.int .i64 aT.endC.e)<|?_
 subst aV
 have hs:ae aM 1 c b=aF ((bX c (ah.mk b false 0)).2) ((bX c (ah.mk b false 0)).1):=by
   unfold ae aM
   (try simp only[i,j,l,n,t,C,bs,if_true,if_false,decide_true,decide_false,eq_self,true_or,or_true,or_false,false_or,if_true,if_false,ch,cg,cc,bZ,reduceIte])
   all_goals rfl
 rw[hs]
 exact bz a1 (ud aZ bM k)
 have a1:=ai C
 refine bo<|sg<|?_
 refine L0<|cl (hz:=(by rw[H.2];exact aO)) (aU Z aR H.1)<|?_
 refine L0<|b6 (hz:=(by rw[H.2];exact aO)) (hv:=Y.size) (h1:=Y.one) (ub (ud g (ud d a0 a) f) h) (bK) fun cx bN b0=>Pl 1<|nt<|rt<|el 22 H.2 bN (.int .i64 0)<|?_
 subst aV
 have hs:ae aM 1 c b=aF ((bX c (ah.mk b false 0)).2) ((bX c (ah.mk b false 0)).1):=by
   unfold ae aM
   (try simp only[i,j,l,n,t,C,bs,if_true,if_false,decide_true,decide_false,eq_self,true_or,or_true,or_false,false_or,if_true,if_false,ch,cg,cc,bZ,reduceIte])
   all_goals rfl
 rw[hs]
 exact bD a1 (aW.upd Y (us Z b0) (am (aj.safe aX _ (by decide)) (am (aQ (ub (ud g (ud d aS a) f) h) (by decide)) aG))) (ud aZ b0 k)
 have bG:=ap t
 refine sg<|Pl 1<|?_
 refine L0<|b6 (ub (aH g d) h) mZ fun cy bO bP=>Pl 1<|nt<|rt<|br<|tr<|bF bO (.int .i64 4)<|?_
 have hs:ae aM 1 c b=(aP.zero,4):=by
   unfold ae aM
   (try simp only[i,j,l,n,t,bs,if_true,if_false,decide_true,decide_false,eq_self,true_or,or_true,or_false,false_or,if_true,if_false,ch,cg,cc,bZ,reduceIte])
   all_goals rfl
 rw[hs]
 exact cD (ud s bP k)
theorem lV{m:Md}{A:Option Addr}{cp:Nat}{b:List Int}{w:World}{dir c:Int}(hcode:B8 c)(hsl:b9 m w (.slice A b.length cp) b)(hb:b.length≤1048576)(hd:¬ (dir=0∨dir=1)) :
    Calls Tryz.prog 142 #[.int .i64 dir,.int .u8 c,.slice A b.length cp] w (dD (ae aM dir c b) w):=by
 obtain⟨hcode1,hcode2⟩:=hcode
 have hln:(b.length:Int)≤1048576:=by omega
 have e0:(dir != 0)=true:=by simp;omega
 have e1:(dir != 1)=true:=by simp;omega
 refine en 47 Tryz.func142 rfl<|sg<|L0<|bI mZ fun g h a d e=>Pl 1<|nt<|sq<|sg<|Pl 3<|sy 13 e0<|Pl 3<|nl<|?_
 refine tn<|ct e1<|sg<|Pl 1<|L0<|b6 d mZ fun i dm f=>Pl 1<|nt<|rt<|tr<|bF dm (.int .i64 1)<|?_
 have hs:ae aM dir c b=(aP.zero,1):=by
   unfold ae aM
   (try simp only[e0,e1,bs,if_true,if_false,decide_true,decide_false,eq_self,true_or,or_true,or_false,false_or,if_true,if_false,ch,cg,cc,bZ,reduceIte,hd])
   all_goals rfl
 rw[hs]
 exact cD (ud e f a)
theorem jU{m:Md}{v:Value}{b:List Int}{w:World}{dir c:Int}(hc:B8 c)(h:b9 m w v b)(hb:b.length≤1048576) :
    Calls Tryz.prog 142 #[.int .i64 dir,.int .u8 c,v] w (dD (ae aM dir c b) w):=by
  obtain⟨A,cp,rfl,_,_⟩:=h.shape
  by_cases h0:dir=0
  · subst h0;exact lR hc h hb
  by_cases h1:dir=1
  · subst h1;exact lK hc h hb
  exact lV hc h hb (by omega)
open Go.RowKit
def eh:Nat→ah→List Obj→ah × List Obj
  | 0,C,L=>(C,L)
  | n+1,C,L=>eh n (((C.bytesC 1).bytesC 1).bytesC (C.bytesC 1).byteV) (L++[⟨C.byteV,((C.bytesC 1).bytesC 1).bytesR (C.bytesC 1).byteV⟩])
def kG (C:ah) : ah:=(C.bytesC 1).need (bY C.byteV) 6
def kB (C:ah) : ah:=((kG C).bytesC 1).need ((kG C).byteV==0 || (kG C).byteV==255) 6
def rD (C:ah) : ah:=((kB C).bytesC 1).need ((kG C).byteV != 0 || (kB C).byteV==0) 6
def vO (kd:Int)(C:ah) : ah:=((rD C).bytesC 1).need (kd != 4 || (rD C).byteV==1) 5
def ek (kd:Int)(C:ah) : ah × List Obj:=eh (rD C).byteV.toNat (vO kd C) []
theorem oC{g gm:Nat}{c me kd:Int}{C0:ah}{w:World}(hcode:B8 c)(hme:B8 me)(hkd:B8 kd)(hC:aj w g C0)(hm:w.heap[gm]? = some (.cells #[.int .u8 c,.int .u8 0,.int .u16 0,.int .u16 0,.int .u16 0,.int .u16 0,.int .u16 0,.int .u16 0,.int .u16 0,.int .u16 0,.int .u16 0,.int .u16 0,.slice none 0 0,.slice none 0 0,.slice none 0 0,.slice none 0 0,.int .u8 me,.int .u8 kd,.int .u8 0,.int .u8 0,.int .u8 0,.slice none 0 0] 30 (0,0)))(hne:g≠gm) :
    Calls Tryz.prog 213 #[.pointer (some ⟨g,0,none⟩),.pointer (some ⟨gm,0,none⟩)] w (cz g gm (ek kd C0).1 { aP.zero with code:=c,mei:=me,kind:=kd,level:=C0.byteV,more:=(kG C0).byteV,next:=(kB C0).byteV,objects:=(ek kd C0).2 } w):=by
 obtain⟨hcode1,hcode2⟩:=hcode
 obtain⟨hme1,hme2⟩:=hme
 obtain⟨hkd1,hkd2⟩:=hkd
 refine en 92 Tryz.func213 rfl<|sg<|Pl 2<|L0<|Oc<|m3 (bV hC) fun cR bM b cS=>Pl 2<|?_
 have ag:=aU b (Ne.symm hne) hm
 refine L0<|bT ag 18 (mG c 0 0 0 0 0 0 0 0 0 0 0 nS nS nS nS me kd C0.byteV 0 0 nS) fun cT dm j=>ng<|Pl 4<|L0<|aR dm 18<|L0<|Oc<|m1 (pU (x:=C0.byteV) (w:=_)) fun cU d=>?_
 have an:=aH j d
 refine L0<|Oc<|m2 (b7 ((bY C0.byteV)) 6 (aj.upd bM an (aa hne ay) (am (aQ ag (by decide)) aG))) fun cV bN l=>?_
 refine ab bN fun x25 bO bP=>?_
 refine ng<|Pl 2<|L0<|Oc<|m3 (bV bP) fun cW bQ o cX=>Pl 2<|?_
 have ao:=u1 l o im
 have ar:=aU (uz d ao) (Ne.symm hne) dm
 refine L0<|bT ar 19 (mG c 0 0 0 0 0 0 0 0 0 0 0 nS nS nS nS me kd C0.byteV x25.byteV 0 nS) fun cY U f=>ng<|Pl 4<|L0<|aR U 19<|Pl 2<|cu 6 [29] 35 (((x25.byteV==0)||(x25.byteV==255))) (fun K aw=>?_) ?_
 refine bl 29 ((x25.byteV==0)) (fun E=>?_) (fun E=>?_)
 have bR:=al E
 exact Pl 6<|ce aw true (by rw[E];rfl)
 have bR:=ap E
 exact Pl 3<|L1<|aR U 19<|Pl 2<|ce aw (x25.byteV==255) (by rw[E];rfl)
 refine L0<|Oc<|m2 (b7 (((x25.byteV==0)||(x25.byteV==255))) 6 (aj.upd bQ f (aa hne ay) (am (aQ ar (by decide)) aG))) fun cZ bS p=>?_
 refine ab bS fun x44 bU bW=>?_
 refine ng<|Pl 2<|L0<|Oc<|m3 (bV bW) fun d0 bX q d1=>Pl 2<|?_
 have az:=u1 p q im
 have aE:=aU az (Ne.symm hne) U
 refine L0<|bT aE 20 (mG c 0 0 0 0 0 0 0 0 0 0 0 nS nS nS nS me kd C0.byteV x25.byteV x44.byteV nS) fun d2 V h=>ng<|Pl 4<|L0<|aR V 19<|Pl 2<|cu 6 [48] 54 (((x25.byteV != 0)||(x44.byteV==0))) (fun K aF=>?_) ?_
 refine bl 48 ((x25.byteV != 0)) (fun F=>?_) (fun F=>?_)
 have bZ:=au F
 exact Pl 6<|ce aF true (by rw[F];rfl)
 have bZ:=ai F
 exact Pl 3<|L1<|aR V 20<|Pl 2<|ce aF (x44.byteV==0) (by rw[F];rfl)
 refine L0<|Oc<|m2 (b7 (((x25.byteV != 0)||(x44.byteV==0))) 6 (aj.upd bX h (aa hne ay) (am (aQ aE (by decide)) aG))) fun d3 c0 r=>?_
 refine ab c0 fun x62 c1 c2=>?_
 refine ng<|Pl 1<|L0<|Oc<|m3 (bV c2) fun d4 c3 s d5=>L0<|Oi x62.byteV<|Pl 1<|ng<|Pl 4<|?_
 have aI:=u1 r s im
 have aJ:=aU aI (Ne.symm hne) V
 refine L0<|aR aJ 17<|Pl 2<|cu 3 [65] 68 (((kd != 4)||(x62.byteV==1))) (fun K aL=>?_) ?_
 refine bl 65 ((kd != 4)) (fun G=>?_) (fun G=>?_)
 have c4:=au G
 exact Pl 3<|ce aL true (by rw[G];rfl)
 have c4:=ai G
 exact Pl 3<|ce aL (x62.byteV==1) (by rw[G];rfl)
 refine L0<|Oc<|m2 (b7 (((kd != 4)||(x62.byteV==1))) 5 c3) fun W c5 i=>?_
 refine ab c5 fun x76 c6 c7=>?_
 refine ng<|Pl 2<|nt<|bk<|?_
 refine i1 (fun x=>[(0,.pointer (some ⟨g,0,none⟩)),(1,.pointer (some ⟨gm,0,none⟩)),(70,.int .i64 x62.byteV),(71,.int .i64 ((x.1:Nat) : Int))]) (fun(x:Nat × ah × List Obj × Option Addr × Nat) w'=>aD [g,gm] W w'∧aj w' g x.2.1∧w'.heap[gm]? = some (.cells #[.int .u8 c,.int .u8 0,.int .u16 0,.int .u16 0,.int .u16 0,.int .u16 0,.int .u16 0,.int .u16 0,.int .u16 0,.int .u16 0,.int .u16 0,.int .u16 0,.slice none 0 0,.slice none 0 0,.slice none 0 0,.slice none 0 0,.int .u8 me,.int .u8 kd,.int .u8 C0.byteV,.int .u8 x25.byteV,.int .u8 x44.byteV,.slice x.2.2.2.1 x.2.2.1.length x.2.2.2.2] 30 (0,0))∧be W.heap.size 111 2 (d6 true) w' (.slice x.2.2.2.1 x.2.2.1.length x.2.2.2.2) x.2.2.1∧(x.1≤x62.byteV.toNat)∧(eh (x62.byteV.toNat-x.1) x.2.1 x.2.2.1=eh x62.byteV.toNat x76 [])∧(x.2.2.1.length≤x.1)) (fun x=>x62.byteV.toNat-x.1) (0,x76,[],none,0) ⟨aD.refl _ _,c7,(aU i (Ne.symm hne) aJ),be.nil ..,(by(try dsimp only);omega),(by(try dsimp only);rw[Nat.sub_zero]),(by(try dsimp only);(try simp only[List.length_append,List.length_cons,List.length_nil]);omega)⟩ ?_
 rintro⟨k,C,L,A,cp⟩ X ⟨v,c8,c9,ca,cc,cd,cf⟩
 refine iq [(0,.pointer (some ⟨g,0,none⟩)),(1,.pointer (some ⟨gm,0,none⟩)),(70,.int .i64 x62.byteV),(71,.int .i64 ((k:Nat) : Int))] ?_
 have u:aj X g C:=c8
 have D:X.heap[gm]? = some (.cells #[.int .u8 c,.int .u8 0,.int .u16 0,.int .u16 0,.int .u16 0,.int .u16 0,.int .u16 0,.int .u16 0,.int .u16 0,.int .u16 0,.int .u16 0,.int .u16 0,.slice none 0 0,.slice none 0 0,.slice none 0 0,.slice none 0 0,.int .u8 me,.int .u8 kd,.int .u8 C0.byteV,.int .u8 x25.byteV,.int .u8 x44.byteV,.slice A L.length cp] 30 (0,0)):=c9
 have a:be W.heap.size 111 2 (d6 true) X (.slice A L.length cp) L:=ca
 have d7:k≤x62.byteV.toNat:=cc
 have d8:eh (x62.byteV.toNat-k) C L=eh x62.byteV.toNat x76 []:=cd
 have d9:L.length≤k:=cf
 have hobj:eh (x62.byteV.toNat-k) C L=eh x62.byteV.toNat x76 []:=by assumption
 refine sg<|Pl 1<|nt<|sq<|?_
 refine cb ((decide (((k:Nat) : Int)<x62.byteV))) (fun Y=>?_) (fun Y=>?_)
 have cg:=of_decide_eq_true Y
 refine bo<|sq<|bk<|sg<|Pl 1<|L0<|Oc<|m3 (bV u) fun da aM y db=>Pl 1<|nt<|Rg 17 (fun w'=>True) fun dd t=>bh trivial fun z=>Rt 0 z<|?_
 refine Rt 1 z<|Rt 2 z<|Rt 3 z<|Rt 5 z<|Rt 6 z<|Rt 7 z<|?_
 refine R2 4 8 rfl rfl ?_ ?_
 have Z:=aH y t
 have a0:=aU Z (Ne.symm hne) D
 refine  aR a0 21<|bh trivial fun de=>?_
 refine R0 8 rfl<|Oc<|m3 (bV (aj.old aM t)) fun df aN a1 dg=>bh trivial fun ch=>Rr 9 ch (.int .i64 ((C.bytesC 1).byteV)) (fun _ _=>cJ (.int .i64 (IntKind.i64.wrap ((C.bytesC 1).byteV))) (by kernel_rfl) (congrArg (Value.int .i64) (i64_in (by omega))))<|R0 10 rfl<|Oc<|qY (cG (n:=(C.bytesC 1).byteV) aN) fun ci cj dh ck di dj cl a2=>?_
 have dk:=Nat.le_trans (ah.bytesR_le ((C.bytesC 1).bytesC 1) ((C.bytesC 1).byteV)) (aj.len aN)
 refine ab cl fun dl cm cn=>?_
 refine bh trivial fun co=>Rt 11 co<|R0 12 rfl<|dx (m:=1) (e:=111) #[.int .u8 C.byteV,.slice ci ((((C.bytesC 1).bytesC 1).bytesR ((C.bytesC 1).byteV)).length) cj] fun dn dp dq cq I=>?_
 have cr:=iZ (R:=d6 true) (x:=(Obj.mk C.byteV (((C.bytesC 1).bytesC 1).bytesR ((C.bytesC 1).byteV)))) cq rfl ⟨_,rfl,(b9.upd' ck I aG),b8 (by omega)⟩
 refine bh trivial fun dr=>?_
 have aO:=u1 a1 (aH a2 I) im
 have a3:=u1 Z aO im
 have aS:=ax a a3 (fun x hx=>(aa (fun e=>(aA (aj.lt hC) (le (le (le (le (le (le (le (le (le (le (le b.size j.size) d.size) l.size) o.size) f.size) p.size) q.size) h.size) r.size) s.size) i.size) a) (e▸hx)) ay)) (d6.upd8 a3 (am (aj.safe u _ (by decide)) aG))
 refine R0 13 rfl<|gi (xs:=L) (ys:=([(Obj.mk C.byteV (((C.bytesC 1).bytesC 1).bytesR ((C.bytesC 1).byteV)))])) (.agg #[.int .u8 0,.slice none 0 0]) 2 32 aS cr (by simp) d6.ones (fun w' hv=>d6.upd8 hv (cP (dc _ aS (by decide)) aG)) (by(try simp only[List.length_append,List.length_cons,List.length_nil,aB]);omega) (le (le (le (le (le v.size y.size) t.size) a1.size) a2.size) I.size) fun aV aW ds aX aY=>bh trivial fun aZ=>Rt 14 aZ<|Rt 15 aZ<|?_
 have b0:=aD.blk (ut (aD.mono (S':=(g :: (ob A++[]))) aO (ac im aq)) aY (av il aq)) (aa (Ne.symm hne) (bi (aA (ak hm) (le (le (le (le (le (le (le (le (le (le (le b.size j.size) d.size) l.size) o.size) f.size) p.size) q.size) h.size) r.size) s.size) i.size) a) ay)) a0
 refine R0 16 rfl<|bT b0 21 (mG c 0 0 0 0 0 0 0 0 0 0 0 nS nS nS nS me kd C0.byteV x25.byteV x44.byteV (.slice aV ((L++[(Obj.mk C.byteV (((C.bytesC 1).bytesC 1).bytesR ((C.bytesC 1).byteV)))]).length) aW)) fun dt cs a4=>bh trivial fun du=>re<|bn<|tn<|go<|L0<|Oi (((k:Nat) : Int)+1)<|Pl 1<|nl<|?_
 subst cm
 have b1:=u1 (aD.mono (S':=(ob A++(gm :: []))) aY (av il aq)) a4 im
 have b2:=u1 a1 a2 im
 have b3:=u1 Z b2 im
 exact ga ((k+1),(((C.bytesC 1).bytesC 1).bytesC ((C.bytesC 1).byteV)),(L++[(Obj.mk C.byteV (((C.bytesC 1).bytesC 1).bytesR ((C.bytesC 1).byteV)))]),aV,aW) ⟨(ut v (ut (aD.mono (S':=(g :: (ob A++(gm :: [])))) a3 (ac im aq)) b1 (av il (ac im aq))) (ac im (av (aT a lr) (ac im aq)))),(aj.upd cn (ut (aD.mono (S':=(ob A++(gm :: []))) I aq) b1 (av il (ac im aq))) (bi (aA (aj.lt hC) (le (le (le (le (le (le (le (le (le (le (le b.size j.size) d.size) l.size) o.size) f.size) p.size) q.size) h.size) r.size) s.size) i.size) a) (aa hne ay)) (cP (dc _ (ax a b3 (fun x hx=>(aa (fun e=>(aA (aj.lt hC) (le (le (le (le (le (le (le (le (le (le (le b.size j.size) d.size) l.size) o.size) f.size) p.size) q.size) h.size) r.size) s.size) i.size) a) (e▸hx)) ay)) (d6.upd8 b3 (am (aj.safe u _ (by decide)) aG))) (by decide)) (am (aQ (aU b2 (Ne.symm hne) a0) (by decide)) aG))),cs,(ax aX a4 (fun x hx=>(aa (fun e=>(aA (ak hm) (le (le (le (le (le (le (le (le (le (le (le b.size j.size) d.size) l.size) o.size) f.size) p.size) q.size) h.size) r.size) s.size) i.size) aX) (e▸hx)) ay)) (d6.upd8 a4 (am (aQ b0 (by decide)) aG))),(by(try dsimp only);omega),(by(try dsimp only);rw[← hobj,show x62.byteV.toNat-k=(x62.byteV.toNat-(k+1))+1 from by omega];rfl),(by(try dsimp only);(try simp only[List.length_append,List.length_cons,List.length_nil]);omega)⟩ (by omega)
 refine  Oc<|m3 (bV (aj.old aM t)) fun dv J B dw=>bh trivial fun ct=>Rr 9 ct (.int .i64 ((C.bytesC 1).byteV)) (fun _ _=>cJ (.int .i64 (IntKind.i64.wrap ((C.bytesC 1).byteV))) (by kernel_rfl) (congrArg (Value.int .i64) (i64_in (by omega))))<|?_
 refine R2 4 10 rfl rfl ?_ ?_
 have a5:=u1 y (uz t B) im
 have a6:=aU a5 (Ne.symm hne) D
 refine  aR a6 21<|bh trivial fun dy=>R0 10 rfl<|Oc<|qY (cG (n:=(C.bytesC 1).byteV) J) fun cv cw dz cx dA dB cy M=>?_
 have dC:=Nat.le_trans (ah.bytesR_le ((C.bytesC 1).bytesC 1) ((C.bytesC 1).byteV)) (aj.len J)
 refine ab cy fun dD cA cB=>?_
 refine bh trivial fun cC=>Rt 11 cC<|R0 12 rfl<|dx (m:=1) (e:=111) #[.int .u8 C.byteV,.slice cv ((((C.bytesC 1).bytesC 1).bytesR ((C.bytesC 1).byteV)).length) cw] fun dE dF dG cD N=>?_
 have cE:=iZ (R:=d6 true) (x:=(Obj.mk C.byteV (((C.bytesC 1).bytesC 1).bytesR ((C.bytesC 1).byteV)))) cD rfl ⟨_,rfl,(b9.upd' cx N aG),b8 (by omega)⟩
 refine bh trivial fun dH=>?_
 have b4:=aH M N
 have a7:=u1 a5 b4 im
 have b5:=ax a a7 (fun x hx=>(aa (fun e=>(aA (aj.lt hC) (le (le (le (le (le (le (le (le (le (le (le b.size j.size) d.size) l.size) o.size) f.size) p.size) q.size) h.size) r.size) s.size) i.size) a) (e▸hx)) ay)) (d6.upd8 a7 (am (aj.safe u _ (by decide)) aG))
 refine R0 13 rfl<|gi (xs:=L) (ys:=([(Obj.mk C.byteV (((C.bytesC 1).bytesC 1).bytesR ((C.bytesC 1).byteV)))])) (.agg #[.int .u8 0,.slice none 0 0]) 2 32 b5 cE (by simp) d6.ones (fun w' hv=>d6.upd8 hv (cP (dc _ b5 (by decide)) aG)) (by(try simp only[List.length_append,List.length_cons,List.length_nil,aB]);omega) (le (le (le (le (le v.size y.size) t.size) B.size) M.size) N.size) fun b6 ba dI bb bc=>bh trivial fun bd=>Rt 14 bd<|Rt 15 bd<|?_
 have bf:=aD.blk (ut (aD.mono (S':=(g :: (ob A++[]))) b4 (ac im aq)) bc (av il aq)) (aa (Ne.symm hne) (bi (aA (ak hm) (le (le (le (le (le (le (le (le (le (le (le b.size j.size) d.size) l.size) o.size) f.size) p.size) q.size) h.size) r.size) s.size) i.size) a) ay)) a6
 refine R0 16 rfl<|bT bf 21 (mG c 0 0 0 0 0 0 0 0 0 0 0 nS nS nS nS me kd C0.byteV x25.byteV x44.byteV (.slice b6 ((L++[(Obj.mk C.byteV (((C.bytesC 1).bytesC 1).bytesR ((C.bytesC 1).byteV)))]).length) ba)) fun dJ cF a8=>bh trivial fun dK=>re<|bn<|tn<|go<|L0<|Oi (((k:Nat) : Int)+1)<|Pl 1<|nl<|?_
 subst cA
 have bg:=u1 (aD.mono (S':=(ob A++(gm :: []))) bc (av il aq)) a8 im
 have bj:=u1 a5 M im
 exact ga ((k+1),(((C.bytesC 1).bytesC 1).bytesC ((C.bytesC 1).byteV)),(L++[(Obj.mk C.byteV (((C.bytesC 1).bytesC 1).bytesR ((C.bytesC 1).byteV)))]),b6,ba) ⟨(ut v (ut (aD.mono (S':=(g :: (ob A++(gm :: [])))) a7 (ac im aq)) bg (av il (ac im aq))) (ac im (av (aT a lr) (ac im aq)))),(aj.upd cB (ut (aD.mono (S':=(ob A++(gm :: []))) N aq) bg (av il (ac im aq))) (bi (aA (aj.lt hC) (le (le (le (le (le (le (le (le (le (le (le b.size j.size) d.size) l.size) o.size) f.size) p.size) q.size) h.size) r.size) s.size) i.size) a) (aa hne ay)) (cP (dc _ (ax a bj (fun x hx=>(aa (fun e=>(aA (aj.lt hC) (le (le (le (le (le (le (le (le (le (le (le b.size j.size) d.size) l.size) o.size) f.size) p.size) q.size) h.size) r.size) s.size) i.size) a) (e▸hx)) ay)) (d6.upd8 bj (am (aj.safe u _ (by decide)) aG))) (by decide)) (am (aQ (aU M (Ne.symm hne) a6) (by decide)) aG))),cF,(ax bb a8 (fun x hx=>(aa (fun e=>(aA (ak hm) (le (le (le (le (le (le (le (le (le (le (le b.size j.size) d.size) l.size) o.size) f.size) p.size) q.size) h.size) r.size) s.size) i.size) bb) (e▸hx)) ay)) (d6.upd8 a8 (am (aQ bf (by decide)) aG))),(by(try dsimp only);omega),(by(try dsimp only);rw[← hobj,show x62.byteV.toNat-k=(x62.byteV.toNat-(k+1))+1 from by omega];rfl),(by(try dsimp only);(try simp only[List.length_append,List.length_cons,List.length_nil]);omega)⟩ (by omega)
 refine  Oc<|qY (cG (n:=(C.bytesC 1).byteV) J) fun bm bp dL bq dM dN cH H=>?_
 have dO:=Nat.le_trans (ah.bytesR_le ((C.bytesC 1).bytesC 1) ((C.bytesC 1).byteV)) (aj.len J)
 refine ab cH fun dP br bs=>?_
 refine bh trivial fun cI=>Rt 11 cI<|?_
 refine R2 4 12 rfl rfl ?_ ?_
 have O:=u1 y (uz t (u1 B H im)) im
 have a9:=aU O (Ne.symm hne) D
 refine  aR a9 21<|bh trivial fun dQ=>R0 12 rfl<|dx (m:=1) (e:=111) #[.int .u8 C.byteV,.slice bm ((((C.bytesC 1).bytesC 1).bytesR ((C.bytesC 1).byteV)).length) bp] fun dR dS dT cK P=>?_
 have cL:=iZ (R:=d6 true) (x:=(Obj.mk C.byteV (((C.bytesC 1).bytesC 1).bytesR ((C.bytesC 1).byteV)))) cK rfl ⟨_,rfl,(b9.upd' bq P aG),b8 (by omega)⟩
 refine bh trivial fun dU=>?_
 have ad:=aH O P
 have bt:=ax a ad (fun x hx=>(aa (fun e=>(aA (aj.lt hC) (le (le (le (le (le (le (le (le (le (le (le b.size j.size) d.size) l.size) o.size) f.size) p.size) q.size) h.size) r.size) s.size) i.size) a) (e▸hx)) ay)) (d6.upd8 ad (am (aj.safe u _ (by decide)) aG))
 refine R0 13 rfl<|gi (xs:=L) (ys:=([(Obj.mk C.byteV (((C.bytesC 1).bytesC 1).bytesR ((C.bytesC 1).byteV)))])) (.agg #[.int .u8 0,.slice none 0 0]) 2 32 bt cL (by simp) d6.ones (fun w' hv=>d6.upd8 hv (cP (dc _ bt (by decide)) aG)) (by(try simp only[List.length_append,List.length_cons,List.length_nil,aB]);omega) (le (le (le (le (le v.size y.size) t.size) B.size) H.size) P.size) fun bu bv dV bw bz=>bh trivial fun bA=>Rt 14 bA<|Rt 15 bA<|?_
 have bB:=ut (aD.mono (S':=(ob A++[])) P aq) bz (av il aq)
 have bC:=aD.blk bB (bi (aA (ak hm) (le (le (le (le (le (le (le (le (le (le (le b.size j.size) d.size) l.size) o.size) f.size) p.size) q.size) h.size) r.size) s.size) i.size) a) ay) a9
 refine R0 16 rfl<|bT bC 21 (mG c 0 0 0 0 0 0 0 0 0 0 0 nS nS nS nS me kd C0.byteV x25.byteV x44.byteV (.slice bu ((L++[(Obj.mk C.byteV (((C.bytesC 1).bytesC 1).bytesR ((C.bytesC 1).byteV)))]).length) bv)) fun dW cM Q=>bh trivial fun dX=>re<|bn<|tn<|go<|L0<|Oi (((k:Nat) : Int)+1)<|Pl 1<|nl<|?_
 subst br
 exact ga ((k+1),(((C.bytesC 1).bytesC 1).bytesC ((C.bytesC 1).byteV)),(L++[(Obj.mk C.byteV (((C.bytesC 1).bytesC 1).bytesR ((C.bytesC 1).byteV)))]),bu,bv) ⟨(ut v (ut (aD.mono (S':=(g :: (ob A++(gm :: [])))) ad (ac im aq)) (u1 (aD.mono (S':=(ob A++(gm :: []))) bz (av il aq)) Q im) (av il (ac im aq))) (ac im (av (aT a lr) (ac im aq)))),(aj.upd bs (u1 (aD.mono (S':=(ob A++(gm :: []))) bB (av il aq)) Q im) (bi (aA (aj.lt hC) (le (le (le (le (le (le (le (le (le (le (le b.size j.size) d.size) l.size) o.size) f.size) p.size) q.size) h.size) r.size) s.size) i.size) a) (aa hne ay)) (cP (dc _ (ax a O (fun x hx=>(aa (fun e=>(aA (aj.lt hC) (le (le (le (le (le (le (le (le (le (le (le b.size j.size) d.size) l.size) o.size) f.size) p.size) q.size) h.size) r.size) s.size) i.size) a) (e▸hx)) ay)) (d6.upd8 O (am (aj.safe u _ (by decide)) aG))) (by decide)) (am (aQ a9 (by decide)) aG))),cM,(ax bw Q (fun x hx=>(aa (fun e=>(aA (ak hm) (le (le (le (le (le (le (le (le (le (le (le b.size j.size) d.size) l.size) o.size) f.size) p.size) q.size) h.size) r.size) s.size) i.size) bw) (e▸hx)) ay)) (d6.upd8 Q (am (aQ bC (by decide)) aG))),(by(try dsimp only);omega),(by(try dsimp only);rw[← hobj,show x62.byteV.toNat-k=(x62.byteV.toNat-(k+1))+1 from by omega];rfl),(by(try dsimp only);(try simp only[List.length_append,List.length_cons,List.length_nil]);omega)⟩ (by omega)
 refine  dx (m:=1) (e:=111) #[.int .u8 C.byteV,.slice bm ((((C.bytesC 1).bytesC 1).bytesR ((C.bytesC 1).byteV)).length) bp] fun dY dZ e0 cN S=>?_
 have cO:=iZ (R:=d6 true) (x:=(Obj.mk C.byteV (((C.bytesC 1).bytesC 1).bytesR ((C.bytesC 1).byteV)))) cN rfl ⟨_,rfl,(b9.upd' bq S aG),b8 (by omega)⟩
 refine bh trivial fun e1=>?_
 have T:=u1 y (uz t (u1 B (aH H S) im)) im
 have bD:=aU T (Ne.symm hne) D
 refine R0 4 rfl<|aR bD 21<|bh trivial fun e2=>?_
 have bE:=ax a T (fun x hx=>(aa (fun e=>(aA (aj.lt hC) (le (le (le (le (le (le (le (le (le (le (le b.size j.size) d.size) l.size) o.size) f.size) p.size) q.size) h.size) r.size) s.size) i.size) a) (e▸hx)) ay)) (d6.upd8 T (am (aj.safe u _ (by decide)) aG))
 refine R0 13 rfl<|gi (xs:=L) (ys:=([(Obj.mk C.byteV (((C.bytesC 1).bytesC 1).bytesR ((C.bytesC 1).byteV)))])) (.agg #[.int .u8 0,.slice none 0 0]) 2 32 bE cO (by simp) d6.ones (fun w' hv=>d6.upd8 hv (cP (dc _ bE (by decide)) aG)) (by(try simp only[List.length_append,List.length_cons,List.length_nil,aB]);omega) (le (le (le (le (le v.size y.size) t.size) B.size) H.size) S.size) fun bF bG e3 bH bI=>bh trivial fun bJ=>Rt 14 bJ<|Rt 15 bJ<|?_
 have bK:=aD.blk bI (bi (aA (ak hm) (le (le (le (le (le (le (le (le (le (le (le b.size j.size) d.size) l.size) o.size) f.size) p.size) q.size) h.size) r.size) s.size) i.size) a) ay) bD
 refine R0 16 rfl<|bT bK 21 (mG c 0 0 0 0 0 0 0 0 0 0 0 nS nS nS nS me kd C0.byteV x25.byteV x44.byteV (.slice bF ((L++[(Obj.mk C.byteV (((C.bytesC 1).bytesC 1).bytesR ((C.bytesC 1).byteV)))]).length) bG)) fun e4 cQ ae=>bh trivial fun e5=>re<|bn<|tn<|go<|L0<|Oi (((k:Nat) : Int)+1)<|Pl 1<|nl<|?_
 subst br
 have bL:=u1 (aD.mono (S':=(ob A++(gm :: []))) bI (av il aq)) ae im
 have af:=u1 y (uz t (u1 B H im)) im
 exact ga ((k+1),(((C.bytesC 1).bytesC 1).bytesC ((C.bytesC 1).byteV)),(L++[(Obj.mk C.byteV (((C.bytesC 1).bytesC 1).bytesR ((C.bytesC 1).byteV)))]),bF,bG) ⟨(ut v (ut (aD.mono (S':=(g :: (ob A++(gm :: [])))) T (ac im aq)) bL (av il (ac im aq))) (ac im (av (aT a lr) (ac im aq)))),(aj.upd bs (ut (aD.mono (S':=(ob A++(gm :: []))) S aq) bL (av il (ac im aq))) (bi (aA (aj.lt hC) (le (le (le (le (le (le (le (le (le (le (le b.size j.size) d.size) l.size) o.size) f.size) p.size) q.size) h.size) r.size) s.size) i.size) a) (aa hne ay)) (cP (dc _ (ax a af (fun x hx=>(aa (fun e=>(aA (aj.lt hC) (le (le (le (le (le (le (le (le (le (le (le b.size j.size) d.size) l.size) o.size) f.size) p.size) q.size) h.size) r.size) s.size) i.size) a) (e▸hx)) ay)) (d6.upd8 af (am (aj.safe u _ (by decide)) aG))) (by decide)) (am (aQ (aU af (Ne.symm hne) D) (by decide)) aG))),cQ,(ax bH ae (fun x hx=>(aa (fun e=>(aA (ak hm) (le (le (le (le (le (le (le (le (le (le (le b.size j.size) d.size) l.size) o.size) f.size) p.size) q.size) h.size) r.size) s.size) i.size) bH) (e▸hx)) ay)) (d6.upd8 ae (am (aQ bK (by decide)) aG))),(by(try dsimp only);omega),(by(try dsimp only);rw[← hobj,show x62.byteV.toNat-k=(x62.byteV.toNat-(k+1))+1 from by omega];rfl),(by(try dsimp only);(try simp only[List.length_append,List.length_cons,List.length_nil]);omega)⟩ (by omega)
 have cg:=of_decide_eq_false Y
 refine xt<|tx<|tx<|bx<|rm (.tuple #[])<|?_
 subst c6 c1 bU bO
 have hf:ek kd C0=(C,L):=by
   have h1:eh ((((((C0.bytesC 1).need (bY C0.byteV) 6).bytesC 1).need ((((C0.bytesC 1).need (bY C0.byteV) 6).byteV==0)||(((C0.bytesC 1).need (bY C0.byteV) 6).byteV==255)) 6).bytesC 1).need ((((C0.bytesC 1).need (bY C0.byteV) 6).byteV != 0)||(((((C0.bytesC 1).need (bY C0.byteV) 6).bytesC 1).need ((((C0.bytesC 1).need (bY C0.byteV) 6).byteV==0)||(((C0.bytesC 1).need (bY C0.byteV) 6).byteV==255)) 6).byteV==0)) 6).byteV.toNat ((((((((C0.bytesC 1).need (bY C0.byteV) 6).bytesC 1).need ((((C0.bytesC 1).need (bY C0.byteV) 6).byteV==0)||(((C0.bytesC 1).need (bY C0.byteV) 6).byteV==255)) 6).bytesC 1).need ((((C0.bytesC 1).need (bY C0.byteV) 6).byteV != 0)||(((((C0.bytesC 1).need (bY C0.byteV) 6).bytesC 1).need ((((C0.bytesC 1).need (bY C0.byteV) 6).byteV==0)||(((C0.bytesC 1).need (bY C0.byteV) 6).byteV==255)) 6).byteV==0)) 6).bytesC 1).need ((kd != 4)||(((((((C0.bytesC 1).need (bY C0.byteV) 6).bytesC 1).need ((((C0.bytesC 1).need (bY C0.byteV) 6).byteV==0)||(((C0.bytesC 1).need (bY C0.byteV) 6).byteV==255)) 6).bytesC 1).need ((((C0.bytesC 1).need (bY C0.byteV) 6).byteV != 0)||(((((C0.bytesC 1).need (bY C0.byteV) 6).bytesC 1).need ((((C0.bytesC 1).need (bY C0.byteV) 6).byteV==0)||(((C0.bytesC 1).need (bY C0.byteV) 6).byteV==255)) 6).byteV==0)) 6).byteV==1)) 5) []=(C,L):=by
     rw[← hobj,show((((((C0.bytesC 1).need (bY C0.byteV) 6).bytesC 1).need ((((C0.bytesC 1).need (bY C0.byteV) 6).byteV==0)||(((C0.bytesC 1).need (bY C0.byteV) 6).byteV==255)) 6).bytesC 1).need ((((C0.bytesC 1).need (bY C0.byteV) 6).byteV != 0)||(((((C0.bytesC 1).need (bY C0.byteV) 6).bytesC 1).need ((((C0.bytesC 1).need (bY C0.byteV) 6).byteV==0)||(((C0.bytesC 1).need (bY C0.byteV) 6).byteV==255)) 6).byteV==0)) 6).byteV.toNat-k=0 from by omega]
     rfl
   exact h1
 rw[hf]
 exact⟨rfl,u,⟨_,⟨D,rfl⟩,⟨_,_,_,_,_,rfl,aK.nil ..,aK.nil ..,aK.nil ..,aK.nil ..,(a).rd,⟨(b8 (x:=c) (by omega)),(b8 (x:=0) (by omega)),(aC (x:=0) (by omega)),(aC (x:=0) (by omega)),(aC (x:=0) (by omega)),(aC (x:=0) (by omega)),(aC (x:=0) (by omega)),(aC (x:=0) (by omega)),(aC (x:=0) (by omega)),(aC (x:=0) (by omega)),(aC (x:=0) (by omega)),(aC (x:=0) (by omega)),(b8 (x:=me) (by omega)),(b8 (x:=kd) (by omega)),(b8 (x:=C0.byteV) (by omega)),(b8 (x:=((C0.bytesC 1).need (bY C0.byteV) 6).byteV) (by omega)),(b8 (x:=((((C0.bytesC 1).need (bY C0.byteV) 6).bytesC 1).need ((((C0.bytesC 1).need (bY C0.byteV) 6).byteV==0)||(((C0.bytesC 1).need (bY C0.byteV) 6).byteV==255)) 6).byteV) (by omega))⟩⟩⟩,(ui b (ui an (ui ao (ui f (ui az (ui h (ui aI (ui i v))))))))⟩
open Go.RowKit
def dq (C:ah) : ah:=(C.bytesC 1).need (C.byteV==13 || C.byteV==14) 8
def eb (C:ah) : ah:=(dq C).need (decide (((dq C).l.length:Int)≤251)) 5
def fI (C:ah) : ah:=((dq C).bytesC 1).need (decide (1≤(dq C).byteV)&&decide ((dq C).byteV≤4)) 6
def bE (dir c:Int)(C:ah) : Option (ah × aP) :=
  if c != 43 then none
  else if C.byteV==13 then some ((eb C).bytesC ((eb C).l.length:Int),{ aP.zero with code:=c,mei:=C.byteV,data:=(eb C).bytesR ((eb C).l.length:Int) })
  else if dir==1 then some ((ek (dq C).byteV (fI C)).1,{ aP.zero with code:=c,mei:=C.byteV,kind:=(dq C).byteV,level:=(fI C).byteV,more:=(kG (fI C)).byteV,next:=(kB (fI C)).byteV,objects:=(ek (dq C).byteV (fI C)).2 })
  else some ((fI C).bytesC 1,{ aP.zero with code:=c,mei:=C.byteV,kind:=(dq C).byteV,next:=(fI C).byteV })
theorem mQ{m:Md}{A:Option Addr}{cp:Nat}{b:List Int}{w:World}{c:Int}(hcode:B8 c)(hsl:b9 m w (.slice A b.length cp) b)(hb:b.length≤1048576) :
    Calls Tryz.prog 146 #[.int .i64 0,.int .u8 c,.slice A b.length cp] w (dD (ae bE 0 c b) w):=by
 obtain⟨hcode1,hcode2⟩:=hcode
 have hln:(b.length:Int)≤1048576:=by omega
 refine en 81 Tryz.func146 rfl<|sg<|L0<|bI mZ fun O be q i j=>Pl 1<|nt<|sq<|bk<|sg<|Pl 7<|nt<|?_
 refine c0<|sg<|Pl 3<|nt<|cb ((c != 43)) (fun f=>?_) (fun f=>?_)
 have aw:=au f
 refine sg<|Pl 1<|L0<|b6 i mZ fun bf ax az=>Pl 1<|nt<|rt<|br<|tr<|bF ax (.int .i64 4)<|?_
 have hs:ae bE 0 c b=(aP.zero,4):=by
   unfold ae bE eb fI dq
   (try simp only[f,bs,if_true,if_false,decide_true,decide_false,eq_self,true_or,or_true,or_false,false_or,if_true,if_false,ch,cg,cc,bZ,reduceIte])
   all_goals rfl
 rw[hs]
 exact cD (ud j az q)
 have aw:=ai f
 refine sk<|bn<|tn<|sg<|Pl 1<|?_
 refine L0<|Oc<|e3 (dI (b9.old hsl j) (by omega)) fun P bg a Q k=>Pl 1<|ng<|Pl 2<|L0<|Oc<|m3 (bV Q) fun bh aA g bi=>Pl 1<|L0<|bI mZ fun R bj h aB aE=>L0<|b6 aB (mG c 0 0 0 0 0 0 0 0 0 0 0 nS nS nS nS ((ah.mk b false 0).byteV) 0 0 0 0 nS) fun bm E aI=>nt<|sq<|?_
 refine go<|Pl 2<|L0<|aR E 16<|Pl 2<|cu 4 [33] 37 (((((ah.mk b false 0).byteV)==13)||(((ah.mk b false 0).byteV)==14))) (fun K S=>?_) ?_
 refine bl 33 ((((ah.mk b false 0).byteV)==13)) (fun r=>?_) (fun r=>?_)
 have aJ:=al r
 exact Pl 4<|ce S true (by rw[r];rfl)
 have aJ:=ap r
 exact Pl 1<|L1<|aR E 16<|Pl 2<|ce S (((ah.mk b false 0).byteV)==14) (by rw[r];rfl)
 have T:=ud aE aI h
 refine L0<|Oc<|m2 (b7 (((((ah.mk b false 0).byteV)==13)||(((ah.mk b false 0).byteV)==14))) 8 (aj.old aA T)) fun bp aL U=>?_
 refine ab aL fun x45 v y=>?_
 refine nt<|sq<|sg<|Pl 1<|?_
 have d:=nb (aj.lt Q) g.size h
 have F:=aU U (Ne.symm d) E
 refine L0<|aR F 16<|Pl 1<|nt<|?_
 have o:=ud k (u1 g (uz T U) im) a
 have V:=aH j o
 refine cb ((((ah.mk b false 0).byteV)==13)) (fun p=>?_) (fun p=>?_)
 have aM:=al p
 refine sg<|Pl 2<|L0<|Oc<|mq (e9 y)<|?_
 have bq:=aj.len y
 refine Pl 1<|L0<|Oc<|m2 (b7 ((decide (((x45.l.length:Nat) : Int)≤251))) 5 y) fun bt aN aO=>?_
 refine ab aN fun x59 W z=>?_
 refine nt<|go<|Pl 2<|L0<|Oc<|mq (e9 z)<|?_
 have bu:=aj.len z
 refine L0<|Oc<|qY (cG (n:=((x59.l.length:Nat) : Int)) z) fun X Y bv Z bw bx aS aT=>?_
 have bA:=Nat.le_trans (ah.bytesR_le x59 ((x59.l.length:Nat) : Int)) (aj.len z)
 refine ab aS fun x69 a0 G=>?_
 refine Pl 1<|?_
 have B:=u1 aO aT im
 have C:=aU B (Ne.symm d) F
 refine L0<|bT C 14 (mG c 0 0 0 0 0 0 0 0 0 0 0 nS nS (.slice X ((x59.bytesR ((x59.l.length:Nat) : Int)).length) Y) nS ((ah.mk b false 0).byteV) 0 0 0 0 nS) fun bC aV a1=>ng<|Pl 1<|?_
 refine L0<|Oc<|m2 (cn (aj.upd G a1 (aa d ay) (am (aQ C (by decide)) aG))) fun bG a2 a3=>nt<|sq<|sg<|Pl 1<|L0<|Oc<|mq (bB a2)<|?_
 have bH:=aj.len a2
 refine Pl 1<|ng<|Pl 2<|nt<|?_
 have H:=us a1 a3
 have I:=ui B H
 have a4:=ut V I (ac (ni (le (le j.size k.size) g.size) h) (ac (ni j.size a) aq))
 refine cb ((x69.endC.e != 0)) (fun s=>?_) (fun s=>?_)
 have J:=au s
 refine sg<|Pl 2<|?_
 refine L0<|b6 (ub (ut o I (ac (ni (le k.size g.size) h) (ac (nr a) aq))) i) mZ fun bJ aW a5=>Pl 1<|nt<|rt<|tr<|bF aW (.int .i64 x69.endC.e)<|?_
 subst a0 W v
 have bK:=b9.upd' Z (u1 (aD.mono (S':=[R,P,O]) H (ac im (ac im aq))) a5 im) (am (aQ C (by decide)) (am (aj.safe G _ (by decide)) (am (aQ (ub (ud o B a) i) (by decide)) aG)))
 have hs:ae bE 0 c b=aF (aP.mk c 0 0 0 0 0 0 0 0 0 0 0 [] [] (((((ah.mk b false 0).bytesC 1).need ((((ah.mk b false 0).byteV)==13)||(((ah.mk b false 0).byteV)==14)) 8).need (decide ((((((ah.mk b false 0).bytesC 1).need ((((ah.mk b false 0).byteV)==13)||(((ah.mk b false 0).byteV)==14)) 8).l.length:Nat) : Int)≤251)) 5).bytesR ((((((ah.mk b false 0).bytesC 1).need ((((ah.mk b false 0).byteV)==13)||(((ah.mk b false 0).byteV)==14)) 8).need (decide ((((((ah.mk b false 0).bytesC 1).need ((((ah.mk b false 0).byteV)==13)||(((ah.mk b false 0).byteV)==14)) 8).l.length:Nat) : Int)≤251)) 5).l.length:Nat) : Int)) [] ((ah.mk b false 0).byteV) 0 0 0 0 []) (((((ah.mk b false 0).bytesC 1).need ((((ah.mk b false 0).byteV)==13)||(((ah.mk b false 0).byteV)==14)) 8).need (decide ((((((ah.mk b false 0).bytesC 1).need ((((ah.mk b false 0).byteV)==13)||(((ah.mk b false 0).byteV)==14)) 8).l.length:Nat) : Int)≤251)) 5).bytesC ((((((ah.mk b false 0).bytesC 1).need ((((ah.mk b false 0).byteV)==13)||(((ah.mk b false 0).byteV)==14)) 8).need (decide ((((((ah.mk b false 0).bytesC 1).need ((((ah.mk b false 0).byteV)==13)||(((ah.mk b false 0).byteV)==14)) 8).l.length:Nat) : Int)≤251)) 5).l.length:Nat) : Int)):=by
   unfold ae bE eb fI dq
   (try simp only[f,p,s,bs,if_true,if_false,decide_true,decide_false,eq_self,true_or,or_true,or_false,false_or,if_true,if_false,ch,cg,cc,bZ,reduceIte])
   all_goals rfl
 rw[hs]
 exact bz J (ud a4 a5 q)
 have J:=ai s
 refine bo<|sg<|?_
 refine L0<|cl (aU a3 (Ne.symm d) aV)<|?_
 refine L0<|b6 (ub (ut o I (ac (ni (le k.size g.size) h) (ac (nr a) aq))) i) (mG c 0 0 0 0 0 0 0 0 0 0 0 nS nS (.slice X ((x59.bytesR ((x59.l.length:Nat) : Int)).length) Y) nS ((ah.mk b false 0).byteV) 0 0 0 0 nS) fun bL aX a6=>Pl 1<|nt<|rt<|bF aX (.int .i64 0)<|?_
 subst a0 W v
 have hs:ae bE 0 c b=aF (aP.mk c 0 0 0 0 0 0 0 0 0 0 0 [] [] (((((ah.mk b false 0).bytesC 1).need ((((ah.mk b false 0).byteV)==13)||(((ah.mk b false 0).byteV)==14)) 8).need (decide ((((((ah.mk b false 0).bytesC 1).need ((((ah.mk b false 0).byteV)==13)||(((ah.mk b false 0).byteV)==14)) 8).l.length:Nat) : Int)≤251)) 5).bytesR ((((((ah.mk b false 0).bytesC 1).need ((((ah.mk b false 0).byteV)==13)||(((ah.mk b false 0).byteV)==14)) 8).need (decide ((((((ah.mk b false 0).bytesC 1).need ((((ah.mk b false 0).byteV)==13)||(((ah.mk b false 0).byteV)==14)) 8).l.length:Nat) : Int)≤251)) 5).l.length:Nat) : Int)) [] ((ah.mk b false 0).byteV) 0 0 0 0 []) (((((ah.mk b false 0).bytesC 1).need ((((ah.mk b false 0).byteV)==13)||(((ah.mk b false 0).byteV)==14)) 8).need (decide ((((((ah.mk b false 0).bytesC 1).need ((((ah.mk b false 0).byteV)==13)||(((ah.mk b false 0).byteV)==14)) 8).l.length:Nat) : Int)≤251)) 5).bytesC ((((((ah.mk b false 0).bytesC 1).need ((((ah.mk b false 0).byteV)==13)||(((ah.mk b false 0).byteV)==14)) 8).need (decide ((((((ah.mk b false 0).bytesC 1).need ((((ah.mk b false 0).byteV)==13)||(((ah.mk b false 0).byteV)==14)) 8).l.length:Nat) : Int)≤251)) 5).l.length:Nat) : Int)):=by
   unfold ae bE eb fI dq
   (try simp only[f,p,s,bs,if_true,if_false,decide_true,decide_false,eq_self,true_or,or_true,or_false,false_or,if_true,if_false,ch,cg,cc,bZ,reduceIte])
   all_goals rfl
 rw[hs]
 exact bD J ⟨_,_,_,_,_,rfl,aK.nil ..,aK.nil ..,(b9.upd' Z (u1 (aD.mono (S':=[R,P,O]) H (ac im (ac im aq))) a6 im) (am (aQ C (by decide)) (am (aj.safe G _ (by decide)) (am (aQ (ub (ud o B a) i) (by decide)) aG)))),aK.nil ..,aK.nil ..,⟨(b8 (x:=c) (by omega)),(b8 (x:=0) (by omega)),(aC (x:=0) (by omega)),(aC (x:=0) (by omega)),(aC (x:=0) (by omega)),(aC (x:=0) (by omega)),(aC (x:=0) (by omega)),(aC (x:=0) (by omega)),(aC (x:=0) (by omega)),(aC (x:=0) (by omega)),(aC (x:=0) (by omega)),(aC (x:=0) (by omega)),(b8 (x:=(ah.mk b false 0).byteV) (by omega)),(b8 (x:=0) (by omega)),(b8 (x:=0) (by omega)),(b8 (x:=0) (by omega)),(b8 (x:=0) (by omega))⟩⟩ (ud a4 a6 q)
 have aM:=ap p
 refine sg<|Pl 1<|L0<|Oc<|m3 (bV y) fun bM aY a7 bN=>Pl 1<|?_
 have a8:=aU a7 (Ne.symm d) F
 refine L0<|bT a8 17 (mG c 0 0 0 0 0 0 0 0 0 0 0 nS nS nS nS ((ah.mk b false 0).byteV) x45.byteV 0 0 0 nS) fun bO L a9=>ng<|Pl 2<|L0<|aR L 17<|Pl 2<|cu 4 [59] 63 (((decide (1≤x45.byteV))&&(decide (x45.byteV≤4)))) (fun K ad=>?_) ?_
 refine bl 59 ((decide (1≤x45.byteV))) (fun t=>?_) (fun t=>?_)
 have aZ:=of_decide_eq_true t
 exact Pl 1<|L1<|aR L 17<|Pl 2<|ce ad (decide (x45.byteV≤4)) (by rw[t];rfl)
 have aZ:=of_decide_eq_false t
 exact Pl 4<|ce ad false (by rw[t];rfl)
 refine L0<|Oc<|m2 (b7 (((decide (1≤x45.byteV))&&(decide (x45.byteV≤4)))) 6 (aj.upd aY a9 (aa d ay) (am (aQ a8 (by decide)) aG))) fun bP b0 b1=>?_
 refine ab b0 fun D af b2=>?_
 refine ng<|Pl 2<|nt<|c0<|go<|Pl 1<|L0<|Oc<|m3 (bV b2) fun bQ b3 b4 bR=>Pl 1<|?_
 have ag:=u1 b1 b4 im
 have ak:=aU ag (Ne.symm d) L
 refine L0<|bT ak 20 (mG c 0 0 0 0 0 0 0 0 0 0 0 nS nS nS nS ((ah.mk b false 0).byteV) x45.byteV 0 0 D.byteV nS) fun bS b5 an=>ng<|Pl 1<|?_
 refine L0<|Oc<|m2 (cn (aj.upd b3 an (aa d ay) (am (aQ ak (by decide)) aG))) fun bU ao ar=>nt<|sq<|sg<|Pl 1<|L0<|Oc<|mq (bB ao)<|?_
 have bW:=aj.len ao
 refine Pl 1<|ng<|Pl 2<|nt<|?_
 have M:=ui a7 (ui a9 (ui ag (us an ar)))
 have av:=ut V M (ac (ni (le (le j.size k.size) g.size) h) (ac (ni j.size a) aq))
 refine cb (((((D.bytesC 1).endC).e)!=0)) (fun u=>?_) (fun u=>?_)
 have N:=au u
 refine sg<|Pl 2<|?_
 refine L0<|b6 (ub (ut o M (ac (ni (le k.size g.size) h) (ac (nr a) aq))) i) mZ fun bX ba bb=>Pl 1<|nt<|rt<|tr<|bF ba (.int .i64 (((D.bytesC 1).endC).e))<|?_
 subst af v
 have hs:ae bE 0 c b=aF (aP.mk c 0 0 0 0 0 0 0 0 0 0 0 [] [] [] [] ((ah.mk b false 0).byteV) ((((ah.mk b false 0).bytesC 1).need ((((ah.mk b false 0).byteV)==13)||(((ah.mk b false 0).byteV)==14)) 8).byteV) 0 0 ((((((ah.mk b false 0).bytesC 1).need ((((ah.mk b false 0).byteV)==13)||(((ah.mk b false 0).byteV)==14)) 8).bytesC 1).need ((decide (1≤(((ah.mk b false 0).bytesC 1).need ((((ah.mk b false 0).byteV)==13)||(((ah.mk b false 0).byteV)==14)) 8).byteV))&&(decide ((((ah.mk b false 0).bytesC 1).need ((((ah.mk b false 0).byteV)==13)||(((ah.mk b false 0).byteV)==14)) 8).byteV≤4))) 6).byteV) []) ((((((ah.mk b false 0).bytesC 1).need ((((ah.mk b false 0).byteV)==13)||(((ah.mk b false 0).byteV)==14)) 8).bytesC 1).need ((decide (1≤(((ah.mk b false 0).bytesC 1).need ((((ah.mk b false 0).byteV)==13)||(((ah.mk b false 0).byteV)==14)) 8).byteV))&&(decide ((((ah.mk b false 0).bytesC 1).need ((((ah.mk b false 0).byteV)==13)||(((ah.mk b false 0).byteV)==14)) 8).byteV≤4))) 6).bytesC 1):=by
   unfold ae bE eb fI dq
   (try simp only[f,p,u,bs,if_true,if_false,decide_true,decide_false,eq_self,true_or,or_true,or_false,false_or,if_true,if_false,ch,cg,cc,bZ,reduceIte])
   all_goals rfl
 rw[hs]
 exact bz N (ud av bb q)
 have N:=ai u
 refine bo<|sg<|?_
 refine L0<|cl (aU ar (Ne.symm d) b5)<|?_
 refine L0<|b6 (ub (ut o M (ac (ni (le k.size g.size) h) (ac (nr a) aq))) i) (mG c 0 0 0 0 0 0 0 0 0 0 0 nS nS nS nS ((ah.mk b false 0).byteV) x45.byteV 0 0 D.byteV nS) fun bY bc bd=>Pl 1<|nt<|rt<|bF bc (.int .i64 0)<|?_
 subst af v
 have hs:ae bE 0 c b=aF (aP.mk c 0 0 0 0 0 0 0 0 0 0 0 [] [] [] [] ((ah.mk b false 0).byteV) ((((ah.mk b false 0).bytesC 1).need ((((ah.mk b false 0).byteV)==13)||(((ah.mk b false 0).byteV)==14)) 8).byteV) 0 0 ((((((ah.mk b false 0).bytesC 1).need ((((ah.mk b false 0).byteV)==13)||(((ah.mk b false 0).byteV)==14)) 8).bytesC 1).need ((decide (1≤(((ah.mk b false 0).bytesC 1).need ((((ah.mk b false 0).byteV)==13)||(((ah.mk b false 0).byteV)==14)) 8).byteV))&&(decide ((((ah.mk b false 0).bytesC 1).need ((((ah.mk b false 0).byteV)==13)||(((ah.mk b false 0).byteV)==14)) 8).byteV≤4))) 6).byteV) []) ((((((ah.mk b false 0).bytesC 1).need ((((ah.mk b false 0).byteV)==13)||(((ah.mk b false 0).byteV)==14)) 8).bytesC 1).need ((decide (1≤(((ah.mk b false 0).bytesC 1).need ((((ah.mk b false 0).byteV)==13)||(((ah.mk b false 0).byteV)==14)) 8).byteV))&&(decide ((((ah.mk b false 0).bytesC 1).need ((((ah.mk b false 0).byteV)==13)||(((ah.mk b false 0).byteV)==14)) 8).byteV≤4))) 6).bytesC 1):=by
   unfold ae bE eb fI dq
   (try simp only[f,p,u,bs,if_true,if_false,decide_true,decide_false,eq_self,true_or,or_true,or_false,false_or,if_true,if_false,ch,cg,cc,bZ,reduceIte])
   all_goals rfl
 rw[hs]
 exact bD N ⟨_,_,_,_,_,rfl,aK.nil ..,aK.nil ..,aK.nil ..,aK.nil ..,aK.nil ..,⟨(b8 (x:=c) (by omega)),(b8 (x:=0) (by omega)),(aC (x:=0) (by omega)),(aC (x:=0) (by omega)),(aC (x:=0) (by omega)),(aC (x:=0) (by omega)),(aC (x:=0) (by omega)),(aC (x:=0) (by omega)),(aC (x:=0) (by omega)),(aC (x:=0) (by omega)),(aC (x:=0) (by omega)),(aC (x:=0) (by omega)),(b8 (x:=(ah.mk b false 0).byteV) (by omega)),(b8 (x:=(((ah.mk b false 0).bytesC 1).need ((((ah.mk b false 0).byteV)==13)||(((ah.mk b false 0).byteV)==14)) 8).byteV) (by omega)),(b8 (x:=0) (by omega)),(b8 (x:=0) (by omega)),(b8 (x:=(((((ah.mk b false 0).bytesC 1).need ((((ah.mk b false 0).byteV)==13)||(((ah.mk b false 0).byteV)==14)) 8).bytesC 1).need ((decide (1≤(((ah.mk b false 0).bytesC 1).need ((((ah.mk b false 0).byteV)==13)||(((ah.mk b false 0).byteV)==14)) 8).byteV))&&(decide ((((ah.mk b false 0).bytesC 1).need ((((ah.mk b false 0).byteV)==13)||(((ah.mk b false 0).byteV)==14)) 8).byteV≤4))) 6).byteV) (by omega))⟩⟩ (ud av bd q)
theorem mT{m:Md}{A:Option Addr}{cp:Nat}{b:List Int}{w:World}{c:Int}(hcode:B8 c)(hsl:b9 m w (.slice A b.length cp) b)(hb:b.length≤1048576) :
    Calls Tryz.prog 146 #[.int .i64 1,.int .u8 c,.slice A b.length cp] w (dD (ae bE 1 c b) w):=by
 obtain⟨hcode1,hcode2⟩:=hcode
 have hln:(b.length:Int)≤1048576:=by omega
 refine en 81 Tryz.func146 rfl<|sg<|L0<|bI mZ fun T bi q h o=>Pl 1<|nt<|sq<|bk<|sg<|Pl 7<|nt<|?_
 refine c0<|sg<|Pl 3<|nt<|cb ((c != 43)) (fun i=>?_) (fun i=>?_)
 have aB:=au i
 refine sg<|Pl 1<|L0<|b6 h mZ fun bj aE aI=>Pl 1<|nt<|rt<|br<|tr<|bF aE (.int .i64 4)<|?_
 have hs:ae bE 1 c b=(aP.zero,4):=by
   unfold ae bE eb fI dq
   (try simp only[i,bs,if_true,if_false,decide_true,decide_false,eq_self,true_or,or_true,or_false,false_or,if_true,if_false,ch,cg,cc,bZ,reduceIte])
   all_goals rfl
 rw[hs]
 exact cD (ud o aI q)
 have aB:=ai i
 refine sk<|bn<|tn<|sg<|Pl 1<|?_
 refine L0<|Oc<|e3 (dI (b9.old hsl o) (by omega)) fun U bm a V j=>Pl 1<|ng<|Pl 2<|L0<|Oc<|m3 (bV V) fun bp aJ d bq=>Pl 1<|L0<|bI mZ fun W bt f aL aM=>L0<|b6 aL (mG c 0 0 0 0 0 0 0 0 0 0 0 nS nS nS nS ((ah.mk b false 0).byteV) 0 0 0 0 nS) fun bu E aN=>nt<|sq<|?_
 refine go<|Pl 2<|L0<|aR E 16<|Pl 2<|cu 4 [33] 37 (((((ah.mk b false 0).byteV)==13)||(((ah.mk b false 0).byteV)==14))) (fun K X=>?_) ?_
 refine bl 33 ((((ah.mk b false 0).byteV)==13)) (fun r=>?_) (fun r=>?_)
 have aS:=al r
 exact Pl 4<|ce X true (by rw[r];rfl)
 have aS:=ap r
 exact Pl 1<|L1<|aR E 16<|Pl 2<|ce X (((ah.mk b false 0).byteV)==14) (by rw[r];rfl)
 have Y:=ud aM aN f
 refine L0<|Oc<|m2 (b7 (((((ah.mk b false 0).byteV)==13)||(((ah.mk b false 0).byteV)==14))) 8 (aj.old aJ Y)) fun bv aT Z=>?_
 refine ab aT fun x45 v y=>?_
 refine nt<|sq<|sg<|Pl 1<|?_
 have g:=nb (aj.lt V) d.size f
 have F:=aU Z (Ne.symm g) E
 refine L0<|aR F 16<|Pl 1<|nt<|?_
 have k:=ud j (u1 d (uz Y Z) im) a
 have a0:=aH o k
 refine cb ((((ah.mk b false 0).byteV)==13)) (fun p=>?_) (fun p=>?_)
 have aV:=al p
 refine sg<|Pl 2<|L0<|Oc<|mq (e9 y)<|?_
 have bw:=aj.len y
 refine Pl 1<|L0<|Oc<|m2 (b7 ((decide (((x45.l.length:Nat) : Int)≤251))) 5 y) fun bx aX aY=>?_
 refine ab aX fun x59 a1 z=>?_
 refine nt<|go<|Pl 2<|L0<|Oc<|mq (e9 z)<|?_
 have bA:=aj.len z
 refine L0<|Oc<|qY (cG (n:=((x59.l.length:Nat) : Int)) z) fun a2 a3 bC a4 bG bH aZ b0=>?_
 have bJ:=Nat.le_trans (ah.bytesR_le x59 ((x59.l.length:Nat) : Int)) (aj.len z)
 refine ab aZ fun x69 a5 G=>?_
 refine Pl 1<|?_
 have B:=u1 aY b0 im
 have C:=aU B (Ne.symm g) F
 refine L0<|bT C 14 (mG c 0 0 0 0 0 0 0 0 0 0 0 nS nS (.slice a2 ((x59.bytesR ((x59.l.length:Nat) : Int)).length) a3) nS ((ah.mk b false 0).byteV) 0 0 0 0 nS) fun bK b1 a6=>ng<|Pl 1<|?_
 refine L0<|Oc<|m2 (cn (aj.upd G a6 (aa g ay) (am (aQ C (by decide)) aG))) fun bL a7 a8=>nt<|sq<|sg<|Pl 1<|L0<|Oc<|mq (bB a7)<|?_
 have bM:=aj.len a7
 refine Pl 1<|ng<|Pl 2<|nt<|?_
 have H:=us a6 a8
 have I:=ui B H
 have a9:=ut a0 I (ac (ni (le (le o.size j.size) d.size) f) (ac (ni o.size a) aq))
 refine cb ((x69.endC.e != 0)) (fun s=>?_) (fun s=>?_)
 have J:=au s
 refine sg<|Pl 2<|?_
 refine L0<|b6 (ub (ut k I (ac (ni (le j.size d.size) f) (ac (nr a) aq))) h) mZ fun bN b2 ad=>Pl 1<|nt<|rt<|tr<|bF b2 (.int .i64 x69.endC.e)<|?_
 subst a5 a1 v
 have bO:=b9.upd' a4 (u1 (aD.mono (S':=[W,U,T]) H (ac im (ac im aq))) ad im) (am (aQ C (by decide)) (am (aj.safe G _ (by decide)) (am (aQ (ub (ud k B a) h) (by decide)) aG)))
 have hs:ae bE 1 c b=aF (aP.mk c 0 0 0 0 0 0 0 0 0 0 0 [] [] (((((ah.mk b false 0).bytesC 1).need ((((ah.mk b false 0).byteV)==13)||(((ah.mk b false 0).byteV)==14)) 8).need (decide ((((((ah.mk b false 0).bytesC 1).need ((((ah.mk b false 0).byteV)==13)||(((ah.mk b false 0).byteV)==14)) 8).l.length:Nat) : Int)≤251)) 5).bytesR ((((((ah.mk b false 0).bytesC 1).need ((((ah.mk b false 0).byteV)==13)||(((ah.mk b false 0).byteV)==14)) 8).need (decide ((((((ah.mk b false 0).bytesC 1).need ((((ah.mk b false 0).byteV)==13)||(((ah.mk b false 0).byteV)==14)) 8).l.length:Nat) : Int)≤251)) 5).l.length:Nat) : Int)) [] ((ah.mk b false 0).byteV) 0 0 0 0 []) (((((ah.mk b false 0).bytesC 1).need ((((ah.mk b false 0).byteV)==13)||(((ah.mk b false 0).byteV)==14)) 8).need (decide ((((((ah.mk b false 0).bytesC 1).need ((((ah.mk b false 0).byteV)==13)||(((ah.mk b false 0).byteV)==14)) 8).l.length:Nat) : Int)≤251)) 5).bytesC ((((((ah.mk b false 0).bytesC 1).need ((((ah.mk b false 0).byteV)==13)||(((ah.mk b false 0).byteV)==14)) 8).need (decide ((((((ah.mk b false 0).bytesC 1).need ((((ah.mk b false 0).byteV)==13)||(((ah.mk b false 0).byteV)==14)) 8).l.length:Nat) : Int)≤251)) 5).l.length:Nat) : Int)):=by
   unfold ae bE eb fI dq
   (try simp only[i,p,s,bs,if_true,if_false,decide_true,decide_false,eq_self,true_or,or_true,or_false,false_or,if_true,if_false,ch,cg,cc,bZ,reduceIte])
   all_goals rfl
 rw[hs]
 exact bz J (ud a9 ad q)
 have J:=ai s
 refine bo<|sg<|?_
 refine L0<|cl (aU a8 (Ne.symm g) b1)<|?_
 refine L0<|b6 (ub (ut k I (ac (ni (le j.size d.size) f) (ac (nr a) aq))) h) (mG c 0 0 0 0 0 0 0 0 0 0 0 nS nS (.slice a2 ((x59.bytesR ((x59.l.length:Nat) : Int)).length) a3) nS ((ah.mk b false 0).byteV) 0 0 0 0 nS) fun bP b3 af=>Pl 1<|nt<|rt<|bF b3 (.int .i64 0)<|?_
 subst a5 a1 v
 have hs:ae bE 1 c b=aF (aP.mk c 0 0 0 0 0 0 0 0 0 0 0 [] [] (((((ah.mk b false 0).bytesC 1).need ((((ah.mk b false 0).byteV)==13)||(((ah.mk b false 0).byteV)==14)) 8).need (decide ((((((ah.mk b false 0).bytesC 1).need ((((ah.mk b false 0).byteV)==13)||(((ah.mk b false 0).byteV)==14)) 8).l.length:Nat) : Int)≤251)) 5).bytesR ((((((ah.mk b false 0).bytesC 1).need ((((ah.mk b false 0).byteV)==13)||(((ah.mk b false 0).byteV)==14)) 8).need (decide ((((((ah.mk b false 0).bytesC 1).need ((((ah.mk b false 0).byteV)==13)||(((ah.mk b false 0).byteV)==14)) 8).l.length:Nat) : Int)≤251)) 5).l.length:Nat) : Int)) [] ((ah.mk b false 0).byteV) 0 0 0 0 []) (((((ah.mk b false 0).bytesC 1).need ((((ah.mk b false 0).byteV)==13)||(((ah.mk b false 0).byteV)==14)) 8).need (decide ((((((ah.mk b false 0).bytesC 1).need ((((ah.mk b false 0).byteV)==13)||(((ah.mk b false 0).byteV)==14)) 8).l.length:Nat) : Int)≤251)) 5).bytesC ((((((ah.mk b false 0).bytesC 1).need ((((ah.mk b false 0).byteV)==13)||(((ah.mk b false 0).byteV)==14)) 8).need (decide ((((((ah.mk b false 0).bytesC 1).need ((((ah.mk b false 0).byteV)==13)||(((ah.mk b false 0).byteV)==14)) 8).l.length:Nat) : Int)≤251)) 5).l.length:Nat) : Int)):=by
   unfold ae bE eb fI dq
   (try simp only[i,p,s,bs,if_true,if_false,decide_true,decide_false,eq_self,true_or,or_true,or_false,false_or,if_true,if_false,ch,cg,cc,bZ,reduceIte])
   all_goals rfl
 rw[hs]
 exact bD J ⟨_,_,_,_,_,rfl,aK.nil ..,aK.nil ..,(b9.upd' a4 (u1 (aD.mono (S':=[W,U,T]) H (ac im (ac im aq))) af im) (am (aQ C (by decide)) (am (aj.safe G _ (by decide)) (am (aQ (ub (ud k B a) h) (by decide)) aG)))),aK.nil ..,aK.nil ..,⟨(b8 (x:=c) (by omega)),(b8 (x:=0) (by omega)),(aC (x:=0) (by omega)),(aC (x:=0) (by omega)),(aC (x:=0) (by omega)),(aC (x:=0) (by omega)),(aC (x:=0) (by omega)),(aC (x:=0) (by omega)),(aC (x:=0) (by omega)),(aC (x:=0) (by omega)),(aC (x:=0) (by omega)),(aC (x:=0) (by omega)),(b8 (x:=(ah.mk b false 0).byteV) (by omega)),(b8 (x:=0) (by omega)),(b8 (x:=0) (by omega)),(b8 (x:=0) (by omega)),(b8 (x:=0) (by omega))⟩⟩ (ud a9 af q)
 have aV:=ap p
 refine sg<|Pl 1<|L0<|Oc<|m3 (bV y) fun bQ b4 L bR=>Pl 1<|?_
 have ag:=aU L (Ne.symm g) F
 refine L0<|bT ag 17 (mG c 0 0 0 0 0 0 0 0 0 0 0 nS nS nS nS ((ah.mk b false 0).byteV) x45.byteV 0 0 0 nS) fun bS M N=>ng<|Pl 2<|L0<|aR M 17<|Pl 2<|cu 4 [59] 63 (((decide (1≤x45.byteV))&&(decide (x45.byteV≤4)))) (fun K ak=>?_) ?_
 refine bl 59 ((decide (1≤x45.byteV))) (fun t=>?_) (fun t=>?_)
 have b5:=of_decide_eq_true t
 exact Pl 1<|L1<|aR M 17<|Pl 2<|ce ak (decide (x45.byteV≤4)) (by rw[t];rfl)
 have b5:=of_decide_eq_false t
 exact Pl 4<|ce ak false (by rw[t];rfl)
 refine L0<|Oc<|m2 (b7 (((decide (1≤x45.byteV))&&(decide (x45.byteV≤4)))) 6 (aj.upd b4 N (aa g ay) (am (aQ ag (by decide)) aG))) fun bU ba O=>?_
 refine ab ba fun bW an bb=>?_
 refine ng<|Pl 2<|nt<|c1<|go<|Pl 1<|?_
 refine L0<|Oc<|m3 (oC (c:=c) (me:=(ah.mk b false 0).byteV) (kd:=x45.byteV) ⟨hcode1,hcode2⟩ (b8 (by omega)) (b8 (by omega)) bb (aU O (Ne.symm g) M) g) fun bX ao bc ar=>?_
 obtain⟨bd,D,P⟩:=bc
 refine ng<|Pl 1<|L0<|Oc<|m2 (cn ao) fun bY be Q=>?_
 refine ab be fun av aw ax=>?_
 refine nt<|sq<|sg<|Pl 1<|L0<|Oc<|mq (bB ax)<|?_
 have c2:=aj.len ax
 refine Pl 1<|ng<|Pl 2<|nt<|?_
 have R:=ui L (ui N (ui O (u1 ar Q im)))
 have az:=ut a0 R (ac (ni o.size a) (ac (ni (le (le o.size j.size) d.size) f) aq))
 refine cb ((av.e != 0)) (fun u=>?_) (fun u=>?_)
 have S:=au u
 refine sg<|Pl 2<|?_
 refine L0<|b6 (ub (ut k R (ac (nr a) (ac (ni (le j.size d.size) f) aq))) h) mZ fun c3 bf bg=>Pl 1<|nt<|rt<|tr<|bF bf (.int .i64 av.e)<|?_
 subst aw an v
 have hs:ae bE 1 c b=aF ({ aP.zero with code:=c,mei:=(ah.mk b false 0).byteV,kind:=(((ah.mk b false 0).bytesC 1).need ((((ah.mk b false 0).byteV)==13)||(((ah.mk b false 0).byteV)==14)) 8).byteV,level:=(((((ah.mk b false 0).bytesC 1).need ((((ah.mk b false 0).byteV)==13)||(((ah.mk b false 0).byteV)==14)) 8).bytesC 1).need ((decide (1≤(((ah.mk b false 0).bytesC 1).need ((((ah.mk b false 0).byteV)==13)||(((ah.mk b false 0).byteV)==14)) 8).byteV))&&(decide ((((ah.mk b false 0).bytesC 1).need ((((ah.mk b false 0).byteV)==13)||(((ah.mk b false 0).byteV)==14)) 8).byteV≤4))) 6).byteV,more:=(kG (((((ah.mk b false 0).bytesC 1).need ((((ah.mk b false 0).byteV)==13)||(((ah.mk b false 0).byteV)==14)) 8).bytesC 1).need ((decide (1≤(((ah.mk b false 0).bytesC 1).need ((((ah.mk b false 0).byteV)==13)||(((ah.mk b false 0).byteV)==14)) 8).byteV))&&(decide ((((ah.mk b false 0).bytesC 1).need ((((ah.mk b false 0).byteV)==13)||(((ah.mk b false 0).byteV)==14)) 8).byteV≤4))) 6)).byteV,next:=(kB (((((ah.mk b false 0).bytesC 1).need ((((ah.mk b false 0).byteV)==13)||(((ah.mk b false 0).byteV)==14)) 8).bytesC 1).need ((decide (1≤(((ah.mk b false 0).bytesC 1).need ((((ah.mk b false 0).byteV)==13)||(((ah.mk b false 0).byteV)==14)) 8).byteV))&&(decide ((((ah.mk b false 0).bytesC 1).need ((((ah.mk b false 0).byteV)==13)||(((ah.mk b false 0).byteV)==14)) 8).byteV≤4))) 6)).byteV,objects:=(ek (((ah.mk b false 0).bytesC 1).need ((((ah.mk b false 0).byteV)==13)||(((ah.mk b false 0).byteV)==14)) 8).byteV (((((ah.mk b false 0).bytesC 1).need ((((ah.mk b false 0).byteV)==13)||(((ah.mk b false 0).byteV)==14)) 8).bytesC 1).need ((decide (1≤(((ah.mk b false 0).bytesC 1).need ((((ah.mk b false 0).byteV)==13)||(((ah.mk b false 0).byteV)==14)) 8).byteV))&&(decide ((((ah.mk b false 0).bytesC 1).need ((((ah.mk b false 0).byteV)==13)||(((ah.mk b false 0).byteV)==14)) 8).byteV≤4))) 6)).2 }) ((ek (((ah.mk b false 0).bytesC 1).need ((((ah.mk b false 0).byteV)==13)||(((ah.mk b false 0).byteV)==14)) 8).byteV (((((ah.mk b false 0).bytesC 1).need ((((ah.mk b false 0).byteV)==13)||(((ah.mk b false 0).byteV)==14)) 8).bytesC 1).need ((decide (1≤(((ah.mk b false 0).bytesC 1).need ((((ah.mk b false 0).byteV)==13)||(((ah.mk b false 0).byteV)==14)) 8).byteV))&&(decide ((((ah.mk b false 0).bytesC 1).need ((((ah.mk b false 0).byteV)==13)||(((ah.mk b false 0).byteV)==14)) 8).byteV≤4))) 6)).1):=by
   unfold ae bE eb fI dq
   (try simp only[i,p,u,bs,if_true,if_false,decide_true,decide_false,eq_self,true_or,or_true,or_false,false_or,if_true,if_false,ch,cg,cc,bZ,reduceIte])
   all_goals rfl
 rw[hs]
 exact bz S (ud az bg q)
 have S:=ai u
 refine bo<|sg<|?_
 refine L0<|cl (hz:=(by rw[D.2];exact aO)) (aU Q (Ne.symm g) D.1)<|?_
 refine L0<|b6 (hz:=(by rw[D.2];exact aO)) (hv:=P.size) (h1:=P.one) (ub (ut k R (ac (nr a) (ac (ni (le j.size d.size) f) aq))) h) (bd) fun c4 bh aA=>Pl 1<|nt<|rt<|el 22 D.2 bh (.int .i64 0)<|?_
 subst aw an v
 have hs:ae bE 1 c b=aF ({ aP.zero with code:=c,mei:=(ah.mk b false 0).byteV,kind:=(((ah.mk b false 0).bytesC 1).need ((((ah.mk b false 0).byteV)==13)||(((ah.mk b false 0).byteV)==14)) 8).byteV,level:=(((((ah.mk b false 0).bytesC 1).need ((((ah.mk b false 0).byteV)==13)||(((ah.mk b false 0).byteV)==14)) 8).bytesC 1).need ((decide (1≤(((ah.mk b false 0).bytesC 1).need ((((ah.mk b false 0).byteV)==13)||(((ah.mk b false 0).byteV)==14)) 8).byteV))&&(decide ((((ah.mk b false 0).bytesC 1).need ((((ah.mk b false 0).byteV)==13)||(((ah.mk b false 0).byteV)==14)) 8).byteV≤4))) 6).byteV,more:=(kG (((((ah.mk b false 0).bytesC 1).need ((((ah.mk b false 0).byteV)==13)||(((ah.mk b false 0).byteV)==14)) 8).bytesC 1).need ((decide (1≤(((ah.mk b false 0).bytesC 1).need ((((ah.mk b false 0).byteV)==13)||(((ah.mk b false 0).byteV)==14)) 8).byteV))&&(decide ((((ah.mk b false 0).bytesC 1).need ((((ah.mk b false 0).byteV)==13)||(((ah.mk b false 0).byteV)==14)) 8).byteV≤4))) 6)).byteV,next:=(kB (((((ah.mk b false 0).bytesC 1).need ((((ah.mk b false 0).byteV)==13)||(((ah.mk b false 0).byteV)==14)) 8).bytesC 1).need ((decide (1≤(((ah.mk b false 0).bytesC 1).need ((((ah.mk b false 0).byteV)==13)||(((ah.mk b false 0).byteV)==14)) 8).byteV))&&(decide ((((ah.mk b false 0).bytesC 1).need ((((ah.mk b false 0).byteV)==13)||(((ah.mk b false 0).byteV)==14)) 8).byteV≤4))) 6)).byteV,objects:=(ek (((ah.mk b false 0).bytesC 1).need ((((ah.mk b false 0).byteV)==13)||(((ah.mk b false 0).byteV)==14)) 8).byteV (((((ah.mk b false 0).bytesC 1).need ((((ah.mk b false 0).byteV)==13)||(((ah.mk b false 0).byteV)==14)) 8).bytesC 1).need ((decide (1≤(((ah.mk b false 0).bytesC 1).need ((((ah.mk b false 0).byteV)==13)||(((ah.mk b false 0).byteV)==14)) 8).byteV))&&(decide ((((ah.mk b false 0).bytesC 1).need ((((ah.mk b false 0).byteV)==13)||(((ah.mk b false 0).byteV)==14)) 8).byteV≤4))) 6)).2 }) ((ek (((ah.mk b false 0).bytesC 1).need ((((ah.mk b false 0).byteV)==13)||(((ah.mk b false 0).byteV)==14)) 8).byteV (((((ah.mk b false 0).bytesC 1).need ((((ah.mk b false 0).byteV)==13)||(((ah.mk b false 0).byteV)==14)) 8).bytesC 1).need ((decide (1≤(((ah.mk b false 0).bytesC 1).need ((((ah.mk b false 0).byteV)==13)||(((ah.mk b false 0).byteV)==14)) 8).byteV))&&(decide ((((ah.mk b false 0).bytesC 1).need ((((ah.mk b false 0).byteV)==13)||(((ah.mk b false 0).byteV)==14)) 8).byteV≤4))) 6)).1):=by
   unfold ae bE eb fI dq
   (try simp only[i,p,u,bs,if_true,if_false,decide_true,decide_false,eq_self,true_or,or_true,or_false,false_or,if_true,if_false,ch,cg,cc,bZ,reduceIte])
   all_goals rfl
 rw[hs]
 exact bD S (aW.upd P (us Q aA) (am (aj.safe ao _ (by decide)) (am (aQ (ub (ut k (ui L (ui N (ui O ar))) (ac (nr a) (ac (ni (le j.size d.size) f) aq))) h) (by decide)) aG))) (ud az aA q)
theorem nd{m:Md}{A:Option Addr}{cp:Nat}{b:List Int}{w:World}{dir c:Int}(hcode:B8 c)(hsl:b9 m w (.slice A b.length cp) b)(hb:b.length≤1048576)(hd:¬ (dir=0∨dir=1)) :
    Calls Tryz.prog 146 #[.int .i64 dir,.int .u8 c,.slice A b.length cp] w (dD (ae bE dir c b) w):=by
 obtain⟨hcode1,hcode2⟩:=hcode
 have hln:(b.length:Int)≤1048576:=by omega
 have e0:(dir != 0)=true:=by simp;omega
 have e1:(dir != 1)=true:=by simp;omega
 refine en 81 Tryz.func146 rfl<|sg<|L0<|bI mZ fun g h a d e=>Pl 1<|nt<|sq<|bk<|sg<|Pl 3<|sy 14 e0<|Pl 4<|nl<|?_
 refine tn<|ct e1<|sg<|Pl 1<|L0<|b6 d mZ fun i dm f=>Pl 1<|nt<|rt<|br<|tr<|bF dm (.int .i64 1)<|?_
 have hs:ae bE dir c b=(aP.zero,1):=by
   unfold ae bE eb fI dq
   (try simp only[e0,e1,bs,if_true,if_false,decide_true,decide_false,eq_self,true_or,or_true,or_false,false_or,if_true,if_false,ch,cg,cc,bZ,reduceIte,hd])
   all_goals rfl
 rw[hs]
 exact cD (ud e f a)
theorem lB{m:Md}{v:Value}{b:List Int}{w:World}{dir c:Int}(hc:B8 c)(h:b9 m w v b)(hb:b.length≤1048576) :
    Calls Tryz.prog 146 #[.int .i64 dir,.int .u8 c,v] w (dD (ae bE dir c b) w):=by
  obtain⟨A,cp,rfl,_,_⟩:=h.shape
  by_cases h0:dir=0
  · subst h0;exact mQ hc h hb
  by_cases h1:dir=1
  · subst h1;exact mT hc h hb
  exact nd hc h hb (by omega)
open Go.RowKit
def hH (C:ah) : ah:=(C.bytesC 1).need (C.byteV==6) 9
def hY (C:ah) : ah:=((hH C).wordsC 1).need ((hH C).wordV != 0) 6
def mj (C:ah) : ah:=((hY C).wordsC 1).need (decide ((hY C).wordV≤9999)) 7
def dy (C:ah) : ah:=((mj C).wordsC 1).need ((mj C).wordV != 0) 5
def aL (C:ah) : dl:=⟨(hH C).wordV,(hY C).wordV,(mj C).wordV,[]⟩
def eg (s:Int)(C:ah) : Int:=s+(2+2*(mj C).wordV)
def eC (s:Int)(C:ah) : ah:=(dy C).need (decide (eg s C≤245)) 5
def gL (C:ah) : ah:=(C.bytesC 1).need ((C.byteV%2==1&&decide (3≤C.byteV))&&decide (C.byteV≤((C.bytesC 1).l.length:Int))) 5
def gJ (C:ah) : ah:=((gL C).bytesC 1).need ((gL C).byteV==6) 9
def eK (C:ah) : ah:=(gJ C).wordsC (Int.tdiv (C.byteV-1) 2)
def eu (C:ah) : dl:=⟨0,0,0,(gJ C).wordsR (Int.tdiv (C.byteV-1) 2)⟩
def mu (C:ah) : ah:=(dy C).need (decide (2*(mj C).wordV≤((dy C).l.length:Int))) 5
def ib (C:ah) : ah:=(mu C).wordsC (mj C).wordV
def gV (C:ah) : dl:=⟨(hH C).wordV,(hY C).wordV,(mj C).wordV,(mu C).wordsR (mj C).wordV⟩
def uZ (g:Nat)(C':ah)(r:dl)(w:World)(e:Ending)(w':World) : Prop:=∃ A c,e = .returned (.agg #[.int .u16 r.file,.int .u16 r.record,.int .u16 r.count,.slice A r.words.length c])∧dN true w' (.slice A r.words.length c) r.words∧dm r.file∧dm r.record∧dm r.count∧aj w' g C'∧aD [g] w w'
theorem mJ{g:Nat}{C:ah}{w:World}(hC:aj w g C) : Calls Tryz.prog 251 #[.pointer (some ⟨g,0,none⟩)] w (uZ g (dy C) (aL C) w):=by
 have hlen:=hC.len
 refine en 34 Tryz.func251 rfl<|sg<|L0<|bI #[.int .u16 0,.int .u16 0,.int .u16 0,.slice none 0 0] fun Z a0 c B b=>ng<|Pl 2<|?_
 refine L0<|Oc<|m3 (bV (aj.old hC b)) fun a1 D d a2=>Pl 1<|L0<|Oc<|m2 (b7 ((C.byteV==6)) 9 D) fun a3 E e=>?_
 refine ab E fun fy F G=>?_
 refine ng<|L0<|bI #[.int .u16 0,.int .u16 0,.int .u16 0,.slice none 0 0] fun a4 a5 f H h=>ng<|Pl 1<|?_
 refine L0<|Oc<|m3 (cj (aj.old G h)) fun a6 I i a7=>Pl 1<|?_
 have a:=nb (aj.lt hC) (le (le b.size d.size) e.size) f
 have j:=aU i (Ne.symm a) H
 refine L0<|bT j 0 #[.int .u16 fy.wordV,.int .u16 0,.int .u16 0,.slice none 0 0] fun a8 k l=>ng<|Pl 2<|L0<|aR k 0<|Pl 1<|?_
 refine L0<|Oc<|m2 (b7 ((fy.wordV != 0)) 6 (aj.upd I l (aa a ay) (am (aQ j (by decide)) aG))) fun a9 J K=>?_
 refine ab J fun x45 L M=>?_
 refine ng<|Pl 1<|L0<|Oc<|m3 (cj M) fun ac N O ad=>Pl 1<|?_
 have m:=u1 K O im
 have n:=aU m (Ne.symm a) k
 refine L0<|bT n 1 #[.int .u16 fy.wordV,.int .u16 x45.wordV,.int .u16 0,.slice none 0 0] fun ae o p=>ng<|Pl 2<|L0<|aR o 1<|Pl 1<|?_
 refine L0<|Oc<|m2 (b7 ((decide (x45.wordV≤9999))) 7 (aj.upd N p (aa a ay) (am (aQ n (by decide)) aG))) fun af P Q=>?_
 refine ab P fun x61 R S=>?_
 refine ng<|Pl 1<|L0<|Oc<|m3 (cj S) fun ag T U ai=>Pl 1<|?_
 have q:=u1 Q U im
 have r:=aU q (Ne.symm a) o
 refine L0<|bT r 2 #[.int .u16 fy.wordV,.int .u16 x45.wordV,.int .u16 x61.wordV,.slice none 0 0] fun ak s t=>ng<|Pl 2<|L0<|aR s 2<|Pl 1<|?_
 refine L0<|Oc<|m2 (b7 ((x61.wordV != 0)) 5 (aj.upd T t (aa a ay) (am (aQ r (by decide)) aG))) fun al V u=>?_
 refine ab V fun x77 W X=>?_
 refine ng<|?_
 refine L0<|cl (aU u (Ne.symm a) s)<|?_
 have v:=u1 d (u1 e (ud h (ui i (ui l (ui m (ui p (ui q (us t u)))))) f) im) im
 have y:=nb (aj.lt hC) lr c
 have z:=aU v (Ne.symm y) B
 refine L0<|b6 z #[.int .u16 fy.wordV,.int .u16 x45.wordV,.int .u16 x61.wordV,.slice none 0 0] fun an Y A=>nt<|rt<|vh Y<|?_
 subst W R L F
 exact⟨_,_,rfl,aK.nil ..,aC (x:=((C.bytesC 1).need (C.byteV==6) 9).wordV) (by omega),aC (x:=((((C.bytesC 1).need (C.byteV==6) 9).wordsC 1).need (((C.bytesC 1).need (C.byteV==6) 9).wordV != 0) 6).wordV) (by omega),aC (x:=((((((C.bytesC 1).need (C.byteV==6) 9).wordsC 1).need (((C.bytesC 1).need (C.byteV==6) 9).wordV != 0) 6).wordsC 1).need (decide (((((C.bytesC 1).need (C.byteV==6) 9).wordsC 1).need (((C.bytesC 1).need (C.byteV==6) 9).wordV != 0) 6).wordV≤9999)) 7).wordV) (by omega),(aj.upd X A (aa y ay) (am (aQ z (by decide)) aG)),(ue b (us v A) c)⟩
theorem qx{g:Nat}{C:ah}{w:World}(hC:aj w g C) : Calls Tryz.prog 254 #[.pointer (some ⟨g,0,none⟩)] w (uZ g (eK C) (eu C) w):=by
 have hlen:=hC.len
 refine en 33 Tryz.func254 rfl<|sg<|L0<|bI #[.int .u16 0,.int .u16 0,.int .u16 0,.slice none 0 0] fun R S f i j=>ng<|Pl 1<|?_
 refine L0<|Oc<|m3 (bV (aj.old hC j)) fun T c k U=>L0<|Oi C.byteV<|Pl 1<|ng<|Pl 2<|L0<|Oe (.int .i64 (Int.tmod C.byteV 2)) (.int .i64 (C.byteV%2)) (congrArg (Value.int .i64) (Int.tmod_eq_emod_of_nonneg (by omega)))<|Pl 2<|cu 3 [11] 14 ((((C.byteV%2)==1)&&(decide (3≤C.byteV)))) (fun K m=>?_) ?_
 refine bl 11 (((C.byteV%2)==1)) (fun a=>?_) (fun a=>?_)
 have y:=al a
 exact Pl 3<|ce m (decide (3≤C.byteV)) (by rw[a];rfl)
 have y:=ap a
 exact Pl 3<|ce m false (by rw[a];rfl)
 refine Pl 1<|cu 5 [15] 20 (((((C.byteV%2)==1)&&(decide (3≤C.byteV)))&&(decide (C.byteV≤(((C.bytesC 1).l.length:Nat) : Int))))) (fun K o=>?_) ?_
 refine bl 15 ((((C.byteV%2)==1)&&(decide (3≤C.byteV)))) (fun b=>?_) (fun b=>?_)
 have z:=(aS b).1
 have A:=(aS b).2
 have V:=al z
 have W:=of_decide_eq_true A
 refine Pl 2<|L1<|Oc<|mq (e9 c)<|?_
 have X:=aj.len c
 exact Pl 2<|ce o (decide (C.byteV≤(((C.bytesC 1).l.length:Nat) : Int))) (by rw[b];rfl)
 exact Pl 5<|ce o false (by rw[b];rfl)
 refine L0<|Oc<|m2 (b7 (((((C.byteV%2)==1)&&(decide (3≤C.byteV)))&&(decide (C.byteV≤(((C.bytesC 1).l.length:Nat) : Int))))) 5 c) fun Y B p=>?_
 refine ab B fun x28 D E=>?_
 refine ng<|Pl 2<|L0<|Oc<|m3 (bV E) fun Z F q a0=>Pl 1<|L0<|Oc<|m2 (b7 ((x28.byteV==6)) 9 F) fun a1 G r=>?_
 refine ab G fun x38 H I=>?_
 refine ng<|Pl 2<|L0<|Oi (C.byteV-1)<|L0<|Oe (.int .i64 (IntKind.i64.wrap (Int.tdiv (C.byteV-1) 2))) (.int .i64 (Int.tdiv (C.byteV-1) 2)) (congrArg (Value.int .i64) (jD (by omega) (by omega)))<|L0<|Oc<|lS (dR (n:=(Int.tdiv (C.byteV-1) 2)) I) fun J L a2 s a3 a4 M N=>?_
 refine ab M fun x48 O P=>?_
 refine Pl 1<|?_
 have t:=u1 k (u1 p (u1 q (u1 r N im) im) im) im
 have u:=nb (aj.lt hC) lr f
 have v:=aU t (Ne.symm u) i
 refine L0<|b6 v #[.int .u16 0,.int .u16 0,.int .u16 0,.slice J ((x38.wordsR (Int.tdiv (C.byteV-1) 2)).length) L] fun a5 Q d=>nt<|rt<|vh Q<|?_
 subst O H D
 exact⟨_,_,rfl,((ax s d (fun x hx=>(aa (fun e=>(aA (ak i) (le (le (le k.size p.size) q.size) r.size) s) (e▸hx)) ay)) (fun _ _ h=>h))).rd,aC (x:=0) (by omega),aC (x:=0) (by omega),aC (x:=0) (by omega),(aj.upd P d (aa u ay) (am (aQ v (by decide)) aG)),(ue j (us t d) f)⟩
theorem tS{g:Nat}{C:ah}{w:World}(hC:aj w g C) : Calls Tryz.prog 256 #[.pointer (some ⟨g,0,none⟩)] w (uZ g (ib C) (gV C) w):=by
 have hlen:=hC.len
 refine en 22 Tryz.func256 rfl<|sg<|L0<|bI #[.int .u16 0,.int .u16 0,.int .u16 0,.slice none 0 0] fun X Y v f i=>ng<|Pl 1<|?_
 refine L0<|Oc<|vk (mJ (aj.old hC i)) fun I J Z a0 K L M N c=>?_
 obtain⟨a1,a2⟩:=K
 obtain⟨a3,a4⟩:=L
 obtain⟨a5,a6⟩:=M
 refine L0<|bI #[.int .u16 0,.int .u16 0,.int .u16 0,.slice none 0 0] fun O a7 j y z=>L0<|b6 y #[.int .u16 ((aL C).file),.int .u16 ((aL C).record),.int .u16 ((aL C).count),.slice I ((aL C).words.length) J] fun a8 P k=>nt<|sq<|Rg 9 (fun w'=>w'.cell? ⟨O,2,none⟩=some (.int .u16 ((aL C).count))) fun a9 d=>?_
 have m:=ub d P
 refine bh (ag m rfl) fun a=>Rt 0 a<|Rt 1 a<|Rl 2 a (fun _ hs=>hs)<|Rr 3 a (.int .i64 ((aL C).count)) (fun _ _=>cJ (.int .i64 (IntKind.i64.wrap ((aL C).count))) (by kernel_rfl) (congrArg (Value.int .i64) (i64_in (by omega))))<|Rr 4 a (.int .i64 (2*((aL C).count))) (fun _ _=>cJ (.int .i64 (IntKind.i64.wrap (2*((aL C).count)))) (by kernel_rfl) (congrArg (Value.int .i64) (IntWalk.i64_in _ (by omega))))<|Rt 5 a<|?_
 have o:=ud z (aH k d) j
 have p:=aj.old N o
 refine R0 6 rfl<|Oc<|mq (e9 p)<|?_
 have ac:=aj.len p
 refine bh (ag m rfl) fun Q=>Rt 7 Q<|R0 8 rfl<|Oc<|m2 (b7 ((decide ((2*((aL C).count))≤(((dy C).l.length:Nat) : Int)))) 5 p) fun ad R b=>?_
 refine ab R fun x54 S T=>?_
 have q:=nb (aj.lt hC) (le i.size c.size) j
 have r:=aU b (Ne.symm q) m
 refine bh (ag r rfl) fun ae=>re<|tn<|sg<|Pl 2<|L0<|aR r 2<|L0<|Oi ((aL C).count)<|L0<|Oc<|lS (dR (n:=(aL C).count) T) fun A B af s ai al U t=>Pl 1<|?_
 have D:=aU t (Ne.symm q) r
 refine L0<|bT D 3 #[.int .u16 ((aL C).file),.int .u16 ((aL C).record),.int .u16 ((aL C).count),.slice A ((x54.wordsR ((aL C).count)).length) B] fun an V E=>ng<|L0<|cl V<|?_
 have F:=u1 c (ue o (ui b (us t E)) j) im
 have u:=nb (aj.lt hC) lr v
 refine L0<|b6 (aU F (Ne.symm u) f) #[.int .u16 ((aL C).file),.int .u16 ((aL C).record),.int .u16 ((aL C).count),.slice A ((x54.wordsR ((aL C).count)).length) B] fun ao W G=>nt<|rt<|vh W<|?_
 subst S
 have H:=us E G
 exact⟨_,_,rfl,((ax s H (fun x hx=>(aa (fun e=>(aA (ak y) (le (le k.size d.size) b.size) s) (e▸hx)) (aa (fun e=>(aA (ak f) (le (le (le (le c.size z.size) k.size) d.size) b.size) s) (e▸hx)) ay))) (fun _ _ h=>h))).rd,aC (x:=(aL C).file) (by omega),aC (x:=(aL C).record) (by omega),aC (x:=(aL C).count) (by omega),(aj.upd U H (aa q (aa u ay)) (am (aQ D (by decide)) (am (aQ (aU (u1 c (uz o (u1 b t im)) im) (Ne.symm u) f) (by decide)) aG))),(ue i (us F G) v)⟩
theorem oR{n:Int}{w:World}(hn:0≤n∧n<256) : Calls Tryz.prog 252 #[.int .i64 n] w (cL (.bool ((decide (7≤n)&&decide (n≤245))&&n%7==0)) w):=by
 refine en 14 Tryz.func252 rfl<|sg<|Pl 1<|ng<|Pl 3<|cu 3 [5] 8 (((decide (7≤n))&&(decide (n≤245)))) (fun K c=>?_) ?_
 refine bl 5 ((decide (7≤n))) (fun a=>?_) (fun a=>?_)
 have e:=of_decide_eq_true a
 exact Pl 3<|ce c (decide (n≤245)) (by rw[a];rfl)
 have e:=of_decide_eq_false a
 exact Pl 3<|ce c false (by rw[a];rfl)
 refine Pl 1<|cu 4 [9] 13 ((((decide (7≤n))&&(decide (n≤245)))&&((n%7)==0))) (fun K d=>?_) ?_
 refine bl 9 (((decide (7≤n))&&(decide (n≤245)))) (fun b=>?_) (fun b=>?_)
 have f:=(aS b).1
 have g:=(aS b).2
 have h:=of_decide_eq_true f
 have i:=of_decide_eq_true g
 exact Pl 1<|L1<|Oe (.int .i64 (Int.tmod n 7)) (.int .i64 (n%7)) (congrArg (Value.int .i64) (Int.tmod_eq_emod_of_nonneg (by omega)))<|Pl 2<|ce d ((n%7)==0) (by rw[b];rfl)
 exact Pl 4<|ce d false (by rw[b];rfl)
 refine Pl 1<|nt<|rt<|rr (.bool (((decide (7≤n))&&(decide (n≤245)))&&((n%7)==0)))<|?_
 exact⟨rfl,(aD.refl [] _)⟩
theorem oz{n:Int}{w:World}(hn:0≤n∧n<256) : Calls Tryz.prog 253 #[.int .i64 n] w (cL (.bool (decide (4≤n)&&decide (n≤245))) w):=by
 refine en 9 Tryz.func253 rfl<|sg<|Pl 1<|ng<|Pl 3<|cu 3 [5] 8 (((decide (4≤n))&&(decide (n≤245)))) (fun K b=>?_) ?_
 refine bl 5 ((decide (4≤n))) (fun a=>?_) (fun a=>?_)
 have c:=of_decide_eq_true a
 exact Pl 3<|ce b (decide (n≤245)) (by rw[a];rfl)
 have c:=of_decide_eq_false a
 exact Pl 3<|ce b false (by rw[a];rfl)
 refine Pl 1<|nt<|rt<|rr (.bool ((decide (4≤n))&&(decide (n≤245))))<|?_
 exact⟨rfl,(aD.refl [] _)⟩
theorem og{n:Int}{w:World}(hn:0≤n∧n<256) : Calls Tryz.prog 255 #[.int .i64 n] w (cL (.bool (decide (9≤n)&&decide (n≤251))) w):=by
 refine en 9 Tryz.func255 rfl<|sg<|Pl 1<|ng<|Pl 3<|cu 3 [5] 8 (((decide (9≤n))&&(decide (n≤251)))) (fun K b=>?_) ?_
 refine bl 5 ((decide (9≤n))) (fun a=>?_) (fun a=>?_)
 have c:=of_decide_eq_true a
 exact Pl 3<|ce b (decide (n≤251)) (by rw[a];rfl)
 have c:=of_decide_eq_false a
 exact Pl 3<|ce b false (by rw[a];rfl)
 refine Pl 1<|nt<|rt<|rr (.bool ((decide (9≤n))&&(decide (n≤251))))<|?_
 exact⟨rfl,(aD.refl [] _)⟩
theorem gT{e:Int}{w:World}:Calls Tryz.prog 211 #[.int .i64 e] w (cL (.int .i64 (if e==2 then 5 else e)) w):=by
 refine en 6 Tryz.func211 rfl<|sg<|Pl 1<|nt<|sq<|sg<|Pl 2<|nt<|cb ((e==2)) (fun a=>?_) (fun a=>?_)
 have b:=al a
 refine sg<|Pl 1<|nt<|rt<|tr<|rr (.int .i64 5)<|?_
 have hs:(if e==2 then (5:Int) else e)=5:=by simp only[a,bs,if_true,if_false,decide_true,decide_false,reduceIte]
 rw[hs]
 exact⟨rfl,(aD.refl [] _)⟩
 have b:=ap a
 refine bo<|sg<|Pl 2<|nt<|rt<|rr (.int .i64 e)<|?_
 have hs:(if e==2 then (5:Int) else e)=e:=by simp only[a,bs,if_true,if_false,decide_true,decide_false,reduceIte]
 rw[hs]
 exact⟨rfl,(aD.refl [] _)⟩
open Go.RowKit
structure WF (F:Fence) (n:Nat) (P:Program) (ops:Array Oper) (Q:Exit→Act→World→Prop) (l:List Oper) (a:Act) (w:World) : Prop where
  out:wpListIn F n P ops Q l a w
def eF (F:Fence) : Prop:=F=Fence.wide∨∃ l,F=Fence.wide.inRound l
theorem jA:eF Fence.wide:=.inl rfl
theorem iO(l:Nat) : eF (Fence.wide.inRound l):=.inr ⟨l,rfl⟩
theorem eF.fn{F:Fence}(h:eF F)(f:FuncId) : F.fn f:=by
  rcases h with rfl|⟨l,rfl⟩<;>trivial
theorem eF.depth{F:Fence}(h:eF F) : F.depth=none:=by
  rcases h with rfl|⟨l,rfl⟩<;>rfl
section
variable {F:Fence}{n:Nat}{P:Program}{Q:Exit→Act→World→Prop}{a:Act}{w:World}{K:Act→World→Prop}{ops:Array Oper}{rest:List Oper}{o:Oper}{N:Option Tmp}
theorem uU{f:FuncId}{args:Array Value}{R:Ending→World→Prop}(hF:eF F)(h:Calls P f args w R) : CallsIn F n P f args w R:=by
  rcases hF with rfl|⟨l,rfl⟩
  · exact callsIn_wide.2 h
  · exact CallsIn.inRound l (callsIn_wide.2 h)
theorem w8{row:String}{args:Array Value}{R:Value→World→Prop}(hF:eF F)(h:Rows P row args w R) : RowsIn F n P row args w R:=by
  have h0:RowsIn Fence.wide n P row args w R:=fun c cs _=>let ⟨v,w',r,s⟩:=h c cs; ⟨v,w',r,stepsIn_wide.2 s⟩
  rcases hF with rfl|⟨l,rfl⟩
  · exact h0
  · exact h0
def fl:Op→Bool
  | .defer _=>false
  | _=>true
theorem xM(hF:eF F)(hd:fl o.op=true)(h:o.wp P a w K Q) : o.wpIn F n P a w K Q:=by
  refine⟨fun f _=>hF.fn f,?_⟩
  rw[Oper.semAt_eq _ _ _ (fun c hc=>by rw[hc] at hd;cases hd)]
  unfold Oper.wp at h
  have hdep:∀ {p:Prop},F.depth.isSome=true→p:=fun h=>by rw[hF.depth] at h;cases h
  generalize (execOp a.eval o).run P w=r at h ⊢
  cases r with
  | ok x w' =>
    cases x<;>simp only[Oper.upon,Oper.uponIn] at h ⊢
    case value u=>exact h
    case skip=>exact h
    case defer d=>exact h
    case enter f args=>exact⟨hdep,uU hF h⟩
    case row row args=>exact⟨hdep,w8 hF h⟩
  | halt x w' =>
    cases x<;>simp only[Oper.upon,Oper.uponIn] at h ⊢
    case panic u=>exact h
theorem xF{id:Nat}{l:List Oper}(n:Nat)(h:WF Fence.wide n P l.toArray Q l a w) : (Code.region id l.toArray false).wp P Q a w:=wpIn_wide.1 (wpIn_region_lit h.out)
theorem xi{id:Nat}{l:List Oper}(h:WF F n P l.toArray Q l a w) : (Code.region id l.toArray false).wpIn F n P Q a w:=wpIn_region_lit h.out
theorem wZ(h:Q .normal a w) : WF F n P ops Q [] a w:=⟨h⟩
theorem xy(hF:eF F)(hd:fl o.op=true)(hw:Region.wanted o (yielded ops a.tmps)=true)(h:OW P o a w (WF F n P ops Q rest) Q) : WF F n P ops Q (o :: rest) a w:=by
  refine⟨?_⟩
  unfold wpListIn
  rw[if_pos hw]
  exact xM hF hd (ip h fun _ _ h=>h.out)
theorem wD(hF:eF F)(hw:Region.wanted o (yielded ops a.tmps)=false)(hN:o.dst=N)(h:WF F n P ops Q rest (a.put N undef) w) : WF F n P ops Q (o :: rest) a w:=by
  subst hN
  refine⟨?_⟩
  unfold wpListIn
  rw[if_neg (by simp[hw])]
  exact⟨fun f _=>hF.fn f,h.out⟩
theorem uD{x:Operand}{opds:Array Operand}{ts:Array TypeId}{l:Nat}{r:Loop}(args:Array Value)(hw:Region.wanted o (yielded ops a.tmps)=true)(hN:o.dst=N)(hop:o.op = .call { callee:=.value x,args:=opds,argTypes:=ts })
    (hx:a.eval x = .func (.yield l) #[] #[]) (hargs:opds.map a.eval=args) (hl:w.heap[l]? = some (.loop r)) (hs:args.size=r.params.size)
    (h:RoundIn Fence.wide (n-1) P l r.fn ((r.params.zip args).foldl (fun tmps (t,a)=>tmps.setIfInBounds t a) r.tmps) r.assign r.body w (fun e w'=>∃ v,e = .returned v∧WF Fence.wide n P ops Q rest (a.put N v) w')) : WF Fence.wide n P ops Q (o :: rest) a w:=by
  subst hN
  refine⟨?_⟩
  unfold wpListIn
  rw[if_pos hw]
  refine⟨fun f _=>trivial,?_⟩
  have hrun:(o.semAt Fence.wide.round a.eval).run P w = .ok (.round l r.fn ((r.params.zip args).foldl (fun tmps (t,a)=>tmps.setIfInBounds t a) r.tmps) r.assign r.body) w:=by
    show(execOp a.eval o).run P w=_
    unfold execOp
    simp only[hop,resolve,hx,Deferred.ofValue,Sem.run_bind,Sem.run_pure,Result.andThen_ok,invoke,hargs]
    have:=run_yield (P:=P) (args:=args) hl hs
    simpa using this
  rw[hrun,Oper.uponIn_round]
  refine⟨(by simp[Fence.wide]),h.mono fun e w' hh=>?_⟩
  obtain⟨v,rfl,h2⟩:=hh
  exact h2.out
end
theorem th{P:Program}{n:Nat}{ops:Array Oper}{Q:Exit→Act→World→Prop}{rest:List Oper}{o:Oper}{a:Act}{w:World}{N:Option Tmp}{x:Operand}{opds:Array Operand}{ts:Array TypeId}{l:Nat}{r:Loop}(v:Value)(p:Tmp)(hw:Region.wanted o (yielded ops a.tmps)=true)(hN:o.dst=N)(hop:o.op = .call { callee:=.value x,args:=opds,argTypes:=ts })
    (hx:a.eval x = .func (.yield l) #[] #[]) (hargs:opds.map a.eval = #[v]) (hl:w.heap[l]? = some (.loop r)) (hp:r.params = #[p])
    (h:RoundIn Fence.wide (n-1) P l r.fn (r.tmps.setIfInBounds p v) r.assign r.body w (fun e w'=>∃ u,e = .returned u∧WF Fence.wide n P ops Q rest (a.put N u) w')) : WF Fence.wide n P ops Q (o :: rest) a w:=by
  refine uD #[v] hw hN hop hx hargs hl (by rw[hp];rfl) ?_
  have:((r.params.zip #[v]).foldl (fun tmps (t,a)=>tmps.setIfInBounds t a) r.tmps)=r.tmps.setIfInBounds p v:=by rw[hp];simp
  rw[this]
  exact h
theorem fZ{w:World}{l:Nat}(o:Go.Obj) : aD [l] w (w.putObj l o) :=
  ⟨rfl,rfl,rfl,by simp[World.putObj],fun k hk hn=>World.putObj_heap_other (by simpa using hn)⟩
theorem ji{w:World}{l:Nat}{o:Go.Obj}(o':Go.Obj)(h:w.heap[l]? = some o) : (w.putObj l o').heap[l]? = some o':=World.putObj_heap_same (ak h)
def i9:Go.Obj→Bool
  | .cells ..=>false
  | _=>true
theorem aK.updl{α:Type}{m:Md}{e:TypeId}{sz:Nat}{R:World→α→List Value→Prop}{w w':World}{v:Value}{xs:List α}{l:Nat}{o:Go.Obj}
    (h:aK m e sz R w v xs) (hu:aD [l] w w') (hl:w.heap[l]? = some o) (ho:i9 o=true) (hR:∀ x cs,R w x cs→R w' x cs) : aK m e sz R w' v xs:=by
  obtain⟨A,c,rfl,h1,h2,h0,h3⟩:=h
  refine⟨A,c,rfl,h1,h2,h0,fun hp=>?_⟩
  obtain⟨b,off,cells,t,fr,rfl,hb,ht,hx⟩:=h3 hp
  refine⟨b,off,cells,t,fr,rfl,?_,ht,fun j x hj=>?_⟩
  · refine hu.blk (fun hbs=>?_) hb
    simp at hbs
    subst hbs
    rw[hl] at hb
    injection hb with hb
    subst hb
    cases ho
  · obtain⟨cs,hl,hr,hc⟩:=hx j x hj
    exact⟨cs,hl,hR _ _ hr,hc⟩
theorem b9.updl{m:Md}{w w':World}{v:Value}{xs:List Int}{l:Nat}{o:Go.Obj}(h:b9 m w v xs)(hu:aD [l] w w')(hl:w.heap[l]? = some o)(ho:i9 o=true) : b9 m w' v xs:=aK.updl h hu hl ho fun _ _ h=>h
theorem dN.updl{m:Md}{w w':World}{v:Value}{xs:List Int}{l:Nat}{o:Go.Obj}(h:dN m w v xs)(hu:aD [l] w w')(hl:w.heap[l]? = some o)(ho:i9 o=true) : dN m w' v xs:=aK.updl h hu hl ho fun _ _ h=>h
theorem bq.updl{m:Md}{w w':World}{l:Nat}{o:Go.Obj}(hu:aD [l] w w')(hl:w.heap[l]? = some o)(ho:i9 o=true)(r:dl)(cs:List Value)(h:bq m w r cs) : bq m w' r cs:=by
  obtain⟨v,h1,h2,h3⟩:=h
  exact⟨v,h1,dN.updl h2 hu hl ho,h3⟩
theorem aj.updl{w w':World}{g:Nat}{c:ah}{l:Nat}{o:Go.Obj}(h:aj w g c)(hu:aD [l] w w')(hg:g∉[l])(hl:w.heap[l]? = some o)(ho:i9 o=true) : aj w' g c:=by
  obtain⟨v,hb,hr,hn⟩:=h
  exact⟨v,hu.blk hg hb,hr.updl hu hl ho,hn⟩
theorem rj{n:Nat}{P:Program}{l:Nat}{f:FuncId}{tmps:Array Value}{assign body:Code}{w:World}{r:Loop}{R:Ending→World→Prop}
    (h:assign.wpIn (Fence.wide.inRound l) n P (Exit.then (fun a₁ w₁=>w₁.heap[l]? = some (.loop r)∧r.state = .ready∧∀ w₂,w₂.heap[l]? = some (.loop { r with state:=.busy })→aD [l] w₁ w₂ →
      body.wpIn (Fence.wide.inRound l) n P (Exit.then (fun _ w₃=>∃ r',w₃.heap[l]? = some (.loop r')∧∀ w₄,w₄.heap[l]? = some (.loop { r' with state:=.ready,pending:=none })→aD [l] w₃ w₄→R (.returned (.bool true)) w₄) (fun _ _ _=>False)) a₁ w₂) (fun _ _ _=>False)) { tmps:=tmps,defers:=[] } w) :
    RoundIn Fence.wide n P l f tmps assign body w R:=by
  refine roundIn_of_wpIn trivial (Code.wpIn_mono (fun e a w q=>?_) h)
  cases e with
  | normal =>
    obtain⟨h1,h2,h3⟩:=q
    refine⟨_,run_beginRound h1 h2,Code.wpIn_mono (fun e a w q=>?_) (h3 _ (ji _ h1) (fZ _))⟩
    cases e with
    | normal =>
      obtain⟨r',h4,h5⟩:=q
      exact⟨_,_,run_endRound none h4,h5 _ (ji _ h4) (fZ _)⟩
    | _=>exact q.elim
  | _=>exact q.elim
theorem jc{n:Nat}{P:Program}{l:Nat}{f:FuncId}{tmps:Array Value}{assign body:Code}{w:World}{r:Loop}{R:Ending→World→Prop}
    (hl:w.heap[l]? = some (.loop r))
    (h:assign.wpIn (Fence.wide.inRound l) n P (Exit.then (fun a₁ w₁=>w₁.heap[l]? = some (.loop r)∧r.state = .ready∧∀ w₂,w₂.heap[l]? = some (.loop { r with state:=.busy })→aD [l] w₁ w₂ →
      body.wpIn (Fence.wide.inRound l) n P (Exit.then (fun _ w₃=>∃ r',w₃.heap[l]? = some (.loop r')∧∀ w₄,w₄.heap[l]? = some (.loop { r' with state:=.ready,pending:=none })→aD [l] w₃ w₄→R (.returned (.bool true)) w₄) (fun _ _ _=>False)) a₁ w₂) (fun _ _ _=>False)) { tmps:=tmps,defers:=[] } w) :
    RoundIn Fence.wide n P l f tmps assign body w R:=rj h
theorem sx{P:Program}{Q:Exit→Act→World→Prop}{a:Act}{w:World}{g:Operand}{ps:Array Tmp}{assign body:Code}{f:FuncId}{fn:Func}(cap:Array Value)
    (hx : a.eval g = .func (.func f) #[] cap) (hf : P.funcs[f]? = some fn) (hname : (fn.name == "runtime.NumGoroutine") = false) (hb : fn.body.isSome = true)
    (h:∀ fn0 D l w₂,w.heap.size≤D→w.heap.size≤l→D≠l→w₂.heap[D]? = some (.deferred (some []))→w₂.heap[l]? = some (.loop { state:=.ready,pending:=none,fn:=fn0,tmps:=a.tmps,params:=ps,assign:=assign,body:=body,defers:=D })→aD [] w w₂ →
      Calls P f (#[.func (.yield l) #[] #[]]++cap) w₂ (fun e w₃=>∃ v r',e = .returned v∧w₃.heap[l]? = some (.loop r')∧r'.state≠.busy∧r'.pending=none∧∀ w₄,aD [l] w₃ w₄→Q .normal { a with defers:={ target:=.collected D,args:=#[] } :: a.defers } w₄)) :
    (Code.rangeFunc g ps assign body).wp P Q a w:=by
  refine(wpIn_wide (n:=9)).1 (wpIn_rangeFunc fun fn0 _=>?_)
  have h1 : fn.name ≠ "runtime.NumGoroutine" := by simpa using hname
  obtain⟨cd,hcd⟩:=Option.isSome_iff_exists.1 hb
  refine⟨w.heap.size+1,[{ target:=.collected w.heap.size,args:=#[] }],((w.alloc (.deferred (some []))).alloc (.loop { state:=.ready,pending:=none,fn:=fn0,tmps:=a.tmps,params:=ps,assign:=assign,body:=body,defers:=w.heap.size })),
    { target:=.fn (.func f) cap,args:=#[]++#[.func (.yield (w.heap.size+1)) #[] #[]] },((w.alloc (.deferred (some []))).alloc (.loop { state:=.ready,pending:=none,fn:=fn0,tmps:=a.tmps,params:=ps,assign:=assign,body:=body,defers:=w.heap.size })),
    f,#[.func (.yield (w.heap.size+1)) #[] #[]]++cap,((w.alloc (.deferred (some []))).alloc (.loop { state:=.ready,pending:=none,fn:=fn0,tmps:=a.tmps,params:=ps,assign:=assign,body:=body,defers:=w.heap.size })),run_enterLoop_outer fn0 a.tmps ps assign body,?_,fun _ _=>trivial,?_,by simp[Fence.wide],?_⟩
  · unfold resolve
    simp only[rangeCall,hx,Deferred.ofValue,Sem.run_pure,List.map_toArray,List.map_cons,List.map_nil]
    rfl
  · simp[invoke,callFunc,hf,h1,hcd]
  · have hD:((w.alloc (.deferred (some []))).alloc (.loop { state:=.ready,pending:=none,fn:=fn0,tmps:=a.tmps,params:=ps,assign:=assign,body:=body,defers:=w.heap.size })).heap[w.heap.size]? = some (.deferred (some [])):=tF (dP w _) _
    have hl:((w.alloc (.deferred (some []))).alloc (.loop { state:=.ready,pending:=none,fn:=fn0,tmps:=a.tmps,params:=ps,assign:=assign,body:=body,defers:=w.heap.size })).heap[w.heap.size+1]? = some (.loop { state:=.ready,pending:=none,fn:=fn0,tmps:=a.tmps,params:=ps,assign:=assign,body:=body,defers:=w.heap.size }):=by
      have:=dP (w.alloc (.deferred (some []))) (.loop { state:=.ready,pending:=none,fn:=fn0,tmps:=a.tmps,params:=ps,assign:=assign,body:=body,defers:=w.heap.size })
      simpa using this
    refine callsIn_wide.2 ((h fn0 w.heap.size (w.heap.size+1) _ (Nat.le_refl _) (by omega) (by omega) hD hl (((aD.refl [] w).alloc _).alloc _)).mono ?_)
    rintro e w₃ ⟨v,r',rfl,h3,h4,h5,h6⟩
    refine⟨_,_,run_endLoop h3 h4,?_⟩
    rw[h5]
    exact h6 _ (fZ _)
theorem mB{P:Program}{f:FuncId}{fn:Func}{c:Code}{args:Array Value}{w:World}{R:Ending→World→Prop}(hf:P.funcs[f]? = some fn)(hb:fn.body=some c)
    (h:c.wp P (bodyPostM Fence.wide 9 P fn R) { tmps:=args++Array.replicate (fn.ntmps-args.size) undef,defers:=[] } w) : Calls P f args w R :=
  callsIn_wide.1 (callsIn_of_wp_marks hf hb trivial (wpIn_wide.2 h) rfl)
theorem vD{P:Program}{fn:Func}{R:Ending→World→Prop}{a:Act}{w:World}{D:Nat}(hd:a.defers=[{ target:=.collected D,args:=#[] }])(hD:w.heap[D]? = some (.deferred (some [])))
    (h:∀ w',aD [D] w w'→∃ v,(results fn a.tmps).run P w' = .ok v w'∧R (.returned v) w') : bodyPostM Fence.wide 9 P fn R .ret a w:=by
  show LeavesInM Fence.wide 9 P fn a.tmps R a.defers .returning w
  rw[hd]
  exact⟨by simp,.inl ⟨D,_,rfl,run_takeDeferred hD,h _ (fZ _)⟩⟩
theorem tq{P:Program}{fn:Func}{R:Ending→World→Prop}{a:Act}{w:World}(hd:a.defers=[])(h:∃ v,(results fn a.tmps).run P w = .ok v w∧R (.returned v) w) : bodyPostM Fence.wide 9 P fn R .ret a w:=by
  show LeavesInM Fence.wide 9 P fn a.tmps R a.defers .returning w
  rw[hd]
  exact h
open Go.RowKit
structure GF (E:Fence) (m:Nat) (P:Program) (ops:Array Oper) (Q:Exit→Act→World→Prop) (l:List Oper) (n:Nat) (D:List Deferred) (F:Fr) (w:World) : Prop where
  out:∀ a,Ag n D F a→WF E m P ops Q l a w
structure GI (E:Fence) (m:Nat) (P:Program) (c:Code) (Q:Exit→Act→World→Prop) (n:Nat) (D:List Deferred) (F:Fr) (w:World) : Prop where
  out:∀ a,Ag n D F a→c.wpIn E m P Q a w
section
variable {E:Fence}{m:Nat}{P:Program}{Q:Exit→Act→World→Prop}{n:Nat}{D:List Deferred}{F:Fr}{w:World}{ops:Array Oper}{rest l:List Oper}{d:Option Tmp}{op:Op}{t:TypeId}{s:String}{af:Array Edge}{gu:Option (Nat × Bool)}{x y c:Code}{id:Nat}
theorem x8(m:Nat)(h:GF Fence.wide m P l.toArray Q l n D F w) : GC P (.region id l.toArray false) Q n D F w:=⟨fun a ha=>xF m (h.out a ha)⟩
theorem vG(h:GF E m P l.toArray Q l n D F w) : GI E m P (.region id l.toArray false) Q n D F w:=⟨fun a ha=>xi (h.out a ha)⟩
theorem xc(h:GI E m P c (Exit.inBlock id Q) n D F w) : GI E m P (.block id c) Q n D F w:=⟨fun a ha=>wpIn_block (h.out a ha)⟩
theorem qW(h:GQ Q .normal n D F w) : GF E m P ops Q [] n D F w:=⟨fun a ha=>wZ (h.out a ha)⟩
theorem xp(hE:eF E)(h:OG P ⟨d,op,t,s,af,gu⟩ n D F w (GF E m P ops Q rest n D) Q)(hw:jY ops F gu=(true,true))(hd:fl op=true) : GF E m P ops Q (⟨d,op,t,s,af,gu⟩ :: rest) n D F w :=
  ⟨fun a ha=>xy hE hd (fo ha hw) (h.out a ha _ fun F' w' a' k ha'=>k.out a' ha')⟩
theorem xn(hE:eF E){o:Oper}(h:GF E m P ops Q rest n D (nY P ops w F o) w)(hc:uo P ops w n 1 (o :: rest) F=uu P ops w 1 (o :: rest) F)(hd:fl o.op=true) : GF E m P ops Q (o :: rest) n D F w:=by
  simp only[uo,uu,List.cons.injEq,Prod.mk.injEq,Bool.and_eq_true] at hc
  obtain⟨⟨⟨h1,h2,h3⟩,h4⟩,h5⟩:=hc
  refine⟨fun a ha=>?_⟩
  cases hon:(jY ops F o.guard).2 with
  | true =>
    rw[hon] at h3 h4
    simp only[cond_true] at h3 h4
    have hst:nY P ops w F o=pt o.dst (vo P w F o) F:=by simp[nY,hon]
    rw[hst] at h
    exact xy hE hd (fo ha (Prod.ext h1 hon)) (fX (N:=o.dst) (vo P w F o) rfl (by rw[← gC ha h3];exact h4) (h.out _ (ha.put h2)))
  | false =>
    have hst:nY P ops w F o=pt o.dst undef F:=by simp[nY,hon]
    rw[hst] at h
    exact wD (N:=o.dst) hE (fo ha (Prod.ext h1 hon)) rfl (h.out _ (ha.put h2))
theorem F0(h:OG P ⟨d,op,t,s,af,gu⟩ n D F w (GF Fence.wide m P ops Q rest n D) Q)(hw:jY ops F gu=(true,true):=by kernel_rfl)(hd:fl op=true:=by kernel_rfl) : GF Fence.wide m P ops Q (⟨d,op,t,s,af,gu⟩ :: rest) n D F w:=xp jA h hw hd
theorem kA{q:Nat}(h:OG P ⟨d,op,t,s,af,gu⟩ n D F w (GF (Fence.wide.inRound q) m P ops Q rest n D) Q)(hw:jY ops F gu=(true,true):=by kernel_rfl)(hd:fl op=true:=by kernel_rfl) : GF (Fence.wide.inRound q) m P ops Q (⟨d,op,t,s,af,gu⟩ :: rest) n D F w:=xp (iO _) h hw hd
theorem Fp{o:Oper}(h:GF Fence.wide m P ops Q rest n D (nY P ops w F o) w)(hc:uo P ops w n 1 (o :: rest) F=uu P ops w 1 (o :: rest) F:=by kernel_rfl)(hd:fl o.op=true:=by kernel_rfl) : GF Fence.wide m P ops Q (o :: rest) n D F w:=xn jA h hc hd
theorem vI{q:Nat}{o:Oper}(h:GF (Fence.wide.inRound q) m P ops Q rest n D (nY P ops w F o) w)(hc:uo P ops w n 1 (o :: rest) F=uu P ops w 1 (o :: rest) F:=by kernel_rfl)(hd:fl o.op=true:=by kernel_rfl) : GF (Fence.wide.inRound q) m P ops Q (o :: rest) n D F w:=xn (iO _) h hc hd
theorem wX(j:Nat)(e:Bool)(ht:e=true→GF E m P ops Q l n D ((j,.bool true) :: F) w)(hf:e=false→GF E m P ops Q l n D ((j,.bool false) :: F) w)(hv:lk F j=some (.bool e):=by kernel_rfl) : GF E m P ops Q l n D F w:=by
  refine⟨fun a ha=>?_⟩
  have key:∀ b,e=b→Ag n D ((j,.bool b) :: F) a:=fun b hb=>⟨ha.sz,ha.df,fun i v hi=>by
    rcases fS hi with⟨rfl,rfl⟩|⟨_,h2⟩
    · rw[← hb];exact ha.at_ _ _ hv
    · exact ha.at_ _ _ h2⟩
  rcases dC e with q|q
  · exact(ht q).out a (key _ q)
  · exact(hf q).out a (key _ q)
theorem Fy{x:Operand}{opds:Array Operand}{ts:Array TypeId}{q:Nat}{r:Loop}(v:Value)(p:Tmp)(hl:w.heap[q]? = some (.loop r))(hp:r.params = #[p])
    (h:RoundIn Fence.wide (m-1) P q r.fn (r.tmps.setIfInBounds p v) r.assign r.body w (fun e w'=>∃ u,e = .returned u∧GF Fence.wide m P ops Q rest n D (pt d u F) w'))
    (hw:jY ops F gu=(true,true):=by kernel_rfl) (hx:eP F x=some (.func (.yield q) #[] #[]):=by kernel_rfl) (ha:opds.toList.map (eP F)=[some v]:=by kernel_rfl) (hd:fB n d=true:=by kernel_rfl) :
    GF Fence.wide m P ops Q (⟨d,.call { callee:=.value x,args:=opds,argTypes:=ts },t,s,af,gu⟩ :: rest) n D F w :=
  ⟨fun a hag=>th v p (fo hag hw) rfl rfl (hag.ev hx) (by apply Array.toList_inj.1;rw[Array.toList_map];exact md (vs:=[v]) hag ha) hl hp (h.mono fun e w' hh=>by
    obtain⟨u,rfl,hk⟩:=hh
    exact⟨u,rfl,hk.out _ (hag.put hd)⟩)⟩
theorem nQ{g:Operand}{ps:Array Tmp}{assign body:Code}{f:FuncId}(cap:Array Value)
    (h:∀ a,Ag n D F a→∀ fn0 D' q w₂,w.heap.size≤D'→w.heap.size≤q→D'≠q→w₂.heap[D']? = some (.deferred (some []))→w₂.heap[q]? = some (.loop { state:=.ready,pending:=none,fn:=fn0,tmps:=a.tmps,params:=ps,assign:=assign,body:=body,defers:=D' })→aD [] w w₂ →
      Calls P f (#[.func (.yield q) #[] #[]]++cap) w₂ (fun e w₃=>∃ v r',e = .returned v∧w₃.heap[q]? = some (.loop r')∧r'.state≠.busy∧r'.pending=none∧∀ w₄,aD [q] w₃ w₄→GQ Q .normal n ({ target:=.collected D',args:=#[] } :: D) F w₄))
    (hx:eP F g=some (.func (.func f) #[] cap):=by kernel_rfl) (hf:w9 P f=some (false,true):=by kernel_rfl) : GC P (.rangeFunc g ps assign body) Q n D F w:=by
  obtain⟨fn,h1,h2,h3⟩:=jg hf
  refine⟨fun a ha=>sx cap (ha.ev hx) h1 h2 h3 fun fn0 D' q w₂ g1 g2 g3 g4 g5 g6=>(h a ha fn0 D' q w₂ g1 g2 g3 g4 g5 g6).mono fun e w₃ hh=>?_⟩
  obtain⟨v,r',k1,k2,k3,k4,k5⟩:=hh
  exact⟨v,r',k1,k2,k3,k4,fun w₄ hu=>(k5 w₄ hu).out _ ⟨ha.sz,by rw[ha.df],ha.at_⟩⟩
theorem wR{a:Act}(ha:Ag n D F a)(p:Tmp){v:Value}(h:GI E m P c Q n [] ((p,v) :: F) w)(hp:Nat.blt p n=true:=by kernel_rfl) : c.wpIn E m P Q { tmps:=a.tmps.setIfInBounds p v,defers:=[] } w:=by
  have h0:Ag n [] F { tmps:=a.tmps,defers:=[] }:=⟨ha.sz,rfl,ha.at_⟩
  exact h.out _ (h0.put (d:=some p) hp)
theorem xk{r:Loop}{q:Nat}{c:Code}{Qb:Exit→Act→World→Prop}(h1:w.heap[q]? = some (.loop r))(h2:r.state = .ready)(h:∀ w₂,w₂.heap[q]? = some (.loop { r with state:=.busy })→aD [q] w w₂→GI E m P c Qb n D F w₂) :
    GQ (Exit.then (fun a₁ w₁=>w₁.heap[q]? = some (.loop r)∧r.state = .ready∧∀ w₂,w₂.heap[q]? = some (.loop { r with state:=.busy })→aD [q] w₁ w₂→c.wpIn E m P Qb a₁ w₂) Q) .normal n D F w:=⟨fun a ha=>⟨h1,h2,fun w₂ k1 k2=>(h w₂ k1 k2).out a ha⟩⟩
theorem x9{r:Loop}{q:Nat}{Z:World→Prop}(h1:w.heap[q]? = some (.loop r))(h:∀ w₄,w₄.heap[q]? = some (.loop { r with state:=.ready,pending:=none })→aD [q] w w₄→Z w₄) :
    GQ (Exit.then (fun _ w₃=>∃ r',w₃.heap[q]? = some (.loop r')∧∀ w₄,w₄.heap[q]? = some (.loop { r' with state:=.ready,pending:=none })→aD [q] w₃ w₄→Z w₄) Q) .normal n D F w:=⟨fun a ha=>⟨r,h1,h⟩⟩
end
section
variable {P:Program}{n:Nat}{F:Fr}{w:World}{fn:Func}{R:Ending→World→Prop}
theorem vN{f:FuncId}{c:Code}{args:List Value}{w:World}(n:Nat)(hf:P.funcs[f]? = some fn)(hb:fn.body=some c)
    (h:GC P c (bodyPostM Fence.wide 9 P fn R) n [] (s5 0 args) w) (hn:args.length+(fn.ntmps-args.length)=n:=by kernel_rfl) : Calls P f args.toArray w R:=by
  subst hn
  exact mB hf hb (by simpa using h.out _ (xB (args:=args) (m:=fn.ntmps-args.length)))
theorem vL{D:Nat}(hD:w.heap[D]? = some (.deferred (some [])))(h:∀ w',aD [D] w w'→GQ (fun _ a w'=>∃ v,(results fn a.tmps).run P w' = .ok v w'∧R (.returned v) w') .ret n [{ target:=.collected D,args:=#[] }] F w') : GQ (bodyPostM Fence.wide 9 P fn R) .ret n [{ target:=.collected D,args:=#[] }] F w :=
  ⟨fun a ha=>vD ha.df hD fun w' hu=>(h w' hu).out a ha⟩
theorem rx{D:List Deferred}{g:Nat}{cs:Array Value}{t:TypeId}{fr:Nat × Nat}(B:w.heap[g]? = some (.cells cs t fr))(u:Value)(h:R (.returned (.tuple #[.agg cs,u])) w)(hc:vH P fn.results F=some (some (.pointer (some ⟨g,0,none⟩)),some u,some true,some cs.size):=by kernel_rfl) : GQ (fun _ a w'=>∃ v,(results fn a.tmps).run P w' = .ok v w'∧R (.returned v) w') .ret n D F w :=
  ⟨fun a ha=>⟨_,j8 ha B rfl hc,h⟩⟩
theorem ry{g:Nat}{cs:Array Value}{t:TypeId}{fr:Nat × Nat}(B:w.heap[g]? = some (.cells cs t fr))(u:Value)(h:R (.returned (.tuple #[.agg cs,u])) w)(hc:vH P fn.results F=some (some (.pointer (some ⟨g,0,none⟩)),some u,some true,some cs.size):=by kernel_rfl) : GQ (bodyPostM Fence.wide 9 P fn R) .ret n [] F w :=
  ⟨fun a ha=>tq ha.df ⟨_,j8 ha B rfl hc,h⟩⟩
end
open Go.RowKit
def uK (mk:Nat→Value)(w:World)(e:Ending)(w':World) : Prop:=∃ gs,e = .returned (.tuple #[mk gs,.bool true])∧w.heap.size≤gs∧w'.heap[gs]? = some (.cells #[.int .i64 0] 3 (0,0))∧aD [] w w'
def xl (gs:Nat) : Value:=.agg #[.func (.func 252) #[] #[],.func (.func 250) #[] #[.pointer (some ⟨gs,0,none⟩)]]
def xd (gs:Nat) : Value:=.agg #[.func (.func 253) #[] #[],.func (.func 254) #[] #[]]
def xe (gs:Nat) : Value:=.agg #[.func (.func 255) #[] #[],.func (.func 256) #[] #[]]
theorem sZ{w:World}:Calls Tryz.prog 209 #[.int .i64 0,.int .u8 20] w (uK xl w):=by
 refine en 27 Tryz.func209 rfl<|sg<|L0<|bI #[.nilFunc,.nilFunc] fun m n g b c=>Pl 1<|ng<|L0<|bI #[.int .i64 0] fun d o a h i=>L0<|bT h 0 #[.int .i64 0] fun p j k=>nt<|sq<|?_
 refine go<|Pl 2<|nt<|sq<|bk<|sg<|Pl 7<|nt<|c1<|sg<|?_
 refine Pl 2<|?_
 have e:=ud i k a
 refine L0<|b6 (ub e b) #[.func (.func 252) #[] #[],.func (.func 250) #[] #[.pointer (some ⟨d,0,none⟩)]] fun q l f=>Pl 1<|nt<|rt<|br<|tr<|bF l (.bool true)<|?_
 exact⟨d,rfl,(Nat.le_trans c.size a),(aU f (Ne.symm (nb (ak b) lr a)) j),(ud c (uz e f) g)⟩
theorem tt{w:World}:Calls Tryz.prog 209 #[.int .i64 1,.int .u8 20] w (uK xd w):=by
 refine en 27 Tryz.func209 rfl<|sg<|L0<|bI #[.nilFunc,.nilFunc] fun m n f b c=>Pl 1<|ng<|L0<|bI #[.int .i64 0] fun g o a h i=>L0<|bT h 0 #[.int .i64 0] fun p j k=>nt<|sq<|?_
 refine go<|Pl 2<|nt<|sq<|bk<|sg<|Pl 7<|nt<|c0<|sg<|?_
 refine Pl 3<|nt<|c1<|sg<|Pl 1<|?_
 have d:=ud i k a
 refine L0<|b6 (ub d b) #[.func (.func 253) #[] #[],.func (.func 254) #[] #[]] fun q l e=>Pl 1<|nt<|rt<|br<|tr<|bF l (.bool true)<|?_
 exact⟨g,rfl,(Nat.le_trans c.size a),(aU e (Ne.symm (nb (ak b) lr a)) j),(ud c (uz d e) f)⟩
theorem tG{dir:Int}{w:World}:Calls Tryz.prog 209 #[.int .i64 dir,.int .u8 21] w (uK xe w):=by
 refine en 27 Tryz.func209 rfl<|sg<|L0<|bI #[.nilFunc,.nilFunc] fun m n f b c=>Pl 1<|ng<|L0<|bI #[.int .i64 0] fun g o a h i=>L0<|bT h 0 #[.int .i64 0] fun p j k=>nt<|sq<|?_
 refine go<|Pl 2<|nt<|sq<|bk<|sg<|Pl 7<|nt<|c0<|sg<|?_
 refine Pl 3<|nt<|c0<|sg<|Pl 3<|nt<|c1<|sg<|Pl 1<|?_
 have d:=ud i k a
 refine L0<|b6 (ub d b) #[.func (.func 255) #[] #[],.func (.func 256) #[] #[]] fun q l e=>Pl 1<|nt<|rt<|br<|tr<|bF l (.bool true)<|?_
 exact⟨g,rfl,(Nat.le_trans c.size a),(aU e (Ne.symm (nb (ak b) lr a)) j),(ud c (uz d e) f)⟩
theorem mI{dir x:Int}{w:World}(n1:(x==20)=false)(n2:(x==21)=false) : Calls Tryz.prog 209 #[.int .i64 dir,.int .u8 x] w (cL (.tuple #[.agg #[.nilFunc,.nilFunc],.bool false]) w):=by
 refine en 27 Tryz.func209 rfl<|sg<|L0<|bI #[.nilFunc,.nilFunc] fun k l b c d=>Pl 1<|ng<|L0<|bI #[.int .i64 0] fun m n e f g=>L0<|bT f 0 #[.int .i64 0] fun o p h=>nt<|sq<|?_
 refine go<|Pl 2<|nt<|sq<|bk<|sg<|Pl 3<|sy 12 n1<|Pl 4<|nt<|c0<|?_
 refine sg<|Pl 3<|nt<|cf n1<|sg<|Pl 3<|nt<|cf n2<|sk<|bn<|?_
 refine tn<|sg<|Pl 1<|?_
 have a:=ud g h e
 refine L0<|b6 (ub a c) #[.nilFunc,.nilFunc] fun q i j=>Pl 1<|nt<|rt<|bF i (.bool false)<|?_
 exact⟨rfl,(ud d (uz a j) b)⟩
theorem jo{gb:Nat}{f:Fn}{x y:Array Value}{w:World}:Calls Tryz.prog 210 #[.pointer (some ⟨gb,0,none⟩),.func f x y] w (fun e w'=>∃ b1 b2,e = .returned (.func (.func 257) #[] #[.pointer (some ⟨b1,0,none⟩),.pointer (some ⟨b2,0,none⟩)])∧w.heap.size≤b1∧w.heap.size≤b2∧b1≠b2 ∧
      w'.heap[b1]? = some (.cells #[.pointer (some ⟨gb,0,none⟩)] 113 (0,0))∧w'.heap[b2]? = some (.cells #[.func f x y] 212 (0,0))∧aD [] w w'):=by
 refine en 6 Tryz.func210 rfl<|sg<|L0<|dz #[.pointer (some ⟨gb,0,none⟩)] fun a k i b c=>L0<|dz #[.func f x y] fun d l g j h=>Pl 1<|ng<|Pl 2<|nt<|rt<|?_
 refine rr (.func (.func 257) #[] #[.pointer (some ⟨a,0,none⟩),.pointer (some ⟨d,0,none⟩)])<|?_
 exact⟨a,d,rfl,i,(Nat.le_trans c.size g),(nb (ak b) lr g),(ub h b),j,(aH c h)⟩
theorem pz{g gs:Nat}{s:Int}{C:ah}{w:World}(hC:aj w g C)(hS:w.heap[gs]? = some (.cells #[.int .i64 s] 3 (0,0)))(hne:g≠gs)(hs:0≤s∧s≤1000000000000) :
    Calls Tryz.prog 250 #[.pointer (some ⟨g,0,none⟩),.pointer (some ⟨gs,0,none⟩)] w (fun e w'=>∃ A c,e = .returned (.agg #[.int .u16 (aL C).file,.int .u16 (aL C).record,.int .u16 (aL C).count,.slice A (aL C).words.length c])∧dN true w' (.slice A (aL C).words.length c) (aL C).words∧dm (aL C).file∧dm (aL C).record∧dm (aL C).count∧aj w' g (eC s C)∧w'.heap[gs]? = some (.cells #[.int .i64 (eg s C)] 3 (0,0))∧aD [g,gs] w w'):=by
 refine en 19 Tryz.func250 rfl<|sg<|L0<|bI #[.int .u16 0,.int .u16 0,.int .u16 0,.slice none 0 0] fun S T b j d=>ng<|Pl 1<|?_
 refine L0<|Oc<|vk (mJ (aj.old hC d)) fun k l U H I J K m f=>?_
 obtain⟨V,W⟩:=I
 obtain⟨X,Y⟩:=J
 obtain⟨Z,a0⟩:=K
 refine L0<|bI #[.int .u16 0,.int .u16 0,.int .u16 0,.slice none 0 0] fun a1 a2 h L M=>L0<|b6 L #[.int .u16 ((aL C).file),.int .u16 ((aL C).record),.int .u16 ((aL C).count),.slice k ((aL C).words.length) l] fun a3 n N=>ng<|?_
 have o:=ud M N h
 have p:=aH f o
 have q:=aU (uz d p) (Ne.symm hne) hS
 refine L0<|aR q 0<|Pl 1<|L0<|aR n 2<|L0<|Oi ((aL C).count)<|L0<|Oi (2*((aL C).count))<|L0<|Oi (2+(2*((aL C).count)))<|L0<|Oi (s+(2+(2*((aL C).count))))<|L0<|bT q 0 #[.int .i64 (s+(2+(2*((aL C).count))))] fun a4 r t=>ng<|Pl 1<|L0<|aR r 0<|?_
 refine Pl 1<|?_
 have u:=uz o t
 have a:=uz d f
 have v:=aU a (Ne.symm hne) hS
 refine L0<|Oc<|m2 (b7 ((decide ((s+(2+(2*((aL C).count))))≤245))) 5 (aj.upd m u (aa hne ay) (am (aQ v (by decide)) aG))) fun a5 O y=>?_
 refine ab O fun x47 P Q=>?_
 refine ng<|?_
 have z:=us t y
 refine L0<|cl (aD.blk z (aa (Ne.symm (nb (ak hS) a.size h)) (aa (Ne.symm (nb (aj.lt hC) a.size h)) ay)) n)<|?_
 have i:=nb (aj.lt hC) lr b
 have B:=nb (ak hS) lr b
 have D:=aD.blk (ui p z) (aa (Ne.symm B) (aa (Ne.symm i) ay)) j
 refine L0<|b6 D #[.int .u16 ((aL C).file),.int .u16 ((aL C).record),.int .u16 ((aL C).count),.slice k ((aL C).words.length) l] fun a6 R E=>nt<|rt<|vh R<|?_
 subst P
 have F:=us y E
 have G:=us u F
 exact⟨_,_,rfl,(dN.upd' H G (am (aQ v (by decide)) (am (aj.safe m _ (by decide)) (am (aQ (aU f (Ne.symm i) j) (by decide)) aG)))),aC (x:=(aL C).file) (by omega),aC (x:=(aL C).record) (by omega),aC (x:=(aL C).count) (by omega),(aj.upd Q E (aa i ay) (am (aQ D (by decide)) aG)),(aD.blk F (aa (Ne.symm hne) (aa B ay)) r),(ut (aD.mono (S':=[g,gs]) a (ac im aq)) G (ac im (ac im (ac (nr b) aq))))⟩
def fv (c:Int)(v:Value) : Array Value:=#[.int .u8 c,.int .u8 0,.int .u16 0,.int .u16 0,.int .u16 0,.int .u16 0,.int .u16 0,.int .u16 0,.int .u16 0,.int .u16 0,.int .u16 0,.int .u16 0,fk,fk,fk,v,.int .u8 0,.int .u8 0,.int .u8 0,.int .u8 0,.int .u8 0,fk]
structure JR (w0:World) (gb gs gm l:Nat) (c:Int) (r:Loop) (C:ah) (s:Int) (L:List dl) (A:Option Addr) (cp:Nat) (W:World) : Prop where
  u:aD [gb,gs,gm,l] w0 W
  hC:aj W gb C
  hS:W.heap[gs]? = some (.cells #[.int .i64 s] 3 (0,0))
  hm:W.heap[gm]? = some (.cells (fv c (.slice A L.length cp)) 30 (0,0))
  ho:be w0.heap.size 109 4 (bq true) W (.slice A L.length cp) L
  hl:W.heap[l]? = some (.loop r)
def cM (s:Int)(C:ah) : Int × ah × dl:=(eg s C,eC s C,aL C)
def bG (s:Int)(C:ah) : Int × ah × dl:=(s,eK C,eu C)
def cN (s:Int)(C:ah) : Int × ah × dl:=(s,ib C,gV C)
def aN (one:Int→ah→Int × ah × dl) : Nat→Int→ah→List dl→ah × List dl
  | 0,_,C,L=>(C,L)
  | n+1,s,C,L =>
    if decide (0<(C.l.length:Int))&&C.e==0 then
      (if (one s C).2.1.e != 0 then ((one s C).2.1,L) else aN one n (one s C).1 (one s C).2.1 (L++[(one s C).2.2]))
    else (C,L)
theorem gU(C:ah)(n:Int) : (C.bytesC n).l.length≤C.l.length:=by
  unfold ah.bytesC
  split
  · unfold ah.need
    split<;>simp
  · simp
theorem jL(C:ah)(h:0<C.l.length) : (C.bytesC 1).l.length<C.l.length:=by
  unfold ah.bytesC
  split
  · unfold ah.need
    split<;>simpa using h
  · simp
    omega
theorem eq(C:ah)(b:Bool)(e:Int) : (C.need b e).l.length=C.l.length:=by
  unfold ah.need
  split<;>rfl
theorem ez(C:ah)(n:Int) : (C.wordsC n).l.length≤C.l.length:=by
  unfold ah.wordsC
  split<;>exact gU ..
theorem my(C:ah)(h:0<C.l.length) : (dy C).l.length<C.l.length:=by
  have h1:(hH C).l.length<C.l.length:=by unfold hH;rw[eq];exact jL C h
  have h2:(hY C).l.length≤(hH C).l.length:=by unfold hY;rw[eq];exact ez ..
  have h3:(mj C).l.length≤(hY C).l.length:=by unfold mj;rw[eq];exact ez ..
  have h4:(dy C).l.length≤(mj C).l.length:=by unfold dy;rw[eq];exact ez ..
  omega
theorem oY(s:Int)(C:ah)(h:0<C.l.length) : (cM s C).2.1.l.length<C.l.length:=by
  show(eC s C).l.length<_
  unfold eC
  rw[eq]
  exact my C h
theorem jf(s:Int)(C:ah)(h:0<C.l.length) : (bG s C).2.1.l.length<C.l.length:=by
  show(eK C).l.length<_
  have h1:(gL C).l.length<C.l.length:=by unfold gL;rw[eq];exact jL C h
  have h2:(gJ C).l.length≤(gL C).l.length:=by unfold gJ;rw[eq];exact gU ..
  have h3:(eK C).l.length≤(gJ C).l.length:=by unfold eK;exact ez ..
  omega
theorem ph(s:Int)(C:ah)(h:0<C.l.length) : (cN s C).2.1.l.length<C.l.length:=by
  show(ib C).l.length<_
  have h1:=my C h
  have h2:(mu C).l.length=(dy C).l.length:=by unfold mu;rw[eq]
  have h3:(ib C).l.length≤(mu C).l.length:=by unfold ib;exact ez ..
  omega
theorem ge(one:Int→ah→Int × ah × dl)(n:Nat)(s:Int)(C:ah)(L:List dl)(h:(decide (0<(C.l.length:Int))&&C.e==0)=false) : aN one n s C L=(C,L):=by
  cases n with
  | zero=>rfl
  | succ n=>simp only[aN,h,Bool.false_eq_true,if_false]
open Go.RowKit
def dH (fn0:FuncId)(tm:Array Value)(asg bdy:Code)(D:Nat) : Loop:={ state:=.ready,pending:=none,fn:=fn0,tmps:=tm,params:=#[53],assign:=asg,body:=bdy,defers:=D }
def nK (w:World)(gb gs gm l:Nat)(c:Int)(R:Loop) : Prop:=∀ (W:World)(C:ah)(s:Int)(L:List dl)(A:Option Addr)(cp:Nat)(x:dl)(Ax:Option Addr)(cx:Nat),JR w gb gs gm l c R C s L A cp W→dN true W (.slice Ax x.words.length cx) x.words→dm x.file→dm x.record→dm x.count→L.length≤1048576 →
    RoundIn Fence.wide 8 Tryz.prog l R.fn (R.tmps.setIfInBounds 53 (.agg #[.int .u16 x.file,.int .u16 x.record,.int .u16 x.count,.slice Ax x.words.length cx])) R.assign R.body W (fun e W'=>e = .returned (.bool true)∧W.heap.size≤W'.heap.size∧∃ A2 c2,JR w gb gs gm l c R C s (L++[x]) A2 c2 W')
theorem uL{w:World}{gb gs gm l b1 b2 fn0 D:Nat}{tm:Array Value}{asg bdy:Code}{c:Int}{C0:ah}(hC:aj w gb C0)(hS:w.heap[gs]? = some (.cells #[.int .i64 0] 3 (0,0)))(hm:w.heap[gm]? = some (.cells (fv c fk) 30 (0,0)))
    (hl:w.heap[l]? = some (.loop (dH fn0 tm asg bdy D))) (hb1:w.heap[b1]? = some (.cells #[.pointer (some ⟨gb,0,none⟩)] 113 (0,0))) (hb2:w.heap[b2]? = some (.cells #[.func (.func 250) #[] #[.pointer (some ⟨gs,0,none⟩)]] 212 (0,0)))
    (n1:gb≠gs) (n2:gb≠gm) (n3:gb≠l) (n4:gs≠gm) (n5:gs≠l) (n6:gm≠l) (m1:b1≠gb) (m2:b1≠gs) (m3:b1≠gm) (m4:b1≠l) (k1:b2≠gb) (k2:b2≠gs) (k3:b2≠gm) (k4:b2≠l) (hround:nK w gb gs gm l c (dH fn0 tm asg bdy D)) :
    Calls Tryz.prog 257 #[.func (.yield l) #[] #[],.pointer (some ⟨b1,0,none⟩),.pointer (some ⟨b2,0,none⟩)] w (fun e W=>e = .returned (.tuple #[])∧∃ s A cp,JR w gb gs gm l c (dH fn0 tm asg bdy D) (aN cM C0.l.length 0 C0 []).1 s (aN cM C0.l.length 0 C0 []).2 A cp W):=by
 have hlen:=hC.len
 refine en 25 Tryz.func257 rfl<|bk<|?_
 refine i1 (fun x=>[(0,.func (.yield l) #[] #[]),(1,.pointer (some ⟨b1,0,none⟩)),(2,.pointer (some ⟨b2,0,none⟩))]) (fun(x:Nat × ah × Int × List dl × Option Addr × Nat) w'=>aD [gb,gs,gm,l] w w'∧aj w' gb x.2.1∧w'.heap[gs]? = some (.cells #[.int .i64 x.2.2.1] 3 (0,0))∧w'.heap[gm]? = some (.cells (fv c (.slice x.2.2.2.2.1 x.2.2.2.1.length x.2.2.2.2.2)) 30 (0,0))∧w'.heap[l]? = some (.loop (dH fn0 tm asg bdy D))∧be w.heap.size 109 4 (bq true) w' (.slice x.2.2.2.2.1 x.2.2.2.1.length x.2.2.2.2.2) x.2.2.2.1∧(aN cM x.1 x.2.2.1 x.2.1 x.2.2.2.1=aN cM C0.l.length 0 C0 [])∧(x.2.1.l.length≤x.1)∧(0≤x.2.2.1∧x.2.2.1≤131074*(x.2.2.2.1.length:Int))∧(x.2.2.2.1.length+x.1≤C0.l.length)) (fun x=>x.1) (C0.l.length,C0,0,[],none,0) ⟨aD.refl _ _,hC,hS,hm,hl,be.nil ..,rfl,(Nat.le_refl _),(by(try dsimp only);omega),(by(try dsimp only);(try simp only[List.length_nil]);omega)⟩ ?_
 rintro⟨n,C,s,L,A,cp⟩ h ⟨m,J,M,N,O,P,Q,R,S,T⟩
 refine iq [(0,.func (.yield l) #[] #[]),(1,.pointer (some ⟨b1,0,none⟩)),(2,.pointer (some ⟨b2,0,none⟩))] ?_
 have b:aj h gb C:=J
 have o:h.heap[gs]? = some (.cells #[.int .i64 s] 3 (0,0)):=M
 have t:h.heap[gm]? = some (.cells (fv c (.slice A L.length cp)) 30 (0,0)):=N
 have v:h.heap[l]? = some (.loop (dH fn0 tm asg bdy D)):=O
 have d:be w.heap.size 109 4 (bq true) h (.slice A L.length cp) L:=P
 have ae:aN cM n s C L=aN cM C0.l.length 0 C0 []:=Q
 have af:C.l.length≤n:=R
 have ag:0≤s∧s≤131074*(L.length:Int):=S
 have an:L.length+n≤C0.l.length:=T
 have hrec:aN cM n s C L=aN cM C0.l.length 0 C0 []:=by assumption
 refine sq<|sg<|?_
 have p:=aD.blk m (aa m1 (aa m2 (aa m3 (aa m4 ay)))) hb1
 refine L0<|aR p 0<|L0<|Oc<|mq (e9 b)<|?_
 have ao:=aj.len b
 refine Pl 2<|cu 4 [8] 12 (((decide (0<((C.l.length:Nat) : Int)))&&(C.e==0))) (fun K B=>?_) ?_
 refine bl 8 ((decide (0<((C.l.length:Nat) : Int)))) (fun i=>?_) (fun i=>?_)
 have U:=of_decide_eq_true i
 refine L1<|aR p 0<|L1<|Oc<|mq (bB b)<|?_
 have ap:=aj.len b
 exact Pl 2<|ce B (C.e==0) (by rw[i];rfl)
 have U:=of_decide_eq_false i
 exact Pl 4<|ce B false (by rw[i];rfl)
 refine nt<|cb (((decide (0<((C.l.length:Nat) : Int)))&&(C.e==0))) (fun f=>?_) (fun f=>?_)
 have y:=(aS f).1
 have z:=(aS f).2
 have ar:=of_decide_eq_true y
 have av:=al z
 refine bo<|bk<|sg<|?_
 refine L0<|aR (aD.blk m (aa k1 (aa k2 (aa k3 (aa k4 ay)))) hb2) 0<|L0<|aR p 0<|L0<|fV #[] #[.pointer (some ⟨gs,0,none⟩)] (args:=#[.pointer (some ⟨gb,0,none⟩),.pointer (some ⟨gs,0,none⟩)])<|xN (pz (s:=s) b o n1 (by omega)) fun E F aw V X Y Z a0 G a1=>?_
 have az:eg s C=s+(2+2*(aL C).count):=rfl
 obtain⟨aB,aE⟩:=X
 obtain⟨aF,aI⟩:=Y
 obtain⟨aJ,aK⟩:=Z
 refine L0<|bI #[.int .u16 0,.int .u16 0,.int .u16 0,.slice none 0 0] fun aM aO a2 a3 a4=>L0<|b6 a3 #[.int .u16 ((aL C).file),.int .u16 ((aL C).record),.int .u16 ((aL C).count),.slice E ((aL C).words.length) F] fun a5 a6 a7=>nt<|sq<|x8 9<|?_
 have j:=ud a4 a7 a2
 have a:=aH a1 j
 refine F0<|aR (aD.blk a (aa m1 (aa m2 ay)) p) 0<|?_
 have q:=aj.old a0 j
 refine F0<|Oc<|mq (bB q)<|?_
 have aP:=aj.len q
 refine Fp<|Fp<|?_
 have H:=ut m a (ac im (ac im aq))
 refine wX 19 ((((eC s C).e)!=0)) (fun k=>?_) (fun k=>?_)
 have a8:=au k
 refine Fp<|Fp<|Fp<|Fp<|Fp<|qW<|tn<|c1<|rt<|br<|tr<|br<|rr (.tuple #[])<|?_
 have hfin:aN cM C0.l.length 0 C0 []=((eC s C),L):=by
   rw[← hrec]
   rw[show n=(n-1)+1 from by omega]
   simp only[aN,cM,f,y,z,k,bs,if_true,if_false,decide_true,decide_false,reduceIte]
 refine⟨rfl,(eg s C),A,cp,?_⟩
 rw[hfin]
 exact⟨H,q,(ub j G),(aD.blk a (aa (Ne.symm n2) (aa (Ne.symm n4) ay)) t),(ax d a (fun x hx=>(aa (fun e=>(aA (aj.lt hC) lr d) (e▸hx)) (aa (fun e=>(aA (ak hS) lr d) (e▸hx)) ay))) (bq.upd16 a (am (aj.safe b _ (by decide)) (am (aQ o (by decide)) aG)))),(aD.blk a (aa (Ne.symm n3) (aa (Ne.symm n5) ay)) v)⟩
 have a8:=ai k
 refine Fp<|F0<|cl a6<|?_
 have I:=aD.blk a (aa (Ne.symm n3) (aa (Ne.symm n5) ay)) v
 have a9:JR w gb gs gm l c (dH fn0 tm asg bdy D) (eC s C) (eg s C) L A cp a5:=⟨H,q,(ub j G),(aD.blk a (aa (Ne.symm n2) (aa (Ne.symm n4) ay)) t),(ax d a (fun x hx=>(aa (fun e=>(aA (aj.lt hC) lr d) (e▸hx)) (aa (fun e=>(aA (ak hS) lr d) (e▸hx)) ay))) (bq.upd16 a (am (aj.safe b _ (by decide)) (am (aQ o (by decide)) aG)))),I⟩
 refine Fy (r:=dH fn0 tm asg bdy D) (.agg #[.int .u16 ((aL C).file),.int .u16 ((aL C).record),.int .u16 ((aL C).count),.slice E ((aL C).words.length) F]) 53 I rfl<|?_
 refine RoundIn.mono (hround _ _ _ _ _ _ (aL C) _ _ a9 (dN.upd' V j aG) (aC (by omega)) (aC (by omega)) (aC (by omega)) (by omega)) ?_
 rintro _ aT ⟨rfl,aU,ab,ad,g⟩
 refine⟨_,rfl,?_⟩
 exact Fp<|Fp<|qW<|tn<|c0<|sk<|bn<|ga ((n-1),(eC s C),(eg s C),(L++[(aL C)]),ab,ad) ⟨g.u,g.hC,g.hS,g.hm,g.hl,g.ho,(by(try dsimp only);rw[← hrec,show n=(n-1)+1 from by omega];simp only[aN,cM,f,y,z,k,bs,if_true,if_false,decide_true,decide_false,Nat.add_sub_cancel,reduceIte]),(by(try dsimp only);have hd:=oY s C (by omega);have hY:(cM s C).2.1.l.length=(eC s C).l.length:=rfl;omega),(by(try dsimp only);simp only[List.length_append,List.length_cons,List.length_nil];omega),(by(try dsimp only);simp only[List.length_append,List.length_cons,List.length_nil];omega)⟩ (by omega)
 refine xt<|tx<|tx<|bx<|rm (.tuple #[])<|?_
 have hfin:aN cM C0.l.length 0 C0 []=(C,L):=by
   rw[← hrec]
   exact ge _ _ _ _ _ (by simp only[f,bs,if_true,if_false,decide_true,decide_false])
 refine⟨rfl,s,A,cp,?_⟩
 rw[hfin]
 exact⟨m,b,o,t,d,v⟩
theorem vn{w:World}{gb gs gm l b1 b2 fn0 D:Nat}{tm:Array Value}{asg bdy:Code}{c:Int}{C0:ah}(hC:aj w gb C0)(hS:w.heap[gs]? = some (.cells #[.int .i64 0] 3 (0,0)))(hm:w.heap[gm]? = some (.cells (fv c fk) 30 (0,0)))
    (hl:w.heap[l]? = some (.loop (dH fn0 tm asg bdy D))) (hb1:w.heap[b1]? = some (.cells #[.pointer (some ⟨gb,0,none⟩)] 113 (0,0))) (hb2:w.heap[b2]? = some (.cells #[.func (.func 254) #[] #[]] 212 (0,0)))
    (n1:gb≠gs) (n2:gb≠gm) (n3:gb≠l) (n4:gs≠gm) (n5:gs≠l) (n6:gm≠l) (m1:b1≠gb) (m2:b1≠gs) (m3:b1≠gm) (m4:b1≠l) (k1:b2≠gb) (k2:b2≠gs) (k3:b2≠gm) (k4:b2≠l) (hround:nK w gb gs gm l c (dH fn0 tm asg bdy D)) :
    Calls Tryz.prog 257 #[.func (.yield l) #[] #[],.pointer (some ⟨b1,0,none⟩),.pointer (some ⟨b2,0,none⟩)] w (fun e W=>e = .returned (.tuple #[])∧∃ s A cp,JR w gb gs gm l c (dH fn0 tm asg bdy D) (aN bG C0.l.length 0 C0 []).1 s (aN bG C0.l.length 0 C0 []).2 A cp W):=by
 have hlen:=hC.len
 refine en 25 Tryz.func257 rfl<|bk<|?_
 refine i1 (fun x=>[(0,.func (.yield l) #[] #[]),(1,.pointer (some ⟨b1,0,none⟩)),(2,.pointer (some ⟨b2,0,none⟩))]) (fun(x:Nat × ah × Int × List dl × Option Addr × Nat) w'=>aD [gb,gs,gm,l] w w'∧aj w' gb x.2.1∧w'.heap[gs]? = some (.cells #[.int .i64 x.2.2.1] 3 (0,0))∧w'.heap[gm]? = some (.cells (fv c (.slice x.2.2.2.2.1 x.2.2.2.1.length x.2.2.2.2.2)) 30 (0,0))∧w'.heap[l]? = some (.loop (dH fn0 tm asg bdy D))∧be w.heap.size 109 4 (bq true) w' (.slice x.2.2.2.2.1 x.2.2.2.1.length x.2.2.2.2.2) x.2.2.2.1∧(aN bG x.1 x.2.2.1 x.2.1 x.2.2.2.1=aN bG C0.l.length 0 C0 [])∧(x.2.1.l.length≤x.1)∧(0≤x.2.2.1∧x.2.2.1≤131074*(x.2.2.2.1.length:Int))∧(x.2.2.2.1.length+x.1≤C0.l.length)) (fun x=>x.1) (C0.l.length,C0,0,[],none,0) ⟨aD.refl _ _,hC,hS,hm,hl,be.nil ..,rfl,(Nat.le_refl _),(by(try dsimp only);omega),(by(try dsimp only);(try simp only[List.length_nil]);omega)⟩ ?_
 rintro⟨n,C,s,L,A,cp⟩ g ⟨k,I,J,M,N,O,P,Q,R,S⟩
 refine iq [(0,.func (.yield l) #[] #[]),(1,.pointer (some ⟨b1,0,none⟩)),(2,.pointer (some ⟨b2,0,none⟩))] ?_
 have b:aj g gb C:=I
 have p:g.heap[gs]? = some (.cells #[.int .i64 s] 3 (0,0)):=J
 have q:g.heap[gm]? = some (.cells (fv c (.slice A L.length cp)) 30 (0,0)):=M
 have t:g.heap[l]? = some (.loop (dH fn0 tm asg bdy D)):=N
 have h:be w.heap.size 109 4 (bq true) g (.slice A L.length cp) L:=O
 have ac:aN bG n s C L=aN bG C0.l.length 0 C0 []:=P
 have ad:C.l.length≤n:=Q
 have ae:0≤s∧s≤131074*(L.length:Int):=R
 have af:L.length+n≤C0.l.length:=S
 have hrec:aN bG n s C L=aN bG C0.l.length 0 C0 []:=by assumption
 refine sq<|sg<|?_
 have m:=aD.blk k (aa m1 (aa m2 (aa m3 (aa m4 ay)))) hb1
 refine L0<|aR m 0<|L0<|Oc<|mq (e9 b)<|?_
 have ag:=aj.len b
 refine Pl 2<|cu 4 [8] 12 (((decide (0<((C.l.length:Nat) : Int)))&&(C.e==0))) (fun K B=>?_) ?_
 refine bl 8 ((decide (0<((C.l.length:Nat) : Int)))) (fun i=>?_) (fun i=>?_)
 have T:=of_decide_eq_true i
 refine L1<|aR m 0<|L1<|Oc<|mq (bB b)<|?_
 have ak:=aj.len b
 exact Pl 2<|ce B (C.e==0) (by rw[i];rfl)
 have T:=of_decide_eq_false i
 exact Pl 4<|ce B false (by rw[i];rfl)
 refine nt<|cb (((decide (0<((C.l.length:Nat) : Int)))&&(C.e==0))) (fun d=>?_) (fun d=>?_)
 have v:=(aS d).1
 have y:=(aS d).2
 have an:=of_decide_eq_true v
 have ao:=al y
 refine bo<|bk<|sg<|?_
 refine L0<|aR (aD.blk k (aa k1 (aa k2 (aa k3 (aa k4 ay)))) hb2) 0<|L0<|aR m 0<|L0<|fV #[] #[] (args:=#[.pointer (some ⟨gb,0,none⟩)])<|vk (qx b) fun E F ap U V X Y Z a0=>?_
 obtain⟨aq,ar⟩:=V
 obtain⟨av,aw⟩:=X
 obtain⟨az,aB⟩:=Y
 refine L0<|bI #[.int .u16 0,.int .u16 0,.int .u16 0,.slice none 0 0] fun aE aF a1 a2 a3=>L0<|b6 a2 #[.int .u16 ((eu C).file),.int .u16 ((eu C).record),.int .u16 ((eu C).count),.slice E ((eu C).words.length) F] fun a4 a5 a6=>nt<|sq<|x8 9<|?_
 have z:=ud a3 a6 a1
 have a:=aH a0 z
 refine F0<|aR (aU a m1 m) 0<|?_
 have o:=aj.old Z z
 refine F0<|Oc<|mq (bB o)<|?_
 have aI:=aj.len o
 refine Fp<|Fp<|?_
 have G:=u1 k a im
 refine wX 19 ((((eK C).e)!=0)) (fun j=>?_) (fun j=>?_)
 have a7:=au j
 refine Fp<|Fp<|Fp<|Fp<|Fp<|qW<|tn<|c1<|rt<|br<|tr<|br<|rr (.tuple #[])<|?_
 have hfin:aN bG C0.l.length 0 C0 []=((eK C),L):=by
   rw[← hrec]
   rw[show n=(n-1)+1 from by omega]
   simp only[aN,bG,d,v,y,j,bs,if_true,if_false,decide_true,decide_false,reduceIte]
 refine⟨rfl,s,A,cp,?_⟩
 rw[hfin]
 exact⟨G,o,(aU a (Ne.symm n1) p),(aU a (Ne.symm n2) q),(ax h a (fun x hx=>(aa (fun e=>(aA (aj.lt hC) lr h) (e▸hx)) ay)) (bq.upd16 a (am (aj.safe b _ (by decide)) aG))),(aU a (Ne.symm n3) t)⟩
 have a7:=ai j
 refine Fp<|F0<|cl a5<|?_
 have H:=aU a (Ne.symm n3) t
 have a8:JR w gb gs gm l c (dH fn0 tm asg bdy D) (eK C) s L A cp a4:=⟨G,o,(aU a (Ne.symm n1) p),(aU a (Ne.symm n2) q),(ax h a (fun x hx=>(aa (fun e=>(aA (aj.lt hC) lr h) (e▸hx)) ay)) (bq.upd16 a (am (aj.safe b _ (by decide)) aG))),H⟩
 refine Fy (r:=dH fn0 tm asg bdy D) (.agg #[.int .u16 ((eu C).file),.int .u16 ((eu C).record),.int .u16 ((eu C).count),.slice E ((eu C).words.length) F]) 53 H rfl<|?_
 refine RoundIn.mono (hround _ _ _ _ _ _ (eu C) _ _ a8 (dN.upd' U z aG) (aC (by omega)) (aC (by omega)) (aC (by omega)) (by omega)) ?_
 rintro _ aJ ⟨rfl,aK,a9,ab,f⟩
 refine⟨_,rfl,?_⟩
 exact Fp<|Fp<|qW<|tn<|c0<|sk<|bn<|ga ((n-1),(eK C),s,(L++[(eu C)]),a9,ab) ⟨f.u,f.hC,f.hS,f.hm,f.hl,f.ho,(by(try dsimp only);rw[← hrec,show n=(n-1)+1 from by omega];simp only[aN,bG,d,v,y,j,bs,if_true,if_false,decide_true,decide_false,Nat.add_sub_cancel,reduceIte]),(by(try dsimp only);have hd:=jf s C (by omega);have hY:(bG s C).2.1.l.length=(eK C).l.length:=rfl;omega),(by(try dsimp only);simp only[List.length_append,List.length_cons,List.length_nil];omega),(by(try dsimp only);simp only[List.length_append,List.length_cons,List.length_nil];omega)⟩ (by omega)
 refine xt<|tx<|tx<|bx<|rm (.tuple #[])<|?_
 have hfin:aN bG C0.l.length 0 C0 []=(C,L):=by
   rw[← hrec]
   exact ge _ _ _ _ _ (by simp only[d,bs,if_true,if_false,decide_true,decide_false])
 refine⟨rfl,s,A,cp,?_⟩
 rw[hfin]
 exact⟨k,b,p,q,h,t⟩
theorem vt{w:World}{gb gs gm l b1 b2 fn0 D:Nat}{tm:Array Value}{asg bdy:Code}{c:Int}{C0:ah}(hC:aj w gb C0)(hS:w.heap[gs]? = some (.cells #[.int .i64 0] 3 (0,0)))(hm:w.heap[gm]? = some (.cells (fv c fk) 30 (0,0)))
    (hl:w.heap[l]? = some (.loop (dH fn0 tm asg bdy D))) (hb1:w.heap[b1]? = some (.cells #[.pointer (some ⟨gb,0,none⟩)] 113 (0,0))) (hb2:w.heap[b2]? = some (.cells #[.func (.func 256) #[] #[]] 212 (0,0)))
    (n1:gb≠gs) (n2:gb≠gm) (n3:gb≠l) (n4:gs≠gm) (n5:gs≠l) (n6:gm≠l) (m1:b1≠gb) (m2:b1≠gs) (m3:b1≠gm) (m4:b1≠l) (k1:b2≠gb) (k2:b2≠gs) (k3:b2≠gm) (k4:b2≠l) (hround:nK w gb gs gm l c (dH fn0 tm asg bdy D)) :
    Calls Tryz.prog 257 #[.func (.yield l) #[] #[],.pointer (some ⟨b1,0,none⟩),.pointer (some ⟨b2,0,none⟩)] w (fun e W=>e = .returned (.tuple #[])∧∃ s A cp,JR w gb gs gm l c (dH fn0 tm asg bdy D) (aN cN C0.l.length 0 C0 []).1 s (aN cN C0.l.length 0 C0 []).2 A cp W):=by
 have hlen:=hC.len
 refine en 25 Tryz.func257 rfl<|bk<|?_
 refine i1 (fun x=>[(0,.func (.yield l) #[] #[]),(1,.pointer (some ⟨b1,0,none⟩)),(2,.pointer (some ⟨b2,0,none⟩))]) (fun(x:Nat × ah × Int × List dl × Option Addr × Nat) w'=>aD [gb,gs,gm,l] w w'∧aj w' gb x.2.1∧w'.heap[gs]? = some (.cells #[.int .i64 x.2.2.1] 3 (0,0))∧w'.heap[gm]? = some (.cells (fv c (.slice x.2.2.2.2.1 x.2.2.2.1.length x.2.2.2.2.2)) 30 (0,0))∧w'.heap[l]? = some (.loop (dH fn0 tm asg bdy D))∧be w.heap.size 109 4 (bq true) w' (.slice x.2.2.2.2.1 x.2.2.2.1.length x.2.2.2.2.2) x.2.2.2.1∧(aN cN x.1 x.2.2.1 x.2.1 x.2.2.2.1=aN cN C0.l.length 0 C0 [])∧(x.2.1.l.length≤x.1)∧(0≤x.2.2.1∧x.2.2.1≤131074*(x.2.2.2.1.length:Int))∧(x.2.2.2.1.length+x.1≤C0.l.length)) (fun x=>x.1) (C0.l.length,C0,0,[],none,0) ⟨aD.refl _ _,hC,hS,hm,hl,be.nil ..,rfl,(Nat.le_refl _),(by(try dsimp only);omega),(by(try dsimp only);(try simp only[List.length_nil]);omega)⟩ ?_
 rintro⟨n,C,s,L,A,cp⟩ g ⟨k,I,J,M,N,O,P,Q,R,S⟩
 refine iq [(0,.func (.yield l) #[] #[]),(1,.pointer (some ⟨b1,0,none⟩)),(2,.pointer (some ⟨b2,0,none⟩))] ?_
 have b:aj g gb C:=I
 have p:g.heap[gs]? = some (.cells #[.int .i64 s] 3 (0,0)):=J
 have q:g.heap[gm]? = some (.cells (fv c (.slice A L.length cp)) 30 (0,0)):=M
 have t:g.heap[l]? = some (.loop (dH fn0 tm asg bdy D)):=N
 have h:be w.heap.size 109 4 (bq true) g (.slice A L.length cp) L:=O
 have ac:aN cN n s C L=aN cN C0.l.length 0 C0 []:=P
 have ad:C.l.length≤n:=Q
 have ae:0≤s∧s≤131074*(L.length:Int):=R
 have af:L.length+n≤C0.l.length:=S
 have hrec:aN cN n s C L=aN cN C0.l.length 0 C0 []:=by assumption
 refine sq<|sg<|?_
 have m:=aD.blk k (aa m1 (aa m2 (aa m3 (aa m4 ay)))) hb1
 refine L0<|aR m 0<|L0<|Oc<|mq (e9 b)<|?_
 have ag:=aj.len b
 refine Pl 2<|cu 4 [8] 12 (((decide (0<((C.l.length:Nat) : Int)))&&(C.e==0))) (fun K B=>?_) ?_
 refine bl 8 ((decide (0<((C.l.length:Nat) : Int)))) (fun i=>?_) (fun i=>?_)
 have T:=of_decide_eq_true i
 refine L1<|aR m 0<|L1<|Oc<|mq (bB b)<|?_
 have ak:=aj.len b
 exact Pl 2<|ce B (C.e==0) (by rw[i];rfl)
 have T:=of_decide_eq_false i
 exact Pl 4<|ce B false (by rw[i];rfl)
 refine nt<|cb (((decide (0<((C.l.length:Nat) : Int)))&&(C.e==0))) (fun d=>?_) (fun d=>?_)
 have v:=(aS d).1
 have y:=(aS d).2
 have an:=of_decide_eq_true v
 have ao:=al y
 refine bo<|bk<|sg<|?_
 refine L0<|aR (aD.blk k (aa k1 (aa k2 (aa k3 (aa k4 ay)))) hb2) 0<|L0<|aR m 0<|L0<|fV #[] #[] (args:=#[.pointer (some ⟨gb,0,none⟩)])<|vk (tS b) fun E F ap U V X Y Z a0=>?_
 obtain⟨aq,ar⟩:=V
 obtain⟨av,aw⟩:=X
 obtain⟨az,aB⟩:=Y
 refine L0<|bI #[.int .u16 0,.int .u16 0,.int .u16 0,.slice none 0 0] fun aE aF a1 a2 a3=>L0<|b6 a2 #[.int .u16 ((gV C).file),.int .u16 ((gV C).record),.int .u16 ((gV C).count),.slice E ((gV C).words.length) F] fun a4 a5 a6=>nt<|sq<|x8 9<|?_
 have z:=ud a3 a6 a1
 have a:=aH a0 z
 refine F0<|aR (aU a m1 m) 0<|?_
 have o:=aj.old Z z
 refine F0<|Oc<|mq (bB o)<|?_
 have aI:=aj.len o
 refine Fp<|Fp<|?_
 have G:=u1 k a im
 refine wX 19 ((((ib C).e)!=0)) (fun j=>?_) (fun j=>?_)
 have a7:=au j
 refine Fp<|Fp<|Fp<|Fp<|Fp<|qW<|tn<|c1<|rt<|br<|tr<|br<|rr (.tuple #[])<|?_
 have hfin:aN cN C0.l.length 0 C0 []=((ib C),L):=by
   rw[← hrec]
   rw[show n=(n-1)+1 from by omega]
   simp only[aN,cN,d,v,y,j,bs,if_true,if_false,decide_true,decide_false,reduceIte]
 refine⟨rfl,s,A,cp,?_⟩
 rw[hfin]
 exact⟨G,o,(aU a (Ne.symm n1) p),(aU a (Ne.symm n2) q),(ax h a (fun x hx=>(aa (fun e=>(aA (aj.lt hC) lr h) (e▸hx)) ay)) (bq.upd16 a (am (aj.safe b _ (by decide)) aG))),(aU a (Ne.symm n3) t)⟩
 have a7:=ai j
 refine Fp<|F0<|cl a5<|?_
 have H:=aU a (Ne.symm n3) t
 have a8:JR w gb gs gm l c (dH fn0 tm asg bdy D) (ib C) s L A cp a4:=⟨G,o,(aU a (Ne.symm n1) p),(aU a (Ne.symm n2) q),(ax h a (fun x hx=>(aa (fun e=>(aA (aj.lt hC) lr h) (e▸hx)) ay)) (bq.upd16 a (am (aj.safe b _ (by decide)) aG))),H⟩
 refine Fy (r:=dH fn0 tm asg bdy D) (.agg #[.int .u16 ((gV C).file),.int .u16 ((gV C).record),.int .u16 ((gV C).count),.slice E ((gV C).words.length) F]) 53 H rfl<|?_
 refine RoundIn.mono (hround _ _ _ _ _ _ (gV C) _ _ a8 (dN.upd' U z aG) (aC (by omega)) (aC (by omega)) (aC (by omega)) (by omega)) ?_
 rintro _ aJ ⟨rfl,aK,a9,ab,f⟩
 refine⟨_,rfl,?_⟩
 exact Fp<|Fp<|qW<|tn<|c0<|sk<|bn<|ga ((n-1),(ib C),s,(L++[(gV C)]),a9,ab) ⟨f.u,f.hC,f.hS,f.hm,f.hl,f.ho,(by(try dsimp only);rw[← hrec,show n=(n-1)+1 from by omega];simp only[aN,cN,d,v,y,j,bs,if_true,if_false,decide_true,decide_false,Nat.add_sub_cancel,reduceIte]),(by(try dsimp only);have hd:=ph s C (by omega);have hY:(cN s C).2.1.l.length=(ib C).l.length:=rfl;omega),(by(try dsimp only);simp only[List.length_append,List.length_cons,List.length_nil];omega),(by(try dsimp only);simp only[List.length_append,List.length_cons,List.length_nil];omega)⟩ (by omega)
 refine xt<|tx<|tx<|bx<|rm (.tuple #[])<|?_
 have hfin:aN cN C0.l.length 0 C0 []=(C,L):=by
   rw[← hrec]
   exact ge _ _ _ _ _ (by simp only[d,bs,if_true,if_false,decide_true,decide_false])
 refine⟨rfl,s,A,cp,?_⟩
 rw[hfin]
 exact⟨k,b,p,q,h,t⟩
open Go.RowKit
def ed (n:Int) : Bool:=(decide (7≤n)&&decide (n≤245))&&n%7==0
def ef (n:Int) : Bool:=decide (4≤n)&&decide (n≤245)
def ec (n:Int) : Bool:=decide (9≤n)&&decide (n≤251)
def jX (may:Int→Bool)(C:ah) : ah:=(C.bytesC 1).need (may C.byteV) 5
def sU (may:Int→Bool)(C:ah) : ah:=⟨(jX may C).bytesR C.byteV,false,0⟩
def sW (one:Int→ah→Int × ah × dl)(may:Int→Bool)(C:ah) : ah × List dl:=aN one (sU may C).l.length 0 (sU may C) []
def bp (e:Int) : Int:=if e==2 then 5 else e
def dJ (one:Int→ah→Int × ah × dl)(may:Int→Bool)(c:Int)(C:ah) : ah × aP :=
  (((jX may C).bytesC C.byteV).need ((sW one may C).1.e==0) (bp (sW one may C).1.e),{ aP.zero with code:=c,recs:=(sW one may C).2 })
def aZ (dir c:Int)(C:ah) : Option (ah × aP) :=
  if c==20 then (if dir==0 then some (dJ cM ed c C) else some (dJ bG ef c C)) else if c==21 then some (dJ cN ec c C) else none
theorem kL:((20:Int)==20)=true:=rfl
theorem lD:((21:Int)==20)=false:=rfl
theorem ld:((21:Int)==21)=true:=rfl
theorem mw{m:Md}{A:Option Addr}{cp:Nat}{b:List Int}{w:World}{dir:Int}(hd:dir=0∨dir=1)(hsl:b9 m w (.slice A b.length cp) b)(hb:b.length≤1048576) :
    Calls Tryz.prog 144 #[.int .i64 0,.int .u8 20,.slice A b.length cp] w (dD (ae aZ 0 20 b) w):=by
 have hln:(b.length:Int)≤1048576:=by omega
 have cN:((dir != 0)&&(dir != 1))=false:=by rcases hd with rfl | rfl<;>rfl
 refine vN 77 Tryz.func144 rfl<|sg<|L0<|bI mZ fun ad cO bj K af=>Pl 1<|nt<|sq<|sg<|Pl 6<|nt<|c0<|?_
 refine bo<|sg<|Pl 2<|L0<|Oc (args:=#[.int .i64 0,.int .u8 20])<|e3 sZ fun v cQ Z G N=>Pl 3<|L0<|bI #[.nilFunc,.nilFunc] fun cR cS ci bl z=>L0<|b6 bl #[.func (.func 252) #[] #[],.func (.func 250) #[] #[.pointer (some ⟨v,0,none⟩)]] fun cT cj t=>Pl 1<|nt<|sq<|sq<|?_
 refine go<|Pl 2<|nt<|c0<|bo<|sg<|Pl 1<|?_
 have ag:=ud z t ci
 have a0:=aH N ag
 have bm:=aH af a0
 refine L0<|Oc<|e3 (dI (b9.old hsl bm) (by omega)) fun a1 cU U M r=>Pl 1<|ng<|Pl 1<|L0<|Oc<|m3 (bV M) fun cV ck o cW=>L0<|Oi ((ah.mk b false 0).byteV)<|Pl 1<|ng<|?_
 refine Pl 2<|?_
 have aL:=ud r o U
 have br:=ub aL cj
 refine L0<|aR br 0<|Pl 1<|L0<|fV #[] #[] (args:=#[.int .i64 ((ah.mk b false 0).byteV)])<|m1 (oR (n:=(ah.mk b false 0).byteV) (by omega)) fun cX d=>?_
 refine L0<|Oc<|m2 (b7 ((ed ((ah.mk b false 0).byteV))) 5 (aj.old ck d)) fun cY cm i=>?_
 refine ab cm fun x49 bt bu=>?_
 refine ng<|Pl 2<|L0<|Oc<|qY (cG (n:=(ah.mk b false 0).byteV) bu) fun cZ d0 d1 co d2 d3 cq j=>?_
 have d4:=Nat.le_trans (ah.bytesR_le x49 ((ah.mk b false 0).byteV)) (aj.len bu)
 refine ab cq fun x58 bv aM=>?_
 refine L0<|Oc<|e3 (dI co (by omega)) fun O d5 P Q g=>Pl 1<|ng<|Pl 2<|L0<|bI mZ fun B d6 H V p=>L0<|b6 V (mC 20) fun d7 cs h=>nt<|sq<|sg<|?_
 refine Pl 2<|?_
 have al:=ud p h H
 have an:=aH g al
 have bw:=uz d (u1 i (aH j an) im)
 refine L0<|aR (aU bw (nb (ak bl) t.size U) br) 1<|L0<|Oc<|vk (jo (gb:=O) (f:=.func 250) (x:=#[]) (y:=#[.pointer (some ⟨v,0,none⟩)])) fun ct cu d8 aO aS d9 bx bA k=>nt<|bk<|?_
 refine nQ (f:=257) #[.pointer (some ⟨ct,0,none⟩),.pointer (some ⟨cu,0,none⟩)] fun a ha=>?_
 intro da cv I db D E bC ao S J
 have bE:=nb (aj.lt Q) lr H
 have ap:=nb (aj.lt Q) (le (le p.size h.size) k.size) E
 have bF:=nb (ak G) (le (le (le (le (le (le (le z.size t.size) r.size) o.size) d.size) i.size) j.size) g.size) H
 have bG:=nb (ak G) (le (le (le (le (le (le (le (le (le (le z.size t.size) r.size) o.size) d.size) i.size) j.size) g.size) p.size) h.size) k.size) E
 have a2:=nb (ak V) (le h.size k.size) E
 have X:=aH k J
 have bH:=aj.old Q (aH al X)
 have ar:=ud aL (aH bw X) U
 have bJ:=ub (aH ag ar) G
 have aV:=ub X cs
 refine(uL (c:=20) bH bJ aV S (ub J bx) (ub J bA) (Ne.symm (nb (ak G) (le (le (le (le (le (le z.size t.size) r.size) o.size) d.size) i.size) j.size) P)) bE ap bF bG a2 (Ne.symm (nb (aj.lt Q) al.size aO)) (Ne.symm (nb (ak G) (le (le (le (le (le (le (le (le (le z.size t.size) r.size) o.size) d.size) i.size) j.size) g.size) p.size) h.size) aO)) (Ne.symm (nb (ak V) h.size aO)) (nb (ak bx) lr E) (Ne.symm (nb (aj.lt Q) al.size aS)) (Ne.symm (nb (ak G) (le (le (le (le (le (le (le (le (le z.size t.size) r.size) o.size) d.size) i.size) j.size) g.size) p.size) h.size) aS)) (Ne.symm (nb (ak V) h.size aS)) (nb (ak bA) lr E) ?_).mono ?_
 intro W C s L Ar cr x Ax cx hJ hrd hx1 hx2 hx3 hL
 simp only[dm] at hx1 hx2 hx3
 have hm2:W.heap[B]? = some (.cells #[.int .u8 20,.int .u8 0,.int .u16 0,.int .u16 0,.int .u16 0,.int .u16 0,.int .u16 0,.int .u16 0,.int .u16 0,.int .u16 0,.int .u16 0,.int .u16 0,.slice none 0 0,.slice none 0 0,.slice none 0 0,.slice Ar L.length cr,.int .u8 0,.int .u8 0,.int .u8 0,.int .u8 0,.int .u8 0,.slice none 0 0] 30 (0,0)):=hJ.hm
 refine jc hJ.hl ?_
 refine wR ha 53<|vG<|kA<|bI #[.int .u16 0,.int .u16 0,.int .u16 0,.slice none 0 0] fun dd de bK cw bL=>kA<|b6 cw #[.int .u16 x.file,.int .u16 x.record,.int .u16 x.count,.slice Ax x.words.length cx] fun df cy bM=>qW<|?_
 have bN:=ud bL bM bK
 refine xk (ub bN hJ.hl) (by trivial) fun dg cz aW=>xc<|vG<|vI<|?_
 have aX:=uz bN aW
 have bO:=aU aX a2 hm2
 refine kA<|aR bO 15<|?_
 refine kA<|cl (aU aW (Ne.symm (nb (ak S) hJ.u.size bK)) cy)<|kA<|dx (m:=1) (e:=109) #[.int .u16 x.file,.int .u16 x.record,.int .u16 x.count,.slice Ax x.words.length cx] fun dh di dj cA aY=>?_
 have Y:=aH aX aY
 have cB:=iZ (R:=bq true) (x:=(dl.mk x.file x.record x.count x.words)) cA rfl ⟨_,rfl,(dN.updl hrd Y hJ.hl rfl),aC (by omega),aC (by omega),aC (by omega)⟩
 have b0:=ax hJ.ho Y (fun x hx=>(aa (fun e=>(aA (ak S) lr hJ.ho) (e▸hx)) ay)) (bq.updl Y hJ.hl rfl)
 refine kA<|gi (xs:=L) (ys:=([(dl.mk x.file x.record x.count x.words)])) (.agg #[.int .u16 0,.int .u16 0,.int .u16 0,.slice none 0 0]) 4 32 b0 cB (by simp) bq.ones (fun w' hv=>bq.upd16 hv (cP (dc _ b0 (by decide)) aG)) (by(try simp only[List.length_append,List.length_cons,List.length_nil,aB]);omega) (le (le (le (le hJ.u.size bL.size) bM.size) aW.size) aY.size) fun bP bQ dk b1 aw=>vI<|?_
 have bR:=ut (aD.mono (S':=(ob Ar++[])) aY aq) aw (av il aq)
 have b2:=aD.blk bR (bi (aA (ak aV) lr hJ.ho) ay) bO
 refine kA<|bT b2 15 (mG 20 0 0 0 0 0 0 0 0 0 0 0 nS nS nS (.slice bP ((L++[(dl.mk x.file x.record x.count x.words)]).length) bQ) 0 0 0 0 0 nS) fun dn cC a3=>qW<|bn<|?_
 have bS:=u1 (aD.mono (S':=(ob Ar++(B :: []))) bR (av il aq)) a3 im
 have b3:=aD.blk bS (bi (aA (ak S) lr hJ.ho) (aa (Ne.symm a2) ay)) cz
 refine x9 b3 fun dp cD a4=>?_
 have b4:=ut (aD.mono (S':=(I :: (ob Ar++(B :: [])))) Y (ac im aq)) (ut (aD.mono (S':=(ob Ar++(B :: (I :: [])))) aw (av il aq)) (us a3 a4) (ac im (ac im aq))) (av il (ac im (ac im aq)))
 have dq:=ut hJ.u (ut (aD.mono (S':=(I :: (ob Ar++(B :: [])))) aX (ac im aq)) bS (av il (ac im aq))) (ac im (av (aT hJ.ho lr) (ac im aq)))
 have dr:=ut hJ.u (ut (aD.mono (S':=(I :: (ob Ar++[]))) Y (ac im aq)) aw (av il aq)) (ac im (av (aT hJ.ho lr) aq))
 exact⟨by trivial,b4.size,bP,bQ,⟨(ut hJ.u b4 (ac im (av (aT hJ.ho lr) (ac im aq)))),(aj.updl (aj.upd (aj.upd (aj.updl hJ.hC Y (aa ap ay) hJ.hl rfl) aw (bi (aA (aj.lt bH) lr hJ.ho) ay) (cP (dc _ b0 (by decide)) aG)) a3 (aa bE ay) (am (aQ b2 (by decide)) aG)) a4 (aa ap ay) b3 rfl),(aD.blk b4 (aa bG (bi (aA (ak bJ) lr hJ.ho) (aa bF ay))) hJ.hS),(aU a4 a2 cC),(ax (ax b1 a3 (fun x hx=>(aa (fun e=>(aA (ak aV) lr b1) (e▸hx)) ay)) (bq.upd16 a3 (am (aQ b2 (by decide)) aG))) a4 (fun x hx=>(aa (fun e=>(aA (ak S) lr b1) (e▸hx)) ay)) (bq.updl a4 b3 rfl)),cD⟩⟩
 rintro _ cE ⟨rfl,ds,bU,bW,q⟩
 refine⟨_,_,rfl,q.hl,by simp[dH],by trivial,fun dt bX=>?_⟩
 refine ab q.hC fun b5 bY cF=>?_
 have cH:cE.heap[B]? = some (.cells #[.int .u8 20,.int .u8 0,.int .u16 0,.int .u16 0,.int .u16 0,.int .u16 0,.int .u16 0,.int .u16 0,.int .u16 0,.int .u16 0,.int .u16 0,.int .u16 0,.slice none 0 0,.slice none 0 0,.slice none 0 0,.slice bU ((aN cM (ah.mk (x49.bytesR ((ah.mk b false 0).byteV)) false 0).l.length 0 (ah.mk (x49.bytesR ((ah.mk b false 0).byteV)) false 0) []).2.length) bW,.int .u8 0,.int .u8 0,.int .u8 0,.int .u8 0,.int .u8 0,.slice none 0 0] 30 (0,0)):=q.hm
 refine bn<|tn<|sg<|Pl 2<|?_
 have az:=aj.updl cF bX (aa ap ay) q.hl rfl
 refine L0<|Oc<|mq (bB az)<|?_
 have du:=aj.len az
 refine Pl 2<|L0<|Oc<|mq (bB az)<|?_
 have dv:=aj.len az
 refine L0<|Oc<|m1 (gT (e:=b5.e)) fun dw cI=>?_
 have F:=aH bX cI
 have c1:=u1 q.u F im
 have ba:=nb (ak G) ag.size U
 have aE:=ud aL (uz d (u1 i j im)) U
 have bb:=ub (aH ag aE) G
 have bc:=aj.upd aM (ut (aD.mono (S':=[v]) an aq) (ut (aD.mono (S':=[O,v,B]) X aq) c1 (ac im (ac im (ac im (ac (ni k.size E) aq))))) (ac (nr P) (ac im (ac (ni g.size H) aq)))) (aa (Ne.symm ba) ay) (am (aQ bb (by decide)) aG)
 refine L0<|Oc<|m2 (b7 ((b5.e==0)) (bp b5.e) bc) fun dy cJ T=>?_
 refine ab cJ fun c2 c3 bd=>?_
 refine ng<|Pl 1<|L0<|Oc<|m2 (cn bd) fun dz c4 a5=>nt<|sq<|sg<|Pl 1<|L0<|Oc<|mq (bB c4)<|?_
 have dA:=aj.len c4
 refine Pl 1<|ng<|Pl 2<|nt<|?_
 have a6:=u1 T a5 im
 have be:=u1 (aD.mono (S':=[O,v,B,I,a1]) c1 (ac im (ac im (ac im (ac im aq))))) a6 im
 have bf:=ut (aD.mono (S':=[v]) ar aq) be (ac (ni aE.size P) (ac im (ac (ni (le (le (le (le (le r.size o.size) d.size) i.size) j.size) g.size) H) (ac (ni (le (le (le (le (le (le (le (le r.size o.size) d.size) i.size) j.size) g.size) p.size) h.size) k.size) E) (ac (nr U) aq)))))
 have c5:=ud bm bf (le af.size Z)
 refine cb ((c2.endC.e != 0)) (fun a7=>?_) (fun a7=>?_)
 have bg:=au a7
 refine sg<|Pl 2<|?_
 have c6:=ub (ud a0 bf Z) K
 refine L0<|b6 c6 mZ fun dB cK a8=>Pl 1<|nt<|rt<|tr<|?_
 have c7:=nb (ak K) (le (le (le (le (le (le (le (le (le (le (le N.size z.size) t.size) r.size) o.size) d.size) i.size) j.size) g.size) p.size) h.size) k.size) D
 have c8:=aD.blk (u1 (aD.mono (S':=[O,v,B,I,a1,ad]) be (ac im (ac im (ac im (ac im (ac im aq)))))) a8 im) (aa (Ne.symm (nb (aj.lt Q) (le (le p.size h.size) k.size) D)) (aa (Ne.symm (nb (ak G) (le (le (le (le (le (le (le (le (le (le z.size t.size) r.size) o.size) d.size) i.size) j.size) g.size) p.size) h.size) k.size) D)) (aa (Ne.symm (nb (ak V) (le h.size k.size) D)) (aa bC (aa (Ne.symm (nb (aj.lt M) (le (le (le (le (le (le (le o.size d.size) i.size) j.size) g.size) p.size) h.size) k.size) D)) (aa (Ne.symm c7) ay)))))) ao
 refine vL c8 fun dC aI=>?_
 refine rx (aU aI c7 cK) (.int .i64 c2.endC.e)<|?_
 subst c3 bY bv bt
 have c9:=us a8 aI
 have dE:=us F (us a6 c9)
 have dF:=us F (us a6 a8)
 have dG:=ub (ud a0 (ut (aD.mono (S':=[v]) ar aq) q.u (ac (ni aE.size P) (ac im (ac (ni (le (le (le (le (le r.size o.size) d.size) i.size) j.size) g.size) H) (ac (ni (le (le (le (le (le (le (le (le r.size o.size) d.size) i.size) j.size) g.size) p.size) h.size) k.size) E) aq))))) Z) K
 have dK:=aj.upd aM (ut (aD.mono (S':=[v]) an aq) (ut (aD.mono (S':=[O,v,B]) X aq) q.u (ac im (ac im (ac im (ac (ni k.size E) aq))))) (ac (nr P) (ac im (ac (ni g.size H) aq)))) (aa (Ne.symm ba) ay) (am (aQ bb (by decide)) aG)
 have dL:=us F a6
 have dM:=us F T
 have dO:=ax (ax (ax (ax (ax q.ho F (fun x hx=>(aa (fun e=>(aA (ak S) lr q.ho) (e▸hx)) ay)) (bq.updl F q.hl rfl)) T (fun x hx=>(aa (fun e=>(aA (aj.lt M) (le (le (le (le (le (le (le (le o.size d.size) i.size) j.size) g.size) p.size) h.size) k.size) J.size) q.ho) (e▸hx)) ay)) (bq.upd16 T (am (aj.safe bc _ (by decide)) aG))) a5 (fun x hx=>(aa (fun e=>(aA (aj.lt M) (le (le (le (le (le (le (le (le o.size d.size) i.size) j.size) g.size) p.size) h.size) k.size) J.size) q.ho) (e▸hx)) ay)) (bq.upd16 a5 (am (aj.safe bd _ (by decide)) aG))) a8 (fun x hx=>(aa (fun e=>(aA (ak K) (le (le (le (le (le (le (le (le (le (le (le (le N.size z.size) t.size) r.size) o.size) d.size) i.size) j.size) g.size) p.size) h.size) k.size) J.size) q.ho) (e▸hx)) ay)) (bq.upd16 a8 (am (aQ c6 (by decide)) aG))) aI (fun x hx=>(aa (fun e=>(aA (ak ao) lr q.ho) (e▸hx)) ay)) (bq.updl aI c8 rfl)
 have hs:ae aZ 0 20 b=aF (aP.mk 20 0 0 0 0 0 0 0 0 0 0 0 [] [] [] (aN cM (ah.mk ((((ah.mk b false 0).bytesC 1).need (ed ((ah.mk b false 0).byteV)) 5).bytesR ((ah.mk b false 0).byteV)) false 0).l.length 0 (ah.mk ((((ah.mk b false 0).bytesC 1).need (ed ((ah.mk b false 0).byteV)) 5).bytesR ((ah.mk b false 0).byteV)) false 0) []).2 0 0 0 0 0 []) (((((ah.mk b false 0).bytesC 1).need (ed ((ah.mk b false 0).byteV)) 5).bytesC ((ah.mk b false 0).byteV)).need (((aN cM (ah.mk ((((ah.mk b false 0).bytesC 1).need (ed ((ah.mk b false 0).byteV)) 5).bytesR ((ah.mk b false 0).byteV)) false 0).l.length 0 (ah.mk ((((ah.mk b false 0).bytesC 1).need (ed ((ah.mk b false 0).byteV)) 5).bytesR ((ah.mk b false 0).byteV)) false 0) []).1).e==0) (bp ((aN cM (ah.mk ((((ah.mk b false 0).bytesC 1).need (ed ((ah.mk b false 0).byteV)) 5).bytesR ((ah.mk b false 0).byteV)) false 0).l.length 0 (ah.mk ((((ah.mk b false 0).bytesC 1).need (ed ((ah.mk b false 0).byteV)) 5).bytesR ((ah.mk b false 0).byteV)) false 0) []).1).e)):=by
   unfold ae aZ dJ sW sU jX
   (try simp only[a7,bs,if_true,if_false,decide_true,decide_false,eq_self,true_or,or_true,or_false,false_or,if_true,if_false,ch,cg,cc,bZ,reduceIte,kL,lD,ld])
   all_goals rfl
 rw[hs]
 exact bz bg (ut c5 c9 (ac (nr bj) (ac (ni (le (le (le (le (le (le (le (le (le (le (le (le af.size N.size) z.size) t.size) r.size) o.size) d.size) i.size) j.size) g.size) p.size) h.size) k.size) D) aq)))
 have bg:=ai a7
 refine bo<|sg<|?_
 have bh:=us F a6
 refine L0<|cl (aD.blk bh (aa a2 (aa (Ne.symm (nb (aj.lt M) (le (le (le (le o.size d.size) i.size) j.size) g.size) H)) ay)) cH)<|?_
 have ca:=ub (ud a0 bf Z) K
 refine L0<|b6 ca (mG 20 0 0 0 0 0 0 0 0 0 0 0 nS nS nS (.slice bU ((aN cM (ah.mk (x49.bytesR ((ah.mk b false 0).byteV)) false 0).l.length 0 (ah.mk (x49.bytesR ((ah.mk b false 0).byteV)) false 0) []).2.length) bW) 0 0 0 0 0 nS) fun dP cL a9=>Pl 1<|nt<|rt<|?_
 have cd:=nb (ak K) (le (le (le (le (le (le (le (le (le (le (le N.size z.size) t.size) r.size) o.size) d.size) i.size) j.size) g.size) p.size) h.size) k.size) D
 have ce:=aD.blk (u1 (aD.mono (S':=[O,v,B,I,a1,ad]) be (ac im (ac im (ac im (ac im (ac im aq)))))) a9 im) (aa (Ne.symm (nb (aj.lt Q) (le (le p.size h.size) k.size) D)) (aa (Ne.symm (nb (ak G) (le (le (le (le (le (le (le (le (le (le z.size t.size) r.size) o.size) d.size) i.size) j.size) g.size) p.size) h.size) k.size) D)) (aa (Ne.symm (nb (ak V) (le h.size k.size) D)) (aa bC (aa (Ne.symm (nb (aj.lt M) (le (le (le (le (le (le (le o.size d.size) i.size) j.size) g.size) p.size) h.size) k.size) D)) (aa (Ne.symm cd) ay)))))) ao
 refine vL ce fun dQ aJ=>?_
 refine rx (aU aJ cd cL) (.int .i64 0)<|?_
 subst c3 bY bv bt
 have cf:=us a9 aJ
 have dR:=ut (aD.mono (S':=[I,a1,ad,cv]) bh (ac im (ac im aq))) cf (ac im (ac im aq))
 have dS:=u1 (aD.mono (S':=[I,a1,ad]) bh (ac im (ac im aq))) a9 im
 have dT:=ub (ud a0 (ut (aD.mono (S':=[v]) ar aq) q.u (ac (ni aE.size P) (ac im (ac (ni (le (le (le (le (le r.size o.size) d.size) i.size) j.size) g.size) H) (ac (ni (le (le (le (le (le (le (le (le r.size o.size) d.size) i.size) j.size) g.size) p.size) h.size) k.size) E) aq))))) Z) K
 have dU:=aj.upd aM (ut (aD.mono (S':=[v]) an aq) (ut (aD.mono (S':=[O,v,B]) X aq) q.u (ac im (ac im (ac im (ac (ni k.size E) aq))))) (ac (nr P) (ac im (ac (ni g.size H) aq)))) (aa (Ne.symm ba) ay) (am (aQ bb (by decide)) aG)
 have dV:=us F T
 have hs:ae aZ 0 20 b=aF (aP.mk 20 0 0 0 0 0 0 0 0 0 0 0 [] [] [] (aN cM (ah.mk ((((ah.mk b false 0).bytesC 1).need (ed ((ah.mk b false 0).byteV)) 5).bytesR ((ah.mk b false 0).byteV)) false 0).l.length 0 (ah.mk ((((ah.mk b false 0).bytesC 1).need (ed ((ah.mk b false 0).byteV)) 5).bytesR ((ah.mk b false 0).byteV)) false 0) []).2 0 0 0 0 0 []) (((((ah.mk b false 0).bytesC 1).need (ed ((ah.mk b false 0).byteV)) 5).bytesC ((ah.mk b false 0).byteV)).need (((aN cM (ah.mk ((((ah.mk b false 0).bytesC 1).need (ed ((ah.mk b false 0).byteV)) 5).bytesR ((ah.mk b false 0).byteV)) false 0).l.length 0 (ah.mk ((((ah.mk b false 0).bytesC 1).need (ed ((ah.mk b false 0).byteV)) 5).bytesR ((ah.mk b false 0).byteV)) false 0) []).1).e==0) (bp ((aN cM (ah.mk ((((ah.mk b false 0).bytesC 1).need (ed ((ah.mk b false 0).byteV)) 5).bytesR ((ah.mk b false 0).byteV)) false 0).l.length 0 (ah.mk ((((ah.mk b false 0).bytesC 1).need (ed ((ah.mk b false 0).byteV)) 5).bytesR ((ah.mk b false 0).byteV)) false 0) []).1).e)):=by
   unfold ae aZ dJ sW sU jX
   (try simp only[a7,bs,if_true,if_false,decide_true,decide_false,eq_self,true_or,or_true,or_false,false_or,if_true,if_false,ch,cg,cc,bZ,reduceIte,kL,lD,ld])
   all_goals rfl
 rw[hs]
 exact bD bg ⟨_,_,_,_,_,rfl,aK.nil ..,aK.nil ..,aK.nil ..,((ax (ax (ax (ax (ax q.ho F (fun x hx=>(aa (fun e=>(aA (ak S) lr q.ho) (e▸hx)) ay)) (bq.updl F q.hl rfl)) T (fun x hx=>(aa (fun e=>(aA (aj.lt M) (le (le (le (le (le (le (le (le o.size d.size) i.size) j.size) g.size) p.size) h.size) k.size) J.size) q.ho) (e▸hx)) ay)) (bq.upd16 T (am (aj.safe bc _ (by decide)) aG))) a5 (fun x hx=>(aa (fun e=>(aA (aj.lt M) (le (le (le (le (le (le (le (le o.size d.size) i.size) j.size) g.size) p.size) h.size) k.size) J.size) q.ho) (e▸hx)) ay)) (bq.upd16 a5 (am (aj.safe bd _ (by decide)) aG))) a9 (fun x hx=>(aa (fun e=>(aA (ak K) (le (le (le (le (le (le (le (le (le (le (le (le N.size z.size) t.size) r.size) o.size) d.size) i.size) j.size) g.size) p.size) h.size) k.size) J.size) q.ho) (e▸hx)) ay)) (bq.upd16 a9 (am (aQ ca (by decide)) aG))) aJ (fun x hx=>(aa (fun e=>(aA (ak ao) lr q.ho) (e▸hx)) ay)) (bq.updl aJ ce rfl))).rd,aK.nil ..,⟨(b8 (x:=20) (by omega)),(b8 (x:=0) (by omega)),(aC (x:=0) (by omega)),(aC (x:=0) (by omega)),(aC (x:=0) (by omega)),(aC (x:=0) (by omega)),(aC (x:=0) (by omega)),(aC (x:=0) (by omega)),(aC (x:=0) (by omega)),(aC (x:=0) (by omega)),(aC (x:=0) (by omega)),(aC (x:=0) (by omega)),(b8 (x:=0) (by omega)),(b8 (x:=0) (by omega)),(b8 (x:=0) (by omega)),(b8 (x:=0) (by omega)),(b8 (x:=0) (by omega))⟩⟩ (ut c5 cf (ac (nr bj) (ac (ni (le (le (le (le (le (le (le (le (le (le (le (le af.size N.size) z.size) t.size) r.size) o.size) d.size) i.size) j.size) g.size) p.size) h.size) k.size) D) aq)))
theorem ny{m:Md}{A:Option Addr}{cp:Nat}{b:List Int}{w:World}{dir:Int}(hd:dir=0∨dir=1)(hsl:b9 m w (.slice A b.length cp) b)(hb:b.length≤1048576) :
    Calls Tryz.prog 144 #[.int .i64 1,.int .u8 20,.slice A b.length cp] w (dD (ae aZ 1 20 b) w):=by
 have hln:(b.length:Int)≤1048576:=by omega
 have cN:((dir != 0)&&(dir != 1))=false:=by rcases hd with rfl | rfl<;>rfl
 refine vN 77 Tryz.func144 rfl<|sg<|L0<|bI mZ fun ad cO bj K af=>Pl 1<|nt<|sq<|sg<|Pl 6<|nt<|c0<|?_
 refine bo<|sg<|Pl 2<|L0<|Oc (args:=#[.int .i64 1,.int .u8 20])<|e3 tt fun z cQ Z G N=>Pl 3<|L0<|bI #[.nilFunc,.nilFunc] fun cR cS cj bl v=>L0<|b6 bl #[.func (.func 253) #[] #[],.func (.func 254) #[] #[]] fun cT ck t=>Pl 1<|nt<|sq<|sq<|?_
 refine go<|Pl 2<|nt<|c0<|bo<|sg<|Pl 1<|?_
 have ag:=ud v t cj
 have a0:=aH N ag
 have bm:=aH af a0
 refine L0<|Oc<|e3 (dI (b9.old hsl bm) (by omega)) fun a1 cU U M r=>Pl 1<|ng<|Pl 1<|L0<|Oc<|m3 (bV M) fun cV cm o cW=>L0<|Oi ((ah.mk b false 0).byteV)<|Pl 1<|ng<|?_
 refine Pl 2<|?_
 have aL:=ud r o U
 have br:=ub aL ck
 refine L0<|aR br 0<|Pl 1<|L0<|fV #[] #[] (args:=#[.int .i64 ((ah.mk b false 0).byteV)])<|m1 (oz (n:=(ah.mk b false 0).byteV) (by omega)) fun cX d=>?_
 refine L0<|Oc<|m2 (b7 ((ef ((ah.mk b false 0).byteV))) 5 (aj.old cm d)) fun cY co i=>?_
 refine ab co fun x49 bt bu=>?_
 refine ng<|Pl 2<|L0<|Oc<|qY (cG (n:=(ah.mk b false 0).byteV) bu) fun cZ d0 d1 cq d2 d3 cs j=>?_
 have d4:=Nat.le_trans (ah.bytesR_le x49 ((ah.mk b false 0).byteV)) (aj.len bu)
 refine ab cs fun x58 bv aM=>?_
 refine L0<|Oc<|e3 (dI cq (by omega)) fun O d5 P Q g=>Pl 1<|ng<|Pl 2<|L0<|bI mZ fun B d6 H V p=>L0<|b6 V (mC 20) fun d7 ct h=>nt<|sq<|sg<|?_
 refine Pl 2<|?_
 have al:=ud p h H
 have an:=aH g al
 have bw:=uz d (u1 i (aH j an) im)
 refine L0<|aR (aU bw (nb (ak bl) t.size U) br) 1<|L0<|Oc<|vk (jo (gb:=O) (f:=.func 254) (x:=#[]) (y:=#[])) fun cu cv d8 aO aS d9 bx bA k=>nt<|bk<|?_
 refine nQ (f:=257) #[.pointer (some ⟨cu,0,none⟩),.pointer (some ⟨cv,0,none⟩)] fun a ha=>?_
 intro da cw I db D E bC ao S J
 have bE:=nb (aj.lt Q) lr H
 have ap:=nb (aj.lt Q) (le (le p.size h.size) k.size) E
 have bF:=nb (ak G) (le (le (le (le (le (le (le v.size t.size) r.size) o.size) d.size) i.size) j.size) g.size) H
 have bH:=nb (ak G) (le (le (le (le (le (le (le (le (le (le v.size t.size) r.size) o.size) d.size) i.size) j.size) g.size) p.size) h.size) k.size) E
 have a2:=nb (ak V) (le h.size k.size) E
 have X:=aH k J
 have bJ:=aj.old Q (aH al X)
 have ar:=ud aL (aH bw X) U
 have bK:=ub (aH ag ar) G
 have aV:=ub X ct
 refine(vn (c:=20) bJ bK aV S (ub J bx) (ub J bA) (Ne.symm (nb (ak G) (le (le (le (le (le (le v.size t.size) r.size) o.size) d.size) i.size) j.size) P)) bE ap bF bH a2 (Ne.symm (nb (aj.lt Q) al.size aO)) (Ne.symm (nb (ak G) (le (le (le (le (le (le (le (le (le v.size t.size) r.size) o.size) d.size) i.size) j.size) g.size) p.size) h.size) aO)) (Ne.symm (nb (ak V) h.size aO)) (nb (ak bx) lr E) (Ne.symm (nb (aj.lt Q) al.size aS)) (Ne.symm (nb (ak G) (le (le (le (le (le (le (le (le (le v.size t.size) r.size) o.size) d.size) i.size) j.size) g.size) p.size) h.size) aS)) (Ne.symm (nb (ak V) h.size aS)) (nb (ak bA) lr E) ?_).mono ?_
 intro W C s L Ar cr x Ax cx hJ hrd hx1 hx2 hx3 hL
 simp only[dm] at hx1 hx2 hx3
 have hm2:W.heap[B]? = some (.cells #[.int .u8 20,.int .u8 0,.int .u16 0,.int .u16 0,.int .u16 0,.int .u16 0,.int .u16 0,.int .u16 0,.int .u16 0,.int .u16 0,.int .u16 0,.int .u16 0,.slice none 0 0,.slice none 0 0,.slice none 0 0,.slice Ar L.length cr,.int .u8 0,.int .u8 0,.int .u8 0,.int .u8 0,.int .u8 0,.slice none 0 0] 30 (0,0)):=hJ.hm
 refine jc hJ.hl ?_
 refine wR ha 53<|vG<|kA<|bI #[.int .u16 0,.int .u16 0,.int .u16 0,.slice none 0 0] fun dd de bL cy bM=>kA<|b6 cy #[.int .u16 x.file,.int .u16 x.record,.int .u16 x.count,.slice Ax x.words.length cx] fun df cz bN=>qW<|?_
 have bO:=ud bM bN bL
 refine xk (ub bO hJ.hl) (by trivial) fun dg cA aW=>xc<|vG<|vI<|?_
 have aX:=uz bO aW
 have bP:=aU aX a2 hm2
 refine kA<|aR bP 15<|?_
 refine kA<|cl (aU aW (Ne.symm (nb (ak S) hJ.u.size bL)) cz)<|kA<|dx (m:=1) (e:=109) #[.int .u16 x.file,.int .u16 x.record,.int .u16 x.count,.slice Ax x.words.length cx] fun dh di dj cB aY=>?_
 have Y:=aH aX aY
 have cC:=iZ (R:=bq true) (x:=(dl.mk x.file x.record x.count x.words)) cB rfl ⟨_,rfl,(dN.updl hrd Y hJ.hl rfl),aC (by omega),aC (by omega),aC (by omega)⟩
 have b0:=ax hJ.ho Y (fun x hx=>(aa (fun e=>(aA (ak S) lr hJ.ho) (e▸hx)) ay)) (bq.updl Y hJ.hl rfl)
 refine kA<|gi (xs:=L) (ys:=([(dl.mk x.file x.record x.count x.words)])) (.agg #[.int .u16 0,.int .u16 0,.int .u16 0,.slice none 0 0]) 4 32 b0 cC (by simp) bq.ones (fun w' hv=>bq.upd16 hv (cP (dc _ b0 (by decide)) aG)) (by(try simp only[List.length_append,List.length_cons,List.length_nil,aB]);omega) (le (le (le (le hJ.u.size bM.size) bN.size) aW.size) aY.size) fun bQ bR dk b1 aw=>vI<|?_
 have bS:=ut (aD.mono (S':=(ob Ar++[])) aY aq) aw (av il aq)
 have b2:=aD.blk bS (bi (aA (ak aV) lr hJ.ho) ay) bP
 refine kA<|bT b2 15 (mG 20 0 0 0 0 0 0 0 0 0 0 0 nS nS nS (.slice bQ ((L++[(dl.mk x.file x.record x.count x.words)]).length) bR) 0 0 0 0 0 nS) fun dn cD a3=>qW<|bn<|?_
 have bU:=u1 (aD.mono (S':=(ob Ar++(B :: []))) bS (av il aq)) a3 im
 have b3:=aD.blk bU (bi (aA (ak S) lr hJ.ho) (aa (Ne.symm a2) ay)) cA
 refine x9 b3 fun dp cE a4=>?_
 have b4:=ut (aD.mono (S':=(I :: (ob Ar++(B :: [])))) Y (ac im aq)) (ut (aD.mono (S':=(ob Ar++(B :: (I :: [])))) aw (av il aq)) (us a3 a4) (ac im (ac im aq))) (av il (ac im (ac im aq)))
 have dq:=ut hJ.u (ut (aD.mono (S':=(I :: (ob Ar++(B :: [])))) aX (ac im aq)) bU (av il (ac im aq))) (ac im (av (aT hJ.ho lr) (ac im aq)))
 have dr:=ut hJ.u (ut (aD.mono (S':=(I :: (ob Ar++[]))) Y (ac im aq)) aw (av il aq)) (ac im (av (aT hJ.ho lr) aq))
 exact⟨by trivial,b4.size,bQ,bR,⟨(ut hJ.u b4 (ac im (av (aT hJ.ho lr) (ac im aq)))),(aj.updl (aj.upd (aj.upd (aj.updl hJ.hC Y (aa ap ay) hJ.hl rfl) aw (bi (aA (aj.lt bJ) lr hJ.ho) ay) (cP (dc _ b0 (by decide)) aG)) a3 (aa bE ay) (am (aQ b2 (by decide)) aG)) a4 (aa ap ay) b3 rfl),(aD.blk b4 (aa bH (bi (aA (ak bK) lr hJ.ho) (aa bF ay))) hJ.hS),(aU a4 a2 cD),(ax (ax b1 a3 (fun x hx=>(aa (fun e=>(aA (ak aV) lr b1) (e▸hx)) ay)) (bq.upd16 a3 (am (aQ b2 (by decide)) aG))) a4 (fun x hx=>(aa (fun e=>(aA (ak S) lr b1) (e▸hx)) ay)) (bq.updl a4 b3 rfl)),cE⟩⟩
 rintro _ cF ⟨rfl,ds,bW,bX,q⟩
 refine⟨_,_,rfl,q.hl,by simp[dH],by trivial,fun dt bY=>?_⟩
 refine ab q.hC fun b5 c1 cH=>?_
 have cI:cF.heap[B]? = some (.cells #[.int .u8 20,.int .u8 0,.int .u16 0,.int .u16 0,.int .u16 0,.int .u16 0,.int .u16 0,.int .u16 0,.int .u16 0,.int .u16 0,.int .u16 0,.int .u16 0,.slice none 0 0,.slice none 0 0,.slice none 0 0,.slice bW ((aN bG (ah.mk (x49.bytesR ((ah.mk b false 0).byteV)) false 0).l.length 0 (ah.mk (x49.bytesR ((ah.mk b false 0).byteV)) false 0) []).2.length) bX,.int .u8 0,.int .u8 0,.int .u8 0,.int .u8 0,.int .u8 0,.slice none 0 0] 30 (0,0)):=q.hm
 refine bn<|tn<|sg<|Pl 2<|?_
 have az:=aj.updl cH bY (aa ap ay) q.hl rfl
 refine L0<|Oc<|mq (bB az)<|?_
 have du:=aj.len az
 refine Pl 2<|L0<|Oc<|mq (bB az)<|?_
 have dv:=aj.len az
 refine L0<|Oc<|m1 (gT (e:=b5.e)) fun dw cJ=>?_
 have F:=aH bY cJ
 have c2:=u1 q.u F im
 have ba:=nb (ak G) ag.size U
 have aE:=ud aL (uz d (u1 i j im)) U
 have bb:=ub (aH ag aE) G
 have bc:=aj.upd aM (ut (aD.mono (S':=[z]) an aq) (ut (aD.mono (S':=[O,z,B]) X aq) c2 (ac im (ac im (ac im (ac (ni k.size E) aq))))) (ac (nr P) (ac im (ac (ni g.size H) aq)))) (aa (Ne.symm ba) ay) (am (aQ bb (by decide)) aG)
 refine L0<|Oc<|m2 (b7 ((b5.e==0)) (bp b5.e) bc) fun dy cK T=>?_
 refine ab cK fun c3 c4 bd=>?_
 refine ng<|Pl 1<|L0<|Oc<|m2 (cn bd) fun dz c5 a5=>nt<|sq<|sg<|Pl 1<|L0<|Oc<|mq (bB c5)<|?_
 have dA:=aj.len c5
 refine Pl 1<|ng<|Pl 2<|nt<|?_
 have a6:=u1 T a5 im
 have be:=u1 (aD.mono (S':=[O,z,B,I,a1]) c2 (ac im (ac im (ac im (ac im aq))))) a6 im
 have bf:=ut (aD.mono (S':=[z]) ar aq) be (ac (ni aE.size P) (ac im (ac (ni (le (le (le (le (le r.size o.size) d.size) i.size) j.size) g.size) H) (ac (ni (le (le (le (le (le (le (le (le r.size o.size) d.size) i.size) j.size) g.size) p.size) h.size) k.size) E) (ac (nr U) aq)))))
 have c6:=ud bm bf (le af.size Z)
 refine cb ((c3.endC.e != 0)) (fun a7=>?_) (fun a7=>?_)
 have bg:=au a7
 refine sg<|Pl 2<|?_
 have c7:=ub (ud a0 bf Z) K
 refine L0<|b6 c7 mZ fun dB cL a8=>Pl 1<|nt<|rt<|tr<|?_
 have c8:=nb (ak K) (le (le (le (le (le (le (le (le (le (le (le N.size v.size) t.size) r.size) o.size) d.size) i.size) j.size) g.size) p.size) h.size) k.size) D
 have c9:=aD.blk (u1 (aD.mono (S':=[O,z,B,I,a1,ad]) be (ac im (ac im (ac im (ac im (ac im aq)))))) a8 im) (aa (Ne.symm (nb (aj.lt Q) (le (le p.size h.size) k.size) D)) (aa (Ne.symm (nb (ak G) (le (le (le (le (le (le (le (le (le (le v.size t.size) r.size) o.size) d.size) i.size) j.size) g.size) p.size) h.size) k.size) D)) (aa (Ne.symm (nb (ak V) (le h.size k.size) D)) (aa bC (aa (Ne.symm (nb (aj.lt M) (le (le (le (le (le (le (le o.size d.size) i.size) j.size) g.size) p.size) h.size) k.size) D)) (aa (Ne.symm c8) ay)))))) ao
 refine vL c9 fun dC aI=>?_
 refine rx (aU aI c8 cL) (.int .i64 c3.endC.e)<|?_
 subst c4 c1 bv bt
 have ca:=us a8 aI
 have dE:=us F (us a6 ca)
 have dF:=us F (us a6 a8)
 have dG:=ub (ud a0 (ut (aD.mono (S':=[z]) ar aq) q.u (ac (ni aE.size P) (ac im (ac (ni (le (le (le (le (le r.size o.size) d.size) i.size) j.size) g.size) H) (ac (ni (le (le (le (le (le (le (le (le r.size o.size) d.size) i.size) j.size) g.size) p.size) h.size) k.size) E) aq))))) Z) K
 have dK:=aj.upd aM (ut (aD.mono (S':=[z]) an aq) (ut (aD.mono (S':=[O,z,B]) X aq) q.u (ac im (ac im (ac im (ac (ni k.size E) aq))))) (ac (nr P) (ac im (ac (ni g.size H) aq)))) (aa (Ne.symm ba) ay) (am (aQ bb (by decide)) aG)
 have dL:=us F a6
 have dM:=us F T
 have dO:=ax (ax (ax (ax (ax q.ho F (fun x hx=>(aa (fun e=>(aA (ak S) lr q.ho) (e▸hx)) ay)) (bq.updl F q.hl rfl)) T (fun x hx=>(aa (fun e=>(aA (aj.lt M) (le (le (le (le (le (le (le (le o.size d.size) i.size) j.size) g.size) p.size) h.size) k.size) J.size) q.ho) (e▸hx)) ay)) (bq.upd16 T (am (aj.safe bc _ (by decide)) aG))) a5 (fun x hx=>(aa (fun e=>(aA (aj.lt M) (le (le (le (le (le (le (le (le o.size d.size) i.size) j.size) g.size) p.size) h.size) k.size) J.size) q.ho) (e▸hx)) ay)) (bq.upd16 a5 (am (aj.safe bd _ (by decide)) aG))) a8 (fun x hx=>(aa (fun e=>(aA (ak K) (le (le (le (le (le (le (le (le (le (le (le (le N.size v.size) t.size) r.size) o.size) d.size) i.size) j.size) g.size) p.size) h.size) k.size) J.size) q.ho) (e▸hx)) ay)) (bq.upd16 a8 (am (aQ c7 (by decide)) aG))) aI (fun x hx=>(aa (fun e=>(aA (ak ao) lr q.ho) (e▸hx)) ay)) (bq.updl aI c9 rfl)
 have hs:ae aZ 1 20 b=aF (aP.mk 20 0 0 0 0 0 0 0 0 0 0 0 [] [] [] (aN bG (ah.mk ((((ah.mk b false 0).bytesC 1).need (ef ((ah.mk b false 0).byteV)) 5).bytesR ((ah.mk b false 0).byteV)) false 0).l.length 0 (ah.mk ((((ah.mk b false 0).bytesC 1).need (ef ((ah.mk b false 0).byteV)) 5).bytesR ((ah.mk b false 0).byteV)) false 0) []).2 0 0 0 0 0 []) (((((ah.mk b false 0).bytesC 1).need (ef ((ah.mk b false 0).byteV)) 5).bytesC ((ah.mk b false 0).byteV)).need (((aN bG (ah.mk ((((ah.mk b false 0).bytesC 1).need (ef ((ah.mk b false 0).byteV)) 5).bytesR ((ah.mk b false 0).byteV)) false 0).l.length 0 (ah.mk ((((ah.mk b false 0).bytesC 1).need (ef ((ah.mk b false 0).byteV)) 5).bytesR ((ah.mk b false 0).byteV)) false 0) []).1).e==0) (bp ((aN bG (ah.mk ((((ah.mk b false 0).bytesC 1).need (ef ((ah.mk b false 0).byteV)) 5).bytesR ((ah.mk b false 0).byteV)) false 0).l.length 0 (ah.mk ((((ah.mk b false 0).bytesC 1).need (ef ((ah.mk b false 0).byteV)) 5).bytesR ((ah.mk b false 0).byteV)) false 0) []).1).e)):=by
   unfold ae aZ dJ sW sU jX
   (try simp only[a7,bs,if_true,if_false,decide_true,decide_false,eq_self,true_or,or_true,or_false,false_or,if_true,if_false,ch,cg,cc,bZ,reduceIte,kL,lD,ld])
   all_goals rfl
 rw[hs]
 exact bz bg (ut c6 ca (ac (nr bj) (ac (ni (le (le (le (le (le (le (le (le (le (le (le (le af.size N.size) v.size) t.size) r.size) o.size) d.size) i.size) j.size) g.size) p.size) h.size) k.size) D) aq)))
 have bg:=ai a7
 refine bo<|sg<|?_
 have bh:=us F a6
 refine L0<|cl (aD.blk bh (aa a2 (aa (Ne.symm (nb (aj.lt M) (le (le (le (le o.size d.size) i.size) j.size) g.size) H)) ay)) cI)<|?_
 have cd:=ub (ud a0 bf Z) K
 refine L0<|b6 cd (mG 20 0 0 0 0 0 0 0 0 0 0 0 nS nS nS (.slice bW ((aN bG (ah.mk (x49.bytesR ((ah.mk b false 0).byteV)) false 0).l.length 0 (ah.mk (x49.bytesR ((ah.mk b false 0).byteV)) false 0) []).2.length) bX) 0 0 0 0 0 nS) fun dP cM a9=>Pl 1<|nt<|rt<|?_
 have ce:=nb (ak K) (le (le (le (le (le (le (le (le (le (le (le N.size v.size) t.size) r.size) o.size) d.size) i.size) j.size) g.size) p.size) h.size) k.size) D
 have cf:=aD.blk (u1 (aD.mono (S':=[O,z,B,I,a1,ad]) be (ac im (ac im (ac im (ac im (ac im aq)))))) a9 im) (aa (Ne.symm (nb (aj.lt Q) (le (le p.size h.size) k.size) D)) (aa (Ne.symm (nb (ak G) (le (le (le (le (le (le (le (le (le (le v.size t.size) r.size) o.size) d.size) i.size) j.size) g.size) p.size) h.size) k.size) D)) (aa (Ne.symm (nb (ak V) (le h.size k.size) D)) (aa bC (aa (Ne.symm (nb (aj.lt M) (le (le (le (le (le (le (le o.size d.size) i.size) j.size) g.size) p.size) h.size) k.size) D)) (aa (Ne.symm ce) ay)))))) ao
 refine vL cf fun dQ aJ=>?_
 refine rx (aU aJ ce cM) (.int .i64 0)<|?_
 subst c4 c1 bv bt
 have ci:=us a9 aJ
 have dR:=ut (aD.mono (S':=[I,a1,ad,cw]) bh (ac im (ac im aq))) ci (ac im (ac im aq))
 have dS:=u1 (aD.mono (S':=[I,a1,ad]) bh (ac im (ac im aq))) a9 im
 have dT:=ub (ud a0 (ut (aD.mono (S':=[z]) ar aq) q.u (ac (ni aE.size P) (ac im (ac (ni (le (le (le (le (le r.size o.size) d.size) i.size) j.size) g.size) H) (ac (ni (le (le (le (le (le (le (le (le r.size o.size) d.size) i.size) j.size) g.size) p.size) h.size) k.size) E) aq))))) Z) K
 have dU:=aj.upd aM (ut (aD.mono (S':=[z]) an aq) (ut (aD.mono (S':=[O,z,B]) X aq) q.u (ac im (ac im (ac im (ac (ni k.size E) aq))))) (ac (nr P) (ac im (ac (ni g.size H) aq)))) (aa (Ne.symm ba) ay) (am (aQ bb (by decide)) aG)
 have dV:=us F T
 have hs:ae aZ 1 20 b=aF (aP.mk 20 0 0 0 0 0 0 0 0 0 0 0 [] [] [] (aN bG (ah.mk ((((ah.mk b false 0).bytesC 1).need (ef ((ah.mk b false 0).byteV)) 5).bytesR ((ah.mk b false 0).byteV)) false 0).l.length 0 (ah.mk ((((ah.mk b false 0).bytesC 1).need (ef ((ah.mk b false 0).byteV)) 5).bytesR ((ah.mk b false 0).byteV)) false 0) []).2 0 0 0 0 0 []) (((((ah.mk b false 0).bytesC 1).need (ef ((ah.mk b false 0).byteV)) 5).bytesC ((ah.mk b false 0).byteV)).need (((aN bG (ah.mk ((((ah.mk b false 0).bytesC 1).need (ef ((ah.mk b false 0).byteV)) 5).bytesR ((ah.mk b false 0).byteV)) false 0).l.length 0 (ah.mk ((((ah.mk b false 0).bytesC 1).need (ef ((ah.mk b false 0).byteV)) 5).bytesR ((ah.mk b false 0).byteV)) false 0) []).1).e==0) (bp ((aN bG (ah.mk ((((ah.mk b false 0).bytesC 1).need (ef ((ah.mk b false 0).byteV)) 5).bytesR ((ah.mk b false 0).byteV)) false 0).l.length 0 (ah.mk ((((ah.mk b false 0).bytesC 1).need (ef ((ah.mk b false 0).byteV)) 5).bytesR ((ah.mk b false 0).byteV)) false 0) []).1).e)):=by
   unfold ae aZ dJ sW sU jX
   (try simp only[a7,bs,if_true,if_false,decide_true,decide_false,eq_self,true_or,or_true,or_false,false_or,if_true,if_false,ch,cg,cc,bZ,reduceIte,kL,lD,ld])
   all_goals rfl
 rw[hs]
 exact bD bg ⟨_,_,_,_,_,rfl,aK.nil ..,aK.nil ..,aK.nil ..,((ax (ax (ax (ax (ax q.ho F (fun x hx=>(aa (fun e=>(aA (ak S) lr q.ho) (e▸hx)) ay)) (bq.updl F q.hl rfl)) T (fun x hx=>(aa (fun e=>(aA (aj.lt M) (le (le (le (le (le (le (le (le o.size d.size) i.size) j.size) g.size) p.size) h.size) k.size) J.size) q.ho) (e▸hx)) ay)) (bq.upd16 T (am (aj.safe bc _ (by decide)) aG))) a5 (fun x hx=>(aa (fun e=>(aA (aj.lt M) (le (le (le (le (le (le (le (le o.size d.size) i.size) j.size) g.size) p.size) h.size) k.size) J.size) q.ho) (e▸hx)) ay)) (bq.upd16 a5 (am (aj.safe bd _ (by decide)) aG))) a9 (fun x hx=>(aa (fun e=>(aA (ak K) (le (le (le (le (le (le (le (le (le (le (le (le N.size v.size) t.size) r.size) o.size) d.size) i.size) j.size) g.size) p.size) h.size) k.size) J.size) q.ho) (e▸hx)) ay)) (bq.upd16 a9 (am (aQ cd (by decide)) aG))) aJ (fun x hx=>(aa (fun e=>(aA (ak ao) lr q.ho) (e▸hx)) ay)) (bq.updl aJ cf rfl))).rd,aK.nil ..,⟨(b8 (x:=20) (by omega)),(b8 (x:=0) (by omega)),(aC (x:=0) (by omega)),(aC (x:=0) (by omega)),(aC (x:=0) (by omega)),(aC (x:=0) (by omega)),(aC (x:=0) (by omega)),(aC (x:=0) (by omega)),(aC (x:=0) (by omega)),(aC (x:=0) (by omega)),(aC (x:=0) (by omega)),(aC (x:=0) (by omega)),(b8 (x:=0) (by omega)),(b8 (x:=0) (by omega)),(b8 (x:=0) (by omega)),(b8 (x:=0) (by omega)),(b8 (x:=0) (by omega))⟩⟩ (ut c6 ci (ac (nr bj) (ac (ni (le (le (le (le (le (le (le (le (le (le (le (le af.size N.size) v.size) t.size) r.size) o.size) d.size) i.size) j.size) g.size) p.size) h.size) k.size) D) aq)))
theorem kR{m:Md}{A:Option Addr}{cp:Nat}{b:List Int}{w:World}{dir:Int}(hd:dir=0∨dir=1)(hsl:b9 m w (.slice A b.length cp) b)(hb:b.length≤1048576) :
    Calls Tryz.prog 144 #[.int .i64 dir,.int .u8 21,.slice A b.length cp] w (dD (ae aZ dir 21 b) w):=by
 have hln:(b.length:Int)≤1048576:=by omega
 have aO:((dir != 0)&&(dir != 1))=false:=by rcases hd with rfl | rfl<;>rfl
 refine vN 77 Tryz.func144 rfl<|sg<|L0<|bI mZ fun ag cX bt M al=>Pl 1<|nt<|sq<|sg<|Pl 3<|cu 3 [18] 21 (((dir != 0)&&(dir != 1))) (fun K bu=>?_) ?_
 refine bl 18 ((dir != 0)) (fun a0=>?_) (fun a0=>?_)
 have ct:=au a0
 exact Pl 3<|ce bu (dir != 1) (by rw[a0];rfl)
 have ct:=ai a0
 exact Pl 3<|ce bu false (by rw[a0];rfl)
 refine nt<|cf aO<|bo<|sg<|Pl 2<|L0<|Oc (args:=#[.int .i64 dir,.int .u8 21])<|e3 tG fun z cY a1 G O=>Pl 3<|L0<|bI #[.nilFunc,.nilFunc] fun cZ d0 cv bv v=>L0<|b6 bv #[.func (.func 255) #[] #[],.func (.func 256) #[] #[]] fun d1 cw t=>Pl 1<|nl<|?_
 refine tn<|sq<|sg<|Pl 2<|nt<|c0<|bo<|sg<|Pl 1<|?_
 have an:=ud v t cv
 have a2:=aH O an
 have bw:=aH al a2
 refine L0<|Oc<|e3 (dI (b9.old hsl bw) (by omega)) fun a3 d2 V N r=>Pl 1<|ng<|Pl 1<|L0<|Oc<|m3 (bV N) fun d3 cy o d4=>L0<|Oi ((ah.mk b false 0).byteV)<|Pl 1<|ng<|?_
 refine Pl 2<|?_
 have aS:=ud r o V
 have bx:=ub aS cw
 refine L0<|aR bx 0<|Pl 1<|L0<|fV #[] #[] (args:=#[.int .i64 ((ah.mk b false 0).byteV)])<|m1 (og (n:=(ah.mk b false 0).byteV) (by omega)) fun d5 d=>?_
 refine L0<|Oc<|m2 (b7 ((ec ((ah.mk b false 0).byteV))) 5 (aj.old cy d)) fun d6 cz i=>?_
 refine ab cz fun x51 bA bC=>?_
 refine ng<|Pl 2<|L0<|Oc<|qY (cG (n:=(ah.mk b false 0).byteV) bC) fun d7 d8 d9 cA da db cB j=>?_
 have dd:=Nat.le_trans (ah.bytesR_le x51 ((ah.mk b false 0).byteV)) (aj.len bC)
 refine ab cB fun x60 bE aV=>?_
 refine L0<|Oc<|e3 (dI cA (by omega)) fun P de Q S g=>Pl 1<|ng<|Pl 2<|L0<|bI mZ fun B df H X p=>L0<|b6 X (mC 21) fun dg cC h=>nt<|sq<|sg<|?_
 refine Pl 2<|?_
 have ao:=ud p h H
 have ap:=aH g ao
 have bF:=uz d (u1 i (aH j ap) im)
 refine L0<|aR (aU bF (nb (ak bv) t.size V) bx) 1<|L0<|Oc<|vk (jo (gb:=P) (f:=.func 256) (x:=#[]) (y:=#[])) fun cD cE dh aW aX di bG bH k=>nt<|bk<|?_
 refine nQ (f:=257) #[.pointer (some ⟨cD,0,none⟩),.pointer (some ⟨cE,0,none⟩)] fun a ha=>?_
 intro dj cF I dk D E bJ ar T J
 have bK:=nb (aj.lt S) lr H
 have aw:=nb (aj.lt S) (le (le p.size h.size) k.size) E
 have bL:=nb (ak G) (le (le (le (le (le (le (le v.size t.size) r.size) o.size) d.size) i.size) j.size) g.size) H
 have bM:=nb (ak G) (le (le (le (le (le (le (le (le (le (le v.size t.size) r.size) o.size) d.size) i.size) j.size) g.size) p.size) h.size) k.size) E
 have a4:=nb (ak X) (le h.size k.size) E
 have Y:=aH k J
 have bN:=aj.old S (aH ao Y)
 have az:=ud aS (aH bF Y) V
 have bO:=ub (aH an az) G
 have aY:=ub Y cC
 refine(vt (c:=21) bN bO aY T (ub J bG) (ub J bH) (Ne.symm (nb (ak G) (le (le (le (le (le (le v.size t.size) r.size) o.size) d.size) i.size) j.size) Q)) bK aw bL bM a4 (Ne.symm (nb (aj.lt S) ao.size aW)) (Ne.symm (nb (ak G) (le (le (le (le (le (le (le (le (le v.size t.size) r.size) o.size) d.size) i.size) j.size) g.size) p.size) h.size) aW)) (Ne.symm (nb (ak X) h.size aW)) (nb (ak bG) lr E) (Ne.symm (nb (aj.lt S) ao.size aX)) (Ne.symm (nb (ak G) (le (le (le (le (le (le (le (le (le v.size t.size) r.size) o.size) d.size) i.size) j.size) g.size) p.size) h.size) aX)) (Ne.symm (nb (ak X) h.size aX)) (nb (ak bH) lr E) ?_).mono ?_
 intro W C s L Ar cr x Ax cx hJ hrd hx1 hx2 hx3 hL
 simp only[dm] at hx1 hx2 hx3
 have hm2:W.heap[B]? = some (.cells #[.int .u8 21,.int .u8 0,.int .u16 0,.int .u16 0,.int .u16 0,.int .u16 0,.int .u16 0,.int .u16 0,.int .u16 0,.int .u16 0,.int .u16 0,.int .u16 0,.slice none 0 0,.slice none 0 0,.slice none 0 0,.slice Ar L.length cr,.int .u8 0,.int .u8 0,.int .u8 0,.int .u8 0,.int .u8 0,.slice none 0 0] 30 (0,0)):=hJ.hm
 refine jc hJ.hl ?_
 refine wR ha 53<|vG<|kA<|bI #[.int .u16 0,.int .u16 0,.int .u16 0,.slice none 0 0] fun dn dp bP cH bQ=>kA<|b6 cH #[.int .u16 x.file,.int .u16 x.record,.int .u16 x.count,.slice Ax x.words.length cx] fun dq cI bR=>qW<|?_
 have bS:=ud bQ bR bP
 refine xk (ub bS hJ.hl) (by trivial) fun dr cJ b0=>xc<|vG<|vI<|?_
 have b1:=uz bS b0
 have bU:=aU b1 a4 hm2
 refine kA<|aR bU 15<|?_
 refine kA<|cl (aU b0 (Ne.symm (nb (ak T) hJ.u.size bP)) cI)<|kA<|dx (m:=1) (e:=109) #[.int .u16 x.file,.int .u16 x.record,.int .u16 x.count,.slice Ax x.words.length cx] fun ds dt du cK b2=>?_
 have Z:=aH b1 b2
 have cL:=iZ (R:=bq true) (x:=(dl.mk x.file x.record x.count x.words)) cK rfl ⟨_,rfl,(dN.updl hrd Z hJ.hl rfl),aC (by omega),aC (by omega),aC (by omega)⟩
 have b3:=ax hJ.ho Z (fun x hx=>(aa (fun e=>(aA (ak T) lr hJ.ho) (e▸hx)) ay)) (bq.updl Z hJ.hl rfl)
 refine kA<|gi (xs:=L) (ys:=([(dl.mk x.file x.record x.count x.words)])) (.agg #[.int .u16 0,.int .u16 0,.int .u16 0,.slice none 0 0]) 4 32 b3 cL (by simp) bq.ones (fun w' hv=>bq.upd16 hv (cP (dc _ b3 (by decide)) aG)) (by(try simp only[List.length_append,List.length_cons,List.length_nil,aB]);omega) (le (le (le (le hJ.u.size bQ.size) bR.size) b0.size) b2.size) fun bW bX dv b4 aE=>vI<|?_
 have bY:=ut (aD.mono (S':=(ob Ar++[])) b2 aq) aE (av il aq)
 have b5:=aD.blk bY (bi (aA (ak aY) lr hJ.ho) ay) bU
 refine kA<|bT b5 15 (mG 21 0 0 0 0 0 0 0 0 0 0 0 nS nS nS (.slice bW ((L++[(dl.mk x.file x.record x.count x.words)]).length) bX) 0 0 0 0 0 nS) fun dw cM a5=>qW<|bn<|?_
 have c1:=u1 (aD.mono (S':=(ob Ar++(B :: []))) bY (av il aq)) a5 im
 have ba:=aD.blk c1 (bi (aA (ak T) lr hJ.ho) (aa (Ne.symm a4) ay)) cJ
 refine x9 ba fun dy cO a6=>?_
 have bb:=ut (aD.mono (S':=(I :: (ob Ar++(B :: [])))) Z (ac im aq)) (ut (aD.mono (S':=(ob Ar++(B :: (I :: [])))) aE (av il aq)) (us a5 a6) (ac im (ac im aq))) (av il (ac im (ac im aq)))
 have dz:=ut hJ.u (ut (aD.mono (S':=(I :: (ob Ar++(B :: [])))) b1 (ac im aq)) c1 (av il (ac im aq))) (ac im (av (aT hJ.ho lr) (ac im aq)))
 have dA:=ut hJ.u (ut (aD.mono (S':=(I :: (ob Ar++[]))) Z (ac im aq)) aE (av il aq)) (ac im (av (aT hJ.ho lr) aq))
 exact⟨by trivial,bb.size,bW,bX,⟨(ut hJ.u bb (ac im (av (aT hJ.ho lr) (ac im aq)))),(aj.updl (aj.upd (aj.upd (aj.updl hJ.hC Z (aa aw ay) hJ.hl rfl) aE (bi (aA (aj.lt bN) lr hJ.ho) ay) (cP (dc _ b3 (by decide)) aG)) a5 (aa bK ay) (am (aQ b5 (by decide)) aG)) a6 (aa aw ay) ba rfl),(aD.blk bb (aa bM (bi (aA (ak bO) lr hJ.ho) (aa bL ay))) hJ.hS),(aU a6 a4 cM),(ax (ax b4 a5 (fun x hx=>(aa (fun e=>(aA (ak aY) lr b4) (e▸hx)) ay)) (bq.upd16 a5 (am (aQ b5 (by decide)) aG))) a6 (fun x hx=>(aa (fun e=>(aA (ak T) lr b4) (e▸hx)) ay)) (bq.updl a6 ba rfl)),cO⟩⟩
 rintro _ cQ ⟨rfl,dB,c2,c3,q⟩
 refine⟨_,_,rfl,q.hl,by simp[dH],by trivial,fun dC c4=>?_⟩
 refine ab q.hC fun bc c5 cR=>?_
 have cS:cQ.heap[B]? = some (.cells #[.int .u8 21,.int .u8 0,.int .u16 0,.int .u16 0,.int .u16 0,.int .u16 0,.int .u16 0,.int .u16 0,.int .u16 0,.int .u16 0,.int .u16 0,.int .u16 0,.slice none 0 0,.slice none 0 0,.slice none 0 0,.slice c2 ((aN cN (ah.mk (x51.bytesR ((ah.mk b false 0).byteV)) false 0).l.length 0 (ah.mk (x51.bytesR ((ah.mk b false 0).byteV)) false 0) []).2.length) c3,.int .u8 0,.int .u8 0,.int .u8 0,.int .u8 0,.int .u8 0,.slice none 0 0] 30 (0,0)):=q.hm
 refine bn<|tn<|sg<|Pl 2<|?_
 have aI:=aj.updl cR c4 (aa aw ay) q.hl rfl
 refine L0<|Oc<|mq (bB aI)<|?_
 have dE:=aj.len aI
 refine Pl 2<|L0<|Oc<|mq (bB aI)<|?_
 have dF:=aj.len aI
 refine L0<|Oc<|m1 (gT (e:=bc.e)) fun dG cT=>?_
 have F:=aH c4 cT
 have c6:=u1 q.u F im
 have bd:=nb (ak G) an.size V
 have aJ:=ud aS (uz d (u1 i j im)) V
 have be:=ub (aH an aJ) G
 have bf:=aj.upd aV (ut (aD.mono (S':=[z]) ap aq) (ut (aD.mono (S':=[P,z,B]) Y aq) c6 (ac im (ac im (ac im (ac (ni k.size E) aq))))) (ac (nr Q) (ac im (ac (ni g.size H) aq)))) (aa (Ne.symm bd) ay) (am (aQ be (by decide)) aG)
 refine L0<|Oc<|m2 (b7 ((bc.e==0)) (bp bc.e) bf) fun dK cU U=>?_
 refine ab cU fun c7 c8 bg=>?_
 refine ng<|Pl 1<|L0<|Oc<|m2 (cn bg) fun dL c9 a7=>nt<|sq<|sg<|Pl 1<|L0<|Oc<|mq (bB c9)<|?_
 have dM:=aj.len c9
 refine Pl 1<|ng<|Pl 2<|nt<|?_
 have a8:=u1 U a7 im
 have bh:=u1 (aD.mono (S':=[P,z,B,I,a3]) c6 (ac im (ac im (ac im (ac im aq))))) a8 im
 have bj:=ut (aD.mono (S':=[z]) az aq) bh (ac (ni aJ.size Q) (ac im (ac (ni (le (le (le (le (le r.size o.size) d.size) i.size) j.size) g.size) H) (ac (ni (le (le (le (le (le (le (le (le r.size o.size) d.size) i.size) j.size) g.size) p.size) h.size) k.size) E) (ac (nr V) aq)))))
 have ca:=ud bw bj (le al.size a1)
 refine cb ((c7.endC.e != 0)) (fun a9=>?_) (fun a9=>?_)
 have bm:=au a9
 refine sg<|Pl 2<|?_
 have cd:=ub (ud a2 bj a1) M
 refine L0<|b6 cd mZ fun dO cV ad=>Pl 1<|nt<|rt<|tr<|?_
 have ci:=nb (ak M) (le (le (le (le (le (le (le (le (le (le (le O.size v.size) t.size) r.size) o.size) d.size) i.size) j.size) g.size) p.size) h.size) k.size) D
 have cj:=aD.blk (u1 (aD.mono (S':=[P,z,B,I,a3,ag]) bh (ac im (ac im (ac im (ac im (ac im aq)))))) ad im) (aa (Ne.symm (nb (aj.lt S) (le (le p.size h.size) k.size) D)) (aa (Ne.symm (nb (ak G) (le (le (le (le (le (le (le (le (le (le v.size t.size) r.size) o.size) d.size) i.size) j.size) g.size) p.size) h.size) k.size) D)) (aa (Ne.symm (nb (ak X) (le h.size k.size) D)) (aa bJ (aa (Ne.symm (nb (aj.lt N) (le (le (le (le (le (le (le o.size d.size) i.size) j.size) g.size) p.size) h.size) k.size) D)) (aa (Ne.symm ci) ay)))))) ar
 refine vL cj fun dP aL=>?_
 refine rx (aU aL ci cV) (.int .i64 c7.endC.e)<|?_
 subst c8 c5 bE bA
 have ck:=us ad aL
 have dQ:=us F (us a8 ck)
 have dR:=us F (us a8 ad)
 have dS:=ub (ud a2 (ut (aD.mono (S':=[z]) az aq) q.u (ac (ni aJ.size Q) (ac im (ac (ni (le (le (le (le (le r.size o.size) d.size) i.size) j.size) g.size) H) (ac (ni (le (le (le (le (le (le (le (le r.size o.size) d.size) i.size) j.size) g.size) p.size) h.size) k.size) E) aq))))) a1) M
 have dT:=aj.upd aV (ut (aD.mono (S':=[z]) ap aq) (ut (aD.mono (S':=[P,z,B]) Y aq) q.u (ac im (ac im (ac im (ac (ni k.size E) aq))))) (ac (nr Q) (ac im (ac (ni g.size H) aq)))) (aa (Ne.symm bd) ay) (am (aQ be (by decide)) aG)
 have dU:=us F a8
 have dV:=us F U
 have dW:=ax (ax (ax (ax (ax q.ho F (fun x hx=>(aa (fun e=>(aA (ak T) lr q.ho) (e▸hx)) ay)) (bq.updl F q.hl rfl)) U (fun x hx=>(aa (fun e=>(aA (aj.lt N) (le (le (le (le (le (le (le (le o.size d.size) i.size) j.size) g.size) p.size) h.size) k.size) J.size) q.ho) (e▸hx)) ay)) (bq.upd16 U (am (aj.safe bf _ (by decide)) aG))) a7 (fun x hx=>(aa (fun e=>(aA (aj.lt N) (le (le (le (le (le (le (le (le o.size d.size) i.size) j.size) g.size) p.size) h.size) k.size) J.size) q.ho) (e▸hx)) ay)) (bq.upd16 a7 (am (aj.safe bg _ (by decide)) aG))) ad (fun x hx=>(aa (fun e=>(aA (ak M) (le (le (le (le (le (le (le (le (le (le (le (le O.size v.size) t.size) r.size) o.size) d.size) i.size) j.size) g.size) p.size) h.size) k.size) J.size) q.ho) (e▸hx)) ay)) (bq.upd16 ad (am (aQ cd (by decide)) aG))) aL (fun x hx=>(aa (fun e=>(aA (ak ar) lr q.ho) (e▸hx)) ay)) (bq.updl aL cj rfl)
 have hs:ae aZ dir 21 b=aF (aP.mk 21 0 0 0 0 0 0 0 0 0 0 0 [] [] [] (aN cN (ah.mk ((((ah.mk b false 0).bytesC 1).need (ec ((ah.mk b false 0).byteV)) 5).bytesR ((ah.mk b false 0).byteV)) false 0).l.length 0 (ah.mk ((((ah.mk b false 0).bytesC 1).need (ec ((ah.mk b false 0).byteV)) 5).bytesR ((ah.mk b false 0).byteV)) false 0) []).2 0 0 0 0 0 []) (((((ah.mk b false 0).bytesC 1).need (ec ((ah.mk b false 0).byteV)) 5).bytesC ((ah.mk b false 0).byteV)).need (((aN cN (ah.mk ((((ah.mk b false 0).bytesC 1).need (ec ((ah.mk b false 0).byteV)) 5).bytesR ((ah.mk b false 0).byteV)) false 0).l.length 0 (ah.mk ((((ah.mk b false 0).bytesC 1).need (ec ((ah.mk b false 0).byteV)) 5).bytesR ((ah.mk b false 0).byteV)) false 0) []).1).e==0) (bp ((aN cN (ah.mk ((((ah.mk b false 0).bytesC 1).need (ec ((ah.mk b false 0).byteV)) 5).bytesR ((ah.mk b false 0).byteV)) false 0).l.length 0 (ah.mk ((((ah.mk b false 0).bytesC 1).need (ec ((ah.mk b false 0).byteV)) 5).bytesR ((ah.mk b false 0).byteV)) false 0) []).1).e)):=by
   unfold ae aZ dJ sW sU jX
   (try simp only[aO,a9,bs,if_true,if_false,decide_true,decide_false,eq_self,true_or,or_true,or_false,false_or,if_true,if_false,ch,cg,cc,bZ,reduceIte,kL,lD,ld,if_pos hd])
   all_goals rfl
 rw[hs]
 exact bz bm (ut ca ck (ac (nr bt) (ac (ni (le (le (le (le (le (le (le (le (le (le (le (le al.size O.size) v.size) t.size) r.size) o.size) d.size) i.size) j.size) g.size) p.size) h.size) k.size) D) aq)))
 have bm:=ai a9
 refine bo<|sg<|?_
 have br:=us F a8
 refine L0<|cl (aD.blk br (aa a4 (aa (Ne.symm (nb (aj.lt N) (le (le (le (le o.size d.size) i.size) j.size) g.size) H)) ay)) cS)<|?_
 have cm:=ub (ud a2 bj a1) M
 refine L0<|b6 cm (mG 21 0 0 0 0 0 0 0 0 0 0 0 nS nS nS (.slice c2 ((aN cN (ah.mk (x51.bytesR ((ah.mk b false 0).byteV)) false 0).l.length 0 (ah.mk (x51.bytesR ((ah.mk b false 0).byteV)) false 0) []).2.length) c3) 0 0 0 0 0 nS) fun dX cW af=>Pl 1<|nt<|rt<|?_
 have co:=nb (ak M) (le (le (le (le (le (le (le (le (le (le (le O.size v.size) t.size) r.size) o.size) d.size) i.size) j.size) g.size) p.size) h.size) k.size) D
 have cq:=aD.blk (u1 (aD.mono (S':=[P,z,B,I,a3,ag]) bh (ac im (ac im (ac im (ac im (ac im aq)))))) af im) (aa (Ne.symm (nb (aj.lt S) (le (le p.size h.size) k.size) D)) (aa (Ne.symm (nb (ak G) (le (le (le (le (le (le (le (le (le (le v.size t.size) r.size) o.size) d.size) i.size) j.size) g.size) p.size) h.size) k.size) D)) (aa (Ne.symm (nb (ak X) (le h.size k.size) D)) (aa bJ (aa (Ne.symm (nb (aj.lt N) (le (le (le (le (le (le (le o.size d.size) i.size) j.size) g.size) p.size) h.size) k.size) D)) (aa (Ne.symm co) ay)))))) ar
 refine vL cq fun dY aM=>?_
 refine rx (aU aM co cW) (.int .i64 0)<|?_
 subst c8 c5 bE bA
 have cs:=us af aM
 have dZ:=ut (aD.mono (S':=[I,a3,ag,cF]) br (ac im (ac im aq))) cs (ac im (ac im aq))
 have e0:=u1 (aD.mono (S':=[I,a3,ag]) br (ac im (ac im aq))) af im
 have e1:=ub (ud a2 (ut (aD.mono (S':=[z]) az aq) q.u (ac (ni aJ.size Q) (ac im (ac (ni (le (le (le (le (le r.size o.size) d.size) i.size) j.size) g.size) H) (ac (ni (le (le (le (le (le (le (le (le r.size o.size) d.size) i.size) j.size) g.size) p.size) h.size) k.size) E) aq))))) a1) M
 have e2:=aj.upd aV (ut (aD.mono (S':=[z]) ap aq) (ut (aD.mono (S':=[P,z,B]) Y aq) q.u (ac im (ac im (ac im (ac (ni k.size E) aq))))) (ac (nr Q) (ac im (ac (ni g.size H) aq)))) (aa (Ne.symm bd) ay) (am (aQ be (by decide)) aG)
 have e4:=us F U
 have hs:ae aZ dir 21 b=aF (aP.mk 21 0 0 0 0 0 0 0 0 0 0 0 [] [] [] (aN cN (ah.mk ((((ah.mk b false 0).bytesC 1).need (ec ((ah.mk b false 0).byteV)) 5).bytesR ((ah.mk b false 0).byteV)) false 0).l.length 0 (ah.mk ((((ah.mk b false 0).bytesC 1).need (ec ((ah.mk b false 0).byteV)) 5).bytesR ((ah.mk b false 0).byteV)) false 0) []).2 0 0 0 0 0 []) (((((ah.mk b false 0).bytesC 1).need (ec ((ah.mk b false 0).byteV)) 5).bytesC ((ah.mk b false 0).byteV)).need (((aN cN (ah.mk ((((ah.mk b false 0).bytesC 1).need (ec ((ah.mk b false 0).byteV)) 5).bytesR ((ah.mk b false 0).byteV)) false 0).l.length 0 (ah.mk ((((ah.mk b false 0).bytesC 1).need (ec ((ah.mk b false 0).byteV)) 5).bytesR ((ah.mk b false 0).byteV)) false 0) []).1).e==0) (bp ((aN cN (ah.mk ((((ah.mk b false 0).bytesC 1).need (ec ((ah.mk b false 0).byteV)) 5).bytesR ((ah.mk b false 0).byteV)) false 0).l.length 0 (ah.mk ((((ah.mk b false 0).bytesC 1).need (ec ((ah.mk b false 0).byteV)) 5).bytesR ((ah.mk b false 0).byteV)) false 0) []).1).e)):=by
   unfold ae aZ dJ sW sU jX
   (try simp only[aO,a9,bs,if_true,if_false,decide_true,decide_false,eq_self,true_or,or_true,or_false,false_or,if_true,if_false,ch,cg,cc,bZ,reduceIte,kL,lD,ld,if_pos hd])
   all_goals rfl
 rw[hs]
 exact bD bm ⟨_,_,_,_,_,rfl,aK.nil ..,aK.nil ..,aK.nil ..,((ax (ax (ax (ax (ax q.ho F (fun x hx=>(aa (fun e=>(aA (ak T) lr q.ho) (e▸hx)) ay)) (bq.updl F q.hl rfl)) U (fun x hx=>(aa (fun e=>(aA (aj.lt N) (le (le (le (le (le (le (le (le o.size d.size) i.size) j.size) g.size) p.size) h.size) k.size) J.size) q.ho) (e▸hx)) ay)) (bq.upd16 U (am (aj.safe bf _ (by decide)) aG))) a7 (fun x hx=>(aa (fun e=>(aA (aj.lt N) (le (le (le (le (le (le (le (le o.size d.size) i.size) j.size) g.size) p.size) h.size) k.size) J.size) q.ho) (e▸hx)) ay)) (bq.upd16 a7 (am (aj.safe bg _ (by decide)) aG))) af (fun x hx=>(aa (fun e=>(aA (ak M) (le (le (le (le (le (le (le (le (le (le (le (le O.size v.size) t.size) r.size) o.size) d.size) i.size) j.size) g.size) p.size) h.size) k.size) J.size) q.ho) (e▸hx)) ay)) (bq.upd16 af (am (aQ cm (by decide)) aG))) aM (fun x hx=>(aa (fun e=>(aA (ak ar) lr q.ho) (e▸hx)) ay)) (bq.updl aM cq rfl))).rd,aK.nil ..,⟨(b8 (x:=21) (by omega)),(b8 (x:=0) (by omega)),(aC (x:=0) (by omega)),(aC (x:=0) (by omega)),(aC (x:=0) (by omega)),(aC (x:=0) (by omega)),(aC (x:=0) (by omega)),(aC (x:=0) (by omega)),(aC (x:=0) (by omega)),(aC (x:=0) (by omega)),(aC (x:=0) (by omega)),(aC (x:=0) (by omega)),(b8 (x:=0) (by omega)),(b8 (x:=0) (by omega)),(b8 (x:=0) (by omega)),(b8 (x:=0) (by omega)),(b8 (x:=0) (by omega))⟩⟩ (ut ca cs (ac (nr bt) (ac (ni (le (le (le (le (le (le (le (le (le (le (le (le al.size O.size) v.size) t.size) r.size) o.size) d.size) i.size) j.size) g.size) p.size) h.size) k.size) D) aq)))
theorem qE{A:Option Addr}{cp:Nat}{b:List Int}{w:World}{c:Int}(n1:(c==20)=false)(n2:(c==21)=false) : Calls Tryz.prog 144 #[.int .i64 0,.int .u8 c,.slice A b.length cp] w (dD (ae aZ 0 c b) w):=by
 refine vN 77 Tryz.func144 rfl<|sg<|L0<|bI mZ fun n o d e f=>Pl 1<|nt<|sq<|sg<|Pl 6<|nt<|c0<|?_
 refine bo<|sg<|Pl 2<|L0<|Oc (args:=#[.int .i64 0,.int .u8 c])<|m1 (mI (dir:=0) (x:=c) n1 n2) fun p g=>Pl 3<|L0<|bI #[.nilFunc,.nilFunc] fun q r h i j=>L0<|b6 i #[.nilFunc,.nilFunc] fun s t k=>Pl 1<|nt<|sq<|sq<|?_
 refine go<|Pl 2<|nt<|c1<|sg<|Pl 1<|?_
 have a:=aH g (ud j k h)
 refine L0<|b6 (ub a e) mZ fun u l m=>Pl 1<|nt<|rt<|tr<|ry l (.int .i64 4)<|?_
 have hs:ae aZ 0 c b=(aP.zero,4):=by
   unfold ae aZ
   (try simp only[bs,if_true,if_false,decide_true,decide_false,eq_self,true_or,or_true,or_false,false_or,if_true,if_false,ch,cg,cc,bZ,reduceIte,n1,n2])
   all_goals rfl
 rw[hs]
 exact cD (ud f (uz a m) d)
theorem pZ{A:Option Addr}{cp:Nat}{b:List Int}{w:World}{c:Int}(n1:(c==20)=false)(n2:(c==21)=false) : Calls Tryz.prog 144 #[.int .i64 1,.int .u8 c,.slice A b.length cp] w (dD (ae aZ 1 c b) w):=by
 refine vN 77 Tryz.func144 rfl<|sg<|L0<|bI mZ fun n o d e f=>Pl 1<|nt<|sq<|sg<|Pl 6<|nt<|c0<|?_
 refine bo<|sg<|Pl 2<|L0<|Oc (args:=#[.int .i64 1,.int .u8 c])<|m1 (mI (dir:=1) (x:=c) n1 n2) fun p g=>Pl 3<|L0<|bI #[.nilFunc,.nilFunc] fun q r h i j=>L0<|b6 i #[.nilFunc,.nilFunc] fun s t k=>Pl 1<|nt<|sq<|sq<|?_
 refine go<|Pl 2<|nt<|c1<|sg<|Pl 1<|?_
 have a:=aH g (ud j k h)
 refine L0<|b6 (ub a e) mZ fun u l m=>Pl 1<|nt<|rt<|tr<|ry l (.int .i64 4)<|?_
 have hs:ae aZ 1 c b=(aP.zero,4):=by
   unfold ae aZ
   (try simp only[bs,if_true,if_false,decide_true,decide_false,eq_self,true_or,or_true,or_false,false_or,if_true,if_false,ch,cg,cc,bZ,reduceIte,n1,n2])
   all_goals rfl
 rw[hs]
 exact cD (ud f (uz a m) d)
theorem pD{A:Option Addr}{cp:Nat}{b:List Int}{w:World}{dir c:Int}(hd:¬ (dir=0∨dir=1)) : Calls Tryz.prog 144 #[.int .i64 dir,.int .u8 c,.slice A b.length cp] w (dD (ae aZ dir c b) w):=by
 have e0:(dir != 0)=true:=by simp;omega
 have e1:(dir != 1)=true:=by simp;omega
 refine vN 77 Tryz.func144 rfl<|sg<|L0<|bI mZ fun g h a d e=>Pl 1<|nt<|sq<|sg<|Pl 3<|sy 18 e0<|Pl 3<|nl<|?_
 refine tn<|ct e1<|sg<|Pl 1<|L0<|b6 d mZ fun i dm f=>Pl 1<|nt<|rt<|tr<|ry dm (.int .i64 1)<|?_
 have hs:ae aZ dir c b=(aP.zero,1):=by
   unfold ae aZ
   (try simp only[e0,e1,bs,if_true,if_false,decide_true,decide_false,eq_self,true_or,or_true,or_false,false_or,if_true,if_false,ch,cg,cc,bZ,reduceIte,hd])
   all_goals rfl
 rw[hs]
 exact cD (ud e f a)
theorem iM{m:Md}{v:Value}{b:List Int}{w:World}{dir c:Int}(hc:B8 c)(h:b9 m w v b)(hb:b.length≤1048576) :
    Calls Tryz.prog 144 #[.int .i64 dir,.int .u8 c,v] w (dD (ae aZ dir c b) w):=by
  obtain⟨A,cp,rfl,_,_⟩:=h.shape
  by_cases h0:dir=0
  · subst h0
    by_cases a:c=20
    · subst a;exact mw (Or.inl (rfl:(0:Int)=0)) h hb
    by_cases d:c=21
    · subst d;exact kR (Or.inl rfl) h hb
    exact qE (by simpa using a) (by simpa using d)
  by_cases h1:dir=1
  · subst h1
    by_cases a:c=20
    · subst a;exact ny (Or.inl (rfl:(0:Int)=0)) h hb
    by_cases d:c=21
    · subst d;exact kR (Or.inr rfl) h hb
    exact pZ (by simpa using a) (by simpa using d)
  exact pD (by omega)
open Go.RowKit
def fb (res:Option (List Int))(w:World)(e:Ending)(w':World) : Prop :=
  match res with
  | some l=>∃ v,e = .returned (.tuple #[v,.int .i64 0])∧eG w.heap.size w' v l∧aD [] w w'
  | none=>e = .returned (.tuple #[.slice none 0 0,.int .i64 1])∧aD [] w w'
def cS (parse:Int→Int→List Int→aP × Int)(lay:Int→aP→List Int)(dir:Int)(M:aP) : Option (List Int) :=
  if parse dir M.code (lay dir M)=(M,0) then some (lay dir M) else none
def ff:=ae aE
def fQ:=ae aI
def fP:=ae aM
def gl:=ae bE
def fe:=ae aZ
open Go.RowKit
def kE (M:aP) : Option (List Int):=if !(gt M.code M.fail) then none else if !(decide (M=nZ M.code M.fail)) then none else some [(M.code+128)%256,M.fail]
theorem dT{x y:Option (List Int)}(h:x=y){w:World}{e:Ending}{w':World}(k:fb y w e w') : fb x w e w':=by rw[h];exact k
theorem kI{m:Md}{cs:Array Value}{M:aP}{w:World}(h:aW m w cs.toList M) : Calls Tryz.prog 100 #[.agg cs] w (fb (kE M) w):=by
 have hM:=h
 obtain⟨vw,vb,vd,vr,vo,h0,hw,hbt,hd,hr,ho,hR⟩:=h
 obtain rfl:cs=(bQ M vw vb vd vr vo).toArray:=by apply Array.toList_inj.1;simpa using h0
 clear h0
 obtain⟨Aw,kw,rfl,_,_⟩:=hw.shape
 obtain⟨Ab,kb,rfl,_,_⟩:=hbt.shape
 obtain⟨Ad,kd,rfl,_,_⟩:=hd.shape
 obtain⟨Ar,kr,rfl,_,_⟩:=hr.shape
 obtain⟨Ao,ko,rfl,_,_⟩:=ho.shape
 obtain⟨q0,q1,q2,q3,q4,q5,q6,q7,q8,q9,I,J,K,L,N,O,P⟩:=hR
 simp only[B8,dm] at q0 q1 q2 q3 q4 q5 q6 q7 q8 q9 I J K L N O P
 refine en 26 Tryz.func100 rfl<|sg<|L0<|dz (mG M.code M.fail M.addr M.count M.value M.and_ M.or_ M.addr2 M.sub M.status M.events M.messages (.slice Aw M.words.length kw) (.slice Ab M.bits.length kb) (.slice Ad M.data.length kd) (.slice Ar M.recs.length kr) M.mei M.kind M.level M.more M.next (.slice Ao M.objects.length ko)) fun s a3 a4 k Q=>Pl 2<|ng<|Pl 1<|L0<|aR k 0<|Pl 1<|L0<|aR k 1<|Pl 1<|L0<|bI #[.int .u8 0,.int .u8 0] fun l a5 R S T=>?_
 refine L0<|b6 S #[.int .u8 M.code,.int .u8 M.fail] fun a6 U V=>nt<|sq<|sq<|Rg 10 (fun w'=>w'.heap[l]? = some (.cells #[.int .u8 M.code,.int .u8 M.fail] 154 (0,0))∧w'.heap[s]? = some (.cells (mG M.code M.fail M.addr M.count M.value M.and_ M.or_ M.addr2 M.sub M.status M.events M.messages (.slice Aw M.words.length kw) (.slice Ab M.bits.length kb) (.slice Ad M.data.length kd) (.slice Ar M.recs.length kr) M.mei M.kind M.level M.more M.next (.slice Ao M.objects.length ko)) 30 (0,0))) fun a7 t=>?_
 have u:=ub t U
 have v:=ud T (aH V t) R
 have y:=ub v k
 refine bh ⟨u,y⟩ fun W=>Rr 0 W (.agg #[.int .u8 M.code,.int .u8 M.fail]) (fun w' hs=>jS (g:=l) (off:=0) [.int .u8 M.code,.int .u8 M.fail] rfl (by kernel_rfl) hs.1 (by kernel_rfl) (by kernel_rfl) rfl)<|R0 1 rfl<|Oc<|m1 (pu (a:=M.code) (b:=M.fail) (w:=_)) fun a8 n=>?_
 have z:=ub n u
 have C:=ub n y
 refine bh ⟨z,C⟩ fun c=>Rt 2 c<|Rt 3 c<|?_
 have D:=aH Q (aH v n)
 refine qX 13 ((!(gt M.code M.fail))) (fun d=>?_) (fun d=>?_)
 have j:(gt M.code M.fail)=false:=by simpa using d
 refine Ro 4 c<|Ro 5 c<|Ro 6 c<|Ro 7 c<|Ro 8 c<|Rt 9 c<|re<|tn<|c1<|sg<|Pl 2<|nt<|?_
 refine rt<|tr<|rr (.tuple #[.slice none 0 0,.int .i64 1])<|?_
 have hs:kE M=none:=by
   unfold kE
   (try simp only[d,j,bs,if_true,if_false,decide_true,decide_false,reduceIte])
   all_goals rfl
 refine dT hs ?_
 exact⟨rfl,D⟩
 have j:(gt M.code M.fail)=true:=by simpa using d
 refine Rr 4 c (.agg (mG M.code M.fail M.addr M.count M.value M.and_ M.or_ M.addr2 M.sub M.status M.events M.messages (.slice Aw M.words.length kw) (.slice Ab M.bits.length kb) (.slice Ad M.data.length kd) (.slice Ar M.recs.length kr) M.mei M.kind M.level M.more M.next (.slice Ao M.objects.length ko))) (fun w' hs=>jS (g:=s) (off:=0) [.int .u8 M.code,.int .u8 M.fail,.int .u16 M.addr,.int .u16 M.count,.int .u16 M.value,.int .u16 M.and_,.int .u16 M.or_,.int .u16 M.addr2,.int .u16 M.sub,.int .u16 M.status,.int .u16 M.events,.int .u16 M.messages,.slice Aw M.words.length kw,.slice Ab M.bits.length kb,.slice Ad M.data.length kd,.slice Ar M.recs.length kr,.int .u8 M.mei,.int .u8 M.kind,.int .u8 M.level,.int .u8 M.more,.int .u8 M.next,.slice Ao M.objects.length ko] rfl (by kernel_rfl) hs.2 (by kernel_rfl) (by kernel_rfl) rfl)<|Rr 5 c (.agg #[.int .u8 M.code,.int .u8 M.fail]) (fun w' hs=>jS (g:=l) (off:=0) [.int .u8 M.code,.int .u8 M.fail] rfl (by kernel_rfl) hs.1 (by kernel_rfl) (by kernel_rfl) rfl)<|R0 6 rfl<|Oc<|m1 (je (a:=M.code) (b:=M.fail) (w:=_)) fun a9 o=>?_
 have E:=ub o z
 have F:=ub o C
 refine bh ⟨E,F⟩ fun aa=>?_
 have G:=aH D o
 refine R0 7 rfl<|Oc<|m1 (fN (A:=M) (B:=nZ M.code M.fail) (aW.old hM G) (show aW true _ _ _ from⟨_,_,_,_,_,rfl,aK.nil ..,aK.nil ..,aK.nil ..,aK.nil ..,aK.nil ..,⟨(b8 (x:=M.code) (by omega)),(b8 (x:=M.fail) (by omega)),(aC (x:=0) (by omega)),(aC (x:=0) (by omega)),(aC (x:=0) (by omega)),(aC (x:=0) (by omega)),(aC (x:=0) (by omega)),(aC (x:=0) (by omega)),(aC (x:=0) (by omega)),(aC (x:=0) (by omega)),(aC (x:=0) (by omega)),(aC (x:=0) (by omega)),(b8 (x:=0) (by omega)),(b8 (x:=0) (by omega)),(b8 (x:=0) (by omega)),(b8 (x:=0) (by omega)),(b8 (x:=0) (by omega))⟩⟩)) fun ab p=>?_
 have q:=ub p F
 refine bh ⟨(ub p E),q⟩ fun H=>Rt 8 H<|Rt 9 H<|re<|tn<|?_
 have r:=aH G p
 refine cb ((!(decide (M=nZ M.code M.fail)))) (fun f=>?_) (fun f=>?_)
 have i:(decide (M=nZ M.code M.fail))=false:=by simpa using f
 have X:=of_decide_eq_false i
 refine sg<|Pl 2<|nt<|rt<|tr<|rr (.tuple #[.slice none 0 0,.int .i64 1])<|?_
 have hs:kE M=none:=by
   unfold kE
   (try simp only[d,j,f,i,bs,if_true,if_false,decide_true,decide_false,reduceIte])
   all_goals rfl
 refine dT hs ?_
 exact⟨rfl,r⟩
 have i:(decide (M=nZ M.code M.fail))=true:=by simpa using f
 have X:=of_decide_eq_true i
 refine bo<|sg<|Pl 1<|L0<|aR q 0<|Pl 2<|L0<|aR q 1<|L0<|dx (m:=2) (e:=5) #[.int .u8 ((M.code+128)%256),.int .u8 M.fail] fun Y ac Z a0 a1=>?_
 have a2:=dF Z (xs:=[((M.code+128)%256),M.fail]) (by as_aux_lemma=>kernel_rfl) (az (by omega) (az (by omega) aX)) (by(try simp only[List.length_cons,List.length_nil]);omega) a0
 refine Pl 2<|nt<|rt<|rr (.tuple #[.slice (some ⟨Y,0,none⟩) 2 2,.int .i64 0])<|?_
 have hs:kE M=(some [((M.code+128)%256),M.fail]):=by
   unfold kE
   (try simp only[d,j,f,i,bs,if_true,if_false,decide_true,decide_false,reduceIte])
   all_goals rfl
 refine dT hs ?_
 exact⟨_,rfl,(be.weaken a2 r.size),(aH r a1)⟩
open Go.RowKit
def bL (dir:Int)(M:aP) : List Int :=
  if (!(dir==0))&&(M.code==3 || M.code==4 || M.code==23) then [(2*(M.words.length:Int))%256]++bf M.words
  else if M.code==6 then bf [M.addr,M.value]
  else if M.code==22 then bf [M.addr,M.and_,M.or_]
  else if M.code==16&&dir==0 then ((bf [M.addr,M.count]++[(2*(M.words.length:Int))%256])++bf M.words)
  else if M.code==23 then ((bf [M.addr,M.count,M.addr2,(M.words.length:Int)%65536]++[(2*(M.words.length:Int))%256])++bf M.words)
  else if M.code==24&&dir==0 then bf [M.addr]
  else if M.code==24 then bf [(2+2*(M.words.length:Int))%65536,(M.words.length:Int)%65536]++bf M.words
  else bf [M.addr,M.count]
theorem ox{m:Md}{cs:Array Value}{M:aP}{w:World}{dir:Int}(h:aW m w cs.toList M)(hf:cY M)(hd0:(dir==0)=true) : Calls Tryz.prog 205 #[.int .i64 dir,.agg cs] w (gQ (bL dir M) w):=by
 obtain⟨vw,vb,vd,vr,vo,h0,hw,hbt,hd,hr,ho,hR⟩:=h
 obtain rfl:cs=(bQ M vw vb vd vr vo).toArray:=by apply Array.toList_inj.1;simpa using h0
 clear h0
 obtain⟨Aw,kw,rfl,_,_⟩:=hw.shape
 obtain⟨Ab,kb,rfl,_,_⟩:=hbt.shape
 obtain⟨Ad,kd,rfl,_,_⟩:=hd.shape
 obtain⟨Ar,kr,rfl,_,_⟩:=hr.shape
 obtain⟨Ao,ko,rfl,_,_⟩:=ho.shape
 obtain⟨q0,q1,q2,q3,q4,q5,q6,q7,q8,q9,X,Y,Z,a0,a1,a2,a3⟩:=hR
 simp only[B8,dm] at q0 q1 q2 q3 q4 q5 q6 q7 q8 q9 X Y Z a0 a1 a2 a3
 have hf1:=hf.words
 have hf2:=hf.bits
 have hf3:=hf.data
 have hf4:=hf.recs
 have hf5:=hf.objects
 refine en 124 Tryz.func205 rfl<|sg<|L0<|dz (mG M.code M.fail M.addr M.count M.value M.and_ M.or_ M.addr2 M.sub M.status M.events M.messages (.slice Aw M.words.length kw) (.slice Ab M.bits.length kb) (.slice Ad M.data.length kd) (.slice Ar M.recs.length kr) M.mei M.kind M.level M.more M.next (.slice Ao M.objects.length ko)) fun ba bb bc y i=>Pl 1<|ng<|Pl 1<|L0<|aR y 12<|Pl 2<|nt<|?_
 refine sg<|Pl 1<|L0<|Oi (2*((M.words.length:Nat) : Int))<|Pl 1<|L0<|dx (m:=1) (e:=5) #[.int .u8 ((2*((M.words.length:Nat) : Int))%256)] fun bd bg a4 a5 d=>?_
 have z:=dF a4 (xs:=[((2*((M.words.length:Nat) : Int))%256)]) (by as_aux_lemma=>kernel_rfl) (az (by omega) aX) (by(try simp only[List.length_cons,List.length_nil]);omega) a5
 refine Pl 1<|?_
 have A:=ub d y
 refine L0<|aR A 12<|?_
 have B:=aH i d
 refine L0<|Oc<|ep (bC (xs:=M.words) (dN.old hw B) (by(try simp only[List.length_cons,List.length_nil]);omega)) fun bh bi bj C bm bo b=>Pl 2<|ng<|Pl 3<|nt<|sq<|sg<|Pl 1<|?_
 have a:=ub b A
 refine L0<|aR a 0<|Pl 1<|nt<|bk<|sg<|Pl 3<|?_
 have j:(!(dir==0))=false:=by simp only[hd0,Bool.not_true,Bool.not_false]
 refine sy 27 j<|Pl 12<|nt<|c0<|sg<|Pl 3<|nt<|?_
 have l:=aH B b
 refine cb ((M.code==6)) (fun c=>?_) (fun c=>?_)
 have a6:=al c
 refine sg<|Pl 1<|L0<|aR a 2<|Pl 1<|L0<|aR a 4<|L0<|dx (m:=2) (e:=24) #[.int .u16 M.addr,.int .u16 M.value] fun bp bq a7 a8 D=>?_
 have a9:=ee a7 (xs:=[M.addr,M.value]) (by as_aux_lemma=>kernel_rfl) (az (by omega) (az (by omega) aX)) (by(try simp only[List.length_cons,List.length_nil]);omega) a8
 refine L0<|Oc<|ep (bC (xs:=[M.addr,M.value]) (a9).rd (by(try simp only[List.length_cons,List.length_nil]);omega)) fun aa ab bu ac bv bw ad=>Pl 1<|nt<|rt<|br<|tr<|rr (.slice aa ((bf ([M.addr,M.value])).length) ab)<|?_
 have hs:bL dir M=(bf ([M.addr,M.value])):=by
   unfold bL
   (try simp only[hd0,j,c,bs,if_true,if_false,decide_true,decide_false,reduceIte])
   all_goals rfl
 rw[hs]
 exact⟨_,rfl,(be.weaken ac (le (le (le i.size d.size) b.size) D.size)),(aH l (aH D ad))⟩
 have a6:=ap c
 refine sg<|Pl 3<|nt<|cb ((M.code==22)) (fun f=>?_) (fun f=>?_)
 have ae:=al f
 refine sg<|Pl 1<|L0<|aR a 2<|Pl 1<|L0<|aR a 5<|Pl 1<|L0<|aR a 6<|L0<|dx (m:=3) (e:=24) #[.int .u16 M.addr,.int .u16 M.and_,.int .u16 M.or_] fun bx bz af ag E=>?_
 have ah:=ee af (xs:=[M.addr,M.and_,M.or_]) (by as_aux_lemma=>kernel_rfl) (az (by omega) (az (by omega) (az (by omega) aX))) (by(try simp only[List.length_cons,List.length_nil]);omega) ag
 refine L0<|Oc<|ep (bC (xs:=[M.addr,M.and_,M.or_]) (ah).rd (by(try simp only[List.length_cons,List.length_nil]);omega)) fun ai aj bA ak bB bD am=>Pl 1<|nt<|rt<|br<|tr<|rr (.slice ai ((bf ([M.addr,M.and_,M.or_])).length) aj)<|?_
 have hs:bL dir M=(bf ([M.addr,M.and_,M.or_])):=by
   unfold bL
   (try simp only[hd0,j,c,f,bs,if_true,if_false,decide_true,decide_false,reduceIte])
   all_goals rfl
 rw[hs]
 exact⟨_,rfl,(be.weaken ak (le (le (le i.size d.size) b.size) E.size)),(aH l (aH E am))⟩
 have ae:=ap f
 refine sg<|Pl 3<|cu 2 [65] 67 (((M.code==16)&&(dir==0))) (fun K F=>?_) ?_
 refine bl 65 ((M.code==16)) (fun q=>?_) (fun q=>?_)
 have an:=al q
 exact Pl 2<|ce F (dir==0) (by rw[q];rfl)
 have an:=ap q
 exact Pl 2<|ce F false (by rw[q];rfl)
 refine Pl 1<|nt<|cb (((M.code==16)&&(dir==0))) (fun g=>?_) (fun g=>?_)
 have k:=(aS g).1
 have G:=(aS g).2
 have ao:=al k
 have bE:=al G
 refine sg<|Pl 1<|L0<|aR a 2<|Pl 1<|L0<|aR a 3<|L0<|dx (m:=2) (e:=24) #[.int .u16 M.addr,.int .u16 M.count] fun bF bG ar au s=>?_
 have aw:=ee ar (xs:=[M.addr,M.count]) (by as_aux_lemma=>kernel_rfl) (az (by omega) (az (by omega) aX)) (by(try simp only[List.length_cons,List.length_nil]);omega) au
 refine L0<|Oc<|ep (bC (xs:=[M.addr,M.count]) (aw).rd (by(try simp only[List.length_cons,List.length_nil]);omega)) fun bH bI bJ H bK bM u=>Pl 1<|?_
 have I:=aH s u
 refine L0<|cK bt (xs:=(bf ([M.addr,M.count]))) (ys:=([((2*((M.words.length:Nat) : Int))%256)])) (.int .u8 0) 1 H ((ax z (aH b I) (fun x hx=>ay) (fun _ _ h=>h))).rd (by(try simp only[List.length_append,List.length_cons,List.length_nil,aB]);omega) u.size fun bN bO bP J L=>Pl 1<|?_
 have N:=ut I L (av (aT H s.size) aq)
 refine L0<|cK bt (xs:=((bf ([M.addr,M.count]))++[((2*((M.words.length:Nat) : Int))%256)])) (ys:=(bf M.words)) (.int .u8 0) 1 J ((ax C N (fun x hx=>ay) (fun _ _ h=>h))).rd (by(try simp only[List.length_append,List.length_cons,List.length_nil,aB]);omega) (le u.size L.size) fun aA aC bR aD aE=>Pl 1<|nt<|rt<|br<|tr<|rr (.slice aA ((((bf ([M.addr,M.count]))++[((2*((M.words.length:Nat) : Int))%256)])++(bf M.words)).length) aC)<|?_
 have hs:bL dir M=(((bf ([M.addr,M.count]))++[((2*((M.words.length:Nat) : Int))%256)])++(bf M.words)):=by
   unfold bL
   (try simp only[G,j,c,f,g,k,bs,if_true,if_false,decide_true,decide_false,reduceIte])
   all_goals rfl
 rw[hs]
 exact⟨_,rfl,(be.weaken aD (le (le (le i.size d.size) b.size) s.size)),(aH l (ut N aE (av (aT J s.size) aq)))⟩
 have k:(M.code==16)=false:=by simpa only[hd0,bs] using g
 have ao:=ap k
 refine sg<|Pl 3<|nt<|cb ((M.code==23)) (fun n=>?_) (fun n=>?_)
 have aF:=al n
 refine sg<|Pl 1<|L0<|aR a 2<|Pl 1<|L0<|aR a 3<|Pl 1<|L0<|aR a 7<|Pl 2<|L0<|dx (m:=4) (e:=24) #[.int .u16 M.addr,.int .u16 M.count,.int .u16 M.addr2,.int .u16 (((M.words.length:Nat) : Int)%65536)] fun bS bT aG aI t=>?_
 have aJ:=ee aG (xs:=[M.addr,M.count,M.addr2,(((M.words.length:Nat) : Int)%65536)]) (by as_aux_lemma=>kernel_rfl) (az (by omega) (az (by omega) (az (by omega) (az (by omega) aX)))) (by(try simp only[List.length_cons,List.length_nil]);omega) aI
 refine L0<|Oc<|ep (bC (xs:=[M.addr,M.count,M.addr2,(((M.words.length:Nat) : Int)%65536)]) (aJ).rd (by(try simp only[List.length_cons,List.length_nil]);omega)) fun bU bV bW O bX bY v=>Pl 1<|?_
 have P:=aH t v
 refine L0<|cK bt (xs:=(bf ([M.addr,M.count,M.addr2,(((M.words.length:Nat) : Int)%65536)]))) (ys:=([((2*((M.words.length:Nat) : Int))%256)])) (.int .u8 0) 1 O ((ax z (aH b P) (fun x hx=>ay) (fun _ _ h=>h))).rd (by(try simp only[List.length_append,List.length_cons,List.length_nil,aB]);omega) v.size fun bZ c1 c2 Q R=>Pl 1<|?_
 have S:=ut P R (av (aT O t.size) aq)
 refine L0<|cK bt (xs:=((bf ([M.addr,M.count,M.addr2,(((M.words.length:Nat) : Int)%65536)]))++[((2*((M.words.length:Nat) : Int))%256)])) (ys:=(bf M.words)) (.int .u8 0) 1 Q ((ax C S (fun x hx=>ay) (fun _ _ h=>h))).rd (by(try simp only[List.length_append,List.length_cons,List.length_nil,aB]);omega) (le v.size R.size) fun aK aL c3 aM aN=>Pl 1<|nt<|rt<|br<|tr<|rr (.slice aK ((((bf ([M.addr,M.count,M.addr2,(((M.words.length:Nat) : Int)%65536)]))++[((2*((M.words.length:Nat) : Int))%256)])++(bf M.words)).length) aL)<|?_
 have hs:bL dir M=(((bf ([M.addr,M.count,M.addr2,(((M.words.length:Nat) : Int)%65536)]))++[((2*((M.words.length:Nat) : Int))%256)])++(bf M.words)):=by
   unfold bL
   (try simp only[hd0,j,c,f,g,k,n,bs,if_true,if_false,decide_true,decide_false,reduceIte])
   all_goals rfl
 rw[hs]
 exact⟨_,rfl,(be.weaken aM (le (le (le i.size d.size) b.size) t.size)),(aH l (ut S aN (av (aT Q t.size) aq)))⟩
 have aF:=ap n
 refine sg<|Pl 3<|cu 2 [98] 100 (((M.code==24)&&(dir==0))) (fun K T=>?_) ?_
 refine bl 98 ((M.code==24)) (fun r=>?_) (fun r=>?_)
 have aO:=al r
 exact Pl 2<|ce T (dir==0) (by rw[r];rfl)
 have aO:=ap r
 exact Pl 2<|ce T false (by rw[r];rfl)
 refine Pl 1<|nt<|cb (((M.code==24)&&(dir==0))) (fun o=>?_) (fun o=>?_)
 have p:=(aS o).1
 have U:=(aS o).2
 have aQ:=al p
 have c4:=al U
 refine sg<|Pl 1<|L0<|aR a 2<|L0<|dx (m:=1) (e:=24) #[.int .u16 M.addr] fun c5 c6 aU aV V=>?_
 have aY:=ee aU (xs:=[M.addr]) (by as_aux_lemma=>kernel_rfl) (az (by omega) aX) (by(try simp only[List.length_cons,List.length_nil]);omega) aV
 refine L0<|Oc<|ep (bC (xs:=[M.addr]) (aY).rd (by(try simp only[List.length_cons,List.length_nil]);omega)) fun aZ b0 c7 b1 c8 c9 b2=>Pl 1<|nt<|rt<|br<|tr<|rr (.slice aZ ((bf ([M.addr])).length) b0)<|?_
 have hs:bL dir M=(bf ([M.addr])):=by
   unfold bL
   (try simp only[U,j,c,f,g,k,n,o,p,bs,if_true,if_false,decide_true,decide_false,reduceIte])
   all_goals rfl
 rw[hs]
 exact⟨_,rfl,(be.weaken b1 (le (le (le i.size d.size) b.size) V.size)),(aH l (aH V b2))⟩
 have p:(M.code==24)=false:=by simpa only[hd0,bs] using o
 have aQ:=ap p
 refine sg<|Pl 3<|nt<|cf p<|sk<|bn<|tn<|sg<|Pl 1<|L0<|aR a 2<|Pl 1<|L0<|aR a 3<|?_
 refine L0<|dx (m:=2) (e:=24) #[.int .u16 M.addr,.int .u16 M.count] fun ca cc b3 b4 W=>?_
 have b5:=ee b3 (xs:=[M.addr,M.count]) (by as_aux_lemma=>kernel_rfl) (az (by omega) (az (by omega) aX)) (by(try simp only[List.length_cons,List.length_nil]);omega) b4
 refine L0<|Oc<|ep (bC (xs:=[M.addr,M.count]) (b5).rd (by(try simp only[List.length_cons,List.length_nil]);omega)) fun b6 b7 cd b8 cg ch b9=>Pl 1<|nt<|rt<|rr (.slice b6 ((bf ([M.addr,M.count])).length) b7)<|?_
 have hs:bL dir M=(bf ([M.addr,M.count])):=by
   unfold bL
   (try simp only[hd0,j,c,f,g,k,n,o,p,bs,if_true,if_false,decide_true,decide_false,reduceIte])
   all_goals rfl
 rw[hs]
 exact⟨_,rfl,(be.weaken b8 (le (le (le i.size d.size) b.size) W.size)),(aH l (aH W b9))⟩
theorem nW{m:Md}{cs:Array Value}{M:aP}{w:World}{dir:Int}(h:aW m w cs.toList M)(hf:cY M)(hd0:(dir==0)=false) : Calls Tryz.prog 205 #[.int .i64 dir,.agg cs] w (gQ (bL dir M) w):=by
 obtain⟨vw,vb,vd,vr,vo,h0,hw,hbt,hd,hr,ho,hR⟩:=h
 obtain rfl:cs=(bQ M vw vb vd vr vo).toArray:=by apply Array.toList_inj.1;simpa using h0
 clear h0
 obtain⟨Aw,kw,rfl,_,_⟩:=hw.shape
 obtain⟨Ab,kb,rfl,_,_⟩:=hbt.shape
 obtain⟨Ad,kd,rfl,_,_⟩:=hd.shape
 obtain⟨Ar,kr,rfl,_,_⟩:=hr.shape
 obtain⟨Ao,ko,rfl,_,_⟩:=ho.shape
 obtain⟨q0,q1,q2,q3,q4,q5,q6,q7,q8,q9,R,S,T,U,V,W,X⟩:=hR
 simp only[B8,dm] at q0 q1 q2 q3 q4 q5 q6 q7 q8 q9 R S T U V W X
 have hf1:=hf.words
 have hf2:=hf.bits
 have hf3:=hf.data
 have hf4:=hf.recs
 have hf5:=hf.objects
 refine en 124 Tryz.func205 rfl<|sg<|L0<|dz (mG M.code M.fail M.addr M.count M.value M.and_ M.or_ M.addr2 M.sub M.status M.events M.messages (.slice Aw M.words.length kw) (.slice Ab M.bits.length kb) (.slice Ad M.data.length kd) (.slice Ar M.recs.length kr) M.mei M.kind M.level M.more M.next (.slice Ao M.objects.length ko)) fun aS aU aV A d=>Pl 1<|ng<|Pl 1<|L0<|aR A 12<|Pl 2<|nt<|?_
 refine sg<|Pl 1<|L0<|Oi (2*((M.words.length:Nat) : Int))<|Pl 1<|L0<|dx (m:=1) (e:=5) #[.int .u8 ((2*((M.words.length:Nat) : Int))%256)] fun aY aZ Y Z f=>?_
 have B:=dF Y (xs:=[((2*((M.words.length:Nat) : Int))%256)]) (by as_aux_lemma=>kernel_rfl) (az (by omega) aX) (by(try simp only[List.length_cons,List.length_nil]);omega) Z
 refine Pl 1<|?_
 have C:=ub f A
 refine L0<|aR C 12<|?_
 have D:=aH d f
 refine L0<|Oc<|ep (bC (xs:=M.words) (dN.old hw D) (by(try simp only[List.length_cons,List.length_nil]);omega)) fun b0 b1 b2 E b3 b4 a=>Pl 2<|ng<|Pl 3<|nt<|sq<|sg<|Pl 1<|?_
 have b:=ub a C
 refine L0<|aR b 0<|Pl 1<|nt<|bk<|sg<|Pl 3<|?_
 have i:(!(dir==0))=true:=by simp only[hd0,Bool.not_true,Bool.not_false]
 refine sy 27 i<|Pl 3<|cu 3 [30] 33 (((M.code==3)||(M.code==4))) (fun K F=>?_) ?_
 refine bl 30 ((M.code==3)) (fun n=>?_) (fun n=>?_)
 have a0:=al n
 exact Pl 3<|ce F true (by rw[n];rfl)
 have a0:=ap n
 exact Pl 3<|ce F (M.code==4) (by rw[n];rfl)
 refine Pl 1<|cu 3 [34] 37 ((((M.code==3)||(M.code==4))||(M.code==23))) (fun K G=>?_) ?_
 refine bl 34 (((M.code==3)||(M.code==4))) (fun o=>?_) (fun o=>?_)
 exact Pl 3<|ce G true (by rw[o];rfl)
 have a1:=(aJ o).1
 have a2:=(aJ o).2
 have b5:=ap a1
 have b6:=ap a2
 exact Pl 3<|ce G (M.code==23) (by rw[o];rfl)
 refine Pl 2<|nt<|?_
 have p:=aH D a
 refine cb ((((M.code==3)||(M.code==4))||(M.code==23))) (fun c=>?_) (fun c=>?_)
 refine sg<|Pl 2<|?_
 refine L0<|cK bt (xs:=([((2*((M.words.length:Nat) : Int))%256)])) (ys:=(bf M.words)) (.int .u8 0) 1 (ax B a (fun x hx=>ay) (fun _ _ h=>h)) (E).rd (by(try simp only[List.length_append,List.length_cons,List.length_nil,aB]);omega) (le f.size a.size) fun a3 a4 b7 a5 a6=>Pl 1<|nt<|rt<|br<|tr<|rr (.slice a3 (([((2*((M.words.length:Nat) : Int))%256)]++(bf M.words)).length) a4)<|?_
 have hs:bL dir M=([((2*((M.words.length:Nat) : Int))%256)]++(bf M.words)):=by
   unfold bL
   (try simp only[hd0,i,c,bs,if_true,if_false,decide_true,decide_false,reduceIte])
   all_goals rfl
 rw[hs]
 exact⟨_,rfl,(be.weaken a5 d.size),(ut p a6 (av (aT B d.size) aq))⟩
 have j:=(aJ c).1
 have k:=(aJ c).2
 have q:=(aJ j).1
 have r:=(aJ j).2
 have q40aap:=ap q
 have q40abp:=ap r
 have b8:=ap k
 refine sg<|Pl 3<|nt<|cb ((M.code==6)) (fun g=>?_) (fun g=>?_)
 have a7:=al g
 refine sg<|Pl 1<|L0<|aR b 2<|Pl 1<|L0<|aR b 4<|L0<|dx (m:=2) (e:=24) #[.int .u16 M.addr,.int .u16 M.value] fun b9 ba a8 a9 H=>?_
 have aa:=ee a8 (xs:=[M.addr,M.value]) (by as_aux_lemma=>kernel_rfl) (az (by omega) (az (by omega) aX)) (by(try simp only[List.length_cons,List.length_nil]);omega) a9
 refine L0<|Oc<|ep (bC (xs:=[M.addr,M.value]) (aa).rd (by(try simp only[List.length_cons,List.length_nil]);omega)) fun ab ac bb ad bc bd ae=>Pl 1<|nt<|rt<|br<|tr<|rr (.slice ab ((bf ([M.addr,M.value])).length) ac)<|?_
 have hs:bL dir M=(bf ([M.addr,M.value])):=by
   unfold bL
   (try simp only[hd0,i,c,j,q,r,k,g,bs,if_true,if_false,decide_true,decide_false,reduceIte])
   all_goals rfl
 rw[hs]
 exact⟨_,rfl,(be.weaken ad (le (le (le d.size f.size) a.size) H.size)),(aH p (aH H ae))⟩
 have a7:=ap g
 refine sg<|Pl 3<|nt<|cb ((M.code==22)) (fun l=>?_) (fun l=>?_)
 have af:=al l
 refine sg<|Pl 1<|L0<|aR b 2<|Pl 1<|L0<|aR b 5<|Pl 1<|L0<|aR b 6<|L0<|dx (m:=3) (e:=24) #[.int .u16 M.addr,.int .u16 M.and_,.int .u16 M.or_] fun bg bh ag ah I=>?_
 have ai:=ee ag (xs:=[M.addr,M.and_,M.or_]) (by as_aux_lemma=>kernel_rfl) (az (by omega) (az (by omega) (az (by omega) aX))) (by(try simp only[List.length_cons,List.length_nil]);omega) ah
 refine L0<|Oc<|ep (bC (xs:=[M.addr,M.and_,M.or_]) (ai).rd (by(try simp only[List.length_cons,List.length_nil]);omega)) fun aj ak bi am bj bm an=>Pl 1<|nt<|rt<|br<|tr<|rr (.slice aj ((bf ([M.addr,M.and_,M.or_])).length) ak)<|?_
 have hs:bL dir M=(bf ([M.addr,M.and_,M.or_])):=by
   unfold bL
   (try simp only[hd0,i,c,j,q,r,k,g,l,bs,if_true,if_false,decide_true,decide_false,reduceIte])
   all_goals rfl
 rw[hs]
 exact⟨_,rfl,(be.weaken am (le (le (le d.size f.size) a.size) I.size)),(aH p (aH I an))⟩
 have af:=ap l
 refine sg<|Pl 3<|cu 2 [65] 67 (((M.code==16)&&(dir==0))) (fun K J=>?_) ?_
 refine bl 65 ((M.code==16)) (fun s=>?_) (fun s=>?_)
 have ao:=al s
 exact Pl 2<|ce J (dir==0) (by rw[s];rfl)
 have ao:=ap s
 exact Pl 2<|ce J false (by rw[s];rfl)
 refine Pl 1<|nt<|?_
 have v:((M.code==16)&&(dir==0))=false:=by simp only[hd0,bs]
 refine cf v<|sg<|Pl 3<|nt<|cf k<|sg<|Pl 3<|cu 2 [98] 100 (((M.code==24)&&(dir==0))) (fun K L=>?_) ?_
 refine bl 98 ((M.code==24)) (fun t=>?_) (fun t=>?_)
 have ar:=al t
 exact Pl 2<|ce L (dir==0) (by rw[t];rfl)
 have ar:=ap t
 exact Pl 2<|ce L false (by rw[t];rfl)
 refine Pl 1<|nt<|?_
 have y:((M.code==24)&&(dir==0))=false:=by simp only[hd0,bs]
 refine cf y<|sg<|Pl 3<|nt<|cb ((M.code==24)) (fun u=>?_) (fun u=>?_)
 have au:=al u
 refine sg<|Pl 1<|L0<|Oi (2*((M.words.length:Nat) : Int))<|L0<|Oi (2+(2*((M.words.length:Nat) : Int)))<|Pl 3<|L0<|dx (m:=2) (e:=24) #[.int .u16 ((2+(2*((M.words.length:Nat) : Int)))%65536),.int .u16 (((M.words.length:Nat) : Int)%65536)] fun bo bp aw aA z=>?_
 have aC:=ee aw (xs:=[((2+(2*((M.words.length:Nat) : Int)))%65536),(((M.words.length:Nat) : Int)%65536)]) (by as_aux_lemma=>kernel_rfl) (az (by omega) (az (by omega) aX)) (by(try simp only[List.length_cons,List.length_nil]);omega) aA
 refine L0<|Oc<|ep (bC (xs:=[((2+(2*((M.words.length:Nat) : Int)))%65536),(((M.words.length:Nat) : Int)%65536)]) (aC).rd (by(try simp only[List.length_cons,List.length_nil]);omega)) fun bq bu bv N bw bx O=>Pl 1<|?_
 have P:=aH z O
 refine L0<|cK bt (xs:=(bf ([((2+(2*((M.words.length:Nat) : Int)))%65536),(((M.words.length:Nat) : Int)%65536)]))) (ys:=(bf M.words)) (.int .u8 0) 1 N ((ax E P (fun x hx=>ay) (fun _ _ h=>h))).rd (by(try simp only[List.length_append,List.length_cons,List.length_nil,aB]);omega) O.size fun aD aE bz aF aG=>Pl 1<|nt<|rt<|br<|tr<|rr (.slice aD (((bf ([((2+(2*((M.words.length:Nat) : Int)))%65536),(((M.words.length:Nat) : Int)%65536)]))++(bf M.words)).length) aE)<|?_
 have hs:bL dir M=((bf ([((2+(2*((M.words.length:Nat) : Int)))%65536),(((M.words.length:Nat) : Int)%65536)]))++(bf M.words)):=by
   unfold bL
   (try simp only[hd0,i,c,j,q,r,k,g,l,v,y,u,bs,if_true,if_false,decide_true,decide_false,reduceIte])
   all_goals rfl
 rw[hs]
 exact⟨_,rfl,(be.weaken aF (le (le (le d.size f.size) a.size) z.size)),(aH p (ut P aG (av (aT N z.size) aq)))⟩
 have au:=ap u
 refine sk<|bn<|tn<|sg<|Pl 1<|L0<|aR b 2<|Pl 1<|L0<|aR b 3<|L0<|dx (m:=2) (e:=24) #[.int .u16 M.addr,.int .u16 M.count] fun bA bB aI aK Q=>?_
 have aL:=ee aI (xs:=[M.addr,M.count]) (by as_aux_lemma=>kernel_rfl) (az (by omega) (az (by omega) aX)) (by(try simp only[List.length_cons,List.length_nil]);omega) aK
 refine L0<|Oc<|ep (bC (xs:=[M.addr,M.count]) (aL).rd (by(try simp only[List.length_cons,List.length_nil]);omega)) fun aM aN bD aO bE bF aQ=>Pl 1<|nt<|rt<|rr (.slice aM ((bf ([M.addr,M.count])).length) aN)<|?_
 have hs:bL dir M=(bf ([M.addr,M.count])):=by
   unfold bL
   (try simp only[hd0,i,c,j,q,r,k,g,l,v,y,u,bs,if_true,if_false,decide_true,decide_false,reduceIte])
   all_goals rfl
 rw[hs]
 exact⟨_,rfl,(be.weaken aO (le (le (le d.size f.size) a.size) Q.size)),(aH p (aH Q aQ))⟩
theorem rZ{m:Md}{cs:Array Value}{M:aP}{w:World}{dir:Int}(h:aW m w cs.toList M)(hf:cY M) : Calls Tryz.prog 205 #[.int .i64 dir,.agg cs] w (gQ (bL dir M) w):=by
  rcases dC (dir==0) with h0|h0
  · exact ox h hf h0
  · exact nW h hf h0
end Go.Proofs.YtogbnemojakcpaaGreat
