/- Contracts of functions, part CAduParses3. -/
import Derived.Test.YtogbnemojakcpaaGreatCAduParses1
import Derived.Test.YtogbnemojakcpaaGreatCAduParses2
import Derived.RangeFuncRecord
import Derived.RangeFuncLeaves
import Derived.RangeFuncCalls
set_option linter.unusedVariables false
set_option linter.unusedSimpArgs false
set_option maxRecDepth 100000
set_option maxHeartbeats 4000000
namespace Go.Proofs.YtogbnemojakcpaaGreat
open Go.RowKit
def aO (dir c:Int)(C:ah) : Option (ah × aQ) :=
  if c==8 then some (ef dir c C)
  else if c==7 || c==11 || c==12 || c==17 then (if dir==1 then some (bZ c C) else some (C,{ aQ.zero with code:=c }))
  else none
theorem mE{m:Md}{A:Option Addr}{cp:Nat}{b:List Int}{w:World}{c:Int}(hcode:B8 c)(hsl:aT m w (.slice A b.length cp) b)(hb:b.length≤1048576) :
    Calls Tryz.prog 142 #[.int .i64 0,.int .u8 c,.slice A b.length cp] w (dP (ae aO 0 c b) w):=by
 obtain⟨hcode1,hcode2⟩:=hcode
 have hln:(b.length:Int)≤1048576:=by omega
 refine en 47 Tryz.func142 rfl<|sg<|L0<|bE mZ fun b5 b6 j i O=>Pl 1<|nt<|sq<|sg<|Pl 6<|nt<|c0<|?_
 refine bi<|sg<|Pl 2<|L0<|bE mZ fun b7 b9 q P aa=>L0<|aW P (mC c) fun ba r Q=>ng<|Pl 1<|?_
 have g:=ud aa Q q
 have n:=aF O g
 refine L0<|Oc<|e3 (dJ (aT.old hsl n) (by omega)) fun bb bc a s d=>Pl 1<|nt<|sq<|sg<|Pl 1<|nt<|bk<|sg<|Pl 2<|nl<|?_
 refine tn<|?_
 have o:=aF n d
 refine cb ((c==8)) (fun f=>?_) (fun f=>?_)
 have ad:=al f
 refine go<|Pl 2<|?_
 have R:=nb (am P) Q.size a
 refine L0<|Oc<|m3 (np (dir:=0) (c:=c) ⟨hcode1,hcode2⟩ s (ub d r) (Ne.symm R)) fun bd af ag S=>?_
 obtain⟨an,B,C⟩:=ag
 refine ab af fun x41 T U=>?_
 refine nl<|bn<|tn<|sg<|Pl 1<|L0<|Oc<|m2 (cy U) fun be V D=>nt<|sq<|sg<|Pl 1<|L0<|Oc<|mq (bD V)<|?_
 have bf:=aj.len V
 refine Pl 1<|ng<|Pl 2<|nt<|?_
 have E:=u1 S D im
 have W:=ut o E (ac (ni n.size a) (ac (ni O.size q) au))
 refine cb ((x41.endC.e != 0)) (fun t=>?_) (fun t=>?_)
 have F:=aq t
 refine sg<|Pl 2<|?_
 refine L0<|aW (ub (ud g (ud d E a) q) i) mZ fun bg ao ar=>Pl 1<|nt<|rt<|tr<|bz ao (.int .i64 x41.endC.e)<|?_
 subst T
 have hs:ae aO 0 c b=aH ((ef 0 c (ah.mk b false 0)).2) ((ef 0 c (ah.mk b false 0)).1):=by
   unfold ae aO
   (try simp only[f,t,bs,if_true,if_false,decide_true,decide_false,eq_self,true_or,or_true,or_false,false_or,if_true,if_false,cl,cj,cm,ck,reduceIte])
   all_goals rfl
 rw[hs]
 exact bA F (ud W ar j)
 have F:=ai t
 refine bi<|sg<|?_
 refine L0<|ci (hz:=(by rw[B.2];exact aS)) (aX D R B.1)<|?_
 refine L0<|aW (hz:=(by rw[B.2];exact aS)) (hv:=C.size) (h1:=C.one) (ub (ud g (ud d E a) q) i) (an) fun bh av X=>Pl 1<|nt<|rt<|eu 22 B.2 av (.int .i64 0)<|?_
 subst T
 have hs:ae aO 0 c b=aH ((ef 0 c (ah.mk b false 0)).2) ((ef 0 c (ah.mk b false 0)).1):=by
   unfold ae aO
   (try simp only[f,t,bs,if_true,if_false,decide_true,decide_false,eq_self,true_or,or_true,or_false,false_or,if_true,if_false,cl,cj,cm,ck,reduceIte])
   all_goals rfl
 rw[hs]
 exact bF F (aL.upd C (us D X) (ak (aj.safe U _ (by decide)) (ak (aM (ub (ud g (ud d S a) q) i) (by decide)) aG))) (ud W X j)
 have ad:=ap f
 refine sq<|sg<|Pl 2<|nt<|cb ((c==7)) (fun h=>?_) (fun h=>?_)
 have aw:=al h
 refine bi<|ct h<|sg<|Pl 2<|nt<|c0<|sk<|bn<|tn<|sg<|?_
 refine Pl 1<|L0<|Oc<|m2 (cy s) fun bj Y G=>nt<|sq<|sg<|Pl 1<|L0<|Oc<|mq (bD Y)<|?_
 have bl:=aj.len Y
 refine Pl 1<|ng<|Pl 2<|nt<|?_
 have Z:=ud o G (le n.size a)
 refine cb (((((ah.mk b false 0).endC).e)!=0)) (fun u=>?_) (fun u=>?_)
 have H:=aq u
 refine sg<|Pl 2<|?_
 refine L0<|aW (ub (aF g (ud d G a)) i) mZ fun bm ax ay=>Pl 1<|nt<|rt<|tr<|bz ax (.int .i64 (((ah.mk b false 0).endC).e))<|?_
 have hs:ae aO 0 c b=aH (aQ.mk c 0 0 0 0 0 0 0 0 0 0 0 [] [] [] [] 0 0 0 0 0 []) (ah.mk b false 0):=by
   unfold ae aO
   (try simp only[f,h,u,bs,if_true,if_false,decide_true,decide_false,eq_self,true_or,or_true,or_false,false_or,if_true,if_false,cl,cj,cm,ck,reduceIte])
   all_goals rfl
 rw[hs]
 exact bA H (ud Z ay j)
 have H:=ai u
 refine bi<|sg<|?_
 have a0:=ud d G a
 refine L0<|ci (ub a0 r)<|?_
 refine L0<|aW (ub (aF g a0) i) (mC c) fun bo az aA=>Pl 1<|nt<|rt<|bz az (.int .i64 0)<|?_
 have hs:ae aO 0 c b=aH (aQ.mk c 0 0 0 0 0 0 0 0 0 0 0 [] [] [] [] 0 0 0 0 0 []) (ah.mk b false 0):=by
   unfold ae aO
   (try simp only[f,h,u,bs,if_true,if_false,decide_true,decide_false,eq_self,true_or,or_true,or_false,false_or,if_true,if_false,cl,cj,cm,ck,reduceIte])
   all_goals rfl
 rw[hs]
 exact bF H ⟨_,_,_,_,_,rfl,aK.nil ..,aK.nil ..,aK.nil ..,aK.nil ..,aK.nil ..,⟨(b8 (x:=c) (by omega)),(b8 (x:=0) (by omega)),(aB (x:=0) (by omega)),(aB (x:=0) (by omega)),(aB (x:=0) (by omega)),(aB (x:=0) (by omega)),(aB (x:=0) (by omega)),(aB (x:=0) (by omega)),(aB (x:=0) (by omega)),(aB (x:=0) (by omega)),(aB (x:=0) (by omega)),(aB (x:=0) (by omega)),(b8 (x:=0) (by omega)),(b8 (x:=0) (by omega)),(b8 (x:=0) (by omega)),(b8 (x:=0) (by omega)),(b8 (x:=0) (by omega))⟩⟩ (ud Z aA j)
 have aw:=ap h
 refine sg<|Pl 2<|nt<|cb ((c==11)) (fun k=>?_) (fun k=>?_)
 have aC:=al k
 refine bi<|ct k<|sg<|Pl 2<|nt<|c0<|sk<|bn<|tn<|sg<|?_
 refine Pl 1<|L0<|Oc<|m2 (cy s) fun bp a1 I=>nt<|sq<|sg<|Pl 1<|L0<|Oc<|mq (bD a1)<|?_
 have bq:=aj.len a1
 refine Pl 1<|ng<|Pl 2<|nt<|?_
 have a2:=ud o I (le n.size a)
 refine cb (((((ah.mk b false 0).endC).e)!=0)) (fun v=>?_) (fun v=>?_)
 have J:=aq v
 refine sg<|Pl 2<|?_
 refine L0<|aW (ub (aF g (ud d I a)) i) mZ fun bt aD aE=>Pl 1<|nt<|rt<|tr<|bz aD (.int .i64 (((ah.mk b false 0).endC).e))<|?_
 have hs:ae aO 0 c b=aH (aQ.mk c 0 0 0 0 0 0 0 0 0 0 0 [] [] [] [] 0 0 0 0 0 []) (ah.mk b false 0):=by
   unfold ae aO
   (try simp only[f,h,k,v,bs,if_true,if_false,decide_true,decide_false,eq_self,true_or,or_true,or_false,false_or,if_true,if_false,cl,cj,cm,ck,reduceIte])
   all_goals rfl
 rw[hs]
 exact bA J (ud a2 aE j)
 have J:=ai v
 refine bi<|sg<|?_
 have a3:=ud d I a
 refine L0<|ci (ub a3 r)<|?_
 refine L0<|aW (ub (aF g a3) i) (mC c) fun bu aI aJ=>Pl 1<|nt<|rt<|bz aI (.int .i64 0)<|?_
 have hs:ae aO 0 c b=aH (aQ.mk c 0 0 0 0 0 0 0 0 0 0 0 [] [] [] [] 0 0 0 0 0 []) (ah.mk b false 0):=by
   unfold ae aO
   (try simp only[f,h,k,v,bs,if_true,if_false,decide_true,decide_false,eq_self,true_or,or_true,or_false,false_or,if_true,if_false,cl,cj,cm,ck,reduceIte])
   all_goals rfl
 rw[hs]
 exact bF J ⟨_,_,_,_,_,rfl,aK.nil ..,aK.nil ..,aK.nil ..,aK.nil ..,aK.nil ..,⟨(b8 (x:=c) (by omega)),(b8 (x:=0) (by omega)),(aB (x:=0) (by omega)),(aB (x:=0) (by omega)),(aB (x:=0) (by omega)),(aB (x:=0) (by omega)),(aB (x:=0) (by omega)),(aB (x:=0) (by omega)),(aB (x:=0) (by omega)),(aB (x:=0) (by omega)),(aB (x:=0) (by omega)),(aB (x:=0) (by omega)),(b8 (x:=0) (by omega)),(b8 (x:=0) (by omega)),(b8 (x:=0) (by omega)),(b8 (x:=0) (by omega)),(b8 (x:=0) (by omega))⟩⟩ (ud a2 aJ j)
 have aC:=ap k
 refine sg<|Pl 2<|nt<|cb ((c==12)) (fun l=>?_) (fun l=>?_)
 have aN:=al l
 refine bi<|ct l<|sg<|Pl 2<|nt<|c0<|sk<|bn<|tn<|sg<|?_
 refine Pl 1<|L0<|Oc<|m2 (cy s) fun bv a4 K=>nt<|sq<|sg<|Pl 1<|L0<|Oc<|mq (bD a4)<|?_
 have bw:=aj.len a4
 refine Pl 1<|ng<|Pl 2<|nt<|?_
 have a5:=ud o K (le n.size a)
 refine cb (((((ah.mk b false 0).endC).e)!=0)) (fun y=>?_) (fun y=>?_)
 have L:=aq y
 refine sg<|Pl 2<|?_
 refine L0<|aW (ub (aF g (ud d K a)) i) mZ fun bx aP aR=>Pl 1<|nt<|rt<|tr<|bz aP (.int .i64 (((ah.mk b false 0).endC).e))<|?_
 have hs:ae aO 0 c b=aH (aQ.mk c 0 0 0 0 0 0 0 0 0 0 0 [] [] [] [] 0 0 0 0 0 []) (ah.mk b false 0):=by
   unfold ae aO
   (try simp only[f,h,k,l,y,bs,if_true,if_false,decide_true,decide_false,eq_self,true_or,or_true,or_false,false_or,if_true,if_false,cl,cj,cm,ck,reduceIte])
   all_goals rfl
 rw[hs]
 exact bA L (ud a5 aR j)
 have L:=ai y
 refine bi<|sg<|?_
 have a6:=ud d K a
 refine L0<|ci (ub a6 r)<|?_
 refine L0<|aW (ub (aF g a6) i) (mC c) fun bB aU aV=>Pl 1<|nt<|rt<|bz aU (.int .i64 0)<|?_
 have hs:ae aO 0 c b=aH (aQ.mk c 0 0 0 0 0 0 0 0 0 0 0 [] [] [] [] 0 0 0 0 0 []) (ah.mk b false 0):=by
   unfold ae aO
   (try simp only[f,h,k,l,y,bs,if_true,if_false,decide_true,decide_false,eq_self,true_or,or_true,or_false,false_or,if_true,if_false,cl,cj,cm,ck,reduceIte])
   all_goals rfl
 rw[hs]
 exact bF L ⟨_,_,_,_,_,rfl,aK.nil ..,aK.nil ..,aK.nil ..,aK.nil ..,aK.nil ..,⟨(b8 (x:=c) (by omega)),(b8 (x:=0) (by omega)),(aB (x:=0) (by omega)),(aB (x:=0) (by omega)),(aB (x:=0) (by omega)),(aB (x:=0) (by omega)),(aB (x:=0) (by omega)),(aB (x:=0) (by omega)),(aB (x:=0) (by omega)),(aB (x:=0) (by omega)),(aB (x:=0) (by omega)),(aB (x:=0) (by omega)),(b8 (x:=0) (by omega)),(b8 (x:=0) (by omega)),(b8 (x:=0) (by omega)),(b8 (x:=0) (by omega)),(b8 (x:=0) (by omega))⟩⟩ (ud a5 aV j)
 have aN:=ap l
 refine go<|Pl 2<|nt<|cb ((c==17)) (fun p=>?_) (fun p=>?_)
 have aY:=al p
 refine sg<|Pl 2<|nt<|c0<|sk<|bn<|tn<|sg<|Pl 1<|L0<|Oc<|m2 (cy s) fun bC a7 M=>nl<|?_
 refine tn<|sq<|sg<|Pl 1<|L0<|Oc<|mq (bD a7)<|?_
 have bG:=aj.len a7
 refine Pl 1<|ng<|Pl 2<|nt<|?_
 have a8:=ud o M (le n.size a)
 refine cb (((((ah.mk b false 0).endC).e)!=0)) (fun z=>?_) (fun z=>?_)
 have N:=aq z
 refine sg<|Pl 2<|?_
 refine L0<|aW (ub (aF g (ud d M a)) i) mZ fun bH aZ b0=>Pl 1<|nt<|rt<|tr<|bz aZ (.int .i64 (((ah.mk b false 0).endC).e))<|?_
 have hs:ae aO 0 c b=aH (aQ.mk c 0 0 0 0 0 0 0 0 0 0 0 [] [] [] [] 0 0 0 0 0 []) (ah.mk b false 0):=by
   unfold ae aO
   (try simp only[f,h,k,l,p,z,bs,if_true,if_false,decide_true,decide_false,eq_self,true_or,or_true,or_false,false_or,if_true,if_false,cl,cj,cm,ck,reduceIte])
   all_goals rfl
 rw[hs]
 exact bA N (ud a8 b0 j)
 have N:=ai z
 refine bi<|sg<|?_
 have a9:=ud d M a
 refine L0<|ci (ub a9 r)<|?_
 refine L0<|aW (ub (aF g a9) i) (mC c) fun bI b1 b2=>Pl 1<|nt<|rt<|bz b1 (.int .i64 0)<|?_
 have hs:ae aO 0 c b=aH (aQ.mk c 0 0 0 0 0 0 0 0 0 0 0 [] [] [] [] 0 0 0 0 0 []) (ah.mk b false 0):=by
   unfold ae aO
   (try simp only[f,h,k,l,p,z,bs,if_true,if_false,decide_true,decide_false,eq_self,true_or,or_true,or_false,false_or,if_true,if_false,cl,cj,cm,ck,reduceIte])
   all_goals rfl
 rw[hs]
 exact bF N ⟨_,_,_,_,_,rfl,aK.nil ..,aK.nil ..,aK.nil ..,aK.nil ..,aK.nil ..,⟨(b8 (x:=c) (by omega)),(b8 (x:=0) (by omega)),(aB (x:=0) (by omega)),(aB (x:=0) (by omega)),(aB (x:=0) (by omega)),(aB (x:=0) (by omega)),(aB (x:=0) (by omega)),(aB (x:=0) (by omega)),(aB (x:=0) (by omega)),(aB (x:=0) (by omega)),(aB (x:=0) (by omega)),(aB (x:=0) (by omega)),(b8 (x:=0) (by omega)),(b8 (x:=0) (by omega)),(b8 (x:=0) (by omega)),(b8 (x:=0) (by omega)),(b8 (x:=0) (by omega))⟩⟩ (ud a8 b2 j)
 have aY:=ap p
 refine sg<|Pl 1<|?_
 refine L0<|aW (ub (aF g d) i) mZ fun bJ b3 b4=>Pl 1<|nt<|rt<|br<|tr<|bz b3 (.int .i64 4)<|?_
 have hs:ae aO 0 c b=(aQ.zero,4):=by
   unfold ae aO
   (try simp only[f,h,k,l,p,bs,if_true,if_false,decide_true,decide_false,eq_self,true_or,or_true,or_false,false_or,if_true,if_false,cl,cj,cm,ck,reduceIte])
   all_goals rfl
 rw[hs]
 exact cJ (ud o b4 j)
theorem mv{m:Md}{A:Option Addr}{cp:Nat}{b:List Int}{w:World}{c:Int}(hcode:B8 c)(hsl:aT m w (.slice A b.length cp) b)(hb:b.length≤1048576) :
    Calls Tryz.prog 142 #[.int .i64 1,.int .u8 c,.slice A b.length cp] w (dP (ae aO 1 c b) w):=by
 obtain⟨hcode1,hcode2⟩:=hcode
 have hln:(b.length:Int)≤1048576:=by omega
 refine en 47 Tryz.func142 rfl<|sg<|L0<|bE mZ fun bQ bR k h p=>Pl 1<|nt<|sq<|sg<|Pl 6<|nt<|c0<|?_
 refine bi<|sg<|Pl 2<|L0<|bE mZ fun bS bT f q b3=>L0<|aW q (mC c) fun bU u r=>ng<|Pl 1<|?_
 have g:=ud b3 r f
 have o:=aF p g
 refine L0<|Oc<|e3 (dJ (aT.old hsl o) (by omega)) fun bV bW a v d=>Pl 1<|nt<|sq<|sg<|Pl 1<|nt<|bk<|sg<|Pl 2<|nl<|?_
 refine tn<|?_
 have s:=aF o d
 refine cb ((c==8)) (fun i=>?_) (fun i=>?_)
 have b4:=al i
 refine go<|Pl 2<|?_
 have a2:=nb (am q) r.size a
 refine L0<|Oc<|m3 (np (dir:=1) (c:=c) ⟨hcode1,hcode2⟩ v (ub d u) (Ne.symm a2)) fun bX b5 b6 a3=>?_
 obtain⟨b7,D,I⟩:=b6
 refine ab b5 fun x41 a4 a5=>?_
 refine nl<|bn<|tn<|sg<|Pl 1<|L0<|Oc<|m2 (cy a5) fun bY a6 J=>nt<|sq<|sg<|Pl 1<|L0<|Oc<|mq (bD a6)<|?_
 have c2:=aj.len a6
 refine Pl 1<|ng<|Pl 2<|nt<|?_
 have K:=u1 a3 J im
 have a7:=ut s K (ac (ni o.size a) (ac (ni p.size f) au))
 refine cb ((x41.endC.e != 0)) (fun x=>?_) (fun x=>?_)
 have L:=aq x
 refine sg<|Pl 2<|?_
 refine L0<|aW (ub (ud g (ud d K a) f) h) mZ fun c3 b8 b9=>Pl 1<|nt<|rt<|tr<|bz b8 (.int .i64 x41.endC.e)<|?_
 subst a4
 have hs:ae aO 1 c b=aH ((ef 1 c (ah.mk b false 0)).2) ((ef 1 c (ah.mk b false 0)).1):=by
   unfold ae aO
   (try simp only[i,x,bs,if_true,if_false,decide_true,decide_false,eq_self,true_or,or_true,or_false,false_or,if_true,if_false,cl,cj,cm,ck,reduceIte])
   all_goals rfl
 rw[hs]
 exact bA L (ud a7 b9 k)
 have L:=ai x
 refine bi<|sg<|?_
 refine L0<|ci (hz:=(by rw[D.2];exact aS)) (aX J a2 D.1)<|?_
 refine L0<|aW (hz:=(by rw[D.2];exact aS)) (hv:=I.size) (h1:=I.one) (ub (ud g (ud d K a) f) h) (b7) fun c4 ba a8=>Pl 1<|nt<|rt<|eu 22 D.2 ba (.int .i64 0)<|?_
 subst a4
 have hs:ae aO 1 c b=aH ((ef 1 c (ah.mk b false 0)).2) ((ef 1 c (ah.mk b false 0)).1):=by
   unfold ae aO
   (try simp only[i,x,bs,if_true,if_false,decide_true,decide_false,eq_self,true_or,or_true,or_false,false_or,if_true,if_false,cl,cj,cm,ck,reduceIte])
   all_goals rfl
 rw[hs]
 exact bF L (aL.upd I (us J a8) (ak (aj.safe a5 _ (by decide)) (ak (aM (ub (ud g (ud d a3 a) f) h) (by decide)) aG))) (ud a7 a8 k)
 have b4:=ap i
 refine sq<|sg<|Pl 2<|nt<|cb ((c==7)) (fun j=>?_) (fun j=>?_)
 have bb:=al j
 refine bi<|ct j<|sg<|Pl 2<|nt<|c1<|go<|Pl 1<|?_
 have a9:=nb (am q) r.size a
 refine L0<|Oc<|m3 (gf (c:=c) ⟨hcode1,hcode2⟩ v (ub d u) (Ne.symm a9)) fun c5 bc bd aa=>?_
 obtain⟨be,E,M⟩:=bd
 refine ab bc fun x81 ad af=>?_
 refine nl<|bn<|tn<|sg<|Pl 1<|L0<|Oc<|m2 (cy af) fun c6 ag N=>nt<|sq<|sg<|Pl 1<|L0<|Oc<|mq (bD ag)<|?_
 have c7:=aj.len ag
 refine Pl 1<|ng<|Pl 2<|nt<|?_
 have O:=u1 aa N im
 have an:=ut s O (ac (ni o.size a) (ac (ni p.size f) au))
 refine cb ((x81.endC.e != 0)) (fun y=>?_) (fun y=>?_)
 have P:=aq y
 refine sg<|Pl 2<|?_
 refine L0<|aW (ub (ud g (ud d O a) f) h) mZ fun c8 bf bg=>Pl 1<|nt<|rt<|tr<|bz bf (.int .i64 x81.endC.e)<|?_
 subst ad
 have hs:ae aO 1 c b=aH ((bZ c (ah.mk b false 0)).2) ((bZ c (ah.mk b false 0)).1):=by
   unfold ae aO
   (try simp only[i,j,y,bs,if_true,if_false,decide_true,decide_false,eq_self,true_or,or_true,or_false,false_or,if_true,if_false,cl,cj,cm,ck,reduceIte])
   all_goals rfl
 rw[hs]
 exact bA P (ud an bg k)
 have P:=ai y
 refine bi<|sg<|?_
 refine L0<|ci (hz:=(by rw[E.2];exact aS)) (aX N a9 E.1)<|?_
 refine L0<|aW (hz:=(by rw[E.2];exact aS)) (hv:=M.size) (h1:=M.one) (ub (ud g (ud d O a) f) h) (be) fun c9 bh ao=>Pl 1<|nt<|rt<|eu 22 E.2 bh (.int .i64 0)<|?_
 subst ad
 have hs:ae aO 1 c b=aH ((bZ c (ah.mk b false 0)).2) ((bZ c (ah.mk b false 0)).1):=by
   unfold ae aO
   (try simp only[i,j,y,bs,if_true,if_false,decide_true,decide_false,eq_self,true_or,or_true,or_false,false_or,if_true,if_false,cl,cj,cm,ck,reduceIte])
   all_goals rfl
 rw[hs]
 exact bF P (aL.upd M (us N ao) (ak (aj.safe af _ (by decide)) (ak (aM (ub (ud g (ud d aa a) f) h) (by decide)) aG))) (ud an ao k)
 have bb:=ap j
 refine sg<|Pl 2<|nt<|cb ((c==11)) (fun l=>?_) (fun l=>?_)
 have bj:=al l
 refine bi<|ct l<|sg<|Pl 2<|nt<|c1<|go<|Pl 1<|?_
 have ar:=nb (am q) r.size a
 refine L0<|Oc<|m3 (gf (c:=c) ⟨hcode1,hcode2⟩ v (ub d u) (Ne.symm ar)) fun ca bl bm av=>?_
 obtain⟨bo,F,Q⟩:=bm
 refine ab bl fun aw ax ay=>?_
 refine nl<|bn<|tn<|sg<|Pl 1<|L0<|Oc<|m2 (cy ay) fun cc az R=>nt<|sq<|sg<|Pl 1<|L0<|Oc<|mq (bD az)<|?_
 have cd:=aj.len az
 refine Pl 1<|ng<|Pl 2<|nt<|?_
 have S:=u1 av R im
 have aA:=ut s S (ac (ni o.size a) (ac (ni p.size f) au))
 refine cb ((aw.endC.e != 0)) (fun z=>?_) (fun z=>?_)
 have T:=aq z
 refine sg<|Pl 2<|?_
 refine L0<|aW (ub (ud g (ud d S a) f) h) mZ fun ce bp bq=>Pl 1<|nt<|rt<|tr<|bz bp (.int .i64 aw.endC.e)<|?_
 subst ax
 have hs:ae aO 1 c b=aH ((bZ c (ah.mk b false 0)).2) ((bZ c (ah.mk b false 0)).1):=by
   unfold ae aO
   (try simp only[i,j,l,z,bs,if_true,if_false,decide_true,decide_false,eq_self,true_or,or_true,or_false,false_or,if_true,if_false,cl,cj,cm,ck,reduceIte])
   all_goals rfl
 rw[hs]
 exact bA T (ud aA bq k)
 have T:=ai z
 refine bi<|sg<|?_
 refine L0<|ci (hz:=(by rw[F.2];exact aS)) (aX R ar F.1)<|?_
 refine L0<|aW (hz:=(by rw[F.2];exact aS)) (hv:=Q.size) (h1:=Q.one) (ub (ud g (ud d S a) f) h) (bo) fun cf bt aB=>Pl 1<|nt<|rt<|eu 22 F.2 bt (.int .i64 0)<|?_
 subst ax
 have hs:ae aO 1 c b=aH ((bZ c (ah.mk b false 0)).2) ((bZ c (ah.mk b false 0)).1):=by
   unfold ae aO
   (try simp only[i,j,l,z,bs,if_true,if_false,decide_true,decide_false,eq_self,true_or,or_true,or_false,false_or,if_true,if_false,cl,cj,cm,ck,reduceIte])
   all_goals rfl
 rw[hs]
 exact bF T (aL.upd Q (us R aB) (ak (aj.safe ay _ (by decide)) (ak (aM (ub (ud g (ud d av a) f) h) (by decide)) aG))) (ud aA aB k)
 have bj:=ap l
 refine sg<|Pl 2<|nt<|cb ((c==12)) (fun n=>?_) (fun n=>?_)
 have bu:=al n
 refine bi<|ct n<|sg<|Pl 2<|nt<|c1<|go<|Pl 1<|?_
 have aC:=nb (am q) r.size a
 refine L0<|Oc<|m3 (gf (c:=c) ⟨hcode1,hcode2⟩ v (ub d u) (Ne.symm aC)) fun cg bv bw aD=>?_
 obtain⟨bx,G,U⟩:=bw
 refine ab bv fun aE aI aJ=>?_
 refine nl<|bn<|tn<|sg<|Pl 1<|L0<|Oc<|m2 (cy aJ) fun ch aK V=>nt<|sq<|sg<|Pl 1<|L0<|Oc<|mq (bD aK)<|?_
 have cn:=aj.len aK
 refine Pl 1<|ng<|Pl 2<|nt<|?_
 have W:=u1 aD V im
 have aN:=ut s W (ac (ni o.size a) (ac (ni p.size f) au))
 refine cb ((aE.endC.e != 0)) (fun B=>?_) (fun B=>?_)
 have X:=aq B
 refine sg<|Pl 2<|?_
 refine L0<|aW (ub (ud g (ud d W a) f) h) mZ fun co bB bC=>Pl 1<|nt<|rt<|tr<|bz bB (.int .i64 aE.endC.e)<|?_
 subst aI
 have hs:ae aO 1 c b=aH ((bZ c (ah.mk b false 0)).2) ((bZ c (ah.mk b false 0)).1):=by
   unfold ae aO
   (try simp only[i,j,l,n,B,bs,if_true,if_false,decide_true,decide_false,eq_self,true_or,or_true,or_false,false_or,if_true,if_false,cl,cj,cm,ck,reduceIte])
   all_goals rfl
 rw[hs]
 exact bA X (ud aN bC k)
 have X:=ai B
 refine bi<|sg<|?_
 refine L0<|ci (hz:=(by rw[G.2];exact aS)) (aX V aC G.1)<|?_
 refine L0<|aW (hz:=(by rw[G.2];exact aS)) (hv:=U.size) (h1:=U.one) (ub (ud g (ud d W a) f) h) (bx) fun cq bG aP=>Pl 1<|nt<|rt<|eu 22 G.2 bG (.int .i64 0)<|?_
 subst aI
 have hs:ae aO 1 c b=aH ((bZ c (ah.mk b false 0)).2) ((bZ c (ah.mk b false 0)).1):=by
   unfold ae aO
   (try simp only[i,j,l,n,B,bs,if_true,if_false,decide_true,decide_false,eq_self,true_or,or_true,or_false,false_or,if_true,if_false,cl,cj,cm,ck,reduceIte])
   all_goals rfl
 rw[hs]
 exact bF X (aL.upd U (us V aP) (ak (aj.safe aJ _ (by decide)) (ak (aM (ub (ud g (ud d aD a) f) h) (by decide)) aG))) (ud aN aP k)
 have bu:=ap n
 refine go<|Pl 2<|nt<|cb ((c==17)) (fun t=>?_) (fun t=>?_)
 have bH:=al t
 refine sg<|Pl 2<|nt<|c1<|go<|Pl 1<|?_
 have aR:=nb (am q) r.size a
 refine L0<|Oc<|m3 (gf (c:=c) ⟨hcode1,hcode2⟩ v (ub d u) (Ne.symm aR)) fun cr bI bJ aU=>?_
 obtain⟨bK,H,Y⟩:=bJ
 refine ab bI fun aV aY aZ=>?_
 refine nl<|bn<|tn<|sg<|Pl 1<|L0<|Oc<|m2 (cy aZ) fun cs b0 Z=>nt<|sq<|sg<|Pl 1<|L0<|Oc<|mq (bD b0)<|?_
 have cu:=aj.len b0
 refine Pl 1<|ng<|Pl 2<|nt<|?_
 have a0:=u1 aU Z im
 have b1:=ut s a0 (ac (ni o.size a) (ac (ni p.size f) au))
 refine cb ((aV.endC.e != 0)) (fun C=>?_) (fun C=>?_)
 have a1:=aq C
 refine sg<|Pl 2<|?_
 refine L0<|aW (ub (ud g (ud d a0 a) f) h) mZ fun cv bL bM=>Pl 1<|nt<|rt<|tr<|bz bL (.int .i64 aV.endC.e)<|?_
 subst aY
 have hs:ae aO 1 c b=aH ((bZ c (ah.mk b false 0)).2) ((bZ c (ah.mk b false 0)).1):=by
   unfold ae aO
   (try simp only[i,j,l,n,t,C,bs,if_true,if_false,decide_true,decide_false,eq_self,true_or,or_true,or_false,false_or,if_true,if_false,cl,cj,cm,ck,reduceIte])
   all_goals rfl
 rw[hs]
 exact bA a1 (ud b1 bM k)
 have a1:=ai C
 refine bi<|sg<|?_
 refine L0<|ci (hz:=(by rw[H.2];exact aS)) (aX Z aR H.1)<|?_
 refine L0<|aW (hz:=(by rw[H.2];exact aS)) (hv:=Y.size) (h1:=Y.one) (ub (ud g (ud d a0 a) f) h) (bK) fun cw bN b2=>Pl 1<|nt<|rt<|eu 22 H.2 bN (.int .i64 0)<|?_
 subst aY
 have hs:ae aO 1 c b=aH ((bZ c (ah.mk b false 0)).2) ((bZ c (ah.mk b false 0)).1):=by
   unfold ae aO
   (try simp only[i,j,l,n,t,C,bs,if_true,if_false,decide_true,decide_false,eq_self,true_or,or_true,or_false,false_or,if_true,if_false,cl,cj,cm,ck,reduceIte])
   all_goals rfl
 rw[hs]
 exact bF a1 (aL.upd Y (us Z b2) (ak (aj.safe aZ _ (by decide)) (ak (aM (ub (ud g (ud d aU a) f) h) (by decide)) aG))) (ud b1 b2 k)
 have bH:=ap t
 refine sg<|Pl 1<|?_
 refine L0<|aW (ub (aF g d) h) mZ fun cx bO bP=>Pl 1<|nt<|rt<|br<|tr<|bz bO (.int .i64 4)<|?_
 have hs:ae aO 1 c b=(aQ.zero,4):=by
   unfold ae aO
   (try simp only[i,j,l,n,t,bs,if_true,if_false,decide_true,decide_false,eq_self,true_or,or_true,or_false,false_or,if_true,if_false,cl,cj,cm,ck,reduceIte])
   all_goals rfl
 rw[hs]
 exact cJ (ud s bP k)
theorem mM{m:Md}{A:Option Addr}{cp:Nat}{b:List Int}{w:World}{dir c:Int}(hcode:B8 c)(hsl:aT m w (.slice A b.length cp) b)(hb:b.length≤1048576)(hd:¬ (dir=0∨dir=1)) :
    Calls Tryz.prog 142 #[.int .i64 dir,.int .u8 c,.slice A b.length cp] w (dP (ae aO dir c b) w):=by
 obtain⟨hcode1,hcode2⟩:=hcode
 have hln:(b.length:Int)≤1048576:=by omega
 have e0:(dir != 0)=true:=by simp;omega
 have e1:(dir != 1)=true:=by simp;omega
 refine en 47 Tryz.func142 rfl<|sg<|L0<|bE mZ fun g h a d e=>Pl 1<|nt<|sq<|sg<|Pl 3<|sy 13 e0<|Pl 3<|nl<|?_
 refine tn<|ct e1<|sg<|Pl 1<|L0<|aW d mZ fun i dx f=>Pl 1<|nt<|rt<|tr<|bz dx (.int .i64 1)<|?_
 have hs:ae aO dir c b=(aQ.zero,1):=by
   unfold ae aO
   (try simp only[e0,e1,bs,if_true,if_false,decide_true,decide_false,eq_self,true_or,or_true,or_false,false_or,if_true,if_false,cl,cj,cm,ck,reduceIte,hd])
   all_goals rfl
 rw[hs]
 exact cJ (ud e f a)
theorem jQ{m:Md}{v:Value}{b:List Int}{w:World}{dir c:Int}(hc:B8 c)(h:aT m w v b)(hb:b.length≤1048576) :
    Calls Tryz.prog 142 #[.int .i64 dir,.int .u8 c,v] w (dP (ae aO dir c b) w):=by
  obtain⟨A,cp,rfl,_,_⟩:=h.shape
  by_cases h0:dir=0
  · subst h0;exact mE hc h hb
  by_cases h1:dir=1
  · subst h1;exact mv hc h hb
  exact mM hc h hb (by omega)
open Go.RowKit
def eA:Nat→ah→List Obj→ah × List Obj
  | 0,C,L=>(C,L)
  | n+1,C,L=>eA n (((C.bytesC 1).bytesC 1).bytesC (C.bytesC 1).byteV) (L++[⟨C.byteV,((C.bytesC 1).bytesC 1).bytesR (C.bytesC 1).byteV⟩])
def ls (C:ah) : ah:=(C.bytesC 1).need (ch C.byteV) 6
def l9 (C:ah) : ah:=((ls C).bytesC 1).need ((ls C).byteV==0 || (ls C).byteV==255) 6
def tT (C:ah) : ah:=((l9 C).bytesC 1).need ((ls C).byteV != 0 || (l9 C).byteV==0) 6
def y6 (kd:Int)(C:ah) : ah:=((tT C).bytesC 1).need (kd != 4 || (tT C).byteV==1) 5
def eB (kd:Int)(C:ah) : ah × List Obj:=eA (tT C).byteV.toNat (y6 kd C) []
theorem oQ{g gm:Nat}{c me kd:Int}{C0:ah}{w:World}(hcode:B8 c)(hme:B8 me)(hkd:B8 kd)(hC:aj w g C0)(hm:w.heap[gm]? = some (.cells #[.int .u8 c,.int .u8 0,.int .u16 0,.int .u16 0,.int .u16 0,.int .u16 0,.int .u16 0,.int .u16 0,.int .u16 0,.int .u16 0,.int .u16 0,.int .u16 0,.slice none 0 0,.slice none 0 0,.slice none 0 0,.slice none 0 0,.int .u8 me,.int .u8 kd,.int .u8 0,.int .u8 0,.int .u8 0,.slice none 0 0] 30 (0,0)))(hne:g≠gm) :
    Calls Tryz.prog 213 #[.pointer (some ⟨g,0,none⟩),.pointer (some ⟨gm,0,none⟩)] w (cE g gm (eB kd C0).1 { aQ.zero with code:=c,mei:=me,kind:=kd,level:=C0.byteV,more:=(ls C0).byteV,next:=(l9 C0).byteV,objects:=(eB kd C0).2 } w):=by
 obtain⟨hcode1,hcode2⟩:=hcode
 obtain⟨hme1,hme2⟩:=hme
 obtain⟨hkd1,hkd2⟩:=hkd
 refine en 92 Tryz.func213 rfl<|sg<|Pl 2<|L0<|Oc<|m3 (bS hC) fun cQ bM b cR=>Pl 2<|?_
 have ag:=aX b (Ne.symm hne) hm
 refine L0<|bX ag 18 (mG c 0 0 0 0 0 0 0 0 0 0 0 nS nS nS nS me kd C0.byteV 0 0 nS) fun cT dx j=>ng<|Pl 4<|L0<|aU dx 18<|L0<|Oc<|m1 (rP (x:=C0.byteV) (w:=_)) fun cU d=>?_
 have an:=aF j d
 refine L0<|Oc<|m2 (bf ((ch C0.byteV)) 6 (aj.upd bM an (aa hne ay) (ak (aM ag (by decide)) aG))) fun cV bN l=>?_
 refine ab bN fun x25 bO bP=>?_
 refine ng<|Pl 2<|L0<|Oc<|m3 (bS bP) fun cW bQ o cX=>Pl 2<|?_
 have ao:=u1 l o im
 have ar:=aX (uz d ao) (Ne.symm hne) dx
 refine L0<|bX ar 19 (mG c 0 0 0 0 0 0 0 0 0 0 0 nS nS nS nS me kd C0.byteV x25.byteV 0 nS) fun cY U f=>ng<|Pl 4<|L0<|aU U 19<|Pl 2<|cu 6 [29] 35 (((x25.byteV==0)||(x25.byteV==255))) (fun K aw=>?_) ?_
 refine bl 29 ((x25.byteV==0)) (fun E=>?_) (fun E=>?_)
 have bR:=al E
 exact Pl 6<|ce aw true (by rw[E];rfl)
 have bR:=ap E
 exact Pl 3<|L1<|aU U 19<|Pl 2<|ce aw (x25.byteV==255) (by rw[E];rfl)
 refine L0<|Oc<|m2 (bf (((x25.byteV==0)||(x25.byteV==255))) 6 (aj.upd bQ f (aa hne ay) (ak (aM ar (by decide)) aG))) fun cZ bT p=>?_
 refine ab bT fun x44 bU bV=>?_
 refine ng<|Pl 2<|L0<|Oc<|m3 (bS bV) fun d0 bW q d1=>Pl 2<|?_
 have az:=u1 p q im
 have aE:=aX az (Ne.symm hne) U
 refine L0<|bX aE 20 (mG c 0 0 0 0 0 0 0 0 0 0 0 nS nS nS nS me kd C0.byteV x25.byteV x44.byteV nS) fun d2 V h=>ng<|Pl 4<|L0<|aU V 19<|Pl 2<|cu 6 [48] 54 (((x25.byteV != 0)||(x44.byteV==0))) (fun K aH=>?_) ?_
 refine bl 48 ((x25.byteV != 0)) (fun F=>?_) (fun F=>?_)
 have bY:=aq F
 exact Pl 6<|ce aH true (by rw[F];rfl)
 have bY:=ai F
 exact Pl 3<|L1<|aU V 20<|Pl 2<|ce aH (x44.byteV==0) (by rw[F];rfl)
 refine L0<|Oc<|m2 (bf (((x25.byteV != 0)||(x44.byteV==0))) 6 (aj.upd bW h (aa hne ay) (ak (aM aE (by decide)) aG))) fun d3 bZ r=>?_
 refine ab bZ fun x62 c0 c1=>?_
 refine ng<|Pl 1<|L0<|Oc<|m3 (bS c1) fun d4 c2 s d5=>L0<|Oi x62.byteV<|Pl 1<|ng<|Pl 4<|?_
 have aI:=u1 r s im
 have aJ:=aX aI (Ne.symm hne) V
 refine L0<|aU aJ 17<|Pl 2<|cu 3 [65] 68 (((kd != 4)||(x62.byteV==1))) (fun K aL=>?_) ?_
 refine bl 65 ((kd != 4)) (fun G=>?_) (fun G=>?_)
 have c3:=aq G
 exact Pl 3<|ce aL true (by rw[G];rfl)
 have c3:=ai G
 exact Pl 3<|ce aL (x62.byteV==1) (by rw[G];rfl)
 refine L0<|Oc<|m2 (bf (((kd != 4)||(x62.byteV==1))) 5 c2) fun W c4 i=>?_
 refine ab c4 fun x76 c5 c6=>?_
 refine ng<|Pl 2<|nt<|bk<|?_
 refine hY (fun x=>[(0,.pointer (some ⟨g,0,none⟩)),(1,.pointer (some ⟨gm,0,none⟩)),(70,.int .i64 x62.byteV),(71,.int .i64 ((x.1:Nat) : Int))]) (fun(x:Nat × ah × List Obj × Option Addr × Nat) w'=>aD [g,gm] W w'∧aj w' g x.2.1∧w'.heap[gm]? = some (.cells #[.int .u8 c,.int .u8 0,.int .u16 0,.int .u16 0,.int .u16 0,.int .u16 0,.int .u16 0,.int .u16 0,.int .u16 0,.int .u16 0,.int .u16 0,.int .u16 0,.slice none 0 0,.slice none 0 0,.slice none 0 0,.slice none 0 0,.int .u8 me,.int .u8 kd,.int .u8 C0.byteV,.int .u8 x25.byteV,.int .u8 x44.byteV,.slice x.2.2.2.1 x.2.2.1.length x.2.2.2.2] 30 (0,0))∧be W.heap.size 111 2 (dg true) w' (.slice x.2.2.2.1 x.2.2.1.length x.2.2.2.2) x.2.2.1∧(x.1≤x62.byteV.toNat)∧(eA (x62.byteV.toNat-x.1) x.2.1 x.2.2.1=eA x62.byteV.toNat x76 [])∧(x.2.2.1.length≤x.1)) (fun x=>x62.byteV.toNat-x.1) (0,x76,[],none,0) ⟨aD.refl _ _,c6,(aX i (Ne.symm hne) aJ),be.nil ..,(by(try dsimp only);omega),(by(try dsimp only);rw[Nat.sub_zero]),(by(try dsimp only);(try simp only[List.length_append,List.length_cons,List.length_nil]);omega)⟩ ?_
 rintro⟨k,C,L,A,cp⟩ X ⟨v,c7,c8,c9,ca,cc,cd⟩
 refine i1 [(0,.pointer (some ⟨g,0,none⟩)),(1,.pointer (some ⟨gm,0,none⟩)),(70,.int .i64 x62.byteV),(71,.int .i64 ((k:Nat) : Int))] ?_
 have u:aj X g C:=c7
 have D:X.heap[gm]? = some (.cells #[.int .u8 c,.int .u8 0,.int .u16 0,.int .u16 0,.int .u16 0,.int .u16 0,.int .u16 0,.int .u16 0,.int .u16 0,.int .u16 0,.int .u16 0,.int .u16 0,.slice none 0 0,.slice none 0 0,.slice none 0 0,.slice none 0 0,.int .u8 me,.int .u8 kd,.int .u8 C0.byteV,.int .u8 x25.byteV,.int .u8 x44.byteV,.slice A L.length cp] 30 (0,0)):=c8
 have a:be W.heap.size 111 2 (dg true) X (.slice A L.length cp) L:=c9
 have d6:k≤x62.byteV.toNat:=ca
 have d7:eA (x62.byteV.toNat-k) C L=eA x62.byteV.toNat x76 []:=cc
 have d8:L.length≤k:=cd
 have hobj:eA (x62.byteV.toNat-k) C L=eA x62.byteV.toNat x76 []:=by assumption
 refine sg<|Pl 1<|nt<|sq<|?_
 refine cb ((decide (((k:Nat) : Int)<x62.byteV))) (fun Y=>?_) (fun Y=>?_)
 have cf:=of_decide_eq_true Y
 refine bi<|sq<|bk<|sg<|Pl 1<|L0<|Oc<|m3 (bS u) fun d9 aN y da=>Pl 1<|nt<|Rg 17 (fun w'=>True) fun db t=>bg trivial fun z=>Rt 0 z<|?_
 refine Rt 1 z<|Rt 2 z<|Rt 3 z<|Rt 5 z<|Rt 6 z<|Rt 7 z<|?_
 refine R2 4 8 rfl rfl ?_ ?_
 have Z:=aF y t
 have a0:=aX Z (Ne.symm hne) D
 refine  aU a0 21<|bg trivial fun dc=>?_
 refine R0 8 rfl<|Oc<|m3 (bS (aj.old aN t)) fun dd aO a1 de=>bg trivial fun ci=>Rr 9 ci (.int .i64 ((C.bytesC 1).byteV)) (fun _ _=>cg (.int .i64 (IntKind.i64.wrap ((C.bytesC 1).byteV))) (by kernel_rfl) (congrArg (Value.int .i64) (i64_in (by omega))))<|R0 10 rfl<|Oc<|s3 (cD (n:=(C.bytesC 1).byteV) aO) fun cj ck df cl dh di cm a2=>?_
 have dj:=Nat.le_trans (ah.bytesR_le ((C.bytesC 1).bytesC 1) ((C.bytesC 1).byteV)) (aj.len aO)
 refine ab cm fun dk cn co=>?_
 refine bg trivial fun cq=>Rt 11 cq<|R0 12 rfl<|dD (m:=1) (e:=111) #[.int .u8 C.byteV,.slice cj ((((C.bytesC 1).bytesC 1).bytesR ((C.bytesC 1).byteV)).length) ck] fun dl dm dp cr I=>?_
 have cs:=jC (R:=dg true) (x:=(Obj.mk C.byteV (((C.bytesC 1).bytesC 1).bytesR ((C.bytesC 1).byteV)))) cr rfl ⟨_,rfl,(aT.upd' cl I aG),b8 (by omega)⟩
 refine bg trivial fun dq=>?_
 have aP:=u1 a1 (aF a2 I) im
 have a3:=u1 Z aP im
 have aR:=ax a a3 (fun x hx=>(aa (fun e=>(aA (aj.lt hC) (le (le (le (le (le (le (le (le (le (le (le b.size j.size) d.size) l.size) o.size) f.size) p.size) q.size) h.size) r.size) s.size) i.size) a) (e▸hx)) ay)) (dg.upd8 a3 (ak (aj.safe u _ (by decide)) aG))
 refine R0 13 rfl<|gC (xs:=L) (ys:=([(Obj.mk C.byteV (((C.bytesC 1).bytesC 1).bytesR ((C.bytesC 1).byteV)))])) (.agg #[.int .u8 0,.slice none 0 0]) 2 32 aR cs (by simp) dg.ones (fun w' hv=>dg.upd8 hv (cS (dn _ aR (by decide)) aG)) (by(try simp only[List.length_append,List.length_cons,List.length_nil,aC]);omega) (le (le (le (le (le v.size y.size) t.size) a1.size) a2.size) I.size) fun aS aW dr aY aZ=>bg trivial fun b0=>Rt 14 b0<|Rt 15 b0<|?_
 have b1:=aD.blk (ut (aD.mono (S':=(g :: (ob A++[]))) aP (ac im au)) aZ (av il au)) (aa (Ne.symm hne) (bj (aA (am hm) (le (le (le (le (le (le (le (le (le (le (le b.size j.size) d.size) l.size) o.size) f.size) p.size) q.size) h.size) r.size) s.size) i.size) a) ay)) a0
 refine R0 16 rfl<|bX b1 21 (mG c 0 0 0 0 0 0 0 0 0 0 0 nS nS nS nS me kd C0.byteV x25.byteV x44.byteV (.slice aS ((L++[(Obj.mk C.byteV (((C.bytesC 1).bytesC 1).bytesR ((C.bytesC 1).byteV)))]).length) aW)) fun ds ct a4=>bg trivial fun dt=>re<|bn<|tn<|go<|L0<|Oi (((k:Nat) : Int)+1)<|Pl 1<|nl<|?_
 subst cn
 have b2:=u1 (aD.mono (S':=(ob A++(gm :: []))) aZ (av il au)) a4 im
 have b3:=u1 a1 a2 im
 have b4:=u1 Z b3 im
 exact fF ((k+1),(((C.bytesC 1).bytesC 1).bytesC ((C.bytesC 1).byteV)),(L++[(Obj.mk C.byteV (((C.bytesC 1).bytesC 1).bytesR ((C.bytesC 1).byteV)))]),aS,aW) ⟨(ut v (ut (aD.mono (S':=(g :: (ob A++(gm :: [])))) a3 (ac im au)) b2 (av il (ac im au))) (ac im (av (aV a lr) (ac im au)))),(aj.upd co (ut (aD.mono (S':=(ob A++(gm :: []))) I au) b2 (av il (ac im au))) (bj (aA (aj.lt hC) (le (le (le (le (le (le (le (le (le (le (le b.size j.size) d.size) l.size) o.size) f.size) p.size) q.size) h.size) r.size) s.size) i.size) a) (aa hne ay)) (cS (dn _ (ax a b4 (fun x hx=>(aa (fun e=>(aA (aj.lt hC) (le (le (le (le (le (le (le (le (le (le (le b.size j.size) d.size) l.size) o.size) f.size) p.size) q.size) h.size) r.size) s.size) i.size) a) (e▸hx)) ay)) (dg.upd8 b4 (ak (aj.safe u _ (by decide)) aG))) (by decide)) (ak (aM (aX b3 (Ne.symm hne) a0) (by decide)) aG))),ct,(ax aY a4 (fun x hx=>(aa (fun e=>(aA (am hm) (le (le (le (le (le (le (le (le (le (le (le b.size j.size) d.size) l.size) o.size) f.size) p.size) q.size) h.size) r.size) s.size) i.size) aY) (e▸hx)) ay)) (dg.upd8 a4 (ak (aM b1 (by decide)) aG))),(by(try dsimp only);omega),(by(try dsimp only);rw[← hobj,show x62.byteV.toNat-k=(x62.byteV.toNat-(k+1))+1 from by omega];rfl),(by(try dsimp only);(try simp only[List.length_append,List.length_cons,List.length_nil]);omega)⟩ (by omega)
 refine  Oc<|m3 (bS (aj.old aN t)) fun du J B dv=>bg trivial fun cv=>Rr 9 cv (.int .i64 ((C.bytesC 1).byteV)) (fun _ _=>cg (.int .i64 (IntKind.i64.wrap ((C.bytesC 1).byteV))) (by kernel_rfl) (congrArg (Value.int .i64) (i64_in (by omega))))<|?_
 refine R2 4 10 rfl rfl ?_ ?_
 have a5:=u1 y (uz t B) im
 have a6:=aX a5 (Ne.symm hne) D
 refine  aU a6 21<|bg trivial fun dw=>R0 10 rfl<|Oc<|s3 (cD (n:=(C.bytesC 1).byteV) J) fun cw cx dy cy dz dA cz M=>?_
 have dB:=Nat.le_trans (ah.bytesR_le ((C.bytesC 1).bytesC 1) ((C.bytesC 1).byteV)) (aj.len J)
 refine ab cz fun dC cA cB=>?_
 refine bg trivial fun cC=>Rt 11 cC<|R0 12 rfl<|dD (m:=1) (e:=111) #[.int .u8 C.byteV,.slice cw ((((C.bytesC 1).bytesC 1).bytesR ((C.bytesC 1).byteV)).length) cx] fun dE dF dG cF N=>?_
 have cG:=jC (R:=dg true) (x:=(Obj.mk C.byteV (((C.bytesC 1).bytesC 1).bytesR ((C.bytesC 1).byteV)))) cF rfl ⟨_,rfl,(aT.upd' cy N aG),b8 (by omega)⟩
 refine bg trivial fun dH=>?_
 have b5:=aF M N
 have a7:=u1 a5 b5 im
 have b6:=ax a a7 (fun x hx=>(aa (fun e=>(aA (aj.lt hC) (le (le (le (le (le (le (le (le (le (le (le b.size j.size) d.size) l.size) o.size) f.size) p.size) q.size) h.size) r.size) s.size) i.size) a) (e▸hx)) ay)) (dg.upd8 a7 (ak (aj.safe u _ (by decide)) aG))
 refine R0 13 rfl<|gC (xs:=L) (ys:=([(Obj.mk C.byteV (((C.bytesC 1).bytesC 1).bytesR ((C.bytesC 1).byteV)))])) (.agg #[.int .u8 0,.slice none 0 0]) 2 32 b6 cG (by simp) dg.ones (fun w' hv=>dg.upd8 hv (cS (dn _ b6 (by decide)) aG)) (by(try simp only[List.length_append,List.length_cons,List.length_nil,aC]);omega) (le (le (le (le (le v.size y.size) t.size) B.size) M.size) N.size) fun b7 b9 dI ba bb=>bg trivial fun bc=>Rt 14 bc<|Rt 15 bc<|?_
 have bd:=aD.blk (ut (aD.mono (S':=(g :: (ob A++[]))) b5 (ac im au)) bb (av il au)) (aa (Ne.symm hne) (bj (aA (am hm) (le (le (le (le (le (le (le (le (le (le (le b.size j.size) d.size) l.size) o.size) f.size) p.size) q.size) h.size) r.size) s.size) i.size) a) ay)) a6
 refine R0 16 rfl<|bX bd 21 (mG c 0 0 0 0 0 0 0 0 0 0 0 nS nS nS nS me kd C0.byteV x25.byteV x44.byteV (.slice b7 ((L++[(Obj.mk C.byteV (((C.bytesC 1).bytesC 1).bytesR ((C.bytesC 1).byteV)))]).length) b9)) fun dJ cH a8=>bg trivial fun dK=>re<|bn<|tn<|go<|L0<|Oi (((k:Nat) : Int)+1)<|Pl 1<|nl<|?_
 subst cA
 have bh:=u1 (aD.mono (S':=(ob A++(gm :: []))) bb (av il au)) a8 im
 have bm:=u1 a5 M im
 exact fF ((k+1),(((C.bytesC 1).bytesC 1).bytesC ((C.bytesC 1).byteV)),(L++[(Obj.mk C.byteV (((C.bytesC 1).bytesC 1).bytesR ((C.bytesC 1).byteV)))]),b7,b9) ⟨(ut v (ut (aD.mono (S':=(g :: (ob A++(gm :: [])))) a7 (ac im au)) bh (av il (ac im au))) (ac im (av (aV a lr) (ac im au)))),(aj.upd cB (ut (aD.mono (S':=(ob A++(gm :: []))) N au) bh (av il (ac im au))) (bj (aA (aj.lt hC) (le (le (le (le (le (le (le (le (le (le (le b.size j.size) d.size) l.size) o.size) f.size) p.size) q.size) h.size) r.size) s.size) i.size) a) (aa hne ay)) (cS (dn _ (ax a bm (fun x hx=>(aa (fun e=>(aA (aj.lt hC) (le (le (le (le (le (le (le (le (le (le (le b.size j.size) d.size) l.size) o.size) f.size) p.size) q.size) h.size) r.size) s.size) i.size) a) (e▸hx)) ay)) (dg.upd8 bm (ak (aj.safe u _ (by decide)) aG))) (by decide)) (ak (aM (aX M (Ne.symm hne) a6) (by decide)) aG))),cH,(ax ba a8 (fun x hx=>(aa (fun e=>(aA (am hm) (le (le (le (le (le (le (le (le (le (le (le b.size j.size) d.size) l.size) o.size) f.size) p.size) q.size) h.size) r.size) s.size) i.size) ba) (e▸hx)) ay)) (dg.upd8 a8 (ak (aM bd (by decide)) aG))),(by(try dsimp only);omega),(by(try dsimp only);rw[← hobj,show x62.byteV.toNat-k=(x62.byteV.toNat-(k+1))+1 from by omega];rfl),(by(try dsimp only);(try simp only[List.length_append,List.length_cons,List.length_nil]);omega)⟩ (by omega)
 refine  Oc<|s3 (cD (n:=(C.bytesC 1).byteV) J) fun bo bp dL bq dM dN cI H=>?_
 have dO:=Nat.le_trans (ah.bytesR_le ((C.bytesC 1).bytesC 1) ((C.bytesC 1).byteV)) (aj.len J)
 refine ab cI fun dP br bs=>?_
 refine bg trivial fun cJ=>Rt 11 cJ<|?_
 refine R2 4 12 rfl rfl ?_ ?_
 have O:=u1 y (uz t (u1 B H im)) im
 have a9:=aX O (Ne.symm hne) D
 refine  aU a9 21<|bg trivial fun dQ=>R0 12 rfl<|dD (m:=1) (e:=111) #[.int .u8 C.byteV,.slice bo ((((C.bytesC 1).bytesC 1).bytesR ((C.bytesC 1).byteV)).length) bp] fun dR dS dT cK P=>?_
 have cL:=jC (R:=dg true) (x:=(Obj.mk C.byteV (((C.bytesC 1).bytesC 1).bytesR ((C.bytesC 1).byteV)))) cK rfl ⟨_,rfl,(aT.upd' bq P aG),b8 (by omega)⟩
 refine bg trivial fun dU=>?_
 have ad:=aF O P
 have bt:=ax a ad (fun x hx=>(aa (fun e=>(aA (aj.lt hC) (le (le (le (le (le (le (le (le (le (le (le b.size j.size) d.size) l.size) o.size) f.size) p.size) q.size) h.size) r.size) s.size) i.size) a) (e▸hx)) ay)) (dg.upd8 ad (ak (aj.safe u _ (by decide)) aG))
 refine R0 13 rfl<|gC (xs:=L) (ys:=([(Obj.mk C.byteV (((C.bytesC 1).bytesC 1).bytesR ((C.bytesC 1).byteV)))])) (.agg #[.int .u8 0,.slice none 0 0]) 2 32 bt cL (by simp) dg.ones (fun w' hv=>dg.upd8 hv (cS (dn _ bt (by decide)) aG)) (by(try simp only[List.length_append,List.length_cons,List.length_nil,aC]);omega) (le (le (le (le (le v.size y.size) t.size) B.size) H.size) P.size) fun bu bv dV bw bz=>bg trivial fun bA=>Rt 14 bA<|Rt 15 bA<|?_
 have bB:=ut (aD.mono (S':=(ob A++[])) P au) bz (av il au)
 have bC:=aD.blk bB (bj (aA (am hm) (le (le (le (le (le (le (le (le (le (le (le b.size j.size) d.size) l.size) o.size) f.size) p.size) q.size) h.size) r.size) s.size) i.size) a) ay) a9
 refine R0 16 rfl<|bX bC 21 (mG c 0 0 0 0 0 0 0 0 0 0 0 nS nS nS nS me kd C0.byteV x25.byteV x44.byteV (.slice bu ((L++[(Obj.mk C.byteV (((C.bytesC 1).bytesC 1).bytesR ((C.bytesC 1).byteV)))]).length) bv)) fun dW cM Q=>bg trivial fun dX=>re<|bn<|tn<|go<|L0<|Oi (((k:Nat) : Int)+1)<|Pl 1<|nl<|?_
 subst br
 exact fF ((k+1),(((C.bytesC 1).bytesC 1).bytesC ((C.bytesC 1).byteV)),(L++[(Obj.mk C.byteV (((C.bytesC 1).bytesC 1).bytesR ((C.bytesC 1).byteV)))]),bu,bv) ⟨(ut v (ut (aD.mono (S':=(g :: (ob A++(gm :: [])))) ad (ac im au)) (u1 (aD.mono (S':=(ob A++(gm :: []))) bz (av il au)) Q im) (av il (ac im au))) (ac im (av (aV a lr) (ac im au)))),(aj.upd bs (u1 (aD.mono (S':=(ob A++(gm :: []))) bB (av il au)) Q im) (bj (aA (aj.lt hC) (le (le (le (le (le (le (le (le (le (le (le b.size j.size) d.size) l.size) o.size) f.size) p.size) q.size) h.size) r.size) s.size) i.size) a) (aa hne ay)) (cS (dn _ (ax a O (fun x hx=>(aa (fun e=>(aA (aj.lt hC) (le (le (le (le (le (le (le (le (le (le (le b.size j.size) d.size) l.size) o.size) f.size) p.size) q.size) h.size) r.size) s.size) i.size) a) (e▸hx)) ay)) (dg.upd8 O (ak (aj.safe u _ (by decide)) aG))) (by decide)) (ak (aM a9 (by decide)) aG))),cM,(ax bw Q (fun x hx=>(aa (fun e=>(aA (am hm) (le (le (le (le (le (le (le (le (le (le (le b.size j.size) d.size) l.size) o.size) f.size) p.size) q.size) h.size) r.size) s.size) i.size) bw) (e▸hx)) ay)) (dg.upd8 Q (ak (aM bC (by decide)) aG))),(by(try dsimp only);omega),(by(try dsimp only);rw[← hobj,show x62.byteV.toNat-k=(x62.byteV.toNat-(k+1))+1 from by omega];rfl),(by(try dsimp only);(try simp only[List.length_append,List.length_cons,List.length_nil]);omega)⟩ (by omega)
 refine  dD (m:=1) (e:=111) #[.int .u8 C.byteV,.slice bo ((((C.bytesC 1).bytesC 1).bytesR ((C.bytesC 1).byteV)).length) bp] fun dY dZ e0 cN S=>?_
 have cO:=jC (R:=dg true) (x:=(Obj.mk C.byteV (((C.bytesC 1).bytesC 1).bytesR ((C.bytesC 1).byteV)))) cN rfl ⟨_,rfl,(aT.upd' bq S aG),b8 (by omega)⟩
 refine bg trivial fun e1=>?_
 have T:=u1 y (uz t (u1 B (aF H S) im)) im
 have bD:=aX T (Ne.symm hne) D
 refine R0 4 rfl<|aU bD 21<|bg trivial fun e2=>?_
 have bE:=ax a T (fun x hx=>(aa (fun e=>(aA (aj.lt hC) (le (le (le (le (le (le (le (le (le (le (le b.size j.size) d.size) l.size) o.size) f.size) p.size) q.size) h.size) r.size) s.size) i.size) a) (e▸hx)) ay)) (dg.upd8 T (ak (aj.safe u _ (by decide)) aG))
 refine R0 13 rfl<|gC (xs:=L) (ys:=([(Obj.mk C.byteV (((C.bytesC 1).bytesC 1).bytesR ((C.bytesC 1).byteV)))])) (.agg #[.int .u8 0,.slice none 0 0]) 2 32 bE cO (by simp) dg.ones (fun w' hv=>dg.upd8 hv (cS (dn _ bE (by decide)) aG)) (by(try simp only[List.length_append,List.length_cons,List.length_nil,aC]);omega) (le (le (le (le (le v.size y.size) t.size) B.size) H.size) S.size) fun bF bG e3 bH bI=>bg trivial fun bJ=>Rt 14 bJ<|Rt 15 bJ<|?_
 have bK:=aD.blk bI (bj (aA (am hm) (le (le (le (le (le (le (le (le (le (le (le b.size j.size) d.size) l.size) o.size) f.size) p.size) q.size) h.size) r.size) s.size) i.size) a) ay) bD
 refine R0 16 rfl<|bX bK 21 (mG c 0 0 0 0 0 0 0 0 0 0 0 nS nS nS nS me kd C0.byteV x25.byteV x44.byteV (.slice bF ((L++[(Obj.mk C.byteV (((C.bytesC 1).bytesC 1).bytesR ((C.bytesC 1).byteV)))]).length) bG)) fun e4 cP ae=>bg trivial fun e5=>re<|bn<|tn<|go<|L0<|Oi (((k:Nat) : Int)+1)<|Pl 1<|nl<|?_
 subst br
 have bL:=u1 (aD.mono (S':=(ob A++(gm :: []))) bI (av il au)) ae im
 have af:=u1 y (uz t (u1 B H im)) im
 exact fF ((k+1),(((C.bytesC 1).bytesC 1).bytesC ((C.bytesC 1).byteV)),(L++[(Obj.mk C.byteV (((C.bytesC 1).bytesC 1).bytesR ((C.bytesC 1).byteV)))]),bF,bG) ⟨(ut v (ut (aD.mono (S':=(g :: (ob A++(gm :: [])))) T (ac im au)) bL (av il (ac im au))) (ac im (av (aV a lr) (ac im au)))),(aj.upd bs (ut (aD.mono (S':=(ob A++(gm :: []))) S au) bL (av il (ac im au))) (bj (aA (aj.lt hC) (le (le (le (le (le (le (le (le (le (le (le b.size j.size) d.size) l.size) o.size) f.size) p.size) q.size) h.size) r.size) s.size) i.size) a) (aa hne ay)) (cS (dn _ (ax a af (fun x hx=>(aa (fun e=>(aA (aj.lt hC) (le (le (le (le (le (le (le (le (le (le (le b.size j.size) d.size) l.size) o.size) f.size) p.size) q.size) h.size) r.size) s.size) i.size) a) (e▸hx)) ay)) (dg.upd8 af (ak (aj.safe u _ (by decide)) aG))) (by decide)) (ak (aM (aX af (Ne.symm hne) D) (by decide)) aG))),cP,(ax bH ae (fun x hx=>(aa (fun e=>(aA (am hm) (le (le (le (le (le (le (le (le (le (le (le b.size j.size) d.size) l.size) o.size) f.size) p.size) q.size) h.size) r.size) s.size) i.size) bH) (e▸hx)) ay)) (dg.upd8 ae (ak (aM bK (by decide)) aG))),(by(try dsimp only);omega),(by(try dsimp only);rw[← hobj,show x62.byteV.toNat-k=(x62.byteV.toNat-(k+1))+1 from by omega];rfl),(by(try dsimp only);(try simp only[List.length_append,List.length_cons,List.length_nil]);omega)⟩ (by omega)
 have cf:=of_decide_eq_false Y
 refine xt<|tx<|tx<|bx<|rm (.tuple #[])<|?_
 subst c5 c0 bU bO
 have hf:eB kd C0=(C,L):=by
   have h1:eA ((((((C0.bytesC 1).need (ch C0.byteV) 6).bytesC 1).need ((((C0.bytesC 1).need (ch C0.byteV) 6).byteV==0)||(((C0.bytesC 1).need (ch C0.byteV) 6).byteV==255)) 6).bytesC 1).need ((((C0.bytesC 1).need (ch C0.byteV) 6).byteV != 0)||(((((C0.bytesC 1).need (ch C0.byteV) 6).bytesC 1).need ((((C0.bytesC 1).need (ch C0.byteV) 6).byteV==0)||(((C0.bytesC 1).need (ch C0.byteV) 6).byteV==255)) 6).byteV==0)) 6).byteV.toNat ((((((((C0.bytesC 1).need (ch C0.byteV) 6).bytesC 1).need ((((C0.bytesC 1).need (ch C0.byteV) 6).byteV==0)||(((C0.bytesC 1).need (ch C0.byteV) 6).byteV==255)) 6).bytesC 1).need ((((C0.bytesC 1).need (ch C0.byteV) 6).byteV != 0)||(((((C0.bytesC 1).need (ch C0.byteV) 6).bytesC 1).need ((((C0.bytesC 1).need (ch C0.byteV) 6).byteV==0)||(((C0.bytesC 1).need (ch C0.byteV) 6).byteV==255)) 6).byteV==0)) 6).bytesC 1).need ((kd != 4)||(((((((C0.bytesC 1).need (ch C0.byteV) 6).bytesC 1).need ((((C0.bytesC 1).need (ch C0.byteV) 6).byteV==0)||(((C0.bytesC 1).need (ch C0.byteV) 6).byteV==255)) 6).bytesC 1).need ((((C0.bytesC 1).need (ch C0.byteV) 6).byteV != 0)||(((((C0.bytesC 1).need (ch C0.byteV) 6).bytesC 1).need ((((C0.bytesC 1).need (ch C0.byteV) 6).byteV==0)||(((C0.bytesC 1).need (ch C0.byteV) 6).byteV==255)) 6).byteV==0)) 6).byteV==1)) 5) []=(C,L):=by
     rw[← hobj,show((((((C0.bytesC 1).need (ch C0.byteV) 6).bytesC 1).need ((((C0.bytesC 1).need (ch C0.byteV) 6).byteV==0)||(((C0.bytesC 1).need (ch C0.byteV) 6).byteV==255)) 6).bytesC 1).need ((((C0.bytesC 1).need (ch C0.byteV) 6).byteV != 0)||(((((C0.bytesC 1).need (ch C0.byteV) 6).bytesC 1).need ((((C0.bytesC 1).need (ch C0.byteV) 6).byteV==0)||(((C0.bytesC 1).need (ch C0.byteV) 6).byteV==255)) 6).byteV==0)) 6).byteV.toNat-k=0 from by omega]
     rfl
   exact h1
 rw[hf]
 exact⟨rfl,u,⟨_,⟨D,rfl⟩,⟨_,_,_,_,_,rfl,aK.nil ..,aK.nil ..,aK.nil ..,aK.nil ..,(a).rd,⟨(b8 (x:=c) (by omega)),(b8 (x:=0) (by omega)),(aB (x:=0) (by omega)),(aB (x:=0) (by omega)),(aB (x:=0) (by omega)),(aB (x:=0) (by omega)),(aB (x:=0) (by omega)),(aB (x:=0) (by omega)),(aB (x:=0) (by omega)),(aB (x:=0) (by omega)),(aB (x:=0) (by omega)),(aB (x:=0) (by omega)),(b8 (x:=me) (by omega)),(b8 (x:=kd) (by omega)),(b8 (x:=C0.byteV) (by omega)),(b8 (x:=((C0.bytesC 1).need (ch C0.byteV) 6).byteV) (by omega)),(b8 (x:=((((C0.bytesC 1).need (ch C0.byteV) 6).bytesC 1).need ((((C0.bytesC 1).need (ch C0.byteV) 6).byteV==0)||(((C0.bytesC 1).need (ch C0.byteV) 6).byteV==255)) 6).byteV) (by omega))⟩⟩⟩,(ui b (ui an (ui ao (ui f (ui az (ui h (ui aI (ui i v))))))))⟩
open Go.RowKit
def dB (C:ah) : ah:=(C.bytesC 1).need (C.byteV==13 || C.byteV==14) 8
def el (C:ah) : ah:=(dB C).need (decide (((dB C).l.length:Int)≤251)) 5
def fP (C:ah) : ah:=((dB C).bytesC 1).need (decide (1≤(dB C).byteV)&&decide ((dB C).byteV≤4)) 6
def bG (dir c:Int)(C:ah) : Option (ah × aQ) :=
  if c != 43 then none
  else if C.byteV==13 then some ((el C).bytesC ((el C).l.length:Int),{ aQ.zero with code:=c,mei:=C.byteV,data:=(el C).bytesR ((el C).l.length:Int) })
  else if dir==1 then some ((eB (dB C).byteV (fP C)).1,{ aQ.zero with code:=c,mei:=C.byteV,kind:=(dB C).byteV,level:=(fP C).byteV,more:=(ls (fP C)).byteV,next:=(l9 (fP C)).byteV,objects:=(eB (dB C).byteV (fP C)).2 })
  else some ((fP C).bytesC 1,{ aQ.zero with code:=c,mei:=C.byteV,kind:=(dB C).byteV,next:=(fP C).byteV })
theorem nP{m:Md}{A:Option Addr}{cp:Nat}{b:List Int}{w:World}{c:Int}(hcode:B8 c)(hsl:aT m w (.slice A b.length cp) b)(hb:b.length≤1048576) :
    Calls Tryz.prog 146 #[.int .i64 0,.int .u8 c,.slice A b.length cp] w (dP (ae bG 0 c b) w):=by
 obtain⟨hcode1,hcode2⟩:=hcode
 have hln:(b.length:Int)≤1048576:=by omega
 refine en 81 Tryz.func146 rfl<|sg<|L0<|bE mZ fun O bd q i j=>Pl 1<|nt<|sq<|bk<|sg<|Pl 7<|nt<|?_
 refine c0<|sg<|Pl 3<|nt<|cb ((c != 43)) (fun f=>?_) (fun f=>?_)
 have aw:=aq f
 refine sg<|Pl 1<|L0<|aW i mZ fun be ax az=>Pl 1<|nt<|rt<|br<|tr<|bz ax (.int .i64 4)<|?_
 have hs:ae bG 0 c b=(aQ.zero,4):=by
   unfold ae bG el fP dB
   (try simp only[f,bs,if_true,if_false,decide_true,decide_false,eq_self,true_or,or_true,or_false,false_or,if_true,if_false,cl,cj,cm,ck,reduceIte])
   all_goals rfl
 rw[hs]
 exact cJ (ud j az q)
 have aw:=ai f
 refine sk<|bn<|tn<|sg<|Pl 1<|?_
 refine L0<|Oc<|e3 (dJ (aT.old hsl j) (by omega)) fun P bg a Q k=>Pl 1<|ng<|Pl 2<|L0<|Oc<|m3 (bS Q) fun bh aA g bj=>Pl 1<|L0<|bE mZ fun R bm h aC aE=>L0<|aW aC (mG c 0 0 0 0 0 0 0 0 0 0 0 nS nS nS nS ((ah.mk b false 0).byteV) 0 0 0 0 nS) fun bo E aI=>nt<|sq<|?_
 refine go<|Pl 2<|L0<|aU E 16<|Pl 2<|cu 4 [33] 37 (((((ah.mk b false 0).byteV)==13)||(((ah.mk b false 0).byteV)==14))) (fun K S=>?_) ?_
 refine bl 33 ((((ah.mk b false 0).byteV)==13)) (fun r=>?_) (fun r=>?_)
 have aJ:=al r
 exact Pl 4<|ce S true (by rw[r];rfl)
 have aJ:=ap r
 exact Pl 1<|L1<|aU E 16<|Pl 2<|ce S (((ah.mk b false 0).byteV)==14) (by rw[r];rfl)
 have T:=ud aE aI h
 refine L0<|Oc<|m2 (bf (((((ah.mk b false 0).byteV)==13)||(((ah.mk b false 0).byteV)==14))) 8 (aj.old aA T)) fun bp aL U=>?_
 refine ab aL fun x45 v y=>?_
 refine nt<|sq<|sg<|Pl 1<|?_
 have d:=nb (aj.lt Q) g.size h
 have F:=aX U (Ne.symm d) E
 refine L0<|aU F 16<|Pl 1<|nt<|?_
 have o:=ud k (u1 g (uz T U) im) a
 have V:=aF j o
 refine cb ((((ah.mk b false 0).byteV)==13)) (fun p=>?_) (fun p=>?_)
 have aN:=al p
 refine sg<|Pl 2<|L0<|Oc<|mq (dV y)<|?_
 have bq:=aj.len y
 refine Pl 1<|L0<|Oc<|m2 (bf ((decide (((x45.l.length:Nat) : Int)≤251))) 5 y) fun bt aO aP=>?_
 refine ab aO fun x59 W z=>?_
 refine nt<|go<|Pl 2<|L0<|Oc<|mq (dV z)<|?_
 have bu:=aj.len z
 refine L0<|Oc<|s3 (cD (n:=((x59.l.length:Nat) : Int)) z) fun X Y bv Z bw bx aR aS=>?_
 have bB:=Nat.le_trans (ah.bytesR_le x59 ((x59.l.length:Nat) : Int)) (aj.len z)
 refine ab aR fun x69 a0 G=>?_
 refine Pl 1<|?_
 have B:=u1 aP aS im
 have C:=aX B (Ne.symm d) F
 refine L0<|bX C 14 (mG c 0 0 0 0 0 0 0 0 0 0 0 nS nS (.slice X ((x59.bytesR ((x59.l.length:Nat) : Int)).length) Y) nS ((ah.mk b false 0).byteV) 0 0 0 0 nS) fun bC aV a1=>ng<|Pl 1<|?_
 refine L0<|Oc<|m2 (cy (aj.upd G a1 (aa d ay) (ak (aM C (by decide)) aG))) fun bH a2 a3=>nt<|sq<|sg<|Pl 1<|L0<|Oc<|mq (bD a2)<|?_
 have bI:=aj.len a2
 refine Pl 1<|ng<|Pl 2<|nt<|?_
 have H:=us a1 a3
 have I:=ui B H
 have a4:=ut V I (ac (ni (le (le j.size k.size) g.size) h) (ac (ni j.size a) au))
 refine cb ((x69.endC.e != 0)) (fun s=>?_) (fun s=>?_)
 have J:=aq s
 refine sg<|Pl 2<|?_
 refine L0<|aW (ub (ut o I (ac (ni (le k.size g.size) h) (ac (nr a) au))) i) mZ fun bJ aY a5=>Pl 1<|nt<|rt<|tr<|bz aY (.int .i64 x69.endC.e)<|?_
 subst a0 W v
 have bK:=aT.upd' Z (u1 (aD.mono (S':=[R,P,O]) H (ac im (ac im au))) a5 im) (ak (aM C (by decide)) (ak (aj.safe G _ (by decide)) (ak (aM (ub (ud o B a) i) (by decide)) aG)))
 have hs:ae bG 0 c b=aH (aQ.mk c 0 0 0 0 0 0 0 0 0 0 0 [] [] (((((ah.mk b false 0).bytesC 1).need ((((ah.mk b false 0).byteV)==13)||(((ah.mk b false 0).byteV)==14)) 8).need (decide ((((((ah.mk b false 0).bytesC 1).need ((((ah.mk b false 0).byteV)==13)||(((ah.mk b false 0).byteV)==14)) 8).l.length:Nat) : Int)≤251)) 5).bytesR ((((((ah.mk b false 0).bytesC 1).need ((((ah.mk b false 0).byteV)==13)||(((ah.mk b false 0).byteV)==14)) 8).need (decide ((((((ah.mk b false 0).bytesC 1).need ((((ah.mk b false 0).byteV)==13)||(((ah.mk b false 0).byteV)==14)) 8).l.length:Nat) : Int)≤251)) 5).l.length:Nat) : Int)) [] ((ah.mk b false 0).byteV) 0 0 0 0 []) (((((ah.mk b false 0).bytesC 1).need ((((ah.mk b false 0).byteV)==13)||(((ah.mk b false 0).byteV)==14)) 8).need (decide ((((((ah.mk b false 0).bytesC 1).need ((((ah.mk b false 0).byteV)==13)||(((ah.mk b false 0).byteV)==14)) 8).l.length:Nat) : Int)≤251)) 5).bytesC ((((((ah.mk b false 0).bytesC 1).need ((((ah.mk b false 0).byteV)==13)||(((ah.mk b false 0).byteV)==14)) 8).need (decide ((((((ah.mk b false 0).bytesC 1).need ((((ah.mk b false 0).byteV)==13)||(((ah.mk b false 0).byteV)==14)) 8).l.length:Nat) : Int)≤251)) 5).l.length:Nat) : Int)):=by
   unfold ae bG el fP dB
   (try simp only[f,p,s,bs,if_true,if_false,decide_true,decide_false,eq_self,true_or,or_true,or_false,false_or,if_true,if_false,cl,cj,cm,ck,reduceIte])
   all_goals rfl
 rw[hs]
 exact bA J (ud a4 a5 q)
 have J:=ai s
 refine bi<|sg<|?_
 refine L0<|ci (aX a3 (Ne.symm d) aV)<|?_
 refine L0<|aW (ub (ut o I (ac (ni (le k.size g.size) h) (ac (nr a) au))) i) (mG c 0 0 0 0 0 0 0 0 0 0 0 nS nS (.slice X ((x59.bytesR ((x59.l.length:Nat) : Int)).length) Y) nS ((ah.mk b false 0).byteV) 0 0 0 0 nS) fun bL aZ a6=>Pl 1<|nt<|rt<|bz aZ (.int .i64 0)<|?_
 subst a0 W v
 have hs:ae bG 0 c b=aH (aQ.mk c 0 0 0 0 0 0 0 0 0 0 0 [] [] (((((ah.mk b false 0).bytesC 1).need ((((ah.mk b false 0).byteV)==13)||(((ah.mk b false 0).byteV)==14)) 8).need (decide ((((((ah.mk b false 0).bytesC 1).need ((((ah.mk b false 0).byteV)==13)||(((ah.mk b false 0).byteV)==14)) 8).l.length:Nat) : Int)≤251)) 5).bytesR ((((((ah.mk b false 0).bytesC 1).need ((((ah.mk b false 0).byteV)==13)||(((ah.mk b false 0).byteV)==14)) 8).need (decide ((((((ah.mk b false 0).bytesC 1).need ((((ah.mk b false 0).byteV)==13)||(((ah.mk b false 0).byteV)==14)) 8).l.length:Nat) : Int)≤251)) 5).l.length:Nat) : Int)) [] ((ah.mk b false 0).byteV) 0 0 0 0 []) (((((ah.mk b false 0).bytesC 1).need ((((ah.mk b false 0).byteV)==13)||(((ah.mk b false 0).byteV)==14)) 8).need (decide ((((((ah.mk b false 0).bytesC 1).need ((((ah.mk b false 0).byteV)==13)||(((ah.mk b false 0).byteV)==14)) 8).l.length:Nat) : Int)≤251)) 5).bytesC ((((((ah.mk b false 0).bytesC 1).need ((((ah.mk b false 0).byteV)==13)||(((ah.mk b false 0).byteV)==14)) 8).need (decide ((((((ah.mk b false 0).bytesC 1).need ((((ah.mk b false 0).byteV)==13)||(((ah.mk b false 0).byteV)==14)) 8).l.length:Nat) : Int)≤251)) 5).l.length:Nat) : Int)):=by
   unfold ae bG el fP dB
   (try simp only[f,p,s,bs,if_true,if_false,decide_true,decide_false,eq_self,true_or,or_true,or_false,false_or,if_true,if_false,cl,cj,cm,ck,reduceIte])
   all_goals rfl
 rw[hs]
 exact bF J ⟨_,_,_,_,_,rfl,aK.nil ..,aK.nil ..,(aT.upd' Z (u1 (aD.mono (S':=[R,P,O]) H (ac im (ac im au))) a6 im) (ak (aM C (by decide)) (ak (aj.safe G _ (by decide)) (ak (aM (ub (ud o B a) i) (by decide)) aG)))),aK.nil ..,aK.nil ..,⟨(b8 (x:=c) (by omega)),(b8 (x:=0) (by omega)),(aB (x:=0) (by omega)),(aB (x:=0) (by omega)),(aB (x:=0) (by omega)),(aB (x:=0) (by omega)),(aB (x:=0) (by omega)),(aB (x:=0) (by omega)),(aB (x:=0) (by omega)),(aB (x:=0) (by omega)),(aB (x:=0) (by omega)),(aB (x:=0) (by omega)),(b8 (x:=(ah.mk b false 0).byteV) (by omega)),(b8 (x:=0) (by omega)),(b8 (x:=0) (by omega)),(b8 (x:=0) (by omega)),(b8 (x:=0) (by omega))⟩⟩ (ud a4 a6 q)
 have aN:=ap p
 refine sg<|Pl 1<|L0<|Oc<|m3 (bS y) fun bM b0 a7 bN=>Pl 1<|?_
 have a8:=aX a7 (Ne.symm d) F
 refine L0<|bX a8 17 (mG c 0 0 0 0 0 0 0 0 0 0 0 nS nS nS nS ((ah.mk b false 0).byteV) x45.byteV 0 0 0 nS) fun bO L a9=>ng<|Pl 2<|L0<|aU L 17<|Pl 2<|cu 4 [59] 63 (((decide (1≤x45.byteV))&&(decide (x45.byteV≤4)))) (fun K ad=>?_) ?_
 refine bl 59 ((decide (1≤x45.byteV))) (fun t=>?_) (fun t=>?_)
 have b1:=of_decide_eq_true t
 exact Pl 1<|L1<|aU L 17<|Pl 2<|ce ad (decide (x45.byteV≤4)) (by rw[t];rfl)
 have b1:=of_decide_eq_false t
 exact Pl 4<|ce ad false (by rw[t];rfl)
 refine L0<|Oc<|m2 (bf (((decide (1≤x45.byteV))&&(decide (x45.byteV≤4)))) 6 (aj.upd b0 a9 (aa d ay) (ak (aM a8 (by decide)) aG))) fun bP b2 b3=>?_
 refine ab b2 fun D af b4=>?_
 refine ng<|Pl 2<|nt<|c0<|go<|Pl 1<|L0<|Oc<|m3 (bS b4) fun bQ b5 b6 bR=>Pl 1<|?_
 have ag:=u1 b3 b6 im
 have am:=aX ag (Ne.symm d) L
 refine L0<|bX am 20 (mG c 0 0 0 0 0 0 0 0 0 0 0 nS nS nS nS ((ah.mk b false 0).byteV) x45.byteV 0 0 D.byteV nS) fun bT b7 an=>ng<|Pl 1<|?_
 refine L0<|Oc<|m2 (cy (aj.upd b5 an (aa d ay) (ak (aM am (by decide)) aG))) fun bU ao ar=>nt<|sq<|sg<|Pl 1<|L0<|Oc<|mq (bD ao)<|?_
 have bV:=aj.len ao
 refine Pl 1<|ng<|Pl 2<|nt<|?_
 have M:=ui a7 (ui a9 (ui ag (us an ar)))
 have av:=ut V M (ac (ni (le (le j.size k.size) g.size) h) (ac (ni j.size a) au))
 refine cb (((((D.bytesC 1).endC).e)!=0)) (fun u=>?_) (fun u=>?_)
 have N:=aq u
 refine sg<|Pl 2<|?_
 refine L0<|aW (ub (ut o M (ac (ni (le k.size g.size) h) (ac (nr a) au))) i) mZ fun bW b9 ba=>Pl 1<|nt<|rt<|tr<|bz b9 (.int .i64 (((D.bytesC 1).endC).e))<|?_
 subst af v
 have hs:ae bG 0 c b=aH (aQ.mk c 0 0 0 0 0 0 0 0 0 0 0 [] [] [] [] ((ah.mk b false 0).byteV) ((((ah.mk b false 0).bytesC 1).need ((((ah.mk b false 0).byteV)==13)||(((ah.mk b false 0).byteV)==14)) 8).byteV) 0 0 ((((((ah.mk b false 0).bytesC 1).need ((((ah.mk b false 0).byteV)==13)||(((ah.mk b false 0).byteV)==14)) 8).bytesC 1).need ((decide (1≤(((ah.mk b false 0).bytesC 1).need ((((ah.mk b false 0).byteV)==13)||(((ah.mk b false 0).byteV)==14)) 8).byteV))&&(decide ((((ah.mk b false 0).bytesC 1).need ((((ah.mk b false 0).byteV)==13)||(((ah.mk b false 0).byteV)==14)) 8).byteV≤4))) 6).byteV) []) ((((((ah.mk b false 0).bytesC 1).need ((((ah.mk b false 0).byteV)==13)||(((ah.mk b false 0).byteV)==14)) 8).bytesC 1).need ((decide (1≤(((ah.mk b false 0).bytesC 1).need ((((ah.mk b false 0).byteV)==13)||(((ah.mk b false 0).byteV)==14)) 8).byteV))&&(decide ((((ah.mk b false 0).bytesC 1).need ((((ah.mk b false 0).byteV)==13)||(((ah.mk b false 0).byteV)==14)) 8).byteV≤4))) 6).bytesC 1):=by
   unfold ae bG el fP dB
   (try simp only[f,p,u,bs,if_true,if_false,decide_true,decide_false,eq_self,true_or,or_true,or_false,false_or,if_true,if_false,cl,cj,cm,ck,reduceIte])
   all_goals rfl
 rw[hs]
 exact bA N (ud av ba q)
 have N:=ai u
 refine bi<|sg<|?_
 refine L0<|ci (aX ar (Ne.symm d) b7)<|?_
 refine L0<|aW (ub (ut o M (ac (ni (le k.size g.size) h) (ac (nr a) au))) i) (mG c 0 0 0 0 0 0 0 0 0 0 0 nS nS nS nS ((ah.mk b false 0).byteV) x45.byteV 0 0 D.byteV nS) fun bY bb bc=>Pl 1<|nt<|rt<|bz bb (.int .i64 0)<|?_
 subst af v
 have hs:ae bG 0 c b=aH (aQ.mk c 0 0 0 0 0 0 0 0 0 0 0 [] [] [] [] ((ah.mk b false 0).byteV) ((((ah.mk b false 0).bytesC 1).need ((((ah.mk b false 0).byteV)==13)||(((ah.mk b false 0).byteV)==14)) 8).byteV) 0 0 ((((((ah.mk b false 0).bytesC 1).need ((((ah.mk b false 0).byteV)==13)||(((ah.mk b false 0).byteV)==14)) 8).bytesC 1).need ((decide (1≤(((ah.mk b false 0).bytesC 1).need ((((ah.mk b false 0).byteV)==13)||(((ah.mk b false 0).byteV)==14)) 8).byteV))&&(decide ((((ah.mk b false 0).bytesC 1).need ((((ah.mk b false 0).byteV)==13)||(((ah.mk b false 0).byteV)==14)) 8).byteV≤4))) 6).byteV) []) ((((((ah.mk b false 0).bytesC 1).need ((((ah.mk b false 0).byteV)==13)||(((ah.mk b false 0).byteV)==14)) 8).bytesC 1).need ((decide (1≤(((ah.mk b false 0).bytesC 1).need ((((ah.mk b false 0).byteV)==13)||(((ah.mk b false 0).byteV)==14)) 8).byteV))&&(decide ((((ah.mk b false 0).bytesC 1).need ((((ah.mk b false 0).byteV)==13)||(((ah.mk b false 0).byteV)==14)) 8).byteV≤4))) 6).bytesC 1):=by
   unfold ae bG el fP dB
   (try simp only[f,p,u,bs,if_true,if_false,decide_true,decide_false,eq_self,true_or,or_true,or_false,false_or,if_true,if_false,cl,cj,cm,ck,reduceIte])
   all_goals rfl
 rw[hs]
 exact bF N ⟨_,_,_,_,_,rfl,aK.nil ..,aK.nil ..,aK.nil ..,aK.nil ..,aK.nil ..,⟨(b8 (x:=c) (by omega)),(b8 (x:=0) (by omega)),(aB (x:=0) (by omega)),(aB (x:=0) (by omega)),(aB (x:=0) (by omega)),(aB (x:=0) (by omega)),(aB (x:=0) (by omega)),(aB (x:=0) (by omega)),(aB (x:=0) (by omega)),(aB (x:=0) (by omega)),(aB (x:=0) (by omega)),(aB (x:=0) (by omega)),(b8 (x:=(ah.mk b false 0).byteV) (by omega)),(b8 (x:=(((ah.mk b false 0).bytesC 1).need ((((ah.mk b false 0).byteV)==13)||(((ah.mk b false 0).byteV)==14)) 8).byteV) (by omega)),(b8 (x:=0) (by omega)),(b8 (x:=0) (by omega)),(b8 (x:=(((((ah.mk b false 0).bytesC 1).need ((((ah.mk b false 0).byteV)==13)||(((ah.mk b false 0).byteV)==14)) 8).bytesC 1).need ((decide (1≤(((ah.mk b false 0).bytesC 1).need ((((ah.mk b false 0).byteV)==13)||(((ah.mk b false 0).byteV)==14)) 8).byteV))&&(decide ((((ah.mk b false 0).bytesC 1).need ((((ah.mk b false 0).byteV)==13)||(((ah.mk b false 0).byteV)==14)) 8).byteV≤4))) 6).byteV) (by omega))⟩⟩ (ud av bc q)
theorem oh{m:Md}{A:Option Addr}{cp:Nat}{b:List Int}{w:World}{c:Int}(hcode:B8 c)(hsl:aT m w (.slice A b.length cp) b)(hb:b.length≤1048576) :
    Calls Tryz.prog 146 #[.int .i64 1,.int .u8 c,.slice A b.length cp] w (dP (ae bG 1 c b) w):=by
 obtain⟨hcode1,hcode2⟩:=hcode
 have hln:(b.length:Int)≤1048576:=by omega
 refine en 81 Tryz.func146 rfl<|sg<|L0<|bE mZ fun T bj q h o=>Pl 1<|nt<|sq<|bk<|sg<|Pl 7<|nt<|?_
 refine c0<|sg<|Pl 3<|nt<|cb ((c != 43)) (fun i=>?_) (fun i=>?_)
 have aC:=aq i
 refine sg<|Pl 1<|L0<|aW h mZ fun bm aE aI=>Pl 1<|nt<|rt<|br<|tr<|bz aE (.int .i64 4)<|?_
 have hs:ae bG 1 c b=(aQ.zero,4):=by
   unfold ae bG el fP dB
   (try simp only[i,bs,if_true,if_false,decide_true,decide_false,eq_self,true_or,or_true,or_false,false_or,if_true,if_false,cl,cj,cm,ck,reduceIte])
   all_goals rfl
 rw[hs]
 exact cJ (ud o aI q)
 have aC:=ai i
 refine sk<|bn<|tn<|sg<|Pl 1<|?_
 refine L0<|Oc<|e3 (dJ (aT.old hsl o) (by omega)) fun U bo a V j=>Pl 1<|ng<|Pl 2<|L0<|Oc<|m3 (bS V) fun bp aJ d bq=>Pl 1<|L0<|bE mZ fun W bt f aN aO=>L0<|aW aN (mG c 0 0 0 0 0 0 0 0 0 0 0 nS nS nS nS ((ah.mk b false 0).byteV) 0 0 0 0 nS) fun bu E aP=>nt<|sq<|?_
 refine go<|Pl 2<|L0<|aU E 16<|Pl 2<|cu 4 [33] 37 (((((ah.mk b false 0).byteV)==13)||(((ah.mk b false 0).byteV)==14))) (fun K X=>?_) ?_
 refine bl 33 ((((ah.mk b false 0).byteV)==13)) (fun r=>?_) (fun r=>?_)
 have aR:=al r
 exact Pl 4<|ce X true (by rw[r];rfl)
 have aR:=ap r
 exact Pl 1<|L1<|aU E 16<|Pl 2<|ce X (((ah.mk b false 0).byteV)==14) (by rw[r];rfl)
 have Y:=ud aO aP f
 refine L0<|Oc<|m2 (bf (((((ah.mk b false 0).byteV)==13)||(((ah.mk b false 0).byteV)==14))) 8 (aj.old aJ Y)) fun bv aV Z=>?_
 refine ab aV fun x45 v y=>?_
 refine nt<|sq<|sg<|Pl 1<|?_
 have g:=nb (aj.lt V) d.size f
 have F:=aX Z (Ne.symm g) E
 refine L0<|aU F 16<|Pl 1<|nt<|?_
 have k:=ud j (u1 d (uz Y Z) im) a
 have a0:=aF o k
 refine cb ((((ah.mk b false 0).byteV)==13)) (fun p=>?_) (fun p=>?_)
 have aY:=al p
 refine sg<|Pl 2<|L0<|Oc<|mq (dV y)<|?_
 have bw:=aj.len y
 refine Pl 1<|L0<|Oc<|m2 (bf ((decide (((x45.l.length:Nat) : Int)≤251))) 5 y) fun bx aZ b0=>?_
 refine ab aZ fun x59 a1 z=>?_
 refine nt<|go<|Pl 2<|L0<|Oc<|mq (dV z)<|?_
 have bB:=aj.len z
 refine L0<|Oc<|s3 (cD (n:=((x59.l.length:Nat) : Int)) z) fun a2 a3 bC a4 bH bI b1 b2=>?_
 have bJ:=Nat.le_trans (ah.bytesR_le x59 ((x59.l.length:Nat) : Int)) (aj.len z)
 refine ab b1 fun x69 a5 G=>?_
 refine Pl 1<|?_
 have B:=u1 b0 b2 im
 have C:=aX B (Ne.symm g) F
 refine L0<|bX C 14 (mG c 0 0 0 0 0 0 0 0 0 0 0 nS nS (.slice a2 ((x59.bytesR ((x59.l.length:Nat) : Int)).length) a3) nS ((ah.mk b false 0).byteV) 0 0 0 0 nS) fun bK b3 a6=>ng<|Pl 1<|?_
 refine L0<|Oc<|m2 (cy (aj.upd G a6 (aa g ay) (ak (aM C (by decide)) aG))) fun bL a7 a8=>nt<|sq<|sg<|Pl 1<|L0<|Oc<|mq (bD a7)<|?_
 have bM:=aj.len a7
 refine Pl 1<|ng<|Pl 2<|nt<|?_
 have H:=us a6 a8
 have I:=ui B H
 have a9:=ut a0 I (ac (ni (le (le o.size j.size) d.size) f) (ac (ni o.size a) au))
 refine cb ((x69.endC.e != 0)) (fun s=>?_) (fun s=>?_)
 have J:=aq s
 refine sg<|Pl 2<|?_
 refine L0<|aW (ub (ut k I (ac (ni (le j.size d.size) f) (ac (nr a) au))) h) mZ fun bN b4 ad=>Pl 1<|nt<|rt<|tr<|bz b4 (.int .i64 x69.endC.e)<|?_
 subst a5 a1 v
 have bO:=aT.upd' a4 (u1 (aD.mono (S':=[W,U,T]) H (ac im (ac im au))) ad im) (ak (aM C (by decide)) (ak (aj.safe G _ (by decide)) (ak (aM (ub (ud k B a) h) (by decide)) aG)))
 have hs:ae bG 1 c b=aH (aQ.mk c 0 0 0 0 0 0 0 0 0 0 0 [] [] (((((ah.mk b false 0).bytesC 1).need ((((ah.mk b false 0).byteV)==13)||(((ah.mk b false 0).byteV)==14)) 8).need (decide ((((((ah.mk b false 0).bytesC 1).need ((((ah.mk b false 0).byteV)==13)||(((ah.mk b false 0).byteV)==14)) 8).l.length:Nat) : Int)≤251)) 5).bytesR ((((((ah.mk b false 0).bytesC 1).need ((((ah.mk b false 0).byteV)==13)||(((ah.mk b false 0).byteV)==14)) 8).need (decide ((((((ah.mk b false 0).bytesC 1).need ((((ah.mk b false 0).byteV)==13)||(((ah.mk b false 0).byteV)==14)) 8).l.length:Nat) : Int)≤251)) 5).l.length:Nat) : Int)) [] ((ah.mk b false 0).byteV) 0 0 0 0 []) (((((ah.mk b false 0).bytesC 1).need ((((ah.mk b false 0).byteV)==13)||(((ah.mk b false 0).byteV)==14)) 8).need (decide ((((((ah.mk b false 0).bytesC 1).need ((((ah.mk b false 0).byteV)==13)||(((ah.mk b false 0).byteV)==14)) 8).l.length:Nat) : Int)≤251)) 5).bytesC ((((((ah.mk b false 0).bytesC 1).need ((((ah.mk b false 0).byteV)==13)||(((ah.mk b false 0).byteV)==14)) 8).need (decide ((((((ah.mk b false 0).bytesC 1).need ((((ah.mk b false 0).byteV)==13)||(((ah.mk b false 0).byteV)==14)) 8).l.length:Nat) : Int)≤251)) 5).l.length:Nat) : Int)):=by
   unfold ae bG el fP dB
   (try simp only[i,p,s,bs,if_true,if_false,decide_true,decide_false,eq_self,true_or,or_true,or_false,false_or,if_true,if_false,cl,cj,cm,ck,reduceIte])
   all_goals rfl
 rw[hs]
 exact bA J (ud a9 ad q)
 have J:=ai s
 refine bi<|sg<|?_
 refine L0<|ci (aX a8 (Ne.symm g) b3)<|?_
 refine L0<|aW (ub (ut k I (ac (ni (le j.size d.size) f) (ac (nr a) au))) h) (mG c 0 0 0 0 0 0 0 0 0 0 0 nS nS (.slice a2 ((x59.bytesR ((x59.l.length:Nat) : Int)).length) a3) nS ((ah.mk b false 0).byteV) 0 0 0 0 nS) fun bP b5 af=>Pl 1<|nt<|rt<|bz b5 (.int .i64 0)<|?_
 subst a5 a1 v
 have hs:ae bG 1 c b=aH (aQ.mk c 0 0 0 0 0 0 0 0 0 0 0 [] [] (((((ah.mk b false 0).bytesC 1).need ((((ah.mk b false 0).byteV)==13)||(((ah.mk b false 0).byteV)==14)) 8).need (decide ((((((ah.mk b false 0).bytesC 1).need ((((ah.mk b false 0).byteV)==13)||(((ah.mk b false 0).byteV)==14)) 8).l.length:Nat) : Int)≤251)) 5).bytesR ((((((ah.mk b false 0).bytesC 1).need ((((ah.mk b false 0).byteV)==13)||(((ah.mk b false 0).byteV)==14)) 8).need (decide ((((((ah.mk b false 0).bytesC 1).need ((((ah.mk b false 0).byteV)==13)||(((ah.mk b false 0).byteV)==14)) 8).l.length:Nat) : Int)≤251)) 5).l.length:Nat) : Int)) [] ((ah.mk b false 0).byteV) 0 0 0 0 []) (((((ah.mk b false 0).bytesC 1).need ((((ah.mk b false 0).byteV)==13)||(((ah.mk b false 0).byteV)==14)) 8).need (decide ((((((ah.mk b false 0).bytesC 1).need ((((ah.mk b false 0).byteV)==13)||(((ah.mk b false 0).byteV)==14)) 8).l.length:Nat) : Int)≤251)) 5).bytesC ((((((ah.mk b false 0).bytesC 1).need ((((ah.mk b false 0).byteV)==13)||(((ah.mk b false 0).byteV)==14)) 8).need (decide ((((((ah.mk b false 0).bytesC 1).need ((((ah.mk b false 0).byteV)==13)||(((ah.mk b false 0).byteV)==14)) 8).l.length:Nat) : Int)≤251)) 5).l.length:Nat) : Int)):=by
   unfold ae bG el fP dB
   (try simp only[i,p,s,bs,if_true,if_false,decide_true,decide_false,eq_self,true_or,or_true,or_false,false_or,if_true,if_false,cl,cj,cm,ck,reduceIte])
   all_goals rfl
 rw[hs]
 exact bF J ⟨_,_,_,_,_,rfl,aK.nil ..,aK.nil ..,(aT.upd' a4 (u1 (aD.mono (S':=[W,U,T]) H (ac im (ac im au))) af im) (ak (aM C (by decide)) (ak (aj.safe G _ (by decide)) (ak (aM (ub (ud k B a) h) (by decide)) aG)))),aK.nil ..,aK.nil ..,⟨(b8 (x:=c) (by omega)),(b8 (x:=0) (by omega)),(aB (x:=0) (by omega)),(aB (x:=0) (by omega)),(aB (x:=0) (by omega)),(aB (x:=0) (by omega)),(aB (x:=0) (by omega)),(aB (x:=0) (by omega)),(aB (x:=0) (by omega)),(aB (x:=0) (by omega)),(aB (x:=0) (by omega)),(aB (x:=0) (by omega)),(b8 (x:=(ah.mk b false 0).byteV) (by omega)),(b8 (x:=0) (by omega)),(b8 (x:=0) (by omega)),(b8 (x:=0) (by omega)),(b8 (x:=0) (by omega))⟩⟩ (ud a9 af q)
 have aY:=ap p
 refine sg<|Pl 1<|L0<|Oc<|m3 (bS y) fun bQ b6 L bR=>Pl 1<|?_
 have ag:=aX L (Ne.symm g) F
 refine L0<|bX ag 17 (mG c 0 0 0 0 0 0 0 0 0 0 0 nS nS nS nS ((ah.mk b false 0).byteV) x45.byteV 0 0 0 nS) fun bT M N=>ng<|Pl 2<|L0<|aU M 17<|Pl 2<|cu 4 [59] 63 (((decide (1≤x45.byteV))&&(decide (x45.byteV≤4)))) (fun K am=>?_) ?_
 refine bl 59 ((decide (1≤x45.byteV))) (fun t=>?_) (fun t=>?_)
 have b7:=of_decide_eq_true t
 exact Pl 1<|L1<|aU M 17<|Pl 2<|ce am (decide (x45.byteV≤4)) (by rw[t];rfl)
 have b7:=of_decide_eq_false t
 exact Pl 4<|ce am false (by rw[t];rfl)
 refine L0<|Oc<|m2 (bf (((decide (1≤x45.byteV))&&(decide (x45.byteV≤4)))) 6 (aj.upd b6 N (aa g ay) (ak (aM ag (by decide)) aG))) fun bU b9 O=>?_
 refine ab b9 fun bV an ba=>?_
 refine ng<|Pl 2<|nt<|c1<|go<|Pl 1<|?_
 refine L0<|Oc<|m3 (oQ (c:=c) (me:=(ah.mk b false 0).byteV) (kd:=x45.byteV) ⟨hcode1,hcode2⟩ (b8 (by omega)) (b8 (by omega)) ba (aX O (Ne.symm g) M) g) fun bW ao bb ar=>?_
 obtain⟨bc,D,P⟩:=bb
 refine ng<|Pl 1<|L0<|Oc<|m2 (cy ao) fun bY bd Q=>?_
 refine ab bd fun av aw ax=>?_
 refine nt<|sq<|sg<|Pl 1<|L0<|Oc<|mq (bD ax)<|?_
 have bZ:=aj.len ax
 refine Pl 1<|ng<|Pl 2<|nt<|?_
 have R:=ui L (ui N (ui O (u1 ar Q im)))
 have az:=ut a0 R (ac (ni o.size a) (ac (ni (le (le o.size j.size) d.size) f) au))
 refine cb ((av.e != 0)) (fun u=>?_) (fun u=>?_)
 have S:=aq u
 refine sg<|Pl 2<|?_
 refine L0<|aW (ub (ut k R (ac (nr a) (ac (ni (le j.size d.size) f) au))) h) mZ fun c2 be bg=>Pl 1<|nt<|rt<|tr<|bz be (.int .i64 av.e)<|?_
 subst aw an v
 have hs:ae bG 1 c b=aH ({ aQ.zero with code:=c,mei:=(ah.mk b false 0).byteV,kind:=(((ah.mk b false 0).bytesC 1).need ((((ah.mk b false 0).byteV)==13)||(((ah.mk b false 0).byteV)==14)) 8).byteV,level:=(((((ah.mk b false 0).bytesC 1).need ((((ah.mk b false 0).byteV)==13)||(((ah.mk b false 0).byteV)==14)) 8).bytesC 1).need ((decide (1≤(((ah.mk b false 0).bytesC 1).need ((((ah.mk b false 0).byteV)==13)||(((ah.mk b false 0).byteV)==14)) 8).byteV))&&(decide ((((ah.mk b false 0).bytesC 1).need ((((ah.mk b false 0).byteV)==13)||(((ah.mk b false 0).byteV)==14)) 8).byteV≤4))) 6).byteV,more:=(ls (((((ah.mk b false 0).bytesC 1).need ((((ah.mk b false 0).byteV)==13)||(((ah.mk b false 0).byteV)==14)) 8).bytesC 1).need ((decide (1≤(((ah.mk b false 0).bytesC 1).need ((((ah.mk b false 0).byteV)==13)||(((ah.mk b false 0).byteV)==14)) 8).byteV))&&(decide ((((ah.mk b false 0).bytesC 1).need ((((ah.mk b false 0).byteV)==13)||(((ah.mk b false 0).byteV)==14)) 8).byteV≤4))) 6)).byteV,next:=(l9 (((((ah.mk b false 0).bytesC 1).need ((((ah.mk b false 0).byteV)==13)||(((ah.mk b false 0).byteV)==14)) 8).bytesC 1).need ((decide (1≤(((ah.mk b false 0).bytesC 1).need ((((ah.mk b false 0).byteV)==13)||(((ah.mk b false 0).byteV)==14)) 8).byteV))&&(decide ((((ah.mk b false 0).bytesC 1).need ((((ah.mk b false 0).byteV)==13)||(((ah.mk b false 0).byteV)==14)) 8).byteV≤4))) 6)).byteV,objects:=(eB (((ah.mk b false 0).bytesC 1).need ((((ah.mk b false 0).byteV)==13)||(((ah.mk b false 0).byteV)==14)) 8).byteV (((((ah.mk b false 0).bytesC 1).need ((((ah.mk b false 0).byteV)==13)||(((ah.mk b false 0).byteV)==14)) 8).bytesC 1).need ((decide (1≤(((ah.mk b false 0).bytesC 1).need ((((ah.mk b false 0).byteV)==13)||(((ah.mk b false 0).byteV)==14)) 8).byteV))&&(decide ((((ah.mk b false 0).bytesC 1).need ((((ah.mk b false 0).byteV)==13)||(((ah.mk b false 0).byteV)==14)) 8).byteV≤4))) 6)).2 }) ((eB (((ah.mk b false 0).bytesC 1).need ((((ah.mk b false 0).byteV)==13)||(((ah.mk b false 0).byteV)==14)) 8).byteV (((((ah.mk b false 0).bytesC 1).need ((((ah.mk b false 0).byteV)==13)||(((ah.mk b false 0).byteV)==14)) 8).bytesC 1).need ((decide (1≤(((ah.mk b false 0).bytesC 1).need ((((ah.mk b false 0).byteV)==13)||(((ah.mk b false 0).byteV)==14)) 8).byteV))&&(decide ((((ah.mk b false 0).bytesC 1).need ((((ah.mk b false 0).byteV)==13)||(((ah.mk b false 0).byteV)==14)) 8).byteV≤4))) 6)).1):=by
   unfold ae bG el fP dB
   (try simp only[i,p,u,bs,if_true,if_false,decide_true,decide_false,eq_self,true_or,or_true,or_false,false_or,if_true,if_false,cl,cj,cm,ck,reduceIte])
   all_goals rfl
 rw[hs]
 exact bA S (ud az bg q)
 have S:=ai u
 refine bi<|sg<|?_
 refine L0<|ci (hz:=(by rw[D.2];exact aS)) (aX Q (Ne.symm g) D.1)<|?_
 refine L0<|aW (hz:=(by rw[D.2];exact aS)) (hv:=P.size) (h1:=P.one) (ub (ut k R (ac (nr a) (ac (ni (le j.size d.size) f) au))) h) (bc) fun c3 bh aA=>Pl 1<|nt<|rt<|eu 22 D.2 bh (.int .i64 0)<|?_
 subst aw an v
 have hs:ae bG 1 c b=aH ({ aQ.zero with code:=c,mei:=(ah.mk b false 0).byteV,kind:=(((ah.mk b false 0).bytesC 1).need ((((ah.mk b false 0).byteV)==13)||(((ah.mk b false 0).byteV)==14)) 8).byteV,level:=(((((ah.mk b false 0).bytesC 1).need ((((ah.mk b false 0).byteV)==13)||(((ah.mk b false 0).byteV)==14)) 8).bytesC 1).need ((decide (1≤(((ah.mk b false 0).bytesC 1).need ((((ah.mk b false 0).byteV)==13)||(((ah.mk b false 0).byteV)==14)) 8).byteV))&&(decide ((((ah.mk b false 0).bytesC 1).need ((((ah.mk b false 0).byteV)==13)||(((ah.mk b false 0).byteV)==14)) 8).byteV≤4))) 6).byteV,more:=(ls (((((ah.mk b false 0).bytesC 1).need ((((ah.mk b false 0).byteV)==13)||(((ah.mk b false 0).byteV)==14)) 8).bytesC 1).need ((decide (1≤(((ah.mk b false 0).bytesC 1).need ((((ah.mk b false 0).byteV)==13)||(((ah.mk b false 0).byteV)==14)) 8).byteV))&&(decide ((((ah.mk b false 0).bytesC 1).need ((((ah.mk b false 0).byteV)==13)||(((ah.mk b false 0).byteV)==14)) 8).byteV≤4))) 6)).byteV,next:=(l9 (((((ah.mk b false 0).bytesC 1).need ((((ah.mk b false 0).byteV)==13)||(((ah.mk b false 0).byteV)==14)) 8).bytesC 1).need ((decide (1≤(((ah.mk b false 0).bytesC 1).need ((((ah.mk b false 0).byteV)==13)||(((ah.mk b false 0).byteV)==14)) 8).byteV))&&(decide ((((ah.mk b false 0).bytesC 1).need ((((ah.mk b false 0).byteV)==13)||(((ah.mk b false 0).byteV)==14)) 8).byteV≤4))) 6)).byteV,objects:=(eB (((ah.mk b false 0).bytesC 1).need ((((ah.mk b false 0).byteV)==13)||(((ah.mk b false 0).byteV)==14)) 8).byteV (((((ah.mk b false 0).bytesC 1).need ((((ah.mk b false 0).byteV)==13)||(((ah.mk b false 0).byteV)==14)) 8).bytesC 1).need ((decide (1≤(((ah.mk b false 0).bytesC 1).need ((((ah.mk b false 0).byteV)==13)||(((ah.mk b false 0).byteV)==14)) 8).byteV))&&(decide ((((ah.mk b false 0).bytesC 1).need ((((ah.mk b false 0).byteV)==13)||(((ah.mk b false 0).byteV)==14)) 8).byteV≤4))) 6)).2 }) ((eB (((ah.mk b false 0).bytesC 1).need ((((ah.mk b false 0).byteV)==13)||(((ah.mk b false 0).byteV)==14)) 8).byteV (((((ah.mk b false 0).bytesC 1).need ((((ah.mk b false 0).byteV)==13)||(((ah.mk b false 0).byteV)==14)) 8).bytesC 1).need ((decide (1≤(((ah.mk b false 0).bytesC 1).need ((((ah.mk b false 0).byteV)==13)||(((ah.mk b false 0).byteV)==14)) 8).byteV))&&(decide ((((ah.mk b false 0).bytesC 1).need ((((ah.mk b false 0).byteV)==13)||(((ah.mk b false 0).byteV)==14)) 8).byteV≤4))) 6)).1):=by
   unfold ae bG el fP dB
   (try simp only[i,p,u,bs,if_true,if_false,decide_true,decide_false,eq_self,true_or,or_true,or_false,false_or,if_true,if_false,cl,cj,cm,ck,reduceIte])
   all_goals rfl
 rw[hs]
 exact bF S (aL.upd P (us Q aA) (ak (aj.safe ao _ (by decide)) (ak (aM (ub (ut k (ui L (ui N (ui O ar))) (ac (nr a) (ac (ni (le j.size d.size) f) au))) h) (by decide)) aG))) (ud az aA q)
theorem nq{m:Md}{A:Option Addr}{cp:Nat}{b:List Int}{w:World}{dir c:Int}(hcode:B8 c)(hsl:aT m w (.slice A b.length cp) b)(hb:b.length≤1048576)(hd:¬ (dir=0∨dir=1)) :
    Calls Tryz.prog 146 #[.int .i64 dir,.int .u8 c,.slice A b.length cp] w (dP (ae bG dir c b) w):=by
 obtain⟨hcode1,hcode2⟩:=hcode
 have hln:(b.length:Int)≤1048576:=by omega
 have e0:(dir != 0)=true:=by simp;omega
 have e1:(dir != 1)=true:=by simp;omega
 refine en 81 Tryz.func146 rfl<|sg<|L0<|bE mZ fun g h a d e=>Pl 1<|nt<|sq<|bk<|sg<|Pl 3<|sy 14 e0<|Pl 4<|nl<|?_
 refine tn<|ct e1<|sg<|Pl 1<|L0<|aW d mZ fun i dx f=>Pl 1<|nt<|rt<|br<|tr<|bz dx (.int .i64 1)<|?_
 have hs:ae bG dir c b=(aQ.zero,1):=by
   unfold ae bG el fP dB
   (try simp only[e0,e1,bs,if_true,if_false,decide_true,decide_false,eq_self,true_or,or_true,or_false,false_or,if_true,if_false,cl,cj,cm,ck,reduceIte,hd])
   all_goals rfl
 rw[hs]
 exact cJ (ud e f a)
theorem lT{m:Md}{v:Value}{b:List Int}{w:World}{dir c:Int}(hc:B8 c)(h:aT m w v b)(hb:b.length≤1048576) :
    Calls Tryz.prog 146 #[.int .i64 dir,.int .u8 c,v] w (dP (ae bG dir c b) w):=by
  obtain⟨A,cp,rfl,_,_⟩:=h.shape
  by_cases h0:dir=0
  · subst h0;exact nP hc h hb
  by_cases h1:dir=1
  · subst h1;exact oh hc h hb
  exact nq hc h hb (by omega)
open Go.RowKit
def iw (C:ah) : ah:=(C.bytesC 1).need (C.byteV==6) 9
def iy (C:ah) : ah:=((iw C).wordsC 1).need ((iw C).wordV != 0) 6
def nk (C:ah) : ah:=((iy C).wordsC 1).need (decide ((iy C).wordV≤9999)) 7
def dF (C:ah) : ah:=((nk C).wordsC 1).need ((nk C).wordV != 0) 5
def aN (C:ah) : dt:=⟨(iw C).wordV,(iy C).wordV,(nk C).wordV,[]⟩
def et (s:Int)(C:ah) : Int:=s+(2+2*(nk C).wordV)
def eH (s:Int)(C:ah) : ah:=(dF C).need (decide (et s C≤245)) 5
def i6 (C:ah) : ah:=(C.bytesC 1).need ((C.byteV%2==1&&decide (3≤C.byteV))&&decide (C.byteV≤((C.bytesC 1).l.length:Int))) 5
def ib (C:ah) : ah:=((i6 C).bytesC 1).need ((i6 C).byteV==6) 9
def eW (C:ah) : ah:=(ib C).wordsC (Int.tdiv (C.byteV-1) 2)
def eF (C:ah) : dt:=⟨0,0,0,(ib C).wordsR (Int.tdiv (C.byteV-1) 2)⟩
def nR (C:ah) : ah:=(dF C).need (decide (2*(nk C).wordV≤((dF C).l.length:Int))) 5
def iS (C:ah) : ah:=(nR C).wordsC (nk C).wordV
def iq (C:ah) : dt:=⟨(iw C).wordV,(iy C).wordV,(nk C).wordV,(nR C).wordsR (nk C).wordV⟩
def wY (g:Nat)(C':ah)(r:dt)(w:World)(e:Ending)(w':World) : Prop:=∃ A c,e = .returned (.agg #[.int .u16 r.file,.int .u16 r.record,.int .u16 r.count,.slice A r.words.length c])∧e8 true w' (.slice A r.words.length c) r.words∧dx r.file∧dx r.record∧dx r.count∧aj w' g C'∧aD [g] w w'
theorem o9{g:Nat}{C:ah}{w:World}(hC:aj w g C) : Calls Tryz.prog 251 #[.pointer (some ⟨g,0,none⟩)] w (wY g (dF C) (aN C) w):=by
 have hlen:=hC.len
 refine en 34 Tryz.func251 rfl<|sg<|L0<|bE #[.int .u16 0,.int .u16 0,.int .u16 0,.slice none 0 0] fun Z a0 c B b=>ng<|Pl 2<|?_
 refine L0<|Oc<|m3 (bS (aj.old hC b)) fun a1 D d a2=>Pl 1<|L0<|Oc<|m2 (bf ((C.byteV==6)) 9 D) fun a3 E e=>?_
 refine ab E fun eJ F G=>?_
 refine ng<|L0<|bE #[.int .u16 0,.int .u16 0,.int .u16 0,.slice none 0 0] fun a4 a5 f H h=>ng<|Pl 1<|?_
 refine L0<|Oc<|m3 (bR (aj.old G h)) fun a6 I i a7=>Pl 1<|?_
 have a:=nb (aj.lt hC) (le (le b.size d.size) e.size) f
 have j:=aX i (Ne.symm a) H
 refine L0<|bX j 0 #[.int .u16 eJ.wordV,.int .u16 0,.int .u16 0,.slice none 0 0] fun a8 k l=>ng<|Pl 2<|L0<|aU k 0<|Pl 1<|?_
 refine L0<|Oc<|m2 (bf ((eJ.wordV != 0)) 6 (aj.upd I l (aa a ay) (ak (aM j (by decide)) aG))) fun a9 J K=>?_
 refine ab J fun x45 L M=>?_
 refine ng<|Pl 1<|L0<|Oc<|m3 (bR M) fun ac N O ad=>Pl 1<|?_
 have m:=u1 K O im
 have n:=aX m (Ne.symm a) k
 refine L0<|bX n 1 #[.int .u16 eJ.wordV,.int .u16 x45.wordV,.int .u16 0,.slice none 0 0] fun ae o p=>ng<|Pl 2<|L0<|aU o 1<|Pl 1<|?_
 refine L0<|Oc<|m2 (bf ((decide (x45.wordV≤9999))) 7 (aj.upd N p (aa a ay) (ak (aM n (by decide)) aG))) fun af P Q=>?_
 refine ab P fun x61 R S=>?_
 refine ng<|Pl 1<|L0<|Oc<|m3 (bR S) fun ag T U ai=>Pl 1<|?_
 have q:=u1 Q U im
 have r:=aX q (Ne.symm a) o
 refine L0<|bX r 2 #[.int .u16 eJ.wordV,.int .u16 x45.wordV,.int .u16 x61.wordV,.slice none 0 0] fun al s t=>ng<|Pl 2<|L0<|aU s 2<|Pl 1<|?_
 refine L0<|Oc<|m2 (bf ((x61.wordV != 0)) 5 (aj.upd T t (aa a ay) (ak (aM r (by decide)) aG))) fun am V u=>?_
 refine ab V fun x77 W X=>?_
 refine ng<|?_
 refine L0<|ci (aX u (Ne.symm a) s)<|?_
 have v:=u1 d (u1 e (ud h (ui i (ui l (ui m (ui p (ui q (us t u)))))) f) im) im
 have y:=nb (aj.lt hC) lr c
 have z:=aX v (Ne.symm y) B
 refine L0<|aW z #[.int .u16 eJ.wordV,.int .u16 x45.wordV,.int .u16 x61.wordV,.slice none 0 0] fun an Y A=>nt<|rt<|xD Y<|?_
 subst W R L F
 exact⟨_,_,rfl,aK.nil ..,aB (x:=((C.bytesC 1).need (C.byteV==6) 9).wordV) (by omega),aB (x:=((((C.bytesC 1).need (C.byteV==6) 9).wordsC 1).need (((C.bytesC 1).need (C.byteV==6) 9).wordV != 0) 6).wordV) (by omega),aB (x:=((((((C.bytesC 1).need (C.byteV==6) 9).wordsC 1).need (((C.bytesC 1).need (C.byteV==6) 9).wordV != 0) 6).wordsC 1).need (decide (((((C.bytesC 1).need (C.byteV==6) 9).wordsC 1).need (((C.bytesC 1).need (C.byteV==6) 9).wordV != 0) 6).wordV≤9999)) 7).wordV) (by omega),(aj.upd X A (aa y ay) (ak (aM z (by decide)) aG)),(ue b (us v A) c)⟩
theorem rp{g:Nat}{C:ah}{w:World}(hC:aj w g C) : Calls Tryz.prog 254 #[.pointer (some ⟨g,0,none⟩)] w (wY g (eW C) (eF C) w):=by
 have hlen:=hC.len
 refine en 33 Tryz.func254 rfl<|sg<|L0<|bE #[.int .u16 0,.int .u16 0,.int .u16 0,.slice none 0 0] fun R S f i j=>ng<|Pl 1<|?_
 refine L0<|Oc<|m3 (bS (aj.old hC j)) fun T c k U=>L0<|Oi C.byteV<|Pl 1<|ng<|Pl 2<|L0<|Oe (.int .i64 (Int.tmod C.byteV 2)) (.int .i64 (C.byteV%2)) (congrArg (Value.int .i64) (Int.tmod_eq_emod_of_nonneg (by omega)))<|Pl 2<|cu 3 [11] 14 ((((C.byteV%2)==1)&&(decide (3≤C.byteV)))) (fun K m=>?_) ?_
 refine bl 11 (((C.byteV%2)==1)) (fun a=>?_) (fun a=>?_)
 have y:=al a
 exact Pl 3<|ce m (decide (3≤C.byteV)) (by rw[a];rfl)
 have y:=ap a
 exact Pl 3<|ce m false (by rw[a];rfl)
 refine Pl 1<|cu 5 [15] 20 (((((C.byteV%2)==1)&&(decide (3≤C.byteV)))&&(decide (C.byteV≤(((C.bytesC 1).l.length:Nat) : Int))))) (fun K o=>?_) ?_
 refine bl 15 ((((C.byteV%2)==1)&&(decide (3≤C.byteV)))) (fun b=>?_) (fun b=>?_)
 have z:=(aR b).1
 have A:=(aR b).2
 have V:=al z
 have W:=of_decide_eq_true A
 refine Pl 2<|L1<|Oc<|mq (dV c)<|?_
 have X:=aj.len c
 exact Pl 2<|ce o (decide (C.byteV≤(((C.bytesC 1).l.length:Nat) : Int))) (by rw[b];rfl)
 exact Pl 5<|ce o false (by rw[b];rfl)
 refine L0<|Oc<|m2 (bf (((((C.byteV%2)==1)&&(decide (3≤C.byteV)))&&(decide (C.byteV≤(((C.bytesC 1).l.length:Nat) : Int))))) 5 c) fun Y B p=>?_
 refine ab B fun x28 D E=>?_
 refine ng<|Pl 2<|L0<|Oc<|m3 (bS E) fun Z F q a0=>Pl 1<|L0<|Oc<|m2 (bf ((x28.byteV==6)) 9 F) fun a1 G r=>?_
 refine ab G fun x38 H I=>?_
 refine ng<|Pl 2<|L0<|Oi (C.byteV-1)<|L0<|Oe (.int .i64 (IntKind.i64.wrap (Int.tdiv (C.byteV-1) 2))) (.int .i64 (Int.tdiv (C.byteV-1) 2)) (congrArg (Value.int .i64) (kf (by omega) (by omega)))<|L0<|Oc<|mF (eb (n:=(Int.tdiv (C.byteV-1) 2)) I) fun J L a2 s a3 a4 M N=>?_
 refine ab M fun x48 O P=>?_
 refine Pl 1<|?_
 have t:=u1 k (u1 p (u1 q (u1 r N im) im) im) im
 have u:=nb (aj.lt hC) lr f
 have v:=aX t (Ne.symm u) i
 refine L0<|aW v #[.int .u16 0,.int .u16 0,.int .u16 0,.slice J ((x38.wordsR (Int.tdiv (C.byteV-1) 2)).length) L] fun a5 Q d=>nt<|rt<|xD Q<|?_
 subst O H D
 exact⟨_,_,rfl,((ax s d (fun x hx=>(aa (fun e=>(aA (am i) (le (le (le k.size p.size) q.size) r.size) s) (e▸hx)) ay)) (fun _ _ h=>h))).rd,aB (x:=0) (by omega),aB (x:=0) (by omega),aB (x:=0) (by omega),(aj.upd P d (aa u ay) (ak (aM v (by decide)) aG)),(ue j (us t d) f)⟩
theorem vM{g:Nat}{C:ah}{w:World}(hC:aj w g C) : Calls Tryz.prog 256 #[.pointer (some ⟨g,0,none⟩)] w (wY g (iS C) (iq C) w):=by
 have hlen:=hC.len
 refine en 22 Tryz.func256 rfl<|sg<|L0<|bE #[.int .u16 0,.int .u16 0,.int .u16 0,.slice none 0 0] fun X Y v f i=>ng<|Pl 1<|?_
 refine L0<|Oc<|xm (o9 (aj.old hC i)) fun I J Z a0 K L M N c=>?_
 obtain⟨a1,a2⟩:=K
 obtain⟨a3,a4⟩:=L
 obtain⟨a5,a6⟩:=M
 refine L0<|bE #[.int .u16 0,.int .u16 0,.int .u16 0,.slice none 0 0] fun O a7 j y z=>L0<|aW y #[.int .u16 ((aN C).file),.int .u16 ((aN C).record),.int .u16 ((aN C).count),.slice I ((aN C).words.length) J] fun a8 P k=>nt<|sq<|Rg 9 (fun w'=>w'.cell? ⟨O,2,none⟩=some (.int .u16 ((aN C).count))) fun a9 d=>?_
 have m:=ub d P
 refine bg (ag m rfl) fun a=>Rt 0 a<|Rt 1 a<|Rl 2 a (fun _ hs=>hs)<|Rr 3 a (.int .i64 ((aN C).count)) (fun _ _=>cg (.int .i64 (IntKind.i64.wrap ((aN C).count))) (by kernel_rfl) (congrArg (Value.int .i64) (i64_in (by omega))))<|Rr 4 a (.int .i64 (2*((aN C).count))) (fun _ _=>cg (.int .i64 (IntKind.i64.wrap (2*((aN C).count)))) (by kernel_rfl) (congrArg (Value.int .i64) (IntWalk.i64_in _ (by omega))))<|Rt 5 a<|?_
 have o:=ud z (aF k d) j
 have p:=aj.old N o
 refine R0 6 rfl<|Oc<|mq (dV p)<|?_
 have ac:=aj.len p
 refine bg (ag m rfl) fun Q=>Rt 7 Q<|R0 8 rfl<|Oc<|m2 (bf ((decide ((2*((aN C).count))≤(((dF C).l.length:Nat) : Int)))) 5 p) fun ad R b=>?_
 refine ab R fun x54 S T=>?_
 have q:=nb (aj.lt hC) (le i.size c.size) j
 have r:=aX b (Ne.symm q) m
 refine bg (ag r rfl) fun ae=>re<|tn<|sg<|Pl 2<|L0<|aU r 2<|L0<|Oi ((aN C).count)<|L0<|Oc<|mF (eb (n:=(aN C).count) T) fun A B af s ai al U t=>Pl 1<|?_
 have D:=aX t (Ne.symm q) r
 refine L0<|bX D 3 #[.int .u16 ((aN C).file),.int .u16 ((aN C).record),.int .u16 ((aN C).count),.slice A ((x54.wordsR ((aN C).count)).length) B] fun an V E=>ng<|L0<|ci V<|?_
 have F:=u1 c (ue o (ui b (us t E)) j) im
 have u:=nb (aj.lt hC) lr v
 refine L0<|aW (aX F (Ne.symm u) f) #[.int .u16 ((aN C).file),.int .u16 ((aN C).record),.int .u16 ((aN C).count),.slice A ((x54.wordsR ((aN C).count)).length) B] fun ao W G=>nt<|rt<|xD W<|?_
 subst S
 have H:=us E G
 exact⟨_,_,rfl,((ax s H (fun x hx=>(aa (fun e=>(aA (am y) (le (le k.size d.size) b.size) s) (e▸hx)) (aa (fun e=>(aA (am f) (le (le (le (le c.size z.size) k.size) d.size) b.size) s) (e▸hx)) ay))) (fun _ _ h=>h))).rd,aB (x:=(aN C).file) (by omega),aB (x:=(aN C).record) (by omega),aB (x:=(aN C).count) (by omega),(aj.upd U H (aa q (aa u ay)) (ak (aM D (by decide)) (ak (aM (aX (u1 c (uz o (u1 b t im)) im) (Ne.symm u) f) (by decide)) aG))),(ue i (us F G) v)⟩
theorem pg{n:Int}{w:World}(hn:0≤n∧n<256) : Calls Tryz.prog 252 #[.int .i64 n] w (bP (.bool ((decide (7≤n)&&decide (n≤245))&&n%7==0)) w):=by
 refine en 14 Tryz.func252 rfl<|sg<|Pl 1<|ng<|Pl 3<|cu 3 [5] 8 (((decide (7≤n))&&(decide (n≤245)))) (fun K c=>?_) ?_
 refine bl 5 ((decide (7≤n))) (fun a=>?_) (fun a=>?_)
 have e:=of_decide_eq_true a
 exact Pl 3<|ce c (decide (n≤245)) (by rw[a];rfl)
 have e:=of_decide_eq_false a
 exact Pl 3<|ce c false (by rw[a];rfl)
 refine Pl 1<|cu 4 [9] 13 ((((decide (7≤n))&&(decide (n≤245)))&&((n%7)==0))) (fun K d=>?_) ?_
 refine bl 9 (((decide (7≤n))&&(decide (n≤245)))) (fun b=>?_) (fun b=>?_)
 have f:=(aR b).1
 have g:=(aR b).2
 have h:=of_decide_eq_true f
 have i:=of_decide_eq_true g
 exact Pl 1<|L1<|Oe (.int .i64 (Int.tmod n 7)) (.int .i64 (n%7)) (congrArg (Value.int .i64) (Int.tmod_eq_emod_of_nonneg (by omega)))<|Pl 2<|ce d ((n%7)==0) (by rw[b];rfl)
 exact Pl 4<|ce d false (by rw[b];rfl)
 refine Pl 1<|nt<|rt<|rr (.bool (((decide (7≤n))&&(decide (n≤245)))&&((n%7)==0)))<|?_
 exact⟨rfl,(aD.refl [] _)⟩
theorem p8{n:Int}{w:World}(hn:0≤n∧n<256) : Calls Tryz.prog 253 #[.int .i64 n] w (bP (.bool (decide (4≤n)&&decide (n≤245))) w):=by
 refine en 9 Tryz.func253 rfl<|sg<|Pl 1<|ng<|Pl 3<|cu 3 [5] 8 (((decide (4≤n))&&(decide (n≤245)))) (fun K b=>?_) ?_
 refine bl 5 ((decide (4≤n))) (fun a=>?_) (fun a=>?_)
 have c:=of_decide_eq_true a
 exact Pl 3<|ce b (decide (n≤245)) (by rw[a];rfl)
 have c:=of_decide_eq_false a
 exact Pl 3<|ce b false (by rw[a];rfl)
 refine Pl 1<|nt<|rt<|rr (.bool ((decide (4≤n))&&(decide (n≤245))))<|?_
 exact⟨rfl,(aD.refl [] _)⟩
theorem oW{n:Int}{w:World}(hn:0≤n∧n<256) : Calls Tryz.prog 255 #[.int .i64 n] w (bP (.bool (decide (9≤n)&&decide (n≤251))) w):=by
 refine en 9 Tryz.func255 rfl<|sg<|Pl 1<|ng<|Pl 3<|cu 3 [5] 8 (((decide (9≤n))&&(decide (n≤251)))) (fun K b=>?_) ?_
 refine bl 5 ((decide (9≤n))) (fun a=>?_) (fun a=>?_)
 have c:=of_decide_eq_true a
 exact Pl 3<|ce b (decide (n≤251)) (by rw[a];rfl)
 have c:=of_decide_eq_false a
 exact Pl 3<|ce b false (by rw[a];rfl)
 refine Pl 1<|nt<|rt<|rr (.bool ((decide (9≤n))&&(decide (n≤251))))<|?_
 exact⟨rfl,(aD.refl [] _)⟩
theorem iu{e:Int}{w:World}:Calls Tryz.prog 211 #[.int .i64 e] w (bP (.int .i64 (if e==2 then 5 else e)) w):=by
 refine en 6 Tryz.func211 rfl<|sg<|Pl 1<|nt<|sq<|sg<|Pl 2<|nt<|cb ((e==2)) (fun a=>?_) (fun a=>?_)
 have b:=al a
 refine sg<|Pl 1<|nt<|rt<|tr<|rr (.int .i64 5)<|?_
 have hs:(if e==2 then (5:Int) else e)=5:=by simp only[a,bs,if_true,if_false,decide_true,decide_false,reduceIte]
 rw[hs]
 exact⟨rfl,(aD.refl [] _)⟩
 have b:=ap a
 refine bi<|sg<|Pl 2<|nt<|rt<|rr (.int .i64 e)<|?_
 have hs:(if e==2 then (5:Int) else e)=e:=by simp only[a,bs,if_true,if_false,decide_true,decide_false,reduceIte]
 rw[hs]
 exact⟨rfl,(aD.refl [] _)⟩
open Go.RowKit
structure WF (F:Fence) (n:Nat) (P:Program) (ops:Array Oper) (Q:Exit→Act→World→Prop) (l:List Oper) (a:Act) (w:World) : Prop where
  out:wpListIn F n P ops Q l a w
def eL (F:Fence) : Prop:=F=Fence.wide∨∃ l,F=Fence.wide.inRound l
theorem kJ:eL Fence.wide:=.inl rfl
theorem jk(l:Nat) : eL (Fence.wide.inRound l):=.inr ⟨l,rfl⟩
theorem eL.fn{F:Fence}(h:eL F)(f:FuncId) : F.fn f:=by
  rcases h with rfl|⟨l,rfl⟩<;>trivial
theorem eL.depth{F:Fence}(h:eL F) : F.depth=none:=by
  rcases h with rfl|⟨l,rfl⟩<;>rfl
section
variable {F:Fence}{n:Nat}{P:Program}{Q:Exit→Act→World→Prop}{a:Act}{w:World}{K:Act→World→Prop}{ops:Array Oper}{rest:List Oper}{o:Oper}{N:Option Tmp}
theorem xq{f:FuncId}{args:Array Value}{R:Ending→World→Prop}(hF:eL F)(h:Calls P f args w R) : CallsIn F n P f args w R:=by
  rcases hF with rfl|⟨l,rfl⟩
  · exact callsIn_wide.2 h
  · exact CallsIn.inRound l (callsIn_wide.2 h)
theorem y2{row:String}{args:Array Value}{R:Value→World→Prop}(hF:eL F)(h:Rows P row args w R) : RowsIn F n P row args w R:=by
  have h0:RowsIn Fence.wide n P row args w R:=fun c cs _=>let ⟨v,w',r,s⟩:=h c cs; ⟨v,w',r,stepsIn_wide.2 s⟩
  rcases hF with rfl|⟨l,rfl⟩
  · exact h0
  · exact h0
def fC:Op→Bool
  | .defer _=>false
  | _=>true
theorem zJ(hF:eL F)(hd:fC o.op=true)(h:o.wp P a w K Q) : o.wpIn F n P a w K Q:=by
  refine⟨fun f _=>hF.fn f,?_⟩
  rw[Oper.semAt_eq _ _ _ (fun c hc=>by rw[hc] at hd;cases hd)]
  unfold Oper.wp at h
  have hdep:∀ {p:Prop},F.depth.isSome=true→p:=fun h=>by rw[hF.depth] at h;cases h
  generalize (execOp a.eval o).run P w=r at h ⊢
  cases r with
  | ok x w' =>
    cases x<;>simp only[Oper.upon,Oper.uponIn] at h ⊢
    case value u=>exact h
    case skip=>exact h
    case defer d=>exact h
    case enter f args=>exact⟨hdep,xq hF h⟩
    case row row args=>exact⟨hdep,y2 hF h⟩
  | halt x w' =>
    cases x<;>simp only[Oper.upon,Oper.uponIn] at h ⊢
    case panic u=>exact h
theorem zE{id:Nat}{l:List Oper}(n:Nat)(h:WF Fence.wide n P l.toArray Q l a w) : (Code.region id l.toArray false).wp P Q a w:=wpIn_wide.1 (wpIn_region_lit h.out)
theorem yW{id:Nat}{l:List Oper}(h:WF F n P l.toArray Q l a w) : (Code.region id l.toArray false).wpIn F n P Q a w:=wpIn_region_lit h.out
theorem zb(h:Q .normal a w) : WF F n P ops Q [] a w:=⟨h⟩
theorem zk(hF:eL F)(hd:fC o.op=true)(hw:Region.wanted o (yielded ops a.tmps)=true)(h:OW P o a w (WF F n P ops Q rest) Q) : WF F n P ops Q (o :: rest) a w:=by
  refine⟨?_⟩
  unfold wpListIn
  rw[if_pos hw]
  exact zJ hF hd (iN h fun _ _ h=>h.out)
theorem yN(hF:eL F)(hw:Region.wanted o (yielded ops a.tmps)=false)(hN:o.dst=N)(h:WF F n P ops Q rest (a.put N undef) w) : WF F n P ops Q (o :: rest) a w:=by
  subst hN
  refine⟨?_⟩
  unfold wpListIn
  rw[if_neg (by simp[hw])]
  exact⟨fun f _=>hF.fn f,h.out⟩
theorem xb{x:Operand}{opds:Array Operand}{ts:Array TypeId}{l:Nat}{r:Loop}(args:Array Value)(hw:Region.wanted o (yielded ops a.tmps)=true)(hN:o.dst=N)(hop:o.op = .call { callee:=.value x,args:=opds,argTypes:=ts })
    (hx:a.eval x = .func (.yield l) #[] #[]) (hargs:opds.map a.eval=args) (hl:w.heap[l]? = some (.loop r)) (hs:args.size=r.params.size)
    (h:RoundIn Fence.wide (n-1) P l r.fn ((r.params.zip args).foldl (fun tmps (t,a)=>tmps.setIfInBounds t a) r.tmps) r.assign r.body w (fun e w'=>∃ v,e = .returned v∧WF Fence.wide n P ops Q rest (a.put N v) w')) : WF Fence.wide n P ops Q (o :: rest) a w:=by
  subst hN
  refine⟨?_⟩
  unfold wpListIn
  rw[if_pos hw]
  refine⟨fun f _=>trivial,?_⟩
  have hrun:(o.semAt Fence.wide.round a.eval).run P w = .ok (.round l r.fn ((r.params.zip args).foldl (fun tmps (t,a)=>tmps.setIfInBounds t a) r.tmps) r.assign r.body) w:=by
    show(execOp a.eval o).run P w=_
    unfold execOp
    simp only[hop,resolve,hx,Deferred.ofValue,Sem.run_bind,Sem.run_pure,Result.andThen_ok,invoke,hargs]
    have:=run_yield (P:=P) (args:=args) hl hs
    simpa using this
  rw[hrun,Oper.uponIn_round]
  refine⟨(by simp[Fence.wide]),h.mono fun e w' hh=>?_⟩
  obtain⟨v,rfl,h2⟩:=hh
  exact h2.out
end
theorem vB{P:Program}{n:Nat}{ops:Array Oper}{Q:Exit→Act→World→Prop}{rest:List Oper}{o:Oper}{a:Act}{w:World}{N:Option Tmp}{x:Operand}{opds:Array Operand}{ts:Array TypeId}{l:Nat}{r:Loop}(v:Value)(p:Tmp)(hw:Region.wanted o (yielded ops a.tmps)=true)(hN:o.dst=N)(hop:o.op = .call { callee:=.value x,args:=opds,argTypes:=ts })
    (hx:a.eval x = .func (.yield l) #[] #[]) (hargs:opds.map a.eval = #[v]) (hl:w.heap[l]? = some (.loop r)) (hp:r.params = #[p])
    (h:RoundIn Fence.wide (n-1) P l r.fn (r.tmps.setIfInBounds p v) r.assign r.body w (fun e w'=>∃ u,e = .returned u∧WF Fence.wide n P ops Q rest (a.put N u) w')) : WF Fence.wide n P ops Q (o :: rest) a w:=by
  refine xb #[v] hw hN hop hx hargs hl (by rw[hp];rfl) ?_
  have:((r.params.zip #[v]).foldl (fun tmps (t,a)=>tmps.setIfInBounds t a) r.tmps)=r.tmps.setIfInBounds p v:=by rw[hp];simp
  rw[this]
  exact h
theorem gh{w:World}{l:Nat}(o:Go.Obj) : aD [l] w (w.putObj l o) :=
  ⟨rfl,rfl,rfl,by simp[World.putObj],fun k hk hn=>World.putObj_heap_other (by simpa using hn)⟩
theorem kF{w:World}{l:Nat}{o:Go.Obj}(o':Go.Obj)(h:w.heap[l]? = some o) : (w.putObj l o').heap[l]? = some o':=World.putObj_heap_same (am h)
def iz:Go.Obj→Bool
  | .cells ..=>false
  | _=>true
theorem aK.updl{α:Type}{m:Md}{e:TypeId}{sz:Nat}{R:World→α→List Value→Prop}{w w':World}{v:Value}{xs:List α}{l:Nat}{o:Go.Obj}
    (h:aK m e sz R w v xs) (hu:aD [l] w w') (hl:w.heap[l]? = some o) (ho:iz o=true) (hR:∀ x cs,R w x cs→R w' x cs) : aK m e sz R w' v xs:=by
  obtain⟨A,c,rfl,h1,h2,h0,h3⟩:=h
  refine⟨A,c,rfl,h1,h2,h0,fun hp=>?_⟩
  obtain⟨b,off,cells,t,fr,rfl,hb,ht,hx⟩:=h3 hp
  refine⟨b,off,cells,t,fr,rfl,?_,ht,fun j x hj=>?_⟩
  · refine hu.blk (fun hbs=>?_) hb
    simp at hbs
    subst hbs
    rw[hl] at hb
    injection hb with hb
    subst hb
    cases ho
  · obtain⟨cs,hl,hr,hc⟩:=hx j x hj
    exact⟨cs,hl,hR _ _ hr,hc⟩
theorem aT.updl{m:Md}{w w':World}{v:Value}{xs:List Int}{l:Nat}{o:Go.Obj}(h:aT m w v xs)(hu:aD [l] w w')(hl:w.heap[l]? = some o)(ho:iz o=true) : aT m w' v xs:=aK.updl h hu hl ho fun _ _ h=>h
theorem e8.updl{m:Md}{w w':World}{v:Value}{xs:List Int}{l:Nat}{o:Go.Obj}(h:e8 m w v xs)(hu:aD [l] w w')(hl:w.heap[l]? = some o)(ho:iz o=true) : e8 m w' v xs:=aK.updl h hu hl ho fun _ _ h=>h
theorem bq.updl{m:Md}{w w':World}{l:Nat}{o:Go.Obj}(hu:aD [l] w w')(hl:w.heap[l]? = some o)(ho:iz o=true)(r:dt)(cs:List Value)(h:bq m w r cs) : bq m w' r cs:=by
  obtain⟨v,h1,h2,h3⟩:=h
  exact⟨v,h1,e8.updl h2 hu hl ho,h3⟩
theorem aj.updl{w w':World}{g:Nat}{c:ah}{l:Nat}{o:Go.Obj}(h:aj w g c)(hu:aD [l] w w')(hg:g∉[l])(hl:w.heap[l]? = some o)(ho:iz o=true) : aj w' g c:=by
  obtain⟨v,hb,hr,hn⟩:=h
  exact⟨v,hu.blk hg hb,hr.updl hu hl ho,hn⟩
theorem uk{n:Nat}{P:Program}{l:Nat}{f:FuncId}{tmps:Array Value}{assign body:Code}{w:World}{r:Loop}{R:Ending→World→Prop}
    (h:assign.wpIn (Fence.wide.inRound l) n P (Exit.then (fun a₁ w₁=>w₁.heap[l]? = some (.loop r)∧r.state = .ready∧∀ w₂,w₂.heap[l]? = some (.loop { r with state:=.busy })→aD [l] w₁ w₂ →
      body.wpIn (Fence.wide.inRound l) n P (Exit.then (fun _ w₃=>∃ r',w₃.heap[l]? = some (.loop r')∧∀ w₄,w₄.heap[l]? = some (.loop { r' with state:=.ready,pending:=none })→aD [l] w₃ w₄→R (.returned (.bool true)) w₄) (fun _ _ _=>False)) a₁ w₂) (fun _ _ _=>False)) { tmps:=tmps,defers:=[] } w) :
    RoundIn Fence.wide n P l f tmps assign body w R:=by
  refine roundIn_of_wpIn trivial (Code.wpIn_mono (fun e a w q=>?_) h)
  cases e with
  | normal =>
    obtain⟨h1,h2,h3⟩:=q
    refine⟨_,run_beginRound h1 h2,Code.wpIn_mono (fun e a w q=>?_) (h3 _ (kF _ h1) (gh _))⟩
    cases e with
    | normal =>
      obtain⟨r',h4,h5⟩:=q
      exact⟨_,_,run_endRound none h4,h5 _ (kF _ h4) (gh _)⟩
    | _=>exact q.elim
  | _=>exact q.elim
theorem kG{n:Nat}{P:Program}{l:Nat}{f:FuncId}{tmps:Array Value}{assign body:Code}{w:World}{r:Loop}{R:Ending→World→Prop}
    (hl:w.heap[l]? = some (.loop r))
    (h:assign.wpIn (Fence.wide.inRound l) n P (Exit.then (fun a₁ w₁=>w₁.heap[l]? = some (.loop r)∧r.state = .ready∧∀ w₂,w₂.heap[l]? = some (.loop { r with state:=.busy })→aD [l] w₁ w₂ →
      body.wpIn (Fence.wide.inRound l) n P (Exit.then (fun _ w₃=>∃ r',w₃.heap[l]? = some (.loop r')∧∀ w₄,w₄.heap[l]? = some (.loop { r' with state:=.ready,pending:=none })→aD [l] w₃ w₄→R (.returned (.bool true)) w₄) (fun _ _ _=>False)) a₁ w₂) (fun _ _ _=>False)) { tmps:=tmps,defers:=[] } w) :
    RoundIn Fence.wide n P l f tmps assign body w R:=uk h
theorem tR{P:Program}{Q:Exit→Act→World→Prop}{a:Act}{w:World}{g:Operand}{ps:Array Tmp}{assign body:Code}{f:FuncId}{fn:Func}(cap:Array Value)
    (hx : a.eval g = .func (.func f) #[] cap) (hf : P.funcs[f]? = some fn) (hname : (fn.name == "runtime.NumGoroutine") = false) (hb : fn.body.isSome = true)
    (h:∀ fn0 D l w₂,w.heap.size≤D→w.heap.size≤l→D≠l→w₂.heap[D]? = some (.deferred (some []))→w₂.heap[l]? = some (.loop { state:=.ready,pending:=none,fn:=fn0,tmps:=a.tmps,params:=ps,assign:=assign,body:=body,defers:=D })→aD [] w w₂ →
      Calls P f (#[.func (.yield l) #[] #[]]++cap) w₂ (fun e w₃=>∃ v r',e = .returned v∧w₃.heap[l]? = some (.loop r')∧r'.state≠.busy∧r'.pending=none∧∀ w₄,aD [l] w₃ w₄→Q .normal { a with defers:={ target:=.collected D,args:=#[] } :: a.defers } w₄)) :
    (Code.rangeFunc g ps assign body).wp P Q a w:=by
  refine(wpIn_wide (n:=9)).1 (wpIn_rangeFunc fun fn0 _=>?_)
  have h1 : fn.name ≠ "runtime.NumGoroutine" := by simpa using hname
  obtain⟨cd,hcd⟩:=Option.isSome_iff_exists.1 hb
  refine⟨w.heap.size+1,[{ target:=.collected w.heap.size,args:=#[] }],((w.alloc (.deferred (some []))).alloc (.loop { state:=.ready,pending:=none,fn:=fn0,tmps:=a.tmps,params:=ps,assign:=assign,body:=body,defers:=w.heap.size })),
    { target:=.fn (.func f) cap,args:=#[]++#[.func (.yield (w.heap.size+1)) #[] #[]] },((w.alloc (.deferred (some []))).alloc (.loop { state:=.ready,pending:=none,fn:=fn0,tmps:=a.tmps,params:=ps,assign:=assign,body:=body,defers:=w.heap.size })),
    f,#[.func (.yield (w.heap.size+1)) #[] #[]]++cap,((w.alloc (.deferred (some []))).alloc (.loop { state:=.ready,pending:=none,fn:=fn0,tmps:=a.tmps,params:=ps,assign:=assign,body:=body,defers:=w.heap.size })),run_enterLoop_outer fn0 a.tmps ps assign body,?_,fun _ _=>trivial,?_,by simp[Fence.wide],?_⟩
  · unfold resolve
    simp only[rangeCall,hx,Deferred.ofValue,Sem.run_pure,List.map_toArray,List.map_cons,List.map_nil]
    rfl
  · simp[invoke,callFunc,hf,h1,hcd]
  · have hD:((w.alloc (.deferred (some []))).alloc (.loop { state:=.ready,pending:=none,fn:=fn0,tmps:=a.tmps,params:=ps,assign:=assign,body:=body,defers:=w.heap.size })).heap[w.heap.size]? = some (.deferred (some [])):=vZ (ed w _) _
    have hl:((w.alloc (.deferred (some []))).alloc (.loop { state:=.ready,pending:=none,fn:=fn0,tmps:=a.tmps,params:=ps,assign:=assign,body:=body,defers:=w.heap.size })).heap[w.heap.size+1]? = some (.loop { state:=.ready,pending:=none,fn:=fn0,tmps:=a.tmps,params:=ps,assign:=assign,body:=body,defers:=w.heap.size }):=by
      have:=ed (w.alloc (.deferred (some []))) (.loop { state:=.ready,pending:=none,fn:=fn0,tmps:=a.tmps,params:=ps,assign:=assign,body:=body,defers:=w.heap.size })
      simpa using this
    refine callsIn_wide.2 ((h fn0 w.heap.size (w.heap.size+1) _ (Nat.le_refl _) (by omega) (by omega) hD hl (((aD.refl [] w).alloc _).alloc _)).mono ?_)
    rintro e w₃ ⟨v,r',rfl,h3,h4,h5,h6⟩
    refine⟨_,_,run_endLoop h3 h4,?_⟩
    rw[h5]
    exact h6 _ (gh _)
theorem oM{P:Program}{f:FuncId}{fn:Func}{c:Code}{args:Array Value}{w:World}{R:Ending→World→Prop}(hf:P.funcs[f]? = some fn)(hb:fn.body=some c)
    (h:c.wp P (bodyPostM Fence.wide 9 P fn R) { tmps:=args++Array.replicate (fn.ntmps-args.size) undef,defers:=[] } w) : Calls P f args w R :=
  callsIn_wide.1 (callsIn_of_wp_marks hf hb trivial (wpIn_wide.2 h) rfl)
theorem wQ{P:Program}{fn:Func}{R:Ending→World→Prop}{a:Act}{w:World}{D:Nat}(hd:a.defers=[{ target:=.collected D,args:=#[] }])(hD:w.heap[D]? = some (.deferred (some [])))
    (h:∀ w',aD [D] w w'→∃ v,(results fn a.tmps).run P w' = .ok v w'∧R (.returned v) w') : bodyPostM Fence.wide 9 P fn R .ret a w:=by
  show LeavesInM Fence.wide 9 P fn a.tmps R a.defers .returning w
  rw[hd]
  exact⟨by simp,.inl ⟨D,_,rfl,run_takeDeferred hD,h _ (gh _)⟩⟩
theorem vj{P:Program}{fn:Func}{R:Ending→World→Prop}{a:Act}{w:World}(hd:a.defers=[])(h:∃ v,(results fn a.tmps).run P w = .ok v w∧R (.returned v) w) : bodyPostM Fence.wide 9 P fn R .ret a w:=by
  show LeavesInM Fence.wide 9 P fn a.tmps R a.defers .returning w
  rw[hd]
  exact h
open Go.RowKit
structure GF (E:Fence) (m:Nat) (P:Program) (ops:Array Oper) (Q:Exit→Act→World→Prop) (l:List Oper) (n:Nat) (D:List Deferred) (F:Fr) (w:World) : Prop where
  out:∀ a,Ag n D F a→WF E m P ops Q l a w
structure GI (E:Fence) (m:Nat) (P:Program) (c:Code) (Q:Exit→Act→World→Prop) (n:Nat) (D:List Deferred) (F:Fr) (w:World) : Prop where
  out:∀ a,Ag n D F a→c.wpIn E m P Q a w
section
variable {E:Fence}{m:Nat}{P:Program}{Q:Exit→Act→World→Prop}{n:Nat}{D:List Deferred}{F:Fr}{w:World}{ops:Array Oper}{rest l:List Oper}{d:Option Tmp}{op:Op}{t:TypeId}{s:String}{af:Array Edge}{gu:Option (Nat × Bool)}{x y c:Code}{id:Nat}
theorem yO(m:Nat)(h:GF Fence.wide m P l.toArray Q l n D F w) : GC P (.region id l.toArray false) Q n D F w:=⟨fun a ha=>zE m (h.out a ha)⟩
theorem xH(h:GF E m P l.toArray Q l n D F w) : GI E m P (.region id l.toArray false) Q n D F w:=⟨fun a ha=>yW (h.out a ha)⟩
theorem yC(h:GI E m P c (Exit.inBlock id Q) n D F w) : GI E m P (.block id c) Q n D F w:=⟨fun a ha=>wpIn_block (h.out a ha)⟩
theorem sM(h:GQ Q .normal n D F w) : GF E m P ops Q [] n D F w:=⟨fun a ha=>zb (h.out a ha)⟩
theorem zx(hE:eL E)(h:OG P ⟨d,op,t,s,af,gu⟩ n D F w (GF E m P ops Q rest n D) Q)(hw:kW ops F gu=(true,true))(hd:fC op=true) : GF E m P ops Q (⟨d,op,t,s,af,gu⟩ :: rest) n D F w :=
  ⟨fun a ha=>zk hE hd (fE ha hw) (h.out a ha _ fun F' w' a' k ha'=>k.out a' ha')⟩
theorem zr(hE:eL E){o:Oper}(h:GF E m P ops Q rest n D (pG P ops w F o) w)(hc:wD P ops w n 1 (o :: rest) F=wx P ops w 1 (o :: rest) F)(hd:fC o.op=true) : GF E m P ops Q (o :: rest) n D F w:=by
  simp only[wD,wx,List.cons.injEq,Prod.mk.injEq,Bool.and_eq_true] at hc
  obtain⟨⟨⟨h1,h2,h3⟩,h4⟩,h5⟩:=hc
  refine⟨fun a ha=>?_⟩
  cases hon:(kW ops F o.guard).2 with
  | true =>
    rw[hon] at h3 h4
    simp only[cond_true] at h3 h4
    have hst:pG P ops w F o=pt o.dst (vo P w F o) F:=by simp[pG,hon]
    rw[hst] at h
    exact zk hE hd (fE ha (Prod.ext h1 hon)) (gx (N:=o.dst) (vo P w F o) rfl (by rw[← gU ha h3];exact h4) (h.out _ (ha.put h2)))
  | false =>
    have hst:pG P ops w F o=pt o.dst undef F:=by simp[pG,hon]
    rw[hst] at h
    exact yN (N:=o.dst) hE (fE ha (Prod.ext h1 hon)) rfl (h.out _ (ha.put h2))
theorem F0(h:OG P ⟨d,op,t,s,af,gu⟩ n D F w (GF Fence.wide m P ops Q rest n D) Q)(hw:kW ops F gu=(true,true):=by kernel_rfl)(hd:fC op=true:=by kernel_rfl) : GF Fence.wide m P ops Q (⟨d,op,t,s,af,gu⟩ :: rest) n D F w:=zx kJ h hw hd
theorem kY{q:Nat}(h:OG P ⟨d,op,t,s,af,gu⟩ n D F w (GF (Fence.wide.inRound q) m P ops Q rest n D) Q)(hw:kW ops F gu=(true,true):=by kernel_rfl)(hd:fC op=true:=by kernel_rfl) : GF (Fence.wide.inRound q) m P ops Q (⟨d,op,t,s,af,gu⟩ :: rest) n D F w:=zx (jk _) h hw hd
theorem Fp{o:Oper}(h:GF Fence.wide m P ops Q rest n D (pG P ops w F o) w)(hc:wD P ops w n 1 (o :: rest) F=wx P ops w 1 (o :: rest) F:=by kernel_rfl)(hd:fC o.op=true:=by kernel_rfl) : GF Fence.wide m P ops Q (o :: rest) n D F w:=zr kJ h hc hd
theorem xL{q:Nat}{o:Oper}(h:GF (Fence.wide.inRound q) m P ops Q rest n D (pG P ops w F o) w)(hc:wD P ops w n 1 (o :: rest) F=wx P ops w 1 (o :: rest) F:=by kernel_rfl)(hd:fC o.op=true:=by kernel_rfl) : GF (Fence.wide.inRound q) m P ops Q (o :: rest) n D F w:=zr (jk _) h hc hd
theorem yZ(j:Nat)(e:Bool)(ht:e=true→GF E m P ops Q l n D ((j,.bool true) :: F) w)(hf:e=false→GF E m P ops Q l n D ((j,.bool false) :: F) w)(hv:lk F j=some (.bool e):=by kernel_rfl) : GF E m P ops Q l n D F w:=by
  refine⟨fun a ha=>?_⟩
  have key:∀ b,e=b→Ag n D ((j,.bool b) :: F) a:=fun b hb=>⟨ha.sz,ha.df,fun i v hi=>by
    rcases gv hi with⟨rfl,rfl⟩|⟨_,h2⟩
    · rw[← hb];exact ha.at_ _ _ hv
    · exact ha.at_ _ _ h2⟩
  rcases dO e with q|q
  · exact(ht q).out a (key _ q)
  · exact(hf q).out a (key _ q)
theorem Fy{x:Operand}{opds:Array Operand}{ts:Array TypeId}{q:Nat}{r:Loop}(v:Value)(p:Tmp)(hl:w.heap[q]? = some (.loop r))(hp:r.params = #[p])
    (h:RoundIn Fence.wide (m-1) P q r.fn (r.tmps.setIfInBounds p v) r.assign r.body w (fun e w'=>∃ u,e = .returned u∧GF Fence.wide m P ops Q rest n D (pt d u F) w'))
    (hw:kW ops F gu=(true,true):=by kernel_rfl) (hx:eQ F x=some (.func (.yield q) #[] #[]):=by kernel_rfl) (ha:opds.toList.map (eQ F)=[some v]:=by kernel_rfl) (hd:fM n d=true:=by kernel_rfl) :
    GF Fence.wide m P ops Q (⟨d,.call { callee:=.value x,args:=opds,argTypes:=ts },t,s,af,gu⟩ :: rest) n D F w :=
  ⟨fun a hag=>vB v p (fE hag hw) rfl rfl (hag.ev hx) (by apply Array.toList_inj.1;rw[Array.toList_map];exact jI (vs:=[v]) hag ha) hl hp (h.mono fun e w' hh=>by
    obtain⟨u,rfl,hk⟩:=hh
    exact⟨u,rfl,hk.out _ (hag.put hd)⟩)⟩
theorem pU{g:Operand}{ps:Array Tmp}{assign body:Code}{f:FuncId}(cap:Array Value)
    (h:∀ a,Ag n D F a→∀ fn0 D' q w₂,w.heap.size≤D'→w.heap.size≤q→D'≠q→w₂.heap[D']? = some (.deferred (some []))→w₂.heap[q]? = some (.loop { state:=.ready,pending:=none,fn:=fn0,tmps:=a.tmps,params:=ps,assign:=assign,body:=body,defers:=D' })→aD [] w w₂ →
      Calls P f (#[.func (.yield q) #[] #[]]++cap) w₂ (fun e w₃=>∃ v r',e = .returned v∧w₃.heap[q]? = some (.loop r')∧r'.state≠.busy∧r'.pending=none∧∀ w₄,aD [q] w₃ w₄→GQ Q .normal n ({ target:=.collected D',args:=#[] } :: D) F w₄))
    (hx:eQ F g=some (.func (.func f) #[] cap):=by kernel_rfl) (hf:xI P f=some (false,true):=by kernel_rfl) : GC P (.rangeFunc g ps assign body) Q n D F w:=by
  obtain⟨fn,h1,h2,h3⟩:=iO hf
  refine⟨fun a ha=>tR cap (ha.ev hx) h1 h2 h3 fun fn0 D' q w₂ g1 g2 g3 g4 g5 g6=>(h a ha fn0 D' q w₂ g1 g2 g3 g4 g5 g6).mono fun e w₃ hh=>?_⟩
  obtain⟨v,r',k1,k2,k3,k4,k5⟩:=hh
  exact⟨v,r',k1,k2,k3,k4,fun w₄ hu=>(k5 w₄ hu).out _ ⟨ha.sz,by rw[ha.df],ha.at_⟩⟩
theorem zg{a:Act}(ha:Ag n D F a)(p:Tmp){v:Value}(h:GI E m P c Q n [] ((p,v) :: F) w)(hp:Nat.blt p n=true:=by kernel_rfl) : c.wpIn E m P Q { tmps:=a.tmps.setIfInBounds p v,defers:=[] } w:=by
  have h0:Ag n [] F { tmps:=a.tmps,defers:=[] }:=⟨ha.sz,rfl,ha.at_⟩
  exact h.out _ (h0.put (d:=some p) hp)
theorem yy{r:Loop}{q:Nat}{c:Code}{Qb:Exit→Act→World→Prop}(h1:w.heap[q]? = some (.loop r))(h2:r.state = .ready)(h:∀ w₂,w₂.heap[q]? = some (.loop { r with state:=.busy })→aD [q] w w₂→GI E m P c Qb n D F w₂) :
    GQ (Exit.then (fun a₁ w₁=>w₁.heap[q]? = some (.loop r)∧r.state = .ready∧∀ w₂,w₂.heap[q]? = some (.loop { r with state:=.busy })→aD [q] w₁ w₂→c.wpIn E m P Qb a₁ w₂) Q) .normal n D F w:=⟨fun a ha=>⟨h1,h2,fun w₂ k1 k2=>(h w₂ k1 k2).out a ha⟩⟩
theorem yS{r:Loop}{q:Nat}{Z:World→Prop}(h1:w.heap[q]? = some (.loop r))(h:∀ w₄,w₄.heap[q]? = some (.loop { r with state:=.ready,pending:=none })→aD [q] w w₄→Z w₄) :
    GQ (Exit.then (fun _ w₃=>∃ r',w₃.heap[q]? = some (.loop r')∧∀ w₄,w₄.heap[q]? = some (.loop { r' with state:=.ready,pending:=none })→aD [q] w₃ w₄→Z w₄) Q) .normal n D F w:=⟨fun a ha=>⟨r,h1,h⟩⟩
end
section
variable {P:Program}{n:Nat}{F:Fr}{w:World}{fn:Func}{R:Ending→World→Prop}
theorem xN{f:FuncId}{c:Code}{args:List Value}{w:World}(n:Nat)(hf:P.funcs[f]? = some fn)(hb:fn.body=some c)
    (h:GC P c (bodyPostM Fence.wide 9 P fn R) n [] (un 0 args) w) (hn:args.length+(fn.ntmps-args.length)=n:=by kernel_rfl) : Calls P f args.toArray w R:=by
  subst hn
  exact oM hf hb (by simpa using h.out _ (zt (args:=args) (m:=fn.ntmps-args.length)))
theorem xK{D:Nat}(hD:w.heap[D]? = some (.deferred (some [])))(h:∀ w',aD [D] w w'→GQ (fun _ a w'=>∃ v,(results fn a.tmps).run P w' = .ok v w'∧R (.returned v) w') .ret n [{ target:=.collected D,args:=#[] }] F w') : GQ (bodyPostM Fence.wide 9 P fn R) .ret n [{ target:=.collected D,args:=#[] }] F w :=
  ⟨fun a ha=>wQ ha.df hD fun w' hu=>(h w' hu).out a ha⟩
theorem rx{D:List Deferred}{g:Nat}{cs:Array Value}{t:TypeId}{fr:Nat × Nat}(B:w.heap[g]? = some (.cells cs t fr))(u:Value)(h:R (.returned (.tuple #[.agg cs,u])) w)(hc:xJ P fn.results F=some (some (.pointer (some ⟨g,0,none⟩)),some u,some true,some cs.size):=by kernel_rfl) : GQ (fun _ a w'=>∃ v,(results fn a.tmps).run P w' = .ok v w'∧R (.returned v) w') .ret n D F w :=
  ⟨fun a ha=>⟨_,jE ha B rfl hc,h⟩⟩
theorem ry{g:Nat}{cs:Array Value}{t:TypeId}{fr:Nat × Nat}(B:w.heap[g]? = some (.cells cs t fr))(u:Value)(h:R (.returned (.tuple #[.agg cs,u])) w)(hc:xJ P fn.results F=some (some (.pointer (some ⟨g,0,none⟩)),some u,some true,some cs.size):=by kernel_rfl) : GQ (bodyPostM Fence.wide 9 P fn R) .ret n [] F w :=
  ⟨fun a ha=>vj ha.df ⟨_,jE ha B rfl hc,h⟩⟩
end
open Go.RowKit
def xu (mk:Nat→Value)(w:World)(e:Ending)(w':World) : Prop:=∃ gs,e = .returned (.tuple #[mk gs,.bool true])∧w.heap.size≤gs∧w'.heap[gs]? = some (.cells #[.int .i64 0] 3 (0,0))∧aD [] w w'
def yX (gs:Nat) : Value:=.agg #[.func (.func 252) #[] #[],.func (.func 250) #[] #[.pointer (some ⟨gs,0,none⟩)]]
def yK (gs:Nat) : Value:=.agg #[.func (.func 253) #[] #[],.func (.func 254) #[] #[]]
def yJ (gs:Nat) : Value:=.agg #[.func (.func 255) #[] #[],.func (.func 256) #[] #[]]
theorem wd{w:World}:Calls Tryz.prog 209 #[.int .i64 0,.int .u8 20] w (xu yX w):=by
 refine en 27 Tryz.func209 rfl<|sg<|L0<|bE #[.nilFunc,.nilFunc] fun m n g b c=>Pl 1<|ng<|L0<|bE #[.int .i64 0] fun d o a h i=>L0<|bX h 0 #[.int .i64 0] fun p j k=>nt<|sq<|?_
 refine go<|Pl 2<|nt<|sq<|bk<|sg<|Pl 7<|nt<|c1<|sg<|?_
 refine Pl 2<|?_
 have e:=ud i k a
 refine L0<|aW (ub e b) #[.func (.func 252) #[] #[],.func (.func 250) #[] #[.pointer (some ⟨d,0,none⟩)]] fun q l f=>Pl 1<|nt<|rt<|br<|tr<|bz l (.bool true)<|?_
 exact⟨d,rfl,(Nat.le_trans c.size a),(aX f (Ne.symm (nb (am b) lr a)) j),(ud c (uz e f) g)⟩
theorem vX{w:World}:Calls Tryz.prog 209 #[.int .i64 1,.int .u8 20] w (xu yK w):=by
 refine en 27 Tryz.func209 rfl<|sg<|L0<|bE #[.nilFunc,.nilFunc] fun m n f b c=>Pl 1<|ng<|L0<|bE #[.int .i64 0] fun g o a h i=>L0<|bX h 0 #[.int .i64 0] fun p j k=>nt<|sq<|?_
 refine go<|Pl 2<|nt<|sq<|bk<|sg<|Pl 7<|nt<|c0<|sg<|?_
 refine Pl 3<|nt<|c1<|sg<|Pl 1<|?_
 have d:=ud i k a
 refine L0<|aW (ub d b) #[.func (.func 253) #[] #[],.func (.func 254) #[] #[]] fun q l e=>Pl 1<|nt<|rt<|br<|tr<|bz l (.bool true)<|?_
 exact⟨g,rfl,(Nat.le_trans c.size a),(aX e (Ne.symm (nb (am b) lr a)) j),(ud c (uz d e) f)⟩
theorem v6{dir:Int}{w:World}:Calls Tryz.prog 209 #[.int .i64 dir,.int .u8 21] w (xu yJ w):=by
 refine en 27 Tryz.func209 rfl<|sg<|L0<|bE #[.nilFunc,.nilFunc] fun m n f b c=>Pl 1<|ng<|L0<|bE #[.int .i64 0] fun g o a h i=>L0<|bX h 0 #[.int .i64 0] fun p j k=>nt<|sq<|?_
 refine go<|Pl 2<|nt<|sq<|bk<|sg<|Pl 7<|nt<|c0<|sg<|?_
 refine Pl 3<|nt<|c0<|sg<|Pl 3<|nt<|c1<|sg<|Pl 1<|?_
 have d:=ud i k a
 refine L0<|aW (ub d b) #[.func (.func 255) #[] #[],.func (.func 256) #[] #[]] fun q l e=>Pl 1<|nt<|rt<|br<|tr<|bz l (.bool true)<|?_
 exact⟨g,rfl,(Nat.le_trans c.size a),(aX e (Ne.symm (nb (am b) lr a)) j),(ud c (uz d e) f)⟩
theorem o7{dir x:Int}{w:World}(n1:(x==20)=false)(n2:(x==21)=false) : Calls Tryz.prog 209 #[.int .i64 dir,.int .u8 x] w (bP (.tuple #[.agg #[.nilFunc,.nilFunc],.bool false]) w):=by
 refine en 27 Tryz.func209 rfl<|sg<|L0<|bE #[.nilFunc,.nilFunc] fun k l b c d=>Pl 1<|ng<|L0<|bE #[.int .i64 0] fun m n e f g=>L0<|bX f 0 #[.int .i64 0] fun o p h=>nt<|sq<|?_
 refine go<|Pl 2<|nt<|sq<|bk<|sg<|Pl 3<|sy 12 n1<|Pl 4<|nt<|c0<|?_
 refine sg<|Pl 3<|nt<|cf n1<|sg<|Pl 3<|nt<|cf n2<|sk<|bn<|?_
 refine tn<|sg<|Pl 1<|?_
 have a:=ud g h e
 refine L0<|aW (ub a c) #[.nilFunc,.nilFunc] fun q i j=>Pl 1<|nt<|rt<|bz i (.bool false)<|?_
 exact⟨rfl,(ud d (uz a j) b)⟩
theorem kH{gb:Nat}{f:Fn}{x y:Array Value}{w:World}:Calls Tryz.prog 210 #[.pointer (some ⟨gb,0,none⟩),.func f x y] w (fun e w'=>∃ b1 b2,e = .returned (.func (.func 257) #[] #[.pointer (some ⟨b1,0,none⟩),.pointer (some ⟨b2,0,none⟩)])∧w.heap.size≤b1∧w.heap.size≤b2∧b1≠b2 ∧
      w'.heap[b1]? = some (.cells #[.pointer (some ⟨gb,0,none⟩)] 113 (0,0))∧w'.heap[b2]? = some (.cells #[.func f x y] 212 (0,0))∧aD [] w w'):=by
 refine en 6 Tryz.func210 rfl<|sg<|L0<|dq #[.pointer (some ⟨gb,0,none⟩)] fun a k i b c=>L0<|dq #[.func f x y] fun d l g j h=>Pl 1<|ng<|Pl 2<|nt<|rt<|?_
 refine rr (.func (.func 257) #[] #[.pointer (some ⟨a,0,none⟩),.pointer (some ⟨d,0,none⟩)])<|?_
 exact⟨a,d,rfl,i,(Nat.le_trans c.size g),(nb (am b) lr g),(ub h b),j,(aF c h)⟩
theorem rR{g gs:Nat}{s:Int}{C:ah}{w:World}(hC:aj w g C)(hS:w.heap[gs]? = some (.cells #[.int .i64 s] 3 (0,0)))(hne:g≠gs)(hs:0≤s∧s≤1000000000000) :
    Calls Tryz.prog 250 #[.pointer (some ⟨g,0,none⟩),.pointer (some ⟨gs,0,none⟩)] w (fun e w'=>∃ A c,e = .returned (.agg #[.int .u16 (aN C).file,.int .u16 (aN C).record,.int .u16 (aN C).count,.slice A (aN C).words.length c])∧e8 true w' (.slice A (aN C).words.length c) (aN C).words∧dx (aN C).file∧dx (aN C).record∧dx (aN C).count∧aj w' g (eH s C)∧w'.heap[gs]? = some (.cells #[.int .i64 (et s C)] 3 (0,0))∧aD [g,gs] w w'):=by
 refine en 19 Tryz.func250 rfl<|sg<|L0<|bE #[.int .u16 0,.int .u16 0,.int .u16 0,.slice none 0 0] fun S T b j d=>ng<|Pl 1<|?_
 refine L0<|Oc<|xm (o9 (aj.old hC d)) fun k l U H I J K m f=>?_
 obtain⟨V,W⟩:=I
 obtain⟨X,Y⟩:=J
 obtain⟨Z,a0⟩:=K
 refine L0<|bE #[.int .u16 0,.int .u16 0,.int .u16 0,.slice none 0 0] fun a1 a2 h L M=>L0<|aW L #[.int .u16 ((aN C).file),.int .u16 ((aN C).record),.int .u16 ((aN C).count),.slice k ((aN C).words.length) l] fun a3 n N=>ng<|?_
 have o:=ud M N h
 have p:=aF f o
 have q:=aX (uz d p) (Ne.symm hne) hS
 refine L0<|aU q 0<|Pl 1<|L0<|aU n 2<|L0<|Oi ((aN C).count)<|L0<|Oi (2*((aN C).count))<|L0<|Oi (2+(2*((aN C).count)))<|L0<|Oi (s+(2+(2*((aN C).count))))<|L0<|bX q 0 #[.int .i64 (s+(2+(2*((aN C).count))))] fun a4 r t=>ng<|Pl 1<|L0<|aU r 0<|?_
 refine Pl 1<|?_
 have u:=uz o t
 have a:=uz d f
 have v:=aX a (Ne.symm hne) hS
 refine L0<|Oc<|m2 (bf ((decide ((s+(2+(2*((aN C).count))))≤245))) 5 (aj.upd m u (aa hne ay) (ak (aM v (by decide)) aG))) fun a5 O y=>?_
 refine ab O fun x47 P Q=>?_
 refine ng<|?_
 have z:=us t y
 refine L0<|ci (aD.blk z (aa (Ne.symm (nb (am hS) a.size h)) (aa (Ne.symm (nb (aj.lt hC) a.size h)) ay)) n)<|?_
 have i:=nb (aj.lt hC) lr b
 have B:=nb (am hS) lr b
 have D:=aD.blk (ui p z) (aa (Ne.symm B) (aa (Ne.symm i) ay)) j
 refine L0<|aW D #[.int .u16 ((aN C).file),.int .u16 ((aN C).record),.int .u16 ((aN C).count),.slice k ((aN C).words.length) l] fun a6 R E=>nt<|rt<|xD R<|?_
 subst P
 have F:=us y E
 have G:=us u F
 exact⟨_,_,rfl,(e8.upd' H G (ak (aM v (by decide)) (ak (aj.safe m _ (by decide)) (ak (aM (aX f (Ne.symm i) j) (by decide)) aG)))),aB (x:=(aN C).file) (by omega),aB (x:=(aN C).record) (by omega),aB (x:=(aN C).count) (by omega),(aj.upd Q E (aa i ay) (ak (aM D (by decide)) aG)),(aD.blk F (aa (Ne.symm hne) (aa B ay)) r),(ut (aD.mono (S':=[g,gs]) a (ac im au)) G (ac im (ac im (ac (nr b) au))))⟩
def fJ (c:Int)(v:Value) : Array Value:=#[.int .u8 c,.int .u8 0,.int .u16 0,.int .u16 0,.int .u16 0,.int .u16 0,.int .u16 0,.int .u16 0,.int .u16 0,.int .u16 0,.int .u16 0,.int .u16 0,gP,gP,gP,v,.int .u8 0,.int .u8 0,.int .u8 0,.int .u8 0,.int .u8 0,gP]
structure JR (w0:World) (gb gs gm l:Nat) (c:Int) (r:Loop) (C:ah) (s:Int) (L:List dt) (A:Option Addr) (cp:Nat) (W:World) : Prop where
  u:aD [gb,gs,gm,l] w0 W
  hC:aj W gb C
  hS:W.heap[gs]? = some (.cells #[.int .i64 s] 3 (0,0))
  hm:W.heap[gm]? = some (.cells (fJ c (.slice A L.length cp)) 30 (0,0))
  ho:be w0.heap.size 109 4 (bq true) W (.slice A L.length cp) L
  hl:W.heap[l]? = some (.loop r)
def cU (s:Int)(C:ah) : Int × ah × dt:=(et s C,eH s C,aN C)
def bH (s:Int)(C:ah) : Int × ah × dt:=(s,eW C,eF C)
def cT (s:Int)(C:ah) : Int × ah × dt:=(s,iS C,iq C)
def aP (one:Int→ah→Int × ah × dt) : Nat→Int→ah→List dt→ah × List dt
  | 0,_,C,L=>(C,L)
  | n+1,s,C,L =>
    if decide (0<(C.l.length:Int))&&C.e==0 then
      (if (one s C).2.1.e != 0 then ((one s C).2.1,L) else aP one n (one s C).1 (one s C).2.1 (L++[(one s C).2.2]))
    else (C,L)
theorem ic(C:ah)(n:Int) : (C.bytesC n).l.length≤C.l.length:=by
  unfold ah.bytesC
  split
  · unfold ah.need
    split<;>simp
  · simp
theorem kA(C:ah)(h:0<C.l.length) : (C.bytesC 1).l.length<C.l.length:=by
  unfold ah.bytesC
  split
  · unfold ah.need
    split<;>simpa using h
  · simp
    omega
theorem ey(C:ah)(b:Bool)(e:Int) : (C.need b e).l.length=C.l.length:=by
  unfold ah.need
  split<;>rfl
theorem eN(C:ah)(n:Int) : (C.wordsC n).l.length≤C.l.length:=by
  unfold ah.wordsC
  split<;>exact ic ..
theorem ny(C:ah)(h:0<C.l.length) : (dF C).l.length<C.l.length:=by
  have h1:(iw C).l.length<C.l.length:=by unfold iw;rw[ey];exact kA C h
  have h2:(iy C).l.length≤(iw C).l.length:=by unfold iy;rw[ey];exact eN ..
  have h3:(nk C).l.length≤(iy C).l.length:=by unfold nk;rw[ey];exact eN ..
  have h4:(dF C).l.length≤(nk C).l.length:=by unfold dF;rw[ey];exact eN ..
  omega
theorem qQ(s:Int)(C:ah)(h:0<C.l.length) : (cU s C).2.1.l.length<C.l.length:=by
  show(eH s C).l.length<_
  unfold eH
  rw[ey]
  exact ny C h
theorem kz(s:Int)(C:ah)(h:0<C.l.length) : (bH s C).2.1.l.length<C.l.length:=by
  show(eW C).l.length<_
  have h1:(i6 C).l.length<C.l.length:=by unfold i6;rw[ey];exact kA C h
  have h2:(ib C).l.length≤(i6 C).l.length:=by unfold ib;rw[ey];exact ic ..
  have h3:(eW C).l.length≤(ib C).l.length:=by unfold eW;exact eN ..
  omega
theorem qs(s:Int)(C:ah)(h:0<C.l.length) : (cT s C).2.1.l.length<C.l.length:=by
  show(iS C).l.length<_
  have h1:=ny C h
  have h2:(nR C).l.length=(dF C).l.length:=by unfold nR;rw[ey]
  have h3:(iS C).l.length≤(nR C).l.length:=by unfold iS;exact eN ..
  omega
theorem gy(one:Int→ah→Int × ah × dt)(n:Nat)(s:Int)(C:ah)(L:List dt)(h:(decide (0<(C.l.length:Int))&&C.e==0)=false) : aP one n s C L=(C,L):=by
  cases n with
  | zero=>rfl
  | succ n=>simp only[aP,h,Bool.false_eq_true,if_false]
open Go.RowKit
def dS (fn0:FuncId)(tm:Array Value)(asg bdy:Code)(D:Nat) : Loop:={ state:=.ready,pending:=none,fn:=fn0,tmps:=tm,params:=#[53],assign:=asg,body:=bdy,defers:=D }
def pV (w:World)(gb gs gm l:Nat)(c:Int)(R:Loop) : Prop:=∀ (W:World)(C:ah)(s:Int)(L:List dt)(A:Option Addr)(cp:Nat)(x:dt)(Ax:Option Addr)(cx:Nat),JR w gb gs gm l c R C s L A cp W→e8 true W (.slice Ax x.words.length cx) x.words→dx x.file→dx x.record→dx x.count→L.length≤1048576 →
    RoundIn Fence.wide 8 Tryz.prog l R.fn (R.tmps.setIfInBounds 53 (.agg #[.int .u16 x.file,.int .u16 x.record,.int .u16 x.count,.slice Ax x.words.length cx])) R.assign R.body W (fun e W'=>e = .returned (.bool true)∧W.heap.size≤W'.heap.size∧∃ A2 c2,JR w gb gs gm l c R C s (L++[x]) A2 c2 W')
theorem xy{w:World}{gb gs gm l b1 b2 fn0 D:Nat}{tm:Array Value}{asg bdy:Code}{c:Int}{C0:ah}(hC:aj w gb C0)(hS:w.heap[gs]? = some (.cells #[.int .i64 0] 3 (0,0)))(hm:w.heap[gm]? = some (.cells (fJ c gP) 30 (0,0)))
    (hl:w.heap[l]? = some (.loop (dS fn0 tm asg bdy D))) (hb1:w.heap[b1]? = some (.cells #[.pointer (some ⟨gb,0,none⟩)] 113 (0,0))) (hb2:w.heap[b2]? = some (.cells #[.func (.func 250) #[] #[.pointer (some ⟨gs,0,none⟩)]] 212 (0,0)))
    (n1:gb≠gs) (n2:gb≠gm) (n3:gb≠l) (n4:gs≠gm) (n5:gs≠l) (n6:gm≠l) (m1:b1≠gb) (m2:b1≠gs) (m3:b1≠gm) (m4:b1≠l) (k1:b2≠gb) (k2:b2≠gs) (k3:b2≠gm) (k4:b2≠l) (hround:pV w gb gs gm l c (dS fn0 tm asg bdy D)) :
    Calls Tryz.prog 257 #[.func (.yield l) #[] #[],.pointer (some ⟨b1,0,none⟩),.pointer (some ⟨b2,0,none⟩)] w (fun e W=>e = .returned (.tuple #[])∧∃ s A cp,JR w gb gs gm l c (dS fn0 tm asg bdy D) (aP cU C0.l.length 0 C0 []).1 s (aP cU C0.l.length 0 C0 []).2 A cp W):=by
 have hlen:=hC.len
 refine en 25 Tryz.func257 rfl<|bk<|?_
 refine hY (fun x=>[(0,.func (.yield l) #[] #[]),(1,.pointer (some ⟨b1,0,none⟩)),(2,.pointer (some ⟨b2,0,none⟩))]) (fun(x:Nat × ah × Int × List dt × Option Addr × Nat) w'=>aD [gb,gs,gm,l] w w'∧aj w' gb x.2.1∧w'.heap[gs]? = some (.cells #[.int .i64 x.2.2.1] 3 (0,0))∧w'.heap[gm]? = some (.cells (fJ c (.slice x.2.2.2.2.1 x.2.2.2.1.length x.2.2.2.2.2)) 30 (0,0))∧w'.heap[l]? = some (.loop (dS fn0 tm asg bdy D))∧be w.heap.size 109 4 (bq true) w' (.slice x.2.2.2.2.1 x.2.2.2.1.length x.2.2.2.2.2) x.2.2.2.1∧(aP cU x.1 x.2.2.1 x.2.1 x.2.2.2.1=aP cU C0.l.length 0 C0 [])∧(x.2.1.l.length≤x.1)∧(0≤x.2.2.1∧x.2.2.1≤131074*(x.2.2.2.1.length:Int))∧(x.2.2.2.1.length+x.1≤C0.l.length)) (fun x=>x.1) (C0.l.length,C0,0,[],none,0) ⟨aD.refl _ _,hC,hS,hm,hl,be.nil ..,rfl,(Nat.le_refl _),(by(try dsimp only);omega),(by(try dsimp only);(try simp only[List.length_nil]);omega)⟩ ?_
 rintro⟨n,C,s,L,A,cp⟩ h ⟨m,J,M,N,O,P,Q,R,S,T⟩
 refine i1 [(0,.func (.yield l) #[] #[]),(1,.pointer (some ⟨b1,0,none⟩)),(2,.pointer (some ⟨b2,0,none⟩))] ?_
 have b:aj h gb C:=J
 have o:h.heap[gs]? = some (.cells #[.int .i64 s] 3 (0,0)):=M
 have t:h.heap[gm]? = some (.cells (fJ c (.slice A L.length cp)) 30 (0,0)):=N
 have v:h.heap[l]? = some (.loop (dS fn0 tm asg bdy D)):=O
 have d:be w.heap.size 109 4 (bq true) h (.slice A L.length cp) L:=P
 have ae:aP cU n s C L=aP cU C0.l.length 0 C0 []:=Q
 have af:C.l.length≤n:=R
 have ag:0≤s∧s≤131074*(L.length:Int):=S
 have an:L.length+n≤C0.l.length:=T
 have hrec:aP cU n s C L=aP cU C0.l.length 0 C0 []:=by assumption
 refine sq<|sg<|?_
 have p:=aD.blk m (aa m1 (aa m2 (aa m3 (aa m4 ay)))) hb1
 refine L0<|aU p 0<|L0<|Oc<|mq (dV b)<|?_
 have ao:=aj.len b
 refine Pl 2<|cu 4 [8] 12 (((decide (0<((C.l.length:Nat) : Int)))&&(C.e==0))) (fun K B=>?_) ?_
 refine bl 8 ((decide (0<((C.l.length:Nat) : Int)))) (fun i=>?_) (fun i=>?_)
 have U:=of_decide_eq_true i
 refine L1<|aU p 0<|L1<|Oc<|mq (bD b)<|?_
 have ap:=aj.len b
 exact Pl 2<|ce B (C.e==0) (by rw[i];rfl)
 have U:=of_decide_eq_false i
 exact Pl 4<|ce B false (by rw[i];rfl)
 refine nt<|cb (((decide (0<((C.l.length:Nat) : Int)))&&(C.e==0))) (fun f=>?_) (fun f=>?_)
 have y:=(aR f).1
 have z:=(aR f).2
 have ar:=of_decide_eq_true y
 have av:=al z
 refine bi<|bk<|sg<|?_
 refine L0<|aU (aD.blk m (aa k1 (aa k2 (aa k3 (aa k4 ay)))) hb2) 0<|L0<|aU p 0<|L0<|fN #[] #[.pointer (some ⟨gs,0,none⟩)] (args:=#[.pointer (some ⟨gb,0,none⟩),.pointer (some ⟨gs,0,none⟩)])<|zF (rR (s:=s) b o n1 (by omega)) fun E F aw V X Y Z a0 G a1=>?_
 have az:et s C=s+(2+2*(aN C).count):=rfl
 obtain⟨aC,aE⟩:=X
 obtain⟨aH,aI⟩:=Y
 obtain⟨aJ,aK⟩:=Z
 refine L0<|bE #[.int .u16 0,.int .u16 0,.int .u16 0,.slice none 0 0] fun aL aO a2 a3 a4=>L0<|aW a3 #[.int .u16 ((aN C).file),.int .u16 ((aN C).record),.int .u16 ((aN C).count),.slice E ((aN C).words.length) F] fun a5 a6 a7=>nt<|sq<|yO 9<|?_
 have j:=ud a4 a7 a2
 have a:=aF a1 j
 refine F0<|aU (aD.blk a (aa m1 (aa m2 ay)) p) 0<|?_
 have q:=aj.old a0 j
 refine F0<|Oc<|mq (bD q)<|?_
 have aQ:=aj.len q
 refine Fp<|Fp<|?_
 have H:=ut m a (ac im (ac im au))
 refine yZ 19 ((((eH s C).e)!=0)) (fun k=>?_) (fun k=>?_)
 have a8:=aq k
 refine Fp<|Fp<|Fp<|Fp<|Fp<|sM<|tn<|c1<|rt<|br<|tr<|br<|rr (.tuple #[])<|?_
 have hfin:aP cU C0.l.length 0 C0 []=((eH s C),L):=by
   rw[← hrec]
   rw[show n=(n-1)+1 from by omega]
   simp only[aP,cU,f,y,z,k,bs,if_true,if_false,decide_true,decide_false,reduceIte]
 refine⟨rfl,(et s C),A,cp,?_⟩
 rw[hfin]
 exact⟨H,q,(ub j G),(aD.blk a (aa (Ne.symm n2) (aa (Ne.symm n4) ay)) t),(ax d a (fun x hx=>(aa (fun e=>(aA (aj.lt hC) lr d) (e▸hx)) (aa (fun e=>(aA (am hS) lr d) (e▸hx)) ay))) (bq.upd16 a (ak (aj.safe b _ (by decide)) (ak (aM o (by decide)) aG)))),(aD.blk a (aa (Ne.symm n3) (aa (Ne.symm n5) ay)) v)⟩
 have a8:=ai k
 refine Fp<|F0<|ci a6<|?_
 have I:=aD.blk a (aa (Ne.symm n3) (aa (Ne.symm n5) ay)) v
 have a9:JR w gb gs gm l c (dS fn0 tm asg bdy D) (eH s C) (et s C) L A cp a5:=⟨H,q,(ub j G),(aD.blk a (aa (Ne.symm n2) (aa (Ne.symm n4) ay)) t),(ax d a (fun x hx=>(aa (fun e=>(aA (aj.lt hC) lr d) (e▸hx)) (aa (fun e=>(aA (am hS) lr d) (e▸hx)) ay))) (bq.upd16 a (ak (aj.safe b _ (by decide)) (ak (aM o (by decide)) aG)))),I⟩
 refine Fy (r:=dS fn0 tm asg bdy D) (.agg #[.int .u16 ((aN C).file),.int .u16 ((aN C).record),.int .u16 ((aN C).count),.slice E ((aN C).words.length) F]) 53 I rfl<|?_
 refine RoundIn.mono (hround _ _ _ _ _ _ (aN C) _ _ a9 (e8.upd' V j aG) (aB (by omega)) (aB (by omega)) (aB (by omega)) (by omega)) ?_
 rintro _ aS ⟨rfl,aT,ab,ad,g⟩
 refine⟨_,rfl,?_⟩
 exact Fp<|Fp<|sM<|tn<|c0<|sk<|bn<|fF ((n-1),(eH s C),(et s C),(L++[(aN C)]),ab,ad) ⟨g.u,g.hC,g.hS,g.hm,g.hl,g.ho,(by(try dsimp only);rw[← hrec,show n=(n-1)+1 from by omega];simp only[aP,cU,f,y,z,k,bs,if_true,if_false,decide_true,decide_false,Nat.add_sub_cancel,reduceIte]),(by(try dsimp only);have hd:=qQ s C (by omega);have iy:(cU s C).2.1.l.length=(eH s C).l.length:=rfl;omega),(by(try dsimp only);simp only[List.length_append,List.length_cons,List.length_nil];omega),(by(try dsimp only);simp only[List.length_append,List.length_cons,List.length_nil];omega)⟩ (by omega)
 refine xt<|tx<|tx<|bx<|rm (.tuple #[])<|?_
 have hfin:aP cU C0.l.length 0 C0 []=(C,L):=by
   rw[← hrec]
   exact gy _ _ _ _ _ (by simp only[f,bs,if_true,if_false,decide_true,decide_false])
 refine⟨rfl,s,A,cp,?_⟩
 rw[hfin]
 exact⟨m,b,o,t,d,v⟩
theorem wS{w:World}{gb gs gm l b1 b2 fn0 D:Nat}{tm:Array Value}{asg bdy:Code}{c:Int}{C0:ah}(hC:aj w gb C0)(hS:w.heap[gs]? = some (.cells #[.int .i64 0] 3 (0,0)))(hm:w.heap[gm]? = some (.cells (fJ c gP) 30 (0,0)))
    (hl:w.heap[l]? = some (.loop (dS fn0 tm asg bdy D))) (hb1:w.heap[b1]? = some (.cells #[.pointer (some ⟨gb,0,none⟩)] 113 (0,0))) (hb2:w.heap[b2]? = some (.cells #[.func (.func 254) #[] #[]] 212 (0,0)))
    (n1:gb≠gs) (n2:gb≠gm) (n3:gb≠l) (n4:gs≠gm) (n5:gs≠l) (n6:gm≠l) (m1:b1≠gb) (m2:b1≠gs) (m3:b1≠gm) (m4:b1≠l) (k1:b2≠gb) (k2:b2≠gs) (k3:b2≠gm) (k4:b2≠l) (hround:pV w gb gs gm l c (dS fn0 tm asg bdy D)) :
    Calls Tryz.prog 257 #[.func (.yield l) #[] #[],.pointer (some ⟨b1,0,none⟩),.pointer (some ⟨b2,0,none⟩)] w (fun e W=>e = .returned (.tuple #[])∧∃ s A cp,JR w gb gs gm l c (dS fn0 tm asg bdy D) (aP bH C0.l.length 0 C0 []).1 s (aP bH C0.l.length 0 C0 []).2 A cp W):=by
 have hlen:=hC.len
 refine en 25 Tryz.func257 rfl<|bk<|?_
 refine hY (fun x=>[(0,.func (.yield l) #[] #[]),(1,.pointer (some ⟨b1,0,none⟩)),(2,.pointer (some ⟨b2,0,none⟩))]) (fun(x:Nat × ah × Int × List dt × Option Addr × Nat) w'=>aD [gb,gs,gm,l] w w'∧aj w' gb x.2.1∧w'.heap[gs]? = some (.cells #[.int .i64 x.2.2.1] 3 (0,0))∧w'.heap[gm]? = some (.cells (fJ c (.slice x.2.2.2.2.1 x.2.2.2.1.length x.2.2.2.2.2)) 30 (0,0))∧w'.heap[l]? = some (.loop (dS fn0 tm asg bdy D))∧be w.heap.size 109 4 (bq true) w' (.slice x.2.2.2.2.1 x.2.2.2.1.length x.2.2.2.2.2) x.2.2.2.1∧(aP bH x.1 x.2.2.1 x.2.1 x.2.2.2.1=aP bH C0.l.length 0 C0 [])∧(x.2.1.l.length≤x.1)∧(0≤x.2.2.1∧x.2.2.1≤131074*(x.2.2.2.1.length:Int))∧(x.2.2.2.1.length+x.1≤C0.l.length)) (fun x=>x.1) (C0.l.length,C0,0,[],none,0) ⟨aD.refl _ _,hC,hS,hm,hl,be.nil ..,rfl,(Nat.le_refl _),(by(try dsimp only);omega),(by(try dsimp only);(try simp only[List.length_nil]);omega)⟩ ?_
 rintro⟨n,C,s,L,A,cp⟩ g ⟨k,I,J,M,N,O,P,Q,R,S⟩
 refine i1 [(0,.func (.yield l) #[] #[]),(1,.pointer (some ⟨b1,0,none⟩)),(2,.pointer (some ⟨b2,0,none⟩))] ?_
 have b:aj g gb C:=I
 have p:g.heap[gs]? = some (.cells #[.int .i64 s] 3 (0,0)):=J
 have q:g.heap[gm]? = some (.cells (fJ c (.slice A L.length cp)) 30 (0,0)):=M
 have t:g.heap[l]? = some (.loop (dS fn0 tm asg bdy D)):=N
 have h:be w.heap.size 109 4 (bq true) g (.slice A L.length cp) L:=O
 have ac:aP bH n s C L=aP bH C0.l.length 0 C0 []:=P
 have ad:C.l.length≤n:=Q
 have ae:0≤s∧s≤131074*(L.length:Int):=R
 have af:L.length+n≤C0.l.length:=S
 have hrec:aP bH n s C L=aP bH C0.l.length 0 C0 []:=by assumption
 refine sq<|sg<|?_
 have m:=aD.blk k (aa m1 (aa m2 (aa m3 (aa m4 ay)))) hb1
 refine L0<|aU m 0<|L0<|Oc<|mq (dV b)<|?_
 have ag:=aj.len b
 refine Pl 2<|cu 4 [8] 12 (((decide (0<((C.l.length:Nat) : Int)))&&(C.e==0))) (fun K B=>?_) ?_
 refine bl 8 ((decide (0<((C.l.length:Nat) : Int)))) (fun i=>?_) (fun i=>?_)
 have T:=of_decide_eq_true i
 refine L1<|aU m 0<|L1<|Oc<|mq (bD b)<|?_
 have am:=aj.len b
 exact Pl 2<|ce B (C.e==0) (by rw[i];rfl)
 have T:=of_decide_eq_false i
 exact Pl 4<|ce B false (by rw[i];rfl)
 refine nt<|cb (((decide (0<((C.l.length:Nat) : Int)))&&(C.e==0))) (fun d=>?_) (fun d=>?_)
 have v:=(aR d).1
 have y:=(aR d).2
 have an:=of_decide_eq_true v
 have ao:=al y
 refine bi<|bk<|sg<|?_
 refine L0<|aU (aD.blk k (aa k1 (aa k2 (aa k3 (aa k4 ay)))) hb2) 0<|L0<|aU m 0<|L0<|fN #[] #[] (args:=#[.pointer (some ⟨gb,0,none⟩)])<|xm (rp b) fun E F ap U V X Y Z a0=>?_
 obtain⟨ar,au⟩:=V
 obtain⟨av,aw⟩:=X
 obtain⟨az,aC⟩:=Y
 refine L0<|bE #[.int .u16 0,.int .u16 0,.int .u16 0,.slice none 0 0] fun aE aH a1 a2 a3=>L0<|aW a2 #[.int .u16 ((eF C).file),.int .u16 ((eF C).record),.int .u16 ((eF C).count),.slice E ((eF C).words.length) F] fun a4 a5 a6=>nt<|sq<|yO 9<|?_
 have z:=ud a3 a6 a1
 have a:=aF a0 z
 refine F0<|aU (aX a m1 m) 0<|?_
 have o:=aj.old Z z
 refine F0<|Oc<|mq (bD o)<|?_
 have aI:=aj.len o
 refine Fp<|Fp<|?_
 have G:=u1 k a im
 refine yZ 19 ((((eW C).e)!=0)) (fun j=>?_) (fun j=>?_)
 have a7:=aq j
 refine Fp<|Fp<|Fp<|Fp<|Fp<|sM<|tn<|c1<|rt<|br<|tr<|br<|rr (.tuple #[])<|?_
 have hfin:aP bH C0.l.length 0 C0 []=((eW C),L):=by
   rw[← hrec]
   rw[show n=(n-1)+1 from by omega]
   simp only[aP,bH,d,v,y,j,bs,if_true,if_false,decide_true,decide_false,reduceIte]
 refine⟨rfl,s,A,cp,?_⟩
 rw[hfin]
 exact⟨G,o,(aX a (Ne.symm n1) p),(aX a (Ne.symm n2) q),(ax h a (fun x hx=>(aa (fun e=>(aA (aj.lt hC) lr h) (e▸hx)) ay)) (bq.upd16 a (ak (aj.safe b _ (by decide)) aG))),(aX a (Ne.symm n3) t)⟩
 have a7:=ai j
 refine Fp<|F0<|ci a5<|?_
 have H:=aX a (Ne.symm n3) t
 have a8:JR w gb gs gm l c (dS fn0 tm asg bdy D) (eW C) s L A cp a4:=⟨G,o,(aX a (Ne.symm n1) p),(aX a (Ne.symm n2) q),(ax h a (fun x hx=>(aa (fun e=>(aA (aj.lt hC) lr h) (e▸hx)) ay)) (bq.upd16 a (ak (aj.safe b _ (by decide)) aG))),H⟩
 refine Fy (r:=dS fn0 tm asg bdy D) (.agg #[.int .u16 ((eF C).file),.int .u16 ((eF C).record),.int .u16 ((eF C).count),.slice E ((eF C).words.length) F]) 53 H rfl<|?_
 refine RoundIn.mono (hround _ _ _ _ _ _ (eF C) _ _ a8 (e8.upd' U z aG) (aB (by omega)) (aB (by omega)) (aB (by omega)) (by omega)) ?_
 rintro _ aJ ⟨rfl,aK,a9,ab,f⟩
 refine⟨_,rfl,?_⟩
 exact Fp<|Fp<|sM<|tn<|c0<|sk<|bn<|fF ((n-1),(eW C),s,(L++[(eF C)]),a9,ab) ⟨f.u,f.hC,f.hS,f.hm,f.hl,f.ho,(by(try dsimp only);rw[← hrec,show n=(n-1)+1 from by omega];simp only[aP,bH,d,v,y,j,bs,if_true,if_false,decide_true,decide_false,Nat.add_sub_cancel,reduceIte]),(by(try dsimp only);have hd:=kz s C (by omega);have iy:(bH s C).2.1.l.length=(eW C).l.length:=rfl;omega),(by(try dsimp only);simp only[List.length_append,List.length_cons,List.length_nil];omega),(by(try dsimp only);simp only[List.length_append,List.length_cons,List.length_nil];omega)⟩ (by omega)
 refine xt<|tx<|tx<|bx<|rm (.tuple #[])<|?_
 have hfin:aP bH C0.l.length 0 C0 []=(C,L):=by
   rw[← hrec]
   exact gy _ _ _ _ _ (by simp only[d,bs,if_true,if_false,decide_true,decide_false])
 refine⟨rfl,s,A,cp,?_⟩
 rw[hfin]
 exact⟨k,b,p,q,h,t⟩
theorem wV{w:World}{gb gs gm l b1 b2 fn0 D:Nat}{tm:Array Value}{asg bdy:Code}{c:Int}{C0:ah}(hC:aj w gb C0)(hS:w.heap[gs]? = some (.cells #[.int .i64 0] 3 (0,0)))(hm:w.heap[gm]? = some (.cells (fJ c gP) 30 (0,0)))
    (hl:w.heap[l]? = some (.loop (dS fn0 tm asg bdy D))) (hb1:w.heap[b1]? = some (.cells #[.pointer (some ⟨gb,0,none⟩)] 113 (0,0))) (hb2:w.heap[b2]? = some (.cells #[.func (.func 256) #[] #[]] 212 (0,0)))
    (n1:gb≠gs) (n2:gb≠gm) (n3:gb≠l) (n4:gs≠gm) (n5:gs≠l) (n6:gm≠l) (m1:b1≠gb) (m2:b1≠gs) (m3:b1≠gm) (m4:b1≠l) (k1:b2≠gb) (k2:b2≠gs) (k3:b2≠gm) (k4:b2≠l) (hround:pV w gb gs gm l c (dS fn0 tm asg bdy D)) :
    Calls Tryz.prog 257 #[.func (.yield l) #[] #[],.pointer (some ⟨b1,0,none⟩),.pointer (some ⟨b2,0,none⟩)] w (fun e W=>e = .returned (.tuple #[])∧∃ s A cp,JR w gb gs gm l c (dS fn0 tm asg bdy D) (aP cT C0.l.length 0 C0 []).1 s (aP cT C0.l.length 0 C0 []).2 A cp W):=by
 have hlen:=hC.len
 refine en 25 Tryz.func257 rfl<|bk<|?_
 refine hY (fun x=>[(0,.func (.yield l) #[] #[]),(1,.pointer (some ⟨b1,0,none⟩)),(2,.pointer (some ⟨b2,0,none⟩))]) (fun(x:Nat × ah × Int × List dt × Option Addr × Nat) w'=>aD [gb,gs,gm,l] w w'∧aj w' gb x.2.1∧w'.heap[gs]? = some (.cells #[.int .i64 x.2.2.1] 3 (0,0))∧w'.heap[gm]? = some (.cells (fJ c (.slice x.2.2.2.2.1 x.2.2.2.1.length x.2.2.2.2.2)) 30 (0,0))∧w'.heap[l]? = some (.loop (dS fn0 tm asg bdy D))∧be w.heap.size 109 4 (bq true) w' (.slice x.2.2.2.2.1 x.2.2.2.1.length x.2.2.2.2.2) x.2.2.2.1∧(aP cT x.1 x.2.2.1 x.2.1 x.2.2.2.1=aP cT C0.l.length 0 C0 [])∧(x.2.1.l.length≤x.1)∧(0≤x.2.2.1∧x.2.2.1≤131074*(x.2.2.2.1.length:Int))∧(x.2.2.2.1.length+x.1≤C0.l.length)) (fun x=>x.1) (C0.l.length,C0,0,[],none,0) ⟨aD.refl _ _,hC,hS,hm,hl,be.nil ..,rfl,(Nat.le_refl _),(by(try dsimp only);omega),(by(try dsimp only);(try simp only[List.length_nil]);omega)⟩ ?_
 rintro⟨n,C,s,L,A,cp⟩ g ⟨k,I,J,M,N,O,P,Q,R,S⟩
 refine i1 [(0,.func (.yield l) #[] #[]),(1,.pointer (some ⟨b1,0,none⟩)),(2,.pointer (some ⟨b2,0,none⟩))] ?_
 have b:aj g gb C:=I
 have p:g.heap[gs]? = some (.cells #[.int .i64 s] 3 (0,0)):=J
 have q:g.heap[gm]? = some (.cells (fJ c (.slice A L.length cp)) 30 (0,0)):=M
 have t:g.heap[l]? = some (.loop (dS fn0 tm asg bdy D)):=N
 have h:be w.heap.size 109 4 (bq true) g (.slice A L.length cp) L:=O
 have ac:aP cT n s C L=aP cT C0.l.length 0 C0 []:=P
 have ad:C.l.length≤n:=Q
 have ae:0≤s∧s≤131074*(L.length:Int):=R
 have af:L.length+n≤C0.l.length:=S
 have hrec:aP cT n s C L=aP cT C0.l.length 0 C0 []:=by assumption
 refine sq<|sg<|?_
 have m:=aD.blk k (aa m1 (aa m2 (aa m3 (aa m4 ay)))) hb1
 refine L0<|aU m 0<|L0<|Oc<|mq (dV b)<|?_
 have ag:=aj.len b
 refine Pl 2<|cu 4 [8] 12 (((decide (0<((C.l.length:Nat) : Int)))&&(C.e==0))) (fun K B=>?_) ?_
 refine bl 8 ((decide (0<((C.l.length:Nat) : Int)))) (fun i=>?_) (fun i=>?_)
 have T:=of_decide_eq_true i
 refine L1<|aU m 0<|L1<|Oc<|mq (bD b)<|?_
 have am:=aj.len b
 exact Pl 2<|ce B (C.e==0) (by rw[i];rfl)
 have T:=of_decide_eq_false i
 exact Pl 4<|ce B false (by rw[i];rfl)
 refine nt<|cb (((decide (0<((C.l.length:Nat) : Int)))&&(C.e==0))) (fun d=>?_) (fun d=>?_)
 have v:=(aR d).1
 have y:=(aR d).2
 have an:=of_decide_eq_true v
 have ao:=al y
 refine bi<|bk<|sg<|?_
 refine L0<|aU (aD.blk k (aa k1 (aa k2 (aa k3 (aa k4 ay)))) hb2) 0<|L0<|aU m 0<|L0<|fN #[] #[] (args:=#[.pointer (some ⟨gb,0,none⟩)])<|xm (vM b) fun E F ap U V X Y Z a0=>?_
 obtain⟨ar,au⟩:=V
 obtain⟨av,aw⟩:=X
 obtain⟨az,aC⟩:=Y
 refine L0<|bE #[.int .u16 0,.int .u16 0,.int .u16 0,.slice none 0 0] fun aE aH a1 a2 a3=>L0<|aW a2 #[.int .u16 ((iq C).file),.int .u16 ((iq C).record),.int .u16 ((iq C).count),.slice E ((iq C).words.length) F] fun a4 a5 a6=>nt<|sq<|yO 9<|?_
 have z:=ud a3 a6 a1
 have a:=aF a0 z
 refine F0<|aU (aX a m1 m) 0<|?_
 have o:=aj.old Z z
 refine F0<|Oc<|mq (bD o)<|?_
 have aI:=aj.len o
 refine Fp<|Fp<|?_
 have G:=u1 k a im
 refine yZ 19 ((((iS C).e)!=0)) (fun j=>?_) (fun j=>?_)
 have a7:=aq j
 refine Fp<|Fp<|Fp<|Fp<|Fp<|sM<|tn<|c1<|rt<|br<|tr<|br<|rr (.tuple #[])<|?_
 have hfin:aP cT C0.l.length 0 C0 []=((iS C),L):=by
   rw[← hrec]
   rw[show n=(n-1)+1 from by omega]
   simp only[aP,cT,d,v,y,j,bs,if_true,if_false,decide_true,decide_false,reduceIte]
 refine⟨rfl,s,A,cp,?_⟩
 rw[hfin]
 exact⟨G,o,(aX a (Ne.symm n1) p),(aX a (Ne.symm n2) q),(ax h a (fun x hx=>(aa (fun e=>(aA (aj.lt hC) lr h) (e▸hx)) ay)) (bq.upd16 a (ak (aj.safe b _ (by decide)) aG))),(aX a (Ne.symm n3) t)⟩
 have a7:=ai j
 refine Fp<|F0<|ci a5<|?_
 have H:=aX a (Ne.symm n3) t
 have a8:JR w gb gs gm l c (dS fn0 tm asg bdy D) (iS C) s L A cp a4:=⟨G,o,(aX a (Ne.symm n1) p),(aX a (Ne.symm n2) q),(ax h a (fun x hx=>(aa (fun e=>(aA (aj.lt hC) lr h) (e▸hx)) ay)) (bq.upd16 a (ak (aj.safe b _ (by decide)) aG))),H⟩
 refine Fy (r:=dS fn0 tm asg bdy D) (.agg #[.int .u16 ((iq C).file),.int .u16 ((iq C).record),.int .u16 ((iq C).count),.slice E ((iq C).words.length) F]) 53 H rfl<|?_
 refine RoundIn.mono (hround _ _ _ _ _ _ (iq C) _ _ a8 (e8.upd' U z aG) (aB (by omega)) (aB (by omega)) (aB (by omega)) (by omega)) ?_
 rintro _ aJ ⟨rfl,aK,a9,ab,f⟩
 refine⟨_,rfl,?_⟩
 exact Fp<|Fp<|sM<|tn<|c0<|sk<|bn<|fF ((n-1),(iS C),s,(L++[(iq C)]),a9,ab) ⟨f.u,f.hC,f.hS,f.hm,f.hl,f.ho,(by(try dsimp only);rw[← hrec,show n=(n-1)+1 from by omega];simp only[aP,cT,d,v,y,j,bs,if_true,if_false,decide_true,decide_false,Nat.add_sub_cancel,reduceIte]),(by(try dsimp only);have hd:=qs s C (by omega);have iy:(cT s C).2.1.l.length=(iS C).l.length:=rfl;omega),(by(try dsimp only);simp only[List.length_append,List.length_cons,List.length_nil];omega),(by(try dsimp only);simp only[List.length_append,List.length_cons,List.length_nil];omega)⟩ (by omega)
 refine xt<|tx<|tx<|bx<|rm (.tuple #[])<|?_
 have hfin:aP cT C0.l.length 0 C0 []=(C,L):=by
   rw[← hrec]
   exact gy _ _ _ _ _ (by simp only[d,bs,if_true,if_false,decide_true,decide_false])
 refine⟨rfl,s,A,cp,?_⟩
 rw[hfin]
 exact⟨k,b,p,q,h,t⟩
open Go.RowKit
def eo (n:Int) : Bool:=(decide (7≤n)&&decide (n≤245))&&n%7==0
def er (n:Int) : Bool:=decide (4≤n)&&decide (n≤245)
def ep (n:Int) : Bool:=decide (9≤n)&&decide (n≤251)
def kV (may:Int→Bool)(C:ah) : ah:=(C.bytesC 1).need (may C.byteV) 5
def uL (may:Int→Bool)(C:ah) : ah:=⟨(kV may C).bytesR C.byteV,false,0⟩
def uO (one:Int→ah→Int × ah × dt)(may:Int→Bool)(C:ah) : ah × List dt:=aP one (uL may C).l.length 0 (uL may C) []
def bp (e:Int) : Int:=if e==2 then 5 else e
def dX (one:Int→ah→Int × ah × dt)(may:Int→Bool)(c:Int)(C:ah) : ah × aQ :=
  (((kV may C).bytesC C.byteV).need ((uO one may C).1.e==0) (bp (uO one may C).1.e),{ aQ.zero with code:=c,recs:=(uO one may C).2 })
def b7 (dir c:Int)(C:ah) : Option (ah × aQ) :=
  if c==20 then (if dir==0 then some (dX cU eo c C) else some (dX bH er c C)) else if c==21 then some (dX cT ep c C) else none
theorem mn:((20:Int)==20)=true:=rfl
theorem lC:((21:Int)==20)=false:=rfl
theorem lB:((21:Int)==21)=true:=rfl
theorem oI{m:Md}{A:Option Addr}{cp:Nat}{b:List Int}{w:World}{dir:Int}(hd:dir=0∨dir=1)(hsl:aT m w (.slice A b.length cp) b)(hb:b.length≤1048576) :
    Calls Tryz.prog 144 #[.int .i64 0,.int .u8 20,.slice A b.length cp] w (dP (ae b7 0 20 b) w):=by
 have hln:(b.length:Int)≤1048576:=by omega
 have cM:((dir != 0)&&(dir != 1))=false:=by rcases hd with rfl | rfl<;>rfl
 refine xN 77 Tryz.func144 rfl<|sg<|L0<|bE mZ fun ad cN bl K af=>Pl 1<|nt<|sq<|sg<|Pl 6<|nt<|c0<|?_
 refine bi<|sg<|Pl 2<|L0<|Oc (args:=#[.int .i64 0,.int .u8 20])<|e3 wd fun v cO Z G N=>Pl 3<|L0<|bE #[.nilFunc,.nilFunc] fun cP cQ ce bm z=>L0<|aW bm #[.func (.func 252) #[] #[],.func (.func 250) #[] #[.pointer (some ⟨v,0,none⟩)]] fun cR cf t=>Pl 1<|nt<|sq<|sq<|?_
 refine go<|Pl 2<|nt<|c0<|bi<|sg<|Pl 1<|?_
 have ag:=ud z t ce
 have a0:=aF N ag
 have bo:=aF af a0
 refine L0<|Oc<|e3 (dJ (aT.old hsl bo) (by omega)) fun a1 cT U M r=>Pl 1<|ng<|Pl 1<|L0<|Oc<|m3 (bS M) fun cV cg o cW=>L0<|Oi ((ah.mk b false 0).byteV)<|Pl 1<|ng<|?_
 refine Pl 2<|?_
 have aL:=ud r o U
 have br:=ub aL cf
 refine L0<|aU br 0<|Pl 1<|L0<|fN #[] #[] (args:=#[.int .i64 ((ah.mk b false 0).byteV)])<|m1 (pg (n:=(ah.mk b false 0).byteV) (by omega)) fun cX d=>?_
 refine L0<|Oc<|m2 (bf ((eo ((ah.mk b false 0).byteV))) 5 (aj.old cg d)) fun cY ch i=>?_
 refine ab ch fun x49 bt bu=>?_
 refine ng<|Pl 2<|L0<|Oc<|s3 (cD (n:=(ah.mk b false 0).byteV) bu) fun cZ d0 d1 cn d2 d3 co j=>?_
 have d4:=Nat.le_trans (ah.bytesR_le x49 ((ah.mk b false 0).byteV)) (aj.len bu)
 refine ab co fun x58 bv aN=>?_
 refine L0<|Oc<|e3 (dJ cn (by omega)) fun O d5 P Q g=>Pl 1<|ng<|Pl 2<|L0<|bE mZ fun B d6 H V p=>L0<|aW V (mC 20) fun d7 cq h=>nt<|sq<|sg<|?_
 refine Pl 2<|?_
 have al:=ud p h H
 have an:=aF g al
 have bw:=uz d (u1 i (aF j an) im)
 refine L0<|aU (aX bw (nb (am bm) t.size U) br) 1<|L0<|Oc<|xm (kH (gb:=O) (f:=.func 250) (x:=#[]) (y:=#[.pointer (some ⟨v,0,none⟩)])) fun cs ct d8 aO aR d9 bx bz k=>nt<|bk<|?_
 refine pU (f:=257) #[.pointer (some ⟨cs,0,none⟩),.pointer (some ⟨ct,0,none⟩)] fun a ha=>?_
 intro da cu I db D E bB ao S J
 have bC:=nb (aj.lt Q) lr H
 have ap:=nb (aj.lt Q) (le (le p.size h.size) k.size) E
 have bG:=nb (am G) (le (le (le (le (le (le (le z.size t.size) r.size) o.size) d.size) i.size) j.size) g.size) H
 have bH:=nb (am G) (le (le (le (le (le (le (le (le (le (le z.size t.size) r.size) o.size) d.size) i.size) j.size) g.size) p.size) h.size) k.size) E
 have a2:=nb (am V) (le h.size k.size) E
 have X:=aF k J
 have bI:=aj.old Q (aF al X)
 have ar:=ud aL (aF bw X) U
 have bJ:=ub (aF ag ar) G
 have aS:=ub X cq
 refine(xy (c:=20) bI bJ aS S (ub J bx) (ub J bz) (Ne.symm (nb (am G) (le (le (le (le (le (le z.size t.size) r.size) o.size) d.size) i.size) j.size) P)) bC ap bG bH a2 (Ne.symm (nb (aj.lt Q) al.size aO)) (Ne.symm (nb (am G) (le (le (le (le (le (le (le (le (le z.size t.size) r.size) o.size) d.size) i.size) j.size) g.size) p.size) h.size) aO)) (Ne.symm (nb (am V) h.size aO)) (nb (am bx) lr E) (Ne.symm (nb (aj.lt Q) al.size aR)) (Ne.symm (nb (am G) (le (le (le (le (le (le (le (le (le z.size t.size) r.size) o.size) d.size) i.size) j.size) g.size) p.size) h.size) aR)) (Ne.symm (nb (am V) h.size aR)) (nb (am bz) lr E) ?_).mono ?_
 intro W C s L Ar cr x Ax cx hJ hrd hx1 hx2 hx3 hL
 simp only[dx] at hx1 hx2 hx3
 have hm2:W.heap[B]? = some (.cells #[.int .u8 20,.int .u8 0,.int .u16 0,.int .u16 0,.int .u16 0,.int .u16 0,.int .u16 0,.int .u16 0,.int .u16 0,.int .u16 0,.int .u16 0,.int .u16 0,.slice none 0 0,.slice none 0 0,.slice none 0 0,.slice Ar L.length cr,.int .u8 0,.int .u8 0,.int .u8 0,.int .u8 0,.int .u8 0,.slice none 0 0] 30 (0,0)):=hJ.hm
 refine kG hJ.hl ?_
 refine zg ha 53<|xH<|kY<|bE #[.int .u16 0,.int .u16 0,.int .u16 0,.slice none 0 0] fun dc dd bK cv bL=>kY<|aW cv #[.int .u16 x.file,.int .u16 x.record,.int .u16 x.count,.slice Ax x.words.length cx] fun de cw bM=>sM<|?_
 have bN:=ud bL bM bK
 refine yy (ub bN hJ.hl) (by trivial) fun df cz aY=>yC<|xH<|xL<|?_
 have aZ:=uz bN aY
 have bO:=aX aZ a2 hm2
 refine kY<|aU bO 15<|?_
 refine kY<|ci (aX aY (Ne.symm (nb (am S) hJ.u.size bK)) cw)<|kY<|dD (m:=1) (e:=109) #[.int .u16 x.file,.int .u16 x.record,.int .u16 x.count,.slice Ax x.words.length cx] fun dg dh di cA b0=>?_
 have Y:=aF aZ b0
 have cB:=jC (R:=bq true) (x:=(dt.mk x.file x.record x.count x.words)) cA rfl ⟨_,rfl,(e8.updl hrd Y hJ.hl rfl),aB (by omega),aB (by omega),aB (by omega)⟩
 have b1:=ax hJ.ho Y (fun x hx=>(aa (fun e=>(aA (am S) lr hJ.ho) (e▸hx)) ay)) (bq.updl Y hJ.hl rfl)
 refine kY<|gC (xs:=L) (ys:=([(dt.mk x.file x.record x.count x.words)])) (.agg #[.int .u16 0,.int .u16 0,.int .u16 0,.slice none 0 0]) 4 32 b1 cB (by simp) bq.ones (fun w' hv=>bq.upd16 hv (cS (dn _ b1 (by decide)) aG)) (by(try simp only[List.length_append,List.length_cons,List.length_nil,aC]);omega) (le (le (le (le hJ.u.size bL.size) bM.size) aY.size) b0.size) fun bP bQ dj b2 aw=>xL<|?_
 have bR:=ut (aD.mono (S':=(ob Ar++[])) b0 au) aw (av il au)
 have b3:=aD.blk bR (bj (aA (am aS) lr hJ.ho) ay) bO
 refine kY<|bX b3 15 (mG 20 0 0 0 0 0 0 0 0 0 0 0 nS nS nS (.slice bP ((L++[(dt.mk x.file x.record x.count x.words)]).length) bQ) 0 0 0 0 0 nS) fun dk cC a3=>sM<|bn<|?_
 have bT:=u1 (aD.mono (S':=(ob Ar++(B :: []))) bR (av il au)) a3 im
 have b4:=aD.blk bT (bj (aA (am S) lr hJ.ho) (aa (Ne.symm a2) ay)) cz
 refine yS b4 fun dl cE a4=>?_
 have b5:=ut (aD.mono (S':=(I :: (ob Ar++(B :: [])))) Y (ac im au)) (ut (aD.mono (S':=(ob Ar++(B :: (I :: [])))) aw (av il au)) (us a3 a4) (ac im (ac im au))) (av il (ac im (ac im au)))
 have dm:=ut hJ.u (ut (aD.mono (S':=(I :: (ob Ar++(B :: [])))) aZ (ac im au)) bT (av il (ac im au))) (ac im (av (aV hJ.ho lr) (ac im au)))
 have dp:=ut hJ.u (ut (aD.mono (S':=(I :: (ob Ar++[]))) Y (ac im au)) aw (av il au)) (ac im (av (aV hJ.ho lr) au))
 exact⟨by trivial,b5.size,bP,bQ,⟨(ut hJ.u b5 (ac im (av (aV hJ.ho lr) (ac im au)))),(aj.updl (aj.upd (aj.upd (aj.updl hJ.hC Y (aa ap ay) hJ.hl rfl) aw (bj (aA (aj.lt bI) lr hJ.ho) ay) (cS (dn _ b1 (by decide)) aG)) a3 (aa bC ay) (ak (aM b3 (by decide)) aG)) a4 (aa ap ay) b4 rfl),(aD.blk b5 (aa bH (bj (aA (am bJ) lr hJ.ho) (aa bG ay))) hJ.hS),(aX a4 a2 cC),(ax (ax b2 a3 (fun x hx=>(aa (fun e=>(aA (am aS) lr b2) (e▸hx)) ay)) (bq.upd16 a3 (ak (aM b3 (by decide)) aG))) a4 (fun x hx=>(aa (fun e=>(aA (am S) lr b2) (e▸hx)) ay)) (bq.updl a4 b4 rfl)),cE⟩⟩
 rintro _ cF ⟨rfl,dq,bU,bV,q⟩
 refine⟨_,_,rfl,q.hl,by simp[dS],by trivial,fun dr bW=>?_⟩
 refine ab q.hC fun b6 bY cG=>?_
 have cH:cF.heap[B]? = some (.cells #[.int .u8 20,.int .u8 0,.int .u16 0,.int .u16 0,.int .u16 0,.int .u16 0,.int .u16 0,.int .u16 0,.int .u16 0,.int .u16 0,.int .u16 0,.int .u16 0,.slice none 0 0,.slice none 0 0,.slice none 0 0,.slice bU ((aP cU (ah.mk (x49.bytesR ((ah.mk b false 0).byteV)) false 0).l.length 0 (ah.mk (x49.bytesR ((ah.mk b false 0).byteV)) false 0) []).2.length) bV,.int .u8 0,.int .u8 0,.int .u8 0,.int .u8 0,.int .u8 0,.slice none 0 0] 30 (0,0)):=q.hm
 refine bn<|tn<|sg<|Pl 2<|?_
 have az:=aj.updl cG bW (aa ap ay) q.hl rfl
 refine L0<|Oc<|mq (bD az)<|?_
 have ds:=aj.len az
 refine Pl 2<|L0<|Oc<|mq (bD az)<|?_
 have du:=aj.len az
 refine L0<|Oc<|m1 (iu (e:=b6.e)) fun dv cI=>?_
 have F:=aF bW cI
 have bZ:=u1 q.u F im
 have b9:=nb (am G) ag.size U
 have aE:=ud aL (uz d (u1 i j im)) U
 have ba:=ub (aF ag aE) G
 have bb:=aj.upd aN (ut (aD.mono (S':=[v]) an au) (ut (aD.mono (S':=[O,v,B]) X au) bZ (ac im (ac im (ac im (ac (ni k.size E) au))))) (ac (nr P) (ac im (ac (ni g.size H) au)))) (aa (Ne.symm b9) ay) (ak (aM ba (by decide)) aG)
 refine L0<|Oc<|m2 (bf ((b6.e==0)) (bp b6.e) bb) fun dw cJ T=>?_
 refine ab cJ fun c1 c2 bc=>?_
 refine ng<|Pl 1<|L0<|Oc<|m2 (cy bc) fun dy c3 a5=>nt<|sq<|sg<|Pl 1<|L0<|Oc<|mq (bD c3)<|?_
 have dz:=aj.len c3
 refine Pl 1<|ng<|Pl 2<|nt<|?_
 have a6:=u1 T a5 im
 have bd:=u1 (aD.mono (S':=[O,v,B,I,a1]) bZ (ac im (ac im (ac im (ac im au))))) a6 im
 have be:=ut (aD.mono (S':=[v]) ar au) bd (ac (ni aE.size P) (ac im (ac (ni (le (le (le (le (le r.size o.size) d.size) i.size) j.size) g.size) H) (ac (ni (le (le (le (le (le (le (le (le r.size o.size) d.size) i.size) j.size) g.size) p.size) h.size) k.size) E) (ac (nr U) au)))))
 have c4:=ud bo be (le af.size Z)
 refine cb ((c1.endC.e != 0)) (fun a7=>?_) (fun a7=>?_)
 have bg:=aq a7
 refine sg<|Pl 2<|?_
 have c5:=ub (ud a0 be Z) K
 refine L0<|aW c5 mZ fun dA cK a8=>Pl 1<|nt<|rt<|tr<|?_
 have c6:=nb (am K) (le (le (le (le (le (le (le (le (le (le (le N.size z.size) t.size) r.size) o.size) d.size) i.size) j.size) g.size) p.size) h.size) k.size) D
 have c7:=aD.blk (u1 (aD.mono (S':=[O,v,B,I,a1,ad]) bd (ac im (ac im (ac im (ac im (ac im au)))))) a8 im) (aa (Ne.symm (nb (aj.lt Q) (le (le p.size h.size) k.size) D)) (aa (Ne.symm (nb (am G) (le (le (le (le (le (le (le (le (le (le z.size t.size) r.size) o.size) d.size) i.size) j.size) g.size) p.size) h.size) k.size) D)) (aa (Ne.symm (nb (am V) (le h.size k.size) D)) (aa bB (aa (Ne.symm (nb (aj.lt M) (le (le (le (le (le (le (le o.size d.size) i.size) j.size) g.size) p.size) h.size) k.size) D)) (aa (Ne.symm c6) ay)))))) ao
 refine xK c7 fun dB aI=>?_
 refine rx (aX aI c6 cK) (.int .i64 c1.endC.e)<|?_
 subst c2 bY bv bt
 have c8:=us a8 aI
 have dC:=us F (us a6 c8)
 have dE:=us F (us a6 a8)
 have dF:=ub (ud a0 (ut (aD.mono (S':=[v]) ar au) q.u (ac (ni aE.size P) (ac im (ac (ni (le (le (le (le (le r.size o.size) d.size) i.size) j.size) g.size) H) (ac (ni (le (le (le (le (le (le (le (le r.size o.size) d.size) i.size) j.size) g.size) p.size) h.size) k.size) E) au))))) Z) K
 have dG:=aj.upd aN (ut (aD.mono (S':=[v]) an au) (ut (aD.mono (S':=[O,v,B]) X au) q.u (ac im (ac im (ac im (ac (ni k.size E) au))))) (ac (nr P) (ac im (ac (ni g.size H) au)))) (aa (Ne.symm b9) ay) (ak (aM ba (by decide)) aG)
 have dH:=us F a6
 have dI:=us F T
 have dK:=ax (ax (ax (ax (ax q.ho F (fun x hx=>(aa (fun e=>(aA (am S) lr q.ho) (e▸hx)) ay)) (bq.updl F q.hl rfl)) T (fun x hx=>(aa (fun e=>(aA (aj.lt M) (le (le (le (le (le (le (le (le o.size d.size) i.size) j.size) g.size) p.size) h.size) k.size) J.size) q.ho) (e▸hx)) ay)) (bq.upd16 T (ak (aj.safe bb _ (by decide)) aG))) a5 (fun x hx=>(aa (fun e=>(aA (aj.lt M) (le (le (le (le (le (le (le (le o.size d.size) i.size) j.size) g.size) p.size) h.size) k.size) J.size) q.ho) (e▸hx)) ay)) (bq.upd16 a5 (ak (aj.safe bc _ (by decide)) aG))) a8 (fun x hx=>(aa (fun e=>(aA (am K) (le (le (le (le (le (le (le (le (le (le (le (le N.size z.size) t.size) r.size) o.size) d.size) i.size) j.size) g.size) p.size) h.size) k.size) J.size) q.ho) (e▸hx)) ay)) (bq.upd16 a8 (ak (aM c5 (by decide)) aG))) aI (fun x hx=>(aa (fun e=>(aA (am ao) lr q.ho) (e▸hx)) ay)) (bq.updl aI c7 rfl)
 have hs:ae b7 0 20 b=aH (aQ.mk 20 0 0 0 0 0 0 0 0 0 0 0 [] [] [] (aP cU (ah.mk ((((ah.mk b false 0).bytesC 1).need (eo ((ah.mk b false 0).byteV)) 5).bytesR ((ah.mk b false 0).byteV)) false 0).l.length 0 (ah.mk ((((ah.mk b false 0).bytesC 1).need (eo ((ah.mk b false 0).byteV)) 5).bytesR ((ah.mk b false 0).byteV)) false 0) []).2 0 0 0 0 0 []) (((((ah.mk b false 0).bytesC 1).need (eo ((ah.mk b false 0).byteV)) 5).bytesC ((ah.mk b false 0).byteV)).need (((aP cU (ah.mk ((((ah.mk b false 0).bytesC 1).need (eo ((ah.mk b false 0).byteV)) 5).bytesR ((ah.mk b false 0).byteV)) false 0).l.length 0 (ah.mk ((((ah.mk b false 0).bytesC 1).need (eo ((ah.mk b false 0).byteV)) 5).bytesR ((ah.mk b false 0).byteV)) false 0) []).1).e==0) (bp ((aP cU (ah.mk ((((ah.mk b false 0).bytesC 1).need (eo ((ah.mk b false 0).byteV)) 5).bytesR ((ah.mk b false 0).byteV)) false 0).l.length 0 (ah.mk ((((ah.mk b false 0).bytesC 1).need (eo ((ah.mk b false 0).byteV)) 5).bytesR ((ah.mk b false 0).byteV)) false 0) []).1).e)):=by
   unfold ae b7 dX uO uL kV
   (try simp only[a7,bs,if_true,if_false,decide_true,decide_false,eq_self,true_or,or_true,or_false,false_or,if_true,if_false,cl,cj,cm,ck,reduceIte,mn,lC,lB])
   all_goals rfl
 rw[hs]
 exact bA bg (ut c4 c8 (ac (nr bl) (ac (ni (le (le (le (le (le (le (le (le (le (le (le (le af.size N.size) z.size) t.size) r.size) o.size) d.size) i.size) j.size) g.size) p.size) h.size) k.size) D) au)))
 have bg:=ai a7
 refine bi<|sg<|?_
 have bh:=us F a6
 refine L0<|ci (aD.blk bh (aa a2 (aa (Ne.symm (nb (aj.lt M) (le (le (le (le o.size d.size) i.size) j.size) g.size) H)) ay)) cH)<|?_
 have c9:=ub (ud a0 be Z) K
 refine L0<|aW c9 (mG 20 0 0 0 0 0 0 0 0 0 0 0 nS nS nS (.slice bU ((aP cU (ah.mk (x49.bytesR ((ah.mk b false 0).byteV)) false 0).l.length 0 (ah.mk (x49.bytesR ((ah.mk b false 0).byteV)) false 0) []).2.length) bV) 0 0 0 0 0 nS) fun dL cL a9=>Pl 1<|nt<|rt<|?_
 have ca:=nb (am K) (le (le (le (le (le (le (le (le (le (le (le N.size z.size) t.size) r.size) o.size) d.size) i.size) j.size) g.size) p.size) h.size) k.size) D
 have cc:=aD.blk (u1 (aD.mono (S':=[O,v,B,I,a1,ad]) bd (ac im (ac im (ac im (ac im (ac im au)))))) a9 im) (aa (Ne.symm (nb (aj.lt Q) (le (le p.size h.size) k.size) D)) (aa (Ne.symm (nb (am G) (le (le (le (le (le (le (le (le (le (le z.size t.size) r.size) o.size) d.size) i.size) j.size) g.size) p.size) h.size) k.size) D)) (aa (Ne.symm (nb (am V) (le h.size k.size) D)) (aa bB (aa (Ne.symm (nb (aj.lt M) (le (le (le (le (le (le (le o.size d.size) i.size) j.size) g.size) p.size) h.size) k.size) D)) (aa (Ne.symm ca) ay)))))) ao
 refine xK cc fun dM aJ=>?_
 refine rx (aX aJ ca cL) (.int .i64 0)<|?_
 subst c2 bY bv bt
 have cd:=us a9 aJ
 have dN:=ut (aD.mono (S':=[I,a1,ad,cu]) bh (ac im (ac im au))) cd (ac im (ac im au))
 have dO:=u1 (aD.mono (S':=[I,a1,ad]) bh (ac im (ac im au))) a9 im
 have dQ:=ub (ud a0 (ut (aD.mono (S':=[v]) ar au) q.u (ac (ni aE.size P) (ac im (ac (ni (le (le (le (le (le r.size o.size) d.size) i.size) j.size) g.size) H) (ac (ni (le (le (le (le (le (le (le (le r.size o.size) d.size) i.size) j.size) g.size) p.size) h.size) k.size) E) au))))) Z) K
 have dR:=aj.upd aN (ut (aD.mono (S':=[v]) an au) (ut (aD.mono (S':=[O,v,B]) X au) q.u (ac im (ac im (ac im (ac (ni k.size E) au))))) (ac (nr P) (ac im (ac (ni g.size H) au)))) (aa (Ne.symm b9) ay) (ak (aM ba (by decide)) aG)
 have dT:=us F T
 have hs:ae b7 0 20 b=aH (aQ.mk 20 0 0 0 0 0 0 0 0 0 0 0 [] [] [] (aP cU (ah.mk ((((ah.mk b false 0).bytesC 1).need (eo ((ah.mk b false 0).byteV)) 5).bytesR ((ah.mk b false 0).byteV)) false 0).l.length 0 (ah.mk ((((ah.mk b false 0).bytesC 1).need (eo ((ah.mk b false 0).byteV)) 5).bytesR ((ah.mk b false 0).byteV)) false 0) []).2 0 0 0 0 0 []) (((((ah.mk b false 0).bytesC 1).need (eo ((ah.mk b false 0).byteV)) 5).bytesC ((ah.mk b false 0).byteV)).need (((aP cU (ah.mk ((((ah.mk b false 0).bytesC 1).need (eo ((ah.mk b false 0).byteV)) 5).bytesR ((ah.mk b false 0).byteV)) false 0).l.length 0 (ah.mk ((((ah.mk b false 0).bytesC 1).need (eo ((ah.mk b false 0).byteV)) 5).bytesR ((ah.mk b false 0).byteV)) false 0) []).1).e==0) (bp ((aP cU (ah.mk ((((ah.mk b false 0).bytesC 1).need (eo ((ah.mk b false 0).byteV)) 5).bytesR ((ah.mk b false 0).byteV)) false 0).l.length 0 (ah.mk ((((ah.mk b false 0).bytesC 1).need (eo ((ah.mk b false 0).byteV)) 5).bytesR ((ah.mk b false 0).byteV)) false 0) []).1).e)):=by
   unfold ae b7 dX uO uL kV
   (try simp only[a7,bs,if_true,if_false,decide_true,decide_false,eq_self,true_or,or_true,or_false,false_or,if_true,if_false,cl,cj,cm,ck,reduceIte,mn,lC,lB])
   all_goals rfl
 rw[hs]
 exact bF bg ⟨_,_,_,_,_,rfl,aK.nil ..,aK.nil ..,aK.nil ..,((ax (ax (ax (ax (ax q.ho F (fun x hx=>(aa (fun e=>(aA (am S) lr q.ho) (e▸hx)) ay)) (bq.updl F q.hl rfl)) T (fun x hx=>(aa (fun e=>(aA (aj.lt M) (le (le (le (le (le (le (le (le o.size d.size) i.size) j.size) g.size) p.size) h.size) k.size) J.size) q.ho) (e▸hx)) ay)) (bq.upd16 T (ak (aj.safe bb _ (by decide)) aG))) a5 (fun x hx=>(aa (fun e=>(aA (aj.lt M) (le (le (le (le (le (le (le (le o.size d.size) i.size) j.size) g.size) p.size) h.size) k.size) J.size) q.ho) (e▸hx)) ay)) (bq.upd16 a5 (ak (aj.safe bc _ (by decide)) aG))) a9 (fun x hx=>(aa (fun e=>(aA (am K) (le (le (le (le (le (le (le (le (le (le (le (le N.size z.size) t.size) r.size) o.size) d.size) i.size) j.size) g.size) p.size) h.size) k.size) J.size) q.ho) (e▸hx)) ay)) (bq.upd16 a9 (ak (aM c9 (by decide)) aG))) aJ (fun x hx=>(aa (fun e=>(aA (am ao) lr q.ho) (e▸hx)) ay)) (bq.updl aJ cc rfl))).rd,aK.nil ..,⟨(b8 (x:=20) (by omega)),(b8 (x:=0) (by omega)),(aB (x:=0) (by omega)),(aB (x:=0) (by omega)),(aB (x:=0) (by omega)),(aB (x:=0) (by omega)),(aB (x:=0) (by omega)),(aB (x:=0) (by omega)),(aB (x:=0) (by omega)),(aB (x:=0) (by omega)),(aB (x:=0) (by omega)),(aB (x:=0) (by omega)),(b8 (x:=0) (by omega)),(b8 (x:=0) (by omega)),(b8 (x:=0) (by omega)),(b8 (x:=0) (by omega)),(b8 (x:=0) (by omega))⟩⟩ (ut c4 cd (ac (nr bl) (ac (ni (le (le (le (le (le (le (le (le (le (le (le (le af.size N.size) z.size) t.size) r.size) o.size) d.size) i.size) j.size) g.size) p.size) h.size) k.size) D) au)))
theorem oH{m:Md}{A:Option Addr}{cp:Nat}{b:List Int}{w:World}{dir:Int}(hd:dir=0∨dir=1)(hsl:aT m w (.slice A b.length cp) b)(hb:b.length≤1048576) :
    Calls Tryz.prog 144 #[.int .i64 1,.int .u8 20,.slice A b.length cp] w (dP (ae b7 1 20 b) w):=by
 have hln:(b.length:Int)≤1048576:=by omega
 have cN:((dir != 0)&&(dir != 1))=false:=by rcases hd with rfl | rfl<;>rfl
 refine xN 77 Tryz.func144 rfl<|sg<|L0<|bE mZ fun ad cO bl K af=>Pl 1<|nt<|sq<|sg<|Pl 6<|nt<|c0<|?_
 refine bi<|sg<|Pl 2<|L0<|Oc (args:=#[.int .i64 1,.int .u8 20])<|e3 vX fun z cP Z G N=>Pl 3<|L0<|bE #[.nilFunc,.nilFunc] fun cQ cR cf bm v=>L0<|aW bm #[.func (.func 253) #[] #[],.func (.func 254) #[] #[]] fun cT cg t=>Pl 1<|nt<|sq<|sq<|?_
 refine go<|Pl 2<|nt<|c0<|bi<|sg<|Pl 1<|?_
 have ag:=ud v t cf
 have a0:=aF N ag
 have bo:=aF af a0
 refine L0<|Oc<|e3 (dJ (aT.old hsl bo) (by omega)) fun a1 cU U M r=>Pl 1<|ng<|Pl 1<|L0<|Oc<|m3 (bS M) fun cV ch o cW=>L0<|Oi ((ah.mk b false 0).byteV)<|Pl 1<|ng<|?_
 refine Pl 2<|?_
 have aL:=ud r o U
 have br:=ub aL cg
 refine L0<|aU br 0<|Pl 1<|L0<|fN #[] #[] (args:=#[.int .i64 ((ah.mk b false 0).byteV)])<|m1 (p8 (n:=(ah.mk b false 0).byteV) (by omega)) fun cX d=>?_
 refine L0<|Oc<|m2 (bf ((er ((ah.mk b false 0).byteV))) 5 (aj.old ch d)) fun cY cn i=>?_
 refine ab cn fun x49 bt bu=>?_
 refine ng<|Pl 2<|L0<|Oc<|s3 (cD (n:=(ah.mk b false 0).byteV) bu) fun cZ d0 d1 co d2 d3 cq j=>?_
 have d4:=Nat.le_trans (ah.bytesR_le x49 ((ah.mk b false 0).byteV)) (aj.len bu)
 refine ab cq fun x58 bv aN=>?_
 refine L0<|Oc<|e3 (dJ co (by omega)) fun O d5 P Q g=>Pl 1<|ng<|Pl 2<|L0<|bE mZ fun B d6 H V p=>L0<|aW V (mC 20) fun d7 cs h=>nt<|sq<|sg<|?_
 refine Pl 2<|?_
 have al:=ud p h H
 have an:=aF g al
 have bw:=uz d (u1 i (aF j an) im)
 refine L0<|aU (aX bw (nb (am bm) t.size U) br) 1<|L0<|Oc<|xm (kH (gb:=O) (f:=.func 254) (x:=#[]) (y:=#[])) fun ct cu d8 aO aR d9 bx bz k=>nt<|bk<|?_
 refine pU (f:=257) #[.pointer (some ⟨ct,0,none⟩),.pointer (some ⟨cu,0,none⟩)] fun a ha=>?_
 intro da cv I db D E bB ao S J
 have bC:=nb (aj.lt Q) lr H
 have ap:=nb (aj.lt Q) (le (le p.size h.size) k.size) E
 have bG:=nb (am G) (le (le (le (le (le (le (le v.size t.size) r.size) o.size) d.size) i.size) j.size) g.size) H
 have bI:=nb (am G) (le (le (le (le (le (le (le (le (le (le v.size t.size) r.size) o.size) d.size) i.size) j.size) g.size) p.size) h.size) k.size) E
 have a2:=nb (am V) (le h.size k.size) E
 have X:=aF k J
 have bJ:=aj.old Q (aF al X)
 have ar:=ud aL (aF bw X) U
 have bK:=ub (aF ag ar) G
 have aS:=ub X cs
 refine(wS (c:=20) bJ bK aS S (ub J bx) (ub J bz) (Ne.symm (nb (am G) (le (le (le (le (le (le v.size t.size) r.size) o.size) d.size) i.size) j.size) P)) bC ap bG bI a2 (Ne.symm (nb (aj.lt Q) al.size aO)) (Ne.symm (nb (am G) (le (le (le (le (le (le (le (le (le v.size t.size) r.size) o.size) d.size) i.size) j.size) g.size) p.size) h.size) aO)) (Ne.symm (nb (am V) h.size aO)) (nb (am bx) lr E) (Ne.symm (nb (aj.lt Q) al.size aR)) (Ne.symm (nb (am G) (le (le (le (le (le (le (le (le (le v.size t.size) r.size) o.size) d.size) i.size) j.size) g.size) p.size) h.size) aR)) (Ne.symm (nb (am V) h.size aR)) (nb (am bz) lr E) ?_).mono ?_
 intro W C s L Ar cr x Ax cx hJ hrd hx1 hx2 hx3 hL
 simp only[dx] at hx1 hx2 hx3
 have hm2:W.heap[B]? = some (.cells #[.int .u8 20,.int .u8 0,.int .u16 0,.int .u16 0,.int .u16 0,.int .u16 0,.int .u16 0,.int .u16 0,.int .u16 0,.int .u16 0,.int .u16 0,.int .u16 0,.slice none 0 0,.slice none 0 0,.slice none 0 0,.slice Ar L.length cr,.int .u8 0,.int .u8 0,.int .u8 0,.int .u8 0,.int .u8 0,.slice none 0 0] 30 (0,0)):=hJ.hm
 refine kG hJ.hl ?_
 refine zg ha 53<|xH<|kY<|bE #[.int .u16 0,.int .u16 0,.int .u16 0,.slice none 0 0] fun dc dd bL cw bM=>kY<|aW cw #[.int .u16 x.file,.int .u16 x.record,.int .u16 x.count,.slice Ax x.words.length cx] fun de cz bN=>sM<|?_
 have bO:=ud bM bN bL
 refine yy (ub bO hJ.hl) (by trivial) fun df cA aY=>yC<|xH<|xL<|?_
 have aZ:=uz bO aY
 have bP:=aX aZ a2 hm2
 refine kY<|aU bP 15<|?_
 refine kY<|ci (aX aY (Ne.symm (nb (am S) hJ.u.size bL)) cz)<|kY<|dD (m:=1) (e:=109) #[.int .u16 x.file,.int .u16 x.record,.int .u16 x.count,.slice Ax x.words.length cx] fun dg dh di cB b0=>?_
 have Y:=aF aZ b0
 have cC:=jC (R:=bq true) (x:=(dt.mk x.file x.record x.count x.words)) cB rfl ⟨_,rfl,(e8.updl hrd Y hJ.hl rfl),aB (by omega),aB (by omega),aB (by omega)⟩
 have b1:=ax hJ.ho Y (fun x hx=>(aa (fun e=>(aA (am S) lr hJ.ho) (e▸hx)) ay)) (bq.updl Y hJ.hl rfl)
 refine kY<|gC (xs:=L) (ys:=([(dt.mk x.file x.record x.count x.words)])) (.agg #[.int .u16 0,.int .u16 0,.int .u16 0,.slice none 0 0]) 4 32 b1 cC (by simp) bq.ones (fun w' hv=>bq.upd16 hv (cS (dn _ b1 (by decide)) aG)) (by(try simp only[List.length_append,List.length_cons,List.length_nil,aC]);omega) (le (le (le (le hJ.u.size bM.size) bN.size) aY.size) b0.size) fun bQ bR dj b2 aw=>xL<|?_
 have bT:=ut (aD.mono (S':=(ob Ar++[])) b0 au) aw (av il au)
 have b3:=aD.blk bT (bj (aA (am aS) lr hJ.ho) ay) bP
 refine kY<|bX b3 15 (mG 20 0 0 0 0 0 0 0 0 0 0 0 nS nS nS (.slice bQ ((L++[(dt.mk x.file x.record x.count x.words)]).length) bR) 0 0 0 0 0 nS) fun dk cE a3=>sM<|bn<|?_
 have bU:=u1 (aD.mono (S':=(ob Ar++(B :: []))) bT (av il au)) a3 im
 have b4:=aD.blk bU (bj (aA (am S) lr hJ.ho) (aa (Ne.symm a2) ay)) cA
 refine yS b4 fun dl cF a4=>?_
 have b5:=ut (aD.mono (S':=(I :: (ob Ar++(B :: [])))) Y (ac im au)) (ut (aD.mono (S':=(ob Ar++(B :: (I :: [])))) aw (av il au)) (us a3 a4) (ac im (ac im au))) (av il (ac im (ac im au)))
 have dm:=ut hJ.u (ut (aD.mono (S':=(I :: (ob Ar++(B :: [])))) aZ (ac im au)) bU (av il (ac im au))) (ac im (av (aV hJ.ho lr) (ac im au)))
 have dp:=ut hJ.u (ut (aD.mono (S':=(I :: (ob Ar++[]))) Y (ac im au)) aw (av il au)) (ac im (av (aV hJ.ho lr) au))
 exact⟨by trivial,b5.size,bQ,bR,⟨(ut hJ.u b5 (ac im (av (aV hJ.ho lr) (ac im au)))),(aj.updl (aj.upd (aj.upd (aj.updl hJ.hC Y (aa ap ay) hJ.hl rfl) aw (bj (aA (aj.lt bJ) lr hJ.ho) ay) (cS (dn _ b1 (by decide)) aG)) a3 (aa bC ay) (ak (aM b3 (by decide)) aG)) a4 (aa ap ay) b4 rfl),(aD.blk b5 (aa bI (bj (aA (am bK) lr hJ.ho) (aa bG ay))) hJ.hS),(aX a4 a2 cE),(ax (ax b2 a3 (fun x hx=>(aa (fun e=>(aA (am aS) lr b2) (e▸hx)) ay)) (bq.upd16 a3 (ak (aM b3 (by decide)) aG))) a4 (fun x hx=>(aa (fun e=>(aA (am S) lr b2) (e▸hx)) ay)) (bq.updl a4 b4 rfl)),cF⟩⟩
 rintro _ cG ⟨rfl,dq,bV,bW,q⟩
 refine⟨_,_,rfl,q.hl,by simp[dS],by trivial,fun dr bY=>?_⟩
 refine ab q.hC fun b6 bZ cH=>?_
 have cI:cG.heap[B]? = some (.cells #[.int .u8 20,.int .u8 0,.int .u16 0,.int .u16 0,.int .u16 0,.int .u16 0,.int .u16 0,.int .u16 0,.int .u16 0,.int .u16 0,.int .u16 0,.int .u16 0,.slice none 0 0,.slice none 0 0,.slice none 0 0,.slice bV ((aP bH (ah.mk (x49.bytesR ((ah.mk b false 0).byteV)) false 0).l.length 0 (ah.mk (x49.bytesR ((ah.mk b false 0).byteV)) false 0) []).2.length) bW,.int .u8 0,.int .u8 0,.int .u8 0,.int .u8 0,.int .u8 0,.slice none 0 0] 30 (0,0)):=q.hm
 refine bn<|tn<|sg<|Pl 2<|?_
 have az:=aj.updl cH bY (aa ap ay) q.hl rfl
 refine L0<|Oc<|mq (bD az)<|?_
 have ds:=aj.len az
 refine Pl 2<|L0<|Oc<|mq (bD az)<|?_
 have du:=aj.len az
 refine L0<|Oc<|m1 (iu (e:=b6.e)) fun dv cJ=>?_
 have F:=aF bY cJ
 have c1:=u1 q.u F im
 have b9:=nb (am G) ag.size U
 have aE:=ud aL (uz d (u1 i j im)) U
 have ba:=ub (aF ag aE) G
 have bb:=aj.upd aN (ut (aD.mono (S':=[z]) an au) (ut (aD.mono (S':=[O,z,B]) X au) c1 (ac im (ac im (ac im (ac (ni k.size E) au))))) (ac (nr P) (ac im (ac (ni g.size H) au)))) (aa (Ne.symm b9) ay) (ak (aM ba (by decide)) aG)
 refine L0<|Oc<|m2 (bf ((b6.e==0)) (bp b6.e) bb) fun dw cK T=>?_
 refine ab cK fun c2 c3 bc=>?_
 refine ng<|Pl 1<|L0<|Oc<|m2 (cy bc) fun dy c4 a5=>nt<|sq<|sg<|Pl 1<|L0<|Oc<|mq (bD c4)<|?_
 have dz:=aj.len c4
 refine Pl 1<|ng<|Pl 2<|nt<|?_
 have a6:=u1 T a5 im
 have bd:=u1 (aD.mono (S':=[O,z,B,I,a1]) c1 (ac im (ac im (ac im (ac im au))))) a6 im
 have be:=ut (aD.mono (S':=[z]) ar au) bd (ac (ni aE.size P) (ac im (ac (ni (le (le (le (le (le r.size o.size) d.size) i.size) j.size) g.size) H) (ac (ni (le (le (le (le (le (le (le (le r.size o.size) d.size) i.size) j.size) g.size) p.size) h.size) k.size) E) (ac (nr U) au)))))
 have c5:=ud bo be (le af.size Z)
 refine cb ((c2.endC.e != 0)) (fun a7=>?_) (fun a7=>?_)
 have bg:=aq a7
 refine sg<|Pl 2<|?_
 have c6:=ub (ud a0 be Z) K
 refine L0<|aW c6 mZ fun dA cL a8=>Pl 1<|nt<|rt<|tr<|?_
 have c7:=nb (am K) (le (le (le (le (le (le (le (le (le (le (le N.size v.size) t.size) r.size) o.size) d.size) i.size) j.size) g.size) p.size) h.size) k.size) D
 have c8:=aD.blk (u1 (aD.mono (S':=[O,z,B,I,a1,ad]) bd (ac im (ac im (ac im (ac im (ac im au)))))) a8 im) (aa (Ne.symm (nb (aj.lt Q) (le (le p.size h.size) k.size) D)) (aa (Ne.symm (nb (am G) (le (le (le (le (le (le (le (le (le (le v.size t.size) r.size) o.size) d.size) i.size) j.size) g.size) p.size) h.size) k.size) D)) (aa (Ne.symm (nb (am V) (le h.size k.size) D)) (aa bB (aa (Ne.symm (nb (aj.lt M) (le (le (le (le (le (le (le o.size d.size) i.size) j.size) g.size) p.size) h.size) k.size) D)) (aa (Ne.symm c7) ay)))))) ao
 refine xK c8 fun dB aI=>?_
 refine rx (aX aI c7 cL) (.int .i64 c2.endC.e)<|?_
 subst c3 bZ bv bt
 have c9:=us a8 aI
 have dC:=us F (us a6 c9)
 have dE:=us F (us a6 a8)
 have dF:=ub (ud a0 (ut (aD.mono (S':=[z]) ar au) q.u (ac (ni aE.size P) (ac im (ac (ni (le (le (le (le (le r.size o.size) d.size) i.size) j.size) g.size) H) (ac (ni (le (le (le (le (le (le (le (le r.size o.size) d.size) i.size) j.size) g.size) p.size) h.size) k.size) E) au))))) Z) K
 have dG:=aj.upd aN (ut (aD.mono (S':=[z]) an au) (ut (aD.mono (S':=[O,z,B]) X au) q.u (ac im (ac im (ac im (ac (ni k.size E) au))))) (ac (nr P) (ac im (ac (ni g.size H) au)))) (aa (Ne.symm b9) ay) (ak (aM ba (by decide)) aG)
 have dH:=us F a6
 have dI:=us F T
 have dK:=ax (ax (ax (ax (ax q.ho F (fun x hx=>(aa (fun e=>(aA (am S) lr q.ho) (e▸hx)) ay)) (bq.updl F q.hl rfl)) T (fun x hx=>(aa (fun e=>(aA (aj.lt M) (le (le (le (le (le (le (le (le o.size d.size) i.size) j.size) g.size) p.size) h.size) k.size) J.size) q.ho) (e▸hx)) ay)) (bq.upd16 T (ak (aj.safe bb _ (by decide)) aG))) a5 (fun x hx=>(aa (fun e=>(aA (aj.lt M) (le (le (le (le (le (le (le (le o.size d.size) i.size) j.size) g.size) p.size) h.size) k.size) J.size) q.ho) (e▸hx)) ay)) (bq.upd16 a5 (ak (aj.safe bc _ (by decide)) aG))) a8 (fun x hx=>(aa (fun e=>(aA (am K) (le (le (le (le (le (le (le (le (le (le (le (le N.size v.size) t.size) r.size) o.size) d.size) i.size) j.size) g.size) p.size) h.size) k.size) J.size) q.ho) (e▸hx)) ay)) (bq.upd16 a8 (ak (aM c6 (by decide)) aG))) aI (fun x hx=>(aa (fun e=>(aA (am ao) lr q.ho) (e▸hx)) ay)) (bq.updl aI c8 rfl)
 have hs:ae b7 1 20 b=aH (aQ.mk 20 0 0 0 0 0 0 0 0 0 0 0 [] [] [] (aP bH (ah.mk ((((ah.mk b false 0).bytesC 1).need (er ((ah.mk b false 0).byteV)) 5).bytesR ((ah.mk b false 0).byteV)) false 0).l.length 0 (ah.mk ((((ah.mk b false 0).bytesC 1).need (er ((ah.mk b false 0).byteV)) 5).bytesR ((ah.mk b false 0).byteV)) false 0) []).2 0 0 0 0 0 []) (((((ah.mk b false 0).bytesC 1).need (er ((ah.mk b false 0).byteV)) 5).bytesC ((ah.mk b false 0).byteV)).need (((aP bH (ah.mk ((((ah.mk b false 0).bytesC 1).need (er ((ah.mk b false 0).byteV)) 5).bytesR ((ah.mk b false 0).byteV)) false 0).l.length 0 (ah.mk ((((ah.mk b false 0).bytesC 1).need (er ((ah.mk b false 0).byteV)) 5).bytesR ((ah.mk b false 0).byteV)) false 0) []).1).e==0) (bp ((aP bH (ah.mk ((((ah.mk b false 0).bytesC 1).need (er ((ah.mk b false 0).byteV)) 5).bytesR ((ah.mk b false 0).byteV)) false 0).l.length 0 (ah.mk ((((ah.mk b false 0).bytesC 1).need (er ((ah.mk b false 0).byteV)) 5).bytesR ((ah.mk b false 0).byteV)) false 0) []).1).e)):=by
   unfold ae b7 dX uO uL kV
   (try simp only[a7,bs,if_true,if_false,decide_true,decide_false,eq_self,true_or,or_true,or_false,false_or,if_true,if_false,cl,cj,cm,ck,reduceIte,mn,lC,lB])
   all_goals rfl
 rw[hs]
 exact bA bg (ut c5 c9 (ac (nr bl) (ac (ni (le (le (le (le (le (le (le (le (le (le (le (le af.size N.size) v.size) t.size) r.size) o.size) d.size) i.size) j.size) g.size) p.size) h.size) k.size) D) au)))
 have bg:=ai a7
 refine bi<|sg<|?_
 have bh:=us F a6
 refine L0<|ci (aD.blk bh (aa a2 (aa (Ne.symm (nb (aj.lt M) (le (le (le (le o.size d.size) i.size) j.size) g.size) H)) ay)) cI)<|?_
 have ca:=ub (ud a0 be Z) K
 refine L0<|aW ca (mG 20 0 0 0 0 0 0 0 0 0 0 0 nS nS nS (.slice bV ((aP bH (ah.mk (x49.bytesR ((ah.mk b false 0).byteV)) false 0).l.length 0 (ah.mk (x49.bytesR ((ah.mk b false 0).byteV)) false 0) []).2.length) bW) 0 0 0 0 0 nS) fun dL cM a9=>Pl 1<|nt<|rt<|?_
 have cc:=nb (am K) (le (le (le (le (le (le (le (le (le (le (le N.size v.size) t.size) r.size) o.size) d.size) i.size) j.size) g.size) p.size) h.size) k.size) D
 have cd:=aD.blk (u1 (aD.mono (S':=[O,z,B,I,a1,ad]) bd (ac im (ac im (ac im (ac im (ac im au)))))) a9 im) (aa (Ne.symm (nb (aj.lt Q) (le (le p.size h.size) k.size) D)) (aa (Ne.symm (nb (am G) (le (le (le (le (le (le (le (le (le (le v.size t.size) r.size) o.size) d.size) i.size) j.size) g.size) p.size) h.size) k.size) D)) (aa (Ne.symm (nb (am V) (le h.size k.size) D)) (aa bB (aa (Ne.symm (nb (aj.lt M) (le (le (le (le (le (le (le o.size d.size) i.size) j.size) g.size) p.size) h.size) k.size) D)) (aa (Ne.symm cc) ay)))))) ao
 refine xK cd fun dM aJ=>?_
 refine rx (aX aJ cc cM) (.int .i64 0)<|?_
 subst c3 bZ bv bt
 have ce:=us a9 aJ
 have dN:=ut (aD.mono (S':=[I,a1,ad,cv]) bh (ac im (ac im au))) ce (ac im (ac im au))
 have dO:=u1 (aD.mono (S':=[I,a1,ad]) bh (ac im (ac im au))) a9 im
 have dQ:=ub (ud a0 (ut (aD.mono (S':=[z]) ar au) q.u (ac (ni aE.size P) (ac im (ac (ni (le (le (le (le (le r.size o.size) d.size) i.size) j.size) g.size) H) (ac (ni (le (le (le (le (le (le (le (le r.size o.size) d.size) i.size) j.size) g.size) p.size) h.size) k.size) E) au))))) Z) K
 have dR:=aj.upd aN (ut (aD.mono (S':=[z]) an au) (ut (aD.mono (S':=[O,z,B]) X au) q.u (ac im (ac im (ac im (ac (ni k.size E) au))))) (ac (nr P) (ac im (ac (ni g.size H) au)))) (aa (Ne.symm b9) ay) (ak (aM ba (by decide)) aG)
 have dT:=us F T
 have hs:ae b7 1 20 b=aH (aQ.mk 20 0 0 0 0 0 0 0 0 0 0 0 [] [] [] (aP bH (ah.mk ((((ah.mk b false 0).bytesC 1).need (er ((ah.mk b false 0).byteV)) 5).bytesR ((ah.mk b false 0).byteV)) false 0).l.length 0 (ah.mk ((((ah.mk b false 0).bytesC 1).need (er ((ah.mk b false 0).byteV)) 5).bytesR ((ah.mk b false 0).byteV)) false 0) []).2 0 0 0 0 0 []) (((((ah.mk b false 0).bytesC 1).need (er ((ah.mk b false 0).byteV)) 5).bytesC ((ah.mk b false 0).byteV)).need (((aP bH (ah.mk ((((ah.mk b false 0).bytesC 1).need (er ((ah.mk b false 0).byteV)) 5).bytesR ((ah.mk b false 0).byteV)) false 0).l.length 0 (ah.mk ((((ah.mk b false 0).bytesC 1).need (er ((ah.mk b false 0).byteV)) 5).bytesR ((ah.mk b false 0).byteV)) false 0) []).1).e==0) (bp ((aP bH (ah.mk ((((ah.mk b false 0).bytesC 1).need (er ((ah.mk b false 0).byteV)) 5).bytesR ((ah.mk b false 0).byteV)) false 0).l.length 0 (ah.mk ((((ah.mk b false 0).bytesC 1).need (er ((ah.mk b false 0).byteV)) 5).bytesR ((ah.mk b false 0).byteV)) false 0) []).1).e)):=by
   unfold ae b7 dX uO uL kV
   (try simp only[a7,bs,if_true,if_false,decide_true,decide_false,eq_self,true_or,or_true,or_false,false_or,if_true,if_false,cl,cj,cm,ck,reduceIte,mn,lC,lB])
   all_goals rfl
 rw[hs]
 exact bF bg ⟨_,_,_,_,_,rfl,aK.nil ..,aK.nil ..,aK.nil ..,((ax (ax (ax (ax (ax q.ho F (fun x hx=>(aa (fun e=>(aA (am S) lr q.ho) (e▸hx)) ay)) (bq.updl F q.hl rfl)) T (fun x hx=>(aa (fun e=>(aA (aj.lt M) (le (le (le (le (le (le (le (le o.size d.size) i.size) j.size) g.size) p.size) h.size) k.size) J.size) q.ho) (e▸hx)) ay)) (bq.upd16 T (ak (aj.safe bb _ (by decide)) aG))) a5 (fun x hx=>(aa (fun e=>(aA (aj.lt M) (le (le (le (le (le (le (le (le o.size d.size) i.size) j.size) g.size) p.size) h.size) k.size) J.size) q.ho) (e▸hx)) ay)) (bq.upd16 a5 (ak (aj.safe bc _ (by decide)) aG))) a9 (fun x hx=>(aa (fun e=>(aA (am K) (le (le (le (le (le (le (le (le (le (le (le (le N.size v.size) t.size) r.size) o.size) d.size) i.size) j.size) g.size) p.size) h.size) k.size) J.size) q.ho) (e▸hx)) ay)) (bq.upd16 a9 (ak (aM ca (by decide)) aG))) aJ (fun x hx=>(aa (fun e=>(aA (am ao) lr q.ho) (e▸hx)) ay)) (bq.updl aJ cd rfl))).rd,aK.nil ..,⟨(b8 (x:=20) (by omega)),(b8 (x:=0) (by omega)),(aB (x:=0) (by omega)),(aB (x:=0) (by omega)),(aB (x:=0) (by omega)),(aB (x:=0) (by omega)),(aB (x:=0) (by omega)),(aB (x:=0) (by omega)),(aB (x:=0) (by omega)),(aB (x:=0) (by omega)),(aB (x:=0) (by omega)),(aB (x:=0) (by omega)),(b8 (x:=0) (by omega)),(b8 (x:=0) (by omega)),(b8 (x:=0) (by omega)),(b8 (x:=0) (by omega)),(b8 (x:=0) (by omega))⟩⟩ (ut c5 ce (ac (nr bl) (ac (ni (le (le (le (le (le (le (le (le (le (le (le (le af.size N.size) v.size) t.size) r.size) o.size) d.size) i.size) j.size) g.size) p.size) h.size) k.size) D) au)))
theorem m8{m:Md}{A:Option Addr}{cp:Nat}{b:List Int}{w:World}{dir:Int}(hd:dir=0∨dir=1)(hsl:aT m w (.slice A b.length cp) b)(hb:b.length≤1048576) :
    Calls Tryz.prog 144 #[.int .i64 dir,.int .u8 21,.slice A b.length cp] w (dP (ae b7 dir 21 b) w):=by
 have hln:(b.length:Int)≤1048576:=by omega
 have aO:((dir != 0)&&(dir != 1))=false:=by rcases hd with rfl | rfl<;>rfl
 refine xN 77 Tryz.func144 rfl<|sg<|L0<|bE mZ fun ag cX bt M al=>Pl 1<|nt<|sq<|sg<|Pl 3<|cu 3 [18] 21 (((dir != 0)&&(dir != 1))) (fun K bu=>?_) ?_
 refine bl 18 ((dir != 0)) (fun a0=>?_) (fun a0=>?_)
 have cs:=aq a0
 exact Pl 3<|ce bu (dir != 1) (by rw[a0];rfl)
 have cs:=ai a0
 exact Pl 3<|ce bu false (by rw[a0];rfl)
 refine nt<|cf aO<|bi<|sg<|Pl 2<|L0<|Oc (args:=#[.int .i64 dir,.int .u8 21])<|e3 v6 fun z cY a1 G O=>Pl 3<|L0<|bE #[.nilFunc,.nilFunc] fun cZ d0 ct bv v=>L0<|aW bv #[.func (.func 255) #[] #[],.func (.func 256) #[] #[]] fun d1 cv t=>Pl 1<|nl<|?_
 refine tn<|sq<|sg<|Pl 2<|nt<|c0<|bi<|sg<|Pl 1<|?_
 have an:=ud v t ct
 have a2:=aF O an
 have bw:=aF al a2
 refine L0<|Oc<|e3 (dJ (aT.old hsl bw) (by omega)) fun a3 d2 V N r=>Pl 1<|ng<|Pl 1<|L0<|Oc<|m3 (bS N) fun d3 cw o d4=>L0<|Oi ((ah.mk b false 0).byteV)<|Pl 1<|ng<|?_
 refine Pl 2<|?_
 have aR:=ud r o V
 have bx:=ub aR cv
 refine L0<|aU bx 0<|Pl 1<|L0<|fN #[] #[] (args:=#[.int .i64 ((ah.mk b false 0).byteV)])<|m1 (oW (n:=(ah.mk b false 0).byteV) (by omega)) fun d5 d=>?_
 refine L0<|Oc<|m2 (bf ((ep ((ah.mk b false 0).byteV))) 5 (aj.old cw d)) fun d6 cz i=>?_
 refine ab cz fun x51 bz bB=>?_
 refine ng<|Pl 2<|L0<|Oc<|s3 (cD (n:=(ah.mk b false 0).byteV) bB) fun d7 d8 d9 cA da db cB j=>?_
 have dc:=Nat.le_trans (ah.bytesR_le x51 ((ah.mk b false 0).byteV)) (aj.len bB)
 refine ab cB fun x60 bC aS=>?_
 refine L0<|Oc<|e3 (dJ cA (by omega)) fun P dd Q S g=>Pl 1<|ng<|Pl 2<|L0<|bE mZ fun B de H X p=>L0<|aW X (mC 21) fun df cC h=>nt<|sq<|sg<|?_
 refine Pl 2<|?_
 have ao:=ud p h H
 have ap:=aF g ao
 have bG:=uz d (u1 i (aF j ap) im)
 refine L0<|aU (aX bG (nb (am bv) t.size V) bx) 1<|L0<|Oc<|xm (kH (gb:=P) (f:=.func 256) (x:=#[]) (y:=#[])) fun cE cF dg aY aZ dh bH bI k=>nt<|bk<|?_
 refine pU (f:=257) #[.pointer (some ⟨cE,0,none⟩),.pointer (some ⟨cF,0,none⟩)] fun a ha=>?_
 intro di cG I dj D E bJ ar T J
 have bK:=nb (aj.lt S) lr H
 have aw:=nb (aj.lt S) (le (le p.size h.size) k.size) E
 have bL:=nb (am G) (le (le (le (le (le (le (le v.size t.size) r.size) o.size) d.size) i.size) j.size) g.size) H
 have bM:=nb (am G) (le (le (le (le (le (le (le (le (le (le v.size t.size) r.size) o.size) d.size) i.size) j.size) g.size) p.size) h.size) k.size) E
 have a4:=nb (am X) (le h.size k.size) E
 have Y:=aF k J
 have bN:=aj.old S (aF ao Y)
 have az:=ud aR (aF bG Y) V
 have bO:=ub (aF an az) G
 have b0:=ub Y cC
 refine(wV (c:=21) bN bO b0 T (ub J bH) (ub J bI) (Ne.symm (nb (am G) (le (le (le (le (le (le v.size t.size) r.size) o.size) d.size) i.size) j.size) Q)) bK aw bL bM a4 (Ne.symm (nb (aj.lt S) ao.size aY)) (Ne.symm (nb (am G) (le (le (le (le (le (le (le (le (le v.size t.size) r.size) o.size) d.size) i.size) j.size) g.size) p.size) h.size) aY)) (Ne.symm (nb (am X) h.size aY)) (nb (am bH) lr E) (Ne.symm (nb (aj.lt S) ao.size aZ)) (Ne.symm (nb (am G) (le (le (le (le (le (le (le (le (le v.size t.size) r.size) o.size) d.size) i.size) j.size) g.size) p.size) h.size) aZ)) (Ne.symm (nb (am X) h.size aZ)) (nb (am bI) lr E) ?_).mono ?_
 intro W C s L Ar cr x Ax cx hJ hrd hx1 hx2 hx3 hL
 simp only[dx] at hx1 hx2 hx3
 have hm2:W.heap[B]? = some (.cells #[.int .u8 21,.int .u8 0,.int .u16 0,.int .u16 0,.int .u16 0,.int .u16 0,.int .u16 0,.int .u16 0,.int .u16 0,.int .u16 0,.int .u16 0,.int .u16 0,.slice none 0 0,.slice none 0 0,.slice none 0 0,.slice Ar L.length cr,.int .u8 0,.int .u8 0,.int .u8 0,.int .u8 0,.int .u8 0,.slice none 0 0] 30 (0,0)):=hJ.hm
 refine kG hJ.hl ?_
 refine zg ha 53<|xH<|kY<|bE #[.int .u16 0,.int .u16 0,.int .u16 0,.slice none 0 0] fun dk dl bP cH bQ=>kY<|aW cH #[.int .u16 x.file,.int .u16 x.record,.int .u16 x.count,.slice Ax x.words.length cx] fun dm cI bR=>sM<|?_
 have bT:=ud bQ bR bP
 refine yy (ub bT hJ.hl) (by trivial) fun dp cJ b1=>yC<|xH<|xL<|?_
 have b2:=uz bT b1
 have bU:=aX b2 a4 hm2
 refine kY<|aU bU 15<|?_
 refine kY<|ci (aX b1 (Ne.symm (nb (am T) hJ.u.size bP)) cI)<|kY<|dD (m:=1) (e:=109) #[.int .u16 x.file,.int .u16 x.record,.int .u16 x.count,.slice Ax x.words.length cx] fun dq dr ds cK b3=>?_
 have Z:=aF b2 b3
 have cL:=jC (R:=bq true) (x:=(dt.mk x.file x.record x.count x.words)) cK rfl ⟨_,rfl,(e8.updl hrd Z hJ.hl rfl),aB (by omega),aB (by omega),aB (by omega)⟩
 have b4:=ax hJ.ho Z (fun x hx=>(aa (fun e=>(aA (am T) lr hJ.ho) (e▸hx)) ay)) (bq.updl Z hJ.hl rfl)
 refine kY<|gC (xs:=L) (ys:=([(dt.mk x.file x.record x.count x.words)])) (.agg #[.int .u16 0,.int .u16 0,.int .u16 0,.slice none 0 0]) 4 32 b4 cL (by simp) bq.ones (fun w' hv=>bq.upd16 hv (cS (dn _ b4 (by decide)) aG)) (by(try simp only[List.length_append,List.length_cons,List.length_nil,aC]);omega) (le (le (le (le hJ.u.size bQ.size) bR.size) b1.size) b3.size) fun bV bW du b5 aE=>xL<|?_
 have bY:=ut (aD.mono (S':=(ob Ar++[])) b3 au) aE (av il au)
 have b6:=aD.blk bY (bj (aA (am b0) lr hJ.ho) ay) bU
 refine kY<|bX b6 15 (mG 21 0 0 0 0 0 0 0 0 0 0 0 nS nS nS (.slice bV ((L++[(dt.mk x.file x.record x.count x.words)]).length) bW) 0 0 0 0 0 nS) fun dv cM a5=>sM<|bn<|?_
 have bZ:=u1 (aD.mono (S':=(ob Ar++(B :: []))) bY (av il au)) a5 im
 have b9:=aD.blk bZ (bj (aA (am T) lr hJ.ho) (aa (Ne.symm a4) ay)) cJ
 refine yS b9 fun dw cN a6=>?_
 have ba:=ut (aD.mono (S':=(I :: (ob Ar++(B :: [])))) Z (ac im au)) (ut (aD.mono (S':=(ob Ar++(B :: (I :: [])))) aE (av il au)) (us a5 a6) (ac im (ac im au))) (av il (ac im (ac im au)))
 have dy:=ut hJ.u (ut (aD.mono (S':=(I :: (ob Ar++(B :: [])))) b2 (ac im au)) bZ (av il (ac im au))) (ac im (av (aV hJ.ho lr) (ac im au)))
 have dz:=ut hJ.u (ut (aD.mono (S':=(I :: (ob Ar++[]))) Z (ac im au)) aE (av il au)) (ac im (av (aV hJ.ho lr) au))
 exact⟨by trivial,ba.size,bV,bW,⟨(ut hJ.u ba (ac im (av (aV hJ.ho lr) (ac im au)))),(aj.updl (aj.upd (aj.upd (aj.updl hJ.hC Z (aa aw ay) hJ.hl rfl) aE (bj (aA (aj.lt bN) lr hJ.ho) ay) (cS (dn _ b4 (by decide)) aG)) a5 (aa bK ay) (ak (aM b6 (by decide)) aG)) a6 (aa aw ay) b9 rfl),(aD.blk ba (aa bM (bj (aA (am bO) lr hJ.ho) (aa bL ay))) hJ.hS),(aX a6 a4 cM),(ax (ax b5 a5 (fun x hx=>(aa (fun e=>(aA (am b0) lr b5) (e▸hx)) ay)) (bq.upd16 a5 (ak (aM b6 (by decide)) aG))) a6 (fun x hx=>(aa (fun e=>(aA (am T) lr b5) (e▸hx)) ay)) (bq.updl a6 b9 rfl)),cN⟩⟩
 rintro _ cO ⟨rfl,dA,c1,c2,q⟩
 refine⟨_,_,rfl,q.hl,by simp[dS],by trivial,fun dB c3=>?_⟩
 refine ab q.hC fun bb c4 cP=>?_
 have cQ:cO.heap[B]? = some (.cells #[.int .u8 21,.int .u8 0,.int .u16 0,.int .u16 0,.int .u16 0,.int .u16 0,.int .u16 0,.int .u16 0,.int .u16 0,.int .u16 0,.int .u16 0,.int .u16 0,.slice none 0 0,.slice none 0 0,.slice none 0 0,.slice c1 ((aP cT (ah.mk (x51.bytesR ((ah.mk b false 0).byteV)) false 0).l.length 0 (ah.mk (x51.bytesR ((ah.mk b false 0).byteV)) false 0) []).2.length) c2,.int .u8 0,.int .u8 0,.int .u8 0,.int .u8 0,.int .u8 0,.slice none 0 0] 30 (0,0)):=q.hm
 refine bn<|tn<|sg<|Pl 2<|?_
 have aI:=aj.updl cP c3 (aa aw ay) q.hl rfl
 refine L0<|Oc<|mq (bD aI)<|?_
 have dC:=aj.len aI
 refine Pl 2<|L0<|Oc<|mq (bD aI)<|?_
 have dE:=aj.len aI
 refine L0<|Oc<|m1 (iu (e:=bb.e)) fun dF cR=>?_
 have F:=aF c3 cR
 have c5:=u1 q.u F im
 have bc:=nb (am G) an.size V
 have aJ:=ud aR (uz d (u1 i j im)) V
 have bd:=ub (aF an aJ) G
 have be:=aj.upd aS (ut (aD.mono (S':=[z]) ap au) (ut (aD.mono (S':=[P,z,B]) Y au) c5 (ac im (ac im (ac im (ac (ni k.size E) au))))) (ac (nr Q) (ac im (ac (ni g.size H) au)))) (aa (Ne.symm bc) ay) (ak (aM bd (by decide)) aG)
 refine L0<|Oc<|m2 (bf ((bb.e==0)) (bp bb.e) be) fun dG cU U=>?_
 refine ab cU fun c6 c7 bg=>?_
 refine ng<|Pl 1<|L0<|Oc<|m2 (cy bg) fun dH c8 a7=>nt<|sq<|sg<|Pl 1<|L0<|Oc<|mq (bD c8)<|?_
 have dI:=aj.len c8
 refine Pl 1<|ng<|Pl 2<|nt<|?_
 have a8:=u1 U a7 im
 have bh:=u1 (aD.mono (S':=[P,z,B,I,a3]) c5 (ac im (ac im (ac im (ac im au))))) a8 im
 have bm:=ut (aD.mono (S':=[z]) az au) bh (ac (ni aJ.size Q) (ac im (ac (ni (le (le (le (le (le r.size o.size) d.size) i.size) j.size) g.size) H) (ac (ni (le (le (le (le (le (le (le (le r.size o.size) d.size) i.size) j.size) g.size) p.size) h.size) k.size) E) (ac (nr V) au)))))
 have c9:=ud bw bm (le al.size a1)
 refine cb ((c6.endC.e != 0)) (fun a9=>?_) (fun a9=>?_)
 have bo:=aq a9
 refine sg<|Pl 2<|?_
 have ca:=ub (ud a2 bm a1) M
 refine L0<|aW ca mZ fun dK cV ad=>Pl 1<|nt<|rt<|tr<|?_
 have cc:=nb (am M) (le (le (le (le (le (le (le (le (le (le (le O.size v.size) t.size) r.size) o.size) d.size) i.size) j.size) g.size) p.size) h.size) k.size) D
 have cd:=aD.blk (u1 (aD.mono (S':=[P,z,B,I,a3,ag]) bh (ac im (ac im (ac im (ac im (ac im au)))))) ad im) (aa (Ne.symm (nb (aj.lt S) (le (le p.size h.size) k.size) D)) (aa (Ne.symm (nb (am G) (le (le (le (le (le (le (le (le (le (le v.size t.size) r.size) o.size) d.size) i.size) j.size) g.size) p.size) h.size) k.size) D)) (aa (Ne.symm (nb (am X) (le h.size k.size) D)) (aa bJ (aa (Ne.symm (nb (aj.lt N) (le (le (le (le (le (le (le o.size d.size) i.size) j.size) g.size) p.size) h.size) k.size) D)) (aa (Ne.symm cc) ay)))))) ar
 refine xK cd fun dL aL=>?_
 refine rx (aX aL cc cV) (.int .i64 c6.endC.e)<|?_
 subst c7 c4 bC bz
 have cg:=us ad aL
 have dM:=us F (us a8 cg)
 have dN:=us F (us a8 ad)
 have dO:=ub (ud a2 (ut (aD.mono (S':=[z]) az au) q.u (ac (ni aJ.size Q) (ac im (ac (ni (le (le (le (le (le r.size o.size) d.size) i.size) j.size) g.size) H) (ac (ni (le (le (le (le (le (le (le (le r.size o.size) d.size) i.size) j.size) g.size) p.size) h.size) k.size) E) au))))) a1) M
 have dQ:=aj.upd aS (ut (aD.mono (S':=[z]) ap au) (ut (aD.mono (S':=[P,z,B]) Y au) q.u (ac im (ac im (ac im (ac (ni k.size E) au))))) (ac (nr Q) (ac im (ac (ni g.size H) au)))) (aa (Ne.symm bc) ay) (ak (aM bd (by decide)) aG)
 have dR:=us F a8
 have dT:=us F U
 have dU:=ax (ax (ax (ax (ax q.ho F (fun x hx=>(aa (fun e=>(aA (am T) lr q.ho) (e▸hx)) ay)) (bq.updl F q.hl rfl)) U (fun x hx=>(aa (fun e=>(aA (aj.lt N) (le (le (le (le (le (le (le (le o.size d.size) i.size) j.size) g.size) p.size) h.size) k.size) J.size) q.ho) (e▸hx)) ay)) (bq.upd16 U (ak (aj.safe be _ (by decide)) aG))) a7 (fun x hx=>(aa (fun e=>(aA (aj.lt N) (le (le (le (le (le (le (le (le o.size d.size) i.size) j.size) g.size) p.size) h.size) k.size) J.size) q.ho) (e▸hx)) ay)) (bq.upd16 a7 (ak (aj.safe bg _ (by decide)) aG))) ad (fun x hx=>(aa (fun e=>(aA (am M) (le (le (le (le (le (le (le (le (le (le (le (le O.size v.size) t.size) r.size) o.size) d.size) i.size) j.size) g.size) p.size) h.size) k.size) J.size) q.ho) (e▸hx)) ay)) (bq.upd16 ad (ak (aM ca (by decide)) aG))) aL (fun x hx=>(aa (fun e=>(aA (am ar) lr q.ho) (e▸hx)) ay)) (bq.updl aL cd rfl)
 have hs:ae b7 dir 21 b=aH (aQ.mk 21 0 0 0 0 0 0 0 0 0 0 0 [] [] [] (aP cT (ah.mk ((((ah.mk b false 0).bytesC 1).need (ep ((ah.mk b false 0).byteV)) 5).bytesR ((ah.mk b false 0).byteV)) false 0).l.length 0 (ah.mk ((((ah.mk b false 0).bytesC 1).need (ep ((ah.mk b false 0).byteV)) 5).bytesR ((ah.mk b false 0).byteV)) false 0) []).2 0 0 0 0 0 []) (((((ah.mk b false 0).bytesC 1).need (ep ((ah.mk b false 0).byteV)) 5).bytesC ((ah.mk b false 0).byteV)).need (((aP cT (ah.mk ((((ah.mk b false 0).bytesC 1).need (ep ((ah.mk b false 0).byteV)) 5).bytesR ((ah.mk b false 0).byteV)) false 0).l.length 0 (ah.mk ((((ah.mk b false 0).bytesC 1).need (ep ((ah.mk b false 0).byteV)) 5).bytesR ((ah.mk b false 0).byteV)) false 0) []).1).e==0) (bp ((aP cT (ah.mk ((((ah.mk b false 0).bytesC 1).need (ep ((ah.mk b false 0).byteV)) 5).bytesR ((ah.mk b false 0).byteV)) false 0).l.length 0 (ah.mk ((((ah.mk b false 0).bytesC 1).need (ep ((ah.mk b false 0).byteV)) 5).bytesR ((ah.mk b false 0).byteV)) false 0) []).1).e)):=by
   unfold ae b7 dX uO uL kV
   (try simp only[aO,a9,bs,if_true,if_false,decide_true,decide_false,eq_self,true_or,or_true,or_false,false_or,if_true,if_false,cl,cj,cm,ck,reduceIte,mn,lC,lB,if_pos hd])
   all_goals rfl
 rw[hs]
 exact bA bo (ut c9 cg (ac (nr bt) (ac (ni (le (le (le (le (le (le (le (le (le (le (le (le al.size O.size) v.size) t.size) r.size) o.size) d.size) i.size) j.size) g.size) p.size) h.size) k.size) D) au)))
 have bo:=ai a9
 refine bi<|sg<|?_
 have br:=us F a8
 refine L0<|ci (aD.blk br (aa a4 (aa (Ne.symm (nb (aj.lt N) (le (le (le (le o.size d.size) i.size) j.size) g.size) H)) ay)) cQ)<|?_
 have ch:=ub (ud a2 bm a1) M
 refine L0<|aW ch (mG 21 0 0 0 0 0 0 0 0 0 0 0 nS nS nS (.slice c1 ((aP cT (ah.mk (x51.bytesR ((ah.mk b false 0).byteV)) false 0).l.length 0 (ah.mk (x51.bytesR ((ah.mk b false 0).byteV)) false 0) []).2.length) c2) 0 0 0 0 0 nS) fun dV cW af=>Pl 1<|nt<|rt<|?_
 have cn:=nb (am M) (le (le (le (le (le (le (le (le (le (le (le O.size v.size) t.size) r.size) o.size) d.size) i.size) j.size) g.size) p.size) h.size) k.size) D
 have co:=aD.blk (u1 (aD.mono (S':=[P,z,B,I,a3,ag]) bh (ac im (ac im (ac im (ac im (ac im au)))))) af im) (aa (Ne.symm (nb (aj.lt S) (le (le p.size h.size) k.size) D)) (aa (Ne.symm (nb (am G) (le (le (le (le (le (le (le (le (le (le v.size t.size) r.size) o.size) d.size) i.size) j.size) g.size) p.size) h.size) k.size) D)) (aa (Ne.symm (nb (am X) (le h.size k.size) D)) (aa bJ (aa (Ne.symm (nb (aj.lt N) (le (le (le (le (le (le (le o.size d.size) i.size) j.size) g.size) p.size) h.size) k.size) D)) (aa (Ne.symm cn) ay)))))) ar
 refine xK co fun dW aN=>?_
 refine rx (aX aN cn cW) (.int .i64 0)<|?_
 subst c7 c4 bC bz
 have cq:=us af aN
 have dY:=ut (aD.mono (S':=[I,a3,ag,cG]) br (ac im (ac im au))) cq (ac im (ac im au))
 have dZ:=u1 (aD.mono (S':=[I,a3,ag]) br (ac im (ac im au))) af im
 have e0:=ub (ud a2 (ut (aD.mono (S':=[z]) az au) q.u (ac (ni aJ.size Q) (ac im (ac (ni (le (le (le (le (le r.size o.size) d.size) i.size) j.size) g.size) H) (ac (ni (le (le (le (le (le (le (le (le r.size o.size) d.size) i.size) j.size) g.size) p.size) h.size) k.size) E) au))))) a1) M
 have e1:=aj.upd aS (ut (aD.mono (S':=[z]) ap au) (ut (aD.mono (S':=[P,z,B]) Y au) q.u (ac im (ac im (ac im (ac (ni k.size E) au))))) (ac (nr Q) (ac im (ac (ni g.size H) au)))) (aa (Ne.symm bc) ay) (ak (aM bd (by decide)) aG)
 have e2:=us F U
 have hs:ae b7 dir 21 b=aH (aQ.mk 21 0 0 0 0 0 0 0 0 0 0 0 [] [] [] (aP cT (ah.mk ((((ah.mk b false 0).bytesC 1).need (ep ((ah.mk b false 0).byteV)) 5).bytesR ((ah.mk b false 0).byteV)) false 0).l.length 0 (ah.mk ((((ah.mk b false 0).bytesC 1).need (ep ((ah.mk b false 0).byteV)) 5).bytesR ((ah.mk b false 0).byteV)) false 0) []).2 0 0 0 0 0 []) (((((ah.mk b false 0).bytesC 1).need (ep ((ah.mk b false 0).byteV)) 5).bytesC ((ah.mk b false 0).byteV)).need (((aP cT (ah.mk ((((ah.mk b false 0).bytesC 1).need (ep ((ah.mk b false 0).byteV)) 5).bytesR ((ah.mk b false 0).byteV)) false 0).l.length 0 (ah.mk ((((ah.mk b false 0).bytesC 1).need (ep ((ah.mk b false 0).byteV)) 5).bytesR ((ah.mk b false 0).byteV)) false 0) []).1).e==0) (bp ((aP cT (ah.mk ((((ah.mk b false 0).bytesC 1).need (ep ((ah.mk b false 0).byteV)) 5).bytesR ((ah.mk b false 0).byteV)) false 0).l.length 0 (ah.mk ((((ah.mk b false 0).bytesC 1).need (ep ((ah.mk b false 0).byteV)) 5).bytesR ((ah.mk b false 0).byteV)) false 0) []).1).e)):=by
   unfold ae b7 dX uO uL kV
   (try simp only[aO,a9,bs,if_true,if_false,decide_true,decide_false,eq_self,true_or,or_true,or_false,false_or,if_true,if_false,cl,cj,cm,ck,reduceIte,mn,lC,lB,if_pos hd])
   all_goals rfl
 rw[hs]
 exact bF bo ⟨_,_,_,_,_,rfl,aK.nil ..,aK.nil ..,aK.nil ..,((ax (ax (ax (ax (ax q.ho F (fun x hx=>(aa (fun e=>(aA (am T) lr q.ho) (e▸hx)) ay)) (bq.updl F q.hl rfl)) U (fun x hx=>(aa (fun e=>(aA (aj.lt N) (le (le (le (le (le (le (le (le o.size d.size) i.size) j.size) g.size) p.size) h.size) k.size) J.size) q.ho) (e▸hx)) ay)) (bq.upd16 U (ak (aj.safe be _ (by decide)) aG))) a7 (fun x hx=>(aa (fun e=>(aA (aj.lt N) (le (le (le (le (le (le (le (le o.size d.size) i.size) j.size) g.size) p.size) h.size) k.size) J.size) q.ho) (e▸hx)) ay)) (bq.upd16 a7 (ak (aj.safe bg _ (by decide)) aG))) af (fun x hx=>(aa (fun e=>(aA (am M) (le (le (le (le (le (le (le (le (le (le (le (le O.size v.size) t.size) r.size) o.size) d.size) i.size) j.size) g.size) p.size) h.size) k.size) J.size) q.ho) (e▸hx)) ay)) (bq.upd16 af (ak (aM ch (by decide)) aG))) aN (fun x hx=>(aa (fun e=>(aA (am ar) lr q.ho) (e▸hx)) ay)) (bq.updl aN co rfl))).rd,aK.nil ..,⟨(b8 (x:=21) (by omega)),(b8 (x:=0) (by omega)),(aB (x:=0) (by omega)),(aB (x:=0) (by omega)),(aB (x:=0) (by omega)),(aB (x:=0) (by omega)),(aB (x:=0) (by omega)),(aB (x:=0) (by omega)),(aB (x:=0) (by omega)),(aB (x:=0) (by omega)),(aB (x:=0) (by omega)),(aB (x:=0) (by omega)),(b8 (x:=0) (by omega)),(b8 (x:=0) (by omega)),(b8 (x:=0) (by omega)),(b8 (x:=0) (by omega)),(b8 (x:=0) (by omega))⟩⟩ (ut c9 cq (ac (nr bt) (ac (ni (le (le (le (le (le (le (le (le (le (le (le (le al.size O.size) v.size) t.size) r.size) o.size) d.size) i.size) j.size) g.size) p.size) h.size) k.size) D) au)))
theorem sK{A:Option Addr}{cp:Nat}{b:List Int}{w:World}{c:Int}(n1:(c==20)=false)(n2:(c==21)=false) : Calls Tryz.prog 144 #[.int .i64 0,.int .u8 c,.slice A b.length cp] w (dP (ae b7 0 c b) w):=by
 refine xN 77 Tryz.func144 rfl<|sg<|L0<|bE mZ fun n o d e f=>Pl 1<|nt<|sq<|sg<|Pl 6<|nt<|c0<|?_
 refine bi<|sg<|Pl 2<|L0<|Oc (args:=#[.int .i64 0,.int .u8 c])<|m1 (o7 (dir:=0) (x:=c) n1 n2) fun p g=>Pl 3<|L0<|bE #[.nilFunc,.nilFunc] fun q r h i j=>L0<|aW i #[.nilFunc,.nilFunc] fun s t k=>Pl 1<|nt<|sq<|sq<|?_
 refine go<|Pl 2<|nt<|c1<|sg<|Pl 1<|?_
 have a:=aF g (ud j k h)
 refine L0<|aW (ub a e) mZ fun u l m=>Pl 1<|nt<|rt<|tr<|ry l (.int .i64 4)<|?_
 have hs:ae b7 0 c b=(aQ.zero,4):=by
   unfold ae b7
   (try simp only[bs,if_true,if_false,decide_true,decide_false,eq_self,true_or,or_true,or_false,false_or,if_true,if_false,cl,cj,cm,ck,reduceIte,n1,n2])
   all_goals rfl
 rw[hs]
 exact cJ (ud f (uz a m) d)
theorem sf{A:Option Addr}{cp:Nat}{b:List Int}{w:World}{c:Int}(n1:(c==20)=false)(n2:(c==21)=false) : Calls Tryz.prog 144 #[.int .i64 1,.int .u8 c,.slice A b.length cp] w (dP (ae b7 1 c b) w):=by
 refine xN 77 Tryz.func144 rfl<|sg<|L0<|bE mZ fun n o d e f=>Pl 1<|nt<|sq<|sg<|Pl 6<|nt<|c0<|?_
 refine bi<|sg<|Pl 2<|L0<|Oc (args:=#[.int .i64 1,.int .u8 c])<|m1 (o7 (dir:=1) (x:=c) n1 n2) fun p g=>Pl 3<|L0<|bE #[.nilFunc,.nilFunc] fun q r h i j=>L0<|aW i #[.nilFunc,.nilFunc] fun s t k=>Pl 1<|nt<|sq<|sq<|?_
 refine go<|Pl 2<|nt<|c1<|sg<|Pl 1<|?_
 have a:=aF g (ud j k h)
 refine L0<|aW (ub a e) mZ fun u l m=>Pl 1<|nt<|rt<|tr<|ry l (.int .i64 4)<|?_
 have hs:ae b7 1 c b=(aQ.zero,4):=by
   unfold ae b7
   (try simp only[bs,if_true,if_false,decide_true,decide_false,eq_self,true_or,or_true,or_false,false_or,if_true,if_false,cl,cj,cm,ck,reduceIte,n1,n2])
   all_goals rfl
 rw[hs]
 exact cJ (ud f (uz a m) d)
theorem sE{A:Option Addr}{cp:Nat}{b:List Int}{w:World}{dir c:Int}(hd:¬ (dir=0∨dir=1)) : Calls Tryz.prog 144 #[.int .i64 dir,.int .u8 c,.slice A b.length cp] w (dP (ae b7 dir c b) w):=by
 have e0:(dir != 0)=true:=by simp;omega
 have e1:(dir != 1)=true:=by simp;omega
 refine xN 77 Tryz.func144 rfl<|sg<|L0<|bE mZ fun g h a d e=>Pl 1<|nt<|sq<|sg<|Pl 3<|sy 18 e0<|Pl 3<|nl<|?_
 refine tn<|ct e1<|sg<|Pl 1<|L0<|aW d mZ fun i dx f=>Pl 1<|nt<|rt<|tr<|ry dx (.int .i64 1)<|?_
 have hs:ae b7 dir c b=(aQ.zero,1):=by
   unfold ae b7
   (try simp only[e0,e1,bs,if_true,if_false,decide_true,decide_false,eq_self,true_or,or_true,or_false,false_or,if_true,if_false,cl,cj,cm,ck,reduceIte,hd])
   all_goals rfl
 rw[hs]
 exact cJ (ud e f a)
theorem jm{m:Md}{v:Value}{b:List Int}{w:World}{dir c:Int}(hc:B8 c)(h:aT m w v b)(hb:b.length≤1048576) :
    Calls Tryz.prog 144 #[.int .i64 dir,.int .u8 c,v] w (dP (ae b7 dir c b) w):=by
  obtain⟨A,cp,rfl,_,_⟩:=h.shape
  by_cases h0:dir=0
  · subst h0
    by_cases a:c=20
    · subst a;exact oI (Or.inl (rfl:(0:Int)=0)) h hb
    by_cases d:c=21
    · subst d;exact m8 (Or.inl rfl) h hb
    exact sK (by simpa using a) (by simpa using d)
  by_cases h1:dir=1
  · subst h1
    by_cases a:c=20
    · subst a;exact oH (Or.inl (rfl:(0:Int)=0)) h hb
    by_cases d:c=21
    · subst d;exact m8 (Or.inr rfl) h hb
    exact sf (by simpa using a) (by simpa using d)
  exact sE (by omega)
open Go.RowKit
def eZ (res:Option (List Int))(w:World)(e:Ending)(w':World) : Prop :=
  match res with
  | some l=>∃ v,e = .returned (.tuple #[v,.int .i64 0])∧eq w.heap.size w' v l∧aD [] w w'
  | none=>e = .returned (.tuple #[.slice none 0 0,.int .i64 1])∧aD [] w w'
def cY (parse:Int→Int→List Int→aQ × Int)(lay:Int→aQ→List Int)(dir:Int)(M:aQ) : Option (List Int) :=
  if parse dir M.code (lay dir M)=(M,0) then some (lay dir M) else none
def fv:=ae aE
def g8:=ae aI
def fU:=ae aO
def gL:=ae bG
def fp:=ae b7
open Go.RowKit
def l7 (M:aQ) : Option (List Int):=if !(gO M.code M.fail) then none else if !(decide (M=qa M.code M.fail)) then none else some [(M.code+128)%256,M.fail]
theorem dT{x y:Option (List Int)}(h:x=y){w:World}{e:Ending}{w':World}(k:eZ y w e w') : eZ x w e w':=by rw[h];exact k
theorem lG{m:Md}{cs:Array Value}{M:aQ}{w:World}(h:aL m w cs.toList M) : Calls Tryz.prog 100 #[.agg cs] w (eZ (l7 M) w):=by
 have hM:=h
 obtain⟨vw,vb,vd,vr,vo,h0,hw,hbt,hd,hr,ho,hR⟩:=h
 obtain rfl:cs=(bM M vw vb vd vr vo).toArray:=by apply Array.toList_inj.1;simpa using h0
 clear h0
 obtain⟨Aw,kw,rfl,_,_⟩:=hw.shape
 obtain⟨Ab,kb,rfl,_,_⟩:=hbt.shape
 obtain⟨Ad,kd,rfl,_,_⟩:=hd.shape
 obtain⟨Ar,kr,rfl,_,_⟩:=hr.shape
 obtain⟨Ao,ko,rfl,_,_⟩:=ho.shape
 obtain⟨q0,q1,q2,q3,q4,q5,q6,q7,q8,q9,I,J,K,L,N,O,P⟩:=hR
 simp only[B8,dx] at q0 q1 q2 q3 q4 q5 q6 q7 q8 q9 I J K L N O P
 refine en 26 Tryz.func100 rfl<|sg<|L0<|dq (mG M.code M.fail M.addr M.count M.value M.and_ M.or_ M.addr2 M.sub M.status M.events M.messages (.slice Aw M.words.length kw) (.slice Ab M.bits.length kb) (.slice Ad M.data.length kd) (.slice Ar M.recs.length kr) M.mei M.kind M.level M.more M.next (.slice Ao M.objects.length ko)) fun s a3 a4 k Q=>Pl 2<|ng<|Pl 1<|L0<|aU k 0<|Pl 1<|L0<|aU k 1<|Pl 1<|L0<|bE #[.int .u8 0,.int .u8 0] fun l a5 R S T=>?_
 refine L0<|aW S #[.int .u8 M.code,.int .u8 M.fail] fun a6 U V=>nt<|sq<|sq<|Rg 10 (fun w'=>w'.heap[l]? = some (.cells #[.int .u8 M.code,.int .u8 M.fail] 154 (0,0))∧w'.heap[s]? = some (.cells (mG M.code M.fail M.addr M.count M.value M.and_ M.or_ M.addr2 M.sub M.status M.events M.messages (.slice Aw M.words.length kw) (.slice Ab M.bits.length kb) (.slice Ad M.data.length kd) (.slice Ar M.recs.length kr) M.mei M.kind M.level M.more M.next (.slice Ao M.objects.length ko)) 30 (0,0))) fun a7 t=>?_
 have u:=ub t U
 have v:=ud T (aF V t) R
 have y:=ub v k
 refine bg ⟨u,y⟩ fun W=>Rr 0 W (.agg #[.int .u8 M.code,.int .u8 M.fail]) (fun w' hs=>gM (g:=l) (off:=0) [.int .u8 M.code,.int .u8 M.fail] rfl (by kernel_rfl) hs.1 (by kernel_rfl) (by kernel_rfl) rfl)<|R0 1 rfl<|Oc<|m1 (sj (a:=M.code) (b:=M.fail) (w:=_)) fun a8 n=>?_
 have z:=ub n u
 have C:=ub n y
 refine bg ⟨z,C⟩ fun c=>Rt 2 c<|Rt 3 c<|?_
 have D:=aF Q (aF v n)
 refine rN 13 ((!(gO M.code M.fail))) (fun d=>?_) (fun d=>?_)
 have j:(gO M.code M.fail)=false:=by simpa using d
 refine Ro 4 c<|Ro 5 c<|Ro 6 c<|Ro 7 c<|Ro 8 c<|Rt 9 c<|re<|tn<|c1<|sg<|Pl 2<|nt<|?_
 refine rt<|tr<|rr (.tuple #[.slice none 0 0,.int .i64 1])<|?_
 have hs:l7 M=none:=by
   unfold l7
   (try simp only[d,j,bs,if_true,if_false,decide_true,decide_false,reduceIte])
   all_goals rfl
 refine dT hs ?_
 exact⟨rfl,D⟩
 have j:(gO M.code M.fail)=true:=by simpa using d
 refine Rr 4 c (.agg (mG M.code M.fail M.addr M.count M.value M.and_ M.or_ M.addr2 M.sub M.status M.events M.messages (.slice Aw M.words.length kw) (.slice Ab M.bits.length kb) (.slice Ad M.data.length kd) (.slice Ar M.recs.length kr) M.mei M.kind M.level M.more M.next (.slice Ao M.objects.length ko))) (fun w' hs=>gM (g:=s) (off:=0) [.int .u8 M.code,.int .u8 M.fail,.int .u16 M.addr,.int .u16 M.count,.int .u16 M.value,.int .u16 M.and_,.int .u16 M.or_,.int .u16 M.addr2,.int .u16 M.sub,.int .u16 M.status,.int .u16 M.events,.int .u16 M.messages,.slice Aw M.words.length kw,.slice Ab M.bits.length kb,.slice Ad M.data.length kd,.slice Ar M.recs.length kr,.int .u8 M.mei,.int .u8 M.kind,.int .u8 M.level,.int .u8 M.more,.int .u8 M.next,.slice Ao M.objects.length ko] rfl (by kernel_rfl) hs.2 (by kernel_rfl) (by kernel_rfl) rfl)<|Rr 5 c (.agg #[.int .u8 M.code,.int .u8 M.fail]) (fun w' hs=>gM (g:=l) (off:=0) [.int .u8 M.code,.int .u8 M.fail] rfl (by kernel_rfl) hs.1 (by kernel_rfl) (by kernel_rfl) rfl)<|R0 6 rfl<|Oc<|m1 (kj (a:=M.code) (b:=M.fail) (w:=_)) fun a9 o=>?_
 have E:=ub o z
 have F:=ub o C
 refine bg ⟨E,F⟩ fun aa=>?_
 have G:=aF D o
 refine R0 7 rfl<|Oc<|m1 (fY (A:=M) (B:=qa M.code M.fail) (aL.old hM G) (show aL true _ _ _ from⟨_,_,_,_,_,rfl,aK.nil ..,aK.nil ..,aK.nil ..,aK.nil ..,aK.nil ..,⟨(b8 (x:=M.code) (by omega)),(b8 (x:=M.fail) (by omega)),(aB (x:=0) (by omega)),(aB (x:=0) (by omega)),(aB (x:=0) (by omega)),(aB (x:=0) (by omega)),(aB (x:=0) (by omega)),(aB (x:=0) (by omega)),(aB (x:=0) (by omega)),(aB (x:=0) (by omega)),(aB (x:=0) (by omega)),(aB (x:=0) (by omega)),(b8 (x:=0) (by omega)),(b8 (x:=0) (by omega)),(b8 (x:=0) (by omega)),(b8 (x:=0) (by omega)),(b8 (x:=0) (by omega))⟩⟩)) fun ab p=>?_
 have q:=ub p F
 refine bg ⟨(ub p E),q⟩ fun H=>Rt 8 H<|Rt 9 H<|re<|tn<|?_
 have r:=aF G p
 refine cb ((!(decide (M=qa M.code M.fail)))) (fun f=>?_) (fun f=>?_)
 have i:(decide (M=qa M.code M.fail))=false:=by simpa using f
 have X:=of_decide_eq_false i
 refine sg<|Pl 2<|nt<|rt<|tr<|rr (.tuple #[.slice none 0 0,.int .i64 1])<|?_
 have hs:l7 M=none:=by
   unfold l7
   (try simp only[d,j,f,i,bs,if_true,if_false,decide_true,decide_false,reduceIte])
   all_goals rfl
 refine dT hs ?_
 exact⟨rfl,r⟩
 have i:(decide (M=qa M.code M.fail))=true:=by simpa using f
 have X:=of_decide_eq_true i
 refine bi<|sg<|Pl 1<|L0<|aU q 0<|Pl 2<|L0<|aU q 1<|L0<|dD (m:=2) (e:=5) #[.int .u8 ((M.code+128)%256),.int .u8 M.fail] fun Y ac Z a0 a1=>?_
 have a2:=dR Z (xs:=[((M.code+128)%256),M.fail]) (by as_aux_lemma=>kernel_rfl) (az (by omega) (az (by omega) aZ)) (by(try simp only[List.length_cons,List.length_nil]);omega) a0
 refine Pl 2<|nt<|rt<|rr (.tuple #[.slice (some ⟨Y,0,none⟩) 2 2,.int .i64 0])<|?_
 have hs:l7 M=(some [((M.code+128)%256),M.fail]):=by
   unfold l7
   (try simp only[d,j,f,i,bs,if_true,if_false,decide_true,decide_false,reduceIte])
   all_goals rfl
 refine dT hs ?_
 exact⟨_,rfl,(be.weaken a2 r.size),(aF r a1)⟩
open Go.RowKit
def bL (dir:Int)(M:aQ) : List Int :=
  if (!(dir==0))&&(M.code==3 || M.code==4 || M.code==23) then [(2*(M.words.length:Int))%256]++b9 M.words
  else if M.code==6 then b9 [M.addr,M.value]
  else if M.code==22 then b9 [M.addr,M.and_,M.or_]
  else if M.code==16&&dir==0 then ((b9 [M.addr,M.count]++[(2*(M.words.length:Int))%256])++b9 M.words)
  else if M.code==23 then ((b9 [M.addr,M.count,M.addr2,(M.words.length:Int)%65536]++[(2*(M.words.length:Int))%256])++b9 M.words)
  else if M.code==24&&dir==0 then b9 [M.addr]
  else if M.code==24 then b9 [(2+2*(M.words.length:Int))%65536,(M.words.length:Int)%65536]++b9 M.words
  else b9 [M.addr,M.count]
theorem pJ{m:Md}{cs:Array Value}{M:aQ}{w:World}{dir:Int}(h:aL m w cs.toList M)(hf:cO M)(hd0:(dir==0)=true) : Calls Tryz.prog 205 #[.int .i64 dir,.agg cs] w (ip (bL dir M) w):=by
 obtain⟨vw,vb,vd,vr,vo,h0,hw,hbt,hd,hr,ho,hR⟩:=h
 obtain rfl:cs=(bM M vw vb vd vr vo).toArray:=by apply Array.toList_inj.1;simpa using h0
 clear h0
 obtain⟨Aw,kw,rfl,_,_⟩:=hw.shape
 obtain⟨Ab,kb,rfl,_,_⟩:=hbt.shape
 obtain⟨Ad,kd,rfl,_,_⟩:=hd.shape
 obtain⟨Ar,kr,rfl,_,_⟩:=hr.shape
 obtain⟨Ao,ko,rfl,_,_⟩:=ho.shape
 obtain⟨q0,q1,q2,q3,q4,q5,q6,q7,q8,q9,X,Y,Z,a0,a1,a2,a3⟩:=hR
 simp only[B8,dx] at q0 q1 q2 q3 q4 q5 q6 q7 q8 q9 X Y Z a0 a1 a2 a3
 have hf1:=hf.words
 have hf2:=hf.bits
 have hf3:=hf.data
 have hf4:=hf.recs
 have hf5:=hf.objects
 refine en 124 Tryz.func205 rfl<|sg<|L0<|dq (mG M.code M.fail M.addr M.count M.value M.and_ M.or_ M.addr2 M.sub M.status M.events M.messages (.slice Aw M.words.length kw) (.slice Ab M.bits.length kb) (.slice Ad M.data.length kd) (.slice Ar M.recs.length kr) M.mei M.kind M.level M.more M.next (.slice Ao M.objects.length ko)) fun bb bc bd y i=>Pl 1<|ng<|Pl 1<|L0<|aU y 12<|Pl 2<|nt<|?_
 refine sg<|Pl 1<|L0<|Oi (2*((M.words.length:Nat) : Int))<|Pl 1<|L0<|dD (m:=1) (e:=5) #[.int .u8 ((2*((M.words.length:Nat) : Int))%256)] fun bf bg a4 a5 d=>?_
 have z:=dR a4 (xs:=[((2*((M.words.length:Nat) : Int))%256)]) (by as_aux_lemma=>kernel_rfl) (az (by omega) aZ) (by(try simp only[List.length_cons,List.length_nil]);omega) a5
 refine Pl 1<|?_
 have A:=ub d y
 refine L0<|aU A 12<|?_
 have B:=aF i d
 refine L0<|Oc<|ej (bC (xs:=M.words) (e8.old hw B) (by(try simp only[List.length_cons,List.length_nil]);omega)) fun bh bi bj C bm bo b=>Pl 2<|ng<|Pl 3<|nt<|sq<|sg<|Pl 1<|?_
 have a:=ub b A
 refine L0<|aU a 0<|Pl 1<|nt<|bk<|sg<|Pl 3<|?_
 have j:(!(dir==0))=false:=by simp only[hd0,Bool.not_true,Bool.not_false]
 refine sy 27 j<|Pl 12<|nt<|c0<|sg<|Pl 3<|nt<|?_
 have l:=aF B b
 refine cb ((M.code==6)) (fun c=>?_) (fun c=>?_)
 have a6:=al c
 refine sg<|Pl 1<|L0<|aU a 2<|Pl 1<|L0<|aU a 4<|L0<|dD (m:=2) (e:=24) #[.int .u16 M.addr,.int .u16 M.value] fun bp bq a7 a8 D=>?_
 have a9:=ek a7 (xs:=[M.addr,M.value]) (by as_aux_lemma=>kernel_rfl) (az (by omega) (az (by omega) aZ)) (by(try simp only[List.length_cons,List.length_nil]);omega) a8
 refine L0<|Oc<|ej (bC (xs:=[M.addr,M.value]) (a9).rd (by(try simp only[List.length_cons,List.length_nil]);omega)) fun aa ab bu ac bv bw ad=>Pl 1<|nt<|rt<|br<|tr<|rr (.slice aa ((b9 ([M.addr,M.value])).length) ab)<|?_
 have hs:bL dir M=(b9 ([M.addr,M.value])):=by
   unfold bL
   (try simp only[hd0,j,c,bs,if_true,if_false,decide_true,decide_false,reduceIte])
   all_goals rfl
 rw[hs]
 exact⟨_,rfl,(be.weaken ac (le (le (le i.size d.size) b.size) D.size)),(aF l (aF D ad))⟩
 have a6:=ap c
 refine sg<|Pl 3<|nt<|cb ((M.code==22)) (fun f=>?_) (fun f=>?_)
 have ae:=al f
 refine sg<|Pl 1<|L0<|aU a 2<|Pl 1<|L0<|aU a 5<|Pl 1<|L0<|aU a 6<|L0<|dD (m:=3) (e:=24) #[.int .u16 M.addr,.int .u16 M.and_,.int .u16 M.or_] fun bx bz af ag E=>?_
 have ah:=ek af (xs:=[M.addr,M.and_,M.or_]) (by as_aux_lemma=>kernel_rfl) (az (by omega) (az (by omega) (az (by omega) aZ))) (by(try simp only[List.length_cons,List.length_nil]);omega) ag
 refine L0<|Oc<|ej (bC (xs:=[M.addr,M.and_,M.or_]) (ah).rd (by(try simp only[List.length_cons,List.length_nil]);omega)) fun ai aj bA ak bB bD am=>Pl 1<|nt<|rt<|br<|tr<|rr (.slice ai ((b9 ([M.addr,M.and_,M.or_])).length) aj)<|?_
 have hs:bL dir M=(b9 ([M.addr,M.and_,M.or_])):=by
   unfold bL
   (try simp only[hd0,j,c,f,bs,if_true,if_false,decide_true,decide_false,reduceIte])
   all_goals rfl
 rw[hs]
 exact⟨_,rfl,(be.weaken ak (le (le (le i.size d.size) b.size) E.size)),(aF l (aF E am))⟩
 have ae:=ap f
 refine sg<|Pl 3<|cu 2 [65] 67 (((M.code==16)&&(dir==0))) (fun K F=>?_) ?_
 refine bl 65 ((M.code==16)) (fun q=>?_) (fun q=>?_)
 have an:=al q
 exact Pl 2<|ce F (dir==0) (by rw[q];rfl)
 have an:=ap q
 exact Pl 2<|ce F false (by rw[q];rfl)
 refine Pl 1<|nt<|cb (((M.code==16)&&(dir==0))) (fun g=>?_) (fun g=>?_)
 have k:=(aR g).1
 have G:=(aR g).2
 have ao:=al k
 have bE:=al G
 refine sg<|Pl 1<|L0<|aU a 2<|Pl 1<|L0<|aU a 3<|L0<|dD (m:=2) (e:=24) #[.int .u16 M.addr,.int .u16 M.count] fun bF bG aq ar s=>?_
 have aw:=ek aq (xs:=[M.addr,M.count]) (by as_aux_lemma=>kernel_rfl) (az (by omega) (az (by omega) aZ)) (by(try simp only[List.length_cons,List.length_nil]);omega) ar
 refine L0<|Oc<|ej (bC (xs:=[M.addr,M.count]) (aw).rd (by(try simp only[List.length_cons,List.length_nil]);omega)) fun bH bI bJ H bK bN u=>Pl 1<|?_
 have I:=aF s u
 refine L0<|cR bt (xs:=(b9 ([M.addr,M.count]))) (ys:=([((2*((M.words.length:Nat) : Int))%256)])) (.int .u8 0) 1 H ((ax z (aF b I) (fun x hx=>ay) (fun _ _ h=>h))).rd (by(try simp only[List.length_append,List.length_cons,List.length_nil,aC]);omega) u.size fun bO bP bQ J L=>Pl 1<|?_
 have N:=ut I L (av (aV H s.size) au)
 refine L0<|cR bt (xs:=((b9 ([M.addr,M.count]))++[((2*((M.words.length:Nat) : Int))%256)])) (ys:=(b9 M.words)) (.int .u8 0) 1 J ((ax C N (fun x hx=>ay) (fun _ _ h=>h))).rd (by(try simp only[List.length_append,List.length_cons,List.length_nil,aC]);omega) (le u.size L.size) fun aA aB bR aD aE=>Pl 1<|nt<|rt<|br<|tr<|rr (.slice aA ((((b9 ([M.addr,M.count]))++[((2*((M.words.length:Nat) : Int))%256)])++(b9 M.words)).length) aB)<|?_
 have hs:bL dir M=(((b9 ([M.addr,M.count]))++[((2*((M.words.length:Nat) : Int))%256)])++(b9 M.words)):=by
   unfold bL
   (try simp only[G,j,c,f,g,k,bs,if_true,if_false,decide_true,decide_false,reduceIte])
   all_goals rfl
 rw[hs]
 exact⟨_,rfl,(be.weaken aD (le (le (le i.size d.size) b.size) s.size)),(aF l (ut N aE (av (aV J s.size) au)))⟩
 have k:(M.code==16)=false:=by simpa only[hd0,bs] using g
 have ao:=ap k
 refine sg<|Pl 3<|nt<|cb ((M.code==23)) (fun n=>?_) (fun n=>?_)
 have aG:=al n
 refine sg<|Pl 1<|L0<|aU a 2<|Pl 1<|L0<|aU a 3<|Pl 1<|L0<|aU a 7<|Pl 2<|L0<|dD (m:=4) (e:=24) #[.int .u16 M.addr,.int .u16 M.count,.int .u16 M.addr2,.int .u16 (((M.words.length:Nat) : Int)%65536)] fun bS bT aH aI t=>?_
 have aJ:=ek aH (xs:=[M.addr,M.count,M.addr2,(((M.words.length:Nat) : Int)%65536)]) (by as_aux_lemma=>kernel_rfl) (az (by omega) (az (by omega) (az (by omega) (az (by omega) aZ)))) (by(try simp only[List.length_cons,List.length_nil]);omega) aI
 refine L0<|Oc<|ej (bC (xs:=[M.addr,M.count,M.addr2,(((M.words.length:Nat) : Int)%65536)]) (aJ).rd (by(try simp only[List.length_cons,List.length_nil]);omega)) fun bU bV bW O bX bY v=>Pl 1<|?_
 have P:=aF t v
 refine L0<|cR bt (xs:=(b9 ([M.addr,M.count,M.addr2,(((M.words.length:Nat) : Int)%65536)]))) (ys:=([((2*((M.words.length:Nat) : Int))%256)])) (.int .u8 0) 1 O ((ax z (aF b P) (fun x hx=>ay) (fun _ _ h=>h))).rd (by(try simp only[List.length_append,List.length_cons,List.length_nil,aC]);omega) v.size fun bZ c1 c2 Q R=>Pl 1<|?_
 have S:=ut P R (av (aV O t.size) au)
 refine L0<|cR bt (xs:=((b9 ([M.addr,M.count,M.addr2,(((M.words.length:Nat) : Int)%65536)]))++[((2*((M.words.length:Nat) : Int))%256)])) (ys:=(b9 M.words)) (.int .u8 0) 1 Q ((ax C S (fun x hx=>ay) (fun _ _ h=>h))).rd (by(try simp only[List.length_append,List.length_cons,List.length_nil,aC]);omega) (le v.size R.size) fun aK aM c3 aN aO=>Pl 1<|nt<|rt<|br<|tr<|rr (.slice aK ((((b9 ([M.addr,M.count,M.addr2,(((M.words.length:Nat) : Int)%65536)]))++[((2*((M.words.length:Nat) : Int))%256)])++(b9 M.words)).length) aM)<|?_
 have hs:bL dir M=(((b9 ([M.addr,M.count,M.addr2,(((M.words.length:Nat) : Int)%65536)]))++[((2*((M.words.length:Nat) : Int))%256)])++(b9 M.words)):=by
   unfold bL
   (try simp only[hd0,j,c,f,g,k,n,bs,if_true,if_false,decide_true,decide_false,reduceIte])
   all_goals rfl
 rw[hs]
 exact⟨_,rfl,(be.weaken aN (le (le (le i.size d.size) b.size) t.size)),(aF l (ut S aO (av (aV Q t.size) au)))⟩
 have aG:=ap n
 refine sg<|Pl 3<|cu 2 [98] 100 (((M.code==24)&&(dir==0))) (fun K T=>?_) ?_
 refine bl 98 ((M.code==24)) (fun r=>?_) (fun r=>?_)
 have aP:=al r
 exact Pl 2<|ce T (dir==0) (by rw[r];rfl)
 have aP:=ap r
 exact Pl 2<|ce T false (by rw[r];rfl)
 refine Pl 1<|nt<|cb (((M.code==24)&&(dir==0))) (fun o=>?_) (fun o=>?_)
 have p:=(aR o).1
 have U:=(aR o).2
 have aS:=al p
 have c4:=al U
 refine sg<|Pl 1<|L0<|aU a 2<|L0<|dD (m:=1) (e:=24) #[.int .u16 M.addr] fun c5 c6 aT aW V=>?_
 have aX:=ek aT (xs:=[M.addr]) (by as_aux_lemma=>kernel_rfl) (az (by omega) aZ) (by(try simp only[List.length_cons,List.length_nil]);omega) aW
 refine L0<|Oc<|ej (bC (xs:=[M.addr]) (aX).rd (by(try simp only[List.length_cons,List.length_nil]);omega)) fun aY b0 c7 b1 c8 c9 b2=>Pl 1<|nt<|rt<|br<|tr<|rr (.slice aY ((b9 ([M.addr])).length) b0)<|?_
 have hs:bL dir M=(b9 ([M.addr])):=by
   unfold bL
   (try simp only[U,j,c,f,g,k,n,o,p,bs,if_true,if_false,decide_true,decide_false,reduceIte])
   all_goals rfl
 rw[hs]
 exact⟨_,rfl,(be.weaken b1 (le (le (le i.size d.size) b.size) V.size)),(aF l (aF V b2))⟩
 have p:(M.code==24)=false:=by simpa only[hd0,bs] using o
 have aS:=ap p
 refine sg<|Pl 3<|nt<|cf p<|sk<|bn<|tn<|sg<|Pl 1<|L0<|aU a 2<|Pl 1<|L0<|aU a 3<|?_
 refine L0<|dD (m:=2) (e:=24) #[.int .u16 M.addr,.int .u16 M.count] fun ca cc b3 b4 W=>?_
 have b5:=ek b3 (xs:=[M.addr,M.count]) (by as_aux_lemma=>kernel_rfl) (az (by omega) (az (by omega) aZ)) (by(try simp only[List.length_cons,List.length_nil]);omega) b4
 refine L0<|Oc<|ej (bC (xs:=[M.addr,M.count]) (b5).rd (by(try simp only[List.length_cons,List.length_nil]);omega)) fun b6 b7 cd b8 cg ch ba=>Pl 1<|nt<|rt<|rr (.slice b6 ((b9 ([M.addr,M.count])).length) b7)<|?_
 have hs:bL dir M=(b9 ([M.addr,M.count])):=by
   unfold bL
   (try simp only[hd0,j,c,f,g,k,n,o,p,bs,if_true,if_false,decide_true,decide_false,reduceIte])
   all_goals rfl
 rw[hs]
 exact⟨_,rfl,(be.weaken b8 (le (le (le i.size d.size) b.size) W.size)),(aF l (aF W ba))⟩
theorem pI{m:Md}{cs:Array Value}{M:aQ}{w:World}{dir:Int}(h:aL m w cs.toList M)(hf:cO M)(hd0:(dir==0)=false) : Calls Tryz.prog 205 #[.int .i64 dir,.agg cs] w (ip (bL dir M) w):=by
 obtain⟨vw,vb,vd,vr,vo,h0,hw,hbt,hd,hr,ho,hR⟩:=h
 obtain rfl:cs=(bM M vw vb vd vr vo).toArray:=by apply Array.toList_inj.1;simpa using h0
 clear h0
 obtain⟨Aw,kw,rfl,_,_⟩:=hw.shape
 obtain⟨Ab,kb,rfl,_,_⟩:=hbt.shape
 obtain⟨Ad,kd,rfl,_,_⟩:=hd.shape
 obtain⟨Ar,kr,rfl,_,_⟩:=hr.shape
 obtain⟨Ao,ko,rfl,_,_⟩:=ho.shape
 obtain⟨q0,q1,q2,q3,q4,q5,q6,q7,q8,q9,R,S,T,U,V,W,X⟩:=hR
 simp only[B8,dx] at q0 q1 q2 q3 q4 q5 q6 q7 q8 q9 R S T U V W X
 have hf1:=hf.words
 have hf2:=hf.bits
 have hf3:=hf.data
 have hf4:=hf.recs
 have hf5:=hf.objects
 refine en 124 Tryz.func205 rfl<|sg<|L0<|dq (mG M.code M.fail M.addr M.count M.value M.and_ M.or_ M.addr2 M.sub M.status M.events M.messages (.slice Aw M.words.length kw) (.slice Ab M.bits.length kb) (.slice Ad M.data.length kd) (.slice Ar M.recs.length kr) M.mei M.kind M.level M.more M.next (.slice Ao M.objects.length ko)) fun aS aT aW A d=>Pl 1<|ng<|Pl 1<|L0<|aU A 12<|Pl 2<|nt<|?_
 refine sg<|Pl 1<|L0<|Oi (2*((M.words.length:Nat) : Int))<|Pl 1<|L0<|dD (m:=1) (e:=5) #[.int .u8 ((2*((M.words.length:Nat) : Int))%256)] fun aX aY Y Z f=>?_
 have B:=dR Y (xs:=[((2*((M.words.length:Nat) : Int))%256)]) (by as_aux_lemma=>kernel_rfl) (az (by omega) aZ) (by(try simp only[List.length_cons,List.length_nil]);omega) Z
 refine Pl 1<|?_
 have C:=ub f A
 refine L0<|aU C 12<|?_
 have D:=aF d f
 refine L0<|Oc<|ej (bC (xs:=M.words) (e8.old hw D) (by(try simp only[List.length_cons,List.length_nil]);omega)) fun b0 b1 b2 E b3 b4 a=>Pl 2<|ng<|Pl 3<|nt<|sq<|sg<|Pl 1<|?_
 have b:=ub a C
 refine L0<|aU b 0<|Pl 1<|nt<|bk<|sg<|Pl 3<|?_
 have i:(!(dir==0))=true:=by simp only[hd0,Bool.not_true,Bool.not_false]
 refine sy 27 i<|Pl 3<|cu 3 [30] 33 (((M.code==3)||(M.code==4))) (fun K F=>?_) ?_
 refine bl 30 ((M.code==3)) (fun n=>?_) (fun n=>?_)
 have a0:=al n
 exact Pl 3<|ce F true (by rw[n];rfl)
 have a0:=ap n
 exact Pl 3<|ce F (M.code==4) (by rw[n];rfl)
 refine Pl 1<|cu 3 [34] 37 ((((M.code==3)||(M.code==4))||(M.code==23))) (fun K G=>?_) ?_
 refine bl 34 (((M.code==3)||(M.code==4))) (fun o=>?_) (fun o=>?_)
 exact Pl 3<|ce G true (by rw[o];rfl)
 have a1:=(aJ o).1
 have a2:=(aJ o).2
 have b5:=ap a1
 have b6:=ap a2
 exact Pl 3<|ce G (M.code==23) (by rw[o];rfl)
 refine Pl 2<|nt<|?_
 have p:=aF D a
 refine cb ((((M.code==3)||(M.code==4))||(M.code==23))) (fun c=>?_) (fun c=>?_)
 refine sg<|Pl 2<|?_
 refine L0<|cR bt (xs:=([((2*((M.words.length:Nat) : Int))%256)])) (ys:=(b9 M.words)) (.int .u8 0) 1 (ax B a (fun x hx=>ay) (fun _ _ h=>h)) (E).rd (by(try simp only[List.length_append,List.length_cons,List.length_nil,aC]);omega) (le f.size a.size) fun a3 a4 b7 a5 a6=>Pl 1<|nt<|rt<|br<|tr<|rr (.slice a3 (([((2*((M.words.length:Nat) : Int))%256)]++(b9 M.words)).length) a4)<|?_
 have hs:bL dir M=([((2*((M.words.length:Nat) : Int))%256)]++(b9 M.words)):=by
   unfold bL
   (try simp only[hd0,i,c,bs,if_true,if_false,decide_true,decide_false,reduceIte])
   all_goals rfl
 rw[hs]
 exact⟨_,rfl,(be.weaken a5 d.size),(ut p a6 (av (aV B d.size) au))⟩
 have j:=(aJ c).1
 have k:=(aJ c).2
 have q:=(aJ j).1
 have r:=(aJ j).2
 have q40aap:=ap q
 have q40abp:=ap r
 have b8:=ap k
 refine sg<|Pl 3<|nt<|cb ((M.code==6)) (fun g=>?_) (fun g=>?_)
 have a7:=al g
 refine sg<|Pl 1<|L0<|aU b 2<|Pl 1<|L0<|aU b 4<|L0<|dD (m:=2) (e:=24) #[.int .u16 M.addr,.int .u16 M.value] fun ba bb a8 a9 H=>?_
 have aa:=ek a8 (xs:=[M.addr,M.value]) (by as_aux_lemma=>kernel_rfl) (az (by omega) (az (by omega) aZ)) (by(try simp only[List.length_cons,List.length_nil]);omega) a9
 refine L0<|Oc<|ej (bC (xs:=[M.addr,M.value]) (aa).rd (by(try simp only[List.length_cons,List.length_nil]);omega)) fun ab ac bc ad bd bf ae=>Pl 1<|nt<|rt<|br<|tr<|rr (.slice ab ((b9 ([M.addr,M.value])).length) ac)<|?_
 have hs:bL dir M=(b9 ([M.addr,M.value])):=by
   unfold bL
   (try simp only[hd0,i,c,j,q,r,k,g,bs,if_true,if_false,decide_true,decide_false,reduceIte])
   all_goals rfl
 rw[hs]
 exact⟨_,rfl,(be.weaken ad (le (le (le d.size f.size) a.size) H.size)),(aF p (aF H ae))⟩
 have a7:=ap g
 refine sg<|Pl 3<|nt<|cb ((M.code==22)) (fun l=>?_) (fun l=>?_)
 have af:=al l
 refine sg<|Pl 1<|L0<|aU b 2<|Pl 1<|L0<|aU b 5<|Pl 1<|L0<|aU b 6<|L0<|dD (m:=3) (e:=24) #[.int .u16 M.addr,.int .u16 M.and_,.int .u16 M.or_] fun bg bh ag ah I=>?_
 have ai:=ek ag (xs:=[M.addr,M.and_,M.or_]) (by as_aux_lemma=>kernel_rfl) (az (by omega) (az (by omega) (az (by omega) aZ))) (by(try simp only[List.length_cons,List.length_nil]);omega) ah
 refine L0<|Oc<|ej (bC (xs:=[M.addr,M.and_,M.or_]) (ai).rd (by(try simp only[List.length_cons,List.length_nil]);omega)) fun aj ak bi am bj bm an=>Pl 1<|nt<|rt<|br<|tr<|rr (.slice aj ((b9 ([M.addr,M.and_,M.or_])).length) ak)<|?_
 have hs:bL dir M=(b9 ([M.addr,M.and_,M.or_])):=by
   unfold bL
   (try simp only[hd0,i,c,j,q,r,k,g,l,bs,if_true,if_false,decide_true,decide_false,reduceIte])
   all_goals rfl
 rw[hs]
 exact⟨_,rfl,(be.weaken am (le (le (le d.size f.size) a.size) I.size)),(aF p (aF I an))⟩
 have af:=ap l
 refine sg<|Pl 3<|cu 2 [65] 67 (((M.code==16)&&(dir==0))) (fun K J=>?_) ?_
 refine bl 65 ((M.code==16)) (fun s=>?_) (fun s=>?_)
 have ao:=al s
 exact Pl 2<|ce J (dir==0) (by rw[s];rfl)
 have ao:=ap s
 exact Pl 2<|ce J false (by rw[s];rfl)
 refine Pl 1<|nt<|?_
 have v:((M.code==16)&&(dir==0))=false:=by simp only[hd0,bs]
 refine cf v<|sg<|Pl 3<|nt<|cf k<|sg<|Pl 3<|cu 2 [98] 100 (((M.code==24)&&(dir==0))) (fun K L=>?_) ?_
 refine bl 98 ((M.code==24)) (fun t=>?_) (fun t=>?_)
 have aq:=al t
 exact Pl 2<|ce L (dir==0) (by rw[t];rfl)
 have aq:=ap t
 exact Pl 2<|ce L false (by rw[t];rfl)
 refine Pl 1<|nt<|?_
 have y:((M.code==24)&&(dir==0))=false:=by simp only[hd0,bs]
 refine cf y<|sg<|Pl 3<|nt<|cb ((M.code==24)) (fun u=>?_) (fun u=>?_)
 have ar:=al u
 refine sg<|Pl 1<|L0<|Oi (2*((M.words.length:Nat) : Int))<|L0<|Oi (2+(2*((M.words.length:Nat) : Int)))<|Pl 3<|L0<|dD (m:=2) (e:=24) #[.int .u16 ((2+(2*((M.words.length:Nat) : Int)))%65536),.int .u16 (((M.words.length:Nat) : Int)%65536)] fun bo bp aw aA z=>?_
 have aB:=ek aw (xs:=[((2+(2*((M.words.length:Nat) : Int)))%65536),(((M.words.length:Nat) : Int)%65536)]) (by as_aux_lemma=>kernel_rfl) (az (by omega) (az (by omega) aZ)) (by(try simp only[List.length_cons,List.length_nil]);omega) aA
 refine L0<|Oc<|ej (bC (xs:=[((2+(2*((M.words.length:Nat) : Int)))%65536),(((M.words.length:Nat) : Int)%65536)]) (aB).rd (by(try simp only[List.length_cons,List.length_nil]);omega)) fun bq bu bv N bw bx O=>Pl 1<|?_
 have P:=aF z O
 refine L0<|cR bt (xs:=(b9 ([((2+(2*((M.words.length:Nat) : Int)))%65536),(((M.words.length:Nat) : Int)%65536)]))) (ys:=(b9 M.words)) (.int .u8 0) 1 N ((ax E P (fun x hx=>ay) (fun _ _ h=>h))).rd (by(try simp only[List.length_append,List.length_cons,List.length_nil,aC]);omega) O.size fun aD aE bz aG aH=>Pl 1<|nt<|rt<|br<|tr<|rr (.slice aD (((b9 ([((2+(2*((M.words.length:Nat) : Int)))%65536),(((M.words.length:Nat) : Int)%65536)]))++(b9 M.words)).length) aE)<|?_
 have hs:bL dir M=((b9 ([((2+(2*((M.words.length:Nat) : Int)))%65536),(((M.words.length:Nat) : Int)%65536)]))++(b9 M.words)):=by
   unfold bL
   (try simp only[hd0,i,c,j,q,r,k,g,l,v,y,u,bs,if_true,if_false,decide_true,decide_false,reduceIte])
   all_goals rfl
 rw[hs]
 exact⟨_,rfl,(be.weaken aG (le (le (le d.size f.size) a.size) z.size)),(aF p (ut P aH (av (aV N z.size) au)))⟩
 have ar:=ap u
 refine sk<|bn<|tn<|sg<|Pl 1<|L0<|aU b 2<|Pl 1<|L0<|aU b 3<|L0<|dD (m:=2) (e:=24) #[.int .u16 M.addr,.int .u16 M.count] fun bA bB aI aK Q=>?_
 have aM:=ek aI (xs:=[M.addr,M.count]) (by as_aux_lemma=>kernel_rfl) (az (by omega) (az (by omega) aZ)) (by(try simp only[List.length_cons,List.length_nil]);omega) aK
 refine L0<|Oc<|ej (bC (xs:=[M.addr,M.count]) (aM).rd (by(try simp only[List.length_cons,List.length_nil]);omega)) fun aN aO bD aP bE bF aR=>Pl 1<|nt<|rt<|rr (.slice aN ((b9 ([M.addr,M.count])).length) aO)<|?_
 have hs:bL dir M=(b9 ([M.addr,M.count])):=by
   unfold bL
   (try simp only[hd0,i,c,j,q,r,k,g,l,v,y,u,bs,if_true,if_false,decide_true,decide_false,reduceIte])
   all_goals rfl
 rw[hs]
 exact⟨_,rfl,(be.weaken aP (le (le (le d.size f.size) a.size) Q.size)),(aF p (aF Q aR))⟩
theorem t7{m:Md}{cs:Array Value}{M:aQ}{w:World}{dir:Int}(h:aL m w cs.toList M)(hf:cO M) : Calls Tryz.prog 205 #[.int .i64 dir,.agg cs] w (ip (bL dir M) w):=by
  rcases dO (dir==0) with h0|h0
  · exact pJ h hf h0
  · exact pI h hf h0
end Go.Proofs.YtogbnemojakcpaaGreat
