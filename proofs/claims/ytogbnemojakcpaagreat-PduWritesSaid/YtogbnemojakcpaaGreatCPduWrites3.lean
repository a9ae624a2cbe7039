/- Contracts of functions, part CPduWrites3. -/
import Derived.Test.YtogbnemojakcpaaGreatCPduWrites1
import Derived.Test.YtogbnemojakcpaaGreatCPduWrites2
import Derived.RangeFuncRecord
import Derived.RangeFuncLeaves
import Derived.RangeFuncCalls
set_option linter.unusedVariables false
set_option linter.unusedSimpArgs false
set_option maxRecDepth 100000
set_option maxHeartbeats 4000000
namespace Go.Proofs.YtogbnemojakcpaaGreat
open Go.RowKit
def aR (dir c:Int)(C:ai) : Option (ai × aQ) :=
  if c==8 then some (dK dir c C)
  else if c==7 || c==11 || c==12 || c==17 then (if dir==1 then some (bW c C) else some (C,{ aQ.zero with code:=c }))
  else none
theorem mQ{m:Md}{A:Option Addr}{cp:Nat}{b:List Int}{w:World}{c:Int}(hcode:B8 c)(hsl:bo m w (.slice A b.length cp) b)(hb:b.length≤1048576) :
    Calls Tryz.prog 142 #[.int .i64 0,.int .u8 c,.slice A b.length cp] w (dY (ag aR 0 c b) w):=by
 obtain⟨hcode1,hcode2⟩:=hcode
 have hln:(b.length:Int)≤1048576:=by omega
 refine en 47 Tryz.func142 rfl<|sg<|L0<|bQ mZ fun b3 b4 j i O=>Pl 1<|nt<|sq<|sg<|Pl 6<|nt<|c0<|?_
 refine bp<|sg<|Pl 2<|L0<|bQ mZ fun b5 b6 q P aa=>L0<|be P (mC c) fun b7 r Q=>ng<|Pl 1<|?_
 have g:=ud aa Q q
 have n:=aG O g
 refine L0<|Oc<|e3 (ec (bo.old hsl n) (by omega)) fun b9 ba a s d=>Pl 1<|nt<|sq<|sg<|Pl 1<|nt<|bk<|sg<|Pl 2<|nl<|?_
 refine tn<|?_
 have o:=aG n d
 refine cb ((c==8)) (fun f=>?_) (fun f=>?_)
 have ad:=ae f
 refine go<|Pl 2<|?_
 have R:=nb (au P) Q.size a
 refine L0<|Oc<|m3 (nD (dir:=0) (c:=c) ⟨hcode1,hcode2⟩ s (ub d r) (Ne.symm R)) fun bb af ah S=>?_
 obtain⟨al,B,C⟩:=ah
 refine ab af fun x41 T U=>?_
 refine nl<|bn<|tn<|sg<|Pl 1<|L0<|Oc<|m2 (cE U) fun bc V D=>nt<|sq<|sg<|Pl 1<|L0<|Oc<|mq (bF V)<|?_
 have bd:=ap.len V
 refine Pl 1<|ng<|Pl 2<|nt<|?_
 have E:=u1 S D im
 have W:=ut o E (ac (ni n.size a) (ac (ni O.size q) av))
 refine cb ((x41.endC.e != 0)) (fun t=>?_) (fun t=>?_)
 have F:=az t
 refine sg<|Pl 2<|?_
 refine L0<|be (ub (ud g (ud d E a) q) i) mZ fun bf am an=>Pl 1<|nt<|rt<|tr<|bX am (.int .i64 x41.endC.e)<|?_
 subst T
 have hs:ag aR 0 c b=aL ((dK 0 c (ai.mk b false 0)).2) ((dK 0 c (ai.mk b false 0)).1):=by
   unfold ag aR
   (try simp only[f,t,bs,if_true,if_false,decide_true,decide_false,eq_self,true_or,or_true,or_false,false_or,if_true,if_false,co,cm,cn,cv,reduceIte])
   all_goals rfl
 rw[hs]
 exact bC F (ud W an j)
 have F:=aj t
 refine bp<|sg<|?_
 refine L0<|bP (hz:=(by rw[B.2];exact aN)) (aZ D R B.1)<|?_
 refine L0<|be (hz:=(by rw[B.2];exact aN)) (hv:=C.size) (h1:=C.one) (ub (ud g (ud d E a) q) i) (al) fun bg ao X=>Pl 1<|nt<|rt<|eF 22 B.2 ao (.int .i64 0)<|?_
 subst T
 have hs:ag aR 0 c b=aL ((dK 0 c (ai.mk b false 0)).2) ((dK 0 c (ai.mk b false 0)).1):=by
   unfold ag aR
   (try simp only[f,t,bs,if_true,if_false,decide_true,decide_false,eq_self,true_or,or_true,or_false,false_or,if_true,if_false,co,cm,cn,cv,reduceIte])
   all_goals rfl
 rw[hs]
 exact bI F (aO.upd C (us D X) (ax (ap.safe U _ (by decide)) (ax (aY (ub (ud g (ud d S a) q) i) (by decide)) aK))) (ud W X j)
 have ad:=ak f
 refine sq<|sg<|Pl 2<|nt<|cb ((c==7)) (fun h=>?_) (fun h=>?_)
 have aq:=ae h
 refine bp<|ct h<|sg<|Pl 2<|nt<|c0<|sk<|bn<|tn<|sg<|?_
 refine Pl 1<|L0<|Oc<|m2 (cE s) fun bh Y G=>nt<|sq<|sg<|Pl 1<|L0<|Oc<|mq (bF Y)<|?_
 have bi:=ap.len Y
 refine Pl 1<|ng<|Pl 2<|nt<|?_
 have Z:=ud o G (le n.size a)
 refine cb (((((ai.mk b false 0).endC).e)!=0)) (fun u=>?_) (fun u=>?_)
 have H:=az u
 refine sg<|Pl 2<|?_
 refine L0<|be (ub (aG g (ud d G a)) i) mZ fun bj ar aw=>Pl 1<|nt<|rt<|tr<|bX ar (.int .i64 (((ai.mk b false 0).endC).e))<|?_
 have hs:ag aR 0 c b=aL (aQ.mk c 0 0 0 0 0 0 0 0 0 0 0 [] [] [] [] 0 0 0 0 0 []) (ai.mk b false 0):=by
   unfold ag aR
   (try simp only[f,h,u,bs,if_true,if_false,decide_true,decide_false,eq_self,true_or,or_true,or_false,false_or,if_true,if_false,co,cm,cn,cv,reduceIte])
   all_goals rfl
 rw[hs]
 exact bC H (ud Z aw j)
 have H:=aj u
 refine bp<|sg<|?_
 have a0:=ud d G a
 refine L0<|bP (ub a0 r)<|?_
 refine L0<|be (ub (aG g a0) i) (mC c) fun bl ay aA=>Pl 1<|nt<|rt<|bX ay (.int .i64 0)<|?_
 have hs:ag aR 0 c b=aL (aQ.mk c 0 0 0 0 0 0 0 0 0 0 0 [] [] [] [] 0 0 0 0 0 []) (ai.mk b false 0):=by
   unfold ag aR
   (try simp only[f,h,u,bs,if_true,if_false,decide_true,decide_false,eq_self,true_or,or_true,or_false,false_or,if_true,if_false,co,cm,cn,cv,reduceIte])
   all_goals rfl
 rw[hs]
 exact bI H ⟨_,_,_,_,_,rfl,aS.nil ..,aS.nil ..,aS.nil ..,aS.nil ..,aS.nil ..,⟨(b8 (x:=c) (by omega)),(b8 (x:=0) (by omega)),(aD (x:=0) (by omega)),(aD (x:=0) (by omega)),(aD (x:=0) (by omega)),(aD (x:=0) (by omega)),(aD (x:=0) (by omega)),(aD (x:=0) (by omega)),(aD (x:=0) (by omega)),(aD (x:=0) (by omega)),(aD (x:=0) (by omega)),(aD (x:=0) (by omega)),(b8 (x:=0) (by omega)),(b8 (x:=0) (by omega)),(b8 (x:=0) (by omega)),(b8 (x:=0) (by omega)),(b8 (x:=0) (by omega))⟩⟩ (ud Z aA j)
 have aq:=ak h
 refine sg<|Pl 2<|nt<|cb ((c==11)) (fun k=>?_) (fun k=>?_)
 have aB:=ae k
 refine bp<|ct k<|sg<|Pl 2<|nt<|c0<|sk<|bn<|tn<|sg<|?_
 refine Pl 1<|L0<|Oc<|m2 (cE s) fun bm a1 I=>nt<|sq<|sg<|Pl 1<|L0<|Oc<|mq (bF a1)<|?_
 have bq:=ap.len a1
 refine Pl 1<|ng<|Pl 2<|nt<|?_
 have a2:=ud o I (le n.size a)
 refine cb (((((ai.mk b false 0).endC).e)!=0)) (fun v=>?_) (fun v=>?_)
 have J:=az v
 refine sg<|Pl 2<|?_
 refine L0<|be (ub (aG g (ud d I a)) i) mZ fun bt aC aE=>Pl 1<|nt<|rt<|tr<|bX aC (.int .i64 (((ai.mk b false 0).endC).e))<|?_
 have hs:ag aR 0 c b=aL (aQ.mk c 0 0 0 0 0 0 0 0 0 0 0 [] [] [] [] 0 0 0 0 0 []) (ai.mk b false 0):=by
   unfold ag aR
   (try simp only[f,h,k,v,bs,if_true,if_false,decide_true,decide_false,eq_self,true_or,or_true,or_false,false_or,if_true,if_false,co,cm,cn,cv,reduceIte])
   all_goals rfl
 rw[hs]
 exact bC J (ud a2 aE j)
 have J:=aj v
 refine bp<|sg<|?_
 have a3:=ud d I a
 refine L0<|bP (ub a3 r)<|?_
 refine L0<|be (ub (aG g a3) i) (mC c) fun bu aF aH=>Pl 1<|nt<|rt<|bX aF (.int .i64 0)<|?_
 have hs:ag aR 0 c b=aL (aQ.mk c 0 0 0 0 0 0 0 0 0 0 0 [] [] [] [] 0 0 0 0 0 []) (ai.mk b false 0):=by
   unfold ag aR
   (try simp only[f,h,k,v,bs,if_true,if_false,decide_true,decide_false,eq_self,true_or,or_true,or_false,false_or,if_true,if_false,co,cm,cn,cv,reduceIte])
   all_goals rfl
 rw[hs]
 exact bI J ⟨_,_,_,_,_,rfl,aS.nil ..,aS.nil ..,aS.nil ..,aS.nil ..,aS.nil ..,⟨(b8 (x:=c) (by omega)),(b8 (x:=0) (by omega)),(aD (x:=0) (by omega)),(aD (x:=0) (by omega)),(aD (x:=0) (by omega)),(aD (x:=0) (by omega)),(aD (x:=0) (by omega)),(aD (x:=0) (by omega)),(aD (x:=0) (by omega)),(aD (x:=0) (by omega)),(aD (x:=0) (by omega)),(aD (x:=0) (by omega)),(b8 (x:=0) (by omega)),(b8 (x:=0) (by omega)),(b8 (x:=0) (by omega)),(b8 (x:=0) (by omega)),(b8 (x:=0) (by omega))⟩⟩ (ud a2 aH j)
 have aB:=ak k
 refine sg<|Pl 2<|nt<|cb ((c==12)) (fun l=>?_) (fun l=>?_)
 have aI:=ae l
 refine bp<|ct l<|sg<|Pl 2<|nt<|c0<|sk<|bn<|tn<|sg<|?_
 refine Pl 1<|L0<|Oc<|m2 (cE s) fun bv a4 K=>nt<|sq<|sg<|Pl 1<|L0<|Oc<|mq (bF a4)<|?_
 have bw:=ap.len a4
 refine Pl 1<|ng<|Pl 2<|nt<|?_
 have a5:=ud o K (le n.size a)
 refine cb (((((ai.mk b false 0).endC).e)!=0)) (fun y=>?_) (fun y=>?_)
 have L:=az y
 refine sg<|Pl 2<|?_
 refine L0<|be (ub (aG g (ud d K a)) i) mZ fun bx aJ aM=>Pl 1<|nt<|rt<|tr<|bX aJ (.int .i64 (((ai.mk b false 0).endC).e))<|?_
 have hs:ag aR 0 c b=aL (aQ.mk c 0 0 0 0 0 0 0 0 0 0 0 [] [] [] [] 0 0 0 0 0 []) (ai.mk b false 0):=by
   unfold ag aR
   (try simp only[f,h,k,l,y,bs,if_true,if_false,decide_true,decide_false,eq_self,true_or,or_true,or_false,false_or,if_true,if_false,co,cm,cn,cv,reduceIte])
   all_goals rfl
 rw[hs]
 exact bC L (ud a5 aM j)
 have L:=aj y
 refine bp<|sg<|?_
 have a6:=ud d K a
 refine L0<|bP (ub a6 r)<|?_
 refine L0<|be (ub (aG g a6) i) (mC c) fun bz aP aT=>Pl 1<|nt<|rt<|bX aP (.int .i64 0)<|?_
 have hs:ag aR 0 c b=aL (aQ.mk c 0 0 0 0 0 0 0 0 0 0 0 [] [] [] [] 0 0 0 0 0 []) (ai.mk b false 0):=by
   unfold ag aR
   (try simp only[f,h,k,l,y,bs,if_true,if_false,decide_true,decide_false,eq_self,true_or,or_true,or_false,false_or,if_true,if_false,co,cm,cn,cv,reduceIte])
   all_goals rfl
 rw[hs]
 exact bI L ⟨_,_,_,_,_,rfl,aS.nil ..,aS.nil ..,aS.nil ..,aS.nil ..,aS.nil ..,⟨(b8 (x:=c) (by omega)),(b8 (x:=0) (by omega)),(aD (x:=0) (by omega)),(aD (x:=0) (by omega)),(aD (x:=0) (by omega)),(aD (x:=0) (by omega)),(aD (x:=0) (by omega)),(aD (x:=0) (by omega)),(aD (x:=0) (by omega)),(aD (x:=0) (by omega)),(aD (x:=0) (by omega)),(aD (x:=0) (by omega)),(b8 (x:=0) (by omega)),(b8 (x:=0) (by omega)),(b8 (x:=0) (by omega)),(b8 (x:=0) (by omega)),(b8 (x:=0) (by omega))⟩⟩ (ud a5 aT j)
 have aI:=ak l
 refine go<|Pl 2<|nt<|cb ((c==17)) (fun p=>?_) (fun p=>?_)
 have aU:=ae p
 refine sg<|Pl 2<|nt<|c0<|sk<|bn<|tn<|sg<|Pl 1<|L0<|Oc<|m2 (cE s) fun bA a7 M=>nl<|?_
 refine tn<|sq<|sg<|Pl 1<|L0<|Oc<|mq (bF a7)<|?_
 have bB:=ap.len a7
 refine Pl 1<|ng<|Pl 2<|nt<|?_
 have a8:=ud o M (le n.size a)
 refine cb (((((ai.mk b false 0).endC).e)!=0)) (fun z=>?_) (fun z=>?_)
 have N:=az z
 refine sg<|Pl 2<|?_
 refine L0<|be (ub (aG g (ud d M a)) i) mZ fun bD aV aW=>Pl 1<|nt<|rt<|tr<|bX aV (.int .i64 (((ai.mk b false 0).endC).e))<|?_
 have hs:ag aR 0 c b=aL (aQ.mk c 0 0 0 0 0 0 0 0 0 0 0 [] [] [] [] 0 0 0 0 0 []) (ai.mk b false 0):=by
   unfold ag aR
   (try simp only[f,h,k,l,p,z,bs,if_true,if_false,decide_true,decide_false,eq_self,true_or,or_true,or_false,false_or,if_true,if_false,co,cm,cn,cv,reduceIte])
   all_goals rfl
 rw[hs]
 exact bC N (ud a8 aW j)
 have N:=aj z
 refine bp<|sg<|?_
 have a9:=ud d M a
 refine L0<|bP (ub a9 r)<|?_
 refine L0<|be (ub (aG g a9) i) (mC c) fun bE aX b0=>Pl 1<|nt<|rt<|bX aX (.int .i64 0)<|?_
 have hs:ag aR 0 c b=aL (aQ.mk c 0 0 0 0 0 0 0 0 0 0 0 [] [] [] [] 0 0 0 0 0 []) (ai.mk b false 0):=by
   unfold ag aR
   (try simp only[f,h,k,l,p,z,bs,if_true,if_false,decide_true,decide_false,eq_self,true_or,or_true,or_false,false_or,if_true,if_false,co,cm,cn,cv,reduceIte])
   all_goals rfl
 rw[hs]
 exact bI N ⟨_,_,_,_,_,rfl,aS.nil ..,aS.nil ..,aS.nil ..,aS.nil ..,aS.nil ..,⟨(b8 (x:=c) (by omega)),(b8 (x:=0) (by omega)),(aD (x:=0) (by omega)),(aD (x:=0) (by omega)),(aD (x:=0) (by omega)),(aD (x:=0) (by omega)),(aD (x:=0) (by omega)),(aD (x:=0) (by omega)),(aD (x:=0) (by omega)),(aD (x:=0) (by omega)),(aD (x:=0) (by omega)),(aD (x:=0) (by omega)),(b8 (x:=0) (by omega)),(b8 (x:=0) (by omega)),(b8 (x:=0) (by omega)),(b8 (x:=0) (by omega)),(b8 (x:=0) (by omega))⟩⟩ (ud a8 b0 j)
 have aU:=ak p
 refine sg<|Pl 1<|?_
 refine L0<|be (ub (aG g d) i) mZ fun bG b1 b2=>Pl 1<|nt<|rt<|br<|tr<|bX b1 (.int .i64 4)<|?_
 have hs:ag aR 0 c b=(aQ.zero,4):=by
   unfold ag aR
   (try simp only[f,h,k,l,p,bs,if_true,if_false,decide_true,decide_false,eq_self,true_or,or_true,or_false,false_or,if_true,if_false,co,cm,cn,cv,reduceIte])
   all_goals rfl
 rw[hs]
 exact cQ (ud o b2 j)
theorem mi{m:Md}{A:Option Addr}{cp:Nat}{b:List Int}{w:World}{c:Int}(hcode:B8 c)(hsl:bo m w (.slice A b.length cp) b)(hb:b.length≤1048576) :
    Calls Tryz.prog 142 #[.int .i64 1,.int .u8 c,.slice A b.length cp] w (dY (ag aR 1 c b) w):=by
 obtain⟨hcode1,hcode2⟩:=hcode
 have hln:(b.length:Int)≤1048576:=by omega
 refine en 47 Tryz.func142 rfl<|sg<|L0<|bQ mZ fun bO bR k h p=>Pl 1<|nt<|sq<|sg<|Pl 6<|nt<|c0<|?_
 refine bp<|sg<|Pl 2<|L0<|bQ mZ fun bS bT f q b1=>L0<|be q (mC c) fun bU u r=>ng<|Pl 1<|?_
 have g:=ud b1 r f
 have o:=aG p g
 refine L0<|Oc<|e3 (ec (bo.old hsl o) (by omega)) fun bV bY a v d=>Pl 1<|nt<|sq<|sg<|Pl 1<|nt<|bk<|sg<|Pl 2<|nl<|?_
 refine tn<|?_
 have s:=aG o d
 refine cb ((c==8)) (fun i=>?_) (fun i=>?_)
 have b2:=ae i
 refine go<|Pl 2<|?_
 have a2:=nb (au q) r.size a
 refine L0<|Oc<|m3 (nD (dir:=1) (c:=c) ⟨hcode1,hcode2⟩ v (ub d u) (Ne.symm a2)) fun bZ b3 b4 a3=>?_
 obtain⟨b5,D,I⟩:=b4
 refine ab b3 fun x41 a4 a5=>?_
 refine nl<|bn<|tn<|sg<|Pl 1<|L0<|Oc<|m2 (cE a5) fun c2 a6 J=>nt<|sq<|sg<|Pl 1<|L0<|Oc<|mq (bF a6)<|?_
 have c3:=ap.len a6
 refine Pl 1<|ng<|Pl 2<|nt<|?_
 have K:=u1 a3 J im
 have a7:=ut s K (ac (ni o.size a) (ac (ni p.size f) av))
 refine cb ((x41.endC.e != 0)) (fun x=>?_) (fun x=>?_)
 have L:=az x
 refine sg<|Pl 2<|?_
 refine L0<|be (ub (ud g (ud d K a) f) h) mZ fun c4 b6 b7=>Pl 1<|nt<|rt<|tr<|bX b6 (.int .i64 x41.endC.e)<|?_
 subst a4
 have hs:ag aR 1 c b=aL ((dK 1 c (ai.mk b false 0)).2) ((dK 1 c (ai.mk b false 0)).1):=by
   unfold ag aR
   (try simp only[i,x,bs,if_true,if_false,decide_true,decide_false,eq_self,true_or,or_true,or_false,false_or,if_true,if_false,co,cm,cn,cv,reduceIte])
   all_goals rfl
 rw[hs]
 exact bC L (ud a7 b7 k)
 have L:=aj x
 refine bp<|sg<|?_
 refine L0<|bP (hz:=(by rw[D.2];exact aN)) (aZ J a2 D.1)<|?_
 refine L0<|be (hz:=(by rw[D.2];exact aN)) (hv:=I.size) (h1:=I.one) (ub (ud g (ud d K a) f) h) (b5) fun c5 b8 a8=>Pl 1<|nt<|rt<|eF 22 D.2 b8 (.int .i64 0)<|?_
 subst a4
 have hs:ag aR 1 c b=aL ((dK 1 c (ai.mk b false 0)).2) ((dK 1 c (ai.mk b false 0)).1):=by
   unfold ag aR
   (try simp only[i,x,bs,if_true,if_false,decide_true,decide_false,eq_self,true_or,or_true,or_false,false_or,if_true,if_false,co,cm,cn,cv,reduceIte])
   all_goals rfl
 rw[hs]
 exact bI L (aO.upd I (us J a8) (ax (ap.safe a5 _ (by decide)) (ax (aY (ub (ud g (ud d a3 a) f) h) (by decide)) aK))) (ud a7 a8 k)
 have b2:=ak i
 refine sq<|sg<|Pl 2<|nt<|cb ((c==7)) (fun j=>?_) (fun j=>?_)
 have b9:=ae j
 refine bp<|ct j<|sg<|Pl 2<|nt<|c1<|go<|Pl 1<|?_
 have a9:=nb (au q) r.size a
 refine L0<|Oc<|m3 (gA (c:=c) ⟨hcode1,hcode2⟩ v (ub d u) (Ne.symm a9)) fun c6 ba bb aa=>?_
 obtain⟨bc,E,M⟩:=bb
 refine ab ba fun x81 ad af=>?_
 refine nl<|bn<|tn<|sg<|Pl 1<|L0<|Oc<|m2 (cE af) fun c7 ah N=>nt<|sq<|sg<|Pl 1<|L0<|Oc<|mq (bF ah)<|?_
 have c8:=ap.len ah
 refine Pl 1<|ng<|Pl 2<|nt<|?_
 have O:=u1 aa N im
 have al:=ut s O (ac (ni o.size a) (ac (ni p.size f) av))
 refine cb ((x81.endC.e != 0)) (fun y=>?_) (fun y=>?_)
 have P:=az y
 refine sg<|Pl 2<|?_
 refine L0<|be (ub (ud g (ud d O a) f) h) mZ fun c9 bd bf=>Pl 1<|nt<|rt<|tr<|bX bd (.int .i64 x81.endC.e)<|?_
 subst ad
 have hs:ag aR 1 c b=aL ((bW c (ai.mk b false 0)).2) ((bW c (ai.mk b false 0)).1):=by
   unfold ag aR
   (try simp only[i,j,y,bs,if_true,if_false,decide_true,decide_false,eq_self,true_or,or_true,or_false,false_or,if_true,if_false,co,cm,cn,cv,reduceIte])
   all_goals rfl
 rw[hs]
 exact bC P (ud al bf k)
 have P:=aj y
 refine bp<|sg<|?_
 refine L0<|bP (hz:=(by rw[E.2];exact aN)) (aZ N a9 E.1)<|?_
 refine L0<|be (hz:=(by rw[E.2];exact aN)) (hv:=M.size) (h1:=M.one) (ub (ud g (ud d O a) f) h) (bc) fun ca bg am=>Pl 1<|nt<|rt<|eF 22 E.2 bg (.int .i64 0)<|?_
 subst ad
 have hs:ag aR 1 c b=aL ((bW c (ai.mk b false 0)).2) ((bW c (ai.mk b false 0)).1):=by
   unfold ag aR
   (try simp only[i,j,y,bs,if_true,if_false,decide_true,decide_false,eq_self,true_or,or_true,or_false,false_or,if_true,if_false,co,cm,cn,cv,reduceIte])
   all_goals rfl
 rw[hs]
 exact bI P (aO.upd M (us N am) (ax (ap.safe af _ (by decide)) (ax (aY (ub (ud g (ud d aa a) f) h) (by decide)) aK))) (ud al am k)
 have b9:=ak j
 refine sg<|Pl 2<|nt<|cb ((c==11)) (fun l=>?_) (fun l=>?_)
 have bh:=ae l
 refine bp<|ct l<|sg<|Pl 2<|nt<|c1<|go<|Pl 1<|?_
 have an:=nb (au q) r.size a
 refine L0<|Oc<|m3 (gA (c:=c) ⟨hcode1,hcode2⟩ v (ub d u) (Ne.symm an)) fun cc bi bj ao=>?_
 obtain⟨bl,F,Q⟩:=bj
 refine ab bi fun aq ar aw=>?_
 refine nl<|bn<|tn<|sg<|Pl 1<|L0<|Oc<|m2 (cE aw) fun cd ay R=>nt<|sq<|sg<|Pl 1<|L0<|Oc<|mq (bF ay)<|?_
 have ce:=ap.len ay
 refine Pl 1<|ng<|Pl 2<|nt<|?_
 have S:=u1 ao R im
 have aA:=ut s S (ac (ni o.size a) (ac (ni p.size f) av))
 refine cb ((aq.endC.e != 0)) (fun z=>?_) (fun z=>?_)
 have T:=az z
 refine sg<|Pl 2<|?_
 refine L0<|be (ub (ud g (ud d S a) f) h) mZ fun cf bm bq=>Pl 1<|nt<|rt<|tr<|bX bm (.int .i64 aq.endC.e)<|?_
 subst ar
 have hs:ag aR 1 c b=aL ((bW c (ai.mk b false 0)).2) ((bW c (ai.mk b false 0)).1):=by
   unfold ag aR
   (try simp only[i,j,l,z,bs,if_true,if_false,decide_true,decide_false,eq_self,true_or,or_true,or_false,false_or,if_true,if_false,co,cm,cn,cv,reduceIte])
   all_goals rfl
 rw[hs]
 exact bC T (ud aA bq k)
 have T:=aj z
 refine bp<|sg<|?_
 refine L0<|bP (hz:=(by rw[F.2];exact aN)) (aZ R an F.1)<|?_
 refine L0<|be (hz:=(by rw[F.2];exact aN)) (hv:=Q.size) (h1:=Q.one) (ub (ud g (ud d S a) f) h) (bl) fun cg bt aB=>Pl 1<|nt<|rt<|eF 22 F.2 bt (.int .i64 0)<|?_
 subst ar
 have hs:ag aR 1 c b=aL ((bW c (ai.mk b false 0)).2) ((bW c (ai.mk b false 0)).1):=by
   unfold ag aR
   (try simp only[i,j,l,z,bs,if_true,if_false,decide_true,decide_false,eq_self,true_or,or_true,or_false,false_or,if_true,if_false,co,cm,cn,cv,reduceIte])
   all_goals rfl
 rw[hs]
 exact bI T (aO.upd Q (us R aB) (ax (ap.safe aw _ (by decide)) (ax (aY (ub (ud g (ud d ao a) f) h) (by decide)) aK))) (ud aA aB k)
 have bh:=ak l
 refine sg<|Pl 2<|nt<|cb ((c==12)) (fun n=>?_) (fun n=>?_)
 have bu:=ae n
 refine bp<|ct n<|sg<|Pl 2<|nt<|c1<|go<|Pl 1<|?_
 have aC:=nb (au q) r.size a
 refine L0<|Oc<|m3 (gA (c:=c) ⟨hcode1,hcode2⟩ v (ub d u) (Ne.symm aC)) fun ch bv bw aD=>?_
 obtain⟨bx,G,U⟩:=bw
 refine ab bv fun aE aF aH=>?_
 refine nl<|bn<|tn<|sg<|Pl 1<|L0<|Oc<|m2 (cE aH) fun ci aI V=>nt<|sq<|sg<|Pl 1<|L0<|Oc<|mq (bF aI)<|?_
 have cj:=ap.len aI
 refine Pl 1<|ng<|Pl 2<|nt<|?_
 have W:=u1 aD V im
 have aJ:=ut s W (ac (ni o.size a) (ac (ni p.size f) av))
 refine cb ((aE.endC.e != 0)) (fun B=>?_) (fun B=>?_)
 have X:=az B
 refine sg<|Pl 2<|?_
 refine L0<|be (ub (ud g (ud d W a) f) h) mZ fun ck bz bA=>Pl 1<|nt<|rt<|tr<|bX bz (.int .i64 aE.endC.e)<|?_
 subst aF
 have hs:ag aR 1 c b=aL ((bW c (ai.mk b false 0)).2) ((bW c (ai.mk b false 0)).1):=by
   unfold ag aR
   (try simp only[i,j,l,n,B,bs,if_true,if_false,decide_true,decide_false,eq_self,true_or,or_true,or_false,false_or,if_true,if_false,co,cm,cn,cv,reduceIte])
   all_goals rfl
 rw[hs]
 exact bC X (ud aJ bA k)
 have X:=aj B
 refine bp<|sg<|?_
 refine L0<|bP (hz:=(by rw[G.2];exact aN)) (aZ V aC G.1)<|?_
 refine L0<|be (hz:=(by rw[G.2];exact aN)) (hv:=U.size) (h1:=U.one) (ub (ud g (ud d W a) f) h) (bx) fun cl bB aM=>Pl 1<|nt<|rt<|eF 22 G.2 bB (.int .i64 0)<|?_
 subst aF
 have hs:ag aR 1 c b=aL ((bW c (ai.mk b false 0)).2) ((bW c (ai.mk b false 0)).1):=by
   unfold ag aR
   (try simp only[i,j,l,n,B,bs,if_true,if_false,decide_true,decide_false,eq_self,true_or,or_true,or_false,false_or,if_true,if_false,co,cm,cn,cv,reduceIte])
   all_goals rfl
 rw[hs]
 exact bI X (aO.upd U (us V aM) (ax (ap.safe aH _ (by decide)) (ax (aY (ub (ud g (ud d aD a) f) h) (by decide)) aK))) (ud aJ aM k)
 have bu:=ak n
 refine go<|Pl 2<|nt<|cb ((c==17)) (fun t=>?_) (fun t=>?_)
 have bD:=ae t
 refine sg<|Pl 2<|nt<|c1<|go<|Pl 1<|?_
 have aP:=nb (au q) r.size a
 refine L0<|Oc<|m3 (gA (c:=c) ⟨hcode1,hcode2⟩ v (ub d u) (Ne.symm aP)) fun cq bE bG aS=>?_
 obtain⟨bH,H,Y⟩:=bG
 refine ab bE fun aT aU aV=>?_
 refine nl<|bn<|tn<|sg<|Pl 1<|L0<|Oc<|m2 (cE aV) fun cr aW Z=>nt<|sq<|sg<|Pl 1<|L0<|Oc<|mq (bF aW)<|?_
 have cs:=ap.len aW
 refine Pl 1<|ng<|Pl 2<|nt<|?_
 have a0:=u1 aS Z im
 have aX:=ut s a0 (ac (ni o.size a) (ac (ni p.size f) av))
 refine cb ((aT.endC.e != 0)) (fun C=>?_) (fun C=>?_)
 have a1:=az C
 refine sg<|Pl 2<|?_
 refine L0<|be (ub (ud g (ud d a0 a) f) h) mZ fun cu bJ bK=>Pl 1<|nt<|rt<|tr<|bX bJ (.int .i64 aT.endC.e)<|?_
 subst aU
 have hs:ag aR 1 c b=aL ((bW c (ai.mk b false 0)).2) ((bW c (ai.mk b false 0)).1):=by
   unfold ag aR
   (try simp only[i,j,l,n,t,C,bs,if_true,if_false,decide_true,decide_false,eq_self,true_or,or_true,or_false,false_or,if_true,if_false,co,cm,cn,cv,reduceIte])
   all_goals rfl
 rw[hs]
 exact bC a1 (ud aX bK k)
 have a1:=aj C
 refine bp<|sg<|?_
 refine L0<|bP (hz:=(by rw[H.2];exact aN)) (aZ Z aP H.1)<|?_
 refine L0<|be (hz:=(by rw[H.2];exact aN)) (hv:=Y.size) (h1:=Y.one) (ub (ud g (ud d a0 a) f) h) (bH) fun cw bL b0=>Pl 1<|nt<|rt<|eF 22 H.2 bL (.int .i64 0)<|?_
 subst aU
 have hs:ag aR 1 c b=aL ((bW c (ai.mk b false 0)).2) ((bW c (ai.mk b false 0)).1):=by
   unfold ag aR
   (try simp only[i,j,l,n,t,C,bs,if_true,if_false,decide_true,decide_false,eq_self,true_or,or_true,or_false,false_or,if_true,if_false,co,cm,cn,cv,reduceIte])
   all_goals rfl
 rw[hs]
 exact bI a1 (aO.upd Y (us Z b0) (ax (ap.safe aV _ (by decide)) (ax (aY (ub (ud g (ud d aS a) f) h) (by decide)) aK))) (ud aX b0 k)
 have bD:=ak t
 refine sg<|Pl 1<|?_
 refine L0<|be (ub (aG g d) h) mZ fun cx bM bN=>Pl 1<|nt<|rt<|br<|tr<|bX bM (.int .i64 4)<|?_
 have hs:ag aR 1 c b=(aQ.zero,4):=by
   unfold ag aR
   (try simp only[i,j,l,n,t,bs,if_true,if_false,decide_true,decide_false,eq_self,true_or,or_true,or_false,false_or,if_true,if_false,co,cm,cn,cv,reduceIte])
   all_goals rfl
 rw[hs]
 exact cQ (ud s bN k)
theorem mI{m:Md}{A:Option Addr}{cp:Nat}{b:List Int}{w:World}{dir c:Int}(hcode:B8 c)(hsl:bo m w (.slice A b.length cp) b)(hb:b.length≤1048576)(hd:¬ (dir=0∨dir=1)) :
    Calls Tryz.prog 142 #[.int .i64 dir,.int .u8 c,.slice A b.length cp] w (dY (ag aR dir c b) w):=by
 obtain⟨hcode1,hcode2⟩:=hcode
 have hln:(b.length:Int)≤1048576:=by omega
 have e0:(dir != 0)=true:=by simp;omega
 have e1:(dir != 1)=true:=by simp;omega
 refine en 47 Tryz.func142 rfl<|sg<|L0<|bQ mZ fun g h a d e=>Pl 1<|nt<|sq<|sg<|Pl 3<|sy 13 e0<|Pl 3<|nl<|?_
 refine tn<|ct e1<|sg<|Pl 1<|L0<|be d mZ fun i dF f=>Pl 1<|nt<|rt<|tr<|bX dF (.int .i64 1)<|?_
 have hs:ag aR dir c b=(aQ.zero,1):=by
   unfold ag aR
   (try simp only[e0,e1,bs,if_true,if_false,decide_true,decide_false,eq_self,true_or,or_true,or_false,false_or,if_true,if_false,co,cm,cn,cv,reduceIte,hd])
   all_goals rfl
 rw[hs]
 exact cQ (ud e f a)
theorem jW{m:Md}{v:Value}{b:List Int}{w:World}{dir c:Int}(hc:B8 c)(h:bo m w v b)(hb:b.length≤1048576) :
    Calls Tryz.prog 142 #[.int .i64 dir,.int .u8 c,v] w (dY (ag aR dir c b) w):=by
  obtain⟨A,cp,rfl,_,_⟩:=h.shape
  by_cases h0:dir=0
  · subst h0;exact mQ hc h hb
  by_cases h1:dir=1
  · subst h1;exact mi hc h hb
  exact mI hc h hb (by omega)
open Go.RowKit
def dW:Nat→ai→List Obj→ai × List Obj
  | 0,C,L=>(C,L)
  | n+1,C,L=>dW n (((C.bytesC 1).bytesC 1).bytesC (C.bytesC 1).byteV) (L++[⟨C.byteV,((C.bytesC 1).bytesC 1).bytesR (C.bytesC 1).byteV⟩])
def ja (C:ai) : ai:=(C.bytesC 1).need (cj C.byteV) 6
def jn (C:ai) : ai:=((ja C).bytesC 1).need ((ja C).byteV==0 || (ja C).byteV==255) 6
def lu (C:ai) : ai:=((jn C).bytesC 1).need ((ja C).byteV != 0 || (jn C).byteV==0) 6
def ss (kd:Int)(C:ai) : ai:=((lu C).bytesC 1).need (kd != 4 || (lu C).byteV==1) 5
def dH (kd:Int)(C:ai) : ai × List Obj:=dW (lu C).byteV.toNat (ss kd C) []
theorem oV{g gm:Nat}{c me kd:Int}{C0:ai}{w:World}(hcode:B8 c)(hme:B8 me)(hkd:B8 kd)(hC:ap w g C0)(hm:w.heap[gm]? = some (.cells #[.int .u8 c,.int .u8 0,.int .u16 0,.int .u16 0,.int .u16 0,.int .u16 0,.int .u16 0,.int .u16 0,.int .u16 0,.int .u16 0,.int .u16 0,.int .u16 0,.slice none 0 0,.slice none 0 0,.slice none 0 0,.slice none 0 0,.int .u8 me,.int .u8 kd,.int .u8 0,.int .u8 0,.int .u8 0,.slice none 0 0] 30 (0,0)))(hne:g≠gm) :
    Calls Tryz.prog 213 #[.pointer (some ⟨g,0,none⟩),.pointer (some ⟨gm,0,none⟩)] w (cJ g gm (dH kd C0).1 { aQ.zero with code:=c,mei:=me,kind:=kd,level:=C0.byteV,more:=(ja C0).byteV,next:=(jn C0).byteV,objects:=(dH kd C0).2 } w):=by
 obtain⟨hcode1,hcode2⟩:=hcode
 obtain⟨hme1,hme2⟩:=hme
 obtain⟨hkd1,hkd2⟩:=hkd
 refine en 92 Tryz.func213 rfl<|sg<|Pl 2<|L0<|Oc<|m3 (ch hC) fun cQ bM b cR=>Pl 2<|?_
 have ah:=aZ b (Ne.symm hne) hm
 refine L0<|cg ah 18 (mG c 0 0 0 0 0 0 0 0 0 0 0 nS nS nS nS me kd C0.byteV 0 0 nS) fun cT dF j=>ng<|Pl 4<|L0<|aP dF 18<|L0<|Oc<|m1 (qh (x:=C0.byteV) (w:=_)) fun cU d=>?_
 have al:=aG j d
 refine L0<|Oc<|m2 (bg ((cj C0.byteV)) 6 (ap.upd bM al (aa hne aA) (ax (aY ah (by decide)) aK))) fun cV bN l=>?_
 refine ab bN fun x25 bO bP=>?_
 refine ng<|Pl 2<|L0<|Oc<|m3 (ch bP) fun cW bQ o cX=>Pl 2<|?_
 have an:=u1 l o im
 have ao:=aZ (uz d an) (Ne.symm hne) dF
 refine L0<|cg ao 19 (mG c 0 0 0 0 0 0 0 0 0 0 0 nS nS nS nS me kd C0.byteV x25.byteV 0 nS) fun cY U f=>ng<|Pl 4<|L0<|aP U 19<|Pl 2<|cu 6 [29] 35 (((x25.byteV==0)||(x25.byteV==255))) (fun K ar=>?_) ?_
 refine bl 29 ((x25.byteV==0)) (fun E=>?_) (fun E=>?_)
 have bR:=ae E
 exact Pl 6<|ce ar true (by rw[E];rfl)
 have bR:=ak E
 exact Pl 3<|L1<|aP U 19<|Pl 2<|ce ar (x25.byteV==255) (by rw[E];rfl)
 refine L0<|Oc<|m2 (bg (((x25.byteV==0)||(x25.byteV==255))) 6 (ap.upd bQ f (aa hne aA) (ax (aY ao (by decide)) aK))) fun cZ bS p=>?_
 refine ab bS fun x44 bT bU=>?_
 refine ng<|Pl 2<|L0<|Oc<|m3 (ch bU) fun d0 bV q d1=>Pl 2<|?_
 have aw:=u1 p q im
 have aC:=aZ aw (Ne.symm hne) U
 refine L0<|cg aC 20 (mG c 0 0 0 0 0 0 0 0 0 0 0 nS nS nS nS me kd C0.byteV x25.byteV x44.byteV nS) fun d2 V h=>ng<|Pl 4<|L0<|aP V 19<|Pl 2<|cu 6 [48] 54 (((x25.byteV != 0)||(x44.byteV==0))) (fun K aF=>?_) ?_
 refine bl 48 ((x25.byteV != 0)) (fun F=>?_) (fun F=>?_)
 have bW:=az F
 exact Pl 6<|ce aF true (by rw[F];rfl)
 have bW:=aj F
 exact Pl 3<|L1<|aP V 20<|Pl 2<|ce aF (x44.byteV==0) (by rw[F];rfl)
 refine L0<|Oc<|m2 (bg (((x25.byteV != 0)||(x44.byteV==0))) 6 (ap.upd bV h (aa hne aA) (ax (aY aC (by decide)) aK))) fun d3 bX r=>?_
 refine ab bX fun x62 bY bZ=>?_
 refine ng<|Pl 1<|L0<|Oc<|m3 (ch bZ) fun d4 c0 s d5=>L0<|Oi x62.byteV<|Pl 1<|ng<|Pl 4<|?_
 have aH:=u1 r s im
 have aI:=aZ aH (Ne.symm hne) V
 refine L0<|aP aI 17<|Pl 2<|cu 3 [65] 68 (((kd != 4)||(x62.byteV==1))) (fun K aJ=>?_) ?_
 refine bl 65 ((kd != 4)) (fun G=>?_) (fun G=>?_)
 have c1:=az G
 exact Pl 3<|ce aJ true (by rw[G];rfl)
 have c1:=aj G
 exact Pl 3<|ce aJ (x62.byteV==1) (by rw[G];rfl)
 refine L0<|Oc<|m2 (bg (((kd != 4)||(x62.byteV==1))) 5 c0) fun W c2 i=>?_
 refine ab c2 fun x76 c3 c4=>?_
 refine ng<|Pl 2<|nt<|bk<|?_
 refine jf (fun x=>[(0,.pointer (some ⟨g,0,none⟩)),(1,.pointer (some ⟨gm,0,none⟩)),(70,.int .i64 x62.byteV),(71,.int .i64 ((x.1:Nat) : Int))]) (fun(x:Nat × ai × List Obj × Option Addr × Nat) w'=>aE [g,gm] W w'∧ap w' g x.2.1∧w'.heap[gm]? = some (.cells #[.int .u8 c,.int .u8 0,.int .u16 0,.int .u16 0,.int .u16 0,.int .u16 0,.int .u16 0,.int .u16 0,.int .u16 0,.int .u16 0,.int .u16 0,.int .u16 0,.slice none 0 0,.slice none 0 0,.slice none 0 0,.slice none 0 0,.int .u8 me,.int .u8 kd,.int .u8 C0.byteV,.int .u8 x25.byteV,.int .u8 x44.byteV,.slice x.2.2.2.1 x.2.2.1.length x.2.2.2.2] 30 (0,0))∧aV W.heap.size 111 2 (dq true) w' (.slice x.2.2.2.1 x.2.2.1.length x.2.2.2.2) x.2.2.1∧(x.1≤x62.byteV.toNat)∧(dW (x62.byteV.toNat-x.1) x.2.1 x.2.2.1=dW x62.byteV.toNat x76 [])∧(x.2.2.1.length≤x.1)) (fun x=>x62.byteV.toNat-x.1) (0,x76,[],none,0) ⟨aE.refl _ _,c4,(aZ i (Ne.symm hne) aI),aV.nil ..,(by(try dsimp only);omega),(by(try dsimp only);rw[Nat.sub_zero]),(by(try dsimp only);(try simp only[List.length_append,List.length_cons,List.length_nil]);omega)⟩ ?_
 rintro⟨k,C,L,A,cp⟩ X ⟨v,c5,c6,c7,c8,c9,ca⟩
 refine jj [(0,.pointer (some ⟨g,0,none⟩)),(1,.pointer (some ⟨gm,0,none⟩)),(70,.int .i64 x62.byteV),(71,.int .i64 ((k:Nat) : Int))] ?_
 have u:ap X g C:=c5
 have D:X.heap[gm]? = some (.cells #[.int .u8 c,.int .u8 0,.int .u16 0,.int .u16 0,.int .u16 0,.int .u16 0,.int .u16 0,.int .u16 0,.int .u16 0,.int .u16 0,.int .u16 0,.int .u16 0,.slice none 0 0,.slice none 0 0,.slice none 0 0,.slice none 0 0,.int .u8 me,.int .u8 kd,.int .u8 C0.byteV,.int .u8 x25.byteV,.int .u8 x44.byteV,.slice A L.length cp] 30 (0,0)):=c6
 have a:aV W.heap.size 111 2 (dq true) X (.slice A L.length cp) L:=c7
 have d6:k≤x62.byteV.toNat:=c8
 have d8:dW (x62.byteV.toNat-k) C L=dW x62.byteV.toNat x76 []:=c9
 have d9:L.length≤k:=ca
 have hobj:dW (x62.byteV.toNat-k) C L=dW x62.byteV.toNat x76 []:=by assumption
 refine sg<|Pl 1<|nt<|sq<|?_
 refine cb ((decide (((k:Nat) : Int)<x62.byteV))) (fun Y=>?_) (fun Y=>?_)
 have cc:=of_decide_eq_true Y
 refine bp<|sq<|bk<|sg<|Pl 1<|L0<|Oc<|m3 (ch u) fun da aL y db=>Pl 1<|nt<|Rg 17 (fun w'=>True) fun dc t=>bi trivial fun z=>Rt 0 z<|?_
 refine Rt 1 z<|Rt 2 z<|Rt 3 z<|Rt 5 z<|Rt 6 z<|Rt 7 z<|?_
 refine R2 4 8 rfl rfl ?_ ?_
 have Z:=aG y t
 have a0:=aZ Z (Ne.symm hne) D
 refine  aP a0 21<|bi trivial fun dd=>?_
 refine R0 8 rfl<|Oc<|m3 (ch (ap.old aL t)) fun de aN a1 df=>bi trivial fun cd=>Rr 9 cd (.int .i64 ((C.bytesC 1).byteV)) (fun _ _=>cP (.int .i64 (IntKind.i64.wrap ((C.bytesC 1).byteV))) (by kernel_rfl) (congrArg (Value.int .i64) (i64_in (by omega))))<|R0 10 rfl<|Oc<|ri (cS (n:=(C.bytesC 1).byteV) aN) fun cf ci dg ck dh di cl a2=>?_
 have dj:=Nat.le_trans (ai.bytesR_le ((C.bytesC 1).bytesC 1) ((C.bytesC 1).byteV)) (ap.len aN)
 refine ab cl fun dk cm cn=>?_
 refine bi trivial fun co=>Rt 11 co<|R0 12 rfl<|cO (m:=1) (e:=111) #[.int .u8 C.byteV,.slice cf ((((C.bytesC 1).bytesC 1).bytesR ((C.bytesC 1).byteV)).length) ci] fun dl dm dn cq I=>?_
 have cr:=jO (R:=dq true) (x:=(Obj.mk C.byteV (((C.bytesC 1).bytesC 1).bytesR ((C.bytesC 1).byteV)))) cq rfl ⟨_,rfl,(bo.upd' ck I aK),b8 (by omega)⟩
 refine bi trivial fun dp=>?_
 have aO:=u1 a1 (aG a2 I) im
 have a3:=u1 Z aO im
 have aR:=aq a a3 (fun x hx=>(aa (fun e=>(aB (ap.lt hC) (le (le (le (le (le (le (le (le (le (le (le b.size j.size) d.size) l.size) o.size) f.size) p.size) q.size) h.size) r.size) s.size) i.size) a) (e▸hx)) aA)) (dq.upd8 a3 (ax (ap.safe u _ (by decide)) aK))
 refine R0 13 rfl<|gO (xs:=L) (ys:=([(Obj.mk C.byteV (((C.bytesC 1).bytesC 1).bytesR ((C.bytesC 1).byteV)))])) (.agg #[.int .u8 0,.slice none 0 0]) 2 32 aR cr (by simp) dq.ones (fun w' hv=>dq.upd8 hv (d7 (dB _ aR (by decide)) aK)) (by(try simp only[List.length_append,List.length_cons,List.length_nil,ay]);omega) (le (le (le (le (le v.size y.size) t.size) a1.size) a2.size) I.size) fun aT aU dr aW aX=>bi trivial fun b0=>Rt 14 b0<|Rt 15 b0<|?_
 have b1:=aE.blk (ut (aE.mono (S':=(g :: (ob A++[]))) aO (ac im av)) aX (am il av)) (aa (Ne.symm hne) (bf (aB (au hm) (le (le (le (le (le (le (le (le (le (le (le b.size j.size) d.size) l.size) o.size) f.size) p.size) q.size) h.size) r.size) s.size) i.size) a) aA)) a0
 refine R0 16 rfl<|cg b1 21 (mG c 0 0 0 0 0 0 0 0 0 0 0 nS nS nS nS me kd C0.byteV x25.byteV x44.byteV (.slice aT ((L++[(Obj.mk C.byteV (((C.bytesC 1).bytesC 1).bytesR ((C.bytesC 1).byteV)))]).length) aU)) fun ds cs a4=>bi trivial fun dt=>re<|bn<|tn<|go<|L0<|Oi (((k:Nat) : Int)+1)<|Pl 1<|nl<|?_
 subst cm
 have b2:=u1 (aE.mono (S':=(ob A++(gm :: []))) aX (am il av)) a4 im
 have b3:=u1 a1 a2 im
 have b4:=u1 Z b3 im
 exact gM ((k+1),(((C.bytesC 1).bytesC 1).bytesC ((C.bytesC 1).byteV)),(L++[(Obj.mk C.byteV (((C.bytesC 1).bytesC 1).bytesR ((C.bytesC 1).byteV)))]),aT,aU) ⟨(ut v (ut (aE.mono (S':=(g :: (ob A++(gm :: [])))) a3 (ac im av)) b2 (am il (ac im av))) (ac im (am (aM a lr) (ac im av)))),(ap.upd cn (ut (aE.mono (S':=(ob A++(gm :: []))) I av) b2 (am il (ac im av))) (bf (aB (ap.lt hC) (le (le (le (le (le (le (le (le (le (le (le b.size j.size) d.size) l.size) o.size) f.size) p.size) q.size) h.size) r.size) s.size) i.size) a) (aa hne aA)) (d7 (dB _ (aq a b4 (fun x hx=>(aa (fun e=>(aB (ap.lt hC) (le (le (le (le (le (le (le (le (le (le (le b.size j.size) d.size) l.size) o.size) f.size) p.size) q.size) h.size) r.size) s.size) i.size) a) (e▸hx)) aA)) (dq.upd8 b4 (ax (ap.safe u _ (by decide)) aK))) (by decide)) (ax (aY (aZ b3 (Ne.symm hne) a0) (by decide)) aK))),cs,(aq aW a4 (fun x hx=>(aa (fun e=>(aB (au hm) (le (le (le (le (le (le (le (le (le (le (le b.size j.size) d.size) l.size) o.size) f.size) p.size) q.size) h.size) r.size) s.size) i.size) aW) (e▸hx)) aA)) (dq.upd8 a4 (ax (aY b1 (by decide)) aK))),(by(try dsimp only);omega),(by(try dsimp only);rw[← hobj,show x62.byteV.toNat-k=(x62.byteV.toNat-(k+1))+1 from by omega];rfl),(by(try dsimp only);(try simp only[List.length_append,List.length_cons,List.length_nil]);omega)⟩ (by omega)
 refine  Oc<|m3 (ch (ap.old aL t)) fun du J B dv=>bi trivial fun ct=>Rr 9 ct (.int .i64 ((C.bytesC 1).byteV)) (fun _ _=>cP (.int .i64 (IntKind.i64.wrap ((C.bytesC 1).byteV))) (by kernel_rfl) (congrArg (Value.int .i64) (i64_in (by omega))))<|?_
 refine R2 4 10 rfl rfl ?_ ?_
 have a5:=u1 y (uz t B) im
 have a6:=aZ a5 (Ne.symm hne) D
 refine  aP a6 21<|bi trivial fun dw=>R0 10 rfl<|Oc<|ri (cS (n:=(C.bytesC 1).byteV) J) fun cv cw dx cx dy dz cy M=>?_
 have dA:=Nat.le_trans (ai.bytesR_le ((C.bytesC 1).bytesC 1) ((C.bytesC 1).byteV)) (ap.len J)
 refine ab cy fun dC cz cA=>?_
 refine bi trivial fun cB=>Rt 11 cB<|R0 12 rfl<|cO (m:=1) (e:=111) #[.int .u8 C.byteV,.slice cv ((((C.bytesC 1).bytesC 1).bytesR ((C.bytesC 1).byteV)).length) cw] fun dD dE dG cC N=>?_
 have cD:=jO (R:=dq true) (x:=(Obj.mk C.byteV (((C.bytesC 1).bytesC 1).bytesR ((C.bytesC 1).byteV)))) cC rfl ⟨_,rfl,(bo.upd' cx N aK),b8 (by omega)⟩
 refine bi trivial fun dI=>?_
 have b5:=aG M N
 have a7:=u1 a5 b5 im
 have b6:=aq a a7 (fun x hx=>(aa (fun e=>(aB (ap.lt hC) (le (le (le (le (le (le (le (le (le (le (le b.size j.size) d.size) l.size) o.size) f.size) p.size) q.size) h.size) r.size) s.size) i.size) a) (e▸hx)) aA)) (dq.upd8 a7 (ax (ap.safe u _ (by decide)) aK))
 refine R0 13 rfl<|gO (xs:=L) (ys:=([(Obj.mk C.byteV (((C.bytesC 1).bytesC 1).bytesR ((C.bytesC 1).byteV)))])) (.agg #[.int .u8 0,.slice none 0 0]) 2 32 b6 cD (by simp) dq.ones (fun w' hv=>dq.upd8 hv (d7 (dB _ b6 (by decide)) aK)) (by(try simp only[List.length_append,List.length_cons,List.length_nil,ay]);omega) (le (le (le (le (le v.size y.size) t.size) B.size) M.size) N.size) fun b7 b9 dJ ba bb=>bi trivial fun bc=>Rt 14 bc<|Rt 15 bc<|?_
 have bd:=aE.blk (ut (aE.mono (S':=(g :: (ob A++[]))) b5 (ac im av)) bb (am il av)) (aa (Ne.symm hne) (bf (aB (au hm) (le (le (le (le (le (le (le (le (le (le (le b.size j.size) d.size) l.size) o.size) f.size) p.size) q.size) h.size) r.size) s.size) i.size) a) aA)) a6
 refine R0 16 rfl<|cg bd 21 (mG c 0 0 0 0 0 0 0 0 0 0 0 nS nS nS nS me kd C0.byteV x25.byteV x44.byteV (.slice b7 ((L++[(Obj.mk C.byteV (((C.bytesC 1).bytesC 1).bytesR ((C.bytesC 1).byteV)))]).length) b9)) fun dK cE a8=>bi trivial fun dL=>re<|bn<|tn<|go<|L0<|Oi (((k:Nat) : Int)+1)<|Pl 1<|nl<|?_
 subst cz
 have be:=u1 (aE.mono (S':=(ob A++(gm :: []))) bb (am il av)) a8 im
 have bh:=u1 a5 M im
 exact gM ((k+1),(((C.bytesC 1).bytesC 1).bytesC ((C.bytesC 1).byteV)),(L++[(Obj.mk C.byteV (((C.bytesC 1).bytesC 1).bytesR ((C.bytesC 1).byteV)))]),b7,b9) ⟨(ut v (ut (aE.mono (S':=(g :: (ob A++(gm :: [])))) a7 (ac im av)) be (am il (ac im av))) (ac im (am (aM a lr) (ac im av)))),(ap.upd cA (ut (aE.mono (S':=(ob A++(gm :: []))) N av) be (am il (ac im av))) (bf (aB (ap.lt hC) (le (le (le (le (le (le (le (le (le (le (le b.size j.size) d.size) l.size) o.size) f.size) p.size) q.size) h.size) r.size) s.size) i.size) a) (aa hne aA)) (d7 (dB _ (aq a bh (fun x hx=>(aa (fun e=>(aB (ap.lt hC) (le (le (le (le (le (le (le (le (le (le (le b.size j.size) d.size) l.size) o.size) f.size) p.size) q.size) h.size) r.size) s.size) i.size) a) (e▸hx)) aA)) (dq.upd8 bh (ax (ap.safe u _ (by decide)) aK))) (by decide)) (ax (aY (aZ M (Ne.symm hne) a6) (by decide)) aK))),cE,(aq ba a8 (fun x hx=>(aa (fun e=>(aB (au hm) (le (le (le (le (le (le (le (le (le (le (le b.size j.size) d.size) l.size) o.size) f.size) p.size) q.size) h.size) r.size) s.size) i.size) ba) (e▸hx)) aA)) (dq.upd8 a8 (ax (aY bd (by decide)) aK))),(by(try dsimp only);omega),(by(try dsimp only);rw[← hobj,show x62.byteV.toNat-k=(x62.byteV.toNat-(k+1))+1 from by omega];rfl),(by(try dsimp only);(try simp only[List.length_append,List.length_cons,List.length_nil]);omega)⟩ (by omega)
 refine  Oc<|ri (cS (n:=(C.bytesC 1).byteV) J) fun bj bm dM bq dN dO cF H=>?_
 have dP:=Nat.le_trans (ai.bytesR_le ((C.bytesC 1).bytesC 1) ((C.bytesC 1).byteV)) (ap.len J)
 refine ab cF fun dQ br bs=>?_
 refine bi trivial fun cG=>Rt 11 cG<|?_
 refine R2 4 12 rfl rfl ?_ ?_
 have O:=u1 y (uz t (u1 B H im)) im
 have a9:=aZ O (Ne.symm hne) D
 refine  aP a9 21<|bi trivial fun dR=>R0 12 rfl<|cO (m:=1) (e:=111) #[.int .u8 C.byteV,.slice bj ((((C.bytesC 1).bytesC 1).bytesR ((C.bytesC 1).byteV)).length) bm] fun dS dT dU cH P=>?_
 have cI:=jO (R:=dq true) (x:=(Obj.mk C.byteV (((C.bytesC 1).bytesC 1).bytesR ((C.bytesC 1).byteV)))) cH rfl ⟨_,rfl,(bo.upd' bq P aK),b8 (by omega)⟩
 refine bi trivial fun dV=>?_
 have ad:=aG O P
 have bt:=aq a ad (fun x hx=>(aa (fun e=>(aB (ap.lt hC) (le (le (le (le (le (le (le (le (le (le (le b.size j.size) d.size) l.size) o.size) f.size) p.size) q.size) h.size) r.size) s.size) i.size) a) (e▸hx)) aA)) (dq.upd8 ad (ax (ap.safe u _ (by decide)) aK))
 refine R0 13 rfl<|gO (xs:=L) (ys:=([(Obj.mk C.byteV (((C.bytesC 1).bytesC 1).bytesR ((C.bytesC 1).byteV)))])) (.agg #[.int .u8 0,.slice none 0 0]) 2 32 bt cI (by simp) dq.ones (fun w' hv=>dq.upd8 hv (d7 (dB _ bt (by decide)) aK)) (by(try simp only[List.length_append,List.length_cons,List.length_nil,ay]);omega) (le (le (le (le (le v.size y.size) t.size) B.size) H.size) P.size) fun bu bv dX bw bz=>bi trivial fun bA=>Rt 14 bA<|Rt 15 bA<|?_
 have bB:=ut (aE.mono (S':=(ob A++[])) P av) bz (am il av)
 have bC:=aE.blk bB (bf (aB (au hm) (le (le (le (le (le (le (le (le (le (le (le b.size j.size) d.size) l.size) o.size) f.size) p.size) q.size) h.size) r.size) s.size) i.size) a) aA) a9
 refine R0 16 rfl<|cg bC 21 (mG c 0 0 0 0 0 0 0 0 0 0 0 nS nS nS nS me kd C0.byteV x25.byteV x44.byteV (.slice bu ((L++[(Obj.mk C.byteV (((C.bytesC 1).bytesC 1).bytesR ((C.bytesC 1).byteV)))]).length) bv)) fun dY cK Q=>bi trivial fun dZ=>re<|bn<|tn<|go<|L0<|Oi (((k:Nat) : Int)+1)<|Pl 1<|nl<|?_
 subst br
 exact gM ((k+1),(((C.bytesC 1).bytesC 1).bytesC ((C.bytesC 1).byteV)),(L++[(Obj.mk C.byteV (((C.bytesC 1).bytesC 1).bytesR ((C.bytesC 1).byteV)))]),bu,bv) ⟨(ut v (ut (aE.mono (S':=(g :: (ob A++(gm :: [])))) ad (ac im av)) (u1 (aE.mono (S':=(ob A++(gm :: []))) bz (am il av)) Q im) (am il (ac im av))) (ac im (am (aM a lr) (ac im av)))),(ap.upd bs (u1 (aE.mono (S':=(ob A++(gm :: []))) bB (am il av)) Q im) (bf (aB (ap.lt hC) (le (le (le (le (le (le (le (le (le (le (le b.size j.size) d.size) l.size) o.size) f.size) p.size) q.size) h.size) r.size) s.size) i.size) a) (aa hne aA)) (d7 (dB _ (aq a O (fun x hx=>(aa (fun e=>(aB (ap.lt hC) (le (le (le (le (le (le (le (le (le (le (le b.size j.size) d.size) l.size) o.size) f.size) p.size) q.size) h.size) r.size) s.size) i.size) a) (e▸hx)) aA)) (dq.upd8 O (ax (ap.safe u _ (by decide)) aK))) (by decide)) (ax (aY a9 (by decide)) aK))),cK,(aq bw Q (fun x hx=>(aa (fun e=>(aB (au hm) (le (le (le (le (le (le (le (le (le (le (le b.size j.size) d.size) l.size) o.size) f.size) p.size) q.size) h.size) r.size) s.size) i.size) bw) (e▸hx)) aA)) (dq.upd8 Q (ax (aY bC (by decide)) aK))),(by(try dsimp only);omega),(by(try dsimp only);rw[← hobj,show x62.byteV.toNat-k=(x62.byteV.toNat-(k+1))+1 from by omega];rfl),(by(try dsimp only);(try simp only[List.length_append,List.length_cons,List.length_nil]);omega)⟩ (by omega)
 refine  cO (m:=1) (e:=111) #[.int .u8 C.byteV,.slice bj ((((C.bytesC 1).bytesC 1).bytesR ((C.bytesC 1).byteV)).length) bm] fun e0 e1 e2 cL S=>?_
 have cM:=jO (R:=dq true) (x:=(Obj.mk C.byteV (((C.bytesC 1).bytesC 1).bytesR ((C.bytesC 1).byteV)))) cL rfl ⟨_,rfl,(bo.upd' bq S aK),b8 (by omega)⟩
 refine bi trivial fun e3=>?_
 have T:=u1 y (uz t (u1 B (aG H S) im)) im
 have bD:=aZ T (Ne.symm hne) D
 refine R0 4 rfl<|aP bD 21<|bi trivial fun e4=>?_
 have bE:=aq a T (fun x hx=>(aa (fun e=>(aB (ap.lt hC) (le (le (le (le (le (le (le (le (le (le (le b.size j.size) d.size) l.size) o.size) f.size) p.size) q.size) h.size) r.size) s.size) i.size) a) (e▸hx)) aA)) (dq.upd8 T (ax (ap.safe u _ (by decide)) aK))
 refine R0 13 rfl<|gO (xs:=L) (ys:=([(Obj.mk C.byteV (((C.bytesC 1).bytesC 1).bytesR ((C.bytesC 1).byteV)))])) (.agg #[.int .u8 0,.slice none 0 0]) 2 32 bE cM (by simp) dq.ones (fun w' hv=>dq.upd8 hv (d7 (dB _ bE (by decide)) aK)) (by(try simp only[List.length_append,List.length_cons,List.length_nil,ay]);omega) (le (le (le (le (le v.size y.size) t.size) B.size) H.size) S.size) fun bF bG e5 bH bI=>bi trivial fun bJ=>Rt 14 bJ<|Rt 15 bJ<|?_
 have bK:=aE.blk bI (bf (aB (au hm) (le (le (le (le (le (le (le (le (le (le (le b.size j.size) d.size) l.size) o.size) f.size) p.size) q.size) h.size) r.size) s.size) i.size) a) aA) bD
 refine R0 16 rfl<|cg bK 21 (mG c 0 0 0 0 0 0 0 0 0 0 0 nS nS nS nS me kd C0.byteV x25.byteV x44.byteV (.slice bF ((L++[(Obj.mk C.byteV (((C.bytesC 1).bytesC 1).bytesR ((C.bytesC 1).byteV)))]).length) bG)) fun e6 cN af=>bi trivial fun e7=>re<|bn<|tn<|go<|L0<|Oi (((k:Nat) : Int)+1)<|Pl 1<|nl<|?_
 subst br
 have bL:=u1 (aE.mono (S':=(ob A++(gm :: []))) bI (am il av)) af im
 have ag:=u1 y (uz t (u1 B H im)) im
 exact gM ((k+1),(((C.bytesC 1).bytesC 1).bytesC ((C.bytesC 1).byteV)),(L++[(Obj.mk C.byteV (((C.bytesC 1).bytesC 1).bytesR ((C.bytesC 1).byteV)))]),bF,bG) ⟨(ut v (ut (aE.mono (S':=(g :: (ob A++(gm :: [])))) T (ac im av)) bL (am il (ac im av))) (ac im (am (aM a lr) (ac im av)))),(ap.upd bs (ut (aE.mono (S':=(ob A++(gm :: []))) S av) bL (am il (ac im av))) (bf (aB (ap.lt hC) (le (le (le (le (le (le (le (le (le (le (le b.size j.size) d.size) l.size) o.size) f.size) p.size) q.size) h.size) r.size) s.size) i.size) a) (aa hne aA)) (d7 (dB _ (aq a ag (fun x hx=>(aa (fun e=>(aB (ap.lt hC) (le (le (le (le (le (le (le (le (le (le (le b.size j.size) d.size) l.size) o.size) f.size) p.size) q.size) h.size) r.size) s.size) i.size) a) (e▸hx)) aA)) (dq.upd8 ag (ax (ap.safe u _ (by decide)) aK))) (by decide)) (ax (aY (aZ ag (Ne.symm hne) D) (by decide)) aK))),cN,(aq bH af (fun x hx=>(aa (fun e=>(aB (au hm) (le (le (le (le (le (le (le (le (le (le (le b.size j.size) d.size) l.size) o.size) f.size) p.size) q.size) h.size) r.size) s.size) i.size) bH) (e▸hx)) aA)) (dq.upd8 af (ax (aY bK (by decide)) aK))),(by(try dsimp only);omega),(by(try dsimp only);rw[← hobj,show x62.byteV.toNat-k=(x62.byteV.toNat-(k+1))+1 from by omega];rfl),(by(try dsimp only);(try simp only[List.length_append,List.length_cons,List.length_nil]);omega)⟩ (by omega)
 have cc:=of_decide_eq_false Y
 refine xt<|tx<|tx<|bx<|rm (.tuple #[])<|?_
 subst c3 bY bT bO
 have hf:dH kd C0=(C,L):=by
   have h1:dW ((((((C0.bytesC 1).need (cj C0.byteV) 6).bytesC 1).need ((((C0.bytesC 1).need (cj C0.byteV) 6).byteV==0)||(((C0.bytesC 1).need (cj C0.byteV) 6).byteV==255)) 6).bytesC 1).need ((((C0.bytesC 1).need (cj C0.byteV) 6).byteV != 0)||(((((C0.bytesC 1).need (cj C0.byteV) 6).bytesC 1).need ((((C0.bytesC 1).need (cj C0.byteV) 6).byteV==0)||(((C0.bytesC 1).need (cj C0.byteV) 6).byteV==255)) 6).byteV==0)) 6).byteV.toNat ((((((((C0.bytesC 1).need (cj C0.byteV) 6).bytesC 1).need ((((C0.bytesC 1).need (cj C0.byteV) 6).byteV==0)||(((C0.bytesC 1).need (cj C0.byteV) 6).byteV==255)) 6).bytesC 1).need ((((C0.bytesC 1).need (cj C0.byteV) 6).byteV != 0)||(((((C0.bytesC 1).need (cj C0.byteV) 6).bytesC 1).need ((((C0.bytesC 1).need (cj C0.byteV) 6).byteV==0)||(((C0.bytesC 1).need (cj C0.byteV) 6).byteV==255)) 6).byteV==0)) 6).bytesC 1).need ((kd != 4)||(((((((C0.bytesC 1).need (cj C0.byteV) 6).bytesC 1).need ((((C0.bytesC 1).need (cj C0.byteV) 6).byteV==0)||(((C0.bytesC 1).need (cj C0.byteV) 6).byteV==255)) 6).bytesC 1).need ((((C0.bytesC 1).need (cj C0.byteV) 6).byteV != 0)||(((((C0.bytesC 1).need (cj C0.byteV) 6).bytesC 1).need ((((C0.bytesC 1).need (cj C0.byteV) 6).byteV==0)||(((C0.bytesC 1).need (cj C0.byteV) 6).byteV==255)) 6).byteV==0)) 6).byteV==1)) 5) []=(C,L):=by
     rw[← hobj,show((((((C0.bytesC 1).need (cj C0.byteV) 6).bytesC 1).need ((((C0.bytesC 1).need (cj C0.byteV) 6).byteV==0)||(((C0.bytesC 1).need (cj C0.byteV) 6).byteV==255)) 6).bytesC 1).need ((((C0.bytesC 1).need (cj C0.byteV) 6).byteV != 0)||(((((C0.bytesC 1).need (cj C0.byteV) 6).bytesC 1).need ((((C0.bytesC 1).need (cj C0.byteV) 6).byteV==0)||(((C0.bytesC 1).need (cj C0.byteV) 6).byteV==255)) 6).byteV==0)) 6).byteV.toNat-k=0 from by omega]
     rfl
   exact h1
 rw[hf]
 exact⟨rfl,u,⟨_,⟨D,rfl⟩,⟨_,_,_,_,_,rfl,aS.nil ..,aS.nil ..,aS.nil ..,aS.nil ..,(a).rd,⟨(b8 (x:=c) (by omega)),(b8 (x:=0) (by omega)),(aD (x:=0) (by omega)),(aD (x:=0) (by omega)),(aD (x:=0) (by omega)),(aD (x:=0) (by omega)),(aD (x:=0) (by omega)),(aD (x:=0) (by omega)),(aD (x:=0) (by omega)),(aD (x:=0) (by omega)),(aD (x:=0) (by omega)),(aD (x:=0) (by omega)),(b8 (x:=me) (by omega)),(b8 (x:=kd) (by omega)),(b8 (x:=C0.byteV) (by omega)),(b8 (x:=((C0.bytesC 1).need (cj C0.byteV) 6).byteV) (by omega)),(b8 (x:=((((C0.bytesC 1).need (cj C0.byteV) 6).bytesC 1).need ((((C0.bytesC 1).need (cj C0.byteV) 6).byteV==0)||(((C0.bytesC 1).need (cj C0.byteV) 6).byteV==255)) 6).byteV) (by omega))⟩⟩⟩,(ui b (ui al (ui an (ui f (ui aw (ui h (ui aH (ui i v))))))))⟩
open Go.RowKit
def dj (C:ai) : ai:=(C.bytesC 1).need (C.byteV==13 || C.byteV==14) 8
def eu (C:ai) : ai:=(dj C).need (decide (((dj C).l.length:Int)≤251)) 5
def dX (C:ai) : ai:=((dj C).bytesC 1).need (decide (1≤(dj C).byteV)&&decide ((dj C).byteV≤4)) 6
def bz (dir c:Int)(C:ai) : Option (ai × aQ) :=
  if c != 43 then none
  else if C.byteV==13 then some ((eu C).bytesC ((eu C).l.length:Int),{ aQ.zero with code:=c,mei:=C.byteV,data:=(eu C).bytesR ((eu C).l.length:Int) })
  else if dir==1 then some ((dH (dj C).byteV (dX C)).1,{ aQ.zero with code:=c,mei:=C.byteV,kind:=(dj C).byteV,level:=(dX C).byteV,more:=(ja (dX C)).byteV,next:=(jn (dX C)).byteV,objects:=(dH (dj C).byteV (dX C)).2 })
  else some ((dX C).bytesC 1,{ aQ.zero with code:=c,mei:=C.byteV,kind:=(dj C).byteV,next:=(dX C).byteV })
theorem o5{m:Md}{A:Option Addr}{cp:Nat}{b:List Int}{w:World}{c:Int}(hcode:B8 c)(hsl:bo m w (.slice A b.length cp) b)(hb:b.length≤1048576) :
    Calls Tryz.prog 146 #[.int .i64 0,.int .u8 c,.slice A b.length cp] w (dY (ag bz 0 c b) w):=by
 obtain⟨hcode1,hcode2⟩:=hcode
 have hln:(b.length:Int)≤1048576:=by omega
 refine en 81 Tryz.func146 rfl<|sg<|L0<|bQ mZ fun O bb q i j=>Pl 1<|nt<|sq<|bk<|sg<|Pl 7<|nt<|?_
 refine c0<|sg<|Pl 3<|nt<|cb ((c != 43)) (fun f=>?_) (fun f=>?_)
 have ar:=az f
 refine sg<|Pl 1<|L0<|be i mZ fun bc au aw=>Pl 1<|nt<|rt<|br<|tr<|bX au (.int .i64 4)<|?_
 have hs:ag bz 0 c b=(aQ.zero,4):=by
   unfold ag bz eu dX dj
   (try simp only[f,bs,if_true,if_false,decide_true,decide_false,eq_self,true_or,or_true,or_false,false_or,if_true,if_false,co,cm,cn,cv,reduceIte])
   all_goals rfl
 rw[hs]
 exact cQ (ud j aw q)
 have ar:=aj f
 refine sk<|bn<|tn<|sg<|Pl 1<|?_
 refine L0<|Oc<|e3 (ec (bo.old hsl j) (by omega)) fun P bd a Q k=>Pl 1<|ng<|Pl 2<|L0<|Oc<|m3 (ch Q) fun bf ay g bh=>Pl 1<|L0<|bQ mZ fun R bi h aB aC=>L0<|be aB (mG c 0 0 0 0 0 0 0 0 0 0 0 nS nS nS nS ((ai.mk b false 0).byteV) 0 0 0 0 nS) fun bj E aF=>nt<|sq<|?_
 refine go<|Pl 2<|L0<|aP E 16<|Pl 2<|cu 4 [33] 37 (((((ai.mk b false 0).byteV)==13)||(((ai.mk b false 0).byteV)==14))) (fun K S=>?_) ?_
 refine bl 33 ((((ai.mk b false 0).byteV)==13)) (fun r=>?_) (fun r=>?_)
 have aH:=ae r
 exact Pl 4<|ce S true (by rw[r];rfl)
 have aH:=ak r
 exact Pl 1<|L1<|aP E 16<|Pl 2<|ce S (((ai.mk b false 0).byteV)==14) (by rw[r];rfl)
 have T:=ud aC aF h
 refine L0<|Oc<|m2 (bg (((((ai.mk b false 0).byteV)==13)||(((ai.mk b false 0).byteV)==14))) 8 (ap.old ay T)) fun bm aI U=>?_
 refine ab aI fun x45 v y=>?_
 refine nt<|sq<|sg<|Pl 1<|?_
 have d:=nb (ap.lt Q) g.size h
 have F:=aZ U (Ne.symm d) E
 refine L0<|aP F 16<|Pl 1<|nt<|?_
 have o:=ud k (u1 g (uz T U) im) a
 have V:=aG j o
 refine cb ((((ai.mk b false 0).byteV)==13)) (fun p=>?_) (fun p=>?_)
 have aJ:=ae p
 refine sg<|Pl 2<|L0<|Oc<|mq (et y)<|?_
 have bq:=ap.len y
 refine Pl 1<|L0<|Oc<|m2 (bg ((decide (((x45.l.length:Nat) : Int)≤251))) 5 y) fun bt aM aN=>?_
 refine ab aM fun x59 W z=>?_
 refine nt<|go<|Pl 2<|L0<|Oc<|mq (et z)<|?_
 have bu:=ap.len z
 refine L0<|Oc<|ri (cS (n:=((x59.l.length:Nat) : Int)) z) fun X Y bv Z bw bx aO aR=>?_
 have bA:=Nat.le_trans (ai.bytesR_le x59 ((x59.l.length:Nat) : Int)) (ap.len z)
 refine ab aO fun x69 a0 G=>?_
 refine Pl 1<|?_
 have B:=u1 aN aR im
 have C:=aZ B (Ne.symm d) F
 refine L0<|cg C 14 (mG c 0 0 0 0 0 0 0 0 0 0 0 nS nS (.slice X ((x59.bytesR ((x59.l.length:Nat) : Int)).length) Y) nS ((ai.mk b false 0).byteV) 0 0 0 0 nS) fun bB aT a1=>ng<|Pl 1<|?_
 refine L0<|Oc<|m2 (cE (ap.upd G a1 (aa d aA) (ax (aY C (by decide)) aK))) fun bD a2 a3=>nt<|sq<|sg<|Pl 1<|L0<|Oc<|mq (bF a2)<|?_
 have bE:=ap.len a2
 refine Pl 1<|ng<|Pl 2<|nt<|?_
 have H:=us a1 a3
 have I:=ui B H
 have a4:=ut V I (ac (ni (le (le j.size k.size) g.size) h) (ac (ni j.size a) av))
 refine cb ((x69.endC.e != 0)) (fun s=>?_) (fun s=>?_)
 have J:=az s
 refine sg<|Pl 2<|?_
 refine L0<|be (ub (ut o I (ac (ni (le k.size g.size) h) (ac (nr a) av))) i) mZ fun bG aU a5=>Pl 1<|nt<|rt<|tr<|bX aU (.int .i64 x69.endC.e)<|?_
 subst a0 W v
 have bH:=bo.upd' Z (u1 (aE.mono (S':=[R,P,O]) H (ac im (ac im av))) a5 im) (ax (aY C (by decide)) (ax (ap.safe G _ (by decide)) (ax (aY (ub (ud o B a) i) (by decide)) aK)))
 have hs:ag bz 0 c b=aL (aQ.mk c 0 0 0 0 0 0 0 0 0 0 0 [] [] (((((ai.mk b false 0).bytesC 1).need ((((ai.mk b false 0).byteV)==13)||(((ai.mk b false 0).byteV)==14)) 8).need (decide ((((((ai.mk b false 0).bytesC 1).need ((((ai.mk b false 0).byteV)==13)||(((ai.mk b false 0).byteV)==14)) 8).l.length:Nat) : Int)≤251)) 5).bytesR ((((((ai.mk b false 0).bytesC 1).need ((((ai.mk b false 0).byteV)==13)||(((ai.mk b false 0).byteV)==14)) 8).need (decide ((((((ai.mk b false 0).bytesC 1).need ((((ai.mk b false 0).byteV)==13)||(((ai.mk b false 0).byteV)==14)) 8).l.length:Nat) : Int)≤251)) 5).l.length:Nat) : Int)) [] ((ai.mk b false 0).byteV) 0 0 0 0 []) (((((ai.mk b false 0).bytesC 1).need ((((ai.mk b false 0).byteV)==13)||(((ai.mk b false 0).byteV)==14)) 8).need (decide ((((((ai.mk b false 0).bytesC 1).need ((((ai.mk b false 0).byteV)==13)||(((ai.mk b false 0).byteV)==14)) 8).l.length:Nat) : Int)≤251)) 5).bytesC ((((((ai.mk b false 0).bytesC 1).need ((((ai.mk b false 0).byteV)==13)||(((ai.mk b false 0).byteV)==14)) 8).need (decide ((((((ai.mk b false 0).bytesC 1).need ((((ai.mk b false 0).byteV)==13)||(((ai.mk b false 0).byteV)==14)) 8).l.length:Nat) : Int)≤251)) 5).l.length:Nat) : Int)):=by
   unfold ag bz eu dX dj
   (try simp only[f,p,s,bs,if_true,if_false,decide_true,decide_false,eq_self,true_or,or_true,or_false,false_or,if_true,if_false,co,cm,cn,cv,reduceIte])
   all_goals rfl
 rw[hs]
 exact bC J (ud a4 a5 q)
 have J:=aj s
 refine bp<|sg<|?_
 refine L0<|bP (aZ a3 (Ne.symm d) aT)<|?_
 refine L0<|be (ub (ut o I (ac (ni (le k.size g.size) h) (ac (nr a) av))) i) (mG c 0 0 0 0 0 0 0 0 0 0 0 nS nS (.slice X ((x59.bytesR ((x59.l.length:Nat) : Int)).length) Y) nS ((ai.mk b false 0).byteV) 0 0 0 0 nS) fun bJ aV a6=>Pl 1<|nt<|rt<|bX aV (.int .i64 0)<|?_
 subst a0 W v
 have hs:ag bz 0 c b=aL (aQ.mk c 0 0 0 0 0 0 0 0 0 0 0 [] [] (((((ai.mk b false 0).bytesC 1).need ((((ai.mk b false 0).byteV)==13)||(((ai.mk b false 0).byteV)==14)) 8).need (decide ((((((ai.mk b false 0).bytesC 1).need ((((ai.mk b false 0).byteV)==13)||(((ai.mk b false 0).byteV)==14)) 8).l.length:Nat) : Int)≤251)) 5).bytesR ((((((ai.mk b false 0).bytesC 1).need ((((ai.mk b false 0).byteV)==13)||(((ai.mk b false 0).byteV)==14)) 8).need (decide ((((((ai.mk b false 0).bytesC 1).need ((((ai.mk b false 0).byteV)==13)||(((ai.mk b false 0).byteV)==14)) 8).l.length:Nat) : Int)≤251)) 5).l.length:Nat) : Int)) [] ((ai.mk b false 0).byteV) 0 0 0 0 []) (((((ai.mk b false 0).bytesC 1).need ((((ai.mk b false 0).byteV)==13)||(((ai.mk b false 0).byteV)==14)) 8).need (decide ((((((ai.mk b false 0).bytesC 1).need ((((ai.mk b false 0).byteV)==13)||(((ai.mk b false 0).byteV)==14)) 8).l.length:Nat) : Int)≤251)) 5).bytesC ((((((ai.mk b false 0).bytesC 1).need ((((ai.mk b false 0).byteV)==13)||(((ai.mk b false 0).byteV)==14)) 8).need (decide ((((((ai.mk b false 0).bytesC 1).need ((((ai.mk b false 0).byteV)==13)||(((ai.mk b false 0).byteV)==14)) 8).l.length:Nat) : Int)≤251)) 5).l.length:Nat) : Int)):=by
   unfold ag bz eu dX dj
   (try simp only[f,p,s,bs,if_true,if_false,decide_true,decide_false,eq_self,true_or,or_true,or_false,false_or,if_true,if_false,co,cm,cn,cv,reduceIte])
   all_goals rfl
 rw[hs]
 exact bI J ⟨_,_,_,_,_,rfl,aS.nil ..,aS.nil ..,(bo.upd' Z (u1 (aE.mono (S':=[R,P,O]) H (ac im (ac im av))) a6 im) (ax (aY C (by decide)) (ax (ap.safe G _ (by decide)) (ax (aY (ub (ud o B a) i) (by decide)) aK)))),aS.nil ..,aS.nil ..,⟨(b8 (x:=c) (by omega)),(b8 (x:=0) (by omega)),(aD (x:=0) (by omega)),(aD (x:=0) (by omega)),(aD (x:=0) (by omega)),(aD (x:=0) (by omega)),(aD (x:=0) (by omega)),(aD (x:=0) (by omega)),(aD (x:=0) (by omega)),(aD (x:=0) (by omega)),(aD (x:=0) (by omega)),(aD (x:=0) (by omega)),(b8 (x:=(ai.mk b false 0).byteV) (by omega)),(b8 (x:=0) (by omega)),(b8 (x:=0) (by omega)),(b8 (x:=0) (by omega)),(b8 (x:=0) (by omega))⟩⟩ (ud a4 a6 q)
 have aJ:=ak p
 refine sg<|Pl 1<|L0<|Oc<|m3 (ch y) fun bK aW a7 bL=>Pl 1<|?_
 have a8:=aZ a7 (Ne.symm d) F
 refine L0<|cg a8 17 (mG c 0 0 0 0 0 0 0 0 0 0 0 nS nS nS nS ((ai.mk b false 0).byteV) x45.byteV 0 0 0 nS) fun bM L a9=>ng<|Pl 2<|L0<|aP L 17<|Pl 2<|cu 4 [59] 63 (((decide (1≤x45.byteV))&&(decide (x45.byteV≤4)))) (fun K ad=>?_) ?_
 refine bl 59 ((decide (1≤x45.byteV))) (fun t=>?_) (fun t=>?_)
 have aX:=of_decide_eq_true t
 exact Pl 1<|L1<|aP L 17<|Pl 2<|ce ad (decide (x45.byteV≤4)) (by rw[t];rfl)
 have aX:=of_decide_eq_false t
 exact Pl 4<|ce ad false (by rw[t];rfl)
 refine L0<|Oc<|m2 (bg (((decide (1≤x45.byteV))&&(decide (x45.byteV≤4)))) 6 (ap.upd aW a9 (aa d aA) (ax (aY a8 (by decide)) aK))) fun bN b0 b1=>?_
 refine ab b0 fun D af b2=>?_
 refine ng<|Pl 2<|nt<|c0<|go<|Pl 1<|L0<|Oc<|m3 (ch b2) fun bO b3 b4 bR=>Pl 1<|?_
 have ah:=u1 b1 b4 im
 have al:=aZ ah (Ne.symm d) L
 refine L0<|cg al 20 (mG c 0 0 0 0 0 0 0 0 0 0 0 nS nS nS nS ((ai.mk b false 0).byteV) x45.byteV 0 0 D.byteV nS) fun bS b5 am=>ng<|Pl 1<|?_
 refine L0<|Oc<|m2 (cE (ap.upd b3 am (aa d aA) (ax (aY al (by decide)) aK))) fun bT an ao=>nt<|sq<|sg<|Pl 1<|L0<|Oc<|mq (bF an)<|?_
 have bU:=ap.len an
 refine Pl 1<|ng<|Pl 2<|nt<|?_
 have M:=ui a7 (ui a9 (ui ah (us am ao)))
 have aq:=ut V M (ac (ni (le (le j.size k.size) g.size) h) (ac (ni j.size a) av))
 refine cb (((((D.bytesC 1).endC).e)!=0)) (fun u=>?_) (fun u=>?_)
 have N:=az u
 refine sg<|Pl 2<|?_
 refine L0<|be (ub (ut o M (ac (ni (le k.size g.size) h) (ac (nr a) av))) i) mZ fun bV b6 b7=>Pl 1<|nt<|rt<|tr<|bX b6 (.int .i64 (((D.bytesC 1).endC).e))<|?_
 subst af v
 have hs:ag bz 0 c b=aL (aQ.mk c 0 0 0 0 0 0 0 0 0 0 0 [] [] [] [] ((ai.mk b false 0).byteV) ((((ai.mk b false 0).bytesC 1).need ((((ai.mk b false 0).byteV)==13)||(((ai.mk b false 0).byteV)==14)) 8).byteV) 0 0 ((((((ai.mk b false 0).bytesC 1).need ((((ai.mk b false 0).byteV)==13)||(((ai.mk b false 0).byteV)==14)) 8).bytesC 1).need ((decide (1≤(((ai.mk b false 0).bytesC 1).need ((((ai.mk b false 0).byteV)==13)||(((ai.mk b false 0).byteV)==14)) 8).byteV))&&(decide ((((ai.mk b false 0).bytesC 1).need ((((ai.mk b false 0).byteV)==13)||(((ai.mk b false 0).byteV)==14)) 8).byteV≤4))) 6).byteV) []) ((((((ai.mk b false 0).bytesC 1).need ((((ai.mk b false 0).byteV)==13)||(((ai.mk b false 0).byteV)==14)) 8).bytesC 1).need ((decide (1≤(((ai.mk b false 0).bytesC 1).need ((((ai.mk b false 0).byteV)==13)||(((ai.mk b false 0).byteV)==14)) 8).byteV))&&(decide ((((ai.mk b false 0).bytesC 1).need ((((ai.mk b false 0).byteV)==13)||(((ai.mk b false 0).byteV)==14)) 8).byteV≤4))) 6).bytesC 1):=by
   unfold ag bz eu dX dj
   (try simp only[f,p,u,bs,if_true,if_false,decide_true,decide_false,eq_self,true_or,or_true,or_false,false_or,if_true,if_false,co,cm,cn,cv,reduceIte])
   all_goals rfl
 rw[hs]
 exact bC N (ud aq b7 q)
 have N:=aj u
 refine bp<|sg<|?_
 refine L0<|bP (aZ ao (Ne.symm d) b5)<|?_
 refine L0<|be (ub (ut o M (ac (ni (le k.size g.size) h) (ac (nr a) av))) i) (mG c 0 0 0 0 0 0 0 0 0 0 0 nS nS nS nS ((ai.mk b false 0).byteV) x45.byteV 0 0 D.byteV nS) fun bW b9 ba=>Pl 1<|nt<|rt<|bX b9 (.int .i64 0)<|?_
 subst af v
 have hs:ag bz 0 c b=aL (aQ.mk c 0 0 0 0 0 0 0 0 0 0 0 [] [] [] [] ((ai.mk b false 0).byteV) ((((ai.mk b false 0).bytesC 1).need ((((ai.mk b false 0).byteV)==13)||(((ai.mk b false 0).byteV)==14)) 8).byteV) 0 0 ((((((ai.mk b false 0).bytesC 1).need ((((ai.mk b false 0).byteV)==13)||(((ai.mk b false 0).byteV)==14)) 8).bytesC 1).need ((decide (1≤(((ai.mk b false 0).bytesC 1).need ((((ai.mk b false 0).byteV)==13)||(((ai.mk b false 0).byteV)==14)) 8).byteV))&&(decide ((((ai.mk b false 0).bytesC 1).need ((((ai.mk b false 0).byteV)==13)||(((ai.mk b false 0).byteV)==14)) 8).byteV≤4))) 6).byteV) []) ((((((ai.mk b false 0).bytesC 1).need ((((ai.mk b false 0).byteV)==13)||(((ai.mk b false 0).byteV)==14)) 8).bytesC 1).need ((decide (1≤(((ai.mk b false 0).bytesC 1).need ((((ai.mk b false 0).byteV)==13)||(((ai.mk b false 0).byteV)==14)) 8).byteV))&&(decide ((((ai.mk b false 0).bytesC 1).need ((((ai.mk b false 0).byteV)==13)||(((ai.mk b false 0).byteV)==14)) 8).byteV≤4))) 6).bytesC 1):=by
   unfold ag bz eu dX dj
   (try simp only[f,p,u,bs,if_true,if_false,decide_true,decide_false,eq_self,true_or,or_true,or_false,false_or,if_true,if_false,co,cm,cn,cv,reduceIte])
   all_goals rfl
 rw[hs]
 exact bI N ⟨_,_,_,_,_,rfl,aS.nil ..,aS.nil ..,aS.nil ..,aS.nil ..,aS.nil ..,⟨(b8 (x:=c) (by omega)),(b8 (x:=0) (by omega)),(aD (x:=0) (by omega)),(aD (x:=0) (by omega)),(aD (x:=0) (by omega)),(aD (x:=0) (by omega)),(aD (x:=0) (by omega)),(aD (x:=0) (by omega)),(aD (x:=0) (by omega)),(aD (x:=0) (by omega)),(aD (x:=0) (by omega)),(aD (x:=0) (by omega)),(b8 (x:=(ai.mk b false 0).byteV) (by omega)),(b8 (x:=(((ai.mk b false 0).bytesC 1).need ((((ai.mk b false 0).byteV)==13)||(((ai.mk b false 0).byteV)==14)) 8).byteV) (by omega)),(b8 (x:=0) (by omega)),(b8 (x:=0) (by omega)),(b8 (x:=(((((ai.mk b false 0).bytesC 1).need ((((ai.mk b false 0).byteV)==13)||(((ai.mk b false 0).byteV)==14)) 8).bytesC 1).need ((decide (1≤(((ai.mk b false 0).bytesC 1).need ((((ai.mk b false 0).byteV)==13)||(((ai.mk b false 0).byteV)==14)) 8).byteV))&&(decide ((((ai.mk b false 0).bytesC 1).need ((((ai.mk b false 0).byteV)==13)||(((ai.mk b false 0).byteV)==14)) 8).byteV≤4))) 6).byteV) (by omega))⟩⟩ (ud aq ba q)
theorem nW{m:Md}{A:Option Addr}{cp:Nat}{b:List Int}{w:World}{c:Int}(hcode:B8 c)(hsl:bo m w (.slice A b.length cp) b)(hb:b.length≤1048576) :
    Calls Tryz.prog 146 #[.int .i64 1,.int .u8 c,.slice A b.length cp] w (dY (ag bz 1 c b) w):=by
 obtain⟨hcode1,hcode2⟩:=hcode
 have hln:(b.length:Int)≤1048576:=by omega
 refine en 81 Tryz.func146 rfl<|sg<|L0<|bQ mZ fun T bh q h o=>Pl 1<|nt<|sq<|bk<|sg<|Pl 7<|nt<|?_
 refine c0<|sg<|Pl 3<|nt<|cb ((c != 43)) (fun i=>?_) (fun i=>?_)
 have aB:=az i
 refine sg<|Pl 1<|L0<|be h mZ fun bi aC aF=>Pl 1<|nt<|rt<|br<|tr<|bX aC (.int .i64 4)<|?_
 have hs:ag bz 1 c b=(aQ.zero,4):=by
   unfold ag bz eu dX dj
   (try simp only[i,bs,if_true,if_false,decide_true,decide_false,eq_self,true_or,or_true,or_false,false_or,if_true,if_false,co,cm,cn,cv,reduceIte])
   all_goals rfl
 rw[hs]
 exact cQ (ud o aF q)
 have aB:=aj i
 refine sk<|bn<|tn<|sg<|Pl 1<|?_
 refine L0<|Oc<|e3 (ec (bo.old hsl o) (by omega)) fun U bj a V j=>Pl 1<|ng<|Pl 2<|L0<|Oc<|m3 (ch V) fun bm aH d bq=>Pl 1<|L0<|bQ mZ fun W bt f aI aJ=>L0<|be aI (mG c 0 0 0 0 0 0 0 0 0 0 0 nS nS nS nS ((ai.mk b false 0).byteV) 0 0 0 0 nS) fun bu E aM=>nt<|sq<|?_
 refine go<|Pl 2<|L0<|aP E 16<|Pl 2<|cu 4 [33] 37 (((((ai.mk b false 0).byteV)==13)||(((ai.mk b false 0).byteV)==14))) (fun K X=>?_) ?_
 refine bl 33 ((((ai.mk b false 0).byteV)==13)) (fun r=>?_) (fun r=>?_)
 have aR:=ae r
 exact Pl 4<|ce X true (by rw[r];rfl)
 have aR:=ak r
 exact Pl 1<|L1<|aP E 16<|Pl 2<|ce X (((ai.mk b false 0).byteV)==14) (by rw[r];rfl)
 have Y:=ud aJ aM f
 refine L0<|Oc<|m2 (bg (((((ai.mk b false 0).byteV)==13)||(((ai.mk b false 0).byteV)==14))) 8 (ap.old aH Y)) fun bv aT Z=>?_
 refine ab aT fun x45 v y=>?_
 refine nt<|sq<|sg<|Pl 1<|?_
 have g:=nb (ap.lt V) d.size f
 have F:=aZ Z (Ne.symm g) E
 refine L0<|aP F 16<|Pl 1<|nt<|?_
 have k:=ud j (u1 d (uz Y Z) im) a
 have a0:=aG o k
 refine cb ((((ai.mk b false 0).byteV)==13)) (fun p=>?_) (fun p=>?_)
 have aU:=ae p
 refine sg<|Pl 2<|L0<|Oc<|mq (et y)<|?_
 have bw:=ap.len y
 refine Pl 1<|L0<|Oc<|m2 (bg ((decide (((x45.l.length:Nat) : Int)≤251))) 5 y) fun bx aV aW=>?_
 refine ab aV fun x59 a1 z=>?_
 refine nt<|go<|Pl 2<|L0<|Oc<|mq (et z)<|?_
 have bA:=ap.len z
 refine L0<|Oc<|ri (cS (n:=((x59.l.length:Nat) : Int)) z) fun a2 a3 bB a4 bD bE aX b0=>?_
 have bG:=Nat.le_trans (ai.bytesR_le x59 ((x59.l.length:Nat) : Int)) (ap.len z)
 refine ab aX fun x69 a5 G=>?_
 refine Pl 1<|?_
 have B:=u1 aW b0 im
 have C:=aZ B (Ne.symm g) F
 refine L0<|cg C 14 (mG c 0 0 0 0 0 0 0 0 0 0 0 nS nS (.slice a2 ((x59.bytesR ((x59.l.length:Nat) : Int)).length) a3) nS ((ai.mk b false 0).byteV) 0 0 0 0 nS) fun bH b1 a6=>ng<|Pl 1<|?_
 refine L0<|Oc<|m2 (cE (ap.upd G a6 (aa g aA) (ax (aY C (by decide)) aK))) fun bJ a7 a8=>nt<|sq<|sg<|Pl 1<|L0<|Oc<|mq (bF a7)<|?_
 have bK:=ap.len a7
 refine Pl 1<|ng<|Pl 2<|nt<|?_
 have H:=us a6 a8
 have I:=ui B H
 have a9:=ut a0 I (ac (ni (le (le o.size j.size) d.size) f) (ac (ni o.size a) av))
 refine cb ((x69.endC.e != 0)) (fun s=>?_) (fun s=>?_)
 have J:=az s
 refine sg<|Pl 2<|?_
 refine L0<|be (ub (ut k I (ac (ni (le j.size d.size) f) (ac (nr a) av))) h) mZ fun bL b2 ad=>Pl 1<|nt<|rt<|tr<|bX b2 (.int .i64 x69.endC.e)<|?_
 subst a5 a1 v
 have bM:=bo.upd' a4 (u1 (aE.mono (S':=[W,U,T]) H (ac im (ac im av))) ad im) (ax (aY C (by decide)) (ax (ap.safe G _ (by decide)) (ax (aY (ub (ud k B a) h) (by decide)) aK)))
 have hs:ag bz 1 c b=aL (aQ.mk c 0 0 0 0 0 0 0 0 0 0 0 [] [] (((((ai.mk b false 0).bytesC 1).need ((((ai.mk b false 0).byteV)==13)||(((ai.mk b false 0).byteV)==14)) 8).need (decide ((((((ai.mk b false 0).bytesC 1).need ((((ai.mk b false 0).byteV)==13)||(((ai.mk b false 0).byteV)==14)) 8).l.length:Nat) : Int)≤251)) 5).bytesR ((((((ai.mk b false 0).bytesC 1).need ((((ai.mk b false 0).byteV)==13)||(((ai.mk b false 0).byteV)==14)) 8).need (decide ((((((ai.mk b false 0).bytesC 1).need ((((ai.mk b false 0).byteV)==13)||(((ai.mk b false 0).byteV)==14)) 8).l.length:Nat) : Int)≤251)) 5).l.length:Nat) : Int)) [] ((ai.mk b false 0).byteV) 0 0 0 0 []) (((((ai.mk b false 0).bytesC 1).need ((((ai.mk b false 0).byteV)==13)||(((ai.mk b false 0).byteV)==14)) 8).need (decide ((((((ai.mk b false 0).bytesC 1).need ((((ai.mk b false 0).byteV)==13)||(((ai.mk b false 0).byteV)==14)) 8).l.length:Nat) : Int)≤251)) 5).bytesC ((((((ai.mk b false 0).bytesC 1).need ((((ai.mk b false 0).byteV)==13)||(((ai.mk b false 0).byteV)==14)) 8).need (decide ((((((ai.mk b false 0).bytesC 1).need ((((ai.mk b false 0).byteV)==13)||(((ai.mk b false 0).byteV)==14)) 8).l.length:Nat) : Int)≤251)) 5).l.length:Nat) : Int)):=by
   unfold ag bz eu dX dj
   (try simp only[i,p,s,bs,if_true,if_false,decide_true,decide_false,eq_self,true_or,or_true,or_false,false_or,if_true,if_false,co,cm,cn,cv,reduceIte])
   all_goals rfl
 rw[hs]
 exact bC J (ud a9 ad q)
 have J:=aj s
 refine bp<|sg<|?_
 refine L0<|bP (aZ a8 (Ne.symm g) b1)<|?_
 refine L0<|be (ub (ut k I (ac (ni (le j.size d.size) f) (ac (nr a) av))) h) (mG c 0 0 0 0 0 0 0 0 0 0 0 nS nS (.slice a2 ((x59.bytesR ((x59.l.length:Nat) : Int)).length) a3) nS ((ai.mk b false 0).byteV) 0 0 0 0 nS) fun bN b3 af=>Pl 1<|nt<|rt<|bX b3 (.int .i64 0)<|?_
 subst a5 a1 v
 have hs:ag bz 1 c b=aL (aQ.mk c 0 0 0 0 0 0 0 0 0 0 0 [] [] (((((ai.mk b false 0).bytesC 1).need ((((ai.mk b false 0).byteV)==13)||(((ai.mk b false 0).byteV)==14)) 8).need (decide ((((((ai.mk b false 0).bytesC 1).need ((((ai.mk b false 0).byteV)==13)||(((ai.mk b false 0).byteV)==14)) 8).l.length:Nat) : Int)≤251)) 5).bytesR ((((((ai.mk b false 0).bytesC 1).need ((((ai.mk b false 0).byteV)==13)||(((ai.mk b false 0).byteV)==14)) 8).need (decide ((((((ai.mk b false 0).bytesC 1).need ((((ai.mk b false 0).byteV)==13)||(((ai.mk b false 0).byteV)==14)) 8).l.length:Nat) : Int)≤251)) 5).l.length:Nat) : Int)) [] ((ai.mk b false 0).byteV) 0 0 0 0 []) (((((ai.mk b false 0).bytesC 1).need ((((ai.mk b false 0).byteV)==13)||(((ai.mk b false 0).byteV)==14)) 8).need (decide ((((((ai.mk b false 0).bytesC 1).need ((((ai.mk b false 0).byteV)==13)||(((ai.mk b false 0).byteV)==14)) 8).l.length:Nat) : Int)≤251)) 5).bytesC ((((((ai.mk b false 0).bytesC 1).need ((((ai.mk b false 0).byteV)==13)||(((ai.mk b false 0).byteV)==14)) 8).need (decide ((((((ai.mk b false 0).bytesC 1).need ((((ai.mk b false 0).byteV)==13)||(((ai.mk b false 0).byteV)==14)) 8).l.length:Nat) : Int)≤251)) 5).l.length:Nat) : Int)):=by
   unfold ag bz eu dX dj
   (try simp only[i,p,s,bs,if_true,if_false,decide_true,decide_false,eq_self,true_or,or_true,or_false,false_or,if_true,if_false,co,cm,cn,cv,reduceIte])
   all_goals rfl
 rw[hs]
 exact bI J ⟨_,_,_,_,_,rfl,aS.nil ..,aS.nil ..,(bo.upd' a4 (u1 (aE.mono (S':=[W,U,T]) H (ac im (ac im av))) af im) (ax (aY C (by decide)) (ax (ap.safe G _ (by decide)) (ax (aY (ub (ud k B a) h) (by decide)) aK)))),aS.nil ..,aS.nil ..,⟨(b8 (x:=c) (by omega)),(b8 (x:=0) (by omega)),(aD (x:=0) (by omega)),(aD (x:=0) (by omega)),(aD (x:=0) (by omega)),(aD (x:=0) (by omega)),(aD (x:=0) (by omega)),(aD (x:=0) (by omega)),(aD (x:=0) (by omega)),(aD (x:=0) (by omega)),(aD (x:=0) (by omega)),(aD (x:=0) (by omega)),(b8 (x:=(ai.mk b false 0).byteV) (by omega)),(b8 (x:=0) (by omega)),(b8 (x:=0) (by omega)),(b8 (x:=0) (by omega)),(b8 (x:=0) (by omega))⟩⟩ (ud a9 af q)
 have aU:=ak p
 refine sg<|Pl 1<|L0<|Oc<|m3 (ch y) fun bO b4 L bR=>Pl 1<|?_
 have ah:=aZ L (Ne.symm g) F
 refine L0<|cg ah 17 (mG c 0 0 0 0 0 0 0 0 0 0 0 nS nS nS nS ((ai.mk b false 0).byteV) x45.byteV 0 0 0 nS) fun bS M N=>ng<|Pl 2<|L0<|aP M 17<|Pl 2<|cu 4 [59] 63 (((decide (1≤x45.byteV))&&(decide (x45.byteV≤4)))) (fun K al=>?_) ?_
 refine bl 59 ((decide (1≤x45.byteV))) (fun t=>?_) (fun t=>?_)
 have b5:=of_decide_eq_true t
 exact Pl 1<|L1<|aP M 17<|Pl 2<|ce al (decide (x45.byteV≤4)) (by rw[t];rfl)
 have b5:=of_decide_eq_false t
 exact Pl 4<|ce al false (by rw[t];rfl)
 refine L0<|Oc<|m2 (bg (((decide (1≤x45.byteV))&&(decide (x45.byteV≤4)))) 6 (ap.upd b4 N (aa g aA) (ax (aY ah (by decide)) aK))) fun bT b6 O=>?_
 refine ab b6 fun bU am b7=>?_
 refine ng<|Pl 2<|nt<|c1<|go<|Pl 1<|?_
 refine L0<|Oc<|m3 (oV (c:=c) (me:=(ai.mk b false 0).byteV) (kd:=x45.byteV) ⟨hcode1,hcode2⟩ (b8 (by omega)) (b8 (by omega)) b7 (aZ O (Ne.symm g) M) g) fun bV an b9 ao=>?_
 obtain⟨ba,D,P⟩:=b9
 refine ng<|Pl 1<|L0<|Oc<|m2 (cE an) fun bW bb Q=>?_
 refine ab bb fun aq ar au=>?_
 refine nt<|sq<|sg<|Pl 1<|L0<|Oc<|mq (bF au)<|?_
 have bY:=ap.len au
 refine Pl 1<|ng<|Pl 2<|nt<|?_
 have R:=ui L (ui N (ui O (u1 ao Q im)))
 have aw:=ut a0 R (ac (ni o.size a) (ac (ni (le (le o.size j.size) d.size) f) av))
 refine cb ((aq.e != 0)) (fun u=>?_) (fun u=>?_)
 have S:=az u
 refine sg<|Pl 2<|?_
 refine L0<|be (ub (ut k R (ac (nr a) (ac (ni (le j.size d.size) f) av))) h) mZ fun bZ bc bd=>Pl 1<|nt<|rt<|tr<|bX bc (.int .i64 aq.e)<|?_
 subst ar am v
 have hs:ag bz 1 c b=aL ({ aQ.zero with code:=c,mei:=(ai.mk b false 0).byteV,kind:=(((ai.mk b false 0).bytesC 1).need ((((ai.mk b false 0).byteV)==13)||(((ai.mk b false 0).byteV)==14)) 8).byteV,level:=(((((ai.mk b false 0).bytesC 1).need ((((ai.mk b false 0).byteV)==13)||(((ai.mk b false 0).byteV)==14)) 8).bytesC 1).need ((decide (1≤(((ai.mk b false 0).bytesC 1).need ((((ai.mk b false 0).byteV)==13)||(((ai.mk b false 0).byteV)==14)) 8).byteV))&&(decide ((((ai.mk b false 0).bytesC 1).need ((((ai.mk b false 0).byteV)==13)||(((ai.mk b false 0).byteV)==14)) 8).byteV≤4))) 6).byteV,more:=(ja (((((ai.mk b false 0).bytesC 1).need ((((ai.mk b false 0).byteV)==13)||(((ai.mk b false 0).byteV)==14)) 8).bytesC 1).need ((decide (1≤(((ai.mk b false 0).bytesC 1).need ((((ai.mk b false 0).byteV)==13)||(((ai.mk b false 0).byteV)==14)) 8).byteV))&&(decide ((((ai.mk b false 0).bytesC 1).need ((((ai.mk b false 0).byteV)==13)||(((ai.mk b false 0).byteV)==14)) 8).byteV≤4))) 6)).byteV,next:=(jn (((((ai.mk b false 0).bytesC 1).need ((((ai.mk b false 0).byteV)==13)||(((ai.mk b false 0).byteV)==14)) 8).bytesC 1).need ((decide (1≤(((ai.mk b false 0).bytesC 1).need ((((ai.mk b false 0).byteV)==13)||(((ai.mk b false 0).byteV)==14)) 8).byteV))&&(decide ((((ai.mk b false 0).bytesC 1).need ((((ai.mk b false 0).byteV)==13)||(((ai.mk b false 0).byteV)==14)) 8).byteV≤4))) 6)).byteV,objects:=(dH (((ai.mk b false 0).bytesC 1).need ((((ai.mk b false 0).byteV)==13)||(((ai.mk b false 0).byteV)==14)) 8).byteV (((((ai.mk b false 0).bytesC 1).need ((((ai.mk b false 0).byteV)==13)||(((ai.mk b false 0).byteV)==14)) 8).bytesC 1).need ((decide (1≤(((ai.mk b false 0).bytesC 1).need ((((ai.mk b false 0).byteV)==13)||(((ai.mk b false 0).byteV)==14)) 8).byteV))&&(decide ((((ai.mk b false 0).bytesC 1).need ((((ai.mk b false 0).byteV)==13)||(((ai.mk b false 0).byteV)==14)) 8).byteV≤4))) 6)).2 }) ((dH (((ai.mk b false 0).bytesC 1).need ((((ai.mk b false 0).byteV)==13)||(((ai.mk b false 0).byteV)==14)) 8).byteV (((((ai.mk b false 0).bytesC 1).need ((((ai.mk b false 0).byteV)==13)||(((ai.mk b false 0).byteV)==14)) 8).bytesC 1).need ((decide (1≤(((ai.mk b false 0).bytesC 1).need ((((ai.mk b false 0).byteV)==13)||(((ai.mk b false 0).byteV)==14)) 8).byteV))&&(decide ((((ai.mk b false 0).bytesC 1).need ((((ai.mk b false 0).byteV)==13)||(((ai.mk b false 0).byteV)==14)) 8).byteV≤4))) 6)).1):=by
   unfold ag bz eu dX dj
   (try simp only[i,p,u,bs,if_true,if_false,decide_true,decide_false,eq_self,true_or,or_true,or_false,false_or,if_true,if_false,co,cm,cn,cv,reduceIte])
   all_goals rfl
 rw[hs]
 exact bC S (ud aw bd q)
 have S:=aj u
 refine bp<|sg<|?_
 refine L0<|bP (hz:=(by rw[D.2];exact aN)) (aZ Q (Ne.symm g) D.1)<|?_
 refine L0<|be (hz:=(by rw[D.2];exact aN)) (hv:=P.size) (h1:=P.one) (ub (ut k R (ac (nr a) (ac (ni (le j.size d.size) f) av))) h) (ba) fun c2 bf ay=>Pl 1<|nt<|rt<|eF 22 D.2 bf (.int .i64 0)<|?_
 subst ar am v
 have hs:ag bz 1 c b=aL ({ aQ.zero with code:=c,mei:=(ai.mk b false 0).byteV,kind:=(((ai.mk b false 0).bytesC 1).need ((((ai.mk b false 0).byteV)==13)||(((ai.mk b false 0).byteV)==14)) 8).byteV,level:=(((((ai.mk b false 0).bytesC 1).need ((((ai.mk b false 0).byteV)==13)||(((ai.mk b false 0).byteV)==14)) 8).bytesC 1).need ((decide (1≤(((ai.mk b false 0).bytesC 1).need ((((ai.mk b false 0).byteV)==13)||(((ai.mk b false 0).byteV)==14)) 8).byteV))&&(decide ((((ai.mk b false 0).bytesC 1).need ((((ai.mk b false 0).byteV)==13)||(((ai.mk b false 0).byteV)==14)) 8).byteV≤4))) 6).byteV,more:=(ja (((((ai.mk b false 0).bytesC 1).need ((((ai.mk b false 0).byteV)==13)||(((ai.mk b false 0).byteV)==14)) 8).bytesC 1).need ((decide (1≤(((ai.mk b false 0).bytesC 1).need ((((ai.mk b false 0).byteV)==13)||(((ai.mk b false 0).byteV)==14)) 8).byteV))&&(decide ((((ai.mk b false 0).bytesC 1).need ((((ai.mk b false 0).byteV)==13)||(((ai.mk b false 0).byteV)==14)) 8).byteV≤4))) 6)).byteV,next:=(jn (((((ai.mk b false 0).bytesC 1).need ((((ai.mk b false 0).byteV)==13)||(((ai.mk b false 0).byteV)==14)) 8).bytesC 1).need ((decide (1≤(((ai.mk b false 0).bytesC 1).need ((((ai.mk b false 0).byteV)==13)||(((ai.mk b false 0).byteV)==14)) 8).byteV))&&(decide ((((ai.mk b false 0).bytesC 1).need ((((ai.mk b false 0).byteV)==13)||(((ai.mk b false 0).byteV)==14)) 8).byteV≤4))) 6)).byteV,objects:=(dH (((ai.mk b false 0).bytesC 1).need ((((ai.mk b false 0).byteV)==13)||(((ai.mk b false 0).byteV)==14)) 8).byteV (((((ai.mk b false 0).bytesC 1).need ((((ai.mk b false 0).byteV)==13)||(((ai.mk b false 0).byteV)==14)) 8).bytesC 1).need ((decide (1≤(((ai.mk b false 0).bytesC 1).need ((((ai.mk b false 0).byteV)==13)||(((ai.mk b false 0).byteV)==14)) 8).byteV))&&(decide ((((ai.mk b false 0).bytesC 1).need ((((ai.mk b false 0).byteV)==13)||(((ai.mk b false 0).byteV)==14)) 8).byteV≤4))) 6)).2 }) ((dH (((ai.mk b false 0).bytesC 1).need ((((ai.mk b false 0).byteV)==13)||(((ai.mk b false 0).byteV)==14)) 8).byteV (((((ai.mk b false 0).bytesC 1).need ((((ai.mk b false 0).byteV)==13)||(((ai.mk b false 0).byteV)==14)) 8).bytesC 1).need ((decide (1≤(((ai.mk b false 0).bytesC 1).need ((((ai.mk b false 0).byteV)==13)||(((ai.mk b false 0).byteV)==14)) 8).byteV))&&(decide ((((ai.mk b false 0).bytesC 1).need ((((ai.mk b false 0).byteV)==13)||(((ai.mk b false 0).byteV)==14)) 8).byteV≤4))) 6)).1):=by
   unfold ag bz eu dX dj
   (try simp only[i,p,u,bs,if_true,if_false,decide_true,decide_false,eq_self,true_or,or_true,or_false,false_or,if_true,if_false,co,cm,cn,cv,reduceIte])
   all_goals rfl
 rw[hs]
 exact bI S (aO.upd P (us Q ay) (ax (ap.safe an _ (by decide)) (ax (aY (ub (ut k (ui L (ui N (ui O ao))) (ac (nr a) (ac (ni (le j.size d.size) f) av))) h) (by decide)) aK))) (ud aw ay q)
theorem nR{m:Md}{A:Option Addr}{cp:Nat}{b:List Int}{w:World}{dir c:Int}(hcode:B8 c)(hsl:bo m w (.slice A b.length cp) b)(hb:b.length≤1048576)(hd:¬ (dir=0∨dir=1)) :
    Calls Tryz.prog 146 #[.int .i64 dir,.int .u8 c,.slice A b.length cp] w (dY (ag bz dir c b) w):=by
 obtain⟨hcode1,hcode2⟩:=hcode
 have hln:(b.length:Int)≤1048576:=by omega
 have e0:(dir != 0)=true:=by simp;omega
 have e1:(dir != 1)=true:=by simp;omega
 refine en 81 Tryz.func146 rfl<|sg<|L0<|bQ mZ fun g h a d e=>Pl 1<|nt<|sq<|bk<|sg<|Pl 3<|sy 14 e0<|Pl 4<|nl<|?_
 refine tn<|ct e1<|sg<|Pl 1<|L0<|be d mZ fun i dF f=>Pl 1<|nt<|rt<|br<|tr<|bX dF (.int .i64 1)<|?_
 have hs:ag bz dir c b=(aQ.zero,1):=by
   unfold ag bz eu dX dj
   (try simp only[e0,e1,bs,if_true,if_false,decide_true,decide_false,eq_self,true_or,or_true,or_false,false_or,if_true,if_false,co,cm,cn,cv,reduceIte,hd])
   all_goals rfl
 rw[hs]
 exact cQ (ud e f a)
theorem lO{m:Md}{v:Value}{b:List Int}{w:World}{dir c:Int}(hc:B8 c)(h:bo m w v b)(hb:b.length≤1048576) :
    Calls Tryz.prog 146 #[.int .i64 dir,.int .u8 c,v] w (dY (ag bz dir c b) w):=by
  obtain⟨A,cp,rfl,_,_⟩:=h.shape
  by_cases h0:dir=0
  · subst h0;exact o5 hc h hb
  by_cases h1:dir=1
  · subst h1;exact nW hc h hb
  exact nR hc h hb (by omega)
open Go.RowKit
def ew (C:ai) : ai:=(C.bytesC 1).need (C.byteV==6) 9
def ij (C:ai) : ai:=((ew C).wordsC 1).need ((ew C).wordV != 0) 6
def l7 (C:ai) : ai:=((ij C).wordsC 1).need (decide ((ij C).wordV≤9999)) 7
def dD (C:ai) : ai:=((l7 C).wordsC 1).need ((l7 C).wordV != 0) 5
def aT (C:ai) : dt:=⟨(ew C).wordV,(ij C).wordV,(l7 C).wordV,[]⟩
def eE (s:Int)(C:ai) : Int:=s+(2+2*(l7 C).wordV)
def eA (s:Int)(C:ai) : ai:=(dD C).need (decide (eE s C≤245)) 5
def gP (C:ai) : ai:=(C.bytesC 1).need ((C.byteV%2==1&&decide (3≤C.byteV))&&decide (C.byteV≤((C.bytesC 1).l.length:Int))) 5
def fE (C:ai) : ai:=((gP C).bytesC 1).need ((gP C).byteV==6) 9
def eL (C:ai) : ai:=(fE C).wordsC (Int.tdiv (C.byteV-1) 2)
def eM (C:ai) : dt:=⟨0,0,0,(fE C).wordsR (Int.tdiv (C.byteV-1) 2)⟩
def l9 (C:ai) : ai:=(dD C).need (decide (2*(l7 C).wordV≤((dD C).l.length:Int))) 5
def iq (C:ai) : ai:=(l9 C).wordsC (l7 C).wordV
def iv (C:ai) : dt:=⟨(ew C).wordV,(ij C).wordV,(l7 C).wordV,(l9 C).wordsR (l7 C).wordV⟩
def uR (g:Nat)(C':ai)(r:dt)(w:World)(e:Ending)(w':World) : Prop:=∃ A c,e = .returned (.agg #[.int .u16 r.file,.int .u16 r.record,.int .u16 r.count,.slice A r.words.length c])∧dN true w' (.slice A r.words.length c) r.words∧dF r.file∧dF r.record∧dF r.count∧ap w' g C'∧aE [g] w w'
theorem mV{g:Nat}{C:ai}{w:World}(hC:ap w g C) : Calls Tryz.prog 251 #[.pointer (some ⟨g,0,none⟩)] w (uR g (dD C) (aT C) w):=by
 have hlen:=hC.len
 refine en 34 Tryz.func251 rfl<|sg<|L0<|bQ #[.int .u16 0,.int .u16 0,.int .u16 0,.slice none 0 0] fun Z a0 c B b=>ng<|Pl 2<|?_
 refine L0<|Oc<|m3 (ch (ap.old hC b)) fun a1 D d a2=>Pl 1<|L0<|Oc<|m2 (bg ((C.byteV==6)) 9 D) fun a3 E e=>?_
 refine ab E fun gV F G=>?_
 refine ng<|L0<|bQ #[.int .u16 0,.int .u16 0,.int .u16 0,.slice none 0 0] fun a4 a5 f H h=>ng<|Pl 1<|?_
 refine L0<|Oc<|m3 (cy (ap.old G h)) fun a6 I i a7=>Pl 1<|?_
 have a:=nb (ap.lt hC) (le (le b.size d.size) e.size) f
 have j:=aZ i (Ne.symm a) H
 refine L0<|cg j 0 #[.int .u16 gV.wordV,.int .u16 0,.int .u16 0,.slice none 0 0] fun a8 k l=>ng<|Pl 2<|L0<|aP k 0<|Pl 1<|?_
 refine L0<|Oc<|m2 (bg ((gV.wordV != 0)) 6 (ap.upd I l (aa a aA) (ax (aY j (by decide)) aK))) fun a9 J K=>?_
 refine ab J fun x45 L M=>?_
 refine ng<|Pl 1<|L0<|Oc<|m3 (cy M) fun ac N O ad=>Pl 1<|?_
 have m:=u1 K O im
 have n:=aZ m (Ne.symm a) k
 refine L0<|cg n 1 #[.int .u16 gV.wordV,.int .u16 x45.wordV,.int .u16 0,.slice none 0 0] fun ae o p=>ng<|Pl 2<|L0<|aP o 1<|Pl 1<|?_
 refine L0<|Oc<|m2 (bg ((decide (x45.wordV≤9999))) 7 (ap.upd N p (aa a aA) (ax (aY n (by decide)) aK))) fun af P Q=>?_
 refine ab P fun x61 R S=>?_
 refine ng<|Pl 1<|L0<|Oc<|m3 (cy S) fun ag T U ah=>Pl 1<|?_
 have q:=u1 Q U im
 have r:=aZ q (Ne.symm a) o
 refine L0<|cg r 2 #[.int .u16 gV.wordV,.int .u16 x45.wordV,.int .u16 x61.wordV,.slice none 0 0] fun aj s t=>ng<|Pl 2<|L0<|aP s 2<|Pl 1<|?_
 refine L0<|Oc<|m2 (bg ((x61.wordV != 0)) 5 (ap.upd T t (aa a aA) (ax (aY r (by decide)) aK))) fun ak V u=>?_
 refine ab V fun x77 W X=>?_
 refine ng<|?_
 refine L0<|bP (aZ u (Ne.symm a) s)<|?_
 have v:=u1 d (u1 e (ud h (ui i (ui l (ui m (ui p (ui q (us t u)))))) f) im) im
 have y:=nb (ap.lt hC) lr c
 have z:=aZ v (Ne.symm y) B
 refine L0<|be z #[.int .u16 gV.wordV,.int .u16 x45.wordV,.int .u16 x61.wordV,.slice none 0 0] fun al Y A=>nt<|rt<|vY Y<|?_
 subst W R L F
 exact⟨_,_,rfl,aS.nil ..,aD (x:=((C.bytesC 1).need (C.byteV==6) 9).wordV) (by omega),aD (x:=((((C.bytesC 1).need (C.byteV==6) 9).wordsC 1).need (((C.bytesC 1).need (C.byteV==6) 9).wordV != 0) 6).wordV) (by omega),aD (x:=((((((C.bytesC 1).need (C.byteV==6) 9).wordsC 1).need (((C.bytesC 1).need (C.byteV==6) 9).wordV != 0) 6).wordsC 1).need (decide (((((C.bytesC 1).need (C.byteV==6) 9).wordsC 1).need (((C.bytesC 1).need (C.byteV==6) 9).wordV != 0) 6).wordV≤9999)) 7).wordV) (by omega),(ap.upd X A (aa y aA) (ax (aY z (by decide)) aK)),(ue b (us v A) c)⟩
theorem qP{g:Nat}{C:ai}{w:World}(hC:ap w g C) : Calls Tryz.prog 254 #[.pointer (some ⟨g,0,none⟩)] w (uR g (eL C) (eM C) w):=by
 have hlen:=hC.len
 refine en 33 Tryz.func254 rfl<|sg<|L0<|bQ #[.int .u16 0,.int .u16 0,.int .u16 0,.slice none 0 0] fun R S f i j=>ng<|Pl 1<|?_
 refine L0<|Oc<|m3 (ch (ap.old hC j)) fun T c k U=>L0<|Oi C.byteV<|Pl 1<|ng<|Pl 2<|L0<|Oe (.int .i64 (Int.tmod C.byteV 2)) (.int .i64 (C.byteV%2)) (congrArg (Value.int .i64) (Int.tmod_eq_emod_of_nonneg (by omega)))<|Pl 2<|cu 3 [11] 14 ((((C.byteV%2)==1)&&(decide (3≤C.byteV)))) (fun K m=>?_) ?_
 refine bl 11 (((C.byteV%2)==1)) (fun a=>?_) (fun a=>?_)
 have y:=ae a
 exact Pl 3<|ce m (decide (3≤C.byteV)) (by rw[a];rfl)
 have y:=ak a
 exact Pl 3<|ce m false (by rw[a];rfl)
 refine Pl 1<|cu 5 [15] 20 (((((C.byteV%2)==1)&&(decide (3≤C.byteV)))&&(decide (C.byteV≤(((C.bytesC 1).l.length:Nat) : Int))))) (fun K o=>?_) ?_
 refine bl 15 ((((C.byteV%2)==1)&&(decide (3≤C.byteV)))) (fun b=>?_) (fun b=>?_)
 have z:=(b6 b).1
 have A:=(b6 b).2
 have V:=ae z
 have W:=of_decide_eq_true A
 refine Pl 2<|L1<|Oc<|mq (et c)<|?_
 have X:=ap.len c
 exact Pl 2<|ce o (decide (C.byteV≤(((C.bytesC 1).l.length:Nat) : Int))) (by rw[b];rfl)
 exact Pl 5<|ce o false (by rw[b];rfl)
 refine L0<|Oc<|m2 (bg (((((C.byteV%2)==1)&&(decide (3≤C.byteV)))&&(decide (C.byteV≤(((C.bytesC 1).l.length:Nat) : Int))))) 5 c) fun Y B p=>?_
 refine ab B fun x28 D E=>?_
 refine ng<|Pl 2<|L0<|Oc<|m3 (ch E) fun Z F q a0=>Pl 1<|L0<|Oc<|m2 (bg ((x28.byteV==6)) 9 F) fun a1 G r=>?_
 refine ab G fun x38 H I=>?_
 refine ng<|Pl 2<|L0<|Oi (C.byteV-1)<|L0<|Oe (.int .i64 (IntKind.i64.wrap (Int.tdiv (C.byteV-1) 2))) (.int .i64 (Int.tdiv (C.byteV-1) 2)) (congrArg (Value.int .i64) (kj (by omega) (by omega)))<|L0<|Oc<|my (eh (n:=(Int.tdiv (C.byteV-1) 2)) I) fun J L a2 s a3 a4 M N=>?_
 refine ab M fun x48 O P=>?_
 refine Pl 1<|?_
 have t:=u1 k (u1 p (u1 q (u1 r N im) im) im) im
 have u:=nb (ap.lt hC) lr f
 have v:=aZ t (Ne.symm u) i
 refine L0<|be v #[.int .u16 0,.int .u16 0,.int .u16 0,.slice J ((x38.wordsR (Int.tdiv (C.byteV-1) 2)).length) L] fun a5 Q d=>nt<|rt<|vY Q<|?_
 subst O H D
 exact⟨_,_,rfl,((aq s d (fun x hx=>(aa (fun e=>(aB (au i) (le (le (le k.size p.size) q.size) r.size) s) (e▸hx)) aA)) (fun _ _ h=>h))).rd,aD (x:=0) (by omega),aD (x:=0) (by omega),aD (x:=0) (by omega),(ap.upd P d (aa u aA) (ax (aY v (by decide)) aK)),(ue j (us t d) f)⟩
theorem uj{g:Nat}{C:ai}{w:World}(hC:ap w g C) : Calls Tryz.prog 256 #[.pointer (some ⟨g,0,none⟩)] w (uR g (iq C) (iv C) w):=by
 have hlen:=hC.len
 refine en 22 Tryz.func256 rfl<|sg<|L0<|bQ #[.int .u16 0,.int .u16 0,.int .u16 0,.slice none 0 0] fun X Y v f i=>ng<|Pl 1<|?_
 refine L0<|Oc<|v8 (mV (ap.old hC i)) fun I J Z a0 K L M N c=>?_
 obtain⟨a1,a2⟩:=K
 obtain⟨a3,a4⟩:=L
 obtain⟨a5,a6⟩:=M
 refine L0<|bQ #[.int .u16 0,.int .u16 0,.int .u16 0,.slice none 0 0] fun O a7 j y z=>L0<|be y #[.int .u16 ((aT C).file),.int .u16 ((aT C).record),.int .u16 ((aT C).count),.slice I ((aT C).words.length) J] fun a8 P k=>nt<|sq<|Rg 9 (fun w'=>w'.cell? ⟨O,2,none⟩=some (.int .u16 ((aT C).count))) fun a9 d=>?_
 have m:=ub d P
 refine bi (ah m rfl) fun a=>Rt 0 a<|Rt 1 a<|Rl 2 a (fun _ hs=>hs)<|Rr 3 a (.int .i64 ((aT C).count)) (fun _ _=>cP (.int .i64 (IntKind.i64.wrap ((aT C).count))) (by kernel_rfl) (congrArg (Value.int .i64) (i64_in (by omega))))<|Rr 4 a (.int .i64 (2*((aT C).count))) (fun _ _=>cP (.int .i64 (IntKind.i64.wrap (2*((aT C).count)))) (by kernel_rfl) (congrArg (Value.int .i64) (IntWalk.i64_in _ (by omega))))<|Rt 5 a<|?_
 have o:=ud z (aG k d) j
 have p:=ap.old N o
 refine R0 6 rfl<|Oc<|mq (et p)<|?_
 have ac:=ap.len p
 refine bi (ah m rfl) fun Q=>Rt 7 Q<|R0 8 rfl<|Oc<|m2 (bg ((decide ((2*((aT C).count))≤(((dD C).l.length:Nat) : Int)))) 5 p) fun ad R b=>?_
 refine ab R fun x54 S T=>?_
 have q:=nb (ap.lt hC) (le i.size c.size) j
 have r:=aZ b (Ne.symm q) m
 refine bi (ah r rfl) fun ae=>re<|tn<|sg<|Pl 2<|L0<|aP r 2<|L0<|Oi ((aT C).count)<|L0<|Oc<|my (eh (n:=(aT C).count) T) fun A B af s ag aj U t=>Pl 1<|?_
 have D:=aZ t (Ne.symm q) r
 refine L0<|cg D 3 #[.int .u16 ((aT C).file),.int .u16 ((aT C).record),.int .u16 ((aT C).count),.slice A ((x54.wordsR ((aT C).count)).length) B] fun ak V E=>ng<|L0<|bP V<|?_
 have F:=u1 c (ue o (ui b (us t E)) j) im
 have u:=nb (ap.lt hC) lr v
 refine L0<|be (aZ F (Ne.symm u) f) #[.int .u16 ((aT C).file),.int .u16 ((aT C).record),.int .u16 ((aT C).count),.slice A ((x54.wordsR ((aT C).count)).length) B] fun al W G=>nt<|rt<|vY W<|?_
 subst S
 have H:=us E G
 exact⟨_,_,rfl,((aq s H (fun x hx=>(aa (fun e=>(aB (au y) (le (le k.size d.size) b.size) s) (e▸hx)) (aa (fun e=>(aB (au f) (le (le (le (le c.size z.size) k.size) d.size) b.size) s) (e▸hx)) aA))) (fun _ _ h=>h))).rd,aD (x:=(aT C).file) (by omega),aD (x:=(aT C).record) (by omega),aD (x:=(aT C).count) (by omega),(ap.upd U H (aa q (aa u aA)) (ax (aY D (by decide)) (ax (aY (aZ (u1 c (uz o (u1 b t im)) im) (Ne.symm u) f) (by decide)) aK))),(ue i (us F G) v)⟩
theorem oR{n:Int}{w:World}(hn:0≤n∧n<256) : Calls Tryz.prog 252 #[.int .i64 n] w (dM (.bool ((decide (7≤n)&&decide (n≤245))&&n%7==0)) w):=by
 refine en 14 Tryz.func252 rfl<|sg<|Pl 1<|ng<|Pl 3<|cu 3 [5] 8 (((decide (7≤n))&&(decide (n≤245)))) (fun K c=>?_) ?_
 refine bl 5 ((decide (7≤n))) (fun a=>?_) (fun a=>?_)
 have e:=of_decide_eq_true a
 exact Pl 3<|ce c (decide (n≤245)) (by rw[a];rfl)
 have e:=of_decide_eq_false a
 exact Pl 3<|ce c false (by rw[a];rfl)
 refine Pl 1<|cu 4 [9] 13 ((((decide (7≤n))&&(decide (n≤245)))&&((n%7)==0))) (fun K d=>?_) ?_
 refine bl 9 (((decide (7≤n))&&(decide (n≤245)))) (fun b=>?_) (fun b=>?_)
 have f:=(b6 b).1
 have g:=(b6 b).2
 have h:=of_decide_eq_true f
 have i:=of_decide_eq_true g
 exact Pl 1<|L1<|Oe (.int .i64 (Int.tmod n 7)) (.int .i64 (n%7)) (congrArg (Value.int .i64) (Int.tmod_eq_emod_of_nonneg (by omega)))<|Pl 2<|ce d ((n%7)==0) (by rw[b];rfl)
 exact Pl 4<|ce d false (by rw[b];rfl)
 refine Pl 1<|nt<|rt<|rr (.bool (((decide (7≤n))&&(decide (n≤245)))&&((n%7)==0)))<|?_
 exact⟨rfl,(aE.refl [] _)⟩
theorem oA{n:Int}{w:World}(hn:0≤n∧n<256) : Calls Tryz.prog 253 #[.int .i64 n] w (dM (.bool (decide (4≤n)&&decide (n≤245))) w):=by
 refine en 9 Tryz.func253 rfl<|sg<|Pl 1<|ng<|Pl 3<|cu 3 [5] 8 (((decide (4≤n))&&(decide (n≤245)))) (fun K b=>?_) ?_
 refine bl 5 ((decide (4≤n))) (fun a=>?_) (fun a=>?_)
 have c:=of_decide_eq_true a
 exact Pl 3<|ce b (decide (n≤245)) (by rw[a];rfl)
 have c:=of_decide_eq_false a
 exact Pl 3<|ce b false (by rw[a];rfl)
 refine Pl 1<|nt<|rt<|rr (.bool ((decide (4≤n))&&(decide (n≤245))))<|?_
 exact⟨rfl,(aE.refl [] _)⟩
theorem p6{n:Int}{w:World}(hn:0≤n∧n<256) : Calls Tryz.prog 255 #[.int .i64 n] w (dM (.bool (decide (9≤n)&&decide (n≤251))) w):=by
 refine en 9 Tryz.func255 rfl<|sg<|Pl 1<|ng<|Pl 3<|cu 3 [5] 8 (((decide (9≤n))&&(decide (n≤251)))) (fun K b=>?_) ?_
 refine bl 5 ((decide (9≤n))) (fun a=>?_) (fun a=>?_)
 have c:=of_decide_eq_true a
 exact Pl 3<|ce b (decide (n≤251)) (by rw[a];rfl)
 have c:=of_decide_eq_false a
 exact Pl 3<|ce b false (by rw[a];rfl)
 refine Pl 1<|nt<|rt<|rr (.bool ((decide (9≤n))&&(decide (n≤251))))<|?_
 exact⟨rfl,(aE.refl [] _)⟩
theorem iz{e:Int}{w:World}:Calls Tryz.prog 211 #[.int .i64 e] w (dM (.int .i64 (if e==2 then 5 else e)) w):=by
 refine en 6 Tryz.func211 rfl<|sg<|Pl 1<|nt<|sq<|sg<|Pl 2<|nt<|cb ((e==2)) (fun a=>?_) (fun a=>?_)
 have b:=ae a
 refine sg<|Pl 1<|nt<|rt<|tr<|rr (.int .i64 5)<|?_
 have hs:(if e==2 then (5:Int) else e)=5:=by simp only[a,bs,if_true,if_false,decide_true,decide_false,reduceIte]
 rw[hs]
 exact⟨rfl,(aE.refl [] _)⟩
 have b:=ak a
 refine bp<|sg<|Pl 2<|nt<|rt<|rr (.int .i64 e)<|?_
 have hs:(if e==2 then (5:Int) else e)=e:=by simp only[a,bs,if_true,if_false,decide_true,decide_false,reduceIte]
 rw[hs]
 exact⟨rfl,(aE.refl [] _)⟩
open Go.RowKit
structure WF (F:Fence) (n:Nat) (P:Program) (ops:Array Oper) (Q:Exit→Act→World→Prop) (l:List Oper) (a:Act) (w:World) : Prop where
  out:wpListIn F n P ops Q l a w
def eV (F:Fence) : Prop:=F=Fence.wide∨∃ l,F=Fence.wide.inRound l
theorem ke:eV Fence.wide:=.inl rfl
theorem ju(l:Nat) : eV (Fence.wide.inRound l):=.inr ⟨l,rfl⟩
theorem eV.fn{F:Fence}(h:eV F)(f:FuncId) : F.fn f:=by
  rcases h with rfl|⟨l,rfl⟩<;>trivial
theorem eV.depth{F:Fence}(h:eV F) : F.depth=none:=by
  rcases h with rfl|⟨l,rfl⟩<;>rfl
section
variable {F:Fence}{n:Nat}{P:Program}{Q:Exit→Act→World→Prop}{a:Act}{w:World}{K:Act→World→Prop}{ops:Array Oper}{rest:List Oper}{o:Oper}{N:Option Tmp}
theorem vk{f:FuncId}{args:Array Value}{R:Ending→World→Prop}(hF:eV F)(h:Calls P f args w R) : CallsIn F n P f args w R:=by
  rcases hF with rfl|⟨l,rfl⟩
  · exact callsIn_wide.2 h
  · exact CallsIn.inRound l (callsIn_wide.2 h)
theorem wn{row:String}{args:Array Value}{R:Value→World→Prop}(hF:eV F)(h:Rows P row args w R) : RowsIn F n P row args w R:=by
  have h0:RowsIn Fence.wide n P row args w R:=fun c cs _=>let ⟨v,w',r,s⟩:=h c cs; ⟨v,w',r,stepsIn_wide.2 s⟩
  rcases hF with rfl|⟨l,rfl⟩
  · exact h0
  · exact h0
def fO:Op→Bool
  | .defer _=>false
  | _=>true
theorem xW(hF:eV F)(hd:fO o.op=true)(h:o.wp P a w K Q) : o.wpIn F n P a w K Q:=by
  refine⟨fun f _=>hF.fn f,?_⟩
  rw[Oper.semAt_eq _ _ _ (fun c hc=>by rw[hc] at hd;cases hd)]
  unfold Oper.wp at h
  have hdep:∀ {p:Prop},F.depth.isSome=true→p:=fun h=>by rw[hF.depth] at h;cases h
  generalize (execOp a.eval o).run P w=r at h ⊢
  cases r with
  | ok x w' =>
    cases x<;>simp only[Oper.upon,Oper.uponIn] at h ⊢
    case value u=>exact h
    case skip=>exact h
    case defer d=>exact h
    case enter f args=>exact⟨hdep,vk hF h⟩
    case row row args=>exact⟨hdep,wn hF h⟩
  | halt x w' =>
    cases x<;>simp only[Oper.upon,Oper.uponIn] at h ⊢
    case panic u=>exact h
theorem xX{id:Nat}{l:List Oper}(n:Nat)(h:WF Fence.wide n P l.toArray Q l a w) : (Code.region id l.toArray false).wp P Q a w:=wpIn_wide.1 (wpIn_region_lit h.out)
theorem wZ{id:Nat}{l:List Oper}(h:WF F n P l.toArray Q l a w) : (Code.region id l.toArray false).wpIn F n P Q a w:=wpIn_region_lit h.out
theorem wN(h:Q .normal a w) : WF F n P ops Q [] a w:=⟨h⟩
theorem xC(hF:eV F)(hd:fO o.op=true)(hw:Region.wanted o (yielded ops a.tmps)=true)(h:OW P o a w (WF F n P ops Q rest) Q) : WF F n P ops Q (o :: rest) a w:=by
  refine⟨?_⟩
  unfold wpListIn
  rw[if_pos hw]
  exact xW hF hd (iF h fun _ _ h=>h.out)
theorem xb(hF:eV F)(hw:Region.wanted o (yielded ops a.tmps)=false)(hN:o.dst=N)(h:WF F n P ops Q rest (a.put N undef) w) : WF F n P ops Q (o :: rest) a w:=by
  subst hN
  refine⟨?_⟩
  unfold wpListIn
  rw[if_neg (by simp[hw])]
  exact⟨fun f _=>hF.fn f,h.out⟩
theorem uQ{x:Operand}{opds:Array Operand}{ts:Array TypeId}{l:Nat}{r:Loop}(args:Array Value)(hw:Region.wanted o (yielded ops a.tmps)=true)(hN:o.dst=N)(hop:o.op = .call { callee:=.value x,args:=opds,argTypes:=ts })
    (hx:a.eval x = .func (.yield l) #[] #[]) (hargs:opds.map a.eval=args) (hl:w.heap[l]? = some (.loop r)) (hs:args.size=r.params.size)
    (h:RoundIn Fence.wide (n-1) P l r.fn ((r.params.zip args).foldl (fun tmps (t,a)=>tmps.setIfInBounds t a) r.tmps) r.assign r.body w (fun e w'=>∃ v,e = .returned v∧WF Fence.wide n P ops Q rest (a.put N v) w')) : WF Fence.wide n P ops Q (o :: rest) a w:=by
  subst hN
  refine⟨?_⟩
  unfold wpListIn
  rw[if_pos hw]
  refine⟨fun f _=>trivial,?_⟩
  have hrun:(o.semAt Fence.wide.round a.eval).run P w = .ok (.round l r.fn ((r.params.zip args).foldl (fun tmps (t,a)=>tmps.setIfInBounds t a) r.tmps) r.assign r.body) w:=by
    show(execOp a.eval o).run P w=_
    unfold execOp
    simp only[hop,resolve,hx,Deferred.ofValue,Sem.run_bind,Sem.run_pure,Result.andThen_ok,invoke,hargs]
    have:=run_yield (P:=P) (args:=args) hl hs
    simpa using this
  rw[hrun,Oper.uponIn_round]
  refine⟨(by simp[Fence.wide]),h.mono fun e w' hh=>?_⟩
  obtain⟨v,rfl,h2⟩:=hh
  exact h2.out
end
theorem t9{P:Program}{n:Nat}{ops:Array Oper}{Q:Exit→Act→World→Prop}{rest:List Oper}{o:Oper}{a:Act}{w:World}{N:Option Tmp}{x:Operand}{opds:Array Operand}{ts:Array TypeId}{l:Nat}{r:Loop}(v:Value)(p:Tmp)(hw:Region.wanted o (yielded ops a.tmps)=true)(hN:o.dst=N)(hop:o.op = .call { callee:=.value x,args:=opds,argTypes:=ts })
    (hx:a.eval x = .func (.yield l) #[] #[]) (hargs:opds.map a.eval = #[v]) (hl:w.heap[l]? = some (.loop r)) (hp:r.params = #[p])
    (h:RoundIn Fence.wide (n-1) P l r.fn (r.tmps.setIfInBounds p v) r.assign r.body w (fun e w'=>∃ u,e = .returned u∧WF Fence.wide n P ops Q rest (a.put N u) w')) : WF Fence.wide n P ops Q (o :: rest) a w:=by
  refine uQ #[v] hw hN hop hx hargs hl (by rw[hp];rfl) ?_
  have:((r.params.zip #[v]).foldl (fun tmps (t,a)=>tmps.setIfInBounds t a) r.tmps)=r.tmps.setIfInBounds p v:=by rw[hp];simp
  rw[this]
  exact h
theorem gH{w:World}{l:Nat}(o:Go.Obj) : aE [l] w (w.putObj l o) :=
  ⟨rfl,rfl,rfl,by simp[World.putObj],fun k hk hn=>World.putObj_heap_other (by simpa using hn)⟩
theorem kk{w:World}{l:Nat}{o:Go.Obj}(o':Go.Obj)(h:w.heap[l]? = some o) : (w.putObj l o').heap[l]? = some o':=World.putObj_heap_same (au h)
def iL:Go.Obj→Bool
  | .cells ..=>false
  | _=>true
theorem aS.updl{α:Type}{m:Md}{e:TypeId}{sz:Nat}{R:World→α→List Value→Prop}{w w':World}{v:Value}{xs:List α}{l:Nat}{o:Go.Obj}
    (h:aS m e sz R w v xs) (hu:aE [l] w w') (hl:w.heap[l]? = some o) (ho:iL o=true) (hR:∀ x cs,R w x cs→R w' x cs) : aS m e sz R w' v xs:=by
  obtain⟨A,c,rfl,h1,h2,h0,h3⟩:=h
  refine⟨A,c,rfl,h1,h2,h0,fun hp=>?_⟩
  obtain⟨b,off,cells,t,fr,rfl,hb,ht,hx⟩:=h3 hp
  refine⟨b,off,cells,t,fr,rfl,?_,ht,fun j x hj=>?_⟩
  · refine hu.blk (fun hbs=>?_) hb
    simp at hbs
    subst hbs
    rw[hl] at hb
    injection hb with hb
    subst hb
    cases ho
  · obtain⟨cs,hl,hr,hc⟩:=hx j x hj
    exact⟨cs,hl,hR _ _ hr,hc⟩
theorem bo.updl{m:Md}{w w':World}{v:Value}{xs:List Int}{l:Nat}{o:Go.Obj}(h:bo m w v xs)(hu:aE [l] w w')(hl:w.heap[l]? = some o)(ho:iL o=true) : bo m w' v xs:=aS.updl h hu hl ho fun _ _ h=>h
theorem dN.updl{m:Md}{w w':World}{v:Value}{xs:List Int}{l:Nat}{o:Go.Obj}(h:dN m w v xs)(hu:aE [l] w w')(hl:w.heap[l]? = some o)(ho:iL o=true) : dN m w' v xs:=aS.updl h hu hl ho fun _ _ h=>h
theorem bv.updl{m:Md}{w w':World}{l:Nat}{o:Go.Obj}(hu:aE [l] w w')(hl:w.heap[l]? = some o)(ho:iL o=true)(r:dt)(cs:List Value)(h:bv m w r cs) : bv m w' r cs:=by
  obtain⟨v,h1,h2,h3⟩:=h
  exact⟨v,h1,dN.updl h2 hu hl ho,h3⟩
theorem ap.updl{w w':World}{g:Nat}{c:ai}{l:Nat}{o:Go.Obj}(h:ap w g c)(hu:aE [l] w w')(hg:g∉[l])(hl:w.heap[l]? = some o)(ho:iL o=true) : ap w' g c:=by
  obtain⟨v,hb,hr,hn⟩:=h
  exact⟨v,hu.blk hg hb,hr.updl hu hl ho,hn⟩
theorem rq{n:Nat}{P:Program}{l:Nat}{f:FuncId}{tmps:Array Value}{assign body:Code}{w:World}{r:Loop}{R:Ending→World→Prop}
    (h:assign.wpIn (Fence.wide.inRound l) n P (Exit.then (fun a₁ w₁=>w₁.heap[l]? = some (.loop r)∧r.state = .ready∧∀ w₂,w₂.heap[l]? = some (.loop { r with state:=.busy })→aE [l] w₁ w₂ →
      body.wpIn (Fence.wide.inRound l) n P (Exit.then (fun _ w₃=>∃ r',w₃.heap[l]? = some (.loop r')∧∀ w₄,w₄.heap[l]? = some (.loop { r' with state:=.ready,pending:=none })→aE [l] w₃ w₄→R (.returned (.bool true)) w₄) (fun _ _ _=>False)) a₁ w₂) (fun _ _ _=>False)) { tmps:=tmps,defers:=[] } w) :
    RoundIn Fence.wide n P l f tmps assign body w R:=by
  refine roundIn_of_wpIn trivial (Code.wpIn_mono (fun e a w q=>?_) h)
  cases e with
  | normal =>
    obtain⟨h1,h2,h3⟩:=q
    refine⟨_,run_beginRound h1 h2,Code.wpIn_mono (fun e a w q=>?_) (h3 _ (kk _ h1) (gH _))⟩
    cases e with
    | normal =>
      obtain⟨r',h4,h5⟩:=q
      exact⟨_,_,run_endRound none h4,h5 _ (kk _ h4) (gH _)⟩
    | _=>exact q.elim
  | _=>exact q.elim
theorem km{n:Nat}{P:Program}{l:Nat}{f:FuncId}{tmps:Array Value}{assign body:Code}{w:World}{r:Loop}{R:Ending→World→Prop}
    (hl:w.heap[l]? = some (.loop r))
    (h:assign.wpIn (Fence.wide.inRound l) n P (Exit.then (fun a₁ w₁=>w₁.heap[l]? = some (.loop r)∧r.state = .ready∧∀ w₂,w₂.heap[l]? = some (.loop { r with state:=.busy })→aE [l] w₁ w₂ →
      body.wpIn (Fence.wide.inRound l) n P (Exit.then (fun _ w₃=>∃ r',w₃.heap[l]? = some (.loop r')∧∀ w₄,w₄.heap[l]? = some (.loop { r' with state:=.ready,pending:=none })→aE [l] w₃ w₄→R (.returned (.bool true)) w₄) (fun _ _ _=>False)) a₁ w₂) (fun _ _ _=>False)) { tmps:=tmps,defers:=[] } w) :
    RoundIn Fence.wide n P l f tmps assign body w R:=rq h
theorem t4{P:Program}{Q:Exit→Act→World→Prop}{a:Act}{w:World}{g:Operand}{ps:Array Tmp}{assign body:Code}{f:FuncId}{fn:Func}(cap:Array Value)
    (hx : a.eval g = .func (.func f) #[] cap) (hf : P.funcs[f]? = some fn) (hname : (fn.name == "runtime.NumGoroutine") = false) (hb : fn.body.isSome = true)
    (h:∀ fn0 D l w₂,w.heap.size≤D→w.heap.size≤l→D≠l→w₂.heap[D]? = some (.deferred (some []))→w₂.heap[l]? = some (.loop { state:=.ready,pending:=none,fn:=fn0,tmps:=a.tmps,params:=ps,assign:=assign,body:=body,defers:=D })→aE [] w w₂ →
      Calls P f (#[.func (.yield l) #[] #[]]++cap) w₂ (fun e w₃=>∃ v r',e = .returned v∧w₃.heap[l]? = some (.loop r')∧r'.state≠.busy∧r'.pending=none∧∀ w₄,aE [l] w₃ w₄→Q .normal { a with defers:={ target:=.collected D,args:=#[] } :: a.defers } w₄)) :
    (Code.rangeFunc g ps assign body).wp P Q a w:=by
  refine(wpIn_wide (n:=9)).1 (wpIn_rangeFunc fun fn0 _=>?_)
  have h1 : fn.name ≠ "runtime.NumGoroutine" := by simpa using hname
  obtain⟨cd,hcd⟩:=Option.isSome_iff_exists.1 hb
  refine⟨w.heap.size+1,[{ target:=.collected w.heap.size,args:=#[] }],((w.alloc (.deferred (some []))).alloc (.loop { state:=.ready,pending:=none,fn:=fn0,tmps:=a.tmps,params:=ps,assign:=assign,body:=body,defers:=w.heap.size })),
    { target:=.fn (.func f) cap,args:=#[]++#[.func (.yield (w.heap.size+1)) #[] #[]] },((w.alloc (.deferred (some []))).alloc (.loop { state:=.ready,pending:=none,fn:=fn0,tmps:=a.tmps,params:=ps,assign:=assign,body:=body,defers:=w.heap.size })),
    f,#[.func (.yield (w.heap.size+1)) #[] #[]]++cap,((w.alloc (.deferred (some []))).alloc (.loop { state:=.ready,pending:=none,fn:=fn0,tmps:=a.tmps,params:=ps,assign:=assign,body:=body,defers:=w.heap.size })),run_enterLoop_outer fn0 a.tmps ps assign body,?_,fun _ _=>trivial,?_,by simp[Fence.wide],?_⟩
  · unfold resolve
    simp only[rangeCall,hx,Deferred.ofValue,Sem.run_pure,List.map_toArray,List.map_cons,List.map_nil]
    rfl
  · simp[invoke,callFunc,hf,h1,hcd]
  · have hD:((w.alloc (.deferred (some []))).alloc (.loop { state:=.ready,pending:=none,fn:=fn0,tmps:=a.tmps,params:=ps,assign:=assign,body:=body,defers:=w.heap.size })).heap[w.heap.size]? = some (.deferred (some [])):=tc (ey w _) _
    have hl:((w.alloc (.deferred (some []))).alloc (.loop { state:=.ready,pending:=none,fn:=fn0,tmps:=a.tmps,params:=ps,assign:=assign,body:=body,defers:=w.heap.size })).heap[w.heap.size+1]? = some (.loop { state:=.ready,pending:=none,fn:=fn0,tmps:=a.tmps,params:=ps,assign:=assign,body:=body,defers:=w.heap.size }):=by
      have:=ey (w.alloc (.deferred (some []))) (.loop { state:=.ready,pending:=none,fn:=fn0,tmps:=a.tmps,params:=ps,assign:=assign,body:=body,defers:=w.heap.size })
      simpa using this
    refine callsIn_wide.2 ((h fn0 w.heap.size (w.heap.size+1) _ (Nat.le_refl _) (by omega) (by omega) hD hl (((aE.refl [] w).alloc _).alloc _)).mono ?_)
    rintro e w₃ ⟨v,r',rfl,h3,h4,h5,h6⟩
    refine⟨_,_,run_endLoop h3 h4,?_⟩
    rw[h5]
    exact h6 _ (gH _)
theorem nk{P:Program}{f:FuncId}{fn:Func}{c:Code}{args:Array Value}{w:World}{R:Ending→World→Prop}(hf:P.funcs[f]? = some fn)(hb:fn.body=some c)
    (h:c.wp P (bodyPostM Fence.wide 9 P fn R) { tmps:=args++Array.replicate (fn.ntmps-args.size) undef,defers:=[] } w) : Calls P f args w R :=
  callsIn_wide.1 (callsIn_of_wp_marks hf hb trivial (wpIn_wide.2 h) rfl)
theorem uV{P:Program}{fn:Func}{R:Ending→World→Prop}{a:Act}{w:World}{D:Nat}(hd:a.defers=[{ target:=.collected D,args:=#[] }])(hD:w.heap[D]? = some (.deferred (some [])))
    (h:∀ w',aE [D] w w'→∃ v,(results fn a.tmps).run P w' = .ok v w'∧R (.returned v) w') : bodyPostM Fence.wide 9 P fn R .ret a w:=by
  show LeavesInM Fence.wide 9 P fn a.tmps R a.defers .returning w
  rw[hd]
  exact⟨by simp,.inl ⟨D,_,rfl,run_takeDeferred hD,h _ (gH _)⟩⟩
theorem tZ{P:Program}{fn:Func}{R:Ending→World→Prop}{a:Act}{w:World}(hd:a.defers=[])(h:∃ v,(results fn a.tmps).run P w = .ok v w∧R (.returned v) w) : bodyPostM Fence.wide 9 P fn R .ret a w:=by
  show LeavesInM Fence.wide 9 P fn a.tmps R a.defers .returning w
  rw[hd]
  exact h
open Go.RowKit
structure GF (E:Fence) (m:Nat) (P:Program) (ops:Array Oper) (Q:Exit→Act→World→Prop) (l:List Oper) (n:Nat) (D:List Deferred) (F:Fr) (w:World) : Prop where
  out:∀ a,Ag n D F a→WF E m P ops Q l a w
structure GI (E:Fence) (m:Nat) (P:Program) (c:Code) (Q:Exit→Act→World→Prop) (n:Nat) (D:List Deferred) (F:Fr) (w:World) : Prop where
  out:∀ a,Ag n D F a→c.wpIn E m P Q a w
section
variable {E:Fence}{m:Nat}{P:Program}{Q:Exit→Act→World→Prop}{n:Nat}{D:List Deferred}{F:Fr}{w:World}{ops:Array Oper}{rest l:List Oper}{d:Option Tmp}{op:Op}{t:TypeId}{s:String}{af:Array Edge}{gu:Option (Nat × Bool)}{x y c:Code}{id:Nat}
theorem xj(m:Nat)(h:GF Fence.wide m P l.toArray Q l n D F w) : GC P (.region id l.toArray false) Q n D F w:=⟨fun a ha=>xX m (h.out a ha)⟩
theorem vW(h:GF E m P l.toArray Q l n D F w) : GI E m P (.region id l.toArray false) Q n D F w:=⟨fun a ha=>wZ (h.out a ha)⟩
theorem xu(h:GI E m P c (Exit.inBlock id Q) n D F w) : GI E m P (.block id c) Q n D F w:=⟨fun a ha=>wpIn_block (h.out a ha)⟩
theorem rh(h:GQ Q .normal n D F w) : GF E m P ops Q [] n D F w:=⟨fun a ha=>wN (h.out a ha)⟩
theorem xz(hE:eV E)(h:OG P ⟨d,op,t,s,af,gu⟩ n D F w (GF E m P ops Q rest n D) Q)(hw:l0 ops F gu=(true,true))(hd:fO op=true) : GF E m P ops Q (⟨d,op,t,s,af,gu⟩ :: rest) n D F w :=
  ⟨fun a ha=>xC hE hd (fP ha hw) (h.out a ha _ fun F' w' a' k ha'=>k.out a' ha')⟩
theorem xG(hE:eV E){o:Oper}(h:GF E m P ops Q rest n D (oc P ops w F o) w)(hc:uC P ops w n 1 (o :: rest) F=uK P ops w 1 (o :: rest) F)(hd:fO o.op=true) : GF E m P ops Q (o :: rest) n D F w:=by
  simp only[uC,uK,List.cons.injEq,Prod.mk.injEq,Bool.and_eq_true] at hc
  obtain⟨⟨⟨h1,h2,h3⟩,h4⟩,h5⟩:=hc
  refine⟨fun a ha=>?_⟩
  cases hon:(l0 ops F o.guard).2 with
  | true =>
    rw[hon] at h3 h4
    simp only[cond_true] at h3 h4
    have hst:oc P ops w F o=pt o.dst (vo P w F o) F:=by simp[oc,hon]
    rw[hst] at h
    exact xC hE hd (fP ha (Prod.ext h1 hon)) (hY (N:=o.dst) (vo P w F o) rfl (by rw[← i6 ha h3];exact h4) (h.out _ (ha.put h2)))
  | false =>
    have hst:oc P ops w F o=pt o.dst undef F:=by simp[oc,hon]
    rw[hst] at h
    exact xb (N:=o.dst) hE (fP ha (Prod.ext h1 hon)) rfl (h.out _ (ha.put h2))
theorem F0(h:OG P ⟨d,op,t,s,af,gu⟩ n D F w (GF Fence.wide m P ops Q rest n D) Q)(hw:l0 ops F gu=(true,true):=by kernel_rfl)(hd:fO op=true:=by kernel_rfl) : GF Fence.wide m P ops Q (⟨d,op,t,s,af,gu⟩ :: rest) n D F w:=xz ke h hw hd
theorem ls{q:Nat}(h:OG P ⟨d,op,t,s,af,gu⟩ n D F w (GF (Fence.wide.inRound q) m P ops Q rest n D) Q)(hw:l0 ops F gu=(true,true):=by kernel_rfl)(hd:fO op=true:=by kernel_rfl) : GF (Fence.wide.inRound q) m P ops Q (⟨d,op,t,s,af,gu⟩ :: rest) n D F w:=xz (ju _) h hw hd
theorem Fp{o:Oper}(h:GF Fence.wide m P ops Q rest n D (oc P ops w F o) w)(hc:uC P ops w n 1 (o :: rest) F=uK P ops w 1 (o :: rest) F:=by kernel_rfl)(hd:fO o.op=true:=by kernel_rfl) : GF Fence.wide m P ops Q (o :: rest) n D F w:=xG ke h hc hd
theorem w6{q:Nat}{o:Oper}(h:GF (Fence.wide.inRound q) m P ops Q rest n D (oc P ops w F o) w)(hc:uC P ops w n 1 (o :: rest) F=uK P ops w 1 (o :: rest) F:=by kernel_rfl)(hd:fO o.op=true:=by kernel_rfl) : GF (Fence.wide.inRound q) m P ops Q (o :: rest) n D F w:=xG (ju _) h hc hd
theorem xa(j:Nat)(e:Bool)(ht:e=true→GF E m P ops Q l n D ((j,.bool true) :: F) w)(hf:e=false→GF E m P ops Q l n D ((j,.bool false) :: F) w)(hv:lk F j=some (.bool e):=by kernel_rfl) : GF E m P ops Q l n D F w:=by
  refine⟨fun a ha=>?_⟩
  have key:∀ b,e=b→Ag n D ((j,.bool b) :: F) a:=fun b hb=>⟨ha.sz,ha.df,fun i v hi=>by
    rcases gI hi with⟨rfl,rfl⟩|⟨_,h2⟩
    · rw[← hb];exact ha.at_ _ _ hv
    · exact ha.at_ _ _ h2⟩
  rcases dT e with q|q
  · exact(ht q).out a (key _ q)
  · exact(hf q).out a (key _ q)
theorem Fy{x:Operand}{opds:Array Operand}{ts:Array TypeId}{q:Nat}{r:Loop}(v:Value)(p:Tmp)(hl:w.heap[q]? = some (.loop r))(hp:r.params = #[p])
    (h:RoundIn Fence.wide (m-1) P q r.fn (r.tmps.setIfInBounds p v) r.assign r.body w (fun e w'=>∃ u,e = .returned u∧GF Fence.wide m P ops Q rest n D (pt d u F) w'))
    (hw:l0 ops F gu=(true,true):=by kernel_rfl) (hx:fz F x=some (.func (.yield q) #[] #[]):=by kernel_rfl) (ha:opds.toList.map (fz F)=[some v]:=by kernel_rfl) (hd:gR n d=true:=by kernel_rfl) :
    GF Fence.wide m P ops Q (⟨d,.call { callee:=.value x,args:=opds,argTypes:=ts },t,s,af,gu⟩ :: rest) n D F w :=
  ⟨fun a hag=>t9 v p (fP hag hw) rfl rfl (hag.ev hx) (by apply Array.toList_inj.1;rw[Array.toList_map];exact mK (vs:=[v]) hag ha) hl hp (h.mono fun e w' hh=>by
    obtain⟨u,rfl,hk⟩:=hh
    exact⟨u,rfl,hk.out _ (hag.put hd)⟩)⟩
theorem oK{g:Operand}{ps:Array Tmp}{assign body:Code}{f:FuncId}(cap:Array Value)
    (h:∀ a,Ag n D F a→∀ fn0 D' q w₂,w.heap.size≤D'→w.heap.size≤q→D'≠q→w₂.heap[D']? = some (.deferred (some []))→w₂.heap[q]? = some (.loop { state:=.ready,pending:=none,fn:=fn0,tmps:=a.tmps,params:=ps,assign:=assign,body:=body,defers:=D' })→aE [] w w₂ →
      Calls P f (#[.func (.yield q) #[] #[]]++cap) w₂ (fun e w₃=>∃ v r',e = .returned v∧w₃.heap[q]? = some (.loop r')∧r'.state≠.busy∧r'.pending=none∧∀ w₄,aE [q] w₃ w₄→GQ Q .normal n ({ target:=.collected D',args:=#[] } :: D) F w₄))
    (hx:fz F g=some (.func (.func f) #[] cap):=by kernel_rfl) (hf:wq P f=some (false,true):=by kernel_rfl) : GC P (.rangeFunc g ps assign body) Q n D F w:=by
  obtain⟨fn,h1,h2,h3⟩:=kE hf
  refine⟨fun a ha=>t4 cap (ha.ev hx) h1 h2 h3 fun fn0 D' q w₂ g1 g2 g3 g4 g5 g6=>(h a ha fn0 D' q w₂ g1 g2 g3 g4 g5 g6).mono fun e w₃ hh=>?_⟩
  obtain⟨v,r',k1,k2,k3,k4,k5⟩:=hh
  exact⟨v,r',k1,k2,k3,k4,fun w₄ hu=>(k5 w₄ hu).out _ ⟨ha.sz,by rw[ha.df],ha.at_⟩⟩
theorem xn{a:Act}(ha:Ag n D F a)(p:Tmp){v:Value}(h:GI E m P c Q n [] ((p,v) :: F) w)(hp:Nat.blt p n=true:=by kernel_rfl) : c.wpIn E m P Q { tmps:=a.tmps.setIfInBounds p v,defers:=[] } w:=by
  have h0:Ag n [] F { tmps:=a.tmps,defers:=[] }:=⟨ha.sz,rfl,ha.at_⟩
  exact h.out _ (h0.put (d:=some p) hp)
theorem wS{r:Loop}{q:Nat}{c:Code}{Qb:Exit→Act→World→Prop}(h1:w.heap[q]? = some (.loop r))(h2:r.state = .ready)(h:∀ w₂,w₂.heap[q]? = some (.loop { r with state:=.busy })→aE [q] w w₂→GI E m P c Qb n D F w₂) :
    GQ (Exit.then (fun a₁ w₁=>w₁.heap[q]? = some (.loop r)∧r.state = .ready∧∀ w₂,w₂.heap[q]? = some (.loop { r with state:=.busy })→aE [q] w₁ w₂→c.wpIn E m P Qb a₁ w₂) Q) .normal n D F w:=⟨fun a ha=>⟨h1,h2,fun w₂ k1 k2=>(h w₂ k1 k2).out a ha⟩⟩
theorem wU{r:Loop}{q:Nat}{Z:World→Prop}(h1:w.heap[q]? = some (.loop r))(h:∀ w₄,w₄.heap[q]? = some (.loop { r with state:=.ready,pending:=none })→aE [q] w w₄→Z w₄) :
    GQ (Exit.then (fun _ w₃=>∃ r',w₃.heap[q]? = some (.loop r')∧∀ w₄,w₄.heap[q]? = some (.loop { r' with state:=.ready,pending:=none })→aE [q] w₃ w₄→Z w₄) Q) .normal n D F w:=⟨fun a ha=>⟨r,h1,h⟩⟩
end
section
variable {P:Program}{n:Nat}{F:Fr}{w:World}{fn:Func}{R:Ending→World→Prop}
theorem w9{f:FuncId}{c:Code}{args:List Value}{w:World}(n:Nat)(hf:P.funcs[f]? = some fn)(hb:fn.body=some c)
    (h:GC P c (bodyPostM Fence.wide 9 P fn R) n [] (sT 0 args) w) (hn:args.length+(fn.ntmps-args.length)=n:=by kernel_rfl) : Calls P f args.toArray w R:=by
  subst hn
  exact nk hf hb (by simpa using h.out _ (xy (args:=args) (m:=fn.ntmps-args.length)))
theorem vZ{D:Nat}(hD:w.heap[D]? = some (.deferred (some [])))(h:∀ w',aE [D] w w'→GQ (fun _ a w'=>∃ v,(results fn a.tmps).run P w' = .ok v w'∧R (.returned v) w') .ret n [{ target:=.collected D,args:=#[] }] F w') : GQ (bodyPostM Fence.wide 9 P fn R) .ret n [{ target:=.collected D,args:=#[] }] F w :=
  ⟨fun a ha=>uV ha.df hD fun w' hu=>(h w' hu).out a ha⟩
theorem rx{D:List Deferred}{g:Nat}{cs:Array Value}{t:TypeId}{fr:Nat × Nat}(B:w.heap[g]? = some (.cells cs t fr))(u:Value)(h:R (.returned (.tuple #[.agg cs,u])) w)(hc:w8 P fn.results F=some (some (.pointer (some ⟨g,0,none⟩)),some u,some true,some cs.size):=by kernel_rfl) : GQ (fun _ a w'=>∃ v,(results fn a.tmps).run P w' = .ok v w'∧R (.returned v) w') .ret n D F w :=
  ⟨fun a ha=>⟨_,jT ha B rfl hc,h⟩⟩
theorem ry{g:Nat}{cs:Array Value}{t:TypeId}{fr:Nat × Nat}(B:w.heap[g]? = some (.cells cs t fr))(u:Value)(h:R (.returned (.tuple #[.agg cs,u])) w)(hc:w8 P fn.results F=some (some (.pointer (some ⟨g,0,none⟩)),some u,some true,some cs.size):=by kernel_rfl) : GQ (bodyPostM Fence.wide 9 P fn R) .ret n [] F w :=
  ⟨fun a ha=>tZ ha.df ⟨_,jT ha B rfl hc,h⟩⟩
end
open Go.RowKit
def vl (mk:Nat→Value)(w:World)(e:Ending)(w':World) : Prop:=∃ gs,e = .returned (.tuple #[mk gs,.bool true])∧w.heap.size≤gs∧w'.heap[gs]? = some (.cells #[.int .i64 0] 3 (0,0))∧aE [] w w'
def wR (gs:Nat) : Value:=.agg #[.func (.func 252) #[] #[],.func (.func 250) #[] #[.pointer (some ⟨gs,0,none⟩)]]
def wQ (gs:Nat) : Value:=.agg #[.func (.func 253) #[] #[],.func (.func 254) #[] #[]]
def wO (gs:Nat) : Value:=.agg #[.func (.func 255) #[] #[],.func (.func 256) #[] #[]]
theorem tM{w:World}:Calls Tryz.prog 209 #[.int .i64 0,.int .u8 20] w (vl wR w):=by
 refine en 27 Tryz.func209 rfl<|sg<|L0<|bQ #[.nilFunc,.nilFunc] fun m n g b c=>Pl 1<|ng<|L0<|bQ #[.int .i64 0] fun d o a h i=>L0<|cg h 0 #[.int .i64 0] fun p j k=>nt<|sq<|?_
 refine go<|Pl 2<|nt<|sq<|bk<|sg<|Pl 7<|nt<|c1<|sg<|?_
 refine Pl 2<|?_
 have e:=ud i k a
 refine L0<|be (ub e b) #[.func (.func 252) #[] #[],.func (.func 250) #[] #[.pointer (some ⟨d,0,none⟩)]] fun q l f=>Pl 1<|nt<|rt<|br<|tr<|bX l (.bool true)<|?_
 exact⟨d,rfl,(Nat.le_trans c.size a),(aZ f (Ne.symm (nb (au b) lr a)) j),(ud c (uz e f) g)⟩
theorem uv{w:World}:Calls Tryz.prog 209 #[.int .i64 1,.int .u8 20] w (vl wQ w):=by
 refine en 27 Tryz.func209 rfl<|sg<|L0<|bQ #[.nilFunc,.nilFunc] fun m n f b c=>Pl 1<|ng<|L0<|bQ #[.int .i64 0] fun g o a h i=>L0<|cg h 0 #[.int .i64 0] fun p j k=>nt<|sq<|?_
 refine go<|Pl 2<|nt<|sq<|bk<|sg<|Pl 7<|nt<|c0<|sg<|?_
 refine Pl 3<|nt<|c1<|sg<|Pl 1<|?_
 have d:=ud i k a
 refine L0<|be (ub d b) #[.func (.func 253) #[] #[],.func (.func 254) #[] #[]] fun q l e=>Pl 1<|nt<|rt<|br<|tr<|bX l (.bool true)<|?_
 exact⟨g,rfl,(Nat.le_trans c.size a),(aZ e (Ne.symm (nb (au b) lr a)) j),(ud c (uz d e) f)⟩
theorem u9{dir:Int}{w:World}:Calls Tryz.prog 209 #[.int .i64 dir,.int .u8 21] w (vl wO w):=by
 refine en 27 Tryz.func209 rfl<|sg<|L0<|bQ #[.nilFunc,.nilFunc] fun m n f b c=>Pl 1<|ng<|L0<|bQ #[.int .i64 0] fun g o a h i=>L0<|cg h 0 #[.int .i64 0] fun p j k=>nt<|sq<|?_
 refine go<|Pl 2<|nt<|sq<|bk<|sg<|Pl 7<|nt<|c0<|sg<|?_
 refine Pl 3<|nt<|c0<|sg<|Pl 3<|nt<|c1<|sg<|Pl 1<|?_
 have d:=ud i k a
 refine L0<|be (ub d b) #[.func (.func 255) #[] #[],.func (.func 256) #[] #[]] fun q l e=>Pl 1<|nt<|rt<|br<|tr<|bX l (.bool true)<|?_
 exact⟨g,rfl,(Nat.le_trans c.size a),(aZ e (Ne.symm (nb (au b) lr a)) j),(ud c (uz d e) f)⟩
theorem o8{dir x:Int}{w:World}(n1:(x==20)=false)(n2:(x==21)=false) : Calls Tryz.prog 209 #[.int .i64 dir,.int .u8 x] w (dM (.tuple #[.agg #[.nilFunc,.nilFunc],.bool false]) w):=by
 refine en 27 Tryz.func209 rfl<|sg<|L0<|bQ #[.nilFunc,.nilFunc] fun k l b c d=>Pl 1<|ng<|L0<|bQ #[.int .i64 0] fun m n e f g=>L0<|cg f 0 #[.int .i64 0] fun o p h=>nt<|sq<|?_
 refine go<|Pl 2<|nt<|sq<|bk<|sg<|Pl 3<|sy 12 n1<|Pl 4<|nt<|c0<|?_
 refine sg<|Pl 3<|nt<|cf n1<|sg<|Pl 3<|nt<|cf n2<|sk<|bn<|?_
 refine tn<|sg<|Pl 1<|?_
 have a:=ud g h e
 refine L0<|be (ub a c) #[.nilFunc,.nilFunc] fun q i j=>Pl 1<|nt<|rt<|bX i (.bool false)<|?_
 exact⟨rfl,(ud d (uz a j) b)⟩
theorem kM{gb:Nat}{f:Fn}{x y:Array Value}{w:World}:Calls Tryz.prog 210 #[.pointer (some ⟨gb,0,none⟩),.func f x y] w (fun e w'=>∃ b1 b2,e = .returned (.func (.func 257) #[] #[.pointer (some ⟨b1,0,none⟩),.pointer (some ⟨b2,0,none⟩)])∧w.heap.size≤b1∧w.heap.size≤b2∧b1≠b2 ∧
      w'.heap[b1]? = some (.cells #[.pointer (some ⟨gb,0,none⟩)] 113 (0,0))∧w'.heap[b2]? = some (.cells #[.func f x y] 212 (0,0))∧aE [] w w'):=by
 refine en 6 Tryz.func210 rfl<|sg<|L0<|dC #[.pointer (some ⟨gb,0,none⟩)] fun a k i b c=>L0<|dC #[.func f x y] fun d l g j h=>Pl 1<|ng<|Pl 2<|nt<|rt<|?_
 refine rr (.func (.func 257) #[] #[.pointer (some ⟨a,0,none⟩),.pointer (some ⟨d,0,none⟩)])<|?_
 exact⟨a,d,rfl,i,(Nat.le_trans c.size g),(nb (au b) lr g),(ub h b),j,(aG c h)⟩
theorem qO{g gs:Nat}{s:Int}{C:ai}{w:World}(hC:ap w g C)(hS:w.heap[gs]? = some (.cells #[.int .i64 s] 3 (0,0)))(hne:g≠gs)(hs:0≤s∧s≤1000000000000) :
    Calls Tryz.prog 250 #[.pointer (some ⟨g,0,none⟩),.pointer (some ⟨gs,0,none⟩)] w (fun e w'=>∃ A c,e = .returned (.agg #[.int .u16 (aT C).file,.int .u16 (aT C).record,.int .u16 (aT C).count,.slice A (aT C).words.length c])∧dN true w' (.slice A (aT C).words.length c) (aT C).words∧dF (aT C).file∧dF (aT C).record∧dF (aT C).count∧ap w' g (eA s C)∧w'.heap[gs]? = some (.cells #[.int .i64 (eE s C)] 3 (0,0))∧aE [g,gs] w w'):=by
 refine en 19 Tryz.func250 rfl<|sg<|L0<|bQ #[.int .u16 0,.int .u16 0,.int .u16 0,.slice none 0 0] fun S T b j d=>ng<|Pl 1<|?_
 refine L0<|Oc<|v8 (mV (ap.old hC d)) fun k l U H I J K m f=>?_
 obtain⟨V,W⟩:=I
 obtain⟨X,Y⟩:=J
 obtain⟨Z,a0⟩:=K
 refine L0<|bQ #[.int .u16 0,.int .u16 0,.int .u16 0,.slice none 0 0] fun a1 a2 h L M=>L0<|be L #[.int .u16 ((aT C).file),.int .u16 ((aT C).record),.int .u16 ((aT C).count),.slice k ((aT C).words.length) l] fun a3 n N=>ng<|?_
 have o:=ud M N h
 have p:=aG f o
 have q:=aZ (uz d p) (Ne.symm hne) hS
 refine L0<|aP q 0<|Pl 1<|L0<|aP n 2<|L0<|Oi ((aT C).count)<|L0<|Oi (2*((aT C).count))<|L0<|Oi (2+(2*((aT C).count)))<|L0<|Oi (s+(2+(2*((aT C).count))))<|L0<|cg q 0 #[.int .i64 (s+(2+(2*((aT C).count))))] fun a4 r t=>ng<|Pl 1<|L0<|aP r 0<|?_
 refine Pl 1<|?_
 have u:=uz o t
 have a:=uz d f
 have v:=aZ a (Ne.symm hne) hS
 refine L0<|Oc<|m2 (bg ((decide ((s+(2+(2*((aT C).count))))≤245))) 5 (ap.upd m u (aa hne aA) (ax (aY v (by decide)) aK))) fun a5 O y=>?_
 refine ab O fun x47 P Q=>?_
 refine ng<|?_
 have z:=us t y
 refine L0<|bP (aE.blk z (aa (Ne.symm (nb (au hS) a.size h)) (aa (Ne.symm (nb (ap.lt hC) a.size h)) aA)) n)<|?_
 have i:=nb (ap.lt hC) lr b
 have B:=nb (au hS) lr b
 have D:=aE.blk (ui p z) (aa (Ne.symm B) (aa (Ne.symm i) aA)) j
 refine L0<|be D #[.int .u16 ((aT C).file),.int .u16 ((aT C).record),.int .u16 ((aT C).count),.slice k ((aT C).words.length) l] fun a6 R E=>nt<|rt<|vY R<|?_
 subst P
 have F:=us y E
 have G:=us u F
 exact⟨_,_,rfl,(dN.upd' H G (ax (aY v (by decide)) (ax (ap.safe m _ (by decide)) (ax (aY (aZ f (Ne.symm i) j) (by decide)) aK)))),aD (x:=(aT C).file) (by omega),aD (x:=(aT C).record) (by omega),aD (x:=(aT C).count) (by omega),(ap.upd Q E (aa i aA) (ax (aY D (by decide)) aK)),(aE.blk F (aa (Ne.symm hne) (aa B aA)) r),(ut (aE.mono (S':=[g,gs]) a (ac im av)) G (ac im (ac im (ac (nr b) av))))⟩
def fT (c:Int)(v:Value) : Array Value:=#[.int .u8 c,.int .u8 0,.int .u16 0,.int .u16 0,.int .u16 0,.int .u16 0,.int .u16 0,.int .u16 0,.int .u16 0,.int .u16 0,.int .u16 0,.int .u16 0,hG,hG,hG,v,.int .u8 0,.int .u8 0,.int .u8 0,.int .u8 0,.int .u8 0,hG]
structure JR (w0:World) (gb gs gm l:Nat) (c:Int) (r:Loop) (C:ai) (s:Int) (L:List dt) (A:Option Addr) (cp:Nat) (W:World) : Prop where
  u:aE [gb,gs,gm,l] w0 W
  hC:ap W gb C
  hS:W.heap[gs]? = some (.cells #[.int .i64 s] 3 (0,0))
  hm:W.heap[gm]? = some (.cells (fT c (.slice A L.length cp)) 30 (0,0))
  ho:aV w0.heap.size 109 4 (bv true) W (.slice A L.length cp) L
  hl:W.heap[l]? = some (.loop r)
def cU (s:Int)(C:ai) : Int × ai × dt:=(eE s C,eA s C,aT C)
def bH (s:Int)(C:ai) : Int × ai × dt:=(s,eL C,eM C)
def cV (s:Int)(C:ai) : Int × ai × dt:=(s,iq C,iv C)
def aU (one:Int→ai→Int × ai × dt) : Nat→Int→ai→List dt→ai × List dt
  | 0,_,C,L=>(C,L)
  | n+1,s,C,L =>
    if decide (0<(C.l.length:Int))&&C.e==0 then
      (if (one s C).2.1.e != 0 then ((one s C).2.1,L) else aU one n (one s C).1 (one s C).2.1 (L++[(one s C).2.2]))
    else (C,L)
theorem iu(C:ai)(n:Int) : (C.bytesC n).l.length≤C.l.length:=by
  unfold ai.bytesC
  split
  · unfold ai.need
    split<;>simp
  · simp
theorem kP(C:ai)(h:0<C.l.length) : (C.bytesC 1).l.length<C.l.length:=by
  unfold ai.bytesC
  split
  · unfold ai.need
    split<;>simpa using h
  · simp
    omega
theorem eG(C:ai)(b:Bool)(e:Int) : (C.need b e).l.length=C.l.length:=by
  unfold ai.need
  split<;>rfl
theorem eU(C:ai)(n:Int) : (C.wordsC n).l.length≤C.l.length:=by
  unfold ai.wordsC
  split<;>exact iu ..
theorem na(C:ai)(h:0<C.l.length) : (dD C).l.length<C.l.length:=by
  have h1:(ew C).l.length<C.l.length:=by unfold ew;rw[eG];exact kP C h
  have h2:(ij C).l.length≤(ew C).l.length:=by unfold ij;rw[eG];exact eU ..
  have h3:(l7 C).l.length≤(ij C).l.length:=by unfold l7;rw[eG];exact eU ..
  have h4:(dD C).l.length≤(l7 C).l.length:=by unfold dD;rw[eG];exact eU ..
  omega
theorem mw(s:Int)(C:ai)(h:0<C.l.length) : (cU s C).2.1.l.length<C.l.length:=by
  show(eA s C).l.length<_
  unfold eA
  rw[eG]
  exact na C h
theorem iO(s:Int)(C:ai)(h:0<C.l.length) : (bH s C).2.1.l.length<C.l.length:=by
  show(eL C).l.length<_
  have h1:(gP C).l.length<C.l.length:=by unfold gP;rw[eG];exact kP C h
  have h2:(fE C).l.length≤(gP C).l.length:=by unfold fE;rw[eG];exact iu ..
  have h3:(eL C).l.length≤(fE C).l.length:=by unfold eL;exact eU ..
  omega
theorem mn(s:Int)(C:ai)(h:0<C.l.length) : (cV s C).2.1.l.length<C.l.length:=by
  show(iq C).l.length<_
  have h1:=na C h
  have h2:(l9 C).l.length=(dD C).l.length:=by unfold l9;rw[eG]
  have h3:(iq C).l.length≤(l9 C).l.length:=by unfold iq;exact eU ..
  omega
theorem gD(one:Int→ai→Int × ai × dt)(n:Nat)(s:Int)(C:ai)(L:List dt)(h:(decide (0<(C.l.length:Int))&&C.e==0)=false) : aU one n s C L=(C,L):=by
  cases n with
  | zero=>rfl
  | succ n=>simp only[aU,h,Bool.false_eq_true,if_false]
open Go.RowKit
def ed (fn0:FuncId)(tm:Array Value)(asg bdy:Code)(D:Nat) : Loop:={ state:=.ready,pending:=none,fn:=fn0,tmps:=tm,params:=#[53],assign:=asg,body:=bdy,defers:=D }
def oY (w:World)(gb gs gm l:Nat)(c:Int)(R:Loop) : Prop:=∀ (W:World)(C:ai)(s:Int)(L:List dt)(A:Option Addr)(cp:Nat)(x:dt)(Ax:Option Addr)(cx:Nat),JR w gb gs gm l c R C s L A cp W→dN true W (.slice Ax x.words.length cx) x.words→dF x.file→dF x.record→dF x.count→L.length≤1048576 →
    RoundIn Fence.wide 8 Tryz.prog l R.fn (R.tmps.setIfInBounds 53 (.agg #[.int .u16 x.file,.int .u16 x.record,.int .u16 x.count,.slice Ax x.words.length cx])) R.assign R.body W (fun e W'=>e = .returned (.bool true)∧W.heap.size≤W'.heap.size∧∃ A2 c2,JR w gb gs gm l c R C s (L++[x]) A2 c2 W')
theorem vz{w:World}{gb gs gm l b1 b2 fn0 D:Nat}{tm:Array Value}{asg bdy:Code}{c:Int}{C0:ai}(hC:ap w gb C0)(hS:w.heap[gs]? = some (.cells #[.int .i64 0] 3 (0,0)))(hm:w.heap[gm]? = some (.cells (fT c hG) 30 (0,0)))
    (hl:w.heap[l]? = some (.loop (ed fn0 tm asg bdy D))) (hb1:w.heap[b1]? = some (.cells #[.pointer (some ⟨gb,0,none⟩)] 113 (0,0))) (hb2:w.heap[b2]? = some (.cells #[.func (.func 250) #[] #[.pointer (some ⟨gs,0,none⟩)]] 212 (0,0)))
    (n1:gb≠gs) (n2:gb≠gm) (n3:gb≠l) (n4:gs≠gm) (n5:gs≠l) (n6:gm≠l) (m1:b1≠gb) (m2:b1≠gs) (m3:b1≠gm) (m4:b1≠l) (k1:b2≠gb) (k2:b2≠gs) (k3:b2≠gm) (k4:b2≠l) (hround:oY w gb gs gm l c (ed fn0 tm asg bdy D)) :
    Calls Tryz.prog 257 #[.func (.yield l) #[] #[],.pointer (some ⟨b1,0,none⟩),.pointer (some ⟨b2,0,none⟩)] w (fun e W=>e = .returned (.tuple #[])∧∃ s A cp,JR w gb gs gm l c (ed fn0 tm asg bdy D) (aU cU C0.l.length 0 C0 []).1 s (aU cU C0.l.length 0 C0 []).2 A cp W):=by
 have hlen:=hC.len
 refine en 25 Tryz.func257 rfl<|bk<|?_
 refine jf (fun x=>[(0,.func (.yield l) #[] #[]),(1,.pointer (some ⟨b1,0,none⟩)),(2,.pointer (some ⟨b2,0,none⟩))]) (fun(x:Nat × ai × Int × List dt × Option Addr × Nat) w'=>aE [gb,gs,gm,l] w w'∧ap w' gb x.2.1∧w'.heap[gs]? = some (.cells #[.int .i64 x.2.2.1] 3 (0,0))∧w'.heap[gm]? = some (.cells (fT c (.slice x.2.2.2.2.1 x.2.2.2.1.length x.2.2.2.2.2)) 30 (0,0))∧w'.heap[l]? = some (.loop (ed fn0 tm asg bdy D))∧aV w.heap.size 109 4 (bv true) w' (.slice x.2.2.2.2.1 x.2.2.2.1.length x.2.2.2.2.2) x.2.2.2.1∧(aU cU x.1 x.2.2.1 x.2.1 x.2.2.2.1=aU cU C0.l.length 0 C0 [])∧(x.2.1.l.length≤x.1)∧(0≤x.2.2.1∧x.2.2.1≤131074*(x.2.2.2.1.length:Int))∧(x.2.2.2.1.length+x.1≤C0.l.length)) (fun x=>x.1) (C0.l.length,C0,0,[],none,0) ⟨aE.refl _ _,hC,hS,hm,hl,aV.nil ..,rfl,(Nat.le_refl _),(by(try dsimp only);omega),(by(try dsimp only);(try simp only[List.length_nil]);omega)⟩ ?_
 rintro⟨n,C,s,L,A,cp⟩ h ⟨m,J,M,N,O,P,Q,R,S,T⟩
 refine jj [(0,.func (.yield l) #[] #[]),(1,.pointer (some ⟨b1,0,none⟩)),(2,.pointer (some ⟨b2,0,none⟩))] ?_
 have b:ap h gb C:=J
 have o:h.heap[gs]? = some (.cells #[.int .i64 s] 3 (0,0)):=M
 have t:h.heap[gm]? = some (.cells (fT c (.slice A L.length cp)) 30 (0,0)):=N
 have v:h.heap[l]? = some (.loop (ed fn0 tm asg bdy D)):=O
 have d:aV w.heap.size 109 4 (bv true) h (.slice A L.length cp) L:=P
 have af:aU cU n s C L=aU cU C0.l.length 0 C0 []:=Q
 have ag:C.l.length≤n:=R
 have ah:0≤s∧s≤131074*(L.length:Int):=S
 have ak:L.length+n≤C0.l.length:=T
 have hrec:aU cU n s C L=aU cU C0.l.length 0 C0 []:=by assumption
 refine sq<|sg<|?_
 have p:=aE.blk m (aa m1 (aa m2 (aa m3 (aa m4 aA)))) hb1
 refine L0<|aP p 0<|L0<|Oc<|mq (et b)<|?_
 have al:=ap.len b
 refine Pl 2<|cu 4 [8] 12 (((decide (0<((C.l.length:Nat) : Int)))&&(C.e==0))) (fun K B=>?_) ?_
 refine bl 8 ((decide (0<((C.l.length:Nat) : Int)))) (fun i=>?_) (fun i=>?_)
 have U:=of_decide_eq_true i
 refine L1<|aP p 0<|L1<|Oc<|mq (bF b)<|?_
 have am:=ap.len b
 exact Pl 2<|ce B (C.e==0) (by rw[i];rfl)
 have U:=of_decide_eq_false i
 exact Pl 4<|ce B false (by rw[i];rfl)
 refine nt<|cb (((decide (0<((C.l.length:Nat) : Int)))&&(C.e==0))) (fun f=>?_) (fun f=>?_)
 have y:=(b6 f).1
 have z:=(b6 f).2
 have an:=of_decide_eq_true y
 have ao:=ae z
 refine bp<|bk<|sg<|?_
 refine L0<|aP (aE.blk m (aa k1 (aa k2 (aa k3 (aa k4 aA)))) hb2) 0<|L0<|aP p 0<|L0<|gN #[] #[.pointer (some ⟨gs,0,none⟩)] (args:=#[.pointer (some ⟨gb,0,none⟩),.pointer (some ⟨gs,0,none⟩)])<|xN (qO (s:=s) b o n1 (by omega)) fun E F ar V X Y Z a0 G a1=>?_
 have aw:eE s C=s+(2+2*(aT C).count):=rfl
 obtain⟨ay,aC⟩:=X
 obtain⟨aF,aH⟩:=Y
 obtain⟨aI,aJ⟩:=Z
 refine L0<|bQ #[.int .u16 0,.int .u16 0,.int .u16 0,.slice none 0 0] fun aL aM a2 a3 a4=>L0<|be a3 #[.int .u16 ((aT C).file),.int .u16 ((aT C).record),.int .u16 ((aT C).count),.slice E ((aT C).words.length) F] fun a5 a6 a7=>nt<|sq<|xj 9<|?_
 have j:=ud a4 a7 a2
 have a:=aG a1 j
 refine F0<|aP (aE.blk a (aa m1 (aa m2 aA)) p) 0<|?_
 have q:=ap.old a0 j
 refine F0<|Oc<|mq (bF q)<|?_
 have aN:=ap.len q
 refine Fp<|Fp<|?_
 have H:=ut m a (ac im (ac im av))
 refine xa 19 ((((eA s C).e)!=0)) (fun k=>?_) (fun k=>?_)
 have a8:=az k
 refine Fp<|Fp<|Fp<|Fp<|Fp<|rh<|tn<|c1<|rt<|br<|tr<|br<|rr (.tuple #[])<|?_
 have hfin:aU cU C0.l.length 0 C0 []=((eA s C),L):=by
   rw[← hrec]
   rw[show n=(n-1)+1 from by omega]
   simp only[aU,cU,f,y,z,k,bs,if_true,if_false,decide_true,decide_false,reduceIte]
 refine⟨rfl,(eE s C),A,cp,?_⟩
 rw[hfin]
 exact⟨H,q,(ub j G),(aE.blk a (aa (Ne.symm n2) (aa (Ne.symm n4) aA)) t),(aq d a (fun x hx=>(aa (fun e=>(aB (ap.lt hC) lr d) (e▸hx)) (aa (fun e=>(aB (au hS) lr d) (e▸hx)) aA))) (bv.upd16 a (ax (ap.safe b _ (by decide)) (ax (aY o (by decide)) aK)))),(aE.blk a (aa (Ne.symm n3) (aa (Ne.symm n5) aA)) v)⟩
 have a8:=aj k
 refine Fp<|F0<|bP a6<|?_
 have I:=aE.blk a (aa (Ne.symm n3) (aa (Ne.symm n5) aA)) v
 have a9:JR w gb gs gm l c (ed fn0 tm asg bdy D) (eA s C) (eE s C) L A cp a5:=⟨H,q,(ub j G),(aE.blk a (aa (Ne.symm n2) (aa (Ne.symm n4) aA)) t),(aq d a (fun x hx=>(aa (fun e=>(aB (ap.lt hC) lr d) (e▸hx)) (aa (fun e=>(aB (au hS) lr d) (e▸hx)) aA))) (bv.upd16 a (ax (ap.safe b _ (by decide)) (ax (aY o (by decide)) aK)))),I⟩
 refine Fy (r:=ed fn0 tm asg bdy D) (.agg #[.int .u16 ((aT C).file),.int .u16 ((aT C).record),.int .u16 ((aT C).count),.slice E ((aT C).words.length) F]) 53 I rfl<|?_
 refine RoundIn.mono (hround _ _ _ _ _ _ (aT C) _ _ a9 (dN.upd' V j aK) (aD (by omega)) (aD (by omega)) (aD (by omega)) (by omega)) ?_
 rintro _ aO ⟨rfl,aQ,ab,ad,g⟩
 refine⟨_,rfl,?_⟩
 exact Fp<|Fp<|rh<|tn<|c0<|sk<|bn<|gM ((n-1),(eA s C),(eE s C),(L++[(aT C)]),ab,ad) ⟨g.u,g.hC,g.hS,g.hm,g.hl,g.ho,(by(try dsimp only);rw[← hrec,show n=(n-1)+1 from by omega];simp only[aU,cU,f,y,z,k,bs,if_true,if_false,decide_true,decide_false,Nat.add_sub_cancel,reduceIte]),(by(try dsimp only);have hd:=mw s C (by omega);have ij:(cU s C).2.1.l.length=(eA s C).l.length:=rfl;omega),(by(try dsimp only);simp only[List.length_append,List.length_cons,List.length_nil];omega),(by(try dsimp only);simp only[List.length_append,List.length_cons,List.length_nil];omega)⟩ (by omega)
 refine xt<|tx<|tx<|bx<|rm (.tuple #[])<|?_
 have hfin:aU cU C0.l.length 0 C0 []=(C,L):=by
   rw[← hrec]
   exact gD _ _ _ _ _ (by simp only[f,bs,if_true,if_false,decide_true,decide_false])
 refine⟨rfl,s,A,cp,?_⟩
 rw[hfin]
 exact⟨m,b,o,t,d,v⟩
theorem vO{w:World}{gb gs gm l b1 b2 fn0 D:Nat}{tm:Array Value}{asg bdy:Code}{c:Int}{C0:ai}(hC:ap w gb C0)(hS:w.heap[gs]? = some (.cells #[.int .i64 0] 3 (0,0)))(hm:w.heap[gm]? = some (.cells (fT c hG) 30 (0,0)))
    (hl:w.heap[l]? = some (.loop (ed fn0 tm asg bdy D))) (hb1:w.heap[b1]? = some (.cells #[.pointer (some ⟨gb,0,none⟩)] 113 (0,0))) (hb2:w.heap[b2]? = some (.cells #[.func (.func 254) #[] #[]] 212 (0,0)))
    (n1:gb≠gs) (n2:gb≠gm) (n3:gb≠l) (n4:gs≠gm) (n5:gs≠l) (n6:gm≠l) (m1:b1≠gb) (m2:b1≠gs) (m3:b1≠gm) (m4:b1≠l) (k1:b2≠gb) (k2:b2≠gs) (k3:b2≠gm) (k4:b2≠l) (hround:oY w gb gs gm l c (ed fn0 tm asg bdy D)) :
    Calls Tryz.prog 257 #[.func (.yield l) #[] #[],.pointer (some ⟨b1,0,none⟩),.pointer (some ⟨b2,0,none⟩)] w (fun e W=>e = .returned (.tuple #[])∧∃ s A cp,JR w gb gs gm l c (ed fn0 tm asg bdy D) (aU bH C0.l.length 0 C0 []).1 s (aU bH C0.l.length 0 C0 []).2 A cp W):=by
 have hlen:=hC.len
 refine en 25 Tryz.func257 rfl<|bk<|?_
 refine jf (fun x=>[(0,.func (.yield l) #[] #[]),(1,.pointer (some ⟨b1,0,none⟩)),(2,.pointer (some ⟨b2,0,none⟩))]) (fun(x:Nat × ai × Int × List dt × Option Addr × Nat) w'=>aE [gb,gs,gm,l] w w'∧ap w' gb x.2.1∧w'.heap[gs]? = some (.cells #[.int .i64 x.2.2.1] 3 (0,0))∧w'.heap[gm]? = some (.cells (fT c (.slice x.2.2.2.2.1 x.2.2.2.1.length x.2.2.2.2.2)) 30 (0,0))∧w'.heap[l]? = some (.loop (ed fn0 tm asg bdy D))∧aV w.heap.size 109 4 (bv true) w' (.slice x.2.2.2.2.1 x.2.2.2.1.length x.2.2.2.2.2) x.2.2.2.1∧(aU bH x.1 x.2.2.1 x.2.1 x.2.2.2.1=aU bH C0.l.length 0 C0 [])∧(x.2.1.l.length≤x.1)∧(0≤x.2.2.1∧x.2.2.1≤131074*(x.2.2.2.1.length:Int))∧(x.2.2.2.1.length+x.1≤C0.l.length)) (fun x=>x.1) (C0.l.length,C0,0,[],none,0) ⟨aE.refl _ _,hC,hS,hm,hl,aV.nil ..,rfl,(Nat.le_refl _),(by(try dsimp only);omega),(by(try dsimp only);(try simp only[List.length_nil]);omega)⟩ ?_
 rintro⟨n,C,s,L,A,cp⟩ g ⟨k,I,J,M,N,O,P,Q,R,S⟩
 refine jj [(0,.func (.yield l) #[] #[]),(1,.pointer (some ⟨b1,0,none⟩)),(2,.pointer (some ⟨b2,0,none⟩))] ?_
 have b:ap g gb C:=I
 have p:g.heap[gs]? = some (.cells #[.int .i64 s] 3 (0,0)):=J
 have q:g.heap[gm]? = some (.cells (fT c (.slice A L.length cp)) 30 (0,0)):=M
 have t:g.heap[l]? = some (.loop (ed fn0 tm asg bdy D)):=N
 have h:aV w.heap.size 109 4 (bv true) g (.slice A L.length cp) L:=O
 have ac:aU bH n s C L=aU bH C0.l.length 0 C0 []:=P
 have ad:C.l.length≤n:=Q
 have af:0≤s∧s≤131074*(L.length:Int):=R
 have ag:L.length+n≤C0.l.length:=S
 have hrec:aU bH n s C L=aU bH C0.l.length 0 C0 []:=by assumption
 refine sq<|sg<|?_
 have m:=aE.blk k (aa m1 (aa m2 (aa m3 (aa m4 aA)))) hb1
 refine L0<|aP m 0<|L0<|Oc<|mq (et b)<|?_
 have ah:=ap.len b
 refine Pl 2<|cu 4 [8] 12 (((decide (0<((C.l.length:Nat) : Int)))&&(C.e==0))) (fun K B=>?_) ?_
 refine bl 8 ((decide (0<((C.l.length:Nat) : Int)))) (fun i=>?_) (fun i=>?_)
 have T:=of_decide_eq_true i
 refine L1<|aP m 0<|L1<|Oc<|mq (bF b)<|?_
 have ak:=ap.len b
 exact Pl 2<|ce B (C.e==0) (by rw[i];rfl)
 have T:=of_decide_eq_false i
 exact Pl 4<|ce B false (by rw[i];rfl)
 refine nt<|cb (((decide (0<((C.l.length:Nat) : Int)))&&(C.e==0))) (fun d=>?_) (fun d=>?_)
 have v:=(b6 d).1
 have y:=(b6 d).2
 have al:=of_decide_eq_true v
 have am:=ae y
 refine bp<|bk<|sg<|?_
 refine L0<|aP (aE.blk k (aa k1 (aa k2 (aa k3 (aa k4 aA)))) hb2) 0<|L0<|aP m 0<|L0<|gN #[] #[] (args:=#[.pointer (some ⟨gb,0,none⟩)])<|v8 (qP b) fun E F an U V X Y Z a0=>?_
 obtain⟨ao,ar⟩:=V
 obtain⟨au,av⟩:=X
 obtain⟨aw,ay⟩:=Y
 refine L0<|bQ #[.int .u16 0,.int .u16 0,.int .u16 0,.slice none 0 0] fun aC aF a1 a2 a3=>L0<|be a2 #[.int .u16 ((eM C).file),.int .u16 ((eM C).record),.int .u16 ((eM C).count),.slice E ((eM C).words.length) F] fun a4 a5 a6=>nt<|sq<|xj 9<|?_
 have z:=ud a3 a6 a1
 have a:=aG a0 z
 refine F0<|aP (aZ a m1 m) 0<|?_
 have o:=ap.old Z z
 refine F0<|Oc<|mq (bF o)<|?_
 have aH:=ap.len o
 refine Fp<|Fp<|?_
 have G:=u1 k a im
 refine xa 19 ((((eL C).e)!=0)) (fun j=>?_) (fun j=>?_)
 have a7:=az j
 refine Fp<|Fp<|Fp<|Fp<|Fp<|rh<|tn<|c1<|rt<|br<|tr<|br<|rr (.tuple #[])<|?_
 have hfin:aU bH C0.l.length 0 C0 []=((eL C),L):=by
   rw[← hrec]
   rw[show n=(n-1)+1 from by omega]
   simp only[aU,bH,d,v,y,j,bs,if_true,if_false,decide_true,decide_false,reduceIte]
 refine⟨rfl,s,A,cp,?_⟩
 rw[hfin]
 exact⟨G,o,(aZ a (Ne.symm n1) p),(aZ a (Ne.symm n2) q),(aq h a (fun x hx=>(aa (fun e=>(aB (ap.lt hC) lr h) (e▸hx)) aA)) (bv.upd16 a (ax (ap.safe b _ (by decide)) aK))),(aZ a (Ne.symm n3) t)⟩
 have a7:=aj j
 refine Fp<|F0<|bP a5<|?_
 have H:=aZ a (Ne.symm n3) t
 have a8:JR w gb gs gm l c (ed fn0 tm asg bdy D) (eL C) s L A cp a4:=⟨G,o,(aZ a (Ne.symm n1) p),(aZ a (Ne.symm n2) q),(aq h a (fun x hx=>(aa (fun e=>(aB (ap.lt hC) lr h) (e▸hx)) aA)) (bv.upd16 a (ax (ap.safe b _ (by decide)) aK))),H⟩
 refine Fy (r:=ed fn0 tm asg bdy D) (.agg #[.int .u16 ((eM C).file),.int .u16 ((eM C).record),.int .u16 ((eM C).count),.slice E ((eM C).words.length) F]) 53 H rfl<|?_
 refine RoundIn.mono (hround _ _ _ _ _ _ (eM C) _ _ a8 (dN.upd' U z aK) (aD (by omega)) (aD (by omega)) (aD (by omega)) (by omega)) ?_
 rintro _ aI ⟨rfl,aJ,a9,ab,f⟩
 refine⟨_,rfl,?_⟩
 exact Fp<|Fp<|rh<|tn<|c0<|sk<|bn<|gM ((n-1),(eL C),s,(L++[(eM C)]),a9,ab) ⟨f.u,f.hC,f.hS,f.hm,f.hl,f.ho,(by(try dsimp only);rw[← hrec,show n=(n-1)+1 from by omega];simp only[aU,bH,d,v,y,j,bs,if_true,if_false,decide_true,decide_false,Nat.add_sub_cancel,reduceIte]),(by(try dsimp only);have hd:=iO s C (by omega);have ij:(bH s C).2.1.l.length=(eL C).l.length:=rfl;omega),(by(try dsimp only);simp only[List.length_append,List.length_cons,List.length_nil];omega),(by(try dsimp only);simp only[List.length_append,List.length_cons,List.length_nil];omega)⟩ (by omega)
 refine xt<|tx<|tx<|bx<|rm (.tuple #[])<|?_
 have hfin:aU bH C0.l.length 0 C0 []=(C,L):=by
   rw[← hrec]
   exact gD _ _ _ _ _ (by simp only[d,bs,if_true,if_false,decide_true,decide_false])
 refine⟨rfl,s,A,cp,?_⟩
 rw[hfin]
 exact⟨k,b,p,q,h,t⟩
theorem vm{w:World}{gb gs gm l b1 b2 fn0 D:Nat}{tm:Array Value}{asg bdy:Code}{c:Int}{C0:ai}(hC:ap w gb C0)(hS:w.heap[gs]? = some (.cells #[.int .i64 0] 3 (0,0)))(hm:w.heap[gm]? = some (.cells (fT c hG) 30 (0,0)))
    (hl:w.heap[l]? = some (.loop (ed fn0 tm asg bdy D))) (hb1:w.heap[b1]? = some (.cells #[.pointer (some ⟨gb,0,none⟩)] 113 (0,0))) (hb2:w.heap[b2]? = some (.cells #[.func (.func 256) #[] #[]] 212 (0,0)))
    (n1:gb≠gs) (n2:gb≠gm) (n3:gb≠l) (n4:gs≠gm) (n5:gs≠l) (n6:gm≠l) (m1:b1≠gb) (m2:b1≠gs) (m3:b1≠gm) (m4:b1≠l) (k1:b2≠gb) (k2:b2≠gs) (k3:b2≠gm) (k4:b2≠l) (hround:oY w gb gs gm l c (ed fn0 tm asg bdy D)) :
    Calls Tryz.prog 257 #[.func (.yield l) #[] #[],.pointer (some ⟨b1,0,none⟩),.pointer (some ⟨b2,0,none⟩)] w (fun e W=>e = .returned (.tuple #[])∧∃ s A cp,JR w gb gs gm l c (ed fn0 tm asg bdy D) (aU cV C0.l.length 0 C0 []).1 s (aU cV C0.l.length 0 C0 []).2 A cp W):=by
 have hlen:=hC.len
 refine en 25 Tryz.func257 rfl<|bk<|?_
 refine jf (fun x=>[(0,.func (.yield l) #[] #[]),(1,.pointer (some ⟨b1,0,none⟩)),(2,.pointer (some ⟨b2,0,none⟩))]) (fun(x:Nat × ai × Int × List dt × Option Addr × Nat) w'=>aE [gb,gs,gm,l] w w'∧ap w' gb x.2.1∧w'.heap[gs]? = some (.cells #[.int .i64 x.2.2.1] 3 (0,0))∧w'.heap[gm]? = some (.cells (fT c (.slice x.2.2.2.2.1 x.2.2.2.1.length x.2.2.2.2.2)) 30 (0,0))∧w'.heap[l]? = some (.loop (ed fn0 tm asg bdy D))∧aV w.heap.size 109 4 (bv true) w' (.slice x.2.2.2.2.1 x.2.2.2.1.length x.2.2.2.2.2) x.2.2.2.1∧(aU cV x.1 x.2.2.1 x.2.1 x.2.2.2.1=aU cV C0.l.length 0 C0 [])∧(x.2.1.l.length≤x.1)∧(0≤x.2.2.1∧x.2.2.1≤131074*(x.2.2.2.1.length:Int))∧(x.2.2.2.1.length+x.1≤C0.l.length)) (fun x=>x.1) (C0.l.length,C0,0,[],none,0) ⟨aE.refl _ _,hC,hS,hm,hl,aV.nil ..,rfl,(Nat.le_refl _),(by(try dsimp only);omega),(by(try dsimp only);(try simp only[List.length_nil]);omega)⟩ ?_
 rintro⟨n,C,s,L,A,cp⟩ g ⟨k,I,J,M,N,O,P,Q,R,S⟩
 refine jj [(0,.func (.yield l) #[] #[]),(1,.pointer (some ⟨b1,0,none⟩)),(2,.pointer (some ⟨b2,0,none⟩))] ?_
 have b:ap g gb C:=I
 have p:g.heap[gs]? = some (.cells #[.int .i64 s] 3 (0,0)):=J
 have q:g.heap[gm]? = some (.cells (fT c (.slice A L.length cp)) 30 (0,0)):=M
 have t:g.heap[l]? = some (.loop (ed fn0 tm asg bdy D)):=N
 have h:aV w.heap.size 109 4 (bv true) g (.slice A L.length cp) L:=O
 have ac:aU cV n s C L=aU cV C0.l.length 0 C0 []:=P
 have ad:C.l.length≤n:=Q
 have af:0≤s∧s≤131074*(L.length:Int):=R
 have ag:L.length+n≤C0.l.length:=S
 have hrec:aU cV n s C L=aU cV C0.l.length 0 C0 []:=by assumption
 refine sq<|sg<|?_
 have m:=aE.blk k (aa m1 (aa m2 (aa m3 (aa m4 aA)))) hb1
 refine L0<|aP m 0<|L0<|Oc<|mq (et b)<|?_
 have ah:=ap.len b
 refine Pl 2<|cu 4 [8] 12 (((decide (0<((C.l.length:Nat) : Int)))&&(C.e==0))) (fun K B=>?_) ?_
 refine bl 8 ((decide (0<((C.l.length:Nat) : Int)))) (fun i=>?_) (fun i=>?_)
 have T:=of_decide_eq_true i
 refine L1<|aP m 0<|L1<|Oc<|mq (bF b)<|?_
 have ak:=ap.len b
 exact Pl 2<|ce B (C.e==0) (by rw[i];rfl)
 have T:=of_decide_eq_false i
 exact Pl 4<|ce B false (by rw[i];rfl)
 refine nt<|cb (((decide (0<((C.l.length:Nat) : Int)))&&(C.e==0))) (fun d=>?_) (fun d=>?_)
 have v:=(b6 d).1
 have y:=(b6 d).2
 have al:=of_decide_eq_true v
 have am:=ae y
 refine bp<|bk<|sg<|?_
 refine L0<|aP (aE.blk k (aa k1 (aa k2 (aa k3 (aa k4 aA)))) hb2) 0<|L0<|aP m 0<|L0<|gN #[] #[] (args:=#[.pointer (some ⟨gb,0,none⟩)])<|v8 (uj b) fun E F an U V X Y Z a0=>?_
 obtain⟨ao,ar⟩:=V
 obtain⟨au,av⟩:=X
 obtain⟨aw,ay⟩:=Y
 refine L0<|bQ #[.int .u16 0,.int .u16 0,.int .u16 0,.slice none 0 0] fun aC aF a1 a2 a3=>L0<|be a2 #[.int .u16 ((iv C).file),.int .u16 ((iv C).record),.int .u16 ((iv C).count),.slice E ((iv C).words.length) F] fun a4 a5 a6=>nt<|sq<|xj 9<|?_
 have z:=ud a3 a6 a1
 have a:=aG a0 z
 refine F0<|aP (aZ a m1 m) 0<|?_
 have o:=ap.old Z z
 refine F0<|Oc<|mq (bF o)<|?_
 have aH:=ap.len o
 refine Fp<|Fp<|?_
 have G:=u1 k a im
 refine xa 19 ((((iq C).e)!=0)) (fun j=>?_) (fun j=>?_)
 have a7:=az j
 refine Fp<|Fp<|Fp<|Fp<|Fp<|rh<|tn<|c1<|rt<|br<|tr<|br<|rr (.tuple #[])<|?_
 have hfin:aU cV C0.l.length 0 C0 []=((iq C),L):=by
   rw[← hrec]
   rw[show n=(n-1)+1 from by omega]
   simp only[aU,cV,d,v,y,j,bs,if_true,if_false,decide_true,decide_false,reduceIte]
 refine⟨rfl,s,A,cp,?_⟩
 rw[hfin]
 exact⟨G,o,(aZ a (Ne.symm n1) p),(aZ a (Ne.symm n2) q),(aq h a (fun x hx=>(aa (fun e=>(aB (ap.lt hC) lr h) (e▸hx)) aA)) (bv.upd16 a (ax (ap.safe b _ (by decide)) aK))),(aZ a (Ne.symm n3) t)⟩
 have a7:=aj j
 refine Fp<|F0<|bP a5<|?_
 have H:=aZ a (Ne.symm n3) t
 have a8:JR w gb gs gm l c (ed fn0 tm asg bdy D) (iq C) s L A cp a4:=⟨G,o,(aZ a (Ne.symm n1) p),(aZ a (Ne.symm n2) q),(aq h a (fun x hx=>(aa (fun e=>(aB (ap.lt hC) lr h) (e▸hx)) aA)) (bv.upd16 a (ax (ap.safe b _ (by decide)) aK))),H⟩
 refine Fy (r:=ed fn0 tm asg bdy D) (.agg #[.int .u16 ((iv C).file),.int .u16 ((iv C).record),.int .u16 ((iv C).count),.slice E ((iv C).words.length) F]) 53 H rfl<|?_
 refine RoundIn.mono (hround _ _ _ _ _ _ (iv C) _ _ a8 (dN.upd' U z aK) (aD (by omega)) (aD (by omega)) (aD (by omega)) (by omega)) ?_
 rintro _ aI ⟨rfl,aJ,a9,ab,f⟩
 refine⟨_,rfl,?_⟩
 exact Fp<|Fp<|rh<|tn<|c0<|sk<|bn<|gM ((n-1),(iq C),s,(L++[(iv C)]),a9,ab) ⟨f.u,f.hC,f.hS,f.hm,f.hl,f.ho,(by(try dsimp only);rw[← hrec,show n=(n-1)+1 from by omega];simp only[aU,cV,d,v,y,j,bs,if_true,if_false,decide_true,decide_false,Nat.add_sub_cancel,reduceIte]),(by(try dsimp only);have hd:=mn s C (by omega);have ij:(cV s C).2.1.l.length=(iq C).l.length:=rfl;omega),(by(try dsimp only);simp only[List.length_append,List.length_cons,List.length_nil];omega),(by(try dsimp only);simp only[List.length_append,List.length_cons,List.length_nil];omega)⟩ (by omega)
 refine xt<|tx<|tx<|bx<|rm (.tuple #[])<|?_
 have hfin:aU cV C0.l.length 0 C0 []=(C,L):=by
   rw[← hrec]
   exact gD _ _ _ _ _ (by simp only[d,bs,if_true,if_false,decide_true,decide_false])
 refine⟨rfl,s,A,cp,?_⟩
 rw[hfin]
 exact⟨k,b,p,q,h,t⟩
open Go.RowKit
def ez (n:Int) : Bool:=(decide (7≤n)&&decide (n≤245))&&n%7==0
def eB (n:Int) : Bool:=decide (4≤n)&&decide (n≤245)
def eD (n:Int) : Bool:=decide (9≤n)&&decide (n≤251)
def j0 (may:Int→Bool)(C:ai) : ai:=(C.bytesC 1).need (may C.byteV) 5
def qB (may:Int→Bool)(C:ai) : ai:=⟨(j0 may C).bytesR C.byteV,false,0⟩
def mU (one:Int→ai→Int × ai × dt)(may:Int→Bool)(C:ai) : ai × List dt:=aU one (qB may C).l.length 0 (qB may C) []
def bq (e:Int) : Int:=if e==2 then 5 else e
def dy (one:Int→ai→Int × ai × dt)(may:Int→Bool)(c:Int)(C:ai) : ai × aQ :=
  (((j0 may C).bytesC C.byteV).need ((mU one may C).1.e==0) (bq (mU one may C).1.e),{ aQ.zero with code:=c,recs:=(mU one may C).2 })
def aW (dir c:Int)(C:ai) : Option (ai × aQ) :=
  if c==20 then (if dir==0 then some (dy cU ez c C) else some (dy bH eB c C)) else if c==21 then some (dy cV eD c C) else none
theorem mf:((20:Int)==20)=true:=rfl
theorem mb:((21:Int)==20)=false:=rfl
theorem lL:((21:Int)==21)=true:=rfl
theorem nn{m:Md}{A:Option Addr}{cp:Nat}{b:List Int}{w:World}{dir:Int}(hd:dir=0∨dir=1)(hsl:bo m w (.slice A b.length cp) b)(hb:b.length≤1048576) :
    Calls Tryz.prog 144 #[.int .i64 0,.int .u8 20,.slice A b.length cp] w (dY (ag aW 0 20 b) w):=by
 have hln:(b.length:Int)≤1048576:=by omega
 have cL:((dir != 0)&&(dir != 1))=false:=by rcases hd with rfl | rfl<;>rfl
 refine w9 77 Tryz.func144 rfl<|sg<|L0<|bQ mZ fun ad cM bi K ae=>Pl 1<|nt<|sq<|sg<|Pl 6<|nt<|c0<|?_
 refine bp<|sg<|Pl 2<|L0<|Oc (args:=#[.int .i64 0,.int .u8 20])<|e3 tM fun v cN Z G N=>Pl 3<|L0<|bQ #[.nilFunc,.nilFunc] fun cP cQ cd bj z=>L0<|be bj #[.func (.func 252) #[] #[],.func (.func 250) #[] #[.pointer (some ⟨v,0,none⟩)]] fun cR ce t=>Pl 1<|nt<|sq<|sq<|?_
 refine go<|Pl 2<|nt<|c0<|bp<|sg<|Pl 1<|?_
 have af:=ud z t cd
 have a0:=aG N af
 have bl:=aG ae a0
 refine L0<|Oc<|e3 (ec (bo.old hsl bl) (by omega)) fun a1 cT U M r=>Pl 1<|ng<|Pl 1<|L0<|Oc<|m3 (ch M) fun cV cf o cW=>L0<|Oi ((ai.mk b false 0).byteV)<|Pl 1<|ng<|?_
 refine Pl 2<|?_
 have aI:=ud r o U
 have bm:=ub aI ce
 refine L0<|aP bm 0<|Pl 1<|L0<|gN #[] #[] (args:=#[.int .i64 ((ai.mk b false 0).byteV)])<|m1 (oR (n:=(ai.mk b false 0).byteV) (by omega)) fun cX d=>?_
 refine L0<|Oc<|m2 (bg ((ez ((ai.mk b false 0).byteV))) 5 (ap.old cf d)) fun cY ci i=>?_
 refine ab ci fun x49 br bt=>?_
 refine ng<|Pl 2<|L0<|Oc<|ri (cS (n:=(ai.mk b false 0).byteV) bt) fun cZ d0 d1 cj d2 d3 ck j=>?_
 have d4:=Nat.le_trans (ai.bytesR_le x49 ((ai.mk b false 0).byteV)) (ap.len bt)
 refine ab ck fun x58 bu aJ=>?_
 refine L0<|Oc<|e3 (ec cj (by omega)) fun O d5 P Q g=>Pl 1<|ng<|Pl 2<|L0<|bQ mZ fun B d6 H V p=>L0<|be V (mC 20) fun d8 cl h=>nt<|sq<|sg<|?_
 refine Pl 2<|?_
 have ah:=ud p h H
 have ak:=aG g ah
 have bw:=uz d (u1 i (aG j ak) im)
 refine L0<|aP (aZ bw (nb (au bj) t.size U) bm) 1<|L0<|Oc<|v8 (kM (gb:=O) (f:=.func 250) (x:=#[]) (y:=#[.pointer (some ⟨v,0,none⟩)])) fun cq cs d9 aN aO da bx bz k=>nt<|bk<|?_
 refine oK (f:=257) #[.pointer (some ⟨cq,0,none⟩),.pointer (some ⟨cs,0,none⟩)] fun a ha=>?_
 intro db ct I dc D E bA al S J
 have bB:=nb (ap.lt Q) lr H
 have an:=nb (ap.lt Q) (le (le p.size h.size) k.size) E
 have bD:=nb (au G) (le (le (le (le (le (le (le z.size t.size) r.size) o.size) d.size) i.size) j.size) g.size) H
 have bE:=nb (au G) (le (le (le (le (le (le (le (le (le (le z.size t.size) r.size) o.size) d.size) i.size) j.size) g.size) p.size) h.size) k.size) E
 have a2:=nb (au V) (le h.size k.size) E
 have X:=aG k J
 have bG:=ap.old Q (aG ah X)
 have ao:=ud aI (aG bw X) U
 have bH:=ub (aG af ao) G
 have aR:=ub X cl
 refine(vz (c:=20) bG bH aR S (ub J bx) (ub J bz) (Ne.symm (nb (au G) (le (le (le (le (le (le z.size t.size) r.size) o.size) d.size) i.size) j.size) P)) bB an bD bE a2 (Ne.symm (nb (ap.lt Q) ah.size aN)) (Ne.symm (nb (au G) (le (le (le (le (le (le (le (le (le z.size t.size) r.size) o.size) d.size) i.size) j.size) g.size) p.size) h.size) aN)) (Ne.symm (nb (au V) h.size aN)) (nb (au bx) lr E) (Ne.symm (nb (ap.lt Q) ah.size aO)) (Ne.symm (nb (au G) (le (le (le (le (le (le (le (le (le z.size t.size) r.size) o.size) d.size) i.size) j.size) g.size) p.size) h.size) aO)) (Ne.symm (nb (au V) h.size aO)) (nb (au bz) lr E) ?_).mono ?_
 intro W C s L Ar cr x Ax cx hJ hrd hx1 hx2 hx3 hL
 simp only[dF] at hx1 hx2 hx3
 have hm2:W.heap[B]? = some (.cells #[.int .u8 20,.int .u8 0,.int .u16 0,.int .u16 0,.int .u16 0,.int .u16 0,.int .u16 0,.int .u16 0,.int .u16 0,.int .u16 0,.int .u16 0,.int .u16 0,.slice none 0 0,.slice none 0 0,.slice none 0 0,.slice Ar L.length cr,.int .u8 0,.int .u8 0,.int .u8 0,.int .u8 0,.int .u8 0,.slice none 0 0] 30 (0,0)):=hJ.hm
 refine km hJ.hl ?_
 refine xn ha 53<|vW<|ls<|bQ #[.int .u16 0,.int .u16 0,.int .u16 0,.slice none 0 0] fun dd de bJ cu bK=>ls<|be cu #[.int .u16 x.file,.int .u16 x.record,.int .u16 x.count,.slice Ax x.words.length cx] fun df cw bL=>rh<|?_
 have bM:=ud bK bL bJ
 refine wS (ub bM hJ.hl) (by trivial) fun dg cy aT=>xu<|vW<|w6<|?_
 have aV:=uz bM aT
 have bN:=aZ aV a2 hm2
 refine ls<|aP bN 15<|?_
 refine ls<|bP (aZ aT (Ne.symm (nb (au S) hJ.u.size bJ)) cw)<|ls<|cO (m:=1) (e:=109) #[.int .u16 x.file,.int .u16 x.record,.int .u16 x.count,.slice Ax x.words.length cx] fun dh di dj cz aX=>?_
 have Y:=aG aV aX
 have cA:=jO (R:=bv true) (x:=(dt.mk x.file x.record x.count x.words)) cz rfl ⟨_,rfl,(dN.updl hrd Y hJ.hl rfl),aD (by omega),aD (by omega),aD (by omega)⟩
 have b0:=aq hJ.ho Y (fun x hx=>(aa (fun e=>(aB (au S) lr hJ.ho) (e▸hx)) aA)) (bv.updl Y hJ.hl rfl)
 refine ls<|gO (xs:=L) (ys:=([(dt.mk x.file x.record x.count x.words)])) (.agg #[.int .u16 0,.int .u16 0,.int .u16 0,.slice none 0 0]) 4 32 b0 cA (by simp) bv.ones (fun w' hv=>bv.upd16 hv (d7 (dB _ b0 (by decide)) aK)) (by(try simp only[List.length_append,List.length_cons,List.length_nil,ay]);omega) (le (le (le (le hJ.u.size bK.size) bL.size) aT.size) aX.size) fun bO bR dk b1 ar=>w6<|?_
 have bS:=ut (aE.mono (S':=(ob Ar++[])) aX av) ar (am il av)
 have b2:=aE.blk bS (bf (aB (au aR) lr hJ.ho) aA) bN
 refine ls<|cg b2 15 (mG 20 0 0 0 0 0 0 0 0 0 0 0 nS nS nS (.slice bO ((L++[(dt.mk x.file x.record x.count x.words)]).length) bR) 0 0 0 0 0 nS) fun dl cB a3=>rh<|bn<|?_
 have bT:=u1 (aE.mono (S':=(ob Ar++(B :: []))) bS (am il av)) a3 im
 have b3:=aE.blk bT (bf (aB (au S) lr hJ.ho) (aa (Ne.symm a2) aA)) cy
 refine wU b3 fun dm cC a4=>?_
 have b4:=ut (aE.mono (S':=(I :: (ob Ar++(B :: [])))) Y (ac im av)) (ut (aE.mono (S':=(ob Ar++(B :: (I :: [])))) ar (am il av)) (us a3 a4) (ac im (ac im av))) (am il (ac im (ac im av)))
 have dn:=ut hJ.u (ut (aE.mono (S':=(I :: (ob Ar++(B :: [])))) aV (ac im av)) bT (am il (ac im av))) (ac im (am (aM hJ.ho lr) (ac im av)))
 have dp:=ut hJ.u (ut (aE.mono (S':=(I :: (ob Ar++[]))) Y (ac im av)) ar (am il av)) (ac im (am (aM hJ.ho lr) av))
 exact⟨by trivial,b4.size,bO,bR,⟨(ut hJ.u b4 (ac im (am (aM hJ.ho lr) (ac im av)))),(ap.updl (ap.upd (ap.upd (ap.updl hJ.hC Y (aa an aA) hJ.hl rfl) ar (bf (aB (ap.lt bG) lr hJ.ho) aA) (d7 (dB _ b0 (by decide)) aK)) a3 (aa bB aA) (ax (aY b2 (by decide)) aK)) a4 (aa an aA) b3 rfl),(aE.blk b4 (aa bE (bf (aB (au bH) lr hJ.ho) (aa bD aA))) hJ.hS),(aZ a4 a2 cB),(aq (aq b1 a3 (fun x hx=>(aa (fun e=>(aB (au aR) lr b1) (e▸hx)) aA)) (bv.upd16 a3 (ax (aY b2 (by decide)) aK))) a4 (fun x hx=>(aa (fun e=>(aB (au S) lr b1) (e▸hx)) aA)) (bv.updl a4 b3 rfl)),cC⟩⟩
 rintro _ cD ⟨rfl,dq,bU,bV,q⟩
 refine⟨_,_,rfl,q.hl,by simp[ed],by trivial,fun dr bW=>?_⟩
 refine ab q.hC fun b5 bX cF=>?_
 have cG:cD.heap[B]? = some (.cells #[.int .u8 20,.int .u8 0,.int .u16 0,.int .u16 0,.int .u16 0,.int .u16 0,.int .u16 0,.int .u16 0,.int .u16 0,.int .u16 0,.int .u16 0,.int .u16 0,.slice none 0 0,.slice none 0 0,.slice none 0 0,.slice bU ((aU cU (ai.mk (x49.bytesR ((ai.mk b false 0).byteV)) false 0).l.length 0 (ai.mk (x49.bytesR ((ai.mk b false 0).byteV)) false 0) []).2.length) bV,.int .u8 0,.int .u8 0,.int .u8 0,.int .u8 0,.int .u8 0,.slice none 0 0] 30 (0,0)):=q.hm
 refine bn<|tn<|sg<|Pl 2<|?_
 have aw:=ap.updl cF bW (aa an aA) q.hl rfl
 refine L0<|Oc<|mq (bF aw)<|?_
 have ds:=ap.len aw
 refine Pl 2<|L0<|Oc<|mq (bF aw)<|?_
 have du:=ap.len aw
 refine L0<|Oc<|m1 (iz (e:=b5.e)) fun dv cH=>?_
 have F:=aG bW cH
 have bY:=u1 q.u F im
 have b6:=nb (au G) af.size U
 have aC:=ud aI (uz d (u1 i j im)) U
 have b7:=ub (aG af aC) G
 have b9:=ap.upd aJ (ut (aE.mono (S':=[v]) ak av) (ut (aE.mono (S':=[O,v,B]) X av) bY (ac im (ac im (ac im (ac (ni k.size E) av))))) (ac (nr P) (ac im (ac (ni g.size H) av)))) (aa (Ne.symm b6) aA) (ax (aY b7 (by decide)) aK)
 refine L0<|Oc<|m2 (bg ((b5.e==0)) (bq b5.e) b9) fun dw cI T=>?_
 refine ab cI fun bZ c1 ba=>?_
 refine ng<|Pl 1<|L0<|Oc<|m2 (cE ba) fun dx c2 a5=>nt<|sq<|sg<|Pl 1<|L0<|Oc<|mq (bF c2)<|?_
 have dz:=ap.len c2
 refine Pl 1<|ng<|Pl 2<|nt<|?_
 have a6:=u1 T a5 im
 have bb:=u1 (aE.mono (S':=[O,v,B,I,a1]) bY (ac im (ac im (ac im (ac im av))))) a6 im
 have bc:=ut (aE.mono (S':=[v]) ao av) bb (ac (ni aC.size P) (ac im (ac (ni (le (le (le (le (le r.size o.size) d.size) i.size) j.size) g.size) H) (ac (ni (le (le (le (le (le (le (le (le r.size o.size) d.size) i.size) j.size) g.size) p.size) h.size) k.size) E) (ac (nr U) av)))))
 have c3:=ud bl bc (le ae.size Z)
 refine cb ((bZ.endC.e != 0)) (fun a7=>?_) (fun a7=>?_)
 have bd:=az a7
 refine sg<|Pl 2<|?_
 have c4:=ub (ud a0 bc Z) K
 refine L0<|be c4 mZ fun dA cJ a8=>Pl 1<|nt<|rt<|tr<|?_
 have c5:=nb (au K) (le (le (le (le (le (le (le (le (le (le (le N.size z.size) t.size) r.size) o.size) d.size) i.size) j.size) g.size) p.size) h.size) k.size) D
 have c6:=aE.blk (u1 (aE.mono (S':=[O,v,B,I,a1,ad]) bb (ac im (ac im (ac im (ac im (ac im av)))))) a8 im) (aa (Ne.symm (nb (ap.lt Q) (le (le p.size h.size) k.size) D)) (aa (Ne.symm (nb (au G) (le (le (le (le (le (le (le (le (le (le z.size t.size) r.size) o.size) d.size) i.size) j.size) g.size) p.size) h.size) k.size) D)) (aa (Ne.symm (nb (au V) (le h.size k.size) D)) (aa bA (aa (Ne.symm (nb (ap.lt M) (le (le (le (le (le (le (le o.size d.size) i.size) j.size) g.size) p.size) h.size) k.size) D)) (aa (Ne.symm c5) aA)))))) al
 refine vZ c6 fun dC aF=>?_
 refine rx (aZ aF c5 cJ) (.int .i64 bZ.endC.e)<|?_
 subst c1 bX bu br
 have c7:=us a8 aF
 have dD:=us F (us a6 c7)
 have dE:=us F (us a6 a8)
 have dG:=ub (ud a0 (ut (aE.mono (S':=[v]) ao av) q.u (ac (ni aC.size P) (ac im (ac (ni (le (le (le (le (le r.size o.size) d.size) i.size) j.size) g.size) H) (ac (ni (le (le (le (le (le (le (le (le r.size o.size) d.size) i.size) j.size) g.size) p.size) h.size) k.size) E) av))))) Z) K
 have dH:=ap.upd aJ (ut (aE.mono (S':=[v]) ak av) (ut (aE.mono (S':=[O,v,B]) X av) q.u (ac im (ac im (ac im (ac (ni k.size E) av))))) (ac (nr P) (ac im (ac (ni g.size H) av)))) (aa (Ne.symm b6) aA) (ax (aY b7 (by decide)) aK)
 have dI:=us F a6
 have dJ:=us F T
 have dK:=aq (aq (aq (aq (aq q.ho F (fun x hx=>(aa (fun e=>(aB (au S) lr q.ho) (e▸hx)) aA)) (bv.updl F q.hl rfl)) T (fun x hx=>(aa (fun e=>(aB (ap.lt M) (le (le (le (le (le (le (le (le o.size d.size) i.size) j.size) g.size) p.size) h.size) k.size) J.size) q.ho) (e▸hx)) aA)) (bv.upd16 T (ax (ap.safe b9 _ (by decide)) aK))) a5 (fun x hx=>(aa (fun e=>(aB (ap.lt M) (le (le (le (le (le (le (le (le o.size d.size) i.size) j.size) g.size) p.size) h.size) k.size) J.size) q.ho) (e▸hx)) aA)) (bv.upd16 a5 (ax (ap.safe ba _ (by decide)) aK))) a8 (fun x hx=>(aa (fun e=>(aB (au K) (le (le (le (le (le (le (le (le (le (le (le (le N.size z.size) t.size) r.size) o.size) d.size) i.size) j.size) g.size) p.size) h.size) k.size) J.size) q.ho) (e▸hx)) aA)) (bv.upd16 a8 (ax (aY c4 (by decide)) aK))) aF (fun x hx=>(aa (fun e=>(aB (au al) lr q.ho) (e▸hx)) aA)) (bv.updl aF c6 rfl)
 have hs:ag aW 0 20 b=aL (aQ.mk 20 0 0 0 0 0 0 0 0 0 0 0 [] [] [] (aU cU (ai.mk ((((ai.mk b false 0).bytesC 1).need (ez ((ai.mk b false 0).byteV)) 5).bytesR ((ai.mk b false 0).byteV)) false 0).l.length 0 (ai.mk ((((ai.mk b false 0).bytesC 1).need (ez ((ai.mk b false 0).byteV)) 5).bytesR ((ai.mk b false 0).byteV)) false 0) []).2 0 0 0 0 0 []) (((((ai.mk b false 0).bytesC 1).need (ez ((ai.mk b false 0).byteV)) 5).bytesC ((ai.mk b false 0).byteV)).need (((aU cU (ai.mk ((((ai.mk b false 0).bytesC 1).need (ez ((ai.mk b false 0).byteV)) 5).bytesR ((ai.mk b false 0).byteV)) false 0).l.length 0 (ai.mk ((((ai.mk b false 0).bytesC 1).need (ez ((ai.mk b false 0).byteV)) 5).bytesR ((ai.mk b false 0).byteV)) false 0) []).1).e==0) (bq ((aU cU (ai.mk ((((ai.mk b false 0).bytesC 1).need (ez ((ai.mk b false 0).byteV)) 5).bytesR ((ai.mk b false 0).byteV)) false 0).l.length 0 (ai.mk ((((ai.mk b false 0).bytesC 1).need (ez ((ai.mk b false 0).byteV)) 5).bytesR ((ai.mk b false 0).byteV)) false 0) []).1).e)):=by
   unfold ag aW dy mU qB j0
   (try simp only[a7,bs,if_true,if_false,decide_true,decide_false,eq_self,true_or,or_true,or_false,false_or,if_true,if_false,co,cm,cn,cv,reduceIte,mf,mb,lL])
   all_goals rfl
 rw[hs]
 exact bC bd (ut c3 c7 (ac (nr bi) (ac (ni (le (le (le (le (le (le (le (le (le (le (le (le ae.size N.size) z.size) t.size) r.size) o.size) d.size) i.size) j.size) g.size) p.size) h.size) k.size) D) av)))
 have bd:=aj a7
 refine bp<|sg<|?_
 have bh:=us F a6
 refine L0<|bP (aE.blk bh (aa a2 (aa (Ne.symm (nb (ap.lt M) (le (le (le (le o.size d.size) i.size) j.size) g.size) H)) aA)) cG)<|?_
 have c8:=ub (ud a0 bc Z) K
 refine L0<|be c8 (mG 20 0 0 0 0 0 0 0 0 0 0 0 nS nS nS (.slice bU ((aU cU (ai.mk (x49.bytesR ((ai.mk b false 0).byteV)) false 0).l.length 0 (ai.mk (x49.bytesR ((ai.mk b false 0).byteV)) false 0) []).2.length) bV) 0 0 0 0 0 nS) fun dL cK a9=>Pl 1<|nt<|rt<|?_
 have c9:=nb (au K) (le (le (le (le (le (le (le (le (le (le (le N.size z.size) t.size) r.size) o.size) d.size) i.size) j.size) g.size) p.size) h.size) k.size) D
 have ca:=aE.blk (u1 (aE.mono (S':=[O,v,B,I,a1,ad]) bb (ac im (ac im (ac im (ac im (ac im av)))))) a9 im) (aa (Ne.symm (nb (ap.lt Q) (le (le p.size h.size) k.size) D)) (aa (Ne.symm (nb (au G) (le (le (le (le (le (le (le (le (le (le z.size t.size) r.size) o.size) d.size) i.size) j.size) g.size) p.size) h.size) k.size) D)) (aa (Ne.symm (nb (au V) (le h.size k.size) D)) (aa bA (aa (Ne.symm (nb (ap.lt M) (le (le (le (le (le (le (le o.size d.size) i.size) j.size) g.size) p.size) h.size) k.size) D)) (aa (Ne.symm c9) aA)))))) al
 refine vZ ca fun dM aH=>?_
 refine rx (aZ aH c9 cK) (.int .i64 0)<|?_
 subst c1 bX bu br
 have cc:=us a9 aH
 have dO:=ut (aE.mono (S':=[I,a1,ad,ct]) bh (ac im (ac im av))) cc (ac im (ac im av))
 have dP:=u1 (aE.mono (S':=[I,a1,ad]) bh (ac im (ac im av))) a9 im
 have dQ:=ub (ud a0 (ut (aE.mono (S':=[v]) ao av) q.u (ac (ni aC.size P) (ac im (ac (ni (le (le (le (le (le r.size o.size) d.size) i.size) j.size) g.size) H) (ac (ni (le (le (le (le (le (le (le (le r.size o.size) d.size) i.size) j.size) g.size) p.size) h.size) k.size) E) av))))) Z) K
 have dR:=ap.upd aJ (ut (aE.mono (S':=[v]) ak av) (ut (aE.mono (S':=[O,v,B]) X av) q.u (ac im (ac im (ac im (ac (ni k.size E) av))))) (ac (nr P) (ac im (ac (ni g.size H) av)))) (aa (Ne.symm b6) aA) (ax (aY b7 (by decide)) aK)
 have dS:=us F T
 have hs:ag aW 0 20 b=aL (aQ.mk 20 0 0 0 0 0 0 0 0 0 0 0 [] [] [] (aU cU (ai.mk ((((ai.mk b false 0).bytesC 1).need (ez ((ai.mk b false 0).byteV)) 5).bytesR ((ai.mk b false 0).byteV)) false 0).l.length 0 (ai.mk ((((ai.mk b false 0).bytesC 1).need (ez ((ai.mk b false 0).byteV)) 5).bytesR ((ai.mk b false 0).byteV)) false 0) []).2 0 0 0 0 0 []) (((((ai.mk b false 0).bytesC 1).need (ez ((ai.mk b false 0).byteV)) 5).bytesC ((ai.mk b false 0).byteV)).need (((aU cU (ai.mk ((((ai.mk b false 0).bytesC 1).need (ez ((ai.mk b false 0).byteV)) 5).bytesR ((ai.mk b false 0).byteV)) false 0).l.length 0 (ai.mk ((((ai.mk b false 0).bytesC 1).need (ez ((ai.mk b false 0).byteV)) 5).bytesR ((ai.mk b false 0).byteV)) false 0) []).1).e==0) (bq ((aU cU (ai.mk ((((ai.mk b false 0).bytesC 1).need (ez ((ai.mk b false 0).byteV)) 5).bytesR ((ai.mk b false 0).byteV)) false 0).l.length 0 (ai.mk ((((ai.mk b false 0).bytesC 1).need (ez ((ai.mk b false 0).byteV)) 5).bytesR ((ai.mk b false 0).byteV)) false 0) []).1).e)):=by
   unfold ag aW dy mU qB j0
   (try simp only[a7,bs,if_true,if_false,decide_true,decide_false,eq_self,true_or,or_true,or_false,false_or,if_true,if_false,co,cm,cn,cv,reduceIte,mf,mb,lL])
   all_goals rfl
 rw[hs]
 exact bI bd ⟨_,_,_,_,_,rfl,aS.nil ..,aS.nil ..,aS.nil ..,((aq (aq (aq (aq (aq q.ho F (fun x hx=>(aa (fun e=>(aB (au S) lr q.ho) (e▸hx)) aA)) (bv.updl F q.hl rfl)) T (fun x hx=>(aa (fun e=>(aB (ap.lt M) (le (le (le (le (le (le (le (le o.size d.size) i.size) j.size) g.size) p.size) h.size) k.size) J.size) q.ho) (e▸hx)) aA)) (bv.upd16 T (ax (ap.safe b9 _ (by decide)) aK))) a5 (fun x hx=>(aa (fun e=>(aB (ap.lt M) (le (le (le (le (le (le (le (le o.size d.size) i.size) j.size) g.size) p.size) h.size) k.size) J.size) q.ho) (e▸hx)) aA)) (bv.upd16 a5 (ax (ap.safe ba _ (by decide)) aK))) a9 (fun x hx=>(aa (fun e=>(aB (au K) (le (le (le (le (le (le (le (le (le (le (le (le N.size z.size) t.size) r.size) o.size) d.size) i.size) j.size) g.size) p.size) h.size) k.size) J.size) q.ho) (e▸hx)) aA)) (bv.upd16 a9 (ax (aY c8 (by decide)) aK))) aH (fun x hx=>(aa (fun e=>(aB (au al) lr q.ho) (e▸hx)) aA)) (bv.updl aH ca rfl))).rd,aS.nil ..,⟨(b8 (x:=20) (by omega)),(b8 (x:=0) (by omega)),(aD (x:=0) (by omega)),(aD (x:=0) (by omega)),(aD (x:=0) (by omega)),(aD (x:=0) (by omega)),(aD (x:=0) (by omega)),(aD (x:=0) (by omega)),(aD (x:=0) (by omega)),(aD (x:=0) (by omega)),(aD (x:=0) (by omega)),(aD (x:=0) (by omega)),(b8 (x:=0) (by omega)),(b8 (x:=0) (by omega)),(b8 (x:=0) (by omega)),(b8 (x:=0) (by omega)),(b8 (x:=0) (by omega))⟩⟩ (ut c3 cc (ac (nr bi) (ac (ni (le (le (le (le (le (le (le (le (le (le (le (le ae.size N.size) z.size) t.size) r.size) o.size) d.size) i.size) j.size) g.size) p.size) h.size) k.size) D) av)))
theorem nK{m:Md}{A:Option Addr}{cp:Nat}{b:List Int}{w:World}{dir:Int}(hd:dir=0∨dir=1)(hsl:bo m w (.slice A b.length cp) b)(hb:b.length≤1048576) :
    Calls Tryz.prog 144 #[.int .i64 1,.int .u8 20,.slice A b.length cp] w (dY (ag aW 1 20 b) w):=by
 have hln:(b.length:Int)≤1048576:=by omega
 have cM:((dir != 0)&&(dir != 1))=false:=by rcases hd with rfl | rfl<;>rfl
 refine w9 77 Tryz.func144 rfl<|sg<|L0<|bQ mZ fun ad cN bi K ae=>Pl 1<|nt<|sq<|sg<|Pl 6<|nt<|c0<|?_
 refine bp<|sg<|Pl 2<|L0<|Oc (args:=#[.int .i64 1,.int .u8 20])<|e3 uv fun z cP Z G N=>Pl 3<|L0<|bQ #[.nilFunc,.nilFunc] fun cQ cR ce bj v=>L0<|be bj #[.func (.func 253) #[] #[],.func (.func 254) #[] #[]] fun cT cf t=>Pl 1<|nt<|sq<|sq<|?_
 refine go<|Pl 2<|nt<|c0<|bp<|sg<|Pl 1<|?_
 have af:=ud v t ce
 have a0:=aG N af
 have bl:=aG ae a0
 refine L0<|Oc<|e3 (ec (bo.old hsl bl) (by omega)) fun a1 cU U M r=>Pl 1<|ng<|Pl 1<|L0<|Oc<|m3 (ch M) fun cV ci o cW=>L0<|Oi ((ai.mk b false 0).byteV)<|Pl 1<|ng<|?_
 refine Pl 2<|?_
 have aI:=ud r o U
 have bm:=ub aI cf
 refine L0<|aP bm 0<|Pl 1<|L0<|gN #[] #[] (args:=#[.int .i64 ((ai.mk b false 0).byteV)])<|m1 (oA (n:=(ai.mk b false 0).byteV) (by omega)) fun cX d=>?_
 refine L0<|Oc<|m2 (bg ((eB ((ai.mk b false 0).byteV))) 5 (ap.old ci d)) fun cY cj i=>?_
 refine ab cj fun x49 br bt=>?_
 refine ng<|Pl 2<|L0<|Oc<|ri (cS (n:=(ai.mk b false 0).byteV) bt) fun cZ d0 d1 ck d2 d3 cl j=>?_
 have d4:=Nat.le_trans (ai.bytesR_le x49 ((ai.mk b false 0).byteV)) (ap.len bt)
 refine ab cl fun x58 bu aJ=>?_
 refine L0<|Oc<|e3 (ec ck (by omega)) fun O d5 P Q g=>Pl 1<|ng<|Pl 2<|L0<|bQ mZ fun B d6 H V p=>L0<|be V (mC 20) fun d8 cq h=>nt<|sq<|sg<|?_
 refine Pl 2<|?_
 have ah:=ud p h H
 have ak:=aG g ah
 have bw:=uz d (u1 i (aG j ak) im)
 refine L0<|aP (aZ bw (nb (au bj) t.size U) bm) 1<|L0<|Oc<|v8 (kM (gb:=O) (f:=.func 254) (x:=#[]) (y:=#[])) fun cs ct d9 aN aO da bx bz k=>nt<|bk<|?_
 refine oK (f:=257) #[.pointer (some ⟨cs,0,none⟩),.pointer (some ⟨ct,0,none⟩)] fun a ha=>?_
 intro db cu I dc D E bA al S J
 have bB:=nb (ap.lt Q) lr H
 have an:=nb (ap.lt Q) (le (le p.size h.size) k.size) E
 have bD:=nb (au G) (le (le (le (le (le (le (le v.size t.size) r.size) o.size) d.size) i.size) j.size) g.size) H
 have bE:=nb (au G) (le (le (le (le (le (le (le (le (le (le v.size t.size) r.size) o.size) d.size) i.size) j.size) g.size) p.size) h.size) k.size) E
 have a2:=nb (au V) (le h.size k.size) E
 have X:=aG k J
 have bG:=ap.old Q (aG ah X)
 have ao:=ud aI (aG bw X) U
 have bJ:=ub (aG af ao) G
 have aR:=ub X cq
 refine(vO (c:=20) bG bJ aR S (ub J bx) (ub J bz) (Ne.symm (nb (au G) (le (le (le (le (le (le v.size t.size) r.size) o.size) d.size) i.size) j.size) P)) bB an bD bE a2 (Ne.symm (nb (ap.lt Q) ah.size aN)) (Ne.symm (nb (au G) (le (le (le (le (le (le (le (le (le v.size t.size) r.size) o.size) d.size) i.size) j.size) g.size) p.size) h.size) aN)) (Ne.symm (nb (au V) h.size aN)) (nb (au bx) lr E) (Ne.symm (nb (ap.lt Q) ah.size aO)) (Ne.symm (nb (au G) (le (le (le (le (le (le (le (le (le v.size t.size) r.size) o.size) d.size) i.size) j.size) g.size) p.size) h.size) aO)) (Ne.symm (nb (au V) h.size aO)) (nb (au bz) lr E) ?_).mono ?_
 intro W C s L Ar cr x Ax cx hJ hrd hx1 hx2 hx3 hL
 simp only[dF] at hx1 hx2 hx3
 have hm2:W.heap[B]? = some (.cells #[.int .u8 20,.int .u8 0,.int .u16 0,.int .u16 0,.int .u16 0,.int .u16 0,.int .u16 0,.int .u16 0,.int .u16 0,.int .u16 0,.int .u16 0,.int .u16 0,.slice none 0 0,.slice none 0 0,.slice none 0 0,.slice Ar L.length cr,.int .u8 0,.int .u8 0,.int .u8 0,.int .u8 0,.int .u8 0,.slice none 0 0] 30 (0,0)):=hJ.hm
 refine km hJ.hl ?_
 refine xn ha 53<|vW<|ls<|bQ #[.int .u16 0,.int .u16 0,.int .u16 0,.slice none 0 0] fun dd de bK cw bL=>ls<|be cw #[.int .u16 x.file,.int .u16 x.record,.int .u16 x.count,.slice Ax x.words.length cx] fun df cy bM=>rh<|?_
 have bN:=ud bL bM bK
 refine wS (ub bN hJ.hl) (by trivial) fun dg cz aT=>xu<|vW<|w6<|?_
 have aV:=uz bN aT
 have bO:=aZ aV a2 hm2
 refine ls<|aP bO 15<|?_
 refine ls<|bP (aZ aT (Ne.symm (nb (au S) hJ.u.size bK)) cy)<|ls<|cO (m:=1) (e:=109) #[.int .u16 x.file,.int .u16 x.record,.int .u16 x.count,.slice Ax x.words.length cx] fun dh di dj cA aX=>?_
 have Y:=aG aV aX
 have cB:=jO (R:=bv true) (x:=(dt.mk x.file x.record x.count x.words)) cA rfl ⟨_,rfl,(dN.updl hrd Y hJ.hl rfl),aD (by omega),aD (by omega),aD (by omega)⟩
 have b0:=aq hJ.ho Y (fun x hx=>(aa (fun e=>(aB (au S) lr hJ.ho) (e▸hx)) aA)) (bv.updl Y hJ.hl rfl)
 refine ls<|gO (xs:=L) (ys:=([(dt.mk x.file x.record x.count x.words)])) (.agg #[.int .u16 0,.int .u16 0,.int .u16 0,.slice none 0 0]) 4 32 b0 cB (by simp) bv.ones (fun w' hv=>bv.upd16 hv (d7 (dB _ b0 (by decide)) aK)) (by(try simp only[List.length_append,List.length_cons,List.length_nil,ay]);omega) (le (le (le (le hJ.u.size bL.size) bM.size) aT.size) aX.size) fun bR bS dk b1 ar=>w6<|?_
 have bT:=ut (aE.mono (S':=(ob Ar++[])) aX av) ar (am il av)
 have b2:=aE.blk bT (bf (aB (au aR) lr hJ.ho) aA) bO
 refine ls<|cg b2 15 (mG 20 0 0 0 0 0 0 0 0 0 0 0 nS nS nS (.slice bR ((L++[(dt.mk x.file x.record x.count x.words)]).length) bS) 0 0 0 0 0 nS) fun dl cC a3=>rh<|bn<|?_
 have bU:=u1 (aE.mono (S':=(ob Ar++(B :: []))) bT (am il av)) a3 im
 have b3:=aE.blk bU (bf (aB (au S) lr hJ.ho) (aa (Ne.symm a2) aA)) cz
 refine wU b3 fun dm cD a4=>?_
 have b4:=ut (aE.mono (S':=(I :: (ob Ar++(B :: [])))) Y (ac im av)) (ut (aE.mono (S':=(ob Ar++(B :: (I :: [])))) ar (am il av)) (us a3 a4) (ac im (ac im av))) (am il (ac im (ac im av)))
 have dn:=ut hJ.u (ut (aE.mono (S':=(I :: (ob Ar++(B :: [])))) aV (ac im av)) bU (am il (ac im av))) (ac im (am (aM hJ.ho lr) (ac im av)))
 have dp:=ut hJ.u (ut (aE.mono (S':=(I :: (ob Ar++[]))) Y (ac im av)) ar (am il av)) (ac im (am (aM hJ.ho lr) av))
 exact⟨by trivial,b4.size,bR,bS,⟨(ut hJ.u b4 (ac im (am (aM hJ.ho lr) (ac im av)))),(ap.updl (ap.upd (ap.upd (ap.updl hJ.hC Y (aa an aA) hJ.hl rfl) ar (bf (aB (ap.lt bG) lr hJ.ho) aA) (d7 (dB _ b0 (by decide)) aK)) a3 (aa bB aA) (ax (aY b2 (by decide)) aK)) a4 (aa an aA) b3 rfl),(aE.blk b4 (aa bE (bf (aB (au bJ) lr hJ.ho) (aa bD aA))) hJ.hS),(aZ a4 a2 cC),(aq (aq b1 a3 (fun x hx=>(aa (fun e=>(aB (au aR) lr b1) (e▸hx)) aA)) (bv.upd16 a3 (ax (aY b2 (by decide)) aK))) a4 (fun x hx=>(aa (fun e=>(aB (au S) lr b1) (e▸hx)) aA)) (bv.updl a4 b3 rfl)),cD⟩⟩
 rintro _ cF ⟨rfl,dq,bV,bW,q⟩
 refine⟨_,_,rfl,q.hl,by simp[ed],by trivial,fun dr bX=>?_⟩
 refine ab q.hC fun b5 bY cG=>?_
 have cH:cF.heap[B]? = some (.cells #[.int .u8 20,.int .u8 0,.int .u16 0,.int .u16 0,.int .u16 0,.int .u16 0,.int .u16 0,.int .u16 0,.int .u16 0,.int .u16 0,.int .u16 0,.int .u16 0,.slice none 0 0,.slice none 0 0,.slice none 0 0,.slice bV ((aU bH (ai.mk (x49.bytesR ((ai.mk b false 0).byteV)) false 0).l.length 0 (ai.mk (x49.bytesR ((ai.mk b false 0).byteV)) false 0) []).2.length) bW,.int .u8 0,.int .u8 0,.int .u8 0,.int .u8 0,.int .u8 0,.slice none 0 0] 30 (0,0)):=q.hm
 refine bn<|tn<|sg<|Pl 2<|?_
 have aw:=ap.updl cG bX (aa an aA) q.hl rfl
 refine L0<|Oc<|mq (bF aw)<|?_
 have ds:=ap.len aw
 refine Pl 2<|L0<|Oc<|mq (bF aw)<|?_
 have du:=ap.len aw
 refine L0<|Oc<|m1 (iz (e:=b5.e)) fun dv cI=>?_
 have F:=aG bX cI
 have bZ:=u1 q.u F im
 have b6:=nb (au G) af.size U
 have aC:=ud aI (uz d (u1 i j im)) U
 have b7:=ub (aG af aC) G
 have b9:=ap.upd aJ (ut (aE.mono (S':=[z]) ak av) (ut (aE.mono (S':=[O,z,B]) X av) bZ (ac im (ac im (ac im (ac (ni k.size E) av))))) (ac (nr P) (ac im (ac (ni g.size H) av)))) (aa (Ne.symm b6) aA) (ax (aY b7 (by decide)) aK)
 refine L0<|Oc<|m2 (bg ((b5.e==0)) (bq b5.e) b9) fun dw cJ T=>?_
 refine ab cJ fun c1 c2 ba=>?_
 refine ng<|Pl 1<|L0<|Oc<|m2 (cE ba) fun dx c3 a5=>nt<|sq<|sg<|Pl 1<|L0<|Oc<|mq (bF c3)<|?_
 have dz:=ap.len c3
 refine Pl 1<|ng<|Pl 2<|nt<|?_
 have a6:=u1 T a5 im
 have bb:=u1 (aE.mono (S':=[O,z,B,I,a1]) bZ (ac im (ac im (ac im (ac im av))))) a6 im
 have bc:=ut (aE.mono (S':=[z]) ao av) bb (ac (ni aC.size P) (ac im (ac (ni (le (le (le (le (le r.size o.size) d.size) i.size) j.size) g.size) H) (ac (ni (le (le (le (le (le (le (le (le r.size o.size) d.size) i.size) j.size) g.size) p.size) h.size) k.size) E) (ac (nr U) av)))))
 have c4:=ud bl bc (le ae.size Z)
 refine cb ((c1.endC.e != 0)) (fun a7=>?_) (fun a7=>?_)
 have bd:=az a7
 refine sg<|Pl 2<|?_
 have c5:=ub (ud a0 bc Z) K
 refine L0<|be c5 mZ fun dA cK a8=>Pl 1<|nt<|rt<|tr<|?_
 have c6:=nb (au K) (le (le (le (le (le (le (le (le (le (le (le N.size v.size) t.size) r.size) o.size) d.size) i.size) j.size) g.size) p.size) h.size) k.size) D
 have c7:=aE.blk (u1 (aE.mono (S':=[O,z,B,I,a1,ad]) bb (ac im (ac im (ac im (ac im (ac im av)))))) a8 im) (aa (Ne.symm (nb (ap.lt Q) (le (le p.size h.size) k.size) D)) (aa (Ne.symm (nb (au G) (le (le (le (le (le (le (le (le (le (le v.size t.size) r.size) o.size) d.size) i.size) j.size) g.size) p.size) h.size) k.size) D)) (aa (Ne.symm (nb (au V) (le h.size k.size) D)) (aa bA (aa (Ne.symm (nb (ap.lt M) (le (le (le (le (le (le (le o.size d.size) i.size) j.size) g.size) p.size) h.size) k.size) D)) (aa (Ne.symm c6) aA)))))) al
 refine vZ c7 fun dC aF=>?_
 refine rx (aZ aF c6 cK) (.int .i64 c1.endC.e)<|?_
 subst c2 bY bu br
 have c8:=us a8 aF
 have dD:=us F (us a6 c8)
 have dE:=us F (us a6 a8)
 have dG:=ub (ud a0 (ut (aE.mono (S':=[z]) ao av) q.u (ac (ni aC.size P) (ac im (ac (ni (le (le (le (le (le r.size o.size) d.size) i.size) j.size) g.size) H) (ac (ni (le (le (le (le (le (le (le (le r.size o.size) d.size) i.size) j.size) g.size) p.size) h.size) k.size) E) av))))) Z) K
 have dH:=ap.upd aJ (ut (aE.mono (S':=[z]) ak av) (ut (aE.mono (S':=[O,z,B]) X av) q.u (ac im (ac im (ac im (ac (ni k.size E) av))))) (ac (nr P) (ac im (ac (ni g.size H) av)))) (aa (Ne.symm b6) aA) (ax (aY b7 (by decide)) aK)
 have dI:=us F a6
 have dJ:=us F T
 have dK:=aq (aq (aq (aq (aq q.ho F (fun x hx=>(aa (fun e=>(aB (au S) lr q.ho) (e▸hx)) aA)) (bv.updl F q.hl rfl)) T (fun x hx=>(aa (fun e=>(aB (ap.lt M) (le (le (le (le (le (le (le (le o.size d.size) i.size) j.size) g.size) p.size) h.size) k.size) J.size) q.ho) (e▸hx)) aA)) (bv.upd16 T (ax (ap.safe b9 _ (by decide)) aK))) a5 (fun x hx=>(aa (fun e=>(aB (ap.lt M) (le (le (le (le (le (le (le (le o.size d.size) i.size) j.size) g.size) p.size) h.size) k.size) J.size) q.ho) (e▸hx)) aA)) (bv.upd16 a5 (ax (ap.safe ba _ (by decide)) aK))) a8 (fun x hx=>(aa (fun e=>(aB (au K) (le (le (le (le (le (le (le (le (le (le (le (le N.size v.size) t.size) r.size) o.size) d.size) i.size) j.size) g.size) p.size) h.size) k.size) J.size) q.ho) (e▸hx)) aA)) (bv.upd16 a8 (ax (aY c5 (by decide)) aK))) aF (fun x hx=>(aa (fun e=>(aB (au al) lr q.ho) (e▸hx)) aA)) (bv.updl aF c7 rfl)
 have hs:ag aW 1 20 b=aL (aQ.mk 20 0 0 0 0 0 0 0 0 0 0 0 [] [] [] (aU bH (ai.mk ((((ai.mk b false 0).bytesC 1).need (eB ((ai.mk b false 0).byteV)) 5).bytesR ((ai.mk b false 0).byteV)) false 0).l.length 0 (ai.mk ((((ai.mk b false 0).bytesC 1).need (eB ((ai.mk b false 0).byteV)) 5).bytesR ((ai.mk b false 0).byteV)) false 0) []).2 0 0 0 0 0 []) (((((ai.mk b false 0).bytesC 1).need (eB ((ai.mk b false 0).byteV)) 5).bytesC ((ai.mk b false 0).byteV)).need (((aU bH (ai.mk ((((ai.mk b false 0).bytesC 1).need (eB ((ai.mk b false 0).byteV)) 5).bytesR ((ai.mk b false 0).byteV)) false 0).l.length 0 (ai.mk ((((ai.mk b false 0).bytesC 1).need (eB ((ai.mk b false 0).byteV)) 5).bytesR ((ai.mk b false 0).byteV)) false 0) []).1).e==0) (bq ((aU bH (ai.mk ((((ai.mk b false 0).bytesC 1).need (eB ((ai.mk b false 0).byteV)) 5).bytesR ((ai.mk b false 0).byteV)) false 0).l.length 0 (ai.mk ((((ai.mk b false 0).bytesC 1).need (eB ((ai.mk b false 0).byteV)) 5).bytesR ((ai.mk b false 0).byteV)) false 0) []).1).e)):=by
   unfold ag aW dy mU qB j0
   (try simp only[a7,bs,if_true,if_false,decide_true,decide_false,eq_self,true_or,or_true,or_false,false_or,if_true,if_false,co,cm,cn,cv,reduceIte,mf,mb,lL])
   all_goals rfl
 rw[hs]
 exact bC bd (ut c4 c8 (ac (nr bi) (ac (ni (le (le (le (le (le (le (le (le (le (le (le (le ae.size N.size) v.size) t.size) r.size) o.size) d.size) i.size) j.size) g.size) p.size) h.size) k.size) D) av)))
 have bd:=aj a7
 refine bp<|sg<|?_
 have bh:=us F a6
 refine L0<|bP (aE.blk bh (aa a2 (aa (Ne.symm (nb (ap.lt M) (le (le (le (le o.size d.size) i.size) j.size) g.size) H)) aA)) cH)<|?_
 have c9:=ub (ud a0 bc Z) K
 refine L0<|be c9 (mG 20 0 0 0 0 0 0 0 0 0 0 0 nS nS nS (.slice bV ((aU bH (ai.mk (x49.bytesR ((ai.mk b false 0).byteV)) false 0).l.length 0 (ai.mk (x49.bytesR ((ai.mk b false 0).byteV)) false 0) []).2.length) bW) 0 0 0 0 0 nS) fun dL cL a9=>Pl 1<|nt<|rt<|?_
 have ca:=nb (au K) (le (le (le (le (le (le (le (le (le (le (le N.size v.size) t.size) r.size) o.size) d.size) i.size) j.size) g.size) p.size) h.size) k.size) D
 have cc:=aE.blk (u1 (aE.mono (S':=[O,z,B,I,a1,ad]) bb (ac im (ac im (ac im (ac im (ac im av)))))) a9 im) (aa (Ne.symm (nb (ap.lt Q) (le (le p.size h.size) k.size) D)) (aa (Ne.symm (nb (au G) (le (le (le (le (le (le (le (le (le (le v.size t.size) r.size) o.size) d.size) i.size) j.size) g.size) p.size) h.size) k.size) D)) (aa (Ne.symm (nb (au V) (le h.size k.size) D)) (aa bA (aa (Ne.symm (nb (ap.lt M) (le (le (le (le (le (le (le o.size d.size) i.size) j.size) g.size) p.size) h.size) k.size) D)) (aa (Ne.symm ca) aA)))))) al
 refine vZ cc fun dM aH=>?_
 refine rx (aZ aH ca cL) (.int .i64 0)<|?_
 subst c2 bY bu br
 have cd:=us a9 aH
 have dO:=ut (aE.mono (S':=[I,a1,ad,cu]) bh (ac im (ac im av))) cd (ac im (ac im av))
 have dP:=u1 (aE.mono (S':=[I,a1,ad]) bh (ac im (ac im av))) a9 im
 have dQ:=ub (ud a0 (ut (aE.mono (S':=[z]) ao av) q.u (ac (ni aC.size P) (ac im (ac (ni (le (le (le (le (le r.size o.size) d.size) i.size) j.size) g.size) H) (ac (ni (le (le (le (le (le (le (le (le r.size o.size) d.size) i.size) j.size) g.size) p.size) h.size) k.size) E) av))))) Z) K
 have dR:=ap.upd aJ (ut (aE.mono (S':=[z]) ak av) (ut (aE.mono (S':=[O,z,B]) X av) q.u (ac im (ac im (ac im (ac (ni k.size E) av))))) (ac (nr P) (ac im (ac (ni g.size H) av)))) (aa (Ne.symm b6) aA) (ax (aY b7 (by decide)) aK)
 have dS:=us F T
 have hs:ag aW 1 20 b=aL (aQ.mk 20 0 0 0 0 0 0 0 0 0 0 0 [] [] [] (aU bH (ai.mk ((((ai.mk b false 0).bytesC 1).need (eB ((ai.mk b false 0).byteV)) 5).bytesR ((ai.mk b false 0).byteV)) false 0).l.length 0 (ai.mk ((((ai.mk b false 0).bytesC 1).need (eB ((ai.mk b false 0).byteV)) 5).bytesR ((ai.mk b false 0).byteV)) false 0) []).2 0 0 0 0 0 []) (((((ai.mk b false 0).bytesC 1).need (eB ((ai.mk b false 0).byteV)) 5).bytesC ((ai.mk b false 0).byteV)).need (((aU bH (ai.mk ((((ai.mk b false 0).bytesC 1).need (eB ((ai.mk b false 0).byteV)) 5).bytesR ((ai.mk b false 0).byteV)) false 0).l.length 0 (ai.mk ((((ai.mk b false 0).bytesC 1).need (eB ((ai.mk b false 0).byteV)) 5).bytesR ((ai.mk b false 0).byteV)) false 0) []).1).e==0) (bq ((aU bH (ai.mk ((((ai.mk b false 0).bytesC 1).need (eB ((ai.mk b false 0).byteV)) 5).bytesR ((ai.mk b false 0).byteV)) false 0).l.length 0 (ai.mk ((((ai.mk b false 0).bytesC 1).need (eB ((ai.mk b false 0).byteV)) 5).bytesR ((ai.mk b false 0).byteV)) false 0) []).1).e)):=by
   unfold ag aW dy mU qB j0
   (try simp only[a7,bs,if_true,if_false,decide_true,decide_false,eq_self,true_or,or_true,or_false,false_or,if_true,if_false,co,cm,cn,cv,reduceIte,mf,mb,lL])
   all_goals rfl
 rw[hs]
 exact bI bd ⟨_,_,_,_,_,rfl,aS.nil ..,aS.nil ..,aS.nil ..,((aq (aq (aq (aq (aq q.ho F (fun x hx=>(aa (fun e=>(aB (au S) lr q.ho) (e▸hx)) aA)) (bv.updl F q.hl rfl)) T (fun x hx=>(aa (fun e=>(aB (ap.lt M) (le (le (le (le (le (le (le (le o.size d.size) i.size) j.size) g.size) p.size) h.size) k.size) J.size) q.ho) (e▸hx)) aA)) (bv.upd16 T (ax (ap.safe b9 _ (by decide)) aK))) a5 (fun x hx=>(aa (fun e=>(aB (ap.lt M) (le (le (le (le (le (le (le (le o.size d.size) i.size) j.size) g.size) p.size) h.size) k.size) J.size) q.ho) (e▸hx)) aA)) (bv.upd16 a5 (ax (ap.safe ba _ (by decide)) aK))) a9 (fun x hx=>(aa (fun e=>(aB (au K) (le (le (le (le (le (le (le (le (le (le (le (le N.size v.size) t.size) r.size) o.size) d.size) i.size) j.size) g.size) p.size) h.size) k.size) J.size) q.ho) (e▸hx)) aA)) (bv.upd16 a9 (ax (aY c9 (by decide)) aK))) aH (fun x hx=>(aa (fun e=>(aB (au al) lr q.ho) (e▸hx)) aA)) (bv.updl aH cc rfl))).rd,aS.nil ..,⟨(b8 (x:=20) (by omega)),(b8 (x:=0) (by omega)),(aD (x:=0) (by omega)),(aD (x:=0) (by omega)),(aD (x:=0) (by omega)),(aD (x:=0) (by omega)),(aD (x:=0) (by omega)),(aD (x:=0) (by omega)),(aD (x:=0) (by omega)),(aD (x:=0) (by omega)),(aD (x:=0) (by omega)),(aD (x:=0) (by omega)),(b8 (x:=0) (by omega)),(b8 (x:=0) (by omega)),(b8 (x:=0) (by omega)),(b8 (x:=0) (by omega)),(b8 (x:=0) (by omega))⟩⟩ (ut c4 cd (ac (nr bi) (ac (ni (le (le (le (le (le (le (le (le (le (le (le (le ae.size N.size) v.size) t.size) r.size) o.size) d.size) i.size) j.size) g.size) p.size) h.size) k.size) D) av)))
theorem lX{m:Md}{A:Option Addr}{cp:Nat}{b:List Int}{w:World}{dir:Int}(hd:dir=0∨dir=1)(hsl:bo m w (.slice A b.length cp) b)(hb:b.length≤1048576) :
    Calls Tryz.prog 144 #[.int .i64 dir,.int .u8 21,.slice A b.length cp] w (dY (ag aW dir 21 b) w):=by
 have hln:(b.length:Int)≤1048576:=by omega
 have aN:((dir != 0)&&(dir != 1))=false:=by rcases hd with rfl | rfl<;>rfl
 refine w9 77 Tryz.func144 rfl<|sg<|L0<|bQ mZ fun af cX br M ah=>Pl 1<|nt<|sq<|sg<|Pl 3<|cu 3 [18] 21 (((dir != 0)&&(dir != 1))) (fun K bt=>?_) ?_
 refine bl 18 ((dir != 0)) (fun a0=>?_) (fun a0=>?_)
 have cq:=az a0
 exact Pl 3<|ce bt (dir != 1) (by rw[a0];rfl)
 have cq:=aj a0
 exact Pl 3<|ce bt false (by rw[a0];rfl)
 refine nt<|cf aN<|bp<|sg<|Pl 2<|L0<|Oc (args:=#[.int .i64 dir,.int .u8 21])<|e3 u9 fun z cY a1 G O=>Pl 3<|L0<|bQ #[.nilFunc,.nilFunc] fun cZ d0 cs bu v=>L0<|be bu #[.func (.func 255) #[] #[],.func (.func 256) #[] #[]] fun d1 ct t=>Pl 1<|nl<|?_
 refine tn<|sq<|sg<|Pl 2<|nt<|c0<|bp<|sg<|Pl 1<|?_
 have ak:=ud v t cs
 have a2:=aG O ak
 have bw:=aG ah a2
 refine L0<|Oc<|e3 (ec (bo.old hsl bw) (by omega)) fun a3 d2 V N r=>Pl 1<|ng<|Pl 1<|L0<|Oc<|m3 (ch N) fun d3 cw o d4=>L0<|Oi ((ai.mk b false 0).byteV)<|Pl 1<|ng<|?_
 refine Pl 2<|?_
 have aO:=ud r o V
 have bx:=ub aO ct
 refine L0<|aP bx 0<|Pl 1<|L0<|gN #[] #[] (args:=#[.int .i64 ((ai.mk b false 0).byteV)])<|m1 (p6 (n:=(ai.mk b false 0).byteV) (by omega)) fun d5 d=>?_
 refine L0<|Oc<|m2 (bg ((eD ((ai.mk b false 0).byteV))) 5 (ap.old cw d)) fun d6 cy i=>?_
 refine ab cy fun x51 bz bA=>?_
 refine ng<|Pl 2<|L0<|Oc<|ri (cS (n:=(ai.mk b false 0).byteV) bA) fun d8 d9 da cz db dc cA j=>?_
 have dd:=Nat.le_trans (ai.bytesR_le x51 ((ai.mk b false 0).byteV)) (ap.len bA)
 refine ab cA fun x60 bB aR=>?_
 refine L0<|Oc<|e3 (ec cz (by omega)) fun P de Q S g=>Pl 1<|ng<|Pl 2<|L0<|bQ mZ fun B df H X p=>L0<|be X (mC 21) fun dg cB h=>nt<|sq<|sg<|?_
 refine Pl 2<|?_
 have al:=ud p h H
 have an:=aG g al
 have bD:=uz d (u1 i (aG j an) im)
 refine L0<|aP (aZ bD (nb (au bu) t.size V) bx) 1<|L0<|Oc<|v8 (kM (gb:=P) (f:=.func 256) (x:=#[]) (y:=#[])) fun cC cD dh aT aV di bE bG k=>nt<|bk<|?_
 refine oK (f:=257) #[.pointer (some ⟨cC,0,none⟩),.pointer (some ⟨cD,0,none⟩)] fun a ha=>?_
 intro dj cF I dk D E bH ao T J
 have bJ:=nb (ap.lt S) lr H
 have ar:=nb (ap.lt S) (le (le p.size h.size) k.size) E
 have bK:=nb (au G) (le (le (le (le (le (le (le v.size t.size) r.size) o.size) d.size) i.size) j.size) g.size) H
 have bL:=nb (au G) (le (le (le (le (le (le (le (le (le (le v.size t.size) r.size) o.size) d.size) i.size) j.size) g.size) p.size) h.size) k.size) E
 have a4:=nb (au X) (le h.size k.size) E
 have Y:=aG k J
 have bM:=ap.old S (aG al Y)
 have aw:=ud aO (aG bD Y) V
 have bN:=ub (aG ak aw) G
 have aX:=ub Y cB
 refine(vm (c:=21) bM bN aX T (ub J bE) (ub J bG) (Ne.symm (nb (au G) (le (le (le (le (le (le v.size t.size) r.size) o.size) d.size) i.size) j.size) Q)) bJ ar bK bL a4 (Ne.symm (nb (ap.lt S) al.size aT)) (Ne.symm (nb (au G) (le (le (le (le (le (le (le (le (le v.size t.size) r.size) o.size) d.size) i.size) j.size) g.size) p.size) h.size) aT)) (Ne.symm (nb (au X) h.size aT)) (nb (au bE) lr E) (Ne.symm (nb (ap.lt S) al.size aV)) (Ne.symm (nb (au G) (le (le (le (le (le (le (le (le (le v.size t.size) r.size) o.size) d.size) i.size) j.size) g.size) p.size) h.size) aV)) (Ne.symm (nb (au X) h.size aV)) (nb (au bG) lr E) ?_).mono ?_
 intro W C s L Ar cr x Ax cx hJ hrd hx1 hx2 hx3 hL
 simp only[dF] at hx1 hx2 hx3
 have hm2:W.heap[B]? = some (.cells #[.int .u8 21,.int .u8 0,.int .u16 0,.int .u16 0,.int .u16 0,.int .u16 0,.int .u16 0,.int .u16 0,.int .u16 0,.int .u16 0,.int .u16 0,.int .u16 0,.slice none 0 0,.slice none 0 0,.slice none 0 0,.slice Ar L.length cr,.int .u8 0,.int .u8 0,.int .u8 0,.int .u8 0,.int .u8 0,.slice none 0 0] 30 (0,0)):=hJ.hm
 refine km hJ.hl ?_
 refine xn ha 53<|vW<|ls<|bQ #[.int .u16 0,.int .u16 0,.int .u16 0,.slice none 0 0] fun dl dm bO cG bR=>ls<|be cG #[.int .u16 x.file,.int .u16 x.record,.int .u16 x.count,.slice Ax x.words.length cx] fun dn cH bS=>rh<|?_
 have bT:=ud bR bS bO
 refine wS (ub bT hJ.hl) (by trivial) fun dp cI b0=>xu<|vW<|w6<|?_
 have b1:=uz bT b0
 have bU:=aZ b1 a4 hm2
 refine ls<|aP bU 15<|?_
 refine ls<|bP (aZ b0 (Ne.symm (nb (au T) hJ.u.size bO)) cH)<|ls<|cO (m:=1) (e:=109) #[.int .u16 x.file,.int .u16 x.record,.int .u16 x.count,.slice Ax x.words.length cx] fun dq dr ds cJ b2=>?_
 have Z:=aG b1 b2
 have cK:=jO (R:=bv true) (x:=(dt.mk x.file x.record x.count x.words)) cJ rfl ⟨_,rfl,(dN.updl hrd Z hJ.hl rfl),aD (by omega),aD (by omega),aD (by omega)⟩
 have b3:=aq hJ.ho Z (fun x hx=>(aa (fun e=>(aB (au T) lr hJ.ho) (e▸hx)) aA)) (bv.updl Z hJ.hl rfl)
 refine ls<|gO (xs:=L) (ys:=([(dt.mk x.file x.record x.count x.words)])) (.agg #[.int .u16 0,.int .u16 0,.int .u16 0,.slice none 0 0]) 4 32 b3 cK (by simp) bv.ones (fun w' hv=>bv.upd16 hv (d7 (dB _ b3 (by decide)) aK)) (by(try simp only[List.length_append,List.length_cons,List.length_nil,ay]);omega) (le (le (le (le hJ.u.size bR.size) bS.size) b0.size) b2.size) fun bV bW du b4 aC=>w6<|?_
 have bX:=ut (aE.mono (S':=(ob Ar++[])) b2 av) aC (am il av)
 have b5:=aE.blk bX (bf (aB (au aX) lr hJ.ho) aA) bU
 refine ls<|cg b5 15 (mG 21 0 0 0 0 0 0 0 0 0 0 0 nS nS nS (.slice bV ((L++[(dt.mk x.file x.record x.count x.words)]).length) bW) 0 0 0 0 0 nS) fun dv cL a5=>rh<|bn<|?_
 have bY:=u1 (aE.mono (S':=(ob Ar++(B :: []))) bX (am il av)) a5 im
 have b6:=aE.blk bY (bf (aB (au T) lr hJ.ho) (aa (Ne.symm a4) aA)) cI
 refine wU b6 fun dw cM a6=>?_
 have b7:=ut (aE.mono (S':=(I :: (ob Ar++(B :: [])))) Z (ac im av)) (ut (aE.mono (S':=(ob Ar++(B :: (I :: [])))) aC (am il av)) (us a5 a6) (ac im (ac im av))) (am il (ac im (ac im av)))
 have dx:=ut hJ.u (ut (aE.mono (S':=(I :: (ob Ar++(B :: [])))) b1 (ac im av)) bY (am il (ac im av))) (ac im (am (aM hJ.ho lr) (ac im av)))
 have dz:=ut hJ.u (ut (aE.mono (S':=(I :: (ob Ar++[]))) Z (ac im av)) aC (am il av)) (ac im (am (aM hJ.ho lr) av))
 exact⟨by trivial,b7.size,bV,bW,⟨(ut hJ.u b7 (ac im (am (aM hJ.ho lr) (ac im av)))),(ap.updl (ap.upd (ap.upd (ap.updl hJ.hC Z (aa ar aA) hJ.hl rfl) aC (bf (aB (ap.lt bM) lr hJ.ho) aA) (d7 (dB _ b3 (by decide)) aK)) a5 (aa bJ aA) (ax (aY b5 (by decide)) aK)) a6 (aa ar aA) b6 rfl),(aE.blk b7 (aa bL (bf (aB (au bN) lr hJ.ho) (aa bK aA))) hJ.hS),(aZ a6 a4 cL),(aq (aq b4 a5 (fun x hx=>(aa (fun e=>(aB (au aX) lr b4) (e▸hx)) aA)) (bv.upd16 a5 (ax (aY b5 (by decide)) aK))) a6 (fun x hx=>(aa (fun e=>(aB (au T) lr b4) (e▸hx)) aA)) (bv.updl a6 b6 rfl)),cM⟩⟩
 rintro _ cN ⟨rfl,dA,bZ,c1,q⟩
 refine⟨_,_,rfl,q.hl,by simp[ed],by trivial,fun dC c2=>?_⟩
 refine ab q.hC fun b9 c3 cP=>?_
 have cQ:cN.heap[B]? = some (.cells #[.int .u8 21,.int .u8 0,.int .u16 0,.int .u16 0,.int .u16 0,.int .u16 0,.int .u16 0,.int .u16 0,.int .u16 0,.int .u16 0,.int .u16 0,.int .u16 0,.slice none 0 0,.slice none 0 0,.slice none 0 0,.slice bZ ((aU cV (ai.mk (x51.bytesR ((ai.mk b false 0).byteV)) false 0).l.length 0 (ai.mk (x51.bytesR ((ai.mk b false 0).byteV)) false 0) []).2.length) c1,.int .u8 0,.int .u8 0,.int .u8 0,.int .u8 0,.int .u8 0,.slice none 0 0] 30 (0,0)):=q.hm
 refine bn<|tn<|sg<|Pl 2<|?_
 have aF:=ap.updl cP c2 (aa ar aA) q.hl rfl
 refine L0<|Oc<|mq (bF aF)<|?_
 have dD:=ap.len aF
 refine Pl 2<|L0<|Oc<|mq (bF aF)<|?_
 have dE:=ap.len aF
 refine L0<|Oc<|m1 (iz (e:=b9.e)) fun dG cR=>?_
 have F:=aG c2 cR
 have c4:=u1 q.u F im
 have ba:=nb (au G) ak.size V
 have aH:=ud aO (uz d (u1 i j im)) V
 have bb:=ub (aG ak aH) G
 have bc:=ap.upd aR (ut (aE.mono (S':=[z]) an av) (ut (aE.mono (S':=[P,z,B]) Y av) c4 (ac im (ac im (ac im (ac (ni k.size E) av))))) (ac (nr Q) (ac im (ac (ni g.size H) av)))) (aa (Ne.symm ba) aA) (ax (aY bb (by decide)) aK)
 refine L0<|Oc<|m2 (bg ((b9.e==0)) (bq b9.e) bc) fun dH cT U=>?_
 refine ab cT fun c5 c6 bd=>?_
 refine ng<|Pl 1<|L0<|Oc<|m2 (cE bd) fun dI c7 a7=>nt<|sq<|sg<|Pl 1<|L0<|Oc<|mq (bF c7)<|?_
 have dJ:=ap.len c7
 refine Pl 1<|ng<|Pl 2<|nt<|?_
 have a8:=u1 U a7 im
 have bh:=u1 (aE.mono (S':=[P,z,B,I,a3]) c4 (ac im (ac im (ac im (ac im av))))) a8 im
 have bi:=ut (aE.mono (S':=[z]) aw av) bh (ac (ni aH.size Q) (ac im (ac (ni (le (le (le (le (le r.size o.size) d.size) i.size) j.size) g.size) H) (ac (ni (le (le (le (le (le (le (le (le r.size o.size) d.size) i.size) j.size) g.size) p.size) h.size) k.size) E) (ac (nr V) av)))))
 have c8:=ud bw bi (le ah.size a1)
 refine cb ((c5.endC.e != 0)) (fun a9=>?_) (fun a9=>?_)
 have bj:=az a9
 refine sg<|Pl 2<|?_
 have c9:=ub (ud a2 bi a1) M
 refine L0<|be c9 mZ fun dK cU ad=>Pl 1<|nt<|rt<|tr<|?_
 have ca:=nb (au M) (le (le (le (le (le (le (le (le (le (le (le O.size v.size) t.size) r.size) o.size) d.size) i.size) j.size) g.size) p.size) h.size) k.size) D
 have cc:=aE.blk (u1 (aE.mono (S':=[P,z,B,I,a3,af]) bh (ac im (ac im (ac im (ac im (ac im av)))))) ad im) (aa (Ne.symm (nb (ap.lt S) (le (le p.size h.size) k.size) D)) (aa (Ne.symm (nb (au G) (le (le (le (le (le (le (le (le (le (le v.size t.size) r.size) o.size) d.size) i.size) j.size) g.size) p.size) h.size) k.size) D)) (aa (Ne.symm (nb (au X) (le h.size k.size) D)) (aa bH (aa (Ne.symm (nb (ap.lt N) (le (le (le (le (le (le (le o.size d.size) i.size) j.size) g.size) p.size) h.size) k.size) D)) (aa (Ne.symm ca) aA)))))) ao
 refine vZ cc fun dL aI=>?_
 refine rx (aZ aI ca cU) (.int .i64 c5.endC.e)<|?_
 subst c6 c3 bB bz
 have cd:=us ad aI
 have dM:=us F (us a8 cd)
 have dO:=us F (us a8 ad)
 have dP:=ub (ud a2 (ut (aE.mono (S':=[z]) aw av) q.u (ac (ni aH.size Q) (ac im (ac (ni (le (le (le (le (le r.size o.size) d.size) i.size) j.size) g.size) H) (ac (ni (le (le (le (le (le (le (le (le r.size o.size) d.size) i.size) j.size) g.size) p.size) h.size) k.size) E) av))))) a1) M
 have dQ:=ap.upd aR (ut (aE.mono (S':=[z]) an av) (ut (aE.mono (S':=[P,z,B]) Y av) q.u (ac im (ac im (ac im (ac (ni k.size E) av))))) (ac (nr Q) (ac im (ac (ni g.size H) av)))) (aa (Ne.symm ba) aA) (ax (aY bb (by decide)) aK)
 have dR:=us F a8
 have dS:=us F U
 have dT:=aq (aq (aq (aq (aq q.ho F (fun x hx=>(aa (fun e=>(aB (au T) lr q.ho) (e▸hx)) aA)) (bv.updl F q.hl rfl)) U (fun x hx=>(aa (fun e=>(aB (ap.lt N) (le (le (le (le (le (le (le (le o.size d.size) i.size) j.size) g.size) p.size) h.size) k.size) J.size) q.ho) (e▸hx)) aA)) (bv.upd16 U (ax (ap.safe bc _ (by decide)) aK))) a7 (fun x hx=>(aa (fun e=>(aB (ap.lt N) (le (le (le (le (le (le (le (le o.size d.size) i.size) j.size) g.size) p.size) h.size) k.size) J.size) q.ho) (e▸hx)) aA)) (bv.upd16 a7 (ax (ap.safe bd _ (by decide)) aK))) ad (fun x hx=>(aa (fun e=>(aB (au M) (le (le (le (le (le (le (le (le (le (le (le (le O.size v.size) t.size) r.size) o.size) d.size) i.size) j.size) g.size) p.size) h.size) k.size) J.size) q.ho) (e▸hx)) aA)) (bv.upd16 ad (ax (aY c9 (by decide)) aK))) aI (fun x hx=>(aa (fun e=>(aB (au ao) lr q.ho) (e▸hx)) aA)) (bv.updl aI cc rfl)
 have hs:ag aW dir 21 b=aL (aQ.mk 21 0 0 0 0 0 0 0 0 0 0 0 [] [] [] (aU cV (ai.mk ((((ai.mk b false 0).bytesC 1).need (eD ((ai.mk b false 0).byteV)) 5).bytesR ((ai.mk b false 0).byteV)) false 0).l.length 0 (ai.mk ((((ai.mk b false 0).bytesC 1).need (eD ((ai.mk b false 0).byteV)) 5).bytesR ((ai.mk b false 0).byteV)) false 0) []).2 0 0 0 0 0 []) (((((ai.mk b false 0).bytesC 1).need (eD ((ai.mk b false 0).byteV)) 5).bytesC ((ai.mk b false 0).byteV)).need (((aU cV (ai.mk ((((ai.mk b false 0).bytesC 1).need (eD ((ai.mk b false 0).byteV)) 5).bytesR ((ai.mk b false 0).byteV)) false 0).l.length 0 (ai.mk ((((ai.mk b false 0).bytesC 1).need (eD ((ai.mk b false 0).byteV)) 5).bytesR ((ai.mk b false 0).byteV)) false 0) []).1).e==0) (bq ((aU cV (ai.mk ((((ai.mk b false 0).bytesC 1).need (eD ((ai.mk b false 0).byteV)) 5).bytesR ((ai.mk b false 0).byteV)) false 0).l.length 0 (ai.mk ((((ai.mk b false 0).bytesC 1).need (eD ((ai.mk b false 0).byteV)) 5).bytesR ((ai.mk b false 0).byteV)) false 0) []).1).e)):=by
   unfold ag aW dy mU qB j0
   (try simp only[aN,a9,bs,if_true,if_false,decide_true,decide_false,eq_self,true_or,or_true,or_false,false_or,if_true,if_false,co,cm,cn,cv,reduceIte,mf,mb,lL,if_pos hd])
   all_goals rfl
 rw[hs]
 exact bC bj (ut c8 cd (ac (nr br) (ac (ni (le (le (le (le (le (le (le (le (le (le (le (le ah.size O.size) v.size) t.size) r.size) o.size) d.size) i.size) j.size) g.size) p.size) h.size) k.size) D) av)))
 have bj:=aj a9
 refine bp<|sg<|?_
 have bm:=us F a8
 refine L0<|bP (aE.blk bm (aa a4 (aa (Ne.symm (nb (ap.lt N) (le (le (le (le o.size d.size) i.size) j.size) g.size) H)) aA)) cQ)<|?_
 have ci:=ub (ud a2 bi a1) M
 refine L0<|be ci (mG 21 0 0 0 0 0 0 0 0 0 0 0 nS nS nS (.slice bZ ((aU cV (ai.mk (x51.bytesR ((ai.mk b false 0).byteV)) false 0).l.length 0 (ai.mk (x51.bytesR ((ai.mk b false 0).byteV)) false 0) []).2.length) c1) 0 0 0 0 0 nS) fun dU cW ae=>Pl 1<|nt<|rt<|?_
 have cj:=nb (au M) (le (le (le (le (le (le (le (le (le (le (le O.size v.size) t.size) r.size) o.size) d.size) i.size) j.size) g.size) p.size) h.size) k.size) D
 have ck:=aE.blk (u1 (aE.mono (S':=[P,z,B,I,a3,af]) bh (ac im (ac im (ac im (ac im (ac im av)))))) ae im) (aa (Ne.symm (nb (ap.lt S) (le (le p.size h.size) k.size) D)) (aa (Ne.symm (nb (au G) (le (le (le (le (le (le (le (le (le (le v.size t.size) r.size) o.size) d.size) i.size) j.size) g.size) p.size) h.size) k.size) D)) (aa (Ne.symm (nb (au X) (le h.size k.size) D)) (aa bH (aa (Ne.symm (nb (ap.lt N) (le (le (le (le (le (le (le o.size d.size) i.size) j.size) g.size) p.size) h.size) k.size) D)) (aa (Ne.symm cj) aA)))))) ao
 refine vZ ck fun dV aJ=>?_
 refine rx (aZ aJ cj cW) (.int .i64 0)<|?_
 subst c6 c3 bB bz
 have cl:=us ae aJ
 have dW:=ut (aE.mono (S':=[I,a3,af,cF]) bm (ac im (ac im av))) cl (ac im (ac im av))
 have dX:=u1 (aE.mono (S':=[I,a3,af]) bm (ac im (ac im av))) ae im
 have dZ:=ub (ud a2 (ut (aE.mono (S':=[z]) aw av) q.u (ac (ni aH.size Q) (ac im (ac (ni (le (le (le (le (le r.size o.size) d.size) i.size) j.size) g.size) H) (ac (ni (le (le (le (le (le (le (le (le r.size o.size) d.size) i.size) j.size) g.size) p.size) h.size) k.size) E) av))))) a1) M
 have e0:=ap.upd aR (ut (aE.mono (S':=[z]) an av) (ut (aE.mono (S':=[P,z,B]) Y av) q.u (ac im (ac im (ac im (ac (ni k.size E) av))))) (ac (nr Q) (ac im (ac (ni g.size H) av)))) (aa (Ne.symm ba) aA) (ax (aY bb (by decide)) aK)
 have e1:=us F U
 have hs:ag aW dir 21 b=aL (aQ.mk 21 0 0 0 0 0 0 0 0 0 0 0 [] [] [] (aU cV (ai.mk ((((ai.mk b false 0).bytesC 1).need (eD ((ai.mk b false 0).byteV)) 5).bytesR ((ai.mk b false 0).byteV)) false 0).l.length 0 (ai.mk ((((ai.mk b false 0).bytesC 1).need (eD ((ai.mk b false 0).byteV)) 5).bytesR ((ai.mk b false 0).byteV)) false 0) []).2 0 0 0 0 0 []) (((((ai.mk b false 0).bytesC 1).need (eD ((ai.mk b false 0).byteV)) 5).bytesC ((ai.mk b false 0).byteV)).need (((aU cV (ai.mk ((((ai.mk b false 0).bytesC 1).need (eD ((ai.mk b false 0).byteV)) 5).bytesR ((ai.mk b false 0).byteV)) false 0).l.length 0 (ai.mk ((((ai.mk b false 0).bytesC 1).need (eD ((ai.mk b false 0).byteV)) 5).bytesR ((ai.mk b false 0).byteV)) false 0) []).1).e==0) (bq ((aU cV (ai.mk ((((ai.mk b false 0).bytesC 1).need (eD ((ai.mk b false 0).byteV)) 5).bytesR ((ai.mk b false 0).byteV)) false 0).l.length 0 (ai.mk ((((ai.mk b false 0).bytesC 1).need (eD ((ai.mk b false 0).byteV)) 5).bytesR ((ai.mk b false 0).byteV)) false 0) []).1).e)):=by
   unfold ag aW dy mU qB j0
   (try simp only[aN,a9,bs,if_true,if_false,decide_true,decide_false,eq_self,true_or,or_true,or_false,false_or,if_true,if_false,co,cm,cn,cv,reduceIte,mf,mb,lL,if_pos hd])
   all_goals rfl
 rw[hs]
 exact bI bj ⟨_,_,_,_,_,rfl,aS.nil ..,aS.nil ..,aS.nil ..,((aq (aq (aq (aq (aq q.ho F (fun x hx=>(aa (fun e=>(aB (au T) lr q.ho) (e▸hx)) aA)) (bv.updl F q.hl rfl)) U (fun x hx=>(aa (fun e=>(aB (ap.lt N) (le (le (le (le (le (le (le (le o.size d.size) i.size) j.size) g.size) p.size) h.size) k.size) J.size) q.ho) (e▸hx)) aA)) (bv.upd16 U (ax (ap.safe bc _ (by decide)) aK))) a7 (fun x hx=>(aa (fun e=>(aB (ap.lt N) (le (le (le (le (le (le (le (le o.size d.size) i.size) j.size) g.size) p.size) h.size) k.size) J.size) q.ho) (e▸hx)) aA)) (bv.upd16 a7 (ax (ap.safe bd _ (by decide)) aK))) ae (fun x hx=>(aa (fun e=>(aB (au M) (le (le (le (le (le (le (le (le (le (le (le (le O.size v.size) t.size) r.size) o.size) d.size) i.size) j.size) g.size) p.size) h.size) k.size) J.size) q.ho) (e▸hx)) aA)) (bv.upd16 ae (ax (aY ci (by decide)) aK))) aJ (fun x hx=>(aa (fun e=>(aB (au ao) lr q.ho) (e▸hx)) aA)) (bv.updl aJ ck rfl))).rd,aS.nil ..,⟨(b8 (x:=21) (by omega)),(b8 (x:=0) (by omega)),(aD (x:=0) (by omega)),(aD (x:=0) (by omega)),(aD (x:=0) (by omega)),(aD (x:=0) (by omega)),(aD (x:=0) (by omega)),(aD (x:=0) (by omega)),(aD (x:=0) (by omega)),(aD (x:=0) (by omega)),(aD (x:=0) (by omega)),(aD (x:=0) (by omega)),(b8 (x:=0) (by omega)),(b8 (x:=0) (by omega)),(b8 (x:=0) (by omega)),(b8 (x:=0) (by omega)),(b8 (x:=0) (by omega))⟩⟩ (ut c8 cl (ac (nr br) (ac (ni (le (le (le (le (le (le (le (le (le (le (le (le ah.size O.size) v.size) t.size) r.size) o.size) d.size) i.size) j.size) g.size) p.size) h.size) k.size) D) av)))
theorem qk{A:Option Addr}{cp:Nat}{b:List Int}{w:World}{c:Int}(n1:(c==20)=false)(n2:(c==21)=false) : Calls Tryz.prog 144 #[.int .i64 0,.int .u8 c,.slice A b.length cp] w (dY (ag aW 0 c b) w):=by
 refine w9 77 Tryz.func144 rfl<|sg<|L0<|bQ mZ fun n o d e f=>Pl 1<|nt<|sq<|sg<|Pl 6<|nt<|c0<|?_
 refine bp<|sg<|Pl 2<|L0<|Oc (args:=#[.int .i64 0,.int .u8 c])<|m1 (o8 (dir:=0) (x:=c) n1 n2) fun p g=>Pl 3<|L0<|bQ #[.nilFunc,.nilFunc] fun q r h i j=>L0<|be i #[.nilFunc,.nilFunc] fun s t k=>Pl 1<|nt<|sq<|sq<|?_
 refine go<|Pl 2<|nt<|c1<|sg<|Pl 1<|?_
 have a:=aG g (ud j k h)
 refine L0<|be (ub a e) mZ fun u l m=>Pl 1<|nt<|rt<|tr<|ry l (.int .i64 4)<|?_
 have hs:ag aW 0 c b=(aQ.zero,4):=by
   unfold ag aW
   (try simp only[bs,if_true,if_false,decide_true,decide_false,eq_self,true_or,or_true,or_false,false_or,if_true,if_false,co,cm,cn,cv,reduceIte,n1,n2])
   all_goals rfl
 rw[hs]
 exact cQ (ud f (uz a m) d)
theorem pQ{A:Option Addr}{cp:Nat}{b:List Int}{w:World}{c:Int}(n1:(c==20)=false)(n2:(c==21)=false) : Calls Tryz.prog 144 #[.int .i64 1,.int .u8 c,.slice A b.length cp] w (dY (ag aW 1 c b) w):=by
 refine w9 77 Tryz.func144 rfl<|sg<|L0<|bQ mZ fun n o d e f=>Pl 1<|nt<|sq<|sg<|Pl 6<|nt<|c0<|?_
 refine bp<|sg<|Pl 2<|L0<|Oc (args:=#[.int .i64 1,.int .u8 c])<|m1 (o8 (dir:=1) (x:=c) n1 n2) fun p g=>Pl 3<|L0<|bQ #[.nilFunc,.nilFunc] fun q r h i j=>L0<|be i #[.nilFunc,.nilFunc] fun s t k=>Pl 1<|nt<|sq<|sq<|?_
 refine go<|Pl 2<|nt<|c1<|sg<|Pl 1<|?_
 have a:=aG g (ud j k h)
 refine L0<|be (ub a e) mZ fun u l m=>Pl 1<|nt<|rt<|tr<|ry l (.int .i64 4)<|?_
 have hs:ag aW 1 c b=(aQ.zero,4):=by
   unfold ag aW
   (try simp only[bs,if_true,if_false,decide_true,decide_false,eq_self,true_or,or_true,or_false,false_or,if_true,if_false,co,cm,cn,cv,reduceIte,n1,n2])
   all_goals rfl
 rw[hs]
 exact cQ (ud f (uz a m) d)
theorem pN{A:Option Addr}{cp:Nat}{b:List Int}{w:World}{dir c:Int}(hd:¬ (dir=0∨dir=1)) : Calls Tryz.prog 144 #[.int .i64 dir,.int .u8 c,.slice A b.length cp] w (dY (ag aW dir c b) w):=by
 have e0:(dir != 0)=true:=by simp;omega
 have e1:(dir != 1)=true:=by simp;omega
 refine w9 77 Tryz.func144 rfl<|sg<|L0<|bQ mZ fun g h a d e=>Pl 1<|nt<|sq<|sg<|Pl 3<|sy 18 e0<|Pl 3<|nl<|?_
 refine tn<|ct e1<|sg<|Pl 1<|L0<|be d mZ fun i dF f=>Pl 1<|nt<|rt<|tr<|ry dF (.int .i64 1)<|?_
 have hs:ag aW dir c b=(aQ.zero,1):=by
   unfold ag aW
   (try simp only[e0,e1,bs,if_true,if_false,decide_true,decide_false,eq_self,true_or,or_true,or_false,false_or,if_true,if_false,co,cm,cn,cv,reduceIte,hd])
   all_goals rfl
 rw[hs]
 exact cQ (ud e f a)
theorem jE{m:Md}{v:Value}{b:List Int}{w:World}{dir c:Int}(hc:B8 c)(h:bo m w v b)(hb:b.length≤1048576) :
    Calls Tryz.prog 144 #[.int .i64 dir,.int .u8 c,v] w (dY (ag aW dir c b) w):=by
  obtain⟨A,cp,rfl,_,_⟩:=h.shape
  by_cases h0:dir=0
  · subst h0
    by_cases a:c=20
    · subst a;exact nn (Or.inl (rfl:(0:Int)=0)) h hb
    by_cases d:c=21
    · subst d;exact lX (Or.inl rfl) h hb
    exact qk (by simpa using a) (by simpa using d)
  by_cases h1:dir=1
  · subst h1
    by_cases a:c=20
    · subst a;exact nK (Or.inl (rfl:(0:Int)=0)) h hb
    by_cases d:c=21
    · subst d;exact lX (Or.inr rfl) h hb
    exact pQ (by simpa using a) (by simpa using d)
  exact pN (by omega)
open Go.RowKit
def dZ (res:Option (List Int))(w:World)(e:Ending)(w':World) : Prop :=
  match res with
  | some l=>∃ v,e = .returned (.tuple #[v,.int .i64 0])∧eY w.heap.size w' v l∧aE [] w w'
  | none=>e = .returned (.tuple #[.slice none 0 0,.int .i64 1])∧aE [] w w'
def bj (parse:Int→Int→List Int→aQ × Int)(lay:Int→aQ→List Int)(dir:Int)(M:aQ) : Option (List Int) :=
  if parse dir M.code (lay dir M)=(M,0) then some (lay dir M) else none
def fG:=ag aC
def gw:=ag aH
def gh:=ag aR
def gX:=ag bz
def fF:=ag aW
open Go.RowKit
def jM (M:aQ) : Option (List Int):=if !(fe M.code M.fail) then none else if !(decide (M=fU M.code M.fail)) then none else some [(M.code+128)%256,M.fail]
theorem ej{x y:Option (List Int)}(h:x=y){w:World}{e:Ending}{w':World}(k:dZ y w e w') : dZ x w e w':=by rw[h];exact k
theorem lT{m:Md}{cs:Array Value}{M:aQ}{w:World}(h:aO m w cs.toList M) : Calls Tryz.prog 100 #[.agg cs] w (dZ (jM M) w):=by
 have hM:=h
 obtain⟨vw,vb,vd,vr,vo,h0,hw,hbt,hd,hr,ho,hR⟩:=h
 obtain rfl:cs=(bu M vw vb vd vr vo).toArray:=by apply Array.toList_inj.1;simpa using h0
 clear h0
 obtain⟨Aw,kw,rfl,_,_⟩:=hw.shape
 obtain⟨Ab,kb,rfl,_,_⟩:=hbt.shape
 obtain⟨Ad,kd,rfl,_,_⟩:=hd.shape
 obtain⟨Ar,kr,rfl,_,_⟩:=hr.shape
 obtain⟨Ao,ko,rfl,_,_⟩:=ho.shape
 obtain⟨q0,q1,q2,q3,q4,q5,q6,q7,q8,q9,I,J,K,L,N,O,P⟩:=hR
 simp only[B8,dF] at q0 q1 q2 q3 q4 q5 q6 q7 q8 q9 I J K L N O P
 refine en 26 Tryz.func100 rfl<|sg<|L0<|dC (mG M.code M.fail M.addr M.count M.value M.and_ M.or_ M.addr2 M.sub M.status M.events M.messages (.slice Aw M.words.length kw) (.slice Ab M.bits.length kb) (.slice Ad M.data.length kd) (.slice Ar M.recs.length kr) M.mei M.kind M.level M.more M.next (.slice Ao M.objects.length ko)) fun s a3 a4 k Q=>Pl 2<|ng<|Pl 1<|L0<|aP k 0<|Pl 1<|L0<|aP k 1<|Pl 1<|L0<|bQ #[.int .u8 0,.int .u8 0] fun l a5 R S T=>?_
 refine L0<|be S #[.int .u8 M.code,.int .u8 M.fail] fun a6 U V=>nt<|sq<|sq<|Rg 10 (fun w'=>w'.heap[l]? = some (.cells #[.int .u8 M.code,.int .u8 M.fail] 154 (0,0))∧w'.heap[s]? = some (.cells (mG M.code M.fail M.addr M.count M.value M.and_ M.or_ M.addr2 M.sub M.status M.events M.messages (.slice Aw M.words.length kw) (.slice Ab M.bits.length kb) (.slice Ad M.data.length kd) (.slice Ar M.recs.length kr) M.mei M.kind M.level M.more M.next (.slice Ao M.objects.length ko)) 30 (0,0))) fun a7 t=>?_
 have u:=ub t U
 have v:=ud T (aG V t) R
 have y:=ub v k
 refine bi ⟨u,y⟩ fun W=>Rr 0 W (.agg #[.int .u8 M.code,.int .u8 M.fail]) (fun w' hs=>o3 (g:=l) (off:=0) [.int .u8 M.code,.int .u8 M.fail] rfl (by kernel_rfl) hs.1 (by kernel_rfl) (by kernel_rfl) rfl)<|R0 1 rfl<|Oc<|m1 (qn (a:=M.code) (b:=M.fail) (w:=_)) fun a8 n=>?_
 have z:=ub n u
 have C:=ub n y
 refine bi ⟨z,C⟩ fun c=>Rt 2 c<|Rt 3 c<|?_
 have D:=aG Q (aG v n)
 refine rj 13 ((!(fe M.code M.fail))) (fun d=>?_) (fun d=>?_)
 have j:(fe M.code M.fail)=false:=by simpa using d
 refine Ro 4 c<|Ro 5 c<|Ro 6 c<|Ro 7 c<|Ro 8 c<|Rt 9 c<|re<|tn<|c1<|sg<|Pl 2<|nt<|?_
 refine rt<|tr<|rr (.tuple #[.slice none 0 0,.int .i64 1])<|?_
 have hs:jM M=none:=by
   unfold jM
   (try simp only[d,j,bs,if_true,if_false,decide_true,decide_false,reduceIte])
   all_goals rfl
 refine ej hs ?_
 exact⟨rfl,D⟩
 have j:(fe M.code M.fail)=true:=by simpa using d
 refine Rr 4 c (.agg (mG M.code M.fail M.addr M.count M.value M.and_ M.or_ M.addr2 M.sub M.status M.events M.messages (.slice Aw M.words.length kw) (.slice Ab M.bits.length kb) (.slice Ad M.data.length kd) (.slice Ar M.recs.length kr) M.mei M.kind M.level M.more M.next (.slice Ao M.objects.length ko))) (fun w' hs=>o3 (g:=s) (off:=0) [.int .u8 M.code,.int .u8 M.fail,.int .u16 M.addr,.int .u16 M.count,.int .u16 M.value,.int .u16 M.and_,.int .u16 M.or_,.int .u16 M.addr2,.int .u16 M.sub,.int .u16 M.status,.int .u16 M.events,.int .u16 M.messages,.slice Aw M.words.length kw,.slice Ab M.bits.length kb,.slice Ad M.data.length kd,.slice Ar M.recs.length kr,.int .u8 M.mei,.int .u8 M.kind,.int .u8 M.level,.int .u8 M.more,.int .u8 M.next,.slice Ao M.objects.length ko] rfl (by kernel_rfl) hs.2 (by kernel_rfl) (by kernel_rfl) rfl)<|Rr 5 c (.agg #[.int .u8 M.code,.int .u8 M.fail]) (fun w' hs=>o3 (g:=l) (off:=0) [.int .u8 M.code,.int .u8 M.fail] rfl (by kernel_rfl) hs.1 (by kernel_rfl) (by kernel_rfl) rfl)<|R0 6 rfl<|Oc<|m1 (kG (a:=M.code) (b:=M.fail) (w:=_)) fun a9 o=>?_
 have E:=ub o z
 have F:=ub o C
 refine bi ⟨E,F⟩ fun aa=>?_
 have G:=aG D o
 refine R0 7 rfl<|Oc<|m1 (ga (A:=M) (B:=fU M.code M.fail) (aO.old hM G) (show aO true _ _ _ from⟨_,_,_,_,_,rfl,aS.nil ..,aS.nil ..,aS.nil ..,aS.nil ..,aS.nil ..,⟨(b8 (x:=M.code) (by omega)),(b8 (x:=M.fail) (by omega)),(aD (x:=0) (by omega)),(aD (x:=0) (by omega)),(aD (x:=0) (by omega)),(aD (x:=0) (by omega)),(aD (x:=0) (by omega)),(aD (x:=0) (by omega)),(aD (x:=0) (by omega)),(aD (x:=0) (by omega)),(aD (x:=0) (by omega)),(aD (x:=0) (by omega)),(b8 (x:=0) (by omega)),(b8 (x:=0) (by omega)),(b8 (x:=0) (by omega)),(b8 (x:=0) (by omega)),(b8 (x:=0) (by omega))⟩⟩)) fun ab p=>?_
 have q:=ub p F
 refine bi ⟨(ub p E),q⟩ fun H=>Rt 8 H<|Rt 9 H<|re<|tn<|?_
 have r:=aG G p
 refine cb ((!(decide (M=fU M.code M.fail)))) (fun f=>?_) (fun f=>?_)
 have i:(decide (M=fU M.code M.fail))=false:=by simpa using f
 have X:=of_decide_eq_false i
 refine sg<|Pl 2<|nt<|rt<|tr<|rr (.tuple #[.slice none 0 0,.int .i64 1])<|?_
 have hs:jM M=none:=by
   unfold jM
   (try simp only[d,j,f,i,bs,if_true,if_false,decide_true,decide_false,reduceIte])
   all_goals rfl
 refine ej hs ?_
 exact⟨rfl,r⟩
 have i:(decide (M=fU M.code M.fail))=true:=by simpa using f
 have X:=of_decide_eq_true i
 refine bp<|sg<|Pl 1<|L0<|aP q 0<|Pl 2<|L0<|aP q 1<|L0<|cO (m:=2) (e:=5) #[.int .u8 ((M.code+128)%256),.int .u8 M.fail] fun Y ac Z a0 a1=>?_
 have a2:=cN Z (xs:=[((M.code+128)%256),M.fail]) (by as_aux_lemma=>kernel_rfl) (al (by omega) (al (by omega) aJ)) (by(try simp only[List.length_cons,List.length_nil]);omega) a0
 refine Pl 2<|nt<|rt<|rr (.tuple #[.slice (some ⟨Y,0,none⟩) 2 2,.int .i64 0])<|?_
 have hs:jM M=(some [((M.code+128)%256),M.fail]):=by
   unfold jM
   (try simp only[d,j,f,i,bs,if_true,if_false,decide_true,decide_false,reduceIte])
   all_goals rfl
 refine ej hs ?_
 exact⟨_,rfl,(aV.weaken a2 r.size),(aG r a1)⟩
open Go.RowKit
def bK (dir:Int)(M:aQ) : List Int :=
  if (!(dir==0))&&(M.code==3 || M.code==4 || M.code==23) then [(2*(M.words.length:Int))%256]++aF M.words
  else if M.code==6 then aF [M.addr,M.value]
  else if M.code==22 then aF [M.addr,M.and_,M.or_]
  else if M.code==16&&dir==0 then ((aF [M.addr,M.count]++[(2*(M.words.length:Int))%256])++aF M.words)
  else if M.code==23 then ((aF [M.addr,M.count,M.addr2,(M.words.length:Int)%65536]++[(2*(M.words.length:Int))%256])++aF M.words)
  else if M.code==24&&dir==0 then aF [M.addr]
  else if M.code==24 then aF [(2+2*(M.words.length:Int))%65536,(M.words.length:Int)%65536]++aF M.words
  else aF [M.addr,M.count]
theorem ox{m:Md}{cs:Array Value}{M:aQ}{w:World}{dir:Int}(h:aO m w cs.toList M)(hf:bU M)(hd0:(dir==0)=true) : Calls Tryz.prog 205 #[.int .i64 dir,.agg cs] w (fy (bK dir M) w):=by
 obtain⟨vw,vb,vd,vr,vo,h0,hw,hbt,hd,hr,ho,hR⟩:=h
 obtain rfl:cs=(bu M vw vb vd vr vo).toArray:=by apply Array.toList_inj.1;simpa using h0
 clear h0
 obtain⟨Aw,kw,rfl,_,_⟩:=hw.shape
 obtain⟨Ab,kb,rfl,_,_⟩:=hbt.shape
 obtain⟨Ad,kd,rfl,_,_⟩:=hd.shape
 obtain⟨Ar,kr,rfl,_,_⟩:=hr.shape
 obtain⟨Ao,ko,rfl,_,_⟩:=ho.shape
 obtain⟨q0,q1,q2,q3,q4,q5,q6,q7,q8,q9,X,Y,Z,a0,a1,a2,a3⟩:=hR
 simp only[B8,dF] at q0 q1 q2 q3 q4 q5 q6 q7 q8 q9 X Y Z a0 a1 a2 a3
 have hf1:=hf.words
 have hf2:=hf.bits
 have hf3:=hf.data
 have hf4:=hf.recs
 have hf5:=hf.objects
 refine en 124 Tryz.func205 rfl<|sg<|L0<|dC (mG M.code M.fail M.addr M.count M.value M.and_ M.or_ M.addr2 M.sub M.status M.events M.messages (.slice Aw M.words.length kw) (.slice Ab M.bits.length kb) (.slice Ad M.data.length kd) (.slice Ar M.recs.length kr) M.mei M.kind M.level M.more M.next (.slice Ao M.objects.length ko)) fun bd be bf y i=>Pl 1<|ng<|Pl 1<|L0<|aP y 12<|Pl 2<|nt<|?_
 refine sg<|Pl 1<|L0<|Oi (2*((M.words.length:Nat) : Int))<|Pl 1<|L0<|cO (m:=1) (e:=5) #[.int .u8 ((2*((M.words.length:Nat) : Int))%256)] fun bg bh a4 a5 d=>?_
 have z:=cN a4 (xs:=[((2*((M.words.length:Nat) : Int))%256)]) (by as_aux_lemma=>kernel_rfl) (al (by omega) aJ) (by(try simp only[List.length_cons,List.length_nil]);omega) a5
 refine Pl 1<|?_
 have A:=ub d y
 refine L0<|aP A 12<|?_
 have B:=aG i d
 refine L0<|Oc<|dk (bE (xs:=M.words) (dN.old hw B) (by(try simp only[List.length_cons,List.length_nil]);omega)) fun bi bj bm C bo bp b=>Pl 2<|ng<|Pl 3<|nt<|sq<|sg<|Pl 1<|?_
 have a:=ub b A
 refine L0<|aP a 0<|Pl 1<|nt<|bk<|sg<|Pl 3<|?_
 have j:(!(dir==0))=false:=by simp only[hd0,Bool.not_true,Bool.not_false]
 refine sy 27 j<|Pl 12<|nt<|c0<|sg<|Pl 3<|nt<|?_
 have l:=aG B b
 refine cb ((M.code==6)) (fun c=>?_) (fun c=>?_)
 have a6:=ae c
 refine sg<|Pl 1<|L0<|aP a 2<|Pl 1<|L0<|aP a 4<|L0<|cO (m:=2) (e:=24) #[.int .u16 M.addr,.int .u16 M.value] fun bq bt a7 a8 D=>?_
 have a9:=dh a7 (xs:=[M.addr,M.value]) (by as_aux_lemma=>kernel_rfl) (al (by omega) (al (by omega) aJ)) (by(try simp only[List.length_cons,List.length_nil]);omega) a8
 refine L0<|Oc<|dk (bE (xs:=[M.addr,M.value]) (a9).rd (by(try simp only[List.length_cons,List.length_nil]);omega)) fun aa ab bv ac bw bx ad=>Pl 1<|nt<|rt<|br<|tr<|rr (.slice aa ((aF ([M.addr,M.value])).length) ab)<|?_
 have hs:bK dir M=(aF ([M.addr,M.value])):=by
   unfold bK
   (try simp only[hd0,j,c,bs,if_true,if_false,decide_true,decide_false,reduceIte])
   all_goals rfl
 rw[hs]
 exact⟨_,rfl,(aV.weaken ac (le (le (le i.size d.size) b.size) D.size)),(aG l (aG D ad))⟩
 have a6:=ak c
 refine sg<|Pl 3<|nt<|cb ((M.code==22)) (fun f=>?_) (fun f=>?_)
 have af:=ae f
 refine sg<|Pl 1<|L0<|aP a 2<|Pl 1<|L0<|aP a 5<|Pl 1<|L0<|aP a 6<|L0<|cO (m:=3) (e:=24) #[.int .u16 M.addr,.int .u16 M.and_,.int .u16 M.or_] fun bz bA ag ah E=>?_
 have ai:=dh ag (xs:=[M.addr,M.and_,M.or_]) (by as_aux_lemma=>kernel_rfl) (al (by omega) (al (by omega) (al (by omega) aJ))) (by(try simp only[List.length_cons,List.length_nil]);omega) ah
 refine L0<|Oc<|dk (bE (xs:=[M.addr,M.and_,M.or_]) (ai).rd (by(try simp only[List.length_cons,List.length_nil]);omega)) fun aj an bB ao bC bD ap=>Pl 1<|nt<|rt<|br<|tr<|rr (.slice aj ((aF ([M.addr,M.and_,M.or_])).length) an)<|?_
 have hs:bK dir M=(aF ([M.addr,M.and_,M.or_])):=by
   unfold bK
   (try simp only[hd0,j,c,f,bs,if_true,if_false,decide_true,decide_false,reduceIte])
   all_goals rfl
 rw[hs]
 exact⟨_,rfl,(aV.weaken ao (le (le (le i.size d.size) b.size) E.size)),(aG l (aG E ap))⟩
 have af:=ak f
 refine sg<|Pl 3<|cu 2 [65] 67 (((M.code==16)&&(dir==0))) (fun K F=>?_) ?_
 refine bl 65 ((M.code==16)) (fun q=>?_) (fun q=>?_)
 have ar:=ae q
 exact Pl 2<|ce F (dir==0) (by rw[q];rfl)
 have ar:=ak q
 exact Pl 2<|ce F false (by rw[q];rfl)
 refine Pl 1<|nt<|cb (((M.code==16)&&(dir==0))) (fun g=>?_) (fun g=>?_)
 have k:=(b6 g).1
 have G:=(b6 g).2
 have au:=ae k
 have bF:=ae G
 refine sg<|Pl 1<|L0<|aP a 2<|Pl 1<|L0<|aP a 3<|L0<|cO (m:=2) (e:=24) #[.int .u16 M.addr,.int .u16 M.count] fun bH bI aw ax s=>?_
 have az:=dh aw (xs:=[M.addr,M.count]) (by as_aux_lemma=>kernel_rfl) (al (by omega) (al (by omega) aJ)) (by(try simp only[List.length_cons,List.length_nil]);omega) ax
 refine L0<|Oc<|dk (bE (xs:=[M.addr,M.count]) (az).rd (by(try simp only[List.length_cons,List.length_nil]);omega)) fun bJ bL bM H bN bO u=>Pl 1<|?_
 have I:=aG s u
 refine L0<|bG aX (xs:=(aF ([M.addr,M.count]))) (ys:=([((2*((M.words.length:Nat) : Int))%256)])) (.int .u8 0) 1 H ((aq z (aG b I) (fun x hx=>aA) (fun _ _ h=>h))).rd (by(try simp only[List.length_append,List.length_cons,List.length_nil,ay]);omega) u.size fun bP bQ bR J L=>Pl 1<|?_
 have N:=ut I L (am (aM H s.size) av)
 refine L0<|bG aX (xs:=((aF ([M.addr,M.count]))++[((2*((M.words.length:Nat) : Int))%256)])) (ys:=(aF M.words)) (.int .u8 0) 1 J ((aq C N (fun x hx=>aA) (fun _ _ h=>h))).rd (by(try simp only[List.length_append,List.length_cons,List.length_nil,ay]);omega) (le u.size L.size) fun aB aC bS aD aE=>Pl 1<|nt<|rt<|br<|tr<|rr (.slice aB ((((aF ([M.addr,M.count]))++[((2*((M.words.length:Nat) : Int))%256)])++(aF M.words)).length) aC)<|?_
 have hs:bK dir M=(((aF ([M.addr,M.count]))++[((2*((M.words.length:Nat) : Int))%256)])++(aF M.words)):=by
   unfold bK
   (try simp only[G,j,c,f,g,k,bs,if_true,if_false,decide_true,decide_false,reduceIte])
   all_goals rfl
 rw[hs]
 exact⟨_,rfl,(aV.weaken aD (le (le (le i.size d.size) b.size) s.size)),(aG l (ut N aE (am (aM J s.size) av)))⟩
 have k:(M.code==16)=false:=by simpa only[hd0,bs] using g
 have au:=ak k
 refine sg<|Pl 3<|nt<|cb ((M.code==23)) (fun n=>?_) (fun n=>?_)
 have aH:=ae n
 refine sg<|Pl 1<|L0<|aP a 2<|Pl 1<|L0<|aP a 3<|Pl 1<|L0<|aP a 7<|Pl 2<|L0<|cO (m:=4) (e:=24) #[.int .u16 M.addr,.int .u16 M.count,.int .u16 M.addr2,.int .u16 (((M.words.length:Nat) : Int)%65536)] fun bT bV aI aK t=>?_
 have aL:=dh aI (xs:=[M.addr,M.count,M.addr2,(((M.words.length:Nat) : Int)%65536)]) (by as_aux_lemma=>kernel_rfl) (al (by omega) (al (by omega) (al (by omega) (al (by omega) aJ)))) (by(try simp only[List.length_cons,List.length_nil]);omega) aK
 refine L0<|Oc<|dk (bE (xs:=[M.addr,M.count,M.addr2,(((M.words.length:Nat) : Int)%65536)]) (aL).rd (by(try simp only[List.length_cons,List.length_nil]);omega)) fun bW bX bY O bZ c1 v=>Pl 1<|?_
 have P:=aG t v
 refine L0<|bG aX (xs:=(aF ([M.addr,M.count,M.addr2,(((M.words.length:Nat) : Int)%65536)]))) (ys:=([((2*((M.words.length:Nat) : Int))%256)])) (.int .u8 0) 1 O ((aq z (aG b P) (fun x hx=>aA) (fun _ _ h=>h))).rd (by(try simp only[List.length_append,List.length_cons,List.length_nil,ay]);omega) v.size fun c2 c3 c4 Q R=>Pl 1<|?_
 have S:=ut P R (am (aM O t.size) av)
 refine L0<|bG aX (xs:=((aF ([M.addr,M.count,M.addr2,(((M.words.length:Nat) : Int)%65536)]))++[((2*((M.words.length:Nat) : Int))%256)])) (ys:=(aF M.words)) (.int .u8 0) 1 Q ((aq C S (fun x hx=>aA) (fun _ _ h=>h))).rd (by(try simp only[List.length_append,List.length_cons,List.length_nil,ay]);omega) (le v.size R.size) fun aN aR c5 aS aT=>Pl 1<|nt<|rt<|br<|tr<|rr (.slice aN ((((aF ([M.addr,M.count,M.addr2,(((M.words.length:Nat) : Int)%65536)]))++[((2*((M.words.length:Nat) : Int))%256)])++(aF M.words)).length) aR)<|?_
 have hs:bK dir M=(((aF ([M.addr,M.count,M.addr2,(((M.words.length:Nat) : Int)%65536)]))++[((2*((M.words.length:Nat) : Int))%256)])++(aF M.words)):=by
   unfold bK
   (try simp only[hd0,j,c,f,g,k,n,bs,if_true,if_false,decide_true,decide_false,reduceIte])
   all_goals rfl
 rw[hs]
 exact⟨_,rfl,(aV.weaken aS (le (le (le i.size d.size) b.size) t.size)),(aG l (ut S aT (am (aM Q t.size) av)))⟩
 have aH:=ak n
 refine sg<|Pl 3<|cu 2 [98] 100 (((M.code==24)&&(dir==0))) (fun K T=>?_) ?_
 refine bl 98 ((M.code==24)) (fun r=>?_) (fun r=>?_)
 have aU:=ae r
 exact Pl 2<|ce T (dir==0) (by rw[r];rfl)
 have aU:=ak r
 exact Pl 2<|ce T false (by rw[r];rfl)
 refine Pl 1<|nt<|cb (((M.code==24)&&(dir==0))) (fun o=>?_) (fun o=>?_)
 have p:=(b6 o).1
 have U:=(b6 o).2
 have aW:=ae p
 have c6:=ae U
 refine sg<|Pl 1<|L0<|aP a 2<|L0<|cO (m:=1) (e:=24) #[.int .u16 M.addr] fun c7 c8 aY aZ V=>?_
 have b0:=dh aY (xs:=[M.addr]) (by as_aux_lemma=>kernel_rfl) (al (by omega) aJ) (by(try simp only[List.length_cons,List.length_nil]);omega) aZ
 refine L0<|Oc<|dk (bE (xs:=[M.addr]) (b0).rd (by(try simp only[List.length_cons,List.length_nil]);omega)) fun b1 b2 c9 b3 ca cc b4=>Pl 1<|nt<|rt<|br<|tr<|rr (.slice b1 ((aF ([M.addr])).length) b2)<|?_
 have hs:bK dir M=(aF ([M.addr])):=by
   unfold bK
   (try simp only[U,j,c,f,g,k,n,o,p,bs,if_true,if_false,decide_true,decide_false,reduceIte])
   all_goals rfl
 rw[hs]
 exact⟨_,rfl,(aV.weaken b3 (le (le (le i.size d.size) b.size) V.size)),(aG l (aG V b4))⟩
 have p:(M.code==24)=false:=by simpa only[hd0,bs] using o
 have aW:=ak p
 refine sg<|Pl 3<|nt<|cf p<|sk<|bn<|tn<|sg<|Pl 1<|L0<|aP a 2<|Pl 1<|L0<|aP a 3<|?_
 refine L0<|cO (m:=2) (e:=24) #[.int .u16 M.addr,.int .u16 M.count] fun cd cg b5 b7 W=>?_
 have b8:=dh b5 (xs:=[M.addr,M.count]) (by as_aux_lemma=>kernel_rfl) (al (by omega) (al (by omega) aJ)) (by(try simp only[List.length_cons,List.length_nil]);omega) b7
 refine L0<|Oc<|dk (bE (xs:=[M.addr,M.count]) (b8).rd (by(try simp only[List.length_cons,List.length_nil]);omega)) fun b9 ba ch bb ci cj bc=>Pl 1<|nt<|rt<|rr (.slice b9 ((aF ([M.addr,M.count])).length) ba)<|?_
 have hs:bK dir M=(aF ([M.addr,M.count])):=by
   unfold bK
   (try simp only[hd0,j,c,f,g,k,n,o,p,bs,if_true,if_false,decide_true,decide_false,reduceIte])
   all_goals rfl
 rw[hs]
 exact⟨_,rfl,(aV.weaken bb (le (le (le i.size d.size) b.size) W.size)),(aG l (aG W bc))⟩
theorem p7{m:Md}{cs:Array Value}{M:aQ}{w:World}{dir:Int}(h:aO m w cs.toList M)(hf:bU M)(hd0:(dir==0)=false) : Calls Tryz.prog 205 #[.int .i64 dir,.agg cs] w (fy (bK dir M) w):=by
 obtain⟨vw,vb,vd,vr,vo,h0,hw,hbt,hd,hr,ho,hR⟩:=h
 obtain rfl:cs=(bu M vw vb vd vr vo).toArray:=by apply Array.toList_inj.1;simpa using h0
 clear h0
 obtain⟨Aw,kw,rfl,_,_⟩:=hw.shape
 obtain⟨Ab,kb,rfl,_,_⟩:=hbt.shape
 obtain⟨Ad,kd,rfl,_,_⟩:=hd.shape
 obtain⟨Ar,kr,rfl,_,_⟩:=hr.shape
 obtain⟨Ao,ko,rfl,_,_⟩:=ho.shape
 obtain⟨q0,q1,q2,q3,q4,q5,q6,q7,q8,q9,R,S,T,U,V,W,X⟩:=hR
 simp only[B8,dF] at q0 q1 q2 q3 q4 q5 q6 q7 q8 q9 R S T U V W X
 have hf1:=hf.words
 have hf2:=hf.bits
 have hf3:=hf.data
 have hf4:=hf.recs
 have hf5:=hf.objects
 refine en 124 Tryz.func205 rfl<|sg<|L0<|dC (mG M.code M.fail M.addr M.count M.value M.and_ M.or_ M.addr2 M.sub M.status M.events M.messages (.slice Aw M.words.length kw) (.slice Ab M.bits.length kb) (.slice Ad M.data.length kd) (.slice Ar M.recs.length kr) M.mei M.kind M.level M.more M.next (.slice Ao M.objects.length ko)) fun aY aZ b0 A d=>Pl 1<|ng<|Pl 1<|L0<|aP A 12<|Pl 2<|nt<|?_
 refine sg<|Pl 1<|L0<|Oi (2*((M.words.length:Nat) : Int))<|Pl 1<|L0<|cO (m:=1) (e:=5) #[.int .u8 ((2*((M.words.length:Nat) : Int))%256)] fun b1 b2 Y Z f=>?_
 have B:=cN Y (xs:=[((2*((M.words.length:Nat) : Int))%256)]) (by as_aux_lemma=>kernel_rfl) (al (by omega) aJ) (by(try simp only[List.length_cons,List.length_nil]);omega) Z
 refine Pl 1<|?_
 have C:=ub f A
 refine L0<|aP C 12<|?_
 have D:=aG d f
 refine L0<|Oc<|dk (bE (xs:=M.words) (dN.old hw D) (by(try simp only[List.length_cons,List.length_nil]);omega)) fun b3 b4 b5 E b6 b7 a=>Pl 2<|ng<|Pl 3<|nt<|sq<|sg<|Pl 1<|?_
 have b:=ub a C
 refine L0<|aP b 0<|Pl 1<|nt<|bk<|sg<|Pl 3<|?_
 have i:(!(dir==0))=true:=by simp only[hd0,Bool.not_true,Bool.not_false]
 refine sy 27 i<|Pl 3<|cu 3 [30] 33 (((M.code==3)||(M.code==4))) (fun K F=>?_) ?_
 refine bl 30 ((M.code==3)) (fun n=>?_) (fun n=>?_)
 have a0:=ae n
 exact Pl 3<|ce F true (by rw[n];rfl)
 have a0:=ak n
 exact Pl 3<|ce F (M.code==4) (by rw[n];rfl)
 refine Pl 1<|cu 3 [34] 37 ((((M.code==3)||(M.code==4))||(M.code==23))) (fun K G=>?_) ?_
 refine bl 34 (((M.code==3)||(M.code==4))) (fun o=>?_) (fun o=>?_)
 exact Pl 3<|ce G true (by rw[o];rfl)
 have a1:=(aI o).1
 have a2:=(aI o).2
 have b8:=ak a1
 have b9:=ak a2
 exact Pl 3<|ce G (M.code==23) (by rw[o];rfl)
 refine Pl 2<|nt<|?_
 have p:=aG D a
 refine cb ((((M.code==3)||(M.code==4))||(M.code==23))) (fun c=>?_) (fun c=>?_)
 refine sg<|Pl 2<|?_
 refine L0<|bG aX (xs:=([((2*((M.words.length:Nat) : Int))%256)])) (ys:=(aF M.words)) (.int .u8 0) 1 (aq B a (fun x hx=>aA) (fun _ _ h=>h)) (E).rd (by(try simp only[List.length_append,List.length_cons,List.length_nil,ay]);omega) (le f.size a.size) fun a3 a4 ba a5 a6=>Pl 1<|nt<|rt<|br<|tr<|rr (.slice a3 (([((2*((M.words.length:Nat) : Int))%256)]++(aF M.words)).length) a4)<|?_
 have hs:bK dir M=([((2*((M.words.length:Nat) : Int))%256)]++(aF M.words)):=by
   unfold bK
   (try simp only[hd0,i,c,bs,if_true,if_false,decide_true,decide_false,reduceIte])
   all_goals rfl
 rw[hs]
 exact⟨_,rfl,(aV.weaken a5 d.size),(ut p a6 (am (aM B d.size) av))⟩
 have j:=(aI c).1
 have k:=(aI c).2
 have q:=(aI j).1
 have r:=(aI j).2
 have q40aap:=ak q
 have q40abp:=ak r
 have bb:=ak k
 refine sg<|Pl 3<|nt<|cb ((M.code==6)) (fun g=>?_) (fun g=>?_)
 have a7:=ae g
 refine sg<|Pl 1<|L0<|aP b 2<|Pl 1<|L0<|aP b 4<|L0<|cO (m:=2) (e:=24) #[.int .u16 M.addr,.int .u16 M.value] fun bc bd a8 a9 H=>?_
 have aa:=dh a8 (xs:=[M.addr,M.value]) (by as_aux_lemma=>kernel_rfl) (al (by omega) (al (by omega) aJ)) (by(try simp only[List.length_cons,List.length_nil]);omega) a9
 refine L0<|Oc<|dk (bE (xs:=[M.addr,M.value]) (aa).rd (by(try simp only[List.length_cons,List.length_nil]);omega)) fun ab ac be ad bf bg af=>Pl 1<|nt<|rt<|br<|tr<|rr (.slice ab ((aF ([M.addr,M.value])).length) ac)<|?_
 have hs:bK dir M=(aF ([M.addr,M.value])):=by
   unfold bK
   (try simp only[hd0,i,c,j,q,r,k,g,bs,if_true,if_false,decide_true,decide_false,reduceIte])
   all_goals rfl
 rw[hs]
 exact⟨_,rfl,(aV.weaken ad (le (le (le d.size f.size) a.size) H.size)),(aG p (aG H af))⟩
 have a7:=ak g
 refine sg<|Pl 3<|nt<|cb ((M.code==22)) (fun l=>?_) (fun l=>?_)
 have ag:=ae l
 refine sg<|Pl 1<|L0<|aP b 2<|Pl 1<|L0<|aP b 5<|Pl 1<|L0<|aP b 6<|L0<|cO (m:=3) (e:=24) #[.int .u16 M.addr,.int .u16 M.and_,.int .u16 M.or_] fun bh bi ah ai I=>?_
 have aj:=dh ah (xs:=[M.addr,M.and_,M.or_]) (by as_aux_lemma=>kernel_rfl) (al (by omega) (al (by omega) (al (by omega) aJ))) (by(try simp only[List.length_cons,List.length_nil]);omega) ai
 refine L0<|Oc<|dk (bE (xs:=[M.addr,M.and_,M.or_]) (aj).rd (by(try simp only[List.length_cons,List.length_nil]);omega)) fun an ao bj ap bm bo ar=>Pl 1<|nt<|rt<|br<|tr<|rr (.slice an ((aF ([M.addr,M.and_,M.or_])).length) ao)<|?_
 have hs:bK dir M=(aF ([M.addr,M.and_,M.or_])):=by
   unfold bK
   (try simp only[hd0,i,c,j,q,r,k,g,l,bs,if_true,if_false,decide_true,decide_false,reduceIte])
   all_goals rfl
 rw[hs]
 exact⟨_,rfl,(aV.weaken ap (le (le (le d.size f.size) a.size) I.size)),(aG p (aG I ar))⟩
 have ag:=ak l
 refine sg<|Pl 3<|cu 2 [65] 67 (((M.code==16)&&(dir==0))) (fun K J=>?_) ?_
 refine bl 65 ((M.code==16)) (fun s=>?_) (fun s=>?_)
 have au:=ae s
 exact Pl 2<|ce J (dir==0) (by rw[s];rfl)
 have au:=ak s
 exact Pl 2<|ce J false (by rw[s];rfl)
 refine Pl 1<|nt<|?_
 have v:((M.code==16)&&(dir==0))=false:=by simp only[hd0,bs]
 refine cf v<|sg<|Pl 3<|nt<|cf k<|sg<|Pl 3<|cu 2 [98] 100 (((M.code==24)&&(dir==0))) (fun K L=>?_) ?_
 refine bl 98 ((M.code==24)) (fun t=>?_) (fun t=>?_)
 have aw:=ae t
 exact Pl 2<|ce L (dir==0) (by rw[t];rfl)
 have aw:=ak t
 exact Pl 2<|ce L false (by rw[t];rfl)
 refine Pl 1<|nt<|?_
 have y:((M.code==24)&&(dir==0))=false:=by simp only[hd0,bs]
 refine cf y<|sg<|Pl 3<|nt<|cb ((M.code==24)) (fun u=>?_) (fun u=>?_)
 have ax:=ae u
 refine sg<|Pl 1<|L0<|Oi (2*((M.words.length:Nat) : Int))<|L0<|Oi (2+(2*((M.words.length:Nat) : Int)))<|Pl 3<|L0<|cO (m:=2) (e:=24) #[.int .u16 ((2+(2*((M.words.length:Nat) : Int)))%65536),.int .u16 (((M.words.length:Nat) : Int)%65536)] fun bp bq az aB z=>?_
 have aC:=dh az (xs:=[((2+(2*((M.words.length:Nat) : Int)))%65536),(((M.words.length:Nat) : Int)%65536)]) (by as_aux_lemma=>kernel_rfl) (al (by omega) (al (by omega) aJ)) (by(try simp only[List.length_cons,List.length_nil]);omega) aB
 refine L0<|Oc<|dk (bE (xs:=[((2+(2*((M.words.length:Nat) : Int)))%65536),(((M.words.length:Nat) : Int)%65536)]) (aC).rd (by(try simp only[List.length_cons,List.length_nil]);omega)) fun bt bv bw N bx bz O=>Pl 1<|?_
 have P:=aG z O
 refine L0<|bG aX (xs:=(aF ([((2+(2*((M.words.length:Nat) : Int)))%65536),(((M.words.length:Nat) : Int)%65536)]))) (ys:=(aF M.words)) (.int .u8 0) 1 N ((aq E P (fun x hx=>aA) (fun _ _ h=>h))).rd (by(try simp only[List.length_append,List.length_cons,List.length_nil,ay]);omega) O.size fun aD aE bA aH aK=>Pl 1<|nt<|rt<|br<|tr<|rr (.slice aD (((aF ([((2+(2*((M.words.length:Nat) : Int)))%65536),(((M.words.length:Nat) : Int)%65536)]))++(aF M.words)).length) aE)<|?_
 have hs:bK dir M=((aF ([((2+(2*((M.words.length:Nat) : Int)))%65536),(((M.words.length:Nat) : Int)%65536)]))++(aF M.words)):=by
   unfold bK
   (try simp only[hd0,i,c,j,q,r,k,g,l,v,y,u,bs,if_true,if_false,decide_true,decide_false,reduceIte])
   all_goals rfl
 rw[hs]
 exact⟨_,rfl,(aV.weaken aH (le (le (le d.size f.size) a.size) z.size)),(aG p (ut P aK (am (aM N z.size) av)))⟩
 have ax:=ak u
 refine sk<|bn<|tn<|sg<|Pl 1<|L0<|aP b 2<|Pl 1<|L0<|aP b 3<|L0<|cO (m:=2) (e:=24) #[.int .u16 M.addr,.int .u16 M.count] fun bB bC aL aN Q=>?_
 have aR:=dh aL (xs:=[M.addr,M.count]) (by as_aux_lemma=>kernel_rfl) (al (by omega) (al (by omega) aJ)) (by(try simp only[List.length_cons,List.length_nil]);omega) aN
 refine L0<|Oc<|dk (bE (xs:=[M.addr,M.count]) (aR).rd (by(try simp only[List.length_cons,List.length_nil]);omega)) fun aS aT bD aU bF bH aW=>Pl 1<|nt<|rt<|rr (.slice aS ((aF ([M.addr,M.count])).length) aT)<|?_
 have hs:bK dir M=(aF ([M.addr,M.count])):=by
   unfold bK
   (try simp only[hd0,i,c,j,q,r,k,g,l,v,y,u,bs,if_true,if_false,decide_true,decide_false,reduceIte])
   all_goals rfl
 rw[hs]
 exact⟨_,rfl,(aV.weaken aU (le (le (le d.size f.size) a.size) Q.size)),(aG p (aG Q aW))⟩
theorem sf{m:Md}{cs:Array Value}{M:aQ}{w:World}{dir:Int}(h:aO m w cs.toList M)(hf:bU M) : Calls Tryz.prog 205 #[.int .i64 dir,.agg cs] w (fy (bK dir M) w):=by
  rcases dT (dir==0) with h0|h0
  · exact ox h hf h0
  · exact p7 h hf h0
end Go.Proofs.YtogbnemojakcpaaGreat
