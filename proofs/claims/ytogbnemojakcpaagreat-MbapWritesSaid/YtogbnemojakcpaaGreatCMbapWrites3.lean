/- Contracts of functions, part CMbapWrites3. -/
import Derived.Test.YtogbnemojakcpaaGreatCMbapWrites1
import Derived.Test.YtogbnemojakcpaaGreatCMbapWrites2
import Derived.RangeFuncRecord
import Derived.RangeFuncLeaves
import Derived.RangeFuncCalls
set_option linter.unusedVariables false
set_option linter.unusedSimpArgs false
set_option maxRecDepth 100000
set_option maxHeartbeats 4000000
namespace Go.Proofs.YtogbnemojakcpaaGreat
open Go.RowKit
def aR (dir c:Int)(C:aj) : Option (aj × aQ) :=
  if c==8 then some (dL dir c C)
  else if c==7 || c==11 || c==12 || c==17 then (if dir==1 then some (bX c C) else some (C,{ aQ.zero with code:=c }))
  else none
theorem mY{m:Md}{A:Option Addr}{cp:Nat}{b:List Int}{w:World}{c:Int}(hcode:B8 c)(hsl:bh m w (.slice A b.length cp) b)(hb:b.length≤1048576) :
    Calls Tryz.prog 142 #[.int .i64 0,.int .u8 c,.slice A b.length cp] w (eb (ag aR 0 c b) w):=by
 obtain⟨hcode1,hcode2⟩:=hcode
 have hln:(b.length:Int)≤1048576:=by omega
 refine en 47 Tryz.func142 rfl<|sg<|L0<|bO mZ fun b2 b3 j i O=>Pl 1<|nt<|sq<|sg<|Pl 6<|nt<|c0<|?_
 refine bp<|sg<|Pl 2<|L0<|bO mZ fun b4 b5 q P aa=>L0<|be P (mC c) fun b7 r Q=>ng<|Pl 1<|?_
 have g:=ud aa Q q
 have n:=aG O g
 refine L0<|Oc<|e3 (dW (bh.old hsl n) (by omega)) fun b9 ba a s d=>Pl 1<|nt<|sq<|sg<|Pl 1<|nt<|bk<|sg<|Pl 2<|nl<|?_
 refine tn<|?_
 have o:=aG n d
 refine cb ((c==8)) (fun f=>?_) (fun f=>?_)
 have ad:=ae f
 refine go<|Pl 2<|?_
 have R:=nb (au P) Q.size a
 refine L0<|Oc<|m3 (oG (dir:=0) (c:=c) ⟨hcode1,hcode2⟩ s (ub d r) (Ne.symm R)) fun bb af ah S=>?_
 obtain⟨al,B,C⟩:=ah
 refine ab af fun x41 T U=>?_
 refine nl<|bn<|tn<|sg<|Pl 1<|L0<|Oc<|m2 (cG U) fun bc V D=>nt<|sq<|sg<|Pl 1<|L0<|Oc<|mq (bG V)<|?_
 have bd:=ap.len V
 refine Pl 1<|ng<|Pl 2<|nt<|?_
 have E:=u1 S D im
 have W:=ut o E (ac (ni n.size a) (ac (ni O.size q) av))
 refine cb ((x41.endC.e != 0)) (fun t=>?_) (fun t=>?_)
 have F:=az t
 refine sg<|Pl 2<|?_
 refine L0<|be (ub (ud g (ud d E a) q) i) mZ fun bf am an=>Pl 1<|nt<|rt<|tr<|bP am (.int .i64 x41.endC.e)<|?_
 subst T
 have hs:ag aR 0 c b=aL ((dL 0 c (aj.mk b false 0)).2) ((dL 0 c (aj.mk b false 0)).1):=by
   unfold ag aR
   (try simp only[f,t,bs,if_true,if_false,decide_true,decide_false,eq_self,true_or,or_true,or_false,false_or,if_true,if_false,cy,co,cw,cv,reduceIte])
   all_goals rfl
 rw[hs]
 exact bC F (ud W an j)
 have F:=ai t
 refine bp<|sg<|?_
 refine L0<|bS (hz:=(by rw[B.2];exact aO)) (b6 D R B.1)<|?_
 refine L0<|be (hz:=(by rw[B.2];exact aO)) (hv:=C.size) (h1:=C.one) (ub (ud g (ud d E a) q) i) (al) fun bg ao X=>Pl 1<|nt<|rt<|eJ 22 B.2 ao (.int .i64 0)<|?_
 subst T
 have hs:ag aR 0 c b=aL ((dL 0 c (aj.mk b false 0)).2) ((dL 0 c (aj.mk b false 0)).1):=by
   unfold ag aR
   (try simp only[f,t,bs,if_true,if_false,decide_true,decide_false,eq_self,true_or,or_true,or_false,false_or,if_true,if_false,cy,co,cw,cv,reduceIte])
   all_goals rfl
 rw[hs]
 exact bI F (aN.upd C (us D X) (ax (ap.safe U _ (by decide)) (ax (aY (ub (ud g (ud d S a) q) i) (by decide)) aK))) (ud W X j)
 have ad:=ak f
 refine sq<|sg<|Pl 2<|nt<|cb ((c==7)) (fun h=>?_) (fun h=>?_)
 have aq:=ae h
 refine bp<|ct h<|sg<|Pl 2<|nt<|c0<|sk<|bn<|tn<|sg<|?_
 refine Pl 1<|L0<|Oc<|m2 (cG s) fun bi Y G=>nt<|sq<|sg<|Pl 1<|L0<|Oc<|mq (bG Y)<|?_
 have bj:=ap.len Y
 refine Pl 1<|ng<|Pl 2<|nt<|?_
 have Z:=ud o G (le n.size a)
 refine cb (((((aj.mk b false 0).endC).e)!=0)) (fun u=>?_) (fun u=>?_)
 have H:=az u
 refine sg<|Pl 2<|?_
 refine L0<|be (ub (aG g (ud d G a)) i) mZ fun bl ar aw=>Pl 1<|nt<|rt<|tr<|bP ar (.int .i64 (((aj.mk b false 0).endC).e))<|?_
 have hs:ag aR 0 c b=aL (aQ.mk c 0 0 0 0 0 0 0 0 0 0 0 [] [] [] [] 0 0 0 0 0 []) (aj.mk b false 0):=by
   unfold ag aR
   (try simp only[f,h,u,bs,if_true,if_false,decide_true,decide_false,eq_self,true_or,or_true,or_false,false_or,if_true,if_false,cy,co,cw,cv,reduceIte])
   all_goals rfl
 rw[hs]
 exact bC H (ud Z aw j)
 have H:=ai u
 refine bp<|sg<|?_
 have a0:=ud d G a
 refine L0<|bS (ub a0 r)<|?_
 refine L0<|be (ub (aG g a0) i) (mC c) fun bm ay aA=>Pl 1<|nt<|rt<|bP ay (.int .i64 0)<|?_
 have hs:ag aR 0 c b=aL (aQ.mk c 0 0 0 0 0 0 0 0 0 0 0 [] [] [] [] 0 0 0 0 0 []) (aj.mk b false 0):=by
   unfold ag aR
   (try simp only[f,h,u,bs,if_true,if_false,decide_true,decide_false,eq_self,true_or,or_true,or_false,false_or,if_true,if_false,cy,co,cw,cv,reduceIte])
   all_goals rfl
 rw[hs]
 exact bI H ⟨_,_,_,_,_,rfl,aS.nil ..,aS.nil ..,aS.nil ..,aS.nil ..,aS.nil ..,⟨(b8 (x:=c) (by omega)),(b8 (x:=0) (by omega)),(aD (x:=0) (by omega)),(aD (x:=0) (by omega)),(aD (x:=0) (by omega)),(aD (x:=0) (by omega)),(aD (x:=0) (by omega)),(aD (x:=0) (by omega)),(aD (x:=0) (by omega)),(aD (x:=0) (by omega)),(aD (x:=0) (by omega)),(aD (x:=0) (by omega)),(b8 (x:=0) (by omega)),(b8 (x:=0) (by omega)),(b8 (x:=0) (by omega)),(b8 (x:=0) (by omega)),(b8 (x:=0) (by omega))⟩⟩ (ud Z aA j)
 have aq:=ak h
 refine sg<|Pl 2<|nt<|cb ((c==11)) (fun k=>?_) (fun k=>?_)
 have aB:=ae k
 refine bp<|ct k<|sg<|Pl 2<|nt<|c0<|sk<|bn<|tn<|sg<|?_
 refine Pl 1<|L0<|Oc<|m2 (cG s) fun bo a1 I=>nt<|sq<|sg<|Pl 1<|L0<|Oc<|mq (bG a1)<|?_
 have bq:=ap.len a1
 refine Pl 1<|ng<|Pl 2<|nt<|?_
 have a2:=ud o I (le n.size a)
 refine cb (((((aj.mk b false 0).endC).e)!=0)) (fun v=>?_) (fun v=>?_)
 have J:=az v
 refine sg<|Pl 2<|?_
 refine L0<|be (ub (aG g (ud d I a)) i) mZ fun bt aC aE=>Pl 1<|nt<|rt<|tr<|bP aC (.int .i64 (((aj.mk b false 0).endC).e))<|?_
 have hs:ag aR 0 c b=aL (aQ.mk c 0 0 0 0 0 0 0 0 0 0 0 [] [] [] [] 0 0 0 0 0 []) (aj.mk b false 0):=by
   unfold ag aR
   (try simp only[f,h,k,v,bs,if_true,if_false,decide_true,decide_false,eq_self,true_or,or_true,or_false,false_or,if_true,if_false,cy,co,cw,cv,reduceIte])
   all_goals rfl
 rw[hs]
 exact bC J (ud a2 aE j)
 have J:=ai v
 refine bp<|sg<|?_
 have a3:=ud d I a
 refine L0<|bS (ub a3 r)<|?_
 refine L0<|be (ub (aG g a3) i) (mC c) fun bu aF aH=>Pl 1<|nt<|rt<|bP aF (.int .i64 0)<|?_
 have hs:ag aR 0 c b=aL (aQ.mk c 0 0 0 0 0 0 0 0 0 0 0 [] [] [] [] 0 0 0 0 0 []) (aj.mk b false 0):=by
   unfold ag aR
   (try simp only[f,h,k,v,bs,if_true,if_false,decide_true,decide_false,eq_self,true_or,or_true,or_false,false_or,if_true,if_false,cy,co,cw,cv,reduceIte])
   all_goals rfl
 rw[hs]
 exact bI J ⟨_,_,_,_,_,rfl,aS.nil ..,aS.nil ..,aS.nil ..,aS.nil ..,aS.nil ..,⟨(b8 (x:=c) (by omega)),(b8 (x:=0) (by omega)),(aD (x:=0) (by omega)),(aD (x:=0) (by omega)),(aD (x:=0) (by omega)),(aD (x:=0) (by omega)),(aD (x:=0) (by omega)),(aD (x:=0) (by omega)),(aD (x:=0) (by omega)),(aD (x:=0) (by omega)),(aD (x:=0) (by omega)),(aD (x:=0) (by omega)),(b8 (x:=0) (by omega)),(b8 (x:=0) (by omega)),(b8 (x:=0) (by omega)),(b8 (x:=0) (by omega)),(b8 (x:=0) (by omega))⟩⟩ (ud a2 aH j)
 have aB:=ak k
 refine sg<|Pl 2<|nt<|cb ((c==12)) (fun l=>?_) (fun l=>?_)
 have aI:=ae l
 refine bp<|ct l<|sg<|Pl 2<|nt<|c0<|sk<|bn<|tn<|sg<|?_
 refine Pl 1<|L0<|Oc<|m2 (cG s) fun bv a4 K=>nt<|sq<|sg<|Pl 1<|L0<|Oc<|mq (bG a4)<|?_
 have bw:=ap.len a4
 refine Pl 1<|ng<|Pl 2<|nt<|?_
 have a5:=ud o K (le n.size a)
 refine cb (((((aj.mk b false 0).endC).e)!=0)) (fun y=>?_) (fun y=>?_)
 have L:=az y
 refine sg<|Pl 2<|?_
 refine L0<|be (ub (aG g (ud d K a)) i) mZ fun bx aJ aM=>Pl 1<|nt<|rt<|tr<|bP aJ (.int .i64 (((aj.mk b false 0).endC).e))<|?_
 have hs:ag aR 0 c b=aL (aQ.mk c 0 0 0 0 0 0 0 0 0 0 0 [] [] [] [] 0 0 0 0 0 []) (aj.mk b false 0):=by
   unfold ag aR
   (try simp only[f,h,k,l,y,bs,if_true,if_false,decide_true,decide_false,eq_self,true_or,or_true,or_false,false_or,if_true,if_false,cy,co,cw,cv,reduceIte])
   all_goals rfl
 rw[hs]
 exact bC L (ud a5 aM j)
 have L:=ai y
 refine bp<|sg<|?_
 have a6:=ud d K a
 refine L0<|bS (ub a6 r)<|?_
 refine L0<|be (ub (aG g a6) i) (mC c) fun bz aP aT=>Pl 1<|nt<|rt<|bP aP (.int .i64 0)<|?_
 have hs:ag aR 0 c b=aL (aQ.mk c 0 0 0 0 0 0 0 0 0 0 0 [] [] [] [] 0 0 0 0 0 []) (aj.mk b false 0):=by
   unfold ag aR
   (try simp only[f,h,k,l,y,bs,if_true,if_false,decide_true,decide_false,eq_self,true_or,or_true,or_false,false_or,if_true,if_false,cy,co,cw,cv,reduceIte])
   all_goals rfl
 rw[hs]
 exact bI L ⟨_,_,_,_,_,rfl,aS.nil ..,aS.nil ..,aS.nil ..,aS.nil ..,aS.nil ..,⟨(b8 (x:=c) (by omega)),(b8 (x:=0) (by omega)),(aD (x:=0) (by omega)),(aD (x:=0) (by omega)),(aD (x:=0) (by omega)),(aD (x:=0) (by omega)),(aD (x:=0) (by omega)),(aD (x:=0) (by omega)),(aD (x:=0) (by omega)),(aD (x:=0) (by omega)),(aD (x:=0) (by omega)),(aD (x:=0) (by omega)),(b8 (x:=0) (by omega)),(b8 (x:=0) (by omega)),(b8 (x:=0) (by omega)),(b8 (x:=0) (by omega)),(b8 (x:=0) (by omega))⟩⟩ (ud a5 aT j)
 have aI:=ak l
 refine go<|Pl 2<|nt<|cb ((c==17)) (fun p=>?_) (fun p=>?_)
 have aU:=ae p
 refine sg<|Pl 2<|nt<|c0<|sk<|bn<|tn<|sg<|Pl 1<|L0<|Oc<|m2 (cG s) fun bA a7 M=>nl<|?_
 refine tn<|sq<|sg<|Pl 1<|L0<|Oc<|mq (bG a7)<|?_
 have bB:=ap.len a7
 refine Pl 1<|ng<|Pl 2<|nt<|?_
 have a8:=ud o M (le n.size a)
 refine cb (((((aj.mk b false 0).endC).e)!=0)) (fun z=>?_) (fun z=>?_)
 have N:=az z
 refine sg<|Pl 2<|?_
 refine L0<|be (ub (aG g (ud d M a)) i) mZ fun bD aV aW=>Pl 1<|nt<|rt<|tr<|bP aV (.int .i64 (((aj.mk b false 0).endC).e))<|?_
 have hs:ag aR 0 c b=aL (aQ.mk c 0 0 0 0 0 0 0 0 0 0 0 [] [] [] [] 0 0 0 0 0 []) (aj.mk b false 0):=by
   unfold ag aR
   (try simp only[f,h,k,l,p,z,bs,if_true,if_false,decide_true,decide_false,eq_self,true_or,or_true,or_false,false_or,if_true,if_false,cy,co,cw,cv,reduceIte])
   all_goals rfl
 rw[hs]
 exact bC N (ud a8 aW j)
 have N:=ai z
 refine bp<|sg<|?_
 have a9:=ud d M a
 refine L0<|bS (ub a9 r)<|?_
 refine L0<|be (ub (aG g a9) i) (mC c) fun bE aX aZ=>Pl 1<|nt<|rt<|bP aX (.int .i64 0)<|?_
 have hs:ag aR 0 c b=aL (aQ.mk c 0 0 0 0 0 0 0 0 0 0 0 [] [] [] [] 0 0 0 0 0 []) (aj.mk b false 0):=by
   unfold ag aR
   (try simp only[f,h,k,l,p,z,bs,if_true,if_false,decide_true,decide_false,eq_self,true_or,or_true,or_false,false_or,if_true,if_false,cy,co,cw,cv,reduceIte])
   all_goals rfl
 rw[hs]
 exact bI N ⟨_,_,_,_,_,rfl,aS.nil ..,aS.nil ..,aS.nil ..,aS.nil ..,aS.nil ..,⟨(b8 (x:=c) (by omega)),(b8 (x:=0) (by omega)),(aD (x:=0) (by omega)),(aD (x:=0) (by omega)),(aD (x:=0) (by omega)),(aD (x:=0) (by omega)),(aD (x:=0) (by omega)),(aD (x:=0) (by omega)),(aD (x:=0) (by omega)),(aD (x:=0) (by omega)),(aD (x:=0) (by omega)),(aD (x:=0) (by omega)),(b8 (x:=0) (by omega)),(b8 (x:=0) (by omega)),(b8 (x:=0) (by omega)),(b8 (x:=0) (by omega)),(b8 (x:=0) (by omega))⟩⟩ (ud a8 aZ j)
 have aU:=ak p
 refine sg<|Pl 1<|?_
 refine L0<|be (ub (aG g d) i) mZ fun bF b0 b1=>Pl 1<|nt<|rt<|br<|tr<|bP b0 (.int .i64 4)<|?_
 have hs:ag aR 0 c b=(aQ.zero,4):=by
   unfold ag aR
   (try simp only[f,h,k,l,p,bs,if_true,if_false,decide_true,decide_false,eq_self,true_or,or_true,or_false,false_or,if_true,if_false,cy,co,cw,cv,reduceIte])
   all_goals rfl
 rw[hs]
 exact cR (ud o b1 j)
theorem nh{m:Md}{A:Option Addr}{cp:Nat}{b:List Int}{w:World}{c:Int}(hcode:B8 c)(hsl:bh m w (.slice A b.length cp) b)(hb:b.length≤1048576) :
    Calls Tryz.prog 142 #[.int .i64 1,.int .u8 c,.slice A b.length cp] w (eb (ag aR 1 c b) w):=by
 obtain⟨hcode1,hcode2⟩:=hcode
 have hln:(b.length:Int)≤1048576:=by omega
 refine en 47 Tryz.func142 rfl<|sg<|L0<|bO mZ fun bQ bR k h p=>Pl 1<|nt<|sq<|sg<|Pl 6<|nt<|c0<|?_
 refine bp<|sg<|Pl 2<|L0<|bO mZ fun bT bU f q b0=>L0<|be q (mC c) fun bV u r=>ng<|Pl 1<|?_
 have g:=ud b0 r f
 have o:=aG p g
 refine L0<|Oc<|e3 (dW (bh.old hsl o) (by omega)) fun bW bY a v d=>Pl 1<|nt<|sq<|sg<|Pl 1<|nt<|bk<|sg<|Pl 2<|nl<|?_
 refine tn<|?_
 have s:=aG o d
 refine cb ((c==8)) (fun i=>?_) (fun i=>?_)
 have b1:=ae i
 refine go<|Pl 2<|?_
 have a2:=nb (au q) r.size a
 refine L0<|Oc<|m3 (oG (dir:=1) (c:=c) ⟨hcode1,hcode2⟩ v (ub d u) (Ne.symm a2)) fun bZ b2 b3 a3=>?_
 obtain⟨b4,D,I⟩:=b3
 refine ab b2 fun x41 a4 a5=>?_
 refine nl<|bn<|tn<|sg<|Pl 1<|L0<|Oc<|m2 (cG a5) fun c2 a6 J=>nt<|sq<|sg<|Pl 1<|L0<|Oc<|mq (bG a6)<|?_
 have c3:=ap.len a6
 refine Pl 1<|ng<|Pl 2<|nt<|?_
 have K:=u1 a3 J im
 have a7:=ut s K (ac (ni o.size a) (ac (ni p.size f) av))
 refine cb ((x41.endC.e != 0)) (fun x=>?_) (fun x=>?_)
 have L:=az x
 refine sg<|Pl 2<|?_
 refine L0<|be (ub (ud g (ud d K a) f) h) mZ fun c4 b5 b7=>Pl 1<|nt<|rt<|tr<|bP b5 (.int .i64 x41.endC.e)<|?_
 subst a4
 have hs:ag aR 1 c b=aL ((dL 1 c (aj.mk b false 0)).2) ((dL 1 c (aj.mk b false 0)).1):=by
   unfold ag aR
   (try simp only[i,x,bs,if_true,if_false,decide_true,decide_false,eq_self,true_or,or_true,or_false,false_or,if_true,if_false,cy,co,cw,cv,reduceIte])
   all_goals rfl
 rw[hs]
 exact bC L (ud a7 b7 k)
 have L:=ai x
 refine bp<|sg<|?_
 refine L0<|bS (hz:=(by rw[D.2];exact aO)) (b6 J a2 D.1)<|?_
 refine L0<|be (hz:=(by rw[D.2];exact aO)) (hv:=I.size) (h1:=I.one) (ub (ud g (ud d K a) f) h) (b4) fun c5 b8 a8=>Pl 1<|nt<|rt<|eJ 22 D.2 b8 (.int .i64 0)<|?_
 subst a4
 have hs:ag aR 1 c b=aL ((dL 1 c (aj.mk b false 0)).2) ((dL 1 c (aj.mk b false 0)).1):=by
   unfold ag aR
   (try simp only[i,x,bs,if_true,if_false,decide_true,decide_false,eq_self,true_or,or_true,or_false,false_or,if_true,if_false,cy,co,cw,cv,reduceIte])
   all_goals rfl
 rw[hs]
 exact bI L (aN.upd I (us J a8) (ax (ap.safe a5 _ (by decide)) (ax (aY (ub (ud g (ud d a3 a) f) h) (by decide)) aK))) (ud a7 a8 k)
 have b1:=ak i
 refine sq<|sg<|Pl 2<|nt<|cb ((c==7)) (fun j=>?_) (fun j=>?_)
 have b9:=ae j
 refine bp<|ct j<|sg<|Pl 2<|nt<|c1<|go<|Pl 1<|?_
 have a9:=nb (au q) r.size a
 refine L0<|Oc<|m3 (gI (c:=c) ⟨hcode1,hcode2⟩ v (ub d u) (Ne.symm a9)) fun c6 ba bb aa=>?_
 obtain⟨bc,E,M⟩:=bb
 refine ab ba fun x81 ad af=>?_
 refine nl<|bn<|tn<|sg<|Pl 1<|L0<|Oc<|m2 (cG af) fun c7 ah N=>nt<|sq<|sg<|Pl 1<|L0<|Oc<|mq (bG ah)<|?_
 have c8:=ap.len ah
 refine Pl 1<|ng<|Pl 2<|nt<|?_
 have O:=u1 aa N im
 have al:=ut s O (ac (ni o.size a) (ac (ni p.size f) av))
 refine cb ((x81.endC.e != 0)) (fun y=>?_) (fun y=>?_)
 have P:=az y
 refine sg<|Pl 2<|?_
 refine L0<|be (ub (ud g (ud d O a) f) h) mZ fun c9 bd bf=>Pl 1<|nt<|rt<|tr<|bP bd (.int .i64 x81.endC.e)<|?_
 subst ad
 have hs:ag aR 1 c b=aL ((bX c (aj.mk b false 0)).2) ((bX c (aj.mk b false 0)).1):=by
   unfold ag aR
   (try simp only[i,j,y,bs,if_true,if_false,decide_true,decide_false,eq_self,true_or,or_true,or_false,false_or,if_true,if_false,cy,co,cw,cv,reduceIte])
   all_goals rfl
 rw[hs]
 exact bC P (ud al bf k)
 have P:=ai y
 refine bp<|sg<|?_
 refine L0<|bS (hz:=(by rw[E.2];exact aO)) (b6 N a9 E.1)<|?_
 refine L0<|be (hz:=(by rw[E.2];exact aO)) (hv:=M.size) (h1:=M.one) (ub (ud g (ud d O a) f) h) (bc) fun ca bg am=>Pl 1<|nt<|rt<|eJ 22 E.2 bg (.int .i64 0)<|?_
 subst ad
 have hs:ag aR 1 c b=aL ((bX c (aj.mk b false 0)).2) ((bX c (aj.mk b false 0)).1):=by
   unfold ag aR
   (try simp only[i,j,y,bs,if_true,if_false,decide_true,decide_false,eq_self,true_or,or_true,or_false,false_or,if_true,if_false,cy,co,cw,cv,reduceIte])
   all_goals rfl
 rw[hs]
 exact bI P (aN.upd M (us N am) (ax (ap.safe af _ (by decide)) (ax (aY (ub (ud g (ud d aa a) f) h) (by decide)) aK))) (ud al am k)
 have b9:=ak j
 refine sg<|Pl 2<|nt<|cb ((c==11)) (fun l=>?_) (fun l=>?_)
 have bi:=ae l
 refine bp<|ct l<|sg<|Pl 2<|nt<|c1<|go<|Pl 1<|?_
 have an:=nb (au q) r.size a
 refine L0<|Oc<|m3 (gI (c:=c) ⟨hcode1,hcode2⟩ v (ub d u) (Ne.symm an)) fun cc bj bl ao=>?_
 obtain⟨bm,F,Q⟩:=bl
 refine ab bj fun aq ar aw=>?_
 refine nl<|bn<|tn<|sg<|Pl 1<|L0<|Oc<|m2 (cG aw) fun cd ay R=>nt<|sq<|sg<|Pl 1<|L0<|Oc<|mq (bG ay)<|?_
 have ce:=ap.len ay
 refine Pl 1<|ng<|Pl 2<|nt<|?_
 have S:=u1 ao R im
 have aA:=ut s S (ac (ni o.size a) (ac (ni p.size f) av))
 refine cb ((aq.endC.e != 0)) (fun z=>?_) (fun z=>?_)
 have T:=az z
 refine sg<|Pl 2<|?_
 refine L0<|be (ub (ud g (ud d S a) f) h) mZ fun cf bo bq=>Pl 1<|nt<|rt<|tr<|bP bo (.int .i64 aq.endC.e)<|?_
 subst ar
 have hs:ag aR 1 c b=aL ((bX c (aj.mk b false 0)).2) ((bX c (aj.mk b false 0)).1):=by
   unfold ag aR
   (try simp only[i,j,l,z,bs,if_true,if_false,decide_true,decide_false,eq_self,true_or,or_true,or_false,false_or,if_true,if_false,cy,co,cw,cv,reduceIte])
   all_goals rfl
 rw[hs]
 exact bC T (ud aA bq k)
 have T:=ai z
 refine bp<|sg<|?_
 refine L0<|bS (hz:=(by rw[F.2];exact aO)) (b6 R an F.1)<|?_
 refine L0<|be (hz:=(by rw[F.2];exact aO)) (hv:=Q.size) (h1:=Q.one) (ub (ud g (ud d S a) f) h) (bm) fun cg bt aB=>Pl 1<|nt<|rt<|eJ 22 F.2 bt (.int .i64 0)<|?_
 subst ar
 have hs:ag aR 1 c b=aL ((bX c (aj.mk b false 0)).2) ((bX c (aj.mk b false 0)).1):=by
   unfold ag aR
   (try simp only[i,j,l,z,bs,if_true,if_false,decide_true,decide_false,eq_self,true_or,or_true,or_false,false_or,if_true,if_false,cy,co,cw,cv,reduceIte])
   all_goals rfl
 rw[hs]
 exact bI T (aN.upd Q (us R aB) (ax (ap.safe aw _ (by decide)) (ax (aY (ub (ud g (ud d ao a) f) h) (by decide)) aK))) (ud aA aB k)
 have bi:=ak l
 refine sg<|Pl 2<|nt<|cb ((c==12)) (fun n=>?_) (fun n=>?_)
 have bu:=ae n
 refine bp<|ct n<|sg<|Pl 2<|nt<|c1<|go<|Pl 1<|?_
 have aC:=nb (au q) r.size a
 refine L0<|Oc<|m3 (gI (c:=c) ⟨hcode1,hcode2⟩ v (ub d u) (Ne.symm aC)) fun ch bv bw aD=>?_
 obtain⟨bx,G,U⟩:=bw
 refine ab bv fun aE aF aH=>?_
 refine nl<|bn<|tn<|sg<|Pl 1<|L0<|Oc<|m2 (cG aH) fun ci aI V=>nt<|sq<|sg<|Pl 1<|L0<|Oc<|mq (bG aI)<|?_
 have cj:=ap.len aI
 refine Pl 1<|ng<|Pl 2<|nt<|?_
 have W:=u1 aD V im
 have aJ:=ut s W (ac (ni o.size a) (ac (ni p.size f) av))
 refine cb ((aE.endC.e != 0)) (fun B=>?_) (fun B=>?_)
 have X:=az B
 refine sg<|Pl 2<|?_
 refine L0<|be (ub (ud g (ud d W a) f) h) mZ fun ck bz bA=>Pl 1<|nt<|rt<|tr<|bP bz (.int .i64 aE.endC.e)<|?_
 subst aF
 have hs:ag aR 1 c b=aL ((bX c (aj.mk b false 0)).2) ((bX c (aj.mk b false 0)).1):=by
   unfold ag aR
   (try simp only[i,j,l,n,B,bs,if_true,if_false,decide_true,decide_false,eq_self,true_or,or_true,or_false,false_or,if_true,if_false,cy,co,cw,cv,reduceIte])
   all_goals rfl
 rw[hs]
 exact bC X (ud aJ bA k)
 have X:=ai B
 refine bp<|sg<|?_
 refine L0<|bS (hz:=(by rw[G.2];exact aO)) (b6 V aC G.1)<|?_
 refine L0<|be (hz:=(by rw[G.2];exact aO)) (hv:=U.size) (h1:=U.one) (ub (ud g (ud d W a) f) h) (bx) fun cl bB aM=>Pl 1<|nt<|rt<|eJ 22 G.2 bB (.int .i64 0)<|?_
 subst aF
 have hs:ag aR 1 c b=aL ((bX c (aj.mk b false 0)).2) ((bX c (aj.mk b false 0)).1):=by
   unfold ag aR
   (try simp only[i,j,l,n,B,bs,if_true,if_false,decide_true,decide_false,eq_self,true_or,or_true,or_false,false_or,if_true,if_false,cy,co,cw,cv,reduceIte])
   all_goals rfl
 rw[hs]
 exact bI X (aN.upd U (us V aM) (ax (ap.safe aH _ (by decide)) (ax (aY (ub (ud g (ud d aD a) f) h) (by decide)) aK))) (ud aJ aM k)
 have bu:=ak n
 refine go<|Pl 2<|nt<|cb ((c==17)) (fun t=>?_) (fun t=>?_)
 have bD:=ae t
 refine sg<|Pl 2<|nt<|c1<|go<|Pl 1<|?_
 have aP:=nb (au q) r.size a
 refine L0<|Oc<|m3 (gI (c:=c) ⟨hcode1,hcode2⟩ v (ub d u) (Ne.symm aP)) fun cm bE bF aS=>?_
 obtain⟨bH,H,Y⟩:=bF
 refine ab bE fun aT aU aV=>?_
 refine nl<|bn<|tn<|sg<|Pl 1<|L0<|Oc<|m2 (cG aV) fun cn aW Z=>nt<|sq<|sg<|Pl 1<|L0<|Oc<|mq (bG aW)<|?_
 have cq:=ap.len aW
 refine Pl 1<|ng<|Pl 2<|nt<|?_
 have a0:=u1 aS Z im
 have aX:=ut s a0 (ac (ni o.size a) (ac (ni p.size f) av))
 refine cb ((aT.endC.e != 0)) (fun C=>?_) (fun C=>?_)
 have a1:=az C
 refine sg<|Pl 2<|?_
 refine L0<|be (ub (ud g (ud d a0 a) f) h) mZ fun cr bJ bK=>Pl 1<|nt<|rt<|tr<|bP bJ (.int .i64 aT.endC.e)<|?_
 subst aU
 have hs:ag aR 1 c b=aL ((bX c (aj.mk b false 0)).2) ((bX c (aj.mk b false 0)).1):=by
   unfold ag aR
   (try simp only[i,j,l,n,t,C,bs,if_true,if_false,decide_true,decide_false,eq_self,true_or,or_true,or_false,false_or,if_true,if_false,cy,co,cw,cv,reduceIte])
   all_goals rfl
 rw[hs]
 exact bC a1 (ud aX bK k)
 have a1:=ai C
 refine bp<|sg<|?_
 refine L0<|bS (hz:=(by rw[H.2];exact aO)) (b6 Z aP H.1)<|?_
 refine L0<|be (hz:=(by rw[H.2];exact aO)) (hv:=Y.size) (h1:=Y.one) (ub (ud g (ud d a0 a) f) h) (bH) fun cs bL aZ=>Pl 1<|nt<|rt<|eJ 22 H.2 bL (.int .i64 0)<|?_
 subst aU
 have hs:ag aR 1 c b=aL ((bX c (aj.mk b false 0)).2) ((bX c (aj.mk b false 0)).1):=by
   unfold ag aR
   (try simp only[i,j,l,n,t,C,bs,if_true,if_false,decide_true,decide_false,eq_self,true_or,or_true,or_false,false_or,if_true,if_false,cy,co,cw,cv,reduceIte])
   all_goals rfl
 rw[hs]
 exact bI a1 (aN.upd Y (us Z aZ) (ax (ap.safe aV _ (by decide)) (ax (aY (ub (ud g (ud d aS a) f) h) (by decide)) aK))) (ud aX aZ k)
 have bD:=ak t
 refine sg<|Pl 1<|?_
 refine L0<|be (ub (aG g d) h) mZ fun cu bM bN=>Pl 1<|nt<|rt<|br<|tr<|bP bM (.int .i64 4)<|?_
 have hs:ag aR 1 c b=(aQ.zero,4):=by
   unfold ag aR
   (try simp only[i,j,l,n,t,bs,if_true,if_false,decide_true,decide_false,eq_self,true_or,or_true,or_false,false_or,if_true,if_false,cy,co,cw,cv,reduceIte])
   all_goals rfl
 rw[hs]
 exact cR (ud s bN k)
theorem nk{m:Md}{A:Option Addr}{cp:Nat}{b:List Int}{w:World}{dir c:Int}(hcode:B8 c)(hsl:bh m w (.slice A b.length cp) b)(hb:b.length≤1048576)(hd:¬ (dir=0∨dir=1)) :
    Calls Tryz.prog 142 #[.int .i64 dir,.int .u8 c,.slice A b.length cp] w (eb (ag aR dir c b) w):=by
 obtain⟨hcode1,hcode2⟩:=hcode
 have hln:(b.length:Int)≤1048576:=by omega
 have e0:(dir != 0)=true:=by simp;omega
 have e1:(dir != 1)=true:=by simp;omega
 refine en 47 Tryz.func142 rfl<|sg<|L0<|bO mZ fun g h a d e=>Pl 1<|nt<|sq<|sg<|Pl 3<|sy 13 e0<|Pl 3<|nl<|?_
 refine tn<|ct e1<|sg<|Pl 1<|L0<|be d mZ fun i dB f=>Pl 1<|nt<|rt<|tr<|bP dB (.int .i64 1)<|?_
 have hs:ag aR dir c b=(aQ.zero,1):=by
   unfold ag aR
   (try simp only[e0,e1,bs,if_true,if_false,decide_true,decide_false,eq_self,true_or,or_true,or_false,false_or,if_true,if_false,cy,co,cw,cv,reduceIte,hd])
   all_goals rfl
 rw[hs]
 exact cR (ud e f a)
theorem ky{m:Md}{v:Value}{b:List Int}{w:World}{dir c:Int}(hc:B8 c)(h:bh m w v b)(hb:b.length≤1048576) :
    Calls Tryz.prog 142 #[.int .i64 dir,.int .u8 c,v] w (eb (ag aR dir c b) w):=by
  obtain⟨A,cp,rfl,_,_⟩:=h.shape
  by_cases h0:dir=0
  · subst h0;exact mY hc h hb
  by_cases h1:dir=1
  · subst h1;exact nh hc h hb
  exact nk hc h hb (by omega)
open Go.RowKit
def ea:Nat→aj→List Obj→aj × List Obj
  | 0,C,L=>(C,L)
  | n+1,C,L=>ea n (((C.bytesC 1).bytesC 1).bytesC (C.bytesC 1).byteV) (L++[⟨C.byteV,((C.bytesC 1).bytesC 1).bytesR (C.bytesC 1).byteV⟩])
def jk (C:aj) : aj:=(C.bytesC 1).need (cl C.byteV) 6
def jt (C:aj) : aj:=((jk C).bytesC 1).need ((jk C).byteV==0 || (jk C).byteV==255) 6
def lV (C:aj) : aj:=((jt C).bytesC 1).need ((jk C).byteV != 0 || (jt C).byteV==0) 6
def tq (kd:Int)(C:aj) : aj:=((lV C).bytesC 1).need (kd != 4 || (lV C).byteV==1) 5
def dJ (kd:Int)(C:aj) : aj × List Obj:=ea (lV C).byteV.toNat (tq kd C) []
theorem pU{g gm:Nat}{c me kd:Int}{C0:aj}{w:World}(hcode:B8 c)(hme:B8 me)(hkd:B8 kd)(hC:ap w g C0)(hm:w.heap[gm]? = some (.cells #[.int .u8 c,.int .u8 0,.int .u16 0,.int .u16 0,.int .u16 0,.int .u16 0,.int .u16 0,.int .u16 0,.int .u16 0,.int .u16 0,.int .u16 0,.int .u16 0,.slice none 0 0,.slice none 0 0,.slice none 0 0,.slice none 0 0,.int .u8 me,.int .u8 kd,.int .u8 0,.int .u8 0,.int .u8 0,.slice none 0 0] 30 (0,0)))(hne:g≠gm) :
    Calls Tryz.prog 213 #[.pointer (some ⟨g,0,none⟩),.pointer (some ⟨gm,0,none⟩)] w (cP g gm (dJ kd C0).1 { aQ.zero with code:=c,mei:=me,kind:=kd,level:=C0.byteV,more:=(jk C0).byteV,next:=(jt C0).byteV,objects:=(dJ kd C0).2 } w):=by
 obtain⟨hcode1,hcode2⟩:=hcode
 obtain⟨hme1,hme2⟩:=hme
 obtain⟨hkd1,hkd2⟩:=hkd
 refine en 92 Tryz.func213 rfl<|sg<|Pl 2<|L0<|Oc<|m3 (ch hC) fun cR bM b cS=>Pl 2<|?_
 have ah:=b6 b (Ne.symm hne) hm
 refine L0<|cj ah 18 (mG c 0 0 0 0 0 0 0 0 0 0 0 nS nS nS nS me kd C0.byteV 0 0 nS) fun cT dB j=>ng<|Pl 4<|L0<|aP dB 18<|L0<|Oc<|m1 (se (x:=C0.byteV) (w:=_)) fun cU d=>?_
 have am:=aG j d
 refine L0<|Oc<|m2 (bg ((cl C0.byteV)) 6 (ap.upd bM am (aa hne aA) (ax (aY ah (by decide)) aK))) fun cV bN l=>?_
 refine ab bN fun x25 bO bP=>?_
 refine ng<|Pl 2<|L0<|Oc<|m3 (ch bP) fun cW bQ o cX=>Pl 2<|?_
 have an:=u1 l o im
 have ao:=b6 (uz d an) (Ne.symm hne) dB
 refine L0<|cj ao 19 (mG c 0 0 0 0 0 0 0 0 0 0 0 nS nS nS nS me kd C0.byteV x25.byteV 0 nS) fun cY U f=>ng<|Pl 4<|L0<|aP U 19<|Pl 2<|cu 6 [29] 35 (((x25.byteV==0)||(x25.byteV==255))) (fun K ar=>?_) ?_
 refine bl 29 ((x25.byteV==0)) (fun E=>?_) (fun E=>?_)
 have bR:=ae E
 exact Pl 6<|ce ar true (by rw[E];rfl)
 have bR:=ak E
 exact Pl 3<|L1<|aP U 19<|Pl 2<|ce ar (x25.byteV==255) (by rw[E];rfl)
 refine L0<|Oc<|m2 (bg (((x25.byteV==0)||(x25.byteV==255))) 6 (ap.upd bQ f (aa hne aA) (ax (aY ao (by decide)) aK))) fun cZ bS p=>?_
 refine ab bS fun x44 bT bU=>?_
 refine ng<|Pl 2<|L0<|Oc<|m3 (ch bU) fun d0 bV q d1=>Pl 2<|?_
 have aw:=u1 p q im
 have aC:=b6 aw (Ne.symm hne) U
 refine L0<|cj aC 20 (mG c 0 0 0 0 0 0 0 0 0 0 0 nS nS nS nS me kd C0.byteV x25.byteV x44.byteV nS) fun d2 V h=>ng<|Pl 4<|L0<|aP V 19<|Pl 2<|cu 6 [48] 54 (((x25.byteV != 0)||(x44.byteV==0))) (fun K aE=>?_) ?_
 refine bl 48 ((x25.byteV != 0)) (fun F=>?_) (fun F=>?_)
 have bW:=az F
 exact Pl 6<|ce aE true (by rw[F];rfl)
 have bW:=ai F
 exact Pl 3<|L1<|aP V 20<|Pl 2<|ce aE (x44.byteV==0) (by rw[F];rfl)
 refine L0<|Oc<|m2 (bg (((x25.byteV != 0)||(x44.byteV==0))) 6 (ap.upd bV h (aa hne aA) (ax (aY aC (by decide)) aK))) fun d3 bX r=>?_
 refine ab bX fun x62 bY c0=>?_
 refine ng<|Pl 1<|L0<|Oc<|m3 (ch c0) fun d4 c1 s d5=>L0<|Oi x62.byteV<|Pl 1<|ng<|Pl 4<|?_
 have aH:=u1 r s im
 have aI:=b6 aH (Ne.symm hne) V
 refine L0<|aP aI 17<|Pl 2<|cu 3 [65] 68 (((kd != 4)||(x62.byteV==1))) (fun K aJ=>?_) ?_
 refine bl 65 ((kd != 4)) (fun G=>?_) (fun G=>?_)
 have c2:=az G
 exact Pl 3<|ce aJ true (by rw[G];rfl)
 have c2:=ai G
 exact Pl 3<|ce aJ (x62.byteV==1) (by rw[G];rfl)
 refine L0<|Oc<|m2 (bg (((kd != 4)||(x62.byteV==1))) 5 c1) fun W c3 i=>?_
 refine ab c3 fun x76 c4 c5=>?_
 refine ng<|Pl 2<|nt<|bk<|?_
 refine js (fun x=>[(0,.pointer (some ⟨g,0,none⟩)),(1,.pointer (some ⟨gm,0,none⟩)),(70,.int .i64 x62.byteV),(71,.int .i64 ((x.1:Nat) : Int))]) (fun(x:Nat × aj × List Obj × Option Addr × Nat) w'=>aF [g,gm] W w'∧ap w' g x.2.1∧w'.heap[gm]? = some (.cells #[.int .u8 c,.int .u8 0,.int .u16 0,.int .u16 0,.int .u16 0,.int .u16 0,.int .u16 0,.int .u16 0,.int .u16 0,.int .u16 0,.int .u16 0,.int .u16 0,.slice none 0 0,.slice none 0 0,.slice none 0 0,.slice none 0 0,.int .u8 me,.int .u8 kd,.int .u8 C0.byteV,.int .u8 x25.byteV,.int .u8 x44.byteV,.slice x.2.2.2.1 x.2.2.1.length x.2.2.2.2] 30 (0,0))∧aW W.heap.size 111 2 (dp true) w' (.slice x.2.2.2.1 x.2.2.1.length x.2.2.2.2) x.2.2.1∧(x.1≤x62.byteV.toNat)∧(ea (x62.byteV.toNat-x.1) x.2.1 x.2.2.1=ea x62.byteV.toNat x76 [])∧(x.2.2.1.length≤x.1)) (fun x=>x62.byteV.toNat-x.1) (0,x76,[],none,0) ⟨aF.refl _ _,c5,(b6 i (Ne.symm hne) aI),aW.nil ..,(by(try dsimp only);omega),(by(try dsimp only);rw[Nat.sub_zero]),(by(try dsimp only);(try simp only[List.length_append,List.length_cons,List.length_nil]);omega)⟩ ?_
 rintro⟨k,C,L,A,cp⟩ X ⟨v,c6,c7,c8,c9,ca,cc⟩
 refine ju [(0,.pointer (some ⟨g,0,none⟩)),(1,.pointer (some ⟨gm,0,none⟩)),(70,.int .i64 x62.byteV),(71,.int .i64 ((k:Nat) : Int))] ?_
 have u:ap X g C:=c6
 have D:X.heap[gm]? = some (.cells #[.int .u8 c,.int .u8 0,.int .u16 0,.int .u16 0,.int .u16 0,.int .u16 0,.int .u16 0,.int .u16 0,.int .u16 0,.int .u16 0,.int .u16 0,.int .u16 0,.slice none 0 0,.slice none 0 0,.slice none 0 0,.slice none 0 0,.int .u8 me,.int .u8 kd,.int .u8 C0.byteV,.int .u8 x25.byteV,.int .u8 x44.byteV,.slice A L.length cp] 30 (0,0)):=c7
 have a:aW W.heap.size 111 2 (dp true) X (.slice A L.length cp) L:=c8
 have d6:k≤x62.byteV.toNat:=c9
 have d7:ea (x62.byteV.toNat-k) C L=ea x62.byteV.toNat x76 []:=ca
 have d8:L.length≤k:=cc
 have hobj:ea (x62.byteV.toNat-k) C L=ea x62.byteV.toNat x76 []:=by assumption
 refine sg<|Pl 1<|nt<|sq<|?_
 refine cb ((decide (((k:Nat) : Int)<x62.byteV))) (fun Y=>?_) (fun Y=>?_)
 have cd:=of_decide_eq_true Y
 refine bp<|sq<|bk<|sg<|Pl 1<|L0<|Oc<|m3 (ch u) fun da aL y db=>Pl 1<|nt<|Rg 17 (fun w'=>True) fun dc t=>bj trivial fun z=>Rt 0 z<|?_
 refine Rt 1 z<|Rt 2 z<|Rt 3 z<|Rt 5 z<|Rt 6 z<|Rt 7 z<|?_
 refine R2 4 8 rfl rfl ?_ ?_
 have Z:=aG y t
 have a0:=b6 Z (Ne.symm hne) D
 refine  aP a0 21<|bj trivial fun dd=>?_
 refine R0 8 rfl<|Oc<|m3 (ch (ap.old aL t)) fun de aN a1 df=>bj trivial fun cf=>Rr 9 cf (.int .i64 ((C.bytesC 1).byteV)) (fun _ _=>bZ (.int .i64 (IntKind.i64.wrap ((C.bytesC 1).byteV))) (by kernel_rfl) (congrArg (Value.int .i64) (i64_in (by omega))))<|R0 10 rfl<|Oc<|qX (cL (n:=(C.bytesC 1).byteV) aN) fun cg ci dg ck dh di cm a2=>?_
 have dj:=Nat.le_trans (aj.bytesR_le ((C.bytesC 1).bytesC 1) ((C.bytesC 1).byteV)) (ap.len aN)
 refine ab cm fun dk cn co=>?_
 refine bj trivial fun cq=>Rt 11 cq<|R0 12 rfl<|cK (m:=1) (e:=111) #[.int .u8 C.byteV,.slice cg ((((C.bytesC 1).bytesC 1).bytesR ((C.bytesC 1).byteV)).length) ci] fun dl dm dn cr I=>?_
 have cs:=kg (R:=dp true) (x:=(Obj.mk C.byteV (((C.bytesC 1).bytesC 1).bytesR ((C.bytesC 1).byteV)))) cr rfl ⟨_,rfl,(bh.upd' ck I aK),b8 (by omega)⟩
 refine bj trivial fun dq=>?_
 have aO:=u1 a1 (aG a2 I) im
 have a3:=u1 Z aO im
 have aR:=aq a a3 (fun x hx=>(aa (fun e=>(aB (ap.lt hC) (le (le (le (le (le (le (le (le (le (le (le b.size j.size) d.size) l.size) o.size) f.size) p.size) q.size) h.size) r.size) s.size) i.size) a) (e▸hx)) aA)) (dp.upd8 a3 (ax (ap.safe u _ (by decide)) aK))
 refine R0 13 rfl<|gX (xs:=L) (ys:=([(Obj.mk C.byteV (((C.bytesC 1).bytesC 1).bytesR ((C.bytesC 1).byteV)))])) (.agg #[.int .u8 0,.slice none 0 0]) 2 32 aR cs (by simp) dp.ones (fun w' hv=>dp.upd8 hv (d9 (dC _ aR (by decide)) aK)) (by(try simp only[List.length_append,List.length_cons,List.length_nil,ay]);omega) (le (le (le (le (le v.size y.size) t.size) a1.size) a2.size) I.size) fun aT aU dr aV aX=>bj trivial fun aZ=>Rt 14 aZ<|Rt 15 aZ<|?_
 have b0:=aF.blk (ut (aF.mono (S':=(g :: (ob A++[]))) aO (ac im av)) aX (al il av)) (aa (Ne.symm hne) (bf (aB (au hm) (le (le (le (le (le (le (le (le (le (le (le b.size j.size) d.size) l.size) o.size) f.size) p.size) q.size) h.size) r.size) s.size) i.size) a) aA)) a0
 refine R0 16 rfl<|cj b0 21 (mG c 0 0 0 0 0 0 0 0 0 0 0 nS nS nS nS me kd C0.byteV x25.byteV x44.byteV (.slice aT ((L++[(Obj.mk C.byteV (((C.bytesC 1).bytesC 1).bytesR ((C.bytesC 1).byteV)))]).length) aU)) fun ds ct a4=>bj trivial fun dt=>re<|bn<|tn<|go<|L0<|Oi (((k:Nat) : Int)+1)<|Pl 1<|nl<|?_
 subst cn
 have b1:=u1 (aF.mono (S':=(ob A++(gm :: []))) aX (al il av)) a4 im
 have b2:=u1 a1 a2 im
 have b3:=u1 Z b2 im
 exact gM ((k+1),(((C.bytesC 1).bytesC 1).bytesC ((C.bytesC 1).byteV)),(L++[(Obj.mk C.byteV (((C.bytesC 1).bytesC 1).bytesR ((C.bytesC 1).byteV)))]),aT,aU) ⟨(ut v (ut (aF.mono (S':=(g :: (ob A++(gm :: [])))) a3 (ac im av)) b1 (al il (ac im av))) (ac im (al (aM a lr) (ac im av)))),(ap.upd co (ut (aF.mono (S':=(ob A++(gm :: []))) I av) b1 (al il (ac im av))) (bf (aB (ap.lt hC) (le (le (le (le (le (le (le (le (le (le (le b.size j.size) d.size) l.size) o.size) f.size) p.size) q.size) h.size) r.size) s.size) i.size) a) (aa hne aA)) (d9 (dC _ (aq a b3 (fun x hx=>(aa (fun e=>(aB (ap.lt hC) (le (le (le (le (le (le (le (le (le (le (le b.size j.size) d.size) l.size) o.size) f.size) p.size) q.size) h.size) r.size) s.size) i.size) a) (e▸hx)) aA)) (dp.upd8 b3 (ax (ap.safe u _ (by decide)) aK))) (by decide)) (ax (aY (b6 b2 (Ne.symm hne) a0) (by decide)) aK))),ct,(aq aV a4 (fun x hx=>(aa (fun e=>(aB (au hm) (le (le (le (le (le (le (le (le (le (le (le b.size j.size) d.size) l.size) o.size) f.size) p.size) q.size) h.size) r.size) s.size) i.size) aV) (e▸hx)) aA)) (dp.upd8 a4 (ax (aY b0 (by decide)) aK))),(by(try dsimp only);omega),(by(try dsimp only);rw[← hobj,show x62.byteV.toNat-k=(x62.byteV.toNat-(k+1))+1 from by omega];rfl),(by(try dsimp only);(try simp only[List.length_append,List.length_cons,List.length_nil]);omega)⟩ (by omega)
 refine  Oc<|m3 (ch (ap.old aL t)) fun du J B dv=>bj trivial fun cv=>Rr 9 cv (.int .i64 ((C.bytesC 1).byteV)) (fun _ _=>bZ (.int .i64 (IntKind.i64.wrap ((C.bytesC 1).byteV))) (by kernel_rfl) (congrArg (Value.int .i64) (i64_in (by omega))))<|?_
 refine R2 4 10 rfl rfl ?_ ?_
 have a5:=u1 y (uz t B) im
 have a6:=b6 a5 (Ne.symm hne) D
 refine  aP a6 21<|bj trivial fun dw=>R0 10 rfl<|Oc<|qX (cL (n:=(C.bytesC 1).byteV) J) fun cw cx dx cy dy dz cz M=>?_
 have dA:=Nat.le_trans (aj.bytesR_le ((C.bytesC 1).bytesC 1) ((C.bytesC 1).byteV)) (ap.len J)
 refine ab cz fun dD cA cB=>?_
 refine bj trivial fun cC=>Rt 11 cC<|R0 12 rfl<|cK (m:=1) (e:=111) #[.int .u8 C.byteV,.slice cw ((((C.bytesC 1).bytesC 1).bytesR ((C.bytesC 1).byteV)).length) cx] fun dE dF dG cD N=>?_
 have cE:=kg (R:=dp true) (x:=(Obj.mk C.byteV (((C.bytesC 1).bytesC 1).bytesR ((C.bytesC 1).byteV)))) cD rfl ⟨_,rfl,(bh.upd' cy N aK),b8 (by omega)⟩
 refine bj trivial fun dH=>?_
 have b4:=aG M N
 have a7:=u1 a5 b4 im
 have b5:=aq a a7 (fun x hx=>(aa (fun e=>(aB (ap.lt hC) (le (le (le (le (le (le (le (le (le (le (le b.size j.size) d.size) l.size) o.size) f.size) p.size) q.size) h.size) r.size) s.size) i.size) a) (e▸hx)) aA)) (dp.upd8 a7 (ax (ap.safe u _ (by decide)) aK))
 refine R0 13 rfl<|gX (xs:=L) (ys:=([(Obj.mk C.byteV (((C.bytesC 1).bytesC 1).bytesR ((C.bytesC 1).byteV)))])) (.agg #[.int .u8 0,.slice none 0 0]) 2 32 b5 cE (by simp) dp.ones (fun w' hv=>dp.upd8 hv (d9 (dC _ b5 (by decide)) aK)) (by(try simp only[List.length_append,List.length_cons,List.length_nil,ay]);omega) (le (le (le (le (le v.size y.size) t.size) B.size) M.size) N.size) fun b7 b9 dI ba bb=>bj trivial fun bc=>Rt 14 bc<|Rt 15 bc<|?_
 have bd:=aF.blk (ut (aF.mono (S':=(g :: (ob A++[]))) b4 (ac im av)) bb (al il av)) (aa (Ne.symm hne) (bf (aB (au hm) (le (le (le (le (le (le (le (le (le (le (le b.size j.size) d.size) l.size) o.size) f.size) p.size) q.size) h.size) r.size) s.size) i.size) a) aA)) a6
 refine R0 16 rfl<|cj bd 21 (mG c 0 0 0 0 0 0 0 0 0 0 0 nS nS nS nS me kd C0.byteV x25.byteV x44.byteV (.slice b7 ((L++[(Obj.mk C.byteV (((C.bytesC 1).bytesC 1).bytesR ((C.bytesC 1).byteV)))]).length) b9)) fun dK cF a8=>bj trivial fun dL=>re<|bn<|tn<|go<|L0<|Oi (((k:Nat) : Int)+1)<|Pl 1<|nl<|?_
 subst cA
 have be:=u1 (aF.mono (S':=(ob A++(gm :: []))) bb (al il av)) a8 im
 have bi:=u1 a5 M im
 exact gM ((k+1),(((C.bytesC 1).bytesC 1).bytesC ((C.bytesC 1).byteV)),(L++[(Obj.mk C.byteV (((C.bytesC 1).bytesC 1).bytesR ((C.bytesC 1).byteV)))]),b7,b9) ⟨(ut v (ut (aF.mono (S':=(g :: (ob A++(gm :: [])))) a7 (ac im av)) be (al il (ac im av))) (ac im (al (aM a lr) (ac im av)))),(ap.upd cB (ut (aF.mono (S':=(ob A++(gm :: []))) N av) be (al il (ac im av))) (bf (aB (ap.lt hC) (le (le (le (le (le (le (le (le (le (le (le b.size j.size) d.size) l.size) o.size) f.size) p.size) q.size) h.size) r.size) s.size) i.size) a) (aa hne aA)) (d9 (dC _ (aq a bi (fun x hx=>(aa (fun e=>(aB (ap.lt hC) (le (le (le (le (le (le (le (le (le (le (le b.size j.size) d.size) l.size) o.size) f.size) p.size) q.size) h.size) r.size) s.size) i.size) a) (e▸hx)) aA)) (dp.upd8 bi (ax (ap.safe u _ (by decide)) aK))) (by decide)) (ax (aY (b6 M (Ne.symm hne) a6) (by decide)) aK))),cF,(aq ba a8 (fun x hx=>(aa (fun e=>(aB (au hm) (le (le (le (le (le (le (le (le (le (le (le b.size j.size) d.size) l.size) o.size) f.size) p.size) q.size) h.size) r.size) s.size) i.size) ba) (e▸hx)) aA)) (dp.upd8 a8 (ax (aY bd (by decide)) aK))),(by(try dsimp only);omega),(by(try dsimp only);rw[← hobj,show x62.byteV.toNat-k=(x62.byteV.toNat-(k+1))+1 from by omega];rfl),(by(try dsimp only);(try simp only[List.length_append,List.length_cons,List.length_nil]);omega)⟩ (by omega)
 refine  Oc<|qX (cL (n:=(C.bytesC 1).byteV) J) fun bm bo dM bq dN dO cG H=>?_
 have dP:=Nat.le_trans (aj.bytesR_le ((C.bytesC 1).bytesC 1) ((C.bytesC 1).byteV)) (ap.len J)
 refine ab cG fun dQ br bs=>?_
 refine bj trivial fun cH=>Rt 11 cH<|?_
 refine R2 4 12 rfl rfl ?_ ?_
 have O:=u1 y (uz t (u1 B H im)) im
 have a9:=b6 O (Ne.symm hne) D
 refine  aP a9 21<|bj trivial fun dR=>R0 12 rfl<|cK (m:=1) (e:=111) #[.int .u8 C.byteV,.slice bm ((((C.bytesC 1).bytesC 1).bytesR ((C.bytesC 1).byteV)).length) bo] fun dS dT dU cI P=>?_
 have cJ:=kg (R:=dp true) (x:=(Obj.mk C.byteV (((C.bytesC 1).bytesC 1).bytesR ((C.bytesC 1).byteV)))) cI rfl ⟨_,rfl,(bh.upd' bq P aK),b8 (by omega)⟩
 refine bj trivial fun dV=>?_
 have ad:=aG O P
 have bt:=aq a ad (fun x hx=>(aa (fun e=>(aB (ap.lt hC) (le (le (le (le (le (le (le (le (le (le (le b.size j.size) d.size) l.size) o.size) f.size) p.size) q.size) h.size) r.size) s.size) i.size) a) (e▸hx)) aA)) (dp.upd8 ad (ax (ap.safe u _ (by decide)) aK))
 refine R0 13 rfl<|gX (xs:=L) (ys:=([(Obj.mk C.byteV (((C.bytesC 1).bytesC 1).bytesR ((C.bytesC 1).byteV)))])) (.agg #[.int .u8 0,.slice none 0 0]) 2 32 bt cJ (by simp) dp.ones (fun w' hv=>dp.upd8 hv (d9 (dC _ bt (by decide)) aK)) (by(try simp only[List.length_append,List.length_cons,List.length_nil,ay]);omega) (le (le (le (le (le v.size y.size) t.size) B.size) H.size) P.size) fun bu bv dW bw bz=>bj trivial fun bA=>Rt 14 bA<|Rt 15 bA<|?_
 have bB:=ut (aF.mono (S':=(ob A++[])) P av) bz (al il av)
 have bC:=aF.blk bB (bf (aB (au hm) (le (le (le (le (le (le (le (le (le (le (le b.size j.size) d.size) l.size) o.size) f.size) p.size) q.size) h.size) r.size) s.size) i.size) a) aA) a9
 refine R0 16 rfl<|cj bC 21 (mG c 0 0 0 0 0 0 0 0 0 0 0 nS nS nS nS me kd C0.byteV x25.byteV x44.byteV (.slice bu ((L++[(Obj.mk C.byteV (((C.bytesC 1).bytesC 1).bytesR ((C.bytesC 1).byteV)))]).length) bv)) fun dX cM Q=>bj trivial fun dY=>re<|bn<|tn<|go<|L0<|Oi (((k:Nat) : Int)+1)<|Pl 1<|nl<|?_
 subst br
 exact gM ((k+1),(((C.bytesC 1).bytesC 1).bytesC ((C.bytesC 1).byteV)),(L++[(Obj.mk C.byteV (((C.bytesC 1).bytesC 1).bytesR ((C.bytesC 1).byteV)))]),bu,bv) ⟨(ut v (ut (aF.mono (S':=(g :: (ob A++(gm :: [])))) ad (ac im av)) (u1 (aF.mono (S':=(ob A++(gm :: []))) bz (al il av)) Q im) (al il (ac im av))) (ac im (al (aM a lr) (ac im av)))),(ap.upd bs (u1 (aF.mono (S':=(ob A++(gm :: []))) bB (al il av)) Q im) (bf (aB (ap.lt hC) (le (le (le (le (le (le (le (le (le (le (le b.size j.size) d.size) l.size) o.size) f.size) p.size) q.size) h.size) r.size) s.size) i.size) a) (aa hne aA)) (d9 (dC _ (aq a O (fun x hx=>(aa (fun e=>(aB (ap.lt hC) (le (le (le (le (le (le (le (le (le (le (le b.size j.size) d.size) l.size) o.size) f.size) p.size) q.size) h.size) r.size) s.size) i.size) a) (e▸hx)) aA)) (dp.upd8 O (ax (ap.safe u _ (by decide)) aK))) (by decide)) (ax (aY a9 (by decide)) aK))),cM,(aq bw Q (fun x hx=>(aa (fun e=>(aB (au hm) (le (le (le (le (le (le (le (le (le (le (le b.size j.size) d.size) l.size) o.size) f.size) p.size) q.size) h.size) r.size) s.size) i.size) bw) (e▸hx)) aA)) (dp.upd8 Q (ax (aY bC (by decide)) aK))),(by(try dsimp only);omega),(by(try dsimp only);rw[← hobj,show x62.byteV.toNat-k=(x62.byteV.toNat-(k+1))+1 from by omega];rfl),(by(try dsimp only);(try simp only[List.length_append,List.length_cons,List.length_nil]);omega)⟩ (by omega)
 refine  cK (m:=1) (e:=111) #[.int .u8 C.byteV,.slice bm ((((C.bytesC 1).bytesC 1).bytesR ((C.bytesC 1).byteV)).length) bo] fun dZ e0 e1 cN S=>?_
 have cO:=kg (R:=dp true) (x:=(Obj.mk C.byteV (((C.bytesC 1).bytesC 1).bytesR ((C.bytesC 1).byteV)))) cN rfl ⟨_,rfl,(bh.upd' bq S aK),b8 (by omega)⟩
 refine bj trivial fun e2=>?_
 have T:=u1 y (uz t (u1 B (aG H S) im)) im
 have bD:=b6 T (Ne.symm hne) D
 refine R0 4 rfl<|aP bD 21<|bj trivial fun e3=>?_
 have bE:=aq a T (fun x hx=>(aa (fun e=>(aB (ap.lt hC) (le (le (le (le (le (le (le (le (le (le (le b.size j.size) d.size) l.size) o.size) f.size) p.size) q.size) h.size) r.size) s.size) i.size) a) (e▸hx)) aA)) (dp.upd8 T (ax (ap.safe u _ (by decide)) aK))
 refine R0 13 rfl<|gX (xs:=L) (ys:=([(Obj.mk C.byteV (((C.bytesC 1).bytesC 1).bytesR ((C.bytesC 1).byteV)))])) (.agg #[.int .u8 0,.slice none 0 0]) 2 32 bE cO (by simp) dp.ones (fun w' hv=>dp.upd8 hv (d9 (dC _ bE (by decide)) aK)) (by(try simp only[List.length_append,List.length_cons,List.length_nil,ay]);omega) (le (le (le (le (le v.size y.size) t.size) B.size) H.size) S.size) fun bF bG e4 bH bI=>bj trivial fun bJ=>Rt 14 bJ<|Rt 15 bJ<|?_
 have bK:=aF.blk bI (bf (aB (au hm) (le (le (le (le (le (le (le (le (le (le (le b.size j.size) d.size) l.size) o.size) f.size) p.size) q.size) h.size) r.size) s.size) i.size) a) aA) bD
 refine R0 16 rfl<|cj bK 21 (mG c 0 0 0 0 0 0 0 0 0 0 0 nS nS nS nS me kd C0.byteV x25.byteV x44.byteV (.slice bF ((L++[(Obj.mk C.byteV (((C.bytesC 1).bytesC 1).bytesR ((C.bytesC 1).byteV)))]).length) bG)) fun e5 cQ af=>bj trivial fun e6=>re<|bn<|tn<|go<|L0<|Oi (((k:Nat) : Int)+1)<|Pl 1<|nl<|?_
 subst br
 have bL:=u1 (aF.mono (S':=(ob A++(gm :: []))) bI (al il av)) af im
 have ag:=u1 y (uz t (u1 B H im)) im
 exact gM ((k+1),(((C.bytesC 1).bytesC 1).bytesC ((C.bytesC 1).byteV)),(L++[(Obj.mk C.byteV (((C.bytesC 1).bytesC 1).bytesR ((C.bytesC 1).byteV)))]),bF,bG) ⟨(ut v (ut (aF.mono (S':=(g :: (ob A++(gm :: [])))) T (ac im av)) bL (al il (ac im av))) (ac im (al (aM a lr) (ac im av)))),(ap.upd bs (ut (aF.mono (S':=(ob A++(gm :: []))) S av) bL (al il (ac im av))) (bf (aB (ap.lt hC) (le (le (le (le (le (le (le (le (le (le (le b.size j.size) d.size) l.size) o.size) f.size) p.size) q.size) h.size) r.size) s.size) i.size) a) (aa hne aA)) (d9 (dC _ (aq a ag (fun x hx=>(aa (fun e=>(aB (ap.lt hC) (le (le (le (le (le (le (le (le (le (le (le b.size j.size) d.size) l.size) o.size) f.size) p.size) q.size) h.size) r.size) s.size) i.size) a) (e▸hx)) aA)) (dp.upd8 ag (ax (ap.safe u _ (by decide)) aK))) (by decide)) (ax (aY (b6 ag (Ne.symm hne) D) (by decide)) aK))),cQ,(aq bH af (fun x hx=>(aa (fun e=>(aB (au hm) (le (le (le (le (le (le (le (le (le (le (le b.size j.size) d.size) l.size) o.size) f.size) p.size) q.size) h.size) r.size) s.size) i.size) bH) (e▸hx)) aA)) (dp.upd8 af (ax (aY bK (by decide)) aK))),(by(try dsimp only);omega),(by(try dsimp only);rw[← hobj,show x62.byteV.toNat-k=(x62.byteV.toNat-(k+1))+1 from by omega];rfl),(by(try dsimp only);(try simp only[List.length_append,List.length_cons,List.length_nil]);omega)⟩ (by omega)
 have cd:=of_decide_eq_false Y
 refine xt<|tx<|tx<|bx<|rm (.tuple #[])<|?_
 subst c4 bY bT bO
 have hf:dJ kd C0=(C,L):=by
   have h1:ea ((((((C0.bytesC 1).need (cl C0.byteV) 6).bytesC 1).need ((((C0.bytesC 1).need (cl C0.byteV) 6).byteV==0)||(((C0.bytesC 1).need (cl C0.byteV) 6).byteV==255)) 6).bytesC 1).need ((((C0.bytesC 1).need (cl C0.byteV) 6).byteV != 0)||(((((C0.bytesC 1).need (cl C0.byteV) 6).bytesC 1).need ((((C0.bytesC 1).need (cl C0.byteV) 6).byteV==0)||(((C0.bytesC 1).need (cl C0.byteV) 6).byteV==255)) 6).byteV==0)) 6).byteV.toNat ((((((((C0.bytesC 1).need (cl C0.byteV) 6).bytesC 1).need ((((C0.bytesC 1).need (cl C0.byteV) 6).byteV==0)||(((C0.bytesC 1).need (cl C0.byteV) 6).byteV==255)) 6).bytesC 1).need ((((C0.bytesC 1).need (cl C0.byteV) 6).byteV != 0)||(((((C0.bytesC 1).need (cl C0.byteV) 6).bytesC 1).need ((((C0.bytesC 1).need (cl C0.byteV) 6).byteV==0)||(((C0.bytesC 1).need (cl C0.byteV) 6).byteV==255)) 6).byteV==0)) 6).bytesC 1).need ((kd != 4)||(((((((C0.bytesC 1).need (cl C0.byteV) 6).bytesC 1).need ((((C0.bytesC 1).need (cl C0.byteV) 6).byteV==0)||(((C0.bytesC 1).need (cl C0.byteV) 6).byteV==255)) 6).bytesC 1).need ((((C0.bytesC 1).need (cl C0.byteV) 6).byteV != 0)||(((((C0.bytesC 1).need (cl C0.byteV) 6).bytesC 1).need ((((C0.bytesC 1).need (cl C0.byteV) 6).byteV==0)||(((C0.bytesC 1).need (cl C0.byteV) 6).byteV==255)) 6).byteV==0)) 6).byteV==1)) 5) []=(C,L):=by
     rw[← hobj,show((((((C0.bytesC 1).need (cl C0.byteV) 6).bytesC 1).need ((((C0.bytesC 1).need (cl C0.byteV) 6).byteV==0)||(((C0.bytesC 1).need (cl C0.byteV) 6).byteV==255)) 6).bytesC 1).need ((((C0.bytesC 1).need (cl C0.byteV) 6).byteV != 0)||(((((C0.bytesC 1).need (cl C0.byteV) 6).bytesC 1).need ((((C0.bytesC 1).need (cl C0.byteV) 6).byteV==0)||(((C0.bytesC 1).need (cl C0.byteV) 6).byteV==255)) 6).byteV==0)) 6).byteV.toNat-k=0 from by omega]
     rfl
   exact h1
 rw[hf]
 exact⟨rfl,u,⟨_,⟨D,rfl⟩,⟨_,_,_,_,_,rfl,aS.nil ..,aS.nil ..,aS.nil ..,aS.nil ..,(a).rd,⟨(b8 (x:=c) (by omega)),(b8 (x:=0) (by omega)),(aD (x:=0) (by omega)),(aD (x:=0) (by omega)),(aD (x:=0) (by omega)),(aD (x:=0) (by omega)),(aD (x:=0) (by omega)),(aD (x:=0) (by omega)),(aD (x:=0) (by omega)),(aD (x:=0) (by omega)),(aD (x:=0) (by omega)),(aD (x:=0) (by omega)),(b8 (x:=me) (by omega)),(b8 (x:=kd) (by omega)),(b8 (x:=C0.byteV) (by omega)),(b8 (x:=((C0.bytesC 1).need (cl C0.byteV) 6).byteV) (by omega)),(b8 (x:=((((C0.bytesC 1).need (cl C0.byteV) 6).bytesC 1).need ((((C0.bytesC 1).need (cl C0.byteV) 6).byteV==0)||(((C0.bytesC 1).need (cl C0.byteV) 6).byteV==255)) 6).byteV) (by omega))⟩⟩⟩,(ui b (ui am (ui an (ui f (ui aw (ui h (ui aH (ui i v))))))))⟩
open Go.RowKit
def dk (C:aj) : aj:=(C.bytesC 1).need (C.byteV==13 || C.byteV==14) 8
def ex (C:aj) : aj:=(dk C).need (decide (((dk C).l.length:Int)≤251)) 5
def dZ (C:aj) : aj:=((dk C).bytesC 1).need (decide (1≤(dk C).byteV)&&decide ((dk C).byteV≤4)) 6
def bz (dir c:Int)(C:aj) : Option (aj × aQ) :=
  if c != 43 then none
  else if C.byteV==13 then some ((ex C).bytesC ((ex C).l.length:Int),{ aQ.zero with code:=c,mei:=C.byteV,data:=(ex C).bytesR ((ex C).l.length:Int) })
  else if dir==1 then some ((dJ (dk C).byteV (dZ C)).1,{ aQ.zero with code:=c,mei:=C.byteV,kind:=(dk C).byteV,level:=(dZ C).byteV,more:=(jk (dZ C)).byteV,next:=(jt (dZ C)).byteV,objects:=(dJ (dk C).byteV (dZ C)).2 })
  else some ((dZ C).bytesC 1,{ aQ.zero with code:=c,mei:=C.byteV,kind:=(dk C).byteV,next:=(dZ C).byteV })
theorem ow{m:Md}{A:Option Addr}{cp:Nat}{b:List Int}{w:World}{c:Int}(hcode:B8 c)(hsl:bh m w (.slice A b.length cp) b)(hb:b.length≤1048576) :
    Calls Tryz.prog 146 #[.int .i64 0,.int .u8 c,.slice A b.length cp] w (eb (ag bz 0 c b) w):=by
 obtain⟨hcode1,hcode2⟩:=hcode
 have hln:(b.length:Int)≤1048576:=by omega
 refine en 81 Tryz.func146 rfl<|sg<|L0<|bO mZ fun O bb q i j=>Pl 1<|nt<|sq<|bk<|sg<|Pl 7<|nt<|?_
 refine c0<|sg<|Pl 3<|nt<|cb ((c != 43)) (fun f=>?_) (fun f=>?_)
 have ar:=az f
 refine sg<|Pl 1<|L0<|be i mZ fun bc au aw=>Pl 1<|nt<|rt<|br<|tr<|bP au (.int .i64 4)<|?_
 have hs:ag bz 0 c b=(aQ.zero,4):=by
   unfold ag bz ex dZ dk
   (try simp only[f,bs,if_true,if_false,decide_true,decide_false,eq_self,true_or,or_true,or_false,false_or,if_true,if_false,cy,co,cw,cv,reduceIte])
   all_goals rfl
 rw[hs]
 exact cR (ud j aw q)
 have ar:=ai f
 refine sk<|bn<|tn<|sg<|Pl 1<|?_
 refine L0<|Oc<|e3 (dW (bh.old hsl j) (by omega)) fun P bd a Q k=>Pl 1<|ng<|Pl 2<|L0<|Oc<|m3 (ch Q) fun bf ay g bi=>Pl 1<|L0<|bO mZ fun R bj h aB aC=>L0<|be aB (mG c 0 0 0 0 0 0 0 0 0 0 0 nS nS nS nS ((aj.mk b false 0).byteV) 0 0 0 0 nS) fun bm E aE=>nt<|sq<|?_
 refine go<|Pl 2<|L0<|aP E 16<|Pl 2<|cu 4 [33] 37 (((((aj.mk b false 0).byteV)==13)||(((aj.mk b false 0).byteV)==14))) (fun K S=>?_) ?_
 refine bl 33 ((((aj.mk b false 0).byteV)==13)) (fun r=>?_) (fun r=>?_)
 have aH:=ae r
 exact Pl 4<|ce S true (by rw[r];rfl)
 have aH:=ak r
 exact Pl 1<|L1<|aP E 16<|Pl 2<|ce S (((aj.mk b false 0).byteV)==14) (by rw[r];rfl)
 have T:=ud aC aE h
 refine L0<|Oc<|m2 (bg (((((aj.mk b false 0).byteV)==13)||(((aj.mk b false 0).byteV)==14))) 8 (ap.old ay T)) fun bo aI U=>?_
 refine ab aI fun x45 v y=>?_
 refine nt<|sq<|sg<|Pl 1<|?_
 have d:=nb (ap.lt Q) g.size h
 have F:=b6 U (Ne.symm d) E
 refine L0<|aP F 16<|Pl 1<|nt<|?_
 have o:=ud k (u1 g (uz T U) im) a
 have V:=aG j o
 refine cb ((((aj.mk b false 0).byteV)==13)) (fun p=>?_) (fun p=>?_)
 have aJ:=ae p
 refine sg<|Pl 2<|L0<|Oc<|mq (eh y)<|?_
 have bq:=ap.len y
 refine Pl 1<|L0<|Oc<|m2 (bg ((decide (((x45.l.length:Nat) : Int)≤251))) 5 y) fun bt aM aN=>?_
 refine ab aM fun x59 W z=>?_
 refine nt<|go<|Pl 2<|L0<|Oc<|mq (eh z)<|?_
 have bu:=ap.len z
 refine L0<|Oc<|qX (cL (n:=((x59.l.length:Nat) : Int)) z) fun X Y bv Z bw bx aO aR=>?_
 have bA:=Nat.le_trans (aj.bytesR_le x59 ((x59.l.length:Nat) : Int)) (ap.len z)
 refine ab aO fun x69 a0 G=>?_
 refine Pl 1<|?_
 have B:=u1 aN aR im
 have C:=b6 B (Ne.symm d) F
 refine L0<|cj C 14 (mG c 0 0 0 0 0 0 0 0 0 0 0 nS nS (.slice X ((x59.bytesR ((x59.l.length:Nat) : Int)).length) Y) nS ((aj.mk b false 0).byteV) 0 0 0 0 nS) fun bB aT a1=>ng<|Pl 1<|?_
 refine L0<|Oc<|m2 (cG (ap.upd G a1 (aa d aA) (ax (aY C (by decide)) aK))) fun bD a2 a3=>nt<|sq<|sg<|Pl 1<|L0<|Oc<|mq (bG a2)<|?_
 have bE:=ap.len a2
 refine Pl 1<|ng<|Pl 2<|nt<|?_
 have H:=us a1 a3
 have I:=ui B H
 have a4:=ut V I (ac (ni (le (le j.size k.size) g.size) h) (ac (ni j.size a) av))
 refine cb ((x69.endC.e != 0)) (fun s=>?_) (fun s=>?_)
 have J:=az s
 refine sg<|Pl 2<|?_
 refine L0<|be (ub (ut o I (ac (ni (le k.size g.size) h) (ac (nr a) av))) i) mZ fun bF aU a5=>Pl 1<|nt<|rt<|tr<|bP aU (.int .i64 x69.endC.e)<|?_
 subst a0 W v
 have bH:=bh.upd' Z (u1 (aF.mono (S':=[R,P,O]) H (ac im (ac im av))) a5 im) (ax (aY C (by decide)) (ax (ap.safe G _ (by decide)) (ax (aY (ub (ud o B a) i) (by decide)) aK)))
 have hs:ag bz 0 c b=aL (aQ.mk c 0 0 0 0 0 0 0 0 0 0 0 [] [] (((((aj.mk b false 0).bytesC 1).need ((((aj.mk b false 0).byteV)==13)||(((aj.mk b false 0).byteV)==14)) 8).need (decide ((((((aj.mk b false 0).bytesC 1).need ((((aj.mk b false 0).byteV)==13)||(((aj.mk b false 0).byteV)==14)) 8).l.length:Nat) : Int)≤251)) 5).bytesR ((((((aj.mk b false 0).bytesC 1).need ((((aj.mk b false 0).byteV)==13)||(((aj.mk b false 0).byteV)==14)) 8).need (decide ((((((aj.mk b false 0).bytesC 1).need ((((aj.mk b false 0).byteV)==13)||(((aj.mk b false 0).byteV)==14)) 8).l.length:Nat) : Int)≤251)) 5).l.length:Nat) : Int)) [] ((aj.mk b false 0).byteV) 0 0 0 0 []) (((((aj.mk b false 0).bytesC 1).need ((((aj.mk b false 0).byteV)==13)||(((aj.mk b false 0).byteV)==14)) 8).need (decide ((((((aj.mk b false 0).bytesC 1).need ((((aj.mk b false 0).byteV)==13)||(((aj.mk b false 0).byteV)==14)) 8).l.length:Nat) : Int)≤251)) 5).bytesC ((((((aj.mk b false 0).bytesC 1).need ((((aj.mk b false 0).byteV)==13)||(((aj.mk b false 0).byteV)==14)) 8).need (decide ((((((aj.mk b false 0).bytesC 1).need ((((aj.mk b false 0).byteV)==13)||(((aj.mk b false 0).byteV)==14)) 8).l.length:Nat) : Int)≤251)) 5).l.length:Nat) : Int)):=by
   unfold ag bz ex dZ dk
   (try simp only[f,p,s,bs,if_true,if_false,decide_true,decide_false,eq_self,true_or,or_true,or_false,false_or,if_true,if_false,cy,co,cw,cv,reduceIte])
   all_goals rfl
 rw[hs]
 exact bC J (ud a4 a5 q)
 have J:=ai s
 refine bp<|sg<|?_
 refine L0<|bS (b6 a3 (Ne.symm d) aT)<|?_
 refine L0<|be (ub (ut o I (ac (ni (le k.size g.size) h) (ac (nr a) av))) i) (mG c 0 0 0 0 0 0 0 0 0 0 0 nS nS (.slice X ((x59.bytesR ((x59.l.length:Nat) : Int)).length) Y) nS ((aj.mk b false 0).byteV) 0 0 0 0 nS) fun bJ aV a6=>Pl 1<|nt<|rt<|bP aV (.int .i64 0)<|?_
 subst a0 W v
 have hs:ag bz 0 c b=aL (aQ.mk c 0 0 0 0 0 0 0 0 0 0 0 [] [] (((((aj.mk b false 0).bytesC 1).need ((((aj.mk b false 0).byteV)==13)||(((aj.mk b false 0).byteV)==14)) 8).need (decide ((((((aj.mk b false 0).bytesC 1).need ((((aj.mk b false 0).byteV)==13)||(((aj.mk b false 0).byteV)==14)) 8).l.length:Nat) : Int)≤251)) 5).bytesR ((((((aj.mk b false 0).bytesC 1).need ((((aj.mk b false 0).byteV)==13)||(((aj.mk b false 0).byteV)==14)) 8).need (decide ((((((aj.mk b false 0).bytesC 1).need ((((aj.mk b false 0).byteV)==13)||(((aj.mk b false 0).byteV)==14)) 8).l.length:Nat) : Int)≤251)) 5).l.length:Nat) : Int)) [] ((aj.mk b false 0).byteV) 0 0 0 0 []) (((((aj.mk b false 0).bytesC 1).need ((((aj.mk b false 0).byteV)==13)||(((aj.mk b false 0).byteV)==14)) 8).need (decide ((((((aj.mk b false 0).bytesC 1).need ((((aj.mk b false 0).byteV)==13)||(((aj.mk b false 0).byteV)==14)) 8).l.length:Nat) : Int)≤251)) 5).bytesC ((((((aj.mk b false 0).bytesC 1).need ((((aj.mk b false 0).byteV)==13)||(((aj.mk b false 0).byteV)==14)) 8).need (decide ((((((aj.mk b false 0).bytesC 1).need ((((aj.mk b false 0).byteV)==13)||(((aj.mk b false 0).byteV)==14)) 8).l.length:Nat) : Int)≤251)) 5).l.length:Nat) : Int)):=by
   unfold ag bz ex dZ dk
   (try simp only[f,p,s,bs,if_true,if_false,decide_true,decide_false,eq_self,true_or,or_true,or_false,false_or,if_true,if_false,cy,co,cw,cv,reduceIte])
   all_goals rfl
 rw[hs]
 exact bI J ⟨_,_,_,_,_,rfl,aS.nil ..,aS.nil ..,(bh.upd' Z (u1 (aF.mono (S':=[R,P,O]) H (ac im (ac im av))) a6 im) (ax (aY C (by decide)) (ax (ap.safe G _ (by decide)) (ax (aY (ub (ud o B a) i) (by decide)) aK)))),aS.nil ..,aS.nil ..,⟨(b8 (x:=c) (by omega)),(b8 (x:=0) (by omega)),(aD (x:=0) (by omega)),(aD (x:=0) (by omega)),(aD (x:=0) (by omega)),(aD (x:=0) (by omega)),(aD (x:=0) (by omega)),(aD (x:=0) (by omega)),(aD (x:=0) (by omega)),(aD (x:=0) (by omega)),(aD (x:=0) (by omega)),(aD (x:=0) (by omega)),(b8 (x:=(aj.mk b false 0).byteV) (by omega)),(b8 (x:=0) (by omega)),(b8 (x:=0) (by omega)),(b8 (x:=0) (by omega)),(b8 (x:=0) (by omega))⟩⟩ (ud a4 a6 q)
 have aJ:=ak p
 refine sg<|Pl 1<|L0<|Oc<|m3 (ch y) fun bK aW a7 bL=>Pl 1<|?_
 have a8:=b6 a7 (Ne.symm d) F
 refine L0<|cj a8 17 (mG c 0 0 0 0 0 0 0 0 0 0 0 nS nS nS nS ((aj.mk b false 0).byteV) x45.byteV 0 0 0 nS) fun bM L a9=>ng<|Pl 2<|L0<|aP L 17<|Pl 2<|cu 4 [59] 63 (((decide (1≤x45.byteV))&&(decide (x45.byteV≤4)))) (fun K ad=>?_) ?_
 refine bl 59 ((decide (1≤x45.byteV))) (fun t=>?_) (fun t=>?_)
 have aX:=of_decide_eq_true t
 exact Pl 1<|L1<|aP L 17<|Pl 2<|ce ad (decide (x45.byteV≤4)) (by rw[t];rfl)
 have aX:=of_decide_eq_false t
 exact Pl 4<|ce ad false (by rw[t];rfl)
 refine L0<|Oc<|m2 (bg (((decide (1≤x45.byteV))&&(decide (x45.byteV≤4)))) 6 (ap.upd aW a9 (aa d aA) (ax (aY a8 (by decide)) aK))) fun bN aZ b0=>?_
 refine ab aZ fun D af b1=>?_
 refine ng<|Pl 2<|nt<|c0<|go<|Pl 1<|L0<|Oc<|m3 (ch b1) fun bQ b2 b3 bR=>Pl 1<|?_
 have ah:=u1 b0 b3 im
 have al:=b6 ah (Ne.symm d) L
 refine L0<|cj al 20 (mG c 0 0 0 0 0 0 0 0 0 0 0 nS nS nS nS ((aj.mk b false 0).byteV) x45.byteV 0 0 D.byteV nS) fun bT b4 am=>ng<|Pl 1<|?_
 refine L0<|Oc<|m2 (cG (ap.upd b2 am (aa d aA) (ax (aY al (by decide)) aK))) fun bU an ao=>nt<|sq<|sg<|Pl 1<|L0<|Oc<|mq (bG an)<|?_
 have bV:=ap.len an
 refine Pl 1<|ng<|Pl 2<|nt<|?_
 have M:=ui a7 (ui a9 (ui ah (us am ao)))
 have aq:=ut V M (ac (ni (le (le j.size k.size) g.size) h) (ac (ni j.size a) av))
 refine cb (((((D.bytesC 1).endC).e)!=0)) (fun u=>?_) (fun u=>?_)
 have N:=az u
 refine sg<|Pl 2<|?_
 refine L0<|be (ub (ut o M (ac (ni (le k.size g.size) h) (ac (nr a) av))) i) mZ fun bW b5 b7=>Pl 1<|nt<|rt<|tr<|bP b5 (.int .i64 (((D.bytesC 1).endC).e))<|?_
 subst af v
 have hs:ag bz 0 c b=aL (aQ.mk c 0 0 0 0 0 0 0 0 0 0 0 [] [] [] [] ((aj.mk b false 0).byteV) ((((aj.mk b false 0).bytesC 1).need ((((aj.mk b false 0).byteV)==13)||(((aj.mk b false 0).byteV)==14)) 8).byteV) 0 0 ((((((aj.mk b false 0).bytesC 1).need ((((aj.mk b false 0).byteV)==13)||(((aj.mk b false 0).byteV)==14)) 8).bytesC 1).need ((decide (1≤(((aj.mk b false 0).bytesC 1).need ((((aj.mk b false 0).byteV)==13)||(((aj.mk b false 0).byteV)==14)) 8).byteV))&&(decide ((((aj.mk b false 0).bytesC 1).need ((((aj.mk b false 0).byteV)==13)||(((aj.mk b false 0).byteV)==14)) 8).byteV≤4))) 6).byteV) []) ((((((aj.mk b false 0).bytesC 1).need ((((aj.mk b false 0).byteV)==13)||(((aj.mk b false 0).byteV)==14)) 8).bytesC 1).need ((decide (1≤(((aj.mk b false 0).bytesC 1).need ((((aj.mk b false 0).byteV)==13)||(((aj.mk b false 0).byteV)==14)) 8).byteV))&&(decide ((((aj.mk b false 0).bytesC 1).need ((((aj.mk b false 0).byteV)==13)||(((aj.mk b false 0).byteV)==14)) 8).byteV≤4))) 6).bytesC 1):=by
   unfold ag bz ex dZ dk
   (try simp only[f,p,u,bs,if_true,if_false,decide_true,decide_false,eq_self,true_or,or_true,or_false,false_or,if_true,if_false,cy,co,cw,cv,reduceIte])
   all_goals rfl
 rw[hs]
 exact bC N (ud aq b7 q)
 have N:=ai u
 refine bp<|sg<|?_
 refine L0<|bS (b6 ao (Ne.symm d) b4)<|?_
 refine L0<|be (ub (ut o M (ac (ni (le k.size g.size) h) (ac (nr a) av))) i) (mG c 0 0 0 0 0 0 0 0 0 0 0 nS nS nS nS ((aj.mk b false 0).byteV) x45.byteV 0 0 D.byteV nS) fun bX b9 ba=>Pl 1<|nt<|rt<|bP b9 (.int .i64 0)<|?_
 subst af v
 have hs:ag bz 0 c b=aL (aQ.mk c 0 0 0 0 0 0 0 0 0 0 0 [] [] [] [] ((aj.mk b false 0).byteV) ((((aj.mk b false 0).bytesC 1).need ((((aj.mk b false 0).byteV)==13)||(((aj.mk b false 0).byteV)==14)) 8).byteV) 0 0 ((((((aj.mk b false 0).bytesC 1).need ((((aj.mk b false 0).byteV)==13)||(((aj.mk b false 0).byteV)==14)) 8).bytesC 1).need ((decide (1≤(((aj.mk b false 0).bytesC 1).need ((((aj.mk b false 0).byteV)==13)||(((aj.mk b false 0).byteV)==14)) 8).byteV))&&(decide ((((aj.mk b false 0).bytesC 1).need ((((aj.mk b false 0).byteV)==13)||(((aj.mk b false 0).byteV)==14)) 8).byteV≤4))) 6).byteV) []) ((((((aj.mk b false 0).bytesC 1).need ((((aj.mk b false 0).byteV)==13)||(((aj.mk b false 0).byteV)==14)) 8).bytesC 1).need ((decide (1≤(((aj.mk b false 0).bytesC 1).need ((((aj.mk b false 0).byteV)==13)||(((aj.mk b false 0).byteV)==14)) 8).byteV))&&(decide ((((aj.mk b false 0).bytesC 1).need ((((aj.mk b false 0).byteV)==13)||(((aj.mk b false 0).byteV)==14)) 8).byteV≤4))) 6).bytesC 1):=by
   unfold ag bz ex dZ dk
   (try simp only[f,p,u,bs,if_true,if_false,decide_true,decide_false,eq_self,true_or,or_true,or_false,false_or,if_true,if_false,cy,co,cw,cv,reduceIte])
   all_goals rfl
 rw[hs]
 exact bI N ⟨_,_,_,_,_,rfl,aS.nil ..,aS.nil ..,aS.nil ..,aS.nil ..,aS.nil ..,⟨(b8 (x:=c) (by omega)),(b8 (x:=0) (by omega)),(aD (x:=0) (by omega)),(aD (x:=0) (by omega)),(aD (x:=0) (by omega)),(aD (x:=0) (by omega)),(aD (x:=0) (by omega)),(aD (x:=0) (by omega)),(aD (x:=0) (by omega)),(aD (x:=0) (by omega)),(aD (x:=0) (by omega)),(aD (x:=0) (by omega)),(b8 (x:=(aj.mk b false 0).byteV) (by omega)),(b8 (x:=(((aj.mk b false 0).bytesC 1).need ((((aj.mk b false 0).byteV)==13)||(((aj.mk b false 0).byteV)==14)) 8).byteV) (by omega)),(b8 (x:=0) (by omega)),(b8 (x:=0) (by omega)),(b8 (x:=(((((aj.mk b false 0).bytesC 1).need ((((aj.mk b false 0).byteV)==13)||(((aj.mk b false 0).byteV)==14)) 8).bytesC 1).need ((decide (1≤(((aj.mk b false 0).bytesC 1).need ((((aj.mk b false 0).byteV)==13)||(((aj.mk b false 0).byteV)==14)) 8).byteV))&&(decide ((((aj.mk b false 0).bytesC 1).need ((((aj.mk b false 0).byteV)==13)||(((aj.mk b false 0).byteV)==14)) 8).byteV≤4))) 6).byteV) (by omega))⟩⟩ (ud aq ba q)
theorem nZ{m:Md}{A:Option Addr}{cp:Nat}{b:List Int}{w:World}{c:Int}(hcode:B8 c)(hsl:bh m w (.slice A b.length cp) b)(hb:b.length≤1048576) :
    Calls Tryz.prog 146 #[.int .i64 1,.int .u8 c,.slice A b.length cp] w (eb (ag bz 1 c b) w):=by
 obtain⟨hcode1,hcode2⟩:=hcode
 have hln:(b.length:Int)≤1048576:=by omega
 refine en 81 Tryz.func146 rfl<|sg<|L0<|bO mZ fun T bi q h o=>Pl 1<|nt<|sq<|bk<|sg<|Pl 7<|nt<|?_
 refine c0<|sg<|Pl 3<|nt<|cb ((c != 43)) (fun i=>?_) (fun i=>?_)
 have aB:=az i
 refine sg<|Pl 1<|L0<|be h mZ fun bj aC aE=>Pl 1<|nt<|rt<|br<|tr<|bP aC (.int .i64 4)<|?_
 have hs:ag bz 1 c b=(aQ.zero,4):=by
   unfold ag bz ex dZ dk
   (try simp only[i,bs,if_true,if_false,decide_true,decide_false,eq_self,true_or,or_true,or_false,false_or,if_true,if_false,cy,co,cw,cv,reduceIte])
   all_goals rfl
 rw[hs]
 exact cR (ud o aE q)
 have aB:=ai i
 refine sk<|bn<|tn<|sg<|Pl 1<|?_
 refine L0<|Oc<|e3 (dW (bh.old hsl o) (by omega)) fun U bm a V j=>Pl 1<|ng<|Pl 2<|L0<|Oc<|m3 (ch V) fun bo aH d bq=>Pl 1<|L0<|bO mZ fun W bt f aI aJ=>L0<|be aI (mG c 0 0 0 0 0 0 0 0 0 0 0 nS nS nS nS ((aj.mk b false 0).byteV) 0 0 0 0 nS) fun bu E aM=>nt<|sq<|?_
 refine go<|Pl 2<|L0<|aP E 16<|Pl 2<|cu 4 [33] 37 (((((aj.mk b false 0).byteV)==13)||(((aj.mk b false 0).byteV)==14))) (fun K X=>?_) ?_
 refine bl 33 ((((aj.mk b false 0).byteV)==13)) (fun r=>?_) (fun r=>?_)
 have aR:=ae r
 exact Pl 4<|ce X true (by rw[r];rfl)
 have aR:=ak r
 exact Pl 1<|L1<|aP E 16<|Pl 2<|ce X (((aj.mk b false 0).byteV)==14) (by rw[r];rfl)
 have Y:=ud aJ aM f
 refine L0<|Oc<|m2 (bg (((((aj.mk b false 0).byteV)==13)||(((aj.mk b false 0).byteV)==14))) 8 (ap.old aH Y)) fun bv aT Z=>?_
 refine ab aT fun x45 v y=>?_
 refine nt<|sq<|sg<|Pl 1<|?_
 have g:=nb (ap.lt V) d.size f
 have F:=b6 Z (Ne.symm g) E
 refine L0<|aP F 16<|Pl 1<|nt<|?_
 have k:=ud j (u1 d (uz Y Z) im) a
 have a0:=aG o k
 refine cb ((((aj.mk b false 0).byteV)==13)) (fun p=>?_) (fun p=>?_)
 have aU:=ae p
 refine sg<|Pl 2<|L0<|Oc<|mq (eh y)<|?_
 have bw:=ap.len y
 refine Pl 1<|L0<|Oc<|m2 (bg ((decide (((x45.l.length:Nat) : Int)≤251))) 5 y) fun bx aV aW=>?_
 refine ab aV fun x59 a1 z=>?_
 refine nt<|go<|Pl 2<|L0<|Oc<|mq (eh z)<|?_
 have bA:=ap.len z
 refine L0<|Oc<|qX (cL (n:=((x59.l.length:Nat) : Int)) z) fun a2 a3 bB a4 bD bE aX aZ=>?_
 have bF:=Nat.le_trans (aj.bytesR_le x59 ((x59.l.length:Nat) : Int)) (ap.len z)
 refine ab aX fun x69 a5 G=>?_
 refine Pl 1<|?_
 have B:=u1 aW aZ im
 have C:=b6 B (Ne.symm g) F
 refine L0<|cj C 14 (mG c 0 0 0 0 0 0 0 0 0 0 0 nS nS (.slice a2 ((x59.bytesR ((x59.l.length:Nat) : Int)).length) a3) nS ((aj.mk b false 0).byteV) 0 0 0 0 nS) fun bH b0 a6=>ng<|Pl 1<|?_
 refine L0<|Oc<|m2 (cG (ap.upd G a6 (aa g aA) (ax (aY C (by decide)) aK))) fun bJ a7 a8=>nt<|sq<|sg<|Pl 1<|L0<|Oc<|mq (bG a7)<|?_
 have bK:=ap.len a7
 refine Pl 1<|ng<|Pl 2<|nt<|?_
 have H:=us a6 a8
 have I:=ui B H
 have a9:=ut a0 I (ac (ni (le (le o.size j.size) d.size) f) (ac (ni o.size a) av))
 refine cb ((x69.endC.e != 0)) (fun s=>?_) (fun s=>?_)
 have J:=az s
 refine sg<|Pl 2<|?_
 refine L0<|be (ub (ut k I (ac (ni (le j.size d.size) f) (ac (nr a) av))) h) mZ fun bL b1 ad=>Pl 1<|nt<|rt<|tr<|bP b1 (.int .i64 x69.endC.e)<|?_
 subst a5 a1 v
 have bM:=bh.upd' a4 (u1 (aF.mono (S':=[W,U,T]) H (ac im (ac im av))) ad im) (ax (aY C (by decide)) (ax (ap.safe G _ (by decide)) (ax (aY (ub (ud k B a) h) (by decide)) aK)))
 have hs:ag bz 1 c b=aL (aQ.mk c 0 0 0 0 0 0 0 0 0 0 0 [] [] (((((aj.mk b false 0).bytesC 1).need ((((aj.mk b false 0).byteV)==13)||(((aj.mk b false 0).byteV)==14)) 8).need (decide ((((((aj.mk b false 0).bytesC 1).need ((((aj.mk b false 0).byteV)==13)||(((aj.mk b false 0).byteV)==14)) 8).l.length:Nat) : Int)≤251)) 5).bytesR ((((((aj.mk b false 0).bytesC 1).need ((((aj.mk b false 0).byteV)==13)||(((aj.mk b false 0).byteV)==14)) 8).need (decide ((((((aj.mk b false 0).bytesC 1).need ((((aj.mk b false 0).byteV)==13)||(((aj.mk b false 0).byteV)==14)) 8).l.length:Nat) : Int)≤251)) 5).l.length:Nat) : Int)) [] ((aj.mk b false 0).byteV) 0 0 0 0 []) (((((aj.mk b false 0).bytesC 1).need ((((aj.mk b false 0).byteV)==13)||(((aj.mk b false 0).byteV)==14)) 8).need (decide ((((((aj.mk b false 0).bytesC 1).need ((((aj.mk b false 0).byteV)==13)||(((aj.mk b false 0).byteV)==14)) 8).l.length:Nat) : Int)≤251)) 5).bytesC ((((((aj.mk b false 0).bytesC 1).need ((((aj.mk b false 0).byteV)==13)||(((aj.mk b false 0).byteV)==14)) 8).need (decide ((((((aj.mk b false 0).bytesC 1).need ((((aj.mk b false 0).byteV)==13)||(((aj.mk b false 0).byteV)==14)) 8).l.length:Nat) : Int)≤251)) 5).l.length:Nat) : Int)):=by
   unfold ag bz ex dZ dk
   (try simp only[i,p,s,bs,if_true,if_false,decide_true,decide_false,eq_self,true_or,or_true,or_false,false_or,if_true,if_false,cy,co,cw,cv,reduceIte])
   all_goals rfl
 rw[hs]
 exact bC J (ud a9 ad q)
 have J:=ai s
 refine bp<|sg<|?_
 refine L0<|bS (b6 a8 (Ne.symm g) b0)<|?_
 refine L0<|be (ub (ut k I (ac (ni (le j.size d.size) f) (ac (nr a) av))) h) (mG c 0 0 0 0 0 0 0 0 0 0 0 nS nS (.slice a2 ((x59.bytesR ((x59.l.length:Nat) : Int)).length) a3) nS ((aj.mk b false 0).byteV) 0 0 0 0 nS) fun bN b2 af=>Pl 1<|nt<|rt<|bP b2 (.int .i64 0)<|?_
 subst a5 a1 v
 have hs:ag bz 1 c b=aL (aQ.mk c 0 0 0 0 0 0 0 0 0 0 0 [] [] (((((aj.mk b false 0).bytesC 1).need ((((aj.mk b false 0).byteV)==13)||(((aj.mk b false 0).byteV)==14)) 8).need (decide ((((((aj.mk b false 0).bytesC 1).need ((((aj.mk b false 0).byteV)==13)||(((aj.mk b false 0).byteV)==14)) 8).l.length:Nat) : Int)≤251)) 5).bytesR ((((((aj.mk b false 0).bytesC 1).need ((((aj.mk b false 0).byteV)==13)||(((aj.mk b false 0).byteV)==14)) 8).need (decide ((((((aj.mk b false 0).bytesC 1).need ((((aj.mk b false 0).byteV)==13)||(((aj.mk b false 0).byteV)==14)) 8).l.length:Nat) : Int)≤251)) 5).l.length:Nat) : Int)) [] ((aj.mk b false 0).byteV) 0 0 0 0 []) (((((aj.mk b false 0).bytesC 1).need ((((aj.mk b false 0).byteV)==13)||(((aj.mk b false 0).byteV)==14)) 8).need (decide ((((((aj.mk b false 0).bytesC 1).need ((((aj.mk b false 0).byteV)==13)||(((aj.mk b false 0).byteV)==14)) 8).l.length:Nat) : Int)≤251)) 5).bytesC ((((((aj.mk b false 0).bytesC 1).need ((((aj.mk b false 0).byteV)==13)||(((aj.mk b false 0).byteV)==14)) 8).need (decide ((((((aj.mk b false 0).bytesC 1).need ((((aj.mk b false 0).byteV)==13)||(((aj.mk b false 0).byteV)==14)) 8).l.length:Nat) : Int)≤251)) 5).l.length:Nat) : Int)):=by
   unfold ag bz ex dZ dk
   (try simp only[i,p,s,bs,if_true,if_false,decide_true,decide_false,eq_self,true_or,or_true,or_false,false_or,if_true,if_false,cy,co,cw,cv,reduceIte])
   all_goals rfl
 rw[hs]
 exact bI J ⟨_,_,_,_,_,rfl,aS.nil ..,aS.nil ..,(bh.upd' a4 (u1 (aF.mono (S':=[W,U,T]) H (ac im (ac im av))) af im) (ax (aY C (by decide)) (ax (ap.safe G _ (by decide)) (ax (aY (ub (ud k B a) h) (by decide)) aK)))),aS.nil ..,aS.nil ..,⟨(b8 (x:=c) (by omega)),(b8 (x:=0) (by omega)),(aD (x:=0) (by omega)),(aD (x:=0) (by omega)),(aD (x:=0) (by omega)),(aD (x:=0) (by omega)),(aD (x:=0) (by omega)),(aD (x:=0) (by omega)),(aD (x:=0) (by omega)),(aD (x:=0) (by omega)),(aD (x:=0) (by omega)),(aD (x:=0) (by omega)),(b8 (x:=(aj.mk b false 0).byteV) (by omega)),(b8 (x:=0) (by omega)),(b8 (x:=0) (by omega)),(b8 (x:=0) (by omega)),(b8 (x:=0) (by omega))⟩⟩ (ud a9 af q)
 have aU:=ak p
 refine sg<|Pl 1<|L0<|Oc<|m3 (ch y) fun bQ b3 L bR=>Pl 1<|?_
 have ah:=b6 L (Ne.symm g) F
 refine L0<|cj ah 17 (mG c 0 0 0 0 0 0 0 0 0 0 0 nS nS nS nS ((aj.mk b false 0).byteV) x45.byteV 0 0 0 nS) fun bT M N=>ng<|Pl 2<|L0<|aP M 17<|Pl 2<|cu 4 [59] 63 (((decide (1≤x45.byteV))&&(decide (x45.byteV≤4)))) (fun K al=>?_) ?_
 refine bl 59 ((decide (1≤x45.byteV))) (fun t=>?_) (fun t=>?_)
 have b4:=of_decide_eq_true t
 exact Pl 1<|L1<|aP M 17<|Pl 2<|ce al (decide (x45.byteV≤4)) (by rw[t];rfl)
 have b4:=of_decide_eq_false t
 exact Pl 4<|ce al false (by rw[t];rfl)
 refine L0<|Oc<|m2 (bg (((decide (1≤x45.byteV))&&(decide (x45.byteV≤4)))) 6 (ap.upd b3 N (aa g aA) (ax (aY ah (by decide)) aK))) fun bU b5 O=>?_
 refine ab b5 fun bV am b7=>?_
 refine ng<|Pl 2<|nt<|c1<|go<|Pl 1<|?_
 refine L0<|Oc<|m3 (pU (c:=c) (me:=(aj.mk b false 0).byteV) (kd:=x45.byteV) ⟨hcode1,hcode2⟩ (b8 (by omega)) (b8 (by omega)) b7 (b6 O (Ne.symm g) M) g) fun bW an b9 ao=>?_
 obtain⟨ba,D,P⟩:=b9
 refine ng<|Pl 1<|L0<|Oc<|m2 (cG an) fun bX bb Q=>?_
 refine ab bb fun aq ar au=>?_
 refine nt<|sq<|sg<|Pl 1<|L0<|Oc<|mq (bG au)<|?_
 have bY:=ap.len au
 refine Pl 1<|ng<|Pl 2<|nt<|?_
 have R:=ui L (ui N (ui O (u1 ao Q im)))
 have aw:=ut a0 R (ac (ni o.size a) (ac (ni (le (le o.size j.size) d.size) f) av))
 refine cb ((aq.e != 0)) (fun u=>?_) (fun u=>?_)
 have S:=az u
 refine sg<|Pl 2<|?_
 refine L0<|be (ub (ut k R (ac (nr a) (ac (ni (le j.size d.size) f) av))) h) mZ fun bZ bc bd=>Pl 1<|nt<|rt<|tr<|bP bc (.int .i64 aq.e)<|?_
 subst ar am v
 have hs:ag bz 1 c b=aL ({ aQ.zero with code:=c,mei:=(aj.mk b false 0).byteV,kind:=(((aj.mk b false 0).bytesC 1).need ((((aj.mk b false 0).byteV)==13)||(((aj.mk b false 0).byteV)==14)) 8).byteV,level:=(((((aj.mk b false 0).bytesC 1).need ((((aj.mk b false 0).byteV)==13)||(((aj.mk b false 0).byteV)==14)) 8).bytesC 1).need ((decide (1≤(((aj.mk b false 0).bytesC 1).need ((((aj.mk b false 0).byteV)==13)||(((aj.mk b false 0).byteV)==14)) 8).byteV))&&(decide ((((aj.mk b false 0).bytesC 1).need ((((aj.mk b false 0).byteV)==13)||(((aj.mk b false 0).byteV)==14)) 8).byteV≤4))) 6).byteV,more:=(jk (((((aj.mk b false 0).bytesC 1).need ((((aj.mk b false 0).byteV)==13)||(((aj.mk b false 0).byteV)==14)) 8).bytesC 1).need ((decide (1≤(((aj.mk b false 0).bytesC 1).need ((((aj.mk b false 0).byteV)==13)||(((aj.mk b false 0).byteV)==14)) 8).byteV))&&(decide ((((aj.mk b false 0).bytesC 1).need ((((aj.mk b false 0).byteV)==13)||(((aj.mk b false 0).byteV)==14)) 8).byteV≤4))) 6)).byteV,next:=(jt (((((aj.mk b false 0).bytesC 1).need ((((aj.mk b false 0).byteV)==13)||(((aj.mk b false 0).byteV)==14)) 8).bytesC 1).need ((decide (1≤(((aj.mk b false 0).bytesC 1).need ((((aj.mk b false 0).byteV)==13)||(((aj.mk b false 0).byteV)==14)) 8).byteV))&&(decide ((((aj.mk b false 0).bytesC 1).need ((((aj.mk b false 0).byteV)==13)||(((aj.mk b false 0).byteV)==14)) 8).byteV≤4))) 6)).byteV,objects:=(dJ (((aj.mk b false 0).bytesC 1).need ((((aj.mk b false 0).byteV)==13)||(((aj.mk b false 0).byteV)==14)) 8).byteV (((((aj.mk b false 0).bytesC 1).need ((((aj.mk b false 0).byteV)==13)||(((aj.mk b false 0).byteV)==14)) 8).bytesC 1).need ((decide (1≤(((aj.mk b false 0).bytesC 1).need ((((aj.mk b false 0).byteV)==13)||(((aj.mk b false 0).byteV)==14)) 8).byteV))&&(decide ((((aj.mk b false 0).bytesC 1).need ((((aj.mk b false 0).byteV)==13)||(((aj.mk b false 0).byteV)==14)) 8).byteV≤4))) 6)).2 }) ((dJ (((aj.mk b false 0).bytesC 1).need ((((aj.mk b false 0).byteV)==13)||(((aj.mk b false 0).byteV)==14)) 8).byteV (((((aj.mk b false 0).bytesC 1).need ((((aj.mk b false 0).byteV)==13)||(((aj.mk b false 0).byteV)==14)) 8).bytesC 1).need ((decide (1≤(((aj.mk b false 0).bytesC 1).need ((((aj.mk b false 0).byteV)==13)||(((aj.mk b false 0).byteV)==14)) 8).byteV))&&(decide ((((aj.mk b false 0).bytesC 1).need ((((aj.mk b false 0).byteV)==13)||(((aj.mk b false 0).byteV)==14)) 8).byteV≤4))) 6)).1):=by
   unfold ag bz ex dZ dk
   (try simp only[i,p,u,bs,if_true,if_false,decide_true,decide_false,eq_self,true_or,or_true,or_false,false_or,if_true,if_false,cy,co,cw,cv,reduceIte])
   all_goals rfl
 rw[hs]
 exact bC S (ud aw bd q)
 have S:=ai u
 refine bp<|sg<|?_
 refine L0<|bS (hz:=(by rw[D.2];exact aO)) (b6 Q (Ne.symm g) D.1)<|?_
 refine L0<|be (hz:=(by rw[D.2];exact aO)) (hv:=P.size) (h1:=P.one) (ub (ut k R (ac (nr a) (ac (ni (le j.size d.size) f) av))) h) (ba) fun c2 bf ay=>Pl 1<|nt<|rt<|eJ 22 D.2 bf (.int .i64 0)<|?_
 subst ar am v
 have hs:ag bz 1 c b=aL ({ aQ.zero with code:=c,mei:=(aj.mk b false 0).byteV,kind:=(((aj.mk b false 0).bytesC 1).need ((((aj.mk b false 0).byteV)==13)||(((aj.mk b false 0).byteV)==14)) 8).byteV,level:=(((((aj.mk b false 0).bytesC 1).need ((((aj.mk b false 0).byteV)==13)||(((aj.mk b false 0).byteV)==14)) 8).bytesC 1).need ((decide (1≤(((aj.mk b false 0).bytesC 1).need ((((aj.mk b false 0).byteV)==13)||(((aj.mk b false 0).byteV)==14)) 8).byteV))&&(decide ((((aj.mk b false 0).bytesC 1).need ((((aj.mk b false 0).byteV)==13)||(((aj.mk b false 0).byteV)==14)) 8).byteV≤4))) 6).byteV,more:=(jk (((((aj.mk b false 0).bytesC 1).need ((((aj.mk b false 0).byteV)==13)||(((aj.mk b false 0).byteV)==14)) 8).bytesC 1).need ((decide (1≤(((aj.mk b false 0).bytesC 1).need ((((aj.mk b false 0).byteV)==13)||(((aj.mk b false 0).byteV)==14)) 8).byteV))&&(decide ((((aj.mk b false 0).bytesC 1).need ((((aj.mk b false 0).byteV)==13)||(((aj.mk b false 0).byteV)==14)) 8).byteV≤4))) 6)).byteV,next:=(jt (((((aj.mk b false 0).bytesC 1).need ((((aj.mk b false 0).byteV)==13)||(((aj.mk b false 0).byteV)==14)) 8).bytesC 1).need ((decide (1≤(((aj.mk b false 0).bytesC 1).need ((((aj.mk b false 0).byteV)==13)||(((aj.mk b false 0).byteV)==14)) 8).byteV))&&(decide ((((aj.mk b false 0).bytesC 1).need ((((aj.mk b false 0).byteV)==13)||(((aj.mk b false 0).byteV)==14)) 8).byteV≤4))) 6)).byteV,objects:=(dJ (((aj.mk b false 0).bytesC 1).need ((((aj.mk b false 0).byteV)==13)||(((aj.mk b false 0).byteV)==14)) 8).byteV (((((aj.mk b false 0).bytesC 1).need ((((aj.mk b false 0).byteV)==13)||(((aj.mk b false 0).byteV)==14)) 8).bytesC 1).need ((decide (1≤(((aj.mk b false 0).bytesC 1).need ((((aj.mk b false 0).byteV)==13)||(((aj.mk b false 0).byteV)==14)) 8).byteV))&&(decide ((((aj.mk b false 0).bytesC 1).need ((((aj.mk b false 0).byteV)==13)||(((aj.mk b false 0).byteV)==14)) 8).byteV≤4))) 6)).2 }) ((dJ (((aj.mk b false 0).bytesC 1).need ((((aj.mk b false 0).byteV)==13)||(((aj.mk b false 0).byteV)==14)) 8).byteV (((((aj.mk b false 0).bytesC 1).need ((((aj.mk b false 0).byteV)==13)||(((aj.mk b false 0).byteV)==14)) 8).bytesC 1).need ((decide (1≤(((aj.mk b false 0).bytesC 1).need ((((aj.mk b false 0).byteV)==13)||(((aj.mk b false 0).byteV)==14)) 8).byteV))&&(decide ((((aj.mk b false 0).bytesC 1).need ((((aj.mk b false 0).byteV)==13)||(((aj.mk b false 0).byteV)==14)) 8).byteV≤4))) 6)).1):=by
   unfold ag bz ex dZ dk
   (try simp only[i,p,u,bs,if_true,if_false,decide_true,decide_false,eq_self,true_or,or_true,or_false,false_or,if_true,if_false,cy,co,cw,cv,reduceIte])
   all_goals rfl
 rw[hs]
 exact bI S (aN.upd P (us Q ay) (ax (ap.safe an _ (by decide)) (ax (aY (ub (ut k (ui L (ui N (ui O ao))) (ac (nr a) (ac (ni (le j.size d.size) f) av))) h) (by decide)) aK))) (ud aw ay q)
theorem oa{m:Md}{A:Option Addr}{cp:Nat}{b:List Int}{w:World}{dir c:Int}(hcode:B8 c)(hsl:bh m w (.slice A b.length cp) b)(hb:b.length≤1048576)(hd:¬ (dir=0∨dir=1)) :
    Calls Tryz.prog 146 #[.int .i64 dir,.int .u8 c,.slice A b.length cp] w (eb (ag bz dir c b) w):=by
 obtain⟨hcode1,hcode2⟩:=hcode
 have hln:(b.length:Int)≤1048576:=by omega
 have e0:(dir != 0)=true:=by simp;omega
 have e1:(dir != 1)=true:=by simp;omega
 refine en 81 Tryz.func146 rfl<|sg<|L0<|bO mZ fun g h a d e=>Pl 1<|nt<|sq<|bk<|sg<|Pl 3<|sy 14 e0<|Pl 4<|nl<|?_
 refine tn<|ct e1<|sg<|Pl 1<|L0<|be d mZ fun i dB f=>Pl 1<|nt<|rt<|br<|tr<|bP dB (.int .i64 1)<|?_
 have hs:ag bz dir c b=(aQ.zero,1):=by
   unfold ag bz ex dZ dk
   (try simp only[e0,e1,bs,if_true,if_false,decide_true,decide_false,eq_self,true_or,or_true,or_false,false_or,if_true,if_false,cy,co,cw,cv,reduceIte,hd])
   all_goals rfl
 rw[hs]
 exact cR (ud e f a)
theorem mf{m:Md}{v:Value}{b:List Int}{w:World}{dir c:Int}(hc:B8 c)(h:bh m w v b)(hb:b.length≤1048576) :
    Calls Tryz.prog 146 #[.int .i64 dir,.int .u8 c,v] w (eb (ag bz dir c b) w):=by
  obtain⟨A,cp,rfl,_,_⟩:=h.shape
  by_cases h0:dir=0
  · subst h0;exact ow hc h hb
  by_cases h1:dir=1
  · subst h1;exact nZ hc h hb
  exact oa hc h hb (by omega)
open Go.RowKit
def eu (C:aj) : aj:=(C.bytesC 1).need (C.byteV==6) 9
def iw (C:aj) : aj:=((eu C).wordsC 1).need ((eu C).wordV != 0) 6
def lx (C:aj) : aj:=((iw C).wordsC 1).need (decide ((iw C).wordV≤9999)) 7
def dF (C:aj) : aj:=((lx C).wordsC 1).need ((lx C).wordV != 0) 5
def aT (C:aj) : dr:=⟨(eu C).wordV,(iw C).wordV,(lx C).wordV,[]⟩
def eM (s:Int)(C:aj) : Int:=s+(2+2*(lx C).wordV)
def eC (s:Int)(C:aj) : aj:=(dF C).need (decide (eM s C≤245)) 5
def gZ (C:aj) : aj:=(C.bytesC 1).need ((C.byteV%2==1&&decide (3≤C.byteV))&&decide (C.byteV≤((C.bytesC 1).l.length:Int))) 5
def fQ (C:aj) : aj:=((gZ C).bytesC 1).need ((gZ C).byteV==6) 9
def eQ (C:aj) : aj:=(fQ C).wordsC (Int.tdiv (C.byteV-1) 2)
def eO (C:aj) : dr:=⟨0,0,0,(fQ C).wordsR (Int.tdiv (C.byteV-1) 2)⟩
def lU (C:aj) : aj:=(dF C).need (decide (2*(lx C).wordV≤((dF C).l.length:Int))) 5
def iC (C:aj) : aj:=(lU C).wordsC (lx C).wordV
def iJ (C:aj) : dr:=⟨(eu C).wordV,(iw C).wordV,(lx C).wordV,(lU C).wordsR (lx C).wordV⟩
def wE (g:Nat)(C':aj)(r:dr)(w:World)(e:Ending)(w':World) : Prop:=∃ A c,e = .returned (.agg #[.int .u16 r.file,.int .u16 r.record,.int .u16 r.count,.slice A r.words.length c])∧dP true w' (.slice A r.words.length c) r.words∧dB r.file∧dB r.record∧dB r.count∧ap w' g C'∧aF [g] w w'
theorem o9{g:Nat}{C:aj}{w:World}(hC:ap w g C) : Calls Tryz.prog 251 #[.pointer (some ⟨g,0,none⟩)] w (wE g (dF C) (aT C) w):=by
 have hlen:=hC.len
 refine en 34 Tryz.func251 rfl<|sg<|L0<|bO #[.int .u16 0,.int .u16 0,.int .u16 0,.slice none 0 0] fun Z a0 c B b=>ng<|Pl 2<|?_
 refine L0<|Oc<|m3 (ch (ap.old hC b)) fun a1 D d a2=>Pl 1<|L0<|Oc<|m2 (bg ((C.byteV==6)) 9 D) fun a3 E e=>?_
 refine ab E fun gf F G=>?_
 refine ng<|L0<|bO #[.int .u16 0,.int .u16 0,.int .u16 0,.slice none 0 0] fun a4 a5 f H h=>ng<|Pl 1<|?_
 refine L0<|Oc<|m3 (cg (ap.old G h)) fun a6 I i a7=>Pl 1<|?_
 have a:=nb (ap.lt hC) (le (le b.size d.size) e.size) f
 have j:=b6 i (Ne.symm a) H
 refine L0<|cj j 0 #[.int .u16 gf.wordV,.int .u16 0,.int .u16 0,.slice none 0 0] fun a8 k l=>ng<|Pl 2<|L0<|aP k 0<|Pl 1<|?_
 refine L0<|Oc<|m2 (bg ((gf.wordV != 0)) 6 (ap.upd I l (aa a aA) (ax (aY j (by decide)) aK))) fun a9 J K=>?_
 refine ab J fun x45 L M=>?_
 refine ng<|Pl 1<|L0<|Oc<|m3 (cg M) fun ac N O ad=>Pl 1<|?_
 have m:=u1 K O im
 have n:=b6 m (Ne.symm a) k
 refine L0<|cj n 1 #[.int .u16 gf.wordV,.int .u16 x45.wordV,.int .u16 0,.slice none 0 0] fun ae o p=>ng<|Pl 2<|L0<|aP o 1<|Pl 1<|?_
 refine L0<|Oc<|m2 (bg ((decide (x45.wordV≤9999))) 7 (ap.upd N p (aa a aA) (ax (aY n (by decide)) aK))) fun af P Q=>?_
 refine ab P fun x61 R S=>?_
 refine ng<|Pl 1<|L0<|Oc<|m3 (cg S) fun ag T U ah=>Pl 1<|?_
 have q:=u1 Q U im
 have r:=b6 q (Ne.symm a) o
 refine L0<|cj r 2 #[.int .u16 gf.wordV,.int .u16 x45.wordV,.int .u16 x61.wordV,.slice none 0 0] fun ai s t=>ng<|Pl 2<|L0<|aP s 2<|Pl 1<|?_
 refine L0<|Oc<|m2 (bg ((x61.wordV != 0)) 5 (ap.upd T t (aa a aA) (ax (aY r (by decide)) aK))) fun ak V u=>?_
 refine ab V fun x77 W X=>?_
 refine ng<|?_
 refine L0<|bS (b6 u (Ne.symm a) s)<|?_
 have v:=u1 d (u1 e (ud h (ui i (ui l (ui m (ui p (ui q (us t u)))))) f) im) im
 have y:=nb (ap.lt hC) lr c
 have z:=b6 v (Ne.symm y) B
 refine L0<|be z #[.int .u16 gf.wordV,.int .u16 x45.wordV,.int .u16 x61.wordV,.slice none 0 0] fun al Y A=>nt<|rt<|xi Y<|?_
 subst W R L F
 exact⟨_,_,rfl,aS.nil ..,aD (x:=((C.bytesC 1).need (C.byteV==6) 9).wordV) (by omega),aD (x:=((((C.bytesC 1).need (C.byteV==6) 9).wordsC 1).need (((C.bytesC 1).need (C.byteV==6) 9).wordV != 0) 6).wordV) (by omega),aD (x:=((((((C.bytesC 1).need (C.byteV==6) 9).wordsC 1).need (((C.bytesC 1).need (C.byteV==6) 9).wordV != 0) 6).wordsC 1).need (decide (((((C.bytesC 1).need (C.byteV==6) 9).wordsC 1).need (((C.bytesC 1).need (C.byteV==6) 9).wordV != 0) 6).wordV≤9999)) 7).wordV) (by omega),(ap.upd X A (aa y aA) (ax (aY z (by decide)) aK)),(ue b (us v A) c)⟩
theorem rl{g:Nat}{C:aj}{w:World}(hC:ap w g C) : Calls Tryz.prog 254 #[.pointer (some ⟨g,0,none⟩)] w (wE g (eQ C) (eO C) w):=by
 have hlen:=hC.len
 refine en 33 Tryz.func254 rfl<|sg<|L0<|bO #[.int .u16 0,.int .u16 0,.int .u16 0,.slice none 0 0] fun R S f i j=>ng<|Pl 1<|?_
 refine L0<|Oc<|m3 (ch (ap.old hC j)) fun T c k U=>L0<|Oi C.byteV<|Pl 1<|ng<|Pl 2<|L0<|Oe (.int .i64 (Int.tmod C.byteV 2)) (.int .i64 (C.byteV%2)) (congrArg (Value.int .i64) (Int.tmod_eq_emod_of_nonneg (by omega)))<|Pl 2<|cu 3 [11] 14 ((((C.byteV%2)==1)&&(decide (3≤C.byteV)))) (fun K m=>?_) ?_
 refine bl 11 (((C.byteV%2)==1)) (fun a=>?_) (fun a=>?_)
 have y:=ae a
 exact Pl 3<|ce m (decide (3≤C.byteV)) (by rw[a];rfl)
 have y:=ak a
 exact Pl 3<|ce m false (by rw[a];rfl)
 refine Pl 1<|cu 5 [15] 20 (((((C.byteV%2)==1)&&(decide (3≤C.byteV)))&&(decide (C.byteV≤(((C.bytesC 1).l.length:Nat) : Int))))) (fun K o=>?_) ?_
 refine bl 15 ((((C.byteV%2)==1)&&(decide (3≤C.byteV)))) (fun b=>?_) (fun b=>?_)
 have z:=(aZ b).1
 have A:=(aZ b).2
 have V:=ae z
 have W:=of_decide_eq_true A
 refine Pl 2<|L1<|Oc<|mq (eh c)<|?_
 have X:=ap.len c
 exact Pl 2<|ce o (decide (C.byteV≤(((C.bytesC 1).l.length:Nat) : Int))) (by rw[b];rfl)
 exact Pl 5<|ce o false (by rw[b];rfl)
 refine L0<|Oc<|m2 (bg (((((C.byteV%2)==1)&&(decide (3≤C.byteV)))&&(decide (C.byteV≤(((C.bytesC 1).l.length:Nat) : Int))))) 5 c) fun Y B p=>?_
 refine ab B fun x28 D E=>?_
 refine ng<|Pl 2<|L0<|Oc<|m3 (ch E) fun Z F q a0=>Pl 1<|L0<|Oc<|m2 (bg ((x28.byteV==6)) 9 F) fun a1 G r=>?_
 refine ab G fun x38 H I=>?_
 refine ng<|Pl 2<|L0<|Oi (C.byteV-1)<|L0<|Oe (.int .i64 (IntKind.i64.wrap (Int.tdiv (C.byteV-1) 2))) (.int .i64 (Int.tdiv (C.byteV-1) 2)) (congrArg (Value.int .i64) (kx (by omega) (by omega)))<|L0<|Oc<|mS (eo (n:=(Int.tdiv (C.byteV-1) 2)) I) fun J L a2 s a3 a4 M N=>?_
 refine ab M fun x48 O P=>?_
 refine Pl 1<|?_
 have t:=u1 k (u1 p (u1 q (u1 r N im) im) im) im
 have u:=nb (ap.lt hC) lr f
 have v:=b6 t (Ne.symm u) i
 refine L0<|be v #[.int .u16 0,.int .u16 0,.int .u16 0,.slice J ((x38.wordsR (Int.tdiv (C.byteV-1) 2)).length) L] fun a5 Q d=>nt<|rt<|xi Q<|?_
 subst O H D
 exact⟨_,_,rfl,((aq s d (fun x hx=>(aa (fun e=>(aB (au i) (le (le (le k.size p.size) q.size) r.size) s) (e▸hx)) aA)) (fun _ _ h=>h))).rd,aD (x:=0) (by omega),aD (x:=0) (by omega),aD (x:=0) (by omega),(ap.upd P d (aa u aA) (ax (aY v (by decide)) aK)),(ue j (us t d) f)⟩
theorem vj{g:Nat}{C:aj}{w:World}(hC:ap w g C) : Calls Tryz.prog 256 #[.pointer (some ⟨g,0,none⟩)] w (wE g (iC C) (iJ C) w):=by
 have hlen:=hC.len
 refine en 22 Tryz.func256 rfl<|sg<|L0<|bO #[.int .u16 0,.int .u16 0,.int .u16 0,.slice none 0 0] fun X Y v f i=>ng<|Pl 1<|?_
 refine L0<|Oc<|we (o9 (ap.old hC i)) fun I J Z a0 K L M N c=>?_
 obtain⟨a1,a2⟩:=K
 obtain⟨a3,a4⟩:=L
 obtain⟨a5,a6⟩:=M
 refine L0<|bO #[.int .u16 0,.int .u16 0,.int .u16 0,.slice none 0 0] fun O a7 j y z=>L0<|be y #[.int .u16 ((aT C).file),.int .u16 ((aT C).record),.int .u16 ((aT C).count),.slice I ((aT C).words.length) J] fun a8 P k=>nt<|sq<|Rg 9 (fun w'=>w'.cell? ⟨O,2,none⟩=some (.int .u16 ((aT C).count))) fun a9 d=>?_
 have m:=ub d P
 refine bj (ah m rfl) fun a=>Rt 0 a<|Rt 1 a<|Rl 2 a (fun _ hs=>hs)<|Rr 3 a (.int .i64 ((aT C).count)) (fun _ _=>bZ (.int .i64 (IntKind.i64.wrap ((aT C).count))) (by kernel_rfl) (congrArg (Value.int .i64) (i64_in (by omega))))<|Rr 4 a (.int .i64 (2*((aT C).count))) (fun _ _=>bZ (.int .i64 (IntKind.i64.wrap (2*((aT C).count)))) (by kernel_rfl) (congrArg (Value.int .i64) (IntWalk.i64_in _ (by omega))))<|Rt 5 a<|?_
 have o:=ud z (aG k d) j
 have p:=ap.old N o
 refine R0 6 rfl<|Oc<|mq (eh p)<|?_
 have ac:=ap.len p
 refine bj (ah m rfl) fun Q=>Rt 7 Q<|R0 8 rfl<|Oc<|m2 (bg ((decide ((2*((aT C).count))≤(((dF C).l.length:Nat) : Int)))) 5 p) fun ad R b=>?_
 refine ab R fun x54 S T=>?_
 have q:=nb (ap.lt hC) (le i.size c.size) j
 have r:=b6 b (Ne.symm q) m
 refine bj (ah r rfl) fun ae=>re<|tn<|sg<|Pl 2<|L0<|aP r 2<|L0<|Oi ((aT C).count)<|L0<|Oc<|mS (eo (n:=(aT C).count) T) fun A B af s ag ai U t=>Pl 1<|?_
 have D:=b6 t (Ne.symm q) r
 refine L0<|cj D 3 #[.int .u16 ((aT C).file),.int .u16 ((aT C).record),.int .u16 ((aT C).count),.slice A ((x54.wordsR ((aT C).count)).length) B] fun ak V E=>ng<|L0<|bS V<|?_
 have F:=u1 c (ue o (ui b (us t E)) j) im
 have u:=nb (ap.lt hC) lr v
 refine L0<|be (b6 F (Ne.symm u) f) #[.int .u16 ((aT C).file),.int .u16 ((aT C).record),.int .u16 ((aT C).count),.slice A ((x54.wordsR ((aT C).count)).length) B] fun al W G=>nt<|rt<|xi W<|?_
 subst S
 have H:=us E G
 exact⟨_,_,rfl,((aq s H (fun x hx=>(aa (fun e=>(aB (au y) (le (le k.size d.size) b.size) s) (e▸hx)) (aa (fun e=>(aB (au f) (le (le (le (le c.size z.size) k.size) d.size) b.size) s) (e▸hx)) aA))) (fun _ _ h=>h))).rd,aD (x:=(aT C).file) (by omega),aD (x:=(aT C).record) (by omega),aD (x:=(aT C).count) (by omega),(ap.upd U H (aa q (aa u aA)) (ax (aY D (by decide)) (ax (aY (b6 (u1 c (uz o (u1 b t im)) im) (Ne.symm u) f) (by decide)) aK))),(ue i (us F G) v)⟩
theorem pi{n:Int}{w:World}(hn:0≤n∧n<256) : Calls Tryz.prog 252 #[.int .i64 n] w (dM (.bool ((decide (7≤n)&&decide (n≤245))&&n%7==0)) w):=by
 refine en 14 Tryz.func252 rfl<|sg<|Pl 1<|ng<|Pl 3<|cu 3 [5] 8 (((decide (7≤n))&&(decide (n≤245)))) (fun K c=>?_) ?_
 refine bl 5 ((decide (7≤n))) (fun a=>?_) (fun a=>?_)
 have e:=of_decide_eq_true a
 exact Pl 3<|ce c (decide (n≤245)) (by rw[a];rfl)
 have e:=of_decide_eq_false a
 exact Pl 3<|ce c false (by rw[a];rfl)
 refine Pl 1<|cu 4 [9] 13 ((((decide (7≤n))&&(decide (n≤245)))&&((n%7)==0))) (fun K d=>?_) ?_
 refine bl 9 (((decide (7≤n))&&(decide (n≤245)))) (fun b=>?_) (fun b=>?_)
 have f:=(aZ b).1
 have g:=(aZ b).2
 have h:=of_decide_eq_true f
 have i:=of_decide_eq_true g
 exact Pl 1<|L1<|Oe (.int .i64 (Int.tmod n 7)) (.int .i64 (n%7)) (congrArg (Value.int .i64) (Int.tmod_eq_emod_of_nonneg (by omega)))<|Pl 2<|ce d ((n%7)==0) (by rw[b];rfl)
 exact Pl 4<|ce d false (by rw[b];rfl)
 refine Pl 1<|nt<|rt<|rr (.bool (((decide (7≤n))&&(decide (n≤245)))&&((n%7)==0)))<|?_
 exact⟨rfl,(aF.refl [] _)⟩
theorem pp{n:Int}{w:World}(hn:0≤n∧n<256) : Calls Tryz.prog 253 #[.int .i64 n] w (dM (.bool (decide (4≤n)&&decide (n≤245))) w):=by
 refine en 9 Tryz.func253 rfl<|sg<|Pl 1<|ng<|Pl 3<|cu 3 [5] 8 (((decide (4≤n))&&(decide (n≤245)))) (fun K b=>?_) ?_
 refine bl 5 ((decide (4≤n))) (fun a=>?_) (fun a=>?_)
 have c:=of_decide_eq_true a
 exact Pl 3<|ce b (decide (n≤245)) (by rw[a];rfl)
 have c:=of_decide_eq_false a
 exact Pl 3<|ce b false (by rw[a];rfl)
 refine Pl 1<|nt<|rt<|rr (.bool ((decide (4≤n))&&(decide (n≤245))))<|?_
 exact⟨rfl,(aF.refl [] _)⟩
theorem oW{n:Int}{w:World}(hn:0≤n∧n<256) : Calls Tryz.prog 255 #[.int .i64 n] w (dM (.bool (decide (9≤n)&&decide (n≤251))) w):=by
 refine en 9 Tryz.func255 rfl<|sg<|Pl 1<|ng<|Pl 3<|cu 3 [5] 8 (((decide (9≤n))&&(decide (n≤251)))) (fun K b=>?_) ?_
 refine bl 5 ((decide (9≤n))) (fun a=>?_) (fun a=>?_)
 have c:=of_decide_eq_true a
 exact Pl 3<|ce b (decide (n≤251)) (by rw[a];rfl)
 have c:=of_decide_eq_false a
 exact Pl 3<|ce b false (by rw[a];rfl)
 refine Pl 1<|nt<|rt<|rr (.bool ((decide (9≤n))&&(decide (n≤251))))<|?_
 exact⟨rfl,(aF.refl [] _)⟩
theorem iN{e:Int}{w:World}:Calls Tryz.prog 211 #[.int .i64 e] w (dM (.int .i64 (if e==2 then 5 else e)) w):=by
 refine en 6 Tryz.func211 rfl<|sg<|Pl 1<|nt<|sq<|sg<|Pl 2<|nt<|cb ((e==2)) (fun a=>?_) (fun a=>?_)
 have b:=ae a
 refine sg<|Pl 1<|nt<|rt<|tr<|rr (.int .i64 5)<|?_
 have hs:(if e==2 then (5:Int) else e)=5:=by simp only[a,bs,if_true,if_false,decide_true,decide_false,reduceIte]
 rw[hs]
 exact⟨rfl,(aF.refl [] _)⟩
 have b:=ak a
 refine bp<|sg<|Pl 2<|nt<|rt<|rr (.int .i64 e)<|?_
 have hs:(if e==2 then (5:Int) else e)=e:=by simp only[a,bs,if_true,if_false,decide_true,decide_false,reduceIte]
 rw[hs]
 exact⟨rfl,(aF.refl [] _)⟩
open Go.RowKit
structure WF (F:Fence) (n:Nat) (P:Program) (ops:Array Oper) (Q:Exit→Act→World→Prop) (l:List Oper) (a:Act) (w:World) : Prop where
  out:wpListIn F n P ops Q l a w
def eW (F:Fence) : Prop:=F=Fence.wide∨∃ l,F=Fence.wide.inRound l
theorem lh:eW Fence.wide:=.inl rfl
theorem jV(l:Nat) : eW (Fence.wide.inRound l):=.inr ⟨l,rfl⟩
theorem eW.fn{F:Fence}(h:eW F)(f:FuncId) : F.fn f:=by
  rcases h with rfl|⟨l,rfl⟩<;>trivial
theorem eW.depth{F:Fence}(h:eW F) : F.depth=none:=by
  rcases h with rfl|⟨l,rfl⟩<;>rfl
section
variable {F:Fence}{n:Nat}{P:Program}{Q:Exit→Act→World→Prop}{a:Act}{w:World}{K:Act→World→Prop}{ops:Array Oper}{rest:List Oper}{o:Oper}{N:Option Tmp}
theorem wz{f:FuncId}{args:Array Value}{R:Ending→World→Prop}(hF:eW F)(h:Calls P f args w R) : CallsIn F n P f args w R:=by
  rcases hF with rfl|⟨l,rfl⟩
  · exact callsIn_wide.2 h
  · exact CallsIn.inRound l (callsIn_wide.2 h)
theorem xy{row:String}{args:Array Value}{R:Value→World→Prop}(hF:eW F)(h:Rows P row args w R) : RowsIn F n P row args w R:=by
  have h0:RowsIn Fence.wide n P row args w R:=fun c cs _=>let ⟨v,w',r,s⟩:=h c cs; ⟨v,w',r,stepsIn_wide.2 s⟩
  rcases hF with rfl|⟨l,rfl⟩
  · exact h0
  · exact h0
def fV:Op→Bool
  | .defer _=>false
  | _=>true
theorem zd(hF:eW F)(hd:fV o.op=true)(h:o.wp P a w K Q) : o.wpIn F n P a w K Q:=by
  refine⟨fun f _=>hF.fn f,?_⟩
  rw[Oper.semAt_eq _ _ _ (fun c hc=>by rw[hc] at hd;cases hd)]
  unfold Oper.wp at h
  have hdep:∀ {p:Prop},F.depth.isSome=true→p:=fun h=>by rw[hF.depth] at h;cases h
  generalize (execOp a.eval o).run P w=r at h ⊢
  cases r with
  | ok x w' =>
    cases x<;>simp only[Oper.upon,Oper.uponIn] at h ⊢
    case value u=>exact h
    case skip=>exact h
    case defer d=>exact h
    case enter f args=>exact⟨hdep,wz hF h⟩
    case row row args=>exact⟨hdep,xy hF h⟩
  | halt x w' =>
    cases x<;>simp only[Oper.upon,Oper.uponIn] at h ⊢
    case panic u=>exact h
theorem ze{id:Nat}{l:List Oper}(n:Nat)(h:WF Fence.wide n P l.toArray Q l a w) : (Code.region id l.toArray false).wp P Q a w:=wpIn_wide.1 (wpIn_region_lit h.out)
theorem yK{id:Nat}{l:List Oper}(h:WF F n P l.toArray Q l a w) : (Code.region id l.toArray false).wpIn F n P Q a w:=wpIn_region_lit h.out
theorem yg(h:Q .normal a w) : WF F n P ops Q [] a w:=⟨h⟩
theorem yP(hF:eW F)(hd:fV o.op=true)(hw:Region.wanted o (yielded ops a.tmps)=true)(h:OW P o a w (WF F n P ops Q rest) Q) : WF F n P ops Q (o :: rest) a w:=by
  refine⟨?_⟩
  unfold wpListIn
  rw[if_pos hw]
  exact zd hF hd (j8 h fun _ _ h=>h.out)
theorem yx(hF:eW F)(hw:Region.wanted o (yielded ops a.tmps)=false)(hN:o.dst=N)(h:WF F n P ops Q rest (a.put N undef) w) : WF F n P ops Q (o :: rest) a w:=by
  subst hN
  refine⟨?_⟩
  unfold wpListIn
  rw[if_neg (by simp[hw])]
  exact⟨fun f _=>hF.fn f,h.out⟩
theorem wP{x:Operand}{opds:Array Operand}{ts:Array TypeId}{l:Nat}{r:Loop}(args:Array Value)(hw:Region.wanted o (yielded ops a.tmps)=true)(hN:o.dst=N)(hop:o.op = .call { callee:=.value x,args:=opds,argTypes:=ts })
    (hx:a.eval x = .func (.yield l) #[] #[]) (hargs:opds.map a.eval=args) (hl:w.heap[l]? = some (.loop r)) (hs:args.size=r.params.size)
    (h:RoundIn Fence.wide (n-1) P l r.fn ((r.params.zip args).foldl (fun tmps (t,a)=>tmps.setIfInBounds t a) r.tmps) r.assign r.body w (fun e w'=>∃ v,e = .returned v∧WF Fence.wide n P ops Q rest (a.put N v) w')) : WF Fence.wide n P ops Q (o :: rest) a w:=by
  subst hN
  refine⟨?_⟩
  unfold wpListIn
  rw[if_pos hw]
  refine⟨fun f _=>trivial,?_⟩
  have hrun:(o.semAt Fence.wide.round a.eval).run P w = .ok (.round l r.fn ((r.params.zip args).foldl (fun tmps (t,a)=>tmps.setIfInBounds t a) r.tmps) r.assign r.body) w:=by
    show(execOp a.eval o).run P w=_
    unfold execOp
    simp only[hop,resolve,hx,Deferred.ofValue,Sem.run_bind,Sem.run_pure,Result.andThen_ok,invoke,hargs]
    have:=run_yield (P:=P) (args:=args) hl hs
    simpa using this
  rw[hrun,Oper.uponIn_round]
  refine⟨(by simp[Fence.wide]),h.mono fun e w' hh=>?_⟩
  obtain⟨v,rfl,h2⟩:=hh
  exact h2.out
end
theorem uC{P:Program}{n:Nat}{ops:Array Oper}{Q:Exit→Act→World→Prop}{rest:List Oper}{o:Oper}{a:Act}{w:World}{N:Option Tmp}{x:Operand}{opds:Array Operand}{ts:Array TypeId}{l:Nat}{r:Loop}(v:Value)(p:Tmp)(hw:Region.wanted o (yielded ops a.tmps)=true)(hN:o.dst=N)(hop:o.op = .call { callee:=.value x,args:=opds,argTypes:=ts })
    (hx:a.eval x = .func (.yield l) #[] #[]) (hargs:opds.map a.eval = #[v]) (hl:w.heap[l]? = some (.loop r)) (hp:r.params = #[p])
    (h:RoundIn Fence.wide (n-1) P l r.fn (r.tmps.setIfInBounds p v) r.assign r.body w (fun e w'=>∃ u,e = .returned u∧WF Fence.wide n P ops Q rest (a.put N u) w')) : WF Fence.wide n P ops Q (o :: rest) a w:=by
  refine wP #[v] hw hN hop hx hargs hl (by rw[hp];rfl) ?_
  have:((r.params.zip #[v]).foldl (fun tmps (t,a)=>tmps.setIfInBounds t a) r.tmps)=r.tmps.setIfInBounds p v:=by rw[hp];simp
  rw[this]
  exact h
theorem gW{w:World}{l:Nat}(o:Go.Obj) : aF [l] w (w.putObj l o) :=
  ⟨rfl,rfl,rfl,by simp[World.putObj],fun k hk hn=>World.putObj_heap_other (by simpa using hn)⟩
theorem ln{w:World}{l:Nat}{o:Go.Obj}(o':Go.Obj)(h:w.heap[l]? = some o) : (w.putObj l o').heap[l]? = some o':=World.putObj_heap_same (au h)
def jc:Go.Obj→Bool
  | .cells ..=>false
  | _=>true
theorem aS.updl{α:Type}{m:Md}{e:TypeId}{sz:Nat}{R:World→α→List Value→Prop}{w w':World}{v:Value}{xs:List α}{l:Nat}{o:Go.Obj}
    (h:aS m e sz R w v xs) (hu:aF [l] w w') (hl:w.heap[l]? = some o) (ho:jc o=true) (hR:∀ x cs,R w x cs→R w' x cs) : aS m e sz R w' v xs:=by
  obtain⟨A,c,rfl,h1,h2,h0,h3⟩:=h
  refine⟨A,c,rfl,h1,h2,h0,fun hp=>?_⟩
  obtain⟨b,off,cells,t,fr,rfl,hb,ht,hx⟩:=h3 hp
  refine⟨b,off,cells,t,fr,rfl,?_,ht,fun j x hj=>?_⟩
  · refine hu.blk (fun hbs=>?_) hb
    simp at hbs
    subst hbs
    rw[hl] at hb
    injection hb with hb
    subst hb
    cases ho
  · obtain⟨cs,hl,hr,hc⟩:=hx j x hj
    exact⟨cs,hl,hR _ _ hr,hc⟩
theorem bh.updl{m:Md}{w w':World}{v:Value}{xs:List Int}{l:Nat}{o:Go.Obj}(h:bh m w v xs)(hu:aF [l] w w')(hl:w.heap[l]? = some o)(ho:jc o=true) : bh m w' v xs:=aS.updl h hu hl ho fun _ _ h=>h
theorem dP.updl{m:Md}{w w':World}{v:Value}{xs:List Int}{l:Nat}{o:Go.Obj}(h:dP m w v xs)(hu:aF [l] w w')(hl:w.heap[l]? = some o)(ho:jc o=true) : dP m w' v xs:=aS.updl h hu hl ho fun _ _ h=>h
theorem bv.updl{m:Md}{w w':World}{l:Nat}{o:Go.Obj}(hu:aF [l] w w')(hl:w.heap[l]? = some o)(ho:jc o=true)(r:dr)(cs:List Value)(h:bv m w r cs) : bv m w' r cs:=by
  obtain⟨v,h1,h2,h3⟩:=h
  exact⟨v,h1,dP.updl h2 hu hl ho,h3⟩
theorem ap.updl{w w':World}{g:Nat}{c:aj}{l:Nat}{o:Go.Obj}(h:ap w g c)(hu:aF [l] w w')(hg:g∉[l])(hl:w.heap[l]? = some o)(ho:jc o=true) : ap w' g c:=by
  obtain⟨v,hb,hr,hn⟩:=h
  exact⟨v,hu.blk hg hb,hr.updl hu hl ho,hn⟩
theorem t0{n:Nat}{P:Program}{l:Nat}{f:FuncId}{tmps:Array Value}{assign body:Code}{w:World}{r:Loop}{R:Ending→World→Prop}
    (h:assign.wpIn (Fence.wide.inRound l) n P (Exit.then (fun a₁ w₁=>w₁.heap[l]? = some (.loop r)∧r.state = .ready∧∀ w₂,w₂.heap[l]? = some (.loop { r with state:=.busy })→aF [l] w₁ w₂ →
      body.wpIn (Fence.wide.inRound l) n P (Exit.then (fun _ w₃=>∃ r',w₃.heap[l]? = some (.loop r')∧∀ w₄,w₄.heap[l]? = some (.loop { r' with state:=.ready,pending:=none })→aF [l] w₃ w₄→R (.returned (.bool true)) w₄) (fun _ _ _=>False)) a₁ w₂) (fun _ _ _=>False)) { tmps:=tmps,defers:=[] } w) :
    RoundIn Fence.wide n P l f tmps assign body w R:=by
  refine roundIn_of_wpIn trivial (Code.wpIn_mono (fun e a w q=>?_) h)
  cases e with
  | normal =>
    obtain⟨h1,h2,h3⟩:=q
    refine⟨_,run_beginRound h1 h2,Code.wpIn_mono (fun e a w q=>?_) (h3 _ (ln _ h1) (gW _))⟩
    cases e with
    | normal =>
      obtain⟨r',h4,h5⟩:=q
      exact⟨_,_,run_endRound none h4,h5 _ (ln _ h4) (gW _)⟩
    | _=>exact q.elim
  | _=>exact q.elim
theorem lc{n:Nat}{P:Program}{l:Nat}{f:FuncId}{tmps:Array Value}{assign body:Code}{w:World}{r:Loop}{R:Ending→World→Prop}
    (hl:w.heap[l]? = some (.loop r))
    (h:assign.wpIn (Fence.wide.inRound l) n P (Exit.then (fun a₁ w₁=>w₁.heap[l]? = some (.loop r)∧r.state = .ready∧∀ w₂,w₂.heap[l]? = some (.loop { r with state:=.busy })→aF [l] w₁ w₂ →
      body.wpIn (Fence.wide.inRound l) n P (Exit.then (fun _ w₃=>∃ r',w₃.heap[l]? = some (.loop r')∧∀ w₄,w₄.heap[l]? = some (.loop { r' with state:=.ready,pending:=none })→aF [l] w₃ w₄→R (.returned (.bool true)) w₄) (fun _ _ _=>False)) a₁ w₂) (fun _ _ _=>False)) { tmps:=tmps,defers:=[] } w) :
    RoundIn Fence.wide n P l f tmps assign body w R:=t0 h
theorem tV{P:Program}{Q:Exit→Act→World→Prop}{a:Act}{w:World}{g:Operand}{ps:Array Tmp}{assign body:Code}{f:FuncId}{fn:Func}(cap:Array Value)
    (hx : a.eval g = .func (.func f) #[] cap) (hf : P.funcs[f]? = some fn) (hname : (fn.name == "runtime.NumGoroutine") = false) (hb : fn.body.isSome = true)
    (h:∀ fn0 D l w₂,w.heap.size≤D→w.heap.size≤l→D≠l→w₂.heap[D]? = some (.deferred (some []))→w₂.heap[l]? = some (.loop { state:=.ready,pending:=none,fn:=fn0,tmps:=a.tmps,params:=ps,assign:=assign,body:=body,defers:=D })→aF [] w w₂ →
      Calls P f (#[.func (.yield l) #[] #[]]++cap) w₂ (fun e w₃=>∃ v r',e = .returned v∧w₃.heap[l]? = some (.loop r')∧r'.state≠.busy∧r'.pending=none∧∀ w₄,aF [l] w₃ w₄→Q .normal { a with defers:={ target:=.collected D,args:=#[] } :: a.defers } w₄)) :
    (Code.rangeFunc g ps assign body).wp P Q a w:=by
  refine(wpIn_wide (n:=9)).1 (wpIn_rangeFunc fun fn0 _=>?_)
  have h1 : fn.name ≠ "runtime.NumGoroutine" := by simpa using hname
  obtain⟨cd,hcd⟩:=Option.isSome_iff_exists.1 hb
  refine⟨w.heap.size+1,[{ target:=.collected w.heap.size,args:=#[] }],((w.alloc (.deferred (some []))).alloc (.loop { state:=.ready,pending:=none,fn:=fn0,tmps:=a.tmps,params:=ps,assign:=assign,body:=body,defers:=w.heap.size })),
    { target:=.fn (.func f) cap,args:=#[]++#[.func (.yield (w.heap.size+1)) #[] #[]] },((w.alloc (.deferred (some []))).alloc (.loop { state:=.ready,pending:=none,fn:=fn0,tmps:=a.tmps,params:=ps,assign:=assign,body:=body,defers:=w.heap.size })),
    f,#[.func (.yield (w.heap.size+1)) #[] #[]]++cap,((w.alloc (.deferred (some []))).alloc (.loop { state:=.ready,pending:=none,fn:=fn0,tmps:=a.tmps,params:=ps,assign:=assign,body:=body,defers:=w.heap.size })),run_enterLoop_outer fn0 a.tmps ps assign body,?_,fun _ _=>trivial,?_,by simp[Fence.wide],?_⟩
  · unfold resolve
    simp only[rangeCall,hx,Deferred.ofValue,Sem.run_pure,List.map_toArray,List.map_cons,List.map_nil]
    rfl
  · simp[invoke,callFunc,hf,h1,hcd]
  · have hD:((w.alloc (.deferred (some []))).alloc (.loop { state:=.ready,pending:=none,fn:=fn0,tmps:=a.tmps,params:=ps,assign:=assign,body:=body,defers:=w.heap.size })).heap[w.heap.size]? = some (.deferred (some [])):=vh (eA w _) _
    have hl:((w.alloc (.deferred (some []))).alloc (.loop { state:=.ready,pending:=none,fn:=fn0,tmps:=a.tmps,params:=ps,assign:=assign,body:=body,defers:=w.heap.size })).heap[w.heap.size+1]? = some (.loop { state:=.ready,pending:=none,fn:=fn0,tmps:=a.tmps,params:=ps,assign:=assign,body:=body,defers:=w.heap.size }):=by
      have:=eA (w.alloc (.deferred (some []))) (.loop { state:=.ready,pending:=none,fn:=fn0,tmps:=a.tmps,params:=ps,assign:=assign,body:=body,defers:=w.heap.size })
      simpa using this
    refine callsIn_wide.2 ((h fn0 w.heap.size (w.heap.size+1) _ (Nat.le_refl _) (by omega) (by omega) hD hl (((aF.refl [] w).alloc _).alloc _)).mono ?_)
    rintro e w₃ ⟨v,r',rfl,h3,h4,h5,h6⟩
    refine⟨_,_,run_endLoop h3 h4,?_⟩
    rw[h5]
    exact h6 _ (gW _)
theorem oo{P:Program}{f:FuncId}{fn:Func}{c:Code}{args:Array Value}{w:World}{R:Ending→World→Prop}(hf:P.funcs[f]? = some fn)(hb:fn.body=some c)
    (h:c.wp P (bodyPostM Fence.wide 9 P fn R) { tmps:=args++Array.replicate (fn.ntmps-args.size) undef,defers:=[] } w) : Calls P f args w R :=
  callsIn_wide.1 (callsIn_of_wp_marks hf hb trivial (wpIn_wide.2 h) rfl)
theorem wU{P:Program}{fn:Func}{R:Ending→World→Prop}{a:Act}{w:World}{D:Nat}(hd:a.defers=[{ target:=.collected D,args:=#[] }])(hD:w.heap[D]? = some (.deferred (some [])))
    (h:∀ w',aF [D] w w'→∃ v,(results fn a.tmps).run P w' = .ok v w'∧R (.returned v) w') : bodyPostM Fence.wide 9 P fn R .ret a w:=by
  show LeavesInM Fence.wide 9 P fn a.tmps R a.defers .returning w
  rw[hd]
  exact⟨by simp,.inl ⟨D,_,rfl,run_takeDeferred hD,h _ (gW _)⟩⟩
theorem vG{P:Program}{fn:Func}{R:Ending→World→Prop}{a:Act}{w:World}(hd:a.defers=[])(h:∃ v,(results fn a.tmps).run P w = .ok v w∧R (.returned v) w) : bodyPostM Fence.wide 9 P fn R .ret a w:=by
  show LeavesInM Fence.wide 9 P fn a.tmps R a.defers .returning w
  rw[hd]
  exact h
open Go.RowKit
structure GF (E:Fence) (m:Nat) (P:Program) (ops:Array Oper) (Q:Exit→Act→World→Prop) (l:List Oper) (n:Nat) (D:List Deferred) (F:Fr) (w:World) : Prop where
  out:∀ a,Ag n D F a→WF E m P ops Q l a w
structure GI (E:Fence) (m:Nat) (P:Program) (c:Code) (Q:Exit→Act→World→Prop) (n:Nat) (D:List Deferred) (F:Fr) (w:World) : Prop where
  out:∀ a,Ag n D F a→c.wpIn E m P Q a w
section
variable {E:Fence}{m:Nat}{P:Program}{Q:Exit→Act→World→Prop}{n:Nat}{D:List Deferred}{F:Fr}{w:World}{ops:Array Oper}{rest l:List Oper}{d:Option Tmp}{op:Op}{t:TypeId}{s:String}{af:Array Edge}{gu:Option (Nat × Bool)}{x y c:Code}{id:Nat}
theorem yJ(m:Nat)(h:GF Fence.wide m P l.toArray Q l n D F w) : GC P (.region id l.toArray false) Q n D F w:=⟨fun a ha=>ze m (h.out a ha)⟩
theorem xg(h:GF E m P l.toArray Q l n D F w) : GI E m P (.region id l.toArray false) Q n D F w:=⟨fun a ha=>yK (h.out a ha)⟩
theorem yh(h:GI E m P c (Exit.inBlock id Q) n D F w) : GI E m P (.block id c) Q n D F w:=⟨fun a ha=>wpIn_block (h.out a ha)⟩
theorem sf(h:GQ Q .normal n D F w) : GF E m P ops Q [] n D F w:=⟨fun a ha=>yg (h.out a ha)⟩
theorem yU(hE:eW E)(h:OG P ⟨d,op,t,s,af,gu⟩ n D F w (GF E m P ops Q rest n D) Q)(hw:lu ops F gu=(true,true))(hd:fV op=true) : GF E m P ops Q (⟨d,op,t,s,af,gu⟩ :: rest) n D F w :=
  ⟨fun a ha=>yP hE hd (fY ha hw) (h.out a ha _ fun F' w' a' k ha'=>k.out a' ha')⟩
theorem yZ(hE:eW E){o:Oper}(h:GF E m P ops Q rest n D (pa P ops w F o) w)(hc:vV P ops w n 1 (o :: rest) F=vU P ops w 1 (o :: rest) F)(hd:fV o.op=true) : GF E m P ops Q (o :: rest) n D F w:=by
  simp only[vV,vU,List.cons.injEq,Prod.mk.injEq,Bool.and_eq_true] at hc
  obtain⟨⟨⟨h1,h2,h3⟩,h4⟩,h5⟩:=hc
  refine⟨fun a ha=>?_⟩
  cases hon:(lu ops F o.guard).2 with
  | true =>
    rw[hon] at h3 h4
    simp only[cond_true] at h3 h4
    have hst:pa P ops w F o=pt o.dst (vo P w F o) F:=by simp[pa,hon]
    rw[hst] at h
    exact yP hE hd (fY ha (Prod.ext h1 hon)) (i4 (N:=o.dst) (vo P w F o) rfl (by rw[← iq ha h3];exact h4) (h.out _ (ha.put h2)))
  | false =>
    have hst:pa P ops w F o=pt o.dst undef F:=by simp[pa,hon]
    rw[hst] at h
    exact yx (N:=o.dst) hE (fY ha (Prod.ext h1 hon)) rfl (h.out _ (ha.put h2))
theorem F0(h:OG P ⟨d,op,t,s,af,gu⟩ n D F w (GF Fence.wide m P ops Q rest n D) Q)(hw:lu ops F gu=(true,true):=by kernel_rfl)(hd:fV op=true:=by kernel_rfl) : GF Fence.wide m P ops Q (⟨d,op,t,s,af,gu⟩ :: rest) n D F w:=yU lh h hw hd
theorem lO{q:Nat}(h:OG P ⟨d,op,t,s,af,gu⟩ n D F w (GF (Fence.wide.inRound q) m P ops Q rest n D) Q)(hw:lu ops F gu=(true,true):=by kernel_rfl)(hd:fV op=true:=by kernel_rfl) : GF (Fence.wide.inRound q) m P ops Q (⟨d,op,t,s,af,gu⟩ :: rest) n D F w:=yU (jV _) h hw hd
theorem Fp{o:Oper}(h:GF Fence.wide m P ops Q rest n D (pa P ops w F o) w)(hc:vV P ops w n 1 (o :: rest) F=vU P ops w 1 (o :: rest) F:=by kernel_rfl)(hd:fV o.op=true:=by kernel_rfl) : GF Fence.wide m P ops Q (o :: rest) n D F w:=yZ lh h hc hd
theorem xk{q:Nat}{o:Oper}(h:GF (Fence.wide.inRound q) m P ops Q rest n D (pa P ops w F o) w)(hc:vV P ops w n 1 (o :: rest) F=vU P ops w 1 (o :: rest) F:=by kernel_rfl)(hd:fV o.op=true:=by kernel_rfl) : GF (Fence.wide.inRound q) m P ops Q (o :: rest) n D F w:=yZ (jV _) h hc hd
theorem yl(j:Nat)(e:Bool)(ht:e=true→GF E m P ops Q l n D ((j,.bool true) :: F) w)(hf:e=false→GF E m P ops Q l n D ((j,.bool false) :: F) w)(hv:lk F j=some (.bool e):=by kernel_rfl) : GF E m P ops Q l n D F w:=by
  refine⟨fun a ha=>?_⟩
  have key:∀ b,e=b→Ag n D ((j,.bool b) :: F) a:=fun b hb=>⟨ha.sz,ha.df,fun i v hi=>by
    rcases gU hi with⟨rfl,rfl⟩|⟨_,h2⟩
    · rw[← hb];exact ha.at_ _ _ hv
    · exact ha.at_ _ _ h2⟩
  rcases dU e with q|q
  · exact(ht q).out a (key _ q)
  · exact(hf q).out a (key _ q)
theorem Fy{x:Operand}{opds:Array Operand}{ts:Array TypeId}{q:Nat}{r:Loop}(v:Value)(p:Tmp)(hl:w.heap[q]? = some (.loop r))(hp:r.params = #[p])
    (h:RoundIn Fence.wide (m-1) P q r.fn (r.tmps.setIfInBounds p v) r.assign r.body w (fun e w'=>∃ u,e = .returned u∧GF Fence.wide m P ops Q rest n D (pt d u F) w'))
    (hw:lu ops F gu=(true,true):=by kernel_rfl) (hx:fz F x=some (.func (.yield q) #[] #[]):=by kernel_rfl) (ha:opds.toList.map (fz F)=[some v]:=by kernel_rfl) (hd:gY n d=true:=by kernel_rfl) :
    GF Fence.wide m P ops Q (⟨d,.call { callee:=.value x,args:=opds,argTypes:=ts },t,s,af,gu⟩ :: rest) n D F w :=
  ⟨fun a hag=>uC v p (fY hag hw) rfl rfl (hag.ev hx) (by apply Array.toList_inj.1;rw[Array.toList_map];exact n9 (vs:=[v]) hag ha) hl hp (h.mono fun e w' hh=>by
    obtain⟨u,rfl,hk⟩:=hh
    exact⟨u,rfl,hk.out _ (hag.put hd)⟩)⟩
theorem pB{g:Operand}{ps:Array Tmp}{assign body:Code}{f:FuncId}(cap:Array Value)
    (h:∀ a,Ag n D F a→∀ fn0 D' q w₂,w.heap.size≤D'→w.heap.size≤q→D'≠q→w₂.heap[D']? = some (.deferred (some []))→w₂.heap[q]? = some (.loop { state:=.ready,pending:=none,fn:=fn0,tmps:=a.tmps,params:=ps,assign:=assign,body:=body,defers:=D' })→aF [] w w₂ →
      Calls P f (#[.func (.yield q) #[] #[]]++cap) w₂ (fun e w₃=>∃ v r',e = .returned v∧w₃.heap[q]? = some (.loop r')∧r'.state≠.busy∧r'.pending=none∧∀ w₄,aF [q] w₃ w₄→GQ Q .normal n ({ target:=.collected D',args:=#[] } :: D) F w₄))
    (hx:fz F g=some (.func (.func f) #[] cap):=by kernel_rfl) (hf:xH P f=some (false,true):=by kernel_rfl) : GC P (.rangeFunc g ps assign body) Q n D F w:=by
  obtain⟨fn,h1,h2,h3⟩:=kI hf
  refine⟨fun a ha=>tV cap (ha.ev hx) h1 h2 h3 fun fn0 D' q w₂ g1 g2 g3 g4 g5 g6=>(h a ha fn0 D' q w₂ g1 g2 g3 g4 g5 g6).mono fun e w₃ hh=>?_⟩
  obtain⟨v,r',k1,k2,k3,k4,k5⟩:=hh
  exact⟨v,r',k1,k2,k3,k4,fun w₄ hu=>(k5 w₄ hu).out _ ⟨ha.sz,by rw[ha.df],ha.at_⟩⟩
theorem yf{a:Act}(ha:Ag n D F a)(p:Tmp){v:Value}(h:GI E m P c Q n [] ((p,v) :: F) w)(hp:Nat.blt p n=true:=by kernel_rfl) : c.wpIn E m P Q { tmps:=a.tmps.setIfInBounds p v,defers:=[] } w:=by
  have h0:Ag n [] F { tmps:=a.tmps,defers:=[] }:=⟨ha.sz,rfl,ha.at_⟩
  exact h.out _ (h0.put (d:=some p) hp)
theorem yn{r:Loop}{q:Nat}{c:Code}{Qb:Exit→Act→World→Prop}(h1:w.heap[q]? = some (.loop r))(h2:r.state = .ready)(h:∀ w₂,w₂.heap[q]? = some (.loop { r with state:=.busy })→aF [q] w w₂→GI E m P c Qb n D F w₂) :
    GQ (Exit.then (fun a₁ w₁=>w₁.heap[q]? = some (.loop r)∧r.state = .ready∧∀ w₂,w₂.heap[q]? = some (.loop { r with state:=.busy })→aF [q] w₁ w₂→c.wpIn E m P Qb a₁ w₂) Q) .normal n D F w:=⟨fun a ha=>⟨h1,h2,fun w₂ k1 k2=>(h w₂ k1 k2).out a ha⟩⟩
theorem yH{r:Loop}{q:Nat}{Z:World→Prop}(h1:w.heap[q]? = some (.loop r))(h:∀ w₄,w₄.heap[q]? = some (.loop { r with state:=.ready,pending:=none })→aF [q] w w₄→Z w₄) :
    GQ (Exit.then (fun _ w₃=>∃ r',w₃.heap[q]? = some (.loop r')∧∀ w₄,w₄.heap[q]? = some (.loop { r' with state:=.ready,pending:=none })→aF [q] w₃ w₄→Z w₄) Q) .normal n D F w:=⟨fun a ha=>⟨r,h1,h⟩⟩
end
section
variable {P:Program}{n:Nat}{F:Fr}{w:World}{fn:Func}{R:Ending→World→Prop}
theorem xh{f:FuncId}{c:Code}{args:List Value}{w:World}(n:Nat)(hf:P.funcs[f]? = some fn)(hb:fn.body=some c)
    (h:GC P c (bodyPostM Fence.wide 9 P fn R) n [] (sN 0 args) w) (hn:args.length+(fn.ntmps-args.length)=n:=by kernel_rfl) : Calls P f args.toArray w R:=by
  subst hn
  exact oo hf hb (by simpa using h.out _ (yX (args:=args) (m:=fn.ntmps-args.length)))
theorem xj{D:Nat}(hD:w.heap[D]? = some (.deferred (some [])))(h:∀ w',aF [D] w w'→GQ (fun _ a w'=>∃ v,(results fn a.tmps).run P w' = .ok v w'∧R (.returned v) w') .ret n [{ target:=.collected D,args:=#[] }] F w') : GQ (bodyPostM Fence.wide 9 P fn R) .ret n [{ target:=.collected D,args:=#[] }] F w :=
  ⟨fun a ha=>wU ha.df hD fun w' hu=>(h w' hu).out a ha⟩
theorem rx{D:List Deferred}{g:Nat}{cs:Array Value}{t:TypeId}{fr:Nat × Nat}(B:w.heap[g]? = some (.cells cs t fr))(u:Value)(h:R (.returned (.tuple #[.agg cs,u])) w)(hc:xc P fn.results F=some (some (.pointer (some ⟨g,0,none⟩)),some u,some true,some cs.size):=by kernel_rfl) : GQ (fun _ a w'=>∃ v,(results fn a.tmps).run P w' = .ok v w'∧R (.returned v) w') .ret n D F w :=
  ⟨fun a ha=>⟨_,kj ha B rfl hc,h⟩⟩
theorem ry{g:Nat}{cs:Array Value}{t:TypeId}{fr:Nat × Nat}(B:w.heap[g]? = some (.cells cs t fr))(u:Value)(h:R (.returned (.tuple #[.agg cs,u])) w)(hc:xc P fn.results F=some (some (.pointer (some ⟨g,0,none⟩)),some u,some true,some cs.size):=by kernel_rfl) : GQ (bodyPostM Fence.wide 9 P fn R) .ret n [] F w :=
  ⟨fun a ha=>vG ha.df ⟨_,kj ha B rfl hc,h⟩⟩
end
open Go.RowKit
def w6 (mk:Nat→Value)(w:World)(e:Ending)(w':World) : Prop:=∃ gs,e = .returned (.tuple #[mk gs,.bool true])∧w.heap.size≤gs∧w'.heap[gs]? = some (.cells #[.int .i64 0] 3 (0,0))∧aF [] w w'
def yF (gs:Nat) : Value:=.agg #[.func (.func 252) #[] #[],.func (.func 250) #[] #[.pointer (some ⟨gs,0,none⟩)]]
def yy (gs:Nat) : Value:=.agg #[.func (.func 253) #[] #[],.func (.func 254) #[] #[]]
def yd (gs:Nat) : Value:=.agg #[.func (.func 255) #[] #[],.func (.func 256) #[] #[]]
theorem vF{w:World}:Calls Tryz.prog 209 #[.int .i64 0,.int .u8 20] w (w6 yF w):=by
 refine en 27 Tryz.func209 rfl<|sg<|L0<|bO #[.nilFunc,.nilFunc] fun m n g b c=>Pl 1<|ng<|L0<|bO #[.int .i64 0] fun d o a h i=>L0<|cj h 0 #[.int .i64 0] fun p j k=>nt<|sq<|?_
 refine go<|Pl 2<|nt<|sq<|bk<|sg<|Pl 7<|nt<|c1<|sg<|?_
 refine Pl 2<|?_
 have e:=ud i k a
 refine L0<|be (ub e b) #[.func (.func 252) #[] #[],.func (.func 250) #[] #[.pointer (some ⟨d,0,none⟩)]] fun q l f=>Pl 1<|nt<|rt<|br<|tr<|bP l (.bool true)<|?_
 exact⟨d,rfl,(Nat.le_trans c.size a),(b6 f (Ne.symm (nb (au b) lr a)) j),(ud c (uz e f) g)⟩
theorem vy{w:World}:Calls Tryz.prog 209 #[.int .i64 1,.int .u8 20] w (w6 yy w):=by
 refine en 27 Tryz.func209 rfl<|sg<|L0<|bO #[.nilFunc,.nilFunc] fun m n f b c=>Pl 1<|ng<|L0<|bO #[.int .i64 0] fun g o a h i=>L0<|cj h 0 #[.int .i64 0] fun p j k=>nt<|sq<|?_
 refine go<|Pl 2<|nt<|sq<|bk<|sg<|Pl 7<|nt<|c0<|sg<|?_
 refine Pl 3<|nt<|c1<|sg<|Pl 1<|?_
 have d:=ud i k a
 refine L0<|be (ub d b) #[.func (.func 253) #[] #[],.func (.func 254) #[] #[]] fun q l e=>Pl 1<|nt<|rt<|br<|tr<|bP l (.bool true)<|?_
 exact⟨g,rfl,(Nat.le_trans c.size a),(b6 e (Ne.symm (nb (au b) lr a)) j),(ud c (uz d e) f)⟩
theorem v9{dir:Int}{w:World}:Calls Tryz.prog 209 #[.int .i64 dir,.int .u8 21] w (w6 yd w):=by
 refine en 27 Tryz.func209 rfl<|sg<|L0<|bO #[.nilFunc,.nilFunc] fun m n f b c=>Pl 1<|ng<|L0<|bO #[.int .i64 0] fun g o a h i=>L0<|cj h 0 #[.int .i64 0] fun p j k=>nt<|sq<|?_
 refine go<|Pl 2<|nt<|sq<|bk<|sg<|Pl 7<|nt<|c0<|sg<|?_
 refine Pl 3<|nt<|c0<|sg<|Pl 3<|nt<|c1<|sg<|Pl 1<|?_
 have d:=ud i k a
 refine L0<|be (ub d b) #[.func (.func 255) #[] #[],.func (.func 256) #[] #[]] fun q l e=>Pl 1<|nt<|rt<|br<|tr<|bP l (.bool true)<|?_
 exact⟨g,rfl,(Nat.le_trans c.size a),(b6 e (Ne.symm (nb (au b) lr a)) j),(ud c (uz d e) f)⟩
theorem oL{dir x:Int}{w:World}(n1:(x==20)=false)(n2:(x==21)=false) : Calls Tryz.prog 209 #[.int .i64 dir,.int .u8 x] w (dM (.tuple #[.agg #[.nilFunc,.nilFunc],.bool false]) w):=by
 refine en 27 Tryz.func209 rfl<|sg<|L0<|bO #[.nilFunc,.nilFunc] fun k l b c d=>Pl 1<|ng<|L0<|bO #[.int .i64 0] fun m n e f g=>L0<|cj f 0 #[.int .i64 0] fun o p h=>nt<|sq<|?_
 refine go<|Pl 2<|nt<|sq<|bk<|sg<|Pl 3<|sy 12 n1<|Pl 4<|nt<|c0<|?_
 refine sg<|Pl 3<|nt<|cf n1<|sg<|Pl 3<|nt<|cf n2<|sk<|bn<|?_
 refine tn<|sg<|Pl 1<|?_
 have a:=ud g h e
 refine L0<|be (ub a c) #[.nilFunc,.nilFunc] fun q i j=>Pl 1<|nt<|rt<|bP i (.bool false)<|?_
 exact⟨rfl,(ud d (uz a j) b)⟩
theorem ll{gb:Nat}{f:Fn}{x y:Array Value}{w:World}:Calls Tryz.prog 210 #[.pointer (some ⟨gb,0,none⟩),.func f x y] w (fun e w'=>∃ b1 b2,e = .returned (.func (.func 257) #[] #[.pointer (some ⟨b1,0,none⟩),.pointer (some ⟨b2,0,none⟩)])∧w.heap.size≤b1∧w.heap.size≤b2∧b1≠b2 ∧
      w'.heap[b1]? = some (.cells #[.pointer (some ⟨gb,0,none⟩)] 113 (0,0))∧w'.heap[b2]? = some (.cells #[.func f x y] 212 (0,0))∧aF [] w w'):=by
 refine en 6 Tryz.func210 rfl<|sg<|L0<|dv #[.pointer (some ⟨gb,0,none⟩)] fun a k i b c=>L0<|dv #[.func f x y] fun d l g j h=>Pl 1<|ng<|Pl 2<|nt<|rt<|?_
 refine rr (.func (.func 257) #[] #[.pointer (some ⟨a,0,none⟩),.pointer (some ⟨d,0,none⟩)])<|?_
 exact⟨a,d,rfl,i,(Nat.le_trans c.size g),(nb (au b) lr g),(ub h b),j,(aG c h)⟩
theorem rO{g gs:Nat}{s:Int}{C:aj}{w:World}(hC:ap w g C)(hS:w.heap[gs]? = some (.cells #[.int .i64 s] 3 (0,0)))(hne:g≠gs)(hs:0≤s∧s≤1000000000000) :
    Calls Tryz.prog 250 #[.pointer (some ⟨g,0,none⟩),.pointer (some ⟨gs,0,none⟩)] w (fun e w'=>∃ A c,e = .returned (.agg #[.int .u16 (aT C).file,.int .u16 (aT C).record,.int .u16 (aT C).count,.slice A (aT C).words.length c])∧dP true w' (.slice A (aT C).words.length c) (aT C).words∧dB (aT C).file∧dB (aT C).record∧dB (aT C).count∧ap w' g (eC s C)∧w'.heap[gs]? = some (.cells #[.int .i64 (eM s C)] 3 (0,0))∧aF [g,gs] w w'):=by
 refine en 19 Tryz.func250 rfl<|sg<|L0<|bO #[.int .u16 0,.int .u16 0,.int .u16 0,.slice none 0 0] fun S T b j d=>ng<|Pl 1<|?_
 refine L0<|Oc<|we (o9 (ap.old hC d)) fun k l U H I J K m f=>?_
 obtain⟨V,W⟩:=I
 obtain⟨X,Y⟩:=J
 obtain⟨Z,a0⟩:=K
 refine L0<|bO #[.int .u16 0,.int .u16 0,.int .u16 0,.slice none 0 0] fun a1 a2 h L M=>L0<|be L #[.int .u16 ((aT C).file),.int .u16 ((aT C).record),.int .u16 ((aT C).count),.slice k ((aT C).words.length) l] fun a3 n N=>ng<|?_
 have o:=ud M N h
 have p:=aG f o
 have q:=b6 (uz d p) (Ne.symm hne) hS
 refine L0<|aP q 0<|Pl 1<|L0<|aP n 2<|L0<|Oi ((aT C).count)<|L0<|Oi (2*((aT C).count))<|L0<|Oi (2+(2*((aT C).count)))<|L0<|Oi (s+(2+(2*((aT C).count))))<|L0<|cj q 0 #[.int .i64 (s+(2+(2*((aT C).count))))] fun a4 r t=>ng<|Pl 1<|L0<|aP r 0<|?_
 refine Pl 1<|?_
 have u:=uz o t
 have a:=uz d f
 have v:=b6 a (Ne.symm hne) hS
 refine L0<|Oc<|m2 (bg ((decide ((s+(2+(2*((aT C).count))))≤245))) 5 (ap.upd m u (aa hne aA) (ax (aY v (by decide)) aK))) fun a5 O y=>?_
 refine ab O fun x47 P Q=>?_
 refine ng<|?_
 have z:=us t y
 refine L0<|bS (aF.blk z (aa (Ne.symm (nb (au hS) a.size h)) (aa (Ne.symm (nb (ap.lt hC) a.size h)) aA)) n)<|?_
 have i:=nb (ap.lt hC) lr b
 have B:=nb (au hS) lr b
 have D:=aF.blk (ui p z) (aa (Ne.symm B) (aa (Ne.symm i) aA)) j
 refine L0<|be D #[.int .u16 ((aT C).file),.int .u16 ((aT C).record),.int .u16 ((aT C).count),.slice k ((aT C).words.length) l] fun a6 R E=>nt<|rt<|xi R<|?_
 subst P
 have F:=us y E
 have G:=us u F
 exact⟨_,_,rfl,(dP.upd' H G (ax (aY v (by decide)) (ax (ap.safe m _ (by decide)) (ax (aY (b6 f (Ne.symm i) j) (by decide)) aK)))),aD (x:=(aT C).file) (by omega),aD (x:=(aT C).record) (by omega),aD (x:=(aT C).count) (by omega),(ap.upd Q E (aa i aA) (ax (aY D (by decide)) aK)),(aF.blk F (aa (Ne.symm hne) (aa B aA)) r),(ut (aF.mono (S':=[g,gs]) a (ac im av)) G (ac im (ac im (ac (nr b) av))))⟩
def gj (c:Int)(v:Value) : Array Value:=#[.int .u8 c,.int .u8 0,.int .u16 0,.int .u16 0,.int .u16 0,.int .u16 0,.int .u16 0,.int .u16 0,.int .u16 0,.int .u16 0,.int .u16 0,.int .u16 0,fS,fS,fS,v,.int .u8 0,.int .u8 0,.int .u8 0,.int .u8 0,.int .u8 0,fS]
structure JR (w0:World) (gb gs gm l:Nat) (c:Int) (r:Loop) (C:aj) (s:Int) (L:List dr) (A:Option Addr) (cp:Nat) (W:World) : Prop where
  u:aF [gb,gs,gm,l] w0 W
  hC:ap W gb C
  hS:W.heap[gs]? = some (.cells #[.int .i64 s] 3 (0,0))
  hm:W.heap[gm]? = some (.cells (gj c (.slice A L.length cp)) 30 (0,0))
  ho:aW w0.heap.size 109 4 (bv true) W (.slice A L.length cp) L
  hl:W.heap[l]? = some (.loop r)
def cX (s:Int)(C:aj) : Int × aj × dr:=(eM s C,eC s C,aT C)
def bH (s:Int)(C:aj) : Int × aj × dr:=(s,eQ C,eO C)
def cY (s:Int)(C:aj) : Int × aj × dr:=(s,iC C,iJ C)
def aU (one:Int→aj→Int × aj × dr) : Nat→Int→aj→List dr→aj × List dr
  | 0,_,C,L=>(C,L)
  | n+1,s,C,L =>
    if decide (0<(C.l.length:Int))&&C.e==0 then
      (if (one s C).2.1.e != 0 then ((one s C).2.1,L) else aU one n (one s C).1 (one s C).2.1 (L++[(one s C).2.2]))
    else (C,L)
theorem iL(C:aj)(n:Int) : (C.bytesC n).l.length≤C.l.length:=by
  unfold aj.bytesC
  split
  · unfold aj.need
    split<;>simp
  · simp
theorem kT(C:aj)(h:0<C.l.length) : (C.bytesC 1).l.length<C.l.length:=by
  unfold aj.bytesC
  split
  · unfold aj.need
    split<;>simpa using h
  · simp
    omega
theorem eK(C:aj)(b:Bool)(e:Int) : (C.need b e).l.length=C.l.length:=by
  unfold aj.need
  split<;>rfl
theorem eU(C:aj)(n:Int) : (C.wordsC n).l.length≤C.l.length:=by
  unfold aj.wordsC
  split<;>exact iL ..
theorem oR(C:aj)(h:0<C.l.length) : (dF C).l.length<C.l.length:=by
  have h1:(eu C).l.length<C.l.length:=by unfold eu;rw[eK];exact kT C h
  have h2:(iw C).l.length≤(eu C).l.length:=by unfold iw;rw[eK];exact eU ..
  have h3:(lx C).l.length≤(iw C).l.length:=by unfold lx;rw[eK];exact eU ..
  have h4:(dF C).l.length≤(lx C).l.length:=by unfold dF;rw[eK];exact eU ..
  omega
theorem mV(s:Int)(C:aj)(h:0<C.l.length) : (cX s C).2.1.l.length<C.l.length:=by
  show(eC s C).l.length<_
  unfold eC
  rw[eK]
  exact oR C h
theorem iS(s:Int)(C:aj)(h:0<C.l.length) : (bH s C).2.1.l.length<C.l.length:=by
  show(eQ C).l.length<_
  have h1:(gZ C).l.length<C.l.length:=by unfold gZ;rw[eK];exact kT C h
  have h2:(fQ C).l.length≤(gZ C).l.length:=by unfold fQ;rw[eK];exact iL ..
  have h3:(eQ C).l.length≤(fQ C).l.length:=by unfold eQ;exact eU ..
  omega
theorem nj(s:Int)(C:aj)(h:0<C.l.length) : (cY s C).2.1.l.length<C.l.length:=by
  show(iC C).l.length<_
  have h1:=oR C h
  have h2:(lU C).l.length=(dF C).l.length:=by unfold lU;rw[eK]
  have h3:(iC C).l.length≤(lU C).l.length:=by unfold iC;exact eU ..
  omega
theorem gH(one:Int→aj→Int × aj × dr)(n:Nat)(s:Int)(C:aj)(L:List dr)(h:(decide (0<(C.l.length:Int))&&C.e==0)=false) : aU one n s C L=(C,L):=by
  cases n with
  | zero=>rfl
  | succ n=>simp only[aU,h,Bool.false_eq_true,if_false]
open Go.RowKit
def ef (fn0:FuncId)(tm:Array Value)(asg bdy:Code)(D:Nat) : Loop:={ state:=.ready,pending:=none,fn:=fn0,tmps:=tm,params:=#[53],assign:=asg,body:=bdy,defers:=D }
def pv (w:World)(gb gs gm l:Nat)(c:Int)(R:Loop) : Prop:=∀ (W:World)(C:aj)(s:Int)(L:List dr)(A:Option Addr)(cp:Nat)(x:dr)(Ax:Option Addr)(cx:Nat),JR w gb gs gm l c R C s L A cp W→dP true W (.slice Ax x.words.length cx) x.words→dB x.file→dB x.record→dB x.count→L.length≤1048576 →
    RoundIn Fence.wide 8 Tryz.prog l R.fn (R.tmps.setIfInBounds 53 (.agg #[.int .u16 x.file,.int .u16 x.record,.int .u16 x.count,.slice Ax x.words.length cx])) R.assign R.body W (fun e W'=>e = .returned (.bool true)∧W.heap.size≤W'.heap.size∧∃ A2 c2,JR w gb gs gm l c R C s (L++[x]) A2 c2 W')
theorem wQ{w:World}{gb gs gm l b1 b2 fn0 D:Nat}{tm:Array Value}{asg bdy:Code}{c:Int}{C0:aj}(hC:ap w gb C0)(hS:w.heap[gs]? = some (.cells #[.int .i64 0] 3 (0,0)))(hm:w.heap[gm]? = some (.cells (gj c fS) 30 (0,0)))
    (hl:w.heap[l]? = some (.loop (ef fn0 tm asg bdy D))) (hb1:w.heap[b1]? = some (.cells #[.pointer (some ⟨gb,0,none⟩)] 113 (0,0))) (hb2:w.heap[b2]? = some (.cells #[.func (.func 250) #[] #[.pointer (some ⟨gs,0,none⟩)]] 212 (0,0)))
    (n1:gb≠gs) (n2:gb≠gm) (n3:gb≠l) (n4:gs≠gm) (n5:gs≠l) (n6:gm≠l) (m1:b1≠gb) (m2:b1≠gs) (m3:b1≠gm) (m4:b1≠l) (k1:b2≠gb) (k2:b2≠gs) (k3:b2≠gm) (k4:b2≠l) (hround:pv w gb gs gm l c (ef fn0 tm asg bdy D)) :
    Calls Tryz.prog 257 #[.func (.yield l) #[] #[],.pointer (some ⟨b1,0,none⟩),.pointer (some ⟨b2,0,none⟩)] w (fun e W=>e = .returned (.tuple #[])∧∃ s A cp,JR w gb gs gm l c (ef fn0 tm asg bdy D) (aU cX C0.l.length 0 C0 []).1 s (aU cX C0.l.length 0 C0 []).2 A cp W):=by
 have hlen:=hC.len
 refine en 25 Tryz.func257 rfl<|bk<|?_
 refine js (fun x=>[(0,.func (.yield l) #[] #[]),(1,.pointer (some ⟨b1,0,none⟩)),(2,.pointer (some ⟨b2,0,none⟩))]) (fun(x:Nat × aj × Int × List dr × Option Addr × Nat) w'=>aF [gb,gs,gm,l] w w'∧ap w' gb x.2.1∧w'.heap[gs]? = some (.cells #[.int .i64 x.2.2.1] 3 (0,0))∧w'.heap[gm]? = some (.cells (gj c (.slice x.2.2.2.2.1 x.2.2.2.1.length x.2.2.2.2.2)) 30 (0,0))∧w'.heap[l]? = some (.loop (ef fn0 tm asg bdy D))∧aW w.heap.size 109 4 (bv true) w' (.slice x.2.2.2.2.1 x.2.2.2.1.length x.2.2.2.2.2) x.2.2.2.1∧(aU cX x.1 x.2.2.1 x.2.1 x.2.2.2.1=aU cX C0.l.length 0 C0 [])∧(x.2.1.l.length≤x.1)∧(0≤x.2.2.1∧x.2.2.1≤131074*(x.2.2.2.1.length:Int))∧(x.2.2.2.1.length+x.1≤C0.l.length)) (fun x=>x.1) (C0.l.length,C0,0,[],none,0) ⟨aF.refl _ _,hC,hS,hm,hl,aW.nil ..,rfl,(Nat.le_refl _),(by(try dsimp only);omega),(by(try dsimp only);(try simp only[List.length_nil]);omega)⟩ ?_
 rintro⟨n,C,s,L,A,cp⟩ h ⟨m,J,M,N,O,P,Q,R,S,T⟩
 refine ju [(0,.func (.yield l) #[] #[]),(1,.pointer (some ⟨b1,0,none⟩)),(2,.pointer (some ⟨b2,0,none⟩))] ?_
 have b:ap h gb C:=J
 have o:h.heap[gs]? = some (.cells #[.int .i64 s] 3 (0,0)):=M
 have t:h.heap[gm]? = some (.cells (gj c (.slice A L.length cp)) 30 (0,0)):=N
 have v:h.heap[l]? = some (.loop (ef fn0 tm asg bdy D)):=O
 have d:aW w.heap.size 109 4 (bv true) h (.slice A L.length cp) L:=P
 have af:aU cX n s C L=aU cX C0.l.length 0 C0 []:=Q
 have ag:C.l.length≤n:=R
 have ah:0≤s∧s≤131074*(L.length:Int):=S
 have ak:L.length+n≤C0.l.length:=T
 have hrec:aU cX n s C L=aU cX C0.l.length 0 C0 []:=by assumption
 refine sq<|sg<|?_
 have p:=aF.blk m (aa m1 (aa m2 (aa m3 (aa m4 aA)))) hb1
 refine L0<|aP p 0<|L0<|Oc<|mq (eh b)<|?_
 have al:=ap.len b
 refine Pl 2<|cu 4 [8] 12 (((decide (0<((C.l.length:Nat) : Int)))&&(C.e==0))) (fun K B=>?_) ?_
 refine bl 8 ((decide (0<((C.l.length:Nat) : Int)))) (fun i=>?_) (fun i=>?_)
 have U:=of_decide_eq_true i
 refine L1<|aP p 0<|L1<|Oc<|mq (bG b)<|?_
 have am:=ap.len b
 exact Pl 2<|ce B (C.e==0) (by rw[i];rfl)
 have U:=of_decide_eq_false i
 exact Pl 4<|ce B false (by rw[i];rfl)
 refine nt<|cb (((decide (0<((C.l.length:Nat) : Int)))&&(C.e==0))) (fun f=>?_) (fun f=>?_)
 have y:=(aZ f).1
 have z:=(aZ f).2
 have an:=of_decide_eq_true y
 have ao:=ae z
 refine bp<|bk<|sg<|?_
 refine L0<|aP (aF.blk m (aa k1 (aa k2 (aa k3 (aa k4 aA)))) hb2) 0<|L0<|aP p 0<|L0<|gx #[] #[.pointer (some ⟨gs,0,none⟩)] (args:=#[.pointer (some ⟨gb,0,none⟩),.pointer (some ⟨gs,0,none⟩)])<|zf (rO (s:=s) b o n1 (by omega)) fun E F ar V X Y Z a0 G a1=>?_
 have aw:eM s C=s+(2+2*(aT C).count):=rfl
 obtain⟨ay,aC⟩:=X
 obtain⟨aE,aH⟩:=Y
 obtain⟨aI,aJ⟩:=Z
 refine L0<|bO #[.int .u16 0,.int .u16 0,.int .u16 0,.slice none 0 0] fun aL aM a2 a3 a4=>L0<|be a3 #[.int .u16 ((aT C).file),.int .u16 ((aT C).record),.int .u16 ((aT C).count),.slice E ((aT C).words.length) F] fun a5 a6 a7=>nt<|sq<|yJ 9<|?_
 have j:=ud a4 a7 a2
 have a:=aG a1 j
 refine F0<|aP (aF.blk a (aa m1 (aa m2 aA)) p) 0<|?_
 have q:=ap.old a0 j
 refine F0<|Oc<|mq (bG q)<|?_
 have aN:=ap.len q
 refine Fp<|Fp<|?_
 have H:=ut m a (ac im (ac im av))
 refine yl 19 ((((eC s C).e)!=0)) (fun k=>?_) (fun k=>?_)
 have a8:=az k
 refine Fp<|Fp<|Fp<|Fp<|Fp<|sf<|tn<|c1<|rt<|br<|tr<|br<|rr (.tuple #[])<|?_
 have hfin:aU cX C0.l.length 0 C0 []=((eC s C),L):=by
   rw[← hrec]
   rw[show n=(n-1)+1 from by omega]
   simp only[aU,cX,f,y,z,k,bs,if_true,if_false,decide_true,decide_false,reduceIte]
 refine⟨rfl,(eM s C),A,cp,?_⟩
 rw[hfin]
 exact⟨H,q,(ub j G),(aF.blk a (aa (Ne.symm n2) (aa (Ne.symm n4) aA)) t),(aq d a (fun x hx=>(aa (fun e=>(aB (ap.lt hC) lr d) (e▸hx)) (aa (fun e=>(aB (au hS) lr d) (e▸hx)) aA))) (bv.upd16 a (ax (ap.safe b _ (by decide)) (ax (aY o (by decide)) aK)))),(aF.blk a (aa (Ne.symm n3) (aa (Ne.symm n5) aA)) v)⟩
 have a8:=ai k
 refine Fp<|F0<|bS a6<|?_
 have I:=aF.blk a (aa (Ne.symm n3) (aa (Ne.symm n5) aA)) v
 have a9:JR w gb gs gm l c (ef fn0 tm asg bdy D) (eC s C) (eM s C) L A cp a5:=⟨H,q,(ub j G),(aF.blk a (aa (Ne.symm n2) (aa (Ne.symm n4) aA)) t),(aq d a (fun x hx=>(aa (fun e=>(aB (ap.lt hC) lr d) (e▸hx)) (aa (fun e=>(aB (au hS) lr d) (e▸hx)) aA))) (bv.upd16 a (ax (ap.safe b _ (by decide)) (ax (aY o (by decide)) aK)))),I⟩
 refine Fy (r:=ef fn0 tm asg bdy D) (.agg #[.int .u16 ((aT C).file),.int .u16 ((aT C).record),.int .u16 ((aT C).count),.slice E ((aT C).words.length) F]) 53 I rfl<|?_
 refine RoundIn.mono (hround _ _ _ _ _ _ (aT C) _ _ a9 (dP.upd' V j aK) (aD (by omega)) (aD (by omega)) (aD (by omega)) (by omega)) ?_
 rintro _ aO ⟨rfl,aQ,ab,ad,g⟩
 refine⟨_,rfl,?_⟩
 exact Fp<|Fp<|sf<|tn<|c0<|sk<|bn<|gM ((n-1),(eC s C),(eM s C),(L++[(aT C)]),ab,ad) ⟨g.u,g.hC,g.hS,g.hm,g.hl,g.ho,(by(try dsimp only);rw[← hrec,show n=(n-1)+1 from by omega];simp only[aU,cX,f,y,z,k,bs,if_true,if_false,decide_true,decide_false,Nat.add_sub_cancel,reduceIte]),(by(try dsimp only);have hd:=mV s C (by omega);have iw:(cX s C).2.1.l.length=(eC s C).l.length:=rfl;omega),(by(try dsimp only);simp only[List.length_append,List.length_cons,List.length_nil];omega),(by(try dsimp only);simp only[List.length_append,List.length_cons,List.length_nil];omega)⟩ (by omega)
 refine xt<|tx<|tx<|bx<|rm (.tuple #[])<|?_
 have hfin:aU cX C0.l.length 0 C0 []=(C,L):=by
   rw[← hrec]
   exact gH _ _ _ _ _ (by simp only[f,bs,if_true,if_false,decide_true,decide_false])
 refine⟨rfl,s,A,cp,?_⟩
 rw[hfin]
 exact⟨m,b,o,t,d,v⟩
theorem w8{w:World}{gb gs gm l b1 b2 fn0 D:Nat}{tm:Array Value}{asg bdy:Code}{c:Int}{C0:aj}(hC:ap w gb C0)(hS:w.heap[gs]? = some (.cells #[.int .i64 0] 3 (0,0)))(hm:w.heap[gm]? = some (.cells (gj c fS) 30 (0,0)))
    (hl:w.heap[l]? = some (.loop (ef fn0 tm asg bdy D))) (hb1:w.heap[b1]? = some (.cells #[.pointer (some ⟨gb,0,none⟩)] 113 (0,0))) (hb2:w.heap[b2]? = some (.cells #[.func (.func 254) #[] #[]] 212 (0,0)))
    (n1:gb≠gs) (n2:gb≠gm) (n3:gb≠l) (n4:gs≠gm) (n5:gs≠l) (n6:gm≠l) (m1:b1≠gb) (m2:b1≠gs) (m3:b1≠gm) (m4:b1≠l) (k1:b2≠gb) (k2:b2≠gs) (k3:b2≠gm) (k4:b2≠l) (hround:pv w gb gs gm l c (ef fn0 tm asg bdy D)) :
    Calls Tryz.prog 257 #[.func (.yield l) #[] #[],.pointer (some ⟨b1,0,none⟩),.pointer (some ⟨b2,0,none⟩)] w (fun e W=>e = .returned (.tuple #[])∧∃ s A cp,JR w gb gs gm l c (ef fn0 tm asg bdy D) (aU bH C0.l.length 0 C0 []).1 s (aU bH C0.l.length 0 C0 []).2 A cp W):=by
 have hlen:=hC.len
 refine en 25 Tryz.func257 rfl<|bk<|?_
 refine js (fun x=>[(0,.func (.yield l) #[] #[]),(1,.pointer (some ⟨b1,0,none⟩)),(2,.pointer (some ⟨b2,0,none⟩))]) (fun(x:Nat × aj × Int × List dr × Option Addr × Nat) w'=>aF [gb,gs,gm,l] w w'∧ap w' gb x.2.1∧w'.heap[gs]? = some (.cells #[.int .i64 x.2.2.1] 3 (0,0))∧w'.heap[gm]? = some (.cells (gj c (.slice x.2.2.2.2.1 x.2.2.2.1.length x.2.2.2.2.2)) 30 (0,0))∧w'.heap[l]? = some (.loop (ef fn0 tm asg bdy D))∧aW w.heap.size 109 4 (bv true) w' (.slice x.2.2.2.2.1 x.2.2.2.1.length x.2.2.2.2.2) x.2.2.2.1∧(aU bH x.1 x.2.2.1 x.2.1 x.2.2.2.1=aU bH C0.l.length 0 C0 [])∧(x.2.1.l.length≤x.1)∧(0≤x.2.2.1∧x.2.2.1≤131074*(x.2.2.2.1.length:Int))∧(x.2.2.2.1.length+x.1≤C0.l.length)) (fun x=>x.1) (C0.l.length,C0,0,[],none,0) ⟨aF.refl _ _,hC,hS,hm,hl,aW.nil ..,rfl,(Nat.le_refl _),(by(try dsimp only);omega),(by(try dsimp only);(try simp only[List.length_nil]);omega)⟩ ?_
 rintro⟨n,C,s,L,A,cp⟩ g ⟨k,I,J,M,N,O,P,Q,R,S⟩
 refine ju [(0,.func (.yield l) #[] #[]),(1,.pointer (some ⟨b1,0,none⟩)),(2,.pointer (some ⟨b2,0,none⟩))] ?_
 have b:ap g gb C:=I
 have p:g.heap[gs]? = some (.cells #[.int .i64 s] 3 (0,0)):=J
 have q:g.heap[gm]? = some (.cells (gj c (.slice A L.length cp)) 30 (0,0)):=M
 have t:g.heap[l]? = some (.loop (ef fn0 tm asg bdy D)):=N
 have h:aW w.heap.size 109 4 (bv true) g (.slice A L.length cp) L:=O
 have ac:aU bH n s C L=aU bH C0.l.length 0 C0 []:=P
 have ad:C.l.length≤n:=Q
 have af:0≤s∧s≤131074*(L.length:Int):=R
 have ag:L.length+n≤C0.l.length:=S
 have hrec:aU bH n s C L=aU bH C0.l.length 0 C0 []:=by assumption
 refine sq<|sg<|?_
 have m:=aF.blk k (aa m1 (aa m2 (aa m3 (aa m4 aA)))) hb1
 refine L0<|aP m 0<|L0<|Oc<|mq (eh b)<|?_
 have ah:=ap.len b
 refine Pl 2<|cu 4 [8] 12 (((decide (0<((C.l.length:Nat) : Int)))&&(C.e==0))) (fun K B=>?_) ?_
 refine bl 8 ((decide (0<((C.l.length:Nat) : Int)))) (fun i=>?_) (fun i=>?_)
 have T:=of_decide_eq_true i
 refine L1<|aP m 0<|L1<|Oc<|mq (bG b)<|?_
 have ak:=ap.len b
 exact Pl 2<|ce B (C.e==0) (by rw[i];rfl)
 have T:=of_decide_eq_false i
 exact Pl 4<|ce B false (by rw[i];rfl)
 refine nt<|cb (((decide (0<((C.l.length:Nat) : Int)))&&(C.e==0))) (fun d=>?_) (fun d=>?_)
 have v:=(aZ d).1
 have y:=(aZ d).2
 have al:=of_decide_eq_true v
 have am:=ae y
 refine bp<|bk<|sg<|?_
 refine L0<|aP (aF.blk k (aa k1 (aa k2 (aa k3 (aa k4 aA)))) hb2) 0<|L0<|aP m 0<|L0<|gx #[] #[] (args:=#[.pointer (some ⟨gb,0,none⟩)])<|we (rl b) fun E F an U V X Y Z a0=>?_
 obtain⟨ao,ar⟩:=V
 obtain⟨au,av⟩:=X
 obtain⟨aw,ay⟩:=Y
 refine L0<|bO #[.int .u16 0,.int .u16 0,.int .u16 0,.slice none 0 0] fun aC aE a1 a2 a3=>L0<|be a2 #[.int .u16 ((eO C).file),.int .u16 ((eO C).record),.int .u16 ((eO C).count),.slice E ((eO C).words.length) F] fun a4 a5 a6=>nt<|sq<|yJ 9<|?_
 have z:=ud a3 a6 a1
 have a:=aG a0 z
 refine F0<|aP (b6 a m1 m) 0<|?_
 have o:=ap.old Z z
 refine F0<|Oc<|mq (bG o)<|?_
 have aH:=ap.len o
 refine Fp<|Fp<|?_
 have G:=u1 k a im
 refine yl 19 ((((eQ C).e)!=0)) (fun j=>?_) (fun j=>?_)
 have a7:=az j
 refine Fp<|Fp<|Fp<|Fp<|Fp<|sf<|tn<|c1<|rt<|br<|tr<|br<|rr (.tuple #[])<|?_
 have hfin:aU bH C0.l.length 0 C0 []=((eQ C),L):=by
   rw[← hrec]
   rw[show n=(n-1)+1 from by omega]
   simp only[aU,bH,d,v,y,j,bs,if_true,if_false,decide_true,decide_false,reduceIte]
 refine⟨rfl,s,A,cp,?_⟩
 rw[hfin]
 exact⟨G,o,(b6 a (Ne.symm n1) p),(b6 a (Ne.symm n2) q),(aq h a (fun x hx=>(aa (fun e=>(aB (ap.lt hC) lr h) (e▸hx)) aA)) (bv.upd16 a (ax (ap.safe b _ (by decide)) aK))),(b6 a (Ne.symm n3) t)⟩
 have a7:=ai j
 refine Fp<|F0<|bS a5<|?_
 have H:=b6 a (Ne.symm n3) t
 have a8:JR w gb gs gm l c (ef fn0 tm asg bdy D) (eQ C) s L A cp a4:=⟨G,o,(b6 a (Ne.symm n1) p),(b6 a (Ne.symm n2) q),(aq h a (fun x hx=>(aa (fun e=>(aB (ap.lt hC) lr h) (e▸hx)) aA)) (bv.upd16 a (ax (ap.safe b _ (by decide)) aK))),H⟩
 refine Fy (r:=ef fn0 tm asg bdy D) (.agg #[.int .u16 ((eO C).file),.int .u16 ((eO C).record),.int .u16 ((eO C).count),.slice E ((eO C).words.length) F]) 53 H rfl<|?_
 refine RoundIn.mono (hround _ _ _ _ _ _ (eO C) _ _ a8 (dP.upd' U z aK) (aD (by omega)) (aD (by omega)) (aD (by omega)) (by omega)) ?_
 rintro _ aI ⟨rfl,aJ,a9,ab,f⟩
 refine⟨_,rfl,?_⟩
 exact Fp<|Fp<|sf<|tn<|c0<|sk<|bn<|gM ((n-1),(eQ C),s,(L++[(eO C)]),a9,ab) ⟨f.u,f.hC,f.hS,f.hm,f.hl,f.ho,(by(try dsimp only);rw[← hrec,show n=(n-1)+1 from by omega];simp only[aU,bH,d,v,y,j,bs,if_true,if_false,decide_true,decide_false,Nat.add_sub_cancel,reduceIte]),(by(try dsimp only);have hd:=iS s C (by omega);have iw:(bH s C).2.1.l.length=(eQ C).l.length:=rfl;omega),(by(try dsimp only);simp only[List.length_append,List.length_cons,List.length_nil];omega),(by(try dsimp only);simp only[List.length_append,List.length_cons,List.length_nil];omega)⟩ (by omega)
 refine xt<|tx<|tx<|bx<|rm (.tuple #[])<|?_
 have hfin:aU bH C0.l.length 0 C0 []=(C,L):=by
   rw[← hrec]
   exact gH _ _ _ _ _ (by simp only[d,bs,if_true,if_false,decide_true,decide_false])
 refine⟨rfl,s,A,cp,?_⟩
 rw[hfin]
 exact⟨k,b,p,q,h,t⟩
theorem ws{w:World}{gb gs gm l b1 b2 fn0 D:Nat}{tm:Array Value}{asg bdy:Code}{c:Int}{C0:aj}(hC:ap w gb C0)(hS:w.heap[gs]? = some (.cells #[.int .i64 0] 3 (0,0)))(hm:w.heap[gm]? = some (.cells (gj c fS) 30 (0,0)))
    (hl:w.heap[l]? = some (.loop (ef fn0 tm asg bdy D))) (hb1:w.heap[b1]? = some (.cells #[.pointer (some ⟨gb,0,none⟩)] 113 (0,0))) (hb2:w.heap[b2]? = some (.cells #[.func (.func 256) #[] #[]] 212 (0,0)))
    (n1:gb≠gs) (n2:gb≠gm) (n3:gb≠l) (n4:gs≠gm) (n5:gs≠l) (n6:gm≠l) (m1:b1≠gb) (m2:b1≠gs) (m3:b1≠gm) (m4:b1≠l) (k1:b2≠gb) (k2:b2≠gs) (k3:b2≠gm) (k4:b2≠l) (hround:pv w gb gs gm l c (ef fn0 tm asg bdy D)) :
    Calls Tryz.prog 257 #[.func (.yield l) #[] #[],.pointer (some ⟨b1,0,none⟩),.pointer (some ⟨b2,0,none⟩)] w (fun e W=>e = .returned (.tuple #[])∧∃ s A cp,JR w gb gs gm l c (ef fn0 tm asg bdy D) (aU cY C0.l.length 0 C0 []).1 s (aU cY C0.l.length 0 C0 []).2 A cp W):=by
 have hlen:=hC.len
 refine en 25 Tryz.func257 rfl<|bk<|?_
 refine js (fun x=>[(0,.func (.yield l) #[] #[]),(1,.pointer (some ⟨b1,0,none⟩)),(2,.pointer (some ⟨b2,0,none⟩))]) (fun(x:Nat × aj × Int × List dr × Option Addr × Nat) w'=>aF [gb,gs,gm,l] w w'∧ap w' gb x.2.1∧w'.heap[gs]? = some (.cells #[.int .i64 x.2.2.1] 3 (0,0))∧w'.heap[gm]? = some (.cells (gj c (.slice x.2.2.2.2.1 x.2.2.2.1.length x.2.2.2.2.2)) 30 (0,0))∧w'.heap[l]? = some (.loop (ef fn0 tm asg bdy D))∧aW w.heap.size 109 4 (bv true) w' (.slice x.2.2.2.2.1 x.2.2.2.1.length x.2.2.2.2.2) x.2.2.2.1∧(aU cY x.1 x.2.2.1 x.2.1 x.2.2.2.1=aU cY C0.l.length 0 C0 [])∧(x.2.1.l.length≤x.1)∧(0≤x.2.2.1∧x.2.2.1≤131074*(x.2.2.2.1.length:Int))∧(x.2.2.2.1.length+x.1≤C0.l.length)) (fun x=>x.1) (C0.l.length,C0,0,[],none,0) ⟨aF.refl _ _,hC,hS,hm,hl,aW.nil ..,rfl,(Nat.le_refl _),(by(try dsimp only);omega),(by(try dsimp only);(try simp only[List.length_nil]);omega)⟩ ?_
 rintro⟨n,C,s,L,A,cp⟩ g ⟨k,I,J,M,N,O,P,Q,R,S⟩
 refine ju [(0,.func (.yield l) #[] #[]),(1,.pointer (some ⟨b1,0,none⟩)),(2,.pointer (some ⟨b2,0,none⟩))] ?_
 have b:ap g gb C:=I
 have p:g.heap[gs]? = some (.cells #[.int .i64 s] 3 (0,0)):=J
 have q:g.heap[gm]? = some (.cells (gj c (.slice A L.length cp)) 30 (0,0)):=M
 have t:g.heap[l]? = some (.loop (ef fn0 tm asg bdy D)):=N
 have h:aW w.heap.size 109 4 (bv true) g (.slice A L.length cp) L:=O
 have ac:aU cY n s C L=aU cY C0.l.length 0 C0 []:=P
 have ad:C.l.length≤n:=Q
 have af:0≤s∧s≤131074*(L.length:Int):=R
 have ag:L.length+n≤C0.l.length:=S
 have hrec:aU cY n s C L=aU cY C0.l.length 0 C0 []:=by assumption
 refine sq<|sg<|?_
 have m:=aF.blk k (aa m1 (aa m2 (aa m3 (aa m4 aA)))) hb1
 refine L0<|aP m 0<|L0<|Oc<|mq (eh b)<|?_
 have ah:=ap.len b
 refine Pl 2<|cu 4 [8] 12 (((decide (0<((C.l.length:Nat) : Int)))&&(C.e==0))) (fun K B=>?_) ?_
 refine bl 8 ((decide (0<((C.l.length:Nat) : Int)))) (fun i=>?_) (fun i=>?_)
 have T:=of_decide_eq_true i
 refine L1<|aP m 0<|L1<|Oc<|mq (bG b)<|?_
 have ak:=ap.len b
 exact Pl 2<|ce B (C.e==0) (by rw[i];rfl)
 have T:=of_decide_eq_false i
 exact Pl 4<|ce B false (by rw[i];rfl)
 refine nt<|cb (((decide (0<((C.l.length:Nat) : Int)))&&(C.e==0))) (fun d=>?_) (fun d=>?_)
 have v:=(aZ d).1
 have y:=(aZ d).2
 have al:=of_decide_eq_true v
 have am:=ae y
 refine bp<|bk<|sg<|?_
 refine L0<|aP (aF.blk k (aa k1 (aa k2 (aa k3 (aa k4 aA)))) hb2) 0<|L0<|aP m 0<|L0<|gx #[] #[] (args:=#[.pointer (some ⟨gb,0,none⟩)])<|we (vj b) fun E F an U V X Y Z a0=>?_
 obtain⟨ao,ar⟩:=V
 obtain⟨au,av⟩:=X
 obtain⟨aw,ay⟩:=Y
 refine L0<|bO #[.int .u16 0,.int .u16 0,.int .u16 0,.slice none 0 0] fun aC aE a1 a2 a3=>L0<|be a2 #[.int .u16 ((iJ C).file),.int .u16 ((iJ C).record),.int .u16 ((iJ C).count),.slice E ((iJ C).words.length) F] fun a4 a5 a6=>nt<|sq<|yJ 9<|?_
 have z:=ud a3 a6 a1
 have a:=aG a0 z
 refine F0<|aP (b6 a m1 m) 0<|?_
 have o:=ap.old Z z
 refine F0<|Oc<|mq (bG o)<|?_
 have aH:=ap.len o
 refine Fp<|Fp<|?_
 have G:=u1 k a im
 refine yl 19 ((((iC C).e)!=0)) (fun j=>?_) (fun j=>?_)
 have a7:=az j
 refine Fp<|Fp<|Fp<|Fp<|Fp<|sf<|tn<|c1<|rt<|br<|tr<|br<|rr (.tuple #[])<|?_
 have hfin:aU cY C0.l.length 0 C0 []=((iC C),L):=by
   rw[← hrec]
   rw[show n=(n-1)+1 from by omega]
   simp only[aU,cY,d,v,y,j,bs,if_true,if_false,decide_true,decide_false,reduceIte]
 refine⟨rfl,s,A,cp,?_⟩
 rw[hfin]
 exact⟨G,o,(b6 a (Ne.symm n1) p),(b6 a (Ne.symm n2) q),(aq h a (fun x hx=>(aa (fun e=>(aB (ap.lt hC) lr h) (e▸hx)) aA)) (bv.upd16 a (ax (ap.safe b _ (by decide)) aK))),(b6 a (Ne.symm n3) t)⟩
 have a7:=ai j
 refine Fp<|F0<|bS a5<|?_
 have H:=b6 a (Ne.symm n3) t
 have a8:JR w gb gs gm l c (ef fn0 tm asg bdy D) (iC C) s L A cp a4:=⟨G,o,(b6 a (Ne.symm n1) p),(b6 a (Ne.symm n2) q),(aq h a (fun x hx=>(aa (fun e=>(aB (ap.lt hC) lr h) (e▸hx)) aA)) (bv.upd16 a (ax (ap.safe b _ (by decide)) aK))),H⟩
 refine Fy (r:=ef fn0 tm asg bdy D) (.agg #[.int .u16 ((iJ C).file),.int .u16 ((iJ C).record),.int .u16 ((iJ C).count),.slice E ((iJ C).words.length) F]) 53 H rfl<|?_
 refine RoundIn.mono (hround _ _ _ _ _ _ (iJ C) _ _ a8 (dP.upd' U z aK) (aD (by omega)) (aD (by omega)) (aD (by omega)) (by omega)) ?_
 rintro _ aI ⟨rfl,aJ,a9,ab,f⟩
 refine⟨_,rfl,?_⟩
 exact Fp<|Fp<|sf<|tn<|c0<|sk<|bn<|gM ((n-1),(iC C),s,(L++[(iJ C)]),a9,ab) ⟨f.u,f.hC,f.hS,f.hm,f.hl,f.ho,(by(try dsimp only);rw[← hrec,show n=(n-1)+1 from by omega];simp only[aU,cY,d,v,y,j,bs,if_true,if_false,decide_true,decide_false,Nat.add_sub_cancel,reduceIte]),(by(try dsimp only);have hd:=nj s C (by omega);have iw:(cY s C).2.1.l.length=(iC C).l.length:=rfl;omega),(by(try dsimp only);simp only[List.length_append,List.length_cons,List.length_nil];omega),(by(try dsimp only);simp only[List.length_append,List.length_cons,List.length_nil];omega)⟩ (by omega)
 refine xt<|tx<|tx<|bx<|rm (.tuple #[])<|?_
 have hfin:aU cY C0.l.length 0 C0 []=(C,L):=by
   rw[← hrec]
   exact gH _ _ _ _ _ (by simp only[d,bs,if_true,if_false,decide_true,decide_false])
 refine⟨rfl,s,A,cp,?_⟩
 rw[hfin]
 exact⟨k,b,p,q,h,t⟩
open Go.RowKit
def eF (n:Int) : Bool:=(decide (7≤n)&&decide (n≤245))&&n%7==0
def eB (n:Int) : Bool:=decide (4≤n)&&decide (n≤245)
def eG (n:Int) : Bool:=decide (9≤n)&&decide (n≤251)
def jg (may:Int→Bool)(C:aj) : aj:=(C.bytesC 1).need (may C.byteV) 5
def rU (may:Int→Bool)(C:aj) : aj:=⟨(jg may C).bytesR C.byteV,false,0⟩
def nD (one:Int→aj→Int × aj × dr)(may:Int→Bool)(C:aj) : aj × List dr:=aU one (rU may C).l.length 0 (rU may C) []
def bq (e:Int) : Int:=if e==2 then 5 else e
def dy (one:Int→aj→Int × aj × dr)(may:Int→Bool)(c:Int)(C:aj) : aj × aQ :=
  (((jg may C).bytesC C.byteV).need ((nD one may C).1.e==0) (bq (nD one may C).1.e),{ aQ.zero with code:=c,recs:=(nD one may C).2 })
def aX (dir c:Int)(C:aj) : Option (aj × aQ) :=
  if c==20 then (if dir==0 then some (dy cX eF c C) else some (dy bH eB c C)) else if c==21 then some (dy cY eG c C) else none
theorem mp:((20:Int)==20)=true:=rfl
theorem mJ:((21:Int)==20)=false:=rfl
theorem mw:((21:Int)==21)=true:=rfl
theorem oI{m:Md}{A:Option Addr}{cp:Nat}{b:List Int}{w:World}{dir:Int}(hd:dir=0∨dir=1)(hsl:bh m w (.slice A b.length cp) b)(hb:b.length≤1048576) :
    Calls Tryz.prog 144 #[.int .i64 0,.int .u8 20,.slice A b.length cp] w (eb (ag aX 0 20 b) w):=by
 have hln:(b.length:Int)≤1048576:=by omega
 have cN:((dir != 0)&&(dir != 1))=false:=by rcases hd with rfl | rfl<;>rfl
 refine xh 77 Tryz.func144 rfl<|sg<|L0<|bO mZ fun ad cO bj K ae=>Pl 1<|nt<|sq<|sg<|Pl 6<|nt<|c0<|?_
 refine bp<|sg<|Pl 2<|L0<|Oc (args:=#[.int .i64 0,.int .u8 20])<|e3 vF fun v cP Z G N=>Pl 3<|L0<|bO #[.nilFunc,.nilFunc] fun cQ cR cd bl z=>L0<|be bl #[.func (.func 252) #[] #[],.func (.func 250) #[] #[.pointer (some ⟨v,0,none⟩)]] fun cS ce t=>Pl 1<|nt<|sq<|sq<|?_
 refine go<|Pl 2<|nt<|c0<|bp<|sg<|Pl 1<|?_
 have af:=ud z t cd
 have a0:=aG N af
 have bm:=aG ae a0
 refine L0<|Oc<|e3 (dW (bh.old hsl bm) (by omega)) fun a1 cT U M r=>Pl 1<|ng<|Pl 1<|L0<|Oc<|m3 (ch M) fun cU cf o cV=>L0<|Oi ((aj.mk b false 0).byteV)<|Pl 1<|ng<|?_
 refine Pl 2<|?_
 have aI:=ud r o U
 have bo:=ub aI ce
 refine L0<|aP bo 0<|Pl 1<|L0<|gx #[] #[] (args:=#[.int .i64 ((aj.mk b false 0).byteV)])<|m1 (pi (n:=(aj.mk b false 0).byteV) (by omega)) fun cW d=>?_
 refine L0<|Oc<|m2 (bg ((eF ((aj.mk b false 0).byteV))) 5 (ap.old cf d)) fun cY cg i=>?_
 refine ab cg fun x49 br bt=>?_
 refine ng<|Pl 2<|L0<|Oc<|qX (cL (n:=(aj.mk b false 0).byteV) bt) fun cZ d0 d1 ci d2 d3 ck j=>?_
 have d4:=Nat.le_trans (aj.bytesR_le x49 ((aj.mk b false 0).byteV)) (ap.len bt)
 refine ab ck fun x58 bu aJ=>?_
 refine L0<|Oc<|e3 (dW ci (by omega)) fun O d5 P Q g=>Pl 1<|ng<|Pl 2<|L0<|bO mZ fun B d6 H V p=>L0<|be V (mC 20) fun d7 cl h=>nt<|sq<|sg<|?_
 refine Pl 2<|?_
 have ah:=ud p h H
 have ak:=aG g ah
 have bw:=uz d (u1 i (aG j ak) im)
 refine L0<|aP (b6 bw (nb (au bl) t.size U) bo) 1<|L0<|Oc<|we (ll (gb:=O) (f:=.func 250) (x:=#[]) (y:=#[.pointer (some ⟨v,0,none⟩)])) fun cm cn d8 aN aO da bx bz k=>nt<|bk<|?_
 refine pB (f:=257) #[.pointer (some ⟨cm,0,none⟩),.pointer (some ⟨cn,0,none⟩)] fun a ha=>?_
 intro db cq I dc D E bA am S J
 have bB:=nb (ap.lt Q) lr H
 have an:=nb (ap.lt Q) (le (le p.size h.size) k.size) E
 have bD:=nb (au G) (le (le (le (le (le (le (le z.size t.size) r.size) o.size) d.size) i.size) j.size) g.size) H
 have bE:=nb (au G) (le (le (le (le (le (le (le (le (le (le z.size t.size) r.size) o.size) d.size) i.size) j.size) g.size) p.size) h.size) k.size) E
 have a2:=nb (au V) (le h.size k.size) E
 have X:=aG k J
 have bF:=ap.old Q (aG ah X)
 have ao:=ud aI (aG bw X) U
 have bH:=ub (aG af ao) G
 have aR:=ub X cl
 refine(wQ (c:=20) bF bH aR S (ub J bx) (ub J bz) (Ne.symm (nb (au G) (le (le (le (le (le (le z.size t.size) r.size) o.size) d.size) i.size) j.size) P)) bB an bD bE a2 (Ne.symm (nb (ap.lt Q) ah.size aN)) (Ne.symm (nb (au G) (le (le (le (le (le (le (le (le (le z.size t.size) r.size) o.size) d.size) i.size) j.size) g.size) p.size) h.size) aN)) (Ne.symm (nb (au V) h.size aN)) (nb (au bx) lr E) (Ne.symm (nb (ap.lt Q) ah.size aO)) (Ne.symm (nb (au G) (le (le (le (le (le (le (le (le (le z.size t.size) r.size) o.size) d.size) i.size) j.size) g.size) p.size) h.size) aO)) (Ne.symm (nb (au V) h.size aO)) (nb (au bz) lr E) ?_).mono ?_
 intro W C s L Ar cr x Ax cx hJ hrd hx1 hx2 hx3 hL
 simp only[dB] at hx1 hx2 hx3
 have hm2:W.heap[B]? = some (.cells #[.int .u8 20,.int .u8 0,.int .u16 0,.int .u16 0,.int .u16 0,.int .u16 0,.int .u16 0,.int .u16 0,.int .u16 0,.int .u16 0,.int .u16 0,.int .u16 0,.slice none 0 0,.slice none 0 0,.slice none 0 0,.slice Ar L.length cr,.int .u8 0,.int .u8 0,.int .u8 0,.int .u8 0,.int .u8 0,.slice none 0 0] 30 (0,0)):=hJ.hm
 refine lc hJ.hl ?_
 refine yf ha 53<|xg<|lO<|bO #[.int .u16 0,.int .u16 0,.int .u16 0,.slice none 0 0] fun dd de bJ cs bK=>lO<|be cs #[.int .u16 x.file,.int .u16 x.record,.int .u16 x.count,.slice Ax x.words.length cx] fun df ct bL=>sf<|?_
 have bM:=ud bK bL bJ
 refine yn (ub bM hJ.hl) (by trivial) fun dg cu aT=>yh<|xg<|xk<|?_
 have aV:=uz bM aT
 have bN:=b6 aV a2 hm2
 refine lO<|aP bN 15<|?_
 refine lO<|bS (b6 aT (Ne.symm (nb (au S) hJ.u.size bJ)) ct)<|lO<|cK (m:=1) (e:=109) #[.int .u16 x.file,.int .u16 x.record,.int .u16 x.count,.slice Ax x.words.length cx] fun dh di dj cz aW=>?_
 have Y:=aG aV aW
 have cA:=kg (R:=bv true) (x:=(dr.mk x.file x.record x.count x.words)) cz rfl ⟨_,rfl,(dP.updl hrd Y hJ.hl rfl),aD (by omega),aD (by omega),aD (by omega)⟩
 have aZ:=aq hJ.ho Y (fun x hx=>(aa (fun e=>(aB (au S) lr hJ.ho) (e▸hx)) aA)) (bv.updl Y hJ.hl rfl)
 refine lO<|gX (xs:=L) (ys:=([(dr.mk x.file x.record x.count x.words)])) (.agg #[.int .u16 0,.int .u16 0,.int .u16 0,.slice none 0 0]) 4 32 aZ cA (by simp) bv.ones (fun w' hv=>bv.upd16 hv (d9 (dC _ aZ (by decide)) aK)) (by(try simp only[List.length_append,List.length_cons,List.length_nil,ay]);omega) (le (le (le (le hJ.u.size bK.size) bL.size) aT.size) aW.size) fun bP bQ dk b0 ar=>xk<|?_
 have bR:=ut (aF.mono (S':=(ob Ar++[])) aW av) ar (al il av)
 have b1:=aF.blk bR (bf (aB (au aR) lr hJ.ho) aA) bN
 refine lO<|cj b1 15 (mG 20 0 0 0 0 0 0 0 0 0 0 0 nS nS nS (.slice bP ((L++[(dr.mk x.file x.record x.count x.words)]).length) bQ) 0 0 0 0 0 nS) fun dl cB a3=>sf<|bn<|?_
 have bT:=u1 (aF.mono (S':=(ob Ar++(B :: []))) bR (al il av)) a3 im
 have b2:=aF.blk bT (bf (aB (au S) lr hJ.ho) (aa (Ne.symm a2) aA)) cu
 refine yH b2 fun dm cC a4=>?_
 have b3:=ut (aF.mono (S':=(I :: (ob Ar++(B :: [])))) Y (ac im av)) (ut (aF.mono (S':=(ob Ar++(B :: (I :: [])))) ar (al il av)) (us a3 a4) (ac im (ac im av))) (al il (ac im (ac im av)))
 have dn:=ut hJ.u (ut (aF.mono (S':=(I :: (ob Ar++(B :: [])))) aV (ac im av)) bT (al il (ac im av))) (ac im (al (aM hJ.ho lr) (ac im av)))
 have dp:=ut hJ.u (ut (aF.mono (S':=(I :: (ob Ar++[]))) Y (ac im av)) ar (al il av)) (ac im (al (aM hJ.ho lr) av))
 exact⟨by trivial,b3.size,bP,bQ,⟨(ut hJ.u b3 (ac im (al (aM hJ.ho lr) (ac im av)))),(ap.updl (ap.upd (ap.upd (ap.updl hJ.hC Y (aa an aA) hJ.hl rfl) ar (bf (aB (ap.lt bF) lr hJ.ho) aA) (d9 (dC _ aZ (by decide)) aK)) a3 (aa bB aA) (ax (aY b1 (by decide)) aK)) a4 (aa an aA) b2 rfl),(aF.blk b3 (aa bE (bf (aB (au bH) lr hJ.ho) (aa bD aA))) hJ.hS),(b6 a4 a2 cB),(aq (aq b0 a3 (fun x hx=>(aa (fun e=>(aB (au aR) lr b0) (e▸hx)) aA)) (bv.upd16 a3 (ax (aY b1 (by decide)) aK))) a4 (fun x hx=>(aa (fun e=>(aB (au S) lr b0) (e▸hx)) aA)) (bv.updl a4 b2 rfl)),cC⟩⟩
 rintro _ cD ⟨rfl,dq,bU,bV,q⟩
 refine⟨_,_,rfl,q.hl,by simp[ef],by trivial,fun ds bW=>?_⟩
 refine ab q.hC fun b4 bX cE=>?_
 have cF:cD.heap[B]? = some (.cells #[.int .u8 20,.int .u8 0,.int .u16 0,.int .u16 0,.int .u16 0,.int .u16 0,.int .u16 0,.int .u16 0,.int .u16 0,.int .u16 0,.int .u16 0,.int .u16 0,.slice none 0 0,.slice none 0 0,.slice none 0 0,.slice bU ((aU cX (aj.mk (x49.bytesR ((aj.mk b false 0).byteV)) false 0).l.length 0 (aj.mk (x49.bytesR ((aj.mk b false 0).byteV)) false 0) []).2.length) bV,.int .u8 0,.int .u8 0,.int .u8 0,.int .u8 0,.int .u8 0,.slice none 0 0] 30 (0,0)):=q.hm
 refine bn<|tn<|sg<|Pl 2<|?_
 have aw:=ap.updl cE bW (aa an aA) q.hl rfl
 refine L0<|Oc<|mq (bG aw)<|?_
 have dt:=ap.len aw
 refine Pl 2<|L0<|Oc<|mq (bG aw)<|?_
 have du:=ap.len aw
 refine L0<|Oc<|m1 (iN (e:=b4.e)) fun dv cH=>?_
 have F:=aG bW cH
 have bY:=u1 q.u F im
 have b5:=nb (au G) af.size U
 have aC:=ud aI (uz d (u1 i j im)) U
 have b7:=ub (aG af aC) G
 have b9:=ap.upd aJ (ut (aF.mono (S':=[v]) ak av) (ut (aF.mono (S':=[O,v,B]) X av) bY (ac im (ac im (ac im (ac (ni k.size E) av))))) (ac (nr P) (ac im (ac (ni g.size H) av)))) (aa (Ne.symm b5) aA) (ax (aY b7 (by decide)) aK)
 refine L0<|Oc<|m2 (bg ((b4.e==0)) (bq b4.e) b9) fun dw cI T=>?_
 refine ab cI fun bZ c1 ba=>?_
 refine ng<|Pl 1<|L0<|Oc<|m2 (cG ba) fun dx c2 a5=>nt<|sq<|sg<|Pl 1<|L0<|Oc<|mq (bG c2)<|?_
 have dz:=ap.len c2
 refine Pl 1<|ng<|Pl 2<|nt<|?_
 have a6:=u1 T a5 im
 have bb:=u1 (aF.mono (S':=[O,v,B,I,a1]) bY (ac im (ac im (ac im (ac im av))))) a6 im
 have bc:=ut (aF.mono (S':=[v]) ao av) bb (ac (ni aC.size P) (ac im (ac (ni (le (le (le (le (le r.size o.size) d.size) i.size) j.size) g.size) H) (ac (ni (le (le (le (le (le (le (le (le r.size o.size) d.size) i.size) j.size) g.size) p.size) h.size) k.size) E) (ac (nr U) av)))))
 have c3:=ud bm bc (le ae.size Z)
 refine cb ((bZ.endC.e != 0)) (fun a7=>?_) (fun a7=>?_)
 have bd:=az a7
 refine sg<|Pl 2<|?_
 have c4:=ub (ud a0 bc Z) K
 refine L0<|be c4 mZ fun dA cJ a8=>Pl 1<|nt<|rt<|tr<|?_
 have c5:=nb (au K) (le (le (le (le (le (le (le (le (le (le (le N.size z.size) t.size) r.size) o.size) d.size) i.size) j.size) g.size) p.size) h.size) k.size) D
 have c6:=aF.blk (u1 (aF.mono (S':=[O,v,B,I,a1,ad]) bb (ac im (ac im (ac im (ac im (ac im av)))))) a8 im) (aa (Ne.symm (nb (ap.lt Q) (le (le p.size h.size) k.size) D)) (aa (Ne.symm (nb (au G) (le (le (le (le (le (le (le (le (le (le z.size t.size) r.size) o.size) d.size) i.size) j.size) g.size) p.size) h.size) k.size) D)) (aa (Ne.symm (nb (au V) (le h.size k.size) D)) (aa bA (aa (Ne.symm (nb (ap.lt M) (le (le (le (le (le (le (le o.size d.size) i.size) j.size) g.size) p.size) h.size) k.size) D)) (aa (Ne.symm c5) aA)))))) am
 refine xj c6 fun dD aE=>?_
 refine rx (b6 aE c5 cJ) (.int .i64 bZ.endC.e)<|?_
 subst c1 bX bu br
 have c7:=us a8 aE
 have dE:=us F (us a6 c7)
 have dF:=us F (us a6 a8)
 have dG:=ub (ud a0 (ut (aF.mono (S':=[v]) ao av) q.u (ac (ni aC.size P) (ac im (ac (ni (le (le (le (le (le r.size o.size) d.size) i.size) j.size) g.size) H) (ac (ni (le (le (le (le (le (le (le (le r.size o.size) d.size) i.size) j.size) g.size) p.size) h.size) k.size) E) av))))) Z) K
 have dH:=ap.upd aJ (ut (aF.mono (S':=[v]) ak av) (ut (aF.mono (S':=[O,v,B]) X av) q.u (ac im (ac im (ac im (ac (ni k.size E) av))))) (ac (nr P) (ac im (ac (ni g.size H) av)))) (aa (Ne.symm b5) aA) (ax (aY b7 (by decide)) aK)
 have dI:=us F a6
 have dJ:=us F T
 have dK:=aq (aq (aq (aq (aq q.ho F (fun x hx=>(aa (fun e=>(aB (au S) lr q.ho) (e▸hx)) aA)) (bv.updl F q.hl rfl)) T (fun x hx=>(aa (fun e=>(aB (ap.lt M) (le (le (le (le (le (le (le (le o.size d.size) i.size) j.size) g.size) p.size) h.size) k.size) J.size) q.ho) (e▸hx)) aA)) (bv.upd16 T (ax (ap.safe b9 _ (by decide)) aK))) a5 (fun x hx=>(aa (fun e=>(aB (ap.lt M) (le (le (le (le (le (le (le (le o.size d.size) i.size) j.size) g.size) p.size) h.size) k.size) J.size) q.ho) (e▸hx)) aA)) (bv.upd16 a5 (ax (ap.safe ba _ (by decide)) aK))) a8 (fun x hx=>(aa (fun e=>(aB (au K) (le (le (le (le (le (le (le (le (le (le (le (le N.size z.size) t.size) r.size) o.size) d.size) i.size) j.size) g.size) p.size) h.size) k.size) J.size) q.ho) (e▸hx)) aA)) (bv.upd16 a8 (ax (aY c4 (by decide)) aK))) aE (fun x hx=>(aa (fun e=>(aB (au am) lr q.ho) (e▸hx)) aA)) (bv.updl aE c6 rfl)
 have hs:ag aX 0 20 b=aL (aQ.mk 20 0 0 0 0 0 0 0 0 0 0 0 [] [] [] (aU cX (aj.mk ((((aj.mk b false 0).bytesC 1).need (eF ((aj.mk b false 0).byteV)) 5).bytesR ((aj.mk b false 0).byteV)) false 0).l.length 0 (aj.mk ((((aj.mk b false 0).bytesC 1).need (eF ((aj.mk b false 0).byteV)) 5).bytesR ((aj.mk b false 0).byteV)) false 0) []).2 0 0 0 0 0 []) (((((aj.mk b false 0).bytesC 1).need (eF ((aj.mk b false 0).byteV)) 5).bytesC ((aj.mk b false 0).byteV)).need (((aU cX (aj.mk ((((aj.mk b false 0).bytesC 1).need (eF ((aj.mk b false 0).byteV)) 5).bytesR ((aj.mk b false 0).byteV)) false 0).l.length 0 (aj.mk ((((aj.mk b false 0).bytesC 1).need (eF ((aj.mk b false 0).byteV)) 5).bytesR ((aj.mk b false 0).byteV)) false 0) []).1).e==0) (bq ((aU cX (aj.mk ((((aj.mk b false 0).bytesC 1).need (eF ((aj.mk b false 0).byteV)) 5).bytesR ((aj.mk b false 0).byteV)) false 0).l.length 0 (aj.mk ((((aj.mk b false 0).bytesC 1).need (eF ((aj.mk b false 0).byteV)) 5).bytesR ((aj.mk b false 0).byteV)) false 0) []).1).e)):=by
   unfold ag aX dy nD rU jg
   (try simp only[a7,bs,if_true,if_false,decide_true,decide_false,eq_self,true_or,or_true,or_false,false_or,if_true,if_false,cy,co,cw,cv,reduceIte,mp,mJ,mw])
   all_goals rfl
 rw[hs]
 exact bC bd (ut c3 c7 (ac (nr bj) (ac (ni (le (le (le (le (le (le (le (le (le (le (le (le ae.size N.size) z.size) t.size) r.size) o.size) d.size) i.size) j.size) g.size) p.size) h.size) k.size) D) av)))
 have bd:=ai a7
 refine bp<|sg<|?_
 have bi:=us F a6
 refine L0<|bS (aF.blk bi (aa a2 (aa (Ne.symm (nb (ap.lt M) (le (le (le (le o.size d.size) i.size) j.size) g.size) H)) aA)) cF)<|?_
 have c8:=ub (ud a0 bc Z) K
 refine L0<|be c8 (mG 20 0 0 0 0 0 0 0 0 0 0 0 nS nS nS (.slice bU ((aU cX (aj.mk (x49.bytesR ((aj.mk b false 0).byteV)) false 0).l.length 0 (aj.mk (x49.bytesR ((aj.mk b false 0).byteV)) false 0) []).2.length) bV) 0 0 0 0 0 nS) fun dL cM a9=>Pl 1<|nt<|rt<|?_
 have c9:=nb (au K) (le (le (le (le (le (le (le (le (le (le (le N.size z.size) t.size) r.size) o.size) d.size) i.size) j.size) g.size) p.size) h.size) k.size) D
 have ca:=aF.blk (u1 (aF.mono (S':=[O,v,B,I,a1,ad]) bb (ac im (ac im (ac im (ac im (ac im av)))))) a9 im) (aa (Ne.symm (nb (ap.lt Q) (le (le p.size h.size) k.size) D)) (aa (Ne.symm (nb (au G) (le (le (le (le (le (le (le (le (le (le z.size t.size) r.size) o.size) d.size) i.size) j.size) g.size) p.size) h.size) k.size) D)) (aa (Ne.symm (nb (au V) (le h.size k.size) D)) (aa bA (aa (Ne.symm (nb (ap.lt M) (le (le (le (le (le (le (le o.size d.size) i.size) j.size) g.size) p.size) h.size) k.size) D)) (aa (Ne.symm c9) aA)))))) am
 refine xj ca fun dM aH=>?_
 refine rx (b6 aH c9 cM) (.int .i64 0)<|?_
 subst c1 bX bu br
 have cc:=us a9 aH
 have dN:=ut (aF.mono (S':=[I,a1,ad,cq]) bi (ac im (ac im av))) cc (ac im (ac im av))
 have dO:=u1 (aF.mono (S':=[I,a1,ad]) bi (ac im (ac im av))) a9 im
 have dQ:=ub (ud a0 (ut (aF.mono (S':=[v]) ao av) q.u (ac (ni aC.size P) (ac im (ac (ni (le (le (le (le (le r.size o.size) d.size) i.size) j.size) g.size) H) (ac (ni (le (le (le (le (le (le (le (le r.size o.size) d.size) i.size) j.size) g.size) p.size) h.size) k.size) E) av))))) Z) K
 have dR:=ap.upd aJ (ut (aF.mono (S':=[v]) ak av) (ut (aF.mono (S':=[O,v,B]) X av) q.u (ac im (ac im (ac im (ac (ni k.size E) av))))) (ac (nr P) (ac im (ac (ni g.size H) av)))) (aa (Ne.symm b5) aA) (ax (aY b7 (by decide)) aK)
 have dS:=us F T
 have hs:ag aX 0 20 b=aL (aQ.mk 20 0 0 0 0 0 0 0 0 0 0 0 [] [] [] (aU cX (aj.mk ((((aj.mk b false 0).bytesC 1).need (eF ((aj.mk b false 0).byteV)) 5).bytesR ((aj.mk b false 0).byteV)) false 0).l.length 0 (aj.mk ((((aj.mk b false 0).bytesC 1).need (eF ((aj.mk b false 0).byteV)) 5).bytesR ((aj.mk b false 0).byteV)) false 0) []).2 0 0 0 0 0 []) (((((aj.mk b false 0).bytesC 1).need (eF ((aj.mk b false 0).byteV)) 5).bytesC ((aj.mk b false 0).byteV)).need (((aU cX (aj.mk ((((aj.mk b false 0).bytesC 1).need (eF ((aj.mk b false 0).byteV)) 5).bytesR ((aj.mk b false 0).byteV)) false 0).l.length 0 (aj.mk ((((aj.mk b false 0).bytesC 1).need (eF ((aj.mk b false 0).byteV)) 5).bytesR ((aj.mk b false 0).byteV)) false 0) []).1).e==0) (bq ((aU cX (aj.mk ((((aj.mk b false 0).bytesC 1).need (eF ((aj.mk b false 0).byteV)) 5).bytesR ((aj.mk b false 0).byteV)) false 0).l.length 0 (aj.mk ((((aj.mk b false 0).bytesC 1).need (eF ((aj.mk b false 0).byteV)) 5).bytesR ((aj.mk b false 0).byteV)) false 0) []).1).e)):=by
   unfold ag aX dy nD rU jg
   (try simp only[a7,bs,if_true,if_false,decide_true,decide_false,eq_self,true_or,or_true,or_false,false_or,if_true,if_false,cy,co,cw,cv,reduceIte,mp,mJ,mw])
   all_goals rfl
 rw[hs]
 exact bI bd ⟨_,_,_,_,_,rfl,aS.nil ..,aS.nil ..,aS.nil ..,((aq (aq (aq (aq (aq q.ho F (fun x hx=>(aa (fun e=>(aB (au S) lr q.ho) (e▸hx)) aA)) (bv.updl F q.hl rfl)) T (fun x hx=>(aa (fun e=>(aB (ap.lt M) (le (le (le (le (le (le (le (le o.size d.size) i.size) j.size) g.size) p.size) h.size) k.size) J.size) q.ho) (e▸hx)) aA)) (bv.upd16 T (ax (ap.safe b9 _ (by decide)) aK))) a5 (fun x hx=>(aa (fun e=>(aB (ap.lt M) (le (le (le (le (le (le (le (le o.size d.size) i.size) j.size) g.size) p.size) h.size) k.size) J.size) q.ho) (e▸hx)) aA)) (bv.upd16 a5 (ax (ap.safe ba _ (by decide)) aK))) a9 (fun x hx=>(aa (fun e=>(aB (au K) (le (le (le (le (le (le (le (le (le (le (le (le N.size z.size) t.size) r.size) o.size) d.size) i.size) j.size) g.size) p.size) h.size) k.size) J.size) q.ho) (e▸hx)) aA)) (bv.upd16 a9 (ax (aY c8 (by decide)) aK))) aH (fun x hx=>(aa (fun e=>(aB (au am) lr q.ho) (e▸hx)) aA)) (bv.updl aH ca rfl))).rd,aS.nil ..,⟨(b8 (x:=20) (by omega)),(b8 (x:=0) (by omega)),(aD (x:=0) (by omega)),(aD (x:=0) (by omega)),(aD (x:=0) (by omega)),(aD (x:=0) (by omega)),(aD (x:=0) (by omega)),(aD (x:=0) (by omega)),(aD (x:=0) (by omega)),(aD (x:=0) (by omega)),(aD (x:=0) (by omega)),(aD (x:=0) (by omega)),(b8 (x:=0) (by omega)),(b8 (x:=0) (by omega)),(b8 (x:=0) (by omega)),(b8 (x:=0) (by omega)),(b8 (x:=0) (by omega))⟩⟩ (ut c3 cc (ac (nr bj) (ac (ni (le (le (le (le (le (le (le (le (le (le (le (le ae.size N.size) z.size) t.size) r.size) o.size) d.size) i.size) j.size) g.size) p.size) h.size) k.size) D) av)))
theorem nR{m:Md}{A:Option Addr}{cp:Nat}{b:List Int}{w:World}{dir:Int}(hd:dir=0∨dir=1)(hsl:bh m w (.slice A b.length cp) b)(hb:b.length≤1048576) :
    Calls Tryz.prog 144 #[.int .i64 1,.int .u8 20,.slice A b.length cp] w (eb (ag aX 1 20 b) w):=by
 have hln:(b.length:Int)≤1048576:=by omega
 have cO:((dir != 0)&&(dir != 1))=false:=by rcases hd with rfl | rfl<;>rfl
 refine xh 77 Tryz.func144 rfl<|sg<|L0<|bO mZ fun ad cP bj K ae=>Pl 1<|nt<|sq<|sg<|Pl 6<|nt<|c0<|?_
 refine bp<|sg<|Pl 2<|L0<|Oc (args:=#[.int .i64 1,.int .u8 20])<|e3 vy fun z cQ Z G N=>Pl 3<|L0<|bO #[.nilFunc,.nilFunc] fun cR cS ce bl v=>L0<|be bl #[.func (.func 253) #[] #[],.func (.func 254) #[] #[]] fun cT cf t=>Pl 1<|nt<|sq<|sq<|?_
 refine go<|Pl 2<|nt<|c0<|bp<|sg<|Pl 1<|?_
 have af:=ud v t ce
 have a0:=aG N af
 have bm:=aG ae a0
 refine L0<|Oc<|e3 (dW (bh.old hsl bm) (by omega)) fun a1 cU U M r=>Pl 1<|ng<|Pl 1<|L0<|Oc<|m3 (ch M) fun cV cg o cW=>L0<|Oi ((aj.mk b false 0).byteV)<|Pl 1<|ng<|?_
 refine Pl 2<|?_
 have aI:=ud r o U
 have bo:=ub aI cf
 refine L0<|aP bo 0<|Pl 1<|L0<|gx #[] #[] (args:=#[.int .i64 ((aj.mk b false 0).byteV)])<|m1 (pp (n:=(aj.mk b false 0).byteV) (by omega)) fun cX d=>?_
 refine L0<|Oc<|m2 (bg ((eB ((aj.mk b false 0).byteV))) 5 (ap.old cg d)) fun cY ci i=>?_
 refine ab ci fun x49 br bt=>?_
 refine ng<|Pl 2<|L0<|Oc<|qX (cL (n:=(aj.mk b false 0).byteV) bt) fun cZ d0 d1 ck d2 d3 cl j=>?_
 have d4:=Nat.le_trans (aj.bytesR_le x49 ((aj.mk b false 0).byteV)) (ap.len bt)
 refine ab cl fun x58 bu aJ=>?_
 refine L0<|Oc<|e3 (dW ck (by omega)) fun O d5 P Q g=>Pl 1<|ng<|Pl 2<|L0<|bO mZ fun B d6 H V p=>L0<|be V (mC 20) fun d7 cm h=>nt<|sq<|sg<|?_
 refine Pl 2<|?_
 have ah:=ud p h H
 have ak:=aG g ah
 have bw:=uz d (u1 i (aG j ak) im)
 refine L0<|aP (b6 bw (nb (au bl) t.size U) bo) 1<|L0<|Oc<|we (ll (gb:=O) (f:=.func 254) (x:=#[]) (y:=#[])) fun cn cq d8 aN aO da bx bz k=>nt<|bk<|?_
 refine pB (f:=257) #[.pointer (some ⟨cn,0,none⟩),.pointer (some ⟨cq,0,none⟩)] fun a ha=>?_
 intro db cs I dc D E bA am S J
 have bB:=nb (ap.lt Q) lr H
 have an:=nb (ap.lt Q) (le (le p.size h.size) k.size) E
 have bD:=nb (au G) (le (le (le (le (le (le (le v.size t.size) r.size) o.size) d.size) i.size) j.size) g.size) H
 have bE:=nb (au G) (le (le (le (le (le (le (le (le (le (le v.size t.size) r.size) o.size) d.size) i.size) j.size) g.size) p.size) h.size) k.size) E
 have a2:=nb (au V) (le h.size k.size) E
 have X:=aG k J
 have bF:=ap.old Q (aG ah X)
 have ao:=ud aI (aG bw X) U
 have bJ:=ub (aG af ao) G
 have aR:=ub X cm
 refine(w8 (c:=20) bF bJ aR S (ub J bx) (ub J bz) (Ne.symm (nb (au G) (le (le (le (le (le (le v.size t.size) r.size) o.size) d.size) i.size) j.size) P)) bB an bD bE a2 (Ne.symm (nb (ap.lt Q) ah.size aN)) (Ne.symm (nb (au G) (le (le (le (le (le (le (le (le (le v.size t.size) r.size) o.size) d.size) i.size) j.size) g.size) p.size) h.size) aN)) (Ne.symm (nb (au V) h.size aN)) (nb (au bx) lr E) (Ne.symm (nb (ap.lt Q) ah.size aO)) (Ne.symm (nb (au G) (le (le (le (le (le (le (le (le (le v.size t.size) r.size) o.size) d.size) i.size) j.size) g.size) p.size) h.size) aO)) (Ne.symm (nb (au V) h.size aO)) (nb (au bz) lr E) ?_).mono ?_
 intro W C s L Ar cr x Ax cx hJ hrd hx1 hx2 hx3 hL
 simp only[dB] at hx1 hx2 hx3
 have hm2:W.heap[B]? = some (.cells #[.int .u8 20,.int .u8 0,.int .u16 0,.int .u16 0,.int .u16 0,.int .u16 0,.int .u16 0,.int .u16 0,.int .u16 0,.int .u16 0,.int .u16 0,.int .u16 0,.slice none 0 0,.slice none 0 0,.slice none 0 0,.slice Ar L.length cr,.int .u8 0,.int .u8 0,.int .u8 0,.int .u8 0,.int .u8 0,.slice none 0 0] 30 (0,0)):=hJ.hm
 refine lc hJ.hl ?_
 refine yf ha 53<|xg<|lO<|bO #[.int .u16 0,.int .u16 0,.int .u16 0,.slice none 0 0] fun dd de bK ct bL=>lO<|be ct #[.int .u16 x.file,.int .u16 x.record,.int .u16 x.count,.slice Ax x.words.length cx] fun df cu bM=>sf<|?_
 have bN:=ud bL bM bK
 refine yn (ub bN hJ.hl) (by trivial) fun dg cz aT=>yh<|xg<|xk<|?_
 have aV:=uz bN aT
 have bP:=b6 aV a2 hm2
 refine lO<|aP bP 15<|?_
 refine lO<|bS (b6 aT (Ne.symm (nb (au S) hJ.u.size bK)) cu)<|lO<|cK (m:=1) (e:=109) #[.int .u16 x.file,.int .u16 x.record,.int .u16 x.count,.slice Ax x.words.length cx] fun dh di dj cA aW=>?_
 have Y:=aG aV aW
 have cB:=kg (R:=bv true) (x:=(dr.mk x.file x.record x.count x.words)) cA rfl ⟨_,rfl,(dP.updl hrd Y hJ.hl rfl),aD (by omega),aD (by omega),aD (by omega)⟩
 have aZ:=aq hJ.ho Y (fun x hx=>(aa (fun e=>(aB (au S) lr hJ.ho) (e▸hx)) aA)) (bv.updl Y hJ.hl rfl)
 refine lO<|gX (xs:=L) (ys:=([(dr.mk x.file x.record x.count x.words)])) (.agg #[.int .u16 0,.int .u16 0,.int .u16 0,.slice none 0 0]) 4 32 aZ cB (by simp) bv.ones (fun w' hv=>bv.upd16 hv (d9 (dC _ aZ (by decide)) aK)) (by(try simp only[List.length_append,List.length_cons,List.length_nil,ay]);omega) (le (le (le (le hJ.u.size bL.size) bM.size) aT.size) aW.size) fun bQ bR dk b0 ar=>xk<|?_
 have bT:=ut (aF.mono (S':=(ob Ar++[])) aW av) ar (al il av)
 have b1:=aF.blk bT (bf (aB (au aR) lr hJ.ho) aA) bP
 refine lO<|cj b1 15 (mG 20 0 0 0 0 0 0 0 0 0 0 0 nS nS nS (.slice bQ ((L++[(dr.mk x.file x.record x.count x.words)]).length) bR) 0 0 0 0 0 nS) fun dl cC a3=>sf<|bn<|?_
 have bU:=u1 (aF.mono (S':=(ob Ar++(B :: []))) bT (al il av)) a3 im
 have b2:=aF.blk bU (bf (aB (au S) lr hJ.ho) (aa (Ne.symm a2) aA)) cz
 refine yH b2 fun dm cD a4=>?_
 have b3:=ut (aF.mono (S':=(I :: (ob Ar++(B :: [])))) Y (ac im av)) (ut (aF.mono (S':=(ob Ar++(B :: (I :: [])))) ar (al il av)) (us a3 a4) (ac im (ac im av))) (al il (ac im (ac im av)))
 have dn:=ut hJ.u (ut (aF.mono (S':=(I :: (ob Ar++(B :: [])))) aV (ac im av)) bU (al il (ac im av))) (ac im (al (aM hJ.ho lr) (ac im av)))
 have dp:=ut hJ.u (ut (aF.mono (S':=(I :: (ob Ar++[]))) Y (ac im av)) ar (al il av)) (ac im (al (aM hJ.ho lr) av))
 exact⟨by trivial,b3.size,bQ,bR,⟨(ut hJ.u b3 (ac im (al (aM hJ.ho lr) (ac im av)))),(ap.updl (ap.upd (ap.upd (ap.updl hJ.hC Y (aa an aA) hJ.hl rfl) ar (bf (aB (ap.lt bF) lr hJ.ho) aA) (d9 (dC _ aZ (by decide)) aK)) a3 (aa bB aA) (ax (aY b1 (by decide)) aK)) a4 (aa an aA) b2 rfl),(aF.blk b3 (aa bE (bf (aB (au bJ) lr hJ.ho) (aa bD aA))) hJ.hS),(b6 a4 a2 cC),(aq (aq b0 a3 (fun x hx=>(aa (fun e=>(aB (au aR) lr b0) (e▸hx)) aA)) (bv.upd16 a3 (ax (aY b1 (by decide)) aK))) a4 (fun x hx=>(aa (fun e=>(aB (au S) lr b0) (e▸hx)) aA)) (bv.updl a4 b2 rfl)),cD⟩⟩
 rintro _ cE ⟨rfl,dq,bV,bW,q⟩
 refine⟨_,_,rfl,q.hl,by simp[ef],by trivial,fun ds bX=>?_⟩
 refine ab q.hC fun b4 bY cF=>?_
 have cH:cE.heap[B]? = some (.cells #[.int .u8 20,.int .u8 0,.int .u16 0,.int .u16 0,.int .u16 0,.int .u16 0,.int .u16 0,.int .u16 0,.int .u16 0,.int .u16 0,.int .u16 0,.int .u16 0,.slice none 0 0,.slice none 0 0,.slice none 0 0,.slice bV ((aU bH (aj.mk (x49.bytesR ((aj.mk b false 0).byteV)) false 0).l.length 0 (aj.mk (x49.bytesR ((aj.mk b false 0).byteV)) false 0) []).2.length) bW,.int .u8 0,.int .u8 0,.int .u8 0,.int .u8 0,.int .u8 0,.slice none 0 0] 30 (0,0)):=q.hm
 refine bn<|tn<|sg<|Pl 2<|?_
 have aw:=ap.updl cF bX (aa an aA) q.hl rfl
 refine L0<|Oc<|mq (bG aw)<|?_
 have dt:=ap.len aw
 refine Pl 2<|L0<|Oc<|mq (bG aw)<|?_
 have du:=ap.len aw
 refine L0<|Oc<|m1 (iN (e:=b4.e)) fun dv cI=>?_
 have F:=aG bX cI
 have bZ:=u1 q.u F im
 have b5:=nb (au G) af.size U
 have aC:=ud aI (uz d (u1 i j im)) U
 have b7:=ub (aG af aC) G
 have b9:=ap.upd aJ (ut (aF.mono (S':=[z]) ak av) (ut (aF.mono (S':=[O,z,B]) X av) bZ (ac im (ac im (ac im (ac (ni k.size E) av))))) (ac (nr P) (ac im (ac (ni g.size H) av)))) (aa (Ne.symm b5) aA) (ax (aY b7 (by decide)) aK)
 refine L0<|Oc<|m2 (bg ((b4.e==0)) (bq b4.e) b9) fun dw cJ T=>?_
 refine ab cJ fun c1 c2 ba=>?_
 refine ng<|Pl 1<|L0<|Oc<|m2 (cG ba) fun dx c3 a5=>nt<|sq<|sg<|Pl 1<|L0<|Oc<|mq (bG c3)<|?_
 have dz:=ap.len c3
 refine Pl 1<|ng<|Pl 2<|nt<|?_
 have a6:=u1 T a5 im
 have bb:=u1 (aF.mono (S':=[O,z,B,I,a1]) bZ (ac im (ac im (ac im (ac im av))))) a6 im
 have bc:=ut (aF.mono (S':=[z]) ao av) bb (ac (ni aC.size P) (ac im (ac (ni (le (le (le (le (le r.size o.size) d.size) i.size) j.size) g.size) H) (ac (ni (le (le (le (le (le (le (le (le r.size o.size) d.size) i.size) j.size) g.size) p.size) h.size) k.size) E) (ac (nr U) av)))))
 have c4:=ud bm bc (le ae.size Z)
 refine cb ((c1.endC.e != 0)) (fun a7=>?_) (fun a7=>?_)
 have bd:=az a7
 refine sg<|Pl 2<|?_
 have c5:=ub (ud a0 bc Z) K
 refine L0<|be c5 mZ fun dA cM a8=>Pl 1<|nt<|rt<|tr<|?_
 have c6:=nb (au K) (le (le (le (le (le (le (le (le (le (le (le N.size v.size) t.size) r.size) o.size) d.size) i.size) j.size) g.size) p.size) h.size) k.size) D
 have c7:=aF.blk (u1 (aF.mono (S':=[O,z,B,I,a1,ad]) bb (ac im (ac im (ac im (ac im (ac im av)))))) a8 im) (aa (Ne.symm (nb (ap.lt Q) (le (le p.size h.size) k.size) D)) (aa (Ne.symm (nb (au G) (le (le (le (le (le (le (le (le (le (le v.size t.size) r.size) o.size) d.size) i.size) j.size) g.size) p.size) h.size) k.size) D)) (aa (Ne.symm (nb (au V) (le h.size k.size) D)) (aa bA (aa (Ne.symm (nb (ap.lt M) (le (le (le (le (le (le (le o.size d.size) i.size) j.size) g.size) p.size) h.size) k.size) D)) (aa (Ne.symm c6) aA)))))) am
 refine xj c7 fun dD aE=>?_
 refine rx (b6 aE c6 cM) (.int .i64 c1.endC.e)<|?_
 subst c2 bY bu br
 have c8:=us a8 aE
 have dE:=us F (us a6 c8)
 have dF:=us F (us a6 a8)
 have dG:=ub (ud a0 (ut (aF.mono (S':=[z]) ao av) q.u (ac (ni aC.size P) (ac im (ac (ni (le (le (le (le (le r.size o.size) d.size) i.size) j.size) g.size) H) (ac (ni (le (le (le (le (le (le (le (le r.size o.size) d.size) i.size) j.size) g.size) p.size) h.size) k.size) E) av))))) Z) K
 have dH:=ap.upd aJ (ut (aF.mono (S':=[z]) ak av) (ut (aF.mono (S':=[O,z,B]) X av) q.u (ac im (ac im (ac im (ac (ni k.size E) av))))) (ac (nr P) (ac im (ac (ni g.size H) av)))) (aa (Ne.symm b5) aA) (ax (aY b7 (by decide)) aK)
 have dI:=us F a6
 have dJ:=us F T
 have dK:=aq (aq (aq (aq (aq q.ho F (fun x hx=>(aa (fun e=>(aB (au S) lr q.ho) (e▸hx)) aA)) (bv.updl F q.hl rfl)) T (fun x hx=>(aa (fun e=>(aB (ap.lt M) (le (le (le (le (le (le (le (le o.size d.size) i.size) j.size) g.size) p.size) h.size) k.size) J.size) q.ho) (e▸hx)) aA)) (bv.upd16 T (ax (ap.safe b9 _ (by decide)) aK))) a5 (fun x hx=>(aa (fun e=>(aB (ap.lt M) (le (le (le (le (le (le (le (le o.size d.size) i.size) j.size) g.size) p.size) h.size) k.size) J.size) q.ho) (e▸hx)) aA)) (bv.upd16 a5 (ax (ap.safe ba _ (by decide)) aK))) a8 (fun x hx=>(aa (fun e=>(aB (au K) (le (le (le (le (le (le (le (le (le (le (le (le N.size v.size) t.size) r.size) o.size) d.size) i.size) j.size) g.size) p.size) h.size) k.size) J.size) q.ho) (e▸hx)) aA)) (bv.upd16 a8 (ax (aY c5 (by decide)) aK))) aE (fun x hx=>(aa (fun e=>(aB (au am) lr q.ho) (e▸hx)) aA)) (bv.updl aE c7 rfl)
 have hs:ag aX 1 20 b=aL (aQ.mk 20 0 0 0 0 0 0 0 0 0 0 0 [] [] [] (aU bH (aj.mk ((((aj.mk b false 0).bytesC 1).need (eB ((aj.mk b false 0).byteV)) 5).bytesR ((aj.mk b false 0).byteV)) false 0).l.length 0 (aj.mk ((((aj.mk b false 0).bytesC 1).need (eB ((aj.mk b false 0).byteV)) 5).bytesR ((aj.mk b false 0).byteV)) false 0) []).2 0 0 0 0 0 []) (((((aj.mk b false 0).bytesC 1).need (eB ((aj.mk b false 0).byteV)) 5).bytesC ((aj.mk b false 0).byteV)).need (((aU bH (aj.mk ((((aj.mk b false 0).bytesC 1).need (eB ((aj.mk b false 0).byteV)) 5).bytesR ((aj.mk b false 0).byteV)) false 0).l.length 0 (aj.mk ((((aj.mk b false 0).bytesC 1).need (eB ((aj.mk b false 0).byteV)) 5).bytesR ((aj.mk b false 0).byteV)) false 0) []).1).e==0) (bq ((aU bH (aj.mk ((((aj.mk b false 0).bytesC 1).need (eB ((aj.mk b false 0).byteV)) 5).bytesR ((aj.mk b false 0).byteV)) false 0).l.length 0 (aj.mk ((((aj.mk b false 0).bytesC 1).need (eB ((aj.mk b false 0).byteV)) 5).bytesR ((aj.mk b false 0).byteV)) false 0) []).1).e)):=by
   unfold ag aX dy nD rU jg
   (try simp only[a7,bs,if_true,if_false,decide_true,decide_false,eq_self,true_or,or_true,or_false,false_or,if_true,if_false,cy,co,cw,cv,reduceIte,mp,mJ,mw])
   all_goals rfl
 rw[hs]
 exact bC bd (ut c4 c8 (ac (nr bj) (ac (ni (le (le (le (le (le (le (le (le (le (le (le (le ae.size N.size) v.size) t.size) r.size) o.size) d.size) i.size) j.size) g.size) p.size) h.size) k.size) D) av)))
 have bd:=ai a7
 refine bp<|sg<|?_
 have bi:=us F a6
 refine L0<|bS (aF.blk bi (aa a2 (aa (Ne.symm (nb (ap.lt M) (le (le (le (le o.size d.size) i.size) j.size) g.size) H)) aA)) cH)<|?_
 have c9:=ub (ud a0 bc Z) K
 refine L0<|be c9 (mG 20 0 0 0 0 0 0 0 0 0 0 0 nS nS nS (.slice bV ((aU bH (aj.mk (x49.bytesR ((aj.mk b false 0).byteV)) false 0).l.length 0 (aj.mk (x49.bytesR ((aj.mk b false 0).byteV)) false 0) []).2.length) bW) 0 0 0 0 0 nS) fun dL cN a9=>Pl 1<|nt<|rt<|?_
 have ca:=nb (au K) (le (le (le (le (le (le (le (le (le (le (le N.size v.size) t.size) r.size) o.size) d.size) i.size) j.size) g.size) p.size) h.size) k.size) D
 have cc:=aF.blk (u1 (aF.mono (S':=[O,z,B,I,a1,ad]) bb (ac im (ac im (ac im (ac im (ac im av)))))) a9 im) (aa (Ne.symm (nb (ap.lt Q) (le (le p.size h.size) k.size) D)) (aa (Ne.symm (nb (au G) (le (le (le (le (le (le (le (le (le (le v.size t.size) r.size) o.size) d.size) i.size) j.size) g.size) p.size) h.size) k.size) D)) (aa (Ne.symm (nb (au V) (le h.size k.size) D)) (aa bA (aa (Ne.symm (nb (ap.lt M) (le (le (le (le (le (le (le o.size d.size) i.size) j.size) g.size) p.size) h.size) k.size) D)) (aa (Ne.symm ca) aA)))))) am
 refine xj cc fun dM aH=>?_
 refine rx (b6 aH ca cN) (.int .i64 0)<|?_
 subst c2 bY bu br
 have cd:=us a9 aH
 have dN:=ut (aF.mono (S':=[I,a1,ad,cs]) bi (ac im (ac im av))) cd (ac im (ac im av))
 have dO:=u1 (aF.mono (S':=[I,a1,ad]) bi (ac im (ac im av))) a9 im
 have dQ:=ub (ud a0 (ut (aF.mono (S':=[z]) ao av) q.u (ac (ni aC.size P) (ac im (ac (ni (le (le (le (le (le r.size o.size) d.size) i.size) j.size) g.size) H) (ac (ni (le (le (le (le (le (le (le (le r.size o.size) d.size) i.size) j.size) g.size) p.size) h.size) k.size) E) av))))) Z) K
 have dR:=ap.upd aJ (ut (aF.mono (S':=[z]) ak av) (ut (aF.mono (S':=[O,z,B]) X av) q.u (ac im (ac im (ac im (ac (ni k.size E) av))))) (ac (nr P) (ac im (ac (ni g.size H) av)))) (aa (Ne.symm b5) aA) (ax (aY b7 (by decide)) aK)
 have dS:=us F T
 have hs:ag aX 1 20 b=aL (aQ.mk 20 0 0 0 0 0 0 0 0 0 0 0 [] [] [] (aU bH (aj.mk ((((aj.mk b false 0).bytesC 1).need (eB ((aj.mk b false 0).byteV)) 5).bytesR ((aj.mk b false 0).byteV)) false 0).l.length 0 (aj.mk ((((aj.mk b false 0).bytesC 1).need (eB ((aj.mk b false 0).byteV)) 5).bytesR ((aj.mk b false 0).byteV)) false 0) []).2 0 0 0 0 0 []) (((((aj.mk b false 0).bytesC 1).need (eB ((aj.mk b false 0).byteV)) 5).bytesC ((aj.mk b false 0).byteV)).need (((aU bH (aj.mk ((((aj.mk b false 0).bytesC 1).need (eB ((aj.mk b false 0).byteV)) 5).bytesR ((aj.mk b false 0).byteV)) false 0).l.length 0 (aj.mk ((((aj.mk b false 0).bytesC 1).need (eB ((aj.mk b false 0).byteV)) 5).bytesR ((aj.mk b false 0).byteV)) false 0) []).1).e==0) (bq ((aU bH (aj.mk ((((aj.mk b false 0).bytesC 1).need (eB ((aj.mk b false 0).byteV)) 5).bytesR ((aj.mk b false 0).byteV)) false 0).l.length 0 (aj.mk ((((aj.mk b false 0).bytesC 1).need (eB ((aj.mk b false 0).byteV)) 5).bytesR ((aj.mk b false 0).byteV)) false 0) []).1).e)):=by
   unfold ag aX dy nD rU jg
   (try simp only[a7,bs,if_true,if_false,decide_true,decide_false,eq_self,true_or,or_true,or_false,false_or,if_true,if_false,cy,co,cw,cv,reduceIte,mp,mJ,mw])
   all_goals rfl
 rw[hs]
 exact bI bd ⟨_,_,_,_,_,rfl,aS.nil ..,aS.nil ..,aS.nil ..,((aq (aq (aq (aq (aq q.ho F (fun x hx=>(aa (fun e=>(aB (au S) lr q.ho) (e▸hx)) aA)) (bv.updl F q.hl rfl)) T (fun x hx=>(aa (fun e=>(aB (ap.lt M) (le (le (le (le (le (le (le (le o.size d.size) i.size) j.size) g.size) p.size) h.size) k.size) J.size) q.ho) (e▸hx)) aA)) (bv.upd16 T (ax (ap.safe b9 _ (by decide)) aK))) a5 (fun x hx=>(aa (fun e=>(aB (ap.lt M) (le (le (le (le (le (le (le (le o.size d.size) i.size) j.size) g.size) p.size) h.size) k.size) J.size) q.ho) (e▸hx)) aA)) (bv.upd16 a5 (ax (ap.safe ba _ (by decide)) aK))) a9 (fun x hx=>(aa (fun e=>(aB (au K) (le (le (le (le (le (le (le (le (le (le (le (le N.size v.size) t.size) r.size) o.size) d.size) i.size) j.size) g.size) p.size) h.size) k.size) J.size) q.ho) (e▸hx)) aA)) (bv.upd16 a9 (ax (aY c9 (by decide)) aK))) aH (fun x hx=>(aa (fun e=>(aB (au am) lr q.ho) (e▸hx)) aA)) (bv.updl aH cc rfl))).rd,aS.nil ..,⟨(b8 (x:=20) (by omega)),(b8 (x:=0) (by omega)),(aD (x:=0) (by omega)),(aD (x:=0) (by omega)),(aD (x:=0) (by omega)),(aD (x:=0) (by omega)),(aD (x:=0) (by omega)),(aD (x:=0) (by omega)),(aD (x:=0) (by omega)),(aD (x:=0) (by omega)),(aD (x:=0) (by omega)),(aD (x:=0) (by omega)),(b8 (x:=0) (by omega)),(b8 (x:=0) (by omega)),(b8 (x:=0) (by omega)),(b8 (x:=0) (by omega)),(b8 (x:=0) (by omega))⟩⟩ (ut c4 cd (ac (nr bj) (ac (ni (le (le (le (le (le (le (le (le (le (le (le (le ae.size N.size) v.size) t.size) r.size) o.size) d.size) i.size) j.size) g.size) p.size) h.size) k.size) D) av)))
theorem mc{m:Md}{A:Option Addr}{cp:Nat}{b:List Int}{w:World}{dir:Int}(hd:dir=0∨dir=1)(hsl:bh m w (.slice A b.length cp) b)(hb:b.length≤1048576) :
    Calls Tryz.prog 144 #[.int .i64 dir,.int .u8 21,.slice A b.length cp] w (eb (ag aX dir 21 b) w):=by
 have hln:(b.length:Int)≤1048576:=by omega
 have aN:((dir != 0)&&(dir != 1))=false:=by rcases hd with rfl | rfl<;>rfl
 refine xh 77 Tryz.func144 rfl<|sg<|L0<|bO mZ fun af cW br M ah=>Pl 1<|nt<|sq<|sg<|Pl 3<|cu 3 [18] 21 (((dir != 0)&&(dir != 1))) (fun K bt=>?_) ?_
 refine bl 18 ((dir != 0)) (fun a0=>?_) (fun a0=>?_)
 have cm:=az a0
 exact Pl 3<|ce bt (dir != 1) (by rw[a0];rfl)
 have cm:=ai a0
 exact Pl 3<|ce bt false (by rw[a0];rfl)
 refine nt<|cf aN<|bp<|sg<|Pl 2<|L0<|Oc (args:=#[.int .i64 dir,.int .u8 21])<|e3 v9 fun z cX a1 G O=>Pl 3<|L0<|bO #[.nilFunc,.nilFunc] fun cZ d0 cn bu v=>L0<|be bu #[.func (.func 255) #[] #[],.func (.func 256) #[] #[]] fun d1 cq t=>Pl 1<|nl<|?_
 refine tn<|sq<|sg<|Pl 2<|nt<|c0<|bp<|sg<|Pl 1<|?_
 have ak:=ud v t cn
 have a2:=aG O ak
 have bw:=aG ah a2
 refine L0<|Oc<|e3 (dW (bh.old hsl bw) (by omega)) fun a3 d2 V N r=>Pl 1<|ng<|Pl 1<|L0<|Oc<|m3 (ch N) fun d3 cs o d4=>L0<|Oi ((aj.mk b false 0).byteV)<|Pl 1<|ng<|?_
 refine Pl 2<|?_
 have aO:=ud r o V
 have bx:=ub aO cq
 refine L0<|aP bx 0<|Pl 1<|L0<|gx #[] #[] (args:=#[.int .i64 ((aj.mk b false 0).byteV)])<|m1 (oW (n:=(aj.mk b false 0).byteV) (by omega)) fun d5 d=>?_
 refine L0<|Oc<|m2 (bg ((eG ((aj.mk b false 0).byteV))) 5 (ap.old cs d)) fun d6 ct i=>?_
 refine ab ct fun x51 bz bA=>?_
 refine ng<|Pl 2<|L0<|Oc<|qX (cL (n:=(aj.mk b false 0).byteV) bA) fun d7 d8 da cz db dc cA j=>?_
 have dd:=Nat.le_trans (aj.bytesR_le x51 ((aj.mk b false 0).byteV)) (ap.len bA)
 refine ab cA fun x60 bB aR=>?_
 refine L0<|Oc<|e3 (dW cz (by omega)) fun P de Q S g=>Pl 1<|ng<|Pl 2<|L0<|bO mZ fun B df H X p=>L0<|be X (mC 21) fun dg cB h=>nt<|sq<|sg<|?_
 refine Pl 2<|?_
 have am:=ud p h H
 have an:=aG g am
 have bD:=uz d (u1 i (aG j an) im)
 refine L0<|aP (b6 bD (nb (au bu) t.size V) bx) 1<|L0<|Oc<|we (ll (gb:=P) (f:=.func 256) (x:=#[]) (y:=#[])) fun cC cD dh aT aV di bE bF k=>nt<|bk<|?_
 refine pB (f:=257) #[.pointer (some ⟨cC,0,none⟩),.pointer (some ⟨cD,0,none⟩)] fun a ha=>?_
 intro dj cE I dk D E bH ao T J
 have bJ:=nb (ap.lt S) lr H
 have ar:=nb (ap.lt S) (le (le p.size h.size) k.size) E
 have bK:=nb (au G) (le (le (le (le (le (le (le v.size t.size) r.size) o.size) d.size) i.size) j.size) g.size) H
 have bL:=nb (au G) (le (le (le (le (le (le (le (le (le (le v.size t.size) r.size) o.size) d.size) i.size) j.size) g.size) p.size) h.size) k.size) E
 have a4:=nb (au X) (le h.size k.size) E
 have Y:=aG k J
 have bM:=ap.old S (aG am Y)
 have aw:=ud aO (aG bD Y) V
 have bN:=ub (aG ak aw) G
 have aW:=ub Y cB
 refine(ws (c:=21) bM bN aW T (ub J bE) (ub J bF) (Ne.symm (nb (au G) (le (le (le (le (le (le v.size t.size) r.size) o.size) d.size) i.size) j.size) Q)) bJ ar bK bL a4 (Ne.symm (nb (ap.lt S) am.size aT)) (Ne.symm (nb (au G) (le (le (le (le (le (le (le (le (le v.size t.size) r.size) o.size) d.size) i.size) j.size) g.size) p.size) h.size) aT)) (Ne.symm (nb (au X) h.size aT)) (nb (au bE) lr E) (Ne.symm (nb (ap.lt S) am.size aV)) (Ne.symm (nb (au G) (le (le (le (le (le (le (le (le (le v.size t.size) r.size) o.size) d.size) i.size) j.size) g.size) p.size) h.size) aV)) (Ne.symm (nb (au X) h.size aV)) (nb (au bF) lr E) ?_).mono ?_
 intro W C s L Ar cr x Ax cx hJ hrd hx1 hx2 hx3 hL
 simp only[dB] at hx1 hx2 hx3
 have hm2:W.heap[B]? = some (.cells #[.int .u8 21,.int .u8 0,.int .u16 0,.int .u16 0,.int .u16 0,.int .u16 0,.int .u16 0,.int .u16 0,.int .u16 0,.int .u16 0,.int .u16 0,.int .u16 0,.slice none 0 0,.slice none 0 0,.slice none 0 0,.slice Ar L.length cr,.int .u8 0,.int .u8 0,.int .u8 0,.int .u8 0,.int .u8 0,.slice none 0 0] 30 (0,0)):=hJ.hm
 refine lc hJ.hl ?_
 refine yf ha 53<|xg<|lO<|bO #[.int .u16 0,.int .u16 0,.int .u16 0,.slice none 0 0] fun dl dm bP cF bQ=>lO<|be cF #[.int .u16 x.file,.int .u16 x.record,.int .u16 x.count,.slice Ax x.words.length cx] fun dn cH bR=>sf<|?_
 have bT:=ud bQ bR bP
 refine yn (ub bT hJ.hl) (by trivial) fun dp cI aZ=>yh<|xg<|xk<|?_
 have b0:=uz bT aZ
 have bU:=b6 b0 a4 hm2
 refine lO<|aP bU 15<|?_
 refine lO<|bS (b6 aZ (Ne.symm (nb (au T) hJ.u.size bP)) cH)<|lO<|cK (m:=1) (e:=109) #[.int .u16 x.file,.int .u16 x.record,.int .u16 x.count,.slice Ax x.words.length cx] fun dq ds dt cJ b1=>?_
 have Z:=aG b0 b1
 have cM:=kg (R:=bv true) (x:=(dr.mk x.file x.record x.count x.words)) cJ rfl ⟨_,rfl,(dP.updl hrd Z hJ.hl rfl),aD (by omega),aD (by omega),aD (by omega)⟩
 have b2:=aq hJ.ho Z (fun x hx=>(aa (fun e=>(aB (au T) lr hJ.ho) (e▸hx)) aA)) (bv.updl Z hJ.hl rfl)
 refine lO<|gX (xs:=L) (ys:=([(dr.mk x.file x.record x.count x.words)])) (.agg #[.int .u16 0,.int .u16 0,.int .u16 0,.slice none 0 0]) 4 32 b2 cM (by simp) bv.ones (fun w' hv=>bv.upd16 hv (d9 (dC _ b2 (by decide)) aK)) (by(try simp only[List.length_append,List.length_cons,List.length_nil,ay]);omega) (le (le (le (le hJ.u.size bQ.size) bR.size) aZ.size) b1.size) fun bV bW du b3 aC=>xk<|?_
 have bX:=ut (aF.mono (S':=(ob Ar++[])) b1 av) aC (al il av)
 have b4:=aF.blk bX (bf (aB (au aW) lr hJ.ho) aA) bU
 refine lO<|cj b4 15 (mG 21 0 0 0 0 0 0 0 0 0 0 0 nS nS nS (.slice bV ((L++[(dr.mk x.file x.record x.count x.words)]).length) bW) 0 0 0 0 0 nS) fun dv cN a5=>sf<|bn<|?_
 have bY:=u1 (aF.mono (S':=(ob Ar++(B :: []))) bX (al il av)) a5 im
 have b5:=aF.blk bY (bf (aB (au T) lr hJ.ho) (aa (Ne.symm a4) aA)) cI
 refine yH b5 fun dw cO a6=>?_
 have b7:=ut (aF.mono (S':=(I :: (ob Ar++(B :: [])))) Z (ac im av)) (ut (aF.mono (S':=(ob Ar++(B :: (I :: [])))) aC (al il av)) (us a5 a6) (ac im (ac im av))) (al il (ac im (ac im av)))
 have dx:=ut hJ.u (ut (aF.mono (S':=(I :: (ob Ar++(B :: [])))) b0 (ac im av)) bY (al il (ac im av))) (ac im (al (aM hJ.ho lr) (ac im av)))
 have dz:=ut hJ.u (ut (aF.mono (S':=(I :: (ob Ar++[]))) Z (ac im av)) aC (al il av)) (ac im (al (aM hJ.ho lr) av))
 exact⟨by trivial,b7.size,bV,bW,⟨(ut hJ.u b7 (ac im (al (aM hJ.ho lr) (ac im av)))),(ap.updl (ap.upd (ap.upd (ap.updl hJ.hC Z (aa ar aA) hJ.hl rfl) aC (bf (aB (ap.lt bM) lr hJ.ho) aA) (d9 (dC _ b2 (by decide)) aK)) a5 (aa bJ aA) (ax (aY b4 (by decide)) aK)) a6 (aa ar aA) b5 rfl),(aF.blk b7 (aa bL (bf (aB (au bN) lr hJ.ho) (aa bK aA))) hJ.hS),(b6 a6 a4 cN),(aq (aq b3 a5 (fun x hx=>(aa (fun e=>(aB (au aW) lr b3) (e▸hx)) aA)) (bv.upd16 a5 (ax (aY b4 (by decide)) aK))) a6 (fun x hx=>(aa (fun e=>(aB (au T) lr b3) (e▸hx)) aA)) (bv.updl a6 b5 rfl)),cO⟩⟩
 rintro _ cP ⟨rfl,dA,bZ,c1,q⟩
 refine⟨_,_,rfl,q.hl,by simp[ef],by trivial,fun dD c2=>?_⟩
 refine ab q.hC fun b9 c3 cQ=>?_
 have cR:cP.heap[B]? = some (.cells #[.int .u8 21,.int .u8 0,.int .u16 0,.int .u16 0,.int .u16 0,.int .u16 0,.int .u16 0,.int .u16 0,.int .u16 0,.int .u16 0,.int .u16 0,.int .u16 0,.slice none 0 0,.slice none 0 0,.slice none 0 0,.slice bZ ((aU cY (aj.mk (x51.bytesR ((aj.mk b false 0).byteV)) false 0).l.length 0 (aj.mk (x51.bytesR ((aj.mk b false 0).byteV)) false 0) []).2.length) c1,.int .u8 0,.int .u8 0,.int .u8 0,.int .u8 0,.int .u8 0,.slice none 0 0] 30 (0,0)):=q.hm
 refine bn<|tn<|sg<|Pl 2<|?_
 have aE:=ap.updl cQ c2 (aa ar aA) q.hl rfl
 refine L0<|Oc<|mq (bG aE)<|?_
 have dE:=ap.len aE
 refine Pl 2<|L0<|Oc<|mq (bG aE)<|?_
 have dF:=ap.len aE
 refine L0<|Oc<|m1 (iN (e:=b9.e)) fun dG cS=>?_
 have F:=aG c2 cS
 have c4:=u1 q.u F im
 have ba:=nb (au G) ak.size V
 have aH:=ud aO (uz d (u1 i j im)) V
 have bb:=ub (aG ak aH) G
 have bc:=ap.upd aR (ut (aF.mono (S':=[z]) an av) (ut (aF.mono (S':=[P,z,B]) Y av) c4 (ac im (ac im (ac im (ac (ni k.size E) av))))) (ac (nr Q) (ac im (ac (ni g.size H) av)))) (aa (Ne.symm ba) aA) (ax (aY bb (by decide)) aK)
 refine L0<|Oc<|m2 (bg ((b9.e==0)) (bq b9.e) bc) fun dH cT U=>?_
 refine ab cT fun c5 c6 bd=>?_
 refine ng<|Pl 1<|L0<|Oc<|m2 (cG bd) fun dI c7 a7=>nt<|sq<|sg<|Pl 1<|L0<|Oc<|mq (bG c7)<|?_
 have dJ:=ap.len c7
 refine Pl 1<|ng<|Pl 2<|nt<|?_
 have a8:=u1 U a7 im
 have bi:=u1 (aF.mono (S':=[P,z,B,I,a3]) c4 (ac im (ac im (ac im (ac im av))))) a8 im
 have bj:=ut (aF.mono (S':=[z]) aw av) bi (ac (ni aH.size Q) (ac im (ac (ni (le (le (le (le (le r.size o.size) d.size) i.size) j.size) g.size) H) (ac (ni (le (le (le (le (le (le (le (le r.size o.size) d.size) i.size) j.size) g.size) p.size) h.size) k.size) E) (ac (nr V) av)))))
 have c8:=ud bw bj (le ah.size a1)
 refine cb ((c5.endC.e != 0)) (fun a9=>?_) (fun a9=>?_)
 have bm:=az a9
 refine sg<|Pl 2<|?_
 have c9:=ub (ud a2 bj a1) M
 refine L0<|be c9 mZ fun dK cU ad=>Pl 1<|nt<|rt<|tr<|?_
 have ca:=nb (au M) (le (le (le (le (le (le (le (le (le (le (le O.size v.size) t.size) r.size) o.size) d.size) i.size) j.size) g.size) p.size) h.size) k.size) D
 have cc:=aF.blk (u1 (aF.mono (S':=[P,z,B,I,a3,af]) bi (ac im (ac im (ac im (ac im (ac im av)))))) ad im) (aa (Ne.symm (nb (ap.lt S) (le (le p.size h.size) k.size) D)) (aa (Ne.symm (nb (au G) (le (le (le (le (le (le (le (le (le (le v.size t.size) r.size) o.size) d.size) i.size) j.size) g.size) p.size) h.size) k.size) D)) (aa (Ne.symm (nb (au X) (le h.size k.size) D)) (aa bH (aa (Ne.symm (nb (ap.lt N) (le (le (le (le (le (le (le o.size d.size) i.size) j.size) g.size) p.size) h.size) k.size) D)) (aa (Ne.symm ca) aA)))))) ao
 refine xj cc fun dL aI=>?_
 refine rx (b6 aI ca cU) (.int .i64 c5.endC.e)<|?_
 subst c6 c3 bB bz
 have cd:=us ad aI
 have dM:=us F (us a8 cd)
 have dN:=us F (us a8 ad)
 have dO:=ub (ud a2 (ut (aF.mono (S':=[z]) aw av) q.u (ac (ni aH.size Q) (ac im (ac (ni (le (le (le (le (le r.size o.size) d.size) i.size) j.size) g.size) H) (ac (ni (le (le (le (le (le (le (le (le r.size o.size) d.size) i.size) j.size) g.size) p.size) h.size) k.size) E) av))))) a1) M
 have dQ:=ap.upd aR (ut (aF.mono (S':=[z]) an av) (ut (aF.mono (S':=[P,z,B]) Y av) q.u (ac im (ac im (ac im (ac (ni k.size E) av))))) (ac (nr Q) (ac im (ac (ni g.size H) av)))) (aa (Ne.symm ba) aA) (ax (aY bb (by decide)) aK)
 have dR:=us F a8
 have dS:=us F U
 have dT:=aq (aq (aq (aq (aq q.ho F (fun x hx=>(aa (fun e=>(aB (au T) lr q.ho) (e▸hx)) aA)) (bv.updl F q.hl rfl)) U (fun x hx=>(aa (fun e=>(aB (ap.lt N) (le (le (le (le (le (le (le (le o.size d.size) i.size) j.size) g.size) p.size) h.size) k.size) J.size) q.ho) (e▸hx)) aA)) (bv.upd16 U (ax (ap.safe bc _ (by decide)) aK))) a7 (fun x hx=>(aa (fun e=>(aB (ap.lt N) (le (le (le (le (le (le (le (le o.size d.size) i.size) j.size) g.size) p.size) h.size) k.size) J.size) q.ho) (e▸hx)) aA)) (bv.upd16 a7 (ax (ap.safe bd _ (by decide)) aK))) ad (fun x hx=>(aa (fun e=>(aB (au M) (le (le (le (le (le (le (le (le (le (le (le (le O.size v.size) t.size) r.size) o.size) d.size) i.size) j.size) g.size) p.size) h.size) k.size) J.size) q.ho) (e▸hx)) aA)) (bv.upd16 ad (ax (aY c9 (by decide)) aK))) aI (fun x hx=>(aa (fun e=>(aB (au ao) lr q.ho) (e▸hx)) aA)) (bv.updl aI cc rfl)
 have hs:ag aX dir 21 b=aL (aQ.mk 21 0 0 0 0 0 0 0 0 0 0 0 [] [] [] (aU cY (aj.mk ((((aj.mk b false 0).bytesC 1).need (eG ((aj.mk b false 0).byteV)) 5).bytesR ((aj.mk b false 0).byteV)) false 0).l.length 0 (aj.mk ((((aj.mk b false 0).bytesC 1).need (eG ((aj.mk b false 0).byteV)) 5).bytesR ((aj.mk b false 0).byteV)) false 0) []).2 0 0 0 0 0 []) (((((aj.mk b false 0).bytesC 1).need (eG ((aj.mk b false 0).byteV)) 5).bytesC ((aj.mk b false 0).byteV)).need (((aU cY (aj.mk ((((aj.mk b false 0).bytesC 1).need (eG ((aj.mk b false 0).byteV)) 5).bytesR ((aj.mk b false 0).byteV)) false 0).l.length 0 (aj.mk ((((aj.mk b false 0).bytesC 1).need (eG ((aj.mk b false 0).byteV)) 5).bytesR ((aj.mk b false 0).byteV)) false 0) []).1).e==0) (bq ((aU cY (aj.mk ((((aj.mk b false 0).bytesC 1).need (eG ((aj.mk b false 0).byteV)) 5).bytesR ((aj.mk b false 0).byteV)) false 0).l.length 0 (aj.mk ((((aj.mk b false 0).bytesC 1).need (eG ((aj.mk b false 0).byteV)) 5).bytesR ((aj.mk b false 0).byteV)) false 0) []).1).e)):=by
   unfold ag aX dy nD rU jg
   (try simp only[aN,a9,bs,if_true,if_false,decide_true,decide_false,eq_self,true_or,or_true,or_false,false_or,if_true,if_false,cy,co,cw,cv,reduceIte,mp,mJ,mw,if_pos hd])
   all_goals rfl
 rw[hs]
 exact bC bm (ut c8 cd (ac (nr br) (ac (ni (le (le (le (le (le (le (le (le (le (le (le (le ah.size O.size) v.size) t.size) r.size) o.size) d.size) i.size) j.size) g.size) p.size) h.size) k.size) D) av)))
 have bm:=ai a9
 refine bp<|sg<|?_
 have bo:=us F a8
 refine L0<|bS (aF.blk bo (aa a4 (aa (Ne.symm (nb (ap.lt N) (le (le (le (le o.size d.size) i.size) j.size) g.size) H)) aA)) cR)<|?_
 have cg:=ub (ud a2 bj a1) M
 refine L0<|be cg (mG 21 0 0 0 0 0 0 0 0 0 0 0 nS nS nS (.slice bZ ((aU cY (aj.mk (x51.bytesR ((aj.mk b false 0).byteV)) false 0).l.length 0 (aj.mk (x51.bytesR ((aj.mk b false 0).byteV)) false 0) []).2.length) c1) 0 0 0 0 0 nS) fun dU cV ae=>Pl 1<|nt<|rt<|?_
 have ci:=nb (au M) (le (le (le (le (le (le (le (le (le (le (le O.size v.size) t.size) r.size) o.size) d.size) i.size) j.size) g.size) p.size) h.size) k.size) D
 have ck:=aF.blk (u1 (aF.mono (S':=[P,z,B,I,a3,af]) bi (ac im (ac im (ac im (ac im (ac im av)))))) ae im) (aa (Ne.symm (nb (ap.lt S) (le (le p.size h.size) k.size) D)) (aa (Ne.symm (nb (au G) (le (le (le (le (le (le (le (le (le (le v.size t.size) r.size) o.size) d.size) i.size) j.size) g.size) p.size) h.size) k.size) D)) (aa (Ne.symm (nb (au X) (le h.size k.size) D)) (aa bH (aa (Ne.symm (nb (ap.lt N) (le (le (le (le (le (le (le o.size d.size) i.size) j.size) g.size) p.size) h.size) k.size) D)) (aa (Ne.symm ci) aA)))))) ao
 refine xj ck fun dV aJ=>?_
 refine rx (b6 aJ ci cV) (.int .i64 0)<|?_
 subst c6 c3 bB bz
 have cl:=us ae aJ
 have dX:=ut (aF.mono (S':=[I,a3,af,cE]) bo (ac im (ac im av))) cl (ac im (ac im av))
 have dY:=u1 (aF.mono (S':=[I,a3,af]) bo (ac im (ac im av))) ae im
 have dZ:=ub (ud a2 (ut (aF.mono (S':=[z]) aw av) q.u (ac (ni aH.size Q) (ac im (ac (ni (le (le (le (le (le r.size o.size) d.size) i.size) j.size) g.size) H) (ac (ni (le (le (le (le (le (le (le (le r.size o.size) d.size) i.size) j.size) g.size) p.size) h.size) k.size) E) av))))) a1) M
 have e0:=ap.upd aR (ut (aF.mono (S':=[z]) an av) (ut (aF.mono (S':=[P,z,B]) Y av) q.u (ac im (ac im (ac im (ac (ni k.size E) av))))) (ac (nr Q) (ac im (ac (ni g.size H) av)))) (aa (Ne.symm ba) aA) (ax (aY bb (by decide)) aK)
 have e1:=us F U
 have hs:ag aX dir 21 b=aL (aQ.mk 21 0 0 0 0 0 0 0 0 0 0 0 [] [] [] (aU cY (aj.mk ((((aj.mk b false 0).bytesC 1).need (eG ((aj.mk b false 0).byteV)) 5).bytesR ((aj.mk b false 0).byteV)) false 0).l.length 0 (aj.mk ((((aj.mk b false 0).bytesC 1).need (eG ((aj.mk b false 0).byteV)) 5).bytesR ((aj.mk b false 0).byteV)) false 0) []).2 0 0 0 0 0 []) (((((aj.mk b false 0).bytesC 1).need (eG ((aj.mk b false 0).byteV)) 5).bytesC ((aj.mk b false 0).byteV)).need (((aU cY (aj.mk ((((aj.mk b false 0).bytesC 1).need (eG ((aj.mk b false 0).byteV)) 5).bytesR ((aj.mk b false 0).byteV)) false 0).l.length 0 (aj.mk ((((aj.mk b false 0).bytesC 1).need (eG ((aj.mk b false 0).byteV)) 5).bytesR ((aj.mk b false 0).byteV)) false 0) []).1).e==0) (bq ((aU cY (aj.mk ((((aj.mk b false 0).bytesC 1).need (eG ((aj.mk b false 0).byteV)) 5).bytesR ((aj.mk b false 0).byteV)) false 0).l.length 0 (aj.mk ((((aj.mk b false 0).bytesC 1).need (eG ((aj.mk b false 0).byteV)) 5).bytesR ((aj.mk b false 0).byteV)) false 0) []).1).e)):=by
   unfold ag aX dy nD rU jg
   (try simp only[aN,a9,bs,if_true,if_false,decide_true,decide_false,eq_self,true_or,or_true,or_false,false_or,if_true,if_false,cy,co,cw,cv,reduceIte,mp,mJ,mw,if_pos hd])
   all_goals rfl
 rw[hs]
 exact bI bm ⟨_,_,_,_,_,rfl,aS.nil ..,aS.nil ..,aS.nil ..,((aq (aq (aq (aq (aq q.ho F (fun x hx=>(aa (fun e=>(aB (au T) lr q.ho) (e▸hx)) aA)) (bv.updl F q.hl rfl)) U (fun x hx=>(aa (fun e=>(aB (ap.lt N) (le (le (le (le (le (le (le (le o.size d.size) i.size) j.size) g.size) p.size) h.size) k.size) J.size) q.ho) (e▸hx)) aA)) (bv.upd16 U (ax (ap.safe bc _ (by decide)) aK))) a7 (fun x hx=>(aa (fun e=>(aB (ap.lt N) (le (le (le (le (le (le (le (le o.size d.size) i.size) j.size) g.size) p.size) h.size) k.size) J.size) q.ho) (e▸hx)) aA)) (bv.upd16 a7 (ax (ap.safe bd _ (by decide)) aK))) ae (fun x hx=>(aa (fun e=>(aB (au M) (le (le (le (le (le (le (le (le (le (le (le (le O.size v.size) t.size) r.size) o.size) d.size) i.size) j.size) g.size) p.size) h.size) k.size) J.size) q.ho) (e▸hx)) aA)) (bv.upd16 ae (ax (aY cg (by decide)) aK))) aJ (fun x hx=>(aa (fun e=>(aB (au ao) lr q.ho) (e▸hx)) aA)) (bv.updl aJ ck rfl))).rd,aS.nil ..,⟨(b8 (x:=21) (by omega)),(b8 (x:=0) (by omega)),(aD (x:=0) (by omega)),(aD (x:=0) (by omega)),(aD (x:=0) (by omega)),(aD (x:=0) (by omega)),(aD (x:=0) (by omega)),(aD (x:=0) (by omega)),(aD (x:=0) (by omega)),(aD (x:=0) (by omega)),(aD (x:=0) (by omega)),(aD (x:=0) (by omega)),(b8 (x:=0) (by omega)),(b8 (x:=0) (by omega)),(b8 (x:=0) (by omega)),(b8 (x:=0) (by omega)),(b8 (x:=0) (by omega))⟩⟩ (ut c8 cl (ac (nr br) (ac (ni (le (le (le (le (le (le (le (le (le (le (le (le ah.size O.size) v.size) t.size) r.size) o.size) d.size) i.size) j.size) g.size) p.size) h.size) k.size) D) av)))
theorem rH{A:Option Addr}{cp:Nat}{b:List Int}{w:World}{c:Int}(n1:(c==20)=false)(n2:(c==21)=false) : Calls Tryz.prog 144 #[.int .i64 0,.int .u8 c,.slice A b.length cp] w (eb (ag aX 0 c b) w):=by
 refine xh 77 Tryz.func144 rfl<|sg<|L0<|bO mZ fun n o d e f=>Pl 1<|nt<|sq<|sg<|Pl 6<|nt<|c0<|?_
 refine bp<|sg<|Pl 2<|L0<|Oc (args:=#[.int .i64 0,.int .u8 c])<|m1 (oL (dir:=0) (x:=c) n1 n2) fun p g=>Pl 3<|L0<|bO #[.nilFunc,.nilFunc] fun q r h i j=>L0<|be i #[.nilFunc,.nilFunc] fun s t k=>Pl 1<|nt<|sq<|sq<|?_
 refine go<|Pl 2<|nt<|c1<|sg<|Pl 1<|?_
 have a:=aG g (ud j k h)
 refine L0<|be (ub a e) mZ fun u l m=>Pl 1<|nt<|rt<|tr<|ry l (.int .i64 4)<|?_
 have hs:ag aX 0 c b=(aQ.zero,4):=by
   unfold ag aX
   (try simp only[bs,if_true,if_false,decide_true,decide_false,eq_self,true_or,or_true,or_false,false_or,if_true,if_false,cy,co,cw,cv,reduceIte,n1,n2])
   all_goals rfl
 rw[hs]
 exact cR (ud f (uz a m) d)
theorem qW{A:Option Addr}{cp:Nat}{b:List Int}{w:World}{c:Int}(n1:(c==20)=false)(n2:(c==21)=false) : Calls Tryz.prog 144 #[.int .i64 1,.int .u8 c,.slice A b.length cp] w (eb (ag aX 1 c b) w):=by
 refine xh 77 Tryz.func144 rfl<|sg<|L0<|bO mZ fun n o d e f=>Pl 1<|nt<|sq<|sg<|Pl 6<|nt<|c0<|?_
 refine bp<|sg<|Pl 2<|L0<|Oc (args:=#[.int .i64 1,.int .u8 c])<|m1 (oL (dir:=1) (x:=c) n1 n2) fun p g=>Pl 3<|L0<|bO #[.nilFunc,.nilFunc] fun q r h i j=>L0<|be i #[.nilFunc,.nilFunc] fun s t k=>Pl 1<|nt<|sq<|sq<|?_
 refine go<|Pl 2<|nt<|c1<|sg<|Pl 1<|?_
 have a:=aG g (ud j k h)
 refine L0<|be (ub a e) mZ fun u l m=>Pl 1<|nt<|rt<|tr<|ry l (.int .i64 4)<|?_
 have hs:ag aX 1 c b=(aQ.zero,4):=by
   unfold ag aX
   (try simp only[bs,if_true,if_false,decide_true,decide_false,eq_self,true_or,or_true,or_false,false_or,if_true,if_false,cy,co,cw,cv,reduceIte,n1,n2])
   all_goals rfl
 rw[hs]
 exact cR (ud f (uz a m) d)
theorem rg{A:Option Addr}{cp:Nat}{b:List Int}{w:World}{dir c:Int}(hd:¬ (dir=0∨dir=1)) : Calls Tryz.prog 144 #[.int .i64 dir,.int .u8 c,.slice A b.length cp] w (eb (ag aX dir c b) w):=by
 have e0:(dir != 0)=true:=by simp;omega
 have e1:(dir != 1)=true:=by simp;omega
 refine xh 77 Tryz.func144 rfl<|sg<|L0<|bO mZ fun g h a d e=>Pl 1<|nt<|sq<|sg<|Pl 3<|sy 18 e0<|Pl 3<|nl<|?_
 refine tn<|ct e1<|sg<|Pl 1<|L0<|be d mZ fun i dB f=>Pl 1<|nt<|rt<|tr<|ry dB (.int .i64 1)<|?_
 have hs:ag aX dir c b=(aQ.zero,1):=by
   unfold ag aX
   (try simp only[e0,e1,bs,if_true,if_false,decide_true,decide_false,eq_self,true_or,or_true,or_false,false_or,if_true,if_false,cy,co,cw,cv,reduceIte,hd])
   all_goals rfl
 rw[hs]
 exact cR (ud e f a)
theorem jP{m:Md}{v:Value}{b:List Int}{w:World}{dir c:Int}(hc:B8 c)(h:bh m w v b)(hb:b.length≤1048576) :
    Calls Tryz.prog 144 #[.int .i64 dir,.int .u8 c,v] w (eb (ag aX dir c b) w):=by
  obtain⟨A,cp,rfl,_,_⟩:=h.shape
  by_cases h0:dir=0
  · subst h0
    by_cases a:c=20
    · subst a;exact oI (Or.inl (rfl:(0:Int)=0)) h hb
    by_cases d:c=21
    · subst d;exact mc (Or.inl rfl) h hb
    exact rH (by simpa using a) (by simpa using d)
  by_cases h1:dir=1
  · subst h1
    by_cases a:c=20
    · subst a;exact nR (Or.inl (rfl:(0:Int)=0)) h hb
    by_cases d:c=21
    · subst d;exact mc (Or.inr rfl) h hb
    exact qW (by simpa using a) (by simpa using d)
  exact rg (by omega)
open Go.RowKit
def dG (res:Option (List Int))(w:World)(e:Ending)(w':World) : Prop :=
  match res with
  | some l=>∃ v,e = .returned (.tuple #[v,.int .i64 0])∧eI w.heap.size w' v l∧aF [] w w'
  | none=>e = .returned (.tuple #[.slice none 0 0,.int .i64 1])∧aF [] w w'
def bo (parse:Int→Int→List Int→aQ × Int)(lay:Int→aQ→List Int)(dir:Int)(M:aQ) : Option (List Int) :=
  if parse dir M.code (lay dir M)=(M,0) then some (lay dir M) else none
def fN:=ag aC
def gD:=ag aI
def gB:=ag aR
def i7:=ag bz
def fE:=ag aX
open Go.RowKit
def jm (M:aQ) : Option (List Int):=if !(ff M.code M.fail) then none else if !(decide (M=ge M.code M.fail)) then none else some [(M.code+128)%256,M.fail]
theorem ed{x y:Option (List Int)}(h:x=y){w:World}{e:Ending}{w':World}(k:dG y w e w') : dG x w e w':=by rw[h];exact k
theorem mD{m:Md}{cs:Array Value}{M:aQ}{w:World}(h:aN m w cs.toList M) : Calls Tryz.prog 100 #[.agg cs] w (dG (jm M) w):=by
 have hM:=h
 obtain⟨vw,vb,vd,vr,vo,h0,hw,hbt,hd,hr,ho,hR⟩:=h
 obtain rfl:cs=(bu M vw vb vd vr vo).toArray:=by apply Array.toList_inj.1;simpa using h0
 clear h0
 obtain⟨Aw,kw,rfl,_,_⟩:=hw.shape
 obtain⟨Ab,kb,rfl,_,_⟩:=hbt.shape
 obtain⟨Ad,kd,rfl,_,_⟩:=hd.shape
 obtain⟨Ar,kr,rfl,_,_⟩:=hr.shape
 obtain⟨Ao,ko,rfl,_,_⟩:=ho.shape
 obtain⟨q0,q1,q2,q3,q4,q5,q6,q7,q8,q9,I,J,K,L,N,O,P⟩:=hR
 simp only[B8,dB] at q0 q1 q2 q3 q4 q5 q6 q7 q8 q9 I J K L N O P
 refine en 26 Tryz.func100 rfl<|sg<|L0<|dv (mG M.code M.fail M.addr M.count M.value M.and_ M.or_ M.addr2 M.sub M.status M.events M.messages (.slice Aw M.words.length kw) (.slice Ab M.bits.length kb) (.slice Ad M.data.length kd) (.slice Ar M.recs.length kr) M.mei M.kind M.level M.more M.next (.slice Ao M.objects.length ko)) fun s a3 a4 k Q=>Pl 2<|ng<|Pl 1<|L0<|aP k 0<|Pl 1<|L0<|aP k 1<|Pl 1<|L0<|bO #[.int .u8 0,.int .u8 0] fun l a5 R S T=>?_
 refine L0<|be S #[.int .u8 M.code,.int .u8 M.fail] fun a6 U V=>nt<|sq<|sq<|Rg 10 (fun w'=>w'.heap[l]? = some (.cells #[.int .u8 M.code,.int .u8 M.fail] 154 (0,0))∧w'.heap[s]? = some (.cells (mG M.code M.fail M.addr M.count M.value M.and_ M.or_ M.addr2 M.sub M.status M.events M.messages (.slice Aw M.words.length kw) (.slice Ab M.bits.length kb) (.slice Ad M.data.length kd) (.slice Ar M.recs.length kr) M.mei M.kind M.level M.more M.next (.slice Ao M.objects.length ko)) 30 (0,0))) fun a7 t=>?_
 have u:=ub t U
 have v:=ud T (aG V t) R
 have y:=ub v k
 refine bj ⟨u,y⟩ fun W=>Rr 0 W (.agg #[.int .u8 M.code,.int .u8 M.fail]) (fun w' hs=>mu (g:=l) (off:=0) [.int .u8 M.code,.int .u8 M.fail] rfl (by kernel_rfl) hs.1 (by kernel_rfl) (by kernel_rfl) rfl)<|R0 1 rfl<|Oc<|m1 (qU (a:=M.code) (b:=M.fail) (w:=_)) fun a8 n=>?_
 have z:=ub n u
 have C:=ub n y
 refine bj ⟨z,C⟩ fun c=>Rt 2 c<|Rt 3 c<|?_
 have D:=aG Q (aG v n)
 refine si 13 ((!(ff M.code M.fail))) (fun d=>?_) (fun d=>?_)
 have j:(ff M.code M.fail)=false:=by simpa using d
 refine Ro 4 c<|Ro 5 c<|Ro 6 c<|Ro 7 c<|Ro 8 c<|Rt 9 c<|re<|tn<|c1<|sg<|Pl 2<|nt<|?_
 refine rt<|tr<|rr (.tuple #[.slice none 0 0,.int .i64 1])<|?_
 have hs:jm M=none:=by
   unfold jm
   (try simp only[d,j,bs,if_true,if_false,decide_true,decide_false,reduceIte])
   all_goals rfl
 refine ed hs ?_
 exact⟨rfl,D⟩
 have j:(ff M.code M.fail)=true:=by simpa using d
 refine Rr 4 c (.agg (mG M.code M.fail M.addr M.count M.value M.and_ M.or_ M.addr2 M.sub M.status M.events M.messages (.slice Aw M.words.length kw) (.slice Ab M.bits.length kb) (.slice Ad M.data.length kd) (.slice Ar M.recs.length kr) M.mei M.kind M.level M.more M.next (.slice Ao M.objects.length ko))) (fun w' hs=>mu (g:=s) (off:=0) [.int .u8 M.code,.int .u8 M.fail,.int .u16 M.addr,.int .u16 M.count,.int .u16 M.value,.int .u16 M.and_,.int .u16 M.or_,.int .u16 M.addr2,.int .u16 M.sub,.int .u16 M.status,.int .u16 M.events,.int .u16 M.messages,.slice Aw M.words.length kw,.slice Ab M.bits.length kb,.slice Ad M.data.length kd,.slice Ar M.recs.length kr,.int .u8 M.mei,.int .u8 M.kind,.int .u8 M.level,.int .u8 M.more,.int .u8 M.next,.slice Ao M.objects.length ko] rfl (by kernel_rfl) hs.2 (by kernel_rfl) (by kernel_rfl) rfl)<|Rr 5 c (.agg #[.int .u8 M.code,.int .u8 M.fail]) (fun w' hs=>mu (g:=l) (off:=0) [.int .u8 M.code,.int .u8 M.fail] rfl (by kernel_rfl) hs.1 (by kernel_rfl) (by kernel_rfl) rfl)<|R0 6 rfl<|Oc<|m1 (kX (a:=M.code) (b:=M.fail) (w:=_)) fun a9 o=>?_
 have E:=ub o z
 have F:=ub o C
 refine bj ⟨E,F⟩ fun aa=>?_
 have G:=aG D o
 refine R0 7 rfl<|Oc<|m1 (gC (A:=M) (B:=ge M.code M.fail) (aN.old hM G) (show aN true _ _ _ from⟨_,_,_,_,_,rfl,aS.nil ..,aS.nil ..,aS.nil ..,aS.nil ..,aS.nil ..,⟨(b8 (x:=M.code) (by omega)),(b8 (x:=M.fail) (by omega)),(aD (x:=0) (by omega)),(aD (x:=0) (by omega)),(aD (x:=0) (by omega)),(aD (x:=0) (by omega)),(aD (x:=0) (by omega)),(aD (x:=0) (by omega)),(aD (x:=0) (by omega)),(aD (x:=0) (by omega)),(aD (x:=0) (by omega)),(aD (x:=0) (by omega)),(b8 (x:=0) (by omega)),(b8 (x:=0) (by omega)),(b8 (x:=0) (by omega)),(b8 (x:=0) (by omega)),(b8 (x:=0) (by omega))⟩⟩)) fun ab p=>?_
 have q:=ub p F
 refine bj ⟨(ub p E),q⟩ fun H=>Rt 8 H<|Rt 9 H<|re<|tn<|?_
 have r:=aG G p
 refine cb ((!(decide (M=ge M.code M.fail)))) (fun f=>?_) (fun f=>?_)
 have i:(decide (M=ge M.code M.fail))=false:=by simpa using f
 have X:=of_decide_eq_false i
 refine sg<|Pl 2<|nt<|rt<|tr<|rr (.tuple #[.slice none 0 0,.int .i64 1])<|?_
 have hs:jm M=none:=by
   unfold jm
   (try simp only[d,j,f,i,bs,if_true,if_false,decide_true,decide_false,reduceIte])
   all_goals rfl
 refine ed hs ?_
 exact⟨rfl,r⟩
 have i:(decide (M=ge M.code M.fail))=true:=by simpa using f
 have X:=of_decide_eq_true i
 refine bp<|sg<|Pl 1<|L0<|aP q 0<|Pl 2<|L0<|aP q 1<|L0<|cK (m:=2) (e:=5) #[.int .u8 ((M.code+128)%256),.int .u8 M.fail] fun Y ac Z a0 a1=>?_
 have a2:=cN Z (xs:=[((M.code+128)%256),M.fail]) (by as_aux_lemma=>kernel_rfl) (am (by omega) (am (by omega) aJ)) (by(try simp only[List.length_cons,List.length_nil]);omega) a0
 refine Pl 2<|nt<|rt<|rr (.tuple #[.slice (some ⟨Y,0,none⟩) 2 2,.int .i64 0])<|?_
 have hs:jm M=(some [((M.code+128)%256),M.fail]):=by
   unfold jm
   (try simp only[d,j,f,i,bs,if_true,if_false,decide_true,decide_false,reduceIte])
   all_goals rfl
 refine ed hs ?_
 exact⟨_,rfl,(aW.weaken a2 r.size),(aG r a1)⟩
open Go.RowKit
def bK (dir:Int)(M:aQ) : List Int :=
  if (!(dir==0))&&(M.code==3 || M.code==4 || M.code==23) then [(2*(M.words.length:Int))%256]++aE M.words
  else if M.code==6 then aE [M.addr,M.value]
  else if M.code==22 then aE [M.addr,M.and_,M.or_]
  else if M.code==16&&dir==0 then ((aE [M.addr,M.count]++[(2*(M.words.length:Int))%256])++aE M.words)
  else if M.code==23 then ((aE [M.addr,M.count,M.addr2,(M.words.length:Int)%65536]++[(2*(M.words.length:Int))%256])++aE M.words)
  else if M.code==24&&dir==0 then aE [M.addr]
  else if M.code==24 then aE [(2+2*(M.words.length:Int))%65536,(M.words.length:Int)%65536]++aE M.words
  else aE [M.addr,M.count]
theorem pg{m:Md}{cs:Array Value}{M:aQ}{w:World}{dir:Int}(h:aN m w cs.toList M)(hf:bM M)(hd0:(dir==0)=true) : Calls Tryz.prog 205 #[.int .i64 dir,.agg cs] w (fm (bK dir M) w):=by
 obtain⟨vw,vb,vd,vr,vo,h0,hw,hbt,hd,hr,ho,hR⟩:=h
 obtain rfl:cs=(bu M vw vb vd vr vo).toArray:=by apply Array.toList_inj.1;simpa using h0
 clear h0
 obtain⟨Aw,kw,rfl,_,_⟩:=hw.shape
 obtain⟨Ab,kb,rfl,_,_⟩:=hbt.shape
 obtain⟨Ad,kd,rfl,_,_⟩:=hd.shape
 obtain⟨Ar,kr,rfl,_,_⟩:=hr.shape
 obtain⟨Ao,ko,rfl,_,_⟩:=ho.shape
 obtain⟨q0,q1,q2,q3,q4,q5,q6,q7,q8,q9,X,Y,Z,a0,a1,a2,a3⟩:=hR
 simp only[B8,dB] at q0 q1 q2 q3 q4 q5 q6 q7 q8 q9 X Y Z a0 a1 a2 a3
 have hf1:=hf.words
 have hf2:=hf.bits
 have hf3:=hf.data
 have hf4:=hf.recs
 have hf5:=hf.objects
 refine en 124 Tryz.func205 rfl<|sg<|L0<|dv (mG M.code M.fail M.addr M.count M.value M.and_ M.or_ M.addr2 M.sub M.status M.events M.messages (.slice Aw M.words.length kw) (.slice Ab M.bits.length kb) (.slice Ad M.data.length kd) (.slice Ar M.recs.length kr) M.mei M.kind M.level M.more M.next (.slice Ao M.objects.length ko)) fun bd be bf y i=>Pl 1<|ng<|Pl 1<|L0<|aP y 12<|Pl 2<|nt<|?_
 refine sg<|Pl 1<|L0<|Oi (2*((M.words.length:Nat) : Int))<|Pl 1<|L0<|cK (m:=1) (e:=5) #[.int .u8 ((2*((M.words.length:Nat) : Int))%256)] fun bg bh a4 a5 d=>?_
 have z:=cN a4 (xs:=[((2*((M.words.length:Nat) : Int))%256)]) (by as_aux_lemma=>kernel_rfl) (am (by omega) aJ) (by(try simp only[List.length_cons,List.length_nil]);omega) a5
 refine Pl 1<|?_
 have A:=ub d y
 refine L0<|aP A 12<|?_
 have B:=aG i d
 refine L0<|Oc<|di (bF (xs:=M.words) (dP.old hw B) (by(try simp only[List.length_cons,List.length_nil]);omega)) fun bi bj bm C bo bp b=>Pl 2<|ng<|Pl 3<|nt<|sq<|sg<|Pl 1<|?_
 have a:=ub b A
 refine L0<|aP a 0<|Pl 1<|nt<|bk<|sg<|Pl 3<|?_
 have j:(!(dir==0))=false:=by simp only[hd0,Bool.not_true,Bool.not_false]
 refine sy 27 j<|Pl 12<|nt<|c0<|sg<|Pl 3<|nt<|?_
 have l:=aG B b
 refine cb ((M.code==6)) (fun c=>?_) (fun c=>?_)
 have a6:=ae c
 refine sg<|Pl 1<|L0<|aP a 2<|Pl 1<|L0<|aP a 4<|L0<|cK (m:=2) (e:=24) #[.int .u16 M.addr,.int .u16 M.value] fun bq bt a7 a8 D=>?_
 have a9:=dc a7 (xs:=[M.addr,M.value]) (by as_aux_lemma=>kernel_rfl) (am (by omega) (am (by omega) aJ)) (by(try simp only[List.length_cons,List.length_nil]);omega) a8
 refine L0<|Oc<|di (bF (xs:=[M.addr,M.value]) (a9).rd (by(try simp only[List.length_cons,List.length_nil]);omega)) fun aa ab bv ac bw bx ad=>Pl 1<|nt<|rt<|br<|tr<|rr (.slice aa ((aE ([M.addr,M.value])).length) ab)<|?_
 have hs:bK dir M=(aE ([M.addr,M.value])):=by
   unfold bK
   (try simp only[hd0,j,c,bs,if_true,if_false,decide_true,decide_false,reduceIte])
   all_goals rfl
 rw[hs]
 exact⟨_,rfl,(aW.weaken ac (le (le (le i.size d.size) b.size) D.size)),(aG l (aG D ad))⟩
 have a6:=ak c
 refine sg<|Pl 3<|nt<|cb ((M.code==22)) (fun f=>?_) (fun f=>?_)
 have af:=ae f
 refine sg<|Pl 1<|L0<|aP a 2<|Pl 1<|L0<|aP a 5<|Pl 1<|L0<|aP a 6<|L0<|cK (m:=3) (e:=24) #[.int .u16 M.addr,.int .u16 M.and_,.int .u16 M.or_] fun bz bA ag ah E=>?_
 have ai:=dc ag (xs:=[M.addr,M.and_,M.or_]) (by as_aux_lemma=>kernel_rfl) (am (by omega) (am (by omega) (am (by omega) aJ))) (by(try simp only[List.length_cons,List.length_nil]);omega) ah
 refine L0<|Oc<|di (bF (xs:=[M.addr,M.and_,M.or_]) (ai).rd (by(try simp only[List.length_cons,List.length_nil]);omega)) fun aj an bB ao bC bD ap=>Pl 1<|nt<|rt<|br<|tr<|rr (.slice aj ((aE ([M.addr,M.and_,M.or_])).length) an)<|?_
 have hs:bK dir M=(aE ([M.addr,M.and_,M.or_])):=by
   unfold bK
   (try simp only[hd0,j,c,f,bs,if_true,if_false,decide_true,decide_false,reduceIte])
   all_goals rfl
 rw[hs]
 exact⟨_,rfl,(aW.weaken ao (le (le (le i.size d.size) b.size) E.size)),(aG l (aG E ap))⟩
 have af:=ak f
 refine sg<|Pl 3<|cu 2 [65] 67 (((M.code==16)&&(dir==0))) (fun K F=>?_) ?_
 refine bl 65 ((M.code==16)) (fun q=>?_) (fun q=>?_)
 have ar:=ae q
 exact Pl 2<|ce F (dir==0) (by rw[q];rfl)
 have ar:=ak q
 exact Pl 2<|ce F false (by rw[q];rfl)
 refine Pl 1<|nt<|cb (((M.code==16)&&(dir==0))) (fun g=>?_) (fun g=>?_)
 have k:=(aZ g).1
 have G:=(aZ g).2
 have au:=ae k
 have bG:=ae G
 refine sg<|Pl 1<|L0<|aP a 2<|Pl 1<|L0<|aP a 3<|L0<|cK (m:=2) (e:=24) #[.int .u16 M.addr,.int .u16 M.count] fun bH bI aw ax s=>?_
 have az:=dc aw (xs:=[M.addr,M.count]) (by as_aux_lemma=>kernel_rfl) (am (by omega) (am (by omega) aJ)) (by(try simp only[List.length_cons,List.length_nil]);omega) ax
 refine L0<|Oc<|di (bF (xs:=[M.addr,M.count]) (az).rd (by(try simp only[List.length_cons,List.length_nil]);omega)) fun bJ bL bN H bO bP u=>Pl 1<|?_
 have I:=aG s u
 refine L0<|bE aV (xs:=(aE ([M.addr,M.count]))) (ys:=([((2*((M.words.length:Nat) : Int))%256)])) (.int .u8 0) 1 H ((aq z (aG b I) (fun x hx=>aA) (fun _ _ h=>h))).rd (by(try simp only[List.length_append,List.length_cons,List.length_nil,ay]);omega) u.size fun bQ bR bS J L=>Pl 1<|?_
 have N:=ut I L (al (aM H s.size) av)
 refine L0<|bE aV (xs:=((aE ([M.addr,M.count]))++[((2*((M.words.length:Nat) : Int))%256)])) (ys:=(aE M.words)) (.int .u8 0) 1 J ((aq C N (fun x hx=>aA) (fun _ _ h=>h))).rd (by(try simp only[List.length_append,List.length_cons,List.length_nil,ay]);omega) (le u.size L.size) fun aB aC bT aD aF=>Pl 1<|nt<|rt<|br<|tr<|rr (.slice aB ((((aE ([M.addr,M.count]))++[((2*((M.words.length:Nat) : Int))%256)])++(aE M.words)).length) aC)<|?_
 have hs:bK dir M=(((aE ([M.addr,M.count]))++[((2*((M.words.length:Nat) : Int))%256)])++(aE M.words)):=by
   unfold bK
   (try simp only[G,j,c,f,g,k,bs,if_true,if_false,decide_true,decide_false,reduceIte])
   all_goals rfl
 rw[hs]
 exact⟨_,rfl,(aW.weaken aD (le (le (le i.size d.size) b.size) s.size)),(aG l (ut N aF (al (aM J s.size) av)))⟩
 have k:(M.code==16)=false:=by simpa only[hd0,bs] using g
 have au:=ak k
 refine sg<|Pl 3<|nt<|cb ((M.code==23)) (fun n=>?_) (fun n=>?_)
 have aH:=ae n
 refine sg<|Pl 1<|L0<|aP a 2<|Pl 1<|L0<|aP a 3<|Pl 1<|L0<|aP a 7<|Pl 2<|L0<|cK (m:=4) (e:=24) #[.int .u16 M.addr,.int .u16 M.count,.int .u16 M.addr2,.int .u16 (((M.words.length:Nat) : Int)%65536)] fun bU bV aI aK t=>?_
 have aL:=dc aI (xs:=[M.addr,M.count,M.addr2,(((M.words.length:Nat) : Int)%65536)]) (by as_aux_lemma=>kernel_rfl) (am (by omega) (am (by omega) (am (by omega) (am (by omega) aJ)))) (by(try simp only[List.length_cons,List.length_nil]);omega) aK
 refine L0<|Oc<|di (bF (xs:=[M.addr,M.count,M.addr2,(((M.words.length:Nat) : Int)%65536)]) (aL).rd (by(try simp only[List.length_cons,List.length_nil]);omega)) fun bW bX bY O bZ c1 v=>Pl 1<|?_
 have P:=aG t v
 refine L0<|bE aV (xs:=(aE ([M.addr,M.count,M.addr2,(((M.words.length:Nat) : Int)%65536)]))) (ys:=([((2*((M.words.length:Nat) : Int))%256)])) (.int .u8 0) 1 O ((aq z (aG b P) (fun x hx=>aA) (fun _ _ h=>h))).rd (by(try simp only[List.length_append,List.length_cons,List.length_nil,ay]);omega) v.size fun c2 c3 c4 Q R=>Pl 1<|?_
 have S:=ut P R (al (aM O t.size) av)
 refine L0<|bE aV (xs:=((aE ([M.addr,M.count,M.addr2,(((M.words.length:Nat) : Int)%65536)]))++[((2*((M.words.length:Nat) : Int))%256)])) (ys:=(aE M.words)) (.int .u8 0) 1 Q ((aq C S (fun x hx=>aA) (fun _ _ h=>h))).rd (by(try simp only[List.length_append,List.length_cons,List.length_nil,ay]);omega) (le v.size R.size) fun aO aR c5 aS aT=>Pl 1<|nt<|rt<|br<|tr<|rr (.slice aO ((((aE ([M.addr,M.count,M.addr2,(((M.words.length:Nat) : Int)%65536)]))++[((2*((M.words.length:Nat) : Int))%256)])++(aE M.words)).length) aR)<|?_
 have hs:bK dir M=(((aE ([M.addr,M.count,M.addr2,(((M.words.length:Nat) : Int)%65536)]))++[((2*((M.words.length:Nat) : Int))%256)])++(aE M.words)):=by
   unfold bK
   (try simp only[hd0,j,c,f,g,k,n,bs,if_true,if_false,decide_true,decide_false,reduceIte])
   all_goals rfl
 rw[hs]
 exact⟨_,rfl,(aW.weaken aS (le (le (le i.size d.size) b.size) t.size)),(aG l (ut S aT (al (aM Q t.size) av)))⟩
 have aH:=ak n
 refine sg<|Pl 3<|cu 2 [98] 100 (((M.code==24)&&(dir==0))) (fun K T=>?_) ?_
 refine bl 98 ((M.code==24)) (fun r=>?_) (fun r=>?_)
 have aU:=ae r
 exact Pl 2<|ce T (dir==0) (by rw[r];rfl)
 have aU:=ak r
 exact Pl 2<|ce T false (by rw[r];rfl)
 refine Pl 1<|nt<|cb (((M.code==24)&&(dir==0))) (fun o=>?_) (fun o=>?_)
 have p:=(aZ o).1
 have U:=(aZ o).2
 have aX:=ae p
 have c6:=ae U
 refine sg<|Pl 1<|L0<|aP a 2<|L0<|cK (m:=1) (e:=24) #[.int .u16 M.addr] fun c7 c8 aY b0 V=>?_
 have b1:=dc aY (xs:=[M.addr]) (by as_aux_lemma=>kernel_rfl) (am (by omega) aJ) (by(try simp only[List.length_cons,List.length_nil]);omega) b0
 refine L0<|Oc<|di (bF (xs:=[M.addr]) (b1).rd (by(try simp only[List.length_cons,List.length_nil]);omega)) fun b2 b3 c9 b4 ca cc b5=>Pl 1<|nt<|rt<|br<|tr<|rr (.slice b2 ((aE ([M.addr])).length) b3)<|?_
 have hs:bK dir M=(aE ([M.addr])):=by
   unfold bK
   (try simp only[U,j,c,f,g,k,n,o,p,bs,if_true,if_false,decide_true,decide_false,reduceIte])
   all_goals rfl
 rw[hs]
 exact⟨_,rfl,(aW.weaken b4 (le (le (le i.size d.size) b.size) V.size)),(aG l (aG V b5))⟩
 have p:(M.code==24)=false:=by simpa only[hd0,bs] using o
 have aX:=ak p
 refine sg<|Pl 3<|nt<|cf p<|sk<|bn<|tn<|sg<|Pl 1<|L0<|aP a 2<|Pl 1<|L0<|aP a 3<|?_
 refine L0<|cK (m:=2) (e:=24) #[.int .u16 M.addr,.int .u16 M.count] fun cd cg b6 b7 W=>?_
 have b8:=dc b6 (xs:=[M.addr,M.count]) (by as_aux_lemma=>kernel_rfl) (am (by omega) (am (by omega) aJ)) (by(try simp only[List.length_cons,List.length_nil]);omega) b7
 refine L0<|Oc<|di (bF (xs:=[M.addr,M.count]) (b8).rd (by(try simp only[List.length_cons,List.length_nil]);omega)) fun b9 ba ch bb ci cj bc=>Pl 1<|nt<|rt<|rr (.slice b9 ((aE ([M.addr,M.count])).length) ba)<|?_
 have hs:bK dir M=(aE ([M.addr,M.count])):=by
   unfold bK
   (try simp only[hd0,j,c,f,g,k,n,o,p,bs,if_true,if_false,decide_true,decide_false,reduceIte])
   all_goals rfl
 rw[hs]
 exact⟨_,rfl,(aW.weaken bb (le (le (le i.size d.size) b.size) W.size)),(aG l (aG W bc))⟩
theorem pD{m:Md}{cs:Array Value}{M:aQ}{w:World}{dir:Int}(h:aN m w cs.toList M)(hf:bM M)(hd0:(dir==0)=false) : Calls Tryz.prog 205 #[.int .i64 dir,.agg cs] w (fm (bK dir M) w):=by
 obtain⟨vw,vb,vd,vr,vo,h0,hw,hbt,hd,hr,ho,hR⟩:=h
 obtain rfl:cs=(bu M vw vb vd vr vo).toArray:=by apply Array.toList_inj.1;simpa using h0
 clear h0
 obtain⟨Aw,kw,rfl,_,_⟩:=hw.shape
 obtain⟨Ab,kb,rfl,_,_⟩:=hbt.shape
 obtain⟨Ad,kd,rfl,_,_⟩:=hd.shape
 obtain⟨Ar,kr,rfl,_,_⟩:=hr.shape
 obtain⟨Ao,ko,rfl,_,_⟩:=ho.shape
 obtain⟨q0,q1,q2,q3,q4,q5,q6,q7,q8,q9,R,S,T,U,V,W,X⟩:=hR
 simp only[B8,dB] at q0 q1 q2 q3 q4 q5 q6 q7 q8 q9 R S T U V W X
 have hf1:=hf.words
 have hf2:=hf.bits
 have hf3:=hf.data
 have hf4:=hf.recs
 have hf5:=hf.objects
 refine en 124 Tryz.func205 rfl<|sg<|L0<|dv (mG M.code M.fail M.addr M.count M.value M.and_ M.or_ M.addr2 M.sub M.status M.events M.messages (.slice Aw M.words.length kw) (.slice Ab M.bits.length kb) (.slice Ad M.data.length kd) (.slice Ar M.recs.length kr) M.mei M.kind M.level M.more M.next (.slice Ao M.objects.length ko)) fun aY aZ b0 A d=>Pl 1<|ng<|Pl 1<|L0<|aP A 12<|Pl 2<|nt<|?_
 refine sg<|Pl 1<|L0<|Oi (2*((M.words.length:Nat) : Int))<|Pl 1<|L0<|cK (m:=1) (e:=5) #[.int .u8 ((2*((M.words.length:Nat) : Int))%256)] fun b1 b2 Y Z f=>?_
 have B:=cN Y (xs:=[((2*((M.words.length:Nat) : Int))%256)]) (by as_aux_lemma=>kernel_rfl) (am (by omega) aJ) (by(try simp only[List.length_cons,List.length_nil]);omega) Z
 refine Pl 1<|?_
 have C:=ub f A
 refine L0<|aP C 12<|?_
 have D:=aG d f
 refine L0<|Oc<|di (bF (xs:=M.words) (dP.old hw D) (by(try simp only[List.length_cons,List.length_nil]);omega)) fun b3 b4 b5 E b6 b7 a=>Pl 2<|ng<|Pl 3<|nt<|sq<|sg<|Pl 1<|?_
 have b:=ub a C
 refine L0<|aP b 0<|Pl 1<|nt<|bk<|sg<|Pl 3<|?_
 have i:(!(dir==0))=true:=by simp only[hd0,Bool.not_true,Bool.not_false]
 refine sy 27 i<|Pl 3<|cu 3 [30] 33 (((M.code==3)||(M.code==4))) (fun K F=>?_) ?_
 refine bl 30 ((M.code==3)) (fun n=>?_) (fun n=>?_)
 have a0:=ae n
 exact Pl 3<|ce F true (by rw[n];rfl)
 have a0:=ak n
 exact Pl 3<|ce F (M.code==4) (by rw[n];rfl)
 refine Pl 1<|cu 3 [34] 37 ((((M.code==3)||(M.code==4))||(M.code==23))) (fun K G=>?_) ?_
 refine bl 34 (((M.code==3)||(M.code==4))) (fun o=>?_) (fun o=>?_)
 exact Pl 3<|ce G true (by rw[o];rfl)
 have a1:=(aH o).1
 have a2:=(aH o).2
 have b8:=ak a1
 have b9:=ak a2
 exact Pl 3<|ce G (M.code==23) (by rw[o];rfl)
 refine Pl 2<|nt<|?_
 have p:=aG D a
 refine cb ((((M.code==3)||(M.code==4))||(M.code==23))) (fun c=>?_) (fun c=>?_)
 refine sg<|Pl 2<|?_
 refine L0<|bE aV (xs:=([((2*((M.words.length:Nat) : Int))%256)])) (ys:=(aE M.words)) (.int .u8 0) 1 (aq B a (fun x hx=>aA) (fun _ _ h=>h)) (E).rd (by(try simp only[List.length_append,List.length_cons,List.length_nil,ay]);omega) (le f.size a.size) fun a3 a4 ba a5 a6=>Pl 1<|nt<|rt<|br<|tr<|rr (.slice a3 (([((2*((M.words.length:Nat) : Int))%256)]++(aE M.words)).length) a4)<|?_
 have hs:bK dir M=([((2*((M.words.length:Nat) : Int))%256)]++(aE M.words)):=by
   unfold bK
   (try simp only[hd0,i,c,bs,if_true,if_false,decide_true,decide_false,reduceIte])
   all_goals rfl
 rw[hs]
 exact⟨_,rfl,(aW.weaken a5 d.size),(ut p a6 (al (aM B d.size) av))⟩
 have j:=(aH c).1
 have k:=(aH c).2
 have q:=(aH j).1
 have r:=(aH j).2
 have q40aap:=ak q
 have q40abp:=ak r
 have bb:=ak k
 refine sg<|Pl 3<|nt<|cb ((M.code==6)) (fun g=>?_) (fun g=>?_)
 have a7:=ae g
 refine sg<|Pl 1<|L0<|aP b 2<|Pl 1<|L0<|aP b 4<|L0<|cK (m:=2) (e:=24) #[.int .u16 M.addr,.int .u16 M.value] fun bc bd a8 a9 H=>?_
 have aa:=dc a8 (xs:=[M.addr,M.value]) (by as_aux_lemma=>kernel_rfl) (am (by omega) (am (by omega) aJ)) (by(try simp only[List.length_cons,List.length_nil]);omega) a9
 refine L0<|Oc<|di (bF (xs:=[M.addr,M.value]) (aa).rd (by(try simp only[List.length_cons,List.length_nil]);omega)) fun ab ac be ad bf bg af=>Pl 1<|nt<|rt<|br<|tr<|rr (.slice ab ((aE ([M.addr,M.value])).length) ac)<|?_
 have hs:bK dir M=(aE ([M.addr,M.value])):=by
   unfold bK
   (try simp only[hd0,i,c,j,q,r,k,g,bs,if_true,if_false,decide_true,decide_false,reduceIte])
   all_goals rfl
 rw[hs]
 exact⟨_,rfl,(aW.weaken ad (le (le (le d.size f.size) a.size) H.size)),(aG p (aG H af))⟩
 have a7:=ak g
 refine sg<|Pl 3<|nt<|cb ((M.code==22)) (fun l=>?_) (fun l=>?_)
 have ag:=ae l
 refine sg<|Pl 1<|L0<|aP b 2<|Pl 1<|L0<|aP b 5<|Pl 1<|L0<|aP b 6<|L0<|cK (m:=3) (e:=24) #[.int .u16 M.addr,.int .u16 M.and_,.int .u16 M.or_] fun bh bi ah ai I=>?_
 have aj:=dc ah (xs:=[M.addr,M.and_,M.or_]) (by as_aux_lemma=>kernel_rfl) (am (by omega) (am (by omega) (am (by omega) aJ))) (by(try simp only[List.length_cons,List.length_nil]);omega) ai
 refine L0<|Oc<|di (bF (xs:=[M.addr,M.and_,M.or_]) (aj).rd (by(try simp only[List.length_cons,List.length_nil]);omega)) fun an ao bj ap bm bo ar=>Pl 1<|nt<|rt<|br<|tr<|rr (.slice an ((aE ([M.addr,M.and_,M.or_])).length) ao)<|?_
 have hs:bK dir M=(aE ([M.addr,M.and_,M.or_])):=by
   unfold bK
   (try simp only[hd0,i,c,j,q,r,k,g,l,bs,if_true,if_false,decide_true,decide_false,reduceIte])
   all_goals rfl
 rw[hs]
 exact⟨_,rfl,(aW.weaken ap (le (le (le d.size f.size) a.size) I.size)),(aG p (aG I ar))⟩
 have ag:=ak l
 refine sg<|Pl 3<|cu 2 [65] 67 (((M.code==16)&&(dir==0))) (fun K J=>?_) ?_
 refine bl 65 ((M.code==16)) (fun s=>?_) (fun s=>?_)
 have au:=ae s
 exact Pl 2<|ce J (dir==0) (by rw[s];rfl)
 have au:=ak s
 exact Pl 2<|ce J false (by rw[s];rfl)
 refine Pl 1<|nt<|?_
 have v:((M.code==16)&&(dir==0))=false:=by simp only[hd0,bs]
 refine cf v<|sg<|Pl 3<|nt<|cf k<|sg<|Pl 3<|cu 2 [98] 100 (((M.code==24)&&(dir==0))) (fun K L=>?_) ?_
 refine bl 98 ((M.code==24)) (fun t=>?_) (fun t=>?_)
 have aw:=ae t
 exact Pl 2<|ce L (dir==0) (by rw[t];rfl)
 have aw:=ak t
 exact Pl 2<|ce L false (by rw[t];rfl)
 refine Pl 1<|nt<|?_
 have y:((M.code==24)&&(dir==0))=false:=by simp only[hd0,bs]
 refine cf y<|sg<|Pl 3<|nt<|cb ((M.code==24)) (fun u=>?_) (fun u=>?_)
 have ax:=ae u
 refine sg<|Pl 1<|L0<|Oi (2*((M.words.length:Nat) : Int))<|L0<|Oi (2+(2*((M.words.length:Nat) : Int)))<|Pl 3<|L0<|cK (m:=2) (e:=24) #[.int .u16 ((2+(2*((M.words.length:Nat) : Int)))%65536),.int .u16 (((M.words.length:Nat) : Int)%65536)] fun bp bq az aB z=>?_
 have aC:=dc az (xs:=[((2+(2*((M.words.length:Nat) : Int)))%65536),(((M.words.length:Nat) : Int)%65536)]) (by as_aux_lemma=>kernel_rfl) (am (by omega) (am (by omega) aJ)) (by(try simp only[List.length_cons,List.length_nil]);omega) aB
 refine L0<|Oc<|di (bF (xs:=[((2+(2*((M.words.length:Nat) : Int)))%65536),(((M.words.length:Nat) : Int)%65536)]) (aC).rd (by(try simp only[List.length_cons,List.length_nil]);omega)) fun bt bv bw N bx bz O=>Pl 1<|?_
 have P:=aG z O
 refine L0<|bE aV (xs:=(aE ([((2+(2*((M.words.length:Nat) : Int)))%65536),(((M.words.length:Nat) : Int)%65536)]))) (ys:=(aE M.words)) (.int .u8 0) 1 N ((aq E P (fun x hx=>aA) (fun _ _ h=>h))).rd (by(try simp only[List.length_append,List.length_cons,List.length_nil,ay]);omega) O.size fun aD aF bA aI aK=>Pl 1<|nt<|rt<|br<|tr<|rr (.slice aD (((aE ([((2+(2*((M.words.length:Nat) : Int)))%65536),(((M.words.length:Nat) : Int)%65536)]))++(aE M.words)).length) aF)<|?_
 have hs:bK dir M=((aE ([((2+(2*((M.words.length:Nat) : Int)))%65536),(((M.words.length:Nat) : Int)%65536)]))++(aE M.words)):=by
   unfold bK
   (try simp only[hd0,i,c,j,q,r,k,g,l,v,y,u,bs,if_true,if_false,decide_true,decide_false,reduceIte])
   all_goals rfl
 rw[hs]
 exact⟨_,rfl,(aW.weaken aI (le (le (le d.size f.size) a.size) z.size)),(aG p (ut P aK (al (aM N z.size) av)))⟩
 have ax:=ak u
 refine sk<|bn<|tn<|sg<|Pl 1<|L0<|aP b 2<|Pl 1<|L0<|aP b 3<|L0<|cK (m:=2) (e:=24) #[.int .u16 M.addr,.int .u16 M.count] fun bB bC aL aO Q=>?_
 have aR:=dc aL (xs:=[M.addr,M.count]) (by as_aux_lemma=>kernel_rfl) (am (by omega) (am (by omega) aJ)) (by(try simp only[List.length_cons,List.length_nil]);omega) aO
 refine L0<|Oc<|di (bF (xs:=[M.addr,M.count]) (aR).rd (by(try simp only[List.length_cons,List.length_nil]);omega)) fun aS aT bD aU bG bH aX=>Pl 1<|nt<|rt<|rr (.slice aS ((aE ([M.addr,M.count])).length) aT)<|?_
 have hs:bK dir M=(aE ([M.addr,M.count])):=by
   unfold bK
   (try simp only[hd0,i,c,j,q,r,k,g,l,v,y,u,bs,if_true,if_false,decide_true,decide_false,reduceIte])
   all_goals rfl
 rw[hs]
 exact⟨_,rfl,(aW.weaken aU (le (le (le d.size f.size) a.size) Q.size)),(aG p (aG Q aX))⟩
theorem tc{m:Md}{cs:Array Value}{M:aQ}{w:World}{dir:Int}(h:aN m w cs.toList M)(hf:bM M) : Calls Tryz.prog 205 #[.int .i64 dir,.agg cs] w (fm (bK dir M) w):=by
  rcases dU (dir==0) with h0|h0
  · exact pg h hf h0
  · exact pD h hf h0
end Go.Proofs.YtogbnemojakcpaaGreat
