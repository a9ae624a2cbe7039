/- Contracts of functions, part CStreamHolds3. -/
import Derived.Test.YtpglhicfhppaiaaGreatCStreamHolds1
import Derived.Test.YtpglhicfhppaiaaGreatCStreamHolds2
import Derived.RangeFuncRecord
import Derived.RangeFuncLeaves
import Derived.RangeFuncCalls
set_option linter.unusedVariables false
set_option linter.unusedSimpArgs false
set_option maxRecDepth 100000
set_option maxHeartbeats 4000000
namespace Go.Proofs.YtpglhicfhppaiaaGreat
open Go.RowKit
def aQ (dir c:Int)(C:al) : Option (al × aT) :=
  if c==8 then some (dx dir c C)
  else if c==7 || c==11 || c==12 || c==17 then (if dir==1 then some (bD c C) else some (C,{ aT.zero with code:=c }))
  else none
theorem mD{m:Bool}{A:Option Addr}{cp:Nat}{b:List Int}{w:World}{c:Int}(hcode:B8 c)(hsl:aS m w (.slice A b.length cp) b)(hb:b.length≤1048576) :
    Calls Tryz.prog 62 #[.int .i64 0,.int .u8 c,.slice A b.length cp] w (dC (aq aQ 0 c b) w):=by
 obtain⟨hcode1,hcode2⟩:=hcode
 have hln:(b.length:Int)≤1048576:=by omega
 refine en 47 Tryz.func62 rfl<|sg<|L0<|bN mZ fun b3 b4 j i O=>Pl 1<|nt<|sq<|sg<|Pl 6<|nt<|c0<|?_
 refine bK<|sg<|Pl 2<|L0<|bN mZ fun b5 b6 q P aa=>L0<|bi P (mC c) fun b9 r Q=>ng<|Pl 1<|?_
 have g:=ud aa Q q
 have n:=aD O g
 refine L0<|Oc<|e3 (dq (aS.old hsl n) (by omega)) fun ba bb a s d=>Pl 1<|nt<|sq<|sg<|Pl 1<|nt<|bk<|sg<|Pl 2<|nl<|?_
 refine tn<|?_
 have o:=aD n d
 refine cb ((c==8)) (fun f=>?_) (fun f=>?_)
 have ad:=ax f
 refine go<|Pl 2<|?_
 have R:=nb (am P) Q.size a
 refine L0<|Oc<|m3 (nB (dir:=0) (c:=c) ⟨hcode1,hcode2⟩ s (ub d r) (Ne.symm R)) fun bc ae af S=>?_
 obtain⟨ai,B,C⟩:=af
 refine ab ae fun x41 T U=>?_
 refine nl<|bn<|tn<|sg<|Pl 1<|L0<|Oc<|m2 (bQ U) fun bd V D=>nt<|sq<|sg<|Pl 1<|L0<|Oc<|mq (bp V)<|?_
 have be:=ag.len V
 refine Pl 1<|ng<|Pl 2<|nt<|?_
 have E:=u1 S D im
 have W:=ut o E (ac (ni n.size a) (ac (ni O.size q) au))
 refine cb ((x41.endC.e != 0)) (fun t=>?_) (fun t=>?_)
 have F:=aB t
 refine sg<|Pl 2<|?_
 refine L0<|bi (ub (ud g (ud d E a) q) i) mZ fun bf ak an=>Pl 1<|nt<|rt<|tr<|d9 ak (.int .i64 x41.endC.e)<|?_
 subst T
 have hs:aq aQ 0 c b=b7 ((dx 0 c (al.mk b false 0)).2) ((dx 0 c (al.mk b false 0)).1):=by
   unfold aq aQ
   (try simp only[f,t,bs,if_true,if_false,decide_true,decide_false,eq_self,true_or,or_true,or_false,false_or,if_true,if_false,dR,dM,dN,dP,reduceIte])
   all_goals rfl
 rw[hs]
 exact bg F (ud W an j)
 have F:=ah t
 refine bK<|sg<|?_
 refine L0<|cj (hz:=(by rw[B.2];exact aV)) (aY D R B.1)<|?_
 refine L0<|bi (hz:=(by rw[B.2];exact aV)) (hv:=C.size) (h1:=C.one) (ub (ud g (ud d E a) q) i) (ai) fun bh ao X=>Pl 1<|nt<|rt<|fc 22 B.2 ao (.int .i64 0)<|?_
 subst T
 have hs:aq aQ 0 c b=b7 ((dx 0 c (al.mk b false 0)).2) ((dx 0 c (al.mk b false 0)).1):=by
   unfold aq aQ
   (try simp only[f,t,bs,if_true,if_false,decide_true,decide_false,eq_self,true_or,or_true,or_false,false_or,if_true,if_false,dR,dM,dN,dP,reduceIte])
   all_goals rfl
 rw[hs]
 exact bt F (aF.upd C (us D X) (aj (ag.safe U _ (by decide)) (aj (aM (ub (ud g (ud d S a) q) i) (by decide)) aE))) (ud W X j)
 have ad:=aA f
 refine sq<|sg<|Pl 2<|nt<|cb ((c==7)) (fun h=>?_) (fun h=>?_)
 have ap:=ax h
 refine bK<|ct h<|sg<|Pl 2<|nt<|c0<|sk<|bn<|tn<|sg<|?_
 refine Pl 1<|L0<|Oc<|m2 (bQ s) fun bj Y G=>nt<|sq<|sg<|Pl 1<|L0<|Oc<|mq (bp Y)<|?_
 have bl:=ag.len Y
 refine Pl 1<|ng<|Pl 2<|nt<|?_
 have Z:=ud o G (le n.size a)
 refine cb (((((al.mk b false 0).endC).e)!=0)) (fun u=>?_) (fun u=>?_)
 have H:=aB u
 refine sg<|Pl 2<|?_
 refine L0<|bi (ub (aD g (ud d G a)) i) mZ fun bm ar av=>Pl 1<|nt<|rt<|tr<|d9 ar (.int .i64 (((al.mk b false 0).endC).e))<|?_
 have hs:aq aQ 0 c b=b7 (aT.mk c 0 0 0 0 0 0 0 0 0 0 0 [] [] [] [] 0 0 0 0 0 []) (al.mk b false 0):=by
   unfold aq aQ
   (try simp only[f,h,u,bs,if_true,if_false,decide_true,decide_false,eq_self,true_or,or_true,or_false,false_or,if_true,if_false,dR,dM,dN,dP,reduceIte])
   all_goals rfl
 rw[hs]
 exact bg H (ud Z av j)
 have H:=ah u
 refine bK<|sg<|?_
 have a0:=ud d G a
 refine L0<|cj (ub a0 r)<|?_
 refine L0<|bi (ub (aD g a0) i) (mC c) fun bo aw ay=>Pl 1<|nt<|rt<|d9 aw (.int .i64 0)<|?_
 have hs:aq aQ 0 c b=b7 (aT.mk c 0 0 0 0 0 0 0 0 0 0 0 [] [] [] [] 0 0 0 0 0 []) (al.mk b false 0):=by
   unfold aq aQ
   (try simp only[f,h,u,bs,if_true,if_false,decide_true,decide_false,eq_self,true_or,or_true,or_false,false_or,if_true,if_false,dR,dM,dN,dP,reduceIte])
   all_goals rfl
 rw[hs]
 exact bt H ⟨_,_,_,_,_,rfl,aR.nil ..,aR.nil ..,aR.nil ..,aR.nil ..,aR.nil ..,⟨(b8 (x:=c) (by omega)),(b8 (x:=0) (by omega)),(aJ (x:=0) (by omega)),(aJ (x:=0) (by omega)),(aJ (x:=0) (by omega)),(aJ (x:=0) (by omega)),(aJ (x:=0) (by omega)),(aJ (x:=0) (by omega)),(aJ (x:=0) (by omega)),(aJ (x:=0) (by omega)),(aJ (x:=0) (by omega)),(aJ (x:=0) (by omega)),(b8 (x:=0) (by omega)),(b8 (x:=0) (by omega)),(b8 (x:=0) (by omega)),(b8 (x:=0) (by omega)),(b8 (x:=0) (by omega))⟩⟩ (ud Z ay j)
 have ap:=aA h
 refine sg<|Pl 2<|nt<|cb ((c==11)) (fun k=>?_) (fun k=>?_)
 have az:=ax k
 refine bK<|ct k<|sg<|Pl 2<|nt<|c0<|sk<|bn<|tn<|sg<|?_
 refine Pl 1<|L0<|Oc<|m2 (bQ s) fun bq a1 I=>nt<|sq<|sg<|Pl 1<|L0<|Oc<|mq (bp a1)<|?_
 have bu:=ag.len a1
 refine Pl 1<|ng<|Pl 2<|nt<|?_
 have a2:=ud o I (le n.size a)
 refine cb (((((al.mk b false 0).endC).e)!=0)) (fun v=>?_) (fun v=>?_)
 have J:=aB v
 refine sg<|Pl 2<|?_
 refine L0<|bi (ub (aD g (ud d I a)) i) mZ fun bv aC aG=>Pl 1<|nt<|rt<|tr<|d9 aC (.int .i64 (((al.mk b false 0).endC).e))<|?_
 have hs:aq aQ 0 c b=b7 (aT.mk c 0 0 0 0 0 0 0 0 0 0 0 [] [] [] [] 0 0 0 0 0 []) (al.mk b false 0):=by
   unfold aq aQ
   (try simp only[f,h,k,v,bs,if_true,if_false,decide_true,decide_false,eq_self,true_or,or_true,or_false,false_or,if_true,if_false,dR,dM,dN,dP,reduceIte])
   all_goals rfl
 rw[hs]
 exact bg J (ud a2 aG j)
 have J:=ah v
 refine bK<|sg<|?_
 have a3:=ud d I a
 refine L0<|cj (ub a3 r)<|?_
 refine L0<|bi (ub (aD g a3) i) (mC c) fun bw aH aI=>Pl 1<|nt<|rt<|d9 aH (.int .i64 0)<|?_
 have hs:aq aQ 0 c b=b7 (aT.mk c 0 0 0 0 0 0 0 0 0 0 0 [] [] [] [] 0 0 0 0 0 []) (al.mk b false 0):=by
   unfold aq aQ
   (try simp only[f,h,k,v,bs,if_true,if_false,decide_true,decide_false,eq_self,true_or,or_true,or_false,false_or,if_true,if_false,dR,dM,dN,dP,reduceIte])
   all_goals rfl
 rw[hs]
 exact bt J ⟨_,_,_,_,_,rfl,aR.nil ..,aR.nil ..,aR.nil ..,aR.nil ..,aR.nil ..,⟨(b8 (x:=c) (by omega)),(b8 (x:=0) (by omega)),(aJ (x:=0) (by omega)),(aJ (x:=0) (by omega)),(aJ (x:=0) (by omega)),(aJ (x:=0) (by omega)),(aJ (x:=0) (by omega)),(aJ (x:=0) (by omega)),(aJ (x:=0) (by omega)),(aJ (x:=0) (by omega)),(aJ (x:=0) (by omega)),(aJ (x:=0) (by omega)),(b8 (x:=0) (by omega)),(b8 (x:=0) (by omega)),(b8 (x:=0) (by omega)),(b8 (x:=0) (by omega)),(b8 (x:=0) (by omega))⟩⟩ (ud a2 aI j)
 have az:=aA k
 refine sg<|Pl 2<|nt<|cb ((c==12)) (fun l=>?_) (fun l=>?_)
 have aK:=ax l
 refine bK<|ct l<|sg<|Pl 2<|nt<|c0<|sk<|bn<|tn<|sg<|?_
 refine Pl 1<|L0<|Oc<|m2 (bQ s) fun bx a4 K=>nt<|sq<|sg<|Pl 1<|L0<|Oc<|mq (bp a4)<|?_
 have bz:=ag.len a4
 refine Pl 1<|ng<|Pl 2<|nt<|?_
 have a5:=ud o K (le n.size a)
 refine cb (((((al.mk b false 0).endC).e)!=0)) (fun y=>?_) (fun y=>?_)
 have L:=aB y
 refine sg<|Pl 2<|?_
 refine L0<|bi (ub (aD g (ud d K a)) i) mZ fun bA aL aN=>Pl 1<|nt<|rt<|tr<|d9 aL (.int .i64 (((al.mk b false 0).endC).e))<|?_
 have hs:aq aQ 0 c b=b7 (aT.mk c 0 0 0 0 0 0 0 0 0 0 0 [] [] [] [] 0 0 0 0 0 []) (al.mk b false 0):=by
   unfold aq aQ
   (try simp only[f,h,k,l,y,bs,if_true,if_false,decide_true,decide_false,eq_self,true_or,or_true,or_false,false_or,if_true,if_false,dR,dM,dN,dP,reduceIte])
   all_goals rfl
 rw[hs]
 exact bg L (ud a5 aN j)
 have L:=ah y
 refine bK<|sg<|?_
 have a6:=ud d K a
 refine L0<|cj (ub a6 r)<|?_
 refine L0<|bi (ub (aD g a6) i) (mC c) fun bB aO aP=>Pl 1<|nt<|rt<|d9 aO (.int .i64 0)<|?_
 have hs:aq aQ 0 c b=b7 (aT.mk c 0 0 0 0 0 0 0 0 0 0 0 [] [] [] [] 0 0 0 0 0 []) (al.mk b false 0):=by
   unfold aq aQ
   (try simp only[f,h,k,l,y,bs,if_true,if_false,decide_true,decide_false,eq_self,true_or,or_true,or_false,false_or,if_true,if_false,dR,dM,dN,dP,reduceIte])
   all_goals rfl
 rw[hs]
 exact bt L ⟨_,_,_,_,_,rfl,aR.nil ..,aR.nil ..,aR.nil ..,aR.nil ..,aR.nil ..,⟨(b8 (x:=c) (by omega)),(b8 (x:=0) (by omega)),(aJ (x:=0) (by omega)),(aJ (x:=0) (by omega)),(aJ (x:=0) (by omega)),(aJ (x:=0) (by omega)),(aJ (x:=0) (by omega)),(aJ (x:=0) (by omega)),(aJ (x:=0) (by omega)),(aJ (x:=0) (by omega)),(aJ (x:=0) (by omega)),(aJ (x:=0) (by omega)),(b8 (x:=0) (by omega)),(b8 (x:=0) (by omega)),(b8 (x:=0) (by omega)),(b8 (x:=0) (by omega)),(b8 (x:=0) (by omega))⟩⟩ (ud a5 aP j)
 have aK:=aA l
 refine go<|Pl 2<|nt<|cb ((c==17)) (fun p=>?_) (fun p=>?_)
 have aU:=ax p
 refine sg<|Pl 2<|nt<|c0<|sk<|bn<|tn<|sg<|Pl 1<|L0<|Oc<|m2 (bQ s) fun bC a7 M=>nl<|?_
 refine tn<|sq<|sg<|Pl 1<|L0<|Oc<|mq (bp a7)<|?_
 have bD:=ag.len a7
 refine Pl 1<|ng<|Pl 2<|nt<|?_
 have a8:=ud o M (le n.size a)
 refine cb (((((al.mk b false 0).endC).e)!=0)) (fun z=>?_) (fun z=>?_)
 have N:=aB z
 refine sg<|Pl 2<|?_
 refine L0<|bi (ub (aD g (ud d M a)) i) mZ fun bE aW aX=>Pl 1<|nt<|rt<|tr<|d9 aW (.int .i64 (((al.mk b false 0).endC).e))<|?_
 have hs:aq aQ 0 c b=b7 (aT.mk c 0 0 0 0 0 0 0 0 0 0 0 [] [] [] [] 0 0 0 0 0 []) (al.mk b false 0):=by
   unfold aq aQ
   (try simp only[f,h,k,l,p,z,bs,if_true,if_false,decide_true,decide_false,eq_self,true_or,or_true,or_false,false_or,if_true,if_false,dR,dM,dN,dP,reduceIte])
   all_goals rfl
 rw[hs]
 exact bg N (ud a8 aX j)
 have N:=ah z
 refine bK<|sg<|?_
 have a9:=ud d M a
 refine L0<|cj (ub a9 r)<|?_
 refine L0<|bi (ub (aD g a9) i) (mC c) fun bF aZ b0=>Pl 1<|nt<|rt<|d9 aZ (.int .i64 0)<|?_
 have hs:aq aQ 0 c b=b7 (aT.mk c 0 0 0 0 0 0 0 0 0 0 0 [] [] [] [] 0 0 0 0 0 []) (al.mk b false 0):=by
   unfold aq aQ
   (try simp only[f,h,k,l,p,z,bs,if_true,if_false,decide_true,decide_false,eq_self,true_or,or_true,or_false,false_or,if_true,if_false,dR,dM,dN,dP,reduceIte])
   all_goals rfl
 rw[hs]
 exact bt N ⟨_,_,_,_,_,rfl,aR.nil ..,aR.nil ..,aR.nil ..,aR.nil ..,aR.nil ..,⟨(b8 (x:=c) (by omega)),(b8 (x:=0) (by omega)),(aJ (x:=0) (by omega)),(aJ (x:=0) (by omega)),(aJ (x:=0) (by omega)),(aJ (x:=0) (by omega)),(aJ (x:=0) (by omega)),(aJ (x:=0) (by omega)),(aJ (x:=0) (by omega)),(aJ (x:=0) (by omega)),(aJ (x:=0) (by omega)),(aJ (x:=0) (by omega)),(b8 (x:=0) (by omega)),(b8 (x:=0) (by omega)),(b8 (x:=0) (by omega)),(b8 (x:=0) (by omega)),(b8 (x:=0) (by omega))⟩⟩ (ud a8 b0 j)
 have aU:=aA p
 refine sg<|Pl 1<|?_
 refine L0<|bi (ub (aD g d) i) mZ fun bG b1 b2=>Pl 1<|nt<|rt<|br<|tr<|d9 b1 (.int .i64 4)<|?_
 have hs:aq aQ 0 c b=(aT.zero,4):=by
   unfold aq aQ
   (try simp only[f,h,k,l,p,bs,if_true,if_false,decide_true,decide_false,eq_self,true_or,or_true,or_false,false_or,if_true,if_false,dR,dM,dN,dP,reduceIte])
   all_goals rfl
 rw[hs]
 exact bV (ud o b2 j)
theorem nc{m:Bool}{A:Option Addr}{cp:Nat}{b:List Int}{w:World}{c:Int}(hcode:B8 c)(hsl:aS m w (.slice A b.length cp) b)(hb:b.length≤1048576) :
    Calls Tryz.prog 62 #[.int .i64 1,.int .u8 c,.slice A b.length cp] w (dC (aq aQ 1 c b) w):=by
 obtain⟨hcode1,hcode2⟩:=hcode
 have hln:(b.length:Int)≤1048576:=by omega
 refine en 47 Tryz.func62 rfl<|sg<|L0<|bN mZ fun bR bS k h p=>Pl 1<|nt<|sq<|sg<|Pl 6<|nt<|c0<|?_
 refine bK<|sg<|Pl 2<|L0<|bN mZ fun bT bU f q b1=>L0<|bi q (mC c) fun bW u r=>ng<|Pl 1<|?_
 have g:=ud b1 r f
 have o:=aD p g
 refine L0<|Oc<|e3 (dq (aS.old hsl o) (by omega)) fun bX bY a v d=>Pl 1<|nt<|sq<|sg<|Pl 1<|nt<|bk<|sg<|Pl 2<|nl<|?_
 refine tn<|?_
 have s:=aD o d
 refine cb ((c==8)) (fun i=>?_) (fun i=>?_)
 have b2:=ax i
 refine go<|Pl 2<|?_
 have a2:=nb (am q) r.size a
 refine L0<|Oc<|m3 (nB (dir:=1) (c:=c) ⟨hcode1,hcode2⟩ v (ub d u) (Ne.symm a2)) fun bZ b3 b4 a3=>?_
 obtain⟨b5,D,I⟩:=b4
 refine ab b3 fun x41 a4 a5=>?_
 refine nl<|bn<|tn<|sg<|Pl 1<|L0<|Oc<|m2 (bQ a5) fun c2 a6 J=>nt<|sq<|sg<|Pl 1<|L0<|Oc<|mq (bp a6)<|?_
 have c3:=ag.len a6
 refine Pl 1<|ng<|Pl 2<|nt<|?_
 have K:=u1 a3 J im
 have a7:=ut s K (ac (ni o.size a) (ac (ni p.size f) au))
 refine cb ((x41.endC.e != 0)) (fun x=>?_) (fun x=>?_)
 have L:=aB x
 refine sg<|Pl 2<|?_
 refine L0<|bi (ub (ud g (ud d K a) f) h) mZ fun c4 b6 b8=>Pl 1<|nt<|rt<|tr<|d9 b6 (.int .i64 x41.endC.e)<|?_
 subst a4
 have hs:aq aQ 1 c b=b7 ((dx 1 c (al.mk b false 0)).2) ((dx 1 c (al.mk b false 0)).1):=by
   unfold aq aQ
   (try simp only[i,x,bs,if_true,if_false,decide_true,decide_false,eq_self,true_or,or_true,or_false,false_or,if_true,if_false,dR,dM,dN,dP,reduceIte])
   all_goals rfl
 rw[hs]
 exact bg L (ud a7 b8 k)
 have L:=ah x
 refine bK<|sg<|?_
 refine L0<|cj (hz:=(by rw[D.2];exact aV)) (aY J a2 D.1)<|?_
 refine L0<|bi (hz:=(by rw[D.2];exact aV)) (hv:=I.size) (h1:=I.one) (ub (ud g (ud d K a) f) h) (b5) fun c5 b9 a8=>Pl 1<|nt<|rt<|fc 22 D.2 b9 (.int .i64 0)<|?_
 subst a4
 have hs:aq aQ 1 c b=b7 ((dx 1 c (al.mk b false 0)).2) ((dx 1 c (al.mk b false 0)).1):=by
   unfold aq aQ
   (try simp only[i,x,bs,if_true,if_false,decide_true,decide_false,eq_self,true_or,or_true,or_false,false_or,if_true,if_false,dR,dM,dN,dP,reduceIte])
   all_goals rfl
 rw[hs]
 exact bt L (aF.upd I (us J a8) (aj (ag.safe a5 _ (by decide)) (aj (aM (ub (ud g (ud d a3 a) f) h) (by decide)) aE))) (ud a7 a8 k)
 have b2:=aA i
 refine sq<|sg<|Pl 2<|nt<|cb ((c==7)) (fun j=>?_) (fun j=>?_)
 have ba:=ax j
 refine bK<|ct j<|sg<|Pl 2<|nt<|c1<|go<|Pl 1<|?_
 have a9:=nb (am q) r.size a
 refine L0<|Oc<|m3 (fX (c:=c) ⟨hcode1,hcode2⟩ v (ub d u) (Ne.symm a9)) fun c6 bb bc aa=>?_
 obtain⟨bd,E,M⟩:=bc
 refine ab bb fun x81 ad ae=>?_
 refine nl<|bn<|tn<|sg<|Pl 1<|L0<|Oc<|m2 (bQ ae) fun c7 af N=>nt<|sq<|sg<|Pl 1<|L0<|Oc<|mq (bp af)<|?_
 have c8:=ag.len af
 refine Pl 1<|ng<|Pl 2<|nt<|?_
 have O:=u1 aa N im
 have ai:=ut s O (ac (ni o.size a) (ac (ni p.size f) au))
 refine cb ((x81.endC.e != 0)) (fun y=>?_) (fun y=>?_)
 have P:=aB y
 refine sg<|Pl 2<|?_
 refine L0<|bi (ub (ud g (ud d O a) f) h) mZ fun c9 be bf=>Pl 1<|nt<|rt<|tr<|d9 be (.int .i64 x81.endC.e)<|?_
 subst ad
 have hs:aq aQ 1 c b=b7 ((bD c (al.mk b false 0)).2) ((bD c (al.mk b false 0)).1):=by
   unfold aq aQ
   (try simp only[i,j,y,bs,if_true,if_false,decide_true,decide_false,eq_self,true_or,or_true,or_false,false_or,if_true,if_false,dR,dM,dN,dP,reduceIte])
   all_goals rfl
 rw[hs]
 exact bg P (ud ai bf k)
 have P:=ah y
 refine bK<|sg<|?_
 refine L0<|cj (hz:=(by rw[E.2];exact aV)) (aY N a9 E.1)<|?_
 refine L0<|bi (hz:=(by rw[E.2];exact aV)) (hv:=M.size) (h1:=M.one) (ub (ud g (ud d O a) f) h) (bd) fun ca bh ak=>Pl 1<|nt<|rt<|fc 22 E.2 bh (.int .i64 0)<|?_
 subst ad
 have hs:aq aQ 1 c b=b7 ((bD c (al.mk b false 0)).2) ((bD c (al.mk b false 0)).1):=by
   unfold aq aQ
   (try simp only[i,j,y,bs,if_true,if_false,decide_true,decide_false,eq_self,true_or,or_true,or_false,false_or,if_true,if_false,dR,dM,dN,dP,reduceIte])
   all_goals rfl
 rw[hs]
 exact bt P (aF.upd M (us N ak) (aj (ag.safe ae _ (by decide)) (aj (aM (ub (ud g (ud d aa a) f) h) (by decide)) aE))) (ud ai ak k)
 have ba:=aA j
 refine sg<|Pl 2<|nt<|cb ((c==11)) (fun l=>?_) (fun l=>?_)
 have bj:=ax l
 refine bK<|ct l<|sg<|Pl 2<|nt<|c1<|go<|Pl 1<|?_
 have an:=nb (am q) r.size a
 refine L0<|Oc<|m3 (fX (c:=c) ⟨hcode1,hcode2⟩ v (ub d u) (Ne.symm an)) fun cc bl bm ao=>?_
 obtain⟨bo,F,Q⟩:=bm
 refine ab bl fun ap ar av=>?_
 refine nl<|bn<|tn<|sg<|Pl 1<|L0<|Oc<|m2 (bQ av) fun cd aw R=>nt<|sq<|sg<|Pl 1<|L0<|Oc<|mq (bp aw)<|?_
 have ce:=ag.len aw
 refine Pl 1<|ng<|Pl 2<|nt<|?_
 have S:=u1 ao R im
 have ay:=ut s S (ac (ni o.size a) (ac (ni p.size f) au))
 refine cb ((ap.endC.e != 0)) (fun z=>?_) (fun z=>?_)
 have T:=aB z
 refine sg<|Pl 2<|?_
 refine L0<|bi (ub (ud g (ud d S a) f) h) mZ fun cf bq bu=>Pl 1<|nt<|rt<|tr<|d9 bq (.int .i64 ap.endC.e)<|?_
 subst ar
 have hs:aq aQ 1 c b=b7 ((bD c (al.mk b false 0)).2) ((bD c (al.mk b false 0)).1):=by
   unfold aq aQ
   (try simp only[i,j,l,z,bs,if_true,if_false,decide_true,decide_false,eq_self,true_or,or_true,or_false,false_or,if_true,if_false,dR,dM,dN,dP,reduceIte])
   all_goals rfl
 rw[hs]
 exact bg T (ud ay bu k)
 have T:=ah z
 refine bK<|sg<|?_
 refine L0<|cj (hz:=(by rw[F.2];exact aV)) (aY R an F.1)<|?_
 refine L0<|bi (hz:=(by rw[F.2];exact aV)) (hv:=Q.size) (h1:=Q.one) (ub (ud g (ud d S a) f) h) (bo) fun cg bv az=>Pl 1<|nt<|rt<|fc 22 F.2 bv (.int .i64 0)<|?_
 subst ar
 have hs:aq aQ 1 c b=b7 ((bD c (al.mk b false 0)).2) ((bD c (al.mk b false 0)).1):=by
   unfold aq aQ
   (try simp only[i,j,l,z,bs,if_true,if_false,decide_true,decide_false,eq_self,true_or,or_true,or_false,false_or,if_true,if_false,dR,dM,dN,dP,reduceIte])
   all_goals rfl
 rw[hs]
 exact bt T (aF.upd Q (us R az) (aj (ag.safe av _ (by decide)) (aj (aM (ub (ud g (ud d ao a) f) h) (by decide)) aE))) (ud ay az k)
 have bj:=aA l
 refine sg<|Pl 2<|nt<|cb ((c==12)) (fun n=>?_) (fun n=>?_)
 have bw:=ax n
 refine bK<|ct n<|sg<|Pl 2<|nt<|c1<|go<|Pl 1<|?_
 have aC:=nb (am q) r.size a
 refine L0<|Oc<|m3 (fX (c:=c) ⟨hcode1,hcode2⟩ v (ub d u) (Ne.symm aC)) fun ch bx bz aG=>?_
 obtain⟨bA,G,U⟩:=bz
 refine ab bx fun aH aI aJ=>?_
 refine nl<|bn<|tn<|sg<|Pl 1<|L0<|Oc<|m2 (bQ aJ) fun ci aK V=>nt<|sq<|sg<|Pl 1<|L0<|Oc<|mq (bp aK)<|?_
 have ck:=ag.len aK
 refine Pl 1<|ng<|Pl 2<|nt<|?_
 have W:=u1 aG V im
 have aL:=ut s W (ac (ni o.size a) (ac (ni p.size f) au))
 refine cb ((aH.endC.e != 0)) (fun B=>?_) (fun B=>?_)
 have X:=aB B
 refine sg<|Pl 2<|?_
 refine L0<|bi (ub (ud g (ud d W a) f) h) mZ fun cl bB bC=>Pl 1<|nt<|rt<|tr<|d9 bB (.int .i64 aH.endC.e)<|?_
 subst aI
 have hs:aq aQ 1 c b=b7 ((bD c (al.mk b false 0)).2) ((bD c (al.mk b false 0)).1):=by
   unfold aq aQ
   (try simp only[i,j,l,n,B,bs,if_true,if_false,decide_true,decide_false,eq_self,true_or,or_true,or_false,false_or,if_true,if_false,dR,dM,dN,dP,reduceIte])
   all_goals rfl
 rw[hs]
 exact bg X (ud aL bC k)
 have X:=ah B
 refine bK<|sg<|?_
 refine L0<|cj (hz:=(by rw[G.2];exact aV)) (aY V aC G.1)<|?_
 refine L0<|bi (hz:=(by rw[G.2];exact aV)) (hv:=U.size) (h1:=U.one) (ub (ud g (ud d W a) f) h) (bA) fun cm bE aN=>Pl 1<|nt<|rt<|fc 22 G.2 bE (.int .i64 0)<|?_
 subst aI
 have hs:aq aQ 1 c b=b7 ((bD c (al.mk b false 0)).2) ((bD c (al.mk b false 0)).1):=by
   unfold aq aQ
   (try simp only[i,j,l,n,B,bs,if_true,if_false,decide_true,decide_false,eq_self,true_or,or_true,or_false,false_or,if_true,if_false,dR,dM,dN,dP,reduceIte])
   all_goals rfl
 rw[hs]
 exact bt X (aF.upd U (us V aN) (aj (ag.safe aJ _ (by decide)) (aj (aM (ub (ud g (ud d aG a) f) h) (by decide)) aE))) (ud aL aN k)
 have bw:=aA n
 refine go<|Pl 2<|nt<|cb ((c==17)) (fun t=>?_) (fun t=>?_)
 have bF:=ax t
 refine sg<|Pl 2<|nt<|c1<|go<|Pl 1<|?_
 have aO:=nb (am q) r.size a
 refine L0<|Oc<|m3 (fX (c:=c) ⟨hcode1,hcode2⟩ v (ub d u) (Ne.symm aO)) fun cn bG bH aP=>?_
 obtain⟨bI,H,Y⟩:=bH
 refine ab bG fun aR aU aW=>?_
 refine nl<|bn<|tn<|sg<|Pl 1<|L0<|Oc<|m2 (bQ aW) fun co aX Z=>nt<|sq<|sg<|Pl 1<|L0<|Oc<|mq (bp aX)<|?_
 have cq:=ag.len aX
 refine Pl 1<|ng<|Pl 2<|nt<|?_
 have a0:=u1 aP Z im
 have aZ:=ut s a0 (ac (ni o.size a) (ac (ni p.size f) au))
 refine cb ((aR.endC.e != 0)) (fun C=>?_) (fun C=>?_)
 have a1:=aB C
 refine sg<|Pl 2<|?_
 refine L0<|bi (ub (ud g (ud d a0 a) f) h) mZ fun cr bJ bL=>Pl 1<|nt<|rt<|tr<|d9 bJ (.int .i64 aR.endC.e)<|?_
 subst aU
 have hs:aq aQ 1 c b=b7 ((bD c (al.mk b false 0)).2) ((bD c (al.mk b false 0)).1):=by
   unfold aq aQ
   (try simp only[i,j,l,n,t,C,bs,if_true,if_false,decide_true,decide_false,eq_self,true_or,or_true,or_false,false_or,if_true,if_false,dR,dM,dN,dP,reduceIte])
   all_goals rfl
 rw[hs]
 exact bg a1 (ud aZ bL k)
 have a1:=ah C
 refine bK<|sg<|?_
 refine L0<|cj (hz:=(by rw[H.2];exact aV)) (aY Z aO H.1)<|?_
 refine L0<|bi (hz:=(by rw[H.2];exact aV)) (hv:=Y.size) (h1:=Y.one) (ub (ud g (ud d a0 a) f) h) (bI) fun cs bM b0=>Pl 1<|nt<|rt<|fc 22 H.2 bM (.int .i64 0)<|?_
 subst aU
 have hs:aq aQ 1 c b=b7 ((bD c (al.mk b false 0)).2) ((bD c (al.mk b false 0)).1):=by
   unfold aq aQ
   (try simp only[i,j,l,n,t,C,bs,if_true,if_false,decide_true,decide_false,eq_self,true_or,or_true,or_false,false_or,if_true,if_false,dR,dM,dN,dP,reduceIte])
   all_goals rfl
 rw[hs]
 exact bt a1 (aF.upd Y (us Z b0) (aj (ag.safe aW _ (by decide)) (aj (aM (ub (ud g (ud d aP a) f) h) (by decide)) aE))) (ud aZ b0 k)
 have bF:=aA t
 refine sg<|Pl 1<|?_
 refine L0<|bi (ub (aD g d) h) mZ fun cu bO bP=>Pl 1<|nt<|rt<|br<|tr<|d9 bO (.int .i64 4)<|?_
 have hs:aq aQ 1 c b=(aT.zero,4):=by
   unfold aq aQ
   (try simp only[i,j,l,n,t,bs,if_true,if_false,decide_true,decide_false,eq_self,true_or,or_true,or_false,false_or,if_true,if_false,dR,dM,dN,dP,reduceIte])
   all_goals rfl
 rw[hs]
 exact bV (ud s bP k)
theorem mu{m:Bool}{A:Option Addr}{cp:Nat}{b:List Int}{w:World}{dir c:Int}(hcode:B8 c)(hsl:aS m w (.slice A b.length cp) b)(hb:b.length≤1048576)(hd:¬ (dir=0∨dir=1)) :
    Calls Tryz.prog 62 #[.int .i64 dir,.int .u8 c,.slice A b.length cp] w (dC (aq aQ dir c b) w):=by
 obtain⟨hcode1,hcode2⟩:=hcode
 have hln:(b.length:Int)≤1048576:=by omega
 have e0:(dir != 0)=true:=by simp;omega
 have e1:(dir != 1)=true:=by simp;omega
 refine en 47 Tryz.func62 rfl<|sg<|L0<|bN mZ fun g h a d e=>Pl 1<|nt<|sq<|sg<|Pl 3<|sy 13 e0<|Pl 3<|nl<|?_
 refine tn<|ct e1<|sg<|Pl 1<|L0<|bi d mZ fun i dA f=>Pl 1<|nt<|rt<|tr<|d9 dA (.int .i64 1)<|?_
 have hs:aq aQ dir c b=(aT.zero,1):=by
   unfold aq aQ
   (try simp only[e0,e1,bs,if_true,if_false,decide_true,decide_false,eq_self,true_or,or_true,or_false,false_or,if_true,if_false,dR,dM,dN,dP,reduceIte,hd])
   all_goals rfl
 rw[hs]
 exact bV (ud e f a)
theorem l8{m:Bool}{v:Value}{b:List Int}{w:World}{dir c:Int}(hc:B8 c)(h:aS m w v b)(hb:b.length≤1048576) :
    Calls Tryz.prog 62 #[.int .i64 dir,.int .u8 c,v] w (dC (aq aQ dir c b) w):=by
  obtain⟨A,cp,rfl,_,_⟩:=h.shape
  by_cases h0:dir=0
  · subst h0;exact mD hc h hb
  by_cases h1:dir=1
  · subst h1;exact nc hc h hb
  exact mu hc h hb (by omega)
open Go.RowKit
def fw:Nat→al→List Obj→al × List Obj
  | 0,C,L=>(C,L)
  | n+1,C,L=>fw n (((C.bytesC 1).bytesC 1).bytesC (C.bytesC 1).byteV) (L++[⟨C.byteV,((C.bytesC 1).bytesC 1).bytesR (C.bytesC 1).byteV⟩])
def jV (C:al) : al:=(C.bytesC 1).need (bP C.byteV) 6
def mN (C:al) : al:=((jV C).bytesC 1).need ((jV C).byteV==0 || (jV C).byteV==255) 6
def oh (C:al) : al:=((mN C).bytesC 1).need ((jV C).byteV != 0 || (mN C).byteV==0) 6
def x8 (kd:Int)(C:al) : al:=((oh C).bytesC 1).need (kd != 4 || (oh C).byteV==1) 5
def cP (kd:Int)(C:al) : al × List Obj:=fw (oh C).byteV.toNat (x8 kd C) []
theorem rb{g gm:Nat}{c me kd:Int}{C0:al}{w:World}(hcode:B8 c)(hme:B8 me)(hkd:B8 kd)(hC:ag w g C0)(hm:w.heap[gm]? = some (.cells #[.int .u8 c,.int .u8 0,.int .u16 0,.int .u16 0,.int .u16 0,.int .u16 0,.int .u16 0,.int .u16 0,.int .u16 0,.int .u16 0,.int .u16 0,.int .u16 0,.slice none 0 0,.slice none 0 0,.slice none 0 0,.slice none 0 0,.int .u8 me,.int .u8 kd,.int .u8 0,.int .u8 0,.int .u8 0,.slice none 0 0] 31 (0,0)))(hne:g≠gm) :
    Calls Tryz.prog 99 #[.pointer (some ⟨g,0,none⟩),.pointer (some ⟨gm,0,none⟩)] w (bU g gm (cP kd C0).1 { aT.zero with code:=c,mei:=me,kind:=kd,level:=C0.byteV,more:=(jV C0).byteV,next:=(mN C0).byteV,objects:=(cP kd C0).2 } w):=by
 obtain⟨hcode1,hcode2⟩:=hcode
 obtain⟨hme1,hme2⟩:=hme
 obtain⟨hkd1,hkd2⟩:=hkd
 refine en 92 Tryz.func99 rfl<|sg<|Pl 2<|L0<|Oc<|m3 (bJ hC) fun cU bN b cV=>Pl 2<|?_
 have an:=aY b (Ne.symm hne) hm
 refine L0<|co an 18 (mG c 0 0 0 0 0 0 0 0 0 0 0 nS nS nS nS me kd C0.byteV 0 0 nS) fun cW dA j=>ng<|Pl 4<|L0<|aP dA 18<|L0<|Oc<|m1 (u4 (x:=C0.byteV) (w:=_)) fun cX d=>?_
 have ao:=aD j d
 refine L0<|Oc<|m2 (aU ((bP C0.byteV)) 6 (ag.upd bN ao (ae hne az) (aj (aM an (by decide)) aE))) fun cY bO l=>?_
 refine ab bO fun x25 bQ bR=>?_
 refine ng<|Pl 2<|L0<|Oc<|m3 (bJ bR) fun cZ bS o d0=>Pl 2<|?_
 have ap:=u1 l o im
 have aq:=aY (uz d ap) (Ne.symm hne) dA
 refine L0<|co aq 19 (mG c 0 0 0 0 0 0 0 0 0 0 0 nS nS nS nS me kd C0.byteV x25.byteV 0 nS) fun d1 U f=>ng<|Pl 4<|L0<|aP U 19<|Pl 2<|cu 6 [29] 35 (((x25.byteV==0)||(x25.byteV==255))) (fun K ar=>?_) ?_
 refine bl 29 ((x25.byteV==0)) (fun E=>?_) (fun E=>?_)
 have bV:=ax E
 exact Pl 6<|ce ar true (by rw[E];rfl)
 have bV:=aA E
 exact Pl 3<|L1<|aP U 19<|Pl 2<|ce ar (x25.byteV==255) (by rw[E];rfl)
 refine L0<|Oc<|m2 (aU (((x25.byteV==0)||(x25.byteV==255))) 6 (ag.upd bS f (ae hne az) (aj (aM aq (by decide)) aE))) fun d2 bW p=>?_
 refine ab bW fun x44 bX bY=>?_
 refine ng<|Pl 2<|L0<|Oc<|m3 (bJ bY) fun d3 bZ q d4=>Pl 2<|?_
 have aw:=u1 p q im
 have aF:=aY aw (Ne.symm hne) U
 refine L0<|co aF 20 (mG c 0 0 0 0 0 0 0 0 0 0 0 nS nS nS nS me kd C0.byteV x25.byteV x44.byteV nS) fun d5 V h=>ng<|Pl 4<|L0<|aP V 19<|Pl 2<|cu 6 [48] 54 (((x25.byteV != 0)||(x44.byteV==0))) (fun K aG=>?_) ?_
 refine bl 48 ((x25.byteV != 0)) (fun F=>?_) (fun F=>?_)
 have c0:=aB F
 exact Pl 6<|ce aG true (by rw[F];rfl)
 have c0:=ah F
 exact Pl 3<|L1<|aP V 20<|Pl 2<|ce aG (x44.byteV==0) (by rw[F];rfl)
 refine L0<|Oc<|m2 (aU (((x25.byteV != 0)||(x44.byteV==0))) 6 (ag.upd bZ h (ae hne az) (aj (aM aF (by decide)) aE))) fun d6 c1 r=>?_
 refine ab c1 fun x62 c2 c3=>?_
 refine ng<|Pl 1<|L0<|Oc<|m3 (bJ c3) fun d7 c4 s d8=>L0<|Oi x62.byteV<|Pl 1<|ng<|Pl 4<|?_
 have aK:=u1 r s im
 have aN:=aY aK (Ne.symm hne) V
 refine L0<|aP aN 17<|Pl 2<|cu 3 [65] 68 (((kd != 4)||(x62.byteV==1))) (fun K aO=>?_) ?_
 refine bl 65 ((kd != 4)) (fun G=>?_) (fun G=>?_)
 have c5:=aB G
 exact Pl 3<|ce aO true (by rw[G];rfl)
 have c5:=ah G
 exact Pl 3<|ce aO (x62.byteV==1) (by rw[G];rfl)
 refine L0<|Oc<|m2 (aU (((kd != 4)||(x62.byteV==1))) 5 c4) fun W c6 i=>?_
 refine ab c6 fun x76 c7 c8=>?_
 refine ng<|Pl 2<|nt<|bk<|?_
 refine ie (fun x=>[(0,.pointer (some ⟨g,0,none⟩)),(1,.pointer (some ⟨gm,0,none⟩)),(70,.int .i64 x62.byteV),(71,.int .i64 ((x.1:Nat) : Int))]) (fun(x:Nat × al × List Obj × Option Addr × Nat) w'=>ay [g,gm] W w'∧ag w' g x.2.1∧w'.heap[gm]? = some (.cells #[.int .u8 c,.int .u8 0,.int .u16 0,.int .u16 0,.int .u16 0,.int .u16 0,.int .u16 0,.int .u16 0,.int .u16 0,.int .u16 0,.int .u16 0,.int .u16 0,.slice none 0 0,.slice none 0 0,.slice none 0 0,.slice none 0 0,.int .u8 me,.int .u8 kd,.int .u8 C0.byteV,.int .u8 x25.byteV,.int .u8 x44.byteV,.slice x.2.2.2.1 x.2.2.1.length x.2.2.2.2] 31 (0,0))∧aL W.heap.size 85 2 (cH true) w' (.slice x.2.2.2.1 x.2.2.1.length x.2.2.2.2) x.2.2.1∧(x.1≤x62.byteV.toNat)∧(fw (x62.byteV.toNat-x.1) x.2.1 x.2.2.1=fw x62.byteV.toNat x76 [])∧(x.2.2.1.length≤x.1)) (fun x=>x62.byteV.toNat-x.1) (0,x76,[],none,0) ⟨ay.refl _ _,c8,(aY i (Ne.symm hne) aN),aL.nil ..,(by(try dsimp only);omega),(by(try dsimp only);rw[Nat.sub_zero]),(by(try dsimp only);(try simp only[List.length_append,List.length_cons,List.length_nil]);omega)⟩ ?_
 rintro⟨k,C,L,A,cp⟩ X ⟨v,c9,ca,cc,cd,cf,cg⟩
 refine ik [(0,.pointer (some ⟨g,0,none⟩)),(1,.pointer (some ⟨gm,0,none⟩)),(70,.int .i64 x62.byteV),(71,.int .i64 ((k:Nat) : Int))] ?_
 have u:ag X g C:=c9
 have D:X.heap[gm]? = some (.cells #[.int .u8 c,.int .u8 0,.int .u16 0,.int .u16 0,.int .u16 0,.int .u16 0,.int .u16 0,.int .u16 0,.int .u16 0,.int .u16 0,.int .u16 0,.int .u16 0,.slice none 0 0,.slice none 0 0,.slice none 0 0,.slice none 0 0,.int .u8 me,.int .u8 kd,.int .u8 C0.byteV,.int .u8 x25.byteV,.int .u8 x44.byteV,.slice A L.length cp] 31 (0,0)):=ca
 have a:aL W.heap.size 85 2 (cH true) X (.slice A L.length cp) L:=cc
 have d9:k≤x62.byteV.toNat:=cd
 have da:fw (x62.byteV.toNat-k) C L=fw x62.byteV.toNat x76 []:=cf
 have db:L.length≤k:=cg
 have hobj:fw (x62.byteV.toNat-k) C L=fw x62.byteV.toNat x76 []:=by assumption
 refine sg<|Pl 1<|nt<|sq<|?_
 refine cb ((decide (((k:Nat) : Int)<x62.byteV))) (fun Y=>?_) (fun Y=>?_)
 have ch:=of_decide_eq_true Y
 refine bK<|sq<|bk<|sg<|Pl 1<|L0<|Oc<|m3 (bJ u) fun dc aQ y dd=>Pl 1<|nt<|Rg 17 (fun w'=>True) fun de t=>aZ trivial fun z=>Rt 0 z<|?_
 refine Rt 1 z<|Rt 2 z<|Rt 3 z<|Rt 5 z<|Rt 6 z<|Rt 7 z<|?_
 refine R2 4 8 rfl rfl ?_ ?_
 have Z:=aD y t
 have a0:=aY Z (Ne.symm hne) D
 refine  aP a0 21<|aZ trivial fun df=>?_
 refine R0 8 rfl<|Oc<|m3 (bJ (ag.old aQ t)) fun dg aV a1 dh=>aZ trivial fun ci=>Rr 9 ci (.int .i64 ((C.bytesC 1).byteV)) (fun _ _=>cD (.int .i64 (IntKind.i64.wrap ((C.bytesC 1).byteV))) (by kernel_rfl) (congrArg (Value.int .i64) (i64_in (by omega))))<|R0 10 rfl<|Oc<|uo (bT (n:=(C.bytesC 1).byteV) aV) fun cj ck di cl dj dk cm a2=>?_
 have dl:=Nat.le_trans (al.bytesR_le ((C.bytesC 1).bytesC 1) ((C.bytesC 1).byteV)) (ag.len aV)
 refine ab cm fun dm cn cq=>?_
 refine aZ trivial fun cr=>Rt 11 cr<|R0 12 rfl<|cR (m:=1) (e:=85) #[.int .u8 C.byteV,.slice cj ((((C.bytesC 1).bytesC 1).bytesR ((C.bytesC 1).byteV)).length) ck] fun dn dq dr cs I=>?_
 have ct:=pN (R:=cH true) (x:=(Obj.mk C.byteV (((C.bytesC 1).bytesC 1).bytesR ((C.bytesC 1).byteV)))) cs rfl ⟨_,rfl,(aS.upd' cl I aE),b8 (by omega)⟩
 refine aZ trivial fun ds=>?_
 have aW:=u1 a1 (aD a2 I) im
 have a3:=u1 Z aW im
 have aX:=ak a a3 (fun x hx=>(ae (fun e=>(aC (ag.lt hC) (le (le (le (le (le (le (le (le (le (le (le b.size j.size) d.size) l.size) o.size) f.size) p.size) q.size) h.size) r.size) s.size) i.size) a) (e▸hx)) az)) (cH.upd8 a3 (aj (ag.safe u _ (by decide)) aE))
 refine R0 13 rfl<|ka (xs:=L) (ys:=([(Obj.mk C.byteV (((C.bytesC 1).bytesC 1).bytesR ((C.bytesC 1).byteV)))])) (.agg #[.int .u8 0,.slice none 0 0]) 2 32 aX ct (by simp) cH.ones (fun w' hv=>cH.upd8 hv (cK (dp _ aX (by decide)) aE)) (by(try simp only[List.length_append,List.length_cons,List.length_nil,av]);omega) (le (le (le (le (le v.size y.size) t.size) a1.size) a2.size) I.size) fun b0 b1 dt b2 b3=>aZ trivial fun b4=>Rt 14 b4<|Rt 15 b4<|?_
 have b5:=ay.blk (ut (ay.mono (S':=(g :: (ob A++[]))) aW (ac im au)) b3 (ai il au)) (ae (Ne.symm hne) (aH (aC (am hm) (le (le (le (le (le (le (le (le (le (le (le b.size j.size) d.size) l.size) o.size) f.size) p.size) q.size) h.size) r.size) s.size) i.size) a) az)) a0
 refine R0 16 rfl<|co b5 21 (mG c 0 0 0 0 0 0 0 0 0 0 0 nS nS nS nS me kd C0.byteV x25.byteV x44.byteV (.slice b0 ((L++[(Obj.mk C.byteV (((C.bytesC 1).bytesC 1).bytesR ((C.bytesC 1).byteV)))]).length) b1)) fun du cv a4=>aZ trivial fun dv=>re<|bn<|tn<|go<|L0<|Oi (((k:Nat) : Int)+1)<|Pl 1<|nl<|?_
 subst cn
 have b6:=u1 (ay.mono (S':=(ob A++(gm :: []))) b3 (ai il au)) a4 im
 have b7:=u1 a1 a2 im
 have b9:=u1 Z b7 im
 exact ew ((k+1),(((C.bytesC 1).bytesC 1).bytesC ((C.bytesC 1).byteV)),(L++[(Obj.mk C.byteV (((C.bytesC 1).bytesC 1).bytesR ((C.bytesC 1).byteV)))]),b0,b1) ⟨(ut v (ut (ay.mono (S':=(g :: (ob A++(gm :: [])))) a3 (ac im au)) b6 (ai il (ac im au))) (ac im (ai (aI a lr) (ac im au)))),(ag.upd cq (ut (ay.mono (S':=(ob A++(gm :: []))) I au) b6 (ai il (ac im au))) (aH (aC (ag.lt hC) (le (le (le (le (le (le (le (le (le (le (le b.size j.size) d.size) l.size) o.size) f.size) p.size) q.size) h.size) r.size) s.size) i.size) a) (ae hne az)) (cK (dp _ (ak a b9 (fun x hx=>(ae (fun e=>(aC (ag.lt hC) (le (le (le (le (le (le (le (le (le (le (le b.size j.size) d.size) l.size) o.size) f.size) p.size) q.size) h.size) r.size) s.size) i.size) a) (e▸hx)) az)) (cH.upd8 b9 (aj (ag.safe u _ (by decide)) aE))) (by decide)) (aj (aM (aY b7 (Ne.symm hne) a0) (by decide)) aE))),cv,(ak b2 a4 (fun x hx=>(ae (fun e=>(aC (am hm) (le (le (le (le (le (le (le (le (le (le (le b.size j.size) d.size) l.size) o.size) f.size) p.size) q.size) h.size) r.size) s.size) i.size) b2) (e▸hx)) az)) (cH.upd8 a4 (aj (aM b5 (by decide)) aE))),(by(try dsimp only);omega),(by(try dsimp only);rw[← hobj,show x62.byteV.toNat-k=(x62.byteV.toNat-(k+1))+1 from by omega];rfl),(by(try dsimp only);(try simp only[List.length_append,List.length_cons,List.length_nil]);omega)⟩ (by omega)
 refine  Oc<|m3 (bJ (ag.old aQ t)) fun dw J B dx=>aZ trivial fun cw=>Rr 9 cw (.int .i64 ((C.bytesC 1).byteV)) (fun _ _=>cD (.int .i64 (IntKind.i64.wrap ((C.bytesC 1).byteV))) (by kernel_rfl) (congrArg (Value.int .i64) (i64_in (by omega))))<|?_
 refine R2 4 10 rfl rfl ?_ ?_
 have a5:=u1 y (uz t B) im
 have a6:=aY a5 (Ne.symm hne) D
 refine  aP a6 21<|aZ trivial fun dy=>R0 10 rfl<|Oc<|uo (bT (n:=(C.bytesC 1).byteV) J) fun cx cy dz cz dB dC cA M=>?_
 have dD:=Nat.le_trans (al.bytesR_le ((C.bytesC 1).bytesC 1) ((C.bytesC 1).byteV)) (ag.len J)
 refine ab cA fun dE cB cC=>?_
 refine aZ trivial fun cE=>Rt 11 cE<|R0 12 rfl<|cR (m:=1) (e:=85) #[.int .u8 C.byteV,.slice cx ((((C.bytesC 1).bytesC 1).bytesR ((C.bytesC 1).byteV)).length) cy] fun dF dG dH cF N=>?_
 have cG:=pN (R:=cH true) (x:=(Obj.mk C.byteV (((C.bytesC 1).bytesC 1).bytesR ((C.bytesC 1).byteV)))) cF rfl ⟨_,rfl,(aS.upd' cz N aE),b8 (by omega)⟩
 refine aZ trivial fun dI=>?_
 have ba:=aD M N
 have a7:=u1 a5 ba im
 have bb:=ak a a7 (fun x hx=>(ae (fun e=>(aC (ag.lt hC) (le (le (le (le (le (le (le (le (le (le (le b.size j.size) d.size) l.size) o.size) f.size) p.size) q.size) h.size) r.size) s.size) i.size) a) (e▸hx)) az)) (cH.upd8 a7 (aj (ag.safe u _ (by decide)) aE))
 refine R0 13 rfl<|ka (xs:=L) (ys:=([(Obj.mk C.byteV (((C.bytesC 1).bytesC 1).bytesR ((C.bytesC 1).byteV)))])) (.agg #[.int .u8 0,.slice none 0 0]) 2 32 bb cG (by simp) cH.ones (fun w' hv=>cH.upd8 hv (cK (dp _ bb (by decide)) aE)) (by(try simp only[List.length_append,List.length_cons,List.length_nil,av]);omega) (le (le (le (le (le v.size y.size) t.size) B.size) M.size) N.size) fun bc bd dJ be bf=>aZ trivial fun bg=>Rt 14 bg<|Rt 15 bg<|?_
 have bh:=ay.blk (ut (ay.mono (S':=(g :: (ob A++[]))) ba (ac im au)) bf (ai il au)) (ae (Ne.symm hne) (aH (aC (am hm) (le (le (le (le (le (le (le (le (le (le (le b.size j.size) d.size) l.size) o.size) f.size) p.size) q.size) h.size) r.size) s.size) i.size) a) az)) a6
 refine R0 16 rfl<|co bh 21 (mG c 0 0 0 0 0 0 0 0 0 0 0 nS nS nS nS me kd C0.byteV x25.byteV x44.byteV (.slice bc ((L++[(Obj.mk C.byteV (((C.bytesC 1).bytesC 1).bytesR ((C.bytesC 1).byteV)))]).length) bd)) fun dK cI a8=>aZ trivial fun dL=>re<|bn<|tn<|go<|L0<|Oi (((k:Nat) : Int)+1)<|Pl 1<|nl<|?_
 subst cB
 have bi:=u1 (ay.mono (S':=(ob A++(gm :: []))) bf (ai il au)) a8 im
 have bj:=u1 a5 M im
 exact ew ((k+1),(((C.bytesC 1).bytesC 1).bytesC ((C.bytesC 1).byteV)),(L++[(Obj.mk C.byteV (((C.bytesC 1).bytesC 1).bytesR ((C.bytesC 1).byteV)))]),bc,bd) ⟨(ut v (ut (ay.mono (S':=(g :: (ob A++(gm :: [])))) a7 (ac im au)) bi (ai il (ac im au))) (ac im (ai (aI a lr) (ac im au)))),(ag.upd cC (ut (ay.mono (S':=(ob A++(gm :: []))) N au) bi (ai il (ac im au))) (aH (aC (ag.lt hC) (le (le (le (le (le (le (le (le (le (le (le b.size j.size) d.size) l.size) o.size) f.size) p.size) q.size) h.size) r.size) s.size) i.size) a) (ae hne az)) (cK (dp _ (ak a bj (fun x hx=>(ae (fun e=>(aC (ag.lt hC) (le (le (le (le (le (le (le (le (le (le (le b.size j.size) d.size) l.size) o.size) f.size) p.size) q.size) h.size) r.size) s.size) i.size) a) (e▸hx)) az)) (cH.upd8 bj (aj (ag.safe u _ (by decide)) aE))) (by decide)) (aj (aM (aY M (Ne.symm hne) a6) (by decide)) aE))),cI,(ak be a8 (fun x hx=>(ae (fun e=>(aC (am hm) (le (le (le (le (le (le (le (le (le (le (le b.size j.size) d.size) l.size) o.size) f.size) p.size) q.size) h.size) r.size) s.size) i.size) be) (e▸hx)) az)) (cH.upd8 a8 (aj (aM bh (by decide)) aE))),(by(try dsimp only);omega),(by(try dsimp only);rw[← hobj,show x62.byteV.toNat-k=(x62.byteV.toNat-(k+1))+1 from by omega];rfl),(by(try dsimp only);(try simp only[List.length_append,List.length_cons,List.length_nil]);omega)⟩ (by omega)
 refine  Oc<|uo (bT (n:=(C.bytesC 1).byteV) J) fun bm bo dM bp dN dO cJ H=>?_
 have dP:=Nat.le_trans (al.bytesR_le ((C.bytesC 1).bytesC 1) ((C.bytesC 1).byteV)) (ag.len J)
 refine ab cJ fun dQ bq br=>?_
 refine aZ trivial fun cL=>Rt 11 cL<|?_
 refine R2 4 12 rfl rfl ?_ ?_
 have O:=u1 y (uz t (u1 B H im)) im
 have a9:=aY O (Ne.symm hne) D
 refine  aP a9 21<|aZ trivial fun dR=>R0 12 rfl<|cR (m:=1) (e:=85) #[.int .u8 C.byteV,.slice bm ((((C.bytesC 1).bytesC 1).bytesR ((C.bytesC 1).byteV)).length) bo] fun dS dT dU cM P=>?_
 have cN:=pN (R:=cH true) (x:=(Obj.mk C.byteV (((C.bytesC 1).bytesC 1).bytesR ((C.bytesC 1).byteV)))) cM rfl ⟨_,rfl,(aS.upd' bp P aE),b8 (by omega)⟩
 refine aZ trivial fun dV=>?_
 have aa:=aD O P
 have bs:=ak a aa (fun x hx=>(ae (fun e=>(aC (ag.lt hC) (le (le (le (le (le (le (le (le (le (le (le b.size j.size) d.size) l.size) o.size) f.size) p.size) q.size) h.size) r.size) s.size) i.size) a) (e▸hx)) az)) (cH.upd8 aa (aj (ag.safe u _ (by decide)) aE))
 refine R0 13 rfl<|ka (xs:=L) (ys:=([(Obj.mk C.byteV (((C.bytesC 1).bytesC 1).bytesR ((C.bytesC 1).byteV)))])) (.agg #[.int .u8 0,.slice none 0 0]) 2 32 bs cN (by simp) cH.ones (fun w' hv=>cH.upd8 hv (cK (dp _ bs (by decide)) aE)) (by(try simp only[List.length_append,List.length_cons,List.length_nil,av]);omega) (le (le (le (le (le v.size y.size) t.size) B.size) H.size) P.size) fun bt bu dW bv bw=>aZ trivial fun bz=>Rt 14 bz<|Rt 15 bz<|?_
 have bA:=ut (ay.mono (S':=(ob A++[])) P au) bw (ai il au)
 have bB:=ay.blk bA (aH (aC (am hm) (le (le (le (le (le (le (le (le (le (le (le b.size j.size) d.size) l.size) o.size) f.size) p.size) q.size) h.size) r.size) s.size) i.size) a) az) a9
 refine R0 16 rfl<|co bB 21 (mG c 0 0 0 0 0 0 0 0 0 0 0 nS nS nS nS me kd C0.byteV x25.byteV x44.byteV (.slice bt ((L++[(Obj.mk C.byteV (((C.bytesC 1).bytesC 1).bytesR ((C.bytesC 1).byteV)))]).length) bu)) fun dX cO Q=>aZ trivial fun dY=>re<|bn<|tn<|go<|L0<|Oi (((k:Nat) : Int)+1)<|Pl 1<|nl<|?_
 subst bq
 exact ew ((k+1),(((C.bytesC 1).bytesC 1).bytesC ((C.bytesC 1).byteV)),(L++[(Obj.mk C.byteV (((C.bytesC 1).bytesC 1).bytesR ((C.bytesC 1).byteV)))]),bt,bu) ⟨(ut v (ut (ay.mono (S':=(g :: (ob A++(gm :: [])))) aa (ac im au)) (u1 (ay.mono (S':=(ob A++(gm :: []))) bw (ai il au)) Q im) (ai il (ac im au))) (ac im (ai (aI a lr) (ac im au)))),(ag.upd br (u1 (ay.mono (S':=(ob A++(gm :: []))) bA (ai il au)) Q im) (aH (aC (ag.lt hC) (le (le (le (le (le (le (le (le (le (le (le b.size j.size) d.size) l.size) o.size) f.size) p.size) q.size) h.size) r.size) s.size) i.size) a) (ae hne az)) (cK (dp _ (ak a O (fun x hx=>(ae (fun e=>(aC (ag.lt hC) (le (le (le (le (le (le (le (le (le (le (le b.size j.size) d.size) l.size) o.size) f.size) p.size) q.size) h.size) r.size) s.size) i.size) a) (e▸hx)) az)) (cH.upd8 O (aj (ag.safe u _ (by decide)) aE))) (by decide)) (aj (aM a9 (by decide)) aE))),cO,(ak bv Q (fun x hx=>(ae (fun e=>(aC (am hm) (le (le (le (le (le (le (le (le (le (le (le b.size j.size) d.size) l.size) o.size) f.size) p.size) q.size) h.size) r.size) s.size) i.size) bv) (e▸hx)) az)) (cH.upd8 Q (aj (aM bB (by decide)) aE))),(by(try dsimp only);omega),(by(try dsimp only);rw[← hobj,show x62.byteV.toNat-k=(x62.byteV.toNat-(k+1))+1 from by omega];rfl),(by(try dsimp only);(try simp only[List.length_append,List.length_cons,List.length_nil]);omega)⟩ (by omega)
 refine  cR (m:=1) (e:=85) #[.int .u8 C.byteV,.slice bm ((((C.bytesC 1).bytesC 1).bytesR ((C.bytesC 1).byteV)).length) bo] fun dZ e0 e1 cQ S=>?_
 have cS:=pN (R:=cH true) (x:=(Obj.mk C.byteV (((C.bytesC 1).bytesC 1).bytesR ((C.bytesC 1).byteV)))) cQ rfl ⟨_,rfl,(aS.upd' bp S aE),b8 (by omega)⟩
 refine aZ trivial fun e2=>?_
 have T:=u1 y (uz t (u1 B (aD H S) im)) im
 have bC:=aY T (Ne.symm hne) D
 refine R0 4 rfl<|aP bC 21<|aZ trivial fun e3=>?_
 have bD:=ak a T (fun x hx=>(ae (fun e=>(aC (ag.lt hC) (le (le (le (le (le (le (le (le (le (le (le b.size j.size) d.size) l.size) o.size) f.size) p.size) q.size) h.size) r.size) s.size) i.size) a) (e▸hx)) az)) (cH.upd8 T (aj (ag.safe u _ (by decide)) aE))
 refine R0 13 rfl<|ka (xs:=L) (ys:=([(Obj.mk C.byteV (((C.bytesC 1).bytesC 1).bytesR ((C.bytesC 1).byteV)))])) (.agg #[.int .u8 0,.slice none 0 0]) 2 32 bD cS (by simp) cH.ones (fun w' hv=>cH.upd8 hv (cK (dp _ bD (by decide)) aE)) (by(try simp only[List.length_append,List.length_cons,List.length_nil,av]);omega) (le (le (le (le (le v.size y.size) t.size) B.size) H.size) S.size) fun bE bF e4 bG bH=>aZ trivial fun bI=>Rt 14 bI<|Rt 15 bI<|?_
 have bL:=ay.blk bH (aH (aC (am hm) (le (le (le (le (le (le (le (le (le (le (le b.size j.size) d.size) l.size) o.size) f.size) p.size) q.size) h.size) r.size) s.size) i.size) a) az) bC
 refine R0 16 rfl<|co bL 21 (mG c 0 0 0 0 0 0 0 0 0 0 0 nS nS nS nS me kd C0.byteV x25.byteV x44.byteV (.slice bE ((L++[(Obj.mk C.byteV (((C.bytesC 1).bytesC 1).bytesR ((C.bytesC 1).byteV)))]).length) bF)) fun e5 cT ad=>aZ trivial fun e6=>re<|bn<|tn<|go<|L0<|Oi (((k:Nat) : Int)+1)<|Pl 1<|nl<|?_
 subst bq
 have bM:=u1 (ay.mono (S':=(ob A++(gm :: []))) bH (ai il au)) ad im
 have af:=u1 y (uz t (u1 B H im)) im
 exact ew ((k+1),(((C.bytesC 1).bytesC 1).bytesC ((C.bytesC 1).byteV)),(L++[(Obj.mk C.byteV (((C.bytesC 1).bytesC 1).bytesR ((C.bytesC 1).byteV)))]),bE,bF) ⟨(ut v (ut (ay.mono (S':=(g :: (ob A++(gm :: [])))) T (ac im au)) bM (ai il (ac im au))) (ac im (ai (aI a lr) (ac im au)))),(ag.upd br (ut (ay.mono (S':=(ob A++(gm :: []))) S au) bM (ai il (ac im au))) (aH (aC (ag.lt hC) (le (le (le (le (le (le (le (le (le (le (le b.size j.size) d.size) l.size) o.size) f.size) p.size) q.size) h.size) r.size) s.size) i.size) a) (ae hne az)) (cK (dp _ (ak a af (fun x hx=>(ae (fun e=>(aC (ag.lt hC) (le (le (le (le (le (le (le (le (le (le (le b.size j.size) d.size) l.size) o.size) f.size) p.size) q.size) h.size) r.size) s.size) i.size) a) (e▸hx)) az)) (cH.upd8 af (aj (ag.safe u _ (by decide)) aE))) (by decide)) (aj (aM (aY af (Ne.symm hne) D) (by decide)) aE))),cT,(ak bG ad (fun x hx=>(ae (fun e=>(aC (am hm) (le (le (le (le (le (le (le (le (le (le (le b.size j.size) d.size) l.size) o.size) f.size) p.size) q.size) h.size) r.size) s.size) i.size) bG) (e▸hx)) az)) (cH.upd8 ad (aj (aM bL (by decide)) aE))),(by(try dsimp only);omega),(by(try dsimp only);rw[← hobj,show x62.byteV.toNat-k=(x62.byteV.toNat-(k+1))+1 from by omega];rfl),(by(try dsimp only);(try simp only[List.length_append,List.length_cons,List.length_nil]);omega)⟩ (by omega)
 have ch:=of_decide_eq_false Y
 refine xt<|tx<|tx<|bx<|rm (.tuple #[])<|?_
 subst c7 c2 bX bQ
 have hf:cP kd C0=(C,L):=by
   have h1:fw ((((((C0.bytesC 1).need (bP C0.byteV) 6).bytesC 1).need ((((C0.bytesC 1).need (bP C0.byteV) 6).byteV==0)||(((C0.bytesC 1).need (bP C0.byteV) 6).byteV==255)) 6).bytesC 1).need ((((C0.bytesC 1).need (bP C0.byteV) 6).byteV != 0)||(((((C0.bytesC 1).need (bP C0.byteV) 6).bytesC 1).need ((((C0.bytesC 1).need (bP C0.byteV) 6).byteV==0)||(((C0.bytesC 1).need (bP C0.byteV) 6).byteV==255)) 6).byteV==0)) 6).byteV.toNat ((((((((C0.bytesC 1).need (bP C0.byteV) 6).bytesC 1).need ((((C0.bytesC 1).need (bP C0.byteV) 6).byteV==0)||(((C0.bytesC 1).need (bP C0.byteV) 6).byteV==255)) 6).bytesC 1).need ((((C0.bytesC 1).need (bP C0.byteV) 6).byteV != 0)||(((((C0.bytesC 1).need (bP C0.byteV) 6).bytesC 1).need ((((C0.bytesC 1).need (bP C0.byteV) 6).byteV==0)||(((C0.bytesC 1).need (bP C0.byteV) 6).byteV==255)) 6).byteV==0)) 6).bytesC 1).need ((kd != 4)||(((((((C0.bytesC 1).need (bP C0.byteV) 6).bytesC 1).need ((((C0.bytesC 1).need (bP C0.byteV) 6).byteV==0)||(((C0.bytesC 1).need (bP C0.byteV) 6).byteV==255)) 6).bytesC 1).need ((((C0.bytesC 1).need (bP C0.byteV) 6).byteV != 0)||(((((C0.bytesC 1).need (bP C0.byteV) 6).bytesC 1).need ((((C0.bytesC 1).need (bP C0.byteV) 6).byteV==0)||(((C0.bytesC 1).need (bP C0.byteV) 6).byteV==255)) 6).byteV==0)) 6).byteV==1)) 5) []=(C,L):=by
     rw[← hobj,show((((((C0.bytesC 1).need (bP C0.byteV) 6).bytesC 1).need ((((C0.bytesC 1).need (bP C0.byteV) 6).byteV==0)||(((C0.bytesC 1).need (bP C0.byteV) 6).byteV==255)) 6).bytesC 1).need ((((C0.bytesC 1).need (bP C0.byteV) 6).byteV != 0)||(((((C0.bytesC 1).need (bP C0.byteV) 6).bytesC 1).need ((((C0.bytesC 1).need (bP C0.byteV) 6).byteV==0)||(((C0.bytesC 1).need (bP C0.byteV) 6).byteV==255)) 6).byteV==0)) 6).byteV.toNat-k=0 from by omega]
     rfl
   exact h1
 rw[hf]
 exact⟨rfl,u,⟨_,⟨D,rfl⟩,⟨_,_,_,_,_,rfl,aR.nil ..,aR.nil ..,aR.nil ..,aR.nil ..,(a).rd,⟨(b8 (x:=c) (by omega)),(b8 (x:=0) (by omega)),(aJ (x:=0) (by omega)),(aJ (x:=0) (by omega)),(aJ (x:=0) (by omega)),(aJ (x:=0) (by omega)),(aJ (x:=0) (by omega)),(aJ (x:=0) (by omega)),(aJ (x:=0) (by omega)),(aJ (x:=0) (by omega)),(aJ (x:=0) (by omega)),(aJ (x:=0) (by omega)),(b8 (x:=me) (by omega)),(b8 (x:=kd) (by omega)),(b8 (x:=C0.byteV) (by omega)),(b8 (x:=((C0.bytesC 1).need (bP C0.byteV) 6).byteV) (by omega)),(b8 (x:=((((C0.bytesC 1).need (bP C0.byteV) 6).bytesC 1).need ((((C0.bytesC 1).need (bP C0.byteV) 6).byteV==0)||(((C0.bytesC 1).need (bP C0.byteV) 6).byteV==255)) 6).byteV) (by omega))⟩⟩⟩,(ui b (ui ao (ui ap (ui f (ui aw (ui h (ui aK (ui i v))))))))⟩
open Go.RowKit
def dJ (C:al) : al:=(C.bytesC 1).need (C.byteV==13 || C.byteV==14) 8
def gv (C:al) : al:=(dJ C).need (decide (((dJ C).l.length:Int)≤251)) 5
def du (C:al) : al:=((dJ C).bytesC 1).need (decide (1≤(dJ C).byteV)&&decide ((dJ C).byteV≤4)) 6
def bu (dir c:Int)(C:al) : Option (al × aT) :=
  if c != 43 then none
  else if C.byteV==13 then some ((gv C).bytesC ((gv C).l.length:Int),{ aT.zero with code:=c,mei:=C.byteV,data:=(gv C).bytesR ((gv C).l.length:Int) })
  else if dir==1 then some ((cP (dJ C).byteV (du C)).1,{ aT.zero with code:=c,mei:=C.byteV,kind:=(dJ C).byteV,level:=(du C).byteV,more:=(jV (du C)).byteV,next:=(mN (du C)).byteV,objects:=(cP (dJ C).byteV (du C)).2 })
  else some ((du C).bytesC 1,{ aT.zero with code:=c,mei:=C.byteV,kind:=(dJ C).byteV,next:=(du C).byteV })
theorem oU{m:Bool}{A:Option Addr}{cp:Nat}{b:List Int}{w:World}{c:Int}(hcode:B8 c)(hsl:aS m w (.slice A b.length cp) b)(hb:b.length≤1048576) :
    Calls Tryz.prog 66 #[.int .i64 0,.int .u8 c,.slice A b.length cp] w (dC (aq bu 0 c b) w):=by
 obtain⟨hcode1,hcode2⟩:=hcode
 have hln:(b.length:Int)≤1048576:=by omega
 refine en 81 Tryz.func66 rfl<|sg<|L0<|bN mZ fun O bd q i j=>Pl 1<|nt<|sq<|bk<|sg<|Pl 7<|nt<|?_
 refine c0<|sg<|Pl 3<|nt<|cb ((c != 43)) (fun f=>?_) (fun f=>?_)
 have ap:=aB f
 refine sg<|Pl 1<|L0<|bi i mZ fun be ar av=>Pl 1<|nt<|rt<|br<|tr<|d9 ar (.int .i64 4)<|?_
 have hs:aq bu 0 c b=(aT.zero,4):=by
   unfold aq bu gv du dJ
   (try simp only[f,bs,if_true,if_false,decide_true,decide_false,eq_self,true_or,or_true,or_false,false_or,if_true,if_false,dR,dM,dN,dP,reduceIte])
   all_goals rfl
 rw[hs]
 exact bV (ud j av q)
 have ap:=ah f
 refine sk<|bn<|tn<|sg<|Pl 1<|?_
 refine L0<|Oc<|e3 (dq (aS.old hsl j) (by omega)) fun P bf a Q k=>Pl 1<|ng<|Pl 2<|L0<|Oc<|m3 (bJ Q) fun bh aw g bj=>Pl 1<|L0<|bN mZ fun R bm h aC aF=>L0<|bi aC (mG c 0 0 0 0 0 0 0 0 0 0 0 nS nS nS nS ((al.mk b false 0).byteV) 0 0 0 0 nS) fun bo E aG=>nt<|sq<|?_
 refine go<|Pl 2<|L0<|aP E 16<|Pl 2<|cu 4 [33] 37 (((((al.mk b false 0).byteV)==13)||(((al.mk b false 0).byteV)==14))) (fun K S=>?_) ?_
 refine bl 33 ((((al.mk b false 0).byteV)==13)) (fun r=>?_) (fun r=>?_)
 have aH:=ax r
 exact Pl 4<|ce S true (by rw[r];rfl)
 have aH:=aA r
 exact Pl 1<|L1<|aP E 16<|Pl 2<|ce S (((al.mk b false 0).byteV)==14) (by rw[r];rfl)
 have T:=ud aF aG h
 refine L0<|Oc<|m2 (aU (((((al.mk b false 0).byteV)==13)||(((al.mk b false 0).byteV)==14))) 8 (ag.old aw T)) fun bq aI U=>?_
 refine ab aI fun j8 v y=>?_
 refine nt<|sq<|sg<|Pl 1<|?_
 have d:=nb (ag.lt Q) g.size h
 have F:=aY U (Ne.symm d) E
 refine L0<|aP F 16<|Pl 1<|nt<|?_
 have o:=ud k (u1 g (uz T U) im) a
 have V:=aD j o
 refine cb ((((al.mk b false 0).byteV)==13)) (fun p=>?_) (fun p=>?_)
 have aK:=ax p
 refine sg<|Pl 2<|L0<|Oc<|mq (dH y)<|?_
 have bv:=ag.len y
 refine Pl 1<|L0<|Oc<|m2 (aU ((decide (((j8.l.length:Nat) : Int)≤251))) 5 y) fun bw aL aN=>?_
 refine ab aL fun x59 W z=>?_
 refine nt<|go<|Pl 2<|L0<|Oc<|mq (dH z)<|?_
 have bx:=ag.len z
 refine L0<|Oc<|uo (bT (n:=((x59.l.length:Nat) : Int)) z) fun X Y bz Z bA bB aO aQ=>?_
 have bC:=Nat.le_trans (al.bytesR_le x59 ((x59.l.length:Nat) : Int)) (ag.len z)
 refine ab aO fun x69 a0 G=>?_
 refine Pl 1<|?_
 have B:=u1 aN aQ im
 have C:=aY B (Ne.symm d) F
 refine L0<|co C 14 (mG c 0 0 0 0 0 0 0 0 0 0 0 nS nS (.slice X ((x59.bytesR ((x59.l.length:Nat) : Int)).length) Y) nS ((al.mk b false 0).byteV) 0 0 0 0 nS) fun bD aV a1=>ng<|Pl 1<|?_
 refine L0<|Oc<|m2 (bQ (ag.upd G a1 (ae d az) (aj (aM C (by decide)) aE))) fun bE a2 a3=>nt<|sq<|sg<|Pl 1<|L0<|Oc<|mq (bp a2)<|?_
 have bF:=ag.len a2
 refine Pl 1<|ng<|Pl 2<|nt<|?_
 have H:=us a1 a3
 have I:=ui B H
 have a4:=ut V I (ac (ni (le (le j.size k.size) g.size) h) (ac (ni j.size a) au))
 refine cb ((x69.endC.e != 0)) (fun s=>?_) (fun s=>?_)
 have J:=aB s
 refine sg<|Pl 2<|?_
 refine L0<|bi (ub (ut o I (ac (ni (le k.size g.size) h) (ac (nr a) au))) i) mZ fun bG aW a5=>Pl 1<|nt<|rt<|tr<|d9 aW (.int .i64 x69.endC.e)<|?_
 subst a0 W v
 have bH:=aS.upd' Z (u1 (ay.mono (S':=[R,P,O]) H (ac im (ac im au))) a5 im) (aj (aM C (by decide)) (aj (ag.safe G _ (by decide)) (aj (aM (ub (ud o B a) i) (by decide)) aE)))
 have hs:aq bu 0 c b=b7 (aT.mk c 0 0 0 0 0 0 0 0 0 0 0 [] [] (((((al.mk b false 0).bytesC 1).need ((((al.mk b false 0).byteV)==13)||(((al.mk b false 0).byteV)==14)) 8).need (decide ((((((al.mk b false 0).bytesC 1).need ((((al.mk b false 0).byteV)==13)||(((al.mk b false 0).byteV)==14)) 8).l.length:Nat) : Int)≤251)) 5).bytesR ((((((al.mk b false 0).bytesC 1).need ((((al.mk b false 0).byteV)==13)||(((al.mk b false 0).byteV)==14)) 8).need (decide ((((((al.mk b false 0).bytesC 1).need ((((al.mk b false 0).byteV)==13)||(((al.mk b false 0).byteV)==14)) 8).l.length:Nat) : Int)≤251)) 5).l.length:Nat) : Int)) [] ((al.mk b false 0).byteV) 0 0 0 0 []) (((((al.mk b false 0).bytesC 1).need ((((al.mk b false 0).byteV)==13)||(((al.mk b false 0).byteV)==14)) 8).need (decide ((((((al.mk b false 0).bytesC 1).need ((((al.mk b false 0).byteV)==13)||(((al.mk b false 0).byteV)==14)) 8).l.length:Nat) : Int)≤251)) 5).bytesC ((((((al.mk b false 0).bytesC 1).need ((((al.mk b false 0).byteV)==13)||(((al.mk b false 0).byteV)==14)) 8).need (decide ((((((al.mk b false 0).bytesC 1).need ((((al.mk b false 0).byteV)==13)||(((al.mk b false 0).byteV)==14)) 8).l.length:Nat) : Int)≤251)) 5).l.length:Nat) : Int)):=by
   unfold aq bu gv du dJ
   (try simp only[f,p,s,bs,if_true,if_false,decide_true,decide_false,eq_self,true_or,or_true,or_false,false_or,if_true,if_false,dR,dM,dN,dP,reduceIte])
   all_goals rfl
 rw[hs]
 exact bg J (ud a4 a5 q)
 have J:=ah s
 refine bK<|sg<|?_
 refine L0<|cj (aY a3 (Ne.symm d) aV)<|?_
 refine L0<|bi (ub (ut o I (ac (ni (le k.size g.size) h) (ac (nr a) au))) i) (mG c 0 0 0 0 0 0 0 0 0 0 0 nS nS (.slice X ((x59.bytesR ((x59.l.length:Nat) : Int)).length) Y) nS ((al.mk b false 0).byteV) 0 0 0 0 nS) fun bI aX a6=>Pl 1<|nt<|rt<|d9 aX (.int .i64 0)<|?_
 subst a0 W v
 have hs:aq bu 0 c b=b7 (aT.mk c 0 0 0 0 0 0 0 0 0 0 0 [] [] (((((al.mk b false 0).bytesC 1).need ((((al.mk b false 0).byteV)==13)||(((al.mk b false 0).byteV)==14)) 8).need (decide ((((((al.mk b false 0).bytesC 1).need ((((al.mk b false 0).byteV)==13)||(((al.mk b false 0).byteV)==14)) 8).l.length:Nat) : Int)≤251)) 5).bytesR ((((((al.mk b false 0).bytesC 1).need ((((al.mk b false 0).byteV)==13)||(((al.mk b false 0).byteV)==14)) 8).need (decide ((((((al.mk b false 0).bytesC 1).need ((((al.mk b false 0).byteV)==13)||(((al.mk b false 0).byteV)==14)) 8).l.length:Nat) : Int)≤251)) 5).l.length:Nat) : Int)) [] ((al.mk b false 0).byteV) 0 0 0 0 []) (((((al.mk b false 0).bytesC 1).need ((((al.mk b false 0).byteV)==13)||(((al.mk b false 0).byteV)==14)) 8).need (decide ((((((al.mk b false 0).bytesC 1).need ((((al.mk b false 0).byteV)==13)||(((al.mk b false 0).byteV)==14)) 8).l.length:Nat) : Int)≤251)) 5).bytesC ((((((al.mk b false 0).bytesC 1).need ((((al.mk b false 0).byteV)==13)||(((al.mk b false 0).byteV)==14)) 8).need (decide ((((((al.mk b false 0).bytesC 1).need ((((al.mk b false 0).byteV)==13)||(((al.mk b false 0).byteV)==14)) 8).l.length:Nat) : Int)≤251)) 5).l.length:Nat) : Int)):=by
   unfold aq bu gv du dJ
   (try simp only[f,p,s,bs,if_true,if_false,decide_true,decide_false,eq_self,true_or,or_true,or_false,false_or,if_true,if_false,dR,dM,dN,dP,reduceIte])
   all_goals rfl
 rw[hs]
 exact bt J ⟨_,_,_,_,_,rfl,aR.nil ..,aR.nil ..,(aS.upd' Z (u1 (ay.mono (S':=[R,P,O]) H (ac im (ac im au))) a6 im) (aj (aM C (by decide)) (aj (ag.safe G _ (by decide)) (aj (aM (ub (ud o B a) i) (by decide)) aE)))),aR.nil ..,aR.nil ..,⟨(b8 (x:=c) (by omega)),(b8 (x:=0) (by omega)),(aJ (x:=0) (by omega)),(aJ (x:=0) (by omega)),(aJ (x:=0) (by omega)),(aJ (x:=0) (by omega)),(aJ (x:=0) (by omega)),(aJ (x:=0) (by omega)),(aJ (x:=0) (by omega)),(aJ (x:=0) (by omega)),(aJ (x:=0) (by omega)),(aJ (x:=0) (by omega)),(b8 (x:=(al.mk b false 0).byteV) (by omega)),(b8 (x:=0) (by omega)),(b8 (x:=0) (by omega)),(b8 (x:=0) (by omega)),(b8 (x:=0) (by omega))⟩⟩ (ud a4 a6 q)
 have aK:=aA p
 refine sg<|Pl 1<|L0<|Oc<|m3 (bJ y) fun bL aZ a7 bM=>Pl 1<|?_
 have a8:=aY a7 (Ne.symm d) F
 refine L0<|co a8 17 (mG c 0 0 0 0 0 0 0 0 0 0 0 nS nS nS nS ((al.mk b false 0).byteV) j8.byteV 0 0 0 nS) fun bO L a9=>ng<|Pl 2<|L0<|aP L 17<|Pl 2<|cu 4 [59] 63 (((decide (1≤j8.byteV))&&(decide (j8.byteV≤4)))) (fun K aa=>?_) ?_
 refine bl 59 ((decide (1≤j8.byteV))) (fun t=>?_) (fun t=>?_)
 have b0:=of_decide_eq_true t
 exact Pl 1<|L1<|aP L 17<|Pl 2<|ce aa (decide (j8.byteV≤4)) (by rw[t];rfl)
 have b0:=of_decide_eq_false t
 exact Pl 4<|ce aa false (by rw[t];rfl)
 refine L0<|Oc<|m2 (aU (((decide (1≤j8.byteV))&&(decide (j8.byteV≤4)))) 6 (ag.upd aZ a9 (ae d az) (aj (aM a8 (by decide)) aE))) fun bP b1 b2=>?_
 refine ab b1 fun D ad b3=>?_
 refine ng<|Pl 2<|nt<|c0<|go<|Pl 1<|L0<|Oc<|m3 (bJ b3) fun bR b4 b5 bS=>Pl 1<|?_
 have af:=u1 b2 b5 im
 have ai:=aY af (Ne.symm d) L
 refine L0<|co ai 20 (mG c 0 0 0 0 0 0 0 0 0 0 0 nS nS nS nS ((al.mk b false 0).byteV) j8.byteV 0 0 D.byteV nS) fun bU b6 ak=>ng<|Pl 1<|?_
 refine L0<|Oc<|m2 (bQ (ag.upd b4 ak (ae d az) (aj (aM ai (by decide)) aE))) fun bW am an=>nt<|sq<|sg<|Pl 1<|L0<|Oc<|mq (bp am)<|?_
 have bX:=ag.len am
 refine Pl 1<|ng<|Pl 2<|nt<|?_
 have M:=ui a7 (ui a9 (ui af (us ak an)))
 have ao:=ut V M (ac (ni (le (le j.size k.size) g.size) h) (ac (ni j.size a) au))
 refine cb (((((D.bytesC 1).endC).e)!=0)) (fun u=>?_) (fun u=>?_)
 have N:=aB u
 refine sg<|Pl 2<|?_
 refine L0<|bi (ub (ut o M (ac (ni (le k.size g.size) h) (ac (nr a) au))) i) mZ fun bY b9 ba=>Pl 1<|nt<|rt<|tr<|d9 b9 (.int .i64 (((D.bytesC 1).endC).e))<|?_
 subst ad v
 have hs:aq bu 0 c b=b7 (aT.mk c 0 0 0 0 0 0 0 0 0 0 0 [] [] [] [] ((al.mk b false 0).byteV) ((((al.mk b false 0).bytesC 1).need ((((al.mk b false 0).byteV)==13)||(((al.mk b false 0).byteV)==14)) 8).byteV) 0 0 ((((((al.mk b false 0).bytesC 1).need ((((al.mk b false 0).byteV)==13)||(((al.mk b false 0).byteV)==14)) 8).bytesC 1).need ((decide (1≤(((al.mk b false 0).bytesC 1).need ((((al.mk b false 0).byteV)==13)||(((al.mk b false 0).byteV)==14)) 8).byteV))&&(decide ((((al.mk b false 0).bytesC 1).need ((((al.mk b false 0).byteV)==13)||(((al.mk b false 0).byteV)==14)) 8).byteV≤4))) 6).byteV) []) ((((((al.mk b false 0).bytesC 1).need ((((al.mk b false 0).byteV)==13)||(((al.mk b false 0).byteV)==14)) 8).bytesC 1).need ((decide (1≤(((al.mk b false 0).bytesC 1).need ((((al.mk b false 0).byteV)==13)||(((al.mk b false 0).byteV)==14)) 8).byteV))&&(decide ((((al.mk b false 0).bytesC 1).need ((((al.mk b false 0).byteV)==13)||(((al.mk b false 0).byteV)==14)) 8).byteV≤4))) 6).bytesC 1):=by
   unfold aq bu gv du dJ
   (try simp only[f,p,u,bs,if_true,if_false,decide_true,decide_false,eq_self,true_or,or_true,or_false,false_or,if_true,if_false,dR,dM,dN,dP,reduceIte])
   all_goals rfl
 rw[hs]
 exact bg N (ud ao ba q)
 have N:=ah u
 refine bK<|sg<|?_
 refine L0<|cj (aY an (Ne.symm d) b6)<|?_
 refine L0<|bi (ub (ut o M (ac (ni (le k.size g.size) h) (ac (nr a) au))) i) (mG c 0 0 0 0 0 0 0 0 0 0 0 nS nS nS nS ((al.mk b false 0).byteV) j8.byteV 0 0 D.byteV nS) fun bZ bb bc=>Pl 1<|nt<|rt<|d9 bb (.int .i64 0)<|?_
 subst ad v
 have hs:aq bu 0 c b=b7 (aT.mk c 0 0 0 0 0 0 0 0 0 0 0 [] [] [] [] ((al.mk b false 0).byteV) ((((al.mk b false 0).bytesC 1).need ((((al.mk b false 0).byteV)==13)||(((al.mk b false 0).byteV)==14)) 8).byteV) 0 0 ((((((al.mk b false 0).bytesC 1).need ((((al.mk b false 0).byteV)==13)||(((al.mk b false 0).byteV)==14)) 8).bytesC 1).need ((decide (1≤(((al.mk b false 0).bytesC 1).need ((((al.mk b false 0).byteV)==13)||(((al.mk b false 0).byteV)==14)) 8).byteV))&&(decide ((((al.mk b false 0).bytesC 1).need ((((al.mk b false 0).byteV)==13)||(((al.mk b false 0).byteV)==14)) 8).byteV≤4))) 6).byteV) []) ((((((al.mk b false 0).bytesC 1).need ((((al.mk b false 0).byteV)==13)||(((al.mk b false 0).byteV)==14)) 8).bytesC 1).need ((decide (1≤(((al.mk b false 0).bytesC 1).need ((((al.mk b false 0).byteV)==13)||(((al.mk b false 0).byteV)==14)) 8).byteV))&&(decide ((((al.mk b false 0).bytesC 1).need ((((al.mk b false 0).byteV)==13)||(((al.mk b false 0).byteV)==14)) 8).byteV≤4))) 6).bytesC 1):=by
   unfold aq bu gv du dJ
   (try simp only[f,p,u,bs,if_true,if_false,decide_true,decide_false,eq_self,true_or,or_true,or_false,false_or,if_true,if_false,dR,dM,dN,dP,reduceIte])
   all_goals rfl
 rw[hs]
 exact bt N ⟨_,_,_,_,_,rfl,aR.nil ..,aR.nil ..,aR.nil ..,aR.nil ..,aR.nil ..,⟨(b8 (x:=c) (by omega)),(b8 (x:=0) (by omega)),(aJ (x:=0) (by omega)),(aJ (x:=0) (by omega)),(aJ (x:=0) (by omega)),(aJ (x:=0) (by omega)),(aJ (x:=0) (by omega)),(aJ (x:=0) (by omega)),(aJ (x:=0) (by omega)),(aJ (x:=0) (by omega)),(aJ (x:=0) (by omega)),(aJ (x:=0) (by omega)),(b8 (x:=(al.mk b false 0).byteV) (by omega)),(b8 (x:=(((al.mk b false 0).bytesC 1).need ((((al.mk b false 0).byteV)==13)||(((al.mk b false 0).byteV)==14)) 8).byteV) (by omega)),(b8 (x:=0) (by omega)),(b8 (x:=0) (by omega)),(b8 (x:=(((((al.mk b false 0).bytesC 1).need ((((al.mk b false 0).byteV)==13)||(((al.mk b false 0).byteV)==14)) 8).bytesC 1).need ((decide (1≤(((al.mk b false 0).bytesC 1).need ((((al.mk b false 0).byteV)==13)||(((al.mk b false 0).byteV)==14)) 8).byteV))&&(decide ((((al.mk b false 0).bytesC 1).need ((((al.mk b false 0).byteV)==13)||(((al.mk b false 0).byteV)==14)) 8).byteV≤4))) 6).byteV) (by omega))⟩⟩ (ud ao bc q)
theorem p7{m:Bool}{A:Option Addr}{cp:Nat}{b:List Int}{w:World}{c:Int}(hcode:B8 c)(hsl:aS m w (.slice A b.length cp) b)(hb:b.length≤1048576) :
    Calls Tryz.prog 66 #[.int .i64 1,.int .u8 c,.slice A b.length cp] w (dC (aq bu 1 c b) w):=by
 obtain⟨hcode1,hcode2⟩:=hcode
 have hln:(b.length:Int)≤1048576:=by omega
 refine en 81 Tryz.func66 rfl<|sg<|L0<|bN mZ fun T bj q h o=>Pl 1<|nt<|sq<|bk<|sg<|Pl 7<|nt<|?_
 refine c0<|sg<|Pl 3<|nt<|cb ((c != 43)) (fun i=>?_) (fun i=>?_)
 have aC:=aB i
 refine sg<|Pl 1<|L0<|bi h mZ fun bm aG aH=>Pl 1<|nt<|rt<|br<|tr<|d9 aG (.int .i64 4)<|?_
 have hs:aq bu 1 c b=(aT.zero,4):=by
   unfold aq bu gv du dJ
   (try simp only[i,bs,if_true,if_false,decide_true,decide_false,eq_self,true_or,or_true,or_false,false_or,if_true,if_false,dR,dM,dN,dP,reduceIte])
   all_goals rfl
 rw[hs]
 exact bV (ud o aH q)
 have aC:=ah i
 refine sk<|bn<|tn<|sg<|Pl 1<|?_
 refine L0<|Oc<|e3 (dq (aS.old hsl o) (by omega)) fun U bo a V j=>Pl 1<|ng<|Pl 2<|L0<|Oc<|m3 (bJ V) fun bq aI d bv=>Pl 1<|L0<|bN mZ fun W bw f aK aL=>L0<|bi aK (mG c 0 0 0 0 0 0 0 0 0 0 0 nS nS nS nS ((al.mk b false 0).byteV) 0 0 0 0 nS) fun bx E aN=>nt<|sq<|?_
 refine go<|Pl 2<|L0<|aP E 16<|Pl 2<|cu 4 [33] 37 (((((al.mk b false 0).byteV)==13)||(((al.mk b false 0).byteV)==14))) (fun K X=>?_) ?_
 refine bl 33 ((((al.mk b false 0).byteV)==13)) (fun r=>?_) (fun r=>?_)
 have aO:=ax r
 exact Pl 4<|ce X true (by rw[r];rfl)
 have aO:=aA r
 exact Pl 1<|L1<|aP E 16<|Pl 2<|ce X (((al.mk b false 0).byteV)==14) (by rw[r];rfl)
 have Y:=ud aL aN f
 refine L0<|Oc<|m2 (aU (((((al.mk b false 0).byteV)==13)||(((al.mk b false 0).byteV)==14))) 8 (ag.old aI Y)) fun bz aQ Z=>?_
 refine ab aQ fun j8 v y=>?_
 refine nt<|sq<|sg<|Pl 1<|?_
 have g:=nb (ag.lt V) d.size f
 have F:=aY Z (Ne.symm g) E
 refine L0<|aP F 16<|Pl 1<|nt<|?_
 have k:=ud j (u1 d (uz Y Z) im) a
 have a0:=aD o k
 refine cb ((((al.mk b false 0).byteV)==13)) (fun p=>?_) (fun p=>?_)
 have aW:=ax p
 refine sg<|Pl 2<|L0<|Oc<|mq (dH y)<|?_
 have bA:=ag.len y
 refine Pl 1<|L0<|Oc<|m2 (aU ((decide (((j8.l.length:Nat) : Int)≤251))) 5 y) fun bB aX aZ=>?_
 refine ab aX fun x59 a1 z=>?_
 refine nt<|go<|Pl 2<|L0<|Oc<|mq (dH z)<|?_
 have bC:=ag.len z
 refine L0<|Oc<|uo (bT (n:=((x59.l.length:Nat) : Int)) z) fun a2 a3 bD a4 bE bF b0 b1=>?_
 have bG:=Nat.le_trans (al.bytesR_le x59 ((x59.l.length:Nat) : Int)) (ag.len z)
 refine ab b0 fun x69 a5 G=>?_
 refine Pl 1<|?_
 have B:=u1 aZ b1 im
 have C:=aY B (Ne.symm g) F
 refine L0<|co C 14 (mG c 0 0 0 0 0 0 0 0 0 0 0 nS nS (.slice a2 ((x59.bytesR ((x59.l.length:Nat) : Int)).length) a3) nS ((al.mk b false 0).byteV) 0 0 0 0 nS) fun bH b2 a6=>ng<|Pl 1<|?_
 refine L0<|Oc<|m2 (bQ (ag.upd G a6 (ae g az) (aj (aM C (by decide)) aE))) fun bI a7 a8=>nt<|sq<|sg<|Pl 1<|L0<|Oc<|mq (bp a7)<|?_
 have bL:=ag.len a7
 refine Pl 1<|ng<|Pl 2<|nt<|?_
 have H:=us a6 a8
 have I:=ui B H
 have a9:=ut a0 I (ac (ni (le (le o.size j.size) d.size) f) (ac (ni o.size a) au))
 refine cb ((x69.endC.e != 0)) (fun s=>?_) (fun s=>?_)
 have J:=aB s
 refine sg<|Pl 2<|?_
 refine L0<|bi (ub (ut k I (ac (ni (le j.size d.size) f) (ac (nr a) au))) h) mZ fun bM b3 aa=>Pl 1<|nt<|rt<|tr<|d9 b3 (.int .i64 x69.endC.e)<|?_
 subst a5 a1 v
 have bO:=aS.upd' a4 (u1 (ay.mono (S':=[W,U,T]) H (ac im (ac im au))) aa im) (aj (aM C (by decide)) (aj (ag.safe G _ (by decide)) (aj (aM (ub (ud k B a) h) (by decide)) aE)))
 have hs:aq bu 1 c b=b7 (aT.mk c 0 0 0 0 0 0 0 0 0 0 0 [] [] (((((al.mk b false 0).bytesC 1).need ((((al.mk b false 0).byteV)==13)||(((al.mk b false 0).byteV)==14)) 8).need (decide ((((((al.mk b false 0).bytesC 1).need ((((al.mk b false 0).byteV)==13)||(((al.mk b false 0).byteV)==14)) 8).l.length:Nat) : Int)≤251)) 5).bytesR ((((((al.mk b false 0).bytesC 1).need ((((al.mk b false 0).byteV)==13)||(((al.mk b false 0).byteV)==14)) 8).need (decide ((((((al.mk b false 0).bytesC 1).need ((((al.mk b false 0).byteV)==13)||(((al.mk b false 0).byteV)==14)) 8).l.length:Nat) : Int)≤251)) 5).l.length:Nat) : Int)) [] ((al.mk b false 0).byteV) 0 0 0 0 []) (((((al.mk b false 0).bytesC 1).need ((((al.mk b false 0).byteV)==13)||(((al.mk b false 0).byteV)==14)) 8).need (decide ((((((al.mk b false 0).bytesC 1).need ((((al.mk b false 0).byteV)==13)||(((al.mk b false 0).byteV)==14)) 8).l.length:Nat) : Int)≤251)) 5).bytesC ((((((al.mk b false 0).bytesC 1).need ((((al.mk b false 0).byteV)==13)||(((al.mk b false 0).byteV)==14)) 8).need (decide ((((((al.mk b false 0).bytesC 1).need ((((al.mk b false 0).byteV)==13)||(((al.mk b false 0).byteV)==14)) 8).l.length:Nat) : Int)≤251)) 5).l.length:Nat) : Int)):=by
   unfold aq bu gv du dJ
   (try simp only[i,p,s,bs,if_true,if_false,decide_true,decide_false,eq_self,true_or,or_true,or_false,false_or,if_true,if_false,dR,dM,dN,dP,reduceIte])
   all_goals rfl
 rw[hs]
 exact bg J (ud a9 aa q)
 have J:=ah s
 refine bK<|sg<|?_
 refine L0<|cj (aY a8 (Ne.symm g) b2)<|?_
 refine L0<|bi (ub (ut k I (ac (ni (le j.size d.size) f) (ac (nr a) au))) h) (mG c 0 0 0 0 0 0 0 0 0 0 0 nS nS (.slice a2 ((x59.bytesR ((x59.l.length:Nat) : Int)).length) a3) nS ((al.mk b false 0).byteV) 0 0 0 0 nS) fun bP b4 ad=>Pl 1<|nt<|rt<|d9 b4 (.int .i64 0)<|?_
 subst a5 a1 v
 have hs:aq bu 1 c b=b7 (aT.mk c 0 0 0 0 0 0 0 0 0 0 0 [] [] (((((al.mk b false 0).bytesC 1).need ((((al.mk b false 0).byteV)==13)||(((al.mk b false 0).byteV)==14)) 8).need (decide ((((((al.mk b false 0).bytesC 1).need ((((al.mk b false 0).byteV)==13)||(((al.mk b false 0).byteV)==14)) 8).l.length:Nat) : Int)≤251)) 5).bytesR ((((((al.mk b false 0).bytesC 1).need ((((al.mk b false 0).byteV)==13)||(((al.mk b false 0).byteV)==14)) 8).need (decide ((((((al.mk b false 0).bytesC 1).need ((((al.mk b false 0).byteV)==13)||(((al.mk b false 0).byteV)==14)) 8).l.length:Nat) : Int)≤251)) 5).l.length:Nat) : Int)) [] ((al.mk b false 0).byteV) 0 0 0 0 []) (((((al.mk b false 0).bytesC 1).need ((((al.mk b false 0).byteV)==13)||(((al.mk b false 0).byteV)==14)) 8).need (decide ((((((al.mk b false 0).bytesC 1).need ((((al.mk b false 0).byteV)==13)||(((al.mk b false 0).byteV)==14)) 8).l.length:Nat) : Int)≤251)) 5).bytesC ((((((al.mk b false 0).bytesC 1).need ((((al.mk b false 0).byteV)==13)||(((al.mk b false 0).byteV)==14)) 8).need (decide ((((((al.mk b false 0).bytesC 1).need ((((al.mk b false 0).byteV)==13)||(((al.mk b false 0).byteV)==14)) 8).l.length:Nat) : Int)≤251)) 5).l.length:Nat) : Int)):=by
   unfold aq bu gv du dJ
   (try simp only[i,p,s,bs,if_true,if_false,decide_true,decide_false,eq_self,true_or,or_true,or_false,false_or,if_true,if_false,dR,dM,dN,dP,reduceIte])
   all_goals rfl
 rw[hs]
 exact bt J ⟨_,_,_,_,_,rfl,aR.nil ..,aR.nil ..,(aS.upd' a4 (u1 (ay.mono (S':=[W,U,T]) H (ac im (ac im au))) ad im) (aj (aM C (by decide)) (aj (ag.safe G _ (by decide)) (aj (aM (ub (ud k B a) h) (by decide)) aE)))),aR.nil ..,aR.nil ..,⟨(b8 (x:=c) (by omega)),(b8 (x:=0) (by omega)),(aJ (x:=0) (by omega)),(aJ (x:=0) (by omega)),(aJ (x:=0) (by omega)),(aJ (x:=0) (by omega)),(aJ (x:=0) (by omega)),(aJ (x:=0) (by omega)),(aJ (x:=0) (by omega)),(aJ (x:=0) (by omega)),(aJ (x:=0) (by omega)),(aJ (x:=0) (by omega)),(b8 (x:=(al.mk b false 0).byteV) (by omega)),(b8 (x:=0) (by omega)),(b8 (x:=0) (by omega)),(b8 (x:=0) (by omega)),(b8 (x:=0) (by omega))⟩⟩ (ud a9 ad q)
 have aW:=aA p
 refine sg<|Pl 1<|L0<|Oc<|m3 (bJ y) fun bR b5 L bS=>Pl 1<|?_
 have af:=aY L (Ne.symm g) F
 refine L0<|co af 17 (mG c 0 0 0 0 0 0 0 0 0 0 0 nS nS nS nS ((al.mk b false 0).byteV) j8.byteV 0 0 0 nS) fun bU M N=>ng<|Pl 2<|L0<|aP M 17<|Pl 2<|cu 4 [59] 63 (((decide (1≤j8.byteV))&&(decide (j8.byteV≤4)))) (fun K ai=>?_) ?_
 refine bl 59 ((decide (1≤j8.byteV))) (fun t=>?_) (fun t=>?_)
 have b6:=of_decide_eq_true t
 exact Pl 1<|L1<|aP M 17<|Pl 2<|ce ai (decide (j8.byteV≤4)) (by rw[t];rfl)
 have b6:=of_decide_eq_false t
 exact Pl 4<|ce ai false (by rw[t];rfl)
 refine L0<|Oc<|m2 (aU (((decide (1≤j8.byteV))&&(decide (j8.byteV≤4)))) 6 (ag.upd b5 N (ae g az) (aj (aM af (by decide)) aE))) fun bW b9 O=>?_
 refine ab b9 fun bX ak ba=>?_
 refine ng<|Pl 2<|nt<|c1<|go<|Pl 1<|?_
 refine L0<|Oc<|m3 (rb (c:=c) (me:=(al.mk b false 0).byteV) (kd:=j8.byteV) ⟨hcode1,hcode2⟩ (b8 (by omega)) (b8 (by omega)) ba (aY O (Ne.symm g) M) g) fun bY am bb an=>?_
 obtain⟨bc,D,P⟩:=bb
 refine ng<|Pl 1<|L0<|Oc<|m2 (bQ am) fun bZ bd Q=>?_
 refine ab bd fun ao ap ar=>?_
 refine nt<|sq<|sg<|Pl 1<|L0<|Oc<|mq (bp ar)<|?_
 have c2:=ag.len ar
 refine Pl 1<|ng<|Pl 2<|nt<|?_
 have R:=ui L (ui N (ui O (u1 an Q im)))
 have av:=ut a0 R (ac (ni o.size a) (ac (ni (le (le o.size j.size) d.size) f) au))
 refine cb ((ao.e != 0)) (fun u=>?_) (fun u=>?_)
 have S:=aB u
 refine sg<|Pl 2<|?_
 refine L0<|bi (ub (ut k R (ac (nr a) (ac (ni (le j.size d.size) f) au))) h) mZ fun c3 be bf=>Pl 1<|nt<|rt<|tr<|d9 be (.int .i64 ao.e)<|?_
 subst ap ak v
 have hs:aq bu 1 c b=b7 ({ aT.zero with code:=c,mei:=(al.mk b false 0).byteV,kind:=(((al.mk b false 0).bytesC 1).need ((((al.mk b false 0).byteV)==13)||(((al.mk b false 0).byteV)==14)) 8).byteV,level:=(((((al.mk b false 0).bytesC 1).need ((((al.mk b false 0).byteV)==13)||(((al.mk b false 0).byteV)==14)) 8).bytesC 1).need ((decide (1≤(((al.mk b false 0).bytesC 1).need ((((al.mk b false 0).byteV)==13)||(((al.mk b false 0).byteV)==14)) 8).byteV))&&(decide ((((al.mk b false 0).bytesC 1).need ((((al.mk b false 0).byteV)==13)||(((al.mk b false 0).byteV)==14)) 8).byteV≤4))) 6).byteV,more:=(jV (((((al.mk b false 0).bytesC 1).need ((((al.mk b false 0).byteV)==13)||(((al.mk b false 0).byteV)==14)) 8).bytesC 1).need ((decide (1≤(((al.mk b false 0).bytesC 1).need ((((al.mk b false 0).byteV)==13)||(((al.mk b false 0).byteV)==14)) 8).byteV))&&(decide ((((al.mk b false 0).bytesC 1).need ((((al.mk b false 0).byteV)==13)||(((al.mk b false 0).byteV)==14)) 8).byteV≤4))) 6)).byteV,next:=(mN (((((al.mk b false 0).bytesC 1).need ((((al.mk b false 0).byteV)==13)||(((al.mk b false 0).byteV)==14)) 8).bytesC 1).need ((decide (1≤(((al.mk b false 0).bytesC 1).need ((((al.mk b false 0).byteV)==13)||(((al.mk b false 0).byteV)==14)) 8).byteV))&&(decide ((((al.mk b false 0).bytesC 1).need ((((al.mk b false 0).byteV)==13)||(((al.mk b false 0).byteV)==14)) 8).byteV≤4))) 6)).byteV,objects:=(cP (((al.mk b false 0).bytesC 1).need ((((al.mk b false 0).byteV)==13)||(((al.mk b false 0).byteV)==14)) 8).byteV (((((al.mk b false 0).bytesC 1).need ((((al.mk b false 0).byteV)==13)||(((al.mk b false 0).byteV)==14)) 8).bytesC 1).need ((decide (1≤(((al.mk b false 0).bytesC 1).need ((((al.mk b false 0).byteV)==13)||(((al.mk b false 0).byteV)==14)) 8).byteV))&&(decide ((((al.mk b false 0).bytesC 1).need ((((al.mk b false 0).byteV)==13)||(((al.mk b false 0).byteV)==14)) 8).byteV≤4))) 6)).2 }) ((cP (((al.mk b false 0).bytesC 1).need ((((al.mk b false 0).byteV)==13)||(((al.mk b false 0).byteV)==14)) 8).byteV (((((al.mk b false 0).bytesC 1).need ((((al.mk b false 0).byteV)==13)||(((al.mk b false 0).byteV)==14)) 8).bytesC 1).need ((decide (1≤(((al.mk b false 0).bytesC 1).need ((((al.mk b false 0).byteV)==13)||(((al.mk b false 0).byteV)==14)) 8).byteV))&&(decide ((((al.mk b false 0).bytesC 1).need ((((al.mk b false 0).byteV)==13)||(((al.mk b false 0).byteV)==14)) 8).byteV≤4))) 6)).1):=by
   unfold aq bu gv du dJ
   (try simp only[i,p,u,bs,if_true,if_false,decide_true,decide_false,eq_self,true_or,or_true,or_false,false_or,if_true,if_false,dR,dM,dN,dP,reduceIte])
   all_goals rfl
 rw[hs]
 exact bg S (ud av bf q)
 have S:=ah u
 refine bK<|sg<|?_
 refine L0<|cj (hz:=(by rw[D.2];exact aV)) (aY Q (Ne.symm g) D.1)<|?_
 refine L0<|bi (hz:=(by rw[D.2];exact aV)) (hv:=P.size) (h1:=P.one) (ub (ut k R (ac (nr a) (ac (ni (le j.size d.size) f) au))) h) (bc) fun c4 bh aw=>Pl 1<|nt<|rt<|fc 22 D.2 bh (.int .i64 0)<|?_
 subst ap ak v
 have hs:aq bu 1 c b=b7 ({ aT.zero with code:=c,mei:=(al.mk b false 0).byteV,kind:=(((al.mk b false 0).bytesC 1).need ((((al.mk b false 0).byteV)==13)||(((al.mk b false 0).byteV)==14)) 8).byteV,level:=(((((al.mk b false 0).bytesC 1).need ((((al.mk b false 0).byteV)==13)||(((al.mk b false 0).byteV)==14)) 8).bytesC 1).need ((decide (1≤(((al.mk b false 0).bytesC 1).need ((((al.mk b false 0).byteV)==13)||(((al.mk b false 0).byteV)==14)) 8).byteV))&&(decide ((((al.mk b false 0).bytesC 1).need ((((al.mk b false 0).byteV)==13)||(((al.mk b false 0).byteV)==14)) 8).byteV≤4))) 6).byteV,more:=(jV (((((al.mk b false 0).bytesC 1).need ((((al.mk b false 0).byteV)==13)||(((al.mk b false 0).byteV)==14)) 8).bytesC 1).need ((decide (1≤(((al.mk b false 0).bytesC 1).need ((((al.mk b false 0).byteV)==13)||(((al.mk b false 0).byteV)==14)) 8).byteV))&&(decide ((((al.mk b false 0).bytesC 1).need ((((al.mk b false 0).byteV)==13)||(((al.mk b false 0).byteV)==14)) 8).byteV≤4))) 6)).byteV,next:=(mN (((((al.mk b false 0).bytesC 1).need ((((al.mk b false 0).byteV)==13)||(((al.mk b false 0).byteV)==14)) 8).bytesC 1).need ((decide (1≤(((al.mk b false 0).bytesC 1).need ((((al.mk b false 0).byteV)==13)||(((al.mk b false 0).byteV)==14)) 8).byteV))&&(decide ((((al.mk b false 0).bytesC 1).need ((((al.mk b false 0).byteV)==13)||(((al.mk b false 0).byteV)==14)) 8).byteV≤4))) 6)).byteV,objects:=(cP (((al.mk b false 0).bytesC 1).need ((((al.mk b false 0).byteV)==13)||(((al.mk b false 0).byteV)==14)) 8).byteV (((((al.mk b false 0).bytesC 1).need ((((al.mk b false 0).byteV)==13)||(((al.mk b false 0).byteV)==14)) 8).bytesC 1).need ((decide (1≤(((al.mk b false 0).bytesC 1).need ((((al.mk b false 0).byteV)==13)||(((al.mk b false 0).byteV)==14)) 8).byteV))&&(decide ((((al.mk b false 0).bytesC 1).need ((((al.mk b false 0).byteV)==13)||(((al.mk b false 0).byteV)==14)) 8).byteV≤4))) 6)).2 }) ((cP (((al.mk b false 0).bytesC 1).need ((((al.mk b false 0).byteV)==13)||(((al.mk b false 0).byteV)==14)) 8).byteV (((((al.mk b false 0).bytesC 1).need ((((al.mk b false 0).byteV)==13)||(((al.mk b false 0).byteV)==14)) 8).bytesC 1).need ((decide (1≤(((al.mk b false 0).bytesC 1).need ((((al.mk b false 0).byteV)==13)||(((al.mk b false 0).byteV)==14)) 8).byteV))&&(decide ((((al.mk b false 0).bytesC 1).need ((((al.mk b false 0).byteV)==13)||(((al.mk b false 0).byteV)==14)) 8).byteV≤4))) 6)).1):=by
   unfold aq bu gv du dJ
   (try simp only[i,p,u,bs,if_true,if_false,decide_true,decide_false,eq_self,true_or,or_true,or_false,false_or,if_true,if_false,dR,dM,dN,dP,reduceIte])
   all_goals rfl
 rw[hs]
 exact bt S (aF.upd P (us Q aw) (aj (ag.safe am _ (by decide)) (aj (aM (ub (ut k (ui L (ui N (ui O an))) (ac (nr a) (ac (ni (le j.size d.size) f) au))) h) (by decide)) aE))) (ud av aw q)
theorem ot{m:Bool}{A:Option Addr}{cp:Nat}{b:List Int}{w:World}{dir c:Int}(hcode:B8 c)(hsl:aS m w (.slice A b.length cp) b)(hb:b.length≤1048576)(hd:¬ (dir=0∨dir=1)) :
    Calls Tryz.prog 66 #[.int .i64 dir,.int .u8 c,.slice A b.length cp] w (dC (aq bu dir c b) w):=by
 obtain⟨hcode1,hcode2⟩:=hcode
 have hln:(b.length:Int)≤1048576:=by omega
 have e0:(dir != 0)=true:=by simp;omega
 have e1:(dir != 1)=true:=by simp;omega
 refine en 81 Tryz.func66 rfl<|sg<|L0<|bN mZ fun g h a d e=>Pl 1<|nt<|sq<|bk<|sg<|Pl 3<|sy 14 e0<|Pl 4<|nl<|?_
 refine tn<|ct e1<|sg<|Pl 1<|L0<|bi d mZ fun i dA f=>Pl 1<|nt<|rt<|br<|tr<|d9 dA (.int .i64 1)<|?_
 have hs:aq bu dir c b=(aT.zero,1):=by
   unfold aq bu gv du dJ
   (try simp only[e0,e1,bs,if_true,if_false,decide_true,decide_false,eq_self,true_or,or_true,or_false,false_or,if_true,if_false,dR,dM,dN,dP,reduceIte,hd])
   all_goals rfl
 rw[hs]
 exact bV (ud e f a)
theorem lZ{m:Bool}{v:Value}{b:List Int}{w:World}{dir c:Int}(hc:B8 c)(h:aS m w v b)(hb:b.length≤1048576) :
    Calls Tryz.prog 66 #[.int .i64 dir,.int .u8 c,v] w (dC (aq bu dir c b) w):=by
  obtain⟨A,cp,rfl,_,_⟩:=h.shape
  by_cases h0:dir=0
  · subst h0;exact oU hc h hb
  by_cases h1:dir=1
  · subst h1;exact p7 hc h hb
  exact ot hc h hb (by omega)
open Go.RowKit
def ru (C:al) : al:=(C.bytesC 1).need (C.byteV==6) 9
def nq (C:al) : al:=((ru C).wordsC 1).need ((ru C).wordV != 0) 6
def pm (C:al) : al:=((nq C).wordsC 1).need (decide ((nq C).wordV≤9999)) 7
def fJ (C:al) : al:=((pm C).wordsC 1).need ((pm C).wordV != 0) 5
def bq (C:al) : dY:=⟨(ru C).wordV,(nq C).wordV,(pm C).wordV,[]⟩
def ip (s:Int)(C:al) : Int:=s+(2+2*(pm C).wordV)
def eZ (s:Int)(C:al) : al:=(fJ C).need (decide (ip s C≤245)) 5
def jz (C:al) : al:=(C.bytesC 1).need ((C.byteV%2==1&&decide (3≤C.byteV))&&decide (C.byteV≤((C.bytesC 1).l.length:Int))) 5
def fy (C:al) : al:=((jz C).bytesC 1).need ((jz C).byteV==6) 9
def gQ (C:al) : al:=(fy C).wordsC (Int.tdiv (C.byteV-1) 2)
def gq (C:al) : dY:=⟨0,0,0,(fy C).wordsR (Int.tdiv (C.byteV-1) 2)⟩
def qZ (C:al) : al:=(fJ C).need (decide (2*(pm C).wordV≤((fJ C).l.length:Int))) 5
def kz (C:al) : al:=(qZ C).wordsC (pm C).wordV
def jD (C:al) : dY:=⟨(ru C).wordV,(nq C).wordV,(pm C).wordV,(qZ C).wordsR (pm C).wordV⟩
def zt (g:Nat)(C':al)(r:dY)(w:World)(e:Ending)(w':World) : Prop:=∃ A c,e = .returned (.agg #[.int .u16 r.file,.int .u16 r.record,.int .u16 r.count,.slice A r.words.length c])∧dT true w' (.slice A r.words.length c) r.words∧dA r.file∧dA r.record∧dA r.count∧ag w' g C'∧ay [g] w w'
theorem nY{g:Nat}{C:al}{w:World}(hC:ag w g C) : Calls Tryz.prog 125 #[.pointer (some ⟨g,0,none⟩)] w (zt g (fJ C) (bq C) w):=by
 have hlen:=hC.len
 refine en 34 Tryz.func125 rfl<|sg<|L0<|bN #[.int .u16 0,.int .u16 0,.int .u16 0,.slice none 0 0] fun Z a0 c B b=>ng<|Pl 2<|?_
 refine L0<|Oc<|m3 (bJ (ag.old hC b)) fun a1 D d a2=>Pl 1<|L0<|Oc<|m2 (aU ((C.byteV==6)) 9 D) fun a3 E e=>?_
 refine ab E fun i8 F G=>?_
 refine ng<|L0<|bN #[.int .u16 0,.int .u16 0,.int .u16 0,.slice none 0 0] fun a4 a5 f H h=>ng<|Pl 1<|?_
 refine L0<|Oc<|m3 (bI (ag.old G h)) fun a6 I i a7=>Pl 1<|?_
 have a:=nb (ag.lt hC) (le (le b.size d.size) e.size) f
 have j:=aY i (Ne.symm a) H
 refine L0<|co j 0 #[.int .u16 i8.wordV,.int .u16 0,.int .u16 0,.slice none 0 0] fun a8 k l=>ng<|Pl 2<|L0<|aP k 0<|Pl 1<|?_
 refine L0<|Oc<|m2 (aU ((i8.wordV != 0)) 6 (ag.upd I l (ae a az) (aj (aM j (by decide)) aE))) fun a9 J K=>?_
 refine ab J fun j8 L M=>?_
 refine ng<|Pl 1<|L0<|Oc<|m3 (bI M) fun aa N O ac=>Pl 1<|?_
 have m:=u1 K O im
 have n:=aY m (Ne.symm a) k
 refine L0<|co n 1 #[.int .u16 i8.wordV,.int .u16 j8.wordV,.int .u16 0,.slice none 0 0] fun ad o p=>ng<|Pl 2<|L0<|aP o 1<|Pl 1<|?_
 refine L0<|Oc<|m2 (aU ((decide (j8.wordV≤9999))) 7 (ag.upd N p (ae a az) (aj (aM n (by decide)) aE))) fun af P Q=>?_
 refine ab P fun x61 R S=>?_
 refine ng<|Pl 1<|L0<|Oc<|m3 (bI S) fun ah T U ai=>Pl 1<|?_
 have q:=u1 Q U im
 have r:=aY q (Ne.symm a) o
 refine L0<|co r 2 #[.int .u16 i8.wordV,.int .u16 j8.wordV,.int .u16 x61.wordV,.slice none 0 0] fun ak s t=>ng<|Pl 2<|L0<|aP s 2<|Pl 1<|?_
 refine L0<|Oc<|m2 (aU ((x61.wordV != 0)) 5 (ag.upd T t (ae a az) (aj (aM r (by decide)) aE))) fun am V u=>?_
 refine ab V fun x77 W X=>?_
 refine ng<|?_
 refine L0<|cj (aY u (Ne.symm a) s)<|?_
 have v:=u1 d (u1 e (ud h (ui i (ui l (ui m (ui p (ui q (us t u)))))) f) im) im
 have y:=nb (ag.lt hC) lr c
 have z:=aY v (Ne.symm y) B
 refine L0<|bi z #[.int .u16 i8.wordV,.int .u16 j8.wordV,.int .u16 x61.wordV,.slice none 0 0] fun an Y A=>nt<|rt<|zH Y<|?_
 subst W R L F
 exact⟨_,_,rfl,aR.nil ..,aJ (x:=((C.bytesC 1).need (C.byteV==6) 9).wordV) (by omega),aJ (x:=((((C.bytesC 1).need (C.byteV==6) 9).wordsC 1).need (((C.bytesC 1).need (C.byteV==6) 9).wordV != 0) 6).wordV) (by omega),aJ (x:=((((((C.bytesC 1).need (C.byteV==6) 9).wordsC 1).need (((C.bytesC 1).need (C.byteV==6) 9).wordV != 0) 6).wordsC 1).need (decide (((((C.bytesC 1).need (C.byteV==6) 9).wordsC 1).need (((C.bytesC 1).need (C.byteV==6) 9).wordV != 0) 6).wordV≤9999)) 7).wordV) (by omega),(ag.upd X A (ae y az) (aj (aM z (by decide)) aE)),(ue b (us v A) c)⟩
theorem sC{g:Nat}{C:al}{w:World}(hC:ag w g C) : Calls Tryz.prog 128 #[.pointer (some ⟨g,0,none⟩)] w (zt g (gQ C) (gq C) w):=by
 have hlen:=hC.len
 refine en 33 Tryz.func128 rfl<|sg<|L0<|bN #[.int .u16 0,.int .u16 0,.int .u16 0,.slice none 0 0] fun R S f i j=>ng<|Pl 1<|?_
 refine L0<|Oc<|m3 (bJ (ag.old hC j)) fun T c k U=>L0<|Oi C.byteV<|Pl 1<|ng<|Pl 2<|L0<|Oe (.int .i64 (Int.tmod C.byteV 2)) (.int .i64 (C.byteV%2)) (congrArg (Value.int .i64) (Int.tmod_eq_emod_of_nonneg (by omega)))<|Pl 2<|cu 3 [11] 14 ((((C.byteV%2)==1)&&(decide (3≤C.byteV)))) (fun K m=>?_) ?_
 refine bl 11 (((C.byteV%2)==1)) (fun a=>?_) (fun a=>?_)
 have y:=ax a
 exact Pl 3<|ce m (decide (3≤C.byteV)) (by rw[a];rfl)
 have y:=aA a
 exact Pl 3<|ce m false (by rw[a];rfl)
 refine Pl 1<|cu 5 [15] 20 (((((C.byteV%2)==1)&&(decide (3≤C.byteV)))&&(decide (C.byteV≤(((C.bytesC 1).l.length:Nat) : Int))))) (fun K o=>?_) ?_
 refine bl 15 ((((C.byteV%2)==1)&&(decide (3≤C.byteV)))) (fun b=>?_) (fun b=>?_)
 have z:=(bM b).1
 have A:=(bM b).2
 have V:=ax z
 have W:=of_decide_eq_true A
 refine Pl 2<|L1<|Oc<|mq (dH c)<|?_
 have X:=ag.len c
 exact Pl 2<|ce o (decide (C.byteV≤(((C.bytesC 1).l.length:Nat) : Int))) (by rw[b];rfl)
 exact Pl 5<|ce o false (by rw[b];rfl)
 refine L0<|Oc<|m2 (aU (((((C.byteV%2)==1)&&(decide (3≤C.byteV)))&&(decide (C.byteV≤(((C.bytesC 1).l.length:Nat) : Int))))) 5 c) fun Y B p=>?_
 refine ab B fun x28 D E=>?_
 refine ng<|Pl 2<|L0<|Oc<|m3 (bJ E) fun Z F q a0=>Pl 1<|L0<|Oc<|m2 (aU ((x28.byteV==6)) 9 F) fun a1 G r=>?_
 refine ab G fun x38 H I=>?_
 refine ng<|Pl 2<|L0<|Oi (C.byteV-1)<|L0<|Oe (.int .i64 (IntKind.i64.wrap (Int.tdiv (C.byteV-1) 2))) (.int .i64 (Int.tdiv (C.byteV-1) 2)) (congrArg (Value.int .i64) (vF (by omega) (by omega)))<|L0<|Oc<|si (dQ (n:=(Int.tdiv (C.byteV-1) 2)) I) fun J L a2 s a3 a4 M N=>?_
 refine ab M fun x48 O P=>?_
 refine Pl 1<|?_
 have t:=u1 k (u1 p (u1 q (u1 r N im) im) im) im
 have u:=nb (ag.lt hC) lr f
 have v:=aY t (Ne.symm u) i
 refine L0<|bi v #[.int .u16 0,.int .u16 0,.int .u16 0,.slice J ((x38.wordsR (Int.tdiv (C.byteV-1) 2)).length) L] fun a5 Q d=>nt<|rt<|zH Q<|?_
 subst O H D
 exact⟨_,_,rfl,((ak s d (fun x hx=>(ae (fun e=>(aC (am i) (le (le (le k.size p.size) q.size) r.size) s) (e▸hx)) az)) (fun _ _ h=>h))).rd,aJ (x:=0) (by omega),aJ (x:=0) (by omega),aJ (x:=0) (by omega),(ag.upd P d (ae u az) (aj (aM v (by decide)) aE)),(ue j (us t d) f)⟩
theorem y6{g:Nat}{C:al}{w:World}(hC:ag w g C) : Calls Tryz.prog 130 #[.pointer (some ⟨g,0,none⟩)] w (zt g (kz C) (jD C) w):=by
 have hlen:=hC.len
 refine en 22 Tryz.func130 rfl<|sg<|L0<|bN #[.int .u16 0,.int .u16 0,.int .u16 0,.slice none 0 0] fun X Y v f i=>ng<|Pl 1<|?_
 refine L0<|Oc<|zl (nY (ag.old hC i)) fun I J Z a0 K L M N c=>?_
 obtain⟨a1,a2⟩:=K
 obtain⟨a3,a4⟩:=L
 obtain⟨a5,a6⟩:=M
 refine L0<|bN #[.int .u16 0,.int .u16 0,.int .u16 0,.slice none 0 0] fun O a7 j y z=>L0<|bi y #[.int .u16 ((bq C).file),.int .u16 ((bq C).record),.int .u16 ((bq C).count),.slice I ((bq C).words.length) J] fun a8 P k=>nt<|sq<|Rg 9 (fun w'=>w'.cell? ⟨O,2,none⟩=some (.int .u16 ((bq C).count))) fun a9 d=>?_
 have m:=ub d P
 refine aZ (aa m rfl) fun a=>Rt 0 a<|Rt 1 a<|Rl 2 a (fun _ hs=>hs)<|Rr 3 a (.int .i64 ((bq C).count)) (fun _ _=>cD (.int .i64 (IntKind.i64.wrap ((bq C).count))) (by kernel_rfl) (congrArg (Value.int .i64) (i64_in (by omega))))<|Rr 4 a (.int .i64 (2*((bq C).count))) (fun _ _=>cD (.int .i64 (IntKind.i64.wrap (2*((bq C).count)))) (by kernel_rfl) (congrArg (Value.int .i64) (IntWalk.i64_in _ (by omega))))<|Rt 5 a<|?_
 have o:=ud z (aD k d) j
 have p:=ag.old N o
 refine R0 6 rfl<|Oc<|mq (dH p)<|?_
 have ac:=ag.len p
 refine aZ (aa m rfl) fun Q=>Rt 7 Q<|R0 8 rfl<|Oc<|m2 (aU ((decide ((2*((bq C).count))≤(((fJ C).l.length:Nat) : Int)))) 5 p) fun ad R b=>?_
 refine ab R fun x54 S T=>?_
 have q:=nb (ag.lt hC) (le i.size c.size) j
 have r:=aY b (Ne.symm q) m
 refine aZ (aa r rfl) fun af=>re<|tn<|sg<|Pl 2<|L0<|aP r 2<|L0<|Oi ((bq C).count)<|L0<|Oc<|si (dQ (n:=(bq C).count) T) fun A B ah s ai an U t=>Pl 1<|?_
 have D:=aY t (Ne.symm q) r
 refine L0<|co D 3 #[.int .u16 ((bq C).file),.int .u16 ((bq C).record),.int .u16 ((bq C).count),.slice A ((x54.wordsR ((bq C).count)).length) B] fun ao V E=>ng<|L0<|cj V<|?_
 have F:=u1 c (ue o (ui b (us t E)) j) im
 have u:=nb (ag.lt hC) lr v
 refine L0<|bi (aY F (Ne.symm u) f) #[.int .u16 ((bq C).file),.int .u16 ((bq C).record),.int .u16 ((bq C).count),.slice A ((x54.wordsR ((bq C).count)).length) B] fun ap W G=>nt<|rt<|zH W<|?_
 subst S
 have H:=us E G
 exact⟨_,_,rfl,((ak s H (fun x hx=>(ae (fun e=>(aC (am y) (le (le k.size d.size) b.size) s) (e▸hx)) (ae (fun e=>(aC (am f) (le (le (le (le c.size z.size) k.size) d.size) b.size) s) (e▸hx)) az))) (fun _ _ h=>h))).rd,aJ (x:=(bq C).file) (by omega),aJ (x:=(bq C).record) (by omega),aJ (x:=(bq C).count) (by omega),(ag.upd U H (ae q (ae u az)) (aj (aM D (by decide)) (aj (aM (aY (u1 c (uz o (u1 b t im)) im) (Ne.symm u) f) (by decide)) aE))),(ue i (us F G) v)⟩
theorem pG{n:Int}{w:World}(hn:0≤n∧n<256) : Calls Tryz.prog 126 #[.int .i64 n] w (bv (.bool ((decide (7≤n)&&decide (n≤245))&&n%7==0)) w):=by
 refine en 14 Tryz.func126 rfl<|sg<|Pl 1<|ng<|Pl 3<|cu 3 [5] 8 (((decide (7≤n))&&(decide (n≤245)))) (fun K c=>?_) ?_
 refine bl 5 ((decide (7≤n))) (fun a=>?_) (fun a=>?_)
 have e:=of_decide_eq_true a
 exact Pl 3<|ce c (decide (n≤245)) (by rw[a];rfl)
 have e:=of_decide_eq_false a
 exact Pl 3<|ce c false (by rw[a];rfl)
 refine Pl 1<|cu 4 [9] 13 ((((decide (7≤n))&&(decide (n≤245)))&&((n%7)==0))) (fun K d=>?_) ?_
 refine bl 9 (((decide (7≤n))&&(decide (n≤245)))) (fun b=>?_) (fun b=>?_)
 have f:=(bM b).1
 have g:=(bM b).2
 have h:=of_decide_eq_true f
 have i:=of_decide_eq_true g
 exact Pl 1<|L1<|Oe (.int .i64 (Int.tmod n 7)) (.int .i64 (n%7)) (congrArg (Value.int .i64) (Int.tmod_eq_emod_of_nonneg (by omega)))<|Pl 2<|ce d ((n%7)==0) (by rw[b];rfl)
 exact Pl 4<|ce d false (by rw[b];rfl)
 refine Pl 1<|nt<|rt<|rr (.bool (((decide (7≤n))&&(decide (n≤245)))&&((n%7)==0)))<|?_
 exact⟨rfl,(ay.refl [] _)⟩
theorem qC{n:Int}{w:World}(hn:0≤n∧n<256) : Calls Tryz.prog 127 #[.int .i64 n] w (bv (.bool (decide (4≤n)&&decide (n≤245))) w):=by
 refine en 9 Tryz.func127 rfl<|sg<|Pl 1<|ng<|Pl 3<|cu 3 [5] 8 (((decide (4≤n))&&(decide (n≤245)))) (fun K b=>?_) ?_
 refine bl 5 ((decide (4≤n))) (fun a=>?_) (fun a=>?_)
 have c:=of_decide_eq_true a
 exact Pl 3<|ce b (decide (n≤245)) (by rw[a];rfl)
 have c:=of_decide_eq_false a
 exact Pl 3<|ce b false (by rw[a];rfl)
 refine Pl 1<|nt<|rt<|rr (.bool ((decide (4≤n))&&(decide (n≤245))))<|?_
 exact⟨rfl,(ay.refl [] _)⟩
theorem qv{n:Int}{w:World}(hn:0≤n∧n<256) : Calls Tryz.prog 129 #[.int .i64 n] w (bv (.bool (decide (9≤n)&&decide (n≤251))) w):=by
 refine en 9 Tryz.func129 rfl<|sg<|Pl 1<|ng<|Pl 3<|cu 3 [5] 8 (((decide (9≤n))&&(decide (n≤251)))) (fun K b=>?_) ?_
 refine bl 5 ((decide (9≤n))) (fun a=>?_) (fun a=>?_)
 have c:=of_decide_eq_true a
 exact Pl 3<|ce b (decide (n≤251)) (by rw[a];rfl)
 have c:=of_decide_eq_false a
 exact Pl 3<|ce b false (by rw[a];rfl)
 refine Pl 1<|nt<|rt<|rr (.bool ((decide (9≤n))&&(decide (n≤251))))<|?_
 exact⟨rfl,(ay.refl [] _)⟩
theorem it{e:Int}{w:World}:Calls Tryz.prog 96 #[.int .i64 e] w (bv (.int .i64 (if e==2 then 5 else e)) w):=by
 refine en 6 Tryz.func96 rfl<|sg<|Pl 1<|nt<|sq<|sg<|Pl 2<|nt<|cb ((e==2)) (fun a=>?_) (fun a=>?_)
 have b:=ax a
 refine sg<|Pl 1<|nt<|rt<|tr<|rr (.int .i64 5)<|?_
 have hs:(if e==2 then (5:Int) else e)=5:=by simp only[a,bs,if_true,if_false,decide_true,decide_false,reduceIte]
 rw[hs]
 exact⟨rfl,(ay.refl [] _)⟩
 have b:=aA a
 refine bK<|sg<|Pl 2<|nt<|rt<|rr (.int .i64 e)<|?_
 have hs:(if e==2 then (5:Int) else e)=e:=by simp only[a,bs,if_true,if_false,decide_true,decide_false,reduceIte]
 rw[hs]
 exact⟨rfl,(ay.refl [] _)⟩
open Go.RowKit
structure WF (F:Fence) (n:Nat) (P:Program) (ops:Array Oper) (Q:Exit→Act→World→Prop) (l:List Oper) (a:Act) (w:World) : Prop where
  out:wpListIn F n P ops Q l a w
def et (F:Fence) : Prop:=F=Fence.wide∨∃ l,F=Fence.wide.inRound l
theorem kX:et Fence.wide:=.inl rfl
theorem jB(l:Nat) : et (Fence.wide.inRound l):=.inr ⟨l,rfl⟩
theorem et.fn{F:Fence}(h:et F)(f:FuncId) : F.fn f:=by
  rcases h with rfl|⟨l,rfl⟩<;>trivial
theorem et.depth{F:Fence}(h:et F) : F.depth=none:=by
  rcases h with rfl|⟨l,rfl⟩<;>rfl
section
variable {F:Fence}{n:Nat}{P:Program}{Q:Exit→Act→World→Prop}{a:Act}{w:World}{K:Act→World→Prop}{ops:Array Oper}{rest:List Oper}{o:Oper}{N:Option Tmp}
theorem zz{f:FuncId}{args:Array Value}{R:Ending→World→Prop}(hF:et F)(h:Calls P f args w R) : CallsIn F n P f args w R:=by
  rcases hF with rfl|⟨l,rfl⟩
  · exact callsIn_wide.2 h
  · exact CallsIn.inRound l (callsIn_wide.2 h)
theorem AJ{row:String}{args:Array Value}{R:Value→World→Prop}(hF:et F)(h:Rows P row args w R) : RowsIn F n P row args w R:=by
  have h0:RowsIn Fence.wide n P row args w R:=fun c cs _=>let ⟨v,w',r,s⟩:=h c cs; ⟨v,w',r,stepsIn_wide.2 s⟩
  rcases hF with rfl|⟨l,rfl⟩
  · exact h0
  · exact h0
def fl:Op→Bool
  | .defer _=>false
  | _=>true
theorem C6(hF:et F)(hd:fl o.op=true)(h:o.wp P a w K Q) : o.wpIn F n P a w K Q:=by
  refine⟨fun f _=>hF.fn f,?_⟩
  rw[Oper.semAt_eq _ _ _ (fun c hc=>by rw[hc] at hd;cases hd)]
  unfold Oper.wp at h
  have hdep:∀ {p:Prop},F.depth.isSome=true→p:=fun h=>by rw[hF.depth] at h;cases h
  generalize (execOp a.eval o).run P w=r at h ⊢
  cases r with
  | ok x w' =>
    cases x<;>simp only[Oper.upon,Oper.uponIn] at h ⊢
    case value u=>exact h
    case skip=>exact h
    case defer d=>exact h
    case enter f args=>exact⟨hdep,zz hF h⟩
    case row row args=>exact⟨hdep,AJ hF h⟩
  | halt x w' =>
    cases x<;>simp only[Oper.upon,Oper.uponIn] at h ⊢
    case panic u=>exact h
theorem Cy{id:Nat}{l:List Oper}(n:Nat)(h:WF Fence.wide n P l.toArray Q l a w) : (Code.region id l.toArray false).wp P Q a w:=wpIn_wide.1 (wpIn_region_lit h.out)
theorem Bl{id:Nat}{l:List Oper}(h:WF F n P l.toArray Q l a w) : (Code.region id l.toArray false).wpIn F n P Q a w:=wpIn_region_lit h.out
theorem Bx(h:Q .normal a w) : WF F n P ops Q [] a w:=⟨h⟩
theorem BW(hF:et F)(hd:fl o.op=true)(hw:Region.wanted o (yielded ops a.tmps)=true)(h:OW P o a w (WF F n P ops Q rest) Q) : WF F n P ops Q (o :: rest) a w:=by
  refine⟨?_⟩
  unfold wpListIn
  rw[if_pos hw]
  exact C6 hF hd (hH h fun _ _ h=>h.out)
theorem BA(hF:et F)(hw:Region.wanted o (yielded ops a.tmps)=false)(hN:o.dst=N)(h:WF F n P ops Q rest (a.put N undef) w) : WF F n P ops Q (o :: rest) a w:=by
  subst hN
  refine⟨?_⟩
  unfold wpListIn
  rw[if_neg (by simp[hw])]
  exact⟨fun f _=>hF.fn f,h.out⟩
theorem zE{x:Operand}{opds:Array Operand}{ts:Array TypeId}{l:Nat}{r:Loop}(args:Array Value)(hw:Region.wanted o (yielded ops a.tmps)=true)(hN:o.dst=N)(hop:o.op = .call { callee:=.value x,args:=opds,argTypes:=ts })
    (hx:a.eval x = .func (.yield l) #[] #[]) (hargs:opds.map a.eval=args) (hl:w.heap[l]? = some (.loop r)) (hs:args.size=r.params.size)
    (h:RoundIn Fence.wide (n-1) P l r.fn ((r.params.zip args).foldl (fun tmps (t,a)=>tmps.setIfInBounds t a) r.tmps) r.assign r.body w (fun e w'=>∃ v,e = .returned v∧WF Fence.wide n P ops Q rest (a.put N v) w')) : WF Fence.wide n P ops Q (o :: rest) a w:=by
  subst hN
  refine⟨?_⟩
  unfold wpListIn
  rw[if_pos hw]
  refine⟨fun f _=>trivial,?_⟩
  have hrun:(o.semAt Fence.wide.round a.eval).run P w = .ok (.round l r.fn ((r.params.zip args).foldl (fun tmps (t,a)=>tmps.setIfInBounds t a) r.tmps) r.assign r.body) w:=by
    show(execOp a.eval o).run P w=_
    unfold execOp
    simp only[hop,resolve,hx,Deferred.ofValue,Sem.run_bind,Sem.run_pure,Result.andThen_ok,invoke,hargs]
    have:=run_yield (P:=P) (args:=args) hl hs
    simpa using this
  rw[hrun,Oper.uponIn_round]
  refine⟨(by simp[Fence.wide]),h.mono fun e w' hh=>?_⟩
  obtain⟨v,rfl,h2⟩:=hh
  exact h2.out
end
theorem xF{P:Program}{n:Nat}{ops:Array Oper}{Q:Exit→Act→World→Prop}{rest:List Oper}{o:Oper}{a:Act}{w:World}{N:Option Tmp}{x:Operand}{opds:Array Operand}{ts:Array TypeId}{l:Nat}{r:Loop}(v:Value)(p:Tmp)(hw:Region.wanted o (yielded ops a.tmps)=true)(hN:o.dst=N)(hop:o.op = .call { callee:=.value x,args:=opds,argTypes:=ts })
    (hx:a.eval x = .func (.yield l) #[] #[]) (hargs:opds.map a.eval = #[v]) (hl:w.heap[l]? = some (.loop r)) (hp:r.params = #[p])
    (h:RoundIn Fence.wide (n-1) P l r.fn (r.tmps.setIfInBounds p v) r.assign r.body w (fun e w'=>∃ u,e = .returned u∧WF Fence.wide n P ops Q rest (a.put N u) w')) : WF Fence.wide n P ops Q (o :: rest) a w:=by
  refine zE #[v] hw hN hop hx hargs hl (by rw[hp];rfl) ?_
  have:((r.params.zip #[v]).foldl (fun tmps (t,a)=>tmps.setIfInBounds t a) r.tmps)=r.tmps.setIfInBounds p v:=by rw[hp];simp
  rw[this]
  exact h
theorem gf{w:World}{l:Nat}(o:Go.Obj) : ay [l] w (w.putObj l o) :=
  ⟨rfl,rfl,rfl,by simp[World.putObj],fun k hk hn=>World.putObj_heap_other (by simpa using hn)⟩
theorem kI{w:World}{l:Nat}{o:Go.Obj}(o':Go.Obj)(h:w.heap[l]? = some o) : (w.putObj l o').heap[l]? = some o':=World.putObj_heap_same (am h)
def iM:Go.Obj→Bool
  | .cells ..=>false
  | _=>true
theorem aR.updl{α:Type}{m:Bool}{e:TypeId}{sz:Nat}{R:World→α→List Value→Prop}{w w':World}{v:Value}{xs:List α}{l:Nat}{o:Go.Obj}
    (h:aR m e sz R w v xs) (hu:ay [l] w w') (hl:w.heap[l]? = some o) (ho:iM o=true) (hR:∀ x cs,R w x cs→R w' x cs) : aR m e sz R w' v xs:=by
  obtain⟨A,c,rfl,h1,h2,h0,h3⟩:=h
  refine⟨A,c,rfl,h1,h2,h0,fun hp=>?_⟩
  obtain⟨b,off,cells,t,fr,rfl,hb,ht,hx⟩:=h3 hp
  refine⟨b,off,cells,t,fr,rfl,?_,ht,fun j x hj=>?_⟩
  · refine hu.blk (fun hbs=>?_) hb
    simp at hbs
    subst hbs
    rw[hl] at hb
    injection hb with hb
    subst hb
    cases ho
  · obtain⟨cs,hl,hr,hc⟩:=hx j x hj
    exact⟨cs,hl,hR _ _ hr,hc⟩
theorem aS.updl{m:Bool}{w w':World}{v:Value}{xs:List Int}{l:Nat}{o:Go.Obj}(h:aS m w v xs)(hu:ay [l] w w')(hl:w.heap[l]? = some o)(ho:iM o=true) : aS m w' v xs:=aR.updl h hu hl ho fun _ _ h=>h
theorem dT.updl{m:Bool}{w w':World}{v:Value}{xs:List Int}{l:Nat}{o:Go.Obj}(h:dT m w v xs)(hu:ay [l] w w')(hl:w.heap[l]? = some o)(ho:iM o=true) : dT m w' v xs:=aR.updl h hu hl ho fun _ _ h=>h
theorem bF.updl{m:Bool}{w w':World}{l:Nat}{o:Go.Obj}(hu:ay [l] w w')(hl:w.heap[l]? = some o)(ho:iM o=true)(r:dY)(cs:List Value)(h:bF m w r cs) : bF m w' r cs:=by
  obtain⟨v,h1,h2,h3⟩:=h
  exact⟨v,h1,dT.updl h2 hu hl ho,h3⟩
theorem ag.updl{w w':World}{g:Nat}{c:al}{l:Nat}{o:Go.Obj}(h:ag w g c)(hu:ay [l] w w')(hg:g∉[l])(hl:w.heap[l]? = some o)(ho:iM o=true) : ag w' g c:=by
  obtain⟨v,hb,hr,hn⟩:=h
  exact⟨v,hu.blk hg hb,hr.updl hu hl ho,hn⟩
theorem wy{n:Nat}{P:Program}{l:Nat}{f:FuncId}{tmps:Array Value}{assign body:Code}{w:World}{r:Loop}{R:Ending→World→Prop}
    (h:assign.wpIn (Fence.wide.inRound l) n P (Exit.then (fun a₁ w₁=>w₁.heap[l]? = some (.loop r)∧r.state = .ready∧∀ w₂,w₂.heap[l]? = some (.loop { r with state:=.busy })→ay [l] w₁ w₂ →
      body.wpIn (Fence.wide.inRound l) n P (Exit.then (fun _ w₃=>∃ r',w₃.heap[l]? = some (.loop r')∧∀ w₄,w₄.heap[l]? = some (.loop { r' with state:=.ready,pending:=none })→ay [l] w₃ w₄→R (.returned (.bool true)) w₄) (fun _ _ _=>False)) a₁ w₂) (fun _ _ _=>False)) { tmps:=tmps,defers:=[] } w) :
    RoundIn Fence.wide n P l f tmps assign body w R:=by
  refine roundIn_of_wpIn trivial (Code.wpIn_mono (fun e a w q=>?_) h)
  cases e with
  | normal =>
    obtain⟨h1,h2,h3⟩:=q
    refine⟨_,run_beginRound h1 h2,Code.wpIn_mono (fun e a w q=>?_) (h3 _ (kI _ h1) (gf _))⟩
    cases e with
    | normal =>
      obtain⟨r',h4,h5⟩:=q
      exact⟨_,_,run_endRound none h4,h5 _ (kI _ h4) (gf _)⟩
    | _=>exact q.elim
  | _=>exact q.elim
theorem kv{n:Nat}{P:Program}{l:Nat}{f:FuncId}{tmps:Array Value}{assign body:Code}{w:World}{r:Loop}{R:Ending→World→Prop}
    (hl:w.heap[l]? = some (.loop r))
    (h:assign.wpIn (Fence.wide.inRound l) n P (Exit.then (fun a₁ w₁=>w₁.heap[l]? = some (.loop r)∧r.state = .ready∧∀ w₂,w₂.heap[l]? = some (.loop { r with state:=.busy })→ay [l] w₁ w₂ →
      body.wpIn (Fence.wide.inRound l) n P (Exit.then (fun _ w₃=>∃ r',w₃.heap[l]? = some (.loop r')∧∀ w₄,w₄.heap[l]? = some (.loop { r' with state:=.ready,pending:=none })→ay [l] w₃ w₄→R (.returned (.bool true)) w₄) (fun _ _ _=>False)) a₁ w₂) (fun _ _ _=>False)) { tmps:=tmps,defers:=[] } w) :
    RoundIn Fence.wide n P l f tmps assign body w R:=wy h
theorem wD{P:Program}{Q:Exit→Act→World→Prop}{a:Act}{w:World}{g:Operand}{ps:Array Tmp}{assign body:Code}{f:FuncId}{fn:Func}(cap:Array Value)
    (hx : a.eval g = .func (.func f) #[] cap) (hf : P.funcs[f]? = some fn) (hname : (fn.name == "runtime.NumGoroutine") = false) (hb : fn.body.isSome = true)
    (h:∀ fn0 D l w₂,w.heap.size≤D→w.heap.size≤l→D≠l→w₂.heap[D]? = some (.deferred (some []))→w₂.heap[l]? = some (.loop { state:=.ready,pending:=none,fn:=fn0,tmps:=a.tmps,params:=ps,assign:=assign,body:=body,defers:=D })→ay [] w w₂ →
      Calls P f (#[.func (.yield l) #[] #[]]++cap) w₂ (fun e w₃=>∃ v r',e = .returned v∧w₃.heap[l]? = some (.loop r')∧r'.state≠.busy∧r'.pending=none∧∀ w₄,ay [l] w₃ w₄→Q .normal { a with defers:={ target:=.collected D,args:=#[] } :: a.defers } w₄)) :
    (Code.rangeFunc g ps assign body).wp P Q a w:=by
  refine(wpIn_wide (n:=9)).1 (wpIn_rangeFunc fun fn0 _=>?_)
  have h1 : fn.name ≠ "runtime.NumGoroutine" := by simpa using hname
  obtain⟨cd,hcd⟩:=Option.isSome_iff_exists.1 hb
  refine⟨w.heap.size+1,[{ target:=.collected w.heap.size,args:=#[] }],((w.alloc (.deferred (some []))).alloc (.loop { state:=.ready,pending:=none,fn:=fn0,tmps:=a.tmps,params:=ps,assign:=assign,body:=body,defers:=w.heap.size })),
    { target:=.fn (.func f) cap,args:=#[]++#[.func (.yield (w.heap.size+1)) #[] #[]] },((w.alloc (.deferred (some []))).alloc (.loop { state:=.ready,pending:=none,fn:=fn0,tmps:=a.tmps,params:=ps,assign:=assign,body:=body,defers:=w.heap.size })),
    f,#[.func (.yield (w.heap.size+1)) #[] #[]]++cap,((w.alloc (.deferred (some []))).alloc (.loop { state:=.ready,pending:=none,fn:=fn0,tmps:=a.tmps,params:=ps,assign:=assign,body:=body,defers:=w.heap.size })),run_enterLoop_outer fn0 a.tmps ps assign body,?_,fun _ _=>trivial,?_,by simp[Fence.wide],?_⟩
  · unfold resolve
    simp only[rangeCall,hx,Deferred.ofValue,Sem.run_pure,List.map_toArray,List.map_cons,List.map_nil]
    rfl
  · simp[invoke,callFunc,hf,h1,hcd]
  · have hD:((w.alloc (.deferred (some []))).alloc (.loop { state:=.ready,pending:=none,fn:=fn0,tmps:=a.tmps,params:=ps,assign:=assign,body:=body,defers:=w.heap.size })).heap[w.heap.size]? = some (.deferred (some [])):=xj (dm w _) _
    have hl:((w.alloc (.deferred (some []))).alloc (.loop { state:=.ready,pending:=none,fn:=fn0,tmps:=a.tmps,params:=ps,assign:=assign,body:=body,defers:=w.heap.size })).heap[w.heap.size+1]? = some (.loop { state:=.ready,pending:=none,fn:=fn0,tmps:=a.tmps,params:=ps,assign:=assign,body:=body,defers:=w.heap.size }):=by
      have:=dm (w.alloc (.deferred (some []))) (.loop { state:=.ready,pending:=none,fn:=fn0,tmps:=a.tmps,params:=ps,assign:=assign,body:=body,defers:=w.heap.size })
      simpa using this
    refine callsIn_wide.2 ((h fn0 w.heap.size (w.heap.size+1) _ (Nat.le_refl _) (by omega) (by omega) hD hl (((ay.refl [] w).alloc _).alloc _)).mono ?_)
    rintro e w₃ ⟨v,r',rfl,h3,h4,h5,h6⟩
    refine⟨_,_,run_endLoop h3 h4,?_⟩
    rw[h5]
    exact h6 _ (gf _)
theorem pg{P:Program}{f:FuncId}{fn:Func}{c:Code}{args:Array Value}{w:World}{R:Ending→World→Prop}(hf:P.funcs[f]? = some fn)(hb:fn.body=some c)
    (h:c.wp P (bodyPostM Fence.wide 9 P fn R) { tmps:=args++Array.replicate (fn.ntmps-args.size) undef,defers:=[] } w) : Calls P f args w R :=
  callsIn_wide.1 (callsIn_of_wp_marks hf hb trivial (wpIn_wide.2 h) rfl)
theorem zD{P:Program}{fn:Func}{R:Ending→World→Prop}{a:Act}{w:World}{D:Nat}(hd:a.defers=[{ target:=.collected D,args:=#[] }])(hD:w.heap[D]? = some (.deferred (some [])))
    (h:∀ w',ay [D] w w'→∃ v,(results fn a.tmps).run P w' = .ok v w'∧R (.returned v) w') : bodyPostM Fence.wide 9 P fn R .ret a w:=by
  show LeavesInM Fence.wide 9 P fn a.tmps R a.defers .returning w
  rw[hd]
  exact⟨by simp,.inl ⟨D,_,rfl,run_takeDeferred hD,h _ (gf _)⟩⟩
theorem wW{P:Program}{fn:Func}{R:Ending→World→Prop}{a:Act}{w:World}(hd:a.defers=[])(h:∃ v,(results fn a.tmps).run P w = .ok v w∧R (.returned v) w) : bodyPostM Fence.wide 9 P fn R .ret a w:=by
  show LeavesInM Fence.wide 9 P fn a.tmps R a.defers .returning w
  rw[hd]
  exact h
open Go.RowKit
structure GF (E:Fence) (m:Nat) (P:Program) (ops:Array Oper) (Q:Exit→Act→World→Prop) (l:List Oper) (n:Nat) (D:List Deferred) (F:Fr) (w:World) : Prop where
  out:∀ a,Ag n D F a→WF E m P ops Q l a w
structure GI (E:Fence) (m:Nat) (P:Program) (c:Code) (Q:Exit→Act→World→Prop) (n:Nat) (D:List Deferred) (F:Fr) (w:World) : Prop where
  out:∀ a,Ag n D F a→c.wpIn E m P Q a w
section
variable {E:Fence}{m:Nat}{P:Program}{Q:Exit→Act→World→Prop}{n:Nat}{D:List Deferred}{F:Fr}{w:World}{ops:Array Oper}{rest l:List Oper}{d:Option Tmp}{op:Op}{t:TypeId}{s:String}{af:Array Edge}{gu:Option (Nat × Bool)}{x y c:Code}{id:Nat}
theorem Bt(m:Nat)(h:GF Fence.wide m P l.toArray Q l n D F w) : GC P (.region id l.toArray false) Q n D F w:=⟨fun a ha=>Cy m (h.out a ha)⟩
theorem zP(h:GF E m P l.toArray Q l n D F w) : GI E m P (.region id l.toArray false) Q n D F w:=⟨fun a ha=>Bl (h.out a ha)⟩
theorem Bi(h:GI E m P c (Exit.inBlock id Q) n D F w) : GI E m P (.block id c) Q n D F w:=⟨fun a ha=>wpIn_block (h.out a ha)⟩
theorem uB(h:GQ Q .normal n D F w) : GF E m P ops Q [] n D F w:=⟨fun a ha=>Bx (h.out a ha)⟩
theorem BZ(hE:et E)(h:OG P ⟨d,op,t,s,af,gu⟩ n D F w (GF E m P ops Q rest n D) Q)(hw:l9 ops F gu=(true,true))(hd:fl op=true) : GF E m P ops Q (⟨d,op,t,s,af,gu⟩ :: rest) n D F w :=
  ⟨fun a ha=>BW hE hd (f8 ha hw) (h.out a ha _ fun F' w' a' k ha'=>k.out a' ha')⟩
theorem BN(hE:et E){o:Oper}(h:GF E m P ops Q rest n D (rf P ops w F o) w)(hc:yu P ops w n 1 (o :: rest) F=yr P ops w 1 (o :: rest) F)(hd:fl o.op=true) : GF E m P ops Q (o :: rest) n D F w:=by
  simp only[yu,yr,List.cons.injEq,Prod.mk.injEq,Bool.and_eq_true] at hc
  obtain⟨⟨⟨h1,h2,h3⟩,h4⟩,h5⟩:=hc
  refine⟨fun a ha=>?_⟩
  cases hon:(l9 ops F o.guard).2 with
  | true =>
    rw[hon] at h3 h4
    simp only[cond_true] at h3 h4
    have hst:rf P ops w F o=pt o.dst (vo P w F o) F:=by simp[rf,hon]
    rw[hst] at h
    exact BW hE hd (f8 ha (Prod.ext h1 hon)) (fi (N:=o.dst) (vo P w F o) rfl (by rw[← gZ ha h3];exact h4) (h.out _ (ha.put h2)))
  | false =>
    have hst:rf P ops w F o=pt o.dst undef F:=by simp[rf,hon]
    rw[hst] at h
    exact BA (N:=o.dst) hE (f8 ha (Prod.ext h1 hon)) rfl (h.out _ (ha.put h2))
theorem F0(h:OG P ⟨d,op,t,s,af,gu⟩ n D F w (GF Fence.wide m P ops Q rest n D) Q)(hw:l9 ops F gu=(true,true):=by kernel_rfl)(hd:fl op=true:=by kernel_rfl) : GF Fence.wide m P ops Q (⟨d,op,t,s,af,gu⟩ :: rest) n D F w:=BZ kX h hw hd
theorem lh{q:Nat}(h:OG P ⟨d,op,t,s,af,gu⟩ n D F w (GF (Fence.wide.inRound q) m P ops Q rest n D) Q)(hw:l9 ops F gu=(true,true):=by kernel_rfl)(hd:fl op=true:=by kernel_rfl) : GF (Fence.wide.inRound q) m P ops Q (⟨d,op,t,s,af,gu⟩ :: rest) n D F w:=BZ (jB _) h hw hd
theorem Fp{o:Oper}(h:GF Fence.wide m P ops Q rest n D (rf P ops w F o) w)(hc:yu P ops w n 1 (o :: rest) F=yr P ops w 1 (o :: rest) F:=by kernel_rfl)(hd:fl o.op=true:=by kernel_rfl) : GF Fence.wide m P ops Q (o :: rest) n D F w:=BN kX h hc hd
theorem zI{q:Nat}{o:Oper}(h:GF (Fence.wide.inRound q) m P ops Q rest n D (rf P ops w F o) w)(hc:yu P ops w n 1 (o :: rest) F=yr P ops w 1 (o :: rest) F:=by kernel_rfl)(hd:fl o.op=true:=by kernel_rfl) : GF (Fence.wide.inRound q) m P ops Q (o :: rest) n D F w:=BN (jB _) h hc hd
theorem BE(j:Nat)(e:Bool)(ht:e=true→GF E m P ops Q l n D ((j,.bool true) :: F) w)(hf:e=false→GF E m P ops Q l n D ((j,.bool false) :: F) w)(hv:lk F j=some (.bool e):=by kernel_rfl) : GF E m P ops Q l n D F w:=by
  refine⟨fun a ha=>?_⟩
  have key:∀ b,e=b→Ag n D ((j,.bool b) :: F) a:=fun b hb=>⟨ha.sz,ha.df,fun i v hi=>by
    rcases gi hi with⟨rfl,rfl⟩|⟨_,h2⟩
    · rw[← hb];exact ha.at_ _ _ hv
    · exact ha.at_ _ _ h2⟩
  rcases dB e with q|q
  · exact(ht q).out a (key _ q)
  · exact(hf q).out a (key _ q)
theorem Fy{x:Operand}{opds:Array Operand}{ts:Array TypeId}{q:Nat}{r:Loop}(v:Value)(p:Tmp)(hl:w.heap[q]? = some (.loop r))(hp:r.params = #[p])
    (h:RoundIn Fence.wide (m-1) P q r.fn (r.tmps.setIfInBounds p v) r.assign r.body w (fun e w'=>∃ u,e = .returned u∧GF Fence.wide m P ops Q rest n D (pt d u F) w'))
    (hw:l9 ops F gu=(true,true):=by kernel_rfl) (hx:dW F x=some (.func (.yield q) #[] #[]):=by kernel_rfl) (ha:opds.toList.map (dW F)=[some v]:=by kernel_rfl) (hd:eR n d=true:=by kernel_rfl) :
    GF Fence.wide m P ops Q (⟨d,.call { callee:=.value x,args:=opds,argTypes:=ts },t,s,af,gu⟩ :: rest) n D F w :=
  ⟨fun a hag=>xF v p (f8 hag hw) rfl rfl (hag.ev hx) (by apply Array.toList_inj.1;rw[Array.toList_map];exact jQ (vs:=[v]) hag ha) hl hp (h.mono fun e w' hh=>by
    obtain⟨u,rfl,hk⟩:=hh
    exact⟨u,rfl,hk.out _ (hag.put hd)⟩)⟩
theorem pS{g:Operand}{ps:Array Tmp}{assign body:Code}{f:FuncId}(cap:Array Value)
    (h:∀ a,Ag n D F a→∀ fn0 D' q w₂,w.heap.size≤D'→w.heap.size≤q→D'≠q→w₂.heap[D']? = some (.deferred (some []))→w₂.heap[q]? = some (.loop { state:=.ready,pending:=none,fn:=fn0,tmps:=a.tmps,params:=ps,assign:=assign,body:=body,defers:=D' })→ay [] w w₂ →
      Calls P f (#[.func (.yield q) #[] #[]]++cap) w₂ (fun e w₃=>∃ v r',e = .returned v∧w₃.heap[q]? = some (.loop r')∧r'.state≠.busy∧r'.pending=none∧∀ w₄,ay [q] w₃ w₄→GQ Q .normal n ({ target:=.collected D',args:=#[] } :: D) F w₄))
    (hx:dW F g=some (.func (.func f) #[] cap):=by kernel_rfl) (hf:zL P f=some (false,true):=by kernel_rfl) : GC P (.rangeFunc g ps assign body) Q n D F w:=by
  obtain⟨fn,h1,h2,h3⟩:=iJ hf
  refine⟨fun a ha=>wD cap (ha.ev hx) h1 h2 h3 fun fn0 D' q w₂ g1 g2 g3 g4 g5 g6=>(h a ha fn0 D' q w₂ g1 g2 g3 g4 g5 g6).mono fun e w₃ hh=>?_⟩
  obtain⟨v,r',k1,k2,k3,k4,k5⟩:=hh
  exact⟨v,r',k1,k2,k3,k4,fun w₄ hu=>(k5 w₄ hu).out _ ⟨ha.sz,by rw[ha.df],ha.at_⟩⟩
theorem Bc{a:Act}(ha:Ag n D F a)(p:Tmp){v:Value}(h:GI E m P c Q n [] ((p,v) :: F) w)(hp:Nat.blt p n=true:=by kernel_rfl) : c.wpIn E m P Q { tmps:=a.tmps.setIfInBounds p v,defers:=[] } w:=by
  have h0:Ag n [] F { tmps:=a.tmps,defers:=[] }:=⟨ha.sz,rfl,ha.at_⟩
  exact h.out _ (h0.put (d:=some p) hp)
theorem Bz{r:Loop}{q:Nat}{c:Code}{Qb:Exit→Act→World→Prop}(h1:w.heap[q]? = some (.loop r))(h2:r.state = .ready)(h:∀ w₂,w₂.heap[q]? = some (.loop { r with state:=.busy })→ay [q] w w₂→GI E m P c Qb n D F w₂) :
    GQ (Exit.then (fun a₁ w₁=>w₁.heap[q]? = some (.loop r)∧r.state = .ready∧∀ w₂,w₂.heap[q]? = some (.loop { r with state:=.busy })→ay [q] w₁ w₂→c.wpIn E m P Qb a₁ w₂) Q) .normal n D F w:=⟨fun a ha=>⟨h1,h2,fun w₂ k1 k2=>(h w₂ k1 k2).out a ha⟩⟩
theorem B7{r:Loop}{q:Nat}{Z:World→Prop}(h1:w.heap[q]? = some (.loop r))(h:∀ w₄,w₄.heap[q]? = some (.loop { r with state:=.ready,pending:=none })→ay [q] w w₄→Z w₄) :
    GQ (Exit.then (fun _ w₃=>∃ r',w₃.heap[q]? = some (.loop r')∧∀ w₄,w₄.heap[q]? = some (.loop { r' with state:=.ready,pending:=none })→ay [q] w₃ w₄→Z w₄) Q) .normal n D F w:=⟨fun a ha=>⟨r,h1,h⟩⟩
end
section
variable {P:Program}{n:Nat}{F:Fr}{w:World}{fn:Func}{R:Ending→World→Prop}
theorem zO{f:FuncId}{c:Code}{args:List Value}{w:World}(n:Nat)(hf:P.funcs[f]? = some fn)(hb:fn.body=some c)
    (h:GC P c (bodyPostM Fence.wide 9 P fn R) n [] (wd 0 args) w) (hn:args.length+(fn.ntmps-args.length)=n:=by kernel_rfl) : Calls P f args.toArray w R:=by
  subst hn
  exact pg hf hb (by simpa using h.out _ (BX (args:=args) (m:=fn.ntmps-args.length)))
theorem zK{D:Nat}(hD:w.heap[D]? = some (.deferred (some [])))(h:∀ w',ay [D] w w'→GQ (fun _ a w'=>∃ v,(results fn a.tmps).run P w' = .ok v w'∧R (.returned v) w') .ret n [{ target:=.collected D,args:=#[] }] F w') : GQ (bodyPostM Fence.wide 9 P fn R) .ret n [{ target:=.collected D,args:=#[] }] F w :=
  ⟨fun a ha=>zD ha.df hD fun w' hu=>(h w' hu).out a ha⟩
theorem rx{D:List Deferred}{g:Nat}{cs:Array Value}{t:TypeId}{fr:Nat × Nat}(B:w.heap[g]? = some (.cells cs t fr))(u:Value)(h:R (.returned (.tuple #[.agg cs,u])) w)(hc:zQ P fn.results F=some (some (.pointer (some ⟨g,0,none⟩)),some u,some true,some cs.size):=by kernel_rfl) : GQ (fun _ a w'=>∃ v,(results fn a.tmps).run P w' = .ok v w'∧R (.returned v) w') .ret n D F w :=
  ⟨fun a ha=>⟨_,jP ha B rfl hc,h⟩⟩
theorem ry{g:Nat}{cs:Array Value}{t:TypeId}{fr:Nat × Nat}(B:w.heap[g]? = some (.cells cs t fr))(u:Value)(h:R (.returned (.tuple #[.agg cs,u])) w)(hc:zQ P fn.results F=some (some (.pointer (some ⟨g,0,none⟩)),some u,some true,some cs.size):=by kernel_rfl) : GQ (bodyPostM Fence.wide 9 P fn R) .ret n [] F w :=
  ⟨fun a ha=>wW ha.df ⟨_,jP ha B rfl hc,h⟩⟩
end
open Go.RowKit
def za (mk:Nat→Value)(w:World)(e:Ending)(w':World) : Prop:=∃ gs,e = .returned (.tuple #[mk gs,.bool true])∧w.heap.size≤gs∧w'.heap[gs]? = some (.cells #[.int .i64 0] 3 (0,0))∧ay [] w w'
def By (gs:Nat) : Value:=.agg #[.func (.func 126) #[] #[],.func (.func 124) #[] #[.pointer (some ⟨gs,0,none⟩)]]
def BF (gs:Nat) : Value:=.agg #[.func (.func 127) #[] #[],.func (.func 128) #[] #[]]
def Bo (gs:Nat) : Value:=.agg #[.func (.func 129) #[] #[],.func (.func 130) #[] #[]]
theorem yb{w:World}:Calls Tryz.prog 91 #[.int .i64 0,.int .u8 20] w (za By w):=by
 refine en 27 Tryz.func91 rfl<|sg<|L0<|bN #[.nilFunc,.nilFunc] fun m n g b c=>Pl 1<|ng<|L0<|bN #[.int .i64 0] fun d o a h i=>L0<|co h 0 #[.int .i64 0] fun p j k=>nt<|sq<|?_
 refine go<|Pl 2<|nt<|sq<|bk<|sg<|Pl 7<|nt<|c1<|sg<|?_
 refine Pl 2<|?_
 have e:=ud i k a
 refine L0<|bi (ub e b) #[.func (.func 126) #[] #[],.func (.func 124) #[] #[.pointer (some ⟨d,0,none⟩)]] fun q l f=>Pl 1<|nt<|rt<|br<|tr<|d9 l (.bool true)<|?_
 exact⟨d,rfl,(Nat.le_trans c.size a),(aY f (Ne.symm (nb (am b) lr a)) j),(ud c (uz e f) g)⟩
theorem yc{w:World}:Calls Tryz.prog 91 #[.int .i64 1,.int .u8 20] w (za BF w):=by
 refine en 27 Tryz.func91 rfl<|sg<|L0<|bN #[.nilFunc,.nilFunc] fun m n f b c=>Pl 1<|ng<|L0<|bN #[.int .i64 0] fun g o a h i=>L0<|co h 0 #[.int .i64 0] fun p j k=>nt<|sq<|?_
 refine go<|Pl 2<|nt<|sq<|bk<|sg<|Pl 7<|nt<|c0<|sg<|?_
 refine Pl 3<|nt<|c1<|sg<|Pl 1<|?_
 have d:=ud i k a
 refine L0<|bi (ub d b) #[.func (.func 127) #[] #[],.func (.func 128) #[] #[]] fun q l e=>Pl 1<|nt<|rt<|br<|tr<|d9 l (.bool true)<|?_
 exact⟨g,rfl,(Nat.le_trans c.size a),(aY e (Ne.symm (nb (am b) lr a)) j),(ud c (uz d e) f)⟩
theorem yh{dir:Int}{w:World}:Calls Tryz.prog 91 #[.int .i64 dir,.int .u8 21] w (za Bo w):=by
 refine en 27 Tryz.func91 rfl<|sg<|L0<|bN #[.nilFunc,.nilFunc] fun m n f b c=>Pl 1<|ng<|L0<|bN #[.int .i64 0] fun g o a h i=>L0<|co h 0 #[.int .i64 0] fun p j k=>nt<|sq<|?_
 refine go<|Pl 2<|nt<|sq<|bk<|sg<|Pl 7<|nt<|c0<|sg<|?_
 refine Pl 3<|nt<|c0<|sg<|Pl 3<|nt<|c1<|sg<|Pl 1<|?_
 have d:=ud i k a
 refine L0<|bi (ub d b) #[.func (.func 129) #[] #[],.func (.func 130) #[] #[]] fun q l e=>Pl 1<|nt<|rt<|br<|tr<|d9 l (.bool true)<|?_
 exact⟨g,rfl,(Nat.le_trans c.size a),(aY e (Ne.symm (nb (am b) lr a)) j),(ud c (uz d e) f)⟩
theorem nO{dir x:Int}{w:World}(n1:(x==20)=false)(n2:(x==21)=false) : Calls Tryz.prog 91 #[.int .i64 dir,.int .u8 x] w (bv (.tuple #[.agg #[.nilFunc,.nilFunc],.bool false]) w):=by
 refine en 27 Tryz.func91 rfl<|sg<|L0<|bN #[.nilFunc,.nilFunc] fun k l b c d=>Pl 1<|ng<|L0<|bN #[.int .i64 0] fun m n e f g=>L0<|co f 0 #[.int .i64 0] fun o p h=>nt<|sq<|?_
 refine go<|Pl 2<|nt<|sq<|bk<|sg<|Pl 3<|sy 12 n1<|Pl 4<|nt<|c0<|?_
 refine sg<|Pl 3<|nt<|cf n1<|sg<|Pl 3<|nt<|cf n2<|sk<|bn<|?_
 refine tn<|sg<|Pl 1<|?_
 have a:=ud g h e
 refine L0<|bi (ub a c) #[.nilFunc,.nilFunc] fun q i j=>Pl 1<|nt<|rt<|d9 i (.bool false)<|?_
 exact⟨rfl,(ud d (uz a j) b)⟩
theorem kK{gb:Nat}{f:Fn}{x y:Array Value}{w:World}:Calls Tryz.prog 95 #[.pointer (some ⟨gb,0,none⟩),.func f x y] w (fun e w'=>∃ b1 b2,e = .returned (.func (.func 131) #[] #[.pointer (some ⟨b1,0,none⟩),.pointer (some ⟨b2,0,none⟩)])∧w.heap.size≤b1∧w.heap.size≤b2∧b1≠b2 ∧
      w'.heap[b1]? = some (.cells #[.pointer (some ⟨gb,0,none⟩)] 143 (0,0))∧w'.heap[b2]? = some (.cells #[.func f x y] 158 (0,0))∧ay [] w w'):=by
 refine en 6 Tryz.func95 rfl<|sg<|L0<|cI #[.pointer (some ⟨gb,0,none⟩)] fun a k i b c=>L0<|cI #[.func f x y] fun d l g j h=>Pl 1<|ng<|Pl 2<|nt<|rt<|?_
 refine rr (.func (.func 131) #[] #[.pointer (some ⟨a,0,none⟩),.pointer (some ⟨d,0,none⟩)])<|?_
 exact⟨a,d,rfl,i,(Nat.le_trans c.size g),(nb (am b) lr g),(ub h b),j,(aD c h)⟩
theorem sM{g gs:Nat}{s:Int}{C:al}{w:World}(hC:ag w g C)(hS:w.heap[gs]? = some (.cells #[.int .i64 s] 3 (0,0)))(hne:g≠gs)(hs:0≤s∧s≤1000000000000) :
    Calls Tryz.prog 124 #[.pointer (some ⟨g,0,none⟩),.pointer (some ⟨gs,0,none⟩)] w (fun e w'=>∃ A c,e = .returned (.agg #[.int .u16 (bq C).file,.int .u16 (bq C).record,.int .u16 (bq C).count,.slice A (bq C).words.length c])∧dT true w' (.slice A (bq C).words.length c) (bq C).words∧dA (bq C).file∧dA (bq C).record∧dA (bq C).count∧ag w' g (eZ s C)∧w'.heap[gs]? = some (.cells #[.int .i64 (ip s C)] 3 (0,0))∧ay [g,gs] w w'):=by
 refine en 19 Tryz.func124 rfl<|sg<|L0<|bN #[.int .u16 0,.int .u16 0,.int .u16 0,.slice none 0 0] fun S T b j d=>ng<|Pl 1<|?_
 refine L0<|Oc<|zl (nY (ag.old hC d)) fun k l U H I J K m f=>?_
 obtain⟨V,W⟩:=I
 obtain⟨X,Y⟩:=J
 obtain⟨Z,a0⟩:=K
 refine L0<|bN #[.int .u16 0,.int .u16 0,.int .u16 0,.slice none 0 0] fun a1 a2 h L M=>L0<|bi L #[.int .u16 ((bq C).file),.int .u16 ((bq C).record),.int .u16 ((bq C).count),.slice k ((bq C).words.length) l] fun a3 n N=>ng<|?_
 have o:=ud M N h
 have p:=aD f o
 have q:=aY (uz d p) (Ne.symm hne) hS
 refine L0<|aP q 0<|Pl 1<|L0<|aP n 2<|L0<|Oi ((bq C).count)<|L0<|Oi (2*((bq C).count))<|L0<|Oi (2+(2*((bq C).count)))<|L0<|Oi (s+(2+(2*((bq C).count))))<|L0<|co q 0 #[.int .i64 (s+(2+(2*((bq C).count))))] fun a4 r t=>ng<|Pl 1<|L0<|aP r 0<|?_
 refine Pl 1<|?_
 have u:=uz o t
 have a:=uz d f
 have v:=aY a (Ne.symm hne) hS
 refine L0<|Oc<|m2 (aU ((decide ((s+(2+(2*((bq C).count))))≤245))) 5 (ag.upd m u (ae hne az) (aj (aM v (by decide)) aE))) fun a5 O y=>?_
 refine ab O fun x47 P Q=>?_
 refine ng<|?_
 have z:=us t y
 refine L0<|cj (ay.blk z (ae (Ne.symm (nb (am hS) a.size h)) (ae (Ne.symm (nb (ag.lt hC) a.size h)) az)) n)<|?_
 have i:=nb (ag.lt hC) lr b
 have B:=nb (am hS) lr b
 have D:=ay.blk (ui p z) (ae (Ne.symm B) (ae (Ne.symm i) az)) j
 refine L0<|bi D #[.int .u16 ((bq C).file),.int .u16 ((bq C).record),.int .u16 ((bq C).count),.slice k ((bq C).words.length) l] fun a6 R E=>nt<|rt<|zH R<|?_
 subst P
 have F:=us y E
 have G:=us u F
 exact⟨_,_,rfl,(dT.upd' H G (aj (aM v (by decide)) (aj (ag.safe m _ (by decide)) (aj (aM (aY f (Ne.symm i) j) (by decide)) aE)))),aJ (x:=(bq C).file) (by omega),aJ (x:=(bq C).record) (by omega),aJ (x:=(bq C).count) (by omega),(ag.upd Q E (ae i az) (aj (aM D (by decide)) aE)),(ay.blk F (ae (Ne.symm hne) (ae B az)) r),(ut (ay.mono (S':=[g,gs]) a (ac im au)) G (ac im (ac im (ac (nr b) au))))⟩
def fA (c:Int)(v:Value) : Array Value:=#[.int .u8 c,.int .u8 0,.int .u16 0,.int .u16 0,.int .u16 0,.int .u16 0,.int .u16 0,.int .u16 0,.int .u16 0,.int .u16 0,.int .u16 0,.int .u16 0,gK,gK,gK,v,.int .u8 0,.int .u8 0,.int .u8 0,.int .u8 0,.int .u8 0,gK]
structure JR (w0:World) (gb gs gm l:Nat) (c:Int) (r:Loop) (C:al) (s:Int) (L:List dY) (A:Option Addr) (cp:Nat) (W:World) : Prop where
  u:ay [gb,gs,gm,l] w0 W
  hC:ag W gb C
  hS:W.heap[gs]? = some (.cells #[.int .i64 s] 3 (0,0))
  hm:W.heap[gm]? = some (.cells (fA c (.slice A L.length cp)) 31 (0,0))
  ho:aL w0.heap.size 83 4 (bF true) W (.slice A L.length cp) L
  hl:W.heap[l]? = some (.loop r)
def eb (s:Int)(C:al) : Int × al × dY:=(ip s C,eZ s C,bq C)
def cL (s:Int)(C:al) : Int × al × dY:=(s,gQ C,gq C)
def ez (s:Int)(C:al) : Int × al × dY:=(s,kz C,jD C)
def bh (one:Int→al→Int × al × dY) : Nat→Int→al→List dY→al × List dY
  | 0,_,C,L=>(C,L)
  | n+1,s,C,L =>
    if decide (0<(C.l.length:Int))&&C.e==0 then
      (if (one s C).2.1.e != 0 then ((one s C).2.1,L) else bh one n (one s C).1 (one s C).2.1 (L++[(one s C).2.2]))
    else (C,L)
theorem ij(C:al)(n:Int) : (C.bytesC n).l.length≤C.l.length:=by
  unfold al.bytesC
  split
  · unfold al.need
    split<;>simp
  · simp
theorem kq(C:al)(h:0<C.l.length) : (C.bytesC 1).l.length<C.l.length:=by
  unfold al.bytesC
  split
  · unfold al.need
    split<;>simpa using h
  · simp
    omega
theorem ef(C:al)(b:Bool)(e:Int) : (C.need b e).l.length=C.l.length:=by
  unfold al.need
  split<;>rfl
theorem eC(C:al)(n:Int) : (C.wordsC n).l.length≤C.l.length:=by
  unfold al.wordsC
  split<;>exact ij ..
theorem nX(C:al)(h:0<C.l.length) : (fJ C).l.length<C.l.length:=by
  have h1:(ru C).l.length<C.l.length:=by unfold ru;rw[ef];exact kq C h
  have h2:(nq C).l.length≤(ru C).l.length:=by unfold nq;rw[ef];exact eC ..
  have h3:(pm C).l.length≤(nq C).l.length:=by unfold pm;rw[ef];exact eC ..
  have h4:(fJ C).l.length≤(pm C).l.length:=by unfold fJ;rw[ef];exact eC ..
  omega
theorem mO(s:Int)(C:al)(h:0<C.l.length) : (eb s C).2.1.l.length<C.l.length:=by
  show(eZ s C).l.length<_
  unfold eZ
  rw[ef]
  exact nX C h
theorem km(s:Int)(C:al)(h:0<C.l.length) : (cL s C).2.1.l.length<C.l.length:=by
  show(gQ C).l.length<_
  have h1:(jz C).l.length<C.l.length:=by unfold jz;rw[ef];exact kq C h
  have h2:(fy C).l.length≤(jz C).l.length:=by unfold fy;rw[ef];exact ij ..
  have h3:(gQ C).l.length≤(fy C).l.length:=by unfold gQ;exact eC ..
  omega
theorem mK(s:Int)(C:al)(h:0<C.l.length) : (ez s C).2.1.l.length<C.l.length:=by
  show(kz C).l.length<_
  have h1:=nX C h
  have h2:(qZ C).l.length=(fJ C).l.length:=by unfold qZ;rw[ef]
  have h3:(kz C).l.length≤(qZ C).l.length:=by unfold kz;exact eC ..
  omega
theorem iC(one:Int→al→Int × al × dY)(n:Nat)(s:Int)(C:al)(L:List dY)(h:(decide (0<(C.l.length:Int))&&C.e==0)=false) : bh one n s C L=(C,L):=by
  cases n with
  | zero=>rfl
  | succ n=>simp only[bh,h,Bool.false_eq_true,if_false]
open Go.RowKit
def dF (fn0:FuncId)(tm:Array Value)(asg bdy:Code)(D:Nat) : Loop:={ state:=.ready,pending:=none,fn:=fn0,tmps:=tm,params:=#[53],assign:=asg,body:=bdy,defers:=D }
def qf (w:World)(gb gs gm l:Nat)(c:Int)(R:Loop) : Prop:=∀ (W:World)(C:al)(s:Int)(L:List dY)(A:Option Addr)(cp:Nat)(x:dY)(Ax:Option Addr)(cx:Nat),JR w gb gs gm l c R C s L A cp W→dT true W (.slice Ax x.words.length cx) x.words→dA x.file→dA x.record→dA x.count→L.length≤1048576 →
    RoundIn Fence.wide 8 Tryz.prog l R.fn (R.tmps.setIfInBounds 53 (.agg #[.int .u16 x.file,.int .u16 x.record,.int .u16 x.count,.slice Ax x.words.length cx])) R.assign R.body W (fun e W'=>e = .returned (.bool true)∧W.heap.size≤W'.heap.size∧∃ A2 c2,JR w gb gs gm l c R C s (L++[x]) A2 c2 W')
theorem zh{w:World}{gb gs gm l b1 b2 fn0 D:Nat}{tm:Array Value}{asg bdy:Code}{c:Int}{C0:al}(hC:ag w gb C0)(hS:w.heap[gs]? = some (.cells #[.int .i64 0] 3 (0,0)))(hm:w.heap[gm]? = some (.cells (fA c gK) 31 (0,0)))
    (hl:w.heap[l]? = some (.loop (dF fn0 tm asg bdy D))) (hb1:w.heap[b1]? = some (.cells #[.pointer (some ⟨gb,0,none⟩)] 143 (0,0))) (hb2:w.heap[b2]? = some (.cells #[.func (.func 124) #[] #[.pointer (some ⟨gs,0,none⟩)]] 158 (0,0)))
    (n1:gb≠gs) (n2:gb≠gm) (n3:gb≠l) (n4:gs≠gm) (n5:gs≠l) (n6:gm≠l) (m1:b1≠gb) (m2:b1≠gs) (m3:b1≠gm) (m4:b1≠l) (k1:b2≠gb) (k2:b2≠gs) (k3:b2≠gm) (k4:b2≠l) (hround:qf w gb gs gm l c (dF fn0 tm asg bdy D)) :
    Calls Tryz.prog 131 #[.func (.yield l) #[] #[],.pointer (some ⟨b1,0,none⟩),.pointer (some ⟨b2,0,none⟩)] w (fun e W=>e = .returned (.tuple #[])∧∃ s A cp,JR w gb gs gm l c (dF fn0 tm asg bdy D) (bh eb C0.l.length 0 C0 []).1 s (bh eb C0.l.length 0 C0 []).2 A cp W):=by
 have hlen:=hC.len
 refine en 25 Tryz.func131 rfl<|bk<|?_
 refine ie (fun x=>[(0,.func (.yield l) #[] #[]),(1,.pointer (some ⟨b1,0,none⟩)),(2,.pointer (some ⟨b2,0,none⟩))]) (fun(x:Nat × al × Int × List dY × Option Addr × Nat) w'=>ay [gb,gs,gm,l] w w'∧ag w' gb x.2.1∧w'.heap[gs]? = some (.cells #[.int .i64 x.2.2.1] 3 (0,0))∧w'.heap[gm]? = some (.cells (fA c (.slice x.2.2.2.2.1 x.2.2.2.1.length x.2.2.2.2.2)) 31 (0,0))∧w'.heap[l]? = some (.loop (dF fn0 tm asg bdy D))∧aL w.heap.size 83 4 (bF true) w' (.slice x.2.2.2.2.1 x.2.2.2.1.length x.2.2.2.2.2) x.2.2.2.1∧(bh eb x.1 x.2.2.1 x.2.1 x.2.2.2.1=bh eb C0.l.length 0 C0 [])∧(x.2.1.l.length≤x.1)∧(0≤x.2.2.1∧x.2.2.1≤131074*(x.2.2.2.1.length:Int))∧(x.2.2.2.1.length+x.1≤C0.l.length)) (fun x=>x.1) (C0.l.length,C0,0,[],none,0) ⟨ay.refl _ _,hC,hS,hm,hl,aL.nil ..,rfl,(Nat.le_refl _),(by(try dsimp only);omega),(by(try dsimp only);(try simp only[List.length_nil]);omega)⟩ ?_
 rintro⟨n,C,s,L,A,cp⟩ h ⟨m,J,M,N,O,P,Q,R,S,T⟩
 refine ik [(0,.func (.yield l) #[] #[]),(1,.pointer (some ⟨b1,0,none⟩)),(2,.pointer (some ⟨b2,0,none⟩))] ?_
 have b:ag h gb C:=J
 have o:h.heap[gs]? = some (.cells #[.int .i64 s] 3 (0,0)):=M
 have t:h.heap[gm]? = some (.cells (fA c (.slice A L.length cp)) 31 (0,0)):=N
 have v:h.heap[l]? = some (.loop (dF fn0 tm asg bdy D)):=O
 have d:aL w.heap.size 83 4 (bF true) h (.slice A L.length cp) L:=P
 have ad:bh eb n s C L=bh eb C0.l.length 0 C0 []:=Q
 have af:C.l.length≤n:=R
 have ai:0≤s∧s≤131074*(L.length:Int):=S
 have an:L.length+n≤C0.l.length:=T
 have hrec:bh eb n s C L=bh eb C0.l.length 0 C0 []:=by assumption
 refine sq<|sg<|?_
 have p:=ay.blk m (ae m1 (ae m2 (ae m3 (ae m4 az)))) hb1
 refine L0<|aP p 0<|L0<|Oc<|mq (dH b)<|?_
 have ao:=ag.len b
 refine Pl 2<|cu 4 [8] 12 (((decide (0<((C.l.length:Nat) : Int)))&&(C.e==0))) (fun K B=>?_) ?_
 refine bl 8 ((decide (0<((C.l.length:Nat) : Int)))) (fun i=>?_) (fun i=>?_)
 have U:=of_decide_eq_true i
 refine L1<|aP p 0<|L1<|Oc<|mq (bp b)<|?_
 have ap:=ag.len b
 exact Pl 2<|ce B (C.e==0) (by rw[i];rfl)
 have U:=of_decide_eq_false i
 exact Pl 4<|ce B false (by rw[i];rfl)
 refine nt<|cb (((decide (0<((C.l.length:Nat) : Int)))&&(C.e==0))) (fun f=>?_) (fun f=>?_)
 have y:=(bM f).1
 have z:=(bM f).2
 have aq:=of_decide_eq_true y
 have ar:=ax z
 refine bK<|bk<|sg<|?_
 refine L0<|aP (ay.blk m (ae k1 (ae k2 (ae k3 (ae k4 az)))) hb2) 0<|L0<|aP p 0<|L0<|fj #[] #[.pointer (some ⟨gs,0,none⟩)] (args:=#[.pointer (some ⟨gb,0,none⟩),.pointer (some ⟨gs,0,none⟩)])<|Cl (sM (s:=s) b o n1 (by omega)) fun E F av V X Y Z a0 G a1=>?_
 have aw:ip s C=s+(2+2*(bq C).count):=rfl
 obtain⟨aA,aF⟩:=X
 obtain⟨aG,aH⟩:=Y
 obtain⟨aI,aK⟩:=Z
 refine L0<|bN #[.int .u16 0,.int .u16 0,.int .u16 0,.slice none 0 0] fun aN aO a2 a3 a4=>L0<|bi a3 #[.int .u16 ((bq C).file),.int .u16 ((bq C).record),.int .u16 ((bq C).count),.slice E ((bq C).words.length) F] fun a5 a6 a7=>nt<|sq<|Bt 9<|?_
 have j:=ud a4 a7 a2
 have a:=aD a1 j
 refine F0<|aP (ay.blk a (ae m1 (ae m2 az)) p) 0<|?_
 have q:=ag.old a0 j
 refine F0<|Oc<|mq (bp q)<|?_
 have aQ:=ag.len q
 refine Fp<|Fp<|?_
 have H:=ut m a (ac im (ac im au))
 refine BE 19 ((((eZ s C).e)!=0)) (fun k=>?_) (fun k=>?_)
 have a8:=aB k
 refine Fp<|Fp<|Fp<|Fp<|Fp<|uB<|tn<|c1<|rt<|br<|tr<|br<|rr (.tuple #[])<|?_
 have hfin:bh eb C0.l.length 0 C0 []=((eZ s C),L):=by
   rw[← hrec]
   rw[show n=(n-1)+1 from by omega]
   simp only[bh,eb,f,y,z,k,bs,if_true,if_false,decide_true,decide_false,reduceIte]
 refine⟨rfl,(ip s C),A,cp,?_⟩
 rw[hfin]
 exact⟨H,q,(ub j G),(ay.blk a (ae (Ne.symm n2) (ae (Ne.symm n4) az)) t),(ak d a (fun x hx=>(ae (fun e=>(aC (ag.lt hC) lr d) (e▸hx)) (ae (fun e=>(aC (am hS) lr d) (e▸hx)) az))) (bF.upd16 a (aj (ag.safe b _ (by decide)) (aj (aM o (by decide)) aE)))),(ay.blk a (ae (Ne.symm n3) (ae (Ne.symm n5) az)) v)⟩
 have a8:=ah k
 refine Fp<|F0<|cj a6<|?_
 have I:=ay.blk a (ae (Ne.symm n3) (ae (Ne.symm n5) az)) v
 have a9:JR w gb gs gm l c (dF fn0 tm asg bdy D) (eZ s C) (ip s C) L A cp a5:=⟨H,q,(ub j G),(ay.blk a (ae (Ne.symm n2) (ae (Ne.symm n4) az)) t),(ak d a (fun x hx=>(ae (fun e=>(aC (ag.lt hC) lr d) (e▸hx)) (ae (fun e=>(aC (am hS) lr d) (e▸hx)) az))) (bF.upd16 a (aj (ag.safe b _ (by decide)) (aj (aM o (by decide)) aE)))),I⟩
 refine Fy (r:=dF fn0 tm asg bdy D) (.agg #[.int .u16 ((bq C).file),.int .u16 ((bq C).record),.int .u16 ((bq C).count),.slice E ((bq C).words.length) F]) 53 I rfl<|?_
 refine RoundIn.mono (hround _ _ _ _ _ _ (bq C) _ _ a9 (dT.upd' V j aE) (aJ (by omega)) (aJ (by omega)) (aJ (by omega)) (by omega)) ?_
 rintro _ aR ⟨rfl,aS,aa,ab,g⟩
 refine⟨_,rfl,?_⟩
 exact Fp<|Fp<|uB<|tn<|c0<|sk<|bn<|ew ((n-1),(eZ s C),(ip s C),(L++[(bq C)]),aa,ab) ⟨g.u,g.hC,g.hS,g.hm,g.hl,g.ho,(by(try dsimp only);rw[← hrec,show n=(n-1)+1 from by omega];simp only[bh,eb,f,y,z,k,bs,if_true,if_false,decide_true,decide_false,Nat.add_sub_cancel,reduceIte]),(by(try dsimp only);have hd:=mO s C (by omega);have nq:(eb s C).2.1.l.length=(eZ s C).l.length:=rfl;omega),(by(try dsimp only);simp only[List.length_append,List.length_cons,List.length_nil];omega),(by(try dsimp only);simp only[List.length_append,List.length_cons,List.length_nil];omega)⟩ (by omega)
 refine xt<|tx<|tx<|bx<|rm (.tuple #[])<|?_
 have hfin:bh eb C0.l.length 0 C0 []=(C,L):=by
   rw[← hrec]
   exact iC _ _ _ _ _ (by simp only[f,bs,if_true,if_false,decide_true,decide_false])
 refine⟨rfl,s,A,cp,?_⟩
 rw[hfin]
 exact⟨m,b,o,t,d,v⟩
theorem ze{w:World}{gb gs gm l b1 b2 fn0 D:Nat}{tm:Array Value}{asg bdy:Code}{c:Int}{C0:al}(hC:ag w gb C0)(hS:w.heap[gs]? = some (.cells #[.int .i64 0] 3 (0,0)))(hm:w.heap[gm]? = some (.cells (fA c gK) 31 (0,0)))
    (hl:w.heap[l]? = some (.loop (dF fn0 tm asg bdy D))) (hb1:w.heap[b1]? = some (.cells #[.pointer (some ⟨gb,0,none⟩)] 143 (0,0))) (hb2:w.heap[b2]? = some (.cells #[.func (.func 128) #[] #[]] 158 (0,0)))
    (n1:gb≠gs) (n2:gb≠gm) (n3:gb≠l) (n4:gs≠gm) (n5:gs≠l) (n6:gm≠l) (m1:b1≠gb) (m2:b1≠gs) (m3:b1≠gm) (m4:b1≠l) (k1:b2≠gb) (k2:b2≠gs) (k3:b2≠gm) (k4:b2≠l) (hround:qf w gb gs gm l c (dF fn0 tm asg bdy D)) :
    Calls Tryz.prog 131 #[.func (.yield l) #[] #[],.pointer (some ⟨b1,0,none⟩),.pointer (some ⟨b2,0,none⟩)] w (fun e W=>e = .returned (.tuple #[])∧∃ s A cp,JR w gb gs gm l c (dF fn0 tm asg bdy D) (bh cL C0.l.length 0 C0 []).1 s (bh cL C0.l.length 0 C0 []).2 A cp W):=by
 have hlen:=hC.len
 refine en 25 Tryz.func131 rfl<|bk<|?_
 refine ie (fun x=>[(0,.func (.yield l) #[] #[]),(1,.pointer (some ⟨b1,0,none⟩)),(2,.pointer (some ⟨b2,0,none⟩))]) (fun(x:Nat × al × Int × List dY × Option Addr × Nat) w'=>ay [gb,gs,gm,l] w w'∧ag w' gb x.2.1∧w'.heap[gs]? = some (.cells #[.int .i64 x.2.2.1] 3 (0,0))∧w'.heap[gm]? = some (.cells (fA c (.slice x.2.2.2.2.1 x.2.2.2.1.length x.2.2.2.2.2)) 31 (0,0))∧w'.heap[l]? = some (.loop (dF fn0 tm asg bdy D))∧aL w.heap.size 83 4 (bF true) w' (.slice x.2.2.2.2.1 x.2.2.2.1.length x.2.2.2.2.2) x.2.2.2.1∧(bh cL x.1 x.2.2.1 x.2.1 x.2.2.2.1=bh cL C0.l.length 0 C0 [])∧(x.2.1.l.length≤x.1)∧(0≤x.2.2.1∧x.2.2.1≤131074*(x.2.2.2.1.length:Int))∧(x.2.2.2.1.length+x.1≤C0.l.length)) (fun x=>x.1) (C0.l.length,C0,0,[],none,0) ⟨ay.refl _ _,hC,hS,hm,hl,aL.nil ..,rfl,(Nat.le_refl _),(by(try dsimp only);omega),(by(try dsimp only);(try simp only[List.length_nil]);omega)⟩ ?_
 rintro⟨n,C,s,L,A,cp⟩ g ⟨k,I,J,M,N,O,P,Q,R,S⟩
 refine ik [(0,.func (.yield l) #[] #[]),(1,.pointer (some ⟨b1,0,none⟩)),(2,.pointer (some ⟨b2,0,none⟩))] ?_
 have b:ag g gb C:=I
 have p:g.heap[gs]? = some (.cells #[.int .i64 s] 3 (0,0)):=J
 have q:g.heap[gm]? = some (.cells (fA c (.slice A L.length cp)) 31 (0,0)):=M
 have t:g.heap[l]? = some (.loop (dF fn0 tm asg bdy D)):=N
 have h:aL w.heap.size 83 4 (bF true) g (.slice A L.length cp) L:=O
 have ab:bh cL n s C L=bh cL C0.l.length 0 C0 []:=P
 have ac:C.l.length≤n:=Q
 have ad:0≤s∧s≤131074*(L.length:Int):=R
 have af:L.length+n≤C0.l.length:=S
 have hrec:bh cL n s C L=bh cL C0.l.length 0 C0 []:=by assumption
 refine sq<|sg<|?_
 have m:=ay.blk k (ae m1 (ae m2 (ae m3 (ae m4 az)))) hb1
 refine L0<|aP m 0<|L0<|Oc<|mq (dH b)<|?_
 have ai:=ag.len b
 refine Pl 2<|cu 4 [8] 12 (((decide (0<((C.l.length:Nat) : Int)))&&(C.e==0))) (fun K B=>?_) ?_
 refine bl 8 ((decide (0<((C.l.length:Nat) : Int)))) (fun i=>?_) (fun i=>?_)
 have T:=of_decide_eq_true i
 refine L1<|aP m 0<|L1<|Oc<|mq (bp b)<|?_
 have am:=ag.len b
 exact Pl 2<|ce B (C.e==0) (by rw[i];rfl)
 have T:=of_decide_eq_false i
 exact Pl 4<|ce B false (by rw[i];rfl)
 refine nt<|cb (((decide (0<((C.l.length:Nat) : Int)))&&(C.e==0))) (fun d=>?_) (fun d=>?_)
 have v:=(bM d).1
 have y:=(bM d).2
 have an:=of_decide_eq_true v
 have ao:=ax y
 refine bK<|bk<|sg<|?_
 refine L0<|aP (ay.blk k (ae k1 (ae k2 (ae k3 (ae k4 az)))) hb2) 0<|L0<|aP m 0<|L0<|fj #[] #[] (args:=#[.pointer (some ⟨gb,0,none⟩)])<|zl (sC b) fun E F ap U V X Y Z a0=>?_
 obtain⟨aq,ar⟩:=V
 obtain⟨au,av⟩:=X
 obtain⟨aw,aA⟩:=Y
 refine L0<|bN #[.int .u16 0,.int .u16 0,.int .u16 0,.slice none 0 0] fun aF aG a1 a2 a3=>L0<|bi a2 #[.int .u16 ((gq C).file),.int .u16 ((gq C).record),.int .u16 ((gq C).count),.slice E ((gq C).words.length) F] fun a4 a5 a6=>nt<|sq<|Bt 9<|?_
 have z:=ud a3 a6 a1
 have a:=aD a0 z
 refine F0<|aP (aY a m1 m) 0<|?_
 have o:=ag.old Z z
 refine F0<|Oc<|mq (bp o)<|?_
 have aH:=ag.len o
 refine Fp<|Fp<|?_
 have G:=u1 k a im
 refine BE 19 ((((gQ C).e)!=0)) (fun j=>?_) (fun j=>?_)
 have a7:=aB j
 refine Fp<|Fp<|Fp<|Fp<|Fp<|uB<|tn<|c1<|rt<|br<|tr<|br<|rr (.tuple #[])<|?_
 have hfin:bh cL C0.l.length 0 C0 []=((gQ C),L):=by
   rw[← hrec]
   rw[show n=(n-1)+1 from by omega]
   simp only[bh,cL,d,v,y,j,bs,if_true,if_false,decide_true,decide_false,reduceIte]
 refine⟨rfl,s,A,cp,?_⟩
 rw[hfin]
 exact⟨G,o,(aY a (Ne.symm n1) p),(aY a (Ne.symm n2) q),(ak h a (fun x hx=>(ae (fun e=>(aC (ag.lt hC) lr h) (e▸hx)) az)) (bF.upd16 a (aj (ag.safe b _ (by decide)) aE))),(aY a (Ne.symm n3) t)⟩
 have a7:=ah j
 refine Fp<|F0<|cj a5<|?_
 have H:=aY a (Ne.symm n3) t
 have a8:JR w gb gs gm l c (dF fn0 tm asg bdy D) (gQ C) s L A cp a4:=⟨G,o,(aY a (Ne.symm n1) p),(aY a (Ne.symm n2) q),(ak h a (fun x hx=>(ae (fun e=>(aC (ag.lt hC) lr h) (e▸hx)) az)) (bF.upd16 a (aj (ag.safe b _ (by decide)) aE))),H⟩
 refine Fy (r:=dF fn0 tm asg bdy D) (.agg #[.int .u16 ((gq C).file),.int .u16 ((gq C).record),.int .u16 ((gq C).count),.slice E ((gq C).words.length) F]) 53 H rfl<|?_
 refine RoundIn.mono (hround _ _ _ _ _ _ (gq C) _ _ a8 (dT.upd' U z aE) (aJ (by omega)) (aJ (by omega)) (aJ (by omega)) (by omega)) ?_
 rintro _ aI ⟨rfl,aK,a9,aa,f⟩
 refine⟨_,rfl,?_⟩
 exact Fp<|Fp<|uB<|tn<|c0<|sk<|bn<|ew ((n-1),(gQ C),s,(L++[(gq C)]),a9,aa) ⟨f.u,f.hC,f.hS,f.hm,f.hl,f.ho,(by(try dsimp only);rw[← hrec,show n=(n-1)+1 from by omega];simp only[bh,cL,d,v,y,j,bs,if_true,if_false,decide_true,decide_false,Nat.add_sub_cancel,reduceIte]),(by(try dsimp only);have hd:=km s C (by omega);have nq:(cL s C).2.1.l.length=(gQ C).l.length:=rfl;omega),(by(try dsimp only);simp only[List.length_append,List.length_cons,List.length_nil];omega),(by(try dsimp only);simp only[List.length_append,List.length_cons,List.length_nil];omega)⟩ (by omega)
 refine xt<|tx<|tx<|bx<|rm (.tuple #[])<|?_
 have hfin:bh cL C0.l.length 0 C0 []=(C,L):=by
   rw[← hrec]
   exact iC _ _ _ _ _ (by simp only[d,bs,if_true,if_false,decide_true,decide_false])
 refine⟨rfl,s,A,cp,?_⟩
 rw[hfin]
 exact⟨k,b,p,q,h,t⟩
theorem yL{w:World}{gb gs gm l b1 b2 fn0 D:Nat}{tm:Array Value}{asg bdy:Code}{c:Int}{C0:al}(hC:ag w gb C0)(hS:w.heap[gs]? = some (.cells #[.int .i64 0] 3 (0,0)))(hm:w.heap[gm]? = some (.cells (fA c gK) 31 (0,0)))
    (hl:w.heap[l]? = some (.loop (dF fn0 tm asg bdy D))) (hb1:w.heap[b1]? = some (.cells #[.pointer (some ⟨gb,0,none⟩)] 143 (0,0))) (hb2:w.heap[b2]? = some (.cells #[.func (.func 130) #[] #[]] 158 (0,0)))
    (n1:gb≠gs) (n2:gb≠gm) (n3:gb≠l) (n4:gs≠gm) (n5:gs≠l) (n6:gm≠l) (m1:b1≠gb) (m2:b1≠gs) (m3:b1≠gm) (m4:b1≠l) (k1:b2≠gb) (k2:b2≠gs) (k3:b2≠gm) (k4:b2≠l) (hround:qf w gb gs gm l c (dF fn0 tm asg bdy D)) :
    Calls Tryz.prog 131 #[.func (.yield l) #[] #[],.pointer (some ⟨b1,0,none⟩),.pointer (some ⟨b2,0,none⟩)] w (fun e W=>e = .returned (.tuple #[])∧∃ s A cp,JR w gb gs gm l c (dF fn0 tm asg bdy D) (bh ez C0.l.length 0 C0 []).1 s (bh ez C0.l.length 0 C0 []).2 A cp W):=by
 have hlen:=hC.len
 refine en 25 Tryz.func131 rfl<|bk<|?_
 refine ie (fun x=>[(0,.func (.yield l) #[] #[]),(1,.pointer (some ⟨b1,0,none⟩)),(2,.pointer (some ⟨b2,0,none⟩))]) (fun(x:Nat × al × Int × List dY × Option Addr × Nat) w'=>ay [gb,gs,gm,l] w w'∧ag w' gb x.2.1∧w'.heap[gs]? = some (.cells #[.int .i64 x.2.2.1] 3 (0,0))∧w'.heap[gm]? = some (.cells (fA c (.slice x.2.2.2.2.1 x.2.2.2.1.length x.2.2.2.2.2)) 31 (0,0))∧w'.heap[l]? = some (.loop (dF fn0 tm asg bdy D))∧aL w.heap.size 83 4 (bF true) w' (.slice x.2.2.2.2.1 x.2.2.2.1.length x.2.2.2.2.2) x.2.2.2.1∧(bh ez x.1 x.2.2.1 x.2.1 x.2.2.2.1=bh ez C0.l.length 0 C0 [])∧(x.2.1.l.length≤x.1)∧(0≤x.2.2.1∧x.2.2.1≤131074*(x.2.2.2.1.length:Int))∧(x.2.2.2.1.length+x.1≤C0.l.length)) (fun x=>x.1) (C0.l.length,C0,0,[],none,0) ⟨ay.refl _ _,hC,hS,hm,hl,aL.nil ..,rfl,(Nat.le_refl _),(by(try dsimp only);omega),(by(try dsimp only);(try simp only[List.length_nil]);omega)⟩ ?_
 rintro⟨n,C,s,L,A,cp⟩ g ⟨k,I,J,M,N,O,P,Q,R,S⟩
 refine ik [(0,.func (.yield l) #[] #[]),(1,.pointer (some ⟨b1,0,none⟩)),(2,.pointer (some ⟨b2,0,none⟩))] ?_
 have b:ag g gb C:=I
 have p:g.heap[gs]? = some (.cells #[.int .i64 s] 3 (0,0)):=J
 have q:g.heap[gm]? = some (.cells (fA c (.slice A L.length cp)) 31 (0,0)):=M
 have t:g.heap[l]? = some (.loop (dF fn0 tm asg bdy D)):=N
 have h:aL w.heap.size 83 4 (bF true) g (.slice A L.length cp) L:=O
 have ab:bh ez n s C L=bh ez C0.l.length 0 C0 []:=P
 have ac:C.l.length≤n:=Q
 have ad:0≤s∧s≤131074*(L.length:Int):=R
 have af:L.length+n≤C0.l.length:=S
 have hrec:bh ez n s C L=bh ez C0.l.length 0 C0 []:=by assumption
 refine sq<|sg<|?_
 have m:=ay.blk k (ae m1 (ae m2 (ae m3 (ae m4 az)))) hb1
 refine L0<|aP m 0<|L0<|Oc<|mq (dH b)<|?_
 have ai:=ag.len b
 refine Pl 2<|cu 4 [8] 12 (((decide (0<((C.l.length:Nat) : Int)))&&(C.e==0))) (fun K B=>?_) ?_
 refine bl 8 ((decide (0<((C.l.length:Nat) : Int)))) (fun i=>?_) (fun i=>?_)
 have T:=of_decide_eq_true i
 refine L1<|aP m 0<|L1<|Oc<|mq (bp b)<|?_
 have am:=ag.len b
 exact Pl 2<|ce B (C.e==0) (by rw[i];rfl)
 have T:=of_decide_eq_false i
 exact Pl 4<|ce B false (by rw[i];rfl)
 refine nt<|cb (((decide (0<((C.l.length:Nat) : Int)))&&(C.e==0))) (fun d=>?_) (fun d=>?_)
 have v:=(bM d).1
 have y:=(bM d).2
 have an:=of_decide_eq_true v
 have ao:=ax y
 refine bK<|bk<|sg<|?_
 refine L0<|aP (ay.blk k (ae k1 (ae k2 (ae k3 (ae k4 az)))) hb2) 0<|L0<|aP m 0<|L0<|fj #[] #[] (args:=#[.pointer (some ⟨gb,0,none⟩)])<|zl (y6 b) fun E F ap U V X Y Z a0=>?_
 obtain⟨aq,ar⟩:=V
 obtain⟨au,av⟩:=X
 obtain⟨aw,aA⟩:=Y
 refine L0<|bN #[.int .u16 0,.int .u16 0,.int .u16 0,.slice none 0 0] fun aF aG a1 a2 a3=>L0<|bi a2 #[.int .u16 ((jD C).file),.int .u16 ((jD C).record),.int .u16 ((jD C).count),.slice E ((jD C).words.length) F] fun a4 a5 a6=>nt<|sq<|Bt 9<|?_
 have z:=ud a3 a6 a1
 have a:=aD a0 z
 refine F0<|aP (aY a m1 m) 0<|?_
 have o:=ag.old Z z
 refine F0<|Oc<|mq (bp o)<|?_
 have aH:=ag.len o
 refine Fp<|Fp<|?_
 have G:=u1 k a im
 refine BE 19 ((((kz C).e)!=0)) (fun j=>?_) (fun j=>?_)
 have a7:=aB j
 refine Fp<|Fp<|Fp<|Fp<|Fp<|uB<|tn<|c1<|rt<|br<|tr<|br<|rr (.tuple #[])<|?_
 have hfin:bh ez C0.l.length 0 C0 []=((kz C),L):=by
   rw[← hrec]
   rw[show n=(n-1)+1 from by omega]
   simp only[bh,ez,d,v,y,j,bs,if_true,if_false,decide_true,decide_false,reduceIte]
 refine⟨rfl,s,A,cp,?_⟩
 rw[hfin]
 exact⟨G,o,(aY a (Ne.symm n1) p),(aY a (Ne.symm n2) q),(ak h a (fun x hx=>(ae (fun e=>(aC (ag.lt hC) lr h) (e▸hx)) az)) (bF.upd16 a (aj (ag.safe b _ (by decide)) aE))),(aY a (Ne.symm n3) t)⟩
 have a7:=ah j
 refine Fp<|F0<|cj a5<|?_
 have H:=aY a (Ne.symm n3) t
 have a8:JR w gb gs gm l c (dF fn0 tm asg bdy D) (kz C) s L A cp a4:=⟨G,o,(aY a (Ne.symm n1) p),(aY a (Ne.symm n2) q),(ak h a (fun x hx=>(ae (fun e=>(aC (ag.lt hC) lr h) (e▸hx)) az)) (bF.upd16 a (aj (ag.safe b _ (by decide)) aE))),H⟩
 refine Fy (r:=dF fn0 tm asg bdy D) (.agg #[.int .u16 ((jD C).file),.int .u16 ((jD C).record),.int .u16 ((jD C).count),.slice E ((jD C).words.length) F]) 53 H rfl<|?_
 refine RoundIn.mono (hround _ _ _ _ _ _ (jD C) _ _ a8 (dT.upd' U z aE) (aJ (by omega)) (aJ (by omega)) (aJ (by omega)) (by omega)) ?_
 rintro _ aI ⟨rfl,aK,a9,aa,f⟩
 refine⟨_,rfl,?_⟩
 exact Fp<|Fp<|uB<|tn<|c0<|sk<|bn<|ew ((n-1),(kz C),s,(L++[(jD C)]),a9,aa) ⟨f.u,f.hC,f.hS,f.hm,f.hl,f.ho,(by(try dsimp only);rw[← hrec,show n=(n-1)+1 from by omega];simp only[bh,ez,d,v,y,j,bs,if_true,if_false,decide_true,decide_false,Nat.add_sub_cancel,reduceIte]),(by(try dsimp only);have hd:=mK s C (by omega);have nq:(ez s C).2.1.l.length=(kz C).l.length:=rfl;omega),(by(try dsimp only);simp only[List.length_append,List.length_cons,List.length_nil];omega),(by(try dsimp only);simp only[List.length_append,List.length_cons,List.length_nil];omega)⟩ (by omega)
 refine xt<|tx<|tx<|bx<|rm (.tuple #[])<|?_
 have hfin:bh ez C0.l.length 0 C0 []=(C,L):=by
   rw[← hrec]
   exact iC _ _ _ _ _ (by simp only[d,bs,if_true,if_false,decide_true,decide_false])
 refine⟨rfl,s,A,cp,?_⟩
 rw[hfin]
 exact⟨k,b,p,q,h,t⟩
open Go.RowKit
def gz (n:Int) : Bool:=(decide (7≤n)&&decide (n≤245))&&n%7==0
def gB (n:Int) : Bool:=decide (4≤n)&&decide (n≤245)
def hY (n:Int) : Bool:=decide (9≤n)&&decide (n≤251)
def ox (may:Int→Bool)(C:al) : al:=(C.bytesC 1).need (may C.byteV) 5
def rA (may:Int→Bool)(C:al) : al:=⟨(ox may C).bytesR C.byteV,false,0⟩
def kk (one:Int→al→Int × al × dY)(may:Int→Bool)(C:al) : al × List dY:=bh one (rA may C).l.length 0 (rA may C) []
def da (e:Int) : Int:=if e==2 then 5 else e
def dh (one:Int→al→Int × al × dY)(may:Int→Bool)(c:Int)(C:al) : al × aT :=
  (((ox may C).bytesC C.byteV).need ((kk one may C).1.e==0) (da (kk one may C).1.e),{ aT.zero with code:=c,recs:=(kk one may C).2 })
def b6 (dir c:Int)(C:al) : Option (al × aT) :=
  if c==20 then (if dir==0 then some (dh eb gz c C) else some (dh cL gB c C)) else if c==21 then some (dh ez hY c C) else none
theorem lA:((20:Int)==20)=true:=rfl
theorem lY:((21:Int)==20)=false:=rfl
theorem m8:((21:Int)==21)=true:=rfl
theorem nE{m:Bool}{A:Option Addr}{cp:Nat}{b:List Int}{w:World}{dir:Int}(hd:dir=0∨dir=1)(hsl:aS m w (.slice A b.length cp) b)(hb:b.length≤1048576) :
    Calls Tryz.prog 64 #[.int .i64 0,.int .u8 20,.slice A b.length cp] w (dC (aq b6 0 20 b) w):=by
 have hln:(b.length:Int)≤1048576:=by omega
 have cH:((dir != 0)&&(dir != 1))=false:=by rcases hd with rfl | rfl<;>rfl
 refine zO 77 Tryz.func64 rfl<|sg<|L0<|bN mZ fun aa cI bl K ad=>Pl 1<|nt<|sq<|sg<|Pl 6<|nt<|c0<|?_
 refine bK<|sg<|Pl 2<|L0<|Oc (args:=#[.int .i64 0,.int .u8 20])<|e3 yb fun v cJ Z G N=>Pl 3<|L0<|bN #[.nilFunc,.nilFunc] fun cL cM ce bm z=>L0<|bi bm #[.func (.func 126) #[] #[],.func (.func 124) #[] #[.pointer (some ⟨v,0,none⟩)]] fun cN cf t=>Pl 1<|nt<|sq<|sq<|?_
 refine go<|Pl 2<|nt<|c0<|bK<|sg<|Pl 1<|?_
 have af:=ud z t ce
 have a0:=aD N af
 have bo:=aD ad a0
 refine L0<|Oc<|e3 (dq (aS.old hsl bo) (by omega)) fun a1 cO U M r=>Pl 1<|ng<|Pl 1<|L0<|Oc<|m3 (bJ M) fun cP cg o cQ=>L0<|Oi ((al.mk b false 0).byteV)<|Pl 1<|ng<|?_
 refine Pl 2<|?_
 have aL:=ud r o U
 have bq:=ub aL cf
 refine L0<|aP bq 0<|Pl 1<|L0<|fj #[] #[] (args:=#[.int .i64 ((al.mk b false 0).byteV)])<|m1 (pG (n:=(al.mk b false 0).byteV) (by omega)) fun cS d=>?_
 refine L0<|Oc<|m2 (aU ((gz ((al.mk b false 0).byteV))) 5 (ag.old cg d)) fun cT ch i=>?_
 refine ab ch fun x49 br bu=>?_
 refine ng<|Pl 2<|L0<|Oc<|uo (bT (n:=(al.mk b false 0).byteV) bu) fun cU cV cW ci cX cY ck j=>?_
 have cZ:=Nat.le_trans (al.bytesR_le x49 ((al.mk b false 0).byteV)) (ag.len bu)
 refine ab ck fun x58 bv aN=>?_
 refine L0<|Oc<|e3 (dq ci (by omega)) fun O d0 P Q g=>Pl 1<|ng<|Pl 2<|L0<|bN mZ fun B d1 H V p=>L0<|bi V (mC 20) fun d2 cl h=>nt<|sq<|sg<|?_
 refine Pl 2<|?_
 have an:=ud p h H
 have ao:=aD g an
 have bw:=uz d (u1 i (aD j ao) im)
 refine L0<|aP (aY bw (nb (am bm) t.size U) bq) 1<|L0<|Oc<|zl (kK (gb:=O) (f:=.func 124) (x:=#[]) (y:=#[.pointer (some ⟨v,0,none⟩)])) fun cm cn d3 aO aQ d4 bx bz k=>nt<|bk<|?_
 refine pS (f:=131) #[.pointer (some ⟨cm,0,none⟩),.pointer (some ⟨cn,0,none⟩)] fun a ha=>?_
 intro d5 cq I d6 D E bA ap S J
 have bB:=nb (ag.lt Q) lr H
 have ar:=nb (ag.lt Q) (le (le p.size h.size) k.size) E
 have bC:=nb (am G) (le (le (le (le (le (le (le z.size t.size) r.size) o.size) d.size) i.size) j.size) g.size) H
 have bD:=nb (am G) (le (le (le (le (le (le (le (le (le (le z.size t.size) r.size) o.size) d.size) i.size) j.size) g.size) p.size) h.size) k.size) E
 have a2:=nb (am V) (le h.size k.size) E
 have X:=aD k J
 have bE:=ag.old Q (aD an X)
 have aw:=ud aL (aD bw X) U
 have bG:=ub (aD af aw) G
 have aV:=ub X cl
 refine(zh (c:=20) bE bG aV S (ub J bx) (ub J bz) (Ne.symm (nb (am G) (le (le (le (le (le (le z.size t.size) r.size) o.size) d.size) i.size) j.size) P)) bB ar bC bD a2 (Ne.symm (nb (ag.lt Q) an.size aO)) (Ne.symm (nb (am G) (le (le (le (le (le (le (le (le (le z.size t.size) r.size) o.size) d.size) i.size) j.size) g.size) p.size) h.size) aO)) (Ne.symm (nb (am V) h.size aO)) (nb (am bx) lr E) (Ne.symm (nb (ag.lt Q) an.size aQ)) (Ne.symm (nb (am G) (le (le (le (le (le (le (le (le (le z.size t.size) r.size) o.size) d.size) i.size) j.size) g.size) p.size) h.size) aQ)) (Ne.symm (nb (am V) h.size aQ)) (nb (am bz) lr E) ?_).mono ?_
 intro W C s L Ar cr x Ax cx hJ hrd hx1 hx2 hx3 hL
 simp only[dA] at hx1 hx2 hx3
 have hm2:W.heap[B]? = some (.cells #[.int .u8 20,.int .u8 0,.int .u16 0,.int .u16 0,.int .u16 0,.int .u16 0,.int .u16 0,.int .u16 0,.int .u16 0,.int .u16 0,.int .u16 0,.int .u16 0,.slice none 0 0,.slice none 0 0,.slice none 0 0,.slice Ar L.length cr,.int .u8 0,.int .u8 0,.int .u8 0,.int .u8 0,.int .u8 0,.slice none 0 0] 31 (0,0)):=hJ.hm
 refine kv hJ.hl ?_
 refine Bc ha 53<|zP<|lh<|bN #[.int .u16 0,.int .u16 0,.int .u16 0,.slice none 0 0] fun d7 d8 bH cs bI=>lh<|bi cs #[.int .u16 x.file,.int .u16 x.record,.int .u16 x.count,.slice Ax x.words.length cx] fun d9 ct bL=>uB<|?_
 have bM:=ud bI bL bH
 refine Bz (ub bM hJ.hl) (by trivial) fun db cu aW=>Bi<|zP<|zI<|?_
 have aX:=uz bM aW
 have bO:=aY aX a2 hm2
 refine lh<|aP bO 15<|?_
 refine lh<|cj (aY aW (Ne.symm (nb (am S) hJ.u.size bH)) ct)<|lh<|cR (m:=1) (e:=83) #[.int .u16 x.file,.int .u16 x.record,.int .u16 x.count,.slice Ax x.words.length cx] fun dc dd de cv aZ=>?_
 have Y:=aD aX aZ
 have cw:=pN (R:=bF true) (x:=(dY.mk x.file x.record x.count x.words)) cv rfl ⟨_,rfl,(dT.updl hrd Y hJ.hl rfl),aJ (by omega),aJ (by omega),aJ (by omega)⟩
 have b0:=ak hJ.ho Y (fun x hx=>(ae (fun e=>(aC (am S) lr hJ.ho) (e▸hx)) az)) (bF.updl Y hJ.hl rfl)
 refine lh<|ka (xs:=L) (ys:=([(dY.mk x.file x.record x.count x.words)])) (.agg #[.int .u16 0,.int .u16 0,.int .u16 0,.slice none 0 0]) 4 32 b0 cw (by simp) bF.ones (fun w' hv=>bF.upd16 hv (cK (dp _ b0 (by decide)) aE)) (by(try simp only[List.length_append,List.length_cons,List.length_nil,av]);omega) (le (le (le (le hJ.u.size bI.size) bL.size) aW.size) aZ.size) fun bP bR df b1 ax=>zI<|?_
 have bS:=ut (ay.mono (S':=(ob Ar++[])) aZ au) ax (ai il au)
 have b2:=ay.blk bS (aH (aC (am aV) lr hJ.ho) az) bO
 refine lh<|co b2 15 (mG 20 0 0 0 0 0 0 0 0 0 0 0 nS nS nS (.slice bP ((L++[(dY.mk x.file x.record x.count x.words)]).length) bR) 0 0 0 0 0 nS) fun dg cy a3=>uB<|bn<|?_
 have bU:=u1 (ay.mono (S':=(ob Ar++(B :: []))) bS (ai il au)) a3 im
 have b3:=ay.blk bU (aH (aC (am S) lr hJ.ho) (ae (Ne.symm a2) az)) cu
 refine B7 b3 fun di cz a4=>?_
 have b4:=ut (ay.mono (S':=(I :: (ob Ar++(B :: [])))) Y (ac im au)) (ut (ay.mono (S':=(ob Ar++(B :: (I :: [])))) ax (ai il au)) (us a3 a4) (ac im (ac im au))) (ai il (ac im (ac im au)))
 have dj:=ut hJ.u (ut (ay.mono (S':=(I :: (ob Ar++(B :: [])))) aX (ac im au)) bU (ai il (ac im au))) (ac im (ai (aI hJ.ho lr) (ac im au)))
 have dk:=ut hJ.u (ut (ay.mono (S':=(I :: (ob Ar++[]))) Y (ac im au)) ax (ai il au)) (ac im (ai (aI hJ.ho lr) au))
 exact⟨by trivial,b4.size,bP,bR,⟨(ut hJ.u b4 (ac im (ai (aI hJ.ho lr) (ac im au)))),(ag.updl (ag.upd (ag.upd (ag.updl hJ.hC Y (ae ar az) hJ.hl rfl) ax (aH (aC (ag.lt bE) lr hJ.ho) az) (cK (dp _ b0 (by decide)) aE)) a3 (ae bB az) (aj (aM b2 (by decide)) aE)) a4 (ae ar az) b3 rfl),(ay.blk b4 (ae bD (aH (aC (am bG) lr hJ.ho) (ae bC az))) hJ.hS),(aY a4 a2 cy),(ak (ak b1 a3 (fun x hx=>(ae (fun e=>(aC (am aV) lr b1) (e▸hx)) az)) (bF.upd16 a3 (aj (aM b2 (by decide)) aE))) a4 (fun x hx=>(ae (fun e=>(aC (am S) lr b1) (e▸hx)) az)) (bF.updl a4 b3 rfl)),cz⟩⟩
 rintro _ cA ⟨rfl,dl,bV,bW,q⟩
 refine⟨_,_,rfl,q.hl,by simp[dF],by trivial,fun dm bX=>?_⟩
 refine ab q.hC fun b5 bY cB=>?_
 have cC:cA.heap[B]? = some (.cells #[.int .u8 20,.int .u8 0,.int .u16 0,.int .u16 0,.int .u16 0,.int .u16 0,.int .u16 0,.int .u16 0,.int .u16 0,.int .u16 0,.int .u16 0,.int .u16 0,.slice none 0 0,.slice none 0 0,.slice none 0 0,.slice bV ((bh eb (al.mk (x49.bytesR ((al.mk b false 0).byteV)) false 0).l.length 0 (al.mk (x49.bytesR ((al.mk b false 0).byteV)) false 0) []).2.length) bW,.int .u8 0,.int .u8 0,.int .u8 0,.int .u8 0,.int .u8 0,.slice none 0 0] 31 (0,0)):=q.hm
 refine bn<|tn<|sg<|Pl 2<|?_
 have aA:=ag.updl cB bX (ae ar az) q.hl rfl
 refine L0<|Oc<|mq (bp aA)<|?_
 have dn:=ag.len aA
 refine Pl 2<|L0<|Oc<|mq (bp aA)<|?_
 have dr:=ag.len aA
 refine L0<|Oc<|m1 (it (e:=b5.e)) fun ds cD=>?_
 have F:=aD bX cD
 have bZ:=u1 q.u F im
 have b9:=nb (am G) af.size U
 have aF:=ud aL (uz d (u1 i j im)) U
 have ba:=ub (aD af aF) G
 have bb:=ag.upd aN (ut (ay.mono (S':=[v]) ao au) (ut (ay.mono (S':=[O,v,B]) X au) bZ (ac im (ac im (ac im (ac (ni k.size E) au))))) (ac (nr P) (ac im (ac (ni g.size H) au)))) (ae (Ne.symm b9) az) (aj (aM ba (by decide)) aE)
 refine L0<|Oc<|m2 (aU ((b5.e==0)) (da b5.e) bb) fun dt cE T=>?_
 refine ab cE fun c1 c2 bc=>?_
 refine ng<|Pl 1<|L0<|Oc<|m2 (bQ bc) fun du c3 a5=>nt<|sq<|sg<|Pl 1<|L0<|Oc<|mq (bp c3)<|?_
 have dv:=ag.len c3
 refine Pl 1<|ng<|Pl 2<|nt<|?_
 have a6:=u1 T a5 im
 have bd:=u1 (ay.mono (S':=[O,v,B,I,a1]) bZ (ac im (ac im (ac im (ac im au))))) a6 im
 have be:=ut (ay.mono (S':=[v]) aw au) bd (ac (ni aF.size P) (ac im (ac (ni (le (le (le (le (le r.size o.size) d.size) i.size) j.size) g.size) H) (ac (ni (le (le (le (le (le (le (le (le r.size o.size) d.size) i.size) j.size) g.size) p.size) h.size) k.size) E) (ac (nr U) au)))))
 have c4:=ud bo be (le ad.size Z)
 refine cb ((c1.endC.e != 0)) (fun a7=>?_) (fun a7=>?_)
 have bf:=aB a7
 refine sg<|Pl 2<|?_
 have c5:=ub (ud a0 be Z) K
 refine L0<|bi c5 mZ fun dw cF a8=>Pl 1<|nt<|rt<|tr<|?_
 have c6:=nb (am K) (le (le (le (le (le (le (le (le (le (le (le N.size z.size) t.size) r.size) o.size) d.size) i.size) j.size) g.size) p.size) h.size) k.size) D
 have c7:=ay.blk (u1 (ay.mono (S':=[O,v,B,I,a1,aa]) bd (ac im (ac im (ac im (ac im (ac im au)))))) a8 im) (ae (Ne.symm (nb (ag.lt Q) (le (le p.size h.size) k.size) D)) (ae (Ne.symm (nb (am G) (le (le (le (le (le (le (le (le (le (le z.size t.size) r.size) o.size) d.size) i.size) j.size) g.size) p.size) h.size) k.size) D)) (ae (Ne.symm (nb (am V) (le h.size k.size) D)) (ae bA (ae (Ne.symm (nb (ag.lt M) (le (le (le (le (le (le (le o.size d.size) i.size) j.size) g.size) p.size) h.size) k.size) D)) (ae (Ne.symm c6) az)))))) ap
 refine zK c7 fun dx aG=>?_
 refine rx (aY aG c6 cF) (.int .i64 c1.endC.e)<|?_
 subst c2 bY bv br
 have c8:=us a8 aG
 have dy:=us F (us a6 c8)
 have dz:=us F (us a6 a8)
 have dB:=ub (ud a0 (ut (ay.mono (S':=[v]) aw au) q.u (ac (ni aF.size P) (ac im (ac (ni (le (le (le (le (le r.size o.size) d.size) i.size) j.size) g.size) H) (ac (ni (le (le (le (le (le (le (le (le r.size o.size) d.size) i.size) j.size) g.size) p.size) h.size) k.size) E) au))))) Z) K
 have dD:=ag.upd aN (ut (ay.mono (S':=[v]) ao au) (ut (ay.mono (S':=[O,v,B]) X au) q.u (ac im (ac im (ac im (ac (ni k.size E) au))))) (ac (nr P) (ac im (ac (ni g.size H) au)))) (ae (Ne.symm b9) az) (aj (aM ba (by decide)) aE)
 have dE:=us F a6
 have dG:=us F T
 have dH:=ak (ak (ak (ak (ak q.ho F (fun x hx=>(ae (fun e=>(aC (am S) lr q.ho) (e▸hx)) az)) (bF.updl F q.hl rfl)) T (fun x hx=>(ae (fun e=>(aC (ag.lt M) (le (le (le (le (le (le (le (le o.size d.size) i.size) j.size) g.size) p.size) h.size) k.size) J.size) q.ho) (e▸hx)) az)) (bF.upd16 T (aj (ag.safe bb _ (by decide)) aE))) a5 (fun x hx=>(ae (fun e=>(aC (ag.lt M) (le (le (le (le (le (le (le (le o.size d.size) i.size) j.size) g.size) p.size) h.size) k.size) J.size) q.ho) (e▸hx)) az)) (bF.upd16 a5 (aj (ag.safe bc _ (by decide)) aE))) a8 (fun x hx=>(ae (fun e=>(aC (am K) (le (le (le (le (le (le (le (le (le (le (le (le N.size z.size) t.size) r.size) o.size) d.size) i.size) j.size) g.size) p.size) h.size) k.size) J.size) q.ho) (e▸hx)) az)) (bF.upd16 a8 (aj (aM c5 (by decide)) aE))) aG (fun x hx=>(ae (fun e=>(aC (am ap) lr q.ho) (e▸hx)) az)) (bF.updl aG c7 rfl)
 have hs:aq b6 0 20 b=b7 (aT.mk 20 0 0 0 0 0 0 0 0 0 0 0 [] [] [] (bh eb (al.mk ((((al.mk b false 0).bytesC 1).need (gz ((al.mk b false 0).byteV)) 5).bytesR ((al.mk b false 0).byteV)) false 0).l.length 0 (al.mk ((((al.mk b false 0).bytesC 1).need (gz ((al.mk b false 0).byteV)) 5).bytesR ((al.mk b false 0).byteV)) false 0) []).2 0 0 0 0 0 []) (((((al.mk b false 0).bytesC 1).need (gz ((al.mk b false 0).byteV)) 5).bytesC ((al.mk b false 0).byteV)).need (((bh eb (al.mk ((((al.mk b false 0).bytesC 1).need (gz ((al.mk b false 0).byteV)) 5).bytesR ((al.mk b false 0).byteV)) false 0).l.length 0 (al.mk ((((al.mk b false 0).bytesC 1).need (gz ((al.mk b false 0).byteV)) 5).bytesR ((al.mk b false 0).byteV)) false 0) []).1).e==0) (da ((bh eb (al.mk ((((al.mk b false 0).bytesC 1).need (gz ((al.mk b false 0).byteV)) 5).bytesR ((al.mk b false 0).byteV)) false 0).l.length 0 (al.mk ((((al.mk b false 0).bytesC 1).need (gz ((al.mk b false 0).byteV)) 5).bytesR ((al.mk b false 0).byteV)) false 0) []).1).e)):=by
   unfold aq b6 dh kk rA ox
   (try simp only[a7,bs,if_true,if_false,decide_true,decide_false,eq_self,true_or,or_true,or_false,false_or,if_true,if_false,dR,dM,dN,dP,reduceIte,lA,lY,m8])
   all_goals rfl
 rw[hs]
 exact bg bf (ut c4 c8 (ac (nr bl) (ac (ni (le (le (le (le (le (le (le (le (le (le (le (le ad.size N.size) z.size) t.size) r.size) o.size) d.size) i.size) j.size) g.size) p.size) h.size) k.size) D) au)))
 have bf:=ah a7
 refine bK<|sg<|?_
 have bj:=us F a6
 refine L0<|cj (ay.blk bj (ae a2 (ae (Ne.symm (nb (ag.lt M) (le (le (le (le o.size d.size) i.size) j.size) g.size) H)) az)) cC)<|?_
 have c9:=ub (ud a0 be Z) K
 refine L0<|bi c9 (mG 20 0 0 0 0 0 0 0 0 0 0 0 nS nS nS (.slice bV ((bh eb (al.mk (x49.bytesR ((al.mk b false 0).byteV)) false 0).l.length 0 (al.mk (x49.bytesR ((al.mk b false 0).byteV)) false 0) []).2.length) bW) 0 0 0 0 0 nS) fun dI cG a9=>Pl 1<|nt<|rt<|?_
 have ca:=nb (am K) (le (le (le (le (le (le (le (le (le (le (le N.size z.size) t.size) r.size) o.size) d.size) i.size) j.size) g.size) p.size) h.size) k.size) D
 have cc:=ay.blk (u1 (ay.mono (S':=[O,v,B,I,a1,aa]) bd (ac im (ac im (ac im (ac im (ac im au)))))) a9 im) (ae (Ne.symm (nb (ag.lt Q) (le (le p.size h.size) k.size) D)) (ae (Ne.symm (nb (am G) (le (le (le (le (le (le (le (le (le (le z.size t.size) r.size) o.size) d.size) i.size) j.size) g.size) p.size) h.size) k.size) D)) (ae (Ne.symm (nb (am V) (le h.size k.size) D)) (ae bA (ae (Ne.symm (nb (ag.lt M) (le (le (le (le (le (le (le o.size d.size) i.size) j.size) g.size) p.size) h.size) k.size) D)) (ae (Ne.symm ca) az)))))) ap
 refine zK cc fun dJ aK=>?_
 refine rx (aY aK ca cG) (.int .i64 0)<|?_
 subst c2 bY bv br
 have cd:=us a9 aK
 have dK:=ut (ay.mono (S':=[I,a1,aa,cq]) bj (ac im (ac im au))) cd (ac im (ac im au))
 have dL:=u1 (ay.mono (S':=[I,a1,aa]) bj (ac im (ac im au))) a9 im
 have dO:=ub (ud a0 (ut (ay.mono (S':=[v]) aw au) q.u (ac (ni aF.size P) (ac im (ac (ni (le (le (le (le (le r.size o.size) d.size) i.size) j.size) g.size) H) (ac (ni (le (le (le (le (le (le (le (le r.size o.size) d.size) i.size) j.size) g.size) p.size) h.size) k.size) E) au))))) Z) K
 have dQ:=ag.upd aN (ut (ay.mono (S':=[v]) ao au) (ut (ay.mono (S':=[O,v,B]) X au) q.u (ac im (ac im (ac im (ac (ni k.size E) au))))) (ac (nr P) (ac im (ac (ni g.size H) au)))) (ae (Ne.symm b9) az) (aj (aM ba (by decide)) aE)
 have dS:=us F T
 have hs:aq b6 0 20 b=b7 (aT.mk 20 0 0 0 0 0 0 0 0 0 0 0 [] [] [] (bh eb (al.mk ((((al.mk b false 0).bytesC 1).need (gz ((al.mk b false 0).byteV)) 5).bytesR ((al.mk b false 0).byteV)) false 0).l.length 0 (al.mk ((((al.mk b false 0).bytesC 1).need (gz ((al.mk b false 0).byteV)) 5).bytesR ((al.mk b false 0).byteV)) false 0) []).2 0 0 0 0 0 []) (((((al.mk b false 0).bytesC 1).need (gz ((al.mk b false 0).byteV)) 5).bytesC ((al.mk b false 0).byteV)).need (((bh eb (al.mk ((((al.mk b false 0).bytesC 1).need (gz ((al.mk b false 0).byteV)) 5).bytesR ((al.mk b false 0).byteV)) false 0).l.length 0 (al.mk ((((al.mk b false 0).bytesC 1).need (gz ((al.mk b false 0).byteV)) 5).bytesR ((al.mk b false 0).byteV)) false 0) []).1).e==0) (da ((bh eb (al.mk ((((al.mk b false 0).bytesC 1).need (gz ((al.mk b false 0).byteV)) 5).bytesR ((al.mk b false 0).byteV)) false 0).l.length 0 (al.mk ((((al.mk b false 0).bytesC 1).need (gz ((al.mk b false 0).byteV)) 5).bytesR ((al.mk b false 0).byteV)) false 0) []).1).e)):=by
   unfold aq b6 dh kk rA ox
   (try simp only[a7,bs,if_true,if_false,decide_true,decide_false,eq_self,true_or,or_true,or_false,false_or,if_true,if_false,dR,dM,dN,dP,reduceIte,lA,lY,m8])
   all_goals rfl
 rw[hs]
 exact bt bf ⟨_,_,_,_,_,rfl,aR.nil ..,aR.nil ..,aR.nil ..,((ak (ak (ak (ak (ak q.ho F (fun x hx=>(ae (fun e=>(aC (am S) lr q.ho) (e▸hx)) az)) (bF.updl F q.hl rfl)) T (fun x hx=>(ae (fun e=>(aC (ag.lt M) (le (le (le (le (le (le (le (le o.size d.size) i.size) j.size) g.size) p.size) h.size) k.size) J.size) q.ho) (e▸hx)) az)) (bF.upd16 T (aj (ag.safe bb _ (by decide)) aE))) a5 (fun x hx=>(ae (fun e=>(aC (ag.lt M) (le (le (le (le (le (le (le (le o.size d.size) i.size) j.size) g.size) p.size) h.size) k.size) J.size) q.ho) (e▸hx)) az)) (bF.upd16 a5 (aj (ag.safe bc _ (by decide)) aE))) a9 (fun x hx=>(ae (fun e=>(aC (am K) (le (le (le (le (le (le (le (le (le (le (le (le N.size z.size) t.size) r.size) o.size) d.size) i.size) j.size) g.size) p.size) h.size) k.size) J.size) q.ho) (e▸hx)) az)) (bF.upd16 a9 (aj (aM c9 (by decide)) aE))) aK (fun x hx=>(ae (fun e=>(aC (am ap) lr q.ho) (e▸hx)) az)) (bF.updl aK cc rfl))).rd,aR.nil ..,⟨(b8 (x:=20) (by omega)),(b8 (x:=0) (by omega)),(aJ (x:=0) (by omega)),(aJ (x:=0) (by omega)),(aJ (x:=0) (by omega)),(aJ (x:=0) (by omega)),(aJ (x:=0) (by omega)),(aJ (x:=0) (by omega)),(aJ (x:=0) (by omega)),(aJ (x:=0) (by omega)),(aJ (x:=0) (by omega)),(aJ (x:=0) (by omega)),(b8 (x:=0) (by omega)),(b8 (x:=0) (by omega)),(b8 (x:=0) (by omega)),(b8 (x:=0) (by omega)),(b8 (x:=0) (by omega))⟩⟩ (ut c4 cd (ac (nr bl) (ac (ni (le (le (le (le (le (le (le (le (le (le (le (le ad.size N.size) z.size) t.size) r.size) o.size) d.size) i.size) j.size) g.size) p.size) h.size) k.size) D) au)))
theorem oG{m:Bool}{A:Option Addr}{cp:Nat}{b:List Int}{w:World}{dir:Int}(hd:dir=0∨dir=1)(hsl:aS m w (.slice A b.length cp) b)(hb:b.length≤1048576) :
    Calls Tryz.prog 64 #[.int .i64 1,.int .u8 20,.slice A b.length cp] w (dC (aq b6 1 20 b) w):=by
 have hln:(b.length:Int)≤1048576:=by omega
 have cH:((dir != 0)&&(dir != 1))=false:=by rcases hd with rfl | rfl<;>rfl
 refine zO 77 Tryz.func64 rfl<|sg<|L0<|bN mZ fun aa cI bl K ad=>Pl 1<|nt<|sq<|sg<|Pl 6<|nt<|c0<|?_
 refine bK<|sg<|Pl 2<|L0<|Oc (args:=#[.int .i64 1,.int .u8 20])<|e3 yc fun z cJ Z G N=>Pl 3<|L0<|bN #[.nilFunc,.nilFunc] fun cM cN ce bm v=>L0<|bi bm #[.func (.func 127) #[] #[],.func (.func 128) #[] #[]] fun cO cf t=>Pl 1<|nt<|sq<|sq<|?_
 refine go<|Pl 2<|nt<|c0<|bK<|sg<|Pl 1<|?_
 have af:=ud v t ce
 have a0:=aD N af
 have bo:=aD ad a0
 refine L0<|Oc<|e3 (dq (aS.old hsl bo) (by omega)) fun a1 cP U M r=>Pl 1<|ng<|Pl 1<|L0<|Oc<|m3 (bJ M) fun cQ cg o cS=>L0<|Oi ((al.mk b false 0).byteV)<|Pl 1<|ng<|?_
 refine Pl 2<|?_
 have aL:=ud r o U
 have bq:=ub aL cf
 refine L0<|aP bq 0<|Pl 1<|L0<|fj #[] #[] (args:=#[.int .i64 ((al.mk b false 0).byteV)])<|m1 (qC (n:=(al.mk b false 0).byteV) (by omega)) fun cT d=>?_
 refine L0<|Oc<|m2 (aU ((gB ((al.mk b false 0).byteV))) 5 (ag.old cg d)) fun cU ch i=>?_
 refine ab ch fun x49 br bu=>?_
 refine ng<|Pl 2<|L0<|Oc<|uo (bT (n:=(al.mk b false 0).byteV) bu) fun cV cW cX ci cY cZ ck j=>?_
 have d0:=Nat.le_trans (al.bytesR_le x49 ((al.mk b false 0).byteV)) (ag.len bu)
 refine ab ck fun x58 bv aN=>?_
 refine L0<|Oc<|e3 (dq ci (by omega)) fun O d1 P Q g=>Pl 1<|ng<|Pl 2<|L0<|bN mZ fun B d2 H V p=>L0<|bi V (mC 20) fun d3 cl h=>nt<|sq<|sg<|?_
 refine Pl 2<|?_
 have an:=ud p h H
 have ao:=aD g an
 have bw:=uz d (u1 i (aD j ao) im)
 refine L0<|aP (aY bw (nb (am bm) t.size U) bq) 1<|L0<|Oc<|zl (kK (gb:=O) (f:=.func 128) (x:=#[]) (y:=#[])) fun cm cn d4 aO aQ d5 bx bz k=>nt<|bk<|?_
 refine pS (f:=131) #[.pointer (some ⟨cm,0,none⟩),.pointer (some ⟨cn,0,none⟩)] fun a ha=>?_
 intro d6 cq I d7 D E bA ap S J
 have bB:=nb (ag.lt Q) lr H
 have ar:=nb (ag.lt Q) (le (le p.size h.size) k.size) E
 have bC:=nb (am G) (le (le (le (le (le (le (le v.size t.size) r.size) o.size) d.size) i.size) j.size) g.size) H
 have bD:=nb (am G) (le (le (le (le (le (le (le (le (le (le v.size t.size) r.size) o.size) d.size) i.size) j.size) g.size) p.size) h.size) k.size) E
 have a2:=nb (am V) (le h.size k.size) E
 have X:=aD k J
 have bE:=ag.old Q (aD an X)
 have aw:=ud aL (aD bw X) U
 have bG:=ub (aD af aw) G
 have aV:=ub X cl
 refine(ze (c:=20) bE bG aV S (ub J bx) (ub J bz) (Ne.symm (nb (am G) (le (le (le (le (le (le v.size t.size) r.size) o.size) d.size) i.size) j.size) P)) bB ar bC bD a2 (Ne.symm (nb (ag.lt Q) an.size aO)) (Ne.symm (nb (am G) (le (le (le (le (le (le (le (le (le v.size t.size) r.size) o.size) d.size) i.size) j.size) g.size) p.size) h.size) aO)) (Ne.symm (nb (am V) h.size aO)) (nb (am bx) lr E) (Ne.symm (nb (ag.lt Q) an.size aQ)) (Ne.symm (nb (am G) (le (le (le (le (le (le (le (le (le v.size t.size) r.size) o.size) d.size) i.size) j.size) g.size) p.size) h.size) aQ)) (Ne.symm (nb (am V) h.size aQ)) (nb (am bz) lr E) ?_).mono ?_
 intro W C s L Ar cr x Ax cx hJ hrd hx1 hx2 hx3 hL
 simp only[dA] at hx1 hx2 hx3
 have hm2:W.heap[B]? = some (.cells #[.int .u8 20,.int .u8 0,.int .u16 0,.int .u16 0,.int .u16 0,.int .u16 0,.int .u16 0,.int .u16 0,.int .u16 0,.int .u16 0,.int .u16 0,.int .u16 0,.slice none 0 0,.slice none 0 0,.slice none 0 0,.slice Ar L.length cr,.int .u8 0,.int .u8 0,.int .u8 0,.int .u8 0,.int .u8 0,.slice none 0 0] 31 (0,0)):=hJ.hm
 refine kv hJ.hl ?_
 refine Bc ha 53<|zP<|lh<|bN #[.int .u16 0,.int .u16 0,.int .u16 0,.slice none 0 0] fun d8 d9 bH cs bI=>lh<|bi cs #[.int .u16 x.file,.int .u16 x.record,.int .u16 x.count,.slice Ax x.words.length cx] fun db ct bL=>uB<|?_
 have bM:=ud bI bL bH
 refine Bz (ub bM hJ.hl) (by trivial) fun dc cu aW=>Bi<|zP<|zI<|?_
 have aX:=uz bM aW
 have bO:=aY aX a2 hm2
 refine lh<|aP bO 15<|?_
 refine lh<|cj (aY aW (Ne.symm (nb (am S) hJ.u.size bH)) ct)<|lh<|cR (m:=1) (e:=83) #[.int .u16 x.file,.int .u16 x.record,.int .u16 x.count,.slice Ax x.words.length cx] fun dd de df cv aZ=>?_
 have Y:=aD aX aZ
 have cw:=pN (R:=bF true) (x:=(dY.mk x.file x.record x.count x.words)) cv rfl ⟨_,rfl,(dT.updl hrd Y hJ.hl rfl),aJ (by omega),aJ (by omega),aJ (by omega)⟩
 have b0:=ak hJ.ho Y (fun x hx=>(ae (fun e=>(aC (am S) lr hJ.ho) (e▸hx)) az)) (bF.updl Y hJ.hl rfl)
 refine lh<|ka (xs:=L) (ys:=([(dY.mk x.file x.record x.count x.words)])) (.agg #[.int .u16 0,.int .u16 0,.int .u16 0,.slice none 0 0]) 4 32 b0 cw (by simp) bF.ones (fun w' hv=>bF.upd16 hv (cK (dp _ b0 (by decide)) aE)) (by(try simp only[List.length_append,List.length_cons,List.length_nil,av]);omega) (le (le (le (le hJ.u.size bI.size) bL.size) aW.size) aZ.size) fun bP bR dg b1 ax=>zI<|?_
 have bS:=ut (ay.mono (S':=(ob Ar++[])) aZ au) ax (ai il au)
 have b2:=ay.blk bS (aH (aC (am aV) lr hJ.ho) az) bO
 refine lh<|co b2 15 (mG 20 0 0 0 0 0 0 0 0 0 0 0 nS nS nS (.slice bP ((L++[(dY.mk x.file x.record x.count x.words)]).length) bR) 0 0 0 0 0 nS) fun di cy a3=>uB<|bn<|?_
 have bU:=u1 (ay.mono (S':=(ob Ar++(B :: []))) bS (ai il au)) a3 im
 have b3:=ay.blk bU (aH (aC (am S) lr hJ.ho) (ae (Ne.symm a2) az)) cu
 refine B7 b3 fun dj cz a4=>?_
 have b4:=ut (ay.mono (S':=(I :: (ob Ar++(B :: [])))) Y (ac im au)) (ut (ay.mono (S':=(ob Ar++(B :: (I :: [])))) ax (ai il au)) (us a3 a4) (ac im (ac im au))) (ai il (ac im (ac im au)))
 have dk:=ut hJ.u (ut (ay.mono (S':=(I :: (ob Ar++(B :: [])))) aX (ac im au)) bU (ai il (ac im au))) (ac im (ai (aI hJ.ho lr) (ac im au)))
 have dl:=ut hJ.u (ut (ay.mono (S':=(I :: (ob Ar++[]))) Y (ac im au)) ax (ai il au)) (ac im (ai (aI hJ.ho lr) au))
 exact⟨by trivial,b4.size,bP,bR,⟨(ut hJ.u b4 (ac im (ai (aI hJ.ho lr) (ac im au)))),(ag.updl (ag.upd (ag.upd (ag.updl hJ.hC Y (ae ar az) hJ.hl rfl) ax (aH (aC (ag.lt bE) lr hJ.ho) az) (cK (dp _ b0 (by decide)) aE)) a3 (ae bB az) (aj (aM b2 (by decide)) aE)) a4 (ae ar az) b3 rfl),(ay.blk b4 (ae bD (aH (aC (am bG) lr hJ.ho) (ae bC az))) hJ.hS),(aY a4 a2 cy),(ak (ak b1 a3 (fun x hx=>(ae (fun e=>(aC (am aV) lr b1) (e▸hx)) az)) (bF.upd16 a3 (aj (aM b2 (by decide)) aE))) a4 (fun x hx=>(ae (fun e=>(aC (am S) lr b1) (e▸hx)) az)) (bF.updl a4 b3 rfl)),cz⟩⟩
 rintro _ cA ⟨rfl,dm,bV,bW,q⟩
 refine⟨_,_,rfl,q.hl,by simp[dF],by trivial,fun dn bX=>?_⟩
 refine ab q.hC fun b5 bY cB=>?_
 have cC:cA.heap[B]? = some (.cells #[.int .u8 20,.int .u8 0,.int .u16 0,.int .u16 0,.int .u16 0,.int .u16 0,.int .u16 0,.int .u16 0,.int .u16 0,.int .u16 0,.int .u16 0,.int .u16 0,.slice none 0 0,.slice none 0 0,.slice none 0 0,.slice bV ((bh cL (al.mk (x49.bytesR ((al.mk b false 0).byteV)) false 0).l.length 0 (al.mk (x49.bytesR ((al.mk b false 0).byteV)) false 0) []).2.length) bW,.int .u8 0,.int .u8 0,.int .u8 0,.int .u8 0,.int .u8 0,.slice none 0 0] 31 (0,0)):=q.hm
 refine bn<|tn<|sg<|Pl 2<|?_
 have aA:=ag.updl cB bX (ae ar az) q.hl rfl
 refine L0<|Oc<|mq (bp aA)<|?_
 have dr:=ag.len aA
 refine Pl 2<|L0<|Oc<|mq (bp aA)<|?_
 have ds:=ag.len aA
 refine L0<|Oc<|m1 (it (e:=b5.e)) fun dt cD=>?_
 have F:=aD bX cD
 have bZ:=u1 q.u F im
 have b9:=nb (am G) af.size U
 have aF:=ud aL (uz d (u1 i j im)) U
 have ba:=ub (aD af aF) G
 have bb:=ag.upd aN (ut (ay.mono (S':=[z]) ao au) (ut (ay.mono (S':=[O,z,B]) X au) bZ (ac im (ac im (ac im (ac (ni k.size E) au))))) (ac (nr P) (ac im (ac (ni g.size H) au)))) (ae (Ne.symm b9) az) (aj (aM ba (by decide)) aE)
 refine L0<|Oc<|m2 (aU ((b5.e==0)) (da b5.e) bb) fun du cE T=>?_
 refine ab cE fun c1 c2 bc=>?_
 refine ng<|Pl 1<|L0<|Oc<|m2 (bQ bc) fun dv c3 a5=>nt<|sq<|sg<|Pl 1<|L0<|Oc<|mq (bp c3)<|?_
 have dw:=ag.len c3
 refine Pl 1<|ng<|Pl 2<|nt<|?_
 have a6:=u1 T a5 im
 have bd:=u1 (ay.mono (S':=[O,z,B,I,a1]) bZ (ac im (ac im (ac im (ac im au))))) a6 im
 have be:=ut (ay.mono (S':=[z]) aw au) bd (ac (ni aF.size P) (ac im (ac (ni (le (le (le (le (le r.size o.size) d.size) i.size) j.size) g.size) H) (ac (ni (le (le (le (le (le (le (le (le r.size o.size) d.size) i.size) j.size) g.size) p.size) h.size) k.size) E) (ac (nr U) au)))))
 have c4:=ud bo be (le ad.size Z)
 refine cb ((c1.endC.e != 0)) (fun a7=>?_) (fun a7=>?_)
 have bf:=aB a7
 refine sg<|Pl 2<|?_
 have c5:=ub (ud a0 be Z) K
 refine L0<|bi c5 mZ fun dx cF a8=>Pl 1<|nt<|rt<|tr<|?_
 have c6:=nb (am K) (le (le (le (le (le (le (le (le (le (le (le N.size v.size) t.size) r.size) o.size) d.size) i.size) j.size) g.size) p.size) h.size) k.size) D
 have c7:=ay.blk (u1 (ay.mono (S':=[O,z,B,I,a1,aa]) bd (ac im (ac im (ac im (ac im (ac im au)))))) a8 im) (ae (Ne.symm (nb (ag.lt Q) (le (le p.size h.size) k.size) D)) (ae (Ne.symm (nb (am G) (le (le (le (le (le (le (le (le (le (le v.size t.size) r.size) o.size) d.size) i.size) j.size) g.size) p.size) h.size) k.size) D)) (ae (Ne.symm (nb (am V) (le h.size k.size) D)) (ae bA (ae (Ne.symm (nb (ag.lt M) (le (le (le (le (le (le (le o.size d.size) i.size) j.size) g.size) p.size) h.size) k.size) D)) (ae (Ne.symm c6) az)))))) ap
 refine zK c7 fun dy aG=>?_
 refine rx (aY aG c6 cF) (.int .i64 c1.endC.e)<|?_
 subst c2 bY bv br
 have c8:=us a8 aG
 have dz:=us F (us a6 c8)
 have dB:=us F (us a6 a8)
 have dD:=ub (ud a0 (ut (ay.mono (S':=[z]) aw au) q.u (ac (ni aF.size P) (ac im (ac (ni (le (le (le (le (le r.size o.size) d.size) i.size) j.size) g.size) H) (ac (ni (le (le (le (le (le (le (le (le r.size o.size) d.size) i.size) j.size) g.size) p.size) h.size) k.size) E) au))))) Z) K
 have dE:=ag.upd aN (ut (ay.mono (S':=[z]) ao au) (ut (ay.mono (S':=[O,z,B]) X au) q.u (ac im (ac im (ac im (ac (ni k.size E) au))))) (ac (nr P) (ac im (ac (ni g.size H) au)))) (ae (Ne.symm b9) az) (aj (aM ba (by decide)) aE)
 have dG:=us F a6
 have dH:=us F T
 have dI:=ak (ak (ak (ak (ak q.ho F (fun x hx=>(ae (fun e=>(aC (am S) lr q.ho) (e▸hx)) az)) (bF.updl F q.hl rfl)) T (fun x hx=>(ae (fun e=>(aC (ag.lt M) (le (le (le (le (le (le (le (le o.size d.size) i.size) j.size) g.size) p.size) h.size) k.size) J.size) q.ho) (e▸hx)) az)) (bF.upd16 T (aj (ag.safe bb _ (by decide)) aE))) a5 (fun x hx=>(ae (fun e=>(aC (ag.lt M) (le (le (le (le (le (le (le (le o.size d.size) i.size) j.size) g.size) p.size) h.size) k.size) J.size) q.ho) (e▸hx)) az)) (bF.upd16 a5 (aj (ag.safe bc _ (by decide)) aE))) a8 (fun x hx=>(ae (fun e=>(aC (am K) (le (le (le (le (le (le (le (le (le (le (le (le N.size v.size) t.size) r.size) o.size) d.size) i.size) j.size) g.size) p.size) h.size) k.size) J.size) q.ho) (e▸hx)) az)) (bF.upd16 a8 (aj (aM c5 (by decide)) aE))) aG (fun x hx=>(ae (fun e=>(aC (am ap) lr q.ho) (e▸hx)) az)) (bF.updl aG c7 rfl)
 have hs:aq b6 1 20 b=b7 (aT.mk 20 0 0 0 0 0 0 0 0 0 0 0 [] [] [] (bh cL (al.mk ((((al.mk b false 0).bytesC 1).need (gB ((al.mk b false 0).byteV)) 5).bytesR ((al.mk b false 0).byteV)) false 0).l.length 0 (al.mk ((((al.mk b false 0).bytesC 1).need (gB ((al.mk b false 0).byteV)) 5).bytesR ((al.mk b false 0).byteV)) false 0) []).2 0 0 0 0 0 []) (((((al.mk b false 0).bytesC 1).need (gB ((al.mk b false 0).byteV)) 5).bytesC ((al.mk b false 0).byteV)).need (((bh cL (al.mk ((((al.mk b false 0).bytesC 1).need (gB ((al.mk b false 0).byteV)) 5).bytesR ((al.mk b false 0).byteV)) false 0).l.length 0 (al.mk ((((al.mk b false 0).bytesC 1).need (gB ((al.mk b false 0).byteV)) 5).bytesR ((al.mk b false 0).byteV)) false 0) []).1).e==0) (da ((bh cL (al.mk ((((al.mk b false 0).bytesC 1).need (gB ((al.mk b false 0).byteV)) 5).bytesR ((al.mk b false 0).byteV)) false 0).l.length 0 (al.mk ((((al.mk b false 0).bytesC 1).need (gB ((al.mk b false 0).byteV)) 5).bytesR ((al.mk b false 0).byteV)) false 0) []).1).e)):=by
   unfold aq b6 dh kk rA ox
   (try simp only[a7,bs,if_true,if_false,decide_true,decide_false,eq_self,true_or,or_true,or_false,false_or,if_true,if_false,dR,dM,dN,dP,reduceIte,lA,lY,m8])
   all_goals rfl
 rw[hs]
 exact bg bf (ut c4 c8 (ac (nr bl) (ac (ni (le (le (le (le (le (le (le (le (le (le (le (le ad.size N.size) v.size) t.size) r.size) o.size) d.size) i.size) j.size) g.size) p.size) h.size) k.size) D) au)))
 have bf:=ah a7
 refine bK<|sg<|?_
 have bj:=us F a6
 refine L0<|cj (ay.blk bj (ae a2 (ae (Ne.symm (nb (ag.lt M) (le (le (le (le o.size d.size) i.size) j.size) g.size) H)) az)) cC)<|?_
 have c9:=ub (ud a0 be Z) K
 refine L0<|bi c9 (mG 20 0 0 0 0 0 0 0 0 0 0 0 nS nS nS (.slice bV ((bh cL (al.mk (x49.bytesR ((al.mk b false 0).byteV)) false 0).l.length 0 (al.mk (x49.bytesR ((al.mk b false 0).byteV)) false 0) []).2.length) bW) 0 0 0 0 0 nS) fun dJ cG a9=>Pl 1<|nt<|rt<|?_
 have ca:=nb (am K) (le (le (le (le (le (le (le (le (le (le (le N.size v.size) t.size) r.size) o.size) d.size) i.size) j.size) g.size) p.size) h.size) k.size) D
 have cc:=ay.blk (u1 (ay.mono (S':=[O,z,B,I,a1,aa]) bd (ac im (ac im (ac im (ac im (ac im au)))))) a9 im) (ae (Ne.symm (nb (ag.lt Q) (le (le p.size h.size) k.size) D)) (ae (Ne.symm (nb (am G) (le (le (le (le (le (le (le (le (le (le v.size t.size) r.size) o.size) d.size) i.size) j.size) g.size) p.size) h.size) k.size) D)) (ae (Ne.symm (nb (am V) (le h.size k.size) D)) (ae bA (ae (Ne.symm (nb (ag.lt M) (le (le (le (le (le (le (le o.size d.size) i.size) j.size) g.size) p.size) h.size) k.size) D)) (ae (Ne.symm ca) az)))))) ap
 refine zK cc fun dK aK=>?_
 refine rx (aY aK ca cG) (.int .i64 0)<|?_
 subst c2 bY bv br
 have cd:=us a9 aK
 have dL:=ut (ay.mono (S':=[I,a1,aa,cq]) bj (ac im (ac im au))) cd (ac im (ac im au))
 have dO:=u1 (ay.mono (S':=[I,a1,aa]) bj (ac im (ac im au))) a9 im
 have dQ:=ub (ud a0 (ut (ay.mono (S':=[z]) aw au) q.u (ac (ni aF.size P) (ac im (ac (ni (le (le (le (le (le r.size o.size) d.size) i.size) j.size) g.size) H) (ac (ni (le (le (le (le (le (le (le (le r.size o.size) d.size) i.size) j.size) g.size) p.size) h.size) k.size) E) au))))) Z) K
 have dS:=ag.upd aN (ut (ay.mono (S':=[z]) ao au) (ut (ay.mono (S':=[O,z,B]) X au) q.u (ac im (ac im (ac im (ac (ni k.size E) au))))) (ac (nr P) (ac im (ac (ni g.size H) au)))) (ae (Ne.symm b9) az) (aj (aM ba (by decide)) aE)
 have dU:=us F T
 have hs:aq b6 1 20 b=b7 (aT.mk 20 0 0 0 0 0 0 0 0 0 0 0 [] [] [] (bh cL (al.mk ((((al.mk b false 0).bytesC 1).need (gB ((al.mk b false 0).byteV)) 5).bytesR ((al.mk b false 0).byteV)) false 0).l.length 0 (al.mk ((((al.mk b false 0).bytesC 1).need (gB ((al.mk b false 0).byteV)) 5).bytesR ((al.mk b false 0).byteV)) false 0) []).2 0 0 0 0 0 []) (((((al.mk b false 0).bytesC 1).need (gB ((al.mk b false 0).byteV)) 5).bytesC ((al.mk b false 0).byteV)).need (((bh cL (al.mk ((((al.mk b false 0).bytesC 1).need (gB ((al.mk b false 0).byteV)) 5).bytesR ((al.mk b false 0).byteV)) false 0).l.length 0 (al.mk ((((al.mk b false 0).bytesC 1).need (gB ((al.mk b false 0).byteV)) 5).bytesR ((al.mk b false 0).byteV)) false 0) []).1).e==0) (da ((bh cL (al.mk ((((al.mk b false 0).bytesC 1).need (gB ((al.mk b false 0).byteV)) 5).bytesR ((al.mk b false 0).byteV)) false 0).l.length 0 (al.mk ((((al.mk b false 0).bytesC 1).need (gB ((al.mk b false 0).byteV)) 5).bytesR ((al.mk b false 0).byteV)) false 0) []).1).e)):=by
   unfold aq b6 dh kk rA ox
   (try simp only[a7,bs,if_true,if_false,decide_true,decide_false,eq_self,true_or,or_true,or_false,false_or,if_true,if_false,dR,dM,dN,dP,reduceIte,lA,lY,m8])
   all_goals rfl
 rw[hs]
 exact bt bf ⟨_,_,_,_,_,rfl,aR.nil ..,aR.nil ..,aR.nil ..,((ak (ak (ak (ak (ak q.ho F (fun x hx=>(ae (fun e=>(aC (am S) lr q.ho) (e▸hx)) az)) (bF.updl F q.hl rfl)) T (fun x hx=>(ae (fun e=>(aC (ag.lt M) (le (le (le (le (le (le (le (le o.size d.size) i.size) j.size) g.size) p.size) h.size) k.size) J.size) q.ho) (e▸hx)) az)) (bF.upd16 T (aj (ag.safe bb _ (by decide)) aE))) a5 (fun x hx=>(ae (fun e=>(aC (ag.lt M) (le (le (le (le (le (le (le (le o.size d.size) i.size) j.size) g.size) p.size) h.size) k.size) J.size) q.ho) (e▸hx)) az)) (bF.upd16 a5 (aj (ag.safe bc _ (by decide)) aE))) a9 (fun x hx=>(ae (fun e=>(aC (am K) (le (le (le (le (le (le (le (le (le (le (le (le N.size v.size) t.size) r.size) o.size) d.size) i.size) j.size) g.size) p.size) h.size) k.size) J.size) q.ho) (e▸hx)) az)) (bF.upd16 a9 (aj (aM c9 (by decide)) aE))) aK (fun x hx=>(ae (fun e=>(aC (am ap) lr q.ho) (e▸hx)) az)) (bF.updl aK cc rfl))).rd,aR.nil ..,⟨(b8 (x:=20) (by omega)),(b8 (x:=0) (by omega)),(aJ (x:=0) (by omega)),(aJ (x:=0) (by omega)),(aJ (x:=0) (by omega)),(aJ (x:=0) (by omega)),(aJ (x:=0) (by omega)),(aJ (x:=0) (by omega)),(aJ (x:=0) (by omega)),(aJ (x:=0) (by omega)),(aJ (x:=0) (by omega)),(aJ (x:=0) (by omega)),(b8 (x:=0) (by omega)),(b8 (x:=0) (by omega)),(b8 (x:=0) (by omega)),(b8 (x:=0) (by omega)),(b8 (x:=0) (by omega))⟩⟩ (ut c4 cd (ac (nr bl) (ac (ni (le (le (le (le (le (le (le (le (le (le (le (le ad.size N.size) v.size) t.size) r.size) o.size) d.size) i.size) j.size) g.size) p.size) h.size) k.size) D) au)))
theorem md{m:Bool}{A:Option Addr}{cp:Nat}{b:List Int}{w:World}{dir:Int}(hd:dir=0∨dir=1)(hsl:aS m w (.slice A b.length cp) b)(hb:b.length≤1048576) :
    Calls Tryz.prog 64 #[.int .i64 dir,.int .u8 21,.slice A b.length cp] w (dC (aq b6 dir 21 b) w):=by
 have hln:(b.length:Int)≤1048576:=by omega
 have aO:((dir != 0)&&(dir != 1))=false:=by rcases hd with rfl | rfl<;>rfl
 refine zO 77 Tryz.func64 rfl<|sg<|L0<|bN mZ fun af cS br M an=>Pl 1<|nt<|sq<|sg<|Pl 3<|cu 3 [18] 21 (((dir != 0)&&(dir != 1))) (fun K bu=>?_) ?_
 refine bl 18 ((dir != 0)) (fun a0=>?_) (fun a0=>?_)
 have cm:=aB a0
 exact Pl 3<|ce bu (dir != 1) (by rw[a0];rfl)
 have cm:=ah a0
 exact Pl 3<|ce bu false (by rw[a0];rfl)
 refine nt<|cf aO<|bK<|sg<|Pl 2<|L0<|Oc (args:=#[.int .i64 dir,.int .u8 21])<|e3 yh fun z cT a1 G O=>Pl 3<|L0<|bN #[.nilFunc,.nilFunc] fun cU cV cn bv v=>L0<|bi bv #[.func (.func 129) #[] #[],.func (.func 130) #[] #[]] fun cW cq t=>Pl 1<|nl<|?_
 refine tn<|sq<|sg<|Pl 2<|nt<|c0<|bK<|sg<|Pl 1<|?_
 have ao:=ud v t cn
 have a2:=aD O ao
 have bw:=aD an a2
 refine L0<|Oc<|e3 (dq (aS.old hsl bw) (by omega)) fun a3 cX V N r=>Pl 1<|ng<|Pl 1<|L0<|Oc<|m3 (bJ N) fun cY cs o cZ=>L0<|Oi ((al.mk b false 0).byteV)<|Pl 1<|ng<|?_
 refine Pl 2<|?_
 have aQ:=ud r o V
 have bx:=ub aQ cq
 refine L0<|aP bx 0<|Pl 1<|L0<|fj #[] #[] (args:=#[.int .i64 ((al.mk b false 0).byteV)])<|m1 (qv (n:=(al.mk b false 0).byteV) (by omega)) fun d0 d=>?_
 refine L0<|Oc<|m2 (aU ((hY ((al.mk b false 0).byteV))) 5 (ag.old cs d)) fun d1 ct i=>?_
 refine ab ct fun x51 bz bA=>?_
 refine ng<|Pl 2<|L0<|Oc<|uo (bT (n:=(al.mk b false 0).byteV) bA) fun d2 d3 d4 cv d5 d6 cw j=>?_
 have d7:=Nat.le_trans (al.bytesR_le x51 ((al.mk b false 0).byteV)) (ag.len bA)
 refine ab cw fun x60 bB aV=>?_
 refine L0<|Oc<|e3 (dq cv (by omega)) fun P d8 Q S g=>Pl 1<|ng<|Pl 2<|L0<|bN mZ fun B d9 H X p=>L0<|bi X (mC 21) fun db cy h=>nt<|sq<|sg<|?_
 refine Pl 2<|?_
 have ap:=ud p h H
 have ar:=aD g ap
 have bC:=uz d (u1 i (aD j ar) im)
 refine L0<|aP (aY bC (nb (am bv) t.size V) bx) 1<|L0<|Oc<|zl (kK (gb:=P) (f:=.func 130) (x:=#[]) (y:=#[])) fun cz cA dc aW aX dd bD bE k=>nt<|bk<|?_
 refine pS (f:=131) #[.pointer (some ⟨cz,0,none⟩),.pointer (some ⟨cA,0,none⟩)] fun a ha=>?_
 intro de cB I df D E bG aw T J
 have bH:=nb (ag.lt S) lr H
 have ax:=nb (ag.lt S) (le (le p.size h.size) k.size) E
 have bI:=nb (am G) (le (le (le (le (le (le (le v.size t.size) r.size) o.size) d.size) i.size) j.size) g.size) H
 have bL:=nb (am G) (le (le (le (le (le (le (le (le (le (le v.size t.size) r.size) o.size) d.size) i.size) j.size) g.size) p.size) h.size) k.size) E
 have a4:=nb (am X) (le h.size k.size) E
 have Y:=aD k J
 have bM:=ag.old S (aD ap Y)
 have aA:=ud aQ (aD bC Y) V
 have bO:=ub (aD ao aA) G
 have aZ:=ub Y cy
 refine(yL (c:=21) bM bO aZ T (ub J bD) (ub J bE) (Ne.symm (nb (am G) (le (le (le (le (le (le v.size t.size) r.size) o.size) d.size) i.size) j.size) Q)) bH ax bI bL a4 (Ne.symm (nb (ag.lt S) ap.size aW)) (Ne.symm (nb (am G) (le (le (le (le (le (le (le (le (le v.size t.size) r.size) o.size) d.size) i.size) j.size) g.size) p.size) h.size) aW)) (Ne.symm (nb (am X) h.size aW)) (nb (am bD) lr E) (Ne.symm (nb (ag.lt S) ap.size aX)) (Ne.symm (nb (am G) (le (le (le (le (le (le (le (le (le v.size t.size) r.size) o.size) d.size) i.size) j.size) g.size) p.size) h.size) aX)) (Ne.symm (nb (am X) h.size aX)) (nb (am bE) lr E) ?_).mono ?_
 intro W C s L Ar cr x Ax cx hJ hrd hx1 hx2 hx3 hL
 simp only[dA] at hx1 hx2 hx3
 have hm2:W.heap[B]? = some (.cells #[.int .u8 21,.int .u8 0,.int .u16 0,.int .u16 0,.int .u16 0,.int .u16 0,.int .u16 0,.int .u16 0,.int .u16 0,.int .u16 0,.int .u16 0,.int .u16 0,.slice none 0 0,.slice none 0 0,.slice none 0 0,.slice Ar L.length cr,.int .u8 0,.int .u8 0,.int .u8 0,.int .u8 0,.int .u8 0,.slice none 0 0] 31 (0,0)):=hJ.hm
 refine kv hJ.hl ?_
 refine Bc ha 53<|zP<|lh<|bN #[.int .u16 0,.int .u16 0,.int .u16 0,.slice none 0 0] fun dg di bP cC bR=>lh<|bi cC #[.int .u16 x.file,.int .u16 x.record,.int .u16 x.count,.slice Ax x.words.length cx] fun dj cD bS=>uB<|?_
 have bU:=ud bR bS bP
 refine Bz (ub bU hJ.hl) (by trivial) fun dk cE b0=>Bi<|zP<|zI<|?_
 have b1:=uz bU b0
 have bV:=aY b1 a4 hm2
 refine lh<|aP bV 15<|?_
 refine lh<|cj (aY b0 (Ne.symm (nb (am T) hJ.u.size bP)) cD)<|lh<|cR (m:=1) (e:=83) #[.int .u16 x.file,.int .u16 x.record,.int .u16 x.count,.slice Ax x.words.length cx] fun dl dm dn cF b2=>?_
 have Z:=aD b1 b2
 have cG:=pN (R:=bF true) (x:=(dY.mk x.file x.record x.count x.words)) cF rfl ⟨_,rfl,(dT.updl hrd Z hJ.hl rfl),aJ (by omega),aJ (by omega),aJ (by omega)⟩
 have b3:=ak hJ.ho Z (fun x hx=>(ae (fun e=>(aC (am T) lr hJ.ho) (e▸hx)) az)) (bF.updl Z hJ.hl rfl)
 refine lh<|ka (xs:=L) (ys:=([(dY.mk x.file x.record x.count x.words)])) (.agg #[.int .u16 0,.int .u16 0,.int .u16 0,.slice none 0 0]) 4 32 b3 cG (by simp) bF.ones (fun w' hv=>bF.upd16 hv (cK (dp _ b3 (by decide)) aE)) (by(try simp only[List.length_append,List.length_cons,List.length_nil,av]);omega) (le (le (le (le hJ.u.size bR.size) bS.size) b0.size) b2.size) fun bW bX dr b4 aF=>zI<|?_
 have bY:=ut (ay.mono (S':=(ob Ar++[])) b2 au) aF (ai il au)
 have b5:=ay.blk bY (aH (aC (am aZ) lr hJ.ho) az) bV
 refine lh<|co b5 15 (mG 21 0 0 0 0 0 0 0 0 0 0 0 nS nS nS (.slice bW ((L++[(dY.mk x.file x.record x.count x.words)]).length) bX) 0 0 0 0 0 nS) fun ds cH a5=>uB<|bn<|?_
 have bZ:=u1 (ay.mono (S':=(ob Ar++(B :: []))) bY (ai il au)) a5 im
 have b9:=ay.blk bZ (aH (aC (am T) lr hJ.ho) (ae (Ne.symm a4) az)) cE
 refine B7 b9 fun dt cI a6=>?_
 have ba:=ut (ay.mono (S':=(I :: (ob Ar++(B :: [])))) Z (ac im au)) (ut (ay.mono (S':=(ob Ar++(B :: (I :: [])))) aF (ai il au)) (us a5 a6) (ac im (ac im au))) (ai il (ac im (ac im au)))
 have du:=ut hJ.u (ut (ay.mono (S':=(I :: (ob Ar++(B :: [])))) b1 (ac im au)) bZ (ai il (ac im au))) (ac im (ai (aI hJ.ho lr) (ac im au)))
 have dv:=ut hJ.u (ut (ay.mono (S':=(I :: (ob Ar++[]))) Z (ac im au)) aF (ai il au)) (ac im (ai (aI hJ.ho lr) au))
 exact⟨by trivial,ba.size,bW,bX,⟨(ut hJ.u ba (ac im (ai (aI hJ.ho lr) (ac im au)))),(ag.updl (ag.upd (ag.upd (ag.updl hJ.hC Z (ae ax az) hJ.hl rfl) aF (aH (aC (ag.lt bM) lr hJ.ho) az) (cK (dp _ b3 (by decide)) aE)) a5 (ae bH az) (aj (aM b5 (by decide)) aE)) a6 (ae ax az) b9 rfl),(ay.blk ba (ae bL (aH (aC (am bO) lr hJ.ho) (ae bI az))) hJ.hS),(aY a6 a4 cH),(ak (ak b4 a5 (fun x hx=>(ae (fun e=>(aC (am aZ) lr b4) (e▸hx)) az)) (bF.upd16 a5 (aj (aM b5 (by decide)) aE))) a6 (fun x hx=>(ae (fun e=>(aC (am T) lr b4) (e▸hx)) az)) (bF.updl a6 b9 rfl)),cI⟩⟩
 rintro _ cJ ⟨rfl,dw,c1,c2,q⟩
 refine⟨_,_,rfl,q.hl,by simp[dF],by trivial,fun dx c3=>?_⟩
 refine ab q.hC fun bb c4 cL=>?_
 have cM:cJ.heap[B]? = some (.cells #[.int .u8 21,.int .u8 0,.int .u16 0,.int .u16 0,.int .u16 0,.int .u16 0,.int .u16 0,.int .u16 0,.int .u16 0,.int .u16 0,.int .u16 0,.int .u16 0,.slice none 0 0,.slice none 0 0,.slice none 0 0,.slice c1 ((bh ez (al.mk (x51.bytesR ((al.mk b false 0).byteV)) false 0).l.length 0 (al.mk (x51.bytesR ((al.mk b false 0).byteV)) false 0) []).2.length) c2,.int .u8 0,.int .u8 0,.int .u8 0,.int .u8 0,.int .u8 0,.slice none 0 0] 31 (0,0)):=q.hm
 refine bn<|tn<|sg<|Pl 2<|?_
 have aG:=ag.updl cL c3 (ae ax az) q.hl rfl
 refine L0<|Oc<|mq (bp aG)<|?_
 have dy:=ag.len aG
 refine Pl 2<|L0<|Oc<|mq (bp aG)<|?_
 have dz:=ag.len aG
 refine L0<|Oc<|m1 (it (e:=bb.e)) fun dB cN=>?_
 have F:=aD c3 cN
 have c5:=u1 q.u F im
 have bc:=nb (am G) ao.size V
 have aK:=ud aQ (uz d (u1 i j im)) V
 have bd:=ub (aD ao aK) G
 have be:=ag.upd aV (ut (ay.mono (S':=[z]) ar au) (ut (ay.mono (S':=[P,z,B]) Y au) c5 (ac im (ac im (ac im (ac (ni k.size E) au))))) (ac (nr Q) (ac im (ac (ni g.size H) au)))) (ae (Ne.symm bc) az) (aj (aM bd (by decide)) aE)
 refine L0<|Oc<|m2 (aU ((bb.e==0)) (da bb.e) be) fun dD cO U=>?_
 refine ab cO fun c6 c7 bf=>?_
 refine ng<|Pl 1<|L0<|Oc<|m2 (bQ bf) fun dE c8 a7=>nt<|sq<|sg<|Pl 1<|L0<|Oc<|mq (bp c8)<|?_
 have dG:=ag.len c8
 refine Pl 1<|ng<|Pl 2<|nt<|?_
 have a8:=u1 U a7 im
 have bj:=u1 (ay.mono (S':=[P,z,B,I,a3]) c5 (ac im (ac im (ac im (ac im au))))) a8 im
 have bm:=ut (ay.mono (S':=[z]) aA au) bj (ac (ni aK.size Q) (ac im (ac (ni (le (le (le (le (le r.size o.size) d.size) i.size) j.size) g.size) H) (ac (ni (le (le (le (le (le (le (le (le r.size o.size) d.size) i.size) j.size) g.size) p.size) h.size) k.size) E) (ac (nr V) au)))))
 have c9:=ud bw bm (le an.size a1)
 refine cb ((c6.endC.e != 0)) (fun a9=>?_) (fun a9=>?_)
 have bo:=aB a9
 refine sg<|Pl 2<|?_
 have ca:=ub (ud a2 bm a1) M
 refine L0<|bi ca mZ fun dH cP aa=>Pl 1<|nt<|rt<|tr<|?_
 have cc:=nb (am M) (le (le (le (le (le (le (le (le (le (le (le O.size v.size) t.size) r.size) o.size) d.size) i.size) j.size) g.size) p.size) h.size) k.size) D
 have cd:=ay.blk (u1 (ay.mono (S':=[P,z,B,I,a3,af]) bj (ac im (ac im (ac im (ac im (ac im au)))))) aa im) (ae (Ne.symm (nb (ag.lt S) (le (le p.size h.size) k.size) D)) (ae (Ne.symm (nb (am G) (le (le (le (le (le (le (le (le (le (le v.size t.size) r.size) o.size) d.size) i.size) j.size) g.size) p.size) h.size) k.size) D)) (ae (Ne.symm (nb (am X) (le h.size k.size) D)) (ae bG (ae (Ne.symm (nb (ag.lt N) (le (le (le (le (le (le (le o.size d.size) i.size) j.size) g.size) p.size) h.size) k.size) D)) (ae (Ne.symm cc) az)))))) aw
 refine zK cd fun dI aL=>?_
 refine rx (aY aL cc cP) (.int .i64 c6.endC.e)<|?_
 subst c7 c4 bB bz
 have cg:=us aa aL
 have dJ:=us F (us a8 cg)
 have dK:=us F (us a8 aa)
 have dL:=ub (ud a2 (ut (ay.mono (S':=[z]) aA au) q.u (ac (ni aK.size Q) (ac im (ac (ni (le (le (le (le (le r.size o.size) d.size) i.size) j.size) g.size) H) (ac (ni (le (le (le (le (le (le (le (le r.size o.size) d.size) i.size) j.size) g.size) p.size) h.size) k.size) E) au))))) a1) M
 have dO:=ag.upd aV (ut (ay.mono (S':=[z]) ar au) (ut (ay.mono (S':=[P,z,B]) Y au) q.u (ac im (ac im (ac im (ac (ni k.size E) au))))) (ac (nr Q) (ac im (ac (ni g.size H) au)))) (ae (Ne.symm bc) az) (aj (aM bd (by decide)) aE)
 have dQ:=us F a8
 have dS:=us F U
 have dU:=ak (ak (ak (ak (ak q.ho F (fun x hx=>(ae (fun e=>(aC (am T) lr q.ho) (e▸hx)) az)) (bF.updl F q.hl rfl)) U (fun x hx=>(ae (fun e=>(aC (ag.lt N) (le (le (le (le (le (le (le (le o.size d.size) i.size) j.size) g.size) p.size) h.size) k.size) J.size) q.ho) (e▸hx)) az)) (bF.upd16 U (aj (ag.safe be _ (by decide)) aE))) a7 (fun x hx=>(ae (fun e=>(aC (ag.lt N) (le (le (le (le (le (le (le (le o.size d.size) i.size) j.size) g.size) p.size) h.size) k.size) J.size) q.ho) (e▸hx)) az)) (bF.upd16 a7 (aj (ag.safe bf _ (by decide)) aE))) aa (fun x hx=>(ae (fun e=>(aC (am M) (le (le (le (le (le (le (le (le (le (le (le (le O.size v.size) t.size) r.size) o.size) d.size) i.size) j.size) g.size) p.size) h.size) k.size) J.size) q.ho) (e▸hx)) az)) (bF.upd16 aa (aj (aM ca (by decide)) aE))) aL (fun x hx=>(ae (fun e=>(aC (am aw) lr q.ho) (e▸hx)) az)) (bF.updl aL cd rfl)
 have hs:aq b6 dir 21 b=b7 (aT.mk 21 0 0 0 0 0 0 0 0 0 0 0 [] [] [] (bh ez (al.mk ((((al.mk b false 0).bytesC 1).need (hY ((al.mk b false 0).byteV)) 5).bytesR ((al.mk b false 0).byteV)) false 0).l.length 0 (al.mk ((((al.mk b false 0).bytesC 1).need (hY ((al.mk b false 0).byteV)) 5).bytesR ((al.mk b false 0).byteV)) false 0) []).2 0 0 0 0 0 []) (((((al.mk b false 0).bytesC 1).need (hY ((al.mk b false 0).byteV)) 5).bytesC ((al.mk b false 0).byteV)).need (((bh ez (al.mk ((((al.mk b false 0).bytesC 1).need (hY ((al.mk b false 0).byteV)) 5).bytesR ((al.mk b false 0).byteV)) false 0).l.length 0 (al.mk ((((al.mk b false 0).bytesC 1).need (hY ((al.mk b false 0).byteV)) 5).bytesR ((al.mk b false 0).byteV)) false 0) []).1).e==0) (da ((bh ez (al.mk ((((al.mk b false 0).bytesC 1).need (hY ((al.mk b false 0).byteV)) 5).bytesR ((al.mk b false 0).byteV)) false 0).l.length 0 (al.mk ((((al.mk b false 0).bytesC 1).need (hY ((al.mk b false 0).byteV)) 5).bytesR ((al.mk b false 0).byteV)) false 0) []).1).e)):=by
   unfold aq b6 dh kk rA ox
   (try simp only[aO,a9,bs,if_true,if_false,decide_true,decide_false,eq_self,true_or,or_true,or_false,false_or,if_true,if_false,dR,dM,dN,dP,reduceIte,lA,lY,m8,if_pos hd])
   all_goals rfl
 rw[hs]
 exact bg bo (ut c9 cg (ac (nr br) (ac (ni (le (le (le (le (le (le (le (le (le (le (le (le an.size O.size) v.size) t.size) r.size) o.size) d.size) i.size) j.size) g.size) p.size) h.size) k.size) D) au)))
 have bo:=ah a9
 refine bK<|sg<|?_
 have bq:=us F a8
 refine L0<|cj (ay.blk bq (ae a4 (ae (Ne.symm (nb (ag.lt N) (le (le (le (le o.size d.size) i.size) j.size) g.size) H)) az)) cM)<|?_
 have ch:=ub (ud a2 bm a1) M
 refine L0<|bi ch (mG 21 0 0 0 0 0 0 0 0 0 0 0 nS nS nS (.slice c1 ((bh ez (al.mk (x51.bytesR ((al.mk b false 0).byteV)) false 0).l.length 0 (al.mk (x51.bytesR ((al.mk b false 0).byteV)) false 0) []).2.length) c2) 0 0 0 0 0 nS) fun dV cQ ad=>Pl 1<|nt<|rt<|?_
 have ci:=nb (am M) (le (le (le (le (le (le (le (le (le (le (le O.size v.size) t.size) r.size) o.size) d.size) i.size) j.size) g.size) p.size) h.size) k.size) D
 have ck:=ay.blk (u1 (ay.mono (S':=[P,z,B,I,a3,af]) bj (ac im (ac im (ac im (ac im (ac im au)))))) ad im) (ae (Ne.symm (nb (ag.lt S) (le (le p.size h.size) k.size) D)) (ae (Ne.symm (nb (am G) (le (le (le (le (le (le (le (le (le (le v.size t.size) r.size) o.size) d.size) i.size) j.size) g.size) p.size) h.size) k.size) D)) (ae (Ne.symm (nb (am X) (le h.size k.size) D)) (ae bG (ae (Ne.symm (nb (ag.lt N) (le (le (le (le (le (le (le o.size d.size) i.size) j.size) g.size) p.size) h.size) k.size) D)) (ae (Ne.symm ci) az)))))) aw
 refine zK ck fun dW aN=>?_
 refine rx (aY aN ci cQ) (.int .i64 0)<|?_
 subst c7 c4 bB bz
 have cl:=us ad aN
 have dX:=ut (ay.mono (S':=[I,a3,af,cB]) bq (ac im (ac im au))) cl (ac im (ac im au))
 have dZ:=u1 (ay.mono (S':=[I,a3,af]) bq (ac im (ac im au))) ad im
 have e0:=ub (ud a2 (ut (ay.mono (S':=[z]) aA au) q.u (ac (ni aK.size Q) (ac im (ac (ni (le (le (le (le (le r.size o.size) d.size) i.size) j.size) g.size) H) (ac (ni (le (le (le (le (le (le (le (le r.size o.size) d.size) i.size) j.size) g.size) p.size) h.size) k.size) E) au))))) a1) M
 have e1:=ag.upd aV (ut (ay.mono (S':=[z]) ar au) (ut (ay.mono (S':=[P,z,B]) Y au) q.u (ac im (ac im (ac im (ac (ni k.size E) au))))) (ac (nr Q) (ac im (ac (ni g.size H) au)))) (ae (Ne.symm bc) az) (aj (aM bd (by decide)) aE)
 have e2:=us F U
 have hs:aq b6 dir 21 b=b7 (aT.mk 21 0 0 0 0 0 0 0 0 0 0 0 [] [] [] (bh ez (al.mk ((((al.mk b false 0).bytesC 1).need (hY ((al.mk b false 0).byteV)) 5).bytesR ((al.mk b false 0).byteV)) false 0).l.length 0 (al.mk ((((al.mk b false 0).bytesC 1).need (hY ((al.mk b false 0).byteV)) 5).bytesR ((al.mk b false 0).byteV)) false 0) []).2 0 0 0 0 0 []) (((((al.mk b false 0).bytesC 1).need (hY ((al.mk b false 0).byteV)) 5).bytesC ((al.mk b false 0).byteV)).need (((bh ez (al.mk ((((al.mk b false 0).bytesC 1).need (hY ((al.mk b false 0).byteV)) 5).bytesR ((al.mk b false 0).byteV)) false 0).l.length 0 (al.mk ((((al.mk b false 0).bytesC 1).need (hY ((al.mk b false 0).byteV)) 5).bytesR ((al.mk b false 0).byteV)) false 0) []).1).e==0) (da ((bh ez (al.mk ((((al.mk b false 0).bytesC 1).need (hY ((al.mk b false 0).byteV)) 5).bytesR ((al.mk b false 0).byteV)) false 0).l.length 0 (al.mk ((((al.mk b false 0).bytesC 1).need (hY ((al.mk b false 0).byteV)) 5).bytesR ((al.mk b false 0).byteV)) false 0) []).1).e)):=by
   unfold aq b6 dh kk rA ox
   (try simp only[aO,a9,bs,if_true,if_false,decide_true,decide_false,eq_self,true_or,or_true,or_false,false_or,if_true,if_false,dR,dM,dN,dP,reduceIte,lA,lY,m8,if_pos hd])
   all_goals rfl
 rw[hs]
 exact bt bo ⟨_,_,_,_,_,rfl,aR.nil ..,aR.nil ..,aR.nil ..,((ak (ak (ak (ak (ak q.ho F (fun x hx=>(ae (fun e=>(aC (am T) lr q.ho) (e▸hx)) az)) (bF.updl F q.hl rfl)) U (fun x hx=>(ae (fun e=>(aC (ag.lt N) (le (le (le (le (le (le (le (le o.size d.size) i.size) j.size) g.size) p.size) h.size) k.size) J.size) q.ho) (e▸hx)) az)) (bF.upd16 U (aj (ag.safe be _ (by decide)) aE))) a7 (fun x hx=>(ae (fun e=>(aC (ag.lt N) (le (le (le (le (le (le (le (le o.size d.size) i.size) j.size) g.size) p.size) h.size) k.size) J.size) q.ho) (e▸hx)) az)) (bF.upd16 a7 (aj (ag.safe bf _ (by decide)) aE))) ad (fun x hx=>(ae (fun e=>(aC (am M) (le (le (le (le (le (le (le (le (le (le (le (le O.size v.size) t.size) r.size) o.size) d.size) i.size) j.size) g.size) p.size) h.size) k.size) J.size) q.ho) (e▸hx)) az)) (bF.upd16 ad (aj (aM ch (by decide)) aE))) aN (fun x hx=>(ae (fun e=>(aC (am aw) lr q.ho) (e▸hx)) az)) (bF.updl aN ck rfl))).rd,aR.nil ..,⟨(b8 (x:=21) (by omega)),(b8 (x:=0) (by omega)),(aJ (x:=0) (by omega)),(aJ (x:=0) (by omega)),(aJ (x:=0) (by omega)),(aJ (x:=0) (by omega)),(aJ (x:=0) (by omega)),(aJ (x:=0) (by omega)),(aJ (x:=0) (by omega)),(aJ (x:=0) (by omega)),(aJ (x:=0) (by omega)),(aJ (x:=0) (by omega)),(b8 (x:=0) (by omega)),(b8 (x:=0) (by omega)),(b8 (x:=0) (by omega)),(b8 (x:=0) (by omega)),(b8 (x:=0) (by omega))⟩⟩ (ut c9 cl (ac (nr br) (ac (ni (le (le (le (le (le (le (le (le (le (le (le (le an.size O.size) v.size) t.size) r.size) o.size) d.size) i.size) j.size) g.size) p.size) h.size) k.size) D) au)))
theorem tQ{A:Option Addr}{cp:Nat}{b:List Int}{w:World}{c:Int}(n1:(c==20)=false)(n2:(c==21)=false) : Calls Tryz.prog 64 #[.int .i64 0,.int .u8 c,.slice A b.length cp] w (dC (aq b6 0 c b) w):=by
 refine zO 77 Tryz.func64 rfl<|sg<|L0<|bN mZ fun n o d e f=>Pl 1<|nt<|sq<|sg<|Pl 6<|nt<|c0<|?_
 refine bK<|sg<|Pl 2<|L0<|Oc (args:=#[.int .i64 0,.int .u8 c])<|m1 (nO (dir:=0) (x:=c) n1 n2) fun p g=>Pl 3<|L0<|bN #[.nilFunc,.nilFunc] fun q r h i j=>L0<|bi i #[.nilFunc,.nilFunc] fun s t k=>Pl 1<|nt<|sq<|sq<|?_
 refine go<|Pl 2<|nt<|c1<|sg<|Pl 1<|?_
 have a:=aD g (ud j k h)
 refine L0<|bi (ub a e) mZ fun u l m=>Pl 1<|nt<|rt<|tr<|ry l (.int .i64 4)<|?_
 have hs:aq b6 0 c b=(aT.zero,4):=by
   unfold aq b6
   (try simp only[bs,if_true,if_false,decide_true,decide_false,eq_self,true_or,or_true,or_false,false_or,if_true,if_false,dR,dM,dN,dP,reduceIte,n1,n2])
   all_goals rfl
 rw[hs]
 exact bV (ud f (uz a m) d)
theorem sH{A:Option Addr}{cp:Nat}{b:List Int}{w:World}{c:Int}(n1:(c==20)=false)(n2:(c==21)=false) : Calls Tryz.prog 64 #[.int .i64 1,.int .u8 c,.slice A b.length cp] w (dC (aq b6 1 c b) w):=by
 refine zO 77 Tryz.func64 rfl<|sg<|L0<|bN mZ fun n o d e f=>Pl 1<|nt<|sq<|sg<|Pl 6<|nt<|c0<|?_
 refine bK<|sg<|Pl 2<|L0<|Oc (args:=#[.int .i64 1,.int .u8 c])<|m1 (nO (dir:=1) (x:=c) n1 n2) fun p g=>Pl 3<|L0<|bN #[.nilFunc,.nilFunc] fun q r h i j=>L0<|bi i #[.nilFunc,.nilFunc] fun s t k=>Pl 1<|nt<|sq<|sq<|?_
 refine go<|Pl 2<|nt<|c1<|sg<|Pl 1<|?_
 have a:=aD g (ud j k h)
 refine L0<|bi (ub a e) mZ fun u l m=>Pl 1<|nt<|rt<|tr<|ry l (.int .i64 4)<|?_
 have hs:aq b6 1 c b=(aT.zero,4):=by
   unfold aq b6
   (try simp only[bs,if_true,if_false,decide_true,decide_false,eq_self,true_or,or_true,or_false,false_or,if_true,if_false,dR,dM,dN,dP,reduceIte,n1,n2])
   all_goals rfl
 rw[hs]
 exact bV (ud f (uz a m) d)
theorem sT{A:Option Addr}{cp:Nat}{b:List Int}{w:World}{dir c:Int}(hd:¬ (dir=0∨dir=1)) : Calls Tryz.prog 64 #[.int .i64 dir,.int .u8 c,.slice A b.length cp] w (dC (aq b6 dir c b) w):=by
 have e0:(dir != 0)=true:=by simp;omega
 have e1:(dir != 1)=true:=by simp;omega
 refine zO 77 Tryz.func64 rfl<|sg<|L0<|bN mZ fun g h a d e=>Pl 1<|nt<|sq<|sg<|Pl 3<|sy 18 e0<|Pl 3<|nl<|?_
 refine tn<|ct e1<|sg<|Pl 1<|L0<|bi d mZ fun i dA f=>Pl 1<|nt<|rt<|tr<|ry dA (.int .i64 1)<|?_
 have hs:aq b6 dir c b=(aT.zero,1):=by
   unfold aq b6
   (try simp only[e0,e1,bs,if_true,if_false,decide_true,decide_false,eq_self,true_or,or_true,or_false,false_or,if_true,if_false,dR,dM,dN,dP,reduceIte,hd])
   all_goals rfl
 rw[hs]
 exact bV (ud e f a)
theorem jx{m:Bool}{v:Value}{b:List Int}{w:World}{dir c:Int}(hc:B8 c)(h:aS m w v b)(hb:b.length≤1048576) :
    Calls Tryz.prog 64 #[.int .i64 dir,.int .u8 c,v] w (dC (aq b6 dir c b) w):=by
  obtain⟨A,cp,rfl,_,_⟩:=h.shape
  by_cases h0:dir=0
  · subst h0
    by_cases a:c=20
    · subst a;exact nE (Or.inl (rfl:(0:Int)=0)) h hb
    by_cases d:c=21
    · subst d;exact md (Or.inl rfl) h hb
    exact tQ (by simpa using a) (by simpa using d)
  by_cases h1:dir=1
  · subst h1
    by_cases a:c=20
    · subst a;exact oG (Or.inl (rfl:(0:Int)=0)) h hb
    by_cases d:c=21
    · subst d;exact md (Or.inr rfl) h hb
    exact sH (by simpa using a) (by simpa using d)
  exact sT (by omega)
open Go.RowKit
def ek (res:Option (List Int))(w:World)(e:Ending)(w':World) : Prop :=
  match res with
  | some l=>∃ v,e = .returned (.tuple #[v,.int .i64 0])∧cz w.heap.size w' v l∧ay [] w w'
  | none=>e = .returned (.tuple #[.slice none 0 0,.int .i64 1])∧ay [] w w'
def bW (parse:Int→Int→List Int→aT × Int)(lay:Int→aT→List Int)(dir:Int)(M:aT) : Option (List Int) :=
  if parse dir M.code (lay dir M)=(M,0) then some (lay dir M) else none
def f9:=aq aN
def fP:=aq bG
def fO:=aq aQ
def gO:=aq bu
def fg:=aq b6
open Go.RowKit
def j3 (M:aT) : Option (List Int):=if !(eG M.code M.fail) then none else if !(decide (M=gC M.code M.fail)) then none else some [(M.code+128)%256,M.fail]
theorem de{x y:Option (List Int)}(h:x=y){w:World}{e:Ending}{w':World}(k:ek y w e w') : ek x w e w':=by rw[h];exact k
theorem mi{m:Bool}{cs:Array Value}{M:aT}{w:World}(h:aF m w cs.toList M) : Calls Tryz.prog 51 #[.agg cs] w (ek (j3 M) w):=by
 have hM:=h
 obtain⟨vw,vb,vd,vr,vo,h0,hw,hbt,hd,hr,ho,hR⟩:=h
 obtain rfl:cs=(bA M vw vb vd vr vo).toArray:=by apply Array.toList_inj.1;simpa using h0
 clear h0
 obtain⟨Aw,kw,rfl,_,_⟩:=hw.shape
 obtain⟨Ab,kb,rfl,_,_⟩:=hbt.shape
 obtain⟨Ad,kd,rfl,_,_⟩:=hd.shape
 obtain⟨Ar,kr,rfl,_,_⟩:=hr.shape
 obtain⟨Ao,ko,rfl,_,_⟩:=ho.shape
 obtain⟨q0,q1,q2,q3,q4,q5,q6,q7,q8,q9,I,J,K,L,N,O,P⟩:=hR
 simp only[B8,dA] at q0 q1 q2 q3 q4 q5 q6 q7 q8 q9 I J K L N O P
 refine en 26 Tryz.func51 rfl<|sg<|L0<|cI (mG M.code M.fail M.addr M.count M.value M.and_ M.or_ M.addr2 M.sub M.status M.events M.messages (.slice Aw M.words.length kw) (.slice Ab M.bits.length kb) (.slice Ad M.data.length kd) (.slice Ar M.recs.length kr) M.mei M.kind M.level M.more M.next (.slice Ao M.objects.length ko)) fun s a3 a4 k Q=>Pl 2<|ng<|Pl 1<|L0<|aP k 0<|Pl 1<|L0<|aP k 1<|Pl 1<|L0<|bN #[.int .u8 0,.int .u8 0] fun l a5 R S T=>?_
 refine L0<|bi S #[.int .u8 M.code,.int .u8 M.fail] fun a6 U V=>nt<|sq<|sq<|Rg 10 (fun w'=>w'.heap[l]? = some (.cells #[.int .u8 M.code,.int .u8 M.fail] 134 (0,0))∧w'.heap[s]? = some (.cells (mG M.code M.fail M.addr M.count M.value M.and_ M.or_ M.addr2 M.sub M.status M.events M.messages (.slice Aw M.words.length kw) (.slice Ab M.bits.length kb) (.slice Ad M.data.length kd) (.slice Ar M.recs.length kr) M.mei M.kind M.level M.more M.next (.slice Ao M.objects.length ko)) 31 (0,0))) fun a7 t=>?_
 have u:=ub t U
 have v:=ud T (aD V t) R
 have y:=ub v k
 refine aZ ⟨u,y⟩ fun W=>Rr 0 W (.agg #[.int .u8 M.code,.int .u8 M.fail]) (fun w' hs=>gJ (g:=l) (off:=0) [.int .u8 M.code,.int .u8 M.fail] rfl (by kernel_rfl) hs.1 (by kernel_rfl) (by kernel_rfl) rfl)<|R0 1 rfl<|Oc<|m1 (sm (a:=M.code) (b:=M.fail) (w:=_)) fun a8 n=>?_
 have z:=ub n u
 have C:=ub n y
 refine aZ ⟨z,C⟩ fun c=>Rt 2 c<|Rt 3 c<|?_
 have D:=aD Q (aD v n)
 refine we 13 ((!(eG M.code M.fail))) (fun d=>?_) (fun d=>?_)
 have j:(eG M.code M.fail)=false:=by simpa using d
 refine Ro 4 c<|Ro 5 c<|Ro 6 c<|Ro 7 c<|Ro 8 c<|Rt 9 c<|re<|tn<|c1<|sg<|Pl 2<|nt<|?_
 refine rt<|tr<|rr (.tuple #[.slice none 0 0,.int .i64 1])<|?_
 have hs:j3 M=none:=by
   unfold j3
   (try simp only[d,j,bs,if_true,if_false,decide_true,decide_false,reduceIte])
   all_goals rfl
 refine de hs ?_
 exact⟨rfl,D⟩
 have j:(eG M.code M.fail)=true:=by simpa using d
 refine Rr 4 c (.agg (mG M.code M.fail M.addr M.count M.value M.and_ M.or_ M.addr2 M.sub M.status M.events M.messages (.slice Aw M.words.length kw) (.slice Ab M.bits.length kb) (.slice Ad M.data.length kd) (.slice Ar M.recs.length kr) M.mei M.kind M.level M.more M.next (.slice Ao M.objects.length ko))) (fun w' hs=>gJ (g:=s) (off:=0) [.int .u8 M.code,.int .u8 M.fail,.int .u16 M.addr,.int .u16 M.count,.int .u16 M.value,.int .u16 M.and_,.int .u16 M.or_,.int .u16 M.addr2,.int .u16 M.sub,.int .u16 M.status,.int .u16 M.events,.int .u16 M.messages,.slice Aw M.words.length kw,.slice Ab M.bits.length kb,.slice Ad M.data.length kd,.slice Ar M.recs.length kr,.int .u8 M.mei,.int .u8 M.kind,.int .u8 M.level,.int .u8 M.more,.int .u8 M.next,.slice Ao M.objects.length ko] rfl (by kernel_rfl) hs.2 (by kernel_rfl) (by kernel_rfl) rfl)<|Rr 5 c (.agg #[.int .u8 M.code,.int .u8 M.fail]) (fun w' hs=>gJ (g:=l) (off:=0) [.int .u8 M.code,.int .u8 M.fail] rfl (by kernel_rfl) hs.1 (by kernel_rfl) (by kernel_rfl) rfl)<|R0 6 rfl<|Oc<|m1 (ki (a:=M.code) (b:=M.fail) (w:=_)) fun a9 o=>?_
 have E:=ub o z
 have F:=ub o C
 refine aZ ⟨E,F⟩ fun aa=>?_
 have G:=aD D o
 refine R0 7 rfl<|Oc<|m1 (fN (A:=M) (B:=gC M.code M.fail) (aF.old hM G) (show aF true _ _ _ from⟨_,_,_,_,_,rfl,aR.nil ..,aR.nil ..,aR.nil ..,aR.nil ..,aR.nil ..,⟨(b8 (x:=M.code) (by omega)),(b8 (x:=M.fail) (by omega)),(aJ (x:=0) (by omega)),(aJ (x:=0) (by omega)),(aJ (x:=0) (by omega)),(aJ (x:=0) (by omega)),(aJ (x:=0) (by omega)),(aJ (x:=0) (by omega)),(aJ (x:=0) (by omega)),(aJ (x:=0) (by omega)),(aJ (x:=0) (by omega)),(aJ (x:=0) (by omega)),(b8 (x:=0) (by omega)),(b8 (x:=0) (by omega)),(b8 (x:=0) (by omega)),(b8 (x:=0) (by omega)),(b8 (x:=0) (by omega))⟩⟩)) fun ab p=>?_
 have q:=ub p F
 refine aZ ⟨(ub p E),q⟩ fun H=>Rt 8 H<|Rt 9 H<|re<|tn<|?_
 have r:=aD G p
 refine cb ((!(decide (M=gC M.code M.fail)))) (fun f=>?_) (fun f=>?_)
 have i:(decide (M=gC M.code M.fail))=false:=by simpa using f
 have X:=of_decide_eq_false i
 refine sg<|Pl 2<|nt<|rt<|tr<|rr (.tuple #[.slice none 0 0,.int .i64 1])<|?_
 have hs:j3 M=none:=by
   unfold j3
   (try simp only[d,j,f,i,bs,if_true,if_false,decide_true,decide_false,reduceIte])
   all_goals rfl
 refine de hs ?_
 exact⟨rfl,r⟩
 have i:(decide (M=gC M.code M.fail))=true:=by simpa using f
 have X:=of_decide_eq_true i
 refine bK<|sg<|Pl 1<|L0<|aP q 0<|Pl 2<|L0<|aP q 1<|L0<|cR (m:=2) (e:=5) #[.int .u8 ((M.code+128)%256),.int .u8 M.fail] fun Y ac Z a0 a1=>?_
 have a2:=cW Z (xs:=[((M.code+128)%256),M.fail]) (by as_aux_lemma=>kernel_rfl) (ap (by omega) (ap (by omega) aO)) (by(try simp only[List.length_cons,List.length_nil]);omega) a0
 refine Pl 2<|nt<|rt<|rr (.tuple #[.slice (some ⟨Y,0,none⟩) 2 2,.int .i64 0])<|?_
 have hs:j3 M=(some [((M.code+128)%256),M.fail]):=by
   unfold j3
   (try simp only[d,j,f,i,bs,if_true,if_false,decide_true,decide_false,reduceIte])
   all_goals rfl
 refine de hs ?_
 exact⟨_,rfl,(aL.weaken a2 r.size),(aD r a1)⟩
open Go.RowKit
def bz (dir:Int)(M:aT) : List Int :=
  if (!(dir==0))&&(M.code==3 || M.code==4 || M.code==23) then [(2*(M.words.length:Int))%256]++aG M.words
  else if M.code==6 then aG [M.addr,M.value]
  else if M.code==22 then aG [M.addr,M.and_,M.or_]
  else if M.code==16&&dir==0 then ((aG [M.addr,M.count]++[(2*(M.words.length:Int))%256])++aG M.words)
  else if M.code==23 then ((aG [M.addr,M.count,M.addr2,(M.words.length:Int)%65536]++[(2*(M.words.length:Int))%256])++aG M.words)
  else if M.code==24&&dir==0 then aG [M.addr]
  else if M.code==24 then aG [(2+2*(M.words.length:Int))%65536,(M.words.length:Int)%65536]++aG M.words
  else aG [M.addr,M.count]
theorem rk{m:Bool}{cs:Array Value}{M:aT}{w:World}{dir:Int}(h:aF m w cs.toList M)(hf:aW M)(hd0:(dir==0)=true) : Calls Tryz.prog 87 #[.int .i64 dir,.agg cs] w (ig (bz dir M) w):=by
 obtain⟨vw,vb,vd,vr,vo,h0,hw,hbt,hd,hr,ho,hR⟩:=h
 obtain rfl:cs=(bA M vw vb vd vr vo).toArray:=by apply Array.toList_inj.1;simpa using h0
 clear h0
 obtain⟨Aw,kw,rfl,_,_⟩:=hw.shape
 obtain⟨Ab,kb,rfl,_,_⟩:=hbt.shape
 obtain⟨Ad,kd,rfl,_,_⟩:=hd.shape
 obtain⟨Ar,kr,rfl,_,_⟩:=hr.shape
 obtain⟨Ao,ko,rfl,_,_⟩:=ho.shape
 obtain⟨q0,q1,q2,q3,q4,q5,q6,q7,q8,q9,X,Y,Z,a0,a1,a2,a3⟩:=hR
 simp only[B8,dA] at q0 q1 q2 q3 q4 q5 q6 q7 q8 q9 X Y Z a0 a1 a2 a3
 have hf1:=hf.words
 have hf2:=hf.bits
 have hf3:=hf.data
 have hf4:=hf.recs
 have hf5:=hf.objects
 refine en 124 Tryz.func87 rfl<|sg<|L0<|cI (mG M.code M.fail M.addr M.count M.value M.and_ M.or_ M.addr2 M.sub M.status M.events M.messages (.slice Aw M.words.length kw) (.slice Ab M.bits.length kb) (.slice Ad M.data.length kd) (.slice Ar M.recs.length kr) M.mei M.kind M.level M.more M.next (.slice Ao M.objects.length ko)) fun bd be bf y i=>Pl 1<|ng<|Pl 1<|L0<|aP y 12<|Pl 2<|nt<|?_
 refine sg<|Pl 1<|L0<|Oi (2*((M.words.length:Nat) : Int))<|Pl 1<|L0<|cR (m:=1) (e:=5) #[.int .u8 ((2*((M.words.length:Nat) : Int))%256)] fun bg bh a4 a5 d=>?_
 have z:=cW a4 (xs:=[((2*((M.words.length:Nat) : Int))%256)]) (by as_aux_lemma=>kernel_rfl) (ap (by omega) aO) (by(try simp only[List.length_cons,List.length_nil]);omega) a5
 refine Pl 1<|?_
 have A:=ub d y
 refine L0<|aP A 12<|?_
 have B:=aD i d
 refine L0<|Oc<|dX (bj (xs:=M.words) (dT.old hw B) (by(try simp only[List.length_cons,List.length_nil]);omega)) fun bi bm bo C bp bq b=>Pl 2<|ng<|Pl 3<|nt<|sq<|sg<|Pl 1<|?_
 have a:=ub b A
 refine L0<|aP a 0<|Pl 1<|nt<|bk<|sg<|Pl 3<|?_
 have j:(!(dir==0))=false:=by simp only[hd0,Bool.not_true,Bool.not_false]
 refine sy 27 j<|Pl 12<|nt<|c0<|sg<|Pl 3<|nt<|?_
 have l:=aD B b
 refine cb ((M.code==6)) (fun c=>?_) (fun c=>?_)
 have a6:=ax c
 refine sg<|Pl 1<|L0<|aP a 2<|Pl 1<|L0<|aP a 4<|L0<|cR (m:=2) (e:=22) #[.int .u16 M.addr,.int .u16 M.value] fun bt bu a7 a8 D=>?_
 have a9:=eh a7 (xs:=[M.addr,M.value]) (by as_aux_lemma=>kernel_rfl) (ap (by omega) (ap (by omega) aO)) (by(try simp only[List.length_cons,List.length_nil]);omega) a8
 refine L0<|Oc<|dX (bj (xs:=[M.addr,M.value]) (a9).rd (by(try simp only[List.length_cons,List.length_nil]);omega)) fun aa ab bv ac bw bx ad=>Pl 1<|nt<|rt<|br<|tr<|rr (.slice aa ((aG ([M.addr,M.value])).length) ab)<|?_
 have hs:bz dir M=(aG ([M.addr,M.value])):=by
   unfold bz
   (try simp only[hd0,j,c,bs,if_true,if_false,decide_true,decide_false,reduceIte])
   all_goals rfl
 rw[hs]
 exact⟨_,rfl,(aL.weaken ac (le (le (le i.size d.size) b.size) D.size)),(aD l (aD D ad))⟩
 have a6:=aA c
 refine sg<|Pl 3<|nt<|cb ((M.code==22)) (fun f=>?_) (fun f=>?_)
 have ae:=ax f
 refine sg<|Pl 1<|L0<|aP a 2<|Pl 1<|L0<|aP a 5<|Pl 1<|L0<|aP a 6<|L0<|cR (m:=3) (e:=22) #[.int .u16 M.addr,.int .u16 M.and_,.int .u16 M.or_] fun bB bC af ag E=>?_
 have ah:=eh af (xs:=[M.addr,M.and_,M.or_]) (by as_aux_lemma=>kernel_rfl) (ap (by omega) (ap (by omega) (ap (by omega) aO))) (by(try simp only[List.length_cons,List.length_nil]);omega) ag
 refine L0<|Oc<|dX (bj (xs:=[M.addr,M.and_,M.or_]) (ah).rd (by(try simp only[List.length_cons,List.length_nil]);omega)) fun aj al bD am bE bF an=>Pl 1<|nt<|rt<|br<|tr<|rr (.slice aj ((aG ([M.addr,M.and_,M.or_])).length) al)<|?_
 have hs:bz dir M=(aG ([M.addr,M.and_,M.or_])):=by
   unfold bz
   (try simp only[hd0,j,c,f,bs,if_true,if_false,decide_true,decide_false,reduceIte])
   all_goals rfl
 rw[hs]
 exact⟨_,rfl,(aL.weaken am (le (le (le i.size d.size) b.size) E.size)),(aD l (aD E an))⟩
 have ae:=aA f
 refine sg<|Pl 3<|cu 2 [65] 67 (((M.code==16)&&(dir==0))) (fun K F=>?_) ?_
 refine bl 65 ((M.code==16)) (fun q=>?_) (fun q=>?_)
 have ao:=ax q
 exact Pl 2<|ce F (dir==0) (by rw[q];rfl)
 have ao:=aA q
 exact Pl 2<|ce F false (by rw[q];rfl)
 refine Pl 1<|nt<|cb (((M.code==16)&&(dir==0))) (fun g=>?_) (fun g=>?_)
 have k:=(bM g).1
 have G:=(bM g).2
 have aq:=ax k
 have bG:=ax G
 refine sg<|Pl 1<|L0<|aP a 2<|Pl 1<|L0<|aP a 3<|L0<|cR (m:=2) (e:=22) #[.int .u16 M.addr,.int .u16 M.count] fun bH bI ar aw s=>?_
 have ay:=eh ar (xs:=[M.addr,M.count]) (by as_aux_lemma=>kernel_rfl) (ap (by omega) (ap (by omega) aO)) (by(try simp only[List.length_cons,List.length_nil]);omega) aw
 refine L0<|Oc<|dX (bj (xs:=[M.addr,M.count]) (ay).rd (by(try simp only[List.length_cons,List.length_nil]);omega)) fun bJ bK bL H bN bO u=>Pl 1<|?_
 have I:=aD s u
 refine L0<|cg aX (xs:=(aG ([M.addr,M.count]))) (ys:=([((2*((M.words.length:Nat) : Int))%256)])) (.int .u8 0) 1 H ((ak z (aD b I) (fun x hx=>az) (fun _ _ h=>h))).rd (by(try simp only[List.length_append,List.length_cons,List.length_nil,av]);omega) u.size fun bP bQ bR J L=>Pl 1<|?_
 have N:=ut I L (ai (aI H s.size) au)
 refine L0<|cg aX (xs:=((aG ([M.addr,M.count]))++[((2*((M.words.length:Nat) : Int))%256)])) (ys:=(aG M.words)) (.int .u8 0) 1 J ((ak C N (fun x hx=>az) (fun _ _ h=>h))).rd (by(try simp only[List.length_append,List.length_cons,List.length_nil,av]);omega) (le u.size L.size) fun aB aC bS aE aH=>Pl 1<|nt<|rt<|br<|tr<|rr (.slice aB ((((aG ([M.addr,M.count]))++[((2*((M.words.length:Nat) : Int))%256)])++(aG M.words)).length) aC)<|?_
 have hs:bz dir M=(((aG ([M.addr,M.count]))++[((2*((M.words.length:Nat) : Int))%256)])++(aG M.words)):=by
   unfold bz
   (try simp only[G,j,c,f,g,k,bs,if_true,if_false,decide_true,decide_false,reduceIte])
   all_goals rfl
 rw[hs]
 exact⟨_,rfl,(aL.weaken aE (le (le (le i.size d.size) b.size) s.size)),(aD l (ut N aH (ai (aI J s.size) au)))⟩
 have k:(M.code==16)=false:=by simpa only[hd0,bs] using g
 have aq:=aA k
 refine sg<|Pl 3<|nt<|cb ((M.code==23)) (fun n=>?_) (fun n=>?_)
 have aJ:=ax n
 refine sg<|Pl 1<|L0<|aP a 2<|Pl 1<|L0<|aP a 3<|Pl 1<|L0<|aP a 7<|Pl 2<|L0<|cR (m:=4) (e:=22) #[.int .u16 M.addr,.int .u16 M.count,.int .u16 M.addr2,.int .u16 (((M.words.length:Nat) : Int)%65536)] fun bT bU aK aM t=>?_
 have aN:=eh aK (xs:=[M.addr,M.count,M.addr2,(((M.words.length:Nat) : Int)%65536)]) (by as_aux_lemma=>kernel_rfl) (ap (by omega) (ap (by omega) (ap (by omega) (ap (by omega) aO)))) (by(try simp only[List.length_cons,List.length_nil]);omega) aM
 refine L0<|Oc<|dX (bj (xs:=[M.addr,M.count,M.addr2,(((M.words.length:Nat) : Int)%65536)]) (aN).rd (by(try simp only[List.length_cons,List.length_nil]);omega)) fun bV bW bX O bY bZ v=>Pl 1<|?_
 have P:=aD t v
 refine L0<|cg aX (xs:=(aG ([M.addr,M.count,M.addr2,(((M.words.length:Nat) : Int)%65536)]))) (ys:=([((2*((M.words.length:Nat) : Int))%256)])) (.int .u8 0) 1 O ((ak z (aD b P) (fun x hx=>az) (fun _ _ h=>h))).rd (by(try simp only[List.length_append,List.length_cons,List.length_nil,av]);omega) v.size fun c1 c2 c3 Q R=>Pl 1<|?_
 have S:=ut P R (ai (aI O t.size) au)
 refine L0<|cg aX (xs:=((aG ([M.addr,M.count,M.addr2,(((M.words.length:Nat) : Int)%65536)]))++[((2*((M.words.length:Nat) : Int))%256)])) (ys:=(aG M.words)) (.int .u8 0) 1 Q ((ak C S (fun x hx=>az) (fun _ _ h=>h))).rd (by(try simp only[List.length_append,List.length_cons,List.length_nil,av]);omega) (le v.size R.size) fun aQ aR c4 aS aU=>Pl 1<|nt<|rt<|br<|tr<|rr (.slice aQ ((((aG ([M.addr,M.count,M.addr2,(((M.words.length:Nat) : Int)%65536)]))++[((2*((M.words.length:Nat) : Int))%256)])++(aG M.words)).length) aR)<|?_
 have hs:bz dir M=(((aG ([M.addr,M.count,M.addr2,(((M.words.length:Nat) : Int)%65536)]))++[((2*((M.words.length:Nat) : Int))%256)])++(aG M.words)):=by
   unfold bz
   (try simp only[hd0,j,c,f,g,k,n,bs,if_true,if_false,decide_true,decide_false,reduceIte])
   all_goals rfl
 rw[hs]
 exact⟨_,rfl,(aL.weaken aS (le (le (le i.size d.size) b.size) t.size)),(aD l (ut S aU (ai (aI Q t.size) au)))⟩
 have aJ:=aA n
 refine sg<|Pl 3<|cu 2 [98] 100 (((M.code==24)&&(dir==0))) (fun K T=>?_) ?_
 refine bl 98 ((M.code==24)) (fun r=>?_) (fun r=>?_)
 have aV:=ax r
 exact Pl 2<|ce T (dir==0) (by rw[r];rfl)
 have aV:=aA r
 exact Pl 2<|ce T false (by rw[r];rfl)
 refine Pl 1<|nt<|cb (((M.code==24)&&(dir==0))) (fun o=>?_) (fun o=>?_)
 have p:=(bM o).1
 have U:=(bM o).2
 have aY:=ax p
 have c5:=ax U
 refine sg<|Pl 1<|L0<|aP a 2<|L0<|cR (m:=1) (e:=22) #[.int .u16 M.addr] fun c6 c7 aZ b0 V=>?_
 have b1:=eh aZ (xs:=[M.addr]) (by as_aux_lemma=>kernel_rfl) (ap (by omega) aO) (by(try simp only[List.length_cons,List.length_nil]);omega) b0
 refine L0<|Oc<|dX (bj (xs:=[M.addr]) (b1).rd (by(try simp only[List.length_cons,List.length_nil]);omega)) fun b2 b3 c8 b4 c9 ca b5=>Pl 1<|nt<|rt<|br<|tr<|rr (.slice b2 ((aG ([M.addr])).length) b3)<|?_
 have hs:bz dir M=(aG ([M.addr])):=by
   unfold bz
   (try simp only[U,j,c,f,g,k,n,o,p,bs,if_true,if_false,decide_true,decide_false,reduceIte])
   all_goals rfl
 rw[hs]
 exact⟨_,rfl,(aL.weaken b4 (le (le (le i.size d.size) b.size) V.size)),(aD l (aD V b5))⟩
 have p:(M.code==24)=false:=by simpa only[hd0,bs] using o
 have aY:=aA p
 refine sg<|Pl 3<|nt<|cf p<|sk<|bn<|tn<|sg<|Pl 1<|L0<|aP a 2<|Pl 1<|L0<|aP a 3<|?_
 refine L0<|cR (m:=2) (e:=22) #[.int .u16 M.addr,.int .u16 M.count] fun cc cd b6 b7 W=>?_
 have b8:=eh b6 (xs:=[M.addr,M.count]) (by as_aux_lemma=>kernel_rfl) (ap (by omega) (ap (by omega) aO)) (by(try simp only[List.length_cons,List.length_nil]);omega) b7
 refine L0<|Oc<|dX (bj (xs:=[M.addr,M.count]) (b8).rd (by(try simp only[List.length_cons,List.length_nil]);omega)) fun b9 ba ch bb ci cj bc=>Pl 1<|nt<|rt<|rr (.slice b9 ((aG ([M.addr,M.count])).length) ba)<|?_
 have hs:bz dir M=(aG ([M.addr,M.count])):=by
   unfold bz
   (try simp only[hd0,j,c,f,g,k,n,o,p,bs,if_true,if_false,decide_true,decide_false,reduceIte])
   all_goals rfl
 rw[hs]
 exact⟨_,rfl,(aL.weaken bb (le (le (le i.size d.size) b.size) W.size)),(aD l (aD W bc))⟩
theorem qF{m:Bool}{cs:Array Value}{M:aT}{w:World}{dir:Int}(h:aF m w cs.toList M)(hf:aW M)(hd0:(dir==0)=false) : Calls Tryz.prog 87 #[.int .i64 dir,.agg cs] w (ig (bz dir M) w):=by
 obtain⟨vw,vb,vd,vr,vo,h0,hw,hbt,hd,hr,ho,hR⟩:=h
 obtain rfl:cs=(bA M vw vb vd vr vo).toArray:=by apply Array.toList_inj.1;simpa using h0
 clear h0
 obtain⟨Aw,kw,rfl,_,_⟩:=hw.shape
 obtain⟨Ab,kb,rfl,_,_⟩:=hbt.shape
 obtain⟨Ad,kd,rfl,_,_⟩:=hd.shape
 obtain⟨Ar,kr,rfl,_,_⟩:=hr.shape
 obtain⟨Ao,ko,rfl,_,_⟩:=ho.shape
 obtain⟨q0,q1,q2,q3,q4,q5,q6,q7,q8,q9,R,S,T,U,V,W,X⟩:=hR
 simp only[B8,dA] at q0 q1 q2 q3 q4 q5 q6 q7 q8 q9 R S T U V W X
 have hf1:=hf.words
 have hf2:=hf.bits
 have hf3:=hf.data
 have hf4:=hf.recs
 have hf5:=hf.objects
 refine en 124 Tryz.func87 rfl<|sg<|L0<|cI (mG M.code M.fail M.addr M.count M.value M.and_ M.or_ M.addr2 M.sub M.status M.events M.messages (.slice Aw M.words.length kw) (.slice Ab M.bits.length kb) (.slice Ad M.data.length kd) (.slice Ar M.recs.length kr) M.mei M.kind M.level M.more M.next (.slice Ao M.objects.length ko)) fun aZ b0 b1 A d=>Pl 1<|ng<|Pl 1<|L0<|aP A 12<|Pl 2<|nt<|?_
 refine sg<|Pl 1<|L0<|Oi (2*((M.words.length:Nat) : Int))<|Pl 1<|L0<|cR (m:=1) (e:=5) #[.int .u8 ((2*((M.words.length:Nat) : Int))%256)] fun b2 b3 Y Z f=>?_
 have B:=cW Y (xs:=[((2*((M.words.length:Nat) : Int))%256)]) (by as_aux_lemma=>kernel_rfl) (ap (by omega) aO) (by(try simp only[List.length_cons,List.length_nil]);omega) Z
 refine Pl 1<|?_
 have C:=ub f A
 refine L0<|aP C 12<|?_
 have D:=aD d f
 refine L0<|Oc<|dX (bj (xs:=M.words) (dT.old hw D) (by(try simp only[List.length_cons,List.length_nil]);omega)) fun b4 b5 b6 E b7 b8 a=>Pl 2<|ng<|Pl 3<|nt<|sq<|sg<|Pl 1<|?_
 have b:=ub a C
 refine L0<|aP b 0<|Pl 1<|nt<|bk<|sg<|Pl 3<|?_
 have i:(!(dir==0))=true:=by simp only[hd0,Bool.not_true,Bool.not_false]
 refine sy 27 i<|Pl 3<|cu 3 [30] 33 (((M.code==3)||(M.code==4))) (fun K F=>?_) ?_
 refine bl 30 ((M.code==3)) (fun n=>?_) (fun n=>?_)
 have a0:=ax n
 exact Pl 3<|ce F true (by rw[n];rfl)
 have a0:=aA n
 exact Pl 3<|ce F (M.code==4) (by rw[n];rfl)
 refine Pl 1<|cu 3 [34] 37 ((((M.code==3)||(M.code==4))||(M.code==23))) (fun K G=>?_) ?_
 refine bl 34 (((M.code==3)||(M.code==4))) (fun o=>?_) (fun o=>?_)
 exact Pl 3<|ce G true (by rw[o];rfl)
 have a1:=(aK o).1
 have a2:=(aK o).2
 have b9:=aA a1
 have ba:=aA a2
 exact Pl 3<|ce G (M.code==23) (by rw[o];rfl)
 refine Pl 2<|nt<|?_
 have p:=aD D a
 refine cb ((((M.code==3)||(M.code==4))||(M.code==23))) (fun c=>?_) (fun c=>?_)
 refine sg<|Pl 2<|?_
 refine L0<|cg aX (xs:=([((2*((M.words.length:Nat) : Int))%256)])) (ys:=(aG M.words)) (.int .u8 0) 1 (ak B a (fun x hx=>az) (fun _ _ h=>h)) (E).rd (by(try simp only[List.length_append,List.length_cons,List.length_nil,av]);omega) (le f.size a.size) fun a3 a4 bb a5 a6=>Pl 1<|nt<|rt<|br<|tr<|rr (.slice a3 (([((2*((M.words.length:Nat) : Int))%256)]++(aG M.words)).length) a4)<|?_
 have hs:bz dir M=([((2*((M.words.length:Nat) : Int))%256)]++(aG M.words)):=by
   unfold bz
   (try simp only[hd0,i,c,bs,if_true,if_false,decide_true,decide_false,reduceIte])
   all_goals rfl
 rw[hs]
 exact⟨_,rfl,(aL.weaken a5 d.size),(ut p a6 (ai (aI B d.size) au))⟩
 have j:=(aK c).1
 have k:=(aK c).2
 have q:=(aK j).1
 have r:=(aK j).2
 have q40aap:=aA q
 have q40abp:=aA r
 have bc:=aA k
 refine sg<|Pl 3<|nt<|cb ((M.code==6)) (fun g=>?_) (fun g=>?_)
 have a7:=ax g
 refine sg<|Pl 1<|L0<|aP b 2<|Pl 1<|L0<|aP b 4<|L0<|cR (m:=2) (e:=22) #[.int .u16 M.addr,.int .u16 M.value] fun bd be a8 a9 H=>?_
 have aa:=eh a8 (xs:=[M.addr,M.value]) (by as_aux_lemma=>kernel_rfl) (ap (by omega) (ap (by omega) aO)) (by(try simp only[List.length_cons,List.length_nil]);omega) a9
 refine L0<|Oc<|dX (bj (xs:=[M.addr,M.value]) (aa).rd (by(try simp only[List.length_cons,List.length_nil]);omega)) fun ab ac bf ad bg bh ae=>Pl 1<|nt<|rt<|br<|tr<|rr (.slice ab ((aG ([M.addr,M.value])).length) ac)<|?_
 have hs:bz dir M=(aG ([M.addr,M.value])):=by
   unfold bz
   (try simp only[hd0,i,c,j,q,r,k,g,bs,if_true,if_false,decide_true,decide_false,reduceIte])
   all_goals rfl
 rw[hs]
 exact⟨_,rfl,(aL.weaken ad (le (le (le d.size f.size) a.size) H.size)),(aD p (aD H ae))⟩
 have a7:=aA g
 refine sg<|Pl 3<|nt<|cb ((M.code==22)) (fun l=>?_) (fun l=>?_)
 have af:=ax l
 refine sg<|Pl 1<|L0<|aP b 2<|Pl 1<|L0<|aP b 5<|Pl 1<|L0<|aP b 6<|L0<|cR (m:=3) (e:=22) #[.int .u16 M.addr,.int .u16 M.and_,.int .u16 M.or_] fun bi bm ag ah I=>?_
 have aj:=eh ag (xs:=[M.addr,M.and_,M.or_]) (by as_aux_lemma=>kernel_rfl) (ap (by omega) (ap (by omega) (ap (by omega) aO))) (by(try simp only[List.length_cons,List.length_nil]);omega) ah
 refine L0<|Oc<|dX (bj (xs:=[M.addr,M.and_,M.or_]) (aj).rd (by(try simp only[List.length_cons,List.length_nil]);omega)) fun al am bo an bp bq ao=>Pl 1<|nt<|rt<|br<|tr<|rr (.slice al ((aG ([M.addr,M.and_,M.or_])).length) am)<|?_
 have hs:bz dir M=(aG ([M.addr,M.and_,M.or_])):=by
   unfold bz
   (try simp only[hd0,i,c,j,q,r,k,g,l,bs,if_true,if_false,decide_true,decide_false,reduceIte])
   all_goals rfl
 rw[hs]
 exact⟨_,rfl,(aL.weaken an (le (le (le d.size f.size) a.size) I.size)),(aD p (aD I ao))⟩
 have af:=aA l
 refine sg<|Pl 3<|cu 2 [65] 67 (((M.code==16)&&(dir==0))) (fun K J=>?_) ?_
 refine bl 65 ((M.code==16)) (fun s=>?_) (fun s=>?_)
 have aq:=ax s
 exact Pl 2<|ce J (dir==0) (by rw[s];rfl)
 have aq:=aA s
 exact Pl 2<|ce J false (by rw[s];rfl)
 refine Pl 1<|nt<|?_
 have v:((M.code==16)&&(dir==0))=false:=by simp only[hd0,bs]
 refine cf v<|sg<|Pl 3<|nt<|cf k<|sg<|Pl 3<|cu 2 [98] 100 (((M.code==24)&&(dir==0))) (fun K L=>?_) ?_
 refine bl 98 ((M.code==24)) (fun t=>?_) (fun t=>?_)
 have ar:=ax t
 exact Pl 2<|ce L (dir==0) (by rw[t];rfl)
 have ar:=aA t
 exact Pl 2<|ce L false (by rw[t];rfl)
 refine Pl 1<|nt<|?_
 have y:((M.code==24)&&(dir==0))=false:=by simp only[hd0,bs]
 refine cf y<|sg<|Pl 3<|nt<|cb ((M.code==24)) (fun u=>?_) (fun u=>?_)
 have aw:=ax u
 refine sg<|Pl 1<|L0<|Oi (2*((M.words.length:Nat) : Int))<|L0<|Oi (2+(2*((M.words.length:Nat) : Int)))<|Pl 3<|L0<|cR (m:=2) (e:=22) #[.int .u16 ((2+(2*((M.words.length:Nat) : Int)))%65536),.int .u16 (((M.words.length:Nat) : Int)%65536)] fun bt bu ay aB z=>?_
 have aC:=eh ay (xs:=[((2+(2*((M.words.length:Nat) : Int)))%65536),(((M.words.length:Nat) : Int)%65536)]) (by as_aux_lemma=>kernel_rfl) (ap (by omega) (ap (by omega) aO)) (by(try simp only[List.length_cons,List.length_nil]);omega) aB
 refine L0<|Oc<|dX (bj (xs:=[((2+(2*((M.words.length:Nat) : Int)))%65536),(((M.words.length:Nat) : Int)%65536)]) (aC).rd (by(try simp only[List.length_cons,List.length_nil]);omega)) fun bv bw bx N bB bC O=>Pl 1<|?_
 have P:=aD z O
 refine L0<|cg aX (xs:=(aG ([((2+(2*((M.words.length:Nat) : Int)))%65536),(((M.words.length:Nat) : Int)%65536)]))) (ys:=(aG M.words)) (.int .u8 0) 1 N ((ak E P (fun x hx=>az) (fun _ _ h=>h))).rd (by(try simp only[List.length_append,List.length_cons,List.length_nil,av]);omega) O.size fun aE aH bD aJ aM=>Pl 1<|nt<|rt<|br<|tr<|rr (.slice aE (((aG ([((2+(2*((M.words.length:Nat) : Int)))%65536),(((M.words.length:Nat) : Int)%65536)]))++(aG M.words)).length) aH)<|?_
 have hs:bz dir M=((aG ([((2+(2*((M.words.length:Nat) : Int)))%65536),(((M.words.length:Nat) : Int)%65536)]))++(aG M.words)):=by
   unfold bz
   (try simp only[hd0,i,c,j,q,r,k,g,l,v,y,u,bs,if_true,if_false,decide_true,decide_false,reduceIte])
   all_goals rfl
 rw[hs]
 exact⟨_,rfl,(aL.weaken aJ (le (le (le d.size f.size) a.size) z.size)),(aD p (ut P aM (ai (aI N z.size) au)))⟩
 have aw:=aA u
 refine sk<|bn<|tn<|sg<|Pl 1<|L0<|aP b 2<|Pl 1<|L0<|aP b 3<|L0<|cR (m:=2) (e:=22) #[.int .u16 M.addr,.int .u16 M.count] fun bE bF aN aQ Q=>?_
 have aR:=eh aN (xs:=[M.addr,M.count]) (by as_aux_lemma=>kernel_rfl) (ap (by omega) (ap (by omega) aO)) (by(try simp only[List.length_cons,List.length_nil]);omega) aQ
 refine L0<|Oc<|dX (bj (xs:=[M.addr,M.count]) (aR).rd (by(try simp only[List.length_cons,List.length_nil]);omega)) fun aS aU bG aV bH bI aY=>Pl 1<|nt<|rt<|rr (.slice aS ((aG ([M.addr,M.count])).length) aU)<|?_
 have hs:bz dir M=(aG ([M.addr,M.count])):=by
   unfold bz
   (try simp only[hd0,i,c,j,q,r,k,g,l,v,y,u,bs,if_true,if_false,decide_true,decide_false,reduceIte])
   all_goals rfl
 rw[hs]
 exact⟨_,rfl,(aL.weaken aV (le (le (le d.size f.size) a.size) Q.size)),(aD p (aD Q aY))⟩
theorem vl{m:Bool}{cs:Array Value}{M:aT}{w:World}{dir:Int}(h:aF m w cs.toList M)(hf:aW M) : Calls Tryz.prog 87 #[.int .i64 dir,.agg cs] w (ig (bz dir M) w):=by
  rcases dB (dir==0) with h0|h0
  · exact rk h hf h0
  · exact qF h hf h0
end Go.Proofs.YtpglhicfhppaiaaGreat
