/- Contracts of functions, part CStreamWrites3. -/
import Derived.Test.YtpglhicfhppaiaaGreatCStreamWrites1
import Derived.Test.YtpglhicfhppaiaaGreatCStreamWrites2
import Derived.RangeFuncRecord
import Derived.RangeFuncLeaves
import Derived.RangeFuncCalls
set_option linter.unusedVariables false
set_option linter.unusedSimpArgs false
set_option maxRecDepth 100000
set_option maxHeartbeats 4000000
namespace Go.Proofs.YtpglhicfhppaiaaGreat
open Go.RowKit
def aR (dir c:Int)(C:ap) : Option (ap × aV) :=
  if c==8 then some (ex dir c C)
  else if c==7 || c==11 || c==12 || c==17 then (if dir==1 then some (bM c C) else some (C,{ aV.zero with code:=c }))
  else none
theorem mE{m:Bool}{A:Option Addr}{cp:Nat}{b:List Int}{w:World}{c:Int}(hcode:B8 c)(hsl:aQ m w (.slice A b.length cp) b)(hb:b.length≤1048576) :
    Calls Tryz.prog 62 #[.int .i64 0,.int .u8 c,.slice A b.length cp] w (dl (au aR 0 c b) w):=by
 obtain⟨hcode1,hcode2⟩:=hcode
 have hln:(b.length:Int)≤1048576:=by omega
 refine en 47 Tryz.func62 rfl<|sg<|L0<|bI mZ fun b3 b4 j i O=>Pl 1<|nt<|sq<|sg<|Pl 6<|nt<|c0<|?_
 refine bG<|sg<|Pl 2<|L0<|bI mZ fun b5 b7 q P aa=>L0<|bf P (mC c) fun ba r Q=>ng<|Pl 1<|?_
 have g:=ud aa Q q
 have n:=aE O g
 refine L0<|Oc<|e3 (d9 (aQ.old hsl n) (by omega)) fun bb bc a s d=>Pl 1<|nt<|sq<|sg<|Pl 1<|nt<|bk<|sg<|Pl 2<|nl<|?_
 refine tn<|?_
 have o:=aE n d
 refine cb ((c==8)) (fun f=>?_) (fun f=>?_)
 have ad:=az f
 refine go<|Pl 2<|?_
 have R:=nb (al P) Q.size a
 refine L0<|Oc<|m3 (oK (dir:=0) (c:=c) ⟨hcode1,hcode2⟩ s (ub d r) (Ne.symm R)) fun bd ae af S=>?_
 obtain⟨ag,B,C⟩:=af
 refine ab ae fun x41 T U=>?_
 refine nl<|bn<|tn<|sg<|Pl 1<|L0<|Oc<|m2 (bP U) fun be V D=>nt<|sq<|sg<|Pl 1<|L0<|Oc<|mq (bi V)<|?_
 have bg:=ah.len V
 refine Pl 1<|ng<|Pl 2<|nt<|?_
 have E:=u1 S D im
 have W:=ut o E (ac (ni n.size a) (ac (ni O.size q) aq))
 refine cb ((x41.endC.e != 0)) (fun t=>?_) (fun t=>?_)
 have F:=aA t
 refine sg<|Pl 2<|?_
 refine L0<|bf (ub (ud g (ud d E a) q) i) mZ fun bh aj am=>Pl 1<|nt<|rt<|tr<|cU aj (.int .i64 x41.endC.e)<|?_
 subst T
 have hs:au aR 0 c b=b6 ((ex 0 c (ap.mk b false 0)).2) ((ex 0 c (ap.mk b false 0)).1):=by
   unfold au aR
   (try simp only[f,t,bs,if_true,if_false,decide_true,decide_false,eq_self,true_or,or_true,or_false,false_or,if_true,if_false,dt,du,dv,dy,reduceIte])
   all_goals rfl
 rw[hs]
 exact b9 F (ud W am j)
 have F:=ai t
 refine bG<|sg<|?_
 refine L0<|bZ (hz:=(by rw[B.2];exact aT)) (aY D R B.1)<|?_
 refine L0<|bf (hz:=(by rw[B.2];exact aT)) (hv:=C.size) (h1:=C.one) (ub (ud g (ud d E a) q) i) (ag) fun bl an X=>Pl 1<|nt<|rt<|eU 22 B.2 an (.int .i64 0)<|?_
 subst T
 have hs:au aR 0 c b=b6 ((ex 0 c (ap.mk b false 0)).2) ((ex 0 c (ap.mk b false 0)).1):=by
   unfold au aR
   (try simp only[f,t,bs,if_true,if_false,decide_true,decide_false,eq_self,true_or,or_true,or_false,false_or,if_true,if_false,dt,du,dv,dy,reduceIte])
   all_goals rfl
 rw[hs]
 exact bj F (aF.upd C (us D X) (ak (ah.safe U _ (by decide)) (ak (aL (ub (ud g (ud d S a) q) i) (by decide)) aD))) (ud W X j)
 have ad:=aC f
 refine sq<|sg<|Pl 2<|nt<|cb ((c==7)) (fun h=>?_) (fun h=>?_)
 have ao:=az h
 refine bG<|ct h<|sg<|Pl 2<|nt<|c0<|sk<|bn<|tn<|sg<|?_
 refine Pl 1<|L0<|Oc<|m2 (bP s) fun bm Y G=>nt<|sq<|sg<|Pl 1<|L0<|Oc<|mq (bi Y)<|?_
 have bo:=ah.len Y
 refine Pl 1<|ng<|Pl 2<|nt<|?_
 have Z:=ud o G (le n.size a)
 refine cb (((((ap.mk b false 0).endC).e)!=0)) (fun u=>?_) (fun u=>?_)
 have H:=aA u
 refine sg<|Pl 2<|?_
 refine L0<|bf (ub (aE g (ud d G a)) i) mZ fun bp ar av=>Pl 1<|nt<|rt<|tr<|cU ar (.int .i64 (((ap.mk b false 0).endC).e))<|?_
 have hs:au aR 0 c b=b6 (aV.mk c 0 0 0 0 0 0 0 0 0 0 0 [] [] [] [] 0 0 0 0 0 []) (ap.mk b false 0):=by
   unfold au aR
   (try simp only[f,h,u,bs,if_true,if_false,decide_true,decide_false,eq_self,true_or,or_true,or_false,false_or,if_true,if_false,dt,du,dv,dy,reduceIte])
   all_goals rfl
 rw[hs]
 exact b9 H (ud Z av j)
 have H:=ai u
 refine bG<|sg<|?_
 have a0:=ud d G a
 refine L0<|bZ (ub a0 r)<|?_
 refine L0<|bf (ub (aE g a0) i) (mC c) fun bq aw ax=>Pl 1<|nt<|rt<|cU aw (.int .i64 0)<|?_
 have hs:au aR 0 c b=b6 (aV.mk c 0 0 0 0 0 0 0 0 0 0 0 [] [] [] [] 0 0 0 0 0 []) (ap.mk b false 0):=by
   unfold au aR
   (try simp only[f,h,u,bs,if_true,if_false,decide_true,decide_false,eq_self,true_or,or_true,or_false,false_or,if_true,if_false,dt,du,dv,dy,reduceIte])
   all_goals rfl
 rw[hs]
 exact bj H ⟨_,_,_,_,_,rfl,aO.nil ..,aO.nil ..,aO.nil ..,aO.nil ..,aO.nil ..,⟨(b8 (x:=c) (by omega)),(b8 (x:=0) (by omega)),(aK (x:=0) (by omega)),(aK (x:=0) (by omega)),(aK (x:=0) (by omega)),(aK (x:=0) (by omega)),(aK (x:=0) (by omega)),(aK (x:=0) (by omega)),(aK (x:=0) (by omega)),(aK (x:=0) (by omega)),(aK (x:=0) (by omega)),(aK (x:=0) (by omega)),(b8 (x:=0) (by omega)),(b8 (x:=0) (by omega)),(b8 (x:=0) (by omega)),(b8 (x:=0) (by omega)),(b8 (x:=0) (by omega))⟩⟩ (ud Z ax j)
 have ao:=aC h
 refine sg<|Pl 2<|nt<|cb ((c==11)) (fun k=>?_) (fun k=>?_)
 have ay:=az k
 refine bG<|ct k<|sg<|Pl 2<|nt<|c0<|sk<|bn<|tn<|sg<|?_
 refine Pl 1<|L0<|Oc<|m2 (bP s) fun bt a1 I=>nt<|sq<|sg<|Pl 1<|L0<|Oc<|mq (bi a1)<|?_
 have bu:=ah.len a1
 refine Pl 1<|ng<|Pl 2<|nt<|?_
 have a2:=ud o I (le n.size a)
 refine cb (((((ap.mk b false 0).endC).e)!=0)) (fun v=>?_) (fun v=>?_)
 have J:=aA v
 refine sg<|Pl 2<|?_
 refine L0<|bf (ub (aE g (ud d I a)) i) mZ fun bv aB aG=>Pl 1<|nt<|rt<|tr<|cU aB (.int .i64 (((ap.mk b false 0).endC).e))<|?_
 have hs:au aR 0 c b=b6 (aV.mk c 0 0 0 0 0 0 0 0 0 0 0 [] [] [] [] 0 0 0 0 0 []) (ap.mk b false 0):=by
   unfold au aR
   (try simp only[f,h,k,v,bs,if_true,if_false,decide_true,decide_false,eq_self,true_or,or_true,or_false,false_or,if_true,if_false,dt,du,dv,dy,reduceIte])
   all_goals rfl
 rw[hs]
 exact b9 J (ud a2 aG j)
 have J:=ai v
 refine bG<|sg<|?_
 have a3:=ud d I a
 refine L0<|bZ (ub a3 r)<|?_
 refine L0<|bf (ub (aE g a3) i) (mC c) fun bw aH aI=>Pl 1<|nt<|rt<|cU aH (.int .i64 0)<|?_
 have hs:au aR 0 c b=b6 (aV.mk c 0 0 0 0 0 0 0 0 0 0 0 [] [] [] [] 0 0 0 0 0 []) (ap.mk b false 0):=by
   unfold au aR
   (try simp only[f,h,k,v,bs,if_true,if_false,decide_true,decide_false,eq_self,true_or,or_true,or_false,false_or,if_true,if_false,dt,du,dv,dy,reduceIte])
   all_goals rfl
 rw[hs]
 exact bj J ⟨_,_,_,_,_,rfl,aO.nil ..,aO.nil ..,aO.nil ..,aO.nil ..,aO.nil ..,⟨(b8 (x:=c) (by omega)),(b8 (x:=0) (by omega)),(aK (x:=0) (by omega)),(aK (x:=0) (by omega)),(aK (x:=0) (by omega)),(aK (x:=0) (by omega)),(aK (x:=0) (by omega)),(aK (x:=0) (by omega)),(aK (x:=0) (by omega)),(aK (x:=0) (by omega)),(aK (x:=0) (by omega)),(aK (x:=0) (by omega)),(b8 (x:=0) (by omega)),(b8 (x:=0) (by omega)),(b8 (x:=0) (by omega)),(b8 (x:=0) (by omega)),(b8 (x:=0) (by omega))⟩⟩ (ud a2 aI j)
 have ay:=aC k
 refine sg<|Pl 2<|nt<|cb ((c==12)) (fun l=>?_) (fun l=>?_)
 have aJ:=az l
 refine bG<|ct l<|sg<|Pl 2<|nt<|c0<|sk<|bn<|tn<|sg<|?_
 refine Pl 1<|L0<|Oc<|m2 (bP s) fun bx a4 K=>nt<|sq<|sg<|Pl 1<|L0<|Oc<|mq (bi a4)<|?_
 have bz:=ah.len a4
 refine Pl 1<|ng<|Pl 2<|nt<|?_
 have a5:=ud o K (le n.size a)
 refine cb (((((ap.mk b false 0).endC).e)!=0)) (fun y=>?_) (fun y=>?_)
 have L:=aA y
 refine sg<|Pl 2<|?_
 refine L0<|bf (ub (aE g (ud d K a)) i) mZ fun bA aM aN=>Pl 1<|nt<|rt<|tr<|cU aM (.int .i64 (((ap.mk b false 0).endC).e))<|?_
 have hs:au aR 0 c b=b6 (aV.mk c 0 0 0 0 0 0 0 0 0 0 0 [] [] [] [] 0 0 0 0 0 []) (ap.mk b false 0):=by
   unfold au aR
   (try simp only[f,h,k,l,y,bs,if_true,if_false,decide_true,decide_false,eq_self,true_or,or_true,or_false,false_or,if_true,if_false,dt,du,dv,dy,reduceIte])
   all_goals rfl
 rw[hs]
 exact b9 L (ud a5 aN j)
 have L:=ai y
 refine bG<|sg<|?_
 have a6:=ud d K a
 refine L0<|bZ (ub a6 r)<|?_
 refine L0<|bf (ub (aE g a6) i) (mC c) fun bB aP aS=>Pl 1<|nt<|rt<|cU aP (.int .i64 0)<|?_
 have hs:au aR 0 c b=b6 (aV.mk c 0 0 0 0 0 0 0 0 0 0 0 [] [] [] [] 0 0 0 0 0 []) (ap.mk b false 0):=by
   unfold au aR
   (try simp only[f,h,k,l,y,bs,if_true,if_false,decide_true,decide_false,eq_self,true_or,or_true,or_false,false_or,if_true,if_false,dt,du,dv,dy,reduceIte])
   all_goals rfl
 rw[hs]
 exact bj L ⟨_,_,_,_,_,rfl,aO.nil ..,aO.nil ..,aO.nil ..,aO.nil ..,aO.nil ..,⟨(b8 (x:=c) (by omega)),(b8 (x:=0) (by omega)),(aK (x:=0) (by omega)),(aK (x:=0) (by omega)),(aK (x:=0) (by omega)),(aK (x:=0) (by omega)),(aK (x:=0) (by omega)),(aK (x:=0) (by omega)),(aK (x:=0) (by omega)),(aK (x:=0) (by omega)),(aK (x:=0) (by omega)),(aK (x:=0) (by omega)),(b8 (x:=0) (by omega)),(b8 (x:=0) (by omega)),(b8 (x:=0) (by omega)),(b8 (x:=0) (by omega)),(b8 (x:=0) (by omega))⟩⟩ (ud a5 aS j)
 have aJ:=aC l
 refine go<|Pl 2<|nt<|cb ((c==17)) (fun p=>?_) (fun p=>?_)
 have aU:=az p
 refine sg<|Pl 2<|nt<|c0<|sk<|bn<|tn<|sg<|Pl 1<|L0<|Oc<|m2 (bP s) fun bC a7 M=>nl<|?_
 refine tn<|sq<|sg<|Pl 1<|L0<|Oc<|mq (bi a7)<|?_
 have bD:=ah.len a7
 refine Pl 1<|ng<|Pl 2<|nt<|?_
 have a8:=ud o M (le n.size a)
 refine cb (((((ap.mk b false 0).endC).e)!=0)) (fun z=>?_) (fun z=>?_)
 have N:=aA z
 refine sg<|Pl 2<|?_
 refine L0<|bf (ub (aE g (ud d M a)) i) mZ fun bE aW aX=>Pl 1<|nt<|rt<|tr<|cU aW (.int .i64 (((ap.mk b false 0).endC).e))<|?_
 have hs:au aR 0 c b=b6 (aV.mk c 0 0 0 0 0 0 0 0 0 0 0 [] [] [] [] 0 0 0 0 0 []) (ap.mk b false 0):=by
   unfold au aR
   (try simp only[f,h,k,l,p,z,bs,if_true,if_false,decide_true,decide_false,eq_self,true_or,or_true,or_false,false_or,if_true,if_false,dt,du,dv,dy,reduceIte])
   all_goals rfl
 rw[hs]
 exact b9 N (ud a8 aX j)
 have N:=ai z
 refine bG<|sg<|?_
 have a9:=ud d M a
 refine L0<|bZ (ub a9 r)<|?_
 refine L0<|bf (ub (aE g a9) i) (mC c) fun bF aZ b0=>Pl 1<|nt<|rt<|cU aZ (.int .i64 0)<|?_
 have hs:au aR 0 c b=b6 (aV.mk c 0 0 0 0 0 0 0 0 0 0 0 [] [] [] [] 0 0 0 0 0 []) (ap.mk b false 0):=by
   unfold au aR
   (try simp only[f,h,k,l,p,z,bs,if_true,if_false,decide_true,decide_false,eq_self,true_or,or_true,or_false,false_or,if_true,if_false,dt,du,dv,dy,reduceIte])
   all_goals rfl
 rw[hs]
 exact bj N ⟨_,_,_,_,_,rfl,aO.nil ..,aO.nil ..,aO.nil ..,aO.nil ..,aO.nil ..,⟨(b8 (x:=c) (by omega)),(b8 (x:=0) (by omega)),(aK (x:=0) (by omega)),(aK (x:=0) (by omega)),(aK (x:=0) (by omega)),(aK (x:=0) (by omega)),(aK (x:=0) (by omega)),(aK (x:=0) (by omega)),(aK (x:=0) (by omega)),(aK (x:=0) (by omega)),(aK (x:=0) (by omega)),(aK (x:=0) (by omega)),(b8 (x:=0) (by omega)),(b8 (x:=0) (by omega)),(b8 (x:=0) (by omega)),(b8 (x:=0) (by omega)),(b8 (x:=0) (by omega))⟩⟩ (ud a8 b0 j)
 have aU:=aC p
 refine sg<|Pl 1<|?_
 refine L0<|bf (ub (aE g d) i) mZ fun bH b1 b2=>Pl 1<|nt<|rt<|br<|tr<|cU b1 (.int .i64 4)<|?_
 have hs:au aR 0 c b=(aV.zero,4):=by
   unfold au aR
   (try simp only[f,h,k,l,p,bs,if_true,if_false,decide_true,decide_false,eq_self,true_or,or_true,or_false,false_or,if_true,if_false,dt,du,dv,dy,reduceIte])
   all_goals rfl
 rw[hs]
 exact bW (ud o b2 j)
theorem mW{m:Bool}{A:Option Addr}{cp:Nat}{b:List Int}{w:World}{c:Int}(hcode:B8 c)(hsl:aQ m w (.slice A b.length cp) b)(hb:b.length≤1048576) :
    Calls Tryz.prog 62 #[.int .i64 1,.int .u8 c,.slice A b.length cp] w (dl (au aR 1 c b) w):=by
 obtain⟨hcode1,hcode2⟩:=hcode
 have hln:(b.length:Int)≤1048576:=by omega
 refine en 47 Tryz.func62 rfl<|sg<|L0<|bI mZ fun bR bS k h p=>Pl 1<|nt<|sq<|sg<|Pl 6<|nt<|c0<|?_
 refine bG<|sg<|Pl 2<|L0<|bI mZ fun bT bU f q b1=>L0<|bf q (mC c) fun bV u r=>ng<|Pl 1<|?_
 have g:=ud b1 r f
 have o:=aE p g
 refine L0<|Oc<|e3 (d9 (aQ.old hsl o) (by omega)) fun bX bY a v d=>Pl 1<|nt<|sq<|sg<|Pl 1<|nt<|bk<|sg<|Pl 2<|nl<|?_
 refine tn<|?_
 have s:=aE o d
 refine cb ((c==8)) (fun i=>?_) (fun i=>?_)
 have b2:=az i
 refine go<|Pl 2<|?_
 have a2:=nb (al q) r.size a
 refine L0<|Oc<|m3 (oK (dir:=1) (c:=c) ⟨hcode1,hcode2⟩ v (ub d u) (Ne.symm a2)) fun c2 b3 b4 a3=>?_
 obtain⟨b5,D,I⟩:=b4
 refine ab b3 fun x41 a4 a5=>?_
 refine nl<|bn<|tn<|sg<|Pl 1<|L0<|Oc<|m2 (bP a5) fun c3 a6 J=>nt<|sq<|sg<|Pl 1<|L0<|Oc<|mq (bi a6)<|?_
 have c4:=ah.len a6
 refine Pl 1<|ng<|Pl 2<|nt<|?_
 have K:=u1 a3 J im
 have a7:=ut s K (ac (ni o.size a) (ac (ni p.size f) aq))
 refine cb ((x41.endC.e != 0)) (fun x=>?_) (fun x=>?_)
 have L:=aA x
 refine sg<|Pl 2<|?_
 refine L0<|bf (ub (ud g (ud d K a) f) h) mZ fun c5 b7 b8=>Pl 1<|nt<|rt<|tr<|cU b7 (.int .i64 x41.endC.e)<|?_
 subst a4
 have hs:au aR 1 c b=b6 ((ex 1 c (ap.mk b false 0)).2) ((ex 1 c (ap.mk b false 0)).1):=by
   unfold au aR
   (try simp only[i,x,bs,if_true,if_false,decide_true,decide_false,eq_self,true_or,or_true,or_false,false_or,if_true,if_false,dt,du,dv,dy,reduceIte])
   all_goals rfl
 rw[hs]
 exact b9 L (ud a7 b8 k)
 have L:=ai x
 refine bG<|sg<|?_
 refine L0<|bZ (hz:=(by rw[D.2];exact aT)) (aY J a2 D.1)<|?_
 refine L0<|bf (hz:=(by rw[D.2];exact aT)) (hv:=I.size) (h1:=I.one) (ub (ud g (ud d K a) f) h) (b5) fun c6 ba a8=>Pl 1<|nt<|rt<|eU 22 D.2 ba (.int .i64 0)<|?_
 subst a4
 have hs:au aR 1 c b=b6 ((ex 1 c (ap.mk b false 0)).2) ((ex 1 c (ap.mk b false 0)).1):=by
   unfold au aR
   (try simp only[i,x,bs,if_true,if_false,decide_true,decide_false,eq_self,true_or,or_true,or_false,false_or,if_true,if_false,dt,du,dv,dy,reduceIte])
   all_goals rfl
 rw[hs]
 exact bj L (aF.upd I (us J a8) (ak (ah.safe a5 _ (by decide)) (ak (aL (ub (ud g (ud d a3 a) f) h) (by decide)) aD))) (ud a7 a8 k)
 have b2:=aC i
 refine sq<|sg<|Pl 2<|nt<|cb ((c==7)) (fun j=>?_) (fun j=>?_)
 have bb:=az j
 refine bG<|ct j<|sg<|Pl 2<|nt<|c1<|go<|Pl 1<|?_
 have a9:=nb (al q) r.size a
 refine L0<|Oc<|m3 (fS (c:=c) ⟨hcode1,hcode2⟩ v (ub d u) (Ne.symm a9)) fun c7 bc bd aa=>?_
 obtain⟨be,E,M⟩:=bd
 refine ab bc fun x81 ad ae=>?_
 refine nl<|bn<|tn<|sg<|Pl 1<|L0<|Oc<|m2 (bP ae) fun c8 af N=>nt<|sq<|sg<|Pl 1<|L0<|Oc<|mq (bi af)<|?_
 have c9:=ah.len af
 refine Pl 1<|ng<|Pl 2<|nt<|?_
 have O:=u1 aa N im
 have ag:=ut s O (ac (ni o.size a) (ac (ni p.size f) aq))
 refine cb ((x81.endC.e != 0)) (fun y=>?_) (fun y=>?_)
 have P:=aA y
 refine sg<|Pl 2<|?_
 refine L0<|bf (ub (ud g (ud d O a) f) h) mZ fun ca bg bh=>Pl 1<|nt<|rt<|tr<|cU bg (.int .i64 x81.endC.e)<|?_
 subst ad
 have hs:au aR 1 c b=b6 ((bM c (ap.mk b false 0)).2) ((bM c (ap.mk b false 0)).1):=by
   unfold au aR
   (try simp only[i,j,y,bs,if_true,if_false,decide_true,decide_false,eq_self,true_or,or_true,or_false,false_or,if_true,if_false,dt,du,dv,dy,reduceIte])
   all_goals rfl
 rw[hs]
 exact b9 P (ud ag bh k)
 have P:=ai y
 refine bG<|sg<|?_
 refine L0<|bZ (hz:=(by rw[E.2];exact aT)) (aY N a9 E.1)<|?_
 refine L0<|bf (hz:=(by rw[E.2];exact aT)) (hv:=M.size) (h1:=M.one) (ub (ud g (ud d O a) f) h) (be) fun cc bl aj=>Pl 1<|nt<|rt<|eU 22 E.2 bl (.int .i64 0)<|?_
 subst ad
 have hs:au aR 1 c b=b6 ((bM c (ap.mk b false 0)).2) ((bM c (ap.mk b false 0)).1):=by
   unfold au aR
   (try simp only[i,j,y,bs,if_true,if_false,decide_true,decide_false,eq_self,true_or,or_true,or_false,false_or,if_true,if_false,dt,du,dv,dy,reduceIte])
   all_goals rfl
 rw[hs]
 exact bj P (aF.upd M (us N aj) (ak (ah.safe ae _ (by decide)) (ak (aL (ub (ud g (ud d aa a) f) h) (by decide)) aD))) (ud ag aj k)
 have bb:=aC j
 refine sg<|Pl 2<|nt<|cb ((c==11)) (fun l=>?_) (fun l=>?_)
 have bm:=az l
 refine bG<|ct l<|sg<|Pl 2<|nt<|c1<|go<|Pl 1<|?_
 have am:=nb (al q) r.size a
 refine L0<|Oc<|m3 (fS (c:=c) ⟨hcode1,hcode2⟩ v (ub d u) (Ne.symm am)) fun cd bo bp an=>?_
 obtain⟨bq,F,Q⟩:=bp
 refine ab bo fun ao ar av=>?_
 refine nl<|bn<|tn<|sg<|Pl 1<|L0<|Oc<|m2 (bP av) fun ce aw R=>nt<|sq<|sg<|Pl 1<|L0<|Oc<|mq (bi aw)<|?_
 have cf:=ah.len aw
 refine Pl 1<|ng<|Pl 2<|nt<|?_
 have S:=u1 an R im
 have ax:=ut s S (ac (ni o.size a) (ac (ni p.size f) aq))
 refine cb ((ao.endC.e != 0)) (fun z=>?_) (fun z=>?_)
 have T:=aA z
 refine sg<|Pl 2<|?_
 refine L0<|bf (ub (ud g (ud d S a) f) h) mZ fun cg bt bu=>Pl 1<|nt<|rt<|tr<|cU bt (.int .i64 ao.endC.e)<|?_
 subst ar
 have hs:au aR 1 c b=b6 ((bM c (ap.mk b false 0)).2) ((bM c (ap.mk b false 0)).1):=by
   unfold au aR
   (try simp only[i,j,l,z,bs,if_true,if_false,decide_true,decide_false,eq_self,true_or,or_true,or_false,false_or,if_true,if_false,dt,du,dv,dy,reduceIte])
   all_goals rfl
 rw[hs]
 exact b9 T (ud ax bu k)
 have T:=ai z
 refine bG<|sg<|?_
 refine L0<|bZ (hz:=(by rw[F.2];exact aT)) (aY R am F.1)<|?_
 refine L0<|bf (hz:=(by rw[F.2];exact aT)) (hv:=Q.size) (h1:=Q.one) (ub (ud g (ud d S a) f) h) (bq) fun ch bv ay=>Pl 1<|nt<|rt<|eU 22 F.2 bv (.int .i64 0)<|?_
 subst ar
 have hs:au aR 1 c b=b6 ((bM c (ap.mk b false 0)).2) ((bM c (ap.mk b false 0)).1):=by
   unfold au aR
   (try simp only[i,j,l,z,bs,if_true,if_false,decide_true,decide_false,eq_self,true_or,or_true,or_false,false_or,if_true,if_false,dt,du,dv,dy,reduceIte])
   all_goals rfl
 rw[hs]
 exact bj T (aF.upd Q (us R ay) (ak (ah.safe av _ (by decide)) (ak (aL (ub (ud g (ud d an a) f) h) (by decide)) aD))) (ud ax ay k)
 have bm:=aC l
 refine sg<|Pl 2<|nt<|cb ((c==12)) (fun n=>?_) (fun n=>?_)
 have bw:=az n
 refine bG<|ct n<|sg<|Pl 2<|nt<|c1<|go<|Pl 1<|?_
 have aB:=nb (al q) r.size a
 refine L0<|Oc<|m3 (fS (c:=c) ⟨hcode1,hcode2⟩ v (ub d u) (Ne.symm aB)) fun ci bx bz aG=>?_
 obtain⟨bA,G,U⟩:=bz
 refine ab bx fun aH aI aJ=>?_
 refine nl<|bn<|tn<|sg<|Pl 1<|L0<|Oc<|m2 (bP aJ) fun cj aK V=>nt<|sq<|sg<|Pl 1<|L0<|Oc<|mq (bi aK)<|?_
 have ck:=ah.len aK
 refine Pl 1<|ng<|Pl 2<|nt<|?_
 have W:=u1 aG V im
 have aM:=ut s W (ac (ni o.size a) (ac (ni p.size f) aq))
 refine cb ((aH.endC.e != 0)) (fun B=>?_) (fun B=>?_)
 have X:=aA B
 refine sg<|Pl 2<|?_
 refine L0<|bf (ub (ud g (ud d W a) f) h) mZ fun cl bB bC=>Pl 1<|nt<|rt<|tr<|cU bB (.int .i64 aH.endC.e)<|?_
 subst aI
 have hs:au aR 1 c b=b6 ((bM c (ap.mk b false 0)).2) ((bM c (ap.mk b false 0)).1):=by
   unfold au aR
   (try simp only[i,j,l,n,B,bs,if_true,if_false,decide_true,decide_false,eq_self,true_or,or_true,or_false,false_or,if_true,if_false,dt,du,dv,dy,reduceIte])
   all_goals rfl
 rw[hs]
 exact b9 X (ud aM bC k)
 have X:=ai B
 refine bG<|sg<|?_
 refine L0<|bZ (hz:=(by rw[G.2];exact aT)) (aY V aB G.1)<|?_
 refine L0<|bf (hz:=(by rw[G.2];exact aT)) (hv:=U.size) (h1:=U.one) (ub (ud g (ud d W a) f) h) (bA) fun cm bD aN=>Pl 1<|nt<|rt<|eU 22 G.2 bD (.int .i64 0)<|?_
 subst aI
 have hs:au aR 1 c b=b6 ((bM c (ap.mk b false 0)).2) ((bM c (ap.mk b false 0)).1):=by
   unfold au aR
   (try simp only[i,j,l,n,B,bs,if_true,if_false,decide_true,decide_false,eq_self,true_or,or_true,or_false,false_or,if_true,if_false,dt,du,dv,dy,reduceIte])
   all_goals rfl
 rw[hs]
 exact bj X (aF.upd U (us V aN) (ak (ah.safe aJ _ (by decide)) (ak (aL (ub (ud g (ud d aG a) f) h) (by decide)) aD))) (ud aM aN k)
 have bw:=aC n
 refine go<|Pl 2<|nt<|cb ((c==17)) (fun t=>?_) (fun t=>?_)
 have bE:=az t
 refine sg<|Pl 2<|nt<|c1<|go<|Pl 1<|?_
 have aO:=nb (al q) r.size a
 refine L0<|Oc<|m3 (fS (c:=c) ⟨hcode1,hcode2⟩ v (ub d u) (Ne.symm aO)) fun cn bF bH aP=>?_
 obtain⟨bJ,H,Y⟩:=bH
 refine ab bF fun aS aU aW=>?_
 refine nl<|bn<|tn<|sg<|Pl 1<|L0<|Oc<|m2 (bP aW) fun co aX Z=>nt<|sq<|sg<|Pl 1<|L0<|Oc<|mq (bi aX)<|?_
 have cq:=ah.len aX
 refine Pl 1<|ng<|Pl 2<|nt<|?_
 have a0:=u1 aP Z im
 have aZ:=ut s a0 (ac (ni o.size a) (ac (ni p.size f) aq))
 refine cb ((aS.endC.e != 0)) (fun C=>?_) (fun C=>?_)
 have a1:=aA C
 refine sg<|Pl 2<|?_
 refine L0<|bf (ub (ud g (ud d a0 a) f) h) mZ fun cr bK bL=>Pl 1<|nt<|rt<|tr<|cU bK (.int .i64 aS.endC.e)<|?_
 subst aU
 have hs:au aR 1 c b=b6 ((bM c (ap.mk b false 0)).2) ((bM c (ap.mk b false 0)).1):=by
   unfold au aR
   (try simp only[i,j,l,n,t,C,bs,if_true,if_false,decide_true,decide_false,eq_self,true_or,or_true,or_false,false_or,if_true,if_false,dt,du,dv,dy,reduceIte])
   all_goals rfl
 rw[hs]
 exact b9 a1 (ud aZ bL k)
 have a1:=ai C
 refine bG<|sg<|?_
 refine L0<|bZ (hz:=(by rw[H.2];exact aT)) (aY Z aO H.1)<|?_
 refine L0<|bf (hz:=(by rw[H.2];exact aT)) (hv:=Y.size) (h1:=Y.one) (ub (ud g (ud d a0 a) f) h) (bJ) fun cs bN b0=>Pl 1<|nt<|rt<|eU 22 H.2 bN (.int .i64 0)<|?_
 subst aU
 have hs:au aR 1 c b=b6 ((bM c (ap.mk b false 0)).2) ((bM c (ap.mk b false 0)).1):=by
   unfold au aR
   (try simp only[i,j,l,n,t,C,bs,if_true,if_false,decide_true,decide_false,eq_self,true_or,or_true,or_false,false_or,if_true,if_false,dt,du,dv,dy,reduceIte])
   all_goals rfl
 rw[hs]
 exact bj a1 (aF.upd Y (us Z b0) (ak (ah.safe aW _ (by decide)) (ak (aL (ub (ud g (ud d aP a) f) h) (by decide)) aD))) (ud aZ b0 k)
 have bE:=aC t
 refine sg<|Pl 1<|?_
 refine L0<|bf (ub (aE g d) h) mZ fun cu bO bQ=>Pl 1<|nt<|rt<|br<|tr<|cU bO (.int .i64 4)<|?_
 have hs:au aR 1 c b=(aV.zero,4):=by
   unfold au aR
   (try simp only[i,j,l,n,t,bs,if_true,if_false,decide_true,decide_false,eq_self,true_or,or_true,or_false,false_or,if_true,if_false,dt,du,dv,dy,reduceIte])
   all_goals rfl
 rw[hs]
 exact bW (ud s bQ k)
theorem mR{m:Bool}{A:Option Addr}{cp:Nat}{b:List Int}{w:World}{dir c:Int}(hcode:B8 c)(hsl:aQ m w (.slice A b.length cp) b)(hb:b.length≤1048576)(hd:¬ (dir=0∨dir=1)) :
    Calls Tryz.prog 62 #[.int .i64 dir,.int .u8 c,.slice A b.length cp] w (dl (au aR dir c b) w):=by
 obtain⟨hcode1,hcode2⟩:=hcode
 have hln:(b.length:Int)≤1048576:=by omega
 have e0:(dir != 0)=true:=by simp;omega
 have e1:(dir != 1)=true:=by simp;omega
 refine en 47 Tryz.func62 rfl<|sg<|L0<|bI mZ fun g h a d e=>Pl 1<|nt<|sq<|sg<|Pl 3<|sy 13 e0<|Pl 3<|nl<|?_
 refine tn<|ct e1<|sg<|Pl 1<|L0<|bf d mZ fun i db f=>Pl 1<|nt<|rt<|tr<|cU db (.int .i64 1)<|?_
 have hs:au aR dir c b=(aV.zero,1):=by
   unfold au aR
   (try simp only[e0,e1,bs,if_true,if_false,decide_true,decide_false,eq_self,true_or,or_true,or_false,false_or,if_true,if_false,dt,du,dv,dy,reduceIte,hd])
   all_goals rfl
 rw[hs]
 exact bW (ud e f a)
theorem ki{m:Bool}{v:Value}{b:List Int}{w:World}{dir c:Int}(hc:B8 c)(h:aQ m w v b)(hb:b.length≤1048576) :
    Calls Tryz.prog 62 #[.int .i64 dir,.int .u8 c,v] w (dl (au aR dir c b) w):=by
  obtain⟨A,cp,rfl,_,_⟩:=h.shape
  by_cases h0:dir=0
  · subst h0;exact mE hc h hb
  by_cases h1:dir=1
  · subst h1;exact mW hc h hb
  exact mR hc h hb (by omega)
open Go.RowKit
def iL:Nat→ap→List Obj→ap × List Obj
  | 0,C,L=>(C,L)
  | n+1,C,L=>iL n (((C.bytesC 1).bytesC 1).bytesC (C.bytesC 1).byteV) (L++[⟨C.byteV,((C.bytesC 1).bytesC 1).bytesR (C.bytesC 1).byteV⟩])
def o3 (C:ap) : ap:=(C.bytesC 1).need (bO C.byteV) 6
def sn (C:ap) : ap:=((o3 C).bytesC 1).need ((o3 C).byteV==0 || (o3 C).byteV==255) 6
def yW (C:ap) : ap:=((sn C).bytesC 1).need ((o3 C).byteV != 0 || (sn C).byteV==0) 6
def AW (kd:Int)(C:ap) : ap:=((yW C).bytesC 1).need (kd != 4 || (yW C).byteV==1) 5
def eH (kd:Int)(C:ap) : ap × List Obj:=iL (yW C).byteV.toNat (AW kd C) []
theorem pQ{g gm:Nat}{c me kd:Int}{C0:ap}{w:World}(hcode:B8 c)(hme:B8 me)(hkd:B8 kd)(hC:ah w g C0)(hm:w.heap[gm]? = some (.cells #[.int .u8 c,.int .u8 0,.int .u16 0,.int .u16 0,.int .u16 0,.int .u16 0,.int .u16 0,.int .u16 0,.int .u16 0,.int .u16 0,.int .u16 0,.int .u16 0,.slice none 0 0,.slice none 0 0,.slice none 0 0,.slice none 0 0,.int .u8 me,.int .u8 kd,.int .u8 0,.int .u8 0,.int .u8 0,.slice none 0 0] 31 (0,0)))(hne:g≠gm) :
    Calls Tryz.prog 99 #[.pointer (some ⟨g,0,none⟩),.pointer (some ⟨gm,0,none⟩)] w (bT g gm (eH kd C0).1 { aV.zero with code:=c,mei:=me,kind:=kd,level:=C0.byteV,more:=(o3 C0).byteV,next:=(sn C0).byteV,objects:=(eH kd C0).2 } w):=by
 obtain⟨hcode1,hcode2⟩:=hcode
 obtain⟨hme1,hme2⟩:=hme
 obtain⟨hkd1,hkd2⟩:=hkd
 refine en 92 Tryz.func99 rfl<|sg<|Pl 2<|L0<|Oc<|m3 (bE hC) fun cU bP b cV=>Pl 2<|?_
 have am:=aY b (Ne.symm hne) hm
 refine L0<|cn am 18 (mG c 0 0 0 0 0 0 0 0 0 0 0 nS nS nS nS me kd C0.byteV 0 0 nS) fun cW db j=>ng<|Pl 4<|L0<|aN db 18<|L0<|Oc<|m1 (rJ (x:=C0.byteV) (w:=_)) fun cX d=>?_
 have an:=aE j d
 refine L0<|Oc<|m2 (aU ((bO C0.byteV)) 6 (ah.upd bP an (ae hne ay) (ak (aL am (by decide)) aD))) fun cY bQ l=>?_
 refine ab bQ fun x25 bR bU=>?_
 refine ng<|Pl 2<|L0<|Oc<|m3 (bE bU) fun cZ bV o d0=>Pl 2<|?_
 have ao:=u1 l o im
 have ar:=aY (uz d ao) (Ne.symm hne) db
 refine L0<|cn ar 19 (mG c 0 0 0 0 0 0 0 0 0 0 0 nS nS nS nS me kd C0.byteV x25.byteV 0 nS) fun d1 U f=>ng<|Pl 4<|L0<|aN U 19<|Pl 2<|cu 6 [29] 35 (((x25.byteV==0)||(x25.byteV==255))) (fun K au=>?_) ?_
 refine bl 29 ((x25.byteV==0)) (fun E=>?_) (fun E=>?_)
 have bW:=az E
 exact Pl 6<|ce au true (by rw[E];rfl)
 have bW:=aC E
 exact Pl 3<|L1<|aN U 19<|Pl 2<|ce au (x25.byteV==255) (by rw[E];rfl)
 refine L0<|Oc<|m2 (aU (((x25.byteV==0)||(x25.byteV==255))) 6 (ah.upd bV f (ae hne ay) (ak (aL ar (by decide)) aD))) fun d2 bX p=>?_
 refine ab bX fun x44 bY bZ=>?_
 refine ng<|Pl 2<|L0<|Oc<|m3 (bE bZ) fun d3 c0 q d4=>Pl 2<|?_
 have aw:=u1 p q im
 have aF:=aY aw (Ne.symm hne) U
 refine L0<|cn aF 20 (mG c 0 0 0 0 0 0 0 0 0 0 0 nS nS nS nS me kd C0.byteV x25.byteV x44.byteV nS) fun d5 V h=>ng<|Pl 4<|L0<|aN V 19<|Pl 2<|cu 6 [48] 54 (((x25.byteV != 0)||(x44.byteV==0))) (fun K aH=>?_) ?_
 refine bl 48 ((x25.byteV != 0)) (fun F=>?_) (fun F=>?_)
 have c1:=aA F
 exact Pl 6<|ce aH true (by rw[F];rfl)
 have c1:=ai F
 exact Pl 3<|L1<|aN V 20<|Pl 2<|ce aH (x44.byteV==0) (by rw[F];rfl)
 refine L0<|Oc<|m2 (aU (((x25.byteV != 0)||(x44.byteV==0))) 6 (ah.upd c0 h (ae hne ay) (ak (aL aF (by decide)) aD))) fun d6 c2 r=>?_
 refine ab c2 fun x62 c3 c4=>?_
 refine ng<|Pl 1<|L0<|Oc<|m3 (bE c4) fun d7 c5 s d8=>L0<|Oi x62.byteV<|Pl 1<|ng<|Pl 4<|?_
 have aM:=u1 r s im
 have aP:=aY aM (Ne.symm hne) V
 refine L0<|aN aP 17<|Pl 2<|cu 3 [65] 68 (((kd != 4)||(x62.byteV==1))) (fun K aR=>?_) ?_
 refine bl 65 ((kd != 4)) (fun G=>?_) (fun G=>?_)
 have c6:=aA G
 exact Pl 3<|ce aR true (by rw[G];rfl)
 have c6:=ai G
 exact Pl 3<|ce aR (x62.byteV==1) (by rw[G];rfl)
 refine L0<|Oc<|m2 (aU (((kd != 4)||(x62.byteV==1))) 5 c5) fun W c7 i=>?_
 refine ab c7 fun x76 c8 c9=>?_
 refine ng<|Pl 2<|nt<|bk<|?_
 refine ir (fun x=>[(0,.pointer (some ⟨g,0,none⟩)),(1,.pointer (some ⟨gm,0,none⟩)),(70,.int .i64 x62.byteV),(71,.int .i64 ((x.1:Nat) : Int))]) (fun(x:Nat × ap × List Obj × Option Addr × Nat) w'=>ax [g,gm] W w'∧ah w' g x.2.1∧w'.heap[gm]? = some (.cells #[.int .u8 c,.int .u8 0,.int .u16 0,.int .u16 0,.int .u16 0,.int .u16 0,.int .u16 0,.int .u16 0,.int .u16 0,.int .u16 0,.int .u16 0,.int .u16 0,.slice none 0 0,.slice none 0 0,.slice none 0 0,.slice none 0 0,.int .u8 me,.int .u8 kd,.int .u8 C0.byteV,.int .u8 x25.byteV,.int .u8 x44.byteV,.slice x.2.2.2.1 x.2.2.1.length x.2.2.2.2] 31 (0,0))∧aJ W.heap.size 85 2 (cD true) w' (.slice x.2.2.2.1 x.2.2.1.length x.2.2.2.2) x.2.2.1∧(x.1≤x62.byteV.toNat)∧(iL (x62.byteV.toNat-x.1) x.2.1 x.2.2.1=iL x62.byteV.toNat x76 [])∧(x.2.2.1.length≤x.1)) (fun x=>x62.byteV.toNat-x.1) (0,x76,[],none,0) ⟨ax.refl _ _,c9,(aY i (Ne.symm hne) aP),aJ.nil ..,(by(try dsimp only);omega),(by(try dsimp only);rw[Nat.sub_zero]),(by(try dsimp only);(try simp only[List.length_append,List.length_cons,List.length_nil]);omega)⟩ ?_
 rintro⟨k,C,L,A,cp⟩ X ⟨v,ca,cc,cd,cf,ch,ci⟩
 refine it [(0,.pointer (some ⟨g,0,none⟩)),(1,.pointer (some ⟨gm,0,none⟩)),(70,.int .i64 x62.byteV),(71,.int .i64 ((k:Nat) : Int))] ?_
 have u:ah X g C:=ca
 have D:X.heap[gm]? = some (.cells #[.int .u8 c,.int .u8 0,.int .u16 0,.int .u16 0,.int .u16 0,.int .u16 0,.int .u16 0,.int .u16 0,.int .u16 0,.int .u16 0,.int .u16 0,.int .u16 0,.slice none 0 0,.slice none 0 0,.slice none 0 0,.slice none 0 0,.int .u8 me,.int .u8 kd,.int .u8 C0.byteV,.int .u8 x25.byteV,.int .u8 x44.byteV,.slice A L.length cp] 31 (0,0)):=cc
 have a:aJ W.heap.size 85 2 (cD true) X (.slice A L.length cp) L:=cd
 have d9:k≤x62.byteV.toNat:=cf
 have da:iL (x62.byteV.toNat-k) C L=iL x62.byteV.toNat x76 []:=ch
 have dc:L.length≤k:=ci
 have hobj:iL (x62.byteV.toNat-k) C L=iL x62.byteV.toNat x76 []:=by assumption
 refine sg<|Pl 1<|nt<|sq<|?_
 refine cb ((decide (((k:Nat) : Int)<x62.byteV))) (fun Y=>?_) (fun Y=>?_)
 have cj:=of_decide_eq_true Y
 refine bG<|sq<|bk<|sg<|Pl 1<|L0<|Oc<|m3 (bE u) fun dd aS y de=>Pl 1<|nt<|Rg 17 (fun w'=>True) fun df t=>aZ trivial fun z=>Rt 0 z<|?_
 refine Rt 1 z<|Rt 2 z<|Rt 3 z<|Rt 5 z<|Rt 6 z<|Rt 7 z<|?_
 refine R2 4 8 rfl rfl ?_ ?_
 have Z:=aE y t
 have a0:=aY Z (Ne.symm hne) D
 refine  aN a0 21<|aZ trivial fun dg=>?_
 refine R0 8 rfl<|Oc<|m3 (bE (ah.old aS t)) fun dh aT a1 di=>aZ trivial fun ck=>Rr 9 ck (.int .i64 ((C.bytesC 1).byteV)) (fun _ _=>cC (.int .i64 (IntKind.i64.wrap ((C.bytesC 1).byteV))) (by kernel_rfl) (congrArg (Value.int .i64) (i64_in (by omega))))<|R0 10 rfl<|Oc<|tv (bS (n:=(C.bytesC 1).byteV) aT) fun cl cm dj co dk dl cq a2=>?_
 have dm:=Nat.le_trans (ap.bytesR_le ((C.bytesC 1).bytesC 1) ((C.bytesC 1).byteV)) (ah.len aT)
 refine ab cq fun dn cr cs=>?_
 refine aZ trivial fun ct=>Rt 11 ct<|R0 12 rfl<|cF (m:=1) (e:=85) #[.int .u8 C.byteV,.slice cl ((((C.bytesC 1).bytesC 1).bytesR ((C.bytesC 1).byteV)).length) cm] fun dp dq dr cv I=>?_
 have cw:=pK (R:=cD true) (x:=(Obj.mk C.byteV (((C.bytesC 1).bytesC 1).bytesR ((C.bytesC 1).byteV)))) cv rfl ⟨_,rfl,(aQ.upd' co I aD),b8 (by omega)⟩
 refine aZ trivial fun ds=>?_
 have aW:=u1 a1 (aE a2 I) im
 have a3:=u1 Z aW im
 have aX:=aj a a3 (fun x hx=>(ae (fun e=>(aB (ah.lt hC) (le (le (le (le (le (le (le (le (le (le (le b.size j.size) d.size) l.size) o.size) f.size) p.size) q.size) h.size) r.size) s.size) i.size) a) (e▸hx)) ay)) (cD.upd8 a3 (ak (ah.safe u _ (by decide)) aD))
 refine R0 13 rfl<|kL (xs:=L) (ys:=([(Obj.mk C.byteV (((C.bytesC 1).bytesC 1).bytesR ((C.bytesC 1).byteV)))])) (.agg #[.int .u8 0,.slice none 0 0]) 2 32 aX cw (by simp) cD.ones (fun w' hv=>cD.upd8 hv (bN (cg _ aX (by decide)) aD)) (by(try simp only[List.length_append,List.length_cons,List.length_nil,av]);omega) (le (le (le (le (le v.size y.size) t.size) a1.size) a2.size) I.size) fun b0 b1 dt b2 b3=>aZ trivial fun b4=>Rt 14 b4<|Rt 15 b4<|?_
 have b5:=ax.blk (ut (ax.mono (S':=(g :: (ob A++[]))) aW (ac im aq)) b3 (ag il aq)) (ae (Ne.symm hne) (aG (aB (al hm) (le (le (le (le (le (le (le (le (le (le (le b.size j.size) d.size) l.size) o.size) f.size) p.size) q.size) h.size) r.size) s.size) i.size) a) ay)) a0
 refine R0 16 rfl<|cn b5 21 (mG c 0 0 0 0 0 0 0 0 0 0 0 nS nS nS nS me kd C0.byteV x25.byteV x44.byteV (.slice b0 ((L++[(Obj.mk C.byteV (((C.bytesC 1).bytesC 1).bytesR ((C.bytesC 1).byteV)))]).length) b1)) fun du cx a4=>aZ trivial fun dv=>re<|bn<|tn<|go<|L0<|Oi (((k:Nat) : Int)+1)<|Pl 1<|nl<|?_
 subst cr
 have b6:=u1 (ax.mono (S':=(ob A++(gm :: []))) b3 (ag il aq)) a4 im
 have b7:=u1 a1 a2 im
 have b9:=u1 Z b7 im
 exact er ((k+1),(((C.bytesC 1).bytesC 1).bytesC ((C.bytesC 1).byteV)),(L++[(Obj.mk C.byteV (((C.bytesC 1).bytesC 1).bytesR ((C.bytesC 1).byteV)))]),b0,b1) ⟨(ut v (ut (ax.mono (S':=(g :: (ob A++(gm :: [])))) a3 (ac im aq)) b6 (ag il (ac im aq))) (ac im (ag (aI a lr) (ac im aq)))),(ah.upd cs (ut (ax.mono (S':=(ob A++(gm :: []))) I aq) b6 (ag il (ac im aq))) (aG (aB (ah.lt hC) (le (le (le (le (le (le (le (le (le (le (le b.size j.size) d.size) l.size) o.size) f.size) p.size) q.size) h.size) r.size) s.size) i.size) a) (ae hne ay)) (bN (cg _ (aj a b9 (fun x hx=>(ae (fun e=>(aB (ah.lt hC) (le (le (le (le (le (le (le (le (le (le (le b.size j.size) d.size) l.size) o.size) f.size) p.size) q.size) h.size) r.size) s.size) i.size) a) (e▸hx)) ay)) (cD.upd8 b9 (ak (ah.safe u _ (by decide)) aD))) (by decide)) (ak (aL (aY b7 (Ne.symm hne) a0) (by decide)) aD))),cx,(aj b2 a4 (fun x hx=>(ae (fun e=>(aB (al hm) (le (le (le (le (le (le (le (le (le (le (le b.size j.size) d.size) l.size) o.size) f.size) p.size) q.size) h.size) r.size) s.size) i.size) b2) (e▸hx)) ay)) (cD.upd8 a4 (ak (aL b5 (by decide)) aD))),(by(try dsimp only);omega),(by(try dsimp only);rw[← hobj,show x62.byteV.toNat-k=(x62.byteV.toNat-(k+1))+1 from by omega];rfl),(by(try dsimp only);(try simp only[List.length_append,List.length_cons,List.length_nil]);omega)⟩ (by omega)
 refine  Oc<|m3 (bE (ah.old aS t)) fun dw J B dx=>aZ trivial fun cy=>Rr 9 cy (.int .i64 ((C.bytesC 1).byteV)) (fun _ _=>cC (.int .i64 (IntKind.i64.wrap ((C.bytesC 1).byteV))) (by kernel_rfl) (congrArg (Value.int .i64) (i64_in (by omega))))<|?_
 refine R2 4 10 rfl rfl ?_ ?_
 have a5:=u1 y (uz t B) im
 have a6:=aY a5 (Ne.symm hne) D
 refine  aN a6 21<|aZ trivial fun dy=>R0 10 rfl<|Oc<|tv (bS (n:=(C.bytesC 1).byteV) J) fun cz cA dz cB dA dB cE M=>?_
 have dC:=Nat.le_trans (ap.bytesR_le ((C.bytesC 1).bytesC 1) ((C.bytesC 1).byteV)) (ah.len J)
 refine ab cE fun dD cG cH=>?_
 refine aZ trivial fun cI=>Rt 11 cI<|R0 12 rfl<|cF (m:=1) (e:=85) #[.int .u8 C.byteV,.slice cz ((((C.bytesC 1).bytesC 1).bytesR ((C.bytesC 1).byteV)).length) cA] fun dE dF dG cJ N=>?_
 have cK:=pK (R:=cD true) (x:=(Obj.mk C.byteV (((C.bytesC 1).bytesC 1).bytesR ((C.bytesC 1).byteV)))) cJ rfl ⟨_,rfl,(aQ.upd' cB N aD),b8 (by omega)⟩
 refine aZ trivial fun dH=>?_
 have ba:=aE M N
 have a7:=u1 a5 ba im
 have bb:=aj a a7 (fun x hx=>(ae (fun e=>(aB (ah.lt hC) (le (le (le (le (le (le (le (le (le (le (le b.size j.size) d.size) l.size) o.size) f.size) p.size) q.size) h.size) r.size) s.size) i.size) a) (e▸hx)) ay)) (cD.upd8 a7 (ak (ah.safe u _ (by decide)) aD))
 refine R0 13 rfl<|kL (xs:=L) (ys:=([(Obj.mk C.byteV (((C.bytesC 1).bytesC 1).bytesR ((C.bytesC 1).byteV)))])) (.agg #[.int .u8 0,.slice none 0 0]) 2 32 bb cK (by simp) cD.ones (fun w' hv=>cD.upd8 hv (bN (cg _ bb (by decide)) aD)) (by(try simp only[List.length_append,List.length_cons,List.length_nil,av]);omega) (le (le (le (le (le v.size y.size) t.size) B.size) M.size) N.size) fun bc bd dI be bf=>aZ trivial fun bg=>Rt 14 bg<|Rt 15 bg<|?_
 have bh:=ax.blk (ut (ax.mono (S':=(g :: (ob A++[]))) ba (ac im aq)) bf (ag il aq)) (ae (Ne.symm hne) (aG (aB (al hm) (le (le (le (le (le (le (le (le (le (le (le b.size j.size) d.size) l.size) o.size) f.size) p.size) q.size) h.size) r.size) s.size) i.size) a) ay)) a6
 refine R0 16 rfl<|cn bh 21 (mG c 0 0 0 0 0 0 0 0 0 0 0 nS nS nS nS me kd C0.byteV x25.byteV x44.byteV (.slice bc ((L++[(Obj.mk C.byteV (((C.bytesC 1).bytesC 1).bytesR ((C.bytesC 1).byteV)))]).length) bd)) fun dJ cL a8=>aZ trivial fun dK=>re<|bn<|tn<|go<|L0<|Oi (((k:Nat) : Int)+1)<|Pl 1<|nl<|?_
 subst cG
 have bi:=u1 (ax.mono (S':=(ob A++(gm :: []))) bf (ag il aq)) a8 im
 have bj:=u1 a5 M im
 exact er ((k+1),(((C.bytesC 1).bytesC 1).bytesC ((C.bytesC 1).byteV)),(L++[(Obj.mk C.byteV (((C.bytesC 1).bytesC 1).bytesR ((C.bytesC 1).byteV)))]),bc,bd) ⟨(ut v (ut (ax.mono (S':=(g :: (ob A++(gm :: [])))) a7 (ac im aq)) bi (ag il (ac im aq))) (ac im (ag (aI a lr) (ac im aq)))),(ah.upd cH (ut (ax.mono (S':=(ob A++(gm :: []))) N aq) bi (ag il (ac im aq))) (aG (aB (ah.lt hC) (le (le (le (le (le (le (le (le (le (le (le b.size j.size) d.size) l.size) o.size) f.size) p.size) q.size) h.size) r.size) s.size) i.size) a) (ae hne ay)) (bN (cg _ (aj a bj (fun x hx=>(ae (fun e=>(aB (ah.lt hC) (le (le (le (le (le (le (le (le (le (le (le b.size j.size) d.size) l.size) o.size) f.size) p.size) q.size) h.size) r.size) s.size) i.size) a) (e▸hx)) ay)) (cD.upd8 bj (ak (ah.safe u _ (by decide)) aD))) (by decide)) (ak (aL (aY M (Ne.symm hne) a6) (by decide)) aD))),cL,(aj be a8 (fun x hx=>(ae (fun e=>(aB (al hm) (le (le (le (le (le (le (le (le (le (le (le b.size j.size) d.size) l.size) o.size) f.size) p.size) q.size) h.size) r.size) s.size) i.size) be) (e▸hx)) ay)) (cD.upd8 a8 (ak (aL bh (by decide)) aD))),(by(try dsimp only);omega),(by(try dsimp only);rw[← hobj,show x62.byteV.toNat-k=(x62.byteV.toNat-(k+1))+1 from by omega];rfl),(by(try dsimp only);(try simp only[List.length_append,List.length_cons,List.length_nil]);omega)⟩ (by omega)
 refine  Oc<|tv (bS (n:=(C.bytesC 1).byteV) J) fun bm bo dL bp dM dN cM H=>?_
 have dO:=Nat.le_trans (ap.bytesR_le ((C.bytesC 1).bytesC 1) ((C.bytesC 1).byteV)) (ah.len J)
 refine ab cM fun dP bq br=>?_
 refine aZ trivial fun cN=>Rt 11 cN<|?_
 refine R2 4 12 rfl rfl ?_ ?_
 have O:=u1 y (uz t (u1 B H im)) im
 have a9:=aY O (Ne.symm hne) D
 refine  aN a9 21<|aZ trivial fun dQ=>R0 12 rfl<|cF (m:=1) (e:=85) #[.int .u8 C.byteV,.slice bm ((((C.bytesC 1).bytesC 1).bytesR ((C.bytesC 1).byteV)).length) bo] fun dR dS dT cO P=>?_
 have cP:=pK (R:=cD true) (x:=(Obj.mk C.byteV (((C.bytesC 1).bytesC 1).bytesR ((C.bytesC 1).byteV)))) cO rfl ⟨_,rfl,(aQ.upd' bp P aD),b8 (by omega)⟩
 refine aZ trivial fun dU=>?_
 have aa:=aE O P
 have bs:=aj a aa (fun x hx=>(ae (fun e=>(aB (ah.lt hC) (le (le (le (le (le (le (le (le (le (le (le b.size j.size) d.size) l.size) o.size) f.size) p.size) q.size) h.size) r.size) s.size) i.size) a) (e▸hx)) ay)) (cD.upd8 aa (ak (ah.safe u _ (by decide)) aD))
 refine R0 13 rfl<|kL (xs:=L) (ys:=([(Obj.mk C.byteV (((C.bytesC 1).bytesC 1).bytesR ((C.bytesC 1).byteV)))])) (.agg #[.int .u8 0,.slice none 0 0]) 2 32 bs cP (by simp) cD.ones (fun w' hv=>cD.upd8 hv (bN (cg _ bs (by decide)) aD)) (by(try simp only[List.length_append,List.length_cons,List.length_nil,av]);omega) (le (le (le (le (le v.size y.size) t.size) B.size) H.size) P.size) fun bt bu dV bv bw=>aZ trivial fun bz=>Rt 14 bz<|Rt 15 bz<|?_
 have bA:=ut (ax.mono (S':=(ob A++[])) P aq) bw (ag il aq)
 have bB:=ax.blk bA (aG (aB (al hm) (le (le (le (le (le (le (le (le (le (le (le b.size j.size) d.size) l.size) o.size) f.size) p.size) q.size) h.size) r.size) s.size) i.size) a) ay) a9
 refine R0 16 rfl<|cn bB 21 (mG c 0 0 0 0 0 0 0 0 0 0 0 nS nS nS nS me kd C0.byteV x25.byteV x44.byteV (.slice bt ((L++[(Obj.mk C.byteV (((C.bytesC 1).bytesC 1).bytesR ((C.bytesC 1).byteV)))]).length) bu)) fun dW cQ Q=>aZ trivial fun dX=>re<|bn<|tn<|go<|L0<|Oi (((k:Nat) : Int)+1)<|Pl 1<|nl<|?_
 subst bq
 exact er ((k+1),(((C.bytesC 1).bytesC 1).bytesC ((C.bytesC 1).byteV)),(L++[(Obj.mk C.byteV (((C.bytesC 1).bytesC 1).bytesR ((C.bytesC 1).byteV)))]),bt,bu) ⟨(ut v (ut (ax.mono (S':=(g :: (ob A++(gm :: [])))) aa (ac im aq)) (u1 (ax.mono (S':=(ob A++(gm :: []))) bw (ag il aq)) Q im) (ag il (ac im aq))) (ac im (ag (aI a lr) (ac im aq)))),(ah.upd br (u1 (ax.mono (S':=(ob A++(gm :: []))) bA (ag il aq)) Q im) (aG (aB (ah.lt hC) (le (le (le (le (le (le (le (le (le (le (le b.size j.size) d.size) l.size) o.size) f.size) p.size) q.size) h.size) r.size) s.size) i.size) a) (ae hne ay)) (bN (cg _ (aj a O (fun x hx=>(ae (fun e=>(aB (ah.lt hC) (le (le (le (le (le (le (le (le (le (le (le b.size j.size) d.size) l.size) o.size) f.size) p.size) q.size) h.size) r.size) s.size) i.size) a) (e▸hx)) ay)) (cD.upd8 O (ak (ah.safe u _ (by decide)) aD))) (by decide)) (ak (aL a9 (by decide)) aD))),cQ,(aj bv Q (fun x hx=>(ae (fun e=>(aB (al hm) (le (le (le (le (le (le (le (le (le (le (le b.size j.size) d.size) l.size) o.size) f.size) p.size) q.size) h.size) r.size) s.size) i.size) bv) (e▸hx)) ay)) (cD.upd8 Q (ak (aL bB (by decide)) aD))),(by(try dsimp only);omega),(by(try dsimp only);rw[← hobj,show x62.byteV.toNat-k=(x62.byteV.toNat-(k+1))+1 from by omega];rfl),(by(try dsimp only);(try simp only[List.length_append,List.length_cons,List.length_nil]);omega)⟩ (by omega)
 refine  cF (m:=1) (e:=85) #[.int .u8 C.byteV,.slice bm ((((C.bytesC 1).bytesC 1).bytesR ((C.bytesC 1).byteV)).length) bo] fun dY dZ e0 cR S=>?_
 have cS:=pK (R:=cD true) (x:=(Obj.mk C.byteV (((C.bytesC 1).bytesC 1).bytesR ((C.bytesC 1).byteV)))) cR rfl ⟨_,rfl,(aQ.upd' bp S aD),b8 (by omega)⟩
 refine aZ trivial fun e1=>?_
 have T:=u1 y (uz t (u1 B (aE H S) im)) im
 have bC:=aY T (Ne.symm hne) D
 refine R0 4 rfl<|aN bC 21<|aZ trivial fun e2=>?_
 have bD:=aj a T (fun x hx=>(ae (fun e=>(aB (ah.lt hC) (le (le (le (le (le (le (le (le (le (le (le b.size j.size) d.size) l.size) o.size) f.size) p.size) q.size) h.size) r.size) s.size) i.size) a) (e▸hx)) ay)) (cD.upd8 T (ak (ah.safe u _ (by decide)) aD))
 refine R0 13 rfl<|kL (xs:=L) (ys:=([(Obj.mk C.byteV (((C.bytesC 1).bytesC 1).bytesR ((C.bytesC 1).byteV)))])) (.agg #[.int .u8 0,.slice none 0 0]) 2 32 bD cS (by simp) cD.ones (fun w' hv=>cD.upd8 hv (bN (cg _ bD (by decide)) aD)) (by(try simp only[List.length_append,List.length_cons,List.length_nil,av]);omega) (le (le (le (le (le v.size y.size) t.size) B.size) H.size) S.size) fun bF bH e3 bI bJ=>aZ trivial fun bK=>Rt 14 bK<|Rt 15 bK<|?_
 have bL:=ax.blk bJ (aG (aB (al hm) (le (le (le (le (le (le (le (le (le (le (le b.size j.size) d.size) l.size) o.size) f.size) p.size) q.size) h.size) r.size) s.size) i.size) a) ay) bC
 refine R0 16 rfl<|cn bL 21 (mG c 0 0 0 0 0 0 0 0 0 0 0 nS nS nS nS me kd C0.byteV x25.byteV x44.byteV (.slice bF ((L++[(Obj.mk C.byteV (((C.bytesC 1).bytesC 1).bytesR ((C.bytesC 1).byteV)))]).length) bH)) fun e4 cT ad=>aZ trivial fun e5=>re<|bn<|tn<|go<|L0<|Oi (((k:Nat) : Int)+1)<|Pl 1<|nl<|?_
 subst bq
 have bM:=u1 (ax.mono (S':=(ob A++(gm :: []))) bJ (ag il aq)) ad im
 have af:=u1 y (uz t (u1 B H im)) im
 exact er ((k+1),(((C.bytesC 1).bytesC 1).bytesC ((C.bytesC 1).byteV)),(L++[(Obj.mk C.byteV (((C.bytesC 1).bytesC 1).bytesR ((C.bytesC 1).byteV)))]),bF,bH) ⟨(ut v (ut (ax.mono (S':=(g :: (ob A++(gm :: [])))) T (ac im aq)) bM (ag il (ac im aq))) (ac im (ag (aI a lr) (ac im aq)))),(ah.upd br (ut (ax.mono (S':=(ob A++(gm :: []))) S aq) bM (ag il (ac im aq))) (aG (aB (ah.lt hC) (le (le (le (le (le (le (le (le (le (le (le b.size j.size) d.size) l.size) o.size) f.size) p.size) q.size) h.size) r.size) s.size) i.size) a) (ae hne ay)) (bN (cg _ (aj a af (fun x hx=>(ae (fun e=>(aB (ah.lt hC) (le (le (le (le (le (le (le (le (le (le (le b.size j.size) d.size) l.size) o.size) f.size) p.size) q.size) h.size) r.size) s.size) i.size) a) (e▸hx)) ay)) (cD.upd8 af (ak (ah.safe u _ (by decide)) aD))) (by decide)) (ak (aL (aY af (Ne.symm hne) D) (by decide)) aD))),cT,(aj bI ad (fun x hx=>(ae (fun e=>(aB (al hm) (le (le (le (le (le (le (le (le (le (le (le b.size j.size) d.size) l.size) o.size) f.size) p.size) q.size) h.size) r.size) s.size) i.size) bI) (e▸hx)) ay)) (cD.upd8 ad (ak (aL bL (by decide)) aD))),(by(try dsimp only);omega),(by(try dsimp only);rw[← hobj,show x62.byteV.toNat-k=(x62.byteV.toNat-(k+1))+1 from by omega];rfl),(by(try dsimp only);(try simp only[List.length_append,List.length_cons,List.length_nil]);omega)⟩ (by omega)
 have cj:=of_decide_eq_false Y
 refine xt<|tx<|tx<|bx<|rm (.tuple #[])<|?_
 subst c8 c3 bY bR
 have hf:eH kd C0=(C,L):=by
   have h1:iL ((((((C0.bytesC 1).need (bO C0.byteV) 6).bytesC 1).need ((((C0.bytesC 1).need (bO C0.byteV) 6).byteV==0)||(((C0.bytesC 1).need (bO C0.byteV) 6).byteV==255)) 6).bytesC 1).need ((((C0.bytesC 1).need (bO C0.byteV) 6).byteV != 0)||(((((C0.bytesC 1).need (bO C0.byteV) 6).bytesC 1).need ((((C0.bytesC 1).need (bO C0.byteV) 6).byteV==0)||(((C0.bytesC 1).need (bO C0.byteV) 6).byteV==255)) 6).byteV==0)) 6).byteV.toNat ((((((((C0.bytesC 1).need (bO C0.byteV) 6).bytesC 1).need ((((C0.bytesC 1).need (bO C0.byteV) 6).byteV==0)||(((C0.bytesC 1).need (bO C0.byteV) 6).byteV==255)) 6).bytesC 1).need ((((C0.bytesC 1).need (bO C0.byteV) 6).byteV != 0)||(((((C0.bytesC 1).need (bO C0.byteV) 6).bytesC 1).need ((((C0.bytesC 1).need (bO C0.byteV) 6).byteV==0)||(((C0.bytesC 1).need (bO C0.byteV) 6).byteV==255)) 6).byteV==0)) 6).bytesC 1).need ((kd != 4)||(((((((C0.bytesC 1).need (bO C0.byteV) 6).bytesC 1).need ((((C0.bytesC 1).need (bO C0.byteV) 6).byteV==0)||(((C0.bytesC 1).need (bO C0.byteV) 6).byteV==255)) 6).bytesC 1).need ((((C0.bytesC 1).need (bO C0.byteV) 6).byteV != 0)||(((((C0.bytesC 1).need (bO C0.byteV) 6).bytesC 1).need ((((C0.bytesC 1).need (bO C0.byteV) 6).byteV==0)||(((C0.bytesC 1).need (bO C0.byteV) 6).byteV==255)) 6).byteV==0)) 6).byteV==1)) 5) []=(C,L):=by
     rw[← hobj,show((((((C0.bytesC 1).need (bO C0.byteV) 6).bytesC 1).need ((((C0.bytesC 1).need (bO C0.byteV) 6).byteV==0)||(((C0.bytesC 1).need (bO C0.byteV) 6).byteV==255)) 6).bytesC 1).need ((((C0.bytesC 1).need (bO C0.byteV) 6).byteV != 0)||(((((C0.bytesC 1).need (bO C0.byteV) 6).bytesC 1).need ((((C0.bytesC 1).need (bO C0.byteV) 6).byteV==0)||(((C0.bytesC 1).need (bO C0.byteV) 6).byteV==255)) 6).byteV==0)) 6).byteV.toNat-k=0 from by omega]
     rfl
   exact h1
 rw[hf]
 exact⟨rfl,u,⟨_,⟨D,rfl⟩,⟨_,_,_,_,_,rfl,aO.nil ..,aO.nil ..,aO.nil ..,aO.nil ..,(a).rd,⟨(b8 (x:=c) (by omega)),(b8 (x:=0) (by omega)),(aK (x:=0) (by omega)),(aK (x:=0) (by omega)),(aK (x:=0) (by omega)),(aK (x:=0) (by omega)),(aK (x:=0) (by omega)),(aK (x:=0) (by omega)),(aK (x:=0) (by omega)),(aK (x:=0) (by omega)),(aK (x:=0) (by omega)),(aK (x:=0) (by omega)),(b8 (x:=me) (by omega)),(b8 (x:=kd) (by omega)),(b8 (x:=C0.byteV) (by omega)),(b8 (x:=((C0.bytesC 1).need (bO C0.byteV) 6).byteV) (by omega)),(b8 (x:=((((C0.bytesC 1).need (bO C0.byteV) 6).bytesC 1).need ((((C0.bytesC 1).need (bO C0.byteV) 6).byteV==0)||(((C0.bytesC 1).need (bO C0.byteV) 6).byteV==255)) 6).byteV) (by omega))⟩⟩⟩,(ui b (ui an (ui ao (ui f (ui aw (ui h (ui aM (ui i v))))))))⟩
open Go.RowKit
def fC (C:ap) : ap:=(C.bytesC 1).need (C.byteV==13 || C.byteV==14) 8
def ic (C:ap) : ap:=(fC C).need (decide (((fC C).l.length:Int)≤251)) 5
def gq (C:ap) : ap:=((fC C).bytesC 1).need (decide (1≤(fC C).byteV)&&decide ((fC C).byteV≤4)) 6
def bK (dir c:Int)(C:ap) : Option (ap × aV) :=
  if c != 43 then none
  else if C.byteV==13 then some ((ic C).bytesC ((ic C).l.length:Int),{ aV.zero with code:=c,mei:=C.byteV,data:=(ic C).bytesR ((ic C).l.length:Int) })
  else if dir==1 then some ((eH (fC C).byteV (gq C)).1,{ aV.zero with code:=c,mei:=C.byteV,kind:=(fC C).byteV,level:=(gq C).byteV,more:=(o3 (gq C)).byteV,next:=(sn (gq C)).byteV,objects:=(eH (fC C).byteV (gq C)).2 })
  else some ((gq C).bytesC 1,{ aV.zero with code:=c,mei:=C.byteV,kind:=(fC C).byteV,next:=(gq C).byteV })
theorem o8{m:Bool}{A:Option Addr}{cp:Nat}{b:List Int}{w:World}{c:Int}(hcode:B8 c)(hsl:aQ m w (.slice A b.length cp) b)(hb:b.length≤1048576) :
    Calls Tryz.prog 66 #[.int .i64 0,.int .u8 c,.slice A b.length cp] w (dl (au bK 0 c b) w):=by
 obtain⟨hcode1,hcode2⟩:=hcode
 have hln:(b.length:Int)≤1048576:=by omega
 refine en 81 Tryz.func66 rfl<|sg<|L0<|bI mZ fun O be q i j=>Pl 1<|nt<|sq<|bk<|sg<|Pl 7<|nt<|?_
 refine c0<|sg<|Pl 3<|nt<|cb ((c != 43)) (fun f=>?_) (fun f=>?_)
 have ao:=aA f
 refine sg<|Pl 1<|L0<|bf i mZ fun bg ar av=>Pl 1<|nt<|rt<|br<|tr<|cU ar (.int .i64 4)<|?_
 have hs:au bK 0 c b=(aV.zero,4):=by
   unfold au bK ic gq fC
   (try simp only[f,bs,if_true,if_false,decide_true,decide_false,eq_self,true_or,or_true,or_false,false_or,if_true,if_false,dt,du,dv,dy,reduceIte])
   all_goals rfl
 rw[hs]
 exact bW (ud j av q)
 have ao:=ai f
 refine sk<|bn<|tn<|sg<|Pl 1<|?_
 refine L0<|Oc<|e3 (d9 (aQ.old hsl j) (by omega)) fun P bh a Q k=>Pl 1<|ng<|Pl 2<|L0<|Oc<|m3 (bE Q) fun bm aw g bo=>Pl 1<|L0<|bI mZ fun R bp h aB aF=>L0<|bf aB (mG c 0 0 0 0 0 0 0 0 0 0 0 nS nS nS nS ((ap.mk b false 0).byteV) 0 0 0 0 nS) fun bq E aG=>nt<|sq<|?_
 refine go<|Pl 2<|L0<|aN E 16<|Pl 2<|cu 4 [33] 37 (((((ap.mk b false 0).byteV)==13)||(((ap.mk b false 0).byteV)==14))) (fun K S=>?_) ?_
 refine bl 33 ((((ap.mk b false 0).byteV)==13)) (fun r=>?_) (fun r=>?_)
 have aH:=az r
 exact Pl 4<|ce S true (by rw[r];rfl)
 have aH:=aC r
 exact Pl 1<|L1<|aN E 16<|Pl 2<|ce S (((ap.mk b false 0).byteV)==14) (by rw[r];rfl)
 have T:=ud aF aG h
 refine L0<|Oc<|m2 (aU (((((ap.mk b false 0).byteV)==13)||(((ap.mk b false 0).byteV)==14))) 8 (ah.old aw T)) fun bt aI U=>?_
 refine ab aI fun jq v y=>?_
 refine nt<|sq<|sg<|Pl 1<|?_
 have d:=nb (ah.lt Q) g.size h
 have F:=aY U (Ne.symm d) E
 refine L0<|aN F 16<|Pl 1<|nt<|?_
 have o:=ud k (u1 g (uz T U) im) a
 have V:=aE j o
 refine cb ((((ap.mk b false 0).byteV)==13)) (fun p=>?_) (fun p=>?_)
 have aJ:=az p
 refine sg<|Pl 2<|L0<|Oc<|mq (dq y)<|?_
 have bu:=ah.len y
 refine Pl 1<|L0<|Oc<|m2 (aU ((decide (((jq.l.length:Nat) : Int)≤251))) 5 y) fun bv aM aP=>?_
 refine ab aM fun x59 W z=>?_
 refine nt<|go<|Pl 2<|L0<|Oc<|mq (dq z)<|?_
 have bw:=ah.len z
 refine L0<|Oc<|tv (bS (n:=((x59.l.length:Nat) : Int)) z) fun X Y bx Z bz bA aR aS=>?_
 have bB:=Nat.le_trans (ap.bytesR_le x59 ((x59.l.length:Nat) : Int)) (ah.len z)
 refine ab aR fun x69 a0 G=>?_
 refine Pl 1<|?_
 have B:=u1 aP aS im
 have C:=aY B (Ne.symm d) F
 refine L0<|cn C 14 (mG c 0 0 0 0 0 0 0 0 0 0 0 nS nS (.slice X ((x59.bytesR ((x59.l.length:Nat) : Int)).length) Y) nS ((ap.mk b false 0).byteV) 0 0 0 0 nS) fun bC aT a1=>ng<|Pl 1<|?_
 refine L0<|Oc<|m2 (bP (ah.upd G a1 (ae d ay) (ak (aL C (by decide)) aD))) fun bD a2 a3=>nt<|sq<|sg<|Pl 1<|L0<|Oc<|mq (bi a2)<|?_
 have bF:=ah.len a2
 refine Pl 1<|ng<|Pl 2<|nt<|?_
 have H:=us a1 a3
 have I:=ui B H
 have a4:=ut V I (ac (ni (le (le j.size k.size) g.size) h) (ac (ni j.size a) aq))
 refine cb ((x69.endC.e != 0)) (fun s=>?_) (fun s=>?_)
 have J:=aA s
 refine sg<|Pl 2<|?_
 refine L0<|bf (ub (ut o I (ac (ni (le k.size g.size) h) (ac (nr a) aq))) i) mZ fun bH aW a5=>Pl 1<|nt<|rt<|tr<|cU aW (.int .i64 x69.endC.e)<|?_
 subst a0 W v
 have bJ:=aQ.upd' Z (u1 (ax.mono (S':=[R,P,O]) H (ac im (ac im aq))) a5 im) (ak (aL C (by decide)) (ak (ah.safe G _ (by decide)) (ak (aL (ub (ud o B a) i) (by decide)) aD)))
 have hs:au bK 0 c b=b6 (aV.mk c 0 0 0 0 0 0 0 0 0 0 0 [] [] (((((ap.mk b false 0).bytesC 1).need ((((ap.mk b false 0).byteV)==13)||(((ap.mk b false 0).byteV)==14)) 8).need (decide ((((((ap.mk b false 0).bytesC 1).need ((((ap.mk b false 0).byteV)==13)||(((ap.mk b false 0).byteV)==14)) 8).l.length:Nat) : Int)≤251)) 5).bytesR ((((((ap.mk b false 0).bytesC 1).need ((((ap.mk b false 0).byteV)==13)||(((ap.mk b false 0).byteV)==14)) 8).need (decide ((((((ap.mk b false 0).bytesC 1).need ((((ap.mk b false 0).byteV)==13)||(((ap.mk b false 0).byteV)==14)) 8).l.length:Nat) : Int)≤251)) 5).l.length:Nat) : Int)) [] ((ap.mk b false 0).byteV) 0 0 0 0 []) (((((ap.mk b false 0).bytesC 1).need ((((ap.mk b false 0).byteV)==13)||(((ap.mk b false 0).byteV)==14)) 8).need (decide ((((((ap.mk b false 0).bytesC 1).need ((((ap.mk b false 0).byteV)==13)||(((ap.mk b false 0).byteV)==14)) 8).l.length:Nat) : Int)≤251)) 5).bytesC ((((((ap.mk b false 0).bytesC 1).need ((((ap.mk b false 0).byteV)==13)||(((ap.mk b false 0).byteV)==14)) 8).need (decide ((((((ap.mk b false 0).bytesC 1).need ((((ap.mk b false 0).byteV)==13)||(((ap.mk b false 0).byteV)==14)) 8).l.length:Nat) : Int)≤251)) 5).l.length:Nat) : Int)):=by
   unfold au bK ic gq fC
   (try simp only[f,p,s,bs,if_true,if_false,decide_true,decide_false,eq_self,true_or,or_true,or_false,false_or,if_true,if_false,dt,du,dv,dy,reduceIte])
   all_goals rfl
 rw[hs]
 exact b9 J (ud a4 a5 q)
 have J:=ai s
 refine bG<|sg<|?_
 refine L0<|bZ (aY a3 (Ne.symm d) aT)<|?_
 refine L0<|bf (ub (ut o I (ac (ni (le k.size g.size) h) (ac (nr a) aq))) i) (mG c 0 0 0 0 0 0 0 0 0 0 0 nS nS (.slice X ((x59.bytesR ((x59.l.length:Nat) : Int)).length) Y) nS ((ap.mk b false 0).byteV) 0 0 0 0 nS) fun bL aX a6=>Pl 1<|nt<|rt<|cU aX (.int .i64 0)<|?_
 subst a0 W v
 have hs:au bK 0 c b=b6 (aV.mk c 0 0 0 0 0 0 0 0 0 0 0 [] [] (((((ap.mk b false 0).bytesC 1).need ((((ap.mk b false 0).byteV)==13)||(((ap.mk b false 0).byteV)==14)) 8).need (decide ((((((ap.mk b false 0).bytesC 1).need ((((ap.mk b false 0).byteV)==13)||(((ap.mk b false 0).byteV)==14)) 8).l.length:Nat) : Int)≤251)) 5).bytesR ((((((ap.mk b false 0).bytesC 1).need ((((ap.mk b false 0).byteV)==13)||(((ap.mk b false 0).byteV)==14)) 8).need (decide ((((((ap.mk b false 0).bytesC 1).need ((((ap.mk b false 0).byteV)==13)||(((ap.mk b false 0).byteV)==14)) 8).l.length:Nat) : Int)≤251)) 5).l.length:Nat) : Int)) [] ((ap.mk b false 0).byteV) 0 0 0 0 []) (((((ap.mk b false 0).bytesC 1).need ((((ap.mk b false 0).byteV)==13)||(((ap.mk b false 0).byteV)==14)) 8).need (decide ((((((ap.mk b false 0).bytesC 1).need ((((ap.mk b false 0).byteV)==13)||(((ap.mk b false 0).byteV)==14)) 8).l.length:Nat) : Int)≤251)) 5).bytesC ((((((ap.mk b false 0).bytesC 1).need ((((ap.mk b false 0).byteV)==13)||(((ap.mk b false 0).byteV)==14)) 8).need (decide ((((((ap.mk b false 0).bytesC 1).need ((((ap.mk b false 0).byteV)==13)||(((ap.mk b false 0).byteV)==14)) 8).l.length:Nat) : Int)≤251)) 5).l.length:Nat) : Int)):=by
   unfold au bK ic gq fC
   (try simp only[f,p,s,bs,if_true,if_false,decide_true,decide_false,eq_self,true_or,or_true,or_false,false_or,if_true,if_false,dt,du,dv,dy,reduceIte])
   all_goals rfl
 rw[hs]
 exact bj J ⟨_,_,_,_,_,rfl,aO.nil ..,aO.nil ..,(aQ.upd' Z (u1 (ax.mono (S':=[R,P,O]) H (ac im (ac im aq))) a6 im) (ak (aL C (by decide)) (ak (ah.safe G _ (by decide)) (ak (aL (ub (ud o B a) i) (by decide)) aD)))),aO.nil ..,aO.nil ..,⟨(b8 (x:=c) (by omega)),(b8 (x:=0) (by omega)),(aK (x:=0) (by omega)),(aK (x:=0) (by omega)),(aK (x:=0) (by omega)),(aK (x:=0) (by omega)),(aK (x:=0) (by omega)),(aK (x:=0) (by omega)),(aK (x:=0) (by omega)),(aK (x:=0) (by omega)),(aK (x:=0) (by omega)),(aK (x:=0) (by omega)),(b8 (x:=(ap.mk b false 0).byteV) (by omega)),(b8 (x:=0) (by omega)),(b8 (x:=0) (by omega)),(b8 (x:=0) (by omega)),(b8 (x:=0) (by omega))⟩⟩ (ud a4 a6 q)
 have aJ:=aC p
 refine sg<|Pl 1<|L0<|Oc<|m3 (bE y) fun bM aZ a7 bN=>Pl 1<|?_
 have a8:=aY a7 (Ne.symm d) F
 refine L0<|cn a8 17 (mG c 0 0 0 0 0 0 0 0 0 0 0 nS nS nS nS ((ap.mk b false 0).byteV) jq.byteV 0 0 0 nS) fun bO L a9=>ng<|Pl 2<|L0<|aN L 17<|Pl 2<|cu 4 [59] 63 (((decide (1≤jq.byteV))&&(decide (jq.byteV≤4)))) (fun K aa=>?_) ?_
 refine bl 59 ((decide (1≤jq.byteV))) (fun t=>?_) (fun t=>?_)
 have b0:=of_decide_eq_true t
 exact Pl 1<|L1<|aN L 17<|Pl 2<|ce aa (decide (jq.byteV≤4)) (by rw[t];rfl)
 have b0:=of_decide_eq_false t
 exact Pl 4<|ce aa false (by rw[t];rfl)
 refine L0<|Oc<|m2 (aU (((decide (1≤jq.byteV))&&(decide (jq.byteV≤4)))) 6 (ah.upd aZ a9 (ae d ay) (ak (aL a8 (by decide)) aD))) fun bQ b1 b2=>?_
 refine ab b1 fun D ad b3=>?_
 refine ng<|Pl 2<|nt<|c0<|go<|Pl 1<|L0<|Oc<|m3 (bE b3) fun bR b4 b5 bT=>Pl 1<|?_
 have af:=u1 b2 b5 im
 have ag:=aY af (Ne.symm d) L
 refine L0<|cn ag 20 (mG c 0 0 0 0 0 0 0 0 0 0 0 nS nS nS nS ((ap.mk b false 0).byteV) jq.byteV 0 0 D.byteV nS) fun bU b7 aj=>ng<|Pl 1<|?_
 refine L0<|Oc<|m2 (bP (ah.upd b4 aj (ae d ay) (ak (aL ag (by decide)) aD))) fun bV al am=>nt<|sq<|sg<|Pl 1<|L0<|Oc<|mq (bi al)<|?_
 have bX:=ah.len al
 refine Pl 1<|ng<|Pl 2<|nt<|?_
 have M:=ui a7 (ui a9 (ui af (us aj am)))
 have an:=ut V M (ac (ni (le (le j.size k.size) g.size) h) (ac (ni j.size a) aq))
 refine cb (((((D.bytesC 1).endC).e)!=0)) (fun u=>?_) (fun u=>?_)
 have N:=aA u
 refine sg<|Pl 2<|?_
 refine L0<|bf (ub (ut o M (ac (ni (le k.size g.size) h) (ac (nr a) aq))) i) mZ fun bY ba bb=>Pl 1<|nt<|rt<|tr<|cU ba (.int .i64 (((D.bytesC 1).endC).e))<|?_
 subst ad v
 have hs:au bK 0 c b=b6 (aV.mk c 0 0 0 0 0 0 0 0 0 0 0 [] [] [] [] ((ap.mk b false 0).byteV) ((((ap.mk b false 0).bytesC 1).need ((((ap.mk b false 0).byteV)==13)||(((ap.mk b false 0).byteV)==14)) 8).byteV) 0 0 ((((((ap.mk b false 0).bytesC 1).need ((((ap.mk b false 0).byteV)==13)||(((ap.mk b false 0).byteV)==14)) 8).bytesC 1).need ((decide (1≤(((ap.mk b false 0).bytesC 1).need ((((ap.mk b false 0).byteV)==13)||(((ap.mk b false 0).byteV)==14)) 8).byteV))&&(decide ((((ap.mk b false 0).bytesC 1).need ((((ap.mk b false 0).byteV)==13)||(((ap.mk b false 0).byteV)==14)) 8).byteV≤4))) 6).byteV) []) ((((((ap.mk b false 0).bytesC 1).need ((((ap.mk b false 0).byteV)==13)||(((ap.mk b false 0).byteV)==14)) 8).bytesC 1).need ((decide (1≤(((ap.mk b false 0).bytesC 1).need ((((ap.mk b false 0).byteV)==13)||(((ap.mk b false 0).byteV)==14)) 8).byteV))&&(decide ((((ap.mk b false 0).bytesC 1).need ((((ap.mk b false 0).byteV)==13)||(((ap.mk b false 0).byteV)==14)) 8).byteV≤4))) 6).bytesC 1):=by
   unfold au bK ic gq fC
   (try simp only[f,p,u,bs,if_true,if_false,decide_true,decide_false,eq_self,true_or,or_true,or_false,false_or,if_true,if_false,dt,du,dv,dy,reduceIte])
   all_goals rfl
 rw[hs]
 exact b9 N (ud an bb q)
 have N:=ai u
 refine bG<|sg<|?_
 refine L0<|bZ (aY am (Ne.symm d) b7)<|?_
 refine L0<|bf (ub (ut o M (ac (ni (le k.size g.size) h) (ac (nr a) aq))) i) (mG c 0 0 0 0 0 0 0 0 0 0 0 nS nS nS nS ((ap.mk b false 0).byteV) jq.byteV 0 0 D.byteV nS) fun c1 bc bd=>Pl 1<|nt<|rt<|cU bc (.int .i64 0)<|?_
 subst ad v
 have hs:au bK 0 c b=b6 (aV.mk c 0 0 0 0 0 0 0 0 0 0 0 [] [] [] [] ((ap.mk b false 0).byteV) ((((ap.mk b false 0).bytesC 1).need ((((ap.mk b false 0).byteV)==13)||(((ap.mk b false 0).byteV)==14)) 8).byteV) 0 0 ((((((ap.mk b false 0).bytesC 1).need ((((ap.mk b false 0).byteV)==13)||(((ap.mk b false 0).byteV)==14)) 8).bytesC 1).need ((decide (1≤(((ap.mk b false 0).bytesC 1).need ((((ap.mk b false 0).byteV)==13)||(((ap.mk b false 0).byteV)==14)) 8).byteV))&&(decide ((((ap.mk b false 0).bytesC 1).need ((((ap.mk b false 0).byteV)==13)||(((ap.mk b false 0).byteV)==14)) 8).byteV≤4))) 6).byteV) []) ((((((ap.mk b false 0).bytesC 1).need ((((ap.mk b false 0).byteV)==13)||(((ap.mk b false 0).byteV)==14)) 8).bytesC 1).need ((decide (1≤(((ap.mk b false 0).bytesC 1).need ((((ap.mk b false 0).byteV)==13)||(((ap.mk b false 0).byteV)==14)) 8).byteV))&&(decide ((((ap.mk b false 0).bytesC 1).need ((((ap.mk b false 0).byteV)==13)||(((ap.mk b false 0).byteV)==14)) 8).byteV≤4))) 6).bytesC 1):=by
   unfold au bK ic gq fC
   (try simp only[f,p,u,bs,if_true,if_false,decide_true,decide_false,eq_self,true_or,or_true,or_false,false_or,if_true,if_false,dt,du,dv,dy,reduceIte])
   all_goals rfl
 rw[hs]
 exact bj N ⟨_,_,_,_,_,rfl,aO.nil ..,aO.nil ..,aO.nil ..,aO.nil ..,aO.nil ..,⟨(b8 (x:=c) (by omega)),(b8 (x:=0) (by omega)),(aK (x:=0) (by omega)),(aK (x:=0) (by omega)),(aK (x:=0) (by omega)),(aK (x:=0) (by omega)),(aK (x:=0) (by omega)),(aK (x:=0) (by omega)),(aK (x:=0) (by omega)),(aK (x:=0) (by omega)),(aK (x:=0) (by omega)),(aK (x:=0) (by omega)),(b8 (x:=(ap.mk b false 0).byteV) (by omega)),(b8 (x:=(((ap.mk b false 0).bytesC 1).need ((((ap.mk b false 0).byteV)==13)||(((ap.mk b false 0).byteV)==14)) 8).byteV) (by omega)),(b8 (x:=0) (by omega)),(b8 (x:=0) (by omega)),(b8 (x:=(((((ap.mk b false 0).bytesC 1).need ((((ap.mk b false 0).byteV)==13)||(((ap.mk b false 0).byteV)==14)) 8).bytesC 1).need ((decide (1≤(((ap.mk b false 0).bytesC 1).need ((((ap.mk b false 0).byteV)==13)||(((ap.mk b false 0).byteV)==14)) 8).byteV))&&(decide ((((ap.mk b false 0).bytesC 1).need ((((ap.mk b false 0).byteV)==13)||(((ap.mk b false 0).byteV)==14)) 8).byteV≤4))) 6).byteV) (by omega))⟩⟩ (ud an bd q)
theorem nq{m:Bool}{A:Option Addr}{cp:Nat}{b:List Int}{w:World}{c:Int}(hcode:B8 c)(hsl:aQ m w (.slice A b.length cp) b)(hb:b.length≤1048576) :
    Calls Tryz.prog 66 #[.int .i64 1,.int .u8 c,.slice A b.length cp] w (dl (au bK 1 c b) w):=by
 obtain⟨hcode1,hcode2⟩:=hcode
 have hln:(b.length:Int)≤1048576:=by omega
 refine en 81 Tryz.func66 rfl<|sg<|L0<|bI mZ fun T bo q h o=>Pl 1<|nt<|sq<|bk<|sg<|Pl 7<|nt<|?_
 refine c0<|sg<|Pl 3<|nt<|cb ((c != 43)) (fun i=>?_) (fun i=>?_)
 have aB:=aA i
 refine sg<|Pl 1<|L0<|bf h mZ fun bp aG aH=>Pl 1<|nt<|rt<|br<|tr<|cU aG (.int .i64 4)<|?_
 have hs:au bK 1 c b=(aV.zero,4):=by
   unfold au bK ic gq fC
   (try simp only[i,bs,if_true,if_false,decide_true,decide_false,eq_self,true_or,or_true,or_false,false_or,if_true,if_false,dt,du,dv,dy,reduceIte])
   all_goals rfl
 rw[hs]
 exact bW (ud o aH q)
 have aB:=ai i
 refine sk<|bn<|tn<|sg<|Pl 1<|?_
 refine L0<|Oc<|e3 (d9 (aQ.old hsl o) (by omega)) fun U bq a V j=>Pl 1<|ng<|Pl 2<|L0<|Oc<|m3 (bE V) fun bt aI d bu=>Pl 1<|L0<|bI mZ fun W bv f aJ aM=>L0<|bf aJ (mG c 0 0 0 0 0 0 0 0 0 0 0 nS nS nS nS ((ap.mk b false 0).byteV) 0 0 0 0 nS) fun bw E aP=>nt<|sq<|?_
 refine go<|Pl 2<|L0<|aN E 16<|Pl 2<|cu 4 [33] 37 (((((ap.mk b false 0).byteV)==13)||(((ap.mk b false 0).byteV)==14))) (fun K X=>?_) ?_
 refine bl 33 ((((ap.mk b false 0).byteV)==13)) (fun r=>?_) (fun r=>?_)
 have aR:=az r
 exact Pl 4<|ce X true (by rw[r];rfl)
 have aR:=aC r
 exact Pl 1<|L1<|aN E 16<|Pl 2<|ce X (((ap.mk b false 0).byteV)==14) (by rw[r];rfl)
 have Y:=ud aM aP f
 refine L0<|Oc<|m2 (aU (((((ap.mk b false 0).byteV)==13)||(((ap.mk b false 0).byteV)==14))) 8 (ah.old aI Y)) fun bx aS Z=>?_
 refine ab aS fun jq v y=>?_
 refine nt<|sq<|sg<|Pl 1<|?_
 have g:=nb (ah.lt V) d.size f
 have F:=aY Z (Ne.symm g) E
 refine L0<|aN F 16<|Pl 1<|nt<|?_
 have k:=ud j (u1 d (uz Y Z) im) a
 have a0:=aE o k
 refine cb ((((ap.mk b false 0).byteV)==13)) (fun p=>?_) (fun p=>?_)
 have aW:=az p
 refine sg<|Pl 2<|L0<|Oc<|mq (dq y)<|?_
 have bz:=ah.len y
 refine Pl 1<|L0<|Oc<|m2 (aU ((decide (((jq.l.length:Nat) : Int)≤251))) 5 y) fun bA aX aZ=>?_
 refine ab aX fun x59 a1 z=>?_
 refine nt<|go<|Pl 2<|L0<|Oc<|mq (dq z)<|?_
 have bB:=ah.len z
 refine L0<|Oc<|tv (bS (n:=((x59.l.length:Nat) : Int)) z) fun a2 a3 bC a4 bD bF b0 b1=>?_
 have bH:=Nat.le_trans (ap.bytesR_le x59 ((x59.l.length:Nat) : Int)) (ah.len z)
 refine ab b0 fun x69 a5 G=>?_
 refine Pl 1<|?_
 have B:=u1 aZ b1 im
 have C:=aY B (Ne.symm g) F
 refine L0<|cn C 14 (mG c 0 0 0 0 0 0 0 0 0 0 0 nS nS (.slice a2 ((x59.bytesR ((x59.l.length:Nat) : Int)).length) a3) nS ((ap.mk b false 0).byteV) 0 0 0 0 nS) fun bJ b2 a6=>ng<|Pl 1<|?_
 refine L0<|Oc<|m2 (bP (ah.upd G a6 (ae g ay) (ak (aL C (by decide)) aD))) fun bL a7 a8=>nt<|sq<|sg<|Pl 1<|L0<|Oc<|mq (bi a7)<|?_
 have bM:=ah.len a7
 refine Pl 1<|ng<|Pl 2<|nt<|?_
 have H:=us a6 a8
 have I:=ui B H
 have a9:=ut a0 I (ac (ni (le (le o.size j.size) d.size) f) (ac (ni o.size a) aq))
 refine cb ((x69.endC.e != 0)) (fun s=>?_) (fun s=>?_)
 have J:=aA s
 refine sg<|Pl 2<|?_
 refine L0<|bf (ub (ut k I (ac (ni (le j.size d.size) f) (ac (nr a) aq))) h) mZ fun bN b3 aa=>Pl 1<|nt<|rt<|tr<|cU b3 (.int .i64 x69.endC.e)<|?_
 subst a5 a1 v
 have bO:=aQ.upd' a4 (u1 (ax.mono (S':=[W,U,T]) H (ac im (ac im aq))) aa im) (ak (aL C (by decide)) (ak (ah.safe G _ (by decide)) (ak (aL (ub (ud k B a) h) (by decide)) aD)))
 have hs:au bK 1 c b=b6 (aV.mk c 0 0 0 0 0 0 0 0 0 0 0 [] [] (((((ap.mk b false 0).bytesC 1).need ((((ap.mk b false 0).byteV)==13)||(((ap.mk b false 0).byteV)==14)) 8).need (decide ((((((ap.mk b false 0).bytesC 1).need ((((ap.mk b false 0).byteV)==13)||(((ap.mk b false 0).byteV)==14)) 8).l.length:Nat) : Int)≤251)) 5).bytesR ((((((ap.mk b false 0).bytesC 1).need ((((ap.mk b false 0).byteV)==13)||(((ap.mk b false 0).byteV)==14)) 8).need (decide ((((((ap.mk b false 0).bytesC 1).need ((((ap.mk b false 0).byteV)==13)||(((ap.mk b false 0).byteV)==14)) 8).l.length:Nat) : Int)≤251)) 5).l.length:Nat) : Int)) [] ((ap.mk b false 0).byteV) 0 0 0 0 []) (((((ap.mk b false 0).bytesC 1).need ((((ap.mk b false 0).byteV)==13)||(((ap.mk b false 0).byteV)==14)) 8).need (decide ((((((ap.mk b false 0).bytesC 1).need ((((ap.mk b false 0).byteV)==13)||(((ap.mk b false 0).byteV)==14)) 8).l.length:Nat) : Int)≤251)) 5).bytesC ((((((ap.mk b false 0).bytesC 1).need ((((ap.mk b false 0).byteV)==13)||(((ap.mk b false 0).byteV)==14)) 8).need (decide ((((((ap.mk b false 0).bytesC 1).need ((((ap.mk b false 0).byteV)==13)||(((ap.mk b false 0).byteV)==14)) 8).l.length:Nat) : Int)≤251)) 5).l.length:Nat) : Int)):=by
   unfold au bK ic gq fC
   (try simp only[i,p,s,bs,if_true,if_false,decide_true,decide_false,eq_self,true_or,or_true,or_false,false_or,if_true,if_false,dt,du,dv,dy,reduceIte])
   all_goals rfl
 rw[hs]
 exact b9 J (ud a9 aa q)
 have J:=ai s
 refine bG<|sg<|?_
 refine L0<|bZ (aY a8 (Ne.symm g) b2)<|?_
 refine L0<|bf (ub (ut k I (ac (ni (le j.size d.size) f) (ac (nr a) aq))) h) (mG c 0 0 0 0 0 0 0 0 0 0 0 nS nS (.slice a2 ((x59.bytesR ((x59.l.length:Nat) : Int)).length) a3) nS ((ap.mk b false 0).byteV) 0 0 0 0 nS) fun bQ b4 ad=>Pl 1<|nt<|rt<|cU b4 (.int .i64 0)<|?_
 subst a5 a1 v
 have hs:au bK 1 c b=b6 (aV.mk c 0 0 0 0 0 0 0 0 0 0 0 [] [] (((((ap.mk b false 0).bytesC 1).need ((((ap.mk b false 0).byteV)==13)||(((ap.mk b false 0).byteV)==14)) 8).need (decide ((((((ap.mk b false 0).bytesC 1).need ((((ap.mk b false 0).byteV)==13)||(((ap.mk b false 0).byteV)==14)) 8).l.length:Nat) : Int)≤251)) 5).bytesR ((((((ap.mk b false 0).bytesC 1).need ((((ap.mk b false 0).byteV)==13)||(((ap.mk b false 0).byteV)==14)) 8).need (decide ((((((ap.mk b false 0).bytesC 1).need ((((ap.mk b false 0).byteV)==13)||(((ap.mk b false 0).byteV)==14)) 8).l.length:Nat) : Int)≤251)) 5).l.length:Nat) : Int)) [] ((ap.mk b false 0).byteV) 0 0 0 0 []) (((((ap.mk b false 0).bytesC 1).need ((((ap.mk b false 0).byteV)==13)||(((ap.mk b false 0).byteV)==14)) 8).need (decide ((((((ap.mk b false 0).bytesC 1).need ((((ap.mk b false 0).byteV)==13)||(((ap.mk b false 0).byteV)==14)) 8).l.length:Nat) : Int)≤251)) 5).bytesC ((((((ap.mk b false 0).bytesC 1).need ((((ap.mk b false 0).byteV)==13)||(((ap.mk b false 0).byteV)==14)) 8).need (decide ((((((ap.mk b false 0).bytesC 1).need ((((ap.mk b false 0).byteV)==13)||(((ap.mk b false 0).byteV)==14)) 8).l.length:Nat) : Int)≤251)) 5).l.length:Nat) : Int)):=by
   unfold au bK ic gq fC
   (try simp only[i,p,s,bs,if_true,if_false,decide_true,decide_false,eq_self,true_or,or_true,or_false,false_or,if_true,if_false,dt,du,dv,dy,reduceIte])
   all_goals rfl
 rw[hs]
 exact bj J ⟨_,_,_,_,_,rfl,aO.nil ..,aO.nil ..,(aQ.upd' a4 (u1 (ax.mono (S':=[W,U,T]) H (ac im (ac im aq))) ad im) (ak (aL C (by decide)) (ak (ah.safe G _ (by decide)) (ak (aL (ub (ud k B a) h) (by decide)) aD)))),aO.nil ..,aO.nil ..,⟨(b8 (x:=c) (by omega)),(b8 (x:=0) (by omega)),(aK (x:=0) (by omega)),(aK (x:=0) (by omega)),(aK (x:=0) (by omega)),(aK (x:=0) (by omega)),(aK (x:=0) (by omega)),(aK (x:=0) (by omega)),(aK (x:=0) (by omega)),(aK (x:=0) (by omega)),(aK (x:=0) (by omega)),(aK (x:=0) (by omega)),(b8 (x:=(ap.mk b false 0).byteV) (by omega)),(b8 (x:=0) (by omega)),(b8 (x:=0) (by omega)),(b8 (x:=0) (by omega)),(b8 (x:=0) (by omega))⟩⟩ (ud a9 ad q)
 have aW:=aC p
 refine sg<|Pl 1<|L0<|Oc<|m3 (bE y) fun bR b5 L bT=>Pl 1<|?_
 have af:=aY L (Ne.symm g) F
 refine L0<|cn af 17 (mG c 0 0 0 0 0 0 0 0 0 0 0 nS nS nS nS ((ap.mk b false 0).byteV) jq.byteV 0 0 0 nS) fun bU M N=>ng<|Pl 2<|L0<|aN M 17<|Pl 2<|cu 4 [59] 63 (((decide (1≤jq.byteV))&&(decide (jq.byteV≤4)))) (fun K ag=>?_) ?_
 refine bl 59 ((decide (1≤jq.byteV))) (fun t=>?_) (fun t=>?_)
 have b7:=of_decide_eq_true t
 exact Pl 1<|L1<|aN M 17<|Pl 2<|ce ag (decide (jq.byteV≤4)) (by rw[t];rfl)
 have b7:=of_decide_eq_false t
 exact Pl 4<|ce ag false (by rw[t];rfl)
 refine L0<|Oc<|m2 (aU (((decide (1≤jq.byteV))&&(decide (jq.byteV≤4)))) 6 (ah.upd b5 N (ae g ay) (ak (aL af (by decide)) aD))) fun bV ba O=>?_
 refine ab ba fun bX aj bb=>?_
 refine ng<|Pl 2<|nt<|c1<|go<|Pl 1<|?_
 refine L0<|Oc<|m3 (pQ (c:=c) (me:=(ap.mk b false 0).byteV) (kd:=jq.byteV) ⟨hcode1,hcode2⟩ (b8 (by omega)) (b8 (by omega)) bb (aY O (Ne.symm g) M) g) fun bY al bc am=>?_
 obtain⟨bd,D,P⟩:=bc
 refine ng<|Pl 1<|L0<|Oc<|m2 (bP al) fun c2 be Q=>?_
 refine ab be fun an ao ar=>?_
 refine nt<|sq<|sg<|Pl 1<|L0<|Oc<|mq (bi ar)<|?_
 have c3:=ah.len ar
 refine Pl 1<|ng<|Pl 2<|nt<|?_
 have R:=ui L (ui N (ui O (u1 am Q im)))
 have av:=ut a0 R (ac (ni o.size a) (ac (ni (le (le o.size j.size) d.size) f) aq))
 refine cb ((an.e != 0)) (fun u=>?_) (fun u=>?_)
 have S:=aA u
 refine sg<|Pl 2<|?_
 refine L0<|bf (ub (ut k R (ac (nr a) (ac (ni (le j.size d.size) f) aq))) h) mZ fun c4 bg bh=>Pl 1<|nt<|rt<|tr<|cU bg (.int .i64 an.e)<|?_
 subst ao aj v
 have hs:au bK 1 c b=b6 ({ aV.zero with code:=c,mei:=(ap.mk b false 0).byteV,kind:=(((ap.mk b false 0).bytesC 1).need ((((ap.mk b false 0).byteV)==13)||(((ap.mk b false 0).byteV)==14)) 8).byteV,level:=(((((ap.mk b false 0).bytesC 1).need ((((ap.mk b false 0).byteV)==13)||(((ap.mk b false 0).byteV)==14)) 8).bytesC 1).need ((decide (1≤(((ap.mk b false 0).bytesC 1).need ((((ap.mk b false 0).byteV)==13)||(((ap.mk b false 0).byteV)==14)) 8).byteV))&&(decide ((((ap.mk b false 0).bytesC 1).need ((((ap.mk b false 0).byteV)==13)||(((ap.mk b false 0).byteV)==14)) 8).byteV≤4))) 6).byteV,more:=(o3 (((((ap.mk b false 0).bytesC 1).need ((((ap.mk b false 0).byteV)==13)||(((ap.mk b false 0).byteV)==14)) 8).bytesC 1).need ((decide (1≤(((ap.mk b false 0).bytesC 1).need ((((ap.mk b false 0).byteV)==13)||(((ap.mk b false 0).byteV)==14)) 8).byteV))&&(decide ((((ap.mk b false 0).bytesC 1).need ((((ap.mk b false 0).byteV)==13)||(((ap.mk b false 0).byteV)==14)) 8).byteV≤4))) 6)).byteV,next:=(sn (((((ap.mk b false 0).bytesC 1).need ((((ap.mk b false 0).byteV)==13)||(((ap.mk b false 0).byteV)==14)) 8).bytesC 1).need ((decide (1≤(((ap.mk b false 0).bytesC 1).need ((((ap.mk b false 0).byteV)==13)||(((ap.mk b false 0).byteV)==14)) 8).byteV))&&(decide ((((ap.mk b false 0).bytesC 1).need ((((ap.mk b false 0).byteV)==13)||(((ap.mk b false 0).byteV)==14)) 8).byteV≤4))) 6)).byteV,objects:=(eH (((ap.mk b false 0).bytesC 1).need ((((ap.mk b false 0).byteV)==13)||(((ap.mk b false 0).byteV)==14)) 8).byteV (((((ap.mk b false 0).bytesC 1).need ((((ap.mk b false 0).byteV)==13)||(((ap.mk b false 0).byteV)==14)) 8).bytesC 1).need ((decide (1≤(((ap.mk b false 0).bytesC 1).need ((((ap.mk b false 0).byteV)==13)||(((ap.mk b false 0).byteV)==14)) 8).byteV))&&(decide ((((ap.mk b false 0).bytesC 1).need ((((ap.mk b false 0).byteV)==13)||(((ap.mk b false 0).byteV)==14)) 8).byteV≤4))) 6)).2 }) ((eH (((ap.mk b false 0).bytesC 1).need ((((ap.mk b false 0).byteV)==13)||(((ap.mk b false 0).byteV)==14)) 8).byteV (((((ap.mk b false 0).bytesC 1).need ((((ap.mk b false 0).byteV)==13)||(((ap.mk b false 0).byteV)==14)) 8).bytesC 1).need ((decide (1≤(((ap.mk b false 0).bytesC 1).need ((((ap.mk b false 0).byteV)==13)||(((ap.mk b false 0).byteV)==14)) 8).byteV))&&(decide ((((ap.mk b false 0).bytesC 1).need ((((ap.mk b false 0).byteV)==13)||(((ap.mk b false 0).byteV)==14)) 8).byteV≤4))) 6)).1):=by
   unfold au bK ic gq fC
   (try simp only[i,p,u,bs,if_true,if_false,decide_true,decide_false,eq_self,true_or,or_true,or_false,false_or,if_true,if_false,dt,du,dv,dy,reduceIte])
   all_goals rfl
 rw[hs]
 exact b9 S (ud av bh q)
 have S:=ai u
 refine bG<|sg<|?_
 refine L0<|bZ (hz:=(by rw[D.2];exact aT)) (aY Q (Ne.symm g) D.1)<|?_
 refine L0<|bf (hz:=(by rw[D.2];exact aT)) (hv:=P.size) (h1:=P.one) (ub (ut k R (ac (nr a) (ac (ni (le j.size d.size) f) aq))) h) (bd) fun c5 bm aw=>Pl 1<|nt<|rt<|eU 22 D.2 bm (.int .i64 0)<|?_
 subst ao aj v
 have hs:au bK 1 c b=b6 ({ aV.zero with code:=c,mei:=(ap.mk b false 0).byteV,kind:=(((ap.mk b false 0).bytesC 1).need ((((ap.mk b false 0).byteV)==13)||(((ap.mk b false 0).byteV)==14)) 8).byteV,level:=(((((ap.mk b false 0).bytesC 1).need ((((ap.mk b false 0).byteV)==13)||(((ap.mk b false 0).byteV)==14)) 8).bytesC 1).need ((decide (1≤(((ap.mk b false 0).bytesC 1).need ((((ap.mk b false 0).byteV)==13)||(((ap.mk b false 0).byteV)==14)) 8).byteV))&&(decide ((((ap.mk b false 0).bytesC 1).need ((((ap.mk b false 0).byteV)==13)||(((ap.mk b false 0).byteV)==14)) 8).byteV≤4))) 6).byteV,more:=(o3 (((((ap.mk b false 0).bytesC 1).need ((((ap.mk b false 0).byteV)==13)||(((ap.mk b false 0).byteV)==14)) 8).bytesC 1).need ((decide (1≤(((ap.mk b false 0).bytesC 1).need ((((ap.mk b false 0).byteV)==13)||(((ap.mk b false 0).byteV)==14)) 8).byteV))&&(decide ((((ap.mk b false 0).bytesC 1).need ((((ap.mk b false 0).byteV)==13)||(((ap.mk b false 0).byteV)==14)) 8).byteV≤4))) 6)).byteV,next:=(sn (((((ap.mk b false 0).bytesC 1).need ((((ap.mk b false 0).byteV)==13)||(((ap.mk b false 0).byteV)==14)) 8).bytesC 1).need ((decide (1≤(((ap.mk b false 0).bytesC 1).need ((((ap.mk b false 0).byteV)==13)||(((ap.mk b false 0).byteV)==14)) 8).byteV))&&(decide ((((ap.mk b false 0).bytesC 1).need ((((ap.mk b false 0).byteV)==13)||(((ap.mk b false 0).byteV)==14)) 8).byteV≤4))) 6)).byteV,objects:=(eH (((ap.mk b false 0).bytesC 1).need ((((ap.mk b false 0).byteV)==13)||(((ap.mk b false 0).byteV)==14)) 8).byteV (((((ap.mk b false 0).bytesC 1).need ((((ap.mk b false 0).byteV)==13)||(((ap.mk b false 0).byteV)==14)) 8).bytesC 1).need ((decide (1≤(((ap.mk b false 0).bytesC 1).need ((((ap.mk b false 0).byteV)==13)||(((ap.mk b false 0).byteV)==14)) 8).byteV))&&(decide ((((ap.mk b false 0).bytesC 1).need ((((ap.mk b false 0).byteV)==13)||(((ap.mk b false 0).byteV)==14)) 8).byteV≤4))) 6)).2 }) ((eH (((ap.mk b false 0).bytesC 1).need ((((ap.mk b false 0).byteV)==13)||(((ap.mk b false 0).byteV)==14)) 8).byteV (((((ap.mk b false 0).bytesC 1).need ((((ap.mk b false 0).byteV)==13)||(((ap.mk b false 0).byteV)==14)) 8).bytesC 1).need ((decide (1≤(((ap.mk b false 0).bytesC 1).need ((((ap.mk b false 0).byteV)==13)||(((ap.mk b false 0).byteV)==14)) 8).byteV))&&(decide ((((ap.mk b false 0).bytesC 1).need ((((ap.mk b false 0).byteV)==13)||(((ap.mk b false 0).byteV)==14)) 8).byteV≤4))) 6)).1):=by
   unfold au bK ic gq fC
   (try simp only[i,p,u,bs,if_true,if_false,decide_true,decide_false,eq_self,true_or,or_true,or_false,false_or,if_true,if_false,dt,du,dv,dy,reduceIte])
   all_goals rfl
 rw[hs]
 exact bj S (aF.upd P (us Q aw) (ak (ah.safe al _ (by decide)) (ak (aL (ub (ut k (ui L (ui N (ui O am))) (ac (nr a) (ac (ni (le j.size d.size) f) aq))) h) (by decide)) aD))) (ud av aw q)
theorem o0{m:Bool}{A:Option Addr}{cp:Nat}{b:List Int}{w:World}{dir c:Int}(hcode:B8 c)(hsl:aQ m w (.slice A b.length cp) b)(hb:b.length≤1048576)(hd:¬ (dir=0∨dir=1)) :
    Calls Tryz.prog 66 #[.int .i64 dir,.int .u8 c,.slice A b.length cp] w (dl (au bK dir c b) w):=by
 obtain⟨hcode1,hcode2⟩:=hcode
 have hln:(b.length:Int)≤1048576:=by omega
 have e0:(dir != 0)=true:=by simp;omega
 have e1:(dir != 1)=true:=by simp;omega
 refine en 81 Tryz.func66 rfl<|sg<|L0<|bI mZ fun g h a d e=>Pl 1<|nt<|sq<|bk<|sg<|Pl 3<|sy 14 e0<|Pl 4<|nl<|?_
 refine tn<|ct e1<|sg<|Pl 1<|L0<|bf d mZ fun i db f=>Pl 1<|nt<|rt<|br<|tr<|cU db (.int .i64 1)<|?_
 have hs:au bK dir c b=(aV.zero,1):=by
   unfold au bK ic gq fC
   (try simp only[e0,e1,bs,if_true,if_false,decide_true,decide_false,eq_self,true_or,or_true,or_false,false_or,if_true,if_false,dt,du,dv,dy,reduceIte,hd])
   all_goals rfl
 rw[hs]
 exact bW (ud e f a)
theorem lJ{m:Bool}{v:Value}{b:List Int}{w:World}{dir c:Int}(hc:B8 c)(h:aQ m w v b)(hb:b.length≤1048576) :
    Calls Tryz.prog 66 #[.int .i64 dir,.int .u8 c,v] w (dl (au bK dir c b) w):=by
  obtain⟨A,cp,rfl,_,_⟩:=h.shape
  by_cases h0:dir=0
  · subst h0;exact o8 hc h hb
  by_cases h1:dir=1
  · subst h1;exact nq hc h hb
  exact o0 hc h hb (by omega)
open Go.RowKit
def qQ (C:ap) : ap:=(C.bytesC 1).need (C.byteV==6) 9
def pu (C:ap) : ap:=((qQ C).wordsC 1).need ((qQ C).wordV != 0) 6
def tD (C:ap) : ap:=((pu C).wordsC 1).need (decide ((pu C).wordV≤9999)) 7
def iV (C:ap) : ap:=((tD C).wordsC 1).need ((tD C).wordV != 0) 5
def bq (C:ap) : eq:=⟨(qQ C).wordV,(pu C).wordV,(tD C).wordV,[]⟩
def ig (s:Int)(C:ap) : Int:=s+(2+2*(tD C).wordV)
def fU (s:Int)(C:ap) : ap:=(iV C).need (decide (ig s C≤245)) 5
def oA (C:ap) : ap:=(C.bytesC 1).need ((C.byteV%2==1&&decide (3≤C.byteV))&&decide (C.byteV≤((C.bytesC 1).l.length:Int))) 5
def oD (C:ap) : ap:=((oA C).bytesC 1).need ((oA C).byteV==6) 9
def hZ (C:ap) : ap:=(oD C).wordsC (Int.tdiv (C.byteV-1) 2)
def gk (C:ap) : eq:=⟨0,0,0,(oD C).wordsR (Int.tdiv (C.byteV-1) 2)⟩
def ve (C:ap) : ap:=(iV C).need (decide (2*(tD C).wordV≤((iV C).l.length:Int))) 5
def la (C:ap) : ap:=(ve C).wordsC (tD C).wordV
def jx (C:ap) : eq:=⟨(qQ C).wordV,(pu C).wordV,(tD C).wordV,(ve C).wordsR (tD C).wordV⟩
def yJ (g:Nat)(C':ap)(r:eq)(w:World)(e:Ending)(w':World) : Prop:=∃ A c,e = .returned (.agg #[.int .u16 r.file,.int .u16 r.record,.int .u16 r.count,.slice A r.words.length c])∧dB true w' (.slice A r.words.length c) r.words∧db r.file∧db r.record∧db r.count∧ah w' g C'∧ax [g] w w'
theorem oM{g:Nat}{C:ap}{w:World}(hC:ah w g C) : Calls Tryz.prog 125 #[.pointer (some ⟨g,0,none⟩)] w (yJ g (iV C) (bq C) w):=by
 have hlen:=hC.len
 refine en 34 Tryz.func125 rfl<|sg<|L0<|bI #[.int .u16 0,.int .u16 0,.int .u16 0,.slice none 0 0] fun Z a0 c B b=>ng<|Pl 2<|?_
 refine L0<|Oc<|m3 (bE (ah.old hC b)) fun a1 D d a2=>Pl 1<|L0<|Oc<|m2 (aU ((C.byteV==6)) 9 D) fun a3 E e=>?_
 refine ab E fun gX F G=>?_
 refine ng<|L0<|bI #[.int .u16 0,.int .u16 0,.int .u16 0,.slice none 0 0] fun a4 a5 f H h=>ng<|Pl 1<|?_
 refine L0<|Oc<|m3 (bD (ah.old G h)) fun a6 I i a7=>Pl 1<|?_
 have a:=nb (ah.lt hC) (le (le b.size d.size) e.size) f
 have j:=aY i (Ne.symm a) H
 refine L0<|cn j 0 #[.int .u16 gX.wordV,.int .u16 0,.int .u16 0,.slice none 0 0] fun a8 k l=>ng<|Pl 2<|L0<|aN k 0<|Pl 1<|?_
 refine L0<|Oc<|m2 (aU ((gX.wordV != 0)) 6 (ah.upd I l (ae a ay) (ak (aL j (by decide)) aD))) fun a9 J K=>?_
 refine ab J fun jq L M=>?_
 refine ng<|Pl 1<|L0<|Oc<|m3 (bD M) fun aa N O ac=>Pl 1<|?_
 have m:=u1 K O im
 have n:=aY m (Ne.symm a) k
 refine L0<|cn n 1 #[.int .u16 gX.wordV,.int .u16 jq.wordV,.int .u16 0,.slice none 0 0] fun ad o p=>ng<|Pl 2<|L0<|aN o 1<|Pl 1<|?_
 refine L0<|Oc<|m2 (aU ((decide (jq.wordV≤9999))) 7 (ah.upd N p (ae a ay) (ak (aL n (by decide)) aD))) fun af P Q=>?_
 refine ab P fun x61 R S=>?_
 refine ng<|Pl 1<|L0<|Oc<|m3 (bD S) fun ag T U ai=>Pl 1<|?_
 have q:=u1 Q U im
 have r:=aY q (Ne.symm a) o
 refine L0<|cn r 2 #[.int .u16 gX.wordV,.int .u16 jq.wordV,.int .u16 x61.wordV,.slice none 0 0] fun aj s t=>ng<|Pl 2<|L0<|aN s 2<|Pl 1<|?_
 refine L0<|Oc<|m2 (aU ((x61.wordV != 0)) 5 (ah.upd T t (ae a ay) (ak (aL r (by decide)) aD))) fun al V u=>?_
 refine ab V fun x77 W X=>?_
 refine ng<|?_
 refine L0<|bZ (aY u (Ne.symm a) s)<|?_
 have v:=u1 d (u1 e (ud h (ui i (ui l (ui m (ui p (ui q (us t u)))))) f) im) im
 have y:=nb (ah.lt hC) lr c
 have z:=aY v (Ne.symm y) B
 refine L0<|bf z #[.int .u16 gX.wordV,.int .u16 jq.wordV,.int .u16 x61.wordV,.slice none 0 0] fun am Y A=>nt<|rt<|ze Y<|?_
 subst W R L F
 exact⟨_,_,rfl,aO.nil ..,aK (x:=((C.bytesC 1).need (C.byteV==6) 9).wordV) (by omega),aK (x:=((((C.bytesC 1).need (C.byteV==6) 9).wordsC 1).need (((C.bytesC 1).need (C.byteV==6) 9).wordV != 0) 6).wordV) (by omega),aK (x:=((((((C.bytesC 1).need (C.byteV==6) 9).wordsC 1).need (((C.bytesC 1).need (C.byteV==6) 9).wordV != 0) 6).wordsC 1).need (decide (((((C.bytesC 1).need (C.byteV==6) 9).wordsC 1).need (((C.bytesC 1).need (C.byteV==6) 9).wordV != 0) 6).wordV≤9999)) 7).wordV) (by omega),(ah.upd X A (ae y ay) (ak (aL z (by decide)) aD)),(ue b (us v A) c)⟩
theorem sD{g:Nat}{C:ap}{w:World}(hC:ah w g C) : Calls Tryz.prog 128 #[.pointer (some ⟨g,0,none⟩)] w (yJ g (hZ C) (gk C) w):=by
 have hlen:=hC.len
 refine en 33 Tryz.func128 rfl<|sg<|L0<|bI #[.int .u16 0,.int .u16 0,.int .u16 0,.slice none 0 0] fun R S f i j=>ng<|Pl 1<|?_
 refine L0<|Oc<|m3 (bE (ah.old hC j)) fun T c k U=>L0<|Oi C.byteV<|Pl 1<|ng<|Pl 2<|L0<|Oe (.int .i64 (Int.tmod C.byteV 2)) (.int .i64 (C.byteV%2)) (congrArg (Value.int .i64) (Int.tmod_eq_emod_of_nonneg (by omega)))<|Pl 2<|cu 3 [11] 14 ((((C.byteV%2)==1)&&(decide (3≤C.byteV)))) (fun K m=>?_) ?_
 refine bl 11 (((C.byteV%2)==1)) (fun a=>?_) (fun a=>?_)
 have y:=az a
 exact Pl 3<|ce m (decide (3≤C.byteV)) (by rw[a];rfl)
 have y:=aC a
 exact Pl 3<|ce m false (by rw[a];rfl)
 refine Pl 1<|cu 5 [15] 20 (((((C.byteV%2)==1)&&(decide (3≤C.byteV)))&&(decide (C.byteV≤(((C.bytesC 1).l.length:Nat) : Int))))) (fun K o=>?_) ?_
 refine bl 15 ((((C.byteV%2)==1)&&(decide (3≤C.byteV)))) (fun b=>?_) (fun b=>?_)
 have z:=(bH b).1
 have A:=(bH b).2
 have V:=az z
 have W:=of_decide_eq_true A
 refine Pl 2<|L1<|Oc<|mq (dq c)<|?_
 have X:=ah.len c
 exact Pl 2<|ce o (decide (C.byteV≤(((C.bytesC 1).l.length:Nat) : Int))) (by rw[b];rfl)
 exact Pl 5<|ce o false (by rw[b];rfl)
 refine L0<|Oc<|m2 (aU (((((C.byteV%2)==1)&&(decide (3≤C.byteV)))&&(decide (C.byteV≤(((C.bytesC 1).l.length:Nat) : Int))))) 5 c) fun Y B p=>?_
 refine ab B fun x28 D E=>?_
 refine ng<|Pl 2<|L0<|Oc<|m3 (bE E) fun Z F q a0=>Pl 1<|L0<|Oc<|m2 (aU ((x28.byteV==6)) 9 F) fun a1 G r=>?_
 refine ab G fun x38 H I=>?_
 refine ng<|Pl 2<|L0<|Oi (C.byteV-1)<|L0<|Oe (.int .i64 (IntKind.i64.wrap (Int.tdiv (C.byteV-1) 2))) (.int .i64 (Int.tdiv (C.byteV-1) 2)) (congrArg (Value.int .i64) (uF (by omega) (by omega)))<|L0<|Oc<|qO (dx (n:=(Int.tdiv (C.byteV-1) 2)) I) fun J L a2 s a3 a4 M N=>?_
 refine ab M fun x48 O P=>?_
 refine Pl 1<|?_
 have t:=u1 k (u1 p (u1 q (u1 r N im) im) im) im
 have u:=nb (ah.lt hC) lr f
 have v:=aY t (Ne.symm u) i
 refine L0<|bf v #[.int .u16 0,.int .u16 0,.int .u16 0,.slice J ((x38.wordsR (Int.tdiv (C.byteV-1) 2)).length) L] fun a5 Q d=>nt<|rt<|ze Q<|?_
 subst O H D
 exact⟨_,_,rfl,((aj s d (fun x hx=>(ae (fun e=>(aB (al i) (le (le (le k.size p.size) q.size) r.size) s) (e▸hx)) ay)) (fun _ _ h=>h))).rd,aK (x:=0) (by omega),aK (x:=0) (by omega),aK (x:=0) (by omega),(ah.upd P d (ae u ay) (ak (aL v (by decide)) aD)),(ue j (us t d) f)⟩
theorem we{g:Nat}{C:ap}{w:World}(hC:ah w g C) : Calls Tryz.prog 130 #[.pointer (some ⟨g,0,none⟩)] w (yJ g (la C) (jx C) w):=by
 have hlen:=hC.len
 refine en 22 Tryz.func130 rfl<|sg<|L0<|bI #[.int .u16 0,.int .u16 0,.int .u16 0,.slice none 0 0] fun X Y v f i=>ng<|Pl 1<|?_
 refine L0<|Oc<|xQ (oM (ah.old hC i)) fun I J Z a0 K L M N c=>?_
 obtain⟨a1,a2⟩:=K
 obtain⟨a3,a4⟩:=L
 obtain⟨a5,a6⟩:=M
 refine L0<|bI #[.int .u16 0,.int .u16 0,.int .u16 0,.slice none 0 0] fun O a7 j y z=>L0<|bf y #[.int .u16 ((bq C).file),.int .u16 ((bq C).record),.int .u16 ((bq C).count),.slice I ((bq C).words.length) J] fun a8 P k=>nt<|sq<|Rg 9 (fun w'=>w'.cell? ⟨O,2,none⟩=some (.int .u16 ((bq C).count))) fun a9 d=>?_
 have m:=ub d P
 refine aZ (aa m rfl) fun a=>Rt 0 a<|Rt 1 a<|Rl 2 a (fun _ hs=>hs)<|Rr 3 a (.int .i64 ((bq C).count)) (fun _ _=>cC (.int .i64 (IntKind.i64.wrap ((bq C).count))) (by kernel_rfl) (congrArg (Value.int .i64) (i64_in (by omega))))<|Rr 4 a (.int .i64 (2*((bq C).count))) (fun _ _=>cC (.int .i64 (IntKind.i64.wrap (2*((bq C).count)))) (by kernel_rfl) (congrArg (Value.int .i64) (IntWalk.i64_in _ (by omega))))<|Rt 5 a<|?_
 have o:=ud z (aE k d) j
 have p:=ah.old N o
 refine R0 6 rfl<|Oc<|mq (dq p)<|?_
 have ac:=ah.len p
 refine aZ (aa m rfl) fun Q=>Rt 7 Q<|R0 8 rfl<|Oc<|m2 (aU ((decide ((2*((bq C).count))≤(((iV C).l.length:Nat) : Int)))) 5 p) fun ad R b=>?_
 refine ab R fun x54 S T=>?_
 have q:=nb (ah.lt hC) (le i.size c.size) j
 have r:=aY b (Ne.symm q) m
 refine aZ (aa r rfl) fun af=>re<|tn<|sg<|Pl 2<|L0<|aN r 2<|L0<|Oi ((bq C).count)<|L0<|Oc<|qO (dx (n:=(bq C).count) T) fun A B ag s ai am U t=>Pl 1<|?_
 have D:=aY t (Ne.symm q) r
 refine L0<|cn D 3 #[.int .u16 ((bq C).file),.int .u16 ((bq C).record),.int .u16 ((bq C).count),.slice A ((x54.wordsR ((bq C).count)).length) B] fun an V E=>ng<|L0<|bZ V<|?_
 have F:=u1 c (ue o (ui b (us t E)) j) im
 have u:=nb (ah.lt hC) lr v
 refine L0<|bf (aY F (Ne.symm u) f) #[.int .u16 ((bq C).file),.int .u16 ((bq C).record),.int .u16 ((bq C).count),.slice A ((x54.wordsR ((bq C).count)).length) B] fun ao W G=>nt<|rt<|ze W<|?_
 subst S
 have H:=us E G
 exact⟨_,_,rfl,((aj s H (fun x hx=>(ae (fun e=>(aB (al y) (le (le k.size d.size) b.size) s) (e▸hx)) (ae (fun e=>(aB (al f) (le (le (le (le c.size z.size) k.size) d.size) b.size) s) (e▸hx)) ay))) (fun _ _ h=>h))).rd,aK (x:=(bq C).file) (by omega),aK (x:=(bq C).record) (by omega),aK (x:=(bq C).count) (by omega),(ah.upd U H (ae q (ae u ay)) (ak (aL D (by decide)) (ak (aL (aY (u1 c (uz o (u1 b t im)) im) (Ne.symm u) f) (by decide)) aD))),(ue i (us F G) v)⟩
theorem pi{n:Int}{w:World}(hn:0≤n∧n<256) : Calls Tryz.prog 126 #[.int .i64 n] w (bv (.bool ((decide (7≤n)&&decide (n≤245))&&n%7==0)) w):=by
 refine en 14 Tryz.func126 rfl<|sg<|Pl 1<|ng<|Pl 3<|cu 3 [5] 8 (((decide (7≤n))&&(decide (n≤245)))) (fun K c=>?_) ?_
 refine bl 5 ((decide (7≤n))) (fun a=>?_) (fun a=>?_)
 have e:=of_decide_eq_true a
 exact Pl 3<|ce c (decide (n≤245)) (by rw[a];rfl)
 have e:=of_decide_eq_false a
 exact Pl 3<|ce c false (by rw[a];rfl)
 refine Pl 1<|cu 4 [9] 13 ((((decide (7≤n))&&(decide (n≤245)))&&((n%7)==0))) (fun K d=>?_) ?_
 refine bl 9 (((decide (7≤n))&&(decide (n≤245)))) (fun b=>?_) (fun b=>?_)
 have f:=(bH b).1
 have g:=(bH b).2
 have h:=of_decide_eq_true f
 have i:=of_decide_eq_true g
 exact Pl 1<|L1<|Oe (.int .i64 (Int.tmod n 7)) (.int .i64 (n%7)) (congrArg (Value.int .i64) (Int.tmod_eq_emod_of_nonneg (by omega)))<|Pl 2<|ce d ((n%7)==0) (by rw[b];rfl)
 exact Pl 4<|ce d false (by rw[b];rfl)
 refine Pl 1<|nt<|rt<|rr (.bool (((decide (7≤n))&&(decide (n≤245)))&&((n%7)==0)))<|?_
 exact⟨rfl,(ax.refl [] _)⟩
theorem p8{n:Int}{w:World}(hn:0≤n∧n<256) : Calls Tryz.prog 127 #[.int .i64 n] w (bv (.bool (decide (4≤n)&&decide (n≤245))) w):=by
 refine en 9 Tryz.func127 rfl<|sg<|Pl 1<|ng<|Pl 3<|cu 3 [5] 8 (((decide (4≤n))&&(decide (n≤245)))) (fun K b=>?_) ?_
 refine bl 5 ((decide (4≤n))) (fun a=>?_) (fun a=>?_)
 have c:=of_decide_eq_true a
 exact Pl 3<|ce b (decide (n≤245)) (by rw[a];rfl)
 have c:=of_decide_eq_false a
 exact Pl 3<|ce b false (by rw[a];rfl)
 refine Pl 1<|nt<|rt<|rr (.bool ((decide (4≤n))&&(decide (n≤245))))<|?_
 exact⟨rfl,(ax.refl [] _)⟩
theorem pA{n:Int}{w:World}(hn:0≤n∧n<256) : Calls Tryz.prog 129 #[.int .i64 n] w (bv (.bool (decide (9≤n)&&decide (n≤251))) w):=by
 refine en 9 Tryz.func129 rfl<|sg<|Pl 1<|ng<|Pl 3<|cu 3 [5] 8 (((decide (9≤n))&&(decide (n≤251)))) (fun K b=>?_) ?_
 refine bl 5 ((decide (9≤n))) (fun a=>?_) (fun a=>?_)
 have c:=of_decide_eq_true a
 exact Pl 3<|ce b (decide (n≤251)) (by rw[a];rfl)
 have c:=of_decide_eq_false a
 exact Pl 3<|ce b false (by rw[a];rfl)
 refine Pl 1<|nt<|rt<|rr (.bool ((decide (9≤n))&&(decide (n≤251))))<|?_
 exact⟨rfl,(ax.refl [] _)⟩
theorem ii{e:Int}{w:World}:Calls Tryz.prog 96 #[.int .i64 e] w (bv (.int .i64 (if e==2 then 5 else e)) w):=by
 refine en 6 Tryz.func96 rfl<|sg<|Pl 1<|nt<|sq<|sg<|Pl 2<|nt<|cb ((e==2)) (fun a=>?_) (fun a=>?_)
 have b:=az a
 refine sg<|Pl 1<|nt<|rt<|tr<|rr (.int .i64 5)<|?_
 have hs:(if e==2 then (5:Int) else e)=5:=by simp only[a,bs,if_true,if_false,decide_true,decide_false,reduceIte]
 rw[hs]
 exact⟨rfl,(ax.refl [] _)⟩
 have b:=aC a
 refine bG<|sg<|Pl 2<|nt<|rt<|rr (.int .i64 e)<|?_
 have hs:(if e==2 then (5:Int) else e)=e:=by simp only[a,bs,if_true,if_false,decide_true,decide_false,reduceIte]
 rw[hs]
 exact⟨rfl,(ax.refl [] _)⟩
open Go.RowKit
structure WF (F:Fence) (n:Nat) (P:Program) (ops:Array Oper) (Q:Exit→Act→World→Prop) (l:List Oper) (a:Act) (w:World) : Prop where
  out:wpListIn F n P ops Q l a w
def ei (F:Fence) : Prop:=F=Fence.wide∨∃ l,F=Fence.wide.inRound l
theorem kA:ei Fence.wide:=.inl rfl
theorem js(l:Nat) : ei (Fence.wide.inRound l):=.inr ⟨l,rfl⟩
theorem ei.fn{F:Fence}(h:ei F)(f:FuncId) : F.fn f:=by
  rcases h with rfl|⟨l,rfl⟩<;>trivial
theorem ei.depth{F:Fence}(h:ei F) : F.depth=none:=by
  rcases h with rfl|⟨l,rfl⟩<;>rfl
section
variable {F:Fence}{n:Nat}{P:Program}{Q:Exit→Act→World→Prop}{a:Act}{w:World}{K:Act→World→Prop}{ops:Array Oper}{rest:List Oper}{o:Oper}{N:Option Tmp}
theorem yC{f:FuncId}{args:Array Value}{R:Ending→World→Prop}(hF:ei F)(h:Calls P f args w R) : CallsIn F n P f args w R:=by
  rcases hF with rfl|⟨l,rfl⟩
  · exact callsIn_wide.2 h
  · exact CallsIn.inRound l (callsIn_wide.2 h)
theorem zI{row:String}{args:Array Value}{R:Value→World→Prop}(hF:ei F)(h:Rows P row args w R) : RowsIn F n P row args w R:=by
  have h0:RowsIn Fence.wide n P row args w R:=fun c cs _=>let ⟨v,w',r,s⟩:=h c cs; ⟨v,w',r,stepsIn_wide.2 s⟩
  rcases hF with rfl|⟨l,rfl⟩
  · exact h0
  · exact h0
def fd:Op→Bool
  | .defer _=>false
  | _=>true
theorem BJ(hF:ei F)(hd:fd o.op=true)(h:o.wp P a w K Q) : o.wpIn F n P a w K Q:=by
  refine⟨fun f _=>hF.fn f,?_⟩
  rw[Oper.semAt_eq _ _ _ (fun c hc=>by rw[hc] at hd;cases hd)]
  unfold Oper.wp at h
  have hdep:∀ {p:Prop},F.depth.isSome=true→p:=fun h=>by rw[hF.depth] at h;cases h
  generalize (execOp a.eval o).run P w=r at h ⊢
  cases r with
  | ok x w' =>
    cases x<;>simp only[Oper.upon,Oper.uponIn] at h ⊢
    case value u=>exact h
    case skip=>exact h
    case defer d=>exact h
    case enter f args=>exact⟨hdep,yC hF h⟩
    case row row args=>exact⟨hdep,zI hF h⟩
  | halt x w' =>
    cases x<;>simp only[Oper.upon,Oper.uponIn] at h ⊢
    case panic u=>exact h
theorem BR{id:Nat}{l:List Oper}(n:Nat)(h:WF Fence.wide n P l.toArray Q l a w) : (Code.region id l.toArray false).wp P Q a w:=wpIn_wide.1 (wpIn_region_lit h.out)
theorem Ap{id:Nat}{l:List Oper}(h:WF F n P l.toArray Q l a w) : (Code.region id l.toArray false).wpIn F n P Q a w:=wpIn_region_lit h.out
theorem AD(h:Q .normal a w) : WF F n P ops Q [] a w:=⟨h⟩
theorem Bk(hF:ei F)(hd:fd o.op=true)(hw:Region.wanted o (yielded ops a.tmps)=true)(h:OW P o a w (WF F n P ops Q rest) Q) : WF F n P ops Q (o :: rest) a w:=by
  refine⟨?_⟩
  unfold wpListIn
  rw[if_pos hw]
  exact BJ hF hd (gN h fun _ _ h=>h.out)
theorem AU(hF:ei F)(hw:Region.wanted o (yielded ops a.tmps)=false)(hN:o.dst=N)(h:WF F n P ops Q rest (a.put N undef) w) : WF F n P ops Q (o :: rest) a w:=by
  subst hN
  refine⟨?_⟩
  unfold wpListIn
  rw[if_neg (by simp[hw])]
  exact⟨fun f _=>hF.fn f,h.out⟩
theorem yF{x:Operand}{opds:Array Operand}{ts:Array TypeId}{l:Nat}{r:Loop}(args:Array Value)(hw:Region.wanted o (yielded ops a.tmps)=true)(hN:o.dst=N)(hop:o.op = .call { callee:=.value x,args:=opds,argTypes:=ts })
    (hx:a.eval x = .func (.yield l) #[] #[]) (hargs:opds.map a.eval=args) (hl:w.heap[l]? = some (.loop r)) (hs:args.size=r.params.size)
    (h:RoundIn Fence.wide (n-1) P l r.fn ((r.params.zip args).foldl (fun tmps (t,a)=>tmps.setIfInBounds t a) r.tmps) r.assign r.body w (fun e w'=>∃ v,e = .returned v∧WF Fence.wide n P ops Q rest (a.put N v) w')) : WF Fence.wide n P ops Q (o :: rest) a w:=by
  subst hN
  refine⟨?_⟩
  unfold wpListIn
  rw[if_pos hw]
  refine⟨fun f _=>trivial,?_⟩
  have hrun:(o.semAt Fence.wide.round a.eval).run P w = .ok (.round l r.fn ((r.params.zip args).foldl (fun tmps (t,a)=>tmps.setIfInBounds t a) r.tmps) r.assign r.body) w:=by
    show(execOp a.eval o).run P w=_
    unfold execOp
    simp only[hop,resolve,hx,Deferred.ofValue,Sem.run_bind,Sem.run_pure,Result.andThen_ok,invoke,hargs]
    have:=run_yield (P:=P) (args:=args) hl hs
    simpa using this
  rw[hrun,Oper.uponIn_round]
  refine⟨(by simp[Fence.wide]),h.mono fun e w' hh=>?_⟩
  obtain⟨v,rfl,h2⟩:=hh
  exact h2.out
end
theorem wv{P:Program}{n:Nat}{ops:Array Oper}{Q:Exit→Act→World→Prop}{rest:List Oper}{o:Oper}{a:Act}{w:World}{N:Option Tmp}{x:Operand}{opds:Array Operand}{ts:Array TypeId}{l:Nat}{r:Loop}(v:Value)(p:Tmp)(hw:Region.wanted o (yielded ops a.tmps)=true)(hN:o.dst=N)(hop:o.op = .call { callee:=.value x,args:=opds,argTypes:=ts })
    (hx:a.eval x = .func (.yield l) #[] #[]) (hargs:opds.map a.eval = #[v]) (hl:w.heap[l]? = some (.loop r)) (hp:r.params = #[p])
    (h:RoundIn Fence.wide (n-1) P l r.fn (r.tmps.setIfInBounds p v) r.assign r.body w (fun e w'=>∃ u,e = .returned u∧WF Fence.wide n P ops Q rest (a.put N u) w')) : WF Fence.wide n P ops Q (o :: rest) a w:=by
  refine yF #[v] hw hN hop hx hargs hl (by rw[hp];rfl) ?_
  have:((r.params.zip #[v]).foldl (fun tmps (t,a)=>tmps.setIfInBounds t a) r.tmps)=r.tmps.setIfInBounds p v:=by rw[hp];simp
  rw[this]
  exact h
theorem gh{w:World}{l:Nat}(o:Go.Obj) : ax [l] w (w.putObj l o) :=
  ⟨rfl,rfl,rfl,by simp[World.putObj],fun k hk hn=>World.putObj_heap_other (by simpa using hn)⟩
theorem kK{w:World}{l:Nat}{o:Go.Obj}(o':Go.Obj)(h:w.heap[l]? = some o) : (w.putObj l o').heap[l]? = some o':=World.putObj_heap_same (al h)
def iB:Go.Obj→Bool
  | .cells ..=>false
  | _=>true
theorem aO.updl{α:Type}{m:Bool}{e:TypeId}{sz:Nat}{R:World→α→List Value→Prop}{w w':World}{v:Value}{xs:List α}{l:Nat}{o:Go.Obj}
    (h:aO m e sz R w v xs) (hu:ax [l] w w') (hl:w.heap[l]? = some o) (ho:iB o=true) (hR:∀ x cs,R w x cs→R w' x cs) : aO m e sz R w' v xs:=by
  obtain⟨A,c,rfl,h1,h2,h0,h3⟩:=h
  refine⟨A,c,rfl,h1,h2,h0,fun hp=>?_⟩
  obtain⟨b,off,cells,t,fr,rfl,hb,ht,hx⟩:=h3 hp
  refine⟨b,off,cells,t,fr,rfl,?_,ht,fun j x hj=>?_⟩
  · refine hu.blk (fun hbs=>?_) hb
    simp at hbs
    subst hbs
    rw[hl] at hb
    injection hb with hb
    subst hb
    cases ho
  · obtain⟨cs,hl,hr,hc⟩:=hx j x hj
    exact⟨cs,hl,hR _ _ hr,hc⟩
theorem aQ.updl{m:Bool}{w w':World}{v:Value}{xs:List Int}{l:Nat}{o:Go.Obj}(h:aQ m w v xs)(hu:ax [l] w w')(hl:w.heap[l]? = some o)(ho:iB o=true) : aQ m w' v xs:=aO.updl h hu hl ho fun _ _ h=>h
theorem dB.updl{m:Bool}{w w':World}{v:Value}{xs:List Int}{l:Nat}{o:Go.Obj}(h:dB m w v xs)(hu:ax [l] w w')(hl:w.heap[l]? = some o)(ho:iB o=true) : dB m w' v xs:=aO.updl h hu hl ho fun _ _ h=>h
theorem bA.updl{m:Bool}{w w':World}{l:Nat}{o:Go.Obj}(hu:ax [l] w w')(hl:w.heap[l]? = some o)(ho:iB o=true)(r:eq)(cs:List Value)(h:bA m w r cs) : bA m w' r cs:=by
  obtain⟨v,h1,h2,h3⟩:=h
  exact⟨v,h1,dB.updl h2 hu hl ho,h3⟩
theorem ah.updl{w w':World}{g:Nat}{c:ap}{l:Nat}{o:Go.Obj}(h:ah w g c)(hu:ax [l] w w')(hg:g∉[l])(hl:w.heap[l]? = some o)(ho:iB o=true) : ah w' g c:=by
  obtain⟨v,hb,hr,hn⟩:=h
  exact⟨v,hu.blk hg hb,hr.updl hu hl ho,hn⟩
theorem vm{n:Nat}{P:Program}{l:Nat}{f:FuncId}{tmps:Array Value}{assign body:Code}{w:World}{r:Loop}{R:Ending→World→Prop}
    (h:assign.wpIn (Fence.wide.inRound l) n P (Exit.then (fun a₁ w₁=>w₁.heap[l]? = some (.loop r)∧r.state = .ready∧∀ w₂,w₂.heap[l]? = some (.loop { r with state:=.busy })→ax [l] w₁ w₂ →
      body.wpIn (Fence.wide.inRound l) n P (Exit.then (fun _ w₃=>∃ r',w₃.heap[l]? = some (.loop r')∧∀ w₄,w₄.heap[l]? = some (.loop { r' with state:=.ready,pending:=none })→ax [l] w₃ w₄→R (.returned (.bool true)) w₄) (fun _ _ _=>False)) a₁ w₂) (fun _ _ _=>False)) { tmps:=tmps,defers:=[] } w) :
    RoundIn Fence.wide n P l f tmps assign body w R:=by
  refine roundIn_of_wpIn trivial (Code.wpIn_mono (fun e a w q=>?_) h)
  cases e with
  | normal =>
    obtain⟨h1,h2,h3⟩:=q
    refine⟨_,run_beginRound h1 h2,Code.wpIn_mono (fun e a w q=>?_) (h3 _ (kK _ h1) (gh _))⟩
    cases e with
    | normal =>
      obtain⟨r',h4,h5⟩:=q
      exact⟨_,_,run_endRound none h4,h5 _ (kK _ h4) (gh _)⟩
    | _=>exact q.elim
  | _=>exact q.elim
theorem kJ{n:Nat}{P:Program}{l:Nat}{f:FuncId}{tmps:Array Value}{assign body:Code}{w:World}{r:Loop}{R:Ending→World→Prop}
    (hl:w.heap[l]? = some (.loop r))
    (h:assign.wpIn (Fence.wide.inRound l) n P (Exit.then (fun a₁ w₁=>w₁.heap[l]? = some (.loop r)∧r.state = .ready∧∀ w₂,w₂.heap[l]? = some (.loop { r with state:=.busy })→ax [l] w₁ w₂ →
      body.wpIn (Fence.wide.inRound l) n P (Exit.then (fun _ w₃=>∃ r',w₃.heap[l]? = some (.loop r')∧∀ w₄,w₄.heap[l]? = some (.loop { r' with state:=.ready,pending:=none })→ax [l] w₃ w₄→R (.returned (.bool true)) w₄) (fun _ _ _=>False)) a₁ w₂) (fun _ _ _=>False)) { tmps:=tmps,defers:=[] } w) :
    RoundIn Fence.wide n P l f tmps assign body w R:=vm h
theorem tH{P:Program}{Q:Exit→Act→World→Prop}{a:Act}{w:World}{g:Operand}{ps:Array Tmp}{assign body:Code}{f:FuncId}{fn:Func}(cap:Array Value)
    (hx : a.eval g = .func (.func f) #[] cap) (hf : P.funcs[f]? = some fn) (hname : (fn.name == "runtime.NumGoroutine") = false) (hb : fn.body.isSome = true)
    (h:∀ fn0 D l w₂,w.heap.size≤D→w.heap.size≤l→D≠l→w₂.heap[D]? = some (.deferred (some []))→w₂.heap[l]? = some (.loop { state:=.ready,pending:=none,fn:=fn0,tmps:=a.tmps,params:=ps,assign:=assign,body:=body,defers:=D })→ax [] w w₂ →
      Calls P f (#[.func (.yield l) #[] #[]]++cap) w₂ (fun e w₃=>∃ v r',e = .returned v∧w₃.heap[l]? = some (.loop r')∧r'.state≠.busy∧r'.pending=none∧∀ w₄,ax [l] w₃ w₄→Q .normal { a with defers:={ target:=.collected D,args:=#[] } :: a.defers } w₄)) :
    (Code.rangeFunc g ps assign body).wp P Q a w:=by
  refine(wpIn_wide (n:=9)).1 (wpIn_rangeFunc fun fn0 _=>?_)
  have h1 : fn.name ≠ "runtime.NumGoroutine" := by simpa using hname
  obtain⟨cd,hcd⟩:=Option.isSome_iff_exists.1 hb
  refine⟨w.heap.size+1,[{ target:=.collected w.heap.size,args:=#[] }],((w.alloc (.deferred (some []))).alloc (.loop { state:=.ready,pending:=none,fn:=fn0,tmps:=a.tmps,params:=ps,assign:=assign,body:=body,defers:=w.heap.size })),
    { target:=.fn (.func f) cap,args:=#[]++#[.func (.yield (w.heap.size+1)) #[] #[]] },((w.alloc (.deferred (some []))).alloc (.loop { state:=.ready,pending:=none,fn:=fn0,tmps:=a.tmps,params:=ps,assign:=assign,body:=body,defers:=w.heap.size })),
    f,#[.func (.yield (w.heap.size+1)) #[] #[]]++cap,((w.alloc (.deferred (some []))).alloc (.loop { state:=.ready,pending:=none,fn:=fn0,tmps:=a.tmps,params:=ps,assign:=assign,body:=body,defers:=w.heap.size })),run_enterLoop_outer fn0 a.tmps ps assign body,?_,fun _ _=>trivial,?_,by simp[Fence.wide],?_⟩
  · unfold resolve
    simp only[rangeCall,hx,Deferred.ofValue,Sem.run_pure,List.map_toArray,List.map_cons,List.map_nil]
    rfl
  · simp[invoke,callFunc,hf,h1,hcd]
  · have hD:((w.alloc (.deferred (some []))).alloc (.loop { state:=.ready,pending:=none,fn:=fn0,tmps:=a.tmps,params:=ps,assign:=assign,body:=body,defers:=w.heap.size })).heap[w.heap.size]? = some (.deferred (some [])):=xc (d7 w _) _
    have hl:((w.alloc (.deferred (some []))).alloc (.loop { state:=.ready,pending:=none,fn:=fn0,tmps:=a.tmps,params:=ps,assign:=assign,body:=body,defers:=w.heap.size })).heap[w.heap.size+1]? = some (.loop { state:=.ready,pending:=none,fn:=fn0,tmps:=a.tmps,params:=ps,assign:=assign,body:=body,defers:=w.heap.size }):=by
      have:=d7 (w.alloc (.deferred (some []))) (.loop { state:=.ready,pending:=none,fn:=fn0,tmps:=a.tmps,params:=ps,assign:=assign,body:=body,defers:=w.heap.size })
      simpa using this
    refine callsIn_wide.2 ((h fn0 w.heap.size (w.heap.size+1) _ (Nat.le_refl _) (by omega) (by omega) hD hl (((ax.refl [] w).alloc _).alloc _)).mono ?_)
    rintro e w₃ ⟨v,r',rfl,h3,h4,h5,h6⟩
    refine⟨_,_,run_endLoop h3 h4,?_⟩
    rw[h5]
    exact h6 _ (gh _)
theorem nu{P:Program}{f:FuncId}{fn:Func}{c:Code}{args:Array Value}{w:World}{R:Ending→World→Prop}(hf:P.funcs[f]? = some fn)(hb:fn.body=some c)
    (h:c.wp P (bodyPostM Fence.wide 9 P fn R) { tmps:=args++Array.replicate (fn.ntmps-args.size) undef,defers:=[] } w) : Calls P f args w R :=
  callsIn_wide.1 (callsIn_of_wp_marks hf hb trivial (wpIn_wide.2 h) rfl)
theorem yP{P:Program}{fn:Func}{R:Ending→World→Prop}{a:Act}{w:World}{D:Nat}(hd:a.defers=[{ target:=.collected D,args:=#[] }])(hD:w.heap[D]? = some (.deferred (some [])))
    (h:∀ w',ax [D] w w'→∃ v,(results fn a.tmps).run P w' = .ok v w'∧R (.returned v) w') : bodyPostM Fence.wide 9 P fn R .ret a w:=by
  show LeavesInM Fence.wide 9 P fn a.tmps R a.defers .returning w
  rw[hd]
  exact⟨by simp,.inl ⟨D,_,rfl,run_takeDeferred hD,h _ (gh _)⟩⟩
theorem vV{P:Program}{fn:Func}{R:Ending→World→Prop}{a:Act}{w:World}(hd:a.defers=[])(h:∃ v,(results fn a.tmps).run P w = .ok v w∧R (.returned v) w) : bodyPostM Fence.wide 9 P fn R .ret a w:=by
  show LeavesInM Fence.wide 9 P fn a.tmps R a.defers .returning w
  rw[hd]
  exact h
open Go.RowKit
structure GF (E:Fence) (m:Nat) (P:Program) (ops:Array Oper) (Q:Exit→Act→World→Prop) (l:List Oper) (n:Nat) (D:List Deferred) (F:Fr) (w:World) : Prop where
  out:∀ a,Ag n D F a→WF E m P ops Q l a w
structure GI (E:Fence) (m:Nat) (P:Program) (c:Code) (Q:Exit→Act→World→Prop) (n:Nat) (D:List Deferred) (F:Fr) (w:World) : Prop where
  out:∀ a,Ag n D F a→c.wpIn E m P Q a w
section
variable {E:Fence}{m:Nat}{P:Program}{Q:Exit→Act→World→Prop}{n:Nat}{D:List Deferred}{F:Fr}{w:World}{ops:Array Oper}{rest l:List Oper}{d:Option Tmp}{op:Op}{t:TypeId}{s:String}{af:Array Edge}{gu:Option (Nat × Bool)}{x y c:Code}{id:Nat}
theorem AK(m:Nat)(h:GF Fence.wide m P l.toArray Q l n D F w) : GC P (.region id l.toArray false) Q n D F w:=⟨fun a ha=>BR m (h.out a ha)⟩
theorem zh(h:GF E m P l.toArray Q l n D F w) : GI E m P (.region id l.toArray false) Q n D F w:=⟨fun a ha=>Ap (h.out a ha)⟩
theorem Am(h:GI E m P c (Exit.inBlock id Q) n D F w) : GI E m P (.block id c) Q n D F w:=⟨fun a ha=>wpIn_block (h.out a ha)⟩
theorem tz(h:GQ Q .normal n D F w) : GF E m P ops Q [] n D F w:=⟨fun a ha=>AD (h.out a ha)⟩
theorem Br(hE:ei E)(h:OG P ⟨d,op,t,s,af,gu⟩ n D F w (GF E m P ops Q rest n D) Q)(hw:kC ops F gu=(true,true))(hd:fd op=true) : GF E m P ops Q (⟨d,op,t,s,af,gu⟩ :: rest) n D F w :=
  ⟨fun a ha=>Bk hE hd (eQ ha hw) (h.out a ha _ fun F' w' a' k ha'=>k.out a' ha')⟩
theorem Bj(hE:ei E){o:Oper}(h:GF E m P ops Q rest n D (pf P ops w F o) w)(hc:xF P ops w n 1 (o :: rest) F=xE P ops w 1 (o :: rest) F)(hd:fd o.op=true) : GF E m P ops Q (o :: rest) n D F w:=by
  simp only[xF,xE,List.cons.injEq,Prod.mk.injEq,Bool.and_eq_true] at hc
  obtain⟨⟨⟨h1,h2,h3⟩,h4⟩,h5⟩:=hc
  refine⟨fun a ha=>?_⟩
  cases hon:(kC ops F o.guard).2 with
  | true =>
    rw[hon] at h3 h4
    simp only[cond_true] at h3 h4
    have hst:pf P ops w F o=pt o.dst (vo P w F o) F:=by simp[pf,hon]
    rw[hst] at h
    exact Bk hE hd (eQ ha (Prod.ext h1 hon)) (eK (N:=o.dst) (vo P w F o) rfl (by rw[← gP ha h3];exact h4) (h.out _ (ha.put h2)))
  | false =>
    have hst:pf P ops w F o=pt o.dst undef F:=by simp[pf,hon]
    rw[hst] at h
    exact AU (N:=o.dst) hE (eQ ha (Prod.ext h1 hon)) rfl (h.out _ (ha.put h2))
theorem F0(h:OG P ⟨d,op,t,s,af,gu⟩ n D F w (GF Fence.wide m P ops Q rest n D) Q)(hw:kC ops F gu=(true,true):=by kernel_rfl)(hd:fd op=true:=by kernel_rfl) : GF Fence.wide m P ops Q (⟨d,op,t,s,af,gu⟩ :: rest) n D F w:=Br kA h hw hd
theorem kW{q:Nat}(h:OG P ⟨d,op,t,s,af,gu⟩ n D F w (GF (Fence.wide.inRound q) m P ops Q rest n D) Q)(hw:kC ops F gu=(true,true):=by kernel_rfl)(hd:fd op=true:=by kernel_rfl) : GF (Fence.wide.inRound q) m P ops Q (⟨d,op,t,s,af,gu⟩ :: rest) n D F w:=Br (js _) h hw hd
theorem Fp{o:Oper}(h:GF Fence.wide m P ops Q rest n D (pf P ops w F o) w)(hc:xF P ops w n 1 (o :: rest) F=xE P ops w 1 (o :: rest) F:=by kernel_rfl)(hd:fd o.op=true:=by kernel_rfl) : GF Fence.wide m P ops Q (o :: rest) n D F w:=Bj kA h hc hd
theorem zi{q:Nat}{o:Oper}(h:GF (Fence.wide.inRound q) m P ops Q rest n D (pf P ops w F o) w)(hc:xF P ops w n 1 (o :: rest) F=xE P ops w 1 (o :: rest) F:=by kernel_rfl)(hd:fd o.op=true:=by kernel_rfl) : GF (Fence.wide.inRound q) m P ops Q (o :: rest) n D F w:=Bj (js _) h hc hd
theorem AF(j:Nat)(e:Bool)(ht:e=true→GF E m P ops Q l n D ((j,.bool true) :: F) w)(hf:e=false→GF E m P ops Q l n D ((j,.bool false) :: F) w)(hv:lk F j=some (.bool e):=by kernel_rfl) : GF E m P ops Q l n D F w:=by
  refine⟨fun a ha=>?_⟩
  have key:∀ b,e=b→Ag n D ((j,.bool b) :: F) a:=fun b hb=>⟨ha.sz,ha.df,fun i v hi=>by
    rcases fR hi with⟨rfl,rfl⟩|⟨_,h2⟩
    · rw[← hb];exact ha.at_ _ _ hv
    · exact ha.at_ _ _ h2⟩
  rcases di e with q|q
  · exact(ht q).out a (key _ q)
  · exact(hf q).out a (key _ q)
theorem Fy{x:Operand}{opds:Array Operand}{ts:Array TypeId}{q:Nat}{r:Loop}(v:Value)(p:Tmp)(hl:w.heap[q]? = some (.loop r))(hp:r.params = #[p])
    (h:RoundIn Fence.wide (m-1) P q r.fn (r.tmps.setIfInBounds p v) r.assign r.body w (fun e w'=>∃ u,e = .returned u∧GF Fence.wide m P ops Q rest n D (pt d u F) w'))
    (hw:kC ops F gu=(true,true):=by kernel_rfl) (hx:dJ F x=some (.func (.yield q) #[] #[]):=by kernel_rfl) (ha:opds.toList.map (dJ F)=[some v]:=by kernel_rfl) (hd:eE n d=true:=by kernel_rfl) :
    GF Fence.wide m P ops Q (⟨d,.call { callee:=.value x,args:=opds,argTypes:=ts },t,s,af,gu⟩ :: rest) n D F w :=
  ⟨fun a hag=>wv v p (eQ hag hw) rfl rfl (hag.ev hx) (by apply Array.toList_inj.1;rw[Array.toList_map];exact jG (vs:=[v]) hag ha) hl hp (h.mono fun e w' hh=>by
    obtain⟨u,rfl,hk⟩:=hh
    exact⟨u,rfl,hk.out _ (hag.put hd)⟩)⟩
theorem pW{g:Operand}{ps:Array Tmp}{assign body:Code}{f:FuncId}(cap:Array Value)
    (h:∀ a,Ag n D F a→∀ fn0 D' q w₂,w.heap.size≤D'→w.heap.size≤q→D'≠q→w₂.heap[D']? = some (.deferred (some []))→w₂.heap[q]? = some (.loop { state:=.ready,pending:=none,fn:=fn0,tmps:=a.tmps,params:=ps,assign:=assign,body:=body,defers:=D' })→ax [] w w₂ →
      Calls P f (#[.func (.yield q) #[] #[]]++cap) w₂ (fun e w₃=>∃ v r',e = .returned v∧w₃.heap[q]? = some (.loop r')∧r'.state≠.busy∧r'.pending=none∧∀ w₄,ax [q] w₃ w₄→GQ Q .normal n ({ target:=.collected D',args:=#[] } :: D) F w₄))
    (hx:dJ F g=some (.func (.func f) #[] cap):=by kernel_rfl) (hf:zf P f=some (false,true):=by kernel_rfl) : GC P (.rangeFunc g ps assign body) Q n D F w:=by
  obtain⟨fn,h1,h2,h3⟩:=iS hf
  refine⟨fun a ha=>tH cap (ha.ev hx) h1 h2 h3 fun fn0 D' q w₂ g1 g2 g3 g4 g5 g6=>(h a ha fn0 D' q w₂ g1 g2 g3 g4 g5 g6).mono fun e w₃ hh=>?_⟩
  obtain⟨v,r',k1,k2,k3,k4,k5⟩:=hh
  exact⟨v,r',k1,k2,k3,k4,fun w₄ hu=>(k5 w₄ hu).out _ ⟨ha.sz,by rw[ha.df],ha.at_⟩⟩
theorem Av{a:Act}(ha:Ag n D F a)(p:Tmp){v:Value}(h:GI E m P c Q n [] ((p,v) :: F) w)(hp:Nat.blt p n=true:=by kernel_rfl) : c.wpIn E m P Q { tmps:=a.tmps.setIfInBounds p v,defers:=[] } w:=by
  have h0:Ag n [] F { tmps:=a.tmps,defers:=[] }:=⟨ha.sz,rfl,ha.at_⟩
  exact h.out _ (h0.put (d:=some p) hp)
theorem B7{r:Loop}{q:Nat}{c:Code}{Qb:Exit→Act→World→Prop}(h1:w.heap[q]? = some (.loop r))(h2:r.state = .ready)(h:∀ w₂,w₂.heap[q]? = some (.loop { r with state:=.busy })→ax [q] w w₂→GI E m P c Qb n D F w₂) :
    GQ (Exit.then (fun a₁ w₁=>w₁.heap[q]? = some (.loop r)∧r.state = .ready∧∀ w₂,w₂.heap[q]? = some (.loop { r with state:=.busy })→ax [q] w₁ w₂→c.wpIn E m P Qb a₁ w₂) Q) .normal n D F w:=⟨fun a ha=>⟨h1,h2,fun w₂ k1 k2=>(h w₂ k1 k2).out a ha⟩⟩
theorem AY{r:Loop}{q:Nat}{Z:World→Prop}(h1:w.heap[q]? = some (.loop r))(h:∀ w₄,w₄.heap[q]? = some (.loop { r with state:=.ready,pending:=none })→ax [q] w w₄→Z w₄) :
    GQ (Exit.then (fun _ w₃=>∃ r',w₃.heap[q]? = some (.loop r')∧∀ w₄,w₄.heap[q]? = some (.loop { r' with state:=.ready,pending:=none })→ax [q] w₃ w₄→Z w₄) Q) .normal n D F w:=⟨fun a ha=>⟨r,h1,h⟩⟩
end
section
variable {P:Program}{n:Nat}{F:Fr}{w:World}{fn:Func}{R:Ending→World→Prop}
theorem zm{f:FuncId}{c:Code}{args:List Value}{w:World}(n:Nat)(hf:P.funcs[f]? = some fn)(hb:fn.body=some c)
    (h:GC P c (bodyPostM Fence.wide 9 P fn R) n [] (vD 0 args) w) (hn:args.length+(fn.ntmps-args.length)=n:=by kernel_rfl) : Calls P f args.toArray w R:=by
  subst hn
  exact nu hf hb (by simpa using h.out _ (Bo (args:=args) (m:=fn.ntmps-args.length)))
theorem zg{D:Nat}(hD:w.heap[D]? = some (.deferred (some [])))(h:∀ w',ax [D] w w'→GQ (fun _ a w'=>∃ v,(results fn a.tmps).run P w' = .ok v w'∧R (.returned v) w') .ret n [{ target:=.collected D,args:=#[] }] F w') : GQ (bodyPostM Fence.wide 9 P fn R) .ret n [{ target:=.collected D,args:=#[] }] F w :=
  ⟨fun a ha=>yP ha.df hD fun w' hu=>(h w' hu).out a ha⟩
theorem rx{D:List Deferred}{g:Nat}{cs:Array Value}{t:TypeId}{fr:Nat × Nat}(B:w.heap[g]? = some (.cells cs t fr))(u:Value)(h:R (.returned (.tuple #[.agg cs,u])) w)(hc:zj P fn.results F=some (some (.pointer (some ⟨g,0,none⟩)),some u,some true,some cs.size):=by kernel_rfl) : GQ (fun _ a w'=>∃ v,(results fn a.tmps).run P w' = .ok v w'∧R (.returned v) w') .ret n D F w :=
  ⟨fun a ha=>⟨_,jD ha B rfl hc,h⟩⟩
theorem ry{g:Nat}{cs:Array Value}{t:TypeId}{fr:Nat × Nat}(B:w.heap[g]? = some (.cells cs t fr))(u:Value)(h:R (.returned (.tuple #[.agg cs,u])) w)(hc:zj P fn.results F=some (some (.pointer (some ⟨g,0,none⟩)),some u,some true,some cs.size):=by kernel_rfl) : GQ (bodyPostM Fence.wide 9 P fn R) .ret n [] F w :=
  ⟨fun a ha=>vV ha.df ⟨_,jD ha B rfl hc,h⟩⟩
end
open Go.RowKit
def yU (mk:Nat→Value)(w:World)(e:Ending)(w':World) : Prop:=∃ gs,e = .returned (.tuple #[mk gs,.bool true])∧w.heap.size≤gs∧w'.heap[gs]? = some (.cells #[.int .i64 0] 3 (0,0))∧ax [] w w'
def AL (gs:Nat) : Value:=.agg #[.func (.func 126) #[] #[],.func (.func 124) #[] #[.pointer (some ⟨gs,0,none⟩)]]
def AI (gs:Nat) : Value:=.agg #[.func (.func 127) #[] #[],.func (.func 128) #[] #[]]
def AG (gs:Nat) : Value:=.agg #[.func (.func 129) #[] #[],.func (.func 130) #[] #[]]
theorem wG{w:World}:Calls Tryz.prog 91 #[.int .i64 0,.int .u8 20] w (yU AL w):=by
 refine en 27 Tryz.func91 rfl<|sg<|L0<|bI #[.nilFunc,.nilFunc] fun m n g b c=>Pl 1<|ng<|L0<|bI #[.int .i64 0] fun d o a h i=>L0<|cn h 0 #[.int .i64 0] fun p j k=>nt<|sq<|?_
 refine go<|Pl 2<|nt<|sq<|bk<|sg<|Pl 7<|nt<|c1<|sg<|?_
 refine Pl 2<|?_
 have e:=ud i k a
 refine L0<|bf (ub e b) #[.func (.func 126) #[] #[],.func (.func 124) #[] #[.pointer (some ⟨d,0,none⟩)]] fun q l f=>Pl 1<|nt<|rt<|br<|tr<|cU l (.bool true)<|?_
 exact⟨d,rfl,(Nat.le_trans c.size a),(aY f (Ne.symm (nb (al b) lr a)) j),(ud c (uz e f) g)⟩
theorem vM{w:World}:Calls Tryz.prog 91 #[.int .i64 1,.int .u8 20] w (yU AI w):=by
 refine en 27 Tryz.func91 rfl<|sg<|L0<|bI #[.nilFunc,.nilFunc] fun m n f b c=>Pl 1<|ng<|L0<|bI #[.int .i64 0] fun g o a h i=>L0<|cn h 0 #[.int .i64 0] fun p j k=>nt<|sq<|?_
 refine go<|Pl 2<|nt<|sq<|bk<|sg<|Pl 7<|nt<|c0<|sg<|?_
 refine Pl 3<|nt<|c1<|sg<|Pl 1<|?_
 have d:=ud i k a
 refine L0<|bf (ub d b) #[.func (.func 127) #[] #[],.func (.func 128) #[] #[]] fun q l e=>Pl 1<|nt<|rt<|br<|tr<|cU l (.bool true)<|?_
 exact⟨g,rfl,(Nat.le_trans c.size a),(aY e (Ne.symm (nb (al b) lr a)) j),(ud c (uz d e) f)⟩
theorem wW{dir:Int}{w:World}:Calls Tryz.prog 91 #[.int .i64 dir,.int .u8 21] w (yU AG w):=by
 refine en 27 Tryz.func91 rfl<|sg<|L0<|bI #[.nilFunc,.nilFunc] fun m n f b c=>Pl 1<|ng<|L0<|bI #[.int .i64 0] fun g o a h i=>L0<|cn h 0 #[.int .i64 0] fun p j k=>nt<|sq<|?_
 refine go<|Pl 2<|nt<|sq<|bk<|sg<|Pl 7<|nt<|c0<|sg<|?_
 refine Pl 3<|nt<|c0<|sg<|Pl 3<|nt<|c1<|sg<|Pl 1<|?_
 have d:=ud i k a
 refine L0<|bf (ub d b) #[.func (.func 129) #[] #[],.func (.func 130) #[] #[]] fun q l e=>Pl 1<|nt<|rt<|br<|tr<|cU l (.bool true)<|?_
 exact⟨g,rfl,(Nat.le_trans c.size a),(aY e (Ne.symm (nb (al b) lr a)) j),(ud c (uz d e) f)⟩
theorem o4{dir x:Int}{w:World}(n1:(x==20)=false)(n2:(x==21)=false) : Calls Tryz.prog 91 #[.int .i64 dir,.int .u8 x] w (bv (.tuple #[.agg #[.nilFunc,.nilFunc],.bool false]) w):=by
 refine en 27 Tryz.func91 rfl<|sg<|L0<|bI #[.nilFunc,.nilFunc] fun k l b c d=>Pl 1<|ng<|L0<|bI #[.int .i64 0] fun m n e f g=>L0<|cn f 0 #[.int .i64 0] fun o p h=>nt<|sq<|?_
 refine go<|Pl 2<|nt<|sq<|bk<|sg<|Pl 3<|sy 12 n1<|Pl 4<|nt<|c0<|?_
 refine sg<|Pl 3<|nt<|cf n1<|sg<|Pl 3<|nt<|cf n2<|sk<|bn<|?_
 refine tn<|sg<|Pl 1<|?_
 have a:=ud g h e
 refine L0<|bf (ub a c) #[.nilFunc,.nilFunc] fun q i j=>Pl 1<|nt<|rt<|cU i (.bool false)<|?_
 exact⟨rfl,(ud d (uz a j) b)⟩
theorem kf{gb:Nat}{f:Fn}{x y:Array Value}{w:World}:Calls Tryz.prog 95 #[.pointer (some ⟨gb,0,none⟩),.func f x y] w (fun e w'=>∃ b1 b2,e = .returned (.func (.func 131) #[] #[.pointer (some ⟨b1,0,none⟩),.pointer (some ⟨b2,0,none⟩)])∧w.heap.size≤b1∧w.heap.size≤b2∧b1≠b2 ∧
      w'.heap[b1]? = some (.cells #[.pointer (some ⟨gb,0,none⟩)] 143 (0,0))∧w'.heap[b2]? = some (.cells #[.func f x y] 158 (0,0))∧ax [] w w'):=by
 refine en 6 Tryz.func95 rfl<|sg<|L0<|cz #[.pointer (some ⟨gb,0,none⟩)] fun a k i b c=>L0<|cz #[.func f x y] fun d l g j h=>Pl 1<|ng<|Pl 2<|nt<|rt<|?_
 refine rr (.func (.func 131) #[] #[.pointer (some ⟨a,0,none⟩),.pointer (some ⟨d,0,none⟩)])<|?_
 exact⟨a,d,rfl,i,(Nat.le_trans c.size g),(nb (al b) lr g),(ub h b),j,(aE c h)⟩
theorem rF{g gs:Nat}{s:Int}{C:ap}{w:World}(hC:ah w g C)(hS:w.heap[gs]? = some (.cells #[.int .i64 s] 3 (0,0)))(hne:g≠gs)(hs:0≤s∧s≤1000000000000) :
    Calls Tryz.prog 124 #[.pointer (some ⟨g,0,none⟩),.pointer (some ⟨gs,0,none⟩)] w (fun e w'=>∃ A c,e = .returned (.agg #[.int .u16 (bq C).file,.int .u16 (bq C).record,.int .u16 (bq C).count,.slice A (bq C).words.length c])∧dB true w' (.slice A (bq C).words.length c) (bq C).words∧db (bq C).file∧db (bq C).record∧db (bq C).count∧ah w' g (fU s C)∧w'.heap[gs]? = some (.cells #[.int .i64 (ig s C)] 3 (0,0))∧ax [g,gs] w w'):=by
 refine en 19 Tryz.func124 rfl<|sg<|L0<|bI #[.int .u16 0,.int .u16 0,.int .u16 0,.slice none 0 0] fun S T b j d=>ng<|Pl 1<|?_
 refine L0<|Oc<|xQ (oM (ah.old hC d)) fun k l U H I J K m f=>?_
 obtain⟨V,W⟩:=I
 obtain⟨X,Y⟩:=J
 obtain⟨Z,a0⟩:=K
 refine L0<|bI #[.int .u16 0,.int .u16 0,.int .u16 0,.slice none 0 0] fun a1 a2 h L M=>L0<|bf L #[.int .u16 ((bq C).file),.int .u16 ((bq C).record),.int .u16 ((bq C).count),.slice k ((bq C).words.length) l] fun a3 n N=>ng<|?_
 have o:=ud M N h
 have p:=aE f o
 have q:=aY (uz d p) (Ne.symm hne) hS
 refine L0<|aN q 0<|Pl 1<|L0<|aN n 2<|L0<|Oi ((bq C).count)<|L0<|Oi (2*((bq C).count))<|L0<|Oi (2+(2*((bq C).count)))<|L0<|Oi (s+(2+(2*((bq C).count))))<|L0<|cn q 0 #[.int .i64 (s+(2+(2*((bq C).count))))] fun a4 r t=>ng<|Pl 1<|L0<|aN r 0<|?_
 refine Pl 1<|?_
 have u:=uz o t
 have a:=uz d f
 have v:=aY a (Ne.symm hne) hS
 refine L0<|Oc<|m2 (aU ((decide ((s+(2+(2*((bq C).count))))≤245))) 5 (ah.upd m u (ae hne ay) (ak (aL v (by decide)) aD))) fun a5 O y=>?_
 refine ab O fun x47 P Q=>?_
 refine ng<|?_
 have z:=us t y
 refine L0<|bZ (ax.blk z (ae (Ne.symm (nb (al hS) a.size h)) (ae (Ne.symm (nb (ah.lt hC) a.size h)) ay)) n)<|?_
 have i:=nb (ah.lt hC) lr b
 have B:=nb (al hS) lr b
 have D:=ax.blk (ui p z) (ae (Ne.symm B) (ae (Ne.symm i) ay)) j
 refine L0<|bf D #[.int .u16 ((bq C).file),.int .u16 ((bq C).record),.int .u16 ((bq C).count),.slice k ((bq C).words.length) l] fun a6 R E=>nt<|rt<|ze R<|?_
 subst P
 have F:=us y E
 have G:=us u F
 exact⟨_,_,rfl,(dB.upd' H G (ak (aL v (by decide)) (ak (ah.safe m _ (by decide)) (ak (aL (aY f (Ne.symm i) j) (by decide)) aD)))),aK (x:=(bq C).file) (by omega),aK (x:=(bq C).record) (by omega),aK (x:=(bq C).count) (by omega),(ah.upd Q E (ae i ay) (ak (aL D (by decide)) aD)),(ax.blk F (ae (Ne.symm hne) (ae B ay)) r),(ut (ax.mono (S':=[g,gs]) a (ac im aq)) G (ac im (ac im (ac (nr b) aq))))⟩
def fo (c:Int)(v:Value) : Array Value:=#[.int .u8 c,.int .u8 0,.int .u16 0,.int .u16 0,.int .u16 0,.int .u16 0,.int .u16 0,.int .u16 0,.int .u16 0,.int .u16 0,.int .u16 0,.int .u16 0,gE,gE,gE,v,.int .u8 0,.int .u8 0,.int .u8 0,.int .u8 0,.int .u8 0,gE]
structure JR (w0:World) (gb gs gm l:Nat) (c:Int) (r:Loop) (C:ap) (s:Int) (L:List eq) (A:Option Addr) (cp:Nat) (W:World) : Prop where
  u:ax [gb,gs,gm,l] w0 W
  hC:ah W gb C
  hS:W.heap[gs]? = some (.cells #[.int .i64 s] 3 (0,0))
  hm:W.heap[gm]? = some (.cells (fo c (.slice A L.length cp)) 31 (0,0))
  ho:aJ w0.heap.size 83 4 (bA true) W (.slice A L.length cp) L
  hl:W.heap[l]? = some (.loop r)
def eO (s:Int)(C:ap) : Int × ap × eq:=(ig s C,fU s C,bq C)
def dp (s:Int)(C:ap) : Int × ap × eq:=(s,hZ C,gk C)
def eV (s:Int)(C:ap) : Int × ap × eq:=(s,la C,jx C)
def bh (one:Int→ap→Int × ap × eq) : Nat→Int→ap→List eq→ap × List eq
  | 0,_,C,L=>(C,L)
  | n+1,s,C,L =>
    if decide (0<(C.l.length:Int))&&C.e==0 then
      (if (one s C).2.1.e != 0 then ((one s C).2.1,L) else bh one n (one s C).1 (one s C).2.1 (L++[(one s C).2.2]))
    else (C,L)
theorem ij(C:ap)(n:Int) : (C.bytesC n).l.length≤C.l.length:=by
  unfold ap.bytesC
  split
  · unfold ap.need
    split<;>simp
  · simp
theorem kQ(C:ap)(h:0<C.l.length) : (C.bytesC 1).l.length<C.l.length:=by
  unfold ap.bytesC
  split
  · unfold ap.need
    split<;>simpa using h
  · simp
    omega
theorem dT(C:ap)(b:Bool)(e:Int) : (C.need b e).l.length=C.l.length:=by
  unfold ap.need
  split<;>rfl
theorem ep(C:ap)(n:Int) : (C.wordsC n).l.length≤C.l.length:=by
  unfold ap.wordsC
  split<;>exact ij ..
theorem nH(C:ap)(h:0<C.l.length) : (iV C).l.length<C.l.length:=by
  have h1:(qQ C).l.length<C.l.length:=by unfold qQ;rw[dT];exact kQ C h
  have h2:(pu C).l.length≤(qQ C).l.length:=by unfold pu;rw[dT];exact ep ..
  have h3:(tD C).l.length≤(pu C).l.length:=by unfold tD;rw[dT];exact ep ..
  have h4:(iV C).l.length≤(tD C).l.length:=by unfold iV;rw[dT];exact ep ..
  omega
theorem wn(s:Int)(C:ap)(h:0<C.l.length) : (eO s C).2.1.l.length<C.l.length:=by
  show(fU s C).l.length<_
  unfold fU
  rw[dT]
  exact nH C h
theorem vJ(s:Int)(C:ap)(h:0<C.l.length) : (dp s C).2.1.l.length<C.l.length:=by
  show(hZ C).l.length<_
  have h1:(oA C).l.length<C.l.length:=by unfold oA;rw[dT];exact kQ C h
  have h2:(oD C).l.length≤(oA C).l.length:=by unfold oD;rw[dT];exact ij ..
  have h3:(hZ C).l.length≤(oD C).l.length:=by unfold hZ;exact ep ..
  omega
theorem wb(s:Int)(C:ap)(h:0<C.l.length) : (eV s C).2.1.l.length<C.l.length:=by
  show(la C).l.length<_
  have h1:=nH C h
  have h2:(ve C).l.length=(iV C).l.length:=by unfold ve;rw[dT]
  have h3:(la C).l.length≤(ve C).l.length:=by unfold la;exact ep ..
  omega
theorem i4(one:Int→ap→Int × ap × eq)(n:Nat)(s:Int)(C:ap)(L:List eq)(h:(decide (0<(C.l.length:Int))&&C.e==0)=false) : bh one n s C L=(C,L):=by
  cases n with
  | zero=>rfl
  | succ n=>simp only[bh,h,Bool.false_eq_true,if_false]
open Go.RowKit
def dm (fn0:FuncId)(tm:Array Value)(asg bdy:Code)(D:Nat) : Loop:={ state:=.ready,pending:=none,fn:=fn0,tmps:=tm,params:=#[53],assign:=asg,body:=bdy,defers:=D }
def qk (w:World)(gb gs gm l:Nat)(c:Int)(R:Loop) : Prop:=∀ (W:World)(C:ap)(s:Int)(L:List eq)(A:Option Addr)(cp:Nat)(x:eq)(Ax:Option Addr)(cx:Nat),JR w gb gs gm l c R C s L A cp W→dB true W (.slice Ax x.words.length cx) x.words→db x.file→db x.record→db x.count→L.length≤1048576 →
    RoundIn Fence.wide 8 Tryz.prog l R.fn (R.tmps.setIfInBounds 53 (.agg #[.int .u16 x.file,.int .u16 x.record,.int .u16 x.count,.slice Ax x.words.length cx])) R.assign R.body W (fun e W'=>e = .returned (.bool true)∧W.heap.size≤W'.heap.size∧∃ A2 c2,JR w gb gs gm l c R C s (L++[x]) A2 c2 W')
theorem yL{w:World}{gb gs gm l b1 b2 fn0 D:Nat}{tm:Array Value}{asg bdy:Code}{c:Int}{C0:ap}(hC:ah w gb C0)(hS:w.heap[gs]? = some (.cells #[.int .i64 0] 3 (0,0)))(hm:w.heap[gm]? = some (.cells (fo c gE) 31 (0,0)))
    (hl:w.heap[l]? = some (.loop (dm fn0 tm asg bdy D))) (hb1:w.heap[b1]? = some (.cells #[.pointer (some ⟨gb,0,none⟩)] 143 (0,0))) (hb2:w.heap[b2]? = some (.cells #[.func (.func 124) #[] #[.pointer (some ⟨gs,0,none⟩)]] 158 (0,0)))
    (n1:gb≠gs) (n2:gb≠gm) (n3:gb≠l) (n4:gs≠gm) (n5:gs≠l) (n6:gm≠l) (m1:b1≠gb) (m2:b1≠gs) (m3:b1≠gm) (m4:b1≠l) (k1:b2≠gb) (k2:b2≠gs) (k3:b2≠gm) (k4:b2≠l) (hround:qk w gb gs gm l c (dm fn0 tm asg bdy D)) :
    Calls Tryz.prog 131 #[.func (.yield l) #[] #[],.pointer (some ⟨b1,0,none⟩),.pointer (some ⟨b2,0,none⟩)] w (fun e W=>e = .returned (.tuple #[])∧∃ s A cp,JR w gb gs gm l c (dm fn0 tm asg bdy D) (bh eO C0.l.length 0 C0 []).1 s (bh eO C0.l.length 0 C0 []).2 A cp W):=by
 have hlen:=hC.len
 refine en 25 Tryz.func131 rfl<|bk<|?_
 refine ir (fun x=>[(0,.func (.yield l) #[] #[]),(1,.pointer (some ⟨b1,0,none⟩)),(2,.pointer (some ⟨b2,0,none⟩))]) (fun(x:Nat × ap × Int × List eq × Option Addr × Nat) w'=>ax [gb,gs,gm,l] w w'∧ah w' gb x.2.1∧w'.heap[gs]? = some (.cells #[.int .i64 x.2.2.1] 3 (0,0))∧w'.heap[gm]? = some (.cells (fo c (.slice x.2.2.2.2.1 x.2.2.2.1.length x.2.2.2.2.2)) 31 (0,0))∧w'.heap[l]? = some (.loop (dm fn0 tm asg bdy D))∧aJ w.heap.size 83 4 (bA true) w' (.slice x.2.2.2.2.1 x.2.2.2.1.length x.2.2.2.2.2) x.2.2.2.1∧(bh eO x.1 x.2.2.1 x.2.1 x.2.2.2.1=bh eO C0.l.length 0 C0 [])∧(x.2.1.l.length≤x.1)∧(0≤x.2.2.1∧x.2.2.1≤131074*(x.2.2.2.1.length:Int))∧(x.2.2.2.1.length+x.1≤C0.l.length)) (fun x=>x.1) (C0.l.length,C0,0,[],none,0) ⟨ax.refl _ _,hC,hS,hm,hl,aJ.nil ..,rfl,(Nat.le_refl _),(by(try dsimp only);omega),(by(try dsimp only);(try simp only[List.length_nil]);omega)⟩ ?_
 rintro⟨n,C,s,L,A,cp⟩ h ⟨m,J,M,N,O,P,Q,R,S,T⟩
 refine it [(0,.func (.yield l) #[] #[]),(1,.pointer (some ⟨b1,0,none⟩)),(2,.pointer (some ⟨b2,0,none⟩))] ?_
 have b:ah h gb C:=J
 have o:h.heap[gs]? = some (.cells #[.int .i64 s] 3 (0,0)):=M
 have t:h.heap[gm]? = some (.cells (fo c (.slice A L.length cp)) 31 (0,0)):=N
 have v:h.heap[l]? = some (.loop (dm fn0 tm asg bdy D)):=O
 have d:aJ w.heap.size 83 4 (bA true) h (.slice A L.length cp) L:=P
 have ad:bh eO n s C L=bh eO C0.l.length 0 C0 []:=Q
 have af:C.l.length≤n:=R
 have ag:0≤s∧s≤131074*(L.length:Int):=S
 have am:L.length+n≤C0.l.length:=T
 have hrec:bh eO n s C L=bh eO C0.l.length 0 C0 []:=by assumption
 refine sq<|sg<|?_
 have p:=ax.blk m (ae m1 (ae m2 (ae m3 (ae m4 ay)))) hb1
 refine L0<|aN p 0<|L0<|Oc<|mq (dq b)<|?_
 have an:=ah.len b
 refine Pl 2<|cu 4 [8] 12 (((decide (0<((C.l.length:Nat) : Int)))&&(C.e==0))) (fun K B=>?_) ?_
 refine bl 8 ((decide (0<((C.l.length:Nat) : Int)))) (fun i=>?_) (fun i=>?_)
 have U:=of_decide_eq_true i
 refine L1<|aN p 0<|L1<|Oc<|mq (bi b)<|?_
 have ao:=ah.len b
 exact Pl 2<|ce B (C.e==0) (by rw[i];rfl)
 have U:=of_decide_eq_false i
 exact Pl 4<|ce B false (by rw[i];rfl)
 refine nt<|cb (((decide (0<((C.l.length:Nat) : Int)))&&(C.e==0))) (fun f=>?_) (fun f=>?_)
 have y:=(bH f).1
 have z:=(bH f).2
 have ar:=of_decide_eq_true y
 have au:=az z
 refine bG<|bk<|sg<|?_
 refine L0<|aN (ax.blk m (ae k1 (ae k2 (ae k3 (ae k4 ay)))) hb2) 0<|L0<|aN p 0<|L0<|fb #[] #[.pointer (some ⟨gs,0,none⟩)] (args:=#[.pointer (some ⟨gb,0,none⟩),.pointer (some ⟨gs,0,none⟩)])<|BB (rF (s:=s) b o n1 (by omega)) fun E F av V X Y Z a0 G a1=>?_
 have aw:ig s C=s+(2+2*(bq C).count):=rfl
 obtain⟨aC,aF⟩:=X
 obtain⟨aG,aH⟩:=Y
 obtain⟨aI,aM⟩:=Z
 refine L0<|bI #[.int .u16 0,.int .u16 0,.int .u16 0,.slice none 0 0] fun aO aP a2 a3 a4=>L0<|bf a3 #[.int .u16 ((bq C).file),.int .u16 ((bq C).record),.int .u16 ((bq C).count),.slice E ((bq C).words.length) F] fun a5 a6 a7=>nt<|sq<|AK 9<|?_
 have j:=ud a4 a7 a2
 have a:=aE a1 j
 refine F0<|aN (ax.blk a (ae m1 (ae m2 ay)) p) 0<|?_
 have q:=ah.old a0 j
 refine F0<|Oc<|mq (bi q)<|?_
 have aQ:=ah.len q
 refine Fp<|Fp<|?_
 have H:=ut m a (ac im (ac im aq))
 refine AF 19 ((((fU s C).e)!=0)) (fun k=>?_) (fun k=>?_)
 have a8:=aA k
 refine Fp<|Fp<|Fp<|Fp<|Fp<|tz<|tn<|c1<|rt<|br<|tr<|br<|rr (.tuple #[])<|?_
 have hfin:bh eO C0.l.length 0 C0 []=((fU s C),L):=by
   rw[← hrec]
   rw[show n=(n-1)+1 from by omega]
   simp only[bh,eO,f,y,z,k,bs,if_true,if_false,decide_true,decide_false,reduceIte]
 refine⟨rfl,(ig s C),A,cp,?_⟩
 rw[hfin]
 exact⟨H,q,(ub j G),(ax.blk a (ae (Ne.symm n2) (ae (Ne.symm n4) ay)) t),(aj d a (fun x hx=>(ae (fun e=>(aB (ah.lt hC) lr d) (e▸hx)) (ae (fun e=>(aB (al hS) lr d) (e▸hx)) ay))) (bA.upd16 a (ak (ah.safe b _ (by decide)) (ak (aL o (by decide)) aD)))),(ax.blk a (ae (Ne.symm n3) (ae (Ne.symm n5) ay)) v)⟩
 have a8:=ai k
 refine Fp<|F0<|bZ a6<|?_
 have I:=ax.blk a (ae (Ne.symm n3) (ae (Ne.symm n5) ay)) v
 have a9:JR w gb gs gm l c (dm fn0 tm asg bdy D) (fU s C) (ig s C) L A cp a5:=⟨H,q,(ub j G),(ax.blk a (ae (Ne.symm n2) (ae (Ne.symm n4) ay)) t),(aj d a (fun x hx=>(ae (fun e=>(aB (ah.lt hC) lr d) (e▸hx)) (ae (fun e=>(aB (al hS) lr d) (e▸hx)) ay))) (bA.upd16 a (ak (ah.safe b _ (by decide)) (ak (aL o (by decide)) aD)))),I⟩
 refine Fy (r:=dm fn0 tm asg bdy D) (.agg #[.int .u16 ((bq C).file),.int .u16 ((bq C).record),.int .u16 ((bq C).count),.slice E ((bq C).words.length) F]) 53 I rfl<|?_
 refine RoundIn.mono (hround _ _ _ _ _ _ (bq C) _ _ a9 (dB.upd' V j aD) (aK (by omega)) (aK (by omega)) (aK (by omega)) (by omega)) ?_
 rintro _ aR ⟨rfl,aS,aa,ab,g⟩
 refine⟨_,rfl,?_⟩
 exact Fp<|Fp<|tz<|tn<|c0<|sk<|bn<|er ((n-1),(fU s C),(ig s C),(L++[(bq C)]),aa,ab) ⟨g.u,g.hC,g.hS,g.hm,g.hl,g.ho,(by(try dsimp only);rw[← hrec,show n=(n-1)+1 from by omega];simp only[bh,eO,f,y,z,k,bs,if_true,if_false,decide_true,decide_false,Nat.add_sub_cancel,reduceIte]),(by(try dsimp only);have hd:=wn s C (by omega);have pu:(eO s C).2.1.l.length=(fU s C).l.length:=rfl;omega),(by(try dsimp only);simp only[List.length_append,List.length_cons,List.length_nil];omega),(by(try dsimp only);simp only[List.length_append,List.length_cons,List.length_nil];omega)⟩ (by omega)
 refine xt<|tx<|tx<|bx<|rm (.tuple #[])<|?_
 have hfin:bh eO C0.l.length 0 C0 []=(C,L):=by
   rw[← hrec]
   exact i4 _ _ _ _ _ (by simp only[f,bs,if_true,if_false,decide_true,decide_false])
 refine⟨rfl,s,A,cp,?_⟩
 rw[hfin]
 exact⟨m,b,o,t,d,v⟩
theorem yy{w:World}{gb gs gm l b1 b2 fn0 D:Nat}{tm:Array Value}{asg bdy:Code}{c:Int}{C0:ap}(hC:ah w gb C0)(hS:w.heap[gs]? = some (.cells #[.int .i64 0] 3 (0,0)))(hm:w.heap[gm]? = some (.cells (fo c gE) 31 (0,0)))
    (hl:w.heap[l]? = some (.loop (dm fn0 tm asg bdy D))) (hb1:w.heap[b1]? = some (.cells #[.pointer (some ⟨gb,0,none⟩)] 143 (0,0))) (hb2:w.heap[b2]? = some (.cells #[.func (.func 128) #[] #[]] 158 (0,0)))
    (n1:gb≠gs) (n2:gb≠gm) (n3:gb≠l) (n4:gs≠gm) (n5:gs≠l) (n6:gm≠l) (m1:b1≠gb) (m2:b1≠gs) (m3:b1≠gm) (m4:b1≠l) (k1:b2≠gb) (k2:b2≠gs) (k3:b2≠gm) (k4:b2≠l) (hround:qk w gb gs gm l c (dm fn0 tm asg bdy D)) :
    Calls Tryz.prog 131 #[.func (.yield l) #[] #[],.pointer (some ⟨b1,0,none⟩),.pointer (some ⟨b2,0,none⟩)] w (fun e W=>e = .returned (.tuple #[])∧∃ s A cp,JR w gb gs gm l c (dm fn0 tm asg bdy D) (bh dp C0.l.length 0 C0 []).1 s (bh dp C0.l.length 0 C0 []).2 A cp W):=by
 have hlen:=hC.len
 refine en 25 Tryz.func131 rfl<|bk<|?_
 refine ir (fun x=>[(0,.func (.yield l) #[] #[]),(1,.pointer (some ⟨b1,0,none⟩)),(2,.pointer (some ⟨b2,0,none⟩))]) (fun(x:Nat × ap × Int × List eq × Option Addr × Nat) w'=>ax [gb,gs,gm,l] w w'∧ah w' gb x.2.1∧w'.heap[gs]? = some (.cells #[.int .i64 x.2.2.1] 3 (0,0))∧w'.heap[gm]? = some (.cells (fo c (.slice x.2.2.2.2.1 x.2.2.2.1.length x.2.2.2.2.2)) 31 (0,0))∧w'.heap[l]? = some (.loop (dm fn0 tm asg bdy D))∧aJ w.heap.size 83 4 (bA true) w' (.slice x.2.2.2.2.1 x.2.2.2.1.length x.2.2.2.2.2) x.2.2.2.1∧(bh dp x.1 x.2.2.1 x.2.1 x.2.2.2.1=bh dp C0.l.length 0 C0 [])∧(x.2.1.l.length≤x.1)∧(0≤x.2.2.1∧x.2.2.1≤131074*(x.2.2.2.1.length:Int))∧(x.2.2.2.1.length+x.1≤C0.l.length)) (fun x=>x.1) (C0.l.length,C0,0,[],none,0) ⟨ax.refl _ _,hC,hS,hm,hl,aJ.nil ..,rfl,(Nat.le_refl _),(by(try dsimp only);omega),(by(try dsimp only);(try simp only[List.length_nil]);omega)⟩ ?_
 rintro⟨n,C,s,L,A,cp⟩ g ⟨k,I,J,M,N,O,P,Q,R,S⟩
 refine it [(0,.func (.yield l) #[] #[]),(1,.pointer (some ⟨b1,0,none⟩)),(2,.pointer (some ⟨b2,0,none⟩))] ?_
 have b:ah g gb C:=I
 have p:g.heap[gs]? = some (.cells #[.int .i64 s] 3 (0,0)):=J
 have q:g.heap[gm]? = some (.cells (fo c (.slice A L.length cp)) 31 (0,0)):=M
 have t:g.heap[l]? = some (.loop (dm fn0 tm asg bdy D)):=N
 have h:aJ w.heap.size 83 4 (bA true) g (.slice A L.length cp) L:=O
 have ab:bh dp n s C L=bh dp C0.l.length 0 C0 []:=P
 have ac:C.l.length≤n:=Q
 have ad:0≤s∧s≤131074*(L.length:Int):=R
 have af:L.length+n≤C0.l.length:=S
 have hrec:bh dp n s C L=bh dp C0.l.length 0 C0 []:=by assumption
 refine sq<|sg<|?_
 have m:=ax.blk k (ae m1 (ae m2 (ae m3 (ae m4 ay)))) hb1
 refine L0<|aN m 0<|L0<|Oc<|mq (dq b)<|?_
 have ag:=ah.len b
 refine Pl 2<|cu 4 [8] 12 (((decide (0<((C.l.length:Nat) : Int)))&&(C.e==0))) (fun K B=>?_) ?_
 refine bl 8 ((decide (0<((C.l.length:Nat) : Int)))) (fun i=>?_) (fun i=>?_)
 have T:=of_decide_eq_true i
 refine L1<|aN m 0<|L1<|Oc<|mq (bi b)<|?_
 have al:=ah.len b
 exact Pl 2<|ce B (C.e==0) (by rw[i];rfl)
 have T:=of_decide_eq_false i
 exact Pl 4<|ce B false (by rw[i];rfl)
 refine nt<|cb (((decide (0<((C.l.length:Nat) : Int)))&&(C.e==0))) (fun d=>?_) (fun d=>?_)
 have v:=(bH d).1
 have y:=(bH d).2
 have am:=of_decide_eq_true v
 have an:=az y
 refine bG<|bk<|sg<|?_
 refine L0<|aN (ax.blk k (ae k1 (ae k2 (ae k3 (ae k4 ay)))) hb2) 0<|L0<|aN m 0<|L0<|fb #[] #[] (args:=#[.pointer (some ⟨gb,0,none⟩)])<|xQ (sD b) fun E F ao U V X Y Z a0=>?_
 obtain⟨aq,ar⟩:=V
 obtain⟨au,av⟩:=X
 obtain⟨aw,aC⟩:=Y
 refine L0<|bI #[.int .u16 0,.int .u16 0,.int .u16 0,.slice none 0 0] fun aF aG a1 a2 a3=>L0<|bf a2 #[.int .u16 ((gk C).file),.int .u16 ((gk C).record),.int .u16 ((gk C).count),.slice E ((gk C).words.length) F] fun a4 a5 a6=>nt<|sq<|AK 9<|?_
 have z:=ud a3 a6 a1
 have a:=aE a0 z
 refine F0<|aN (aY a m1 m) 0<|?_
 have o:=ah.old Z z
 refine F0<|Oc<|mq (bi o)<|?_
 have aH:=ah.len o
 refine Fp<|Fp<|?_
 have G:=u1 k a im
 refine AF 19 ((((hZ C).e)!=0)) (fun j=>?_) (fun j=>?_)
 have a7:=aA j
 refine Fp<|Fp<|Fp<|Fp<|Fp<|tz<|tn<|c1<|rt<|br<|tr<|br<|rr (.tuple #[])<|?_
 have hfin:bh dp C0.l.length 0 C0 []=((hZ C),L):=by
   rw[← hrec]
   rw[show n=(n-1)+1 from by omega]
   simp only[bh,dp,d,v,y,j,bs,if_true,if_false,decide_true,decide_false,reduceIte]
 refine⟨rfl,s,A,cp,?_⟩
 rw[hfin]
 exact⟨G,o,(aY a (Ne.symm n1) p),(aY a (Ne.symm n2) q),(aj h a (fun x hx=>(ae (fun e=>(aB (ah.lt hC) lr h) (e▸hx)) ay)) (bA.upd16 a (ak (ah.safe b _ (by decide)) aD))),(aY a (Ne.symm n3) t)⟩
 have a7:=ai j
 refine Fp<|F0<|bZ a5<|?_
 have H:=aY a (Ne.symm n3) t
 have a8:JR w gb gs gm l c (dm fn0 tm asg bdy D) (hZ C) s L A cp a4:=⟨G,o,(aY a (Ne.symm n1) p),(aY a (Ne.symm n2) q),(aj h a (fun x hx=>(ae (fun e=>(aB (ah.lt hC) lr h) (e▸hx)) ay)) (bA.upd16 a (ak (ah.safe b _ (by decide)) aD))),H⟩
 refine Fy (r:=dm fn0 tm asg bdy D) (.agg #[.int .u16 ((gk C).file),.int .u16 ((gk C).record),.int .u16 ((gk C).count),.slice E ((gk C).words.length) F]) 53 H rfl<|?_
 refine RoundIn.mono (hround _ _ _ _ _ _ (gk C) _ _ a8 (dB.upd' U z aD) (aK (by omega)) (aK (by omega)) (aK (by omega)) (by omega)) ?_
 rintro _ aI ⟨rfl,aL,a9,aa,f⟩
 refine⟨_,rfl,?_⟩
 exact Fp<|Fp<|tz<|tn<|c0<|sk<|bn<|er ((n-1),(hZ C),s,(L++[(gk C)]),a9,aa) ⟨f.u,f.hC,f.hS,f.hm,f.hl,f.ho,(by(try dsimp only);rw[← hrec,show n=(n-1)+1 from by omega];simp only[bh,dp,d,v,y,j,bs,if_true,if_false,decide_true,decide_false,Nat.add_sub_cancel,reduceIte]),(by(try dsimp only);have hd:=vJ s C (by omega);have pu:(dp s C).2.1.l.length=(hZ C).l.length:=rfl;omega),(by(try dsimp only);simp only[List.length_append,List.length_cons,List.length_nil];omega),(by(try dsimp only);simp only[List.length_append,List.length_cons,List.length_nil];omega)⟩ (by omega)
 refine xt<|tx<|tx<|bx<|rm (.tuple #[])<|?_
 have hfin:bh dp C0.l.length 0 C0 []=(C,L):=by
   rw[← hrec]
   exact i4 _ _ _ _ _ (by simp only[d,bs,if_true,if_false,decide_true,decide_false])
 refine⟨rfl,s,A,cp,?_⟩
 rw[hfin]
 exact⟨k,b,p,q,h,t⟩
theorem yX{w:World}{gb gs gm l b1 b2 fn0 D:Nat}{tm:Array Value}{asg bdy:Code}{c:Int}{C0:ap}(hC:ah w gb C0)(hS:w.heap[gs]? = some (.cells #[.int .i64 0] 3 (0,0)))(hm:w.heap[gm]? = some (.cells (fo c gE) 31 (0,0)))
    (hl:w.heap[l]? = some (.loop (dm fn0 tm asg bdy D))) (hb1:w.heap[b1]? = some (.cells #[.pointer (some ⟨gb,0,none⟩)] 143 (0,0))) (hb2:w.heap[b2]? = some (.cells #[.func (.func 130) #[] #[]] 158 (0,0)))
    (n1:gb≠gs) (n2:gb≠gm) (n3:gb≠l) (n4:gs≠gm) (n5:gs≠l) (n6:gm≠l) (m1:b1≠gb) (m2:b1≠gs) (m3:b1≠gm) (m4:b1≠l) (k1:b2≠gb) (k2:b2≠gs) (k3:b2≠gm) (k4:b2≠l) (hround:qk w gb gs gm l c (dm fn0 tm asg bdy D)) :
    Calls Tryz.prog 131 #[.func (.yield l) #[] #[],.pointer (some ⟨b1,0,none⟩),.pointer (some ⟨b2,0,none⟩)] w (fun e W=>e = .returned (.tuple #[])∧∃ s A cp,JR w gb gs gm l c (dm fn0 tm asg bdy D) (bh eV C0.l.length 0 C0 []).1 s (bh eV C0.l.length 0 C0 []).2 A cp W):=by
 have hlen:=hC.len
 refine en 25 Tryz.func131 rfl<|bk<|?_
 refine ir (fun x=>[(0,.func (.yield l) #[] #[]),(1,.pointer (some ⟨b1,0,none⟩)),(2,.pointer (some ⟨b2,0,none⟩))]) (fun(x:Nat × ap × Int × List eq × Option Addr × Nat) w'=>ax [gb,gs,gm,l] w w'∧ah w' gb x.2.1∧w'.heap[gs]? = some (.cells #[.int .i64 x.2.2.1] 3 (0,0))∧w'.heap[gm]? = some (.cells (fo c (.slice x.2.2.2.2.1 x.2.2.2.1.length x.2.2.2.2.2)) 31 (0,0))∧w'.heap[l]? = some (.loop (dm fn0 tm asg bdy D))∧aJ w.heap.size 83 4 (bA true) w' (.slice x.2.2.2.2.1 x.2.2.2.1.length x.2.2.2.2.2) x.2.2.2.1∧(bh eV x.1 x.2.2.1 x.2.1 x.2.2.2.1=bh eV C0.l.length 0 C0 [])∧(x.2.1.l.length≤x.1)∧(0≤x.2.2.1∧x.2.2.1≤131074*(x.2.2.2.1.length:Int))∧(x.2.2.2.1.length+x.1≤C0.l.length)) (fun x=>x.1) (C0.l.length,C0,0,[],none,0) ⟨ax.refl _ _,hC,hS,hm,hl,aJ.nil ..,rfl,(Nat.le_refl _),(by(try dsimp only);omega),(by(try dsimp only);(try simp only[List.length_nil]);omega)⟩ ?_
 rintro⟨n,C,s,L,A,cp⟩ g ⟨k,I,J,M,N,O,P,Q,R,S⟩
 refine it [(0,.func (.yield l) #[] #[]),(1,.pointer (some ⟨b1,0,none⟩)),(2,.pointer (some ⟨b2,0,none⟩))] ?_
 have b:ah g gb C:=I
 have p:g.heap[gs]? = some (.cells #[.int .i64 s] 3 (0,0)):=J
 have q:g.heap[gm]? = some (.cells (fo c (.slice A L.length cp)) 31 (0,0)):=M
 have t:g.heap[l]? = some (.loop (dm fn0 tm asg bdy D)):=N
 have h:aJ w.heap.size 83 4 (bA true) g (.slice A L.length cp) L:=O
 have ab:bh eV n s C L=bh eV C0.l.length 0 C0 []:=P
 have ac:C.l.length≤n:=Q
 have ad:0≤s∧s≤131074*(L.length:Int):=R
 have af:L.length+n≤C0.l.length:=S
 have hrec:bh eV n s C L=bh eV C0.l.length 0 C0 []:=by assumption
 refine sq<|sg<|?_
 have m:=ax.blk k (ae m1 (ae m2 (ae m3 (ae m4 ay)))) hb1
 refine L0<|aN m 0<|L0<|Oc<|mq (dq b)<|?_
 have ag:=ah.len b
 refine Pl 2<|cu 4 [8] 12 (((decide (0<((C.l.length:Nat) : Int)))&&(C.e==0))) (fun K B=>?_) ?_
 refine bl 8 ((decide (0<((C.l.length:Nat) : Int)))) (fun i=>?_) (fun i=>?_)
 have T:=of_decide_eq_true i
 refine L1<|aN m 0<|L1<|Oc<|mq (bi b)<|?_
 have al:=ah.len b
 exact Pl 2<|ce B (C.e==0) (by rw[i];rfl)
 have T:=of_decide_eq_false i
 exact Pl 4<|ce B false (by rw[i];rfl)
 refine nt<|cb (((decide (0<((C.l.length:Nat) : Int)))&&(C.e==0))) (fun d=>?_) (fun d=>?_)
 have v:=(bH d).1
 have y:=(bH d).2
 have am:=of_decide_eq_true v
 have an:=az y
 refine bG<|bk<|sg<|?_
 refine L0<|aN (ax.blk k (ae k1 (ae k2 (ae k3 (ae k4 ay)))) hb2) 0<|L0<|aN m 0<|L0<|fb #[] #[] (args:=#[.pointer (some ⟨gb,0,none⟩)])<|xQ (we b) fun E F ao U V X Y Z a0=>?_
 obtain⟨aq,ar⟩:=V
 obtain⟨au,av⟩:=X
 obtain⟨aw,aC⟩:=Y
 refine L0<|bI #[.int .u16 0,.int .u16 0,.int .u16 0,.slice none 0 0] fun aF aG a1 a2 a3=>L0<|bf a2 #[.int .u16 ((jx C).file),.int .u16 ((jx C).record),.int .u16 ((jx C).count),.slice E ((jx C).words.length) F] fun a4 a5 a6=>nt<|sq<|AK 9<|?_
 have z:=ud a3 a6 a1
 have a:=aE a0 z
 refine F0<|aN (aY a m1 m) 0<|?_
 have o:=ah.old Z z
 refine F0<|Oc<|mq (bi o)<|?_
 have aH:=ah.len o
 refine Fp<|Fp<|?_
 have G:=u1 k a im
 refine AF 19 ((((la C).e)!=0)) (fun j=>?_) (fun j=>?_)
 have a7:=aA j
 refine Fp<|Fp<|Fp<|Fp<|Fp<|tz<|tn<|c1<|rt<|br<|tr<|br<|rr (.tuple #[])<|?_
 have hfin:bh eV C0.l.length 0 C0 []=((la C),L):=by
   rw[← hrec]
   rw[show n=(n-1)+1 from by omega]
   simp only[bh,eV,d,v,y,j,bs,if_true,if_false,decide_true,decide_false,reduceIte]
 refine⟨rfl,s,A,cp,?_⟩
 rw[hfin]
 exact⟨G,o,(aY a (Ne.symm n1) p),(aY a (Ne.symm n2) q),(aj h a (fun x hx=>(ae (fun e=>(aB (ah.lt hC) lr h) (e▸hx)) ay)) (bA.upd16 a (ak (ah.safe b _ (by decide)) aD))),(aY a (Ne.symm n3) t)⟩
 have a7:=ai j
 refine Fp<|F0<|bZ a5<|?_
 have H:=aY a (Ne.symm n3) t
 have a8:JR w gb gs gm l c (dm fn0 tm asg bdy D) (la C) s L A cp a4:=⟨G,o,(aY a (Ne.symm n1) p),(aY a (Ne.symm n2) q),(aj h a (fun x hx=>(ae (fun e=>(aB (ah.lt hC) lr h) (e▸hx)) ay)) (bA.upd16 a (ak (ah.safe b _ (by decide)) aD))),H⟩
 refine Fy (r:=dm fn0 tm asg bdy D) (.agg #[.int .u16 ((jx C).file),.int .u16 ((jx C).record),.int .u16 ((jx C).count),.slice E ((jx C).words.length) F]) 53 H rfl<|?_
 refine RoundIn.mono (hround _ _ _ _ _ _ (jx C) _ _ a8 (dB.upd' U z aD) (aK (by omega)) (aK (by omega)) (aK (by omega)) (by omega)) ?_
 rintro _ aI ⟨rfl,aL,a9,aa,f⟩
 refine⟨_,rfl,?_⟩
 exact Fp<|Fp<|tz<|tn<|c0<|sk<|bn<|er ((n-1),(la C),s,(L++[(jx C)]),a9,aa) ⟨f.u,f.hC,f.hS,f.hm,f.hl,f.ho,(by(try dsimp only);rw[← hrec,show n=(n-1)+1 from by omega];simp only[bh,eV,d,v,y,j,bs,if_true,if_false,decide_true,decide_false,Nat.add_sub_cancel,reduceIte]),(by(try dsimp only);have hd:=wb s C (by omega);have pu:(eV s C).2.1.l.length=(la C).l.length:=rfl;omega),(by(try dsimp only);simp only[List.length_append,List.length_cons,List.length_nil];omega),(by(try dsimp only);simp only[List.length_append,List.length_cons,List.length_nil];omega)⟩ (by omega)
 refine xt<|tx<|tx<|bx<|rm (.tuple #[])<|?_
 have hfin:bh eV C0.l.length 0 C0 []=(C,L):=by
   rw[← hrec]
   exact i4 _ _ _ _ _ (by simp only[d,bs,if_true,if_false,decide_true,decide_false])
 refine⟨rfl,s,A,cp,?_⟩
 rw[hfin]
 exact⟨k,b,p,q,h,t⟩
open Go.RowKit
def gT (n:Int) : Bool:=(decide (7≤n)&&decide (n≤245))&&n%7==0
def gV (n:Int) : Bool:=decide (4≤n)&&decide (n≤245)
def gU (n:Int) : Bool:=decide (9≤n)&&decide (n≤251)
def xK (may:Int→Bool)(C:ap) : ap:=(C.bytesC 1).need (may C.byteV) 5
def xC (may:Int→Bool)(C:ap) : ap:=⟨(xK may C).bytesR C.byteV,false,0⟩
def xa (one:Int→ap→Int × ap × eq)(may:Int→Bool)(C:ap) : ap × List eq:=bh one (xC may C).l.length 0 (xC may C) []
def ew (e:Int) : Int:=if e==2 then 5 else e
def fO (one:Int→ap→Int × ap × eq)(may:Int→Bool)(c:Int)(C:ap) : ap × aV :=
  (((xK may C).bytesC C.byteV).need ((xa one may C).1.e==0) (ew (xa one may C).1.e),{ aV.zero with code:=c,recs:=(xa one may C).2 })
def be (dir c:Int)(C:ap) : Option (ap × aV) :=
  if c==20 then (if dir==0 then some (fO eO gT c C) else some (fO dp gV c C)) else if c==21 then some (fO eV gU c C) else none
theorem ly:((20:Int)==20)=true:=rfl
theorem lq:((21:Int)==20)=false:=rfl
theorem lb:((21:Int)==21)=true:=rfl
theorem nN{m:Bool}{A:Option Addr}{cp:Nat}{b:List Int}{w:World}{dir:Int}(hd:dir=0∨dir=1)(hsl:aQ m w (.slice A b.length cp) b)(hb:b.length≤1048576) :
    Calls Tryz.prog 64 #[.int .i64 0,.int .u8 20,.slice A b.length cp] w (dl (au be 0 20 b) w):=by
 have hln:(b.length:Int)≤1048576:=by omega
 have cK:((dir != 0)&&(dir != 1))=false:=by rcases hd with rfl | rfl<;>rfl
 refine zm 77 Tryz.func64 rfl<|sg<|L0<|bI mZ fun aa cL bo K ad=>Pl 1<|nt<|sq<|sg<|Pl 6<|nt<|c0<|?_
 refine bG<|sg<|Pl 2<|L0<|Oc (args:=#[.int .i64 0,.int .u8 20])<|e3 wG fun v cM Z G N=>Pl 3<|L0<|bI #[.nilFunc,.nilFunc] fun cN cO ch bp z=>L0<|bf bp #[.func (.func 126) #[] #[],.func (.func 124) #[] #[.pointer (some ⟨v,0,none⟩)]] fun cP ci t=>Pl 1<|nt<|sq<|sq<|?_
 refine go<|Pl 2<|nt<|c0<|bG<|sg<|Pl 1<|?_
 have af:=ud z t ch
 have a0:=aE N af
 have bq:=aE ad a0
 refine L0<|Oc<|e3 (d9 (aQ.old hsl bq) (by omega)) fun a1 cQ U M r=>Pl 1<|ng<|Pl 1<|L0<|Oc<|m3 (bE M) fun cR cj o cS=>L0<|Oi ((ap.mk b false 0).byteV)<|Pl 1<|ng<|?_
 refine Pl 2<|?_
 have aM:=ud r o U
 have br:=ub aM ci
 refine L0<|aN br 0<|Pl 1<|L0<|fb #[] #[] (args:=#[.int .i64 ((ap.mk b false 0).byteV)])<|m1 (pi (n:=(ap.mk b false 0).byteV) (by omega)) fun cT d=>?_
 refine L0<|Oc<|m2 (aU ((gT ((ap.mk b false 0).byteV))) 5 (ah.old cj d)) fun cU ck i=>?_
 refine ab ck fun x49 bt bu=>?_
 refine ng<|Pl 2<|L0<|Oc<|tv (bS (n:=(ap.mk b false 0).byteV) bu) fun cV cW cX cl cY cZ cm j=>?_
 have d0:=Nat.le_trans (ap.bytesR_le x49 ((ap.mk b false 0).byteV)) (ah.len bu)
 refine ab cm fun x58 bv aP=>?_
 refine L0<|Oc<|e3 (d9 cl (by omega)) fun O d1 P Q g=>Pl 1<|ng<|Pl 2<|L0<|bI mZ fun B d2 H V p=>L0<|bf V (mC 20) fun d3 co h=>nt<|sq<|sg<|?_
 refine Pl 2<|?_
 have am:=ud p h H
 have an:=aE g am
 have bw:=uz d (u1 i (aE j an) im)
 refine L0<|aN (aY bw (nb (al bp) t.size U) br) 1<|L0<|Oc<|xQ (kf (gb:=O) (f:=.func 124) (x:=#[]) (y:=#[.pointer (some ⟨v,0,none⟩)])) fun cq cs d4 aR aS d5 bx bz k=>nt<|bk<|?_
 refine pW (f:=131) #[.pointer (some ⟨cq,0,none⟩),.pointer (some ⟨cs,0,none⟩)] fun a ha=>?_
 intro d6 ct I d7 D E bB ao S J
 have bC:=nb (ah.lt Q) lr H
 have ar:=nb (ah.lt Q) (le (le p.size h.size) k.size) E
 have bD:=nb (al G) (le (le (le (le (le (le (le z.size t.size) r.size) o.size) d.size) i.size) j.size) g.size) H
 have bF:=nb (al G) (le (le (le (le (le (le (le (le (le (le z.size t.size) r.size) o.size) d.size) i.size) j.size) g.size) p.size) h.size) k.size) E
 have a2:=nb (al V) (le h.size k.size) E
 have X:=aE k J
 have bH:=ah.old Q (aE am X)
 have aw:=ud aM (aE bw X) U
 have bJ:=ub (aE af aw) G
 have aT:=ub X co
 refine(yL (c:=20) bH bJ aT S (ub J bx) (ub J bz) (Ne.symm (nb (al G) (le (le (le (le (le (le z.size t.size) r.size) o.size) d.size) i.size) j.size) P)) bC ar bD bF a2 (Ne.symm (nb (ah.lt Q) am.size aR)) (Ne.symm (nb (al G) (le (le (le (le (le (le (le (le (le z.size t.size) r.size) o.size) d.size) i.size) j.size) g.size) p.size) h.size) aR)) (Ne.symm (nb (al V) h.size aR)) (nb (al bx) lr E) (Ne.symm (nb (ah.lt Q) am.size aS)) (Ne.symm (nb (al G) (le (le (le (le (le (le (le (le (le z.size t.size) r.size) o.size) d.size) i.size) j.size) g.size) p.size) h.size) aS)) (Ne.symm (nb (al V) h.size aS)) (nb (al bz) lr E) ?_).mono ?_
 intro W C s L Ar cr x Ax cx hJ hrd hx1 hx2 hx3 hL
 simp only[db] at hx1 hx2 hx3
 have hm2:W.heap[B]? = some (.cells #[.int .u8 20,.int .u8 0,.int .u16 0,.int .u16 0,.int .u16 0,.int .u16 0,.int .u16 0,.int .u16 0,.int .u16 0,.int .u16 0,.int .u16 0,.int .u16 0,.slice none 0 0,.slice none 0 0,.slice none 0 0,.slice Ar L.length cr,.int .u8 0,.int .u8 0,.int .u8 0,.int .u8 0,.int .u8 0,.slice none 0 0] 31 (0,0)):=hJ.hm
 refine kJ hJ.hl ?_
 refine Av ha 53<|zh<|kW<|bI #[.int .u16 0,.int .u16 0,.int .u16 0,.slice none 0 0] fun d8 da bK cu bL=>kW<|bf cu #[.int .u16 x.file,.int .u16 x.record,.int .u16 x.count,.slice Ax x.words.length cx] fun dc cv bM=>tz<|?_
 have bO:=ud bL bM bK
 refine B7 (ub bO hJ.hl) (by trivial) fun dd cw aW=>Am<|zh<|zi<|?_
 have aX:=uz bO aW
 have bQ:=aY aX a2 hm2
 refine kW<|aN bQ 15<|?_
 refine kW<|bZ (aY aW (Ne.symm (nb (al S) hJ.u.size bK)) cv)<|kW<|cF (m:=1) (e:=83) #[.int .u16 x.file,.int .u16 x.record,.int .u16 x.count,.slice Ax x.words.length cx] fun de df dg cy aZ=>?_
 have Y:=aE aX aZ
 have cz:=pK (R:=bA true) (x:=(eq.mk x.file x.record x.count x.words)) cy rfl ⟨_,rfl,(dB.updl hrd Y hJ.hl rfl),aK (by omega),aK (by omega),aK (by omega)⟩
 have b0:=aj hJ.ho Y (fun x hx=>(ae (fun e=>(aB (al S) lr hJ.ho) (e▸hx)) ay)) (bA.updl Y hJ.hl rfl)
 refine kW<|kL (xs:=L) (ys:=([(eq.mk x.file x.record x.count x.words)])) (.agg #[.int .u16 0,.int .u16 0,.int .u16 0,.slice none 0 0]) 4 32 b0 cz (by simp) bA.ones (fun w' hv=>bA.upd16 hv (bN (cg _ b0 (by decide)) aD)) (by(try simp only[List.length_append,List.length_cons,List.length_nil,av]);omega) (le (le (le (le hJ.u.size bL.size) bM.size) aW.size) aZ.size) fun bR bT dh b1 az=>zi<|?_
 have bU:=ut (ax.mono (S':=(ob Ar++[])) aZ aq) az (ag il aq)
 have b2:=ax.blk bU (aG (aB (al aT) lr hJ.ho) ay) bQ
 refine kW<|cn b2 15 (mG 20 0 0 0 0 0 0 0 0 0 0 0 nS nS nS (.slice bR ((L++[(eq.mk x.file x.record x.count x.words)]).length) bT) 0 0 0 0 0 nS) fun di cA a3=>tz<|bn<|?_
 have bV:=u1 (ax.mono (S':=(ob Ar++(B :: []))) bU (ag il aq)) a3 im
 have b3:=ax.blk bV (aG (aB (al S) lr hJ.ho) (ae (Ne.symm a2) ay)) cw
 refine AY b3 fun dj cB a4=>?_
 have b4:=ut (ax.mono (S':=(I :: (ob Ar++(B :: [])))) Y (ac im aq)) (ut (ax.mono (S':=(ob Ar++(B :: (I :: [])))) az (ag il aq)) (us a3 a4) (ac im (ac im aq))) (ag il (ac im (ac im aq)))
 have dk:=ut hJ.u (ut (ax.mono (S':=(I :: (ob Ar++(B :: [])))) aX (ac im aq)) bV (ag il (ac im aq))) (ac im (ag (aI hJ.ho lr) (ac im aq)))
 have dn:=ut hJ.u (ut (ax.mono (S':=(I :: (ob Ar++[]))) Y (ac im aq)) az (ag il aq)) (ac im (ag (aI hJ.ho lr) aq))
 exact⟨by trivial,b4.size,bR,bT,⟨(ut hJ.u b4 (ac im (ag (aI hJ.ho lr) (ac im aq)))),(ah.updl (ah.upd (ah.upd (ah.updl hJ.hC Y (ae ar ay) hJ.hl rfl) az (aG (aB (ah.lt bH) lr hJ.ho) ay) (bN (cg _ b0 (by decide)) aD)) a3 (ae bC ay) (ak (aL b2 (by decide)) aD)) a4 (ae ar ay) b3 rfl),(ax.blk b4 (ae bF (aG (aB (al bJ) lr hJ.ho) (ae bD ay))) hJ.hS),(aY a4 a2 cA),(aj (aj b1 a3 (fun x hx=>(ae (fun e=>(aB (al aT) lr b1) (e▸hx)) ay)) (bA.upd16 a3 (ak (aL b2 (by decide)) aD))) a4 (fun x hx=>(ae (fun e=>(aB (al S) lr b1) (e▸hx)) ay)) (bA.updl a4 b3 rfl)),cB⟩⟩
 rintro _ cC ⟨rfl,dp,bW,bX,q⟩
 refine⟨_,_,rfl,q.hl,by simp[dm],by trivial,fun dq bY=>?_⟩
 refine ab q.hC fun b5 c1 cD=>?_
 have cE:cC.heap[B]? = some (.cells #[.int .u8 20,.int .u8 0,.int .u16 0,.int .u16 0,.int .u16 0,.int .u16 0,.int .u16 0,.int .u16 0,.int .u16 0,.int .u16 0,.int .u16 0,.int .u16 0,.slice none 0 0,.slice none 0 0,.slice none 0 0,.slice bW ((bh eO (ap.mk (x49.bytesR ((ap.mk b false 0).byteV)) false 0).l.length 0 (ap.mk (x49.bytesR ((ap.mk b false 0).byteV)) false 0) []).2.length) bX,.int .u8 0,.int .u8 0,.int .u8 0,.int .u8 0,.int .u8 0,.slice none 0 0] 31 (0,0)):=q.hm
 refine bn<|tn<|sg<|Pl 2<|?_
 have aC:=ah.updl cD bY (ae ar ay) q.hl rfl
 refine L0<|Oc<|mq (bi aC)<|?_
 have dr:=ah.len aC
 refine Pl 2<|L0<|Oc<|mq (bi aC)<|?_
 have ds:=ah.len aC
 refine L0<|Oc<|m1 (ii (e:=b5.e)) fun dw cG=>?_
 have F:=aE bY cG
 have c2:=u1 q.u F im
 have b7:=nb (al G) af.size U
 have aF:=ud aM (uz d (u1 i j im)) U
 have ba:=ub (aE af aF) G
 have bb:=ah.upd aP (ut (ax.mono (S':=[v]) an aq) (ut (ax.mono (S':=[O,v,B]) X aq) c2 (ac im (ac im (ac im (ac (ni k.size E) aq))))) (ac (nr P) (ac im (ac (ni g.size H) aq)))) (ae (Ne.symm b7) ay) (ak (aL ba (by decide)) aD)
 refine L0<|Oc<|m2 (aU ((b5.e==0)) (ew b5.e) bb) fun dx cH T=>?_
 refine ab cH fun c3 c4 bc=>?_
 refine ng<|Pl 1<|L0<|Oc<|m2 (bP bc) fun dz c5 a5=>nt<|sq<|sg<|Pl 1<|L0<|Oc<|mq (bi c5)<|?_
 have dA:=ah.len c5
 refine Pl 1<|ng<|Pl 2<|nt<|?_
 have a6:=u1 T a5 im
 have bd:=u1 (ax.mono (S':=[O,v,B,I,a1]) c2 (ac im (ac im (ac im (ac im aq))))) a6 im
 have bg:=ut (ax.mono (S':=[v]) aw aq) bd (ac (ni aF.size P) (ac im (ac (ni (le (le (le (le (le r.size o.size) d.size) i.size) j.size) g.size) H) (ac (ni (le (le (le (le (le (le (le (le r.size o.size) d.size) i.size) j.size) g.size) p.size) h.size) k.size) E) (ac (nr U) aq)))))
 have c6:=ud bq bg (le ad.size Z)
 refine cb ((c3.endC.e != 0)) (fun a7=>?_) (fun a7=>?_)
 have bl:=aA a7
 refine sg<|Pl 2<|?_
 have c7:=ub (ud a0 bg Z) K
 refine L0<|bf c7 mZ fun dC cI a8=>Pl 1<|nt<|rt<|tr<|?_
 have c8:=nb (al K) (le (le (le (le (le (le (le (le (le (le (le N.size z.size) t.size) r.size) o.size) d.size) i.size) j.size) g.size) p.size) h.size) k.size) D
 have c9:=ax.blk (u1 (ax.mono (S':=[O,v,B,I,a1,aa]) bd (ac im (ac im (ac im (ac im (ac im aq)))))) a8 im) (ae (Ne.symm (nb (ah.lt Q) (le (le p.size h.size) k.size) D)) (ae (Ne.symm (nb (al G) (le (le (le (le (le (le (le (le (le (le z.size t.size) r.size) o.size) d.size) i.size) j.size) g.size) p.size) h.size) k.size) D)) (ae (Ne.symm (nb (al V) (le h.size k.size) D)) (ae bB (ae (Ne.symm (nb (ah.lt M) (le (le (le (le (le (le (le o.size d.size) i.size) j.size) g.size) p.size) h.size) k.size) D)) (ae (Ne.symm c8) ay)))))) ao
 refine zg c9 fun dD aH=>?_
 refine rx (aY aH c8 cI) (.int .i64 c3.endC.e)<|?_
 subst c4 c1 bv bt
 have ca:=us a8 aH
 have dE:=us F (us a6 ca)
 have dF:=us F (us a6 a8)
 have dG:=ub (ud a0 (ut (ax.mono (S':=[v]) aw aq) q.u (ac (ni aF.size P) (ac im (ac (ni (le (le (le (le (le r.size o.size) d.size) i.size) j.size) g.size) H) (ac (ni (le (le (le (le (le (le (le (le r.size o.size) d.size) i.size) j.size) g.size) p.size) h.size) k.size) E) aq))))) Z) K
 have dH:=ah.upd aP (ut (ax.mono (S':=[v]) an aq) (ut (ax.mono (S':=[O,v,B]) X aq) q.u (ac im (ac im (ac im (ac (ni k.size E) aq))))) (ac (nr P) (ac im (ac (ni g.size H) aq)))) (ae (Ne.symm b7) ay) (ak (aL ba (by decide)) aD)
 have dI:=us F a6
 have dJ:=us F T
 have dK:=aj (aj (aj (aj (aj q.ho F (fun x hx=>(ae (fun e=>(aB (al S) lr q.ho) (e▸hx)) ay)) (bA.updl F q.hl rfl)) T (fun x hx=>(ae (fun e=>(aB (ah.lt M) (le (le (le (le (le (le (le (le o.size d.size) i.size) j.size) g.size) p.size) h.size) k.size) J.size) q.ho) (e▸hx)) ay)) (bA.upd16 T (ak (ah.safe bb _ (by decide)) aD))) a5 (fun x hx=>(ae (fun e=>(aB (ah.lt M) (le (le (le (le (le (le (le (le o.size d.size) i.size) j.size) g.size) p.size) h.size) k.size) J.size) q.ho) (e▸hx)) ay)) (bA.upd16 a5 (ak (ah.safe bc _ (by decide)) aD))) a8 (fun x hx=>(ae (fun e=>(aB (al K) (le (le (le (le (le (le (le (le (le (le (le (le N.size z.size) t.size) r.size) o.size) d.size) i.size) j.size) g.size) p.size) h.size) k.size) J.size) q.ho) (e▸hx)) ay)) (bA.upd16 a8 (ak (aL c7 (by decide)) aD))) aH (fun x hx=>(ae (fun e=>(aB (al ao) lr q.ho) (e▸hx)) ay)) (bA.updl aH c9 rfl)
 have hs:au be 0 20 b=b6 (aV.mk 20 0 0 0 0 0 0 0 0 0 0 0 [] [] [] (bh eO (ap.mk ((((ap.mk b false 0).bytesC 1).need (gT ((ap.mk b false 0).byteV)) 5).bytesR ((ap.mk b false 0).byteV)) false 0).l.length 0 (ap.mk ((((ap.mk b false 0).bytesC 1).need (gT ((ap.mk b false 0).byteV)) 5).bytesR ((ap.mk b false 0).byteV)) false 0) []).2 0 0 0 0 0 []) (((((ap.mk b false 0).bytesC 1).need (gT ((ap.mk b false 0).byteV)) 5).bytesC ((ap.mk b false 0).byteV)).need (((bh eO (ap.mk ((((ap.mk b false 0).bytesC 1).need (gT ((ap.mk b false 0).byteV)) 5).bytesR ((ap.mk b false 0).byteV)) false 0).l.length 0 (ap.mk ((((ap.mk b false 0).bytesC 1).need (gT ((ap.mk b false 0).byteV)) 5).bytesR ((ap.mk b false 0).byteV)) false 0) []).1).e==0) (ew ((bh eO (ap.mk ((((ap.mk b false 0).bytesC 1).need (gT ((ap.mk b false 0).byteV)) 5).bytesR ((ap.mk b false 0).byteV)) false 0).l.length 0 (ap.mk ((((ap.mk b false 0).bytesC 1).need (gT ((ap.mk b false 0).byteV)) 5).bytesR ((ap.mk b false 0).byteV)) false 0) []).1).e)):=by
   unfold au be fO xa xC xK
   (try simp only[a7,bs,if_true,if_false,decide_true,decide_false,eq_self,true_or,or_true,or_false,false_or,if_true,if_false,dt,du,dv,dy,reduceIte,ly,lq,lb])
   all_goals rfl
 rw[hs]
 exact b9 bl (ut c6 ca (ac (nr bo) (ac (ni (le (le (le (le (le (le (le (le (le (le (le (le ad.size N.size) z.size) t.size) r.size) o.size) d.size) i.size) j.size) g.size) p.size) h.size) k.size) D) aq)))
 have bl:=ai a7
 refine bG<|sg<|?_
 have bm:=us F a6
 refine L0<|bZ (ax.blk bm (ae a2 (ae (Ne.symm (nb (ah.lt M) (le (le (le (le o.size d.size) i.size) j.size) g.size) H)) ay)) cE)<|?_
 have cc:=ub (ud a0 bg Z) K
 refine L0<|bf cc (mG 20 0 0 0 0 0 0 0 0 0 0 0 nS nS nS (.slice bW ((bh eO (ap.mk (x49.bytesR ((ap.mk b false 0).byteV)) false 0).l.length 0 (ap.mk (x49.bytesR ((ap.mk b false 0).byteV)) false 0) []).2.length) bX) 0 0 0 0 0 nS) fun dL cJ a9=>Pl 1<|nt<|rt<|?_
 have cd:=nb (al K) (le (le (le (le (le (le (le (le (le (le (le N.size z.size) t.size) r.size) o.size) d.size) i.size) j.size) g.size) p.size) h.size) k.size) D
 have ce:=ax.blk (u1 (ax.mono (S':=[O,v,B,I,a1,aa]) bd (ac im (ac im (ac im (ac im (ac im aq)))))) a9 im) (ae (Ne.symm (nb (ah.lt Q) (le (le p.size h.size) k.size) D)) (ae (Ne.symm (nb (al G) (le (le (le (le (le (le (le (le (le (le z.size t.size) r.size) o.size) d.size) i.size) j.size) g.size) p.size) h.size) k.size) D)) (ae (Ne.symm (nb (al V) (le h.size k.size) D)) (ae bB (ae (Ne.symm (nb (ah.lt M) (le (le (le (le (le (le (le o.size d.size) i.size) j.size) g.size) p.size) h.size) k.size) D)) (ae (Ne.symm cd) ay)))))) ao
 refine zg ce fun dM aJ=>?_
 refine rx (aY aJ cd cJ) (.int .i64 0)<|?_
 subst c4 c1 bv bt
 have cf:=us a9 aJ
 have dN:=ut (ax.mono (S':=[I,a1,aa,ct]) bm (ac im (ac im aq))) cf (ac im (ac im aq))
 have dO:=u1 (ax.mono (S':=[I,a1,aa]) bm (ac im (ac im aq))) a9 im
 have dP:=ub (ud a0 (ut (ax.mono (S':=[v]) aw aq) q.u (ac (ni aF.size P) (ac im (ac (ni (le (le (le (le (le r.size o.size) d.size) i.size) j.size) g.size) H) (ac (ni (le (le (le (le (le (le (le (le r.size o.size) d.size) i.size) j.size) g.size) p.size) h.size) k.size) E) aq))))) Z) K
 have dQ:=ah.upd aP (ut (ax.mono (S':=[v]) an aq) (ut (ax.mono (S':=[O,v,B]) X aq) q.u (ac im (ac im (ac im (ac (ni k.size E) aq))))) (ac (nr P) (ac im (ac (ni g.size H) aq)))) (ae (Ne.symm b7) ay) (ak (aL ba (by decide)) aD)
 have dR:=us F T
 have hs:au be 0 20 b=b6 (aV.mk 20 0 0 0 0 0 0 0 0 0 0 0 [] [] [] (bh eO (ap.mk ((((ap.mk b false 0).bytesC 1).need (gT ((ap.mk b false 0).byteV)) 5).bytesR ((ap.mk b false 0).byteV)) false 0).l.length 0 (ap.mk ((((ap.mk b false 0).bytesC 1).need (gT ((ap.mk b false 0).byteV)) 5).bytesR ((ap.mk b false 0).byteV)) false 0) []).2 0 0 0 0 0 []) (((((ap.mk b false 0).bytesC 1).need (gT ((ap.mk b false 0).byteV)) 5).bytesC ((ap.mk b false 0).byteV)).need (((bh eO (ap.mk ((((ap.mk b false 0).bytesC 1).need (gT ((ap.mk b false 0).byteV)) 5).bytesR ((ap.mk b false 0).byteV)) false 0).l.length 0 (ap.mk ((((ap.mk b false 0).bytesC 1).need (gT ((ap.mk b false 0).byteV)) 5).bytesR ((ap.mk b false 0).byteV)) false 0) []).1).e==0) (ew ((bh eO (ap.mk ((((ap.mk b false 0).bytesC 1).need (gT ((ap.mk b false 0).byteV)) 5).bytesR ((ap.mk b false 0).byteV)) false 0).l.length 0 (ap.mk ((((ap.mk b false 0).bytesC 1).need (gT ((ap.mk b false 0).byteV)) 5).bytesR ((ap.mk b false 0).byteV)) false 0) []).1).e)):=by
   unfold au be fO xa xC xK
   (try simp only[a7,bs,if_true,if_false,decide_true,decide_false,eq_self,true_or,or_true,or_false,false_or,if_true,if_false,dt,du,dv,dy,reduceIte,ly,lq,lb])
   all_goals rfl
 rw[hs]
 exact bj bl ⟨_,_,_,_,_,rfl,aO.nil ..,aO.nil ..,aO.nil ..,((aj (aj (aj (aj (aj q.ho F (fun x hx=>(ae (fun e=>(aB (al S) lr q.ho) (e▸hx)) ay)) (bA.updl F q.hl rfl)) T (fun x hx=>(ae (fun e=>(aB (ah.lt M) (le (le (le (le (le (le (le (le o.size d.size) i.size) j.size) g.size) p.size) h.size) k.size) J.size) q.ho) (e▸hx)) ay)) (bA.upd16 T (ak (ah.safe bb _ (by decide)) aD))) a5 (fun x hx=>(ae (fun e=>(aB (ah.lt M) (le (le (le (le (le (le (le (le o.size d.size) i.size) j.size) g.size) p.size) h.size) k.size) J.size) q.ho) (e▸hx)) ay)) (bA.upd16 a5 (ak (ah.safe bc _ (by decide)) aD))) a9 (fun x hx=>(ae (fun e=>(aB (al K) (le (le (le (le (le (le (le (le (le (le (le (le N.size z.size) t.size) r.size) o.size) d.size) i.size) j.size) g.size) p.size) h.size) k.size) J.size) q.ho) (e▸hx)) ay)) (bA.upd16 a9 (ak (aL cc (by decide)) aD))) aJ (fun x hx=>(ae (fun e=>(aB (al ao) lr q.ho) (e▸hx)) ay)) (bA.updl aJ ce rfl))).rd,aO.nil ..,⟨(b8 (x:=20) (by omega)),(b8 (x:=0) (by omega)),(aK (x:=0) (by omega)),(aK (x:=0) (by omega)),(aK (x:=0) (by omega)),(aK (x:=0) (by omega)),(aK (x:=0) (by omega)),(aK (x:=0) (by omega)),(aK (x:=0) (by omega)),(aK (x:=0) (by omega)),(aK (x:=0) (by omega)),(aK (x:=0) (by omega)),(b8 (x:=0) (by omega)),(b8 (x:=0) (by omega)),(b8 (x:=0) (by omega)),(b8 (x:=0) (by omega)),(b8 (x:=0) (by omega))⟩⟩ (ut c6 cf (ac (nr bo) (ac (ni (le (le (le (le (le (le (le (le (le (le (le (le ad.size N.size) z.size) t.size) r.size) o.size) d.size) i.size) j.size) g.size) p.size) h.size) k.size) D) aq)))
theorem ow{m:Bool}{A:Option Addr}{cp:Nat}{b:List Int}{w:World}{dir:Int}(hd:dir=0∨dir=1)(hsl:aQ m w (.slice A b.length cp) b)(hb:b.length≤1048576) :
    Calls Tryz.prog 64 #[.int .i64 1,.int .u8 20,.slice A b.length cp] w (dl (au be 1 20 b) w):=by
 have hln:(b.length:Int)≤1048576:=by omega
 have cK:((dir != 0)&&(dir != 1))=false:=by rcases hd with rfl | rfl<;>rfl
 refine zm 77 Tryz.func64 rfl<|sg<|L0<|bI mZ fun aa cL bo K ad=>Pl 1<|nt<|sq<|sg<|Pl 6<|nt<|c0<|?_
 refine bG<|sg<|Pl 2<|L0<|Oc (args:=#[.int .i64 1,.int .u8 20])<|e3 vM fun z cM Z G N=>Pl 3<|L0<|bI #[.nilFunc,.nilFunc] fun cN cO ch bp v=>L0<|bf bp #[.func (.func 127) #[] #[],.func (.func 128) #[] #[]] fun cP ci t=>Pl 1<|nt<|sq<|sq<|?_
 refine go<|Pl 2<|nt<|c0<|bG<|sg<|Pl 1<|?_
 have af:=ud v t ch
 have a0:=aE N af
 have bq:=aE ad a0
 refine L0<|Oc<|e3 (d9 (aQ.old hsl bq) (by omega)) fun a1 cQ U M r=>Pl 1<|ng<|Pl 1<|L0<|Oc<|m3 (bE M) fun cR cj o cS=>L0<|Oi ((ap.mk b false 0).byteV)<|Pl 1<|ng<|?_
 refine Pl 2<|?_
 have aM:=ud r o U
 have br:=ub aM ci
 refine L0<|aN br 0<|Pl 1<|L0<|fb #[] #[] (args:=#[.int .i64 ((ap.mk b false 0).byteV)])<|m1 (p8 (n:=(ap.mk b false 0).byteV) (by omega)) fun cT d=>?_
 refine L0<|Oc<|m2 (aU ((gV ((ap.mk b false 0).byteV))) 5 (ah.old cj d)) fun cU ck i=>?_
 refine ab ck fun x49 bt bu=>?_
 refine ng<|Pl 2<|L0<|Oc<|tv (bS (n:=(ap.mk b false 0).byteV) bu) fun cV cW cX cl cY cZ cm j=>?_
 have d0:=Nat.le_trans (ap.bytesR_le x49 ((ap.mk b false 0).byteV)) (ah.len bu)
 refine ab cm fun x58 bv aP=>?_
 refine L0<|Oc<|e3 (d9 cl (by omega)) fun O d1 P Q g=>Pl 1<|ng<|Pl 2<|L0<|bI mZ fun B d2 H V p=>L0<|bf V (mC 20) fun d3 co h=>nt<|sq<|sg<|?_
 refine Pl 2<|?_
 have am:=ud p h H
 have an:=aE g am
 have bw:=uz d (u1 i (aE j an) im)
 refine L0<|aN (aY bw (nb (al bp) t.size U) br) 1<|L0<|Oc<|xQ (kf (gb:=O) (f:=.func 128) (x:=#[]) (y:=#[])) fun cq cs d4 aR aS d5 bx bz k=>nt<|bk<|?_
 refine pW (f:=131) #[.pointer (some ⟨cq,0,none⟩),.pointer (some ⟨cs,0,none⟩)] fun a ha=>?_
 intro d6 ct I d7 D E bB ao S J
 have bC:=nb (ah.lt Q) lr H
 have ar:=nb (ah.lt Q) (le (le p.size h.size) k.size) E
 have bD:=nb (al G) (le (le (le (le (le (le (le v.size t.size) r.size) o.size) d.size) i.size) j.size) g.size) H
 have bF:=nb (al G) (le (le (le (le (le (le (le (le (le (le v.size t.size) r.size) o.size) d.size) i.size) j.size) g.size) p.size) h.size) k.size) E
 have a2:=nb (al V) (le h.size k.size) E
 have X:=aE k J
 have bH:=ah.old Q (aE am X)
 have aw:=ud aM (aE bw X) U
 have bJ:=ub (aE af aw) G
 have aT:=ub X co
 refine(yy (c:=20) bH bJ aT S (ub J bx) (ub J bz) (Ne.symm (nb (al G) (le (le (le (le (le (le v.size t.size) r.size) o.size) d.size) i.size) j.size) P)) bC ar bD bF a2 (Ne.symm (nb (ah.lt Q) am.size aR)) (Ne.symm (nb (al G) (le (le (le (le (le (le (le (le (le v.size t.size) r.size) o.size) d.size) i.size) j.size) g.size) p.size) h.size) aR)) (Ne.symm (nb (al V) h.size aR)) (nb (al bx) lr E) (Ne.symm (nb (ah.lt Q) am.size aS)) (Ne.symm (nb (al G) (le (le (le (le (le (le (le (le (le v.size t.size) r.size) o.size) d.size) i.size) j.size) g.size) p.size) h.size) aS)) (Ne.symm (nb (al V) h.size aS)) (nb (al bz) lr E) ?_).mono ?_
 intro W C s L Ar cr x Ax cx hJ hrd hx1 hx2 hx3 hL
 simp only[db] at hx1 hx2 hx3
 have hm2:W.heap[B]? = some (.cells #[.int .u8 20,.int .u8 0,.int .u16 0,.int .u16 0,.int .u16 0,.int .u16 0,.int .u16 0,.int .u16 0,.int .u16 0,.int .u16 0,.int .u16 0,.int .u16 0,.slice none 0 0,.slice none 0 0,.slice none 0 0,.slice Ar L.length cr,.int .u8 0,.int .u8 0,.int .u8 0,.int .u8 0,.int .u8 0,.slice none 0 0] 31 (0,0)):=hJ.hm
 refine kJ hJ.hl ?_
 refine Av ha 53<|zh<|kW<|bI #[.int .u16 0,.int .u16 0,.int .u16 0,.slice none 0 0] fun d8 da bK cu bL=>kW<|bf cu #[.int .u16 x.file,.int .u16 x.record,.int .u16 x.count,.slice Ax x.words.length cx] fun dc cv bM=>tz<|?_
 have bO:=ud bL bM bK
 refine B7 (ub bO hJ.hl) (by trivial) fun dd cw aW=>Am<|zh<|zi<|?_
 have aX:=uz bO aW
 have bQ:=aY aX a2 hm2
 refine kW<|aN bQ 15<|?_
 refine kW<|bZ (aY aW (Ne.symm (nb (al S) hJ.u.size bK)) cv)<|kW<|cF (m:=1) (e:=83) #[.int .u16 x.file,.int .u16 x.record,.int .u16 x.count,.slice Ax x.words.length cx] fun de df dg cy aZ=>?_
 have Y:=aE aX aZ
 have cz:=pK (R:=bA true) (x:=(eq.mk x.file x.record x.count x.words)) cy rfl ⟨_,rfl,(dB.updl hrd Y hJ.hl rfl),aK (by omega),aK (by omega),aK (by omega)⟩
 have b0:=aj hJ.ho Y (fun x hx=>(ae (fun e=>(aB (al S) lr hJ.ho) (e▸hx)) ay)) (bA.updl Y hJ.hl rfl)
 refine kW<|kL (xs:=L) (ys:=([(eq.mk x.file x.record x.count x.words)])) (.agg #[.int .u16 0,.int .u16 0,.int .u16 0,.slice none 0 0]) 4 32 b0 cz (by simp) bA.ones (fun w' hv=>bA.upd16 hv (bN (cg _ b0 (by decide)) aD)) (by(try simp only[List.length_append,List.length_cons,List.length_nil,av]);omega) (le (le (le (le hJ.u.size bL.size) bM.size) aW.size) aZ.size) fun bR bT dh b1 az=>zi<|?_
 have bU:=ut (ax.mono (S':=(ob Ar++[])) aZ aq) az (ag il aq)
 have b2:=ax.blk bU (aG (aB (al aT) lr hJ.ho) ay) bQ
 refine kW<|cn b2 15 (mG 20 0 0 0 0 0 0 0 0 0 0 0 nS nS nS (.slice bR ((L++[(eq.mk x.file x.record x.count x.words)]).length) bT) 0 0 0 0 0 nS) fun di cA a3=>tz<|bn<|?_
 have bV:=u1 (ax.mono (S':=(ob Ar++(B :: []))) bU (ag il aq)) a3 im
 have b3:=ax.blk bV (aG (aB (al S) lr hJ.ho) (ae (Ne.symm a2) ay)) cw
 refine AY b3 fun dj cB a4=>?_
 have b4:=ut (ax.mono (S':=(I :: (ob Ar++(B :: [])))) Y (ac im aq)) (ut (ax.mono (S':=(ob Ar++(B :: (I :: [])))) az (ag il aq)) (us a3 a4) (ac im (ac im aq))) (ag il (ac im (ac im aq)))
 have dk:=ut hJ.u (ut (ax.mono (S':=(I :: (ob Ar++(B :: [])))) aX (ac im aq)) bV (ag il (ac im aq))) (ac im (ag (aI hJ.ho lr) (ac im aq)))
 have dn:=ut hJ.u (ut (ax.mono (S':=(I :: (ob Ar++[]))) Y (ac im aq)) az (ag il aq)) (ac im (ag (aI hJ.ho lr) aq))
 exact⟨by trivial,b4.size,bR,bT,⟨(ut hJ.u b4 (ac im (ag (aI hJ.ho lr) (ac im aq)))),(ah.updl (ah.upd (ah.upd (ah.updl hJ.hC Y (ae ar ay) hJ.hl rfl) az (aG (aB (ah.lt bH) lr hJ.ho) ay) (bN (cg _ b0 (by decide)) aD)) a3 (ae bC ay) (ak (aL b2 (by decide)) aD)) a4 (ae ar ay) b3 rfl),(ax.blk b4 (ae bF (aG (aB (al bJ) lr hJ.ho) (ae bD ay))) hJ.hS),(aY a4 a2 cA),(aj (aj b1 a3 (fun x hx=>(ae (fun e=>(aB (al aT) lr b1) (e▸hx)) ay)) (bA.upd16 a3 (ak (aL b2 (by decide)) aD))) a4 (fun x hx=>(ae (fun e=>(aB (al S) lr b1) (e▸hx)) ay)) (bA.updl a4 b3 rfl)),cB⟩⟩
 rintro _ cC ⟨rfl,dq,bW,bX,q⟩
 refine⟨_,_,rfl,q.hl,by simp[dm],by trivial,fun dr bY=>?_⟩
 refine ab q.hC fun b5 c1 cD=>?_
 have cE:cC.heap[B]? = some (.cells #[.int .u8 20,.int .u8 0,.int .u16 0,.int .u16 0,.int .u16 0,.int .u16 0,.int .u16 0,.int .u16 0,.int .u16 0,.int .u16 0,.int .u16 0,.int .u16 0,.slice none 0 0,.slice none 0 0,.slice none 0 0,.slice bW ((bh dp (ap.mk (x49.bytesR ((ap.mk b false 0).byteV)) false 0).l.length 0 (ap.mk (x49.bytesR ((ap.mk b false 0).byteV)) false 0) []).2.length) bX,.int .u8 0,.int .u8 0,.int .u8 0,.int .u8 0,.int .u8 0,.slice none 0 0] 31 (0,0)):=q.hm
 refine bn<|tn<|sg<|Pl 2<|?_
 have aC:=ah.updl cD bY (ae ar ay) q.hl rfl
 refine L0<|Oc<|mq (bi aC)<|?_
 have ds:=ah.len aC
 refine Pl 2<|L0<|Oc<|mq (bi aC)<|?_
 have dw:=ah.len aC
 refine L0<|Oc<|m1 (ii (e:=b5.e)) fun dx cG=>?_
 have F:=aE bY cG
 have c2:=u1 q.u F im
 have b7:=nb (al G) af.size U
 have aF:=ud aM (uz d (u1 i j im)) U
 have ba:=ub (aE af aF) G
 have bb:=ah.upd aP (ut (ax.mono (S':=[z]) an aq) (ut (ax.mono (S':=[O,z,B]) X aq) c2 (ac im (ac im (ac im (ac (ni k.size E) aq))))) (ac (nr P) (ac im (ac (ni g.size H) aq)))) (ae (Ne.symm b7) ay) (ak (aL ba (by decide)) aD)
 refine L0<|Oc<|m2 (aU ((b5.e==0)) (ew b5.e) bb) fun dz cH T=>?_
 refine ab cH fun c3 c4 bc=>?_
 refine ng<|Pl 1<|L0<|Oc<|m2 (bP bc) fun dA c5 a5=>nt<|sq<|sg<|Pl 1<|L0<|Oc<|mq (bi c5)<|?_
 have dC:=ah.len c5
 refine Pl 1<|ng<|Pl 2<|nt<|?_
 have a6:=u1 T a5 im
 have bd:=u1 (ax.mono (S':=[O,z,B,I,a1]) c2 (ac im (ac im (ac im (ac im aq))))) a6 im
 have bg:=ut (ax.mono (S':=[z]) aw aq) bd (ac (ni aF.size P) (ac im (ac (ni (le (le (le (le (le r.size o.size) d.size) i.size) j.size) g.size) H) (ac (ni (le (le (le (le (le (le (le (le r.size o.size) d.size) i.size) j.size) g.size) p.size) h.size) k.size) E) (ac (nr U) aq)))))
 have c6:=ud bq bg (le ad.size Z)
 refine cb ((c3.endC.e != 0)) (fun a7=>?_) (fun a7=>?_)
 have bl:=aA a7
 refine sg<|Pl 2<|?_
 have c7:=ub (ud a0 bg Z) K
 refine L0<|bf c7 mZ fun dD cI a8=>Pl 1<|nt<|rt<|tr<|?_
 have c8:=nb (al K) (le (le (le (le (le (le (le (le (le (le (le N.size v.size) t.size) r.size) o.size) d.size) i.size) j.size) g.size) p.size) h.size) k.size) D
 have c9:=ax.blk (u1 (ax.mono (S':=[O,z,B,I,a1,aa]) bd (ac im (ac im (ac im (ac im (ac im aq)))))) a8 im) (ae (Ne.symm (nb (ah.lt Q) (le (le p.size h.size) k.size) D)) (ae (Ne.symm (nb (al G) (le (le (le (le (le (le (le (le (le (le v.size t.size) r.size) o.size) d.size) i.size) j.size) g.size) p.size) h.size) k.size) D)) (ae (Ne.symm (nb (al V) (le h.size k.size) D)) (ae bB (ae (Ne.symm (nb (ah.lt M) (le (le (le (le (le (le (le o.size d.size) i.size) j.size) g.size) p.size) h.size) k.size) D)) (ae (Ne.symm c8) ay)))))) ao
 refine zg c9 fun dE aH=>?_
 refine rx (aY aH c8 cI) (.int .i64 c3.endC.e)<|?_
 subst c4 c1 bv bt
 have ca:=us a8 aH
 have dF:=us F (us a6 ca)
 have dG:=us F (us a6 a8)
 have dH:=ub (ud a0 (ut (ax.mono (S':=[z]) aw aq) q.u (ac (ni aF.size P) (ac im (ac (ni (le (le (le (le (le r.size o.size) d.size) i.size) j.size) g.size) H) (ac (ni (le (le (le (le (le (le (le (le r.size o.size) d.size) i.size) j.size) g.size) p.size) h.size) k.size) E) aq))))) Z) K
 have dI:=ah.upd aP (ut (ax.mono (S':=[z]) an aq) (ut (ax.mono (S':=[O,z,B]) X aq) q.u (ac im (ac im (ac im (ac (ni k.size E) aq))))) (ac (nr P) (ac im (ac (ni g.size H) aq)))) (ae (Ne.symm b7) ay) (ak (aL ba (by decide)) aD)
 have dJ:=us F a6
 have dK:=us F T
 have dL:=aj (aj (aj (aj (aj q.ho F (fun x hx=>(ae (fun e=>(aB (al S) lr q.ho) (e▸hx)) ay)) (bA.updl F q.hl rfl)) T (fun x hx=>(ae (fun e=>(aB (ah.lt M) (le (le (le (le (le (le (le (le o.size d.size) i.size) j.size) g.size) p.size) h.size) k.size) J.size) q.ho) (e▸hx)) ay)) (bA.upd16 T (ak (ah.safe bb _ (by decide)) aD))) a5 (fun x hx=>(ae (fun e=>(aB (ah.lt M) (le (le (le (le (le (le (le (le o.size d.size) i.size) j.size) g.size) p.size) h.size) k.size) J.size) q.ho) (e▸hx)) ay)) (bA.upd16 a5 (ak (ah.safe bc _ (by decide)) aD))) a8 (fun x hx=>(ae (fun e=>(aB (al K) (le (le (le (le (le (le (le (le (le (le (le (le N.size v.size) t.size) r.size) o.size) d.size) i.size) j.size) g.size) p.size) h.size) k.size) J.size) q.ho) (e▸hx)) ay)) (bA.upd16 a8 (ak (aL c7 (by decide)) aD))) aH (fun x hx=>(ae (fun e=>(aB (al ao) lr q.ho) (e▸hx)) ay)) (bA.updl aH c9 rfl)
 have hs:au be 1 20 b=b6 (aV.mk 20 0 0 0 0 0 0 0 0 0 0 0 [] [] [] (bh dp (ap.mk ((((ap.mk b false 0).bytesC 1).need (gV ((ap.mk b false 0).byteV)) 5).bytesR ((ap.mk b false 0).byteV)) false 0).l.length 0 (ap.mk ((((ap.mk b false 0).bytesC 1).need (gV ((ap.mk b false 0).byteV)) 5).bytesR ((ap.mk b false 0).byteV)) false 0) []).2 0 0 0 0 0 []) (((((ap.mk b false 0).bytesC 1).need (gV ((ap.mk b false 0).byteV)) 5).bytesC ((ap.mk b false 0).byteV)).need (((bh dp (ap.mk ((((ap.mk b false 0).bytesC 1).need (gV ((ap.mk b false 0).byteV)) 5).bytesR ((ap.mk b false 0).byteV)) false 0).l.length 0 (ap.mk ((((ap.mk b false 0).bytesC 1).need (gV ((ap.mk b false 0).byteV)) 5).bytesR ((ap.mk b false 0).byteV)) false 0) []).1).e==0) (ew ((bh dp (ap.mk ((((ap.mk b false 0).bytesC 1).need (gV ((ap.mk b false 0).byteV)) 5).bytesR ((ap.mk b false 0).byteV)) false 0).l.length 0 (ap.mk ((((ap.mk b false 0).bytesC 1).need (gV ((ap.mk b false 0).byteV)) 5).bytesR ((ap.mk b false 0).byteV)) false 0) []).1).e)):=by
   unfold au be fO xa xC xK
   (try simp only[a7,bs,if_true,if_false,decide_true,decide_false,eq_self,true_or,or_true,or_false,false_or,if_true,if_false,dt,du,dv,dy,reduceIte,ly,lq,lb])
   all_goals rfl
 rw[hs]
 exact b9 bl (ut c6 ca (ac (nr bo) (ac (ni (le (le (le (le (le (le (le (le (le (le (le (le ad.size N.size) v.size) t.size) r.size) o.size) d.size) i.size) j.size) g.size) p.size) h.size) k.size) D) aq)))
 have bl:=ai a7
 refine bG<|sg<|?_
 have bm:=us F a6
 refine L0<|bZ (ax.blk bm (ae a2 (ae (Ne.symm (nb (ah.lt M) (le (le (le (le o.size d.size) i.size) j.size) g.size) H)) ay)) cE)<|?_
 have cc:=ub (ud a0 bg Z) K
 refine L0<|bf cc (mG 20 0 0 0 0 0 0 0 0 0 0 0 nS nS nS (.slice bW ((bh dp (ap.mk (x49.bytesR ((ap.mk b false 0).byteV)) false 0).l.length 0 (ap.mk (x49.bytesR ((ap.mk b false 0).byteV)) false 0) []).2.length) bX) 0 0 0 0 0 nS) fun dM cJ a9=>Pl 1<|nt<|rt<|?_
 have cd:=nb (al K) (le (le (le (le (le (le (le (le (le (le (le N.size v.size) t.size) r.size) o.size) d.size) i.size) j.size) g.size) p.size) h.size) k.size) D
 have ce:=ax.blk (u1 (ax.mono (S':=[O,z,B,I,a1,aa]) bd (ac im (ac im (ac im (ac im (ac im aq)))))) a9 im) (ae (Ne.symm (nb (ah.lt Q) (le (le p.size h.size) k.size) D)) (ae (Ne.symm (nb (al G) (le (le (le (le (le (le (le (le (le (le v.size t.size) r.size) o.size) d.size) i.size) j.size) g.size) p.size) h.size) k.size) D)) (ae (Ne.symm (nb (al V) (le h.size k.size) D)) (ae bB (ae (Ne.symm (nb (ah.lt M) (le (le (le (le (le (le (le o.size d.size) i.size) j.size) g.size) p.size) h.size) k.size) D)) (ae (Ne.symm cd) ay)))))) ao
 refine zg ce fun dN aJ=>?_
 refine rx (aY aJ cd cJ) (.int .i64 0)<|?_
 subst c4 c1 bv bt
 have cf:=us a9 aJ
 have dO:=ut (ax.mono (S':=[I,a1,aa,ct]) bm (ac im (ac im aq))) cf (ac im (ac im aq))
 have dP:=u1 (ax.mono (S':=[I,a1,aa]) bm (ac im (ac im aq))) a9 im
 have dQ:=ub (ud a0 (ut (ax.mono (S':=[z]) aw aq) q.u (ac (ni aF.size P) (ac im (ac (ni (le (le (le (le (le r.size o.size) d.size) i.size) j.size) g.size) H) (ac (ni (le (le (le (le (le (le (le (le r.size o.size) d.size) i.size) j.size) g.size) p.size) h.size) k.size) E) aq))))) Z) K
 have dR:=ah.upd aP (ut (ax.mono (S':=[z]) an aq) (ut (ax.mono (S':=[O,z,B]) X aq) q.u (ac im (ac im (ac im (ac (ni k.size E) aq))))) (ac (nr P) (ac im (ac (ni g.size H) aq)))) (ae (Ne.symm b7) ay) (ak (aL ba (by decide)) aD)
 have dS:=us F T
 have hs:au be 1 20 b=b6 (aV.mk 20 0 0 0 0 0 0 0 0 0 0 0 [] [] [] (bh dp (ap.mk ((((ap.mk b false 0).bytesC 1).need (gV ((ap.mk b false 0).byteV)) 5).bytesR ((ap.mk b false 0).byteV)) false 0).l.length 0 (ap.mk ((((ap.mk b false 0).bytesC 1).need (gV ((ap.mk b false 0).byteV)) 5).bytesR ((ap.mk b false 0).byteV)) false 0) []).2 0 0 0 0 0 []) (((((ap.mk b false 0).bytesC 1).need (gV ((ap.mk b false 0).byteV)) 5).bytesC ((ap.mk b false 0).byteV)).need (((bh dp (ap.mk ((((ap.mk b false 0).bytesC 1).need (gV ((ap.mk b false 0).byteV)) 5).bytesR ((ap.mk b false 0).byteV)) false 0).l.length 0 (ap.mk ((((ap.mk b false 0).bytesC 1).need (gV ((ap.mk b false 0).byteV)) 5).bytesR ((ap.mk b false 0).byteV)) false 0) []).1).e==0) (ew ((bh dp (ap.mk ((((ap.mk b false 0).bytesC 1).need (gV ((ap.mk b false 0).byteV)) 5).bytesR ((ap.mk b false 0).byteV)) false 0).l.length 0 (ap.mk ((((ap.mk b false 0).bytesC 1).need (gV ((ap.mk b false 0).byteV)) 5).bytesR ((ap.mk b false 0).byteV)) false 0) []).1).e)):=by
   unfold au be fO xa xC xK
   (try simp only[a7,bs,if_true,if_false,decide_true,decide_false,eq_self,true_or,or_true,or_false,false_or,if_true,if_false,dt,du,dv,dy,reduceIte,ly,lq,lb])
   all_goals rfl
 rw[hs]
 exact bj bl ⟨_,_,_,_,_,rfl,aO.nil ..,aO.nil ..,aO.nil ..,((aj (aj (aj (aj (aj q.ho F (fun x hx=>(ae (fun e=>(aB (al S) lr q.ho) (e▸hx)) ay)) (bA.updl F q.hl rfl)) T (fun x hx=>(ae (fun e=>(aB (ah.lt M) (le (le (le (le (le (le (le (le o.size d.size) i.size) j.size) g.size) p.size) h.size) k.size) J.size) q.ho) (e▸hx)) ay)) (bA.upd16 T (ak (ah.safe bb _ (by decide)) aD))) a5 (fun x hx=>(ae (fun e=>(aB (ah.lt M) (le (le (le (le (le (le (le (le o.size d.size) i.size) j.size) g.size) p.size) h.size) k.size) J.size) q.ho) (e▸hx)) ay)) (bA.upd16 a5 (ak (ah.safe bc _ (by decide)) aD))) a9 (fun x hx=>(ae (fun e=>(aB (al K) (le (le (le (le (le (le (le (le (le (le (le (le N.size v.size) t.size) r.size) o.size) d.size) i.size) j.size) g.size) p.size) h.size) k.size) J.size) q.ho) (e▸hx)) ay)) (bA.upd16 a9 (ak (aL cc (by decide)) aD))) aJ (fun x hx=>(ae (fun e=>(aB (al ao) lr q.ho) (e▸hx)) ay)) (bA.updl aJ ce rfl))).rd,aO.nil ..,⟨(b8 (x:=20) (by omega)),(b8 (x:=0) (by omega)),(aK (x:=0) (by omega)),(aK (x:=0) (by omega)),(aK (x:=0) (by omega)),(aK (x:=0) (by omega)),(aK (x:=0) (by omega)),(aK (x:=0) (by omega)),(aK (x:=0) (by omega)),(aK (x:=0) (by omega)),(aK (x:=0) (by omega)),(aK (x:=0) (by omega)),(b8 (x:=0) (by omega)),(b8 (x:=0) (by omega)),(b8 (x:=0) (by omega)),(b8 (x:=0) (by omega)),(b8 (x:=0) (by omega))⟩⟩ (ut c6 cf (ac (nr bo) (ac (ni (le (le (le (le (le (le (le (le (le (le (le (le ad.size N.size) v.size) t.size) r.size) o.size) d.size) i.size) j.size) g.size) p.size) h.size) k.size) D) aq)))
theorem lM{m:Bool}{A:Option Addr}{cp:Nat}{b:List Int}{w:World}{dir:Int}(hd:dir=0∨dir=1)(hsl:aQ m w (.slice A b.length cp) b)(hb:b.length≤1048576) :
    Calls Tryz.prog 64 #[.int .i64 dir,.int .u8 21,.slice A b.length cp] w (dl (au be dir 21 b) w):=by
 have hln:(b.length:Int)≤1048576:=by omega
 have aR:((dir != 0)&&(dir != 1))=false:=by rcases hd with rfl | rfl<;>rfl
 refine zm 77 Tryz.func64 rfl<|sg<|L0<|bI mZ fun af cT bt M am=>Pl 1<|nt<|sq<|sg<|Pl 3<|cu 3 [18] 21 (((dir != 0)&&(dir != 1))) (fun K bu=>?_) ?_
 refine bl 18 ((dir != 0)) (fun a0=>?_) (fun a0=>?_)
 have cq:=aA a0
 exact Pl 3<|ce bu (dir != 1) (by rw[a0];rfl)
 have cq:=ai a0
 exact Pl 3<|ce bu false (by rw[a0];rfl)
 refine nt<|cf aR<|bG<|sg<|Pl 2<|L0<|Oc (args:=#[.int .i64 dir,.int .u8 21])<|e3 wW fun z cU a1 G O=>Pl 3<|L0<|bI #[.nilFunc,.nilFunc] fun cV cW cs bv v=>L0<|bf bv #[.func (.func 129) #[] #[],.func (.func 130) #[] #[]] fun cX ct t=>Pl 1<|nl<|?_
 refine tn<|sq<|sg<|Pl 2<|nt<|c0<|bG<|sg<|Pl 1<|?_
 have an:=ud v t cs
 have a2:=aE O an
 have bw:=aE am a2
 refine L0<|Oc<|e3 (d9 (aQ.old hsl bw) (by omega)) fun a3 cY V N r=>Pl 1<|ng<|Pl 1<|L0<|Oc<|m3 (bE N) fun cZ cv o d0=>L0<|Oi ((ap.mk b false 0).byteV)<|Pl 1<|ng<|?_
 refine Pl 2<|?_
 have aS:=ud r o V
 have bx:=ub aS ct
 refine L0<|aN bx 0<|Pl 1<|L0<|fb #[] #[] (args:=#[.int .i64 ((ap.mk b false 0).byteV)])<|m1 (pA (n:=(ap.mk b false 0).byteV) (by omega)) fun d1 d=>?_
 refine L0<|Oc<|m2 (aU ((gU ((ap.mk b false 0).byteV))) 5 (ah.old cv d)) fun d2 cw i=>?_
 refine ab cw fun x51 bz bB=>?_
 refine ng<|Pl 2<|L0<|Oc<|tv (bS (n:=(ap.mk b false 0).byteV) bB) fun d3 d4 d5 cy d6 d7 cz j=>?_
 have d8:=Nat.le_trans (ap.bytesR_le x51 ((ap.mk b false 0).byteV)) (ah.len bB)
 refine ab cz fun x60 bC aT=>?_
 refine L0<|Oc<|e3 (d9 cy (by omega)) fun P da Q S g=>Pl 1<|ng<|Pl 2<|L0<|bI mZ fun B dc H X p=>L0<|bf X (mC 21) fun dd cA h=>nt<|sq<|sg<|?_
 refine Pl 2<|?_
 have ao:=ud p h H
 have ar:=aE g ao
 have bD:=uz d (u1 i (aE j ar) im)
 refine L0<|aN (aY bD (nb (al bv) t.size V) bx) 1<|L0<|Oc<|xQ (kf (gb:=P) (f:=.func 130) (x:=#[]) (y:=#[])) fun cB cC de aW aX df bF bH k=>nt<|bk<|?_
 refine pW (f:=131) #[.pointer (some ⟨cB,0,none⟩),.pointer (some ⟨cC,0,none⟩)] fun a ha=>?_
 intro dg cD I dh D E bJ aw T J
 have bK:=nb (ah.lt S) lr H
 have az:=nb (ah.lt S) (le (le p.size h.size) k.size) E
 have bL:=nb (al G) (le (le (le (le (le (le (le v.size t.size) r.size) o.size) d.size) i.size) j.size) g.size) H
 have bM:=nb (al G) (le (le (le (le (le (le (le (le (le (le v.size t.size) r.size) o.size) d.size) i.size) j.size) g.size) p.size) h.size) k.size) E
 have a4:=nb (al X) (le h.size k.size) E
 have Y:=aE k J
 have bO:=ah.old S (aE ao Y)
 have aC:=ud aS (aE bD Y) V
 have bQ:=ub (aE an aC) G
 have aZ:=ub Y cA
 refine(yX (c:=21) bO bQ aZ T (ub J bF) (ub J bH) (Ne.symm (nb (al G) (le (le (le (le (le (le v.size t.size) r.size) o.size) d.size) i.size) j.size) Q)) bK az bL bM a4 (Ne.symm (nb (ah.lt S) ao.size aW)) (Ne.symm (nb (al G) (le (le (le (le (le (le (le (le (le v.size t.size) r.size) o.size) d.size) i.size) j.size) g.size) p.size) h.size) aW)) (Ne.symm (nb (al X) h.size aW)) (nb (al bF) lr E) (Ne.symm (nb (ah.lt S) ao.size aX)) (Ne.symm (nb (al G) (le (le (le (le (le (le (le (le (le v.size t.size) r.size) o.size) d.size) i.size) j.size) g.size) p.size) h.size) aX)) (Ne.symm (nb (al X) h.size aX)) (nb (al bH) lr E) ?_).mono ?_
 intro W C s L Ar cr x Ax cx hJ hrd hx1 hx2 hx3 hL
 simp only[db] at hx1 hx2 hx3
 have hm2:W.heap[B]? = some (.cells #[.int .u8 21,.int .u8 0,.int .u16 0,.int .u16 0,.int .u16 0,.int .u16 0,.int .u16 0,.int .u16 0,.int .u16 0,.int .u16 0,.int .u16 0,.int .u16 0,.slice none 0 0,.slice none 0 0,.slice none 0 0,.slice Ar L.length cr,.int .u8 0,.int .u8 0,.int .u8 0,.int .u8 0,.int .u8 0,.slice none 0 0] 31 (0,0)):=hJ.hm
 refine kJ hJ.hl ?_
 refine Av ha 53<|zh<|kW<|bI #[.int .u16 0,.int .u16 0,.int .u16 0,.slice none 0 0] fun di dj bR cE bT=>kW<|bf cE #[.int .u16 x.file,.int .u16 x.record,.int .u16 x.count,.slice Ax x.words.length cx] fun dk cG bU=>tz<|?_
 have bV:=ud bT bU bR
 refine B7 (ub bV hJ.hl) (by trivial) fun dn cH b0=>Am<|zh<|zi<|?_
 have b1:=uz bV b0
 have bW:=aY b1 a4 hm2
 refine kW<|aN bW 15<|?_
 refine kW<|bZ (aY b0 (Ne.symm (nb (al T) hJ.u.size bR)) cG)<|kW<|cF (m:=1) (e:=83) #[.int .u16 x.file,.int .u16 x.record,.int .u16 x.count,.slice Ax x.words.length cx] fun dp dq dr cI b2=>?_
 have Z:=aE b1 b2
 have cJ:=pK (R:=bA true) (x:=(eq.mk x.file x.record x.count x.words)) cI rfl ⟨_,rfl,(dB.updl hrd Z hJ.hl rfl),aK (by omega),aK (by omega),aK (by omega)⟩
 have b3:=aj hJ.ho Z (fun x hx=>(ae (fun e=>(aB (al T) lr hJ.ho) (e▸hx)) ay)) (bA.updl Z hJ.hl rfl)
 refine kW<|kL (xs:=L) (ys:=([(eq.mk x.file x.record x.count x.words)])) (.agg #[.int .u16 0,.int .u16 0,.int .u16 0,.slice none 0 0]) 4 32 b3 cJ (by simp) bA.ones (fun w' hv=>bA.upd16 hv (bN (cg _ b3 (by decide)) aD)) (by(try simp only[List.length_append,List.length_cons,List.length_nil,av]);omega) (le (le (le (le hJ.u.size bT.size) bU.size) b0.size) b2.size) fun bX bY ds b4 aF=>zi<|?_
 have c1:=ut (ax.mono (S':=(ob Ar++[])) b2 aq) aF (ag il aq)
 have b5:=ax.blk c1 (aG (aB (al aZ) lr hJ.ho) ay) bW
 refine kW<|cn b5 15 (mG 21 0 0 0 0 0 0 0 0 0 0 0 nS nS nS (.slice bX ((L++[(eq.mk x.file x.record x.count x.words)]).length) bY) 0 0 0 0 0 nS) fun dw cK a5=>tz<|bn<|?_
 have c2:=u1 (ax.mono (S':=(ob Ar++(B :: []))) c1 (ag il aq)) a5 im
 have b7:=ax.blk c2 (aG (aB (al T) lr hJ.ho) (ae (Ne.symm a4) ay)) cH
 refine AY b7 fun dx cL a6=>?_
 have ba:=ut (ax.mono (S':=(I :: (ob Ar++(B :: [])))) Z (ac im aq)) (ut (ax.mono (S':=(ob Ar++(B :: (I :: [])))) aF (ag il aq)) (us a5 a6) (ac im (ac im aq))) (ag il (ac im (ac im aq)))
 have dz:=ut hJ.u (ut (ax.mono (S':=(I :: (ob Ar++(B :: [])))) b1 (ac im aq)) c2 (ag il (ac im aq))) (ac im (ag (aI hJ.ho lr) (ac im aq)))
 have dA:=ut hJ.u (ut (ax.mono (S':=(I :: (ob Ar++[]))) Z (ac im aq)) aF (ag il aq)) (ac im (ag (aI hJ.ho lr) aq))
 exact⟨by trivial,ba.size,bX,bY,⟨(ut hJ.u ba (ac im (ag (aI hJ.ho lr) (ac im aq)))),(ah.updl (ah.upd (ah.upd (ah.updl hJ.hC Z (ae az ay) hJ.hl rfl) aF (aG (aB (ah.lt bO) lr hJ.ho) ay) (bN (cg _ b3 (by decide)) aD)) a5 (ae bK ay) (ak (aL b5 (by decide)) aD)) a6 (ae az ay) b7 rfl),(ax.blk ba (ae bM (aG (aB (al bQ) lr hJ.ho) (ae bL ay))) hJ.hS),(aY a6 a4 cK),(aj (aj b4 a5 (fun x hx=>(ae (fun e=>(aB (al aZ) lr b4) (e▸hx)) ay)) (bA.upd16 a5 (ak (aL b5 (by decide)) aD))) a6 (fun x hx=>(ae (fun e=>(aB (al T) lr b4) (e▸hx)) ay)) (bA.updl a6 b7 rfl)),cL⟩⟩
 rintro _ cM ⟨rfl,dC,c3,c4,q⟩
 refine⟨_,_,rfl,q.hl,by simp[dm],by trivial,fun dD c5=>?_⟩
 refine ab q.hC fun bb c6 cN=>?_
 have cO:cM.heap[B]? = some (.cells #[.int .u8 21,.int .u8 0,.int .u16 0,.int .u16 0,.int .u16 0,.int .u16 0,.int .u16 0,.int .u16 0,.int .u16 0,.int .u16 0,.int .u16 0,.int .u16 0,.slice none 0 0,.slice none 0 0,.slice none 0 0,.slice c3 ((bh eV (ap.mk (x51.bytesR ((ap.mk b false 0).byteV)) false 0).l.length 0 (ap.mk (x51.bytesR ((ap.mk b false 0).byteV)) false 0) []).2.length) c4,.int .u8 0,.int .u8 0,.int .u8 0,.int .u8 0,.int .u8 0,.slice none 0 0] 31 (0,0)):=q.hm
 refine bn<|tn<|sg<|Pl 2<|?_
 have aH:=ah.updl cN c5 (ae az ay) q.hl rfl
 refine L0<|Oc<|mq (bi aH)<|?_
 have dE:=ah.len aH
 refine Pl 2<|L0<|Oc<|mq (bi aH)<|?_
 have dF:=ah.len aH
 refine L0<|Oc<|m1 (ii (e:=bb.e)) fun dG cP=>?_
 have F:=aE c5 cP
 have c7:=u1 q.u F im
 have bc:=nb (al G) an.size V
 have aJ:=ud aS (uz d (u1 i j im)) V
 have bd:=ub (aE an aJ) G
 have bg:=ah.upd aT (ut (ax.mono (S':=[z]) ar aq) (ut (ax.mono (S':=[P,z,B]) Y aq) c7 (ac im (ac im (ac im (ac (ni k.size E) aq))))) (ac (nr Q) (ac im (ac (ni g.size H) aq)))) (ae (Ne.symm bc) ay) (ak (aL bd (by decide)) aD)
 refine L0<|Oc<|m2 (aU ((bb.e==0)) (ew bb.e) bg) fun dH cQ U=>?_
 refine ab cQ fun c8 c9 bm=>?_
 refine ng<|Pl 1<|L0<|Oc<|m2 (bP bm) fun dI ca a7=>nt<|sq<|sg<|Pl 1<|L0<|Oc<|mq (bi ca)<|?_
 have dJ:=ah.len ca
 refine Pl 1<|ng<|Pl 2<|nt<|?_
 have a8:=u1 U a7 im
 have bo:=u1 (ax.mono (S':=[P,z,B,I,a3]) c7 (ac im (ac im (ac im (ac im aq))))) a8 im
 have bp:=ut (ax.mono (S':=[z]) aC aq) bo (ac (ni aJ.size Q) (ac im (ac (ni (le (le (le (le (le r.size o.size) d.size) i.size) j.size) g.size) H) (ac (ni (le (le (le (le (le (le (le (le r.size o.size) d.size) i.size) j.size) g.size) p.size) h.size) k.size) E) (ac (nr V) aq)))))
 have cc:=ud bw bp (le am.size a1)
 refine cb ((c8.endC.e != 0)) (fun a9=>?_) (fun a9=>?_)
 have bq:=aA a9
 refine sg<|Pl 2<|?_
 have cd:=ub (ud a2 bp a1) M
 refine L0<|bf cd mZ fun dK cR aa=>Pl 1<|nt<|rt<|tr<|?_
 have ch:=nb (al M) (le (le (le (le (le (le (le (le (le (le (le O.size v.size) t.size) r.size) o.size) d.size) i.size) j.size) g.size) p.size) h.size) k.size) D
 have ci:=ax.blk (u1 (ax.mono (S':=[P,z,B,I,a3,af]) bo (ac im (ac im (ac im (ac im (ac im aq)))))) aa im) (ae (Ne.symm (nb (ah.lt S) (le (le p.size h.size) k.size) D)) (ae (Ne.symm (nb (al G) (le (le (le (le (le (le (le (le (le (le v.size t.size) r.size) o.size) d.size) i.size) j.size) g.size) p.size) h.size) k.size) D)) (ae (Ne.symm (nb (al X) (le h.size k.size) D)) (ae bJ (ae (Ne.symm (nb (ah.lt N) (le (le (le (le (le (le (le o.size d.size) i.size) j.size) g.size) p.size) h.size) k.size) D)) (ae (Ne.symm ch) ay)))))) aw
 refine zg ci fun dL aM=>?_
 refine rx (aY aM ch cR) (.int .i64 c8.endC.e)<|?_
 subst c9 c6 bC bz
 have cj:=us aa aM
 have dM:=us F (us a8 cj)
 have dN:=us F (us a8 aa)
 have dO:=ub (ud a2 (ut (ax.mono (S':=[z]) aC aq) q.u (ac (ni aJ.size Q) (ac im (ac (ni (le (le (le (le (le r.size o.size) d.size) i.size) j.size) g.size) H) (ac (ni (le (le (le (le (le (le (le (le r.size o.size) d.size) i.size) j.size) g.size) p.size) h.size) k.size) E) aq))))) a1) M
 have dP:=ah.upd aT (ut (ax.mono (S':=[z]) ar aq) (ut (ax.mono (S':=[P,z,B]) Y aq) q.u (ac im (ac im (ac im (ac (ni k.size E) aq))))) (ac (nr Q) (ac im (ac (ni g.size H) aq)))) (ae (Ne.symm bc) ay) (ak (aL bd (by decide)) aD)
 have dQ:=us F a8
 have dR:=us F U
 have dS:=aj (aj (aj (aj (aj q.ho F (fun x hx=>(ae (fun e=>(aB (al T) lr q.ho) (e▸hx)) ay)) (bA.updl F q.hl rfl)) U (fun x hx=>(ae (fun e=>(aB (ah.lt N) (le (le (le (le (le (le (le (le o.size d.size) i.size) j.size) g.size) p.size) h.size) k.size) J.size) q.ho) (e▸hx)) ay)) (bA.upd16 U (ak (ah.safe bg _ (by decide)) aD))) a7 (fun x hx=>(ae (fun e=>(aB (ah.lt N) (le (le (le (le (le (le (le (le o.size d.size) i.size) j.size) g.size) p.size) h.size) k.size) J.size) q.ho) (e▸hx)) ay)) (bA.upd16 a7 (ak (ah.safe bm _ (by decide)) aD))) aa (fun x hx=>(ae (fun e=>(aB (al M) (le (le (le (le (le (le (le (le (le (le (le (le O.size v.size) t.size) r.size) o.size) d.size) i.size) j.size) g.size) p.size) h.size) k.size) J.size) q.ho) (e▸hx)) ay)) (bA.upd16 aa (ak (aL cd (by decide)) aD))) aM (fun x hx=>(ae (fun e=>(aB (al aw) lr q.ho) (e▸hx)) ay)) (bA.updl aM ci rfl)
 have hs:au be dir 21 b=b6 (aV.mk 21 0 0 0 0 0 0 0 0 0 0 0 [] [] [] (bh eV (ap.mk ((((ap.mk b false 0).bytesC 1).need (gU ((ap.mk b false 0).byteV)) 5).bytesR ((ap.mk b false 0).byteV)) false 0).l.length 0 (ap.mk ((((ap.mk b false 0).bytesC 1).need (gU ((ap.mk b false 0).byteV)) 5).bytesR ((ap.mk b false 0).byteV)) false 0) []).2 0 0 0 0 0 []) (((((ap.mk b false 0).bytesC 1).need (gU ((ap.mk b false 0).byteV)) 5).bytesC ((ap.mk b false 0).byteV)).need (((bh eV (ap.mk ((((ap.mk b false 0).bytesC 1).need (gU ((ap.mk b false 0).byteV)) 5).bytesR ((ap.mk b false 0).byteV)) false 0).l.length 0 (ap.mk ((((ap.mk b false 0).bytesC 1).need (gU ((ap.mk b false 0).byteV)) 5).bytesR ((ap.mk b false 0).byteV)) false 0) []).1).e==0) (ew ((bh eV (ap.mk ((((ap.mk b false 0).bytesC 1).need (gU ((ap.mk b false 0).byteV)) 5).bytesR ((ap.mk b false 0).byteV)) false 0).l.length 0 (ap.mk ((((ap.mk b false 0).bytesC 1).need (gU ((ap.mk b false 0).byteV)) 5).bytesR ((ap.mk b false 0).byteV)) false 0) []).1).e)):=by
   unfold au be fO xa xC xK
   (try simp only[aR,a9,bs,if_true,if_false,decide_true,decide_false,eq_self,true_or,or_true,or_false,false_or,if_true,if_false,dt,du,dv,dy,reduceIte,ly,lq,lb,if_pos hd])
   all_goals rfl
 rw[hs]
 exact b9 bq (ut cc cj (ac (nr bt) (ac (ni (le (le (le (le (le (le (le (le (le (le (le (le am.size O.size) v.size) t.size) r.size) o.size) d.size) i.size) j.size) g.size) p.size) h.size) k.size) D) aq)))
 have bq:=ai a9
 refine bG<|sg<|?_
 have br:=us F a8
 refine L0<|bZ (ax.blk br (ae a4 (ae (Ne.symm (nb (ah.lt N) (le (le (le (le o.size d.size) i.size) j.size) g.size) H)) ay)) cO)<|?_
 have ck:=ub (ud a2 bp a1) M
 refine L0<|bf ck (mG 21 0 0 0 0 0 0 0 0 0 0 0 nS nS nS (.slice c3 ((bh eV (ap.mk (x51.bytesR ((ap.mk b false 0).byteV)) false 0).l.length 0 (ap.mk (x51.bytesR ((ap.mk b false 0).byteV)) false 0) []).2.length) c4) 0 0 0 0 0 nS) fun dT cS ad=>Pl 1<|nt<|rt<|?_
 have cl:=nb (al M) (le (le (le (le (le (le (le (le (le (le (le O.size v.size) t.size) r.size) o.size) d.size) i.size) j.size) g.size) p.size) h.size) k.size) D
 have cm:=ax.blk (u1 (ax.mono (S':=[P,z,B,I,a3,af]) bo (ac im (ac im (ac im (ac im (ac im aq)))))) ad im) (ae (Ne.symm (nb (ah.lt S) (le (le p.size h.size) k.size) D)) (ae (Ne.symm (nb (al G) (le (le (le (le (le (le (le (le (le (le v.size t.size) r.size) o.size) d.size) i.size) j.size) g.size) p.size) h.size) k.size) D)) (ae (Ne.symm (nb (al X) (le h.size k.size) D)) (ae bJ (ae (Ne.symm (nb (ah.lt N) (le (le (le (le (le (le (le o.size d.size) i.size) j.size) g.size) p.size) h.size) k.size) D)) (ae (Ne.symm cl) ay)))))) aw
 refine zg cm fun dU aP=>?_
 refine rx (aY aP cl cS) (.int .i64 0)<|?_
 subst c9 c6 bC bz
 have co:=us ad aP
 have dV:=ut (ax.mono (S':=[I,a3,af,cD]) br (ac im (ac im aq))) co (ac im (ac im aq))
 have dW:=u1 (ax.mono (S':=[I,a3,af]) br (ac im (ac im aq))) ad im
 have dX:=ub (ud a2 (ut (ax.mono (S':=[z]) aC aq) q.u (ac (ni aJ.size Q) (ac im (ac (ni (le (le (le (le (le r.size o.size) d.size) i.size) j.size) g.size) H) (ac (ni (le (le (le (le (le (le (le (le r.size o.size) d.size) i.size) j.size) g.size) p.size) h.size) k.size) E) aq))))) a1) M
 have dY:=ah.upd aT (ut (ax.mono (S':=[z]) ar aq) (ut (ax.mono (S':=[P,z,B]) Y aq) q.u (ac im (ac im (ac im (ac (ni k.size E) aq))))) (ac (nr Q) (ac im (ac (ni g.size H) aq)))) (ae (Ne.symm bc) ay) (ak (aL bd (by decide)) aD)
 have dZ:=us F U
 have hs:au be dir 21 b=b6 (aV.mk 21 0 0 0 0 0 0 0 0 0 0 0 [] [] [] (bh eV (ap.mk ((((ap.mk b false 0).bytesC 1).need (gU ((ap.mk b false 0).byteV)) 5).bytesR ((ap.mk b false 0).byteV)) false 0).l.length 0 (ap.mk ((((ap.mk b false 0).bytesC 1).need (gU ((ap.mk b false 0).byteV)) 5).bytesR ((ap.mk b false 0).byteV)) false 0) []).2 0 0 0 0 0 []) (((((ap.mk b false 0).bytesC 1).need (gU ((ap.mk b false 0).byteV)) 5).bytesC ((ap.mk b false 0).byteV)).need (((bh eV (ap.mk ((((ap.mk b false 0).bytesC 1).need (gU ((ap.mk b false 0).byteV)) 5).bytesR ((ap.mk b false 0).byteV)) false 0).l.length 0 (ap.mk ((((ap.mk b false 0).bytesC 1).need (gU ((ap.mk b false 0).byteV)) 5).bytesR ((ap.mk b false 0).byteV)) false 0) []).1).e==0) (ew ((bh eV (ap.mk ((((ap.mk b false 0).bytesC 1).need (gU ((ap.mk b false 0).byteV)) 5).bytesR ((ap.mk b false 0).byteV)) false 0).l.length 0 (ap.mk ((((ap.mk b false 0).bytesC 1).need (gU ((ap.mk b false 0).byteV)) 5).bytesR ((ap.mk b false 0).byteV)) false 0) []).1).e)):=by
   unfold au be fO xa xC xK
   (try simp only[aR,a9,bs,if_true,if_false,decide_true,decide_false,eq_self,true_or,or_true,or_false,false_or,if_true,if_false,dt,du,dv,dy,reduceIte,ly,lq,lb,if_pos hd])
   all_goals rfl
 rw[hs]
 exact bj bq ⟨_,_,_,_,_,rfl,aO.nil ..,aO.nil ..,aO.nil ..,((aj (aj (aj (aj (aj q.ho F (fun x hx=>(ae (fun e=>(aB (al T) lr q.ho) (e▸hx)) ay)) (bA.updl F q.hl rfl)) U (fun x hx=>(ae (fun e=>(aB (ah.lt N) (le (le (le (le (le (le (le (le o.size d.size) i.size) j.size) g.size) p.size) h.size) k.size) J.size) q.ho) (e▸hx)) ay)) (bA.upd16 U (ak (ah.safe bg _ (by decide)) aD))) a7 (fun x hx=>(ae (fun e=>(aB (ah.lt N) (le (le (le (le (le (le (le (le o.size d.size) i.size) j.size) g.size) p.size) h.size) k.size) J.size) q.ho) (e▸hx)) ay)) (bA.upd16 a7 (ak (ah.safe bm _ (by decide)) aD))) ad (fun x hx=>(ae (fun e=>(aB (al M) (le (le (le (le (le (le (le (le (le (le (le (le O.size v.size) t.size) r.size) o.size) d.size) i.size) j.size) g.size) p.size) h.size) k.size) J.size) q.ho) (e▸hx)) ay)) (bA.upd16 ad (ak (aL ck (by decide)) aD))) aP (fun x hx=>(ae (fun e=>(aB (al aw) lr q.ho) (e▸hx)) ay)) (bA.updl aP cm rfl))).rd,aO.nil ..,⟨(b8 (x:=21) (by omega)),(b8 (x:=0) (by omega)),(aK (x:=0) (by omega)),(aK (x:=0) (by omega)),(aK (x:=0) (by omega)),(aK (x:=0) (by omega)),(aK (x:=0) (by omega)),(aK (x:=0) (by omega)),(aK (x:=0) (by omega)),(aK (x:=0) (by omega)),(aK (x:=0) (by omega)),(aK (x:=0) (by omega)),(b8 (x:=0) (by omega)),(b8 (x:=0) (by omega)),(b8 (x:=0) (by omega)),(b8 (x:=0) (by omega)),(b8 (x:=0) (by omega))⟩⟩ (ut cc co (ac (nr bt) (ac (ni (le (le (le (le (le (le (le (le (le (le (le (le am.size O.size) v.size) t.size) r.size) o.size) d.size) i.size) j.size) g.size) p.size) h.size) k.size) D) aq)))
theorem sT{A:Option Addr}{cp:Nat}{b:List Int}{w:World}{c:Int}(n1:(c==20)=false)(n2:(c==21)=false) : Calls Tryz.prog 64 #[.int .i64 0,.int .u8 c,.slice A b.length cp] w (dl (au be 0 c b) w):=by
 refine zm 77 Tryz.func64 rfl<|sg<|L0<|bI mZ fun n o d e f=>Pl 1<|nt<|sq<|sg<|Pl 6<|nt<|c0<|?_
 refine bG<|sg<|Pl 2<|L0<|Oc (args:=#[.int .i64 0,.int .u8 c])<|m1 (o4 (dir:=0) (x:=c) n1 n2) fun p g=>Pl 3<|L0<|bI #[.nilFunc,.nilFunc] fun q r h i j=>L0<|bf i #[.nilFunc,.nilFunc] fun s t k=>Pl 1<|nt<|sq<|sq<|?_
 refine go<|Pl 2<|nt<|c1<|sg<|Pl 1<|?_
 have a:=aE g (ud j k h)
 refine L0<|bf (ub a e) mZ fun u l m=>Pl 1<|nt<|rt<|tr<|ry l (.int .i64 4)<|?_
 have hs:au be 0 c b=(aV.zero,4):=by
   unfold au be
   (try simp only[bs,if_true,if_false,decide_true,decide_false,eq_self,true_or,or_true,or_false,false_or,if_true,if_false,dt,du,dv,dy,reduceIte,n1,n2])
   all_goals rfl
 rw[hs]
 exact bW (ud f (uz a m) d)
theorem sR{A:Option Addr}{cp:Nat}{b:List Int}{w:World}{c:Int}(n1:(c==20)=false)(n2:(c==21)=false) : Calls Tryz.prog 64 #[.int .i64 1,.int .u8 c,.slice A b.length cp] w (dl (au be 1 c b) w):=by
 refine zm 77 Tryz.func64 rfl<|sg<|L0<|bI mZ fun n o d e f=>Pl 1<|nt<|sq<|sg<|Pl 6<|nt<|c0<|?_
 refine bG<|sg<|Pl 2<|L0<|Oc (args:=#[.int .i64 1,.int .u8 c])<|m1 (o4 (dir:=1) (x:=c) n1 n2) fun p g=>Pl 3<|L0<|bI #[.nilFunc,.nilFunc] fun q r h i j=>L0<|bf i #[.nilFunc,.nilFunc] fun s t k=>Pl 1<|nt<|sq<|sq<|?_
 refine go<|Pl 2<|nt<|c1<|sg<|Pl 1<|?_
 have a:=aE g (ud j k h)
 refine L0<|bf (ub a e) mZ fun u l m=>Pl 1<|nt<|rt<|tr<|ry l (.int .i64 4)<|?_
 have hs:au be 1 c b=(aV.zero,4):=by
   unfold au be
   (try simp only[bs,if_true,if_false,decide_true,decide_false,eq_self,true_or,or_true,or_false,false_or,if_true,if_false,dt,du,dv,dy,reduceIte,n1,n2])
   all_goals rfl
 rw[hs]
 exact bW (ud f (uz a m) d)
theorem s3{A:Option Addr}{cp:Nat}{b:List Int}{w:World}{dir c:Int}(hd:¬ (dir=0∨dir=1)) : Calls Tryz.prog 64 #[.int .i64 dir,.int .u8 c,.slice A b.length cp] w (dl (au be dir c b) w):=by
 have e0:(dir != 0)=true:=by simp;omega
 have e1:(dir != 1)=true:=by simp;omega
 refine zm 77 Tryz.func64 rfl<|sg<|L0<|bI mZ fun g h a d e=>Pl 1<|nt<|sq<|sg<|Pl 3<|sy 18 e0<|Pl 3<|nl<|?_
 refine tn<|ct e1<|sg<|Pl 1<|L0<|bf d mZ fun i db f=>Pl 1<|nt<|rt<|tr<|ry db (.int .i64 1)<|?_
 have hs:au be dir c b=(aV.zero,1):=by
   unfold au be
   (try simp only[e0,e1,bs,if_true,if_false,decide_true,decide_false,eq_self,true_or,or_true,or_false,false_or,if_true,if_false,dt,du,dv,dy,reduceIte,hd])
   all_goals rfl
 rw[hs]
 exact bW (ud e f a)
theorem jk{m:Bool}{v:Value}{b:List Int}{w:World}{dir c:Int}(hc:B8 c)(h:aQ m w v b)(hb:b.length≤1048576) :
    Calls Tryz.prog 64 #[.int .i64 dir,.int .u8 c,v] w (dl (au be dir c b) w):=by
  obtain⟨A,cp,rfl,_,_⟩:=h.shape
  by_cases h0:dir=0
  · subst h0
    by_cases a:c=20
    · subst a;exact nN (Or.inl (rfl:(0:Int)=0)) h hb
    by_cases d:c=21
    · subst d;exact lM (Or.inl rfl) h hb
    exact sT (by simpa using a) (by simpa using d)
  by_cases h1:dir=1
  · subst h1
    by_cases a:c=20
    · subst a;exact ow (Or.inl (rfl:(0:Int)=0)) h hb
    by_cases d:c=21
    · subst d;exact lM (Or.inr rfl) h hb
    exact sR (by simpa using a) (by simpa using d)
  exact s3 (by omega)
open Go.RowKit
def ef (res:Option (List Int))(w:World)(e:Ending)(w':World) : Prop :=
  match res with
  | some l=>∃ v,e = .returned (.tuple #[v,.int .i64 0])∧cy w.heap.size w' v l∧ax [] w w'
  | none=>e = .returned (.tuple #[.slice none 0 0,.int .i64 1])∧ax [] w w'
def cc (parse:Int→Int→List Int→aV × Int)(lay:Int→aV→List Int)(dir:Int)(M:aV) : Option (List Int) :=
  if parse dir M.code (lay dir M)=(M,0) then some (lay dir M) else none
def eT:=au aS
def fL:=au bU
def fv:=au aR
def gt:=au bK
def eX:=au be
open Go.RowKit
def jz (M:aV) : Option (List Int):=if !(fk M.code M.fail) then none else if !(decide (M=jL M.code M.fail)) then none else some [(M.code+128)%256,M.fail]
theorem cV{x y:Option (List Int)}(h:x=y){w:World}{e:Ending}{w':World}(k:ef y w e w') : ef x w e w':=by rw[h];exact k
theorem lV{m:Bool}{cs:Array Value}{M:aV}{w:World}(h:aF m w cs.toList M) : Calls Tryz.prog 51 #[.agg cs] w (ef (jz M) w):=by
 have hM:=h
 obtain⟨vw,vb,vd,vr,vo,h0,hw,hbt,hd,hr,ho,hR⟩:=h
 obtain rfl:cs=(bt M vw vb vd vr vo).toArray:=by apply Array.toList_inj.1;simpa using h0
 clear h0
 obtain⟨Aw,kw,rfl,_,_⟩:=hw.shape
 obtain⟨Ab,kb,rfl,_,_⟩:=hbt.shape
 obtain⟨Ad,kd,rfl,_,_⟩:=hd.shape
 obtain⟨Ar,kr,rfl,_,_⟩:=hr.shape
 obtain⟨Ao,ko,rfl,_,_⟩:=ho.shape
 obtain⟨q0,q1,q2,q3,q4,q5,q6,q7,q8,q9,I,J,K,L,N,O,P⟩:=hR
 simp only[B8,db] at q0 q1 q2 q3 q4 q5 q6 q7 q8 q9 I J K L N O P
 refine en 26 Tryz.func51 rfl<|sg<|L0<|cz (mG M.code M.fail M.addr M.count M.value M.and_ M.or_ M.addr2 M.sub M.status M.events M.messages (.slice Aw M.words.length kw) (.slice Ab M.bits.length kb) (.slice Ad M.data.length kd) (.slice Ar M.recs.length kr) M.mei M.kind M.level M.more M.next (.slice Ao M.objects.length ko)) fun s a3 a4 k Q=>Pl 2<|ng<|Pl 1<|L0<|aN k 0<|Pl 1<|L0<|aN k 1<|Pl 1<|L0<|bI #[.int .u8 0,.int .u8 0] fun l a5 R S T=>?_
 refine L0<|bf S #[.int .u8 M.code,.int .u8 M.fail] fun a6 U V=>nt<|sq<|sq<|Rg 10 (fun w'=>w'.heap[l]? = some (.cells #[.int .u8 M.code,.int .u8 M.fail] 134 (0,0))∧w'.heap[s]? = some (.cells (mG M.code M.fail M.addr M.count M.value M.and_ M.or_ M.addr2 M.sub M.status M.events M.messages (.slice Aw M.words.length kw) (.slice Ab M.bits.length kb) (.slice Ad M.data.length kd) (.slice Ar M.recs.length kr) M.mei M.kind M.level M.more M.next (.slice Ao M.objects.length ko)) 31 (0,0))) fun a7 t=>?_
 have u:=ub t U
 have v:=ud T (aE V t) R
 have y:=ub v k
 refine aZ ⟨u,y⟩ fun W=>Rr 0 W (.agg #[.int .u8 M.code,.int .u8 M.fail]) (fun w' hs=>fM (g:=l) (off:=0) [.int .u8 M.code,.int .u8 M.fail] rfl (by kernel_rfl) hs.1 (by kernel_rfl) (by kernel_rfl) rfl)<|R0 1 rfl<|Oc<|m1 (rM (a:=M.code) (b:=M.fail) (w:=_)) fun a8 n=>?_
 have z:=ub n u
 have C:=ub n y
 refine aZ ⟨z,C⟩ fun c=>Rt 2 c<|Rt 3 c<|?_
 have D:=aE Q (aE v n)
 refine u7 13 ((!(fk M.code M.fail))) (fun d=>?_) (fun d=>?_)
 have j:(fk M.code M.fail)=false:=by simpa using d
 refine Ro 4 c<|Ro 5 c<|Ro 6 c<|Ro 7 c<|Ro 8 c<|Rt 9 c<|re<|tn<|c1<|sg<|Pl 2<|nt<|?_
 refine rt<|tr<|rr (.tuple #[.slice none 0 0,.int .i64 1])<|?_
 have hs:jz M=none:=by
   unfold jz
   (try simp only[d,j,bs,if_true,if_false,decide_true,decide_false,reduceIte])
   all_goals rfl
 refine cV hs ?_
 exact⟨rfl,D⟩
 have j:(fk M.code M.fail)=true:=by simpa using d
 refine Rr 4 c (.agg (mG M.code M.fail M.addr M.count M.value M.and_ M.or_ M.addr2 M.sub M.status M.events M.messages (.slice Aw M.words.length kw) (.slice Ab M.bits.length kb) (.slice Ad M.data.length kd) (.slice Ar M.recs.length kr) M.mei M.kind M.level M.more M.next (.slice Ao M.objects.length ko))) (fun w' hs=>fM (g:=s) (off:=0) [.int .u8 M.code,.int .u8 M.fail,.int .u16 M.addr,.int .u16 M.count,.int .u16 M.value,.int .u16 M.and_,.int .u16 M.or_,.int .u16 M.addr2,.int .u16 M.sub,.int .u16 M.status,.int .u16 M.events,.int .u16 M.messages,.slice Aw M.words.length kw,.slice Ab M.bits.length kb,.slice Ad M.data.length kd,.slice Ar M.recs.length kr,.int .u8 M.mei,.int .u8 M.kind,.int .u8 M.level,.int .u8 M.more,.int .u8 M.next,.slice Ao M.objects.length ko] rfl (by kernel_rfl) hs.2 (by kernel_rfl) (by kernel_rfl) rfl)<|Rr 5 c (.agg #[.int .u8 M.code,.int .u8 M.fail]) (fun w' hs=>fM (g:=l) (off:=0) [.int .u8 M.code,.int .u8 M.fail] rfl (by kernel_rfl) hs.1 (by kernel_rfl) (by kernel_rfl) rfl)<|R0 6 rfl<|Oc<|m1 (jN (a:=M.code) (b:=M.fail) (w:=_)) fun a9 o=>?_
 have E:=ub o z
 have F:=ub o C
 refine aZ ⟨E,F⟩ fun aa=>?_
 have G:=aE D o
 refine R0 7 rfl<|Oc<|m1 (fz (A:=M) (B:=jL M.code M.fail) (aF.old hM G) (show aF true _ _ _ from⟨_,_,_,_,_,rfl,aO.nil ..,aO.nil ..,aO.nil ..,aO.nil ..,aO.nil ..,⟨(b8 (x:=M.code) (by omega)),(b8 (x:=M.fail) (by omega)),(aK (x:=0) (by omega)),(aK (x:=0) (by omega)),(aK (x:=0) (by omega)),(aK (x:=0) (by omega)),(aK (x:=0) (by omega)),(aK (x:=0) (by omega)),(aK (x:=0) (by omega)),(aK (x:=0) (by omega)),(aK (x:=0) (by omega)),(aK (x:=0) (by omega)),(b8 (x:=0) (by omega)),(b8 (x:=0) (by omega)),(b8 (x:=0) (by omega)),(b8 (x:=0) (by omega)),(b8 (x:=0) (by omega))⟩⟩)) fun ab p=>?_
 have q:=ub p F
 refine aZ ⟨(ub p E),q⟩ fun H=>Rt 8 H<|Rt 9 H<|re<|tn<|?_
 have r:=aE G p
 refine cb ((!(decide (M=jL M.code M.fail)))) (fun f=>?_) (fun f=>?_)
 have i:(decide (M=jL M.code M.fail))=false:=by simpa using f
 have X:=of_decide_eq_false i
 refine sg<|Pl 2<|nt<|rt<|tr<|rr (.tuple #[.slice none 0 0,.int .i64 1])<|?_
 have hs:jz M=none:=by
   unfold jz
   (try simp only[d,j,f,i,bs,if_true,if_false,decide_true,decide_false,reduceIte])
   all_goals rfl
 refine cV hs ?_
 exact⟨rfl,r⟩
 have i:(decide (M=jL M.code M.fail))=true:=by simpa using f
 have X:=of_decide_eq_true i
 refine bG<|sg<|Pl 1<|L0<|aN q 0<|Pl 2<|L0<|aN q 1<|L0<|cF (m:=2) (e:=5) #[.int .u8 ((M.code+128)%256),.int .u8 M.fail] fun Y ac Z a0 a1=>?_
 have a2:=cP Z (xs:=[((M.code+128)%256),M.fail]) (by as_aux_lemma=>kernel_rfl) (am (by omega) (am (by omega) aM)) (by(try simp only[List.length_cons,List.length_nil]);omega) a0
 refine Pl 2<|nt<|rt<|rr (.tuple #[.slice (some ⟨Y,0,none⟩) 2 2,.int .i64 0])<|?_
 have hs:jz M=(some [((M.code+128)%256),M.fail]):=by
   unfold jz
   (try simp only[d,j,f,i,bs,if_true,if_false,decide_true,decide_false,reduceIte])
   all_goals rfl
 refine cV hs ?_
 exact⟨_,rfl,(aJ.weaken a2 r.size),(aE r a1)⟩
open Go.RowKit
def bB (dir:Int)(M:aV) : List Int :=
  if (!(dir==0))&&(M.code==3 || M.code==4 || M.code==23) then [(2*(M.words.length:Int))%256]++aP M.words
  else if M.code==6 then aP [M.addr,M.value]
  else if M.code==22 then aP [M.addr,M.and_,M.or_]
  else if M.code==16&&dir==0 then ((aP [M.addr,M.count]++[(2*(M.words.length:Int))%256])++aP M.words)
  else if M.code==23 then ((aP [M.addr,M.count,M.addr2,(M.words.length:Int)%65536]++[(2*(M.words.length:Int))%256])++aP M.words)
  else if M.code==24&&dir==0 then aP [M.addr]
  else if M.code==24 then aP [(2+2*(M.words.length:Int))%65536,(M.words.length:Int)%65536]++aP M.words
  else aP [M.addr,M.count]
theorem oV{m:Bool}{cs:Array Value}{M:aV}{w:World}{dir:Int}(h:aF m w cs.toList M)(hf:bp M)(hd0:(dir==0)=true) : Calls Tryz.prog 87 #[.int .i64 dir,.agg cs] w (i9 (bB dir M) w):=by
 obtain⟨vw,vb,vd,vr,vo,h0,hw,hbt,hd,hr,ho,hR⟩:=h
 obtain rfl:cs=(bt M vw vb vd vr vo).toArray:=by apply Array.toList_inj.1;simpa using h0
 clear h0
 obtain⟨Aw,kw,rfl,_,_⟩:=hw.shape
 obtain⟨Ab,kb,rfl,_,_⟩:=hbt.shape
 obtain⟨Ad,kd,rfl,_,_⟩:=hd.shape
 obtain⟨Ar,kr,rfl,_,_⟩:=hr.shape
 obtain⟨Ao,ko,rfl,_,_⟩:=ho.shape
 obtain⟨q0,q1,q2,q3,q4,q5,q6,q7,q8,q9,X,Y,Z,a0,a1,a2,a3⟩:=hR
 simp only[B8,db] at q0 q1 q2 q3 q4 q5 q6 q7 q8 q9 X Y Z a0 a1 a2 a3
 have hf1:=hf.words
 have hf2:=hf.bits
 have hf3:=hf.data
 have hf4:=hf.recs
 have hf5:=hf.objects
 refine en 124 Tryz.func87 rfl<|sg<|L0<|cz (mG M.code M.fail M.addr M.count M.value M.and_ M.or_ M.addr2 M.sub M.status M.events M.messages (.slice Aw M.words.length kw) (.slice Ab M.bits.length kb) (.slice Ad M.data.length kd) (.slice Ar M.recs.length kr) M.mei M.kind M.level M.more M.next (.slice Ao M.objects.length ko)) fun bc bd be y i=>Pl 1<|ng<|Pl 1<|L0<|aN y 12<|Pl 2<|nt<|?_
 refine sg<|Pl 1<|L0<|Oi (2*((M.words.length:Nat) : Int))<|Pl 1<|L0<|cF (m:=1) (e:=5) #[.int .u8 ((2*((M.words.length:Nat) : Int))%256)] fun bf bh a4 a5 d=>?_
 have z:=cP a4 (xs:=[((2*((M.words.length:Nat) : Int))%256)]) (by as_aux_lemma=>kernel_rfl) (am (by omega) aM) (by(try simp only[List.length_cons,List.length_nil]);omega) a5
 refine Pl 1<|?_
 have A:=ub d y
 refine L0<|aN A 12<|?_
 have B:=aE i d
 refine L0<|Oc<|dE (bg (xs:=M.words) (dB.old hw B) (by(try simp only[List.length_cons,List.length_nil]);omega)) fun bi bj bm C bo bq b=>Pl 2<|ng<|Pl 3<|nt<|sq<|sg<|Pl 1<|?_
 have a:=ub b A
 refine L0<|aN a 0<|Pl 1<|nt<|bk<|sg<|Pl 3<|?_
 have j:(!(dir==0))=false:=by simp only[hd0,Bool.not_true,Bool.not_false]
 refine sy 27 j<|Pl 12<|nt<|c0<|sg<|Pl 3<|nt<|?_
 have l:=aE B b
 refine cb ((M.code==6)) (fun c=>?_) (fun c=>?_)
 have a6:=az c
 refine sg<|Pl 1<|L0<|aN a 2<|Pl 1<|L0<|aN a 4<|L0<|cF (m:=2) (e:=22) #[.int .u16 M.addr,.int .u16 M.value] fun bu bv a7 a8 D=>?_
 have a9:=dX a7 (xs:=[M.addr,M.value]) (by as_aux_lemma=>kernel_rfl) (am (by omega) (am (by omega) aM)) (by(try simp only[List.length_cons,List.length_nil]);omega) a8
 refine L0<|Oc<|dE (bg (xs:=[M.addr,M.value]) (a9).rd (by(try simp only[List.length_cons,List.length_nil]);omega)) fun aa ab bw ac bx bz ad=>Pl 1<|nt<|rt<|br<|tr<|rr (.slice aa ((aP ([M.addr,M.value])).length) ab)<|?_
 have hs:bB dir M=(aP ([M.addr,M.value])):=by
   unfold bB
   (try simp only[hd0,j,c,bs,if_true,if_false,decide_true,decide_false,reduceIte])
   all_goals rfl
 rw[hs]
 exact⟨_,rfl,(aJ.weaken ac (le (le (le i.size d.size) b.size) D.size)),(aE l (aE D ad))⟩
 have a6:=aC c
 refine sg<|Pl 3<|nt<|cb ((M.code==22)) (fun f=>?_) (fun f=>?_)
 have ae:=az f
 refine sg<|Pl 1<|L0<|aN a 2<|Pl 1<|L0<|aN a 5<|Pl 1<|L0<|aN a 6<|L0<|cF (m:=3) (e:=22) #[.int .u16 M.addr,.int .u16 M.and_,.int .u16 M.or_] fun bA bC af ah E=>?_
 have ai:=dX af (xs:=[M.addr,M.and_,M.or_]) (by as_aux_lemma=>kernel_rfl) (am (by omega) (am (by omega) (am (by omega) aM))) (by(try simp only[List.length_cons,List.length_nil]);omega) ah
 refine L0<|Oc<|dE (bg (xs:=[M.addr,M.and_,M.or_]) (ai).rd (by(try simp only[List.length_cons,List.length_nil]);omega)) fun ak al bD an bE bF ao=>Pl 1<|nt<|rt<|br<|tr<|rr (.slice ak ((aP ([M.addr,M.and_,M.or_])).length) al)<|?_
 have hs:bB dir M=(aP ([M.addr,M.and_,M.or_])):=by
   unfold bB
   (try simp only[hd0,j,c,f,bs,if_true,if_false,decide_true,decide_false,reduceIte])
   all_goals rfl
 rw[hs]
 exact⟨_,rfl,(aJ.weaken an (le (le (le i.size d.size) b.size) E.size)),(aE l (aE E ao))⟩
 have ae:=aC f
 refine sg<|Pl 3<|cu 2 [65] 67 (((M.code==16)&&(dir==0))) (fun K F=>?_) ?_
 refine bl 65 ((M.code==16)) (fun q=>?_) (fun q=>?_)
 have ap:=az q
 exact Pl 2<|ce F (dir==0) (by rw[q];rfl)
 have ap:=aC q
 exact Pl 2<|ce F false (by rw[q];rfl)
 refine Pl 1<|nt<|cb (((M.code==16)&&(dir==0))) (fun g=>?_) (fun g=>?_)
 have k:=(bH g).1
 have G:=(bH g).2
 have ar:=az k
 have bG:=az G
 refine sg<|Pl 1<|L0<|aN a 2<|Pl 1<|L0<|aN a 3<|L0<|cF (m:=2) (e:=22) #[.int .u16 M.addr,.int .u16 M.count] fun bI bJ au aw s=>?_
 have ax:=dX au (xs:=[M.addr,M.count]) (by as_aux_lemma=>kernel_rfl) (am (by omega) (am (by omega) aM)) (by(try simp only[List.length_cons,List.length_nil]);omega) aw
 refine L0<|Oc<|dE (bg (xs:=[M.addr,M.count]) (ax).rd (by(try simp only[List.length_cons,List.length_nil]);omega)) fun bK bL bM H bN bO u=>Pl 1<|?_
 have I:=aE s u
 refine L0<|cj aX (xs:=(aP ([M.addr,M.count]))) (ys:=([((2*((M.words.length:Nat) : Int))%256)])) (.int .u8 0) 1 H ((aj z (aE b I) (fun x hx=>ay) (fun _ _ h=>h))).rd (by(try simp only[List.length_append,List.length_cons,List.length_nil,av]);omega) u.size fun bP bQ bR J L=>Pl 1<|?_
 have N:=ut I L (ag (aI H s.size) aq)
 refine L0<|cj aX (xs:=((aP ([M.addr,M.count]))++[((2*((M.words.length:Nat) : Int))%256)])) (ys:=(aP M.words)) (.int .u8 0) 1 J ((aj C N (fun x hx=>ay) (fun _ _ h=>h))).rd (by(try simp only[List.length_append,List.length_cons,List.length_nil,av]);omega) (le u.size L.size) fun aA aB bS aD aG=>Pl 1<|nt<|rt<|br<|tr<|rr (.slice aA ((((aP ([M.addr,M.count]))++[((2*((M.words.length:Nat) : Int))%256)])++(aP M.words)).length) aB)<|?_
 have hs:bB dir M=(((aP ([M.addr,M.count]))++[((2*((M.words.length:Nat) : Int))%256)])++(aP M.words)):=by
   unfold bB
   (try simp only[G,j,c,f,g,k,bs,if_true,if_false,decide_true,decide_false,reduceIte])
   all_goals rfl
 rw[hs]
 exact⟨_,rfl,(aJ.weaken aD (le (le (le i.size d.size) b.size) s.size)),(aE l (ut N aG (ag (aI J s.size) aq)))⟩
 have k:(M.code==16)=false:=by simpa only[hd0,bs] using g
 have ar:=aC k
 refine sg<|Pl 3<|nt<|cb ((M.code==23)) (fun n=>?_) (fun n=>?_)
 have aH:=az n
 refine sg<|Pl 1<|L0<|aN a 2<|Pl 1<|L0<|aN a 3<|Pl 1<|L0<|aN a 7<|Pl 2<|L0<|cF (m:=4) (e:=22) #[.int .u16 M.addr,.int .u16 M.count,.int .u16 M.addr2,.int .u16 (((M.words.length:Nat) : Int)%65536)] fun bT bU aK aL t=>?_
 have aO:=dX aK (xs:=[M.addr,M.count,M.addr2,(((M.words.length:Nat) : Int)%65536)]) (by as_aux_lemma=>kernel_rfl) (am (by omega) (am (by omega) (am (by omega) (am (by omega) aM)))) (by(try simp only[List.length_cons,List.length_nil]);omega) aL
 refine L0<|Oc<|dE (bg (xs:=[M.addr,M.count,M.addr2,(((M.words.length:Nat) : Int)%65536)]) (aO).rd (by(try simp only[List.length_cons,List.length_nil]);omega)) fun bV bW bX O bY bZ v=>Pl 1<|?_
 have P:=aE t v
 refine L0<|cj aX (xs:=(aP ([M.addr,M.count,M.addr2,(((M.words.length:Nat) : Int)%65536)]))) (ys:=([((2*((M.words.length:Nat) : Int))%256)])) (.int .u8 0) 1 O ((aj z (aE b P) (fun x hx=>ay) (fun _ _ h=>h))).rd (by(try simp only[List.length_append,List.length_cons,List.length_nil,av]);omega) v.size fun c1 c2 c3 Q R=>Pl 1<|?_
 have S:=ut P R (ag (aI O t.size) aq)
 refine L0<|cj aX (xs:=((aP ([M.addr,M.count,M.addr2,(((M.words.length:Nat) : Int)%65536)]))++[((2*((M.words.length:Nat) : Int))%256)])) (ys:=(aP M.words)) (.int .u8 0) 1 Q ((aj C S (fun x hx=>ay) (fun _ _ h=>h))).rd (by(try simp only[List.length_append,List.length_cons,List.length_nil,av]);omega) (le v.size R.size) fun aQ aR c4 aS aT=>Pl 1<|nt<|rt<|br<|tr<|rr (.slice aQ ((((aP ([M.addr,M.count,M.addr2,(((M.words.length:Nat) : Int)%65536)]))++[((2*((M.words.length:Nat) : Int))%256)])++(aP M.words)).length) aR)<|?_
 have hs:bB dir M=(((aP ([M.addr,M.count,M.addr2,(((M.words.length:Nat) : Int)%65536)]))++[((2*((M.words.length:Nat) : Int))%256)])++(aP M.words)):=by
   unfold bB
   (try simp only[hd0,j,c,f,g,k,n,bs,if_true,if_false,decide_true,decide_false,reduceIte])
   all_goals rfl
 rw[hs]
 exact⟨_,rfl,(aJ.weaken aS (le (le (le i.size d.size) b.size) t.size)),(aE l (ut S aT (ag (aI Q t.size) aq)))⟩
 have aH:=aC n
 refine sg<|Pl 3<|cu 2 [98] 100 (((M.code==24)&&(dir==0))) (fun K T=>?_) ?_
 refine bl 98 ((M.code==24)) (fun r=>?_) (fun r=>?_)
 have aU:=az r
 exact Pl 2<|ce T (dir==0) (by rw[r];rfl)
 have aU:=aC r
 exact Pl 2<|ce T false (by rw[r];rfl)
 refine Pl 1<|nt<|cb (((M.code==24)&&(dir==0))) (fun o=>?_) (fun o=>?_)
 have p:=(bH o).1
 have U:=(bH o).2
 have aW:=az p
 have c5:=az U
 refine sg<|Pl 1<|L0<|aN a 2<|L0<|cF (m:=1) (e:=22) #[.int .u16 M.addr] fun c6 c7 aY aZ V=>?_
 have b0:=dX aY (xs:=[M.addr]) (by as_aux_lemma=>kernel_rfl) (am (by omega) aM) (by(try simp only[List.length_cons,List.length_nil]);omega) aZ
 refine L0<|Oc<|dE (bg (xs:=[M.addr]) (b0).rd (by(try simp only[List.length_cons,List.length_nil]);omega)) fun b1 b2 c8 b3 c9 ca b4=>Pl 1<|nt<|rt<|br<|tr<|rr (.slice b1 ((aP ([M.addr])).length) b2)<|?_
 have hs:bB dir M=(aP ([M.addr])):=by
   unfold bB
   (try simp only[U,j,c,f,g,k,n,o,p,bs,if_true,if_false,decide_true,decide_false,reduceIte])
   all_goals rfl
 rw[hs]
 exact⟨_,rfl,(aJ.weaken b3 (le (le (le i.size d.size) b.size) V.size)),(aE l (aE V b4))⟩
 have p:(M.code==24)=false:=by simpa only[hd0,bs] using o
 have aW:=aC p
 refine sg<|Pl 3<|nt<|cf p<|sk<|bn<|tn<|sg<|Pl 1<|L0<|aN a 2<|Pl 1<|L0<|aN a 3<|?_
 refine L0<|cF (m:=2) (e:=22) #[.int .u16 M.addr,.int .u16 M.count] fun cc cd b5 b6 W=>?_
 have b7:=dX b5 (xs:=[M.addr,M.count]) (by as_aux_lemma=>kernel_rfl) (am (by omega) (am (by omega) aM)) (by(try simp only[List.length_cons,List.length_nil]);omega) b6
 refine L0<|Oc<|dE (bg (xs:=[M.addr,M.count]) (b7).rd (by(try simp only[List.length_cons,List.length_nil]);omega)) fun b8 b9 cg ba ch ci bb=>Pl 1<|nt<|rt<|rr (.slice b8 ((aP ([M.addr,M.count])).length) b9)<|?_
 have hs:bB dir M=(aP ([M.addr,M.count])):=by
   unfold bB
   (try simp only[hd0,j,c,f,g,k,n,o,p,bs,if_true,if_false,decide_true,decide_false,reduceIte])
   all_goals rfl
 rw[hs]
 exact⟨_,rfl,(aJ.weaken ba (le (le (le i.size d.size) b.size) W.size)),(aE l (aE W bb))⟩
theorem qn{m:Bool}{cs:Array Value}{M:aV}{w:World}{dir:Int}(h:aF m w cs.toList M)(hf:bp M)(hd0:(dir==0)=false) : Calls Tryz.prog 87 #[.int .i64 dir,.agg cs] w (i9 (bB dir M) w):=by
 obtain⟨vw,vb,vd,vr,vo,h0,hw,hbt,hd,hr,ho,hR⟩:=h
 obtain rfl:cs=(bt M vw vb vd vr vo).toArray:=by apply Array.toList_inj.1;simpa using h0
 clear h0
 obtain⟨Aw,kw,rfl,_,_⟩:=hw.shape
 obtain⟨Ab,kb,rfl,_,_⟩:=hbt.shape
 obtain⟨Ad,kd,rfl,_,_⟩:=hd.shape
 obtain⟨Ar,kr,rfl,_,_⟩:=hr.shape
 obtain⟨Ao,ko,rfl,_,_⟩:=ho.shape
 obtain⟨q0,q1,q2,q3,q4,q5,q6,q7,q8,q9,R,S,T,U,V,W,X⟩:=hR
 simp only[B8,db] at q0 q1 q2 q3 q4 q5 q6 q7 q8 q9 R S T U V W X
 have hf1:=hf.words
 have hf2:=hf.bits
 have hf3:=hf.data
 have hf4:=hf.recs
 have hf5:=hf.objects
 refine en 124 Tryz.func87 rfl<|sg<|L0<|cz (mG M.code M.fail M.addr M.count M.value M.and_ M.or_ M.addr2 M.sub M.status M.events M.messages (.slice Aw M.words.length kw) (.slice Ab M.bits.length kb) (.slice Ad M.data.length kd) (.slice Ar M.recs.length kr) M.mei M.kind M.level M.more M.next (.slice Ao M.objects.length ko)) fun aY aZ b0 A d=>Pl 1<|ng<|Pl 1<|L0<|aN A 12<|Pl 2<|nt<|?_
 refine sg<|Pl 1<|L0<|Oi (2*((M.words.length:Nat) : Int))<|Pl 1<|L0<|cF (m:=1) (e:=5) #[.int .u8 ((2*((M.words.length:Nat) : Int))%256)] fun b1 b2 Y Z f=>?_
 have B:=cP Y (xs:=[((2*((M.words.length:Nat) : Int))%256)]) (by as_aux_lemma=>kernel_rfl) (am (by omega) aM) (by(try simp only[List.length_cons,List.length_nil]);omega) Z
 refine Pl 1<|?_
 have C:=ub f A
 refine L0<|aN C 12<|?_
 have D:=aE d f
 refine L0<|Oc<|dE (bg (xs:=M.words) (dB.old hw D) (by(try simp only[List.length_cons,List.length_nil]);omega)) fun b3 b4 b5 E b6 b7 a=>Pl 2<|ng<|Pl 3<|nt<|sq<|sg<|Pl 1<|?_
 have b:=ub a C
 refine L0<|aN b 0<|Pl 1<|nt<|bk<|sg<|Pl 3<|?_
 have i:(!(dir==0))=true:=by simp only[hd0,Bool.not_true,Bool.not_false]
 refine sy 27 i<|Pl 3<|cu 3 [30] 33 (((M.code==3)||(M.code==4))) (fun K F=>?_) ?_
 refine bl 30 ((M.code==3)) (fun n=>?_) (fun n=>?_)
 have a0:=az n
 exact Pl 3<|ce F true (by rw[n];rfl)
 have a0:=aC n
 exact Pl 3<|ce F (M.code==4) (by rw[n];rfl)
 refine Pl 1<|cu 3 [34] 37 ((((M.code==3)||(M.code==4))||(M.code==23))) (fun K G=>?_) ?_
 refine bl 34 (((M.code==3)||(M.code==4))) (fun o=>?_) (fun o=>?_)
 exact Pl 3<|ce G true (by rw[o];rfl)
 have a1:=(aH o).1
 have a2:=(aH o).2
 have b8:=aC a1
 have b9:=aC a2
 exact Pl 3<|ce G (M.code==23) (by rw[o];rfl)
 refine Pl 2<|nt<|?_
 have p:=aE D a
 refine cb ((((M.code==3)||(M.code==4))||(M.code==23))) (fun c=>?_) (fun c=>?_)
 refine sg<|Pl 2<|?_
 refine L0<|cj aX (xs:=([((2*((M.words.length:Nat) : Int))%256)])) (ys:=(aP M.words)) (.int .u8 0) 1 (aj B a (fun x hx=>ay) (fun _ _ h=>h)) (E).rd (by(try simp only[List.length_append,List.length_cons,List.length_nil,av]);omega) (le f.size a.size) fun a3 a4 ba a5 a6=>Pl 1<|nt<|rt<|br<|tr<|rr (.slice a3 (([((2*((M.words.length:Nat) : Int))%256)]++(aP M.words)).length) a4)<|?_
 have hs:bB dir M=([((2*((M.words.length:Nat) : Int))%256)]++(aP M.words)):=by
   unfold bB
   (try simp only[hd0,i,c,bs,if_true,if_false,decide_true,decide_false,reduceIte])
   all_goals rfl
 rw[hs]
 exact⟨_,rfl,(aJ.weaken a5 d.size),(ut p a6 (ag (aI B d.size) aq))⟩
 have j:=(aH c).1
 have k:=(aH c).2
 have q:=(aH j).1
 have r:=(aH j).2
 have q40aap:=aC q
 have q40abp:=aC r
 have bb:=aC k
 refine sg<|Pl 3<|nt<|cb ((M.code==6)) (fun g=>?_) (fun g=>?_)
 have a7:=az g
 refine sg<|Pl 1<|L0<|aN b 2<|Pl 1<|L0<|aN b 4<|L0<|cF (m:=2) (e:=22) #[.int .u16 M.addr,.int .u16 M.value] fun bc bd a8 a9 H=>?_
 have aa:=dX a8 (xs:=[M.addr,M.value]) (by as_aux_lemma=>kernel_rfl) (am (by omega) (am (by omega) aM)) (by(try simp only[List.length_cons,List.length_nil]);omega) a9
 refine L0<|Oc<|dE (bg (xs:=[M.addr,M.value]) (aa).rd (by(try simp only[List.length_cons,List.length_nil]);omega)) fun ab ac be ad bf bh ae=>Pl 1<|nt<|rt<|br<|tr<|rr (.slice ab ((aP ([M.addr,M.value])).length) ac)<|?_
 have hs:bB dir M=(aP ([M.addr,M.value])):=by
   unfold bB
   (try simp only[hd0,i,c,j,q,r,k,g,bs,if_true,if_false,decide_true,decide_false,reduceIte])
   all_goals rfl
 rw[hs]
 exact⟨_,rfl,(aJ.weaken ad (le (le (le d.size f.size) a.size) H.size)),(aE p (aE H ae))⟩
 have a7:=aC g
 refine sg<|Pl 3<|nt<|cb ((M.code==22)) (fun l=>?_) (fun l=>?_)
 have af:=az l
 refine sg<|Pl 1<|L0<|aN b 2<|Pl 1<|L0<|aN b 5<|Pl 1<|L0<|aN b 6<|L0<|cF (m:=3) (e:=22) #[.int .u16 M.addr,.int .u16 M.and_,.int .u16 M.or_] fun bi bj ah ai I=>?_
 have ak:=dX ah (xs:=[M.addr,M.and_,M.or_]) (by as_aux_lemma=>kernel_rfl) (am (by omega) (am (by omega) (am (by omega) aM))) (by(try simp only[List.length_cons,List.length_nil]);omega) ai
 refine L0<|Oc<|dE (bg (xs:=[M.addr,M.and_,M.or_]) (ak).rd (by(try simp only[List.length_cons,List.length_nil]);omega)) fun al an bm ao bo bq ap=>Pl 1<|nt<|rt<|br<|tr<|rr (.slice al ((aP ([M.addr,M.and_,M.or_])).length) an)<|?_
 have hs:bB dir M=(aP ([M.addr,M.and_,M.or_])):=by
   unfold bB
   (try simp only[hd0,i,c,j,q,r,k,g,l,bs,if_true,if_false,decide_true,decide_false,reduceIte])
   all_goals rfl
 rw[hs]
 exact⟨_,rfl,(aJ.weaken ao (le (le (le d.size f.size) a.size) I.size)),(aE p (aE I ap))⟩
 have af:=aC l
 refine sg<|Pl 3<|cu 2 [65] 67 (((M.code==16)&&(dir==0))) (fun K J=>?_) ?_
 refine bl 65 ((M.code==16)) (fun s=>?_) (fun s=>?_)
 have ar:=az s
 exact Pl 2<|ce J (dir==0) (by rw[s];rfl)
 have ar:=aC s
 exact Pl 2<|ce J false (by rw[s];rfl)
 refine Pl 1<|nt<|?_
 have v:((M.code==16)&&(dir==0))=false:=by simp only[hd0,bs]
 refine cf v<|sg<|Pl 3<|nt<|cf k<|sg<|Pl 3<|cu 2 [98] 100 (((M.code==24)&&(dir==0))) (fun K L=>?_) ?_
 refine bl 98 ((M.code==24)) (fun t=>?_) (fun t=>?_)
 have au:=az t
 exact Pl 2<|ce L (dir==0) (by rw[t];rfl)
 have au:=aC t
 exact Pl 2<|ce L false (by rw[t];rfl)
 refine Pl 1<|nt<|?_
 have y:((M.code==24)&&(dir==0))=false:=by simp only[hd0,bs]
 refine cf y<|sg<|Pl 3<|nt<|cb ((M.code==24)) (fun u=>?_) (fun u=>?_)
 have aw:=az u
 refine sg<|Pl 1<|L0<|Oi (2*((M.words.length:Nat) : Int))<|L0<|Oi (2+(2*((M.words.length:Nat) : Int)))<|Pl 3<|L0<|cF (m:=2) (e:=22) #[.int .u16 ((2+(2*((M.words.length:Nat) : Int)))%65536),.int .u16 (((M.words.length:Nat) : Int)%65536)] fun bu bv ax aA z=>?_
 have aB:=dX ax (xs:=[((2+(2*((M.words.length:Nat) : Int)))%65536),(((M.words.length:Nat) : Int)%65536)]) (by as_aux_lemma=>kernel_rfl) (am (by omega) (am (by omega) aM)) (by(try simp only[List.length_cons,List.length_nil]);omega) aA
 refine L0<|Oc<|dE (bg (xs:=[((2+(2*((M.words.length:Nat) : Int)))%65536),(((M.words.length:Nat) : Int)%65536)]) (aB).rd (by(try simp only[List.length_cons,List.length_nil]);omega)) fun bw bx bz N bA bC O=>Pl 1<|?_
 have P:=aE z O
 refine L0<|cj aX (xs:=(aP ([((2+(2*((M.words.length:Nat) : Int)))%65536),(((M.words.length:Nat) : Int)%65536)]))) (ys:=(aP M.words)) (.int .u8 0) 1 N ((aj E P (fun x hx=>ay) (fun _ _ h=>h))).rd (by(try simp only[List.length_append,List.length_cons,List.length_nil,av]);omega) O.size fun aD aG bD aK aL=>Pl 1<|nt<|rt<|br<|tr<|rr (.slice aD (((aP ([((2+(2*((M.words.length:Nat) : Int)))%65536),(((M.words.length:Nat) : Int)%65536)]))++(aP M.words)).length) aG)<|?_
 have hs:bB dir M=((aP ([((2+(2*((M.words.length:Nat) : Int)))%65536),(((M.words.length:Nat) : Int)%65536)]))++(aP M.words)):=by
   unfold bB
   (try simp only[hd0,i,c,j,q,r,k,g,l,v,y,u,bs,if_true,if_false,decide_true,decide_false,reduceIte])
   all_goals rfl
 rw[hs]
 exact⟨_,rfl,(aJ.weaken aK (le (le (le d.size f.size) a.size) z.size)),(aE p (ut P aL (ag (aI N z.size) aq)))⟩
 have aw:=aC u
 refine sk<|bn<|tn<|sg<|Pl 1<|L0<|aN b 2<|Pl 1<|L0<|aN b 3<|L0<|cF (m:=2) (e:=22) #[.int .u16 M.addr,.int .u16 M.count] fun bE bF aO aQ Q=>?_
 have aR:=dX aO (xs:=[M.addr,M.count]) (by as_aux_lemma=>kernel_rfl) (am (by omega) (am (by omega) aM)) (by(try simp only[List.length_cons,List.length_nil]);omega) aQ
 refine L0<|Oc<|dE (bg (xs:=[M.addr,M.count]) (aR).rd (by(try simp only[List.length_cons,List.length_nil]);omega)) fun aS aT bG aU bH bI aW=>Pl 1<|nt<|rt<|rr (.slice aS ((aP ([M.addr,M.count])).length) aT)<|?_
 have hs:bB dir M=(aP ([M.addr,M.count])):=by
   unfold bB
   (try simp only[hd0,i,c,j,q,r,k,g,l,v,y,u,bs,if_true,if_false,decide_true,decide_false,reduceIte])
   all_goals rfl
 rw[hs]
 exact⟨_,rfl,(aJ.weaken aU (le (le (le d.size f.size) a.size) Q.size)),(aE p (aE Q aW))⟩
theorem vp{m:Bool}{cs:Array Value}{M:aV}{w:World}{dir:Int}(h:aF m w cs.toList M)(hf:bp M) : Calls Tryz.prog 87 #[.int .i64 dir,.agg cs] w (i9 (bB dir M) w):=by
  rcases di (dir==0) with h0|h0
  · exact oV h hf h0
  · exact qn h hf h0
end Go.Proofs.YtpglhicfhppaiaaGreat
