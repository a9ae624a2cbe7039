/- Contracts of functions, part CAduTurns3. -/
import Derived.Test.YtdkhbcefkfgbdaaGreatCAduTurns1
import Derived.Test.YtdkhbcefkfgbdaaGreatCAduTurns2
import Derived.RangeFuncRecord
import Derived.RangeFuncLeaves
import Derived.RangeFuncCalls
import Derived.OpenShut
import Derived.Below
set_option linter.unusedVariables false
set_option linter.unusedSimpArgs false
set_option maxRecDepth 100000
set_option maxHeartbeats 4000000
namespace Go.Proofs.YtdkhbcefkfgbdaaGreat
open Go.RowKit
variable {A:Option Addr}{C:ai}{b:List Int}{c n:Int}{cp g:Nat}{m:Md}{w:World}
def dI (C:ai) : ai:=(C.bytesC 1).need (C.byteV==13 || C.byteV==14) 8
def g9 (C:ai) : ai:=(dI C).need (decide (((dI C).l.length:Int)≤251)) 5
def eK (C:ai) : ai:=((dI C).bytesC 1).need (decide (1≤(dI C).byteV)&&decide ((dI C).byteV≤4)) 6
def bP (dir c:Int)(C:ai) : Option (ai × aT) :=
  if c != 43 then none
  else if C.byteV==13 then some ((g9 C).bytesC ((g9 C).l.length:Int),{ aT.zero with code:=c,mei:=C.byteV,data:=(g9 C).bytesR ((g9 C).l.length:Int) })
  else if dir==1 then some ((dV (dI C).byteV (eK C)).1,{ aT.zero with code:=c,mei:=C.byteV,kind:=(dI C).byteV,level:=(eK C).byteV,more:=(md (eK C)).byteV,next:=(ma (eK C)).byteV,objects:=(dV (dI C).byteV (eK C)).2 })
  else some ((eK C).bytesC 1,{ aT.zero with code:=c,mei:=C.byteV,kind:=(dI C).byteV,next:=(eK C).byteV })
theorem rC(hcode:B8 c)(hsl:aX m w (.slice A b.length cp) b)(hb:b.length≤1048576) :
    Calls Tryz.prog 104 #[vI 0,vB c,.slice A b.length cp] w (eT (aj bP 0 c b) w):=by
 obtain⟨hcode1,hcode2⟩:=hcode
 have hln:(b.length:Int)≤1048576:=by omega
 refine en 81 Tryz.func104 rfl<|sg<|aK mZ fun af bg p j h=>ah 1<|sq<|bk<|aD 7<|c0<|aD 3<|cb ((c != 43)) (fun k=>?_) (fun k=>?_)
 have an:=az k
 refine ak 1<|aG j mZ fun bh ao ap=>ah 1<|rt<|br<|tr<|bH ao (vI 4)<|?_
 exact cC (by unfold aj bP g9 eK dI;(try simp only[k,bj,dQ,dU,dW,dT,dR,reduceIte])<;>rfl) (d6 (ud h ap p))
 have an:=aA k
 refine sk<|bn<|tn<|ak 1<|?_
 refine ay<|e3 (et (aX.old hsl h) (by omega)) fun aq bi d L i=>Pl 1<|aM 2<|ay<|m3 (cl L) fun bm ar f bp=>Pl 1<|aK mZ fun au bq g aw ax=>aG aw (mG c 0 0 0 0 0 0 0 0 0 0 0 nS nS nS nS ((ai.mk b false 0).byteV) 0 0 0 0 nS) fun bs y aB=>nt<|sq<|go<|Pl 2<|aE y 16<|Pl 2<|cu 4 [33] 37 (((((ai.mk b false 0).byteV)==13)||(((ai.mk b false 0).byteV)==14))) (fun K M=>?_) ?_
 refine bl 33 ((((ai.mk b false 0).byteV)==13)) (fun q=>?_) (fun q=>?_)
 have aI:=ag q
 exact Pl 4<|ce M true (by rw[q];rfl)
 have aI:=am q
 exact Pl 1<|L1<|dX y 16<|Pl 2<|ce M (((ai.mk b false 0).byteV)==14) (by rw[q];rfl)
 have N:=ud ax aB g
 refine ay<|m2 (bu (((((ai.mk b false 0).byteV)==13)||(((ai.mk b false 0).byteV)==14))) 8 (al.old ar N)) fun bv aL O=>?_
 refine ab aL fun x45 t u=>?_
 refine nt<|sq<|ak 1<|?_
 have a:=nb (al.lt L) f.size g
 have z:=be O (Ne.symm a) y
 refine aE z 16<|ah 1<|?_
 have o:=ud i (u1 f (uz N O) im) d
 have P:=aJ h o
 refine cb ((((ai.mk b false 0).byteV)==13)) (fun r=>?_) (fun r=>?_)
 have aO:=ag r
 refine ak 2<|ay<|mq (eQ u)<|?_
 have bw:=al.len u
 refine Pl 1<|ay<|m2 (bu ((decide ((x45.l.length:Int)≤251))) 5 u) fun bx aP aQ=>?_
 refine ab aP fun x59 Q v=>?_
 refine nt<|go<|Pl 2<|ay<|mq (eQ v)<|?_
 have bz:=al.len v
 refine ay<|wH (cR (n:=(x59.l.length:Int)) v) fun R S bA aR bB bC aU aW=>?_
 have bD:=Nat.le_trans (ai.bytesR_le x59 (x59.l.length:Int)) (al.len v)
 refine ab aU fun x69 T U=>?_
 refine Pl 1<|?_
 have B:=u1 aQ aW im
 have C:=be B (Ne.symm a) z
 refine L0<|cm C 14 (mG c 0 0 0 0 0 0 0 0 0 0 0 nS nS (.slice R ((x59.bytesR (x59.l.length:Int)).length) S) nS ((ai.mk b false 0).byteV) 0 0 0 0 nS) fun bE aY V=>aM 1<|?_
 refine ay<|m2 (cH (al.upd U V (aa a aF) (av (b6 C (by decide)) aN))) fun bF W X=>nt<|sq<|ak 1<|ay<|mq (bL W)<|?_
 have bG:=al.len W
 refine Pl 1<|cN 2<|?_
 have Y:=us V X
 have D:=ui B Y
 have Z:=ut P D (ac (ni (le (le h.size i.size) f.size) g) (ac (ni h.size d) aC))
 have hs:aj bP 0 c b=bt (aT.mk c 0 0 0 0 0 0 0 0 0 0 0 [] [] (((((ai.mk b false 0).bytesC 1).need ((((ai.mk b false 0).byteV)==13)||(((ai.mk b false 0).byteV)==14)) 8).need (decide ((((((ai.mk b false 0).bytesC 1).need ((((ai.mk b false 0).byteV)==13)||(((ai.mk b false 0).byteV)==14)) 8).l.length:Nat) : Int)≤251)) 5).bytesR ((((((ai.mk b false 0).bytesC 1).need ((((ai.mk b false 0).byteV)==13)||(((ai.mk b false 0).byteV)==14)) 8).need (decide ((((((ai.mk b false 0).bytesC 1).need ((((ai.mk b false 0).byteV)==13)||(((ai.mk b false 0).byteV)==14)) 8).l.length:Nat) : Int)≤251)) 5).l.length:Nat) : Int)) [] ((ai.mk b false 0).byteV) 0 0 0 0 []) (((((ai.mk b false 0).bytesC 1).need ((((ai.mk b false 0).byteV)==13)||(((ai.mk b false 0).byteV)==14)) 8).need (decide ((((((ai.mk b false 0).bytesC 1).need ((((ai.mk b false 0).byteV)==13)||(((ai.mk b false 0).byteV)==14)) 8).l.length:Nat) : Int)≤251)) 5).bytesC ((((((ai.mk b false 0).bytesC 1).need ((((ai.mk b false 0).byteV)==13)||(((ai.mk b false 0).byteV)==14)) 8).need (decide ((((((ai.mk b false 0).bytesC 1).need ((((ai.mk b false 0).byteV)==13)||(((ai.mk b false 0).byteV)==14)) 8).l.length:Nat) : Int)≤251)) 5).l.length:Nat) : Int)):=by
   unfold aj bP g9 eK dI
   (try simp only[k,r,bj,dQ,dU,dW,dT,dR,reduceIte])
   all_goals rfl
 refine cb ((x69.endC.e != 0)) (fun E=>?_) (fun E=>?_)
 have F:=az E
 refine ak 2<|?_
 refine aG (ub (ut o D (ac (ni (le i.size f.size) g) (ac (nr d) aC))) j) mZ fun bJ aZ b0=>ah 1<|aV<|bH aZ (vI x69.endC.e)<|?_
 subst T Q t
 rw[hs]
 exact bI F (ud Z b0 p)
 have F:=aA E
 refine bo<|sg<|?_
 refine L0<|bO (be X (Ne.symm a) aY)<|?_
 refine aG (ub (ut o D (ac (ni (le i.size f.size) g) (ac (nr d) aC))) j) (mG c 0 0 0 0 0 0 0 0 0 0 0 nS nS (.slice R ((x59.bytesR (x59.l.length:Int)).length) S) nS ((ai.mk b false 0).byteV) 0 0 0 0 nS) fun bK b1 a0=>ah 1<|rt<|bH b1 (vI 0)<|?_
 subst T Q t
 rw[hs]
 exact bM F ⟨_,_,_,_,_,rfl,aS.nil ..,aS.nil ..,(aX.upd' aR (u1 (aH.mono (S':=[au,aq,af]) Y (ac im (ac im aC))) a0 im) (av (b6 C (by decide)) (av (al.safe U _ (by decide)) (av (b6 (ub (ud o B d) j) (by decide)) aN)))),aS.nil ..,aS.nil ..,(cY (by omega))⟩ (ud Z a0 p)
 have aO:=am r
 refine ak 1<|ay<|m3 (cl u) fun bN b2 a1 bQ=>Pl 1<|?_
 have a2:=be a1 (Ne.symm a) z
 refine L0<|cm a2 17 (mG c 0 0 0 0 0 0 0 0 0 0 0 nS nS nS nS ((ai.mk b false 0).byteV) x45.byteV 0 0 0 nS) fun bR G a3=>aM 2<|aE G 17<|Pl 2<|cu 4 [59] 63 (((decide (1≤x45.byteV))&&(decide (x45.byteV≤4)))) (fun K a4=>?_) ?_
 refine bl 59 ((decide (1≤x45.byteV))) (fun s=>?_) (fun s=>?_)
 have b3:=of_decide_eq_true s
 exact Pl 1<|L1<|dX G 17<|Pl 2<|ce a4 (decide (x45.byteV≤4)) (by rw[s];rfl)
 have b3:=of_decide_eq_false s
 exact Pl 4<|ce a4 false (by rw[s];rfl)
 refine ay<|m2 (bu (((decide (1≤x45.byteV))&&(decide (x45.byteV≤4)))) 6 (al.upd b2 a3 (aa a aF) (av (b6 a2 (by decide)) aN))) fun bS b4 b5=>?_
 refine ab b4 fun x a5 b7=>?_
 refine cN 2<|c0<|go<|Pl 1<|ay<|m3 (cl b7) fun bT b8 b9 bU=>Pl 1<|?_
 have a6:=u1 b5 b9 im
 have a7:=be a6 (Ne.symm a) G
 refine L0<|cm a7 20 (mG c 0 0 0 0 0 0 0 0 0 0 0 nS nS nS nS ((ai.mk b false 0).byteV) x45.byteV 0 0 x.byteV nS) fun bV ba a8=>aM 1<|?_
 refine ay<|m2 (cH (al.upd b8 a8 (aa a aF) (av (b6 a7 (by decide)) aN))) fun bW a9 ad=>nt<|sq<|ak 1<|ay<|mq (bL a9)<|?_
 have bX:=al.len a9
 refine Pl 1<|cN 2<|?_
 have H:=ui a1 (ui a3 (ui a6 (us a8 ad)))
 have ae:=ut P H (ac (ni (le (le h.size i.size) f.size) g) (ac (ni h.size d) aC))
 have hs:aj bP 0 c b=bt (aT.mk c 0 0 0 0 0 0 0 0 0 0 0 [] [] [] [] ((ai.mk b false 0).byteV) ((((ai.mk b false 0).bytesC 1).need ((((ai.mk b false 0).byteV)==13)||(((ai.mk b false 0).byteV)==14)) 8).byteV) 0 0 ((((((ai.mk b false 0).bytesC 1).need ((((ai.mk b false 0).byteV)==13)||(((ai.mk b false 0).byteV)==14)) 8).bytesC 1).need ((decide (1≤(((ai.mk b false 0).bytesC 1).need ((((ai.mk b false 0).byteV)==13)||(((ai.mk b false 0).byteV)==14)) 8).byteV))&&(decide ((((ai.mk b false 0).bytesC 1).need ((((ai.mk b false 0).byteV)==13)||(((ai.mk b false 0).byteV)==14)) 8).byteV≤4))) 6).byteV) []) ((((((ai.mk b false 0).bytesC 1).need ((((ai.mk b false 0).byteV)==13)||(((ai.mk b false 0).byteV)==14)) 8).bytesC 1).need ((decide (1≤(((ai.mk b false 0).bytesC 1).need ((((ai.mk b false 0).byteV)==13)||(((ai.mk b false 0).byteV)==14)) 8).byteV))&&(decide ((((ai.mk b false 0).bytesC 1).need ((((ai.mk b false 0).byteV)==13)||(((ai.mk b false 0).byteV)==14)) 8).byteV≤4))) 6).bytesC 1):=by
   unfold aj bP g9 eK dI
   (try simp only[k,r,bj,dQ,dU,dW,dT,dR,reduceIte])
   all_goals rfl
 refine cb (((((x.bytesC 1).endC).e)!=0)) (fun I=>?_) (fun I=>?_)
 have J:=az I
 refine ak 2<|?_
 refine aG (ub (ut o H (ac (ni (le i.size f.size) g) (ac (nr d) aC))) j) mZ fun bY bb bc=>ah 1<|aV<|bH bb (vI (((x.bytesC 1).endC).e))<|?_
 subst a5 t
 rw[hs]
 exact bI J (ud ae bc p)
 have J:=aA I
 refine bo<|sg<|?_
 refine L0<|bO (be ad (Ne.symm a) ba)<|?_
 refine aG (ub (ut o H (ac (ni (le i.size f.size) g) (ac (nr d) aC))) j) (mG c 0 0 0 0 0 0 0 0 0 0 0 nS nS nS nS ((ai.mk b false 0).byteV) x45.byteV 0 0 x.byteV nS) fun bZ bd bf=>ah 1<|rt<|bH bd (vI 0)<|?_
 subst a5 t
 rw[hs]
 exact bM J ⟨_,_,_,_,_,rfl,aS.nil ..,aS.nil ..,aS.nil ..,aS.nil ..,aS.nil ..,(cY (by omega))⟩ (ud ae bf p)
theorem sj(hcode:B8 c)(hsl:aX m w (.slice A b.length cp) b)(hb:b.length≤1048576) :
    Calls Tryz.prog 104 #[vI 1,vB c,.slice A b.length cp] w (eT (aj bP 1 c b) w):=by
 obtain⟨hcode1,hcode2⟩:=hcode
 have hln:(b.length:Int)≤1048576:=by omega
 refine en 81 Tryz.func104 rfl<|sg<|aK mZ fun aq bq p i j=>ah 1<|sq<|bk<|aD 7<|c0<|aD 3<|cb ((c != 43)) (fun o=>?_) (fun o=>?_)
 have ar:=az o
 refine ak 1<|aG i mZ fun bs au aw=>ah 1<|rt<|br<|tr<|bH au (vI 4)<|?_
 exact cC (by unfold aj bP g9 eK dI;(try simp only[o,bj,dQ,dU,dW,dT,dR,reduceIte])<;>rfl) (d6 (ud j aw p))
 have ar:=aA o
 refine sk<|bn<|tn<|ak 1<|?_
 refine ay<|e3 (et (aX.old hsl j) (by omega)) fun ax bv a Q h=>Pl 1<|aM 2<|ay<|m3 (cl Q) fun bw aB d bx=>Pl 1<|aK mZ fun aL bz f aO aP=>aG aO (mG c 0 0 0 0 0 0 0 0 0 0 0 nS nS nS nS ((ai.mk b false 0).byteV) 0 0 0 0 nS) fun bA y aR=>nt<|sq<|go<|Pl 2<|aE y 16<|Pl 2<|cu 4 [33] 37 (((((ai.mk b false 0).byteV)==13)||(((ai.mk b false 0).byteV)==14))) (fun K R=>?_) ?_
 refine bl 33 ((((ai.mk b false 0).byteV)==13)) (fun q=>?_) (fun q=>?_)
 have aU:=ag q
 exact Pl 4<|ce R true (by rw[q];rfl)
 have aU:=am q
 exact Pl 1<|L1<|dX y 16<|Pl 2<|ce R (((ai.mk b false 0).byteV)==14) (by rw[q];rfl)
 have S:=ud aP aR f
 refine ay<|m2 (bu (((((ai.mk b false 0).byteV)==13)||(((ai.mk b false 0).byteV)==14))) 8 (al.old aB S)) fun bB aW T=>?_
 refine ab aW fun x45 t u=>?_
 refine nt<|sq<|ak 1<|?_
 have g:=nb (al.lt Q) d.size f
 have z:=be T (Ne.symm g) y
 refine aE z 16<|ah 1<|?_
 have k:=ud h (u1 d (uz S T) im) a
 have U:=aJ j k
 refine cb ((((ai.mk b false 0).byteV)==13)) (fun r=>?_) (fun r=>?_)
 have aY:=ag r
 refine ak 2<|ay<|mq (eQ u)<|?_
 have bC:=al.len u
 refine Pl 1<|ay<|m2 (bu ((decide ((x45.l.length:Int)≤251))) 5 u) fun bD aZ b0=>?_
 refine ab aZ fun x59 V v=>?_
 refine nt<|go<|Pl 2<|ay<|mq (eQ v)<|?_
 have bE:=al.len v
 refine ay<|wH (cR (n:=(x59.l.length:Int)) v) fun W X bF b1 bG bJ b2 b3=>?_
 have bK:=Nat.le_trans (ai.bytesR_le x59 (x59.l.length:Int)) (al.len v)
 refine ab b2 fun x69 Y Z=>?_
 refine Pl 1<|?_
 have B:=u1 b0 b3 im
 have C:=be B (Ne.symm g) z
 refine L0<|cm C 14 (mG c 0 0 0 0 0 0 0 0 0 0 0 nS nS (.slice W ((x59.bytesR (x59.l.length:Int)).length) X) nS ((ai.mk b false 0).byteV) 0 0 0 0 nS) fun bN b4 a0=>aM 1<|?_
 refine ay<|m2 (cH (al.upd Z a0 (aa g aF) (av (b6 C (by decide)) aN))) fun bQ a1 a2=>nt<|sq<|ak 1<|ay<|mq (bL a1)<|?_
 have bR:=al.len a1
 refine Pl 1<|cN 2<|?_
 have a3:=us a0 a2
 have D:=ui B a3
 have a4:=ut U D (ac (ni (le (le j.size h.size) d.size) f) (ac (ni j.size a) aC))
 have hs:aj bP 1 c b=bt (aT.mk c 0 0 0 0 0 0 0 0 0 0 0 [] [] (((((ai.mk b false 0).bytesC 1).need ((((ai.mk b false 0).byteV)==13)||(((ai.mk b false 0).byteV)==14)) 8).need (decide ((((((ai.mk b false 0).bytesC 1).need ((((ai.mk b false 0).byteV)==13)||(((ai.mk b false 0).byteV)==14)) 8).l.length:Nat) : Int)≤251)) 5).bytesR ((((((ai.mk b false 0).bytesC 1).need ((((ai.mk b false 0).byteV)==13)||(((ai.mk b false 0).byteV)==14)) 8).need (decide ((((((ai.mk b false 0).bytesC 1).need ((((ai.mk b false 0).byteV)==13)||(((ai.mk b false 0).byteV)==14)) 8).l.length:Nat) : Int)≤251)) 5).l.length:Nat) : Int)) [] ((ai.mk b false 0).byteV) 0 0 0 0 []) (((((ai.mk b false 0).bytesC 1).need ((((ai.mk b false 0).byteV)==13)||(((ai.mk b false 0).byteV)==14)) 8).need (decide ((((((ai.mk b false 0).bytesC 1).need ((((ai.mk b false 0).byteV)==13)||(((ai.mk b false 0).byteV)==14)) 8).l.length:Nat) : Int)≤251)) 5).bytesC ((((((ai.mk b false 0).bytesC 1).need ((((ai.mk b false 0).byteV)==13)||(((ai.mk b false 0).byteV)==14)) 8).need (decide ((((((ai.mk b false 0).bytesC 1).need ((((ai.mk b false 0).byteV)==13)||(((ai.mk b false 0).byteV)==14)) 8).l.length:Nat) : Int)≤251)) 5).l.length:Nat) : Int)):=by
   unfold aj bP g9 eK dI
   (try simp only[o,r,bj,dQ,dU,dW,dT,dR,reduceIte])
   all_goals rfl
 refine cb ((x69.endC.e != 0)) (fun E=>?_) (fun E=>?_)
 have F:=az E
 refine ak 2<|?_
 refine aG (ub (ut k D (ac (ni (le h.size d.size) f) (ac (nr a) aC))) i) mZ fun bS b5 b7=>ah 1<|aV<|bH b5 (vI x69.endC.e)<|?_
 subst Y V t
 rw[hs]
 exact bI F (ud a4 b7 p)
 have F:=aA E
 refine bo<|sg<|?_
 refine L0<|bO (be a2 (Ne.symm g) b4)<|?_
 refine aG (ub (ut k D (ac (ni (le h.size d.size) f) (ac (nr a) aC))) i) (mG c 0 0 0 0 0 0 0 0 0 0 0 nS nS (.slice W ((x59.bytesR (x59.l.length:Int)).length) X) nS ((ai.mk b false 0).byteV) 0 0 0 0 nS) fun bT b9 a5=>ah 1<|rt<|bH b9 (vI 0)<|?_
 subst Y V t
 rw[hs]
 exact bM F ⟨_,_,_,_,_,rfl,aS.nil ..,aS.nil ..,(aX.upd' b1 (u1 (aH.mono (S':=[aL,ax,aq]) a3 (ac im (ac im aC))) a5 im) (av (b6 C (by decide)) (av (al.safe Z _ (by decide)) (av (b6 (ub (ud k B a) i) (by decide)) aN)))),aS.nil ..,aS.nil ..,(cY (by omega))⟩ (ud a4 a5 p)
 have aY:=am r
 refine ak 1<|ay<|m3 (cl u) fun bU ba G bV=>Pl 1<|?_
 have a6:=be G (Ne.symm g) z
 refine L0<|cm a6 17 (mG c 0 0 0 0 0 0 0 0 0 0 0 nS nS nS nS ((ai.mk b false 0).byteV) x45.byteV 0 0 0 nS) fun bW H I=>aM 2<|aE H 17<|Pl 2<|cu 4 [59] 63 (((decide (1≤x45.byteV))&&(decide (x45.byteV≤4)))) (fun K a7=>?_) ?_
 refine bl 59 ((decide (1≤x45.byteV))) (fun s=>?_) (fun s=>?_)
 have bb:=of_decide_eq_true s
 exact Pl 1<|L1<|dX H 17<|Pl 2<|ce a7 (decide (x45.byteV≤4)) (by rw[s];rfl)
 have bb:=of_decide_eq_false s
 exact Pl 4<|ce a7 false (by rw[s];rfl)
 refine ay<|m2 (bu (((decide (1≤x45.byteV))&&(decide (x45.byteV≤4)))) 6 (al.upd ba I (aa g aF) (av (b6 a6 (by decide)) aN))) fun bX bc J=>?_
 refine ab bc fun bY a8 bd=>?_
 refine cN 2<|c1<|go<|Pl 1<|?_
 refine ay<|m3 (tF (c:=c) (me:=(ai.mk b false 0).byteV) (kd:=x45.byteV) ⟨hcode1,hcode2⟩ (b8 (by omega)) (b8 (by omega)) bd (be J (Ne.symm g) H) g) fun bZ a9 bf ad=>?_
 obtain⟨bg,x,L⟩:=bf
 refine aM 1<|ay<|m2 (cH a9) fun c2 bh M=>?_
 refine ab bh fun ae af an=>?_
 refine nt<|sq<|ak 1<|ay<|mq (bL an)<|?_
 have c3:=al.len an
 refine Pl 1<|cN 2<|?_
 have N:=ui G (ui I (ui J (u1 ad M im)))
 have ao:=ut U N (ac (ni j.size a) (ac (ni (le (le j.size h.size) d.size) f) aC))
 have hs:aj bP 1 c b=bt ({ aT.zero with code:=c,mei:=(ai.mk b false 0).byteV,kind:=(((ai.mk b false 0).bytesC 1).need ((((ai.mk b false 0).byteV)==13)||(((ai.mk b false 0).byteV)==14)) 8).byteV,level:=(((((ai.mk b false 0).bytesC 1).need ((((ai.mk b false 0).byteV)==13)||(((ai.mk b false 0).byteV)==14)) 8).bytesC 1).need ((decide (1≤(((ai.mk b false 0).bytesC 1).need ((((ai.mk b false 0).byteV)==13)||(((ai.mk b false 0).byteV)==14)) 8).byteV))&&(decide ((((ai.mk b false 0).bytesC 1).need ((((ai.mk b false 0).byteV)==13)||(((ai.mk b false 0).byteV)==14)) 8).byteV≤4))) 6).byteV,more:=(md (((((ai.mk b false 0).bytesC 1).need ((((ai.mk b false 0).byteV)==13)||(((ai.mk b false 0).byteV)==14)) 8).bytesC 1).need ((decide (1≤(((ai.mk b false 0).bytesC 1).need ((((ai.mk b false 0).byteV)==13)||(((ai.mk b false 0).byteV)==14)) 8).byteV))&&(decide ((((ai.mk b false 0).bytesC 1).need ((((ai.mk b false 0).byteV)==13)||(((ai.mk b false 0).byteV)==14)) 8).byteV≤4))) 6)).byteV,next:=(ma (((((ai.mk b false 0).bytesC 1).need ((((ai.mk b false 0).byteV)==13)||(((ai.mk b false 0).byteV)==14)) 8).bytesC 1).need ((decide (1≤(((ai.mk b false 0).bytesC 1).need ((((ai.mk b false 0).byteV)==13)||(((ai.mk b false 0).byteV)==14)) 8).byteV))&&(decide ((((ai.mk b false 0).bytesC 1).need ((((ai.mk b false 0).byteV)==13)||(((ai.mk b false 0).byteV)==14)) 8).byteV≤4))) 6)).byteV,objects:=(dV (((ai.mk b false 0).bytesC 1).need ((((ai.mk b false 0).byteV)==13)||(((ai.mk b false 0).byteV)==14)) 8).byteV (((((ai.mk b false 0).bytesC 1).need ((((ai.mk b false 0).byteV)==13)||(((ai.mk b false 0).byteV)==14)) 8).bytesC 1).need ((decide (1≤(((ai.mk b false 0).bytesC 1).need ((((ai.mk b false 0).byteV)==13)||(((ai.mk b false 0).byteV)==14)) 8).byteV))&&(decide ((((ai.mk b false 0).bytesC 1).need ((((ai.mk b false 0).byteV)==13)||(((ai.mk b false 0).byteV)==14)) 8).byteV≤4))) 6)).2 }) ((dV (((ai.mk b false 0).bytesC 1).need ((((ai.mk b false 0).byteV)==13)||(((ai.mk b false 0).byteV)==14)) 8).byteV (((((ai.mk b false 0).bytesC 1).need ((((ai.mk b false 0).byteV)==13)||(((ai.mk b false 0).byteV)==14)) 8).bytesC 1).need ((decide (1≤(((ai.mk b false 0).bytesC 1).need ((((ai.mk b false 0).byteV)==13)||(((ai.mk b false 0).byteV)==14)) 8).byteV))&&(decide ((((ai.mk b false 0).bytesC 1).need ((((ai.mk b false 0).byteV)==13)||(((ai.mk b false 0).byteV)==14)) 8).byteV≤4))) 6)).1):=by
   unfold aj bP g9 eK dI
   (try simp only[o,r,bj,dQ,dU,dW,dT,dR,reduceIte])
   all_goals rfl
 refine cb ((ae.e != 0)) (fun O=>?_) (fun O=>?_)
 have P:=az O
 refine ak 2<|?_
 refine aG (ub (ut k N (ac (nr a) (ac (ni (le h.size d.size) f) aC))) i) mZ fun c4 bi bm=>ah 1<|aV<|bH bi (vI ae.e)<|?_
 subst af a8 t
 rw[hs]
 exact bI P (ud ao bm p)
 have P:=aA O
 refine bo<|sg<|?_
 refine L0<|bO (hz:=(by rw[x.2];exact aQ)) (be M (Ne.symm g) x.1)<|?_
 refine aG (hz:=(by rw[x.2];exact aQ)) (hv:=L.size) (h1:=L.one) (ub (ut k N (ac (nr a) (ac (ni (le h.size d.size) f) aC))) i) (bg) fun c5 bp ap=>ah 1<|rt<|fh 22 x.2 bp (vI 0)<|?_
 subst af a8 t
 rw[hs]
 exact bM P (aI.upd L (us M ap) (av (al.safe a9 _ (by decide)) (av (b6 (ub (ut k (ui G (ui I (ui J ad))) (ac (nr a) (ac (ni (le h.size d.size) f) aC))) i) (by decide)) aN))) (ud ao ap p)
theorem qN{dir:Int}(hcode:B8 c)(hsl:aX m w (.slice A b.length cp) b)(hb:b.length≤1048576)(hd:¬ (dir=0∨dir=1)) :
    Calls Tryz.prog 104 #[vI dir,vB c,.slice A b.length cp] w (eT (aj bP dir c b) w):=by
 obtain⟨hcode1,hcode2⟩:=hcode
 have hln:(b.length:Int)≤1048576:=by omega
 have e0:(dir != 0)=true:=by simp;omega
 have e1:(dir != 1)=true:=by simp;omega
 refine en 81 Tryz.func104 rfl<|sg<|aK mZ fun g h a d e=>ah 1<|sq<|bk<|ak 3<|sy 14 e0<|Pl 4<|nl<|tn<|ct e1<|ak 1<|aG d mZ fun i eP f=>ah 1<|rt<|br<|tr<|bH eP (vI 1)<|?_
 exact cC (by unfold aj bP g9 eK dI;(try simp only[e0,e1,bj,dQ,dU,dW,dT,dR,reduceIte,hd])<;>rfl) (d6 (ud e f a))
theorem pv{v:Value}   {dir:Int}(hc:B8 c)(h:aX m w v b)(hb:b.length≤1048576) :
    Calls Tryz.prog 104 #[.int .i64 dir,.int .u8 c,v] w (eT (aj bP dir c b) w):=by
  obtain⟨A,cp,rfl,_,_⟩:=h.shape
  by_cases h0:dir=0
  · subst h0;exact rC hc h hb
  by_cases h1:dir=1
  · subst h1;exact sj hc h hb
  exact qN hc h hb (by omega)
open Go.RowKit
def jf (C:ai) : ai:=(C.bytesC 1).need (C.byteV==6) 9
def jP (C:ai) : ai:=((jf C).wordsC 1).need ((jf C).wordV != 0) 6
def o0 (C:ai) : ai:=((jP C).wordsC 1).need (decide ((jP C).wordV≤9999)) 7
def dY (C:ai) : ai:=((o0 C).wordsC 1).need ((o0 C).wordV != 0) 5
def aY (C:ai) : dt:=⟨(jf C).wordV,(jP C).wordV,(o0 C).wordV,[]⟩
def fq (s:Int)(C:ai) : Int:=s+(2+2*(o0 C).wordV)
def ff (s:Int)(C:ai) : ai:=(dY C).need (decide (fq s C≤245)) 5
def iv (C:ai) : ai:=(C.bytesC 1).need ((C.byteV%2==1&&decide (3≤C.byteV))&&decide (C.byteV≤((C.bytesC 1).l.length:Int))) 5
def fj (C:ai) : ai:=((iv C).bytesC 1).need ((iv C).byteV==6) 9
def fx (C:ai) : ai:=(fj C).wordsC (Int.tdiv (C.byteV-1) 2)
def fv (C:ai) : dt:=⟨0,0,0,(fj C).wordsR (Int.tdiv (C.byteV-1) 2)⟩
def oo (C:ai) : ai:=(dY C).need (decide (2*(o0 C).wordV≤((dY C).l.length:Int))) 5
def ke (C:ai) : ai:=(oo C).wordsC (o0 C).wordV
def ka (C:ai) : dt:=⟨(jf C).wordV,(jP C).wordV,(o0 C).wordV,(oo C).wordsR (o0 C).wordV⟩
def CX (g:Nat)(C':ai)(r:dt)(w:World)(e:Ending)(w':World) : Prop:=∃ A c,e = .returned (.agg #[.int .u16 r.file,.int .u16 r.record,.int .u16 r.count,.slice A r.words.length c])∧eG true w' (.slice A r.words.length c) r.words∧eP r.file∧eP r.record∧eP r.count∧al w' g C'∧aH [g] w w'
theorem sM(hC:al w g C) : Calls Tryz.prog 214 #[vP g 0] w (CX g (dY C) (aY C) w):=by
 have hlen:=hC.len
 refine en 34 Tryz.func214 rfl<|sg<|aK #[vW 0,vW 0,vW 0,nS] fun Z a0 c B b=>aM 2<|?_
 refine ay<|m3 (cl (al.old hC b)) fun a1 D d a2=>Pl 1<|ay<|m2 (bu ((C.byteV==6)) 9 D) fun a3 E e=>?_
 refine ab E fun ft F G=>?_
 refine ng<|aK #[vW 0,vW 0,vW 0,nS] fun a4 a5 f H h=>aM 1<|?_
 refine ay<|m3 (ck (al.old G h)) fun a6 I i a7=>Pl 1<|?_
 have a:=nb (al.lt hC) (le (le b.size d.size) e.size) f
 have j:=be i (Ne.symm a) H
 refine L0<|cm j 0 #[vW ft.wordV,vW 0,vW 0,nS] fun a8 k l=>aM 2<|aE k 0<|Pl 1<|?_
 refine ay<|m2 (bu ((ft.wordV != 0)) 6 (al.upd I l (aa a aF) (av (b6 j (by decide)) aN))) fun a9 J K=>?_
 refine ab J fun x45 L M=>?_
 refine aM 1<|ay<|m3 (ck M) fun ac N O ad=>Pl 1<|?_
 have m:=u1 K O im
 have n:=be m (Ne.symm a) k
 refine L0<|cm n 1 #[vW ft.wordV,vW x45.wordV,vW 0,nS] fun ae o p=>aM 2<|aE o 1<|Pl 1<|?_
 refine ay<|m2 (bu ((decide (x45.wordV≤9999))) 7 (al.upd N p (aa a aF) (av (b6 n (by decide)) aN))) fun af P Q=>?_
 refine ab P fun x61 R S=>?_
 refine aM 1<|ay<|m3 (ck S) fun ag T U ah=>Pl 1<|?_
 have q:=u1 Q U im
 have r:=be q (Ne.symm a) o
 refine L0<|cm r 2 #[vW ft.wordV,vW x45.wordV,vW x61.wordV,nS] fun aj s t=>aM 2<|aE s 2<|Pl 1<|?_
 refine ay<|m2 (bu ((x61.wordV != 0)) 5 (al.upd T t (aa a aF) (av (b6 r (by decide)) aN))) fun ak V u=>?_
 refine ab V fun x77 W X=>?_
 refine ng<|?_
 refine L0<|bO (be u (Ne.symm a) s)<|?_
 have v:=u1 d (u1 e (ud h (ui i (ui l (ui m (ui p (ui q (us t u)))))) f) im) im
 have y:=nb (al.lt hC) lr c
 have z:=be v (Ne.symm y) B
 refine aG z #[vW ft.wordV,vW x45.wordV,vW x61.wordV,nS] fun am Y A=>sI<|CW Y<|?_
 subst W R L F
 exact⟨_,_,rfl,aS.nil ..,cT (x:=((C.bytesC 1).need (C.byteV==6) 9).wordV) (by omega),cT (x:=((((C.bytesC 1).need (C.byteV==6) 9).wordsC 1).need (((C.bytesC 1).need (C.byteV==6) 9).wordV != 0) 6).wordV) (by omega),cT (x:=((((((C.bytesC 1).need (C.byteV==6) 9).wordsC 1).need (((C.bytesC 1).need (C.byteV==6) 9).wordV != 0) 6).wordsC 1).need (decide (((((C.bytesC 1).need (C.byteV==6) 9).wordsC 1).need (((C.bytesC 1).need (C.byteV==6) 9).wordV != 0) 6).wordV≤9999)) 7).wordV) (by omega),(al.upd X A (aa y aF) (av (b6 z (by decide)) aN)),(ue b (us v A) c)⟩
theorem vD(hC:al w g C) : Calls Tryz.prog 217 #[vP g 0] w (CX g (fx C) (fv C) w):=by
 have hlen:=hC.len
 refine en 33 Tryz.func217 rfl<|sg<|aK #[vW 0,vW 0,vW 0,nS] fun P Q f i j=>aM 1<|?_
 refine ay<|m3 (cl (al.old hC j)) fun R b k S=>bq C.byteV<|Pl 1<|aM 2<|L0<|Oe (vI (Int.tmod C.byteV 2)) (vI (C.byteV%2)) (congrArg (Value.int .i64) (Int.tmod_eq_emod_of_nonneg (by omega)))<|Pl 2<|cu 3 [11] 14 ((((C.byteV%2)==1)&&(decide (3≤C.byteV)))) (fun K m=>?_) ?_
 refine bl 11 (((C.byteV%2)==1)) (fun a=>?_) (fun a=>?_)
 have y:=ag a
 exact Pl 3<|ce m (decide (3≤C.byteV)) (by rw[a];rfl)
 have y:=am a
 exact Pl 3<|ce m false (by rw[a];rfl)
 refine Pl 1<|cu 5 [15] 20 (((((C.byteV%2)==1)&&(decide (3≤C.byteV)))&&(decide (C.byteV≤(((C.bytesC 1).l.length:Nat) : Int))))) (fun K o=>?_) ?_
 refine bl 15 ((((C.byteV%2)==1)&&(decide (3≤C.byteV)))) (fun c=>?_) (fun c=>?_)
 refine Pl 2<|L1<|Oc<|mq (eQ b)<|?_
 have T:=al.len b
 exact Pl 2<|ce o (decide (C.byteV≤(((C.bytesC 1).l.length:Nat) : Int))) (by rw[c];rfl)
 exact Pl 5<|ce o false (by rw[c];rfl)
 refine ay<|m2 (bu (((((C.byteV%2)==1)&&(decide (3≤C.byteV)))&&(decide (C.byteV≤(((C.bytesC 1).l.length:Nat) : Int))))) 5 b) fun U z p=>?_
 refine ab z fun x28 A B=>?_
 refine aM 2<|ay<|m3 (cl B) fun V D q W=>Pl 1<|ay<|m2 (bu ((x28.byteV==6)) 9 D) fun X E r=>?_
 refine ab E fun x38 F G=>?_
 refine aM 2<|bq (C.byteV-1)<|L0<|Oe (vI (IntKind.i64.wrap (Int.tdiv (C.byteV-1) 2))) (vI (Int.tdiv (C.byteV-1) 2)) (congrArg (Value.int .i64) (mJ (by omega) (by omega)))<|ay<|qH (f5 (n:=(Int.tdiv (C.byteV-1) 2)) G) fun H I Y s Z a0 J L=>?_
 refine ab J fun x48 M N=>?_
 refine Pl 1<|?_
 have t:=u1 k (u1 p (u1 q (u1 r L im) im) im) im
 have u:=nb (al.lt hC) lr f
 have v:=be t (Ne.symm u) i
 refine aG v #[vW 0,vW 0,vW 0,.slice H ((x38.wordsR (Int.tdiv (C.byteV-1) 2)).length) I] fun a1 O d=>sI<|CW O<|?_
 subst M F A
 exact⟨_,_,rfl,((ax s d (fun x hx=>(aa (fun e=>(aL (au i) (le (le (le k.size p.size) q.size) r.size) s) (e▸hx)) aF)) (fun _ _ h=>h))).rd,cT (x:=0) (by omega),cT (x:=0) (by omega),cT (x:=0) (by omega),(al.upd N d (aa u aF) (av (b6 v (by decide)) aN)),(ue j (us t d) f)⟩
theorem AB(hC:al w g C) : Calls Tryz.prog 219 #[vP g 0] w (CX g (ke C) (ka C) w):=by
 have hlen:=hC.len
 refine en 22 Tryz.func219 rfl<|sg<|aK #[vW 0,vW 0,vW 0,nS] fun X Y v f i=>aM 1<|?_
 refine ay<|CJ (sM (al.old hC i)) fun I J Z a0 K L M N c=>?_
 obtain⟨a1,a2⟩:=K
 obtain⟨a3,a4⟩:=L
 obtain⟨a5,a6⟩:=M
 refine aK #[vW 0,vW 0,vW 0,nS] fun O a7 j y z=>aG y #[vW ((aY C).file),vW ((aY C).record),vW ((aY C).count),.slice I ((aY C).words.length) J] fun a8 P k=>nt<|sq<|Rg 9 (fun w'=>w'.cell? ⟨O,2,none⟩=some (vW ((aY C).count))) fun a9 d=>?_
 have m:=ub d P
 refine bp (ae m rfl) fun a=>Rt 0 a<|Rt 1 a<|Rl 2 a (fun _ hs=>hs)<|Rr 3 a (vI ((aY C).count)) (fun _ _=>bW (vI (IntKind.i64.wrap ((aY C).count))) (by kernel_rfl) (congrArg (Value.int .i64) (i64_in (by omega))))<|Rr 4 a (vI (2*((aY C).count))) (fun _ _=>bW (vI (IntKind.i64.wrap (2*((aY C).count)))) (by kernel_rfl) (congrArg (Value.int .i64) (IntWalk.i64_in _ (by omega))))<|Rt 5 a<|?_
 have o:=ud z (aJ k d) j
 have p:=al.old N o
 refine R0 6 rfl<|Oc<|mq (eQ p)<|?_
 have ac:=al.len p
 refine bp (ae m rfl) fun Q=>Rt 7 Q<|R0 8 rfl<|Oc<|m2 (bu ((decide ((2*((aY C).count))≤(((dY C).l.length:Nat) : Int)))) 5 p) fun ad R b=>?_
 refine ab R fun x54 S T=>?_
 have q:=nb (al.lt hC) (le i.size c.size) j
 have r:=be b (Ne.symm q) m
 refine bp (ae r rfl) fun af=>re<|tn<|ak 2<|aE r 2<|bq ((aY C).count)<|ay<|qH (f5 (n:=(aY C).count) T) fun A B ag s ah aj U t=>Pl 1<|?_
 have D:=be t (Ne.symm q) r
 refine L0<|cm D 3 #[vW ((aY C).file),vW ((aY C).record),vW ((aY C).count),.slice A ((x54.wordsR ((aY C).count)).length) B] fun am V E=>ng<|L0<|bO V<|?_
 have F:=u1 c (ue o (ui b (us t E)) j) im
 have u:=nb (al.lt hC) lr v
 refine aG (be F (Ne.symm u) f) #[vW ((aY C).file),vW ((aY C).record),vW ((aY C).count),.slice A ((x54.wordsR ((aY C).count)).length) B] fun an W G=>sI<|CW W<|?_
 subst S
 have H:=us E G
 exact⟨_,_,rfl,((ax s H (fun x hx=>(aa (fun e=>(aL (au y) (le (le k.size d.size) b.size) s) (e▸hx)) (aa (fun e=>(aL (au f) (le (le (le (le c.size z.size) k.size) d.size) b.size) s) (e▸hx)) aF))) (fun _ _ h=>h))).rd,cT (x:=(aY C).file) (by omega),cT (x:=(aY C).record) (by omega),cT (x:=(aY C).count) (by omega),(al.upd U H (aa q (aa u aF)) (av (b6 D (by decide)) (av (b6 (be (u1 c (uz o (u1 b t im)) im) (Ne.symm u) f) (by decide)) aN))),(ue i (us F G) v)⟩
theorem tB(hn:0≤n∧n<256) : Calls Tryz.prog 215 #[vI n] w (cc (.bool ((decide (7≤n)&&decide (n≤245))&&n%7==0)) w):=by
 refine en 14 Tryz.func215 rfl<|ak 1<|aM 3<|cu 3 [5] 8 (((decide (7≤n))&&(decide (n≤245)))) (fun K c=>?_) ?_
 refine bl 5 ((decide (7≤n))) (fun a=>?_) (fun a=>?_)
 have e:=of_decide_eq_true a
 exact Pl 3<|ce c (decide (n≤245)) (by rw[a];rfl)
 have e:=of_decide_eq_false a
 exact Pl 3<|ce c false (by rw[a];rfl)
 refine Pl 1<|cu 4 [9] 13 ((((decide (7≤n))&&(decide (n≤245)))&&((n%7)==0))) (fun K d=>?_) ?_
 refine bl 9 (((decide (7≤n))&&(decide (n≤245)))) (fun b=>?_) (fun b=>?_)
 exact Pl 1<|L1<|Oe (vI (Int.tmod n 7)) (vI (n%7)) (congrArg (Value.int .i64) (Int.tmod_eq_emod_of_nonneg (by omega)))<|Pl 2<|ce d ((n%7)==0) (by rw[b];rfl)
 exact Pl 4<|ce d false (by rw[b];rfl)
 exact ah 1<|rt<|rr (.bool (((decide (7≤n))&&(decide (n≤245)))&&((n%7)==0)))<|⟨rfl,(aH.refl [] _)⟩
theorem tL(hn:0≤n∧n<256) : Calls Tryz.prog 216 #[vI n] w (cc (.bool (decide (4≤n)&&decide (n≤245))) w):=by
 refine en 9 Tryz.func216 rfl<|ak 1<|aM 3<|cu 3 [5] 8 (((decide (4≤n))&&(decide (n≤245)))) (fun K b=>?_) ?_
 refine bl 5 ((decide (4≤n))) (fun a=>?_) (fun a=>?_)
 have c:=of_decide_eq_true a
 exact Pl 3<|ce b (decide (n≤245)) (by rw[a];rfl)
 have c:=of_decide_eq_false a
 exact Pl 3<|ce b false (by rw[a];rfl)
 exact ah 1<|rt<|rr (.bool ((decide (4≤n))&&(decide (n≤245))))<|⟨rfl,(aH.refl [] _)⟩
theorem ti(hn:0≤n∧n<256) : Calls Tryz.prog 218 #[vI n] w (cc (.bool (decide (9≤n)&&decide (n≤251))) w):=by
 refine en 9 Tryz.func218 rfl<|ak 1<|aM 3<|cu 3 [5] 8 (((decide (9≤n))&&(decide (n≤251)))) (fun K b=>?_) ?_
 refine bl 5 ((decide (9≤n))) (fun a=>?_) (fun a=>?_)
 have c:=of_decide_eq_true a
 exact Pl 3<|ce b (decide (n≤251)) (by rw[a];rfl)
 have c:=of_decide_eq_false a
 exact Pl 3<|ce b false (by rw[a];rfl)
 exact ah 1<|rt<|rr (.bool ((decide (9≤n))&&(decide (n≤251))))<|⟨rfl,(aH.refl [] _)⟩
theorem kq{e:Int}  : Calls Tryz.prog 158 #[vI e] w (cc (vI (if e==2 then 5 else e)) w):=by
 refine en 6 Tryz.func158 rfl<|aD 1<|sq<|aD 2<|cb ((e==2)) (fun a=>?_) (fun a=>?_)
 have b:=ag a
 refine aD 1<|aV<|rr (vI 5)<|?_
 have hs:(if e==2 then (5:Int) else e)=5:=by simp only[a,bj,reduceIte]
 rw[hs]
 exact⟨rfl,(aH.refl [] _)⟩
 have b:=am a
 refine bo<|aD 2<|rt<|rr (vI e)<|?_
 have hs:(if e==2 then (5:Int) else e)=e:=by simp only[a,bj,reduceIte]
 rw[hs]
 exact⟨rfl,(aH.refl [] _)⟩
open Go.RowKit
structure WF (F:Fence) (n:Nat) (P:Program) (ops:Array Oper) (Q:Exit→Act→World→Prop) (l:List Oper) (a:Act) (w:World) : Prop where
  out:wpListIn F n P ops Q l a w
def fz (F:Fence) : Prop:=F=Fence.wide∨∃ l,F=Fence.wide.inRound l
theorem mR:fz Fence.wide:=.inl rfl
theorem lR(l:Nat) : fz (Fence.wide.inRound l):=.inr ⟨l,rfl⟩
theorem fz.fn{F:Fence}(h:fz F)(f:FuncId) : F.fn f:=by
  rcases h with rfl|⟨l,rfl⟩<;>trivial
theorem fz.depth{F:Fence}(h:fz F) : F.depth=none:=by
  rcases h with rfl|⟨l,rfl⟩<;>rfl
section
variable {F:Fence}{n:Nat}{P:Program}{Q:Exit→Act→World→Prop}{a:Act}{w:World}{K:Act→World→Prop}{ops:Array Oper}{rest:List Oper}{o:Oper}{N:Option Tmp}
theorem Cl{f:FuncId}{args:Array Value}{R:Ending→World→Prop}(hF:fz F)(h:Calls P f args w R) : CallsIn F n P f args w R:=by
  rcases hF with rfl|⟨l,rfl⟩
  · exact callsIn_wide.2 h
  · exact CallsIn.inRound l (callsIn_wide.2 h)
theorem DP{row:String}{args:Array Value}{R:Value→World→Prop}(hF:fz F)(h:Rows P row args w R) : RowsIn F n P row args w R:=by
  have h0:RowsIn Fence.wide n P row args w R:=fun c cs _=>let ⟨v,w',r,s⟩:=h c cs; ⟨v,w',r,stepsIn_wide.2 s⟩
  rcases hF with rfl|⟨l,rfl⟩
  · exact h0
  · exact h0
def gR:Op→Bool
  | .defer _=>false
  | _=>true
theorem Fd(hF:fz F)(hd:gR o.op=true)(h:o.wp P a w K Q) : o.wpIn F n P a w K Q:=by
  refine⟨fun f _=>hF.fn f,?_⟩
  rw[Oper.semAt_eq _ _ _ (fun c hc=>by rw[hc] at hd;cases hd)]
  unfold Oper.wp at h
  have hdep:∀ {p:Prop},F.depth.isSome=true→p:=fun h=>by rw[hF.depth] at h;cases h
  generalize (execOp a.eval o).run P w=r at h ⊢
  cases r with
  | ok x w' =>
    cases x<;>simp only[Oper.upon,Oper.uponIn] at h ⊢
    case value u=>exact h
    case skip=>exact h
    case defer d=>exact h
    case enter f args=>exact⟨hdep,Cl hF h⟩
    case row row args=>exact⟨hdep,DP hF h⟩
  | halt x w' =>
    cases x<;>simp only[Oper.upon,Oper.uponIn] at h ⊢
    case panic u=>exact h
theorem Fj{id:Nat}{l:List Oper}(n:Nat)(h:WF Fence.wide n P l.toArray Q l a w) : (Code.region id l.toArray false).wp P Q a w:=wpIn_wide.1 (wpIn_region_lit h.out)
theorem Eo{id:Nat}{l:List Oper}(h:WF F n P l.toArray Q l a w) : (Code.region id l.toArray false).wpIn F n P Q a w:=wpIn_region_lit h.out
theorem Ei(h:Q .normal a w) : WF F n P ops Q [] a w:=⟨h⟩
theorem ET(hF:fz F)(hd:gR o.op=true)(hw:Region.wanted o (yielded ops a.tmps)=true)(h:OW P o a w (WF F n P ops Q rest) Q) : WF F n P ops Q (o :: rest) a w:=by
  refine⟨?_⟩
  unfold wpListIn
  rw[if_pos hw]
  exact Fd hF hd (kO h fun _ _ h=>h.out)
theorem Eg(hF:fz F)(hw:Region.wanted o (yielded ops a.tmps)=false)(hN:o.dst=N)(h:WF F n P ops Q rest (a.put N undef) w) : WF F n P ops Q (o :: rest) a w:=by
  subst hN
  refine⟨?_⟩
  unfold wpListIn
  rw[if_neg (by simp[hw])]
  exact⟨fun f _=>hF.fn f,h.out⟩
theorem Cu{x:Operand}{opds:Array Operand}{ts:Array TypeId}{l:Nat}{r:Loop}(args:Array Value)(hw:Region.wanted o (yielded ops a.tmps)=true)(hN:o.dst=N)(hop:o.op = .call { callee:=.value x,args:=opds,argTypes:=ts })
    (hx:a.eval x = .func (.yield l) #[] #[]) (hargs:opds.map a.eval=args) (hl:w.heap[l]? = some (.loop r)) (hs:args.size=r.params.size)
    (h:RoundIn Fence.wide (n-1) P l r.fn ((r.params.zip args).foldl (fun tmps (t,a)=>tmps.setIfInBounds t a) r.tmps) r.assign r.body w (fun e w'=>∃ v,e = .returned v∧WF Fence.wide n P ops Q rest (a.put N v) w')) : WF Fence.wide n P ops Q (o :: rest) a w:=by
  subst hN
  refine⟨?_⟩
  unfold wpListIn
  rw[if_pos hw]
  refine⟨fun f _=>trivial,?_⟩
  have hrun:(o.semAt Fence.wide.round a.eval).run P w = .ok (.round l r.fn ((r.params.zip args).foldl (fun tmps (t,a)=>tmps.setIfInBounds t a) r.tmps) r.assign r.body) w:=by
    show(execOp a.eval o).run P w=_
    unfold execOp
    simp only[hop,resolve,hx,Deferred.ofValue,Sem.run_bind,Sem.run_pure,Result.andThen_ok,invoke,hargs]
    have:=run_yield (P:=P) (args:=args) hl hs
    simpa using this
  rw[hrun,Oper.uponIn_round]
  refine⟨(by simp[Fence.wide]),h.mono fun e w' hh=>?_⟩
  obtain⟨v,rfl,h2⟩:=hh
  exact h2.out
end
theorem BK{P:Program}{n:Nat}{ops:Array Oper}{Q:Exit→Act→World→Prop}{rest:List Oper}{o:Oper}{a:Act}{w:World}{N:Option Tmp}{x:Operand}{opds:Array Operand}{ts:Array TypeId}{l:Nat}{r:Loop}(v:Value)(p:Tmp)(hw:Region.wanted o (yielded ops a.tmps)=true)(hN:o.dst=N)(hop:o.op = .call { callee:=.value x,args:=opds,argTypes:=ts })
    (hx:a.eval x = .func (.yield l) #[] #[]) (hargs:opds.map a.eval = #[v]) (hl:w.heap[l]? = some (.loop r)) (hp:r.params = #[p])
    (h:RoundIn Fence.wide (n-1) P l r.fn (r.tmps.setIfInBounds p v) r.assign r.body w (fun e w'=>∃ u,e = .returned u∧WF Fence.wide n P ops Q rest (a.put N u) w')) : WF Fence.wide n P ops Q (o :: rest) a w:=by
  refine Cu #[v] hw hN hop hx hargs hl (by rw[hp];rfl) ?_
  have:((r.params.zip #[v]).foldl (fun tmps (t,a)=>tmps.setIfInBounds t a) r.tmps)=r.tmps.setIfInBounds p v:=by rw[hp];simp
  rw[this]
  exact h
theorem iM{w:World}{l:Nat}(o:Go.Obj) : aH [l] w (w.putObj l o) :=
  ⟨rfl,rfl,rfl,by simp[World.putObj],fun k hk hn=>World.putObj_heap_other (by simpa using hn)⟩
theorem mP{w:World}{l:Nat}{o:Go.Obj}(o':Go.Obj)(h:w.heap[l]? = some o) : (w.putObj l o').heap[l]? = some o':=World.putObj_heap_same (au h)
def l7:Go.Obj→Bool
  | .cells ..=>false
  | _=>true
theorem aS.updl{α:Type}{m:Md}{e:TypeId}{sz:Nat}{R:World→α→List Value→Prop}{w w':World}{v:Value}{xs:List α}{l:Nat}{o:Go.Obj}
    (h:aS m e sz R w v xs) (hu:aH [l] w w') (hl:w.heap[l]? = some o) (ho:l7 o=true) (hR:∀ x cs,R w x cs→R w' x cs) : aS m e sz R w' v xs:=by
  obtain⟨A,c,rfl,h1,h2,h0,h3⟩:=h
  refine⟨A,c,rfl,h1,h2,h0,fun hp=>?_⟩
  obtain⟨b,off,cells,t,fr,rfl,hb,ht,hx⟩:=h3 hp
  refine⟨b,off,cells,t,fr,rfl,?_,ht,fun j x hj=>?_⟩
  · refine hu.blk (fun hbs=>?_) hb
    simp at hbs
    subst hbs
    rw[hl] at hb
    injection hb with hb
    subst hb
    cases ho
  · obtain⟨cs,hl,hr,hc⟩:=hx j x hj
    exact⟨cs,hl,hR _ _ hr,hc⟩
theorem aX.updl{m:Md}{w w':World}{v:Value}{xs:List Int}{l:Nat}{o:Go.Obj}(h:aX m w v xs)(hu:aH [l] w w')(hl:w.heap[l]? = some o)(ho:l7 o=true) : aX m w' v xs:=aS.updl h hu hl ho fun _ _ h=>h
theorem eG.updl{m:Md}{w w':World}{v:Value}{xs:List Int}{l:Nat}{o:Go.Obj}(h:eG m w v xs)(hu:aH [l] w w')(hl:w.heap[l]? = some o)(ho:l7 o=true) : eG m w' v xs:=aS.updl h hu hl ho fun _ _ h=>h
theorem bK.updl{m:Md}{w w':World}{l:Nat}{o:Go.Obj}(hu:aH [l] w w')(hl:w.heap[l]? = some o)(ho:l7 o=true)(r:dt)(cs:List Value)(h:bK m w r cs) : bK m w' r cs:=by
  obtain⟨v,h1,h2,h3⟩:=h
  exact⟨v,h1,eG.updl h2 hu hl ho,h3⟩
theorem al.updl{w w':World}{g:Nat}{c:ai}{l:Nat}{o:Go.Obj}(h:al w g c)(hu:aH [l] w w')(hg:g∉[l])(hl:w.heap[l]? = some o)(ho:l7 o=true) : al w' g c:=by
  obtain⟨v,hb,hr,hn⟩:=h
  exact⟨v,hu.blk hg hb,hr.updl hu hl ho,hn⟩
theorem xJ{n:Nat}{P:Program}{l:Nat}{f:FuncId}{tmps:Array Value}{assign body:Code}{w:World}{r:Loop}{R:Ending→World→Prop}
    (h:assign.wpIn (Fence.wide.inRound l) n P (Exit.then (fun a₁ w₁=>w₁.heap[l]? = some (.loop r)∧r.state = .ready∧∀ w₂,w₂.heap[l]? = some (.loop { r with state:=.busy })→aH [l] w₁ w₂ →
      body.wpIn (Fence.wide.inRound l) n P (Exit.then (fun _ w₃=>∃ r',w₃.heap[l]? = some (.loop r')∧∀ w₄,w₄.heap[l]? = some (.loop { r' with state:=.ready,pending:=none })→aH [l] w₃ w₄→R (.returned (.bool true)) w₄) (fun _ _ _=>False)) a₁ w₂) (fun _ _ _=>False)) { tmps:=tmps,defers:=[] } w) :
    RoundIn Fence.wide n P l f tmps assign body w R:=by
  refine roundIn_of_wpIn trivial (Code.wpIn_mono (fun e a w q=>?_) h)
  cases e with
  | normal =>
    obtain⟨h1,h2,h3⟩:=q
    refine⟨_,run_beginRound h1 h2,Code.wpIn_mono (fun e a w q=>?_) (h3 _ (mP _ h1) (iM _))⟩
    cases e with
    | normal =>
      obtain⟨r',h4,h5⟩:=q
      exact⟨_,_,run_endRound none h4,h5 _ (mP _ h4) (iM _)⟩
    | _=>exact q.elim
  | _=>exact q.elim
theorem nC{n:Nat}{P:Program}{l:Nat}{f:FuncId}{tmps:Array Value}{assign body:Code}{w:World}{r:Loop}{R:Ending→World→Prop}
    (hl:w.heap[l]? = some (.loop r))
    (h:assign.wpIn (Fence.wide.inRound l) n P (Exit.then (fun a₁ w₁=>w₁.heap[l]? = some (.loop r)∧r.state = .ready∧∀ w₂,w₂.heap[l]? = some (.loop { r with state:=.busy })→aH [l] w₁ w₂ →
      body.wpIn (Fence.wide.inRound l) n P (Exit.then (fun _ w₃=>∃ r',w₃.heap[l]? = some (.loop r')∧∀ w₄,w₄.heap[l]? = some (.loop { r' with state:=.ready,pending:=none })→aH [l] w₃ w₄→R (.returned (.bool true)) w₄) (fun _ _ _=>False)) a₁ w₂) (fun _ _ _=>False)) { tmps:=tmps,defers:=[] } w) :
    RoundIn Fence.wide n P l f tmps assign body w R:=xJ h
theorem zf{P:Program}{Q:Exit→Act→World→Prop}{a:Act}{w:World}{g:Operand}{ps:Array Tmp}{assign body:Code}{f:FuncId}{fn:Func}(cap:Array Value)
    (hx : a.eval g = .func (.func f) #[] cap) (hf : P.funcs[f]? = some fn) (hname : (fn.name == "runtime.NumGoroutine") = false) (hb : fn.body.isSome = true)
    (h:∀ fn0 D l w₂,w.heap.size≤D→w.heap.size≤l→D≠l→w₂.heap[D]? = some (.deferred (some []))→w₂.heap[l]? = some (.loop { state:=.ready,pending:=none,fn:=fn0,tmps:=a.tmps,params:=ps,assign:=assign,body:=body,defers:=D })→aH [] w w₂ →
      Calls P f (#[.func (.yield l) #[] #[]]++cap) w₂ (fun e w₃=>∃ v r',e = .returned v∧w₃.heap[l]? = some (.loop r')∧r'.state≠.busy∧r'.pending=none∧∀ w₄,aH [l] w₃ w₄→Q .normal { a with defers:={ target:=.collected D,args:=#[] } :: a.defers } w₄)) :
    (Code.rangeFunc g ps assign body).wp P Q a w:=by
  refine(wpIn_wide (n:=9)).1 (wpIn_rangeFunc fun fn0 _=>?_)
  have h1 : fn.name ≠ "runtime.NumGoroutine" := by simpa using hname
  obtain⟨cd,hcd⟩:=Option.isSome_iff_exists.1 hb
  refine⟨w.heap.size+1,[{ target:=.collected w.heap.size,args:=#[] }],((w.alloc (.deferred (some []))).alloc (.loop { state:=.ready,pending:=none,fn:=fn0,tmps:=a.tmps,params:=ps,assign:=assign,body:=body,defers:=w.heap.size })),
    { target:=.fn (.func f) cap,args:=#[]++#[.func (.yield (w.heap.size+1)) #[] #[]] },((w.alloc (.deferred (some []))).alloc (.loop { state:=.ready,pending:=none,fn:=fn0,tmps:=a.tmps,params:=ps,assign:=assign,body:=body,defers:=w.heap.size })),
    f,#[.func (.yield (w.heap.size+1)) #[] #[]]++cap,((w.alloc (.deferred (some []))).alloc (.loop { state:=.ready,pending:=none,fn:=fn0,tmps:=a.tmps,params:=ps,assign:=assign,body:=body,defers:=w.heap.size })),run_enterLoop_outer fn0 a.tmps ps assign body,?_,fun _ _=>trivial,?_,by simp[Fence.wide],?_⟩
  · unfold resolve
    simp only[rangeCall,hx,Deferred.ofValue,Sem.run_pure,List.map_toArray,List.map_cons,List.map_nil]
    rfl
  · simp[invoke,callFunc,hf,h1,hcd]
  · have hD:((w.alloc (.deferred (some []))).alloc (.loop { state:=.ready,pending:=none,fn:=fn0,tmps:=a.tmps,params:=ps,assign:=assign,body:=body,defers:=w.heap.size })).heap[w.heap.size]? = some (.deferred (some [])):=AT (eX w _) _
    have hl:((w.alloc (.deferred (some []))).alloc (.loop { state:=.ready,pending:=none,fn:=fn0,tmps:=a.tmps,params:=ps,assign:=assign,body:=body,defers:=w.heap.size })).heap[w.heap.size+1]? = some (.loop { state:=.ready,pending:=none,fn:=fn0,tmps:=a.tmps,params:=ps,assign:=assign,body:=body,defers:=w.heap.size }):=by
      have:=eX (w.alloc (.deferred (some []))) (.loop { state:=.ready,pending:=none,fn:=fn0,tmps:=a.tmps,params:=ps,assign:=assign,body:=body,defers:=w.heap.size })
      simpa using this
    refine callsIn_wide.2 ((h fn0 w.heap.size (w.heap.size+1) _ (Nat.le_refl _) (by omega) (by omega) hD hl (((aH.refl [] w).alloc _).alloc _)).mono ?_)
    rintro e w₃ ⟨v,r',rfl,h3,h4,h5,h6⟩
    refine⟨_,_,run_endLoop h3 h4,?_⟩
    rw[h5]
    exact h6 _ (iM _)
theorem sO{P:Program}{f:FuncId}{fn:Func}{c:Code}{args:Array Value}{w:World}{R:Ending→World→Prop}(hf:P.funcs[f]? = some fn)(hb:fn.body=some c)
    (h:c.wp P (bodyPostM Fence.wide 9 P fn R) { tmps:=args++Array.replicate (fn.ntmps-args.size) undef,defers:=[] } w) : Calls P f args w R :=
  callsIn_wide.1 (callsIn_of_wp_marks hf hb trivial (wpIn_wide.2 h) rfl)
theorem CD{P:Program}{fn:Func}{R:Ending→World→Prop}{a:Act}{w:World}{D:Nat}(hd:a.defers=[{ target:=.collected D,args:=#[] }])(hD:w.heap[D]? = some (.deferred (some [])))
    (h:∀ w',aH [D] w w'→∃ v,(results fn a.tmps).run P w' = .ok v w'∧R (.returned v) w') : bodyPostM Fence.wide 9 P fn R .ret a w:=by
  show LeavesInM Fence.wide 9 P fn a.tmps R a.defers .returning w
  rw[hd]
  exact⟨by simp,.inl ⟨D,_,rfl,run_takeDeferred hD,h _ (iM _)⟩⟩
theorem BH{P:Program}{fn:Func}{R:Ending→World→Prop}{a:Act}{w:World}(hd:a.defers=[])(h:∃ v,(results fn a.tmps).run P w = .ok v w∧R (.returned v) w) : bodyPostM Fence.wide 9 P fn R .ret a w:=by
  show LeavesInM Fence.wide 9 P fn a.tmps R a.defers .returning w
  rw[hd]
  exact h
open Go.RowKit
structure GF (E:Fence) (m:Nat) (P:Program) (ops:Array Oper) (Q:Exit→Act→World→Prop) (l:List Oper) (n:Nat) (D:List Deferred) (F:Fr) (w:World) : Prop where
  out:∀ a,Ag n D F a→WF E m P ops Q l a w
structure GI (E:Fence) (m:Nat) (P:Program) (c:Code) (Q:Exit→Act→World→Prop) (n:Nat) (D:List Deferred) (F:Fr) (w:World) : Prop where
  out:∀ a,Ag n D F a→c.wpIn E m P Q a w
section
variable {E:Fence}{m:Nat}{P:Program}{Q:Exit→Act→World→Prop}{n:Nat}{D:List Deferred}{F:Fr}{w:World}{ops:Array Oper}{rest l:List Oper}{d:Option Tmp}{op:Op}{t:TypeId}{s:String}{af:Array Edge}{gu:Option (Nat × Bool)}{x y c:Code}{id:Nat}
theorem EE(m:Nat)(h:GF Fence.wide m P l.toArray Q l n D F w) : GC P (.region id l.toArray false) Q n D F w:=⟨fun a ha=>Fj m (h.out a ha)⟩
theorem Dj(h:GF E m P l.toArray Q l n D F w) : GI E m P (.region id l.toArray false) Q n D F w:=⟨fun a ha=>Eo (h.out a ha)⟩
theorem EH(h:GI E m P c (Exit.inBlock id Q) n D F w) : GI E m P (.block id c) Q n D F w:=⟨fun a ha=>wpIn_block (h.out a ha)⟩
theorem xA(h:GQ Q .normal n D F w) : GF E m P ops Q [] n D F w:=⟨fun a ha=>Ei (h.out a ha)⟩
theorem EZ(hE:fz E)(h:OG P ⟨d,op,t,s,af,gu⟩ n D F w (GF E m P ops Q rest n D) Q)(hw:o3 ops F gu=(true,true))(hd:gR op=true) : GF E m P ops Q (⟨d,op,t,s,af,gu⟩ :: rest) n D F w :=
  ⟨fun a ha=>ET hE hd (gO ha hw) (h.out a ha _ fun F' w' a' k ha'=>k.out a' ha')⟩
theorem F3(hE:fz E){o:Oper}(h:GF E m P ops Q rest n D (tM P ops w F o) w)(hc:xh P ops w n 1 (o :: rest) F=vC P ops w 1 (o :: rest) F)(hd:gR o.op=true) : GF E m P ops Q (o :: rest) n D F w:=by
  simp only[xh,vC,List.cons.injEq,Prod.mk.injEq,Bool.and_eq_true] at hc
  obtain⟨⟨⟨h1,h2,h3⟩,h4⟩,h5⟩:=hc
  refine⟨fun a ha=>?_⟩
  cases hon:(o3 ops F o.guard).2 with
  | true =>
    rw[hon] at h3 h4
    simp only[cond_true] at h3 h4
    have hst:tM P ops w F o=pt o.dst (vo P w F o) F:=by simp[tM,hon]
    rw[hst] at h
    exact ET hE hd (gO ha (Prod.ext h1 hon)) (iR (N:=o.dst) (vo P w F o) rfl (by rw[← jG ha h3];exact h4) (h.out _ (ha.put h2)))
  | false =>
    have hst:tM P ops w F o=pt o.dst undef F:=by simp[tM,hon]
    rw[hst] at h
    exact Eg (N:=o.dst) hE (gO ha (Prod.ext h1 hon)) rfl (h.out _ (ha.put h2))
theorem F0(h:OG P ⟨d,op,t,s,af,gu⟩ n D F w (GF Fence.wide m P ops Q rest n D) Q)(hw:o3 ops F gu=(true,true):=by kernel_rfl)(hd:gR op=true:=by kernel_rfl) : GF Fence.wide m P ops Q (⟨d,op,t,s,af,gu⟩ :: rest) n D F w:=EZ mR h hw hd
theorem o8{q:Nat}(h:OG P ⟨d,op,t,s,af,gu⟩ n D F w (GF (Fence.wide.inRound q) m P ops Q rest n D) Q)(hw:o3 ops F gu=(true,true):=by kernel_rfl)(hd:gR op=true:=by kernel_rfl) : GF (Fence.wide.inRound q) m P ops Q (⟨d,op,t,s,af,gu⟩ :: rest) n D F w:=EZ (lR _) h hw hd
theorem Fp{o:Oper}(h:GF Fence.wide m P ops Q rest n D (tM P ops w F o) w)(hc:xh P ops w n 1 (o :: rest) F=vC P ops w 1 (o :: rest) F:=by kernel_rfl)(hd:gR o.op=true:=by kernel_rfl) : GF Fence.wide m P ops Q (o :: rest) n D F w:=F3 mR h hc hd
theorem Dm{q:Nat}{o:Oper}(h:GF (Fence.wide.inRound q) m P ops Q rest n D (tM P ops w F o) w)(hc:xh P ops w n 1 (o :: rest) F=vC P ops w 1 (o :: rest) F:=by kernel_rfl)(hd:gR o.op=true:=by kernel_rfl) : GF (Fence.wide.inRound q) m P ops Q (o :: rest) n D F w:=F3 (lR _) h hc hd
theorem Ec(j:Nat)(e:Bool)(ht:e=true→GF E m P ops Q l n D ((j,.bool true) :: F) w)(hf:e=false→GF E m P ops Q l n D ((j,.bool false) :: F) w)(hv:lk F j=some (.bool e):=by kernel_rfl) : GF E m P ops Q l n D F w:=by
  refine⟨fun a ha=>?_⟩
  have key:∀ b,e=b→Ag n D ((j,.bool b) :: F) a:=fun b hb=>⟨ha.sz,ha.df,fun i v hi=>by
    rcases iO hi with⟨rfl,rfl⟩|⟨_,h2⟩
    · rw[← hb];exact ha.at_ _ _ hv
    · exact ha.at_ _ _ h2⟩
  rcases iB e with q|q
  · exact(ht q).out a (key _ q)
  · exact(hf q).out a (key _ q)
theorem Fy{x:Operand}{opds:Array Operand}{ts:Array TypeId}{q:Nat}{r:Loop}(v:Value)(p:Tmp)(hl:w.heap[q]? = some (.loop r))(hp:r.params = #[p])
    (h:RoundIn Fence.wide (m-1) P q r.fn (r.tmps.setIfInBounds p v) r.assign r.body w (fun e w'=>∃ u,e = .returned u∧GF Fence.wide m P ops Q rest n D (pt d u F) w'))
    (hw:o3 ops F gu=(true,true):=by kernel_rfl) (hx:fp F x=some (.func (.yield q) #[] #[]):=by kernel_rfl) (ha:opds.toList.map (fp F)=[some v]:=by kernel_rfl) (hd:gw n d=true:=by kernel_rfl) :
    GF Fence.wide m P ops Q (⟨d,.call { callee:=.value x,args:=opds,argTypes:=ts },t,s,af,gu⟩ :: rest) n D F w :=
  ⟨fun a hag=>BK v p (gO hag hw) rfl rfl (hag.ev hx) (by apply Array.toList_inj.1;rw[Array.toList_map];exact mn (vs:=[v]) hag ha) hl hp (h.mono fun e w' hh=>by
    obtain⟨u,rfl,hk⟩:=hh
    exact⟨u,rfl,hk.out _ (hag.put hd)⟩)⟩
theorem tP{g:Operand}{ps:Array Tmp}{assign body:Code}{f:FuncId}(cap:Array Value)
    (h:∀ a,Ag n D F a→∀ fn0 D' q w₂,w.heap.size≤D'→w.heap.size≤q→D'≠q→w₂.heap[D']? = some (.deferred (some []))→w₂.heap[q]? = some (.loop { state:=.ready,pending:=none,fn:=fn0,tmps:=a.tmps,params:=ps,assign:=assign,body:=body,defers:=D' })→aH [] w w₂ →
      Calls P f (#[.func (.yield q) #[] #[]]++cap) w₂ (fun e w₃=>∃ v r',e = .returned v∧w₃.heap[q]? = some (.loop r')∧r'.state≠.busy∧r'.pending=none∧∀ w₄,aH [q] w₃ w₄→GQ Q .normal n ({ target:=.collected D',args:=#[] } :: D) F w₄))
    (hx:fp F g=some (.func (.func f) #[] cap):=by kernel_rfl) (hf:CA P f=some (false,true):=by kernel_rfl) : GC P (.rangeFunc g ps assign body) Q n D F w:=by
  obtain⟨fn,h1,h2,h3⟩:=kY hf
  refine⟨fun a ha=>zf cap (ha.ev hx) h1 h2 h3 fun fn0 D' q w₂ g1 g2 g3 g4 g5 g6=>(h a ha fn0 D' q w₂ g1 g2 g3 g4 g5 g6).mono fun e w₃ hh=>?_⟩
  obtain⟨v,r',k1,k2,k3,k4,k5⟩:=hh
  exact⟨v,r',k1,k2,k3,k4,fun w₄ hu=>(k5 w₄ hu).out _ ⟨ha.sz,by rw[ha.df],ha.at_⟩⟩
theorem Em{a:Act}(ha:Ag n D F a)(p:Tmp){v:Value}(h:GI E m P c Q n [] ((p,v) :: F) w)(hp:Nat.blt p n=true:=by kernel_rfl) : c.wpIn E m P Q { tmps:=a.tmps.setIfInBounds p v,defers:=[] } w:=by
  have h0:Ag n [] F { tmps:=a.tmps,defers:=[] }:=⟨ha.sz,rfl,ha.at_⟩
  exact h.out _ (h0.put (d:=some p) hp)
theorem Ep{r:Loop}{q:Nat}{c:Code}{Qb:Exit→Act→World→Prop}(h1:w.heap[q]? = some (.loop r))(h2:r.state = .ready)(h:∀ w₂,w₂.heap[q]? = some (.loop { r with state:=.busy })→aH [q] w w₂→GI E m P c Qb n D F w₂) :
    GQ (Exit.then (fun a₁ w₁=>w₁.heap[q]? = some (.loop r)∧r.state = .ready∧∀ w₂,w₂.heap[q]? = some (.loop { r with state:=.busy })→aH [q] w₁ w₂→c.wpIn E m P Qb a₁ w₂) Q) .normal n D F w:=⟨fun a ha=>⟨h1,h2,fun w₂ k1 k2=>(h w₂ k1 k2).out a ha⟩⟩
theorem El{r:Loop}{q:Nat}{Z:World→Prop}(h1:w.heap[q]? = some (.loop r))(h:∀ w₄,w₄.heap[q]? = some (.loop { r with state:=.ready,pending:=none })→aH [q] w w₄→Z w₄) :
    GQ (Exit.then (fun _ w₃=>∃ r',w₃.heap[q]? = some (.loop r')∧∀ w₄,w₄.heap[q]? = some (.loop { r' with state:=.ready,pending:=none })→aH [q] w₃ w₄→Z w₄) Q) .normal n D F w:=⟨fun a ha=>⟨r,h1,h⟩⟩
end
section
variable {P:Program}{n:Nat}{F:Fr}{w:World}{fn:Func}{R:Ending→World→Prop}
theorem Dl{f:FuncId}{c:Code}{args:List Value}{w:World}(n:Nat)(hf:P.funcs[f]? = some fn)(hb:fn.body=some c)
    (h:GC P c (bodyPostM Fence.wide 9 P fn R) n [] (xW 0 args) w) (hn:args.length+(fn.ntmps-args.length)=n:=by kernel_rfl) : Calls P f args.toArray w R:=by
  subst hn
  exact sO hf hb (by simpa using h.out _ (F4 (args:=args) (m:=fn.ntmps-args.length)))
theorem Dp{D:Nat}(hD:w.heap[D]? = some (.deferred (some [])))(h:∀ w',aH [D] w w'→GQ (fun _ a w'=>∃ v,(results fn a.tmps).run P w' = .ok v w'∧R (.returned v) w') .ret n [{ target:=.collected D,args:=#[] }] F w') : GQ (bodyPostM Fence.wide 9 P fn R) .ret n [{ target:=.collected D,args:=#[] }] F w :=
  ⟨fun a ha=>CD ha.df hD fun w' hu=>(h w' hu).out a ha⟩
theorem rx{D:List Deferred}{g:Nat}{cs:Array Value}{t:TypeId}{fr:Nat × Nat}(B:w.heap[g]? = some (.cells cs t fr))(u:Value)(h:R (.returned (.tuple #[.agg cs,u])) w)(hc:Dk P fn.results F=some (some (.pointer (some ⟨g,0,none⟩)),some u,some true,some cs.size):=by kernel_rfl) : GQ (fun _ a w'=>∃ v,(results fn a.tmps).run P w' = .ok v w'∧R (.returned v) w') .ret n D F w :=
  ⟨fun a ha=>⟨_,mu ha B rfl hc,h⟩⟩
theorem ry{g:Nat}{cs:Array Value}{t:TypeId}{fr:Nat × Nat}(B:w.heap[g]? = some (.cells cs t fr))(u:Value)(h:R (.returned (.tuple #[.agg cs,u])) w)(hc:Dk P fn.results F=some (some (.pointer (some ⟨g,0,none⟩)),some u,some true,some cs.size):=by kernel_rfl) : GQ (bodyPostM Fence.wide 9 P fn R) .ret n [] F w :=
  ⟨fun a ha=>BH ha.df ⟨_,mu ha B rfl hc,h⟩⟩
end
open Go.RowKit
def D1 (mk:Nat→Value)(w:World)(e:Ending)(w':World) : Prop:=∃ gs,e = .returned (.tuple #[mk gs,.bool true])∧w.heap.size≤gs∧w'.heap[gs]? = some (.cells #[.int .i64 0] 3 (0,0))∧aH [] w w'
def EM (gs:Nat) : Value:=.agg #[.func (.func 215) #[] #[],.func (.func 213) #[] #[.pointer (some ⟨gs,0,none⟩)]]
def Ej (gs:Nat) : Value:=.agg #[.func (.func 216) #[] #[],.func (.func 217) #[] #[]]
def EA (gs:Nat) : Value:=.agg #[.func (.func 218) #[] #[],.func (.func 219) #[] #[]]
theorem Bg{w:World}:Calls Tryz.prog 153 #[vI 0,vB 20] w (D1 EM w):=by
 refine en 27 Tryz.func153 rfl<|sg<|aK #[.nilFunc,.nilFunc] fun m n g b c=>Pl 1<|ng<|aK #[vI 0] fun d o a h i=>L0<|cm h 0 #[vI 0] fun p j k=>nt<|sq<|go<|ah 2<|sq<|bk<|aD 7<|c1<|ak 2<|?_
 have e:=ud i k a
 refine aG (ub e b) #[.func (.func 215) #[] #[],.func (.func 213) #[] #[vP d 0]] fun q l f=>ah 1<|rt<|br<|tr<|bH l (.bool true)<|?_
 exact⟨d,rfl,(Nat.le_trans c.size a),(be f (Ne.symm (nb (au b) lr a)) j),(ud c (uz e f) g)⟩
theorem At{w:World}:Calls Tryz.prog 153 #[vI 1,vB 20] w (D1 Ej w):=by
 refine en 27 Tryz.func153 rfl<|sg<|aK #[.nilFunc,.nilFunc] fun m n f b c=>Pl 1<|ng<|aK #[vI 0] fun g o a h i=>L0<|cm h 0 #[vI 0] fun p j k=>nt<|sq<|go<|ah 2<|sq<|bk<|aD 7<|c0<|aD 3<|c1<|ak 1<|?_
 have d:=ud i k a
 refine aG (ub d b) #[.func (.func 216) #[] #[],.func (.func 217) #[] #[]] fun q l e=>ah 1<|rt<|br<|tr<|bH l (.bool true)<|?_
 exact⟨g,rfl,(Nat.le_trans c.size a),(be e (Ne.symm (nb (au b) lr a)) j),(ud c (uz d e) f)⟩
theorem BV{dir:Int}{w:World}:Calls Tryz.prog 153 #[vI dir,vB 21] w (D1 EA w):=by
 refine en 27 Tryz.func153 rfl<|sg<|aK #[.nilFunc,.nilFunc] fun m n f b c=>Pl 1<|ng<|aK #[vI 0] fun g o a h i=>L0<|cm h 0 #[vI 0] fun p j k=>nt<|sq<|go<|ah 2<|sq<|bk<|aD 7<|c0<|aD 3<|c0<|aD 3<|c1<|ak 1<|?_
 have d:=ud i k a
 refine aG (ub d b) #[.func (.func 218) #[] #[],.func (.func 219) #[] #[]] fun q l e=>ah 1<|rt<|br<|tr<|bH l (.bool true)<|?_
 exact⟨g,rfl,(Nat.le_trans c.size a),(be e (Ne.symm (nb (au b) lr a)) j),(ud c (uz d e) f)⟩
theorem ro{dir x:Int}{w:World}(n1:(x==20)=false)(n2:(x==21)=false) : Calls Tryz.prog 153 #[vI dir,vB x] w (cc (.tuple #[.agg #[.nilFunc,.nilFunc],.bool false]) w):=by
 refine en 27 Tryz.func153 rfl<|sg<|aK #[.nilFunc,.nilFunc] fun k l b c d=>Pl 1<|ng<|aK #[vI 0] fun m n e f g=>L0<|cm f 0 #[vI 0] fun o p h=>nt<|sq<|go<|ah 2<|sq<|bk<|ak 3<|sy 12 n1<|ah 4<|c0<|aD 3<|cf n1<|aD 3<|cf n2<|sk<|bn<|tn<|ak 1<|?_
 have a:=ud g h e
 refine aG (ub a c) #[.nilFunc,.nilFunc] fun q i j=>ah 1<|rt<|bH i (.bool false)<|?_
 exact⟨rfl,(ud d (uz a j) b)⟩
theorem nc{gb:Nat}{f:Fn}{x y:Array Value}{w:World}:Calls Tryz.prog 157 #[vP gb 0,.func f x y] w (fun e w'=>∃ b1 b2,e = .returned (.func (.func 220) #[] #[vP b1 0,vP b2 0])∧w.heap.size≤b1∧w.heap.size≤b2∧b1≠b2 ∧
      w'.heap[b1]? = some (.cells #[vP gb 0] 164 (0,0))∧w'.heap[b2]? = some (.cells #[.func f x y] 178 (0,0))∧aH [] w w'):=by
 refine en 6 Tryz.func157 rfl<|sg<|L0<|da #[vP gb 0] fun a k i b c=>L0<|da #[.func f x y] fun d l g j h=>Pl 1<|cN 2<|rt<|rr (.func (.func 220) #[] #[vP a 0,vP d 0])<|?_
 exact⟨a,d,rfl,i,(Nat.le_trans c.size g),(nb (au b) lr g),(ub h b),j,(aJ c h)⟩
theorem xr{g gs:Nat}{s:Int}{C:ai}{w:World}(hC:al w g C)(hS:w.heap[gs]? = some (.cells #[vI s] 3 (0,0)))(hne:g≠gs)(hs:0≤s∧s≤1000000000000) :
    Calls Tryz.prog 213 #[vP g 0,vP gs 0] w (fun e w'=>∃ A c,e = .returned (.agg #[vW (aY C).file,vW (aY C).record,vW (aY C).count,.slice A (aY C).words.length c])∧eG true w' (.slice A (aY C).words.length c) (aY C).words∧eP (aY C).file∧eP (aY C).record∧eP (aY C).count∧al w' g (ff s C)∧w'.heap[gs]? = some (.cells #[vI (fq s C)] 3 (0,0))∧aH [g,gs] w w'):=by
 refine en 19 Tryz.func213 rfl<|sg<|aK #[vW 0,vW 0,vW 0,nS] fun S T b j d=>aM 1<|?_
 refine ay<|CJ (sM (al.old hC d)) fun k l U H I J K m f=>?_
 obtain⟨V,W⟩:=I
 obtain⟨X,Y⟩:=J
 obtain⟨Z,a0⟩:=K
 refine aK #[vW 0,vW 0,vW 0,nS] fun a1 a2 h L M=>aG L #[vW ((aY C).file),vW ((aY C).record),vW ((aY C).count),.slice k ((aY C).words.length) l] fun a3 n N=>ng<|?_
 have o:=ud M N h
 have p:=aJ f o
 have q:=be (uz d p) (Ne.symm hne) hS
 refine aE q 0<|Pl 1<|aE n 2<|bq ((aY C).count)<|bq (2*((aY C).count))<|bq (2+(2*((aY C).count)))<|bq (s+(2+(2*((aY C).count))))<|L0<|cm q 0 #[vI (s+(2+(2*((aY C).count))))] fun a4 r t=>aM 1<|aE r 0<|Pl 1<|?_
 have u:=uz o t
 have a:=uz d f
 have v:=be a (Ne.symm hne) hS
 refine ay<|m2 (bu ((decide ((s+(2+(2*((aY C).count))))≤245))) 5 (al.upd m u (aa hne aF) (av (b6 v (by decide)) aN))) fun a5 O y=>?_
 refine ab O fun x47 P Q=>?_
 refine ng<|?_
 have z:=us t y
 refine L0<|bO (aH.blk z (aa (Ne.symm (nb (au hS) a.size h)) (aa (Ne.symm (nb (al.lt hC) a.size h)) aF)) n)<|?_
 have i:=nb (al.lt hC) lr b
 have B:=nb (au hS) lr b
 have D:=aH.blk (ui p z) (aa (Ne.symm B) (aa (Ne.symm i) aF)) j
 refine aG D #[vW ((aY C).file),vW ((aY C).record),vW ((aY C).count),.slice k ((aY C).words.length) l] fun a6 R E=>sI<|CW R<|?_
 subst P
 have F:=us y E
 have G:=us u F
 exact⟨_,_,rfl,(eG.upd' H G (av (b6 v (by decide)) (av (al.safe m _ (by decide)) (av (b6 (be f (Ne.symm i) j) (by decide)) aN)))),cT (x:=(aY C).file) (by omega),cT (x:=(aY C).record) (by omega),cT (x:=(aY C).count) (by omega),(al.upd Q E (aa i aF) (av (b6 D (by decide)) aN)),(aH.blk F (aa (Ne.symm hne) (aa B aF)) r),(ut (aH.mono (S':=[g,gs]) a (ac im aC)) G (ac im (ac im (ac (nr b) aC))))⟩
def i5 (c:Int)(v:Value) : Array Value:=#[.int .u8 c,.int .u8 0,.int .u16 0,.int .u16 0,.int .u16 0,.int .u16 0,.int .u16 0,.int .u16 0,.int .u16 0,.int .u16 0,.int .u16 0,.int .u16 0,jo,jo,jo,v,.int .u8 0,.int .u8 0,.int .u8 0,.int .u8 0,.int .u8 0,jo]
structure JR (w0:World) (gb gs gm l:Nat) (c:Int) (r:Loop) (C:ai) (s:Int) (L:List dt) (A:Option Addr) (cp:Nat) (W:World) : Prop where
  u:aH [gb,gs,gm,l] w0 W
  hC:al W gb C
  hS:W.heap[gs]? = some (.cells #[.int .i64 s] 3 (0,0))
  hm:W.heap[gm]? = some (.cells (i5 c (.slice A L.length cp)) 45 (0,0))
  ho:b7 w0.heap.size 98 4 (bK true) W (.slice A L.length cp) L
  hl:W.heap[l]? = some (.loop r)
def dm (s:Int)(C:ai) : Int × ai × dt:=(fq s C,ff s C,aY C)
def bX (s:Int)(C:ai) : Int × ai × dt:=(s,fx C,fv C)
def du (s:Int)(C:ai) : Int × ai × dt:=(s,ke C,ka C)
def aZ (one:Int→ai→Int × ai × dt) : Nat→Int→ai→List dt→ai × List dt
  | 0,_,C,L=>(C,L)
  | n+1,s,C,L =>
    if decide (0<(C.l.length:Int))&&C.e==0 then
      (if (one s C).2.1.e != 0 then ((one s C).2.1,L) else aZ one n (one s C).1 (one s C).2.1 (L++[(one s C).2.2]))
    else (C,L)
theorem jZ(C:ai)(n:Int) : (C.bytesC n).l.length≤C.l.length:=by
  unfold ai.bytesC
  split
  · unfold ai.need
    split<;>simp
  · simp
theorem nd(C:ai)(h:0<C.l.length) : (C.bytesC 1).l.length<C.l.length:=by
  unfold ai.bytesC
  split
  · unfold ai.need
    split<;>simpa using h
  · simp
    omega
theorem fo(C:ai)(b:Bool)(e:Int) : (C.need b e).l.length=C.l.length:=by
  unfold ai.need
  split<;>rfl
theorem fG(C:ai)(n:Int) : (C.wordsC n).l.length≤C.l.length:=by
  unfold ai.wordsC
  split<;>exact jZ ..
theorem sQ(C:ai)(h:0<C.l.length) : (dY C).l.length<C.l.length:=by
  have h1:(jf C).l.length<C.l.length:=by unfold jf;rw[fo];exact nd C h
  have h2:(jP C).l.length≤(jf C).l.length:=by unfold jP;rw[fo];exact fG ..
  have h3:(o0 C).l.length≤(jP C).l.length:=by unfold o0;rw[fo];exact fG ..
  have h4:(dY C).l.length≤(o0 C).l.length:=by unfold dY;rw[fo];exact fG ..
  omega
theorem mz(s:Int)(C:ai)(h:0<C.l.length) : (dm s C).2.1.l.length<C.l.length:=by
  show(ff s C).l.length<_
  unfold ff
  rw[fo]
  exact sQ C h
theorem jr(s:Int)(C:ai)(h:0<C.l.length) : (bX s C).2.1.l.length<C.l.length:=by
  show(fx C).l.length<_
  have h1:(iv C).l.length<C.l.length:=by unfold iv;rw[fo];exact nd C h
  have h2:(fj C).l.length≤(iv C).l.length:=by unfold fj;rw[fo];exact jZ ..
  have h3:(fx C).l.length≤(fj C).l.length:=by unfold fx;exact fG ..
  omega
theorem mj(s:Int)(C:ai)(h:0<C.l.length) : (du s C).2.1.l.length<C.l.length:=by
  show(ke C).l.length<_
  have h1:=sQ C h
  have h2:(oo C).l.length=(dY C).l.length:=by unfold oo;rw[fo]
  have h3:(ke C).l.length≤(oo C).l.length:=by unfold ke;exact fG ..
  omega
theorem iL(one:Int→ai→Int × ai × dt)(n:Nat)(s:Int)(C:ai)(L:List dt)(h:(decide (0<(C.l.length:Int))&&C.e==0)=false) : aZ one n s C L=(C,L):=by
  cases n with
  | zero=>rfl
  | succ n=>simp only[aZ,h,Bool.false_eq_true,if_false]
open Go.RowKit
def eO (fn0:FuncId)(tm:Array Value)(asg bdy:Code)(D:Nat) : Loop:={ state:=.ready,pending:=none,fn:=fn0,tmps:=tm,params:=#[53],assign:=asg,body:=bdy,defers:=D }
def ug (w:World)(gb gs gm l:Nat)(c:Int)(R:Loop) : Prop:=∀ (W:World)(C:ai)(s:Int)(L:List dt)(A:Option Addr)(cp:Nat)(x:dt)(Ax:Option Addr)(cx:Nat),JR w gb gs gm l c R C s L A cp W→eG true W (.slice Ax x.words.length cx) x.words→eP x.file→eP x.record→eP x.count→L.length≤1048576 →
    RoundIn Fence.wide 8 Tryz.prog l R.fn (R.tmps.setIfInBounds 53 (.agg #[.int .u16 x.file,.int .u16 x.record,.int .u16 x.count,.slice Ax x.words.length cx])) R.assign R.body W (fun e W'=>e = .returned (.bool true)∧W.heap.size≤W'.heap.size∧∃ A2 c2,JR w gb gs gm l c R C s (L++[x]) A2 c2 W')
theorem D6{w:World}{gb gs gm l b1 b2 fn0 D:Nat}{tm:Array Value}{asg bdy:Code}{c:Int}{C0:ai}(hC:al w gb C0)(hS:w.heap[gs]? = some (.cells #[vI 0] 3 (0,0)))(hm:w.heap[gm]? = some (.cells (i5 c jo) 45 (0,0)))
    (hl:w.heap[l]? = some (.loop (eO fn0 tm asg bdy D))) (hb1:w.heap[b1]? = some (.cells #[vP gb 0] 164 (0,0))) (hb2:w.heap[b2]? = some (.cells #[.func (.func 213) #[] #[vP gs 0]] 178 (0,0)))
    (n1:gb≠gs) (n2:gb≠gm) (n3:gb≠l) (n4:gs≠gm) (n5:gs≠l) (n6:gm≠l) (m1:b1≠gb) (m2:b1≠gs) (m3:b1≠gm) (m4:b1≠l) (k1:b2≠gb) (k2:b2≠gs) (k3:b2≠gm) (k4:b2≠l) (hround:ug w gb gs gm l c (eO fn0 tm asg bdy D)) :
    Calls Tryz.prog 220 #[.func (.yield l) #[] #[],vP b1 0,vP b2 0] w (fun e W=>e = .returned (.tuple #[])∧∃ s A cp,JR w gb gs gm l c (eO fn0 tm asg bdy D) (aZ dm C0.l.length 0 C0 []).1 s (aZ dm C0.l.length 0 C0 []).2 A cp W):=by
 have hlen:=hC.len
 refine en 25 Tryz.func220 rfl<|bk<|je (fun x=>[(0,.func (.yield l) #[] #[]),(1,vP b1 0),(2,vP b2 0)]) (fun(x:Nat × ai × Int × List dt × Option Addr × Nat) w'=>aH [gb,gs,gm,l] w w'∧al w' gb x.2.1∧w'.heap[gs]? = some (.cells #[vI x.2.2.1] 3 (0,0))∧w'.heap[gm]? = some (.cells (i5 c (.slice x.2.2.2.2.1 x.2.2.2.1.length x.2.2.2.2.2)) 45 (0,0))∧w'.heap[l]? = some (.loop (eO fn0 tm asg bdy D))∧b7 w.heap.size 98 4 (bK true) w' (.slice x.2.2.2.2.1 x.2.2.2.1.length x.2.2.2.2.2) x.2.2.2.1∧(aZ dm x.1 x.2.2.1 x.2.1 x.2.2.2.1=aZ dm C0.l.length 0 C0 [])∧(x.2.1.l.length≤x.1)∧(0≤x.2.2.1∧x.2.2.1≤131074*(x.2.2.2.1.length:Int))∧(x.2.2.2.1.length+x.1≤C0.l.length)) (fun x=>x.1) (C0.l.length,C0,0,[],none,0) ⟨aH.refl _ _,hC,hS,hm,hl,b7.nil ..,rfl,(Nat.le_refl _),(by(try dsimp only);omega),(by(try dsimp only);(try simp only[List.length_nil]);omega)⟩ ?_
 rintro⟨n,C,s,L,A,cp⟩ h ⟨m,J,M,N,O,P,Q,R,S,T⟩
 refine ji [(0,.func (.yield l) #[] #[]),(1,vP b1 0),(2,vP b2 0)] ?_
 have b:al h gb C:=J
 have o:h.heap[gs]? = some (.cells #[vI s] 3 (0,0)):=M
 have t:h.heap[gm]? = some (.cells (i5 c (.slice A L.length cp)) 45 (0,0)):=N
 have v:h.heap[l]? = some (.loop (eO fn0 tm asg bdy D)):=O
 have d:b7 w.heap.size 98 4 (bK true) h (.slice A L.length cp) L:=P
 have ae:aZ dm n s C L=aZ dm C0.l.length 0 C0 []:=Q
 have af:C.l.length≤n:=R
 have ah:0≤s∧s≤131074*(L.length:Int):=S
 have aj:L.length+n≤C0.l.length:=T
 have hrec:aZ dm n s C L=aZ dm C0.l.length 0 C0 []:=by assumption
 refine sq<|sg<|?_
 have p:=aH.blk m (aa m1 (aa m2 (aa m3 (aa m4 aF)))) hb1
 refine aE p 0<|ay<|mq (eQ b)<|?_
 have ak:=al.len b
 refine Pl 2<|cu 4 [8] 12 (((decide (0<(C.l.length:Int)))&&(C.e==0))) (fun K B=>?_) ?_
 refine bl 8 ((decide (0<(C.l.length:Int)))) (fun i=>?_) (fun i=>?_)
 have U:=of_decide_eq_true i
 refine L1<|dX p 0<|L1<|Oc<|mq (bL b)<|?_
 have am:=al.len b
 exact Pl 2<|ce B (C.e==0) (by rw[i];rfl)
 have U:=of_decide_eq_false i
 exact Pl 4<|ce B false (by rw[i];rfl)
 refine nt<|cb (((decide (0<(C.l.length:Int)))&&(C.e==0))) (fun f=>?_) (fun f=>?_)
 have y:=(bB f).1
 have z:=(bB f).2
 have an:=of_decide_eq_true y
 have ao:=ag z
 refine bo<|bk<|sg<|?_
 refine aE (aH.blk m (aa k1 (aa k2 (aa k3 (aa k4 aF)))) hb2) 0<|aE p 0<|L0<|i8 #[] #[vP gs 0] (args:=#[vP gb 0,vP gs 0])<|F8 (xr (s:=s) b o n1 (by omega)) fun E F ap V X Y Z a0 G a1=>?_
 have aq:fq s C=s+(2+2*(aY C).count):=rfl
 obtain⟨ar,aw⟩:=X
 obtain⟨aB,aD⟩:=Y
 obtain⟨aI,aM⟩:=Z
 refine aK #[vW 0,vW 0,vW 0,nS] fun aO aP a2 a3 a4=>aG a3 #[vW ((aY C).file),vW ((aY C).record),vW ((aY C).count),.slice E ((aY C).words.length) F] fun a5 a6 a7=>nt<|sq<|EE 9<|?_
 have j:=ud a4 a7 a2
 have a:=aJ a1 j
 refine F0<|dX (aH.blk a (aa m1 (aa m2 aF)) p) 0<|?_
 have q:=al.old a0 j
 refine F0<|Oc<|mq (bL q)<|?_
 have aQ:=al.len q
 refine Fp<|Fp<|?_
 have H:=ut m a (ac im (ac im aC))
 refine Ec 19 ((((ff s C).e)!=0)) (fun k=>?_) (fun k=>?_)
 have a8:=az k
 refine Fp<|Fp<|Fp<|Fp<|Fp<|xA<|tn<|c1<|rt<|br<|tr<|br<|rr (.tuple #[])<|?_
 have hfin:aZ dm C0.l.length 0 C0 []=((ff s C),L):=by
   rw[← hrec]
   rw[show n=(n-1)+1 from by omega]
   simp only[aZ,dm,f,y,z,k,bj,reduceIte]
 refine⟨rfl,(fq s C),A,cp,?_⟩
 rw[hfin]
 exact⟨H,q,(ub j G),(aH.blk a (aa (Ne.symm n2) (aa (Ne.symm n4) aF)) t),(ax d a (fun x hx=>(aa (fun e=>(aL (al.lt hC) lr d) (e▸hx)) (aa (fun e=>(aL (au hS) lr d) (e▸hx)) aF))) (bK.upd16 a (av (al.safe b _ (by decide)) (av (b6 o (by decide)) aN)))),(aH.blk a (aa (Ne.symm n3) (aa (Ne.symm n5) aF)) v)⟩
 have a8:=aA k
 refine Fp<|F0<|bO a6<|?_
 have I:=aH.blk a (aa (Ne.symm n3) (aa (Ne.symm n5) aF)) v
 have a9:JR w gb gs gm l c (eO fn0 tm asg bdy D) (ff s C) (fq s C) L A cp a5:=⟨H,q,(ub j G),(aH.blk a (aa (Ne.symm n2) (aa (Ne.symm n4) aF)) t),(ax d a (fun x hx=>(aa (fun e=>(aL (al.lt hC) lr d) (e▸hx)) (aa (fun e=>(aL (au hS) lr d) (e▸hx)) aF))) (bK.upd16 a (av (al.safe b _ (by decide)) (av (b6 o (by decide)) aN)))),I⟩
 refine Fy (r:=eO fn0 tm asg bdy D) (.agg #[vW ((aY C).file),vW ((aY C).record),vW ((aY C).count),.slice E ((aY C).words.length) F]) 53 I rfl<|?_
 refine RoundIn.mono (hround _ _ _ _ _ _ (aY C) _ _ a9 (eG.upd' V j aN) (cT (by omega)) (cT (by omega)) (cT (by omega)) (by omega)) ?_
 rintro _ aR ⟨rfl,aS,ab,ad,g⟩
 refine⟨_,rfl,?_⟩
 exact Fp<|Fp<|xA<|tn<|c0<|sk<|bn<|gL ((n-1),(ff s C),(fq s C),(L++[(aY C)]),ab,ad) ⟨g.u,g.hC,g.hS,g.hm,g.hl,g.ho,(by(try dsimp only);rw[← hrec,show n=(n-1)+1 from by omega];simp only[aZ,dm,f,y,z,k,bj,Nat.add_sub_cancel,reduceIte]),(by(try dsimp only);have hd:=mz s C (by omega);have jP:(dm s C).2.1.l.length=(ff s C).l.length:=rfl;omega),(by(try dsimp only);simp only[bV];omega),(by(try dsimp only);simp only[bV];omega)⟩ (by omega)
 refine xt<|tx<|tx<|bx<|rm (.tuple #[])<|?_
 have hfin:aZ dm C0.l.length 0 C0 []=(C,L):=by
   rw[← hrec]
   exact iL _ _ _ _ _ (by simp only[f,bj])
 refine⟨rfl,s,A,cp,?_⟩
 rw[hfin]
 exact⟨m,b,o,t,d,v⟩
theorem D8{w:World}{gb gs gm l b1 b2 fn0 D:Nat}{tm:Array Value}{asg bdy:Code}{c:Int}{C0:ai}(hC:al w gb C0)(hS:w.heap[gs]? = some (.cells #[vI 0] 3 (0,0)))(hm:w.heap[gm]? = some (.cells (i5 c jo) 45 (0,0)))
    (hl:w.heap[l]? = some (.loop (eO fn0 tm asg bdy D))) (hb1:w.heap[b1]? = some (.cells #[vP gb 0] 164 (0,0))) (hb2:w.heap[b2]? = some (.cells #[.func (.func 217) #[] #[]] 178 (0,0)))
    (n1:gb≠gs) (n2:gb≠gm) (n3:gb≠l) (n4:gs≠gm) (n5:gs≠l) (n6:gm≠l) (m1:b1≠gb) (m2:b1≠gs) (m3:b1≠gm) (m4:b1≠l) (k1:b2≠gb) (k2:b2≠gs) (k3:b2≠gm) (k4:b2≠l) (hround:ug w gb gs gm l c (eO fn0 tm asg bdy D)) :
    Calls Tryz.prog 220 #[.func (.yield l) #[] #[],vP b1 0,vP b2 0] w (fun e W=>e = .returned (.tuple #[])∧∃ s A cp,JR w gb gs gm l c (eO fn0 tm asg bdy D) (aZ bX C0.l.length 0 C0 []).1 s (aZ bX C0.l.length 0 C0 []).2 A cp W):=by
 have hlen:=hC.len
 refine en 25 Tryz.func220 rfl<|bk<|je (fun x=>[(0,.func (.yield l) #[] #[]),(1,vP b1 0),(2,vP b2 0)]) (fun(x:Nat × ai × Int × List dt × Option Addr × Nat) w'=>aH [gb,gs,gm,l] w w'∧al w' gb x.2.1∧w'.heap[gs]? = some (.cells #[vI x.2.2.1] 3 (0,0))∧w'.heap[gm]? = some (.cells (i5 c (.slice x.2.2.2.2.1 x.2.2.2.1.length x.2.2.2.2.2)) 45 (0,0))∧w'.heap[l]? = some (.loop (eO fn0 tm asg bdy D))∧b7 w.heap.size 98 4 (bK true) w' (.slice x.2.2.2.2.1 x.2.2.2.1.length x.2.2.2.2.2) x.2.2.2.1∧(aZ bX x.1 x.2.2.1 x.2.1 x.2.2.2.1=aZ bX C0.l.length 0 C0 [])∧(x.2.1.l.length≤x.1)∧(0≤x.2.2.1∧x.2.2.1≤131074*(x.2.2.2.1.length:Int))∧(x.2.2.2.1.length+x.1≤C0.l.length)) (fun x=>x.1) (C0.l.length,C0,0,[],none,0) ⟨aH.refl _ _,hC,hS,hm,hl,b7.nil ..,rfl,(Nat.le_refl _),(by(try dsimp only);omega),(by(try dsimp only);(try simp only[List.length_nil]);omega)⟩ ?_
 rintro⟨n,C,s,L,A,cp⟩ g ⟨k,I,J,M,N,O,P,Q,R,S⟩
 refine ji [(0,.func (.yield l) #[] #[]),(1,vP b1 0),(2,vP b2 0)] ?_
 have b:al g gb C:=I
 have p:g.heap[gs]? = some (.cells #[vI s] 3 (0,0)):=J
 have q:g.heap[gm]? = some (.cells (i5 c (.slice A L.length cp)) 45 (0,0)):=M
 have t:g.heap[l]? = some (.loop (eO fn0 tm asg bdy D)):=N
 have h:b7 w.heap.size 98 4 (bK true) g (.slice A L.length cp) L:=O
 have ac:aZ bX n s C L=aZ bX C0.l.length 0 C0 []:=P
 have ad:C.l.length≤n:=Q
 have ae:0≤s∧s≤131074*(L.length:Int):=R
 have af:L.length+n≤C0.l.length:=S
 have hrec:aZ bX n s C L=aZ bX C0.l.length 0 C0 []:=by assumption
 refine sq<|sg<|?_
 have m:=aH.blk k (aa m1 (aa m2 (aa m3 (aa m4 aF)))) hb1
 refine aE m 0<|ay<|mq (eQ b)<|?_
 have ah:=al.len b
 refine Pl 2<|cu 4 [8] 12 (((decide (0<(C.l.length:Int)))&&(C.e==0))) (fun K B=>?_) ?_
 refine bl 8 ((decide (0<(C.l.length:Int)))) (fun i=>?_) (fun i=>?_)
 have T:=of_decide_eq_true i
 refine L1<|dX m 0<|L1<|Oc<|mq (bL b)<|?_
 have aj:=al.len b
 exact Pl 2<|ce B (C.e==0) (by rw[i];rfl)
 have T:=of_decide_eq_false i
 exact Pl 4<|ce B false (by rw[i];rfl)
 refine nt<|cb (((decide (0<(C.l.length:Int)))&&(C.e==0))) (fun d=>?_) (fun d=>?_)
 have v:=(bB d).1
 have y:=(bB d).2
 have ak:=of_decide_eq_true v
 have am:=ag y
 refine bo<|bk<|sg<|?_
 refine aE (aH.blk k (aa k1 (aa k2 (aa k3 (aa k4 aF)))) hb2) 0<|aE m 0<|L0<|i8 #[] #[] (args:=#[vP gb 0])<|CJ (vD b) fun E F an U V X Y Z a0=>?_
 obtain⟨ao,ap⟩:=V
 obtain⟨aq,ar⟩:=X
 obtain⟨au,aw⟩:=Y
 refine aK #[vW 0,vW 0,vW 0,nS] fun aB aC a1 a2 a3=>aG a2 #[vW ((fv C).file),vW ((fv C).record),vW ((fv C).count),.slice E ((fv C).words.length) F] fun a4 a5 a6=>nt<|sq<|EE 9<|?_
 have z:=ud a3 a6 a1
 have a:=aJ a0 z
 refine F0<|dX (be a m1 m) 0<|?_
 have o:=al.old Z z
 refine F0<|Oc<|mq (bL o)<|?_
 have aD:=al.len o
 refine Fp<|Fp<|?_
 have G:=u1 k a im
 refine Ec 19 ((((fx C).e)!=0)) (fun j=>?_) (fun j=>?_)
 have a7:=az j
 refine Fp<|Fp<|Fp<|Fp<|Fp<|xA<|tn<|c1<|rt<|br<|tr<|br<|rr (.tuple #[])<|?_
 have hfin:aZ bX C0.l.length 0 C0 []=((fx C),L):=by
   rw[← hrec]
   rw[show n=(n-1)+1 from by omega]
   simp only[aZ,bX,d,v,y,j,bj,reduceIte]
 refine⟨rfl,s,A,cp,?_⟩
 rw[hfin]
 exact⟨G,o,(be a (Ne.symm n1) p),(be a (Ne.symm n2) q),(ax h a (fun x hx=>(aa (fun e=>(aL (al.lt hC) lr h) (e▸hx)) aF)) (bK.upd16 a (av (al.safe b _ (by decide)) aN))),(be a (Ne.symm n3) t)⟩
 have a7:=aA j
 refine Fp<|F0<|bO a5<|?_
 have H:=be a (Ne.symm n3) t
 have a8:JR w gb gs gm l c (eO fn0 tm asg bdy D) (fx C) s L A cp a4:=⟨G,o,(be a (Ne.symm n1) p),(be a (Ne.symm n2) q),(ax h a (fun x hx=>(aa (fun e=>(aL (al.lt hC) lr h) (e▸hx)) aF)) (bK.upd16 a (av (al.safe b _ (by decide)) aN))),H⟩
 refine Fy (r:=eO fn0 tm asg bdy D) (.agg #[vW ((fv C).file),vW ((fv C).record),vW ((fv C).count),.slice E ((fv C).words.length) F]) 53 H rfl<|?_
 refine RoundIn.mono (hround _ _ _ _ _ _ (fv C) _ _ a8 (eG.upd' U z aN) (cT (by omega)) (cT (by omega)) (cT (by omega)) (by omega)) ?_
 rintro _ aI ⟨rfl,aM,a9,ab,f⟩
 refine⟨_,rfl,?_⟩
 exact Fp<|Fp<|xA<|tn<|c0<|sk<|bn<|gL ((n-1),(fx C),s,(L++[(fv C)]),a9,ab) ⟨f.u,f.hC,f.hS,f.hm,f.hl,f.ho,(by(try dsimp only);rw[← hrec,show n=(n-1)+1 from by omega];simp only[aZ,bX,d,v,y,j,bj,Nat.add_sub_cancel,reduceIte]),(by(try dsimp only);have hd:=jr s C (by omega);have jP:(bX s C).2.1.l.length=(fx C).l.length:=rfl;omega),(by(try dsimp only);simp only[bV];omega),(by(try dsimp only);simp only[bV];omega)⟩ (by omega)
 refine xt<|tx<|tx<|bx<|rm (.tuple #[])<|?_
 have hfin:aZ bX C0.l.length 0 C0 []=(C,L):=by
   rw[← hrec]
   exact iL _ _ _ _ _ (by simp only[d,bj])
 refine⟨rfl,s,A,cp,?_⟩
 rw[hfin]
 exact⟨k,b,p,q,h,t⟩
theorem Cx{w:World}{gb gs gm l b1 b2 fn0 D:Nat}{tm:Array Value}{asg bdy:Code}{c:Int}{C0:ai}(hC:al w gb C0)(hS:w.heap[gs]? = some (.cells #[vI 0] 3 (0,0)))(hm:w.heap[gm]? = some (.cells (i5 c jo) 45 (0,0)))
    (hl:w.heap[l]? = some (.loop (eO fn0 tm asg bdy D))) (hb1:w.heap[b1]? = some (.cells #[vP gb 0] 164 (0,0))) (hb2:w.heap[b2]? = some (.cells #[.func (.func 219) #[] #[]] 178 (0,0)))
    (n1:gb≠gs) (n2:gb≠gm) (n3:gb≠l) (n4:gs≠gm) (n5:gs≠l) (n6:gm≠l) (m1:b1≠gb) (m2:b1≠gs) (m3:b1≠gm) (m4:b1≠l) (k1:b2≠gb) (k2:b2≠gs) (k3:b2≠gm) (k4:b2≠l) (hround:ug w gb gs gm l c (eO fn0 tm asg bdy D)) :
    Calls Tryz.prog 220 #[.func (.yield l) #[] #[],vP b1 0,vP b2 0] w (fun e W=>e = .returned (.tuple #[])∧∃ s A cp,JR w gb gs gm l c (eO fn0 tm asg bdy D) (aZ du C0.l.length 0 C0 []).1 s (aZ du C0.l.length 0 C0 []).2 A cp W):=by
 have hlen:=hC.len
 refine en 25 Tryz.func220 rfl<|bk<|je (fun x=>[(0,.func (.yield l) #[] #[]),(1,vP b1 0),(2,vP b2 0)]) (fun(x:Nat × ai × Int × List dt × Option Addr × Nat) w'=>aH [gb,gs,gm,l] w w'∧al w' gb x.2.1∧w'.heap[gs]? = some (.cells #[vI x.2.2.1] 3 (0,0))∧w'.heap[gm]? = some (.cells (i5 c (.slice x.2.2.2.2.1 x.2.2.2.1.length x.2.2.2.2.2)) 45 (0,0))∧w'.heap[l]? = some (.loop (eO fn0 tm asg bdy D))∧b7 w.heap.size 98 4 (bK true) w' (.slice x.2.2.2.2.1 x.2.2.2.1.length x.2.2.2.2.2) x.2.2.2.1∧(aZ du x.1 x.2.2.1 x.2.1 x.2.2.2.1=aZ du C0.l.length 0 C0 [])∧(x.2.1.l.length≤x.1)∧(0≤x.2.2.1∧x.2.2.1≤131074*(x.2.2.2.1.length:Int))∧(x.2.2.2.1.length+x.1≤C0.l.length)) (fun x=>x.1) (C0.l.length,C0,0,[],none,0) ⟨aH.refl _ _,hC,hS,hm,hl,b7.nil ..,rfl,(Nat.le_refl _),(by(try dsimp only);omega),(by(try dsimp only);(try simp only[List.length_nil]);omega)⟩ ?_
 rintro⟨n,C,s,L,A,cp⟩ g ⟨k,I,J,M,N,O,P,Q,R,S⟩
 refine ji [(0,.func (.yield l) #[] #[]),(1,vP b1 0),(2,vP b2 0)] ?_
 have b:al g gb C:=I
 have p:g.heap[gs]? = some (.cells #[vI s] 3 (0,0)):=J
 have q:g.heap[gm]? = some (.cells (i5 c (.slice A L.length cp)) 45 (0,0)):=M
 have t:g.heap[l]? = some (.loop (eO fn0 tm asg bdy D)):=N
 have h:b7 w.heap.size 98 4 (bK true) g (.slice A L.length cp) L:=O
 have ac:aZ du n s C L=aZ du C0.l.length 0 C0 []:=P
 have ad:C.l.length≤n:=Q
 have ae:0≤s∧s≤131074*(L.length:Int):=R
 have af:L.length+n≤C0.l.length:=S
 have hrec:aZ du n s C L=aZ du C0.l.length 0 C0 []:=by assumption
 refine sq<|sg<|?_
 have m:=aH.blk k (aa m1 (aa m2 (aa m3 (aa m4 aF)))) hb1
 refine aE m 0<|ay<|mq (eQ b)<|?_
 have ah:=al.len b
 refine Pl 2<|cu 4 [8] 12 (((decide (0<(C.l.length:Int)))&&(C.e==0))) (fun K B=>?_) ?_
 refine bl 8 ((decide (0<(C.l.length:Int)))) (fun i=>?_) (fun i=>?_)
 have T:=of_decide_eq_true i
 refine L1<|dX m 0<|L1<|Oc<|mq (bL b)<|?_
 have aj:=al.len b
 exact Pl 2<|ce B (C.e==0) (by rw[i];rfl)
 have T:=of_decide_eq_false i
 exact Pl 4<|ce B false (by rw[i];rfl)
 refine nt<|cb (((decide (0<(C.l.length:Int)))&&(C.e==0))) (fun d=>?_) (fun d=>?_)
 have v:=(bB d).1
 have y:=(bB d).2
 have ak:=of_decide_eq_true v
 have am:=ag y
 refine bo<|bk<|sg<|?_
 refine aE (aH.blk k (aa k1 (aa k2 (aa k3 (aa k4 aF)))) hb2) 0<|aE m 0<|L0<|i8 #[] #[] (args:=#[vP gb 0])<|CJ (AB b) fun E F an U V X Y Z a0=>?_
 obtain⟨ao,ap⟩:=V
 obtain⟨aq,ar⟩:=X
 obtain⟨au,aw⟩:=Y
 refine aK #[vW 0,vW 0,vW 0,nS] fun aB aC a1 a2 a3=>aG a2 #[vW ((ka C).file),vW ((ka C).record),vW ((ka C).count),.slice E ((ka C).words.length) F] fun a4 a5 a6=>nt<|sq<|EE 9<|?_
 have z:=ud a3 a6 a1
 have a:=aJ a0 z
 refine F0<|dX (be a m1 m) 0<|?_
 have o:=al.old Z z
 refine F0<|Oc<|mq (bL o)<|?_
 have aD:=al.len o
 refine Fp<|Fp<|?_
 have G:=u1 k a im
 refine Ec 19 ((((ke C).e)!=0)) (fun j=>?_) (fun j=>?_)
 have a7:=az j
 refine Fp<|Fp<|Fp<|Fp<|Fp<|xA<|tn<|c1<|rt<|br<|tr<|br<|rr (.tuple #[])<|?_
 have hfin:aZ du C0.l.length 0 C0 []=((ke C),L):=by
   rw[← hrec]
   rw[show n=(n-1)+1 from by omega]
   simp only[aZ,du,d,v,y,j,bj,reduceIte]
 refine⟨rfl,s,A,cp,?_⟩
 rw[hfin]
 exact⟨G,o,(be a (Ne.symm n1) p),(be a (Ne.symm n2) q),(ax h a (fun x hx=>(aa (fun e=>(aL (al.lt hC) lr h) (e▸hx)) aF)) (bK.upd16 a (av (al.safe b _ (by decide)) aN))),(be a (Ne.symm n3) t)⟩
 have a7:=aA j
 refine Fp<|F0<|bO a5<|?_
 have H:=be a (Ne.symm n3) t
 have a8:JR w gb gs gm l c (eO fn0 tm asg bdy D) (ke C) s L A cp a4:=⟨G,o,(be a (Ne.symm n1) p),(be a (Ne.symm n2) q),(ax h a (fun x hx=>(aa (fun e=>(aL (al.lt hC) lr h) (e▸hx)) aF)) (bK.upd16 a (av (al.safe b _ (by decide)) aN))),H⟩
 refine Fy (r:=eO fn0 tm asg bdy D) (.agg #[vW ((ka C).file),vW ((ka C).record),vW ((ka C).count),.slice E ((ka C).words.length) F]) 53 H rfl<|?_
 refine RoundIn.mono (hround _ _ _ _ _ _ (ka C) _ _ a8 (eG.upd' U z aN) (cT (by omega)) (cT (by omega)) (cT (by omega)) (by omega)) ?_
 rintro _ aI ⟨rfl,aM,a9,ab,f⟩
 refine⟨_,rfl,?_⟩
 exact Fp<|Fp<|xA<|tn<|c0<|sk<|bn<|gL ((n-1),(ke C),s,(L++[(ka C)]),a9,ab) ⟨f.u,f.hC,f.hS,f.hm,f.hl,f.ho,(by(try dsimp only);rw[← hrec,show n=(n-1)+1 from by omega];simp only[aZ,du,d,v,y,j,bj,Nat.add_sub_cancel,reduceIte]),(by(try dsimp only);have hd:=mj s C (by omega);have jP:(du s C).2.1.l.length=(ke C).l.length:=rfl;omega),(by(try dsimp only);simp only[bV];omega),(by(try dsimp only);simp only[bV];omega)⟩ (by omega)
 refine xt<|tx<|tx<|bx<|rm (.tuple #[])<|?_
 have hfin:aZ du C0.l.length 0 C0 []=(C,L):=by
   rw[← hrec]
   exact iL _ _ _ _ _ (by simp only[d,bj])
 refine⟨rfl,s,A,cp,?_⟩
 rw[hfin]
 exact⟨k,b,p,q,h,t⟩
open Go.RowKit
def j0 (n:Int) : Bool:=(decide (7≤n)&&decide (n≤245))&&n%7==0
def iN (n:Int) : Bool:=decide (4≤n)&&decide (n≤245)
def jv (n:Int) : Bool:=decide (9≤n)&&decide (n≤251)
def l8 (may:Int→Bool)(C:ai) : ai:=(C.bytesC 1).need (may C.byteV) 5
def ww (may:Int→Bool)(C:ai) : ai:=⟨(l8 may C).bytesR C.byteV,false,0⟩
def oB (one:Int→ai→Int × ai × dt)(may:Int→Bool)(C:ai) : ai × List dt:=aZ one (ww may C).l.length 0 (ww may C) []
def bD (e:Int) : Int:=if e==2 then 5 else e
def dw (one:Int→ai→Int × ai × dt)(may:Int→Bool)(c:Int)(C:ai) : ai × aT :=
  (((l8 may C).bytesC C.byteV).need ((oB one may C).1.e==0) (bD (oB one may C).1.e),{ aT.zero with code:=c,recs:=(oB one may C).2 })
def bh (dir c:Int)(C:ai) : Option (ai × aT) :=
  if c==20 then (if dir==0 then some (dw dm j0 c C) else some (dw bX iN c C)) else if c==21 then some (dw du jv c C) else none
theorem zV:((20:Int)==20)=true:=rfl
theorem zM:((21:Int)==20)=false:=rfl
theorem zE:((21:Int)==21)=true:=rfl
theorem rQ{m:Md}{A:Option Addr}{cp:Nat}{b:List Int}{w:World}{dir:Int}(hd:dir=0∨dir=1)(hsl:aX m w (.slice A b.length cp) b)(hb:b.length≤1048576) :
    Calls Tryz.prog 102 #[vI 0,vB 20,.slice A b.length cp] w (eT (aj bh 0 20 b) w):=by
 have hln:(b.length:Int)≤1048576:=by omega
 have cD:((dir != 0)&&(dir != 1))=false:=by rcases hd with rfl | rfl<;>rfl
 refine Dl 77 Tryz.func102 rfl<|sg<|aK mZ fun b4 cE b5 P Y=>ah 1<|sq<|aD 6<|c0<|bo<|ak 2<|ay (args:=#[vI 0,vB 20])<|e3 Bg fun E cF a7 B H=>Pl 3<|aK #[.nilFunc,.nilFunc] fun cG cI c9 b7 t=>aG b7 #[.func (.func 215) #[] #[],.func (.func 213) #[] #[vP E 0]] fun cJ ca r=>ah 1<|sq<|sq<|go<|ah 2<|c0<|bo<|ak 1<|?_
 have Z:=ud t r c9
 have a8:=aJ H Z
 have b8:=aJ Y a8
 refine ay<|e3 (et (aX.old hsl b8) (by omega)) fun a9 cK I J q=>Pl 1<|aM 1<|ay<|m3 (cl J) fun cL cc k cM=>bq ((ai.mk b false 0).byteV)<|Pl 1<|aM 2<|?_
 have ad:=ud q k I
 have b9:=ub ad ca
 refine aE b9 0<|Pl 1<|L0<|i8 #[] #[] (args:=#[vI ((ai.mk b false 0).byteV)])<|m1 (tB (n:=(ai.mk b false 0).byteV) (by omega)) fun cO g=>?_
 refine ay<|m2 (bu ((j0 ((ai.mk b false 0).byteV))) 5 (al.old cc g)) fun cP cd h=>?_
 refine ab cd fun x49 ba bb=>?_
 refine aM 2<|ay<|wH (cR (n:=(ai.mk b false 0).byteV) bb) fun cQ cS cU ce cV cW cf i=>?_
 have cX:=Nat.le_trans (ai.bytesR_le x49 ((ai.mk b false 0).byteV)) (al.len bb)
 refine ab cf fun x58 bc cg=>?_
 refine ay<|e3 (et ce (by omega)) fun Q cZ ae F o=>Pl 1<|aM 2<|aK mZ fun D d0 K M p=>aG M (mC 20) fun d1 ch d=>nt<|sq<|ak 2<|?_
 have a0:=ud p d K
 have bd:=aJ o a0
 have bf:=uz g (u1 h (aJ i bd) im)
 refine aE (be bf (nb (au b7) r.size I) b9) 1<|ay<|CJ (nc (gb:=Q) (f:=.func 213) (x:=#[]) (y:=#[vP E 0])) fun ci cj d2 af ag d3 bg bi j=>nt<|bk<|tP (f:=220) #[vP ci 0,vP cj 0] fun a ha=>?_
 intro d4 d5 S d6 v G bl am N O
 have bm:=nb (al.lt F) lr K
 have a1:=nb (al.lt F) (le (le p.size d.size) j.size) G
 have bp:=nb (au B) (le (le (le (le (le (le (le t.size r.size) q.size) k.size) g.size) h.size) i.size) o.size) K
 have br:=nb (au B) (le (le (le (le (le (le (le (le (le (le t.size r.size) q.size) k.size) g.size) h.size) i.size) o.size) p.size) d.size) j.size) G
 have T:=nb (au M) (le d.size j.size) G
 have a2:=aJ j O
 have bs:=al.old F (aJ a0 a2)
 have bv:=ud ad (aJ bf a2) I
 have bw:=ub (aJ Z bv) B
 have an:=ub a2 ch
 refine(D6 (c:=20) bs bw an N (ub O bg) (ub O bi) (Ne.symm (nb (au B) (le (le (le (le (le (le t.size r.size) q.size) k.size) g.size) h.size) i.size) ae)) bm a1 bp br T (Ne.symm (nb (al.lt F) a0.size af)) (Ne.symm (nb (au B) (le (le (le (le (le (le (le (le (le t.size r.size) q.size) k.size) g.size) h.size) i.size) o.size) p.size) d.size) af)) (Ne.symm (nb (au M) d.size af)) (nb (au bg) lr G) (Ne.symm (nb (al.lt F) a0.size ag)) (Ne.symm (nb (au B) (le (le (le (le (le (le (le (le (le t.size r.size) q.size) k.size) g.size) h.size) i.size) o.size) p.size) d.size) ag)) (Ne.symm (nb (au M) d.size ag)) (nb (au bi) lr G) ?_).mono ?_
 intro W C s L Ar cr x Ax cx hJ hrd hx1 hx2 hx3 hL
 simp only[eP] at hx1 hx2 hx3
 have hm2:W.heap[D]? = some (.cells #[vB 20,vB 0,vW 0,vW 0,vW 0,vW 0,vW 0,vW 0,vW 0,vW 0,vW 0,vW 0,nS,nS,nS,.slice Ar L.length cr,vB 0,vB 0,vB 0,vB 0,vB 0,nS] 45 (0,0)):=hJ.hm
 refine nC hJ.hl ?_
 refine Em ha 53<|Dj<|o8<|Do #[vW 0,vW 0,vW 0,nS] fun d7 d8 bx ck bz=>o8<|gk ck #[vW x.file,vW x.record,vW x.count,.slice Ax x.words.length cx] fun da cn bA=>xA<|?_
 have bB:=ud bz bA bx
 refine Ep (ub bB hJ.hl) (by trivial) fun db co ao=>EH<|Dj<|Dm<|?_
 have bE:=uz bB ao
 have bF:=be bE T hm2
 refine o8<|dX bF 15<|?_
 refine o8<|bO (be ao (Ne.symm (nb (au N) hJ.u.size bx)) cn)<|o8<|d9 (m:=1) (e:=98) #[vW x.file,vW x.record,vW x.count,.slice Ax x.words.length cx] fun dd de df cq ap=>?_
 have U:=aJ bE ap
 have cs:=mb (R:=bK true) (x:=(dt.mk x.file x.record x.count x.words)) cq rfl ⟨_,rfl,(eG.updl hrd U hJ.hl rfl),cT (by omega),cT (by omega),cT (by omega)⟩
 have ar:=ax hJ.ho U (fun x hx=>(aa (fun e=>(aL (au N) lr hJ.ho) (e▸hx)) aF)) (bK.updl U hJ.hl rfl)
 refine o8<|j9 (xs:=L) (ys:=([(dt.mk x.file x.record x.count x.words)])) (.agg #[vW 0,vW 0,vW 0,nS]) 4 32 ar cs (by simp) bK.ones (fun w' hv=>bK.upd16 hv (dc (dS _ ar (by decide)) aN)) (by(try simp only[bV,aB]);omega) (le (le (le (le hJ.u.size bz.size) bA.size) ao.size) ap.size) fun bG bH dg aw aI=>Dm<|?_
 have bJ:=ut (aH.mono (S':=(ob Ar++[])) ap aC) aI (aq il aC)
 have aO:=aH.blk bJ (bC (aL (au an) lr hJ.ho) aF) bF
 refine o8<|cm aO 15 (mG 20 0 0 0 0 0 0 0 0 0 0 0 nS nS nS (.slice bG ((L++[(dt.mk x.file x.record x.count x.words)]).length) bH) 0 0 0 0 0 nS) fun dh ct V=>xA<|bn<|?_
 have aP:=aH.blk (u1 (aH.mono (S':=(ob Ar++(D :: []))) bJ (aq il aC)) V im) (bC (aL (au N) lr hJ.ho) (aa (Ne.symm T) aF)) co
 refine El aP fun di cu X=>?_
 have aQ:=ut (aH.mono (S':=(S :: (ob Ar++(D :: [])))) U (ac im aC)) (ut (aH.mono (S':=(ob Ar++(D :: (S :: [])))) aI (aq il aC)) (us V X) (ac im (ac im aC))) (aq il (ac im (ac im aC)))
 exact⟨by trivial,aQ.size,bG,bH,⟨(ut hJ.u aQ (ac im (aq (aU hJ.ho lr) (ac im aC)))),(al.updl (al.upd (al.upd (al.updl hJ.hC U (aa a1 aF) hJ.hl rfl) aI (bC (aL (al.lt bs) lr hJ.ho) aF) (dc (dS _ ar (by decide)) aN)) V (aa bm aF) (av (b6 aO (by decide)) aN)) X (aa a1 aF) aP rfl),(aH.blk aQ (aa br (bC (aL (au bw) lr hJ.ho) (aa bp aF))) hJ.hS),(be X T ct),(ax (ax aw V (fun x hx=>(aa (fun e=>(aL (au an) lr aw) (e▸hx)) aF)) (bK.upd16 V (av (b6 aO (by decide)) aN))) X (fun x hx=>(aa (fun e=>(aL (au N) lr aw) (e▸hx)) aF)) (bK.updl X aP rfl)),cu⟩⟩
 rintro _ cv ⟨rfl,dj,bN,bP,z⟩
 refine⟨_,_,rfl,z.hl,by simp[eO],by trivial,fun dk bQ=>?_⟩
 refine ab z.hC fun aR bR cw=>?_
 have cy:cv.heap[D]? = some (.cells #[vB 20,vB 0,vW 0,vW 0,vW 0,vW 0,vW 0,vW 0,vW 0,vW 0,vW 0,vW 0,nS,nS,nS,.slice bN ((aZ dm (ai.mk (x49.bytesR ((ai.mk b false 0).byteV)) false 0).l.length 0 (ai.mk (x49.bytesR ((ai.mk b false 0).byteV)) false 0) []).2.length) bP,vB 0,vB 0,vB 0,vB 0,vB 0,nS] 45 (0,0)):=z.hm
 refine bn<|tn<|ak 2<|?_
 have a3:=al.updl cw bQ (aa a1 aF) z.hl rfl
 refine ay<|mq (bL a3)<|?_
 have dl:=al.len a3
 refine Pl 2<|ay<|mq (bL a3)<|?_
 have dn:=al.len a3
 refine ay<|m1 (kq (e:=aR.e)) fun dp cz=>?_
 have a4:=aJ bQ cz
 have bS:=u1 z.u a4 im
 have bT:=ud ad (uz g (u1 h i im)) I
 have bU:=al.upd cg (ut (aH.mono (S':=[E]) bd aC) (ut (aH.mono (S':=[Q,E,D]) a2 aC) bS (ac im (ac im (ac im (ac (ni j.size G) aC))))) (ac (nr ae) (ac im (ac (ni o.size K) aC)))) (aa (Ne.symm (nb (au B) Z.size I)) aF) (av (b6 (ub (aJ Z bT) B) (by decide)) aN)
 refine ay<|m2 (bu ((aR.e==0)) (bD aR.e) bU) fun dq cA aW=>?_
 refine ab cA fun bW bX bY=>?_
 refine aM 1<|ay<|m2 (cH bY) fun dr bZ aY=>nt<|sq<|ak 1<|ay<|mq (bL bZ)<|?_
 have ds:=al.len bZ
 refine Pl 1<|cN 2<|?_
 have c1:=u1 aW aY im
 have b0:=u1 (aH.mono (S':=[Q,E,D,S,a9]) bS (ac im (ac im (ac im (ac im aC))))) c1 im
 have b1:=ut (aH.mono (S':=[E]) bv aC) b0 (ac (ni bT.size ae) (ac im (ac (ni (le (le (le (le (le q.size k.size) g.size) h.size) i.size) o.size) K) (ac (ni (le (le (le (le (le (le (le (le q.size k.size) g.size) h.size) i.size) o.size) p.size) d.size) j.size) G) (ac (nr I) aC)))))
 have c2:=ud b8 b1 (le Y.size a7)
 have hs:aj bh 0 20 b=bt (aT.mk 20 0 0 0 0 0 0 0 0 0 0 0 [] [] [] (aZ dm (ai.mk ((((ai.mk b false 0).bytesC 1).need (j0 ((ai.mk b false 0).byteV)) 5).bytesR ((ai.mk b false 0).byteV)) false 0).l.length 0 (ai.mk ((((ai.mk b false 0).bytesC 1).need (j0 ((ai.mk b false 0).byteV)) 5).bytesR ((ai.mk b false 0).byteV)) false 0) []).2 0 0 0 0 0 []) (((((ai.mk b false 0).bytesC 1).need (j0 ((ai.mk b false 0).byteV)) 5).bytesC ((ai.mk b false 0).byteV)).need (((aZ dm (ai.mk ((((ai.mk b false 0).bytesC 1).need (j0 ((ai.mk b false 0).byteV)) 5).bytesR ((ai.mk b false 0).byteV)) false 0).l.length 0 (ai.mk ((((ai.mk b false 0).bytesC 1).need (j0 ((ai.mk b false 0).byteV)) 5).bytesR ((ai.mk b false 0).byteV)) false 0) []).1).e==0) (bD ((aZ dm (ai.mk ((((ai.mk b false 0).bytesC 1).need (j0 ((ai.mk b false 0).byteV)) 5).bytesR ((ai.mk b false 0).byteV)) false 0).l.length 0 (ai.mk ((((ai.mk b false 0).bytesC 1).need (j0 ((ai.mk b false 0).byteV)) 5).bytesR ((ai.mk b false 0).byteV)) false 0) []).1).e)):=by
   unfold aj bh dw oB ww l8
   (try simp only[bj,dQ,dU,dW,dT,dR,reduceIte,zV,zM,zE])
   all_goals rfl
 refine cb ((bW.endC.e != 0)) (fun b2=>?_) (fun b2=>?_)
 have b3:=az b2
 refine ak 2<|?_
 refine aG (ub (ud a8 b1 a7) P) mZ fun du cB c3=>ah 1<|aV<|?_
 have c4:=nb (au P) (le (le (le (le (le (le (le (le (le (le (le H.size t.size) r.size) q.size) k.size) g.size) h.size) i.size) o.size) p.size) d.size) j.size) v
 refine Dp (aH.blk (u1 (aH.mono (S':=[Q,E,D,S,a9,b4]) b0 (ac im (ac im (ac im (ac im (ac im aC)))))) c3 im) (aa (Ne.symm (nb (al.lt F) (le (le p.size d.size) j.size) v)) (aa (Ne.symm (nb (au B) (le (le (le (le (le (le (le (le (le (le t.size r.size) q.size) k.size) g.size) h.size) i.size) o.size) p.size) d.size) j.size) v)) (aa (Ne.symm (nb (au M) (le d.size j.size) v)) (aa bl (aa (Ne.symm (nb (al.lt J) (le (le (le (le (le (le (le k.size g.size) h.size) i.size) o.size) p.size) d.size) j.size) v)) (aa (Ne.symm c4) aF)))))) am) fun dv c5=>?_
 refine rx (be c5 c4 cB) (vI bW.endC.e)<|?_
 subst bX bR bc ba
 rw[hs]
 exact bI b3 (ut c2 (us c3 c5) (ac (nr b5) (ac (ni (le (le (le (le (le (le (le (le (le (le (le (le Y.size H.size) t.size) r.size) q.size) k.size) g.size) h.size) i.size) o.size) p.size) d.size) j.size) v) aC)))
 have b3:=aA b2
 refine bo<|sg<|?_
 refine L0<|bO (aH.blk (us a4 c1) (aa T (aa (Ne.symm (nb (al.lt J) (le (le (le (le k.size g.size) h.size) i.size) o.size) K)) aF)) cy)<|?_
 have c6:=ub (ud a8 b1 a7) P
 refine aG c6 (mG 20 0 0 0 0 0 0 0 0 0 0 0 nS nS nS (.slice bN ((aZ dm (ai.mk (x49.bytesR ((ai.mk b false 0).byteV)) false 0).l.length 0 (ai.mk (x49.bytesR ((ai.mk b false 0).byteV)) false 0) []).2.length) bP) 0 0 0 0 0 nS) fun dx cC a5=>ah 1<|rt<|?_
 have c7:=nb (au P) (le (le (le (le (le (le (le (le (le (le (le H.size t.size) r.size) q.size) k.size) g.size) h.size) i.size) o.size) p.size) d.size) j.size) v
 have c8:=aH.blk (u1 (aH.mono (S':=[Q,E,D,S,a9,b4]) b0 (ac im (ac im (ac im (ac im (ac im aC)))))) a5 im) (aa (Ne.symm (nb (al.lt F) (le (le p.size d.size) j.size) v)) (aa (Ne.symm (nb (au B) (le (le (le (le (le (le (le (le (le (le t.size r.size) q.size) k.size) g.size) h.size) i.size) o.size) p.size) d.size) j.size) v)) (aa (Ne.symm (nb (au M) (le d.size j.size) v)) (aa bl (aa (Ne.symm (nb (al.lt J) (le (le (le (le (le (le (le k.size g.size) h.size) i.size) o.size) p.size) d.size) j.size) v)) (aa (Ne.symm c7) aF)))))) am
 refine Dp c8 fun dy a6=>?_
 refine rx (be a6 c7 cC) (vI 0)<|?_
 subst bX bR bc ba
 rw[hs]
 exact bM b3 ⟨_,_,_,_,_,rfl,aS.nil ..,aS.nil ..,aS.nil ..,((ax (ax (ax (ax (ax z.ho a4 (fun x hx=>(aa (fun e=>(aL (au N) lr z.ho) (e▸hx)) aF)) (bK.updl a4 z.hl rfl)) aW (fun x hx=>(aa (fun e=>(aL (al.lt J) (le (le (le (le (le (le (le (le k.size g.size) h.size) i.size) o.size) p.size) d.size) j.size) O.size) z.ho) (e▸hx)) aF)) (bK.upd16 aW (av (al.safe bU _ (by decide)) aN))) aY (fun x hx=>(aa (fun e=>(aL (al.lt J) (le (le (le (le (le (le (le (le k.size g.size) h.size) i.size) o.size) p.size) d.size) j.size) O.size) z.ho) (e▸hx)) aF)) (bK.upd16 aY (av (al.safe bY _ (by decide)) aN))) a5 (fun x hx=>(aa (fun e=>(aL (au P) (le (le (le (le (le (le (le (le (le (le (le (le H.size t.size) r.size) q.size) k.size) g.size) h.size) i.size) o.size) p.size) d.size) j.size) O.size) z.ho) (e▸hx)) aF)) (bK.upd16 a5 (av (b6 c6 (by decide)) aN))) a6 (fun x hx=>(aa (fun e=>(aL (au am) lr z.ho) (e▸hx)) aF)) (bK.updl a6 c8 rfl))).rd,aS.nil ..,(cY (by omega))⟩ (ut c2 (us a5 a6) (ac (nr b5) (ac (ni (le (le (le (le (le (le (le (le (le (le (le (le Y.size H.size) t.size) r.size) q.size) k.size) g.size) h.size) i.size) o.size) p.size) d.size) j.size) v) aC)))
theorem qO{m:Md}{A:Option Addr}{cp:Nat}{b:List Int}{w:World}{dir:Int}(hd:dir=0∨dir=1)(hsl:aX m w (.slice A b.length cp) b)(hb:b.length≤1048576) :
    Calls Tryz.prog 102 #[vI 1,vB 20,.slice A b.length cp] w (eT (aj bh 1 20 b) w):=by
 have hln:(b.length:Int)≤1048576:=by omega
 have cE:((dir != 0)&&(dir != 1))=false:=by rcases hd with rfl | rfl<;>rfl
 refine Dl 77 Tryz.func102 rfl<|sg<|aK mZ fun b4 cF b5 P Y=>ah 1<|sq<|aD 6<|c0<|bo<|ak 2<|ay (args:=#[vI 1,vB 20])<|e3 At fun G cG a7 B H=>Pl 3<|aK #[.nilFunc,.nilFunc] fun cI cJ ca b7 t=>aG b7 #[.func (.func 216) #[] #[],.func (.func 217) #[] #[]] fun cK cc r=>ah 1<|sq<|sq<|go<|ah 2<|c0<|bo<|ak 1<|?_
 have Z:=ud t r ca
 have a8:=aJ H Z
 have b8:=aJ Y a8
 refine ay<|e3 (et (aX.old hsl b8) (by omega)) fun a9 cL I J q=>Pl 1<|aM 1<|ay<|m3 (cl J) fun cM cd k cO=>bq ((ai.mk b false 0).byteV)<|Pl 1<|aM 2<|?_
 have ad:=ud q k I
 have b9:=ub ad cc
 refine aE b9 0<|Pl 1<|L0<|i8 #[] #[] (args:=#[vI ((ai.mk b false 0).byteV)])<|m1 (tL (n:=(ai.mk b false 0).byteV) (by omega)) fun cP g=>?_
 refine ay<|m2 (bu ((iN ((ai.mk b false 0).byteV))) 5 (al.old cd g)) fun cQ ce h=>?_
 refine ab ce fun x49 ba bb=>?_
 refine aM 2<|ay<|wH (cR (n:=(ai.mk b false 0).byteV) bb) fun cS cU cV cf cW cX cg i=>?_
 have cZ:=Nat.le_trans (ai.bytesR_le x49 ((ai.mk b false 0).byteV)) (al.len bb)
 refine ab cg fun x58 bc ch=>?_
 refine ay<|e3 (et cf (by omega)) fun Q d0 ae E o=>Pl 1<|aM 2<|aK mZ fun D d1 K M p=>aG M (mC 20) fun d2 ci d=>nt<|sq<|ak 2<|?_
 have a0:=ud p d K
 have bd:=aJ o a0
 have bf:=uz g (u1 h (aJ i bd) im)
 refine aE (be bf (nb (au b7) r.size I) b9) 1<|ay<|CJ (nc (gb:=Q) (f:=.func 217) (x:=#[]) (y:=#[])) fun cj ck d3 af ag d4 bg bi j=>nt<|bk<|tP (f:=220) #[vP cj 0,vP ck 0] fun a ha=>?_
 intro d5 d6 S d7 v F bl am N O
 have bm:=nb (al.lt E) lr K
 have a1:=nb (al.lt E) (le (le p.size d.size) j.size) F
 have bp:=nb (au B) (le (le (le (le (le (le (le t.size r.size) q.size) k.size) g.size) h.size) i.size) o.size) K
 have br:=nb (au B) (le (le (le (le (le (le (le (le (le (le t.size r.size) q.size) k.size) g.size) h.size) i.size) o.size) p.size) d.size) j.size) F
 have T:=nb (au M) (le d.size j.size) F
 have a2:=aJ j O
 have bs:=al.old E (aJ a0 a2)
 have bv:=ud ad (aJ bf a2) I
 have bw:=ub (aJ Z bv) B
 have an:=ub a2 ci
 refine(D8 (c:=20) bs bw an N (ub O bg) (ub O bi) (Ne.symm (nb (au B) (le (le (le (le (le (le t.size r.size) q.size) k.size) g.size) h.size) i.size) ae)) bm a1 bp br T (Ne.symm (nb (al.lt E) a0.size af)) (Ne.symm (nb (au B) (le (le (le (le (le (le (le (le (le t.size r.size) q.size) k.size) g.size) h.size) i.size) o.size) p.size) d.size) af)) (Ne.symm (nb (au M) d.size af)) (nb (au bg) lr F) (Ne.symm (nb (al.lt E) a0.size ag)) (Ne.symm (nb (au B) (le (le (le (le (le (le (le (le (le t.size r.size) q.size) k.size) g.size) h.size) i.size) o.size) p.size) d.size) ag)) (Ne.symm (nb (au M) d.size ag)) (nb (au bi) lr F) ?_).mono ?_
 intro W C s L Ar cr x Ax cx hJ hrd hx1 hx2 hx3 hL
 simp only[eP] at hx1 hx2 hx3
 have hm2:W.heap[D]? = some (.cells #[vB 20,vB 0,vW 0,vW 0,vW 0,vW 0,vW 0,vW 0,vW 0,vW 0,vW 0,vW 0,nS,nS,nS,.slice Ar L.length cr,vB 0,vB 0,vB 0,vB 0,vB 0,nS] 45 (0,0)):=hJ.hm
 refine nC hJ.hl ?_
 refine Em ha 53<|Dj<|o8<|Do #[vW 0,vW 0,vW 0,nS] fun d8 da bx cn bz=>o8<|gk cn #[vW x.file,vW x.record,vW x.count,.slice Ax x.words.length cx] fun db co bA=>xA<|?_
 have bB:=ud bz bA bx
 refine Ep (ub bB hJ.hl) (by trivial) fun dd cq ao=>EH<|Dj<|Dm<|?_
 have bE:=uz bB ao
 have bF:=be bE T hm2
 refine o8<|dX bF 15<|?_
 refine o8<|bO (be ao (Ne.symm (nb (au N) hJ.u.size bx)) co)<|o8<|d9 (m:=1) (e:=98) #[vW x.file,vW x.record,vW x.count,.slice Ax x.words.length cx] fun de df dg cs ap=>?_
 have U:=aJ bE ap
 have ct:=mb (R:=bK true) (x:=(dt.mk x.file x.record x.count x.words)) cs rfl ⟨_,rfl,(eG.updl hrd U hJ.hl rfl),cT (by omega),cT (by omega),cT (by omega)⟩
 have ar:=ax hJ.ho U (fun x hx=>(aa (fun e=>(aL (au N) lr hJ.ho) (e▸hx)) aF)) (bK.updl U hJ.hl rfl)
 refine o8<|j9 (xs:=L) (ys:=([(dt.mk x.file x.record x.count x.words)])) (.agg #[vW 0,vW 0,vW 0,nS]) 4 32 ar ct (by simp) bK.ones (fun w' hv=>bK.upd16 hv (dc (dS _ ar (by decide)) aN)) (by(try simp only[bV,aB]);omega) (le (le (le (le hJ.u.size bz.size) bA.size) ao.size) ap.size) fun bG bH dh aw aI=>Dm<|?_
 have bJ:=ut (aH.mono (S':=(ob Ar++[])) ap aC) aI (aq il aC)
 have aO:=aH.blk bJ (bC (aL (au an) lr hJ.ho) aF) bF
 refine o8<|cm aO 15 (mG 20 0 0 0 0 0 0 0 0 0 0 0 nS nS nS (.slice bG ((L++[(dt.mk x.file x.record x.count x.words)]).length) bH) 0 0 0 0 0 nS) fun di cu V=>xA<|bn<|?_
 have aP:=aH.blk (u1 (aH.mono (S':=(ob Ar++(D :: []))) bJ (aq il aC)) V im) (bC (aL (au N) lr hJ.ho) (aa (Ne.symm T) aF)) cq
 refine El aP fun dj cv X=>?_
 have aQ:=ut (aH.mono (S':=(S :: (ob Ar++(D :: [])))) U (ac im aC)) (ut (aH.mono (S':=(ob Ar++(D :: (S :: [])))) aI (aq il aC)) (us V X) (ac im (ac im aC))) (aq il (ac im (ac im aC)))
 exact⟨by trivial,aQ.size,bG,bH,⟨(ut hJ.u aQ (ac im (aq (aU hJ.ho lr) (ac im aC)))),(al.updl (al.upd (al.upd (al.updl hJ.hC U (aa a1 aF) hJ.hl rfl) aI (bC (aL (al.lt bs) lr hJ.ho) aF) (dc (dS _ ar (by decide)) aN)) V (aa bm aF) (av (b6 aO (by decide)) aN)) X (aa a1 aF) aP rfl),(aH.blk aQ (aa br (bC (aL (au bw) lr hJ.ho) (aa bp aF))) hJ.hS),(be X T cu),(ax (ax aw V (fun x hx=>(aa (fun e=>(aL (au an) lr aw) (e▸hx)) aF)) (bK.upd16 V (av (b6 aO (by decide)) aN))) X (fun x hx=>(aa (fun e=>(aL (au N) lr aw) (e▸hx)) aF)) (bK.updl X aP rfl)),cv⟩⟩
 rintro _ cw ⟨rfl,dk,bN,bP,z⟩
 refine⟨_,_,rfl,z.hl,by simp[eO],by trivial,fun dl bQ=>?_⟩
 refine ab z.hC fun aR bR cy=>?_
 have cz:cw.heap[D]? = some (.cells #[vB 20,vB 0,vW 0,vW 0,vW 0,vW 0,vW 0,vW 0,vW 0,vW 0,vW 0,vW 0,nS,nS,nS,.slice bN ((aZ bX (ai.mk (x49.bytesR ((ai.mk b false 0).byteV)) false 0).l.length 0 (ai.mk (x49.bytesR ((ai.mk b false 0).byteV)) false 0) []).2.length) bP,vB 0,vB 0,vB 0,vB 0,vB 0,nS] 45 (0,0)):=z.hm
 refine bn<|tn<|ak 2<|?_
 have a3:=al.updl cy bQ (aa a1 aF) z.hl rfl
 refine ay<|mq (bL a3)<|?_
 have dm:=al.len a3
 refine Pl 2<|ay<|mq (bL a3)<|?_
 have dn:=al.len a3
 refine ay<|m1 (kq (e:=aR.e)) fun dp cA=>?_
 have a4:=aJ bQ cA
 have bS:=u1 z.u a4 im
 have bT:=ud ad (uz g (u1 h i im)) I
 have bU:=al.upd ch (ut (aH.mono (S':=[G]) bd aC) (ut (aH.mono (S':=[Q,G,D]) a2 aC) bS (ac im (ac im (ac im (ac (ni j.size F) aC))))) (ac (nr ae) (ac im (ac (ni o.size K) aC)))) (aa (Ne.symm (nb (au B) Z.size I)) aF) (av (b6 (ub (aJ Z bT) B) (by decide)) aN)
 refine ay<|m2 (bu ((aR.e==0)) (bD aR.e) bU) fun dq cB aW=>?_
 refine ab cB fun bW bY bZ=>?_
 refine aM 1<|ay<|m2 (cH bZ) fun dr c1 aY=>nt<|sq<|ak 1<|ay<|mq (bL c1)<|?_
 have ds:=al.len c1
 refine Pl 1<|cN 2<|?_
 have c2:=u1 aW aY im
 have b0:=u1 (aH.mono (S':=[Q,G,D,S,a9]) bS (ac im (ac im (ac im (ac im aC))))) c2 im
 have b1:=ut (aH.mono (S':=[G]) bv aC) b0 (ac (ni bT.size ae) (ac im (ac (ni (le (le (le (le (le q.size k.size) g.size) h.size) i.size) o.size) K) (ac (ni (le (le (le (le (le (le (le (le q.size k.size) g.size) h.size) i.size) o.size) p.size) d.size) j.size) F) (ac (nr I) aC)))))
 have c3:=ud b8 b1 (le Y.size a7)
 have hs:aj bh 1 20 b=bt (aT.mk 20 0 0 0 0 0 0 0 0 0 0 0 [] [] [] (aZ bX (ai.mk ((((ai.mk b false 0).bytesC 1).need (iN ((ai.mk b false 0).byteV)) 5).bytesR ((ai.mk b false 0).byteV)) false 0).l.length 0 (ai.mk ((((ai.mk b false 0).bytesC 1).need (iN ((ai.mk b false 0).byteV)) 5).bytesR ((ai.mk b false 0).byteV)) false 0) []).2 0 0 0 0 0 []) (((((ai.mk b false 0).bytesC 1).need (iN ((ai.mk b false 0).byteV)) 5).bytesC ((ai.mk b false 0).byteV)).need (((aZ bX (ai.mk ((((ai.mk b false 0).bytesC 1).need (iN ((ai.mk b false 0).byteV)) 5).bytesR ((ai.mk b false 0).byteV)) false 0).l.length 0 (ai.mk ((((ai.mk b false 0).bytesC 1).need (iN ((ai.mk b false 0).byteV)) 5).bytesR ((ai.mk b false 0).byteV)) false 0) []).1).e==0) (bD ((aZ bX (ai.mk ((((ai.mk b false 0).bytesC 1).need (iN ((ai.mk b false 0).byteV)) 5).bytesR ((ai.mk b false 0).byteV)) false 0).l.length 0 (ai.mk ((((ai.mk b false 0).bytesC 1).need (iN ((ai.mk b false 0).byteV)) 5).bytesR ((ai.mk b false 0).byteV)) false 0) []).1).e)):=by
   unfold aj bh dw oB ww l8
   (try simp only[bj,dQ,dU,dW,dT,dR,reduceIte,zV,zM,zE])
   all_goals rfl
 refine cb ((bW.endC.e != 0)) (fun b2=>?_) (fun b2=>?_)
 have b3:=az b2
 refine ak 2<|?_
 refine aG (ub (ud a8 b1 a7) P) mZ fun du cC c4=>ah 1<|aV<|?_
 have c5:=nb (au P) (le (le (le (le (le (le (le (le (le (le (le H.size t.size) r.size) q.size) k.size) g.size) h.size) i.size) o.size) p.size) d.size) j.size) v
 refine Dp (aH.blk (u1 (aH.mono (S':=[Q,G,D,S,a9,b4]) b0 (ac im (ac im (ac im (ac im (ac im aC)))))) c4 im) (aa (Ne.symm (nb (al.lt E) (le (le p.size d.size) j.size) v)) (aa (Ne.symm (nb (au B) (le (le (le (le (le (le (le (le (le (le t.size r.size) q.size) k.size) g.size) h.size) i.size) o.size) p.size) d.size) j.size) v)) (aa (Ne.symm (nb (au M) (le d.size j.size) v)) (aa bl (aa (Ne.symm (nb (al.lt J) (le (le (le (le (le (le (le k.size g.size) h.size) i.size) o.size) p.size) d.size) j.size) v)) (aa (Ne.symm c5) aF)))))) am) fun dv c6=>?_
 refine rx (be c6 c5 cC) (vI bW.endC.e)<|?_
 subst bY bR bc ba
 rw[hs]
 exact bI b3 (ut c3 (us c4 c6) (ac (nr b5) (ac (ni (le (le (le (le (le (le (le (le (le (le (le (le Y.size H.size) t.size) r.size) q.size) k.size) g.size) h.size) i.size) o.size) p.size) d.size) j.size) v) aC)))
 have b3:=aA b2
 refine bo<|sg<|?_
 refine L0<|bO (aH.blk (us a4 c2) (aa T (aa (Ne.symm (nb (al.lt J) (le (le (le (le k.size g.size) h.size) i.size) o.size) K)) aF)) cz)<|?_
 have c7:=ub (ud a8 b1 a7) P
 refine aG c7 (mG 20 0 0 0 0 0 0 0 0 0 0 0 nS nS nS (.slice bN ((aZ bX (ai.mk (x49.bytesR ((ai.mk b false 0).byteV)) false 0).l.length 0 (ai.mk (x49.bytesR ((ai.mk b false 0).byteV)) false 0) []).2.length) bP) 0 0 0 0 0 nS) fun dx cD a5=>ah 1<|rt<|?_
 have c8:=nb (au P) (le (le (le (le (le (le (le (le (le (le (le H.size t.size) r.size) q.size) k.size) g.size) h.size) i.size) o.size) p.size) d.size) j.size) v
 have c9:=aH.blk (u1 (aH.mono (S':=[Q,G,D,S,a9,b4]) b0 (ac im (ac im (ac im (ac im (ac im aC)))))) a5 im) (aa (Ne.symm (nb (al.lt E) (le (le p.size d.size) j.size) v)) (aa (Ne.symm (nb (au B) (le (le (le (le (le (le (le (le (le (le t.size r.size) q.size) k.size) g.size) h.size) i.size) o.size) p.size) d.size) j.size) v)) (aa (Ne.symm (nb (au M) (le d.size j.size) v)) (aa bl (aa (Ne.symm (nb (al.lt J) (le (le (le (le (le (le (le k.size g.size) h.size) i.size) o.size) p.size) d.size) j.size) v)) (aa (Ne.symm c8) aF)))))) am
 refine Dp c9 fun dy a6=>?_
 refine rx (be a6 c8 cD) (vI 0)<|?_
 subst bY bR bc ba
 rw[hs]
 exact bM b3 ⟨_,_,_,_,_,rfl,aS.nil ..,aS.nil ..,aS.nil ..,((ax (ax (ax (ax (ax z.ho a4 (fun x hx=>(aa (fun e=>(aL (au N) lr z.ho) (e▸hx)) aF)) (bK.updl a4 z.hl rfl)) aW (fun x hx=>(aa (fun e=>(aL (al.lt J) (le (le (le (le (le (le (le (le k.size g.size) h.size) i.size) o.size) p.size) d.size) j.size) O.size) z.ho) (e▸hx)) aF)) (bK.upd16 aW (av (al.safe bU _ (by decide)) aN))) aY (fun x hx=>(aa (fun e=>(aL (al.lt J) (le (le (le (le (le (le (le (le k.size g.size) h.size) i.size) o.size) p.size) d.size) j.size) O.size) z.ho) (e▸hx)) aF)) (bK.upd16 aY (av (al.safe bZ _ (by decide)) aN))) a5 (fun x hx=>(aa (fun e=>(aL (au P) (le (le (le (le (le (le (le (le (le (le (le (le H.size t.size) r.size) q.size) k.size) g.size) h.size) i.size) o.size) p.size) d.size) j.size) O.size) z.ho) (e▸hx)) aF)) (bK.upd16 a5 (av (b6 c7 (by decide)) aN))) a6 (fun x hx=>(aa (fun e=>(aL (au am) lr z.ho) (e▸hx)) aF)) (bK.updl a6 c9 rfl))).rd,aS.nil ..,(cY (by omega))⟩ (ut c3 (us a5 a6) (ac (nr b5) (ac (ni (le (le (le (le (le (le (le (le (le (le (le (le Y.size H.size) t.size) r.size) q.size) k.size) g.size) h.size) i.size) o.size) p.size) d.size) j.size) v) aC)))
theorem oY{m:Md}{A:Option Addr}{cp:Nat}{b:List Int}{w:World}{dir:Int}(hd:dir=0∨dir=1)(hsl:aX m w (.slice A b.length cp) b)(hb:b.length≤1048576) :
    Calls Tryz.prog 102 #[vI dir,vB 21,.slice A b.length cp] w (eT (aj bh dir 21 b) w):=by
 have hln:(b.length:Int)≤1048576:=by omega
 have b7:((dir != 0)&&(dir != 1))=false:=by rcases hd with rfl | rfl<;>rfl
 refine Dl 77 Tryz.func102 rfl<|sg<|aK mZ fun b8 cO b9 Q a0=>ah 1<|sq<|ak 3<|cu 3 [18] 21 (((dir != 0)&&(dir != 1))) (fun K ba=>?_) ?_
 refine bl 18 ((dir != 0)) (fun S=>?_) (fun S=>?_)
 have ch:=az S
 exact Pl 3<|ce ba (dir != 1) (by rw[S];rfl)
 have ch:=aA S
 exact Pl 3<|ce ba false (by rw[S];rfl)
 refine nt<|cf b7<|bo<|ak 2<|ay (args:=#[vI dir,vB 21])<|e3 BV fun G cP a9 B H=>Pl 3<|aK #[.nilFunc,.nilFunc] fun cQ cS ci bb t=>aG bb #[.func (.func 218) #[] #[],.func (.func 219) #[] #[]] fun cU cj r=>Pl 1<|nl<|tn<|sq<|aD 2<|c0<|bo<|ak 1<|?_
 have a1:=ud t r ci
 have ad:=aJ H a1
 have bc:=aJ a0 ad
 refine ay<|e3 (et (aX.old hsl bc) (by omega)) fun ae cV I J q=>Pl 1<|aM 1<|ay<|m3 (cl J) fun cW ck k cX=>bq ((ai.mk b false 0).byteV)<|Pl 1<|aM 2<|?_
 have af:=ud q k I
 have bd:=ub af cj
 refine aE bd 0<|Pl 1<|L0<|i8 #[] #[] (args:=#[vI ((ai.mk b false 0).byteV)])<|m1 (ti (n:=(ai.mk b false 0).byteV) (by omega)) fun cZ g=>?_
 refine ay<|m2 (bu ((jv ((ai.mk b false 0).byteV))) 5 (al.old ck g)) fun d0 cn h=>?_
 refine ab cn fun x51 bf bg=>?_
 refine aM 2<|ay<|wH (cR (n:=(ai.mk b false 0).byteV) bg) fun d1 d2 d3 co d4 d5 cq i=>?_
 have d6:=Nat.le_trans (ai.bytesR_le x51 ((ai.mk b false 0).byteV)) (al.len bg)
 refine ab cq fun x60 bi cs=>?_
 refine ay<|e3 (et co (by omega)) fun T d7 ag E o=>Pl 1<|aM 2<|aK mZ fun D d8 M N p=>aG N (mC 21) fun da ct d=>nt<|sq<|ak 2<|?_
 have a2:=ud p d M
 have bm:=aJ o a2
 have bp:=uz g (u1 h (aJ i bm) im)
 refine aE (be bp (nb (au bb) r.size I) bd) 1<|ay<|CJ (nc (gb:=T) (f:=.func 219) (x:=#[]) (y:=#[])) fun cv cw db am an dd br bs j=>nt<|bk<|tP (f:=220) #[vP cv 0,vP cw 0] fun a ha=>?_
 intro de df U dg v F bv ao O P
 have bw:=nb (al.lt E) lr M
 have a3:=nb (al.lt E) (le (le p.size d.size) j.size) F
 have bx:=nb (au B) (le (le (le (le (le (le (le t.size r.size) q.size) k.size) g.size) h.size) i.size) o.size) M
 have bz:=nb (au B) (le (le (le (le (le (le (le (le (le (le t.size r.size) q.size) k.size) g.size) h.size) i.size) o.size) p.size) d.size) j.size) F
 have V:=nb (au N) (le d.size j.size) F
 have a4:=aJ j P
 have bA:=al.old E (aJ a2 a4)
 have bB:=ud af (aJ bp a4) I
 have bE:=ub (aJ a1 bB) B
 have ap:=ub a4 ct
 refine(Cx (c:=21) bA bE ap O (ub P br) (ub P bs) (Ne.symm (nb (au B) (le (le (le (le (le (le t.size r.size) q.size) k.size) g.size) h.size) i.size) ag)) bw a3 bx bz V (Ne.symm (nb (al.lt E) a2.size am)) (Ne.symm (nb (au B) (le (le (le (le (le (le (le (le (le t.size r.size) q.size) k.size) g.size) h.size) i.size) o.size) p.size) d.size) am)) (Ne.symm (nb (au N) d.size am)) (nb (au br) lr F) (Ne.symm (nb (al.lt E) a2.size an)) (Ne.symm (nb (au B) (le (le (le (le (le (le (le (le (le t.size r.size) q.size) k.size) g.size) h.size) i.size) o.size) p.size) d.size) an)) (Ne.symm (nb (au N) d.size an)) (nb (au bs) lr F) ?_).mono ?_
 intro W C s L Ar cr x Ax cx hJ hrd hx1 hx2 hx3 hL
 simp only[eP] at hx1 hx2 hx3
 have hm2:W.heap[D]? = some (.cells #[vB 21,vB 0,vW 0,vW 0,vW 0,vW 0,vW 0,vW 0,vW 0,vW 0,vW 0,vW 0,nS,nS,nS,.slice Ar L.length cr,vB 0,vB 0,vB 0,vB 0,vB 0,nS] 45 (0,0)):=hJ.hm
 refine nC hJ.hl ?_
 refine Em ha 53<|Dj<|o8<|Do #[vW 0,vW 0,vW 0,nS] fun dh di bF cy bG=>o8<|gk cy #[vW x.file,vW x.record,vW x.count,.slice Ax x.words.length cx] fun dj cz bH=>xA<|?_
 have bJ:=ud bG bH bF
 refine Ep (ub bJ hJ.hl) (by trivial) fun dk cA ar=>EH<|Dj<|Dm<|?_
 have bN:=uz bJ ar
 have bP:=be bN V hm2
 refine o8<|dX bP 15<|?_
 refine o8<|bO (be ar (Ne.symm (nb (au O) hJ.u.size bF)) cz)<|o8<|d9 (m:=1) (e:=98) #[vW x.file,vW x.record,vW x.count,.slice Ax x.words.length cx] fun dl dm dn cB aw=>?_
 have X:=aJ bN aw
 have cC:=mb (R:=bK true) (x:=(dt.mk x.file x.record x.count x.words)) cB rfl ⟨_,rfl,(eG.updl hrd X hJ.hl rfl),cT (by omega),cT (by omega),cT (by omega)⟩
 have aI:=ax hJ.ho X (fun x hx=>(aa (fun e=>(aL (au O) lr hJ.ho) (e▸hx)) aF)) (bK.updl X hJ.hl rfl)
 refine o8<|j9 (xs:=L) (ys:=([(dt.mk x.file x.record x.count x.words)])) (.agg #[vW 0,vW 0,vW 0,nS]) 4 32 aI cC (by simp) bK.ones (fun w' hv=>bK.upd16 hv (dc (dS _ aI (by decide)) aN)) (by(try simp only[bV,aB]);omega) (le (le (le (le hJ.u.size bG.size) bH.size) ar.size) aw.size) fun bQ bR dp aO aP=>Dm<|?_
 have bS:=ut (aH.mono (S':=(ob Ar++[])) aw aC) aP (aq il aC)
 have aQ:=aH.blk bS (bC (aL (au ap) lr hJ.ho) aF) bP
 refine o8<|cm aQ 15 (mG 21 0 0 0 0 0 0 0 0 0 0 0 nS nS nS (.slice bQ ((L++[(dt.mk x.file x.record x.count x.words)]).length) bR) 0 0 0 0 0 nS) fun dq cD Y=>xA<|bn<|?_
 have aR:=aH.blk (u1 (aH.mono (S':=(ob Ar++(D :: []))) bS (aq il aC)) Y im) (bC (aL (au O) lr hJ.ho) (aa (Ne.symm V) aF)) cA
 refine El aR fun dr cE Z=>?_
 have aW:=ut (aH.mono (S':=(U :: (ob Ar++(D :: [])))) X (ac im aC)) (ut (aH.mono (S':=(ob Ar++(D :: (U :: [])))) aP (aq il aC)) (us Y Z) (ac im (ac im aC))) (aq il (ac im (ac im aC)))
 exact⟨by trivial,aW.size,bQ,bR,⟨(ut hJ.u aW (ac im (aq (aU hJ.ho lr) (ac im aC)))),(al.updl (al.upd (al.upd (al.updl hJ.hC X (aa a3 aF) hJ.hl rfl) aP (bC (aL (al.lt bA) lr hJ.ho) aF) (dc (dS _ aI (by decide)) aN)) Y (aa bw aF) (av (b6 aQ (by decide)) aN)) Z (aa a3 aF) aR rfl),(aH.blk aW (aa bz (bC (aL (au bE) lr hJ.ho) (aa bx aF))) hJ.hS),(be Z V cD),(ax (ax aO Y (fun x hx=>(aa (fun e=>(aL (au ap) lr aO) (e▸hx)) aF)) (bK.upd16 Y (av (b6 aQ (by decide)) aN))) Z (fun x hx=>(aa (fun e=>(aL (au O) lr aO) (e▸hx)) aF)) (bK.updl Z aR rfl)),cE⟩⟩
 rintro _ cF ⟨rfl,ds,bT,bU,z⟩
 refine⟨_,_,rfl,z.hl,by simp[eO],by trivial,fun dv bW=>?_⟩
 refine ab z.hC fun aY bX cG=>?_
 have cI:cF.heap[D]? = some (.cells #[vB 21,vB 0,vW 0,vW 0,vW 0,vW 0,vW 0,vW 0,vW 0,vW 0,vW 0,vW 0,nS,nS,nS,.slice bT ((aZ du (ai.mk (x51.bytesR ((ai.mk b false 0).byteV)) false 0).l.length 0 (ai.mk (x51.bytesR ((ai.mk b false 0).byteV)) false 0) []).2.length) bU,vB 0,vB 0,vB 0,vB 0,vB 0,nS] 45 (0,0)):=z.hm
 refine bn<|tn<|ak 2<|?_
 have a5:=al.updl cG bW (aa a3 aF) z.hl rfl
 refine ay<|mq (bL a5)<|?_
 have dx:=al.len a5
 refine Pl 2<|ay<|mq (bL a5)<|?_
 have dy:=al.len a5
 refine ay<|m1 (kq (e:=aY.e)) fun dz cJ=>?_
 have a6:=aJ bW cJ
 have bY:=u1 z.u a6 im
 have bZ:=ud af (uz g (u1 h i im)) I
 have c1:=al.upd cs (ut (aH.mono (S':=[G]) bm aC) (ut (aH.mono (S':=[T,G,D]) a4 aC) bY (ac im (ac im (ac im (ac (ni j.size F) aC))))) (ac (nr ag) (ac im (ac (ni o.size M) aC)))) (aa (Ne.symm (nb (au B) a1.size I)) aF) (av (b6 (ub (aJ a1 bZ) B) (by decide)) aN)
 refine ay<|m2 (bu ((aY.e==0)) (bD aY.e) c1) fun dA cK b0=>?_
 refine ab cK fun c2 c3 c4=>?_
 refine aM 1<|ay<|m2 (cH c4) fun dB c5 b1=>nt<|sq<|ak 1<|ay<|mq (bL c5)<|?_
 have dC:=al.len c5
 refine Pl 1<|cN 2<|?_
 have c6:=u1 b0 b1 im
 have b2:=u1 (aH.mono (S':=[T,G,D,U,ae]) bY (ac im (ac im (ac im (ac im aC))))) c6 im
 have b3:=ut (aH.mono (S':=[G]) bB aC) b2 (ac (ni bZ.size ag) (ac im (ac (ni (le (le (le (le (le q.size k.size) g.size) h.size) i.size) o.size) M) (ac (ni (le (le (le (le (le (le (le (le q.size k.size) g.size) h.size) i.size) o.size) p.size) d.size) j.size) F) (ac (nr I) aC)))))
 have c7:=ud bc b3 (le a0.size a9)
 have hs:aj bh dir 21 b=bt (aT.mk 21 0 0 0 0 0 0 0 0 0 0 0 [] [] [] (aZ du (ai.mk ((((ai.mk b false 0).bytesC 1).need (jv ((ai.mk b false 0).byteV)) 5).bytesR ((ai.mk b false 0).byteV)) false 0).l.length 0 (ai.mk ((((ai.mk b false 0).bytesC 1).need (jv ((ai.mk b false 0).byteV)) 5).bytesR ((ai.mk b false 0).byteV)) false 0) []).2 0 0 0 0 0 []) (((((ai.mk b false 0).bytesC 1).need (jv ((ai.mk b false 0).byteV)) 5).bytesC ((ai.mk b false 0).byteV)).need (((aZ du (ai.mk ((((ai.mk b false 0).bytesC 1).need (jv ((ai.mk b false 0).byteV)) 5).bytesR ((ai.mk b false 0).byteV)) false 0).l.length 0 (ai.mk ((((ai.mk b false 0).bytesC 1).need (jv ((ai.mk b false 0).byteV)) 5).bytesR ((ai.mk b false 0).byteV)) false 0) []).1).e==0) (bD ((aZ du (ai.mk ((((ai.mk b false 0).bytesC 1).need (jv ((ai.mk b false 0).byteV)) 5).bytesR ((ai.mk b false 0).byteV)) false 0).l.length 0 (ai.mk ((((ai.mk b false 0).bytesC 1).need (jv ((ai.mk b false 0).byteV)) 5).bytesR ((ai.mk b false 0).byteV)) false 0) []).1).e)):=by
   unfold aj bh dw oB ww l8
   (try simp only[b7,bj,dQ,dU,dW,dT,dR,reduceIte,zV,zM,zE,if_pos hd])
   all_goals rfl
 refine cb ((c2.endC.e != 0)) (fun b4=>?_) (fun b4=>?_)
 have b5:=az b4
 refine ak 2<|?_
 refine aG (ub (ud ad b3 a9) Q) mZ fun dD cL c8=>ah 1<|aV<|?_
 have c9:=nb (au Q) (le (le (le (le (le (le (le (le (le (le (le H.size t.size) r.size) q.size) k.size) g.size) h.size) i.size) o.size) p.size) d.size) j.size) v
 refine Dp (aH.blk (u1 (aH.mono (S':=[T,G,D,U,ae,b8]) b2 (ac im (ac im (ac im (ac im (ac im aC)))))) c8 im) (aa (Ne.symm (nb (al.lt E) (le (le p.size d.size) j.size) v)) (aa (Ne.symm (nb (au B) (le (le (le (le (le (le (le (le (le (le t.size r.size) q.size) k.size) g.size) h.size) i.size) o.size) p.size) d.size) j.size) v)) (aa (Ne.symm (nb (au N) (le d.size j.size) v)) (aa bv (aa (Ne.symm (nb (al.lt J) (le (le (le (le (le (le (le k.size g.size) h.size) i.size) o.size) p.size) d.size) j.size) v)) (aa (Ne.symm c9) aF)))))) ao) fun dE ca=>?_
 refine rx (be ca c9 cL) (vI c2.endC.e)<|?_
 subst c3 bX bi bf
 rw[hs]
 exact bI b5 (ut c7 (us c8 ca) (ac (nr b9) (ac (ni (le (le (le (le (le (le (le (le (le (le (le (le a0.size H.size) t.size) r.size) q.size) k.size) g.size) h.size) i.size) o.size) p.size) d.size) j.size) v) aC)))
 have b5:=aA b4
 refine bo<|sg<|?_
 refine L0<|bO (aH.blk (us a6 c6) (aa V (aa (Ne.symm (nb (al.lt J) (le (le (le (le k.size g.size) h.size) i.size) o.size) M)) aF)) cI)<|?_
 have cc:=ub (ud ad b3 a9) Q
 refine aG cc (mG 21 0 0 0 0 0 0 0 0 0 0 0 nS nS nS (.slice bT ((aZ du (ai.mk (x51.bytesR ((ai.mk b false 0).byteV)) false 0).l.length 0 (ai.mk (x51.bytesR ((ai.mk b false 0).byteV)) false 0) []).2.length) bU) 0 0 0 0 0 nS) fun dF cM a7=>ah 1<|rt<|?_
 have cd:=nb (au Q) (le (le (le (le (le (le (le (le (le (le (le H.size t.size) r.size) q.size) k.size) g.size) h.size) i.size) o.size) p.size) d.size) j.size) v
 have cg:=aH.blk (u1 (aH.mono (S':=[T,G,D,U,ae,b8]) b2 (ac im (ac im (ac im (ac im (ac im aC)))))) a7 im) (aa (Ne.symm (nb (al.lt E) (le (le p.size d.size) j.size) v)) (aa (Ne.symm (nb (au B) (le (le (le (le (le (le (le (le (le (le t.size r.size) q.size) k.size) g.size) h.size) i.size) o.size) p.size) d.size) j.size) v)) (aa (Ne.symm (nb (au N) (le d.size j.size) v)) (aa bv (aa (Ne.symm (nb (al.lt J) (le (le (le (le (le (le (le k.size g.size) h.size) i.size) o.size) p.size) d.size) j.size) v)) (aa (Ne.symm cd) aF)))))) ao
 refine Dp cg fun dG a8=>?_
 refine rx (be a8 cd cM) (vI 0)<|?_
 subst c3 bX bi bf
 rw[hs]
 exact bM b5 ⟨_,_,_,_,_,rfl,aS.nil ..,aS.nil ..,aS.nil ..,((ax (ax (ax (ax (ax z.ho a6 (fun x hx=>(aa (fun e=>(aL (au O) lr z.ho) (e▸hx)) aF)) (bK.updl a6 z.hl rfl)) b0 (fun x hx=>(aa (fun e=>(aL (al.lt J) (le (le (le (le (le (le (le (le k.size g.size) h.size) i.size) o.size) p.size) d.size) j.size) P.size) z.ho) (e▸hx)) aF)) (bK.upd16 b0 (av (al.safe c1 _ (by decide)) aN))) b1 (fun x hx=>(aa (fun e=>(aL (al.lt J) (le (le (le (le (le (le (le (le k.size g.size) h.size) i.size) o.size) p.size) d.size) j.size) P.size) z.ho) (e▸hx)) aF)) (bK.upd16 b1 (av (al.safe c4 _ (by decide)) aN))) a7 (fun x hx=>(aa (fun e=>(aL (au Q) (le (le (le (le (le (le (le (le (le (le (le (le H.size t.size) r.size) q.size) k.size) g.size) h.size) i.size) o.size) p.size) d.size) j.size) P.size) z.ho) (e▸hx)) aF)) (bK.upd16 a7 (av (b6 cc (by decide)) aN))) a8 (fun x hx=>(aa (fun e=>(aL (au ao) lr z.ho) (e▸hx)) aF)) (bK.updl a8 cg rfl))).rd,aS.nil ..,(cY (by omega))⟩ (ut c7 (us a7 a8) (ac (nr b9) (ac (ni (le (le (le (le (le (le (le (le (le (le (le (le a0.size H.size) t.size) r.size) q.size) k.size) g.size) h.size) i.size) o.size) p.size) d.size) j.size) v) aC)))
theorem xa{A:Option Addr}{cp:Nat}{b:List Int}{w:World}{c:Int}(n1:(c==20)=false)(n2:(c==21)=false) : Calls Tryz.prog 102 #[vI 0,vB c,.slice A b.length cp] w (eT (aj bh 0 c b) w):=by
 refine Dl 77 Tryz.func102 rfl<|sg<|aK mZ fun n o d e f=>ah 1<|sq<|aD 6<|c0<|bo<|ak 2<|ay (args:=#[vI 0,vB c])<|m1 (ro (dir:=0) (x:=c) n1 n2) fun p g=>Pl 3<|aK #[.nilFunc,.nilFunc] fun q r h i j=>aG i #[.nilFunc,.nilFunc] fun s t k=>ah 1<|sq<|sq<|go<|ah 2<|c1<|ak 1<|?_
 have a:=aJ g (ud j k h)
 refine aG (ub a e) mZ fun u l m=>ah 1<|aV<|ry l (vI 4)<|?_
 exact cC (by unfold aj bh;(try simp only[bj,dQ,dU,dW,dT,dR,reduceIte,n1,n2])<;>rfl) (d6 (ud f (uz a m) d))
theorem vv{A:Option Addr}{cp:Nat}{b:List Int}{w:World}{c:Int}(n1:(c==20)=false)(n2:(c==21)=false) : Calls Tryz.prog 102 #[vI 1,vB c,.slice A b.length cp] w (eT (aj bh 1 c b) w):=by
 refine Dl 77 Tryz.func102 rfl<|sg<|aK mZ fun n o d e f=>ah 1<|sq<|aD 6<|c0<|bo<|ak 2<|ay (args:=#[vI 1,vB c])<|m1 (ro (dir:=1) (x:=c) n1 n2) fun p g=>Pl 3<|aK #[.nilFunc,.nilFunc] fun q r h i j=>aG i #[.nilFunc,.nilFunc] fun s t k=>ah 1<|sq<|sq<|go<|ah 2<|c1<|ak 1<|?_
 have a:=aJ g (ud j k h)
 refine aG (ub a e) mZ fun u l m=>ah 1<|aV<|ry l (vI 4)<|?_
 exact cC (by unfold aj bh;(try simp only[bj,dQ,dU,dW,dT,dR,reduceIte,n1,n2])<;>rfl) (d6 (ud f (uz a m) d))
theorem wS{A:Option Addr}{cp:Nat}{b:List Int}{w:World}{dir c:Int}(hd:¬ (dir=0∨dir=1)) : Calls Tryz.prog 102 #[vI dir,vB c,.slice A b.length cp] w (eT (aj bh dir c b) w):=by
 have e0:(dir != 0)=true:=by simp;omega
 have e1:(dir != 1)=true:=by simp;omega
 refine Dl 77 Tryz.func102 rfl<|sg<|aK mZ fun g h a d e=>ah 1<|sq<|ak 3<|sy 18 e0<|Pl 3<|nl<|tn<|ct e1<|ak 1<|aG d mZ fun i eP f=>ah 1<|aV<|ry eP (vI 1)<|?_
 exact cC (by unfold aj bh;(try simp only[e0,e1,bj,dQ,dU,dW,dT,dR,reduceIte,hd])<;>rfl) (d6 (ud e f a))
theorem lF{m:Md}{v:Value}{b:List Int}{w:World}{dir c:Int}(hc:B8 c)(h:aX m w v b)(hb:b.length≤1048576) :
    Calls Tryz.prog 102 #[.int .i64 dir,.int .u8 c,v] w (eT (aj bh dir c b) w):=by
  obtain⟨A,cp,rfl,_,_⟩:=h.shape
  by_cases h0:dir=0
  · subst h0
    by_cases a:c=20
    · subst a;exact rQ (Or.inl (rfl:(0:Int)=0)) h hb
    by_cases d:c=21
    · subst d;exact oY (Or.inl rfl) h hb
    exact xa (by simpa using a) (by simpa using d)
  by_cases h1:dir=1
  · subst h1
    by_cases a:c=20
    · subst a;exact qO (Or.inl (rfl:(0:Int)=0)) h hb
    by_cases d:c=21
    · subst d;exact oY (Or.inr rfl) h hb
    exact vv (by simpa using a) (by simpa using d)
  exact wS (by omega)
open Go.RowKit
def e8 (res:Option (List Int))(w:World)(e:Ending)(w':World) : Prop :=
  match res with
  | some l=>∃ v,e = .returned (.tuple #[v,.int .i64 0])∧eB w.heap.size w' v l∧aH [] w w'
  | none=>e = .returned (.tuple #[.slice none 0 0,.int .i64 1])∧aH [] w w'
def bA (parse:Int→Int→List Int→aT × Int)(lay:Int→aT→List Int)(dir:Int)(M:aT) : Option (List Int) :=
  if parse dir M.code (lay dir M)=(M,0) then some (lay dir M) else none
def gE:=aj aO
def iD:=aj aW
def iz:=aj bf
def jl:=aj bP
def gy:=aj bh
open Go.RowKit
def og (M:aT) : Option (List Int):=if !(gQ M.code M.fail) then none else if !(decide (M=hY M.code M.fail)) then none else some [(M.code+128)%256,M.fail]
theorem ph{m:Md}{cs:Array Value}{M:aT}{w:World}(h:aI m w cs.toList M) : Calls Tryz.prog 72 #[.agg cs] w (e8 (og M) w):=by
 have hM:=h
 refine fE h fun Aw kw Ab kb Ad kd Ar kr Ao ko e hw hbt hd hr ho _ _ _ _ _ _ _ _ _ _ q0 q1 q2 q3 q4 q5 q6 q7 q8 q9 X Y Z a0 a1 a2 a3=>?_
 subst e
 refine en 26 Tryz.func72 rfl<|sg<|L0<|da (mG M.code M.fail M.addr M.count M.value M.and_ M.or_ M.addr2 M.sub M.status M.events M.messages (.slice Aw M.words.length kw) (.slice Ab M.bits.length kb) (.slice Ad M.data.length kd) (.slice Ar M.recs.length kr) M.mei M.kind M.level M.more M.next (.slice Ao M.objects.length ko)) fun s a4 a5 k J=>Pl 2<|aM 1<|aE k 0<|Pl 1<|aE k 1<|Pl 1<|aK #[vB 0,vB 0] fun l a6 K L N=>?_
 refine aG L #[vB M.code,vB M.fail] fun a7 O P=>nt<|sq<|sq<|Rg 10 (fun w'=>w'.heap[l]? = some (.cells #[vB M.code,vB M.fail] 145 (0,0))∧w'.heap[s]? = some (.cells (mG M.code M.fail M.addr M.count M.value M.and_ M.or_ M.addr2 M.sub M.status M.events M.messages (.slice Aw M.words.length kw) (.slice Ab M.bits.length kb) (.slice Ad M.data.length kd) (.slice Ar M.recs.length kr) M.mei M.kind M.level M.more M.next (.slice Ao M.objects.length ko)) 45 (0,0))) fun a8 t=>?_
 have u:=ub t O
 have v:=ud N (aJ P t) K
 have z:=ub v k
 refine bp ⟨u,z⟩ fun Q=>Rr 0 Q (.agg #[vB M.code,vB M.fail]) (fun w' hs=>gW (g:=l) (off:=0) [vB M.code,vB M.fail] rfl (by kernel_rfl) hs.1 (by kernel_rfl) (by kernel_rfl) rfl)<|R0 1 rfl<|Oc<|m1 (xg (a:=M.code) (b:=M.fail) (w:=_)) fun a9 n=>?_
 have C:=ub n u
 have D:=ub n z
 refine bp ⟨C,D⟩ fun c=>Rt 2 c<|Rt 3 c<|?_
 have E:=aJ J (aJ v n)
 refine vp 13 ((!(gQ M.code M.fail))) (fun d=>?_) (fun d=>?_)
 have j:(gQ M.code M.fail)=false:=by simpa using d
 exact Ro 4 c<|Ro 5 c<|Ro 6 c<|Ro 7 c<|Ro 8 c<|Rt 9 c<|re<|tn<|c1<|aD 2<|aV<|rr (.tuple #[nS,vI 1])<|cC (y:=none) (by unfold og;(try simp only[d,j,bj,reduceIte])<;>rfl) ⟨rfl,E⟩
 have j:(gQ M.code M.fail)=true:=by simpa using d
 refine Rr 4 c (.agg (mG M.code M.fail M.addr M.count M.value M.and_ M.or_ M.addr2 M.sub M.status M.events M.messages (.slice Aw M.words.length kw) (.slice Ab M.bits.length kb) (.slice Ad M.data.length kd) (.slice Ar M.recs.length kr) M.mei M.kind M.level M.more M.next (.slice Ao M.objects.length ko))) (fun w' hs=>gW (g:=s) (off:=0) [vB M.code,vB M.fail,vW M.addr,vW M.count,vW M.value,vW M.and_,vW M.or_,vW M.addr2,vW M.sub,vW M.status,vW M.events,vW M.messages,.slice Aw M.words.length kw,.slice Ab M.bits.length kb,.slice Ad M.data.length kd,.slice Ar M.recs.length kr,vB M.mei,vB M.kind,vB M.level,vB M.more,vB M.next,.slice Ao M.objects.length ko] rfl (by kernel_rfl) hs.2 (by kernel_rfl) (by kernel_rfl) rfl)<|Rr 5 c (.agg #[vB M.code,vB M.fail]) (fun w' hs=>gW (g:=l) (off:=0) [vB M.code,vB M.fail] rfl (by kernel_rfl) hs.1 (by kernel_rfl) (by kernel_rfl) rfl)<|R0 6 rfl<|Oc<|m1 (na (a:=M.code) (b:=M.fail) (w:=_)) fun aa o=>?_
 have F:=ub o C
 have G:=ub o D
 refine bp ⟨F,G⟩ fun ab=>?_
 have H:=aJ E o
 refine R0 7 rfl<|Oc<|m1 (ii (A:=M) (B:=hY M.code M.fail) (aI.old hM H) (show aI true _ _ _ from⟨_,_,_,_,_,rfl,aS.nil ..,aS.nil ..,aS.nil ..,aS.nil ..,aS.nil ..,⟨(b8 (x:=M.code) (by omega)),(b8 (x:=M.fail) (by omega)),(cT (x:=0) (by omega)),(cT (x:=0) (by omega)),(cT (x:=0) (by omega)),(cT (x:=0) (by omega)),(cT (x:=0) (by omega)),(cT (x:=0) (by omega)),(cT (x:=0) (by omega)),(cT (x:=0) (by omega)),(cT (x:=0) (by omega)),(cT (x:=0) (by omega)),(b8 (x:=0) (by omega)),(b8 (x:=0) (by omega)),(b8 (x:=0) (by omega)),(b8 (x:=0) (by omega)),(b8 (x:=0) (by omega))⟩⟩)) fun ac p=>?_
 have q:=ub p G
 refine bp ⟨(ub p F),q⟩ fun I=>Rt 8 I<|Rt 9 I<|re<|tn<|?_
 have r:=aJ H p
 refine cb ((!(decide (M=hY M.code M.fail)))) (fun f=>?_) (fun f=>?_)
 have i:(decide (M=hY M.code M.fail))=false:=by simpa using f
 have R:=of_decide_eq_false i
 exact aD 2<|aV<|rr (.tuple #[nS,vI 1])<|cC (y:=none) (by unfold og;(try simp only[d,j,f,i,bj,reduceIte])<;>rfl) ⟨rfl,r⟩
 have i:(decide (M=hY M.code M.fail))=true:=by simpa using f
 have R:=of_decide_eq_true i
 refine bo<|ak 1<|aE q 0<|Pl 2<|aE q 1<|L0<|d9 (m:=2) (e:=5) #[vB ((M.code+128)%256),vB M.fail] fun S ad T U V=>?_
 have W:=cL T (xs:=[((M.code+128)%256),M.fail]) (by as_aux_lemma=>kernel_rfl) (ap (by omega) (ap (by omega) aR)) (by(try simp only[List.length_cons,List.length_nil]);omega) U
 refine ah 2<|rt<|rr (.tuple #[.slice (some ⟨S,0,none⟩) 2 2,vI 0])<|?_
 exact cC (y:=(some [((M.code+128)%256),M.fail])) (by unfold og;(try simp only[d,j,f,i,bj,reduceIte])<;>rfl) ⟨_,rfl,(b7.weaken W r.size),(aJ r V)⟩
open Go.RowKit
def cy (dir:Int)(M:aT) : List Int :=
  if (!(dir==0))&&(M.code==3 || M.code==4 || M.code==23) then [(2*(M.words.length:Int))%256]++aP M.words
  else if M.code==6 then aP [M.addr,M.value]
  else if M.code==22 then aP [M.addr,M.and_,M.or_]
  else if M.code==16&&dir==0 then ((aP [M.addr,M.count]++[(2*(M.words.length:Int))%256])++aP M.words)
  else if M.code==23 then ((aP [M.addr,M.count,M.addr2,(M.words.length:Int)%65536]++[(2*(M.words.length:Int))%256])++aP M.words)
  else if M.code==24&&dir==0 then aP [M.addr]
  else if M.code==24 then aP [(2+2*(M.words.length:Int))%65536,(M.words.length:Int)%65536]++aP M.words
  else aP [M.addr,M.count]
theorem yT{m:Md}{cs:Array Value}{M:aT}{w:World}{dir:Int}(h:aI m w cs.toList M)(hf:bi M) : Calls Tryz.prog 149 #[vI dir,.agg cs] w (jQ (cy dir M) w):=by
 refine fE h fun Aw kw Ab kb Ad kd Ar kr Ao ko e hw hbt hd hr ho _ _ _ _ _ _ _ _ _ _ q0 q1 q2 q3 q4 q5 q6 q7 q8 q9 bM bN bO bP bQ bR bU=>?_
 subst e
 have hf1:=hf.words
 have hf2:=hf.bits
 have hf3:=hf.data
 have hf4:=hf.recs
 have hf5:=hf.objects
 refine en 124 Tryz.func149 rfl<|sg<|L0<|da (mG M.code M.fail M.addr M.count M.value M.and_ M.or_ M.addr2 M.sub M.status M.events M.messages (.slice Aw M.words.length kw) (.slice Ab M.bits.length kb) (.slice Ad M.data.length kd) (.slice Ar M.recs.length kr) M.mei M.kind M.level M.more M.next (.slice Ao M.objects.length ko)) fun bW bX bY E d=>Pl 1<|aM 1<|aE E 12<|ah 2<|ak 1<|bq (2*(M.words.length:Int))<|Pl 1<|L0<|d9 (m:=1) (e:=5) #[vB ((2*(M.words.length:Int))%256)] fun bZ c0 ab ac f=>?_
 have u:=cL ab (xs:=[((2*(M.words.length:Int))%256)]) (by as_aux_lemma=>kernel_rfl) (ap (by omega) aR) (by(try simp only[List.length_cons,List.length_nil]);omega) ac
 refine Pl 1<|?_
 have F:=ub f E
 refine aE F 12<|?_
 have G:=aJ d f
 refine ay<|e9 (cZ (xs:=M.words) (eG.old hw G) (by(try simp only[List.length_cons,List.length_nil]);omega)) fun c1 c2 c3 v c4 c5 b=>Pl 2<|cN 3<|sq<|ak 1<|?_
 have a:=ub b F
 refine aE a 0<|ah 1<|bk<|ak 3<|cu 11 [27] 38 (((!(dir==0))&&(((M.code==3)||(M.code==4))||(M.code==23)))) (fun K H=>?_) ?_
 refine bl 27 ((!(dir==0))) (fun o=>?_) (fun o=>?_)
 have A:(dir==0)=false:=by simpa using o
 have ad:=am A
 refine Pl 3<|cu 3 [30] 33 (((M.code==3)||(M.code==4))) (fun K I=>?_) ?_
 refine bl 30 ((M.code==3)) (fun p=>?_) (fun p=>?_)
 have ae:=ag p
 exact Pl 3<|ce I true (by rw[p];rfl)
 have ae:=am p
 exact Pl 3<|ce I (M.code==4) (by rw[p];rfl)
 refine Pl 1<|cu 3 [34] 37 ((((M.code==3)||(M.code==4))||(M.code==23))) (fun K J=>?_) ?_
 refine bl 34 (((M.code==3)||(M.code==4))) (fun q=>?_) (fun q=>?_)
 exact Pl 3<|ce J true (by rw[q];rfl)
 have af:=(bT q).1
 have ai:=(bT q).2
 have c6:=am af
 have c7:=am ai
 exact Pl 3<|ce J (M.code==23) (by rw[q];rfl)
 exact Pl 1<|ce H (((M.code==3)||(M.code==4))||(M.code==23)) (by rw[o];rfl)
 have A:(dir==0)=true:=by simpa using o
 have ad:=ag A
 exact Pl 11<|ce H false (by rw[o];rfl)
 refine ah 1<|?_
 have j:=aJ G b
 refine cb (((!(dir==0))&&(((M.code==3)||(M.code==4))||(M.code==23)))) (fun c=>?_) (fun c=>?_)
 have L:=(bB c).1
 have aj:=(bB c).2
 have N:(dir==0)=false:=by simpa using L
 have q41anp:=am N
 refine ak 2<|?_
 refine L0<|bS b9 (xs:=([((2*(M.words.length:Int))%256)])) (ys:=(aP M.words)) (vB 0) 1 (ax u b (fun x hx=>aF) (fun _ _ h=>h)) (v).rd (by(try simp only[bV,aB]);omega) (le f.size b.size) fun al an c8 ao ar=>ah 1<|rt<|br<|tr<|rr (.slice al (([((2*(M.words.length:Int))%256)]++(aP M.words)).length) an)<|?_
 have hs:cy dir M=([((2*(M.words.length:Int))%256)]++(aP M.words)):=by
   unfold cy
   (try simp only[c,L,N,aj,bj,reduceIte])
   all_goals first | rfl | (simp_all;done)
 rw[hs]
 exact⟨_,rfl,(b7.weaken ao d.size),(ut j ar (aq (aU u d.size) aC))⟩
 refine aD 3<|cb ((M.code==6)) (fun g=>?_) (fun g=>?_)
 have au:=ag g
 refine ak 1<|aE a 2<|Pl 1<|aE a 4<|L0<|d9 (m:=2) (e:=37) #[vW M.addr,vW M.value] fun c9 ca av aw O=>?_
 have az:=eJ av (xs:=[M.addr,M.value]) (by as_aux_lemma=>kernel_rfl) (ap (by omega) (ap (by omega) aR)) (by(try simp only[List.length_cons,List.length_nil]);omega) aw
 refine ay<|e9 (cZ (xs:=[M.addr,M.value]) (az).rd (by(try simp only[List.length_cons,List.length_nil]);omega)) fun aA aG cc aH cd cf aK=>ah 1<|rt<|br<|tr<|rr (.slice aA ((aP ([M.addr,M.value])).length) aG)<|?_
 have hs:cy dir M=(aP ([M.addr,M.value])):=by
   unfold cy
   (try simp only[c,g,bj,reduceIte])
   all_goals first | rfl | (simp_all;done)
 rw[hs]
 exact⟨_,rfl,(b7.weaken aH (le (le (le d.size f.size) b.size) O.size)),(aJ j (aJ O aK))⟩
 have au:=am g
 refine aD 3<|cb ((M.code==22)) (fun i=>?_) (fun i=>?_)
 have aL:=ag i
 refine ak 1<|aE a 2<|Pl 1<|aE a 5<|Pl 1<|aE a 6<|L0<|d9 (m:=3) (e:=37) #[vW M.addr,vW M.and_,vW M.or_] fun cg ch aN aO P=>?_
 have aQ:=eJ aN (xs:=[M.addr,M.and_,M.or_]) (by as_aux_lemma=>kernel_rfl) (ap (by omega) (ap (by omega) (ap (by omega) aR))) (by(try simp only[List.length_cons,List.length_nil]);omega) aO
 refine ay<|e9 (cZ (xs:=[M.addr,M.and_,M.or_]) (aQ).rd (by(try simp only[List.length_cons,List.length_nil]);omega)) fun aS aV ci aW cj ck aX=>ah 1<|rt<|br<|tr<|rr (.slice aS ((aP ([M.addr,M.and_,M.or_])).length) aV)<|?_
 have hs:cy dir M=(aP ([M.addr,M.and_,M.or_])):=by
   unfold cy
   (try simp only[c,g,i,bj,reduceIte])
   all_goals first | rfl | (simp_all;done)
 rw[hs]
 exact⟨_,rfl,(b7.weaken aW (le (le (le d.size f.size) b.size) P.size)),(aJ j (aJ P aX))⟩
 have aL:=am i
 refine ak 3<|cu 2 [65] 67 (((M.code==16)&&(dir==0))) (fun K Q=>?_) ?_
 refine bl 65 ((M.code==16)) (fun r=>?_) (fun r=>?_)
 have aY:=ag r
 exact Pl 2<|ce Q (dir==0) (by rw[r];rfl)
 have aY:=am r
 exact Pl 2<|ce Q false (by rw[r];rfl)
 refine ah 1<|cb (((M.code==16)&&(dir==0))) (fun k=>?_) (fun k=>?_)
 have R:=(bB k).1
 have S:=(bB k).2
 have cl:=ag R
 have cm:=ag S
 refine ak 1<|aE a 2<|Pl 1<|aE a 3<|L0<|d9 (m:=2) (e:=37) #[vW M.addr,vW M.count] fun cn co aZ b0 y=>?_
 have b1:=eJ aZ (xs:=[M.addr,M.count]) (by as_aux_lemma=>kernel_rfl) (ap (by omega) (ap (by omega) aR)) (by(try simp only[List.length_cons,List.length_nil]);omega) b0
 refine ay<|e9 (cZ (xs:=[M.addr,M.count]) (b1).rd (by(try simp only[List.length_cons,List.length_nil]);omega)) fun cp cq cr T ct cv B=>Pl 1<|?_
 have U:=aJ y B
 refine L0<|bS b9 (xs:=(aP ([M.addr,M.count]))) (ys:=([((2*(M.words.length:Int))%256)])) (vB 0) 1 T ((ax u (aJ b U) (fun x hx=>aF) (fun _ _ h=>h))).rd (by(try simp only[bV,aB]);omega) B.size fun cw cx cz V W=>Pl 1<|?_
 have X:=ut U W (aq (aU T y.size) aC)
 refine L0<|bS b9 (xs:=((aP ([M.addr,M.count]))++[((2*(M.words.length:Int))%256)])) (ys:=(aP M.words)) (vB 0) 1 V ((ax v X (fun x hx=>aF) (fun _ _ h=>h))).rd (by(try simp only[bV,aB]);omega) (le B.size W.size) fun b2 b3 cA b4 b5=>ah 1<|rt<|br<|tr<|rr (.slice b2 ((((aP ([M.addr,M.count]))++[((2*(M.words.length:Int))%256)])++(aP M.words)).length) b3)<|?_
 have hs:cy dir M=(((aP ([M.addr,M.count]))++[((2*(M.words.length:Int))%256)])++(aP M.words)):=by
   unfold cy
   (try simp only[c,g,i,k,R,S,bj,reduceIte])
   all_goals first | rfl | (simp_all;done)
 rw[hs]
 exact⟨_,rfl,(b7.weaken b4 (le (le (le d.size f.size) b.size) y.size)),(aJ j (ut X b5 (aq (aU V y.size) aC)))⟩
 refine aD 3<|cb ((M.code==23)) (fun l=>?_) (fun l=>?_)
 have b6:=ag l
 refine ak 1<|aE a 2<|Pl 1<|aE a 3<|Pl 1<|aE a 7<|Pl 2<|L0<|d9 (m:=4) (e:=37) #[vW M.addr,vW M.count,vW M.addr2,vW ((M.words.length:Int)%65536)] fun cB cC b8 ba z=>?_
 have bb:=eJ b8 (xs:=[M.addr,M.count,M.addr2,((M.words.length:Int)%65536)]) (by as_aux_lemma=>kernel_rfl) (ap (by omega) (ap (by omega) (ap (by omega) (ap (by omega) aR)))) (by(try simp only[List.length_cons,List.length_nil]);omega) ba
 refine ay<|e9 (cZ (xs:=[M.addr,M.count,M.addr2,((M.words.length:Int)%65536)]) (bb).rd (by(try simp only[List.length_cons,List.length_nil]);omega)) fun cD cE cF Y cG cH C=>Pl 1<|?_
 have Z:=aJ z C
 refine L0<|bS b9 (xs:=(aP ([M.addr,M.count,M.addr2,((M.words.length:Int)%65536)]))) (ys:=([((2*(M.words.length:Int))%256)])) (vB 0) 1 Y ((ax u (aJ b Z) (fun x hx=>aF) (fun _ _ h=>h))).rd (by(try simp only[bV,aB]);omega) C.size fun cI cJ cK a0 a1=>Pl 1<|?_
 have a2:=ut Z a1 (aq (aU Y z.size) aC)
 refine L0<|bS b9 (xs:=((aP ([M.addr,M.count,M.addr2,((M.words.length:Int)%65536)]))++[((2*(M.words.length:Int))%256)])) (ys:=(aP M.words)) (vB 0) 1 a0 ((ax v a2 (fun x hx=>aF) (fun _ _ h=>h))).rd (by(try simp only[bV,aB]);omega) (le C.size a1.size) fun bc bd cM be bf=>ah 1<|rt<|br<|tr<|rr (.slice bc ((((aP ([M.addr,M.count,M.addr2,((M.words.length:Int)%65536)]))++[((2*(M.words.length:Int))%256)])++(aP M.words)).length) bd)<|?_
 have hs:cy dir M=(((aP ([M.addr,M.count,M.addr2,((M.words.length:Int)%65536)]))++[((2*(M.words.length:Int))%256)])++(aP M.words)):=by
   unfold cy
   (try simp only[c,g,i,k,l,bj,reduceIte])
   all_goals first | rfl | (simp_all;done)
 rw[hs]
 exact⟨_,rfl,(b7.weaken be (le (le (le d.size f.size) b.size) z.size)),(aJ j (ut a2 bf (aq (aU a0 z.size) aC)))⟩
 have b6:=am l
 refine ak 3<|cu 2 [98] 100 (((M.code==24)&&(dir==0))) (fun K a3=>?_) ?_
 refine bl 98 ((M.code==24)) (fun s=>?_) (fun s=>?_)
 have bg:=ag s
 exact Pl 2<|ce a3 (dir==0) (by rw[s];rfl)
 have bg:=am s
 exact Pl 2<|ce a3 false (by rw[s];rfl)
 refine ah 1<|cb (((M.code==24)&&(dir==0))) (fun n=>?_) (fun n=>?_)
 have a4:=(bB n).1
 have a5:=(bB n).2
 have cO:=ag a4
 have cP:=ag a5
 refine ak 1<|aE a 2<|L0<|d9 (m:=1) (e:=37) #[vW M.addr] fun cQ cR bh bm a6=>?_
 have bo:=eJ bh (xs:=[M.addr]) (by as_aux_lemma=>kernel_rfl) (ap (by omega) aR) (by(try simp only[List.length_cons,List.length_nil]);omega) bm
 refine ay<|e9 (cZ (xs:=[M.addr]) (bo).rd (by(try simp only[List.length_cons,List.length_nil]);omega)) fun bp bs cS bt cT cU bu=>ah 1<|rt<|br<|tr<|rr (.slice bp ((aP ([M.addr])).length) bs)<|?_
 have hs:cy dir M=(aP ([M.addr])):=by
   unfold cy
   (try simp only[c,g,i,k,l,n,a4,a5,bj,reduceIte])
   all_goals first | rfl | (simp_all;done)
 rw[hs]
 exact⟨_,rfl,(b7.weaken bt (le (le (le d.size f.size) b.size) a6.size)),(aJ j (aJ a6 bu))⟩
 refine aD 3<|cb ((M.code==24)) (fun t=>?_) (fun t=>?_)
 have bv:=ag t
 refine ak 1<|bq (2*(M.words.length:Int))<|bq (2+(2*(M.words.length:Int)))<|Pl 3<|L0<|d9 (m:=2) (e:=37) #[vW ((2+(2*(M.words.length:Int)))%65536),vW ((M.words.length:Int)%65536)] fun cV cW bw bx D=>?_
 have bz:=eJ bw (xs:=[((2+(2*(M.words.length:Int)))%65536),((M.words.length:Int)%65536)]) (by as_aux_lemma=>kernel_rfl) (ap (by omega) (ap (by omega) aR)) (by(try simp only[List.length_cons,List.length_nil]);omega) bx
 refine ay<|e9 (cZ (xs:=[((2+(2*(M.words.length:Int)))%65536),((M.words.length:Int)%65536)]) (bz).rd (by(try simp only[List.length_cons,List.length_nil]);omega)) fun cX cY d0 a7 d1 d2 a8=>Pl 1<|?_
 have a9:=aJ D a8
 refine L0<|bS b9 (xs:=(aP ([((2+(2*(M.words.length:Int)))%65536),((M.words.length:Int)%65536)]))) (ys:=(aP M.words)) (vB 0) 1 a7 ((ax v a9 (fun x hx=>aF) (fun _ _ h=>h))).rd (by(try simp only[bV,aB]);omega) a8.size fun bA bC d3 bD bE=>ah 1<|rt<|br<|tr<|rr (.slice bA (((aP ([((2+(2*(M.words.length:Int)))%65536),((M.words.length:Int)%65536)]))++(aP M.words)).length) bC)<|?_
 have hs:cy dir M=((aP ([((2+(2*(M.words.length:Int)))%65536),((M.words.length:Int)%65536)]))++(aP M.words)):=by
   unfold cy
   (try simp only[c,g,i,k,l,n,t,bj,reduceIte])
   all_goals first | rfl | (simp_all;done)
 rw[hs]
 exact⟨_,rfl,(b7.weaken bD (le (le (le d.size f.size) b.size) D.size)),(aJ j (ut a9 bE (aq (aU a7 D.size) aC)))⟩
 have bv:=am t
 refine sk<|bn<|tn<|ak 1<|aE a 2<|Pl 1<|aE a 3<|L0<|d9 (m:=2) (e:=37) #[vW M.addr,vW M.count] fun d4 d5 bF bG aa=>?_
 have bH:=eJ bF (xs:=[M.addr,M.count]) (by as_aux_lemma=>kernel_rfl) (ap (by omega) (ap (by omega) aR)) (by(try simp only[List.length_cons,List.length_nil]);omega) bG
 refine ay<|e9 (cZ (xs:=[M.addr,M.count]) (bH).rd (by(try simp only[List.length_cons,List.length_nil]);omega)) fun bI bJ d6 bK d7 d8 bL=>ah 1<|rt<|rr (.slice bI ((aP ([M.addr,M.count])).length) bJ)<|?_
 have hs:cy dir M=(aP ([M.addr,M.count])):=by
   unfold cy
   (try simp only[c,g,i,k,l,n,t,bj,reduceIte])
   all_goals first | rfl | (simp_all;done)
 rw[hs]
 exact⟨_,rfl,(b7.weaken bK (le (le (le d.size f.size) b.size) aa.size)),(aJ j (aJ aa bL))⟩
open Go.RowKit
def ci (dir:Int)(M:aT) : List Int :=
  if M.code==8 then aP [M.sub]++aP M.words
  else if dir==0 then []
  else if M.code==7 then [M.value%256]
  else if M.code==11 then aP [M.status,M.events]
  else if M.code==12 then (([(6+(M.data.length:Int))%256]++aP [M.status,M.events,M.messages])++M.data)
  else [(M.data.length:Int)%256]++M.data
theorem zP{m:Md}{cs:Array Value}{M:aT}{w:World}{dir:Int}(h:aI m w cs.toList M)(hf:bi M) : Calls Tryz.prog 152 #[vI dir,.agg cs] w (jQ (ci dir M) w):=by
 refine fE h fun Aw kw Ab kb Ad kd Ar kr Ao ko e hw hbt hd hr ho _ _ _ _ _ _ _ _ _ _ q0 q1 q2 q3 q4 q5 q6 q7 q8 q9 bU bX bY bZ c0 c1 c2=>?_
 subst e
 have hf1:=hf.words
 have hf2:=hf.bits
 have hf3:=hf.data
 have hf4:=hf.recs
 have hf5:=hf.objects
 refine en 70 Tryz.func152 rfl<|sg<|L0<|da (mG M.code M.fail M.addr M.count M.value M.and_ M.or_ M.addr2 M.sub M.status M.events M.messages (.slice Aw M.words.length kw) (.slice Ab M.bits.length kb) (.slice Ad M.data.length kd) (.slice Ar M.recs.length kr) M.mei M.kind M.level M.more M.next (.slice Ao M.objects.length ko)) fun n c3 c4 b a=>ah 1<|sq<|bk<|ak 1<|aE b 0<|Pl 2<|nl<|tn<|cb ((M.code==8)) (fun d=>?_) (fun d=>?_)
 have an:=ag d
 refine sq<|Rg 9 (fun w'=>w'.cell? ⟨n,8,none⟩=some (vW M.sub)∧w'.cell? ⟨n,12,none⟩=some (.slice Aw M.words.length kw)) fun c5 q=>?_
 have K:=ub q b
 refine bp ⟨(ae K rfl),(ae K rfl)⟩ fun F=>Rt 0 F<|Rl 1 F (fun _ hs=>hs.1)<|Rt 4 F<|Rl 5 F (fun _ hs=>hs.2)<|R0 2 rfl<|d9 (m:=1) (e:=37) #[vW M.sub] fun c6 c7 ao ar r=>?_
 have av:=eJ ao (xs:=[M.sub]) (by as_aux_lemma=>kernel_rfl) (ap (by omega) aR) (by(try simp only[List.length_cons,List.length_nil]);omega) ar
 have L:=ub r K
 refine bp ⟨(ae L rfl),(ae L rfl)⟩ fun c8=>R0 3 rfl<|Oc<|e9 (cZ (xs:=[M.sub]) (av).rd (by(try simp only[List.length_cons,List.length_nil]);omega)) fun aw c9 ca N cc cd O=>?_
 have P:=ub O L
 refine bp ⟨(ae P rfl),(ae P rfl)⟩ fun ce=>?_
 have Y:=aJ a (aJ q (aJ r O))
 refine R0 6 rfl<|Oc<|e9 (cZ (xs:=M.words) (eG.old hw Y) (by(try simp only[List.length_cons,List.length_nil]);omega)) fun cf cg ch az cj ck G=>?_
 have Q:=ub G P
 refine bp ⟨(ae Q rfl),(ae Q rfl)⟩ fun cl=>?_
 refine R0 7 rfl<|bS b9 (xs:=(aP ([M.sub]))) (ys:=(aP M.words)) (vB 0) 1 (ax N G (fun x hx=>aF) (fun _ _ h=>h)) (az).rd (by(try simp only[bV,aB]);omega) (le O.size G.size) fun aA aG cm aK Z=>?_
 have a0:=aH.blk Z (bC (aL (au b) (le q.size r.size) N) aF) Q
 refine bp ⟨(ae a0 rfl),(ae a0 rfl)⟩ fun aM=>Rt 8 aM<|re<|tn<|rt<|br<|tr<|rr (.slice aA (((aP ([M.sub]))++(aP M.words)).length) aG)<|?_
 have hs:ci dir M=((aP ([M.sub]))++(aP M.words)):=by
   unfold ci
   (try simp only[d,bj,reduceIte])
   all_goals first | rfl | (simp_all;done)
 rw[hs]
 exact⟨_,rfl,(b7.weaken aK (le (le a.size q.size) r.size)),(ut Y (ut (aH.mono (S':=(ob aw++[])) G aC) Z (aq il aC)) (aq (aU N (le (le a.size q.size) r.size)) aC))⟩
 have an:=am d
 refine aD 3<|cb ((dir==0)) (fun g=>?_) (fun g=>?_)
 have aN:=ag g
 refine aD 1<|rt<|br<|tr<|rr nS<|?_
 have hs:ci dir M=[]:=by
   unfold ci
   (try simp only[d,g,bj,reduceIte])
   all_goals first | rfl | (simp_all;done)
 rw[hs]
 exact⟨_,rfl,(b7.nil ..),a⟩
 have aN:=am g
 refine ak 1<|aE b 0<|ah 2<|cb ((M.code==7)) (fun i=>?_) (fun i=>?_)
 have aO:=ag i
 refine ak 1<|aE b 4<|Pl 1<|L0<|d9 (m:=1) (e:=5) #[vB (M.value%256)] fun aQ cn aS aV aW=>?_
 have aY:=cL aS (xs:=[(M.value%256)]) (by as_aux_lemma=>kernel_rfl) (ap (by omega) aR) (by(try simp only[List.length_cons,List.length_nil]);omega) aV
 refine ah 1<|rt<|br<|tr<|rr (.slice (some ⟨aQ,0,none⟩) 1 1)<|?_
 have hs:ci dir M=[(M.value%256)]:=by
   unfold ci
   (try simp only[d,g,i,bj,reduceIte])
   all_goals first | rfl | (simp_all;done)
 rw[hs]
 exact⟨_,rfl,(b7.weaken aY a.size),(aJ a aW)⟩
 have aO:=am i
 refine ak 1<|aE b 0<|ah 2<|cb ((M.code==11)) (fun k=>?_) (fun k=>?_)
 have aZ:=ag k
 refine ak 1<|aE b 9<|Pl 1<|aE b 10<|L0<|d9 (m:=2) (e:=37) #[vW M.status,vW M.events] fun co cp b0 b1 a1=>?_
 have b2:=eJ b0 (xs:=[M.status,M.events]) (by as_aux_lemma=>kernel_rfl) (ap (by omega) (ap (by omega) aR)) (by(try simp only[List.length_cons,List.length_nil]);omega) b1
 refine ay<|e9 (cZ (xs:=[M.status,M.events]) (b2).rd (by(try simp only[List.length_cons,List.length_nil]);omega)) fun b3 b4 cq b5 cr ct b6=>ah 1<|rt<|br<|tr<|rr (.slice b3 ((aP ([M.status,M.events])).length) b4)<|?_
 have hs:ci dir M=(aP ([M.status,M.events])):=by
   unfold ci
   (try simp only[d,g,i,k,bj,reduceIte])
   all_goals first | rfl | (simp_all;done)
 rw[hs]
 exact⟨_,rfl,(b7.weaken b5 (le a.size a1.size)),(aJ a (aJ a1 b6))⟩
 have aZ:=am k
 refine ak 1<|aE b 0<|ah 2<|cb ((M.code==12)) (fun l=>?_) (fun l=>?_)
 have b8:=ag l
 refine sq<|Rg 16 (fun w'=>w'.cell? ⟨n,14,none⟩=some (.slice Ad M.data.length kd)∧w'.cell? ⟨n,9,none⟩=some (vW M.status)∧w'.cell? ⟨n,10,none⟩=some (vW M.events)∧w'.cell? ⟨n,11,none⟩=some (vW M.messages)) fun cu c=>?_
 have o:=ub c b
 refine bp ⟨(ae o rfl),(ae o rfl),(ae o rfl),(ae o rfl)⟩ fun f=>Rt 0 f<|Rl 1 f (fun _ hs=>hs.1)<|Rt 2 f<|Rr 3 f (vI (6+(M.data.length:Int))) (fun _ _=>bW (vI (IntKind.i64.wrap (6+(M.data.length:Int)))) (by kernel_rfl) (congrArg (Value.int .i64) (IntWalk.i64_in _ (by omega))))<|Rt 4 f<|Rt 6 f<|Rl 7 f (fun _ hs=>hs.2.1)<|Rt 8 f<|Rl 9 f (fun _ hs=>hs.2.2.1)<|Rt 10 f<|Rl 11 f (fun _ hs=>hs.2.2.2)<|R2 5 12 rfl rfl ?_ ?_
 refine  d9 (m:=1) (e:=5) #[vB ((6+(M.data.length:Int))%256)] fun ba cv bb bc R=>?_
 have S:=cL bb (xs:=[((6+(M.data.length:Int))%256)]) (by as_aux_lemma=>kernel_rfl) (ap (by omega) aR) (by(try simp only[List.length_cons,List.length_nil]);omega) bc
 have s:=ub R o
 refine bp ⟨(ae s rfl),(ae s rfl),(ae s rfl),(ae s rfl)⟩ fun cw=>R0 12 rfl<|d9 (m:=3) (e:=37) #[vW M.status,vW M.events,vW M.messages] fun cx cy bd be T=>?_
 have bf:=eJ bd (xs:=[M.status,M.events,M.messages]) (by as_aux_lemma=>kernel_rfl) (ap (by omega) (ap (by omega) (ap (by omega) aR))) (by(try simp only[List.length_cons,List.length_nil]);omega) be
 have t:=ub T s
 refine bp ⟨(ae t rfl),(ae t rfl),(ae t rfl),(ae t rfl)⟩ fun cz=>R0 13 rfl<|Oc<|e9 (cZ (xs:=[M.status,M.events,M.messages]) (bf).rd (by(try simp only[List.length_cons,List.length_nil]);omega)) fun cA cB cC bg cD cE U=>?_
 have u:=ub U t
 refine bp ⟨(ae u rfl),(ae u rfl),(ae u rfl),(ae u rfl)⟩ fun cF=>?_
 have a2:=aJ T U
 refine R0 14 rfl<|bS b9 (xs:=([((6+(M.data.length:Int))%256)])) (ys:=(aP ([M.status,M.events,M.messages]))) (vB 0) 1 (ax S a2 (fun x hx=>aF) (fun _ _ h=>h)) (bg).rd (by(try simp only[bV,aB]);omega) (le (le R.size T.size) U.size) fun cG cH cI a3 a4=>?_
 have v:=aH.blk a4 (bC (aL (au b) c.size S) aF) u
 refine bp ⟨(ae v rfl),(ae v rfl),(ae v rfl),(ae v rfl)⟩ fun bh=>Rt 15 bh<|re<|tn<|ak 2<|aE v 14<|?_
 have a5:=ut R (ut (aH.mono (S':=(ob (some ⟨ba,0,none⟩)++[])) a2 aC) a4 (aq il aC)) (aq (aU S lr) aC)
 have a6:=aJ a (aJ c a5)
 refine L0<|bS b9 (xs:=([((6+(M.data.length:Int))%256)]++(aP ([M.status,M.events,M.messages])))) (ys:=M.data) (vB 0) 1 a3 (aX.old hd a6) (by(try simp only[bV,aB]);omega) a5.size fun bl bm cJ bo bq=>ah 1<|rt<|br<|tr<|rr (.slice bl ((([((6+(M.data.length:Int))%256)]++(aP ([M.status,M.events,M.messages])))++M.data).length) bm)<|?_
 have hs:ci dir M=(([((6+(M.data.length:Int))%256)]++(aP ([M.status,M.events,M.messages])))++M.data):=by
   unfold ci
   (try simp only[d,g,i,k,l,bj,reduceIte])
   all_goals first | rfl | (simp_all;done)
 rw[hs]
 exact⟨_,rfl,(b7.weaken bo (le a.size c.size)),(ut a6 bq (aq (aU a3 (le a.size c.size)) aC))⟩
 refine  d9 (m:=3) (e:=37) #[vW M.status,vW M.events,vW M.messages] fun cK cM bs bt j=>?_
 have a7:=eJ bs (xs:=[M.status,M.events,M.messages]) (by as_aux_lemma=>kernel_rfl) (ap (by omega) (ap (by omega) (ap (by omega) aR))) (by(try simp only[List.length_cons,List.length_nil]);omega) bt
 have p:=ub j o
 refine bp ⟨(ae p rfl),(ae p rfl),(ae p rfl),(ae p rfl)⟩ fun cN=>?_
 refine R2 5 13 rfl rfl ?_ ?_
 refine  d9 (m:=1) (e:=5) #[vB ((6+(M.data.length:Int))%256)] fun bu cO bv bw H=>?_
 have V:=cL bv (xs:=[((6+(M.data.length:Int))%256)]) (by as_aux_lemma=>kernel_rfl) (ap (by omega) aR) (by(try simp only[List.length_cons,List.length_nil]);omega) bw
 have y:=ub H p
 refine bp ⟨(ae y rfl),(ae y rfl),(ae y rfl),(ae y rfl)⟩ fun cP=>?_
 refine R0 13 rfl<|Oc<|e9 (cZ (xs:=[M.status,M.events,M.messages]) ((ax a7 H (fun x hx=>aF) (fun _ _ h=>h))).rd (by(try simp only[List.length_cons,List.length_nil]);omega)) fun cQ cR cS bx cT cU I=>?_
 have z:=ub I y
 refine bp ⟨(ae z rfl),(ae z rfl),(ae z rfl),(ae z rfl)⟩ fun cV=>?_
 refine R0 14 rfl<|bS b9 (xs:=([((6+(M.data.length:Int))%256)])) (ys:=(aP ([M.status,M.events,M.messages]))) (vB 0) 1 (ax V I (fun x hx=>aF) (fun _ _ h=>h)) (bx).rd (by(try simp only[bV,aB]);omega) (le H.size I.size) fun cW cX cY a8 a9=>?_
 have A:=aH.blk a9 (bC (aL (au b) (le c.size j.size) V) aF) z
 refine bp ⟨(ae A rfl),(ae A rfl),(ae A rfl),(ae A rfl)⟩ fun bz=>Rt 15 bz<|re<|tn<|ak 2<|aE A 14<|?_
 have aa:=ut H (ut (aH.mono (S':=(ob (some ⟨bu,0,none⟩)++[])) I aC) a9 (aq il aC)) (aq (aU V lr) aC)
 have ab:=aJ a (aJ c (aJ j aa))
 refine L0<|bS b9 (xs:=([((6+(M.data.length:Int))%256)]++(aP ([M.status,M.events,M.messages])))) (ys:=M.data) (vB 0) 1 a8 (aX.old hd ab) (by(try simp only[bV,aB]);omega) aa.size fun bA bB d0 bD bE=>ah 1<|rt<|br<|tr<|rr (.slice bA ((([((6+(M.data.length:Int))%256)]++(aP ([M.status,M.events,M.messages])))++M.data).length) bB)<|?_
 have hs:ci dir M=(([((6+(M.data.length:Int))%256)]++(aP ([M.status,M.events,M.messages])))++M.data):=by
   unfold ci
   (try simp only[d,g,i,k,l,bj,reduceIte])
   all_goals first | rfl | (simp_all;done)
 rw[hs]
 exact⟨_,rfl,(b7.weaken bD (le (le a.size c.size) j.size)),(ut ab bE (aq (aU a8 (le (le a.size c.size) j.size)) aC))⟩
 refine  Oc<|e9 (cZ (xs:=[M.status,M.events,M.messages]) (a7).rd (by(try simp only[List.length_cons,List.length_nil]);omega)) fun d1 d2 d3 bF d4 d5 B=>?_
 have C:=ub B p
 refine bp ⟨(ae C rfl),(ae C rfl),(ae C rfl),(ae C rfl)⟩ fun d6=>R0 5 rfl<|d9 (m:=1) (e:=5) #[vB ((6+(M.data.length:Int))%256)] fun d7 d8 bG bH J=>?_
 have W:=cL bG (xs:=[((6+(M.data.length:Int))%256)]) (by as_aux_lemma=>kernel_rfl) (ap (by omega) aR) (by(try simp only[List.length_cons,List.length_nil]);omega) bH
 have D:=ub J C
 refine bp ⟨(ae D rfl),(ae D rfl),(ae D rfl),(ae D rfl)⟩ fun db=>?_
 refine R0 14 rfl<|bS b9 (xs:=([((6+(M.data.length:Int))%256)])) (ys:=(aP ([M.status,M.events,M.messages]))) (vB 0) 1 W ((ax bF J (fun x hx=>aF) (fun _ _ h=>h))).rd (by(try simp only[bV,aB]);omega) J.size fun dc dd de ac ad=>?_
 have E:=aH.blk ad (bC (aL (au b) (le (le c.size j.size) B.size) W) aF) D
 refine bp ⟨(ae E rfl),(ae E rfl),(ae E rfl),(ae E rfl)⟩ fun bI=>Rt 15 bI<|re<|tn<|ak 2<|aE E 14<|?_
 have af:=ut J ad (aq (aU W lr) aC)
 have ai:=aJ a (aJ c (aJ j (aJ B af)))
 refine L0<|bS b9 (xs:=([((6+(M.data.length:Int))%256)]++(aP ([M.status,M.events,M.messages])))) (ys:=M.data) (vB 0) 1 ac (aX.old hd ai) (by(try simp only[bV,aB]);omega) af.size fun bJ bK df bL bM=>ah 1<|rt<|br<|tr<|rr (.slice bJ ((([((6+(M.data.length:Int))%256)]++(aP ([M.status,M.events,M.messages])))++M.data).length) bK)<|?_
 have hs:ci dir M=(([((6+(M.data.length:Int))%256)]++(aP ([M.status,M.events,M.messages])))++M.data):=by
   unfold ci
   (try simp only[d,g,i,k,l,bj,reduceIte])
   all_goals first | rfl | (simp_all;done)
 rw[hs]
 exact⟨_,rfl,(b7.weaken bL (le (le (le a.size c.size) j.size) B.size)),(ut ai bM (aq (aU ac (le (le (le a.size c.size) j.size) B.size)) aC))⟩
 have b8:=am l
 refine sk<|bn<|tn<|ak 1<|aE b 14<|Pl 2<|L0<|d9 (m:=1) (e:=5) #[vB ((M.data.length:Int)%256)] fun dg dh bN bO X=>?_
 have aj:=cL bN (xs:=[((M.data.length:Int)%256)]) (by as_aux_lemma=>kernel_rfl) (ap (by omega) aR) (by(try simp only[List.length_cons,List.length_nil]);omega) bO
 refine Pl 1<|?_
 refine aE (ub X b) 14<|?_
 have al:=aJ a X
 refine L0<|bS b9 (xs:=([((M.data.length:Int)%256)])) (ys:=M.data) (vB 0) 1 aj (aX.old hd al) (by(try simp only[bV,aB]);omega) X.size fun bP bQ di bR bT=>ah 1<|rt<|rr (.slice bP (([((M.data.length:Int)%256)]++M.data).length) bQ)<|?_
 have hs:ci dir M=([((M.data.length:Int)%256)]++M.data):=by
   unfold ci
   (try simp only[d,g,i,k,l,bj,reduceIte])
   all_goals first | rfl | (simp_all;done)
 rw[hs]
 exact⟨_,rfl,(b7.weaken bR a.size),(ut al bT (aq (aU aj a.size) aC))⟩
open Go.RowKit
theorem ex{α:Type}(d:α)(xs:List α)(k:Nat)(h:k<xs.length) : xs.getD k d∈xs:=by
  simp[List.getD_eq_getElem?_getD,List.getElem?_eq_getElem h]
def eZ:List Obj→List Int
  | []=>[]
  | o :: r=>([o.id,(o.value.length:Int)%256]++o.value)++eZ r
theorem pB(xs:List Obj)(k:Nat)(h:k<xs.length) : eZ (xs.drop k)=([(xs.getD k ⟨0,[]⟩).id,((xs.getD k ⟨0,[]⟩).value.length:Int)%256]++(xs.getD k ⟨0,[]⟩).value)++eZ (xs.drop (k+1)):=by
  rw[List.drop_eq_getElem_cons h]
  simp[eZ,List.getD_eq_getElem?_getD,List.getElem?_eq_getElem h]
def dD (dir:Int)(M:aT) : List Int :=
  if M.mei==13 then [M.mei]++M.data
  else if dir==0 then [M.mei,M.kind,M.next]
  else [M.mei,M.kind,M.level,M.more,M.next,(M.objects.length:Int)%256]++eZ M.objects
theorem AO{m:Md}{cs:Array Value}{M:aT}{w:World}{dir:Int}(h:aI m w cs.toList M)(hf:bi M) : Calls Tryz.prog 162 #[vI dir,.agg cs] w (jQ (dD dir M) w):=by
 refine fE h fun Aw kw Ab kb Ad kd Ar kr Ao ko e hw hbt hd hr ho _ _ _ _ _ _ _ _ _ _ q0 q1 q2 q3 q4 q5 q6 q7 q8 q9 aM aN aO aP aQ aS aV=>?_
 subst e
 have hf1:=hf.words
 have hf2:=hf.bits
 have hf3:=hf.data
 have hf4:=hf.recs
 have hf5:=hf.objects
 refine en 64 Tryz.func162 rfl<|sg<|L0<|da (mG M.code M.fail M.addr M.count M.value M.and_ M.or_ M.addr2 M.sub M.status M.events M.messages (.slice Aw M.words.length kw) (.slice Ab M.bits.length kb) (.slice Ad M.data.length kd) (.slice Ar M.recs.length kr) M.mei M.kind M.level M.more M.next (.slice Ao M.objects.length ko)) fun aW s aY a c=>ah 1<|sq<|bk<|ak 1<|aE a 16<|Pl 2<|nl<|tn<|cb ((M.mei==13)) (fun d=>?_) (fun d=>?_)
 have P:=ag d
 refine ak 1<|aE a 16<|L0<|d9 (m:=1) (e:=5) #[vB M.mei] fun aZ b0 Q R t=>?_
 have F:=cL Q (xs:=[M.mei]) (by as_aux_lemma=>kernel_rfl) (ap (by omega) aR) (by(try simp only[List.length_cons,List.length_nil]);omega) R
 refine Pl 1<|?_
 refine aE (ub t a) 14<|?_
 have G:=aJ c t
 refine L0<|bS b9 (xs:=([M.mei])) (ys:=M.data) (vB 0) 1 F (aX.old hd G) (by(try simp only[bV,aB]);omega) t.size fun S T b1 U V=>ah 1<|rt<|br<|tr<|rr (.slice S (([M.mei]++M.data).length) T)<|?_
 have hs:dD dir M=([M.mei]++M.data):=by
   unfold dD
   (try simp only[d,bj,reduceIte])
   all_goals first | rfl | (simp_all;done)
 rw[hs]
 exact⟨_,rfl,(b7.weaken U c.size),(ut G V (aq (aU F c.size) aC))⟩
 have P:=am d
 refine aD 3<|cb ((dir==0)) (fun f=>?_) (fun f=>?_)
 have W:=ag f
 refine ak 1<|aE a 16<|Pl 1<|aE a 17<|Pl 1<|aE a 20<|L0<|d9 (m:=3) (e:=5) #[vB M.mei,vB M.kind,vB M.next] fun X b2 Y Z a0=>?_
 have a1:=cL Y (xs:=[M.mei,M.kind,M.next]) (by as_aux_lemma=>kernel_rfl) (ap (by omega) (ap (by omega) (ap (by omega) aR))) (by(try simp only[List.length_cons,List.length_nil]);omega) Z
 refine ah 1<|rt<|br<|tr<|rr (.slice (some ⟨X,0,none⟩) 3 3)<|?_
 have hs:dD dir M=[M.mei,M.kind,M.next]:=by
   unfold dD
   (try simp only[d,f,bj,reduceIte])
   all_goals first | rfl | (simp_all;done)
 rw[hs]
 exact⟨_,rfl,(b7.weaken a1 c.size),(aJ c a0)⟩
 have W:=am f
 refine sk<|bn<|tn<|ak 1<|aE a 16<|Pl 1<|aE a 17<|Pl 1<|aE a 18<|Pl 1<|aE a 19<|Pl 1<|aE a 20<|Pl 1<|aE a 21<|Pl 2<|L0<|d9 (m:=6) (e:=5) #[vB M.mei,vB M.kind,vB M.level,vB M.more,vB M.next,vB ((M.objects.length:Int)%256)] fun a2 a3 a4 a5 l=>?_
 have a6:=cL a4 (xs:=[M.mei,M.kind,M.level,M.more,M.next,((M.objects.length:Int)%256)]) (by as_aux_lemma=>kernel_rfl) (ap (by omega) (ap (by omega) (ap (by omega) (ap (by omega) (ap (by omega) (ap (by omega) aR)))))) (by(try simp only[List.length_cons,List.length_nil]);omega) a5
 refine ah 1<|sq<|ak 1<|?_
 refine aE (ub l a) 21<|ah 2<|bk<|je (fun x=>[(4,nS),(5,.slice x.2.2.1 x.2.1.length x.2.2.2),(44,.slice Ao M.objects.length ko),(45,vI (M.objects.length:Int)),(46,vI (x.1:Int))]) (fun(x:Nat × List Int × Option Addr × Nat) w'=>aH [] s w'∧a3.heap.size≤w'.heap.size∧eB s.heap.size w' (.slice x.2.2.1 x.2.1.length x.2.2.2) x.2.1∧(x.1≤M.objects.length)∧(x.2.1++eZ (M.objects.drop x.1)=([M.mei,M.kind,M.level,M.more,M.next,((M.objects.length:Int)%256)])++eZ M.objects)∧(x.2.1.length≤16+x.1*1026)∧(6≤x.2.1.length)) (fun x=>M.objects.length-x.1) (0,[M.mei,M.kind,M.level,M.more,M.next,((M.objects.length:Int)%256)],some ⟨a2,0,none⟩,6) ⟨l,lr,a6,(by(try dsimp only);omega),rfl,(by(try dsimp only);(try simp only[List.length_cons,List.length_nil]);omega),(by(try dsimp only);(try simp only[List.length_cons,List.length_nil]);omega)⟩ ?_
 rintro⟨k,L,A,cp⟩ a7 ⟨H,u,a8,a9,aa,ab,ac⟩
 refine ji [(4,nS),(5,.slice A L.length cp),(44,.slice Ao M.objects.length ko),(45,vI (M.objects.length:Int)),(46,vI (k:Int))] ?_
 have g:eB s.heap.size a7 (.slice A L.length cp) L:=a8
 have b3:k≤M.objects.length:=a9
 have b4:L++eZ (M.objects.drop k)=([M.mei,M.kind,M.level,M.more,M.next,((M.objects.length:Int)%256)])++eZ M.objects:=aa
 have b5:L.length≤16+k*1026:=ab
 have b6:6≤L.length:=ac
 have hL:L++eZ (M.objects.drop k)=([M.mei,M.kind,M.level,M.more,M.next,((M.objects.length:Int)%256)])++eZ M.objects:=by assumption
 have hv0:=fun(h:k<M.objects.length)=>hf.objv _ (ex ⟨0,[]⟩ M.objects k h)
 refine aD 1<|sq<|?_
 have v:=aJ c H
 refine cb ((decide ((k:Int)<(M.objects.length:Int)))) (fun n=>?_) (fun n=>?_)
 have ad:=of_decide_eq_true n
 refine bo<|sq<|bk<|sg<|nD (qA.elt ho k (by omega)) fun b8 ba bb bc bd y z af ai aj be al=>L0<|wn 2 M.objects.length k af (by omega)<|?_
 refine L0<|Dx [vB ((M.objects.getD k ⟨0,[]⟩).id),.slice y ((M.objects.getD k ⟨0,[]⟩).value.length) z] (ub v ai) al<|aK #[vB 0,nS] fun I bf J an o=>aG an #[vB ((M.objects.getD k ⟨0,[]⟩).id),.slice y ((M.objects.getD k ⟨0,[]⟩).value.length) z] fun bg ao p=>nt<|Rg 13 (fun w'=>w'.cell? ⟨I,0,none⟩=some (vB ((M.objects.getD k ⟨0,[]⟩).id))∧w'.cell? ⟨I,1,none⟩=some (.slice y ((M.objects.getD k ⟨0,[]⟩).value.length) z)) fun bh i=>?_
 have B:=ub i ao
 refine bp ⟨(ae B rfl),(ae B rfl)⟩ fun b=>Rt 0 b<|Rt 1 b<|Rl 2 b (fun _ hs=>hs.1)<|Rt 3 b<|Rl 4 b (fun _ hs=>hs.2)<|Rt 5 b<|Rt 6 b<|Rt 9 b<|Rl 10 b (fun _ hs=>hs.2)<|R0 7 rfl<|d9 (m:=2) (e:=5) #[vB ((M.objects.getD k ⟨0,[]⟩).id),vB ((((M.objects.getD k ⟨0,[]⟩).value.length:Nat) : Int)%256)] fun bl bm ar au j=>?_
 have av:=cL ar (xs:=[(M.objects.getD k ⟨0,[]⟩).id,((((M.objects.getD k ⟨0,[]⟩).value.length:Nat) : Int)%256)]) (by as_aux_lemma=>kernel_rfl) (ap (by omega) (ap (by omega) aR)) (by(try simp only[List.length_cons,List.length_nil]);omega) au
 have C:=ub j B
 refine bp ⟨(ae C rfl),(ae C rfl)⟩ fun bs=>?_
 have K:=ud o (aJ p (aJ i j)) J
 refine R0 8 rfl<|bS b9 (xs:=L) (ys:=([(M.objects.getD k ⟨0,[]⟩).id,((((M.objects.getD k ⟨0,[]⟩).value.length:Nat) : Int)%256)])) (vB 0) 1 (ax g K (fun x hx=>aF) (fun _ _ h=>h)) (av).rd (by(try simp only[bV,aB]);omega) (le (le (le (le (le l.size u) o.size) p.size) i.size) j.size) fun aw bt bu D q=>?_
 have r:=aH.blk q (bC (fC g lr J) aF) C
 refine bp ⟨(ae r rfl),(ae r rfl)⟩ fun bv=>?_
 have N:=ut (aH.mono (S':=(ob A++[])) K aC) q (aq il aC)
 refine R0 11 rfl<|bS b9 (xs:=(L++[(M.objects.getD k ⟨0,[]⟩).id,((((M.objects.getD k ⟨0,[]⟩).value.length:Nat) : Int)%256)])) (ys:=((M.objects.getD k ⟨0,[]⟩).value)) (vB 0) 1 D (aX.old aj (ut v N (aq (aU g c.size) aC))) (by(try simp only[bV,aB]);omega) (le (le (le (le (le (le l.size u) o.size) p.size) i.size) j.size) q.size) fun ay az bw aA E=>?_
 have O:=aH.blk E (bC (dM r D (by decide)) aF) r
 refine bp ⟨(ae O rfl),(ae O rfl)⟩ fun aL=>Rt 12 aL<|re<|bn<|tn<|go<|bq ((k:Int)+1)<|Pl 1<|nl<|?_
 exact gL ((k+1),((L++[(M.objects.getD k ⟨0,[]⟩).id,((((M.objects.getD k ⟨0,[]⟩).value.length:Nat) : Int)%256)])++(M.objects.getD k ⟨0,[]⟩).value),ay,az) ⟨(ut H (ut (aH.mono (S':=(ob A++(ob aw++[]))) N (aq il aC)) E (aq il aC)) (aq (aU g lr) (aq (aU D lr) aC))),(le (le (le (le (le (le u o.size) p.size) i.size) j.size) q.size) E.size),aA,(by(try dsimp only);omega),(by(try dsimp only);rw[← hL,pB  M.objects k (by omega)];simp only[List.append_assoc]),(by(try dsimp only);have hv:=hf.objv _ (ex ⟨0,[]⟩ M.objects k (by omega));(try simp only[bV,aB]);omega),(by(try dsimp only);(try simp only[bV]);omega)⟩ (by omega)
 have ad:=of_decide_eq_false n
 refine xt<|tx<|tx<|bx<|tn<|aD 2<|rt<|rr (.slice A L.length cp)<|?_
 have hk:k=M.objects.length:=by omega
 rw[hk,List.drop_length] at hL
 have hL2:L=([M.mei,M.kind,M.level,M.more,M.next,((M.objects.length:Int)%256)])++eZ M.objects:=by rw[← hL];simp[eZ]
 have hs:dD dir M=L:=by
   rw[hL2]
   unfold dD
   (try simp only[d,f,n,bj,reduceIte])
   all_goals rfl
 rw[hs]
 exact⟨_,rfl,(b7.weaken g c.size),v⟩
open Go.RowKit
def fZ (dir code:Int)(r:dt) : List Int:=(if code==20&&dir==1 then [(1+2*(r.words.length:Int))%256,6] else [6]++aP [r.file,r.record,r.count])++aP r.words
def cP (dir code:Int) : List dt→List Int
  | []=>[]
  | r :: rs=>fZ dir code r++cP dir code rs
theorem gZ(dir code:Int)(xs:List dt)(k:Nat)(h:k<xs.length) : cP dir code (xs.drop k)=fZ dir code (xs.getD k ⟨0,0,0,[]⟩)++cP dir code (xs.drop (k+1)):=by
  rw[List.drop_eq_getElem_cons h]
  simp[cP,List.getD_eq_getElem?_getD,List.getElem?_eq_getElem h]
def dn (dir:Int)(M:aT) : List Int:=([0]++cP dir M.code M.recs).set 0 (((([0]++cP dir M.code M.recs).length:Int)-1)%256)
theorem wI{m:Md}{cs:Array Value}{M:aT}{w:World}{dir:Int}(h:aI m w cs.toList M)(hf:bi M) : Calls Tryz.prog 159 #[vI dir,.agg cs] w (jQ (dn dir M) w):=by
 refine fE h fun Aw kw Ab kb Ad kd Ar kr Ao ko e hw hbt hd hr ho _ _ _ _ _ _ _ _ _ _ q0 q1 q2 q3 q4 q5 q6 q7 q8 q9 cy cz cA cB cC cD cE=>?_
 subst e
 have hf1:=hf.words
 have hf2:=hf.bits
 have hf3:=hf.data
 have hf4:=hf.recs
 have hf5:=hf.objects
 refine en 58 Tryz.func159 rfl<|sg<|L0<|da (mG M.code M.fail M.addr M.count M.value M.and_ M.or_ M.addr2 M.sub M.status M.events M.messages (.slice Aw M.words.length kw) (.slice Ab M.bits.length kb) (.slice Ad M.data.length kd) (.slice Ar M.recs.length kr) M.mei M.kind M.level M.more M.next (.slice Ao M.objects.length ko)) fun au ac cF av l=>Pl 1<|ng<|L0<|d9 (m:=1) (e:=5) #[vB 0] fun bt bu bv bw g=>?_
 have bz:=cL bv (xs:=[0]) (by as_aux_lemma=>kernel_rfl) (ap (by omega) aR) (by(try simp only[List.length_cons,List.length_nil]);omega) bw
 refine ah 1<|sq<|ak 1<|?_
 refine aE (ub g av) 15<|ah 2<|bk<|je (fun x=>[(0,vI dir),(3,vP au 0),(4,nS),(5,.slice x.2.2.1 x.2.1.length x.2.2.2),(10,.slice Ar M.recs.length kr),(11,vI (M.recs.length:Int)),(12,vI (x.1:Int))]) (fun(x:Nat × List Int × Option Addr × Nat) w'=>aH [] ac w'∧bu.heap.size≤w'.heap.size∧eB ac.heap.size w' (.slice x.2.2.1 x.2.1.length x.2.2.2) x.2.1∧(x.1≤M.recs.length)∧(x.2.1++cP dir M.code (M.recs.drop x.1)=([0])++cP dir M.code M.recs)∧(x.2.1.length≤16+x.1*2060)∧(1≤x.2.1.length)) (fun x=>M.recs.length-x.1) (0,[0],some ⟨bt,0,none⟩,1) ⟨g,lr,bz,(by(try dsimp only);omega),rfl,(by(try dsimp only);(try simp only[List.length_cons,List.length_nil]);omega),(by(try dsimp only);(try simp only[List.length_cons,List.length_nil]);omega)⟩ ?_
 rintro⟨k,L,A,cp⟩ bA ⟨aw,f,bD,bE,bF,bG,bH⟩
 refine ji [(0,vI dir),(3,vP au 0),(4,nS),(5,.slice A L.length cp),(10,.slice Ar M.recs.length kr),(11,vI (M.recs.length:Int)),(12,vI (k:Int))] ?_
 have a:eB ac.heap.size bA (.slice A L.length cp) L:=bD
 have cG:k≤M.recs.length:=bE
 have cH:L++cP dir M.code (M.recs.drop k)=([0])++cP dir M.code M.recs:=bF
 have cI:L.length≤16+k*2060:=bG
 have cJ:1≤L.length:=bH
 have hL:L++cP dir M.code (M.recs.drop k)=([0])++cP dir M.code M.recs:=by assumption
 have hv0:=fun(h:k<M.recs.length)=>hf.recw _ (ex ⟨0,0,0,[]⟩ M.recs k h)
 refine aD 1<|sq<|?_
 have ad:=aJ l aw
 refine cb ((decide ((k:Int)<(M.recs.length:Int)))) (fun n=>?_) (fun n=>?_)
 have bI:=of_decide_eq_true n
 refine bo<|sq<|bk<|sg<|nD (oA.elt hr k (by omega)) fun cK cM cN cO cQ az aA bJ bK Q cR bL=>L0<|wn 4 M.recs.length k bJ (by omega)<|?_
 refine L0<|Dx [vW ((M.recs.getD k ⟨0,0,0,[]⟩).file),vW ((M.recs.getD k ⟨0,0,0,[]⟩).record),vW ((M.recs.getD k ⟨0,0,0,[]⟩).count),.slice az ((M.recs.getD k ⟨0,0,0,[]⟩).words.length) aA] (ub ad bK) bL<|aK #[vW 0,vW 0,vW 0,nS] fun af cS B bM b=>aG bM #[vW ((M.recs.getD k ⟨0,0,0,[]⟩).file),vW ((M.recs.getD k ⟨0,0,0,[]⟩).record),vW ((M.recs.getD k ⟨0,0,0,[]⟩).count),.slice az ((M.recs.getD k ⟨0,0,0,[]⟩).words.length) aA] fun cT ai c=>nt<|sq<|bk<|ak 1<|?_
 have s:=ud b c B
 have C:=aJ aw s
 refine aE (ub C av) 0<|Pl 2<|cu 3 [32] 35 (((M.code==20)&&(dir==1))) (fun K aL=>?_) ?_
 refine bl 32 ((M.code==20)) (fun D=>?_) (fun D=>?_)
 have bN:=ag D
 exact Pl 3<|ce aL (dir==1) (by rw[D];rfl)
 have bN:=am D
 exact Pl 3<|ce aL false (by rw[D];rfl)
 refine ah 1<|?_
 have R:=aJ ad s
 refine cb (((M.code==20)&&(dir==1))) (fun o=>?_) (fun o=>?_)
 have aM:=(bB o).1
 have aN:=(bB o).2
 have cU:=ag aM
 have cV:=ag aN
 refine go<|Pl 2<|aE ai 3<|Pl 1<|bq (2*(((M.recs.getD k ⟨0,0,0,[]⟩).words.length:Nat) : Int))<|bq (1+(2*(((M.recs.getD k ⟨0,0,0,[]⟩).words.length:Nat) : Int)))<|Pl 1<|L0<|d9 (m:=2) (e:=5) #[vB ((1+(2*(((M.recs.getD k ⟨0,0,0,[]⟩).words.length:Nat) : Int)))%256),vB 6] fun cW cX bO bP E=>?_
 have bQ:=cL bO (xs:=[((1+(2*(((M.recs.getD k ⟨0,0,0,[]⟩).words.length:Nat) : Int)))%256),6]) (by as_aux_lemma=>kernel_rfl) (ap (by omega) (ap (by omega) aR)) (by(try simp only[List.length_cons,List.length_nil]);omega) bP
 refine L0<|bS b9 (xs:=L) (ys:=([((1+(2*(((M.recs.getD k ⟨0,0,0,[]⟩).words.length:Nat) : Int)))%256),6])) (vB 0) 1 (ax a (aJ s E) (fun x hx=>aF) (fun _ _ h=>h)) (bQ).rd (by(try simp only[bV,aB]);omega) (le (le (le (le g.size f) b.size) c.size) E.size) fun aO cY d0 aQ aj=>Pl 1<|nl<|bn<|tn<|go<|Pl 2<|?_
 have al:=ut (aH.mono (S':=(ob A++[])) E aC) aj (aq il aC)
 refine aE (aH.blk al (bC (fC a lr B) aF) ai) 3<|?_
 refine ay<|e9 (cZ (xs:=(M.recs.getD k ⟨0,0,0,[]⟩).words) (eG.old Q (ut R al (aq (aU a l.size) aC))) (by(try simp only[List.length_cons,List.length_nil]);omega)) fun d1 d2 d3 bR d4 d5 S=>?_
 refine L0<|bS b9 (xs:=(L++[((1+(2*(((M.recs.getD k ⟨0,0,0,[]⟩).words.length:Nat) : Int)))%256),6])) (ys:=(aP ((M.recs.getD k ⟨0,0,0,[]⟩).words))) (vB 0) 1 (ax aQ S (fun x hx=>aF) (fun _ _ h=>h)) (bR).rd (by(try simp only[bV,aB]);omega) (le (le (le (le (le (le g.size f) b.size) c.size) E.size) aj.size) S.size) fun bT bU d6 bW aS=>Pl 1<|nl<|bn<|tn<|go<|bq ((k:Int)+1)<|Pl 1<|nl<|?_
 exact gL ((k+1),((L++[((1+(2*(((M.recs.getD k ⟨0,0,0,[]⟩).words.length:Nat) : Int)))%256),6])++(aP ((M.recs.getD k ⟨0,0,0,[]⟩).words))),bT,bU) ⟨(ut C (ut (aH.mono (S':=(ob A++(ob aO++[]))) al (aq il aC)) (ut (aH.mono (S':=(ob aO++[])) S aC) aS (aq il aC)) (aq il aC)) (aq (aU a lr) (aq (aU aQ lr) aC))),(le (le (le (le (le (le f b.size) c.size) E.size) aj.size) S.size) aS.size),bW,(by(try dsimp only);omega),(by(try dsimp only);rw[← hL,gZ dir M.code M.recs k (by omega)];simp only[fZ,n,o,aM,aN,bj,List.append_assoc]),(by(try dsimp only);have hv:=hf.recw _ (ex ⟨0,0,0,[]⟩ M.recs k (by omega));(try simp only[bV,aB]);omega),(by(try dsimp only);(try simp only[bV]);omega)⟩ (by omega)
 refine Rg 13 (fun w'=>w'.cell? ⟨af,0,none⟩=some (vW ((M.recs.getD k ⟨0,0,0,[]⟩).file))∧w'.cell? ⟨af,1,none⟩=some (vW ((M.recs.getD k ⟨0,0,0,[]⟩).record))∧w'.cell? ⟨af,2,none⟩=some (vW ((M.recs.getD k ⟨0,0,0,[]⟩).count))) fun d7 d=>?_
 have F:=ub d ai
 refine bp ⟨(ae F rfl),(ae F rfl),(ae F rfl)⟩ fun p=>Rt 0 p<|Rt 3 p<|Rl 4 p (fun _ hs=>hs.1)<|Rt 5 p<|Rl 6 p (fun _ hs=>hs.2.1)<|Rt 7 p<|Rl 8 p (fun _ hs=>hs.2.2)<|R2 1 9 rfl rfl ?_ ?_
 refine  d9 (m:=1) (e:=5) #[vB 6] fun d8 db bX bY i=>?_
 have aV:=cL bX (xs:=[6]) (by as_aux_lemma=>kernel_rfl) (ap (by omega) aR) (by(try simp only[List.length_cons,List.length_nil]);omega) bY
 have G:=ub i F
 refine bp ⟨(ae G rfl),(ae G rfl),(ae G rfl)⟩ fun dc=>?_
 refine R2 2 9 rfl rfl ?_ ?_
 have aW:=aJ d i
 refine  bS b9 (xs:=L) (ys:=([6])) (vB 0) 1 (ax a (aJ s aW) (fun x hx=>aF) (fun _ _ h=>h)) (aV).rd (by(try simp only[bV,aB]);omega) (le (le (le (le (le g.size f) b.size) c.size) d.size) i.size) fun T dd de an H=>?_
 have U:=aH.blk H (bC (fC a lr B) aF) G
 refine bp ⟨(ae U rfl),(ae U rfl),(ae U rfl)⟩ fun df=>R0 9 rfl<|d9 (m:=3) (e:=37) #[vW ((M.recs.getD k ⟨0,0,0,[]⟩).file),vW ((M.recs.getD k ⟨0,0,0,[]⟩).record),vW ((M.recs.getD k ⟨0,0,0,[]⟩).count)] fun dg dh bZ c0 I=>?_
 have c1:=eJ bZ (xs:=[(M.recs.getD k ⟨0,0,0,[]⟩).file,(M.recs.getD k ⟨0,0,0,[]⟩).record,(M.recs.getD k ⟨0,0,0,[]⟩).count]) (by as_aux_lemma=>kernel_rfl) (ap (by omega) (ap (by omega) (ap (by omega) aR))) (by(try simp only[List.length_cons,List.length_nil]);omega) c0
 have V:=ub I U
 refine bp ⟨(ae V rfl),(ae V rfl),(ae V rfl)⟩ fun di=>R0 10 rfl<|Oc<|e9 (cZ (xs:=[(M.recs.getD k ⟨0,0,0,[]⟩).file,(M.recs.getD k ⟨0,0,0,[]⟩).record,(M.recs.getD k ⟨0,0,0,[]⟩).count]) (c1).rd (by(try simp only[List.length_cons,List.length_nil]);omega)) fun dj dk dl c2 dm dp J=>?_
 have N:=ub J V
 refine bp ⟨(ae N rfl),(ae N rfl),(ae N rfl)⟩ fun dq=>?_
 have aY:=aJ I J
 have aZ:=ax an aY (fun x hx=>aF) (fun _ _ h=>h)
 refine R0 11 rfl<|bS b9 (xs:=(L++[6])) (ys:=(aP ([(M.recs.getD k ⟨0,0,0,[]⟩).file,(M.recs.getD k ⟨0,0,0,[]⟩).record,(M.recs.getD k ⟨0,0,0,[]⟩).count]))) (vB 0) 1 aZ (c2).rd (by(try simp only[bV,aB]);omega) (le (le (le (le (le (le (le (le g.size f) b.size) c.size) d.size) i.size) H.size) I.size) J.size) fun b0 dr ds b1 W=>?_
 have X:=aH.blk W (bC (dM N aZ (by decide)) aF) N
 refine bp ⟨(ae X rfl),(ae X rfl),(ae X rfl)⟩ fun c3=>Rt 12 c3<|re<|bn<|tn<|go<|Pl 2<|aE X 3<|?_
 have b2:=ut (aH.mono (S':=(ob A++(ob T++[]))) aW aC) (ut (aH.mono (S':=(ob A++(ob T++[]))) H (aq il aC)) (ut (aH.mono (S':=(ob T++[])) aY aC) W (aq il aC)) (aq il aC)) (aq il (aq il aC))
 refine ay<|e9 (cZ (xs:=(M.recs.getD k ⟨0,0,0,[]⟩).words) (eG.old Q (ut R b2 (aq (aU a l.size) (aq (aU an l.size) aC)))) (by(try simp only[List.length_cons,List.length_nil]);omega)) fun dt du dv c4 dw dx Y=>?_
 refine L0<|bS b9 (xs:=((L++[6])++(aP ([(M.recs.getD k ⟨0,0,0,[]⟩).file,(M.recs.getD k ⟨0,0,0,[]⟩).record,(M.recs.getD k ⟨0,0,0,[]⟩).count])))) (ys:=(aP ((M.recs.getD k ⟨0,0,0,[]⟩).words))) (vB 0) 1 (ax b1 Y (fun x hx=>aF) (fun _ _ h=>h)) (c4).rd (by(try simp only[bV,aB]);omega) (le (le (le (le (le (le (le (le (le (le g.size f) b.size) c.size) d.size) i.size) H.size) I.size) J.size) W.size) Y.size) fun c5 c6 dy c7 b3=>Pl 1<|nl<|bn<|tn<|go<|bq ((k:Int)+1)<|Pl 1<|nl<|?_
 exact gL ((k+1),(((L++[6])++(aP ([(M.recs.getD k ⟨0,0,0,[]⟩).file,(M.recs.getD k ⟨0,0,0,[]⟩).record,(M.recs.getD k ⟨0,0,0,[]⟩).count])))++(aP ((M.recs.getD k ⟨0,0,0,[]⟩).words))),c5,c6) ⟨(ut C (ut (aH.mono (S':=(ob A++(ob T++(ob b0++[])))) b2 (aq il (aq il aC))) (ut (aH.mono (S':=(ob b0++[])) Y aC) b3 (aq il aC)) (aq il aC)) (aq (aU a lr) (aq (aU an lr) (aq (aU b1 lr) aC)))),(le (le (le (le (le (le (le (le (le (le f b.size) c.size) d.size) i.size) H.size) I.size) J.size) W.size) Y.size) b3.size),c7,(by(try dsimp only);omega),(by(try dsimp only);rw[← hL,gZ dir M.code M.recs k (by omega)];simp only[fZ,n,o,bj,List.append_assoc]),(by(try dsimp only);have hv:=hf.recw _ (ex ⟨0,0,0,[]⟩ M.recs k (by omega));(try simp only[bV,aB]);omega),(by(try dsimp only);(try simp only[bV]);omega)⟩ (by omega)
 refine  d9 (m:=3) (e:=37) #[vW ((M.recs.getD k ⟨0,0,0,[]⟩).file),vW ((M.recs.getD k ⟨0,0,0,[]⟩).record),vW ((M.recs.getD k ⟨0,0,0,[]⟩).count)] fun dz dA c8 c9 q=>?_
 have b4:=eJ c8 (xs:=[(M.recs.getD k ⟨0,0,0,[]⟩).file,(M.recs.getD k ⟨0,0,0,[]⟩).record,(M.recs.getD k ⟨0,0,0,[]⟩).count]) (by as_aux_lemma=>kernel_rfl) (ap (by omega) (ap (by omega) (ap (by omega) aR))) (by(try simp only[List.length_cons,List.length_nil]);omega) c9
 have Z:=ub q G
 refine bp ⟨(ae Z rfl),(ae Z rfl),(ae Z rfl)⟩ fun dB=>?_
 have b5:=aJ d (aJ i q)
 refine R0 2 rfl<|bS b9 (xs:=L) (ys:=([6])) (vB 0) 1 (ax a (aJ s b5) (fun x hx=>aF) (fun _ _ h=>h)) ((ax aV q (fun x hx=>aF) (fun _ _ h=>h))).rd (by(try simp only[bV,aB]);omega) (le (le (le (le (le (le g.size f) b.size) c.size) d.size) i.size) q.size) fun a0 dC dD ao t=>?_
 have a1:=aH.blk t (bC (fC a lr B) aF) Z
 refine bp ⟨(ae a1 rfl),(ae a1 rfl),(ae a1 rfl)⟩ fun dE=>?_
 refine R0 10 rfl<|Oc<|e9 (cZ (xs:=[(M.recs.getD k ⟨0,0,0,[]⟩).file,(M.recs.getD k ⟨0,0,0,[]⟩).record,(M.recs.getD k ⟨0,0,0,[]⟩).count]) ((ax b4 t (fun x hx=>(bC ((km b4 a (le (le (le b.size c.size) d.size) i.size)) x hx) aF)) (fun _ _ h=>h))).rd (by(try simp only[List.length_cons,List.length_nil]);omega)) fun dF dG dH ca dI dJ u=>?_
 have O:=ub u a1
 refine bp ⟨(ae O rfl),(ae O rfl),(ae O rfl)⟩ fun dK=>?_
 have b6:=ax ao u (fun x hx=>aF) (fun _ _ h=>h)
 refine R0 11 rfl<|bS b9 (xs:=(L++[6])) (ys:=(aP ([(M.recs.getD k ⟨0,0,0,[]⟩).file,(M.recs.getD k ⟨0,0,0,[]⟩).record,(M.recs.getD k ⟨0,0,0,[]⟩).count]))) (vB 0) 1 b6 (ca).rd (by(try simp only[bV,aB]);omega) (le (le (le (le (le (le (le (le g.size f) b.size) c.size) d.size) i.size) q.size) t.size) u.size) fun b8 dL dN ba a2=>?_
 have a3:=aH.blk a2 (bC (dM O b6 (by decide)) aF) O
 refine bp ⟨(ae a3 rfl),(ae a3 rfl),(ae a3 rfl)⟩ fun cc=>Rt 12 cc<|re<|bn<|tn<|go<|Pl 2<|aE a3 3<|?_
 have bb:=ut (aH.mono (S':=(ob A++(ob a0++[]))) b5 aC) (ut (aH.mono (S':=(ob A++(ob a0++[]))) t (aq il aC)) (ut (aH.mono (S':=(ob a0++[])) u aC) a2 (aq il aC)) (aq il aC)) (aq il (aq il aC))
 refine ay<|e9 (cZ (xs:=(M.recs.getD k ⟨0,0,0,[]⟩).words) (eG.old Q (ut R bb (aq (aU a l.size) (aq (aU ao l.size) aC)))) (by(try simp only[List.length_cons,List.length_nil]);omega)) fun dO dP dQ cd dR dS a4=>?_
 refine L0<|bS b9 (xs:=((L++[6])++(aP ([(M.recs.getD k ⟨0,0,0,[]⟩).file,(M.recs.getD k ⟨0,0,0,[]⟩).record,(M.recs.getD k ⟨0,0,0,[]⟩).count])))) (ys:=(aP ((M.recs.getD k ⟨0,0,0,[]⟩).words))) (vB 0) 1 (ax ba a4 (fun x hx=>aF) (fun _ _ h=>h)) (cd).rd (by(try simp only[bV,aB]);omega) (le (le (le (le (le (le (le (le (le (le g.size f) b.size) c.size) d.size) i.size) q.size) t.size) u.size) a2.size) a4.size) fun cf cg dT ch bc=>Pl 1<|nl<|bn<|tn<|go<|bq ((k:Int)+1)<|Pl 1<|nl<|?_
 exact gL ((k+1),(((L++[6])++(aP ([(M.recs.getD k ⟨0,0,0,[]⟩).file,(M.recs.getD k ⟨0,0,0,[]⟩).record,(M.recs.getD k ⟨0,0,0,[]⟩).count])))++(aP ((M.recs.getD k ⟨0,0,0,[]⟩).words))),cf,cg) ⟨(ut C (ut (aH.mono (S':=(ob A++(ob a0++(ob b8++[])))) bb (aq il (aq il aC))) (ut (aH.mono (S':=(ob b8++[])) a4 aC) bc (aq il aC)) (aq il aC)) (aq (aU a lr) (aq (aU ao lr) (aq (aU ba lr) aC)))),(le (le (le (le (le (le (le (le (le (le f b.size) c.size) d.size) i.size) q.size) t.size) u.size) a2.size) a4.size) bc.size),ch,(by(try dsimp only);omega),(by(try dsimp only);rw[← hL,gZ dir M.code M.recs k (by omega)];simp only[fZ,n,o,bj,List.append_assoc]),(by(try dsimp only);have hv:=hf.recw _ (ex ⟨0,0,0,[]⟩ M.recs k (by omega));(try simp only[bV,aB]);omega),(by(try dsimp only);(try simp only[bV]);omega)⟩ (by omega)
 refine  d9 (m:=3) (e:=37) #[vW ((M.recs.getD k ⟨0,0,0,[]⟩).file),vW ((M.recs.getD k ⟨0,0,0,[]⟩).record),vW ((M.recs.getD k ⟨0,0,0,[]⟩).count)] fun dU dV ci cj v=>?_
 have bd:=eJ ci (xs:=[(M.recs.getD k ⟨0,0,0,[]⟩).file,(M.recs.getD k ⟨0,0,0,[]⟩).record,(M.recs.getD k ⟨0,0,0,[]⟩).count]) (by as_aux_lemma=>kernel_rfl) (ap (by omega) (ap (by omega) (ap (by omega) aR))) (by(try simp only[List.length_cons,List.length_nil]);omega) cj
 have a5:=ub v F
 refine bp ⟨(ae a5 rfl),(ae a5 rfl),(ae a5 rfl)⟩ fun dW=>R0 1 rfl<|d9 (m:=1) (e:=5) #[vB 6] fun dX dY ck cl r=>?_
 have cm:=cL ck (xs:=[6]) (by as_aux_lemma=>kernel_rfl) (ap (by omega) aR) (by(try simp only[List.length_cons,List.length_nil]);omega) cl
 have a6:=ub r a5
 refine bp ⟨(ae a6 rfl),(ae a6 rfl),(ae a6 rfl)⟩ fun dZ=>?_
 have be:=aJ d (aJ v r)
 refine R0 2 rfl<|bS b9 (xs:=L) (ys:=([6])) (vB 0) 1 (ax a (aJ s be) (fun x hx=>aF) (fun _ _ h=>h)) (cm).rd (by(try simp only[bV,aB]);omega) (le (le (le (le (le (le g.size f) b.size) c.size) d.size) v.size) r.size) fun a7 e0 e1 ar y=>?_
 have a8:=aH.blk y (bC (fC a lr B) aF) a6
 refine bp ⟨(ae a8 rfl),(ae a8 rfl),(ae a8 rfl)⟩ fun e2=>?_
 refine R0 10 rfl<|Oc<|e9 (cZ (xs:=[(M.recs.getD k ⟨0,0,0,[]⟩).file,(M.recs.getD k ⟨0,0,0,[]⟩).record,(M.recs.getD k ⟨0,0,0,[]⟩).count]) ((ax bd (ut (aH.mono (S':=(ob A++[])) r aC) y (aq il aC)) (fun x hx=>(bC ((km bd a (le (le b.size c.size) d.size)) x hx) aF)) (fun _ _ h=>h))).rd (by(try simp only[List.length_cons,List.length_nil]);omega)) fun e3 e4 e5 cn e6 e7 z=>?_
 have P:=ub z a8
 refine bp ⟨(ae P rfl),(ae P rfl),(ae P rfl)⟩ fun e8=>?_
 have bf:=ax ar z (fun x hx=>aF) (fun _ _ h=>h)
 refine R0 11 rfl<|bS b9 (xs:=(L++[6])) (ys:=(aP ([(M.recs.getD k ⟨0,0,0,[]⟩).file,(M.recs.getD k ⟨0,0,0,[]⟩).record,(M.recs.getD k ⟨0,0,0,[]⟩).count]))) (vB 0) 1 bf (cn).rd (by(try simp only[bV,aB]);omega) (le (le (le (le (le (le (le (le g.size f) b.size) c.size) d.size) v.size) r.size) y.size) z.size) fun bg ea eb bh a9=>?_
 have aa:=aH.blk a9 (bC (dM P bf (by decide)) aF) P
 refine bp ⟨(ae aa rfl),(ae aa rfl),(ae aa rfl)⟩ fun co=>Rt 12 co<|re<|bn<|tn<|go<|Pl 2<|aE aa 3<|?_
 have bm:=ut (aH.mono (S':=(ob A++(ob a7++[]))) be aC) (ut (aH.mono (S':=(ob A++(ob a7++[]))) y (aq il aC)) (ut (aH.mono (S':=(ob a7++[])) z aC) a9 (aq il aC)) (aq il aC)) (aq il (aq il aC))
 refine ay<|e9 (cZ (xs:=(M.recs.getD k ⟨0,0,0,[]⟩).words) (eG.old Q (ut R bm (aq (aU a l.size) (aq (aU ar l.size) aC)))) (by(try simp only[List.length_cons,List.length_nil]);omega)) fun ec ed ee cq ef eg ab=>?_
 refine L0<|bS b9 (xs:=((L++[6])++(aP ([(M.recs.getD k ⟨0,0,0,[]⟩).file,(M.recs.getD k ⟨0,0,0,[]⟩).record,(M.recs.getD k ⟨0,0,0,[]⟩).count])))) (ys:=(aP ((M.recs.getD k ⟨0,0,0,[]⟩).words))) (vB 0) 1 (ax bh ab (fun x hx=>aF) (fun _ _ h=>h)) (cq).rd (by(try simp only[bV,aB]);omega) (le (le (le (le (le (le (le (le (le (le g.size f) b.size) c.size) d.size) v.size) r.size) y.size) z.size) a9.size) ab.size) fun cr ct eh cv br=>Pl 1<|nl<|bn<|tn<|go<|bq ((k:Int)+1)<|Pl 1<|nl<|?_
 exact gL ((k+1),(((L++[6])++(aP ([(M.recs.getD k ⟨0,0,0,[]⟩).file,(M.recs.getD k ⟨0,0,0,[]⟩).record,(M.recs.getD k ⟨0,0,0,[]⟩).count])))++(aP ((M.recs.getD k ⟨0,0,0,[]⟩).words))),cr,ct) ⟨(ut C (ut (aH.mono (S':=(ob A++(ob a7++(ob bg++[])))) bm (aq il (aq il aC))) (ut (aH.mono (S':=(ob bg++[])) ab aC) br (aq il aC)) (aq il aC)) (aq (aU a lr) (aq (aU ar lr) (aq (aU bh lr) aC)))),(le (le (le (le (le (le (le (le (le (le f b.size) c.size) d.size) v.size) r.size) y.size) z.size) a9.size) ab.size) br.size),cv,(by(try dsimp only);omega),(by(try dsimp only);rw[← hL,gZ dir M.code M.recs k (by omega)];simp only[fZ,n,o,bj,List.append_assoc]),(by(try dsimp only);have hv:=hf.recw _ (ex ⟨0,0,0,[]⟩ M.recs k (by omega));(try simp only[bV,aB]);omega),(by(try dsimp only);(try simp only[bV]);omega)⟩ (by omega)
 have bI:=of_decide_eq_false n
 refine xt<|tx<|tx<|bx<|tn<|ak 3<|bq ((L.length:Int)-1)<|Pl 1<|ft (aX.at_ (a).rd 0 (by omega)) fun ei ej bs ek el=>L0<|l9 L.length 0 bs (by omega)<|L0<|Es b9 (j:=0) a bs (by omega) (((L.length:Int)-1)%256) (fun _=>⟨rfl,by omega⟩) fun em cw cx=>nl<|tn<|aD 2<|rt<|rr (.slice A L.length cp)<|?_
 have hk:k=M.recs.length:=by omega
 rw[hk,List.drop_length] at hL
 have hL2:[0]++cP dir M.code M.recs=L:=by rw[← hL];simp[cP]
 have hs:dn dir M=(L.set 0 (((L.length:Int)-1)%256)):=by unfold dn;rw[hL2]
 rw[hs]
 exact⟨_,rfl,(b7.weaken cw l.size),(ut ad cx (aq (aU a l.size) aC))⟩
open Go.RowKit
theorem kW{parse:Int→Int→List Int→aT × Int}{lay:Int→aT→List Int}{dir E:Int}{M X:aT}(hX:parse dir M.code (lay dir M)=(X,E))(hE:(E != 0)=true) : bA parse lay dir M=none:=by
  unfold bA
  rw[hX,if_neg]
  intro h
  injection h with h1 h2
  rw[h2] at hE
  cases hE
theorem kZ{parse:Int→Int→List Int→aT × Int}{lay:Int→aT→List Int}{dir E:Int}{M X:aT}(hX:parse dir M.code (lay dir M)=(X,E))(hE:decide (X=M)=false) : bA parse lay dir M=none:=by
  unfold bA
  rw[hX,if_neg]
  intro h
  injection h with h1 h2
  rw[h1] at hE
  simp at hE
theorem jk{parse:Int→Int→List Int→aT × Int}{lay:Int→aT→List Int}{dir E:Int}{M X:aT}(hX:parse dir M.code (lay dir M)=(X,E))(hE:(E != 0)=false)(h:decide (X=M)=true) : bA parse lay dir M=some (lay dir M):=by
  unfold bA
  have h1:X=M:=by simpa using h
  have h2:E=0:=by simpa using hE
  rw[hX,h1,h2,if_pos rfl]
theorem cU{x y:Option (List Int)}(h:x=y){w:World}{e:Ending}{w':World}(k:e8 y w e w') : e8 x w e w':=by rw[h];exact k
theorem m6{m:Md}{cs:Array Value}{M:aT}{w:World}{dir:Int}(h:aI m w cs.toList M)(hf:bi M)(hlen:(cM dir M).length≤1048576) : Calls Tryz.prog 97 #[vI dir,.agg cs] w (e8 (bA gE cM dir M) w):=by
 have hM:=h
 refine fE h fun Aw kw Ab kb Ad kd Ar kr Ao ko e hw hbt hd hr ho _ _ _ _ _ _ _ _ _ _ q0 q1 q2 q3 q4 q5 q6 q7 q8 q9 P Q R S T U V=>?_
 subst e
 refine en 29 Tryz.func97 rfl<|sg<|L0<|da (mG M.code M.fail M.addr M.count M.value M.and_ M.or_ M.addr2 M.sub M.status M.events M.messages (.slice Aw M.words.length kw) (.slice Ab M.bits.length kb) (.slice Ad M.data.length kd) (.slice Ar M.recs.length kr) M.mei M.kind M.level M.more M.next (.slice Ao M.objects.length ko)) fun W X Y l i=>Pl 2<|aM 1<|L0<|bO l<|?_
 have n:=aI.old hM i
 refine ay<|e9 (wD (dir:=dir) n hf) fun z C D o Z a0 p=>Pl 1<|aM 2<|?_
 have q:=ub p l
 refine aE q 0<|Pl 1<|pr (gE dir M.code (cM dir M)) fun f E g=>?_
 have r:Calls _ _ _ _ (eT (gE dir M.code (cM dir M)) D):=lJ (dir:=dir) (c:=M.code) q0 (o).rd hlen
 rw[g] at r
 refine ay<|e2 (r) fun F a1 a G=>Pl 3<|aK mZ fun a2 a3 H I J=>aG (hz:=(by rw[a.size];exact aQ)) (hv:=a.size) (h1:=a.one) I (F) fun a4 K L=>ah 1<|sq<|ak 3<|?_
 have s:=ud J L H
 have j:=aJ G s
 have t:=aJ p j
 have u:=aJ i t
 refine bl 22 ((E != 0)) (fun b=>?_) (fun b=>?_)
 have N:=az b
 refine ah 5<|c1<|aD 2<|aV<|rr (.tuple #[nS,vI 1])<|cU (kW g b) ?_
 exact⟨rfl,u⟩
 have N:=aA b
 refine L1<|bO (hz:=(by rw[a.size];exact aQ)) K<|?_
 refine L1<|bO (ub j q)<|?_
 refine L1<|Oc<|m1 (ii (A:=f) (B:=M) (aI.upd a s aN) (aI.old n t)) fun a5 v=>ah 2<|?_
 have y:=aJ u v
 refine cb ((!(decide (f=M)))) (fun k=>?_) (fun k=>?_)
 have d:(decide (f=M))=false:=by simpa using k
 have O:=of_decide_eq_false d
 refine aD 2<|aV<|rr (.tuple #[nS,vI 1])<|cU (kZ g d) ?_
 exact⟨rfl,y⟩
 have d:(decide (f=M))=true:=by simpa using k
 have O:=of_decide_eq_true d
 refine bo<|aD 3<|rt<|rr (.tuple #[.slice z ((cM dir M).length) C,vI 0])<|?_
 refine cU (jk g b d) ?_
 exact⟨_,rfl,(b7.weaken (ax o (aJ j v) (fun x hx=>aF) (fun _ _ h=>h)) i.size),y⟩
theorem mY{m:Md}{cs:Array Value}{M:aT}{w:World}{dir:Int}(h:aI m w cs.toList M)(hf:bi M)(hlen:(cy dir M).length≤1048576) : Calls Tryz.prog 99 #[vI dir,.agg cs] w (e8 (bA iD cy dir M) w):=by
 have hM:=h
 refine fE h fun Aw kw Ab kb Ad kd Ar kr Ao ko e hw hbt hd hr ho _ _ _ _ _ _ _ _ _ _ q0 q1 q2 q3 q4 q5 q6 q7 q8 q9 P Q R S T U V=>?_
 subst e
 refine en 29 Tryz.func99 rfl<|sg<|L0<|da (mG M.code M.fail M.addr M.count M.value M.and_ M.or_ M.addr2 M.sub M.status M.events M.messages (.slice Aw M.words.length kw) (.slice Ab M.bits.length kb) (.slice Ad M.data.length kd) (.slice Ar M.recs.length kr) M.mei M.kind M.level M.more M.next (.slice Ao M.objects.length ko)) fun W X Y l i=>Pl 2<|aM 1<|L0<|bO l<|?_
 have n:=aI.old hM i
 refine ay<|e9 (yT (dir:=dir) n hf) fun z C D o Z a0 p=>Pl 1<|aM 2<|?_
 have q:=ub p l
 refine aE q 0<|Pl 1<|pr (iD dir M.code (cy dir M)) fun f E g=>?_
 have r:Calls _ _ _ _ (eT (iD dir M.code (cy dir M)) D):=nw (dir:=dir) (c:=M.code) q0 (o).rd hlen
 rw[g] at r
 refine ay<|e2 (r) fun F a1 a G=>Pl 3<|aK mZ fun a2 a3 H I J=>aG (hz:=(by rw[a.size];exact aQ)) (hv:=a.size) (h1:=a.one) I (F) fun a4 K L=>ah 1<|sq<|ak 3<|?_
 have s:=ud J L H
 have j:=aJ G s
 have t:=aJ p j
 have u:=aJ i t
 refine bl 22 ((E != 0)) (fun b=>?_) (fun b=>?_)
 have N:=az b
 refine ah 5<|c1<|aD 2<|aV<|rr (.tuple #[nS,vI 1])<|cU (kW g b) ?_
 exact⟨rfl,u⟩
 have N:=aA b
 refine L1<|bO (hz:=(by rw[a.size];exact aQ)) K<|?_
 refine L1<|bO (ub j q)<|?_
 refine L1<|Oc<|m1 (ii (A:=f) (B:=M) (aI.upd a s aN) (aI.old n t)) fun a5 v=>ah 2<|?_
 have y:=aJ u v
 refine cb ((!(decide (f=M)))) (fun k=>?_) (fun k=>?_)
 have d:(decide (f=M))=false:=by simpa using k
 have O:=of_decide_eq_false d
 refine aD 2<|aV<|rr (.tuple #[nS,vI 1])<|cU (kZ g d) ?_
 exact⟨rfl,y⟩
 have d:(decide (f=M))=true:=by simpa using k
 have O:=of_decide_eq_true d
 refine bo<|aD 3<|rt<|rr (.tuple #[.slice z ((cy dir M).length) C,vI 0])<|?_
 refine cU (jk g b d) ?_
 exact⟨_,rfl,(b7.weaken (ax o (aJ j v) (fun x hx=>aF) (fun _ _ h=>h)) i.size),y⟩
theorem nf{m:Md}{cs:Array Value}{M:aT}{w:World}{dir:Int}(h:aI m w cs.toList M)(hf:bi M)(hlen:(ci dir M).length≤1048576) : Calls Tryz.prog 101 #[vI dir,.agg cs] w (e8 (bA iz ci dir M) w):=by
 have hM:=h
 refine fE h fun Aw kw Ab kb Ad kd Ar kr Ao ko e hw hbt hd hr ho _ _ _ _ _ _ _ _ _ _ q0 q1 q2 q3 q4 q5 q6 q7 q8 q9 P Q R S T U V=>?_
 subst e
 refine en 29 Tryz.func101 rfl<|sg<|L0<|da (mG M.code M.fail M.addr M.count M.value M.and_ M.or_ M.addr2 M.sub M.status M.events M.messages (.slice Aw M.words.length kw) (.slice Ab M.bits.length kb) (.slice Ad M.data.length kd) (.slice Ar M.recs.length kr) M.mei M.kind M.level M.more M.next (.slice Ao M.objects.length ko)) fun W X Y l i=>Pl 2<|aM 1<|L0<|bO l<|?_
 have n:=aI.old hM i
 refine ay<|e9 (zP (dir:=dir) n hf) fun z C D o Z a0 p=>Pl 1<|aM 2<|?_
 have q:=ub p l
 refine aE q 0<|Pl 1<|pr (iz dir M.code (ci dir M)) fun f E g=>?_
 have r:Calls _ _ _ _ (eT (iz dir M.code (ci dir M)) D):=nL (dir:=dir) (c:=M.code) q0 (o).rd hlen
 rw[g] at r
 refine ay<|e2 (r) fun F a1 a G=>Pl 3<|aK mZ fun a2 a3 H I J=>aG (hz:=(by rw[a.size];exact aQ)) (hv:=a.size) (h1:=a.one) I (F) fun a4 K L=>ah 1<|sq<|ak 3<|?_
 have s:=ud J L H
 have j:=aJ G s
 have t:=aJ p j
 have u:=aJ i t
 refine bl 22 ((E != 0)) (fun b=>?_) (fun b=>?_)
 have N:=az b
 refine ah 5<|c1<|aD 2<|aV<|rr (.tuple #[nS,vI 1])<|cU (kW g b) ?_
 exact⟨rfl,u⟩
 have N:=aA b
 refine L1<|bO (hz:=(by rw[a.size];exact aQ)) K<|?_
 refine L1<|bO (ub j q)<|?_
 refine L1<|Oc<|m1 (ii (A:=f) (B:=M) (aI.upd a s aN) (aI.old n t)) fun a5 v=>ah 2<|?_
 have y:=aJ u v
 refine cb ((!(decide (f=M)))) (fun k=>?_) (fun k=>?_)
 have d:(decide (f=M))=false:=by simpa using k
 have O:=of_decide_eq_false d
 refine aD 2<|aV<|rr (.tuple #[nS,vI 1])<|cU (kZ g d) ?_
 exact⟨rfl,y⟩
 have d:(decide (f=M))=true:=by simpa using k
 have O:=of_decide_eq_true d
 refine bo<|aD 3<|rt<|rr (.tuple #[.slice z ((ci dir M).length) C,vI 0])<|?_
 refine cU (jk g b d) ?_
 exact⟨_,rfl,(b7.weaken (ax o (aJ j v) (fun x hx=>aF) (fun _ _ h=>h)) i.size),y⟩
theorem pa{m:Md}{cs:Array Value}{M:aT}{w:World}{dir:Int}(h:aI m w cs.toList M)(hf:bi M)(hlen:(dD dir M).length≤1048576) : Calls Tryz.prog 105 #[vI dir,.agg cs] w (e8 (bA jl dD dir M) w):=by
 have hM:=h
 refine fE h fun Aw kw Ab kb Ad kd Ar kr Ao ko e hw hbt hd hr ho _ _ _ _ _ _ _ _ _ _ q0 q1 q2 q3 q4 q5 q6 q7 q8 q9 P Q R S T U V=>?_
 subst e
 refine en 29 Tryz.func105 rfl<|sg<|L0<|da (mG M.code M.fail M.addr M.count M.value M.and_ M.or_ M.addr2 M.sub M.status M.events M.messages (.slice Aw M.words.length kw) (.slice Ab M.bits.length kb) (.slice Ad M.data.length kd) (.slice Ar M.recs.length kr) M.mei M.kind M.level M.more M.next (.slice Ao M.objects.length ko)) fun W X Y l i=>Pl 2<|aM 1<|L0<|bO l<|?_
 have n:=aI.old hM i
 refine ay<|e9 (AO (dir:=dir) n hf) fun z C D o Z a0 p=>Pl 1<|aM 2<|?_
 have q:=ub p l
 refine aE q 0<|Pl 1<|pr (jl dir M.code (dD dir M)) fun f E g=>?_
 have r:Calls _ _ _ _ (eT (jl dir M.code (dD dir M)) D):=pv (dir:=dir) (c:=M.code) q0 (o).rd hlen
 rw[g] at r
 refine ay<|e2 (r) fun F a1 a G=>Pl 3<|aK mZ fun a2 a3 H I J=>aG (hz:=(by rw[a.size];exact aQ)) (hv:=a.size) (h1:=a.one) I (F) fun a4 K L=>ah 1<|sq<|ak 3<|?_
 have s:=ud J L H
 have j:=aJ G s
 have t:=aJ p j
 have u:=aJ i t
 refine bl 22 ((E != 0)) (fun b=>?_) (fun b=>?_)
 have N:=az b
 refine ah 5<|c1<|aD 2<|aV<|rr (.tuple #[nS,vI 1])<|cU (kW g b) ?_
 exact⟨rfl,u⟩
 have N:=aA b
 refine L1<|bO (hz:=(by rw[a.size];exact aQ)) K<|?_
 refine L1<|bO (ub j q)<|?_
 refine L1<|Oc<|m1 (ii (A:=f) (B:=M) (aI.upd a s aN) (aI.old n t)) fun a5 v=>ah 2<|?_
 have y:=aJ u v
 refine cb ((!(decide (f=M)))) (fun k=>?_) (fun k=>?_)
 have d:(decide (f=M))=false:=by simpa using k
 have O:=of_decide_eq_false d
 refine aD 2<|aV<|rr (.tuple #[nS,vI 1])<|cU (kZ g d) ?_
 exact⟨rfl,y⟩
 have d:(decide (f=M))=true:=by simpa using k
 have O:=of_decide_eq_true d
 refine bo<|aD 3<|rt<|rr (.tuple #[.slice z ((dD dir M).length) C,vI 0])<|?_
 refine cU (jk g b d) ?_
 exact⟨_,rfl,(b7.weaken (ax o (aJ j v) (fun x hx=>aF) (fun _ _ h=>h)) i.size),y⟩
theorem lV{m:Md}{cs:Array Value}{M:aT}{w:World}{dir:Int}(h:aI m w cs.toList M)(hf:bi M)(hlen:(dn dir M).length≤1048576) : Calls Tryz.prog 103 #[vI dir,.agg cs] w (e8 (bA gy dn dir M) w):=by
 have hM:=h
 refine fE h fun Aw kw Ab kb Ad kd Ar kr Ao ko e hw hbt hd hr ho _ _ _ _ _ _ _ _ _ _ q0 q1 q2 q3 q4 q5 q6 q7 q8 q9 P Q R S T U V=>?_
 subst e
 refine en 29 Tryz.func103 rfl<|sg<|L0<|da (mG M.code M.fail M.addr M.count M.value M.and_ M.or_ M.addr2 M.sub M.status M.events M.messages (.slice Aw M.words.length kw) (.slice Ab M.bits.length kb) (.slice Ad M.data.length kd) (.slice Ar M.recs.length kr) M.mei M.kind M.level M.more M.next (.slice Ao M.objects.length ko)) fun W X Y l i=>Pl 2<|aM 1<|L0<|bO l<|?_
 have n:=aI.old hM i
 refine ay<|e9 (wI (dir:=dir) n hf) fun z C D o Z a0 p=>Pl 1<|aM 2<|?_
 have q:=ub p l
 refine aE q 0<|Pl 1<|pr (gy dir M.code (dn dir M)) fun f E g=>?_
 have r:Calls _ _ _ _ (eT (gy dir M.code (dn dir M)) D):=lF (dir:=dir) (c:=M.code) q0 (o).rd hlen
 rw[g] at r
 refine ay<|e2 (r) fun F a1 a G=>Pl 3<|aK mZ fun a2 a3 H I J=>aG (hz:=(by rw[a.size];exact aQ)) (hv:=a.size) (h1:=a.one) I (F) fun a4 K L=>ah 1<|sq<|ak 3<|?_
 have s:=ud J L H
 have j:=aJ G s
 have t:=aJ p j
 have u:=aJ i t
 refine bl 22 ((E != 0)) (fun b=>?_) (fun b=>?_)
 have N:=az b
 refine ah 5<|c1<|aD 2<|aV<|rr (.tuple #[nS,vI 1])<|cU (kW g b) ?_
 exact⟨rfl,u⟩
 have N:=aA b
 refine L1<|bO (hz:=(by rw[a.size];exact aQ)) K<|?_
 refine L1<|bO (ub j q)<|?_
 refine L1<|Oc<|m1 (ii (A:=f) (B:=M) (aI.upd a s aN) (aI.old n t)) fun a5 v=>ah 2<|?_
 have y:=aJ u v
 refine cb ((!(decide (f=M)))) (fun k=>?_) (fun k=>?_)
 have d:(decide (f=M))=false:=by simpa using k
 have O:=of_decide_eq_false d
 refine aD 2<|aV<|rr (.tuple #[nS,vI 1])<|cU (kZ g d) ?_
 exact⟨rfl,y⟩
 have d:(decide (f=M))=true:=by simpa using k
 have O:=of_decide_eq_true d
 refine bo<|aD 3<|rt<|rr (.tuple #[.slice z ((dn dir M).length) C,vI 0])<|?_
 refine cU (jk g b d) ?_
 exact⟨_,rfl,(b7.weaken (ax o (aJ j v) (fun x hx=>aF) (fun _ _ h=>h)) i.size),y⟩
open Go.RowKit
def hG:Nat→Int→aT→Option (List Int)
  | 1,dir,M=>bA gE cM dir M
  | 2,dir,M=>bA iD cy dir M
  | 3,dir,M=>bA iz ci dir M
  | 4,dir,M=>bA gy dn dir M
  | 5,dir,M=>bA jl dD dir M
  | _,_,_=>none
def db (dir:Int)(M:aT) : Option (List Int) :=
  if M.fail != 0 then (if dir != 1 then none else og M)
  else match hG (ki M.code) dir M with
    | none=>none
    | some l=>if decide (253≤(l.length:Int)) then none else some ([M.code]++l)
theorem nY:∀ (L:List Obj),(∀ r,r∈L→r.value.length≤1024)→(eZ L).length≤1026*L.length
  | [],_=>by simp[eZ]
  | r :: L,h=>by
    have h1:=h r (by simp)
    have h2:=nY L fun x hx=>h x (by simp[hx])
    simp only[eZ,List.length_append,List.length_cons,List.length_nil]
    omega
theorem mH(dir c:Int) : ∀ (L:List dt),(∀ r,r∈L→r.words.length≤1024)→(cP dir c L).length≤2064*L.length
  | [],_=>by simp[cP]
  | r :: L,h=>by
    have h1:=h r (by simp)
    have h2:=mH dir c L fun x hx=>h x (by simp[hx])
    simp only[cP,fZ]
    repeat' split
    all_goals simp only[bV,aB]
    all_goals omega
theorem fL{M:aT}(hf:bi M)(dir:Int) : (cM dir M).length≤1048576∧(cy dir M).length≤1048576∧(ci dir M).length≤1048576∧(dD dir M).length≤1048576∧(dn dir M).length≤1048576:=by
  have hp:(bZ M.bits).length≤1024:=by
    have:=hf.bits
    simp only[bZ,List.length_map,List.length_range,eo]
    omega
  have h1:=hf.words
  have h2:=hf.data
  have h3:=hf.objects
  have h4:=nY M.objects hf.objv
  have h5:=mH dir M.code M.recs hf.recw
  have h6:=hf.recs
  refine⟨?_,?_,?_,?_,?_⟩
  · unfold cM
    repeat' split
    all_goals simp only[bV,aB]
    all_goals omega
  · unfold cy
    repeat' split
    all_goals simp only[bV,aB]
    all_goals omega
  · unfold ci
    repeat' split
    all_goals simp only[bV,aB]
    all_goals omega
  · unfold dD
    repeat' split
    all_goals simp only[bV]
    all_goals omega
  · unfold dn
    simp only[List.length_set,List.length_append,List.length_cons,List.length_nil]
    omega
theorem gv{m:Md}{cs:Array Value}{M:aT}{w:World}{dir:Int}(h:aI m w cs.toList M)(hf:bi M) : Calls Tryz.prog 51 #[vI dir,.agg cs] w (e8 (db dir M) w):=by
 have hM:=h
 refine fE h fun Aw kw Ab kb Ad kd Ar kr Ao ko e hw hbt hd hr ho _ _ _ _ _ _ _ _ _ _ q0 q1 q2 q3 q4 q5 q6 q7 q8 q9 ch cj d ck cl cm cn=>?_
 subst e
 refine en 47 Tryz.func51 rfl<|sg<|L0<|da (mG M.code M.fail M.addr M.count M.value M.and_ M.or_ M.addr2 M.sub M.status M.events M.messages (.slice Aw M.words.length kw) (.slice Ab M.bits.length kb) (.slice Ad M.data.length kd) (.slice Ar M.recs.length kr) M.mei M.kind M.level M.more M.next (.slice Ao M.objects.length ko)) fun co f cp c b=>ah 2<|sq<|ak 1<|aE c 1<|Pl 1<|nl<|tn<|cb ((M.fail != 0)) (fun a=>?_) (fun a=>?_)
 have aj:=az a
 refine sq<|aD 2<|cb ((dir != 1)) (fun d=>?_) (fun d=>?_)
 have al:=az d
 exact aD 2<|aV<|tr<|rr (.tuple #[nS,vI 1])<|cC (y:=none) (by unfold db;(try simp only[a,d,bj,reduceIte])<;>rfl) ⟨rfl,b⟩
 have al:=aA d
 refine bo<|sg<|L0<|bO c<|?_
 rcases hwr:og M with _|lw
 have F:=ph (aI.old hM b)
 rw[hwr] at F
 refine ay<|m1 F fun cq am=>ah 4<|aV<|rr (.tuple #[nS,vI 1])<|?_
 exact cC (y:=none) (by unfold db;(try simp only[a,d,bj,hwr,reduceIte])<;>rfl) ⟨rfl,(aJ b am)⟩
 have G:=ph (aI.old hM b)
 rw[hwr] at G
 refine ay<|e9 G fun an ao cr ar ct cu au=>ah 4<|aV<|rr (.tuple #[.slice an lw.length ao,vI 0])<|?_
 exact cC (y:=(some lw)) (by unfold db;(try simp only[a,d,bj,hwr,reduceIte])<;>rfl) ⟨_,rfl,(b7.weaken ar b.size),(aJ b au)⟩
 have aj:=aA a
 refine bo<|ak 1<|aE c 0<|?_
 rcases iC M.code with⟨hk,hkf⟩|⟨hk,hkf⟩|⟨hk,hkf⟩|⟨hk,hkf⟩|⟨hk,hkf⟩|⟨hk,hkf⟩
 have H:=g7 (x:=M.code) (w:=f)
 rw[hkf] at H
 refine ay<|m1 H fun cv av=>Pl 3<|aK #[.nilFunc,.nilFunc] fun cw cx aw aH aL=>aG aH #[.func (.func 96) #[] #[],.func (.func 97) #[] #[]] fun cz aM aN=>ah 1<|sq<|aD 2<|c0<|bo<|ak 1<|aE aM 1<|Pl 1<|?_
 have I:=aJ av (ud aL aN aw)
 have J:=ub I c
 refine L0<|bO J<|?_
 have n:=aJ b I
 rcases hwr:bA gE cM dir M with _|lw
 have K:=m6 (dir:=dir) (aI.old hM n) hf (fL hf dir).1
 rw[hwr] at K
 refine L0<|i8 #[] #[] (args:=#[vI dir,.agg (mG M.code M.fail M.addr M.count M.value M.and_ M.or_ M.addr2 M.sub M.status M.events M.messages (.slice Aw M.words.length kw) (.slice Ab M.bits.length kb) (.slice Ad M.data.length kd) (.slice Ar M.recs.length kr) M.mei M.kind M.level M.more M.next (.slice Ao M.objects.length ko))])<|m1 K fun cA aO=>ah 5<|sq<|aD 7<|c1<|ak 2<|nl<|tn<|aV<|rr (.tuple #[nS,vI 1])<|?_
 exact cC (y:=none) (by unfold db;(try simp only[a,bj,hkf,hG,hwr,reduceIte])<;>rfl) ⟨rfl,(aJ n aO)⟩
 have L:=m6 (dir:=dir) (aI.old hM n) hf (fL hf dir).1
 rw[hwr] at L
 refine L0<|i8 #[] #[] (args:=#[vI dir,.agg (mG M.code M.fail M.addr M.count M.value M.and_ M.or_ M.addr2 M.sub M.status M.events M.messages (.slice Aw M.words.length kw) (.slice Ab M.bits.length kb) (.slice Ad M.data.length kd) (.slice Ar M.recs.length kr) M.mei M.kind M.level M.more M.next (.slice Ao M.objects.length ko))])<|e9 L fun cB cD cE aP cF cG N=>ah 5<|sq<|aD 7<|?_
 have s:=aJ n N
 refine cb ((decide (253≤(lw.length:Int)))) (fun g=>?_) (fun g=>?_)
 have aQ:=of_decide_eq_true g
 exact aD 2<|aV<|rr (.tuple #[nS,vI 1])<|cC (y:=none) (by unfold db;(try simp only[a,g,bj,hkf,hG,hwr,reduceIte])<;>rfl) ⟨rfl,s⟩
 have aQ:=of_decide_eq_false g
 refine bo<|ak 1<|?_
 refine aE (ub N J) 0<|L0<|d9 (m:=1) (e:=5) #[vB M.code] fun cH cI aS aW t=>?_
 have O:=cL aS (xs:=[M.code]) (by as_aux_lemma=>kernel_rfl) (ap (by omega) aR) (by(try simp only[List.length_cons,List.length_nil]);omega) aW
 refine Pl 1<|?_
 refine L0<|bS b9 (xs:=([M.code])) (ys:=lw) (vB 0) 1 O ((ax aP t (fun x hx=>aF) (fun _ _ h=>h))).rd (by(try simp only[bV,aB]);omega) t.size fun aX aY cJ aZ b0=>ah 2<|rt<|rr (.tuple #[.slice aX (([M.code]++lw).length) aY,vI 0])<|?_
 exact cC (y:=(some ([M.code]++lw))) (by unfold db;(try simp only[a,g,bj,hkf,hG,hwr,reduceIte])<;>rfl) ⟨_,rfl,(b7.weaken aZ s.size),(aJ s (ut t b0 (aq (aU O lr) aC)))⟩
 have P:=g7 (x:=M.code) (w:=f)
 rw[hkf] at P
 refine ay<|m1 P fun cK b1=>Pl 3<|aK #[.nilFunc,.nilFunc] fun cN cO b2 b3 b4=>aG b3 #[.func (.func 98) #[] #[],.func (.func 99) #[] #[]] fun cP b5 b6=>ah 1<|sq<|aD 2<|c0<|bo<|ak 1<|aE b5 1<|Pl 1<|?_
 have Q:=aJ b1 (ud b4 b6 b2)
 have R:=ub Q c
 refine L0<|bO R<|?_
 have o:=aJ b Q
 rcases hwr:bA iD cy dir M with _|lw
 have S:=mY (dir:=dir) (aI.old hM o) hf (fL hf dir).2.1
 rw[hwr] at S
 refine L0<|i8 #[] #[] (args:=#[vI dir,.agg (mG M.code M.fail M.addr M.count M.value M.and_ M.or_ M.addr2 M.sub M.status M.events M.messages (.slice Aw M.words.length kw) (.slice Ab M.bits.length kb) (.slice Ad M.data.length kd) (.slice Ar M.recs.length kr) M.mei M.kind M.level M.more M.next (.slice Ao M.objects.length ko))])<|m1 S fun cQ b8=>ah 5<|sq<|aD 7<|c1<|ak 2<|nl<|tn<|aV<|rr (.tuple #[nS,vI 1])<|?_
 exact cC (y:=none) (by unfold db;(try simp only[a,bj,hkf,hG,hwr,reduceIte])<;>rfl) ⟨rfl,(aJ o b8)⟩
 have T:=mY (dir:=dir) (aI.old hM o) hf (fL hf dir).2.1
 rw[hwr] at T
 refine L0<|i8 #[] #[] (args:=#[vI dir,.agg (mG M.code M.fail M.addr M.count M.value M.and_ M.or_ M.addr2 M.sub M.status M.events M.messages (.slice Aw M.words.length kw) (.slice Ab M.bits.length kb) (.slice Ad M.data.length kd) (.slice Ar M.recs.length kr) M.mei M.kind M.level M.more M.next (.slice Ao M.objects.length ko))])<|e9 T fun cR cS cT ba cU cV U=>ah 5<|sq<|aD 7<|?_
 have u:=aJ o U
 refine cb ((decide (253≤(lw.length:Int)))) (fun i=>?_) (fun i=>?_)
 have bb:=of_decide_eq_true i
 exact aD 2<|aV<|rr (.tuple #[nS,vI 1])<|cC (y:=none) (by unfold db;(try simp only[a,i,bj,hkf,hG,hwr,reduceIte])<;>rfl) ⟨rfl,u⟩
 have bb:=of_decide_eq_false i
 refine bo<|ak 1<|?_
 refine aE (ub U R) 0<|L0<|d9 (m:=1) (e:=5) #[vB M.code] fun cW cX bc bd v=>?_
 have V:=cL bc (xs:=[M.code]) (by as_aux_lemma=>kernel_rfl) (ap (by omega) aR) (by(try simp only[List.length_cons,List.length_nil]);omega) bd
 refine Pl 1<|?_
 refine L0<|bS b9 (xs:=([M.code])) (ys:=lw) (vB 0) 1 V ((ax ba v (fun x hx=>aF) (fun _ _ h=>h))).rd (by(try simp only[bV,aB]);omega) v.size fun be bf cY bg bh=>ah 2<|rt<|rr (.tuple #[.slice be (([M.code]++lw).length) bf,vI 0])<|?_
 exact cC (y:=(some ([M.code]++lw))) (by unfold db;(try simp only[a,i,bj,hkf,hG,hwr,reduceIte])<;>rfl) ⟨_,rfl,(b7.weaken bg u.size),(aJ u (ut v bh (aq (aU V lr) aC)))⟩
 have W:=g7 (x:=M.code) (w:=f)
 rw[hkf] at W
 refine ay<|m1 W fun cZ bk=>Pl 3<|aK #[.nilFunc,.nilFunc] fun d0 d1 bl bm bn=>aG bm #[.func (.func 100) #[] #[],.func (.func 101) #[] #[]] fun d2 bp bq=>ah 1<|sq<|aD 2<|c0<|bo<|ak 1<|aE bp 1<|Pl 1<|?_
 have X:=aJ bk (ud bn bq bl)
 have Y:=ub X c
 refine L0<|bO Y<|?_
 have p:=aJ b X
 rcases hwr:bA iz ci dir M with _|lw
 have Z:=nf (dir:=dir) (aI.old hM p) hf (fL hf dir).2.2.1
 rw[hwr] at Z
 refine L0<|i8 #[] #[] (args:=#[vI dir,.agg (mG M.code M.fail M.addr M.count M.value M.and_ M.or_ M.addr2 M.sub M.status M.events M.messages (.slice Aw M.words.length kw) (.slice Ab M.bits.length kb) (.slice Ad M.data.length kd) (.slice Ar M.recs.length kr) M.mei M.kind M.level M.more M.next (.slice Ao M.objects.length ko))])<|m1 Z fun d3 br=>ah 5<|sq<|aD 7<|c1<|ak 2<|nl<|tn<|aV<|rr (.tuple #[nS,vI 1])<|?_
 exact cC (y:=none) (by unfold db;(try simp only[a,bj,hkf,hG,hwr,reduceIte])<;>rfl) ⟨rfl,(aJ p br)⟩
 have a0:=nf (dir:=dir) (aI.old hM p) hf (fL hf dir).2.2.1
 rw[hwr] at a0
 refine L0<|i8 #[] #[] (args:=#[vI dir,.agg (mG M.code M.fail M.addr M.count M.value M.and_ M.or_ M.addr2 M.sub M.status M.events M.messages (.slice Aw M.words.length kw) (.slice Ab M.bits.length kb) (.slice Ad M.data.length kd) (.slice Ar M.recs.length kr) M.mei M.kind M.level M.more M.next (.slice Ao M.objects.length ko))])<|e9 a0 fun d4 d5 d6 bs d7 d8 a1=>ah 5<|sq<|aD 7<|?_
 have z:=aJ p a1
 refine cb ((decide (253≤(lw.length:Int)))) (fun j=>?_) (fun j=>?_)
 have bt:=of_decide_eq_true j
 exact aD 2<|aV<|rr (.tuple #[nS,vI 1])<|cC (y:=none) (by unfold db;(try simp only[a,j,bj,hkf,hG,hwr,reduceIte])<;>rfl) ⟨rfl,z⟩
 have bt:=of_decide_eq_false j
 refine bo<|ak 1<|?_
 refine aE (ub a1 Y) 0<|L0<|d9 (m:=1) (e:=5) #[vB M.code] fun dc dd bu bv A=>?_
 have a2:=cL bu (xs:=[M.code]) (by as_aux_lemma=>kernel_rfl) (ap (by omega) aR) (by(try simp only[List.length_cons,List.length_nil]);omega) bv
 refine Pl 1<|?_
 refine L0<|bS b9 (xs:=([M.code])) (ys:=lw) (vB 0) 1 a2 ((ax bs A (fun x hx=>aF) (fun _ _ h=>h))).rd (by(try simp only[bV,aB]);omega) A.size fun bw bx de bz bB=>ah 2<|rt<|rr (.tuple #[.slice bw (([M.code]++lw).length) bx,vI 0])<|?_
 exact cC (y:=(some ([M.code]++lw))) (by unfold db;(try simp only[a,j,bj,hkf,hG,hwr,reduceIte])<;>rfl) ⟨_,rfl,(b7.weaken bz z.size),(aJ z (ut A bB (aq (aU a2 lr) aC)))⟩
 have a3:=g7 (x:=M.code) (w:=f)
 rw[hkf] at a3
 refine ay<|m1 a3 fun df bC=>Pl 3<|aK #[.nilFunc,.nilFunc] fun dg dh bD bE bF=>aG bE #[.func (.func 102) #[] #[],.func (.func 103) #[] #[]] fun di bG bH=>ah 1<|sq<|aD 2<|c0<|bo<|ak 1<|aE bG 1<|Pl 1<|?_
 have a4:=aJ bC (ud bF bH bD)
 have a5:=ub a4 c
 refine L0<|bO a5<|?_
 have q:=aJ b a4
 rcases hwr:bA gy dn dir M with _|lw
 have a6:=lV (dir:=dir) (aI.old hM q) hf (fL hf dir).2.2.2.2
 rw[hwr] at a6
 refine L0<|i8 #[] #[] (args:=#[vI dir,.agg (mG M.code M.fail M.addr M.count M.value M.and_ M.or_ M.addr2 M.sub M.status M.events M.messages (.slice Aw M.words.length kw) (.slice Ab M.bits.length kb) (.slice Ad M.data.length kd) (.slice Ar M.recs.length kr) M.mei M.kind M.level M.more M.next (.slice Ao M.objects.length ko))])<|m1 a6 fun dj bI=>ah 5<|sq<|aD 7<|c1<|ak 2<|nl<|tn<|aV<|rr (.tuple #[nS,vI 1])<|?_
 exact cC (y:=none) (by unfold db;(try simp only[a,bj,hkf,hG,hwr,reduceIte])<;>rfl) ⟨rfl,(aJ q bI)⟩
 have a7:=lV (dir:=dir) (aI.old hM q) hf (fL hf dir).2.2.2.2
 rw[hwr] at a7
 refine L0<|i8 #[] #[] (args:=#[vI dir,.agg (mG M.code M.fail M.addr M.count M.value M.and_ M.or_ M.addr2 M.sub M.status M.events M.messages (.slice Aw M.words.length kw) (.slice Ab M.bits.length kb) (.slice Ad M.data.length kd) (.slice Ar M.recs.length kr) M.mei M.kind M.level M.more M.next (.slice Ao M.objects.length ko))])<|e9 a7 fun dk dl dm bJ dp dq a8=>ah 5<|sq<|aD 7<|?_
 have B:=aJ q a8
 refine cb ((decide (253≤(lw.length:Int)))) (fun k=>?_) (fun k=>?_)
 have bK:=of_decide_eq_true k
 exact aD 2<|aV<|rr (.tuple #[nS,vI 1])<|cC (y:=none) (by unfold db;(try simp only[a,k,bj,hkf,hG,hwr,reduceIte])<;>rfl) ⟨rfl,B⟩
 have bK:=of_decide_eq_false k
 refine bo<|ak 1<|?_
 refine aE (ub a8 a5) 0<|L0<|d9 (m:=1) (e:=5) #[vB M.code] fun dr ds bL bM C=>?_
 have a9:=cL bL (xs:=[M.code]) (by as_aux_lemma=>kernel_rfl) (ap (by omega) aR) (by(try simp only[List.length_cons,List.length_nil]);omega) bM
 refine Pl 1<|?_
 refine L0<|bS b9 (xs:=([M.code])) (ys:=lw) (vB 0) 1 a9 ((ax bJ C (fun x hx=>aF) (fun _ _ h=>h))).rd (by(try simp only[bV,aB]);omega) C.size fun bN bP dt bQ bR=>ah 2<|rt<|rr (.tuple #[.slice bN (([M.code]++lw).length) bP,vI 0])<|?_
 exact cC (y:=(some ([M.code]++lw))) (by unfold db;(try simp only[a,k,bj,hkf,hG,hwr,reduceIte])<;>rfl) ⟨_,rfl,(b7.weaken bQ B.size),(aJ B (ut C bR (aq (aU a9 lr) aC)))⟩
 have aa:=g7 (x:=M.code) (w:=f)
 rw[hkf] at aa
 refine ay<|m1 aa fun du bT=>Pl 3<|aK #[.nilFunc,.nilFunc] fun dv dw bU bW bX=>aG bW #[.func (.func 104) #[] #[],.func (.func 105) #[] #[]] fun dx bY bZ=>ah 1<|sq<|aD 2<|c0<|bo<|ak 1<|aE bY 1<|Pl 1<|?_
 have ab:=aJ bT (ud bX bZ bU)
 have ac:=ub ab c
 refine L0<|bO ac<|?_
 have r:=aJ b ab
 rcases hwr:bA jl dD dir M with _|lw
 have ad:=pa (dir:=dir) (aI.old hM r) hf (fL hf dir).2.2.2.1
 rw[hwr] at ad
 refine L0<|i8 #[] #[] (args:=#[vI dir,.agg (mG M.code M.fail M.addr M.count M.value M.and_ M.or_ M.addr2 M.sub M.status M.events M.messages (.slice Aw M.words.length kw) (.slice Ab M.bits.length kb) (.slice Ad M.data.length kd) (.slice Ar M.recs.length kr) M.mei M.kind M.level M.more M.next (.slice Ao M.objects.length ko))])<|m1 ad fun dy c2=>ah 5<|sq<|aD 7<|c1<|ak 2<|nl<|tn<|aV<|rr (.tuple #[nS,vI 1])<|?_
 exact cC (y:=none) (by unfold db;(try simp only[a,bj,hkf,hG,hwr,reduceIte])<;>rfl) ⟨rfl,(aJ r c2)⟩
 have ae:=pa (dir:=dir) (aI.old hM r) hf (fL hf dir).2.2.2.1
 rw[hwr] at ae
 refine L0<|i8 #[] #[] (args:=#[vI dir,.agg (mG M.code M.fail M.addr M.count M.value M.and_ M.or_ M.addr2 M.sub M.status M.events M.messages (.slice Aw M.words.length kw) (.slice Ab M.bits.length kb) (.slice Ad M.data.length kd) (.slice Ar M.recs.length kr) M.mei M.kind M.level M.more M.next (.slice Ao M.objects.length ko))])<|e9 ae fun dz dA dB c3 dC dE af=>ah 5<|sq<|aD 7<|?_
 have D:=aJ r af
 refine cb ((decide (253≤(lw.length:Int)))) (fun l=>?_) (fun l=>?_)
 have c4:=of_decide_eq_true l
 exact aD 2<|aV<|rr (.tuple #[nS,vI 1])<|cC (y:=none) (by unfold db;(try simp only[a,l,bj,hkf,hG,hwr,reduceIte])<;>rfl) ⟨rfl,D⟩
 have c4:=of_decide_eq_false l
 refine bo<|ak 1<|?_
 refine aE (ub af ac) 0<|L0<|d9 (m:=1) (e:=5) #[vB M.code] fun dF dG c5 c6 E=>?_
 have ag:=cL c5 (xs:=[M.code]) (by as_aux_lemma=>kernel_rfl) (ap (by omega) aR) (by(try simp only[List.length_cons,List.length_nil]);omega) c6
 refine Pl 1<|?_
 refine L0<|bS b9 (xs:=([M.code])) (ys:=lw) (vB 0) 1 ag ((ax c3 E (fun x hx=>aF) (fun _ _ h=>h))).rd (by(try simp only[bV,aB]);omega) E.size fun c7 c8 dH c9 ca=>ah 2<|rt<|rr (.tuple #[.slice c7 (([M.code]++lw).length) c8,vI 0])<|?_
 exact cC (y:=(some ([M.code]++lw))) (by unfold db;(try simp only[a,l,bj,hkf,hG,hwr,reduceIte])<;>rfl) ⟨_,rfl,(b7.weaken c9 D.size),(aJ D (ut E ca (aq (aU ag lr) aC)))⟩
 have ai:=g7 (x:=M.code) (w:=f)
 rw[hkf] at ai
 refine ay<|m1 ai fun dI cc=>Pl 3<|aK #[.nilFunc,.nilFunc] fun dJ dK cd ce cf=>aG ce #[.nilFunc,.nilFunc] fun dL dM cg=>ah 1<|sq<|aD 2<|c1<|aD 2<|aV<|rr (.tuple #[nS,vI 1])<|?_
 exact cC (y:=none) (by unfold db;(try simp only[a,bj,hkf,hG,reduceIte])<;>rfl) ⟨rfl,(aJ b (aJ cc (ud cf cg cd)))⟩
open Go.RowKit
def ic:Nat→Int→List Int→aT × Int
  | 1,dir,b=>aj aO dir (b.getD 0 0) (b.drop 1)
  | 2,dir,b=>aj aW dir (b.getD 0 0) (b.drop 1)
  | 3,dir,b=>aj bf dir (b.getD 0 0) (b.drop 1)
  | 4,dir,b=>aj bh dir (b.getD 0 0) (b.drop 1)
  | 5,dir,b=>aj bP dir (b.getD 0 0) (b.drop 1)
  | _,_,_=>(aT.zero,4)
def cw (dir:Int)(b:List Int) : aT × Int :=
  if dir != 0&&dir != 1 then (aT.zero,1)
  else if (b.length:Int)==0 then (aT.zero,2)
  else if decide (253<(b.length:Int)) then (aT.zero,3)
  else if decide (128≤b.getD 0 0)&&dir==1 then fg b
  else ic (ki (b.getD 0 0)) dir b
theorem tE{m:Md}{A:Option Addr}{cp:Nat}{b:List Int}{w:World}{dir:Int}(hsl:aX m w (.slice A b.length cp) b)(hb:b.length≤1048576) :
    Calls Tryz.prog 83 #[vI dir,.slice A b.length cp] w (eT (cw dir b) w):=by
 have hln:(b.length:Int)≤1048576:=by omega
 refine en 60 Tryz.func83 rfl<|sg<|aK mZ fun dq t h a f=>ah 1<|sq<|bk<|ak 3<|cu 3 [11] 14 (((dir != 0)&&(dir != 1))) (fun K S=>?_) ?_
 refine bl 11 ((dir != 0)) (fun u=>?_) (fun u=>?_)
 have bZ:=az u
 exact Pl 3<|ce S (dir != 1) (by rw[u];rfl)
 have bZ:=aA u
 exact Pl 3<|ce S false (by rw[u];rfl)
 refine ah 1<|cb (((dir != 0)&&(dir != 1))) (fun d=>?_) (fun d=>?_)
 have c2:=(bB d).1
 have c3:=(bB d).2
 refine ak 1<|aG a mZ fun dr c4 c5=>ah 1<|rt<|br<|tr<|bH c4 (vI 1)<|?_
 exact cC (by unfold cw;(try simp only[d,c2,c3,bj,ic,reduceIte])<;>rfl) (d6 (ud f c5 h))
 refine aD 4<|cb (((b.length:Int)==0)) (fun e=>?_) (fun e=>?_)
 have c6:=ag e
 refine ak 1<|aG a mZ fun ds c7 c8=>ah 1<|rt<|br<|tr<|bH c7 (vI 2)<|?_
 exact cC (by unfold cw;(try simp only[d,e,bj,ic,reduceIte])<;>rfl) (d6 (ud f c8 h))
 have c6:=am e
 refine aD 4<|cb ((decide (253<(b.length:Int)))) (fun g=>?_) (fun g=>?_)
 have c9:=of_decide_eq_true g
 refine ak 1<|aG a mZ fun dt ca cc=>ah 1<|rt<|br<|tr<|bH ca (vI 3)<|?_
 exact cC (by unfold cw;(try simp only[d,e,g,bj,ic,reduceIte])<;>rfl) (d6 (ud f cc h))
 have c9:=of_decide_eq_false g
 refine ak 1<|?_
 have s:=aX.old hsl f
 refine ft (aX.at_ s 0 (by omega)) fun T U V W du=>L0<|l9 b.length 0 V (by omega)<|L0<|eH (p:=⟨T,U+0,none⟩) (v:=vB (b.getD 0 0)) W<|Pl 2<|cu 3 [31] 34 (((decide (128≤(b.getD 0 0)))&&(dir==1))) (fun K X=>?_) ?_
 refine bl 31 ((decide (128≤(b.getD 0 0)))) (fun y=>?_) (fun y=>?_)
 have cd:=of_decide_eq_true y
 exact Pl 3<|ce X (dir==1) (by rw[y];rfl)
 have cd:=of_decide_eq_false y
 exact Pl 3<|ce X false (by rw[y];rfl)
 refine ah 1<|cb (((decide (128≤(b.getD 0 0)))&&(dir==1))) (fun i=>?_) (fun i=>?_)
 have cf:=(bB i).1
 have cg:=(bB i).2
 refine ak 1<|ay<|e2 (wu s (by omega)) fun ch dv z Y=>Pl 2<|?_
 have Z:=ub Y a
 refine aG (hz:=(by rw[z.size];exact aQ)) (hv:=z.size) (h1:=z.one) Z (ch) fun dw ci a0=>ah 1<|rt<|br<|tr<|fh 22 z.size ci (vI (((fg b)).2))<|?_
 exact cC (by unfold cw;(try simp only[d,e,g,i,cf,cg,bj,ic,reduceIte])<;>rfl) ⟨_,rfl,(aI.upd z a0 (av (b6 Z (by decide)) aN)),(ud f (uz Y a0) h)⟩
 refine sk<|bn<|tn<|ak 1<|L0<|l9 b.length 0 V (by omega)<|L0<|eH (p:=⟨T,U+0,none⟩) (v:=vB (b.getD 0 0)) W<|?_
 rcases iC (b.getD 0 0) with⟨hk,hkf⟩|⟨hk,hkf⟩|⟨hk,hkf⟩|⟨hk,hkf⟩|⟨hk,hkf⟩|⟨hk,hkf⟩
 have a1:=g7 (x:=(b.getD 0 0)) (w:=t)
 rw[hkf] at a1
 refine ay<|m1 a1 fun dx a2=>Pl 3<|aK #[.nilFunc,.nilFunc] fun cj dy a3 ck cl=>aG ck #[.func (.func 96) #[] #[],.func (.func 97) #[] #[]] fun dz cm cn=>ah 1<|sq<|aD 2<|c0<|bo<|sq<|?_
 have a4:=aJ a2 (ud cl cn a3)
 have a5:=aX.old s a4
 refine ft (aX.at_ a5 0 (by omega)) fun co cq a6 a7 dA=>Rg 13 (fun w'=>w'.cell? ⟨cj,0,none⟩=some (.func (.func 96) #[] #[])∧w'.cell? ⟨co,cq+0,none⟩=some (vB (b.getD 0 0))) fun dB G=>?_
 have a8:=ub G cm
 refine bp ⟨(ae a8 rfl),(uc G a7)⟩ fun j=>Rt 0 j<|Rl 1 j (fun _ hs=>hs.1)<|Rt 2 j<|Rt 3 j<|lL 4 j b.length 0 0 rfl a6 (by omega)<|Rl 5 j (fun _ hs=>hs.2)<|Rt 6 j<|mT (eg (P:=Tryz.prog) 27 5 1 Tryz.underlying27 rfl rfl A b.length cp 1 (by omega)) fun a9 hrun108 cr=>Rr 7 j (.slice a9 (b.length-1) (cp-1)) (fun _ _=>eA (kl:=.i64) (k:=((1:Nat) : Int)) (A:=A) (n:=b.length) (c:=cp) rfl Tryz.underlying27 (by kernel_rfl) (by kernel_rfl) (hrun108 _ _))<|?_
 refine R0 8 rfl<|i8 #[] #[] (args:=#[vI dir,vB (b.getD 0 0),.slice a9 (b.length-1) (cp-1)])<|e2 (lJ (dir:=dir) (c:=(b.getD 0 0)) (b8 (by omega)) (cr _ _ _ _ _ (aX.old a5 G)) (by(try simp only[List.length_drop]);omega)) fun cs dC B aa=>?_
 have ab:=ub aa a8
 have ac:=aJ G aa
 refine bp ⟨(ae ab rfl),(uc ac a7)⟩ fun ad=>Rt 9 ad<|Rt 10 ad<|?_
 have af:=aJ a4 ac
 have ai:=ub af a
 refine R0 11 rfl<|gk (hz:=(by rw[B.size];exact aQ)) (hv:=B.size) (h1:=B.one) ai (cs) fun dD ct M=>?_
 have al:=ud f (uz af M) h
 refine bp ⟨(ae (be M (Ne.symm (nb (au a) a2.size a3)) ab) rfl),(cB (aX.old hsl al) a6 0 (by omega))⟩ fun cv=>Rt 12 cv<|re<|tn<|rt<|fh 22 B.size ct (vI (((aj aO dir (b.getD 0 0) (b.drop 1))).2))<|?_
 exact cC (by unfold cw;(try simp only[d,e,g,i,bj,hkf,ic,reduceIte])<;>rfl) ⟨_,rfl,(aI.upd B M (av (b6 ai (by decide)) aN)),al⟩
 have an:=g7 (x:=(b.getD 0 0)) (w:=t)
 rw[hkf] at an
 refine ay<|m1 an fun dE ao=>Pl 3<|aK #[.nilFunc,.nilFunc] fun cx dF ap cy cz=>aG cy #[.func (.func 98) #[] #[],.func (.func 99) #[] #[]] fun dG cA cD=>ah 1<|sq<|aD 2<|c0<|bo<|sq<|?_
 have aq:=aJ ao (ud cz cD ap)
 have ar:=aX.old s aq
 refine ft (aX.at_ ar 0 (by omega)) fun cE cF aw ax dH=>Rg 13 (fun w'=>w'.cell? ⟨cx,0,none⟩=some (.func (.func 98) #[] #[])∧w'.cell? ⟨cE,cF+0,none⟩=some (vB (b.getD 0 0))) fun dI H=>?_
 have aB:=ub H cA
 refine bp ⟨(ae aB rfl),(uc H ax)⟩ fun l=>Rt 0 l<|Rl 1 l (fun _ hs=>hs.1)<|Rt 2 l<|Rt 3 l<|lL 4 l b.length 0 0 rfl aw (by omega)<|Rl 5 l (fun _ hs=>hs.2)<|Rt 6 l<|mT (eg (P:=Tryz.prog) 27 5 1 Tryz.underlying27 rfl rfl A b.length cp 1 (by omega)) fun aC hrun188 cG=>Rr 7 l (.slice aC (b.length-1) (cp-1)) (fun _ _=>eA (kl:=.i64) (k:=((1:Nat) : Int)) (A:=A) (n:=b.length) (c:=cp) rfl Tryz.underlying27 (by kernel_rfl) (by kernel_rfl) (hrun188 _ _))<|?_
 refine R0 8 rfl<|i8 #[] #[] (args:=#[vI dir,vB (b.getD 0 0),.slice aC (b.length-1) (cp-1)])<|e2 (nw (dir:=dir) (c:=(b.getD 0 0)) (b8 (by omega)) (cG _ _ _ _ _ (aX.old ar H)) (by(try simp only[List.length_drop]);omega)) fun cH dJ C aE=>?_
 have aF:=ub aE aB
 have aH:=aJ H aE
 refine bp ⟨(ae aF rfl),(uc aH ax)⟩ fun aL=>Rt 9 aL<|Rt 10 aL<|?_
 have aM:=aJ aq aH
 have aP:=ub aM a
 refine R0 11 rfl<|gk (hz:=(by rw[C.size];exact aQ)) (hv:=C.size) (h1:=C.one) aP (cH) fun dK cI N=>?_
 have aR:=ud f (uz aM N) h
 refine bp ⟨(ae (be N (Ne.symm (nb (au a) ao.size ap)) aF) rfl),(cB (aX.old hsl aR) aw 0 (by omega))⟩ fun cJ=>Rt 12 cJ<|re<|tn<|rt<|fh 22 C.size cI (vI (((aj aW dir (b.getD 0 0) (b.drop 1))).2))<|?_
 exact cC (by unfold cw;(try simp only[d,e,g,i,bj,hkf,ic,reduceIte])<;>rfl) ⟨_,rfl,(aI.upd C N (av (b6 aP (by decide)) aN)),aR⟩
 have aS:=g7 (x:=(b.getD 0 0)) (w:=t)
 rw[hkf] at aS
 refine ay<|m1 aS fun dL aT=>Pl 3<|aK #[.nilFunc,.nilFunc] fun cK dM aU cL cM=>aG cL #[.func (.func 100) #[] #[],.func (.func 101) #[] #[]] fun dN cN cO=>ah 1<|sq<|aD 2<|c0<|bo<|sq<|?_
 have aY:=aJ aT (ud cM cO aU)
 have aZ:=aX.old s aY
 refine ft (aX.at_ aZ 0 (by omega)) fun cP cQ b0 b1 dO=>Rg 13 (fun w'=>w'.cell? ⟨cK,0,none⟩=some (.func (.func 100) #[] #[])∧w'.cell? ⟨cP,cQ+0,none⟩=some (vB (b.getD 0 0))) fun dP I=>?_
 have b2:=ub I cN
 refine bp ⟨(ae b2 rfl),(uc I b1)⟩ fun o=>Rt 0 o<|Rl 1 o (fun _ hs=>hs.1)<|Rt 2 o<|Rt 3 o<|lL 4 o b.length 0 0 rfl b0 (by omega)<|Rl 5 o (fun _ hs=>hs.2)<|Rt 6 o<|mT (eg (P:=Tryz.prog) 27 5 1 Tryz.underlying27 rfl rfl A b.length cp 1 (by omega)) fun b3 hrun268 cR=>Rr 7 o (.slice b3 (b.length-1) (cp-1)) (fun _ _=>eA (kl:=.i64) (k:=((1:Nat) : Int)) (A:=A) (n:=b.length) (c:=cp) rfl Tryz.underlying27 (by kernel_rfl) (by kernel_rfl) (hrun268 _ _))<|?_
 refine R0 8 rfl<|i8 #[] #[] (args:=#[vI dir,vB (b.getD 0 0),.slice b3 (b.length-1) (cp-1)])<|e2 (nL (dir:=dir) (c:=(b.getD 0 0)) (b8 (by omega)) (cR _ _ _ _ _ (aX.old aZ I)) (by(try simp only[List.length_drop]);omega)) fun cS dQ D b4=>?_
 have b5:=ub b4 b2
 have b7:=aJ I b4
 refine bp ⟨(ae b5 rfl),(uc b7 b1)⟩ fun b9=>Rt 9 b9<|Rt 10 b9<|?_
 have ba:=aJ aY b7
 have bb:=ub ba a
 refine R0 11 rfl<|gk (hz:=(by rw[D.size];exact aQ)) (hv:=D.size) (h1:=D.one) bb (cS) fun dR cT O=>?_
 have bc:=ud f (uz ba O) h
 refine bp ⟨(ae (be O (Ne.symm (nb (au a) aT.size aU)) b5) rfl),(cB (aX.old hsl bc) b0 0 (by omega))⟩ fun cU=>Rt 12 cU<|re<|tn<|rt<|fh 22 D.size cT (vI (((aj bf dir (b.getD 0 0) (b.drop 1))).2))<|?_
 exact cC (by unfold cw;(try simp only[d,e,g,i,bj,hkf,ic,reduceIte])<;>rfl) ⟨_,rfl,(aI.upd D O (av (b6 bb (by decide)) aN)),bc⟩
 have bd:=g7 (x:=(b.getD 0 0)) (w:=t)
 rw[hkf] at bd
 refine ay<|m1 bd fun dS bg=>Pl 3<|aK #[.nilFunc,.nilFunc] fun cV dT bi cW cX=>aG cW #[.func (.func 102) #[] #[],.func (.func 103) #[] #[]] fun dU cY cZ=>ah 1<|sq<|aD 2<|c0<|bo<|sq<|?_
 have bm:=aJ bg (ud cX cZ bi)
 have bq:=aX.old s bm
 refine ft (aX.at_ bq 0 (by omega)) fun d0 d1 bs bt dV=>Rg 13 (fun w'=>w'.cell? ⟨cV,0,none⟩=some (.func (.func 102) #[] #[])∧w'.cell? ⟨d0,d1+0,none⟩=some (vB (b.getD 0 0))) fun dW J=>?_
 have bu:=ub J cY
 refine bp ⟨(ae bu rfl),(uc J bt)⟩ fun q=>Rt 0 q<|Rl 1 q (fun _ hs=>hs.1)<|Rt 2 q<|Rt 3 q<|lL 4 q b.length 0 0 rfl bs (by omega)<|Rl 5 q (fun _ hs=>hs.2)<|Rt 6 q<|mT (eg (P:=Tryz.prog) 27 5 1 Tryz.underlying27 rfl rfl A b.length cp 1 (by omega)) fun bv hrun348 d2=>Rr 7 q (.slice bv (b.length-1) (cp-1)) (fun _ _=>eA (kl:=.i64) (k:=((1:Nat) : Int)) (A:=A) (n:=b.length) (c:=cp) rfl Tryz.underlying27 (by kernel_rfl) (by kernel_rfl) (hrun348 _ _))<|?_
 refine R0 8 rfl<|i8 #[] #[] (args:=#[vI dir,vB (b.getD 0 0),.slice bv (b.length-1) (cp-1)])<|e2 (lF (dir:=dir) (c:=(b.getD 0 0)) (b8 (by omega)) (d2 _ _ _ _ _ (aX.old bq J)) (by(try simp only[List.length_drop]);omega)) fun d3 dX E bw=>?_
 have bx:=ub bw bu
 have bz:=aJ J bw
 refine bp ⟨(ae bx rfl),(uc bz bt)⟩ fun bA=>Rt 9 bA<|Rt 10 bA<|?_
 have bC:=aJ bm bz
 have bD:=ub bC a
 refine R0 11 rfl<|gk (hz:=(by rw[E.size];exact aQ)) (hv:=E.size) (h1:=E.one) bD (d3) fun dY d4 Q=>?_
 have bE:=ud f (uz bC Q) h
 refine bp ⟨(ae (be Q (Ne.symm (nb (au a) bg.size bi)) bx) rfl),(cB (aX.old hsl bE) bs 0 (by omega))⟩ fun d5=>Rt 12 d5<|re<|tn<|rt<|fh 22 E.size d4 (vI (((aj bh dir (b.getD 0 0) (b.drop 1))).2))<|?_
 exact cC (by unfold cw;(try simp only[d,e,g,i,bj,hkf,ic,reduceIte])<;>rfl) ⟨_,rfl,(aI.upd E Q (av (b6 bD (by decide)) aN)),bE⟩
 have bF:=g7 (x:=(b.getD 0 0)) (w:=t)
 rw[hkf] at bF
 refine ay<|m1 bF fun dZ bG=>Pl 3<|aK #[.nilFunc,.nilFunc] fun d7 e0 bI d8 d9=>aG d8 #[.func (.func 104) #[] #[],.func (.func 105) #[] #[]] fun e1 da db=>ah 1<|sq<|aD 2<|c0<|bo<|sq<|?_
 have bJ:=aJ bG (ud d9 db bI)
 have bK:=aX.old s bJ
 refine ft (aX.at_ bK 0 (by omega)) fun dc dd bL bM e3=>Rg 13 (fun w'=>w'.cell? ⟨d7,0,none⟩=some (.func (.func 104) #[] #[])∧w'.cell? ⟨dc,dd+0,none⟩=some (vB (b.getD 0 0))) fun e4 L=>?_
 have bN:=ub L da
 refine bp ⟨(ae bN rfl),(uc L bM)⟩ fun r=>Rt 0 r<|Rl 1 r (fun _ hs=>hs.1)<|Rt 2 r<|Rt 3 r<|lL 4 r b.length 0 0 rfl bL (by omega)<|Rl 5 r (fun _ hs=>hs.2)<|Rt 6 r<|mT (eg (P:=Tryz.prog) 27 5 1 Tryz.underlying27 rfl rfl A b.length cp 1 (by omega)) fun bO hrun428 de=>Rr 7 r (.slice bO (b.length-1) (cp-1)) (fun _ _=>eA (kl:=.i64) (k:=((1:Nat) : Int)) (A:=A) (n:=b.length) (c:=cp) rfl Tryz.underlying27 (by kernel_rfl) (by kernel_rfl) (hrun428 _ _))<|?_
 refine R0 8 rfl<|i8 #[] #[] (args:=#[vI dir,vB (b.getD 0 0),.slice bO (b.length-1) (cp-1)])<|e2 (pv (dir:=dir) (c:=(b.getD 0 0)) (b8 (by omega)) (de _ _ _ _ _ (aX.old bK L)) (by(try simp only[List.length_drop]);omega)) fun df e5 F bQ=>?_
 have bR:=ub bQ bN
 have bS:=aJ L bQ
 refine bp ⟨(ae bR rfl),(uc bS bM)⟩ fun bT=>Rt 9 bT<|Rt 10 bT<|?_
 have bU:=aJ bJ bS
 have bV:=ub bU a
 refine R0 11 rfl<|gk (hz:=(by rw[F.size];exact aQ)) (hv:=F.size) (h1:=F.one) bV (df) fun e6 dg R=>?_
 have bW:=ud f (uz bU R) h
 refine bp ⟨(ae (be R (Ne.symm (nb (au a) bG.size bI)) bR) rfl),(cB (aX.old hsl bW) bL 0 (by omega))⟩ fun dh=>Rt 12 dh<|re<|tn<|rt<|fh 22 F.size dg (vI (((aj bP dir (b.getD 0 0) (b.drop 1))).2))<|?_
 exact cC (by unfold cw;(try simp only[d,e,g,i,bj,hkf,ic,reduceIte])<;>rfl) ⟨_,rfl,(aI.upd F R (av (b6 bV (by decide)) aN)),bW⟩
 have bX:=g7 (x:=(b.getD 0 0)) (w:=t)
 rw[hkf] at bX
 refine ay<|m1 bX fun e7 di=>Pl 3<|aK #[.nilFunc,.nilFunc] fun e8 e9 dj dk dl=>aG dk #[.nilFunc,.nilFunc] fun ea eb dm=>ah 1<|sq<|aD 2<|c1<|ak 1<|?_
 have bY:=aJ di (ud dl dm dj)
 refine aG (ub bY a) mZ fun ec dn dp=>ah 1<|aV<|bH dn (vI 4)<|?_
 exact cC (by unfold cw;(try simp only[d,e,g,i,bj,hkf,ic,reduceIte])<;>rfl) (d6 (ud f (uz bY dp) h))
theorem lc{m:Md}{v:Value}{b:List Int}{w:World}{dir:Int}(h:aX m w v b)(hb:b.length≤1048576) : Calls Tryz.prog 83 #[.int .i64 dir,v] w (eT (cw dir b) w):=by
  obtain⟨A,cp,rfl,_,_⟩:=h.shape
  exact tE h hb
end Go.Proofs.YtdkhbcefkfgbdaaGreat
namespace Go.Proofs.YtdkhbcefkfgbdaaGreat
def N1 (C:ai) : Prop:=C.e≠1
theorem N1.need{C:ai}{b:Bool}{x:Int}(hx:x≠1)(h:N1 C) : N1 (C.need b x):=by
  unfold N1 ai.need at *
  split
  · exact hx
  · exact h
theorem N1.bytesC{C:ai}{n:Int}(h:N1 C) : N1 (C.bytesC n):=by
  unfold ai.bytesC
  split
  · exact N1.need (by decide) h
  · exact h
theorem N1.wordsC{C:ai}{n:Int}(h:N1 C) : N1 (C.wordsC n):=by
  unfold ai.wordsC
  split<;>exact N1.bytesC h
theorem N1.recs{one:Int→ai→Int × ai × dt}(ho:∀ s C,N1 C→N1 (one s C).2.1) : ∀ (n:Nat)(s:Int)(C:ai)(L:List dt),N1 C→N1 (aZ one n s C L).1
  | 0,_,_,_,h=>h
  | n+1,s,C,L,h=>by
    unfold aZ
    split
    · split
      · exact ho s C h
      · exact N1.recs ho n _ _ _ (ho s C h)
    · exact h
theorem N1.objs:∀ (n:Nat)(C:ai)(L:List Obj),N1 C→N1 (eR n C L).1
  | 0,_,_,h=>h
  | n+1,C,L,h=>N1.objs n _ _ (N1.bytesC (N1.bytesC (N1.bytesC h)))
theorem vy{x:Int}(h:x≠1) : bD x≠1:=by
  unfold bD
  split
  · decide
  · exact h
def xf (c:Int)(r:ai × aT) : Prop:=N1 r.1∧r.2.code=c∧r.2.fail=0
theorem uj{dir c:Int}{C:ai}{r:ai × aT}(hC:N1 C)(h:aO dir c C=some r) : xf c r:=by
  unfold aO at h
  repeat' split at h
  all_goals first | cases h | skip
  all_goals refine⟨?_,rfl,rfl⟩
  all_goals simp only[eL,eu,ed,iP,bY,kj,fX,eh,sV,iE]
  all_goals repeat' first | with_reducible exact hC | with_reducible apply N1.bytesC | with_reducible apply N1.wordsC | (with_reducible refine N1.need (by decide) ?_)
theorem vu{dir c:Int}{C:ai}{r:ai × aT}(hC:N1 C)(h:aW dir c C=some r) : xf c r:=by
  unfold aW at h
  repeat' split at h
  all_goals first | cases h | skip
  all_goals refine⟨?_,rfl,rfl⟩
  all_goals simp only[cz,cO,ei,dr,dh,dv,dx,mp,jj,iU,bN,m7,di,gK,rS,AW,uQ]
  all_goals repeat' first | with_reducible exact hC | with_reducible apply N1.bytesC | with_reducible apply N1.wordsC | (with_reducible refine N1.need (by decide) ?_)
theorem wj{dir c:Int}{C:ai}{r:ai × aT}(hC:N1 C)(h:bf dir c C=some r) : xf c r:=by
  unfold bf eE cI at h
  repeat' split at h
  all_goals first | cases h | skip
  all_goals refine⟨?_,rfl,rfl⟩
  all_goals simp only[fu,kU,fs,gI,dZ]
  all_goals repeat' first | with_reducible exact hC | with_reducible apply N1.bytesC | with_reducible apply N1.wordsC | (with_reducible refine N1.need (by decide) ?_)
theorem yW{dir c:Int}{C:ai}{r:ai × aT}(hC:N1 C)(h:bP dir c C=some r) : xf c r:=by
  unfold bP at h
  repeat' split at h
  all_goals first | cases h | skip
  all_goals refine⟨?_,rfl,rfl⟩
  all_goals simp only[dI,g9,eK,dV,md,ma,o9,zF]
  all_goals repeat' first | with_reducible exact hC | with_reducible apply N1.bytesC | with_reducible apply N1.wordsC | with_reducible apply N1.objs | (with_reducible refine N1.need (by decide) ?_)
theorem Ah(s:Int)(C:ai)(h:N1 C) : N1 (dm s C).2.1:=by
  simp only[dm,ff,dY,jf,jP,o0]
  repeat' first | with_reducible exact h | with_reducible apply N1.bytesC | with_reducible apply N1.wordsC | (with_reducible refine N1.need (by decide) ?_)
theorem xZ(s:Int)(C:ai)(h:N1 C) : N1 (bX s C).2.1:=by
  simp only[bX,fx,iv,fj]
  repeat' first | with_reducible exact h | with_reducible apply N1.bytesC | with_reducible apply N1.wordsC | (with_reducible refine N1.need (by decide) ?_)
theorem AI(s:Int)(C:ai)(h:N1 C) : N1 (du s C).2.1:=by
  simp only[du,ke,oo,dY,jf,jP,o0]
  repeat' first | with_reducible exact h | with_reducible apply N1.bytesC | with_reducible apply N1.wordsC | (with_reducible refine N1.need (by decide) ?_)
theorem ld{one:Int→ai→Int × ai × dt}(ho:∀ s C,N1 C→N1 (one s C).2.1)(may:Int→Bool)(c:Int){C:ai}(hC:N1 C) : N1 (dw one may c C).1:=by
  unfold dw l8
  refine N1.need (vy (N1.recs ho _ _ _ _ ?_)) (N1.bytesC (N1.need (by decide) (N1.bytesC hC)))
  show(0:Int)≠1
  decide
theorem tf{dir c:Int}{C:ai}{r:ai × aT}(hC:N1 C)(h:bh dir c C=some r) : xf c r:=by
  unfold bh at h
  repeat' split at h
  all_goals first | cases h | skip
  · exact⟨ld Ah _ _ hC,rfl,rfl⟩
  · exact⟨ld xZ _ _ hC,rfl,rfl⟩
  · exact⟨ld AI _ _ hC,rfl,rfl⟩
theorem N1.endC{C:ai}(h:N1 C) : N1 C.endC:=by
  unfold ai.endC
  exact N1.need (by decide) h
theorem gF{form:Int→Int→ai→Option (ai × aT)}(hg:∀ {dir c:Int}{C:ai}{r:ai × aT},N1 C→form dir c C=some r→xf c r){dir c:Int}{b:List Int}(hd:dir=0∨dir=1){M:aT}{E:Int}(h:aj form dir c b=(M,E)) :
    E≠1∧(E=0→M.code=c∧M.fail=0):=by
  unfold aj at h
  rw[if_pos hd] at h
  have h0:N1 ⟨b,false,0⟩:=by show(0:Int)≠1;decide
  split at h
  · injection h with h1 h2
    subst h1 h2
    exact⟨by decide,fun h=>by cases h⟩
  · rename_i r hr
    obtain⟨g1,g2,g3⟩:=hg h0 hr
    unfold bt at h
    split at h
    · injection h with h1 h2
      subst h1 h2
      exact⟨by decide,fun _=>⟨g2,g3⟩⟩
    · rename_i hne
      injection h with h1 h2
      subst h1 h2
      exact⟨N1.endC g1,fun h=>absurd h hne⟩
end Go.Proofs.YtdkhbcefkfgbdaaGreat
namespace Go.Proofs.YtdkhbcefkfgbdaaGreat
theorem zb:∀ n:Nat,n<256→(ef (n:Int)=kB (n:Int))∧(kB (n:Int)=false→ki (n:Int)=0)∧(128≤n→kB (n:Int)=false):=by decide +kernel
theorem wh{x:Int}(h:0≤x∧x<256) : ef x=kB x∧(kB x=false→ki x=0)∧(128≤x→kB x=false):=by
  obtain⟨n,rfl⟩:=Int.eq_ofNat_of_zero_le h.1
  obtain⟨a,b,c⟩:=zb n (by omega)
  exact⟨a,b,fun h=>c (by omega)⟩
theorem xv{dir:Int}{b:List Int}(hd:dir=0∨dir=1){k:Nat}{M:aT}{E:Int}(h:ic k dir b=(M,E)) : E≠1∧(E=0→M.code=b.getD 0 0∧M.fail=0):=by
  unfold ic at h
  split at h
  · exact gF (fun hC h=>uj hC h) hd h
  · exact gF (fun hC h=>vu hC h) hd h
  · exact gF (fun hC h=>wj hC h) hd h
  · exact gF (fun hC h=>tf hC h) hd h
  · exact gF (fun hC h=>yW hC h) hd h
  · injection h with h1 h2
    subst h1 h2
    exact⟨by decide,fun h=>by cases h⟩
theorem vc{b:List Int}{M:aT}(h:fg b=(M,0)) : M=hY ((b.getD 0 0-128)%256) (b.getD 1 0)∧128≤b.getD 0 0∧ef ((b.getD 0 0-128)%256)=true∧d8 (b.getD 1 0)=true∧b.length=2:=by
  unfold fg at h
  split at h
  · cases h
  split at h
  · cases h
  split at h
  · cases h
  split at h
  · cases h
  split at h
  · cases h
  split at h
  · cases h
  injection h with h1 h2
  simp only[decide_eq_true_eq,Bool.not_eq_true',Bool.not_eq_true,beq_iff_eq,Bool.not_eq_false'] at *
  refine⟨h1.symm,by omega,by simp_all,by simp_all,by omega⟩
end Go.Proofs.YtdkhbcefkfgbdaaGreat
namespace Go.Proofs.YtdkhbcefkfgbdaaGreat
theorem dF{parse:Int→Int→List Int→aT × Int}{lay:Int→aT→List Int}{dir:Int}{M:aT}{l:List Int}(h:bA parse lay dir M=some l) : parse dir M.code l=(M,0)∧l=lay dir M:=by
  unfold bA at h
  split at h
  · rename_i hh
    injection h with h
    subst h
    exact⟨hh,rfl⟩
  · cases h
theorem lA{k:Nat}{dir:Int}{M:aT}{l:List Int}(h:hG k dir M=some l) : k≠0∧ic k dir ([M.code]++l)=(M,0):=by
  unfold hG at h
  split at h
  · exact⟨by decide,(dF h).1⟩
  · exact⟨by decide,(dF h).1⟩
  · exact⟨by decide,(dF h).1⟩
  · exact⟨by decide,(dF h).1⟩
  · exact⟨by decide,(dF h).1⟩
  · cases h
theorem w6{M:aT}{l:List Int}(h:og M=some l) : ef M.code=true∧d8 M.fail=true∧M=hY M.code M.fail∧l=[(M.code+128)%256,M.fail]:=by
  unfold og at h
  split at h
  · cases h
  split at h
  · cases h
  rename_i h1 h2
  injection h with h
  subst h
  have h3:gQ M.code M.fail=true:=by
    cases hp:gQ M.code M.fail
    · rw[hp] at h1;exact absurd rfl h1
    · rfl
  have h4:M=hY M.code M.fail:=by
    by_cases hm:M=hY M.code M.fail
    · exact hm
    · rw[decide_eq_false hm] at h2;exact absurd rfl h2
  unfold gQ at h3
  obtain⟨h5,h6⟩:=i3 h3
  exact⟨(i3 h5).2,h6,h4,rfl⟩
theorem ia{dir:Int}{M:aT}{l:List Int}(hc:0≤M.code∧M.code<256)(h:db dir M=some l) :
    (M.fail≠0∧dir=1∧ef M.code=true∧d8 M.fail=true∧M=hY M.code M.fail∧l=[M.code+128,M.fail]∧M.code<128) ∨
    (M.fail=0∧ki M.code≠0∧M.code<128∧∃ l',hG (ki M.code) dir M=some l'∧l'.length<253∧l=[M.code]++l'):=by
  obtain⟨t1,t2,t3⟩:=wh hc
  unfold db at h
  split at h
  · rename_i hf
    split at h
    · cases h
    · rename_i hd
      obtain⟨h1,h2,h3,h4⟩:=w6 h
      have h5:M.code<128:=by
        by_cases h6:128≤M.code
        · have:=t3 h6
          rw[← t1,h1] at this
          cases this
        · omega
      refine .inl ⟨by simpa using hf,by simpa using hd,h1,h2,h3,?_,h5⟩
      rw[h4]
      congr 1
      omega
  · rename_i hf
    split at h
    · cases h
    · rename_i l' hl
      split at h
      · cases h
      · rename_i hn
        injection h with h
        have hk:=(lA hl).1
        have h5:M.code<128:=by
          by_cases h6:128≤M.code
          · exact absurd (t2 (t3 h6)) hk
          · omega
        simp only[decide_eq_true_eq] at hn
        exact .inr ⟨by simpa using hf,hk,h5,l',hl,by omega,h.symm⟩
theorem qj{dir:Int}{M:aT}{l:List Int}(hd:dir=0∨dir=1)(hc:0≤M.code∧M.code<256)(hf:0≤M.fail∧M.fail<256)(h:db dir M=some l) : cw dir l=(M,0):=by
  have hdd:(dir != 0&&dir != 1)=false:=by rcases hd with rfl | rfl<;>rfl
  rcases ia hc h with⟨h1,rfl,h2,h3,h4,rfl,h5⟩|⟨h1,h2,h3,l',h4,h5,rfl⟩
  · have ha:decide (128≤M.code+128)=true:=by simp;omega
    have hb:(M.code+128-128)%256=M.code:=by omega
    have jf:decide (M.code+128<128)=false:=by simp;omega
    unfold cw
    simp only[List.length_cons,List.length_nil,List.getD_cons_zero,ha]
    show fg [M.code+128,M.fail]=(M,0)
    unfold fg
    simp only[List.length_cons,List.length_nil,List.getD_cons_zero,List.getD_cons_succ,hb,jf,h2,h3]
    show(hY M.code M.fail,(0:Int))=(M,0)
    rw[← h4]
  · have ha:(decide (128≤M.code)&&dir==1)=false:=by
      have:decide (128≤M.code)=false:=by simp;omega
      rw[this];rfl
    have hl0:(((([M.code]++l').length:Nat) : Int)==0)=false:=by
      simp only[List.length_append,List.length_cons,List.length_nil,beq_eq_false_iff_ne,ne_eq];omega
    have hl1:decide (253<((([M.code]++l').length:Nat) : Int))=false:=by
      simp only[List.length_append,List.length_cons,List.length_nil,decide_eq_false_iff_not];omega
    have hg:([M.code]++l').getD 0 0=M.code:=rfl
    unfold cw
    rw[hdd,hl0,hl1,hg,ha]
    exact(lA h4).2
theorem iy{dir:Int}{M:aT}{l:List Int}(hc:0≤M.code∧M.code<256)(h:db dir M=some l) : 0<l.length:=by
  rcases ia hc h with⟨_,_,_,_,_,rfl,_⟩|⟨_,_,_,l',_,_,rfl⟩<;>simp
theorem pY{dir:Int}{M:aT}{l:List Int}(hc:0≤M.code∧M.code<256)(h:db dir M=some l) : l.length≤253:=by
  rcases ia hc h with⟨_,_,_,_,_,rfl,_⟩|⟨_,_,_,l',_,h2,rfl⟩
  · simp
  · simp only[List.length_append,List.length_cons,List.length_nil];omega
open Go.RowKit
theorem vq{w w':World}(h:aH [] w w') : Below w.heap.size w w':=⟨h.os,h.tape,h.output,h.size,fun k hk=>h.block k hk (by simp)⟩
theorem wZ{n:Int}(h:(Lit.int .u8 n).wf=true) : 0≤n∧n<256:=by
  have:=bounds_u8 h
  omega
end Go.Proofs.YtdkhbcefkfgbdaaGreat
