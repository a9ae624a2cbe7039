/- Contracts of functions, part CAduWrites3. -/
import Derived.Test.YtdkhbcefkfgbdaaGreatCAduWrites1
import Derived.Test.YtdkhbcefkfgbdaaGreatCAduWrites2
import Derived.RangeFuncRecord
import Derived.RangeFuncLeaves
import Derived.RangeFuncCalls
import Derived.OpenShut
import Derived.Below
set_option linter.unusedVariables false
set_option linter.unusedSimpArgs false
set_option maxRecDepth 100000
set_option maxHeartbeats 4000000
namespace Go.Proofs.YtdkhbcefkfgbdaaGreat
open Go.RowKit
def dS (C:ah) : ah:=(C.bytesC 1).need (C.byteV==13 || C.byteV==14) 8
def gc (C:ah) : ah:=(dS C).need (decide (((dS C).l.length:Int)≤251)) 5
def eP (C:ah) : ah:=((dS C).bytesC 1).need (decide (1≤(dS C).byteV)&&decide ((dS C).byteV≤4)) 6
def bU (dir c:Int)(C:ah) : Option (ah × aU) :=
  if c != 43 then none
  else if C.byteV==13 then some ((gc C).bytesC ((gc C).l.length:Int),{ aU.zero with code:=c,mei:=C.byteV,data:=(gc C).bytesR ((gc C).l.length:Int) })
  else if dir==1 then some ((er (dS C).byteV (eP C)).1,{ aU.zero with code:=c,mei:=C.byteV,kind:=(dS C).byteV,level:=(eP C).byteV,more:=(lM (eP C)).byteV,next:=(lQ (eP C)).byteV,objects:=(er (dS C).byteV (eP C)).2 })
  else some ((eP C).bytesC 1,{ aU.zero with code:=c,mei:=C.byteV,kind:=(dS C).byteV,next:=(eP C).byteV })
theorem rN{m:Md}{A:Option Addr}{cp:Nat}{b:List Int}{w:World}{c:Int}(hcode:B8 c)(hsl:aZ m w (.slice A b.length cp) b)(hb:b.length≤1048576) :
    Calls Tryz.prog 104 #[vI 0,vB c,.slice A b.length cp] w (eL (aj bU 0 c b) w):=by
 obtain⟨hcode1,hcode2⟩:=hcode
 have hln:(b.length:Int)≤1048576:=by omega
 refine en 81 Tryz.func104 rfl<|sg<|aK mZ fun af bg p j h=>ai 1<|sq<|bk<|aE 7<|c0<|aE 3<|cb ((c != 43)) (fun k=>?_) (fun k=>?_)
 have am:=aB k
 refine al 1<|aG j mZ fun bh an ao=>ai 1<|rt<|br<|tr<|bJ an (vI 4)<|?_
 exact cv (by unfold aj bU gc eP dS;(try simp only[k,bi,dJ,dP,dL,dN,dO,reduceIte])<;>rfl) (cR (ud h ao p))
 have am:=az k
 refine sk<|bn<|tn<|al 1<|?_
 refine ay<|e3 (eq (aZ.old hsl h) (by omega)) fun ap bm d L i=>Pl 1<|aM 2<|ay<|m3 (cc L) fun bo aq f bq=>Pl 1<|aK mZ fun ar bs g av aw=>aG av (mG c 0 0 0 0 0 0 0 0 0 0 0 nS nS nS nS ((ah.mk b false 0).byteV) 0 0 0 0 nS) fun bu y aC=>nt<|sq<|go<|Pl 2<|aD y 16<|Pl 2<|cu 4 [33] 37 (((((ah.mk b false 0).byteV)==13)||(((ah.mk b false 0).byteV)==14))) (fun K M=>?_) ?_
 refine bl 33 ((((ah.mk b false 0).byteV)==13)) (fun q=>?_) (fun q=>?_)
 have aJ:=ag q
 exact Pl 4<|ce M true (by rw[q];rfl)
 have aJ:=au q
 exact Pl 1<|L1<|dD y 16<|Pl 2<|ce M (((ah.mk b false 0).byteV)==14) (by rw[q];rfl)
 have N:=ud aw aC g
 refine ay<|m2 (bt (((((ah.mk b false 0).byteV)==13)||(((ah.mk b false 0).byteV)==14))) 8 (ak.old aq N)) fun bv aL O=>?_
 refine ab aL fun x45 t u=>?_
 refine nt<|sq<|al 1<|?_
 have a:=nb (ak.lt L) f.size g
 have z:=be O (Ne.symm a) y
 refine aD z 16<|ai 1<|?_
 have o:=ud i (u1 f (uz N O) im) d
 have P:=aI h o
 refine cb ((((ah.mk b false 0).byteV)==13)) (fun r=>?_) (fun r=>?_)
 have aO:=ag r
 refine al 2<|ay<|mq (eI u)<|?_
 have bw:=ak.len u
 refine Pl 1<|ay<|m2 (bt ((decide ((x45.l.length:Int)≤251))) 5 u) fun bx aP aQ=>?_
 refine ab aP fun x59 Q v=>?_
 refine nt<|go<|Pl 2<|ay<|mq (eI v)<|?_
 have bz:=ak.len v
 refine ay<|vc (cL (n:=(x59.l.length:Int)) v) fun R S bA aR bB bC aT aV=>?_
 have bD:=Nat.le_trans (ah.bytesR_le x59 (x59.l.length:Int)) (ak.len v)
 refine ab aT fun x69 T U=>?_
 refine Pl 1<|?_
 have B:=u1 aQ aV im
 have C:=be B (Ne.symm a) z
 refine L0<|ci C 14 (mG c 0 0 0 0 0 0 0 0 0 0 0 nS nS (.slice R ((x59.bytesR (x59.l.length:Int)).length) S) nS ((ah.mk b false 0).byteV) 0 0 0 0 nS) fun bE aW V=>aM 1<|?_
 refine ay<|m2 (cC (ak.upd U V (aa a aF) (ax (b7 C (by decide)) aN))) fun bF W X=>nt<|sq<|al 1<|ay<|mq (bL W)<|?_
 have bG:=ak.len W
 refine Pl 1<|cE 2<|?_
 have Y:=us V X
 have D:=ui B Y
 have Z:=ut P D (ac (ni (le (le h.size i.size) f.size) g) (ac (ni h.size d) aA))
 have hs:aj bU 0 c b=bp (aU.mk c 0 0 0 0 0 0 0 0 0 0 0 [] [] (((((ah.mk b false 0).bytesC 1).need ((((ah.mk b false 0).byteV)==13)||(((ah.mk b false 0).byteV)==14)) 8).need (decide ((((((ah.mk b false 0).bytesC 1).need ((((ah.mk b false 0).byteV)==13)||(((ah.mk b false 0).byteV)==14)) 8).l.length:Nat) : Int)≤251)) 5).bytesR ((((((ah.mk b false 0).bytesC 1).need ((((ah.mk b false 0).byteV)==13)||(((ah.mk b false 0).byteV)==14)) 8).need (decide ((((((ah.mk b false 0).bytesC 1).need ((((ah.mk b false 0).byteV)==13)||(((ah.mk b false 0).byteV)==14)) 8).l.length:Nat) : Int)≤251)) 5).l.length:Nat) : Int)) [] ((ah.mk b false 0).byteV) 0 0 0 0 []) (((((ah.mk b false 0).bytesC 1).need ((((ah.mk b false 0).byteV)==13)||(((ah.mk b false 0).byteV)==14)) 8).need (decide ((((((ah.mk b false 0).bytesC 1).need ((((ah.mk b false 0).byteV)==13)||(((ah.mk b false 0).byteV)==14)) 8).l.length:Nat) : Int)≤251)) 5).bytesC ((((((ah.mk b false 0).bytesC 1).need ((((ah.mk b false 0).byteV)==13)||(((ah.mk b false 0).byteV)==14)) 8).need (decide ((((((ah.mk b false 0).bytesC 1).need ((((ah.mk b false 0).byteV)==13)||(((ah.mk b false 0).byteV)==14)) 8).l.length:Nat) : Int)≤251)) 5).l.length:Nat) : Int)):=by
   unfold aj bU gc eP dS
   (try simp only[k,r,bi,dJ,dP,dL,dN,dO,reduceIte])
   all_goals rfl
 refine cb ((x69.endC.e != 0)) (fun E=>?_) (fun E=>?_)
 have F:=aB E
 refine al 2<|?_
 refine aG (ub (ut o D (ac (ni (le i.size f.size) g) (ac (nr d) aA))) j) mZ fun bI aY b0=>ai 1<|aX<|bJ aY (vI x69.endC.e)<|?_
 subst T Q t
 rw[hs]
 exact bH F (ud Z b0 p)
 have F:=az E
 refine bj<|sg<|?_
 refine L0<|bN (be X (Ne.symm a) aW)<|?_
 refine aG (ub (ut o D (ac (ni (le i.size f.size) g) (ac (nr d) aA))) j) (mG c 0 0 0 0 0 0 0 0 0 0 0 nS nS (.slice R ((x59.bytesR (x59.l.length:Int)).length) S) nS ((ah.mk b false 0).byteV) 0 0 0 0 nS) fun bK b1 a0=>ai 1<|rt<|bJ b1 (vI 0)<|?_
 subst T Q t
 rw[hs]
 exact bM F ⟨_,_,_,_,_,rfl,aS.nil ..,aS.nil ..,(aZ.upd' aR (u1 (aH.mono (S':=[ar,ap,af]) Y (ac im (ac im aA))) a0 im) (ax (b7 C (by decide)) (ax (ak.safe U _ (by decide)) (ax (b7 (ub (ud o B d) j) (by decide)) aN)))),aS.nil ..,aS.nil ..,(cT (by omega))⟩ (ud Z a0 p)
 have aO:=au r
 refine al 1<|ay<|m3 (cc u) fun bO b2 a1 bP=>Pl 1<|?_
 have a2:=be a1 (Ne.symm a) z
 refine L0<|ci a2 17 (mG c 0 0 0 0 0 0 0 0 0 0 0 nS nS nS nS ((ah.mk b false 0).byteV) x45.byteV 0 0 0 nS) fun bQ G a3=>aM 2<|aD G 17<|Pl 2<|cu 4 [59] 63 (((decide (1≤x45.byteV))&&(decide (x45.byteV≤4)))) (fun K a4=>?_) ?_
 refine bl 59 ((decide (1≤x45.byteV))) (fun s=>?_) (fun s=>?_)
 have b3:=of_decide_eq_true s
 exact Pl 1<|L1<|dD G 17<|Pl 2<|ce a4 (decide (x45.byteV≤4)) (by rw[s];rfl)
 have b3:=of_decide_eq_false s
 exact Pl 4<|ce a4 false (by rw[s];rfl)
 refine ay<|m2 (bt (((decide (1≤x45.byteV))&&(decide (x45.byteV≤4)))) 6 (ak.upd b2 a3 (aa a aF) (ax (b7 a2 (by decide)) aN))) fun bR b4 b5=>?_
 refine ab b4 fun x a5 b6=>?_
 refine cE 2<|c0<|go<|Pl 1<|ay<|m3 (cc b6) fun bS b8 b9 bT=>Pl 1<|?_
 have a6:=u1 b5 b9 im
 have a7:=be a6 (Ne.symm a) G
 refine L0<|ci a7 20 (mG c 0 0 0 0 0 0 0 0 0 0 0 nS nS nS nS ((ah.mk b false 0).byteV) x45.byteV 0 0 x.byteV nS) fun bV ba a8=>aM 1<|?_
 refine ay<|m2 (cC (ak.upd b8 a8 (aa a aF) (ax (b7 a7 (by decide)) aN))) fun bW a9 ad=>nt<|sq<|al 1<|ay<|mq (bL a9)<|?_
 have bX:=ak.len a9
 refine Pl 1<|cE 2<|?_
 have H:=ui a1 (ui a3 (ui a6 (us a8 ad)))
 have ae:=ut P H (ac (ni (le (le h.size i.size) f.size) g) (ac (ni h.size d) aA))
 have hs:aj bU 0 c b=bp (aU.mk c 0 0 0 0 0 0 0 0 0 0 0 [] [] [] [] ((ah.mk b false 0).byteV) ((((ah.mk b false 0).bytesC 1).need ((((ah.mk b false 0).byteV)==13)||(((ah.mk b false 0).byteV)==14)) 8).byteV) 0 0 ((((((ah.mk b false 0).bytesC 1).need ((((ah.mk b false 0).byteV)==13)||(((ah.mk b false 0).byteV)==14)) 8).bytesC 1).need ((decide (1≤(((ah.mk b false 0).bytesC 1).need ((((ah.mk b false 0).byteV)==13)||(((ah.mk b false 0).byteV)==14)) 8).byteV))&&(decide ((((ah.mk b false 0).bytesC 1).need ((((ah.mk b false 0).byteV)==13)||(((ah.mk b false 0).byteV)==14)) 8).byteV≤4))) 6).byteV) []) ((((((ah.mk b false 0).bytesC 1).need ((((ah.mk b false 0).byteV)==13)||(((ah.mk b false 0).byteV)==14)) 8).bytesC 1).need ((decide (1≤(((ah.mk b false 0).bytesC 1).need ((((ah.mk b false 0).byteV)==13)||(((ah.mk b false 0).byteV)==14)) 8).byteV))&&(decide ((((ah.mk b false 0).bytesC 1).need ((((ah.mk b false 0).byteV)==13)||(((ah.mk b false 0).byteV)==14)) 8).byteV≤4))) 6).bytesC 1):=by
   unfold aj bU gc eP dS
   (try simp only[k,r,bi,dJ,dP,dL,dN,dO,reduceIte])
   all_goals rfl
 refine cb (((((x.bytesC 1).endC).e)!=0)) (fun I=>?_) (fun I=>?_)
 have J:=aB I
 refine al 2<|?_
 refine aG (ub (ut o H (ac (ni (le i.size f.size) g) (ac (nr d) aA))) j) mZ fun bY bb bc=>ai 1<|aX<|bJ bb (vI (((x.bytesC 1).endC).e))<|?_
 subst a5 t
 rw[hs]
 exact bH J (ud ae bc p)
 have J:=az I
 refine bj<|sg<|?_
 refine L0<|bN (be ad (Ne.symm a) ba)<|?_
 refine aG (ub (ut o H (ac (ni (le i.size f.size) g) (ac (nr d) aA))) j) (mG c 0 0 0 0 0 0 0 0 0 0 0 nS nS nS nS ((ah.mk b false 0).byteV) x45.byteV 0 0 x.byteV nS) fun bZ bd bf=>ai 1<|rt<|bJ bd (vI 0)<|?_
 subst a5 t
 rw[hs]
 exact bM J ⟨_,_,_,_,_,rfl,aS.nil ..,aS.nil ..,aS.nil ..,aS.nil ..,aS.nil ..,(cT (by omega))⟩ (ud ae bf p)
theorem qk{m:Md}{A:Option Addr}{cp:Nat}{b:List Int}{w:World}{c:Int}(hcode:B8 c)(hsl:aZ m w (.slice A b.length cp) b)(hb:b.length≤1048576) :
    Calls Tryz.prog 104 #[vI 1,vB c,.slice A b.length cp] w (eL (aj bU 1 c b) w):=by
 obtain⟨hcode1,hcode2⟩:=hcode
 have hln:(b.length:Int)≤1048576:=by omega
 refine en 81 Tryz.func104 rfl<|sg<|aK mZ fun ap bs p i j=>ai 1<|sq<|bk<|aE 7<|c0<|aE 3<|cb ((c != 43)) (fun o=>?_) (fun o=>?_)
 have aq:=aB o
 refine al 1<|aG i mZ fun bu ar av=>ai 1<|rt<|br<|tr<|bJ ar (vI 4)<|?_
 exact cv (by unfold aj bU gc eP dS;(try simp only[o,bi,dJ,dP,dL,dN,dO,reduceIte])<;>rfl) (cR (ud j av p))
 have aq:=az o
 refine sk<|bn<|tn<|al 1<|?_
 refine ay<|e3 (eq (aZ.old hsl j) (by omega)) fun aw bv a Q h=>Pl 1<|aM 2<|ay<|m3 (cc Q) fun bw aC d bx=>Pl 1<|aK mZ fun aL bz f aO aP=>aG aO (mG c 0 0 0 0 0 0 0 0 0 0 0 nS nS nS nS ((ah.mk b false 0).byteV) 0 0 0 0 nS) fun bA y aR=>nt<|sq<|go<|Pl 2<|aD y 16<|Pl 2<|cu 4 [33] 37 (((((ah.mk b false 0).byteV)==13)||(((ah.mk b false 0).byteV)==14))) (fun K R=>?_) ?_
 refine bl 33 ((((ah.mk b false 0).byteV)==13)) (fun q=>?_) (fun q=>?_)
 have aT:=ag q
 exact Pl 4<|ce R true (by rw[q];rfl)
 have aT:=au q
 exact Pl 1<|L1<|dD y 16<|Pl 2<|ce R (((ah.mk b false 0).byteV)==14) (by rw[q];rfl)
 have S:=ud aP aR f
 refine ay<|m2 (bt (((((ah.mk b false 0).byteV)==13)||(((ah.mk b false 0).byteV)==14))) 8 (ak.old aC S)) fun bB aV T=>?_
 refine ab aV fun x45 t u=>?_
 refine nt<|sq<|al 1<|?_
 have g:=nb (ak.lt Q) d.size f
 have z:=be T (Ne.symm g) y
 refine aD z 16<|ai 1<|?_
 have k:=ud h (u1 d (uz S T) im) a
 have U:=aI j k
 refine cb ((((ah.mk b false 0).byteV)==13)) (fun r=>?_) (fun r=>?_)
 have aW:=ag r
 refine al 2<|ay<|mq (eI u)<|?_
 have bC:=ak.len u
 refine Pl 1<|ay<|m2 (bt ((decide ((x45.l.length:Int)≤251))) 5 u) fun bD aY b0=>?_
 refine ab aY fun x59 V v=>?_
 refine nt<|go<|Pl 2<|ay<|mq (eI v)<|?_
 have bE:=ak.len v
 refine ay<|vc (cL (n:=(x59.l.length:Int)) v) fun W X bF b1 bG bI b2 b3=>?_
 have bK:=Nat.le_trans (ah.bytesR_le x59 (x59.l.length:Int)) (ak.len v)
 refine ab b2 fun x69 Y Z=>?_
 refine Pl 1<|?_
 have B:=u1 b0 b3 im
 have C:=be B (Ne.symm g) z
 refine L0<|ci C 14 (mG c 0 0 0 0 0 0 0 0 0 0 0 nS nS (.slice W ((x59.bytesR (x59.l.length:Int)).length) X) nS ((ah.mk b false 0).byteV) 0 0 0 0 nS) fun bO b4 a0=>aM 1<|?_
 refine ay<|m2 (cC (ak.upd Z a0 (aa g aF) (ax (b7 C (by decide)) aN))) fun bP a1 a2=>nt<|sq<|al 1<|ay<|mq (bL a1)<|?_
 have bQ:=ak.len a1
 refine Pl 1<|cE 2<|?_
 have a3:=us a0 a2
 have D:=ui B a3
 have a4:=ut U D (ac (ni (le (le j.size h.size) d.size) f) (ac (ni j.size a) aA))
 have hs:aj bU 1 c b=bp (aU.mk c 0 0 0 0 0 0 0 0 0 0 0 [] [] (((((ah.mk b false 0).bytesC 1).need ((((ah.mk b false 0).byteV)==13)||(((ah.mk b false 0).byteV)==14)) 8).need (decide ((((((ah.mk b false 0).bytesC 1).need ((((ah.mk b false 0).byteV)==13)||(((ah.mk b false 0).byteV)==14)) 8).l.length:Nat) : Int)≤251)) 5).bytesR ((((((ah.mk b false 0).bytesC 1).need ((((ah.mk b false 0).byteV)==13)||(((ah.mk b false 0).byteV)==14)) 8).need (decide ((((((ah.mk b false 0).bytesC 1).need ((((ah.mk b false 0).byteV)==13)||(((ah.mk b false 0).byteV)==14)) 8).l.length:Nat) : Int)≤251)) 5).l.length:Nat) : Int)) [] ((ah.mk b false 0).byteV) 0 0 0 0 []) (((((ah.mk b false 0).bytesC 1).need ((((ah.mk b false 0).byteV)==13)||(((ah.mk b false 0).byteV)==14)) 8).need (decide ((((((ah.mk b false 0).bytesC 1).need ((((ah.mk b false 0).byteV)==13)||(((ah.mk b false 0).byteV)==14)) 8).l.length:Nat) : Int)≤251)) 5).bytesC ((((((ah.mk b false 0).bytesC 1).need ((((ah.mk b false 0).byteV)==13)||(((ah.mk b false 0).byteV)==14)) 8).need (decide ((((((ah.mk b false 0).bytesC 1).need ((((ah.mk b false 0).byteV)==13)||(((ah.mk b false 0).byteV)==14)) 8).l.length:Nat) : Int)≤251)) 5).l.length:Nat) : Int)):=by
   unfold aj bU gc eP dS
   (try simp only[o,r,bi,dJ,dP,dL,dN,dO,reduceIte])
   all_goals rfl
 refine cb ((x69.endC.e != 0)) (fun E=>?_) (fun E=>?_)
 have F:=aB E
 refine al 2<|?_
 refine aG (ub (ut k D (ac (ni (le h.size d.size) f) (ac (nr a) aA))) i) mZ fun bR b5 b6=>ai 1<|aX<|bJ b5 (vI x69.endC.e)<|?_
 subst Y V t
 rw[hs]
 exact bH F (ud a4 b6 p)
 have F:=az E
 refine bj<|sg<|?_
 refine L0<|bN (be a2 (Ne.symm g) b4)<|?_
 refine aG (ub (ut k D (ac (ni (le h.size d.size) f) (ac (nr a) aA))) i) (mG c 0 0 0 0 0 0 0 0 0 0 0 nS nS (.slice W ((x59.bytesR (x59.l.length:Int)).length) X) nS ((ah.mk b false 0).byteV) 0 0 0 0 nS) fun bS b9 a5=>ai 1<|rt<|bJ b9 (vI 0)<|?_
 subst Y V t
 rw[hs]
 exact bM F ⟨_,_,_,_,_,rfl,aS.nil ..,aS.nil ..,(aZ.upd' b1 (u1 (aH.mono (S':=[aL,aw,ap]) a3 (ac im (ac im aA))) a5 im) (ax (b7 C (by decide)) (ax (ak.safe Z _ (by decide)) (ax (b7 (ub (ud k B a) i) (by decide)) aN)))),aS.nil ..,aS.nil ..,(cT (by omega))⟩ (ud a4 a5 p)
 have aW:=au r
 refine al 1<|ay<|m3 (cc u) fun bT ba G bV=>Pl 1<|?_
 have a6:=be G (Ne.symm g) z
 refine L0<|ci a6 17 (mG c 0 0 0 0 0 0 0 0 0 0 0 nS nS nS nS ((ah.mk b false 0).byteV) x45.byteV 0 0 0 nS) fun bW H I=>aM 2<|aD H 17<|Pl 2<|cu 4 [59] 63 (((decide (1≤x45.byteV))&&(decide (x45.byteV≤4)))) (fun K a7=>?_) ?_
 refine bl 59 ((decide (1≤x45.byteV))) (fun s=>?_) (fun s=>?_)
 have bb:=of_decide_eq_true s
 exact Pl 1<|L1<|dD H 17<|Pl 2<|ce a7 (decide (x45.byteV≤4)) (by rw[s];rfl)
 have bb:=of_decide_eq_false s
 exact Pl 4<|ce a7 false (by rw[s];rfl)
 refine ay<|m2 (bt (((decide (1≤x45.byteV))&&(decide (x45.byteV≤4)))) 6 (ak.upd ba I (aa g aF) (ax (b7 a6 (by decide)) aN))) fun bX bc J=>?_
 refine ab bc fun bY a8 bd=>?_
 refine cE 2<|c1<|go<|Pl 1<|?_
 refine ay<|m3 (t8 (c:=c) (me:=(ah.mk b false 0).byteV) (kd:=x45.byteV) ⟨hcode1,hcode2⟩ (b8 (by omega)) (b8 (by omega)) bd (be J (Ne.symm g) H) g) fun bZ a9 bf ad=>?_
 obtain⟨bg,x,L⟩:=bf
 refine aM 1<|ay<|m2 (cC a9) fun c2 bh M=>?_
 refine ab bh fun ae af am=>?_
 refine nt<|sq<|al 1<|ay<|mq (bL am)<|?_
 have c3:=ak.len am
 refine Pl 1<|cE 2<|?_
 have N:=ui G (ui I (ui J (u1 ad M im)))
 have an:=ut U N (ac (ni j.size a) (ac (ni (le (le j.size h.size) d.size) f) aA))
 have hs:aj bU 1 c b=bp ({ aU.zero with code:=c,mei:=(ah.mk b false 0).byteV,kind:=(((ah.mk b false 0).bytesC 1).need ((((ah.mk b false 0).byteV)==13)||(((ah.mk b false 0).byteV)==14)) 8).byteV,level:=(((((ah.mk b false 0).bytesC 1).need ((((ah.mk b false 0).byteV)==13)||(((ah.mk b false 0).byteV)==14)) 8).bytesC 1).need ((decide (1≤(((ah.mk b false 0).bytesC 1).need ((((ah.mk b false 0).byteV)==13)||(((ah.mk b false 0).byteV)==14)) 8).byteV))&&(decide ((((ah.mk b false 0).bytesC 1).need ((((ah.mk b false 0).byteV)==13)||(((ah.mk b false 0).byteV)==14)) 8).byteV≤4))) 6).byteV,more:=(lM (((((ah.mk b false 0).bytesC 1).need ((((ah.mk b false 0).byteV)==13)||(((ah.mk b false 0).byteV)==14)) 8).bytesC 1).need ((decide (1≤(((ah.mk b false 0).bytesC 1).need ((((ah.mk b false 0).byteV)==13)||(((ah.mk b false 0).byteV)==14)) 8).byteV))&&(decide ((((ah.mk b false 0).bytesC 1).need ((((ah.mk b false 0).byteV)==13)||(((ah.mk b false 0).byteV)==14)) 8).byteV≤4))) 6)).byteV,next:=(lQ (((((ah.mk b false 0).bytesC 1).need ((((ah.mk b false 0).byteV)==13)||(((ah.mk b false 0).byteV)==14)) 8).bytesC 1).need ((decide (1≤(((ah.mk b false 0).bytesC 1).need ((((ah.mk b false 0).byteV)==13)||(((ah.mk b false 0).byteV)==14)) 8).byteV))&&(decide ((((ah.mk b false 0).bytesC 1).need ((((ah.mk b false 0).byteV)==13)||(((ah.mk b false 0).byteV)==14)) 8).byteV≤4))) 6)).byteV,objects:=(er (((ah.mk b false 0).bytesC 1).need ((((ah.mk b false 0).byteV)==13)||(((ah.mk b false 0).byteV)==14)) 8).byteV (((((ah.mk b false 0).bytesC 1).need ((((ah.mk b false 0).byteV)==13)||(((ah.mk b false 0).byteV)==14)) 8).bytesC 1).need ((decide (1≤(((ah.mk b false 0).bytesC 1).need ((((ah.mk b false 0).byteV)==13)||(((ah.mk b false 0).byteV)==14)) 8).byteV))&&(decide ((((ah.mk b false 0).bytesC 1).need ((((ah.mk b false 0).byteV)==13)||(((ah.mk b false 0).byteV)==14)) 8).byteV≤4))) 6)).2 }) ((er (((ah.mk b false 0).bytesC 1).need ((((ah.mk b false 0).byteV)==13)||(((ah.mk b false 0).byteV)==14)) 8).byteV (((((ah.mk b false 0).bytesC 1).need ((((ah.mk b false 0).byteV)==13)||(((ah.mk b false 0).byteV)==14)) 8).bytesC 1).need ((decide (1≤(((ah.mk b false 0).bytesC 1).need ((((ah.mk b false 0).byteV)==13)||(((ah.mk b false 0).byteV)==14)) 8).byteV))&&(decide ((((ah.mk b false 0).bytesC 1).need ((((ah.mk b false 0).byteV)==13)||(((ah.mk b false 0).byteV)==14)) 8).byteV≤4))) 6)).1):=by
   unfold aj bU gc eP dS
   (try simp only[o,r,bi,dJ,dP,dL,dN,dO,reduceIte])
   all_goals rfl
 refine cb ((ae.e != 0)) (fun O=>?_) (fun O=>?_)
 have P:=aB O
 refine al 2<|?_
 refine aG (ub (ut k N (ac (nr a) (ac (ni (le h.size d.size) f) aA))) i) mZ fun c4 bm bo=>ai 1<|aX<|bJ bm (vI ae.e)<|?_
 subst af a8 t
 rw[hs]
 exact bH P (ud an bo p)
 have P:=az O
 refine bj<|sg<|?_
 refine L0<|bN (hz:=(by rw[x.2];exact aQ)) (be M (Ne.symm g) x.1)<|?_
 refine aG (hz:=(by rw[x.2];exact aQ)) (hv:=L.size) (h1:=L.one) (ub (ut k N (ac (nr a) (ac (ni (le h.size d.size) f) aA))) i) (bg) fun c5 bq ao=>ai 1<|rt<|fd 22 x.2 bq (vI 0)<|?_
 subst af a8 t
 rw[hs]
 exact bM P (aJ.upd L (us M ao) (ax (ak.safe a9 _ (by decide)) (ax (b7 (ub (ut k (ui G (ui I (ui J ad))) (ac (nr a) (ac (ni (le h.size d.size) f) aA))) i) (by decide)) aN))) (ud an ao p)
theorem rK{m:Md}{A:Option Addr}{cp:Nat}{b:List Int}{w:World}{dir c:Int}(hcode:B8 c)(hsl:aZ m w (.slice A b.length cp) b)(hb:b.length≤1048576)(hd:¬ (dir=0∨dir=1)) :
    Calls Tryz.prog 104 #[vI dir,vB c,.slice A b.length cp] w (eL (aj bU dir c b) w):=by
 obtain⟨hcode1,hcode2⟩:=hcode
 have hln:(b.length:Int)≤1048576:=by omega
 have e0:(dir != 0)=true:=by simp;omega
 have e1:(dir != 1)=true:=by simp;omega
 refine en 81 Tryz.func104 rfl<|sg<|aK mZ fun g h a d e=>ai 1<|sq<|bk<|al 3<|sy 14 e0<|Pl 4<|nl<|tn<|ct e1<|al 1<|aG d mZ fun i eN f=>ai 1<|rt<|br<|tr<|bJ eN (vI 1)<|?_
 exact cv (by unfold aj bU gc eP dS;(try simp only[e0,e1,bi,dJ,dP,dL,dN,dO,reduceIte,hd])<;>rfl) (cR (ud e f a))
theorem oN{m:Md}{v:Value}{b:List Int}{w:World}{dir c:Int}(hc:B8 c)(h:aZ m w v b)(hb:b.length≤1048576) :
    Calls Tryz.prog 104 #[.int .i64 dir,.int .u8 c,v] w (eL (aj bU dir c b) w):=by
  obtain⟨A,cp,rfl,_,_⟩:=h.shape
  by_cases h0:dir=0
  · subst h0;exact rN hc h hb
  by_cases h1:dir=1
  · subst h1;exact qk hc h hb
  exact rK hc h hb (by omega)
open Go.RowKit
def j8 (C:ah) : ah:=(C.bytesC 1).need (C.byteV==6) 9
def jJ (C:ah) : ah:=((j8 C).wordsC 1).need ((j8 C).wordV != 0) 6
def nw (C:ah) : ah:=((jJ C).wordsC 1).need (decide ((jJ C).wordV≤9999)) 7
def dQ (C:ah) : ah:=((nw C).wordsC 1).need ((nw C).wordV != 0) 5
def aV (C:ah) : dx:=⟨(j8 C).wordV,(jJ C).wordV,(nw C).wordV,[]⟩
def fi (s:Int)(C:ah) : Int:=s+(2+2*(nw C).wordV)
def eZ (s:Int)(C:ah) : ah:=(dQ C).need (decide (fi s C≤245)) 5
def j0 (C:ah) : ah:=(C.bytesC 1).need ((C.byteV%2==1&&decide (3≤C.byteV))&&decide (C.byteV≤((C.bytesC 1).l.length:Int))) 5
def gv (C:ah) : ah:=((j0 C).bytesC 1).need ((j0 C).byteV==6) 9
def fs (C:ah) : ah:=(gv C).wordsC (Int.tdiv (C.byteV-1) 2)
def fp (C:ah) : dx:=⟨0,0,0,(gv C).wordsR (Int.tdiv (C.byteV-1) 2)⟩
def nB (C:ah) : ah:=(dQ C).need (decide (2*(nw C).wordV≤((dQ C).l.length:Int))) 5
def jX (C:ah) : ah:=(nB C).wordsC (nw C).wordV
def jT (C:ah) : dx:=⟨(j8 C).wordV,(jJ C).wordV,(nw C).wordV,(nB C).wordsR (nw C).wordV⟩
def BH (g:Nat)(C':ah)(r:dx)(w:World)(e:Ending)(w':World) : Prop:=∃ A c,e = .returned (.agg #[.int .u16 r.file,.int .u16 r.record,.int .u16 r.count,.slice A r.words.length c])∧ey true w' (.slice A r.words.length c) r.words∧eN r.file∧eN r.record∧eN r.count∧ak w' g C'∧aH [g] w w'
theorem rF{g:Nat}{C:ah}{w:World}(hC:ak w g C) : Calls Tryz.prog 214 #[vP g 0] w (BH g (dQ C) (aV C) w):=by
 have hlen:=hC.len
 refine en 34 Tryz.func214 rfl<|sg<|aK #[vW 0,vW 0,vW 0,nS] fun Z a0 c B b=>aM 2<|?_
 refine ay<|m3 (cc (ak.old hC b)) fun a1 D d a2=>Pl 1<|ay<|m2 (bt ((C.byteV==6)) 9 D) fun a3 E e=>?_
 refine ab E fun ft F G=>?_
 refine ng<|aK #[vW 0,vW 0,vW 0,nS] fun a4 a5 f H h=>aM 1<|?_
 refine ay<|m3 (cg (ak.old G h)) fun a6 I i a7=>Pl 1<|?_
 have a:=nb (ak.lt hC) (le (le b.size d.size) e.size) f
 have j:=be i (Ne.symm a) H
 refine L0<|ci j 0 #[vW ft.wordV,vW 0,vW 0,nS] fun a8 k l=>aM 2<|aD k 0<|Pl 1<|?_
 refine ay<|m2 (bt ((ft.wordV != 0)) 6 (ak.upd I l (aa a aF) (ax (b7 j (by decide)) aN))) fun a9 J K=>?_
 refine ab J fun x45 L M=>?_
 refine aM 1<|ay<|m3 (cg M) fun ac N O ad=>Pl 1<|?_
 have m:=u1 K O im
 have n:=be m (Ne.symm a) k
 refine L0<|ci n 1 #[vW ft.wordV,vW x45.wordV,vW 0,nS] fun ae o p=>aM 2<|aD o 1<|Pl 1<|?_
 refine ay<|m2 (bt ((decide (x45.wordV≤9999))) 7 (ak.upd N p (aa a aF) (ax (b7 n (by decide)) aN))) fun af P Q=>?_
 refine ab P fun x61 R S=>?_
 refine aM 1<|ay<|m3 (cg S) fun ag T U ai=>Pl 1<|?_
 have q:=u1 Q U im
 have r:=be q (Ne.symm a) o
 refine L0<|ci r 2 #[vW ft.wordV,vW x45.wordV,vW x61.wordV,nS] fun aj s t=>aM 2<|aD s 2<|Pl 1<|?_
 refine ay<|m2 (bt ((x61.wordV != 0)) 5 (ak.upd T t (aa a aF) (ax (b7 r (by decide)) aN))) fun al V u=>?_
 refine ab V fun x77 W X=>?_
 refine ng<|?_
 refine L0<|bN (be u (Ne.symm a) s)<|?_
 have v:=u1 d (u1 e (ud h (ui i (ui l (ui m (ui p (ui q (us t u)))))) f) im) im
 have y:=nb (ak.lt hC) lr c
 have z:=be v (Ne.symm y) B
 refine aG z #[vW ft.wordV,vW x45.wordV,vW x61.wordV,nS] fun am Y A=>qG<|By Y<|?_
 subst W R L F
 exact⟨_,_,rfl,aS.nil ..,cP (x:=((C.bytesC 1).need (C.byteV==6) 9).wordV) (by omega),cP (x:=((((C.bytesC 1).need (C.byteV==6) 9).wordsC 1).need (((C.bytesC 1).need (C.byteV==6) 9).wordV != 0) 6).wordV) (by omega),cP (x:=((((((C.bytesC 1).need (C.byteV==6) 9).wordsC 1).need (((C.bytesC 1).need (C.byteV==6) 9).wordV != 0) 6).wordsC 1).need (decide (((((C.bytesC 1).need (C.byteV==6) 9).wordsC 1).need (((C.bytesC 1).need (C.byteV==6) 9).wordV != 0) 6).wordV≤9999)) 7).wordV) (by omega),(ak.upd X A (aa y aF) (ax (b7 z (by decide)) aN)),(ue b (us v A) c)⟩
theorem uW{g:Nat}{C:ah}{w:World}(hC:ak w g C) : Calls Tryz.prog 217 #[vP g 0] w (BH g (fs C) (fp C) w):=by
 have hlen:=hC.len
 refine en 33 Tryz.func217 rfl<|sg<|aK #[vW 0,vW 0,vW 0,nS] fun P Q f i j=>aM 1<|?_
 refine ay<|m3 (cc (ak.old hC j)) fun R b k S=>bq C.byteV<|Pl 1<|aM 2<|L0<|Oe (vI (Int.tmod C.byteV 2)) (vI (C.byteV%2)) (congrArg (Value.int .i64) (Int.tmod_eq_emod_of_nonneg (by omega)))<|Pl 2<|cu 3 [11] 14 ((((C.byteV%2)==1)&&(decide (3≤C.byteV)))) (fun K m=>?_) ?_
 refine bl 11 (((C.byteV%2)==1)) (fun a=>?_) (fun a=>?_)
 have y:=ag a
 exact Pl 3<|ce m (decide (3≤C.byteV)) (by rw[a];rfl)
 have y:=au a
 exact Pl 3<|ce m false (by rw[a];rfl)
 refine Pl 1<|cu 5 [15] 20 (((((C.byteV%2)==1)&&(decide (3≤C.byteV)))&&(decide (C.byteV≤(((C.bytesC 1).l.length:Nat) : Int))))) (fun K o=>?_) ?_
 refine bl 15 ((((C.byteV%2)==1)&&(decide (3≤C.byteV)))) (fun c=>?_) (fun c=>?_)
 refine Pl 2<|L1<|Oc<|mq (eI b)<|?_
 have T:=ak.len b
 exact Pl 2<|ce o (decide (C.byteV≤(((C.bytesC 1).l.length:Nat) : Int))) (by rw[c];rfl)
 exact Pl 5<|ce o false (by rw[c];rfl)
 refine ay<|m2 (bt (((((C.byteV%2)==1)&&(decide (3≤C.byteV)))&&(decide (C.byteV≤(((C.bytesC 1).l.length:Nat) : Int))))) 5 b) fun U z p=>?_
 refine ab z fun x28 A B=>?_
 refine aM 2<|ay<|m3 (cc B) fun V D q W=>Pl 1<|ay<|m2 (bt ((x28.byteV==6)) 9 D) fun X E r=>?_
 refine ab E fun x38 F G=>?_
 refine aM 2<|bq (C.byteV-1)<|L0<|Oe (vI (IntKind.i64.wrap (Int.tdiv (C.byteV-1) 2))) (vI (Int.tdiv (C.byteV-1) 2)) (congrArg (Value.int .i64) (mj (by omega) (by omega)))<|ay<|pu (eO (n:=(Int.tdiv (C.byteV-1) 2)) G) fun H I Y s Z a0 J L=>?_
 refine ab J fun x48 M N=>?_
 refine Pl 1<|?_
 have t:=u1 k (u1 p (u1 q (u1 r L im) im) im) im
 have u:=nb (ak.lt hC) lr f
 have v:=be t (Ne.symm u) i
 refine aG v #[vW 0,vW 0,vW 0,.slice H ((x38.wordsR (Int.tdiv (C.byteV-1) 2)).length) I] fun a1 O d=>qG<|By O<|?_
 subst M F A
 exact⟨_,_,rfl,((av s d (fun x hx=>(aa (fun e=>(aL (aq i) (le (le (le k.size p.size) q.size) r.size) s) (e▸hx)) aF)) (fun _ _ h=>h))).rd,cP (x:=0) (by omega),cP (x:=0) (by omega),cP (x:=0) (by omega),(ak.upd N d (aa u aF) (ax (b7 v (by decide)) aN)),(ue j (us t d) f)⟩
theorem zA{g:Nat}{C:ah}{w:World}(hC:ak w g C) : Calls Tryz.prog 219 #[vP g 0] w (BH g (jX C) (jT C) w):=by
 have hlen:=hC.len
 refine en 22 Tryz.func219 rfl<|sg<|aK #[vW 0,vW 0,vW 0,nS] fun X Y v f i=>aM 1<|?_
 refine ay<|BS (rF (ak.old hC i)) fun I J Z a0 K L M N c=>?_
 obtain⟨a1,a2⟩:=K
 obtain⟨a3,a4⟩:=L
 obtain⟨a5,a6⟩:=M
 refine aK #[vW 0,vW 0,vW 0,nS] fun O a7 j y z=>aG y #[vW ((aV C).file),vW ((aV C).record),vW ((aV C).count),.slice I ((aV C).words.length) J] fun a8 P k=>nt<|sq<|Rg 9 (fun w'=>w'.cell? ⟨O,2,none⟩=some (vW ((aV C).count))) fun a9 d=>?_
 have m:=ub d P
 refine bo (ae m rfl) fun a=>Rt 0 a<|Rt 1 a<|Rl 2 a (fun _ hs=>hs)<|Rr 3 a (vI ((aV C).count)) (fun _ _=>bX (vI (IntKind.i64.wrap ((aV C).count))) (by kernel_rfl) (congrArg (Value.int .i64) (i64_in (by omega))))<|Rr 4 a (vI (2*((aV C).count))) (fun _ _=>bX (vI (IntKind.i64.wrap (2*((aV C).count)))) (by kernel_rfl) (congrArg (Value.int .i64) (IntWalk.i64_in _ (by omega))))<|Rt 5 a<|?_
 have o:=ud z (aI k d) j
 have p:=ak.old N o
 refine R0 6 rfl<|Oc<|mq (eI p)<|?_
 have ac:=ak.len p
 refine bo (ae m rfl) fun Q=>Rt 7 Q<|R0 8 rfl<|Oc<|m2 (bt ((decide ((2*((aV C).count))≤(((dQ C).l.length:Nat) : Int)))) 5 p) fun ad R b=>?_
 refine ab R fun x54 S T=>?_
 have q:=nb (ak.lt hC) (le i.size c.size) j
 have r:=be b (Ne.symm q) m
 refine bo (ae r rfl) fun af=>re<|tn<|al 2<|aD r 2<|bq ((aV C).count)<|ay<|pu (eO (n:=(aV C).count) T) fun A B ag s ai aj U t=>Pl 1<|?_
 have D:=be t (Ne.symm q) r
 refine L0<|ci D 3 #[vW ((aV C).file),vW ((aV C).record),vW ((aV C).count),.slice A ((x54.wordsR ((aV C).count)).length) B] fun am V E=>ng<|L0<|bN V<|?_
 have F:=u1 c (ue o (ui b (us t E)) j) im
 have u:=nb (ak.lt hC) lr v
 refine aG (be F (Ne.symm u) f) #[vW ((aV C).file),vW ((aV C).record),vW ((aV C).count),.slice A ((x54.wordsR ((aV C).count)).length) B] fun an W G=>qG<|By W<|?_
 subst S
 have H:=us E G
 exact⟨_,_,rfl,((av s H (fun x hx=>(aa (fun e=>(aL (aq y) (le (le k.size d.size) b.size) s) (e▸hx)) (aa (fun e=>(aL (aq f) (le (le (le (le c.size z.size) k.size) d.size) b.size) s) (e▸hx)) aF))) (fun _ _ h=>h))).rd,cP (x:=(aV C).file) (by omega),cP (x:=(aV C).record) (by omega),cP (x:=(aV C).count) (by omega),(ak.upd U H (aa q (aa u aF)) (ax (b7 D (by decide)) (ax (b7 (be (u1 c (uz o (u1 b t im)) im) (Ne.symm u) f) (by decide)) aN))),(ue i (us F G) v)⟩
theorem sQ{n:Int}{w:World}(hn:0≤n∧n<256) : Calls Tryz.prog 215 #[vI n] w (cl (.bool ((decide (7≤n)&&decide (n≤245))&&n%7==0)) w):=by
 refine en 14 Tryz.func215 rfl<|al 1<|aM 3<|cu 3 [5] 8 (((decide (7≤n))&&(decide (n≤245)))) (fun K c=>?_) ?_
 refine bl 5 ((decide (7≤n))) (fun a=>?_) (fun a=>?_)
 have e:=of_decide_eq_true a
 exact Pl 3<|ce c (decide (n≤245)) (by rw[a];rfl)
 have e:=of_decide_eq_false a
 exact Pl 3<|ce c false (by rw[a];rfl)
 refine Pl 1<|cu 4 [9] 13 ((((decide (7≤n))&&(decide (n≤245)))&&((n%7)==0))) (fun K d=>?_) ?_
 refine bl 9 (((decide (7≤n))&&(decide (n≤245)))) (fun b=>?_) (fun b=>?_)
 exact Pl 1<|L1<|Oe (vI (Int.tmod n 7)) (vI (n%7)) (congrArg (Value.int .i64) (Int.tmod_eq_emod_of_nonneg (by omega)))<|Pl 2<|ce d ((n%7)==0) (by rw[b];rfl)
 exact Pl 4<|ce d false (by rw[b];rfl)
 exact ai 1<|rt<|rr (.bool (((decide (7≤n))&&(decide (n≤245)))&&((n%7)==0)))<|⟨rfl,(aH.refl [] _)⟩
theorem sS{n:Int}{w:World}(hn:0≤n∧n<256) : Calls Tryz.prog 216 #[vI n] w (cl (.bool (decide (4≤n)&&decide (n≤245))) w):=by
 refine en 9 Tryz.func216 rfl<|al 1<|aM 3<|cu 3 [5] 8 (((decide (4≤n))&&(decide (n≤245)))) (fun K b=>?_) ?_
 refine bl 5 ((decide (4≤n))) (fun a=>?_) (fun a=>?_)
 have c:=of_decide_eq_true a
 exact Pl 3<|ce b (decide (n≤245)) (by rw[a];rfl)
 have c:=of_decide_eq_false a
 exact Pl 3<|ce b false (by rw[a];rfl)
 exact ai 1<|rt<|rr (.bool ((decide (4≤n))&&(decide (n≤245))))<|⟨rfl,(aH.refl [] _)⟩
theorem sR{n:Int}{w:World}(hn:0≤n∧n<256) : Calls Tryz.prog 218 #[vI n] w (cl (.bool (decide (9≤n)&&decide (n≤251))) w):=by
 refine en 9 Tryz.func218 rfl<|al 1<|aM 3<|cu 3 [5] 8 (((decide (9≤n))&&(decide (n≤251)))) (fun K b=>?_) ?_
 refine bl 5 ((decide (9≤n))) (fun a=>?_) (fun a=>?_)
 have c:=of_decide_eq_true a
 exact Pl 3<|ce b (decide (n≤251)) (by rw[a];rfl)
 have c:=of_decide_eq_false a
 exact Pl 3<|ce b false (by rw[a];rfl)
 exact ai 1<|rt<|rr (.bool ((decide (9≤n))&&(decide (n≤251))))<|⟨rfl,(aH.refl [] _)⟩
theorem ke{e:Int}{w:World}:Calls Tryz.prog 158 #[vI e] w (cl (vI (if e==2 then 5 else e)) w):=by
 refine en 6 Tryz.func158 rfl<|aE 1<|sq<|aE 2<|cb ((e==2)) (fun a=>?_) (fun a=>?_)
 have b:=ag a
 refine aE 1<|aX<|rr (vI 5)<|?_
 have hs:(if e==2 then (5:Int) else e)=5:=by simp only[a,bi,reduceIte]
 rw[hs]
 exact⟨rfl,(aH.refl [] _)⟩
 have b:=au a
 refine bj<|aE 2<|rt<|rr (vI e)<|?_
 have hs:(if e==2 then (5:Int) else e)=e:=by simp only[a,bi,reduceIte]
 rw[hs]
 exact⟨rfl,(aH.refl [] _)⟩
open Go.RowKit
structure WF (F:Fence) (n:Nat) (P:Program) (ops:Array Oper) (Q:Exit→Act→World→Prop) (l:List Oper) (a:Act) (w:World) : Prop where
  out:wpListIn F n P ops Q l a w
def fx (F:Fence) : Prop:=F=Fence.wide∨∃ l,F=Fence.wide.inRound l
theorem mR:fx Fence.wide:=.inl rfl
theorem ls(l:Nat) : fx (Fence.wide.inRound l):=.inr ⟨l,rfl⟩
theorem fx.fn{F:Fence}(h:fx F)(f:FuncId) : F.fn f:=by
  rcases h with rfl|⟨l,rfl⟩<;>trivial
theorem fx.depth{F:Fence}(h:fx F) : F.depth=none:=by
  rcases h with rfl|⟨l,rfl⟩<;>rfl
section
variable {F:Fence}{n:Nat}{P:Program}{Q:Exit→Act→World→Prop}{a:Act}{w:World}{K:Act→World→Prop}{ops:Array Oper}{rest:List Oper}{o:Oper}{N:Option Tmp}
theorem BI{f:FuncId}{args:Array Value}{R:Ending→World→Prop}(hF:fx F)(h:Calls P f args w R) : CallsIn F n P f args w R:=by
  rcases hF with rfl|⟨l,rfl⟩
  · exact callsIn_wide.2 h
  · exact CallsIn.inRound l (callsIn_wide.2 h)
theorem CY{row:String}{args:Array Value}{R:Value→World→Prop}(hF:fx F)(h:Rows P row args w R) : RowsIn F n P row args w R:=by
  have h0:RowsIn Fence.wide n P row args w R:=fun c cs _=>let ⟨v,w',r,s⟩:=h c cs; ⟨v,w',r,stepsIn_wide.2 s⟩
  rcases hF with rfl|⟨l,rfl⟩
  · exact h0
  · exact h0
def gN:Op→Bool
  | .defer _=>false
  | _=>true
theorem EA(hF:fx F)(hd:gN o.op=true)(h:o.wp P a w K Q) : o.wpIn F n P a w K Q:=by
  refine⟨fun f _=>hF.fn f,?_⟩
  rw[Oper.semAt_eq _ _ _ (fun c hc=>by rw[hc] at hd;cases hd)]
  unfold Oper.wp at h
  have hdep:∀ {p:Prop},F.depth.isSome=true→p:=fun h=>by rw[hF.depth] at h;cases h
  generalize (execOp a.eval o).run P w=r at h ⊢
  cases r with
  | ok x w' =>
    cases x<;>simp only[Oper.upon,Oper.uponIn] at h ⊢
    case value u=>exact h
    case skip=>exact h
    case defer d=>exact h
    case enter f args=>exact⟨hdep,BI hF h⟩
    case row row args=>exact⟨hdep,CY hF h⟩
  | halt x w' =>
    cases x<;>simp only[Oper.upon,Oper.uponIn] at h ⊢
    case panic u=>exact h
theorem EB{id:Nat}{l:List Oper}(n:Nat)(h:WF Fence.wide n P l.toArray Q l a w) : (Code.region id l.toArray false).wp P Q a w:=wpIn_wide.1 (wpIn_region_lit h.out)
theorem DI{id:Nat}{l:List Oper}(h:WF F n P l.toArray Q l a w) : (Code.region id l.toArray false).wpIn F n P Q a w:=wpIn_region_lit h.out
theorem Dw(h:Q .normal a w) : WF F n P ops Q [] a w:=⟨h⟩
theorem Ei(hF:fx F)(hd:gN o.op=true)(hw:Region.wanted o (yielded ops a.tmps)=true)(h:OW P o a w (WF F n P ops Q rest) Q) : WF F n P ops Q (o :: rest) a w:=by
  refine⟨?_⟩
  unfold wpListIn
  rw[if_pos hw]
  exact EA hF hd (kD h fun _ _ h=>h.out)
theorem DS(hF:fx F)(hw:Region.wanted o (yielded ops a.tmps)=false)(hN:o.dst=N)(h:WF F n P ops Q rest (a.put N undef) w) : WF F n P ops Q (o :: rest) a w:=by
  subst hN
  refine⟨?_⟩
  unfold wpListIn
  rw[if_neg (by simp[hw])]
  exact⟨fun f _=>hF.fn f,h.out⟩
theorem Cu{x:Operand}{opds:Array Operand}{ts:Array TypeId}{l:Nat}{r:Loop}(args:Array Value)(hw:Region.wanted o (yielded ops a.tmps)=true)(hN:o.dst=N)(hop:o.op = .call { callee:=.value x,args:=opds,argTypes:=ts })
    (hx:a.eval x = .func (.yield l) #[] #[]) (hargs:opds.map a.eval=args) (hl:w.heap[l]? = some (.loop r)) (hs:args.size=r.params.size)
    (h:RoundIn Fence.wide (n-1) P l r.fn ((r.params.zip args).foldl (fun tmps (t,a)=>tmps.setIfInBounds t a) r.tmps) r.assign r.body w (fun e w'=>∃ v,e = .returned v∧WF Fence.wide n P ops Q rest (a.put N v) w')) : WF Fence.wide n P ops Q (o :: rest) a w:=by
  subst hN
  refine⟨?_⟩
  unfold wpListIn
  rw[if_pos hw]
  refine⟨fun f _=>trivial,?_⟩
  have hrun:(o.semAt Fence.wide.round a.eval).run P w = .ok (.round l r.fn ((r.params.zip args).foldl (fun tmps (t,a)=>tmps.setIfInBounds t a) r.tmps) r.assign r.body) w:=by
    show(execOp a.eval o).run P w=_
    unfold execOp
    simp only[hop,resolve,hx,Deferred.ofValue,Sem.run_bind,Sem.run_pure,Result.andThen_ok,invoke,hargs]
    have:=run_yield (P:=P) (args:=args) hl hs
    simpa using this
  rw[hrun,Oper.uponIn_round]
  refine⟨(by simp[Fence.wide]),h.mono fun e w' hh=>?_⟩
  obtain⟨v,rfl,h2⟩:=hh
  exact h2.out
end
theorem zy{P:Program}{n:Nat}{ops:Array Oper}{Q:Exit→Act→World→Prop}{rest:List Oper}{o:Oper}{a:Act}{w:World}{N:Option Tmp}{x:Operand}{opds:Array Operand}{ts:Array TypeId}{l:Nat}{r:Loop}(v:Value)(p:Tmp)(hw:Region.wanted o (yielded ops a.tmps)=true)(hN:o.dst=N)(hop:o.op = .call { callee:=.value x,args:=opds,argTypes:=ts })
    (hx:a.eval x = .func (.yield l) #[] #[]) (hargs:opds.map a.eval = #[v]) (hl:w.heap[l]? = some (.loop r)) (hp:r.params = #[p])
    (h:RoundIn Fence.wide (n-1) P l r.fn (r.tmps.setIfInBounds p v) r.assign r.body w (fun e w'=>∃ u,e = .returned u∧WF Fence.wide n P ops Q rest (a.put N u) w')) : WF Fence.wide n P ops Q (o :: rest) a w:=by
  refine Cu #[v] hw hN hop hx hargs hl (by rw[hp];rfl) ?_
  have:((r.params.zip #[v]).foldl (fun tmps (t,a)=>tmps.setIfInBounds t a) r.tmps)=r.tmps.setIfInBounds p v:=by rw[hp];simp
  rw[this]
  exact h
theorem iH{w:World}{l:Nat}(o:Go.Obj) : aH [l] w (w.putObj l o) :=
  ⟨rfl,rfl,rfl,by simp[World.putObj],fun k hk hn=>World.putObj_heap_other (by simpa using hn)⟩
theorem mP{w:World}{l:Nat}{o:Go.Obj}(o':Go.Obj)(h:w.heap[l]? = some o) : (w.putObj l o').heap[l]? = some o':=World.putObj_heap_same (aq h)
def kN:Go.Obj→Bool
  | .cells ..=>false
  | _=>true
theorem aS.updl{α:Type}{m:Md}{e:TypeId}{sz:Nat}{R:World→α→List Value→Prop}{w w':World}{v:Value}{xs:List α}{l:Nat}{o:Go.Obj}
    (h:aS m e sz R w v xs) (hu:aH [l] w w') (hl:w.heap[l]? = some o) (ho:kN o=true) (hR:∀ x cs,R w x cs→R w' x cs) : aS m e sz R w' v xs:=by
  obtain⟨A,c,rfl,h1,h2,h0,h3⟩:=h
  refine⟨A,c,rfl,h1,h2,h0,fun hp=>?_⟩
  obtain⟨b,off,cells,t,fr,rfl,hb,ht,hx⟩:=h3 hp
  refine⟨b,off,cells,t,fr,rfl,?_,ht,fun j x hj=>?_⟩
  · refine hu.blk (fun hbs=>?_) hb
    simp at hbs
    subst hbs
    rw[hl] at hb
    injection hb with hb
    subst hb
    cases ho
  · obtain⟨cs,hl,hr,hc⟩:=hx j x hj
    exact⟨cs,hl,hR _ _ hr,hc⟩
theorem aZ.updl{m:Md}{w w':World}{v:Value}{xs:List Int}{l:Nat}{o:Go.Obj}(h:aZ m w v xs)(hu:aH [l] w w')(hl:w.heap[l]? = some o)(ho:kN o=true) : aZ m w' v xs:=aS.updl h hu hl ho fun _ _ h=>h
theorem ey.updl{m:Md}{w w':World}{v:Value}{xs:List Int}{l:Nat}{o:Go.Obj}(h:ey m w v xs)(hu:aH [l] w w')(hl:w.heap[l]? = some o)(ho:kN o=true) : ey m w' v xs:=aS.updl h hu hl ho fun _ _ h=>h
theorem bI.updl{m:Md}{w w':World}{l:Nat}{o:Go.Obj}(hu:aH [l] w w')(hl:w.heap[l]? = some o)(ho:kN o=true)(r:dx)(cs:List Value)(h:bI m w r cs) : bI m w' r cs:=by
  obtain⟨v,h1,h2,h3⟩:=h
  exact⟨v,h1,ey.updl h2 hu hl ho,h3⟩
theorem ak.updl{w w':World}{g:Nat}{c:ah}{l:Nat}{o:Go.Obj}(h:ak w g c)(hu:aH [l] w w')(hg:g∉[l])(hl:w.heap[l]? = some o)(ho:kN o=true) : ak w' g c:=by
  obtain⟨v,hb,hr,hn⟩:=h
  exact⟨v,hu.blk hg hb,hr.updl hu hl ho,hn⟩
theorem yO{n:Nat}{P:Program}{l:Nat}{f:FuncId}{tmps:Array Value}{assign body:Code}{w:World}{r:Loop}{R:Ending→World→Prop}
    (h:assign.wpIn (Fence.wide.inRound l) n P (Exit.then (fun a₁ w₁=>w₁.heap[l]? = some (.loop r)∧r.state = .ready∧∀ w₂,w₂.heap[l]? = some (.loop { r with state:=.busy })→aH [l] w₁ w₂ →
      body.wpIn (Fence.wide.inRound l) n P (Exit.then (fun _ w₃=>∃ r',w₃.heap[l]? = some (.loop r')∧∀ w₄,w₄.heap[l]? = some (.loop { r' with state:=.ready,pending:=none })→aH [l] w₃ w₄→R (.returned (.bool true)) w₄) (fun _ _ _=>False)) a₁ w₂) (fun _ _ _=>False)) { tmps:=tmps,defers:=[] } w) :
    RoundIn Fence.wide n P l f tmps assign body w R:=by
  refine roundIn_of_wpIn trivial (Code.wpIn_mono (fun e a w q=>?_) h)
  cases e with
  | normal =>
    obtain⟨h1,h2,h3⟩:=q
    refine⟨_,run_beginRound h1 h2,Code.wpIn_mono (fun e a w q=>?_) (h3 _ (mP _ h1) (iH _))⟩
    cases e with
    | normal =>
      obtain⟨r',h4,h5⟩:=q
      exact⟨_,_,run_endRound none h4,h5 _ (mP _ h4) (iH _)⟩
    | _=>exact q.elim
  | _=>exact q.elim
theorem mN{n:Nat}{P:Program}{l:Nat}{f:FuncId}{tmps:Array Value}{assign body:Code}{w:World}{r:Loop}{R:Ending→World→Prop}
    (hl:w.heap[l]? = some (.loop r))
    (h:assign.wpIn (Fence.wide.inRound l) n P (Exit.then (fun a₁ w₁=>w₁.heap[l]? = some (.loop r)∧r.state = .ready∧∀ w₂,w₂.heap[l]? = some (.loop { r with state:=.busy })→aH [l] w₁ w₂ →
      body.wpIn (Fence.wide.inRound l) n P (Exit.then (fun _ w₃=>∃ r',w₃.heap[l]? = some (.loop r')∧∀ w₄,w₄.heap[l]? = some (.loop { r' with state:=.ready,pending:=none })→aH [l] w₃ w₄→R (.returned (.bool true)) w₄) (fun _ _ _=>False)) a₁ w₂) (fun _ _ _=>False)) { tmps:=tmps,defers:=[] } w) :
    RoundIn Fence.wide n P l f tmps assign body w R:=yO h
theorem xc{P:Program}{Q:Exit→Act→World→Prop}{a:Act}{w:World}{g:Operand}{ps:Array Tmp}{assign body:Code}{f:FuncId}{fn:Func}(cap:Array Value)
    (hx : a.eval g = .func (.func f) #[] cap) (hf : P.funcs[f]? = some fn) (hname : (fn.name == "runtime.NumGoroutine") = false) (hb : fn.body.isSome = true)
    (h:∀ fn0 D l w₂,w.heap.size≤D→w.heap.size≤l→D≠l→w₂.heap[D]? = some (.deferred (some []))→w₂.heap[l]? = some (.loop { state:=.ready,pending:=none,fn:=fn0,tmps:=a.tmps,params:=ps,assign:=assign,body:=body,defers:=D })→aH [] w w₂ →
      Calls P f (#[.func (.yield l) #[] #[]]++cap) w₂ (fun e w₃=>∃ v r',e = .returned v∧w₃.heap[l]? = some (.loop r')∧r'.state≠.busy∧r'.pending=none∧∀ w₄,aH [l] w₃ w₄→Q .normal { a with defers:={ target:=.collected D,args:=#[] } :: a.defers } w₄)) :
    (Code.rangeFunc g ps assign body).wp P Q a w:=by
  refine(wpIn_wide (n:=9)).1 (wpIn_rangeFunc fun fn0 _=>?_)
  have h1 : fn.name ≠ "runtime.NumGoroutine" := by simpa using hname
  obtain⟨cd,hcd⟩:=Option.isSome_iff_exists.1 hb
  refine⟨w.heap.size+1,[{ target:=.collected w.heap.size,args:=#[] }],((w.alloc (.deferred (some []))).alloc (.loop { state:=.ready,pending:=none,fn:=fn0,tmps:=a.tmps,params:=ps,assign:=assign,body:=body,defers:=w.heap.size })),
    { target:=.fn (.func f) cap,args:=#[]++#[.func (.yield (w.heap.size+1)) #[] #[]] },((w.alloc (.deferred (some []))).alloc (.loop { state:=.ready,pending:=none,fn:=fn0,tmps:=a.tmps,params:=ps,assign:=assign,body:=body,defers:=w.heap.size })),
    f,#[.func (.yield (w.heap.size+1)) #[] #[]]++cap,((w.alloc (.deferred (some []))).alloc (.loop { state:=.ready,pending:=none,fn:=fn0,tmps:=a.tmps,params:=ps,assign:=assign,body:=body,defers:=w.heap.size })),run_enterLoop_outer fn0 a.tmps ps assign body,?_,fun _ _=>trivial,?_,by simp[Fence.wide],?_⟩
  · unfold resolve
    simp only[rangeCall,hx,Deferred.ofValue,Sem.run_pure,List.map_toArray,List.map_cons,List.map_nil]
    rfl
  · simp[invoke,callFunc,hf,h1,hcd]
  · have hD:((w.alloc (.deferred (some []))).alloc (.loop { state:=.ready,pending:=none,fn:=fn0,tmps:=a.tmps,params:=ps,assign:=assign,body:=body,defers:=w.heap.size })).heap[w.heap.size]? = some (.deferred (some [])):=AW (eW w _) _
    have hl:((w.alloc (.deferred (some []))).alloc (.loop { state:=.ready,pending:=none,fn:=fn0,tmps:=a.tmps,params:=ps,assign:=assign,body:=body,defers:=w.heap.size })).heap[w.heap.size+1]? = some (.loop { state:=.ready,pending:=none,fn:=fn0,tmps:=a.tmps,params:=ps,assign:=assign,body:=body,defers:=w.heap.size }):=by
      have:=eW (w.alloc (.deferred (some []))) (.loop { state:=.ready,pending:=none,fn:=fn0,tmps:=a.tmps,params:=ps,assign:=assign,body:=body,defers:=w.heap.size })
      simpa using this
    refine callsIn_wide.2 ((h fn0 w.heap.size (w.heap.size+1) _ (Nat.le_refl _) (by omega) (by omega) hD hl (((aH.refl [] w).alloc _).alloc _)).mono ?_)
    rintro e w₃ ⟨v,r',rfl,h3,h4,h5,h6⟩
    refine⟨_,_,run_endLoop h3 h4,?_⟩
    rw[h5]
    exact h6 _ (iH _)
theorem s5{P:Program}{f:FuncId}{fn:Func}{c:Code}{args:Array Value}{w:World}{R:Ending→World→Prop}(hf:P.funcs[f]? = some fn)(hb:fn.body=some c)
    (h:c.wp P (bodyPostM Fence.wide 9 P fn R) { tmps:=args++Array.replicate (fn.ntmps-args.size) undef,defers:=[] } w) : Calls P f args w R :=
  callsIn_wide.1 (callsIn_of_wp_marks hf hb trivial (wpIn_wide.2 h) rfl)
theorem BO{P:Program}{fn:Func}{R:Ending→World→Prop}{a:Act}{w:World}{D:Nat}(hd:a.defers=[{ target:=.collected D,args:=#[] }])(hD:w.heap[D]? = some (.deferred (some [])))
    (h:∀ w',aH [D] w w'→∃ v,(results fn a.tmps).run P w' = .ok v w'∧R (.returned v) w') : bodyPostM Fence.wide 9 P fn R .ret a w:=by
  show LeavesInM Fence.wide 9 P fn a.tmps R a.defers .returning w
  rw[hd]
  exact⟨by simp,.inl ⟨D,_,rfl,run_takeDeferred hD,h _ (iH _)⟩⟩
theorem zr{P:Program}{fn:Func}{R:Ending→World→Prop}{a:Act}{w:World}(hd:a.defers=[])(h:∃ v,(results fn a.tmps).run P w = .ok v w∧R (.returned v) w) : bodyPostM Fence.wide 9 P fn R .ret a w:=by
  show LeavesInM Fence.wide 9 P fn a.tmps R a.defers .returning w
  rw[hd]
  exact h
open Go.RowKit
structure GF (E:Fence) (m:Nat) (P:Program) (ops:Array Oper) (Q:Exit→Act→World→Prop) (l:List Oper) (n:Nat) (D:List Deferred) (F:Fr) (w:World) : Prop where
  out:∀ a,Ag n D F a→WF E m P ops Q l a w
structure GI (E:Fence) (m:Nat) (P:Program) (c:Code) (Q:Exit→Act→World→Prop) (n:Nat) (D:List Deferred) (F:Fr) (w:World) : Prop where
  out:∀ a,Ag n D F a→c.wpIn E m P Q a w
section
variable {E:Fence}{m:Nat}{P:Program}{Q:Exit→Act→World→Prop}{n:Nat}{D:List Deferred}{F:Fr}{w:World}{ops:Array Oper}{rest l:List Oper}{d:Option Tmp}{op:Op}{t:TypeId}{s:String}{af:Array Edge}{gu:Option (Nat × Bool)}{x y c:Code}{id:Nat}
theorem DJ(m:Nat)(h:GF Fence.wide m P l.toArray Q l n D F w) : GC P (.region id l.toArray false) Q n D F w:=⟨fun a ha=>EB m (h.out a ha)⟩
theorem CF(h:GF E m P l.toArray Q l n D F w) : GI E m P (.region id l.toArray false) Q n D F w:=⟨fun a ha=>DI (h.out a ha)⟩
theorem DG(h:GI E m P c (Exit.inBlock id Q) n D F w) : GI E m P (.block id c) Q n D F w:=⟨fun a ha=>wpIn_block (h.out a ha)⟩
theorem ww(h:GQ Q .normal n D F w) : GF E m P ops Q [] n D F w:=⟨fun a ha=>Dw (h.out a ha)⟩
theorem El(hE:fx E)(h:OG P ⟨d,op,t,s,af,gu⟩ n D F w (GF E m P ops Q rest n D) Q)(hw:nu ops F gu=(true,true))(hd:gN op=true) : GF E m P ops Q (⟨d,op,t,s,af,gu⟩ :: rest) n D F w :=
  ⟨fun a ha=>Ei hE hd (gP ha hw) (h.out a ha _ fun F' w' a' k ha'=>k.out a' ha')⟩
theorem Eh(hE:fx E){o:Oper}(h:GF E m P ops Q rest n D (sA P ops w F o) w)(hc:vG P ops w n 1 (o :: rest) F=wg P ops w 1 (o :: rest) F)(hd:gN o.op=true) : GF E m P ops Q (o :: rest) n D F w:=by
  simp only[vG,wg,List.cons.injEq,Prod.mk.injEq,Bool.and_eq_true] at hc
  obtain⟨⟨⟨h1,h2,h3⟩,h4⟩,h5⟩:=hc
  refine⟨fun a ha=>?_⟩
  cases hon:(nu ops F o.guard).2 with
  | true =>
    rw[hon] at h3 h4
    simp only[cond_true] at h3 h4
    have hst:sA P ops w F o=pt o.dst (vo P w F o) F:=by simp[sA,hon]
    rw[hst] at h
    exact Ei hE hd (gP ha (Prod.ext h1 hon)) (iK (N:=o.dst) (vo P w F o) rfl (by rw[← jE ha h3];exact h4) (h.out _ (ha.put h2)))
  | false =>
    have hst:sA P ops w F o=pt o.dst undef F:=by simp[sA,hon]
    rw[hst] at h
    exact DS (N:=o.dst) hE (gP ha (Prod.ext h1 hon)) rfl (h.out _ (ha.put h2))
theorem F0(h:OG P ⟨d,op,t,s,af,gu⟩ n D F w (GF Fence.wide m P ops Q rest n D) Q)(hw:nu ops F gu=(true,true):=by kernel_rfl)(hd:gN op=true:=by kernel_rfl) : GF Fence.wide m P ops Q (⟨d,op,t,s,af,gu⟩ :: rest) n D F w:=El mR h hw hd
theorem nO{q:Nat}(h:OG P ⟨d,op,t,s,af,gu⟩ n D F w (GF (Fence.wide.inRound q) m P ops Q rest n D) Q)(hw:nu ops F gu=(true,true):=by kernel_rfl)(hd:gN op=true:=by kernel_rfl) : GF (Fence.wide.inRound q) m P ops Q (⟨d,op,t,s,af,gu⟩ :: rest) n D F w:=El (ls _) h hw hd
theorem Fp{o:Oper}(h:GF Fence.wide m P ops Q rest n D (sA P ops w F o) w)(hc:vG P ops w n 1 (o :: rest) F=wg P ops w 1 (o :: rest) F:=by kernel_rfl)(hd:gN o.op=true:=by kernel_rfl) : GF Fence.wide m P ops Q (o :: rest) n D F w:=Eh mR h hc hd
theorem CG{q:Nat}{o:Oper}(h:GF (Fence.wide.inRound q) m P ops Q rest n D (sA P ops w F o) w)(hc:vG P ops w n 1 (o :: rest) F=wg P ops w 1 (o :: rest) F:=by kernel_rfl)(hd:gN o.op=true:=by kernel_rfl) : GF (Fence.wide.inRound q) m P ops Q (o :: rest) n D F w:=Eh (ls _) h hc hd
theorem DD(j:Nat)(e:Bool)(ht:e=true→GF E m P ops Q l n D ((j,.bool true) :: F) w)(hf:e=false→GF E m P ops Q l n D ((j,.bool false) :: F) w)(hv:lk F j=some (.bool e):=by kernel_rfl) : GF E m P ops Q l n D F w:=by
  refine⟨fun a ha=>?_⟩
  have key:∀ b,e=b→Ag n D ((j,.bool b) :: F) a:=fun b hb=>⟨ha.sz,ha.df,fun i v hi=>by
    rcases iO hi with⟨rfl,rfl⟩|⟨_,h2⟩
    · rw[← hb];exact ha.at_ _ _ hv
    · exact ha.at_ _ _ h2⟩
  rcases jr e with q|q
  · exact(ht q).out a (key _ q)
  · exact(hf q).out a (key _ q)
theorem Fy{x:Operand}{opds:Array Operand}{ts:Array TypeId}{q:Nat}{r:Loop}(v:Value)(p:Tmp)(hl:w.heap[q]? = some (.loop r))(hp:r.params = #[p])
    (h:RoundIn Fence.wide (m-1) P q r.fn (r.tmps.setIfInBounds p v) r.assign r.body w (fun e w'=>∃ u,e = .returned u∧GF Fence.wide m P ops Q rest n D (pt d u F) w'))
    (hw:nu ops F gu=(true,true):=by kernel_rfl) (hx:fk F x=some (.func (.yield q) #[] #[]):=by kernel_rfl) (ha:opds.toList.map (fk F)=[some v]:=by kernel_rfl) (hd:gH n d=true:=by kernel_rfl) :
    GF Fence.wide m P ops Q (⟨d,.call { callee:=.value x,args:=opds,argTypes:=ts },t,s,af,gu⟩ :: rest) n D F w :=
  ⟨fun a hag=>zy v p (gP hag hw) rfl rfl (hag.ev hx) (by apply Array.toList_inj.1;rw[Array.toList_map];exact ma (vs:=[v]) hag ha) hl hp (h.mono fun e w' hh=>by
    obtain⟨u,rfl,hk⟩:=hh
    exact⟨u,rfl,hk.out _ (hag.put hd)⟩)⟩
theorem sw{g:Operand}{ps:Array Tmp}{assign body:Code}{f:FuncId}(cap:Array Value)
    (h:∀ a,Ag n D F a→∀ fn0 D' q w₂,w.heap.size≤D'→w.heap.size≤q→D'≠q→w₂.heap[D']? = some (.deferred (some []))→w₂.heap[q]? = some (.loop { state:=.ready,pending:=none,fn:=fn0,tmps:=a.tmps,params:=ps,assign:=assign,body:=body,defers:=D' })→aH [] w w₂ →
      Calls P f (#[.func (.yield q) #[] #[]]++cap) w₂ (fun e w₃=>∃ v r',e = .returned v∧w₃.heap[q]? = some (.loop r')∧r'.state≠.busy∧r'.pending=none∧∀ w₄,aH [q] w₃ w₄→GQ Q .normal n ({ target:=.collected D',args:=#[] } :: D) F w₄))
    (hx:fk F g=some (.func (.func f) #[] cap):=by kernel_rfl) (hf:BZ P f=some (false,true):=by kernel_rfl) : GC P (.rangeFunc g ps assign body) Q n D F w:=by
  obtain⟨fn,h1,h2,h3⟩:=ku hf
  refine⟨fun a ha=>xc cap (ha.ev hx) h1 h2 h3 fun fn0 D' q w₂ g1 g2 g3 g4 g5 g6=>(h a ha fn0 D' q w₂ g1 g2 g3 g4 g5 g6).mono fun e w₃ hh=>?_⟩
  obtain⟨v,r',k1,k2,k3,k4,k5⟩:=hh
  exact⟨v,r',k1,k2,k3,k4,fun w₄ hu=>(k5 w₄ hu).out _ ⟨ha.sz,by rw[ha.df],ha.at_⟩⟩
theorem DX{a:Act}(ha:Ag n D F a)(p:Tmp){v:Value}(h:GI E m P c Q n [] ((p,v) :: F) w)(hp:Nat.blt p n=true:=by kernel_rfl) : c.wpIn E m P Q { tmps:=a.tmps.setIfInBounds p v,defers:=[] } w:=by
  have h0:Ag n [] F { tmps:=a.tmps,defers:=[] }:=⟨ha.sz,rfl,ha.at_⟩
  exact h.out _ (h0.put (d:=some p) hp)
theorem DV{r:Loop}{q:Nat}{c:Code}{Qb:Exit→Act→World→Prop}(h1:w.heap[q]? = some (.loop r))(h2:r.state = .ready)(h:∀ w₂,w₂.heap[q]? = some (.loop { r with state:=.busy })→aH [q] w w₂→GI E m P c Qb n D F w₂) :
    GQ (Exit.then (fun a₁ w₁=>w₁.heap[q]? = some (.loop r)∧r.state = .ready∧∀ w₂,w₂.heap[q]? = some (.loop { r with state:=.busy })→aH [q] w₁ w₂→c.wpIn E m P Qb a₁ w₂) Q) .normal n D F w:=⟨fun a ha=>⟨h1,h2,fun w₂ k1 k2=>(h w₂ k1 k2).out a ha⟩⟩
theorem DQ{r:Loop}{q:Nat}{Z:World→Prop}(h1:w.heap[q]? = some (.loop r))(h:∀ w₄,w₄.heap[q]? = some (.loop { r with state:=.ready,pending:=none })→aH [q] w w₄→Z w₄) :
    GQ (Exit.then (fun _ w₃=>∃ r',w₃.heap[q]? = some (.loop r')∧∀ w₄,w₄.heap[q]? = some (.loop { r' with state:=.ready,pending:=none })→aH [q] w₃ w₄→Z w₄) Q) .normal n D F w:=⟨fun a ha=>⟨r,h1,h⟩⟩
end
section
variable {P:Program}{n:Nat}{F:Fr}{w:World}{fn:Func}{R:Ending→World→Prop}
theorem CH{f:FuncId}{c:Code}{args:List Value}{w:World}(n:Nat)(hf:P.funcs[f]? = some fn)(hb:fn.body=some c)
    (h:GC P c (bodyPostM Fence.wide 9 P fn R) n [] (wY 0 args) w) (hn:args.length+(fn.ntmps-args.length)=n:=by kernel_rfl) : Calls P f args.toArray w R:=by
  subst hn
  exact s5 hf hb (by simpa using h.out _ (Ed (args:=args) (m:=fn.ntmps-args.length)))
theorem CD{D:Nat}(hD:w.heap[D]? = some (.deferred (some [])))(h:∀ w',aH [D] w w'→GQ (fun _ a w'=>∃ v,(results fn a.tmps).run P w' = .ok v w'∧R (.returned v) w') .ret n [{ target:=.collected D,args:=#[] }] F w') : GQ (bodyPostM Fence.wide 9 P fn R) .ret n [{ target:=.collected D,args:=#[] }] F w :=
  ⟨fun a ha=>BO ha.df hD fun w' hu=>(h w' hu).out a ha⟩
theorem rx{D:List Deferred}{g:Nat}{cs:Array Value}{t:TypeId}{fr:Nat × Nat}(B:w.heap[g]? = some (.cells cs t fr))(u:Value)(h:R (.returned (.tuple #[.agg cs,u])) w)(hc:CE P fn.results F=some (some (.pointer (some ⟨g,0,none⟩)),some u,some true,some cs.size):=by kernel_rfl) : GQ (fun _ a w'=>∃ v,(results fn a.tmps).run P w' = .ok v w'∧R (.returned v) w') .ret n D F w :=
  ⟨fun a ha=>⟨_,mb ha B rfl hc,h⟩⟩
theorem ry{g:Nat}{cs:Array Value}{t:TypeId}{fr:Nat × Nat}(B:w.heap[g]? = some (.cells cs t fr))(u:Value)(h:R (.returned (.tuple #[.agg cs,u])) w)(hc:CE P fn.results F=some (some (.pointer (some ⟨g,0,none⟩)),some u,some true,some cs.size):=by kernel_rfl) : GQ (bodyPostM Fence.wide 9 P fn R) .ret n [] F w :=
  ⟨fun a ha=>zr ha.df ⟨_,mb ha B rfl hc,h⟩⟩
end
open Go.RowKit
def Ck (mk:Nat→Value)(w:World)(e:Ending)(w':World) : Prop:=∃ gs,e = .returned (.tuple #[mk gs,.bool true])∧w.heap.size≤gs∧w'.heap[gs]? = some (.cells #[.int .i64 0] 3 (0,0))∧aH [] w w'
def DB (gs:Nat) : Value:=.agg #[.func (.func 215) #[] #[],.func (.func 213) #[] #[.pointer (some ⟨gs,0,none⟩)]]
def DE (gs:Nat) : Value:=.agg #[.func (.func 216) #[] #[],.func (.func 217) #[] #[]]
def DM (gs:Nat) : Value:=.agg #[.func (.func 218) #[] #[],.func (.func 219) #[] #[]]
theorem zm{w:World}:Calls Tryz.prog 153 #[vI 0,vB 20] w (Ck DB w):=by
 refine en 27 Tryz.func153 rfl<|sg<|aK #[.nilFunc,.nilFunc] fun m n g b c=>Pl 1<|ng<|aK #[vI 0] fun d o a h i=>L0<|ci h 0 #[vI 0] fun p j k=>nt<|sq<|go<|ai 2<|sq<|bk<|aE 7<|c1<|al 2<|?_
 have e:=ud i k a
 refine aG (ub e b) #[.func (.func 215) #[] #[],.func (.func 213) #[] #[vP d 0]] fun q l f=>ai 1<|rt<|br<|tr<|bJ l (.bool true)<|?_
 exact⟨d,rfl,(Nat.le_trans c.size a),(be f (Ne.symm (nb (aq b) lr a)) j),(ud c (uz e f) g)⟩
theorem AS{w:World}:Calls Tryz.prog 153 #[vI 1,vB 20] w (Ck DE w):=by
 refine en 27 Tryz.func153 rfl<|sg<|aK #[.nilFunc,.nilFunc] fun m n f b c=>Pl 1<|ng<|aK #[vI 0] fun g o a h i=>L0<|ci h 0 #[vI 0] fun p j k=>nt<|sq<|go<|ai 2<|sq<|bk<|aE 7<|c0<|aE 3<|c1<|al 1<|?_
 have d:=ud i k a
 refine aG (ub d b) #[.func (.func 216) #[] #[],.func (.func 217) #[] #[]] fun q l e=>ai 1<|rt<|br<|tr<|bJ l (.bool true)<|?_
 exact⟨g,rfl,(Nat.le_trans c.size a),(be e (Ne.symm (nb (aq b) lr a)) j),(ud c (uz d e) f)⟩
theorem Aj{dir:Int}{w:World}:Calls Tryz.prog 153 #[vI dir,vB 21] w (Ck DM w):=by
 refine en 27 Tryz.func153 rfl<|sg<|aK #[.nilFunc,.nilFunc] fun m n f b c=>Pl 1<|ng<|aK #[vI 0] fun g o a h i=>L0<|ci h 0 #[vI 0] fun p j k=>nt<|sq<|go<|ai 2<|sq<|bk<|aE 7<|c0<|aE 3<|c0<|aE 3<|c1<|al 1<|?_
 have d:=ud i k a
 refine aG (ub d b) #[.func (.func 218) #[] #[],.func (.func 219) #[] #[]] fun q l e=>ai 1<|rt<|br<|tr<|bJ l (.bool true)<|?_
 exact⟨g,rfl,(Nat.le_trans c.size a),(be e (Ne.symm (nb (aq b) lr a)) j),(ud c (uz d e) f)⟩
theorem ra{dir x:Int}{w:World}(n1:(x==20)=false)(n2:(x==21)=false) : Calls Tryz.prog 153 #[vI dir,vB x] w (cl (.tuple #[.agg #[.nilFunc,.nilFunc],.bool false]) w):=by
 refine en 27 Tryz.func153 rfl<|sg<|aK #[.nilFunc,.nilFunc] fun k l b c d=>Pl 1<|ng<|aK #[vI 0] fun m n e f g=>L0<|ci f 0 #[vI 0] fun o p h=>nt<|sq<|go<|ai 2<|sq<|bk<|al 3<|sy 12 n1<|ai 4<|c0<|aE 3<|cf n1<|aE 3<|cf n2<|sk<|bn<|tn<|al 1<|?_
 have a:=ud g h e
 refine aG (ub a c) #[.nilFunc,.nilFunc] fun q i j=>ai 1<|rt<|bJ i (.bool false)<|?_
 exact⟨rfl,(ud d (uz a j) b)⟩
theorem mB{gb:Nat}{f:Fn}{x y:Array Value}{w:World}:Calls Tryz.prog 157 #[vP gb 0,.func f x y] w (fun e w'=>∃ b1 b2,e = .returned (.func (.func 220) #[] #[vP b1 0,vP b2 0])∧w.heap.size≤b1∧w.heap.size≤b2∧b1≠b2 ∧
      w'.heap[b1]? = some (.cells #[vP gb 0] 164 (0,0))∧w'.heap[b2]? = some (.cells #[.func f x y] 178 (0,0))∧aH [] w w'):=by
 refine en 6 Tryz.func157 rfl<|sg<|L0<|d6 #[vP gb 0] fun a k i b c=>L0<|d6 #[.func f x y] fun d l g j h=>Pl 1<|cE 2<|rt<|rr (.func (.func 220) #[] #[vP a 0,vP d 0])<|?_
 exact⟨a,d,rfl,i,(Nat.le_trans c.size g),(nb (aq b) lr g),(ub h b),j,(aI c h)⟩
theorem uN{g gs:Nat}{s:Int}{C:ah}{w:World}(hC:ak w g C)(hS:w.heap[gs]? = some (.cells #[vI s] 3 (0,0)))(hne:g≠gs)(hs:0≤s∧s≤1000000000000) :
    Calls Tryz.prog 213 #[vP g 0,vP gs 0] w (fun e w'=>∃ A c,e = .returned (.agg #[vW (aV C).file,vW (aV C).record,vW (aV C).count,.slice A (aV C).words.length c])∧ey true w' (.slice A (aV C).words.length c) (aV C).words∧eN (aV C).file∧eN (aV C).record∧eN (aV C).count∧ak w' g (eZ s C)∧w'.heap[gs]? = some (.cells #[vI (fi s C)] 3 (0,0))∧aH [g,gs] w w'):=by
 refine en 19 Tryz.func213 rfl<|sg<|aK #[vW 0,vW 0,vW 0,nS] fun S T b j d=>aM 1<|?_
 refine ay<|BS (rF (ak.old hC d)) fun k l U H I J K m f=>?_
 obtain⟨V,W⟩:=I
 obtain⟨X,Y⟩:=J
 obtain⟨Z,a0⟩:=K
 refine aK #[vW 0,vW 0,vW 0,nS] fun a1 a2 h L M=>aG L #[vW ((aV C).file),vW ((aV C).record),vW ((aV C).count),.slice k ((aV C).words.length) l] fun a3 n N=>ng<|?_
 have o:=ud M N h
 have p:=aI f o
 have q:=be (uz d p) (Ne.symm hne) hS
 refine aD q 0<|Pl 1<|aD n 2<|bq ((aV C).count)<|bq (2*((aV C).count))<|bq (2+(2*((aV C).count)))<|bq (s+(2+(2*((aV C).count))))<|L0<|ci q 0 #[vI (s+(2+(2*((aV C).count))))] fun a4 r t=>aM 1<|aD r 0<|Pl 1<|?_
 have u:=uz o t
 have a:=uz d f
 have v:=be a (Ne.symm hne) hS
 refine ay<|m2 (bt ((decide ((s+(2+(2*((aV C).count))))≤245))) 5 (ak.upd m u (aa hne aF) (ax (b7 v (by decide)) aN))) fun a5 O y=>?_
 refine ab O fun x47 P Q=>?_
 refine ng<|?_
 have z:=us t y
 refine L0<|bN (aH.blk z (aa (Ne.symm (nb (aq hS) a.size h)) (aa (Ne.symm (nb (ak.lt hC) a.size h)) aF)) n)<|?_
 have i:=nb (ak.lt hC) lr b
 have B:=nb (aq hS) lr b
 have D:=aH.blk (ui p z) (aa (Ne.symm B) (aa (Ne.symm i) aF)) j
 refine aG D #[vW ((aV C).file),vW ((aV C).record),vW ((aV C).count),.slice k ((aV C).words.length) l] fun a6 R E=>qG<|By R<|?_
 subst P
 have F:=us y E
 have G:=us u F
 exact⟨_,_,rfl,(ey.upd' H G (ax (b7 v (by decide)) (ax (ak.safe m _ (by decide)) (ax (b7 (be f (Ne.symm i) j) (by decide)) aN)))),cP (x:=(aV C).file) (by omega),cP (x:=(aV C).record) (by omega),cP (x:=(aV C).count) (by omega),(ak.upd Q E (aa i aF) (ax (b7 D (by decide)) aN)),(aH.blk F (aa (Ne.symm hne) (aa B aF)) r),(ut (aH.mono (S':=[g,gs]) a (ac im aA)) G (ac im (ac im (ac (nr b) aA))))⟩
def hY (c:Int)(v:Value) : Array Value:=#[.int .u8 c,.int .u8 0,.int .u16 0,.int .u16 0,.int .u16 0,.int .u16 0,.int .u16 0,.int .u16 0,.int .u16 0,.int .u16 0,.int .u16 0,.int .u16 0,jm,jm,jm,v,.int .u8 0,.int .u8 0,.int .u8 0,.int .u8 0,.int .u8 0,jm]
structure JR (w0:World) (gb gs gm l:Nat) (c:Int) (r:Loop) (C:ah) (s:Int) (L:List dx) (A:Option Addr) (cp:Nat) (W:World) : Prop where
  u:aH [gb,gs,gm,l] w0 W
  hC:ak W gb C
  hS:W.heap[gs]? = some (.cells #[.int .i64 s] 3 (0,0))
  hm:W.heap[gm]? = some (.cells (hY c (.slice A L.length cp)) 45 (0,0))
  ho:b6 w0.heap.size 98 4 (bI true) W (.slice A L.length cp) L
  hl:W.heap[l]? = some (.loop r)
def dl (s:Int)(C:ah) : Int × ah × dx:=(fi s C,eZ s C,aV C)
def bY (s:Int)(C:ah) : Int × ah × dx:=(s,fs C,fp C)
def dr (s:Int)(C:ah) : Int × ah × dx:=(s,jX C,jT C)
def aY (one:Int→ah→Int × ah × dx) : Nat→Int→ah→List dx→ah × List dx
  | 0,_,C,L=>(C,L)
  | n+1,s,C,L =>
    if decide (0<(C.l.length:Int))&&C.e==0 then
      (if (one s C).2.1.e != 0 then ((one s C).2.1,L) else aY one n (one s C).1 (one s C).2.1 (L++[(one s C).2.2]))
    else (C,L)
theorem jR(C:ah)(n:Int) : (C.bytesC n).l.length≤C.l.length:=by
  unfold ah.bytesC
  split
  · unfold ah.need
    split<;>simp
  · simp
theorem mT(C:ah)(h:0<C.l.length) : (C.bytesC 1).l.length<C.l.length:=by
  unfold ah.bytesC
  split
  · unfold ah.need
    split<;>simpa using h
  · simp
    omega
theorem ff(C:ah)(b:Bool)(e:Int) : (C.need b e).l.length=C.l.length:=by
  unfold ah.need
  split<;>rfl
theorem fv(C:ah)(n:Int) : (C.wordsC n).l.length≤C.l.length:=by
  unfold ah.wordsC
  split<;>exact jR ..
theorem qu(C:ah)(h:0<C.l.length) : (dQ C).l.length<C.l.length:=by
  have h1:(j8 C).l.length<C.l.length:=by unfold j8;rw[ff];exact mT C h
  have h2:(jJ C).l.length≤(j8 C).l.length:=by unfold jJ;rw[ff];exact fv ..
  have h3:(nw C).l.length≤(jJ C).l.length:=by unfold nw;rw[ff];exact fv ..
  have h4:(dQ C).l.length≤(nw C).l.length:=by unfold dQ;rw[ff];exact fv ..
  omega
theorem pg(s:Int)(C:ah)(h:0<C.l.length) : (dl s C).2.1.l.length<C.l.length:=by
  show(eZ s C).l.length<_
  unfold eZ
  rw[ff]
  exact qu C h
theorem kB(s:Int)(C:ah)(h:0<C.l.length) : (bY s C).2.1.l.length<C.l.length:=by
  show(fs C).l.length<_
  have h1:(j0 C).l.length<C.l.length:=by unfold j0;rw[ff];exact mT C h
  have h2:(gv C).l.length≤(j0 C).l.length:=by unfold gv;rw[ff];exact jR ..
  have h3:(fs C).l.length≤(gv C).l.length:=by unfold fs;exact fv ..
  omega
theorem pI(s:Int)(C:ah)(h:0<C.l.length) : (dr s C).2.1.l.length<C.l.length:=by
  show(jX C).l.length<_
  have h1:=qu C h
  have h2:(nB C).l.length=(dQ C).l.length:=by unfold nB;rw[ff]
  have h3:(jX C).l.length≤(nB C).l.length:=by unfold jX;exact fv ..
  omega
theorem iB(one:Int→ah→Int × ah × dx)(n:Nat)(s:Int)(C:ah)(L:List dx)(h:(decide (0<(C.l.length:Int))&&C.e==0)=false) : aY one n s C L=(C,L):=by
  cases n with
  | zero=>rfl
  | succ n=>simp only[aY,h,Bool.false_eq_true,if_false]
open Go.RowKit
def eC (fn0:FuncId)(tm:Array Value)(asg bdy:Code)(D:Nat) : Loop:={ state:=.ready,pending:=none,fn:=fn0,tmps:=tm,params:=#[53],assign:=asg,body:=bdy,defers:=D }
def sK (w:World)(gb gs gm l:Nat)(c:Int)(R:Loop) : Prop:=∀ (W:World)(C:ah)(s:Int)(L:List dx)(A:Option Addr)(cp:Nat)(x:dx)(Ax:Option Addr)(cx:Nat),JR w gb gs gm l c R C s L A cp W→ey true W (.slice Ax x.words.length cx) x.words→eN x.file→eN x.record→eN x.count→L.length≤1048576 →
    RoundIn Fence.wide 8 Tryz.prog l R.fn (R.tmps.setIfInBounds 53 (.agg #[.int .u16 x.file,.int .u16 x.record,.int .u16 x.count,.slice Ax x.words.length cx])) R.assign R.body W (fun e W'=>e = .returned (.bool true)∧W.heap.size≤W'.heap.size∧∃ A2 c2,JR w gb gs gm l c R C s (L++[x]) A2 c2 W')
theorem Bw{w:World}{gb gs gm l b1 b2 fn0 D:Nat}{tm:Array Value}{asg bdy:Code}{c:Int}{C0:ah}(hC:ak w gb C0)(hS:w.heap[gs]? = some (.cells #[vI 0] 3 (0,0)))(hm:w.heap[gm]? = some (.cells (hY c jm) 45 (0,0)))
    (hl:w.heap[l]? = some (.loop (eC fn0 tm asg bdy D))) (hb1:w.heap[b1]? = some (.cells #[vP gb 0] 164 (0,0))) (hb2:w.heap[b2]? = some (.cells #[.func (.func 213) #[] #[vP gs 0]] 178 (0,0)))
    (n1:gb≠gs) (n2:gb≠gm) (n3:gb≠l) (n4:gs≠gm) (n5:gs≠l) (n6:gm≠l) (m1:b1≠gb) (m2:b1≠gs) (m3:b1≠gm) (m4:b1≠l) (k1:b2≠gb) (k2:b2≠gs) (k3:b2≠gm) (k4:b2≠l) (hround:sK w gb gs gm l c (eC fn0 tm asg bdy D)) :
    Calls Tryz.prog 220 #[.func (.yield l) #[] #[],vP b1 0,vP b2 0] w (fun e W=>e = .returned (.tuple #[])∧∃ s A cp,JR w gb gs gm l c (eC fn0 tm asg bdy D) (aY dl C0.l.length 0 C0 []).1 s (aY dl C0.l.length 0 C0 []).2 A cp W):=by
 have hlen:=hC.len
 refine en 25 Tryz.func220 rfl<|bk<|jf (fun x=>[(0,.func (.yield l) #[] #[]),(1,vP b1 0),(2,vP b2 0)]) (fun(x:Nat × ah × Int × List dx × Option Addr × Nat) w'=>aH [gb,gs,gm,l] w w'∧ak w' gb x.2.1∧w'.heap[gs]? = some (.cells #[vI x.2.2.1] 3 (0,0))∧w'.heap[gm]? = some (.cells (hY c (.slice x.2.2.2.2.1 x.2.2.2.1.length x.2.2.2.2.2)) 45 (0,0))∧w'.heap[l]? = some (.loop (eC fn0 tm asg bdy D))∧b6 w.heap.size 98 4 (bI true) w' (.slice x.2.2.2.2.1 x.2.2.2.1.length x.2.2.2.2.2) x.2.2.2.1∧(aY dl x.1 x.2.2.1 x.2.1 x.2.2.2.1=aY dl C0.l.length 0 C0 [])∧(x.2.1.l.length≤x.1)∧(0≤x.2.2.1∧x.2.2.1≤131074*(x.2.2.2.1.length:Int))∧(x.2.2.2.1.length+x.1≤C0.l.length)) (fun x=>x.1) (C0.l.length,C0,0,[],none,0) ⟨aH.refl _ _,hC,hS,hm,hl,b6.nil ..,rfl,(Nat.le_refl _),(by(try dsimp only);omega),(by(try dsimp only);(try simp only[List.length_nil]);omega)⟩ ?_
 rintro⟨n,C,s,L,A,cp⟩ h ⟨m,J,M,N,O,P,Q,R,S,T⟩
 refine je [(0,.func (.yield l) #[] #[]),(1,vP b1 0),(2,vP b2 0)] ?_
 have b:ak h gb C:=J
 have o:h.heap[gs]? = some (.cells #[vI s] 3 (0,0)):=M
 have t:h.heap[gm]? = some (.cells (hY c (.slice A L.length cp)) 45 (0,0)):=N
 have v:h.heap[l]? = some (.loop (eC fn0 tm asg bdy D)):=O
 have d:b6 w.heap.size 98 4 (bI true) h (.slice A L.length cp) L:=P
 have ae:aY dl n s C L=aY dl C0.l.length 0 C0 []:=Q
 have af:C.l.length≤n:=R
 have ai:0≤s∧s≤131074*(L.length:Int):=S
 have aj:L.length+n≤C0.l.length:=T
 have hrec:aY dl n s C L=aY dl C0.l.length 0 C0 []:=by assumption
 refine sq<|sg<|?_
 have p:=aH.blk m (aa m1 (aa m2 (aa m3 (aa m4 aF)))) hb1
 refine aD p 0<|ay<|mq (eI b)<|?_
 have al:=ak.len b
 refine Pl 2<|cu 4 [8] 12 (((decide (0<(C.l.length:Int)))&&(C.e==0))) (fun K B=>?_) ?_
 refine bl 8 ((decide (0<(C.l.length:Int)))) (fun i=>?_) (fun i=>?_)
 have U:=of_decide_eq_true i
 refine L1<|dD p 0<|L1<|Oc<|mq (bL b)<|?_
 have am:=ak.len b
 exact Pl 2<|ce B (C.e==0) (by rw[i];rfl)
 have U:=of_decide_eq_false i
 exact Pl 4<|ce B false (by rw[i];rfl)
 refine nt<|cb (((decide (0<(C.l.length:Int)))&&(C.e==0))) (fun f=>?_) (fun f=>?_)
 have y:=(bC f).1
 have z:=(bC f).2
 have an:=of_decide_eq_true y
 have ao:=ag z
 refine bj<|bk<|sg<|?_
 refine aD (aH.blk m (aa k1 (aa k2 (aa k3 (aa k4 aF)))) hb2) 0<|aD p 0<|L0<|i3 #[] #[vP gs 0] (args:=#[vP gb 0,vP gs 0])<|Ey (uN (s:=s) b o n1 (by omega)) fun E F ap V X Y Z a0 G a1=>?_
 have ar:fi s C=s+(2+2*(aV C).count):=rfl
 obtain⟨au,aw⟩:=X
 obtain⟨aC,aE⟩:=Y
 obtain⟨aJ,aM⟩:=Z
 refine aK #[vW 0,vW 0,vW 0,nS] fun aO aP a2 a3 a4=>aG a3 #[vW ((aV C).file),vW ((aV C).record),vW ((aV C).count),.slice E ((aV C).words.length) F] fun a5 a6 a7=>nt<|sq<|DJ 9<|?_
 have j:=ud a4 a7 a2
 have a:=aI a1 j
 refine F0<|dD (aH.blk a (aa m1 (aa m2 aF)) p) 0<|?_
 have q:=ak.old a0 j
 refine F0<|Oc<|mq (bL q)<|?_
 have aQ:=ak.len q
 refine Fp<|Fp<|?_
 have H:=ut m a (ac im (ac im aA))
 refine DD 19 ((((eZ s C).e)!=0)) (fun k=>?_) (fun k=>?_)
 have a8:=aB k
 refine Fp<|Fp<|Fp<|Fp<|Fp<|ww<|tn<|c1<|rt<|br<|tr<|br<|rr (.tuple #[])<|?_
 have hfin:aY dl C0.l.length 0 C0 []=((eZ s C),L):=by
   rw[← hrec]
   rw[show n=(n-1)+1 from by omega]
   simp only[aY,dl,f,y,z,k,bi,reduceIte]
 refine⟨rfl,(fi s C),A,cp,?_⟩
 rw[hfin]
 exact⟨H,q,(ub j G),(aH.blk a (aa (Ne.symm n2) (aa (Ne.symm n4) aF)) t),(av d a (fun x hx=>(aa (fun e=>(aL (ak.lt hC) lr d) (e▸hx)) (aa (fun e=>(aL (aq hS) lr d) (e▸hx)) aF))) (bI.upd16 a (ax (ak.safe b _ (by decide)) (ax (b7 o (by decide)) aN)))),(aH.blk a (aa (Ne.symm n3) (aa (Ne.symm n5) aF)) v)⟩
 have a8:=az k
 refine Fp<|F0<|bN a6<|?_
 have I:=aH.blk a (aa (Ne.symm n3) (aa (Ne.symm n5) aF)) v
 have a9:JR w gb gs gm l c (eC fn0 tm asg bdy D) (eZ s C) (fi s C) L A cp a5:=⟨H,q,(ub j G),(aH.blk a (aa (Ne.symm n2) (aa (Ne.symm n4) aF)) t),(av d a (fun x hx=>(aa (fun e=>(aL (ak.lt hC) lr d) (e▸hx)) (aa (fun e=>(aL (aq hS) lr d) (e▸hx)) aF))) (bI.upd16 a (ax (ak.safe b _ (by decide)) (ax (b7 o (by decide)) aN)))),I⟩
 refine Fy (r:=eC fn0 tm asg bdy D) (.agg #[vW ((aV C).file),vW ((aV C).record),vW ((aV C).count),.slice E ((aV C).words.length) F]) 53 I rfl<|?_
 refine RoundIn.mono (hround _ _ _ _ _ _ (aV C) _ _ a9 (ey.upd' V j aN) (cP (by omega)) (cP (by omega)) (cP (by omega)) (by omega)) ?_
 rintro _ aR ⟨rfl,aS,ab,ad,g⟩
 refine⟨_,rfl,?_⟩
 exact Fp<|Fp<|ww<|tn<|c0<|sk<|bn<|gI ((n-1),(eZ s C),(fi s C),(L++[(aV C)]),ab,ad) ⟨g.u,g.hC,g.hS,g.hm,g.hl,g.ho,(by(try dsimp only);rw[← hrec,show n=(n-1)+1 from by omega];simp only[aY,dl,f,y,z,k,bi,Nat.add_sub_cancel,reduceIte]),(by(try dsimp only);have hd:=pg s C (by omega);have jJ:(dl s C).2.1.l.length=(eZ s C).l.length:=rfl;omega),(by(try dsimp only);simp only[bT];omega),(by(try dsimp only);simp only[bT];omega)⟩ (by omega)
 refine xt<|tx<|tx<|bx<|rm (.tuple #[])<|?_
 have hfin:aY dl C0.l.length 0 C0 []=(C,L):=by
   rw[← hrec]
   exact iB _ _ _ _ _ (by simp only[f,bi])
 refine⟨rfl,s,A,cp,?_⟩
 rw[hfin]
 exact⟨m,b,o,t,d,v⟩
theorem BE{w:World}{gb gs gm l b1 b2 fn0 D:Nat}{tm:Array Value}{asg bdy:Code}{c:Int}{C0:ah}(hC:ak w gb C0)(hS:w.heap[gs]? = some (.cells #[vI 0] 3 (0,0)))(hm:w.heap[gm]? = some (.cells (hY c jm) 45 (0,0)))
    (hl:w.heap[l]? = some (.loop (eC fn0 tm asg bdy D))) (hb1:w.heap[b1]? = some (.cells #[vP gb 0] 164 (0,0))) (hb2:w.heap[b2]? = some (.cells #[.func (.func 217) #[] #[]] 178 (0,0)))
    (n1:gb≠gs) (n2:gb≠gm) (n3:gb≠l) (n4:gs≠gm) (n5:gs≠l) (n6:gm≠l) (m1:b1≠gb) (m2:b1≠gs) (m3:b1≠gm) (m4:b1≠l) (k1:b2≠gb) (k2:b2≠gs) (k3:b2≠gm) (k4:b2≠l) (hround:sK w gb gs gm l c (eC fn0 tm asg bdy D)) :
    Calls Tryz.prog 220 #[.func (.yield l) #[] #[],vP b1 0,vP b2 0] w (fun e W=>e = .returned (.tuple #[])∧∃ s A cp,JR w gb gs gm l c (eC fn0 tm asg bdy D) (aY bY C0.l.length 0 C0 []).1 s (aY bY C0.l.length 0 C0 []).2 A cp W):=by
 have hlen:=hC.len
 refine en 25 Tryz.func220 rfl<|bk<|jf (fun x=>[(0,.func (.yield l) #[] #[]),(1,vP b1 0),(2,vP b2 0)]) (fun(x:Nat × ah × Int × List dx × Option Addr × Nat) w'=>aH [gb,gs,gm,l] w w'∧ak w' gb x.2.1∧w'.heap[gs]? = some (.cells #[vI x.2.2.1] 3 (0,0))∧w'.heap[gm]? = some (.cells (hY c (.slice x.2.2.2.2.1 x.2.2.2.1.length x.2.2.2.2.2)) 45 (0,0))∧w'.heap[l]? = some (.loop (eC fn0 tm asg bdy D))∧b6 w.heap.size 98 4 (bI true) w' (.slice x.2.2.2.2.1 x.2.2.2.1.length x.2.2.2.2.2) x.2.2.2.1∧(aY bY x.1 x.2.2.1 x.2.1 x.2.2.2.1=aY bY C0.l.length 0 C0 [])∧(x.2.1.l.length≤x.1)∧(0≤x.2.2.1∧x.2.2.1≤131074*(x.2.2.2.1.length:Int))∧(x.2.2.2.1.length+x.1≤C0.l.length)) (fun x=>x.1) (C0.l.length,C0,0,[],none,0) ⟨aH.refl _ _,hC,hS,hm,hl,b6.nil ..,rfl,(Nat.le_refl _),(by(try dsimp only);omega),(by(try dsimp only);(try simp only[List.length_nil]);omega)⟩ ?_
 rintro⟨n,C,s,L,A,cp⟩ g ⟨k,I,J,M,N,O,P,Q,R,S⟩
 refine je [(0,.func (.yield l) #[] #[]),(1,vP b1 0),(2,vP b2 0)] ?_
 have b:ak g gb C:=I
 have p:g.heap[gs]? = some (.cells #[vI s] 3 (0,0)):=J
 have q:g.heap[gm]? = some (.cells (hY c (.slice A L.length cp)) 45 (0,0)):=M
 have t:g.heap[l]? = some (.loop (eC fn0 tm asg bdy D)):=N
 have h:b6 w.heap.size 98 4 (bI true) g (.slice A L.length cp) L:=O
 have ac:aY bY n s C L=aY bY C0.l.length 0 C0 []:=P
 have ad:C.l.length≤n:=Q
 have ae:0≤s∧s≤131074*(L.length:Int):=R
 have af:L.length+n≤C0.l.length:=S
 have hrec:aY bY n s C L=aY bY C0.l.length 0 C0 []:=by assumption
 refine sq<|sg<|?_
 have m:=aH.blk k (aa m1 (aa m2 (aa m3 (aa m4 aF)))) hb1
 refine aD m 0<|ay<|mq (eI b)<|?_
 have ai:=ak.len b
 refine Pl 2<|cu 4 [8] 12 (((decide (0<(C.l.length:Int)))&&(C.e==0))) (fun K B=>?_) ?_
 refine bl 8 ((decide (0<(C.l.length:Int)))) (fun i=>?_) (fun i=>?_)
 have T:=of_decide_eq_true i
 refine L1<|dD m 0<|L1<|Oc<|mq (bL b)<|?_
 have aj:=ak.len b
 exact Pl 2<|ce B (C.e==0) (by rw[i];rfl)
 have T:=of_decide_eq_false i
 exact Pl 4<|ce B false (by rw[i];rfl)
 refine nt<|cb (((decide (0<(C.l.length:Int)))&&(C.e==0))) (fun d=>?_) (fun d=>?_)
 have v:=(bC d).1
 have y:=(bC d).2
 have al:=of_decide_eq_true v
 have am:=ag y
 refine bj<|bk<|sg<|?_
 refine aD (aH.blk k (aa k1 (aa k2 (aa k3 (aa k4 aF)))) hb2) 0<|aD m 0<|L0<|i3 #[] #[] (args:=#[vP gb 0])<|BS (uW b) fun E F an U V X Y Z a0=>?_
 obtain⟨ao,ap⟩:=V
 obtain⟨aq,ar⟩:=X
 obtain⟨au,aw⟩:=Y
 refine aK #[vW 0,vW 0,vW 0,nS] fun aA aC a1 a2 a3=>aG a2 #[vW ((fp C).file),vW ((fp C).record),vW ((fp C).count),.slice E ((fp C).words.length) F] fun a4 a5 a6=>nt<|sq<|DJ 9<|?_
 have z:=ud a3 a6 a1
 have a:=aI a0 z
 refine F0<|dD (be a m1 m) 0<|?_
 have o:=ak.old Z z
 refine F0<|Oc<|mq (bL o)<|?_
 have aE:=ak.len o
 refine Fp<|Fp<|?_
 have G:=u1 k a im
 refine DD 19 ((((fs C).e)!=0)) (fun j=>?_) (fun j=>?_)
 have a7:=aB j
 refine Fp<|Fp<|Fp<|Fp<|Fp<|ww<|tn<|c1<|rt<|br<|tr<|br<|rr (.tuple #[])<|?_
 have hfin:aY bY C0.l.length 0 C0 []=((fs C),L):=by
   rw[← hrec]
   rw[show n=(n-1)+1 from by omega]
   simp only[aY,bY,d,v,y,j,bi,reduceIte]
 refine⟨rfl,s,A,cp,?_⟩
 rw[hfin]
 exact⟨G,o,(be a (Ne.symm n1) p),(be a (Ne.symm n2) q),(av h a (fun x hx=>(aa (fun e=>(aL (ak.lt hC) lr h) (e▸hx)) aF)) (bI.upd16 a (ax (ak.safe b _ (by decide)) aN))),(be a (Ne.symm n3) t)⟩
 have a7:=az j
 refine Fp<|F0<|bN a5<|?_
 have H:=be a (Ne.symm n3) t
 have a8:JR w gb gs gm l c (eC fn0 tm asg bdy D) (fs C) s L A cp a4:=⟨G,o,(be a (Ne.symm n1) p),(be a (Ne.symm n2) q),(av h a (fun x hx=>(aa (fun e=>(aL (ak.lt hC) lr h) (e▸hx)) aF)) (bI.upd16 a (ax (ak.safe b _ (by decide)) aN))),H⟩
 refine Fy (r:=eC fn0 tm asg bdy D) (.agg #[vW ((fp C).file),vW ((fp C).record),vW ((fp C).count),.slice E ((fp C).words.length) F]) 53 H rfl<|?_
 refine RoundIn.mono (hround _ _ _ _ _ _ (fp C) _ _ a8 (ey.upd' U z aN) (cP (by omega)) (cP (by omega)) (cP (by omega)) (by omega)) ?_
 rintro _ aJ ⟨rfl,aM,a9,ab,f⟩
 refine⟨_,rfl,?_⟩
 exact Fp<|Fp<|ww<|tn<|c0<|sk<|bn<|gI ((n-1),(fs C),s,(L++[(fp C)]),a9,ab) ⟨f.u,f.hC,f.hS,f.hm,f.hl,f.ho,(by(try dsimp only);rw[← hrec,show n=(n-1)+1 from by omega];simp only[aY,bY,d,v,y,j,bi,Nat.add_sub_cancel,reduceIte]),(by(try dsimp only);have hd:=kB s C (by omega);have jJ:(bY s C).2.1.l.length=(fs C).l.length:=rfl;omega),(by(try dsimp only);simp only[bT];omega),(by(try dsimp only);simp only[bT];omega)⟩ (by omega)
 refine xt<|tx<|tx<|bx<|rm (.tuple #[])<|?_
 have hfin:aY bY C0.l.length 0 C0 []=(C,L):=by
   rw[← hrec]
   exact iB _ _ _ _ _ (by simp only[d,bi])
 refine⟨rfl,s,A,cp,?_⟩
 rw[hfin]
 exact⟨k,b,p,q,h,t⟩
theorem CA{w:World}{gb gs gm l b1 b2 fn0 D:Nat}{tm:Array Value}{asg bdy:Code}{c:Int}{C0:ah}(hC:ak w gb C0)(hS:w.heap[gs]? = some (.cells #[vI 0] 3 (0,0)))(hm:w.heap[gm]? = some (.cells (hY c jm) 45 (0,0)))
    (hl:w.heap[l]? = some (.loop (eC fn0 tm asg bdy D))) (hb1:w.heap[b1]? = some (.cells #[vP gb 0] 164 (0,0))) (hb2:w.heap[b2]? = some (.cells #[.func (.func 219) #[] #[]] 178 (0,0)))
    (n1:gb≠gs) (n2:gb≠gm) (n3:gb≠l) (n4:gs≠gm) (n5:gs≠l) (n6:gm≠l) (m1:b1≠gb) (m2:b1≠gs) (m3:b1≠gm) (m4:b1≠l) (k1:b2≠gb) (k2:b2≠gs) (k3:b2≠gm) (k4:b2≠l) (hround:sK w gb gs gm l c (eC fn0 tm asg bdy D)) :
    Calls Tryz.prog 220 #[.func (.yield l) #[] #[],vP b1 0,vP b2 0] w (fun e W=>e = .returned (.tuple #[])∧∃ s A cp,JR w gb gs gm l c (eC fn0 tm asg bdy D) (aY dr C0.l.length 0 C0 []).1 s (aY dr C0.l.length 0 C0 []).2 A cp W):=by
 have hlen:=hC.len
 refine en 25 Tryz.func220 rfl<|bk<|jf (fun x=>[(0,.func (.yield l) #[] #[]),(1,vP b1 0),(2,vP b2 0)]) (fun(x:Nat × ah × Int × List dx × Option Addr × Nat) w'=>aH [gb,gs,gm,l] w w'∧ak w' gb x.2.1∧w'.heap[gs]? = some (.cells #[vI x.2.2.1] 3 (0,0))∧w'.heap[gm]? = some (.cells (hY c (.slice x.2.2.2.2.1 x.2.2.2.1.length x.2.2.2.2.2)) 45 (0,0))∧w'.heap[l]? = some (.loop (eC fn0 tm asg bdy D))∧b6 w.heap.size 98 4 (bI true) w' (.slice x.2.2.2.2.1 x.2.2.2.1.length x.2.2.2.2.2) x.2.2.2.1∧(aY dr x.1 x.2.2.1 x.2.1 x.2.2.2.1=aY dr C0.l.length 0 C0 [])∧(x.2.1.l.length≤x.1)∧(0≤x.2.2.1∧x.2.2.1≤131074*(x.2.2.2.1.length:Int))∧(x.2.2.2.1.length+x.1≤C0.l.length)) (fun x=>x.1) (C0.l.length,C0,0,[],none,0) ⟨aH.refl _ _,hC,hS,hm,hl,b6.nil ..,rfl,(Nat.le_refl _),(by(try dsimp only);omega),(by(try dsimp only);(try simp only[List.length_nil]);omega)⟩ ?_
 rintro⟨n,C,s,L,A,cp⟩ g ⟨k,I,J,M,N,O,P,Q,R,S⟩
 refine je [(0,.func (.yield l) #[] #[]),(1,vP b1 0),(2,vP b2 0)] ?_
 have b:ak g gb C:=I
 have p:g.heap[gs]? = some (.cells #[vI s] 3 (0,0)):=J
 have q:g.heap[gm]? = some (.cells (hY c (.slice A L.length cp)) 45 (0,0)):=M
 have t:g.heap[l]? = some (.loop (eC fn0 tm asg bdy D)):=N
 have h:b6 w.heap.size 98 4 (bI true) g (.slice A L.length cp) L:=O
 have ac:aY dr n s C L=aY dr C0.l.length 0 C0 []:=P
 have ad:C.l.length≤n:=Q
 have ae:0≤s∧s≤131074*(L.length:Int):=R
 have af:L.length+n≤C0.l.length:=S
 have hrec:aY dr n s C L=aY dr C0.l.length 0 C0 []:=by assumption
 refine sq<|sg<|?_
 have m:=aH.blk k (aa m1 (aa m2 (aa m3 (aa m4 aF)))) hb1
 refine aD m 0<|ay<|mq (eI b)<|?_
 have ai:=ak.len b
 refine Pl 2<|cu 4 [8] 12 (((decide (0<(C.l.length:Int)))&&(C.e==0))) (fun K B=>?_) ?_
 refine bl 8 ((decide (0<(C.l.length:Int)))) (fun i=>?_) (fun i=>?_)
 have T:=of_decide_eq_true i
 refine L1<|dD m 0<|L1<|Oc<|mq (bL b)<|?_
 have aj:=ak.len b
 exact Pl 2<|ce B (C.e==0) (by rw[i];rfl)
 have T:=of_decide_eq_false i
 exact Pl 4<|ce B false (by rw[i];rfl)
 refine nt<|cb (((decide (0<(C.l.length:Int)))&&(C.e==0))) (fun d=>?_) (fun d=>?_)
 have v:=(bC d).1
 have y:=(bC d).2
 have al:=of_decide_eq_true v
 have am:=ag y
 refine bj<|bk<|sg<|?_
 refine aD (aH.blk k (aa k1 (aa k2 (aa k3 (aa k4 aF)))) hb2) 0<|aD m 0<|L0<|i3 #[] #[] (args:=#[vP gb 0])<|BS (zA b) fun E F an U V X Y Z a0=>?_
 obtain⟨ao,ap⟩:=V
 obtain⟨aq,ar⟩:=X
 obtain⟨au,aw⟩:=Y
 refine aK #[vW 0,vW 0,vW 0,nS] fun aA aC a1 a2 a3=>aG a2 #[vW ((jT C).file),vW ((jT C).record),vW ((jT C).count),.slice E ((jT C).words.length) F] fun a4 a5 a6=>nt<|sq<|DJ 9<|?_
 have z:=ud a3 a6 a1
 have a:=aI a0 z
 refine F0<|dD (be a m1 m) 0<|?_
 have o:=ak.old Z z
 refine F0<|Oc<|mq (bL o)<|?_
 have aE:=ak.len o
 refine Fp<|Fp<|?_
 have G:=u1 k a im
 refine DD 19 ((((jX C).e)!=0)) (fun j=>?_) (fun j=>?_)
 have a7:=aB j
 refine Fp<|Fp<|Fp<|Fp<|Fp<|ww<|tn<|c1<|rt<|br<|tr<|br<|rr (.tuple #[])<|?_
 have hfin:aY dr C0.l.length 0 C0 []=((jX C),L):=by
   rw[← hrec]
   rw[show n=(n-1)+1 from by omega]
   simp only[aY,dr,d,v,y,j,bi,reduceIte]
 refine⟨rfl,s,A,cp,?_⟩
 rw[hfin]
 exact⟨G,o,(be a (Ne.symm n1) p),(be a (Ne.symm n2) q),(av h a (fun x hx=>(aa (fun e=>(aL (ak.lt hC) lr h) (e▸hx)) aF)) (bI.upd16 a (ax (ak.safe b _ (by decide)) aN))),(be a (Ne.symm n3) t)⟩
 have a7:=az j
 refine Fp<|F0<|bN a5<|?_
 have H:=be a (Ne.symm n3) t
 have a8:JR w gb gs gm l c (eC fn0 tm asg bdy D) (jX C) s L A cp a4:=⟨G,o,(be a (Ne.symm n1) p),(be a (Ne.symm n2) q),(av h a (fun x hx=>(aa (fun e=>(aL (ak.lt hC) lr h) (e▸hx)) aF)) (bI.upd16 a (ax (ak.safe b _ (by decide)) aN))),H⟩
 refine Fy (r:=eC fn0 tm asg bdy D) (.agg #[vW ((jT C).file),vW ((jT C).record),vW ((jT C).count),.slice E ((jT C).words.length) F]) 53 H rfl<|?_
 refine RoundIn.mono (hround _ _ _ _ _ _ (jT C) _ _ a8 (ey.upd' U z aN) (cP (by omega)) (cP (by omega)) (cP (by omega)) (by omega)) ?_
 rintro _ aJ ⟨rfl,aM,a9,ab,f⟩
 refine⟨_,rfl,?_⟩
 exact Fp<|Fp<|ww<|tn<|c0<|sk<|bn<|gI ((n-1),(jX C),s,(L++[(jT C)]),a9,ab) ⟨f.u,f.hC,f.hS,f.hm,f.hl,f.ho,(by(try dsimp only);rw[← hrec,show n=(n-1)+1 from by omega];simp only[aY,dr,d,v,y,j,bi,Nat.add_sub_cancel,reduceIte]),(by(try dsimp only);have hd:=pI s C (by omega);have jJ:(dr s C).2.1.l.length=(jX C).l.length:=rfl;omega),(by(try dsimp only);simp only[bT];omega),(by(try dsimp only);simp only[bT];omega)⟩ (by omega)
 refine xt<|tx<|tx<|bx<|rm (.tuple #[])<|?_
 have hfin:aY dr C0.l.length 0 C0 []=(C,L):=by
   rw[← hrec]
   exact iB _ _ _ _ _ (by simp only[d,bi])
 refine⟨rfl,s,A,cp,?_⟩
 rw[hfin]
 exact⟨k,b,p,q,h,t⟩
open Go.RowKit
def j9 (n:Int) : Bool:=(decide (7≤n)&&decide (n≤245))&&n%7==0
def j7 (n:Int) : Bool:=decide (4≤n)&&decide (n≤245)
def jl (n:Int) : Bool:=decide (9≤n)&&decide (n≤251)
def lK (may:Int→Bool)(C:ah) : ah:=(C.bytesC 1).need (may C.byteV) 5
def zb (may:Int→Bool)(C:ah) : ah:=⟨(lK may C).bytesR C.byteV,false,0⟩
def sL (one:Int→ah→Int × ah × dx)(may:Int→Bool)(C:ah) : ah × List dx:=aY one (zb may C).l.length 0 (zb may C) []
def bE (e:Int) : Int:=if e==2 then 5 else e
def eh (one:Int→ah→Int × ah × dx)(may:Int→Bool)(c:Int)(C:ah) : ah × aU :=
  (((lK may C).bytesC C.byteV).need ((sL one may C).1.e==0) (bE (sL one may C).1.e),{ aU.zero with code:=c,recs:=(sL one may C).2 })
def bh (dir c:Int)(C:ah) : Option (ah × aU) :=
  if c==20 then (if dir==0 then some (eh dl j9 c C) else some (eh bY j7 c C)) else if c==21 then some (eh dr jl c C) else none
theorem yW:((20:Int)==20)=true:=rfl
theorem xj:((21:Int)==20)=false:=rfl
theorem wz:((21:Int)==21)=true:=rfl
theorem rY{m:Md}{A:Option Addr}{cp:Nat}{b:List Int}{w:World}{dir:Int}(hd:dir=0∨dir=1)(hsl:aZ m w (.slice A b.length cp) b)(hb:b.length≤1048576) :
    Calls Tryz.prog 102 #[vI 0,vB 20,.slice A b.length cp] w (eL (aj bh 0 20 b) w):=by
 have hln:(b.length:Int)≤1048576:=by omega
 have cF:((dir != 0)&&(dir != 1))=false:=by rcases hd with rfl | rfl<;>rfl
 refine CH 77 Tryz.func102 rfl<|sg<|aK mZ fun b4 cG b5 P Y=>ai 1<|sq<|aE 6<|c0<|bj<|al 2<|ay (args:=#[vI 0,vB 20])<|e3 zm fun E cH a7 B H=>Pl 3<|aK #[.nilFunc,.nilFunc] fun cI cJ c9 b6 t=>aG b6 #[.func (.func 215) #[] #[],.func (.func 213) #[] #[vP E 0]] fun cK ca r=>ai 1<|sq<|sq<|go<|ai 2<|c0<|bj<|al 1<|?_
 have Z:=ud t r c9
 have a8:=aI H Z
 have b8:=aI Y a8
 refine ay<|e3 (eq (aZ.old hsl b8) (by omega)) fun a9 cM I J q=>Pl 1<|aM 1<|ay<|m3 (cc J) fun cN cd k cO=>bq ((ah.mk b false 0).byteV)<|Pl 1<|aM 2<|?_
 have ad:=ud q k I
 have b9:=ub ad ca
 refine aD b9 0<|Pl 1<|L0<|i3 #[] #[] (args:=#[vI ((ah.mk b false 0).byteV)])<|m1 (sQ (n:=(ah.mk b false 0).byteV) (by omega)) fun cQ g=>?_
 refine ay<|m2 (bt ((j9 ((ah.mk b false 0).byteV))) 5 (ak.old cd g)) fun cR ce h=>?_
 refine ab ce fun x49 ba bb=>?_
 refine aM 2<|ay<|vc (cL (n:=(ah.mk b false 0).byteV) bb) fun cS cU cV cf cW cX cg i=>?_
 have cZ:=Nat.le_trans (ah.bytesR_le x49 ((ah.mk b false 0).byteV)) (ak.len bb)
 refine ab cg fun x58 bc ch=>?_
 refine ay<|e3 (eq cf (by omega)) fun Q d0 ae F o=>Pl 1<|aM 2<|aK mZ fun D d1 K M p=>aG M (mC 20) fun d2 cj d=>nt<|sq<|al 2<|?_
 have a0:=ud p d K
 have bd:=aI o a0
 have bf:=uz g (u1 h (aI i bd) im)
 refine aD (be bf (nb (aq b6) r.size I) b9) 1<|ay<|BS (mB (gb:=Q) (f:=.func 213) (x:=#[]) (y:=#[vP E 0])) fun ck cl d3 af ag d4 bg bl j=>nt<|bk<|sw (f:=220) #[vP ck 0,vP cl 0] fun a ha=>?_
 intro d5 d6 S d7 v G bm am N O
 have bo:=nb (ak.lt F) lr K
 have a1:=nb (ak.lt F) (le (le p.size d.size) j.size) G
 have br:=nb (aq B) (le (le (le (le (le (le (le t.size r.size) q.size) k.size) g.size) h.size) i.size) o.size) K
 have bs:=nb (aq B) (le (le (le (le (le (le (le (le (le (le t.size r.size) q.size) k.size) g.size) h.size) i.size) o.size) p.size) d.size) j.size) G
 have T:=nb (aq M) (le d.size j.size) G
 have a2:=aI j O
 have bu:=ak.old F (aI a0 a2)
 have bv:=ud ad (aI bf a2) I
 have bw:=ub (aI Z bv) B
 have an:=ub a2 cj
 refine(Bw (c:=20) bu bw an N (ub O bg) (ub O bl) (Ne.symm (nb (aq B) (le (le (le (le (le (le t.size r.size) q.size) k.size) g.size) h.size) i.size) ae)) bo a1 br bs T (Ne.symm (nb (ak.lt F) a0.size af)) (Ne.symm (nb (aq B) (le (le (le (le (le (le (le (le (le t.size r.size) q.size) k.size) g.size) h.size) i.size) o.size) p.size) d.size) af)) (Ne.symm (nb (aq M) d.size af)) (nb (aq bg) lr G) (Ne.symm (nb (ak.lt F) a0.size ag)) (Ne.symm (nb (aq B) (le (le (le (le (le (le (le (le (le t.size r.size) q.size) k.size) g.size) h.size) i.size) o.size) p.size) d.size) ag)) (Ne.symm (nb (aq M) d.size ag)) (nb (aq bl) lr G) ?_).mono ?_
 intro W C s L Ar cr x Ax cx hJ hrd hx1 hx2 hx3 hL
 simp only[eN] at hx1 hx2 hx3
 have hm2:W.heap[D]? = some (.cells #[vB 20,vB 0,vW 0,vW 0,vW 0,vW 0,vW 0,vW 0,vW 0,vW 0,vW 0,vW 0,nS,nS,nS,.slice Ar L.length cr,vB 0,vB 0,vB 0,vB 0,vB 0,nS] 45 (0,0)):=hJ.hm
 refine mN hJ.hl ?_
 refine DX ha 53<|CF<|nO<|Dh #[vW 0,vW 0,vW 0,nS] fun d8 da bx cm bz=>nO<|gJ cm #[vW x.file,vW x.record,vW x.count,.slice Ax x.words.length cx] fun db cn bB=>ww<|?_
 have bC:=ud bz bB bx
 refine DV (ub bC hJ.hl) (by trivial) fun dc co ao=>DG<|CF<|CG<|?_
 have bD:=uz bC ao
 have bF:=be bD T hm2
 refine nO<|dD bF 15<|?_
 refine nO<|bN (be ao (Ne.symm (nb (aq N) hJ.u.size bx)) cn)<|nO<|cY (m:=1) (e:=98) #[vW x.file,vW x.record,vW x.count,.slice Ax x.words.length cx] fun dd de df cq ar=>?_
 have U:=aI bD ar
 have cs:=lT (R:=bI true) (x:=(dx.mk x.file x.record x.count x.words)) cq rfl ⟨_,rfl,(ey.updl hrd U hJ.hl rfl),cP (by omega),cP (by omega),cP (by omega)⟩
 have au:=av hJ.ho U (fun x hx=>(aa (fun e=>(aL (aq N) lr hJ.ho) (e▸hx)) aF)) (bI.updl U hJ.hl rfl)
 refine nO<|iY (xs:=L) (ys:=([(dx.mk x.file x.record x.count x.words)])) (.agg #[vW 0,vW 0,vW 0,nS]) 4 32 au cs (by simp) bI.ones (fun w' hv=>bI.upd16 hv (d9 (dM _ au (by decide)) aN)) (by(try simp only[bT,aC]);omega) (le (le (le (le hJ.u.size bz.size) bB.size) ao.size) ar.size) fun bG bJ dg aw aJ=>CG<|?_
 have bK:=ut (aH.mono (S':=(ob Ar++[])) ar aA) aJ (ap il aA)
 have aO:=aH.blk bK (bA (aL (aq an) lr hJ.ho) aF) bF
 refine nO<|ci aO 15 (mG 20 0 0 0 0 0 0 0 0 0 0 0 nS nS nS (.slice bG ((L++[(dx.mk x.file x.record x.count x.words)]).length) bJ) 0 0 0 0 0 nS) fun dh ct V=>ww<|bn<|?_
 have aP:=aH.blk (u1 (aH.mono (S':=(ob Ar++(D :: []))) bK (ap il aA)) V im) (bA (aL (aq N) lr hJ.ho) (aa (Ne.symm T) aF)) co
 refine DQ aP fun di cu X=>?_
 have aQ:=ut (aH.mono (S':=(S :: (ob Ar++(D :: [])))) U (ac im aA)) (ut (aH.mono (S':=(ob Ar++(D :: (S :: [])))) aJ (ap il aA)) (us V X) (ac im (ac im aA))) (ap il (ac im (ac im aA)))
 exact⟨by trivial,aQ.size,bG,bJ,⟨(ut hJ.u aQ (ac im (ap (aT hJ.ho lr) (ac im aA)))),(ak.updl (ak.upd (ak.upd (ak.updl hJ.hC U (aa a1 aF) hJ.hl rfl) aJ (bA (aL (ak.lt bu) lr hJ.ho) aF) (d9 (dM _ au (by decide)) aN)) V (aa bo aF) (ax (b7 aO (by decide)) aN)) X (aa a1 aF) aP rfl),(aH.blk aQ (aa bs (bA (aL (aq bw) lr hJ.ho) (aa br aF))) hJ.hS),(be X T ct),(av (av aw V (fun x hx=>(aa (fun e=>(aL (aq an) lr aw) (e▸hx)) aF)) (bI.upd16 V (ax (b7 aO (by decide)) aN))) X (fun x hx=>(aa (fun e=>(aL (aq N) lr aw) (e▸hx)) aF)) (bI.updl X aP rfl)),cu⟩⟩
 rintro _ cv ⟨rfl,dj,bO,bP,z⟩
 refine⟨_,_,rfl,z.hl,by simp[eC],by trivial,fun dk bQ=>?_⟩
 refine ab z.hC fun aR bR cw=>?_
 have cy:cv.heap[D]? = some (.cells #[vB 20,vB 0,vW 0,vW 0,vW 0,vW 0,vW 0,vW 0,vW 0,vW 0,vW 0,vW 0,nS,nS,nS,.slice bO ((aY dl (ah.mk (x49.bytesR ((ah.mk b false 0).byteV)) false 0).l.length 0 (ah.mk (x49.bytesR ((ah.mk b false 0).byteV)) false 0) []).2.length) bP,vB 0,vB 0,vB 0,vB 0,vB 0,nS] 45 (0,0)):=z.hm
 refine bn<|tn<|al 2<|?_
 have a3:=ak.updl cw bQ (aa a1 aF) z.hl rfl
 refine ay<|mq (bL a3)<|?_
 have dm:=ak.len a3
 refine Pl 2<|ay<|mq (bL a3)<|?_
 have dn:=ak.len a3
 refine ay<|m1 (ke (e:=aR.e)) fun dp cz=>?_
 have a4:=aI bQ cz
 have bS:=u1 z.u a4 im
 have bU:=ud ad (uz g (u1 h i im)) I
 have bV:=ak.upd ch (ut (aH.mono (S':=[E]) bd aA) (ut (aH.mono (S':=[Q,E,D]) a2 aA) bS (ac im (ac im (ac im (ac (ni j.size G) aA))))) (ac (nr ae) (ac im (ac (ni o.size K) aA)))) (aa (Ne.symm (nb (aq B) Z.size I)) aF) (ax (b7 (ub (aI Z bU) B) (by decide)) aN)
 refine ay<|m2 (bt ((aR.e==0)) (bE aR.e) bV) fun dq cA aV=>?_
 refine ab cA fun bW bX bY=>?_
 refine aM 1<|ay<|m2 (cC bY) fun dr bZ aW=>nt<|sq<|al 1<|ay<|mq (bL bZ)<|?_
 have ds:=ak.len bZ
 refine Pl 1<|cE 2<|?_
 have c1:=u1 aV aW im
 have b0:=u1 (aH.mono (S':=[Q,E,D,S,a9]) bS (ac im (ac im (ac im (ac im aA))))) c1 im
 have b1:=ut (aH.mono (S':=[E]) bv aA) b0 (ac (ni bU.size ae) (ac im (ac (ni (le (le (le (le (le q.size k.size) g.size) h.size) i.size) o.size) K) (ac (ni (le (le (le (le (le (le (le (le q.size k.size) g.size) h.size) i.size) o.size) p.size) d.size) j.size) G) (ac (nr I) aA)))))
 have c2:=ud b8 b1 (le Y.size a7)
 have hs:aj bh 0 20 b=bp (aU.mk 20 0 0 0 0 0 0 0 0 0 0 0 [] [] [] (aY dl (ah.mk ((((ah.mk b false 0).bytesC 1).need (j9 ((ah.mk b false 0).byteV)) 5).bytesR ((ah.mk b false 0).byteV)) false 0).l.length 0 (ah.mk ((((ah.mk b false 0).bytesC 1).need (j9 ((ah.mk b false 0).byteV)) 5).bytesR ((ah.mk b false 0).byteV)) false 0) []).2 0 0 0 0 0 []) (((((ah.mk b false 0).bytesC 1).need (j9 ((ah.mk b false 0).byteV)) 5).bytesC ((ah.mk b false 0).byteV)).need (((aY dl (ah.mk ((((ah.mk b false 0).bytesC 1).need (j9 ((ah.mk b false 0).byteV)) 5).bytesR ((ah.mk b false 0).byteV)) false 0).l.length 0 (ah.mk ((((ah.mk b false 0).bytesC 1).need (j9 ((ah.mk b false 0).byteV)) 5).bytesR ((ah.mk b false 0).byteV)) false 0) []).1).e==0) (bE ((aY dl (ah.mk ((((ah.mk b false 0).bytesC 1).need (j9 ((ah.mk b false 0).byteV)) 5).bytesR ((ah.mk b false 0).byteV)) false 0).l.length 0 (ah.mk ((((ah.mk b false 0).bytesC 1).need (j9 ((ah.mk b false 0).byteV)) 5).bytesR ((ah.mk b false 0).byteV)) false 0) []).1).e)):=by
   unfold aj bh eh sL zb lK
   (try simp only[bi,dJ,dP,dL,dN,dO,reduceIte,yW,xj,wz])
   all_goals rfl
 refine cb ((bW.endC.e != 0)) (fun b2=>?_) (fun b2=>?_)
 have b3:=aB b2
 refine al 2<|?_
 refine aG (ub (ud a8 b1 a7) P) mZ fun dt cB c3=>ai 1<|aX<|?_
 have c4:=nb (aq P) (le (le (le (le (le (le (le (le (le (le (le H.size t.size) r.size) q.size) k.size) g.size) h.size) i.size) o.size) p.size) d.size) j.size) v
 refine CD (aH.blk (u1 (aH.mono (S':=[Q,E,D,S,a9,b4]) b0 (ac im (ac im (ac im (ac im (ac im aA)))))) c3 im) (aa (Ne.symm (nb (ak.lt F) (le (le p.size d.size) j.size) v)) (aa (Ne.symm (nb (aq B) (le (le (le (le (le (le (le (le (le (le t.size r.size) q.size) k.size) g.size) h.size) i.size) o.size) p.size) d.size) j.size) v)) (aa (Ne.symm (nb (aq M) (le d.size j.size) v)) (aa bm (aa (Ne.symm (nb (ak.lt J) (le (le (le (le (le (le (le k.size g.size) h.size) i.size) o.size) p.size) d.size) j.size) v)) (aa (Ne.symm c4) aF)))))) am) fun du c5=>?_
 refine rx (be c5 c4 cB) (vI bW.endC.e)<|?_
 subst bX bR bc ba
 rw[hs]
 exact bH b3 (ut c2 (us c3 c5) (ac (nr b5) (ac (ni (le (le (le (le (le (le (le (le (le (le (le (le Y.size H.size) t.size) r.size) q.size) k.size) g.size) h.size) i.size) o.size) p.size) d.size) j.size) v) aA)))
 have b3:=az b2
 refine bj<|sg<|?_
 refine L0<|bN (aH.blk (us a4 c1) (aa T (aa (Ne.symm (nb (ak.lt J) (le (le (le (le k.size g.size) h.size) i.size) o.size) K)) aF)) cy)<|?_
 have c6:=ub (ud a8 b1 a7) P
 refine aG c6 (mG 20 0 0 0 0 0 0 0 0 0 0 0 nS nS nS (.slice bO ((aY dl (ah.mk (x49.bytesR ((ah.mk b false 0).byteV)) false 0).l.length 0 (ah.mk (x49.bytesR ((ah.mk b false 0).byteV)) false 0) []).2.length) bP) 0 0 0 0 0 nS) fun dv cD a5=>ai 1<|rt<|?_
 have c7:=nb (aq P) (le (le (le (le (le (le (le (le (le (le (le H.size t.size) r.size) q.size) k.size) g.size) h.size) i.size) o.size) p.size) d.size) j.size) v
 have c8:=aH.blk (u1 (aH.mono (S':=[Q,E,D,S,a9,b4]) b0 (ac im (ac im (ac im (ac im (ac im aA)))))) a5 im) (aa (Ne.symm (nb (ak.lt F) (le (le p.size d.size) j.size) v)) (aa (Ne.symm (nb (aq B) (le (le (le (le (le (le (le (le (le (le t.size r.size) q.size) k.size) g.size) h.size) i.size) o.size) p.size) d.size) j.size) v)) (aa (Ne.symm (nb (aq M) (le d.size j.size) v)) (aa bm (aa (Ne.symm (nb (ak.lt J) (le (le (le (le (le (le (le k.size g.size) h.size) i.size) o.size) p.size) d.size) j.size) v)) (aa (Ne.symm c7) aF)))))) am
 refine CD c8 fun dw a6=>?_
 refine rx (be a6 c7 cD) (vI 0)<|?_
 subst bX bR bc ba
 rw[hs]
 exact bM b3 ⟨_,_,_,_,_,rfl,aS.nil ..,aS.nil ..,aS.nil ..,((av (av (av (av (av z.ho a4 (fun x hx=>(aa (fun e=>(aL (aq N) lr z.ho) (e▸hx)) aF)) (bI.updl a4 z.hl rfl)) aV (fun x hx=>(aa (fun e=>(aL (ak.lt J) (le (le (le (le (le (le (le (le k.size g.size) h.size) i.size) o.size) p.size) d.size) j.size) O.size) z.ho) (e▸hx)) aF)) (bI.upd16 aV (ax (ak.safe bV _ (by decide)) aN))) aW (fun x hx=>(aa (fun e=>(aL (ak.lt J) (le (le (le (le (le (le (le (le k.size g.size) h.size) i.size) o.size) p.size) d.size) j.size) O.size) z.ho) (e▸hx)) aF)) (bI.upd16 aW (ax (ak.safe bY _ (by decide)) aN))) a5 (fun x hx=>(aa (fun e=>(aL (aq P) (le (le (le (le (le (le (le (le (le (le (le (le H.size t.size) r.size) q.size) k.size) g.size) h.size) i.size) o.size) p.size) d.size) j.size) O.size) z.ho) (e▸hx)) aF)) (bI.upd16 a5 (ax (b7 c6 (by decide)) aN))) a6 (fun x hx=>(aa (fun e=>(aL (aq am) lr z.ho) (e▸hx)) aF)) (bI.updl a6 c8 rfl))).rd,aS.nil ..,(cT (by omega))⟩ (ut c2 (us a5 a6) (ac (nr b5) (ac (ni (le (le (le (le (le (le (le (le (le (le (le (le Y.size H.size) t.size) r.size) q.size) k.size) g.size) h.size) i.size) o.size) p.size) d.size) j.size) v) aA)))
theorem ru{m:Md}{A:Option Addr}{cp:Nat}{b:List Int}{w:World}{dir:Int}(hd:dir=0∨dir=1)(hsl:aZ m w (.slice A b.length cp) b)(hb:b.length≤1048576) :
    Calls Tryz.prog 102 #[vI 1,vB 20,.slice A b.length cp] w (eL (aj bh 1 20 b) w):=by
 have hln:(b.length:Int)≤1048576:=by omega
 have cG:((dir != 0)&&(dir != 1))=false:=by rcases hd with rfl | rfl<;>rfl
 refine CH 77 Tryz.func102 rfl<|sg<|aK mZ fun b4 cH b5 P Y=>ai 1<|sq<|aE 6<|c0<|bj<|al 2<|ay (args:=#[vI 1,vB 20])<|e3 AS fun G cI a7 B H=>Pl 3<|aK #[.nilFunc,.nilFunc] fun cJ cK ca b6 t=>aG b6 #[.func (.func 216) #[] #[],.func (.func 217) #[] #[]] fun cM cd r=>ai 1<|sq<|sq<|go<|ai 2<|c0<|bj<|al 1<|?_
 have Z:=ud t r ca
 have a8:=aI H Z
 have b8:=aI Y a8
 refine ay<|e3 (eq (aZ.old hsl b8) (by omega)) fun a9 cN I J q=>Pl 1<|aM 1<|ay<|m3 (cc J) fun cO ce k cQ=>bq ((ah.mk b false 0).byteV)<|Pl 1<|aM 2<|?_
 have ad:=ud q k I
 have b9:=ub ad cd
 refine aD b9 0<|Pl 1<|L0<|i3 #[] #[] (args:=#[vI ((ah.mk b false 0).byteV)])<|m1 (sS (n:=(ah.mk b false 0).byteV) (by omega)) fun cR g=>?_
 refine ay<|m2 (bt ((j7 ((ah.mk b false 0).byteV))) 5 (ak.old ce g)) fun cS cf h=>?_
 refine ab cf fun x49 ba bb=>?_
 refine aM 2<|ay<|vc (cL (n:=(ah.mk b false 0).byteV) bb) fun cU cV cW cg cX cZ ch i=>?_
 have d0:=Nat.le_trans (ah.bytesR_le x49 ((ah.mk b false 0).byteV)) (ak.len bb)
 refine ab ch fun x58 bc cj=>?_
 refine ay<|e3 (eq cg (by omega)) fun Q d1 ae E o=>Pl 1<|aM 2<|aK mZ fun D d2 K M p=>aG M (mC 20) fun d3 ck d=>nt<|sq<|al 2<|?_
 have a0:=ud p d K
 have bd:=aI o a0
 have bf:=uz g (u1 h (aI i bd) im)
 refine aD (be bf (nb (aq b6) r.size I) b9) 1<|ay<|BS (mB (gb:=Q) (f:=.func 217) (x:=#[]) (y:=#[])) fun cl cm d4 af ag d5 bg bl j=>nt<|bk<|sw (f:=220) #[vP cl 0,vP cm 0] fun a ha=>?_
 intro d6 d7 S d8 v F bm am N O
 have bo:=nb (ak.lt E) lr K
 have a1:=nb (ak.lt E) (le (le p.size d.size) j.size) F
 have br:=nb (aq B) (le (le (le (le (le (le (le t.size r.size) q.size) k.size) g.size) h.size) i.size) o.size) K
 have bs:=nb (aq B) (le (le (le (le (le (le (le (le (le (le t.size r.size) q.size) k.size) g.size) h.size) i.size) o.size) p.size) d.size) j.size) F
 have T:=nb (aq M) (le d.size j.size) F
 have a2:=aI j O
 have bu:=ak.old E (aI a0 a2)
 have bv:=ud ad (aI bf a2) I
 have bw:=ub (aI Z bv) B
 have an:=ub a2 ck
 refine(BE (c:=20) bu bw an N (ub O bg) (ub O bl) (Ne.symm (nb (aq B) (le (le (le (le (le (le t.size r.size) q.size) k.size) g.size) h.size) i.size) ae)) bo a1 br bs T (Ne.symm (nb (ak.lt E) a0.size af)) (Ne.symm (nb (aq B) (le (le (le (le (le (le (le (le (le t.size r.size) q.size) k.size) g.size) h.size) i.size) o.size) p.size) d.size) af)) (Ne.symm (nb (aq M) d.size af)) (nb (aq bg) lr F) (Ne.symm (nb (ak.lt E) a0.size ag)) (Ne.symm (nb (aq B) (le (le (le (le (le (le (le (le (le t.size r.size) q.size) k.size) g.size) h.size) i.size) o.size) p.size) d.size) ag)) (Ne.symm (nb (aq M) d.size ag)) (nb (aq bl) lr F) ?_).mono ?_
 intro W C s L Ar cr x Ax cx hJ hrd hx1 hx2 hx3 hL
 simp only[eN] at hx1 hx2 hx3
 have hm2:W.heap[D]? = some (.cells #[vB 20,vB 0,vW 0,vW 0,vW 0,vW 0,vW 0,vW 0,vW 0,vW 0,vW 0,vW 0,nS,nS,nS,.slice Ar L.length cr,vB 0,vB 0,vB 0,vB 0,vB 0,nS] 45 (0,0)):=hJ.hm
 refine mN hJ.hl ?_
 refine DX ha 53<|CF<|nO<|Dh #[vW 0,vW 0,vW 0,nS] fun da db bx cn bz=>nO<|gJ cn #[vW x.file,vW x.record,vW x.count,.slice Ax x.words.length cx] fun dc co bB=>ww<|?_
 have bC:=ud bz bB bx
 refine DV (ub bC hJ.hl) (by trivial) fun dd cq ao=>DG<|CF<|CG<|?_
 have bD:=uz bC ao
 have bF:=be bD T hm2
 refine nO<|dD bF 15<|?_
 refine nO<|bN (be ao (Ne.symm (nb (aq N) hJ.u.size bx)) co)<|nO<|cY (m:=1) (e:=98) #[vW x.file,vW x.record,vW x.count,.slice Ax x.words.length cx] fun de df dg cs ar=>?_
 have U:=aI bD ar
 have ct:=lT (R:=bI true) (x:=(dx.mk x.file x.record x.count x.words)) cs rfl ⟨_,rfl,(ey.updl hrd U hJ.hl rfl),cP (by omega),cP (by omega),cP (by omega)⟩
 have au:=av hJ.ho U (fun x hx=>(aa (fun e=>(aL (aq N) lr hJ.ho) (e▸hx)) aF)) (bI.updl U hJ.hl rfl)
 refine nO<|iY (xs:=L) (ys:=([(dx.mk x.file x.record x.count x.words)])) (.agg #[vW 0,vW 0,vW 0,nS]) 4 32 au ct (by simp) bI.ones (fun w' hv=>bI.upd16 hv (d9 (dM _ au (by decide)) aN)) (by(try simp only[bT,aC]);omega) (le (le (le (le hJ.u.size bz.size) bB.size) ao.size) ar.size) fun bG bJ dh aw aJ=>CG<|?_
 have bK:=ut (aH.mono (S':=(ob Ar++[])) ar aA) aJ (ap il aA)
 have aO:=aH.blk bK (bA (aL (aq an) lr hJ.ho) aF) bF
 refine nO<|ci aO 15 (mG 20 0 0 0 0 0 0 0 0 0 0 0 nS nS nS (.slice bG ((L++[(dx.mk x.file x.record x.count x.words)]).length) bJ) 0 0 0 0 0 nS) fun di cu V=>ww<|bn<|?_
 have aP:=aH.blk (u1 (aH.mono (S':=(ob Ar++(D :: []))) bK (ap il aA)) V im) (bA (aL (aq N) lr hJ.ho) (aa (Ne.symm T) aF)) cq
 refine DQ aP fun dj cv X=>?_
 have aQ:=ut (aH.mono (S':=(S :: (ob Ar++(D :: [])))) U (ac im aA)) (ut (aH.mono (S':=(ob Ar++(D :: (S :: [])))) aJ (ap il aA)) (us V X) (ac im (ac im aA))) (ap il (ac im (ac im aA)))
 exact⟨by trivial,aQ.size,bG,bJ,⟨(ut hJ.u aQ (ac im (ap (aT hJ.ho lr) (ac im aA)))),(ak.updl (ak.upd (ak.upd (ak.updl hJ.hC U (aa a1 aF) hJ.hl rfl) aJ (bA (aL (ak.lt bu) lr hJ.ho) aF) (d9 (dM _ au (by decide)) aN)) V (aa bo aF) (ax (b7 aO (by decide)) aN)) X (aa a1 aF) aP rfl),(aH.blk aQ (aa bs (bA (aL (aq bw) lr hJ.ho) (aa br aF))) hJ.hS),(be X T cu),(av (av aw V (fun x hx=>(aa (fun e=>(aL (aq an) lr aw) (e▸hx)) aF)) (bI.upd16 V (ax (b7 aO (by decide)) aN))) X (fun x hx=>(aa (fun e=>(aL (aq N) lr aw) (e▸hx)) aF)) (bI.updl X aP rfl)),cv⟩⟩
 rintro _ cw ⟨rfl,dk,bO,bP,z⟩
 refine⟨_,_,rfl,z.hl,by simp[eC],by trivial,fun dl bQ=>?_⟩
 refine ab z.hC fun aR bR cy=>?_
 have cz:cw.heap[D]? = some (.cells #[vB 20,vB 0,vW 0,vW 0,vW 0,vW 0,vW 0,vW 0,vW 0,vW 0,vW 0,vW 0,nS,nS,nS,.slice bO ((aY bY (ah.mk (x49.bytesR ((ah.mk b false 0).byteV)) false 0).l.length 0 (ah.mk (x49.bytesR ((ah.mk b false 0).byteV)) false 0) []).2.length) bP,vB 0,vB 0,vB 0,vB 0,vB 0,nS] 45 (0,0)):=z.hm
 refine bn<|tn<|al 2<|?_
 have a3:=ak.updl cy bQ (aa a1 aF) z.hl rfl
 refine ay<|mq (bL a3)<|?_
 have dm:=ak.len a3
 refine Pl 2<|ay<|mq (bL a3)<|?_
 have dn:=ak.len a3
 refine ay<|m1 (ke (e:=aR.e)) fun dp cA=>?_
 have a4:=aI bQ cA
 have bS:=u1 z.u a4 im
 have bU:=ud ad (uz g (u1 h i im)) I
 have bV:=ak.upd cj (ut (aH.mono (S':=[G]) bd aA) (ut (aH.mono (S':=[Q,G,D]) a2 aA) bS (ac im (ac im (ac im (ac (ni j.size F) aA))))) (ac (nr ae) (ac im (ac (ni o.size K) aA)))) (aa (Ne.symm (nb (aq B) Z.size I)) aF) (ax (b7 (ub (aI Z bU) B) (by decide)) aN)
 refine ay<|m2 (bt ((aR.e==0)) (bE aR.e) bV) fun dq cB aV=>?_
 refine ab cB fun bW bX bZ=>?_
 refine aM 1<|ay<|m2 (cC bZ) fun dr c1 aW=>nt<|sq<|al 1<|ay<|mq (bL c1)<|?_
 have ds:=ak.len c1
 refine Pl 1<|cE 2<|?_
 have c2:=u1 aV aW im
 have b0:=u1 (aH.mono (S':=[Q,G,D,S,a9]) bS (ac im (ac im (ac im (ac im aA))))) c2 im
 have b1:=ut (aH.mono (S':=[G]) bv aA) b0 (ac (ni bU.size ae) (ac im (ac (ni (le (le (le (le (le q.size k.size) g.size) h.size) i.size) o.size) K) (ac (ni (le (le (le (le (le (le (le (le q.size k.size) g.size) h.size) i.size) o.size) p.size) d.size) j.size) F) (ac (nr I) aA)))))
 have c3:=ud b8 b1 (le Y.size a7)
 have hs:aj bh 1 20 b=bp (aU.mk 20 0 0 0 0 0 0 0 0 0 0 0 [] [] [] (aY bY (ah.mk ((((ah.mk b false 0).bytesC 1).need (j7 ((ah.mk b false 0).byteV)) 5).bytesR ((ah.mk b false 0).byteV)) false 0).l.length 0 (ah.mk ((((ah.mk b false 0).bytesC 1).need (j7 ((ah.mk b false 0).byteV)) 5).bytesR ((ah.mk b false 0).byteV)) false 0) []).2 0 0 0 0 0 []) (((((ah.mk b false 0).bytesC 1).need (j7 ((ah.mk b false 0).byteV)) 5).bytesC ((ah.mk b false 0).byteV)).need (((aY bY (ah.mk ((((ah.mk b false 0).bytesC 1).need (j7 ((ah.mk b false 0).byteV)) 5).bytesR ((ah.mk b false 0).byteV)) false 0).l.length 0 (ah.mk ((((ah.mk b false 0).bytesC 1).need (j7 ((ah.mk b false 0).byteV)) 5).bytesR ((ah.mk b false 0).byteV)) false 0) []).1).e==0) (bE ((aY bY (ah.mk ((((ah.mk b false 0).bytesC 1).need (j7 ((ah.mk b false 0).byteV)) 5).bytesR ((ah.mk b false 0).byteV)) false 0).l.length 0 (ah.mk ((((ah.mk b false 0).bytesC 1).need (j7 ((ah.mk b false 0).byteV)) 5).bytesR ((ah.mk b false 0).byteV)) false 0) []).1).e)):=by
   unfold aj bh eh sL zb lK
   (try simp only[bi,dJ,dP,dL,dN,dO,reduceIte,yW,xj,wz])
   all_goals rfl
 refine cb ((bW.endC.e != 0)) (fun b2=>?_) (fun b2=>?_)
 have b3:=aB b2
 refine al 2<|?_
 refine aG (ub (ud a8 b1 a7) P) mZ fun dt cD c4=>ai 1<|aX<|?_
 have c5:=nb (aq P) (le (le (le (le (le (le (le (le (le (le (le H.size t.size) r.size) q.size) k.size) g.size) h.size) i.size) o.size) p.size) d.size) j.size) v
 refine CD (aH.blk (u1 (aH.mono (S':=[Q,G,D,S,a9,b4]) b0 (ac im (ac im (ac im (ac im (ac im aA)))))) c4 im) (aa (Ne.symm (nb (ak.lt E) (le (le p.size d.size) j.size) v)) (aa (Ne.symm (nb (aq B) (le (le (le (le (le (le (le (le (le (le t.size r.size) q.size) k.size) g.size) h.size) i.size) o.size) p.size) d.size) j.size) v)) (aa (Ne.symm (nb (aq M) (le d.size j.size) v)) (aa bm (aa (Ne.symm (nb (ak.lt J) (le (le (le (le (le (le (le k.size g.size) h.size) i.size) o.size) p.size) d.size) j.size) v)) (aa (Ne.symm c5) aF)))))) am) fun du c6=>?_
 refine rx (be c6 c5 cD) (vI bW.endC.e)<|?_
 subst bX bR bc ba
 rw[hs]
 exact bH b3 (ut c3 (us c4 c6) (ac (nr b5) (ac (ni (le (le (le (le (le (le (le (le (le (le (le (le Y.size H.size) t.size) r.size) q.size) k.size) g.size) h.size) i.size) o.size) p.size) d.size) j.size) v) aA)))
 have b3:=az b2
 refine bj<|sg<|?_
 refine L0<|bN (aH.blk (us a4 c2) (aa T (aa (Ne.symm (nb (ak.lt J) (le (le (le (le k.size g.size) h.size) i.size) o.size) K)) aF)) cz)<|?_
 have c7:=ub (ud a8 b1 a7) P
 refine aG c7 (mG 20 0 0 0 0 0 0 0 0 0 0 0 nS nS nS (.slice bO ((aY bY (ah.mk (x49.bytesR ((ah.mk b false 0).byteV)) false 0).l.length 0 (ah.mk (x49.bytesR ((ah.mk b false 0).byteV)) false 0) []).2.length) bP) 0 0 0 0 0 nS) fun dv cF a5=>ai 1<|rt<|?_
 have c8:=nb (aq P) (le (le (le (le (le (le (le (le (le (le (le H.size t.size) r.size) q.size) k.size) g.size) h.size) i.size) o.size) p.size) d.size) j.size) v
 have c9:=aH.blk (u1 (aH.mono (S':=[Q,G,D,S,a9,b4]) b0 (ac im (ac im (ac im (ac im (ac im aA)))))) a5 im) (aa (Ne.symm (nb (ak.lt E) (le (le p.size d.size) j.size) v)) (aa (Ne.symm (nb (aq B) (le (le (le (le (le (le (le (le (le (le t.size r.size) q.size) k.size) g.size) h.size) i.size) o.size) p.size) d.size) j.size) v)) (aa (Ne.symm (nb (aq M) (le d.size j.size) v)) (aa bm (aa (Ne.symm (nb (ak.lt J) (le (le (le (le (le (le (le k.size g.size) h.size) i.size) o.size) p.size) d.size) j.size) v)) (aa (Ne.symm c8) aF)))))) am
 refine CD c9 fun dw a6=>?_
 refine rx (be a6 c8 cF) (vI 0)<|?_
 subst bX bR bc ba
 rw[hs]
 exact bM b3 ⟨_,_,_,_,_,rfl,aS.nil ..,aS.nil ..,aS.nil ..,((av (av (av (av (av z.ho a4 (fun x hx=>(aa (fun e=>(aL (aq N) lr z.ho) (e▸hx)) aF)) (bI.updl a4 z.hl rfl)) aV (fun x hx=>(aa (fun e=>(aL (ak.lt J) (le (le (le (le (le (le (le (le k.size g.size) h.size) i.size) o.size) p.size) d.size) j.size) O.size) z.ho) (e▸hx)) aF)) (bI.upd16 aV (ax (ak.safe bV _ (by decide)) aN))) aW (fun x hx=>(aa (fun e=>(aL (ak.lt J) (le (le (le (le (le (le (le (le k.size g.size) h.size) i.size) o.size) p.size) d.size) j.size) O.size) z.ho) (e▸hx)) aF)) (bI.upd16 aW (ax (ak.safe bZ _ (by decide)) aN))) a5 (fun x hx=>(aa (fun e=>(aL (aq P) (le (le (le (le (le (le (le (le (le (le (le (le H.size t.size) r.size) q.size) k.size) g.size) h.size) i.size) o.size) p.size) d.size) j.size) O.size) z.ho) (e▸hx)) aF)) (bI.upd16 a5 (ax (b7 c7 (by decide)) aN))) a6 (fun x hx=>(aa (fun e=>(aL (aq am) lr z.ho) (e▸hx)) aF)) (bI.updl a6 c9 rfl))).rd,aS.nil ..,(cT (by omega))⟩ (ut c3 (us a5 a6) (ac (nr b5) (ac (ni (le (le (le (le (le (le (le (le (le (le (le (le Y.size H.size) t.size) r.size) q.size) k.size) g.size) h.size) i.size) o.size) p.size) d.size) j.size) v) aA)))
theorem oK{m:Md}{A:Option Addr}{cp:Nat}{b:List Int}{w:World}{dir:Int}(hd:dir=0∨dir=1)(hsl:aZ m w (.slice A b.length cp) b)(hb:b.length≤1048576) :
    Calls Tryz.prog 102 #[vI dir,vB 21,.slice A b.length cp] w (eL (aj bh dir 21 b) w):=by
 have hln:(b.length:Int)≤1048576:=by omega
 have b6:((dir != 0)&&(dir != 1))=false:=by rcases hd with rfl | rfl<;>rfl
 refine CH 77 Tryz.func102 rfl<|sg<|aK mZ fun b8 cQ b9 Q a0=>ai 1<|sq<|al 3<|cu 3 [18] 21 (((dir != 0)&&(dir != 1))) (fun K ba=>?_) ?_
 refine bl 18 ((dir != 0)) (fun S=>?_) (fun S=>?_)
 have cj:=aB S
 exact Pl 3<|ce ba (dir != 1) (by rw[S];rfl)
 have cj:=az S
 exact Pl 3<|ce ba false (by rw[S];rfl)
 refine nt<|cf b6<|bj<|al 2<|ay (args:=#[vI dir,vB 21])<|e3 Aj fun G cR a9 B H=>Pl 3<|aK #[.nilFunc,.nilFunc] fun cS cU ck bb t=>aG bb #[.func (.func 218) #[] #[],.func (.func 219) #[] #[]] fun cV cl r=>Pl 1<|nl<|tn<|sq<|aE 2<|c0<|bj<|al 1<|?_
 have a1:=ud t r ck
 have ad:=aI H a1
 have bc:=aI a0 ad
 refine ay<|e3 (eq (aZ.old hsl bc) (by omega)) fun ae cW I J q=>Pl 1<|aM 1<|ay<|m3 (cc J) fun cX cm k cZ=>bq ((ah.mk b false 0).byteV)<|Pl 1<|aM 2<|?_
 have af:=ud q k I
 have bd:=ub af cl
 refine aD bd 0<|Pl 1<|L0<|i3 #[] #[] (args:=#[vI ((ah.mk b false 0).byteV)])<|m1 (sR (n:=(ah.mk b false 0).byteV) (by omega)) fun d0 g=>?_
 refine ay<|m2 (bt ((jl ((ah.mk b false 0).byteV))) 5 (ak.old cm g)) fun d1 cn h=>?_
 refine ab cn fun x51 bf bg=>?_
 refine aM 2<|ay<|vc (cL (n:=(ah.mk b false 0).byteV) bg) fun d2 d3 d4 co d5 d6 cq i=>?_
 have d7:=Nat.le_trans (ah.bytesR_le x51 ((ah.mk b false 0).byteV)) (ak.len bg)
 refine ab cq fun x60 bm cs=>?_
 refine ay<|e3 (eq co (by omega)) fun T d8 ag E o=>Pl 1<|aM 2<|aK mZ fun D da M N p=>aG N (mC 21) fun db ct d=>nt<|sq<|al 2<|?_
 have a2:=ud p d M
 have bo:=aI o a2
 have br:=uz g (u1 h (aI i bo) im)
 refine aD (be br (nb (aq bb) r.size I) bd) 1<|ay<|BS (mB (gb:=T) (f:=.func 219) (x:=#[]) (y:=#[])) fun cv cw dc am an dd bs bu j=>nt<|bk<|sw (f:=220) #[vP cv 0,vP cw 0] fun a ha=>?_
 intro de df U dg v F bv ao O P
 have bw:=nb (ak.lt E) lr M
 have a3:=nb (ak.lt E) (le (le p.size d.size) j.size) F
 have bx:=nb (aq B) (le (le (le (le (le (le (le t.size r.size) q.size) k.size) g.size) h.size) i.size) o.size) M
 have bz:=nb (aq B) (le (le (le (le (le (le (le (le (le (le t.size r.size) q.size) k.size) g.size) h.size) i.size) o.size) p.size) d.size) j.size) F
 have V:=nb (aq N) (le d.size j.size) F
 have a4:=aI j P
 have bB:=ak.old E (aI a2 a4)
 have bC:=ud af (aI br a4) I
 have bD:=ub (aI a1 bC) B
 have ar:=ub a4 ct
 refine(CA (c:=21) bB bD ar O (ub P bs) (ub P bu) (Ne.symm (nb (aq B) (le (le (le (le (le (le t.size r.size) q.size) k.size) g.size) h.size) i.size) ag)) bw a3 bx bz V (Ne.symm (nb (ak.lt E) a2.size am)) (Ne.symm (nb (aq B) (le (le (le (le (le (le (le (le (le t.size r.size) q.size) k.size) g.size) h.size) i.size) o.size) p.size) d.size) am)) (Ne.symm (nb (aq N) d.size am)) (nb (aq bs) lr F) (Ne.symm (nb (ak.lt E) a2.size an)) (Ne.symm (nb (aq B) (le (le (le (le (le (le (le (le (le t.size r.size) q.size) k.size) g.size) h.size) i.size) o.size) p.size) d.size) an)) (Ne.symm (nb (aq N) d.size an)) (nb (aq bu) lr F) ?_).mono ?_
 intro W C s L Ar cr x Ax cx hJ hrd hx1 hx2 hx3 hL
 simp only[eN] at hx1 hx2 hx3
 have hm2:W.heap[D]? = some (.cells #[vB 21,vB 0,vW 0,vW 0,vW 0,vW 0,vW 0,vW 0,vW 0,vW 0,vW 0,vW 0,nS,nS,nS,.slice Ar L.length cr,vB 0,vB 0,vB 0,vB 0,vB 0,nS] 45 (0,0)):=hJ.hm
 refine mN hJ.hl ?_
 refine DX ha 53<|CF<|nO<|Dh #[vW 0,vW 0,vW 0,nS] fun dh di bF cy bG=>nO<|gJ cy #[vW x.file,vW x.record,vW x.count,.slice Ax x.words.length cx] fun dj cz bJ=>ww<|?_
 have bK:=ud bG bJ bF
 refine DV (ub bK hJ.hl) (by trivial) fun dk cA au=>DG<|CF<|CG<|?_
 have bO:=uz bK au
 have bP:=be bO V hm2
 refine nO<|dD bP 15<|?_
 refine nO<|bN (be au (Ne.symm (nb (aq O) hJ.u.size bF)) cz)<|nO<|cY (m:=1) (e:=98) #[vW x.file,vW x.record,vW x.count,.slice Ax x.words.length cx] fun dl dm dn cB aw=>?_
 have X:=aI bO aw
 have cD:=lT (R:=bI true) (x:=(dx.mk x.file x.record x.count x.words)) cB rfl ⟨_,rfl,(ey.updl hrd X hJ.hl rfl),cP (by omega),cP (by omega),cP (by omega)⟩
 have aJ:=av hJ.ho X (fun x hx=>(aa (fun e=>(aL (aq O) lr hJ.ho) (e▸hx)) aF)) (bI.updl X hJ.hl rfl)
 refine nO<|iY (xs:=L) (ys:=([(dx.mk x.file x.record x.count x.words)])) (.agg #[vW 0,vW 0,vW 0,nS]) 4 32 aJ cD (by simp) bI.ones (fun w' hv=>bI.upd16 hv (d9 (dM _ aJ (by decide)) aN)) (by(try simp only[bT,aC]);omega) (le (le (le (le hJ.u.size bG.size) bJ.size) au.size) aw.size) fun bQ bR dp aO aP=>CG<|?_
 have bS:=ut (aH.mono (S':=(ob Ar++[])) aw aA) aP (ap il aA)
 have aQ:=aH.blk bS (bA (aL (aq ar) lr hJ.ho) aF) bP
 refine nO<|ci aQ 15 (mG 21 0 0 0 0 0 0 0 0 0 0 0 nS nS nS (.slice bQ ((L++[(dx.mk x.file x.record x.count x.words)]).length) bR) 0 0 0 0 0 nS) fun dq cF Y=>ww<|bn<|?_
 have aR:=aH.blk (u1 (aH.mono (S':=(ob Ar++(D :: []))) bS (ap il aA)) Y im) (bA (aL (aq O) lr hJ.ho) (aa (Ne.symm V) aF)) cA
 refine DQ aR fun ds cG Z=>?_
 have aV:=ut (aH.mono (S':=(U :: (ob Ar++(D :: [])))) X (ac im aA)) (ut (aH.mono (S':=(ob Ar++(D :: (U :: [])))) aP (ap il aA)) (us Y Z) (ac im (ac im aA))) (ap il (ac im (ac im aA)))
 exact⟨by trivial,aV.size,bQ,bR,⟨(ut hJ.u aV (ac im (ap (aT hJ.ho lr) (ac im aA)))),(ak.updl (ak.upd (ak.upd (ak.updl hJ.hC X (aa a3 aF) hJ.hl rfl) aP (bA (aL (ak.lt bB) lr hJ.ho) aF) (d9 (dM _ aJ (by decide)) aN)) Y (aa bw aF) (ax (b7 aQ (by decide)) aN)) Z (aa a3 aF) aR rfl),(aH.blk aV (aa bz (bA (aL (aq bD) lr hJ.ho) (aa bx aF))) hJ.hS),(be Z V cF),(av (av aO Y (fun x hx=>(aa (fun e=>(aL (aq ar) lr aO) (e▸hx)) aF)) (bI.upd16 Y (ax (b7 aQ (by decide)) aN))) Z (fun x hx=>(aa (fun e=>(aL (aq O) lr aO) (e▸hx)) aF)) (bI.updl Z aR rfl)),cG⟩⟩
 rintro _ cH ⟨rfl,dt,bU,bV,z⟩
 refine⟨_,_,rfl,z.hl,by simp[eC],by trivial,fun du bW=>?_⟩
 refine ab z.hC fun aW bX cI=>?_
 have cJ:cH.heap[D]? = some (.cells #[vB 21,vB 0,vW 0,vW 0,vW 0,vW 0,vW 0,vW 0,vW 0,vW 0,vW 0,vW 0,nS,nS,nS,.slice bU ((aY dr (ah.mk (x51.bytesR ((ah.mk b false 0).byteV)) false 0).l.length 0 (ah.mk (x51.bytesR ((ah.mk b false 0).byteV)) false 0) []).2.length) bV,vB 0,vB 0,vB 0,vB 0,vB 0,nS] 45 (0,0)):=z.hm
 refine bn<|tn<|al 2<|?_
 have a5:=ak.updl cI bW (aa a3 aF) z.hl rfl
 refine ay<|mq (bL a5)<|?_
 have dv:=ak.len a5
 refine Pl 2<|ay<|mq (bL a5)<|?_
 have dw:=ak.len a5
 refine ay<|m1 (ke (e:=aW.e)) fun dy cK=>?_
 have a6:=aI bW cK
 have bY:=u1 z.u a6 im
 have bZ:=ud af (uz g (u1 h i im)) I
 have c1:=ak.upd cs (ut (aH.mono (S':=[G]) bo aA) (ut (aH.mono (S':=[T,G,D]) a4 aA) bY (ac im (ac im (ac im (ac (ni j.size F) aA))))) (ac (nr ag) (ac im (ac (ni o.size M) aA)))) (aa (Ne.symm (nb (aq B) a1.size I)) aF) (ax (b7 (ub (aI a1 bZ) B) (by decide)) aN)
 refine ay<|m2 (bt ((aW.e==0)) (bE aW.e) c1) fun dz cM b0=>?_
 refine ab cM fun c2 c3 c4=>?_
 refine aM 1<|ay<|m2 (cC c4) fun dA c5 b1=>nt<|sq<|al 1<|ay<|mq (bL c5)<|?_
 have dB:=ak.len c5
 refine Pl 1<|cE 2<|?_
 have c6:=u1 b0 b1 im
 have b2:=u1 (aH.mono (S':=[T,G,D,U,ae]) bY (ac im (ac im (ac im (ac im aA))))) c6 im
 have b3:=ut (aH.mono (S':=[G]) bC aA) b2 (ac (ni bZ.size ag) (ac im (ac (ni (le (le (le (le (le q.size k.size) g.size) h.size) i.size) o.size) M) (ac (ni (le (le (le (le (le (le (le (le q.size k.size) g.size) h.size) i.size) o.size) p.size) d.size) j.size) F) (ac (nr I) aA)))))
 have c7:=ud bc b3 (le a0.size a9)
 have hs:aj bh dir 21 b=bp (aU.mk 21 0 0 0 0 0 0 0 0 0 0 0 [] [] [] (aY dr (ah.mk ((((ah.mk b false 0).bytesC 1).need (jl ((ah.mk b false 0).byteV)) 5).bytesR ((ah.mk b false 0).byteV)) false 0).l.length 0 (ah.mk ((((ah.mk b false 0).bytesC 1).need (jl ((ah.mk b false 0).byteV)) 5).bytesR ((ah.mk b false 0).byteV)) false 0) []).2 0 0 0 0 0 []) (((((ah.mk b false 0).bytesC 1).need (jl ((ah.mk b false 0).byteV)) 5).bytesC ((ah.mk b false 0).byteV)).need (((aY dr (ah.mk ((((ah.mk b false 0).bytesC 1).need (jl ((ah.mk b false 0).byteV)) 5).bytesR ((ah.mk b false 0).byteV)) false 0).l.length 0 (ah.mk ((((ah.mk b false 0).bytesC 1).need (jl ((ah.mk b false 0).byteV)) 5).bytesR ((ah.mk b false 0).byteV)) false 0) []).1).e==0) (bE ((aY dr (ah.mk ((((ah.mk b false 0).bytesC 1).need (jl ((ah.mk b false 0).byteV)) 5).bytesR ((ah.mk b false 0).byteV)) false 0).l.length 0 (ah.mk ((((ah.mk b false 0).bytesC 1).need (jl ((ah.mk b false 0).byteV)) 5).bytesR ((ah.mk b false 0).byteV)) false 0) []).1).e)):=by
   unfold aj bh eh sL zb lK
   (try simp only[b6,bi,dJ,dP,dL,dN,dO,reduceIte,yW,xj,wz,if_pos hd])
   all_goals rfl
 refine cb ((c2.endC.e != 0)) (fun b4=>?_) (fun b4=>?_)
 have b5:=aB b4
 refine al 2<|?_
 refine aG (ub (ud ad b3 a9) Q) mZ fun dC cN c8=>ai 1<|aX<|?_
 have c9:=nb (aq Q) (le (le (le (le (le (le (le (le (le (le (le H.size t.size) r.size) q.size) k.size) g.size) h.size) i.size) o.size) p.size) d.size) j.size) v
 refine CD (aH.blk (u1 (aH.mono (S':=[T,G,D,U,ae,b8]) b2 (ac im (ac im (ac im (ac im (ac im aA)))))) c8 im) (aa (Ne.symm (nb (ak.lt E) (le (le p.size d.size) j.size) v)) (aa (Ne.symm (nb (aq B) (le (le (le (le (le (le (le (le (le (le t.size r.size) q.size) k.size) g.size) h.size) i.size) o.size) p.size) d.size) j.size) v)) (aa (Ne.symm (nb (aq N) (le d.size j.size) v)) (aa bv (aa (Ne.symm (nb (ak.lt J) (le (le (le (le (le (le (le k.size g.size) h.size) i.size) o.size) p.size) d.size) j.size) v)) (aa (Ne.symm c9) aF)))))) ao) fun dE ca=>?_
 refine rx (be ca c9 cN) (vI c2.endC.e)<|?_
 subst c3 bX bm bf
 rw[hs]
 exact bH b5 (ut c7 (us c8 ca) (ac (nr b9) (ac (ni (le (le (le (le (le (le (le (le (le (le (le (le a0.size H.size) t.size) r.size) q.size) k.size) g.size) h.size) i.size) o.size) p.size) d.size) j.size) v) aA)))
 have b5:=az b4
 refine bj<|sg<|?_
 refine L0<|bN (aH.blk (us a6 c6) (aa V (aa (Ne.symm (nb (ak.lt J) (le (le (le (le k.size g.size) h.size) i.size) o.size) M)) aF)) cJ)<|?_
 have cd:=ub (ud ad b3 a9) Q
 refine aG cd (mG 21 0 0 0 0 0 0 0 0 0 0 0 nS nS nS (.slice bU ((aY dr (ah.mk (x51.bytesR ((ah.mk b false 0).byteV)) false 0).l.length 0 (ah.mk (x51.bytesR ((ah.mk b false 0).byteV)) false 0) []).2.length) bV) 0 0 0 0 0 nS) fun dF cO a7=>ai 1<|rt<|?_
 have cg:=nb (aq Q) (le (le (le (le (le (le (le (le (le (le (le H.size t.size) r.size) q.size) k.size) g.size) h.size) i.size) o.size) p.size) d.size) j.size) v
 have ch:=aH.blk (u1 (aH.mono (S':=[T,G,D,U,ae,b8]) b2 (ac im (ac im (ac im (ac im (ac im aA)))))) a7 im) (aa (Ne.symm (nb (ak.lt E) (le (le p.size d.size) j.size) v)) (aa (Ne.symm (nb (aq B) (le (le (le (le (le (le (le (le (le (le t.size r.size) q.size) k.size) g.size) h.size) i.size) o.size) p.size) d.size) j.size) v)) (aa (Ne.symm (nb (aq N) (le d.size j.size) v)) (aa bv (aa (Ne.symm (nb (ak.lt J) (le (le (le (le (le (le (le k.size g.size) h.size) i.size) o.size) p.size) d.size) j.size) v)) (aa (Ne.symm cg) aF)))))) ao
 refine CD ch fun dG a8=>?_
 refine rx (be a8 cg cO) (vI 0)<|?_
 subst c3 bX bm bf
 rw[hs]
 exact bM b5 ⟨_,_,_,_,_,rfl,aS.nil ..,aS.nil ..,aS.nil ..,((av (av (av (av (av z.ho a6 (fun x hx=>(aa (fun e=>(aL (aq O) lr z.ho) (e▸hx)) aF)) (bI.updl a6 z.hl rfl)) b0 (fun x hx=>(aa (fun e=>(aL (ak.lt J) (le (le (le (le (le (le (le (le k.size g.size) h.size) i.size) o.size) p.size) d.size) j.size) P.size) z.ho) (e▸hx)) aF)) (bI.upd16 b0 (ax (ak.safe c1 _ (by decide)) aN))) b1 (fun x hx=>(aa (fun e=>(aL (ak.lt J) (le (le (le (le (le (le (le (le k.size g.size) h.size) i.size) o.size) p.size) d.size) j.size) P.size) z.ho) (e▸hx)) aF)) (bI.upd16 b1 (ax (ak.safe c4 _ (by decide)) aN))) a7 (fun x hx=>(aa (fun e=>(aL (aq Q) (le (le (le (le (le (le (le (le (le (le (le (le H.size t.size) r.size) q.size) k.size) g.size) h.size) i.size) o.size) p.size) d.size) j.size) P.size) z.ho) (e▸hx)) aF)) (bI.upd16 a7 (ax (b7 cd (by decide)) aN))) a8 (fun x hx=>(aa (fun e=>(aL (aq ao) lr z.ho) (e▸hx)) aF)) (bI.updl a8 ch rfl))).rd,aS.nil ..,(cT (by omega))⟩ (ut c7 (us a7 a8) (ac (nr b9) (ac (ni (le (le (le (le (le (le (le (le (le (le (le (le a0.size H.size) t.size) r.size) q.size) k.size) g.size) h.size) i.size) o.size) p.size) d.size) j.size) v) aA)))
theorem vl{A:Option Addr}{cp:Nat}{b:List Int}{w:World}{c:Int}(n1:(c==20)=false)(n2:(c==21)=false) : Calls Tryz.prog 102 #[vI 0,vB c,.slice A b.length cp] w (eL (aj bh 0 c b) w):=by
 refine CH 77 Tryz.func102 rfl<|sg<|aK mZ fun n o d e f=>ai 1<|sq<|aE 6<|c0<|bj<|al 2<|ay (args:=#[vI 0,vB c])<|m1 (ra (dir:=0) (x:=c) n1 n2) fun p g=>Pl 3<|aK #[.nilFunc,.nilFunc] fun q r h i j=>aG i #[.nilFunc,.nilFunc] fun s t k=>ai 1<|sq<|sq<|go<|ai 2<|c1<|al 1<|?_
 have a:=aI g (ud j k h)
 refine aG (ub a e) mZ fun u l m=>ai 1<|aX<|ry l (vI 4)<|?_
 exact cv (by unfold aj bh;(try simp only[bi,dJ,dP,dL,dN,dO,reduceIte,n1,n2])<;>rfl) (cR (ud f (uz a m) d))
theorem uJ{A:Option Addr}{cp:Nat}{b:List Int}{w:World}{c:Int}(n1:(c==20)=false)(n2:(c==21)=false) : Calls Tryz.prog 102 #[vI 1,vB c,.slice A b.length cp] w (eL (aj bh 1 c b) w):=by
 refine CH 77 Tryz.func102 rfl<|sg<|aK mZ fun n o d e f=>ai 1<|sq<|aE 6<|c0<|bj<|al 2<|ay (args:=#[vI 1,vB c])<|m1 (ra (dir:=1) (x:=c) n1 n2) fun p g=>Pl 3<|aK #[.nilFunc,.nilFunc] fun q r h i j=>aG i #[.nilFunc,.nilFunc] fun s t k=>ai 1<|sq<|sq<|go<|ai 2<|c1<|al 1<|?_
 have a:=aI g (ud j k h)
 refine aG (ub a e) mZ fun u l m=>ai 1<|aX<|ry l (vI 4)<|?_
 exact cv (by unfold aj bh;(try simp only[bi,dJ,dP,dL,dN,dO,reduceIte,n1,n2])<;>rfl) (cR (ud f (uz a m) d))
theorem uE{A:Option Addr}{cp:Nat}{b:List Int}{w:World}{dir c:Int}(hd:¬ (dir=0∨dir=1)) : Calls Tryz.prog 102 #[vI dir,vB c,.slice A b.length cp] w (eL (aj bh dir c b) w):=by
 have e0:(dir != 0)=true:=by simp;omega
 have e1:(dir != 1)=true:=by simp;omega
 refine CH 77 Tryz.func102 rfl<|sg<|aK mZ fun g h a d e=>ai 1<|sq<|al 3<|sy 18 e0<|Pl 3<|nl<|tn<|ct e1<|al 1<|aG d mZ fun i eN f=>ai 1<|aX<|ry eN (vI 1)<|?_
 exact cv (by unfold aj bh;(try simp only[e0,e1,bi,dJ,dP,dL,dN,dO,reduceIte,hd])<;>rfl) (cR (ud e f a))
theorem ll{m:Md}{v:Value}{b:List Int}{w:World}{dir c:Int}(hc:B8 c)(h:aZ m w v b)(hb:b.length≤1048576) :
    Calls Tryz.prog 102 #[.int .i64 dir,.int .u8 c,v] w (eL (aj bh dir c b) w):=by
  obtain⟨A,cp,rfl,_,_⟩:=h.shape
  by_cases h0:dir=0
  · subst h0
    by_cases a:c=20
    · subst a;exact rY (Or.inl (rfl:(0:Int)=0)) h hb
    by_cases d:c=21
    · subst d;exact oK (Or.inl rfl) h hb
    exact vl (by simpa using a) (by simpa using d)
  by_cases h1:dir=1
  · subst h1
    by_cases a:c=20
    · subst a;exact ru (Or.inl (rfl:(0:Int)=0)) h hb
    by_cases d:c=21
    · subst d;exact oK (Or.inr rfl) h hb
    exact uJ (by simpa using a) (by simpa using d)
  exact uE (by omega)
open Go.RowKit
def dR (res:Option (List Int))(w:World)(e:Ending)(w':World) : Prop :=
  match res with
  | some l=>∃ v,e = .returned (.tuple #[v,.int .i64 0])∧eG w.heap.size w' v l∧aH [] w w'
  | none=>e = .returned (.tuple #[.slice none 0 0,.int .i64 1])∧aH [] w w'
def bv (parse:Int→Int→List Int→aU × Int)(lay:Int→aU→List Int)(dir:Int)(M:aU) : Option (List Int) :=
  if parse dir M.code (lay dir M)=(M,0) then some (lay dir M) else none
def gq:=aj aP
def ie:=aj aW
def it:=aj bg
def jj:=aj bU
def gC:=aj bh
open Go.RowKit
def nz (M:aU) : Option (List Int):=if !(gR M.code M.fail) then none else if !(decide (M=hG M.code M.fail)) then none else some [(M.code+128)%256,M.fail]
theorem ot{m:Md}{cs:Array Value}{M:aU}{w:World}(h:aJ m w cs.toList M) : Calls Tryz.prog 72 #[.agg cs] w (dR (nz M) w):=by
 have hM:=h
 refine fo h fun Aw kw Ab kb Ad kd Ar kr Ao ko e hw hbt hd hr ho _ _ _ _ _ _ _ _ _ _ q0 q1 q2 q3 q4 q5 q6 q7 q8 q9 X Y Z a0 a1 a2 a3=>?_
 subst e
 refine en 26 Tryz.func72 rfl<|sg<|L0<|d6 (mG M.code M.fail M.addr M.count M.value M.and_ M.or_ M.addr2 M.sub M.status M.events M.messages (.slice Aw M.words.length kw) (.slice Ab M.bits.length kb) (.slice Ad M.data.length kd) (.slice Ar M.recs.length kr) M.mei M.kind M.level M.more M.next (.slice Ao M.objects.length ko)) fun s a4 a5 k J=>Pl 2<|aM 1<|aD k 0<|Pl 1<|aD k 1<|Pl 1<|aK #[vB 0,vB 0] fun l a6 K L N=>?_
 refine aG L #[vB M.code,vB M.fail] fun a7 O P=>nt<|sq<|sq<|Rg 10 (fun w'=>w'.heap[l]? = some (.cells #[vB M.code,vB M.fail] 145 (0,0))∧w'.heap[s]? = some (.cells (mG M.code M.fail M.addr M.count M.value M.and_ M.or_ M.addr2 M.sub M.status M.events M.messages (.slice Aw M.words.length kw) (.slice Ab M.bits.length kb) (.slice Ad M.data.length kd) (.slice Ar M.recs.length kr) M.mei M.kind M.level M.more M.next (.slice Ao M.objects.length ko)) 45 (0,0))) fun a8 t=>?_
 have u:=ub t O
 have v:=ud N (aI P t) K
 have z:=ub v k
 refine bo ⟨u,z⟩ fun Q=>Rr 0 Q (.agg #[vB M.code,vB M.fail]) (fun w' hs=>iw (g:=l) (off:=0) [vB M.code,vB M.fail] rfl (by kernel_rfl) hs.1 (by kernel_rfl) (by kernel_rfl) rfl)<|R0 1 rfl<|Oc<|m1 (uy (a:=M.code) (b:=M.fail) (w:=_)) fun a9 n=>?_
 have C:=ub n u
 have D:=ub n z
 refine bo ⟨C,D⟩ fun c=>Rt 2 c<|Rt 3 c<|?_
 have E:=aI J (aI v n)
 refine uu 13 ((!(gR M.code M.fail))) (fun d=>?_) (fun d=>?_)
 have j:(gR M.code M.fail)=false:=by simpa using d
 exact Ro 4 c<|Ro 5 c<|Ro 6 c<|Ro 7 c<|Ro 8 c<|Rt 9 c<|re<|tn<|c1<|aE 2<|aX<|rr (.tuple #[nS,vI 1])<|cv (y:=none) (by unfold nz;(try simp only[d,j,bi,reduceIte])<;>rfl) ⟨rfl,E⟩
 have j:(gR M.code M.fail)=true:=by simpa using d
 refine Rr 4 c (.agg (mG M.code M.fail M.addr M.count M.value M.and_ M.or_ M.addr2 M.sub M.status M.events M.messages (.slice Aw M.words.length kw) (.slice Ab M.bits.length kb) (.slice Ad M.data.length kd) (.slice Ar M.recs.length kr) M.mei M.kind M.level M.more M.next (.slice Ao M.objects.length ko))) (fun w' hs=>iw (g:=s) (off:=0) [vB M.code,vB M.fail,vW M.addr,vW M.count,vW M.value,vW M.and_,vW M.or_,vW M.addr2,vW M.sub,vW M.status,vW M.events,vW M.messages,.slice Aw M.words.length kw,.slice Ab M.bits.length kb,.slice Ad M.data.length kd,.slice Ar M.recs.length kr,vB M.mei,vB M.kind,vB M.level,vB M.more,vB M.next,.slice Ao M.objects.length ko] rfl (by kernel_rfl) hs.2 (by kernel_rfl) (by kernel_rfl) rfl)<|Rr 5 c (.agg #[vB M.code,vB M.fail]) (fun w' hs=>iw (g:=l) (off:=0) [vB M.code,vB M.fail] rfl (by kernel_rfl) hs.1 (by kernel_rfl) (by kernel_rfl) rfl)<|R0 6 rfl<|Oc<|m1 (np (a:=M.code) (b:=M.fail) (w:=_)) fun aa o=>?_
 have F:=ub o C
 have G:=ub o D
 refine bo ⟨F,G⟩ fun ab=>?_
 have H:=aI E o
 refine R0 7 rfl<|Oc<|m1 (io (A:=M) (B:=hG M.code M.fail) (aJ.old hM H) (show aJ true _ _ _ from⟨_,_,_,_,_,rfl,aS.nil ..,aS.nil ..,aS.nil ..,aS.nil ..,aS.nil ..,⟨(b8 (x:=M.code) (by omega)),(b8 (x:=M.fail) (by omega)),(cP (x:=0) (by omega)),(cP (x:=0) (by omega)),(cP (x:=0) (by omega)),(cP (x:=0) (by omega)),(cP (x:=0) (by omega)),(cP (x:=0) (by omega)),(cP (x:=0) (by omega)),(cP (x:=0) (by omega)),(cP (x:=0) (by omega)),(cP (x:=0) (by omega)),(b8 (x:=0) (by omega)),(b8 (x:=0) (by omega)),(b8 (x:=0) (by omega)),(b8 (x:=0) (by omega)),(b8 (x:=0) (by omega))⟩⟩)) fun ac p=>?_
 have q:=ub p G
 refine bo ⟨(ub p F),q⟩ fun I=>Rt 8 I<|Rt 9 I<|re<|tn<|?_
 have r:=aI H p
 refine cb ((!(decide (M=hG M.code M.fail)))) (fun f=>?_) (fun f=>?_)
 have i:(decide (M=hG M.code M.fail))=false:=by simpa using f
 have R:=of_decide_eq_false i
 exact aE 2<|aX<|rr (.tuple #[nS,vI 1])<|cv (y:=none) (by unfold nz;(try simp only[d,j,f,i,bi,reduceIte])<;>rfl) ⟨rfl,r⟩
 have i:(decide (M=hG M.code M.fail))=true:=by simpa using f
 have R:=of_decide_eq_true i
 refine bj<|al 1<|aD q 0<|Pl 2<|aD q 1<|L0<|cY (m:=2) (e:=5) #[vB ((M.code+128)%256),vB M.fail] fun S ad T U V=>?_
 have W:=cG T (xs:=[((M.code+128)%256),M.fail]) (by as_aux_lemma=>kernel_rfl) (am (by omega) (am (by omega) aR)) (by(try simp only[List.length_cons,List.length_nil]);omega) U
 refine ai 2<|rt<|rr (.tuple #[.slice (some ⟨S,0,none⟩) 2 2,vI 0])<|?_
 exact cv (y:=(some [((M.code+128)%256),M.fail])) (by unfold nz;(try simp only[d,j,f,i,bi,reduceIte])<;>rfl) ⟨_,rfl,(b6.weaken W r.size),(aI r V)⟩
open Go.RowKit
def cm (dir:Int)(M:aU) : List Int :=
  if (!(dir==0))&&(M.code==3 || M.code==4 || M.code==23) then [(2*(M.words.length:Int))%256]++aO M.words
  else if M.code==6 then aO [M.addr,M.value]
  else if M.code==22 then aO [M.addr,M.and_,M.or_]
  else if M.code==16&&dir==0 then ((aO [M.addr,M.count]++[(2*(M.words.length:Int))%256])++aO M.words)
  else if M.code==23 then ((aO [M.addr,M.count,M.addr2,(M.words.length:Int)%65536]++[(2*(M.words.length:Int))%256])++aO M.words)
  else if M.code==24&&dir==0 then aO [M.addr]
  else if M.code==24 then aO [(2+2*(M.words.length:Int))%65536,(M.words.length:Int)%65536]++aO M.words
  else aO [M.addr,M.count]
theorem xg{m:Md}{cs:Array Value}{M:aU}{w:World}{dir:Int}(h:aJ m w cs.toList M)(hf:bB M) : Calls Tryz.prog 149 #[vI dir,.agg cs] w (jK (cm dir M) w):=by
 refine fo h fun Aw kw Ab kb Ad kd Ar kr Ao ko e hw hbt hd hr ho _ _ _ _ _ _ _ _ _ _ q0 q1 q2 q3 q4 q5 q6 q7 q8 q9 bN bO bP bR bS bU bV=>?_
 subst e
 have hf1:=hf.words
 have hf2:=hf.bits
 have hf3:=hf.data
 have hf4:=hf.recs
 have hf5:=hf.objects
 refine en 124 Tryz.func149 rfl<|sg<|L0<|d6 (mG M.code M.fail M.addr M.count M.value M.and_ M.or_ M.addr2 M.sub M.status M.events M.messages (.slice Aw M.words.length kw) (.slice Ab M.bits.length kb) (.slice Ad M.data.length kd) (.slice Ar M.recs.length kr) M.mei M.kind M.level M.more M.next (.slice Ao M.objects.length ko)) fun bW bX bY E d=>Pl 1<|aM 1<|aD E 12<|ai 2<|al 1<|bq (2*(M.words.length:Int))<|Pl 1<|L0<|cY (m:=1) (e:=5) #[vB ((2*(M.words.length:Int))%256)] fun bZ c0 ab ac f=>?_
 have u:=cG ab (xs:=[((2*(M.words.length:Int))%256)]) (by as_aux_lemma=>kernel_rfl) (am (by omega) aR) (by(try simp only[List.length_cons,List.length_nil]);omega) ac
 refine Pl 1<|?_
 have F:=ub f E
 refine aD F 12<|?_
 have G:=aI d f
 refine ay<|dV (cS (xs:=M.words) (ey.old hw G) (by(try simp only[List.length_cons,List.length_nil]);omega)) fun c1 c2 c3 v c4 c5 b=>Pl 2<|cE 3<|sq<|al 1<|?_
 have a:=ub b F
 refine aD a 0<|ai 1<|bk<|al 3<|cu 11 [27] 38 (((!(dir==0))&&(((M.code==3)||(M.code==4))||(M.code==23)))) (fun K H=>?_) ?_
 refine bl 27 ((!(dir==0))) (fun o=>?_) (fun o=>?_)
 have A:(dir==0)=false:=by simpa using o
 have ad:=au A
 refine Pl 3<|cu 3 [30] 33 (((M.code==3)||(M.code==4))) (fun K I=>?_) ?_
 refine bl 30 ((M.code==3)) (fun p=>?_) (fun p=>?_)
 have ae:=ag p
 exact Pl 3<|ce I true (by rw[p];rfl)
 have ae:=au p
 exact Pl 3<|ce I (M.code==4) (by rw[p];rfl)
 refine Pl 1<|cu 3 [34] 37 ((((M.code==3)||(M.code==4))||(M.code==23))) (fun K J=>?_) ?_
 refine bl 34 (((M.code==3)||(M.code==4))) (fun q=>?_) (fun q=>?_)
 exact Pl 3<|ce J true (by rw[q];rfl)
 have af:=(bK q).1
 have ah:=(bK q).2
 have c6:=au af
 have c7:=au ah
 exact Pl 3<|ce J (M.code==23) (by rw[q];rfl)
 exact Pl 1<|ce H (((M.code==3)||(M.code==4))||(M.code==23)) (by rw[o];rfl)
 have A:(dir==0)=true:=by simpa using o
 have ad:=ag A
 exact Pl 11<|ce H false (by rw[o];rfl)
 refine ai 1<|?_
 have j:=aI G b
 refine cb (((!(dir==0))&&(((M.code==3)||(M.code==4))||(M.code==23)))) (fun c=>?_) (fun c=>?_)
 have L:=(bC c).1
 have aj:=(bC c).2
 have N:(dir==0)=false:=by simpa using L
 have q41anp:=au N
 refine al 2<|?_
 refine L0<|bQ b9 (xs:=([((2*(M.words.length:Int))%256)])) (ys:=(aO M.words)) (vB 0) 1 (av u b (fun x hx=>aF) (fun _ _ h=>h)) (v).rd (by(try simp only[bT,aC]);omega) (le f.size b.size) fun ak an c8 ao aq=>ai 1<|rt<|br<|tr<|rr (.slice ak (([((2*(M.words.length:Int))%256)]++(aO M.words)).length) an)<|?_
 have hs:cm dir M=([((2*(M.words.length:Int))%256)]++(aO M.words)):=by
   unfold cm
   (try simp only[c,L,N,aj,bi,reduceIte])
   all_goals first | rfl | (simp_all;done)
 rw[hs]
 exact⟨_,rfl,(b6.weaken ao d.size),(ut j aq (ap (aT u d.size) aA))⟩
 refine aE 3<|cb ((M.code==6)) (fun g=>?_) (fun g=>?_)
 have ar:=ag g
 refine al 1<|aD a 2<|Pl 1<|aD a 4<|L0<|cY (m:=2) (e:=37) #[vW M.addr,vW M.value] fun c9 ca aw ax O=>?_
 have az:=eB aw (xs:=[M.addr,M.value]) (by as_aux_lemma=>kernel_rfl) (am (by omega) (am (by omega) aR)) (by(try simp only[List.length_cons,List.length_nil]);omega) ax
 refine ay<|dV (cS (xs:=[M.addr,M.value]) (az).rd (by(try simp only[List.length_cons,List.length_nil]);omega)) fun aB aG cc aH cd cf aK=>ai 1<|rt<|br<|tr<|rr (.slice aB ((aO ([M.addr,M.value])).length) aG)<|?_
 have hs:cm dir M=(aO ([M.addr,M.value])):=by
   unfold cm
   (try simp only[c,g,bi,reduceIte])
   all_goals first | rfl | (simp_all;done)
 rw[hs]
 exact⟨_,rfl,(b6.weaken aH (le (le (le d.size f.size) b.size) O.size)),(aI j (aI O aK))⟩
 have ar:=au g
 refine aE 3<|cb ((M.code==22)) (fun i=>?_) (fun i=>?_)
 have aL:=ag i
 refine al 1<|aD a 2<|Pl 1<|aD a 5<|Pl 1<|aD a 6<|L0<|cY (m:=3) (e:=37) #[vW M.addr,vW M.and_,vW M.or_] fun cg ch aN aP P=>?_
 have aQ:=eB aN (xs:=[M.addr,M.and_,M.or_]) (by as_aux_lemma=>kernel_rfl) (am (by omega) (am (by omega) (am (by omega) aR))) (by(try simp only[List.length_cons,List.length_nil]);omega) aP
 refine ay<|dV (cS (xs:=[M.addr,M.and_,M.or_]) (aQ).rd (by(try simp only[List.length_cons,List.length_nil]);omega)) fun aS aV ci aW cj ck aX=>ai 1<|rt<|br<|tr<|rr (.slice aS ((aO ([M.addr,M.and_,M.or_])).length) aV)<|?_
 have hs:cm dir M=(aO ([M.addr,M.and_,M.or_])):=by
   unfold cm
   (try simp only[c,g,i,bi,reduceIte])
   all_goals first | rfl | (simp_all;done)
 rw[hs]
 exact⟨_,rfl,(b6.weaken aW (le (le (le d.size f.size) b.size) P.size)),(aI j (aI P aX))⟩
 have aL:=au i
 refine al 3<|cu 2 [65] 67 (((M.code==16)&&(dir==0))) (fun K Q=>?_) ?_
 refine bl 65 ((M.code==16)) (fun r=>?_) (fun r=>?_)
 have aY:=ag r
 exact Pl 2<|ce Q (dir==0) (by rw[r];rfl)
 have aY:=au r
 exact Pl 2<|ce Q false (by rw[r];rfl)
 refine ai 1<|cb (((M.code==16)&&(dir==0))) (fun k=>?_) (fun k=>?_)
 have R:=(bC k).1
 have S:=(bC k).2
 have cl:=ag R
 have cn:=ag S
 refine al 1<|aD a 2<|Pl 1<|aD a 3<|L0<|cY (m:=2) (e:=37) #[vW M.addr,vW M.count] fun co cp aZ b0 y=>?_
 have b1:=eB aZ (xs:=[M.addr,M.count]) (by as_aux_lemma=>kernel_rfl) (am (by omega) (am (by omega) aR)) (by(try simp only[List.length_cons,List.length_nil]);omega) b0
 refine ay<|dV (cS (xs:=[M.addr,M.count]) (b1).rd (by(try simp only[List.length_cons,List.length_nil]);omega)) fun cq cr ct T cv cw B=>Pl 1<|?_
 have U:=aI y B
 refine L0<|bQ b9 (xs:=(aO ([M.addr,M.count]))) (ys:=([((2*(M.words.length:Int))%256)])) (vB 0) 1 T ((av u (aI b U) (fun x hx=>aF) (fun _ _ h=>h))).rd (by(try simp only[bT,aC]);omega) B.size fun cx cy cz V W=>Pl 1<|?_
 have X:=ut U W (ap (aT T y.size) aA)
 refine L0<|bQ b9 (xs:=((aO ([M.addr,M.count]))++[((2*(M.words.length:Int))%256)])) (ys:=(aO M.words)) (vB 0) 1 V ((av v X (fun x hx=>aF) (fun _ _ h=>h))).rd (by(try simp only[bT,aC]);omega) (le B.size W.size) fun b2 b3 cA b4 b5=>ai 1<|rt<|br<|tr<|rr (.slice b2 ((((aO ([M.addr,M.count]))++[((2*(M.words.length:Int))%256)])++(aO M.words)).length) b3)<|?_
 have hs:cm dir M=(((aO ([M.addr,M.count]))++[((2*(M.words.length:Int))%256)])++(aO M.words)):=by
   unfold cm
   (try simp only[c,g,i,k,R,S,bi,reduceIte])
   all_goals first | rfl | (simp_all;done)
 rw[hs]
 exact⟨_,rfl,(b6.weaken b4 (le (le (le d.size f.size) b.size) y.size)),(aI j (ut X b5 (ap (aT V y.size) aA)))⟩
 refine aE 3<|cb ((M.code==23)) (fun l=>?_) (fun l=>?_)
 have b7:=ag l
 refine al 1<|aD a 2<|Pl 1<|aD a 3<|Pl 1<|aD a 7<|Pl 2<|L0<|cY (m:=4) (e:=37) #[vW M.addr,vW M.count,vW M.addr2,vW ((M.words.length:Int)%65536)] fun cB cC b8 ba z=>?_
 have bb:=eB b8 (xs:=[M.addr,M.count,M.addr2,((M.words.length:Int)%65536)]) (by as_aux_lemma=>kernel_rfl) (am (by omega) (am (by omega) (am (by omega) (am (by omega) aR)))) (by(try simp only[List.length_cons,List.length_nil]);omega) ba
 refine ay<|dV (cS (xs:=[M.addr,M.count,M.addr2,((M.words.length:Int)%65536)]) (bb).rd (by(try simp only[List.length_cons,List.length_nil]);omega)) fun cD cF cH Y cI cJ C=>Pl 1<|?_
 have Z:=aI z C
 refine L0<|bQ b9 (xs:=(aO ([M.addr,M.count,M.addr2,((M.words.length:Int)%65536)]))) (ys:=([((2*(M.words.length:Int))%256)])) (vB 0) 1 Y ((av u (aI b Z) (fun x hx=>aF) (fun _ _ h=>h))).rd (by(try simp only[bT,aC]);omega) C.size fun cK cL cM a0 a1=>Pl 1<|?_
 have a2:=ut Z a1 (ap (aT Y z.size) aA)
 refine L0<|bQ b9 (xs:=((aO ([M.addr,M.count,M.addr2,((M.words.length:Int)%65536)]))++[((2*(M.words.length:Int))%256)])) (ys:=(aO M.words)) (vB 0) 1 a0 ((av v a2 (fun x hx=>aF) (fun _ _ h=>h))).rd (by(try simp only[bT,aC]);omega) (le C.size a1.size) fun bc bd cN be bf=>ai 1<|rt<|br<|tr<|rr (.slice bc ((((aO ([M.addr,M.count,M.addr2,((M.words.length:Int)%65536)]))++[((2*(M.words.length:Int))%256)])++(aO M.words)).length) bd)<|?_
 have hs:cm dir M=(((aO ([M.addr,M.count,M.addr2,((M.words.length:Int)%65536)]))++[((2*(M.words.length:Int))%256)])++(aO M.words)):=by
   unfold cm
   (try simp only[c,g,i,k,l,bi,reduceIte])
   all_goals first | rfl | (simp_all;done)
 rw[hs]
 exact⟨_,rfl,(b6.weaken be (le (le (le d.size f.size) b.size) z.size)),(aI j (ut a2 bf (ap (aT a0 z.size) aA)))⟩
 have b7:=au l
 refine al 3<|cu 2 [98] 100 (((M.code==24)&&(dir==0))) (fun K a3=>?_) ?_
 refine bl 98 ((M.code==24)) (fun s=>?_) (fun s=>?_)
 have bg:=ag s
 exact Pl 2<|ce a3 (dir==0) (by rw[s];rfl)
 have bg:=au s
 exact Pl 2<|ce a3 false (by rw[s];rfl)
 refine ai 1<|cb (((M.code==24)&&(dir==0))) (fun n=>?_) (fun n=>?_)
 have a4:=(bC n).1
 have a5:=(bC n).2
 have cO:=ag a4
 have cP:=ag a5
 refine al 1<|aD a 2<|L0<|cY (m:=1) (e:=37) #[vW M.addr] fun cQ cR bh bj a6=>?_
 have bm:=eB bh (xs:=[M.addr]) (by as_aux_lemma=>kernel_rfl) (am (by omega) aR) (by(try simp only[List.length_cons,List.length_nil]);omega) bj
 refine ay<|dV (cS (xs:=[M.addr]) (bm).rd (by(try simp only[List.length_cons,List.length_nil]);omega)) fun bo bp cT bs cU cV bt=>ai 1<|rt<|br<|tr<|rr (.slice bo ((aO ([M.addr])).length) bp)<|?_
 have hs:cm dir M=(aO ([M.addr])):=by
   unfold cm
   (try simp only[c,g,i,k,l,n,a4,a5,bi,reduceIte])
   all_goals first | rfl | (simp_all;done)
 rw[hs]
 exact⟨_,rfl,(b6.weaken bs (le (le (le d.size f.size) b.size) a6.size)),(aI j (aI a6 bt))⟩
 refine aE 3<|cb ((M.code==24)) (fun t=>?_) (fun t=>?_)
 have bu:=ag t
 refine al 1<|bq (2*(M.words.length:Int))<|bq (2+(2*(M.words.length:Int)))<|Pl 3<|L0<|cY (m:=2) (e:=37) #[vW ((2+(2*(M.words.length:Int)))%65536),vW ((M.words.length:Int)%65536)] fun cW cX bv bw D=>?_
 have bx:=eB bv (xs:=[((2+(2*(M.words.length:Int)))%65536),((M.words.length:Int)%65536)]) (by as_aux_lemma=>kernel_rfl) (am (by omega) (am (by omega) aR)) (by(try simp only[List.length_cons,List.length_nil]);omega) bw
 refine ay<|dV (cS (xs:=[((2+(2*(M.words.length:Int)))%65536),((M.words.length:Int)%65536)]) (bx).rd (by(try simp only[List.length_cons,List.length_nil]);omega)) fun cZ d0 d1 a7 d2 d3 a8=>Pl 1<|?_
 have a9:=aI D a8
 refine L0<|bQ b9 (xs:=(aO ([((2+(2*(M.words.length:Int)))%65536),((M.words.length:Int)%65536)]))) (ys:=(aO M.words)) (vB 0) 1 a7 ((av v a9 (fun x hx=>aF) (fun _ _ h=>h))).rd (by(try simp only[bT,aC]);omega) a8.size fun bz bA d4 bD bE=>ai 1<|rt<|br<|tr<|rr (.slice bz (((aO ([((2+(2*(M.words.length:Int)))%65536),((M.words.length:Int)%65536)]))++(aO M.words)).length) bA)<|?_
 have hs:cm dir M=((aO ([((2+(2*(M.words.length:Int)))%65536),((M.words.length:Int)%65536)]))++(aO M.words)):=by
   unfold cm
   (try simp only[c,g,i,k,l,n,t,bi,reduceIte])
   all_goals first | rfl | (simp_all;done)
 rw[hs]
 exact⟨_,rfl,(b6.weaken bD (le (le (le d.size f.size) b.size) D.size)),(aI j (ut a9 bE (ap (aT a7 D.size) aA)))⟩
 have bu:=au t
 refine sk<|bn<|tn<|al 1<|aD a 2<|Pl 1<|aD a 3<|L0<|cY (m:=2) (e:=37) #[vW M.addr,vW M.count] fun d5 d7 bF bG aa=>?_
 have bH:=eB bF (xs:=[M.addr,M.count]) (by as_aux_lemma=>kernel_rfl) (am (by omega) (am (by omega) aR)) (by(try simp only[List.length_cons,List.length_nil]);omega) bG
 refine ay<|dV (cS (xs:=[M.addr,M.count]) (bH).rd (by(try simp only[List.length_cons,List.length_nil]);omega)) fun bI bJ d8 bL d9 da bM=>ai 1<|rt<|rr (.slice bI ((aO ([M.addr,M.count])).length) bJ)<|?_
 have hs:cm dir M=(aO ([M.addr,M.count])):=by
   unfold cm
   (try simp only[c,g,i,k,l,n,t,bi,reduceIte])
   all_goals first | rfl | (simp_all;done)
 rw[hs]
 exact⟨_,rfl,(b6.weaken bL (le (le (le d.size f.size) b.size) aa.size)),(aI j (aI aa bM))⟩
open Go.RowKit
def bZ (dir:Int)(M:aU) : List Int :=
  if M.code==8 then aO [M.sub]++aO M.words
  else if dir==0 then []
  else if M.code==7 then [M.value%256]
  else if M.code==11 then aO [M.status,M.events]
  else if M.code==12 then (([(6+(M.data.length:Int))%256]++aO [M.status,M.events,M.messages])++M.data)
  else [(M.data.length:Int)%256]++M.data
theorem yD{m:Md}{cs:Array Value}{M:aU}{w:World}{dir:Int}(h:aJ m w cs.toList M)(hf:bB M) : Calls Tryz.prog 152 #[vI dir,.agg cs] w (jK (bZ dir M) w):=by
 refine fo h fun Aw kw Ab kb Ad kd Ar kr Ao ko e hw hbt hd hr ho _ _ _ _ _ _ _ _ _ _ q0 q1 q2 q3 q4 q5 q6 q7 q8 q9 bV bW bY c0 c1 c2 c3=>?_
 subst e
 have hf1:=hf.words
 have hf2:=hf.bits
 have hf3:=hf.data
 have hf4:=hf.recs
 have hf5:=hf.objects
 refine en 70 Tryz.func152 rfl<|sg<|L0<|d6 (mG M.code M.fail M.addr M.count M.value M.and_ M.or_ M.addr2 M.sub M.status M.events M.messages (.slice Aw M.words.length kw) (.slice Ab M.bits.length kb) (.slice Ad M.data.length kd) (.slice Ar M.recs.length kr) M.mei M.kind M.level M.more M.next (.slice Ao M.objects.length ko)) fun n c4 c5 b a=>ai 1<|sq<|bk<|al 1<|aD b 0<|Pl 2<|nl<|tn<|cb ((M.code==8)) (fun d=>?_) (fun d=>?_)
 have an:=ag d
 refine sq<|Rg 9 (fun w'=>w'.cell? ⟨n,8,none⟩=some (vW M.sub)∧w'.cell? ⟨n,12,none⟩=some (.slice Aw M.words.length kw)) fun c6 q=>?_
 have K:=ub q b
 refine bo ⟨(ae K rfl),(ae K rfl)⟩ fun F=>Rt 0 F<|Rl 1 F (fun _ hs=>hs.1)<|Rt 4 F<|Rl 5 F (fun _ hs=>hs.2)<|R0 2 rfl<|cY (m:=1) (e:=37) #[vW M.sub] fun c7 c8 ao ar r=>?_
 have aw:=eB ao (xs:=[M.sub]) (by as_aux_lemma=>kernel_rfl) (am (by omega) aR) (by(try simp only[List.length_cons,List.length_nil]);omega) ar
 have L:=ub r K
 refine bo ⟨(ae L rfl),(ae L rfl)⟩ fun c9=>R0 3 rfl<|Oc<|dV (cS (xs:=[M.sub]) (aw).rd (by(try simp only[List.length_cons,List.length_nil]);omega)) fun ax ca cc N cd ce O=>?_
 have P:=ub O L
 refine bo ⟨(ae P rfl),(ae P rfl)⟩ fun cf=>?_
 have Y:=aI a (aI q (aI r O))
 refine R0 6 rfl<|Oc<|dV (cS (xs:=M.words) (ey.old hw Y) (by(try simp only[List.length_cons,List.length_nil]);omega)) fun cg ch ci az cj ck G=>?_
 have Q:=ub G P
 refine bo ⟨(ae Q rfl),(ae Q rfl)⟩ fun cl=>?_
 refine R0 7 rfl<|bQ b9 (xs:=(aO ([M.sub]))) (ys:=(aO M.words)) (vB 0) 1 (av N G (fun x hx=>aF) (fun _ _ h=>h)) (az).rd (by(try simp only[bT,aC]);omega) (le O.size G.size) fun aB aG cm aK Z=>?_
 have a0:=aH.blk Z (bA (aL (aq b) (le q.size r.size) N) aF) Q
 refine bo ⟨(ae a0 rfl),(ae a0 rfl)⟩ fun aM=>Rt 8 aM<|re<|tn<|rt<|br<|tr<|rr (.slice aB (((aO ([M.sub]))++(aO M.words)).length) aG)<|?_
 have hs:bZ dir M=((aO ([M.sub]))++(aO M.words)):=by
   unfold bZ
   (try simp only[d,bi,reduceIte])
   all_goals first | rfl | (simp_all;done)
 rw[hs]
 exact⟨_,rfl,(b6.weaken aK (le (le a.size q.size) r.size)),(ut Y (ut (aH.mono (S':=(ob ax++[])) G aA) Z (ap il aA)) (ap (aT N (le (le a.size q.size) r.size)) aA))⟩
 have an:=au d
 refine aE 3<|cb ((dir==0)) (fun g=>?_) (fun g=>?_)
 have aN:=ag g
 refine aE 1<|rt<|br<|tr<|rr nS<|?_
 have hs:bZ dir M=[]:=by
   unfold bZ
   (try simp only[d,g,bi,reduceIte])
   all_goals first | rfl | (simp_all;done)
 rw[hs]
 exact⟨_,rfl,(b6.nil ..),a⟩
 have aN:=au g
 refine al 1<|aD b 0<|ai 2<|cb ((M.code==7)) (fun i=>?_) (fun i=>?_)
 have aP:=ag i
 refine al 1<|aD b 4<|Pl 1<|L0<|cY (m:=1) (e:=5) #[vB (M.value%256)] fun aQ cn aS aV aW=>?_
 have aX:=cG aS (xs:=[(M.value%256)]) (by as_aux_lemma=>kernel_rfl) (am (by omega) aR) (by(try simp only[List.length_cons,List.length_nil]);omega) aV
 refine ai 1<|rt<|br<|tr<|rr (.slice (some ⟨aQ,0,none⟩) 1 1)<|?_
 have hs:bZ dir M=[(M.value%256)]:=by
   unfold bZ
   (try simp only[d,g,i,bi,reduceIte])
   all_goals first | rfl | (simp_all;done)
 rw[hs]
 exact⟨_,rfl,(b6.weaken aX a.size),(aI a aW)⟩
 have aP:=au i
 refine al 1<|aD b 0<|ai 2<|cb ((M.code==11)) (fun k=>?_) (fun k=>?_)
 have aY:=ag k
 refine al 1<|aD b 9<|Pl 1<|aD b 10<|L0<|cY (m:=2) (e:=37) #[vW M.status,vW M.events] fun co cp b0 b1 a1=>?_
 have b2:=eB b0 (xs:=[M.status,M.events]) (by as_aux_lemma=>kernel_rfl) (am (by omega) (am (by omega) aR)) (by(try simp only[List.length_cons,List.length_nil]);omega) b1
 refine ay<|dV (cS (xs:=[M.status,M.events]) (b2).rd (by(try simp only[List.length_cons,List.length_nil]);omega)) fun b3 b4 cq b5 cr ct b7=>ai 1<|rt<|br<|tr<|rr (.slice b3 ((aO ([M.status,M.events])).length) b4)<|?_
 have hs:bZ dir M=(aO ([M.status,M.events])):=by
   unfold bZ
   (try simp only[d,g,i,k,bi,reduceIte])
   all_goals first | rfl | (simp_all;done)
 rw[hs]
 exact⟨_,rfl,(b6.weaken b5 (le a.size a1.size)),(aI a (aI a1 b7))⟩
 have aY:=au k
 refine al 1<|aD b 0<|ai 2<|cb ((M.code==12)) (fun l=>?_) (fun l=>?_)
 have b8:=ag l
 refine sq<|Rg 16 (fun w'=>w'.cell? ⟨n,14,none⟩=some (.slice Ad M.data.length kd)∧w'.cell? ⟨n,9,none⟩=some (vW M.status)∧w'.cell? ⟨n,10,none⟩=some (vW M.events)∧w'.cell? ⟨n,11,none⟩=some (vW M.messages)) fun cu c=>?_
 have o:=ub c b
 refine bo ⟨(ae o rfl),(ae o rfl),(ae o rfl),(ae o rfl)⟩ fun f=>Rt 0 f<|Rl 1 f (fun _ hs=>hs.1)<|Rt 2 f<|Rr 3 f (vI (6+(M.data.length:Int))) (fun _ _=>bX (vI (IntKind.i64.wrap (6+(M.data.length:Int)))) (by kernel_rfl) (congrArg (Value.int .i64) (IntWalk.i64_in _ (by omega))))<|Rt 4 f<|Rt 6 f<|Rl 7 f (fun _ hs=>hs.2.1)<|Rt 8 f<|Rl 9 f (fun _ hs=>hs.2.2.1)<|Rt 10 f<|Rl 11 f (fun _ hs=>hs.2.2.2)<|R2 5 12 rfl rfl ?_ ?_
 refine  cY (m:=1) (e:=5) #[vB ((6+(M.data.length:Int))%256)] fun ba cv bb bc R=>?_
 have S:=cG bb (xs:=[((6+(M.data.length:Int))%256)]) (by as_aux_lemma=>kernel_rfl) (am (by omega) aR) (by(try simp only[List.length_cons,List.length_nil]);omega) bc
 have s:=ub R o
 refine bo ⟨(ae s rfl),(ae s rfl),(ae s rfl),(ae s rfl)⟩ fun cw=>R0 12 rfl<|cY (m:=3) (e:=37) #[vW M.status,vW M.events,vW M.messages] fun cx cy bd be T=>?_
 have bf:=eB bd (xs:=[M.status,M.events,M.messages]) (by as_aux_lemma=>kernel_rfl) (am (by omega) (am (by omega) (am (by omega) aR))) (by(try simp only[List.length_cons,List.length_nil]);omega) be
 have t:=ub T s
 refine bo ⟨(ae t rfl),(ae t rfl),(ae t rfl),(ae t rfl)⟩ fun cz=>R0 13 rfl<|Oc<|dV (cS (xs:=[M.status,M.events,M.messages]) (bf).rd (by(try simp only[List.length_cons,List.length_nil]);omega)) fun cA cB cC bg cD cE U=>?_
 have u:=ub U t
 refine bo ⟨(ae u rfl),(ae u rfl),(ae u rfl),(ae u rfl)⟩ fun cF=>?_
 have a2:=aI T U
 refine R0 14 rfl<|bQ b9 (xs:=([((6+(M.data.length:Int))%256)])) (ys:=(aO ([M.status,M.events,M.messages]))) (vB 0) 1 (av S a2 (fun x hx=>aF) (fun _ _ h=>h)) (bg).rd (by(try simp only[bT,aC]);omega) (le (le R.size T.size) U.size) fun cH cI cJ a3 a4=>?_
 have v:=aH.blk a4 (bA (aL (aq b) c.size S) aF) u
 refine bo ⟨(ae v rfl),(ae v rfl),(ae v rfl),(ae v rfl)⟩ fun bh=>Rt 15 bh<|re<|tn<|al 2<|aD v 14<|?_
 have a5:=ut R (ut (aH.mono (S':=(ob (some ⟨ba,0,none⟩)++[])) a2 aA) a4 (ap il aA)) (ap (aT S lr) aA)
 have a6:=aI a (aI c a5)
 refine L0<|bQ b9 (xs:=([((6+(M.data.length:Int))%256)]++(aO ([M.status,M.events,M.messages])))) (ys:=M.data) (vB 0) 1 a3 (aZ.old hd a6) (by(try simp only[bT,aC]);omega) a5.size fun bj bl cK bm bp=>ai 1<|rt<|br<|tr<|rr (.slice bj ((([((6+(M.data.length:Int))%256)]++(aO ([M.status,M.events,M.messages])))++M.data).length) bl)<|?_
 have hs:bZ dir M=(([((6+(M.data.length:Int))%256)]++(aO ([M.status,M.events,M.messages])))++M.data):=by
   unfold bZ
   (try simp only[d,g,i,k,l,bi,reduceIte])
   all_goals first | rfl | (simp_all;done)
 rw[hs]
 exact⟨_,rfl,(b6.weaken bm (le a.size c.size)),(ut a6 bp (ap (aT a3 (le a.size c.size)) aA))⟩
 refine  cY (m:=3) (e:=37) #[vW M.status,vW M.events,vW M.messages] fun cL cM bq bs j=>?_
 have a7:=eB bq (xs:=[M.status,M.events,M.messages]) (by as_aux_lemma=>kernel_rfl) (am (by omega) (am (by omega) (am (by omega) aR))) (by(try simp only[List.length_cons,List.length_nil]);omega) bs
 have p:=ub j o
 refine bo ⟨(ae p rfl),(ae p rfl),(ae p rfl),(ae p rfl)⟩ fun cN=>?_
 refine R2 5 13 rfl rfl ?_ ?_
 refine  cY (m:=1) (e:=5) #[vB ((6+(M.data.length:Int))%256)] fun bt cO bu bv H=>?_
 have V:=cG bu (xs:=[((6+(M.data.length:Int))%256)]) (by as_aux_lemma=>kernel_rfl) (am (by omega) aR) (by(try simp only[List.length_cons,List.length_nil]);omega) bv
 have y:=ub H p
 refine bo ⟨(ae y rfl),(ae y rfl),(ae y rfl),(ae y rfl)⟩ fun cP=>?_
 refine R0 13 rfl<|Oc<|dV (cS (xs:=[M.status,M.events,M.messages]) ((av a7 H (fun x hx=>aF) (fun _ _ h=>h))).rd (by(try simp only[List.length_cons,List.length_nil]);omega)) fun cQ cR cT bw cU cV I=>?_
 have z:=ub I y
 refine bo ⟨(ae z rfl),(ae z rfl),(ae z rfl),(ae z rfl)⟩ fun cW=>?_
 refine R0 14 rfl<|bQ b9 (xs:=([((6+(M.data.length:Int))%256)])) (ys:=(aO ([M.status,M.events,M.messages]))) (vB 0) 1 (av V I (fun x hx=>aF) (fun _ _ h=>h)) (bw).rd (by(try simp only[bT,aC]);omega) (le H.size I.size) fun cX cZ d0 a8 a9=>?_
 have A:=aH.blk a9 (bA (aL (aq b) (le c.size j.size) V) aF) z
 refine bo ⟨(ae A rfl),(ae A rfl),(ae A rfl),(ae A rfl)⟩ fun bx=>Rt 15 bx<|re<|tn<|al 2<|aD A 14<|?_
 have aa:=ut H (ut (aH.mono (S':=(ob (some ⟨bt,0,none⟩)++[])) I aA) a9 (ap il aA)) (ap (aT V lr) aA)
 have ab:=aI a (aI c (aI j aa))
 refine L0<|bQ b9 (xs:=([((6+(M.data.length:Int))%256)]++(aO ([M.status,M.events,M.messages])))) (ys:=M.data) (vB 0) 1 a8 (aZ.old hd ab) (by(try simp only[bT,aC]);omega) aa.size fun bz bC d1 bD bE=>ai 1<|rt<|br<|tr<|rr (.slice bz ((([((6+(M.data.length:Int))%256)]++(aO ([M.status,M.events,M.messages])))++M.data).length) bC)<|?_
 have hs:bZ dir M=(([((6+(M.data.length:Int))%256)]++(aO ([M.status,M.events,M.messages])))++M.data):=by
   unfold bZ
   (try simp only[d,g,i,k,l,bi,reduceIte])
   all_goals first | rfl | (simp_all;done)
 rw[hs]
 exact⟨_,rfl,(b6.weaken bD (le (le a.size c.size) j.size)),(ut ab bE (ap (aT a8 (le (le a.size c.size) j.size)) aA))⟩
 refine  Oc<|dV (cS (xs:=[M.status,M.events,M.messages]) (a7).rd (by(try simp only[List.length_cons,List.length_nil]);omega)) fun d2 d3 d4 bF d5 d7 B=>?_
 have C:=ub B p
 refine bo ⟨(ae C rfl),(ae C rfl),(ae C rfl),(ae C rfl)⟩ fun d8=>R0 5 rfl<|cY (m:=1) (e:=5) #[vB ((6+(M.data.length:Int))%256)] fun d9 da bG bH J=>?_
 have W:=cG bG (xs:=[((6+(M.data.length:Int))%256)]) (by as_aux_lemma=>kernel_rfl) (am (by omega) aR) (by(try simp only[List.length_cons,List.length_nil]);omega) bH
 have D:=ub J C
 refine bo ⟨(ae D rfl),(ae D rfl),(ae D rfl),(ae D rfl)⟩ fun db=>?_
 refine R0 14 rfl<|bQ b9 (xs:=([((6+(M.data.length:Int))%256)])) (ys:=(aO ([M.status,M.events,M.messages]))) (vB 0) 1 W ((av bF J (fun x hx=>aF) (fun _ _ h=>h))).rd (by(try simp only[bT,aC]);omega) J.size fun dc dd de ac ad=>?_
 have E:=aH.blk ad (bA (aL (aq b) (le (le c.size j.size) B.size) W) aF) D
 refine bo ⟨(ae E rfl),(ae E rfl),(ae E rfl),(ae E rfl)⟩ fun bI=>Rt 15 bI<|re<|tn<|al 2<|aD E 14<|?_
 have af:=ut J ad (ap (aT W lr) aA)
 have ah:=aI a (aI c (aI j (aI B af)))
 refine L0<|bQ b9 (xs:=([((6+(M.data.length:Int))%256)]++(aO ([M.status,M.events,M.messages])))) (ys:=M.data) (vB 0) 1 ac (aZ.old hd ah) (by(try simp only[bT,aC]);omega) af.size fun bJ bK df bL bM=>ai 1<|rt<|br<|tr<|rr (.slice bJ ((([((6+(M.data.length:Int))%256)]++(aO ([M.status,M.events,M.messages])))++M.data).length) bK)<|?_
 have hs:bZ dir M=(([((6+(M.data.length:Int))%256)]++(aO ([M.status,M.events,M.messages])))++M.data):=by
   unfold bZ
   (try simp only[d,g,i,k,l,bi,reduceIte])
   all_goals first | rfl | (simp_all;done)
 rw[hs]
 exact⟨_,rfl,(b6.weaken bL (le (le (le a.size c.size) j.size) B.size)),(ut ah bM (ap (aT ac (le (le (le a.size c.size) j.size) B.size)) aA))⟩
 have b8:=au l
 refine sk<|bn<|tn<|al 1<|aD b 14<|Pl 2<|L0<|cY (m:=1) (e:=5) #[vB ((M.data.length:Int)%256)] fun dg dh bN bO X=>?_
 have aj:=cG bN (xs:=[((M.data.length:Int)%256)]) (by as_aux_lemma=>kernel_rfl) (am (by omega) aR) (by(try simp only[List.length_cons,List.length_nil]);omega) bO
 refine Pl 1<|?_
 refine aD (ub X b) 14<|?_
 have ak:=aI a X
 refine L0<|bQ b9 (xs:=([((M.data.length:Int)%256)])) (ys:=M.data) (vB 0) 1 aj (aZ.old hd ak) (by(try simp only[bT,aC]);omega) X.size fun bP bR di bS bU=>ai 1<|rt<|rr (.slice bP (([((M.data.length:Int)%256)]++M.data).length) bR)<|?_
 have hs:bZ dir M=([((M.data.length:Int)%256)]++M.data):=by
   unfold bZ
   (try simp only[d,g,i,k,l,bi,reduceIte])
   all_goals first | rfl | (simp_all;done)
 rw[hs]
 exact⟨_,rfl,(b6.weaken bS a.size),(ut ak bU (ap (aT aj a.size) aA))⟩
open Go.RowKit
theorem ez{α:Type}(d:α)(xs:List α)(k:Nat)(h:k<xs.length) : xs.getD k d∈xs:=by
  simp[List.getD_eq_getElem?_getD,List.getElem?_eq_getElem h]
def fD:List Obj→List Int
  | []=>[]
  | o :: r=>([o.id,(o.value.length:Int)%256]++o.value)++fD r
theorem ow(xs:List Obj)(k:Nat)(h:k<xs.length) : fD (xs.drop k)=([(xs.getD k ⟨0,[]⟩).id,((xs.getD k ⟨0,[]⟩).value.length:Int)%256]++(xs.getD k ⟨0,[]⟩).value)++fD (xs.drop (k+1)):=by
  rw[List.drop_eq_getElem_cons h]
  simp[fD,List.getD_eq_getElem?_getD,List.getElem?_eq_getElem h]
def dI (dir:Int)(M:aU) : List Int :=
  if M.mei==13 then [M.mei]++M.data
  else if dir==0 then [M.mei,M.kind,M.next]
  else [M.mei,M.kind,M.level,M.more,M.next,(M.objects.length:Int)%256]++fD M.objects
theorem zI{m:Md}{cs:Array Value}{M:aU}{w:World}{dir:Int}(h:aJ m w cs.toList M)(hf:bB M) : Calls Tryz.prog 162 #[vI dir,.agg cs] w (jK (dI dir M) w):=by
 refine fo h fun Aw kw Ab kb Ad kd Ar kr Ao ko e hw hbt hd hr ho _ _ _ _ _ _ _ _ _ _ q0 q1 q2 q3 q4 q5 q6 q7 q8 q9 aM aN aO aP aQ aS aV=>?_
 subst e
 have hf1:=hf.words
 have hf2:=hf.bits
 have hf3:=hf.data
 have hf4:=hf.recs
 have hf5:=hf.objects
 refine en 64 Tryz.func162 rfl<|sg<|L0<|d6 (mG M.code M.fail M.addr M.count M.value M.and_ M.or_ M.addr2 M.sub M.status M.events M.messages (.slice Aw M.words.length kw) (.slice Ab M.bits.length kb) (.slice Ad M.data.length kd) (.slice Ar M.recs.length kr) M.mei M.kind M.level M.more M.next (.slice Ao M.objects.length ko)) fun aW s aX a c=>ai 1<|sq<|bk<|al 1<|aD a 16<|Pl 2<|nl<|tn<|cb ((M.mei==13)) (fun d=>?_) (fun d=>?_)
 have P:=ag d
 refine al 1<|aD a 16<|L0<|cY (m:=1) (e:=5) #[vB M.mei] fun aY b0 Q R t=>?_
 have F:=cG Q (xs:=[M.mei]) (by as_aux_lemma=>kernel_rfl) (am (by omega) aR) (by(try simp only[List.length_cons,List.length_nil]);omega) R
 refine Pl 1<|?_
 refine aD (ub t a) 14<|?_
 have G:=aI c t
 refine L0<|bQ b9 (xs:=([M.mei])) (ys:=M.data) (vB 0) 1 F (aZ.old hd G) (by(try simp only[bT,aC]);omega) t.size fun S T b1 U V=>ai 1<|rt<|br<|tr<|rr (.slice S (([M.mei]++M.data).length) T)<|?_
 have hs:dI dir M=([M.mei]++M.data):=by
   unfold dI
   (try simp only[d,bi,reduceIte])
   all_goals first | rfl | (simp_all;done)
 rw[hs]
 exact⟨_,rfl,(b6.weaken U c.size),(ut G V (ap (aT F c.size) aA))⟩
 have P:=au d
 refine aE 3<|cb ((dir==0)) (fun f=>?_) (fun f=>?_)
 have W:=ag f
 refine al 1<|aD a 16<|Pl 1<|aD a 17<|Pl 1<|aD a 20<|L0<|cY (m:=3) (e:=5) #[vB M.mei,vB M.kind,vB M.next] fun X b2 Y Z a0=>?_
 have a1:=cG Y (xs:=[M.mei,M.kind,M.next]) (by as_aux_lemma=>kernel_rfl) (am (by omega) (am (by omega) (am (by omega) aR))) (by(try simp only[List.length_cons,List.length_nil]);omega) Z
 refine ai 1<|rt<|br<|tr<|rr (.slice (some ⟨X,0,none⟩) 3 3)<|?_
 have hs:dI dir M=[M.mei,M.kind,M.next]:=by
   unfold dI
   (try simp only[d,f,bi,reduceIte])
   all_goals first | rfl | (simp_all;done)
 rw[hs]
 exact⟨_,rfl,(b6.weaken a1 c.size),(aI c a0)⟩
 have W:=au f
 refine sk<|bn<|tn<|al 1<|aD a 16<|Pl 1<|aD a 17<|Pl 1<|aD a 18<|Pl 1<|aD a 19<|Pl 1<|aD a 20<|Pl 1<|aD a 21<|Pl 2<|L0<|cY (m:=6) (e:=5) #[vB M.mei,vB M.kind,vB M.level,vB M.more,vB M.next,vB ((M.objects.length:Int)%256)] fun a2 a3 a4 a5 l=>?_
 have a6:=cG a4 (xs:=[M.mei,M.kind,M.level,M.more,M.next,((M.objects.length:Int)%256)]) (by as_aux_lemma=>kernel_rfl) (am (by omega) (am (by omega) (am (by omega) (am (by omega) (am (by omega) (am (by omega) aR)))))) (by(try simp only[List.length_cons,List.length_nil]);omega) a5
 refine ai 1<|sq<|al 1<|?_
 refine aD (ub l a) 21<|ai 2<|bk<|jf (fun x=>[(4,nS),(5,.slice x.2.2.1 x.2.1.length x.2.2.2),(44,.slice Ao M.objects.length ko),(45,vI (M.objects.length:Int)),(46,vI (x.1:Int))]) (fun(x:Nat × List Int × Option Addr × Nat) w'=>aH [] s w'∧a3.heap.size≤w'.heap.size∧eG s.heap.size w' (.slice x.2.2.1 x.2.1.length x.2.2.2) x.2.1∧(x.1≤M.objects.length)∧(x.2.1++fD (M.objects.drop x.1)=([M.mei,M.kind,M.level,M.more,M.next,((M.objects.length:Int)%256)])++fD M.objects)∧(x.2.1.length≤16+x.1*1026)∧(6≤x.2.1.length)) (fun x=>M.objects.length-x.1) (0,[M.mei,M.kind,M.level,M.more,M.next,((M.objects.length:Int)%256)],some ⟨a2,0,none⟩,6) ⟨l,lr,a6,(by(try dsimp only);omega),rfl,(by(try dsimp only);(try simp only[List.length_cons,List.length_nil]);omega),(by(try dsimp only);(try simp only[List.length_cons,List.length_nil]);omega)⟩ ?_
 rintro⟨k,L,A,cp⟩ a7 ⟨H,u,a8,a9,aa,ab,ac⟩
 refine je [(4,nS),(5,.slice A L.length cp),(44,.slice Ao M.objects.length ko),(45,vI (M.objects.length:Int)),(46,vI (k:Int))] ?_
 have g:eG s.heap.size a7 (.slice A L.length cp) L:=a8
 have b3:k≤M.objects.length:=a9
 have b4:L++fD (M.objects.drop k)=([M.mei,M.kind,M.level,M.more,M.next,((M.objects.length:Int)%256)])++fD M.objects:=aa
 have b5:L.length≤16+k*1026:=ab
 have b7:6≤L.length:=ac
 have hL:L++fD (M.objects.drop k)=([M.mei,M.kind,M.level,M.more,M.next,((M.objects.length:Int)%256)])++fD M.objects:=by assumption
 have hv0:=fun(h:k<M.objects.length)=>hf.objv _ (ez ⟨0,[]⟩ M.objects k h)
 refine aE 1<|sq<|?_
 have v:=aI c H
 refine cb ((decide ((k:Int)<(M.objects.length:Int)))) (fun n=>?_) (fun n=>?_)
 have ad:=of_decide_eq_true n
 refine bj<|sq<|bk<|sg<|lU (o0.elt ho k (by omega)) fun b8 ba bb bc bd y z af ah aj be ak=>L0<|rf 2 M.objects.length k af (by omega)<|?_
 refine L0<|CW [vB ((M.objects.getD k ⟨0,[]⟩).id),.slice y ((M.objects.getD k ⟨0,[]⟩).value.length) z] (ub v ah) ak<|aK #[vB 0,nS] fun I bf J an o=>aG an #[vB ((M.objects.getD k ⟨0,[]⟩).id),.slice y ((M.objects.getD k ⟨0,[]⟩).value.length) z] fun bg ao p=>nt<|Rg 13 (fun w'=>w'.cell? ⟨I,0,none⟩=some (vB ((M.objects.getD k ⟨0,[]⟩).id))∧w'.cell? ⟨I,1,none⟩=some (.slice y ((M.objects.getD k ⟨0,[]⟩).value.length) z)) fun bh i=>?_
 have B:=ub i ao
 refine bo ⟨(ae B rfl),(ae B rfl)⟩ fun b=>Rt 0 b<|Rt 1 b<|Rl 2 b (fun _ hs=>hs.1)<|Rt 3 b<|Rl 4 b (fun _ hs=>hs.2)<|Rt 5 b<|Rt 6 b<|Rt 9 b<|Rl 10 b (fun _ hs=>hs.2)<|R0 7 rfl<|cY (m:=2) (e:=5) #[vB ((M.objects.getD k ⟨0,[]⟩).id),vB ((((M.objects.getD k ⟨0,[]⟩).value.length:Nat) : Int)%256)] fun bl bm aq ar j=>?_
 have aw:=cG aq (xs:=[(M.objects.getD k ⟨0,[]⟩).id,((((M.objects.getD k ⟨0,[]⟩).value.length:Nat) : Int)%256)]) (by as_aux_lemma=>kernel_rfl) (am (by omega) (am (by omega) aR)) (by(try simp only[List.length_cons,List.length_nil]);omega) ar
 have C:=ub j B
 refine bo ⟨(ae C rfl),(ae C rfl)⟩ fun bp=>?_
 have K:=ud o (aI p (aI i j)) J
 refine R0 8 rfl<|bQ b9 (xs:=L) (ys:=([(M.objects.getD k ⟨0,[]⟩).id,((((M.objects.getD k ⟨0,[]⟩).value.length:Nat) : Int)%256)])) (vB 0) 1 (av g K (fun x hx=>aF) (fun _ _ h=>h)) (aw).rd (by(try simp only[bT,aC]);omega) (le (le (le (le (le l.size u) o.size) p.size) i.size) j.size) fun ax bs bt D q=>?_
 have r:=aH.blk q (bA (fE g lr J) aF) C
 refine bo ⟨(ae r rfl),(ae r rfl)⟩ fun bu=>?_
 have N:=ut (aH.mono (S':=(ob A++[])) K aA) q (ap il aA)
 refine R0 11 rfl<|bQ b9 (xs:=(L++[(M.objects.getD k ⟨0,[]⟩).id,((((M.objects.getD k ⟨0,[]⟩).value.length:Nat) : Int)%256)])) (ys:=((M.objects.getD k ⟨0,[]⟩).value)) (vB 0) 1 D (aZ.old aj (ut v N (ap (aT g c.size) aA))) (by(try simp only[bT,aC]);omega) (le (le (le (le (le (le l.size u) o.size) p.size) i.size) j.size) q.size) fun ay az bv aB E=>?_
 have O:=aH.blk E (bA (dG r D (by decide)) aF) r
 refine bo ⟨(ae O rfl),(ae O rfl)⟩ fun aL=>Rt 12 aL<|re<|bn<|tn<|go<|bq ((k:Int)+1)<|Pl 1<|nl<|?_
 exact gI ((k+1),((L++[(M.objects.getD k ⟨0,[]⟩).id,((((M.objects.getD k ⟨0,[]⟩).value.length:Nat) : Int)%256)])++(M.objects.getD k ⟨0,[]⟩).value),ay,az) ⟨(ut H (ut (aH.mono (S':=(ob A++(ob ax++[]))) N (ap il aA)) E (ap il aA)) (ap (aT g lr) (ap (aT D lr) aA))),(le (le (le (le (le (le u o.size) p.size) i.size) j.size) q.size) E.size),aB,(by(try dsimp only);omega),(by(try dsimp only);rw[← hL,ow  M.objects k (by omega)];simp only[List.append_assoc]),(by(try dsimp only);have hv:=hf.objv _ (ez ⟨0,[]⟩ M.objects k (by omega));(try simp only[bT,aC]);omega),(by(try dsimp only);(try simp only[bT]);omega)⟩ (by omega)
 have ad:=of_decide_eq_false n
 refine xt<|tx<|tx<|bx<|tn<|aE 2<|rt<|rr (.slice A L.length cp)<|?_
 have hk:k=M.objects.length:=by omega
 rw[hk,List.drop_length] at hL
 have hL2:L=([M.mei,M.kind,M.level,M.more,M.next,((M.objects.length:Int)%256)])++fD M.objects:=by rw[← hL];simp[fD]
 have hs:dI dir M=L:=by
   rw[hL2]
   unfold dI
   (try simp only[d,f,n,bi,reduceIte])
   all_goals rfl
 rw[hs]
 exact⟨_,rfl,(b6.weaken g c.size),v⟩
open Go.RowKit
def kz (dir code:Int)(r:dx) : List Int:=(if code==20&&dir==1 then [(1+2*(r.words.length:Int))%256,6] else [6]++aO [r.file,r.record,r.count])++aO r.words
def dk (dir code:Int) : List dx→List Int
  | []=>[]
  | r :: rs=>kz dir code r++dk dir code rs
theorem gM(dir code:Int)(xs:List dx)(k:Nat)(h:k<xs.length) : dk dir code (xs.drop k)=kz dir code (xs.getD k ⟨0,0,0,[]⟩)++dk dir code (xs.drop (k+1)):=by
  rw[List.drop_eq_getElem_cons h]
  simp[dk,List.getD_eq_getElem?_getD,List.getElem?_eq_getElem h]
def di (dir:Int)(M:aU) : List Int:=([0]++dk dir M.code M.recs).set 0 (((([0]++dk dir M.code M.recs).length:Int)-1)%256)
theorem uT{m:Md}{cs:Array Value}{M:aU}{w:World}{dir:Int}(h:aJ m w cs.toList M)(hf:bB M) : Calls Tryz.prog 159 #[vI dir,.agg cs] w (jK (di dir M) w):=by
 refine fo h fun Aw kw Ab kb Ad kd Ar kr Ao ko e hw hbt hd hr ho _ _ _ _ _ _ _ _ _ _ q0 q1 q2 q3 q4 q5 q6 q7 q8 q9 cy cz cA cB cC cD cE=>?_
 subst e
 have hf1:=hf.words
 have hf2:=hf.bits
 have hf3:=hf.data
 have hf4:=hf.recs
 have hf5:=hf.objects
 refine en 58 Tryz.func159 rfl<|sg<|L0<|d6 (mG M.code M.fail M.addr M.count M.value M.and_ M.or_ M.addr2 M.sub M.status M.events M.messages (.slice Aw M.words.length kw) (.slice Ab M.bits.length kb) (.slice Ad M.data.length kd) (.slice Ar M.recs.length kr) M.mei M.kind M.level M.more M.next (.slice Ao M.objects.length ko)) fun ar ac cF aw l=>Pl 1<|ng<|L0<|cY (m:=1) (e:=5) #[vB 0] fun bs bt bu bv g=>?_
 have bw:=cG bu (xs:=[0]) (by as_aux_lemma=>kernel_rfl) (am (by omega) aR) (by(try simp only[List.length_cons,List.length_nil]);omega) bv
 refine ai 1<|sq<|al 1<|?_
 refine aD (ub g aw) 15<|ai 2<|bk<|jf (fun x=>[(0,vI dir),(3,vP ar 0),(4,nS),(5,.slice x.2.2.1 x.2.1.length x.2.2.2),(10,.slice Ar M.recs.length kr),(11,vI (M.recs.length:Int)),(12,vI (x.1:Int))]) (fun(x:Nat × List Int × Option Addr × Nat) w'=>aH [] ac w'∧bt.heap.size≤w'.heap.size∧eG ac.heap.size w' (.slice x.2.2.1 x.2.1.length x.2.2.2) x.2.1∧(x.1≤M.recs.length)∧(x.2.1++dk dir M.code (M.recs.drop x.1)=([0])++dk dir M.code M.recs)∧(x.2.1.length≤16+x.1*2060)∧(1≤x.2.1.length)) (fun x=>M.recs.length-x.1) (0,[0],some ⟨bs,0,none⟩,1) ⟨g,lr,bw,(by(try dsimp only);omega),rfl,(by(try dsimp only);(try simp only[List.length_cons,List.length_nil]);omega),(by(try dsimp only);(try simp only[List.length_cons,List.length_nil]);omega)⟩ ?_
 rintro⟨k,L,A,cp⟩ bz ⟨ax,f,bD,bE,bF,bG,bH⟩
 refine je [(0,vI dir),(3,vP ar 0),(4,nS),(5,.slice A L.length cp),(10,.slice Ar M.recs.length kr),(11,vI (M.recs.length:Int)),(12,vI (k:Int))] ?_
 have a:eG ac.heap.size bz (.slice A L.length cp) L:=bD
 have cH:k≤M.recs.length:=bE
 have cI:L++dk dir M.code (M.recs.drop k)=([0])++dk dir M.code M.recs:=bF
 have cJ:L.length≤16+k*2060:=bG
 have cK:1≤L.length:=bH
 have hL:L++dk dir M.code (M.recs.drop k)=([0])++dk dir M.code M.recs:=by assumption
 have hv0:=fun(h:k<M.recs.length)=>hf.recw _ (ez ⟨0,0,0,[]⟩ M.recs k h)
 refine aE 1<|sq<|?_
 have ad:=aI l ax
 refine cb ((decide ((k:Int)<(M.recs.length:Int)))) (fun n=>?_) (fun n=>?_)
 have bI:=of_decide_eq_true n
 refine bj<|sq<|bk<|sg<|lU (nc.elt hr k (by omega)) fun cL cM cN cO cP az aB bJ bK Q cQ bL=>L0<|rf 4 M.recs.length k bJ (by omega)<|?_
 refine L0<|CW [vW ((M.recs.getD k ⟨0,0,0,[]⟩).file),vW ((M.recs.getD k ⟨0,0,0,[]⟩).record),vW ((M.recs.getD k ⟨0,0,0,[]⟩).count),.slice az ((M.recs.getD k ⟨0,0,0,[]⟩).words.length) aB] (ub ad bK) bL<|aK #[vW 0,vW 0,vW 0,nS] fun af cR B bM b=>aG bM #[vW ((M.recs.getD k ⟨0,0,0,[]⟩).file),vW ((M.recs.getD k ⟨0,0,0,[]⟩).record),vW ((M.recs.getD k ⟨0,0,0,[]⟩).count),.slice az ((M.recs.getD k ⟨0,0,0,[]⟩).words.length) aB] fun cT ah c=>nt<|sq<|bk<|al 1<|?_
 have s:=ud b c B
 have C:=aI ax s
 refine aD (ub C aw) 0<|Pl 2<|cu 3 [32] 35 (((M.code==20)&&(dir==1))) (fun K aL=>?_) ?_
 refine bl 32 ((M.code==20)) (fun D=>?_) (fun D=>?_)
 have bN:=ag D
 exact Pl 3<|ce aL (dir==1) (by rw[D];rfl)
 have bN:=au D
 exact Pl 3<|ce aL false (by rw[D];rfl)
 refine ai 1<|?_
 have R:=aI ad s
 refine cb (((M.code==20)&&(dir==1))) (fun o=>?_) (fun o=>?_)
 have aM:=(bC o).1
 have aN:=(bC o).2
 have cU:=ag aM
 have cV:=ag aN
 refine go<|Pl 2<|aD ah 3<|Pl 1<|bq (2*(((M.recs.getD k ⟨0,0,0,[]⟩).words.length:Nat) : Int))<|bq (1+(2*(((M.recs.getD k ⟨0,0,0,[]⟩).words.length:Nat) : Int)))<|Pl 1<|L0<|cY (m:=2) (e:=5) #[vB ((1+(2*(((M.recs.getD k ⟨0,0,0,[]⟩).words.length:Nat) : Int)))%256),vB 6] fun cW cX bO bP E=>?_
 have bR:=cG bO (xs:=[((1+(2*(((M.recs.getD k ⟨0,0,0,[]⟩).words.length:Nat) : Int)))%256),6]) (by as_aux_lemma=>kernel_rfl) (am (by omega) (am (by omega) aR)) (by(try simp only[List.length_cons,List.length_nil]);omega) bP
 refine L0<|bQ b9 (xs:=L) (ys:=([((1+(2*(((M.recs.getD k ⟨0,0,0,[]⟩).words.length:Nat) : Int)))%256),6])) (vB 0) 1 (av a (aI s E) (fun x hx=>aF) (fun _ _ h=>h)) (bR).rd (by(try simp only[bT,aC]);omega) (le (le (le (le g.size f) b.size) c.size) E.size) fun aP cZ d0 aQ aj=>Pl 1<|nl<|bn<|tn<|go<|Pl 2<|?_
 have ak:=ut (aH.mono (S':=(ob A++[])) E aA) aj (ap il aA)
 refine aD (aH.blk ak (bA (fE a lr B) aF) ah) 3<|?_
 refine ay<|dV (cS (xs:=(M.recs.getD k ⟨0,0,0,[]⟩).words) (ey.old Q (ut R ak (ap (aT a l.size) aA))) (by(try simp only[List.length_cons,List.length_nil]);omega)) fun d1 d2 d3 bS d4 d5 S=>?_
 refine L0<|bQ b9 (xs:=(L++[((1+(2*(((M.recs.getD k ⟨0,0,0,[]⟩).words.length:Nat) : Int)))%256),6])) (ys:=(aO ((M.recs.getD k ⟨0,0,0,[]⟩).words))) (vB 0) 1 (av aQ S (fun x hx=>aF) (fun _ _ h=>h)) (bS).rd (by(try simp only[bT,aC]);omega) (le (le (le (le (le (le g.size f) b.size) c.size) E.size) aj.size) S.size) fun bU bV d7 bW aS=>Pl 1<|nl<|bn<|tn<|go<|bq ((k:Int)+1)<|Pl 1<|nl<|?_
 exact gI ((k+1),((L++[((1+(2*(((M.recs.getD k ⟨0,0,0,[]⟩).words.length:Nat) : Int)))%256),6])++(aO ((M.recs.getD k ⟨0,0,0,[]⟩).words))),bU,bV) ⟨(ut C (ut (aH.mono (S':=(ob A++(ob aP++[]))) ak (ap il aA)) (ut (aH.mono (S':=(ob aP++[])) S aA) aS (ap il aA)) (ap il aA)) (ap (aT a lr) (ap (aT aQ lr) aA))),(le (le (le (le (le (le f b.size) c.size) E.size) aj.size) S.size) aS.size),bW,(by(try dsimp only);omega),(by(try dsimp only);rw[← hL,gM dir M.code M.recs k (by omega)];simp only[kz,n,o,aM,aN,bi,List.append_assoc]),(by(try dsimp only);have hv:=hf.recw _ (ez ⟨0,0,0,[]⟩ M.recs k (by omega));(try simp only[bT,aC]);omega),(by(try dsimp only);(try simp only[bT]);omega)⟩ (by omega)
 refine Rg 13 (fun w'=>w'.cell? ⟨af,0,none⟩=some (vW ((M.recs.getD k ⟨0,0,0,[]⟩).file))∧w'.cell? ⟨af,1,none⟩=some (vW ((M.recs.getD k ⟨0,0,0,[]⟩).record))∧w'.cell? ⟨af,2,none⟩=some (vW ((M.recs.getD k ⟨0,0,0,[]⟩).count))) fun d8 d=>?_
 have F:=ub d ah
 refine bo ⟨(ae F rfl),(ae F rfl),(ae F rfl)⟩ fun p=>Rt 0 p<|Rt 3 p<|Rl 4 p (fun _ hs=>hs.1)<|Rt 5 p<|Rl 6 p (fun _ hs=>hs.2.1)<|Rt 7 p<|Rl 8 p (fun _ hs=>hs.2.2)<|R2 1 9 rfl rfl ?_ ?_
 refine  cY (m:=1) (e:=5) #[vB 6] fun d9 da bX bY i=>?_
 have aV:=cG bX (xs:=[6]) (by as_aux_lemma=>kernel_rfl) (am (by omega) aR) (by(try simp only[List.length_cons,List.length_nil]);omega) bY
 have G:=ub i F
 refine bo ⟨(ae G rfl),(ae G rfl),(ae G rfl)⟩ fun db=>?_
 refine R2 2 9 rfl rfl ?_ ?_
 have aW:=aI d i
 refine  bQ b9 (xs:=L) (ys:=([6])) (vB 0) 1 (av a (aI s aW) (fun x hx=>aF) (fun _ _ h=>h)) (aV).rd (by(try simp only[bT,aC]);omega) (le (le (le (le (le g.size f) b.size) c.size) d.size) i.size) fun T dc dd an H=>?_
 have U:=aH.blk H (bA (fE a lr B) aF) G
 refine bo ⟨(ae U rfl),(ae U rfl),(ae U rfl)⟩ fun de=>R0 9 rfl<|cY (m:=3) (e:=37) #[vW ((M.recs.getD k ⟨0,0,0,[]⟩).file),vW ((M.recs.getD k ⟨0,0,0,[]⟩).record),vW ((M.recs.getD k ⟨0,0,0,[]⟩).count)] fun df dg bZ c0 I=>?_
 have c1:=eB bZ (xs:=[(M.recs.getD k ⟨0,0,0,[]⟩).file,(M.recs.getD k ⟨0,0,0,[]⟩).record,(M.recs.getD k ⟨0,0,0,[]⟩).count]) (by as_aux_lemma=>kernel_rfl) (am (by omega) (am (by omega) (am (by omega) aR))) (by(try simp only[List.length_cons,List.length_nil]);omega) c0
 have V:=ub I U
 refine bo ⟨(ae V rfl),(ae V rfl),(ae V rfl)⟩ fun dh=>R0 10 rfl<|Oc<|dV (cS (xs:=[(M.recs.getD k ⟨0,0,0,[]⟩).file,(M.recs.getD k ⟨0,0,0,[]⟩).record,(M.recs.getD k ⟨0,0,0,[]⟩).count]) (c1).rd (by(try simp only[List.length_cons,List.length_nil]);omega)) fun dj dl dm c2 dn dp J=>?_
 have N:=ub J V
 refine bo ⟨(ae N rfl),(ae N rfl),(ae N rfl)⟩ fun dq=>?_
 have aX:=aI I J
 have aY:=av an aX (fun x hx=>aF) (fun _ _ h=>h)
 refine R0 11 rfl<|bQ b9 (xs:=(L++[6])) (ys:=(aO ([(M.recs.getD k ⟨0,0,0,[]⟩).file,(M.recs.getD k ⟨0,0,0,[]⟩).record,(M.recs.getD k ⟨0,0,0,[]⟩).count]))) (vB 0) 1 aY (c2).rd (by(try simp only[bT,aC]);omega) (le (le (le (le (le (le (le (le g.size f) b.size) c.size) d.size) i.size) H.size) I.size) J.size) fun b0 dr ds b1 W=>?_
 have X:=aH.blk W (bA (dG N aY (by decide)) aF) N
 refine bo ⟨(ae X rfl),(ae X rfl),(ae X rfl)⟩ fun c3=>Rt 12 c3<|re<|bn<|tn<|go<|Pl 2<|aD X 3<|?_
 have b2:=ut (aH.mono (S':=(ob A++(ob T++[]))) aW aA) (ut (aH.mono (S':=(ob A++(ob T++[]))) H (ap il aA)) (ut (aH.mono (S':=(ob T++[])) aX aA) W (ap il aA)) (ap il aA)) (ap il (ap il aA))
 refine ay<|dV (cS (xs:=(M.recs.getD k ⟨0,0,0,[]⟩).words) (ey.old Q (ut R b2 (ap (aT a l.size) (ap (aT an l.size) aA)))) (by(try simp only[List.length_cons,List.length_nil]);omega)) fun dt du dv c4 dw dx Y=>?_
 refine L0<|bQ b9 (xs:=((L++[6])++(aO ([(M.recs.getD k ⟨0,0,0,[]⟩).file,(M.recs.getD k ⟨0,0,0,[]⟩).record,(M.recs.getD k ⟨0,0,0,[]⟩).count])))) (ys:=(aO ((M.recs.getD k ⟨0,0,0,[]⟩).words))) (vB 0) 1 (av b1 Y (fun x hx=>aF) (fun _ _ h=>h)) (c4).rd (by(try simp only[bT,aC]);omega) (le (le (le (le (le (le (le (le (le (le g.size f) b.size) c.size) d.size) i.size) H.size) I.size) J.size) W.size) Y.size) fun c5 c6 dy c7 b3=>Pl 1<|nl<|bn<|tn<|go<|bq ((k:Int)+1)<|Pl 1<|nl<|?_
 exact gI ((k+1),(((L++[6])++(aO ([(M.recs.getD k ⟨0,0,0,[]⟩).file,(M.recs.getD k ⟨0,0,0,[]⟩).record,(M.recs.getD k ⟨0,0,0,[]⟩).count])))++(aO ((M.recs.getD k ⟨0,0,0,[]⟩).words))),c5,c6) ⟨(ut C (ut (aH.mono (S':=(ob A++(ob T++(ob b0++[])))) b2 (ap il (ap il aA))) (ut (aH.mono (S':=(ob b0++[])) Y aA) b3 (ap il aA)) (ap il aA)) (ap (aT a lr) (ap (aT an lr) (ap (aT b1 lr) aA)))),(le (le (le (le (le (le (le (le (le (le f b.size) c.size) d.size) i.size) H.size) I.size) J.size) W.size) Y.size) b3.size),c7,(by(try dsimp only);omega),(by(try dsimp only);rw[← hL,gM dir M.code M.recs k (by omega)];simp only[kz,n,o,bi,List.append_assoc]),(by(try dsimp only);have hv:=hf.recw _ (ez ⟨0,0,0,[]⟩ M.recs k (by omega));(try simp only[bT,aC]);omega),(by(try dsimp only);(try simp only[bT]);omega)⟩ (by omega)
 refine  cY (m:=3) (e:=37) #[vW ((M.recs.getD k ⟨0,0,0,[]⟩).file),vW ((M.recs.getD k ⟨0,0,0,[]⟩).record),vW ((M.recs.getD k ⟨0,0,0,[]⟩).count)] fun dz dA c8 c9 q=>?_
 have b4:=eB c8 (xs:=[(M.recs.getD k ⟨0,0,0,[]⟩).file,(M.recs.getD k ⟨0,0,0,[]⟩).record,(M.recs.getD k ⟨0,0,0,[]⟩).count]) (by as_aux_lemma=>kernel_rfl) (am (by omega) (am (by omega) (am (by omega) aR))) (by(try simp only[List.length_cons,List.length_nil]);omega) c9
 have Z:=ub q G
 refine bo ⟨(ae Z rfl),(ae Z rfl),(ae Z rfl)⟩ fun dB=>?_
 have b5:=aI d (aI i q)
 refine R0 2 rfl<|bQ b9 (xs:=L) (ys:=([6])) (vB 0) 1 (av a (aI s b5) (fun x hx=>aF) (fun _ _ h=>h)) ((av aV q (fun x hx=>aF) (fun _ _ h=>h))).rd (by(try simp only[bT,aC]);omega) (le (le (le (le (le (le g.size f) b.size) c.size) d.size) i.size) q.size) fun a0 dC dD ao t=>?_
 have a1:=aH.blk t (bA (fE a lr B) aF) Z
 refine bo ⟨(ae a1 rfl),(ae a1 rfl),(ae a1 rfl)⟩ fun dE=>?_
 refine R0 10 rfl<|Oc<|dV (cS (xs:=[(M.recs.getD k ⟨0,0,0,[]⟩).file,(M.recs.getD k ⟨0,0,0,[]⟩).record,(M.recs.getD k ⟨0,0,0,[]⟩).count]) ((av b4 t (fun x hx=>(bA ((jV b4 a (le (le (le b.size c.size) d.size) i.size)) x hx) aF)) (fun _ _ h=>h))).rd (by(try simp only[List.length_cons,List.length_nil]);omega)) fun dF dH dI ca dJ dK u=>?_
 have O:=ub u a1
 refine bo ⟨(ae O rfl),(ae O rfl),(ae O rfl)⟩ fun dL=>?_
 have b7:=av ao u (fun x hx=>aF) (fun _ _ h=>h)
 refine R0 11 rfl<|bQ b9 (xs:=(L++[6])) (ys:=(aO ([(M.recs.getD k ⟨0,0,0,[]⟩).file,(M.recs.getD k ⟨0,0,0,[]⟩).record,(M.recs.getD k ⟨0,0,0,[]⟩).count]))) (vB 0) 1 b7 (ca).rd (by(try simp only[bT,aC]);omega) (le (le (le (le (le (le (le (le g.size f) b.size) c.size) d.size) i.size) q.size) t.size) u.size) fun b8 dM dN ba a2=>?_
 have a3:=aH.blk a2 (bA (dG O b7 (by decide)) aF) O
 refine bo ⟨(ae a3 rfl),(ae a3 rfl),(ae a3 rfl)⟩ fun cc=>Rt 12 cc<|re<|bn<|tn<|go<|Pl 2<|aD a3 3<|?_
 have bb:=ut (aH.mono (S':=(ob A++(ob a0++[]))) b5 aA) (ut (aH.mono (S':=(ob A++(ob a0++[]))) t (ap il aA)) (ut (aH.mono (S':=(ob a0++[])) u aA) a2 (ap il aA)) (ap il aA)) (ap il (ap il aA))
 refine ay<|dV (cS (xs:=(M.recs.getD k ⟨0,0,0,[]⟩).words) (ey.old Q (ut R bb (ap (aT a l.size) (ap (aT ao l.size) aA)))) (by(try simp only[List.length_cons,List.length_nil]);omega)) fun dO dP dQ cd dR dS a4=>?_
 refine L0<|bQ b9 (xs:=((L++[6])++(aO ([(M.recs.getD k ⟨0,0,0,[]⟩).file,(M.recs.getD k ⟨0,0,0,[]⟩).record,(M.recs.getD k ⟨0,0,0,[]⟩).count])))) (ys:=(aO ((M.recs.getD k ⟨0,0,0,[]⟩).words))) (vB 0) 1 (av ba a4 (fun x hx=>aF) (fun _ _ h=>h)) (cd).rd (by(try simp only[bT,aC]);omega) (le (le (le (le (le (le (le (le (le (le g.size f) b.size) c.size) d.size) i.size) q.size) t.size) u.size) a2.size) a4.size) fun cf cg dT ch bc=>Pl 1<|nl<|bn<|tn<|go<|bq ((k:Int)+1)<|Pl 1<|nl<|?_
 exact gI ((k+1),(((L++[6])++(aO ([(M.recs.getD k ⟨0,0,0,[]⟩).file,(M.recs.getD k ⟨0,0,0,[]⟩).record,(M.recs.getD k ⟨0,0,0,[]⟩).count])))++(aO ((M.recs.getD k ⟨0,0,0,[]⟩).words))),cf,cg) ⟨(ut C (ut (aH.mono (S':=(ob A++(ob a0++(ob b8++[])))) bb (ap il (ap il aA))) (ut (aH.mono (S':=(ob b8++[])) a4 aA) bc (ap il aA)) (ap il aA)) (ap (aT a lr) (ap (aT ao lr) (ap (aT ba lr) aA)))),(le (le (le (le (le (le (le (le (le (le f b.size) c.size) d.size) i.size) q.size) t.size) u.size) a2.size) a4.size) bc.size),ch,(by(try dsimp only);omega),(by(try dsimp only);rw[← hL,gM dir M.code M.recs k (by omega)];simp only[kz,n,o,bi,List.append_assoc]),(by(try dsimp only);have hv:=hf.recw _ (ez ⟨0,0,0,[]⟩ M.recs k (by omega));(try simp only[bT,aC]);omega),(by(try dsimp only);(try simp only[bT]);omega)⟩ (by omega)
 refine  cY (m:=3) (e:=37) #[vW ((M.recs.getD k ⟨0,0,0,[]⟩).file),vW ((M.recs.getD k ⟨0,0,0,[]⟩).record),vW ((M.recs.getD k ⟨0,0,0,[]⟩).count)] fun dU dW ci cj v=>?_
 have bd:=eB ci (xs:=[(M.recs.getD k ⟨0,0,0,[]⟩).file,(M.recs.getD k ⟨0,0,0,[]⟩).record,(M.recs.getD k ⟨0,0,0,[]⟩).count]) (by as_aux_lemma=>kernel_rfl) (am (by omega) (am (by omega) (am (by omega) aR))) (by(try simp only[List.length_cons,List.length_nil]);omega) cj
 have a5:=ub v F
 refine bo ⟨(ae a5 rfl),(ae a5 rfl),(ae a5 rfl)⟩ fun dX=>R0 1 rfl<|cY (m:=1) (e:=5) #[vB 6] fun dY dZ ck cl r=>?_
 have cm:=cG ck (xs:=[6]) (by as_aux_lemma=>kernel_rfl) (am (by omega) aR) (by(try simp only[List.length_cons,List.length_nil]);omega) cl
 have a6:=ub r a5
 refine bo ⟨(ae a6 rfl),(ae a6 rfl),(ae a6 rfl)⟩ fun e0=>?_
 have be:=aI d (aI v r)
 refine R0 2 rfl<|bQ b9 (xs:=L) (ys:=([6])) (vB 0) 1 (av a (aI s be) (fun x hx=>aF) (fun _ _ h=>h)) (cm).rd (by(try simp only[bT,aC]);omega) (le (le (le (le (le (le g.size f) b.size) c.size) d.size) v.size) r.size) fun a7 e1 e2 aq y=>?_
 have a8:=aH.blk y (bA (fE a lr B) aF) a6
 refine bo ⟨(ae a8 rfl),(ae a8 rfl),(ae a8 rfl)⟩ fun e3=>?_
 refine R0 10 rfl<|Oc<|dV (cS (xs:=[(M.recs.getD k ⟨0,0,0,[]⟩).file,(M.recs.getD k ⟨0,0,0,[]⟩).record,(M.recs.getD k ⟨0,0,0,[]⟩).count]) ((av bd (ut (aH.mono (S':=(ob A++[])) r aA) y (ap il aA)) (fun x hx=>(bA ((jV bd a (le (le b.size c.size) d.size)) x hx) aF)) (fun _ _ h=>h))).rd (by(try simp only[List.length_cons,List.length_nil]);omega)) fun e4 e5 e6 cn e7 e8 z=>?_
 have P:=ub z a8
 refine bo ⟨(ae P rfl),(ae P rfl),(ae P rfl)⟩ fun e9=>?_
 have bf:=av aq z (fun x hx=>aF) (fun _ _ h=>h)
 refine R0 11 rfl<|bQ b9 (xs:=(L++[6])) (ys:=(aO ([(M.recs.getD k ⟨0,0,0,[]⟩).file,(M.recs.getD k ⟨0,0,0,[]⟩).record,(M.recs.getD k ⟨0,0,0,[]⟩).count]))) (vB 0) 1 bf (cn).rd (by(try simp only[bT,aC]);omega) (le (le (le (le (le (le (le (le g.size f) b.size) c.size) d.size) v.size) r.size) y.size) z.size) fun bg ea eb bh a9=>?_
 have aa:=aH.blk a9 (bA (dG P bf (by decide)) aF) P
 refine bo ⟨(ae aa rfl),(ae aa rfl),(ae aa rfl)⟩ fun co=>Rt 12 co<|re<|bn<|tn<|go<|Pl 2<|aD aa 3<|?_
 have bm:=ut (aH.mono (S':=(ob A++(ob a7++[]))) be aA) (ut (aH.mono (S':=(ob A++(ob a7++[]))) y (ap il aA)) (ut (aH.mono (S':=(ob a7++[])) z aA) a9 (ap il aA)) (ap il aA)) (ap il (ap il aA))
 refine ay<|dV (cS (xs:=(M.recs.getD k ⟨0,0,0,[]⟩).words) (ey.old Q (ut R bm (ap (aT a l.size) (ap (aT aq l.size) aA)))) (by(try simp only[List.length_cons,List.length_nil]);omega)) fun ec ed ee cq ef eg ab=>?_
 refine L0<|bQ b9 (xs:=((L++[6])++(aO ([(M.recs.getD k ⟨0,0,0,[]⟩).file,(M.recs.getD k ⟨0,0,0,[]⟩).record,(M.recs.getD k ⟨0,0,0,[]⟩).count])))) (ys:=(aO ((M.recs.getD k ⟨0,0,0,[]⟩).words))) (vB 0) 1 (av bh ab (fun x hx=>aF) (fun _ _ h=>h)) (cq).rd (by(try simp only[bT,aC]);omega) (le (le (le (le (le (le (le (le (le (le g.size f) b.size) c.size) d.size) v.size) r.size) y.size) z.size) a9.size) ab.size) fun cr ct eh cv bp=>Pl 1<|nl<|bn<|tn<|go<|bq ((k:Int)+1)<|Pl 1<|nl<|?_
 exact gI ((k+1),(((L++[6])++(aO ([(M.recs.getD k ⟨0,0,0,[]⟩).file,(M.recs.getD k ⟨0,0,0,[]⟩).record,(M.recs.getD k ⟨0,0,0,[]⟩).count])))++(aO ((M.recs.getD k ⟨0,0,0,[]⟩).words))),cr,ct) ⟨(ut C (ut (aH.mono (S':=(ob A++(ob a7++(ob bg++[])))) bm (ap il (ap il aA))) (ut (aH.mono (S':=(ob bg++[])) ab aA) bp (ap il aA)) (ap il aA)) (ap (aT a lr) (ap (aT aq lr) (ap (aT bh lr) aA)))),(le (le (le (le (le (le (le (le (le (le f b.size) c.size) d.size) v.size) r.size) y.size) z.size) a9.size) ab.size) bp.size),cv,(by(try dsimp only);omega),(by(try dsimp only);rw[← hL,gM dir M.code M.recs k (by omega)];simp only[kz,n,o,bi,List.append_assoc]),(by(try dsimp only);have hv:=hf.recw _ (ez ⟨0,0,0,[]⟩ M.recs k (by omega));(try simp only[bT,aC]);omega),(by(try dsimp only);(try simp only[bT]);omega)⟩ (by omega)
 have bI:=of_decide_eq_false n
 refine xt<|tx<|tx<|bx<|tn<|al 3<|bq ((L.length:Int)-1)<|Pl 1<|ft (aZ.at_ (a).rd 0 (by omega)) fun ei ej br ek el=>L0<|kY L.length 0 br (by omega)<|L0<|DN b9 (j:=0) a br (by omega) (((L.length:Int)-1)%256) (fun _=>⟨rfl,by omega⟩) fun em cw cx=>nl<|tn<|aE 2<|rt<|rr (.slice A L.length cp)<|?_
 have hk:k=M.recs.length:=by omega
 rw[hk,List.drop_length] at hL
 have hL2:[0]++dk dir M.code M.recs=L:=by rw[← hL];simp[dk]
 have hs:di dir M=(L.set 0 (((L.length:Int)-1)%256)):=by unfold di;rw[hL2]
 rw[hs]
 exact⟨_,rfl,(b6.weaken cw l.size),(ut ad cx (ap (aT a l.size) aA))⟩
open Go.RowKit
theorem ki{parse:Int→Int→List Int→aU × Int}{lay:Int→aU→List Int}{dir E:Int}{M X:aU}(hX:parse dir M.code (lay dir M)=(X,E))(hE:(E != 0)=true) : bv parse lay dir M=none:=by
  unfold bv
  rw[hX,if_neg]
  intro h
  injection h with h1 h2
  rw[h2] at hE
  cases hE
theorem kq{parse:Int→Int→List Int→aU × Int}{lay:Int→aU→List Int}{dir E:Int}{M X:aU}(hX:parse dir M.code (lay dir M)=(X,E))(hE:decide (X=M)=false) : bv parse lay dir M=none:=by
  unfold bv
  rw[hX,if_neg]
  intro h
  injection h with h1 h2
  rw[h1] at hE
  simp at hE
theorem jk{parse:Int→Int→List Int→aU × Int}{lay:Int→aU→List Int}{dir E:Int}{M X:aU}(hX:parse dir M.code (lay dir M)=(X,E))(hE:(E != 0)=false)(h:decide (X=M)=true) : bv parse lay dir M=some (lay dir M):=by
  unfold bv
  have h1:X=M:=by simpa using h
  have h2:E=0:=by simpa using hE
  rw[hX,h1,h2,if_pos rfl]
theorem cO{x y:Option (List Int)}(h:x=y){w:World}{e:Ending}{w':World}(k:dR y w e w') : dR x w e w':=by rw[h];exact k
theorem lg{m:Md}{cs:Array Value}{M:aU}{w:World}{dir:Int}(h:aJ m w cs.toList M)(hf:bB M)(hlen:(cD dir M).length≤1048576) : Calls Tryz.prog 97 #[vI dir,.agg cs] w (dR (bv gq cD dir M) w):=by
 have hM:=h
 refine fo h fun Aw kw Ab kb Ad kd Ar kr Ao ko e hw hbt hd hr ho _ _ _ _ _ _ _ _ _ _ q0 q1 q2 q3 q4 q5 q6 q7 q8 q9 P Q R S T U V=>?_
 subst e
 refine en 29 Tryz.func97 rfl<|sg<|L0<|d6 (mG M.code M.fail M.addr M.count M.value M.and_ M.or_ M.addr2 M.sub M.status M.events M.messages (.slice Aw M.words.length kw) (.slice Ab M.bits.length kb) (.slice Ad M.data.length kd) (.slice Ar M.recs.length kr) M.mei M.kind M.level M.more M.next (.slice Ao M.objects.length ko)) fun W X Y l i=>Pl 2<|aM 1<|L0<|bN l<|?_
 have n:=aJ.old hM i
 refine ay<|dV (vR (dir:=dir) n hf) fun z C D o Z a0 p=>Pl 1<|aM 2<|?_
 have q:=ub p l
 refine aD q 0<|Pl 1<|pr (gq dir M.code (cD dir M)) fun f E g=>?_
 have r:Calls _ _ _ _ (eL (gq dir M.code (cD dir M)) D):=lA (dir:=dir) (c:=M.code) q0 (o).rd hlen
 rw[g] at r
 refine ay<|e2 (r) fun F a1 a G=>Pl 3<|aK mZ fun a2 a3 H I J=>aG (hz:=(by rw[a.size];exact aQ)) (hv:=a.size) (h1:=a.one) I (F) fun a4 K L=>ai 1<|sq<|al 3<|?_
 have s:=ud J L H
 have j:=aI G s
 have t:=aI p j
 have u:=aI i t
 refine bl 22 ((E != 0)) (fun b=>?_) (fun b=>?_)
 have N:=aB b
 refine ai 5<|c1<|aE 2<|aX<|rr (.tuple #[nS,vI 1])<|cO (ki g b) ?_
 exact⟨rfl,u⟩
 have N:=az b
 refine L1<|bN (hz:=(by rw[a.size];exact aQ)) K<|?_
 refine L1<|bN (ub j q)<|?_
 refine L1<|Oc<|m1 (io (A:=f) (B:=M) (aJ.upd a s aN) (aJ.old n t)) fun a5 v=>ai 2<|?_
 have y:=aI u v
 refine cb ((!(decide (f=M)))) (fun k=>?_) (fun k=>?_)
 have d:(decide (f=M))=false:=by simpa using k
 have O:=of_decide_eq_false d
 refine aE 2<|aX<|rr (.tuple #[nS,vI 1])<|cO (kq g d) ?_
 exact⟨rfl,y⟩
 have d:(decide (f=M))=true:=by simpa using k
 have O:=of_decide_eq_true d
 refine bj<|aE 3<|rt<|rr (.tuple #[.slice z ((cD dir M).length) C,vI 0])<|?_
 refine cO (jk g b d) ?_
 exact⟨_,rfl,(b6.weaken (av o (aI j v) (fun x hx=>aF) (fun _ _ h=>h)) i.size),y⟩
theorem mF{m:Md}{cs:Array Value}{M:aU}{w:World}{dir:Int}(h:aJ m w cs.toList M)(hf:bB M)(hlen:(cm dir M).length≤1048576) : Calls Tryz.prog 99 #[vI dir,.agg cs] w (dR (bv ie cm dir M) w):=by
 have hM:=h
 refine fo h fun Aw kw Ab kb Ad kd Ar kr Ao ko e hw hbt hd hr ho _ _ _ _ _ _ _ _ _ _ q0 q1 q2 q3 q4 q5 q6 q7 q8 q9 P Q R S T U V=>?_
 subst e
 refine en 29 Tryz.func99 rfl<|sg<|L0<|d6 (mG M.code M.fail M.addr M.count M.value M.and_ M.or_ M.addr2 M.sub M.status M.events M.messages (.slice Aw M.words.length kw) (.slice Ab M.bits.length kb) (.slice Ad M.data.length kd) (.slice Ar M.recs.length kr) M.mei M.kind M.level M.more M.next (.slice Ao M.objects.length ko)) fun W X Y l i=>Pl 2<|aM 1<|L0<|bN l<|?_
 have n:=aJ.old hM i
 refine ay<|dV (xg (dir:=dir) n hf) fun z C D o Z a0 p=>Pl 1<|aM 2<|?_
 have q:=ub p l
 refine aD q 0<|Pl 1<|pr (ie dir M.code (cm dir M)) fun f E g=>?_
 have r:Calls _ _ _ _ (eL (ie dir M.code (cm dir M)) D):=md (dir:=dir) (c:=M.code) q0 (o).rd hlen
 rw[g] at r
 refine ay<|e2 (r) fun F a1 a G=>Pl 3<|aK mZ fun a2 a3 H I J=>aG (hz:=(by rw[a.size];exact aQ)) (hv:=a.size) (h1:=a.one) I (F) fun a4 K L=>ai 1<|sq<|al 3<|?_
 have s:=ud J L H
 have j:=aI G s
 have t:=aI p j
 have u:=aI i t
 refine bl 22 ((E != 0)) (fun b=>?_) (fun b=>?_)
 have N:=aB b
 refine ai 5<|c1<|aE 2<|aX<|rr (.tuple #[nS,vI 1])<|cO (ki g b) ?_
 exact⟨rfl,u⟩
 have N:=az b
 refine L1<|bN (hz:=(by rw[a.size];exact aQ)) K<|?_
 refine L1<|bN (ub j q)<|?_
 refine L1<|Oc<|m1 (io (A:=f) (B:=M) (aJ.upd a s aN) (aJ.old n t)) fun a5 v=>ai 2<|?_
 have y:=aI u v
 refine cb ((!(decide (f=M)))) (fun k=>?_) (fun k=>?_)
 have d:(decide (f=M))=false:=by simpa using k
 have O:=of_decide_eq_false d
 refine aE 2<|aX<|rr (.tuple #[nS,vI 1])<|cO (kq g d) ?_
 exact⟨rfl,y⟩
 have d:(decide (f=M))=true:=by simpa using k
 have O:=of_decide_eq_true d
 refine bj<|aE 3<|rt<|rr (.tuple #[.slice z ((cm dir M).length) C,vI 0])<|?_
 refine cO (jk g b d) ?_
 exact⟨_,rfl,(b6.weaken (av o (aI j v) (fun x hx=>aF) (fun _ _ h=>h)) i.size),y⟩
theorem nq{m:Md}{cs:Array Value}{M:aU}{w:World}{dir:Int}(h:aJ m w cs.toList M)(hf:bB M)(hlen:(bZ dir M).length≤1048576) : Calls Tryz.prog 101 #[vI dir,.agg cs] w (dR (bv it bZ dir M) w):=by
 have hM:=h
 refine fo h fun Aw kw Ab kb Ad kd Ar kr Ao ko e hw hbt hd hr ho _ _ _ _ _ _ _ _ _ _ q0 q1 q2 q3 q4 q5 q6 q7 q8 q9 P Q R S T U V=>?_
 subst e
 refine en 29 Tryz.func101 rfl<|sg<|L0<|d6 (mG M.code M.fail M.addr M.count M.value M.and_ M.or_ M.addr2 M.sub M.status M.events M.messages (.slice Aw M.words.length kw) (.slice Ab M.bits.length kb) (.slice Ad M.data.length kd) (.slice Ar M.recs.length kr) M.mei M.kind M.level M.more M.next (.slice Ao M.objects.length ko)) fun W X Y l i=>Pl 2<|aM 1<|L0<|bN l<|?_
 have n:=aJ.old hM i
 refine ay<|dV (yD (dir:=dir) n hf) fun z C D o Z a0 p=>Pl 1<|aM 2<|?_
 have q:=ub p l
 refine aD q 0<|Pl 1<|pr (it dir M.code (bZ dir M)) fun f E g=>?_
 have r:Calls _ _ _ _ (eL (it dir M.code (bZ dir M)) D):=mX (dir:=dir) (c:=M.code) q0 (o).rd hlen
 rw[g] at r
 refine ay<|e2 (r) fun F a1 a G=>Pl 3<|aK mZ fun a2 a3 H I J=>aG (hz:=(by rw[a.size];exact aQ)) (hv:=a.size) (h1:=a.one) I (F) fun a4 K L=>ai 1<|sq<|al 3<|?_
 have s:=ud J L H
 have j:=aI G s
 have t:=aI p j
 have u:=aI i t
 refine bl 22 ((E != 0)) (fun b=>?_) (fun b=>?_)
 have N:=aB b
 refine ai 5<|c1<|aE 2<|aX<|rr (.tuple #[nS,vI 1])<|cO (ki g b) ?_
 exact⟨rfl,u⟩
 have N:=az b
 refine L1<|bN (hz:=(by rw[a.size];exact aQ)) K<|?_
 refine L1<|bN (ub j q)<|?_
 refine L1<|Oc<|m1 (io (A:=f) (B:=M) (aJ.upd a s aN) (aJ.old n t)) fun a5 v=>ai 2<|?_
 have y:=aI u v
 refine cb ((!(decide (f=M)))) (fun k=>?_) (fun k=>?_)
 have d:(decide (f=M))=false:=by simpa using k
 have O:=of_decide_eq_false d
 refine aE 2<|aX<|rr (.tuple #[nS,vI 1])<|cO (kq g d) ?_
 exact⟨rfl,y⟩
 have d:(decide (f=M))=true:=by simpa using k
 have O:=of_decide_eq_true d
 refine bj<|aE 3<|rt<|rr (.tuple #[.slice z ((bZ dir M).length) C,vI 0])<|?_
 refine cO (jk g b d) ?_
 exact⟨_,rfl,(b6.weaken (av o (aI j v) (fun x hx=>aF) (fun _ _ h=>h)) i.size),y⟩
theorem oX{m:Md}{cs:Array Value}{M:aU}{w:World}{dir:Int}(h:aJ m w cs.toList M)(hf:bB M)(hlen:(dI dir M).length≤1048576) : Calls Tryz.prog 105 #[vI dir,.agg cs] w (dR (bv jj dI dir M) w):=by
 have hM:=h
 refine fo h fun Aw kw Ab kb Ad kd Ar kr Ao ko e hw hbt hd hr ho _ _ _ _ _ _ _ _ _ _ q0 q1 q2 q3 q4 q5 q6 q7 q8 q9 P Q R S T U V=>?_
 subst e
 refine en 29 Tryz.func105 rfl<|sg<|L0<|d6 (mG M.code M.fail M.addr M.count M.value M.and_ M.or_ M.addr2 M.sub M.status M.events M.messages (.slice Aw M.words.length kw) (.slice Ab M.bits.length kb) (.slice Ad M.data.length kd) (.slice Ar M.recs.length kr) M.mei M.kind M.level M.more M.next (.slice Ao M.objects.length ko)) fun W X Y l i=>Pl 2<|aM 1<|L0<|bN l<|?_
 have n:=aJ.old hM i
 refine ay<|dV (zI (dir:=dir) n hf) fun z C D o Z a0 p=>Pl 1<|aM 2<|?_
 have q:=ub p l
 refine aD q 0<|Pl 1<|pr (jj dir M.code (dI dir M)) fun f E g=>?_
 have r:Calls _ _ _ _ (eL (jj dir M.code (dI dir M)) D):=oN (dir:=dir) (c:=M.code) q0 (o).rd hlen
 rw[g] at r
 refine ay<|e2 (r) fun F a1 a G=>Pl 3<|aK mZ fun a2 a3 H I J=>aG (hz:=(by rw[a.size];exact aQ)) (hv:=a.size) (h1:=a.one) I (F) fun a4 K L=>ai 1<|sq<|al 3<|?_
 have s:=ud J L H
 have j:=aI G s
 have t:=aI p j
 have u:=aI i t
 refine bl 22 ((E != 0)) (fun b=>?_) (fun b=>?_)
 have N:=aB b
 refine ai 5<|c1<|aE 2<|aX<|rr (.tuple #[nS,vI 1])<|cO (ki g b) ?_
 exact⟨rfl,u⟩
 have N:=az b
 refine L1<|bN (hz:=(by rw[a.size];exact aQ)) K<|?_
 refine L1<|bN (ub j q)<|?_
 refine L1<|Oc<|m1 (io (A:=f) (B:=M) (aJ.upd a s aN) (aJ.old n t)) fun a5 v=>ai 2<|?_
 have y:=aI u v
 refine cb ((!(decide (f=M)))) (fun k=>?_) (fun k=>?_)
 have d:(decide (f=M))=false:=by simpa using k
 have O:=of_decide_eq_false d
 refine aE 2<|aX<|rr (.tuple #[nS,vI 1])<|cO (kq g d) ?_
 exact⟨rfl,y⟩
 have d:(decide (f=M))=true:=by simpa using k
 have O:=of_decide_eq_true d
 refine bj<|aE 3<|rt<|rr (.tuple #[.slice z ((dI dir M).length) C,vI 0])<|?_
 refine cO (jk g b d) ?_
 exact⟨_,rfl,(b6.weaken (av o (aI j v) (fun x hx=>aF) (fun _ _ h=>h)) i.size),y⟩
theorem lB{m:Md}{cs:Array Value}{M:aU}{w:World}{dir:Int}(h:aJ m w cs.toList M)(hf:bB M)(hlen:(di dir M).length≤1048576) : Calls Tryz.prog 103 #[vI dir,.agg cs] w (dR (bv gC di dir M) w):=by
 have hM:=h
 refine fo h fun Aw kw Ab kb Ad kd Ar kr Ao ko e hw hbt hd hr ho _ _ _ _ _ _ _ _ _ _ q0 q1 q2 q3 q4 q5 q6 q7 q8 q9 P Q R S T U V=>?_
 subst e
 refine en 29 Tryz.func103 rfl<|sg<|L0<|d6 (mG M.code M.fail M.addr M.count M.value M.and_ M.or_ M.addr2 M.sub M.status M.events M.messages (.slice Aw M.words.length kw) (.slice Ab M.bits.length kb) (.slice Ad M.data.length kd) (.slice Ar M.recs.length kr) M.mei M.kind M.level M.more M.next (.slice Ao M.objects.length ko)) fun W X Y l i=>Pl 2<|aM 1<|L0<|bN l<|?_
 have n:=aJ.old hM i
 refine ay<|dV (uT (dir:=dir) n hf) fun z C D o Z a0 p=>Pl 1<|aM 2<|?_
 have q:=ub p l
 refine aD q 0<|Pl 1<|pr (gC dir M.code (di dir M)) fun f E g=>?_
 have r:Calls _ _ _ _ (eL (gC dir M.code (di dir M)) D):=ll (dir:=dir) (c:=M.code) q0 (o).rd hlen
 rw[g] at r
 refine ay<|e2 (r) fun F a1 a G=>Pl 3<|aK mZ fun a2 a3 H I J=>aG (hz:=(by rw[a.size];exact aQ)) (hv:=a.size) (h1:=a.one) I (F) fun a4 K L=>ai 1<|sq<|al 3<|?_
 have s:=ud J L H
 have j:=aI G s
 have t:=aI p j
 have u:=aI i t
 refine bl 22 ((E != 0)) (fun b=>?_) (fun b=>?_)
 have N:=aB b
 refine ai 5<|c1<|aE 2<|aX<|rr (.tuple #[nS,vI 1])<|cO (ki g b) ?_
 exact⟨rfl,u⟩
 have N:=az b
 refine L1<|bN (hz:=(by rw[a.size];exact aQ)) K<|?_
 refine L1<|bN (ub j q)<|?_
 refine L1<|Oc<|m1 (io (A:=f) (B:=M) (aJ.upd a s aN) (aJ.old n t)) fun a5 v=>ai 2<|?_
 have y:=aI u v
 refine cb ((!(decide (f=M)))) (fun k=>?_) (fun k=>?_)
 have d:(decide (f=M))=false:=by simpa using k
 have O:=of_decide_eq_false d
 refine aE 2<|aX<|rr (.tuple #[nS,vI 1])<|cO (kq g d) ?_
 exact⟨rfl,y⟩
 have d:(decide (f=M))=true:=by simpa using k
 have O:=of_decide_eq_true d
 refine bj<|aE 3<|rt<|rr (.tuple #[.slice z ((di dir M).length) C,vI 0])<|?_
 refine cO (jk g b d) ?_
 exact⟨_,rfl,(b6.weaken (av o (aI j v) (fun x hx=>aF) (fun _ _ h=>h)) i.size),y⟩
open Go.RowKit
def i1:Nat→Int→aU→Option (List Int)
  | 1,dir,M=>bv gq cD dir M
  | 2,dir,M=>bv ie cm dir M
  | 3,dir,M=>bv it bZ dir M
  | 4,dir,M=>bv gC di dir M
  | 5,dir,M=>bv jj dI dir M
  | _,_,_=>none
def d7 (dir:Int)(M:aU) : Option (List Int) :=
  if M.fail != 0 then (if dir != 1 then none else nz M)
  else match i1 (jY M.code) dir M with
    | none=>none
    | some l=>if decide (253≤(l.length:Int)) then none else some ([M.code]++l)
theorem mi:∀ (L:List Obj),(∀ r,r∈L→r.value.length≤1024)→(fD L).length≤1026*L.length
  | [],_=>by simp[fD]
  | r :: L,h=>by
    have h1:=h r (by simp)
    have h2:=mi L fun x hx=>h x (by simp[hx])
    simp only[fD,List.length_append,List.length_cons,List.length_nil]
    omega
theorem mc(dir c:Int) : ∀ (L:List dx),(∀ r,r∈L→r.words.length≤1024)→(dk dir c L).length≤2064*L.length
  | [],_=>by simp[dk]
  | r :: L,h=>by
    have h1:=h r (by simp)
    have h2:=mc dir c L fun x hx=>h x (by simp[hx])
    simp only[dk,kz]
    repeat' split
    all_goals simp only[bT,aC]
    all_goals omega
theorem fG{M:aU}(hf:bB M)(dir:Int) : (cD dir M).length≤1048576∧(cm dir M).length≤1048576∧(bZ dir M).length≤1048576∧(dI dir M).length≤1048576∧(di dir M).length≤1048576:=by
  have hp:(bS M.bits).length≤1024:=by
    have:=hf.bits
    simp only[bS,List.length_map,List.length_range,eo]
    omega
  have h1:=hf.words
  have h2:=hf.data
  have h3:=hf.objects
  have h4:=mi M.objects hf.objv
  have h5:=mc dir M.code M.recs hf.recw
  have h6:=hf.recs
  refine⟨?_,?_,?_,?_,?_⟩
  · unfold cD
    repeat' split
    all_goals simp only[bT,aC]
    all_goals omega
  · unfold cm
    repeat' split
    all_goals simp only[bT,aC]
    all_goals omega
  · unfold bZ
    repeat' split
    all_goals simp only[bT,aC]
    all_goals omega
  · unfold dI
    repeat' split
    all_goals simp only[bT]
    all_goals omega
  · unfold di
    simp only[List.length_set,List.length_append,List.length_cons,List.length_nil]
    omega
theorem gl{m:Md}{cs:Array Value}{M:aU}{w:World}{dir:Int}(h:aJ m w cs.toList M)(hf:bB M) : Calls Tryz.prog 51 #[vI dir,.agg cs] w (dR (d7 dir M) w):=by
 have hM:=h
 refine fo h fun Aw kw Ab kb Ad kd Ar kr Ao ko e hw hbt hd hr ho _ _ _ _ _ _ _ _ _ _ q0 q1 q2 q3 q4 q5 q6 q7 q8 q9 ci cj d ck cl cn co=>?_
 subst e
 refine en 47 Tryz.func51 rfl<|sg<|L0<|d6 (mG M.code M.fail M.addr M.count M.value M.and_ M.or_ M.addr2 M.sub M.status M.events M.messages (.slice Aw M.words.length kw) (.slice Ab M.bits.length kb) (.slice Ad M.data.length kd) (.slice Ar M.recs.length kr) M.mei M.kind M.level M.more M.next (.slice Ao M.objects.length ko)) fun cp f cq c b=>ai 2<|sq<|al 1<|aD c 1<|Pl 1<|nl<|tn<|cb ((M.fail != 0)) (fun a=>?_) (fun a=>?_)
 have aj:=aB a
 refine sq<|aE 2<|cb ((dir != 1)) (fun d=>?_) (fun d=>?_)
 have ak:=aB d
 exact aE 2<|aX<|tr<|rr (.tuple #[nS,vI 1])<|cv (y:=none) (by unfold d7;(try simp only[a,d,bi,reduceIte])<;>rfl) ⟨rfl,b⟩
 have ak:=az d
 refine bj<|sg<|L0<|bN c<|?_
 rcases hwr:nz M with _|lw
 have F:=ot (aJ.old hM b)
 rw[hwr] at F
 refine ay<|m1 F fun cr an=>ai 4<|aX<|rr (.tuple #[nS,vI 1])<|?_
 exact cv (y:=none) (by unfold d7;(try simp only[a,d,bi,hwr,reduceIte])<;>rfl) ⟨rfl,(aI b an)⟩
 have G:=ot (aJ.old hM b)
 rw[hwr] at G
 refine ay<|dV G fun ao aq ct ar cu cw au=>ai 4<|aX<|rr (.tuple #[.slice ao lw.length aq,vI 0])<|?_
 exact cv (y:=(some lw)) (by unfold d7;(try simp only[a,d,bi,hwr,reduceIte])<;>rfl) ⟨_,rfl,(b6.weaken ar b.size),(aI b au)⟩
 have aj:=az a
 refine bj<|al 1<|aD c 0<|?_
 rcases i7 M.code with⟨hk,hkf⟩|⟨hk,hkf⟩|⟨hk,hkf⟩|⟨hk,hkf⟩|⟨hk,hkf⟩|⟨hk,hkf⟩
 have H:=fV (x:=M.code) (w:=f)
 rw[hkf] at H
 refine ay<|m1 H fun cx aw=>Pl 3<|aK #[.nilFunc,.nilFunc] fun cy cz ax aH aL=>aG aH #[.func (.func 96) #[] #[],.func (.func 97) #[] #[]] fun cA aM aN=>ai 1<|sq<|aE 2<|c0<|bj<|al 1<|aD aM 1<|Pl 1<|?_
 have I:=aI aw (ud aL aN ax)
 have J:=ub I c
 refine L0<|bN J<|?_
 have n:=aI b I
 rcases hwr:bv gq cD dir M with _|lw
 have K:=lg (dir:=dir) (aJ.old hM n) hf (fG hf dir).1
 rw[hwr] at K
 refine L0<|i3 #[] #[] (args:=#[vI dir,.agg (mG M.code M.fail M.addr M.count M.value M.and_ M.or_ M.addr2 M.sub M.status M.events M.messages (.slice Aw M.words.length kw) (.slice Ab M.bits.length kb) (.slice Ad M.data.length kd) (.slice Ar M.recs.length kr) M.mei M.kind M.level M.more M.next (.slice Ao M.objects.length ko))])<|m1 K fun cB aO=>ai 5<|sq<|aE 7<|c1<|al 2<|nl<|tn<|aX<|rr (.tuple #[nS,vI 1])<|?_
 exact cv (y:=none) (by unfold d7;(try simp only[a,bi,hkf,i1,hwr,reduceIte])<;>rfl) ⟨rfl,(aI n aO)⟩
 have L:=lg (dir:=dir) (aJ.old hM n) hf (fG hf dir).1
 rw[hwr] at L
 refine L0<|i3 #[] #[] (args:=#[vI dir,.agg (mG M.code M.fail M.addr M.count M.value M.and_ M.or_ M.addr2 M.sub M.status M.events M.messages (.slice Aw M.words.length kw) (.slice Ab M.bits.length kb) (.slice Ad M.data.length kd) (.slice Ar M.recs.length kr) M.mei M.kind M.level M.more M.next (.slice Ao M.objects.length ko))])<|dV L fun cC cE cF aP cH cI N=>ai 5<|sq<|aE 7<|?_
 have s:=aI n N
 refine cb ((decide (253≤(lw.length:Int)))) (fun g=>?_) (fun g=>?_)
 have aQ:=of_decide_eq_true g
 exact aE 2<|aX<|rr (.tuple #[nS,vI 1])<|cv (y:=none) (by unfold d7;(try simp only[a,g,bi,hkf,i1,hwr,reduceIte])<;>rfl) ⟨rfl,s⟩
 have aQ:=of_decide_eq_false g
 refine bj<|al 1<|?_
 refine aD (ub N J) 0<|L0<|cY (m:=1) (e:=5) #[vB M.code] fun cJ cK aS aV t=>?_
 have O:=cG aS (xs:=[M.code]) (by as_aux_lemma=>kernel_rfl) (am (by omega) aR) (by(try simp only[List.length_cons,List.length_nil]);omega) aV
 refine Pl 1<|?_
 refine L0<|bQ b9 (xs:=([M.code])) (ys:=lw) (vB 0) 1 O ((av aP t (fun x hx=>aF) (fun _ _ h=>h))).rd (by(try simp only[bT,aC]);omega) t.size fun aW aY cL aZ b0=>ai 2<|rt<|rr (.tuple #[.slice aW (([M.code]++lw).length) aY,vI 0])<|?_
 exact cv (y:=(some ([M.code]++lw))) (by unfold d7;(try simp only[a,g,bi,hkf,i1,hwr,reduceIte])<;>rfl) ⟨_,rfl,(b6.weaken aZ s.size),(aI s (ut t b0 (ap (aT O lr) aA)))⟩
 have P:=fV (x:=M.code) (w:=f)
 rw[hkf] at P
 refine ay<|m1 P fun cM b1=>Pl 3<|aK #[.nilFunc,.nilFunc] fun cN cO b2 b3 b4=>aG b3 #[.func (.func 98) #[] #[],.func (.func 99) #[] #[]] fun cP b5 b7=>ai 1<|sq<|aE 2<|c0<|bj<|al 1<|aD b5 1<|Pl 1<|?_
 have Q:=aI b1 (ud b4 b7 b2)
 have R:=ub Q c
 refine L0<|bN R<|?_
 have o:=aI b Q
 rcases hwr:bv ie cm dir M with _|lw
 have S:=mF (dir:=dir) (aJ.old hM o) hf (fG hf dir).2.1
 rw[hwr] at S
 refine L0<|i3 #[] #[] (args:=#[vI dir,.agg (mG M.code M.fail M.addr M.count M.value M.and_ M.or_ M.addr2 M.sub M.status M.events M.messages (.slice Aw M.words.length kw) (.slice Ab M.bits.length kb) (.slice Ad M.data.length kd) (.slice Ar M.recs.length kr) M.mei M.kind M.level M.more M.next (.slice Ao M.objects.length ko))])<|m1 S fun cQ b8=>ai 5<|sq<|aE 7<|c1<|al 2<|nl<|tn<|aX<|rr (.tuple #[nS,vI 1])<|?_
 exact cv (y:=none) (by unfold d7;(try simp only[a,bi,hkf,i1,hwr,reduceIte])<;>rfl) ⟨rfl,(aI o b8)⟩
 have T:=mF (dir:=dir) (aJ.old hM o) hf (fG hf dir).2.1
 rw[hwr] at T
 refine L0<|i3 #[] #[] (args:=#[vI dir,.agg (mG M.code M.fail M.addr M.count M.value M.and_ M.or_ M.addr2 M.sub M.status M.events M.messages (.slice Aw M.words.length kw) (.slice Ab M.bits.length kb) (.slice Ad M.data.length kd) (.slice Ar M.recs.length kr) M.mei M.kind M.level M.more M.next (.slice Ao M.objects.length ko))])<|dV T fun cR cS cT ba cU cV U=>ai 5<|sq<|aE 7<|?_
 have u:=aI o U
 refine cb ((decide (253≤(lw.length:Int)))) (fun i=>?_) (fun i=>?_)
 have bb:=of_decide_eq_true i
 exact aE 2<|aX<|rr (.tuple #[nS,vI 1])<|cv (y:=none) (by unfold d7;(try simp only[a,i,bi,hkf,i1,hwr,reduceIte])<;>rfl) ⟨rfl,u⟩
 have bb:=of_decide_eq_false i
 refine bj<|al 1<|?_
 refine aD (ub U R) 0<|L0<|cY (m:=1) (e:=5) #[vB M.code] fun cW cX bc bd v=>?_
 have V:=cG bc (xs:=[M.code]) (by as_aux_lemma=>kernel_rfl) (am (by omega) aR) (by(try simp only[List.length_cons,List.length_nil]);omega) bd
 refine Pl 1<|?_
 refine L0<|bQ b9 (xs:=([M.code])) (ys:=lw) (vB 0) 1 V ((av ba v (fun x hx=>aF) (fun _ _ h=>h))).rd (by(try simp only[bT,aC]);omega) v.size fun be bf cZ bg bh=>ai 2<|rt<|rr (.tuple #[.slice be (([M.code]++lw).length) bf,vI 0])<|?_
 exact cv (y:=(some ([M.code]++lw))) (by unfold d7;(try simp only[a,i,bi,hkf,i1,hwr,reduceIte])<;>rfl) ⟨_,rfl,(b6.weaken bg u.size),(aI u (ut v bh (ap (aT V lr) aA)))⟩
 have W:=fV (x:=M.code) (w:=f)
 rw[hkf] at W
 refine ay<|m1 W fun d0 bk=>Pl 3<|aK #[.nilFunc,.nilFunc] fun d1 d2 bl bm bn=>aG bm #[.func (.func 100) #[] #[],.func (.func 101) #[] #[]] fun d3 bo bp=>ai 1<|sq<|aE 2<|c0<|bj<|al 1<|aD bo 1<|Pl 1<|?_
 have X:=aI bk (ud bn bp bl)
 have Y:=ub X c
 refine L0<|bN Y<|?_
 have p:=aI b X
 rcases hwr:bv it bZ dir M with _|lw
 have Z:=nq (dir:=dir) (aJ.old hM p) hf (fG hf dir).2.2.1
 rw[hwr] at Z
 refine L0<|i3 #[] #[] (args:=#[vI dir,.agg (mG M.code M.fail M.addr M.count M.value M.and_ M.or_ M.addr2 M.sub M.status M.events M.messages (.slice Aw M.words.length kw) (.slice Ab M.bits.length kb) (.slice Ad M.data.length kd) (.slice Ar M.recs.length kr) M.mei M.kind M.level M.more M.next (.slice Ao M.objects.length ko))])<|m1 Z fun d4 bq=>ai 5<|sq<|aE 7<|c1<|al 2<|nl<|tn<|aX<|rr (.tuple #[nS,vI 1])<|?_
 exact cv (y:=none) (by unfold d7;(try simp only[a,bi,hkf,i1,hwr,reduceIte])<;>rfl) ⟨rfl,(aI p bq)⟩
 have a0:=nq (dir:=dir) (aJ.old hM p) hf (fG hf dir).2.2.1
 rw[hwr] at a0
 refine L0<|i3 #[] #[] (args:=#[vI dir,.agg (mG M.code M.fail M.addr M.count M.value M.and_ M.or_ M.addr2 M.sub M.status M.events M.messages (.slice Aw M.words.length kw) (.slice Ab M.bits.length kb) (.slice Ad M.data.length kd) (.slice Ar M.recs.length kr) M.mei M.kind M.level M.more M.next (.slice Ao M.objects.length ko))])<|dV a0 fun d5 d8 d9 br da db a1=>ai 5<|sq<|aE 7<|?_
 have z:=aI p a1
 refine cb ((decide (253≤(lw.length:Int)))) (fun j=>?_) (fun j=>?_)
 have bs:=of_decide_eq_true j
 exact aE 2<|aX<|rr (.tuple #[nS,vI 1])<|cv (y:=none) (by unfold d7;(try simp only[a,j,bi,hkf,i1,hwr,reduceIte])<;>rfl) ⟨rfl,z⟩
 have bs:=of_decide_eq_false j
 refine bj<|al 1<|?_
 refine aD (ub a1 Y) 0<|L0<|cY (m:=1) (e:=5) #[vB M.code] fun dc dd bt bu A=>?_
 have a2:=cG bt (xs:=[M.code]) (by as_aux_lemma=>kernel_rfl) (am (by omega) aR) (by(try simp only[List.length_cons,List.length_nil]);omega) bu
 refine Pl 1<|?_
 refine L0<|bQ b9 (xs:=([M.code])) (ys:=lw) (vB 0) 1 a2 ((av br A (fun x hx=>aF) (fun _ _ h=>h))).rd (by(try simp only[bT,aC]);omega) A.size fun bw bx de bz bA=>ai 2<|rt<|rr (.tuple #[.slice bw (([M.code]++lw).length) bx,vI 0])<|?_
 exact cv (y:=(some ([M.code]++lw))) (by unfold d7;(try simp only[a,j,bi,hkf,i1,hwr,reduceIte])<;>rfl) ⟨_,rfl,(b6.weaken bz z.size),(aI z (ut A bA (ap (aT a2 lr) aA)))⟩
 have a3:=fV (x:=M.code) (w:=f)
 rw[hkf] at a3
 refine ay<|m1 a3 fun df bC=>Pl 3<|aK #[.nilFunc,.nilFunc] fun dg dh bD bE bF=>aG bE #[.func (.func 102) #[] #[],.func (.func 103) #[] #[]] fun dj bG bH=>ai 1<|sq<|aE 2<|c0<|bj<|al 1<|aD bG 1<|Pl 1<|?_
 have a4:=aI bC (ud bF bH bD)
 have a5:=ub a4 c
 refine L0<|bN a5<|?_
 have q:=aI b a4
 rcases hwr:bv gC di dir M with _|lw
 have a6:=lB (dir:=dir) (aJ.old hM q) hf (fG hf dir).2.2.2.2
 rw[hwr] at a6
 refine L0<|i3 #[] #[] (args:=#[vI dir,.agg (mG M.code M.fail M.addr M.count M.value M.and_ M.or_ M.addr2 M.sub M.status M.events M.messages (.slice Aw M.words.length kw) (.slice Ab M.bits.length kb) (.slice Ad M.data.length kd) (.slice Ar M.recs.length kr) M.mei M.kind M.level M.more M.next (.slice Ao M.objects.length ko))])<|m1 a6 fun dk bI=>ai 5<|sq<|aE 7<|c1<|al 2<|nl<|tn<|aX<|rr (.tuple #[nS,vI 1])<|?_
 exact cv (y:=none) (by unfold d7;(try simp only[a,bi,hkf,i1,hwr,reduceIte])<;>rfl) ⟨rfl,(aI q bI)⟩
 have a7:=lB (dir:=dir) (aJ.old hM q) hf (fG hf dir).2.2.2.2
 rw[hwr] at a7
 refine L0<|i3 #[] #[] (args:=#[vI dir,.agg (mG M.code M.fail M.addr M.count M.value M.and_ M.or_ M.addr2 M.sub M.status M.events M.messages (.slice Aw M.words.length kw) (.slice Ab M.bits.length kb) (.slice Ad M.data.length kd) (.slice Ar M.recs.length kr) M.mei M.kind M.level M.more M.next (.slice Ao M.objects.length ko))])<|dV a7 fun dl dm dn bJ dp dq a8=>ai 5<|sq<|aE 7<|?_
 have B:=aI q a8
 refine cb ((decide (253≤(lw.length:Int)))) (fun k=>?_) (fun k=>?_)
 have bK:=of_decide_eq_true k
 exact aE 2<|aX<|rr (.tuple #[nS,vI 1])<|cv (y:=none) (by unfold d7;(try simp only[a,k,bi,hkf,i1,hwr,reduceIte])<;>rfl) ⟨rfl,B⟩
 have bK:=of_decide_eq_false k
 refine bj<|al 1<|?_
 refine aD (ub a8 a5) 0<|L0<|cY (m:=1) (e:=5) #[vB M.code] fun dr ds bL bM C=>?_
 have a9:=cG bL (xs:=[M.code]) (by as_aux_lemma=>kernel_rfl) (am (by omega) aR) (by(try simp only[List.length_cons,List.length_nil]);omega) bM
 refine Pl 1<|?_
 refine L0<|bQ b9 (xs:=([M.code])) (ys:=lw) (vB 0) 1 a9 ((av bJ C (fun x hx=>aF) (fun _ _ h=>h))).rd (by(try simp only[bT,aC]);omega) C.size fun bO bP dt bR bS=>ai 2<|rt<|rr (.tuple #[.slice bO (([M.code]++lw).length) bP,vI 0])<|?_
 exact cv (y:=(some ([M.code]++lw))) (by unfold d7;(try simp only[a,k,bi,hkf,i1,hwr,reduceIte])<;>rfl) ⟨_,rfl,(b6.weaken bR B.size),(aI B (ut C bS (ap (aT a9 lr) aA)))⟩
 have aa:=fV (x:=M.code) (w:=f)
 rw[hkf] at aa
 refine ay<|m1 aa fun du bU=>Pl 3<|aK #[.nilFunc,.nilFunc] fun dv dw bV bW bX=>aG bW #[.func (.func 104) #[] #[],.func (.func 105) #[] #[]] fun dx bY c2=>ai 1<|sq<|aE 2<|c0<|bj<|al 1<|aD bY 1<|Pl 1<|?_
 have ab:=aI bU (ud bX c2 bV)
 have ac:=ub ab c
 refine L0<|bN ac<|?_
 have r:=aI b ab
 rcases hwr:bv jj dI dir M with _|lw
 have ad:=oX (dir:=dir) (aJ.old hM r) hf (fG hf dir).2.2.2.1
 rw[hwr] at ad
 refine L0<|i3 #[] #[] (args:=#[vI dir,.agg (mG M.code M.fail M.addr M.count M.value M.and_ M.or_ M.addr2 M.sub M.status M.events M.messages (.slice Aw M.words.length kw) (.slice Ab M.bits.length kb) (.slice Ad M.data.length kd) (.slice Ar M.recs.length kr) M.mei M.kind M.level M.more M.next (.slice Ao M.objects.length ko))])<|m1 ad fun dy c3=>ai 5<|sq<|aE 7<|c1<|al 2<|nl<|tn<|aX<|rr (.tuple #[nS,vI 1])<|?_
 exact cv (y:=none) (by unfold d7;(try simp only[a,bi,hkf,i1,hwr,reduceIte])<;>rfl) ⟨rfl,(aI r c3)⟩
 have ae:=oX (dir:=dir) (aJ.old hM r) hf (fG hf dir).2.2.2.1
 rw[hwr] at ae
 refine L0<|i3 #[] #[] (args:=#[vI dir,.agg (mG M.code M.fail M.addr M.count M.value M.and_ M.or_ M.addr2 M.sub M.status M.events M.messages (.slice Aw M.words.length kw) (.slice Ab M.bits.length kb) (.slice Ad M.data.length kd) (.slice Ar M.recs.length kr) M.mei M.kind M.level M.more M.next (.slice Ao M.objects.length ko))])<|dV ae fun dz dA dB c4 dC dD af=>ai 5<|sq<|aE 7<|?_
 have D:=aI r af
 refine cb ((decide (253≤(lw.length:Int)))) (fun l=>?_) (fun l=>?_)
 have c5:=of_decide_eq_true l
 exact aE 2<|aX<|rr (.tuple #[nS,vI 1])<|cv (y:=none) (by unfold d7;(try simp only[a,l,bi,hkf,i1,hwr,reduceIte])<;>rfl) ⟨rfl,D⟩
 have c5:=of_decide_eq_false l
 refine bj<|al 1<|?_
 refine aD (ub af ac) 0<|L0<|cY (m:=1) (e:=5) #[vB M.code] fun dE dF c6 c7 E=>?_
 have ag:=cG c6 (xs:=[M.code]) (by as_aux_lemma=>kernel_rfl) (am (by omega) aR) (by(try simp only[List.length_cons,List.length_nil]);omega) c7
 refine Pl 1<|?_
 refine L0<|bQ b9 (xs:=([M.code])) (ys:=lw) (vB 0) 1 ag ((av c4 E (fun x hx=>aF) (fun _ _ h=>h))).rd (by(try simp only[bT,aC]);omega) E.size fun c8 c9 dG ca cc=>ai 2<|rt<|rr (.tuple #[.slice c8 (([M.code]++lw).length) c9,vI 0])<|?_
 exact cv (y:=(some ([M.code]++lw))) (by unfold d7;(try simp only[a,l,bi,hkf,i1,hwr,reduceIte])<;>rfl) ⟨_,rfl,(b6.weaken ca D.size),(aI D (ut E cc (ap (aT ag lr) aA)))⟩
 have ah:=fV (x:=M.code) (w:=f)
 rw[hkf] at ah
 refine ay<|m1 ah fun dH cd=>Pl 3<|aK #[.nilFunc,.nilFunc] fun dJ dK ce cf cg=>aG cf #[.nilFunc,.nilFunc] fun dL dM ch=>ai 1<|sq<|aE 2<|c1<|aE 2<|aX<|rr (.tuple #[nS,vI 1])<|?_
 exact cv (y:=none) (by unfold d7;(try simp only[a,bi,hkf,i1,reduceIte])<;>rfl) ⟨rfl,(aI b (aI cd (ud cg ch ce)))⟩
open Go.RowKit
def jb:Nat→Int→List Int→aU × Int
  | 1,dir,b=>aj aP dir (b.getD 0 0) (b.drop 1)
  | 2,dir,b=>aj aW dir (b.getD 0 0) (b.drop 1)
  | 3,dir,b=>aj bg dir (b.getD 0 0) (b.drop 1)
  | 4,dir,b=>aj bh dir (b.getD 0 0) (b.drop 1)
  | 5,dir,b=>aj bU dir (b.getD 0 0) (b.drop 1)
  | _,_,_=>(aU.zero,4)
def cF (dir:Int)(b:List Int) : aU × Int :=
  if dir != 0&&dir != 1 then (aU.zero,1)
  else if (b.length:Int)==0 then (aU.zero,2)
  else if decide (253<(b.length:Int)) then (aU.zero,3)
  else if decide (128≤b.getD 0 0)&&dir==1 then fl b
  else jb (jY (b.getD 0 0)) dir b
theorem tp{m:Md}{A:Option Addr}{cp:Nat}{b:List Int}{w:World}{dir:Int}(hsl:aZ m w (.slice A b.length cp) b)(hb:b.length≤1048576) :
    Calls Tryz.prog 83 #[vI dir,.slice A b.length cp] w (eL (cF dir b) w):=by
 have hln:(b.length:Int)≤1048576:=by omega
 refine en 60 Tryz.func83 rfl<|sg<|aK mZ fun dq t h a f=>ai 1<|sq<|bk<|al 3<|cu 3 [11] 14 (((dir != 0)&&(dir != 1))) (fun K S=>?_) ?_
 refine bl 11 ((dir != 0)) (fun u=>?_) (fun u=>?_)
 have bZ:=aB u
 exact Pl 3<|ce S (dir != 1) (by rw[u];rfl)
 have bZ:=az u
 exact Pl 3<|ce S false (by rw[u];rfl)
 refine ai 1<|cb (((dir != 0)&&(dir != 1))) (fun d=>?_) (fun d=>?_)
 have c2:=(bC d).1
 have c3:=(bC d).2
 refine al 1<|aG a mZ fun dr c4 c5=>ai 1<|rt<|br<|tr<|bJ c4 (vI 1)<|?_
 exact cv (by unfold cF;(try simp only[d,c2,c3,bi,jb,reduceIte])<;>rfl) (cR (ud f c5 h))
 refine aE 4<|cb (((b.length:Int)==0)) (fun e=>?_) (fun e=>?_)
 have c6:=ag e
 refine al 1<|aG a mZ fun ds c7 c8=>ai 1<|rt<|br<|tr<|bJ c7 (vI 2)<|?_
 exact cv (by unfold cF;(try simp only[d,e,bi,jb,reduceIte])<;>rfl) (cR (ud f c8 h))
 have c6:=au e
 refine aE 4<|cb ((decide (253<(b.length:Int)))) (fun g=>?_) (fun g=>?_)
 have c9:=of_decide_eq_true g
 refine al 1<|aG a mZ fun dt ca cc=>ai 1<|rt<|br<|tr<|bJ ca (vI 3)<|?_
 exact cv (by unfold cF;(try simp only[d,e,g,bi,jb,reduceIte])<;>rfl) (cR (ud f cc h))
 have c9:=of_decide_eq_false g
 refine al 1<|?_
 have s:=aZ.old hsl f
 refine ft (aZ.at_ s 0 (by omega)) fun T U V W du=>L0<|kY b.length 0 V (by omega)<|L0<|eu (p:=⟨T,U+0,none⟩) (v:=vB (b.getD 0 0)) W<|Pl 2<|cu 3 [31] 34 (((decide (128≤(b.getD 0 0)))&&(dir==1))) (fun K X=>?_) ?_
 refine bl 31 ((decide (128≤(b.getD 0 0)))) (fun y=>?_) (fun y=>?_)
 have cd:=of_decide_eq_true y
 exact Pl 3<|ce X (dir==1) (by rw[y];rfl)
 have cd:=of_decide_eq_false y
 exact Pl 3<|ce X false (by rw[y];rfl)
 refine ai 1<|cb (((decide (128≤(b.getD 0 0)))&&(dir==1))) (fun i=>?_) (fun i=>?_)
 have cf:=(bC i).1
 have cg:=(bC i).2
 refine al 1<|ay<|e2 (vQ s (by omega)) fun ch dv z Y=>Pl 2<|?_
 have Z:=ub Y a
 refine aG (hz:=(by rw[z.size];exact aQ)) (hv:=z.size) (h1:=z.one) Z (ch) fun dw ci a0=>ai 1<|rt<|br<|tr<|fd 22 z.size ci (vI (((fl b)).2))<|?_
 exact cv (by unfold cF;(try simp only[d,e,g,i,cf,cg,bi,jb,reduceIte])<;>rfl) ⟨_,rfl,(aJ.upd z a0 (ax (b7 Z (by decide)) aN)),(ud f (uz Y a0) h)⟩
 refine sk<|bn<|tn<|al 1<|L0<|kY b.length 0 V (by omega)<|L0<|eu (p:=⟨T,U+0,none⟩) (v:=vB (b.getD 0 0)) W<|?_
 rcases i7 (b.getD 0 0) with⟨hk,hkf⟩|⟨hk,hkf⟩|⟨hk,hkf⟩|⟨hk,hkf⟩|⟨hk,hkf⟩|⟨hk,hkf⟩
 have a1:=fV (x:=(b.getD 0 0)) (w:=t)
 rw[hkf] at a1
 refine ay<|m1 a1 fun dx a2=>Pl 3<|aK #[.nilFunc,.nilFunc] fun cj dy a3 ck cl=>aG ck #[.func (.func 96) #[] #[],.func (.func 97) #[] #[]] fun dz cm cn=>ai 1<|sq<|aE 2<|c0<|bj<|sq<|?_
 have a4:=aI a2 (ud cl cn a3)
 have a5:=aZ.old s a4
 refine ft (aZ.at_ a5 0 (by omega)) fun co cq a6 a7 dA=>Rg 13 (fun w'=>w'.cell? ⟨cj,0,none⟩=some (.func (.func 96) #[] #[])∧w'.cell? ⟨co,cq+0,none⟩=some (vB (b.getD 0 0))) fun dB G=>?_
 have a8:=ub G cm
 refine bo ⟨(ae a8 rfl),(uc G a7)⟩ fun j=>Rt 0 j<|Rl 1 j (fun _ hs=>hs.1)<|Rt 2 j<|Rt 3 j<|lS 4 j b.length 0 0 rfl a6 (by omega)<|Rl 5 j (fun _ hs=>hs.2)<|Rt 6 j<|ny (ea (P:=Tryz.prog) 27 5 1 Tryz.underlying27 rfl rfl A b.length cp 1 (by omega)) fun a9 hrun108 cr=>Rr 7 j (.slice a9 (b.length-1) (cp-1)) (fun _ _=>et (kl:=.i64) (k:=((1:Nat) : Int)) (A:=A) (n:=b.length) (c:=cp) rfl Tryz.underlying27 (by kernel_rfl) (by kernel_rfl) (hrun108 _ _))<|?_
 refine R0 8 rfl<|i3 #[] #[] (args:=#[vI dir,vB (b.getD 0 0),.slice a9 (b.length-1) (cp-1)])<|e2 (lA (dir:=dir) (c:=(b.getD 0 0)) (b8 (by omega)) (cr _ _ _ _ _ (aZ.old a5 G)) (by(try simp only[List.length_drop]);omega)) fun cs dC B aa=>?_
 have ab:=ub aa a8
 have ac:=aI G aa
 refine bo ⟨(ae ab rfl),(uc ac a7)⟩ fun ad=>Rt 9 ad<|Rt 10 ad<|?_
 have af:=aI a4 ac
 have ah:=ub af a
 refine R0 11 rfl<|gJ (hz:=(by rw[B.size];exact aQ)) (hv:=B.size) (h1:=B.one) ah (cs) fun dD ct M=>?_
 have ak:=ud f (uz af M) h
 refine bo ⟨(ae (be M (Ne.symm (nb (aq a) a2.size a3)) ab) rfl),(cB (aZ.old hsl ak) a6 0 (by omega))⟩ fun cw=>Rt 12 cw<|re<|tn<|rt<|fd 22 B.size ct (vI (((aj aP dir (b.getD 0 0) (b.drop 1))).2))<|?_
 exact cv (by unfold cF;(try simp only[d,e,g,i,bi,hkf,jb,reduceIte])<;>rfl) ⟨_,rfl,(aJ.upd B M (ax (b7 ah (by decide)) aN)),ak⟩
 have am:=fV (x:=(b.getD 0 0)) (w:=t)
 rw[hkf] at am
 refine ay<|m1 am fun dE an=>Pl 3<|aK #[.nilFunc,.nilFunc] fun cx dF ao cy cz=>aG cy #[.func (.func 98) #[] #[],.func (.func 99) #[] #[]] fun dG cA cC=>ai 1<|sq<|aE 2<|c0<|bj<|sq<|?_
 have ap:=aI an (ud cz cC ao)
 have ar:=aZ.old s ap
 refine ft (aZ.at_ ar 0 (by omega)) fun cD cE av aw dH=>Rg 13 (fun w'=>w'.cell? ⟨cx,0,none⟩=some (.func (.func 98) #[] #[])∧w'.cell? ⟨cD,cE+0,none⟩=some (vB (b.getD 0 0))) fun dI H=>?_
 have aA:=ub H cA
 refine bo ⟨(ae aA rfl),(uc H aw)⟩ fun l=>Rt 0 l<|Rl 1 l (fun _ hs=>hs.1)<|Rt 2 l<|Rt 3 l<|lS 4 l b.length 0 0 rfl av (by omega)<|Rl 5 l (fun _ hs=>hs.2)<|Rt 6 l<|ny (ea (P:=Tryz.prog) 27 5 1 Tryz.underlying27 rfl rfl A b.length cp 1 (by omega)) fun aC hrun188 cG=>Rr 7 l (.slice aC (b.length-1) (cp-1)) (fun _ _=>et (kl:=.i64) (k:=((1:Nat) : Int)) (A:=A) (n:=b.length) (c:=cp) rfl Tryz.underlying27 (by kernel_rfl) (by kernel_rfl) (hrun188 _ _))<|?_
 refine R0 8 rfl<|i3 #[] #[] (args:=#[vI dir,vB (b.getD 0 0),.slice aC (b.length-1) (cp-1)])<|e2 (md (dir:=dir) (c:=(b.getD 0 0)) (b8 (by omega)) (cG _ _ _ _ _ (aZ.old ar H)) (by(try simp only[List.length_drop]);omega)) fun cH dJ C aD=>?_
 have aF:=ub aD aA
 have aH:=aI H aD
 refine bo ⟨(ae aF rfl),(uc aH aw)⟩ fun aL=>Rt 9 aL<|Rt 10 aL<|?_
 have aM:=aI ap aH
 have aO:=ub aM a
 refine R0 11 rfl<|gJ (hz:=(by rw[C.size];exact aQ)) (hv:=C.size) (h1:=C.one) aO (cH) fun dK cI N=>?_
 have aR:=ud f (uz aM N) h
 refine bo ⟨(ae (be N (Ne.symm (nb (aq a) an.size ao)) aF) rfl),(cB (aZ.old hsl aR) av 0 (by omega))⟩ fun cJ=>Rt 12 cJ<|re<|tn<|rt<|fd 22 C.size cI (vI (((aj aW dir (b.getD 0 0) (b.drop 1))).2))<|?_
 exact cv (by unfold cF;(try simp only[d,e,g,i,bi,hkf,jb,reduceIte])<;>rfl) ⟨_,rfl,(aJ.upd C N (ax (b7 aO (by decide)) aN)),aR⟩
 have aS:=fV (x:=(b.getD 0 0)) (w:=t)
 rw[hkf] at aS
 refine ay<|m1 aS fun dL aT=>Pl 3<|aK #[.nilFunc,.nilFunc] fun cK dM aU cL cM=>aG cL #[.func (.func 100) #[] #[],.func (.func 101) #[] #[]] fun dN cN cO=>ai 1<|sq<|aE 2<|c0<|bj<|sq<|?_
 have aV:=aI aT (ud cM cO aU)
 have aY:=aZ.old s aV
 refine ft (aZ.at_ aY 0 (by omega)) fun cP cQ b0 b1 dO=>Rg 13 (fun w'=>w'.cell? ⟨cK,0,none⟩=some (.func (.func 100) #[] #[])∧w'.cell? ⟨cP,cQ+0,none⟩=some (vB (b.getD 0 0))) fun dP I=>?_
 have b2:=ub I cN
 refine bo ⟨(ae b2 rfl),(uc I b1)⟩ fun o=>Rt 0 o<|Rl 1 o (fun _ hs=>hs.1)<|Rt 2 o<|Rt 3 o<|lS 4 o b.length 0 0 rfl b0 (by omega)<|Rl 5 o (fun _ hs=>hs.2)<|Rt 6 o<|ny (ea (P:=Tryz.prog) 27 5 1 Tryz.underlying27 rfl rfl A b.length cp 1 (by omega)) fun b3 hrun268 cS=>Rr 7 o (.slice b3 (b.length-1) (cp-1)) (fun _ _=>et (kl:=.i64) (k:=((1:Nat) : Int)) (A:=A) (n:=b.length) (c:=cp) rfl Tryz.underlying27 (by kernel_rfl) (by kernel_rfl) (hrun268 _ _))<|?_
 refine R0 8 rfl<|i3 #[] #[] (args:=#[vI dir,vB (b.getD 0 0),.slice b3 (b.length-1) (cp-1)])<|e2 (mX (dir:=dir) (c:=(b.getD 0 0)) (b8 (by omega)) (cS _ _ _ _ _ (aZ.old aY I)) (by(try simp only[List.length_drop]);omega)) fun cT dQ D b4=>?_
 have b5:=ub b4 b2
 have b6:=aI I b4
 refine bo ⟨(ae b5 rfl),(uc b6 b1)⟩ fun b9=>Rt 9 b9<|Rt 10 b9<|?_
 have ba:=aI aV b6
 have bb:=ub ba a
 refine R0 11 rfl<|gJ (hz:=(by rw[D.size];exact aQ)) (hv:=D.size) (h1:=D.one) bb (cT) fun dR cU O=>?_
 have bc:=ud f (uz ba O) h
 refine bo ⟨(ae (be O (Ne.symm (nb (aq a) aT.size aU)) b5) rfl),(cB (aZ.old hsl bc) b0 0 (by omega))⟩ fun cV=>Rt 12 cV<|re<|tn<|rt<|fd 22 D.size cU (vI (((aj bg dir (b.getD 0 0) (b.drop 1))).2))<|?_
 exact cv (by unfold cF;(try simp only[d,e,g,i,bi,hkf,jb,reduceIte])<;>rfl) ⟨_,rfl,(aJ.upd D O (ax (b7 bb (by decide)) aN)),bc⟩
 have bd:=fV (x:=(b.getD 0 0)) (w:=t)
 rw[hkf] at bd
 refine ay<|m1 bd fun dS bf=>Pl 3<|aK #[.nilFunc,.nilFunc] fun cW dT bm cX cY=>aG cX #[.func (.func 102) #[] #[],.func (.func 103) #[] #[]] fun dU cZ d0=>ai 1<|sq<|aE 2<|c0<|bj<|sq<|?_
 have bp:=aI bf (ud cY d0 bm)
 have bq:=aZ.old s bp
 refine ft (aZ.at_ bq 0 (by omega)) fun d1 d2 bs bt dV=>Rg 13 (fun w'=>w'.cell? ⟨cW,0,none⟩=some (.func (.func 102) #[] #[])∧w'.cell? ⟨d1,d2+0,none⟩=some (vB (b.getD 0 0))) fun dW J=>?_
 have bu:=ub J cZ
 refine bo ⟨(ae bu rfl),(uc J bt)⟩ fun q=>Rt 0 q<|Rl 1 q (fun _ hs=>hs.1)<|Rt 2 q<|Rt 3 q<|lS 4 q b.length 0 0 rfl bs (by omega)<|Rl 5 q (fun _ hs=>hs.2)<|Rt 6 q<|ny (ea (P:=Tryz.prog) 27 5 1 Tryz.underlying27 rfl rfl A b.length cp 1 (by omega)) fun bv hrun348 d3=>Rr 7 q (.slice bv (b.length-1) (cp-1)) (fun _ _=>et (kl:=.i64) (k:=((1:Nat) : Int)) (A:=A) (n:=b.length) (c:=cp) rfl Tryz.underlying27 (by kernel_rfl) (by kernel_rfl) (hrun348 _ _))<|?_
 refine R0 8 rfl<|i3 #[] #[] (args:=#[vI dir,vB (b.getD 0 0),.slice bv (b.length-1) (cp-1)])<|e2 (ll (dir:=dir) (c:=(b.getD 0 0)) (b8 (by omega)) (d3 _ _ _ _ _ (aZ.old bq J)) (by(try simp only[List.length_drop]);omega)) fun d4 dX E bw=>?_
 have bx:=ub bw bu
 have bz:=aI J bw
 refine bo ⟨(ae bx rfl),(uc bz bt)⟩ fun bA=>Rt 9 bA<|Rt 10 bA<|?_
 have bB:=aI bp bz
 have bD:=ub bB a
 refine R0 11 rfl<|gJ (hz:=(by rw[E.size];exact aQ)) (hv:=E.size) (h1:=E.one) bD (d4) fun dY d5 Q=>?_
 have bE:=ud f (uz bB Q) h
 refine bo ⟨(ae (be Q (Ne.symm (nb (aq a) bf.size bm)) bx) rfl),(cB (aZ.old hsl bE) bs 0 (by omega))⟩ fun d6=>Rt 12 d6<|re<|tn<|rt<|fd 22 E.size d5 (vI (((aj bh dir (b.getD 0 0) (b.drop 1))).2))<|?_
 exact cv (by unfold cF;(try simp only[d,e,g,i,bi,hkf,jb,reduceIte])<;>rfl) ⟨_,rfl,(aJ.upd E Q (ax (b7 bD (by decide)) aN)),bE⟩
 have bF:=fV (x:=(b.getD 0 0)) (w:=t)
 rw[hkf] at bF
 refine ay<|m1 bF fun dZ bG=>Pl 3<|aK #[.nilFunc,.nilFunc] fun d7 e0 bH d8 d9=>aG d8 #[.func (.func 104) #[] #[],.func (.func 105) #[] #[]] fun e1 da db=>ai 1<|sq<|aE 2<|c0<|bj<|sq<|?_
 have bI:=aI bG (ud d9 db bH)
 have bK:=aZ.old s bI
 refine ft (aZ.at_ bK 0 (by omega)) fun dc dd bL bM e3=>Rg 13 (fun w'=>w'.cell? ⟨d7,0,none⟩=some (.func (.func 104) #[] #[])∧w'.cell? ⟨dc,dd+0,none⟩=some (vB (b.getD 0 0))) fun e4 L=>?_
 have bN:=ub L da
 refine bo ⟨(ae bN rfl),(uc L bM)⟩ fun r=>Rt 0 r<|Rl 1 r (fun _ hs=>hs.1)<|Rt 2 r<|Rt 3 r<|lS 4 r b.length 0 0 rfl bL (by omega)<|Rl 5 r (fun _ hs=>hs.2)<|Rt 6 r<|ny (ea (P:=Tryz.prog) 27 5 1 Tryz.underlying27 rfl rfl A b.length cp 1 (by omega)) fun bO hrun428 de=>Rr 7 r (.slice bO (b.length-1) (cp-1)) (fun _ _=>et (kl:=.i64) (k:=((1:Nat) : Int)) (A:=A) (n:=b.length) (c:=cp) rfl Tryz.underlying27 (by kernel_rfl) (by kernel_rfl) (hrun428 _ _))<|?_
 refine R0 8 rfl<|i3 #[] #[] (args:=#[vI dir,vB (b.getD 0 0),.slice bO (b.length-1) (cp-1)])<|e2 (oN (dir:=dir) (c:=(b.getD 0 0)) (b8 (by omega)) (de _ _ _ _ _ (aZ.old bK L)) (by(try simp only[List.length_drop]);omega)) fun df e5 F bP=>?_
 have bQ:=ub bP bN
 have bR:=aI L bP
 refine bo ⟨(ae bQ rfl),(uc bR bM)⟩ fun bS=>Rt 9 bS<|Rt 10 bS<|?_
 have bT:=aI bI bR
 have bV:=ub bT a
 refine R0 11 rfl<|gJ (hz:=(by rw[F.size];exact aQ)) (hv:=F.size) (h1:=F.one) bV (df) fun e6 dg R=>?_
 have bW:=ud f (uz bT R) h
 refine bo ⟨(ae (be R (Ne.symm (nb (aq a) bG.size bH)) bQ) rfl),(cB (aZ.old hsl bW) bL 0 (by omega))⟩ fun dh=>Rt 12 dh<|re<|tn<|rt<|fd 22 F.size dg (vI (((aj bU dir (b.getD 0 0) (b.drop 1))).2))<|?_
 exact cv (by unfold cF;(try simp only[d,e,g,i,bi,hkf,jb,reduceIte])<;>rfl) ⟨_,rfl,(aJ.upd F R (ax (b7 bV (by decide)) aN)),bW⟩
 have bX:=fV (x:=(b.getD 0 0)) (w:=t)
 rw[hkf] at bX
 refine ay<|m1 bX fun e7 di=>Pl 3<|aK #[.nilFunc,.nilFunc] fun e8 e9 dj dk dl=>aG dk #[.nilFunc,.nilFunc] fun eb ec dm=>ai 1<|sq<|aE 2<|c1<|al 1<|?_
 have bY:=aI di (ud dl dm dj)
 refine aG (ub bY a) mZ fun ed dn dp=>ai 1<|aX<|bJ dn (vI 4)<|?_
 exact cv (by unfold cF;(try simp only[d,e,g,i,bi,hkf,jb,reduceIte])<;>rfl) (cR (ud f (uz bY dp) h))
theorem oz{m:Md}{v:Value}{b:List Int}{w:World}{dir:Int}(h:aZ m w v b)(hb:b.length≤1048576) : Calls Tryz.prog 83 #[.int .i64 dir,v] w (eL (cF dir b) w):=by
  obtain⟨A,cp,rfl,_,_⟩:=h.shape
  exact tp h hb
end Go.Proofs.YtdkhbcefkfgbdaaGreat
namespace Go.Proofs.YtdkhbcefkfgbdaaGreat
def N1 (C:ah) : Prop:=C.e≠1
theorem N1.need{C:ah}{b:Bool}{x:Int}(hx:x≠1)(h:N1 C) : N1 (C.need b x):=by
  unfold N1 ah.need at *
  split
  · exact hx
  · exact h
theorem N1.bytesC{C:ah}{n:Int}(h:N1 C) : N1 (C.bytesC n):=by
  unfold ah.bytesC
  split
  · exact N1.need (by decide) h
  · exact h
theorem N1.wordsC{C:ah}{n:Int}(h:N1 C) : N1 (C.wordsC n):=by
  unfold ah.wordsC
  split<;>exact N1.bytesC h
theorem N1.recs{one:Int→ah→Int × ah × dx}(ho:∀ s C,N1 C→N1 (one s C).2.1) : ∀ (n:Nat)(s:Int)(C:ah)(L:List dx),N1 C→N1 (aY one n s C L).1
  | 0,_,_,_,h=>h
  | n+1,s,C,L,h=>by
    unfold aY
    split
    · split
      · exact ho s C h
      · exact N1.recs ho n _ _ _ (ho s C h)
    · exact h
theorem N1.objs:∀ (n:Nat)(C:ah)(L:List Obj),N1 C→N1 (eH n C L).1
  | 0,_,_,h=>h
  | n+1,C,L,h=>N1.objs n _ _ (N1.bytesC (N1.bytesC (N1.bytesC h)))
theorem vm{x:Int}(h:x≠1) : bE x≠1:=by
  unfold bE
  split
  · decide
  · exact h
def wl (c:Int)(r:ah × aU) : Prop:=N1 r.1∧r.2.code=c∧r.2.fail=0
theorem sU{dir c:Int}{C:ah}{r:ah × aU}(hC:N1 C)(h:aP dir c C=some r) : wl c r:=by
  unfold aP at h
  repeat' split at h
  all_goals first | cases h | skip
  all_goals refine⟨?_,rfl,rfl⟩
  all_goals simp only[eE,ep,dX,iR,bV,jZ,fR,eb,sa,iX]
  all_goals repeat' first | with_reducible exact hC | with_reducible apply N1.bytesC | with_reducible apply N1.wordsC | (with_reducible refine N1.need (by decide) ?_)
theorem vE{dir c:Int}{C:ah}{r:ah × aU}(hC:N1 C)(h:aW dir c C=some r) : wl c r:=by
  unfold aW at h
  repeat' split at h
  all_goals first | cases h | skip
  all_goals refine⟨?_,rfl,rfl⟩
  all_goals simp only[co,cH,ef,dq,da,dn,dp,lZ,jh,iL,bP,lI,dc,gA,qI,Ay,tI]
  all_goals repeat' first | with_reducible exact hC | with_reducible apply N1.bytesC | with_reducible apply N1.wordsC | (with_reducible refine N1.need (by decide) ?_)
theorem uX{dir c:Int}{C:ah}{r:ah × aU}(hC:N1 C)(h:bg dir c C=some r) : wl c r:=by
  unfold bg eD cI at h
  repeat' split at h
  all_goals first | cases h | skip
  all_goals refine⟨?_,rfl,rfl⟩
  all_goals simp only[fu,kx,fX,gD,dW]
  all_goals repeat' first | with_reducible exact hC | with_reducible apply N1.bytesC | with_reducible apply N1.wordsC | (with_reducible refine N1.need (by decide) ?_)
theorem wN{dir c:Int}{C:ah}{r:ah × aU}(hC:N1 C)(h:bU dir c C=some r) : wl c r:=by
  unfold bU at h
  repeat' split at h
  all_goals first | cases h | skip
  all_goals refine⟨?_,rfl,rfl⟩
  all_goals simp only[dS,gc,eP,er,lM,lQ,nM,xH]
  all_goals repeat' first | with_reducible exact hC | with_reducible apply N1.bytesC | with_reducible apply N1.wordsC | with_reducible apply N1.objs | (with_reducible refine N1.need (by decide) ?_)
theorem AV(s:Int)(C:ah)(h:N1 C) : N1 (dl s C).2.1:=by
  simp only[dl,eZ,dQ,j8,jJ,nw]
  repeat' first | with_reducible exact h | with_reducible apply N1.bytesC | with_reducible apply N1.wordsC | (with_reducible refine N1.need (by decide) ?_)
theorem yK(s:Int)(C:ah)(h:N1 C) : N1 (bY s C).2.1:=by
  simp only[bY,fs,j0,gv]
  repeat' first | with_reducible exact h | with_reducible apply N1.bytesC | with_reducible apply N1.wordsC | (with_reducible refine N1.need (by decide) ?_)
theorem Al(s:Int)(C:ah)(h:N1 C) : N1 (dr s C).2.1:=by
  simp only[dr,jX,nB,dQ,j8,jJ,nw]
  repeat' first | with_reducible exact h | with_reducible apply N1.bytesC | with_reducible apply N1.wordsC | (with_reducible refine N1.need (by decide) ?_)
theorem lc{one:Int→ah→Int × ah × dx}(ho:∀ s C,N1 C→N1 (one s C).2.1)(may:Int→Bool)(c:Int){C:ah}(hC:N1 C) : N1 (eh one may c C).1:=by
  unfold eh lK
  refine N1.need (vm (N1.recs ho _ _ _ _ ?_)) (N1.bytesC (N1.need (by decide) (N1.bytesC hC)))
  show(0:Int)≠1
  decide
theorem sj{dir c:Int}{C:ah}{r:ah × aU}(hC:N1 C)(h:bh dir c C=some r) : wl c r:=by
  unfold bh at h
  repeat' split at h
  all_goals first | cases h | skip
  · exact⟨lc AV _ _ hC,rfl,rfl⟩
  · exact⟨lc yK _ _ hC,rfl,rfl⟩
  · exact⟨lc Al _ _ hC,rfl,rfl⟩
theorem N1.endC{C:ah}(h:N1 C) : N1 C.endC:=by
  unfold ah.endC
  exact N1.need (by decide) h
theorem gz{form:Int→Int→ah→Option (ah × aU)}(hg:∀ {dir c:Int}{C:ah}{r:ah × aU},N1 C→form dir c C=some r→wl c r){dir c:Int}{b:List Int}(hd:dir=0∨dir=1){M:aU}{E:Int}(h:aj form dir c b=(M,E)) :
    E≠1∧(E=0→M.code=c∧M.fail=0):=by
  unfold aj at h
  rw[if_pos hd] at h
  have h0:N1 ⟨b,false,0⟩:=by show(0:Int)≠1;decide
  split at h
  · injection h with h1 h2
    subst h1 h2
    exact⟨by decide,fun h=>by cases h⟩
  · rename_i r hr
    obtain⟨g1,g2,g3⟩:=hg h0 hr
    unfold bp at h
    split at h
    · injection h with h1 h2
      subst h1 h2
      exact⟨by decide,fun _=>⟨g2,g3⟩⟩
    · rename_i hne
      injection h with h1 h2
      subst h1 h2
      exact⟨N1.endC g1,fun h=>absurd h hne⟩
end Go.Proofs.YtdkhbcefkfgbdaaGreat
namespace Go.Proofs.YtdkhbcefkfgbdaaGreat
theorem xX:∀ n:Nat,n<256→(dZ (n:Int)=kP (n:Int))∧(kP (n:Int)=false→jY (n:Int)=0)∧(128≤n→kP (n:Int)=false):=by decide +kernel
theorem w9{x:Int}(h:0≤x∧x<256) : dZ x=kP x∧(kP x=false→jY x=0)∧(128≤x→kP x=false):=by
  obtain⟨n,rfl⟩:=Int.eq_ofNat_of_zero_le h.1
  obtain⟨a,b,c⟩:=xX n (by omega)
  exact⟨a,b,fun h=>c (by omega)⟩
theorem wd{dir:Int}{b:List Int}(hd:dir=0∨dir=1){k:Nat}{M:aU}{E:Int}(h:jb k dir b=(M,E)) : E≠1∧(E=0→M.code=b.getD 0 0∧M.fail=0):=by
  unfold jb at h
  split at h
  · exact gz (fun hC h=>sU hC h) hd h
  · exact gz (fun hC h=>vE hC h) hd h
  · exact gz (fun hC h=>uX hC h) hd h
  · exact gz (fun hC h=>sj hC h) hd h
  · exact gz (fun hC h=>wN hC h) hd h
  · injection h with h1 h2
    subst h1 h2
    exact⟨by decide,fun h=>by cases h⟩
theorem uq{b:List Int}{M:aU}(h:fl b=(M,0)) : M=hG ((b.getD 0 0-128)%256) (b.getD 1 0)∧128≤b.getD 0 0∧dZ ((b.getD 0 0-128)%256)=true∧cX (b.getD 1 0)=true∧b.length=2:=by
  unfold fl at h
  split at h
  · cases h
  split at h
  · cases h
  split at h
  · cases h
  split at h
  · cases h
  split at h
  · cases h
  split at h
  · cases h
  injection h with h1 h2
  simp only[decide_eq_true_eq,Bool.not_eq_true',Bool.not_eq_true,beq_iff_eq,Bool.not_eq_false'] at *
  refine⟨h1.symm,by omega,by simp_all,by simp_all,by omega⟩
end Go.Proofs.YtdkhbcefkfgbdaaGreat
namespace Go.Proofs.YtdkhbcefkfgbdaaGreat
theorem dy{parse:Int→Int→List Int→aU × Int}{lay:Int→aU→List Int}{dir:Int}{M:aU}{l:List Int}(h:bv parse lay dir M=some l) : parse dir M.code l=(M,0)∧l=lay dir M:=by
  unfold bv at h
  split at h
  · rename_i hh
    injection h with h
    subst h
    exact⟨hh,rfl⟩
  · cases h
theorem la{k:Nat}{dir:Int}{M:aU}{l:List Int}(h:i1 k dir M=some l) : k≠0∧jb k dir ([M.code]++l)=(M,0):=by
  unfold i1 at h
  split at h
  · exact⟨by decide,(dy h).1⟩
  · exact⟨by decide,(dy h).1⟩
  · exact⟨by decide,(dy h).1⟩
  · exact⟨by decide,(dy h).1⟩
  · exact⟨by decide,(dy h).1⟩
  · cases h
theorem vK{M:aU}{l:List Int}(h:nz M=some l) : dZ M.code=true∧cX M.fail=true∧M=hG M.code M.fail∧l=[(M.code+128)%256,M.fail]:=by
  unfold nz at h
  split at h
  · cases h
  split at h
  · cases h
  rename_i h1 h2
  injection h with h
  subst h
  have h3:gR M.code M.fail=true:=by
    cases hp:gR M.code M.fail
    · rw[hp] at h1;exact absurd rfl h1
    · rfl
  have h4:M=hG M.code M.fail:=by
    by_cases hm:M=hG M.code M.fail
    · exact hm
    · rw[decide_eq_false hm] at h2;exact absurd rfl h2
  unfold gR at h3
  obtain⟨h5,h6⟩:=gZ h3
  exact⟨(gZ h5).2,h6,h4,rfl⟩
theorem iv{dir:Int}{M:aU}{l:List Int}(hc:0≤M.code∧M.code<256)(h:d7 dir M=some l) :
    (M.fail≠0∧dir=1∧dZ M.code=true∧cX M.fail=true∧M=hG M.code M.fail∧l=[M.code+128,M.fail]∧M.code<128) ∨
    (M.fail=0∧jY M.code≠0∧M.code<128∧∃ l',i1 (jY M.code) dir M=some l'∧l'.length<253∧l=[M.code]++l'):=by
  obtain⟨t1,t2,t3⟩:=w9 hc
  unfold d7 at h
  split at h
  · rename_i hf
    split at h
    · cases h
    · rename_i hd
      obtain⟨h1,h2,h3,h4⟩:=vK h
      have h5:M.code<128:=by
        by_cases h6:128≤M.code
        · have:=t3 h6
          rw[← t1,h1] at this
          cases this
        · omega
      refine .inl ⟨by simpa using hf,by simpa using hd,h1,h2,h3,?_,h5⟩
      rw[h4]
      congr 1
      omega
  · rename_i hf
    split at h
    · cases h
    · rename_i l' hl
      split at h
      · cases h
      · rename_i hn
        injection h with h
        have hk:=(la hl).1
        have h5:M.code<128:=by
          by_cases h6:128≤M.code
          · exact absurd (t2 (t3 h6)) hk
          · omega
        simp only[decide_eq_true_eq] at hn
        exact .inr ⟨by simpa using hf,hk,h5,l',hl,by omega,h.symm⟩
theorem pU{dir:Int}{M:aU}{l:List Int}(hd:dir=0∨dir=1)(hc:0≤M.code∧M.code<256)(hf:0≤M.fail∧M.fail<256)(h:d7 dir M=some l) : cF dir l=(M,0):=by
  have hdd:(dir != 0&&dir != 1)=false:=by rcases hd with rfl | rfl<;>rfl
  rcases iv hc h with⟨h1,rfl,h2,h3,h4,rfl,h5⟩|⟨h1,h2,h3,l',h4,h5,rfl⟩
  · have ha:decide (128≤M.code+128)=true:=by simp;omega
    have hb:(M.code+128-128)%256=M.code:=by omega
    have j8:decide (M.code+128<128)=false:=by simp;omega
    unfold cF
    simp only[List.length_cons,List.length_nil,List.getD_cons_zero,ha]
    show fl [M.code+128,M.fail]=(M,0)
    unfold fl
    simp only[List.length_cons,List.length_nil,List.getD_cons_zero,List.getD_cons_succ,hb,j8,h2,h3]
    show(hG M.code M.fail,(0:Int))=(M,0)
    rw[← h4]
  · have ha:(decide (128≤M.code)&&dir==1)=false:=by
      have:decide (128≤M.code)=false:=by simp;omega
      rw[this];rfl
    have hl0:(((([M.code]++l').length:Nat) : Int)==0)=false:=by
      simp only[List.length_append,List.length_cons,List.length_nil,beq_eq_false_iff_ne,ne_eq];omega
    have hl1:decide (253<((([M.code]++l').length:Nat) : Int))=false:=by
      simp only[List.length_append,List.length_cons,List.length_nil,decide_eq_false_iff_not];omega
    have hg:([M.code]++l').getD 0 0=M.code:=rfl
    unfold cF
    rw[hdd,hl0,hl1,hg,ha]
    exact(la h4).2
theorem ii{dir:Int}{M:aU}{l:List Int}(hc:0≤M.code∧M.code<256)(h:d7 dir M=some l) : 0<l.length:=by
  rcases iv hc h with⟨_,_,_,_,_,rfl,_⟩|⟨_,_,_,l',_,_,rfl⟩<;>simp
theorem p9{dir:Int}{M:aU}{l:List Int}(hc:0≤M.code∧M.code<256)(h:d7 dir M=some l) : l.length≤253:=by
  rcases iv hc h with⟨_,_,_,_,_,rfl,_⟩|⟨_,_,_,l',_,h2,rfl⟩
  · simp
  · simp only[List.length_append,List.length_cons,List.length_nil];omega
open Go.RowKit
theorem wb{w w':World}(h:aH [] w w') : Below w.heap.size w w':=⟨h.os,h.tape,h.output,h.size,fun k hk=>h.block k hk (by simp)⟩
theorem vf{n:Int}(h:(Lit.int .u8 n).wf=true) : 0≤n∧n<256:=by
  have:=bounds_u8 h
  omega
end Go.Proofs.YtdkhbcefkfgbdaaGreat
