/- Contracts of functions, part CAduWrites6. -/
import Derived.Test.YtdkhbcefkfgbdaaGreatCAduWrites1
import Derived.Test.YtdkhbcefkfgbdaaGreatCAduWrites2
import Derived.Test.YtdkhbcefkfgbdaaGreatCAduWrites3
import Derived.Test.YtdkhbcefkfgbdaaGreatCAduWrites4
import Derived.Test.YtdkhbcefkfgbdaaGreatCAduWrites5
set_option linter.unusedVariables false
set_option linter.unusedSimpArgs false
set_option maxRecDepth 100000
set_option maxHeartbeats 4000000
namespace Go.Proofs.YtdkhbcefkfgbdaaGreat
open Go.RowKit
theorem xm{k i:Nat}{C:ah}{L:List Obj}{R:ah × List Obj}(h:eH (k-i) C L=R)(hk:k-i=0) : R=(C,L):=by
  rw[hk] at h
  exact h.symm
theorem nQ{m:Md}{A:Option Addr}{cp:Nat}{b:List Int}{w:World}{c:Int}(hcode:B8 c)(hsl:aZ m w (.slice A b.length cp) b)(hb:b.length≤1048576) :
    Calls Tryz.prog 113 #[vI 0,vB c,.slice A b.length cp] w (cN (.slice A b.length cp) b (aj du 0 c b) w):=by
 obtain⟨hcode1,hcode2⟩:=hcode
 have hln:(b.length:Int)≤1048576:=by omega
 refine en 176 Tryz.func113 rfl<|sg<|aK mZ fun bE bF q j a=>ai 1<|sq<|aE 6<|c0<|bj<|sq<|aE 2<|cb ((c != 43)) (fun k=>?_) (fun k=>?_)
 have aN:=aB k
 refine al 1<|aG j mZ fun bH aO aP=>ai 1<|aX<|bJ aO (vI 4)<|?_
 exact cv (by unfold aj du eK kv j5 iZ gU fQ gc dS;(try simp only[k,bi,dJ,dP,dL,dN,dO,reduceIte])<;>rfl) (bG (ud a aP q))
 have aN:=az k
 refine bj<|al 2<|L0<|d6 #[.slice A b.length cp,vI 0,.bool false,vI 0] fun r bI d W h=>Pl 1<|aM 1<|aK mZ fun bK bL g aQ aR=>aG aQ (mC 43) fun aT aV aW=>?_
 refine aM 1<|?_
 have X:=ud aR aW g
 have s:=aI h X
 have Y:=aI a s
 have aY:RC w _ A cp b aT r (ah.mk b false 0):=⟨hsl,Y,(Nat.le_trans a.size d),⟨0,(ub X W),Nat.zero_le _,rfl⟩,by omega⟩
 refine ay<|m3 (eF aY) fun bM b0 Z bO=>Pl 1<|?_
 have f:=nb (aq W) lr g
 refine L0<|ci (be Z (Ne.symm f) aV) 16 (mG 43 0 0 0 0 0 0 0 0 0 0 0 nS nS nS nS ((ah.mk b false 0).byteV) 0 0 0 0 nS) fun bP I a0=>aM 2<|aD I 16<|Pl 2<|cu 4 [38] 42 (((((ah.mk b false 0).byteV)==13)||(((ah.mk b false 0).byteV)==14))) (fun K a1=>?_) ?_
 refine bl 38 ((((ah.mk b false 0).byteV)==13)) (fun t=>?_) (fun t=>?_)
 have b1:=ag t
 exact Pl 4<|ce a1 true (by rw[t];rfl)
 have b1:=au t
 exact Pl 1<|L1<|dD I 16<|Pl 2<|ce a1 (((ah.mk b false 0).byteV)==14) (by rw[t];rfl)
 have x:=us Z a0
 have a2:=ut Y x (ac (ni a.size d) (ac (ni (le a.size h.size) g) aA))
 refine ay<|m2 (bf (((((ah.mk b false 0).byteV)==13)||(((ah.mk b false 0).byteV)==14))) 8 (RC.upd b0 a0 (aa f aF) a2)) fun bQ b2 o=>?_
 refine gL b2 fun x55 a3 y=>?_
 refine nt<|sq<|bk<|al 1<|?_
 have J:=be o (Ne.symm f) I
 refine aD J 16<|ai 2<|?_
 have a4:=ud a2 o (le a.size d)
 refine cb ((((ah.mk b false 0).byteV)==13)) (fun z=>?_) (fun z=>?_)
 have b3:=ag z
 refine al 1<|ay<|m1 (jM y) fun bR L=>?_
 have bS:=RC.clen y
 refine Pl 1<|aM 3<|?_
 refine ay<|m2 (bf ((decide ((x55.l.length:Int)≤251))) 5 (RC.upd y L aF (aH.step (RC.u y) L))) fun bT a5 b4=>nt<|go<|Pl 2<|ay<|s7 (gB (n:=(x55.l.length:Int)) (by omega) a5) fun a6 a7 bU b5 b6 b7=>?_
 have bV:=Nat.le_trans (ah.bytesR_le (x55.need (decide ((x55.l.length:Int)≤251)) 5) (x55.l.length:Int)) (RC.clen a5)
 refine gL b6 fun lU b8 b9=>?_
 refine Pl 1<|?_
 have a8:=uz L (u1 b4 b7 im)
 refine L0<|ci (be a8 (Ne.symm f) J) 14 (mG 43 0 0 0 0 0 0 0 0 0 0 0 nS nS (.slice a6 (((x55.need (decide ((x55.l.length:Int)≤251)) 5).bytesR (x55.l.length:Int)).length) a7) nS ((ah.mk b false 0).byteV) 0 0 0 0 nS) fun bW ba a9=>nl<|bn<|tn<|al 1<|?_
 have M:=us a8 a9
 have ab:=ut a4 M (ac (ni a.size d) (ac (ni (le a.size h.size) g) aA))
 refine ay<|m2 (eV (RC.upd b9 a9 (aa f aF) ab)) fun bX N E=>nt<|sq<|al 3<|L0<|eu (p:=⟨r,3,none⟩) (v:=vI lU.endC.e) (RC.fld N)<|ai 1<|?_
 have ad:=ud ab E (le a.size d)
 have hs:aj du 0 c b=bp (aU.mk 43 0 0 0 0 0 0 0 0 0 0 0 [] [] ((x55.need (decide ((x55.l.length:Int)≤251)) 5).bytesR (x55.l.length:Int)) [] ((ah.mk b false 0).byteV) 0 0 0 0 []) lU:=by
   subst b8 a3
   unfold aj du eK kv j5 iZ gU fQ gc dS
   (try simp only[k,z,bi,dJ,dP,dL,dN,dO,reduceIte])
   all_goals rfl
 refine cb ((lU.endC.e != 0)) (fun O=>?_) (fun O=>?_)
 have P:=aB O
 refine sq<|Rg 7 (fun w'=>w'.cell? ⟨r,3,none⟩=some (vI lU.endC.e)) fun bY F=>?_
 have ae:=RC.upd N F aF (aH.step (RC.u N) F)
 refine bo (RC.fld ae) fun B=>Rt 0 B<|Rt 1 B<|Rt 2 B<|Rt 3 B<|Rl 4 B (fun _ hs=>hs)<|?_
 refine R0 5 rfl<|gJ (ub (ut s (ut x (ui o (u1 M (aI E F) im)) (ac im (ac im aA))) (ac (nr d) (ac (ni h.size g) aA))) j) mZ fun bZ bb af=>?_
 have ak:=ud ad (uz F af) q
 refine bo (RC.fld (RC.upd ae af (aa (Ne.symm (nb (aq j) lr d)) aF) ak)) fun bc=>Rt 6 bc<|re<|tn<|aX<|bJ bb (vI lU.endC.e)<|?_
 rw[hs]
 exact bu P ak
 have P:=az O
 refine bj<|sg<|?_
 refine L0<|bN (be E (Ne.symm f) ba)<|?_
 refine aG (ub (ut s (ut x (ui o (u1 M E im)) (ac im (ac im aA))) (ac (nr d) (ac (ni h.size g) aA))) j) (mG 43 0 0 0 0 0 0 0 0 0 0 0 nS nS (.slice a6 (((x55.need (decide ((x55.l.length:Int)≤251)) 5).bytesR (x55.l.length:Int)).length) a7) nS ((ah.mk b false 0).byteV) 0 0 0 0 nS) fun c2 bd bg=>ai 1<|rt<|bJ bd (vI 0)<|?_
 rw[hs]
 exact bD P ⟨_,_,_,_,_,rfl,aS.nil ..,aS.nil ..,b5,aS.nil ..,aS.nil ..,(cT (by omega))⟩ (ud ad bg q)
 have b3:=au z
 refine aE 3<|c1<|al 1<|ay<|m3 (eF y) fun c3 bh am c4=>Pl 1<|?_
 refine L0<|ci (be am (Ne.symm f) J) 17 (mG 43 0 0 0 0 0 0 0 0 0 0 0 nS nS nS nS ((ah.mk b false 0).byteV) x55.byteV 0 0 0 nS) fun c5 Q an=>aM 2<|aD Q 17<|Pl 2<|cu 4 [154] 158 (((decide (0<x55.byteV))&&(decide (x55.byteV<5)))) (fun K ao=>?_) ?_
 refine bl 154 ((decide (0<x55.byteV))) (fun C=>?_) (fun C=>?_)
 have bm:=of_decide_eq_true C
 exact Pl 1<|L1<|dD Q 17<|Pl 2<|ce ao (decide (x55.byteV<5)) (by rw[C];rfl)
 have bm:=of_decide_eq_false C
 exact Pl 4<|ce ao false (by rw[C];rfl)
 have R:=us am an
 have ap:=ut a4 R (ac (ni a.size d) (ac (ni (le a.size h.size) g) aA))
 refine ay<|m2 (bf (((decide (0<x55.byteV))&&(decide (x55.byteV<5)))) 6 (RC.upd bh an (aa f aF) ap)) fun c6 bq br=>?_
 refine gL bq fun i bs bt=>?_
 refine nt<|go<|Pl 1<|ay<|m3 (eF bt) fun c7 bv bw c8=>Pl 1<|?_
 have ar:=u1 br bw im
 refine L0<|ci (be ar (Ne.symm f) Q) 20 (mG 43 0 0 0 0 0 0 0 0 0 0 0 nS nS nS nS ((ah.mk b false 0).byteV) x55.byteV 0 0 i.byteV nS) fun c9 bx av=>nl<|bn<|tn<|al 1<|?_
 have S:=us ar av
 have aw:=ut ap S (ac (ni a.size d) (ac (ni (le a.size h.size) g) aA))
 refine ay<|m2 (eV (RC.upd bv av (aa f aF) aw)) fun ca T G=>nt<|sq<|al 3<|L0<|eu (p:=⟨r,3,none⟩) (v:=vI (((i.bytesC 1).endC).e)) (RC.fld T)<|ai 1<|?_
 have ax:=ud aw G (le a.size d)
 have hs:aj du 0 c b=bp (aU.mk 43 0 0 0 0 0 0 0 0 0 0 0 [] [] [] [] ((ah.mk b false 0).byteV) x55.byteV 0 0 i.byteV []) (i.bytesC 1):=by
   subst bs a3
   unfold aj du eK kv j5 iZ gU fQ gc dS
   (try simp only[k,z,bi,dJ,dP,dL,dN,dO,reduceIte])
   all_goals rfl
 refine cb (((((i.bytesC 1).endC).e)!=0)) (fun U=>?_) (fun U=>?_)
 have V:=aB U
 refine sq<|Rg 7 (fun w'=>w'.cell? ⟨r,3,none⟩=some (vI (((i.bytesC 1).endC).e))) fun cc H=>?_
 have aC:=RC.upd T H aF (aH.step (RC.u T) H)
 refine bo (RC.fld aC) fun D=>Rt 0 D<|Rt 1 D<|Rt 2 D<|Rt 3 D<|Rl 4 D (fun _ hs=>hs)<|?_
 refine R0 5 rfl<|gJ (ub (ut s (ut x (ui o (ut R (u1 S (aI G H) im) (ac im (ac im aA)))) (ac im (ac im aA))) (ac (nr d) (ac (ni h.size g) aA))) j) mZ fun cd bz aJ=>?_
 have aL:=ud ax (uz H aJ) q
 refine bo (RC.fld (RC.upd aC aJ (aa (Ne.symm (nb (aq j) lr d)) aF) aL)) fun bA=>Rt 6 bA<|re<|tn<|aX<|bJ bz (vI (((i.bytesC 1).endC).e))<|?_
 rw[hs]
 exact bu V aL
 have V:=az U
 refine bj<|sg<|?_
 refine L0<|bN (be G (Ne.symm f) bx)<|?_
 refine aG (ub (ut s (ut x (ui o (ut R (u1 S G im) (ac im (ac im aA)))) (ac im (ac im aA))) (ac (nr d) (ac (ni h.size g) aA))) j) (mG 43 0 0 0 0 0 0 0 0 0 0 0 nS nS nS nS ((ah.mk b false 0).byteV) x55.byteV 0 0 i.byteV nS) fun cf bB bC=>ai 1<|rt<|bJ bB (vI 0)<|?_
 rw[hs]
 exact bD V ⟨_,_,_,_,_,rfl,aS.nil ..,aS.nil ..,(fun _ _ _=>aS.nil ..),aS.nil ..,aS.nil ..,(cT (by omega))⟩ (ud ax bC q)
theorem nH{m:Md}{A:Option Addr}{cp:Nat}{b:List Int}{w:World}{c:Int}(hcode:B8 c)(hsl:aZ m w (.slice A b.length cp) b)(hb:b.length≤1048576) :
    Calls Tryz.prog 113 #[vI 1,vB c,.slice A b.length cp] w (cN (.slice A b.length cp) b (aj du 1 c b) w):=by
 obtain⟨hcode1,hcode2⟩:=hcode
 have hln:(b.length:Int)≤1048576:=by omega
 refine en 176 Tryz.func113 rfl<|sg<|aK mZ fun Y dV H s a=>ai 1<|sq<|aE 6<|c0<|bj<|sq<|aE 2<|cb ((c != 43)) (fun D=>?_) (fun D=>?_)
 have cB:=aB D
 refine al 1<|aG s mZ fun dW cC cD=>ai 1<|aX<|bJ cC (vI 4)<|?_
 exact cv (by unfold aj du eK kv j5 iZ gU fQ gc dS;(try simp only[D,bi,dJ,dP,dL,dN,dO,reduceIte])<;>rfl) (bG (ud a cD H))
 have cB:=az D
 refine bj<|al 2<|L0<|d6 #[.slice A b.length cp,vI 0,.bool false,vI 0] fun r dX f b5 o=>Pl 1<|aM 1<|aK mZ fun E dY q cF b7=>aG cF (mC 43) fun cG cH b9=>?_
 refine aM 1<|?_
 have ba:=ud b7 b9 q
 have Z:=aI o ba
 have bb:=aI a Z
 have cI:RC w _ A cp b cG r (ah.mk b false 0):=⟨hsl,bb,(Nat.le_trans a.size f),⟨0,(ub ba b5),Nat.zero_le _,rfl⟩,by omega⟩
 refine ay<|m3 (eF cI) fun dZ cJ a7 e0=>Pl 1<|?_
 have g:=nb (aq b5) lr q
 refine L0<|ci (be a7 (Ne.symm g) cH) 16 (mG 43 0 0 0 0 0 0 0 0 0 0 0 nS nS nS nS ((ah.mk b false 0).byteV) 0 0 0 0 nS) fun e1 a8 a9=>aM 2<|aD a8 16<|Pl 2<|cu 4 [38] 42 (((((ah.mk b false 0).byteV)==13)||(((ah.mk b false 0).byteV)==14))) (fun K bc=>?_) ?_
 refine bl 38 ((((ah.mk b false 0).byteV)==13)) (fun I=>?_) (fun I=>?_)
 have cK:=ag I
 exact Pl 4<|ce bc true (by rw[I];rfl)
 have cK:=au I
 exact Pl 1<|L1<|dD a8 16<|Pl 2<|ce bc (((ah.mk b false 0).byteV)==14) (by rw[I];rfl)
 have a0:=us a7 a9
 have bd:=ut bb a0 (ac (ni a.size f) (ac (ni (le a.size o.size) q) aA))
 refine ay<|m2 (bf (((((ah.mk b false 0).byteV)==13)||(((ah.mk b false 0).byteV)==14))) 8 (RC.upd cJ a9 (aa g aF) bd)) fun e2 cL F=>?_
 refine gL cL fun x55 bg J=>?_
 refine nt<|sq<|bk<|al 1<|?_
 have ab:=be F (Ne.symm g) a8
 refine aD ab 16<|ai 2<|?_
 have bh:=ud bd F (le a.size f)
 refine cb ((((ah.mk b false 0).byteV)==13)) (fun M=>?_) (fun M=>?_)
 have cM:=ag M
 refine al 1<|ay<|m1 (jM J) fun e3 ad=>?_
 have e4:=RC.clen J
 refine Pl 1<|aM 3<|?_
 refine ay<|m2 (bf ((decide ((x55.l.length:Int)≤251))) 5 (RC.upd J ad aF (aH.step (RC.u J) ad))) fun e5 bm cO=>nt<|go<|Pl 2<|ay<|s7 (gB (n:=(x55.l.length:Int)) (by omega) bm) fun br bs e6 cP cQ cR=>?_
 have e7:=Nat.le_trans (ah.bytesR_le (x55.need (decide ((x55.l.length:Int)≤251)) 5) (x55.l.length:Int)) (RC.clen bm)
 refine gL cQ fun lU cS cU=>?_
 refine Pl 1<|?_
 have bt:=uz ad (u1 cO cR im)
 refine L0<|ci (be bt (Ne.symm g) ab) 14 (mG 43 0 0 0 0 0 0 0 0 0 0 0 nS nS (.slice br (((x55.need (decide ((x55.l.length:Int)≤251)) 5).bytesR (x55.l.length:Int)).length) bs) nS ((ah.mk b false 0).byteV) 0 0 0 0 nS) fun e8 cV bv=>nl<|bn<|tn<|al 1<|?_
 have ae:=us bt bv
 have bw:=ut bh ae (ac (ni a.size f) (ac (ni (le a.size o.size) q) aA))
 refine ay<|m2 (eV (RC.upd cU bv (aa g aF) bw)) fun e9 af a1=>nt<|sq<|al 3<|L0<|eu (p:=⟨r,3,none⟩) (v:=vI lU.endC.e) (RC.fld af)<|ai 1<|?_
 have bz:=ud bw a1 (le a.size f)
 have hs:aj du 1 c b=bp (aU.mk 43 0 0 0 0 0 0 0 0 0 0 0 [] [] ((x55.need (decide ((x55.l.length:Int)≤251)) 5).bytesR (x55.l.length:Int)) [] ((ah.mk b false 0).byteV) 0 0 0 0 []) lU:=by
   subst cS bg
   unfold aj du eK kv j5 iZ gU fQ gc dS
   (try simp only[D,M,bi,dJ,dP,dL,dN,dO,reduceIte])
   all_goals rfl
 refine cb ((lU.endC.e != 0)) (fun ak=>?_) (fun ak=>?_)
 have am:=aB ak
 refine sq<|Rg 7 (fun w'=>w'.cell? ⟨r,3,none⟩=some (vI lU.endC.e)) fun ea a2=>?_
 have bB:=RC.upd af a2 aF (aH.step (RC.u af) a2)
 refine bo (RC.fld bB) fun N=>Rt 0 N<|Rt 1 N<|Rt 2 N<|Rt 3 N<|Rl 4 N (fun _ hs=>hs)<|?_
 refine R0 5 rfl<|gJ (ub (ut Z (ut a0 (ui F (u1 ae (aI a1 a2) im)) (ac im (ac im aA))) (ac (nr f) (ac (ni o.size q) aA))) s) mZ fun eb cW bC=>?_
 have bE:=ud bz (uz a2 bC) H
 refine bo (RC.fld (RC.upd bB bC (aa (Ne.symm (nb (aq s) lr f)) aF) bE)) fun cX=>Rt 6 cX<|re<|tn<|aX<|bJ cW (vI lU.endC.e)<|?_
 rw[hs]
 exact bu am bE
 have am:=az ak
 refine bj<|sg<|?_
 refine L0<|bN (be a1 (Ne.symm g) cV)<|?_
 refine aG (ub (ut Z (ut a0 (ui F (u1 ae a1 im)) (ac im (ac im aA))) (ac (nr f) (ac (ni o.size q) aA))) s) (mG 43 0 0 0 0 0 0 0 0 0 0 0 nS nS (.slice br (((x55.need (decide ((x55.l.length:Int)≤251)) 5).bytesR (x55.l.length:Int)).length) bs) nS ((ah.mk b false 0).byteV) 0 0 0 0 nS) fun ec cZ d0=>ai 1<|rt<|bJ cZ (vI 0)<|?_
 rw[hs]
 exact bD am ⟨_,_,_,_,_,rfl,aS.nil ..,aS.nil ..,cP,aS.nil ..,aS.nil ..,(cT (by omega))⟩ (ud bz d0 H)
 have cM:=au M
 refine aE 3<|c0<|al 1<|ay<|m3 (eF J) fun ed d1 an ee=>Pl 1<|?_
 refine L0<|ci (be an (Ne.symm g) ab) 17 (mG 43 0 0 0 0 0 0 0 0 0 0 0 nS nS nS nS ((ah.mk b false 0).byteV) x55.byteV 0 0 0 nS) fun ef ao ar=>aM 2<|aD ao 17<|Pl 2<|cu 4 [51] 55 (((decide (0<x55.byteV))&&(decide (x55.byteV<5)))) (fun K bF=>?_) ?_
 refine bl 51 ((decide (0<x55.byteV))) (fun O=>?_) (fun O=>?_)
 have d2:=of_decide_eq_true O
 exact Pl 1<|L1<|dD ao 17<|Pl 2<|ce bF (decide (x55.byteV<5)) (by rw[O];rfl)
 have d2:=of_decide_eq_false O
 exact Pl 4<|ce bF false (by rw[O];rfl)
 have bH:=us an ar
 have bI:=ut bh bH (ac (ni a.size f) (ac (ni (le a.size o.size) q) aA))
 refine ay<|m2 (bf (((decide (0<x55.byteV))&&(decide (x55.byteV<5)))) 6 (RC.upd d1 ar (aa g aF) bI)) fun eg d3 bK=>?_
 refine gL d3 fun j d4 d5=>?_
 refine aM 1<|ay<|m3 (eF d5) fun eh d7 bL ei=>Pl 1<|?_
 have bM:=u1 bK bL im
 refine L0<|ci (be bM (Ne.symm g) ao) 18 (mG 43 0 0 0 0 0 0 0 0 0 0 0 nS nS nS nS ((ah.mk b false 0).byteV) x55.byteV j.byteV 0 0 nS) fun ej bO aw=>aM 1<|aD bO 18<|L0<|Oe (vB (Int.tmod j.byteV 128)) (vB (j.byteV%128)) (congrArg (Value.int .u8) (Int.tmod_eq_emod_of_nonneg (by omega)))<|Pl 1<|aM 4<|cu 3 [66] 69 (((decide (1≤(j.byteV%128)))&&(decide ((j.byteV%128)≤3)))) (fun K bP=>?_) ?_
 refine bl 66 ((decide (1≤(j.byteV%128)))) (fun P=>?_) (fun P=>?_)
 have d8:=of_decide_eq_true P
 exact Pl 3<|ce bP (decide ((j.byteV%128)≤3)) (by rw[P];rfl)
 have d8:=of_decide_eq_false P
 exact Pl 3<|ce bP false (by rw[P];rfl)
 have bQ:=us bM aw
 have bR:=ut bI bQ (ac (ni a.size f) (ac (ni (le a.size o.size) q) aA))
 refine ay<|m2 (bf (((decide (1≤(j.byteV%128)))&&(decide ((j.byteV%128)≤3)))) 6 (RC.upd d7 aw (aa g aF) bR)) fun ek d9 bS=>?_
 refine gL d9 fun k da dc=>?_
 refine aM 1<|ay<|m3 (eF dc) fun el dd bU em=>Pl 1<|?_
 have bV:=u1 bS bU im
 refine L0<|ci (be bV (Ne.symm g) bO) 19 (mG 43 0 0 0 0 0 0 0 0 0 0 0 nS nS nS nS ((ah.mk b false 0).byteV) x55.byteV j.byteV k.byteV 0 nS) fun eo ax aJ=>aM 2<|aD ax 19<|Pl 2<|cu 4 [78] 82 (((k.byteV==0)||(k.byteV==255))) (fun K bW=>?_) ?_
 refine bl 78 ((k.byteV==0)) (fun Q=>?_) (fun Q=>?_)
 have de:=ag Q
 exact Pl 4<|ce bW true (by rw[Q];rfl)
 have de:=au Q
 exact Pl 1<|L1<|dD ax 19<|Pl 2<|ce bW (k.byteV==255) (by rw[Q];rfl)
 have bX:=us bV aJ
 have bY:=ut bR bX (ac (ni a.size f) (ac (ni (le a.size o.size) q) aA))
 refine ay<|m2 (bf (((k.byteV==0)||(k.byteV==255))) 6 (RC.upd dd aJ (aa g aF) bY)) fun ep df bZ=>?_
 refine gL df fun t dg dh=>?_
 refine aM 1<|ay<|m3 (eF dh) fun eq di c1 er=>Pl 1<|?_
 have c2:=u1 bZ c1 im
 refine L0<|ci (be c2 (Ne.symm g) ax) 20 (mG 43 0 0 0 0 0 0 0 0 0 0 0 nS nS nS nS ((ah.mk b false 0).byteV) x55.byteV j.byteV k.byteV t.byteV nS) fun es a3 aL=>aM 2<|aD a3 20<|Pl 2<|cu 4 [91] 95 (((t.byteV==0)||(k.byteV==255))) (fun K c3=>?_) ?_
 refine bl 91 ((t.byteV==0)) (fun S=>?_) (fun S=>?_)
 have dj:=ag S
 exact Pl 4<|ce c3 true (by rw[S];rfl)
 have dj:=au S
 exact Pl 1<|L1<|dD a3 19<|Pl 2<|ce c3 (k.byteV==255) (by rw[S];rfl)
 have c4:=us c2 aL
 have c5:=ut bY c4 (ac (ni a.size f) (ac (ni (le a.size o.size) q) aA))
 refine ay<|m2 (bf (((t.byteV==0)||(k.byteV==255))) 6 (RC.upd di aL (aa g aF) c5)) fun et dk aN=>?_
 refine gL dk fun d dl dm=>?_
 refine aM 1<|ay<|m3 (eF dm) fun ev dn aO ew=>bq d.byteV<|Pl 1<|aM 4<|cu 4 [103] 107 (((d.byteV==1)||(x55.byteV != 4))) (fun K c6=>?_) ?_
 refine bl 103 ((d.byteV==1)) (fun T=>?_) (fun T=>?_)
 have dp:=ag T
 exact Pl 4<|ce c6 true (by rw[T];rfl)
 have dp:=au T
 refine Pl 1<|?_
 exact L1<|dD (be (u1 aN aO im) (Ne.symm g) a3) 17<|Pl 2<|ce c6 (x55.byteV != 4) (by rw[T];rfl)
 refine ay<|m2 (bf (((d.byteV==1)||(x55.byteV != 4))) 5 dn) fun dq dr c7=>?_
 refine gL dr fun U ds dt=>?_
 refine cE 1<|bk<|?_
 have hKr:0≤d.byteV∧d.byteV<256:=by omega
 have aP:=u1 aN (u1 aO c7 im) im
 refine jf (fun x=>[(6,vP Y 0),(7,vI 0),(8,vP r 0),(9,vP E 0),(12,vI d.byteV),(13,vI (x.1:Int))]) (fun(x:Nat × ah × List Obj × Option Addr × Nat) w'=>aH [] w w'∧dq.heap.size≤w'.heap.size∧w'.heap[Y]? = some (.cells mZ 45 (0,0))∧RC w m A cp b w' r x.2.1∧w'.heap[E]? = some (.cells (mG 43 0 0 0 0 0 0 0 0 0 0 0 nS nS nS nS ((ah.mk b false 0).byteV) x55.byteV j.byteV k.byteV t.byteV (.slice x.2.2.2.1 x.2.2.1.length x.2.2.2.2)) 45 (0,0))∧b6 w.heap.size 100 2 (qW (.slice A b.length cp) b) w' (.slice x.2.2.2.1 x.2.2.1.length x.2.2.2.2) x.2.2.1∧(x.1≤d.byteV.toNat)∧(x.2.2.1.length=x.1)∧(eH (d.byteV.toNat-x.1) x.2.1 x.2.2.1=eH d.byteV.toNat U [])) (fun x=>d.byteV.toNat-x.1) (0,U,[],none,0) ⟨(ud c5 aP (le a.size f)),lr,(ub (ut Z (ut a0 (ui F (ut bH (ut bQ (ut bX (u1 c4 aP im) (ac im (ac im aA))) (ac im (ac im aA))) (ac im (ac im aA)))) (ac im (ac im aA))) (ac (nr f) (ac (ni o.size q) aA))) s),dt,(be aP (Ne.symm g) a3),(b6.nil w.heap.size _ _ (qW (.slice A b.length cp) b) _),(by(try dsimp only);omega),rfl,rfl⟩ ?_
 rintro⟨i,C,L,B,cq⟩ a4 ⟨c8,c9,dv,dw,dx,dy,dz,dA,dB⟩
 refine je [(6,vP Y 0),(7,vI 0),(8,vP r 0),(9,vP E 0),(12,vI d.byteV),(13,vI (i:Int))] ?_
 have V:a4.heap[Y]? = some (.cells mZ 45 (0,0)):=dv
 have z:RC w m A cp b a4 r C:=dw
 have hlC:=RC.clen z
 have hrC:fm C:=RC.rng z
 have hbv:=db hrC
 have hbv2:=db (ju hrC (n:=1))
 have ca:a4.heap[E]? = some (.cells (mG 43 0 0 0 0 0 0 0 0 0 0 0 nS nS nS nS ((ah.mk b false 0).byteV) x55.byteV j.byteV k.byteV t.byteV (.slice B L.length cq)) 45 (0,0)):=dx
 have y:b6 w.heap.size 100 2 (qW (.slice A b.length cp) b) a4 (.slice B L.length cq) L:=dy
 have ex:i≤d.byteV.toNat:=dz
 have ey:L.length=i:=dA
 have cc:eH (d.byteV.toNat-i) C L=eH d.byteV.toNat U []:=dB
 refine sq<|aE 3<|cb ((decide ((i:Int)<d.byteV))) (fun a5=>?_) (fun a5=>?_)
 have dC:=of_decide_eq_true a5
 refine bj<|sq<|bk<|al 1<|ay<|m3 (eF z) fun ez dE aQ eA=>Pl 1<|aM 1<|ay<|m3 (eF dE) fun eB cd aR eC=>?_
 refine bq ((C.bytesC 1).byteV)<|Pl 1<|aM 2<|ay<|s7 (gB (n:=(C.bytesC 1).byteV) (by omega) cd) fun dF dH eD dI cf aV=>?_
 have eE:=Nat.le_trans (ah.bytesR_le ((C.bytesC 1).bytesC 1) ((C.bytesC 1).byteV)) (RC.clen cd)
 refine ai 1<|go<|Pl 1<|?_
 have aW:=u1 aQ (u1 aR aV im) im
 have aY:=be aW (Ne.symm g) ca
 refine aD aY 21<|Pl 3<|L0<|cY (m:=1) (e:=100) #[vB C.byteV,.slice dF ((((C.bytesC 1).bytesC 1).bytesR ((C.bytesC 1).byteV)).length) dH] fun eG eI eJ dK G=>?_
 have cg:=RC.upd cf G aF (aH.step (RC.u cf) G)
 have dM:=lT (R:=qW (.slice A b.length cp) b) (x:=(Obj.mk C.byteV (((C.bytesC 1).bytesC 1).bytesR ((C.bytesC 1).byteV)))) dK rfl ⟨_,_,_,rfl,dI,b8 (x:=C.byteV) (by omega)⟩
 have ch:=aI aW G
 have cj:=av y ch (fun x hx=>(aa (fun e=>(RC.nrow z y (by decide)) (e▸hx)) aF)) (fun _ _ h=>h)
 refine L0<|iY (xs:=L) (ys:=([(Obj.mk C.byteV (((C.bytesC 1).bytesC 1).bytesR ((C.bytesC 1).byteV)))])) (.agg #[vB 0,nS]) 2 32 cj dM (by simp) qW.ones (fun _ _ _ _ h=>h) (by(try simp only[bT,aC]);omega) (le (le (le (le (le (le (le (le (le (le (le (le (le (le (le (le (le (le (le (le (le (le (le (le (le a.size o.size) b7.size) b9.size) a7.size) a9.size) F.size) an.size) ar.size) bK.size) bL.size) aw.size) bS.size) bU.size) aJ.size) bZ.size) c1.size) aL.size) aN.size) aO.size) c7.size) c9) aQ.size) aR.size) aV.size) G.size) fun ck cl eL cm b0=>Pl 1<|?_
 have cn:=aH.blk (ut (aH.mono (S':=(ob B++[])) G aA) b0 (ap il aA)) (bA (dG aY (av y aW (fun x hx=>(aa (fun e=>(RC.nrow z y (by decide)) (e▸hx)) aF)) (fun _ _ h=>h)) (by decide)) aF) aY
 refine L0<|ci cn 21 (mG 43 0 0 0 0 0 0 0 0 0 0 0 nS nS nS nS ((ah.mk b false 0).byteV) x55.byteV j.byteV k.byteV t.byteV (.slice ck ((L++[(Obj.mk C.byteV (((C.bytesC 1).bytesC 1).bytesR ((C.bytesC 1).byteV)))]).length) cl)) fun eM dQ b1=>nl<|bn<|tn<|go<|Pl 1<|bq ((i:Int)+1)<|Pl 1<|nl<|?_
 have co:=u1 (aH.mono (S':=(ob B++(E :: []))) b0 (ap il aA)) b1 im
 have cr:=ut (aH.mono (S':=(r :: (ob B++(E :: [])))) ch (ac im aA)) co (ap il (ac im aA))
 have cs:=ut c8 cr (ac (ni a.size f) (ap (aT y lr) (ac (ni (le a.size o.size) q) aA)))
 exact gI ((i+1),(((C.bytesC 1).bytesC 1).bytesC ((C.bytesC 1).byteV)),(L++[(Obj.mk C.byteV (((C.bytesC 1).bytesC 1).bytesR ((C.bytesC 1).byteV)))]),ck,cl) ⟨cs,(le (le (le (le (le (le c9 aQ.size) aR.size) aV.size) G.size) b0.size) b1.size),(aH.blk cr (aa (nb (aq s) lr f) (bA (dG V y (by decide)) (aa (nb (aq s) o.size q) aF))) V),(RC.upd cg co (bA (RC.nrow cg cj (by decide)) (aa g aF)) cs),dQ,(av cm b1 (fun x hx=>(aa (fun e=>(dG cn cm (by decide)) (e▸hx)) aF)) (fun _ _ h=>h)),(by(try dsimp only);omega),(by(try dsimp only);simp only[bT];omega),(by(try dsimp only);rw[← cc,show d.byteV.toNat-i=(d.byteV.toNat-(i+1))+1 from by omega];rfl)⟩ (by omega)
 have dC:=of_decide_eq_false a5
 refine xt<|tx<|tx<|bx<|bn<|tn<|al 1<|?_
 have hR:=xm cc (by omega)
 refine ay<|m2 (eV z) fun eN b2 W=>nt<|sq<|al 3<|L0<|eu (p:=⟨r,3,none⟩) (v:=vI C.endC.e) (RC.fld b2)<|ai 1<|?_
 have ct:=ud c8 W (le a.size f)
 have hs:aj du 1 c b=bp (aU.mk 43 0 0 0 0 0 0 0 0 0 0 0 [] [] [] [] ((ah.mk b false 0).byteV) x55.byteV j.byteV k.byteV t.byteV (eH d.byteV.toNat U []).2) (eH d.byteV.toNat U []).1:=by
   subst ds dl dg da d4 bg
   unfold aj du eK kv j5 iZ gU fQ gc dS
   (try simp only[D,M,a5,bi,dJ,dP,dL,dN,dO,reduceIte])
   all_goals rfl
 refine cb ((C.endC.e != 0)) (fun b3=>?_) (fun b3=>?_)
 have b4:=aB b3
 refine sq<|Rg 7 (fun w'=>w'.cell? ⟨r,3,none⟩=some (vI C.endC.e)) fun eO a6=>?_
 have cw:=RC.upd b2 a6 aF (aH.step (RC.u b2) a6)
 refine bo (RC.fld cw) fun X=>Rt 0 X<|Rt 1 X<|Rt 2 X<|Rt 3 X<|Rl 4 X (fun _ hs=>hs)<|?_
 have cx:=nb (aq s) lr f
 refine R0 5 rfl<|gJ (be (aI W a6) cx V) mZ fun eP dR cy=>?_
 have cz:=ud ct (uz a6 cy) H
 refine bo (RC.fld (RC.upd cw cy (aa (Ne.symm cx) aF) cz)) fun dT=>Rt 6 dT<|re<|tn<|aX<|bJ dR (vI C.endC.e)<|?_
 rw[hR] at hs
 rw[hs]
 exact bu b4 cz
 have b4:=az b3
 refine bj<|sg<|?_
 refine L0<|bN (be W (Ne.symm g) ca)<|?_
 refine aG (be W (nb (aq s) lr f) V) (mG 43 0 0 0 0 0 0 0 0 0 0 0 nS nS nS nS ((ah.mk b false 0).byteV) x55.byteV j.byteV k.byteV t.byteV (.slice B L.length cq)) fun eQ dU cA=>ai 1<|rt<|bJ dU (vI 0)<|?_
 rw[hR] at hs
 rw[hs]
 exact bD b4 ⟨_,_,_,_,_,rfl,aS.nil ..,aS.nil ..,(fun _ _ _=>aS.nil ..),aS.nil ..,((av y (us W cA) (fun x hx=>(aa (fun e=>(RC.nrow z y (by decide)) (e▸hx)) (aa (fun e=>(dG V y (by decide)) (e▸hx)) aF))) (fun _ _ h=>h))).rd,(cT (by omega))⟩ (ud ct cA H)
theorem nK{m:Md}{A:Option Addr}{cp:Nat}{b:List Int}{w:World}{dir c:Int}(hcode:B8 c)(hsl:aZ m w (.slice A b.length cp) b)(hb:b.length≤1048576)(hd:¬ (dir=0∨dir=1)) :
    Calls Tryz.prog 113 #[vI dir,vB c,.slice A b.length cp] w (cN (.slice A b.length cp) b (aj du dir c b) w):=by
 obtain⟨hcode1,hcode2⟩:=hcode
 have hln:(b.length:Int)≤1048576:=by omega
 have e0:(dir != 0)=true:=by simp;omega
 have e1:(dir != 1)=true:=by simp;omega
 refine en 176 Tryz.func113 rfl<|sg<|aK mZ fun g h a d e=>ai 1<|sq<|al 3<|sy 19 e0<|Pl 3<|nl<|tn<|ct e1<|al 1<|aG d mZ fun i eN f=>ai 1<|aX<|bJ eN (vI 1)<|?_
 exact cv (by unfold aj du eK kv j5 iZ gU fQ gc dS;(try simp only[e0,e1,bi,dJ,dP,dL,dN,dO,reduceIte,hd])<;>rfl) (bG (ud e f a))
theorem mO{m:Md}{v:Value}{b:List Int}{w:World}{dir c:Int}(hc:B8 c)(h:aZ m w v b)(hb:b.length≤1048576) :
    Calls Tryz.prog 113 #[.int .i64 dir,.int .u8 c,v] w (cN v b (aj bU dir c b) w):=by
  rw[← qy (aZ.range h)]
  obtain⟨A,cp,rfl,_,_⟩:=h.shape
  by_cases h0:dir=0
  · subst h0;exact nQ hc h hb
  by_cases h1:dir=1
  · subst h1;exact nH hc h hb
  exact nK hc h hb (by omega)
open Go.RowKit
theorem yu{x:Int}{w:World}:Calls Tryz.prog 164 #[vB x] w (cl (.bool (kP x)) w):=by
 refine en 37 Tryz.func164 rfl<|al 1<|aM 3<|cu 3 [5] 8 (((decide (1≤x))&&(decide (x≤8)))) (fun K i=>?_) ?_
 refine bl 5 ((decide (1≤x))) (fun a=>?_) (fun a=>?_)
 have q:=of_decide_eq_true a
 exact Pl 3<|ce i (decide (x≤8)) (by rw[a];rfl)
 have q:=of_decide_eq_false a
 exact Pl 3<|ce i false (by rw[a];rfl)
 refine Pl 1<|cu 3 [9] 12 ((((decide (1≤x))&&(decide (x≤8)))||(x==11))) (fun K j=>?_) ?_
 refine bl 9 (((decide (1≤x))&&(decide (x≤8)))) (fun d=>?_) (fun d=>?_)
 exact Pl 3<|ce j true (by rw[d];rfl)
 exact Pl 3<|ce j (x==11) (by rw[d];rfl)
 refine Pl 1<|cu 3 [13] 16 (((((decide (1≤x))&&(decide (x≤8)))||(x==11))||(x==12))) (fun K k=>?_) ?_
 refine bl 13 ((((decide (1≤x))&&(decide (x≤8)))||(x==11))) (fun e=>?_) (fun e=>?_)
 exact Pl 3<|ce k true (by rw[e];rfl)
 exact Pl 3<|ce k (x==12) (by rw[e];rfl)
 refine Pl 1<|cu 7 [17] 24 ((((((decide (1≤x))&&(decide (x≤8)))||(x==11))||(x==12))||((decide (15≤x))&&(decide (x≤17))))) (fun K l=>?_) ?_
 refine bl 17 (((((decide (1≤x))&&(decide (x≤8)))||(x==11))||(x==12))) (fun f=>?_) (fun f=>?_)
 exact Pl 7<|ce l true (by rw[f];rfl)
 refine Pl 3<|cu 3 [20] 23 (((decide (15≤x))&&(decide (x≤17)))) (fun K m=>?_) ?_
 refine bl 20 ((decide (15≤x))) (fun b=>?_) (fun b=>?_)
 have r:=of_decide_eq_true b
 exact Pl 3<|ce m (decide (x≤17)) (by rw[b];rfl)
 have r:=of_decide_eq_false b
 exact Pl 3<|ce m false (by rw[b];rfl)
 exact Pl 1<|ce l ((decide (15≤x))&&(decide (x≤17))) (by rw[f];rfl)
 refine Pl 1<|cu 7 [25] 32 (((((((decide (1≤x))&&(decide (x≤8)))||(x==11))||(x==12))||((decide (15≤x))&&(decide (x≤17))))||((decide (20≤x))&&(decide (x≤24))))) (fun K n=>?_) ?_
 refine bl 25 ((((((decide (1≤x))&&(decide (x≤8)))||(x==11))||(x==12))||((decide (15≤x))&&(decide (x≤17))))) (fun g=>?_) (fun g=>?_)
 exact Pl 7<|ce n true (by rw[g];rfl)
 refine Pl 3<|cu 3 [28] 31 (((decide (20≤x))&&(decide (x≤24)))) (fun K o=>?_) ?_
 refine bl 28 ((decide (20≤x))) (fun c=>?_) (fun c=>?_)
 have s:=of_decide_eq_true c
 exact Pl 3<|ce o (decide (x≤24)) (by rw[c];rfl)
 have s:=of_decide_eq_false c
 exact Pl 3<|ce o false (by rw[c];rfl)
 exact Pl 1<|ce n ((decide (20≤x))&&(decide (x≤24))) (by rw[g];rfl)
 refine Pl 1<|cu 3 [33] 36 ((((((((decide (1≤x))&&(decide (x≤8)))||(x==11))||(x==12))||((decide (15≤x))&&(decide (x≤17))))||((decide (20≤x))&&(decide (x≤24))))||(x==43))) (fun K p=>?_) ?_
 refine bl 33 (((((((decide (1≤x))&&(decide (x≤8)))||(x==11))||(x==12))||((decide (15≤x))&&(decide (x≤17))))||((decide (20≤x))&&(decide (x≤24))))) (fun h=>?_) (fun h=>?_)
 exact Pl 3<|ce p true (by rw[h];rfl)
 exact Pl 3<|ce p (x==43) (by rw[h];rfl)
 exact ai 1<|rt<|rr (.bool (((((((decide (1≤x))&&(decide (x≤8)))||(x==11))||(x==12))||((decide (15≤x))&&(decide (x≤17))))||((decide (20≤x))&&(decide (x≤24))))||(x==43)))<|cv (by unfold kP;(try simp only[bi])<;>rfl) ⟨rfl,(aH.refl [] _)⟩
open Go.RowKit
def jO (b:List Int) : aU × Int :=
  if decide ((b.length:Int)<1) then (aU.zero,2)
  else if decide (b.getD 0 0-128<0) then (aU.zero,4)
  else if !(kP ((b.getD 0 0-128)%256)) then (aU.zero,4)
  else if decide ((b.length:Int)<2) then (aU.zero,2)
  else if !(cX (b.getD 1 0)) then (aU.zero,6)
  else if decide (2<(b.length:Int)) then (aU.zero,3)
  else (hG ((b.getD 0 0-128)%256) (b.getD 1 0),0)
theorem Cc{x:Int}:kP x=dZ x:=by
  unfold kP dZ
  rw[Bool.eq_iff_iff]
  simp only[decide_eq_true_eq,List.mem_cons,List.not_mem_nil,or_false,Bool.or_eq_true,Bool.and_eq_true,beq_iff_eq]
  omega
theorem xq(b:List Int) : jO b=fl b:=by
  unfold jO fl
  rw[Cc,show decide ((b.length:Int)<1)=((b.length:Int)==0) from by rw[Bool.eq_iff_iff];simp only[decide_eq_true_eq,beq_iff_eq];omega,show decide (b.getD 0 0-128<0)=decide (b.getD 0 0<128) from by rw[Bool.eq_iff_iff];simp only[decide_eq_true_eq];omega]
  by_cases h:b.length=0
  · rw[show((b.length:Int)==0)=true from by rw[beq_iff_eq];omega];rfl
  · rw[show decide ((b.length:Int)<2)=((b.length:Int)==1) from by rw[Bool.eq_iff_iff];simp only[decide_eq_true_eq,beq_iff_eq];omega]
theorem qi{m:Md}{A:Option Addr}{cp:Nat}{b:List Int}{w:World}(hsl:aZ m w (.slice A b.length cp) b)(hb:b.length≤1048576) :
    Calls Tryz.prog 108 #[.slice A b.length cp] w (cN (.slice A b.length cp) b (jO b) w):=by
 have hln:(b.length:Int)≤1048576:=by omega
 refine en 46 Tryz.func108 rfl<|sg<|aK mZ fun a3 a4 e f n=>ai 1<|sq<|aE 3<|cb ((decide ((b.length:Int)<1))) (fun a=>?_) (fun a=>?_)
 have u:=of_decide_eq_true a
 refine al 1<|aG f mZ fun a5 z B=>ai 1<|aX<|bJ z (vI 2)<|?_
 exact cv (y:=(aU.zero,2)) (by unfold jO;(try simp only[a,bi,Bool.not_eq_true,reduceIte])<;>rfl) (bG (ud n B e))
 have u:=of_decide_eq_false a
 refine bj<|al 1<|?_
 have s:=aZ.old hsl n
 refine ft (aZ.at_ s 0 (by omega)) fun C D E F a6=>L0<|kY b.length 0 E (by omega)<|L0<|eu (p:=⟨C,D+0,none⟩) (v:=vB (b.getD 0 0)) F<|bq (b.getD 0 0)<|bq ((b.getD 0 0)-128)<|ai 1<|sq<|aE 2<|cb ((decide (((b.getD 0 0)-128)<0))) (fun c=>?_) (fun c=>?_)
 have G:=of_decide_eq_true c
 refine al 1<|aG f mZ fun a7 H I=>ai 1<|aX<|bJ H (vI 4)<|?_
 exact cv (y:=(aU.zero,4)) (by unfold jO;(try simp only[a,c,bi,Bool.not_eq_true,reduceIte])<;>rfl) (bG (ud n I e))
 have G:=of_decide_eq_false c
 refine bj<|al 2<|ay<|m1 (yu (x:=(((b.getD 0 0)-128)%256))) fun a8 g=>ai 1<|sq<|al 2<|nl<|tn<|?_
 have q:=aI n g
 refine cb ((!(kP (((b.getD 0 0)-128)%256)))) (fun d=>?_) (fun d=>?_)
 have i:(kP (((b.getD 0 0)-128)%256))=false:=by simpa using d
 refine al 1<|?_
 refine aG (ub g f) mZ fun a9 J K=>ai 1<|aX<|bJ J (vI 4)<|?_
 exact cv (y:=(aU.zero,4)) (by unfold jO;(try simp only[a,c,d,i,bi,Bool.not_eq_true,reduceIte])<;>rfl) (bG (ud q K e))
 have i:(kP (((b.getD 0 0)-128)%256))=true:=by simpa using d
 refine bj<|sq<|aE 3<|cb ((decide ((b.length:Int)<2))) (fun h=>?_) (fun h=>?_)
 have L:=of_decide_eq_true h
 refine al 1<|?_
 refine aG (ub g f) mZ fun aa M N=>ai 1<|aX<|bJ M (vI 2)<|?_
 exact cv (y:=(aU.zero,2)) (by unfold jO;(try simp only[a,c,d,i,h,bi,Bool.not_eq_true,reduceIte])<;>rfl) (bG (ud q N e))
 have L:=of_decide_eq_false h
 refine bj<|al 1<|?_
 have t:=aZ.old s g
 refine ft (aZ.at_ t 1 (by omega)) fun O P Q R ab=>L0<|kY b.length 1 Q (by omega)<|L0<|eu (p:=⟨O,P+1,none⟩) (v:=vB (b.getD 1 0)) R<|ay<|m1 (wA (x:=(b.getD 1 0)) (by omega)) fun ac k=>ai 1<|sq<|aE 2<|?_
 have r:=aI q k
 refine cb ((!(cX (b.getD 1 0)))) (fun j=>?_) (fun j=>?_)
 have o:(cX (b.getD 1 0))=false:=by simpa using j
 refine al 1<|?_
 refine aG (ub (aI g k) f) mZ fun ad S T=>ai 1<|aX<|bJ S (vI 6)<|?_
 exact cv (y:=(aU.zero,6)) (by unfold jO;(try simp only[a,c,d,i,h,j,o,bi,Bool.not_eq_true,reduceIte])<;>rfl) (bG (ud r T e))
 have o:(cX (b.getD 1 0))=true:=by simpa using j
 refine bj<|sq<|aE 3<|cb ((decide (2<(b.length:Int)))) (fun l=>?_) (fun l=>?_)
 have U:=of_decide_eq_true l
 refine al 1<|?_
 refine aG (ub (aI g k) f) mZ fun ae V W=>ai 1<|aX<|bJ V (vI 3)<|?_
 exact cv (y:=(aU.zero,3)) (by unfold jO;(try simp only[a,c,d,i,h,j,o,l,bi,Bool.not_eq_true,reduceIte])<;>rfl) (bG (ud r W e))
 have U:=of_decide_eq_false l
 refine bj<|al 3<|?_
 refine ft (aZ.at_ (aZ.old t k) 1 (by omega)) fun X Y Z a0 af=>L0<|kY b.length 1 Z (by omega)<|L0<|eu (p:=⟨X,Y+1,none⟩) (v:=vB (b.getD 1 0)) a0<|Pl 1<|?_
 refine aG (ub (aI g k) f) (mG (((b.getD 0 0)-128)%256) (b.getD 1 0) 0 0 0 0 0 0 0 0 0 0 nS nS nS nS 0 0 0 0 0 nS) fun ag a1 a2=>ai 1<|rt<|bJ a1 (vI 0)<|?_
 exact cv (y:=((aU.mk (((b.getD 0 0)-128)%256) (b.getD 1 0) 0 0 0 0 0 0 0 0 0 0 [] [] [] [] 0 0 0 0 0 []),0)) (by unfold jO;(try simp only[a,c,d,i,h,j,o,l,bi,Bool.not_eq_true,reduceIte])<;>rfl) ⟨_,rfl,⟨_,_,_,_,_,rfl,aS.nil ..,aS.nil ..,(fun _ _ _=>aS.nil ..),aS.nil ..,aS.nil ..,(cT (by omega))⟩,(ud r a2 e)⟩
theorem mJ{m:Md}{v:Value}{b:List Int}{w:World}(h:aZ m w v b)(hb:b.length≤1048576) : Calls Tryz.prog 108 #[v] w (cN v b (fl b) w):=by
  obtain⟨A,cp,rfl,_,_⟩:=h.shape
  rw[← xq]
  exact qi h hb
open Go.RowKit
theorem iP{x y:aU × Int}(h:x=y){w:World}{e:Ending}{w':World}{v0:Value}{b:List Int}(k:cN v0 b y w e w') : cN v0 b x w e w':=by rw[h];exact k
theorem kF{m:Md}{v:Value}{b:List Int}{w:World}{dir c:Int}(hc:B8 c)(h:aZ m w v b)(hb:b.length≤1048576) :
    Calls Tryz.prog 109 #[.int .i64 dir,.int .u8 c,v] w (cN v b (aj aP dir c b) w):=by
  obtain⟨A,cp,rfl,_,_⟩:=h.shape
  by_cases h0:dir=0
  · subst h0;exact mE hc h hb
  by_cases h1:dir=1
  · subst h1;exact mY hc h hb
  exact mV hc h hb (by omega)
theorem lE{m:Md}{v:Value}{b:List Int}{w:World}{dir c:Int}(hc:B8 c)(h:aZ m w v b)(hb:b.length≤1048576) :
    Calls Tryz.prog 110 #[.int .i64 dir,.int .u8 c,v] w (cN v b (aj aW dir c b) w):=by
  obtain⟨A,cp,rfl,_,_⟩:=h.shape
  by_cases h0:dir=0
  · subst h0;exact o3 hc h hb
  by_cases h1:dir=1
  · subst h1;exact nL hc h hb
  exact o4 hc h hb (by omega)
theorem lG{m:Md}{v:Value}{b:List Int}{w:World}{dir c:Int}(hc:B8 c)(h:aZ m w v b)(hb:b.length≤1048576) :
    Calls Tryz.prog 111 #[.int .i64 dir,.int .u8 c,v] w (cN v b (aj bg dir c b) w):=by
  obtain⟨A,cp,rfl,_,_⟩:=h.shape
  rw[← pL]
  by_cases h0:dir=0
  · subst h0;exact nI hc h hb
  by_cases h1:dir=1
  · subst h1;exact nN hc h hb
  exact nF hc h hb (by omega)
theorem rZ{m:Md}{A:Option Addr}{cp:Nat}{b:List Int}{w:World}{dir:Int}(hsl:aZ m w (.slice A b.length cp) b)(hb:b.length≤1048576) :
    Calls Tryz.prog 78 #[vI dir,.slice A b.length cp] w (cN (.slice A b.length cp) b (cF dir b) w):=by
 have hln:(b.length:Int)≤1048576:=by omega
 refine en 87 Tryz.func78 rfl<|sg<|aK mZ fun bO bP u d i=>ai 1<|sq<|al 3<|cu 3 [11] 14 (((dir != 0)&&(dir != 1))) (fun K U=>?_) ?_
 refine bl 11 ((dir != 0)) (fun D=>?_) (fun D=>?_)
 have aR:=aB D
 exact Pl 3<|ce U (dir != 1) (by rw[D];rfl)
 have aR:=az D
 exact Pl 3<|ce U false (by rw[D];rfl)
 refine nt<|cb (((dir != 0)&&(dir != 1))) (fun f=>?_) (fun f=>?_)
 have aS:=(bC f).1
 have aT:=(bC f).2
 refine al 1<|aG d mZ fun bQ aV aY=>ai 1<|aX<|bJ aV (vI 1)<|?_
 have hs:iq dir b=(aU.zero,1):=by
   unfold iq
   (try simp only[f,aS,aT,bi,fY,reduceIte])
   all_goals rfl
 rw[← gi]
 refine iP hs ?_
 exact bG (ud i aY u)
 refine bj<|sq<|aE 3<|cb (((b.length:Int)==0)) (fun g=>?_) (fun g=>?_)
 have b0:=ag g
 refine al 1<|aG d mZ fun bR b1 b2=>ai 1<|aX<|bJ b1 (vI 2)<|?_
 have hs:iq dir b=(aU.zero,2):=by
   unfold iq
   (try simp only[f,g,bi,fY,reduceIte])
   all_goals rfl
 rw[← gi]
 refine iP hs ?_
 exact bG (ud i b2 u)
 have b0:=au g
 refine bj<|sq<|aE 3<|cb ((decide (253<(b.length:Int)))) (fun j=>?_) (fun j=>?_)
 have b3:=of_decide_eq_true j
 refine al 1<|aG d mZ fun bS b4 b5=>ai 1<|aX<|bJ b4 (vI 3)<|?_
 have hs:iq dir b=(aU.zero,3):=by
   unfold iq
   (try simp only[f,g,j,bi,fY,reduceIte])
   all_goals rfl
 rw[← gi]
 refine iP hs ?_
 exact bG (ud i b5 u)
 have b3:=of_decide_eq_false j
 refine bj<|al 1<|?_
 have E:=aZ.old hsl i
 refine ft (aZ.at_ E 0 (by omega)) fun b6 b9 ba bb bT=>L0<|kY b.length 0 ba (by omega)<|L0<|eu (p:=⟨b6,b9+0,none⟩) (v:=vB (b.getD 0 0)) bb<|ai 1<|sq<|al 3<|cu 3 [29] 32 (((decide (128≤(b.getD 0 0)))&&(dir==1))) (fun K V=>?_) ?_
 refine bl 29 ((decide (128≤(b.getD 0 0)))) (fun F=>?_) (fun F=>?_)
 have bc:=of_decide_eq_true F
 exact Pl 3<|ce V (dir==1) (by rw[F];rfl)
 have bc:=of_decide_eq_false F
 exact Pl 3<|ce V false (by rw[F];rfl)
 refine nt<|cb (((decide (128≤(b.getD 0 0)))&&(dir==1))) (fun x=>?_) (fun x=>?_)
 have bd:=(bC x).1
 have be:=(bC x).2
 refine al 1<|ay<|e2 (mJ E (by omega)) fun bf bV G N=>?_
 refine Pl 2<|?_
 have W:=ub N d
 refine aG (hz:=(by rw[G.size];exact aQ)) (hv:=G.size) (h1:=(cK.one G (aZ.old E N))) W (bf) fun bW bk X=>ai 1<|aX<|fd 22 G.size bk (vI (((fl b)).2))<|?_
 have hs:iq dir b=(fl b):=by
   unfold iq
   (try simp only[f,g,j,x,bd,be,bi,fY,reduceIte])
   all_goals rfl
 rw[← gi]
 refine iP hs ?_
 exact⟨_,rfl,(cK.upd G X (ax (b7 W (by decide)) aN)),(ud i (uz N X) u)⟩
 refine bj<|al 3<|ny (ea (P:=Tryz.prog) 27 5 1 Tryz.underlying27 rfl rfl A b.length cp 1 (by omega)) fun bm hrun54 Y=>L0<|ik (.slice bm (b.length-1) (cp-1)) (et (kl:=.i64) (k:=((1:Nat) : Int)) (A:=A) (n:=b.length) (c:=cp) rfl Tryz.underlying27 (by kernel_rfl) (by kernel_rfl) (hrun54 _ _))<|ay<|e2 (kF (dir:=dir) (c:=(b.getD 0 0)) (b8 (by omega)) (Y _ _ _ _ _ E) (by(try simp only[List.length_drop]);omega)) fun Z bX bn e=>?_
 have I:=aZ.old E e
 have l:=cK.sub bn (fun m' w' q=>(Y _ _ _ _ _ q))
 refine Pl 3<|aK mZ fun bY bZ a bo bp=>aG (hz:=(by rw[l.size];exact aQ)) (hv:=l.size) (h1:=(cK.one l hsl)) bo (Z) fun c0 a0 bq=>ai 1<|sq<|aE 2<|?_
 have J:=ud bp bq a
 have o:=aI e J
 have a1:=aI i o
 refine cb (((((aj aP dir (b.getD 0 0) (b.drop 1))).2)==4)) (fun h=>?_) (fun h=>?_)
 have br:=ag h
 refine go<|Pl 3<|ny (ea (P:=Tryz.prog) 27 5 1 Tryz.underlying27 rfl rfl A b.length cp 1 (by omega)) fun bs hrun75 a2=>L0<|ik (.slice bs (b.length-1) (cp-1)) (et (kl:=.i64) (k:=((1:Nat) : Int)) (A:=A) (n:=b.length) (c:=cp) rfl Tryz.underlying27 (by kernel_rfl) (by kernel_rfl) (hrun75 _ _))<|?_
 refine ay<|e2 (lE (dir:=dir) (c:=(b.getD 0 0)) (b8 (by omega)) (a2 _ _ _ _ _ (aZ.old I J)) (by(try simp only[List.length_drop]);omega)) fun a3 c1 bt O=>?_
 have r:=cK.sub bt (fun m' w' q=>(a2 _ _ _ _ _ q))
 refine Pl 3<|?_
 have a4:=ub O a0
 refine aG (hz:=(by rw[r.size];exact aQ)) (hv:=(Eq.trans r.size (Eq.symm l.size))) (h1:=(cK.one r hsl)) a4 (a3) fun c2 a5 a6=>ai 1<|sq<|aE 2<|?_
 have C:=uz O a6
 have a7:=ud a1 C (le (le i.size e.size) a)
 refine cb (((((aj aW dir (b.getD 0 0) (b.drop 1))).2)==4)) (fun y=>?_) (fun y=>?_)
 have bu:=ag y
 refine go<|Pl 3<|ny (ea (P:=Tryz.prog) 27 5 1 Tryz.underlying27 rfl rfl A b.length cp 1 (by omega)) fun bv hrun92 a8=>L0<|ik (.slice bv (b.length-1) (cp-1)) (et (kl:=.i64) (k:=((1:Nat) : Int)) (A:=A) (n:=b.length) (c:=cp) rfl Tryz.underlying27 (by kernel_rfl) (by kernel_rfl) (hrun92 _ _))<|?_
 have a9:=ud J C a
 refine ay<|e2 (lG (dir:=dir) (c:=(b.getD 0 0)) (b8 (by omega)) (a8 _ _ _ _ _ (aZ.old I a9)) (by(try simp only[List.length_drop]);omega)) fun aa c3 bw Q=>?_
 have s:=cK.sub bw (fun m' w' q=>(a8 _ _ _ _ _ q))
 refine Pl 3<|?_
 have ab:=ub Q a5
 refine aG (hz:=(by rw[s.size];exact aQ)) (hv:=(Eq.trans s.size (Eq.symm r.size))) (h1:=(cK.one s hsl)) ab (aa) fun c4 ad ae=>ai 1<|sq<|aE 2<|?_
 have L:=uz Q ae
 have af:=ud a7 L (le (le i.size e.size) a)
 refine cb (((((aj bg dir (b.getD 0 0) (b.drop 1))).2)==4)) (fun B=>?_) (fun B=>?_)
 have bx:=ag B
 refine go<|Pl 3<|ny (ea (P:=Tryz.prog) 27 5 1 Tryz.underlying27 rfl rfl A b.length cp 1 (by omega)) fun bz hrun110 ah=>L0<|ik (.slice bz (b.length-1) (cp-1)) (et (kl:=.i64) (k:=((1:Nat) : Int)) (A:=A) (n:=b.length) (c:=cp) rfl Tryz.underlying27 (by kernel_rfl) (by kernel_rfl) (hrun110 _ _))<|?_
 have R:=u1 C L im
 have ak:=ud a9 L a
 refine ay<|e2 (kG (dir:=dir) (c:=(b.getD 0 0)) (b8 (by omega)) (ah _ _ _ _ _ (aZ.old I ak)) (by(try simp only[List.length_drop]);omega)) fun am c5 bA S=>?_
 have t:=cK.sub bA (fun m' w' q=>(ah _ _ _ _ _ q))
 refine Pl 3<|?_
 have an:=ub S ad
 refine aG (hz:=(by rw[t.size];exact aQ)) (hv:=(Eq.trans t.size (Eq.symm s.size))) (h1:=(cK.one t hsl)) an (am) fun c6 ao ap=>ai 1<|sq<|aE 2<|?_
 have M:=uz S ap
 have aq:=ud af M (le (le i.size e.size) a)
 refine cb (((((aj bh dir (b.getD 0 0) (b.drop 1))).2)==4)) (fun H=>?_) (fun H=>?_)
 have bB:=ag H
 refine go<|Pl 3<|ny (ea (P:=Tryz.prog) 27 5 1 Tryz.underlying27 rfl rfl A b.length cp 1 (by omega)) fun bD hrun130 ar=>L0<|ik (.slice bD (b.length-1) (cp-1)) (et (kl:=.i64) (k:=((1:Nat) : Int)) (A:=A) (n:=b.length) (c:=cp) rfl Tryz.underlying27 (by kernel_rfl) (by kernel_rfl) (hrun130 _ _))<|?_
 have av:=u1 R M im
 refine ay<|e2 (mO (dir:=dir) (c:=(b.getD 0 0)) (b8 (by omega)) (ar _ _ _ _ _ (aZ.old I (ud ak M a))) (by(try simp only[List.length_drop]);omega)) fun aw c7 bE T=>?_
 have z:=cK.sub bE (fun m' w' q=>(ar _ _ _ _ _ q))
 refine Pl 3<|?_
 have aC:=ub T ao
 refine aG (hz:=(by rw[z.size];exact aQ)) (hv:=(Eq.trans z.size (Eq.symm t.size))) (h1:=(cK.one z hsl)) aC (aw) fun c8 bF aD=>Pl 1<|ng<|L0<|bN (hz:=(by rw[z.size];exact aQ)) bF<|Pl 1<|?_
 have aF:=uz T aD
 refine aG (hz:=(by rw[z.size];exact aQ)) (hv:=z.size) (h1:=(cK.one z hsl)) (ub (ud o (u1 av aF im) (le e.size a)) d) (aw) fun c9 bH aH=>ai 1<|rt<|fd 22 z.size bH (vI (((aj bU dir (b.getD 0 0) (b.drop 1))).2))<|?_
 have hs:iq dir b=(aj bU dir (b.getD 0 0) (b.drop 1)):=by
   unfold iq
   (try simp only[f,g,j,x,h,y,B,H,bi,fY,reduceIte])
   all_goals rfl
 rw[← gi]
 refine iP hs ?_
 exact⟨_,rfl,(cK.upd z (us aD aH) (ax (b7 aC (by decide)) (ax (b7 (ub (ud o (aI av T) (le e.size a)) d) (by decide)) aN))),(ut aq (us aF aH) (ac (ni (le i.size e.size) a) (ac (nr u) aA)))⟩
 have bB:=au H
 refine bj<|sg<|L0<|bN (hz:=(by rw[t.size];exact aQ)) ao<|Pl 1<|?_
 refine aG (hz:=(by rw[t.size];exact aQ)) (hv:=t.size) (h1:=(cK.one t hsl)) (ub (ud o (u1 R M im) (le e.size a)) d) (am) fun ca bI aJ=>ai 1<|rt<|fd 22 t.size bI (vI (((aj bh dir (b.getD 0 0) (b.drop 1))).2))<|?_
 have hs:iq dir b=(aj bh dir (b.getD 0 0) (b.drop 1)):=by
   unfold iq
   (try simp only[f,g,j,x,h,y,B,H,bi,fY,reduceIte])
   all_goals rfl
 rw[← gi]
 refine iP hs ?_
 exact⟨_,rfl,(cK.upd t (us ap aJ) (ax (b7 an (by decide)) (ax (b7 (ub (ud o (aI R S) (le e.size a)) d) (by decide)) aN))),(ud aq aJ u)⟩
 have bx:=au B
 refine bj<|sq<|aE 2<|cf B<|bj<|sg<|L0<|bN (hz:=(by rw[s.size];exact aQ)) ad<|Pl 1<|?_
 refine aG (hz:=(by rw[s.size];exact aQ)) (hv:=s.size) (h1:=(cK.one s hsl)) (ub (ud o (u1 C L im) (le e.size a)) d) (aa) fun cc bK aL=>ai 1<|rt<|fd 22 s.size bK (vI (((aj bg dir (b.getD 0 0) (b.drop 1))).2))<|?_
 have hs:iq dir b=(aj bg dir (b.getD 0 0) (b.drop 1)):=by
   unfold iq
   (try simp only[f,g,j,x,h,y,B,bi,fY,reduceIte])
   all_goals rfl
 rw[← gi]
 refine iP hs ?_
 exact⟨_,rfl,(cK.upd s (us ae aL) (ax (b7 ab (by decide)) (ax (b7 (ub (ud o (aI C Q) (le e.size a)) d) (by decide)) aN))),(ud af aL u)⟩
 have bu:=au y
 refine bj<|sq<|aE 2<|cf y<|bj<|sq<|aE 2<|cf y<|bj<|sg<|L0<|bN (hz:=(by rw[r.size];exact aQ)) a5<|Pl 1<|?_
 refine aG (hz:=(by rw[r.size];exact aQ)) (hv:=r.size) (h1:=(cK.one r hsl)) (ub (ud o C (le e.size a)) d) (a3) fun cd bL aM=>ai 1<|rt<|fd 22 r.size bL (vI (((aj aW dir (b.getD 0 0) (b.drop 1))).2))<|?_
 have hs:iq dir b=(aj aW dir (b.getD 0 0) (b.drop 1)):=by
   unfold iq
   (try simp only[f,g,j,x,h,y,bi,fY,reduceIte])
   all_goals rfl
 rw[← gi]
 refine iP hs ?_
 exact⟨_,rfl,(cK.upd r (us a6 aM) (ax (b7 a4 (by decide)) (ax (b7 (ub (aI o O) d) (by decide)) aN))),(ud a7 aM u)⟩
 have br:=au h
 refine bj<|sq<|aE 2<|cf h<|bj<|sq<|aE 2<|cf h<|bj<|sq<|aE 2<|cf h<|sk<|tn<|sg<|L0<|bN (hz:=(by rw[l.size];exact aQ)) a0<|Pl 1<|?_
 refine aG (hz:=(by rw[l.size];exact aQ)) (hv:=l.size) (h1:=(cK.one l hsl)) (ub o d) (Z) fun cg bM aO=>ai 1<|rt<|fd 22 l.size bM (vI (((aj aP dir (b.getD 0 0) (b.drop 1))).2))<|?_
 have hs:iq dir b=(aj aP dir (b.getD 0 0) (b.drop 1)):=by
   unfold iq
   (try simp only[f,g,j,x,h,bi,fY,reduceIte])
   all_goals rfl
 rw[← gi]
 refine iP hs ?_
 exact⟨_,rfl,(cK.upd l (uz J aO) (ax (b7 (ub e d) (by decide)) aN)),(ud a1 aO u)⟩
theorem eX{m:Md}{v:Value}{b:List Int}{w:World}{dir:Int}(h:aZ m w v b)(hb:b.length≤1048576) : Calls Tryz.prog 78 #[.int .i64 dir,v] w (cN v b (cF dir b) w):=by
  obtain⟨A,cp,rfl,_,_⟩:=h.shape
  exact rZ h hb
open Go.RowKit
def nn (v0:Value)(b:List Int)(res:dt × Int)(w:World)(e:Ending)(w':World) : Prop:=∃ x,e = .returned (.tuple #[.agg (ed res.1.unit res.1.tid res.1.msg x),.int .i64 res.2])∧(cK v0 b w' (fb res.1.msg x).toList res.1.msg∧(0≤res.1.unit∧res.1.unit<256)∧(0≤res.1.tid∧res.1.tid<65536))∧aH [] w w'
theorem fe{x y:dt × Int}(h:x=y){w:World}{e:Ending}{w':World}{v0:Value}{b:List Int}(k:nn v0 b y w e w') : nn v0 b x w e w':=by rw[h];exact k
def Et:SL:=⟨none,0,none,0,none,0,none,0,none,0⟩
theorem ex{v0:Value}{b:List Int}{x:Int}{w W:World}(hu:aH [] w W) : nn v0 b (dt.zero,x) w (.returned (.tuple #[.agg rU,.int .i64 x])) W:=⟨Et,(by kernel_rfl),⟨cK.zero v0 b W,(show(0:Int)≤0∧(0:Int)<256 from by decide),(show(0:Int)≤0∧(0:Int)<65536 from by decide)⟩,hu⟩
theorem iG{m:Md}{v:Value}{b:List Int}{w:World}{dir:Int}{M:aU}{E:Int}(hX:cF dir b=(M,E))(h:aZ m w v b)(hb:b.length≤1048576) : Calls Tryz.prog 78 #[.int .i64 dir,v] w (fun e w'=>∃ x,e = .returned (.tuple #[.agg (fb M x),.int .i64 E])∧cK v b w' (fb M x).toList M∧aH [] w w'):=by
  refine(eX h hb).mono ?_
  rintro e w' ⟨cs,rfl,h1,h2⟩
  rw[hX] at h1 ⊢
  obtain⟨x,rfl⟩:=n8 (h1.rd (aZ.old h h2))
  exact⟨x,rfl,h1,h2⟩
end Go.Proofs.YtdkhbcefkfgbdaaGreat
namespace Go.Proofs.YtdkhbcefkfgbdaaGreat
theorem tY(a b k:Nat) : (a ^^^ b)/2 ^ k=(a/2 ^ k) ^^^ (b/2 ^ k):=by
  rw[← Nat.shiftRight_eq_div_pow,Nat.shiftRight_xor_distrib,Nat.shiftRight_eq_div_pow,Nat.shiftRight_eq_div_pow]
theorem yv(x z:Nat) : ky (x ^^^ 2*z)=ky x ^^^ z:=by
  unfold ky
  have h1:(x ^^^ 2*z)/2=(x/2) ^^^ z:=by
    have:=tY x (2*z) 1
    rw[show(2:Nat) ^ 1=2 from rfl] at this
    rw[this,show 2*z/2=z from by omega]
  have h2:(x ^^^ 2*z)%2=x%2:=by
    have:=Nat.xor_mod_two_pow (a:=x) (b:=2*z) (n:=1)
    rw[show(2:Nat) ^ 1=2 from rfl] at this
    rw[this,show 2*z%2=0 from by omega,Nat.xor_zero]
  rw[h1,h2,Nat.xor_assoc,Nat.xor_comm z,← Nat.xor_assoc]
theorem s3(x:Nat) : ∀ (k h:Nat),fT k (x ^^^ 2 ^ k*h)=fT k x ^^^ h
  | 0,h=>by show x ^^^ 2 ^ 0*h=x ^^^ h;rw[Nat.pow_zero,Nat.one_mul]
  | k+1,h=>by
    show ky (fT k (x ^^^ 2 ^ (k+1)*h))=ky (fT k x) ^^^ h
    rw[Nat.pow_succ,Nat.mul_assoc,s3 x k (2*h),yv]
theorem yA(s:Nat) : (s%256) ^^^ (2 ^ 8*(s/256))=s:=by
  have h1:=Nat.xor_mod_two_pow (a:=s%256) (b:=2 ^ 8*(s/256)) (n:=8)
  have h2:=tY (s%256) (2 ^ 8*(s/256)) 8
  rw[show(2:Nat) ^ 8=256 from rfl] at *
  rw[show 256*(s/256)%256=0 from by omega,Nat.xor_zero] at h1
  rw[show s%256/256=0 from by omega,Nat.zero_xor] at h2
  omega
theorem sM(s c:Nat) : fT 8 (s ^^^ c)=tJ s c:=by
  have h:=s3 ((s%256) ^^^ c) 8 (s/256)
  rw[Nat.xor_assoc,Nat.xor_comm c,← Nat.xor_assoc,yA] at h
  rw[h,Nat.xor_comm]
  rfl
theorem rA{n:Nat}(hn:n<65536) : (if n%2=1 then (n/2) ^^^ 40961 else n/2)=ky n:=by
  unfold ky
  split
  · rename_i h;rw[h]
  · rename_i h;rw[show n%2=0 from by omega,Nat.zero_mul,Nat.xor_zero]
open Go.RowKit
theorem xK{c:Int}{n:Nat}(h:c=(n:Int))(hn:n<65536)(q:(c%2==1)=true) : xi (c/2) 40961=((ky n:Nat) : Int):=by
  have q2:c%2=1:=by simpa using q
  rw[← rA hn,if_pos (by omega)]
  unfold xi
  rw[show(c/2).toNat=n/2 from by omega]
  rfl
theorem xr{c:Int}{n:Nat}(h:c=(n:Int))(hn:n<65536)(q:(c%2==1)=false) : c/2=((ky n:Nat) : Int):=by
  have q2:¬ c%2=1:=by simpa using q
  rw[← rA hn,if_neg (by omega)]
  omega
theorem v7{s:Int}{b:List Int}{i:Nat}(hs:0≤ew s b i∧ew s b i<65536)(hb:0≤b.getD i 0∧b.getD i 0<256){c:Int}(h:c=((fT 8 ((ew s b i).toNat ^^^ (b.getD i 0).toNat) : Nat) : Int)) : c=ew s b (i+1):=by
  rw[h,sM,← s0 hs hb]
  rfl
theorem zo{a c:Int}(ha:0≤a∧a<65536)(hc:0≤c∧c<256) : a.toNat ^^^ c.toNat<65536:=mh (by omega) (by omega)
theorem vk{l:List Int}{i:Nat}(h:i<l.length) : l.getD i 0∈l:=by
  rw[List.getD_eq_getElem?_getD,List.getElem?_eq_getElem h]
  exact List.getElem_mem h
theorem C9{m:Md}{A:Option Addr}{cp:Nat}{b:List Int}{w:World}{s:Int}(hsl:aZ m w (.slice A b.length cp) b)(hs:0≤s∧s<65536) :
    Calls Tryz.prog 189 #[vW s,.slice A b.length cp] w (cl (vW (ch s b)) w):=by
 have hln:=aS.len hsl
 have hb:=aZ.range hsl
 refine en 34 Tryz.func189 rfl<|aE 1<|sq<|aE 1<|bk<|jf (fun x=>[(0,vW x.2),(1,.slice A b.length cp),(4,vW 0),(5,vI (x.1:Int))]) (fun(x:Nat × Int) w'=>aH [] w w'∧(x.1≤b.length)∧(x.2=ew s b x.1)∧(0≤x.2∧x.2<65536)) (fun x=>b.length-x.1) (0,s) ⟨aH.refl _ _,(by(try dsimp only);omega),rfl,hs⟩ ?_
 rintro⟨i,c⟩ r ⟨f,t,u,y⟩
 refine je [(0,vW c),(1,.slice A b.length cp),(4,vW 0),(5,vI (i:Int))] ?_
 have H:i≤b.length:=t
 have q:c=ew s b i:=u
 have I:0≤c∧c<65536:=y
 have hcr:0≤ew s b i∧ew s b i<65536:=kL hs hb _
 refine sq<|aE 4<|cb ((decide ((i:Int)<(b.length:Int)))) (fun g=>?_) (fun g=>?_)
 have z:=of_decide_eq_true g
 refine bj<|sq<|bk<|al 3<|?_
 refine ft (aZ.at_ (aZ.old hsl f) i (by omega)) fun h j B C J=>L0<|kY b.length i B (by omega)<|L0<|eu (p:=⟨h,j+i,none⟩) (v:=vB (b.getD i 0)) C<|L0<|BA (b.getD i 0)<|?_
 have K:=CT (a:=c) (b:=(b.getD i 0)) (by omega) (by omega)
 refine L0<|Oe (vW (bits .xor .u16 c (b.getD i 0))) (vW (xi c (b.getD i 0))) (congrArg (Value.int .u16) (pp (by omega) (by omega)))<|Pl 1<|cE 1<|bk<|?_
 have hbr:0≤b.getD i 0∧b.getD i 0<256:=hb _ (vk (by omega))
 have hxl:=zo hcr hbr
 refine jf (fun x=>[(0,vW x.2),(1,.slice A b.length cp),(4,vW 0),(5,vI (i:Int)),(6,vI (x.1:Int)),(8,vI (i:Int)),(9,.slice A b.length cp),(10,vI (b.length:Int)),(11,.bool (decide ((i:Int)<(b.length:Int)))),(14,vW c),(15,.slice A b.length cp),(16,vI (i:Int)),(17,.pointer (some (⟨h,j+i,none⟩))),(18,vB (b.getD i 0)),(19,vW (b.getD i 0)),(20,vW (xi c (b.getD i 0)))]) (fun(x:Nat × Int) w'=>aH [] r w'∧(x.1≤8)∧(x.2=((fT x.1 ((ew s b i).toNat ^^^ (b.getD i 0).toNat) : Nat) : Int))) (fun x=>8-x.1) (0,(xi c (b.getD i 0))) ⟨aH.refl _ _,(by(try dsimp only);omega),(by(try dsimp only);rw[q];rfl)⟩ ?_
 rintro⟨k,d⟩ L ⟨l,D,E⟩
 refine je [(0,vW d),(1,.slice A b.length cp),(4,vW 0),(5,vI (i:Int)),(6,vI (k:Int)),(8,vI (i:Int)),(9,.slice A b.length cp),(10,vI (b.length:Int)),(11,.bool (decide ((i:Int)<(b.length:Int)))),(14,vW c),(15,.slice A b.length cp),(16,vI (i:Int)),(17,.pointer (some (⟨h,j+i,none⟩))),(18,vB (b.getD i 0)),(19,vW (b.getD i 0)),(20,vW (xi c (b.getD i 0)))] ?_
 have M:k≤8:=D
 have n:d=((fT k ((ew s b i).toNat ^^^ (b.getD i 0).toNat) : Nat) : Int):=E
 have hkl:=jy hxl k
 refine sq<|aE 2<|?_
 refine cb ((decide ((k:Int)<8))) (fun o=>?_) (fun o=>?_)
 have F:=of_decide_eq_true o
 refine bj<|sq<|bk<|al 1<|L0<|Oe (vW (Int.tmod d 2)) (vW (d%2)) (congrArg (Value.int .u16) (Int.tmod_eq_emod_of_nonneg (by omega)))<|Pl 2<|aM 1<|L0<|Oe (vW (IntKind.u16.wrap (Int.tdiv d 2))) (vW (d/2)) (congrArg (Value.int .u16) (lX (by omega) (by omega)))<|Pl 1<|cE 1<|cb (((d%2)==1)) (fun e=>?_) (fun e=>?_)
 have G:=ag e
 refine go<|Pl 1<|?_
 have N:=CT (a:=(d/2)) (b:=40961) (by omega) (by omega)
 exact L0<|Oe (vW (bits .xor .u16 (d/2) 40961)) (vW (xi (d/2) 40961)) (congrArg (Value.int .u16) (pp (by omega) (by omega)))<|Pl 1<|nl<|bn<|tn<|go<|Pl 1<|bq ((k:Int)+1)<|Pl 1<|nl<|gI ((k+1),(xi (d/2) 40961)) ⟨l,(by(try dsimp only);omega),(xK n (jy hxl k) e)⟩ (by omega)
 have G:=au e
 exact sk<|bn<|tn<|go<|Pl 1<|bq ((k:Int)+1)<|Pl 1<|nl<|gI ((k+1),(d/2)) ⟨l,(by(try dsimp only);omega),(xr n (jy hxl k) e)⟩ (by omega)
 have F:=of_decide_eq_false o
 refine xt<|tx<|tx<|bx<|bn<|tn<|go<|Pl 1<|bq ((i:Int)+1)<|Pl 1<|nl<|?_
 have hc8:d=ew s b (i+1):=v7 hcr hbr (by rw[n,show k=8 from by omega])
 exact gI ((i+1),d) ⟨(aI f l),(by(try dsimp only);omega),hc8,(by(try dsimp only);rw[hc8];exact kL hs hb _)⟩ (by omega)
 have z:=of_decide_eq_false g
 refine xt<|tx<|tx<|bx<|tn<|aE 2<|rt<|rr (vW c)<|?_
 have hk:c=ch s b:=by rw[q];exact qg (by omega)
 rw[← hk]
 exact⟨rfl,f⟩
theorem Bn{m:Md}{v:Value}{b:List Int}{w:World}(h:aZ m w v b) : Calls Tryz.prog 189 #[.int .u16 65535,v] w (cl (.int .u16 (ch 65535 b)) w):=by
  obtain⟨A,cp,rfl,_,_⟩:=h.shape
  exact C9 h (by decide)
theorem ul{b:List Int}(h:2≤b.length)(hb:∀ x,x∈b→0≤x∧x<256) : dF b=((b.getD (((b.length:Nat) : Int)-2).toNat 0==(ch 65535 (b.take (((b.length:Nat) : Int)-2).toNat)%256)%256)&&(b.getD (((b.length:Nat) : Int)-1).toNat 0==(ch 65535 (b.take (((b.length:Nat) : Int)-2).toNat)/256)%256)):=by
  unfold dF cj
  rw[decide_eq_true h,Bool.true_and,show(((b.length:Nat) : Int)-2).toNat=b.length-2 from by omega,show(((b.length:Nat) : Int)-1).toNat=b.length-2+1 from by omega]
  have e:b.drop (b.length-2)=[b.getD (b.length-2) 0,b.getD (b.length-2+1) 0]:=by
    apply List.ext_getElem
    · simp;omega
    · intro i h1 h2
      simp only[List.length_cons,List.length_nil] at h2
      rw[List.getElem_drop]
      rcases i with _|_|i
      · simp[List.getD_eq_getElem?_getD,List.getElem?_eq_getElem (show b.length-2<b.length by omega)]
      · simp[List.getD_eq_getElem?_getD,List.getElem?_eq_getElem (show b.length-2+1<b.length by omega)]
      · omega
  rw[e,Bool.eq_iff_iff]
  simp only[decide_eq_true_eq,List.cons.injEq,and_true,Bool.and_eq_true,beq_iff_eq]
  constructor
  · rintro⟨h1,h2⟩
    exact⟨by rw[← h1];omega,by rw[← h2]⟩
  · rintro⟨h1,h2⟩
    exact⟨by rw[h1];omega,by rw[h2]⟩
theorem Dy{m:Md}{A:Option Addr}{cp:Nat}{b:List Int}{w:World}(hsl:aZ m w (.slice A b.length cp) b)(hl:b.length≤1048576)(hcp:b.length≤cp) :
    Calls Tryz.prog 127 #[.slice A b.length cp] w (cl (.bool (dF b)) w):=by
 have hln:=aS.len hsl
 have hb:=aZ.range hsl
 refine en 34 Tryz.func127 rfl<|al 1<|cE 3<|sq<|aE 2<|cb ((decide ((b.length:Int)<2))) (fun a=>?_) (fun a=>?_)
 have i:=of_decide_eq_true a
 refine aE 1<|aX<|rr (.bool false)<|?_
 have hs:dF b=false:=by unfold dF;rw[decide_eq_false (by omega)];rfl
 rw[hs]
 exact⟨rfl,(aH.refl [] _)⟩
 have i:=of_decide_eq_false a
 refine bj<|al 2<|bq ((b.length:Int)-2)<|ny (Bo (P:=Tryz.prog) 27 5 1 Tryz.underlying27 rfl rfl A b.length cp (k:=((b.length:Int)-2)) ((((b.length:Int)-2)).toNat) (by omega) (by omega) (by omega)) fun f hrun12 g=>L0<|ik (.slice f ((((b.length:Int)-2)).toNat) cp) (rq (kl:=.i64) (k:=((b.length:Int)-2)) (A:=A) (n:=b.length) (c:=cp) rfl Tryz.underlying27 (by kernel_rfl) (by kernel_rfl) (hrun12 _ _))<|ay (args:=#[vW 65535,.slice f ((((b.length:Int)-2)).toNat) cp])<|m1 (Bn (g _ _ _ _ _ hsl)) fun z e=>?_
 have B:=ip (b.take ((((b.length:Int)-2)).toNat)) (s:=65535) (by decide) (aZ.range (g _ _ _ _ _ hsl))
 refine Pl 1<|aM 2<|bq ((b.length:Int)-2)<|?_
 have h:=aZ.old hsl e
 refine ft (aZ.at_ h ((((b.length:Int)-2)).toNat) (by omega)) fun j l o q C=>L0<|wn b.length ((((b.length:Int)-2)).toNat) ((b.length:Int)-2) (by omega) o (by omega)<|L0<|eu (p:=⟨j,l+((((b.length:Int)-2)).toNat),none⟩) (v:=vB (b.getD ((((b.length:Int)-2)).toNat) 0)) q<|Pl 1<|L0<|Oe (vW (Int.tmod (ch 65535 (b.take ((((b.length:Int)-2)).toNat))) 256)) (vW ((ch 65535 (b.take ((((b.length:Int)-2)).toNat)))%256)) (congrArg (Value.int .u16) (Int.tmod_eq_emod_of_nonneg (by omega)))<|Pl 3<|bl 23 (((b.getD ((((b.length:Int)-2)).toNat) 0)==(((ch 65535 (b.take ((((b.length:Int)-2)).toNat)))%256)%256))) (fun d=>?_) (fun d=>?_)
 have r:=ag d
 refine Pl 2<|L1<|Oi ((b.length:Int)-1)<|ft (aZ.at_ h ((((b.length:Int)-1)).toNat) (by omega)) fun t u x y D=>L1<|wn b.length ((((b.length:Int)-1)).toNat) ((b.length:Int)-1) (by omega) x (by omega)<|L1<|eu (p:=⟨t,u+((((b.length:Int)-1)).toNat),none⟩) (v:=vB (b.getD ((((b.length:Int)-1)).toNat) 0)) y<|Pl 1<|L1<|Oe (vW (IntKind.u16.wrap (Int.tdiv (ch 65535 (b.take ((((b.length:Int)-2)).toNat))) 256))) (vW ((ch 65535 (b.take ((((b.length:Int)-2)).toNat)))/256)) (congrArg (Value.int .u16) (lX (by omega) (by omega)))<|ai 4<|rt<|rr (.bool ((b.getD ((((b.length:Int)-1)).toNat) 0)==(((ch 65535 (b.take ((((b.length:Int)-2)).toNat)))/256)%256)))<|?_
 have hs:dF b=((b.getD ((((b.length:Int)-1)).toNat) 0)==(((ch 65535 (b.take ((((b.length:Int)-2)).toNat)))/256)%256)):=by rw[ul (by omega) hb];(try simp only[a,d,bi]);all_goals rfl
 rw[hs]
 exact⟨rfl,e⟩
 have r:=au d
 refine ai 11<|rt<|rr (.bool false)<|?_
 have hs:dF b=false:=by rw[ul (by omega) hb];(try simp only[a,d,bi]);all_goals rfl
 rw[hs]
 exact⟨rfl,e⟩
theorem Ev{m:Md}{v:Value}{b:List Int}{w:World}(h:aZ m w v b)(hb:b.length≤1048576) : Calls Tryz.prog 127 #[v] w (cl (.bool (dF b)) w):=by
  obtain⟨A,cp,rfl,hc,_⟩:=h.shape
  exact Dy h hb hc
open Go.RowKit
theorem ri{m:Md}{A:Option Addr}{cp:Nat}{b:List Int}{w:World}{dir:Int}(hsl:aZ m w (.slice A b.length cp) b)(hb:b.length≤1048576)(hcp:b.length≤cp) :
    Calls Tryz.prog 88 #[vI dir,.slice A b.length cp] w (nn (.slice A b.length cp) b (ei dir b) w):=by
 have hln:(b.length:Int)≤1048576:=by omega
 have hrb:=aZ.range hsl
 refine en 49 Tryz.func88 rfl<|sg<|aK #[vB 0,vW 0,vB 0,vB 0,vW 0,vW 0,vW 0,vW 0,vW 0,vW 0,vW 0,vW 0,vW 0,vW 0,nS,nS,nS,nS,vB 0,vB 0,vB 0,vB 0,vB 0,nS] fun an ap j e o=>Pl 1<|cE 3<|sq<|sq<|go<|Pl 3<|cu 3 [14] 17 (((dir != 0)&&(dir != 1))) (fun K B=>?_) ?_
 refine bl 14 ((dir != 0)) (fun p=>?_) (fun p=>?_)
 have T:=aB p
 exact Pl 3<|ce B (dir != 1) (by rw[p];rfl)
 have T:=az p
 exact Pl 3<|ce B false (by rw[p];rfl)
 refine nt<|cb (((dir != 0)&&(dir != 1))) (fun d=>?_) (fun d=>?_)
 have C:=(bC d).1
 have D:=(bC d).2
 have au:=aB C
 have av:=aB D
 refine al 1<|aG e #[vB 0,vW 0,vB 0,vB 0,vW 0,vW 0,vW 0,vW 0,vW 0,vW 0,vW 0,vW 0,vW 0,vW 0,nS,nS,nS,nS,vB 0,vB 0,vB 0,vB 0,vB 0,nS] fun aA U V=>ai 1<|aX<|bJ U (vI 1)<|?_
 have hs:ei dir b=(dt.zero,1):=by
   unfold ei
   (try simp only[d,C,D,bi,cw,reduceIte])
   all_goals rfl
 refine fe hs ?_
 exact ex (ud o V j)
 refine bj<|sq<|aE 2<|cb ((decide ((b.length:Int)<4))) (fun f=>?_) (fun f=>?_)
 have W:=of_decide_eq_true f
 refine al 1<|aG e #[vB 0,vW 0,vB 0,vB 0,vW 0,vW 0,vW 0,vW 0,vW 0,vW 0,vW 0,vW 0,vW 0,vW 0,nS,nS,nS,nS,vB 0,vB 0,vB 0,vB 0,vB 0,nS] fun aC X Y=>ai 1<|aX<|bJ X (vI 2)<|?_
 have hs:ei dir b=(dt.zero,2):=by
   unfold ei
   (try simp only[d,f,bi,cw,reduceIte])
   all_goals rfl
 refine fe hs ?_
 exact ex (ud o Y j)
 have W:=of_decide_eq_false f
 refine bj<|sq<|aE 2<|cb ((decide (256<(b.length:Int)))) (fun h=>?_) (fun h=>?_)
 have Z:=of_decide_eq_true h
 refine al 1<|aG e #[vB 0,vW 0,vB 0,vB 0,vW 0,vW 0,vW 0,vW 0,vW 0,vW 0,vW 0,vW 0,vW 0,vW 0,nS,nS,nS,nS,vB 0,vB 0,vB 0,vB 0,vB 0,nS] fun aD a0 a1=>ai 1<|aX<|bJ a0 (vI 3)<|?_
 have hs:ei dir b=(dt.zero,3):=by
   unfold ei
   (try simp only[d,f,h,bi,cw,reduceIte])
   all_goals rfl
 refine fe hs ?_
 exact ex (ud o a1 j)
 have Z:=of_decide_eq_false h
 refine bj<|al 1<|?_
 have E:=aZ.old hsl o
 refine ay (args:=#[.slice A b.length cp])<|m1 (Ev E (by omega)) fun aF i=>ai 1<|sq<|aE 2<|?_
 have F:=aI o i
 refine cb ((!(dF b))) (fun k=>?_) (fun k=>?_)
 have t:(dF b)=false:=by simpa using k
 refine al 1<|?_
 refine aG (ub i e) #[vB 0,vW 0,vB 0,vB 0,vW 0,vW 0,vW 0,vW 0,vW 0,vW 0,vW 0,vW 0,vW 0,vW 0,nS,nS,nS,nS,vB 0,vB 0,vB 0,vB 0,vB 0,nS] fun aH a2 a3=>ai 1<|aX<|bJ a2 (vI 10)<|?_
 have hs:ei dir b=(dt.zero,10):=by
   unfold ei
   (try simp only[d,f,h,k,t,bi,cw,reduceIte])
   all_goals rfl
 refine fe hs ?_
 exact ex (ud F a3 j)
 have t:(dF b)=true:=by simpa using k
 refine bj<|al 3<|bq ((b.length:Int)-2)<|ny (gW (P:=Tryz.prog) 27 5 1 Tryz.underlying27 rfl rfl A b.length cp (lo:=1) (up:=((b.length:Int)-2)) 1 ((((b.length:Int)-2)).toNat) (by omega) (by omega) (by omega) (by omega) (by omega)) fun a4 hrun43 G=>L0<|ik (.slice a4 (((((b.length:Int)-2)).toNat)-1) (cp-1)) (fa (kl:=.i64) (kh:=.i64) (lo:=1) (hi:=((b.length:Int)-2)) (A:=A) (n:=b.length) (c:=cp) rfl Tryz.underlying27 (by kernel_rfl) (by kernel_rfl) (by kernel_rfl) (hrun43 _ _ _))<|?_
 have H:=aZ.old E i
 refine pr (cF dir ((b.take ((((b.length:Int)-2)).toNat)).drop 1)) fun a r y=>?_
 refine ay<|e2 (iG y (G _ _ _ _ _ H) (by rw[List.length_drop,List.length_take];omega)) fun x49 aJ a5 z=>?_
 have a6:=cK.sub a5 (fun m' w' q=>(G _ _ _ _ _ q))
 refine Pl 3<|aK mZ fun I aL J a7 a8=>aG a7 (fb a x49) fun aM a9 aa=>ai 1<|sq<|aE 2<|?_
 have L:=ud a8 aa J
 have u:=aI z L
 have M:=aI F u
 refine cb ((r != 0)) (fun s=>?_) (fun s=>?_)
 have ac:=aB s
 refine al 2<|?_
 refine aG (ub (aI i u) e) #[vB 0,vW 0,vB 0,vB 0,vW 0,vW 0,vW 0,vW 0,vW 0,vW 0,vW 0,vW 0,vW 0,vW 0,nS,nS,nS,nS,vB 0,vB 0,vB 0,vB 0,vB 0,nS] fun aO ae af=>ai 1<|aX<|bJ ae (vI r)<|?_
 have hX2:cF dir (ga b)=(a,r):=(congrArg (cF dir) (iI b)).trans y
 have hs:ei dir b=(dt.zero,r):=by
   unfold ei
   (try simp only[d,f,h,k,t,s,bi,cw,hX2,reduceIte])
   all_goals rfl
 refine fe hs ?_
 exact ex (ud M af j)
 have ac:=az s
 refine bj<|sq<|?_
 refine ft (aZ.at_ (aZ.old H u) 0 (by omega)) fun ag ah N aj aP=>Rg 8 (fun w'=>w'.cell? ⟨ag,ah+0,none⟩=some (vB (b.getD 0 0))∧w'.heap[I]? = some (.cells (fb a x49) 45 (0,0))) fun aQ v=>?_
 have O:=ub v a9
 refine bo ⟨(uc v aj),O⟩ fun l=>Rt 0 l<|lS 1 l b.length 0 0 rfl N (by omega)<|Rl 2 l (fun _ hs=>hs.1)<|Rt 3 l<|Rr 4 l (.agg (fb a x49)) (fun w' hs=>iw (g:=I) (off:=0) [vB a.code,vB a.fail,vW a.addr,vW a.count,vW a.value,vW a.and_,vW a.or_,vW a.addr2,vW a.sub,vW a.status,vW a.events,vW a.messages,.slice x49.aw a.words.length x49.kw,.slice x49.ab a.bits.length x49.kb,.slice x49.ad a.data.length x49.kd,.slice x49.ar a.recs.length x49.kr,vB a.mei,vB a.kind,vB a.level,vB a.more,vB a.next,.slice x49.ao a.objects.length x49.ko] rfl (by kernel_rfl) hs.2 (by kernel_rfl) (by kernel_rfl) rfl)<|Rt 5 l<|?_
 refine R0 6 rfl<|gJ (ub (aI i (aI u v)) e) (ed (b.getD 0 0) 0 a x49) fun aR ak Q=>?_
 have R:=uz v Q
 have S:=ud M R j
 refine bo ⟨(cB (aZ.old hsl S) N 0 (by omega)),(be Q (Ne.symm (nb (aq e) (le i.size z.size) J)) O)⟩ fun am=>Rt 7 am<|re<|tn<|rt<|bJ ak (vI 0)<|?_
 have hX2:cF dir (ga b)=(a,r):=(congrArg (cF dir) (iI b)).trans y
 have hs:ei dir b=(⟨(b.getD 0 0),0,a⟩,0):=by
   unfold ei
   (try simp only[d,f,h,k,t,s,bi,cw,hX2,reduceIte])
   all_goals rfl
 refine fe hs ?_
 exact⟨x49,rfl,⟨(cK.upd a6 (uz L R) (ax (b7 (ub (aI i z) e) (by decide)) aN)),b8 (x:=(b.getD 0 0)) (by omega),cP (x:=0) (by omega)⟩,S⟩
theorem tk{m:Md}{v:Value}{b:List Int}{w:World}{dir:Int}(h:aZ m w v b)(hb:b.length≤1048576) : Calls Tryz.prog 88 #[.int .i64 dir,v] w (nn v b (ei dir b) w):=by
  obtain⟨A,cp,rfl,hc,_⟩:=h.shape
  exact ri h hb hc
theorem p3{m:Md}{v:Value}{b:List Int}{w:World}{dir:Int}{F:dt}{E:Int}(hX:ei dir b=(F,E))(h:aZ m w v b)(hb:b.length≤1048576) : Calls Tryz.prog 88 #[.int .i64 dir,v] w (fun e w'=>∃ x,e = .returned (.tuple #[.agg (ed F.unit F.tid F.msg x),.int .i64 E])∧(cK v b w' (fb F.msg x).toList F.msg∧(0≤F.unit∧F.unit<256)∧(0≤F.tid∧F.tid<65536))∧aH [] w w'):=by
  refine(tk h hb).mono ?_
  rintro e w' ⟨x,rfl,h1,h2⟩
  rw[hX] at h1 ⊢
  exact⟨x,rfl,h1,h2⟩
open Go.RowKit
theorem wy{xs L:List Int}{k:Nat}(h:L=aO (xs.take k))(h1:¬ ((k:Nat) : Int)<((xs.length:Nat) : Int)) : L=aO xs:=by
  rw[h,List.take_of_length_le (by omega)]
theorem D5{m:Md}{A:Option Addr}{cp:Nat}{xs:List Int}{w:World}(h:ey m w (.slice A xs.length cp) xs)(hn:xs.length≤1048576) : Calls Tryz.prog 129 #[.slice A xs.length cp] w (BP xs w):=by
 refine en 27 Tryz.func129 rfl<|al 1<|cE 1<|sq<|aE 1<|bk<|jf (fun x=>[(0,.slice A xs.length cp),(2,nS),(3,.slice x.2.2.1 x.2.1.length x.2.2.2),(4,vI (x.1:Int))]) (fun(x:Nat × List Int × Option Addr × Nat) w'=>aH [] w w'∧eG w.heap.size w' (.slice x.2.2.1 x.2.1.length x.2.2.2) x.2.1∧(x.1≤xs.length)∧(x.2.1=aO (xs.take x.1))) (fun x=>xs.length-x.1) (0,[],none,0) ⟨aH.refl _ _,(b6.nil w.heap.size _ _ wx _),(by(try dsimp only);omega),rfl⟩ ?_
 rintro⟨k,L,B,cq⟩ o ⟨b,p,q,r⟩
 refine je [(0,.slice A xs.length cp),(2,nS),(3,.slice B L.length cq),(4,vI (k:Int))] ?_
 have d:eG w.heap.size o (.slice B L.length cq) L:=p
 have H:k≤xs.length:=q
 have I:L=aO (xs.take k):=r
 have hL:L=aO (xs.take k):=by assumption
 have hLn:L.length=2*k:=by rw[hL,aC,List.length_take];omega
 refine sq<|aE 4<|cb ((decide ((k:Int)<(xs.length:Int)))) (fun c=>?_) (fun c=>?_)
 have s:=of_decide_eq_true c
 refine bj<|sq<|bk<|?_
 refine ft (ey.at_ (ey.old h b) k (by omega)) fun t u f j J=>Rg 16 (fun w'=>w'.cell? ⟨t,u+k,none⟩=some (vW (xs.getD k 0))) fun K g=>bo (uc g j) fun a=>Rt 0 a<|Rt 1 a<|Rt 2 a<|lS 3 a xs.length k (k:Int) rfl f (by omega)<|Rl 4 a (fun _ hs=>hs)<|Rr 5 a (vW ((xs.getD k 0)/256)) (fun _ _=>bX (vW (IntKind.u16.wrap (Int.tdiv (xs.getD k 0) 256))) (by kernel_rfl) (congrArg (Value.int .u16) (lX (by omega) (by omega))))<|Rt 6 a<|Rt 7 a<|Rt 8 a<|lS 9 a xs.length k (k:Int) rfl f (by omega)<|Rl 10 a (fun _ hs=>hs)<|Rr 11 a (vW ((xs.getD k 0)%256)) (fun _ _=>bX (vW (Int.tmod (xs.getD k 0) 256)) (by kernel_rfl) (congrArg (Value.int .u16) (Int.tmod_eq_emod_of_nonneg (by omega))))<|Rt 12 a<|R0 13 rfl<|cY (m:=2) (e:=5) #[vB (((xs.getD k 0)/256)%256),vB (((xs.getD k 0)%256)%256)] fun M N v y l=>?_
 have z:=cG v (xs:=[(((xs.getD k 0)/256)%256),(((xs.getD k 0)%256)%256)]) (by as_aux_lemma=>kernel_rfl) (am (by omega) (am (by omega) aR)) (by(try simp only[List.length_cons,List.length_nil]);omega) y
 have i:=aI g l
 refine bo (uc i j) fun O=>?_
 refine R0 14 rfl<|bQ b9 (xs:=L) (ys:=([(((xs.getD k 0)/256)%256),(((xs.getD k 0)%256)%256)])) (vB 0) 1 (av d i (fun x hx=>aF) (fun _ _ h=>h)) (z).rd (by(try simp only[bT,aC]);omega) (le (le b.size g.size) l.size) fun C D P E F=>?_
 have n:=ut b (ut (aH.mono (S':=(ob B++[])) i aA) F (ap il aA)) (ap (aT d lr) aA)
 exact bo (cW (ey.old h n) f k (by omega)) fun G=>Rt 15 G<|re<|bn<|tn<|go<|Pl 1<|bq ((k:Int)+1)<|Pl 1<|nl<|gI ((k+1),(L++[(((xs.getD k 0)/256)%256),(((xs.getD k 0)%256)%256)]),C,D) ⟨n,E,(by(try dsimp only);omega),(by(try dsimp only);rw[show((xs.getD k 0)/256)%256=(xs.getD k 0)/256 from by omega,show((xs.getD k 0)%256)%256=(xs.getD k 0)%256 from by omega,oB xs k (by omega),← hL])⟩ (by omega)
 have s:=of_decide_eq_false c
 refine xt<|tx<|tx<|bx<|tn<|aE 2<|rt<|rr (.slice B L.length cq)<|?_
 have hs:L=aO xs:=wy hL (of_decide_eq_false c)
 exact⟨_,rfl,by rw[← hs];exact d,b⟩
theorem i2{m:Md}{v:Value}{xs:List Int}{w:World}(h:ey m w v xs)(hn:xs.length≤1048576) : Calls Tryz.prog 129 #[v] w (BP xs w):=by
  obtain⟨A,cp,rfl,_,_⟩:=h.shape
  exact D5 h hn
open Go.RowKit
def ek (dir:Int)(M:aU) : List Int :=
  if M.code==1 || M.code==2 then (if dir==1 then [(M.data.length:Int)%256]++M.data else aO [M.addr,M.count])
  else if M.code==5 then aO [M.addr,M.value]
  else if M.code==15 then (if dir==0 then (aO [M.addr,M.count]++[((bS M.bits).length:Int)%256])++bS M.bits else aO [M.addr,M.count])
  else aO [M.addr,M.count]
def fg (dir:Int)(M:aU) : List Int :=
  if M.code==8 then aO ([M.sub]++M.words)
  else if dir==0 then []
  else if M.code==7 then [M.value%256]
  else if M.code==11 then aO [M.status,M.events]
  else if M.code==12 then (([((M.data.length:Int)+6)%256]++aO [M.status,M.events,M.messages])++M.data)
  else [(M.data.length:Int)%256]++M.data
def dU (dir:Int)(M:aU) : List Int :=
  if dir==1&&((M.code==3 || M.code==4)||M.code==23) then (aO []++[(2*(M.words.length:Int))%256])++aO M.words
  else if (M.code==3 || M.code==4)||(M.code==16&&dir==1) then aO [M.addr,M.count]
  else if M.code==6 then aO [M.addr,M.value]
  else if M.code==16 then ((aO [M.addr,M.count]++[(2*(M.words.length:Int))%256])++aO M.words)
  else if M.code==22 then aO [M.addr,M.and_,M.or_]
  else if M.code==23 then ((aO [M.addr,M.count,M.addr2,(M.words.length:Int)%65536]++[(2*(M.words.length:Int))%256])++aO M.words)
  else if M.code==24&&dir==0 then aO [M.addr]
  else if M.code==24 then aO [(2*(M.words.length:Int)+2)%65536,(M.words.length:Int)%65536]++aO M.words
  else (aO []++[(2*(M.words.length:Int))%256])++aO M.words
theorem tj{m:Md}{cs:Array Value}{M:aU}{w:World}{dir:Int}(h:aJ m w cs.toList M)(hf:bB M) : Calls Tryz.prog 184 #[vI dir,.agg cs] w (jK (ek dir M) w):=by
 refine fo h fun Aw kw Ab kb Ad kd Ar kr Ao ko e hw hbt hd hr ho _ _ _ _ _ _ _ _ _ _ q0 q1 q2 q3 q4 q5 q6 q7 q8 q9 aq ar aw ax az aB aG=>?_
 subst e
 have hf1:=hf.words
 have hf2:=hf.bits
 have hf3:=hf.data
 have hf4:=hf.recs
 have hf5:=hf.objects
 refine en 52 Tryz.func184 rfl<|sg<|L0<|d6 (mG M.code M.fail M.addr M.count M.value M.and_ M.or_ M.addr2 M.sub M.status M.events M.messages (.slice Aw M.words.length kw) (.slice Ab M.bits.length kb) (.slice Ad M.data.length kd) (.slice Ar M.recs.length kr) M.mei M.kind M.level M.more M.next (.slice Ao M.objects.length ko)) fun aK aL aN t c=>Pl 1<|aM 1<|aD t 2<|Pl 1<|aD t 3<|L0<|cY (m:=2) (e:=37) #[vW M.addr,vW M.count] fun aP aQ K L d=>?_
 have N:=eB K (xs:=[M.addr,M.count]) (by as_aux_lemma=>kernel_rfl) (am (by omega) (am (by omega) aR)) (by(try simp only[List.length_cons,List.length_nil]);omega) L
 refine ay<|dV (i2 (xs:=[M.addr,M.count]) (N).rd (by(try simp only[bT]);omega)) fun i q aS j aV aW r=>ai 1<|sq<|al 1<|?_
 have A:=aI d r
 have g:=ub A t
 refine aD g 0<|nt<|bk<|sq<|aE 2<|?_
 have a:=aI c A
 refine cb ((M.code==1)) (fun b=>?_) (fun b=>?_)
 have O:=ag b
 refine bj<|ct b<|aE 2<|cb ((dir==1)) (fun n=>?_) (fun n=>?_)
 have P:=ag n
 refine al 1<|aD g 14<|Pl 2<|L0<|cY (m:=1) (e:=5) #[vB ((M.data.length:Int)%256)] fun aX aY Q R u=>?_
 have B:=cG Q (xs:=[((M.data.length:Int)%256)]) (by as_aux_lemma=>kernel_rfl) (am (by omega) aR) (by(try simp only[List.length_cons,List.length_nil]);omega) R
 refine Pl 1<|?_
 refine aD (ub u g) 14<|?_
 have C:=aI a u
 refine L0<|bQ b9 (xs:=([((M.data.length:Int)%256)])) (ys:=M.data) (vB 0) 1 B (aZ.old hd C) (by(try simp only[bT,aC]);omega) u.size fun S T b0 U V=>ai 1<|rt<|br<|tr<|rr (.slice S (([((M.data.length:Int)%256)]++M.data).length) T)<|?_
 exact cv (by unfold ek;(try simp only[b,n,bi,Bool.or_true,Bool.true_or,Bool.or_false,Bool.false_or,Bool.and_true,Bool.true_and,Bool.and_false,Bool.false_and,reduceIte])<;>rfl) ⟨_,rfl,(b6.weaken U a.size),(ut C V (ap (aT B a.size) aA))⟩
 have P:=au n
 exact sk<|bn<|tn<|aE 2<|rt<|rr (.slice i ((aO ([M.addr,M.count])).length) q)<|cv (by unfold ek;(try simp only[b,n,bi,Bool.or_true,Bool.true_or,Bool.or_false,Bool.false_or,Bool.and_true,Bool.true_and,Bool.and_false,Bool.false_and,reduceIte])<;>rfl) ⟨_,rfl,(b6.weaken j (le c.size d.size)),a⟩
 have O:=au b
 refine go<|ai 2<|cb ((M.code==2)) (fun f=>?_) (fun f=>?_)
 have W:=ag f
 refine aE 2<|cb ((dir==1)) (fun o=>?_) (fun o=>?_)
 have X:=ag o
 refine al 1<|aD g 14<|Pl 2<|L0<|cY (m:=1) (e:=5) #[vB ((M.data.length:Int)%256)] fun b1 b2 Y Z v=>?_
 have D:=cG Y (xs:=[((M.data.length:Int)%256)]) (by as_aux_lemma=>kernel_rfl) (am (by omega) aR) (by(try simp only[List.length_cons,List.length_nil]);omega) Z
 refine Pl 1<|?_
 refine aD (ub v g) 14<|?_
 have E:=aI a v
 refine L0<|bQ b9 (xs:=([((M.data.length:Int)%256)])) (ys:=M.data) (vB 0) 1 D (aZ.old hd E) (by(try simp only[bT,aC]);omega) v.size fun a0 a1 b3 a2 a3=>ai 1<|rt<|br<|tr<|rr (.slice a0 (([((M.data.length:Int)%256)]++M.data).length) a1)<|?_
 exact cv (by unfold ek;(try simp only[b,f,o,bi,Bool.or_true,Bool.true_or,Bool.or_false,Bool.false_or,Bool.and_true,Bool.true_and,Bool.and_false,Bool.false_and,reduceIte])<;>rfl) ⟨_,rfl,(b6.weaken a2 a.size),(ut E a3 (ap (aT D a.size) aA))⟩
 have X:=au o
 exact sk<|bn<|tn<|aE 2<|rt<|rr (.slice i ((aO ([M.addr,M.count])).length) q)<|cv (by unfold ek;(try simp only[b,f,o,bi,Bool.or_true,Bool.true_or,Bool.or_false,Bool.false_or,Bool.and_true,Bool.true_and,Bool.and_false,Bool.false_and,reduceIte])<;>rfl) ⟨_,rfl,(b6.weaken j (le c.size d.size)),a⟩
 have W:=au f
 refine aE 2<|cb ((M.code==5)) (fun k=>?_) (fun k=>?_)
 have a4:=ag k
 refine al 1<|aD g 2<|Pl 1<|aD g 4<|L0<|cY (m:=2) (e:=37) #[vW M.addr,vW M.value] fun b4 b5 a5 a6 F=>?_
 have a7:=eB a5 (xs:=[M.addr,M.value]) (by as_aux_lemma=>kernel_rfl) (am (by omega) (am (by omega) aR)) (by(try simp only[List.length_cons,List.length_nil]);omega) a6
 refine ay<|dV (i2 (xs:=[M.addr,M.value]) (a7).rd (by(try simp only[bT]);omega)) fun a8 a9 b7 aa b8 ba ab=>ai 1<|rt<|br<|tr<|rr (.slice a8 ((aO ([M.addr,M.value])).length) a9)<|?_
 exact cv (by unfold ek;(try simp only[b,f,k,bi,Bool.or_true,Bool.true_or,Bool.or_false,Bool.false_or,Bool.and_true,Bool.true_and,Bool.and_false,Bool.false_and,reduceIte])<;>rfl) ⟨_,rfl,(b6.weaken aa (le (le (le c.size d.size) r.size) F.size)),(aI a (aI F ab))⟩
 have a4:=au k
 refine aE 2<|cb ((M.code==15)) (fun l=>?_) (fun l=>?_)
 have ac:=ag l
 refine aE 2<|cb ((dir==0)) (fun p=>?_) (fun p=>?_)
 have ad:=ag p
 refine al 1<|aD g 13<|?_
 refine ay<|dV (Bp (j6.old hbt a) (by omega)) fun bb bc bd G be bf y=>?_
 have bg:(bS M.bits).length≤1024:=by simp only[bS,List.length_map,List.length_range,eo];omega
 refine Pl 1<|aM 4<|L0<|cY (m:=1) (e:=5) #[vB (((bS M.bits).length:Int)%256)] fun bh bl ae af s=>?_
 have ah:=cG ae (xs:=[(((bS M.bits).length:Int)%256)]) (by as_aux_lemma=>kernel_rfl) (am (by omega) aR) (by(try simp only[List.length_cons,List.length_nil]);omega) af
 have H:=aI y s
 refine L0<|bQ b9 (xs:=(aO ([M.addr,M.count]))) (ys:=([(((bS M.bits).length:Int)%256)])) (vB 0) 1 (av j H (fun x hx=>aF) (fun _ _ h=>h)) (ah).rd (by(try simp only[bT,aC]);omega) (le (le r.size y.size) s.size) fun I bm bo J z=>Pl 1<|?_
 refine L0<|bQ b9 (xs:=((aO ([M.addr,M.count]))++[(((bS M.bits).length:Int)%256)])) (ys:=(bS M.bits)) (vB 0) 1 J ((av G (ut (aH.mono (S':=(ob i++[])) s aA) z (ap il aA)) (fun x hx=>(bA ((jV G j lr) x hx) aF)) (fun _ _ h=>h))).rd (by(try simp only[bT,aC]);omega) (le (le (le r.size y.size) s.size) z.size) fun aj ak bp an ao=>ai 1<|rt<|br<|tr<|rr (.slice aj ((((aO ([M.addr,M.count]))++[(((bS M.bits).length:Int)%256)])++(bS M.bits)).length) ak)<|?_
 exact cv (by unfold ek;(try simp only[b,f,k,l,p,bi,Bool.or_true,Bool.true_or,Bool.or_false,Bool.false_or,Bool.and_true,Bool.true_and,Bool.and_false,Bool.false_and,reduceIte])<;>rfl) ⟨_,rfl,(b6.weaken an (le c.size d.size)),(ut a (ut (aH.mono (S':=(ob i++(ob I++[]))) H aA) (ut (aH.mono (S':=(ob i++(ob I++[]))) z (ap il aA)) ao (ap il aA)) (ap il (ap il aA))) (ap (aT j (le c.size d.size)) (ap (aT J (le c.size d.size)) aA)))⟩
 have ad:=au p
 exact sk<|bn<|tn<|aE 2<|rt<|rr (.slice i ((aO ([M.addr,M.count])).length) q)<|cv (by unfold ek;(try simp only[b,f,k,l,p,bi,Bool.or_true,Bool.true_or,Bool.or_false,Bool.false_or,Bool.and_true,Bool.true_and,Bool.and_false,Bool.false_and,reduceIte])<;>rfl) ⟨_,rfl,(b6.weaken j (le c.size d.size)),a⟩
 have ac:=au l
 exact sk<|bn<|tn<|aE 2<|rt<|rr (.slice i ((aO ([M.addr,M.count])).length) q)<|cv (by unfold ek;(try simp only[b,f,k,l,bi,Bool.or_true,Bool.true_or,Bool.or_false,Bool.false_or,Bool.and_true,Bool.true_and,Bool.and_false,Bool.false_and,reduceIte])<;>rfl) ⟨_,rfl,(b6.weaken j (le c.size d.size)),a⟩
theorem vV{m:Md}{cs:Array Value}{M:aU}{w:World}{dir:Int}(h:aJ m w cs.toList M)(hf:bB M) : Calls Tryz.prog 186 #[vI dir,.agg cs] w (jK (fg dir M) w):=by
 refine fo h fun Aw kw Ab kb Ad kd Ar kr Ao ko e hw hbt hd hr ho _ _ _ _ _ _ _ _ _ _ q0 q1 q2 q3 q4 q5 q6 q7 q8 q9 bK bL bM bN bO bP bR=>?_
 subst e
 have hf1:=hf.words
 have hf2:=hf.bits
 have hf3:=hf.data
 have hf4:=hf.recs
 have hf5:=hf.objects
 refine en 63 Tryz.func186 rfl<|sg<|L0<|d6 (mG M.code M.fail M.addr M.count M.value M.and_ M.or_ M.addr2 M.sub M.status M.events M.messages (.slice Aw M.words.length kw) (.slice Ab M.bits.length kb) (.slice Ad M.data.length kd) (.slice Ar M.recs.length kr) M.mei M.kind M.level M.more M.next (.slice Ao M.objects.length ko)) fun C bS bU b a=>ai 1<|sq<|al 1<|aD b 0<|Pl 1<|nl<|tn<|cb ((M.code==8)) (fun d=>?_) (fun d=>?_)
 have a9:=ag d
 refine al 1<|aD b 8<|L0<|cY (m:=1) (e:=37) #[vW M.sub] fun bV bW aa ab D=>?_
 have P:=eB aa (xs:=[M.sub]) (by as_aux_lemma=>kernel_rfl) (am (by omega) aR) (by(try simp only[List.length_cons,List.length_nil]);omega) ab
 refine Pl 1<|?_
 refine aD (ub D b) 12<|?_
 have Q:=aI a D
 refine L0<|bQ pX (xs:=([M.sub])) (ys:=M.words) (vW 0) 2 P (ey.old hw Q) (by(try simp only[bT,aC]);omega) D.size fun bY bZ c0 ac R=>ay<|dV (i2 (xs:=([M.sub]++M.words)) (ac).rd (by(try simp only[bT]);omega)) fun ad af c1 ah c2 c3 aj=>ai 1<|aX<|rr (.slice ad ((aO ([M.sub]++M.words)).length) af)<|?_
 exact cv (by unfold fg;(try simp only[d,bi,Bool.or_true,Bool.true_or,Bool.or_false,Bool.false_or,Bool.and_true,Bool.true_and,Bool.and_false,Bool.false_and,reduceIte])<;>rfl) ⟨_,rfl,(b6.weaken ah (le (le a.size D.size) R.size)),(ut Q (aI R aj) (ap (aT P a.size) aA))⟩
 have a9:=au d
 refine bj<|sq<|aE 2<|cb ((dir==0)) (fun g=>?_) (fun g=>?_)
 have ak:=ag g
 exact aE 1<|aX<|rr nS<|cv (by unfold fg;(try simp only[d,g,bi,Bool.or_true,Bool.true_or,Bool.or_false,Bool.false_or,Bool.and_true,Bool.true_and,Bool.and_false,Bool.false_and,reduceIte])<;>rfl) ⟨_,rfl,(b6.nil ..),a⟩
 have ak:=au g
 refine bj<|sq<|al 1<|aD b 0<|nt<|bk<|al 2<|nl<|tn<|cb ((M.code==7)) (fun i=>?_) (fun i=>?_)
 have an:=ag i
 refine al 1<|aD b 4<|Pl 1<|L0<|cY (m:=1) (e:=5) #[vB (M.value%256)] fun ao c4 ar aw ax=>?_
 have az:=cG ar (xs:=[(M.value%256)]) (by as_aux_lemma=>kernel_rfl) (am (by omega) aR) (by(try simp only[List.length_cons,List.length_nil]);omega) aw
 refine ai 1<|rt<|br<|tr<|rr (.slice (some ⟨ao,0,none⟩) 1 1)<|?_
 exact cv (by unfold fg;(try simp only[d,g,i,bi,Bool.or_true,Bool.true_or,Bool.or_false,Bool.false_or,Bool.and_true,Bool.true_and,Bool.and_false,Bool.false_and,reduceIte])<;>rfl) ⟨_,rfl,(b6.weaken az a.size),(aI a ax)⟩
 have an:=au i
 refine aE 2<|cb ((M.code==11)) (fun k=>?_) (fun k=>?_)
 have aB:=ag k
 refine al 1<|aD b 9<|Pl 1<|aD b 10<|L0<|cY (m:=2) (e:=37) #[vW M.status,vW M.events] fun c5 c6 aG aK S=>?_
 have aM:=eB aG (xs:=[M.status,M.events]) (by as_aux_lemma=>kernel_rfl) (am (by omega) (am (by omega) aR)) (by(try simp only[List.length_cons,List.length_nil]);omega) aK
 refine ay<|dV (i2 (xs:=[M.status,M.events]) (aM).rd (by(try simp only[bT]);omega)) fun aN aP c7 aQ c8 c9 aS=>ai 1<|rt<|br<|tr<|rr (.slice aN ((aO ([M.status,M.events])).length) aP)<|?_
 exact cv (by unfold fg;(try simp only[d,g,i,k,bi,Bool.or_true,Bool.true_or,Bool.or_false,Bool.false_or,Bool.and_true,Bool.true_and,Bool.and_false,Bool.false_and,reduceIte])<;>rfl) ⟨_,rfl,(b6.weaken aQ (le a.size S.size)),(aI a (aI S aS))⟩
 have aB:=au k
 refine aE 2<|cb ((M.code==12)) (fun l=>?_) (fun l=>?_)
 have aV:=ag l
 refine sq<|Rg 16 (fun w'=>w'.cell? ⟨C,14,none⟩=some (.slice Ad M.data.length kd)∧w'.cell? ⟨C,9,none⟩=some (vW M.status)∧w'.cell? ⟨C,10,none⟩=some (vW M.events)∧w'.cell? ⟨C,11,none⟩=some (vW M.messages)) fun ca c=>?_
 have n:=ub c b
 refine bo ⟨(ae n rfl),(ae n rfl),(ae n rfl),(ae n rfl)⟩ fun f=>Rt 0 f<|Rl 1 f (fun _ hs=>hs.1)<|Rt 2 f<|Rr 3 f (vI ((M.data.length:Int)+6)) (fun _ _=>bX (vI (IntKind.i64.wrap ((M.data.length:Int)+6))) (by kernel_rfl) (congrArg (Value.int .i64) (IntWalk.i64_in _ (by omega))))<|Rt 4 f<|Rt 6 f<|Rl 7 f (fun _ hs=>hs.2.1)<|Rt 8 f<|Rl 9 f (fun _ hs=>hs.2.2.1)<|Rt 10 f<|Rl 11 f (fun _ hs=>hs.2.2.2)<|R2 5 12 rfl rfl ?_ ?_
 refine  cY (m:=1) (e:=5) #[vB (((M.data.length:Int)+6)%256)] fun aW cc aY b0 H=>?_
 have I:=cG aY (xs:=[(((M.data.length:Int)+6)%256)]) (by as_aux_lemma=>kernel_rfl) (am (by omega) aR) (by(try simp only[List.length_cons,List.length_nil]);omega) b0
 have p:=ub H n
 refine bo ⟨(ae p rfl),(ae p rfl),(ae p rfl),(ae p rfl)⟩ fun cd=>R0 12 rfl<|cY (m:=3) (e:=37) #[vW M.status,vW M.events,vW M.messages] fun ce cf b1 b2 J=>?_
 have b3:=eB b1 (xs:=[M.status,M.events,M.messages]) (by as_aux_lemma=>kernel_rfl) (am (by omega) (am (by omega) (am (by omega) aR))) (by(try simp only[List.length_cons,List.length_nil]);omega) b2
 have q:=ub J p
 refine bo ⟨(ae q rfl),(ae q rfl),(ae q rfl),(ae q rfl)⟩ fun cg=>R0 13 rfl<|Oc<|dV (i2 (xs:=[M.status,M.events,M.messages]) (b3).rd (by(try simp only[bT]);omega)) fun ch ci cj b4 ck cl K=>?_
 have r:=ub K q
 refine bo ⟨(ae r rfl),(ae r rfl),(ae r rfl),(ae r rfl)⟩ fun cm=>?_
 have T:=aI J K
 refine R0 14 rfl<|bQ b9 (xs:=([(((M.data.length:Int)+6)%256)])) (ys:=(aO ([M.status,M.events,M.messages]))) (vB 0) 1 (av I T (fun x hx=>aF) (fun _ _ h=>h)) (b4).rd (by(try simp only[bT,aC]);omega) (le (le H.size J.size) K.size) fun cn co cp U V=>?_
 have s:=aH.blk V (bA (aL (aq b) c.size I) aF) r
 refine bo ⟨(ae s rfl),(ae s rfl),(ae s rfl),(ae s rfl)⟩ fun b5=>Rt 15 b5<|re<|tn<|al 2<|aD s 14<|?_
 have W:=ut H (ut (aH.mono (S':=(ob (some ⟨aW,0,none⟩)++[])) T aA) V (ap il aA)) (ap (aT I lr) aA)
 have X:=aI a (aI c W)
 refine L0<|bQ b9 (xs:=([(((M.data.length:Int)+6)%256)]++(aO ([M.status,M.events,M.messages])))) (ys:=M.data) (vB 0) 1 U (aZ.old hd X) (by(try simp only[bT,aC]);omega) W.size fun b7 b8 cq ba bb=>ai 1<|rt<|br<|tr<|rr (.slice b7 ((([(((M.data.length:Int)+6)%256)]++(aO ([M.status,M.events,M.messages])))++M.data).length) b8)<|?_
 exact cv (by unfold fg;(try simp only[d,g,i,k,l,bi,Bool.or_true,Bool.true_or,Bool.or_false,Bool.false_or,Bool.and_true,Bool.true_and,Bool.and_false,Bool.false_and,reduceIte])<;>rfl) ⟨_,rfl,(b6.weaken ba (le a.size c.size)),(ut X bb (ap (aT U (le a.size c.size)) aA))⟩
 refine  cY (m:=3) (e:=37) #[vW M.status,vW M.events,vW M.messages] fun cr ct bc bd j=>?_
 have Y:=eB bc (xs:=[M.status,M.events,M.messages]) (by as_aux_lemma=>kernel_rfl) (am (by omega) (am (by omega) (am (by omega) aR))) (by(try simp only[List.length_cons,List.length_nil]);omega) bd
 have o:=ub j n
 refine bo ⟨(ae o rfl),(ae o rfl),(ae o rfl),(ae o rfl)⟩ fun cu=>?_
 refine R2 5 13 rfl rfl ?_ ?_
 refine  cY (m:=1) (e:=5) #[vB (((M.data.length:Int)+6)%256)] fun be cw bf bg E=>?_
 have L:=cG bf (xs:=[(((M.data.length:Int)+6)%256)]) (by as_aux_lemma=>kernel_rfl) (am (by omega) aR) (by(try simp only[List.length_cons,List.length_nil]);omega) bg
 have t:=ub E o
 refine bo ⟨(ae t rfl),(ae t rfl),(ae t rfl),(ae t rfl)⟩ fun cx=>?_
 refine R0 13 rfl<|Oc<|dV (i2 (xs:=[M.status,M.events,M.messages]) ((av Y E (fun x hx=>aF) (fun _ _ h=>h))).rd (by(try simp only[bT]);omega)) fun cy cz cA bh cB cC F=>?_
 have u:=ub F t
 refine bo ⟨(ae u rfl),(ae u rfl),(ae u rfl),(ae u rfl)⟩ fun cD=>?_
 refine R0 14 rfl<|bQ b9 (xs:=([(((M.data.length:Int)+6)%256)])) (ys:=(aO ([M.status,M.events,M.messages]))) (vB 0) 1 (av L F (fun x hx=>aF) (fun _ _ h=>h)) (bh).rd (by(try simp only[bT,aC]);omega) (le E.size F.size) fun cE cF cH Z a0=>?_
 have v:=aH.blk a0 (bA (aL (aq b) (le c.size j.size) L) aF) u
 refine bo ⟨(ae v rfl),(ae v rfl),(ae v rfl),(ae v rfl)⟩ fun bl=>Rt 15 bl<|re<|tn<|al 2<|aD v 14<|?_
 have a1:=ut E (ut (aH.mono (S':=(ob (some ⟨be,0,none⟩)++[])) F aA) a0 (ap il aA)) (ap (aT L lr) aA)
 have a2:=aI a (aI c (aI j a1))
 refine L0<|bQ b9 (xs:=([(((M.data.length:Int)+6)%256)]++(aO ([M.status,M.events,M.messages])))) (ys:=M.data) (vB 0) 1 Z (aZ.old hd a2) (by(try simp only[bT,aC]);omega) a1.size fun bm bp cI bq bs=>ai 1<|rt<|br<|tr<|rr (.slice bm ((([(((M.data.length:Int)+6)%256)]++(aO ([M.status,M.events,M.messages])))++M.data).length) bp)<|?_
 exact cv (by unfold fg;(try simp only[d,g,i,k,l,bi,Bool.or_true,Bool.true_or,Bool.or_false,Bool.false_or,Bool.and_true,Bool.true_and,Bool.and_false,Bool.false_and,reduceIte])<;>rfl) ⟨_,rfl,(b6.weaken bq (le (le a.size c.size) j.size)),(ut a2 bs (ap (aT Z (le (le a.size c.size) j.size)) aA))⟩
 refine  Oc<|dV (i2 (xs:=[M.status,M.events,M.messages]) (Y).rd (by(try simp only[bT]);omega)) fun cJ cK cL bt cM cN y=>?_
 have z:=ub y o
 refine bo ⟨(ae z rfl),(ae z rfl),(ae z rfl),(ae z rfl)⟩ fun cO=>R0 5 rfl<|cY (m:=1) (e:=5) #[vB (((M.data.length:Int)+6)%256)] fun cP cQ bu bv G=>?_
 have N:=cG bu (xs:=[(((M.data.length:Int)+6)%256)]) (by as_aux_lemma=>kernel_rfl) (am (by omega) aR) (by(try simp only[List.length_cons,List.length_nil]);omega) bv
 have A:=ub G z
 refine bo ⟨(ae A rfl),(ae A rfl),(ae A rfl),(ae A rfl)⟩ fun cR=>?_
 refine R0 14 rfl<|bQ b9 (xs:=([(((M.data.length:Int)+6)%256)])) (ys:=(aO ([M.status,M.events,M.messages]))) (vB 0) 1 N ((av bt G (fun x hx=>aF) (fun _ _ h=>h))).rd (by(try simp only[bT,aC]);omega) G.size fun cS cT cU a3 a4=>?_
 have B:=aH.blk a4 (bA (aL (aq b) (le (le c.size j.size) y.size) N) aF) A
 refine bo ⟨(ae B rfl),(ae B rfl),(ae B rfl),(ae B rfl)⟩ fun bw=>Rt 15 bw<|re<|tn<|al 2<|aD B 14<|?_
 have a5:=ut G a4 (ap (aT N lr) aA)
 have a6:=aI a (aI c (aI j (aI y a5)))
 refine L0<|bQ b9 (xs:=([(((M.data.length:Int)+6)%256)]++(aO ([M.status,M.events,M.messages])))) (ys:=M.data) (vB 0) 1 a3 (aZ.old hd a6) (by(try simp only[bT,aC]);omega) a5.size fun bx bz cV bC bD=>ai 1<|rt<|br<|tr<|rr (.slice bx ((([(((M.data.length:Int)+6)%256)]++(aO ([M.status,M.events,M.messages])))++M.data).length) bz)<|?_
 exact cv (by unfold fg;(try simp only[d,g,i,k,l,bi,Bool.or_true,Bool.true_or,Bool.or_false,Bool.false_or,Bool.and_true,Bool.true_and,Bool.and_false,Bool.false_and,reduceIte])<;>rfl) ⟨_,rfl,(b6.weaken bC (le (le (le a.size c.size) j.size) y.size)),(ut a6 bD (ap (aT a3 (le (le (le a.size c.size) j.size) y.size)) aA))⟩
 have aV:=au l
 refine sk<|bn<|tn<|al 1<|aD b 14<|Pl 2<|L0<|cY (m:=1) (e:=5) #[vB ((M.data.length:Int)%256)] fun cW cX bE bF O=>?_
 have a7:=cG bE (xs:=[((M.data.length:Int)%256)]) (by as_aux_lemma=>kernel_rfl) (am (by omega) aR) (by(try simp only[List.length_cons,List.length_nil]);omega) bF
 refine Pl 1<|?_
 refine aD (ub O b) 14<|?_
 have a8:=aI a O
 refine L0<|bQ b9 (xs:=([((M.data.length:Int)%256)])) (ys:=M.data) (vB 0) 1 a7 (aZ.old hd a8) (by(try simp only[bT,aC]);omega) O.size fun bG bH cZ bI bJ=>ai 1<|rt<|rr (.slice bG (([((M.data.length:Int)%256)]++M.data).length) bH)<|?_
 exact cv (by unfold fg;(try simp only[d,g,i,k,l,bi,Bool.or_true,Bool.true_or,Bool.or_false,Bool.false_or,Bool.and_true,Bool.true_and,Bool.and_false,Bool.false_and,reduceIte])<;>rfl) ⟨_,rfl,(b6.weaken bI a.size),(ut a8 bJ (ap (aT a7 a.size) aA))⟩
theorem wq{m:Md}{cs:Array Value}{M:aU}{w:World}{dir:Int}(h:aJ m w cs.toList M)(hf:bB M) : Calls Tryz.prog 185 #[vI dir,.agg cs] w (jK (dU dir M) w):=by
 refine fo h fun Aw kw Ab kb Ad kd Ar kr Ao ko e hw hbt hd hr ho _ _ _ _ _ _ _ _ _ _ q0 q1 q2 q3 q4 q5 q6 q7 q8 q9 cw cx cy cz cA cB cC=>?_
 subst e
 have hf1:=hf.words
 have hf2:=hf.bits
 have hf3:=hf.data
 have hf4:=hf.recs
 have hf5:=hf.objects
 refine en 137 Tryz.func185 rfl<|sg<|L0<|d6 (mG M.code M.fail M.addr M.count M.value M.and_ M.or_ M.addr2 M.sub M.status M.events M.messages (.slice Aw M.words.length kw) (.slice Ab M.bits.length kb) (.slice Ad M.data.length kd) (.slice Ar M.recs.length kr) M.mei M.kind M.level M.more M.next (.slice Ao M.objects.length ko)) fun cD cF cH P l=>Pl 1<|aM 1<|aD P 12<|?_
 refine ay<|dV (i2 (xs:=M.words) (ey.old hw l) (by(try simp only[bT]);omega)) fun cI cJ cK u cL cM n=>Pl 1<|aM 1<|?_
 have a:=ub n P
 refine aD a 12<|Pl 2<|aM 1<|cE 1<|sq<|bk<|al 3<|cu 14 [19] 33 (((dir==1)&&(((M.code==3)||(M.code==4))||(M.code==23)))) (fun K Q=>?_) ?_
 refine bl 19 ((dir==1)) (fun v=>?_) (fun v=>?_)
 have ao:=ag v
 refine Pl 1<|L1<|dD a 0<|Pl 2<|cu 4 [23] 27 (((M.code==3)||(M.code==4))) (fun K R=>?_) ?_
 refine bl 23 ((M.code==3)) (fun y=>?_) (fun y=>?_)
 have aq:=ag y
 exact Pl 4<|ce R true (by rw[y];rfl)
 have aq:=au y
 exact Pl 1<|L1<|dD a 0<|Pl 2<|ce R (M.code==4) (by rw[y];rfl)
 refine Pl 1<|cu 4 [28] 32 ((((M.code==3)||(M.code==4))||(M.code==23))) (fun K S=>?_) ?_
 refine bl 28 (((M.code==3)||(M.code==4))) (fun C=>?_) (fun C=>?_)
 exact Pl 4<|ce S true (by rw[C];rfl)
 exact Pl 1<|L1<|dD a 0<|Pl 2<|ce S (M.code==23) (by rw[C];rfl)
 exact Pl 1<|ce Q (((M.code==3)||(M.code==4))||(M.code==23)) (by rw[v];rfl)
 have ao:=au v
 exact Pl 14<|ce Q false (by rw[v];rfl)
 refine ai 1<|?_
 have i:=aI l n
 refine cb (((dir==1)&&(((M.code==3)||(M.code==4))||(M.code==23)))) (fun g=>?_) (fun g=>?_)
 have ar:=(bC g).1
 have aw:=(bC g).2
 refine sk<|bn<|tn<|al 1<|ay<|dV (i2 (xs:=[]) (aS.nil true _ _ _ _) (by(try simp only[bT]);omega)) fun ax cN cO T cP cQ U=>ai 1<|sq<|al 1<|nl<|tn<|c1<|go<|Pl 2<|bq (2*(M.words.length:Int))<|Pl 1<|L0<|cY (m:=1) (e:=5) #[vB ((2*(M.words.length:Int))%256)] fun cR cS az aB D=>?_
 have aG:=cG az (xs:=[((2*(M.words.length:Int))%256)]) (by as_aux_lemma=>kernel_rfl) (am (by omega) aR) (by(try simp only[List.length_cons,List.length_nil]);omega) aB
 refine L0<|bQ b9 (xs:=(aO ([]))) (ys:=([((2*(M.words.length:Int))%256)])) (vB 0) 1 (av T D (fun x hx=>aF) (fun _ _ h=>h)) (aG).rd (by(try simp only[bT,aC]);omega) (le U.size D.size) fun cT cU cV V aK=>Pl 1<|aM 2<|?_
 have E:=ut U (ut (aH.mono (S':=(ob ax++[])) D aA) aK (ap il aA)) (ap (aT T lr) aA)
 refine L0<|bQ b9 (xs:=((aO ([]))++[((2*(M.words.length:Int))%256)])) (ys:=(aO M.words)) (vB 0) 1 V ((av u E (fun x hx=>aF) (fun _ _ h=>h))).rd (by(try simp only[bT,aC]);omega) E.size fun aL aN cW aP aQ=>ai 1<|rt<|rr (.slice aL ((((aO ([]))++[((2*(M.words.length:Int))%256)])++(aO M.words)).length) aN)<|?_
 have hs:dU dir M=(((aO ([]))++[((2*(M.words.length:Int))%256)])++(aO M.words)):=by
   unfold dU
   (try simp only[g,ar,aw,bi,Bool.or_true,Bool.true_or,Bool.or_false,Bool.false_or,Bool.and_true,Bool.true_and,Bool.and_false,Bool.false_and,reduceIte])
   all_goals first | rfl | (simp_all;done)
 rw[hs]
 exact⟨_,rfl,(b6.weaken aP i.size),(aI i (ut E aQ (ap (aT V lr) aA)))⟩
 refine al 1<|aD a 0<|Pl 2<|cu 4 [38] 42 (((M.code==3)||(M.code==4))) (fun K W=>?_) ?_
 refine bl 38 ((M.code==3)) (fun z=>?_) (fun z=>?_)
 have aV:=ag z
 exact Pl 4<|ce W true (by rw[z];rfl)
 have aV:=au z
 exact Pl 1<|L1<|dD a 0<|Pl 2<|ce W (M.code==4) (by rw[z];rfl)
 refine Pl 1<|cu 8 [43] 51 ((((M.code==3)||(M.code==4))||((M.code==16)&&(dir==1)))) (fun K X=>?_) ?_
 refine bl 43 (((M.code==3)||(M.code==4))) (fun F=>?_) (fun F=>?_)
 exact Pl 8<|ce X true (by rw[F];rfl)
 refine Pl 1<|L1<|dD a 0<|Pl 2<|cu 3 [47] 50 (((M.code==16)&&(dir==1))) (fun K Y=>?_) ?_
 refine bl 47 ((M.code==16)) (fun A=>?_) (fun A=>?_)
 have aW:=ag A
 exact Pl 3<|ce Y (dir==1) (by rw[A];rfl)
 have aW:=au A
 exact Pl 3<|ce Y false (by rw[A];rfl)
 exact Pl 1<|ce X ((M.code==16)&&(dir==1)) (by rw[F];rfl)
 refine ai 1<|cb ((((M.code==3)||(M.code==4))||((M.code==16)&&(dir==1)))) (fun j=>?_) (fun j=>?_)
 refine al 1<|aD a 2<|Pl 1<|aD a 3<|L0<|cY (m:=2) (e:=37) #[vW M.addr,vW M.count] fun cX cZ aX aY Z=>?_
 have aZ:=eB aX (xs:=[M.addr,M.count]) (by as_aux_lemma=>kernel_rfl) (am (by omega) (am (by omega) aR)) (by(try simp only[List.length_cons,List.length_nil]);omega) aY
 refine ay<|dV (i2 (xs:=[M.addr,M.count]) (aZ).rd (by(try simp only[bT]);omega)) fun b0 b1 d0 b2 d1 d2 b3=>ai 1<|rt<|br<|tr<|rr (.slice b0 ((aO ([M.addr,M.count])).length) b1)<|?_
 have hs:dU dir M=(aO ([M.addr,M.count])):=by
   unfold dU
   (try simp only[g,j,bi,Bool.or_true,Bool.true_or,Bool.or_false,Bool.false_or,Bool.and_true,Bool.true_and,Bool.and_false,Bool.false_and,reduceIte])
   all_goals first | rfl | (simp_all;done)
 rw[hs]
 exact⟨_,rfl,(b6.weaken b2 (le (le l.size n.size) Z.size)),(aI i (aI Z b3))⟩
 have o:=(bK j).1
 have p:=(bK j).2
 have q:=(bK o).1
 have r:=(bK o).2
 refine al 1<|aD a 0<|ai 2<|cb ((M.code==6)) (fun b=>?_) (fun b=>?_)
 have b4:=ag b
 refine al 1<|aD a 2<|Pl 1<|aD a 4<|L0<|cY (m:=2) (e:=37) #[vW M.addr,vW M.value] fun d3 d4 b5 b7 a0=>?_
 have b8:=eB b5 (xs:=[M.addr,M.value]) (by as_aux_lemma=>kernel_rfl) (am (by omega) (am (by omega) aR)) (by(try simp only[List.length_cons,List.length_nil]);omega) b7
 refine ay<|dV (i2 (xs:=[M.addr,M.value]) (b8).rd (by(try simp only[bT]);omega)) fun ba bb d5 bc d7 d8 bd=>ai 1<|rt<|br<|tr<|rr (.slice ba ((aO ([M.addr,M.value])).length) bb)<|?_
 have hs:dU dir M=(aO ([M.addr,M.value])):=by
   unfold dU
   (try simp only[show(M.code==3)=false from(by rw[ag b];rfl),show(M.code==4)=false from(by rw[ag b];rfl),show(M.code==16)=false from(by rw[ag b];rfl),show(M.code==22)=false from(by rw[ag b];rfl),show(M.code==23)=false from(by rw[ag b];rfl),show(M.code==24)=false from(by rw[ag b];rfl),g,j,o,q,r,p,b,bz,Bool.or_true,Bool.true_or,Bool.or_false,Bool.false_or,Bool.and_true,Bool.true_and,Bool.and_false,Bool.false_and,reduceIte])
   all_goals first | rfl | (simp_all;done)
 rw[hs]
 exact⟨_,rfl,(b6.weaken bc (le (le l.size n.size) a0.size)),(aI i (aI a0 bd))⟩
 have b4:=au b
 refine al 1<|aD a 0<|ai 2<|cb ((M.code==16)) (fun c=>?_) (fun c=>?_)
 have be:=ag c
 refine go<|Pl 1<|aD a 2<|Pl 1<|aD a 3<|L0<|cY (m:=2) (e:=37) #[vW M.addr,vW M.count] fun d9 da bf bg G=>?_
 have bh:=eB bf (xs:=[M.addr,M.count]) (by as_aux_lemma=>kernel_rfl) (am (by omega) (am (by omega) aR)) (by(try simp only[List.length_cons,List.length_nil]);omega) bg
 refine Pl 1<|nl<|bn<|tn<|al 1<|ay<|dV (i2 (xs:=[M.addr,M.count]) (bh).rd (by(try simp only[bT]);omega)) fun bm db dc a1 dd de a2=>ai 1<|sq<|aE 1<|c1<|go<|Pl 2<|bq (2*(M.words.length:Int))<|Pl 1<|L0<|cY (m:=1) (e:=5) #[vB ((2*(M.words.length:Int))%256)] fun df dg bo bp H=>?_
 have bs:=cG bo (xs:=[((2*(M.words.length:Int))%256)]) (by as_aux_lemma=>kernel_rfl) (am (by omega) aR) (by(try simp only[List.length_cons,List.length_nil]);omega) bp
 refine L0<|bQ b9 (xs:=(aO ([M.addr,M.count]))) (ys:=([((2*(M.words.length:Int))%256)])) (vB 0) 1 (av a1 H (fun x hx=>aF) (fun _ _ h=>h)) (bs).rd (by(try simp only[bT,aC]);omega) (le a2.size H.size) fun dh di dj a3 bt=>Pl 1<|aM 2<|?_
 have a4:=ut a2 (ut (aH.mono (S':=(ob bm++[])) H aA) bt (ap il aA)) (ap (aT a1 lr) aA)
 have a5:=aI G a4
 refine L0<|bQ b9 (xs:=((aO ([M.addr,M.count]))++[((2*(M.words.length:Int))%256)])) (ys:=(aO M.words)) (vB 0) 1 a3 ((av u a5 (fun x hx=>aF) (fun _ _ h=>h))).rd (by(try simp only[bT,aC]);omega) a4.size fun bu bv dk bw bx=>ai 1<|rt<|rr (.slice bu ((((aO ([M.addr,M.count]))++[((2*(M.words.length:Int))%256)])++(aO M.words)).length) bv)<|?_
 have hs:dU dir M=(((aO ([M.addr,M.count]))++[((2*(M.words.length:Int))%256)])++(aO M.words)):=by
   unfold dU
   (try simp only[show(M.code==3)=false from(by rw[ag c];rfl),show(M.code==4)=false from(by rw[ag c];rfl),show(M.code==6)=false from(by rw[ag c];rfl),show(M.code==22)=false from(by rw[ag c];rfl),show(M.code==23)=false from(by rw[ag c];rfl),show(M.code==24)=false from(by rw[ag c];rfl),g,j,o,q,r,p,b,c,bz,Bool.or_true,Bool.true_or,Bool.or_false,Bool.false_or,Bool.and_true,Bool.true_and,Bool.and_false,Bool.false_and,reduceIte])
   all_goals first | rfl | (simp_all;done)
 rw[hs]
 exact⟨_,rfl,(b6.weaken bw (le (le l.size n.size) G.size)),(aI i (ut a5 bx (ap (aT a3 G.size) aA)))⟩
 have be:=au c
 refine al 1<|aD a 0<|ai 2<|cb ((M.code==22)) (fun d=>?_) (fun d=>?_)
 have bA:=ag d
 refine al 1<|aD a 2<|Pl 1<|aD a 5<|Pl 1<|aD a 6<|L0<|cY (m:=3) (e:=37) #[vW M.addr,vW M.and_,vW M.or_] fun dl dm bD bE a6=>?_
 have bF:=eB bD (xs:=[M.addr,M.and_,M.or_]) (by as_aux_lemma=>kernel_rfl) (am (by omega) (am (by omega) (am (by omega) aR))) (by(try simp only[List.length_cons,List.length_nil]);omega) bE
 refine ay<|dV (i2 (xs:=[M.addr,M.and_,M.or_]) (bF).rd (by(try simp only[bT]);omega)) fun bG bH dn bI dp dq bJ=>ai 1<|rt<|br<|tr<|rr (.slice bG ((aO ([M.addr,M.and_,M.or_])).length) bH)<|?_
 have hs:dU dir M=(aO ([M.addr,M.and_,M.or_])):=by
   unfold dU
   (try simp only[show(M.code==3)=false from(by rw[ag d];rfl),show(M.code==4)=false from(by rw[ag d];rfl),show(M.code==6)=false from(by rw[ag d];rfl),show(M.code==16)=false from(by rw[ag d];rfl),show(M.code==23)=false from(by rw[ag d];rfl),show(M.code==24)=false from(by rw[ag d];rfl),g,j,o,q,r,p,b,c,d,bz,Bool.or_true,Bool.true_or,Bool.or_false,Bool.false_or,Bool.and_true,Bool.true_and,Bool.and_false,Bool.false_and,reduceIte])
   all_goals first | rfl | (simp_all;done)
 rw[hs]
 exact⟨_,rfl,(b6.weaken bI (le (le l.size n.size) a6.size)),(aI i (aI a6 bJ))⟩
 have bA:=au d
 refine al 1<|aD a 0<|ai 2<|cb ((M.code==23)) (fun f=>?_) (fun f=>?_)
 have bL:=ag f
 refine go<|Pl 1<|aD a 2<|Pl 1<|aD a 3<|Pl 1<|aD a 7<|Pl 2<|L0<|cY (m:=4) (e:=37) #[vW M.addr,vW M.count,vW M.addr2,vW ((M.words.length:Int)%65536)] fun dr ds bM bN I=>?_
 have bO:=eB bM (xs:=[M.addr,M.count,M.addr2,((M.words.length:Int)%65536)]) (by as_aux_lemma=>kernel_rfl) (am (by omega) (am (by omega) (am (by omega) (am (by omega) aR)))) (by(try simp only[List.length_cons,List.length_nil]);omega) bN
 refine Pl 1<|nl<|bn<|tn<|al 1<|ay<|dV (i2 (xs:=[M.addr,M.count,M.addr2,((M.words.length:Int)%65536)]) (bO).rd (by(try simp only[bT]);omega)) fun bP dt du a7 dv dw a8=>ai 1<|sq<|aE 1<|c1<|go<|Pl 2<|bq (2*(M.words.length:Int))<|Pl 1<|L0<|cY (m:=1) (e:=5) #[vB ((2*(M.words.length:Int))%256)] fun dx dy bR bS J=>?_
 have bU:=cG bR (xs:=[((2*(M.words.length:Int))%256)]) (by as_aux_lemma=>kernel_rfl) (am (by omega) aR) (by(try simp only[List.length_cons,List.length_nil]);omega) bS
 refine L0<|bQ b9 (xs:=(aO ([M.addr,M.count,M.addr2,((M.words.length:Int)%65536)]))) (ys:=([((2*(M.words.length:Int))%256)])) (vB 0) 1 (av a7 J (fun x hx=>aF) (fun _ _ h=>h)) (bU).rd (by(try simp only[bT,aC]);omega) (le a8.size J.size) fun dz dA dB a9 bV=>Pl 1<|aM 2<|?_
 have aa:=ut a8 (ut (aH.mono (S':=(ob bP++[])) J aA) bV (ap il aA)) (ap (aT a7 lr) aA)
 have ab:=aI I aa
 refine L0<|bQ b9 (xs:=((aO ([M.addr,M.count,M.addr2,((M.words.length:Int)%65536)]))++[((2*(M.words.length:Int))%256)])) (ys:=(aO M.words)) (vB 0) 1 a9 ((av u ab (fun x hx=>aF) (fun _ _ h=>h))).rd (by(try simp only[bT,aC]);omega) aa.size fun bW bX dC bY bZ=>ai 1<|rt<|rr (.slice bW ((((aO ([M.addr,M.count,M.addr2,((M.words.length:Int)%65536)]))++[((2*(M.words.length:Int))%256)])++(aO M.words)).length) bX)<|?_
 have hs:dU dir M=(((aO ([M.addr,M.count,M.addr2,((M.words.length:Int)%65536)]))++[((2*(M.words.length:Int))%256)])++(aO M.words)):=by
   unfold dU
   (try simp only[show(M.code==3)=false from(by rw[ag f];rfl),show(M.code==4)=false from(by rw[ag f];rfl),show(M.code==6)=false from(by rw[ag f];rfl),show(M.code==16)=false from(by rw[ag f];rfl),show(M.code==22)=false from(by rw[ag f];rfl),show(M.code==24)=false from(by rw[ag f];rfl),g,j,o,q,r,p,b,c,d,f,bz,Bool.or_true,Bool.true_or,Bool.or_false,Bool.false_or,Bool.and_true,Bool.true_and,Bool.and_false,Bool.false_and,reduceIte])
   all_goals first | rfl | (simp_all;done)
 rw[hs]
 exact⟨_,rfl,(b6.weaken bY (le (le l.size n.size) I.size)),(aI i (ut ab bZ (ap (aT a9 I.size) aA)))⟩
 have bL:=au f
 refine al 1<|aD a 0<|Pl 2<|cu 3 [106] 109 (((M.code==24)&&(dir==0))) (fun K ac=>?_) ?_
 refine bl 106 ((M.code==24)) (fun B=>?_) (fun B=>?_)
 have c2:=ag B
 exact Pl 3<|ce ac (dir==0) (by rw[B];rfl)
 have c2:=au B
 exact Pl 3<|ce ac false (by rw[B];rfl)
 refine ai 1<|cb (((M.code==24)&&(dir==0))) (fun t=>?_) (fun t=>?_)
 have s:=(bC t).1
 have c3:=(bC t).2
 refine al 1<|aD a 2<|L0<|cY (m:=1) (e:=37) #[vW M.addr] fun dE dF c4 c5 ad=>?_
 have c6:=eB c4 (xs:=[M.addr]) (by as_aux_lemma=>kernel_rfl) (am (by omega) aR) (by(try simp only[List.length_cons,List.length_nil]);omega) c5
 refine ay<|dV (i2 (xs:=[M.addr]) (c6).rd (by(try simp only[bT]);omega)) fun c7 c8 dG c9 dH dI ca=>ai 1<|rt<|br<|tr<|rr (.slice c7 ((aO ([M.addr])).length) c8)<|?_
 have hs:dU dir M=(aO ([M.addr])):=by
   unfold dU
   (try simp only[show(M.code==3)=false from(by rw[ag s];rfl),show(M.code==4)=false from(by rw[ag s];rfl),show(M.code==6)=false from(by rw[ag s];rfl),show(M.code==16)=false from(by rw[ag s];rfl),show(M.code==22)=false from(by rw[ag s];rfl),show(M.code==23)=false from(by rw[ag s];rfl),g,j,o,q,r,p,b,c,d,f,t,s,c3,bz,Bool.or_true,Bool.true_or,Bool.or_false,Bool.false_or,Bool.and_true,Bool.true_and,Bool.and_false,Bool.false_and,reduceIte])
   all_goals first | rfl | (simp_all;done)
 rw[hs]
 exact⟨_,rfl,(b6.weaken c9 (le (le l.size n.size) ad.size)),(aI i (aI ad ca))⟩
 refine al 1<|aD a 0<|ai 2<|cb ((M.code==24)) (fun k=>?_) (fun k=>?_)
 have cc:=ag k
 refine al 1<|bq (2*(M.words.length:Int))<|bq ((2*(M.words.length:Int))+2)<|Pl 3<|L0<|cY (m:=2) (e:=37) #[vW (((2*(M.words.length:Int))+2)%65536),vW ((M.words.length:Int)%65536)] fun dJ dK cd cf L=>?_
 have cg:=eB cd (xs:=[(((2*(M.words.length:Int))+2)%65536),((M.words.length:Int)%65536)]) (by as_aux_lemma=>kernel_rfl) (am (by omega) (am (by omega) aR)) (by(try simp only[List.length_cons,List.length_nil]);omega) cf
 refine ai 1<|go<|Pl 1<|nl<|bn<|tn<|al 1<|ay<|dV (i2 (xs:=[(((2*(M.words.length:Int))+2)%65536),((M.words.length:Int)%65536)]) (cg).rd (by(try simp only[bT]);omega)) fun dL dM dN ae dO dP af=>Pl 1<|nl<|tn<|sq<|aE 1<|c0<|bj<|al 2<|?_
 have ah:=aI L af
 refine L0<|bQ b9 (xs:=(aO ([(((2*(M.words.length:Int))+2)%65536),((M.words.length:Int)%65536)]))) (ys:=(aO M.words)) (vB 0) 1 ae ((av u ah (fun x hx=>aF) (fun _ _ h=>h))).rd (by(try simp only[bT,aC]);omega) af.size fun ch ci dQ cj ck=>ai 1<|rt<|rr (.slice ch (((aO ([(((2*(M.words.length:Int))+2)%65536),((M.words.length:Int)%65536)]))++(aO M.words)).length) ci)<|?_
 have hs:dU dir M=((aO ([(((2*(M.words.length:Int))+2)%65536),((M.words.length:Int)%65536)]))++(aO M.words)):=by
   unfold dU
   (try simp only[show(M.code==3)=false from(by rw[ag k];rfl),show(M.code==4)=false from(by rw[ag k];rfl),show(M.code==6)=false from(by rw[ag k];rfl),show(M.code==16)=false from(by rw[ag k];rfl),show(M.code==22)=false from(by rw[ag k];rfl),show(M.code==23)=false from(by rw[ag k];rfl),g,j,o,q,r,p,b,c,d,f,t,k,bz,Bool.or_true,Bool.true_or,Bool.or_false,Bool.false_or,Bool.and_true,Bool.true_and,Bool.and_false,Bool.false_and,reduceIte])
   all_goals first | rfl | (simp_all;done)
 rw[hs]
 exact⟨_,rfl,(b6.weaken cj (le (le l.size n.size) L.size)),(aI i (ut ah ck (ap (aT ae L.size) aA)))⟩
 have cc:=au k
 refine sk<|bn<|tn<|al 1<|ay<|dV (i2 (xs:=[]) (aS.nil true _ _ _ _) (by(try simp only[bT]);omega)) fun cl dR dS aj dT dW ak=>ai 1<|sq<|al 1<|nl<|tn<|c1<|go<|Pl 2<|bq (2*(M.words.length:Int))<|Pl 1<|L0<|cY (m:=1) (e:=5) #[vB ((2*(M.words.length:Int))%256)] fun dX dY cm cn N=>?_
 have co:=cG cm (xs:=[((2*(M.words.length:Int))%256)]) (by as_aux_lemma=>kernel_rfl) (am (by omega) aR) (by(try simp only[List.length_cons,List.length_nil]);omega) cn
 refine L0<|bQ b9 (xs:=(aO ([]))) (ys:=([((2*(M.words.length:Int))%256)])) (vB 0) 1 (av aj N (fun x hx=>aF) (fun _ _ h=>h)) (co).rd (by(try simp only[bT,aC]);omega) (le ak.size N.size) fun dZ e0 e1 an cp=>Pl 1<|aM 2<|?_
 have O:=ut ak (ut (aH.mono (S':=(ob cl++[])) N aA) cp (ap il aA)) (ap (aT aj lr) aA)
 refine L0<|bQ b9 (xs:=((aO ([]))++[((2*(M.words.length:Int))%256)])) (ys:=(aO M.words)) (vB 0) 1 an ((av u O (fun x hx=>aF) (fun _ _ h=>h))).rd (by(try simp only[bT,aC]);omega) O.size fun cq cr e2 ct cv=>ai 1<|rt<|rr (.slice cq ((((aO ([]))++[((2*(M.words.length:Int))%256)])++(aO M.words)).length) cr)<|?_
 have hs:dU dir M=(((aO ([]))++[((2*(M.words.length:Int))%256)])++(aO M.words)):=by
   unfold dU
   (try simp only[g,j,o,q,r,p,b,c,d,f,t,k,bi,Bool.or_true,Bool.true_or,Bool.or_false,Bool.false_or,Bool.and_true,Bool.true_and,Bool.and_false,Bool.false_and,reduceIte])
   all_goals first | rfl | (simp_all;done)
 rw[hs]
 exact⟨_,rfl,(b6.weaken ct i.size),(aI i (ut O cv (ap (aT an lr) aA)))⟩
open Go.RowKit
def mA (dir code:Int)(r:dx) : List Int:=(if code==20&&dir==1 then [(2*(r.words.length:Int)+1)%256,6] else [6]++aO [r.file,r.record,r.count])++aO r.words
def dz (dir code:Int) : List dx→List Int
  | []=>[]
  | r :: rs=>mA dir code r++dz dir code rs
theorem kg(dir code:Int)(xs:List dx)(k:Nat)(h:k<xs.length) : dz dir code (xs.drop k)=mA dir code (xs.getD k ⟨0,0,0,[]⟩)++dz dir code (xs.drop (k+1)):=by
  rw[List.drop_eq_getElem_cons h]
  simp[dz,List.getD_eq_getElem?_getD,List.getElem?_eq_getElem h]
def eR (dir:Int)(M:aU) : List Int:=[((dz dir M.code M.recs).length:Int)%256]++dz dir M.code M.recs
theorem rl{m:Md}{cs:Array Value}{M:aU}{w:World}{dir:Int}(h:aJ m w cs.toList M)(hf:bB M) : Calls Tryz.prog 187 #[vI dir,.agg cs] w (jK (eR dir M) w):=by
 refine fo h fun Aw kw Ab kb Ad kd Ar kr Ao ko e hw hbt hd hr ho _ _ _ _ _ _ _ _ _ _ q0 q1 q2 q3 q4 q5 q6 q7 q8 q9 b4 b5 b7 b8 ba bb bc=>?_
 subst e
 have hf1:=hf.words
 have hf2:=hf.bits
 have hf3:=hf.data
 have hf4:=hf.recs
 have hf5:=hf.objects
 refine en 60 Tryz.func187 rfl<|sg<|L0<|d6 (mG M.code M.fail M.addr M.count M.value M.and_ M.or_ M.addr2 M.sub M.status M.events M.messages (.slice Aw M.words.length kw) (.slice Ab M.bits.length kb) (.slice Ad M.data.length kd) (.slice Ar M.recs.length kr) M.mei M.kind M.level M.more M.next (.slice Ao M.objects.length ko)) fun N o bd a4 p=>Pl 1<|cE 1<|sq<|sq<|go<|ai 1<|bk<|jf (fun x=>[(0,vI dir),(3,vP N 0),(4,nS),(5,.slice x.2.2.1 x.2.1.length x.2.2.2),(6,vI (x.1:Int))]) (fun(x:Nat × List Int × Option Addr × Nat) w'=>aH [] o w'∧eG o.heap.size w' (.slice x.2.2.1 x.2.1.length x.2.2.2) x.2.1∧(x.1≤M.recs.length)∧(x.2.1++dz dir M.code (M.recs.drop x.1)=([])++dz dir M.code M.recs)∧(x.2.1.length≤16+x.1*2060)∧(0≤x.2.1.length)) (fun x=>M.recs.length-x.1) (0,[],none,0) ⟨aH.refl _ _,(b6.nil o.heap.size _ _ wx _),(by(try dsimp only);omega),rfl,(by(try dsimp only);(try simp only[List.length_cons,List.length_nil]);omega),(by(try dsimp only);(try simp only[List.length_cons,List.length_nil]);omega)⟩ ?_
 rintro⟨k,L,A,cp⟩ a5 ⟨a,a6,a7,a8,a9,aa⟩
 refine je [(0,vI dir),(3,vP N 0),(4,nS),(5,.slice A L.length cp),(6,vI (k:Int))] ?_
 have b:eG o.heap.size a5 (.slice A L.length cp) L:=a6
 have be:k≤M.recs.length:=a7
 have bf:L++dz dir M.code (M.recs.drop k)=([])++dz dir M.code M.recs:=a8
 have bg:L.length≤16+k*2060:=a9
 have bh:0≤L.length:=aa
 have hL:L++dz dir M.code (M.recs.drop k)=([])++dz dir M.code M.recs:=by assumption
 have hv0:=fun(h:k<M.recs.length)=>hf.recw _ (ez ⟨0,0,0,[]⟩ M.recs k h)
 refine sq<|al 2<|?_
 have y:=ub a a4
 refine aD y 15<|ai 2<|?_
 have q:=aI p a
 refine cb ((decide ((k:Int)<(M.recs.length:Int)))) (fun f=>?_) (fun f=>?_)
 have ab:=of_decide_eq_true f
 refine bj<|sq<|bk<|al 1<|aD y 15<|Pl 1<|lU (nc.elt hr k (by omega)) fun bm bo bp br bs O P ac ad Q bt ae=>L0<|rf 4 M.recs.length k ac (by omega)<|?_
 refine L0<|CW [vW ((M.recs.getD k ⟨0,0,0,[]⟩).file),vW ((M.recs.getD k ⟨0,0,0,[]⟩).record),vW ((M.recs.getD k ⟨0,0,0,[]⟩).count),.slice O ((M.recs.getD k ⟨0,0,0,[]⟩).words.length) P] (ub q ad) ae<|aK #[vW 0,vW 0,vW 0,nS] fun bu bv z af c=>aG af #[vW ((M.recs.getD k ⟨0,0,0,[]⟩).file),vW ((M.recs.getD k ⟨0,0,0,[]⟩).record),vW ((M.recs.getD k ⟨0,0,0,[]⟩).count),.slice O ((M.recs.getD k ⟨0,0,0,[]⟩).words.length) P] fun bw B d=>nt<|sq<|al 1<|?_
 have r:=ud c d z
 refine aD (ub r y) 0<|Pl 2<|cu 3 [23] 26 (((M.code==20)&&(dir==1))) (fun K R=>?_) ?_
 refine bl 23 ((M.code==20)) (fun g=>?_) (fun g=>?_)
 have ah:=ag g
 exact Pl 3<|ce R (dir==1) (by rw[g];rfl)
 have ah:=au g
 exact Pl 3<|ce R false (by rw[g];rfl)
 refine nt<|?_
 have S:=aI q r
 refine cb (((M.code==20)&&(dir==1))) (fun i=>?_) (fun i=>?_)
 have T:=(bC i).1
 have U:=(bC i).2
 have bz:=ag T
 have bD:=ag U
 refine go<|Pl 2<|aD B 3<|Pl 1<|bq (2*(((M.recs.getD k ⟨0,0,0,[]⟩).words.length:Nat) : Int))<|bq ((2*(((M.recs.getD k ⟨0,0,0,[]⟩).words.length:Nat) : Int))+1)<|Pl 1<|L0<|cY (m:=2) (e:=5) #[vB (((2*(((M.recs.getD k ⟨0,0,0,[]⟩).words.length:Nat) : Int))+1)%256),vB 6] fun bE bF aj ak s=>?_
 have an:=cG aj (xs:=[(((2*(((M.recs.getD k ⟨0,0,0,[]⟩).words.length:Nat) : Int))+1)%256),6]) (by as_aux_lemma=>kernel_rfl) (am (by omega) (am (by omega) aR)) (by(try simp only[List.length_cons,List.length_nil]);omega) ak
 have V:=aI r s
 refine L0<|bQ b9 (xs:=L) (ys:=([(((2*(((M.recs.getD k ⟨0,0,0,[]⟩).words.length:Nat) : Int))+1)%256),6])) (vB 0) 1 (av b V (fun x hx=>aF) (fun _ _ h=>h)) (an).rd (by(try simp only[bT,aC]);omega) (le (le (le a.size c.size) d.size) s.size) fun C bG bH W D=>ai 1<|go<|Pl 2<|?_
 have X:=ut (aH.mono (S':=(ob A++[])) s aA) D (ap il aA)
 refine aD (aH.blk X (bA (fE b lr z) aF) B) 3<|?_
 refine ay<|dV (i2 (xs:=(M.recs.getD k ⟨0,0,0,[]⟩).words) (ey.old Q (ut S X (ap (aT b p.size) aA))) (by(try simp only[bT]);omega)) fun bI bJ bK ao bL bM E=>?_
 refine L0<|bQ b9 (xs:=(L++[(((2*(((M.recs.getD k ⟨0,0,0,[]⟩).words.length:Nat) : Int))+1)%256),6])) (ys:=(aO ((M.recs.getD k ⟨0,0,0,[]⟩).words))) (vB 0) 1 (av W E (fun x hx=>aF) (fun _ _ h=>h)) (ao).rd (by(try simp only[bT,aC]);omega) (le (le (le (le (le a.size c.size) d.size) s.size) D.size) E.size) fun aq ar bN aw ax=>Pl 1<|nl<|bn<|tn<|go<|Pl 1<|bq ((k:Int)+1)<|Pl 1<|nl<|?_
 exact gI ((k+1),((L++[(((2*(((M.recs.getD k ⟨0,0,0,[]⟩).words.length:Nat) : Int))+1)%256),6])++(aO ((M.recs.getD k ⟨0,0,0,[]⟩).words))),aq,ar) ⟨(ut a (ut (aH.mono (S':=(ob A++(ob C++[]))) V aA) (ut (aH.mono (S':=(ob A++(ob C++[]))) D (ap il aA)) (ut (aH.mono (S':=(ob C++[])) E aA) ax (ap il aA)) (ap il aA)) (ap il (ap il aA))) (ap (aT b lr) (ap (aT W lr) aA))),aw,(by(try dsimp only);omega),(by(try dsimp only);rw[← hL,kg dir M.code M.recs k (by omega)];simp only[mA,f,i,T,U,bi,List.append_assoc]),(by(try dsimp only);have hv:=hf.recw _ (ez ⟨0,0,0,[]⟩ M.recs k (by omega));(try simp only[bT,aC]);omega),(by(try dsimp only);(try simp only[bT]);omega)⟩ (by omega)
 refine al 1<|L0<|cY (m:=1) (e:=5) #[vB 6] fun bO bP az aB j=>?_
 have aE:=cG az (xs:=[6]) (by as_aux_lemma=>kernel_rfl) (am (by omega) aR) (by(try simp only[List.length_cons,List.length_nil]);omega) aB
 have Y:=aI r j
 refine L0<|bQ b9 (xs:=L) (ys:=([6])) (vB 0) 1 (av b Y (fun x hx=>aF) (fun _ _ h=>h)) (aE).rd (by(try simp only[bT,aC]);omega) (le (le (le a.size c.size) d.size) j.size) fun l bR bS t u=>ai 1<|go<|Pl 2<|?_
 have Z:=ut (aH.mono (S':=(ob A++[])) j aA) u (ap il aA)
 have n:=aH.blk Z (bA (fE b lr z) aF) B
 refine aD n 0<|Pl 1<|aD n 1<|Pl 1<|aD n 2<|L0<|cY (m:=3) (e:=37) #[vW ((M.recs.getD k ⟨0,0,0,[]⟩).file),vW ((M.recs.getD k ⟨0,0,0,[]⟩).record),vW ((M.recs.getD k ⟨0,0,0,[]⟩).count)] fun bU bV aL aM F=>?_
 have aN:=eB aL (xs:=[(M.recs.getD k ⟨0,0,0,[]⟩).file,(M.recs.getD k ⟨0,0,0,[]⟩).record,(M.recs.getD k ⟨0,0,0,[]⟩).count]) (by as_aux_lemma=>kernel_rfl) (am (by omega) (am (by omega) (am (by omega) aR))) (by(try simp only[List.length_cons,List.length_nil]);omega) aM
 refine ay<|dV (i2 (xs:=[(M.recs.getD k ⟨0,0,0,[]⟩).file,(M.recs.getD k ⟨0,0,0,[]⟩).record,(M.recs.getD k ⟨0,0,0,[]⟩).count]) (aN).rd (by(try simp only[bT]);omega)) fun bW bX bY aP bZ c0 G=>?_
 have a0:=aI F G
 refine L0<|bQ b9 (xs:=(L++[6])) (ys:=(aO ([(M.recs.getD k ⟨0,0,0,[]⟩).file,(M.recs.getD k ⟨0,0,0,[]⟩).record,(M.recs.getD k ⟨0,0,0,[]⟩).count]))) (vB 0) 1 (av t a0 (fun x hx=>aF) (fun _ _ h=>h)) (aP).rd (by(try simp only[bT,aC]);omega) (le (le (le (le (le (le a.size c.size) d.size) j.size) u.size) F.size) G.size) fun v c1 c2 a1 a2=>ai 1<|go<|Pl 2<|?_
 have H:=ut (aH.mono (S':=(ob l++[])) a0 aA) a2 (ap il aA)
 refine aD (aH.blk H (bA (dG n t (by decide)) aF) n) 3<|?_
 refine ay<|dV (i2 (xs:=(M.recs.getD k ⟨0,0,0,[]⟩).words) (ey.old Q (ut S (ut (aH.mono (S':=(ob A++(ob l++[]))) Z (ap il aA)) H (ap il aA)) (ap (aT b p.size) (ap (aT t p.size) aA)))) (by(try simp only[bT]);omega)) fun c3 c4 c5 aQ c6 c7 I=>?_
 refine L0<|bQ b9 (xs:=((L++[6])++(aO ([(M.recs.getD k ⟨0,0,0,[]⟩).file,(M.recs.getD k ⟨0,0,0,[]⟩).record,(M.recs.getD k ⟨0,0,0,[]⟩).count])))) (ys:=(aO ((M.recs.getD k ⟨0,0,0,[]⟩).words))) (vB 0) 1 (av a1 I (fun x hx=>aF) (fun _ _ h=>h)) (aQ).rd (by(try simp only[bT,aC]);omega) (le (le (le (le (le (le (le (le a.size c.size) d.size) j.size) u.size) F.size) G.size) a2.size) I.size) fun aS aV c8 aW aX=>Pl 1<|nl<|bn<|tn<|go<|Pl 1<|bq ((k:Int)+1)<|Pl 1<|nl<|?_
 exact gI ((k+1),(((L++[6])++(aO ([(M.recs.getD k ⟨0,0,0,[]⟩).file,(M.recs.getD k ⟨0,0,0,[]⟩).record,(M.recs.getD k ⟨0,0,0,[]⟩).count])))++(aO ((M.recs.getD k ⟨0,0,0,[]⟩).words))),aS,aV) ⟨(ut a (ut (aH.mono (S':=(ob A++(ob l++(ob v++[])))) Y aA) (ut (aH.mono (S':=(ob A++(ob l++(ob v++[])))) u (ap il aA)) (ut (aH.mono (S':=(ob l++(ob v++[]))) H (ap il aA)) (ut (aH.mono (S':=(ob v++[])) I aA) aX (ap il aA)) (ap il aA)) (ap il (ap il aA))) (ap il (ap il (ap il aA)))) (ap (aT b lr) (ap (aT t lr) (ap (aT a1 lr) aA)))),aW,(by(try dsimp only);omega),(by(try dsimp only);rw[← hL,kg dir M.code M.recs k (by omega)];simp only[mA,f,i,bi,List.append_assoc]),(by(try dsimp only);have hv:=hf.recw _ (ez ⟨0,0,0,[]⟩ M.recs k (by omega));(try simp only[bT,aC]);omega),(by(try dsimp only);(try simp only[bT]);omega)⟩ (by omega)
 have ab:=of_decide_eq_false f
 refine xt<|tx<|tx<|bx<|tn<|al 3<|L0<|cY (m:=1) (e:=5) #[vB ((L.length:Int)%256)] fun c9 ca aY aZ J=>?_
 have a3:=cG aY (xs:=[((L.length:Int)%256)]) (by as_aux_lemma=>kernel_rfl) (am (by omega) aR) (by(try simp only[List.length_cons,List.length_nil]);omega) aZ
 refine Pl 1<|?_
 refine L0<|bQ b9 (xs:=([((L.length:Int)%256)])) (ys:=L) (vB 0) 1 a3 ((av b J (fun x hx=>aF) (fun _ _ h=>h))).rd (by(try simp only[bT,aC]);omega) J.size fun b0 b1 cc b2 b3=>ai 1<|rt<|rr (.slice b0 (([((L.length:Int)%256)]++L).length) b1)<|?_
 have hL2:L=dz dir M.code M.recs:=by rw[show k=M.recs.length by omega,List.drop_length] at hL;rw[show dz dir M.code []=[] from rfl,List.append_nil] at hL;exact hL
 have hs:eR dir M=([((L.length:Int)%256)]++L):=by unfold eR;rw[← hL2]
 rw[hs]
 exact⟨_,rfl,(b6.weaken b2 q.size),(aI q (ut J b3 (ap (aT a3 lr) aA)))⟩
open Go.RowKit
def gE (dir:Int)(M:aU) : List Int :=
  if M.mei==13 then [13]++M.data
  else if dir==0 then [M.mei,M.kind,M.next]
  else [M.mei,M.kind,M.level,M.more,M.next,(M.objects.length:Int)%256]++fD M.objects
theorem vY{m:Md}{cs:Array Value}{M:aU}{w:World}{dir:Int}(h:aJ m w cs.toList M)(hf:bB M) : Calls Tryz.prog 188 #[vI dir,.agg cs] w (jK (gE dir M) w):=by
 refine fo h fun Aw kw Ab kb Ad kd Ar kr Ao ko e hw hbt hd hr ho _ _ _ _ _ _ _ _ _ _ q0 q1 q2 q3 q4 q5 q6 q7 q8 q9 aO aP aQ aS aV aW aY=>?_
 subst e
 have hf1:=hf.words
 have hf2:=hf.bits
 have hf3:=hf.data
 have hf4:=hf.recs
 have hf5:=hf.objects
 refine en 71 Tryz.func188 rfl<|sg<|L0<|d6 (mG M.code M.fail M.addr M.count M.value M.and_ M.or_ M.addr2 M.sub M.status M.events M.messages (.slice Aw M.words.length kw) (.slice Ab M.bits.length kb) (.slice Ad M.data.length kd) (.slice Ar M.recs.length kr) M.mei M.kind M.level M.more M.next (.slice Ao M.objects.length ko)) fun q r b0 b c=>ai 1<|sq<|al 1<|aD b 16<|Pl 1<|nl<|tn<|cb ((M.mei==13)) (fun g=>?_) (fun g=>?_)
 have X:=ag g
 refine sg<|L0<|cY (m:=1) (e:=5) #[vB 13] fun b1 b2 Y Z s=>?_
 have G:=cG Y (xs:=[13]) (by as_aux_lemma=>kernel_rfl) (am (by omega) aR) (by(try simp only[List.length_cons,List.length_nil]);omega) Z
 refine Pl 1<|?_
 refine aD (ub s b) 14<|?_
 have H:=aI c s
 refine L0<|bQ b9 (xs:=([13])) (ys:=M.data) (vB 0) 1 G (aZ.old hd H) (by(try simp only[bT,aC]);omega) s.size fun a0 a1 b3 a2 a3=>ai 1<|aX<|rr (.slice a0 (([13]++M.data).length) a1)<|?_
 exact cv (by unfold gE;(try simp only[g,bi,Bool.or_true,Bool.true_or,Bool.or_false,Bool.false_or,Bool.and_true,Bool.true_and,Bool.and_false,Bool.false_and,reduceIte])<;>rfl) ⟨_,rfl,(b6.weaken a2 c.size),(ut H a3 (ap (aT G c.size) aA))⟩
 have X:=au g
 refine bj<|sq<|aE 2<|cb ((dir==0)) (fun n=>?_) (fun n=>?_)
 have a4:=ag n
 refine al 1<|aD b 16<|Pl 1<|aD b 17<|Pl 1<|aD b 20<|L0<|cY (m:=3) (e:=5) #[vB M.mei,vB M.kind,vB M.next] fun a5 b4 a6 a7 a8=>?_
 have a9:=cG a6 (xs:=[M.mei,M.kind,M.next]) (by as_aux_lemma=>kernel_rfl) (am (by omega) (am (by omega) (am (by omega) aR))) (by(try simp only[List.length_cons,List.length_nil]);omega) a7
 refine ai 1<|aX<|rr (.slice (some ⟨a5,0,none⟩) 3 3)<|?_
 exact cv (by unfold gE;(try simp only[g,n,bi,Bool.or_true,Bool.true_or,Bool.or_false,Bool.false_or,Bool.and_true,Bool.true_and,Bool.and_false,Bool.false_and,reduceIte])<;>rfl) ⟨_,rfl,(b6.weaken a9 c.size),(aI c a8)⟩
 have a4:=au n
 refine bj<|al 1<|aD b 16<|Pl 1<|aD b 17<|Pl 1<|aD b 18<|Pl 1<|aD b 19<|Pl 1<|aD b 20<|Pl 1<|aD b 21<|Pl 2<|L0<|cY (m:=6) (e:=5) #[vB M.mei,vB M.kind,vB M.level,vB M.more,vB M.next,vB ((M.objects.length:Int)%256)] fun aa ab ac ad t=>?_
 have af:=cG ac (xs:=[M.mei,M.kind,M.level,M.more,M.next,((M.objects.length:Int)%256)]) (by as_aux_lemma=>kernel_rfl) (am (by omega) (am (by omega) (am (by omega) (am (by omega) (am (by omega) (am (by omega) aR)))))) (by(try simp only[List.length_cons,List.length_nil]);omega) ad
 refine ai 1<|sq<|aE 1<|bk<|jf (fun x=>[(3,vP q 0),(4,nS),(5,.slice x.2.2.1 x.2.1.length x.2.2.2),(6,vI (x.1:Int))]) (fun(x:Nat × List Int × Option Addr × Nat) w'=>aH [] r w'∧ab.heap.size≤w'.heap.size∧eG r.heap.size w' (.slice x.2.2.1 x.2.1.length x.2.2.2) x.2.1∧(x.1≤M.objects.length)∧(x.2.1++fD (M.objects.drop x.1)=([M.mei,M.kind,M.level,M.more,M.next,((M.objects.length:Int)%256)])++fD M.objects)∧(x.2.1.length≤16+x.1*1026)∧(6≤x.2.1.length)) (fun x=>M.objects.length-x.1) (0,[M.mei,M.kind,M.level,M.more,M.next,((M.objects.length:Int)%256)],some ⟨aa,0,none⟩,6) ⟨t,lr,af,(by(try dsimp only);omega),rfl,(by(try dsimp only);(try simp only[List.length_cons,List.length_nil]);omega),(by(try dsimp only);(try simp only[List.length_cons,List.length_nil]);omega)⟩ ?_
 rintro⟨k,L,A,cp⟩ ah ⟨u,y,aj,ak,an,ao,ar⟩
 refine je [(3,vP q 0),(4,nS),(5,.slice A L.length cp),(6,vI (k:Int))] ?_
 have i:eG r.heap.size ah (.slice A L.length cp) L:=aj
 have b5:k≤M.objects.length:=ak
 have b7:L++fD (M.objects.drop k)=([M.mei,M.kind,M.level,M.more,M.next,((M.objects.length:Int)%256)])++fD M.objects:=an
 have b8:L.length≤16+k*1026:=ao
 have ba:6≤L.length:=ar
 have hL:L++fD (M.objects.drop k)=([M.mei,M.kind,M.level,M.more,M.next,((M.objects.length:Int)%256)])++fD M.objects:=by assumption
 have hv0:=fun(h:k<M.objects.length)=>hf.objv _ (ez ⟨0,[]⟩ M.objects k h)
 refine sq<|al 2<|?_
 have I:=ub u b
 refine aD I 21<|ai 2<|?_
 have J:=aI c u
 refine cb ((decide ((k:Int)<(M.objects.length:Int)))) (fun o=>?_) (fun o=>?_)
 have aw:=of_decide_eq_true o
 refine bj<|sq<|bk<|sq<|lU (o0.elt ho k (by omega)) fun z B bb bc bd K N C O ax be d=>Rg 18 (fun w'=>w'.cell? ⟨q,21,none⟩=some (.slice Ao M.objects.length ko)∧w'.cell? ⟨z,B+k*2+0,none⟩=some (vB ((M.objects.getD k ⟨0,[]⟩).id))∧w'.cell? ⟨z,B+k*2+1,none⟩=some (.slice K ((M.objects.getD k ⟨0,[]⟩).value.length) N)) fun bf j=>?_
 have P:=ub j I
 have Q:=aI J j
 have D:=ub Q O
 refine bo ⟨(ae P rfl),(gt D d 0 rfl (by decide)),(gt D d 1 rfl (by decide))⟩ fun a=>Rt 0 a<|Rt 1 a<|Rl 2 a (fun _ hs=>hs.1)<|Rt 3 a<|Ri 4 a 2 M.objects.length k (k:Int) rfl C (by omega)<|Rt 5 a<|Rl 6 a (fun _ hs=>hs.2.1)<|Rt 7 a<|Rl 8 a (fun _ hs=>hs.1)<|Rt 9 a<|Ri 10 a 2 M.objects.length k (k:Int) rfl C (by omega)<|Rt 11 a<|Rl 12 a (fun _ hs=>hs.2.2)<|Rt 13 a<|Rt 14 a<|R0 15 rfl<|cY (m:=2) (e:=5) #[vB ((M.objects.getD k ⟨0,[]⟩).id),vB ((((M.objects.getD k ⟨0,[]⟩).value.length:Nat) : Int)%256)] fun bg bh ay az f=>?_
 have aB:=cG ay (xs:=[(M.objects.getD k ⟨0,[]⟩).id,((((M.objects.getD k ⟨0,[]⟩).value.length:Nat) : Int)%256)]) (by as_aux_lemma=>kernel_rfl) (am (by omega) (am (by omega) aR)) (by(try simp only[List.length_cons,List.length_nil]);omega) az
 have R:=ub f P
 have E:=ub f D
 refine bo ⟨(ae R rfl),(gt E d 0 rfl (by decide)),(gt E d 1 rfl (by decide))⟩ fun bl=>?_
 have S:=aI j f
 refine R0 16 rfl<|bQ b9 (xs:=L) (ys:=([(M.objects.getD k ⟨0,[]⟩).id,((((M.objects.getD k ⟨0,[]⟩).value.length:Nat) : Int)%256)])) (vB 0) 1 (av i S (fun x hx=>aF) (fun _ _ h=>h)) (aB).rd (by(try simp only[bT,aC]);omega) (le (le (le t.size y) j.size) f.size) fun T bm bp U l=>?_
 have V:=aH.blk l (bA (aL (aq b) lr i) aF) R
 have F:=aH.blk l (bA (aL (aq O) c.size i) aF) E
 refine bo ⟨(ae V rfl),(gt F d 0 rfl (by decide)),(gt F d 1 rfl (by decide))⟩ fun aG=>Rt 17 aG<|re<|tn<|go<|Pl 2<|aD V 21<|Pl 1<|L0<|rf 2 M.objects.length k C (by omega)<|Pl 1<|L0<|eu (p:=⟨z,B+k*2+1,none⟩) (v:=.slice K ((M.objects.getD k ⟨0,[]⟩).value.length) N) (gt F d 1 rfl (by decide))<|?_
 refine L0<|bQ b9 (xs:=(L++[(M.objects.getD k ⟨0,[]⟩).id,((((M.objects.getD k ⟨0,[]⟩).value.length:Nat) : Int)%256)])) (ys:=((M.objects.getD k ⟨0,[]⟩).value)) (vB 0) 1 U (aZ.old ax (ut Q (ut (aH.mono (S':=(ob A++[])) f aA) l (ap il aA)) (ap (aT i c.size) aA))) (by(try simp only[bT,aC]);omega) (le (le (le (le t.size y) j.size) f.size) l.size) fun aK aM br aN W=>Pl 1<|nl<|bn<|tn<|go<|Pl 1<|bq ((k:Int)+1)<|Pl 1<|nl<|?_
 exact gI ((k+1),((L++[(M.objects.getD k ⟨0,[]⟩).id,((((M.objects.getD k ⟨0,[]⟩).value.length:Nat) : Int)%256)])++(M.objects.getD k ⟨0,[]⟩).value),aK,aM) ⟨(ut u (ut (aH.mono (S':=(ob A++(ob T++[]))) S aA) (ut (aH.mono (S':=(ob A++(ob T++[]))) l (ap il aA)) W (ap il aA)) (ap il (ap il aA))) (ap (aT i lr) (ap (aT U lr) aA))),(le (le (le (le y j.size) f.size) l.size) W.size),aN,(by(try dsimp only);omega),(by(try dsimp only);rw[← hL,ow  M.objects k (by omega)];simp only[List.append_assoc]),(by(try dsimp only);have hv:=hf.objv _ (ez ⟨0,[]⟩ M.objects k (by omega));(try simp only[bT,aC]);omega),(by(try dsimp only);(try simp only[bT]);omega)⟩ (by omega)
 have aw:=of_decide_eq_false o
 refine xt<|tx<|tx<|bx<|tn<|aE 2<|rt<|rr (.slice A L.length cp)<|?_
 have hk:k=M.objects.length:=by omega
 rw[hk,List.drop_length] at hL
 have hL2:L=([M.mei,M.kind,M.level,M.more,M.next,((M.objects.length:Int)%256)])++fD M.objects:=by rw[← hL];simp[fD]
 have hs:gE dir M=L:=by
   rw[hL2]
   unfold gE
   (try simp only[g,n,o,bi,reduceIte])
   all_goals rfl
 rw[hs]
 exact⟨_,rfl,(b6.weaken i c.size),J⟩
open Go.RowKit
theorem jq{parse:Int→Int→List Int→aU × Int}{lay:Int→aU→List Int}{dir E:Int}{M X:aU}(hX:parse dir M.code (lay dir M)=(X,E))(hE:((E != 0)||(!(decide (X=M))))=true) : bv parse lay dir M=none:=by
  unfold bv
  rw[hX,if_neg]
  intro h
  injection h with h1 h2
  rw[h1,h2] at hE
  simp at hE
theorem lD(dir c:Int) : ∀ (L:List dx),(∀ r,r∈L→r.words.length≤1024)→(dz dir c L).length≤2064*L.length
  | [],_=>by simp[dz]
  | r :: L,h=>by
    have h1:=h r (by simp)
    have h2:=lD dir c L fun x hx=>h x (by simp[hx])
    simp only[dz,mA]
    repeat' split
    all_goals simp only[bT,aC]
    all_goals omega
theorem i9{M:aU}(hf:bB M)(dir:Int) : (ek dir M).length≤1048000∧(dU dir M).length≤1048000∧(fg dir M).length≤1048000∧(gE dir M).length≤1048000∧(eR dir M).length≤1048000:=by
  have hp:(bS M.bits).length≤1024:=by
    have:=hf.bits
    simp only[bS,List.length_map,List.length_range,eo]
    omega
  have h1:=hf.words
  have h2:=hf.data
  have h3:=hf.objects
  have h4:=mi M.objects hf.objv
  have h5:=lD dir M.code M.recs hf.recw
  have h6:=hf.recs
  refine⟨?_,?_,?_,?_,?_⟩
  · unfold ek
    repeat' split
    all_goals simp only[bT,aC]
    all_goals omega
  · unfold dU
    repeat' split
    all_goals simp only[bT,aC]
    all_goals omega
  · unfold fg
    repeat' split
    all_goals simp only[bT,aC]
    all_goals omega
  · unfold gE
    repeat' split
    all_goals simp only[bT]
    all_goals omega
  · unfold eR
    simp only[bT]
    omega
theorem kE{m:Md}{cs:Array Value}{M:aU}{w:World}{dir:Int}(h:aJ m w cs.toList M)(hf:bB M) : Calls Tryz.prog 121 #[vI dir,.agg cs] w (dR (bv (aj aP) ek dir M) w):=by
 have hM:=h
 have hlen:=(i9 hf dir).1
 refine fo h fun Aw kw Ab kb Ad kd Ar kr Ao ko e hw hbt hd hr ho _ _ _ _ _ _ _ _ _ _ q0 q1 q2 q3 q4 q5 q6 q7 q8 q9 T U V W X Y Z=>?_
 subst e
 refine en 31 Tryz.func121 rfl<|sg<|L0<|d6 (mG M.code M.fail M.addr M.count M.value M.and_ M.or_ M.addr2 M.sub M.status M.events M.messages (.slice Aw M.words.length kw) (.slice Ab M.bits.length kb) (.slice Ad M.data.length kd) (.slice Ar M.recs.length kr) M.mei M.kind M.level M.more M.next (.slice Ao M.objects.length ko)) fun a0 a1 a2 l g=>Pl 2<|aM 1<|L0<|bN l<|?_
 have n:=aJ.old hM g
 refine ay<|dV (tj (dir:=dir) n hf) fun D E F o a3 a4 p=>Pl 1<|aM 2<|?_
 have q:=ub p l
 refine aD q 0<|Pl 1<|pr (aj aP dir M.code (ek dir M)) fun a i j=>?_
 have r:Calls _ _ _ _ (cN _ _ (aj aP dir M.code (ek dir M)) F):=kF (dir:=dir) (c:=M.code) q0 (o).rd (by omega)
 rw[j] at r
 refine ay<|e2 (r) fun G a5 H s=>?_
 have t:=av o s (fun x hx=>aF) (fun _ _ h=>h)
 have b:=cK.rdt H (t).rd
 refine Pl 3<|aK mZ fun a6 a7 I J L=>aG (hz:=(by rw[b.size];exact aQ)) (hv:=b.size) (h1:=b.one) J (G) fun a8 N O=>Pl 1<|ng<|L0<|bN (hz:=(by rw[b.size];exact aQ)) N<|?_
 have k:=ud L O I
 have u:=aI s k
 refine L0<|bN (ub u q)<|?_
 have v:=aI p u
 refine ay<|m1 (de (A:=a) (B:=M) (aJ.upd b k aN) (aJ.old n v)) fun a9 y=>ai 1<|sq<|al 3<|cu 3 [26] 29 (((i != 0)||(!(decide (a=M))))) (fun K z=>?_) ?_
 refine bl 26 ((i != 0)) (fun d=>?_) (fun d=>?_)
 have P:=aB d
 exact Pl 3<|ce z true (by rw[d];rfl)
 have P:=az d
 exact Pl 3<|ce z (!(decide (a=M))) (by rw[d];rfl)
 refine nt<|?_
 have C:=aI g (aI v y)
 refine cb (((i != 0)||(!(decide (a=M))))) (fun f=>?_) (fun f=>?_)
 refine aE 2<|aX<|rr (.tuple #[nS,vI 1])<|cO (jq j f) ?_
 exact⟨rfl,C⟩
 have Q:=(bK f).1
 have R:=(bK f).2
 have S:(decide (a=M))=true:=by simpa using R
 refine bj<|aE 3<|rt<|rr (.tuple #[.slice D ((ek dir M).length) E,vI 0])<|cO (jk j Q S) ?_
 exact⟨_,rfl,(b6.weaken (av t (aI k y) (fun x hx=>aF) (fun _ _ h=>h)) g.size),C⟩
theorem lq{m:Md}{cs:Array Value}{M:aU}{w:World}{dir:Int}(h:aJ m w cs.toList M)(hf:bB M) : Calls Tryz.prog 122 #[vI dir,.agg cs] w (dR (bv (aj aW) dU dir M) w):=by
 have hM:=h
 have hlen:=(i9 hf dir).2.1
 refine fo h fun Aw kw Ab kb Ad kd Ar kr Ao ko e hw hbt hd hr ho _ _ _ _ _ _ _ _ _ _ q0 q1 q2 q3 q4 q5 q6 q7 q8 q9 T U V W X Y Z=>?_
 subst e
 refine en 31 Tryz.func122 rfl<|sg<|L0<|d6 (mG M.code M.fail M.addr M.count M.value M.and_ M.or_ M.addr2 M.sub M.status M.events M.messages (.slice Aw M.words.length kw) (.slice Ab M.bits.length kb) (.slice Ad M.data.length kd) (.slice Ar M.recs.length kr) M.mei M.kind M.level M.more M.next (.slice Ao M.objects.length ko)) fun a0 a1 a2 l g=>Pl 2<|aM 1<|L0<|bN l<|?_
 have n:=aJ.old hM g
 refine ay<|dV (wq (dir:=dir) n hf) fun D E F o a3 a4 p=>Pl 1<|aM 2<|?_
 have q:=ub p l
 refine aD q 0<|Pl 1<|pr (aj aW dir M.code (dU dir M)) fun a i j=>?_
 have r:Calls _ _ _ _ (cN _ _ (aj aW dir M.code (dU dir M)) F):=lE (dir:=dir) (c:=M.code) q0 (o).rd (by omega)
 rw[j] at r
 refine ay<|e2 (r) fun G a5 H s=>?_
 have t:=av o s (fun x hx=>aF) (fun _ _ h=>h)
 have b:=cK.rdt H (t).rd
 refine Pl 3<|aK mZ fun a6 a7 I J L=>aG (hz:=(by rw[b.size];exact aQ)) (hv:=b.size) (h1:=b.one) J (G) fun a8 N O=>Pl 1<|ng<|L0<|bN (hz:=(by rw[b.size];exact aQ)) N<|?_
 have k:=ud L O I
 have u:=aI s k
 refine L0<|bN (ub u q)<|?_
 have v:=aI p u
 refine ay<|m1 (de (A:=a) (B:=M) (aJ.upd b k aN) (aJ.old n v)) fun a9 y=>ai 1<|sq<|al 3<|cu 3 [26] 29 (((i != 0)||(!(decide (a=M))))) (fun K z=>?_) ?_
 refine bl 26 ((i != 0)) (fun d=>?_) (fun d=>?_)
 have P:=aB d
 exact Pl 3<|ce z true (by rw[d];rfl)
 have P:=az d
 exact Pl 3<|ce z (!(decide (a=M))) (by rw[d];rfl)
 refine nt<|?_
 have C:=aI g (aI v y)
 refine cb (((i != 0)||(!(decide (a=M))))) (fun f=>?_) (fun f=>?_)
 refine aE 2<|aX<|rr (.tuple #[nS,vI 1])<|cO (jq j f) ?_
 exact⟨rfl,C⟩
 have Q:=(bK f).1
 have R:=(bK f).2
 have S:(decide (a=M))=true:=by simpa using R
 refine bj<|aE 3<|rt<|rr (.tuple #[.slice D ((dU dir M).length) E,vI 0])<|cO (jk j Q S) ?_
 exact⟨_,rfl,(b6.weaken (av t (aI k y) (fun x hx=>aF) (fun _ _ h=>h)) g.size),C⟩
theorem lx{m:Md}{cs:Array Value}{M:aU}{w:World}{dir:Int}(h:aJ m w cs.toList M)(hf:bB M) : Calls Tryz.prog 123 #[vI dir,.agg cs] w (dR (bv (aj bg) fg dir M) w):=by
 have hM:=h
 have hlen:=(i9 hf dir).2.2.1
 refine fo h fun Aw kw Ab kb Ad kd Ar kr Ao ko e hw hbt hd hr ho _ _ _ _ _ _ _ _ _ _ q0 q1 q2 q3 q4 q5 q6 q7 q8 q9 T U V W X Y Z=>?_
 subst e
 refine en 31 Tryz.func123 rfl<|sg<|L0<|d6 (mG M.code M.fail M.addr M.count M.value M.and_ M.or_ M.addr2 M.sub M.status M.events M.messages (.slice Aw M.words.length kw) (.slice Ab M.bits.length kb) (.slice Ad M.data.length kd) (.slice Ar M.recs.length kr) M.mei M.kind M.level M.more M.next (.slice Ao M.objects.length ko)) fun a0 a1 a2 l g=>Pl 2<|aM 1<|L0<|bN l<|?_
 have n:=aJ.old hM g
 refine ay<|dV (vV (dir:=dir) n hf) fun D E F o a3 a4 p=>Pl 1<|aM 2<|?_
 have q:=ub p l
 refine aD q 0<|Pl 1<|pr (aj bg dir M.code (fg dir M)) fun a i j=>?_
 have r:Calls _ _ _ _ (cN _ _ (aj bg dir M.code (fg dir M)) F):=lG (dir:=dir) (c:=M.code) q0 (o).rd (by omega)
 rw[j] at r
 refine ay<|e2 (r) fun G a5 H s=>?_
 have t:=av o s (fun x hx=>aF) (fun _ _ h=>h)
 have b:=cK.rdt H (t).rd
 refine Pl 3<|aK mZ fun a6 a7 I J L=>aG (hz:=(by rw[b.size];exact aQ)) (hv:=b.size) (h1:=b.one) J (G) fun a8 N O=>Pl 1<|ng<|L0<|bN (hz:=(by rw[b.size];exact aQ)) N<|?_
 have k:=ud L O I
 have u:=aI s k
 refine L0<|bN (ub u q)<|?_
 have v:=aI p u
 refine ay<|m1 (de (A:=a) (B:=M) (aJ.upd b k aN) (aJ.old n v)) fun a9 y=>ai 1<|sq<|al 3<|cu 3 [26] 29 (((i != 0)||(!(decide (a=M))))) (fun K z=>?_) ?_
 refine bl 26 ((i != 0)) (fun d=>?_) (fun d=>?_)
 have P:=aB d
 exact Pl 3<|ce z true (by rw[d];rfl)
 have P:=az d
 exact Pl 3<|ce z (!(decide (a=M))) (by rw[d];rfl)
 refine nt<|?_
 have C:=aI g (aI v y)
 refine cb (((i != 0)||(!(decide (a=M))))) (fun f=>?_) (fun f=>?_)
 refine aE 2<|aX<|rr (.tuple #[nS,vI 1])<|cO (jq j f) ?_
 exact⟨rfl,C⟩
 have Q:=(bK f).1
 have R:=(bK f).2
 have S:(decide (a=M))=true:=by simpa using R
 refine bj<|aE 3<|rt<|rr (.tuple #[.slice D ((fg dir M).length) E,vI 0])<|cO (jk j Q S) ?_
 exact⟨_,rfl,(b6.weaken (av t (aI k y) (fun x hx=>aF) (fun _ _ h=>h)) g.size),C⟩
theorem kR{m:Md}{cs:Array Value}{M:aU}{w:World}{dir:Int}(h:aJ m w cs.toList M)(hf:bB M) : Calls Tryz.prog 124 #[vI dir,.agg cs] w (dR (bv (aj bh) eR dir M) w):=by
 have hM:=h
 have hlen:=(i9 hf dir).2.2.2.2
 refine fo h fun Aw kw Ab kb Ad kd Ar kr Ao ko e hw hbt hd hr ho _ _ _ _ _ _ _ _ _ _ q0 q1 q2 q3 q4 q5 q6 q7 q8 q9 T U V W X Y Z=>?_
 subst e
 refine en 31 Tryz.func124 rfl<|sg<|L0<|d6 (mG M.code M.fail M.addr M.count M.value M.and_ M.or_ M.addr2 M.sub M.status M.events M.messages (.slice Aw M.words.length kw) (.slice Ab M.bits.length kb) (.slice Ad M.data.length kd) (.slice Ar M.recs.length kr) M.mei M.kind M.level M.more M.next (.slice Ao M.objects.length ko)) fun a0 a1 a2 l g=>Pl 2<|aM 1<|L0<|bN l<|?_
 have n:=aJ.old hM g
 refine ay<|dV (rl (dir:=dir) n hf) fun D E F o a3 a4 p=>Pl 1<|aM 2<|?_
 have q:=ub p l
 refine aD q 0<|Pl 1<|pr (aj bh dir M.code (eR dir M)) fun a i j=>?_
 have r:Calls _ _ _ _ (cN _ _ (aj bh dir M.code (eR dir M)) F):=kG (dir:=dir) (c:=M.code) q0 (o).rd (by omega)
 rw[j] at r
 refine ay<|e2 (r) fun G a5 H s=>?_
 have t:=av o s (fun x hx=>aF) (fun _ _ h=>h)
 have b:=cK.rdt H (t).rd
 refine Pl 3<|aK mZ fun a6 a7 I J L=>aG (hz:=(by rw[b.size];exact aQ)) (hv:=b.size) (h1:=b.one) J (G) fun a8 N O=>Pl 1<|ng<|L0<|bN (hz:=(by rw[b.size];exact aQ)) N<|?_
 have k:=ud L O I
 have u:=aI s k
 refine L0<|bN (ub u q)<|?_
 have v:=aI p u
 refine ay<|m1 (de (A:=a) (B:=M) (aJ.upd b k aN) (aJ.old n v)) fun a9 y=>ai 1<|sq<|al 3<|cu 3 [26] 29 (((i != 0)||(!(decide (a=M))))) (fun K z=>?_) ?_
 refine bl 26 ((i != 0)) (fun d=>?_) (fun d=>?_)
 have P:=aB d
 exact Pl 3<|ce z true (by rw[d];rfl)
 have P:=az d
 exact Pl 3<|ce z (!(decide (a=M))) (by rw[d];rfl)
 refine nt<|?_
 have C:=aI g (aI v y)
 refine cb (((i != 0)||(!(decide (a=M))))) (fun f=>?_) (fun f=>?_)
 refine aE 2<|aX<|rr (.tuple #[nS,vI 1])<|cO (jq j f) ?_
 exact⟨rfl,C⟩
 have Q:=(bK f).1
 have R:=(bK f).2
 have S:(decide (a=M))=true:=by simpa using R
 refine bj<|aE 3<|rt<|rr (.tuple #[.slice D ((eR dir M).length) E,vI 0])<|cO (jk j Q S) ?_
 exact⟨_,rfl,(b6.weaken (av t (aI k y) (fun x hx=>aF) (fun _ _ h=>h)) g.size),C⟩
theorem mp{m:Md}{cs:Array Value}{M:aU}{w:World}{dir:Int}(h:aJ m w cs.toList M)(hf:bB M) : Calls Tryz.prog 125 #[vI dir,.agg cs] w (dR (bv (aj bU) gE dir M) w):=by
 have hM:=h
 have hlen:=(i9 hf dir).2.2.2.1
 refine fo h fun Aw kw Ab kb Ad kd Ar kr Ao ko e hw hbt hd hr ho _ _ _ _ _ _ _ _ _ _ q0 q1 q2 q3 q4 q5 q6 q7 q8 q9 T U V W X Y Z=>?_
 subst e
 refine en 31 Tryz.func125 rfl<|sg<|L0<|d6 (mG M.code M.fail M.addr M.count M.value M.and_ M.or_ M.addr2 M.sub M.status M.events M.messages (.slice Aw M.words.length kw) (.slice Ab M.bits.length kb) (.slice Ad M.data.length kd) (.slice Ar M.recs.length kr) M.mei M.kind M.level M.more M.next (.slice Ao M.objects.length ko)) fun a0 a1 a2 l g=>Pl 2<|aM 1<|L0<|bN l<|?_
 have n:=aJ.old hM g
 refine ay<|dV (vY (dir:=dir) n hf) fun D E F o a3 a4 p=>Pl 1<|aM 2<|?_
 have q:=ub p l
 refine aD q 0<|Pl 1<|pr (aj bU dir M.code (gE dir M)) fun a i j=>?_
 have r:Calls _ _ _ _ (cN _ _ (aj bU dir M.code (gE dir M)) F):=mO (dir:=dir) (c:=M.code) q0 (o).rd (by omega)
 rw[j] at r
 refine ay<|e2 (r) fun G a5 H s=>?_
 have t:=av o s (fun x hx=>aF) (fun _ _ h=>h)
 have b:=cK.rdt H (t).rd
 refine Pl 3<|aK mZ fun a6 a7 I J L=>aG (hz:=(by rw[b.size];exact aQ)) (hv:=b.size) (h1:=b.one) J (G) fun a8 N O=>Pl 1<|ng<|L0<|bN (hz:=(by rw[b.size];exact aQ)) N<|?_
 have k:=ud L O I
 have u:=aI s k
 refine L0<|bN (ub u q)<|?_
 have v:=aI p u
 refine ay<|m1 (de (A:=a) (B:=M) (aJ.upd b k aN) (aJ.old n v)) fun a9 y=>ai 1<|sq<|al 3<|cu 3 [26] 29 (((i != 0)||(!(decide (a=M))))) (fun K z=>?_) ?_
 refine bl 26 ((i != 0)) (fun d=>?_) (fun d=>?_)
 have P:=aB d
 exact Pl 3<|ce z true (by rw[d];rfl)
 have P:=az d
 exact Pl 3<|ce z (!(decide (a=M))) (by rw[d];rfl)
 refine nt<|?_
 have C:=aI g (aI v y)
 refine cb (((i != 0)||(!(decide (a=M))))) (fun f=>?_) (fun f=>?_)
 refine aE 2<|aX<|rr (.tuple #[nS,vI 1])<|cO (jq j f) ?_
 exact⟨rfl,C⟩
 have Q:=(bK f).1
 have R:=(bK f).2
 have S:(decide (a=M))=true:=by simpa using R
 refine bj<|aE 3<|rt<|rr (.tuple #[.slice D ((gE dir M).length) E,vI 0])<|cO (jk j Q S) ?_
 exact⟨_,rfl,(b6.weaken (av t (aI k y) (fun x hx=>aF) (fun _ _ h=>h)) g.size),C⟩
def qF (M:aU) : List Int:=[(M.code+128)%256,M.fail]
def fZ (M:aU) : Option (List Int):=if decide (128≤M.code) then none else bv (fun _ _ b=>fl b) (fun _ M=>qF M) 0 M
theorem mS{m:Md}{cs:Array Value}{M:aU}{w:World}(h:aJ m w cs.toList M) : Calls Tryz.prog 120 #[.agg cs] w (dR (fZ M) w):=by
 have hM:=h
 refine fo h fun Aw kw Ab kb Ad kd Ar kr Ao ko e hw hbt hd hr ho _ _ _ _ _ _ _ _ _ _ q0 q1 q2 q3 q4 q5 q6 q7 q8 q9 U V W X Y Z a0=>?_
 subst e
 refine en 32 Tryz.func120 rfl<|sg<|L0<|d6 (mG M.code M.fail M.addr M.count M.value M.and_ M.or_ M.addr2 M.sub M.status M.events M.messages (.slice Aw M.words.length kw) (.slice Ab M.bits.length kb) (.slice Ad M.data.length kd) (.slice Ar M.recs.length kr) M.mei M.kind M.level M.more M.next (.slice Ao M.objects.length ko)) fun a1 a2 a3 g j=>ai 2<|sq<|al 1<|aD g 0<|Pl 1<|nl<|tn<|cb ((decide (128≤M.code))) (fun a=>?_) (fun a=>?_)
 have z:=of_decide_eq_true a
 refine aE 2<|aX<|rr (.tuple #[nS,vI 1])<|cO (show fZ M=none by unfold fZ;rw[a];rfl) ?_
 exact⟨rfl,j⟩
 have z:=of_decide_eq_false a
 refine bj<|al 1<|aD g 0<|Pl 2<|aD g 1<|L0<|cY (m:=2) (e:=5) #[vB ((M.code+128)%256),vB M.fail] fun C D E F G=>?_
 have o:=cG E (xs:=[((M.code+128)%256),M.fail]) (by as_aux_lemma=>kernel_rfl) (am (by omega) (am (by omega) aR)) (by(try simp only[List.length_cons,List.length_nil]);omega) F
 refine Pl 1<|aM 1<|?_
 have a4:qF M=[((M.code+128)%256),M.fail]:=rfl
 refine pr (fl (qF M)) fun c k l=>?_
 have p:Calls _ _ _ _ (cN _ _ (fl (qF M)) D):=mJ (o).rd (show(2:Nat)≤1048576 from by decide)
 rw[l] at p
 refine ay<|e2 (p) fun H a5 I q=>?_
 have r:=av o q (fun x hx=>aF) (fun _ _ h=>h)
 have d:=cK.rdt I (r).rd
 refine Pl 3<|aK mZ fun a6 a7 J L N=>aG (hz:=(by rw[d.size];exact aQ)) (hv:=d.size) (h1:=d.one) L (H) fun a8 O P=>Pl 1<|ng<|L0<|bN (hz:=(by rw[d.size];exact aQ)) O<|?_
 have n:=ud N P J
 have s:=aI G (aI q n)
 refine L0<|bN (ub s g)<|?_
 have t:=aI j s
 refine ay<|m1 (de (A:=c) (B:=M) (aJ.upd d n aN) (aJ.old hM t)) fun a9 u=>ai 1<|sq<|al 3<|cu 3 [27] 30 (((k != 0)||(!(decide (c=M))))) (fun K v=>?_) ?_
 refine bl 27 ((k != 0)) (fun f=>?_) (fun f=>?_)
 have Q:=aB f
 exact Pl 3<|ce v true (by rw[f];rfl)
 have Q:=az f
 exact Pl 3<|ce v (!(decide (c=M))) (by rw[f];rfl)
 refine nt<|?_
 have y:=aI t u
 refine cb (((k != 0)||(!(decide (c=M))))) (fun i=>?_) (fun i=>?_)
 refine aE 2<|aX<|rr (.tuple #[nS,vI 1])<|cO (show fZ M=bv (fun _ _ b=>fl b) (fun _ M=>qF M) 0 M by unfold fZ;rw[a];rfl) ?_
 refine cO (jq l i) ?_
 exact⟨rfl,y⟩
 have R:=(bK i).1
 have S:=(bK i).2
 have T:(decide (c=M))=true:=by simpa using S
 refine bj<|aE 3<|rt<|rr (.tuple #[.slice (some ⟨C,0,none⟩) 2 2,vI 0])<|cO (show fZ M=bv (fun _ _ b=>fl b) (fun _ M=>qF M) 0 M by unfold fZ;rw[a];rfl) ?_
 refine cO (jk l R T) ?_
 exact⟨_,rfl,(b6.weaken (av r (aI n u) (fun x hx=>aF) (fun _ _ h=>h)) j.size),y⟩
end Go.Proofs.YtdkhbcefkfgbdaaGreat
namespace Go.Proofs.YtdkhbcefkfgbdaaGreat
theorem uY{dir:Int}{M:aU}(hd:dir=0∨dir=1)(hc:M.code=1∨M.code=2∨M.code=5∨M.code=15) : ek dir M=cD dir M:=by
  unfold ek cD
  rcases hd with rfl|rfl<;>rcases hc with h|h|h|h<;>rw[h]<;>rfl
theorem yn{dir:Int}{M:aU}(hd:dir=0∨dir=1)(hc:M.code=3∨M.code=4∨M.code=6∨M.code=16∨M.code=22∨M.code=23∨M.code=24) : dU dir M=cm dir M:=by
  unfold dU cm
  rw[show 2*(M.words.length:Int)+2=2+2*(M.words.length:Int) from by omega]
  rcases hd with rfl|rfl<;>rcases hc with h|h|h|h|h|h|h<;>rw[h]<;>rfl
theorem xe{dir:Int}{M:aU}(hd:dir=0∨dir=1) : fg dir M=bZ dir M:=by
  unfold fg bZ
  rw[show(M.data.length:Int)+6=6+(M.data.length:Int) from by omega]
  rfl
theorem wI{dir:Int}{M:aU}:gE dir M=dI dir M:=by
  unfold gE dI
  split
  · rename_i h
    rw[ag h]
  · rfl
theorem mH(dir c:Int) : ∀ L:List dx,dz dir c L=dk dir c L
  | []=>rfl
  | r :: L=>by
    show mA dir c r++dz dir c L=kz dir c r++dk dir c L
    rw[mH dir c L]
    unfold mA kz
    rw[show 2*(r.words.length:Int)+1=1+2*(r.words.length:Int) from by omega]
theorem sY{dir:Int}{M:aU}:eR dir M=di dir M:=by
  rw[lz]
  unfold eR
  rw[mH]
def eS (dir:Int)(M:aU) : Option (List Int) :=
  match bv (aj aP) ek dir M with
  | some l=>some l
  | none=>match bv (aj aW) dU dir M with
    | some l=>some l
    | none=>match bv (aj bg) fg dir M with
      | some l=>some l
      | none=>match bv (aj bh) eR dir M with
        | some l=>some l
        | none=>bv (aj bU) gE dir M
def dH (dir:Int)(M:aU) : Option (List Int) :=
  match fZ M with
  | some l=>some l
  | none=>match eS dir M with
    | some l=>some ([M.code]++l)
    | none=>none
theorem Dt{form:Int→Int→ah→Option (ah × aU)}{B:Int→aU→List Int}{dir:Int}{M:aU}(hd:dir=0∨dir=1)(hf:∀ C,form dir M.code C=none) : bv (aj form) B dir M=none:=by
  cases h:bv (aj form) B dir M with
  | none=>rfl
  | some l =>
    have h1:=(dy h).1
    rw[ns hd (hf _)] at h1
    injection h1 with _ h2
    cases h2
theorem qD{parse:Int→Int→List Int→aU × Int}{B lay:Int→aU→List Int}{dir:Int}{M:aU}{l:List Int}(h:bv parse lay dir M=some l)(he:B dir M=lay dir M) : bv parse B dir M=some l:=by
  unfold bv at h ⊢
  rw[he]
  exact h
theorem fO{dir:Int}{M:aU}{l:List Int}(hc:0≤M.code∧M.code<256)(h:d7 dir M=some l) : dir=0∨dir=1:=by
  rcases iv hc h with⟨_,rfl,_⟩|⟨_,hk,_,l',h4,_⟩
  · exact .inr rfl
  · by_cases hd:dir=0∨dir=1
    · exact hd
    · have h5:=(la h4).2
      exfalso
      have no:∀ form b,aj form dir (([M.code]++l').getD 0 0) b=(M,0)→False:=fun form b hp=>by
        unfold aj at hp
        rw[if_neg hd] at hp
        injection hp with _ h2
        cases h2
      unfold jb at h5
      split at h5
      · exact no _ _ h5
      · exact no _ _ h5
      · exact no _ _ h5
      · exact no _ _ h5
      · exact no _ _ h5
      · injection h5 with _ h2
        cases h2
theorem u9{dir:Int}{M:aU}{l:List Int}(hc:0≤M.code∧M.code<256)(hf:0≤M.fail∧M.fail<256)(h:d7 dir M=some l) : dH dir M=some l:=by
  have hd:=fO hc h
  rcases iv hc h with⟨h1,rfl,h2,h3,h4,rfl,h5⟩|⟨h1,h2,h3,l',h4,h5,rfl⟩
  · have k:fZ M=some [M.code+128,M.fail]:=by
      unfold fZ
      rw[if_neg (by simp only[decide_eq_true_eq];omega)]
      have hb:qF M=[M.code+128,M.fail]:=by unfold qF;rw[show(M.code+128)%256=M.code+128 from by omega]
      refine fB hb ?_
      have hb:(M.code+128-128)%256=M.code:=by omega
      have j8:decide (M.code+128<128)=false:=by simp;omega
      show fl [M.code+128,M.fail]=(M,0)
      unfold fl
      simp only[List.length_cons,List.length_nil,List.getD_cons_zero,List.getD_cons_succ,hb,j8,h2,h3]
      show(hG M.code M.fail,(0:Int))=(M,0)
      rw[← h4]
    unfold dH
    rw[k]
  · have k:fZ M=none:=by
      cases hw:fZ M with
      | none=>rfl
      | some l2 =>
        unfold fZ at hw
        split at hw
        · cases hw
        · have h6:=(dy hw).1
          obtain⟨h7,_,_,h8,_⟩:=uq h6
          have h9:=qz h8
          have a:M.fail=l2.getD 1 0:=by rw[h7];rfl
          rw[← a,h1] at h9
          cases h9
    have no:∀ (form:Int→Int→ah→Option (ah × aU)) (B:Int→aU→List Int),(∀ C,form dir M.code C=none)→bv (aj form) B dir M=none:=fun form B hf=>Dt hd hf
    have kc:eS dir M=some l':=by
      unfold eS
      rcases i7 M.code with⟨hk,hf⟩|⟨hk,hf⟩|⟨hk,hf⟩|⟨hk,hf⟩|⟨hk,hf⟩|⟨hk,hf⟩<;>rw[hf] at h4
      · have h4:bv (aj aP) cD dir M=some l':=h4
        rw[qD h4 (uY hd hk)]
      · have h4:bv (aj aW) cm dir M=some l':=h4
        rw[no aP _ (fun C=>by rcases hk with h | h | h | h | h | h | h<;>rw[h]<;>rfl),qD h4 (yn hd hk)]
      · have h4:bv (aj bg) bZ dir M=some l':=h4
        rw[no aP _ (fun C=>by rcases hk with h | h | h | h | h<;>rw[h]<;>rfl),no aW _ (fun C=>by rcases hk with h | h | h | h | h<;>rw[h]<;>rfl),qD h4 (xe hd)]
      · have h4:bv (aj bh) di dir M=some l':=h4
        rw[no aP _ (fun C=>by rcases hk with h | h<;>rw[h]<;>rfl),no aW _ (fun C=>by rcases hk with h | h<;>rw[h]<;>rfl),no bg _ (fun C=>by rcases hk with h | h<;>rw[h]<;>rfl),qD h4 sY]
      · have h4:bv (aj bU) dI dir M=some l':=h4
        rw[no aP _ (fun C=>by rw[hk]<;>rfl),no aW _ (fun C=>by rw[hk]<;>rfl),no bg _ (fun C=>by rw[hk]<;>rfl),no bh _ (fun C=>by rw[hk]<;>rfl),qD h4 wI]
      · exact absurd hf h2
    unfold dH
    rw[k,kc]
theorem wJ{dir:Int}{b:List Int}{M:aU}(h:cF dir b=(M,0)) : dir=0∨dir=1:=by
  unfold cF at h
  split at h
  · injection h with _ h
    cases h
  · rename_i hh
    simp only[Bool.and_eq_true,bne_iff_ne,ne_eq] at hh
    omega
theorem vt{dir:Int}{M:aU}(hc:0≤M.code∧M.code<256)(hf:0≤M.fail∧M.fail<256)(hk:dH dir M=none) : d7 dir M=none:=by
  cases h:d7 dir M with
  | none=>rfl
  | some l=>rw[u9 hc hf h] at hk;cases hk
theorem ic{dir E:Int}{M X:aU}{b:List Int}(hc:0≤M.code∧M.code<256)(hf:0≤M.fail∧M.fail<256)(hk:dH dir M=some b)(hX:cF dir b=(X,E))(hE:((E != 0)||(!(decide (X=M))))=true) : d7 dir M=none:=by
  cases h:d7 dir M with
  | none=>rfl
  | some l =>
    rw[u9 hc hf h] at hk
    injection hk with hk
    subst hk
    rw[pU (fO hc h) hc hf h] at hX
    injection hX with h1 h2
    subst h1 h2
    simp at hE
theorem jI{dir E:Int}{M X:aU}{b:List Int}(hr:∀ x,x∈b→0≤x∧x<256)(hX:cF dir b=(X,E))(hE:(E != 0)=false)(h:decide (X=M)=true) : d7 dir M=some b:=by
  have h1:X=M:=by simpa using h
  have h2:E=0:=by simpa using hE
  subst h1 h2
  exact kp (wJ hX) hr hX
open Go.RowKit
theorem yV{p:Int→Int→List Int→aU × Int}{B:Int→aU→List Int}{dir:Int}{M:aU}{l:List Int}(h:bv p B dir M=some l)(hB:(B dir M).length≤1048000) : l.length≤1048000:=by
  rw[(dy h).2]
  exact hB
theorem yX{M:aU}{l:List Int}(h:fZ M=some l) : l.length≤1048000:=by
  unfold fZ at h
  split at h
  · cases h
  · rw[(dy h).2]
    exact(show 2≤1048000 from by decide)
theorem nh{m:Md}{cs:Array Value}{M:aU}{w:World}{dir:Int}(h:aJ m w cs.toList M)(hf:bB M) : Calls Tryz.prog 86 #[vI dir,.agg cs] w (dR (d7 dir M) w):=by
 have hM:=h
 obtain⟨d3,d4,d5,d8,d9⟩:=i9 hf dir
 refine fo h fun Aw kw Ab kb Ad kd Ar kr Ao ko e hw hbt hd hr ho _ _ _ _ _ _ _ _ _ _ q0 q1 q2 q3 q4 q5 q6 q7 q8 q9 f6 f7 f8 f9 fa fb fc=>?_
 subst e
 refine en 79 Tryz.func86 rfl<|sg<|L0<|d6 (mG M.code M.fail M.addr M.count M.value M.and_ M.or_ M.addr2 M.sub M.status M.events M.messages (.slice Aw M.words.length kw) (.slice Ab M.bits.length kb) (.slice Ad M.data.length kd) (.slice Ar M.recs.length kr) M.mei M.kind M.level M.more M.next (.slice Ao M.objects.length ko)) fun fd fe ff Z d=>Pl 2<|ng<|L0<|bN Z<|?_
 rcases a:fZ M with _|r
 have a0:=aJ.old hM d
 have b8:=mS a0
 rw[a] at b8
 refine ay<|m1 b8 fun fh g=>ai 5<|sq<|aE 2<|c1<|al 1<|?_
 have a1:=ub g Z
 refine L0<|bN a1<|?_
 have ba:=aI d g
 rcases b:bv (aj aP) ek dir M with _|k
 have a2:=aJ.old a0 g
 have bb:=kE (dir:=dir) a2 hf
 rw[b] at bb
 refine ay<|m1 bb fun fi i=>ai 5<|sq<|aE 2<|c1<|go<|Pl 1<|?_
 have a3:=ub i a1
 refine L0<|bN a3<|?_
 have bc:=aI ba i
 rcases c:bv (aj aW) dU dir M with _|l
 have a4:=aJ.old a2 i
 have bd:=lq (dir:=dir) a4 hf
 rw[c] at bd
 refine ay<|m1 bd fun fj n=>ai 5<|sq<|aE 2<|c1<|go<|Pl 1<|?_
 have a5:=ub n a3
 refine L0<|bN a5<|?_
 have be:=aI bc n
 rcases f:bv (aj bg) fg dir M with _|o
 have a6:=aJ.old a4 n
 have bf:=lx (dir:=dir) a6 hf
 rw[f] at bf
 refine ay<|m1 bf fun fk s=>ai 5<|sq<|aE 2<|c1<|go<|Pl 1<|?_
 have a7:=ub s a5
 refine L0<|bN a7<|?_
 have bi:=aI be s
 rcases j:bv (aj bh) eR dir M with _|p
 have a8:=aJ.old a6 s
 have bk:=kR (dir:=dir) a8 hf
 rw[j] at bk
 refine ay<|m1 bk fun fl u=>ai 5<|sq<|aE 2<|c1<|go<|Pl 1<|?_
 have a9:=ub u a7
 refine L0<|bN a9<|?_
 have bm:=aI bi u
 rcases t:bv (aj bU) gE dir M with _|q
 have bn:=mp (dir:=dir) (aJ.old a8 u) hf
 rw[t] at bn
 refine ay<|m1 bn fun fm bo=>ai 5<|go<|Pl 1<|?_
 refine aD (ub bo a9) 0<|L0<|cY (m:=1) (e:=5) #[vB M.code] fun fn fp da db bp=>?_
 have bq:=cG da (xs:=[M.code]) (by as_aux_lemma=>kernel_rfl) (am (by omega) aR) (by(try simp only[List.length_cons,List.length_nil]);omega) db
 refine Pl 1<|L0<|bQ b9 (xs:=([M.code])) (ys:=([])) (vB 0) 1 bq (aS.nil true 5 _ _ _) (by(try simp only[bT,aC]);omega) bp.size fun fq fr fs ft dc=>ai 1<|sq<|aE 2<|c1<|aE 2<|aX<|rr (.tuple #[nS,vI 1])<|?_
 have hk:dH dir M=none:=by unfold dH eS;simp only[a,b,c,f,j,t]
 refine cO (vt q0 q1 hk) ?_
 exact⟨rfl,(aI bm (aI bo (ut bp dc (ap (aT bq lr) aA))))⟩
 have br:=aJ.old a8 u
 have bs:=mp (dir:=dir) br hf
 rw[t] at bs
 refine ay<|dV bs fun fu fv fw dd fx fy aa=>?_
 have fz:q.length≤1048000:=yV t d8
 refine ai 5<|go<|Pl 1<|?_
 have bt:=ub aa a9
 refine aD bt 0<|L0<|cY (m:=1) (e:=5) #[vB M.code] fun fA fB df dg ab=>?_
 have bu:=cG df (xs:=[M.code]) (by as_aux_lemma=>kernel_rfl) (am (by omega) aR) (by(try simp only[List.length_cons,List.length_nil]);omega) dg
 refine Pl 1<|?_
 refine L0<|bQ b9 (xs:=([M.code])) (ys:=q) (vB 0) 1 bu ((av dd ab (fun x hx=>aF) (fun _ _ h=>h))).rd (by(try simp only[bT,aC]);omega) ab.size fun dh di dj bw dk=>ai 1<|sq<|aE 2<|c0<|bj<|sq<|go<|Pl 2<|pr (cF dir ([M.code]++q)) fun v ac ad=>?_
 have bx:Calls _ _ _ _ (cN _ _ (cF dir ([M.code]++q)) dj):=eX (dir:=dir) (bw).rd (by(try simp only[bT]);omega)
 rw[ad] at bx
 refine ay<|e2 (bx) fun dl fC dm bz=>?_
 have bA:=av bw bz (fun x hx=>aF) (fun _ _ h=>h)
 have y:=cK.rdt dm (bA).rd
 refine Pl 3<|aK mZ fun fD fE dn dp dq=>aG (hz:=(by rw[y.size];exact aQ)) (hv:=y.size) (h1:=y.one) dp (dl) fun fF dr ds=>Pl 1<|ng<|L0<|bN (hz:=(by rw[y.size];exact aQ)) dr<|?_
 have ae:=ud dq ds dn
 have bC:=ut ab (aI dk (aI bz ae)) (ap (aT bu lr) aA)
 refine L0<|bN (ub bC bt)<|?_
 have bD:=aI aa bC
 refine ay<|m1 (de (A:=v) (B:=M) (aJ.upd y ae aN) (aJ.old br bD)) fun fG bE=>ai 1<|sq<|al 3<|cu 3 [74] 77 (((ac != 0)||(!(decide (v=M))))) (fun K bF=>?_) ?_
 refine bl 74 ((ac != 0)) (fun z=>?_) (fun z=>?_)
 have dt:=aB z
 exact Pl 3<|ce bF true (by rw[z];rfl)
 have dt:=az z
 exact Pl 3<|ce bF (!(decide (v=M))) (by rw[z];rfl)
 refine nt<|?_
 have bG:=aI bm (aI bD bE)
 refine cb (((ac != 0)||(!(decide (v=M))))) (fun T=>?_) (fun T=>?_)
 refine aE 2<|aX<|rr (.tuple #[nS,vI 1])<|?_
 have hk:dH dir M=some ([M.code]++q):=by unfold dH eS;simp only[a,b,c,f,j,t]
 refine cO (ic q0 q1 hk ad T) ?_
 exact⟨rfl,bG⟩
 have du:=(bK T).1
 have dv:=(bK T).2
 have dw:(decide (v=M))=true:=by simpa using dv
 refine bj<|aE 3<|rt<|rr (.tuple #[.slice dh (([M.code]++q).length) di,vI 0])<|?_
 have hk:dH dir M=some ([M.code]++q):=by unfold dH eS;simp only[a,b,c,f,j,t]
 have bH:=av bA (aI ae bE) (fun x hx=>aF) (fun _ _ h=>h)
 refine cO (jI (aZ.range (bH).rd) ad du dw) ?_
 exact⟨_,rfl,(b6.weaken bH (le (le (le (le (le (le d.size g.size) i.size) n.size) s.size) u.size) aa.size)),bG⟩
 have bI:=aJ.old a6 s
 have bJ:=kR (dir:=dir) bI hf
 rw[j] at bJ
 refine ay<|dV bJ fun fH fI fJ dx fK fL af=>?_
 have fM:p.length≤1048000:=yV j d9
 refine ai 5<|sq<|aE 2<|c0<|bj<|go<|Pl 1<|?_
 have bL:=ub af a7
 refine aD bL 0<|L0<|cY (m:=1) (e:=5) #[vB M.code] fun fN fO dy dz ag=>?_
 have bM:=cG dy (xs:=[M.code]) (by as_aux_lemma=>kernel_rfl) (am (by omega) aR) (by(try simp only[List.length_cons,List.length_nil]);omega) dz
 refine Pl 1<|?_
 refine L0<|bQ b9 (xs:=([M.code])) (ys:=p) (vB 0) 1 bM ((av dx ag (fun x hx=>aF) (fun _ _ h=>h))).rd (by(try simp only[bT,aC]);omega) ag.size fun dA dB dC bO dD=>ai 1<|sq<|aE 2<|c0<|bj<|sq<|go<|Pl 2<|pr (cF dir ([M.code]++p)) fun C ah ak=>?_
 have bP:Calls _ _ _ _ (cN _ _ (cF dir ([M.code]++p)) dC):=eX (dir:=dir) (bO).rd (by(try simp only[bT]);omega)
 rw[ak] at bP
 refine ay<|e2 (bP) fun dE fP dF bR=>?_
 have bS:=av bO bR (fun x hx=>aF) (fun _ _ h=>h)
 have D:=cK.rdt dF (bS).rd
 refine Pl 3<|aK mZ fun fQ fR dG dI dJ=>aG (hz:=(by rw[D.size];exact aQ)) (hv:=D.size) (h1:=D.one) dI (dE) fun fS dK dL=>Pl 1<|ng<|L0<|bN (hz:=(by rw[D.size];exact aQ)) dK<|?_
 have an:=ud dJ dL dG
 have bV:=ut ag (aI dD (aI bR an)) (ap (aT bM lr) aA)
 refine L0<|bN (ub bV bL)<|?_
 have bW:=aI af bV
 refine ay<|m1 (de (A:=C) (B:=M) (aJ.upd D an aN) (aJ.old bI bW)) fun fT bX=>ai 1<|sq<|al 3<|cu 3 [74] 77 (((ah != 0)||(!(decide (C=M))))) (fun K bY=>?_) ?_
 refine bl 74 ((ah != 0)) (fun E=>?_) (fun E=>?_)
 have dM:=aB E
 exact Pl 3<|ce bY true (by rw[E];rfl)
 have dM:=az E
 exact Pl 3<|ce bY (!(decide (C=M))) (by rw[E];rfl)
 refine nt<|?_
 have bZ:=aI bi (aI bW bX)
 refine cb (((ah != 0)||(!(decide (C=M))))) (fun U=>?_) (fun U=>?_)
 refine aE 2<|aX<|rr (.tuple #[nS,vI 1])<|?_
 have hk:dH dir M=some ([M.code]++p):=by unfold dH eS;simp only[a,b,c,f,j]
 refine cO (ic q0 q1 hk ak U) ?_
 exact⟨rfl,bZ⟩
 have dN:=(bK U).1
 have dO:=(bK U).2
 have dP:(decide (C=M))=true:=by simpa using dO
 refine bj<|aE 3<|rt<|rr (.tuple #[.slice dA (([M.code]++p).length) dB,vI 0])<|?_
 have hk:dH dir M=some ([M.code]++p):=by unfold dH eS;simp only[a,b,c,f,j]
 have c2:=av bS (aI an bX) (fun x hx=>aF) (fun _ _ h=>h)
 refine cO (jI (aZ.range (c2).rd) ak dN dP) ?_
 exact⟨_,rfl,(b6.weaken c2 (le (le (le (le (le d.size g.size) i.size) n.size) s.size) af.size)),bZ⟩
 have c3:=aJ.old a4 n
 have c4:=lx (dir:=dir) c3 hf
 rw[f] at c4
 refine ay<|dV c4 fun fU fV fW dQ fX fY ao=>?_
 have g0:o.length≤1048000:=yV f d5
 refine ai 5<|sq<|aE 2<|c0<|bj<|sq<|sq<|go<|ai 2<|c0<|bj<|go<|Pl 1<|?_
 have c5:=ub ao a5
 refine aD c5 0<|L0<|cY (m:=1) (e:=5) #[vB M.code] fun g1 g2 dS dT aq=>?_
 have c6:=cG dS (xs:=[M.code]) (by as_aux_lemma=>kernel_rfl) (am (by omega) aR) (by(try simp only[List.length_cons,List.length_nil]);omega) dT
 refine Pl 1<|?_
 refine L0<|bQ b9 (xs:=([M.code])) (ys:=o) (vB 0) 1 c6 ((av dQ aq (fun x hx=>aF) (fun _ _ h=>h))).rd (by(try simp only[bT,aC]);omega) aq.size fun dW dX dY c7 dZ=>ai 1<|sq<|aE 2<|c0<|bj<|sq<|go<|Pl 2<|pr (cF dir ([M.code]++o)) fun F ar au=>?_
 have c8:Calls _ _ _ _ (cN _ _ (cF dir ([M.code]++o)) dY):=eX (dir:=dir) (c7).rd (by(try simp only[bT]);omega)
 rw[au] at c8
 refine ay<|e2 (c8) fun e0 g3 e1 c9=>?_
 have ca:=av c7 c9 (fun x hx=>aF) (fun _ _ h=>h)
 have G:=cK.rdt e1 (ca).rd
 refine Pl 3<|aK mZ fun g4 g5 e3 e4 e5=>aG (hz:=(by rw[G.size];exact aQ)) (hv:=G.size) (h1:=G.one) e4 (e0) fun g6 e6 e7=>Pl 1<|ng<|L0<|bN (hz:=(by rw[G.size];exact aQ)) e6<|?_
 have aw:=ud e5 e7 e3
 have cc:=ut aq (aI dZ (aI c9 aw)) (ap (aT c6 lr) aA)
 refine L0<|bN (ub cc c5)<|?_
 have cd:=aI ao cc
 refine ay<|m1 (de (A:=F) (B:=M) (aJ.upd G aw aN) (aJ.old c3 cd)) fun g7 cf=>ai 1<|sq<|al 3<|cu 3 [74] 77 (((ar != 0)||(!(decide (F=M))))) (fun K cg=>?_) ?_
 refine bl 74 ((ar != 0)) (fun H=>?_) (fun H=>?_)
 have e8:=aB H
 exact Pl 3<|ce cg true (by rw[H];rfl)
 have e8:=az H
 exact Pl 3<|ce cg (!(decide (F=M))) (by rw[H];rfl)
 refine nt<|?_
 have ch:=aI be (aI cd cf)
 refine cb (((ar != 0)||(!(decide (F=M))))) (fun V=>?_) (fun V=>?_)
 refine aE 2<|aX<|rr (.tuple #[nS,vI 1])<|?_
 have hk:dH dir M=some ([M.code]++o):=by unfold dH eS;simp only[a,b,c,f]
 refine cO (ic q0 q1 hk au V) ?_
 exact⟨rfl,ch⟩
 have e9:=(bK V).1
 have ea:=(bK V).2
 have eb:(decide (F=M))=true:=by simpa using ea
 refine bj<|aE 3<|rt<|rr (.tuple #[.slice dW (([M.code]++o).length) dX,vI 0])<|?_
 have hk:dH dir M=some ([M.code]++o):=by unfold dH eS;simp only[a,b,c,f]
 have ci:=av ca (aI aw cf) (fun x hx=>aF) (fun _ _ h=>h)
 refine cO (jI (aZ.range (ci).rd) au e9 eb) ?_
 exact⟨_,rfl,(b6.weaken ci (le (le (le (le d.size g.size) i.size) n.size) ao.size)),ch⟩
 have cj:=aJ.old a2 i
 have ck:=lq (dir:=dir) cj hf
 rw[c] at ck
 refine ay<|dV ck fun g8 g9 ga ec gb gc ax=>?_
 have gd:l.length≤1048000:=yV c d4
 refine ai 5<|sq<|aE 2<|c0<|bj<|sq<|sq<|go<|ai 2<|c0<|bj<|sq<|aE 2<|c0<|bj<|go<|Pl 1<|?_
 have cl:=ub ax a3
 refine aD cl 0<|L0<|cY (m:=1) (e:=5) #[vB M.code] fun ge gf ed ee aH=>?_
 have cm:=cG ed (xs:=[M.code]) (by as_aux_lemma=>kernel_rfl) (am (by omega) aR) (by(try simp only[List.length_cons,List.length_nil]);omega) ee
 refine Pl 1<|?_
 refine L0<|bQ b9 (xs:=([M.code])) (ys:=l) (vB 0) 1 cm ((av ec aH (fun x hx=>aF) (fun _ _ h=>h))).rd (by(try simp only[bT,aC]);omega) aH.size fun ef eg eh cn ei=>ai 1<|sq<|aE 2<|c0<|bj<|sq<|go<|Pl 2<|pr (cF dir ([M.code]++l)) fun I aL aM=>?_
 have co:Calls _ _ _ _ (cN _ _ (cF dir ([M.code]++l)) eh):=eX (dir:=dir) (cn).rd (by(try simp only[bT]);omega)
 rw[aM] at co
 refine ay<|e2 (co) fun ej gg el cp=>?_
 have cq:=av cn cp (fun x hx=>aF) (fun _ _ h=>h)
 have J:=cK.rdt el (cq).rd
 refine Pl 3<|aK mZ fun gh gi em eo ep=>aG (hz:=(by rw[J.size];exact aQ)) (hv:=J.size) (h1:=J.one) eo (ej) fun gj eq er=>Pl 1<|ng<|L0<|bN (hz:=(by rw[J.size];exact aQ)) eq<|?_
 have aO:=ud ep er em
 have cr:=ut aH (aI ei (aI cp aO)) (ap (aT cm lr) aA)
 refine L0<|bN (ub cr cl)<|?_
 have ct:=aI ax cr
 refine ay<|m1 (de (A:=I) (B:=M) (aJ.upd J aO aN) (aJ.old cj ct)) fun gk cv=>ai 1<|sq<|al 3<|cu 3 [74] 77 (((aL != 0)||(!(decide (I=M))))) (fun K cw=>?_) ?_
 refine bl 74 ((aL != 0)) (fun L=>?_) (fun L=>?_)
 have es:=aB L
 exact Pl 3<|ce cw true (by rw[L];rfl)
 have es:=az L
 exact Pl 3<|ce cw (!(decide (I=M))) (by rw[L];rfl)
 refine nt<|?_
 have cx:=aI bc (aI ct cv)
 refine cb (((aL != 0)||(!(decide (I=M))))) (fun W=>?_) (fun W=>?_)
 refine aE 2<|aX<|rr (.tuple #[nS,vI 1])<|?_
 have hk:dH dir M=some ([M.code]++l):=by unfold dH eS;simp only[a,b,c]
 refine cO (ic q0 q1 hk aM W) ?_
 exact⟨rfl,cx⟩
 have et:=(bK W).1
 have eu:=(bK W).2
 have ev:(decide (I=M))=true:=by simpa using eu
 refine bj<|aE 3<|rt<|rr (.tuple #[.slice ef (([M.code]++l).length) eg,vI 0])<|?_
 have hk:dH dir M=some ([M.code]++l):=by unfold dH eS;simp only[a,b,c]
 have cy:=av cq (aI aO cv) (fun x hx=>aF) (fun _ _ h=>h)
 refine cO (jI (aZ.range (cy).rd) aM et ev) ?_
 exact⟨_,rfl,(b6.weaken cy (le (le (le d.size g.size) i.size) ax.size)),cx⟩
 have cz:=aJ.old a0 g
 have cA:=kE (dir:=dir) cz hf
 rw[b] at cA
 refine ay<|dV cA fun gl gm gn ew gp gq aV=>?_
 have gr:k.length≤1048000:=yV b d3
 refine ai 5<|sq<|aE 2<|c0<|bj<|sq<|sq<|go<|ai 2<|c0<|bj<|sq<|aE 2<|c0<|bj<|sq<|aE 2<|c0<|bj<|go<|Pl 1<|?_
 have cB:=ub aV a1
 refine aD cB 0<|L0<|cY (m:=1) (e:=5) #[vB M.code] fun gs gt ex ey aY=>?_
 have cC:=cG ex (xs:=[M.code]) (by as_aux_lemma=>kernel_rfl) (am (by omega) aR) (by(try simp only[List.length_cons,List.length_nil]);omega) ey
 refine Pl 1<|?_
 refine L0<|bQ b9 (xs:=([M.code])) (ys:=k) (vB 0) 1 cC ((av ew aY (fun x hx=>aF) (fun _ _ h=>h))).rd (by(try simp only[bT,aC]);omega) aY.size fun ez eA eB cD eC=>ai 1<|sq<|aE 2<|c0<|bj<|sq<|go<|Pl 2<|pr (cF dir ([M.code]++k)) fun N b0 b1=>?_
 have cE:Calls _ _ _ _ (cN _ _ (cF dir ([M.code]++k)) eB):=eX (dir:=dir) (cD).rd (by(try simp only[bT]);omega)
 rw[b1] at cE
 refine ay<|e2 (cE) fun eD gu eE cH=>?_
 have cI:=av cD cH (fun x hx=>aF) (fun _ _ h=>h)
 have O:=cK.rdt eE (cI).rd
 refine Pl 3<|aK mZ fun gv gw eF eG eH=>aG (hz:=(by rw[O.size];exact aQ)) (hv:=O.size) (h1:=O.one) eG (eD) fun gx eI eJ=>Pl 1<|ng<|L0<|bN (hz:=(by rw[O.size];exact aQ)) eI<|?_
 have b2:=ud eH eJ eF
 have cJ:=ut aY (aI eC (aI cH b2)) (ap (aT cC lr) aA)
 refine L0<|bN (ub cJ cB)<|?_
 have cL:=aI aV cJ
 refine ay<|m1 (de (A:=N) (B:=M) (aJ.upd O b2 aN) (aJ.old cz cL)) fun gy cM=>ai 1<|sq<|al 3<|cu 3 [74] 77 (((b0 != 0)||(!(decide (N=M))))) (fun K cP=>?_) ?_
 refine bl 74 ((b0 != 0)) (fun P=>?_) (fun P=>?_)
 have eK:=aB P
 exact Pl 3<|ce cP true (by rw[P];rfl)
 have eK:=az P
 exact Pl 3<|ce cP (!(decide (N=M))) (by rw[P];rfl)
 refine nt<|?_
 have cQ:=aI ba (aI cL cM)
 refine cb (((b0 != 0)||(!(decide (N=M))))) (fun X=>?_) (fun X=>?_)
 refine aE 2<|aX<|rr (.tuple #[nS,vI 1])<|?_
 have hk:dH dir M=some ([M.code]++k):=by unfold dH eS;simp only[a,b]
 refine cO (ic q0 q1 hk b1 X) ?_
 exact⟨rfl,cQ⟩
 have eL:=(bK X).1
 have eM:=(bK X).2
 have eN:(decide (N=M))=true:=by simpa using eM
 refine bj<|aE 3<|rt<|rr (.tuple #[.slice ez (([M.code]++k).length) eA,vI 0])<|?_
 have hk:dH dir M=some ([M.code]++k):=by unfold dH eS;simp only[a,b]
 have cR:=av cI (aI b2 cM) (fun x hx=>aF) (fun _ _ h=>h)
 refine cO (jI (aZ.range (cR).rd) b1 eL eN) ?_
 exact⟨_,rfl,(b6.weaken cR (le (le d.size g.size) aV.size)),cQ⟩
 have cS:=aJ.old hM d
 have cT:=mS cS
 rw[a] at cT
 refine ay<|dV cT fun eO eP eQ cU gz gA eT=>?_
 have gB:r.length≤1048000:=yX a
 refine ai 5<|sq<|aE 2<|c0<|bj<|sq<|sq<|go<|ai 2<|c0<|bj<|al 2<|pr (cF dir r) fun Q b3 b4=>?_
 have cV:Calls _ _ _ _ (cN _ _ (cF dir r) eQ):=eX (dir:=dir) (cU).rd (by(try simp only[bT]);omega)
 rw[b4] at cV
 refine ay<|e2 (cV) fun eU gC eV cW=>?_
 have cX:=av cU cW (fun x hx=>aF) (fun _ _ h=>h)
 have R:=cK.rdt eV (cX).rd
 refine Pl 3<|aK mZ fun gD gF eW eY eZ=>aG (hz:=(by rw[R.size];exact aQ)) (hv:=R.size) (h1:=R.one) eY (eU) fun gG f0 f1=>Pl 1<|ng<|L0<|bN (hz:=(by rw[R.size];exact aQ)) f0<|?_
 have b5:=ud eZ f1 eW
 have b7:=aI eT (aI cW b5)
 refine L0<|bN (ub b7 Z)<|?_
 refine ay<|m1 (de (A:=Q) (B:=M) (aJ.upd R b5 aN) (aJ.old cS b7)) fun gH cZ=>ai 1<|sq<|al 3<|cu 3 [74] 77 (((b3 != 0)||(!(decide (Q=M))))) (fun K d0=>?_) ?_
 refine bl 74 ((b3 != 0)) (fun S=>?_) (fun S=>?_)
 have f2:=aB S
 exact Pl 3<|ce d0 true (by rw[S];rfl)
 have f2:=az S
 exact Pl 3<|ce d0 (!(decide (Q=M))) (by rw[S];rfl)
 refine nt<|?_
 have d1:=aI d (aI b7 cZ)
 refine cb (((b3 != 0)||(!(decide (Q=M))))) (fun Y=>?_) (fun Y=>?_)
 refine aE 2<|aX<|rr (.tuple #[nS,vI 1])<|?_
 have hk:dH dir M=some r:=by unfold dH eS;simp only[a]
 refine cO (ic q0 q1 hk b4 Y) ?_
 exact⟨rfl,d1⟩
 have f3:=(bK Y).1
 have f4:=(bK Y).2
 have f5:(decide (Q=M))=true:=by simpa using f4
 refine bj<|aE 3<|rt<|rr (.tuple #[.slice eO r.length eP,vI 0])<|?_
 have hk:dH dir M=some r:=by unfold dH eS;simp only[a]
 have d2:=av cX (aI b5 cZ) (fun x hx=>aF) (fun _ _ h=>h)
 refine cO (jI (aZ.range (d2).rd) b4 f3 f5) ?_
 exact⟨_,rfl,(b6.weaken d2 d.size),d1⟩
open Go.RowKit
theorem iW{m:Md}{cs:Array Value}{M:aU}{w:World}{dir:Int}(hX:d7 dir M=none)(h:aJ m w cs.toList M)(hf:bB M) : Calls Tryz.prog 86 #[.int .i64 dir,.agg cs] w (fun e w'=>e = .returned (.tuple #[.slice none 0 0,.int .i64 1])∧aH [] w w'):=by
  have:=nh (dir:=dir) h hf
  rw[hX] at this
  exact this
theorem iS{m:Md}{cs:Array Value}{M:aU}{w:World}{dir:Int}{l:List Int}(hX:d7 dir M=some l)(h:aJ m w cs.toList M)(hf:bB M) : Calls Tryz.prog 86 #[.int .i64 dir,.agg cs] w (fun e w'=>∃ v,e = .returned (.tuple #[v,.int .i64 0])∧eG w.heap.size w' v l∧aH [] w w'):=by
  have:=nh (dir:=dir) h hf
  rw[hX] at this
  exact this
theorem sJ{P:List Int→dt × Int}{r:Option (List Int)}{b:List Int}{F:dt}{E u t:Int}{M:aU}(hs:∀ l,r=some l→l=b)(hrt:∀ l,r=some l→P l=(⟨u,t,M⟩,0))(hX:P b=(F,E))(hE:(((E != 0)||(!(decide (F.msg=M))))||(!((F.unit==u)&&(F.tid==t))))=true) : r=none:=by
  cases h:r with
  | none=>rfl
  | some l =>
    have h1:=hrt l h
    rw[hs l h,hX] at h1
    injection h1 with h1 h2
    subst h1 h2
    simp at hE
theorem wU{F:dt}{E u t:Int}{M:aU}(hE:(((E != 0)||(!(decide (F.msg=M))))||(!((F.unit==u)&&(F.tid==t))))=false) : E=0∧F=⟨u,t,M⟩:=by
  obtain⟨u',t',M'⟩:=F
  simp only[Bool.or_eq_false_iff,Bool.not_eq_false',Bool.and_eq_true,beq_iff_eq,bne_eq_false_iff_eq,decide_eq_true_eq] at hE
  obtain⟨⟨h1,h2⟩,h3,h4⟩:=hE
  have h2:M'=M:=h2
  have h3:u'=u:=h3
  have h4:t'=t:=h4
  subst h2 h3 h4
  exact⟨h1,rfl⟩
theorem lb{x y:Option (List Int)}(h:x=y){w:World}{e:Ending}{w':World}(k:dR y w e w') : dR x w e w':=by rw[h];exact k
open Go.RowKit
theorem Cs{m:Md}{A:Option Addr}{cp:Nat}{b:List Int}{w:World}(hsl:aZ m w (.slice A b.length cp) b)(hb:b.length≤1048576) : Calls Tryz.prog 126 #[.slice A b.length cp] w (jK (b++cj (ch 65535 b)) w):=by
 refine en 17 Tryz.func126 rfl<|al 1<|aM 1<|ay<|m1 (Bn (b:=b) hsl) fun y a=>?_
 have z:=ip b (s:=65535) (by decide) (aZ.range hsl)
 refine Pl 1<|ng<|L0<|cY (m:=0) (e:=5) #[] fun l B n eN c=>?_
 have f:=cG n (xs:=[]) (by as_aux_lemma=>kernel_rfl) aR (by(try simp only[List.length_cons,List.length_nil]);omega) eN
 refine Pl 1<|?_
 have g:=aI a c
 refine L0<|bQ b9 (xs:=([])) (ys:=b) (vB 0) 1 f (aZ.old hsl g) (by(try simp only[bT,aC]);omega) c.size fun i C D j k=>Pl 1<|L0<|Oe (vW (Int.tmod (ch 65535 b) 256)) (vW ((ch 65535 b)%256)) (congrArg (Value.int .u16) (Int.tmod_eq_emod_of_nonneg (by omega)))<|Pl 2<|L0<|Oe (vW (IntKind.u16.wrap (Int.tdiv (ch 65535 b) 256))) (vW ((ch 65535 b)/256)) (congrArg (Value.int .u16) (lX (by omega) (by omega)))<|Pl 1<|L0<|cY (m:=2) (e:=5) #[vB (((ch 65535 b)%256)%256),vB (((ch 65535 b)/256)%256)] fun E F o p d=>?_
 have q:=cG o (xs:=[(((ch 65535 b)%256)%256),(((ch 65535 b)/256)%256)]) (by as_aux_lemma=>kernel_rfl) (am (by omega) (am (by omega) aR)) (by(try simp only[List.length_cons,List.length_nil]);omega) p
 refine L0<|bQ b9 (xs:=([]++b)) (ys:=([(((ch 65535 b)%256)%256),(((ch 65535 b)/256)%256)])) (vB 0) 1 (av j d (fun x hx=>aF) (fun _ _ h=>h)) (q).rd (by(try simp only[bT,aC]);omega) (le (le c.size k.size) d.size) fun r t G u v=>ai 1<|rt<|rr (.slice r ((([]++b)++[(((ch 65535 b)%256)%256),(((ch 65535 b)/256)%256)]).length) t)<|?_
 have hs:b++cj (ch 65535 b)=(([]++b)++[(((ch 65535 b)%256)%256),(((ch 65535 b)/256)%256)]):=by show _++[_,_]=_++[_,_];rw[List.nil_append];congr 2;omega
 rw[hs]
 exact⟨_,rfl,(b6.weaken u a.size),(ut g (ut (aH.mono (S':=(ob (some ⟨l,0,none⟩)++(ob i++[]))) k (ap il aA)) (ut (aH.mono (S':=(ob i++[])) d aA) v (ap il aA)) (ap il aA)) (ap (aT f a.size) (ap (aT j a.size) aA)))⟩
theorem Da{m:Md}{v:Value}{b:List Int}{w:World}(h:aZ m w v b)(hb:b.length≤1048576) : Calls Tryz.prog 126 #[v] w (jK (b++cj (ch 65535 b)) w):=by
  obtain⟨A,cp,rfl,_,_⟩:=h.shape
  exact Cs h hb
theorem qN{m:Md}{A:Option Addr}{cp:Nat}{b:List Int}{w:World}{u t:Int}(hbu:0≤u∧u<256)(hbt:0≤t∧t<65536)(hsl:aZ m w (.slice A b.length cp) b)(hb:b.length≤253) : Calls Tryz.prog 87 #[.agg #[vB u,vW t],.slice A b.length cp] w (jK (jd u b) w):=by
 refine en 11 Tryz.func87 rfl<|sg<|L0<|d6 #[vB u,vW t] fun q r s h a=>Pl 1<|aM 1<|aD h 0<|L0<|cY (m:=1) (e:=5) #[vB u] fun v x i j c=>?_
 have d:=cG i (xs:=[u]) (by as_aux_lemma=>kernel_rfl) (am (by omega) aR) (by(try simp only[List.length_cons,List.length_nil]);omega) j
 refine Pl 1<|?_
 have f:=aI a c
 refine L0<|bQ b9 (xs:=([u])) (ys:=b) (vB 0) 1 d (aZ.old hsl f) (by(try simp only[bT,aC]);omega) c.size fun y z B k g=>ay<|dV (Da (k).rd (by(try simp only[bT]);omega)) fun l n C o D E p=>ai 1<|rt<|rr (.slice l ((([u]++b)++cj (ch 65535 ([u]++b))).length) n)<|?_
 exact⟨_,rfl,(b6.weaken o (le (le a.size c.size) g.size)),(ut f (aI g p) (ap (aT d a.size) aA))⟩
theorem sd{m:Md}{v:Value}{b:List Int}{w:World}{u t:Int}(hbu:0≤u∧u<256)(hbt:0≤t∧t<65536)(h:aZ m w v b)(hb:b.length≤253) : Calls Tryz.prog 87 #[.agg #[.int .u8 u,.int .u16 t],v] w (jK (jd u b) w):=by
  obtain⟨A,cp,rfl,_,_⟩:=h.shape
  exact qN hbu hbt h hb
theorem na{m:Md}{x:SL}{M:aU}{w:World}{dir u t:Int}(h:aJ m w (fb M x).toList M)(hf:bB M)(hbu:0≤u∧u<256)(hbt:0≤t∧t<65536) : Calls Tryz.prog 60 #[vI dir,.agg (ed u t M x)] w (dR (fN dir u t M) w):=by
 obtain⟨hc,hd⟩:=h.rngs
 refine en 50 Tryz.func60 rfl<|sg<|L0<|d6 (ed u t M x) fun V W X n b=>Pl 2<|aM 2<|L0<|mg n 2 22<|wo (d7 dir M) (fun hW=>?_) (fun l hW=>?_)
 refine ay<|m1 (iW hW (aJ.old h b) hf) fun Y F=>ai 5<|sq<|aE 2<|c1<|al 2<|nl<|tn<|aX<|rr (.tuple #[nS,vI 1])<|lb (show fN dir u t M=none by unfold fN;rw[hW]) ?_
 exact⟨rfl,(aI b F)⟩
 have hlw:=p9 hc hW
 have o:=aJ.old h b
 refine ay<|dV (iS hW o hf) fun Z a0 a1 G a2 a3 f=>ai 5<|sq<|aE 2<|c0<|bj<|sq<|go<|Pl 1<|?_
 have p:=ub f n
 refine L0<|mg p 0 2<|Pl 1<|ay<|dV (sd (u:=u) (t:=t) hbu hbt (G).rd hlw) fun H I a4 q a5 a6 J=>Pl 1<|aM 2<|?_
 have hlb:((jd u l)).length≤1048576:=by rw[gG];omega
 refine pr (ei dir (jd u l)) fun a c g=>?_
 refine ay<|e2 (p3 g (q).rd hlb) fun x42 a7 L r=>?_
 obtain⟨N,a8,a9⟩:=L
 have s:=av q r (fun x hx=>aF) (fun _ _ h=>h)
 have O:=cK.rdt N (s).rd
 refine Pl 3<|aK #[vB 0,vW 0,vB 0,vB 0,vW 0,vW 0,vW 0,vW 0,vW 0,vW 0,vW 0,vW 0,vW 0,vW 0,nS,nS,nS,nS,vB 0,vB 0,vB 0,vB 0,vB 0,nS] fun aa ab Q R S=>aG R (ed a.unit a.tid a.msg x42) fun ac v T=>Pl 1<|aM 1<|L0<|mg v 2 22<|Pl 1<|?_
 have i:=ud S T Q
 have y:=aI J (aI r i)
 have z:=ub y p
 refine L0<|mg z 2 22<|?_
 have A:=aI f y
 refine ay<|m1 (de (aJ.upd O i aN) (aJ.old o A)) fun ad e=>ai 1<|sq<|al 3<|cu 3 [38] 41 (((c != 0)||(!(decide (a.msg=M))))) (fun K B=>?_) ?_
 refine bl 38 ((c != 0)) (fun d=>?_) (fun d=>?_)
 have U:=aB d
 exact Pl 3<|ce B true (by rw[d];rfl)
 have U:=az d
 exact Pl 3<|ce B (!(decide (a.msg=M))) (by rw[d];rfl)
 refine Pl 1<|cu 6 [42] 48 ((((c != 0)||(!(decide (a.msg=M))))||(!((a.unit==u)&&(a.tid==t))))) (fun K C=>?_) ?_
 refine bl 42 (((c != 0)||(!(decide (a.msg=M))))) (fun j=>?_) (fun j=>?_)
 exact Pl 6<|ce C true (by rw[j];rfl)
 refine Pl 1<|?_
 refine L1<|mg (ub e v) 0 2<|Pl 1<|?_
 exact L1<|mg (ub e z) 0 2<|L1<|ik (.bool (!((a.unit==u)&&(a.tid==t)))) (iE a.unit a.tid u t rfl (by kernel_rfl) (by kernel_rfl) rfl)<|Pl 1<|ce C (!((a.unit==u)&&(a.tid==t))) (by rw[j];rfl)
 refine nt<|?_
 have D:=aI b (aI A e)
 refine cb ((((c != 0)||(!(decide (a.msg=M))))||(!((a.unit==u)&&(a.tid==t))))) (fun k=>?_) (fun k=>?_)
 refine aE 2<|aX<|rr (.tuple #[nS,vI 1])<|lb (sJ (P:=ei dir) (fun l2 h=>by obtain⟨_,l3,k1,k2,_⟩:=jt h;rw[hW] at k1;injection k1 with k1;subst k1;exact k2) (fun l2 h=>BL (fO hc hW) hc hd h) g k) ?_
 exact⟨rfl,D⟩
 refine bj<|aE 3<|rt<|rr (.tuple #[.slice H ((jd u l).length) I,vI 0])<|?_
 obtain⟨hE0,hF0⟩:=wU k
 subst hE0 hF0
 have E:=av s (aI i e) (fun x hx=>aF) (fun _ _ h=>h)
 refine lb ((yH (fO hc hW) (aZ.range (E).rd) g rfl rfl).1) ?_
 exact⟨_,rfl,(b6.weaken E (le b.size f.size)),D⟩
theorem pP{m:Md}{x:SL}{M:aU}{w:World}{dir u t:Int}(h:aJ m w (fb M x).toList M)(hf:bB M)(hbu:0≤u∧u<256)(hbt:0≤t∧t<65536)(hX:fN dir u t M=none) : Calls Tryz.prog 60 #[.int .i64 dir,.agg (ed u t M x)] w (fun e w'=>e = .returned (.tuple #[.slice none 0 0,.int .i64 1])∧aH [] w w'):=by
  have k:=na (dir:=dir) h hf hbu hbt
  rw[hX] at k
  exact k
theorem pH{m:Md}{x:SL}{M:aU}{w:World}{dir u t:Int}(h:aJ m w (fb M x).toList M)(hf:bB M)(hbu:0≤u∧u<256)(hbt:0≤t∧t<65536){l:List Int}(hX:fN dir u t M=some l) : Calls Tryz.prog 60 #[.int .i64 dir,.agg (ed u t M x)] w (fun e w'=>∃ v,e = .returned (.tuple #[v,.int .i64 0])∧eG w.heap.size w' v l∧aH [] w w'):=by
  have k:=na (dir:=dir) h hf hbu hbt
  rw[hX] at k
  exact k
open Go.RowKit
theorem jz(a c:Int)(t:List Int) : (ah.mk (a :: c :: t) false 0).wordV=a*256+c∧(ah.mk (a :: c :: t) false 0).wordsC 1=⟨t,false,0⟩:=by
  have hb:¬ (ah.mk (a :: c :: t) false 0).wbad 1=true:=by
    unfold ah.wbad
    simp only[Bool.or_eq_true,decide_eq_true_eq,List.length_cons,not_or]
    omega
  have hf:¬ (ah.mk (a :: c :: t) false 0).fails (2*1)=true:=by
    unfold ah.fails
    simp only[Bool.or_eq_true,decide_eq_true_eq,List.length_cons,not_or]
    exact⟨⟨by decide,by decide⟩,by omega⟩
  constructor
  · unfold ah.wordV ah.wordsR ah.bytesR
    rw[if_neg hb,if_neg hf]
    show(cz [a,c]).getD 0 0=_
    unfold cz
    rw[if_pos (by simp)]
    rfl
  · unfold ah.wordsC ah.bytesC
    rw[if_neg hb,if_neg hf]
    rfl
theorem uk(a:Int)(t:List Int) : (ah.mk (a :: t) false 0).byteV=a∧(ah.mk (a :: t) false 0).bytesC 1=⟨t,false,0⟩:=wZ (b:=a :: t) (by simp)
theorem w6(t:List Int) : (ah.mk t false 0).bytesR ((t.length:Nat) : Int)=t:=by
  have hf:¬ (ah.mk t false 0).fails ((t.length:Nat) : Int)=true:=by
    unfold ah.fails
    simp only[Bool.or_eq_true,decide_eq_true_eq,not_or]
    exact⟨⟨by decide,by omega⟩,by omega⟩
  unfold ah.bytesR
  rw[if_neg hf]
  simp
def fq (dir:Int)(b:List Int) : dt × Int :=
  if dir != 0&&dir != 1 then (dt.zero,1)
  else if decide ((b.length:Int)<8) then (dt.zero,2)
  else if decide (260<(b.length:Int)) then (dt.zero,3)
  else if (b.getD 2 0 != 0)||(b.getD 3 0 != 0) then (dt.zero,13)
  else if ((256*b.getD 4 0)+b.getD 5 0)!=(b.length:Int)-6 then (dt.zero,5)
  else cw (b.getD 6 0) ((((256*b.getD 0 0)%65536)+b.getD 1 0)%65536) (cF dir (b.drop 7))
theorem fJ{dir:Int}{b:List Int}(hr:∀ x,x∈b→0≤x∧x<256) : fq dir b=dA dir b:=by
  unfold fq dA
  split
  · rfl
  split
  · rfl
  rename_i hl
  split
  · rfl
  obtain⟨a0,a1,a2,a3,a4,a5,a6,t,rfl⟩ : ∃ a0 a1 a2 a3 a4 a5 a6 t,b=a0 :: a1 :: a2 :: a3 :: a4 :: a5 :: a6 :: t:=by
    rcases b with _|⟨a0,_|⟨a1,_|⟨a2,_|⟨a3,_|⟨a4,_|⟨a5,_|⟨a6,t⟩⟩⟩⟩⟩⟩⟩
    case cons.cons.cons.cons.cons.cons.cons=>exact⟨_,_,_,_,_,_,_,_,rfl⟩
    all_goals simp at hl
  have h0:=hr a0 (by simp)
  have h1:=hr a1 (by simp)
  have h2:=hr a2 (by simp)
  have h3:=hr a3 (by simp)
  have h4:=hr a4 (by simp)
  have h5:=hr a5 (by simp)
  have e1:w7 (a0 :: a1 :: a2 :: a3 :: a4 :: a5 :: a6 :: t)=⟨a2 :: a3 :: a4 :: a5 :: a6 :: t,false,0⟩:=(jz _ _ _).2
  have e2:u5 (a0 :: a1 :: a2 :: a3 :: a4 :: a5 :: a6 :: t)=⟨a4 :: a5 :: a6 :: t,false,0⟩:=by unfold u5;rw[e1];exact(jz _ _ _).2
  have e3:u0 (a0 :: a1 :: a2 :: a3 :: a4 :: a5 :: a6 :: t)=⟨a6 :: t,false,0⟩:=by unfold u0;rw[e2];exact(jz _ _ _).2
  have e4:wi (a0 :: a1 :: a2 :: a3 :: a4 :: a5 :: a6 :: t)=⟨t,false,0⟩:=by unfold wi;rw[e3];exact(uk _ _).2
  have v0:(uw (a0 :: a1 :: a2 :: a3 :: a4 :: a5 :: a6 :: t)).wordV=a0*256+a1:=(jz _ _ _).1
  unfold kS
  rw[e1,e2,e3,e4,v0,(jz _ _ _).1,(jz _ _ _).1,(uk _ _).1,w6]
  show(if (a2 != 0)||(a3 != 0) then _ else if ((256*a4)+a5)!=_ then _ else cw a6 ((((256*a0)%65536)+a1)%65536) (cF dir t))=_
  rw[show((a2 != 0)||(a3 != 0))=(a2*256+a3 != 0) from by rw[Bool.eq_iff_iff];simp only[Bool.or_eq_true,bne_iff_ne,ne_eq];omega,show(256*a4)+a5=a4*256+a5 from by omega,show(((256*a0)%65536)+a1)%65536=a0*256+a1 from by omega]
def gK (dir:Int)(b:List Int) : dt × Int :=
  if dir != 0&&dir != 1 then (dt.zero,1)
  else if decide ((b.length:Int)<9) then (dt.zero,2)
  else if decide (513<(b.length:Int)) then (dt.zero,3)
  else if ((b.getD 0 0 != 58)||(b.getD ((b.length:Int)-2).toNat 0 != 13))||(b.getD ((b.length:Int)-1).toNat 0 != 10) then (dt.zero,12)
  else match cA ((b.take ((b.length:Int)-2).toNat).drop 1) with
    | none=>(dt.zero,11)
    | some x=>if !(fK x) then (dt.zero,10) else cw (x.getD 0 0) 0 (cF dir ((x.take ((x.length:Int)-1).toNat).drop 1))
theorem An{b:List Int}(h:3≤b.length) : ml (b.drop 1)=((b.getD ((b.length:Int)-2).toNat 0==13)&&(b.getD ((b.length:Int)-1).toNat 0==10)):=by
  unfold ml
  rw[show((((b.drop 1).length:Nat) : Int)-2).toNat=b.length-3 from by simp only[List.length_drop];omega,List.drop_drop,show 1+(b.length-3)=b.length-2 from by omega,show((b.length:Int)-2).toNat=b.length-2 from by omega,show((b.length:Int)-1).toNat=b.length-2+1 from by omega,decide_eq_true (show 2≤(((b.drop 1).length:Nat) : Int) from by simp only[List.length_drop];omega),Bool.true_and]
  have e:b.drop (b.length-2)=[b.getD (b.length-2) 0,b.getD (b.length-2+1) 0]:=by
    apply List.ext_getElem
    · simp;omega
    · intro i h1 h2
      simp only[List.length_cons,List.length_nil] at h2
      rw[List.getElem_drop]
      rcases i with _|_|i
      · simp[List.getD_eq_getElem?_getD,List.getElem?_eq_getElem (show b.length-2<b.length by omega)]
      · simp[List.getD_eq_getElem?_getD,List.getElem?_eq_getElem (show b.length-2+1<b.length by omega)]
      · omega
  rw[e,Bool.eq_iff_iff]
  simp only[decide_eq_true_eq,List.cons.injEq,and_true,Bool.and_eq_true,beq_iff_eq]
theorem fH{dir:Int}{b:List Int}:gK dir b=kV dir b:=by
  unfold gK kV
  split
  · rfl
  split
  · rfl
  rename_i hl
  have hl:9≤b.length:=by
    have:=of_decide_eq_false (by simpa using hl:decide ((b.length:Int)<9)=false)
    omega
  split
  · rfl
  have h2:=An (b:=b) (by omega)
  by_cases hc:(((b.getD 0 0 != 58)||(b.getD ((b.length:Int)-2).toNat 0 != 13))||(b.getD ((b.length:Int)-1).toNat 0 != 10))=true
  · rw[if_pos hc]
    have hd:lN b=none:=by
      unfold lN
      rw[if_neg]
      rintro⟨k1,k2⟩
      rw[h2] at k2
      simp only[Bool.or_eq_true,bne_iff_ne,ne_eq,Bool.and_eq_true,beq_iff_eq] at hc k2
      rcases hc with(hc|hc) | hc
      · exact hc k1
      · exact hc k2.1
      · exact hc k2.2
    rw[hd]
  · rw[if_neg hc]
    simp only[Bool.or_eq_true,bne_iff_ne,ne_eq,not_or,Decidable.not_not] at hc
    have hd:lN b=some ((b.take ((b.length:Int)-2).toNat).drop 1):=by
      unfold lN
      rw[if_pos ⟨hc.1.1,by rw[h2,hc.1.2,hc.2];rfl⟩,List.drop_take,show((b.length:Int)-2).toNat-1=b.length-3 from by omega]
    rw[hd]
    dsimp only
    cases cA ((b.take ((b.length:Int)-2).toNat).drop 1) with
    | none=>rfl
    | some x=>dsimp only;rw[sx]
open Go.RowKit
theorem hH.old{base:Nat}{w w':World}{v:Value}{xs:List Int}(h:hH base w v xs)(hu:aH [] w w') : hH base w' v xs:=by
  obtain⟨g,cap,cur,n,h1,h2,h3,h4⟩:=h
  exact⟨g,cap,cur,n,h1,h2,hu.blk (by simp) h3,h4⟩
section
variable {P:Program}{n:Nat}{D:List Deferred}{F:Fr}{w:World}{K:Fr→World→Prop}{Q:Exit→Act→World→Prop}{d:Option Tmp}{t:TypeId}{s:String}{af:Array Edge}{gu:Option (Nat × Bool)}
end
open Go.RowKit
theorem ya{w:World}{c:Int}(hc:0≤c∧c<256) : Calls Tryz.prog 118 #[vB c] w (cl (vI (cZ c)) w):=by
 refine en 23 Tryz.func118 rfl<|aE 1<|sq<|bk<|al 3<|cu 3 [6] 9 (((decide (48≤c))&&(decide (c≤57)))) (fun K f=>?_) ?_
 refine bl 6 ((decide (48≤c))) (fun a=>?_) (fun a=>?_)
 have h:=of_decide_eq_true a
 exact Pl 3<|ce f (decide (c≤57)) (by rw[a];rfl)
 have h:=of_decide_eq_false a
 exact Pl 3<|ce f false (by rw[a];rfl)
 refine ai 1<|cb (((decide (48≤c))&&(decide (c≤57)))) (fun d=>?_) (fun d=>?_)
 have i:=(bC d).1
 have j:=(bC d).2
 have n:=of_decide_eq_true i
 have o:=of_decide_eq_true j
 refine al 1<|bq c<|bq (c-48)<|ai 1<|rt<|br<|tr<|rr (vI (c-48))<|?_
 have hs:cZ c=(c-48):=by unfold cZ;(try simp only[Bool.and_eq_true,decide_eq_true_eq,Bool.and_eq_false_iff,decide_eq_false_iff_not] at *);(repeat' split)<;>omega
 rw[hs]
 exact⟨rfl,(aH.refl [] _)⟩
 refine al 3<|cu 3 [16] 19 (((decide (65≤c))&&(decide (c≤70)))) (fun K g=>?_) ?_
 refine bl 16 ((decide (65≤c))) (fun b=>?_) (fun b=>?_)
 have k:=of_decide_eq_true b
 exact Pl 3<|ce g (decide (c≤70)) (by rw[b];rfl)
 have k:=of_decide_eq_false b
 exact Pl 3<|ce g false (by rw[b];rfl)
 refine ai 1<|cb (((decide (65≤c))&&(decide (c≤70)))) (fun e=>?_) (fun e=>?_)
 have l:=(bC e).1
 have m:=(bC e).2
 have p:=of_decide_eq_true l
 have q:=of_decide_eq_true m
 refine al 1<|bq c<|bq (c-55)<|ai 1<|rt<|br<|tr<|rr (vI (c-55))<|?_
 have hs:cZ c=(c-55):=by unfold cZ;(try simp only[Bool.and_eq_true,decide_eq_true_eq,Bool.and_eq_false_iff,decide_eq_false_iff_not] at *);(repeat' split)<;>omega
 rw[hs]
 exact⟨rfl,(aH.refl [] _)⟩
 refine sk<|bn<|tn<|aE 1<|rt<|rr (vI (-1))<|?_
 have hs:cZ c = -1:=by unfold cZ;(try simp only[Bool.and_eq_true,decide_eq_true_eq,Bool.and_eq_false_iff,decide_eq_false_iff_not] at *);(repeat' split)<;>omega
 rw[hs]
 exact⟨rfl,(aH.refl [] _)⟩
theorem tW(c:Int) : -1≤cZ c:=by
  unfold cZ
  (repeat' split)<;>omega
theorem wC{xs:List Int}{w:World}(hr:fj xs)(hl:xs.length≤1048576) :
    Calls Tryz.prog 84 #[.string (strOfNums xs)] w (iz xs w):=by
 refine en 43 Tryz.func84 rfl<|aE 2<|sq<|al 1<|L0<|Oe (vI (((strOfNums xs).size:Nat) : Int)) (vI (xs.length:Int)) (by rw[strOfNums_size])<|L0<|Oe (vI (Int.tmod (xs.length:Int) 2)) (vI ((xs.length:Int)%2)) (congrArg (Value.int .i64) (Int.tmod_eq_emod_of_nonneg (by omega)))<|Pl 1<|nl<|tn<|cb ((((xs.length:Int)%2)==1)) (fun d=>?_) (fun d=>?_)
 have v:=ag d
 refine aE 2<|aX<|rr (.tuple #[nS,vI 11])<|?_
 have hs:cA xs=none:=oR (by omega)
 exact ur hs ⟨rfl,(aH.refl [] _)⟩
 have v:=au d
 refine bj<|aE 1<|sq<|aE 1<|bk<|jf (fun x=>[(0,.string (strOfNums xs)),(4,.slice x.2.2.1 x.2.1.length x.2.2.2),(5,vI ((2*x.1:Nat) : Int))]) (fun(x:Nat × List Int × Option Addr × Nat) w'=>aH [] w w'∧eG w.heap.size w' (.slice x.2.2.1 x.2.1.length x.2.2.2) x.2.1∧(2*x.1≤xs.length)∧(cA xs=(cA (xs.drop (2*x.1))).map fun l=>x.2.1++l)∧(x.2.1.length=x.1)) (fun x=>xs.length-2*x.1) (0,[],none,0) ⟨aH.refl _ _,(b6.nil w.heap.size _ _ wx _),(by(try dsimp only);omega),(by(try dsimp only);simp),(by(try dsimp only);rfl)⟩ ?_
 rintro⟨k,L,B,cq⟩ y ⟨f,z,A,C,D⟩
 refine je [(0,.string (strOfNums xs)),(4,.slice B L.length cq),(5,vI ((2*k:Nat) : Int))] ?_
 have g:eG w.heap.size y (.slice B L.length cq) L:=z
 have R:2*k≤xs.length:=A
 have S:cA xs=(cA (xs.drop (2*k))).map fun l=>L++l:=C
 have T:L.length=k:=D
 have hL:cA xs=(cA (xs.drop (2*k))).map fun l=>L++l:=by assumption
 refine sq<|al 1<|bq (((2*k:Nat) : Int)+1)<|Pl 1<|L0<|Oe (vI (((strOfNums xs).size:Nat) : Int)) (vI (xs.length:Int)) (by rw[strOfNums_size])<|ai 1<|cb ((decide ((((2*k:Nat) : Int)+1)<(xs.length:Int)))) (fun j=>?_) (fun j=>?_)
 have E:=of_decide_eq_true j
 refine bj<|sq<|bk<|al 2<|L0<|ik (vB (xs.getD (2*k) 0)) (qS (xs:=xs) (k:=.i64) (i:=((2*k:Nat) : Int)) (2*k) rfl Tryz.underlying9 (by kernel_rfl) (by kernel_rfl) hr rfl (by omega))<|?_
 have U:=ua (xs.getD (2*k) 0)
 have V:=tW (xs.getD (2*k) 0)
 refine ay<|m1 (ya (c:=(xs.getD (2*k) 0)) (w:=_) (gw (by omega) hr _)) fun W o=>Pl 1<|aM 2<|bq (((2*k:Nat) : Int)+1)<|L0<|ik (vB (xs.getD ((((2*k:Nat) : Int)+1)).toNat 0)) (qS (xs:=xs) (k:=.i64) (i:=(((2*k:Nat) : Int)+1)) ((((2*k:Nat) : Int)+1)).toNat rfl Tryz.underlying9 (by kernel_rfl) (by kernel_rfl) hr (by omega) (by omega))<|?_
 have X:=ua (xs.getD ((((2*k:Nat) : Int)+1)).toNat 0)
 have Y:=tW (xs.getD ((((2*k:Nat) : Int)+1)).toNat 0)
 refine ay<|m1 (ya (c:=(xs.getD ((((2*k:Nat) : Int)+1)).toNat 0)) (w:=_) (gw (by omega) hr _)) fun Z p=>ai 1<|sq<|al 3<|cu 3 [30] 33 ((((cZ (xs.getD (2*k) 0))==(-1))||((cZ (xs.getD ((((2*k:Nat) : Int)+1)).toNat 0))==(-1)))) (fun K r=>?_) ?_
 refine bl 30 (((cZ (xs.getD (2*k) 0))==(-1))) (fun a=>?_) (fun a=>?_)
 have F:=ag a
 exact Pl 3<|ce r true (by rw[a];rfl)
 have F:=au a
 exact Pl 3<|ce r ((cZ (xs.getD ((((2*k:Nat) : Int)+1)).toNat 0))==(-1)) (by rw[a];rfl)
 refine nt<|?_
 have s:=aI o p
 have t:=aI f s
 refine cb ((((cZ (xs.getD (2*k) 0))==(-1))||((cZ (xs.getD ((((2*k:Nat) : Int)+1)).toNat 0))==(-1)))) (fun b=>?_) (fun b=>?_)
 refine aE 2<|aX<|br<|tr<|tr<|br<|tr<|rr (.tuple #[nS,vI 11])<|?_
 have hs:cA xs=none:=wH (k:=k) hL (by omega) (by have q:=b;simp only[Bool.or_eq_true,beq_iff_eq] at q;rw[show 2*k+1=(((2*k:Nat) : Int)+1).toNat from by omega];omega)
 exact ur hs ⟨rfl,t⟩
 have G:=(bK b).1
 have H:=(bK b).2
 have a0:=au G
 have a1:=au H
 refine bj<|go<|Pl 2<|bq (16*(cZ (xs.getD (2*k) 0)))<|Pl 1<|bq ((16*(cZ (xs.getD (2*k) 0)))+(cZ (xs.getD ((((2*k:Nat) : Int)+1)).toNat 0)))<|Pl 1<|L0<|cY (m:=1) (e:=5) #[vB (((16*(cZ (xs.getD (2*k) 0)))+(cZ (xs.getD ((((2*k:Nat) : Int)+1)).toNat 0)))%256)] fun a2 a3 I J n=>?_
 have M:=cG I (xs:=[(((16*(cZ (xs.getD (2*k) 0)))+(cZ (xs.getD ((((2*k:Nat) : Int)+1)).toNat 0)))%256)]) (by as_aux_lemma=>kernel_rfl) (am (by omega) aR) (by(try simp only[List.length_cons,List.length_nil]);omega) J
 refine L0<|bQ b9 (xs:=L) (ys:=([(((16*(cZ (xs.getD (2*k) 0)))+(cZ (xs.getD ((((2*k:Nat) : Int)+1)).toNat 0)))%256)])) (vB 0) 1 (av g (aI s n) (fun x hx=>aF) (fun _ _ h=>h)) (M).rd (by(try simp only[bT,aC]);omega) (le (le (le f.size o.size) p.size) n.size) fun N O a4 P Q=>Pl 1<|nl<|bn<|tn<|go<|Pl 1<|bq (((2*k:Nat) : Int)+2)<|Pl 1<|nl<|?_
 have u:=tb (k:=k) hL (by omega) (by omega) (by rw[show 2*k+1=(((2*k:Nat) : Int)+1).toNat from by omega];omega)
 rw[show 2*k+1=(((2*k:Nat) : Int)+1).toNat from by omega] at u
 exact gI ((k+1),(L++[(((16*(cZ (xs.getD (2*k) 0)))+(cZ (xs.getD ((((2*k:Nat) : Int)+1)).toNat 0)))%256)]),N,O) ⟨(ut t (ut (aH.mono (S':=(ob B++[])) n aA) Q (ap il aA)) (ap (aT g lr) aA)),P,(by(try dsimp only);omega),u,(by(try dsimp only);simp only[bT];omega)⟩ (by omega)
 have E:=of_decide_eq_false j
 refine xt<|tx<|tx<|bx<|tn<|aE 3<|rt<|rr (.tuple #[.slice B L.length cq,vI 0])<|?_
 have hs:cA xs=some L:=vi hL (by omega)
 exact B7 hs ⟨_,rfl,g,f⟩
theorem uo{m:Md}{A:Option Addr}{cp:Nat}{b:List Int}{w:World}(hsl:aZ m w (.slice A b.length cp) b) :
    Calls Tryz.prog 119 #[.slice A b.length cp] w (cl (vB (cy b)) w):=by
 have hln:=aS.len hsl
 have hb:=aZ.range hsl
 refine en 23 Tryz.func119 rfl<|al 1<|cE 1<|sq<|aE 1<|bk<|jf (fun x=>[(0,.slice A b.length cp),(2,vB 0),(3,vI (gg b x)),(4,vI (x:Int))]) (fun(x:Nat) w'=>aH [] w w'∧(x≤b.length)) (fun x=>b.length-x) 0 ⟨aH.refl _ _,(by(try dsimp only);omega)⟩ ?_
 rintro k j ⟨a,d⟩
 refine je [(0,.slice A b.length cp),(2,vB 0),(3,vI (gg b k)),(4,vI (k:Int))] ?_
 have l:k≤b.length:=d
 have hlr:=qY b k
 refine sq<|aE 4<|cb ((decide ((k:Int)<(b.length:Int)))) (fun c=>?_) (fun c=>?_)
 have e:=of_decide_eq_true c
 refine bj<|sq<|bk<|go<|Pl 3<|?_
 exact ft (aZ.at_ (aZ.old hsl a) k (by omega)) fun f g h i n=>L0<|kY b.length k h (by omega)<|L0<|eu (p:=⟨f,g+k,none⟩) (v:=vB (b.getD k 0)) i<|bq (b.getD k 0)<|bq ((gg b k)+(b.getD k 0))<|L0<|Oe (vI (Int.tmod ((gg b k)+(b.getD k 0)) 256)) (vI (((gg b k)+(b.getD k 0))%256)) (congrArg (Value.int .i64) (Int.tmod_eq_emod_of_nonneg (by omega)))<|Pl 1<|nl<|bn<|tn<|go<|Pl 1<|bq ((k:Int)+1)<|Pl 1<|nl<|gI (k+1) ⟨a,(by(try dsimp only);omega)⟩ (by omega)
 have e:=of_decide_eq_false c
 refine xt<|tx<|tx<|bx<|tn<|al 1<|bq (256-(gg b k))<|L0<|Oe (vI (Int.tmod (256-(gg b k)) 256)) (vI ((256-(gg b k))%256)) (congrArg (Value.int .i64) (Int.tmod_eq_emod_of_nonneg (by omega)))<|ai 2<|rt<|rr (vB (((256-(gg b k))%256)%256))<|?_
 have hk:k=b.length:=by omega
 subst hk
 have hs:cy b=(((256-(gg b b.length))%256)%256):=by unfold cy rg;omega
 rw[hs]
 exact⟨rfl,a⟩
theorem AR{m:Md}{A:Option Addr}{cp:Nat}{b:List Int}{w:World}(hsl:aZ m w (.slice A b.length cp) b) :
    Calls Tryz.prog 85 #[.slice A b.length cp] w (cl (.bool (fK b)) w):=by
 have hln:=aS.len hsl
 refine en 9 Tryz.func85 rfl<|aE 1<|sq<|aE 3<|cb (((b.length:Int)==0)) (fun a=>?_) (fun a=>?_)
 have c:=ag a
 refine aE 1<|aX<|rr (.bool false)<|?_
 have hs:fK b=false:=by unfold fK;rw[decide_eq_false (by omega)];rfl
 rw[hs]
 exact⟨rfl,(aH.refl [] _)⟩
 have c:=au a
 refine bj<|al 1<|ay (args:=#[.slice A b.length cp])<|m1 (uo hsl) fun e d=>ai 2<|rt<|rr (.bool ((cy b)==0))<|?_
 have hs:fK b=((cy b)==0):=by unfold fK;rw[decide_eq_true (by omega)];rfl
 rw[hs]
 exact⟨rfl,d⟩
open Go.RowKit
theorem qm{m:Md}{A:Option Addr}{cp:Nat}{b:List Int}{w:World}{dir:Int}(hsl:aZ m w (.slice A b.length cp) b)(hb:b.length≤1048576)(hcp:b.length≤cp) :
    Calls Tryz.prog 57 #[vI dir,.slice A b.length cp] w (qe (kV dir b) w):=by
 have hln:(b.length:Int)≤1048576:=by omega
 have hr:fj b:=aZ.range hsl
 refine en 86 Tryz.func57 rfl<|sg<|aK #[vB 0,vW 0,vB 0,vB 0,vW 0,vW 0,vW 0,vW 0,vW 0,vW 0,vW 0,vW 0,vW 0,vW 0,nS,nS,nS,nS,vB 0,vB 0,vB 0,vB 0,vB 0,nS] fun bw S l f q=>Pl 1<|cE 3<|sq<|sq<|go<|Pl 3<|cu 3 [16] 19 (((dir != 0)&&(dir != 1))) (fun K T=>?_) ?_
 refine bl 16 ((dir != 0)) (fun z=>?_) (fun z=>?_)
 have ac:=aB z
 exact Pl 3<|ce T (dir != 1) (by rw[z];rfl)
 have ac:=az z
 exact Pl 3<|ce T false (by rw[z];rfl)
 refine nt<|cb (((dir != 0)&&(dir != 1))) (fun i=>?_) (fun i=>?_)
 have U:=(bC i).1
 have V:=(bC i).2
 have bx:=aB U
 have bz:=aB V
 refine al 1<|aG f #[vB 0,vW 0,vB 0,vB 0,vW 0,vW 0,vW 0,vW 0,vW 0,vW 0,vW 0,vW 0,vW 0,vW 0,nS,nS,nS,nS,vB 0,vB 0,vB 0,vB 0,vB 0,nS] fun bA ae af=>ai 1<|aX<|bJ ae (vI 1)<|?_
 have hs:gK dir b=(dt.zero,1):=by
   unfold gK
   (try simp only[i,U,V,bi,cw,reduceIte])
   all_goals rfl
 rw[← fH]
 refine eM hs ?_
 exact dm (ud q af l)
 refine bj<|sq<|aE 2<|cb ((decide ((b.length:Int)<9))) (fun j=>?_) (fun j=>?_)
 have ag:=of_decide_eq_true j
 refine al 1<|aG f #[vB 0,vW 0,vB 0,vB 0,vW 0,vW 0,vW 0,vW 0,vW 0,vW 0,vW 0,vW 0,vW 0,vW 0,nS,nS,nS,nS,vB 0,vB 0,vB 0,vB 0,vB 0,nS] fun bB ah aj=>ai 1<|aX<|bJ ah (vI 2)<|?_
 have hs:gK dir b=(dt.zero,2):=by
   unfold gK
   (try simp only[i,j,bi,cw,reduceIte])
   all_goals rfl
 rw[← fH]
 refine eM hs ?_
 exact dm (ud q aj l)
 have ag:=of_decide_eq_false j
 refine bj<|sq<|aE 2<|cb ((decide (513<(b.length:Int)))) (fun k=>?_) (fun k=>?_)
 have ak:=of_decide_eq_true k
 refine al 1<|aG f #[vB 0,vW 0,vB 0,vB 0,vW 0,vW 0,vW 0,vW 0,vW 0,vW 0,vW 0,vW 0,vW 0,vW 0,nS,nS,nS,nS,vB 0,vB 0,vB 0,vB 0,vB 0,nS] fun bD am an=>ai 1<|aX<|bJ am (vI 3)<|?_
 have hs:gK dir b=(dt.zero,3):=by
   unfold gK
   (try simp only[i,j,k,bi,cw,reduceIte])
   all_goals rfl
 rw[← fH]
 refine eM hs ?_
 exact dm (ud q an l)
 have ak:=of_decide_eq_false k
 refine bj<|sq<|al 1<|?_
 have t:=aZ.old hsl q
 refine ft (aZ.at_ t 0 (by omega)) fun ap au aA aC bE=>L0<|kY b.length 0 aA (by omega)<|L0<|eu (p:=⟨ap,au+0,none⟩) (v:=vB (b.getD 0 0)) aC<|Pl 2<|bl 31 (((b.getD 0 0)!=58)) (fun o=>?_) (fun o=>?_)
 have aD:=aB o
 refine ai 15<|c1<|al 1<|aG f #[vB 0,vW 0,vB 0,vB 0,vW 0,vW 0,vW 0,vW 0,vW 0,vW 0,vW 0,vW 0,vW 0,vW 0,nS,nS,nS,nS,vB 0,vB 0,vB 0,vB 0,vB 0,nS] fun bF aH aM=>ai 1<|aX<|bJ aH (vI 12)<|?_
 have hs:gK dir b=(dt.zero,12):=by
   unfold gK
   (try simp only[i,j,k,o,bi,cw,reduceIte])
   all_goals rfl
 rw[← fH]
 refine eM hs ?_
 exact dm (ud q aM l)
 have aD:=az o
 refine Pl 2<|L1<|Oi ((b.length:Int)-2)<|ft (aZ.at_ t ((((b.length:Int)-2)).toNat) (by omega)) fun aO aP aQ aR bG=>L1<|wn b.length ((((b.length:Int)-2)).toNat) ((b.length:Int)-2) (by omega) aQ (by omega)<|L1<|eu (p:=⟨aO,aP+((((b.length:Int)-2)).toNat),none⟩) (v:=vB (b.getD ((((b.length:Int)-2)).toNat) 0)) aR<|Pl 3<|bl 39 (((b.getD ((((b.length:Int)-2)).toNat) 0)!=13)) (fun r=>?_) (fun r=>?_)
 have aS:=aB r
 refine ai 7<|c1<|al 1<|aG f #[vB 0,vW 0,vB 0,vB 0,vW 0,vW 0,vW 0,vW 0,vW 0,vW 0,vW 0,vW 0,vW 0,vW 0,nS,nS,nS,nS,vB 0,vB 0,vB 0,vB 0,vB 0,nS] fun bH aT aU=>ai 1<|aX<|bJ aT (vI 12)<|?_
 have hs:gK dir b=(dt.zero,12):=by
   unfold gK
   (try simp only[i,j,k,o,r,bi,cw,reduceIte])
   all_goals rfl
 rw[← fH]
 refine eM hs ?_
 exact dm (ud q aU l)
 have aS:=az r
 refine Pl 2<|L1<|Oi ((b.length:Int)-1)<|ft (aZ.at_ t ((((b.length:Int)-1)).toNat) (by omega)) fun aV aW aY b0 bI=>L1<|wn b.length ((((b.length:Int)-1)).toNat) ((b.length:Int)-1) (by omega) aY (by omega)<|L1<|eu (p:=⟨aV,aW+((((b.length:Int)-1)).toNat),none⟩) (v:=vB (b.getD ((((b.length:Int)-1)).toNat) 0)) b0<|ai 2<|cb (((b.getD ((((b.length:Int)-1)).toNat) 0)!=10)) (fun s=>?_) (fun s=>?_)
 have b1:=aB s
 refine al 1<|aG f #[vB 0,vW 0,vB 0,vB 0,vW 0,vW 0,vW 0,vW 0,vW 0,vW 0,vW 0,vW 0,vW 0,vW 0,nS,nS,nS,nS,vB 0,vB 0,vB 0,vB 0,vB 0,nS] fun bK b2 b3=>ai 1<|aX<|bJ b2 (vI 12)<|?_
 have hs:gK dir b=(dt.zero,12):=by
   unfold gK
   (try simp only[i,j,k,o,r,s,bi,cw,reduceIte])
   all_goals rfl
 rw[← fH]
 refine eM hs ?_
 exact dm (ud q b3 l)
 have b1:=az s
 refine bj<|al 2<|bq ((b.length:Int)-2)<|ny (gW (P:=Tryz.prog) 27 5 1 Tryz.underlying27 rfl rfl A b.length cp (lo:=1) (up:=((b.length:Int)-2)) 1 ((((b.length:Int)-2)).toNat) (by omega) (by omega) (by omega) (by omega) (by omega)) fun W hrun64 H=>L0<|ik (.slice W (((((b.length:Int)-2)).toNat)-1) (cp-1)) (fa (kl:=.i64) (kh:=.i64) (lo:=1) (hi:=((b.length:Int)-2)) (A:=A) (n:=b.length) (c:=cp) rfl Tryz.underlying27 (by kernel_rfl) (by kernel_rfl) (by kernel_rfl) (hrun64 _ _ _))<|L0<|ik (.string (strOfNums ((b.take ((((b.length:Int)-2)).toNat)).drop 1))) (cV (A:=W) (n:=(((((b.length:Int)-2)).toNat)-1)) (c:=(cp-1)) rfl (by kernel_rfl) Tryz.underlying27 Tryz.underlying5 Tryz.underlying9 (H _ _ _ _ _ t))<|?_
 rcases hth:cA ((b.take ((((b.length:Int)-2)).toNat)).drop 1) with _|x
 have b4:=(wC (w:=S) (aZ.range (H _ _ _ _ _ t)) (by rw[List.length_drop,List.length_take];omega)).mono (wS hth)
 refine ay<|m1 b4 fun bL X=>ai 5<|sq<|aE 2<|c1<|al 2<|?_
 refine aG (ub X f) #[vB 0,vW 0,vB 0,vB 0,vW 0,vW 0,vW 0,vW 0,vW 0,vW 0,vW 0,vW 0,vW 0,vW 0,nS,nS,nS,nS,vB 0,vB 0,vB 0,vB 0,vB 0,nS] fun bM b5 b6=>ai 1<|aX<|bJ b5 (vI 11)<|?_
 have hs:gK dir b=(dt.zero,11):=by
   unfold gK
   (try simp only[i,j,k,o,r,s,bi,cw,hth,reduceIte])
   all_goals rfl
 rw[← fH]
 refine eM hs ?_
 exact dm (ud q (uz X b6) l)
 have hxl:2*x.length=(((b.take ((((b.length:Int)-2)).toNat)).drop 1)).length:=by have:=oF hth;omega
 have hxl2:(((b.take ((((b.length:Int)-2)).toNat)).drop 1)).length=b.length-3:=by rw[List.length_drop,List.length_take];omega
 have b9:=(wC (w:=S) (aZ.range (H _ _ _ _ _ t)) (by rw[List.length_drop,List.length_take];omega)).mono (xG hth)
 refine ay<|dV b9 fun I D bN J bO bP Y=>ai 5<|sq<|aE 2<|c0<|bj<|sq<|go<|Pl 1<|ay (args:=#[.slice I x.length D])<|m1 (AR (J).rd) fun bQ L=>ai 1<|sq<|aE 2<|?_
 have B:=aI Y L
 have Z:=aI q B
 refine cb ((!(fK x))) (fun u=>?_) (fun u=>?_)
 have E:(fK x)=false:=by simpa using u
 refine al 1<|?_
 refine aG (ub B f) #[vB 0,vW 0,vB 0,vB 0,vW 0,vW 0,vW 0,vW 0,vW 0,vW 0,vW 0,vW 0,vW 0,vW 0,nS,nS,nS,nS,vB 0,vB 0,vB 0,vB 0,vB 0,nS] fun bR ba bb=>ai 1<|aX<|bJ ba (vI 10)<|?_
 have hs:gK dir b=(dt.zero,10):=by
   unfold gK
   (try simp only[i,j,k,o,r,s,u,E,bi,cw,hth,reduceIte])
   all_goals rfl
 rw[← fH]
 refine eM hs ?_
 exact dm (ud Z bb l)
 have E:(fK x)=true:=by simpa using u
 refine bj<|al 4<|bq ((x.length:Int)-1)<|ny (gW (P:=Tryz.prog) 27 5 1 Tryz.underlying27 rfl rfl I x.length D (lo:=1) (up:=((x.length:Int)-1)) 1 ((((x.length:Int)-1)).toNat) (by omega) (by omega) (by omega) (by omega) (by omega)) fun bc hrun96 a0=>L0<|ik (.slice bc (((((x.length:Int)-1)).toNat)-1) (D-1)) (fa (kl:=.i64) (kh:=.i64) (lo:=1) (hi:=((x.length:Int)-1)) (A:=I) (n:=x.length) (c:=D) rfl Tryz.underlying27 (by kernel_rfl) (by kernel_rfl) (by kernel_rfl) (hrun96 _ _ _))<|?_
 have a1:=av J L (fun x hx=>aF) (fun _ _ h=>h)
 refine pr (cF dir ((x.take ((((x.length:Int)-1)).toNat)).drop 1)) fun a M N=>?_
 refine ay<|e2 (iG N (a0 _ _ _ _ _ (a1).rd) (by rw[List.length_drop,List.length_take];omega)) fun d bS bd F=>?_
 have a2:=av a1 F (fun x hx=>aF) (fun _ _ h=>h)
 refine Pl 3<|aK mZ fun a3 bT a4 bf bg=>aG bf (fb a d) fun bU bh bk=>ai 1<|sq<|aE 2<|?_
 have O:=ud bg bk a4
 have Q:=aI F O
 have a5:=aI Z Q
 refine cb ((M != 0)) (fun C=>?_) (fun C=>?_)
 have bm:=aB C
 refine al 2<|?_
 refine aG (ub (aI B Q) f) #[vB 0,vW 0,vB 0,vB 0,vW 0,vW 0,vW 0,vW 0,vW 0,vW 0,vW 0,vW 0,vW 0,vW 0,nS,nS,nS,nS,vB 0,vB 0,vB 0,vB 0,vB 0,nS] fun bV bn bp=>ai 1<|aX<|bJ bn (vI M)<|?_
 have hs:gK dir b=(dt.zero,M):=by
   unfold gK
   (try simp only[i,j,k,o,r,s,u,E,C,bi,cw,hth,N,reduceIte])
   all_goals rfl
 rw[← fH]
 refine eM hs ?_
 exact dm (ud a5 bp l)
 have bm:=az C
 refine bj<|sq<|?_
 have a6:=av a2 O (fun x hx=>aF) (fun _ _ h=>h)
 refine ft (aZ.at_ (a6).rd 0 (by omega)) fun br bs a7 bt bW=>Rg 8 (fun w'=>w'.cell? ⟨br,bs+0,none⟩=some (vB (x.getD 0 0))∧w'.heap[a3]? = some (.cells (fb a d) 45 (0,0))) fun bX G=>?_
 have a8:=ub G bh
 refine bo ⟨(uc G bt),a8⟩ fun y=>Rt 0 y<|lS 1 y x.length 0 0 rfl a7 (by omega)<|Rl 2 y (fun _ hs=>hs.1)<|Rt 3 y<|Rr 4 y (.agg (fb a d)) (fun w' hs=>iw (g:=a3) (off:=0) [vB a.code,vB a.fail,vW a.addr,vW a.count,vW a.value,vW a.and_,vW a.or_,vW a.addr2,vW a.sub,vW a.status,vW a.events,vW a.messages,.slice d.aw a.words.length d.kw,.slice d.ab a.bits.length d.kb,.slice d.ad a.data.length d.kd,.slice d.ar a.recs.length d.kr,vB a.mei,vB a.kind,vB a.level,vB a.more,vB a.next,.slice d.ao a.objects.length d.ko] rfl (by kernel_rfl) hs.2 (by kernel_rfl) (by kernel_rfl) rfl)<|Rt 5 y<|?_
 refine R0 6 rfl<|gJ (ub (aI B (aI Q G)) f) (ed (x.getD 0 0) 0 a d) fun bY bu a9=>?_
 have R:=uz G a9
 refine bo ⟨(cB ((av a6 R (fun x hx=>(aa (fun e=>(aL (aq f) lr J) (e▸hx)) aF)) (fun _ _ h=>h))).rd a7 0 (by omega)),(be a9 (Ne.symm (nb (aq f) (le (le Y.size L.size) F.size) a4)) a8)⟩ fun bv=>Rt 7 bv<|re<|tn<|rt<|bJ bu (vI 0)<|?_
 have hs:gK dir b=(⟨(x.getD 0 0),0,a⟩,0):=by
   unfold gK
   (try simp only[i,j,k,o,r,s,u,E,C,bi,cw,hth,N,reduceIte])
   all_goals rfl
 rw[← fH]
 refine eM hs ?_
 exact⟨_,rfl,⟨fb a d,(by as_aux_lemma=>kernel_rfl),(aJ.upd (cK.rdt bd (a0 _ _ _ _ _ (a2).rd)) (uz O R) (ax (b7 (ub (aI B F) f) (by decide)) aN)),b8 (x:=(x.getD 0 0)) (by omega),cP (x:=0) (by omega)⟩,(ud a5 R l)⟩
theorem sb{m:Md}{v:Value}{b:List Int}{w:World}{dir:Int}(h:aZ m w v b)(hb:b.length≤1048576) : Calls Tryz.prog 57 #[.int .i64 dir,v] w (qe (kV dir b) w):=by
  obtain⟨A,cp,rfl,hc,_⟩:=h.shape
  exact qm h hb hc
theorem pQ{m:Md}{v:Value}{b:List Int}{w:World}{dir:Int}{F:dt}{E:Int}(hX:kV dir b=(F,E))(h:aZ m w v b)(hb:b.length≤1048576) : Calls Tryz.prog 57 #[.int .i64 dir,v] w (fun e w'=>∃ x,e = .returned (.tuple #[.agg (ed F.unit F.tid F.msg x),.int .i64 E])∧(aJ true w' (fb F.msg x).toList F.msg∧(0≤F.unit∧F.unit<256)∧(0≤F.tid∧F.tid<65536))∧aH [] w w'):=by
  refine(sb h hb).mono ?_
  rintro e w' ⟨cs,rfl,h1,h2⟩
  rw[hX] at h1 ⊢
  obtain⟨c,rfl,h3,h4,h5⟩:=h1
  obtain⟨x,rfl⟩:=n8 h3
  exact⟨x,by rw[hZ],⟨h3,h4,h5⟩,h2⟩
open Go.RowKit
theorem Cl{x y:Int}(hx:0≤x∧x<256)(hy:0<y) : IntKind.u8.wrap (Int.tdiv x y)=x/y:=by
  rw[Int.tdiv_eq_ediv_of_nonneg hx.1]
  refine u8_in ⟨Int.ediv_nonneg hx.1 (Int.le_of_lt hy),?_⟩
  have:=Int.ediv_le_self y hx.1
  omega
theorem Bd{w:World}{c:Int}(hc:0≤c∧c<16) : Calls Tryz.prog 190 #[vB c] w (cl (vB (el c)) w):=by
 refine en 9 Tryz.func190 rfl<|aE 1<|sq<|aE 2<|cb ((decide (c<10))) (fun a=>?_) (fun a=>?_)
 have b:=of_decide_eq_true a
 refine aE 3<|aX<|rr (vB ((48+c)%256))<|?_
 have hs:el c=((48+c)%256):=by unfold el;split<;>omega
 rw[hs]
 exact⟨rfl,(aH.refl [] _)⟩
 have b:=of_decide_eq_false a
 refine bj<|aE 3<|rt<|rr (vB ((55+c)%256))<|?_
 have hs:el c=((55+c)%256):=by unfold el;split<;>omega
 rw[hs]
 exact⟨rfl,(aH.refl [] _)⟩
theorem BV{m:Md}{A:Option Addr}{cp:Nat}{b:List Int}{w:World}(hsl:aZ m w (.slice A b.length cp) b)(hl:b.length≤1024) : Calls Tryz.prog 128 #[.slice A b.length cp] w (cl (.string (strOfNums (dj b))) w):=by
 have hb:=aZ.range hsl
 refine en 28 Tryz.func128 rfl<|al 1<|cE 1<|sq<|aE 1<|bk<|jf (fun x=>[(0,.slice A b.length cp),(2,.string ⟨#[]⟩),(3,.string (strOfNums x.2)),(4,vI (x.1:Int))]) (fun(x:Nat × List Int) w'=>aH [] w w'∧(x.1≤b.length)∧(x.2=dj (b.take x.1))) (fun x=>b.length-x.1) (0,[]) ⟨aH.refl _ _,(by(try dsimp only);omega),rfl⟩ ?_
 rintro⟨k,L⟩ G ⟨g,s,t⟩
 refine je [(0,.slice A b.length cp),(2,.string ⟨#[]⟩),(3,.string (strOfNums L)),(4,vI (k:Int))] ?_
 have H:k≤b.length:=s
 have I:L=dj (b.take k):=t
 have hL:L=dj (b.take k):=by assumption
 have hLn:L.length=2*k:=by rw[hL,dT,List.length_take];omega
 have hLb:fj L:=by rw[hL];exact jF fun x hx=>hb x (List.mem_of_mem_take hx)
 refine sq<|aE 4<|cb ((decide ((k:Int)<(b.length:Int)))) (fun h=>?_) (fun h=>?_)
 have u:=of_decide_eq_true h
 refine bj<|sq<|bk<|?_
 refine ft (aZ.at_ (aZ.old hsl g) k (by omega)) fun v y j f J=>Rg 17 (fun w'=>w'.cell? ⟨v,y+k,none⟩=some (vB (b.getD k 0))) fun K l=>bo (uc l f) fun d=>Rt 0 d<|Rt 1 d<|Rt 2 d<|lS 3 d b.length k (k:Int) rfl j (by omega)<|Rl 4 d (fun _ hs=>hs)<|Rr 5 d (vB ((b.getD k 0)/16)) (fun _ _=>bX (vB (IntKind.u8.wrap (Int.tdiv (b.getD k 0) 16))) (by kernel_rfl) (congrArg (Value.int .u8) (Cl (by omega) (by omega))))<|Rt 7 d<|Rt 8 d<|lS 9 d b.length k (k:Int) rfl j (by omega)<|Rl 10 d (fun _ hs=>hs)<|Rr 11 d (vB ((b.getD k 0)%16)) (fun _ _=>bX (vB (Int.tmod (b.getD k 0) 16)) (by kernel_rfl) (congrArg (Value.int .u8) (Int.tmod_eq_emod_of_nonneg (by omega))))<|?_
 have M:=ir (n:=((b.getD k 0)/16)) (by omega)
 refine R0 6 rfl<|Oc<|m1 (Bd (c:=((b.getD k 0)/16)) (w:=_) (by omega)) fun N z=>?_
 have o:=aI l z
 refine bo (uc o f) fun O=>?_
 have P:=ir (n:=((b.getD k 0)%16)) (by omega)
 refine R0 12 rfl<|Oc<|m1 (Bd (c:=((b.getD k 0)%16)) (w:=_) (by omega)) fun Q B=>?_
 have p:=aI o B
 refine bo (uc p f) fun R=>R0 13 rfl<|cY (m:=2) (e:=5) #[vB (el ((b.getD k 0)/16)),vB (el ((b.getD k 0)%16))] fun C S D E F=>?_
 have q:=cG D (xs:=[(el ((b.getD k 0)/16)),(el ((b.getD k 0)%16))]) (by as_aux_lemma=>kernel_rfl) (am (by omega) (am (by omega) aR)) (by(try simp only[List.length_cons,List.length_nil]);omega) E
 have i:=aI p F
 refine bo (uc i f) fun T=>R0 14 rfl<|ik (.string (strOfNums ([(el ((b.getD k 0)/16)),(el ((b.getD k 0)%16))]))) (cV (A:=some ⟨C,0,none⟩) (n:=2) (c:=2) rfl (by kernel_rfl) Tryz.underlying27 Tryz.underlying5 Tryz.underlying9 (q).rd)<|bo (uc i f) fun r=>?_
 have U:fj (L++[(el ((b.getD k 0)/16)),(el ((b.getD k 0)%16))]):=gF hLb (aZ.range (q).rd)
 refine Rr 15 r (.string (strOfNums (L++[(el ((b.getD k 0)/16)),(el ((b.getD k 0)%16))]))) (fun _ _=>jg (a:=(strOfNums L)) (b:=(strOfNums ([(el ((b.getD k 0)/16)),(el ((b.getD k 0)%16))]))) (xs:=L) (ys:=([(el ((b.getD k 0)/16)),(el ((b.getD k 0)%16))])) rfl (by kernel_rfl) (by kernel_rfl) rfl rfl (by simp only[bT];omega))<|Rt 16 r<|re<|bn<|tn<|go<|Pl 1<|bq ((k:Int)+1)<|Pl 1<|nl<|?_
 exact gI ((k+1),(L++[(el ((b.getD k 0)/16)),(el ((b.getD k 0)%16))])) ⟨(aI g i),(by(try dsimp only);omega),(by(try dsimp only);rw[oU b k (by omega),← hL,List.append_assoc];rfl)⟩ (by omega)
 have u:=of_decide_eq_false h
 refine xt<|tx<|tx<|bx<|tn<|aE 2<|rt<|rr (.string (strOfNums L))<|?_
 have hs:dj b=L:=by rw[hL,show k=b.length by omega,List.take_length]
 rw[hs]
 exact⟨rfl,g⟩
theorem CN{m:Md}{v:Value}{b:List Int}{w:World}(h:aZ m w v b)(hl:b.length≤1024) : Calls Tryz.prog 128 #[v] w (cl (.string (strOfNums (dj b))) w):=by
  obtain⟨A,cp,rfl,_,_⟩:=h.shape
  exact BV h hl
def Bq (l:List Int)(w:World)(e:Ending)(w':World) : Prop:=∃ v,e = .returned v∧hH w.heap.size w' v l∧aH [] w w'
theorem qC{m:Md}{A:Option Addr}{cp:Nat}{b:List Int}{w:World}{u t:Int}(hbu:0≤u∧u<256)(hbt:0≤t∧t<65536)(hsl:aZ m w (.slice A b.length cp) b)(hb:b.length≤253) : Calls Tryz.prog 89 #[.agg #[vB u,vW t],.slice A b.length cp] w (Bq (n9 u b) w):=by
 refine en 21 Tryz.func89 rfl<|sg<|L0<|d6 #[vB u,vW t] fun O P Q s c=>Pl 1<|aM 1<|aD s 0<|L0<|cY (m:=1) (e:=5) #[vB u] fun v R y z d=>?_
 have l:=cG y (xs:=[u]) (by as_aux_lemma=>kernel_rfl) (am (by omega) aR) (by(try simp only[List.length_cons,List.length_nil]);omega) z
 refine Pl 1<|?_
 have n:=aI c d
 refine L0<|bQ b9 (xs:=([u])) (ys:=b) (vB 0) 1 l (aZ.old hsl n) (by(try simp only[bT,aC]);omega) d.size fun f B S g i=>Pl 1<|aM 2<|ay (args:=#[.slice f (([u]++b).length) B])<|m1 (uo (g).rd) fun T j=>?_
 have U:=js ([u]++b)
 refine L0<|cY (m:=1) (e:=5) #[vB (cy ([u]++b))] fun V W C D k=>?_
 have E:=cG C (xs:=[(cy ([u]++b))]) (by as_aux_lemma=>kernel_rfl) (am (by omega) aR) (by(try simp only[List.length_cons,List.length_nil]);omega) D
 have o:=aI j k
 refine L0<|bQ b9 (xs:=([u]++b)) (ys:=([(cy ([u]++b))])) (vB 0) 1 (av g o (fun x hx=>aF) (fun _ _ h=>h)) (E).rd (by(try simp only[bT,aC]);omega) (le (le (le d.size i.size) j.size) k.size) fun F G X p q=>Pl 1<|aM 1<|ay (args:=#[.slice F ((([u]++b)++[(cy ([u]++b))]).length) G])<|m1 (CN (p).rd (by simp only[bT];omega)) fun Y r=>?_
 have H:fj (dj (([u]++b)++[(cy ([u]++b))])):=jF (aZ.range (p).rd)
 have I:fj ([58]++(dj (([u]++b)++[(cy ([u]++b))]))):=gF (by decide) H
 refine L0<|ik (.string (strOfNums ([58]++(dj (([u]++b)++[(cy ([u]++b))]))))) (jg (a:=⟨#[58]⟩) (b:=(strOfNums (dj (([u]++b)++[(cy ([u]++b))])))) (xs:=([58])) (ys:=(dj (([u]++b)++[(cy ([u]++b))]))) rfl (by kernel_rfl) (by kernel_rfl) rfl rfl (by simp only[dT,List.length_append,List.length_cons,List.length_nil];omega))<|?_
 have J:fj (([58]++(dj (([u]++b)++[(cy ([u]++b))])))++[13,10]):=gF I (by decide)
 refine L0<|ik (.string (strOfNums (([58]++(dj (([u]++b)++[(cy ([u]++b))])))++[13,10]))) (jg (a:=(strOfNums ([58]++(dj (([u]++b)++[(cy ([u]++b))]))))) (b:=⟨#[13,10]⟩) (xs:=([58]++(dj (([u]++b)++[(cy ([u]++b))])))) (ys:=([13,10])) rfl (by kernel_rfl) (by kernel_rfl) rfl rfl (by simp only[dT,List.length_append,List.length_cons,List.length_nil];omega))<|L0<|Eg (xs:=(([58]++(dj (([u]++b)++[(cy ([u]++b))])))++[13,10])) Tryz.underlying9 Tryz.underlying27 Tryz.underlying5 J (by simp only[dT,List.length_append,List.length_cons,List.length_nil];omega) fun K L Z M N=>ai 1<|rt<|rr (.slice K ((([58]++(dj (([u]++b)++[(cy ([u]++b))])))++[13,10]).length) L)<|?_
 exact⟨_,rfl,M.weaken (le (le (le (le (le (le c.size d.size) i.size) j.size) k.size) q.size) r.size),(ut n (ut (aH.mono (S':=(ob (some ⟨v,0,none⟩)++(ob f++[]))) i (ap il aA)) (ut (aH.mono (S':=(ob f++[])) o aA) (aI q (aI r N)) (ap il aA)) (ap il aA)) (ap (aT l c.size) (ap (aT g c.size) aA)))⟩
theorem sl{m:Md}{v:Value}{b:List Int}{w:World}{u t:Int}(hbu:0≤u∧u<256)(hbt:0≤t∧t<65536)(h:aZ m w v b)(hb:b.length≤253) : Calls Tryz.prog 89 #[.agg #[.int .u8 u,.int .u16 t],v] w (Bq (n9 u b) w):=by
  obtain⟨A,cp,rfl,_,_⟩:=h.shape
  exact qC hbu hbt h hb
theorem mU{m:Md}{x:SL}{M:aU}{w:World}{dir u t:Int}(h:aJ m w (fb M x).toList M)(hf:bB M)(hbu:0≤u∧u<256)(hbt:0≤t∧t<65536) : Calls Tryz.prog 61 #[vI dir,.agg (ed u t M x)] w (m6 (fI dir u t M) w):=by
 obtain⟨hc,hd⟩:=h.rngs
 refine en 50 Tryz.func61 rfl<|sg<|L0<|d6 (ed u t M x) fun W X Y o b=>Pl 2<|aM 2<|L0<|mg o 2 22<|wo (d7 dir M) (fun hW=>?_) (fun l hW=>?_)
 refine ay<|m1 (iW hW (aJ.old h b) hf) fun Z F=>ai 5<|sq<|aE 2<|c1<|al 2<|nl<|tn<|aX<|rr (.tuple #[nS,vI 1])<|tD (show fI dir u t M=none by unfold fI;rw[hW]) ?_
 exact⟨rfl,(aI b F)⟩
 have hlw:=p9 hc hW
 have p:=aJ.old h b
 refine ay<|dV (iS hW p hf) fun a0 a1 a2 q a3 a4 g=>?_
 have hby:∀ l2,d7 dir M=some l2→fj l2:=fun l2 h2=>by rw[hW] at h2;injection h2 with h2;subst h2;exact aZ.range (q).rd
 refine ai 5<|sq<|aE 2<|c0<|bj<|al 1<|?_
 have r:=ub g o
 refine L0<|mg r 0 2<|Pl 1<|ay<|e2 (sl (u:=u) (t:=t) hbu hbt (q).rd hlw) fun a5 a6 e G=>?_
 rcases hH.shape e with⟨H,I,rfl⟩
 rcases aS.shape (e).rd with⟨_,_,i,J,L⟩
 injection i with _ _ i
 rw[← i] at J L
 refine Pl 1<|aM 2<|?_
 have hlb:((n9 u l)).length≤1048576:=by rw[qx];omega
 refine pr (kV dir (n9 u l)) fun a c j=>?_
 refine ay<|e2 (pQ j (e).rd hlb) fun x42 a7 N O=>?_
 obtain⟨Q,a8,a9⟩:=N
 refine Pl 3<|aK #[vB 0,vW 0,vB 0,vB 0,vW 0,vW 0,vW 0,vW 0,vW 0,vW 0,vW 0,vW 0,vW 0,vW 0,nS,nS,nS,nS,vB 0,vB 0,vB 0,vB 0,vB 0,nS] fun aa ab R S T=>aG S (ed a.unit a.tid a.msg x42) fun ac s U=>Pl 1<|aM 1<|L0<|mg s 2 22<|Pl 1<|?_
 have v:=ud T U R
 have y:=aI O v
 have z:=aI G y
 have A:=ub z r
 refine L0<|mg A 2 22<|?_
 have B:=aI g z
 refine ay<|m1 (de (aJ.upd Q v aN) (aJ.old p B)) fun ad f=>ai 1<|sq<|al 3<|cu 3 [38] 41 (((c != 0)||(!(decide (a.msg=M))))) (fun K C=>?_) ?_
 refine bl 38 ((c != 0)) (fun d=>?_) (fun d=>?_)
 have V:=aB d
 exact Pl 3<|ce C true (by rw[d];rfl)
 have V:=az d
 exact Pl 3<|ce C (!(decide (a.msg=M))) (by rw[d];rfl)
 refine Pl 1<|cu 6 [42] 48 ((((c != 0)||(!(decide (a.msg=M))))||(!((a.unit==u)&&(a.tid==t))))) (fun K D=>?_) ?_
 refine bl 42 (((c != 0)||(!(decide (a.msg=M))))) (fun k=>?_) (fun k=>?_)
 exact Pl 6<|ce D true (by rw[k];rfl)
 refine Pl 1<|?_
 refine L1<|mg (ub f s) 0 2<|Pl 1<|?_
 exact L1<|mg (ub f A) 0 2<|L1<|ik (.bool (!((a.unit==u)&&(a.tid==t)))) (iE a.unit a.tid u t rfl (by kernel_rfl) (by kernel_rfl) rfl)<|Pl 1<|ce D (!((a.unit==u)&&(a.tid==t))) (by rw[k];rfl)
 refine nt<|?_
 have E:=aI b (aI B f)
 refine cb ((((c != 0)||(!(decide (a.msg=M))))||(!((a.unit==u)&&(a.tid==t))))) (fun n=>?_) (fun n=>?_)
 refine aE 2<|aX<|rr (.tuple #[nS,vI 1])<|tD (sJ (P:=kV dir) (fun l2 h=>by obtain⟨_,l3,k1,k2,_⟩:=jv h;rw[hW] at k1;injection k1 with k1;subst k1;exact k2) (fun l2 h=>CB (fO hc hW) hbu hc hd hby h) j n) ?_
 exact⟨rfl,E⟩
 refine bj<|aE 3<|rt<|rr (.tuple #[.slice (some ⟨H,0,none⟩) ((n9 u l).length) I,vI 0])<|?_
 obtain⟨hE0,hF0⟩:=wU n
 subst hE0 hF0
 refine tD ((wB (fO hc hW) j rfl rfl).1) ?_
 exact⟨_,rfl,((hH.old e (aI y f)).weaken (le b.size g.size)),E⟩
theorem pq{m:Md}{x:SL}{M:aU}{w:World}{dir u t:Int}(h:aJ m w (fb M x).toList M)(hf:bB M)(hbu:0≤u∧u<256)(hbt:0≤t∧t<65536)(hX:fI dir u t M=none) : Calls Tryz.prog 61 #[.int .i64 dir,.agg (ed u t M x)] w (fun e w'=>e = .returned (.tuple #[.slice none 0 0,.int .i64 1])∧aH [] w w'):=by
  have k:=mU (dir:=dir) h hf hbu hbt
  rw[hX] at k
  exact k
theorem qa{m:Md}{x:SL}{M:aU}{w:World}{dir u t:Int}(h:aJ m w (fb M x).toList M)(hf:bB M)(hbu:0≤u∧u<256)(hbt:0≤t∧t<65536){l:List Int}(hX:fI dir u t M=some l) : Calls Tryz.prog 61 #[.int .i64 dir,.agg (ed u t M x)] w (fun e w'=>∃ v,e = .returned (.tuple #[v,.int .i64 0])∧hH w.heap.size w' v l∧aH [] w w'):=by
  have k:=mU (dir:=dir) h hf hbu hbt
  rw[hX] at k
  exact k
open Go.RowKit
theorem pO{m:Md}{A:Option Addr}{cp:Nat}{b:List Int}{w:World}{dir:Int}(hsl:aZ m w (.slice A b.length cp) b)(hb:b.length≤1048576)(hcp:b.length≤cp) :
    Calls Tryz.prog 53 #[vI dir,.slice A b.length cp] w (nn (.slice A b.length cp) b (dA dir b) w):=by
 have hln:(b.length:Int)≤1048576:=by omega
 have hrb:=aZ.range hsl
 refine en 76 Tryz.func53 rfl<|sg<|aK #[vB 0,vW 0,vB 0,vB 0,vW 0,vW 0,vW 0,vW 0,vW 0,vW 0,vW 0,vW 0,vW 0,vW 0,nS,nS,nS,nS,vB 0,vB 0,vB 0,vB 0,vB 0,nS] fun bm bn o h s=>Pl 1<|cE 3<|sq<|sq<|go<|Pl 3<|cu 3 [13] 16 (((dir != 0)&&(dir != 1))) (fun K J=>?_) ?_
 refine bl 13 ((dir != 0)) (fun z=>?_) (fun z=>?_)
 have a2:=aB z
 exact Pl 3<|ce J (dir != 1) (by rw[z];rfl)
 have a2:=az z
 exact Pl 3<|ce J false (by rw[z];rfl)
 refine nt<|cb (((dir != 0)&&(dir != 1))) (fun f=>?_) (fun f=>?_)
 have L:=(bC f).1
 have M:=(bC f).2
 have bp:=aB L
 have bq:=aB M
 refine al 1<|aG h #[vB 0,vW 0,vB 0,vB 0,vW 0,vW 0,vW 0,vW 0,vW 0,vW 0,vW 0,vW 0,vW 0,vW 0,nS,nS,nS,nS,vB 0,vB 0,vB 0,vB 0,vB 0,nS] fun br a3 a4=>ai 1<|aX<|bJ a3 (vI 1)<|?_
 have hs:fq dir b=(dt.zero,1):=by
   unfold fq
   (try simp only[f,L,M,bi,cw,reduceIte])
   all_goals rfl
 rw[← fJ hrb]
 refine fe hs ?_
 exact ex (ud s a4 o)
 refine bj<|sq<|aE 2<|cb ((decide ((b.length:Int)<8))) (fun i=>?_) (fun i=>?_)
 have a5:=of_decide_eq_true i
 refine al 1<|aG h #[vB 0,vW 0,vB 0,vB 0,vW 0,vW 0,vW 0,vW 0,vW 0,vW 0,vW 0,vW 0,vW 0,vW 0,nS,nS,nS,nS,vB 0,vB 0,vB 0,vB 0,vB 0,nS] fun bs a6 a7=>ai 1<|aX<|bJ a6 (vI 2)<|?_
 have hs:fq dir b=(dt.zero,2):=by
   unfold fq
   (try simp only[f,i,bi,cw,reduceIte])
   all_goals rfl
 rw[← fJ hrb]
 refine fe hs ?_
 exact ex (ud s a7 o)
 have a5:=of_decide_eq_false i
 refine bj<|sq<|aE 2<|cb ((decide (260<(b.length:Int)))) (fun j=>?_) (fun j=>?_)
 have a8:=of_decide_eq_true j
 refine al 1<|aG h #[vB 0,vW 0,vB 0,vB 0,vW 0,vW 0,vW 0,vW 0,vW 0,vW 0,vW 0,vW 0,vW 0,vW 0,nS,nS,nS,nS,vB 0,vB 0,vB 0,vB 0,vB 0,nS] fun bt a9 aa=>ai 1<|aX<|bJ a9 (vI 3)<|?_
 have hs:fq dir b=(dt.zero,3):=by
   unfold fq
   (try simp only[f,i,j,bi,cw,reduceIte])
   all_goals rfl
 rw[← fJ hrb]
 refine fe hs ?_
 exact ex (ud s aa o)
 have a8:=of_decide_eq_false j
 refine bj<|sq<|al 1<|?_
 have B:=aZ.old hsl s
 refine ft (aZ.at_ B 2 (by omega)) fun ac ae af ag bu=>L0<|kY b.length 2 af (by omega)<|L0<|eu (p:=⟨ac,ae+2,none⟩) (v:=vB (b.getD 2 0)) ag<|Pl 2<|bl 28 (((b.getD 2 0)!=0)) (fun r=>?_) (fun r=>?_)
 have ah:=aB r
 refine ai 5<|c1<|al 1<|aG h #[vB 0,vW 0,vB 0,vB 0,vW 0,vW 0,vW 0,vW 0,vW 0,vW 0,vW 0,vW 0,vW 0,vW 0,nS,nS,nS,nS,vB 0,vB 0,vB 0,vB 0,vB 0,nS] fun bv aj ak=>ai 1<|aX<|bJ aj (vI 13)<|?_
 have hs:fq dir b=(dt.zero,13):=by
   unfold fq
   (try simp only[f,i,j,r,bi,cw,reduceIte])
   all_goals rfl
 rw[← fJ hrb]
 refine fe hs ?_
 exact ex (ud s ak o)
 have ah:=az r
 refine Pl 1<|ft (aZ.at_ B 3 (by omega)) fun am an ap au bw=>L1<|kY b.length 3 ap (by omega)<|L1<|eu (p:=⟨am,an+3,none⟩) (v:=vB (b.getD 3 0)) au<|ai 2<|cb (((b.getD 3 0)!=0)) (fun t=>?_) (fun t=>?_)
 have av:=aB t
 refine al 1<|aG h #[vB 0,vW 0,vB 0,vB 0,vW 0,vW 0,vW 0,vW 0,vW 0,vW 0,vW 0,vW 0,vW 0,vW 0,nS,nS,nS,nS,vB 0,vB 0,vB 0,vB 0,vB 0,nS] fun bx aA aC=>ai 1<|aX<|bJ aA (vI 13)<|?_
 have hs:fq dir b=(dt.zero,13):=by
   unfold fq
   (try simp only[f,i,j,r,t,bi,cw,reduceIte])
   all_goals rfl
 rw[← fJ hrb]
 refine fe hs ?_
 exact ex (ud s aC o)
 have av:=az t
 refine bj<|sq<|sq<|ft (aZ.at_ B 4 (by omega)) fun aD aF aH aJ bz=>ft (aZ.at_ B 5 (by omega)) fun aL aM aO aP bA=>Rg 13 (fun w'=>w'.cell? ⟨aD,aF+4,none⟩=some (vB (b.getD 4 0))∧w'.cell? ⟨aL,aM+5,none⟩=some (vB (b.getD 5 0))) fun bB l=>bo ⟨(uc l aJ),(uc l aP)⟩ fun e=>Rt 0 e<|lS 1 e b.length 4 4 rfl aH (by omega)<|Rl 2 e (fun _ hs=>hs.1)<|Rr 3 e (vI (b.getD 4 0)) (fun _ _=>bX (vI (IntKind.i64.wrap (b.getD 4 0))) (by kernel_rfl) (congrArg (Value.int .i64) (i64_in (by omega))))<|Rr 4 e (vI (256*(b.getD 4 0))) (fun _ _=>bX (vI (IntKind.i64.wrap (256*(b.getD 4 0)))) (by kernel_rfl) (congrArg (Value.int .i64) (IntWalk.i64_in _ (by omega))))<|Rt 5 e<|lS 6 e b.length 5 5 rfl aO (by omega)<|Rl 7 e (fun _ hs=>hs.2)<|Rr 8 e (vI (b.getD 5 0)) (fun _ _=>bX (vI (IntKind.i64.wrap (b.getD 5 0))) (by kernel_rfl) (congrArg (Value.int .i64) (i64_in (by omega))))<|Rr 9 e (vI ((256*(b.getD 4 0))+(b.getD 5 0))) (fun _ _=>bX (vI (IntKind.i64.wrap ((256*(b.getD 4 0))+(b.getD 5 0)))) (by kernel_rfl) (congrArg (Value.int .i64) (IntWalk.i64_in _ (by omega))))<|Rt 10 e<|Rr 11 e (vI ((b.length:Int)-6)) (fun _ _=>bX (vI (IntKind.i64.wrap ((b.length:Int)-6))) (by kernel_rfl) (congrArg (Value.int .i64) (IntWalk.i64_in _ (by omega))))<|Rt 12 e<|re<|tn<|?_
 have N:=aI s l
 refine cb ((((256*(b.getD 4 0))+(b.getD 5 0))!=((b.length:Int)-6))) (fun u=>?_) (fun u=>?_)
 have aQ:=aB u
 refine al 1<|?_
 refine aG (ub l h) #[vB 0,vW 0,vB 0,vB 0,vW 0,vW 0,vW 0,vW 0,vW 0,vW 0,vW 0,vW 0,vW 0,vW 0,nS,nS,nS,nS,vB 0,vB 0,vB 0,vB 0,vB 0,nS] fun bD aR aS=>ai 1<|aX<|bJ aR (vI 5)<|?_
 have hs:fq dir b=(dt.zero,5):=by
   unfold fq
   (try simp only[f,i,j,r,t,u,bi,cw,reduceIte])
   all_goals rfl
 rw[← fJ hrb]
 refine fe hs ?_
 exact ex (ud N aS o)
 have aQ:=az u
 refine bj<|al 2<|ny (ea (P:=Tryz.prog) 27 5 1 Tryz.underlying27 rfl rfl A b.length cp 7 (by omega)) fun aT hrun84 O=>L0<|ik (.slice aT (b.length-7) (cp-7)) (et (kl:=.i64) (k:=((7:Nat) : Int)) (A:=A) (n:=b.length) (c:=cp) rfl Tryz.underlying27 (by kernel_rfl) (by kernel_rfl) (hrun84 _ _))<|?_
 have Q:=aZ.old B l
 refine pr (cF dir (b.drop 7)) fun a E F=>?_
 refine ay<|e2 (iG F (O _ _ _ _ _ Q) (by rw[List.length_drop];omega)) fun x90 bE aU G=>?_
 have aV:=cK.sub aU (fun m' w' q=>(O _ _ _ _ _ q))
 refine Pl 3<|aK mZ fun R bF S aW aY=>aG aW (fb a x90) fun bG b0 b1=>ai 1<|sq<|aE 2<|?_
 have T:=ud aY b1 S
 have D:=aI G T
 have U:=aI N D
 refine cb ((E != 0)) (fun C=>?_) (fun C=>?_)
 have b2:=aB C
 refine al 2<|?_
 refine aG (ub (aI l D) h) #[vB 0,vW 0,vB 0,vB 0,vW 0,vW 0,vW 0,vW 0,vW 0,vW 0,vW 0,vW 0,vW 0,vW 0,nS,nS,nS,nS,vB 0,vB 0,vB 0,vB 0,vB 0,nS] fun bH b3 b4=>ai 1<|aX<|bJ b3 (vI E)<|?_
 have hs:fq dir b=(dt.zero,E):=by
   unfold fq
   (try simp only[f,i,j,r,t,u,C,bi,cw,F,reduceIte])
   all_goals rfl
 rw[← fJ hrb]
 refine fe hs ?_
 exact ex (ud U b4 o)
 have b2:=az C
 refine bj<|sq<|?_
 have H:=aZ.old Q D
 refine ft (aZ.at_ H 6 (by omega)) fun b5 b6 V b9 bI=>ft (aZ.at_ H 0 (by omega)) fun ba bb W bc bK=>ft (aZ.at_ H 1 (by omega)) fun bd bf X bg bL=>Rg 18 (fun w'=>w'.cell? ⟨b5,b6+6,none⟩=some (vB (b.getD 6 0))∧w'.cell? ⟨ba,bb+0,none⟩=some (vB (b.getD 0 0))∧w'.cell? ⟨bd,bf+1,none⟩=some (vB (b.getD 1 0))∧w'.heap[R]? = some (.cells (fb a x90) 45 (0,0))) fun bM y=>?_
 have Y:=ub y b0
 refine bo ⟨(uc y b9),(uc y bc),(uc y bg),Y⟩ fun d=>Rt 0 d<|lS 1 d b.length 6 6 rfl V (by omega)<|Rl 2 d (fun _ hs=>hs.1)<|Rt 3 d<|lS 4 d b.length 0 0 rfl W (by omega)<|Rl 5 d (fun _ hs=>hs.2.1)<|Rr 6 d (vW (b.getD 0 0)) (fun _ _=>bX (vW (IntKind.u16.wrap (b.getD 0 0))) (by kernel_rfl) (congrArg (Value.int .u16) (ji (by omega))))<|Rt 7 d<|Rt 8 d<|lS 9 d b.length 1 1 rfl X (by omega)<|Rl 10 d (fun _ hs=>hs.2.2.1)<|Rr 11 d (vW (b.getD 1 0)) (fun _ _=>bX (vW (IntKind.u16.wrap (b.getD 1 0))) (by kernel_rfl) (congrArg (Value.int .u16) (ji (by omega))))<|Rt 12 d<|Rt 13 d<|Rr 14 d (.agg (fb a x90)) (fun w' hs=>iw (g:=R) (off:=0) [vB a.code,vB a.fail,vW a.addr,vW a.count,vW a.value,vW a.and_,vW a.or_,vW a.addr2,vW a.sub,vW a.status,vW a.events,vW a.messages,.slice x90.aw a.words.length x90.kw,.slice x90.ab a.bits.length x90.kb,.slice x90.ad a.data.length x90.kd,.slice x90.ar a.recs.length x90.kr,vB a.mei,vB a.kind,vB a.level,vB a.more,vB a.next,.slice x90.ao a.objects.length x90.ko] rfl (by kernel_rfl) hs.2.2.2 (by kernel_rfl) (by kernel_rfl) rfl)<|Rt 15 d<|?_
 refine R0 16 rfl<|gJ (ub (aI l (aI D y)) h) (ed (b.getD 6 0) ((((256*(b.getD 0 0))%65536)+(b.getD 1 0))%65536) a x90) fun bN bh Z=>?_
 have a0:=uz y Z
 have a1:=ud U a0 o
 have I:=aZ.old hsl a1
 refine bo ⟨(cB I V 6 (by omega)),(cB I W 0 (by omega)),(cB I X 1 (by omega)),(be Z (Ne.symm (nb (aq h) (le l.size G.size) S)) Y)⟩ fun bk=>Rt 17 bk<|re<|tn<|rt<|bJ bh (vI 0)<|?_
 have hs:fq dir b=(⟨(b.getD 6 0),((((256*(b.getD 0 0))%65536)+(b.getD 1 0))%65536),a⟩,0):=by
   unfold fq
   (try simp only[f,i,j,r,t,u,C,bi,cw,F,reduceIte])
   all_goals rfl
 rw[← fJ hrb]
 refine fe hs ?_
 exact⟨x90,rfl,⟨(cK.upd aV (uz T a0) (ax (b7 (ub (aI l G) h) (by decide)) aN)),b8 (x:=(b.getD 6 0)) (by omega),cP (x:=((((256*(b.getD 0 0))%65536)+(b.getD 1 0))%65536)) (by omega)⟩,a1⟩
theorem qn{m:Md}{v:Value}{b:List Int}{w:World}{dir:Int}(h:aZ m w v b)(hb:b.length≤1048576) : Calls Tryz.prog 53 #[.int .i64 dir,v] w (nn v b (dA dir b) w):=by
  obtain⟨A,cp,rfl,hc,_⟩:=h.shape
  exact pO h hb hc
theorem nX{m:Md}{v:Value}{b:List Int}{w:World}{dir:Int}{F:dt}{E:Int}(hX:dA dir b=(F,E))(h:aZ m w v b)(hb:b.length≤1048576) : Calls Tryz.prog 53 #[.int .i64 dir,v] w (fun e w'=>∃ x,e = .returned (.tuple #[.agg (ed F.unit F.tid F.msg x),.int .i64 E])∧(cK v b w' (fb F.msg x).toList F.msg∧(0≤F.unit∧F.unit<256)∧(0≤F.tid∧F.tid<65536))∧aH [] w w'):=by
  refine(qn h hb).mono ?_
  rintro e w' ⟨x,rfl,h1,h2⟩
  rw[hX] at h1 ⊢
  exact⟨x,rfl,h1,h2⟩
open Go.RowKit
theorem pV{m:Md}{A:Option Addr}{cp:Nat}{b:List Int}{w:World}{u t:Int}(hbu:0≤u∧u<256)(hbt:0≤t∧t<65536)(hsl:aZ m w (.slice A b.length cp) b)(hb:b.length≤253) : Calls Tryz.prog 90 #[.agg #[vB u,vW t],.slice A b.length cp] w (jK (lV t 0 ((b.length:Int)+1) u b) w):=by
 refine en 21 Tryz.func90 rfl<|sg<|L0<|d6 #[vB u,vW t] fun E F G g d=>Pl 1<|aM 1<|aD g 1<|Pl 2<|bq ((b.length:Int)+1)<|Pl 1<|L0<|cY (m:=3) (e:=37) #[vW t,vW 0,vW (((b.length:Int)+1)%65536)] fun H I o p a=>?_
 have q:=eB o (xs:=[t,0,(((b.length:Int)+1)%65536)]) (by as_aux_lemma=>kernel_rfl) (am (by omega) (am (by omega) (am (by omega) aR))) (by(try simp only[List.length_cons,List.length_nil]);omega) p
 refine ay<|dV (i2 (xs:=[t,0,(((b.length:Int)+1)%65536)]) (q).rd (by(try simp only[bT]);omega)) fun r J K i L M f=>Pl 1<|aM 2<|?_
 have j:=aI a f
 refine aD (ub j g) 0<|L0<|cY (m:=1) (e:=5) #[vB u] fun N O s v c=>?_
 have y:=cG s (xs:=[u]) (by as_aux_lemma=>kernel_rfl) (am (by omega) aR) (by(try simp only[List.length_cons,List.length_nil]);omega) v
 refine L0<|bQ b9 (xs:=(aO ([t,0,(((b.length:Int)+1)%65536)]))) (ys:=([u])) (vB 0) 1 (av i c (fun x hx=>aF) (fun _ _ h=>h)) (y).rd (by(try simp only[bT,aC]);omega) (le f.size c.size) fun P Q R k l=>Pl 1<|?_
 have n:=aI d (ut j (ut (aH.mono (S':=(ob r++[])) c aA) l (ap il aA)) (ap (aT i a.size) aA))
 refine L0<|bQ b9 (xs:=((aO ([t,0,(((b.length:Int)+1)%65536)]))++[u])) (ys:=b) (vB 0) 1 k (aZ.old hsl n) (by(try simp only[bT,aC]);omega) (le (le f.size c.size) l.size) fun z B S C D=>ai 1<|rt<|rr (.slice z ((((aO ([t,0,(((b.length:Int)+1)%65536)]))++[u])++b).length) B)<|?_
 rw[show lV t 0 ((b.length:Int)+1) u b=(aO [t,0,((b.length:Int)+1)%65536]++[u])++b from by unfold lV;rw[show((b.length:Int)+1)%65536=(b.length:Int)+1 from by omega]]
 exact⟨_,rfl,(b6.weaken C (le d.size a.size)),(ut n D (ap (aT k (le d.size a.size)) aA))⟩
theorem rp{m:Md}{v:Value}{b:List Int}{w:World}{u t:Int}(hbu:0≤u∧u<256)(hbt:0≤t∧t<65536)(h:aZ m w v b)(hb:b.length≤253) : Calls Tryz.prog 90 #[.agg #[.int .u8 u,.int .u16 t],v] w (jK (lV t 0 ((b.length:Int)+1) u b) w):=by
  obtain⟨A,cp,rfl,_,_⟩:=h.shape
  exact pV hbu hbt h hb
theorem lm{m:Md}{x:SL}{M:aU}{w:World}{dir u t:Int}(h:aJ m w (fb M x).toList M)(hf:bB M)(hbu:0≤u∧u<256)(hbt:0≤t∧t<65536) : Calls Tryz.prog 62 #[vI dir,.agg (ed u t M x)] w (dR (ej dir u t M) w):=by
 obtain⟨hc,hd⟩:=h.rngs
 refine en 50 Tryz.func62 rfl<|sg<|L0<|d6 (ed u t M x) fun V W X n b=>Pl 2<|aM 2<|L0<|mg n 2 22<|wo (d7 dir M) (fun hW=>?_) (fun l hW=>?_)
 refine ay<|m1 (iW hW (aJ.old h b) hf) fun Y F=>ai 5<|sq<|aE 2<|c1<|al 2<|nl<|tn<|aX<|rr (.tuple #[nS,vI 1])<|lb (show ej dir u t M=none by unfold ej;rw[hW]) ?_
 exact⟨rfl,(aI b F)⟩
 have hlw:=p9 hc hW
 have o:=aJ.old h b
 refine ay<|dV (iS hW o hf) fun Z a0 a1 G a2 a3 f=>ai 5<|sq<|aE 2<|c0<|bj<|sq<|go<|Pl 1<|?_
 have p:=ub f n
 refine L0<|mg p 0 2<|Pl 1<|ay<|dV (rp (u:=u) (t:=t) hbu hbt (G).rd hlw) fun H I a4 q a5 a6 J=>Pl 1<|aM 2<|?_
 have hlb:((lV t 0 ((l.length:Int)+1) u l)).length≤1048576:=by rw[lW];omega
 refine pr (dA dir (lV t 0 ((l.length:Int)+1) u l)) fun a c g=>?_
 refine ay<|e2 (nX g (q).rd hlb) fun x42 a7 L r=>?_
 obtain⟨N,a8,a9⟩:=L
 have s:=av q r (fun x hx=>aF) (fun _ _ h=>h)
 have O:=cK.rdt N (s).rd
 refine Pl 3<|aK #[vB 0,vW 0,vB 0,vB 0,vW 0,vW 0,vW 0,vW 0,vW 0,vW 0,vW 0,vW 0,vW 0,vW 0,nS,nS,nS,nS,vB 0,vB 0,vB 0,vB 0,vB 0,nS] fun aa ab Q R S=>aG R (ed a.unit a.tid a.msg x42) fun ac v T=>Pl 1<|aM 1<|L0<|mg v 2 22<|Pl 1<|?_
 have i:=ud S T Q
 have y:=aI J (aI r i)
 have z:=ub y p
 refine L0<|mg z 2 22<|?_
 have A:=aI f y
 refine ay<|m1 (de (aJ.upd O i aN) (aJ.old o A)) fun ad e=>ai 1<|sq<|al 3<|cu 3 [38] 41 (((c != 0)||(!(decide (a.msg=M))))) (fun K B=>?_) ?_
 refine bl 38 ((c != 0)) (fun d=>?_) (fun d=>?_)
 have U:=aB d
 exact Pl 3<|ce B true (by rw[d];rfl)
 have U:=az d
 exact Pl 3<|ce B (!(decide (a.msg=M))) (by rw[d];rfl)
 refine Pl 1<|cu 6 [42] 48 ((((c != 0)||(!(decide (a.msg=M))))||(!((a.unit==u)&&(a.tid==t))))) (fun K C=>?_) ?_
 refine bl 42 (((c != 0)||(!(decide (a.msg=M))))) (fun j=>?_) (fun j=>?_)
 exact Pl 6<|ce C true (by rw[j];rfl)
 refine Pl 1<|?_
 refine L1<|mg (ub e v) 0 2<|Pl 1<|?_
 exact L1<|mg (ub e z) 0 2<|L1<|ik (.bool (!((a.unit==u)&&(a.tid==t)))) (iE a.unit a.tid u t rfl (by kernel_rfl) (by kernel_rfl) rfl)<|Pl 1<|ce C (!((a.unit==u)&&(a.tid==t))) (by rw[j];rfl)
 refine nt<|?_
 have D:=aI b (aI A e)
 refine cb ((((c != 0)||(!(decide (a.msg=M))))||(!((a.unit==u)&&(a.tid==t))))) (fun k=>?_) (fun k=>?_)
 refine aE 2<|aX<|rr (.tuple #[nS,vI 1])<|lb (sJ (P:=dA dir) (fun l2 h=>by obtain⟨l3,k1,k2,_⟩:=iV h;rw[hW] at k1;injection k1 with k1;subst k1;exact k2) (fun l2 h=>ze (fO hc hW) hc hd hbt h) g k) ?_
 exact⟨rfl,D⟩
 refine bj<|aE 3<|rt<|rr (.tuple #[.slice H ((lV t 0 ((l.length:Int)+1) u l).length) I,vI 0])<|?_
 obtain⟨hE0,hF0⟩:=wU k
 subst hE0 hF0
 have E:=av s (aI i e) (fun x hx=>aF) (fun _ _ h=>h)
 refine lb ((v8 (fO hc hW) (aZ.range (E).rd) g rfl rfl).1) ?_
 exact⟨_,rfl,(b6.weaken E (le b.size f.size)),D⟩
theorem nZ{m:Md}{x:SL}{M:aU}{w:World}{dir u t:Int}(h:aJ m w (fb M x).toList M)(hf:bB M)(hbu:0≤u∧u<256)(hbt:0≤t∧t<65536)(hX:ej dir u t M=none) : Calls Tryz.prog 62 #[.int .i64 dir,.agg (ed u t M x)] w (fun e w'=>e = .returned (.tuple #[.slice none 0 0,.int .i64 1])∧aH [] w w'):=by
  have k:=lm (dir:=dir) h hf hbu hbt
  rw[hX] at k
  exact k
theorem nP{m:Md}{x:SL}{M:aU}{w:World}{dir u t:Int}(h:aJ m w (fb M x).toList M)(hf:bB M)(hbu:0≤u∧u<256)(hbt:0≤t∧t<65536){l:List Int}(hX:ej dir u t M=some l) : Calls Tryz.prog 62 #[.int .i64 dir,.agg (ed u t M x)] w (fun e w'=>∃ v,e = .returned (.tuple #[v,.int .i64 0])∧eG w.heap.size w' v l∧aH [] w w'):=by
  have k:=lm (dir:=dir) h hf hbu hbt
  rw[hX] at k
  exact k
open Go.RowKit
theorem rH{m:Md}{x:SL}{M:aU}{w:World}{dir u t:Int}(h:aJ m w (fb M x).toList M)(hf:bB M)(hbu:0≤u∧u<256)(hbt:0≤t∧t<65536) : Calls Tryz.prog 60 #[.int .i64 dir,.agg (ed u t M x)] w (s8 (fN dir u t M) w):=by
  cases hX:fN dir u t M with
  | none =>
    refine(pP h hf hbu hbt hX).mono ?_
    rintro e w' ⟨rfl,hu⟩
    exact⟨_,_,rfl,⟨rfl,rfl⟩,hu⟩
  | some l =>
    refine(pH h hf hbu hbt hX).mono ?_
    rintro e w' ⟨v,rfl,ho,hu⟩
    exact⟨_,_,rfl,⟨rfl,fU.of ho⟩,hu⟩
theorem rJ{m:Md}{x:SL}{M:aU}{w:World}{dir u t:Int}(h:aJ m w (fb M x).toList M)(hf:bB M)(hbu:0≤u∧u<256)(hbt:0≤t∧t<65536) : Calls Tryz.prog 61 #[.int .i64 dir,.agg (ed u t M x)] w (s8 (fI dir u t M) w):=by
  cases hX:fI dir u t M with
  | none =>
    refine(pq h hf hbu hbt hX).mono ?_
    rintro e w' ⟨rfl,hu⟩
    exact⟨_,_,rfl,⟨rfl,rfl⟩,hu⟩
  | some l =>
    refine(qa h hf hbu hbt hX).mono ?_
    rintro e w' ⟨v,rfl,ho,hu⟩
    exact⟨_,_,rfl,⟨rfl,fU.ofF ho⟩,hu⟩
theorem pf{m:Md}{x:SL}{M:aU}{w:World}{dir u t:Int}(h:aJ m w (fb M x).toList M)(hf:bB M)(hbu:0≤u∧u<256)(hbt:0≤t∧t<65536) : Calls Tryz.prog 62 #[.int .i64 dir,.agg (ed u t M x)] w (s8 (ej dir u t M) w):=by
  cases hX:ej dir u t M with
  | none =>
    refine(nZ h hf hbu hbt hX).mono ?_
    rintro e w' ⟨rfl,hu⟩
    exact⟨_,_,rfl,⟨rfl,rfl⟩,hu⟩
  | some l =>
    refine(nP h hf hbu hbt hX).mono ?_
    rintro e w' ⟨v,rfl,ho,hu⟩
    exact⟨_,_,rfl,⟨rfl,fU.of ho⟩,hu⟩
theorem nf{k:Int}{m:Md}{x:SL}{M:aU}{w:World}{dir u t:Int}(h:aJ m w (fb M x).toList M)(hf:bB M)(hbu:0≤u∧u<256)(hbt:0≤t∧t<65536) : Calls Tryz.prog 28 #[vI k,vI dir,.agg (ed u t M x)] w (s8 (iF k dir u t M) w):=by
 refine en 30 Tryz.func28 rfl<|sg<|L0<|d6 (ed u t M x) fun B C D e a=>ai 2<|sq<|aE 1<|bk<|aE 2<|cb ((k==0)) (fun b=>?_) (fun b=>?_)
 have f:=ag b
 refine al 1<|L0<|bN e<|?_
 refine ay<|xB (rH (dir:=dir) (aJ.old h a) hf hbu hbt) fun g i E j l=>ai 4<|rt<|br<|tr<|rr (.tuple #[g,vI i])<|?_
 have hs:iF k dir u t M=fN dir u t M:=by unfold iF;simp only[b,cond_true,cond_false]
 rw[hs]
 exact⟨_,_,rfl,j.wk a.size,(aI a l)⟩
 have f:=au b
 refine aE 2<|cb ((k==1)) (fun c=>?_) (fun c=>?_)
 have n:=ag c
 refine al 1<|L0<|bN e<|?_
 refine ay<|xB (rJ (dir:=dir) (aJ.old h a) hf hbu hbt) fun o p F q r=>ai 4<|rt<|br<|tr<|rr (.tuple #[o,vI p])<|?_
 have hs:iF k dir u t M=fI dir u t M:=by unfold iF;simp only[b,c,cond_true,cond_false]
 rw[hs]
 exact⟨_,_,rfl,q.wk a.size,(aI a r)⟩
 have n:=au c
 refine aE 2<|cb ((k==2)) (fun d=>?_) (fun d=>?_)
 have s:=ag d
 refine al 1<|L0<|bN e<|?_
 refine ay<|xB (pf (dir:=dir) (aJ.old h a) hf hbu hbt) fun v y G z A=>ai 4<|rt<|br<|tr<|rr (.tuple #[v,vI y])<|?_
 have hs:iF k dir u t M=ej dir u t M:=by unfold iF;simp only[b,c,d,cond_true,cond_false]
 rw[hs]
 exact⟨_,_,rfl,z.wk a.size,(aI a A)⟩
 have s:=au d
 refine sk<|bn<|tn<|aE 2<|rt<|rr (.tuple #[nS,vI 1])<|?_
 have hs:iF k dir u t M=none:=by unfold iF;simp only[b,c,d,cond_true,cond_false]
 rw[hs]
 exact⟨_,_,rfl,⟨rfl,rfl⟩,a⟩
theorem pT{k:Int}{m:Md}{x:SL}{M:aU}{w:World}{dir u t:Int}(h:aJ m w (fb M x).toList M)(hf:bB M)(hbu:0≤u∧u<256)(hbt:0≤t∧t<65536)(hX:iF k dir u t M=none) : Calls Tryz.prog 28 #[.int .i64 k,.int .i64 dir,.agg (ed u t M x)] w (fun e w'=>e = .returned (.tuple #[.slice none 0 0,.int .i64 1])∧aH [] w w'):=by
  refine(nf h hf hbu hbt).mono ?_
  rw[hX]
  rintro e w' ⟨v,n,rfl,⟨rfl,rfl⟩,hu⟩
  exact⟨rfl,hu⟩
theorem pz{k:Int}{m:Md}{x:SL}{M:aU}{w:World}{dir u t:Int}{l:List Int}(h:aJ m w (fb M x).toList M)(hf:bB M)(hbu:0≤u∧u<256)(hbt:0≤t∧t<65536)(hX:iF k dir u t M=some l) : Calls Tryz.prog 28 #[.int .i64 k,.int .i64 dir,.agg (ed u t M x)] w (fun e w'=>∃ v,e = .returned (.tuple #[v,.int .i64 0])∧fU w.heap.size w' v l∧aH [] w w'):=by
  refine(nf h hf hbu hbt).mono ?_
  rw[hX]
  rintro e w' ⟨v,n,rfl,⟨rfl,ho⟩,hu⟩
  exact⟨v,rfl,ho,hu⟩
end Go.Proofs.YtdkhbcefkfgbdaaGreat
