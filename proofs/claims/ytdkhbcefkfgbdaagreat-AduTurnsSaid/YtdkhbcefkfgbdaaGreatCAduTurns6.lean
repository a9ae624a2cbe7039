/- Contracts of functions, part CAduTurns6. -/
import Derived.Test.YtdkhbcefkfgbdaaGreatCAduTurns1
import Derived.Test.YtdkhbcefkfgbdaaGreatCAduTurns2
import Derived.Test.YtdkhbcefkfgbdaaGreatCAduTurns3
import Derived.Test.YtdkhbcefkfgbdaaGreatCAduTurns4
import Derived.Test.YtdkhbcefkfgbdaaGreatCAduTurns5
set_option linter.unusedVariables false
set_option linter.unusedSimpArgs false
set_option maxRecDepth 100000
set_option maxHeartbeats 4000000
namespace Go.Proofs.YtdkhbcefkfgbdaaGreat
open Go.RowKit
variable {i:Nat}
theorem yN{k:Nat}{C:ap}{L:List Obj}{R:ap × List Obj}(h:eP (k-i) C L=R)(hk:k-i=0) : R=(C,L):=by
  rw[hk] at h
  exact h.symm
variable {A:Option Addr}{b:List Int}{c:Int}{cp:Nat}{m:Md}{w:World}
theorem oy(hcode:B8 c)(hsl:aV m w (.slice A b.length cp) b)(hb:b.length≤1048576) :
    Calls Tryz.prog 113 #[vI 0,vB c,.slice A b.length cp] w (cN (.slice A b.length cp) b (ak dw 0 c b) w):=by
 obtain⟨hcode1,hcode2⟩:=hcode
 have hln:(b.length:Int)≤1048576:=by omega
 refine en 176 Tryz.func113 rfl<|sg<|aK mZ fun bB bD q j a=>ah 1<|sq<|aB 6<|c0<|bu<|sq<|aB 2<|cb ((c != 43)) (fun k=>?_) (fun k=>?_)
 have aN:=aA k
 refine aq 1<|aG j mZ fun bF aO aP=>ah 1<|b6<|ck aO (vI 4)<|?_
 exact cI (by unfold ak dw eQ kD j8 j9 gQ fV ga dF;(try simp only[k,bi,ea,ed,e9,eb,ec,reduceIte])<;>rfl) (bE (ud a aP q))
 have aN:=aF k
 refine bu<|aq 2<|L0<|cY #[.slice A b.length cp,vI 0,.bool false,vI 0] fun r bG d W h=>Pl 1<|aL 1<|aK mZ fun bH bI g aQ aR=>aG aQ (mC 43) fun aU aW aX=>?_
 refine aL 1<|?_
 have X:=ud aR aX g
 have s:=aJ h X
 have Y:=aJ a s
 have aY:RC w _ A cp b aU r (ap.mk b false 0):=⟨hsl,Y,(Nat.le_trans a.size d),⟨0,(ub X W),Nat.zero_le _,rfl⟩,by omega⟩
 refine ay<|m3 (eK aY) fun bJ aZ Z bK=>Pl 1<|?_
 have f:=nb (az W) lr g
 refine L0<|bY (bj Z (Ne.symm f) aW) 16 (mG 43 0 0 0 0 0 0 0 0 0 0 0 nS nS nS nS ((ap.mk b false 0).byteV) 0 0 0 0 nS) fun bL I a0=>aL 2<|aC I 16<|Pl 2<|cu 4 [38] 42 (((((ap.mk b false 0).byteV)==13)||(((ap.mk b false 0).byteV)==14))) (fun K a1=>?_) ?_
 refine bl 38 ((((ap.mk b false 0).byteV)==13)) (fun t=>?_) (fun t=>?_)
 have b0:=ag t
 exact Pl 4<|ce a1 true (by rw[t];rfl)
 have b0:=ai t
 exact Pl 1<|L1<|dQ I 16<|Pl 2<|ce a1 (((ap.mk b false 0).byteV)==14) (by rw[t];rfl)
 have x:=us Z a0
 have a2:=ut Y x (ac (ni a.size d) (ac (ni (le a.size h.size) g) aD))
 refine ay<|m2 (bf (((((ap.mk b false 0).byteV)==13)||(((ap.mk b false 0).byteV)==14))) 8 (RC.upd aZ a0 (aa f aE) a2)) fun bM b1 o=>?_
 refine gM b1 fun x55 a3 y=>?_
 refine nt<|sq<|bk<|aq 1<|?_
 have J:=bj o (Ne.symm f) I
 refine aC J 16<|ah 2<|?_
 have a4:=ud a2 o (le a.size d)
 refine cb ((((ap.mk b false 0).byteV)==13)) (fun z=>?_) (fun z=>?_)
 have b2:=ag z
 refine aq 1<|ay<|m1 (jT y) fun bN L=>?_
 have bO:=RC.clen y
 refine Pl 1<|aL 3<|?_
 refine ay<|m2 (bf ((decide ((x55.l.length:Int)≤251))) 5 (RC.upd y L aE (aI.step (RC.u y) L))) fun bP a5 b3=>nt<|go<|Pl 2<|ay<|sW (gA (n:=(x55.l.length:Int)) (by omega) a5) fun a6 a7 bQ b4 b5 b7=>?_
 have bR:=Nat.le_trans (ap.bytesR_le (x55.need (decide ((x55.l.length:Int)≤251)) 5) (x55.l.length:Int)) (RC.clen a5)
 refine gM b5 fun nw b8 b9=>?_
 refine Pl 1<|?_
 have a8:=uz L (u1 b3 b7 im)
 refine L0<|bY (bj a8 (Ne.symm f) J) 14 (mG 43 0 0 0 0 0 0 0 0 0 0 0 nS nS (.slice a6 (((x55.need (decide ((x55.l.length:Int)≤251)) 5).bytesR (x55.l.length:Int)).length) a7) nS ((ap.mk b false 0).byteV) 0 0 0 0 nS) fun bS ba a9=>nl<|bn<|tn<|aq 1<|?_
 have M:=us a8 a9
 have ab:=ut a4 M (ac (ni a.size d) (ac (ni (le a.size h.size) g) aD))
 refine ay<|m2 (oa (RC.upd b9 a9 (aa f aE) ab)) fun bT N E=>nt<|sq<|aq 3<|L0<|fR (p:=⟨r,3,none⟩) (v:=vI nw.endC.e) (RC.fld N)<|ah 1<|?_
 have ad:=ud ab E (le a.size d)
 have hs:ak dw 0 c b=bC (aS.mk 43 0 0 0 0 0 0 0 0 0 0 0 [] [] ((x55.need (decide ((x55.l.length:Int)≤251)) 5).bytesR (x55.l.length:Int)) [] ((ap.mk b false 0).byteV) 0 0 0 0 []) nw:=by
   subst b8 a3
   unfold ak dw eQ kD j8 j9 gQ fV ga dF
   (try simp only[k,z,bi,ea,ed,e9,eb,ec,reduceIte])
   all_goals rfl
 refine cb ((nw.endC.e != 0)) (fun O=>?_) (fun O=>?_)
 have P:=aA O
 refine sq<|Rg 7 (fun w'=>w'.cell? ⟨r,3,none⟩=some (vI nw.endC.e)) fun bU F=>?_
 have ae:=RC.upd N F aE (aI.step (RC.u N) F)
 refine bv (RC.fld ae) fun B=>Rt 0 B<|Rt 1 B<|Rt 2 B<|Rt 3 B<|Rl 4 B (fun _ hs=>hs)<|?_
 refine R0 5 rfl<|mb (ub (ut s (ut x (ui o (u1 M (aJ E F) im)) (ac im (ac im aD))) (ac (nr d) (ac (ni h.size g) aD))) j) mZ fun bV bb af=>?_
 have aj:=ud ad (uz F af) q
 refine bv (RC.fld (RC.upd ae af (aa (Ne.symm (nb (az j) lr d)) aE) aj)) fun bc=>Rt 6 bc<|re<|tn<|b6<|ck bb (vI nw.endC.e)<|?_
 rw[hs]
 exact dD P aj
 have P:=aF O
 refine bu<|sg<|?_
 refine L0<|cm (bj E (Ne.symm f) ba)<|?_
 refine aG (ub (ut s (ut x (ui o (u1 M E im)) (ac im (ac im aD))) (ac (nr d) (ac (ni h.size g) aD))) j) (mG 43 0 0 0 0 0 0 0 0 0 0 0 nS nS (.slice a6 (((x55.need (decide ((x55.l.length:Int)≤251)) 5).bytesR (x55.l.length:Int)).length) a7) nS ((ap.mk b false 0).byteV) 0 0 0 0 nS) fun bW bd be=>ah 1<|rt<|ck bd (vI 0)<|?_
 rw[hs]
 exact dX P ⟨_,_,_,_,_,rfl,aT.nil ..,aT.nil ..,b4,aT.nil ..,aT.nil ..,(cP (by omega))⟩ (ud ad be q)
 have b2:=ai z
 refine aB 3<|c1<|aq 1<|ay<|m3 (eK y) fun bX bg al bZ=>Pl 1<|?_
 refine L0<|bY (bj al (Ne.symm f) J) 17 (mG 43 0 0 0 0 0 0 0 0 0 0 0 nS nS nS nS ((ap.mk b false 0).byteV) x55.byteV 0 0 0 nS) fun c2 Q am=>aL 2<|aC Q 17<|Pl 2<|cu 4 [154] 158 (((decide (0<x55.byteV))&&(decide (x55.byteV<5)))) (fun K an=>?_) ?_
 refine bl 154 ((decide (0<x55.byteV))) (fun C=>?_) (fun C=>?_)
 have bh:=of_decide_eq_true C
 exact Pl 1<|L1<|dQ Q 17<|Pl 2<|ce an (decide (x55.byteV<5)) (by rw[C];rfl)
 have bh:=of_decide_eq_false C
 exact Pl 4<|ce an false (by rw[C];rfl)
 have R:=us al am
 have ao:=ut a4 R (ac (ni a.size d) (ac (ni (le a.size h.size) g) aD))
 refine ay<|m2 (bf (((decide (0<x55.byteV))&&(decide (x55.byteV<5)))) 6 (RC.upd bg am (aa f aE) ao)) fun c3 bm bo=>?_
 refine gM bm fun i bp bq=>?_
 refine nt<|go<|Pl 1<|ay<|m3 (eK bq) fun c4 br bs c5=>Pl 1<|?_
 have ar:=u1 bo bs im
 refine L0<|bY (bj ar (Ne.symm f) Q) 20 (mG 43 0 0 0 0 0 0 0 0 0 0 0 nS nS nS nS ((ap.mk b false 0).byteV) x55.byteV 0 0 i.byteV nS) fun c6 bt au=>nl<|bn<|tn<|aq 1<|?_
 have S:=us ar au
 have av:=ut ao S (ac (ni a.size d) (ac (ni (le a.size h.size) g) aD))
 refine ay<|m2 (oa (RC.upd br au (aa f aE) av)) fun c7 T G=>nt<|sq<|aq 3<|L0<|fR (p:=⟨r,3,none⟩) (v:=vI (((i.bytesC 1).endC).e)) (RC.fld T)<|ah 1<|?_
 have aw:=ud av G (le a.size d)
 have hs:ak dw 0 c b=bC (aS.mk 43 0 0 0 0 0 0 0 0 0 0 0 [] [] [] [] ((ap.mk b false 0).byteV) x55.byteV 0 0 i.byteV []) (i.bytesC 1):=by
   subst bp a3
   unfold ak dw eQ kD j8 j9 gQ fV ga dF
   (try simp only[k,z,bi,ea,ed,e9,eb,ec,reduceIte])
   all_goals rfl
 refine cb (((((i.bytesC 1).endC).e)!=0)) (fun U=>?_) (fun U=>?_)
 have V:=aA U
 refine sq<|Rg 7 (fun w'=>w'.cell? ⟨r,3,none⟩=some (vI (((i.bytesC 1).endC).e))) fun c8 H=>?_
 have ax:=RC.upd T H aE (aI.step (RC.u T) H)
 refine bv (RC.fld ax) fun D=>Rt 0 D<|Rt 1 D<|Rt 2 D<|Rt 3 D<|Rl 4 D (fun _ hs=>hs)<|?_
 refine R0 5 rfl<|mb (ub (ut s (ut x (ui o (ut R (u1 S (aJ G H) im) (ac im (ac im aD)))) (ac im (ac im aD))) (ac (nr d) (ac (ni h.size g) aD))) j) mZ fun c9 bw aH=>?_
 have aM:=ud aw (uz H aH) q
 refine bv (RC.fld (RC.upd ax aH (aa (Ne.symm (nb (az j) lr d)) aE) aM)) fun bx=>Rt 6 bx<|re<|tn<|b6<|ck bw (vI (((i.bytesC 1).endC).e))<|?_
 rw[hs]
 exact dD V aM
 have V:=aF U
 refine bu<|sg<|?_
 refine L0<|cm (bj G (Ne.symm f) bt)<|?_
 refine aG (ub (ut s (ut x (ui o (ut R (u1 S G im) (ac im (ac im aD)))) (ac im (ac im aD))) (ac (nr d) (ac (ni h.size g) aD))) j) (mG 43 0 0 0 0 0 0 0 0 0 0 0 nS nS nS nS ((ap.mk b false 0).byteV) x55.byteV 0 0 i.byteV nS) fun ca bz bA=>ah 1<|rt<|ck bz (vI 0)<|?_
 rw[hs]
 exact dX V ⟨_,_,_,_,_,rfl,aT.nil ..,aT.nil ..,(fun _ _ _=>aT.nil ..),aT.nil ..,aT.nil ..,(cP (by omega))⟩ (ud aw bA q)
theorem ox(hcode:B8 c)(hsl:aV m w (.slice A b.length cp) b)(hb:b.length≤1048576) :
    Calls Tryz.prog 113 #[vI 1,vB c,.slice A b.length cp] w (cN (.slice A b.length cp) b (ak dw 1 c b) w):=by
 obtain⟨hcode1,hcode2⟩:=hcode
 have hln:(b.length:Int)≤1048576:=by omega
 refine en 176 Tryz.func113 rfl<|sg<|aK mZ fun Y dO H s a=>ah 1<|sq<|aB 6<|c0<|bu<|sq<|aB 2<|cb ((c != 43)) (fun D=>?_) (fun D=>?_)
 have cy:=aA D
 refine aq 1<|aG s mZ fun dP cz cA=>ah 1<|b6<|ck cz (vI 4)<|?_
 exact cI (by unfold ak dw eQ kD j8 j9 gQ fV ga dF;(try simp only[D,bi,ea,ed,e9,eb,ec,reduceIte])<;>rfl) (bE (ud a cA H))
 have cy:=aF D
 refine bu<|aq 2<|L0<|cY #[.slice A b.length cp,vI 0,.bool false,vI 0] fun r dR f b5 o=>Pl 1<|aL 1<|aK mZ fun E dS q cB b7=>aG cB (mC 43) fun cC cD b9=>?_
 refine aL 1<|?_
 have ba:=ud b7 b9 q
 have Z:=aJ o ba
 have bb:=aJ a Z
 have cE:RC w _ A cp b cC r (ap.mk b false 0):=⟨hsl,bb,(Nat.le_trans a.size f),⟨0,(ub ba b5),Nat.zero_le _,rfl⟩,by omega⟩
 refine ay<|m3 (eK cE) fun dT cF a7 dU=>Pl 1<|?_
 have g:=nb (az b5) lr q
 refine L0<|bY (bj a7 (Ne.symm g) cD) 16 (mG 43 0 0 0 0 0 0 0 0 0 0 0 nS nS nS nS ((ap.mk b false 0).byteV) 0 0 0 0 nS) fun dV a8 a9=>aL 2<|aC a8 16<|Pl 2<|cu 4 [38] 42 (((((ap.mk b false 0).byteV)==13)||(((ap.mk b false 0).byteV)==14))) (fun K bc=>?_) ?_
 refine bl 38 ((((ap.mk b false 0).byteV)==13)) (fun I=>?_) (fun I=>?_)
 have cG:=ag I
 exact Pl 4<|ce bc true (by rw[I];rfl)
 have cG:=ai I
 exact Pl 1<|L1<|dQ a8 16<|Pl 2<|ce bc (((ap.mk b false 0).byteV)==14) (by rw[I];rfl)
 have a0:=us a7 a9
 have bd:=ut bb a0 (ac (ni a.size f) (ac (ni (le a.size o.size) q) aD))
 refine ay<|m2 (bf (((((ap.mk b false 0).byteV)==13)||(((ap.mk b false 0).byteV)==14))) 8 (RC.upd cF a9 (aa g aE) bd)) fun dW cH F=>?_
 refine gM cH fun x55 be J=>?_
 refine nt<|sq<|bk<|aq 1<|?_
 have ab:=bj F (Ne.symm g) a8
 refine aC ab 16<|ah 2<|?_
 have bg:=ud bd F (le a.size f)
 refine cb ((((ap.mk b false 0).byteV)==13)) (fun M=>?_) (fun M=>?_)
 have cJ:=ag M
 refine aq 1<|ay<|m1 (jT J) fun dY ad=>?_
 have dZ:=RC.clen J
 refine Pl 1<|aL 3<|?_
 refine ay<|m2 (bf ((decide ((x55.l.length:Int)≤251))) 5 (RC.upd J ad aE (aI.step (RC.u J) ad))) fun e0 bh cK=>nt<|go<|Pl 2<|ay<|sW (gA (n:=(x55.l.length:Int)) (by omega) bh) fun bm bo e1 cL cM cO=>?_
 have e2:=Nat.le_trans (ap.bytesR_le (x55.need (decide ((x55.l.length:Int)≤251)) 5) (x55.l.length:Int)) (RC.clen bh)
 refine gM cM fun nw cQ cR=>?_
 refine Pl 1<|?_
 have bq:=uz ad (u1 cK cO im)
 refine L0<|bY (bj bq (Ne.symm g) ab) 14 (mG 43 0 0 0 0 0 0 0 0 0 0 0 nS nS (.slice bm (((x55.need (decide ((x55.l.length:Int)≤251)) 5).bytesR (x55.l.length:Int)).length) bo) nS ((ap.mk b false 0).byteV) 0 0 0 0 nS) fun e3 cS br=>nl<|bn<|tn<|aq 1<|?_
 have ae:=us bq br
 have bs:=ut bg ae (ac (ni a.size f) (ac (ni (le a.size o.size) q) aD))
 refine ay<|m2 (oa (RC.upd cR br (aa g aE) bs)) fun e4 af a1=>nt<|sq<|aq 3<|L0<|fR (p:=⟨r,3,none⟩) (v:=vI nw.endC.e) (RC.fld af)<|ah 1<|?_
 have bt:=ud bs a1 (le a.size f)
 have hs:ak dw 1 c b=bC (aS.mk 43 0 0 0 0 0 0 0 0 0 0 0 [] [] ((x55.need (decide ((x55.l.length:Int)≤251)) 5).bytesR (x55.l.length:Int)) [] ((ap.mk b false 0).byteV) 0 0 0 0 []) nw:=by
   subst cQ be
   unfold ak dw eQ kD j8 j9 gQ fV ga dF
   (try simp only[D,M,bi,ea,ed,e9,eb,ec,reduceIte])
   all_goals rfl
 refine cb ((nw.endC.e != 0)) (fun aj=>?_) (fun aj=>?_)
 have al:=aA aj
 refine sq<|Rg 7 (fun w'=>w'.cell? ⟨r,3,none⟩=some (vI nw.endC.e)) fun e5 a2=>?_
 have bw:=RC.upd af a2 aE (aI.step (RC.u af) a2)
 refine bv (RC.fld bw) fun N=>Rt 0 N<|Rt 1 N<|Rt 2 N<|Rt 3 N<|Rl 4 N (fun _ hs=>hs)<|?_
 refine R0 5 rfl<|mb (ub (ut Z (ut a0 (ui F (u1 ae (aJ a1 a2) im)) (ac im (ac im aD))) (ac (nr f) (ac (ni o.size q) aD))) s) mZ fun e6 cT bz=>?_
 have bB:=ud bt (uz a2 bz) H
 refine bv (RC.fld (RC.upd bw bz (aa (Ne.symm (nb (az s) lr f)) aE) bB)) fun cU=>Rt 6 cU<|re<|tn<|b6<|ck cT (vI nw.endC.e)<|?_
 rw[hs]
 exact dD al bB
 have al:=aF aj
 refine bu<|sg<|?_
 refine L0<|cm (bj a1 (Ne.symm g) cS)<|?_
 refine aG (ub (ut Z (ut a0 (ui F (u1 ae a1 im)) (ac im (ac im aD))) (ac (nr f) (ac (ni o.size q) aD))) s) (mG 43 0 0 0 0 0 0 0 0 0 0 0 nS nS (.slice bm (((x55.need (decide ((x55.l.length:Int)≤251)) 5).bytesR (x55.l.length:Int)).length) bo) nS ((ap.mk b false 0).byteV) 0 0 0 0 nS) fun e7 cV cW=>ah 1<|rt<|ck cV (vI 0)<|?_
 rw[hs]
 exact dX al ⟨_,_,_,_,_,rfl,aT.nil ..,aT.nil ..,cL,aT.nil ..,aT.nil ..,(cP (by omega))⟩ (ud bt cW H)
 have cJ:=ai M
 refine aB 3<|c0<|aq 1<|ay<|m3 (eK J) fun e8 cZ an ee=>Pl 1<|?_
 refine L0<|bY (bj an (Ne.symm g) ab) 17 (mG 43 0 0 0 0 0 0 0 0 0 0 0 nS nS nS nS ((ap.mk b false 0).byteV) x55.byteV 0 0 0 nS) fun ef ao ar=>aL 2<|aC ao 17<|Pl 2<|cu 4 [51] 55 (((decide (0<x55.byteV))&&(decide (x55.byteV<5)))) (fun K bD=>?_) ?_
 refine bl 51 ((decide (0<x55.byteV))) (fun O=>?_) (fun O=>?_)
 have d0:=of_decide_eq_true O
 exact Pl 1<|L1<|dQ ao 17<|Pl 2<|ce bD (decide (x55.byteV<5)) (by rw[O];rfl)
 have d0:=of_decide_eq_false O
 exact Pl 4<|ce bD false (by rw[O];rfl)
 have bF:=us an ar
 have bG:=ut bg bF (ac (ni a.size f) (ac (ni (le a.size o.size) q) aD))
 refine ay<|m2 (bf (((decide (0<x55.byteV))&&(decide (x55.byteV<5)))) 6 (RC.upd cZ ar (aa g aE) bG)) fun eg d1 bH=>?_
 refine gM d1 fun j d2 d3=>?_
 refine aL 1<|ay<|m3 (eK d3) fun eh d4 bI ei=>Pl 1<|?_
 have bJ:=u1 bH bI im
 refine L0<|bY (bj bJ (Ne.symm g) ao) 18 (mG 43 0 0 0 0 0 0 0 0 0 0 0 nS nS nS nS ((ap.mk b false 0).byteV) x55.byteV j.byteV 0 0 nS) fun ej bK av=>aL 1<|aC bK 18<|L0<|Oe (vB (Int.tmod j.byteV 128)) (vB (j.byteV%128)) (congrArg (Value.int .u8) (Int.tmod_eq_emod_of_nonneg (by omega)))<|Pl 1<|aL 4<|cu 3 [66] 69 (((decide (1≤(j.byteV%128)))&&(decide ((j.byteV%128)≤3)))) (fun K bL=>?_) ?_
 refine bl 66 ((decide (1≤(j.byteV%128)))) (fun P=>?_) (fun P=>?_)
 have d5:=of_decide_eq_true P
 exact Pl 3<|ce bL (decide ((j.byteV%128)≤3)) (by rw[P];rfl)
 have d5:=of_decide_eq_false P
 exact Pl 3<|ce bL false (by rw[P];rfl)
 have bN:=us bJ av
 have bO:=ut bG bN (ac (ni a.size f) (ac (ni (le a.size o.size) q) aD))
 refine ay<|m2 (bf (((decide (1≤(j.byteV%128)))&&(decide ((j.byteV%128)≤3)))) 6 (RC.upd d4 av (aa g aE) bO)) fun ek d6 bP=>?_
 refine gM d6 fun k d7 d8=>?_
 refine aL 1<|ay<|m3 (eK d8) fun el da bQ em=>Pl 1<|?_
 have bR:=u1 bP bQ im
 refine L0<|bY (bj bR (Ne.symm g) bK) 19 (mG 43 0 0 0 0 0 0 0 0 0 0 0 nS nS nS nS ((ap.mk b false 0).byteV) x55.byteV j.byteV k.byteV 0 nS) fun eo aw aH=>aL 2<|aC aw 19<|Pl 2<|cu 4 [78] 82 (((k.byteV==0)||(k.byteV==255))) (fun K bS=>?_) ?_
 refine bl 78 ((k.byteV==0)) (fun Q=>?_) (fun Q=>?_)
 have db:=ag Q
 exact Pl 4<|ce bS true (by rw[Q];rfl)
 have db:=ai Q
 exact Pl 1<|L1<|dQ aw 19<|Pl 2<|ce bS (k.byteV==255) (by rw[Q];rfl)
 have bT:=us bR aH
 have bU:=ut bO bT (ac (ni a.size f) (ac (ni (le a.size o.size) q) aD))
 refine ay<|m2 (bf (((k.byteV==0)||(k.byteV==255))) 6 (RC.upd da aH (aa g aE) bU)) fun ep dc bV=>?_
 refine gM dc fun t dd de=>?_
 refine aL 1<|ay<|m3 (eK de) fun eq df bW er=>Pl 1<|?_
 have bX:=u1 bV bW im
 refine L0<|bY (bj bX (Ne.symm g) aw) 20 (mG 43 0 0 0 0 0 0 0 0 0 0 0 nS nS nS nS ((ap.mk b false 0).byteV) x55.byteV j.byteV k.byteV t.byteV nS) fun es a3 aM=>aL 2<|aC a3 20<|Pl 2<|cu 4 [91] 95 (((t.byteV==0)||(k.byteV==255))) (fun K bZ=>?_) ?_
 refine bl 91 ((t.byteV==0)) (fun S=>?_) (fun S=>?_)
 have dg:=ag S
 exact Pl 4<|ce bZ true (by rw[S];rfl)
 have dg:=ai S
 exact Pl 1<|L1<|dQ a3 19<|Pl 2<|ce bZ (k.byteV==255) (by rw[S];rfl)
 have c1:=us bX aM
 have c2:=ut bU c1 (ac (ni a.size f) (ac (ni (le a.size o.size) q) aD))
 refine ay<|m2 (bf (((t.byteV==0)||(k.byteV==255))) 6 (RC.upd df aM (aa g aE) c2)) fun et dh aN=>?_
 refine gM dh fun d di dj=>?_
 refine aL 1<|ay<|m3 (eK dj) fun eu dl aO ev=>bp d.byteV<|Pl 1<|aL 4<|cu 4 [103] 107 (((d.byteV==1)||(x55.byteV != 4))) (fun K c3=>?_) ?_
 refine bl 103 ((d.byteV==1)) (fun T=>?_) (fun T=>?_)
 have dm:=ag T
 exact Pl 4<|ce c3 true (by rw[T];rfl)
 have dm:=ai T
 refine Pl 1<|?_
 exact L1<|dQ (bj (u1 aN aO im) (Ne.symm g) a3) 17<|Pl 2<|ce c3 (x55.byteV != 4) (by rw[T];rfl)
 refine ay<|m2 (bf (((d.byteV==1)||(x55.byteV != 4))) 5 dl) fun dn dp c4=>?_
 refine gM dp fun U dq dr=>?_
 refine dk 1<|bk<|?_
 have hKr:0≤d.byteV∧d.byteV<256:=by omega
 have aP:=u1 aN (u1 aO c4 im) im
 refine je (fun x=>[(6,vP Y 0),(7,vI 0),(8,vP r 0),(9,vP E 0),(12,vI d.byteV),(13,vI (x.1:Int))]) (fun(x:Nat × ap × List Obj × Option Addr × Nat) w'=>aI [] w w'∧dn.heap.size≤w'.heap.size∧w'.heap[Y]? = some (.cells mZ 45 (0,0))∧RC w m A cp b w' r x.2.1∧w'.heap[E]? = some (.cells (mG 43 0 0 0 0 0 0 0 0 0 0 0 nS nS nS nS ((ap.mk b false 0).byteV) x55.byteV j.byteV k.byteV t.byteV (.slice x.2.2.2.1 x.2.2.1.length x.2.2.2.2)) 45 (0,0))∧aZ w.heap.size 100 2 (rF (.slice A b.length cp) b) w' (.slice x.2.2.2.1 x.2.2.1.length x.2.2.2.2) x.2.2.1∧(x.1≤d.byteV.toNat)∧(x.2.2.1.length=x.1)∧(eP (d.byteV.toNat-x.1) x.2.1 x.2.2.1=eP d.byteV.toNat U [])) (fun x=>d.byteV.toNat-x.1) (0,U,[],none,0) ⟨(ud c2 aP (le a.size f)),lr,(ub (ut Z (ut a0 (ui F (ut bF (ut bN (ut bT (u1 c1 aP im) (ac im (ac im aD))) (ac im (ac im aD))) (ac im (ac im aD)))) (ac im (ac im aD))) (ac (nr f) (ac (ni o.size q) aD))) s),dr,(bj aP (Ne.symm g) a3),(aZ.nil w.heap.size _ _ (rF (.slice A b.length cp) b) _),(by(try dsimp only);omega),rfl,rfl⟩ ?_
 rintro⟨i,C,L,B,cq⟩ a4 ⟨c5,c6,ds,dt,du,dv,dx,dy,dz⟩
 refine gi [(6,vP Y 0),(7,vI 0),(8,vP r 0),(9,vP E 0),(12,vI d.byteV),(13,vI (i:Int))] ?_
 have V:a4.heap[Y]? = some (.cells mZ 45 (0,0)):=ds
 have z:RC w m A cp b a4 r C:=dt
 have hlC:=RC.clen z
 have hrC:f8 C:=RC.rng z
 have hbv:=d9 hrC
 have hbv2:=d9 (jH hrC (n:=1))
 have c7:a4.heap[E]? = some (.cells (mG 43 0 0 0 0 0 0 0 0 0 0 0 nS nS nS nS ((ap.mk b false 0).byteV) x55.byteV j.byteV k.byteV t.byteV (.slice B L.length cq)) 45 (0,0)):=du
 have y:aZ w.heap.size 100 2 (rF (.slice A b.length cp) b) a4 (.slice B L.length cq) L:=dv
 have ew:i≤d.byteV.toNat:=dx
 have ex:L.length=i:=dy
 have c8:eP (d.byteV.toNat-i) C L=eP d.byteV.toNat U []:=dz
 refine sq<|aB 3<|cb ((decide ((i:Int)<d.byteV))) (fun a5=>?_) (fun a5=>?_)
 have dA:=of_decide_eq_true a5
 refine bu<|sq<|bk<|aq 1<|ay<|m3 (eK z) fun ey dB aQ ez=>Pl 1<|aL 1<|ay<|m3 (eK dB) fun eA c9 aR eB=>?_
 refine bp ((C.bytesC 1).byteV)<|Pl 1<|aL 2<|ay<|sW (gA (n:=(C.bytesC 1).byteV) (by omega) c9) fun dC dE eC dG ca aW=>?_
 have eD:=Nat.le_trans (ap.bytesR_le ((C.bytesC 1).bytesC 1) ((C.bytesC 1).byteV)) (RC.clen c9)
 refine ah 1<|go<|Pl 1<|?_
 have aX:=u1 aQ (u1 aR aW im) im
 have aY:=bj aX (Ne.symm g) c7
 refine aC aY 21<|Pl 3<|L0<|cX (m:=1) (e:=100) #[vB C.byteV,.slice dC ((((C.bytesC 1).bytesC 1).bytesR ((C.bytesC 1).byteV)).length) dE] fun eE eF eG dH G=>?_
 have cc:=RC.upd ca G aE (aI.step (RC.u ca) G)
 have dI:=ma (R:=rF (.slice A b.length cp) b) (x:=(Obj.mk C.byteV (((C.bytesC 1).bytesC 1).bytesR ((C.bytesC 1).byteV)))) dH rfl ⟨_,_,_,rfl,dG,b8 (x:=C.byteV) (by omega)⟩
 have cd:=aJ aX G
 have cf:=au y cd (fun x hx=>(aa (fun e=>(RC.nrow z y (by decide)) (e▸hx)) aE)) (fun _ _ h=>h)
 refine L0<|j7 (xs:=L) (ys:=([(Obj.mk C.byteV (((C.bytesC 1).bytesC 1).bytesR ((C.bytesC 1).byteV)))])) (.agg #[vB 0,nS]) 2 32 cf dI (by simp) rF.ones (fun _ _ _ _ h=>h) (by(try simp only[bM,ax]);omega) (le (le (le (le (le (le (le (le (le (le (le (le (le (le (le (le (le (le (le (le (le (le (le (le (le a.size o.size) b7.size) b9.size) a7.size) a9.size) F.size) an.size) ar.size) bH.size) bI.size) av.size) bP.size) bQ.size) aH.size) bV.size) bW.size) aM.size) aN.size) aO.size) c4.size) c6) aQ.size) aR.size) aW.size) G.size) fun cg ch eH ci b0=>Pl 1<|?_
 have cj:=aI.blk (ut (aI.mono (S':=(ob B++[])) G aD) b0 (am il aD)) (bA (dJ aY (au y aX (fun x hx=>(aa (fun e=>(RC.nrow z y (by decide)) (e▸hx)) aE)) (fun _ _ h=>h)) (by decide)) aE) aY
 refine L0<|bY cj 21 (mG 43 0 0 0 0 0 0 0 0 0 0 0 nS nS nS nS ((ap.mk b false 0).byteV) x55.byteV j.byteV k.byteV t.byteV (.slice cg ((L++[(Obj.mk C.byteV (((C.bytesC 1).bytesC 1).bytesR ((C.bytesC 1).byteV)))]).length) ch)) fun eI dK b1=>nl<|bn<|tn<|go<|Pl 1<|bp ((i:Int)+1)<|Pl 1<|nl<|?_
 have cl:=u1 (aI.mono (S':=(ob B++(E :: []))) b0 (am il aD)) b1 im
 have cn:=ut (aI.mono (S':=(r :: (ob B++(E :: [])))) cd (ac im aD)) cl (am il (ac im aD))
 have co:=ut c5 cn (ac (ni a.size f) (am (aU y lr) (ac (ni (le a.size o.size) q) aD)))
 exact gK ((i+1),(((C.bytesC 1).bytesC 1).bytesC ((C.bytesC 1).byteV)),(L++[(Obj.mk C.byteV (((C.bytesC 1).bytesC 1).bytesR ((C.bytesC 1).byteV)))]),cg,ch) ⟨co,(le (le (le (le (le (le c6 aQ.size) aR.size) aW.size) G.size) b0.size) b1.size),(aI.blk cn (aa (nb (az s) lr f) (bA (dJ V y (by decide)) (aa (nb (az s) o.size q) aE))) V),(RC.upd cc cl (bA (RC.nrow cc cf (by decide)) (aa g aE)) co),dK,(au ci b1 (fun x hx=>(aa (fun e=>(dJ cj ci (by decide)) (e▸hx)) aE)) (fun _ _ h=>h)),(by(try dsimp only);omega),(by(try dsimp only);simp only[bM];omega),(by(try dsimp only);rw[← c8,show d.byteV.toNat-i=(d.byteV.toNat-(i+1))+1 from by omega];rfl)⟩ (by omega)
 have dA:=of_decide_eq_false a5
 refine xt<|tx<|tx<|bx<|bn<|tn<|aq 1<|?_
 have hR:=yN c8 (by omega)
 refine ay<|m2 (oa z) fun eJ b2 W=>nt<|sq<|aq 3<|L0<|fR (p:=⟨r,3,none⟩) (v:=vI C.endC.e) (RC.fld b2)<|ah 1<|?_
 have cr:=ud c5 W (le a.size f)
 have hs:ak dw 1 c b=bC (aS.mk 43 0 0 0 0 0 0 0 0 0 0 0 [] [] [] [] ((ap.mk b false 0).byteV) x55.byteV j.byteV k.byteV t.byteV (eP d.byteV.toNat U []).2) (eP d.byteV.toNat U []).1:=by
   subst dq di dd d7 d2 be
   unfold ak dw eQ kD j8 j9 gQ fV ga dF
   (try simp only[D,M,a5,bi,ea,ed,e9,eb,ec,reduceIte])
   all_goals rfl
 refine cb ((C.endC.e != 0)) (fun b3=>?_) (fun b3=>?_)
 have b4:=aA b3
 refine sq<|Rg 7 (fun w'=>w'.cell? ⟨r,3,none⟩=some (vI C.endC.e)) fun eL a6=>?_
 have cs:=RC.upd b2 a6 aE (aI.step (RC.u b2) a6)
 refine bv (RC.fld cs) fun X=>Rt 0 X<|Rt 1 X<|Rt 2 X<|Rt 3 X<|Rl 4 X (fun _ hs=>hs)<|?_
 have ct:=nb (az s) lr f
 refine R0 5 rfl<|mb (bj (aJ W a6) ct V) mZ fun eM dL cv=>?_
 have cw:=ud cr (uz a6 cv) H
 refine bv (RC.fld (RC.upd cs cv (aa (Ne.symm ct) aE) cw)) fun dM=>Rt 6 dM<|re<|tn<|b6<|ck dL (vI C.endC.e)<|?_
 rw[hR] at hs
 rw[hs]
 exact dD b4 cw
 have b4:=aF b3
 refine bu<|sg<|?_
 refine L0<|cm (bj W (Ne.symm g) c7)<|?_
 refine aG (bj W (nb (az s) lr f) V) (mG 43 0 0 0 0 0 0 0 0 0 0 0 nS nS nS nS ((ap.mk b false 0).byteV) x55.byteV j.byteV k.byteV t.byteV (.slice B L.length cq)) fun eN dN cx=>ah 1<|rt<|ck dN (vI 0)<|?_
 rw[hR] at hs
 rw[hs]
 exact dX b4 ⟨_,_,_,_,_,rfl,aT.nil ..,aT.nil ..,(fun _ _ _=>aT.nil ..),aT.nil ..,((au y (us W cx) (fun x hx=>(aa (fun e=>(RC.nrow z y (by decide)) (e▸hx)) (aa (fun e=>(dJ V y (by decide)) (e▸hx)) aE))) (fun _ _ h=>h))).rd,(cP (by omega))⟩ (ud cr cx H)
variable {dir:Int}
theorem oE(hcode:B8 c)(hsl:aV m w (.slice A b.length cp) b)(hb:b.length≤1048576)(hd:¬ (dir=0∨dir=1)) :
    Calls Tryz.prog 113 #[vI dir,vB c,.slice A b.length cp] w (cN (.slice A b.length cp) b (ak dw dir c b) w):=by
 obtain⟨hcode1,hcode2⟩:=hcode
 have hln:(b.length:Int)≤1048576:=by omega
 have e0:(dir != 0)=true:=by simp;omega
 have e1:(dir != 1)=true:=by simp;omega
 refine en 176 Tryz.func113 rfl<|sg<|aK mZ fun g h a d e=>ah 1<|sq<|aq 3<|sy 19 e0<|Pl 3<|nl<|tn<|ct e1<|aq 1<|aG d mZ fun i eR f=>ah 1<|b6<|ck eR (vI 1)<|?_
 exact cI (by unfold ak dw eQ kD j8 j9 gQ fV ga dF;(try simp only[e0,e1,bi,ea,ed,e9,eb,ec,reduceIte,hd])<;>rfl) (bE (ud e f a))
variable {v:Value}
theorem nH(hc:B8 c)(h:aV m w v b)(hb:b.length≤1048576) :
    Calls Tryz.prog 113 #[.int .i64 dir,.int .u8 c,v] w (cN v b (ak bJ dir c b) w):=by
  rw[← rW (aV.range h)]
  obtain⟨A,cp,rfl,_,_⟩:=h.shape
  by_cases h0:dir=0
  · subst h0;exact oy hc h hb
  by_cases h1:dir=1
  · subst h1;exact ox hc h hb
  exact oE hc h hb (by omega)
open Go.RowKit
theorem zm{x:Int}  : Calls Tryz.prog 164 #[vB x] w (bS (.bool (kI x)) w):=by
 refine en 37 Tryz.func164 rfl<|aq 1<|aL 3<|cu 3 [5] 8 (((decide (1≤x))&&(decide (x≤8)))) (fun K i=>?_) ?_
 refine bl 5 ((decide (1≤x))) (fun a=>?_) (fun a=>?_)
 have q:=of_decide_eq_true a
 exact Pl 3<|ce i (decide (x≤8)) (by rw[a];rfl)
 have q:=of_decide_eq_false a
 exact Pl 3<|ce i false (by rw[a];rfl)
 refine Pl 1<|cu 3 [9] 12 ((((decide (1≤x))&&(decide (x≤8)))||(x==11))) (fun K j=>?_) ?_
 refine bl 9 (((decide (1≤x))&&(decide (x≤8)))) (fun d=>?_) (fun d=>?_)
 exact Pl 3<|ce j true (by rw[d];rfl)
 exact Pl 3<|ce j (x==11) (by rw[d];rfl)
 refine Pl 1<|cu 3 [13] 16 (((((decide (1≤x))&&(decide (x≤8)))||(x==11))||(x==12))) (fun K k=>?_) ?_
 refine bl 13 ((((decide (1≤x))&&(decide (x≤8)))||(x==11))) (fun e=>?_) (fun e=>?_)
 exact Pl 3<|ce k true (by rw[e];rfl)
 exact Pl 3<|ce k (x==12) (by rw[e];rfl)
 refine Pl 1<|cu 7 [17] 24 ((((((decide (1≤x))&&(decide (x≤8)))||(x==11))||(x==12))||((decide (15≤x))&&(decide (x≤17))))) (fun K l=>?_) ?_
 refine bl 17 (((((decide (1≤x))&&(decide (x≤8)))||(x==11))||(x==12))) (fun f=>?_) (fun f=>?_)
 exact Pl 7<|ce l true (by rw[f];rfl)
 refine Pl 3<|cu 3 [20] 23 (((decide (15≤x))&&(decide (x≤17)))) (fun K m=>?_) ?_
 refine bl 20 ((decide (15≤x))) (fun b=>?_) (fun b=>?_)
 have r:=of_decide_eq_true b
 exact Pl 3<|ce m (decide (x≤17)) (by rw[b];rfl)
 have r:=of_decide_eq_false b
 exact Pl 3<|ce m false (by rw[b];rfl)
 exact Pl 1<|ce l ((decide (15≤x))&&(decide (x≤17))) (by rw[f];rfl)
 refine Pl 1<|cu 7 [25] 32 (((((((decide (1≤x))&&(decide (x≤8)))||(x==11))||(x==12))||((decide (15≤x))&&(decide (x≤17))))||((decide (20≤x))&&(decide (x≤24))))) (fun K n=>?_) ?_
 refine bl 25 ((((((decide (1≤x))&&(decide (x≤8)))||(x==11))||(x==12))||((decide (15≤x))&&(decide (x≤17))))) (fun g=>?_) (fun g=>?_)
 exact Pl 7<|ce n true (by rw[g];rfl)
 refine Pl 3<|cu 3 [28] 31 (((decide (20≤x))&&(decide (x≤24)))) (fun K o=>?_) ?_
 refine bl 28 ((decide (20≤x))) (fun c=>?_) (fun c=>?_)
 have s:=of_decide_eq_true c
 exact Pl 3<|ce o (decide (x≤24)) (by rw[c];rfl)
 have s:=of_decide_eq_false c
 exact Pl 3<|ce o false (by rw[c];rfl)
 exact Pl 1<|ce n ((decide (20≤x))&&(decide (x≤24))) (by rw[g];rfl)
 refine Pl 1<|cu 3 [33] 36 ((((((((decide (1≤x))&&(decide (x≤8)))||(x==11))||(x==12))||((decide (15≤x))&&(decide (x≤17))))||((decide (20≤x))&&(decide (x≤24))))||(x==43))) (fun K p=>?_) ?_
 refine bl 33 (((((((decide (1≤x))&&(decide (x≤8)))||(x==11))||(x==12))||((decide (15≤x))&&(decide (x≤17))))||((decide (20≤x))&&(decide (x≤24))))) (fun h=>?_) (fun h=>?_)
 exact Pl 3<|ce p true (by rw[h];rfl)
 exact Pl 3<|ce p (x==43) (by rw[h];rfl)
 exact ah 1<|rt<|rr (.bool (((((((decide (1≤x))&&(decide (x≤8)))||(x==11))||(x==12))||((decide (15≤x))&&(decide (x≤17))))||((decide (20≤x))&&(decide (x≤24))))||(x==43)))<|cI (by unfold kI;(try simp only[bi])<;>rfl) ⟨rfl,(aI.refl [] _)⟩
open Go.RowKit
def jQ (b:List Int) : aS × Int :=
  if decide ((b.length:Int)<1) then (aS.zero,2)
  else if decide (b.getD 0 0-128<0) then (aS.zero,4)
  else if !(kI ((b.getD 0 0-128)%256)) then (aS.zero,4)
  else if decide ((b.length:Int)<2) then (aS.zero,2)
  else if !(cU (b.getD 1 0)) then (aS.zero,6)
  else if decide (2<(b.length:Int)) then (aS.zero,3)
  else (i5 ((b.getD 0 0-128)%256) (b.getD 1 0),0)
theorem Co{x:Int}:kI x=ee x:=by
  unfold kI ee
  rw[Bool.eq_iff_iff]
  simp only[decide_eq_true_eq,List.mem_cons,List.not_mem_nil,or_false,Bool.or_eq_true,Bool.and_eq_true,beq_iff_eq]
  omega
theorem yE(b:List Int) : jQ b=fd b:=by
  unfold jQ fd
  rw[Co,show decide ((b.length:Int)<1)=((b.length:Int)==0) from by rw[Bool.eq_iff_iff];simp only[decide_eq_true_eq,beq_iff_eq];omega,show decide (b.getD 0 0-128<0)=decide (b.getD 0 0<128) from by rw[Bool.eq_iff_iff];simp only[decide_eq_true_eq];omega]
  by_cases h:b.length=0
  · rw[show((b.length:Int)==0)=true from by rw[beq_iff_eq];omega];rfl
  · rw[show decide ((b.length:Int)<2)=((b.length:Int)==1) from by rw[Bool.eq_iff_iff];simp only[decide_eq_true_eq,beq_iff_eq];omega]
theorem rI(hsl:aV m w (.slice A b.length cp) b)(hb:b.length≤1048576) :
    Calls Tryz.prog 108 #[.slice A b.length cp] w (cN (.slice A b.length cp) b (jQ b) w):=by
 have hln:(b.length:Int)≤1048576:=by omega
 refine en 46 Tryz.func108 rfl<|sg<|aK mZ fun a3 a4 e f n=>ah 1<|sq<|aB 3<|cb ((decide ((b.length:Int)<1))) (fun a=>?_) (fun a=>?_)
 have u:=of_decide_eq_true a
 refine aq 1<|aG f mZ fun a5 z B=>ah 1<|b6<|ck z (vI 2)<|?_
 exact cI (y:=(aS.zero,2)) (by unfold jQ;(try simp only[a,bi,Bool.not_eq_true,reduceIte])<;>rfl) (bE (ud n B e))
 have u:=of_decide_eq_false a
 refine bu<|aq 1<|?_
 have s:=aV.old hsl n
 refine fo (aV.at_ s 0 (by omega)) fun C D E F a6=>L0<|lc b.length 0 E (by omega)<|L0<|fR (p:=⟨C,D+0,none⟩) (v:=vB (b.getD 0 0)) F<|bp (b.getD 0 0)<|bp ((b.getD 0 0)-128)<|ah 1<|sq<|aB 2<|cb ((decide (((b.getD 0 0)-128)<0))) (fun c=>?_) (fun c=>?_)
 have G:=of_decide_eq_true c
 refine aq 1<|aG f mZ fun a7 H I=>ah 1<|b6<|ck H (vI 4)<|?_
 exact cI (y:=(aS.zero,4)) (by unfold jQ;(try simp only[a,c,bi,Bool.not_eq_true,reduceIte])<;>rfl) (bE (ud n I e))
 have G:=of_decide_eq_false c
 refine bu<|aq 2<|ay<|m1 (zm (x:=(((b.getD 0 0)-128)%256))) fun a8 g=>ah 1<|sq<|aq 2<|nl<|tn<|?_
 have q:=aJ n g
 refine cb ((!(kI (((b.getD 0 0)-128)%256)))) (fun d=>?_) (fun d=>?_)
 have i:(kI (((b.getD 0 0)-128)%256))=false:=by simpa using d
 refine aq 1<|?_
 refine aG (ub g f) mZ fun a9 J K=>ah 1<|b6<|ck J (vI 4)<|?_
 exact cI (y:=(aS.zero,4)) (by unfold jQ;(try simp only[a,c,d,i,bi,Bool.not_eq_true,reduceIte])<;>rfl) (bE (ud q K e))
 have i:(kI (((b.getD 0 0)-128)%256))=true:=by simpa using d
 refine bu<|sq<|aB 3<|cb ((decide ((b.length:Int)<2))) (fun h=>?_) (fun h=>?_)
 have L:=of_decide_eq_true h
 refine aq 1<|?_
 refine aG (ub g f) mZ fun aa M N=>ah 1<|b6<|ck M (vI 2)<|?_
 exact cI (y:=(aS.zero,2)) (by unfold jQ;(try simp only[a,c,d,i,h,bi,Bool.not_eq_true,reduceIte])<;>rfl) (bE (ud q N e))
 have L:=of_decide_eq_false h
 refine bu<|aq 1<|?_
 have t:=aV.old s g
 refine fo (aV.at_ t 1 (by omega)) fun O P Q R ab=>L0<|lc b.length 1 Q (by omega)<|L0<|fR (p:=⟨O,P+1,none⟩) (v:=vB (b.getD 1 0)) R<|ay<|m1 (zx (x:=(b.getD 1 0)) (by omega)) fun ac k=>ah 1<|sq<|aB 2<|?_
 have r:=aJ q k
 refine cb ((!(cU (b.getD 1 0)))) (fun j=>?_) (fun j=>?_)
 have o:(cU (b.getD 1 0))=false:=by simpa using j
 refine aq 1<|?_
 refine aG (ub (aJ g k) f) mZ fun ad S T=>ah 1<|b6<|ck S (vI 6)<|?_
 exact cI (y:=(aS.zero,6)) (by unfold jQ;(try simp only[a,c,d,i,h,j,o,bi,Bool.not_eq_true,reduceIte])<;>rfl) (bE (ud r T e))
 have o:(cU (b.getD 1 0))=true:=by simpa using j
 refine bu<|sq<|aB 3<|cb ((decide (2<(b.length:Int)))) (fun l=>?_) (fun l=>?_)
 have U:=of_decide_eq_true l
 refine aq 1<|?_
 refine aG (ub (aJ g k) f) mZ fun ae V W=>ah 1<|b6<|ck V (vI 3)<|?_
 exact cI (y:=(aS.zero,3)) (by unfold jQ;(try simp only[a,c,d,i,h,j,o,l,bi,Bool.not_eq_true,reduceIte])<;>rfl) (bE (ud r W e))
 have U:=of_decide_eq_false l
 refine bu<|aq 3<|?_
 refine fo (aV.at_ (aV.old t k) 1 (by omega)) fun X Y Z a0 af=>L0<|lc b.length 1 Z (by omega)<|L0<|fR (p:=⟨X,Y+1,none⟩) (v:=vB (b.getD 1 0)) a0<|Pl 1<|?_
 refine aG (ub (aJ g k) f) (mG (((b.getD 0 0)-128)%256) (b.getD 1 0) 0 0 0 0 0 0 0 0 0 0 nS nS nS nS 0 0 0 0 0 nS) fun ag a1 a2=>ah 1<|rt<|ck a1 (vI 0)<|?_
 exact cI (y:=((aS.mk (((b.getD 0 0)-128)%256) (b.getD 1 0) 0 0 0 0 0 0 0 0 0 0 [] [] [] [] 0 0 0 0 0 []),0)) (by unfold jQ;(try simp only[a,c,d,i,h,j,o,l,bi,Bool.not_eq_true,reduceIte])<;>rfl) ⟨_,rfl,⟨_,_,_,_,_,rfl,aT.nil ..,aT.nil ..,(fun _ _ _=>aT.nil ..),aT.nil ..,aT.nil ..,(cP (by omega))⟩,(ud r a2 e)⟩
theorem mV(h:aV m w v b)(hb:b.length≤1048576) : Calls Tryz.prog 108 #[v] w (cN v b (fd b) w):=by
  obtain⟨A,cp,rfl,_,_⟩:=h.shape
  rw[← yE]
  exact rI h hb
open Go.RowKit
variable {e:Ending}{v0:Value}{w':World}
theorem iN{x y:aS × Int}(h:x=y)      (k:cN v0 b y w e w') : cN v0 b x w e w':=by rw[h];exact k
theorem kB(hc:B8 c)(h:aV m w v b)(hb:b.length≤1048576) :
    Calls Tryz.prog 109 #[.int .i64 dir,.int .u8 c,v] w (cN v b (ak aR dir c b) w):=by
  obtain⟨A,cp,rfl,_,_⟩:=h.shape
  by_cases h0:dir=0
  · subst h0;exact nK hc h hb
  by_cases h1:dir=1
  · subst h1;exact nh hc h hb
  exact mS hc h hb (by omega)
theorem lM(hc:B8 c)(h:aV m w v b)(hb:b.length≤1048576) :
    Calls Tryz.prog 110 #[.int .i64 dir,.int .u8 c,v] w (cN v b (ak aY dir c b) w):=by
  obtain⟨A,cp,rfl,_,_⟩:=h.shape
  by_cases h0:dir=0
  · subst h0;exact oI hc h hb
  by_cases h1:dir=1
  · subst h1;exact oB hc h hb
  exact ot hc h hb (by omega)
theorem lZ(hc:B8 c)(h:aV m w v b)(hb:b.length≤1048576) :
    Calls Tryz.prog 111 #[.int .i64 dir,.int .u8 c,v] w (cN v b (ak bo dir c b) w):=by
  obtain⟨A,cp,rfl,_,_⟩:=h.shape
  rw[← qv]
  by_cases h0:dir=0
  · subst h0;exact og hc h hb
  by_cases h1:dir=1
  · subst h1;exact o6 hc h hb
  exact o9 hc h hb (by omega)
theorem sb(hsl:aV m w (.slice A b.length cp) b)(hb:b.length≤1048576) :
    Calls Tryz.prog 78 #[vI dir,.slice A b.length cp] w (cN (.slice A b.length cp) b (ci dir b) w):=by
 have hln:(b.length:Int)≤1048576:=by omega
 refine en 87 Tryz.func78 rfl<|sg<|aK mZ fun bO bP u d i=>ah 1<|sq<|aq 3<|cu 3 [11] 14 (((dir != 0)&&(dir != 1))) (fun K U=>?_) ?_
 refine bl 11 ((dir != 0)) (fun D=>?_) (fun D=>?_)
 have aP:=aA D
 exact Pl 3<|ce U (dir != 1) (by rw[D];rfl)
 have aP:=aF D
 exact Pl 3<|ce U false (by rw[D];rfl)
 refine nt<|cb (((dir != 0)&&(dir != 1))) (fun f=>?_) (fun f=>?_)
 have aT:=(b7 f).1
 have aU:=(b7 f).2
 refine aq 1<|aG d mZ fun bQ aW aX=>ah 1<|b6<|ck aW (vI 1)<|?_
 have hs:ip dir b=(aS.zero,1):=by
   unfold ip
   (try simp only[f,aT,aU,bi,gc,reduceIte])
   all_goals rfl
 rw[← gh]
 refine iN hs ?_
 exact bE (ud i aX u)
 refine bu<|sq<|aB 3<|cb (((b.length:Int)==0)) (fun g=>?_) (fun g=>?_)
 have aZ:=ag g
 refine aq 1<|aG d mZ fun bR b0 b1=>ah 1<|b6<|ck b0 (vI 2)<|?_
 have hs:ip dir b=(aS.zero,2):=by
   unfold ip
   (try simp only[f,g,bi,gc,reduceIte])
   all_goals rfl
 rw[← gh]
 refine iN hs ?_
 exact bE (ud i b1 u)
 have aZ:=ai g
 refine bu<|sq<|aB 3<|cb ((decide (253<(b.length:Int)))) (fun j=>?_) (fun j=>?_)
 have b2:=of_decide_eq_true j
 refine aq 1<|aG d mZ fun bS b3 b4=>ah 1<|b6<|ck b3 (vI 3)<|?_
 have hs:ip dir b=(aS.zero,3):=by
   unfold ip
   (try simp only[f,g,j,bi,gc,reduceIte])
   all_goals rfl
 rw[← gh]
 refine iN hs ?_
 exact bE (ud i b4 u)
 have b2:=of_decide_eq_false j
 refine bu<|aq 1<|?_
 have E:=aV.old hsl i
 refine fo (aV.at_ E 0 (by omega)) fun b5 ba bb bc bT=>L0<|lc b.length 0 bb (by omega)<|L0<|fR (p:=⟨b5,ba+0,none⟩) (v:=vB (b.getD 0 0)) bc<|ah 1<|sq<|aq 3<|cu 3 [29] 32 (((decide (128≤(b.getD 0 0)))&&(dir==1))) (fun K V=>?_) ?_
 refine bl 29 ((decide (128≤(b.getD 0 0)))) (fun F=>?_) (fun F=>?_)
 have bd:=of_decide_eq_true F
 exact Pl 3<|ce V (dir==1) (by rw[F];rfl)
 have bd:=of_decide_eq_false F
 exact Pl 3<|ce V false (by rw[F];rfl)
 refine nt<|cb (((decide (128≤(b.getD 0 0)))&&(dir==1))) (fun x=>?_) (fun x=>?_)
 have be:=(b7 x).1
 have bf:=(b7 x).2
 refine aq 1<|ay<|e2 (mV E (by omega)) fun bh bU G N=>?_
 refine Pl 2<|?_
 have W:=ub N d
 refine aG (hz:=(by rw[G.size];exact aQ)) (hv:=G.size) (h1:=(bG.one G (aV.old E N))) W (bh) fun bV bj X=>ah 1<|b6<|fO 22 G.size bj (vI (((fd b)).2))<|?_
 have hs:ip dir b=(fd b):=by
   unfold ip
   (try simp only[f,g,j,x,be,bf,bi,gc,reduceIte])
   all_goals rfl
 rw[← gh]
 refine iN hs ?_
 exact⟨_,rfl,(bG.upd G X (av (b9 W (by decide)) aM)),(ud i (uz N X) u)⟩
 refine bu<|aq 3<|ny (eh (P:=Tryz.prog) 27 5 1 Tryz.underlying27 rfl rfl A b.length cp 1 (by omega)) fun bk hrun54 Y=>L0<|gr (.slice bk (b.length-1) (cp-1)) (eC (kl:=.i64) (k:=((1:Nat) : Int)) (A:=A) (n:=b.length) (c:=cp) rfl Tryz.underlying27 (by kernel_rfl) (by kernel_rfl) (hrun54 _ _))<|ay<|e2 (kB (dir:=dir) (c:=(b.getD 0 0)) (b8 (by omega)) (Y _ _ _ _ _ E) (by(try simp only[List.length_drop]);omega)) fun Z bW bm e=>?_
 have I:=aV.old E e
 have l:=bG.sub bm (fun m' w' q=>(Y _ _ _ _ _ q))
 refine Pl 3<|aK mZ fun bX bY a bn bp=>aG (hz:=(by rw[l.size];exact aQ)) (hv:=l.size) (h1:=(bG.one l hsl)) bn (Z) fun bZ a0 bq=>ah 1<|sq<|aB 2<|?_
 have J:=ud bp bq a
 have o:=aJ e J
 have a1:=aJ i o
 refine cb (((((ak aR dir (b.getD 0 0) (b.drop 1))).2)==4)) (fun h=>?_) (fun h=>?_)
 have br:=ag h
 refine go<|Pl 3<|ny (eh (P:=Tryz.prog) 27 5 1 Tryz.underlying27 rfl rfl A b.length cp 1 (by omega)) fun bs hrun75 a2=>L0<|gr (.slice bs (b.length-1) (cp-1)) (eC (kl:=.i64) (k:=((1:Nat) : Int)) (A:=A) (n:=b.length) (c:=cp) rfl Tryz.underlying27 (by kernel_rfl) (by kernel_rfl) (hrun75 _ _))<|?_
 refine ay<|e2 (lM (dir:=dir) (c:=(b.getD 0 0)) (b8 (by omega)) (a2 _ _ _ _ _ (aV.old I J)) (by(try simp only[List.length_drop]);omega)) fun a3 c0 bt O=>?_
 have r:=bG.sub bt (fun m' w' q=>(a2 _ _ _ _ _ q))
 refine Pl 3<|?_
 have a4:=ub O a0
 refine aG (hz:=(by rw[r.size];exact aQ)) (hv:=(Eq.trans r.size (Eq.symm l.size))) (h1:=(bG.one r hsl)) a4 (a3) fun c1 a5 a6=>ah 1<|sq<|aB 2<|?_
 have C:=uz O a6
 have a7:=ud a1 C (le (le i.size e.size) a)
 refine cb (((((ak aY dir (b.getD 0 0) (b.drop 1))).2)==4)) (fun y=>?_) (fun y=>?_)
 have bv:=ag y
 refine go<|Pl 3<|ny (eh (P:=Tryz.prog) 27 5 1 Tryz.underlying27 rfl rfl A b.length cp 1 (by omega)) fun bw hrun92 a8=>L0<|gr (.slice bw (b.length-1) (cp-1)) (eC (kl:=.i64) (k:=((1:Nat) : Int)) (A:=A) (n:=b.length) (c:=cp) rfl Tryz.underlying27 (by kernel_rfl) (by kernel_rfl) (hrun92 _ _))<|?_
 have a9:=ud J C a
 refine ay<|e2 (lZ (dir:=dir) (c:=(b.getD 0 0)) (b8 (by omega)) (a8 _ _ _ _ _ (aV.old I a9)) (by(try simp only[List.length_drop]);omega)) fun aa c2 bx Q=>?_
 have s:=bG.sub bx (fun m' w' q=>(a8 _ _ _ _ _ q))
 refine Pl 3<|?_
 have ab:=ub Q a5
 refine aG (hz:=(by rw[s.size];exact aQ)) (hv:=(Eq.trans s.size (Eq.symm r.size))) (h1:=(bG.one s hsl)) ab (aa) fun c3 ad ae=>ah 1<|sq<|aB 2<|?_
 have L:=uz Q ae
 have af:=ud a7 L (le (le i.size e.size) a)
 refine cb (((((ak bo dir (b.getD 0 0) (b.drop 1))).2)==4)) (fun B=>?_) (fun B=>?_)
 have bz:=ag B
 refine go<|Pl 3<|ny (eh (P:=Tryz.prog) 27 5 1 Tryz.underlying27 rfl rfl A b.length cp 1 (by omega)) fun bA hrun110 aj=>L0<|gr (.slice bA (b.length-1) (cp-1)) (eC (kl:=.i64) (k:=((1:Nat) : Int)) (A:=A) (n:=b.length) (c:=cp) rfl Tryz.underlying27 (by kernel_rfl) (by kernel_rfl) (hrun110 _ _))<|?_
 have R:=u1 C L im
 have al:=ud a9 L a
 refine ay<|e2 (kK (dir:=dir) (c:=(b.getD 0 0)) (b8 (by omega)) (aj _ _ _ _ _ (aV.old I al)) (by(try simp only[List.length_drop]);omega)) fun am c4 bB S=>?_
 have t:=bG.sub bB (fun m' w' q=>(aj _ _ _ _ _ q))
 refine Pl 3<|?_
 have an:=ub S ad
 refine aG (hz:=(by rw[t.size];exact aQ)) (hv:=(Eq.trans t.size (Eq.symm s.size))) (h1:=(bG.one t hsl)) an (am) fun c5 ao ap=>ah 1<|sq<|aB 2<|?_
 have M:=uz S ap
 have ar:=ud af M (le (le i.size e.size) a)
 refine cb (((((ak bg dir (b.getD 0 0) (b.drop 1))).2)==4)) (fun H=>?_) (fun H=>?_)
 have bC:=ag H
 refine go<|Pl 3<|ny (eh (P:=Tryz.prog) 27 5 1 Tryz.underlying27 rfl rfl A b.length cp 1 (by omega)) fun bD hrun130 au=>L0<|gr (.slice bD (b.length-1) (cp-1)) (eC (kl:=.i64) (k:=((1:Nat) : Int)) (A:=A) (n:=b.length) (c:=cp) rfl Tryz.underlying27 (by kernel_rfl) (by kernel_rfl) (hrun130 _ _))<|?_
 have aw:=u1 R M im
 refine ay<|e2 (nH (dir:=dir) (c:=(b.getD 0 0)) (b8 (by omega)) (au _ _ _ _ _ (aV.old I (ud al M a))) (by(try simp only[List.length_drop]);omega)) fun ax c6 bF T=>?_
 have z:=bG.sub bF (fun m' w' q=>(au _ _ _ _ _ q))
 refine Pl 3<|?_
 have az:=ub T ao
 refine aG (hz:=(by rw[z.size];exact aQ)) (hv:=(Eq.trans z.size (Eq.symm t.size))) (h1:=(bG.one z hsl)) az (ax) fun c7 bH aC=>Pl 1<|ng<|L0<|cm (hz:=(by rw[z.size];exact aQ)) bH<|Pl 1<|?_
 have aE:=uz T aC
 refine aG (hz:=(by rw[z.size];exact aQ)) (hv:=z.size) (h1:=(bG.one z hsl)) (ub (ud o (u1 aw aE im) (le e.size a)) d) (ax) fun c8 bI aH=>ah 1<|rt<|fO 22 z.size bI (vI (((ak bJ dir (b.getD 0 0) (b.drop 1))).2))<|?_
 have hs:ip dir b=(ak bJ dir (b.getD 0 0) (b.drop 1)):=by
   unfold ip
   (try simp only[f,g,j,x,h,y,B,H,bi,gc,reduceIte])
   all_goals rfl
 rw[← gh]
 refine iN hs ?_
 exact⟨_,rfl,(bG.upd z (us aC aH) (av (b9 az (by decide)) (av (b9 (ub (ud o (aJ aw T) (le e.size a)) d) (by decide)) aM))),(ut ar (us aE aH) (ac (ni (le i.size e.size) a) (ac (nr u) aD)))⟩
 have bC:=ai H
 refine bu<|sg<|L0<|cm (hz:=(by rw[t.size];exact aQ)) ao<|Pl 1<|?_
 refine aG (hz:=(by rw[t.size];exact aQ)) (hv:=t.size) (h1:=(bG.one t hsl)) (ub (ud o (u1 R M im) (le e.size a)) d) (am) fun c9 bK aI=>ah 1<|rt<|fO 22 t.size bK (vI (((ak bg dir (b.getD 0 0) (b.drop 1))).2))<|?_
 have hs:ip dir b=(ak bg dir (b.getD 0 0) (b.drop 1)):=by
   unfold ip
   (try simp only[f,g,j,x,h,y,B,H,bi,gc,reduceIte])
   all_goals rfl
 rw[← gh]
 refine iN hs ?_
 exact⟨_,rfl,(bG.upd t (us ap aI) (av (b9 an (by decide)) (av (b9 (ub (ud o (aJ R S) (le e.size a)) d) (by decide)) aM))),(ud ar aI u)⟩
 have bz:=ai B
 refine bu<|sq<|aB 2<|cf B<|bu<|sg<|L0<|cm (hz:=(by rw[s.size];exact aQ)) ad<|Pl 1<|?_
 refine aG (hz:=(by rw[s.size];exact aQ)) (hv:=s.size) (h1:=(bG.one s hsl)) (ub (ud o (u1 C L im) (le e.size a)) d) (aa) fun ca bL aL=>ah 1<|rt<|fO 22 s.size bL (vI (((ak bo dir (b.getD 0 0) (b.drop 1))).2))<|?_
 have hs:ip dir b=(ak bo dir (b.getD 0 0) (b.drop 1)):=by
   unfold ip
   (try simp only[f,g,j,x,h,y,B,bi,gc,reduceIte])
   all_goals rfl
 rw[← gh]
 refine iN hs ?_
 exact⟨_,rfl,(bG.upd s (us ae aL) (av (b9 ab (by decide)) (av (b9 (ub (ud o (aJ C Q) (le e.size a)) d) (by decide)) aM))),(ud af aL u)⟩
 have bv:=ai y
 refine bu<|sq<|aB 2<|cf y<|bu<|sq<|aB 2<|cf y<|bu<|sg<|L0<|cm (hz:=(by rw[r.size];exact aQ)) a5<|Pl 1<|?_
 refine aG (hz:=(by rw[r.size];exact aQ)) (hv:=r.size) (h1:=(bG.one r hsl)) (ub (ud o C (le e.size a)) d) (a3) fun cc bM aN=>ah 1<|rt<|fO 22 r.size bM (vI (((ak aY dir (b.getD 0 0) (b.drop 1))).2))<|?_
 have hs:ip dir b=(ak aY dir (b.getD 0 0) (b.drop 1)):=by
   unfold ip
   (try simp only[f,g,j,x,h,y,bi,gc,reduceIte])
   all_goals rfl
 rw[← gh]
 refine iN hs ?_
 exact⟨_,rfl,(bG.upd r (us a6 aN) (av (b9 a4 (by decide)) (av (b9 (ub (aJ o O) d) (by decide)) aM))),(ud a7 aN u)⟩
 have br:=ai h
 refine bu<|sq<|aB 2<|cf h<|bu<|sq<|aB 2<|cf h<|bu<|sq<|aB 2<|cf h<|sk<|tn<|sg<|L0<|cm (hz:=(by rw[l.size];exact aQ)) a0<|Pl 1<|?_
 refine aG (hz:=(by rw[l.size];exact aQ)) (hv:=l.size) (h1:=(bG.one l hsl)) (ub o d) (Z) fun cd bN aO=>ah 1<|rt<|fO 22 l.size bN (vI (((ak aR dir (b.getD 0 0) (b.drop 1))).2))<|?_
 have hs:ip dir b=(ak aR dir (b.getD 0 0) (b.drop 1)):=by
   unfold ip
   (try simp only[f,g,j,x,h,bi,gc,reduceIte])
   all_goals rfl
 rw[← gh]
 refine iN hs ?_
 exact⟨_,rfl,(bG.upd l (uz J aO) (av (b9 (ub e d) (by decide)) aM)),(ud a1 aO u)⟩
theorem fc(h:aV m w v b)(hb:b.length≤1048576) : Calls Tryz.prog 78 #[.int .i64 dir,v] w (cN v b (ci dir b) w):=by
  obtain⟨A,cp,rfl,_,_⟩:=h.shape
  exact sb h hb
open Go.RowKit
def nC (v0:Value)(b:List Int)(res:cy × Int)(w:World)(e:Ending)(w':World) : Prop:=∃ x,e = .returned (.tuple #[.agg (dC res.1.unit res.1.tid res.1.msg x),.int .i64 res.2])∧(bG v0 b w' (f5 res.1.msg x).toList res.1.msg∧(0≤res.1.unit∧res.1.unit<256)∧(0≤res.1.tid∧res.1.tid<65536))∧aI [] w w'
theorem fg{x y:cy × Int}(h:x=y)      (k:nC v0 b y w e w') : nC v0 b x w e w':=by rw[h];exact k
def EV:SL:=⟨none,0,none,0,none,0,none,0,none,0⟩
theorem eD{x:Int}{W:World}(hu:aI [] w W) : nC v0 b (cy.zero,x) w (.returned (.tuple #[.agg kP,.int .i64 x])) W:=⟨EV,(by kernel_rfl),⟨bG.zero v0 b W,(show(0:Int)≤0∧(0:Int)<256 from by decide),(show(0:Int)≤0∧(0:Int)<65536 from by decide)⟩,hu⟩
variable {E:Int}{M:aS}
theorem iH(hX:ci dir b=(M,E))(h:aV m w v b)(hb:b.length≤1048576) : Calls Tryz.prog 78 #[.int .i64 dir,v] w (fun e w'=>∃ x,e = .returned (.tuple #[.agg (f5 M x),.int .i64 E])∧bG v b w' (f5 M x).toList M∧aI [] w w'):=by
  refine(fc h hb).mono ?_
  rintro e w' ⟨cs,rfl,h1,h2⟩
  rw[hX] at h1 ⊢
  obtain⟨x,rfl⟩:=nU (h1.rd (aV.old h h2))
  exact⟨x,rfl,h1,h2⟩
end Go.Proofs.YtdkhbcefkfgbdaaGreat
namespace Go.Proofs.YtdkhbcefkfgbdaaGreat
theorem vk(a b k:Nat) : (a ^^^ b)/2 ^ k=(a/2 ^ k) ^^^ (b/2 ^ k):=by
  rw[← Nat.shiftRight_eq_div_pow,Nat.shiftRight_xor_distrib,Nat.shiftRight_eq_div_pow,Nat.shiftRight_eq_div_pow]
theorem xV(x z:Nat) : kX (x ^^^ 2*z)=kX x ^^^ z:=by
  unfold kX
  have h1:(x ^^^ 2*z)/2=(x/2) ^^^ z:=by
    have:=vk x (2*z) 1
    rw[show(2:Nat) ^ 1=2 from rfl] at this
    rw[this,show 2*z/2=z from by omega]
  have h2:(x ^^^ 2*z)%2=x%2:=by
    have:=Nat.xor_mod_two_pow (a:=x) (b:=2*z) (n:=1)
    rw[show(2:Nat) ^ 1=2 from rfl] at this
    rw[this,show 2*z%2=0 from by omega,Nat.xor_zero]
  rw[h1,h2,Nat.xor_assoc,Nat.xor_comm z,← Nat.xor_assoc]
theorem rK(x:Nat) : ∀ (k h:Nat),fY k (x ^^^ 2 ^ k*h)=fY k x ^^^ h
  | 0,h=>by show x ^^^ 2 ^ 0*h=x ^^^ h;rw[Nat.pow_zero,Nat.one_mul]
  | k+1,h=>by
    show kX (fY k (x ^^^ 2 ^ (k+1)*h))=kX (fY k x) ^^^ h
    rw[Nat.pow_succ,Nat.mul_assoc,rK x k (2*h),xV]
theorem yu(s:Nat) : (s%256) ^^^ (2 ^ 8*(s/256))=s:=by
  have h1:=Nat.xor_mod_two_pow (a:=s%256) (b:=2 ^ 8*(s/256)) (n:=8)
  have h2:=vk (s%256) (2 ^ 8*(s/256)) 8
  rw[show(2:Nat) ^ 8=256 from rfl] at *
  rw[show 256*(s/256)%256=0 from by omega,Nat.xor_zero] at h1
  rw[show s%256/256=0 from by omega,Nat.zero_xor] at h2
  omega
theorem uh(s c:Nat) : fY 8 (s ^^^ c)=uN s c:=by
  have h:=rK ((s%256) ^^^ c) 8 (s/256)
  rw[Nat.xor_assoc,Nat.xor_comm c,← Nat.xor_assoc,yu] at h
  rw[h,Nat.xor_comm]
  rfl
variable {n:Nat}
theorem qO(hn:n<65536) : (if n%2=1 then (n/2) ^^^ 40961 else n/2)=kX n:=by
  unfold kX
  split
  · rename_i h;rw[h]
  · rename_i h;rw[show n%2=0 from by omega,Nat.zero_mul,Nat.xor_zero]
open Go.RowKit
variable {c:Int}
theorem xT(h:c=(n:Int))(hn:n<65536)(q:(c%2==1)=true) : xi (c/2) 40961=((kX n:Nat) : Int):=by
  have q2:c%2=1:=by simpa using q
  rw[← qO hn,if_pos (by omega)]
  unfold xi
  rw[show(c/2).toNat=n/2 from by omega]
  rfl
theorem zC(h:c=(n:Int))(hn:n<65536)(q:(c%2==1)=false) : c/2=((kX n:Nat) : Int):=by
  have q2:¬ c%2=1:=by simpa using q
  rw[← qO hn,if_neg (by omega)]
  omega
variable {b:List Int}{i:Nat}
theorem wN{s:Int}   (hs:0≤ex s b i∧ex s b i<65536)(hb:0≤b.getD i 0∧b.getD i 0<256)  (h:c=((fY 8 ((ex s b i).toNat ^^^ (b.getD i 0).toNat) : Nat) : Int)) : c=ex s b (i+1):=by
  rw[h,uh,← qL hs hb]
  rfl
theorem AI{a:Int}(ha:0≤a∧a<65536)(hc:0≤c∧c<256) : a.toNat ^^^ c.toNat<65536:=nu (by omega) (by omega)
variable {l:List Int}
theorem wm(h:i<l.length) : l.getD i 0∈l:=by
  rw[List.getD_eq_getElem?_getD,List.getElem?_eq_getElem h]
  exact List.getElem_mem h
variable {A:Option Addr}{cp:Nat}{m:Md}{w:World}
theorem CS{s:Int}(hsl:aV m w (.slice A b.length cp) b)(hs:0≤s∧s<65536) :
    Calls Tryz.prog 189 #[vW s,.slice A b.length cp] w (bS (vW (cc s b)) w):=by
 have hln:=aT.len hsl
 have hb:=aV.range hsl
 refine en 34 Tryz.func189 rfl<|aB 1<|sq<|aB 1<|bk<|je (fun x=>[(0,vW x.2),(1,.slice A b.length cp),(4,vW 0),(5,vI (x.1:Int))]) (fun(x:Nat × Int) w'=>aI [] w w'∧(x.1≤b.length)∧(x.2=ex s b x.1)∧(0≤x.2∧x.2<65536)) (fun x=>b.length-x.1) (0,s) ⟨aI.refl _ _,(by(try dsimp only);omega),rfl,hs⟩ ?_
 rintro⟨i,c⟩ r ⟨f,t,u,y⟩
 refine gi [(0,vW c),(1,.slice A b.length cp),(4,vW 0),(5,vI (i:Int))] ?_
 have H:i≤b.length:=t
 have q:c=ex s b i:=u
 have I:0≤c∧c<65536:=y
 have hcr:0≤ex s b i∧ex s b i<65536:=kq hs hb _
 refine sq<|aB 4<|cb ((decide ((i:Int)<(b.length:Int)))) (fun g=>?_) (fun g=>?_)
 have z:=of_decide_eq_true g
 refine bu<|sq<|bk<|aq 3<|?_
 refine fo (aV.at_ (aV.old hsl f) i (by omega)) fun h j B C J=>L0<|lc b.length i B (by omega)<|L0<|fR (p:=⟨h,j+i,none⟩) (v:=vB (b.getD i 0)) C<|L0<|Dk (b.getD i 0)<|?_
 have K:=DB (a:=c) (b:=(b.getD i 0)) (by omega) (by omega)
 refine L0<|Oe (vW (bits .xor .u16 c (b.getD i 0))) (vW (xi c (b.getD i 0))) (congrArg (Value.int .u16) (pP (by omega) (by omega)))<|Pl 1<|dk 1<|bk<|?_
 have hbr:0≤b.getD i 0∧b.getD i 0<256:=hb _ (wm (by omega))
 have hxl:=AI hcr hbr
 refine je (fun x=>[(0,vW x.2),(1,.slice A b.length cp),(4,vW 0),(5,vI (i:Int)),(6,vI (x.1:Int)),(8,vI (i:Int)),(9,.slice A b.length cp),(10,vI (b.length:Int)),(11,.bool (decide ((i:Int)<(b.length:Int)))),(14,vW c),(15,.slice A b.length cp),(16,vI (i:Int)),(17,.pointer (some (⟨h,j+i,none⟩))),(18,vB (b.getD i 0)),(19,vW (b.getD i 0)),(20,vW (xi c (b.getD i 0)))]) (fun(x:Nat × Int) w'=>aI [] r w'∧(x.1≤8)∧(x.2=((fY x.1 ((ex s b i).toNat ^^^ (b.getD i 0).toNat) : Nat) : Int))) (fun x=>8-x.1) (0,(xi c (b.getD i 0))) ⟨aI.refl _ _,(by(try dsimp only);omega),(by(try dsimp only);rw[q];rfl)⟩ ?_
 rintro⟨k,d⟩ L ⟨l,D,E⟩
 refine gi [(0,vW d),(1,.slice A b.length cp),(4,vW 0),(5,vI (i:Int)),(6,vI (k:Int)),(8,vI (i:Int)),(9,.slice A b.length cp),(10,vI (b.length:Int)),(11,.bool (decide ((i:Int)<(b.length:Int)))),(14,vW c),(15,.slice A b.length cp),(16,vI (i:Int)),(17,.pointer (some (⟨h,j+i,none⟩))),(18,vB (b.getD i 0)),(19,vW (b.getD i 0)),(20,vW (xi c (b.getD i 0)))] ?_
 have M:k≤8:=D
 have n:d=((fY k ((ex s b i).toNat ^^^ (b.getD i 0).toNat) : Nat) : Int):=E
 have hkl:=jL hxl k
 refine sq<|aB 2<|?_
 refine cb ((decide ((k:Int)<8))) (fun o=>?_) (fun o=>?_)
 have F:=of_decide_eq_true o
 refine bu<|sq<|bk<|aq 1<|L0<|Oe (vW (Int.tmod d 2)) (vW (d%2)) (congrArg (Value.int .u16) (Int.tmod_eq_emod_of_nonneg (by omega)))<|Pl 2<|aL 1<|L0<|Oe (vW (IntKind.u16.wrap (Int.tdiv d 2))) (vW (d/2)) (congrArg (Value.int .u16) (mz (by omega) (by omega)))<|Pl 1<|dk 1<|cb (((d%2)==1)) (fun e=>?_) (fun e=>?_)
 have G:=ag e
 refine go<|Pl 1<|?_
 have N:=DB (a:=(d/2)) (b:=40961) (by omega) (by omega)
 exact L0<|Oe (vW (bits .xor .u16 (d/2) 40961)) (vW (xi (d/2) 40961)) (congrArg (Value.int .u16) (pP (by omega) (by omega)))<|Pl 1<|nl<|bn<|tn<|go<|Pl 1<|bp ((k:Int)+1)<|Pl 1<|nl<|gK ((k+1),(xi (d/2) 40961)) ⟨l,(by(try dsimp only);omega),(xT n (jL hxl k) e)⟩ (by omega)
 have G:=ai e
 exact sk<|bn<|tn<|go<|Pl 1<|bp ((k:Int)+1)<|Pl 1<|nl<|gK ((k+1),(d/2)) ⟨l,(by(try dsimp only);omega),(zC n (jL hxl k) e)⟩ (by omega)
 have F:=of_decide_eq_false o
 refine xt<|tx<|tx<|bx<|bn<|tn<|go<|Pl 1<|bp ((i:Int)+1)<|Pl 1<|nl<|?_
 have hc8:d=ex s b (i+1):=wN hcr hbr (by rw[n,show k=8 from by omega])
 exact gK ((i+1),d) ⟨(aJ f l),(by(try dsimp only);omega),hc8,(by(try dsimp only);rw[hc8];exact kq hs hb _)⟩ (by omega)
 have z:=of_decide_eq_false g
 refine xt<|tx<|tx<|bx<|tn<|aB 2<|rt<|rr (vW c)<|?_
 have hk:c=cc s b:=by rw[q];exact s8 (by omega)
 rw[← hk]
 exact⟨rfl,f⟩
variable {v:Value}
theorem Cj(h:aV m w v b) : Calls Tryz.prog 189 #[.int .u16 65535,v] w (bS (.int .u16 (cc 65535 b)) w):=by
  obtain⟨A,cp,rfl,_,_⟩:=h.shape
  exact CS h (by decide)
theorem uO(h:2≤b.length)(hb:∀ x,x∈b→0≤x∧x<256) : dK b=((b.getD (((b.length:Nat) : Int)-2).toNat 0==(cc 65535 (b.take (((b.length:Nat) : Int)-2).toNat)%256)%256)&&(b.getD (((b.length:Nat) : Int)-1).toNat 0==(cc 65535 (b.take (((b.length:Nat) : Int)-2).toNat)/256)%256)):=by
  unfold dK cg
  rw[decide_eq_true h,Bool.true_and,show(((b.length:Nat) : Int)-2).toNat=b.length-2 from by omega,show(((b.length:Nat) : Int)-1).toNat=b.length-2+1 from by omega]
  have e:b.drop (b.length-2)=[b.getD (b.length-2) 0,b.getD (b.length-2+1) 0]:=by
    apply List.ext_getElem
    · simp;omega
    · intro i h1 h2
      simp only[List.length_cons,List.length_nil] at h2
      rw[List.getElem_drop]
      rcases i with _|_|i
      · simp[List.getD_eq_getElem?_getD,List.getElem?_eq_getElem (show b.length-2<b.length by omega)]
      · simp[List.getD_eq_getElem?_getD,List.getElem?_eq_getElem (show b.length-2+1<b.length by omega)]
      · omega
  rw[e,Bool.eq_iff_iff]
  simp only[decide_eq_true_eq,List.cons.injEq,and_true,Bool.and_eq_true,beq_iff_eq]
  constructor
  · rintro⟨h1,h2⟩
    exact⟨by rw[← h1];omega,by rw[← h2]⟩
  · rintro⟨h1,h2⟩
    exact⟨by rw[h1];omega,by rw[h2]⟩
theorem EQ(hsl:aV m w (.slice A b.length cp) b)(hl:b.length≤1048576)(hcp:b.length≤cp) :
    Calls Tryz.prog 127 #[.slice A b.length cp] w (bS (.bool (dK b)) w):=by
 have hln:=aT.len hsl
 have hb:=aV.range hsl
 refine en 34 Tryz.func127 rfl<|aq 1<|dk 3<|sq<|aB 2<|cb ((decide ((b.length:Int)<2))) (fun a=>?_) (fun a=>?_)
 have i:=of_decide_eq_true a
 refine aB 1<|b6<|rr (.bool false)<|?_
 have hs:dK b=false:=by unfold dK;rw[decide_eq_false (by omega)];rfl
 rw[hs]
 exact⟨rfl,(aI.refl [] _)⟩
 have i:=of_decide_eq_false a
 refine bu<|aq 2<|bp ((b.length:Int)-2)<|ny (Ce (P:=Tryz.prog) 27 5 1 Tryz.underlying27 rfl rfl A b.length cp (k:=((b.length:Int)-2)) ((((b.length:Int)-2)).toNat) (by omega) (by omega) (by omega)) fun f hrun12 g=>L0<|gr (.slice f ((((b.length:Int)-2)).toNat) cp) (sM (kl:=.i64) (k:=((b.length:Int)-2)) (A:=A) (n:=b.length) (c:=cp) rfl Tryz.underlying27 (by kernel_rfl) (by kernel_rfl) (hrun12 _ _))<|ay (args:=#[vW 65535,.slice f ((((b.length:Int)-2)).toNat) cp])<|m1 (Cj (g _ _ _ _ _ hsl)) fun z e=>?_
 have B:=iv (b.take ((((b.length:Int)-2)).toNat)) (s:=65535) (by decide) (aV.range (g _ _ _ _ _ hsl))
 refine Pl 1<|aL 2<|bp ((b.length:Int)-2)<|?_
 have h:=aV.old hsl e
 refine fo (aV.at_ h ((((b.length:Int)-2)).toNat) (by omega)) fun j l o q C=>L0<|vt b.length ((((b.length:Int)-2)).toNat) ((b.length:Int)-2) (by omega) o (by omega)<|L0<|fR (p:=⟨j,l+((((b.length:Int)-2)).toNat),none⟩) (v:=vB (b.getD ((((b.length:Int)-2)).toNat) 0)) q<|Pl 1<|L0<|Oe (vW (Int.tmod (cc 65535 (b.take ((((b.length:Int)-2)).toNat))) 256)) (vW ((cc 65535 (b.take ((((b.length:Int)-2)).toNat)))%256)) (congrArg (Value.int .u16) (Int.tmod_eq_emod_of_nonneg (by omega)))<|Pl 3<|bl 23 (((b.getD ((((b.length:Int)-2)).toNat) 0)==(((cc 65535 (b.take ((((b.length:Int)-2)).toNat)))%256)%256))) (fun d=>?_) (fun d=>?_)
 have r:=ag d
 refine Pl 2<|L1<|Oi ((b.length:Int)-1)<|fo (aV.at_ h ((((b.length:Int)-1)).toNat) (by omega)) fun t u x y D=>L1<|vt b.length ((((b.length:Int)-1)).toNat) ((b.length:Int)-1) (by omega) x (by omega)<|L1<|fR (p:=⟨t,u+((((b.length:Int)-1)).toNat),none⟩) (v:=vB (b.getD ((((b.length:Int)-1)).toNat) 0)) y<|Pl 1<|L1<|Oe (vW (IntKind.u16.wrap (Int.tdiv (cc 65535 (b.take ((((b.length:Int)-2)).toNat))) 256))) (vW ((cc 65535 (b.take ((((b.length:Int)-2)).toNat)))/256)) (congrArg (Value.int .u16) (mz (by omega) (by omega)))<|ah 4<|rt<|rr (.bool ((b.getD ((((b.length:Int)-1)).toNat) 0)==(((cc 65535 (b.take ((((b.length:Int)-2)).toNat)))/256)%256)))<|?_
 have hs:dK b=((b.getD ((((b.length:Int)-1)).toNat) 0)==(((cc 65535 (b.take ((((b.length:Int)-2)).toNat)))/256)%256)):=by rw[uO (by omega) hb];(try simp only[a,d,bi]);all_goals rfl
 rw[hs]
 exact⟨rfl,e⟩
 have r:=ai d
 refine ah 11<|rt<|rr (.bool false)<|?_
 have hs:dK b=false:=by rw[uO (by omega) hb];(try simp only[a,d,bi]);all_goals rfl
 rw[hs]
 exact⟨rfl,e⟩
theorem Fb(h:aV m w v b)(hb:b.length≤1048576) : Calls Tryz.prog 127 #[v] w (bS (.bool (dK b)) w):=by
  obtain⟨A,cp,rfl,hc,_⟩:=h.shape
  exact EQ h hb hc
open Go.RowKit
variable {dir:Int}
theorem rp(hsl:aV m w (.slice A b.length cp) b)(hb:b.length≤1048576)(hcp:b.length≤cp) :
    Calls Tryz.prog 88 #[vI dir,.slice A b.length cp] w (nC (.slice A b.length cp) b (e8 dir b) w):=by
 have hln:(b.length:Int)≤1048576:=by omega
 have hrb:=aV.range hsl
 refine en 49 Tryz.func88 rfl<|sg<|aK #[vB 0,vW 0,vB 0,vB 0,vW 0,vW 0,vW 0,vW 0,vW 0,vW 0,vW 0,vW 0,vW 0,vW 0,nS,nS,nS,nS,vB 0,vB 0,vB 0,vB 0,vB 0,nS] fun am an j e o=>Pl 1<|dk 3<|sq<|sq<|go<|Pl 3<|cu 3 [14] 17 (((dir != 0)&&(dir != 1))) (fun K B=>?_) ?_
 refine bl 14 ((dir != 0)) (fun p=>?_) (fun p=>?_)
 have T:=aA p
 exact Pl 3<|ce B (dir != 1) (by rw[p];rfl)
 have T:=aF p
 exact Pl 3<|ce B false (by rw[p];rfl)
 refine nt<|cb (((dir != 0)&&(dir != 1))) (fun d=>?_) (fun d=>?_)
 have C:=(b7 d).1
 have D:=(b7 d).2
 have ap:=aA C
 have au:=aA D
 refine aq 1<|aG e #[vB 0,vW 0,vB 0,vB 0,vW 0,vW 0,vW 0,vW 0,vW 0,vW 0,vW 0,vW 0,vW 0,vW 0,nS,nS,nS,nS,vB 0,vB 0,vB 0,vB 0,vB 0,nS] fun ax U V=>ah 1<|b6<|ck U (vI 1)<|?_
 have hs:e8 dir b=(cy.zero,1):=by
   unfold e8
   (try simp only[d,C,D,bi,bU,reduceIte])
   all_goals rfl
 refine fg hs ?_
 exact eD (ud o V j)
 refine bu<|sq<|aB 2<|cb ((decide ((b.length:Int)<4))) (fun f=>?_) (fun f=>?_)
 have W:=of_decide_eq_true f
 refine aq 1<|aG e #[vB 0,vW 0,vB 0,vB 0,vW 0,vW 0,vW 0,vW 0,vW 0,vW 0,vW 0,vW 0,vW 0,vW 0,nS,nS,nS,nS,vB 0,vB 0,vB 0,vB 0,vB 0,nS] fun aC X Y=>ah 1<|b6<|ck X (vI 2)<|?_
 have hs:e8 dir b=(cy.zero,2):=by
   unfold e8
   (try simp only[d,f,bi,bU,reduceIte])
   all_goals rfl
 refine fg hs ?_
 exact eD (ud o Y j)
 have W:=of_decide_eq_false f
 refine bu<|sq<|aB 2<|cb ((decide (256<(b.length:Int)))) (fun h=>?_) (fun h=>?_)
 have Z:=of_decide_eq_true h
 refine aq 1<|aG e #[vB 0,vW 0,vB 0,vB 0,vW 0,vW 0,vW 0,vW 0,vW 0,vW 0,vW 0,vW 0,vW 0,vW 0,nS,nS,nS,nS,vB 0,vB 0,vB 0,vB 0,vB 0,nS] fun aD a0 a1=>ah 1<|b6<|ck a0 (vI 3)<|?_
 have hs:e8 dir b=(cy.zero,3):=by
   unfold e8
   (try simp only[d,f,h,bi,bU,reduceIte])
   all_goals rfl
 refine fg hs ?_
 exact eD (ud o a1 j)
 have Z:=of_decide_eq_false h
 refine bu<|aq 1<|?_
 have E:=aV.old hsl o
 refine ay (args:=#[.slice A b.length cp])<|m1 (Fb E (by omega)) fun aE i=>ah 1<|sq<|aB 2<|?_
 have F:=aJ o i
 refine cb ((!(dK b))) (fun k=>?_) (fun k=>?_)
 have t:(dK b)=false:=by simpa using k
 refine aq 1<|?_
 refine aG (ub i e) #[vB 0,vW 0,vB 0,vB 0,vW 0,vW 0,vW 0,vW 0,vW 0,vW 0,vW 0,vW 0,vW 0,vW 0,nS,nS,nS,nS,vB 0,vB 0,vB 0,vB 0,vB 0,nS] fun aH a2 a3=>ah 1<|b6<|ck a2 (vI 10)<|?_
 have hs:e8 dir b=(cy.zero,10):=by
   unfold e8
   (try simp only[d,f,h,k,t,bi,bU,reduceIte])
   all_goals rfl
 refine fg hs ?_
 exact eD (ud F a3 j)
 have t:(dK b)=true:=by simpa using k
 refine bu<|aq 3<|bp ((b.length:Int)-2)<|ny (gl (P:=Tryz.prog) 27 5 1 Tryz.underlying27 rfl rfl A b.length cp (lo:=1) (up:=((b.length:Int)-2)) 1 ((((b.length:Int)-2)).toNat) (by omega) (by omega) (by omega) (by omega) (by omega)) fun a4 hrun43 G=>L0<|gr (.slice a4 (((((b.length:Int)-2)).toNat)-1) (cp-1)) (eW (kl:=.i64) (kh:=.i64) (lo:=1) (hi:=((b.length:Int)-2)) (A:=A) (n:=b.length) (c:=cp) rfl Tryz.underlying27 (by kernel_rfl) (by kernel_rfl) (by kernel_rfl) (hrun43 _ _ _))<|?_
 have H:=aV.old E i
 refine pr (ci dir ((b.take ((((b.length:Int)-2)).toNat)).drop 1)) fun a r y=>?_
 refine ay<|e2 (iH y (G _ _ _ _ _ H) (by rw[List.length_drop,List.length_take];omega)) fun x49 aI a5 z=>?_
 have a6:=bG.sub a5 (fun m' w' q=>(G _ _ _ _ _ q))
 refine Pl 3<|aK mZ fun I aL J a7 a8=>aG a7 (f5 a x49) fun aN a9 aa=>ah 1<|sq<|aB 2<|?_
 have L:=ud a8 aa J
 have u:=aJ z L
 have M:=aJ F u
 refine cb ((r != 0)) (fun s=>?_) (fun s=>?_)
 have ac:=aA s
 refine aq 2<|?_
 refine aG (ub (aJ i u) e) #[vB 0,vW 0,vB 0,vB 0,vW 0,vW 0,vW 0,vW 0,vW 0,vW 0,vW 0,vW 0,vW 0,vW 0,nS,nS,nS,nS,vB 0,vB 0,vB 0,vB 0,vB 0,nS] fun aO ae af=>ah 1<|b6<|ck ae (vI r)<|?_
 have hX2:ci dir (fI b)=(a,r):=(congrArg (ci dir) (j5 b)).trans y
 have hs:e8 dir b=(cy.zero,r):=by
   unfold e8
   (try simp only[d,f,h,k,t,s,bi,bU,hX2,reduceIte])
   all_goals rfl
 refine fg hs ?_
 exact eD (ud M af j)
 have ac:=aF s
 refine bu<|sq<|?_
 refine fo (aV.at_ (aV.old H u) 0 (by omega)) fun ag ai N aj aP=>Rg 8 (fun w'=>w'.cell? ⟨ag,ai+0,none⟩=some (vB (b.getD 0 0))∧w'.heap[I]? = some (.cells (f5 a x49) 45 (0,0))) fun aQ v=>?_
 have O:=ub v a9
 refine bv ⟨(uc v aj),O⟩ fun l=>Rt 0 l<|m0 1 l b.length 0 0 rfl N (by omega)<|Rl 2 l (fun _ hs=>hs.1)<|Rt 3 l<|Rr 4 l (.agg (f5 a x49)) (fun w' hs=>gS (g:=I) (off:=0) [vB a.code,vB a.fail,vW a.addr,vW a.count,vW a.value,vW a.and_,vW a.or_,vW a.addr2,vW a.sub,vW a.status,vW a.events,vW a.messages,.slice x49.aw a.words.length x49.kw,.slice x49.ab a.bits.length x49.kb,.slice x49.ad a.data.length x49.kd,.slice x49.ar a.recs.length x49.kr,vB a.mei,vB a.kind,vB a.level,vB a.more,vB a.next,.slice x49.ao a.objects.length x49.ko] rfl (by kernel_rfl) hs.2 (by kernel_rfl) (by kernel_rfl) rfl)<|Rt 5 l<|?_
 refine R0 6 rfl<|mb (ub (aJ i (aJ u v)) e) (dC (b.getD 0 0) 0 a x49) fun aR ak Q=>?_
 have R:=uz v Q
 have S:=ud M R j
 refine bv ⟨(cB (aV.old hsl S) N 0 (by omega)),(bj Q (Ne.symm (nb (az e) (le i.size z.size) J)) O)⟩ fun al=>Rt 7 al<|re<|tn<|rt<|ck ak (vI 0)<|?_
 have hX2:ci dir (fI b)=(a,r):=(congrArg (ci dir) (j5 b)).trans y
 have hs:e8 dir b=(⟨(b.getD 0 0),0,a⟩,0):=by
   unfold e8
   (try simp only[d,f,h,k,t,s,bi,bU,hX2,reduceIte])
   all_goals rfl
 refine fg hs ?_
 exact⟨x49,rfl,⟨(bG.upd a6 (uz L R) (av (b9 (ub (aJ i z) e) (by decide)) aM)),b8 (x:=(b.getD 0 0)) (by omega),cM (x:=0) (by omega)⟩,S⟩
theorem uj(h:aV m w v b)(hb:b.length≤1048576) : Calls Tryz.prog 88 #[.int .i64 dir,v] w (nC v b (e8 dir b) w):=by
  obtain⟨A,cp,rfl,hc,_⟩:=h.shape
  exact rp h hb hc
variable {E:Int}{F:cy}
theorem kJ(hX:e8 dir b=(F,E))(h:aV m w v b)(hb:b.length≤1048576) : Calls Tryz.prog 88 #[.int .i64 dir,v] w (fun e w'=>∃ x,e = .returned (.tuple #[.agg (dC F.unit F.tid F.msg x),.int .i64 E])∧(bG v b w' (f5 F.msg x).toList F.msg∧(0≤F.unit∧F.unit<256)∧(0≤F.tid∧F.tid<65536))∧aI [] w w'):=by
  refine(uj h hb).mono ?_
  rintro e w' ⟨x,rfl,h1,h2⟩
  rw[hX] at h1 ⊢
  exact⟨x,rfl,h1,h2⟩
open Go.RowKit
theorem jA(a c:Int)(t:List Int) : (ap.mk (a :: c :: t) false 0).wordV=a*256+c∧(ap.mk (a :: c :: t) false 0).wordsC 1=⟨t,false,0⟩:=by
  have hb:¬ (ap.mk (a :: c :: t) false 0).wbad 1=true:=by
    unfold ap.wbad
    simp only[Bool.or_eq_true,decide_eq_true_eq,List.length_cons,not_or]
    omega
  have hf:¬ (ap.mk (a :: c :: t) false 0).fails (2*1)=true:=by
    unfold ap.fails
    simp only[Bool.or_eq_true,decide_eq_true_eq,List.length_cons,not_or]
    exact⟨⟨by decide,by decide⟩,by omega⟩
  constructor
  · unfold ap.wordV ap.wordsR ap.bytesR
    rw[if_neg hb,if_neg hf]
    show(cw [a,c]).getD 0 0=_
    unfold cw
    rw[if_pos (by simp)]
    rfl
  · unfold ap.wordsC ap.bytesC
    rw[if_neg hb,if_neg hf]
    rfl
theorem uE(a:Int)(t:List Int) : (ap.mk (a :: t) false 0).byteV=a∧(ap.mk (a :: t) false 0).bytesC 1=⟨t,false,0⟩:=zb (b:=a :: t) (by simp)
theorem vY(t:List Int) : (ap.mk t false 0).bytesR ((t.length:Nat) : Int)=t:=by
  have hf:¬ (ap.mk t false 0).fails ((t.length:Nat) : Int)=true:=by
    unfold ap.fails
    simp only[Bool.or_eq_true,decide_eq_true_eq,not_or]
    exact⟨⟨by decide,by omega⟩,by omega⟩
  unfold ap.bytesR
  rw[if_neg hf]
  simp
def fs (dir:Int)(b:List Int) : cy × Int :=
  if dir != 0&&dir != 1 then (cy.zero,1)
  else if decide ((b.length:Int)<8) then (cy.zero,2)
  else if decide (260<(b.length:Int)) then (cy.zero,3)
  else if (b.getD 2 0 != 0)||(b.getD 3 0 != 0) then (cy.zero,13)
  else if ((256*b.getD 4 0)+b.getD 5 0)!=(b.length:Int)-6 then (cy.zero,5)
  else bU (b.getD 6 0) ((((256*b.getD 0 0)%65536)+b.getD 1 0)%65536) (ci dir (b.drop 7))
theorem fN(hr:∀ x,x∈b→0≤x∧x<256) : fs dir b=de dir b:=by
  unfold fs de
  split
  · rfl
  split
  · rfl
  rename_i hl
  split
  · rfl
  obtain⟨a0,a1,a2,a3,a4,a5,a6,t,rfl⟩ : ∃ a0 a1 a2 a3 a4 a5 a6 t,b=a0 :: a1 :: a2 :: a3 :: a4 :: a5 :: a6 :: t:=by
    rcases b with _|⟨a0,_|⟨a1,_|⟨a2,_|⟨a3,_|⟨a4,_|⟨a5,_|⟨a6,t⟩⟩⟩⟩⟩⟩⟩
    case cons.cons.cons.cons.cons.cons.cons=>exact⟨_,_,_,_,_,_,_,_,rfl⟩
    all_goals simp at hl
  have h0:=hr a0 (by simp)
  have h1:=hr a1 (by simp)
  have h2:=hr a2 (by simp)
  have h3:=hr a3 (by simp)
  have h4:=hr a4 (by simp)
  have h5:=hr a5 (by simp)
  have e1:x9 (a0 :: a1 :: a2 :: a3 :: a4 :: a5 :: a6 :: t)=⟨a2 :: a3 :: a4 :: a5 :: a6 :: t,false,0⟩:=(jA _ _ _).2
  have e2:v8 (a0 :: a1 :: a2 :: a3 :: a4 :: a5 :: a6 :: t)=⟨a4 :: a5 :: a6 :: t,false,0⟩:=by unfold v8;rw[e1];exact(jA _ _ _).2
  have e3:v4 (a0 :: a1 :: a2 :: a3 :: a4 :: a5 :: a6 :: t)=⟨a6 :: t,false,0⟩:=by unfold v4;rw[e2];exact(jA _ _ _).2
  have e4:xy (a0 :: a1 :: a2 :: a3 :: a4 :: a5 :: a6 :: t)=⟨t,false,0⟩:=by unfold xy;rw[e3];exact(uE _ _).2
  have v0:(we (a0 :: a1 :: a2 :: a3 :: a4 :: a5 :: a6 :: t)).wordV=a0*256+a1:=(jA _ _ _).1
  unfold lf
  rw[e1,e2,e3,e4,v0,(jA _ _ _).1,(jA _ _ _).1,(uE _ _).1,vY]
  show(if (a2 != 0)||(a3 != 0) then _ else if ((256*a4)+a5)!=_ then _ else bU a6 ((((256*a0)%65536)+a1)%65536) (ci dir t))=_
  rw[show((a2 != 0)||(a3 != 0))=(a2*256+a3 != 0) from by rw[Bool.eq_iff_iff];simp only[Bool.or_eq_true,bne_iff_ne,ne_eq];omega,show(256*a4)+a5=a4*256+a5 from by omega,show(((256*a0)%65536)+a1)%65536=a0*256+a1 from by omega]
def gL (dir:Int)(b:List Int) : cy × Int :=
  if dir != 0&&dir != 1 then (cy.zero,1)
  else if decide ((b.length:Int)<9) then (cy.zero,2)
  else if decide (513<(b.length:Int)) then (cy.zero,3)
  else if ((b.getD 0 0 != 58)||(b.getD ((b.length:Int)-2).toNat 0 != 13))||(b.getD ((b.length:Int)-1).toNat 0 != 10) then (cy.zero,12)
  else match bT ((b.take ((b.length:Int)-2).toNat).drop 1) with
    | none=>(cy.zero,11)
    | some x=>if !(eq x) then (cy.zero,10) else bU (x.getD 0 0) 0 (ci dir ((x.take ((x.length:Int)-1).toNat).drop 1))
theorem BQ(h:3≤b.length) : gj (b.drop 1)=((b.getD ((b.length:Int)-2).toNat 0==13)&&(b.getD ((b.length:Int)-1).toNat 0==10)):=by
  unfold gj
  rw[show((((b.drop 1).length:Nat) : Int)-2).toNat=b.length-3 from by simp only[List.length_drop];omega,List.drop_drop,show 1+(b.length-3)=b.length-2 from by omega,show((b.length:Int)-2).toNat=b.length-2 from by omega,show((b.length:Int)-1).toNat=b.length-2+1 from by omega,decide_eq_true (show 2≤(((b.drop 1).length:Nat) : Int) from by simp only[List.length_drop];omega),Bool.true_and]
  have e:b.drop (b.length-2)=[b.getD (b.length-2) 0,b.getD (b.length-2+1) 0]:=by
    apply List.ext_getElem
    · simp;omega
    · intro i h1 h2
      simp only[List.length_cons,List.length_nil] at h2
      rw[List.getElem_drop]
      rcases i with _|_|i
      · simp[List.getD_eq_getElem?_getD,List.getElem?_eq_getElem (show b.length-2<b.length by omega)]
      · simp[List.getD_eq_getElem?_getD,List.getElem?_eq_getElem (show b.length-2+1<b.length by omega)]
      · omega
  rw[e,Bool.eq_iff_iff]
  simp only[decide_eq_true_eq,List.cons.injEq,and_true,Bool.and_eq_true,beq_iff_eq]
theorem fJ:gL dir b=ew dir b:=by
  unfold gL ew
  split
  · rfl
  split
  · rfl
  rename_i hl
  have hl:9≤b.length:=by
    have:=of_decide_eq_false (by simpa using hl:decide ((b.length:Int)<9)=false)
    omega
  split
  · rfl
  have h2:=BQ (b:=b) (by omega)
  by_cases hc:(((b.getD 0 0 != 58)||(b.getD ((b.length:Int)-2).toNat 0 != 13))||(b.getD ((b.length:Int)-1).toNat 0 != 10))=true
  · rw[if_pos hc]
    have hd:i1 b=none:=by
      unfold i1
      rw[if_neg]
      rintro⟨k1,k2⟩
      rw[h2] at k2
      simp only[Bool.or_eq_true,bne_iff_ne,ne_eq,Bool.and_eq_true,beq_iff_eq] at hc k2
      rcases hc with(hc|hc) | hc
      · exact hc k1
      · exact hc k2.1
      · exact hc k2.2
    rw[hd]
  · rw[if_neg hc]
    simp only[Bool.or_eq_true,bne_iff_ne,ne_eq,not_or,Decidable.not_not] at hc
    have hd:i1 b=some ((b.take ((b.length:Int)-2).toNat).drop 1):=by
      unfold i1
      rw[if_pos ⟨hc.1.1,by rw[h2,hc.1.2,hc.2];rfl⟩,List.drop_take,show((b.length:Int)-2).toNat-1=b.length-3 from by omega]
    rw[hd]
    dsimp only
    cases bT ((b.take ((b.length:Int)-2).toNat).drop 1) with
    | none=>rfl
    | some x=>dsimp only;rw[kj]
open Go.RowKit
variable {w':World}
theorem i3.old{base:Nat}   {xs:List Int}(h:i3 base w v xs)(hu:aI [] w w') : i3 base w' v xs:=by
  obtain⟨g,cap,cur,n,h1,h2,h3,h4⟩:=h
  exact⟨g,cap,cur,n,h1,h2,hu.blk (by simp) h3,h4⟩
section
variable {P:Program}{n:Nat}{D:List Deferred}{F:Fr}{w:World}{K:Fr→World→Prop}{Q:Exit→Act→World→Prop}{d:Option Tmp}{t:TypeId}{s:String}{af:Array Edge}{gu:Option (Nat × Bool)}
end
open Go.RowKit
theorem zP{w:World}{c:Int}(hc:0≤c∧c<256) : Calls Tryz.prog 118 #[vB c] w (bS (vI (bW c)) w):=by
 refine en 23 Tryz.func118 rfl<|aB 1<|sq<|bk<|aq 3<|cu 3 [6] 9 (((decide (48≤c))&&(decide (c≤57)))) (fun K f=>?_) ?_
 refine bl 6 ((decide (48≤c))) (fun a=>?_) (fun a=>?_)
 have h:=of_decide_eq_true a
 exact Pl 3<|ce f (decide (c≤57)) (by rw[a];rfl)
 have h:=of_decide_eq_false a
 exact Pl 3<|ce f false (by rw[a];rfl)
 refine ah 1<|cb (((decide (48≤c))&&(decide (c≤57)))) (fun d=>?_) (fun d=>?_)
 have i:=(b7 d).1
 have j:=(b7 d).2
 have n:=of_decide_eq_true i
 have o:=of_decide_eq_true j
 refine aq 1<|bp c<|bp (c-48)<|ah 1<|rt<|br<|tr<|rr (vI (c-48))<|?_
 have hs:bW c=(c-48):=by unfold bW;(try simp only[Bool.and_eq_true,decide_eq_true_eq,Bool.and_eq_false_iff,decide_eq_false_iff_not] at *);(repeat' split)<;>omega
 rw[hs]
 exact⟨rfl,(aI.refl [] _)⟩
 refine aq 3<|cu 3 [16] 19 (((decide (65≤c))&&(decide (c≤70)))) (fun K g=>?_) ?_
 refine bl 16 ((decide (65≤c))) (fun b=>?_) (fun b=>?_)
 have k:=of_decide_eq_true b
 exact Pl 3<|ce g (decide (c≤70)) (by rw[b];rfl)
 have k:=of_decide_eq_false b
 exact Pl 3<|ce g false (by rw[b];rfl)
 refine ah 1<|cb (((decide (65≤c))&&(decide (c≤70)))) (fun e=>?_) (fun e=>?_)
 have l:=(b7 e).1
 have m:=(b7 e).2
 have p:=of_decide_eq_true l
 have q:=of_decide_eq_true m
 refine aq 1<|bp c<|bp (c-55)<|ah 1<|rt<|br<|tr<|rr (vI (c-55))<|?_
 have hs:bW c=(c-55):=by unfold bW;(try simp only[Bool.and_eq_true,decide_eq_true_eq,Bool.and_eq_false_iff,decide_eq_false_iff_not] at *);(repeat' split)<;>omega
 rw[hs]
 exact⟨rfl,(aI.refl [] _)⟩
 refine sk<|bn<|tn<|aB 1<|rt<|rr (vI (-1))<|?_
 have hs:bW c = -1:=by unfold bW;(try simp only[Bool.and_eq_true,decide_eq_true_eq,Bool.and_eq_false_iff,decide_eq_false_iff_not] at *);(repeat' split)<;>omega
 rw[hs]
 exact⟨rfl,(aI.refl [] _)⟩
theorem uD(c:Int) : -1≤bW c:=by
  unfold bW
  (repeat' split)<;>omega
theorem yh{xs:List Int}{w:World}(hr:dx xs)(hl:xs.length≤1048576) :
    Calls Tryz.prog 84 #[.string (strOfNums xs)] w (hH xs w):=by
 refine en 43 Tryz.func84 rfl<|aB 2<|sq<|aq 1<|L0<|Oe (vI (((strOfNums xs).size:Nat) : Int)) (vI (xs.length:Int)) (by rw[strOfNums_size])<|L0<|Oe (vI (Int.tmod (xs.length:Int) 2)) (vI ((xs.length:Int)%2)) (congrArg (Value.int .i64) (Int.tmod_eq_emod_of_nonneg (by omega)))<|Pl 1<|nl<|tn<|cb ((((xs.length:Int)%2)==1)) (fun d=>?_) (fun d=>?_)
 have v:=ag d
 refine aB 2<|b6<|rr (.tuple #[nS,vI 11])<|?_
 have hs:bT xs=none:=lm (by omega)
 exact mu hs ⟨rfl,(aI.refl [] _)⟩
 have v:=ai d
 refine bu<|aB 1<|sq<|aB 1<|bk<|je (fun x=>[(0,.string (strOfNums xs)),(4,.slice x.2.2.1 x.2.1.length x.2.2.2),(5,vI ((2*x.1:Nat) : Int))]) (fun(x:Nat × List Int × Option Addr × Nat) w'=>aI [] w w'∧eE w.heap.size w' (.slice x.2.2.1 x.2.1.length x.2.2.2) x.2.1∧(2*x.1≤xs.length)∧(bT xs=(bT (xs.drop (2*x.1))).map fun l=>x.2.1++l)∧(x.2.1.length=x.1)) (fun x=>xs.length-2*x.1) (0,[],none,0) ⟨aI.refl _ _,(aZ.nil w.heap.size _ _ xv _),(by(try dsimp only);omega),(by(try dsimp only);simp),(by(try dsimp only);rfl)⟩ ?_
 rintro⟨k,L,B,cq⟩ y ⟨f,z,A,C,D⟩
 refine gi [(0,.string (strOfNums xs)),(4,.slice B L.length cq),(5,vI ((2*k:Nat) : Int))] ?_
 have g:eE w.heap.size y (.slice B L.length cq) L:=z
 have R:2*k≤xs.length:=A
 have S:bT xs=(bT (xs.drop (2*k))).map fun l=>L++l:=C
 have T:L.length=k:=D
 have hL:bT xs=(bT (xs.drop (2*k))).map fun l=>L++l:=by assumption
 refine sq<|aq 1<|bp (((2*k:Nat) : Int)+1)<|Pl 1<|L0<|Oe (vI (((strOfNums xs).size:Nat) : Int)) (vI (xs.length:Int)) (by rw[strOfNums_size])<|ah 1<|cb ((decide ((((2*k:Nat) : Int)+1)<(xs.length:Int)))) (fun j=>?_) (fun j=>?_)
 have E:=of_decide_eq_true j
 refine bu<|sq<|bk<|aq 2<|L0<|gr (vB (xs.getD (2*k) 0)) (kZ (xs:=xs) (k:=.i64) (i:=((2*k:Nat) : Int)) (2*k) rfl Tryz.underlying9 (by kernel_rfl) (by kernel_rfl) hr rfl (by omega))<|?_
 have U:=kY (xs.getD (2*k) 0)
 have V:=uD (xs.getD (2*k) 0)
 refine ay<|m1 (zP (c:=(xs.getD (2*k) 0)) (w:=_) (fe (by omega) hr _)) fun W o=>Pl 1<|aL 2<|bp (((2*k:Nat) : Int)+1)<|L0<|gr (vB (xs.getD ((((2*k:Nat) : Int)+1)).toNat 0)) (kZ (xs:=xs) (k:=.i64) (i:=(((2*k:Nat) : Int)+1)) ((((2*k:Nat) : Int)+1)).toNat rfl Tryz.underlying9 (by kernel_rfl) (by kernel_rfl) hr (by omega) (by omega))<|?_
 have X:=kY (xs.getD ((((2*k:Nat) : Int)+1)).toNat 0)
 have Y:=uD (xs.getD ((((2*k:Nat) : Int)+1)).toNat 0)
 refine ay<|m1 (zP (c:=(xs.getD ((((2*k:Nat) : Int)+1)).toNat 0)) (w:=_) (fe (by omega) hr _)) fun Z p=>ah 1<|sq<|aq 3<|cu 3 [30] 33 ((((bW (xs.getD (2*k) 0))==(-1))||((bW (xs.getD ((((2*k:Nat) : Int)+1)).toNat 0))==(-1)))) (fun K r=>?_) ?_
 refine bl 30 (((bW (xs.getD (2*k) 0))==(-1))) (fun a=>?_) (fun a=>?_)
 have F:=ag a
 exact Pl 3<|ce r true (by rw[a];rfl)
 have F:=ai a
 exact Pl 3<|ce r ((bW (xs.getD ((((2*k:Nat) : Int)+1)).toNat 0))==(-1)) (by rw[a];rfl)
 refine nt<|?_
 have s:=aJ o p
 have t:=aJ f s
 refine cb ((((bW (xs.getD (2*k) 0))==(-1))||((bW (xs.getD ((((2*k:Nat) : Int)+1)).toNat 0))==(-1)))) (fun b=>?_) (fun b=>?_)
 refine aB 2<|b6<|br<|tr<|tr<|br<|tr<|rr (.tuple #[nS,vI 11])<|?_
 have hs:bT xs=none:=rB (k:=k) hL (by omega) (by have q:=b;simp only[Bool.or_eq_true,beq_iff_eq] at q;rw[show 2*k+1=(((2*k:Nat) : Int)+1).toNat from by omega];omega)
 exact mu hs ⟨rfl,t⟩
 have G:=(bL b).1
 have H:=(bL b).2
 have a0:=ai G
 have a1:=ai H
 refine bu<|go<|Pl 2<|bp (16*(bW (xs.getD (2*k) 0)))<|Pl 1<|bp ((16*(bW (xs.getD (2*k) 0)))+(bW (xs.getD ((((2*k:Nat) : Int)+1)).toNat 0)))<|Pl 1<|L0<|cX (m:=1) (e:=5) #[vB (((16*(bW (xs.getD (2*k) 0)))+(bW (xs.getD ((((2*k:Nat) : Int)+1)).toNat 0)))%256)] fun a2 a3 I J n=>?_
 have M:=cD I (xs:=[(((16*(bW (xs.getD (2*k) 0)))+(bW (xs.getD ((((2*k:Nat) : Int)+1)).toNat 0)))%256)]) (by as_aux_lemma=>kernel_rfl) (al (by omega) aP) (by(try simp only[List.length_cons,List.length_nil]);omega) J
 refine L0<|bK be (xs:=L) (ys:=([(((16*(bW (xs.getD (2*k) 0)))+(bW (xs.getD ((((2*k:Nat) : Int)+1)).toNat 0)))%256)])) (vB 0) 1 (au g (aJ s n) (fun x hx=>aE) (fun _ _ h=>h)) (M).rd (by(try simp only[bM,ax]);omega) (le (le (le f.size o.size) p.size) n.size) fun N O a4 P Q=>Pl 1<|nl<|bn<|tn<|go<|Pl 1<|bp (((2*k:Nat) : Int)+2)<|Pl 1<|nl<|?_
 have u:=nM (k:=k) hL (by omega) (by omega) (by rw[show 2*k+1=(((2*k:Nat) : Int)+1).toNat from by omega];omega)
 rw[show 2*k+1=(((2*k:Nat) : Int)+1).toNat from by omega] at u
 exact gK ((k+1),(L++[(((16*(bW (xs.getD (2*k) 0)))+(bW (xs.getD ((((2*k:Nat) : Int)+1)).toNat 0)))%256)]),N,O) ⟨(ut t (ut (aI.mono (S':=(ob B++[])) n aD) Q (am il aD)) (am (aU g lr) aD)),P,(by(try dsimp only);omega),u,(by(try dsimp only);simp only[bM];omega)⟩ (by omega)
 have E:=of_decide_eq_false j
 refine xt<|tx<|tx<|bx<|tn<|aB 3<|rt<|rr (.tuple #[.slice B L.length cq,vI 0])<|?_
 have hs:bT xs=some L:=pk hL (by omega)
 exact uM hs ⟨_,rfl,g,f⟩
theorem uQ{m:Md}{A:Option Addr}{cp:Nat}{b:List Int}{w:World}(hsl:aV m w (.slice A b.length cp) b) :
    Calls Tryz.prog 119 #[.slice A b.length cp] w (bS (vB (cv b)) w):=by
 have hln:=aT.len hsl
 have hb:=aV.range hsl
 refine en 23 Tryz.func119 rfl<|aq 1<|dk 1<|sq<|aB 1<|bk<|je (fun x=>[(0,.slice A b.length cp),(2,vB 0),(3,vI (gk b x)),(4,vI (x:Int))]) (fun(x:Nat) w'=>aI [] w w'∧(x≤b.length)) (fun x=>b.length-x) 0 ⟨aI.refl _ _,(by(try dsimp only);omega)⟩ ?_
 rintro k j ⟨a,d⟩
 refine gi [(0,.slice A b.length cp),(2,vB 0),(3,vI (gk b k)),(4,vI (k:Int))] ?_
 have l:k≤b.length:=d
 have hlr:=so b k
 refine sq<|aB 4<|cb ((decide ((k:Int)<(b.length:Int)))) (fun c=>?_) (fun c=>?_)
 have e:=of_decide_eq_true c
 refine bu<|sq<|bk<|go<|Pl 3<|?_
 exact fo (aV.at_ (aV.old hsl a) k (by omega)) fun f g h i n=>L0<|lc b.length k h (by omega)<|L0<|fR (p:=⟨f,g+k,none⟩) (v:=vB (b.getD k 0)) i<|bp (b.getD k 0)<|bp ((gk b k)+(b.getD k 0))<|L0<|Oe (vI (Int.tmod ((gk b k)+(b.getD k 0)) 256)) (vI (((gk b k)+(b.getD k 0))%256)) (congrArg (Value.int .i64) (Int.tmod_eq_emod_of_nonneg (by omega)))<|Pl 1<|nl<|bn<|tn<|go<|Pl 1<|bp ((k:Int)+1)<|Pl 1<|nl<|gK (k+1) ⟨a,(by(try dsimp only);omega)⟩ (by omega)
 have e:=of_decide_eq_false c
 refine xt<|tx<|tx<|bx<|tn<|aq 1<|bp (256-(gk b k))<|L0<|Oe (vI (Int.tmod (256-(gk b k)) 256)) (vI ((256-(gk b k))%256)) (congrArg (Value.int .i64) (Int.tmod_eq_emod_of_nonneg (by omega)))<|ah 2<|rt<|rr (vB (((256-(gk b k))%256)%256))<|?_
 have hk:k=b.length:=by omega
 subst hk
 have hs:cv b=(((256-(gk b b.length))%256)%256):=by unfold cv rY;omega
 rw[hs]
 exact⟨rfl,a⟩
theorem BC{m:Md}{A:Option Addr}{cp:Nat}{b:List Int}{w:World}(hsl:aV m w (.slice A b.length cp) b) :
    Calls Tryz.prog 85 #[.slice A b.length cp] w (bS (.bool (eq b)) w):=by
 have hln:=aT.len hsl
 refine en 9 Tryz.func85 rfl<|aB 1<|sq<|aB 3<|cb (((b.length:Int)==0)) (fun a=>?_) (fun a=>?_)
 have c:=ag a
 refine aB 1<|b6<|rr (.bool false)<|?_
 have hs:eq b=false:=by unfold eq;rw[decide_eq_false (by omega)];rfl
 rw[hs]
 exact⟨rfl,(aI.refl [] _)⟩
 have c:=ai a
 refine bu<|aq 1<|ay (args:=#[.slice A b.length cp])<|m1 (uQ hsl) fun e d=>ah 2<|rt<|rr (.bool ((cv b)==0))<|?_
 have hs:eq b=((cv b)==0):=by unfold eq;rw[decide_eq_true (by omega)];rfl
 rw[hs]
 exact⟨rfl,d⟩
open Go.RowKit
theorem s4{m:Md}{A:Option Addr}{cp:Nat}{b:List Int}{w:World}{dir:Int}(hsl:aV m w (.slice A b.length cp) b)(hb:b.length≤1048576)(hcp:b.length≤cp) :
    Calls Tryz.prog 57 #[vI dir,.slice A b.length cp] w (nO (ew dir b) w):=by
 have hln:(b.length:Int)≤1048576:=by omega
 have hr:dx b:=aV.range hsl
 refine en 86 Tryz.func57 rfl<|sg<|aK #[vB 0,vW 0,vB 0,vB 0,vW 0,vW 0,vW 0,vW 0,vW 0,vW 0,vW 0,vW 0,vW 0,vW 0,nS,nS,nS,nS,vB 0,vB 0,vB 0,vB 0,vB 0,nS] fun bx S l f q=>Pl 1<|dk 3<|sq<|sq<|go<|Pl 3<|cu 3 [16] 19 (((dir != 0)&&(dir != 1))) (fun K T=>?_) ?_
 refine bl 16 ((dir != 0)) (fun z=>?_) (fun z=>?_)
 have ac:=aA z
 exact Pl 3<|ce T (dir != 1) (by rw[z];rfl)
 have ac:=aF z
 exact Pl 3<|ce T false (by rw[z];rfl)
 refine nt<|cb (((dir != 0)&&(dir != 1))) (fun i=>?_) (fun i=>?_)
 have U:=(b7 i).1
 have V:=(b7 i).2
 have bz:=aA U
 have bA:=aA V
 refine aq 1<|aG f #[vB 0,vW 0,vB 0,vB 0,vW 0,vW 0,vW 0,vW 0,vW 0,vW 0,vW 0,vW 0,vW 0,vW 0,nS,nS,nS,nS,vB 0,vB 0,vB 0,vB 0,vB 0,nS] fun bB ae af=>ah 1<|b6<|ck ae (vI 1)<|?_
 have hs:gL dir b=(cy.zero,1):=by
   unfold gL
   (try simp only[i,U,V,bi,bU,reduceIte])
   all_goals rfl
 rw[← fJ]
 refine dH hs ?_
 exact cA (ud q af l)
 refine bu<|sq<|aB 2<|cb ((decide ((b.length:Int)<9))) (fun j=>?_) (fun j=>?_)
 have ag:=of_decide_eq_true j
 refine aq 1<|aG f #[vB 0,vW 0,vB 0,vB 0,vW 0,vW 0,vW 0,vW 0,vW 0,vW 0,vW 0,vW 0,vW 0,vW 0,nS,nS,nS,nS,vB 0,vB 0,vB 0,vB 0,vB 0,nS] fun bC ai aj=>ah 1<|b6<|ck ai (vI 2)<|?_
 have hs:gL dir b=(cy.zero,2):=by
   unfold gL
   (try simp only[i,j,bi,bU,reduceIte])
   all_goals rfl
 rw[← fJ]
 refine dH hs ?_
 exact cA (ud q aj l)
 have ag:=of_decide_eq_false j
 refine bu<|sq<|aB 2<|cb ((decide (513<(b.length:Int)))) (fun k=>?_) (fun k=>?_)
 have ak:=of_decide_eq_true k
 refine aq 1<|aG f #[vB 0,vW 0,vB 0,vB 0,vW 0,vW 0,vW 0,vW 0,vW 0,vW 0,vW 0,vW 0,vW 0,vW 0,nS,nS,nS,nS,vB 0,vB 0,vB 0,vB 0,vB 0,nS] fun bD al am=>ah 1<|b6<|ck al (vI 3)<|?_
 have hs:gL dir b=(cy.zero,3):=by
   unfold gL
   (try simp only[i,j,k,bi,bU,reduceIte])
   all_goals rfl
 rw[← fJ]
 refine dH hs ?_
 exact cA (ud q am l)
 have ak:=of_decide_eq_false k
 refine bu<|sq<|aq 1<|?_
 have t:=aV.old hsl q
 refine fo (aV.at_ t 0 (by omega)) fun an ap ax aC bE=>L0<|lc b.length 0 ax (by omega)<|L0<|fR (p:=⟨an,ap+0,none⟩) (v:=vB (b.getD 0 0)) aC<|Pl 2<|bl 31 (((b.getD 0 0)!=58)) (fun o=>?_) (fun o=>?_)
 have aD:=aA o
 refine ah 15<|c1<|aq 1<|aG f #[vB 0,vW 0,vB 0,vB 0,vW 0,vW 0,vW 0,vW 0,vW 0,vW 0,vW 0,vW 0,vW 0,vW 0,nS,nS,nS,nS,vB 0,vB 0,vB 0,vB 0,vB 0,nS] fun bF aI aL=>ah 1<|b6<|ck aI (vI 12)<|?_
 have hs:gL dir b=(cy.zero,12):=by
   unfold gL
   (try simp only[i,j,k,o,bi,bU,reduceIte])
   all_goals rfl
 rw[← fJ]
 refine dH hs ?_
 exact cA (ud q aL l)
 have aD:=aF o
 refine Pl 2<|L1<|Oi ((b.length:Int)-2)<|fo (aV.at_ t ((((b.length:Int)-2)).toNat) (by omega)) fun aN aP aQ aR bH=>L1<|vt b.length ((((b.length:Int)-2)).toNat) ((b.length:Int)-2) (by omega) aQ (by omega)<|L1<|fR (p:=⟨aN,aP+((((b.length:Int)-2)).toNat),none⟩) (v:=vB (b.getD ((((b.length:Int)-2)).toNat) 0)) aR<|Pl 3<|bl 39 (((b.getD ((((b.length:Int)-2)).toNat) 0)!=13)) (fun r=>?_) (fun r=>?_)
 have aS:=aA r
 refine ah 7<|c1<|aq 1<|aG f #[vB 0,vW 0,vB 0,vB 0,vW 0,vW 0,vW 0,vW 0,vW 0,vW 0,vW 0,vW 0,vW 0,vW 0,nS,nS,nS,nS,vB 0,vB 0,vB 0,vB 0,vB 0,nS] fun bI aT aU=>ah 1<|b6<|ck aT (vI 12)<|?_
 have hs:gL dir b=(cy.zero,12):=by
   unfold gL
   (try simp only[i,j,k,o,r,bi,bU,reduceIte])
   all_goals rfl
 rw[← fJ]
 refine dH hs ?_
 exact cA (ud q aU l)
 have aS:=aF r
 refine Pl 2<|L1<|Oi ((b.length:Int)-1)<|fo (aV.at_ t ((((b.length:Int)-1)).toNat) (by omega)) fun aW aX aY aZ bJ=>L1<|vt b.length ((((b.length:Int)-1)).toNat) ((b.length:Int)-1) (by omega) aY (by omega)<|L1<|fR (p:=⟨aW,aX+((((b.length:Int)-1)).toNat),none⟩) (v:=vB (b.getD ((((b.length:Int)-1)).toNat) 0)) aZ<|ah 2<|cb (((b.getD ((((b.length:Int)-1)).toNat) 0)!=10)) (fun s=>?_) (fun s=>?_)
 have b0:=aA s
 refine aq 1<|aG f #[vB 0,vW 0,vB 0,vB 0,vW 0,vW 0,vW 0,vW 0,vW 0,vW 0,vW 0,vW 0,vW 0,vW 0,nS,nS,nS,nS,vB 0,vB 0,vB 0,vB 0,vB 0,nS] fun bK b1 b2=>ah 1<|b6<|ck b1 (vI 12)<|?_
 have hs:gL dir b=(cy.zero,12):=by
   unfold gL
   (try simp only[i,j,k,o,r,s,bi,bU,reduceIte])
   all_goals rfl
 rw[← fJ]
 refine dH hs ?_
 exact cA (ud q b2 l)
 have b0:=aF s
 refine bu<|aq 2<|bp ((b.length:Int)-2)<|ny (gl (P:=Tryz.prog) 27 5 1 Tryz.underlying27 rfl rfl A b.length cp (lo:=1) (up:=((b.length:Int)-2)) 1 ((((b.length:Int)-2)).toNat) (by omega) (by omega) (by omega) (by omega) (by omega)) fun W hrun64 H=>L0<|gr (.slice W (((((b.length:Int)-2)).toNat)-1) (cp-1)) (eW (kl:=.i64) (kh:=.i64) (lo:=1) (hi:=((b.length:Int)-2)) (A:=A) (n:=b.length) (c:=cp) rfl Tryz.underlying27 (by kernel_rfl) (by kernel_rfl) (by kernel_rfl) (hrun64 _ _ _))<|L0<|gr (.string (strOfNums ((b.take ((((b.length:Int)-2)).toNat)).drop 1))) (cJ (A:=W) (n:=(((((b.length:Int)-2)).toNat)-1)) (c:=(cp-1)) rfl (by kernel_rfl) Tryz.underlying27 Tryz.underlying5 Tryz.underlying9 (H _ _ _ _ _ t))<|?_
 rcases hth:bT ((b.take ((((b.length:Int)-2)).toNat)).drop 1) with _|x
 have b3:=(yh (w:=S) (aV.range (H _ _ _ _ _ t)) (by rw[List.length_drop,List.length_take];omega)).mono (sP hth)
 refine ay<|m1 b3 fun bL X=>ah 5<|sq<|aB 2<|c1<|aq 2<|?_
 refine aG (ub X f) #[vB 0,vW 0,vB 0,vB 0,vW 0,vW 0,vW 0,vW 0,vW 0,vW 0,vW 0,vW 0,vW 0,vW 0,nS,nS,nS,nS,vB 0,vB 0,vB 0,vB 0,vB 0,nS] fun bM b4 b5=>ah 1<|b6<|ck b4 (vI 11)<|?_
 have hs:gL dir b=(cy.zero,11):=by
   unfold gL
   (try simp only[i,j,k,o,r,s,bi,bU,hth,reduceIte])
   all_goals rfl
 rw[← fJ]
 refine dH hs ?_
 exact cA (ud q (uz X b5) l)
 have hxl:2*x.length=(((b.take ((((b.length:Int)-2)).toNat)).drop 1)).length:=by have:=lu hth;omega
 have hxl2:(((b.take ((((b.length:Int)-2)).toNat)).drop 1)).length=b.length-3:=by rw[List.length_drop,List.length_take];omega
 have ba:=(yh (w:=S) (aV.range (H _ _ _ _ _ t)) (by rw[List.length_drop,List.length_take];omega)).mono (sj hth)
 refine ay<|dU ba fun I D bN J bO bP Y=>ah 5<|sq<|aB 2<|c0<|bu<|sq<|go<|Pl 1<|ay (args:=#[.slice I x.length D])<|m1 (BC (J).rd) fun bQ L=>ah 1<|sq<|aB 2<|?_
 have B:=aJ Y L
 have Z:=aJ q B
 refine cb ((!(eq x))) (fun u=>?_) (fun u=>?_)
 have E:(eq x)=false:=by simpa using u
 refine aq 1<|?_
 refine aG (ub B f) #[vB 0,vW 0,vB 0,vB 0,vW 0,vW 0,vW 0,vW 0,vW 0,vW 0,vW 0,vW 0,vW 0,vW 0,nS,nS,nS,nS,vB 0,vB 0,vB 0,vB 0,vB 0,nS] fun bR bb bc=>ah 1<|b6<|ck bb (vI 10)<|?_
 have hs:gL dir b=(cy.zero,10):=by
   unfold gL
   (try simp only[i,j,k,o,r,s,u,E,bi,bU,hth,reduceIte])
   all_goals rfl
 rw[← fJ]
 refine dH hs ?_
 exact cA (ud Z bc l)
 have E:(eq x)=true:=by simpa using u
 refine bu<|aq 4<|bp ((x.length:Int)-1)<|ny (gl (P:=Tryz.prog) 27 5 1 Tryz.underlying27 rfl rfl I x.length D (lo:=1) (up:=((x.length:Int)-1)) 1 ((((x.length:Int)-1)).toNat) (by omega) (by omega) (by omega) (by omega) (by omega)) fun bd hrun96 a0=>L0<|gr (.slice bd (((((x.length:Int)-1)).toNat)-1) (D-1)) (eW (kl:=.i64) (kh:=.i64) (lo:=1) (hi:=((x.length:Int)-1)) (A:=I) (n:=x.length) (c:=D) rfl Tryz.underlying27 (by kernel_rfl) (by kernel_rfl) (by kernel_rfl) (hrun96 _ _ _))<|?_
 have a1:=au J L (fun x hx=>aE) (fun _ _ h=>h)
 refine pr (ci dir ((x.take ((((x.length:Int)-1)).toNat)).drop 1)) fun a M N=>?_
 refine ay<|e2 (iH N (a0 _ _ _ _ _ (a1).rd) (by rw[List.length_drop,List.length_take];omega)) fun d bS be F=>?_
 have a2:=au a1 F (fun x hx=>aE) (fun _ _ h=>h)
 refine Pl 3<|aK mZ fun a3 bV a4 bf bg=>aG bf (f5 a d) fun bW bh bk=>ah 1<|sq<|aB 2<|?_
 have O:=ud bg bk a4
 have Q:=aJ F O
 have a5:=aJ Z Q
 refine cb ((M != 0)) (fun C=>?_) (fun C=>?_)
 have bm:=aA C
 refine aq 2<|?_
 refine aG (ub (aJ B Q) f) #[vB 0,vW 0,vB 0,vB 0,vW 0,vW 0,vW 0,vW 0,vW 0,vW 0,vW 0,vW 0,vW 0,vW 0,nS,nS,nS,nS,vB 0,vB 0,vB 0,vB 0,vB 0,nS] fun bX bn bo=>ah 1<|b6<|ck bn (vI M)<|?_
 have hs:gL dir b=(cy.zero,M):=by
   unfold gL
   (try simp only[i,j,k,o,r,s,u,E,C,bi,bU,hth,N,reduceIte])
   all_goals rfl
 rw[← fJ]
 refine dH hs ?_
 exact cA (ud a5 bo l)
 have bm:=aF C
 refine bu<|sq<|?_
 have a6:=au a2 O (fun x hx=>aE) (fun _ _ h=>h)
 refine fo (aV.at_ (a6).rd 0 (by omega)) fun bq br a7 bs bY=>Rg 8 (fun w'=>w'.cell? ⟨bq,br+0,none⟩=some (vB (x.getD 0 0))∧w'.heap[a3]? = some (.cells (f5 a d) 45 (0,0))) fun bZ G=>?_
 have a8:=ub G bh
 refine bv ⟨(uc G bs),a8⟩ fun y=>Rt 0 y<|m0 1 y x.length 0 0 rfl a7 (by omega)<|Rl 2 y (fun _ hs=>hs.1)<|Rt 3 y<|Rr 4 y (.agg (f5 a d)) (fun w' hs=>gS (g:=a3) (off:=0) [vB a.code,vB a.fail,vW a.addr,vW a.count,vW a.value,vW a.and_,vW a.or_,vW a.addr2,vW a.sub,vW a.status,vW a.events,vW a.messages,.slice d.aw a.words.length d.kw,.slice d.ab a.bits.length d.kb,.slice d.ad a.data.length d.kd,.slice d.ar a.recs.length d.kr,vB a.mei,vB a.kind,vB a.level,vB a.more,vB a.next,.slice d.ao a.objects.length d.ko] rfl (by kernel_rfl) hs.2 (by kernel_rfl) (by kernel_rfl) rfl)<|Rt 5 y<|?_
 refine R0 6 rfl<|mb (ub (aJ B (aJ Q G)) f) (dC (x.getD 0 0) 0 a d) fun c2 bt a9=>?_
 have R:=uz G a9
 refine bv ⟨(cB ((au a6 R (fun x hx=>(aa (fun e=>(aO (az f) lr J) (e▸hx)) aE)) (fun _ _ h=>h))).rd a7 0 (by omega)),(bj a9 (Ne.symm (nb (az f) (le (le Y.size L.size) F.size) a4)) a8)⟩ fun bw=>Rt 7 bw<|re<|tn<|rt<|ck bt (vI 0)<|?_
 have hs:gL dir b=(⟨(x.getD 0 0),0,a⟩,0):=by
   unfold gL
   (try simp only[i,j,k,o,r,s,u,E,C,bi,bU,hth,N,reduceIte])
   all_goals rfl
 rw[← fJ]
 refine dH hs ?_
 exact⟨_,rfl,⟨f5 a d,(by as_aux_lemma=>kernel_rfl),(aH.upd (bG.rdt be (a0 _ _ _ _ _ (a2).rd)) (uz O R) (av (b9 (ub (aJ B F) f) (by decide)) aM)),b8 (x:=(x.getD 0 0)) (by omega),cM (x:=0) (by omega)⟩,(ud a5 R l)⟩
theorem tg{m:Md}{v:Value}{b:List Int}{w:World}{dir:Int}(h:aV m w v b)(hb:b.length≤1048576) : Calls Tryz.prog 57 #[.int .i64 dir,v] w (nO (ew dir b) w):=by
  obtain⟨A,cp,rfl,hc,_⟩:=h.shape
  exact s4 h hb hc
theorem kQ{m:Md}{v:Value}{b:List Int}{w:World}{dir:Int}{F:cy}{E:Int}(hX:ew dir b=(F,E))(h:aV m w v b)(hb:b.length≤1048576) : Calls Tryz.prog 57 #[.int .i64 dir,v] w (fun e w'=>∃ x,e = .returned (.tuple #[.agg (dC F.unit F.tid F.msg x),.int .i64 E])∧(aH true w' (f5 F.msg x).toList F.msg∧(0≤F.unit∧F.unit<256)∧(0≤F.tid∧F.tid<65536))∧aI [] w w'):=by
  refine(tg h hb).mono ?_
  rintro e w' ⟨cs,rfl,h1,h2⟩
  rw[hX] at h1 ⊢
  obtain⟨c,rfl,h3,h4,h5⟩:=h1
  obtain⟨x,rfl⟩:=nU h3
  exact⟨x,by rw[gZ],⟨h3,h4,h5⟩,h2⟩
open Go.RowKit
theorem pZ{m:Md}{A:Option Addr}{cp:Nat}{b:List Int}{w:World}{dir:Int}(hsl:aV m w (.slice A b.length cp) b)(hb:b.length≤1048576)(hcp:b.length≤cp) :
    Calls Tryz.prog 53 #[vI dir,.slice A b.length cp] w (nC (.slice A b.length cp) b (de dir b) w):=by
 have hln:(b.length:Int)≤1048576:=by omega
 have hrb:=aV.range hsl
 refine en 76 Tryz.func53 rfl<|sg<|aK #[vB 0,vW 0,vB 0,vB 0,vW 0,vW 0,vW 0,vW 0,vW 0,vW 0,vW 0,vW 0,vW 0,vW 0,nS,nS,nS,nS,vB 0,vB 0,vB 0,vB 0,vB 0,nS] fun bm bn o h s=>Pl 1<|dk 3<|sq<|sq<|go<|Pl 3<|cu 3 [13] 16 (((dir != 0)&&(dir != 1))) (fun K J=>?_) ?_
 refine bl 13 ((dir != 0)) (fun z=>?_) (fun z=>?_)
 have a2:=aA z
 exact Pl 3<|ce J (dir != 1) (by rw[z];rfl)
 have a2:=aF z
 exact Pl 3<|ce J false (by rw[z];rfl)
 refine nt<|cb (((dir != 0)&&(dir != 1))) (fun f=>?_) (fun f=>?_)
 have L:=(b7 f).1
 have M:=(b7 f).2
 have bo:=aA L
 have bp:=aA M
 refine aq 1<|aG h #[vB 0,vW 0,vB 0,vB 0,vW 0,vW 0,vW 0,vW 0,vW 0,vW 0,vW 0,vW 0,vW 0,vW 0,nS,nS,nS,nS,vB 0,vB 0,vB 0,vB 0,vB 0,nS] fun bq a3 a4=>ah 1<|b6<|ck a3 (vI 1)<|?_
 have hs:fs dir b=(cy.zero,1):=by
   unfold fs
   (try simp only[f,L,M,bi,bU,reduceIte])
   all_goals rfl
 rw[← fN hrb]
 refine fg hs ?_
 exact eD (ud s a4 o)
 refine bu<|sq<|aB 2<|cb ((decide ((b.length:Int)<8))) (fun i=>?_) (fun i=>?_)
 have a5:=of_decide_eq_true i
 refine aq 1<|aG h #[vB 0,vW 0,vB 0,vB 0,vW 0,vW 0,vW 0,vW 0,vW 0,vW 0,vW 0,vW 0,vW 0,vW 0,nS,nS,nS,nS,vB 0,vB 0,vB 0,vB 0,vB 0,nS] fun br a6 a7=>ah 1<|b6<|ck a6 (vI 2)<|?_
 have hs:fs dir b=(cy.zero,2):=by
   unfold fs
   (try simp only[f,i,bi,bU,reduceIte])
   all_goals rfl
 rw[← fN hrb]
 refine fg hs ?_
 exact eD (ud s a7 o)
 have a5:=of_decide_eq_false i
 refine bu<|sq<|aB 2<|cb ((decide (260<(b.length:Int)))) (fun j=>?_) (fun j=>?_)
 have a8:=of_decide_eq_true j
 refine aq 1<|aG h #[vB 0,vW 0,vB 0,vB 0,vW 0,vW 0,vW 0,vW 0,vW 0,vW 0,vW 0,vW 0,vW 0,vW 0,nS,nS,nS,nS,vB 0,vB 0,vB 0,vB 0,vB 0,nS] fun bs a9 aa=>ah 1<|b6<|ck a9 (vI 3)<|?_
 have hs:fs dir b=(cy.zero,3):=by
   unfold fs
   (try simp only[f,i,j,bi,bU,reduceIte])
   all_goals rfl
 rw[← fN hrb]
 refine fg hs ?_
 exact eD (ud s aa o)
 have a8:=of_decide_eq_false j
 refine bu<|sq<|aq 1<|?_
 have B:=aV.old hsl s
 refine fo (aV.at_ B 2 (by omega)) fun ac ae af ag bt=>L0<|lc b.length 2 af (by omega)<|L0<|fR (p:=⟨ac,ae+2,none⟩) (v:=vB (b.getD 2 0)) ag<|Pl 2<|bl 28 (((b.getD 2 0)!=0)) (fun r=>?_) (fun r=>?_)
 have ai:=aA r
 refine ah 5<|c1<|aq 1<|aG h #[vB 0,vW 0,vB 0,vB 0,vW 0,vW 0,vW 0,vW 0,vW 0,vW 0,vW 0,vW 0,vW 0,vW 0,nS,nS,nS,nS,vB 0,vB 0,vB 0,vB 0,vB 0,nS] fun bw aj ak=>ah 1<|b6<|ck aj (vI 13)<|?_
 have hs:fs dir b=(cy.zero,13):=by
   unfold fs
   (try simp only[f,i,j,r,bi,bU,reduceIte])
   all_goals rfl
 rw[← fN hrb]
 refine fg hs ?_
 exact eD (ud s ak o)
 have ai:=aF r
 refine Pl 1<|fo (aV.at_ B 3 (by omega)) fun al am an ap bx=>L1<|lc b.length 3 an (by omega)<|L1<|fR (p:=⟨al,am+3,none⟩) (v:=vB (b.getD 3 0)) ap<|ah 2<|cb (((b.getD 3 0)!=0)) (fun t=>?_) (fun t=>?_)
 have au:=aA t
 refine aq 1<|aG h #[vB 0,vW 0,vB 0,vB 0,vW 0,vW 0,vW 0,vW 0,vW 0,vW 0,vW 0,vW 0,vW 0,vW 0,nS,nS,nS,nS,vB 0,vB 0,vB 0,vB 0,vB 0,nS] fun bz ax aC=>ah 1<|b6<|ck ax (vI 13)<|?_
 have hs:fs dir b=(cy.zero,13):=by
   unfold fs
   (try simp only[f,i,j,r,t,bi,bU,reduceIte])
   all_goals rfl
 rw[← fN hrb]
 refine fg hs ?_
 exact eD (ud s aC o)
 have au:=aF t
 refine bu<|sq<|sq<|fo (aV.at_ B 4 (by omega)) fun aD aE aH aI bA=>fo (aV.at_ B 5 (by omega)) fun aL aN aO aP bB=>Rg 13 (fun w'=>w'.cell? ⟨aD,aE+4,none⟩=some (vB (b.getD 4 0))∧w'.cell? ⟨aL,aN+5,none⟩=some (vB (b.getD 5 0))) fun bC l=>bv ⟨(uc l aI),(uc l aP)⟩ fun e=>Rt 0 e<|m0 1 e b.length 4 4 rfl aH (by omega)<|Rl 2 e (fun _ hs=>hs.1)<|Rr 3 e (vI (b.getD 4 0)) (fun _ _=>bO (vI (IntKind.i64.wrap (b.getD 4 0))) (by kernel_rfl) (congrArg (Value.int .i64) (i64_in (by omega))))<|Rr 4 e (vI (256*(b.getD 4 0))) (fun _ _=>bO (vI (IntKind.i64.wrap (256*(b.getD 4 0)))) (by kernel_rfl) (congrArg (Value.int .i64) (IntWalk.i64_in _ (by omega))))<|Rt 5 e<|m0 6 e b.length 5 5 rfl aO (by omega)<|Rl 7 e (fun _ hs=>hs.2)<|Rr 8 e (vI (b.getD 5 0)) (fun _ _=>bO (vI (IntKind.i64.wrap (b.getD 5 0))) (by kernel_rfl) (congrArg (Value.int .i64) (i64_in (by omega))))<|Rr 9 e (vI ((256*(b.getD 4 0))+(b.getD 5 0))) (fun _ _=>bO (vI (IntKind.i64.wrap ((256*(b.getD 4 0))+(b.getD 5 0)))) (by kernel_rfl) (congrArg (Value.int .i64) (IntWalk.i64_in _ (by omega))))<|Rt 10 e<|Rr 11 e (vI ((b.length:Int)-6)) (fun _ _=>bO (vI (IntKind.i64.wrap ((b.length:Int)-6))) (by kernel_rfl) (congrArg (Value.int .i64) (IntWalk.i64_in _ (by omega))))<|Rt 12 e<|re<|tn<|?_
 have N:=aJ s l
 refine cb ((((256*(b.getD 4 0))+(b.getD 5 0))!=((b.length:Int)-6))) (fun u=>?_) (fun u=>?_)
 have aQ:=aA u
 refine aq 1<|?_
 refine aG (ub l h) #[vB 0,vW 0,vB 0,vB 0,vW 0,vW 0,vW 0,vW 0,vW 0,vW 0,vW 0,vW 0,vW 0,vW 0,nS,nS,nS,nS,vB 0,vB 0,vB 0,vB 0,vB 0,nS] fun bD aR aS=>ah 1<|b6<|ck aR (vI 5)<|?_
 have hs:fs dir b=(cy.zero,5):=by
   unfold fs
   (try simp only[f,i,j,r,t,u,bi,bU,reduceIte])
   all_goals rfl
 rw[← fN hrb]
 refine fg hs ?_
 exact eD (ud N aS o)
 have aQ:=aF u
 refine bu<|aq 2<|ny (eh (P:=Tryz.prog) 27 5 1 Tryz.underlying27 rfl rfl A b.length cp 7 (by omega)) fun aT hrun84 O=>L0<|gr (.slice aT (b.length-7) (cp-7)) (eC (kl:=.i64) (k:=((7:Nat) : Int)) (A:=A) (n:=b.length) (c:=cp) rfl Tryz.underlying27 (by kernel_rfl) (by kernel_rfl) (hrun84 _ _))<|?_
 have Q:=aV.old B l
 refine pr (ci dir (b.drop 7)) fun a E F=>?_
 refine ay<|e2 (iH F (O _ _ _ _ _ Q) (by rw[List.length_drop];omega)) fun x90 bE aU G=>?_
 have aW:=bG.sub aU (fun m' w' q=>(O _ _ _ _ _ q))
 refine Pl 3<|aK mZ fun R bF S aX aY=>aG aX (f5 a x90) fun bH aZ b0=>ah 1<|sq<|aB 2<|?_
 have T:=ud aY b0 S
 have D:=aJ G T
 have U:=aJ N D
 refine cb ((E != 0)) (fun C=>?_) (fun C=>?_)
 have b1:=aA C
 refine aq 2<|?_
 refine aG (ub (aJ l D) h) #[vB 0,vW 0,vB 0,vB 0,vW 0,vW 0,vW 0,vW 0,vW 0,vW 0,vW 0,vW 0,vW 0,vW 0,nS,nS,nS,nS,vB 0,vB 0,vB 0,vB 0,vB 0,nS] fun bI b2 b3=>ah 1<|b6<|ck b2 (vI E)<|?_
 have hs:fs dir b=(cy.zero,E):=by
   unfold fs
   (try simp only[f,i,j,r,t,u,C,bi,bU,F,reduceIte])
   all_goals rfl
 rw[← fN hrb]
 refine fg hs ?_
 exact eD (ud U b3 o)
 have b1:=aF C
 refine bu<|sq<|?_
 have H:=aV.old Q D
 refine fo (aV.at_ H 6 (by omega)) fun b4 b5 V ba bJ=>fo (aV.at_ H 0 (by omega)) fun bb bc W bd bK=>fo (aV.at_ H 1 (by omega)) fun be bf X bg bL=>Rg 18 (fun w'=>w'.cell? ⟨b4,b5+6,none⟩=some (vB (b.getD 6 0))∧w'.cell? ⟨bb,bc+0,none⟩=some (vB (b.getD 0 0))∧w'.cell? ⟨be,bf+1,none⟩=some (vB (b.getD 1 0))∧w'.heap[R]? = some (.cells (f5 a x90) 45 (0,0))) fun bM y=>?_
 have Y:=ub y aZ
 refine bv ⟨(uc y ba),(uc y bd),(uc y bg),Y⟩ fun d=>Rt 0 d<|m0 1 d b.length 6 6 rfl V (by omega)<|Rl 2 d (fun _ hs=>hs.1)<|Rt 3 d<|m0 4 d b.length 0 0 rfl W (by omega)<|Rl 5 d (fun _ hs=>hs.2.1)<|Rr 6 d (vW (b.getD 0 0)) (fun _ _=>bO (vW (IntKind.u16.wrap (b.getD 0 0))) (by kernel_rfl) (congrArg (Value.int .u16) (jl (by omega))))<|Rt 7 d<|Rt 8 d<|m0 9 d b.length 1 1 rfl X (by omega)<|Rl 10 d (fun _ hs=>hs.2.2.1)<|Rr 11 d (vW (b.getD 1 0)) (fun _ _=>bO (vW (IntKind.u16.wrap (b.getD 1 0))) (by kernel_rfl) (congrArg (Value.int .u16) (jl (by omega))))<|Rt 12 d<|Rt 13 d<|Rr 14 d (.agg (f5 a x90)) (fun w' hs=>gS (g:=R) (off:=0) [vB a.code,vB a.fail,vW a.addr,vW a.count,vW a.value,vW a.and_,vW a.or_,vW a.addr2,vW a.sub,vW a.status,vW a.events,vW a.messages,.slice x90.aw a.words.length x90.kw,.slice x90.ab a.bits.length x90.kb,.slice x90.ad a.data.length x90.kd,.slice x90.ar a.recs.length x90.kr,vB a.mei,vB a.kind,vB a.level,vB a.more,vB a.next,.slice x90.ao a.objects.length x90.ko] rfl (by kernel_rfl) hs.2.2.2 (by kernel_rfl) (by kernel_rfl) rfl)<|Rt 15 d<|?_
 refine R0 16 rfl<|mb (ub (aJ l (aJ D y)) h) (dC (b.getD 6 0) ((((256*(b.getD 0 0))%65536)+(b.getD 1 0))%65536) a x90) fun bN bh Z=>?_
 have a0:=uz y Z
 have a1:=ud U a0 o
 have I:=aV.old hsl a1
 refine bv ⟨(cB I V 6 (by omega)),(cB I W 0 (by omega)),(cB I X 1 (by omega)),(bj Z (Ne.symm (nb (az h) (le l.size G.size) S)) Y)⟩ fun bk=>Rt 17 bk<|re<|tn<|rt<|ck bh (vI 0)<|?_
 have hs:fs dir b=(⟨(b.getD 6 0),((((256*(b.getD 0 0))%65536)+(b.getD 1 0))%65536),a⟩,0):=by
   unfold fs
   (try simp only[f,i,j,r,t,u,C,bi,bU,F,reduceIte])
   all_goals rfl
 rw[← fN hrb]
 refine fg hs ?_
 exact⟨x90,rfl,⟨(bG.upd aW (uz T a0) (av (b9 (ub (aJ l G) h) (by decide)) aM)),b8 (x:=(b.getD 6 0)) (by omega),cM (x:=((((256*(b.getD 0 0))%65536)+(b.getD 1 0))%65536)) (by omega)⟩,a1⟩
theorem ro{m:Md}{v:Value}{b:List Int}{w:World}{dir:Int}(h:aV m w v b)(hb:b.length≤1048576) : Calls Tryz.prog 53 #[.int .i64 dir,v] w (nC v b (de dir b) w):=by
  obtain⟨A,cp,rfl,hc,_⟩:=h.shape
  exact pZ h hb hc
theorem jR{m:Md}{v:Value}{b:List Int}{w:World}{dir:Int}{F:cy}{E:Int}(hX:de dir b=(F,E))(h:aV m w v b)(hb:b.length≤1048576) : Calls Tryz.prog 53 #[.int .i64 dir,v] w (fun e w'=>∃ x,e = .returned (.tuple #[.agg (dC F.unit F.tid F.msg x),.int .i64 E])∧(bG v b w' (f5 F.msg x).toList F.msg∧(0≤F.unit∧F.unit<256)∧(0≤F.tid∧F.tid<65536))∧aI [] w w'):=by
  refine(ro h hb).mono ?_
  rintro e w' ⟨x,rfl,h1,h2⟩
  rw[hX] at h1 ⊢
  exact⟨x,rfl,h1,h2⟩
open Go.RowKit
theorem aH.flz{m:Md}{w:World}{cs:List Value}{M:aS}(h:aH m w cs M) : aH false w cs M:=by
  obtain⟨vw,vb,vd,vr,vo,h0,h1,h2,h3,h4,h5,h6⟩:=h
  exact⟨vw,vb,vd,vr,vo,h0,aT.any h1 fun _ _ q=>q,aT.any h2 fun _ _ q=>q,aT.any h3 fun _ _ q=>q,aT.any h4 fun r cs ⟨v,a,b,c⟩=>⟨v,a,aT.any b fun _ _ q=>q,c⟩,aT.any h5 fun r cs ⟨v,a,b,c⟩=>⟨v,a,aT.any b fun _ _ q=>q,c⟩,h6⟩
theorem rL{k:Int}{m:Md}{A:Option Addr}{cp:Nat}{b:List Int}{w:World}{dir:Int}{F:cy}{E:Int}(hX:ja k dir b=(F,E))(hsl:aV m w (.slice A b.length cp) b)(hb:b.length≤1048576) :
    Calls Tryz.prog 63 #[vI k,vI dir,.slice A b.length cp] w (fun e w'=>∃ x,e = .returned (.tuple #[.agg (dC F.unit F.tid F.msg x),vI E])∧(aH false w' (f5 F.msg x).toList F.msg∧(0≤F.unit∧F.unit<256)∧(0≤F.tid∧F.tid<65536))∧aI [] w w'):=by
 have hln:(b.length:Int)≤1048576:=by omega
 refine en 31 Tryz.func63 rfl<|sg<|aK #[vB 0,vW 0,vB 0,vB 0,vW 0,vW 0,vW 0,vW 0,vW 0,vW 0,vW 0,vW 0,vW 0,vW 0,nS,nS,nS,nS,vB 0,vB 0,vB 0,vB 0,vB 0,nS] fun a4 a5 g h a=>ah 1<|sq<|aB 1<|bk<|aB 2<|cb ((k==0)) (fun c=>?_) (fun c=>?_)
 have H:=ag c
 refine aq 2<|?_
 refine pr (e8 dir b) fun i I n=>?_
 refine ay<|e2 (kJ n (aV.old hsl a) (by omega)) fun x20 a6 J o=>?_
 obtain⟨K,L,M⟩:=J
 refine Pl 2<|?_
 have p:=ub o h
 refine aG p (dC i.unit i.tid i.msg x20) fun a7 N q=>ah 1<|rt<|br<|tr<|ck N (vI I)<|?_
 have r:=ud a (uz o q) g
 unfold ja at hX
 simp only[c,cond_true,cond_false] at hX
 obtain⟨rfl,rfl⟩:=Prod.mk.inj (n.symm.trans hX)
 exact⟨x20,rfl,⟨(bG.rd (bG.upd K q (av (b9 p (by decide)) aM)) (aV.old hsl r)),L,M⟩,r⟩
 have H:=ai c
 refine aB 2<|cb ((k==1)) (fun d=>?_) (fun d=>?_)
 have O:=ag d
 refine aq 2<|?_
 refine pr (ew dir b) fun j P s=>?_
 refine ay<|e2 (kQ s (aV.old hsl a) (by omega)) fun x41 a8 Q t=>?_
 obtain⟨R,S,T⟩:=Q
 refine Pl 2<|?_
 have u:=ub t h
 refine aG u (dC j.unit j.tid j.msg x41) fun a9 U v=>ah 1<|rt<|br<|tr<|ck U (vI P)<|?_
 unfold ja at hX
 simp only[c,d,cond_true,cond_false] at hX
 obtain⟨rfl,rfl⟩:=Prod.mk.inj (s.symm.trans hX)
 exact⟨x41,rfl,⟨(aH.flz (aH.upd R v (av (b9 u (by decide)) aM))),S,T⟩,(ud a (uz t v) g)⟩
 have O:=ai d
 refine aB 2<|cb ((k==2)) (fun f=>?_) (fun f=>?_)
 have V:=ag f
 refine aq 2<|?_
 refine pr (de dir b) fun l W y=>?_
 refine ay<|e2 (jR y (aV.old hsl a) (by omega)) fun x61 aa X z=>?_
 obtain⟨Y,Z,a0⟩:=X
 refine Pl 2<|?_
 have B:=ub z h
 refine aG B (dC l.unit l.tid l.msg x61) fun ab a1 C=>ah 1<|rt<|br<|tr<|ck a1 (vI W)<|?_
 have D:=ud a (uz z C) g
 unfold ja at hX
 simp only[c,d,f,cond_true,cond_false] at hX
 obtain⟨rfl,rfl⟩:=Prod.mk.inj (y.symm.trans hX)
 exact⟨x61,rfl,⟨(bG.rd (bG.upd Y C (av (b9 B (by decide)) aM)) (aV.old hsl D)),Z,a0⟩,D⟩
 have V:=ai f
 refine sk<|bn<|tn<|aq 1<|aG h #[vB 0,vW 0,vB 0,vB 0,vW 0,vW 0,vW 0,vW 0,vW 0,vW 0,vW 0,vW 0,vW 0,vW 0,nS,nS,nS,nS,vB 0,vB 0,vB 0,vB 0,vB 0,nS] fun ac a2 a3=>ah 1<|rt<|ck a2 (vI 1)<|?_
 have G:=ud a a3 g
 unfold ja at hX
 simp only[c,d,f,cond_true,cond_false] at hX
 obtain⟨rfl,rfl⟩:=Prod.mk.inj hX
 exact⟨EV,(by kernel_rfl),⟨bG.rd (bG.zero _ _ _) (aV.old hsl G),(show(0:Int)≤0∧(0:Int)<256 from by decide),(show(0:Int)≤0∧(0:Int)<65536 from by decide)⟩,G⟩
theorem qA{k:Int}{m:Md}{v:Value}{b:List Int}{w:World}{dir:Int}{F:cy}{E:Int}(hX:ja k dir b=(F,E))(h:aV m w v b)(hb:b.length≤1048576) : Calls Tryz.prog 63 #[.int .i64 k,.int .i64 dir,v] w (fun e w'=>∃ x,e = .returned (.tuple #[.agg (dC F.unit F.tid F.msg x),.int .i64 E])∧(aH false w' (f5 F.msg x).toList F.msg∧(0≤F.unit∧F.unit<256)∧(0≤F.tid∧F.tid<65536))∧aI [] w w'):=by
  obtain⟨A,cp,rfl,_,_⟩:=h.shape
  exact rL hX h hb
open Go.RowKit
theorem y4{xs L:List Int}{k:Nat}(h:L=aN (xs.take k))(h1:¬ ((k:Nat) : Int)<((xs.length:Nat) : Int)) : L=aN xs:=by
  rw[h,List.take_of_length_le (by omega)]
theorem DS{m:Md}{A:Option Addr}{cp:Nat}{xs:List Int}{w:World}(h:eF m w (.slice A xs.length cp) xs)(hn:xs.length≤1048576) : Calls Tryz.prog 129 #[.slice A xs.length cp] w (CU xs w):=by
 refine en 27 Tryz.func129 rfl<|aq 1<|dk 1<|sq<|aB 1<|bk<|je (fun x=>[(0,.slice A xs.length cp),(2,nS),(3,.slice x.2.2.1 x.2.1.length x.2.2.2),(4,vI (x.1:Int))]) (fun(x:Nat × List Int × Option Addr × Nat) w'=>aI [] w w'∧eE w.heap.size w' (.slice x.2.2.1 x.2.1.length x.2.2.2) x.2.1∧(x.1≤xs.length)∧(x.2.1=aN (xs.take x.1))) (fun x=>xs.length-x.1) (0,[],none,0) ⟨aI.refl _ _,(aZ.nil w.heap.size _ _ xv _),(by(try dsimp only);omega),rfl⟩ ?_
 rintro⟨k,L,B,cq⟩ o ⟨b,p,q,r⟩
 refine gi [(0,.slice A xs.length cp),(2,nS),(3,.slice B L.length cq),(4,vI (k:Int))] ?_
 have d:eE w.heap.size o (.slice B L.length cq) L:=p
 have H:k≤xs.length:=q
 have I:L=aN (xs.take k):=r
 have hL:L=aN (xs.take k):=by assumption
 have hLn:L.length=2*k:=by rw[hL,ax,List.length_take];omega
 refine sq<|aB 4<|cb ((decide ((k:Int)<(xs.length:Int)))) (fun c=>?_) (fun c=>?_)
 have s:=of_decide_eq_true c
 refine bu<|sq<|bk<|?_
 refine fo (eF.at_ (eF.old h b) k (by omega)) fun t u f j J=>Rg 16 (fun w'=>w'.cell? ⟨t,u+k,none⟩=some (vW (xs.getD k 0))) fun K g=>bv (uc g j) fun a=>Rt 0 a<|Rt 1 a<|Rt 2 a<|m0 3 a xs.length k (k:Int) rfl f (by omega)<|Rl 4 a (fun _ hs=>hs)<|Rr 5 a (vW ((xs.getD k 0)/256)) (fun _ _=>bO (vW (IntKind.u16.wrap (Int.tdiv (xs.getD k 0) 256))) (by kernel_rfl) (congrArg (Value.int .u16) (mz (by omega) (by omega))))<|Rt 6 a<|Rt 7 a<|Rt 8 a<|m0 9 a xs.length k (k:Int) rfl f (by omega)<|Rl 10 a (fun _ hs=>hs)<|Rr 11 a (vW ((xs.getD k 0)%256)) (fun _ _=>bO (vW (Int.tmod (xs.getD k 0) 256)) (by kernel_rfl) (congrArg (Value.int .u16) (Int.tmod_eq_emod_of_nonneg (by omega))))<|Rt 12 a<|R0 13 rfl<|cX (m:=2) (e:=5) #[vB (((xs.getD k 0)/256)%256),vB (((xs.getD k 0)%256)%256)] fun M N v y l=>?_
 have z:=cD v (xs:=[(((xs.getD k 0)/256)%256),(((xs.getD k 0)%256)%256)]) (by as_aux_lemma=>kernel_rfl) (al (by omega) (al (by omega) aP)) (by(try simp only[List.length_cons,List.length_nil]);omega) y
 have i:=aJ g l
 refine bv (uc i j) fun O=>?_
 refine R0 14 rfl<|bK be (xs:=L) (ys:=([(((xs.getD k 0)/256)%256),(((xs.getD k 0)%256)%256)])) (vB 0) 1 (au d i (fun x hx=>aE) (fun _ _ h=>h)) (z).rd (by(try simp only[bM,ax]);omega) (le (le b.size g.size) l.size) fun C D P E F=>?_
 have n:=ut b (ut (aI.mono (S':=(ob B++[])) i aD) F (am il aD)) (am (aU d lr) aD)
 exact bv (cW (eF.old h n) f k (by omega)) fun G=>Rt 15 G<|re<|bn<|tn<|go<|Pl 1<|bp ((k:Int)+1)<|Pl 1<|nl<|gK ((k+1),(L++[(((xs.getD k 0)/256)%256),(((xs.getD k 0)%256)%256)]),C,D) ⟨n,E,(by(try dsimp only);omega),(by(try dsimp only);rw[show((xs.getD k 0)/256)%256=(xs.getD k 0)/256 from by omega,show((xs.getD k 0)%256)%256=(xs.getD k 0)%256 from by omega,oS xs k (by omega),← hL])⟩ (by omega)
 have s:=of_decide_eq_false c
 refine xt<|tx<|tx<|bx<|tn<|aB 2<|rt<|rr (.slice B L.length cq)<|?_
 have hs:L=aN xs:=y4 hL (of_decide_eq_false c)
 exact⟨_,rfl,by rw[← hs];exact d,b⟩
theorem i2{m:Md}{v:Value}{xs:List Int}{w:World}(h:eF m w v xs)(hn:xs.length≤1048576) : Calls Tryz.prog 129 #[v] w (CU xs w):=by
  obtain⟨A,cp,rfl,_,_⟩:=h.shape
  exact DS h hn
open Go.RowKit
def eu (dir:Int)(M:aS) : List Int :=
  if M.code==1 || M.code==2 then (if dir==1 then [(M.data.length:Int)%256]++M.data else aN [M.addr,M.count])
  else if M.code==5 then aN [M.addr,M.value]
  else if M.code==15 then (if dir==0 then (aN [M.addr,M.count]++[((bP M.bits).length:Int)%256])++bP M.bits else aN [M.addr,M.count])
  else aN [M.addr,M.count]
def fi (dir:Int)(M:aS) : List Int :=
  if M.code==8 then aN ([M.sub]++M.words)
  else if dir==0 then []
  else if M.code==7 then [M.value%256]
  else if M.code==11 then aN [M.status,M.events]
  else if M.code==12 then (([((M.data.length:Int)+6)%256]++aN [M.status,M.events,M.messages])++M.data)
  else [(M.data.length:Int)%256]++M.data
def dW (dir:Int)(M:aS) : List Int :=
  if dir==1&&((M.code==3 || M.code==4)||M.code==23) then (aN []++[(2*(M.words.length:Int))%256])++aN M.words
  else if (M.code==3 || M.code==4)||(M.code==16&&dir==1) then aN [M.addr,M.count]
  else if M.code==6 then aN [M.addr,M.value]
  else if M.code==16 then ((aN [M.addr,M.count]++[(2*(M.words.length:Int))%256])++aN M.words)
  else if M.code==22 then aN [M.addr,M.and_,M.or_]
  else if M.code==23 then ((aN [M.addr,M.count,M.addr2,(M.words.length:Int)%65536]++[(2*(M.words.length:Int))%256])++aN M.words)
  else if M.code==24&&dir==0 then aN [M.addr]
  else if M.code==24 then aN [(2*(M.words.length:Int)+2)%65536,(M.words.length:Int)%65536]++aN M.words
  else (aN []++[(2*(M.words.length:Int))%256])++aN M.words
theorem ua{m:Md}{cs:Array Value}{M:aS}{w:World}{dir:Int}(h:aH m w cs.toList M)(hf:bh M) : Calls Tryz.prog 184 #[vI dir,.agg cs] w (jP (eu dir M) w):=by
 refine fC h fun Aw kw Ab kb Ad kd Ar kr Ao ko e hw hbt hd hr ho _ _ _ _ _ _ _ _ _ _ q0 q1 q2 q3 q4 q5 q6 q7 q8 q9 ar av aw az aA aF aG=>?_
 subst e
 have hf1:=hf.words
 have hf2:=hf.bits
 have hf3:=hf.data
 have hf4:=hf.recs
 have hf5:=hf.objects
 refine en 52 Tryz.func184 rfl<|sg<|L0<|cY (mG M.code M.fail M.addr M.count M.value M.and_ M.or_ M.addr2 M.sub M.status M.events M.messages (.slice Aw M.words.length kw) (.slice Ab M.bits.length kb) (.slice Ad M.data.length kd) (.slice Ar M.recs.length kr) M.mei M.kind M.level M.more M.next (.slice Ao M.objects.length ko)) fun aK aM aO t c=>Pl 1<|aL 1<|aC t 2<|Pl 1<|aC t 3<|L0<|cX (m:=2) (e:=37) #[vW M.addr,vW M.count] fun aQ aR K L d=>?_
 have N:=eH K (xs:=[M.addr,M.count]) (by as_aux_lemma=>kernel_rfl) (al (by omega) (al (by omega) aP)) (by(try simp only[List.length_cons,List.length_nil]);omega) L
 refine ay<|dU (i2 (xs:=[M.addr,M.count]) (N).rd (by(try simp only[bM]);omega)) fun i q aT j aW aX r=>ah 1<|sq<|aq 1<|?_
 have A:=aJ d r
 have g:=ub A t
 refine aC g 0<|nt<|bk<|sq<|aB 2<|?_
 have a:=aJ c A
 refine cb ((M.code==1)) (fun b=>?_) (fun b=>?_)
 have O:=ag b
 refine bu<|ct b<|aB 2<|cb ((dir==1)) (fun n=>?_) (fun n=>?_)
 have P:=ag n
 refine aq 1<|aC g 14<|Pl 2<|L0<|cX (m:=1) (e:=5) #[vB ((M.data.length:Int)%256)] fun aY b0 Q R u=>?_
 have B:=cD Q (xs:=[((M.data.length:Int)%256)]) (by as_aux_lemma=>kernel_rfl) (al (by omega) aP) (by(try simp only[List.length_cons,List.length_nil]);omega) R
 refine Pl 1<|?_
 refine aC (ub u g) 14<|?_
 have C:=aJ a u
 refine L0<|bK be (xs:=([((M.data.length:Int)%256)])) (ys:=M.data) (vB 0) 1 B (aV.old hd C) (by(try simp only[bM,ax]);omega) u.size fun S T b1 U V=>ah 1<|rt<|br<|tr<|rr (.slice S (([((M.data.length:Int)%256)]++M.data).length) T)<|?_
 exact cI (by unfold eu;(try simp only[b,n,bi,Bool.or_true,Bool.true_or,Bool.or_false,Bool.false_or,Bool.and_true,Bool.true_and,Bool.and_false,Bool.false_and,reduceIte])<;>rfl) ⟨_,rfl,(aZ.weaken U a.size),(ut C V (am (aU B a.size) aD))⟩
 have P:=ai n
 exact sk<|bn<|tn<|aB 2<|rt<|rr (.slice i ((aN ([M.addr,M.count])).length) q)<|cI (by unfold eu;(try simp only[b,n,bi,Bool.or_true,Bool.true_or,Bool.or_false,Bool.false_or,Bool.and_true,Bool.true_and,Bool.and_false,Bool.false_and,reduceIte])<;>rfl) ⟨_,rfl,(aZ.weaken j (le c.size d.size)),a⟩
 have O:=ai b
 refine go<|ah 2<|cb ((M.code==2)) (fun f=>?_) (fun f=>?_)
 have W:=ag f
 refine aB 2<|cb ((dir==1)) (fun o=>?_) (fun o=>?_)
 have X:=ag o
 refine aq 1<|aC g 14<|Pl 2<|L0<|cX (m:=1) (e:=5) #[vB ((M.data.length:Int)%256)] fun b2 b3 Y Z v=>?_
 have D:=cD Y (xs:=[((M.data.length:Int)%256)]) (by as_aux_lemma=>kernel_rfl) (al (by omega) aP) (by(try simp only[List.length_cons,List.length_nil]);omega) Z
 refine Pl 1<|?_
 refine aC (ub v g) 14<|?_
 have E:=aJ a v
 refine L0<|bK be (xs:=([((M.data.length:Int)%256)])) (ys:=M.data) (vB 0) 1 D (aV.old hd E) (by(try simp only[bM,ax]);omega) v.size fun a0 a1 b4 a2 a3=>ah 1<|rt<|br<|tr<|rr (.slice a0 (([((M.data.length:Int)%256)]++M.data).length) a1)<|?_
 exact cI (by unfold eu;(try simp only[b,f,o,bi,Bool.or_true,Bool.true_or,Bool.or_false,Bool.false_or,Bool.and_true,Bool.true_and,Bool.and_false,Bool.false_and,reduceIte])<;>rfl) ⟨_,rfl,(aZ.weaken a2 a.size),(ut E a3 (am (aU D a.size) aD))⟩
 have X:=ai o
 exact sk<|bn<|tn<|aB 2<|rt<|rr (.slice i ((aN ([M.addr,M.count])).length) q)<|cI (by unfold eu;(try simp only[b,f,o,bi,Bool.or_true,Bool.true_or,Bool.or_false,Bool.false_or,Bool.and_true,Bool.true_and,Bool.and_false,Bool.false_and,reduceIte])<;>rfl) ⟨_,rfl,(aZ.weaken j (le c.size d.size)),a⟩
 have W:=ai f
 refine aB 2<|cb ((M.code==5)) (fun k=>?_) (fun k=>?_)
 have a4:=ag k
 refine aq 1<|aC g 2<|Pl 1<|aC g 4<|L0<|cX (m:=2) (e:=37) #[vW M.addr,vW M.value] fun b5 b6 a5 a6 F=>?_
 have a7:=eH a5 (xs:=[M.addr,M.value]) (by as_aux_lemma=>kernel_rfl) (al (by omega) (al (by omega) aP)) (by(try simp only[List.length_cons,List.length_nil]);omega) a6
 refine ay<|dU (i2 (xs:=[M.addr,M.value]) (a7).rd (by(try simp only[bM]);omega)) fun a8 a9 b7 aa b8 b9 ab=>ah 1<|rt<|br<|tr<|rr (.slice a8 ((aN ([M.addr,M.value])).length) a9)<|?_
 exact cI (by unfold eu;(try simp only[b,f,k,bi,Bool.or_true,Bool.true_or,Bool.or_false,Bool.false_or,Bool.and_true,Bool.true_and,Bool.and_false,Bool.false_and,reduceIte])<;>rfl) ⟨_,rfl,(aZ.weaken aa (le (le (le c.size d.size) r.size) F.size)),(aJ a (aJ F ab))⟩
 have a4:=ai k
 refine aB 2<|cb ((M.code==15)) (fun l=>?_) (fun l=>?_)
 have ac:=ag l
 refine aB 2<|cb ((dir==0)) (fun p=>?_) (fun p=>?_)
 have ad:=ag p
 refine aq 1<|aC g 13<|?_
 refine ay<|dU (Cg (jc.old hbt a) (by omega)) fun ba bb bc G bd bf y=>?_
 have bg:(bP M.bits).length≤1024:=by simp only[bP,List.length_map,List.length_range,ep];omega
 refine Pl 1<|aL 4<|L0<|cX (m:=1) (e:=5) #[vB (((bP M.bits).length:Int)%256)] fun bj bl ae af s=>?_
 have aj:=cD ae (xs:=[(((bP M.bits).length:Int)%256)]) (by as_aux_lemma=>kernel_rfl) (al (by omega) aP) (by(try simp only[List.length_cons,List.length_nil]);omega) af
 have H:=aJ y s
 refine L0<|bK be (xs:=(aN ([M.addr,M.count]))) (ys:=([(((bP M.bits).length:Int)%256)])) (vB 0) 1 (au j H (fun x hx=>aE) (fun _ _ h=>h)) (aj).rd (by(try simp only[bM,ax]);omega) (le (le r.size y.size) s.size) fun I bm bo J z=>Pl 1<|?_
 refine L0<|bK be (xs:=((aN ([M.addr,M.count]))++[(((bP M.bits).length:Int)%256)])) (ys:=(bP M.bits)) (vB 0) 1 J ((au G (ut (aI.mono (S':=(ob i++[])) s aD) z (am il aD)) (fun x hx=>(bA ((jY G j lr) x hx) aE)) (fun _ _ h=>h))).rd (by(try simp only[bM,ax]);omega) (le (le (le r.size y.size) s.size) z.size) fun ak an bp ao ap=>ah 1<|rt<|br<|tr<|rr (.slice ak ((((aN ([M.addr,M.count]))++[(((bP M.bits).length:Int)%256)])++(bP M.bits)).length) an)<|?_
 exact cI (by unfold eu;(try simp only[b,f,k,l,p,bi,Bool.or_true,Bool.true_or,Bool.or_false,Bool.false_or,Bool.and_true,Bool.true_and,Bool.and_false,Bool.false_and,reduceIte])<;>rfl) ⟨_,rfl,(aZ.weaken ao (le c.size d.size)),(ut a (ut (aI.mono (S':=(ob i++(ob I++[]))) H aD) (ut (aI.mono (S':=(ob i++(ob I++[]))) z (am il aD)) ap (am il aD)) (am il (am il aD))) (am (aU j (le c.size d.size)) (am (aU J (le c.size d.size)) aD)))⟩
 have ad:=ai p
 exact sk<|bn<|tn<|aB 2<|rt<|rr (.slice i ((aN ([M.addr,M.count])).length) q)<|cI (by unfold eu;(try simp only[b,f,k,l,p,bi,Bool.or_true,Bool.true_or,Bool.or_false,Bool.false_or,Bool.and_true,Bool.true_and,Bool.and_false,Bool.false_and,reduceIte])<;>rfl) ⟨_,rfl,(aZ.weaken j (le c.size d.size)),a⟩
 have ac:=ai l
 exact sk<|bn<|tn<|aB 2<|rt<|rr (.slice i ((aN ([M.addr,M.count])).length) q)<|cI (by unfold eu;(try simp only[b,f,k,l,bi,Bool.or_true,Bool.true_or,Bool.or_false,Bool.false_or,Bool.and_true,Bool.true_and,Bool.and_false,Bool.false_and,reduceIte])<;>rfl) ⟨_,rfl,(aZ.weaken j (le c.size d.size)),a⟩
theorem vS{m:Md}{cs:Array Value}{M:aS}{w:World}{dir:Int}(h:aH m w cs.toList M)(hf:bh M) : Calls Tryz.prog 186 #[vI dir,.agg cs] w (jP (fi dir M) w):=by
 refine fC h fun Aw kw Ab kb Ad kd Ar kr Ao ko e hw hbt hd hr ho _ _ _ _ _ _ _ _ _ _ q0 q1 q2 q3 q4 q5 q6 q7 q8 q9 bL bN bP bQ bR bS bT=>?_
 subst e
 have hf1:=hf.words
 have hf2:=hf.bits
 have hf3:=hf.data
 have hf4:=hf.recs
 have hf5:=hf.objects
 refine en 63 Tryz.func186 rfl<|sg<|L0<|cY (mG M.code M.fail M.addr M.count M.value M.and_ M.or_ M.addr2 M.sub M.status M.events M.messages (.slice Aw M.words.length kw) (.slice Ab M.bits.length kb) (.slice Ad M.data.length kd) (.slice Ar M.recs.length kr) M.mei M.kind M.level M.more M.next (.slice Ao M.objects.length ko)) fun C bU bV b a=>ah 1<|sq<|aq 1<|aC b 0<|Pl 1<|nl<|tn<|cb ((M.code==8)) (fun d=>?_) (fun d=>?_)
 have a9:=ag d
 refine aq 1<|aC b 8<|L0<|cX (m:=1) (e:=37) #[vW M.sub] fun bW bX aa ab D=>?_
 have P:=eH aa (xs:=[M.sub]) (by as_aux_lemma=>kernel_rfl) (al (by omega) aP) (by(try simp only[List.length_cons,List.length_nil]);omega) ab
 refine Pl 1<|?_
 refine aC (ub D b) 12<|?_
 have Q:=aJ a D
 refine L0<|bK qg (xs:=([M.sub])) (ys:=M.words) (vW 0) 2 P (eF.old hw Q) (by(try simp only[bM,ax]);omega) D.size fun bY bZ c0 ac R=>ay<|dU (i2 (xs:=([M.sub]++M.words)) (ac).rd (by(try simp only[bM]);omega)) fun ad af c1 aj c2 c3 ak=>ah 1<|b6<|rr (.slice ad ((aN ([M.sub]++M.words)).length) af)<|?_
 exact cI (by unfold fi;(try simp only[d,bi,Bool.or_true,Bool.true_or,Bool.or_false,Bool.false_or,Bool.and_true,Bool.true_and,Bool.and_false,Bool.false_and,reduceIte])<;>rfl) ⟨_,rfl,(aZ.weaken aj (le (le a.size D.size) R.size)),(ut Q (aJ R ak) (am (aU P a.size) aD))⟩
 have a9:=ai d
 refine bu<|sq<|aB 2<|cb ((dir==0)) (fun g=>?_) (fun g=>?_)
 have an:=ag g
 exact aB 1<|b6<|rr nS<|cI (by unfold fi;(try simp only[d,g,bi,Bool.or_true,Bool.true_or,Bool.or_false,Bool.false_or,Bool.and_true,Bool.true_and,Bool.and_false,Bool.false_and,reduceIte])<;>rfl) ⟨_,rfl,(aZ.nil ..),a⟩
 have an:=ai g
 refine bu<|sq<|aq 1<|aC b 0<|nt<|bk<|aq 2<|nl<|tn<|cb ((M.code==7)) (fun i=>?_) (fun i=>?_)
 have ao:=ag i
 refine aq 1<|aC b 4<|Pl 1<|L0<|cX (m:=1) (e:=5) #[vB (M.value%256)] fun ap c4 ar av aw=>?_
 have aA:=cD ar (xs:=[(M.value%256)]) (by as_aux_lemma=>kernel_rfl) (al (by omega) aP) (by(try simp only[List.length_cons,List.length_nil]);omega) av
 refine ah 1<|rt<|br<|tr<|rr (.slice (some ⟨ap,0,none⟩) 1 1)<|?_
 exact cI (by unfold fi;(try simp only[d,g,i,bi,Bool.or_true,Bool.true_or,Bool.or_false,Bool.false_or,Bool.and_true,Bool.true_and,Bool.and_false,Bool.false_and,reduceIte])<;>rfl) ⟨_,rfl,(aZ.weaken aA a.size),(aJ a aw)⟩
 have ao:=ai i
 refine aB 2<|cb ((M.code==11)) (fun k=>?_) (fun k=>?_)
 have aF:=ag k
 refine aq 1<|aC b 9<|Pl 1<|aC b 10<|L0<|cX (m:=2) (e:=37) #[vW M.status,vW M.events] fun c5 c6 aG aK S=>?_
 have aL:=eH aG (xs:=[M.status,M.events]) (by as_aux_lemma=>kernel_rfl) (al (by omega) (al (by omega) aP)) (by(try simp only[List.length_cons,List.length_nil]);omega) aK
 refine ay<|dU (i2 (xs:=[M.status,M.events]) (aL).rd (by(try simp only[bM]);omega)) fun aM aQ c7 aR c8 c9 aT=>ah 1<|rt<|br<|tr<|rr (.slice aM ((aN ([M.status,M.events])).length) aQ)<|?_
 exact cI (by unfold fi;(try simp only[d,g,i,k,bi,Bool.or_true,Bool.true_or,Bool.or_false,Bool.false_or,Bool.and_true,Bool.true_and,Bool.and_false,Bool.false_and,reduceIte])<;>rfl) ⟨_,rfl,(aZ.weaken aR (le a.size S.size)),(aJ a (aJ S aT))⟩
 have aF:=ai k
 refine aB 2<|cb ((M.code==12)) (fun l=>?_) (fun l=>?_)
 have aW:=ag l
 refine sq<|Rg 16 (fun w'=>w'.cell? ⟨C,14,none⟩=some (.slice Ad M.data.length kd)∧w'.cell? ⟨C,9,none⟩=some (vW M.status)∧w'.cell? ⟨C,10,none⟩=some (vW M.events)∧w'.cell? ⟨C,11,none⟩=some (vW M.messages)) fun ca c=>?_
 have n:=ub c b
 refine bv ⟨(ae n rfl),(ae n rfl),(ae n rfl),(ae n rfl)⟩ fun f=>Rt 0 f<|Rl 1 f (fun _ hs=>hs.1)<|Rt 2 f<|Rr 3 f (vI ((M.data.length:Int)+6)) (fun _ _=>bO (vI (IntKind.i64.wrap ((M.data.length:Int)+6))) (by kernel_rfl) (congrArg (Value.int .i64) (IntWalk.i64_in _ (by omega))))<|Rt 4 f<|Rt 6 f<|Rl 7 f (fun _ hs=>hs.2.1)<|Rt 8 f<|Rl 9 f (fun _ hs=>hs.2.2.1)<|Rt 10 f<|Rl 11 f (fun _ hs=>hs.2.2.2)<|R2 5 12 rfl rfl ?_ ?_
 refine  cX (m:=1) (e:=5) #[vB (((M.data.length:Int)+6)%256)] fun aX cc aY b0 H=>?_
 have I:=cD aY (xs:=[(((M.data.length:Int)+6)%256)]) (by as_aux_lemma=>kernel_rfl) (al (by omega) aP) (by(try simp only[List.length_cons,List.length_nil]);omega) b0
 have p:=ub H n
 refine bv ⟨(ae p rfl),(ae p rfl),(ae p rfl),(ae p rfl)⟩ fun cd=>R0 12 rfl<|cX (m:=3) (e:=37) #[vW M.status,vW M.events,vW M.messages] fun ce cf b1 b2 J=>?_
 have b3:=eH b1 (xs:=[M.status,M.events,M.messages]) (by as_aux_lemma=>kernel_rfl) (al (by omega) (al (by omega) (al (by omega) aP))) (by(try simp only[List.length_cons,List.length_nil]);omega) b2
 have q:=ub J p
 refine bv ⟨(ae q rfl),(ae q rfl),(ae q rfl),(ae q rfl)⟩ fun cg=>R0 13 rfl<|Oc<|dU (i2 (xs:=[M.status,M.events,M.messages]) (b3).rd (by(try simp only[bM]);omega)) fun ch ci cj b4 ck cl K=>?_
 have r:=ub K q
 refine bv ⟨(ae r rfl),(ae r rfl),(ae r rfl),(ae r rfl)⟩ fun cm=>?_
 have T:=aJ J K
 refine R0 14 rfl<|bK be (xs:=([(((M.data.length:Int)+6)%256)])) (ys:=(aN ([M.status,M.events,M.messages]))) (vB 0) 1 (au I T (fun x hx=>aE) (fun _ _ h=>h)) (b4).rd (by(try simp only[bM,ax]);omega) (le (le H.size J.size) K.size) fun cn co cp U V=>?_
 have s:=aI.blk V (bA (aO (az b) c.size I) aE) r
 refine bv ⟨(ae s rfl),(ae s rfl),(ae s rfl),(ae s rfl)⟩ fun b5=>Rt 15 b5<|re<|tn<|aq 2<|aC s 14<|?_
 have W:=ut H (ut (aI.mono (S':=(ob (some ⟨aX,0,none⟩)++[])) T aD) V (am il aD)) (am (aU I lr) aD)
 have X:=aJ a (aJ c W)
 refine L0<|bK be (xs:=([(((M.data.length:Int)+6)%256)]++(aN ([M.status,M.events,M.messages])))) (ys:=M.data) (vB 0) 1 U (aV.old hd X) (by(try simp only[bM,ax]);omega) W.size fun b7 b8 cq b9 ba=>ah 1<|rt<|br<|tr<|rr (.slice b7 ((([(((M.data.length:Int)+6)%256)]++(aN ([M.status,M.events,M.messages])))++M.data).length) b8)<|?_
 exact cI (by unfold fi;(try simp only[d,g,i,k,l,bi,Bool.or_true,Bool.true_or,Bool.or_false,Bool.false_or,Bool.and_true,Bool.true_and,Bool.and_false,Bool.false_and,reduceIte])<;>rfl) ⟨_,rfl,(aZ.weaken b9 (le a.size c.size)),(ut X ba (am (aU U (le a.size c.size)) aD))⟩
 refine  cX (m:=3) (e:=37) #[vW M.status,vW M.events,vW M.messages] fun cr ct bb bc j=>?_
 have Y:=eH bb (xs:=[M.status,M.events,M.messages]) (by as_aux_lemma=>kernel_rfl) (al (by omega) (al (by omega) (al (by omega) aP))) (by(try simp only[List.length_cons,List.length_nil]);omega) bc
 have o:=ub j n
 refine bv ⟨(ae o rfl),(ae o rfl),(ae o rfl),(ae o rfl)⟩ fun cu=>?_
 refine R2 5 13 rfl rfl ?_ ?_
 refine  cX (m:=1) (e:=5) #[vB (((M.data.length:Int)+6)%256)] fun bd cv bf bg E=>?_
 have L:=cD bf (xs:=[(((M.data.length:Int)+6)%256)]) (by as_aux_lemma=>kernel_rfl) (al (by omega) aP) (by(try simp only[List.length_cons,List.length_nil]);omega) bg
 have t:=ub E o
 refine bv ⟨(ae t rfl),(ae t rfl),(ae t rfl),(ae t rfl)⟩ fun cw=>?_
 refine R0 13 rfl<|Oc<|dU (i2 (xs:=[M.status,M.events,M.messages]) ((au Y E (fun x hx=>aE) (fun _ _ h=>h))).rd (by(try simp only[bM]);omega)) fun cx cy cz bj cA cB F=>?_
 have u:=ub F t
 refine bv ⟨(ae u rfl),(ae u rfl),(ae u rfl),(ae u rfl)⟩ fun cC=>?_
 refine R0 14 rfl<|bK be (xs:=([(((M.data.length:Int)+6)%256)])) (ys:=(aN ([M.status,M.events,M.messages]))) (vB 0) 1 (au L F (fun x hx=>aE) (fun _ _ h=>h)) (bj).rd (by(try simp only[bM,ax]);omega) (le E.size F.size) fun cE cF cG Z a0=>?_
 have v:=aI.blk a0 (bA (aO (az b) (le c.size j.size) L) aE) u
 refine bv ⟨(ae v rfl),(ae v rfl),(ae v rfl),(ae v rfl)⟩ fun bl=>Rt 15 bl<|re<|tn<|aq 2<|aC v 14<|?_
 have a1:=ut E (ut (aI.mono (S':=(ob (some ⟨bd,0,none⟩)++[])) F aD) a0 (am il aD)) (am (aU L lr) aD)
 have a2:=aJ a (aJ c (aJ j a1))
 refine L0<|bK be (xs:=([(((M.data.length:Int)+6)%256)]++(aN ([M.status,M.events,M.messages])))) (ys:=M.data) (vB 0) 1 Z (aV.old hd a2) (by(try simp only[bM,ax]);omega) a1.size fun bm bo cH bp bq=>ah 1<|rt<|br<|tr<|rr (.slice bm ((([(((M.data.length:Int)+6)%256)]++(aN ([M.status,M.events,M.messages])))++M.data).length) bo)<|?_
 exact cI (by unfold fi;(try simp only[d,g,i,k,l,bi,Bool.or_true,Bool.true_or,Bool.or_false,Bool.false_or,Bool.and_true,Bool.true_and,Bool.and_false,Bool.false_and,reduceIte])<;>rfl) ⟨_,rfl,(aZ.weaken bp (le (le a.size c.size) j.size)),(ut a2 bq (am (aU Z (le (le a.size c.size) j.size)) aD))⟩
 refine  Oc<|dU (i2 (xs:=[M.status,M.events,M.messages]) (Y).rd (by(try simp only[bM]);omega)) fun cJ cK cL bs cM cN y=>?_
 have z:=ub y o
 refine bv ⟨(ae z rfl),(ae z rfl),(ae z rfl),(ae z rfl)⟩ fun cO=>R0 5 rfl<|cX (m:=1) (e:=5) #[vB (((M.data.length:Int)+6)%256)] fun cP cQ bt bw G=>?_
 have N:=cD bt (xs:=[(((M.data.length:Int)+6)%256)]) (by as_aux_lemma=>kernel_rfl) (al (by omega) aP) (by(try simp only[List.length_cons,List.length_nil]);omega) bw
 have A:=ub G z
 refine bv ⟨(ae A rfl),(ae A rfl),(ae A rfl),(ae A rfl)⟩ fun cR=>?_
 refine R0 14 rfl<|bK be (xs:=([(((M.data.length:Int)+6)%256)])) (ys:=(aN ([M.status,M.events,M.messages]))) (vB 0) 1 N ((au bs G (fun x hx=>aE) (fun _ _ h=>h))).rd (by(try simp only[bM,ax]);omega) G.size fun cS cT cU a3 a4=>?_
 have B:=aI.blk a4 (bA (aO (az b) (le (le c.size j.size) y.size) N) aE) A
 refine bv ⟨(ae B rfl),(ae B rfl),(ae B rfl),(ae B rfl)⟩ fun bx=>Rt 15 bx<|re<|tn<|aq 2<|aC B 14<|?_
 have a5:=ut G a4 (am (aU N lr) aD)
 have a6:=aJ a (aJ c (aJ j (aJ y a5)))
 refine L0<|bK be (xs:=([(((M.data.length:Int)+6)%256)]++(aN ([M.status,M.events,M.messages])))) (ys:=M.data) (vB 0) 1 a3 (aV.old hd a6) (by(try simp only[bM,ax]);omega) a5.size fun bz bB cV bC bD=>ah 1<|rt<|br<|tr<|rr (.slice bz ((([(((M.data.length:Int)+6)%256)]++(aN ([M.status,M.events,M.messages])))++M.data).length) bB)<|?_
 exact cI (by unfold fi;(try simp only[d,g,i,k,l,bi,Bool.or_true,Bool.true_or,Bool.or_false,Bool.false_or,Bool.and_true,Bool.true_and,Bool.and_false,Bool.false_and,reduceIte])<;>rfl) ⟨_,rfl,(aZ.weaken bC (le (le (le a.size c.size) j.size) y.size)),(ut a6 bD (am (aU a3 (le (le (le a.size c.size) j.size) y.size)) aD))⟩
 have aW:=ai l
 refine sk<|bn<|tn<|aq 1<|aC b 14<|Pl 2<|L0<|cX (m:=1) (e:=5) #[vB ((M.data.length:Int)%256)] fun cW cZ bE bF O=>?_
 have a7:=cD bE (xs:=[((M.data.length:Int)%256)]) (by as_aux_lemma=>kernel_rfl) (al (by omega) aP) (by(try simp only[List.length_cons,List.length_nil]);omega) bF
 refine Pl 1<|?_
 refine aC (ub O b) 14<|?_
 have a8:=aJ a O
 refine L0<|bK be (xs:=([((M.data.length:Int)%256)])) (ys:=M.data) (vB 0) 1 a7 (aV.old hd a8) (by(try simp only[bM,ax]);omega) O.size fun bG bH d0 bI bJ=>ah 1<|rt<|rr (.slice bG (([((M.data.length:Int)%256)]++M.data).length) bH)<|?_
 exact cI (by unfold fi;(try simp only[d,g,i,k,l,bi,Bool.or_true,Bool.true_or,Bool.or_false,Bool.false_or,Bool.and_true,Bool.true_and,Bool.and_false,Bool.false_and,reduceIte])<;>rfl) ⟨_,rfl,(aZ.weaken bI a.size),(ut a8 bJ (am (aU a7 a.size) aD))⟩
theorem vH{m:Md}{cs:Array Value}{M:aS}{w:World}{dir:Int}(h:aH m w cs.toList M)(hf:bh M) : Calls Tryz.prog 185 #[vI dir,.agg cs] w (jP (dW dir M) w):=by
 refine fC h fun Aw kw Ab kb Ad kd Ar kr Ao ko e hw hbt hd hr ho _ _ _ _ _ _ _ _ _ _ q0 q1 q2 q3 q4 q5 q6 q7 q8 q9 cw cx cy cz cA cB cC=>?_
 subst e
 have hf1:=hf.words
 have hf2:=hf.bits
 have hf3:=hf.data
 have hf4:=hf.recs
 have hf5:=hf.objects
 refine en 137 Tryz.func185 rfl<|sg<|L0<|cY (mG M.code M.fail M.addr M.count M.value M.and_ M.or_ M.addr2 M.sub M.status M.events M.messages (.slice Aw M.words.length kw) (.slice Ab M.bits.length kb) (.slice Ad M.data.length kd) (.slice Ar M.recs.length kr) M.mei M.kind M.level M.more M.next (.slice Ao M.objects.length ko)) fun cE cF cG P l=>Pl 1<|aL 1<|aC P 12<|?_
 refine ay<|dU (i2 (xs:=M.words) (eF.old hw l) (by(try simp only[bM]);omega)) fun cH cI cJ u cK cL n=>Pl 1<|aL 1<|?_
 have a:=ub n P
 refine aC a 12<|Pl 2<|aL 1<|dk 1<|sq<|bk<|aq 3<|cu 14 [19] 33 (((dir==1)&&(((M.code==3)||(M.code==4))||(M.code==23)))) (fun K Q=>?_) ?_
 refine bl 19 ((dir==1)) (fun v=>?_) (fun v=>?_)
 have ap:=ag v
 refine Pl 1<|L1<|dQ a 0<|Pl 2<|cu 4 [23] 27 (((M.code==3)||(M.code==4))) (fun K R=>?_) ?_
 refine bl 23 ((M.code==3)) (fun y=>?_) (fun y=>?_)
 have ar:=ag y
 exact Pl 4<|ce R true (by rw[y];rfl)
 have ar:=ai y
 exact Pl 1<|L1<|dQ a 0<|Pl 2<|ce R (M.code==4) (by rw[y];rfl)
 refine Pl 1<|cu 4 [28] 32 ((((M.code==3)||(M.code==4))||(M.code==23))) (fun K S=>?_) ?_
 refine bl 28 (((M.code==3)||(M.code==4))) (fun C=>?_) (fun C=>?_)
 exact Pl 4<|ce S true (by rw[C];rfl)
 exact Pl 1<|L1<|dQ a 0<|Pl 2<|ce S (M.code==23) (by rw[C];rfl)
 exact Pl 1<|ce Q (((M.code==3)||(M.code==4))||(M.code==23)) (by rw[v];rfl)
 have ap:=ai v
 exact Pl 14<|ce Q false (by rw[v];rfl)
 refine ah 1<|?_
 have i:=aJ l n
 refine cb (((dir==1)&&(((M.code==3)||(M.code==4))||(M.code==23)))) (fun g=>?_) (fun g=>?_)
 have av:=(b7 g).1
 have aw:=(b7 g).2
 refine sk<|bn<|tn<|aq 1<|ay<|dU (i2 (xs:=[]) (aT.nil true _ _ _ _) (by(try simp only[bM]);omega)) fun az cM cN T cO cP U=>ah 1<|sq<|aq 1<|nl<|tn<|c1<|go<|Pl 2<|bp (2*(M.words.length:Int))<|Pl 1<|L0<|cX (m:=1) (e:=5) #[vB ((2*(M.words.length:Int))%256)] fun cQ cR aA aF D=>?_
 have aG:=cD aA (xs:=[((2*(M.words.length:Int))%256)]) (by as_aux_lemma=>kernel_rfl) (al (by omega) aP) (by(try simp only[List.length_cons,List.length_nil]);omega) aF
 refine L0<|bK be (xs:=(aN ([]))) (ys:=([((2*(M.words.length:Int))%256)])) (vB 0) 1 (au T D (fun x hx=>aE) (fun _ _ h=>h)) (aG).rd (by(try simp only[bM,ax]);omega) (le U.size D.size) fun cS cT cU V aK=>Pl 1<|aL 2<|?_
 have E:=ut U (ut (aI.mono (S':=(ob az++[])) D aD) aK (am il aD)) (am (aU T lr) aD)
 refine L0<|bK be (xs:=((aN ([]))++[((2*(M.words.length:Int))%256)])) (ys:=(aN M.words)) (vB 0) 1 V ((au u E (fun x hx=>aE) (fun _ _ h=>h))).rd (by(try simp only[bM,ax]);omega) E.size fun aM aO cV aQ aR=>ah 1<|rt<|rr (.slice aM ((((aN ([]))++[((2*(M.words.length:Int))%256)])++(aN M.words)).length) aO)<|?_
 have hs:dW dir M=(((aN ([]))++[((2*(M.words.length:Int))%256)])++(aN M.words)):=by
   unfold dW
   (try simp only[g,av,aw,bi,Bool.or_true,Bool.true_or,Bool.or_false,Bool.false_or,Bool.and_true,Bool.true_and,Bool.and_false,Bool.false_and,reduceIte])
   all_goals first | rfl | (simp_all;done)
 rw[hs]
 exact⟨_,rfl,(aZ.weaken aQ i.size),(aJ i (ut E aR (am (aU V lr) aD)))⟩
 refine aq 1<|aC a 0<|Pl 2<|cu 4 [38] 42 (((M.code==3)||(M.code==4))) (fun K W=>?_) ?_
 refine bl 38 ((M.code==3)) (fun z=>?_) (fun z=>?_)
 have aV:=ag z
 exact Pl 4<|ce W true (by rw[z];rfl)
 have aV:=ai z
 exact Pl 1<|L1<|dQ a 0<|Pl 2<|ce W (M.code==4) (by rw[z];rfl)
 refine Pl 1<|cu 8 [43] 51 ((((M.code==3)||(M.code==4))||((M.code==16)&&(dir==1)))) (fun K X=>?_) ?_
 refine bl 43 (((M.code==3)||(M.code==4))) (fun F=>?_) (fun F=>?_)
 exact Pl 8<|ce X true (by rw[F];rfl)
 refine Pl 1<|L1<|dQ a 0<|Pl 2<|cu 3 [47] 50 (((M.code==16)&&(dir==1))) (fun K Y=>?_) ?_
 refine bl 47 ((M.code==16)) (fun A=>?_) (fun A=>?_)
 have aW:=ag A
 exact Pl 3<|ce Y (dir==1) (by rw[A];rfl)
 have aW:=ai A
 exact Pl 3<|ce Y false (by rw[A];rfl)
 exact Pl 1<|ce X ((M.code==16)&&(dir==1)) (by rw[F];rfl)
 refine ah 1<|cb ((((M.code==3)||(M.code==4))||((M.code==16)&&(dir==1)))) (fun j=>?_) (fun j=>?_)
 refine aq 1<|aC a 2<|Pl 1<|aC a 3<|L0<|cX (m:=2) (e:=37) #[vW M.addr,vW M.count] fun cW cZ aX aY Z=>?_
 have b0:=eH aX (xs:=[M.addr,M.count]) (by as_aux_lemma=>kernel_rfl) (al (by omega) (al (by omega) aP)) (by(try simp only[List.length_cons,List.length_nil]);omega) aY
 refine ay<|dU (i2 (xs:=[M.addr,M.count]) (b0).rd (by(try simp only[bM]);omega)) fun b1 b2 d0 b3 d1 d2 b4=>ah 1<|rt<|br<|tr<|rr (.slice b1 ((aN ([M.addr,M.count])).length) b2)<|?_
 have hs:dW dir M=(aN ([M.addr,M.count])):=by
   unfold dW
   (try simp only[g,j,bi,Bool.or_true,Bool.true_or,Bool.or_false,Bool.false_or,Bool.and_true,Bool.true_and,Bool.and_false,Bool.false_and,reduceIte])
   all_goals first | rfl | (simp_all;done)
 rw[hs]
 exact⟨_,rfl,(aZ.weaken b3 (le (le l.size n.size) Z.size)),(aJ i (aJ Z b4))⟩
 have o:=(bL j).1
 have p:=(bL j).2
 have q:=(bL o).1
 have r:=(bL o).2
 refine aq 1<|aC a 0<|ah 2<|cb ((M.code==6)) (fun b=>?_) (fun b=>?_)
 have b5:=ag b
 refine aq 1<|aC a 2<|Pl 1<|aC a 4<|L0<|cX (m:=2) (e:=37) #[vW M.addr,vW M.value] fun d3 d4 b6 b8 a0=>?_
 have b9:=eH b6 (xs:=[M.addr,M.value]) (by as_aux_lemma=>kernel_rfl) (al (by omega) (al (by omega) aP)) (by(try simp only[List.length_cons,List.length_nil]);omega) b8
 refine ay<|dU (i2 (xs:=[M.addr,M.value]) (b9).rd (by(try simp only[bM]);omega)) fun ba bb d5 bc d6 d7 bd=>ah 1<|rt<|br<|tr<|rr (.slice ba ((aN ([M.addr,M.value])).length) bb)<|?_
 have hs:dW dir M=(aN ([M.addr,M.value])):=by
   unfold dW
   (try simp only[show(M.code==3)=false from(by rw[ag b];rfl),show(M.code==4)=false from(by rw[ag b];rfl),show(M.code==16)=false from(by rw[ag b];rfl),show(M.code==22)=false from(by rw[ag b];rfl),show(M.code==23)=false from(by rw[ag b];rfl),show(M.code==24)=false from(by rw[ag b];rfl),g,j,o,q,r,p,b,bz,Bool.or_true,Bool.true_or,Bool.or_false,Bool.false_or,Bool.and_true,Bool.true_and,Bool.and_false,Bool.false_and,reduceIte])
   all_goals first | rfl | (simp_all;done)
 rw[hs]
 exact⟨_,rfl,(aZ.weaken bc (le (le l.size n.size) a0.size)),(aJ i (aJ a0 bd))⟩
 have b5:=ai b
 refine aq 1<|aC a 0<|ah 2<|cb ((M.code==16)) (fun c=>?_) (fun c=>?_)
 have bf:=ag c
 refine go<|Pl 1<|aC a 2<|Pl 1<|aC a 3<|L0<|cX (m:=2) (e:=37) #[vW M.addr,vW M.count] fun d8 d9 bg bj G=>?_
 have bm:=eH bg (xs:=[M.addr,M.count]) (by as_aux_lemma=>kernel_rfl) (al (by omega) (al (by omega) aP)) (by(try simp only[List.length_cons,List.length_nil]);omega) bj
 refine Pl 1<|nl<|bn<|tn<|aq 1<|ay<|dU (i2 (xs:=[M.addr,M.count]) (bm).rd (by(try simp only[bM]);omega)) fun bo da db a1 dc dd a2=>ah 1<|sq<|aB 1<|c1<|go<|Pl 2<|bp (2*(M.words.length:Int))<|Pl 1<|L0<|cX (m:=1) (e:=5) #[vB ((2*(M.words.length:Int))%256)] fun de df bq bs H=>?_
 have bt:=cD bq (xs:=[((2*(M.words.length:Int))%256)]) (by as_aux_lemma=>kernel_rfl) (al (by omega) aP) (by(try simp only[List.length_cons,List.length_nil]);omega) bs
 refine L0<|bK be (xs:=(aN ([M.addr,M.count]))) (ys:=([((2*(M.words.length:Int))%256)])) (vB 0) 1 (au a1 H (fun x hx=>aE) (fun _ _ h=>h)) (bt).rd (by(try simp only[bM,ax]);omega) (le a2.size H.size) fun dg dh di a3 bv=>Pl 1<|aL 2<|?_
 have a4:=ut a2 (ut (aI.mono (S':=(ob bo++[])) H aD) bv (am il aD)) (am (aU a1 lr) aD)
 have a5:=aJ G a4
 refine L0<|bK be (xs:=((aN ([M.addr,M.count]))++[((2*(M.words.length:Int))%256)])) (ys:=(aN M.words)) (vB 0) 1 a3 ((au u a5 (fun x hx=>aE) (fun _ _ h=>h))).rd (by(try simp only[bM,ax]);omega) a4.size fun bw bx dj bA bB=>ah 1<|rt<|rr (.slice bw ((((aN ([M.addr,M.count]))++[((2*(M.words.length:Int))%256)])++(aN M.words)).length) bx)<|?_
 have hs:dW dir M=(((aN ([M.addr,M.count]))++[((2*(M.words.length:Int))%256)])++(aN M.words)):=by
   unfold dW
   (try simp only[show(M.code==3)=false from(by rw[ag c];rfl),show(M.code==4)=false from(by rw[ag c];rfl),show(M.code==6)=false from(by rw[ag c];rfl),show(M.code==22)=false from(by rw[ag c];rfl),show(M.code==23)=false from(by rw[ag c];rfl),show(M.code==24)=false from(by rw[ag c];rfl),g,j,o,q,r,p,b,c,bz,Bool.or_true,Bool.true_or,Bool.or_false,Bool.false_or,Bool.and_true,Bool.true_and,Bool.and_false,Bool.false_and,reduceIte])
   all_goals first | rfl | (simp_all;done)
 rw[hs]
 exact⟨_,rfl,(aZ.weaken bA (le (le l.size n.size) G.size)),(aJ i (ut a5 bB (am (aU a3 G.size) aD)))⟩
 have bf:=ai c
 refine aq 1<|aC a 0<|ah 2<|cb ((M.code==22)) (fun d=>?_) (fun d=>?_)
 have bC:=ag d
 refine aq 1<|aC a 2<|Pl 1<|aC a 5<|Pl 1<|aC a 6<|L0<|cX (m:=3) (e:=37) #[vW M.addr,vW M.and_,vW M.or_] fun dl dm bD bE a6=>?_
 have bF:=eH bD (xs:=[M.addr,M.and_,M.or_]) (by as_aux_lemma=>kernel_rfl) (al (by omega) (al (by omega) (al (by omega) aP))) (by(try simp only[List.length_cons,List.length_nil]);omega) bE
 refine ay<|dU (i2 (xs:=[M.addr,M.and_,M.or_]) (bF).rd (by(try simp only[bM]);omega)) fun bG bH dn bI dp dq bJ=>ah 1<|rt<|br<|tr<|rr (.slice bG ((aN ([M.addr,M.and_,M.or_])).length) bH)<|?_
 have hs:dW dir M=(aN ([M.addr,M.and_,M.or_])):=by
   unfold dW
   (try simp only[show(M.code==3)=false from(by rw[ag d];rfl),show(M.code==4)=false from(by rw[ag d];rfl),show(M.code==6)=false from(by rw[ag d];rfl),show(M.code==16)=false from(by rw[ag d];rfl),show(M.code==23)=false from(by rw[ag d];rfl),show(M.code==24)=false from(by rw[ag d];rfl),g,j,o,q,r,p,b,c,d,bz,Bool.or_true,Bool.true_or,Bool.or_false,Bool.false_or,Bool.and_true,Bool.true_and,Bool.and_false,Bool.false_and,reduceIte])
   all_goals first | rfl | (simp_all;done)
 rw[hs]
 exact⟨_,rfl,(aZ.weaken bI (le (le l.size n.size) a6.size)),(aJ i (aJ a6 bJ))⟩
 have bC:=ai d
 refine aq 1<|aC a 0<|ah 2<|cb ((M.code==23)) (fun f=>?_) (fun f=>?_)
 have bN:=ag f
 refine go<|Pl 1<|aC a 2<|Pl 1<|aC a 3<|Pl 1<|aC a 7<|Pl 2<|L0<|cX (m:=4) (e:=37) #[vW M.addr,vW M.count,vW M.addr2,vW ((M.words.length:Int)%65536)] fun dr ds bO bP I=>?_
 have bQ:=eH bO (xs:=[M.addr,M.count,M.addr2,((M.words.length:Int)%65536)]) (by as_aux_lemma=>kernel_rfl) (al (by omega) (al (by omega) (al (by omega) (al (by omega) aP)))) (by(try simp only[List.length_cons,List.length_nil]);omega) bP
 refine Pl 1<|nl<|bn<|tn<|aq 1<|ay<|dU (i2 (xs:=[M.addr,M.count,M.addr2,((M.words.length:Int)%65536)]) (bQ).rd (by(try simp only[bM]);omega)) fun bR dt du a7 dv dw a8=>ah 1<|sq<|aB 1<|c1<|go<|Pl 2<|bp (2*(M.words.length:Int))<|Pl 1<|L0<|cX (m:=1) (e:=5) #[vB ((2*(M.words.length:Int))%256)] fun dx dy bS bT J=>?_
 have bU:=cD bS (xs:=[((2*(M.words.length:Int))%256)]) (by as_aux_lemma=>kernel_rfl) (al (by omega) aP) (by(try simp only[List.length_cons,List.length_nil]);omega) bT
 refine L0<|bK be (xs:=(aN ([M.addr,M.count,M.addr2,((M.words.length:Int)%65536)]))) (ys:=([((2*(M.words.length:Int))%256)])) (vB 0) 1 (au a7 J (fun x hx=>aE) (fun _ _ h=>h)) (bU).rd (by(try simp only[bM,ax]);omega) (le a8.size J.size) fun dz dA dB a9 bV=>Pl 1<|aL 2<|?_
 have aa:=ut a8 (ut (aI.mono (S':=(ob bR++[])) J aD) bV (am il aD)) (am (aU a7 lr) aD)
 have ab:=aJ I aa
 refine L0<|bK be (xs:=((aN ([M.addr,M.count,M.addr2,((M.words.length:Int)%65536)]))++[((2*(M.words.length:Int))%256)])) (ys:=(aN M.words)) (vB 0) 1 a9 ((au u ab (fun x hx=>aE) (fun _ _ h=>h))).rd (by(try simp only[bM,ax]);omega) aa.size fun bW bX dC bY bZ=>ah 1<|rt<|rr (.slice bW ((((aN ([M.addr,M.count,M.addr2,((M.words.length:Int)%65536)]))++[((2*(M.words.length:Int))%256)])++(aN M.words)).length) bX)<|?_
 have hs:dW dir M=(((aN ([M.addr,M.count,M.addr2,((M.words.length:Int)%65536)]))++[((2*(M.words.length:Int))%256)])++(aN M.words)):=by
   unfold dW
   (try simp only[show(M.code==3)=false from(by rw[ag f];rfl),show(M.code==4)=false from(by rw[ag f];rfl),show(M.code==6)=false from(by rw[ag f];rfl),show(M.code==16)=false from(by rw[ag f];rfl),show(M.code==22)=false from(by rw[ag f];rfl),show(M.code==24)=false from(by rw[ag f];rfl),g,j,o,q,r,p,b,c,d,f,bz,Bool.or_true,Bool.true_or,Bool.or_false,Bool.false_or,Bool.and_true,Bool.true_and,Bool.and_false,Bool.false_and,reduceIte])
   all_goals first | rfl | (simp_all;done)
 rw[hs]
 exact⟨_,rfl,(aZ.weaken bY (le (le l.size n.size) I.size)),(aJ i (ut ab bZ (am (aU a9 I.size) aD)))⟩
 have bN:=ai f
 refine aq 1<|aC a 0<|Pl 2<|cu 3 [106] 109 (((M.code==24)&&(dir==0))) (fun K ac=>?_) ?_
 refine bl 106 ((M.code==24)) (fun B=>?_) (fun B=>?_)
 have c2:=ag B
 exact Pl 3<|ce ac (dir==0) (by rw[B];rfl)
 have c2:=ai B
 exact Pl 3<|ce ac false (by rw[B];rfl)
 refine ah 1<|cb (((M.code==24)&&(dir==0))) (fun t=>?_) (fun t=>?_)
 have s:=(b7 t).1
 have c3:=(b7 t).2
 refine aq 1<|aC a 2<|L0<|cX (m:=1) (e:=37) #[vW M.addr] fun dD dE c4 c5 ad=>?_
 have c6:=eH c4 (xs:=[M.addr]) (by as_aux_lemma=>kernel_rfl) (al (by omega) aP) (by(try simp only[List.length_cons,List.length_nil]);omega) c5
 refine ay<|dU (i2 (xs:=[M.addr]) (c6).rd (by(try simp only[bM]);omega)) fun c7 c8 dF c9 dG dH ca=>ah 1<|rt<|br<|tr<|rr (.slice c7 ((aN ([M.addr])).length) c8)<|?_
 have hs:dW dir M=(aN ([M.addr])):=by
   unfold dW
   (try simp only[show(M.code==3)=false from(by rw[ag s];rfl),show(M.code==4)=false from(by rw[ag s];rfl),show(M.code==6)=false from(by rw[ag s];rfl),show(M.code==16)=false from(by rw[ag s];rfl),show(M.code==22)=false from(by rw[ag s];rfl),show(M.code==23)=false from(by rw[ag s];rfl),g,j,o,q,r,p,b,c,d,f,t,s,c3,bz,Bool.or_true,Bool.true_or,Bool.or_false,Bool.false_or,Bool.and_true,Bool.true_and,Bool.and_false,Bool.false_and,reduceIte])
   all_goals first | rfl | (simp_all;done)
 rw[hs]
 exact⟨_,rfl,(aZ.weaken c9 (le (le l.size n.size) ad.size)),(aJ i (aJ ad ca))⟩
 refine aq 1<|aC a 0<|ah 2<|cb ((M.code==24)) (fun k=>?_) (fun k=>?_)
 have cc:=ag k
 refine aq 1<|bp (2*(M.words.length:Int))<|bp ((2*(M.words.length:Int))+2)<|Pl 3<|L0<|cX (m:=2) (e:=37) #[vW (((2*(M.words.length:Int))+2)%65536),vW ((M.words.length:Int)%65536)] fun dI dJ cd cf L=>?_
 have cg:=eH cd (xs:=[(((2*(M.words.length:Int))+2)%65536),((M.words.length:Int)%65536)]) (by as_aux_lemma=>kernel_rfl) (al (by omega) (al (by omega) aP)) (by(try simp only[List.length_cons,List.length_nil]);omega) cf
 refine ah 1<|go<|Pl 1<|nl<|bn<|tn<|aq 1<|ay<|dU (i2 (xs:=[(((2*(M.words.length:Int))+2)%65536),((M.words.length:Int)%65536)]) (cg).rd (by(try simp only[bM]);omega)) fun dK dL dM ae dN dO af=>Pl 1<|nl<|tn<|sq<|aB 1<|c0<|bu<|aq 2<|?_
 have aj:=aJ L af
 refine L0<|bK be (xs:=(aN ([(((2*(M.words.length:Int))+2)%65536),((M.words.length:Int)%65536)]))) (ys:=(aN M.words)) (vB 0) 1 ae ((au u aj (fun x hx=>aE) (fun _ _ h=>h))).rd (by(try simp only[bM,ax]);omega) af.size fun ch ci dP cj ck=>ah 1<|rt<|rr (.slice ch (((aN ([(((2*(M.words.length:Int))+2)%65536),((M.words.length:Int)%65536)]))++(aN M.words)).length) ci)<|?_
 have hs:dW dir M=((aN ([(((2*(M.words.length:Int))+2)%65536),((M.words.length:Int)%65536)]))++(aN M.words)):=by
   unfold dW
   (try simp only[show(M.code==3)=false from(by rw[ag k];rfl),show(M.code==4)=false from(by rw[ag k];rfl),show(M.code==6)=false from(by rw[ag k];rfl),show(M.code==16)=false from(by rw[ag k];rfl),show(M.code==22)=false from(by rw[ag k];rfl),show(M.code==23)=false from(by rw[ag k];rfl),g,j,o,q,r,p,b,c,d,f,t,k,bz,Bool.or_true,Bool.true_or,Bool.or_false,Bool.false_or,Bool.and_true,Bool.true_and,Bool.and_false,Bool.false_and,reduceIte])
   all_goals first | rfl | (simp_all;done)
 rw[hs]
 exact⟨_,rfl,(aZ.weaken cj (le (le l.size n.size) L.size)),(aJ i (ut aj ck (am (aU ae L.size) aD)))⟩
 have cc:=ai k
 refine sk<|bn<|tn<|aq 1<|ay<|dU (i2 (xs:=[]) (aT.nil true _ _ _ _) (by(try simp only[bM]);omega)) fun cl dR dS ak dT dV an=>ah 1<|sq<|aq 1<|nl<|tn<|c1<|go<|Pl 2<|bp (2*(M.words.length:Int))<|Pl 1<|L0<|cX (m:=1) (e:=5) #[vB ((2*(M.words.length:Int))%256)] fun dX dY cm cn N=>?_
 have co:=cD cm (xs:=[((2*(M.words.length:Int))%256)]) (by as_aux_lemma=>kernel_rfl) (al (by omega) aP) (by(try simp only[List.length_cons,List.length_nil]);omega) cn
 refine L0<|bK be (xs:=(aN ([]))) (ys:=([((2*(M.words.length:Int))%256)])) (vB 0) 1 (au ak N (fun x hx=>aE) (fun _ _ h=>h)) (co).rd (by(try simp only[bM,ax]);omega) (le an.size N.size) fun dZ e0 e1 ao cp=>Pl 1<|aL 2<|?_
 have O:=ut an (ut (aI.mono (S':=(ob cl++[])) N aD) cp (am il aD)) (am (aU ak lr) aD)
 refine L0<|bK be (xs:=((aN ([]))++[((2*(M.words.length:Int))%256)])) (ys:=(aN M.words)) (vB 0) 1 ao ((au u O (fun x hx=>aE) (fun _ _ h=>h))).rd (by(try simp only[bM,ax]);omega) O.size fun cq cr e2 ct cv=>ah 1<|rt<|rr (.slice cq ((((aN ([]))++[((2*(M.words.length:Int))%256)])++(aN M.words)).length) cr)<|?_
 have hs:dW dir M=(((aN ([]))++[((2*(M.words.length:Int))%256)])++(aN M.words)):=by
   unfold dW
   (try simp only[g,j,o,q,r,p,b,c,d,f,t,k,bi,Bool.or_true,Bool.true_or,Bool.or_false,Bool.false_or,Bool.and_true,Bool.true_and,Bool.and_false,Bool.false_and,reduceIte])
   all_goals first | rfl | (simp_all;done)
 rw[hs]
 exact⟨_,rfl,(aZ.weaken ct i.size),(aJ i (ut O cv (am (aU ao lr) aD)))⟩
open Go.RowKit
def nT (dir code:Int)(r:dl) : List Int:=(if code==20&&dir==1 then [(2*(r.words.length:Int)+1)%256,6] else [6]++aN [r.file,r.record,r.count])++aN r.words
def dz (dir code:Int) : List dl→List Int
  | []=>[]
  | r :: rs=>nT dir code r++dz dir code rs
theorem kL(dir code:Int)(xs:List dl)(k:Nat)(h:k<xs.length) : dz dir code (xs.drop k)=nT dir code (xs.getD k ⟨0,0,0,[]⟩)++dz dir code (xs.drop (k+1)):=by
  rw[List.drop_eq_getElem_cons h]
  simp[dz,List.getD_eq_getElem?_getD,List.getElem?_eq_getElem h]
def eX (dir:Int)(M:aS) : List Int:=[((dz dir M.code M.recs).length:Int)%256]++dz dir M.code M.recs
theorem rD{m:Md}{cs:Array Value}{M:aS}{w:World}{dir:Int}(h:aH m w cs.toList M)(hf:bh M) : Calls Tryz.prog 187 #[vI dir,.agg cs] w (jP (eX dir M) w):=by
 refine fC h fun Aw kw Ab kb Ad kd Ar kr Ao ko e hw hbt hd hr ho _ _ _ _ _ _ _ _ _ _ q0 q1 q2 q3 q4 q5 q6 q7 q8 q9 b5 b6 b8 b9 ba bb bc=>?_
 subst e
 have hf1:=hf.words
 have hf2:=hf.bits
 have hf3:=hf.data
 have hf4:=hf.recs
 have hf5:=hf.objects
 refine en 60 Tryz.func187 rfl<|sg<|L0<|cY (mG M.code M.fail M.addr M.count M.value M.and_ M.or_ M.addr2 M.sub M.status M.events M.messages (.slice Aw M.words.length kw) (.slice Ab M.bits.length kb) (.slice Ad M.data.length kd) (.slice Ar M.recs.length kr) M.mei M.kind M.level M.more M.next (.slice Ao M.objects.length ko)) fun N o bd a4 p=>Pl 1<|dk 1<|sq<|sq<|go<|ah 1<|bk<|je (fun x=>[(0,vI dir),(3,vP N 0),(4,nS),(5,.slice x.2.2.1 x.2.1.length x.2.2.2),(6,vI (x.1:Int))]) (fun(x:Nat × List Int × Option Addr × Nat) w'=>aI [] o w'∧eE o.heap.size w' (.slice x.2.2.1 x.2.1.length x.2.2.2) x.2.1∧(x.1≤M.recs.length)∧(x.2.1++dz dir M.code (M.recs.drop x.1)=([])++dz dir M.code M.recs)∧(x.2.1.length≤16+x.1*2060)∧(0≤x.2.1.length)) (fun x=>M.recs.length-x.1) (0,[],none,0) ⟨aI.refl _ _,(aZ.nil o.heap.size _ _ xv _),(by(try dsimp only);omega),rfl,(by(try dsimp only);(try simp only[List.length_cons,List.length_nil]);omega),(by(try dsimp only);(try simp only[List.length_cons,List.length_nil]);omega)⟩ ?_
 rintro⟨k,L,A,cp⟩ a5 ⟨a,a6,a7,a8,a9,aa⟩
 refine gi [(0,vI dir),(3,vP N 0),(4,nS),(5,.slice A L.length cp),(6,vI (k:Int))] ?_
 have b:eE o.heap.size a5 (.slice A L.length cp) L:=a6
 have bf:k≤M.recs.length:=a7
 have bg:L++dz dir M.code (M.recs.drop k)=([])++dz dir M.code M.recs:=a8
 have bj:L.length≤16+k*2060:=a9
 have bm:0≤L.length:=aa
 have hL:L++dz dir M.code (M.recs.drop k)=([])++dz dir M.code M.recs:=by assumption
 have hv0:=fun(h:k<M.recs.length)=>hf.recw _ (eB ⟨0,0,0,[]⟩ M.recs k h)
 refine sq<|aq 2<|?_
 have y:=ub a a4
 refine aC y 15<|ah 2<|?_
 have q:=aJ p a
 refine cb ((decide ((k:Int)<(M.recs.length:Int)))) (fun f=>?_) (fun f=>?_)
 have ab:=of_decide_eq_true f
 refine bu<|sq<|bk<|aq 1<|aC y 15<|Pl 1<|nw (oA.elt hr k (by omega)) fun bo bq br bs bt O P ac ad Q bv ae=>L0<|w9 4 M.recs.length k ac (by omega)<|?_
 refine L0<|DU [vW ((M.recs.getD k ⟨0,0,0,[]⟩).file),vW ((M.recs.getD k ⟨0,0,0,[]⟩).record),vW ((M.recs.getD k ⟨0,0,0,[]⟩).count),.slice O ((M.recs.getD k ⟨0,0,0,[]⟩).words.length) P] (ub q ad) ae<|aK #[vW 0,vW 0,vW 0,nS] fun bw bz z af c=>aG af #[vW ((M.recs.getD k ⟨0,0,0,[]⟩).file),vW ((M.recs.getD k ⟨0,0,0,[]⟩).record),vW ((M.recs.getD k ⟨0,0,0,[]⟩).count),.slice O ((M.recs.getD k ⟨0,0,0,[]⟩).words.length) P] fun bB B d=>nt<|sq<|aq 1<|?_
 have r:=ud c d z
 refine aC (ub r y) 0<|Pl 2<|cu 3 [23] 26 (((M.code==20)&&(dir==1))) (fun K R=>?_) ?_
 refine bl 23 ((M.code==20)) (fun g=>?_) (fun g=>?_)
 have aj:=ag g
 exact Pl 3<|ce R (dir==1) (by rw[g];rfl)
 have aj:=ai g
 exact Pl 3<|ce R false (by rw[g];rfl)
 refine nt<|?_
 have S:=aJ q r
 refine cb (((M.code==20)&&(dir==1))) (fun i=>?_) (fun i=>?_)
 have T:=(b7 i).1
 have U:=(b7 i).2
 have bC:=ag T
 have bD:=ag U
 refine go<|Pl 2<|aC B 3<|Pl 1<|bp (2*(((M.recs.getD k ⟨0,0,0,[]⟩).words.length:Nat) : Int))<|bp ((2*(((M.recs.getD k ⟨0,0,0,[]⟩).words.length:Nat) : Int))+1)<|Pl 1<|L0<|cX (m:=2) (e:=5) #[vB (((2*(((M.recs.getD k ⟨0,0,0,[]⟩).words.length:Nat) : Int))+1)%256),vB 6] fun bE bF ak an s=>?_
 have ao:=cD ak (xs:=[(((2*(((M.recs.getD k ⟨0,0,0,[]⟩).words.length:Nat) : Int))+1)%256),6]) (by as_aux_lemma=>kernel_rfl) (al (by omega) (al (by omega) aP)) (by(try simp only[List.length_cons,List.length_nil]);omega) an
 have V:=aJ r s
 refine L0<|bK be (xs:=L) (ys:=([(((2*(((M.recs.getD k ⟨0,0,0,[]⟩).words.length:Nat) : Int))+1)%256),6])) (vB 0) 1 (au b V (fun x hx=>aE) (fun _ _ h=>h)) (ao).rd (by(try simp only[bM,ax]);omega) (le (le (le a.size c.size) d.size) s.size) fun C bG bH W D=>ah 1<|go<|Pl 2<|?_
 have X:=ut (aI.mono (S':=(ob A++[])) s aD) D (am il aD)
 refine aC (aI.blk X (bA (fA b lr z) aE) B) 3<|?_
 refine ay<|dU (i2 (xs:=(M.recs.getD k ⟨0,0,0,[]⟩).words) (eF.old Q (ut S X (am (aU b p.size) aD))) (by(try simp only[bM]);omega)) fun bI bJ bL ap bN bO E=>?_
 refine L0<|bK be (xs:=(L++[(((2*(((M.recs.getD k ⟨0,0,0,[]⟩).words.length:Nat) : Int))+1)%256),6])) (ys:=(aN ((M.recs.getD k ⟨0,0,0,[]⟩).words))) (vB 0) 1 (au W E (fun x hx=>aE) (fun _ _ h=>h)) (ap).rd (by(try simp only[bM,ax]);omega) (le (le (le (le (le a.size c.size) d.size) s.size) D.size) E.size) fun ar av bP aw az=>Pl 1<|nl<|bn<|tn<|go<|Pl 1<|bp ((k:Int)+1)<|Pl 1<|nl<|?_
 exact gK ((k+1),((L++[(((2*(((M.recs.getD k ⟨0,0,0,[]⟩).words.length:Nat) : Int))+1)%256),6])++(aN ((M.recs.getD k ⟨0,0,0,[]⟩).words))),ar,av) ⟨(ut a (ut (aI.mono (S':=(ob A++(ob C++[]))) V aD) (ut (aI.mono (S':=(ob A++(ob C++[]))) D (am il aD)) (ut (aI.mono (S':=(ob C++[])) E aD) az (am il aD)) (am il aD)) (am il (am il aD))) (am (aU b lr) (am (aU W lr) aD))),aw,(by(try dsimp only);omega),(by(try dsimp only);rw[← hL,kL dir M.code M.recs k (by omega)];simp only[nT,f,i,T,U,bi,List.append_assoc]),(by(try dsimp only);have hv:=hf.recw _ (eB ⟨0,0,0,[]⟩ M.recs k (by omega));(try simp only[bM,ax]);omega),(by(try dsimp only);(try simp only[bM]);omega)⟩ (by omega)
 refine aq 1<|L0<|cX (m:=1) (e:=5) #[vB 6] fun bQ bR aA aB j=>?_
 have aF:=cD aA (xs:=[6]) (by as_aux_lemma=>kernel_rfl) (al (by omega) aP) (by(try simp only[List.length_cons,List.length_nil]);omega) aB
 have Y:=aJ r j
 refine L0<|bK be (xs:=L) (ys:=([6])) (vB 0) 1 (au b Y (fun x hx=>aE) (fun _ _ h=>h)) (aF).rd (by(try simp only[bM,ax]);omega) (le (le (le a.size c.size) d.size) j.size) fun l bS bT t u=>ah 1<|go<|Pl 2<|?_
 have Z:=ut (aI.mono (S':=(ob A++[])) j aD) u (am il aD)
 have n:=aI.blk Z (bA (fA b lr z) aE) B
 refine aC n 0<|Pl 1<|aC n 1<|Pl 1<|aC n 2<|L0<|cX (m:=3) (e:=37) #[vW ((M.recs.getD k ⟨0,0,0,[]⟩).file),vW ((M.recs.getD k ⟨0,0,0,[]⟩).record),vW ((M.recs.getD k ⟨0,0,0,[]⟩).count)] fun bU bV aL aM F=>?_
 have aO:=eH aL (xs:=[(M.recs.getD k ⟨0,0,0,[]⟩).file,(M.recs.getD k ⟨0,0,0,[]⟩).record,(M.recs.getD k ⟨0,0,0,[]⟩).count]) (by as_aux_lemma=>kernel_rfl) (al (by omega) (al (by omega) (al (by omega) aP))) (by(try simp only[List.length_cons,List.length_nil]);omega) aM
 refine ay<|dU (i2 (xs:=[(M.recs.getD k ⟨0,0,0,[]⟩).file,(M.recs.getD k ⟨0,0,0,[]⟩).record,(M.recs.getD k ⟨0,0,0,[]⟩).count]) (aO).rd (by(try simp only[bM]);omega)) fun bW bX bY aQ bZ c0 G=>?_
 have a0:=aJ F G
 refine L0<|bK be (xs:=(L++[6])) (ys:=(aN ([(M.recs.getD k ⟨0,0,0,[]⟩).file,(M.recs.getD k ⟨0,0,0,[]⟩).record,(M.recs.getD k ⟨0,0,0,[]⟩).count]))) (vB 0) 1 (au t a0 (fun x hx=>aE) (fun _ _ h=>h)) (aQ).rd (by(try simp only[bM,ax]);omega) (le (le (le (le (le (le a.size c.size) d.size) j.size) u.size) F.size) G.size) fun v c1 c2 a1 a2=>ah 1<|go<|Pl 2<|?_
 have H:=ut (aI.mono (S':=(ob l++[])) a0 aD) a2 (am il aD)
 refine aC (aI.blk H (bA (dJ n t (by decide)) aE) n) 3<|?_
 refine ay<|dU (i2 (xs:=(M.recs.getD k ⟨0,0,0,[]⟩).words) (eF.old Q (ut S (ut (aI.mono (S':=(ob A++(ob l++[]))) Z (am il aD)) H (am il aD)) (am (aU b p.size) (am (aU t p.size) aD)))) (by(try simp only[bM]);omega)) fun c3 c4 c5 aR c6 c7 I=>?_
 refine L0<|bK be (xs:=((L++[6])++(aN ([(M.recs.getD k ⟨0,0,0,[]⟩).file,(M.recs.getD k ⟨0,0,0,[]⟩).record,(M.recs.getD k ⟨0,0,0,[]⟩).count])))) (ys:=(aN ((M.recs.getD k ⟨0,0,0,[]⟩).words))) (vB 0) 1 (au a1 I (fun x hx=>aE) (fun _ _ h=>h)) (aR).rd (by(try simp only[bM,ax]);omega) (le (le (le (le (le (le (le (le a.size c.size) d.size) j.size) u.size) F.size) G.size) a2.size) I.size) fun aT aV c8 aW aX=>Pl 1<|nl<|bn<|tn<|go<|Pl 1<|bp ((k:Int)+1)<|Pl 1<|nl<|?_
 exact gK ((k+1),(((L++[6])++(aN ([(M.recs.getD k ⟨0,0,0,[]⟩).file,(M.recs.getD k ⟨0,0,0,[]⟩).record,(M.recs.getD k ⟨0,0,0,[]⟩).count])))++(aN ((M.recs.getD k ⟨0,0,0,[]⟩).words))),aT,aV) ⟨(ut a (ut (aI.mono (S':=(ob A++(ob l++(ob v++[])))) Y aD) (ut (aI.mono (S':=(ob A++(ob l++(ob v++[])))) u (am il aD)) (ut (aI.mono (S':=(ob l++(ob v++[]))) H (am il aD)) (ut (aI.mono (S':=(ob v++[])) I aD) aX (am il aD)) (am il aD)) (am il (am il aD))) (am il (am il (am il aD)))) (am (aU b lr) (am (aU t lr) (am (aU a1 lr) aD)))),aW,(by(try dsimp only);omega),(by(try dsimp only);rw[← hL,kL dir M.code M.recs k (by omega)];simp only[nT,f,i,bi,List.append_assoc]),(by(try dsimp only);have hv:=hf.recw _ (eB ⟨0,0,0,[]⟩ M.recs k (by omega));(try simp only[bM,ax]);omega),(by(try dsimp only);(try simp only[bM]);omega)⟩ (by omega)
 have ab:=of_decide_eq_false f
 refine xt<|tx<|tx<|bx<|tn<|aq 3<|L0<|cX (m:=1) (e:=5) #[vB ((L.length:Int)%256)] fun c9 ca aY b0 J=>?_
 have a3:=cD aY (xs:=[((L.length:Int)%256)]) (by as_aux_lemma=>kernel_rfl) (al (by omega) aP) (by(try simp only[List.length_cons,List.length_nil]);omega) b0
 refine Pl 1<|?_
 refine L0<|bK be (xs:=([((L.length:Int)%256)])) (ys:=L) (vB 0) 1 a3 ((au b J (fun x hx=>aE) (fun _ _ h=>h))).rd (by(try simp only[bM,ax]);omega) J.size fun b1 b2 cc b3 b4=>ah 1<|rt<|rr (.slice b1 (([((L.length:Int)%256)]++L).length) b2)<|?_
 have hL2:L=dz dir M.code M.recs:=by rw[show k=M.recs.length by omega,List.drop_length] at hL;rw[show dz dir M.code []=[] from rfl,List.append_nil] at hL;exact hL
 have hs:eX dir M=([((L.length:Int)%256)]++L):=by unfold eX;rw[← hL2]
 rw[hs]
 exact⟨_,rfl,(aZ.weaken b3 q.size),(aJ q (ut J b4 (am (aU a3 lr) aD)))⟩
open Go.RowKit
def gx (dir:Int)(M:aS) : List Int :=
  if M.mei==13 then [13]++M.data
  else if dir==0 then [M.mei,M.kind,M.next]
  else [M.mei,M.kind,M.level,M.more,M.next,(M.objects.length:Int)%256]++eT M.objects
theorem vO{m:Md}{cs:Array Value}{M:aS}{w:World}{dir:Int}(h:aH m w cs.toList M)(hf:bh M) : Calls Tryz.prog 188 #[vI dir,.agg cs] w (jP (gx dir M) w):=by
 refine fC h fun Aw kw Ab kb Ad kd Ar kr Ao ko e hw hbt hd hr ho _ _ _ _ _ _ _ _ _ _ q0 q1 q2 q3 q4 q5 q6 q7 q8 q9 aN aQ aR aT aW aX aY=>?_
 subst e
 have hf1:=hf.words
 have hf2:=hf.bits
 have hf3:=hf.data
 have hf4:=hf.recs
 have hf5:=hf.objects
 refine en 71 Tryz.func188 rfl<|sg<|L0<|cY (mG M.code M.fail M.addr M.count M.value M.and_ M.or_ M.addr2 M.sub M.status M.events M.messages (.slice Aw M.words.length kw) (.slice Ab M.bits.length kb) (.slice Ad M.data.length kd) (.slice Ar M.recs.length kr) M.mei M.kind M.level M.more M.next (.slice Ao M.objects.length ko)) fun q r b0 b c=>ah 1<|sq<|aq 1<|aC b 16<|Pl 1<|nl<|tn<|cb ((M.mei==13)) (fun g=>?_) (fun g=>?_)
 have X:=ag g
 refine sg<|L0<|cX (m:=1) (e:=5) #[vB 13] fun b1 b2 Y Z s=>?_
 have G:=cD Y (xs:=[13]) (by as_aux_lemma=>kernel_rfl) (al (by omega) aP) (by(try simp only[List.length_cons,List.length_nil]);omega) Z
 refine Pl 1<|?_
 refine aC (ub s b) 14<|?_
 have H:=aJ c s
 refine L0<|bK be (xs:=([13])) (ys:=M.data) (vB 0) 1 G (aV.old hd H) (by(try simp only[bM,ax]);omega) s.size fun a0 a1 b3 a2 a3=>ah 1<|b6<|rr (.slice a0 (([13]++M.data).length) a1)<|?_
 exact cI (by unfold gx;(try simp only[g,bi,Bool.or_true,Bool.true_or,Bool.or_false,Bool.false_or,Bool.and_true,Bool.true_and,Bool.and_false,Bool.false_and,reduceIte])<;>rfl) ⟨_,rfl,(aZ.weaken a2 c.size),(ut H a3 (am (aU G c.size) aD))⟩
 have X:=ai g
 refine bu<|sq<|aB 2<|cb ((dir==0)) (fun n=>?_) (fun n=>?_)
 have a4:=ag n
 refine aq 1<|aC b 16<|Pl 1<|aC b 17<|Pl 1<|aC b 20<|L0<|cX (m:=3) (e:=5) #[vB M.mei,vB M.kind,vB M.next] fun a5 b4 a6 a7 a8=>?_
 have a9:=cD a6 (xs:=[M.mei,M.kind,M.next]) (by as_aux_lemma=>kernel_rfl) (al (by omega) (al (by omega) (al (by omega) aP))) (by(try simp only[List.length_cons,List.length_nil]);omega) a7
 refine ah 1<|b6<|rr (.slice (some ⟨a5,0,none⟩) 3 3)<|?_
 exact cI (by unfold gx;(try simp only[g,n,bi,Bool.or_true,Bool.true_or,Bool.or_false,Bool.false_or,Bool.and_true,Bool.true_and,Bool.and_false,Bool.false_and,reduceIte])<;>rfl) ⟨_,rfl,(aZ.weaken a9 c.size),(aJ c a8)⟩
 have a4:=ai n
 refine bu<|aq 1<|aC b 16<|Pl 1<|aC b 17<|Pl 1<|aC b 18<|Pl 1<|aC b 19<|Pl 1<|aC b 20<|Pl 1<|aC b 21<|Pl 2<|L0<|cX (m:=6) (e:=5) #[vB M.mei,vB M.kind,vB M.level,vB M.more,vB M.next,vB ((M.objects.length:Int)%256)] fun aa ab ac ad t=>?_
 have af:=cD ac (xs:=[M.mei,M.kind,M.level,M.more,M.next,((M.objects.length:Int)%256)]) (by as_aux_lemma=>kernel_rfl) (al (by omega) (al (by omega) (al (by omega) (al (by omega) (al (by omega) (al (by omega) aP)))))) (by(try simp only[List.length_cons,List.length_nil]);omega) ad
 refine ah 1<|sq<|aB 1<|bk<|je (fun x=>[(3,vP q 0),(4,nS),(5,.slice x.2.2.1 x.2.1.length x.2.2.2),(6,vI (x.1:Int))]) (fun(x:Nat × List Int × Option Addr × Nat) w'=>aI [] r w'∧ab.heap.size≤w'.heap.size∧eE r.heap.size w' (.slice x.2.2.1 x.2.1.length x.2.2.2) x.2.1∧(x.1≤M.objects.length)∧(x.2.1++eT (M.objects.drop x.1)=([M.mei,M.kind,M.level,M.more,M.next,((M.objects.length:Int)%256)])++eT M.objects)∧(x.2.1.length≤16+x.1*1026)∧(6≤x.2.1.length)) (fun x=>M.objects.length-x.1) (0,[M.mei,M.kind,M.level,M.more,M.next,((M.objects.length:Int)%256)],some ⟨aa,0,none⟩,6) ⟨t,lr,af,(by(try dsimp only);omega),rfl,(by(try dsimp only);(try simp only[List.length_cons,List.length_nil]);omega),(by(try dsimp only);(try simp only[List.length_cons,List.length_nil]);omega)⟩ ?_
 rintro⟨k,L,A,cp⟩ aj ⟨u,y,ak,an,ao,ap,ar⟩
 refine gi [(3,vP q 0),(4,nS),(5,.slice A L.length cp),(6,vI (k:Int))] ?_
 have i:eE r.heap.size aj (.slice A L.length cp) L:=ak
 have b5:k≤M.objects.length:=an
 have b7:L++eT (M.objects.drop k)=([M.mei,M.kind,M.level,M.more,M.next,((M.objects.length:Int)%256)])++eT M.objects:=ao
 have b8:L.length≤16+k*1026:=ap
 have b9:6≤L.length:=ar
 have hL:L++eT (M.objects.drop k)=([M.mei,M.kind,M.level,M.more,M.next,((M.objects.length:Int)%256)])++eT M.objects:=by assumption
 have hv0:=fun(h:k<M.objects.length)=>hf.objv _ (eB ⟨0,[]⟩ M.objects k h)
 refine sq<|aq 2<|?_
 have I:=ub u b
 refine aC I 21<|ah 2<|?_
 have J:=aJ c u
 refine cb ((decide ((k:Int)<(M.objects.length:Int)))) (fun o=>?_) (fun o=>?_)
 have av:=of_decide_eq_true o
 refine bu<|sq<|bk<|sq<|nw (qi.elt ho k (by omega)) fun z B ba bb bc K N C O aw bd d=>Rg 18 (fun w'=>w'.cell? ⟨q,21,none⟩=some (.slice Ao M.objects.length ko)∧w'.cell? ⟨z,B+k*2+0,none⟩=some (vB ((M.objects.getD k ⟨0,[]⟩).id))∧w'.cell? ⟨z,B+k*2+1,none⟩=some (.slice K ((M.objects.getD k ⟨0,[]⟩).value.length) N)) fun bf j=>?_
 have P:=ub j I
 have Q:=aJ J j
 have D:=ub Q O
 refine bv ⟨(ae P rfl),(iC D d 0 rfl (by decide)),(iC D d 1 rfl (by decide))⟩ fun a=>Rt 0 a<|Rt 1 a<|Rl 2 a (fun _ hs=>hs.1)<|Rt 3 a<|Ri 4 a 2 M.objects.length k (k:Int) rfl C (by omega)<|Rt 5 a<|Rl 6 a (fun _ hs=>hs.2.1)<|Rt 7 a<|Rl 8 a (fun _ hs=>hs.1)<|Rt 9 a<|Ri 10 a 2 M.objects.length k (k:Int) rfl C (by omega)<|Rt 11 a<|Rl 12 a (fun _ hs=>hs.2.2)<|Rt 13 a<|Rt 14 a<|R0 15 rfl<|cX (m:=2) (e:=5) #[vB ((M.objects.getD k ⟨0,[]⟩).id),vB ((((M.objects.getD k ⟨0,[]⟩).value.length:Nat) : Int)%256)] fun bg bj ay aA f=>?_
 have aF:=cD ay (xs:=[(M.objects.getD k ⟨0,[]⟩).id,((((M.objects.getD k ⟨0,[]⟩).value.length:Nat) : Int)%256)]) (by as_aux_lemma=>kernel_rfl) (al (by omega) (al (by omega) aP)) (by(try simp only[List.length_cons,List.length_nil]);omega) aA
 have R:=ub f P
 have E:=ub f D
 refine bv ⟨(ae R rfl),(iC E d 0 rfl (by decide)),(iC E d 1 rfl (by decide))⟩ fun bl=>?_
 have S:=aJ j f
 refine R0 16 rfl<|bK be (xs:=L) (ys:=([(M.objects.getD k ⟨0,[]⟩).id,((((M.objects.getD k ⟨0,[]⟩).value.length:Nat) : Int)%256)])) (vB 0) 1 (au i S (fun x hx=>aE) (fun _ _ h=>h)) (aF).rd (by(try simp only[bM,ax]);omega) (le (le (le t.size y) j.size) f.size) fun T bm bo U l=>?_
 have V:=aI.blk l (bA (aO (az b) lr i) aE) R
 have F:=aI.blk l (bA (aO (az O) c.size i) aE) E
 refine bv ⟨(ae V rfl),(iC F d 0 rfl (by decide)),(iC F d 1 rfl (by decide))⟩ fun aG=>Rt 17 aG<|re<|tn<|go<|Pl 2<|aC V 21<|Pl 1<|L0<|w9 2 M.objects.length k C (by omega)<|Pl 1<|L0<|fR (p:=⟨z,B+k*2+1,none⟩) (v:=.slice K ((M.objects.getD k ⟨0,[]⟩).value.length) N) (iC F d 1 rfl (by decide))<|?_
 refine L0<|bK be (xs:=(L++[(M.objects.getD k ⟨0,[]⟩).id,((((M.objects.getD k ⟨0,[]⟩).value.length:Nat) : Int)%256)])) (ys:=((M.objects.getD k ⟨0,[]⟩).value)) (vB 0) 1 U (aV.old aw (ut Q (ut (aI.mono (S':=(ob A++[])) f aD) l (am il aD)) (am (aU i c.size) aD))) (by(try simp only[bM,ax]);omega) (le (le (le (le t.size y) j.size) f.size) l.size) fun aK aL bq aM W=>Pl 1<|nl<|bn<|tn<|go<|Pl 1<|bp ((k:Int)+1)<|Pl 1<|nl<|?_
 exact gK ((k+1),((L++[(M.objects.getD k ⟨0,[]⟩).id,((((M.objects.getD k ⟨0,[]⟩).value.length:Nat) : Int)%256)])++(M.objects.getD k ⟨0,[]⟩).value),aK,aL) ⟨(ut u (ut (aI.mono (S':=(ob A++(ob T++[]))) S aD) (ut (aI.mono (S':=(ob A++(ob T++[]))) l (am il aD)) W (am il aD)) (am il (am il aD))) (am (aU i lr) (am (aU U lr) aD))),(le (le (le (le y j.size) f.size) l.size) W.size),aM,(by(try dsimp only);omega),(by(try dsimp only);rw[← hL,pC  M.objects k (by omega)];simp only[List.append_assoc]),(by(try dsimp only);have hv:=hf.objv _ (eB ⟨0,[]⟩ M.objects k (by omega));(try simp only[bM,ax]);omega),(by(try dsimp only);(try simp only[bM]);omega)⟩ (by omega)
 have av:=of_decide_eq_false o
 refine xt<|tx<|tx<|bx<|tn<|aB 2<|rt<|rr (.slice A L.length cp)<|?_
 have hk:k=M.objects.length:=by omega
 rw[hk,List.drop_length] at hL
 have hL2:L=([M.mei,M.kind,M.level,M.more,M.next,((M.objects.length:Int)%256)])++eT M.objects:=by rw[← hL];simp[eT]
 have hs:gx dir M=L:=by
   rw[hL2]
   unfold gx
   (try simp only[g,n,o,bi,reduceIte])
   all_goals rfl
 rw[hs]
 exact⟨_,rfl,(aZ.weaken i c.size),J⟩
open Go.RowKit
theorem jE{parse:Int→Int→List Int→aS × Int}{lay:Int→aS→List Int}{dir E:Int}{M X:aS}(hX:parse dir M.code (lay dir M)=(X,E))(hE:((E != 0)||(!(decide (X=M))))=true) : bt parse lay dir M=none:=by
  unfold bt
  rw[hX,if_neg]
  intro h
  injection h with h1 h2
  rw[h1,h2] at hE
  simp at hE
theorem lW(dir c:Int) : ∀ (L:List dl),(∀ r,r∈L→r.words.length≤1024)→(dz dir c L).length≤2064*L.length
  | [],_=>by simp[dz]
  | r :: L,h=>by
    have h1:=h r (by simp)
    have h2:=lW dir c L fun x hx=>h x (by simp[hx])
    simp only[dz,nT]
    repeat' split
    all_goals simp only[bM,ax]
    all_goals omega
theorem ik{M:aS}(hf:bh M)(dir:Int) : (eu dir M).length≤1048000∧(dW dir M).length≤1048000∧(fi dir M).length≤1048000∧(gx dir M).length≤1048000∧(eX dir M).length≤1048000:=by
  have hp:(bP M.bits).length≤1024:=by
    have:=hf.bits
    simp only[bP,List.length_map,List.length_range,ep]
    omega
  have h1:=hf.words
  have h2:=hf.data
  have h3:=hf.objects
  have h4:=nY M.objects hf.objv
  have h5:=lW dir M.code M.recs hf.recw
  have h6:=hf.recs
  refine⟨?_,?_,?_,?_,?_⟩
  · unfold eu
    repeat' split
    all_goals simp only[bM,ax]
    all_goals omega
  · unfold dW
    repeat' split
    all_goals simp only[bM,ax]
    all_goals omega
  · unfold fi
    repeat' split
    all_goals simp only[bM,ax]
    all_goals omega
  · unfold gx
    repeat' split
    all_goals simp only[bM]
    all_goals omega
  · unfold eX
    simp only[bM]
    omega
theorem kT{m:Md}{cs:Array Value}{M:aS}{w:World}{dir:Int}(h:aH m w cs.toList M)(hf:bh M) : Calls Tryz.prog 121 #[vI dir,.agg cs] w (dT (bt (ak aR) eu dir M) w):=by
 have hM:=h
 have hlen:=(ik hf dir).1
 refine fC h fun Aw kw Ab kb Ad kd Ar kr Ao ko e hw hbt hd hr ho _ _ _ _ _ _ _ _ _ _ q0 q1 q2 q3 q4 q5 q6 q7 q8 q9 T U V W X Y Z=>?_
 subst e
 refine en 31 Tryz.func121 rfl<|sg<|L0<|cY (mG M.code M.fail M.addr M.count M.value M.and_ M.or_ M.addr2 M.sub M.status M.events M.messages (.slice Aw M.words.length kw) (.slice Ab M.bits.length kb) (.slice Ad M.data.length kd) (.slice Ar M.recs.length kr) M.mei M.kind M.level M.more M.next (.slice Ao M.objects.length ko)) fun a0 a1 a2 l g=>Pl 2<|aL 1<|L0<|cm l<|?_
 have n:=aH.old hM g
 refine ay<|dU (ua (dir:=dir) n hf) fun D E F o a3 a4 p=>Pl 1<|aL 2<|?_
 have q:=ub p l
 refine aC q 0<|Pl 1<|pr (ak aR dir M.code (eu dir M)) fun a i j=>?_
 have r:Calls _ _ _ _ (cN _ _ (ak aR dir M.code (eu dir M)) F):=kB (dir:=dir) (c:=M.code) q0 (o).rd (by omega)
 rw[j] at r
 refine ay<|e2 (r) fun G a5 H s=>?_
 have t:=au o s (fun x hx=>aE) (fun _ _ h=>h)
 have b:=bG.rdt H (t).rd
 refine Pl 3<|aK mZ fun a6 a7 I J L=>aG (hz:=(by rw[b.size];exact aQ)) (hv:=b.size) (h1:=b.one) J (G) fun a8 N O=>Pl 1<|ng<|L0<|cm (hz:=(by rw[b.size];exact aQ)) N<|?_
 have k:=ud L O I
 have u:=aJ s k
 refine L0<|cm (ub u q)<|?_
 have v:=aJ p u
 refine ay<|m1 (db (A:=a) (B:=M) (aH.upd b k aM) (aH.old n v)) fun a9 y=>ah 1<|sq<|aq 3<|cu 3 [26] 29 (((i != 0)||(!(decide (a=M))))) (fun K z=>?_) ?_
 refine bl 26 ((i != 0)) (fun d=>?_) (fun d=>?_)
 have P:=aA d
 exact Pl 3<|ce z true (by rw[d];rfl)
 have P:=aF d
 exact Pl 3<|ce z (!(decide (a=M))) (by rw[d];rfl)
 refine nt<|?_
 have C:=aJ g (aJ v y)
 refine cb (((i != 0)||(!(decide (a=M))))) (fun f=>?_) (fun f=>?_)
 refine aB 2<|b6<|rr (.tuple #[nS,vI 1])<|cL (jE j f) ?_
 exact⟨rfl,C⟩
 have Q:=(bL f).1
 have R:=(bL f).2
 have S:(decide (a=M))=true:=by simpa using R
 refine bu<|aB 3<|rt<|rr (.tuple #[.slice D ((eu dir M).length) E,vI 0])<|cL (ji j Q S) ?_
 exact⟨_,rfl,(aZ.weaken (au t (aJ k y) (fun x hx=>aE) (fun _ _ h=>h)) g.size),C⟩
theorem lL{m:Md}{cs:Array Value}{M:aS}{w:World}{dir:Int}(h:aH m w cs.toList M)(hf:bh M) : Calls Tryz.prog 122 #[vI dir,.agg cs] w (dT (bt (ak aY) dW dir M) w):=by
 have hM:=h
 have hlen:=(ik hf dir).2.1
 refine fC h fun Aw kw Ab kb Ad kd Ar kr Ao ko e hw hbt hd hr ho _ _ _ _ _ _ _ _ _ _ q0 q1 q2 q3 q4 q5 q6 q7 q8 q9 T U V W X Y Z=>?_
 subst e
 refine en 31 Tryz.func122 rfl<|sg<|L0<|cY (mG M.code M.fail M.addr M.count M.value M.and_ M.or_ M.addr2 M.sub M.status M.events M.messages (.slice Aw M.words.length kw) (.slice Ab M.bits.length kb) (.slice Ad M.data.length kd) (.slice Ar M.recs.length kr) M.mei M.kind M.level M.more M.next (.slice Ao M.objects.length ko)) fun a0 a1 a2 l g=>Pl 2<|aL 1<|L0<|cm l<|?_
 have n:=aH.old hM g
 refine ay<|dU (vH (dir:=dir) n hf) fun D E F o a3 a4 p=>Pl 1<|aL 2<|?_
 have q:=ub p l
 refine aC q 0<|Pl 1<|pr (ak aY dir M.code (dW dir M)) fun a i j=>?_
 have r:Calls _ _ _ _ (cN _ _ (ak aY dir M.code (dW dir M)) F):=lM (dir:=dir) (c:=M.code) q0 (o).rd (by omega)
 rw[j] at r
 refine ay<|e2 (r) fun G a5 H s=>?_
 have t:=au o s (fun x hx=>aE) (fun _ _ h=>h)
 have b:=bG.rdt H (t).rd
 refine Pl 3<|aK mZ fun a6 a7 I J L=>aG (hz:=(by rw[b.size];exact aQ)) (hv:=b.size) (h1:=b.one) J (G) fun a8 N O=>Pl 1<|ng<|L0<|cm (hz:=(by rw[b.size];exact aQ)) N<|?_
 have k:=ud L O I
 have u:=aJ s k
 refine L0<|cm (ub u q)<|?_
 have v:=aJ p u
 refine ay<|m1 (db (A:=a) (B:=M) (aH.upd b k aM) (aH.old n v)) fun a9 y=>ah 1<|sq<|aq 3<|cu 3 [26] 29 (((i != 0)||(!(decide (a=M))))) (fun K z=>?_) ?_
 refine bl 26 ((i != 0)) (fun d=>?_) (fun d=>?_)
 have P:=aA d
 exact Pl 3<|ce z true (by rw[d];rfl)
 have P:=aF d
 exact Pl 3<|ce z (!(decide (a=M))) (by rw[d];rfl)
 refine nt<|?_
 have C:=aJ g (aJ v y)
 refine cb (((i != 0)||(!(decide (a=M))))) (fun f=>?_) (fun f=>?_)
 refine aB 2<|b6<|rr (.tuple #[nS,vI 1])<|cL (jE j f) ?_
 exact⟨rfl,C⟩
 have Q:=(bL f).1
 have R:=(bL f).2
 have S:(decide (a=M))=true:=by simpa using R
 refine bu<|aB 3<|rt<|rr (.tuple #[.slice D ((dW dir M).length) E,vI 0])<|cL (ji j Q S) ?_
 exact⟨_,rfl,(aZ.weaken (au t (aJ k y) (fun x hx=>aE) (fun _ _ h=>h)) g.size),C⟩
theorem lF{m:Md}{cs:Array Value}{M:aS}{w:World}{dir:Int}(h:aH m w cs.toList M)(hf:bh M) : Calls Tryz.prog 123 #[vI dir,.agg cs] w (dT (bt (ak bo) fi dir M) w):=by
 have hM:=h
 have hlen:=(ik hf dir).2.2.1
 refine fC h fun Aw kw Ab kb Ad kd Ar kr Ao ko e hw hbt hd hr ho _ _ _ _ _ _ _ _ _ _ q0 q1 q2 q3 q4 q5 q6 q7 q8 q9 T U V W X Y Z=>?_
 subst e
 refine en 31 Tryz.func123 rfl<|sg<|L0<|cY (mG M.code M.fail M.addr M.count M.value M.and_ M.or_ M.addr2 M.sub M.status M.events M.messages (.slice Aw M.words.length kw) (.slice Ab M.bits.length kb) (.slice Ad M.data.length kd) (.slice Ar M.recs.length kr) M.mei M.kind M.level M.more M.next (.slice Ao M.objects.length ko)) fun a0 a1 a2 l g=>Pl 2<|aL 1<|L0<|cm l<|?_
 have n:=aH.old hM g
 refine ay<|dU (vS (dir:=dir) n hf) fun D E F o a3 a4 p=>Pl 1<|aL 2<|?_
 have q:=ub p l
 refine aC q 0<|Pl 1<|pr (ak bo dir M.code (fi dir M)) fun a i j=>?_
 have r:Calls _ _ _ _ (cN _ _ (ak bo dir M.code (fi dir M)) F):=lZ (dir:=dir) (c:=M.code) q0 (o).rd (by omega)
 rw[j] at r
 refine ay<|e2 (r) fun G a5 H s=>?_
 have t:=au o s (fun x hx=>aE) (fun _ _ h=>h)
 have b:=bG.rdt H (t).rd
 refine Pl 3<|aK mZ fun a6 a7 I J L=>aG (hz:=(by rw[b.size];exact aQ)) (hv:=b.size) (h1:=b.one) J (G) fun a8 N O=>Pl 1<|ng<|L0<|cm (hz:=(by rw[b.size];exact aQ)) N<|?_
 have k:=ud L O I
 have u:=aJ s k
 refine L0<|cm (ub u q)<|?_
 have v:=aJ p u
 refine ay<|m1 (db (A:=a) (B:=M) (aH.upd b k aM) (aH.old n v)) fun a9 y=>ah 1<|sq<|aq 3<|cu 3 [26] 29 (((i != 0)||(!(decide (a=M))))) (fun K z=>?_) ?_
 refine bl 26 ((i != 0)) (fun d=>?_) (fun d=>?_)
 have P:=aA d
 exact Pl 3<|ce z true (by rw[d];rfl)
 have P:=aF d
 exact Pl 3<|ce z (!(decide (a=M))) (by rw[d];rfl)
 refine nt<|?_
 have C:=aJ g (aJ v y)
 refine cb (((i != 0)||(!(decide (a=M))))) (fun f=>?_) (fun f=>?_)
 refine aB 2<|b6<|rr (.tuple #[nS,vI 1])<|cL (jE j f) ?_
 exact⟨rfl,C⟩
 have Q:=(bL f).1
 have R:=(bL f).2
 have S:(decide (a=M))=true:=by simpa using R
 refine bu<|aB 3<|rt<|rr (.tuple #[.slice D ((fi dir M).length) E,vI 0])<|cL (ji j Q S) ?_
 exact⟨_,rfl,(aZ.weaken (au t (aJ k y) (fun x hx=>aE) (fun _ _ h=>h)) g.size),C⟩
theorem kE{m:Md}{cs:Array Value}{M:aS}{w:World}{dir:Int}(h:aH m w cs.toList M)(hf:bh M) : Calls Tryz.prog 124 #[vI dir,.agg cs] w (dT (bt (ak bg) eX dir M) w):=by
 have hM:=h
 have hlen:=(ik hf dir).2.2.2.2
 refine fC h fun Aw kw Ab kb Ad kd Ar kr Ao ko e hw hbt hd hr ho _ _ _ _ _ _ _ _ _ _ q0 q1 q2 q3 q4 q5 q6 q7 q8 q9 T U V W X Y Z=>?_
 subst e
 refine en 31 Tryz.func124 rfl<|sg<|L0<|cY (mG M.code M.fail M.addr M.count M.value M.and_ M.or_ M.addr2 M.sub M.status M.events M.messages (.slice Aw M.words.length kw) (.slice Ab M.bits.length kb) (.slice Ad M.data.length kd) (.slice Ar M.recs.length kr) M.mei M.kind M.level M.more M.next (.slice Ao M.objects.length ko)) fun a0 a1 a2 l g=>Pl 2<|aL 1<|L0<|cm l<|?_
 have n:=aH.old hM g
 refine ay<|dU (rD (dir:=dir) n hf) fun D E F o a3 a4 p=>Pl 1<|aL 2<|?_
 have q:=ub p l
 refine aC q 0<|Pl 1<|pr (ak bg dir M.code (eX dir M)) fun a i j=>?_
 have r:Calls _ _ _ _ (cN _ _ (ak bg dir M.code (eX dir M)) F):=kK (dir:=dir) (c:=M.code) q0 (o).rd (by omega)
 rw[j] at r
 refine ay<|e2 (r) fun G a5 H s=>?_
 have t:=au o s (fun x hx=>aE) (fun _ _ h=>h)
 have b:=bG.rdt H (t).rd
 refine Pl 3<|aK mZ fun a6 a7 I J L=>aG (hz:=(by rw[b.size];exact aQ)) (hv:=b.size) (h1:=b.one) J (G) fun a8 N O=>Pl 1<|ng<|L0<|cm (hz:=(by rw[b.size];exact aQ)) N<|?_
 have k:=ud L O I
 have u:=aJ s k
 refine L0<|cm (ub u q)<|?_
 have v:=aJ p u
 refine ay<|m1 (db (A:=a) (B:=M) (aH.upd b k aM) (aH.old n v)) fun a9 y=>ah 1<|sq<|aq 3<|cu 3 [26] 29 (((i != 0)||(!(decide (a=M))))) (fun K z=>?_) ?_
 refine bl 26 ((i != 0)) (fun d=>?_) (fun d=>?_)
 have P:=aA d
 exact Pl 3<|ce z true (by rw[d];rfl)
 have P:=aF d
 exact Pl 3<|ce z (!(decide (a=M))) (by rw[d];rfl)
 refine nt<|?_
 have C:=aJ g (aJ v y)
 refine cb (((i != 0)||(!(decide (a=M))))) (fun f=>?_) (fun f=>?_)
 refine aB 2<|b6<|rr (.tuple #[nS,vI 1])<|cL (jE j f) ?_
 exact⟨rfl,C⟩
 have Q:=(bL f).1
 have R:=(bL f).2
 have S:(decide (a=M))=true:=by simpa using R
 refine bu<|aB 3<|rt<|rr (.tuple #[.slice D ((eX dir M).length) E,vI 0])<|cL (ji j Q S) ?_
 exact⟨_,rfl,(aZ.weaken (au t (aJ k y) (fun x hx=>aE) (fun _ _ h=>h)) g.size),C⟩
theorem mK{m:Md}{cs:Array Value}{M:aS}{w:World}{dir:Int}(h:aH m w cs.toList M)(hf:bh M) : Calls Tryz.prog 125 #[vI dir,.agg cs] w (dT (bt (ak bJ) gx dir M) w):=by
 have hM:=h
 have hlen:=(ik hf dir).2.2.2.1
 refine fC h fun Aw kw Ab kb Ad kd Ar kr Ao ko e hw hbt hd hr ho _ _ _ _ _ _ _ _ _ _ q0 q1 q2 q3 q4 q5 q6 q7 q8 q9 T U V W X Y Z=>?_
 subst e
 refine en 31 Tryz.func125 rfl<|sg<|L0<|cY (mG M.code M.fail M.addr M.count M.value M.and_ M.or_ M.addr2 M.sub M.status M.events M.messages (.slice Aw M.words.length kw) (.slice Ab M.bits.length kb) (.slice Ad M.data.length kd) (.slice Ar M.recs.length kr) M.mei M.kind M.level M.more M.next (.slice Ao M.objects.length ko)) fun a0 a1 a2 l g=>Pl 2<|aL 1<|L0<|cm l<|?_
 have n:=aH.old hM g
 refine ay<|dU (vO (dir:=dir) n hf) fun D E F o a3 a4 p=>Pl 1<|aL 2<|?_
 have q:=ub p l
 refine aC q 0<|Pl 1<|pr (ak bJ dir M.code (gx dir M)) fun a i j=>?_
 have r:Calls _ _ _ _ (cN _ _ (ak bJ dir M.code (gx dir M)) F):=nH (dir:=dir) (c:=M.code) q0 (o).rd (by omega)
 rw[j] at r
 refine ay<|e2 (r) fun G a5 H s=>?_
 have t:=au o s (fun x hx=>aE) (fun _ _ h=>h)
 have b:=bG.rdt H (t).rd
 refine Pl 3<|aK mZ fun a6 a7 I J L=>aG (hz:=(by rw[b.size];exact aQ)) (hv:=b.size) (h1:=b.one) J (G) fun a8 N O=>Pl 1<|ng<|L0<|cm (hz:=(by rw[b.size];exact aQ)) N<|?_
 have k:=ud L O I
 have u:=aJ s k
 refine L0<|cm (ub u q)<|?_
 have v:=aJ p u
 refine ay<|m1 (db (A:=a) (B:=M) (aH.upd b k aM) (aH.old n v)) fun a9 y=>ah 1<|sq<|aq 3<|cu 3 [26] 29 (((i != 0)||(!(decide (a=M))))) (fun K z=>?_) ?_
 refine bl 26 ((i != 0)) (fun d=>?_) (fun d=>?_)
 have P:=aA d
 exact Pl 3<|ce z true (by rw[d];rfl)
 have P:=aF d
 exact Pl 3<|ce z (!(decide (a=M))) (by rw[d];rfl)
 refine nt<|?_
 have C:=aJ g (aJ v y)
 refine cb (((i != 0)||(!(decide (a=M))))) (fun f=>?_) (fun f=>?_)
 refine aB 2<|b6<|rr (.tuple #[nS,vI 1])<|cL (jE j f) ?_
 exact⟨rfl,C⟩
 have Q:=(bL f).1
 have R:=(bL f).2
 have S:(decide (a=M))=true:=by simpa using R
 refine bu<|aB 3<|rt<|rr (.tuple #[.slice D ((gx dir M).length) E,vI 0])<|cL (ji j Q S) ?_
 exact⟨_,rfl,(aZ.weaken (au t (aJ k y) (fun x hx=>aE) (fun _ _ h=>h)) g.size),C⟩
def sD (M:aS) : List Int:=[(M.code+128)%256,M.fail]
def gf (M:aS) : Option (List Int):=if decide (128≤M.code) then none else bt (fun _ _ b=>fd b) (fun _ M=>sD M) 0 M
theorem nj{m:Md}{cs:Array Value}{M:aS}{w:World}(h:aH m w cs.toList M) : Calls Tryz.prog 120 #[.agg cs] w (dT (gf M) w):=by
 have hM:=h
 refine fC h fun Aw kw Ab kb Ad kd Ar kr Ao ko e hw hbt hd hr ho _ _ _ _ _ _ _ _ _ _ q0 q1 q2 q3 q4 q5 q6 q7 q8 q9 U V W X Y Z a0=>?_
 subst e
 refine en 32 Tryz.func120 rfl<|sg<|L0<|cY (mG M.code M.fail M.addr M.count M.value M.and_ M.or_ M.addr2 M.sub M.status M.events M.messages (.slice Aw M.words.length kw) (.slice Ab M.bits.length kb) (.slice Ad M.data.length kd) (.slice Ar M.recs.length kr) M.mei M.kind M.level M.more M.next (.slice Ao M.objects.length ko)) fun a1 a2 a3 g j=>ah 2<|sq<|aq 1<|aC g 0<|Pl 1<|nl<|tn<|cb ((decide (128≤M.code))) (fun a=>?_) (fun a=>?_)
 have z:=of_decide_eq_true a
 refine aB 2<|b6<|rr (.tuple #[nS,vI 1])<|cL (show gf M=none by unfold gf;rw[a];rfl) ?_
 exact⟨rfl,j⟩
 have z:=of_decide_eq_false a
 refine bu<|aq 1<|aC g 0<|Pl 2<|aC g 1<|L0<|cX (m:=2) (e:=5) #[vB ((M.code+128)%256),vB M.fail] fun C D E F G=>?_
 have o:=cD E (xs:=[((M.code+128)%256),M.fail]) (by as_aux_lemma=>kernel_rfl) (al (by omega) (al (by omega) aP)) (by(try simp only[List.length_cons,List.length_nil]);omega) F
 refine Pl 1<|aL 1<|?_
 have a4:sD M=[((M.code+128)%256),M.fail]:=rfl
 refine pr (fd (sD M)) fun c k l=>?_
 have p:Calls _ _ _ _ (cN _ _ (fd (sD M)) D):=mV (o).rd (show(2:Nat)≤1048576 from by decide)
 rw[l] at p
 refine ay<|e2 (p) fun H a5 I q=>?_
 have r:=au o q (fun x hx=>aE) (fun _ _ h=>h)
 have d:=bG.rdt I (r).rd
 refine Pl 3<|aK mZ fun a6 a7 J L N=>aG (hz:=(by rw[d.size];exact aQ)) (hv:=d.size) (h1:=d.one) L (H) fun a8 O P=>Pl 1<|ng<|L0<|cm (hz:=(by rw[d.size];exact aQ)) O<|?_
 have n:=ud N P J
 have s:=aJ G (aJ q n)
 refine L0<|cm (ub s g)<|?_
 have t:=aJ j s
 refine ay<|m1 (db (A:=c) (B:=M) (aH.upd d n aM) (aH.old hM t)) fun a9 u=>ah 1<|sq<|aq 3<|cu 3 [27] 30 (((k != 0)||(!(decide (c=M))))) (fun K v=>?_) ?_
 refine bl 27 ((k != 0)) (fun f=>?_) (fun f=>?_)
 have Q:=aA f
 exact Pl 3<|ce v true (by rw[f];rfl)
 have Q:=aF f
 exact Pl 3<|ce v (!(decide (c=M))) (by rw[f];rfl)
 refine nt<|?_
 have y:=aJ t u
 refine cb (((k != 0)||(!(decide (c=M))))) (fun i=>?_) (fun i=>?_)
 refine aB 2<|b6<|rr (.tuple #[nS,vI 1])<|cL (show gf M=bt (fun _ _ b=>fd b) (fun _ M=>sD M) 0 M by unfold gf;rw[a];rfl) ?_
 refine cL (jE l i) ?_
 exact⟨rfl,y⟩
 have R:=(bL i).1
 have S:=(bL i).2
 have T:(decide (c=M))=true:=by simpa using S
 refine bu<|aB 3<|rt<|rr (.tuple #[.slice (some ⟨C,0,none⟩) 2 2,vI 0])<|cL (show gf M=bt (fun _ _ b=>fd b) (fun _ M=>sD M) 0 M by unfold gf;rw[a];rfl) ?_
 refine cL (ji l R T) ?_
 exact⟨_,rfl,(aZ.weaken (au r (aJ n u) (fun x hx=>aE) (fun _ _ h=>h)) j.size),y⟩
end Go.Proofs.YtdkhbcefkfgbdaaGreat
namespace Go.Proofs.YtdkhbcefkfgbdaaGreat
variable {M:aS}{dir:Int}
theorem wO(hd:dir=0∨dir=1)(hc:M.code=1∨M.code=2∨M.code=5∨M.code=15) : eu dir M=cC dir M:=by
  unfold eu cC
  rcases hd with rfl|rfl<;>rcases hc with h|h|h|h<;>rw[h]<;>rfl
theorem zD(hd:dir=0∨dir=1)(hc:M.code=3∨M.code=4∨M.code=6∨M.code=16∨M.code=22∨M.code=23∨M.code=24) : dW dir M=cj dir M:=by
  unfold dW cj
  rw[show 2*(M.words.length:Int)+2=2+2*(M.words.length:Int) from by omega]
  rcases hd with rfl|rfl<;>rcases hc with h|h|h|h|h|h|h<;>rw[h]<;>rfl
theorem yz(hd:dir=0∨dir=1) : fi dir M=bV dir M:=by
  unfold fi bV
  rw[show(M.data.length:Int)+6=6+(M.data.length:Int) from by omega]
  rfl
theorem y2:gx dir M=dA dir M:=by
  unfold gx dA
  split
  · rename_i h
    rw[ag h]
  · rfl
theorem nN(dir c:Int) : ∀ L:List dl,dz dir c L=cE dir c L
  | []=>rfl
  | r :: L=>by
    show nT dir c r++dz dir c L=g7 dir c r++cE dir c L
    rw[nN dir c L]
    unfold nT g7
    rw[show 2*(r.words.length:Int)+1=1+2*(r.words.length:Int) from by omega]
theorem u7:eX dir M=dg dir M:=by
  rw[lX]
  unfold eX
  rw[nN]
def eZ (dir:Int)(M:aS) : Option (List Int) :=
  match bt (ak aR) eu dir M with
  | some l=>some l
  | none=>match bt (ak aY) dW dir M with
    | some l=>some l
    | none=>match bt (ak bo) fi dir M with
      | some l=>some l
      | none=>match bt (ak bg) eX dir M with
        | some l=>some l
        | none=>bt (ak bJ) gx dir M
def dI (dir:Int)(M:aS) : Option (List Int) :=
  match gf M with
  | some l=>some l
  | none=>match eZ dir M with
    | some l=>some ([M.code]++l)
    | none=>none
variable {B:Int→aS→List Int}
theorem Es{form:Int→Int→ap→Option (ap × aS)}    (hd:dir=0∨dir=1)(hf:∀ C,form dir M.code C=none) : bt (ak form) B dir M=none:=by
  cases h:bt (ak form) B dir M with
  | none=>rfl
  | some l =>
    have h1:=(dy h).1
    rw[nP hd (hf _)] at h1
    injection h1 with _ h2
    cases h2
variable {l:List Int}
theorem sG{parse:Int→Int→List Int→aS × Int}{lay:Int→aS→List Int}    (h:bt parse lay dir M=some l)(he:B dir M=lay dir M) : bt parse B dir M=some l:=by
  unfold bt at h ⊢
  rw[he]
  exact h
theorem fU(hc:0≤M.code∧M.code<256)(h:cZ dir M=some l) : dir=0∨dir=1:=by
  rcases ic hc h with⟨_,rfl,_⟩|⟨_,hk,_,l',h4,_⟩
  · exact .inr rfl
  · by_cases hd:dir=0∨dir=1
    · exact hd
    · have h5:=(lh h4).2
      exfalso
      have no:∀ form b,ak form dir (([M.code]++l').getD 0 0) b=(M,0)→False:=fun form b hp=>by
        unfold ak at hp
        rw[if_neg hd] at hp
        injection hp with _ h2
        cases h2
      unfold ir at h5
      split at h5
      · exact no _ _ h5
      · exact no _ _ h5
      · exact no _ _ h5
      · exact no _ _ h5
      · exact no _ _ h5
      · injection h5 with _ h2
        cases h2
theorem uW(hc:0≤M.code∧M.code<256)(hf:0≤M.fail∧M.fail<256)(h:cZ dir M=some l) : dI dir M=some l:=by
  have hd:=fU hc h
  rcases ic hc h with⟨h1,rfl,h2,h3,h4,rfl,h5⟩|⟨h1,h2,h3,l',h4,h5,rfl⟩
  · have k:gf M=some [M.code+128,M.fail]:=by
      unfold gf
      rw[if_neg (by simp only[decide_eq_true_eq];omega)]
      have hb:sD M=[M.code+128,M.fail]:=by unfold sD;rw[show(M.code+128)%256=M.code+128 from by omega]
      refine fF hb ?_
      have hb:(M.code+128-128)%256=M.code:=by omega
      have jd:decide (M.code+128<128)=false:=by simp;omega
      show fd [M.code+128,M.fail]=(M,0)
      unfold fd
      simp only[List.length_cons,List.length_nil,List.getD_cons_zero,List.getD_cons_succ,hb,jd,h2,h3]
      show(i5 M.code M.fail,(0:Int))=(M,0)
      rw[← h4]
    unfold dI
    rw[k]
  · have k:gf M=none:=by
      cases hw:gf M with
      | none=>rfl
      | some l2 =>
        unfold gf at hw
        split at hw
        · cases hw
        · have h6:=(dy hw).1
          obtain⟨h7,_,_,h8,_⟩:=uG h6
          have h9:=sK h8
          have a:M.fail=l2.getD 1 0:=by rw[h7];rfl
          rw[← a,h1] at h9
          cases h9
    have no:∀ (form:Int→Int→ap→Option (ap × aS)) (B:Int→aS→List Int),(∀ C,form dir M.code C=none)→bt (ak form) B dir M=none:=fun form B hf=>Es hd hf
    have kc:eZ dir M=some l':=by
      unfold eZ
      rcases iA M.code with⟨hk,hf⟩|⟨hk,hf⟩|⟨hk,hf⟩|⟨hk,hf⟩|⟨hk,hf⟩|⟨hk,hf⟩<;>rw[hf] at h4
      · have h4:bt (ak aR) cC dir M=some l':=h4
        rw[sG h4 (wO hd hk)]
      · have h4:bt (ak aY) cj dir M=some l':=h4
        rw[no aR _ (fun C=>by rcases hk with h | h | h | h | h | h | h<;>rw[h]<;>rfl),sG h4 (zD hd hk)]
      · have h4:bt (ak bo) bV dir M=some l':=h4
        rw[no aR _ (fun C=>by rcases hk with h | h | h | h | h<;>rw[h]<;>rfl),no aY _ (fun C=>by rcases hk with h | h | h | h | h<;>rw[h]<;>rfl),sG h4 (yz hd)]
      · have h4:bt (ak bg) dg dir M=some l':=h4
        rw[no aR _ (fun C=>by rcases hk with h | h<;>rw[h]<;>rfl),no aY _ (fun C=>by rcases hk with h | h<;>rw[h]<;>rfl),no bo _ (fun C=>by rcases hk with h | h<;>rw[h]<;>rfl),sG h4 u7]
      · have h4:bt (ak bJ) dA dir M=some l':=h4
        rw[no aR _ (fun C=>by rw[hk]<;>rfl),no aY _ (fun C=>by rw[hk]<;>rfl),no bo _ (fun C=>by rw[hk]<;>rfl),no bg _ (fun C=>by rw[hk]<;>rfl),sG h4 y2]
      · exact absurd hf h2
    unfold dI
    rw[k,kc]
variable {b:List Int}
theorem zl(h:ci dir b=(M,0)) : dir=0∨dir=1:=by
  unfold ci at h
  split at h
  · injection h with _ h
    cases h
  · rename_i hh
    simp only[Bool.and_eq_true,bne_iff_ne,ne_eq] at hh
    omega
theorem wL(hc:0≤M.code∧M.code<256)(hf:0≤M.fail∧M.fail<256)(hk:dI dir M=none) : cZ dir M=none:=by
  cases h:cZ dir M with
  | none=>rfl
  | some l=>rw[uW hc hf h] at hk;cases hk
variable {E:Int}
theorem iw{X:aS}  (hc:0≤M.code∧M.code<256)(hf:0≤M.fail∧M.fail<256)(hk:dI dir M=some b)(hX:ci dir b=(X,E))(hE:((E != 0)||(!(decide (X=M))))=true) : cZ dir M=none:=by
  cases h:cZ dir M with
  | none=>rfl
  | some l =>
    rw[uW hc hf h] at hk
    injection hk with hk
    subst hk
    rw[qE (fU hc h) hc hf h] at hX
    injection hX with h1 h2
    subst h1 h2
    simp at hE
theorem jN{X:aS}  (hr:∀ x,x∈b→0≤x∧x<256)(hX:ci dir b=(X,E))(hE:(E != 0)=false)(h:decide (X=M)=true) : cZ dir M=some b:=by
  have h1:X=M:=by simpa using h
  have h2:E=0:=by simpa using hE
  subst h1 h2
  exact kO (zl hX) hr hX
open Go.RowKit
theorem zi{p:Int→Int→List Int→aS × Int}     (h:bt p B dir M=some l)(hB:(B dir M).length≤1048000) : l.length≤1048000:=by
  rw[(dy h).2]
  exact hB
theorem zG(h:gf M=some l) : l.length≤1048000:=by
  unfold gf at h
  split at h
  · cases h
  · rw[(dy h).2]
    exact(show 2≤1048000 from by decide)
variable {cs:Array Value}{m:Md}{w:World}
theorem nG(h:aH m w cs.toList M)(hf:bh M) : Calls Tryz.prog 86 #[vI dir,.agg cs] w (dT (cZ dir M) w):=by
 have hM:=h
 obtain⟨d5,d6,d7,d8,d9⟩:=ik hf dir
 refine fC h fun Aw kw Ab kb Ad kd Ar kr Ao ko e hw hbt hd hr ho _ _ _ _ _ _ _ _ _ _ q0 q1 q2 q3 q4 q5 q6 q7 q8 q9 f5 f6 f7 f8 f9 fa fb=>?_
 subst e
 refine en 79 Tryz.func86 rfl<|sg<|L0<|cY (mG M.code M.fail M.addr M.count M.value M.and_ M.or_ M.addr2 M.sub M.status M.events M.messages (.slice Aw M.words.length kw) (.slice Ab M.bits.length kb) (.slice Ad M.data.length kd) (.slice Ar M.recs.length kr) M.mei M.kind M.level M.more M.next (.slice Ao M.objects.length ko)) fun fd fe ff Z d=>Pl 2<|ng<|L0<|cm Z<|?_
 rcases a:gf M with _|r
 have a0:=aH.old hM d
 have b8:=nj a0
 rw[a] at b8
 refine ay<|m1 b8 fun fg g=>ah 5<|sq<|aB 2<|c1<|aq 1<|?_
 have a1:=ub g Z
 refine L0<|cm a1<|?_
 have b9:=aJ d g
 rcases b:bt (ak aR) eu dir M with _|k
 have a2:=aH.old a0 g
 have ba:=kT (dir:=dir) a2 hf
 rw[b] at ba
 refine ay<|m1 ba fun fh i=>ah 5<|sq<|aB 2<|c1<|go<|Pl 1<|?_
 have a3:=ub i a1
 refine L0<|cm a3<|?_
 have bb:=aJ b9 i
 rcases c:bt (ak aY) dW dir M with _|l
 have a4:=aH.old a2 i
 have bc:=lL (dir:=dir) a4 hf
 rw[c] at bc
 refine ay<|m1 bc fun fj n=>ah 5<|sq<|aB 2<|c1<|go<|Pl 1<|?_
 have a5:=ub n a3
 refine L0<|cm a5<|?_
 have bd:=aJ bb n
 rcases f:bt (ak bo) fi dir M with _|o
 have a6:=aH.old a4 n
 have bf:=lF (dir:=dir) a6 hf
 rw[f] at bf
 refine ay<|m1 bf fun fk s=>ah 5<|sq<|aB 2<|c1<|go<|Pl 1<|?_
 have a7:=ub s a5
 refine L0<|cm a7<|?_
 have bi:=aJ bd s
 rcases j:bt (ak bg) eX dir M with _|p
 have a8:=aH.old a6 s
 have bj:=kE (dir:=dir) a8 hf
 rw[j] at bj
 refine ay<|m1 bj fun fl u=>ah 5<|sq<|aB 2<|c1<|go<|Pl 1<|?_
 have a9:=ub u a7
 refine L0<|cm a9<|?_
 have bk:=aJ bi u
 rcases t:bt (ak bJ) gx dir M with _|q
 have bm:=mK (dir:=dir) (aH.old a8 u) hf
 rw[t] at bm
 refine ay<|m1 bm fun fm bn=>ah 5<|go<|Pl 1<|?_
 refine aC (ub bn a9) 0<|L0<|cX (m:=1) (e:=5) #[vB M.code] fun fn fo da dc bp=>?_
 have bq:=cD da (xs:=[M.code]) (by as_aux_lemma=>kernel_rfl) (al (by omega) aP) (by(try simp only[List.length_cons,List.length_nil]);omega) dc
 refine Pl 1<|L0<|bK be (xs:=([M.code])) (ys:=([])) (vB 0) 1 bq (aT.nil true 5 _ _ _) (by(try simp only[bM,ax]);omega) bp.size fun fp fq fr fs dd=>ah 1<|sq<|aB 2<|c1<|aB 2<|b6<|rr (.tuple #[nS,vI 1])<|?_
 have hk:dI dir M=none:=by unfold dI eZ;simp only[a,b,c,f,j,t]
 refine cL (wL q0 q1 hk) ?_
 exact⟨rfl,(aJ bk (aJ bn (ut bp dd (am (aU bq lr) aD))))⟩
 have br:=aH.old a8 u
 have bs:=mK (dir:=dir) br hf
 rw[t] at bs
 refine ay<|dU bs fun ft fu fv de fw fx aa=>?_
 have fy:q.length≤1048000:=zi t d8
 refine ah 5<|go<|Pl 1<|?_
 have bv:=ub aa a9
 refine aC bv 0<|L0<|cX (m:=1) (e:=5) #[vB M.code] fun fz fA df dg ab=>?_
 have bw:=cD df (xs:=[M.code]) (by as_aux_lemma=>kernel_rfl) (al (by omega) aP) (by(try simp only[List.length_cons,List.length_nil]);omega) dg
 refine Pl 1<|?_
 refine L0<|bK be (xs:=([M.code])) (ys:=q) (vB 0) 1 bw ((au de ab (fun x hx=>aE) (fun _ _ h=>h))).rd (by(try simp only[bM,ax]);omega) ab.size fun dh di dj bx dk=>ah 1<|sq<|aB 2<|c0<|bu<|sq<|go<|Pl 2<|pr (ci dir ([M.code]++q)) fun v ac ad=>?_
 have bz:Calls _ _ _ _ (cN _ _ (ci dir ([M.code]++q)) dj):=fc (dir:=dir) (bx).rd (by(try simp only[bM]);omega)
 rw[ad] at bz
 refine ay<|e2 (bz) fun dl fB dm bA=>?_
 have bB:=au bx bA (fun x hx=>aE) (fun _ _ h=>h)
 have y:=bG.rdt dm (bB).rd
 refine Pl 3<|aK mZ fun fD fE dn dp dq=>aG (hz:=(by rw[y.size];exact aQ)) (hv:=y.size) (h1:=y.one) dp (dl) fun fF dr ds=>Pl 1<|ng<|L0<|cm (hz:=(by rw[y.size];exact aQ)) dr<|?_
 have ae:=ud dq ds dn
 have bC:=ut ab (aJ dk (aJ bA ae)) (am (aU bw lr) aD)
 refine L0<|cm (ub bC bv)<|?_
 have bD:=aJ aa bC
 refine ay<|m1 (db (A:=v) (B:=M) (aH.upd y ae aM) (aH.old br bD)) fun fG bE=>ah 1<|sq<|aq 3<|cu 3 [74] 77 (((ac != 0)||(!(decide (v=M))))) (fun K bF=>?_) ?_
 refine bl 74 ((ac != 0)) (fun z=>?_) (fun z=>?_)
 have dt:=aA z
 exact Pl 3<|ce bF true (by rw[z];rfl)
 have dt:=aF z
 exact Pl 3<|ce bF (!(decide (v=M))) (by rw[z];rfl)
 refine nt<|?_
 have bH:=aJ bk (aJ bD bE)
 refine cb (((ac != 0)||(!(decide (v=M))))) (fun T=>?_) (fun T=>?_)
 refine aB 2<|b6<|rr (.tuple #[nS,vI 1])<|?_
 have hk:dI dir M=some ([M.code]++q):=by unfold dI eZ;simp only[a,b,c,f,j,t]
 refine cL (iw q0 q1 hk ad T) ?_
 exact⟨rfl,bH⟩
 have du:=(bL T).1
 have dv:=(bL T).2
 have dw:(decide (v=M))=true:=by simpa using dv
 refine bu<|aB 3<|rt<|rr (.tuple #[.slice dh (([M.code]++q).length) di,vI 0])<|?_
 have hk:dI dir M=some ([M.code]++q):=by unfold dI eZ;simp only[a,b,c,f,j,t]
 have bI:=au bB (aJ ae bE) (fun x hx=>aE) (fun _ _ h=>h)
 refine cL (jN (aV.range (bI).rd) ad du dw) ?_
 exact⟨_,rfl,(aZ.weaken bI (le (le (le (le (le (le d.size g.size) i.size) n.size) s.size) u.size) aa.size)),bH⟩
 have bN:=aH.old a6 s
 have bO:=kE (dir:=dir) bN hf
 rw[j] at bO
 refine ay<|dU bO fun fH fI fJ dx fK fL af=>?_
 have fM:p.length≤1048000:=zi j d9
 refine ah 5<|sq<|aB 2<|c0<|bu<|go<|Pl 1<|?_
 have bP:=ub af a7
 refine aC bP 0<|L0<|cX (m:=1) (e:=5) #[vB M.code] fun fN fO dy dz ag=>?_
 have bQ:=cD dy (xs:=[M.code]) (by as_aux_lemma=>kernel_rfl) (al (by omega) aP) (by(try simp only[List.length_cons,List.length_nil]);omega) dz
 refine Pl 1<|?_
 refine L0<|bK be (xs:=([M.code])) (ys:=p) (vB 0) 1 bQ ((au dx ag (fun x hx=>aE) (fun _ _ h=>h))).rd (by(try simp only[bM,ax]);omega) ag.size fun dA dB dC bR dD=>ah 1<|sq<|aB 2<|c0<|bu<|sq<|go<|Pl 2<|pr (ci dir ([M.code]++p)) fun C ai aj=>?_
 have bS:Calls _ _ _ _ (cN _ _ (ci dir ([M.code]++p)) dC):=fc (dir:=dir) (bR).rd (by(try simp only[bM]);omega)
 rw[aj] at bS
 refine ay<|e2 (bS) fun dE fP dF bT=>?_
 have bU:=au bR bT (fun x hx=>aE) (fun _ _ h=>h)
 have D:=bG.rdt dF (bU).rd
 refine Pl 3<|aK mZ fun fQ fR dG dH dJ=>aG (hz:=(by rw[D.size];exact aQ)) (hv:=D.size) (h1:=D.one) dH (dE) fun fS dK dL=>Pl 1<|ng<|L0<|cm (hz:=(by rw[D.size];exact aQ)) dK<|?_
 have an:=ud dJ dL dG
 have bV:=ut ag (aJ dD (aJ bT an)) (am (aU bQ lr) aD)
 refine L0<|cm (ub bV bP)<|?_
 have bW:=aJ af bV
 refine ay<|m1 (db (A:=C) (B:=M) (aH.upd D an aM) (aH.old bN bW)) fun fT bX=>ah 1<|sq<|aq 3<|cu 3 [74] 77 (((ai != 0)||(!(decide (C=M))))) (fun K bY=>?_) ?_
 refine bl 74 ((ai != 0)) (fun E=>?_) (fun E=>?_)
 have dM:=aA E
 exact Pl 3<|ce bY true (by rw[E];rfl)
 have dM:=aF E
 exact Pl 3<|ce bY (!(decide (C=M))) (by rw[E];rfl)
 refine nt<|?_
 have bZ:=aJ bi (aJ bW bX)
 refine cb (((ai != 0)||(!(decide (C=M))))) (fun U=>?_) (fun U=>?_)
 refine aB 2<|b6<|rr (.tuple #[nS,vI 1])<|?_
 have hk:dI dir M=some ([M.code]++p):=by unfold dI eZ;simp only[a,b,c,f,j]
 refine cL (iw q0 q1 hk aj U) ?_
 exact⟨rfl,bZ⟩
 have dN:=(bL U).1
 have dO:=(bL U).2
 have dP:(decide (C=M))=true:=by simpa using dO
 refine bu<|aB 3<|rt<|rr (.tuple #[.slice dA (([M.code]++p).length) dB,vI 0])<|?_
 have hk:dI dir M=some ([M.code]++p):=by unfold dI eZ;simp only[a,b,c,f,j]
 have c2:=au bU (aJ an bX) (fun x hx=>aE) (fun _ _ h=>h)
 refine cL (jN (aV.range (c2).rd) aj dN dP) ?_
 exact⟨_,rfl,(aZ.weaken c2 (le (le (le (le (le d.size g.size) i.size) n.size) s.size) af.size)),bZ⟩
 have c3:=aH.old a4 n
 have c4:=lF (dir:=dir) c3 hf
 rw[f] at c4
 refine ay<|dU c4 fun fU fV fW dQ fX fY ao=>?_
 have fZ:o.length≤1048000:=zi f d7
 refine ah 5<|sq<|aB 2<|c0<|bu<|sq<|sq<|go<|ah 2<|c0<|bu<|go<|Pl 1<|?_
 have c5:=ub ao a5
 refine aC c5 0<|L0<|cX (m:=1) (e:=5) #[vB M.code] fun g0 g1 dR dS ap=>?_
 have c6:=cD dR (xs:=[M.code]) (by as_aux_lemma=>kernel_rfl) (al (by omega) aP) (by(try simp only[List.length_cons,List.length_nil]);omega) dS
 refine Pl 1<|?_
 refine L0<|bK be (xs:=([M.code])) (ys:=o) (vB 0) 1 c6 ((au dQ ap (fun x hx=>aE) (fun _ _ h=>h))).rd (by(try simp only[bM,ax]);omega) ap.size fun dV dX dY c7 dZ=>ah 1<|sq<|aB 2<|c0<|bu<|sq<|go<|Pl 2<|pr (ci dir ([M.code]++o)) fun F ar av=>?_
 have c8:Calls _ _ _ _ (cN _ _ (ci dir ([M.code]++o)) dY):=fc (dir:=dir) (c7).rd (by(try simp only[bM]);omega)
 rw[av] at c8
 refine ay<|e2 (c8) fun e0 g2 e1 c9=>?_
 have ca:=au c7 c9 (fun x hx=>aE) (fun _ _ h=>h)
 have G:=bG.rdt e1 (ca).rd
 refine Pl 3<|aK mZ fun g3 g4 e3 e4 e5=>aG (hz:=(by rw[G.size];exact aQ)) (hv:=G.size) (h1:=G.one) e4 (e0) fun g5 e6 e7=>Pl 1<|ng<|L0<|cm (hz:=(by rw[G.size];exact aQ)) e6<|?_
 have aw:=ud e5 e7 e3
 have cc:=ut ap (aJ dZ (aJ c9 aw)) (am (aU c6 lr) aD)
 refine L0<|cm (ub cc c5)<|?_
 have cd:=aJ ao cc
 refine ay<|m1 (db (A:=F) (B:=M) (aH.upd G aw aM) (aH.old c3 cd)) fun g6 cf=>ah 1<|sq<|aq 3<|cu 3 [74] 77 (((ar != 0)||(!(decide (F=M))))) (fun K cg=>?_) ?_
 refine bl 74 ((ar != 0)) (fun H=>?_) (fun H=>?_)
 have e8:=aA H
 exact Pl 3<|ce cg true (by rw[H];rfl)
 have e8:=aF H
 exact Pl 3<|ce cg (!(decide (F=M))) (by rw[H];rfl)
 refine nt<|?_
 have ch:=aJ bd (aJ cd cf)
 refine cb (((ar != 0)||(!(decide (F=M))))) (fun V=>?_) (fun V=>?_)
 refine aB 2<|b6<|rr (.tuple #[nS,vI 1])<|?_
 have hk:dI dir M=some ([M.code]++o):=by unfold dI eZ;simp only[a,b,c,f]
 refine cL (iw q0 q1 hk av V) ?_
 exact⟨rfl,ch⟩
 have e9:=(bL V).1
 have ea:=(bL V).2
 have eb:(decide (F=M))=true:=by simpa using ea
 refine bu<|aB 3<|rt<|rr (.tuple #[.slice dV (([M.code]++o).length) dX,vI 0])<|?_
 have hk:dI dir M=some ([M.code]++o):=by unfold dI eZ;simp only[a,b,c,f]
 have cj:=au ca (aJ aw cf) (fun x hx=>aE) (fun _ _ h=>h)
 refine cL (jN (aV.range (cj).rd) av e9 eb) ?_
 exact⟨_,rfl,(aZ.weaken cj (le (le (le (le d.size g.size) i.size) n.size) ao.size)),ch⟩
 have ck:=aH.old a2 i
 have cl:=lL (dir:=dir) ck hf
 rw[c] at cl
 refine ay<|dU cl fun g7 g8 g9 ec ga gb az=>?_
 have gc:l.length≤1048000:=zi c d6
 refine ah 5<|sq<|aB 2<|c0<|bu<|sq<|sq<|go<|ah 2<|c0<|bu<|sq<|aB 2<|c0<|bu<|go<|Pl 1<|?_
 have cn:=ub az a3
 refine aC cn 0<|L0<|cX (m:=1) (e:=5) #[vB M.code] fun gd ge ed ee aI=>?_
 have co:=cD ed (xs:=[M.code]) (by as_aux_lemma=>kernel_rfl) (al (by omega) aP) (by(try simp only[List.length_cons,List.length_nil]);omega) ee
 refine Pl 1<|?_
 refine L0<|bK be (xs:=([M.code])) (ys:=l) (vB 0) 1 co ((au ec aI (fun x hx=>aE) (fun _ _ h=>h))).rd (by(try simp only[bM,ax]);omega) aI.size fun ef eg eh cp ei=>ah 1<|sq<|aB 2<|c0<|bu<|sq<|go<|Pl 2<|pr (ci dir ([M.code]++l)) fun I aL aN=>?_
 have cq:Calls _ _ _ _ (cN _ _ (ci dir ([M.code]++l)) eh):=fc (dir:=dir) (cp).rd (by(try simp only[bM]);omega)
 rw[aN] at cq
 refine ay<|e2 (cq) fun ej gg ek cr=>?_
 have ct:=au cp cr (fun x hx=>aE) (fun _ _ h=>h)
 have J:=bG.rdt ek (ct).rd
 refine Pl 3<|aK mZ fun gh gi el em eo=>aG (hz:=(by rw[J.size];exact aQ)) (hv:=J.size) (h1:=J.one) em (ej) fun gj ep eq=>Pl 1<|ng<|L0<|cm (hz:=(by rw[J.size];exact aQ)) ep<|?_
 have aO:=ud eo eq el
 have cv:=ut aI (aJ ei (aJ cr aO)) (am (aU co lr) aD)
 refine L0<|cm (ub cv cn)<|?_
 have cw:=aJ az cv
 refine ay<|m1 (db (A:=I) (B:=M) (aH.upd J aO aM) (aH.old ck cw)) fun gk cx=>ah 1<|sq<|aq 3<|cu 3 [74] 77 (((aL != 0)||(!(decide (I=M))))) (fun K cy=>?_) ?_
 refine bl 74 ((aL != 0)) (fun L=>?_) (fun L=>?_)
 have er:=aA L
 exact Pl 3<|ce cy true (by rw[L];rfl)
 have er:=aF L
 exact Pl 3<|ce cy (!(decide (I=M))) (by rw[L];rfl)
 refine nt<|?_
 have cz:=aJ bb (aJ cw cx)
 refine cb (((aL != 0)||(!(decide (I=M))))) (fun W=>?_) (fun W=>?_)
 refine aB 2<|b6<|rr (.tuple #[nS,vI 1])<|?_
 have hk:dI dir M=some ([M.code]++l):=by unfold dI eZ;simp only[a,b,c]
 refine cL (iw q0 q1 hk aN W) ?_
 exact⟨rfl,cz⟩
 have es:=(bL W).1
 have et:=(bL W).2
 have ev:(decide (I=M))=true:=by simpa using et
 refine bu<|aB 3<|rt<|rr (.tuple #[.slice ef (([M.code]++l).length) eg,vI 0])<|?_
 have hk:dI dir M=some ([M.code]++l):=by unfold dI eZ;simp only[a,b,c]
 have cA:=au ct (aJ aO cx) (fun x hx=>aE) (fun _ _ h=>h)
 refine cL (jN (aV.range (cA).rd) aN es ev) ?_
 exact⟨_,rfl,(aZ.weaken cA (le (le (le d.size g.size) i.size) az.size)),cz⟩
 have cB:=aH.old a0 g
 have cC:=kT (dir:=dir) cB hf
 rw[b] at cC
 refine ay<|dU cC fun gl gm gn ew gp gq aW=>?_
 have gr:k.length≤1048000:=zi b d5
 refine ah 5<|sq<|aB 2<|c0<|bu<|sq<|sq<|go<|ah 2<|c0<|bu<|sq<|aB 2<|c0<|bu<|sq<|aB 2<|c0<|bu<|go<|Pl 1<|?_
 have cE:=ub aW a1
 refine aC cE 0<|L0<|cX (m:=1) (e:=5) #[vB M.code] fun gs gt ex ey aX=>?_
 have cF:=cD ex (xs:=[M.code]) (by as_aux_lemma=>kernel_rfl) (al (by omega) aP) (by(try simp only[List.length_cons,List.length_nil]);omega) ey
 refine Pl 1<|?_
 refine L0<|bK be (xs:=([M.code])) (ys:=k) (vB 0) 1 cF ((au ew aX (fun x hx=>aE) (fun _ _ h=>h))).rd (by(try simp only[bM,ax]);omega) aX.size fun ez eA eB cG eC=>ah 1<|sq<|aB 2<|c0<|bu<|sq<|go<|Pl 2<|pr (ci dir ([M.code]++k)) fun N b0 b1=>?_
 have cH:Calls _ _ _ _ (cN _ _ (ci dir ([M.code]++k)) eB):=fc (dir:=dir) (cG).rd (by(try simp only[bM]);omega)
 rw[b1] at cH
 refine ay<|e2 (cH) fun eD gu eE cI=>?_
 have cJ:=au cG cI (fun x hx=>aE) (fun _ _ h=>h)
 have O:=bG.rdt eE (cJ).rd
 refine Pl 3<|aK mZ fun gv gw eF eG eH=>aG (hz:=(by rw[O.size];exact aQ)) (hv:=O.size) (h1:=O.one) eG (eD) fun gy eI eJ=>Pl 1<|ng<|L0<|cm (hz:=(by rw[O.size];exact aQ)) eI<|?_
 have b2:=ud eH eJ eF
 have cK:=ut aX (aJ eC (aJ cI b2)) (am (aU cF lr) aD)
 refine L0<|cm (ub cK cE)<|?_
 have cM:=aJ aW cK
 refine ay<|m1 (db (A:=N) (B:=M) (aH.upd O b2 aM) (aH.old cB cM)) fun gz cO=>ah 1<|sq<|aq 3<|cu 3 [74] 77 (((b0 != 0)||(!(decide (N=M))))) (fun K cP=>?_) ?_
 refine bl 74 ((b0 != 0)) (fun P=>?_) (fun P=>?_)
 have eK:=aA P
 exact Pl 3<|ce cP true (by rw[P];rfl)
 have eK:=aF P
 exact Pl 3<|ce cP (!(decide (N=M))) (by rw[P];rfl)
 refine nt<|?_
 have cQ:=aJ b9 (aJ cM cO)
 refine cb (((b0 != 0)||(!(decide (N=M))))) (fun X=>?_) (fun X=>?_)
 refine aB 2<|b6<|rr (.tuple #[nS,vI 1])<|?_
 have hk:dI dir M=some ([M.code]++k):=by unfold dI eZ;simp only[a,b]
 refine cL (iw q0 q1 hk b1 X) ?_
 exact⟨rfl,cQ⟩
 have eL:=(bL X).1
 have eM:=(bL X).2
 have eN:(decide (N=M))=true:=by simpa using eM
 refine bu<|aB 3<|rt<|rr (.tuple #[.slice ez (([M.code]++k).length) eA,vI 0])<|?_
 have hk:dI dir M=some ([M.code]++k):=by unfold dI eZ;simp only[a,b]
 have cR:=au cJ (aJ b2 cO) (fun x hx=>aE) (fun _ _ h=>h)
 refine cL (jN (aV.range (cR).rd) b1 eL eN) ?_
 exact⟨_,rfl,(aZ.weaken cR (le (le d.size g.size) aW.size)),cQ⟩
 have cS:=aH.old hM d
 have cT:=nj cS
 rw[a] at cT
 refine ay<|dU cT fun eO eP eQ cU gA gB eR=>?_
 have gC:r.length≤1048000:=zG a
 refine ah 5<|sq<|aB 2<|c0<|bu<|sq<|sq<|go<|ah 2<|c0<|bu<|aq 2<|pr (ci dir r) fun Q b3 b4=>?_
 have cV:Calls _ _ _ _ (cN _ _ (ci dir r) eQ):=fc (dir:=dir) (cU).rd (by(try simp only[bM]);omega)
 rw[b4] at cV
 refine ay<|e2 (cV) fun eS gD eT cW=>?_
 have d0:=au cU cW (fun x hx=>aE) (fun _ _ h=>h)
 have R:=bG.rdt eT (d0).rd
 refine Pl 3<|aK mZ fun gE gF eU eV eW=>aG (hz:=(by rw[R.size];exact aQ)) (hv:=R.size) (h1:=R.one) eV (eS) fun gG eY f0=>Pl 1<|ng<|L0<|cm (hz:=(by rw[R.size];exact aQ)) eY<|?_
 have b5:=ud eW f0 eU
 have b7:=aJ eR (aJ cW b5)
 refine L0<|cm (ub b7 Z)<|?_
 refine ay<|m1 (db (A:=Q) (B:=M) (aH.upd R b5 aM) (aH.old cS b7)) fun gH d1=>ah 1<|sq<|aq 3<|cu 3 [74] 77 (((b3 != 0)||(!(decide (Q=M))))) (fun K d2=>?_) ?_
 refine bl 74 ((b3 != 0)) (fun S=>?_) (fun S=>?_)
 have f1:=aA S
 exact Pl 3<|ce d2 true (by rw[S];rfl)
 have f1:=aF S
 exact Pl 3<|ce d2 (!(decide (Q=M))) (by rw[S];rfl)
 refine nt<|?_
 have d3:=aJ d (aJ b7 d1)
 refine cb (((b3 != 0)||(!(decide (Q=M))))) (fun Y=>?_) (fun Y=>?_)
 refine aB 2<|b6<|rr (.tuple #[nS,vI 1])<|?_
 have hk:dI dir M=some r:=by unfold dI eZ;simp only[a]
 refine cL (iw q0 q1 hk b4 Y) ?_
 exact⟨rfl,d3⟩
 have f2:=(bL Y).1
 have f3:=(bL Y).2
 have f4:(decide (Q=M))=true:=by simpa using f3
 refine bu<|aB 3<|rt<|rr (.tuple #[.slice eO r.length eP,vI 0])<|?_
 have hk:dI dir M=some r:=by unfold dI eZ;simp only[a]
 have d4:=au d0 (aJ b5 d1) (fun x hx=>aE) (fun _ _ h=>h)
 refine cL (jN (aV.range (d4).rd) b4 f2 f4) ?_
 exact⟨_,rfl,(aZ.weaken d4 d.size),d3⟩
open Go.RowKit
theorem iZ(hX:cZ dir M=none)(h:aH m w cs.toList M)(hf:bh M) : Calls Tryz.prog 86 #[.int .i64 dir,.agg cs] w (fun e w'=>e = .returned (.tuple #[.slice none 0 0,.int .i64 1])∧aI [] w w'):=by
  have:=nG (dir:=dir) h hf
  rw[hX] at this
  exact this
theorem iL(hX:cZ dir M=some l)(h:aH m w cs.toList M)(hf:bh M) : Calls Tryz.prog 86 #[.int .i64 dir,.agg cs] w (fun e w'=>∃ v,e = .returned (.tuple #[v,.int .i64 0])∧eE w.heap.size w' v l∧aI [] w w'):=by
  have:=nG (dir:=dir) h hf
  rw[hX] at this
  exact this
variable {F:cy}{t u:Int}
theorem tB{P:List Int→cy × Int}{r:Option (List Int)}     (hs:∀ l,r=some l→l=b)(hrt:∀ l,r=some l→P l=(⟨u,t,M⟩,0))(hX:P b=(F,E))(hE:(((E != 0)||(!(decide (F.msg=M))))||(!((F.unit==u)&&(F.tid==t))))=true) : r=none:=by
  cases h:r with
  | none=>rfl
  | some l =>
    have h1:=hrt l h
    rw[hs l h,hX] at h1
    injection h1 with h1 h2
    subst h1 h2
    simp at hE
theorem xM(hE:(((E != 0)||(!(decide (F.msg=M))))||(!((F.unit==u)&&(F.tid==t))))=false) : E=0∧F=⟨u,t,M⟩:=by
  obtain⟨u',t',M'⟩:=F
  simp only[Bool.or_eq_false_iff,Bool.not_eq_false',Bool.and_eq_true,beq_iff_eq,bne_eq_false_iff_eq,decide_eq_true_eq] at hE
  obtain⟨⟨h1,h2⟩,h3,h4⟩:=hE
  have h2:M'=M:=h2
  have h3:u'=u:=h3
  have h4:t'=t:=h4
  subst h2 h3 h4
  exact⟨h1,rfl⟩
variable {e:Ending}{w':World}
theorem lA{x y:Option (List Int)}(h:x=y)    (k:dT y w e w') : dT x w e w':=by rw[h];exact k
open Go.RowKit
variable {A:Option Addr}{cp:Nat}
theorem Cu(hsl:aV m w (.slice A b.length cp) b)(hb:b.length≤1048576) : Calls Tryz.prog 126 #[.slice A b.length cp] w (jP (b++cg (cc 65535 b)) w):=by
 refine en 17 Tryz.func126 rfl<|aq 1<|aL 1<|ay<|m1 (Cj (b:=b) hsl) fun y a=>?_
 have z:=iv b (s:=65535) (by decide) (aV.range hsl)
 refine Pl 1<|ng<|L0<|cX (m:=0) (e:=5) #[] fun l B n eR c=>?_
 have f:=cD n (xs:=[]) (by as_aux_lemma=>kernel_rfl) aP (by(try simp only[List.length_cons,List.length_nil]);omega) eR
 refine Pl 1<|?_
 have g:=aJ a c
 refine L0<|bK be (xs:=([])) (ys:=b) (vB 0) 1 f (aV.old hsl g) (by(try simp only[bM,ax]);omega) c.size fun i C D j k=>Pl 1<|L0<|Oe (vW (Int.tmod (cc 65535 b) 256)) (vW ((cc 65535 b)%256)) (congrArg (Value.int .u16) (Int.tmod_eq_emod_of_nonneg (by omega)))<|Pl 2<|L0<|Oe (vW (IntKind.u16.wrap (Int.tdiv (cc 65535 b) 256))) (vW ((cc 65535 b)/256)) (congrArg (Value.int .u16) (mz (by omega) (by omega)))<|Pl 1<|L0<|cX (m:=2) (e:=5) #[vB (((cc 65535 b)%256)%256),vB (((cc 65535 b)/256)%256)] fun E F o p d=>?_
 have q:=cD o (xs:=[(((cc 65535 b)%256)%256),(((cc 65535 b)/256)%256)]) (by as_aux_lemma=>kernel_rfl) (al (by omega) (al (by omega) aP)) (by(try simp only[List.length_cons,List.length_nil]);omega) p
 refine L0<|bK be (xs:=([]++b)) (ys:=([(((cc 65535 b)%256)%256),(((cc 65535 b)/256)%256)])) (vB 0) 1 (au j d (fun x hx=>aE) (fun _ _ h=>h)) (q).rd (by(try simp only[bM,ax]);omega) (le (le c.size k.size) d.size) fun r t G u v=>ah 1<|rt<|rr (.slice r ((([]++b)++[(((cc 65535 b)%256)%256),(((cc 65535 b)/256)%256)]).length) t)<|?_
 have hs:b++cg (cc 65535 b)=(([]++b)++[(((cc 65535 b)%256)%256),(((cc 65535 b)/256)%256)]):=by show _++[_,_]=_++[_,_];rw[List.nil_append];congr 2;omega
 rw[hs]
 exact⟨_,rfl,(aZ.weaken u a.size),(ut g (ut (aI.mono (S':=(ob (some ⟨l,0,none⟩)++(ob i++[]))) k (am il aD)) (ut (aI.mono (S':=(ob i++[])) d aD) v (am il aD)) (am il aD)) (am (aU f a.size) (am (aU j a.size) aD)))⟩
variable {v:Value}
theorem DD(h:aV m w v b)(hb:b.length≤1048576) : Calls Tryz.prog 126 #[v] w (jP (b++cg (cc 65535 b)) w):=by
  obtain⟨A,cp,rfl,_,_⟩:=h.shape
  exact Cu h hb
theorem se(hbu:0≤u∧u<256)(hbt:0≤t∧t<65536)(hsl:aV m w (.slice A b.length cp) b)(hb:b.length≤253) : Calls Tryz.prog 87 #[.agg #[vB u,vW t],.slice A b.length cp] w (jP (jf u b) w):=by
 refine en 11 Tryz.func87 rfl<|sg<|L0<|cY #[vB u,vW t] fun q r s h a=>Pl 1<|aL 1<|aC h 0<|L0<|cX (m:=1) (e:=5) #[vB u] fun v x i j c=>?_
 have d:=cD i (xs:=[u]) (by as_aux_lemma=>kernel_rfl) (al (by omega) aP) (by(try simp only[List.length_cons,List.length_nil]);omega) j
 refine Pl 1<|?_
 have f:=aJ a c
 refine L0<|bK be (xs:=([u])) (ys:=b) (vB 0) 1 d (aV.old hsl f) (by(try simp only[bM,ax]);omega) c.size fun y z B k g=>ay<|dU (DD (k).rd (by(try simp only[bM]);omega)) fun l n C o D E p=>ah 1<|rt<|rr (.slice l ((([u]++b)++cg (cc 65535 ([u]++b))).length) n)<|?_
 exact⟨_,rfl,(aZ.weaken o (le (le a.size c.size) g.size)),(ut f (aJ g p) (am (aU d a.size) aD))⟩
theorem tk(hbu:0≤u∧u<256)(hbt:0≤t∧t<65536)(h:aV m w v b)(hb:b.length≤253) : Calls Tryz.prog 87 #[.agg #[.int .u8 u,.int .u16 t],v] w (jP (jf u b) w):=by
  obtain⟨A,cp,rfl,_,_⟩:=h.shape
  exact se hbu hbt h hb
variable {x:SL}
theorem mY(h:aH m w (f5 M x).toList M)(hf:bh M)(hbu:0≤u∧u<256)(hbt:0≤t∧t<65536) : Calls Tryz.prog 60 #[vI dir,.agg (dC u t M x)] w (dT (fL dir u t M) w):=by
 obtain⟨hc,hd⟩:=h.rngs
 refine en 50 Tryz.func60 rfl<|sg<|L0<|cY (dC u t M x) fun V W X n b=>Pl 2<|aL 2<|L0<|nZ n 2 22<|wo (cZ dir M) (fun hW=>?_) (fun l hW=>?_)
 refine ay<|m1 (iZ hW (aH.old h b) hf) fun Y F=>ah 5<|sq<|aB 2<|c1<|aq 2<|nl<|tn<|b6<|rr (.tuple #[nS,vI 1])<|lA (show fL dir u t M=none by unfold fL;rw[hW]) ?_
 exact⟨rfl,(aJ b F)⟩
 have hlw:=qI hc hW
 have o:=aH.old h b
 refine ay<|dU (iL hW o hf) fun Z a0 a1 G a2 a3 f=>ah 5<|sq<|aB 2<|c0<|bu<|sq<|go<|Pl 1<|?_
 have p:=ub f n
 refine L0<|nZ p 0 2<|Pl 1<|ay<|dU (tk (u:=u) (t:=t) hbu hbt (G).rd hlw) fun H I a4 q a5 a6 J=>Pl 1<|aL 2<|?_
 have hlb:((jf u l)).length≤1048576:=by rw[gD];omega
 refine pr (e8 dir (jf u l)) fun a c g=>?_
 refine ay<|e2 (kJ g (q).rd hlb) fun x42 a7 L r=>?_
 obtain⟨N,a8,a9⟩:=L
 have s:=au q r (fun x hx=>aE) (fun _ _ h=>h)
 have O:=bG.rdt N (s).rd
 refine Pl 3<|aK #[vB 0,vW 0,vB 0,vB 0,vW 0,vW 0,vW 0,vW 0,vW 0,vW 0,vW 0,vW 0,vW 0,vW 0,nS,nS,nS,nS,vB 0,vB 0,vB 0,vB 0,vB 0,nS] fun aa ab Q R S=>aG R (dC a.unit a.tid a.msg x42) fun ac v T=>Pl 1<|aL 1<|L0<|nZ v 2 22<|Pl 1<|?_
 have i:=ud S T Q
 have y:=aJ J (aJ r i)
 have z:=ub y p
 refine L0<|nZ z 2 22<|?_
 have A:=aJ f y
 refine ay<|m1 (db (aH.upd O i aM) (aH.old o A)) fun ad e=>ah 1<|sq<|aq 3<|cu 3 [38] 41 (((c != 0)||(!(decide (a.msg=M))))) (fun K B=>?_) ?_
 refine bl 38 ((c != 0)) (fun d=>?_) (fun d=>?_)
 have U:=aA d
 exact Pl 3<|ce B true (by rw[d];rfl)
 have U:=aF d
 exact Pl 3<|ce B (!(decide (a.msg=M))) (by rw[d];rfl)
 refine Pl 1<|cu 6 [42] 48 ((((c != 0)||(!(decide (a.msg=M))))||(!((a.unit==u)&&(a.tid==t))))) (fun K C=>?_) ?_
 refine bl 42 (((c != 0)||(!(decide (a.msg=M))))) (fun j=>?_) (fun j=>?_)
 exact Pl 6<|ce C true (by rw[j];rfl)
 refine Pl 1<|?_
 refine L1<|nZ (ub e v) 0 2<|Pl 1<|?_
 exact L1<|nZ (ub e z) 0 2<|L1<|gr (.bool (!((a.unit==u)&&(a.tid==t)))) (iG a.unit a.tid u t rfl (by kernel_rfl) (by kernel_rfl) rfl)<|Pl 1<|ce C (!((a.unit==u)&&(a.tid==t))) (by rw[j];rfl)
 refine nt<|?_
 have D:=aJ b (aJ A e)
 refine cb ((((c != 0)||(!(decide (a.msg=M))))||(!((a.unit==u)&&(a.tid==t))))) (fun k=>?_) (fun k=>?_)
 refine aB 2<|b6<|rr (.tuple #[nS,vI 1])<|lA (tB (P:=e8 dir) (fun l2 h=>by obtain⟨_,l3,k1,k2,_⟩:=jw h;rw[hW] at k1;injection k1 with k1;subst k1;exact k2) (fun l2 h=>CP (fU hc hW) hc hd h) g k) ?_
 exact⟨rfl,D⟩
 refine bu<|aB 3<|rt<|rr (.tuple #[.slice H ((jf u l).length) I,vI 0])<|?_
 obtain⟨hE0,hF0⟩:=xM k
 subst hE0 hF0
 have E:=au s (aJ i e) (fun x hx=>aE) (fun _ _ h=>h)
 refine lA ((yJ (fU hc hW) (aV.range (E).rd) g rfl rfl).1) ?_
 exact⟨_,rfl,(aZ.weaken E (le b.size f.size)),D⟩
theorem qq(h:aH m w (f5 M x).toList M)(hf:bh M)(hbu:0≤u∧u<256)(hbt:0≤t∧t<65536)(hX:fL dir u t M=none) : Calls Tryz.prog 60 #[.int .i64 dir,.agg (dC u t M x)] w (fun e w'=>e = .returned (.tuple #[.slice none 0 0,.int .i64 1])∧aI [] w w'):=by
  have k:=mY (dir:=dir) h hf hbu hbt
  rw[hX] at k
  exact k
theorem pT(h:aH m w (f5 M x).toList M)(hf:bh M)(hbu:0≤u∧u<256)(hbt:0≤t∧t<65536)  (hX:fL dir u t M=some l) : Calls Tryz.prog 60 #[.int .i64 dir,.agg (dC u t M x)] w (fun e w'=>∃ v,e = .returned (.tuple #[v,.int .i64 0])∧eE w.heap.size w' v l∧aI [] w w'):=by
  have k:=mY (dir:=dir) h hf hbu hbt
  rw[hX] at k
  exact k
open Go.RowKit
theorem Cx{x y:Int}(hx:0≤x∧x<256)(hy:0<y) : IntKind.u8.wrap (Int.tdiv x y)=x/y:=by
  rw[Int.tdiv_eq_ediv_of_nonneg hx.1]
  refine u8_in ⟨Int.ediv_nonneg hx.1 (Int.le_of_lt hy),?_⟩
  have:=Int.ediv_le_self y hx.1
  omega
variable {c:Int}
theorem Cc(hc:0≤c∧c<16) : Calls Tryz.prog 190 #[vB c] w (bS (vB (dt c)) w):=by
 refine en 9 Tryz.func190 rfl<|aB 1<|sq<|aB 2<|cb ((decide (c<10))) (fun a=>?_) (fun a=>?_)
 have b:=of_decide_eq_true a
 refine aB 3<|b6<|rr (vB ((48+c)%256))<|?_
 have hs:dt c=((48+c)%256):=by unfold dt;split<;>omega
 rw[hs]
 exact⟨rfl,(aI.refl [] _)⟩
 have b:=of_decide_eq_false a
 refine bu<|aB 3<|rt<|rr (vB ((55+c)%256))<|?_
 have hs:dt c=((55+c)%256):=by unfold dt;split<;>omega
 rw[hs]
 exact⟨rfl,(aI.refl [] _)⟩
theorem CO(hsl:aV m w (.slice A b.length cp) b)(hl:b.length≤1024) : Calls Tryz.prog 128 #[.slice A b.length cp] w (bS (.string (strOfNums (dh b))) w):=by
 have hb:=aV.range hsl
 refine en 28 Tryz.func128 rfl<|aq 1<|dk 1<|sq<|aB 1<|bk<|je (fun x=>[(0,.slice A b.length cp),(2,.string ⟨#[]⟩),(3,.string (strOfNums x.2)),(4,vI (x.1:Int))]) (fun(x:Nat × List Int) w'=>aI [] w w'∧(x.1≤b.length)∧(x.2=dh (b.take x.1))) (fun x=>b.length-x.1) (0,[]) ⟨aI.refl _ _,(by(try dsimp only);omega),rfl⟩ ?_
 rintro⟨k,L⟩ G ⟨g,s,t⟩
 refine gi [(0,.slice A b.length cp),(2,.string ⟨#[]⟩),(3,.string (strOfNums L)),(4,vI (k:Int))] ?_
 have H:k≤b.length:=s
 have I:L=dh (b.take k):=t
 have hL:L=dh (b.take k):=by assumption
 have hLn:L.length=2*k:=by rw[hL,dV,List.length_take];omega
 have hLb:dx L:=by rw[hL];exact jB fun x hx=>hb x (List.mem_of_mem_take hx)
 refine sq<|aB 4<|cb ((decide ((k:Int)<(b.length:Int)))) (fun h=>?_) (fun h=>?_)
 have u:=of_decide_eq_true h
 refine bu<|sq<|bk<|?_
 refine fo (aV.at_ (aV.old hsl g) k (by omega)) fun v y j f J=>Rg 17 (fun w'=>w'.cell? ⟨v,y+k,none⟩=some (vB (b.getD k 0))) fun K l=>bv (uc l f) fun d=>Rt 0 d<|Rt 1 d<|Rt 2 d<|m0 3 d b.length k (k:Int) rfl j (by omega)<|Rl 4 d (fun _ hs=>hs)<|Rr 5 d (vB ((b.getD k 0)/16)) (fun _ _=>bO (vB (IntKind.u8.wrap (Int.tdiv (b.getD k 0) 16))) (by kernel_rfl) (congrArg (Value.int .u8) (Cx (by omega) (by omega))))<|Rt 7 d<|Rt 8 d<|m0 9 d b.length k (k:Int) rfl j (by omega)<|Rl 10 d (fun _ hs=>hs)<|Rr 11 d (vB ((b.getD k 0)%16)) (fun _ _=>bO (vB (Int.tmod (b.getD k 0) 16)) (by kernel_rfl) (congrArg (Value.int .u8) (Int.tmod_eq_emod_of_nonneg (by omega))))<|?_
 have M:=i9 (n:=((b.getD k 0)/16)) (by omega)
 refine R0 6 rfl<|Oc<|m1 (Cc (c:=((b.getD k 0)/16)) (w:=_) (by omega)) fun N z=>?_
 have o:=aJ l z
 refine bv (uc o f) fun O=>?_
 have P:=i9 (n:=((b.getD k 0)%16)) (by omega)
 refine R0 12 rfl<|Oc<|m1 (Cc (c:=((b.getD k 0)%16)) (w:=_) (by omega)) fun Q B=>?_
 have p:=aJ o B
 refine bv (uc p f) fun R=>R0 13 rfl<|cX (m:=2) (e:=5) #[vB (dt ((b.getD k 0)/16)),vB (dt ((b.getD k 0)%16))] fun C S D E F=>?_
 have q:=cD D (xs:=[(dt ((b.getD k 0)/16)),(dt ((b.getD k 0)%16))]) (by as_aux_lemma=>kernel_rfl) (al (by omega) (al (by omega) aP)) (by(try simp only[List.length_cons,List.length_nil]);omega) E
 have i:=aJ p F
 refine bv (uc i f) fun T=>R0 14 rfl<|gr (.string (strOfNums ([(dt ((b.getD k 0)/16)),(dt ((b.getD k 0)%16))]))) (cJ (A:=some ⟨C,0,none⟩) (n:=2) (c:=2) rfl (by kernel_rfl) Tryz.underlying27 Tryz.underlying5 Tryz.underlying9 (q).rd)<|bv (uc i f) fun r=>?_
 have U:dx (L++[(dt ((b.getD k 0)/16)),(dt ((b.getD k 0)%16))]):=gz hLb (aV.range (q).rd)
 refine Rr 15 r (.string (strOfNums (L++[(dt ((b.getD k 0)/16)),(dt ((b.getD k 0)%16))]))) (fun _ _=>jr (a:=(strOfNums L)) (b:=(strOfNums ([(dt ((b.getD k 0)/16)),(dt ((b.getD k 0)%16))]))) (xs:=L) (ys:=([(dt ((b.getD k 0)/16)),(dt ((b.getD k 0)%16))])) rfl (by kernel_rfl) (by kernel_rfl) rfl rfl (by simp only[bM];omega))<|Rt 16 r<|re<|bn<|tn<|go<|Pl 1<|bp ((k:Int)+1)<|Pl 1<|nl<|?_
 exact gK ((k+1),(L++[(dt ((b.getD k 0)/16)),(dt ((b.getD k 0)%16))])) ⟨(aJ g i),(by(try dsimp only);omega),(by(try dsimp only);rw[pv b k (by omega),← hL,List.append_assoc];rfl)⟩ (by omega)
 have u:=of_decide_eq_false h
 refine xt<|tx<|tx<|bx<|tn<|aB 2<|rt<|rr (.string (strOfNums L))<|?_
 have hs:dh b=L:=by rw[hL,show k=b.length by omega,List.take_length]
 rw[hs]
 exact⟨rfl,g⟩
theorem DH(h:aV m w v b)(hl:b.length≤1024) : Calls Tryz.prog 128 #[v] w (bS (.string (strOfNums (dh b))) w):=by
  obtain⟨A,cp,rfl,_,_⟩:=h.shape
  exact CO h hl
def C9 (l:List Int)(w:World)(e:Ending)(w':World) : Prop:=∃ v,e = .returned v∧i3 w.heap.size w' v l∧aI [] w w'
theorem sT(hbu:0≤u∧u<256)(hbt:0≤t∧t<65536)(hsl:aV m w (.slice A b.length cp) b)(hb:b.length≤253) : Calls Tryz.prog 89 #[.agg #[vB u,vW t],.slice A b.length cp] w (C9 (nF u b) w):=by
 refine en 21 Tryz.func89 rfl<|sg<|L0<|cY #[vB u,vW t] fun O P Q s c=>Pl 1<|aL 1<|aC s 0<|L0<|cX (m:=1) (e:=5) #[vB u] fun v R y z d=>?_
 have l:=cD y (xs:=[u]) (by as_aux_lemma=>kernel_rfl) (al (by omega) aP) (by(try simp only[List.length_cons,List.length_nil]);omega) z
 refine Pl 1<|?_
 have n:=aJ c d
 refine L0<|bK be (xs:=([u])) (ys:=b) (vB 0) 1 l (aV.old hsl n) (by(try simp only[bM,ax]);omega) d.size fun f B S g i=>Pl 1<|aL 2<|ay (args:=#[.slice f (([u]++b).length) B])<|m1 (uQ (g).rd) fun T j=>?_
 have U:=jv ([u]++b)
 refine L0<|cX (m:=1) (e:=5) #[vB (cv ([u]++b))] fun V W C D k=>?_
 have E:=cD C (xs:=[(cv ([u]++b))]) (by as_aux_lemma=>kernel_rfl) (al (by omega) aP) (by(try simp only[List.length_cons,List.length_nil]);omega) D
 have o:=aJ j k
 refine L0<|bK be (xs:=([u]++b)) (ys:=([(cv ([u]++b))])) (vB 0) 1 (au g o (fun x hx=>aE) (fun _ _ h=>h)) (E).rd (by(try simp only[bM,ax]);omega) (le (le (le d.size i.size) j.size) k.size) fun F G X p q=>Pl 1<|aL 1<|ay (args:=#[.slice F ((([u]++b)++[(cv ([u]++b))]).length) G])<|m1 (DH (p).rd (by simp only[bM];omega)) fun Y r=>?_
 have H:dx (dh (([u]++b)++[(cv ([u]++b))])):=jB (aV.range (p).rd)
 have I:dx ([58]++(dh (([u]++b)++[(cv ([u]++b))]))):=gz (by decide) H
 refine L0<|gr (.string (strOfNums ([58]++(dh (([u]++b)++[(cv ([u]++b))]))))) (jr (a:=⟨#[58]⟩) (b:=(strOfNums (dh (([u]++b)++[(cv ([u]++b))])))) (xs:=([58])) (ys:=(dh (([u]++b)++[(cv ([u]++b))]))) rfl (by kernel_rfl) (by kernel_rfl) rfl rfl (by simp only[dV,List.length_append,List.length_cons,List.length_nil];omega))<|?_
 have J:dx (([58]++(dh (([u]++b)++[(cv ([u]++b))])))++[13,10]):=gz I (by decide)
 refine L0<|gr (.string (strOfNums (([58]++(dh (([u]++b)++[(cv ([u]++b))])))++[13,10]))) (jr (a:=(strOfNums ([58]++(dh (([u]++b)++[(cv ([u]++b))]))))) (b:=⟨#[13,10]⟩) (xs:=([58]++(dh (([u]++b)++[(cv ([u]++b))])))) (ys:=([13,10])) rfl (by kernel_rfl) (by kernel_rfl) rfl rfl (by simp only[dV,List.length_append,List.length_cons,List.length_nil];omega))<|L0<|EX (xs:=(([58]++(dh (([u]++b)++[(cv ([u]++b))])))++[13,10])) Tryz.underlying9 Tryz.underlying27 Tryz.underlying5 J (by simp only[dV,List.length_append,List.length_cons,List.length_nil];omega) fun K L Z M N=>ah 1<|rt<|rr (.slice K ((([58]++(dh (([u]++b)++[(cv ([u]++b))])))++[13,10]).length) L)<|?_
 exact⟨_,rfl,M.weaken (le (le (le (le (le (le c.size d.size) i.size) j.size) k.size) q.size) r.size),(ut n (ut (aI.mono (S':=(ob (some ⟨v,0,none⟩)++(ob f++[]))) i (am il aD)) (ut (aI.mono (S':=(ob f++[])) o aD) (aJ q (aJ r N)) (am il aD)) (am il aD)) (am (aU l c.size) (am (aU g c.size) aD)))⟩
theorem u5(hbu:0≤u∧u<256)(hbt:0≤t∧t<65536)(h:aV m w v b)(hb:b.length≤253) : Calls Tryz.prog 89 #[.agg #[.int .u8 u,.int .u16 t],v] w (C9 (nF u b) w):=by
  obtain⟨A,cp,rfl,_,_⟩:=h.shape
  exact sT hbu hbt h hb
theorem n8(h:aH m w (f5 M x).toList M)(hf:bh M)(hbu:0≤u∧u<256)(hbt:0≤t∧t<65536) : Calls Tryz.prog 61 #[vI dir,.agg (dC u t M x)] w (mw (fT dir u t M) w):=by
 obtain⟨hc,hd⟩:=h.rngs
 refine en 50 Tryz.func61 rfl<|sg<|L0<|cY (dC u t M x) fun W X Y o b=>Pl 2<|aL 2<|L0<|nZ o 2 22<|wo (cZ dir M) (fun hW=>?_) (fun l hW=>?_)
 refine ay<|m1 (iZ hW (aH.old h b) hf) fun Z F=>ah 5<|sq<|aB 2<|c1<|aq 2<|nl<|tn<|b6<|rr (.tuple #[nS,vI 1])<|um (show fT dir u t M=none by unfold fT;rw[hW]) ?_
 exact⟨rfl,(aJ b F)⟩
 have hlw:=qI hc hW
 have p:=aH.old h b
 refine ay<|dU (iL hW p hf) fun a0 a1 a2 q a3 a4 g=>?_
 have hby:∀ l2,cZ dir M=some l2→dx l2:=fun l2 h2=>by rw[hW] at h2;injection h2 with h2;subst h2;exact aV.range (q).rd
 refine ah 5<|sq<|aB 2<|c0<|bu<|aq 1<|?_
 have r:=ub g o
 refine L0<|nZ r 0 2<|Pl 1<|ay<|e2 (u5 (u:=u) (t:=t) hbu hbt (q).rd hlw) fun a5 a6 e G=>?_
 rcases i3.shape e with⟨H,I,rfl⟩
 rcases aT.shape (e).rd with⟨_,_,i,J,L⟩
 injection i with _ _ i
 rw[← i] at J L
 refine Pl 1<|aL 2<|?_
 have hlb:((nF u l)).length≤1048576:=by rw[qU];omega
 refine pr (ew dir (nF u l)) fun a c j=>?_
 refine ay<|e2 (kQ j (e).rd hlb) fun x42 a7 N O=>?_
 obtain⟨Q,a8,a9⟩:=N
 refine Pl 3<|aK #[vB 0,vW 0,vB 0,vB 0,vW 0,vW 0,vW 0,vW 0,vW 0,vW 0,vW 0,vW 0,vW 0,vW 0,nS,nS,nS,nS,vB 0,vB 0,vB 0,vB 0,vB 0,nS] fun aa ab R S T=>aG S (dC a.unit a.tid a.msg x42) fun ac s U=>Pl 1<|aL 1<|L0<|nZ s 2 22<|Pl 1<|?_
 have v:=ud T U R
 have y:=aJ O v
 have z:=aJ G y
 have A:=ub z r
 refine L0<|nZ A 2 22<|?_
 have B:=aJ g z
 refine ay<|m1 (db (aH.upd Q v aM) (aH.old p B)) fun ad f=>ah 1<|sq<|aq 3<|cu 3 [38] 41 (((c != 0)||(!(decide (a.msg=M))))) (fun K C=>?_) ?_
 refine bl 38 ((c != 0)) (fun d=>?_) (fun d=>?_)
 have V:=aA d
 exact Pl 3<|ce C true (by rw[d];rfl)
 have V:=aF d
 exact Pl 3<|ce C (!(decide (a.msg=M))) (by rw[d];rfl)
 refine Pl 1<|cu 6 [42] 48 ((((c != 0)||(!(decide (a.msg=M))))||(!((a.unit==u)&&(a.tid==t))))) (fun K D=>?_) ?_
 refine bl 42 (((c != 0)||(!(decide (a.msg=M))))) (fun k=>?_) (fun k=>?_)
 exact Pl 6<|ce D true (by rw[k];rfl)
 refine Pl 1<|?_
 refine L1<|nZ (ub f s) 0 2<|Pl 1<|?_
 exact L1<|nZ (ub f A) 0 2<|L1<|gr (.bool (!((a.unit==u)&&(a.tid==t)))) (iG a.unit a.tid u t rfl (by kernel_rfl) (by kernel_rfl) rfl)<|Pl 1<|ce D (!((a.unit==u)&&(a.tid==t))) (by rw[k];rfl)
 refine nt<|?_
 have E:=aJ b (aJ B f)
 refine cb ((((c != 0)||(!(decide (a.msg=M))))||(!((a.unit==u)&&(a.tid==t))))) (fun n=>?_) (fun n=>?_)
 refine aB 2<|b6<|rr (.tuple #[nS,vI 1])<|um (tB (P:=ew dir) (fun l2 h=>by obtain⟨_,l3,k1,k2,_⟩:=jx h;rw[hW] at k1;injection k1 with k1;subst k1;exact k2) (fun l2 h=>Cr (fU hc hW) hbu hc hd hby h) j n) ?_
 exact⟨rfl,E⟩
 refine bu<|aB 3<|rt<|rr (.tuple #[.slice (some ⟨H,0,none⟩) ((nF u l).length) I,vI 0])<|?_
 obtain⟨hE0,hF0⟩:=xM n
 subst hE0 hF0
 refine um ((yD (fU hc hW) j rfl rfl).1) ?_
 exact⟨_,rfl,((i3.old e (aJ y f)).weaken (le b.size g.size)),E⟩
theorem qe(h:aH m w (f5 M x).toList M)(hf:bh M)(hbu:0≤u∧u<256)(hbt:0≤t∧t<65536)(hX:fT dir u t M=none) : Calls Tryz.prog 61 #[.int .i64 dir,.agg (dC u t M x)] w (fun e w'=>e = .returned (.tuple #[.slice none 0 0,.int .i64 1])∧aI [] w w'):=by
  have k:=n8 (dir:=dir) h hf hbu hbt
  rw[hX] at k
  exact k
theorem pS(h:aH m w (f5 M x).toList M)(hf:bh M)(hbu:0≤u∧u<256)(hbt:0≤t∧t<65536)  (hX:fT dir u t M=some l) : Calls Tryz.prog 61 #[.int .i64 dir,.agg (dC u t M x)] w (fun e w'=>∃ v,e = .returned (.tuple #[v,.int .i64 0])∧i3 w.heap.size w' v l∧aI [] w w'):=by
  have k:=n8 (dir:=dir) h hf hbu hbt
  rw[hX] at k
  exact k
open Go.RowKit
theorem qx(hbu:0≤u∧u<256)(hbt:0≤t∧t<65536)(hsl:aV m w (.slice A b.length cp) b)(hb:b.length≤253) : Calls Tryz.prog 90 #[.agg #[vB u,vW t],.slice A b.length cp] w (jP (my t 0 ((b.length:Int)+1) u b) w):=by
 refine en 21 Tryz.func90 rfl<|sg<|L0<|cY #[vB u,vW t] fun E F G g d=>Pl 1<|aL 1<|aC g 1<|Pl 2<|bp ((b.length:Int)+1)<|Pl 1<|L0<|cX (m:=3) (e:=37) #[vW t,vW 0,vW (((b.length:Int)+1)%65536)] fun H I o p a=>?_
 have q:=eH o (xs:=[t,0,(((b.length:Int)+1)%65536)]) (by as_aux_lemma=>kernel_rfl) (al (by omega) (al (by omega) (al (by omega) aP))) (by(try simp only[List.length_cons,List.length_nil]);omega) p
 refine ay<|dU (i2 (xs:=[t,0,(((b.length:Int)+1)%65536)]) (q).rd (by(try simp only[bM]);omega)) fun r J K i L M f=>Pl 1<|aL 2<|?_
 have j:=aJ a f
 refine aC (ub j g) 0<|L0<|cX (m:=1) (e:=5) #[vB u] fun N O s v c=>?_
 have y:=cD s (xs:=[u]) (by as_aux_lemma=>kernel_rfl) (al (by omega) aP) (by(try simp only[List.length_cons,List.length_nil]);omega) v
 refine L0<|bK be (xs:=(aN ([t,0,(((b.length:Int)+1)%65536)]))) (ys:=([u])) (vB 0) 1 (au i c (fun x hx=>aE) (fun _ _ h=>h)) (y).rd (by(try simp only[bM,ax]);omega) (le f.size c.size) fun P Q R k l=>Pl 1<|?_
 have n:=aJ d (ut j (ut (aI.mono (S':=(ob r++[])) c aD) l (am il aD)) (am (aU i a.size) aD))
 refine L0<|bK be (xs:=((aN ([t,0,(((b.length:Int)+1)%65536)]))++[u])) (ys:=b) (vB 0) 1 k (aV.old hsl n) (by(try simp only[bM,ax]);omega) (le (le f.size c.size) l.size) fun z B S C D=>ah 1<|rt<|rr (.slice z ((((aN ([t,0,(((b.length:Int)+1)%65536)]))++[u])++b).length) B)<|?_
 rw[show my t 0 ((b.length:Int)+1) u b=(aN [t,0,((b.length:Int)+1)%65536]++[u])++b from by unfold my;rw[show((b.length:Int)+1)%65536=(b.length:Int)+1 from by omega]]
 exact⟨_,rfl,(aZ.weaken C (le d.size a.size)),(ut n D (am (aU k (le d.size a.size)) aD))⟩
theorem sI(hbu:0≤u∧u<256)(hbt:0≤t∧t<65536)(h:aV m w v b)(hb:b.length≤253) : Calls Tryz.prog 90 #[.agg #[.int .u8 u,.int .u16 t],v] w (jP (my t 0 ((b.length:Int)+1) u b) w):=by
  obtain⟨A,cp,rfl,_,_⟩:=h.shape
  exact qx hbu hbt h hb
theorem lH(h:aH m w (f5 M x).toList M)(hf:bh M)(hbu:0≤u∧u<256)(hbt:0≤t∧t<65536) : Calls Tryz.prog 62 #[vI dir,.agg (dC u t M x)] w (dT (ey dir u t M) w):=by
 obtain⟨hc,hd⟩:=h.rngs
 refine en 50 Tryz.func62 rfl<|sg<|L0<|cY (dC u t M x) fun V W X n b=>Pl 2<|aL 2<|L0<|nZ n 2 22<|wo (cZ dir M) (fun hW=>?_) (fun l hW=>?_)
 refine ay<|m1 (iZ hW (aH.old h b) hf) fun Y F=>ah 5<|sq<|aB 2<|c1<|aq 2<|nl<|tn<|b6<|rr (.tuple #[nS,vI 1])<|lA (show ey dir u t M=none by unfold ey;rw[hW]) ?_
 exact⟨rfl,(aJ b F)⟩
 have hlw:=qI hc hW
 have o:=aH.old h b
 refine ay<|dU (iL hW o hf) fun Z a0 a1 G a2 a3 f=>ah 5<|sq<|aB 2<|c0<|bu<|sq<|go<|Pl 1<|?_
 have p:=ub f n
 refine L0<|nZ p 0 2<|Pl 1<|ay<|dU (sI (u:=u) (t:=t) hbu hbt (G).rd hlw) fun H I a4 q a5 a6 J=>Pl 1<|aL 2<|?_
 have hlb:((my t 0 ((l.length:Int)+1) u l)).length≤1048576:=by rw[ml];omega
 refine pr (de dir (my t 0 ((l.length:Int)+1) u l)) fun a c g=>?_
 refine ay<|e2 (jR g (q).rd hlb) fun x42 a7 L r=>?_
 obtain⟨N,a8,a9⟩:=L
 have s:=au q r (fun x hx=>aE) (fun _ _ h=>h)
 have O:=bG.rdt N (s).rd
 refine Pl 3<|aK #[vB 0,vW 0,vB 0,vB 0,vW 0,vW 0,vW 0,vW 0,vW 0,vW 0,vW 0,vW 0,vW 0,vW 0,nS,nS,nS,nS,vB 0,vB 0,vB 0,vB 0,vB 0,nS] fun aa ab Q R S=>aG R (dC a.unit a.tid a.msg x42) fun ac v T=>Pl 1<|aL 1<|L0<|nZ v 2 22<|Pl 1<|?_
 have i:=ud S T Q
 have y:=aJ J (aJ r i)
 have z:=ub y p
 refine L0<|nZ z 2 22<|?_
 have A:=aJ f y
 refine ay<|m1 (db (aH.upd O i aM) (aH.old o A)) fun ad e=>ah 1<|sq<|aq 3<|cu 3 [38] 41 (((c != 0)||(!(decide (a.msg=M))))) (fun K B=>?_) ?_
 refine bl 38 ((c != 0)) (fun d=>?_) (fun d=>?_)
 have U:=aA d
 exact Pl 3<|ce B true (by rw[d];rfl)
 have U:=aF d
 exact Pl 3<|ce B (!(decide (a.msg=M))) (by rw[d];rfl)
 refine Pl 1<|cu 6 [42] 48 ((((c != 0)||(!(decide (a.msg=M))))||(!((a.unit==u)&&(a.tid==t))))) (fun K C=>?_) ?_
 refine bl 42 (((c != 0)||(!(decide (a.msg=M))))) (fun j=>?_) (fun j=>?_)
 exact Pl 6<|ce C true (by rw[j];rfl)
 refine Pl 1<|?_
 refine L1<|nZ (ub e v) 0 2<|Pl 1<|?_
 exact L1<|nZ (ub e z) 0 2<|L1<|gr (.bool (!((a.unit==u)&&(a.tid==t)))) (iG a.unit a.tid u t rfl (by kernel_rfl) (by kernel_rfl) rfl)<|Pl 1<|ce C (!((a.unit==u)&&(a.tid==t))) (by rw[j];rfl)
 refine nt<|?_
 have D:=aJ b (aJ A e)
 refine cb ((((c != 0)||(!(decide (a.msg=M))))||(!((a.unit==u)&&(a.tid==t))))) (fun k=>?_) (fun k=>?_)
 refine aB 2<|b6<|rr (.tuple #[nS,vI 1])<|lA (tB (P:=de dir) (fun l2 h=>by obtain⟨l3,k1,k2,_⟩:=iP h;rw[hW] at k1;injection k1 with k1;subst k1;exact k2) (fun l2 h=>B9 (fU hc hW) hc hd hbt h) g k) ?_
 exact⟨rfl,D⟩
 refine bu<|aB 3<|rt<|rr (.tuple #[.slice H ((my t 0 ((l.length:Int)+1) u l).length) I,vI 0])<|?_
 obtain⟨hE0,hF0⟩:=xM k
 subst hE0 hF0
 have E:=au s (aJ i e) (fun x hx=>aE) (fun _ _ h=>h)
 refine lA ((xf (fU hc hW) (aV.range (E).rd) g rfl rfl).1) ?_
 exact⟨_,rfl,(aZ.weaken E (le b.size f.size)),D⟩
theorem oo(h:aH m w (f5 M x).toList M)(hf:bh M)(hbu:0≤u∧u<256)(hbt:0≤t∧t<65536)(hX:ey dir u t M=none) : Calls Tryz.prog 62 #[.int .i64 dir,.agg (dC u t M x)] w (fun e w'=>e = .returned (.tuple #[.slice none 0 0,.int .i64 1])∧aI [] w w'):=by
  have k:=lH (dir:=dir) h hf hbu hbt
  rw[hX] at k
  exact k
theorem oq(h:aH m w (f5 M x).toList M)(hf:bh M)(hbu:0≤u∧u<256)(hbt:0≤t∧t<65536)  (hX:ey dir u t M=some l) : Calls Tryz.prog 62 #[.int .i64 dir,.agg (dC u t M x)] w (fun e w'=>∃ v,e = .returned (.tuple #[v,.int .i64 0])∧eE w.heap.size w' v l∧aI [] w w'):=by
  have k:=lH (dir:=dir) h hf hbu hbt
  rw[hX] at k
  exact k
end Go.Proofs.YtdkhbcefkfgbdaaGreat
