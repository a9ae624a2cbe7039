/- Contracts of functions, part CGateBack3. -/
import Derived.Test.YtdkhbcefkfgbdaaGreatCGateBack1
import Derived.Test.YtdkhbcefkfgbdaaGreatCGateBack2
import Derived.RangeFuncRecord
import Derived.RangeFuncLeaves
import Derived.RangeFuncCalls
import Derived.OpenShut
import Derived.Below
set_option linter.unusedVariables false
set_option linter.unusedSimpArgs false
set_option maxRecDepth 100000
set_option maxHeartbeats 4000000
namespace Go.Proofs.YtdkhbcefkfgbdaaGreat
open Go.RowKit
def ex (C:aF) : aF:=(C.bytesC 1).need (C.byteV==13 || C.byteV==14) 8
def jM (C:aF) : aF:=(ex C).need (decide (((ex C).l.length:Int)≤251)) 5
def ec (C:aF) : aF:=((ex C).bytesC 1).need (decide (1≤(ex C).byteV)&&decide ((ex C).byteV≤4)) 6
def cn (dir c:Int)(C:aF) : Option (aF × b7) :=
  if c != 43 then none
  else if C.byteV==13 then some ((jM C).bytesC ((jM C).l.length:Int),{ b7.zero with code:=c,mei:=C.byteV,data:=(jM C).bytesR ((jM C).l.length:Int) })
  else if dir==1 then some ((du (ex C).byteV (ec C)).1,{ b7.zero with code:=c,mei:=C.byteV,kind:=(ex C).byteV,level:=(ec C).byteV,more:=(nE (ec C)).byteV,next:=(rj (ec C)).byteV,objects:=(du (ex C).byteV (ec C)).2 })
  else some ((ec C).bytesC 1,{ b7.zero with code:=c,mei:=C.byteV,kind:=(ex C).byteV,next:=(ec C).byteV })
variable {A:Option Addr}{b:List Int}{c:Int}{cp:Nat}{m:Md}{w:World}
theorem qm(hcode:B8 c)(hsl:aW m w (.slice A b.length cp) b)(hb:b.length≤1048576) :
    Calls Tryz.prog 104 #[vI 0,vB c,.slice A b.length cp] w (ef (aL cn 0 c b) w):=by
 obtain⟨hcode1,hcode2⟩:=hcode
 have hln:(b.length:Int)≤1048576:=by omega
 refine en 81 Tryz.func104 rfl<|sg<|aO mZ fun S bi y o p=>al 1<|sq<|bk<|aB 7<|c0<|aB 3<|cb ((c != 43)) (fun f=>?_) (fun f=>?_)
 have ac:=aR f
 refine aA 1<|aN o mZ fun bj ad ae=>al 1<|rt<|br<|tr<|eA ad (vI 4)<|?_
 exact dQ (by unfold aL cn jM ec ex;(try simp only[f,bC,gT,gS,gQ,gR,gP,reduceIte])<;>rfl) (cl (ud p ae y))
 have ac:=aZ f
 refine sk<|bn<|tn<|aA 1<|?_
 refine aG<|e3 (dI (aW.old hsl p) (by omega)) fun g bl T z B=>Pl 1<|aU 2<|aG<|m3 (bJ z) fun bm af h bo=>Pl 1<|aO mZ fun i bp j ag U=>aN ag (mG c 0 0 0 0 0 0 0 0 0 0 0 nS nS nS nS ((aF.mk b false 0).byteV) 0 0 0 0 nS) fun bq D V=>nt<|sq<|go<|Pl 2<|aD D 16<|Pl 2<|s8 4 [33] 37 33 (((aF.mk b false 0).byteV)==13) (((aF.mk b false 0).byteV)==14) (fun K ai aj=>?_) ?_
 have bs:=aS aj
 exact Pl 1<|L1<|iH D 16<|Pl 2<|ce ai _ rfl
 have E:=ud U V j
 refine aG<|m2 (aY (((((aF.mk b false 0).byteV)==13)||(((aF.mk b false 0).byteV)==14))) 8 (ah.old af E)) fun ak an r=>?_
 refine ab an fun j5 s t=>?_
 refine nt<|DO (fun x=>[(6,vP S 0),(7,vI 0),(8,vP g 0),(9,vP i 0)]) (fun(x:aF × Array Value × b7) w'=>ay [g,i] ak w'∧ah w' g x.1∧w'.heap[i]? = some (.cells x.2.1 45 (0,0))∧aH (.hi w.heap.size) w' x.2.1.toList x.2.2∧(aL cn 0 c b=cL x.2.2 x.1)) ?_ ?_
 rintro⟨C,cs,M⟩ F ⟨W,ao,ap,aq,ar⟩
 refine iW [(6,vP S 0),(7,vI 0),(8,vP g 0),(9,vP i 0)] ?_
 have X:ah F g C:=ao
 have au:F.heap[i]? = some (.cells cs 45 (0,0)):=ap
 have u:aH (.hi w.heap.size) F cs.toList M:=aq
 have G:=aH.size u
 have Y:aL cn 0 c b=cL M C:=ar
 refine aA 1<|aG<|m2 (eL X) fun bt Z H=>nt<|sq<|aA 1<|aG<|mq (cw Z)<|?_
 have bu:=ah.len Z
 refine Pl 1<|dK 2<|?_
 have I:=ud B (u1 h (ue E (ui r (u1 W H im)) j) im) T
 have a0:=aK p I
 refine cb ((C.endC.e != 0)) (fun J=>?_) (fun J=>?_)
 have L:=aR J
 refine aA 2<|?_
 refine aN (ub I o) mZ fun bw aw ax=>al 1<|bQ<|eA aw (vI C.endC.e)<|?_
 subst s
 rw[Y]
 exact d4 L (ud a0 ax y)
 have L:=aZ J
 refine bM<|sg<|?_
 refine L0<|cM (hz:=(by rw[G];exact bv)) (bf H (Ne.symm (nb (ah.lt z) h.size j)) au)<|?_
 refine aN (hz:=(by rw[G];exact bv)) (hv:=u.size) (h1:=u.one) (ub I o) (cs) fun bx az a1=>al 1<|rt<|ke 22 G az (vI 0)<|?_
 subst s
 rw[Y]
 exact dB L (aH.upd u (us H a1) (am (ah.safe X _ (by decide)) (am (b6 (ub (ud B (u1 h (ue E (ui r W) j) im) T) o) (by decide)) aP))) (ud a0 a1 y)
 refine aA 1<|?_
 have a:=nb (ah.lt z) h.size j
 have N:=bf r (Ne.symm a) D
 refine aD N 16<|al 1<|cb ((((aF.mk b false 0).byteV)==13)) (fun k=>?_) (fun k=>?_)
 have aC:=aI k
 refine aA 2<|aG<|mq (ea t)<|?_
 have bz:=ah.len t
 refine Pl 1<|aG<|m2 (aY ((decide ((j5.l.length:Int)≤251))) 5 t) fun bA aE a2=>?_
 refine ab aE fun d aJ v=>?_
 refine nt<|go<|Pl 2<|aG<|mq (ea v)<|?_
 have bB:=ah.len v
 refine aG<|w6 (cc (n:=(d.l.length:Int)) v) fun aM aQ bD aV bE bF aX b0=>?_
 have bG:=Nat.le_trans (aF.bytesR_le d (d.l.length:Int)) (ah.len v)
 refine ab aX fun b1 b2 b3=>?_
 refine Pl 1<|?_
 have a3:=u1 a2 b0 im
 have O:=bf a3 (Ne.symm a) N
 refine L0<|cA O 14 (mG c 0 0 0 0 0 0 0 0 0 0 0 nS nS (.slice aM ((d.bytesR (d.l.length:Int)).length) aQ) nS ((aF.mk b false 0).byteV) 0 0 0 0 nS) fun bH b4 P=>nl<|?_
 exact jn (b1,_,(b7.mk c 0 0 0 0 0 0 0 0 0 0 0 [] [] (d.bytesR (d.l.length:Int)) [] ((aF.mk b false 0).byteV) 0 0 0 0 [])) ⟨(us a3 P),(ah.upd b3 P (aa a av) (am (b6 O (by decide)) aP)),b4,⟨_,_,_,_,_,rfl,aT.nil ..,aT.nil ..,(aT.hi_le (aW.upd' aV P (am (b6 O (by decide)) aP)) (le (le (le (le (le (le p.size B.size) h.size) U.size) V.size) r.size) a2.size) fun _ _ q=>q),aT.nil ..,aT.nil ..,(eR (by omega))⟩,by subst b2 aJ s;unfold aL cn jM ec ex;(try simp only[f,k,bC,gT,gS,gQ,gR,gP,reduceIte])<;>rfl⟩
 have aC:=aS k
 refine aA 1<|aG<|m3 (bJ t) fun bI b5 a4 bK=>Pl 1<|?_
 have a5:=bf a4 (Ne.symm a) N
 refine L0<|cA a5 17 (mG c 0 0 0 0 0 0 0 0 0 0 0 nS nS nS nS ((aF.mk b false 0).byteV) j5.byteV 0 0 0 nS) fun bL Q a6=>aU 2<|aD Q 17<|Pl 2<|ij 4 [59] 63 59 (decide (1≤j5.byteV)) (decide (j5.byteV≤4)) (fun K b8 b9=>?_) ?_
 have bN:=of_decide_eq_true b9
 exact Pl 1<|L1<|iH Q 17<|Pl 2<|ce b8 _ rfl
 refine aG<|m2 (aY (((decide (1≤j5.byteV))&&(decide (j5.byteV≤4)))) 6 (ah.upd b5 a6 (aa a av) (am (b6 a5 (by decide)) aP))) fun bO ba bb=>?_
 refine ab ba fun R bc bd=>?_
 refine dK 2<|c0<|go<|Pl 1<|aG<|m3 (bJ bd) fun bP be bg bR=>Pl 1<|?_
 have a7:=u1 bb bg im
 have a8:=bf a7 (Ne.symm a) Q
 refine L0<|cA a8 20 (mG c 0 0 0 0 0 0 0 0 0 0 0 nS nS nS nS ((aF.mk b false 0).byteV) j5.byteV 0 0 R.byteV nS) fun bS bh a9=>nl<|?_
 exact jn ((R.bytesC 1),_,(b7.mk c 0 0 0 0 0 0 0 0 0 0 0 [] [] [] [] ((aF.mk b false 0).byteV) j5.byteV 0 0 R.byteV [])) ⟨(ui a4 (ui a6 (us a7 a9))),(ah.upd be a9 (aa a av) (am (b6 a8 (by decide)) aP)),bh,⟨_,_,_,_,_,rfl,aT.nil ..,aT.nil ..,aT.nil ..,aT.nil ..,aT.nil ..,(eR (by omega))⟩,by subst bc s;unfold aL cn jM ec ex;(try simp only[f,k,bC,gT,gS,gQ,gR,gP,reduceIte])<;>rfl⟩
theorem qX(hcode:B8 c)(hsl:aW m w (.slice A b.length cp) b)(hb:b.length≤1048576) :
    Calls Tryz.prog 104 #[vI 1,vB c,.slice A b.length cp] w (ef (aL cn 1 c b) w):=by
 obtain⟨hcode1,hcode2⟩:=hcode
 have hln:(b.length:Int)≤1048576:=by omega
 refine en 81 Tryz.func104 rfl<|sg<|aO mZ fun X bi B s h=>al 1<|sq<|bk<|aB 7<|c0<|aB 3<|cb ((c != 43)) (fun f=>?_) (fun f=>?_)
 have a8:=aR f
 refine aA 1<|aN s mZ fun bj a9 ac=>al 1<|rt<|br<|tr<|eA a9 (vI 4)<|?_
 exact dQ (by unfold aL cn jM ec ex;(try simp only[f,bC,gT,gS,gQ,gR,gP,reduceIte])<;>rfl) (cl (ud h ac B))
 have a8:=aZ f
 refine sk<|bn<|tn<|aA 1<|?_
 refine aG<|e3 (dI (aW.old hsl h) (by omega)) fun i bl Y D t=>Pl 1<|aU 2<|aG<|m3 (bJ D) fun bm ad g bo=>Pl 1<|aO mZ fun j bp k ae E=>aN ae (mG c 0 0 0 0 0 0 0 0 0 0 0 nS nS nS nS ((aF.mk b false 0).byteV) 0 0 0 0 nS) fun bq F G=>nt<|sq<|go<|Pl 2<|aD F 16<|Pl 2<|s8 4 [33] 37 33 (((aF.mk b false 0).byteV)==13) (((aF.mk b false 0).byteV)==14) (fun K af ag=>?_) ?_
 have bs:=aS ag
 exact Pl 1<|L1<|iH F 16<|Pl 2<|ce af _ rfl
 have H:=ud E G k
 refine aG<|m2 (aY (((((aF.mk b false 0).byteV)==13)||(((aF.mk b false 0).byteV)==14))) 8 (ah.old ad H)) fun ai aj o=>?_
 refine ab aj fun j5 u v=>?_
 refine nt<|DO (fun x=>[(6,vP X 0),(7,vI 0),(8,vP i 0),(9,vP j 0)]) (fun(x:aF × Array Value × b7) w'=>ay [i,j] ai w'∧ah w' i x.1∧w'.heap[j]? = some (.cells x.2.1 45 (0,0))∧aH (.hi w.heap.size) w' x.2.1.toList x.2.2∧(aL cn 1 c b=cL x.2.2 x.1)) ?_ ?_
 rintro⟨C,cs,M⟩ I ⟨Z,ak,an,ao,ap⟩
 refine iW [(6,vP X 0),(7,vI 0),(8,vP i 0),(9,vP j 0)] ?_
 have a0:ah I i C:=ak
 have aq:I.heap[j]? = some (.cells cs 45 (0,0)):=an
 have y:aH (.hi w.heap.size) I cs.toList M:=ao
 have J:=aH.size y
 have a1:aL cn 1 c b=cL M C:=ap
 refine aA 1<|aG<|m2 (eL a0) fun bt a2 L=>nt<|sq<|aA 1<|aG<|mq (cw a2)<|?_
 have bu:=ah.len a2
 refine Pl 1<|dK 2<|?_
 have N:=ud t (u1 g (ue H (ui o (u1 Z L im)) k) im) Y
 have a3:=aK h N
 refine cb ((C.endC.e != 0)) (fun O=>?_) (fun O=>?_)
 have P:=aR O
 refine aA 2<|?_
 refine aN (ub N s) mZ fun bw ar au=>al 1<|bQ<|eA ar (vI C.endC.e)<|?_
 subst u
 rw[a1]
 exact d4 P (ud a3 au B)
 have P:=aZ O
 refine bM<|sg<|?_
 refine L0<|cM (hz:=(by rw[J];exact bv)) (bf L (Ne.symm (nb (ah.lt D) g.size k)) aq)<|?_
 refine aN (hz:=(by rw[J];exact bv)) (hv:=y.size) (h1:=y.one) (ub N s) (cs) fun bx aw a4=>al 1<|rt<|ke 22 J aw (vI 0)<|?_
 subst u
 rw[a1]
 exact dB P (aH.upd y (us L a4) (am (ah.safe a0 _ (by decide)) (am (b6 (ub (ud t (u1 g (ue H (ui o Z) k) im) Y) s) (by decide)) aP))) (ud a3 a4 B)
 refine aA 1<|?_
 have a:=nb (ah.lt D) g.size k
 have Q:=bf o (Ne.symm a) F
 refine aD Q 16<|al 1<|cb ((((aF.mk b false 0).byteV)==13)) (fun p=>?_) (fun p=>?_)
 have ax:=aI p
 refine aA 2<|aG<|mq (ea v)<|?_
 have bz:=ah.len v
 refine Pl 1<|aG<|m2 (aY ((decide ((j5.l.length:Int)≤251))) 5 v) fun bA az a5=>?_
 refine ab az fun d aC z=>?_
 refine nt<|go<|Pl 2<|aG<|mq (ea z)<|?_
 have bB:=ah.len z
 refine aG<|w6 (cc (n:=(d.l.length:Int)) z) fun aE aJ bD aM bE bF aQ aV=>?_
 have bG:=Nat.le_trans (aF.bytesR_le d (d.l.length:Int)) (ah.len z)
 refine ab aQ fun aX b0 b1=>?_
 refine Pl 1<|?_
 have a6:=u1 a5 aV im
 have R:=bf a6 (Ne.symm a) Q
 refine L0<|cA R 14 (mG c 0 0 0 0 0 0 0 0 0 0 0 nS nS (.slice aE ((d.bytesR (d.l.length:Int)).length) aJ) nS ((aF.mk b false 0).byteV) 0 0 0 0 nS) fun bH b2 S=>nl<|?_
 exact jn (aX,_,(b7.mk c 0 0 0 0 0 0 0 0 0 0 0 [] [] (d.bytesR (d.l.length:Int)) [] ((aF.mk b false 0).byteV) 0 0 0 0 [])) ⟨(us a6 S),(ah.upd b1 S (aa a av) (am (b6 R (by decide)) aP)),b2,⟨_,_,_,_,_,rfl,aT.nil ..,aT.nil ..,(aT.hi_le (aW.upd' aM S (am (b6 R (by decide)) aP)) (le (le (le (le (le (le h.size t.size) g.size) E.size) G.size) o.size) a5.size) fun _ _ q=>q),aT.nil ..,aT.nil ..,(eR (by omega))⟩,by subst b0 aC u;unfold aL cn jM ec ex;(try simp only[f,p,bC,gT,gS,gQ,gR,gP,reduceIte])<;>rfl⟩
 have ax:=aS p
 refine aA 1<|aG<|m3 (bJ v) fun bI b3 T bK=>Pl 1<|?_
 have a7:=bf T (Ne.symm a) Q
 refine L0<|cA a7 17 (mG c 0 0 0 0 0 0 0 0 0 0 0 nS nS nS nS ((aF.mk b false 0).byteV) j5.byteV 0 0 0 nS) fun bL U V=>aU 2<|aD U 17<|Pl 2<|ij 4 [59] 63 59 (decide (1≤j5.byteV)) (decide (j5.byteV≤4)) (fun K b4 b5=>?_) ?_
 have bN:=of_decide_eq_true b5
 exact Pl 1<|L1<|iH U 17<|Pl 2<|ce b4 _ rfl
 refine aG<|m2 (aY (((decide (1≤j5.byteV))&&(decide (j5.byteV≤4)))) 6 (ah.upd b3 V (aa a av) (am (b6 a7 (by decide)) aP))) fun bO b9 W=>?_
 refine ab b9 fun r ba bb=>?_
 refine dK 2<|c1<|go<|Pl 1<|?_
 refine aG<|m3 (rW (c:=c) (me:=(aF.mk b false 0).byteV) (kd:=j5.byteV) ⟨hcode1,hcode2⟩ (b8 (by omega)) (b8 (by omega)) bb (bf W (Ne.symm a) U) a) fun bP bc bd be=>?_
 obtain⟨bR,bg,bh⟩:=bd
 refine nl<|?_
 exact jn ((du j5.byteV r).1,_,{ b7.zero with code:=c,mei:=(aF.mk b false 0).byteV,kind:=j5.byteV,level:=r.byteV,more:=(nE r).byteV,next:=(rj r).byteV,objects:=(du j5.byteV r).2 }) ⟨(ui T (ui V (ui W be))),bc,bg.1,(aH.lo bh (le (le (le (le (le (le (le (le h.size t.size) g.size) E.size) G.size) o.size) T.size) V.size) W.size)),by subst ba u;unfold aL cn jM ec ex;(try simp only[f,p,bC,gT,gS,gQ,gR,gP,reduceIte])<;>rfl⟩
theorem rh{dir:Int}(hcode:B8 c)(hsl:aW m w (.slice A b.length cp) b)(hb:b.length≤1048576)(hd:¬ (dir=0∨dir=1)) :
    Calls Tryz.prog 104 #[vI dir,vB c,.slice A b.length cp] w (ef (aL cn dir c b) w):=by
 obtain⟨hcode1,hcode2⟩:=hcode
 have hln:(b.length:Int)≤1048576:=by omega
 have e0:(dir != 0)=true:=by simp;omega
 have e1:(dir != 1)=true:=by simp;omega
 refine en 81 Tryz.func104 rfl<|sg<|aO mZ fun g h a d e=>al 1<|sq<|bk<|aA 3<|sy 14 e0<|Pl 4<|nl<|tn<|ct e1<|aA 1<|aN d mZ fun i eT f=>al 1<|rt<|br<|tr<|eA eT (vI 1)<|?_
 exact dQ (by unfold aL cn jM ec ex;(try simp only[e0,e1,bC,gT,gS,gQ,gR,gP,reduceIte,hd])<;>rfl) (cl (ud e f a))
theorem nQ{v:Value}   {dir:Int}(hc:B8 c)(h:aW m w v b)(hb:b.length≤1048576) :
    Calls Tryz.prog 104 #[.int .i64 dir,.int .u8 c,v] w (ef (aL cn dir c b) w):=by
  obtain⟨A,cp,rfl,_,_⟩:=h.shape
  by_cases h0:dir=0
  · subst h0;exact qm hc h hb
  by_cases h1:dir=1
  · subst h1;exact qX hc h hb
  exact rh hc h hb (by omega)
open Go.RowKit
def rE (C:aF) : aF:=(C.bytesC 1).need (C.byteV==6) 9
def pB (C:aF) : aF:=((rE C).wordsC 1).need ((rE C).wordV != 0) 6
def rM (C:aF) : aF:=((pB C).wordsC 1).need (decide ((pB C).wordV≤9999)) 7
def ig (C:aF) : aF:=((rM C).wordsC 1).need ((rM C).wordV != 0) 5
def bz (C:aF) : et:=⟨(rE C).wordV,(pB C).wordV,(rM C).wordV,[]⟩
def jL (s:Int)(C:aF) : Int:=s+(2+2*(rM C).wordV)
def fM (s:Int)(C:aF) : aF:=(ig C).need (decide (jL s C≤245)) 5
def lz (C:aF) : aF:=(C.bytesC 1).need ((C.byteV%2==1&&decide (3≤C.byteV))&&decide (C.byteV≤((C.bytesC 1).l.length:Int))) 5
def gy (C:aF) : aF:=((lz C).bytesC 1).need ((lz C).byteV==6) 9
def iU (C:aF) : aF:=(gy C).wordsC (Int.tdiv (C.byteV-1) 2)
def iI (C:aF) : et:=⟨0,0,0,(gy C).wordsR (Int.tdiv (C.byteV-1) 2)⟩
def sl (C:aF) : aF:=(ig C).need (decide (2*(rM C).wordV≤((ig C).l.length:Int))) 5
def mn (C:aF) : aF:=(sl C).wordsC (rM C).wordV
def lI (C:aF) : et:=⟨(rE C).wordV,(pB C).wordV,(rM C).wordV,(sl C).wordsR (rM C).wordV⟩
def BM (g:Nat)(C':aF)(r:et)(w:World)(e:Ending)(w':World) : Prop:=∃ A c,e = .returned (.agg #[.int .u16 r.file,.int .u16 r.record,.int .u16 r.count,.slice A r.words.length c])∧fv (.hi w.heap.size) w' (.slice A r.words.length c) r.words∧eT r.file∧eT r.record∧eT r.count∧ah w' g C'∧ay [g] w w'
variable {C:aF}{g:Nat}
theorem rp(hC:ah w g C) : Calls Tryz.prog 214 #[vP g 0] w (BM g (ig C) (bz C) w):=by
 have hlen:=hC.len
 refine en 34 Tryz.func214 rfl<|sg<|aO #[vW 0,vW 0,vW 0,nS] fun Z a0 c B b=>aU 2<|?_
 refine aG<|m3 (bJ (ah.old hC b)) fun a1 D d a2=>Pl 1<|aG<|m2 (aY ((C.byteV==6)) 9 D) fun a3 E e=>?_
 refine ab E fun kf F G=>?_
 refine ng<|aO #[vW 0,vW 0,vW 0,nS] fun a4 a5 f H h=>aU 1<|?_
 refine aG<|m3 (bK (ah.old G h)) fun a6 I i a7=>Pl 1<|?_
 have a:=nb (ah.lt hC) (le (le b.size d.size) e.size) f
 have j:=bf i (Ne.symm a) H
 refine L0<|cA j 0 #[vW kf.wordV,vW 0,vW 0,nS] fun a8 k l=>aU 2<|aD k 0<|Pl 1<|?_
 refine aG<|m2 (aY ((kf.wordV != 0)) 6 (ah.upd I l (aa a av) (am (b6 j (by decide)) aP))) fun a9 J K=>?_
 refine ab J fun j5 L M=>?_
 refine aU 1<|aG<|m3 (bK M) fun ac N O ad=>Pl 1<|?_
 have m:=u1 K O im
 have n:=bf m (Ne.symm a) k
 refine L0<|cA n 1 #[vW kf.wordV,vW j5.wordV,vW 0,nS] fun ae o p=>aU 2<|aD o 1<|Pl 1<|?_
 refine aG<|m2 (aY ((decide (j5.wordV≤9999))) 7 (ah.upd N p (aa a av) (am (b6 n (by decide)) aP))) fun af P Q=>?_
 refine ab P fun x61 R S=>?_
 refine aU 1<|aG<|m3 (bK S) fun ag T U ai=>Pl 1<|?_
 have q:=u1 Q U im
 have r:=bf q (Ne.symm a) o
 refine L0<|cA r 2 #[vW kf.wordV,vW j5.wordV,vW x61.wordV,nS] fun aj s t=>aU 2<|aD s 2<|Pl 1<|?_
 refine aG<|m2 (aY ((x61.wordV != 0)) 5 (ah.upd T t (aa a av) (am (b6 r (by decide)) aP))) fun ak V u=>?_
 refine ab V fun x77 W X=>?_
 refine ng<|?_
 refine L0<|cM (bf u (Ne.symm a) s)<|?_
 have v:=u1 d (u1 e (ud h (ui i (ui l (ui m (ui p (ui q (us t u)))))) f) im) im
 have y:=nb (ah.lt hC) lr c
 have z:=bf v (Ne.symm y) B
 refine aN z #[vW kf.wordV,vW j5.wordV,vW x61.wordV,nS] fun al Y A=>t4<|CT Y<|?_
 subst W R L F
 exact⟨_,_,rfl,aT.nil ..,cD (x:=((C.bytesC 1).need (C.byteV==6) 9).wordV) (by omega),cD (x:=((((C.bytesC 1).need (C.byteV==6) 9).wordsC 1).need (((C.bytesC 1).need (C.byteV==6) 9).wordV != 0) 6).wordV) (by omega),cD (x:=((((((C.bytesC 1).need (C.byteV==6) 9).wordsC 1).need (((C.bytesC 1).need (C.byteV==6) 9).wordV != 0) 6).wordsC 1).need (decide (((((C.bytesC 1).need (C.byteV==6) 9).wordsC 1).need (((C.bytesC 1).need (C.byteV==6) 9).wordV != 0) 6).wordV≤9999)) 7).wordV) (by omega),(ah.upd X A (aa y av) (am (b6 z (by decide)) aP)),(ue b (us v A) c)⟩
theorem vx(hC:ah w g C) : Calls Tryz.prog 217 #[vP g 0] w (BM g (iU C) (iI C) w):=by
 have hlen:=hC.len
 refine en 33 Tryz.func217 rfl<|sg<|aO #[vW 0,vW 0,vW 0,nS] fun Q R k m a=>aU 1<|?_
 refine aG<|m3 (bJ (ah.old hC a)) fun S b c T=>bD C.byteV<|Pl 1<|aU 2<|L0<|Oe (vI (Int.tmod C.byteV 2)) (vI (C.byteV%2)) (congrArg (Value.int .i64) (Int.tmod_eq_emod_of_nonneg (by omega)))<|Pl 2<|ij 3 [11] 14 11 ((C.byteV%2)==1) (decide (3≤C.byteV)) (fun K t u=>?_) ?_
 have U:=aI u
 exact Pl 3<|ce t _ rfl
 refine Pl 1<|ij 5 [15] 20 15 (((C.byteV%2)==1)&&(decide (3≤C.byteV))) (decide (C.byteV≤(((C.bytesC 1).l.length:Nat) : Int))) (fun K v o=>?_) ?_
 have y:=(bW o).1
 have z:=(bW o).2
 have V:=aI y
 have W:=of_decide_eq_true z
 refine Pl 2<|L1<|Oc<|mq (ea b)<|?_
 have X:=ah.len b
 exact Pl 2<|ce v _ rfl
 refine aG<|m2 (aY (((((C.byteV%2)==1)&&(decide (3≤C.byteV)))&&(decide (C.byteV≤(((C.bytesC 1).l.length:Nat) : Int))))) 5 b) fun Y A d=>?_
 refine ab A fun x28 B D=>?_
 refine aU 2<|aG<|m3 (bJ D) fun Z E f a0=>Pl 1<|aG<|m2 (aY ((x28.byteV==6)) 9 E) fun a1 F i=>?_
 refine ab F fun x38 G H=>?_
 refine aU 2<|bD (C.byteV-1)<|L0<|Oe (vI (IntKind.i64.wrap (Int.tdiv (C.byteV-1) 2))) (vI (Int.tdiv (C.byteV-1) 2)) (congrArg (Value.int .i64) (xL (by omega) (by omega)))<|aG<|tS (ek (n:=(Int.tdiv (C.byteV-1) 2)) H) fun I J a2 p a3 a4 L M=>?_
 refine ab L fun x48 N O=>?_
 refine Pl 1<|?_
 have q:=u1 c (u1 d (u1 f (u1 i M im) im) im) im
 have r:=nb (ah.lt hC) lr k
 have s:=bf q (Ne.symm r) m
 refine aN s #[vW 0,vW 0,vW 0,.slice I ((x38.wordsR (Int.tdiv (C.byteV-1) 2)).length) J] fun a5 P j=>t4<|CT P<|?_
 subst N G B
 exact⟨_,_,rfl,(aQ.hi (ak p j (fun x hx=>(aa (fun e=>(az (ag m) (le (le (le c.size d.size) f.size) i.size) p) (e▸hx)) av)) (fun _ _ h=>h)) (le (le (le (le a.size c.size) d.size) f.size) i.size)),cD (x:=0) (by omega),cD (x:=0) (by omega),cD (x:=0) (by omega),(ah.upd O j (aa r av) (am (b6 s (by decide)) aP)),(ue a (us q j) k)⟩
theorem Bo(hC:ah w g C) : Calls Tryz.prog 219 #[vP g 0] w (BM g (mn C) (lI C) w):=by
 have hlen:=hC.len
 refine en 22 Tryz.func219 rfl<|sg<|aO #[vW 0,vW 0,vW 0,nS] fun X Y y j f=>aU 1<|?_
 refine aG<|CB (rp (ah.old hC f)) fun I J Z a0 K L M N c=>?_
 obtain⟨a1,a2⟩:=K
 obtain⟨a3,a4⟩:=L
 obtain⟨a5,a6⟩:=M
 refine aO #[vW 0,vW 0,vW 0,nS] fun O a7 k z m=>aN z #[vW ((bz C).file),vW ((bz C).record),vW ((bz C).count),.slice I ((bz C).words.length) J] fun a8 P i=>nt<|sq<|Rg 9 (fun w'=>w'.cell? ⟨O,2,none⟩=some (vW ((bz C).count))) fun a9 d=>?_
 have o:=ub d P
 refine bi (ae o rfl) fun a=>Rt 0 a<|Rt 1 a<|Rl 2 a (fun _ hs=>hs)<|Rr 3 a (vI ((bz C).count)) (fun _ _=>cR (vI (IntKind.i64.wrap ((bz C).count))) (by kernel_rfl) (congrArg (Value.int .i64) (i64_in (by omega))))<|Rr 4 a (vI (2*((bz C).count))) (fun _ _=>cR (vI (IntKind.i64.wrap (2*((bz C).count)))) (by kernel_rfl) (congrArg (Value.int .i64) (IntWalk.i64_in _ (by omega))))<|Rt 5 a<|?_
 have p:=ud m (aK i d) k
 have q:=ah.old N p
 refine R0 6 rfl<|Oc<|mq (ea q)<|?_
 have ac:=ah.len q
 refine bi (ae o rfl) fun Q=>Rt 7 Q<|R0 8 rfl<|Oc<|m2 (aY ((decide ((2*((bz C).count))≤(((ig C).l.length:Nat) : Int)))) 5 q) fun ad R b=>?_
 refine ab R fun x54 S T=>?_
 have r:=nb (ah.lt hC) (le f.size c.size) k
 have s:=bf b (Ne.symm r) o
 refine bi (ae s rfl) fun af=>re<|tn<|aA 2<|aD s 2<|bD ((bz C).count)<|aG<|tS (ek (n:=(bz C).count) T) fun A B ai t aj al U u=>Pl 1<|?_
 have D:=bf u (Ne.symm r) s
 refine L0<|cA D 3 #[vW ((bz C).file),vW ((bz C).record),vW ((bz C).count),.slice A ((x54.wordsR ((bz C).count)).length) B] fun an V E=>ng<|L0<|cM V<|?_
 have F:=u1 c (ue p (ui b (us u E)) k) im
 have v:=nb (ah.lt hC) lr y
 refine aN (bf F (Ne.symm v) j) #[vW ((bz C).file),vW ((bz C).record),vW ((bz C).count),.slice A ((x54.wordsR ((bz C).count)).length) B] fun ao W G=>t4<|CT W<|?_
 subst S
 have H:=us E G
 exact⟨_,_,rfl,(aQ.hi (ak t H (fun x hx=>(aa (fun e=>(az (ag z) (le (le i.size d.size) b.size) t) (e▸hx)) (aa (fun e=>(az (ag j) (le (le (le (le c.size m.size) i.size) d.size) b.size) t) (e▸hx)) av))) (fun _ _ h=>h)) (le (le (le (le (le f.size c.size) m.size) i.size) d.size) b.size)),cD (x:=(bz C).file) (by omega),cD (x:=(bz C).record) (by omega),cD (x:=(bz C).count) (by omega),(ah.upd U H (aa r (aa v av)) (am (b6 D (by decide)) (am (b6 (bf (u1 c (uz p (u1 b u im)) im) (Ne.symm v) j) (by decide)) aP))),(ue f (us F G) y)⟩
variable {n:Int}
theorem t8(hn:0≤n∧n<256) : Calls Tryz.prog 215 #[vI n] w (bS (.bool ((decide (7≤n)&&decide (n≤245))&&n%7==0)) w):=by
 refine en 14 Tryz.func215 rfl<|aA 1<|aU 3<|ij 3 [5] 8 5 (decide (7≤n)) (decide (n≤245)) (fun K b c=>?_) ?_
 have g:=of_decide_eq_true c
 exact Pl 3<|ce b _ rfl
 refine Pl 1<|ij 4 [9] 13 9 ((decide (7≤n))&&(decide (n≤245))) ((n%7)==0) (fun K d a=>?_) ?_
 have e:=(bW a).1
 have f:=(bW a).2
 have h:=of_decide_eq_true e
 have i:=of_decide_eq_true f
 exact Pl 1<|L1<|Oe (vI (Int.tmod n 7)) (vI (n%7)) (congrArg (Value.int .i64) (Int.tmod_eq_emod_of_nonneg (by omega)))<|Pl 2<|ce d _ rfl
 exact al 1<|rt<|rr (.bool (((decide (7≤n))&&(decide (n≤245)))&&((n%7)==0)))<|⟨rfl,(ay.refl [] _)⟩
theorem tc(hn:0≤n∧n<256) : Calls Tryz.prog 216 #[vI n] w (bS (.bool (decide (4≤n)&&decide (n≤245))) w):=by
 refine en 9 Tryz.func216 rfl<|aA 1<|aU 3<|ij 3 [5] 8 5 (decide (4≤n)) (decide (n≤245)) (fun K a b=>?_) ?_
 have c:=of_decide_eq_true b
 exact Pl 3<|ce a _ rfl
 exact al 1<|rt<|rr (.bool ((decide (4≤n))&&(decide (n≤245))))<|⟨rfl,(ay.refl [] _)⟩
theorem se(hn:0≤n∧n<256) : Calls Tryz.prog 218 #[vI n] w (bS (.bool (decide (9≤n)&&decide (n≤251))) w):=by
 refine en 9 Tryz.func218 rfl<|aA 1<|aU 3<|ij 3 [5] 8 5 (decide (9≤n)) (decide (n≤251)) (fun K a b=>?_) ?_
 have c:=of_decide_eq_true b
 exact Pl 3<|ce a _ rfl
 exact al 1<|rt<|rr (.bool ((decide (9≤n))&&(decide (n≤251))))<|⟨rfl,(ay.refl [] _)⟩
theorem jH{e:Int}  : Calls Tryz.prog 158 #[vI e] w (bS (vI (if e==2 then 5 else e)) w):=by
 refine en 6 Tryz.func158 rfl<|aB 1<|sq<|aB 2<|cb ((e==2)) (fun a=>?_) (fun a=>?_)
 have b:=aI a
 refine aB 1<|bQ<|rr (vI 5)<|?_
 have hs:(if e==2 then (5:Int) else e)=5:=by simp only[a,bC,reduceIte]
 rw[hs]
 exact⟨rfl,(ay.refl [] _)⟩
 have b:=aS a
 refine bM<|aB 2<|rt<|rr (vI e)<|?_
 have hs:(if e==2 then (5:Int) else e)=e:=by simp only[a,bC,reduceIte]
 rw[hs]
 exact⟨rfl,(ay.refl [] _)⟩
open Go.RowKit
structure WF (F:Fence) (n:Nat) (P:Program) (ops:Array Oper) (Q:Exit→Act→World→Prop) (l:List Oper) (a:Act) (w:World) : Prop where
  out:wpListIn F n P ops Q l a w
def eY (F:Fence) : Prop:=F=Fence.wide∨∃ l,F=Fence.wide.inRound l
theorem md:eY Fence.wide:=.inl rfl
theorem lq(l:Nat) : eY (Fence.wide.inRound l):=.inr ⟨l,rfl⟩
theorem eY.fn{F:Fence}(h:eY F)(f:FuncId) : F.fn f:=by
  rcases h with rfl|⟨l,rfl⟩<;>trivial
theorem eY.depth{F:Fence}(h:eY F) : F.depth=none:=by
  rcases h with rfl|⟨l,rfl⟩<;>rfl
section
variable {F:Fence}{n:Nat}{P:Program}{Q:Exit→Act→World→Prop}{a:Act}{w:World}{K:Act→World→Prop}{ops:Array Oper}{rest:List Oper}{o:Oper}{N:Option Tmp}
theorem Cq{f:FuncId}{args:Array Value}{R:Ending→World→Prop}(hF:eY F)(h:Calls P f args w R) : CallsIn F n P f args w R:=by
  rcases hF with rfl|⟨l,rfl⟩
  · exact callsIn_wide.2 h
  · exact CallsIn.inRound l (callsIn_wide.2 h)
theorem Ds{row:String}{args:Array Value}{R:Value→World→Prop}(hF:eY F)(h:Rows P row args w R) : RowsIn F n P row args w R:=by
  have h0:RowsIn Fence.wide n P row args w R:=fun c cs _=>let ⟨v,w',r,s⟩:=h c cs; ⟨v,w',r,stepsIn_wide.2 s⟩
  rcases hF with rfl|⟨l,rfl⟩
  · exact h0
  · exact h0
def gE:Op→Bool
  | .defer _=>false
  | _=>true
theorem F9(hF:eY F)(hd:gE o.op=true)(h:o.wp P a w K Q) : o.wpIn F n P a w K Q:=by
  refine⟨fun f _=>hF.fn f,?_⟩
  rw[Oper.semAt_eq _ _ _ (fun c hc=>by rw[hc] at hd;cases hd)]
  unfold Oper.wp at h
  have hdep:∀ {p:Prop},F.depth.isSome=true→p:=fun h=>by rw[hF.depth] at h;cases h
  generalize (execOp a.eval o).run P w=r at h ⊢
  cases r with
  | ok x w' =>
    cases x<;>simp only[Oper.upon,Oper.uponIn] at h ⊢
    case value u=>exact h
    case skip=>exact h
    case defer d=>exact h
    case enter f args=>exact⟨hdep,Cq hF h⟩
    case row row args=>exact⟨hdep,Ds hF h⟩
  | halt x w' =>
    cases x<;>simp only[Oper.upon,Oper.uponIn] at h ⊢
    case panic u=>exact h
theorem Fw{id:Nat}{l:List Oper}(n:Nat)(h:WF Fence.wide n P l.toArray Q l a w) : (Code.region id l.toArray false).wp P Q a w:=wpIn_wide.1 (wpIn_region_lit h.out)
theorem EB{id:Nat}{l:List Oper}(h:WF F n P l.toArray Q l a w) : (Code.region id l.toArray false).wpIn F n P Q a w:=wpIn_region_lit h.out
theorem Es(h:Q .normal a w) : WF F n P ops Q [] a w:=⟨h⟩
theorem EN(hF:eY F)(hd:gE o.op=true)(hw:Region.wanted o (yielded ops a.tmps)=true)(h:OW P o a w (WF F n P ops Q rest) Q) : WF F n P ops Q (o :: rest) a w:=by
  refine⟨?_⟩
  unfold wpListIn
  rw[if_pos hw]
  exact F9 hF hd (jd h fun _ _ h=>h.out)
theorem Ed(hF:eY F)(hw:Region.wanted o (yielded ops a.tmps)=false)(hN:o.dst=N)(h:WF F n P ops Q rest (a.put N undef) w) : WF F n P ops Q (o :: rest) a w:=by
  subst hN
  refine⟨?_⟩
  unfold wpListIn
  rw[if_neg (by simp[hw])]
  exact⟨fun f _=>hF.fn f,h.out⟩
theorem CL{x:Operand}{opds:Array Operand}{ts:Array TypeId}{l:Nat}{r:Loop}(args:Array Value)(hw:Region.wanted o (yielded ops a.tmps)=true)(hN:o.dst=N)(hop:o.op = .call { callee:=.value x,args:=opds,argTypes:=ts })
    (hx:a.eval x = .func (.yield l) #[] #[]) (hargs:opds.map a.eval=args) (hl:w.heap[l]? = some (.loop r)) (hs:args.size=r.params.size)
    (h:RoundIn Fence.wide (n-1) P l r.fn ((r.params.zip args).foldl (fun tmps (t,a)=>tmps.setIfInBounds t a) r.tmps) r.assign r.body w (fun e w'=>∃ v,e = .returned v∧WF Fence.wide n P ops Q rest (a.put N v) w')) : WF Fence.wide n P ops Q (o :: rest) a w:=by
  subst hN
  refine⟨?_⟩
  unfold wpListIn
  rw[if_pos hw]
  refine⟨fun f _=>trivial,?_⟩
  have hrun:(o.semAt Fence.wide.round a.eval).run P w = .ok (.round l r.fn ((r.params.zip args).foldl (fun tmps (t,a)=>tmps.setIfInBounds t a) r.tmps) r.assign r.body) w:=by
    show(execOp a.eval o).run P w=_
    unfold execOp
    simp only[hop,resolve,hx,Deferred.ofValue,Sem.run_bind,Sem.run_pure,Result.andThen_ok,invoke,hargs]
    have:=run_yield (P:=P) (args:=args) hl hs
    simpa using this
  rw[hrun,Oper.uponIn_round]
  refine⟨(by simp[Fence.wide]),h.mono fun e w' hh=>?_⟩
  obtain⟨v,rfl,h2⟩:=hh
  exact h2.out
end
theorem AC{P:Program}{n:Nat}{ops:Array Oper}{Q:Exit→Act→World→Prop}{rest:List Oper}{o:Oper}{a:Act}{w:World}{N:Option Tmp}{x:Operand}{opds:Array Operand}{ts:Array TypeId}{l:Nat}{r:Loop}(v:Value)(p:Tmp)(hw:Region.wanted o (yielded ops a.tmps)=true)(hN:o.dst=N)(hop:o.op = .call { callee:=.value x,args:=opds,argTypes:=ts })
    (hx:a.eval x = .func (.yield l) #[] #[]) (hargs:opds.map a.eval = #[v]) (hl:w.heap[l]? = some (.loop r)) (hp:r.params = #[p])
    (h:RoundIn Fence.wide (n-1) P l r.fn (r.tmps.setIfInBounds p v) r.assign r.body w (fun e w'=>∃ u,e = .returned u∧WF Fence.wide n P ops Q rest (a.put N u) w')) : WF Fence.wide n P ops Q (o :: rest) a w:=by
  refine CL #[v] hw hN hop hx hargs hl (by rw[hp];rfl) ?_
  have:((r.params.zip #[v]).foldl (fun tmps (t,a)=>tmps.setIfInBounds t a) r.tmps)=r.tmps.setIfInBounds p v:=by rw[hp];simp
  rw[this]
  exact h
theorem iF{w:World}{l:Nat}(o:Go.Obj) : ay [l] w (w.putObj l o) :=
  ⟨rfl,rfl,rfl,by simp[World.putObj],fun k hk hn=>World.putObj_heap_other (by simpa using hn)⟩
theorem mB{w:World}{l:Nat}{o:Go.Obj}(o':Go.Obj)(h:w.heap[l]? = some o) : (w.putObj l o').heap[l]? = some o':=World.putObj_heap_same (ag h)
def kE:Go.Obj→Bool
  | .cells ..=>false
  | _=>true
theorem aT.updl{α:Type}{m:Md}{e:TypeId}{sz:Nat}{R:World→α→List Value→Prop}{w w':World}{v:Value}{xs:List α}{l:Nat}{o:Go.Obj}
    (h:aT m e sz R w v xs) (hu:ay [l] w w') (hl:w.heap[l]? = some o) (ho:kE o=true) (hR:∀ x cs,R w x cs→R w' x cs) : aT m e sz R w' v xs:=by
  obtain⟨A,c,rfl,h1,h2,h0,h3⟩:=h
  refine⟨A,c,rfl,h1,h2,h0,fun hp=>?_⟩
  obtain⟨b,off,cells,t,fr,rfl,hb,ht,hx⟩:=h3 hp
  refine⟨b,off,cells,t,fr,rfl,?_,ht,fun j x hj=>?_⟩
  · refine hu.blk (fun hbs=>?_) hb
    simp at hbs
    subst hbs
    rw[hl] at hb
    injection hb with hb
    subst hb
    cases ho
  · obtain⟨cs,hl,hr,hc⟩:=hx j x hj
    exact⟨cs,hl,hR _ _ hr,hc⟩
theorem aW.updl{m:Md}{w w':World}{v:Value}{xs:List Int}{l:Nat}{o:Go.Obj}(h:aW m w v xs)(hu:ay [l] w w')(hl:w.heap[l]? = some o)(ho:kE o=true) : aW m w' v xs:=aT.updl h hu hl ho fun _ _ h=>h
theorem fv.updl{m:Md}{w w':World}{v:Value}{xs:List Int}{l:Nat}{o:Go.Obj}(h:fv m w v xs)(hu:ay [l] w w')(hl:w.heap[l]? = some o)(ho:kE o=true) : fv m w' v xs:=aT.updl h hu hl ho fun _ _ h=>h
theorem bL.updl{m:Md}{w w':World}{l:Nat}{o:Go.Obj}(hu:ay [l] w w')(hl:w.heap[l]? = some o)(ho:kE o=true)(r:et)(cs:List Value)(h:bL m w r cs) : bL m w' r cs:=by
  obtain⟨v,h1,h2,h3⟩:=h
  exact⟨v,h1,fv.updl h2 hu hl ho,h3⟩
theorem ah.updl{w w':World}{g:Nat}{c:aF}{l:Nat}{o:Go.Obj}(h:ah w g c)(hu:ay [l] w w')(hg:g∉[l])(hl:w.heap[l]? = some o)(ho:kE o=true) : ah w' g c:=by
  obtain⟨v,hb,hr,hn⟩:=h
  exact⟨v,hu.blk hg hb,hr.updl hu hl ho,hn⟩
theorem yi{n:Nat}{P:Program}{l:Nat}{f:FuncId}{tmps:Array Value}{assign body:Code}{w:World}{r:Loop}{R:Ending→World→Prop}
    (h:assign.wpIn (Fence.wide.inRound l) n P (Exit.then (fun a₁ w₁=>w₁.heap[l]? = some (.loop r)∧r.state = .ready∧∀ w₂,w₂.heap[l]? = some (.loop { r with state:=.busy })→ay [l] w₁ w₂ →
      body.wpIn (Fence.wide.inRound l) n P (Exit.then (fun _ w₃=>∃ r',w₃.heap[l]? = some (.loop r')∧∀ w₄,w₄.heap[l]? = some (.loop { r' with state:=.ready,pending:=none })→ay [l] w₃ w₄→R (.returned (.bool true)) w₄) (fun _ _ _=>False)) a₁ w₂) (fun _ _ _=>False)) { tmps:=tmps,defers:=[] } w) :
    RoundIn Fence.wide n P l f tmps assign body w R:=by
  refine roundIn_of_wpIn trivial (Code.wpIn_mono (fun e a w q=>?_) h)
  cases e with
  | normal =>
    obtain⟨h1,h2,h3⟩:=q
    refine⟨_,run_beginRound h1 h2,Code.wpIn_mono (fun e a w q=>?_) (h3 _ (mB _ h1) (iF _))⟩
    cases e with
    | normal =>
      obtain⟨r',h4,h5⟩:=q
      exact⟨_,_,run_endRound none h4,h5 _ (mB _ h4) (iF _)⟩
    | _=>exact q.elim
  | _=>exact q.elim
theorem nc{n:Nat}{P:Program}{l:Nat}{f:FuncId}{tmps:Array Value}{assign body:Code}{w:World}{r:Loop}{R:Ending→World→Prop}
    (hl:w.heap[l]? = some (.loop r))
    (h:assign.wpIn (Fence.wide.inRound l) n P (Exit.then (fun a₁ w₁=>w₁.heap[l]? = some (.loop r)∧r.state = .ready∧∀ w₂,w₂.heap[l]? = some (.loop { r with state:=.busy })→ay [l] w₁ w₂ →
      body.wpIn (Fence.wide.inRound l) n P (Exit.then (fun _ w₃=>∃ r',w₃.heap[l]? = some (.loop r')∧∀ w₄,w₄.heap[l]? = some (.loop { r' with state:=.ready,pending:=none })→ay [l] w₃ w₄→R (.returned (.bool true)) w₄) (fun _ _ _=>False)) a₁ w₂) (fun _ _ _=>False)) { tmps:=tmps,defers:=[] } w) :
    RoundIn Fence.wide n P l f tmps assign body w R:=yi h
theorem yA{P:Program}{Q:Exit→Act→World→Prop}{a:Act}{w:World}{g:Operand}{ps:Array Tmp}{assign body:Code}{f:FuncId}{fn:Func}(cap:Array Value)
    (hx : a.eval g = .func (.func f) #[] cap) (hf : P.funcs[f]? = some fn) (hname : (fn.name == "runtime.NumGoroutine") = false) (hb : fn.body.isSome = true)
    (h:∀ fn0 D l w₂,w.heap.size≤D→w.heap.size≤l→D≠l→w₂.heap[D]? = some (.deferred (some []))→w₂.heap[l]? = some (.loop { state:=.ready,pending:=none,fn:=fn0,tmps:=a.tmps,params:=ps,assign:=assign,body:=body,defers:=D })→ay [] w w₂ →
      Calls P f (#[.func (.yield l) #[] #[]]++cap) w₂ (fun e w₃=>∃ v r',e = .returned v∧w₃.heap[l]? = some (.loop r')∧r'.state≠.busy∧r'.pending=none∧∀ w₄,ay [l] w₃ w₄→Q .normal { a with defers:={ target:=.collected D,args:=#[] } :: a.defers } w₄)) :
    (Code.rangeFunc g ps assign body).wp P Q a w:=by
  refine(wpIn_wide (n:=9)).1 (wpIn_rangeFunc fun fn0 _=>?_)
  have h1 : fn.name ≠ "runtime.NumGoroutine" := by simpa using hname
  obtain⟨cd,hcd⟩:=Option.isSome_iff_exists.1 hb
  refine⟨w.heap.size+1,[{ target:=.collected w.heap.size,args:=#[] }],((w.alloc (.deferred (some []))).alloc (.loop { state:=.ready,pending:=none,fn:=fn0,tmps:=a.tmps,params:=ps,assign:=assign,body:=body,defers:=w.heap.size })),
    { target:=.fn (.func f) cap,args:=#[]++#[.func (.yield (w.heap.size+1)) #[] #[]] },((w.alloc (.deferred (some []))).alloc (.loop { state:=.ready,pending:=none,fn:=fn0,tmps:=a.tmps,params:=ps,assign:=assign,body:=body,defers:=w.heap.size })),
    f,#[.func (.yield (w.heap.size+1)) #[] #[]]++cap,((w.alloc (.deferred (some []))).alloc (.loop { state:=.ready,pending:=none,fn:=fn0,tmps:=a.tmps,params:=ps,assign:=assign,body:=body,defers:=w.heap.size })),run_enterLoop_outer fn0 a.tmps ps assign body,?_,fun _ _=>trivial,?_,by simp[Fence.wide],?_⟩
  · unfold resolve
    simp only[rangeCall,hx,Deferred.ofValue,Sem.run_pure,List.map_toArray,List.map_cons,List.map_nil]
    rfl
  · simp[invoke,callFunc,hf,h1,hcd]
  · have hD:((w.alloc (.deferred (some []))).alloc (.loop { state:=.ready,pending:=none,fn:=fn0,tmps:=a.tmps,params:=ps,assign:=assign,body:=body,defers:=w.heap.size })).heap[w.heap.size]? = some (.deferred (some [])):=zK (dE w _) _
    have hl:((w.alloc (.deferred (some []))).alloc (.loop { state:=.ready,pending:=none,fn:=fn0,tmps:=a.tmps,params:=ps,assign:=assign,body:=body,defers:=w.heap.size })).heap[w.heap.size+1]? = some (.loop { state:=.ready,pending:=none,fn:=fn0,tmps:=a.tmps,params:=ps,assign:=assign,body:=body,defers:=w.heap.size }):=by
      have:=dE (w.alloc (.deferred (some []))) (.loop { state:=.ready,pending:=none,fn:=fn0,tmps:=a.tmps,params:=ps,assign:=assign,body:=body,defers:=w.heap.size })
      simpa using this
    refine callsIn_wide.2 ((h fn0 w.heap.size (w.heap.size+1) _ (Nat.le_refl _) (by omega) (by omega) hD hl (((ay.refl [] w).alloc _).alloc _)).mono ?_)
    rintro e w₃ ⟨v,r',rfl,h3,h4,h5,h6⟩
    refine⟨_,_,run_endLoop h3 h4,?_⟩
    rw[h5]
    exact h6 _ (iF _)
theorem qk{P:Program}{f:FuncId}{fn:Func}{c:Code}{args:Array Value}{w:World}{R:Ending→World→Prop}(hf:P.funcs[f]? = some fn)(hb:fn.body=some c)
    (h:c.wp P (bodyPostM Fence.wide 9 P fn R) { tmps:=args++Array.replicate (fn.ntmps-args.size) undef,defers:=[] } w) : Calls P f args w R :=
  callsIn_wide.1 (callsIn_of_wp_marks hf hb trivial (wpIn_wide.2 h) rfl)
theorem BZ{P:Program}{fn:Func}{R:Ending→World→Prop}{a:Act}{w:World}{D:Nat}(hd:a.defers=[{ target:=.collected D,args:=#[] }])(hD:w.heap[D]? = some (.deferred (some [])))
    (h:∀ w',ay [D] w w'→∃ v,(results fn a.tmps).run P w' = .ok v w'∧R (.returned v) w') : bodyPostM Fence.wide 9 P fn R .ret a w:=by
  show LeavesInM Fence.wide 9 P fn a.tmps R a.defers .returning w
  rw[hd]
  exact⟨by simp,.inl ⟨D,_,rfl,run_takeDeferred hD,h _ (iF _)⟩⟩
theorem AQ{P:Program}{fn:Func}{R:Ending→World→Prop}{a:Act}{w:World}(hd:a.defers=[])(h:∃ v,(results fn a.tmps).run P w = .ok v w∧R (.returned v) w) : bodyPostM Fence.wide 9 P fn R .ret a w:=by
  show LeavesInM Fence.wide 9 P fn a.tmps R a.defers .returning w
  rw[hd]
  exact h
open Go.RowKit
structure GF (E:Fence) (m:Nat) (P:Program) (ops:Array Oper) (Q:Exit→Act→World→Prop) (l:List Oper) (n:Nat) (D:List Deferred) (F:Fr) (w:World) : Prop where
  out:∀ a,Ag n D F a→WF E m P ops Q l a w
structure GI (E:Fence) (m:Nat) (P:Program) (c:Code) (Q:Exit→Act→World→Prop) (n:Nat) (D:List Deferred) (F:Fr) (w:World) : Prop where
  out:∀ a,Ag n D F a→c.wpIn E m P Q a w
section
variable {E:Fence}{m:Nat}{P:Program}{Q:Exit→Act→World→Prop}{n:Nat}{D:List Deferred}{F:Fr}{w:World}{ops:Array Oper}{rest l:List Oper}{d:Option Tmp}{op:Op}{t:TypeId}{s:String}{af:Array Edge}{gu:Option (Nat × Bool)}{x y c:Code}{id:Nat}
theorem Ei(m:Nat)(h:GF Fence.wide m P l.toArray Q l n D F w) : GC P (.region id l.toArray false) Q n D F w:=⟨fun a ha=>Fw m (h.out a ha)⟩
theorem CQ(h:GF E m P l.toArray Q l n D F w) : GI E m P (.region id l.toArray false) Q n D F w:=⟨fun a ha=>EB (h.out a ha)⟩
theorem DU(h:GI E m P c (Exit.inBlock id Q) n D F w) : GI E m P (.block id c) Q n D F w:=⟨fun a ha=>wpIn_block (h.out a ha)⟩
theorem wy(h:GQ Q .normal n D F w) : GF E m P ops Q [] n D F w:=⟨fun a ha=>Es (h.out a ha)⟩
theorem EY(hE:eY E)(h:OG P ⟨d,op,t,s,af,gu⟩ n D F w (GF E m P ops Q rest n D) Q)(hw:n8 ops F gu=(true,true))(hd:gE op=true) : GF E m P ops Q (⟨d,op,t,s,af,gu⟩ :: rest) n D F w :=
  ⟨fun a ha=>EN hE hd (fU ha hw) (h.out a ha _ fun F' w' a' k ha'=>k.out a' ha')⟩
theorem EW(hE:eY E){o:Oper}(h:GF E m P ops Q rest n D (tw P ops w F o) w)(hc:sc P ops w n 1 (o :: rest) F=sQ P ops w 1 (o :: rest) F)(hd:gE o.op=true) : GF E m P ops Q (o :: rest) n D F w:=by
  simp only[sc,sQ,List.cons.injEq,Prod.mk.injEq,Bool.and_eq_true] at hc
  obtain⟨⟨⟨h1,h2,h3⟩,h4⟩,h5⟩:=hc
  refine⟨fun a ha=>?_⟩
  cases hon:(n8 ops F o.guard).2 with
  | true =>
    rw[hon] at h3 h4
    simp only[cond_true] at h3 h4
    have hst:tw P ops w F o=pt o.dst (vo P w F o) F:=by simp[tw,hon]
    rw[hst] at h
    exact EN hE hd (fU ha (Prod.ext h1 hon)) (gi (N:=o.dst) (vo P w F o) rfl (by rw[← j9 ha h3];exact h4) (h.out _ (ha.put h2)))
  | false =>
    have hst:tw P ops w F o=pt o.dst undef F:=by simp[tw,hon]
    rw[hst] at h
    exact Ed (N:=o.dst) hE (fU ha (Prod.ext h1 hon)) rfl (h.out _ (ha.put h2))
theorem F0(h:OG P ⟨d,op,t,s,af,gu⟩ n D F w (GF Fence.wide m P ops Q rest n D) Q)(hw:n8 ops F gu=(true,true):=by kernel_rfl)(hd:gE op=true:=by kernel_rfl) : GF Fence.wide m P ops Q (⟨d,op,t,s,af,gu⟩ :: rest) n D F w:=EY md h hw hd
theorem ny{q:Nat}(h:OG P ⟨d,op,t,s,af,gu⟩ n D F w (GF (Fence.wide.inRound q) m P ops Q rest n D) Q)(hw:n8 ops F gu=(true,true):=by kernel_rfl)(hd:gE op=true:=by kernel_rfl) : GF (Fence.wide.inRound q) m P ops Q (⟨d,op,t,s,af,gu⟩ :: rest) n D F w:=EY (lq _) h hw hd
theorem Fp{o:Oper}(h:GF Fence.wide m P ops Q rest n D (tw P ops w F o) w)(hc:sc P ops w n 1 (o :: rest) F=sQ P ops w 1 (o :: rest) F:=by kernel_rfl)(hd:gE o.op=true:=by kernel_rfl) : GF Fence.wide m P ops Q (o :: rest) n D F w:=EW md h hc hd
theorem CR{q:Nat}{o:Oper}(h:GF (Fence.wide.inRound q) m P ops Q rest n D (tw P ops w F o) w)(hc:sc P ops w n 1 (o :: rest) F=sQ P ops w 1 (o :: rest) F:=by kernel_rfl)(hd:gE o.op=true:=by kernel_rfl) : GF (Fence.wide.inRound q) m P ops Q (o :: rest) n D F w:=EW (lq _) h hc hd
theorem DY(j:Nat)(e:Bool)(ht:e=true→GF E m P ops Q l n D ((j,.bool true) :: F) w)(hf:e=false→GF E m P ops Q l n D ((j,.bool false) :: F) w)(hv:lk F j=some (.bool e):=by kernel_rfl) : GF E m P ops Q l n D F w:=by
  refine⟨fun a ha=>?_⟩
  have key:∀ b,e=b→Ag n D ((j,.bool b) :: F) a:=fun b hb=>⟨ha.sz,ha.df,fun i v hi=>by
    rcases ik hi with⟨rfl,rfl⟩|⟨_,h2⟩
    · rw[← hb];exact ha.at_ _ _ hv
    · exact ha.at_ _ _ h2⟩
  rcases hY e with q|q
  · exact(ht q).out a (key _ q)
  · exact(hf q).out a (key _ q)
theorem Fy{x:Operand}{opds:Array Operand}{ts:Array TypeId}{q:Nat}{r:Loop}(v:Value)(p:Tmp)(hl:w.heap[q]? = some (.loop r))(hp:r.params = #[p])
    (h:RoundIn Fence.wide (m-1) P q r.fn (r.tmps.setIfInBounds p v) r.assign r.body w (fun e w'=>∃ u,e = .returned u∧GF Fence.wide m P ops Q rest n D (pt d u F) w'))
    (hw:n8 ops F gu=(true,true):=by kernel_rfl) (hx:eg F x=some (.func (.yield q) #[] #[]):=by kernel_rfl) (ha:opds.toList.map (eg F)=[some v]:=by kernel_rfl) (hd:eU n d=true:=by kernel_rfl) :
    GF Fence.wide m P ops Q (⟨d,.call { callee:=.value x,args:=opds,argTypes:=ts },t,s,af,gu⟩ :: rest) n D F w :=
  ⟨fun a hag=>AC v p (fU hag hw) rfl rfl (hag.ev hx) (by apply Array.toList_inj.1;rw[Array.toList_map];exact lK (vs:=[v]) hag ha) hl hp (h.mono fun e w' hh=>by
    obtain⟨u,rfl,hk⟩:=hh
    exact⟨u,rfl,hk.out _ (hag.put hd)⟩)⟩
theorem sR{g:Operand}{ps:Array Tmp}{assign body:Code}{f:FuncId}(cap:Array Value)
    (h:∀ a,Ag n D F a→∀ fn0 D' q w₂,w.heap.size≤D'→w.heap.size≤q→D'≠q→w₂.heap[D']? = some (.deferred (some []))→w₂.heap[q]? = some (.loop { state:=.ready,pending:=none,fn:=fn0,tmps:=a.tmps,params:=ps,assign:=assign,body:=body,defers:=D' })→ay [] w w₂ →
      Calls P f (#[.func (.yield q) #[] #[]]++cap) w₂ (fun e w₃=>∃ v r',e = .returned v∧w₃.heap[q]? = some (.loop r')∧r'.state≠.busy∧r'.pending=none∧∀ w₄,ay [q] w₃ w₄→GQ Q .normal n ({ target:=.collected D',args:=#[] } :: D) F w₄))
    (hx:eg F g=some (.func (.func f) #[] cap):=by kernel_rfl) (hf:BW P f=some (false,true):=by kernel_rfl) : GC P (.rangeFunc g ps assign body) Q n D F w:=by
  obtain⟨fn,h1,h2,h3⟩:=jU hf
  refine⟨fun a ha=>yA cap (ha.ev hx) h1 h2 h3 fun fn0 D' q w₂ g1 g2 g3 g4 g5 g6=>(h a ha fn0 D' q w₂ g1 g2 g3 g4 g5 g6).mono fun e w₃ hh=>?_⟩
  obtain⟨v,r',k1,k2,k3,k4,k5⟩:=hh
  exact⟨v,r',k1,k2,k3,k4,fun w₄ hu=>(k5 w₄ hu).out _ ⟨ha.sz,by rw[ha.df],ha.at_⟩⟩
theorem EM{a:Act}(ha:Ag n D F a)(p:Tmp){v:Value}(h:GI E m P c Q n [] ((p,v) :: F) w)(hp:Nat.blt p n=true:=by kernel_rfl) : c.wpIn E m P Q { tmps:=a.tmps.setIfInBounds p v,defers:=[] } w:=by
  have h0:Ag n [] F { tmps:=a.tmps,defers:=[] }:=⟨ha.sz,rfl,ha.at_⟩
  exact h.out _ (h0.put (d:=some p) hp)
theorem Eo{r:Loop}{q:Nat}{c:Code}{Qb:Exit→Act→World→Prop}(h1:w.heap[q]? = some (.loop r))(h2:r.state = .ready)(h:∀ w₂,w₂.heap[q]? = some (.loop { r with state:=.busy })→ay [q] w w₂→GI E m P c Qb n D F w₂) :
    GQ (Exit.then (fun a₁ w₁=>w₁.heap[q]? = some (.loop r)∧r.state = .ready∧∀ w₂,w₂.heap[q]? = some (.loop { r with state:=.busy })→ay [q] w₁ w₂→c.wpIn E m P Qb a₁ w₂) Q) .normal n D F w:=⟨fun a ha=>⟨h1,h2,fun w₂ k1 k2=>(h w₂ k1 k2).out a ha⟩⟩
theorem EG{r:Loop}{q:Nat}{Z:World→Prop}(h1:w.heap[q]? = some (.loop r))(h:∀ w₄,w₄.heap[q]? = some (.loop { r with state:=.ready,pending:=none })→ay [q] w w₄→Z w₄) :
    GQ (Exit.then (fun _ w₃=>∃ r',w₃.heap[q]? = some (.loop r')∧∀ w₄,w₄.heap[q]? = some (.loop { r' with state:=.ready,pending:=none })→ay [q] w₃ w₄→Z w₄) Q) .normal n D F w:=⟨fun a ha=>⟨r,h1,h⟩⟩
end
section
variable {P:Program}{n:Nat}{F:Fr}{w:World}{fn:Func}{R:Ending→World→Prop}
theorem CW{f:FuncId}{c:Code}{args:List Value}{w:World}(n:Nat)(hf:P.funcs[f]? = some fn)(hb:fn.body=some c)
    (h:GC P c (bodyPostM Fence.wide 9 P fn R) n [] (yX 0 args) w) (hn:args.length+(fn.ntmps-args.length)=n:=by kernel_rfl) : Calls P f args.toArray w R:=by
  subst hn
  exact qk hf hb (by simpa using h.out _ (EO (args:=args) (m:=fn.ntmps-args.length)))
theorem CU{D:Nat}(hD:w.heap[D]? = some (.deferred (some [])))(h:∀ w',ay [D] w w'→GQ (fun _ a w'=>∃ v,(results fn a.tmps).run P w' = .ok v w'∧R (.returned v) w') .ret n [{ target:=.collected D,args:=#[] }] F w') : GQ (bodyPostM Fence.wide 9 P fn R) .ret n [{ target:=.collected D,args:=#[] }] F w :=
  ⟨fun a ha=>BZ ha.df hD fun w' hu=>(h w' hu).out a ha⟩
theorem rx{D:List Deferred}{g:Nat}{cs:Array Value}{t:TypeId}{fr:Nat × Nat}(B:w.heap[g]? = some (.cells cs t fr))(u:Value)(h:R (.returned (.tuple #[.agg cs,u])) w)(hc:CN P fn.results F=some (some (.pointer (some ⟨g,0,none⟩)),some u,some true,some cs.size):=by kernel_rfl) : GQ (fun _ a w'=>∃ v,(results fn a.tmps).run P w' = .ok v w'∧R (.returned v) w') .ret n D F w :=
  ⟨fun a ha=>⟨_,lV ha B rfl hc,h⟩⟩
theorem ry{g:Nat}{cs:Array Value}{t:TypeId}{fr:Nat × Nat}(B:w.heap[g]? = some (.cells cs t fr))(u:Value)(h:R (.returned (.tuple #[.agg cs,u])) w)(hc:CN P fn.results F=some (some (.pointer (some ⟨g,0,none⟩)),some u,some true,some cs.size):=by kernel_rfl) : GQ (bodyPostM Fence.wide 9 P fn R) .ret n [] F w :=
  ⟨fun a ha=>AQ ha.df ⟨_,lV ha B rfl hc,h⟩⟩
end
open Go.RowKit
def Cj (mk:Nat→Value)(w:World)(e:Ending)(w':World) : Prop:=∃ gs,e = .returned (.tuple #[mk gs,.bool true])∧w.heap.size≤gs∧w'.heap[gs]? = some (.cells #[.int .i64 0] 3 (0,0))∧ay [] w w'
def Et (gs:Nat) : Value:=.agg #[.func (.func 215) #[] #[],.func (.func 213) #[] #[.pointer (some ⟨gs,0,none⟩)]]
def Eb (gs:Nat) : Value:=.agg #[.func (.func 216) #[] #[],.func (.func 217) #[] #[]]
def Ey (gs:Nat) : Value:=.agg #[.func (.func 218) #[] #[],.func (.func 219) #[] #[]]
theorem AF{w:World}:Calls Tryz.prog 153 #[vI 0,vB 20] w (Cj Et w):=by
 refine en 27 Tryz.func153 rfl<|sg<|aO #[.nilFunc,.nilFunc] fun m n g b c=>Pl 1<|ng<|aO #[vI 0] fun d o a h i=>L0<|cA h 0 #[vI 0] fun p j k=>nt<|sq<|go<|al 2<|sq<|bk<|aB 7<|c1<|aA 2<|?_
 have e:=ud i k a
 refine aN (ub e b) #[.func (.func 215) #[] #[],.func (.func 213) #[] #[vP d 0]] fun q l f=>al 1<|rt<|br<|tr<|eA l (.bool true)<|?_
 exact⟨d,rfl,(Nat.le_trans c.size a),(bf f (Ne.symm (nb (ag b) lr a)) j),(ud c (uz e f) g)⟩
theorem AY{w:World}:Calls Tryz.prog 153 #[vI 1,vB 20] w (Cj Eb w):=by
 refine en 27 Tryz.func153 rfl<|sg<|aO #[.nilFunc,.nilFunc] fun m n f b c=>Pl 1<|ng<|aO #[vI 0] fun g o a h i=>L0<|cA h 0 #[vI 0] fun p j k=>nt<|sq<|go<|al 2<|sq<|bk<|aB 7<|c0<|aB 3<|c1<|aA 1<|?_
 have d:=ud i k a
 refine aN (ub d b) #[.func (.func 216) #[] #[],.func (.func 217) #[] #[]] fun q l e=>al 1<|rt<|br<|tr<|eA l (.bool true)<|?_
 exact⟨g,rfl,(Nat.le_trans c.size a),(bf e (Ne.symm (nb (ag b) lr a)) j),(ud c (uz d e) f)⟩
theorem Af{dir:Int}{w:World}:Calls Tryz.prog 153 #[vI dir,vB 21] w (Cj Ey w):=by
 refine en 27 Tryz.func153 rfl<|sg<|aO #[.nilFunc,.nilFunc] fun m n f b c=>Pl 1<|ng<|aO #[vI 0] fun g o a h i=>L0<|cA h 0 #[vI 0] fun p j k=>nt<|sq<|go<|al 2<|sq<|bk<|aB 7<|c0<|aB 3<|c0<|aB 3<|c1<|aA 1<|?_
 have d:=ud i k a
 refine aN (ub d b) #[.func (.func 218) #[] #[],.func (.func 219) #[] #[]] fun q l e=>al 1<|rt<|br<|tr<|eA l (.bool true)<|?_
 exact⟨g,rfl,(Nat.le_trans c.size a),(bf e (Ne.symm (nb (ag b) lr a)) j),(ud c (uz d e) f)⟩
theorem qJ{dir x:Int}{w:World}(n1:(x==20)=false)(n2:(x==21)=false) : Calls Tryz.prog 153 #[vI dir,vB x] w (bS (.tuple #[.agg #[.nilFunc,.nilFunc],.bool false]) w):=by
 refine en 27 Tryz.func153 rfl<|sg<|aO #[.nilFunc,.nilFunc] fun k l b c d=>Pl 1<|ng<|aO #[vI 0] fun m n e f g=>L0<|cA f 0 #[vI 0] fun o p h=>nt<|sq<|go<|al 2<|sq<|bk<|aA 3<|sy 12 n1<|al 4<|c0<|aB 3<|cf n1<|aB 3<|cf n2<|sk<|bn<|tn<|aA 1<|?_
 have a:=ud g h e
 refine aN (ub a c) #[.nilFunc,.nilFunc] fun q i j=>al 1<|rt<|eA i (.bool false)<|?_
 exact⟨rfl,(ud d (uz a j) b)⟩
theorem mP{gb:Nat}{f:Fn}{x y:Array Value}{w:World}:Calls Tryz.prog 157 #[vP gb 0,.func f x y] w (fun e w'=>∃ b1 b2,e = .returned (.func (.func 220) #[] #[vP b1 0,vP b2 0])∧w.heap.size≤b1∧w.heap.size≤b2∧b1≠b2 ∧
      w'.heap[b1]? = some (.cells #[vP gb 0] 164 (0,0))∧w'.heap[b2]? = some (.cells #[.func f x y] 178 (0,0))∧ay [] w w'):=by
 refine en 6 Tryz.func157 rfl<|sg<|L0<|cX #[vP gb 0] fun a k i b c=>L0<|cX #[.func f x y] fun d l g j h=>Pl 1<|dK 2<|rt<|rr (.func (.func 220) #[] #[vP a 0,vP d 0])<|?_
 exact⟨a,d,rfl,i,(Nat.le_trans c.size g),(nb (ag b) lr g),(ub h b),j,(aK c h)⟩
theorem vi{g gs:Nat}{s:Int}{C:aF}{w:World}(hC:ah w g C)(hS:w.heap[gs]? = some (.cells #[vI s] 3 (0,0)))(hne:g≠gs)(hs:0≤s∧s≤1000000000000) :
    Calls Tryz.prog 213 #[vP g 0,vP gs 0] w (fun e w'=>∃ A c,e = .returned (.agg #[vW (bz C).file,vW (bz C).record,vW (bz C).count,.slice A (bz C).words.length c])∧fv (.hi w.heap.size) w' (.slice A (bz C).words.length c) (bz C).words∧eT (bz C).file∧eT (bz C).record∧eT (bz C).count∧ah w' g (fM s C)∧w'.heap[gs]? = some (.cells #[vI (jL s C)] 3 (0,0))∧ay [g,gs] w w'):=by
 refine en 19 Tryz.func213 rfl<|sg<|aO #[vW 0,vW 0,vW 0,nS] fun T U d j a=>aU 1<|?_
 refine aG<|CB (rp (ah.old hC a)) fun k l V I J K L m f=>?_
 obtain⟨W,X⟩:=J
 obtain⟨Y,Z⟩:=K
 obtain⟨a0,a1⟩:=L
 refine aO #[vW 0,vW 0,vW 0,nS] fun a2 a3 h M N=>aN M #[vW ((bz C).file),vW ((bz C).record),vW ((bz C).count),.slice k ((bz C).words.length) l] fun a4 n O=>ng<|?_
 have o:=ud N O h
 have p:=aK f o
 have r:=bf (uz a p) (Ne.symm hne) hS
 refine aD r 0<|Pl 1<|aD n 2<|bD ((bz C).count)<|bD (2*((bz C).count))<|bD (2+(2*((bz C).count)))<|bD (s+(2+(2*((bz C).count))))<|L0<|cA r 0 #[vI (s+(2+(2*((bz C).count))))] fun a5 t u=>aU 1<|aD t 0<|Pl 1<|?_
 have v:=uz o u
 have b:=uz a f
 have y:=bf b (Ne.symm hne) hS
 refine aG<|m2 (aY ((decide ((s+(2+(2*((bz C).count))))≤245))) 5 (ah.upd m v (aa hne av) (am (b6 y (by decide)) aP))) fun a6 P z=>?_
 refine ab P fun x47 Q R=>?_
 refine ng<|?_
 have B:=us u z
 refine L0<|cM (ay.blk B (aa (Ne.symm (nb (ag hS) b.size h)) (aa (Ne.symm (nb (ah.lt hC) b.size h)) av)) n)<|?_
 have i:=nb (ah.lt hC) lr d
 have D:=nb (ag hS) lr d
 have E:=ay.blk (ui p B) (aa (Ne.symm D) (aa (Ne.symm i) av)) j
 refine aN E #[vW ((bz C).file),vW ((bz C).record),vW ((bz C).count),.slice k ((bz C).words.length) l] fun a7 S F=>t4<|CT S<|?_
 subst Q
 have G:=us z F
 have H:=us v G
 exact⟨_,_,rfl,(aT.hi_le (fv.upd' I H (am (b6 y (by decide)) (am (ah.safe m _ (by decide)) (am (b6 (bf f (Ne.symm i) j) (by decide)) aP)))) a.size fun _ _ q=>q),cD (x:=(bz C).file) (by omega),cD (x:=(bz C).record) (by omega),cD (x:=(bz C).count) (by omega),(ah.upd R F (aa i av) (am (b6 E (by decide)) aP)),(ay.blk G (aa (Ne.symm hne) (aa D av)) t),(ut (ay.mono (S':=[g,gs]) b (ac im aC)) H (ac im (ac im (ac (nr d) aC))))⟩
def gL (c:Int)(v:Value) : Array Value:=#[.int .u8 c,.int .u8 0,.int .u16 0,.int .u16 0,.int .u16 0,.int .u16 0,.int .u16 0,.int .u16 0,.int .u16 0,.int .u16 0,.int .u16 0,.int .u16 0,iY,iY,iY,v,.int .u8 0,.int .u8 0,.int .u8 0,.int .u8 0,.int .u8 0,iY]
structure JR (w0:World) (gb gs gm l:Nat) (c:Int) (r:Loop) (C:aF) (s:Int) (L:List et) (A:Option Addr) (cp:Nat) (W:World) : Prop where
  u:ay [gb,gs,gm,l] w0 W
  hC:ah W gb C
  hS:W.heap[gs]? = some (.cells #[.int .i64 s] 3 (0,0))
  hm:W.heap[gm]? = some (.cells (gL c (.slice A L.length cp)) 45 (0,0))
  ho:aQ w0.heap.size 98 4 (bL (.hi w0.heap.size)) W (.slice A L.length cp) L
  hl:W.heap[l]? = some (.loop r)
def fl (s:Int)(C:aF) : Int × aF × et:=(jL s C,fM s C,bz C)
def dp (s:Int)(C:aF) : Int × aF × et:=(s,iU C,iI C)
def fy (s:Int)(C:aF) : Int × aF × et:=(s,mn C,lI C)
def bB (one:Int→aF→Int × aF × et) : Nat→Int→aF→List et→aF × List et
  | 0,_,C,L=>(C,L)
  | n+1,s,C,L =>
    if decide (0<(C.l.length:Int))&&C.e==0 then
      (if (one s C).2.1.e != 0 then ((one s C).2.1,L) else bB one n (one s C).1 (one s C).2.1 (L++[(one s C).2.2]))
    else (C,L)
theorem jB(C:aF)(n:Int) : (C.bytesC n).l.length≤C.l.length:=by
  unfold aF.bytesC
  split
  · unfold aF.need
    split<;>simp
  · simp
theorem mW(C:aF)(h:0<C.l.length) : (C.bytesC 1).l.length<C.l.length:=by
  unfold aF.bytesC
  split
  · unfold aF.need
    split<;>simpa using h
  · simp
    omega
theorem eJ(C:aF)(b:Bool)(e:Int) : (C.need b e).l.length=C.l.length:=by
  unfold aF.need
  split<;>rfl
theorem eV(C:aF)(n:Int) : (C.wordsC n).l.length≤C.l.length:=by
  unfold aF.wordsC
  split<;>exact jB ..
theorem qe(C:aF)(h:0<C.l.length) : (ig C).l.length<C.l.length:=by
  have h1:(rE C).l.length<C.l.length:=by unfold rE;rw[eJ];exact mW C h
  have h2:(pB C).l.length≤(rE C).l.length:=by unfold pB;rw[eJ];exact eV ..
  have h3:(rM C).l.length≤(pB C).l.length:=by unfold rM;rw[eJ];exact eV ..
  have h4:(ig C).l.length≤(rM C).l.length:=by unfold ig;rw[eJ];exact eV ..
  omega
theorem pa(s:Int)(C:aF)(h:0<C.l.length) : (fl s C).2.1.l.length<C.l.length:=by
  show(fM s C).l.length<_
  unfold fM
  rw[eJ]
  exact qe C h
theorem mS(s:Int)(C:aF)(h:0<C.l.length) : (dp s C).2.1.l.length<C.l.length:=by
  show(iU C).l.length<_
  have h1:(lz C).l.length<C.l.length:=by unfold lz;rw[eJ];exact mW C h
  have h2:(gy C).l.length≤(lz C).l.length:=by unfold gy;rw[eJ];exact jB ..
  have h3:(iU C).l.length≤(gy C).l.length:=by unfold iU;exact eV ..
  omega
theorem p4(s:Int)(C:aF)(h:0<C.l.length) : (fy s C).2.1.l.length<C.l.length:=by
  show(mn C).l.length<_
  have h1:=qe C h
  have h2:(sl C).l.length=(ig C).l.length:=by unfold sl;rw[eJ]
  have h3:(mn C).l.length≤(sl C).l.length:=by unfold mn;exact eV ..
  omega
theorem jA(one:Int→aF→Int × aF × et)(n:Nat)(s:Int)(C:aF)(L:List et)(h:(decide (0<(C.l.length:Int))&&C.e==0)=false) : bB one n s C L=(C,L):=by
  cases n with
  | zero=>rfl
  | succ n=>simp only[bB,h,Bool.false_eq_true,if_false]
open Go.RowKit
def dY (fn0:FuncId)(tm:Array Value)(asg bdy:Code)(D:Nat) : Loop:={ state:=.ready,pending:=none,fn:=fn0,tmps:=tm,params:=#[53],assign:=asg,body:=bdy,defers:=D }
def sa (w:World)(gb gs gm l:Nat)(c:Int)(R:Loop) : Prop:=∀ (W:World)(C:aF)(s:Int)(L:List et)(A:Option Addr)(cp:Nat)(x:et)(Ax:Option Addr)(cx:Nat),JR w gb gs gm l c R C s L A cp W→fv (.hi w.heap.size) W (.slice Ax x.words.length cx) x.words→eT x.file→eT x.record→eT x.count→L.length≤1048576 →
    RoundIn Fence.wide 8 Tryz.prog l R.fn (R.tmps.setIfInBounds 53 (.agg #[.int .u16 x.file,.int .u16 x.record,.int .u16 x.count,.slice Ax x.words.length cx])) R.assign R.body W (fun e W'=>e = .returned (.bool true)∧W.heap.size≤W'.heap.size∧∃ A2 c2,JR w gb gs gm l c R C s (L++[x]) A2 c2 W')
theorem Cf{w:World}{gb gs gm l b1 b2 fn0 D:Nat}{tm:Array Value}{asg bdy:Code}{c:Int}{C0:aF}(hC:ah w gb C0)(hS:w.heap[gs]? = some (.cells #[vI 0] 3 (0,0)))(hm:w.heap[gm]? = some (.cells (gL c iY) 45 (0,0)))
    (hl:w.heap[l]? = some (.loop (dY fn0 tm asg bdy D))) (hb1:w.heap[b1]? = some (.cells #[vP gb 0] 164 (0,0))) (hb2:w.heap[b2]? = some (.cells #[.func (.func 213) #[] #[vP gs 0]] 178 (0,0)))
    (n1:gb≠gs) (n2:gb≠gm) (n3:gb≠l) (n4:gs≠gm) (n5:gs≠l) (n6:gm≠l) (m1:b1≠gb) (m2:b1≠gs) (m3:b1≠gm) (m4:b1≠l) (k1:b2≠gb) (k2:b2≠gs) (k3:b2≠gm) (k4:b2≠l) (hround:sa w gb gs gm l c (dY fn0 tm asg bdy D)) :
    Calls Tryz.prog 220 #[.func (.yield l) #[] #[],vP b1 0,vP b2 0] w (fun e W=>e = .returned (.tuple #[])∧∃ s A cp,JR w gb gs gm l c (dY fn0 tm asg bdy D) (bB fl C0.l.length 0 C0 []).1 s (bB fl C0.l.length 0 C0 []).2 A cp W):=by
 have hlen:=hC.len
 refine en 25 Tryz.func220 rfl<|bk<|?_
 refine jZ (fun x=>[(0,.func (.yield l) #[] #[]),(1,vP b1 0),(2,vP b2 0)]) (fun(x:Nat × aF × Int × List et × Option Addr × Nat) w'=>ay [gb,gs,gm,l] w w'∧ah w' gb x.2.1∧w'.heap[gs]? = some (.cells #[vI x.2.2.1] 3 (0,0))∧w'.heap[gm]? = some (.cells (gL c (.slice x.2.2.2.2.1 x.2.2.2.1.length x.2.2.2.2.2)) 45 (0,0))∧w'.heap[l]? = some (.loop (dY fn0 tm asg bdy D))∧aQ w.heap.size 98 4 (bL (.hi w.heap.size)) w' (.slice x.2.2.2.2.1 x.2.2.2.1.length x.2.2.2.2.2) x.2.2.2.1∧(bB fl x.1 x.2.2.1 x.2.1 x.2.2.2.1=bB fl C0.l.length 0 C0 [])∧(x.2.1.l.length≤x.1)∧(0≤x.2.2.1∧x.2.2.1≤131074*(x.2.2.2.1.length:Int))∧(x.2.2.2.1.length+x.1≤C0.l.length)) (fun x=>x.1) (C0.l.length,C0,0,[],none,0) ⟨ay.refl _ _,hC,hS,hm,hl,aQ.nil ..,rfl,(Nat.le_refl _),(by(try dsimp only);omega),(by(try dsimp only);(try simp only[List.length_nil]);omega)⟩ ?_
 rintro⟨n,C,s,L,A,cp⟩ h ⟨i,I,J,M,N,O,P,Q,R,S⟩
 refine iW [(0,.func (.yield l) #[] #[]),(1,vP b1 0),(2,vP b2 0)] ?_
 have b:ah h gb C:=I
 have m:h.heap[gs]? = some (.cells #[vI s] 3 (0,0)):=J
 have t:h.heap[gm]? = some (.cells (gL c (.slice A L.length cp)) 45 (0,0)):=M
 have v:h.heap[l]? = some (.loop (dY fn0 tm asg bdy D)):=N
 have d:aQ w.heap.size 98 4 (bL (.hi w.heap.size)) h (.slice A L.length cp) L:=O
 have ae:bB fl n s C L=bB fl C0.l.length 0 C0 []:=P
 have af:C.l.length≤n:=Q
 have ai:0≤s∧s≤131074*(L.length:Int):=R
 have aj:L.length+n≤C0.l.length:=S
 have hrec:bB fl n s C L=bB fl C0.l.length 0 C0 []:=by assumption
 refine sq<|sg<|?_
 have o:=ay.blk i (aa m1 (aa m2 (aa m3 (aa m4 av)))) hb1
 refine aD o 0<|aG<|mq (ea b)<|?_
 have al:=ah.len b
 refine Pl 2<|ij 4 [8] 12 8 (decide (0<(C.l.length:Int))) (C.e==0) (fun K T U=>?_) ?_
 have an:=of_decide_eq_true U
 refine L1<|iH o 0<|L1<|Oc<|mq (cw b)<|?_
 have ao:=ah.len b
 exact Pl 2<|ce T _ rfl
 refine nt<|cb (((decide (0<(C.l.length:Int)))&&(C.e==0))) (fun f=>?_) (fun f=>?_)
 have y:=(bW f).1
 have z:=(bW f).2
 have ap:=of_decide_eq_true y
 have aq:=aI z
 refine bM<|bk<|sg<|?_
 refine aD (ay.blk i (aa k1 (aa k2 (aa k3 (aa k4 av)))) hb2) 0<|aD o 0<|L0<|gk #[] #[vP gs 0] (args:=#[vP gb 0,vP gs 0])<|F4 (vi (s:=s) b m n1 (by omega)) fun B E ar V X Y Z a0 F a1=>?_
 have au:jL s C=s+(2+2*(bz C).count):=rfl
 obtain⟨aw,ax⟩:=X
 obtain⟨aA,aB⟩:=Y
 obtain⟨aE,aH⟩:=Z
 refine aO #[vW 0,vW 0,vW 0,nS] fun aJ aL a2 a3 a4=>aN a3 #[vW ((bz C).file),vW ((bz C).record),vW ((bz C).count),.slice B ((bz C).words.length) E] fun a5 a6 a7=>nt<|sq<|Ei 9<|?_
 have j:=ud a4 a7 a2
 have a:=aK a1 j
 refine F0<|iH (ay.blk a (aa m1 (aa m2 av)) o) 0<|?_
 have p:=ah.old a0 j
 refine F0<|Oc<|mq (cw p)<|?_
 have aM:=ah.len p
 refine Fp<|Fp<|?_
 have G:=ut i a (ac im (ac im aC))
 refine DY 19 ((((fM s C).e)!=0)) (fun k=>?_) (fun k=>?_)
 have a8:=aR k
 refine Fp<|Fp<|Fp<|Fp<|Fp<|wy<|tn<|c1<|rt<|br<|tr<|br<|rr (.tuple #[])<|?_
 have hfin:bB fl C0.l.length 0 C0 []=((fM s C),L):=by
   rw[← hrec]
   rw[show n=(n-1)+1 from by omega]
   simp only[bB,fl,f,y,z,k,bC,reduceIte]
 refine⟨rfl,(jL s C),A,cp,?_⟩
 rw[hfin]
 exact⟨G,p,(ub j F),(ay.blk a (aa (Ne.symm n2) (aa (Ne.symm n4) av)) t),(ak d a (fun x hx=>(aa (fun e=>(az (ah.lt hC) lr d) (e▸hx)) (aa (fun e=>(az (ag hS) lr d) (e▸hx)) av))) (bL.upd16 a (am (ah.safe b _ (by decide)) (am (b6 m (by decide)) aP)))),(ay.blk a (aa (Ne.symm n3) (aa (Ne.symm n5) av)) v)⟩
 have a8:=aZ k
 refine Fp<|F0<|cM a6<|?_
 have H:=ay.blk a (aa (Ne.symm n3) (aa (Ne.symm n5) av)) v
 have a9:JR w gb gs gm l c (dY fn0 tm asg bdy D) (fM s C) (jL s C) L A cp a5:=⟨G,p,(ub j F),(ay.blk a (aa (Ne.symm n2) (aa (Ne.symm n4) av)) t),(ak d a (fun x hx=>(aa (fun e=>(az (ah.lt hC) lr d) (e▸hx)) (aa (fun e=>(az (ag hS) lr d) (e▸hx)) av))) (bL.upd16 a (am (ah.safe b _ (by decide)) (am (b6 m (by decide)) aP)))),H⟩
 refine Fy (r:=dY fn0 tm asg bdy D) (.agg #[vW ((bz C).file),vW ((bz C).record),vW ((bz C).count),.slice B ((bz C).words.length) E]) 53 H rfl<|?_
 refine RoundIn.mono (hround _ _ _ _ _ _ (bz C) _ _ a9 (aT.hi_le (fv.upd' V j aP) i.size fun _ _ q=>q) (cD (by omega)) (cD (by omega)) (cD (by omega)) (by omega)) ?_
 rintro _ aS ⟨rfl,aU,ab,ad,g⟩
 refine⟨_,rfl,?_⟩
 exact Fp<|Fp<|wy<|tn<|c0<|sk<|bn<|fD ((n-1),(fM s C),(jL s C),(L++[(bz C)]),ab,ad) ⟨g.u,g.hC,g.hS,g.hm,g.hl,g.ho,(by(try dsimp only);rw[← hrec,show n=(n-1)+1 from by omega];simp only[bB,fl,f,y,z,k,bC,Nat.add_sub_cancel,reduceIte]),(by(try dsimp only);have hd:=pa s C (by omega);have pB:(fl s C).2.1.l.length=(fM s C).l.length:=rfl;omega),(by(try dsimp only);simp only[co];omega),(by(try dsimp only);simp only[co];omega)⟩ (by omega)
 refine xt<|tx<|tx<|bx<|rm (.tuple #[])<|?_
 have hfin:bB fl C0.l.length 0 C0 []=(C,L):=by
   rw[← hrec]
   exact jA _ _ _ _ _ (by simp only[f,bC])
 refine⟨rfl,s,A,cp,?_⟩
 rw[hfin]
 exact⟨i,b,m,t,d,v⟩
theorem Ct{w:World}{gb gs gm l b1 b2 fn0 D:Nat}{tm:Array Value}{asg bdy:Code}{c:Int}{C0:aF}(hC:ah w gb C0)(hS:w.heap[gs]? = some (.cells #[vI 0] 3 (0,0)))(hm:w.heap[gm]? = some (.cells (gL c iY) 45 (0,0)))
    (hl:w.heap[l]? = some (.loop (dY fn0 tm asg bdy D))) (hb1:w.heap[b1]? = some (.cells #[vP gb 0] 164 (0,0))) (hb2:w.heap[b2]? = some (.cells #[.func (.func 217) #[] #[]] 178 (0,0)))
    (n1:gb≠gs) (n2:gb≠gm) (n3:gb≠l) (n4:gs≠gm) (n5:gs≠l) (n6:gm≠l) (m1:b1≠gb) (m2:b1≠gs) (m3:b1≠gm) (m4:b1≠l) (k1:b2≠gb) (k2:b2≠gs) (k3:b2≠gm) (k4:b2≠l) (hround:sa w gb gs gm l c (dY fn0 tm asg bdy D)) :
    Calls Tryz.prog 220 #[.func (.yield l) #[] #[],vP b1 0,vP b2 0] w (fun e W=>e = .returned (.tuple #[])∧∃ s A cp,JR w gb gs gm l c (dY fn0 tm asg bdy D) (bB dp C0.l.length 0 C0 []).1 s (bB dp C0.l.length 0 C0 []).2 A cp W):=by
 have hlen:=hC.len
 refine en 25 Tryz.func220 rfl<|bk<|?_
 refine jZ (fun x=>[(0,.func (.yield l) #[] #[]),(1,vP b1 0),(2,vP b2 0)]) (fun(x:Nat × aF × Int × List et × Option Addr × Nat) w'=>ay [gb,gs,gm,l] w w'∧ah w' gb x.2.1∧w'.heap[gs]? = some (.cells #[vI x.2.2.1] 3 (0,0))∧w'.heap[gm]? = some (.cells (gL c (.slice x.2.2.2.2.1 x.2.2.2.1.length x.2.2.2.2.2)) 45 (0,0))∧w'.heap[l]? = some (.loop (dY fn0 tm asg bdy D))∧aQ w.heap.size 98 4 (bL (.hi w.heap.size)) w' (.slice x.2.2.2.2.1 x.2.2.2.1.length x.2.2.2.2.2) x.2.2.2.1∧(bB dp x.1 x.2.2.1 x.2.1 x.2.2.2.1=bB dp C0.l.length 0 C0 [])∧(x.2.1.l.length≤x.1)∧(0≤x.2.2.1∧x.2.2.1≤131074*(x.2.2.2.1.length:Int))∧(x.2.2.2.1.length+x.1≤C0.l.length)) (fun x=>x.1) (C0.l.length,C0,0,[],none,0) ⟨ay.refl _ _,hC,hS,hm,hl,aQ.nil ..,rfl,(Nat.le_refl _),(by(try dsimp only);omega),(by(try dsimp only);(try simp only[List.length_nil]);omega)⟩ ?_
 rintro⟨n,C,s,L,A,cp⟩ g ⟨h,H,I,J,M,N,O,P,Q,R⟩
 refine iW [(0,.func (.yield l) #[] #[]),(1,vP b1 0),(2,vP b2 0)] ?_
 have b:ah g gb C:=H
 have o:g.heap[gs]? = some (.cells #[vI s] 3 (0,0)):=I
 have p:g.heap[gm]? = some (.cells (gL c (.slice A L.length cp)) 45 (0,0)):=J
 have t:g.heap[l]? = some (.loop (dY fn0 tm asg bdy D)):=M
 have i:aQ w.heap.size 98 4 (bL (.hi w.heap.size)) g (.slice A L.length cp) L:=N
 have ac:bB dp n s C L=bB dp C0.l.length 0 C0 []:=O
 have ad:C.l.length≤n:=P
 have ae:0≤s∧s≤131074*(L.length:Int):=Q
 have af:L.length+n≤C0.l.length:=R
 have hrec:bB dp n s C L=bB dp C0.l.length 0 C0 []:=by assumption
 refine sq<|sg<|?_
 have k:=ay.blk h (aa m1 (aa m2 (aa m3 (aa m4 av)))) hb1
 refine aD k 0<|aG<|mq (ea b)<|?_
 have ag:=ah.len b
 refine Pl 2<|ij 4 [8] 12 8 (decide (0<(C.l.length:Int))) (C.e==0) (fun K S T=>?_) ?_
 have ai:=of_decide_eq_true T
 refine L1<|iH k 0<|L1<|Oc<|mq (cw b)<|?_
 have aj:=ah.len b
 exact Pl 2<|ce S _ rfl
 refine nt<|cb (((decide (0<(C.l.length:Int)))&&(C.e==0))) (fun d=>?_) (fun d=>?_)
 have v:=(bW d).1
 have y:=(bW d).2
 have al:=of_decide_eq_true v
 have an:=aI y
 refine bM<|bk<|sg<|?_
 refine aD (ay.blk h (aa k1 (aa k2 (aa k3 (aa k4 av)))) hb2) 0<|aD k 0<|L0<|gk #[] #[] (args:=#[vP gb 0])<|CB (vx b) fun B E ao U V X Y Z a0=>?_
 obtain⟨ap,aq⟩:=V
 obtain⟨ar,au⟩:=X
 obtain⟨aw,ax⟩:=Y
 refine aO #[vW 0,vW 0,vW 0,nS] fun aA aB a1 a2 a3=>aN a2 #[vW ((iI C).file),vW ((iI C).record),vW ((iI C).count),.slice B ((iI C).words.length) E] fun a4 a5 a6=>nt<|sq<|Ei 9<|?_
 have z:=ud a3 a6 a1
 have a:=aK a0 z
 refine F0<|iH (bf a m1 k) 0<|?_
 have m:=ah.old Z z
 refine F0<|Oc<|mq (cw m)<|?_
 have aC:=ah.len m
 refine Fp<|Fp<|?_
 have F:=u1 h a im
 refine DY 19 ((((iU C).e)!=0)) (fun j=>?_) (fun j=>?_)
 have a7:=aR j
 refine Fp<|Fp<|Fp<|Fp<|Fp<|wy<|tn<|c1<|rt<|br<|tr<|br<|rr (.tuple #[])<|?_
 have hfin:bB dp C0.l.length 0 C0 []=((iU C),L):=by
   rw[← hrec]
   rw[show n=(n-1)+1 from by omega]
   simp only[bB,dp,d,v,y,j,bC,reduceIte]
 refine⟨rfl,s,A,cp,?_⟩
 rw[hfin]
 exact⟨F,m,(bf a (Ne.symm n1) o),(bf a (Ne.symm n2) p),(ak i a (fun x hx=>(aa (fun e=>(az (ah.lt hC) lr i) (e▸hx)) av)) (bL.upd16 a (am (ah.safe b _ (by decide)) aP))),(bf a (Ne.symm n3) t)⟩
 have a7:=aZ j
 refine Fp<|F0<|cM a5<|?_
 have G:=bf a (Ne.symm n3) t
 have a8:JR w gb gs gm l c (dY fn0 tm asg bdy D) (iU C) s L A cp a4:=⟨F,m,(bf a (Ne.symm n1) o),(bf a (Ne.symm n2) p),(ak i a (fun x hx=>(aa (fun e=>(az (ah.lt hC) lr i) (e▸hx)) av)) (bL.upd16 a (am (ah.safe b _ (by decide)) aP))),G⟩
 refine Fy (r:=dY fn0 tm asg bdy D) (.agg #[vW ((iI C).file),vW ((iI C).record),vW ((iI C).count),.slice B ((iI C).words.length) E]) 53 G rfl<|?_
 refine RoundIn.mono (hround _ _ _ _ _ _ (iI C) _ _ a8 (aT.hi_le (fv.upd' U z aP) h.size fun _ _ q=>q) (cD (by omega)) (cD (by omega)) (cD (by omega)) (by omega)) ?_
 rintro _ aE ⟨rfl,aH,a9,ab,f⟩
 refine⟨_,rfl,?_⟩
 exact Fp<|Fp<|wy<|tn<|c0<|sk<|bn<|fD ((n-1),(iU C),s,(L++[(iI C)]),a9,ab) ⟨f.u,f.hC,f.hS,f.hm,f.hl,f.ho,(by(try dsimp only);rw[← hrec,show n=(n-1)+1 from by omega];simp only[bB,dp,d,v,y,j,bC,Nat.add_sub_cancel,reduceIte]),(by(try dsimp only);have hd:=mS s C (by omega);have pB:(dp s C).2.1.l.length=(iU C).l.length:=rfl;omega),(by(try dsimp only);simp only[co];omega),(by(try dsimp only);simp only[co];omega)⟩ (by omega)
 refine xt<|tx<|tx<|bx<|rm (.tuple #[])<|?_
 have hfin:bB dp C0.l.length 0 C0 []=(C,L):=by
   rw[← hrec]
   exact jA _ _ _ _ _ (by simp only[d,bC])
 refine⟨rfl,s,A,cp,?_⟩
 rw[hfin]
 exact⟨h,b,o,p,i,t⟩
theorem C5{w:World}{gb gs gm l b1 b2 fn0 D:Nat}{tm:Array Value}{asg bdy:Code}{c:Int}{C0:aF}(hC:ah w gb C0)(hS:w.heap[gs]? = some (.cells #[vI 0] 3 (0,0)))(hm:w.heap[gm]? = some (.cells (gL c iY) 45 (0,0)))
    (hl:w.heap[l]? = some (.loop (dY fn0 tm asg bdy D))) (hb1:w.heap[b1]? = some (.cells #[vP gb 0] 164 (0,0))) (hb2:w.heap[b2]? = some (.cells #[.func (.func 219) #[] #[]] 178 (0,0)))
    (n1:gb≠gs) (n2:gb≠gm) (n3:gb≠l) (n4:gs≠gm) (n5:gs≠l) (n6:gm≠l) (m1:b1≠gb) (m2:b1≠gs) (m3:b1≠gm) (m4:b1≠l) (k1:b2≠gb) (k2:b2≠gs) (k3:b2≠gm) (k4:b2≠l) (hround:sa w gb gs gm l c (dY fn0 tm asg bdy D)) :
    Calls Tryz.prog 220 #[.func (.yield l) #[] #[],vP b1 0,vP b2 0] w (fun e W=>e = .returned (.tuple #[])∧∃ s A cp,JR w gb gs gm l c (dY fn0 tm asg bdy D) (bB fy C0.l.length 0 C0 []).1 s (bB fy C0.l.length 0 C0 []).2 A cp W):=by
 have hlen:=hC.len
 refine en 25 Tryz.func220 rfl<|bk<|?_
 refine jZ (fun x=>[(0,.func (.yield l) #[] #[]),(1,vP b1 0),(2,vP b2 0)]) (fun(x:Nat × aF × Int × List et × Option Addr × Nat) w'=>ay [gb,gs,gm,l] w w'∧ah w' gb x.2.1∧w'.heap[gs]? = some (.cells #[vI x.2.2.1] 3 (0,0))∧w'.heap[gm]? = some (.cells (gL c (.slice x.2.2.2.2.1 x.2.2.2.1.length x.2.2.2.2.2)) 45 (0,0))∧w'.heap[l]? = some (.loop (dY fn0 tm asg bdy D))∧aQ w.heap.size 98 4 (bL (.hi w.heap.size)) w' (.slice x.2.2.2.2.1 x.2.2.2.1.length x.2.2.2.2.2) x.2.2.2.1∧(bB fy x.1 x.2.2.1 x.2.1 x.2.2.2.1=bB fy C0.l.length 0 C0 [])∧(x.2.1.l.length≤x.1)∧(0≤x.2.2.1∧x.2.2.1≤131074*(x.2.2.2.1.length:Int))∧(x.2.2.2.1.length+x.1≤C0.l.length)) (fun x=>x.1) (C0.l.length,C0,0,[],none,0) ⟨ay.refl _ _,hC,hS,hm,hl,aQ.nil ..,rfl,(Nat.le_refl _),(by(try dsimp only);omega),(by(try dsimp only);(try simp only[List.length_nil]);omega)⟩ ?_
 rintro⟨n,C,s,L,A,cp⟩ g ⟨h,H,I,J,M,N,O,P,Q,R⟩
 refine iW [(0,.func (.yield l) #[] #[]),(1,vP b1 0),(2,vP b2 0)] ?_
 have b:ah g gb C:=H
 have o:g.heap[gs]? = some (.cells #[vI s] 3 (0,0)):=I
 have p:g.heap[gm]? = some (.cells (gL c (.slice A L.length cp)) 45 (0,0)):=J
 have t:g.heap[l]? = some (.loop (dY fn0 tm asg bdy D)):=M
 have i:aQ w.heap.size 98 4 (bL (.hi w.heap.size)) g (.slice A L.length cp) L:=N
 have ac:bB fy n s C L=bB fy C0.l.length 0 C0 []:=O
 have ad:C.l.length≤n:=P
 have ae:0≤s∧s≤131074*(L.length:Int):=Q
 have af:L.length+n≤C0.l.length:=R
 have hrec:bB fy n s C L=bB fy C0.l.length 0 C0 []:=by assumption
 refine sq<|sg<|?_
 have k:=ay.blk h (aa m1 (aa m2 (aa m3 (aa m4 av)))) hb1
 refine aD k 0<|aG<|mq (ea b)<|?_
 have ag:=ah.len b
 refine Pl 2<|ij 4 [8] 12 8 (decide (0<(C.l.length:Int))) (C.e==0) (fun K S T=>?_) ?_
 have ai:=of_decide_eq_true T
 refine L1<|iH k 0<|L1<|Oc<|mq (cw b)<|?_
 have aj:=ah.len b
 exact Pl 2<|ce S _ rfl
 refine nt<|cb (((decide (0<(C.l.length:Int)))&&(C.e==0))) (fun d=>?_) (fun d=>?_)
 have v:=(bW d).1
 have y:=(bW d).2
 have al:=of_decide_eq_true v
 have an:=aI y
 refine bM<|bk<|sg<|?_
 refine aD (ay.blk h (aa k1 (aa k2 (aa k3 (aa k4 av)))) hb2) 0<|aD k 0<|L0<|gk #[] #[] (args:=#[vP gb 0])<|CB (Bo b) fun B E ao U V X Y Z a0=>?_
 obtain⟨ap,aq⟩:=V
 obtain⟨ar,au⟩:=X
 obtain⟨aw,ax⟩:=Y
 refine aO #[vW 0,vW 0,vW 0,nS] fun aA aB a1 a2 a3=>aN a2 #[vW ((lI C).file),vW ((lI C).record),vW ((lI C).count),.slice B ((lI C).words.length) E] fun a4 a5 a6=>nt<|sq<|Ei 9<|?_
 have z:=ud a3 a6 a1
 have a:=aK a0 z
 refine F0<|iH (bf a m1 k) 0<|?_
 have m:=ah.old Z z
 refine F0<|Oc<|mq (cw m)<|?_
 have aC:=ah.len m
 refine Fp<|Fp<|?_
 have F:=u1 h a im
 refine DY 19 ((((mn C).e)!=0)) (fun j=>?_) (fun j=>?_)
 have a7:=aR j
 refine Fp<|Fp<|Fp<|Fp<|Fp<|wy<|tn<|c1<|rt<|br<|tr<|br<|rr (.tuple #[])<|?_
 have hfin:bB fy C0.l.length 0 C0 []=((mn C),L):=by
   rw[← hrec]
   rw[show n=(n-1)+1 from by omega]
   simp only[bB,fy,d,v,y,j,bC,reduceIte]
 refine⟨rfl,s,A,cp,?_⟩
 rw[hfin]
 exact⟨F,m,(bf a (Ne.symm n1) o),(bf a (Ne.symm n2) p),(ak i a (fun x hx=>(aa (fun e=>(az (ah.lt hC) lr i) (e▸hx)) av)) (bL.upd16 a (am (ah.safe b _ (by decide)) aP))),(bf a (Ne.symm n3) t)⟩
 have a7:=aZ j
 refine Fp<|F0<|cM a5<|?_
 have G:=bf a (Ne.symm n3) t
 have a8:JR w gb gs gm l c (dY fn0 tm asg bdy D) (mn C) s L A cp a4:=⟨F,m,(bf a (Ne.symm n1) o),(bf a (Ne.symm n2) p),(ak i a (fun x hx=>(aa (fun e=>(az (ah.lt hC) lr i) (e▸hx)) av)) (bL.upd16 a (am (ah.safe b _ (by decide)) aP))),G⟩
 refine Fy (r:=dY fn0 tm asg bdy D) (.agg #[vW ((lI C).file),vW ((lI C).record),vW ((lI C).count),.slice B ((lI C).words.length) E]) 53 G rfl<|?_
 refine RoundIn.mono (hround _ _ _ _ _ _ (lI C) _ _ a8 (aT.hi_le (fv.upd' U z aP) h.size fun _ _ q=>q) (cD (by omega)) (cD (by omega)) (cD (by omega)) (by omega)) ?_
 rintro _ aE ⟨rfl,aH,a9,ab,f⟩
 refine⟨_,rfl,?_⟩
 exact Fp<|Fp<|wy<|tn<|c0<|sk<|bn<|fD ((n-1),(mn C),s,(L++[(lI C)]),a9,ab) ⟨f.u,f.hC,f.hS,f.hm,f.hl,f.ho,(by(try dsimp only);rw[← hrec,show n=(n-1)+1 from by omega];simp only[bB,fy,d,v,y,j,bC,Nat.add_sub_cancel,reduceIte]),(by(try dsimp only);have hd:=p4 s C (by omega);have pB:(fy s C).2.1.l.length=(mn C).l.length:=rfl;omega),(by(try dsimp only);simp only[co];omega),(by(try dsimp only);simp only[co];omega)⟩ (by omega)
 refine xt<|tx<|tx<|bx<|rm (.tuple #[])<|?_
 have hfin:bB fy C0.l.length 0 C0 []=(C,L):=by
   rw[← hrec]
   exact jA _ _ _ _ _ (by simp only[d,bC])
 refine⟨rfl,s,A,cp,?_⟩
 rw[hfin]
 exact⟨h,b,o,p,i,t⟩
open Go.RowKit
def m9 (n:Int) : Bool:=(decide (7≤n)&&decide (n≤245))&&n%7==0
def mi (n:Int) : Bool:=decide (4≤n)&&decide (n≤245)
def oQ (n:Int) : Bool:=decide (9≤n)&&decide (n≤251)
def ul (may:Int→Bool)(C:aF) : aF:=(C.bytesC 1).need (may C.byteV) 5
def xO (may:Int→Bool)(C:aF) : aF:=⟨(ul may C).bytesR C.byteV,false,0⟩
def nU (one:Int→aF→Int × aF × et)(may:Int→Bool)(C:aF) : aF × List et:=bB one (xO may C).l.length 0 (xO may C) []
def ei (e:Int) : Int:=if e==2 then 5 else e
def eb (one:Int→aF→Int × aF × et)(may:Int→Bool)(c:Int)(C:aF) : aF × b7 :=
  (((ul may C).bytesC C.byteV).need ((nU one may C).1.e==0) (ei (nU one may C).1.e),{ b7.zero with code:=c,recs:=(nU one may C).2 })
def bG (dir c:Int)(C:aF) : Option (aF × b7) :=
  if c==20 then (if dir==0 then some (eb fl m9 c C) else some (eb dp mi c C)) else if c==21 then some (eb fy oQ c C) else none
theorem wH:((20:Int)==20)=true:=rfl
theorem xI:((21:Int)==20)=false:=rfl
theorem xj:((21:Int)==21)=true:=rfl
theorem pX{m:Md}{A:Option Addr}{cp:Nat}{b:List Int}{w:World}{dir:Int}(hd:dir=0∨dir=1)(hsl:aW m w (.slice A b.length cp) b)(hb:b.length≤1048576) :
    Calls Tryz.prog 102 #[vI 0,vB 20,.slice A b.length cp] w (ef (aL bG 0 20 b) w):=by
 have hln:(b.length:Int)≤1048576:=by omega
 have cB:((dir != 0)&&(dir != 1))=false:=by rcases hd with rfl | rfl<;>rfl
 refine CW 77 Tryz.func102 rfl<|sg<|aO mZ fun b4 cC b5 Q J=>al 1<|sq<|aB 6<|c0<|bM<|aA 2<|aG (args:=#[vI 0,vB 20])<|e3 AF fun E cE a7 B F=>Pl 3<|aO #[.nilFunc,.nilFunc] fun cF cG c4 b8 t=>aN b8 #[.func (.func 215) #[] #[],.func (.func 213) #[] #[vP E 0]] fun cH c5 r=>al 1<|sq<|sq<|go<|al 2<|c0<|bM<|aA 1<|?_
 have Z:=ud t r c4
 have a8:=aK F Z
 have b9:=aK J a8
 refine aG<|e3 (dI (aW.old hsl b9) (by omega)) fun a9 cI K M q=>Pl 1<|aU 1<|aG<|m3 (bJ M) fun cJ c6 k cK=>bD ((aF.mk b false 0).byteV)<|Pl 1<|aU 2<|?_
 have ad:=ud q k K
 have ba:=ub ad c5
 refine aD ba 0<|Pl 1<|L0<|gk #[] #[] (args:=#[vI ((aF.mk b false 0).byteV)])<|m1 (t8 (n:=(aF.mk b false 0).byteV) (by omega)) fun cN g=>?_
 refine aG<|m2 (aY ((m9 ((aF.mk b false 0).byteV))) 5 (ah.old c6 g)) fun cO c7 h=>?_
 refine ab c7 fun x49 bb bc=>?_
 refine aU 2<|aG<|w6 (cc (n:=(aF.mk b false 0).byteV) bc) fun cP cQ cR c8 cS cT c9 i=>?_
 have cU:=Nat.le_trans (aF.bytesR_le x49 ((aF.mk b false 0).byteV)) (ah.len bc)
 refine ab c9 fun x58 bd ca=>?_
 refine aG<|e3 (dI c8 (by omega)) fun S cV ae H o=>Pl 1<|aU 2<|aO mZ fun D cW N O p=>aN O (mC 20) fun cX cd d=>nt<|sq<|aA 2<|?_
 have a0:=ud p d N
 have be:=aK o a0
 have bg:=uz g (u1 h (aK i be) im)
 refine aD (bf bg (nb (ag b8) r.size K) ba) 1<|aG<|CB (mP (gb:=S) (f:=.func 213) (x:=#[]) (y:=#[vP E 0])) fun ce cf cY af aj d0 bh bi j=>nt<|bk<|sR (f:=220) #[vP ce 0,vP cf 0] fun a ha=>?_
 intro d1 d2 T cg v I bj an P G
 have bl:=nb (ah.lt H) lr N
 have a1:=nb (ah.lt H) (le (le p.size d.size) j.size) I
 have bm:=nb (ag B) (le (le (le (le (le (le (le t.size r.size) q.size) k.size) g.size) h.size) i.size) o.size) N
 have bo:=nb (ag B) (le (le (le (le (le (le (le (le (le (le t.size r.size) q.size) k.size) g.size) h.size) i.size) o.size) p.size) d.size) j.size) I
 have U:=nb (ag O) (le d.size j.size) I
 have a2:=aK j G
 have bp:=ah.old H (aK a0 a2)
 have bq:=ud ad (aK bg a2) K
 have br:=ub (aK Z bq) B
 have ao:=ub a2 cd
 refine(Cf (c:=20) bp br ao P (ub G bh) (ub G bi) (Ne.symm (nb (ag B) (le (le (le (le (le (le t.size r.size) q.size) k.size) g.size) h.size) i.size) ae)) bl a1 bm bo U (Ne.symm (nb (ah.lt H) a0.size af)) (Ne.symm (nb (ag B) (le (le (le (le (le (le (le (le (le t.size r.size) q.size) k.size) g.size) h.size) i.size) o.size) p.size) d.size) af)) (Ne.symm (nb (ag O) d.size af)) (nb (ag bh) lr I) (Ne.symm (nb (ah.lt H) a0.size aj)) (Ne.symm (nb (ag B) (le (le (le (le (le (le (le (le (le t.size r.size) q.size) k.size) g.size) h.size) i.size) o.size) p.size) d.size) aj)) (Ne.symm (nb (ag O) d.size aj)) (nb (ag bi) lr I) ?_).mono ?_
 intro W C s L Ar cr x Ax cx hJ hrd hx1 hx2 hx3 hL
 simp only[eT] at hx1 hx2 hx3
 have hm2:W.heap[D]? = some (.cells #[vB 20,vB 0,vW 0,vW 0,vW 0,vW 0,vW 0,vW 0,vW 0,vW 0,vW 0,vW 0,nS,nS,nS,.slice Ar L.length cr,vB 0,vB 0,vB 0,vB 0,vB 0,nS] 45 (0,0)):=hJ.hm
 refine nc hJ.hl ?_
 refine EM ha 53<|CQ<|ny<|Bv #[vW 0,vW 0,vW 0,nS] fun d3 d5 bs ch bt=>ny<|rL ch #[vW x.file,vW x.record,vW x.count,.slice Ax x.words.length cx] fun d6 ci bu=>wy<|?_
 have bv:=ud bt bu bs
 refine Eo (ub bv hJ.hl) (by trivial) fun d7 cj ap=>DU<|CQ<|CR<|?_
 have bw:=uz bv ap
 have bx:=bf bw U hm2
 refine ny<|iH bx 15<|?_
 refine ny<|cM (bf ap (Ne.symm (nb (ag P) hJ.u.size bs)) ci)<|ny<|dX (m:=1) (e:=98) #[vW x.file,vW x.record,vW x.count,.slice Ax x.words.length cx] fun d8 d9 da ck ar=>?_
 have V:=aK bw ar
 have cl:=to (R:=bL (.hi cg.heap.size)) (x:=(et.mk x.file x.record x.count x.words)) ck rfl ⟨_,rfl,(fv.updl hrd V hJ.hl rfl),cD (x:=x.file) (by omega),cD (x:=x.record) (by omega),cD (x:=x.count) (by omega)⟩
 have au:=ak hJ.ho V (fun x hx=>(aa (fun e=>(az (ag P) lr hJ.ho) (e▸hx)) av)) (bL.updl V hJ.hl rfl)
 refine ny<|mA (xs:=L) (ys:=([(et.mk x.file x.record x.count x.words)])) (.agg #[vW 0,vW 0,vW 0,nS]) 4 32 au cl (by simp) bL.ones (fun w' hv=>bL.upd16 hv (cZ (dF _ au (by decide)) aP)) (by(try simp only[co,aE]);omega) (le (le (le (le hJ.u.size bt.size) bu.size) ap.size) ar.size) fun bz bA db aw ax=>CR<|?_
 have bE:=ut (ay.mono (S':=(ob Ar++[])) ar aC) ax (ai il aC)
 have aH:=ay.blk bE (aq (az (ag ao) lr hJ.ho) av) bx
 refine ny<|cA aH 15 (mG 20 0 0 0 0 0 0 0 0 0 0 0 nS nS nS (.slice bz ((L++[(et.mk x.file x.record x.count x.words)]).length) bA) 0 0 0 0 0 nS) fun dc cm X=>wy<|bn<|?_
 have aI:=ay.blk (u1 (ay.mono (S':=(ob Ar++(D :: []))) bE (ai il aC)) X im) (aq (az (ag P) lr hJ.ho) (aa (Ne.symm U) av)) cj
 refine EG aI fun dd cn Y=>?_
 have aJ:=ut (ay.mono (S':=(T :: (ob Ar++(D :: [])))) V (ac im aC)) (ut (ay.mono (S':=(ob Ar++(D :: (T :: [])))) ax (ai il aC)) (us X Y) (ac im (ac im aC))) (ai il (ac im (ac im aC)))
 exact⟨by trivial,aJ.size,bz,bA,⟨(ut hJ.u aJ (ac im (ai (aX hJ.ho lr) (ac im aC)))),(ah.updl (ah.upd (ah.upd (ah.updl hJ.hC V (aa a1 av) hJ.hl rfl) ax (aq (az (ah.lt bp) lr hJ.ho) av) (cZ (dF _ au (by decide)) aP)) X (aa bl av) (am (b6 aH (by decide)) aP)) Y (aa a1 av) aI rfl),(ay.blk aJ (aa bo (aq (az (ag br) lr hJ.ho) (aa bm av))) hJ.hS),(bf Y U cm),(ak (ak aw X (fun x hx=>(aa (fun e=>(az (ag ao) lr aw) (e▸hx)) av)) (bL.upd16 X (am (b6 aH (by decide)) aP))) Y (fun x hx=>(aa (fun e=>(az (ag P) lr aw) (e▸hx)) av)) (bL.updl Y aI rfl)),cn⟩⟩
 rintro _ cq ⟨rfl,de,bF,bH,z⟩
 refine⟨_,_,rfl,z.hl,by simp[dY],by trivial,fun df bI=>?_⟩
 refine ab z.hC fun aM bK cs=>?_
 have ct:cq.heap[D]? = some (.cells #[vB 20,vB 0,vW 0,vW 0,vW 0,vW 0,vW 0,vW 0,vW 0,vW 0,vW 0,vW 0,nS,nS,nS,.slice bF ((bB fl (aF.mk (x49.bytesR ((aF.mk b false 0).byteV)) false 0).l.length 0 (aF.mk (x49.bytesR ((aF.mk b false 0).byteV)) false 0) []).2.length) bH,vB 0,vB 0,vB 0,vB 0,vB 0,nS] 45 (0,0)):=z.hm
 refine bn<|tn<|aA 2<|?_
 have a3:=ah.updl cs bI (aa a1 av) z.hl rfl
 refine aG<|mq (cw a3)<|?_
 have dg:=ah.len a3
 refine Pl 2<|aG<|mq (cw a3)<|?_
 have dh:=ah.len a3
 refine aG<|m1 (jH (e:=aM.e)) fun di cu=>?_
 have a4:=aK bI cu
 have bN:=u1 z.u a4 im
 have bO:=ud ad (uz g (u1 h i im)) K
 have bP:=ah.upd ca (ut (ay.mono (S':=[E]) be aC) (ut (ay.mono (S':=[S,E,D]) a2 aC) bN (ac im (ac im (ac im (ac (ni j.size I) aC))))) (ac (nr ae) (ac im (ac (ni o.size N) aC)))) (aa (Ne.symm (nb (ag B) Z.size K)) av) (am (b6 (ub (aK Z bO) B) (by decide)) aP)
 refine aG<|m2 (aY ((aM.e==0)) (ei aM.e) bP) fun dj cv aS=>?_
 refine ab cv fun bR bS bT=>?_
 refine aU 1<|aG<|m2 (eL bT) fun dk bU aV=>nt<|sq<|aA 1<|aG<|mq (cw bU)<|?_
 have dl:=ah.len bU
 refine Pl 1<|dK 2<|?_
 have bV:=u1 aS aV im
 have b0:=u1 (ay.mono (S':=[S,E,D,T,a9]) bN (ac im (ac im (ac im (ac im aC))))) bV im
 have b1:=ut (ay.mono (S':=[E]) bq aC) b0 (ac (ni bO.size ae) (ac im (ac (ni (le (le (le (le (le q.size k.size) g.size) h.size) i.size) o.size) N) (ac (ni (le (le (le (le (le (le (le (le q.size k.size) g.size) h.size) i.size) o.size) p.size) d.size) j.size) I) (ac (nr K) aC)))))
 have bW:=ud b9 b1 (le J.size a7)
 have hs:aL bG 0 20 b=cL (b7.mk 20 0 0 0 0 0 0 0 0 0 0 0 [] [] [] (bB fl (aF.mk ((((aF.mk b false 0).bytesC 1).need (m9 ((aF.mk b false 0).byteV)) 5).bytesR ((aF.mk b false 0).byteV)) false 0).l.length 0 (aF.mk ((((aF.mk b false 0).bytesC 1).need (m9 ((aF.mk b false 0).byteV)) 5).bytesR ((aF.mk b false 0).byteV)) false 0) []).2 0 0 0 0 0 []) (((((aF.mk b false 0).bytesC 1).need (m9 ((aF.mk b false 0).byteV)) 5).bytesC ((aF.mk b false 0).byteV)).need (((bB fl (aF.mk ((((aF.mk b false 0).bytesC 1).need (m9 ((aF.mk b false 0).byteV)) 5).bytesR ((aF.mk b false 0).byteV)) false 0).l.length 0 (aF.mk ((((aF.mk b false 0).bytesC 1).need (m9 ((aF.mk b false 0).byteV)) 5).bytesR ((aF.mk b false 0).byteV)) false 0) []).1).e==0) (ei ((bB fl (aF.mk ((((aF.mk b false 0).bytesC 1).need (m9 ((aF.mk b false 0).byteV)) 5).bytesR ((aF.mk b false 0).byteV)) false 0).l.length 0 (aF.mk ((((aF.mk b false 0).bytesC 1).need (m9 ((aF.mk b false 0).byteV)) 5).bytesR ((aF.mk b false 0).byteV)) false 0) []).1).e)):=by
   unfold aL bG eb nU xO ul
   (try simp only[bC,gT,gS,gQ,gR,gP,reduceIte,wH,xI,xj])
   all_goals rfl
 refine cb ((bR.endC.e != 0)) (fun b2=>?_) (fun b2=>?_)
 have b3:=aR b2
 refine aA 2<|?_
 refine aN (ub (ud a8 b1 a7) Q) mZ fun dm cy bX=>al 1<|bQ<|?_
 have bY:=nb (ag Q) (le (le (le (le (le (le (le (le (le (le (le F.size t.size) r.size) q.size) k.size) g.size) h.size) i.size) o.size) p.size) d.size) j.size) v
 refine CU (ay.blk (u1 (ay.mono (S':=[S,E,D,T,a9,b4]) b0 (ac im (ac im (ac im (ac im (ac im aC)))))) bX im) (aa (Ne.symm (nb (ah.lt H) (le (le p.size d.size) j.size) v)) (aa (Ne.symm (nb (ag B) (le (le (le (le (le (le (le (le (le (le t.size r.size) q.size) k.size) g.size) h.size) i.size) o.size) p.size) d.size) j.size) v)) (aa (Ne.symm (nb (ag O) (le d.size j.size) v)) (aa bj (aa (Ne.symm (nb (ah.lt M) (le (le (le (le (le (le (le k.size g.size) h.size) i.size) o.size) p.size) d.size) j.size) v)) (aa (Ne.symm bY) av)))))) an) fun dn bZ=>?_
 refine rx (bf bZ bY cy) (vI bR.endC.e)<|?_
 subst bS bK bd bb
 rw[hs]
 exact d4 b3 (ut bW (us bX bZ) (ac (nr b5) (ac (ni (le (le (le (le (le (le (le (le (le (le (le (le J.size F.size) t.size) r.size) q.size) k.size) g.size) h.size) i.size) o.size) p.size) d.size) j.size) v) aC)))
 have b3:=aZ b2
 refine bM<|sg<|?_
 refine L0<|cM (ay.blk (us a4 bV) (aa U (aa (Ne.symm (nb (ah.lt M) (le (le (le (le k.size g.size) h.size) i.size) o.size) N)) av)) ct)<|?_
 have c1:=ub (ud a8 b1 a7) Q
 refine aN c1 (mG 20 0 0 0 0 0 0 0 0 0 0 0 nS nS nS (.slice bF ((bB fl (aF.mk (x49.bytesR ((aF.mk b false 0).byteV)) false 0).l.length 0 (aF.mk (x49.bytesR ((aF.mk b false 0).byteV)) false 0) []).2.length) bH) 0 0 0 0 0 nS) fun dp cz a5=>al 1<|rt<|?_
 have c2:=nb (ag Q) (le (le (le (le (le (le (le (le (le (le (le F.size t.size) r.size) q.size) k.size) g.size) h.size) i.size) o.size) p.size) d.size) j.size) v
 have c3:=ay.blk (u1 (ay.mono (S':=[S,E,D,T,a9,b4]) b0 (ac im (ac im (ac im (ac im (ac im aC)))))) a5 im) (aa (Ne.symm (nb (ah.lt H) (le (le p.size d.size) j.size) v)) (aa (Ne.symm (nb (ag B) (le (le (le (le (le (le (le (le (le (le t.size r.size) q.size) k.size) g.size) h.size) i.size) o.size) p.size) d.size) j.size) v)) (aa (Ne.symm (nb (ag O) (le d.size j.size) v)) (aa bj (aa (Ne.symm (nb (ah.lt M) (le (le (le (le (le (le (le k.size g.size) h.size) i.size) o.size) p.size) d.size) j.size) v)) (aa (Ne.symm c2) av)))))) an
 refine CU c3 fun dq a6=>?_
 refine rx (bf a6 c2 cz) (vI 0)<|?_
 subst bS bK bd bb
 rw[hs]
 exact dB b3 ⟨_,_,_,_,_,rfl,aT.nil ..,aT.nil ..,aT.nil ..,(aT.hi_le (aQ.hi (ak (ak (ak (ak (ak z.ho a4 (fun x hx=>(aa (fun e=>(az (ag P) lr z.ho) (e▸hx)) av)) (bL.updl a4 z.hl rfl)) aS (fun x hx=>(aa (fun e=>(az (ah.lt M) (le (le (le (le (le (le (le (le k.size g.size) h.size) i.size) o.size) p.size) d.size) j.size) G.size) z.ho) (e▸hx)) av)) (bL.upd16 aS (am (ah.safe bP _ (by decide)) aP))) aV (fun x hx=>(aa (fun e=>(az (ah.lt M) (le (le (le (le (le (le (le (le k.size g.size) h.size) i.size) o.size) p.size) d.size) j.size) G.size) z.ho) (e▸hx)) av)) (bL.upd16 aV (am (ah.safe bT _ (by decide)) aP))) a5 (fun x hx=>(aa (fun e=>(az (ag Q) (le (le (le (le (le (le (le (le (le (le (le (le F.size t.size) r.size) q.size) k.size) g.size) h.size) i.size) o.size) p.size) d.size) j.size) G.size) z.ho) (e▸hx)) av)) (bL.upd16 a5 (am (b6 c1 (by decide)) aP))) a6 (fun x hx=>(aa (fun e=>(az (ag an) lr z.ho) (e▸hx)) av)) (bL.updl a6 c3 rfl)) lr) (le (le (le (le (le (le (le (le (le (le (le (le (le J.size F.size) t.size) r.size) q.size) k.size) g.size) h.size) i.size) o.size) p.size) d.size) j.size) G.size) (bL.lo (le (le (le (le (le (le (le (le (le (le (le (le (le J.size F.size) t.size) r.size) q.size) k.size) g.size) h.size) i.size) o.size) p.size) d.size) j.size) G.size))),aT.nil ..,(eR (by omega))⟩ (ut bW (us a5 a6) (ac (nr b5) (ac (ni (le (le (le (le (le (le (le (le (le (le (le (le J.size F.size) t.size) r.size) q.size) k.size) g.size) h.size) i.size) o.size) p.size) d.size) j.size) v) aC)))
theorem qE{m:Md}{A:Option Addr}{cp:Nat}{b:List Int}{w:World}{dir:Int}(hd:dir=0∨dir=1)(hsl:aW m w (.slice A b.length cp) b)(hb:b.length≤1048576) :
    Calls Tryz.prog 102 #[vI 1,vB 20,.slice A b.length cp] w (ef (aL bG 1 20 b) w):=by
 have hln:(b.length:Int)≤1048576:=by omega
 have cB:((dir != 0)&&(dir != 1))=false:=by rcases hd with rfl | rfl<;>rfl
 refine CW 77 Tryz.func102 rfl<|sg<|aO mZ fun b4 cC b5 Q I=>al 1<|sq<|aB 6<|c0<|bM<|aA 2<|aG (args:=#[vI 1,vB 20])<|e3 AY fun J cE a7 B E=>Pl 3<|aO #[.nilFunc,.nilFunc] fun cF cG c4 b8 t=>aN b8 #[.func (.func 216) #[] #[],.func (.func 217) #[] #[]] fun cH c5 r=>al 1<|sq<|sq<|go<|al 2<|c0<|bM<|aA 1<|?_
 have Z:=ud t r c4
 have a8:=aK E Z
 have b9:=aK I a8
 refine aG<|e3 (dI (aW.old hsl b9) (by omega)) fun a9 cI K M q=>Pl 1<|aU 1<|aG<|m3 (bJ M) fun cJ c6 k cK=>bD ((aF.mk b false 0).byteV)<|Pl 1<|aU 2<|?_
 have ad:=ud q k K
 have ba:=ub ad c5
 refine aD ba 0<|Pl 1<|L0<|gk #[] #[] (args:=#[vI ((aF.mk b false 0).byteV)])<|m1 (tc (n:=(aF.mk b false 0).byteV) (by omega)) fun cN g=>?_
 refine aG<|m2 (aY ((mi ((aF.mk b false 0).byteV))) 5 (ah.old c6 g)) fun cO c7 h=>?_
 refine ab c7 fun x49 bb bc=>?_
 refine aU 2<|aG<|w6 (cc (n:=(aF.mk b false 0).byteV) bc) fun cP cQ cR c8 cS cT c9 i=>?_
 have cU:=Nat.le_trans (aF.bytesR_le x49 ((aF.mk b false 0).byteV)) (ah.len bc)
 refine ab c9 fun x58 bd ca=>?_
 refine aG<|e3 (dI c8 (by omega)) fun S cV ae G o=>Pl 1<|aU 2<|aO mZ fun D cW N O p=>aN O (mC 20) fun cX cd d=>nt<|sq<|aA 2<|?_
 have a0:=ud p d N
 have be:=aK o a0
 have bg:=uz g (u1 h (aK i be) im)
 refine aD (bf bg (nb (ag b8) r.size K) ba) 1<|aG<|CB (mP (gb:=S) (f:=.func 217) (x:=#[]) (y:=#[])) fun ce cf cY af aj d0 bh bi j=>nt<|bk<|sR (f:=220) #[vP ce 0,vP cf 0] fun a ha=>?_
 intro d1 d2 T cg v H bj an P F
 have bl:=nb (ah.lt G) lr N
 have a1:=nb (ah.lt G) (le (le p.size d.size) j.size) H
 have bm:=nb (ag B) (le (le (le (le (le (le (le t.size r.size) q.size) k.size) g.size) h.size) i.size) o.size) N
 have bo:=nb (ag B) (le (le (le (le (le (le (le (le (le (le t.size r.size) q.size) k.size) g.size) h.size) i.size) o.size) p.size) d.size) j.size) H
 have U:=nb (ag O) (le d.size j.size) H
 have a2:=aK j F
 have bp:=ah.old G (aK a0 a2)
 have bq:=ud ad (aK bg a2) K
 have br:=ub (aK Z bq) B
 have ao:=ub a2 cd
 refine(Ct (c:=20) bp br ao P (ub F bh) (ub F bi) (Ne.symm (nb (ag B) (le (le (le (le (le (le t.size r.size) q.size) k.size) g.size) h.size) i.size) ae)) bl a1 bm bo U (Ne.symm (nb (ah.lt G) a0.size af)) (Ne.symm (nb (ag B) (le (le (le (le (le (le (le (le (le t.size r.size) q.size) k.size) g.size) h.size) i.size) o.size) p.size) d.size) af)) (Ne.symm (nb (ag O) d.size af)) (nb (ag bh) lr H) (Ne.symm (nb (ah.lt G) a0.size aj)) (Ne.symm (nb (ag B) (le (le (le (le (le (le (le (le (le t.size r.size) q.size) k.size) g.size) h.size) i.size) o.size) p.size) d.size) aj)) (Ne.symm (nb (ag O) d.size aj)) (nb (ag bi) lr H) ?_).mono ?_
 intro W C s L Ar cr x Ax cx hJ hrd hx1 hx2 hx3 hL
 simp only[eT] at hx1 hx2 hx3
 have hm2:W.heap[D]? = some (.cells #[vB 20,vB 0,vW 0,vW 0,vW 0,vW 0,vW 0,vW 0,vW 0,vW 0,vW 0,vW 0,nS,nS,nS,.slice Ar L.length cr,vB 0,vB 0,vB 0,vB 0,vB 0,nS] 45 (0,0)):=hJ.hm
 refine nc hJ.hl ?_
 refine EM ha 53<|CQ<|ny<|Bv #[vW 0,vW 0,vW 0,nS] fun d3 d5 bs ch bt=>ny<|rL ch #[vW x.file,vW x.record,vW x.count,.slice Ax x.words.length cx] fun d6 ci bu=>wy<|?_
 have bv:=ud bt bu bs
 refine Eo (ub bv hJ.hl) (by trivial) fun d7 cj ap=>DU<|CQ<|CR<|?_
 have bw:=uz bv ap
 have bx:=bf bw U hm2
 refine ny<|iH bx 15<|?_
 refine ny<|cM (bf ap (Ne.symm (nb (ag P) hJ.u.size bs)) ci)<|ny<|dX (m:=1) (e:=98) #[vW x.file,vW x.record,vW x.count,.slice Ax x.words.length cx] fun d8 d9 da ck ar=>?_
 have V:=aK bw ar
 have cl:=to (R:=bL (.hi cg.heap.size)) (x:=(et.mk x.file x.record x.count x.words)) ck rfl ⟨_,rfl,(fv.updl hrd V hJ.hl rfl),cD (x:=x.file) (by omega),cD (x:=x.record) (by omega),cD (x:=x.count) (by omega)⟩
 have au:=ak hJ.ho V (fun x hx=>(aa (fun e=>(az (ag P) lr hJ.ho) (e▸hx)) av)) (bL.updl V hJ.hl rfl)
 refine ny<|mA (xs:=L) (ys:=([(et.mk x.file x.record x.count x.words)])) (.agg #[vW 0,vW 0,vW 0,nS]) 4 32 au cl (by simp) bL.ones (fun w' hv=>bL.upd16 hv (cZ (dF _ au (by decide)) aP)) (by(try simp only[co,aE]);omega) (le (le (le (le hJ.u.size bt.size) bu.size) ap.size) ar.size) fun bz bA db aw ax=>CR<|?_
 have bE:=ut (ay.mono (S':=(ob Ar++[])) ar aC) ax (ai il aC)
 have aH:=ay.blk bE (aq (az (ag ao) lr hJ.ho) av) bx
 refine ny<|cA aH 15 (mG 20 0 0 0 0 0 0 0 0 0 0 0 nS nS nS (.slice bz ((L++[(et.mk x.file x.record x.count x.words)]).length) bA) 0 0 0 0 0 nS) fun dc cm X=>wy<|bn<|?_
 have aI:=ay.blk (u1 (ay.mono (S':=(ob Ar++(D :: []))) bE (ai il aC)) X im) (aq (az (ag P) lr hJ.ho) (aa (Ne.symm U) av)) cj
 refine EG aI fun dd cn Y=>?_
 have aJ:=ut (ay.mono (S':=(T :: (ob Ar++(D :: [])))) V (ac im aC)) (ut (ay.mono (S':=(ob Ar++(D :: (T :: [])))) ax (ai il aC)) (us X Y) (ac im (ac im aC))) (ai il (ac im (ac im aC)))
 exact⟨by trivial,aJ.size,bz,bA,⟨(ut hJ.u aJ (ac im (ai (aX hJ.ho lr) (ac im aC)))),(ah.updl (ah.upd (ah.upd (ah.updl hJ.hC V (aa a1 av) hJ.hl rfl) ax (aq (az (ah.lt bp) lr hJ.ho) av) (cZ (dF _ au (by decide)) aP)) X (aa bl av) (am (b6 aH (by decide)) aP)) Y (aa a1 av) aI rfl),(ay.blk aJ (aa bo (aq (az (ag br) lr hJ.ho) (aa bm av))) hJ.hS),(bf Y U cm),(ak (ak aw X (fun x hx=>(aa (fun e=>(az (ag ao) lr aw) (e▸hx)) av)) (bL.upd16 X (am (b6 aH (by decide)) aP))) Y (fun x hx=>(aa (fun e=>(az (ag P) lr aw) (e▸hx)) av)) (bL.updl Y aI rfl)),cn⟩⟩
 rintro _ cq ⟨rfl,de,bF,bH,z⟩
 refine⟨_,_,rfl,z.hl,by simp[dY],by trivial,fun df bI=>?_⟩
 refine ab z.hC fun aM bK cs=>?_
 have ct:cq.heap[D]? = some (.cells #[vB 20,vB 0,vW 0,vW 0,vW 0,vW 0,vW 0,vW 0,vW 0,vW 0,vW 0,vW 0,nS,nS,nS,.slice bF ((bB dp (aF.mk (x49.bytesR ((aF.mk b false 0).byteV)) false 0).l.length 0 (aF.mk (x49.bytesR ((aF.mk b false 0).byteV)) false 0) []).2.length) bH,vB 0,vB 0,vB 0,vB 0,vB 0,nS] 45 (0,0)):=z.hm
 refine bn<|tn<|aA 2<|?_
 have a3:=ah.updl cs bI (aa a1 av) z.hl rfl
 refine aG<|mq (cw a3)<|?_
 have dg:=ah.len a3
 refine Pl 2<|aG<|mq (cw a3)<|?_
 have dh:=ah.len a3
 refine aG<|m1 (jH (e:=aM.e)) fun di cu=>?_
 have a4:=aK bI cu
 have bN:=u1 z.u a4 im
 have bO:=ud ad (uz g (u1 h i im)) K
 have bP:=ah.upd ca (ut (ay.mono (S':=[J]) be aC) (ut (ay.mono (S':=[S,J,D]) a2 aC) bN (ac im (ac im (ac im (ac (ni j.size H) aC))))) (ac (nr ae) (ac im (ac (ni o.size N) aC)))) (aa (Ne.symm (nb (ag B) Z.size K)) av) (am (b6 (ub (aK Z bO) B) (by decide)) aP)
 refine aG<|m2 (aY ((aM.e==0)) (ei aM.e) bP) fun dj cv aS=>?_
 refine ab cv fun bR bS bT=>?_
 refine aU 1<|aG<|m2 (eL bT) fun dk bU aV=>nt<|sq<|aA 1<|aG<|mq (cw bU)<|?_
 have dl:=ah.len bU
 refine Pl 1<|dK 2<|?_
 have bV:=u1 aS aV im
 have b0:=u1 (ay.mono (S':=[S,J,D,T,a9]) bN (ac im (ac im (ac im (ac im aC))))) bV im
 have b1:=ut (ay.mono (S':=[J]) bq aC) b0 (ac (ni bO.size ae) (ac im (ac (ni (le (le (le (le (le q.size k.size) g.size) h.size) i.size) o.size) N) (ac (ni (le (le (le (le (le (le (le (le q.size k.size) g.size) h.size) i.size) o.size) p.size) d.size) j.size) H) (ac (nr K) aC)))))
 have bW:=ud b9 b1 (le I.size a7)
 have hs:aL bG 1 20 b=cL (b7.mk 20 0 0 0 0 0 0 0 0 0 0 0 [] [] [] (bB dp (aF.mk ((((aF.mk b false 0).bytesC 1).need (mi ((aF.mk b false 0).byteV)) 5).bytesR ((aF.mk b false 0).byteV)) false 0).l.length 0 (aF.mk ((((aF.mk b false 0).bytesC 1).need (mi ((aF.mk b false 0).byteV)) 5).bytesR ((aF.mk b false 0).byteV)) false 0) []).2 0 0 0 0 0 []) (((((aF.mk b false 0).bytesC 1).need (mi ((aF.mk b false 0).byteV)) 5).bytesC ((aF.mk b false 0).byteV)).need (((bB dp (aF.mk ((((aF.mk b false 0).bytesC 1).need (mi ((aF.mk b false 0).byteV)) 5).bytesR ((aF.mk b false 0).byteV)) false 0).l.length 0 (aF.mk ((((aF.mk b false 0).bytesC 1).need (mi ((aF.mk b false 0).byteV)) 5).bytesR ((aF.mk b false 0).byteV)) false 0) []).1).e==0) (ei ((bB dp (aF.mk ((((aF.mk b false 0).bytesC 1).need (mi ((aF.mk b false 0).byteV)) 5).bytesR ((aF.mk b false 0).byteV)) false 0).l.length 0 (aF.mk ((((aF.mk b false 0).bytesC 1).need (mi ((aF.mk b false 0).byteV)) 5).bytesR ((aF.mk b false 0).byteV)) false 0) []).1).e)):=by
   unfold aL bG eb nU xO ul
   (try simp only[bC,gT,gS,gQ,gR,gP,reduceIte,wH,xI,xj])
   all_goals rfl
 refine cb ((bR.endC.e != 0)) (fun b2=>?_) (fun b2=>?_)
 have b3:=aR b2
 refine aA 2<|?_
 refine aN (ub (ud a8 b1 a7) Q) mZ fun dm cy bX=>al 1<|bQ<|?_
 have bY:=nb (ag Q) (le (le (le (le (le (le (le (le (le (le (le E.size t.size) r.size) q.size) k.size) g.size) h.size) i.size) o.size) p.size) d.size) j.size) v
 refine CU (ay.blk (u1 (ay.mono (S':=[S,J,D,T,a9,b4]) b0 (ac im (ac im (ac im (ac im (ac im aC)))))) bX im) (aa (Ne.symm (nb (ah.lt G) (le (le p.size d.size) j.size) v)) (aa (Ne.symm (nb (ag B) (le (le (le (le (le (le (le (le (le (le t.size r.size) q.size) k.size) g.size) h.size) i.size) o.size) p.size) d.size) j.size) v)) (aa (Ne.symm (nb (ag O) (le d.size j.size) v)) (aa bj (aa (Ne.symm (nb (ah.lt M) (le (le (le (le (le (le (le k.size g.size) h.size) i.size) o.size) p.size) d.size) j.size) v)) (aa (Ne.symm bY) av)))))) an) fun dn bZ=>?_
 refine rx (bf bZ bY cy) (vI bR.endC.e)<|?_
 subst bS bK bd bb
 rw[hs]
 exact d4 b3 (ut bW (us bX bZ) (ac (nr b5) (ac (ni (le (le (le (le (le (le (le (le (le (le (le (le I.size E.size) t.size) r.size) q.size) k.size) g.size) h.size) i.size) o.size) p.size) d.size) j.size) v) aC)))
 have b3:=aZ b2
 refine bM<|sg<|?_
 refine L0<|cM (ay.blk (us a4 bV) (aa U (aa (Ne.symm (nb (ah.lt M) (le (le (le (le k.size g.size) h.size) i.size) o.size) N)) av)) ct)<|?_
 have c1:=ub (ud a8 b1 a7) Q
 refine aN c1 (mG 20 0 0 0 0 0 0 0 0 0 0 0 nS nS nS (.slice bF ((bB dp (aF.mk (x49.bytesR ((aF.mk b false 0).byteV)) false 0).l.length 0 (aF.mk (x49.bytesR ((aF.mk b false 0).byteV)) false 0) []).2.length) bH) 0 0 0 0 0 nS) fun dq cz a5=>al 1<|rt<|?_
 have c2:=nb (ag Q) (le (le (le (le (le (le (le (le (le (le (le E.size t.size) r.size) q.size) k.size) g.size) h.size) i.size) o.size) p.size) d.size) j.size) v
 have c3:=ay.blk (u1 (ay.mono (S':=[S,J,D,T,a9,b4]) b0 (ac im (ac im (ac im (ac im (ac im aC)))))) a5 im) (aa (Ne.symm (nb (ah.lt G) (le (le p.size d.size) j.size) v)) (aa (Ne.symm (nb (ag B) (le (le (le (le (le (le (le (le (le (le t.size r.size) q.size) k.size) g.size) h.size) i.size) o.size) p.size) d.size) j.size) v)) (aa (Ne.symm (nb (ag O) (le d.size j.size) v)) (aa bj (aa (Ne.symm (nb (ah.lt M) (le (le (le (le (le (le (le k.size g.size) h.size) i.size) o.size) p.size) d.size) j.size) v)) (aa (Ne.symm c2) av)))))) an
 refine CU c3 fun dr a6=>?_
 refine rx (bf a6 c2 cz) (vI 0)<|?_
 subst bS bK bd bb
 rw[hs]
 exact dB b3 ⟨_,_,_,_,_,rfl,aT.nil ..,aT.nil ..,aT.nil ..,(aT.hi_le (aQ.hi (ak (ak (ak (ak (ak z.ho a4 (fun x hx=>(aa (fun e=>(az (ag P) lr z.ho) (e▸hx)) av)) (bL.updl a4 z.hl rfl)) aS (fun x hx=>(aa (fun e=>(az (ah.lt M) (le (le (le (le (le (le (le (le k.size g.size) h.size) i.size) o.size) p.size) d.size) j.size) F.size) z.ho) (e▸hx)) av)) (bL.upd16 aS (am (ah.safe bP _ (by decide)) aP))) aV (fun x hx=>(aa (fun e=>(az (ah.lt M) (le (le (le (le (le (le (le (le k.size g.size) h.size) i.size) o.size) p.size) d.size) j.size) F.size) z.ho) (e▸hx)) av)) (bL.upd16 aV (am (ah.safe bT _ (by decide)) aP))) a5 (fun x hx=>(aa (fun e=>(az (ag Q) (le (le (le (le (le (le (le (le (le (le (le (le E.size t.size) r.size) q.size) k.size) g.size) h.size) i.size) o.size) p.size) d.size) j.size) F.size) z.ho) (e▸hx)) av)) (bL.upd16 a5 (am (b6 c1 (by decide)) aP))) a6 (fun x hx=>(aa (fun e=>(az (ag an) lr z.ho) (e▸hx)) av)) (bL.updl a6 c3 rfl)) lr) (le (le (le (le (le (le (le (le (le (le (le (le (le I.size E.size) t.size) r.size) q.size) k.size) g.size) h.size) i.size) o.size) p.size) d.size) j.size) F.size) (bL.lo (le (le (le (le (le (le (le (le (le (le (le (le (le I.size E.size) t.size) r.size) q.size) k.size) g.size) h.size) i.size) o.size) p.size) d.size) j.size) F.size))),aT.nil ..,(eR (by omega))⟩ (ut bW (us a5 a6) (ac (nr b5) (ac (ni (le (le (le (le (le (le (le (le (le (le (le (le I.size E.size) t.size) r.size) q.size) k.size) g.size) h.size) i.size) o.size) p.size) d.size) j.size) v) aC)))
theorem od{m:Md}{A:Option Addr}{cp:Nat}{b:List Int}{w:World}{dir:Int}(hd:dir=0∨dir=1)(hsl:aW m w (.slice A b.length cp) b)(hb:b.length≤1048576) :
    Calls Tryz.prog 102 #[vI dir,vB 21,.slice A b.length cp] w (ef (aL bG dir 21 b) w):=by
 have hln:(b.length:Int)≤1048576:=by omega
 have b5:((dir != 0)&&(dir != 1))=false:=by rcases hd with rfl | rfl<;>rfl
 refine CW 77 Tryz.func102 rfl<|sg<|aO mZ fun b8 cI b9 S I=>al 1<|sq<|aA 3<|ij 3 [18] 21 18 (dir != 0) (dir != 1) (fun K c6 c7=>?_) ?_
 have cJ:=aR c7
 exact Pl 3<|ce c6 _ rfl
 refine nt<|cf b5<|bM<|aA 2<|aG (args:=#[vI dir,vB 21])<|e3 Af fun J cK a8 B E=>Pl 3<|aO #[.nilFunc,.nilFunc] fun cN cO c8 ba t=>aN ba #[.func (.func 218) #[] #[],.func (.func 219) #[] #[]] fun cP c9 r=>Pl 1<|nl<|tn<|sq<|aB 2<|c0<|bM<|aA 1<|?_
 have a0:=ud t r c8
 have a9:=aK E a0
 have bb:=aK I a9
 refine aG<|e3 (dI (aW.old hsl bb) (by omega)) fun ad cQ M N q=>Pl 1<|aU 1<|aG<|m3 (bJ N) fun cR ca k cS=>bD ((aF.mk b false 0).byteV)<|Pl 1<|aU 2<|?_
 have ae:=ud q k M
 have bc:=ub ae c9
 refine aD bc 0<|Pl 1<|L0<|gk #[] #[] (args:=#[vI ((aF.mk b false 0).byteV)])<|m1 (se (n:=(aF.mk b false 0).byteV) (by omega)) fun cT g=>?_
 refine aG<|m2 (aY ((oQ ((aF.mk b false 0).byteV))) 5 (ah.old ca g)) fun cU cd h=>?_
 refine ab cd fun x51 bd be=>?_
 refine aU 2<|aG<|w6 (cc (n:=(aF.mk b false 0).byteV) be) fun cV cW cX cg cY d0 ch i=>?_
 have d1:=Nat.le_trans (aF.bytesR_le x51 ((aF.mk b false 0).byteV)) (ah.len be)
 refine ab ch fun x60 bg ci=>?_
 refine aG<|e3 (dI cg (by omega)) fun T d2 af G o=>Pl 1<|aU 2<|aO mZ fun D d3 O P p=>aN P (mC 21) fun d5 cj d=>nt<|sq<|aA 2<|?_
 have a1:=ud p d O
 have bh:=aK o a1
 have bi:=uz g (u1 h (aK i bh) im)
 refine aD (bf bi (nb (ag ba) r.size M) bc) 1<|aG<|CB (mP (gb:=T) (f:=.func 219) (x:=#[]) (y:=#[])) fun ck cl d6 aj an d7 bj bl j=>nt<|bk<|sR (f:=220) #[vP ck 0,vP cl 0] fun a ha=>?_
 intro d8 d9 U cm v H bm ao Q F
 have bo:=nb (ah.lt G) lr O
 have a2:=nb (ah.lt G) (le (le p.size d.size) j.size) H
 have bp:=nb (ag B) (le (le (le (le (le (le (le t.size r.size) q.size) k.size) g.size) h.size) i.size) o.size) O
 have bq:=nb (ag B) (le (le (le (le (le (le (le (le (le (le t.size r.size) q.size) k.size) g.size) h.size) i.size) o.size) p.size) d.size) j.size) H
 have V:=nb (ag P) (le d.size j.size) H
 have a3:=aK j F
 have br:=ah.old G (aK a1 a3)
 have bs:=ud ae (aK bi a3) M
 have bt:=ub (aK a0 bs) B
 have ap:=ub a3 cj
 refine(C5 (c:=21) br bt ap Q (ub F bj) (ub F bl) (Ne.symm (nb (ag B) (le (le (le (le (le (le t.size r.size) q.size) k.size) g.size) h.size) i.size) af)) bo a2 bp bq V (Ne.symm (nb (ah.lt G) a1.size aj)) (Ne.symm (nb (ag B) (le (le (le (le (le (le (le (le (le t.size r.size) q.size) k.size) g.size) h.size) i.size) o.size) p.size) d.size) aj)) (Ne.symm (nb (ag P) d.size aj)) (nb (ag bj) lr H) (Ne.symm (nb (ah.lt G) a1.size an)) (Ne.symm (nb (ag B) (le (le (le (le (le (le (le (le (le t.size r.size) q.size) k.size) g.size) h.size) i.size) o.size) p.size) d.size) an)) (Ne.symm (nb (ag P) d.size an)) (nb (ag bl) lr H) ?_).mono ?_
 intro W C s L Ar cr x Ax cx hJ hrd hx1 hx2 hx3 hL
 simp only[eT] at hx1 hx2 hx3
 have hm2:W.heap[D]? = some (.cells #[vB 21,vB 0,vW 0,vW 0,vW 0,vW 0,vW 0,vW 0,vW 0,vW 0,vW 0,vW 0,nS,nS,nS,.slice Ar L.length cr,vB 0,vB 0,vB 0,vB 0,vB 0,nS] 45 (0,0)):=hJ.hm
 refine nc hJ.hl ?_
 refine EM ha 53<|CQ<|ny<|Bv #[vW 0,vW 0,vW 0,nS] fun da db bu cn bv=>ny<|rL cn #[vW x.file,vW x.record,vW x.count,.slice Ax x.words.length cx] fun dc cq bw=>wy<|?_
 have bx:=ud bv bw bu
 refine Eo (ub bx hJ.hl) (by trivial) fun dd cs ar=>DU<|CQ<|CR<|?_
 have bz:=uz bx ar
 have bA:=bf bz V hm2
 refine ny<|iH bA 15<|?_
 refine ny<|cM (bf ar (Ne.symm (nb (ag Q) hJ.u.size bu)) cq)<|ny<|dX (m:=1) (e:=98) #[vW x.file,vW x.record,vW x.count,.slice Ax x.words.length cx] fun de df dg ct au=>?_
 have X:=aK bz au
 have cu:=to (R:=bL (.hi cm.heap.size)) (x:=(et.mk x.file x.record x.count x.words)) ct rfl ⟨_,rfl,(fv.updl hrd X hJ.hl rfl),cD (x:=x.file) (by omega),cD (x:=x.record) (by omega),cD (x:=x.count) (by omega)⟩
 have aw:=ak hJ.ho X (fun x hx=>(aa (fun e=>(az (ag Q) lr hJ.ho) (e▸hx)) av)) (bL.updl X hJ.hl rfl)
 refine ny<|mA (xs:=L) (ys:=([(et.mk x.file x.record x.count x.words)])) (.agg #[vW 0,vW 0,vW 0,nS]) 4 32 aw cu (by simp) bL.ones (fun w' hv=>bL.upd16 hv (cZ (dF _ aw (by decide)) aP)) (by(try simp only[co,aE]);omega) (le (le (le (le hJ.u.size bv.size) bw.size) ar.size) au.size) fun bE bF dh ax aH=>CR<|?_
 have bH:=ut (ay.mono (S':=(ob Ar++[])) au aC) aH (ai il aC)
 have aI:=ay.blk bH (aq (az (ag ap) lr hJ.ho) av) bA
 refine ny<|cA aI 15 (mG 21 0 0 0 0 0 0 0 0 0 0 0 nS nS nS (.slice bE ((L++[(et.mk x.file x.record x.count x.words)]).length) bF) 0 0 0 0 0 nS) fun di cv Y=>wy<|bn<|?_
 have aJ:=ay.blk (u1 (ay.mono (S':=(ob Ar++(D :: []))) bH (ai il aC)) Y im) (aq (az (ag Q) lr hJ.ho) (aa (Ne.symm V) av)) cs
 refine EG aJ fun dj cy Z=>?_
 have aM:=ut (ay.mono (S':=(U :: (ob Ar++(D :: [])))) X (ac im aC)) (ut (ay.mono (S':=(ob Ar++(D :: (U :: [])))) aH (ai il aC)) (us Y Z) (ac im (ac im aC))) (ai il (ac im (ac im aC)))
 exact⟨by trivial,aM.size,bE,bF,⟨(ut hJ.u aM (ac im (ai (aX hJ.ho lr) (ac im aC)))),(ah.updl (ah.upd (ah.upd (ah.updl hJ.hC X (aa a2 av) hJ.hl rfl) aH (aq (az (ah.lt br) lr hJ.ho) av) (cZ (dF _ aw (by decide)) aP)) Y (aa bo av) (am (b6 aI (by decide)) aP)) Z (aa a2 av) aJ rfl),(ay.blk aM (aa bq (aq (az (ag bt) lr hJ.ho) (aa bp av))) hJ.hS),(bf Z V cv),(ak (ak ax Y (fun x hx=>(aa (fun e=>(az (ag ap) lr ax) (e▸hx)) av)) (bL.upd16 Y (am (b6 aI (by decide)) aP))) Z (fun x hx=>(aa (fun e=>(az (ag Q) lr ax) (e▸hx)) av)) (bL.updl Z aJ rfl)),cy⟩⟩
 rintro _ cz ⟨rfl,dk,bI,bK,z⟩
 refine⟨_,_,rfl,z.hl,by simp[dY],by trivial,fun dl bN=>?_⟩
 refine ab z.hC fun aS bO cB=>?_
 have cC:cz.heap[D]? = some (.cells #[vB 21,vB 0,vW 0,vW 0,vW 0,vW 0,vW 0,vW 0,vW 0,vW 0,vW 0,vW 0,nS,nS,nS,.slice bI ((bB fy (aF.mk (x51.bytesR ((aF.mk b false 0).byteV)) false 0).l.length 0 (aF.mk (x51.bytesR ((aF.mk b false 0).byteV)) false 0) []).2.length) bK,vB 0,vB 0,vB 0,vB 0,vB 0,nS] 45 (0,0)):=z.hm
 refine bn<|tn<|aA 2<|?_
 have a4:=ah.updl cB bN (aa a2 av) z.hl rfl
 refine aG<|mq (cw a4)<|?_
 have dm:=ah.len a4
 refine Pl 2<|aG<|mq (cw a4)<|?_
 have dn:=ah.len a4
 refine aG<|m1 (jH (e:=aS.e)) fun dp cE=>?_
 have a5:=aK bN cE
 have bP:=u1 z.u a5 im
 have bR:=ud ae (uz g (u1 h i im)) M
 have bS:=ah.upd ci (ut (ay.mono (S':=[J]) bh aC) (ut (ay.mono (S':=[T,J,D]) a3 aC) bP (ac im (ac im (ac im (ac (ni j.size H) aC))))) (ac (nr af) (ac im (ac (ni o.size O) aC)))) (aa (Ne.symm (nb (ag B) a0.size M)) av) (am (b6 (ub (aK a0 bR) B) (by decide)) aP)
 refine aG<|m2 (aY ((aS.e==0)) (ei aS.e) bS) fun dq cF aV=>?_
 refine ab cF fun bT bU bV=>?_
 refine aU 1<|aG<|m2 (eL bV) fun dr bW b0=>nt<|sq<|aA 1<|aG<|mq (cw bW)<|?_
 have ds:=ah.len bW
 refine Pl 1<|dK 2<|?_
 have bX:=u1 aV b0 im
 have b1:=u1 (ay.mono (S':=[T,J,D,U,ad]) bP (ac im (ac im (ac im (ac im aC))))) bX im
 have b2:=ut (ay.mono (S':=[J]) bs aC) b1 (ac (ni bR.size af) (ac im (ac (ni (le (le (le (le (le q.size k.size) g.size) h.size) i.size) o.size) O) (ac (ni (le (le (le (le (le (le (le (le q.size k.size) g.size) h.size) i.size) o.size) p.size) d.size) j.size) H) (ac (nr M) aC)))))
 have bY:=ud bb b2 (le I.size a8)
 have hs:aL bG dir 21 b=cL (b7.mk 21 0 0 0 0 0 0 0 0 0 0 0 [] [] [] (bB fy (aF.mk ((((aF.mk b false 0).bytesC 1).need (oQ ((aF.mk b false 0).byteV)) 5).bytesR ((aF.mk b false 0).byteV)) false 0).l.length 0 (aF.mk ((((aF.mk b false 0).bytesC 1).need (oQ ((aF.mk b false 0).byteV)) 5).bytesR ((aF.mk b false 0).byteV)) false 0) []).2 0 0 0 0 0 []) (((((aF.mk b false 0).bytesC 1).need (oQ ((aF.mk b false 0).byteV)) 5).bytesC ((aF.mk b false 0).byteV)).need (((bB fy (aF.mk ((((aF.mk b false 0).bytesC 1).need (oQ ((aF.mk b false 0).byteV)) 5).bytesR ((aF.mk b false 0).byteV)) false 0).l.length 0 (aF.mk ((((aF.mk b false 0).bytesC 1).need (oQ ((aF.mk b false 0).byteV)) 5).bytesR ((aF.mk b false 0).byteV)) false 0) []).1).e==0) (ei ((bB fy (aF.mk ((((aF.mk b false 0).bytesC 1).need (oQ ((aF.mk b false 0).byteV)) 5).bytesR ((aF.mk b false 0).byteV)) false 0).l.length 0 (aF.mk ((((aF.mk b false 0).bytesC 1).need (oQ ((aF.mk b false 0).byteV)) 5).bytesR ((aF.mk b false 0).byteV)) false 0) []).1).e)):=by
   unfold aL bG eb nU xO ul
   (try simp only[b5,bC,gT,gS,gQ,gR,gP,reduceIte,wH,xI,xj,if_pos hd])
   all_goals rfl
 refine cb ((bT.endC.e != 0)) (fun b3=>?_) (fun b3=>?_)
 have b4:=aR b3
 refine aA 2<|?_
 refine aN (ub (ud a9 b2 a8) S) mZ fun dt cG bZ=>al 1<|bQ<|?_
 have c1:=nb (ag S) (le (le (le (le (le (le (le (le (le (le (le E.size t.size) r.size) q.size) k.size) g.size) h.size) i.size) o.size) p.size) d.size) j.size) v
 refine CU (ay.blk (u1 (ay.mono (S':=[T,J,D,U,ad,b8]) b1 (ac im (ac im (ac im (ac im (ac im aC)))))) bZ im) (aa (Ne.symm (nb (ah.lt G) (le (le p.size d.size) j.size) v)) (aa (Ne.symm (nb (ag B) (le (le (le (le (le (le (le (le (le (le t.size r.size) q.size) k.size) g.size) h.size) i.size) o.size) p.size) d.size) j.size) v)) (aa (Ne.symm (nb (ag P) (le d.size j.size) v)) (aa bm (aa (Ne.symm (nb (ah.lt N) (le (le (le (le (le (le (le k.size g.size) h.size) i.size) o.size) p.size) d.size) j.size) v)) (aa (Ne.symm c1) av)))))) ao) fun du c2=>?_
 refine rx (bf c2 c1 cG) (vI bT.endC.e)<|?_
 subst bU bO bg bd
 rw[hs]
 exact d4 b4 (ut bY (us bZ c2) (ac (nr b9) (ac (ni (le (le (le (le (le (le (le (le (le (le (le (le I.size E.size) t.size) r.size) q.size) k.size) g.size) h.size) i.size) o.size) p.size) d.size) j.size) v) aC)))
 have b4:=aZ b3
 refine bM<|sg<|?_
 refine L0<|cM (ay.blk (us a5 bX) (aa V (aa (Ne.symm (nb (ah.lt N) (le (le (le (le k.size g.size) h.size) i.size) o.size) O)) av)) cC)<|?_
 have c3:=ub (ud a9 b2 a8) S
 refine aN c3 (mG 21 0 0 0 0 0 0 0 0 0 0 0 nS nS nS (.slice bI ((bB fy (aF.mk (x51.bytesR ((aF.mk b false 0).byteV)) false 0).l.length 0 (aF.mk (x51.bytesR ((aF.mk b false 0).byteV)) false 0) []).2.length) bK) 0 0 0 0 0 nS) fun dv cH a6=>al 1<|rt<|?_
 have c4:=nb (ag S) (le (le (le (le (le (le (le (le (le (le (le E.size t.size) r.size) q.size) k.size) g.size) h.size) i.size) o.size) p.size) d.size) j.size) v
 have c5:=ay.blk (u1 (ay.mono (S':=[T,J,D,U,ad,b8]) b1 (ac im (ac im (ac im (ac im (ac im aC)))))) a6 im) (aa (Ne.symm (nb (ah.lt G) (le (le p.size d.size) j.size) v)) (aa (Ne.symm (nb (ag B) (le (le (le (le (le (le (le (le (le (le t.size r.size) q.size) k.size) g.size) h.size) i.size) o.size) p.size) d.size) j.size) v)) (aa (Ne.symm (nb (ag P) (le d.size j.size) v)) (aa bm (aa (Ne.symm (nb (ah.lt N) (le (le (le (le (le (le (le k.size g.size) h.size) i.size) o.size) p.size) d.size) j.size) v)) (aa (Ne.symm c4) av)))))) ao
 refine CU c5 fun dw a7=>?_
 refine rx (bf a7 c4 cH) (vI 0)<|?_
 subst bU bO bg bd
 rw[hs]
 exact dB b4 ⟨_,_,_,_,_,rfl,aT.nil ..,aT.nil ..,aT.nil ..,(aT.hi_le (aQ.hi (ak (ak (ak (ak (ak z.ho a5 (fun x hx=>(aa (fun e=>(az (ag Q) lr z.ho) (e▸hx)) av)) (bL.updl a5 z.hl rfl)) aV (fun x hx=>(aa (fun e=>(az (ah.lt N) (le (le (le (le (le (le (le (le k.size g.size) h.size) i.size) o.size) p.size) d.size) j.size) F.size) z.ho) (e▸hx)) av)) (bL.upd16 aV (am (ah.safe bS _ (by decide)) aP))) b0 (fun x hx=>(aa (fun e=>(az (ah.lt N) (le (le (le (le (le (le (le (le k.size g.size) h.size) i.size) o.size) p.size) d.size) j.size) F.size) z.ho) (e▸hx)) av)) (bL.upd16 b0 (am (ah.safe bV _ (by decide)) aP))) a6 (fun x hx=>(aa (fun e=>(az (ag S) (le (le (le (le (le (le (le (le (le (le (le (le E.size t.size) r.size) q.size) k.size) g.size) h.size) i.size) o.size) p.size) d.size) j.size) F.size) z.ho) (e▸hx)) av)) (bL.upd16 a6 (am (b6 c3 (by decide)) aP))) a7 (fun x hx=>(aa (fun e=>(az (ag ao) lr z.ho) (e▸hx)) av)) (bL.updl a7 c5 rfl)) lr) (le (le (le (le (le (le (le (le (le (le (le (le (le I.size E.size) t.size) r.size) q.size) k.size) g.size) h.size) i.size) o.size) p.size) d.size) j.size) F.size) (bL.lo (le (le (le (le (le (le (le (le (le (le (le (le (le I.size E.size) t.size) r.size) q.size) k.size) g.size) h.size) i.size) o.size) p.size) d.size) j.size) F.size))),aT.nil ..,(eR (by omega))⟩ (ut bY (us a6 a7) (ac (nr b9) (ac (ni (le (le (le (le (le (le (le (le (le (le (le (le I.size E.size) t.size) r.size) q.size) k.size) g.size) h.size) i.size) o.size) p.size) d.size) j.size) v) aC)))
theorem vL{A:Option Addr}{cp:Nat}{b:List Int}{w:World}{c:Int}(n1:(c==20)=false)(n2:(c==21)=false) : Calls Tryz.prog 102 #[vI 0,vB c,.slice A b.length cp] w (ef (aL bG 0 c b) w):=by
 refine CW 77 Tryz.func102 rfl<|sg<|aO mZ fun n o d e f=>al 1<|sq<|aB 6<|c0<|bM<|aA 2<|aG (args:=#[vI 0,vB c])<|m1 (qJ (dir:=0) (x:=c) n1 n2) fun p g=>Pl 3<|aO #[.nilFunc,.nilFunc] fun q r h i j=>aN i #[.nilFunc,.nilFunc] fun s t k=>al 1<|sq<|sq<|go<|al 2<|c1<|aA 1<|?_
 have a:=aK g (ud j k h)
 refine aN (ub a e) mZ fun u l m=>al 1<|bQ<|ry l (vI 4)<|?_
 exact dQ (by unfold aL bG;(try simp only[bC,gT,gS,gQ,gR,gP,reduceIte,n1,n2])<;>rfl) (cl (ud f (uz a m) d))
theorem vG{A:Option Addr}{cp:Nat}{b:List Int}{w:World}{c:Int}(n1:(c==20)=false)(n2:(c==21)=false) : Calls Tryz.prog 102 #[vI 1,vB c,.slice A b.length cp] w (ef (aL bG 1 c b) w):=by
 refine CW 77 Tryz.func102 rfl<|sg<|aO mZ fun n o d e f=>al 1<|sq<|aB 6<|c0<|bM<|aA 2<|aG (args:=#[vI 1,vB c])<|m1 (qJ (dir:=1) (x:=c) n1 n2) fun p g=>Pl 3<|aO #[.nilFunc,.nilFunc] fun q r h i j=>aN i #[.nilFunc,.nilFunc] fun s t k=>al 1<|sq<|sq<|go<|al 2<|c1<|aA 1<|?_
 have a:=aK g (ud j k h)
 refine aN (ub a e) mZ fun u l m=>al 1<|bQ<|ry l (vI 4)<|?_
 exact dQ (by unfold aL bG;(try simp only[bC,gT,gS,gQ,gR,gP,reduceIte,n1,n2])<;>rfl) (cl (ud f (uz a m) d))
theorem vQ{A:Option Addr}{cp:Nat}{b:List Int}{w:World}{dir c:Int}(hd:¬ (dir=0∨dir=1)) : Calls Tryz.prog 102 #[vI dir,vB c,.slice A b.length cp] w (ef (aL bG dir c b) w):=by
 have e0:(dir != 0)=true:=by simp;omega
 have e1:(dir != 1)=true:=by simp;omega
 refine CW 77 Tryz.func102 rfl<|sg<|aO mZ fun g h a d e=>al 1<|sq<|aA 3<|sy 18 e0<|Pl 3<|nl<|tn<|ct e1<|aA 1<|aN d mZ fun i eT f=>al 1<|bQ<|ry eT (vI 1)<|?_
 exact dQ (by unfold aL bG;(try simp only[e0,e1,bC,gT,gS,gQ,gR,gP,reduceIte,hd])<;>rfl) (cl (ud e f a))
theorem lm{m:Md}{v:Value}{b:List Int}{w:World}{dir c:Int}(hc:B8 c)(h:aW m w v b)(hb:b.length≤1048576) :
    Calls Tryz.prog 102 #[.int .i64 dir,.int .u8 c,v] w (ef (aL bG dir c b) w):=by
  obtain⟨A,cp,rfl,_,_⟩:=h.shape
  by_cases h0:dir=0
  · subst h0
    by_cases a:c=20
    · subst a;exact pX (Or.inl (rfl:(0:Int)=0)) h hb
    by_cases d:c=21
    · subst d;exact od (Or.inl rfl) h hb
    exact vL (by simpa using a) (by simpa using d)
  by_cases h1:dir=1
  · subst h1
    by_cases a:c=20
    · subst a;exact qE (Or.inl (rfl:(0:Int)=0)) h hb
    by_cases d:c=21
    · subst d;exact od (Or.inr rfl) h hb
    exact vG (by simpa using a) (by simpa using d)
  exact vQ (by omega)
open Go.RowKit
def gh (res:Option (List Int))(w:World)(e:Ending)(w':World) : Prop :=
  match res with
  | some l=>∃ v,e = .returned (.tuple #[v,.int .i64 0])∧cG w.heap.size w' v l∧ay [] w w'
  | none=>e = .returned (.tuple #[.slice none 0 0,.int .i64 1])∧ay [] w w'
def cj (parse:Int→Int→List Int→b7 × Int)(lay:Int→b7→List Int)(dir:Int)(M:b7) : Option (List Int) :=
  if parse dir M.code (lay dir M)=(M,0) then some (lay dir M) else none
def gj:=aL bt
def i8:=aL ci
def i3:=aL bE
def iT:=aL cn
def fG:=aL bG
open Go.RowKit
def nu (M:b7) : Option (List Int):=if !(gw M.code M.fail) then none else if !(decide (M=iB M.code M.fail)) then none else some [(M.code+128)%256,M.fail]
theorem og{m:Md}{cs:Array Value}{M:b7}{w:World}(h:aH m w cs.toList M) : Calls Tryz.prog 72 #[.agg cs] w (gh (nu M) w):=by
 have hM:=h
 refine jl h fun Aw kw Ab kb Ad kd Ar kr Ao ko e hw hbt hd hr ho _ _ _ _ _ _ _ _ _ _ q0 q1 q2 q3 q4 q5 q6 q7 q8 q9 X Y Z a0 a1 a2 a3=>?_
 subst e
 refine en 26 Tryz.func72 rfl<|sg<|L0<|cX (mG M.code M.fail M.addr M.count M.value M.and_ M.or_ M.addr2 M.sub M.status M.events M.messages (.slice Aw M.words.length kw) (.slice Ab M.bits.length kb) (.slice Ad M.data.length kd) (.slice Ar M.recs.length kr) M.mei M.kind M.level M.more M.next (.slice Ao M.objects.length ko)) fun s a4 a5 k J=>Pl 2<|aU 1<|aD k 0<|Pl 1<|aD k 1<|Pl 1<|aO #[vB 0,vB 0] fun l a6 K L N=>?_
 refine aN L #[vB M.code,vB M.fail] fun a7 O P=>nt<|sq<|sq<|Rg 10 (fun w'=>w'.heap[l]? = some (.cells #[vB M.code,vB M.fail] 145 (0,0))∧w'.heap[s]? = some (.cells (mG M.code M.fail M.addr M.count M.value M.and_ M.or_ M.addr2 M.sub M.status M.events M.messages (.slice Aw M.words.length kw) (.slice Ab M.bits.length kb) (.slice Ad M.data.length kd) (.slice Ar M.recs.length kr) M.mei M.kind M.level M.more M.next (.slice Ao M.objects.length ko)) 45 (0,0))) fun a8 t=>?_
 have u:=ub t O
 have v:=ud N (aK P t) K
 have z:=ub v k
 refine bi ⟨u,z⟩ fun Q=>Rr 0 Q (.agg #[vB M.code,vB M.fail]) (fun w' hs=>ie (g:=l) (off:=0) [vB M.code,vB M.fail] rfl (by kernel_rfl) hs.1 (by kernel_rfl) (by kernel_rfl) rfl)<|R0 1 rfl<|Oc<|m1 (uB (a:=M.code) (b:=M.fail) (w:=_)) fun a9 n=>?_
 have C:=ub n u
 have D:=ub n z
 refine bi ⟨C,D⟩ fun c=>Rt 2 c<|Rt 3 c<|?_
 have E:=aK J (aK v n)
 refine zv 13 ((!(gw M.code M.fail))) (fun d=>?_) (fun d=>?_)
 have j:(gw M.code M.fail)=false:=by simpa using d
 exact Ro 4 c<|Ro 5 c<|Ro 6 c<|Ro 7 c<|Ro 8 c<|Rt 9 c<|re<|tn<|c1<|aB 2<|bQ<|rr (.tuple #[nS,vI 1])<|dQ (y:=none) (by unfold nu;(try simp only[d,j,bC,reduceIte])<;>rfl) ⟨rfl,E⟩
 have j:(gw M.code M.fail)=true:=by simpa using d
 refine Rr 4 c (.agg (mG M.code M.fail M.addr M.count M.value M.and_ M.or_ M.addr2 M.sub M.status M.events M.messages (.slice Aw M.words.length kw) (.slice Ab M.bits.length kb) (.slice Ad M.data.length kd) (.slice Ar M.recs.length kr) M.mei M.kind M.level M.more M.next (.slice Ao M.objects.length ko))) (fun w' hs=>ie (g:=s) (off:=0) [vB M.code,vB M.fail,vW M.addr,vW M.count,vW M.value,vW M.and_,vW M.or_,vW M.addr2,vW M.sub,vW M.status,vW M.events,vW M.messages,.slice Aw M.words.length kw,.slice Ab M.bits.length kb,.slice Ad M.data.length kd,.slice Ar M.recs.length kr,vB M.mei,vB M.kind,vB M.level,vB M.more,vB M.next,.slice Ao M.objects.length ko] rfl (by kernel_rfl) hs.2 (by kernel_rfl) (by kernel_rfl) rfl)<|Rr 5 c (.agg #[vB M.code,vB M.fail]) (fun w' hs=>ie (g:=l) (off:=0) [vB M.code,vB M.fail] rfl (by kernel_rfl) hs.1 (by kernel_rfl) (by kernel_rfl) rfl)<|R0 6 rfl<|Oc<|m1 (nq (a:=M.code) (b:=M.fail) (w:=_)) fun aa o=>?_
 have F:=ub o C
 have G:=ub o D
 refine bi ⟨F,G⟩ fun ab=>?_
 have H:=aK E o
 refine R0 7 rfl<|Oc<|m1 (gY (A:=M) (B:=iB M.code M.fail) (aH.old hM H) (show aH true _ _ _ from⟨_,_,_,_,_,rfl,aT.nil ..,aT.nil ..,aT.nil ..,aT.nil ..,aT.nil ..,⟨(b8 (x:=M.code) (by omega)),(b8 (x:=M.fail) (by omega)),(cD (x:=0) (by omega)),(cD (x:=0) (by omega)),(cD (x:=0) (by omega)),(cD (x:=0) (by omega)),(cD (x:=0) (by omega)),(cD (x:=0) (by omega)),(cD (x:=0) (by omega)),(cD (x:=0) (by omega)),(cD (x:=0) (by omega)),(cD (x:=0) (by omega)),(b8 (x:=0) (by omega)),(b8 (x:=0) (by omega)),(b8 (x:=0) (by omega)),(b8 (x:=0) (by omega)),(b8 (x:=0) (by omega))⟩⟩)) fun ac p=>?_
 have q:=ub p G
 refine bi ⟨(ub p F),q⟩ fun I=>Rt 8 I<|Rt 9 I<|re<|tn<|?_
 have r:=aK H p
 refine cb ((!(decide (M=iB M.code M.fail)))) (fun f=>?_) (fun f=>?_)
 have i:(decide (M=iB M.code M.fail))=false:=by simpa using f
 have R:=of_decide_eq_false i
 exact aB 2<|bQ<|rr (.tuple #[nS,vI 1])<|dQ (y:=none) (by unfold nu;(try simp only[d,j,f,i,bC,reduceIte])<;>rfl) ⟨rfl,r⟩
 have i:(decide (M=iB M.code M.fail))=true:=by simpa using f
 have R:=of_decide_eq_true i
 refine bM<|aA 1<|aD q 0<|Pl 2<|aD q 1<|L0<|dX (m:=2) (e:=5) #[vB ((M.code+128)%256),vB M.fail] fun S ad T U V=>?_
 have W:=dZ T (xs:=[((M.code+128)%256),M.fail]) (by as_aux_lemma=>kernel_rfl) (ax (by omega) (ax (by omega) b9)) (by(try simp only[List.length_cons,List.length_nil]);omega) U
 refine al 2<|rt<|rr (.tuple #[.slice (some ⟨S,0,none⟩) 2 2,vI 0])<|?_
 exact dQ (y:=(some [((M.code+128)%256),M.fail])) (by unfold nu;(try simp only[d,j,f,i,bC,reduceIte])<;>rfl) ⟨_,rfl,(aQ.weaken W r.size),(aK r V)⟩
open Go.RowKit
def bY (dir:Int)(M:b7) : List Int :=
  if (!(dir==0))&&(M.code==3 || M.code==4 || M.code==23) then [(2*(M.words.length:Int))%256]++aV M.words
  else if M.code==6 then aV [M.addr,M.value]
  else if M.code==22 then aV [M.addr,M.and_,M.or_]
  else if M.code==16&&dir==0 then ((aV [M.addr,M.count]++[(2*(M.words.length:Int))%256])++aV M.words)
  else if M.code==23 then ((aV [M.addr,M.count,M.addr2,(M.words.length:Int)%65536]++[(2*(M.words.length:Int))%256])++aV M.words)
  else if M.code==24&&dir==0 then aV [M.addr]
  else if M.code==24 then aV [(2+2*(M.words.length:Int))%65536,(M.words.length:Int)%65536]++aV M.words
  else aV [M.addr,M.count]
theorem xH{m:Md}{cs:Array Value}{M:b7}{w:World}{dir:Int}(h:aH m w cs.toList M)(hf:bg M) : Calls Tryz.prog 149 #[vI dir,.agg cs] w (yQ (bY dir M) w):=by
 refine jl h fun Aw kw Ab kb Ad kd Ar kr Ao ko e hw hbt hd hr ho _ _ _ _ _ _ _ _ _ _ q0 q1 q2 q3 q4 q5 q6 q7 q8 q9 bI bJ bK bL bM bN bO=>?_
 subst e
 have hf1:=hf.words
 have hf2:=hf.bits
 have hf3:=hf.data
 have hf4:=hf.recs
 have hf5:=hf.objects
 refine en 124 Tryz.func149 rfl<|sg<|L0<|cX (mG M.code M.fail M.addr M.count M.value M.and_ M.or_ M.addr2 M.sub M.status M.events M.messages (.slice Aw M.words.length kw) (.slice Ab M.bits.length kb) (.slice Ad M.data.length kd) (.slice Ar M.recs.length kr) M.mei M.kind M.level M.more M.next (.slice Ao M.objects.length ko)) fun bP bQ bR A d=>Pl 1<|aU 1<|aD A 12<|al 2<|aA 1<|bD (2*(M.words.length:Int))<|Pl 1<|L0<|dX (m:=1) (e:=5) #[vB ((2*(M.words.length:Int))%256)] fun bS bT a4 a5 f=>?_
 have q:=dZ a4 (xs:=[((2*(M.words.length:Int))%256)]) (by as_aux_lemma=>kernel_rfl) (ax (by omega) b9) (by(try simp only[List.length_cons,List.length_nil]);omega) a5
 refine Pl 1<|?_
 have B:=ub f A
 refine aD B 12<|?_
 have C:=aK d f
 refine aG<|fC (ck (xs:=M.words) (fv.old hw C) (by(try simp only[List.length_cons,List.length_nil]);omega)) fun bU bV bX r bZ c0 b=>Pl 2<|dK 3<|sq<|aA 1<|?_
 have a:=ub b B
 refine aD a 0<|al 1<|bk<|aA 3<|cu 11 [27] 38 (((!(dir==0))&&(((M.code==3)||(M.code==4))||(M.code==23)))) (fun K D=>?_) ?_
 refine bl 27 ((!(dir==0))) (fun o=>?_) (fun o=>?_)
 have u:(dir==0)=false:=by simpa using o
 have a6:=aS u
 refine Pl 3<|s8 3 [30] 33 30 (M.code==3) (M.code==4) (fun K a7 a8=>?_) ?_
 have c1:=aS a8
 exact Pl 3<|ce a7 _ rfl
 refine Pl 1<|s8 3 [34] 37 34 ((M.code==3)||(M.code==4)) (M.code==23) (fun K a9 E=>?_) ?_
 have aa:=(fh E).1
 have ab:=(fh E).2
 have c2:=aS aa
 have c3:=aS ab
 exact Pl 3<|ce a9 _ rfl
 exact Pl 1<|ce D (((M.code==3)||(M.code==4))||(M.code==23)) (by rw[o];rfl)
 have u:(dir==0)=true:=by simpa using o
 have a6:=aI u
 exact Pl 11<|ce D false (by rw[o];rfl)
 refine al 1<|?_
 have j:=aK C b
 refine cb (((!(dir==0))&&(((M.code==3)||(M.code==4))||(M.code==23)))) (fun c=>?_) (fun c=>?_)
 have F:=(bW c).1
 have ac:=(bW c).2
 have G:(dir==0)=false:=by simpa using F
 have q41anp:=aS G
 refine aA 2<|?_
 refine L0<|dj bp (xs:=([((2*(M.words.length:Int))%256)])) (ys:=(aV M.words)) (vB 0) 1 (ak q b (fun x hx=>av) (fun _ _ h=>h)) (r).rd (by(try simp only[co,aE]);omega) (le f.size b.size) fun ad ae c4 af ag=>al 1<|rt<|br<|tr<|rr (.slice ad (([((2*(M.words.length:Int))%256)]++(aV M.words)).length) ae)<|?_
 have hs:bY dir M=([((2*(M.words.length:Int))%256)]++(aV M.words)):=by
   unfold bY
   (try simp only[c,F,G,ac,bC,reduceIte])
   all_goals first | rfl | (simp_all;done)
 rw[hs]
 exact⟨_,rfl,(aQ.weaken af d.size),(ut j ag (ai (aX q d.size) aC))⟩
 refine aB 3<|cb ((M.code==6)) (fun g=>?_) (fun g=>?_)
 have ah:=aI g
 refine aA 1<|aD a 2<|Pl 1<|aD a 4<|L0<|dX (m:=2) (e:=37) #[vW M.addr,vW M.value] fun c5 c6 aj am H=>?_
 have an:=iw aj (xs:=[M.addr,M.value]) (by as_aux_lemma=>kernel_rfl) (ax (by omega) (ax (by omega) b9)) (by(try simp only[List.length_cons,List.length_nil]);omega) am
 refine aG<|fC (ck (xs:=[M.addr,M.value]) (an).rd (by(try simp only[List.length_cons,List.length_nil]);omega)) fun ao ap c7 aq c8 c9 ar=>al 1<|rt<|br<|tr<|rr (.slice ao ((aV ([M.addr,M.value])).length) ap)<|?_
 have hs:bY dir M=(aV ([M.addr,M.value])):=by
   unfold bY
   (try simp only[c,g,bC,reduceIte])
   all_goals first | rfl | (simp_all;done)
 rw[hs]
 exact⟨_,rfl,(aQ.weaken aq (le (le (le d.size f.size) b.size) H.size)),(aK j (aK H ar))⟩
 have ah:=aS g
 refine aB 3<|cb ((M.code==22)) (fun i=>?_) (fun i=>?_)
 have au:=aI i
 refine aA 1<|aD a 2<|Pl 1<|aD a 5<|Pl 1<|aD a 6<|L0<|dX (m:=3) (e:=37) #[vW M.addr,vW M.and_,vW M.or_] fun ca cc aw ay I=>?_
 have az:=iw aw (xs:=[M.addr,M.and_,M.or_]) (by as_aux_lemma=>kernel_rfl) (ax (by omega) (ax (by omega) (ax (by omega) b9))) (by(try simp only[List.length_cons,List.length_nil]);omega) ay
 refine aG<|fC (ck (xs:=[M.addr,M.and_,M.or_]) (az).rd (by(try simp only[List.length_cons,List.length_nil]);omega)) fun aF aJ cd aL cf cg aM=>al 1<|rt<|br<|tr<|rr (.slice aF ((aV ([M.addr,M.and_,M.or_])).length) aJ)<|?_
 have hs:bY dir M=(aV ([M.addr,M.and_,M.or_])):=by
   unfold bY
   (try simp only[c,g,i,bC,reduceIte])
   all_goals first | rfl | (simp_all;done)
 rw[hs]
 exact⟨_,rfl,(aQ.weaken aL (le (le (le d.size f.size) b.size) I.size)),(aK j (aK I aM))⟩
 have au:=aS i
 refine aA 3<|ij 2 [65] 67 65 (M.code==16) (dir==0) (fun K aN aO=>?_) ?_
 have ch:=aI aO
 exact Pl 2<|ce aN _ rfl
 refine al 1<|cb (((M.code==16)&&(dir==0))) (fun k=>?_) (fun k=>?_)
 have J:=(bW k).1
 have L:=(bW k).2
 have ci:=aI J
 have cj:=aI L
 refine aA 1<|aD a 2<|Pl 1<|aD a 3<|L0<|dX (m:=2) (e:=37) #[vW M.addr,vW M.count] fun cl cm aP aR s=>?_
 have aT:=iw aP (xs:=[M.addr,M.count]) (by as_aux_lemma=>kernel_rfl) (ax (by omega) (ax (by omega) b9)) (by(try simp only[List.length_cons,List.length_nil]);omega) aR
 refine aG<|fC (ck (xs:=[M.addr,M.count]) (aT).rd (by(try simp only[List.length_cons,List.length_nil]);omega)) fun cn cp cq N cr ct v=>Pl 1<|?_
 have O:=aK s v
 refine L0<|dj bp (xs:=(aV ([M.addr,M.count]))) (ys:=([((2*(M.words.length:Int))%256)])) (vB 0) 1 N ((ak q (aK b O) (fun x hx=>av) (fun _ _ h=>h))).rd (by(try simp only[co,aE]);omega) v.size fun cv cw cx P Q=>Pl 1<|?_
 have R:=ut O Q (ai (aX N s.size) aC)
 refine L0<|dj bp (xs:=((aV ([M.addr,M.count]))++[((2*(M.words.length:Int))%256)])) (ys:=(aV M.words)) (vB 0) 1 P ((ak r R (fun x hx=>av) (fun _ _ h=>h))).rd (by(try simp only[co,aE]);omega) (le v.size Q.size) fun aW aY cy aZ b0=>al 1<|rt<|br<|tr<|rr (.slice aW ((((aV ([M.addr,M.count]))++[((2*(M.words.length:Int))%256)])++(aV M.words)).length) aY)<|?_
 have hs:bY dir M=(((aV ([M.addr,M.count]))++[((2*(M.words.length:Int))%256)])++(aV M.words)):=by
   unfold bY
   (try simp only[c,g,i,k,J,L,bC,reduceIte])
   all_goals first | rfl | (simp_all;done)
 rw[hs]
 exact⟨_,rfl,(aQ.weaken aZ (le (le (le d.size f.size) b.size) s.size)),(aK j (ut R b0 (ai (aX P s.size) aC)))⟩
 refine aB 3<|cb ((M.code==23)) (fun l=>?_) (fun l=>?_)
 have b1:=aI l
 refine aA 1<|aD a 2<|Pl 1<|aD a 3<|Pl 1<|aD a 7<|Pl 2<|L0<|dX (m:=4) (e:=37) #[vW M.addr,vW M.count,vW M.addr2,vW ((M.words.length:Int)%65536)] fun cz cA b2 b3 t=>?_
 have b4:=iw b2 (xs:=[M.addr,M.count,M.addr2,((M.words.length:Int)%65536)]) (by as_aux_lemma=>kernel_rfl) (ax (by omega) (ax (by omega) (ax (by omega) (ax (by omega) b9)))) (by(try simp only[List.length_cons,List.length_nil]);omega) b3
 refine aG<|fC (ck (xs:=[M.addr,M.count,M.addr2,((M.words.length:Int)%65536)]) (b4).rd (by(try simp only[List.length_cons,List.length_nil]);omega)) fun cB cC cD S cE cF y=>Pl 1<|?_
 have T:=aK t y
 refine L0<|dj bp (xs:=(aV ([M.addr,M.count,M.addr2,((M.words.length:Int)%65536)]))) (ys:=([((2*(M.words.length:Int))%256)])) (vB 0) 1 S ((ak q (aK b T) (fun x hx=>av) (fun _ _ h=>h))).rd (by(try simp only[co,aE]);omega) y.size fun cG cH cI U V=>Pl 1<|?_
 have W:=ut T V (ai (aX S t.size) aC)
 refine L0<|dj bp (xs:=((aV ([M.addr,M.count,M.addr2,((M.words.length:Int)%65536)]))++[((2*(M.words.length:Int))%256)])) (ys:=(aV M.words)) (vB 0) 1 U ((ak r W (fun x hx=>av) (fun _ _ h=>h))).rd (by(try simp only[co,aE]);omega) (le y.size V.size) fun b5 b6 cJ b8 ba=>al 1<|rt<|br<|tr<|rr (.slice b5 ((((aV ([M.addr,M.count,M.addr2,((M.words.length:Int)%65536)]))++[((2*(M.words.length:Int))%256)])++(aV M.words)).length) b6)<|?_
 have hs:bY dir M=(((aV ([M.addr,M.count,M.addr2,((M.words.length:Int)%65536)]))++[((2*(M.words.length:Int))%256)])++(aV M.words)):=by
   unfold bY
   (try simp only[c,g,i,k,l,bC,reduceIte])
   all_goals first | rfl | (simp_all;done)
 rw[hs]
 exact⟨_,rfl,(aQ.weaken b8 (le (le (le d.size f.size) b.size) t.size)),(aK j (ut W ba (ai (aX U t.size) aC)))⟩
 have b1:=aS l
 refine aA 3<|ij 2 [98] 100 98 (M.code==24) (dir==0) (fun K bb bc=>?_) ?_
 have cK:=aI bc
 exact Pl 2<|ce bb _ rfl
 refine al 1<|cb (((M.code==24)&&(dir==0))) (fun n=>?_) (fun n=>?_)
 have X:=(bW n).1
 have Y:=(bW n).2
 have cL:=aI X
 have cM:=aI Y
 refine aA 1<|aD a 2<|L0<|dX (m:=1) (e:=37) #[vW M.addr] fun cN cO bd be Z=>?_
 have bf:=iw bd (xs:=[M.addr]) (by as_aux_lemma=>kernel_rfl) (ax (by omega) b9) (by(try simp only[List.length_cons,List.length_nil]);omega) be
 refine aG<|fC (ck (xs:=[M.addr]) (bf).rd (by(try simp only[List.length_cons,List.length_nil]);omega)) fun bh bi cP bj cQ cR bm=>al 1<|rt<|br<|tr<|rr (.slice bh ((aV ([M.addr])).length) bi)<|?_
 have hs:bY dir M=(aV ([M.addr])):=by
   unfold bY
   (try simp only[c,g,i,k,l,n,X,Y,bC,reduceIte])
   all_goals first | rfl | (simp_all;done)
 rw[hs]
 exact⟨_,rfl,(aQ.weaken bj (le (le (le d.size f.size) b.size) Z.size)),(aK j (aK Z bm))⟩
 refine aB 3<|cb ((M.code==24)) (fun p=>?_) (fun p=>?_)
 have bo:=aI p
 refine aA 1<|bD (2*(M.words.length:Int))<|bD (2+(2*(M.words.length:Int)))<|Pl 3<|L0<|dX (m:=2) (e:=37) #[vW ((2+(2*(M.words.length:Int)))%65536),vW ((M.words.length:Int)%65536)] fun cS cT bq bs z=>?_
 have bt:=iw bq (xs:=[((2+(2*(M.words.length:Int)))%65536),((M.words.length:Int)%65536)]) (by as_aux_lemma=>kernel_rfl) (ax (by omega) (ax (by omega) b9)) (by(try simp only[List.length_cons,List.length_nil]);omega) bs
 refine aG<|fC (ck (xs:=[((2+(2*(M.words.length:Int)))%65536),((M.words.length:Int)%65536)]) (bt).rd (by(try simp only[List.length_cons,List.length_nil]);omega)) fun cU cV cW a0 cY cZ a1=>Pl 1<|?_
 have a2:=aK z a1
 refine L0<|dj bp (xs:=(aV ([((2+(2*(M.words.length:Int)))%65536),((M.words.length:Int)%65536)]))) (ys:=(aV M.words)) (vB 0) 1 a0 ((ak r a2 (fun x hx=>av) (fun _ _ h=>h))).rd (by(try simp only[co,aE]);omega) a1.size fun bu bv d0 bw bx=>al 1<|rt<|br<|tr<|rr (.slice bu (((aV ([((2+(2*(M.words.length:Int)))%65536),((M.words.length:Int)%65536)]))++(aV M.words)).length) bv)<|?_
 have hs:bY dir M=((aV ([((2+(2*(M.words.length:Int)))%65536),((M.words.length:Int)%65536)]))++(aV M.words)):=by
   unfold bY
   (try simp only[c,g,i,k,l,n,p,bC,reduceIte])
   all_goals first | rfl | (simp_all;done)
 rw[hs]
 exact⟨_,rfl,(aQ.weaken bw (le (le (le d.size f.size) b.size) z.size)),(aK j (ut a2 bx (ai (aX a0 z.size) aC)))⟩
 have bo:=aS p
 refine sk<|bn<|tn<|aA 1<|aD a 2<|Pl 1<|aD a 3<|L0<|dX (m:=2) (e:=37) #[vW M.addr,vW M.count] fun d1 d2 bz bA a3=>?_
 have bB:=iw bz (xs:=[M.addr,M.count]) (by as_aux_lemma=>kernel_rfl) (ax (by omega) (ax (by omega) b9)) (by(try simp only[List.length_cons,List.length_nil]);omega) bA
 refine aG<|fC (ck (xs:=[M.addr,M.count]) (bB).rd (by(try simp only[List.length_cons,List.length_nil]);omega)) fun bE bF d3 bG d4 d5 bH=>al 1<|rt<|rr (.slice bE ((aV ([M.addr,M.count])).length) bF)<|?_
 have hs:bY dir M=(aV ([M.addr,M.count])):=by
   unfold bY
   (try simp only[c,g,i,k,l,n,p,bC,reduceIte])
   all_goals first | rfl | (simp_all;done)
 rw[hs]
 exact⟨_,rfl,(aQ.weaken bG (le (le (le d.size f.size) b.size) a3.size)),(aK j (aK a3 bH))⟩
open Go.RowKit
def bP (dir:Int)(M:b7) : List Int :=
  if M.code==8 then aV [M.sub]++aV M.words
  else if dir==0 then []
  else if M.code==7 then [M.value%256]
  else if M.code==11 then aV [M.status,M.events]
  else if M.code==12 then (([(6+(M.data.length:Int))%256]++aV [M.status,M.events,M.messages])++M.data)
  else [(M.data.length:Int)%256]++M.data
theorem yO{m:Md}{cs:Array Value}{M:b7}{w:World}{dir:Int}(h:aH m w cs.toList M)(hf:bg M) : Calls Tryz.prog 152 #[vI dir,.agg cs] w (yQ (bP dir M) w):=by
 refine jl h fun Aw kw Ab kb Ad kd Ar kr Ao ko e hw hbt hd hr ho _ _ _ _ _ _ _ _ _ _ q0 q1 q2 q3 q4 q5 q6 q7 q8 q9 bU bV bW bX bY bZ c0=>?_
 subst e
 have hf1:=hf.words
 have hf2:=hf.bits
 have hf3:=hf.data
 have hf4:=hf.recs
 have hf5:=hf.objects
 refine en 70 Tryz.func152 rfl<|sg<|L0<|cX (mG M.code M.fail M.addr M.count M.value M.and_ M.or_ M.addr2 M.sub M.status M.events M.messages (.slice Aw M.words.length kw) (.slice Ab M.bits.length kb) (.slice Ad M.data.length kd) (.slice Ar M.recs.length kr) M.mei M.kind M.level M.more M.next (.slice Ao M.objects.length ko)) fun n c1 c2 b a=>al 1<|sq<|bk<|aA 1<|aD b 0<|Pl 2<|nl<|tn<|cb ((M.code==8)) (fun d=>?_) (fun d=>?_)
 have an:=aI d
 refine sq<|Rg 9 (fun w'=>w'.cell? ⟨n,8,none⟩=some (vW M.sub)∧w'.cell? ⟨n,12,none⟩=some (.slice Aw M.words.length kw)) fun c3 q=>?_
 have K:=ub q b
 refine bi ⟨(ae K rfl),(ae K rfl)⟩ fun F=>Rt 0 F<|Rl 1 F (fun _ hs=>hs.1)<|Rt 4 F<|Rl 5 F (fun _ hs=>hs.2)<|R0 2 rfl<|dX (m:=1) (e:=37) #[vW M.sub] fun c4 c5 ao ap r=>?_
 have ar:=iw ao (xs:=[M.sub]) (by as_aux_lemma=>kernel_rfl) (ax (by omega) b9) (by(try simp only[List.length_cons,List.length_nil]);omega) ap
 have L:=ub r K
 refine bi ⟨(ae L rfl),(ae L rfl)⟩ fun c6=>R0 3 rfl<|Oc<|fC (ck (xs:=[M.sub]) (ar).rd (by(try simp only[List.length_cons,List.length_nil]);omega)) fun au c7 c8 N c9 ca O=>?_
 have P:=ub O L
 refine bi ⟨(ae P rfl),(ae P rfl)⟩ fun cc=>?_
 have Y:=aK a (aK q (aK r O))
 refine R0 6 rfl<|Oc<|fC (ck (xs:=M.words) (fv.old hw Y) (by(try simp only[List.length_cons,List.length_nil]);omega)) fun cd ce cf aw cg ch G=>?_
 have Q:=ub G P
 refine bi ⟨(ae Q rfl),(ae Q rfl)⟩ fun ci=>?_
 refine R0 7 rfl<|dj bp (xs:=(aV ([M.sub]))) (ys:=(aV M.words)) (vB 0) 1 (ak N G (fun x hx=>av) (fun _ _ h=>h)) (aw).rd (by(try simp only[co,aE]);omega) (le O.size G.size) fun aF aJ cj aL Z=>?_
 have a0:=ay.blk Z (aq (az (ag b) (le q.size r.size) N) av) Q
 refine bi ⟨(ae a0 rfl),(ae a0 rfl)⟩ fun aM=>Rt 8 aM<|re<|tn<|rt<|br<|tr<|rr (.slice aF (((aV ([M.sub]))++(aV M.words)).length) aJ)<|?_
 have hs:bP dir M=((aV ([M.sub]))++(aV M.words)):=by
   unfold bP
   (try simp only[d,bC,reduceIte])
   all_goals first | rfl | (simp_all;done)
 rw[hs]
 exact⟨_,rfl,(aQ.weaken aL (le (le a.size q.size) r.size)),(ut Y (ut (ay.mono (S':=(ob au++[])) G aC) Z (ai il aC)) (ai (aX N (le (le a.size q.size) r.size)) aC))⟩
 have an:=aS d
 refine aB 3<|cb ((dir==0)) (fun g=>?_) (fun g=>?_)
 have aN:=aI g
 refine aB 1<|rt<|br<|tr<|rr nS<|?_
 have hs:bP dir M=[]:=by
   unfold bP
   (try simp only[d,g,bC,reduceIte])
   all_goals first | rfl | (simp_all;done)
 rw[hs]
 exact⟨_,rfl,(aQ.nil ..),a⟩
 have aN:=aS g
 refine aA 1<|aD b 0<|al 2<|cb ((M.code==7)) (fun i=>?_) (fun i=>?_)
 have aO:=aI i
 refine aA 1<|aD b 4<|Pl 1<|L0<|dX (m:=1) (e:=5) #[vB (M.value%256)] fun aP cl aR aT aU=>?_
 have aY:=dZ aR (xs:=[(M.value%256)]) (by as_aux_lemma=>kernel_rfl) (ax (by omega) b9) (by(try simp only[List.length_cons,List.length_nil]);omega) aT
 refine al 1<|rt<|br<|tr<|rr (.slice (some ⟨aP,0,none⟩) 1 1)<|?_
 have hs:bP dir M=[(M.value%256)]:=by
   unfold bP
   (try simp only[d,g,i,bC,reduceIte])
   all_goals first | rfl | (simp_all;done)
 rw[hs]
 exact⟨_,rfl,(aQ.weaken aY a.size),(aK a aU)⟩
 have aO:=aS i
 refine aA 1<|aD b 0<|al 2<|cb ((M.code==11)) (fun k=>?_) (fun k=>?_)
 have aZ:=aI k
 refine aA 1<|aD b 9<|Pl 1<|aD b 10<|L0<|dX (m:=2) (e:=37) #[vW M.status,vW M.events] fun cm cn b0 b1 a1=>?_
 have b2:=iw b0 (xs:=[M.status,M.events]) (by as_aux_lemma=>kernel_rfl) (ax (by omega) (ax (by omega) b9)) (by(try simp only[List.length_cons,List.length_nil]);omega) b1
 refine aG<|fC (ck (xs:=[M.status,M.events]) (b2).rd (by(try simp only[List.length_cons,List.length_nil]);omega)) fun b3 b4 cp b5 cq cr b6=>al 1<|rt<|br<|tr<|rr (.slice b3 ((aV ([M.status,M.events])).length) b4)<|?_
 have hs:bP dir M=(aV ([M.status,M.events])):=by
   unfold bP
   (try simp only[d,g,i,k,bC,reduceIte])
   all_goals first | rfl | (simp_all;done)
 rw[hs]
 exact⟨_,rfl,(aQ.weaken b5 (le a.size a1.size)),(aK a (aK a1 b6))⟩
 have aZ:=aS k
 refine aA 1<|aD b 0<|al 2<|cb ((M.code==12)) (fun l=>?_) (fun l=>?_)
 have b8:=aI l
 refine sq<|Rg 16 (fun w'=>w'.cell? ⟨n,14,none⟩=some (.slice Ad M.data.length kd)∧w'.cell? ⟨n,9,none⟩=some (vW M.status)∧w'.cell? ⟨n,10,none⟩=some (vW M.events)∧w'.cell? ⟨n,11,none⟩=some (vW M.messages)) fun ct c=>?_
 have o:=ub c b
 refine bi ⟨(ae o rfl),(ae o rfl),(ae o rfl),(ae o rfl)⟩ fun f=>Rt 0 f<|Rl 1 f (fun _ hs=>hs.1)<|Rt 2 f<|Rr 3 f (vI (6+(M.data.length:Int))) (fun _ _=>cR (vI (IntKind.i64.wrap (6+(M.data.length:Int)))) (by kernel_rfl) (congrArg (Value.int .i64) (IntWalk.i64_in _ (by omega))))<|Rt 4 f<|Rt 6 f<|Rl 7 f (fun _ hs=>hs.2.1)<|Rt 8 f<|Rl 9 f (fun _ hs=>hs.2.2.1)<|Rt 10 f<|Rl 11 f (fun _ hs=>hs.2.2.2)<|R2 5 12 rfl rfl ?_ ?_
 refine  dX (m:=1) (e:=5) #[vB ((6+(M.data.length:Int))%256)] fun ba cu bb bc R=>?_
 have S:=dZ bb (xs:=[((6+(M.data.length:Int))%256)]) (by as_aux_lemma=>kernel_rfl) (ax (by omega) b9) (by(try simp only[List.length_cons,List.length_nil]);omega) bc
 have s:=ub R o
 refine bi ⟨(ae s rfl),(ae s rfl),(ae s rfl),(ae s rfl)⟩ fun cv=>R0 12 rfl<|dX (m:=3) (e:=37) #[vW M.status,vW M.events,vW M.messages] fun cw cx bd be T=>?_
 have bf:=iw bd (xs:=[M.status,M.events,M.messages]) (by as_aux_lemma=>kernel_rfl) (ax (by omega) (ax (by omega) (ax (by omega) b9))) (by(try simp only[List.length_cons,List.length_nil]);omega) be
 have t:=ub T s
 refine bi ⟨(ae t rfl),(ae t rfl),(ae t rfl),(ae t rfl)⟩ fun cy=>R0 13 rfl<|Oc<|fC (ck (xs:=[M.status,M.events,M.messages]) (bf).rd (by(try simp only[List.length_cons,List.length_nil]);omega)) fun cz cA cB bh cC cD U=>?_
 have u:=ub U t
 refine bi ⟨(ae u rfl),(ae u rfl),(ae u rfl),(ae u rfl)⟩ fun cE=>?_
 have a2:=aK T U
 refine R0 14 rfl<|dj bp (xs:=([((6+(M.data.length:Int))%256)])) (ys:=(aV ([M.status,M.events,M.messages]))) (vB 0) 1 (ak S a2 (fun x hx=>av) (fun _ _ h=>h)) (bh).rd (by(try simp only[co,aE]);omega) (le (le R.size T.size) U.size) fun cF cG cH a3 a4=>?_
 have v:=ay.blk a4 (aq (az (ag b) c.size S) av) u
 refine bi ⟨(ae v rfl),(ae v rfl),(ae v rfl),(ae v rfl)⟩ fun bj=>Rt 15 bj<|re<|tn<|aA 2<|aD v 14<|?_
 have a5:=ut R (ut (ay.mono (S':=(ob (some ⟨ba,0,none⟩)++[])) a2 aC) a4 (ai il aC)) (ai (aX S lr) aC)
 have a6:=aK a (aK c a5)
 refine L0<|dj bp (xs:=([((6+(M.data.length:Int))%256)]++(aV ([M.status,M.events,M.messages])))) (ys:=M.data) (vB 0) 1 a3 (aW.old hd a6) (by(try simp only[co,aE]);omega) a5.size fun bl bm cI bo bq=>al 1<|rt<|br<|tr<|rr (.slice bl ((([((6+(M.data.length:Int))%256)]++(aV ([M.status,M.events,M.messages])))++M.data).length) bm)<|?_
 have hs:bP dir M=(([((6+(M.data.length:Int))%256)]++(aV ([M.status,M.events,M.messages])))++M.data):=by
   unfold bP
   (try simp only[d,g,i,k,l,bC,reduceIte])
   all_goals first | rfl | (simp_all;done)
 rw[hs]
 exact⟨_,rfl,(aQ.weaken bo (le a.size c.size)),(ut a6 bq (ai (aX a3 (le a.size c.size)) aC))⟩
 refine  dX (m:=3) (e:=37) #[vW M.status,vW M.events,vW M.messages] fun cJ cK bs bt j=>?_
 have a7:=iw bs (xs:=[M.status,M.events,M.messages]) (by as_aux_lemma=>kernel_rfl) (ax (by omega) (ax (by omega) (ax (by omega) b9))) (by(try simp only[List.length_cons,List.length_nil]);omega) bt
 have p:=ub j o
 refine bi ⟨(ae p rfl),(ae p rfl),(ae p rfl),(ae p rfl)⟩ fun cL=>?_
 refine R2 5 13 rfl rfl ?_ ?_
 refine  dX (m:=1) (e:=5) #[vB ((6+(M.data.length:Int))%256)] fun bu cM bv bw H=>?_
 have V:=dZ bv (xs:=[((6+(M.data.length:Int))%256)]) (by as_aux_lemma=>kernel_rfl) (ax (by omega) b9) (by(try simp only[List.length_cons,List.length_nil]);omega) bw
 have y:=ub H p
 refine bi ⟨(ae y rfl),(ae y rfl),(ae y rfl),(ae y rfl)⟩ fun cN=>?_
 refine R0 13 rfl<|Oc<|fC (ck (xs:=[M.status,M.events,M.messages]) ((ak a7 H (fun x hx=>av) (fun _ _ h=>h))).rd (by(try simp only[List.length_cons,List.length_nil]);omega)) fun cO cP cQ bx cS cT I=>?_
 have z:=ub I y
 refine bi ⟨(ae z rfl),(ae z rfl),(ae z rfl),(ae z rfl)⟩ fun cU=>?_
 refine R0 14 rfl<|dj bp (xs:=([((6+(M.data.length:Int))%256)])) (ys:=(aV ([M.status,M.events,M.messages]))) (vB 0) 1 (ak V I (fun x hx=>av) (fun _ _ h=>h)) (bx).rd (by(try simp only[co,aE]);omega) (le H.size I.size) fun cV cW cY a8 a9=>?_
 have A:=ay.blk a9 (aq (az (ag b) (le c.size j.size) V) av) z
 refine bi ⟨(ae A rfl),(ae A rfl),(ae A rfl),(ae A rfl)⟩ fun bz=>Rt 15 bz<|re<|tn<|aA 2<|aD A 14<|?_
 have aa:=ut H (ut (ay.mono (S':=(ob (some ⟨bu,0,none⟩)++[])) I aC) a9 (ai il aC)) (ai (aX V lr) aC)
 have ab:=aK a (aK c (aK j aa))
 refine L0<|dj bp (xs:=([((6+(M.data.length:Int))%256)]++(aV ([M.status,M.events,M.messages])))) (ys:=M.data) (vB 0) 1 a8 (aW.old hd ab) (by(try simp only[co,aE]);omega) aa.size fun bA bB cZ bD bE=>al 1<|rt<|br<|tr<|rr (.slice bA ((([((6+(M.data.length:Int))%256)]++(aV ([M.status,M.events,M.messages])))++M.data).length) bB)<|?_
 have hs:bP dir M=(([((6+(M.data.length:Int))%256)]++(aV ([M.status,M.events,M.messages])))++M.data):=by
   unfold bP
   (try simp only[d,g,i,k,l,bC,reduceIte])
   all_goals first | rfl | (simp_all;done)
 rw[hs]
 exact⟨_,rfl,(aQ.weaken bD (le (le a.size c.size) j.size)),(ut ab bE (ai (aX a8 (le (le a.size c.size) j.size)) aC))⟩
 refine  Oc<|fC (ck (xs:=[M.status,M.events,M.messages]) (a7).rd (by(try simp only[List.length_cons,List.length_nil]);omega)) fun d0 d1 d2 bF d3 d4 B=>?_
 have C:=ub B p
 refine bi ⟨(ae C rfl),(ae C rfl),(ae C rfl),(ae C rfl)⟩ fun d5=>R0 5 rfl<|dX (m:=1) (e:=5) #[vB ((6+(M.data.length:Int))%256)] fun d6 d7 bG bH J=>?_
 have W:=dZ bG (xs:=[((6+(M.data.length:Int))%256)]) (by as_aux_lemma=>kernel_rfl) (ax (by omega) b9) (by(try simp only[List.length_cons,List.length_nil]);omega) bH
 have D:=ub J C
 refine bi ⟨(ae D rfl),(ae D rfl),(ae D rfl),(ae D rfl)⟩ fun d8=>?_
 refine R0 14 rfl<|dj bp (xs:=([((6+(M.data.length:Int))%256)])) (ys:=(aV ([M.status,M.events,M.messages]))) (vB 0) 1 W ((ak bF J (fun x hx=>av) (fun _ _ h=>h))).rd (by(try simp only[co,aE]);omega) J.size fun d9 da db ac ad=>?_
 have E:=ay.blk ad (aq (az (ag b) (le (le c.size j.size) B.size) W) av) D
 refine bi ⟨(ae E rfl),(ae E rfl),(ae E rfl),(ae E rfl)⟩ fun bI=>Rt 15 bI<|re<|tn<|aA 2<|aD E 14<|?_
 have af:=ut J ad (ai (aX W lr) aC)
 have ah:=aK a (aK c (aK j (aK B af)))
 refine L0<|dj bp (xs:=([((6+(M.data.length:Int))%256)]++(aV ([M.status,M.events,M.messages])))) (ys:=M.data) (vB 0) 1 ac (aW.old hd ah) (by(try simp only[co,aE]);omega) af.size fun bJ bK dc bL bM=>al 1<|rt<|br<|tr<|rr (.slice bJ ((([((6+(M.data.length:Int))%256)]++(aV ([M.status,M.events,M.messages])))++M.data).length) bK)<|?_
 have hs:bP dir M=(([((6+(M.data.length:Int))%256)]++(aV ([M.status,M.events,M.messages])))++M.data):=by
   unfold bP
   (try simp only[d,g,i,k,l,bC,reduceIte])
   all_goals first | rfl | (simp_all;done)
 rw[hs]
 exact⟨_,rfl,(aQ.weaken bL (le (le (le a.size c.size) j.size) B.size)),(ut ah bM (ai (aX ac (le (le (le a.size c.size) j.size) B.size)) aC))⟩
 have b8:=aS l
 refine sk<|bn<|tn<|aA 1<|aD b 14<|Pl 2<|L0<|dX (m:=1) (e:=5) #[vB ((M.data.length:Int)%256)] fun dd de bN bO X=>?_
 have aj:=dZ bN (xs:=[((M.data.length:Int)%256)]) (by as_aux_lemma=>kernel_rfl) (ax (by omega) b9) (by(try simp only[List.length_cons,List.length_nil]);omega) bO
 refine Pl 1<|?_
 refine aD (ub X b) 14<|?_
 have am:=aK a X
 refine L0<|dj bp (xs:=([((M.data.length:Int)%256)])) (ys:=M.data) (vB 0) 1 aj (aW.old hd am) (by(try simp only[co,aE]);omega) X.size fun bQ bR df bS bT=>al 1<|rt<|rr (.slice bQ (([((M.data.length:Int)%256)]++M.data).length) bR)<|?_
 have hs:bP dir M=([((M.data.length:Int)%256)]++M.data):=by
   unfold bP
   (try simp only[d,g,i,k,l,bC,reduceIte])
   all_goals first | rfl | (simp_all;done)
 rw[hs]
 exact⟨_,rfl,(aQ.weaken bS a.size),(ut am bT (ai (aX aj a.size) aC))⟩
open Go.RowKit
theorem fF{α:Type}(d:α)(xs:List α)(k:Nat)(h:k<xs.length) : xs.getD k d∈xs:=by
  simp[List.getD_eq_getElem?_getD,List.getElem?_eq_getElem h]
def ft:List Obj→List Int
  | []=>[]
  | o :: r=>([o.id,(o.value.length:Int)%256]++o.value)++ft r
theorem vE(xs:List Obj)(k:Nat)(h:k<xs.length) : ft (xs.drop k)=([(xs.getD k ⟨0,[]⟩).id,((xs.getD k ⟨0,[]⟩).value.length:Int)%256]++(xs.getD k ⟨0,[]⟩).value)++ft (xs.drop (k+1)):=by
  rw[List.drop_eq_getElem_cons h]
  simp[ft,List.getD_eq_getElem?_getD,List.getElem?_eq_getElem h]
def dm (dir:Int)(M:b7) : List Int :=
  if M.mei==13 then [M.mei]++M.data
  else if dir==0 then [M.mei,M.kind,M.next]
  else [M.mei,M.kind,M.level,M.more,M.next,(M.objects.length:Int)%256]++ft M.objects
theorem AU{m:Md}{cs:Array Value}{M:b7}{w:World}{dir:Int}(h:aH m w cs.toList M)(hf:bg M) : Calls Tryz.prog 162 #[vI dir,.agg cs] w (yQ (dm dir M) w):=by
 refine jl h fun Aw kw Ab kb Ad kd Ar kr Ao ko e hw hbt hd hr ho _ _ _ _ _ _ _ _ _ _ q0 q1 q2 q3 q4 q5 q6 q7 q8 q9 aL aM aP aR aT aU aV=>?_
 subst e
 have hf1:=hf.words
 have hf2:=hf.bits
 have hf3:=hf.data
 have hf4:=hf.recs
 have hf5:=hf.objects
 refine en 64 Tryz.func162 rfl<|sg<|L0<|cX (mG M.code M.fail M.addr M.count M.value M.and_ M.or_ M.addr2 M.sub M.status M.events M.messages (.slice Aw M.words.length kw) (.slice Ab M.bits.length kb) (.slice Ad M.data.length kd) (.slice Ar M.recs.length kr) M.mei M.kind M.level M.more M.next (.slice Ao M.objects.length ko)) fun aY s aZ a c=>al 1<|sq<|bk<|aA 1<|aD a 16<|Pl 2<|nl<|tn<|cb ((M.mei==13)) (fun d=>?_) (fun d=>?_)
 have P:=aI d
 refine aA 1<|aD a 16<|L0<|dX (m:=1) (e:=5) #[vB M.mei] fun b0 b1 Q R t=>?_
 have F:=dZ Q (xs:=[M.mei]) (by as_aux_lemma=>kernel_rfl) (ax (by omega) b9) (by(try simp only[List.length_cons,List.length_nil]);omega) R
 refine Pl 1<|?_
 refine aD (ub t a) 14<|?_
 have G:=aK c t
 refine L0<|dj bp (xs:=([M.mei])) (ys:=M.data) (vB 0) 1 F (aW.old hd G) (by(try simp only[co,aE]);omega) t.size fun S T b2 U V=>al 1<|rt<|br<|tr<|rr (.slice S (([M.mei]++M.data).length) T)<|?_
 have hs:dm dir M=([M.mei]++M.data):=by
   unfold dm
   (try simp only[d,bC,reduceIte])
   all_goals first | rfl | (simp_all;done)
 rw[hs]
 exact⟨_,rfl,(aQ.weaken U c.size),(ut G V (ai (aX F c.size) aC))⟩
 have P:=aS d
 refine aB 3<|cb ((dir==0)) (fun f=>?_) (fun f=>?_)
 have W:=aI f
 refine aA 1<|aD a 16<|Pl 1<|aD a 17<|Pl 1<|aD a 20<|L0<|dX (m:=3) (e:=5) #[vB M.mei,vB M.kind,vB M.next] fun X b3 Y Z a0=>?_
 have a1:=dZ Y (xs:=[M.mei,M.kind,M.next]) (by as_aux_lemma=>kernel_rfl) (ax (by omega) (ax (by omega) (ax (by omega) b9))) (by(try simp only[List.length_cons,List.length_nil]);omega) Z
 refine al 1<|rt<|br<|tr<|rr (.slice (some ⟨X,0,none⟩) 3 3)<|?_
 have hs:dm dir M=[M.mei,M.kind,M.next]:=by
   unfold dm
   (try simp only[d,f,bC,reduceIte])
   all_goals first | rfl | (simp_all;done)
 rw[hs]
 exact⟨_,rfl,(aQ.weaken a1 c.size),(aK c a0)⟩
 have W:=aS f
 refine sk<|bn<|tn<|aA 1<|aD a 16<|Pl 1<|aD a 17<|Pl 1<|aD a 18<|Pl 1<|aD a 19<|Pl 1<|aD a 20<|Pl 1<|aD a 21<|Pl 2<|L0<|dX (m:=6) (e:=5) #[vB M.mei,vB M.kind,vB M.level,vB M.more,vB M.next,vB ((M.objects.length:Int)%256)] fun a2 a3 a4 a5 l=>?_
 have a6:=dZ a4 (xs:=[M.mei,M.kind,M.level,M.more,M.next,((M.objects.length:Int)%256)]) (by as_aux_lemma=>kernel_rfl) (ax (by omega) (ax (by omega) (ax (by omega) (ax (by omega) (ax (by omega) (ax (by omega) b9)))))) (by(try simp only[List.length_cons,List.length_nil]);omega) a5
 refine al 1<|sq<|aA 1<|?_
 refine aD (ub l a) 21<|al 2<|bk<|jZ (fun x=>[(4,nS),(5,.slice x.2.2.1 x.2.1.length x.2.2.2),(44,.slice Ao M.objects.length ko),(45,vI (M.objects.length:Int)),(46,vI (x.1:Int))]) (fun(x:Nat × List Int × Option Addr × Nat) w'=>ay [] s w'∧a3.heap.size≤w'.heap.size∧cG s.heap.size w' (.slice x.2.2.1 x.2.1.length x.2.2.2) x.2.1∧(x.1≤M.objects.length)∧(x.2.1++ft (M.objects.drop x.1)=([M.mei,M.kind,M.level,M.more,M.next,((M.objects.length:Int)%256)])++ft M.objects)∧(x.2.1.length≤16+x.1*1026)∧(6≤x.2.1.length)) (fun x=>M.objects.length-x.1) (0,[M.mei,M.kind,M.level,M.more,M.next,((M.objects.length:Int)%256)],some ⟨a2,0,none⟩,6) ⟨l,lr,a6,(by(try dsimp only);omega),rfl,(by(try dsimp only);(try simp only[List.length_cons,List.length_nil]);omega),(by(try dsimp only);(try simp only[List.length_cons,List.length_nil]);omega)⟩ ?_
 rintro⟨k,L,A,cp⟩ a7 ⟨H,u,a8,a9,aa,ab,ac⟩
 refine iW [(4,nS),(5,.slice A L.length cp),(44,.slice Ao M.objects.length ko),(45,vI (M.objects.length:Int)),(46,vI (k:Int))] ?_
 have g:cG s.heap.size a7 (.slice A L.length cp) L:=a8
 have b4:k≤M.objects.length:=a9
 have b5:L++ft (M.objects.drop k)=([M.mei,M.kind,M.level,M.more,M.next,((M.objects.length:Int)%256)])++ft M.objects:=aa
 have b6:L.length≤16+k*1026:=ab
 have b8:6≤L.length:=ac
 have hL:L++ft (M.objects.drop k)=([M.mei,M.kind,M.level,M.more,M.next,((M.objects.length:Int)%256)])++ft M.objects:=by assumption
 have hv0:=fun(h:k<M.objects.length)=>hf.objv _ (fF ⟨0,[]⟩ M.objects k h)
 refine aB 1<|sq<|?_
 have v:=aK c H
 refine cb ((decide ((k:Int)<(M.objects.length:Int)))) (fun n=>?_) (fun n=>?_)
 have ad:=of_decide_eq_true n
 refine bM<|sq<|bk<|sg<|BA (pC.elt ho k (by omega)) fun ba bb bc bd be y z af ag ah bf aj=>L0<|jC 2 M.objects.length k af (by omega)<|?_
 refine L0<|wb [vB ((M.objects.getD k ⟨0,[]⟩).id),.slice y ((M.objects.getD k ⟨0,[]⟩).value.length) z] (ub v ag) aj<|aO #[vB 0,nS] fun I bh J am o=>aN am #[vB ((M.objects.getD k ⟨0,[]⟩).id),.slice y ((M.objects.getD k ⟨0,[]⟩).value.length) z] fun bj an p=>nt<|Rg 13 (fun w'=>w'.cell? ⟨I,0,none⟩=some (vB ((M.objects.getD k ⟨0,[]⟩).id))∧w'.cell? ⟨I,1,none⟩=some (.slice y ((M.objects.getD k ⟨0,[]⟩).value.length) z)) fun bl i=>?_
 have B:=ub i an
 refine bi ⟨(ae B rfl),(ae B rfl)⟩ fun b=>Rt 0 b<|Rt 1 b<|Rl 2 b (fun _ hs=>hs.1)<|Rt 3 b<|Rl 4 b (fun _ hs=>hs.2)<|Rt 5 b<|Rt 6 b<|Rt 9 b<|Rl 10 b (fun _ hs=>hs.2)<|R0 7 rfl<|dX (m:=2) (e:=5) #[vB ((M.objects.getD k ⟨0,[]⟩).id),vB ((((M.objects.getD k ⟨0,[]⟩).value.length:Nat) : Int)%256)] fun bm bo ao ap j=>?_
 have ar:=dZ ao (xs:=[(M.objects.getD k ⟨0,[]⟩).id,((((M.objects.getD k ⟨0,[]⟩).value.length:Nat) : Int)%256)]) (by as_aux_lemma=>kernel_rfl) (ax (by omega) (ax (by omega) b9)) (by(try simp only[List.length_cons,List.length_nil]);omega) ap
 have C:=ub j B
 refine bi ⟨(ae C rfl),(ae C rfl)⟩ fun bq=>?_
 have K:=ud o (aK p (aK i j)) J
 refine R0 8 rfl<|dj bp (xs:=L) (ys:=([(M.objects.getD k ⟨0,[]⟩).id,((((M.objects.getD k ⟨0,[]⟩).value.length:Nat) : Int)%256)])) (vB 0) 1 (ak g K (fun x hx=>av) (fun _ _ h=>h)) (ar).rd (by(try simp only[co,aE]);omega) (le (le (le (le (le l.size u) o.size) p.size) i.size) j.size) fun au bs bt D q=>?_
 have r:=ay.blk q (aq (ej g lr J) av) C
 refine bi ⟨(ae r rfl),(ae r rfl)⟩ fun bu=>?_
 have N:=ut (ay.mono (S':=(ob A++[])) K aC) q (ai il aC)
 refine R0 11 rfl<|dj bp (xs:=(L++[(M.objects.getD k ⟨0,[]⟩).id,((((M.objects.getD k ⟨0,[]⟩).value.length:Nat) : Int)%256)])) (ys:=((M.objects.getD k ⟨0,[]⟩).value)) (vB 0) 1 D (aW.old ah (ut v N (ai (aX g c.size) aC))) (by(try simp only[co,aE]);omega) (le (le (le (le (le (le l.size u) o.size) p.size) i.size) j.size) q.size) fun aw az bv aF E=>?_
 have O:=ay.blk E (aq (aJ r D (by decide)) av) r
 refine bi ⟨(ae O rfl),(ae O rfl)⟩ fun aG=>Rt 12 aG<|re<|bn<|tn<|go<|bD ((k:Int)+1)<|Pl 1<|nl<|?_
 exact fD ((k+1),((L++[(M.objects.getD k ⟨0,[]⟩).id,((((M.objects.getD k ⟨0,[]⟩).value.length:Nat) : Int)%256)])++(M.objects.getD k ⟨0,[]⟩).value),aw,az) ⟨(ut H (ut (ay.mono (S':=(ob A++(ob au++[]))) N (ai il aC)) E (ai il aC)) (ai (aX g lr) (ai (aX D lr) aC))),(le (le (le (le (le (le u o.size) p.size) i.size) j.size) q.size) E.size),aF,(by(try dsimp only);omega),(by(try dsimp only);rw[← hL,vE  M.objects k (by omega)];simp only[List.append_assoc]),(by(try dsimp only);have hv:=hf.objv _ (fF ⟨0,[]⟩ M.objects k (by omega));(try simp only[co,aE]);omega),(by(try dsimp only);(try simp only[co]);omega)⟩ (by omega)
 have ad:=of_decide_eq_false n
 refine xt<|tx<|tx<|bx<|tn<|aB 2<|rt<|rr (.slice A L.length cp)<|?_
 have hk:k=M.objects.length:=by omega
 rw[hk,List.drop_length] at hL
 have hL2:L=([M.mei,M.kind,M.level,M.more,M.next,((M.objects.length:Int)%256)])++ft M.objects:=by rw[← hL];simp[ft]
 have hs:dm dir M=L:=by
   rw[hL2]
   unfold dm
   (try simp only[d,f,n,bC,reduceIte])
   all_goals rfl
 rw[hs]
 exact⟨_,rfl,(aQ.weaken g c.size),v⟩
open Go.RowKit
def fP (dir code:Int)(r:et) : List Int:=(if code==20&&dir==1 then [(1+2*(r.words.length:Int))%256,6] else [6]++aV [r.file,r.record,r.count])++aV r.words
def cm (dir code:Int) : List et→List Int
  | []=>[]
  | r :: rs=>fP dir code r++cm dir code rs
theorem gv(dir code:Int)(xs:List et)(k:Nat)(h:k<xs.length) : cm dir code (xs.drop k)=fP dir code (xs.getD k ⟨0,0,0,[]⟩)++cm dir code (xs.drop (k+1)):=by
  rw[List.drop_eq_getElem_cons h]
  simp[cm,List.getD_eq_getElem?_getD,List.getElem?_eq_getElem h]
def cY (dir:Int)(M:b7) : List Int:=([0]++cm dir M.code M.recs).set 0 (((([0]++cm dir M.code M.recs).length:Int)-1)%256)
theorem wn{m:Md}{cs:Array Value}{M:b7}{w:World}{dir:Int}(h:aH m w cs.toList M)(hf:bg M) : Calls Tryz.prog 159 #[vI dir,.agg cs] w (yQ (cY dir M) w):=by
 refine jl h fun Aw kw Ab kb Ad kd Ar kr Ao ko e hw hbt hd hr ho _ _ _ _ _ _ _ _ _ _ q0 q1 q2 q3 q4 q5 q6 q7 q8 q9 cw cx cy cz cA cB cC=>?_
 subst e
 have hf1:=hf.words
 have hf2:=hf.bits
 have hf3:=hf.data
 have hf4:=hf.recs
 have hf5:=hf.objects
 refine en 58 Tryz.func159 rfl<|sg<|L0<|cX (mG M.code M.fail M.addr M.count M.value M.and_ M.or_ M.addr2 M.sub M.status M.events M.messages (.slice Aw M.words.length kw) (.slice Ab M.bits.length kb) (.slice Ad M.data.length kd) (.slice Ar M.recs.length kr) M.mei M.kind M.level M.more M.next (.slice Ao M.objects.length ko)) fun ao ab cD ap l=>Pl 1<|ng<|L0<|dX (m:=1) (e:=5) #[vB 0] fun bm bo bq br g=>?_
 have bs:=dZ bq (xs:=[0]) (by as_aux_lemma=>kernel_rfl) (ax (by omega) b9) (by(try simp only[List.length_cons,List.length_nil]);omega) br
 refine al 1<|sq<|aA 1<|?_
 refine aD (ub g ap) 15<|al 2<|bk<|jZ (fun x=>[(0,vI dir),(3,vP ao 0),(4,nS),(5,.slice x.2.2.1 x.2.1.length x.2.2.2),(10,.slice Ar M.recs.length kr),(11,vI (M.recs.length:Int)),(12,vI (x.1:Int))]) (fun(x:Nat × List Int × Option Addr × Nat) w'=>ay [] ab w'∧bo.heap.size≤w'.heap.size∧cG ab.heap.size w' (.slice x.2.2.1 x.2.1.length x.2.2.2) x.2.1∧(x.1≤M.recs.length)∧(x.2.1++cm dir M.code (M.recs.drop x.1)=([0])++cm dir M.code M.recs)∧(x.2.1.length≤16+x.1*2060)∧(1≤x.2.1.length)) (fun x=>M.recs.length-x.1) (0,[0],some ⟨bm,0,none⟩,1) ⟨g,lr,bs,(by(try dsimp only);omega),rfl,(by(try dsimp only);(try simp only[List.length_cons,List.length_nil]);omega),(by(try dsimp only);(try simp only[List.length_cons,List.length_nil]);omega)⟩ ?_
 rintro⟨k,L,A,cp⟩ bt ⟨ar,f,bu,bv,bw,bz,bA⟩
 refine iW [(0,vI dir),(3,vP ao 0),(4,nS),(5,.slice A L.length cp),(10,.slice Ar M.recs.length kr),(11,vI (M.recs.length:Int)),(12,vI (k:Int))] ?_
 have a:cG ab.heap.size bt (.slice A L.length cp) L:=bu
 have cE:k≤M.recs.length:=bv
 have cF:L++cm dir M.code (M.recs.drop k)=([0])++cm dir M.code M.recs:=bw
 have cH:L.length≤16+k*2060:=bz
 have cI:1≤L.length:=bA
 have hL:L++cm dir M.code (M.recs.drop k)=([0])++cm dir M.code M.recs:=by assumption
 have hv0:=fun(h:k<M.recs.length)=>hf.recw _ (fF ⟨0,0,0,[]⟩ M.recs k h)
 refine aB 1<|sq<|?_
 have ac:=aK l ar
 refine cb ((decide ((k:Int)<(M.recs.length:Int)))) (fun n=>?_) (fun n=>?_)
 have bB:=of_decide_eq_true n
 refine bM<|sq<|bk<|sg<|BA (pD.elt hr k (by omega)) fun cJ cK cL cM cN au aw bE bF P cO bG=>L0<|jC 4 M.recs.length k bE (by omega)<|?_
 refine L0<|wb [vW ((M.recs.getD k ⟨0,0,0,[]⟩).file),vW ((M.recs.getD k ⟨0,0,0,[]⟩).record),vW ((M.recs.getD k ⟨0,0,0,[]⟩).count),.slice au ((M.recs.getD k ⟨0,0,0,[]⟩).words.length) aw] (ub ac bF) bG<|aO #[vW 0,vW 0,vW 0,nS] fun ad cP B bH b=>aN bH #[vW ((M.recs.getD k ⟨0,0,0,[]⟩).file),vW ((M.recs.getD k ⟨0,0,0,[]⟩).record),vW ((M.recs.getD k ⟨0,0,0,[]⟩).count),.slice au ((M.recs.getD k ⟨0,0,0,[]⟩).words.length) aw] fun cQ af c=>nt<|sq<|bk<|aA 1<|?_
 have s:=ud b c B
 have C:=aK ar s
 refine aD (ub C ap) 0<|Pl 2<|ij 3 [32] 35 32 (M.code==20) (dir==1) (fun K bI bJ=>?_) ?_
 have cR:=aI bJ
 exact Pl 3<|ce bI _ rfl
 refine al 1<|?_
 have Q:=aK ac s
 refine cb (((M.code==20)&&(dir==1))) (fun o=>?_) (fun o=>?_)
 have az:=(bW o).1
 have aF:=(bW o).2
 have cS:=aI az
 have cT:=aI aF
 refine go<|Pl 2<|aD af 3<|Pl 1<|bD (2*(((M.recs.getD k ⟨0,0,0,[]⟩).words.length:Nat) : Int))<|bD (1+(2*(((M.recs.getD k ⟨0,0,0,[]⟩).words.length:Nat) : Int)))<|Pl 1<|L0<|dX (m:=2) (e:=5) #[vB ((1+(2*(((M.recs.getD k ⟨0,0,0,[]⟩).words.length:Nat) : Int)))%256),vB 6] fun cU cV bK bL D=>?_
 have bN:=dZ bK (xs:=[((1+(2*(((M.recs.getD k ⟨0,0,0,[]⟩).words.length:Nat) : Int)))%256),6]) (by as_aux_lemma=>kernel_rfl) (ax (by omega) (ax (by omega) b9)) (by(try simp only[List.length_cons,List.length_nil]);omega) bL
 refine L0<|dj bp (xs:=L) (ys:=([((1+(2*(((M.recs.getD k ⟨0,0,0,[]⟩).words.length:Nat) : Int)))%256),6])) (vB 0) 1 (ak a (aK s D) (fun x hx=>av) (fun _ _ h=>h)) (bN).rd (by(try simp only[co,aE]);omega) (le (le (le (le g.size f) b.size) c.size) D.size) fun aL cW cZ aM ag=>Pl 1<|nl<|bn<|tn<|go<|Pl 2<|?_
 have ah:=ut (ay.mono (S':=(ob A++[])) D aC) ag (ai il aC)
 refine aD (ay.blk ah (aq (ej a lr B) av) af) 3<|?_
 refine aG<|fC (ck (xs:=(M.recs.getD k ⟨0,0,0,[]⟩).words) (fv.old P (ut Q ah (ai (aX a l.size) aC))) (by(try simp only[List.length_cons,List.length_nil]);omega)) fun d0 d1 d2 bO d3 d4 R=>?_
 refine L0<|dj bp (xs:=(L++[((1+(2*(((M.recs.getD k ⟨0,0,0,[]⟩).words.length:Nat) : Int)))%256),6])) (ys:=(aV ((M.recs.getD k ⟨0,0,0,[]⟩).words))) (vB 0) 1 (ak aM R (fun x hx=>av) (fun _ _ h=>h)) (bO).rd (by(try simp only[co,aE]);omega) (le (le (le (le (le (le g.size f) b.size) c.size) D.size) ag.size) R.size) fun bP bQ d5 bR aP=>Pl 1<|nl<|bn<|tn<|go<|bD ((k:Int)+1)<|Pl 1<|nl<|?_
 exact fD ((k+1),((L++[((1+(2*(((M.recs.getD k ⟨0,0,0,[]⟩).words.length:Nat) : Int)))%256),6])++(aV ((M.recs.getD k ⟨0,0,0,[]⟩).words))),bP,bQ) ⟨(ut C (ut (ay.mono (S':=(ob A++(ob aL++[]))) ah (ai il aC)) (ut (ay.mono (S':=(ob aL++[])) R aC) aP (ai il aC)) (ai il aC)) (ai (aX a lr) (ai (aX aM lr) aC))),(le (le (le (le (le (le f b.size) c.size) D.size) ag.size) R.size) aP.size),bR,(by(try dsimp only);omega),(by(try dsimp only);rw[← hL,gv dir M.code M.recs k (by omega)];simp only[fP,n,o,az,aF,bC,List.append_assoc]),(by(try dsimp only);have hv:=hf.recw _ (fF ⟨0,0,0,[]⟩ M.recs k (by omega));(try simp only[co,aE]);omega),(by(try dsimp only);(try simp only[co]);omega)⟩ (by omega)
 refine Rg 13 (fun w'=>w'.cell? ⟨ad,0,none⟩=some (vW ((M.recs.getD k ⟨0,0,0,[]⟩).file))∧w'.cell? ⟨ad,1,none⟩=some (vW ((M.recs.getD k ⟨0,0,0,[]⟩).record))∧w'.cell? ⟨ad,2,none⟩=some (vW ((M.recs.getD k ⟨0,0,0,[]⟩).count))) fun d6 d=>?_
 have E:=ub d af
 refine bi ⟨(ae E rfl),(ae E rfl),(ae E rfl)⟩ fun p=>Rt 0 p<|Rt 3 p<|Rl 4 p (fun _ hs=>hs.1)<|Rt 5 p<|Rl 6 p (fun _ hs=>hs.2.1)<|Rt 7 p<|Rl 8 p (fun _ hs=>hs.2.2)<|R2 1 9 rfl rfl ?_ ?_
 refine  dX (m:=1) (e:=5) #[vB 6] fun d7 d8 bS bT i=>?_
 have aR:=dZ bS (xs:=[6]) (by as_aux_lemma=>kernel_rfl) (ax (by omega) b9) (by(try simp only[List.length_cons,List.length_nil]);omega) bT
 have F:=ub i E
 refine bi ⟨(ae F rfl),(ae F rfl),(ae F rfl)⟩ fun d9=>?_
 refine R2 2 9 rfl rfl ?_ ?_
 have aS:=aK d i
 refine  dj bp (xs:=L) (ys:=([6])) (vB 0) 1 (ak a (aK s aS) (fun x hx=>av) (fun _ _ h=>h)) (aR).rd (by(try simp only[co,aE]);omega) (le (le (le (le (le g.size f) b.size) c.size) d.size) i.size) fun S da db aj G=>?_
 have T:=ay.blk G (aq (ej a lr B) av) F
 refine bi ⟨(ae T rfl),(ae T rfl),(ae T rfl)⟩ fun dc=>R0 9 rfl<|dX (m:=3) (e:=37) #[vW ((M.recs.getD k ⟨0,0,0,[]⟩).file),vW ((M.recs.getD k ⟨0,0,0,[]⟩).record),vW ((M.recs.getD k ⟨0,0,0,[]⟩).count)] fun dd de bU bV H=>?_
 have bX:=iw bU (xs:=[(M.recs.getD k ⟨0,0,0,[]⟩).file,(M.recs.getD k ⟨0,0,0,[]⟩).record,(M.recs.getD k ⟨0,0,0,[]⟩).count]) (by as_aux_lemma=>kernel_rfl) (ax (by omega) (ax (by omega) (ax (by omega) b9))) (by(try simp only[List.length_cons,List.length_nil]);omega) bV
 have U:=ub H T
 refine bi ⟨(ae U rfl),(ae U rfl),(ae U rfl)⟩ fun df=>R0 10 rfl<|Oc<|fC (ck (xs:=[(M.recs.getD k ⟨0,0,0,[]⟩).file,(M.recs.getD k ⟨0,0,0,[]⟩).record,(M.recs.getD k ⟨0,0,0,[]⟩).count]) (bX).rd (by(try simp only[List.length_cons,List.length_nil]);omega)) fun dg dh di bY dk dl I=>?_
 have J:=ub I U
 refine bi ⟨(ae J rfl),(ae J rfl),(ae J rfl)⟩ fun dm=>?_
 have aT:=aK H I
 have aU:=ak aj aT (fun x hx=>av) (fun _ _ h=>h)
 refine R0 11 rfl<|dj bp (xs:=(L++[6])) (ys:=(aV ([(M.recs.getD k ⟨0,0,0,[]⟩).file,(M.recs.getD k ⟨0,0,0,[]⟩).record,(M.recs.getD k ⟨0,0,0,[]⟩).count]))) (vB 0) 1 aU (bY).rd (by(try simp only[co,aE]);omega) (le (le (le (le (le (le (le (le g.size f) b.size) c.size) d.size) i.size) G.size) H.size) I.size) fun aY dn dp aZ V=>?_
 have W:=ay.blk V (aq (aJ J aU (by decide)) av) J
 refine bi ⟨(ae W rfl),(ae W rfl),(ae W rfl)⟩ fun bZ=>Rt 12 bZ<|re<|bn<|tn<|go<|Pl 2<|aD W 3<|?_
 have b0:=ut (ay.mono (S':=(ob A++(ob S++[]))) aS aC) (ut (ay.mono (S':=(ob A++(ob S++[]))) G (ai il aC)) (ut (ay.mono (S':=(ob S++[])) aT aC) V (ai il aC)) (ai il aC)) (ai il (ai il aC))
 refine aG<|fC (ck (xs:=(M.recs.getD k ⟨0,0,0,[]⟩).words) (fv.old P (ut Q b0 (ai (aX a l.size) (ai (aX aj l.size) aC)))) (by(try simp only[List.length_cons,List.length_nil]);omega)) fun dq dr ds c0 dt du X=>?_
 refine L0<|dj bp (xs:=((L++[6])++(aV ([(M.recs.getD k ⟨0,0,0,[]⟩).file,(M.recs.getD k ⟨0,0,0,[]⟩).record,(M.recs.getD k ⟨0,0,0,[]⟩).count])))) (ys:=(aV ((M.recs.getD k ⟨0,0,0,[]⟩).words))) (vB 0) 1 (ak aZ X (fun x hx=>av) (fun _ _ h=>h)) (c0).rd (by(try simp only[co,aE]);omega) (le (le (le (le (le (le (le (le (le (le g.size f) b.size) c.size) d.size) i.size) G.size) H.size) I.size) V.size) X.size) fun c1 c2 dv c3 b1=>Pl 1<|nl<|bn<|tn<|go<|bD ((k:Int)+1)<|Pl 1<|nl<|?_
 exact fD ((k+1),(((L++[6])++(aV ([(M.recs.getD k ⟨0,0,0,[]⟩).file,(M.recs.getD k ⟨0,0,0,[]⟩).record,(M.recs.getD k ⟨0,0,0,[]⟩).count])))++(aV ((M.recs.getD k ⟨0,0,0,[]⟩).words))),c1,c2) ⟨(ut C (ut (ay.mono (S':=(ob A++(ob S++(ob aY++[])))) b0 (ai il (ai il aC))) (ut (ay.mono (S':=(ob aY++[])) X aC) b1 (ai il aC)) (ai il aC)) (ai (aX a lr) (ai (aX aj lr) (ai (aX aZ lr) aC)))),(le (le (le (le (le (le (le (le (le (le f b.size) c.size) d.size) i.size) G.size) H.size) I.size) V.size) X.size) b1.size),c3,(by(try dsimp only);omega),(by(try dsimp only);rw[← hL,gv dir M.code M.recs k (by omega)];simp only[fP,n,o,bC,List.append_assoc]),(by(try dsimp only);have hv:=hf.recw _ (fF ⟨0,0,0,[]⟩ M.recs k (by omega));(try simp only[co,aE]);omega),(by(try dsimp only);(try simp only[co]);omega)⟩ (by omega)
 refine  dX (m:=3) (e:=37) #[vW ((M.recs.getD k ⟨0,0,0,[]⟩).file),vW ((M.recs.getD k ⟨0,0,0,[]⟩).record),vW ((M.recs.getD k ⟨0,0,0,[]⟩).count)] fun dw dx c4 c5 q=>?_
 have b2:=iw c4 (xs:=[(M.recs.getD k ⟨0,0,0,[]⟩).file,(M.recs.getD k ⟨0,0,0,[]⟩).record,(M.recs.getD k ⟨0,0,0,[]⟩).count]) (by as_aux_lemma=>kernel_rfl) (ax (by omega) (ax (by omega) (ax (by omega) b9))) (by(try simp only[List.length_cons,List.length_nil]);omega) c5
 have Y:=ub q F
 refine bi ⟨(ae Y rfl),(ae Y rfl),(ae Y rfl)⟩ fun dy=>?_
 have b3:=aK d (aK i q)
 refine R0 2 rfl<|dj bp (xs:=L) (ys:=([6])) (vB 0) 1 (ak a (aK s b3) (fun x hx=>av) (fun _ _ h=>h)) ((ak aR q (fun x hx=>av) (fun _ _ h=>h))).rd (by(try simp only[co,aE]);omega) (le (le (le (le (le (le g.size f) b.size) c.size) d.size) i.size) q.size) fun Z dz dA am t=>?_
 have a0:=ay.blk t (aq (ej a lr B) av) Y
 refine bi ⟨(ae a0 rfl),(ae a0 rfl),(ae a0 rfl)⟩ fun dB=>?_
 refine R0 10 rfl<|Oc<|fC (ck (xs:=[(M.recs.getD k ⟨0,0,0,[]⟩).file,(M.recs.getD k ⟨0,0,0,[]⟩).record,(M.recs.getD k ⟨0,0,0,[]⟩).count]) ((ak b2 t (fun x hx=>(aq ((n7 b2 a (le (le (le b.size c.size) d.size) i.size)) x hx) av)) (fun _ _ h=>h))).rd (by(try simp only[List.length_cons,List.length_nil]);omega)) fun dC dD dE c6 dF dG u=>?_
 have N:=ub u a0
 refine bi ⟨(ae N rfl),(ae N rfl),(ae N rfl)⟩ fun dH=>?_
 have b4:=ak am u (fun x hx=>av) (fun _ _ h=>h)
 refine R0 11 rfl<|dj bp (xs:=(L++[6])) (ys:=(aV ([(M.recs.getD k ⟨0,0,0,[]⟩).file,(M.recs.getD k ⟨0,0,0,[]⟩).record,(M.recs.getD k ⟨0,0,0,[]⟩).count]))) (vB 0) 1 b4 (c6).rd (by(try simp only[co,aE]);omega) (le (le (le (le (le (le (le (le g.size f) b.size) c.size) d.size) i.size) q.size) t.size) u.size) fun b5 dI dJ b6 a1=>?_
 have a2:=ay.blk a1 (aq (aJ N b4 (by decide)) av) N
 refine bi ⟨(ae a2 rfl),(ae a2 rfl),(ae a2 rfl)⟩ fun c7=>Rt 12 c7<|re<|bn<|tn<|go<|Pl 2<|aD a2 3<|?_
 have b8:=ut (ay.mono (S':=(ob A++(ob Z++[]))) b3 aC) (ut (ay.mono (S':=(ob A++(ob Z++[]))) t (ai il aC)) (ut (ay.mono (S':=(ob Z++[])) u aC) a1 (ai il aC)) (ai il aC)) (ai il (ai il aC))
 refine aG<|fC (ck (xs:=(M.recs.getD k ⟨0,0,0,[]⟩).words) (fv.old P (ut Q b8 (ai (aX a l.size) (ai (aX am l.size) aC)))) (by(try simp only[List.length_cons,List.length_nil]);omega)) fun dK dL dM c8 dN dO a3=>?_
 refine L0<|dj bp (xs:=((L++[6])++(aV ([(M.recs.getD k ⟨0,0,0,[]⟩).file,(M.recs.getD k ⟨0,0,0,[]⟩).record,(M.recs.getD k ⟨0,0,0,[]⟩).count])))) (ys:=(aV ((M.recs.getD k ⟨0,0,0,[]⟩).words))) (vB 0) 1 (ak b6 a3 (fun x hx=>av) (fun _ _ h=>h)) (c8).rd (by(try simp only[co,aE]);omega) (le (le (le (le (le (le (le (le (le (le g.size f) b.size) c.size) d.size) i.size) q.size) t.size) u.size) a1.size) a3.size) fun c9 ca dP cc ba=>Pl 1<|nl<|bn<|tn<|go<|bD ((k:Int)+1)<|Pl 1<|nl<|?_
 exact fD ((k+1),(((L++[6])++(aV ([(M.recs.getD k ⟨0,0,0,[]⟩).file,(M.recs.getD k ⟨0,0,0,[]⟩).record,(M.recs.getD k ⟨0,0,0,[]⟩).count])))++(aV ((M.recs.getD k ⟨0,0,0,[]⟩).words))),c9,ca) ⟨(ut C (ut (ay.mono (S':=(ob A++(ob Z++(ob b5++[])))) b8 (ai il (ai il aC))) (ut (ay.mono (S':=(ob b5++[])) a3 aC) ba (ai il aC)) (ai il aC)) (ai (aX a lr) (ai (aX am lr) (ai (aX b6 lr) aC)))),(le (le (le (le (le (le (le (le (le (le f b.size) c.size) d.size) i.size) q.size) t.size) u.size) a1.size) a3.size) ba.size),cc,(by(try dsimp only);omega),(by(try dsimp only);rw[← hL,gv dir M.code M.recs k (by omega)];simp only[fP,n,o,bC,List.append_assoc]),(by(try dsimp only);have hv:=hf.recw _ (fF ⟨0,0,0,[]⟩ M.recs k (by omega));(try simp only[co,aE]);omega),(by(try dsimp only);(try simp only[co]);omega)⟩ (by omega)
 refine  dX (m:=3) (e:=37) #[vW ((M.recs.getD k ⟨0,0,0,[]⟩).file),vW ((M.recs.getD k ⟨0,0,0,[]⟩).record),vW ((M.recs.getD k ⟨0,0,0,[]⟩).count)] fun dQ dR cd cf v=>?_
 have bb:=iw cd (xs:=[(M.recs.getD k ⟨0,0,0,[]⟩).file,(M.recs.getD k ⟨0,0,0,[]⟩).record,(M.recs.getD k ⟨0,0,0,[]⟩).count]) (by as_aux_lemma=>kernel_rfl) (ax (by omega) (ax (by omega) (ax (by omega) b9))) (by(try simp only[List.length_cons,List.length_nil]);omega) cf
 have a4:=ub v E
 refine bi ⟨(ae a4 rfl),(ae a4 rfl),(ae a4 rfl)⟩ fun dS=>R0 1 rfl<|dX (m:=1) (e:=5) #[vB 6] fun dT dU cg ch r=>?_
 have ci:=dZ cg (xs:=[6]) (by as_aux_lemma=>kernel_rfl) (ax (by omega) b9) (by(try simp only[List.length_cons,List.length_nil]);omega) ch
 have a5:=ub r a4
 refine bi ⟨(ae a5 rfl),(ae a5 rfl),(ae a5 rfl)⟩ fun dV=>?_
 have bc:=aK d (aK v r)
 refine R0 2 rfl<|dj bp (xs:=L) (ys:=([6])) (vB 0) 1 (ak a (aK s bc) (fun x hx=>av) (fun _ _ h=>h)) (ci).rd (by(try simp only[co,aE]);omega) (le (le (le (le (le (le g.size f) b.size) c.size) d.size) v.size) r.size) fun a6 dW dY an y=>?_
 have a7:=ay.blk y (aq (ej a lr B) av) a5
 refine bi ⟨(ae a7 rfl),(ae a7 rfl),(ae a7 rfl)⟩ fun e0=>?_
 refine R0 10 rfl<|Oc<|fC (ck (xs:=[(M.recs.getD k ⟨0,0,0,[]⟩).file,(M.recs.getD k ⟨0,0,0,[]⟩).record,(M.recs.getD k ⟨0,0,0,[]⟩).count]) ((ak bb (ut (ay.mono (S':=(ob A++[])) r aC) y (ai il aC)) (fun x hx=>(aq ((n7 bb a (le (le b.size c.size) d.size)) x hx) av)) (fun _ _ h=>h))).rd (by(try simp only[List.length_cons,List.length_nil]);omega)) fun e1 e2 e3 cj e4 e5 z=>?_
 have O:=ub z a7
 refine bi ⟨(ae O rfl),(ae O rfl),(ae O rfl)⟩ fun e6=>?_
 have bd:=ak an z (fun x hx=>av) (fun _ _ h=>h)
 refine R0 11 rfl<|dj bp (xs:=(L++[6])) (ys:=(aV ([(M.recs.getD k ⟨0,0,0,[]⟩).file,(M.recs.getD k ⟨0,0,0,[]⟩).record,(M.recs.getD k ⟨0,0,0,[]⟩).count]))) (vB 0) 1 bd (cj).rd (by(try simp only[co,aE]);omega) (le (le (le (le (le (le (le (le g.size f) b.size) c.size) d.size) v.size) r.size) y.size) z.size) fun be e7 e8 bf a8=>?_
 have a9:=ay.blk a8 (aq (aJ O bd (by decide)) av) O
 refine bi ⟨(ae a9 rfl),(ae a9 rfl),(ae a9 rfl)⟩ fun cl=>Rt 12 cl<|re<|bn<|tn<|go<|Pl 2<|aD a9 3<|?_
 have bh:=ut (ay.mono (S':=(ob A++(ob a6++[]))) bc aC) (ut (ay.mono (S':=(ob A++(ob a6++[]))) y (ai il aC)) (ut (ay.mono (S':=(ob a6++[])) z aC) a8 (ai il aC)) (ai il aC)) (ai il (ai il aC))
 refine aG<|fC (ck (xs:=(M.recs.getD k ⟨0,0,0,[]⟩).words) (fv.old P (ut Q bh (ai (aX a l.size) (ai (aX an l.size) aC)))) (by(try simp only[List.length_cons,List.length_nil]);omega)) fun e9 ea eb cn ec ed aa=>?_
 refine L0<|dj bp (xs:=((L++[6])++(aV ([(M.recs.getD k ⟨0,0,0,[]⟩).file,(M.recs.getD k ⟨0,0,0,[]⟩).record,(M.recs.getD k ⟨0,0,0,[]⟩).count])))) (ys:=(aV ((M.recs.getD k ⟨0,0,0,[]⟩).words))) (vB 0) 1 (ak bf aa (fun x hx=>av) (fun _ _ h=>h)) (cn).rd (by(try simp only[co,aE]);omega) (le (le (le (le (le (le (le (le (le (le g.size f) b.size) c.size) d.size) v.size) r.size) y.size) z.size) a8.size) aa.size) fun cq cr ee ct bj=>Pl 1<|nl<|bn<|tn<|go<|bD ((k:Int)+1)<|Pl 1<|nl<|?_
 exact fD ((k+1),(((L++[6])++(aV ([(M.recs.getD k ⟨0,0,0,[]⟩).file,(M.recs.getD k ⟨0,0,0,[]⟩).record,(M.recs.getD k ⟨0,0,0,[]⟩).count])))++(aV ((M.recs.getD k ⟨0,0,0,[]⟩).words))),cq,cr) ⟨(ut C (ut (ay.mono (S':=(ob A++(ob a6++(ob be++[])))) bh (ai il (ai il aC))) (ut (ay.mono (S':=(ob be++[])) aa aC) bj (ai il aC)) (ai il aC)) (ai (aX a lr) (ai (aX an lr) (ai (aX bf lr) aC)))),(le (le (le (le (le (le (le (le (le (le f b.size) c.size) d.size) v.size) r.size) y.size) z.size) a8.size) aa.size) bj.size),ct,(by(try dsimp only);omega),(by(try dsimp only);rw[← hL,gv dir M.code M.recs k (by omega)];simp only[fP,n,o,bC,List.append_assoc]),(by(try dsimp only);have hv:=hf.recw _ (fF ⟨0,0,0,[]⟩ M.recs k (by omega));(try simp only[co,aE]);omega),(by(try dsimp only);(try simp only[co]);omega)⟩ (by omega)
 have bB:=of_decide_eq_false n
 refine xt<|tx<|tx<|bx<|tn<|aA 3<|bD ((L.length:Int)-1)<|Pl 1<|kf (aW.at_ (a).rd 0 (by omega)) fun ef eg bl eh ei=>L0<|lW L.length 0 bl (by omega)<|L0<|EI bp (j:=0) a bl (by omega) (((L.length:Int)-1)%256) (fun _=>⟨rfl,by omega⟩) fun ek cu cv=>nl<|tn<|aB 2<|rt<|rr (.slice A L.length cp)<|?_
 have hk:k=M.recs.length:=by omega
 rw[hk,List.drop_length] at hL
 have hL2:[0]++cm dir M.code M.recs=L:=by rw[← hL];simp[cm]
 have hs:cY dir M=(L.set 0 (((L.length:Int)-1)%256)):=by unfold cY;rw[hL2]
 rw[hs]
 exact⟨_,rfl,(aQ.weaken cu l.size),(ut ac cv (ai (aX a l.size) aC))⟩
open Go.RowKit
theorem kC{parse:Int→Int→List Int→b7 × Int}{lay:Int→b7→List Int}{dir E:Int}{M X:b7}(hX:parse dir M.code (lay dir M)=(X,E))(hE:(E != 0)=true) : cj parse lay dir M=none:=by
  unfold cj
  rw[hX,if_neg]
  intro h
  injection h with h1 h2
  rw[h2] at hE
  cases hE
theorem km{parse:Int→Int→List Int→b7 × Int}{lay:Int→b7→List Int}{dir E:Int}{M X:b7}(hX:parse dir M.code (lay dir M)=(X,E))(hE:decide (X=M)=false) : cj parse lay dir M=none:=by
  unfold cj
  rw[hX,if_neg]
  intro h
  injection h with h1 h2
  rw[h1] at hE
  simp at hE
theorem rI{parse:Int→Int→List Int→b7 × Int}{lay:Int→b7→List Int}{dir E:Int}{M X:b7}(hX:parse dir M.code (lay dir M)=(X,E))(hE:(E != 0)=false)(h:decide (X=M)=true) : cj parse lay dir M=some (lay dir M):=by
  unfold cj
  have h1:X=M:=by simpa using h
  have h2:E=0:=by simpa using hE
  rw[hX,h1,h2,if_pos rfl]
theorem fZ{x y:Option (List Int)}(h:x=y){w:World}{e:Ending}{w':World}(k:gh y w e w') : gh x w e w':=by rw[h];exact k
theorem lu{m:Md}{cs:Array Value}{M:b7}{w:World}{dir:Int}(h:aH m w cs.toList M)(hf:bg M)(hlen:(cy dir M).length≤1048576) : Calls Tryz.prog 97 #[vI dir,.agg cs] w (gh (cj gj cy dir M) w):=by
 have hM:=h
 refine jl h fun Aw kw Ab kb Ad kd Ar kr Ao ko e hw hbt hd hr ho _ _ _ _ _ _ _ _ _ _ q0 q1 q2 q3 q4 q5 q6 q7 q8 q9 P Q R S T U V=>?_
 subst e
 refine en 29 Tryz.func97 rfl<|sg<|L0<|cX (mG M.code M.fail M.addr M.count M.value M.and_ M.or_ M.addr2 M.sub M.status M.events M.messages (.slice Aw M.words.length kw) (.slice Ab M.bits.length kb) (.slice Ad M.data.length kd) (.slice Ar M.recs.length kr) M.mei M.kind M.level M.more M.next (.slice Ao M.objects.length ko)) fun W X Y l i=>Pl 2<|aU 1<|L0<|cM l<|?_
 have n:=aH.old hM i
 refine aG<|fC (uC (dir:=dir) n hf) fun z C D o Z a0 p=>Pl 1<|aU 2<|?_
 have q:=ub p l
 refine aD q 0<|Pl 1<|pr (gj dir M.code (cy dir M)) fun f E g=>?_
 have r:Calls _ _ _ _ (ef (gj dir M.code (cy dir M)) D):=lx (dir:=dir) (c:=M.code) q0 (o).rd hlen
 rw[g] at r
 refine aG<|e2 (r) fun F a1 a G=>Pl 3<|aO mZ fun a2 a3 H I J=>aN (hz:=(by rw[a.size];exact bv)) (hv:=a.size) (h1:=a.one) I (F) fun a4 K L=>al 1<|sq<|aA 3<|?_
 have s:=ud J L H
 have j:=aK G s
 have t:=aK p j
 have u:=aK i t
 refine bl 22 ((E != 0)) (fun b=>?_) (fun b=>?_)
 have N:=aR b
 refine al 5<|c1<|aB 2<|bQ<|rr (.tuple #[nS,vI 1])<|fZ (kC g b) ?_
 exact⟨rfl,u⟩
 have N:=aZ b
 refine L1<|cM (hz:=(by rw[a.size];exact bv)) K<|?_
 refine L1<|cM (ub j q)<|?_
 refine L1<|Oc<|m1 (gY (A:=f) (B:=M) (aH.upd a s aP) (aH.old n t)) fun a5 v=>al 2<|?_
 have y:=aK u v
 refine cb ((!(decide (f=M)))) (fun k=>?_) (fun k=>?_)
 have d:(decide (f=M))=false:=by simpa using k
 have O:=of_decide_eq_false d
 refine aB 2<|bQ<|rr (.tuple #[nS,vI 1])<|fZ (km g d) ?_
 exact⟨rfl,y⟩
 have d:(decide (f=M))=true:=by simpa using k
 have O:=of_decide_eq_true d
 refine bM<|aB 3<|rt<|rr (.tuple #[.slice z ((cy dir M).length) C,vI 0])<|?_
 refine fZ (rI g b d) ?_
 exact⟨_,rfl,(aQ.weaken (ak o (aK j v) (fun x hx=>av) (fun _ _ h=>h)) i.size),y⟩
theorem mg{m:Md}{cs:Array Value}{M:b7}{w:World}{dir:Int}(h:aH m w cs.toList M)(hf:bg M)(hlen:(bY dir M).length≤1048576) : Calls Tryz.prog 99 #[vI dir,.agg cs] w (gh (cj i8 bY dir M) w):=by
 have hM:=h
 refine jl h fun Aw kw Ab kb Ad kd Ar kr Ao ko e hw hbt hd hr ho _ _ _ _ _ _ _ _ _ _ q0 q1 q2 q3 q4 q5 q6 q7 q8 q9 P Q R S T U V=>?_
 subst e
 refine en 29 Tryz.func99 rfl<|sg<|L0<|cX (mG M.code M.fail M.addr M.count M.value M.and_ M.or_ M.addr2 M.sub M.status M.events M.messages (.slice Aw M.words.length kw) (.slice Ab M.bits.length kb) (.slice Ad M.data.length kd) (.slice Ar M.recs.length kr) M.mei M.kind M.level M.more M.next (.slice Ao M.objects.length ko)) fun W X Y l i=>Pl 2<|aU 1<|L0<|cM l<|?_
 have n:=aH.old hM i
 refine aG<|fC (xH (dir:=dir) n hf) fun z C D o Z a0 p=>Pl 1<|aU 2<|?_
 have q:=ub p l
 refine aD q 0<|Pl 1<|pr (i8 dir M.code (bY dir M)) fun f E g=>?_
 have r:Calls _ _ _ _ (ef (i8 dir M.code (bY dir M)) D):=mj (dir:=dir) (c:=M.code) q0 (o).rd hlen
 rw[g] at r
 refine aG<|e2 (r) fun F a1 a G=>Pl 3<|aO mZ fun a2 a3 H I J=>aN (hz:=(by rw[a.size];exact bv)) (hv:=a.size) (h1:=a.one) I (F) fun a4 K L=>al 1<|sq<|aA 3<|?_
 have s:=ud J L H
 have j:=aK G s
 have t:=aK p j
 have u:=aK i t
 refine bl 22 ((E != 0)) (fun b=>?_) (fun b=>?_)
 have N:=aR b
 refine al 5<|c1<|aB 2<|bQ<|rr (.tuple #[nS,vI 1])<|fZ (kC g b) ?_
 exact⟨rfl,u⟩
 have N:=aZ b
 refine L1<|cM (hz:=(by rw[a.size];exact bv)) K<|?_
 refine L1<|cM (ub j q)<|?_
 refine L1<|Oc<|m1 (gY (A:=f) (B:=M) (aH.upd a s aP) (aH.old n t)) fun a5 v=>al 2<|?_
 have y:=aK u v
 refine cb ((!(decide (f=M)))) (fun k=>?_) (fun k=>?_)
 have d:(decide (f=M))=false:=by simpa using k
 have O:=of_decide_eq_false d
 refine aB 2<|bQ<|rr (.tuple #[nS,vI 1])<|fZ (km g d) ?_
 exact⟨rfl,y⟩
 have d:(decide (f=M))=true:=by simpa using k
 have O:=of_decide_eq_true d
 refine bM<|aB 3<|rt<|rr (.tuple #[.slice z ((bY dir M).length) C,vI 0])<|?_
 refine fZ (rI g b d) ?_
 exact⟨_,rfl,(aQ.weaken (ak o (aK j v) (fun x hx=>av) (fun _ _ h=>h)) i.size),y⟩
theorem mL{m:Md}{cs:Array Value}{M:b7}{w:World}{dir:Int}(h:aH m w cs.toList M)(hf:bg M)(hlen:(bP dir M).length≤1048576) : Calls Tryz.prog 101 #[vI dir,.agg cs] w (gh (cj i3 bP dir M) w):=by
 have hM:=h
 refine jl h fun Aw kw Ab kb Ad kd Ar kr Ao ko e hw hbt hd hr ho _ _ _ _ _ _ _ _ _ _ q0 q1 q2 q3 q4 q5 q6 q7 q8 q9 P Q R S T U V=>?_
 subst e
 refine en 29 Tryz.func101 rfl<|sg<|L0<|cX (mG M.code M.fail M.addr M.count M.value M.and_ M.or_ M.addr2 M.sub M.status M.events M.messages (.slice Aw M.words.length kw) (.slice Ab M.bits.length kb) (.slice Ad M.data.length kd) (.slice Ar M.recs.length kr) M.mei M.kind M.level M.more M.next (.slice Ao M.objects.length ko)) fun W X Y l i=>Pl 2<|aU 1<|L0<|cM l<|?_
 have n:=aH.old hM i
 refine aG<|fC (yO (dir:=dir) n hf) fun z C D o Z a0 p=>Pl 1<|aU 2<|?_
 have q:=ub p l
 refine aD q 0<|Pl 1<|pr (i3 dir M.code (bP dir M)) fun f E g=>?_
 have r:Calls _ _ _ _ (ef (i3 dir M.code (bP dir M)) D):=mz (dir:=dir) (c:=M.code) q0 (o).rd hlen
 rw[g] at r
 refine aG<|e2 (r) fun F a1 a G=>Pl 3<|aO mZ fun a2 a3 H I J=>aN (hz:=(by rw[a.size];exact bv)) (hv:=a.size) (h1:=a.one) I (F) fun a4 K L=>al 1<|sq<|aA 3<|?_
 have s:=ud J L H
 have j:=aK G s
 have t:=aK p j
 have u:=aK i t
 refine bl 22 ((E != 0)) (fun b=>?_) (fun b=>?_)
 have N:=aR b
 refine al 5<|c1<|aB 2<|bQ<|rr (.tuple #[nS,vI 1])<|fZ (kC g b) ?_
 exact⟨rfl,u⟩
 have N:=aZ b
 refine L1<|cM (hz:=(by rw[a.size];exact bv)) K<|?_
 refine L1<|cM (ub j q)<|?_
 refine L1<|Oc<|m1 (gY (A:=f) (B:=M) (aH.upd a s aP) (aH.old n t)) fun a5 v=>al 2<|?_
 have y:=aK u v
 refine cb ((!(decide (f=M)))) (fun k=>?_) (fun k=>?_)
 have d:(decide (f=M))=false:=by simpa using k
 have O:=of_decide_eq_false d
 refine aB 2<|bQ<|rr (.tuple #[nS,vI 1])<|fZ (km g d) ?_
 exact⟨rfl,y⟩
 have d:(decide (f=M))=true:=by simpa using k
 have O:=of_decide_eq_true d
 refine bM<|aB 3<|rt<|rr (.tuple #[.slice z ((bP dir M).length) C,vI 0])<|?_
 refine fZ (rI g b d) ?_
 exact⟨_,rfl,(aQ.weaken (ak o (aK j v) (fun x hx=>av) (fun _ _ h=>h)) i.size),y⟩
theorem nX{m:Md}{cs:Array Value}{M:b7}{w:World}{dir:Int}(h:aH m w cs.toList M)(hf:bg M)(hlen:(dm dir M).length≤1048576) : Calls Tryz.prog 105 #[vI dir,.agg cs] w (gh (cj iT dm dir M) w):=by
 have hM:=h
 refine jl h fun Aw kw Ab kb Ad kd Ar kr Ao ko e hw hbt hd hr ho _ _ _ _ _ _ _ _ _ _ q0 q1 q2 q3 q4 q5 q6 q7 q8 q9 P Q R S T U V=>?_
 subst e
 refine en 29 Tryz.func105 rfl<|sg<|L0<|cX (mG M.code M.fail M.addr M.count M.value M.and_ M.or_ M.addr2 M.sub M.status M.events M.messages (.slice Aw M.words.length kw) (.slice Ab M.bits.length kb) (.slice Ad M.data.length kd) (.slice Ar M.recs.length kr) M.mei M.kind M.level M.more M.next (.slice Ao M.objects.length ko)) fun W X Y l i=>Pl 2<|aU 1<|L0<|cM l<|?_
 have n:=aH.old hM i
 refine aG<|fC (AU (dir:=dir) n hf) fun z C D o Z a0 p=>Pl 1<|aU 2<|?_
 have q:=ub p l
 refine aD q 0<|Pl 1<|pr (iT dir M.code (dm dir M)) fun f E g=>?_
 have r:Calls _ _ _ _ (ef (iT dir M.code (dm dir M)) D):=nQ (dir:=dir) (c:=M.code) q0 (o).rd hlen
 rw[g] at r
 refine aG<|e2 (r) fun F a1 a G=>Pl 3<|aO mZ fun a2 a3 H I J=>aN (hz:=(by rw[a.size];exact bv)) (hv:=a.size) (h1:=a.one) I (F) fun a4 K L=>al 1<|sq<|aA 3<|?_
 have s:=ud J L H
 have j:=aK G s
 have t:=aK p j
 have u:=aK i t
 refine bl 22 ((E != 0)) (fun b=>?_) (fun b=>?_)
 have N:=aR b
 refine al 5<|c1<|aB 2<|bQ<|rr (.tuple #[nS,vI 1])<|fZ (kC g b) ?_
 exact⟨rfl,u⟩
 have N:=aZ b
 refine L1<|cM (hz:=(by rw[a.size];exact bv)) K<|?_
 refine L1<|cM (ub j q)<|?_
 refine L1<|Oc<|m1 (gY (A:=f) (B:=M) (aH.upd a s aP) (aH.old n t)) fun a5 v=>al 2<|?_
 have y:=aK u v
 refine cb ((!(decide (f=M)))) (fun k=>?_) (fun k=>?_)
 have d:(decide (f=M))=false:=by simpa using k
 have O:=of_decide_eq_false d
 refine aB 2<|bQ<|rr (.tuple #[nS,vI 1])<|fZ (km g d) ?_
 exact⟨rfl,y⟩
 have d:(decide (f=M))=true:=by simpa using k
 have O:=of_decide_eq_true d
 refine bM<|aB 3<|rt<|rr (.tuple #[.slice z ((dm dir M).length) C,vI 0])<|?_
 refine fZ (rI g b d) ?_
 exact⟨_,rfl,(aQ.weaken (ak o (aK j v) (fun x hx=>av) (fun _ _ h=>h)) i.size),y⟩
theorem ln{m:Md}{cs:Array Value}{M:b7}{w:World}{dir:Int}(h:aH m w cs.toList M)(hf:bg M)(hlen:(cY dir M).length≤1048576) : Calls Tryz.prog 103 #[vI dir,.agg cs] w (gh (cj fG cY dir M) w):=by
 have hM:=h
 refine jl h fun Aw kw Ab kb Ad kd Ar kr Ao ko e hw hbt hd hr ho _ _ _ _ _ _ _ _ _ _ q0 q1 q2 q3 q4 q5 q6 q7 q8 q9 P Q R S T U V=>?_
 subst e
 refine en 29 Tryz.func103 rfl<|sg<|L0<|cX (mG M.code M.fail M.addr M.count M.value M.and_ M.or_ M.addr2 M.sub M.status M.events M.messages (.slice Aw M.words.length kw) (.slice Ab M.bits.length kb) (.slice Ad M.data.length kd) (.slice Ar M.recs.length kr) M.mei M.kind M.level M.more M.next (.slice Ao M.objects.length ko)) fun W X Y l i=>Pl 2<|aU 1<|L0<|cM l<|?_
 have n:=aH.old hM i
 refine aG<|fC (wn (dir:=dir) n hf) fun z C D o Z a0 p=>Pl 1<|aU 2<|?_
 have q:=ub p l
 refine aD q 0<|Pl 1<|pr (fG dir M.code (cY dir M)) fun f E g=>?_
 have r:Calls _ _ _ _ (ef (fG dir M.code (cY dir M)) D):=lm (dir:=dir) (c:=M.code) q0 (o).rd hlen
 rw[g] at r
 refine aG<|e2 (r) fun F a1 a G=>Pl 3<|aO mZ fun a2 a3 H I J=>aN (hz:=(by rw[a.size];exact bv)) (hv:=a.size) (h1:=a.one) I (F) fun a4 K L=>al 1<|sq<|aA 3<|?_
 have s:=ud J L H
 have j:=aK G s
 have t:=aK p j
 have u:=aK i t
 refine bl 22 ((E != 0)) (fun b=>?_) (fun b=>?_)
 have N:=aR b
 refine al 5<|c1<|aB 2<|bQ<|rr (.tuple #[nS,vI 1])<|fZ (kC g b) ?_
 exact⟨rfl,u⟩
 have N:=aZ b
 refine L1<|cM (hz:=(by rw[a.size];exact bv)) K<|?_
 refine L1<|cM (ub j q)<|?_
 refine L1<|Oc<|m1 (gY (A:=f) (B:=M) (aH.upd a s aP) (aH.old n t)) fun a5 v=>al 2<|?_
 have y:=aK u v
 refine cb ((!(decide (f=M)))) (fun k=>?_) (fun k=>?_)
 have d:(decide (f=M))=false:=by simpa using k
 have O:=of_decide_eq_false d
 refine aB 2<|bQ<|rr (.tuple #[nS,vI 1])<|fZ (km g d) ?_
 exact⟨rfl,y⟩
 have d:(decide (f=M))=true:=by simpa using k
 have O:=of_decide_eq_true d
 refine bM<|aB 3<|rt<|rr (.tuple #[.slice z ((cY dir M).length) C,vI 0])<|?_
 refine fZ (rI g b d) ?_
 exact⟨_,rfl,(aQ.weaken (ak o (aK j v) (fun x hx=>av) (fun _ _ h=>h)) i.size),y⟩
open Go.RowKit
def gO:Nat→Int→b7→Option (List Int)
  | 1,dir,M=>cj gj cy dir M
  | 2,dir,M=>cj i8 bY dir M
  | 3,dir,M=>cj i3 bP dir M
  | 4,dir,M=>cj fG cY dir M
  | 5,dir,M=>cj iT dm dir M
  | _,_,_=>none
def dc (dir:Int)(M:b7) : Option (List Int) :=
  if M.fail != 0 then (if dir != 1 then none else nu M)
  else match gO (kF M.code) dir M with
    | none=>none
    | some l=>if decide (253≤(l.length:Int)) then none else some ([M.code]++l)
theorem qs:∀ (L:List Obj),(∀ r,r∈L→r.value.length≤1024)→(ft L).length≤1026*L.length
  | [],_=>by simp[ft]
  | r :: L,h=>by
    have h1:=h r (by simp)
    have h2:=qs L fun x hx=>h x (by simp[hx])
    simp only[ft,List.length_append,List.length_cons,List.length_nil]
    omega
theorem mV(dir c:Int) : ∀ (L:List et),(∀ r,r∈L→r.words.length≤1024)→(cm dir c L).length≤2064*L.length
  | [],_=>by simp[cm]
  | r :: L,h=>by
    have h1:=h r (by simp)
    have h2:=mV dir c L fun x hx=>h x (by simp[hx])
    simp only[cm,fP]
    repeat' split
    all_goals simp only[co,aE]
    all_goals omega
theorem ff{M:b7}(hf:bg M)(dir:Int) : (cy dir M).length≤1048576∧(bY dir M).length≤1048576∧(bP dir M).length≤1048576∧(dm dir M).length≤1048576∧(cY dir M).length≤1048576:=by
  have hp:(dO M.bits).length≤1024:=by
    have:=hf.bits
    simp only[dO,List.length_map,List.length_range,fg]
    omega
  have h1:=hf.words
  have h2:=hf.data
  have h3:=hf.objects
  have h4:=qs M.objects hf.objv
  have h5:=mV dir M.code M.recs hf.recw
  have h6:=hf.recs
  refine⟨?_,?_,?_,?_,?_⟩
  · unfold cy
    repeat' split
    all_goals simp only[co,aE]
    all_goals omega
  · unfold bY
    repeat' split
    all_goals simp only[co,aE]
    all_goals omega
  · unfold bP
    repeat' split
    all_goals simp only[co,aE]
    all_goals omega
  · unfold dm
    repeat' split
    all_goals simp only[co]
    all_goals omega
  · unfold cY
    simp only[List.length_set,List.length_append,List.length_cons,List.length_nil]
    omega
theorem fb{m:Md}{cs:Array Value}{M:b7}{w:World}{dir:Int}(h:aH m w cs.toList M)(hf:bg M) : Calls Tryz.prog 51 #[vI dir,.agg cs] w (gh (dc dir M) w):=by
 have hM:=h
 refine jl h fun Aw kw Ab kb Ad kd Ar kr Ao ko e hw hbt hd hr ho _ _ _ _ _ _ _ _ _ _ q0 q1 q2 q3 q4 q5 q6 q7 q8 q9 cf cg d ch ci ck cl=>?_
 subst e
 refine en 47 Tryz.func51 rfl<|sg<|L0<|cX (mG M.code M.fail M.addr M.count M.value M.and_ M.or_ M.addr2 M.sub M.status M.events M.messages (.slice Aw M.words.length kw) (.slice Ab M.bits.length kb) (.slice Ad M.data.length kd) (.slice Ar M.recs.length kr) M.mei M.kind M.level M.more M.next (.slice Ao M.objects.length ko)) fun cm f cn c b=>al 2<|sq<|aA 1<|aD c 1<|Pl 1<|nl<|tn<|cb ((M.fail != 0)) (fun a=>?_) (fun a=>?_)
 have aj:=aR a
 refine sq<|aB 2<|cb ((dir != 1)) (fun d=>?_) (fun d=>?_)
 have am:=aR d
 exact aB 2<|bQ<|tr<|rr (.tuple #[nS,vI 1])<|dQ (y:=none) (by unfold dc;(try simp only[a,d,bC,reduceIte])<;>rfl) ⟨rfl,b⟩
 have am:=aZ d
 refine bM<|sg<|L0<|cM c<|?_
 rcases hwr:nu M with _|lw
 have F:=og (aH.old hM b)
 rw[hwr] at F
 refine aG<|m1 F fun cp an=>al 4<|bQ<|rr (.tuple #[nS,vI 1])<|?_
 exact dQ (y:=none) (by unfold dc;(try simp only[a,d,bC,hwr,reduceIte])<;>rfl) ⟨rfl,(aK b an)⟩
 have G:=og (aH.old hM b)
 rw[hwr] at G
 refine aG<|fC G fun ao ap cq aq cr ct ar=>al 4<|bQ<|rr (.tuple #[.slice ao lw.length ap,vI 0])<|?_
 exact dQ (y:=(some lw)) (by unfold dc;(try simp only[a,d,bC,hwr,reduceIte])<;>rfl) ⟨_,rfl,(aQ.weaken aq b.size),(aK b ar)⟩
 have aj:=aZ a
 refine bM<|aA 1<|aD c 0<|?_
 rcases kK M.code with⟨hk,hkf⟩|⟨hk,hkf⟩|⟨hk,hkf⟩|⟨hk,hkf⟩|⟨hk,hkf⟩|⟨hk,hkf⟩
 have H:=fu (x:=M.code) (w:=f)
 rw[hkf] at H
 refine aG<|m1 H fun cu au=>Pl 3<|aO #[.nilFunc,.nilFunc] fun cv cw aw ay az=>aN ay #[.func (.func 96) #[] #[],.func (.func 97) #[] #[]] fun cx aF aI=>al 1<|sq<|aB 2<|c0<|bM<|aA 1<|aD aF 1<|Pl 1<|?_
 have I:=aK au (ud az aI aw)
 have J:=ub I c
 refine L0<|cM J<|?_
 have n:=aK b I
 rcases hwr:cj gj cy dir M with _|lw
 have K:=lu (dir:=dir) (aH.old hM n) hf (ff hf dir).1
 rw[hwr] at K
 refine L0<|gk #[] #[] (args:=#[vI dir,.agg (mG M.code M.fail M.addr M.count M.value M.and_ M.or_ M.addr2 M.sub M.status M.events M.messages (.slice Aw M.words.length kw) (.slice Ab M.bits.length kb) (.slice Ad M.data.length kd) (.slice Ar M.recs.length kr) M.mei M.kind M.level M.more M.next (.slice Ao M.objects.length ko))])<|m1 K fun cz aJ=>al 5<|sq<|aB 7<|c1<|aA 2<|nl<|tn<|bQ<|rr (.tuple #[nS,vI 1])<|?_
 exact dQ (y:=none) (by unfold dc;(try simp only[a,bC,hkf,gO,hwr,reduceIte])<;>rfl) ⟨rfl,(aK n aJ)⟩
 have L:=lu (dir:=dir) (aH.old hM n) hf (ff hf dir).1
 rw[hwr] at L
 refine L0<|gk #[] #[] (args:=#[vI dir,.agg (mG M.code M.fail M.addr M.count M.value M.and_ M.or_ M.addr2 M.sub M.status M.events M.messages (.slice Aw M.words.length kw) (.slice Ab M.bits.length kb) (.slice Ad M.data.length kd) (.slice Ar M.recs.length kr) M.mei M.kind M.level M.more M.next (.slice Ao M.objects.length ko))])<|fC L fun cA cB cC aL cD cE N=>al 5<|sq<|aB 7<|?_
 have s:=aK n N
 refine cb ((decide (253≤(lw.length:Int)))) (fun g=>?_) (fun g=>?_)
 have aM:=of_decide_eq_true g
 exact aB 2<|bQ<|rr (.tuple #[nS,vI 1])<|dQ (y:=none) (by unfold dc;(try simp only[a,g,bC,hkf,gO,hwr,reduceIte])<;>rfl) ⟨rfl,s⟩
 have aM:=of_decide_eq_false g
 refine bM<|aA 1<|?_
 refine aD (ub N J) 0<|L0<|dX (m:=1) (e:=5) #[vB M.code] fun cF cG aP aS t=>?_
 have O:=dZ aP (xs:=[M.code]) (by as_aux_lemma=>kernel_rfl) (ax (by omega) b9) (by(try simp only[List.length_cons,List.length_nil]);omega) aS
 refine Pl 1<|?_
 refine L0<|dj bp (xs:=([M.code])) (ys:=lw) (vB 0) 1 O ((ak aL t (fun x hx=>av) (fun _ _ h=>h))).rd (by(try simp only[co,aE]);omega) t.size fun aT aU cH aV aW=>al 2<|rt<|rr (.tuple #[.slice aT (([M.code]++lw).length) aU,vI 0])<|?_
 exact dQ (y:=(some ([M.code]++lw))) (by unfold dc;(try simp only[a,g,bC,hkf,gO,hwr,reduceIte])<;>rfl) ⟨_,rfl,(aQ.weaken aV s.size),(aK s (ut t aW (ai (aX O lr) aC)))⟩
 have P:=fu (x:=M.code) (w:=f)
 rw[hkf] at P
 refine aG<|m1 P fun cI aY=>Pl 3<|aO #[.nilFunc,.nilFunc] fun cJ cK b0 b1 b2=>aN b1 #[.func (.func 98) #[] #[],.func (.func 99) #[] #[]] fun cL b3 b4=>al 1<|sq<|aB 2<|c0<|bM<|aA 1<|aD b3 1<|Pl 1<|?_
 have Q:=aK aY (ud b2 b4 b0)
 have R:=ub Q c
 refine L0<|cM R<|?_
 have o:=aK b Q
 rcases hwr:cj i8 bY dir M with _|lw
 have S:=mg (dir:=dir) (aH.old hM o) hf (ff hf dir).2.1
 rw[hwr] at S
 refine L0<|gk #[] #[] (args:=#[vI dir,.agg (mG M.code M.fail M.addr M.count M.value M.and_ M.or_ M.addr2 M.sub M.status M.events M.messages (.slice Aw M.words.length kw) (.slice Ab M.bits.length kb) (.slice Ad M.data.length kd) (.slice Ar M.recs.length kr) M.mei M.kind M.level M.more M.next (.slice Ao M.objects.length ko))])<|m1 S fun cN b5=>al 5<|sq<|aB 7<|c1<|aA 2<|nl<|tn<|bQ<|rr (.tuple #[nS,vI 1])<|?_
 exact dQ (y:=none) (by unfold dc;(try simp only[a,bC,hkf,gO,hwr,reduceIte])<;>rfl) ⟨rfl,(aK o b5)⟩
 have T:=mg (dir:=dir) (aH.old hM o) hf (ff hf dir).2.1
 rw[hwr] at T
 refine L0<|gk #[] #[] (args:=#[vI dir,.agg (mG M.code M.fail M.addr M.count M.value M.and_ M.or_ M.addr2 M.sub M.status M.events M.messages (.slice Aw M.words.length kw) (.slice Ab M.bits.length kb) (.slice Ad M.data.length kd) (.slice Ar M.recs.length kr) M.mei M.kind M.level M.more M.next (.slice Ao M.objects.length ko))])<|fC T fun cO cP cQ b6 cR cS U=>al 5<|sq<|aB 7<|?_
 have u:=aK o U
 refine cb ((decide (253≤(lw.length:Int)))) (fun i=>?_) (fun i=>?_)
 have b8:=of_decide_eq_true i
 exact aB 2<|bQ<|rr (.tuple #[nS,vI 1])<|dQ (y:=none) (by unfold dc;(try simp only[a,i,bC,hkf,gO,hwr,reduceIte])<;>rfl) ⟨rfl,u⟩
 have b8:=of_decide_eq_false i
 refine bM<|aA 1<|?_
 refine aD (ub U R) 0<|L0<|dX (m:=1) (e:=5) #[vB M.code] fun cT cU ba bb v=>?_
 have V:=dZ ba (xs:=[M.code]) (by as_aux_lemma=>kernel_rfl) (ax (by omega) b9) (by(try simp only[List.length_cons,List.length_nil]);omega) bb
 refine Pl 1<|?_
 refine L0<|dj bp (xs:=([M.code])) (ys:=lw) (vB 0) 1 V ((ak b6 v (fun x hx=>av) (fun _ _ h=>h))).rd (by(try simp only[co,aE]);omega) v.size fun bc bd cV be bf=>al 2<|rt<|rr (.tuple #[.slice bc (([M.code]++lw).length) bd,vI 0])<|?_
 exact dQ (y:=(some ([M.code]++lw))) (by unfold dc;(try simp only[a,i,bC,hkf,gO,hwr,reduceIte])<;>rfl) ⟨_,rfl,(aQ.weaken be u.size),(aK u (ut v bf (ai (aX V lr) aC)))⟩
 have W:=fu (x:=M.code) (w:=f)
 rw[hkf] at W
 refine aG<|m1 W fun cW bh=>Pl 3<|aO #[.nilFunc,.nilFunc] fun cZ d0 bi bj bk=>aN bj #[.func (.func 100) #[] #[],.func (.func 101) #[] #[]] fun d1 bl bm=>al 1<|sq<|aB 2<|c0<|bM<|aA 1<|aD bl 1<|Pl 1<|?_
 have X:=aK bh (ud bk bm bi)
 have Y:=ub X c
 refine L0<|cM Y<|?_
 have p:=aK b X
 rcases hwr:cj i3 bP dir M with _|lw
 have Z:=mL (dir:=dir) (aH.old hM p) hf (ff hf dir).2.2.1
 rw[hwr] at Z
 refine L0<|gk #[] #[] (args:=#[vI dir,.agg (mG M.code M.fail M.addr M.count M.value M.and_ M.or_ M.addr2 M.sub M.status M.events M.messages (.slice Aw M.words.length kw) (.slice Ab M.bits.length kb) (.slice Ad M.data.length kd) (.slice Ar M.recs.length kr) M.mei M.kind M.level M.more M.next (.slice Ao M.objects.length ko))])<|m1 Z fun d2 bn=>al 5<|sq<|aB 7<|c1<|aA 2<|nl<|tn<|bQ<|rr (.tuple #[nS,vI 1])<|?_
 exact dQ (y:=none) (by unfold dc;(try simp only[a,bC,hkf,gO,hwr,reduceIte])<;>rfl) ⟨rfl,(aK p bn)⟩
 have a0:=mL (dir:=dir) (aH.old hM p) hf (ff hf dir).2.2.1
 rw[hwr] at a0
 refine L0<|gk #[] #[] (args:=#[vI dir,.agg (mG M.code M.fail M.addr M.count M.value M.and_ M.or_ M.addr2 M.sub M.status M.events M.messages (.slice Aw M.words.length kw) (.slice Ab M.bits.length kb) (.slice Ad M.data.length kd) (.slice Ar M.recs.length kr) M.mei M.kind M.level M.more M.next (.slice Ao M.objects.length ko))])<|fC a0 fun d3 d4 d5 bo d6 d7 a1=>al 5<|sq<|aB 7<|?_
 have z:=aK p a1
 refine cb ((decide (253≤(lw.length:Int)))) (fun j=>?_) (fun j=>?_)
 have bq:=of_decide_eq_true j
 exact aB 2<|bQ<|rr (.tuple #[nS,vI 1])<|dQ (y:=none) (by unfold dc;(try simp only[a,j,bC,hkf,gO,hwr,reduceIte])<;>rfl) ⟨rfl,z⟩
 have bq:=of_decide_eq_false j
 refine bM<|aA 1<|?_
 refine aD (ub a1 Y) 0<|L0<|dX (m:=1) (e:=5) #[vB M.code] fun d8 d9 br bs A=>?_
 have a2:=dZ br (xs:=[M.code]) (by as_aux_lemma=>kernel_rfl) (ax (by omega) b9) (by(try simp only[List.length_cons,List.length_nil]);omega) bs
 refine Pl 1<|?_
 refine L0<|dj bp (xs:=([M.code])) (ys:=lw) (vB 0) 1 a2 ((ak bo A (fun x hx=>av) (fun _ _ h=>h))).rd (by(try simp only[co,aE]);omega) A.size fun bt bu da bv bw=>al 2<|rt<|rr (.tuple #[.slice bt (([M.code]++lw).length) bu,vI 0])<|?_
 exact dQ (y:=(some ([M.code]++lw))) (by unfold dc;(try simp only[a,j,bC,hkf,gO,hwr,reduceIte])<;>rfl) ⟨_,rfl,(aQ.weaken bv z.size),(aK z (ut A bw (ai (aX a2 lr) aC)))⟩
 have a3:=fu (x:=M.code) (w:=f)
 rw[hkf] at a3
 refine aG<|m1 a3 fun db bx=>Pl 3<|aO #[.nilFunc,.nilFunc] fun dd de bz bA bB=>aN bA #[.func (.func 102) #[] #[],.func (.func 103) #[] #[]] fun df bD bE=>al 1<|sq<|aB 2<|c0<|bM<|aA 1<|aD bD 1<|Pl 1<|?_
 have a4:=aK bx (ud bB bE bz)
 have a5:=ub a4 c
 refine L0<|cM a5<|?_
 have q:=aK b a4
 rcases hwr:cj fG cY dir M with _|lw
 have a6:=ln (dir:=dir) (aH.old hM q) hf (ff hf dir).2.2.2.2
 rw[hwr] at a6
 refine L0<|gk #[] #[] (args:=#[vI dir,.agg (mG M.code M.fail M.addr M.count M.value M.and_ M.or_ M.addr2 M.sub M.status M.events M.messages (.slice Aw M.words.length kw) (.slice Ab M.bits.length kb) (.slice Ad M.data.length kd) (.slice Ar M.recs.length kr) M.mei M.kind M.level M.more M.next (.slice Ao M.objects.length ko))])<|m1 a6 fun dg bF=>al 5<|sq<|aB 7<|c1<|aA 2<|nl<|tn<|bQ<|rr (.tuple #[nS,vI 1])<|?_
 exact dQ (y:=none) (by unfold dc;(try simp only[a,bC,hkf,gO,hwr,reduceIte])<;>rfl) ⟨rfl,(aK q bF)⟩
 have a7:=ln (dir:=dir) (aH.old hM q) hf (ff hf dir).2.2.2.2
 rw[hwr] at a7
 refine L0<|gk #[] #[] (args:=#[vI dir,.agg (mG M.code M.fail M.addr M.count M.value M.and_ M.or_ M.addr2 M.sub M.status M.events M.messages (.slice Aw M.words.length kw) (.slice Ab M.bits.length kb) (.slice Ad M.data.length kd) (.slice Ar M.recs.length kr) M.mei M.kind M.level M.more M.next (.slice Ao M.objects.length ko))])<|fC a7 fun dh di dk bG dl dn a8=>al 5<|sq<|aB 7<|?_
 have B:=aK q a8
 refine cb ((decide (253≤(lw.length:Int)))) (fun k=>?_) (fun k=>?_)
 have bH:=of_decide_eq_true k
 exact aB 2<|bQ<|rr (.tuple #[nS,vI 1])<|dQ (y:=none) (by unfold dc;(try simp only[a,k,bC,hkf,gO,hwr,reduceIte])<;>rfl) ⟨rfl,B⟩
 have bH:=of_decide_eq_false k
 refine bM<|aA 1<|?_
 refine aD (ub a8 a5) 0<|L0<|dX (m:=1) (e:=5) #[vB M.code] fun dp dq bI bJ C=>?_
 have a9:=dZ bI (xs:=[M.code]) (by as_aux_lemma=>kernel_rfl) (ax (by omega) b9) (by(try simp only[List.length_cons,List.length_nil]);omega) bJ
 refine Pl 1<|?_
 refine L0<|dj bp (xs:=([M.code])) (ys:=lw) (vB 0) 1 a9 ((ak bG C (fun x hx=>av) (fun _ _ h=>h))).rd (by(try simp only[co,aE]);omega) C.size fun bK bL dr bN bO=>al 2<|rt<|rr (.tuple #[.slice bK (([M.code]++lw).length) bL,vI 0])<|?_
 exact dQ (y:=(some ([M.code]++lw))) (by unfold dc;(try simp only[a,k,bC,hkf,gO,hwr,reduceIte])<;>rfl) ⟨_,rfl,(aQ.weaken bN B.size),(aK B (ut C bO (ai (aX a9 lr) aC)))⟩
 have aa:=fu (x:=M.code) (w:=f)
 rw[hkf] at aa
 refine aG<|m1 aa fun ds bR=>Pl 3<|aO #[.nilFunc,.nilFunc] fun dt du bS bT bU=>aN bT #[.func (.func 104) #[] #[],.func (.func 105) #[] #[]] fun dv bV bW=>al 1<|sq<|aB 2<|c0<|bM<|aA 1<|aD bV 1<|Pl 1<|?_
 have ab:=aK bR (ud bU bW bS)
 have ac:=ub ab c
 refine L0<|cM ac<|?_
 have r:=aK b ab
 rcases hwr:cj iT dm dir M with _|lw
 have ad:=nX (dir:=dir) (aH.old hM r) hf (ff hf dir).2.2.2.1
 rw[hwr] at ad
 refine L0<|gk #[] #[] (args:=#[vI dir,.agg (mG M.code M.fail M.addr M.count M.value M.and_ M.or_ M.addr2 M.sub M.status M.events M.messages (.slice Aw M.words.length kw) (.slice Ab M.bits.length kb) (.slice Ad M.data.length kd) (.slice Ar M.recs.length kr) M.mei M.kind M.level M.more M.next (.slice Ao M.objects.length ko))])<|m1 ad fun dw bX=>al 5<|sq<|aB 7<|c1<|aA 2<|nl<|tn<|bQ<|rr (.tuple #[nS,vI 1])<|?_
 exact dQ (y:=none) (by unfold dc;(try simp only[a,bC,hkf,gO,hwr,reduceIte])<;>rfl) ⟨rfl,(aK r bX)⟩
 have ae:=nX (dir:=dir) (aH.old hM r) hf (ff hf dir).2.2.2.1
 rw[hwr] at ae
 refine L0<|gk #[] #[] (args:=#[vI dir,.agg (mG M.code M.fail M.addr M.count M.value M.and_ M.or_ M.addr2 M.sub M.status M.events M.messages (.slice Aw M.words.length kw) (.slice Ab M.bits.length kb) (.slice Ad M.data.length kd) (.slice Ar M.recs.length kr) M.mei M.kind M.level M.more M.next (.slice Ao M.objects.length ko))])<|fC ae fun dx dy dz bZ dA dB af=>al 5<|sq<|aB 7<|?_
 have D:=aK r af
 refine cb ((decide (253≤(lw.length:Int)))) (fun l=>?_) (fun l=>?_)
 have c2:=of_decide_eq_true l
 exact aB 2<|bQ<|rr (.tuple #[nS,vI 1])<|dQ (y:=none) (by unfold dc;(try simp only[a,l,bC,hkf,gO,hwr,reduceIte])<;>rfl) ⟨rfl,D⟩
 have c2:=of_decide_eq_false l
 refine bM<|aA 1<|?_
 refine aD (ub af ac) 0<|L0<|dX (m:=1) (e:=5) #[vB M.code] fun dC dD c3 c4 E=>?_
 have ag:=dZ c3 (xs:=[M.code]) (by as_aux_lemma=>kernel_rfl) (ax (by omega) b9) (by(try simp only[List.length_cons,List.length_nil]);omega) c4
 refine Pl 1<|?_
 refine L0<|dj bp (xs:=([M.code])) (ys:=lw) (vB 0) 1 ag ((ak bZ E (fun x hx=>av) (fun _ _ h=>h))).rd (by(try simp only[co,aE]);omega) E.size fun c5 c6 dE c7 c8=>al 2<|rt<|rr (.tuple #[.slice c5 (([M.code]++lw).length) c6,vI 0])<|?_
 exact dQ (y:=(some ([M.code]++lw))) (by unfold dc;(try simp only[a,l,bC,hkf,gO,hwr,reduceIte])<;>rfl) ⟨_,rfl,(aQ.weaken c7 D.size),(aK D (ut E c8 (ai (aX ag lr) aC)))⟩
 have ah:=fu (x:=M.code) (w:=f)
 rw[hkf] at ah
 refine aG<|m1 ah fun dF c9=>Pl 3<|aO #[.nilFunc,.nilFunc] fun dG dH ca cc cd=>aN cc #[.nilFunc,.nilFunc] fun dI dJ ce=>al 1<|sq<|aB 2<|c1<|aB 2<|bQ<|rr (.tuple #[nS,vI 1])<|?_
 exact dQ (y:=none) (by unfold dc;(try simp only[a,bC,hkf,gO,reduceIte])<;>rfl) ⟨rfl,(aK b (aK c9 (ud cd ce ca)))⟩
open Go.RowKit
def iK:Nat→Int→List Int→b7 × Int
  | 1,dir,b=>aL bt dir (b.getD 0 0) (b.drop 1)
  | 2,dir,b=>aL ci dir (b.getD 0 0) (b.drop 1)
  | 3,dir,b=>aL bE dir (b.getD 0 0) (b.drop 1)
  | 4,dir,b=>aL bG dir (b.getD 0 0) (b.drop 1)
  | 5,dir,b=>aL cn dir (b.getD 0 0) (b.drop 1)
  | _,_,_=>(b7.zero,4)
def db (dir:Int)(b:List Int) : b7 × Int :=
  if dir != 0&&dir != 1 then (b7.zero,1)
  else if (b.length:Int)==0 then (b7.zero,2)
  else if decide (253<(b.length:Int)) then (b7.zero,3)
  else if decide (128≤b.getD 0 0)&&dir==1 then iO b
  else iK (kF (b.getD 0 0)) dir b
theorem sS{m:Md}{A:Option Addr}{cp:Nat}{b:List Int}{w:World}{dir:Int}(hsl:aW m w (.slice A b.length cp) b)(hb:b.length≤1048576) :
    Calls Tryz.prog 83 #[vI dir,.slice A b.length cp] w (ef (db dir b) w):=by
 have hln:(b.length:Int)≤1048576:=by omega
 refine en 60 Tryz.func83 rfl<|sg<|aO mZ fun di t h d a=>al 1<|sq<|bk<|aA 3<|ij 3 [11] 14 11 (dir != 0) (dir != 1) (fun K c6 c7=>?_) ?_
 have dj:=aR c7
 exact Pl 3<|ce c6 _ rfl
 refine al 1<|cb (((dir != 0)&&(dir != 1))) (fun e=>?_) (fun e=>?_)
 have V:=(bW e).1
 have W:=(bW e).2
 have dk:=aR V
 have dl:=aR W
 refine aA 1<|aN d mZ fun dm c8 c9=>al 1<|rt<|br<|tr<|eA c8 (vI 1)<|?_
 exact dQ (by unfold db;(try simp only[e,V,W,bC,iK,reduceIte])<;>rfl) (cl (ud a c9 h))
 refine aB 4<|cb (((b.length:Int)==0)) (fun f=>?_) (fun f=>?_)
 have ca:=aI f
 refine aA 1<|aN d mZ fun dn cc cd=>al 1<|rt<|br<|tr<|eA cc (vI 2)<|?_
 exact dQ (by unfold db;(try simp only[e,f,bC,iK,reduceIte])<;>rfl) (cl (ud a cd h))
 have ca:=aS f
 refine aB 4<|cb ((decide (253<(b.length:Int)))) (fun g=>?_) (fun g=>?_)
 have cf:=of_decide_eq_true g
 refine aA 1<|aN d mZ fun dp cg ch=>al 1<|rt<|br<|tr<|eA cg (vI 3)<|?_
 exact dQ (by unfold db;(try simp only[e,f,g,bC,iK,reduceIte])<;>rfl) (cl (ud a ch h))
 have cf:=of_decide_eq_false g
 refine aA 1<|?_
 have s:=aW.old hsl a
 refine kf (aW.at_ s 0 (by omega)) fun X Y Z a0 dq=>L0<|lW b.length 0 Z (by omega)<|L0<|jO (p:=⟨X,Y+0,none⟩) (v:=vB (b.getD 0 0)) a0<|Pl 2<|ij 3 [31] 34 31 (decide (128≤(b.getD 0 0))) (dir==1) (fun K cj ck=>?_) ?_
 have dr:=of_decide_eq_true ck
 exact Pl 3<|ce cj _ rfl
 refine al 1<|cb (((decide (128≤(b.getD 0 0)))&&(dir==1))) (fun i=>?_) (fun i=>?_)
 have a1:=(bW i).1
 have a2:=(bW i).2
 have ds:=of_decide_eq_true a1
 have dt:=aI a2
 refine aA 1<|aG<|e2 (vc s (by omega)) fun cm du u a3=>Pl 2<|?_
 have a4:=ub a3 d
 refine aN (hz:=(by rw[u.size];exact bv)) (hv:=u.size) (h1:=u.one) a4 (cm) fun dv co a5=>al 1<|rt<|br<|tr<|ke 22 u.size co (vI (((iO b)).2))<|?_
 exact dQ (by unfold db;(try simp only[e,f,g,i,a1,a2,bC,iK,reduceIte])<;>rfl) ⟨_,rfl,(aH.lo (aH.upd u a5 (am (b6 a4 (by decide)) aP)) a.size),(ud a (uz a3 a5) h)⟩
 refine sk<|bn<|tn<|aA 1<|L0<|lW b.length 0 Z (by omega)<|L0<|jO (p:=⟨X,Y+0,none⟩) (v:=vB (b.getD 0 0)) a0<|?_
 rcases kK (b.getD 0 0) with⟨hk,hkf⟩|⟨hk,hkf⟩|⟨hk,hkf⟩|⟨hk,hkf⟩|⟨hk,hkf⟩|⟨hk,hkf⟩
 have a6:=fu (x:=(b.getD 0 0)) (w:=t)
 rw[hkf] at a6
 refine aG<|m1 a6 fun dw J=>Pl 3<|aO #[.nilFunc,.nilFunc] fun cq dx a7 cr a8=>aN cr #[.func (.func 96) #[] #[],.func (.func 97) #[] #[]] fun dy cs a9=>al 1<|sq<|aB 2<|c0<|bM<|sq<|?_
 have aa:=aK J (ud a8 a9 a7)
 have ab:=aW.old s aa
 refine kf (aW.at_ ab 0 (by omega)) fun ct cu ac ad dz=>Rg 13 (fun w'=>w'.cell? ⟨cq,0,none⟩=some (.func (.func 96) #[] #[])∧w'.cell? ⟨ct,cu+0,none⟩=some (vB (b.getD 0 0))) fun dA y=>?_
 have af:=ub y cs
 refine bi ⟨(ae af rfl),(uc y ad)⟩ fun j=>Rt 0 j<|Rl 1 j (fun _ hs=>hs.1)<|Rt 2 j<|Rt 3 j<|yJ 4 j b.length 0 0 rfl ac (by omega)<|Rl 5 j (fun _ hs=>hs.2)<|Rt 6 j<|xc (gc (P:=Tryz.prog) 27 5 1 Tryz.underlying27 rfl rfl A b.length cp 1 (by omega)) fun ah hrun108 cv=>Rr 7 j (.slice ah (b.length-1) (cp-1)) (fun _ _=>fW (kl:=.i64) (k:=((1:Nat) : Int)) (A:=A) (n:=b.length) (c:=cp) rfl Tryz.underlying27 (by kernel_rfl) (by kernel_rfl) (hrun108 _ _))<|?_
 refine R0 8 rfl<|gk #[] #[] (args:=#[vI dir,vB (b.getD 0 0),.slice ah (b.length-1) (cp-1)])<|e2 (lx (dir:=dir) (c:=(b.getD 0 0)) (b8 (by omega)) (cv _ _ _ _ _ (aW.old ab y)) (by(try simp only[List.length_drop]);omega)) fun cw dB z ai=>?_
 have aj:=ub ai af
 have ak:=aK y ai
 refine bi ⟨(ae aj rfl),(uc ak ad)⟩ fun an=>Rt 9 an<|Rt 10 an<|?_
 have ao:=aK aa ak
 have ap:=ub ao d
 refine R0 11 rfl<|rL (hz:=(by rw[z.size];exact bv)) (hv:=z.size) (h1:=z.one) ap (cw) fun dC cx L=>?_
 have aq:=ud a (uz ao L) h
 refine bi ⟨(ae (bf L (Ne.symm (nb (ag d) J.size a7)) aj) rfl),(cB (aW.old hsl aq) ac 0 (by omega))⟩ fun cy=>Rt 12 cy<|re<|tn<|rt<|ke 22 z.size cx (vI (((aL bt dir (b.getD 0 0) (b.drop 1))).2))<|?_
 exact dQ (by unfold db;(try simp only[e,f,g,i,bC,hkf,iK,reduceIte])<;>rfl) ⟨_,rfl,(aH.lo (aH.upd z L (am (b6 ap (by decide)) aP)) (le (le (le (le a.size J.size) a8.size) a9.size) y.size)),aq⟩
 have ar:=fu (x:=(b.getD 0 0)) (w:=t)
 rw[hkf] at ar
 refine aG<|m1 ar fun dD M=>Pl 3<|aO #[.nilFunc,.nilFunc] fun cz dE au cA av=>aN cA #[.func (.func 98) #[] #[],.func (.func 99) #[] #[]] fun dF cC aw=>al 1<|sq<|aB 2<|c0<|bM<|sq<|?_
 have ax:=aK M (ud av aw au)
 have ay:=aW.old s ax
 refine kf (aW.at_ ay 0 (by omega)) fun cD cE az aC dG=>Rg 13 (fun w'=>w'.cell? ⟨cz,0,none⟩=some (.func (.func 98) #[] #[])∧w'.cell? ⟨cD,cE+0,none⟩=some (vB (b.getD 0 0))) fun dH B=>?_
 have aD:=ub B cC
 refine bi ⟨(ae aD rfl),(uc B aC)⟩ fun l=>Rt 0 l<|Rl 1 l (fun _ hs=>hs.1)<|Rt 2 l<|Rt 3 l<|yJ 4 l b.length 0 0 rfl az (by omega)<|Rl 5 l (fun _ hs=>hs.2)<|Rt 6 l<|xc (gc (P:=Tryz.prog) 27 5 1 Tryz.underlying27 rfl rfl A b.length cp 1 (by omega)) fun aE hrun188 cF=>Rr 7 l (.slice aE (b.length-1) (cp-1)) (fun _ _=>fW (kl:=.i64) (k:=((1:Nat) : Int)) (A:=A) (n:=b.length) (c:=cp) rfl Tryz.underlying27 (by kernel_rfl) (by kernel_rfl) (hrun188 _ _))<|?_
 refine R0 8 rfl<|gk #[] #[] (args:=#[vI dir,vB (b.getD 0 0),.slice aE (b.length-1) (cp-1)])<|e2 (mj (dir:=dir) (c:=(b.getD 0 0)) (b8 (by omega)) (cF _ _ _ _ _ (aW.old ay B)) (by(try simp only[List.length_drop]);omega)) fun cG dI C aF=>?_
 have aJ:=ub aF aD
 have aM:=aK B aF
 refine bi ⟨(ae aJ rfl),(uc aM aC)⟩ fun aQ=>Rt 9 aQ<|Rt 10 aQ<|?_
 have aT:=aK ax aM
 have aU:=ub aT d
 refine R0 11 rfl<|rL (hz:=(by rw[C.size];exact bv)) (hv:=C.size) (h1:=C.one) aU (cG) fun dJ cH N=>?_
 have aV:=ud a (uz aT N) h
 refine bi ⟨(ae (bf N (Ne.symm (nb (ag d) M.size au)) aJ) rfl),(cB (aW.old hsl aV) az 0 (by omega))⟩ fun cI=>Rt 12 cI<|re<|tn<|rt<|ke 22 C.size cH (vI (((aL ci dir (b.getD 0 0) (b.drop 1))).2))<|?_
 exact dQ (by unfold db;(try simp only[e,f,g,i,bC,hkf,iK,reduceIte])<;>rfl) ⟨_,rfl,(aH.lo (aH.upd C N (am (b6 aU (by decide)) aP)) (le (le (le (le a.size M.size) av.size) aw.size) B.size)),aV⟩
 have aX:=fu (x:=(b.getD 0 0)) (w:=t)
 rw[hkf] at aX
 refine aG<|m1 aX fun dK O=>Pl 3<|aO #[.nilFunc,.nilFunc] fun cJ dL aY cK aZ=>aN cK #[.func (.func 100) #[] #[],.func (.func 101) #[] #[]] fun dM cL b0=>al 1<|sq<|aB 2<|c0<|bM<|sq<|?_
 have b1:=aK O (ud aZ b0 aY)
 have b2:=aW.old s b1
 refine kf (aW.at_ b2 0 (by omega)) fun cM cN b3 b4 dN=>Rg 13 (fun w'=>w'.cell? ⟨cJ,0,none⟩=some (.func (.func 100) #[] #[])∧w'.cell? ⟨cM,cN+0,none⟩=some (vB (b.getD 0 0))) fun dO D=>?_
 have b5:=ub D cL
 refine bi ⟨(ae b5 rfl),(uc D b4)⟩ fun o=>Rt 0 o<|Rl 1 o (fun _ hs=>hs.1)<|Rt 2 o<|Rt 3 o<|yJ 4 o b.length 0 0 rfl b3 (by omega)<|Rl 5 o (fun _ hs=>hs.2)<|Rt 6 o<|xc (gc (P:=Tryz.prog) 27 5 1 Tryz.underlying27 rfl rfl A b.length cp 1 (by omega)) fun b7 hrun268 cO=>Rr 7 o (.slice b7 (b.length-1) (cp-1)) (fun _ _=>fW (kl:=.i64) (k:=((1:Nat) : Int)) (A:=A) (n:=b.length) (c:=cp) rfl Tryz.underlying27 (by kernel_rfl) (by kernel_rfl) (hrun268 _ _))<|?_
 refine R0 8 rfl<|gk #[] #[] (args:=#[vI dir,vB (b.getD 0 0),.slice b7 (b.length-1) (cp-1)])<|e2 (mz (dir:=dir) (c:=(b.getD 0 0)) (b8 (by omega)) (cO _ _ _ _ _ (aW.old b2 D)) (by(try simp only[List.length_drop]);omega)) fun cP dP E b9=>?_
 have ba:=ub b9 b5
 have bb:=aK D b9
 refine bi ⟨(ae ba rfl),(uc bb b4)⟩ fun bc=>Rt 9 bc<|Rt 10 bc<|?_
 have bd:=aK b1 bb
 have be:=ub bd d
 refine R0 11 rfl<|rL (hz:=(by rw[E.size];exact bv)) (hv:=E.size) (h1:=E.one) be (cP) fun dR cQ Q=>?_
 have bg:=ud a (uz bd Q) h
 refine bi ⟨(ae (bf Q (Ne.symm (nb (ag d) O.size aY)) ba) rfl),(cB (aW.old hsl bg) b3 0 (by omega))⟩ fun cR=>Rt 12 cR<|re<|tn<|rt<|ke 22 E.size cQ (vI (((aL bE dir (b.getD 0 0) (b.drop 1))).2))<|?_
 exact dQ (by unfold db;(try simp only[e,f,g,i,bC,hkf,iK,reduceIte])<;>rfl) ⟨_,rfl,(aH.lo (aH.upd E Q (am (b6 be (by decide)) aP)) (le (le (le (le a.size O.size) aZ.size) b0.size) D.size)),bg⟩
 have bh:=fu (x:=(b.getD 0 0)) (w:=t)
 rw[hkf] at bh
 refine aG<|m1 bh fun dS R=>Pl 3<|aO #[.nilFunc,.nilFunc] fun cS dT bj cT bl=>aN cT #[.func (.func 102) #[] #[],.func (.func 103) #[] #[]] fun dU cU bm=>al 1<|sq<|aB 2<|c0<|bM<|sq<|?_
 have bo:=aK R (ud bl bm bj)
 have bp:=aW.old s bo
 refine kf (aW.at_ bp 0 (by omega)) fun cV cW bq bs dV=>Rg 13 (fun w'=>w'.cell? ⟨cS,0,none⟩=some (.func (.func 102) #[] #[])∧w'.cell? ⟨cV,cW+0,none⟩=some (vB (b.getD 0 0))) fun dW F=>?_
 have bu:=ub F cU
 refine bi ⟨(ae bu rfl),(uc F bs)⟩ fun q=>Rt 0 q<|Rl 1 q (fun _ hs=>hs.1)<|Rt 2 q<|Rt 3 q<|yJ 4 q b.length 0 0 rfl bq (by omega)<|Rl 5 q (fun _ hs=>hs.2)<|Rt 6 q<|xc (gc (P:=Tryz.prog) 27 5 1 Tryz.underlying27 rfl rfl A b.length cp 1 (by omega)) fun bw hrun348 cX=>Rr 7 q (.slice bw (b.length-1) (cp-1)) (fun _ _=>fW (kl:=.i64) (k:=((1:Nat) : Int)) (A:=A) (n:=b.length) (c:=cp) rfl Tryz.underlying27 (by kernel_rfl) (by kernel_rfl) (hrun348 _ _))<|?_
 refine R0 8 rfl<|gk #[] #[] (args:=#[vI dir,vB (b.getD 0 0),.slice bw (b.length-1) (cp-1)])<|e2 (lm (dir:=dir) (c:=(b.getD 0 0)) (b8 (by omega)) (cX _ _ _ _ _ (aW.old bp F)) (by(try simp only[List.length_drop]);omega)) fun cY dX G bx=>?_
 have bz:=ub bx bu
 have bA:=aK F bx
 refine bi ⟨(ae bz rfl),(uc bA bs)⟩ fun bB=>Rt 9 bB<|Rt 10 bB<|?_
 have bD:=aK bo bA
 have bF:=ub bD d
 refine R0 11 rfl<|rL (hz:=(by rw[G.size];exact bv)) (hv:=G.size) (h1:=G.one) bF (cY) fun dY cZ S=>?_
 have bH:=ud a (uz bD S) h
 refine bi ⟨(ae (bf S (Ne.symm (nb (ag d) R.size bj)) bz) rfl),(cB (aW.old hsl bH) bq 0 (by omega))⟩ fun d0=>Rt 12 d0<|re<|tn<|rt<|ke 22 G.size cZ (vI (((aL bG dir (b.getD 0 0) (b.drop 1))).2))<|?_
 exact dQ (by unfold db;(try simp only[e,f,g,i,bC,hkf,iK,reduceIte])<;>rfl) ⟨_,rfl,(aH.lo (aH.upd G S (am (b6 bF (by decide)) aP)) (le (le (le (le a.size R.size) bl.size) bm.size) F.size)),bH⟩
 have bI:=fu (x:=(b.getD 0 0)) (w:=t)
 rw[hkf] at bI
 refine aG<|m1 bI fun dZ T=>Pl 3<|aO #[.nilFunc,.nilFunc] fun d1 e0 bJ d2 bK=>aN d2 #[.func (.func 104) #[] #[],.func (.func 105) #[] #[]] fun e1 d3 bL=>al 1<|sq<|aB 2<|c0<|bM<|sq<|?_
 have bN:=aK T (ud bK bL bJ)
 have bO:=aW.old s bN
 refine kf (aW.at_ bO 0 (by omega)) fun d4 d5 bP bR e3=>Rg 13 (fun w'=>w'.cell? ⟨d1,0,none⟩=some (.func (.func 104) #[] #[])∧w'.cell? ⟨d4,d5+0,none⟩=some (vB (b.getD 0 0))) fun e4 H=>?_
 have bS:=ub H d3
 refine bi ⟨(ae bS rfl),(uc H bR)⟩ fun r=>Rt 0 r<|Rl 1 r (fun _ hs=>hs.1)<|Rt 2 r<|Rt 3 r<|yJ 4 r b.length 0 0 rfl bP (by omega)<|Rl 5 r (fun _ hs=>hs.2)<|Rt 6 r<|xc (gc (P:=Tryz.prog) 27 5 1 Tryz.underlying27 rfl rfl A b.length cp 1 (by omega)) fun bT hrun428 d6=>Rr 7 r (.slice bT (b.length-1) (cp-1)) (fun _ _=>fW (kl:=.i64) (k:=((1:Nat) : Int)) (A:=A) (n:=b.length) (c:=cp) rfl Tryz.underlying27 (by kernel_rfl) (by kernel_rfl) (hrun428 _ _))<|?_
 refine R0 8 rfl<|gk #[] #[] (args:=#[vI dir,vB (b.getD 0 0),.slice bT (b.length-1) (cp-1)])<|e2 (nQ (dir:=dir) (c:=(b.getD 0 0)) (b8 (by omega)) (d6 _ _ _ _ _ (aW.old bO H)) (by(try simp only[List.length_drop]);omega)) fun d7 e5 I bU=>?_
 have bV:=ub bU bS
 have bX:=aK H bU
 refine bi ⟨(ae bV rfl),(uc bX bR)⟩ fun bY=>Rt 9 bY<|Rt 10 bY<|?_
 have bZ:=aK bN bX
 have c2:=ub bZ d
 refine R0 11 rfl<|rL (hz:=(by rw[I.size];exact bv)) (hv:=I.size) (h1:=I.one) c2 (d7) fun e6 d8 U=>?_
 have c3:=ud a (uz bZ U) h
 refine bi ⟨(ae (bf U (Ne.symm (nb (ag d) T.size bJ)) bV) rfl),(cB (aW.old hsl c3) bP 0 (by omega))⟩ fun d9=>Rt 12 d9<|re<|tn<|rt<|ke 22 I.size d8 (vI (((aL cn dir (b.getD 0 0) (b.drop 1))).2))<|?_
 exact dQ (by unfold db;(try simp only[e,f,g,i,bC,hkf,iK,reduceIte])<;>rfl) ⟨_,rfl,(aH.lo (aH.upd I U (am (b6 c2 (by decide)) aP)) (le (le (le (le a.size T.size) bK.size) bL.size) H.size)),c3⟩
 have c4:=fu (x:=(b.getD 0 0)) (w:=t)
 rw[hkf] at c4
 refine aG<|m1 c4 fun e7 da=>Pl 3<|aO #[.nilFunc,.nilFunc] fun e8 e9 dc dd de=>aN dd #[.nilFunc,.nilFunc] fun ea eb df=>al 1<|sq<|aB 2<|c1<|aA 1<|?_
 have c5:=aK da (ud de df dc)
 refine aN (ub c5 d) mZ fun ec dg dh=>al 1<|bQ<|eA dg (vI 4)<|?_
 exact dQ (by unfold db;(try simp only[e,f,g,i,bC,hkf,iK,reduceIte])<;>rfl) (cl (ud a (uz c5 dh) h))
theorem kS{m:Md}{v:Value}{b:List Int}{w:World}{dir:Int}(h:aW m w v b)(hb:b.length≤1048576) : Calls Tryz.prog 83 #[.int .i64 dir,v] w (ef (db dir b) w):=by
  obtain⟨A,cp,rfl,_,_⟩:=h.shape
  exact sS h hb
end Go.Proofs.YtdkhbcefkfgbdaaGreat
namespace Go.Proofs.YtdkhbcefkfgbdaaGreat
def N1 (C:aF) : Prop:=C.e≠1
theorem N1.need{C:aF}{b:Bool}{x:Int}(hx:x≠1)(h:N1 C) : N1 (C.need b x):=by
  unfold N1 aF.need at *
  split
  · exact hx
  · exact h
theorem N1.bytesC{C:aF}{n:Int}(h:N1 C) : N1 (C.bytesC n):=by
  unfold aF.bytesC
  split
  · exact N1.need (by decide) h
  · exact h
theorem N1.wordsC{C:aF}{n:Int}(h:N1 C) : N1 (C.wordsC n):=by
  unfold aF.wordsC
  split<;>exact N1.bytesC h
theorem N1.recs{one:Int→aF→Int × aF × et}(ho:∀ s C,N1 C→N1 (one s C).2.1) : ∀ (n:Nat)(s:Int)(C:aF)(L:List et),N1 C→N1 (bB one n s C L).1
  | 0,_,_,_,h=>h
  | n+1,s,C,L,h=>by
    unfold bB
    split
    · split
      · exact ho s C h
      · exact N1.recs ho n _ _ _ (ho s C h)
    · exact h
theorem N1.objs:∀ (n:Nat)(C:aF)(L:List Obj),N1 C→N1 (gB n C L).1
  | 0,_,_,h=>h
  | n+1,C,L,h=>N1.objs n _ _ (N1.bytesC (N1.bytesC (N1.bytesC h)))
theorem vm{x:Int}(h:x≠1) : ei x≠1:=by
  unfold ei
  split
  · decide
  · exact h
def uS (c:Int)(r:aF × b7) : Prop:=N1 r.1∧r.2.code=c∧r.2.fail=0
theorem tg{dir c:Int}{C:aF}{r:aF × b7}(hC:N1 C)(h:bt dir c C=some r) : uS c r:=by
  unfold bt at h
  repeat' split at h
  all_goals first | cases h | skip
  all_goals refine⟨?_,rfl,rfl⟩
  all_goals simp only[fO,iy,fE,pf,d7,mD,pZ,iZ,DD,qC]
  all_goals repeat' first | with_reducible exact hC | with_reducible apply N1.bytesC | with_reducible apply N1.wordsC | (with_reducible refine N1.need (by decide) ?_)
theorem vj{dir c:Int}{C:aF}{r:aF × b7}(hC:N1 C)(h:ci dir c C=some r) : uS c r:=by
  unfold ci at h
  repeat' split at h
  all_goals first | cases h | skip
  all_goals refine⟨?_,rfl,rfl⟩
  all_goals simp only[d6,dT,i4,fI,eX,fY,fV,zr,jD,iM,bI,ms,cK,gz,uh,BD,uJ]
  all_goals repeat' first | with_reducible exact hC | with_reducible apply N1.bytesC | with_reducible apply N1.wordsC | (with_reducible refine N1.need (by decide) ?_)
theorem vS{dir c:Int}{C:aF}{r:aF × b7}(hC:N1 C)(h:bE dir c C=some r) : uS c r:=by
  unfold bE eH cC at h
  repeat' split at h
  all_goals first | cases h | skip
  all_goals refine⟨?_,rfl,rfl⟩
  all_goals simp only[i5,o8,gq,iJ,dN]
  all_goals repeat' first | with_reducible exact hC | with_reducible apply N1.bytesC | with_reducible apply N1.wordsC | (with_reducible refine N1.need (by decide) ?_)
theorem yu{dir c:Int}{C:aF}{r:aF × b7}(hC:N1 C)(h:cn dir c C=some r) : uS c r:=by
  unfold cn at h
  repeat' split at h
  all_goals first | cases h | skip
  all_goals refine⟨?_,rfl,rfl⟩
  all_goals simp only[ex,jM,ec,du,nE,rj,qW,Br]
  all_goals repeat' first | with_reducible exact hC | with_reducible apply N1.bytesC | with_reducible apply N1.wordsC | with_reducible apply N1.objs | (with_reducible refine N1.need (by decide) ?_)
theorem AD(s:Int)(C:aF)(h:N1 C) : N1 (fl s C).2.1:=by
  simp only[fl,fM,ig,rE,pB,rM]
  repeat' first | with_reducible exact h | with_reducible apply N1.bytesC | with_reducible apply N1.wordsC | (with_reducible refine N1.need (by decide) ?_)
theorem xU(s:Int)(C:aF)(h:N1 C) : N1 (dp s C).2.1:=by
  simp only[dp,iU,lz,gy]
  repeat' first | with_reducible exact h | with_reducible apply N1.bytesC | with_reducible apply N1.wordsC | (with_reducible refine N1.need (by decide) ?_)
theorem zy(s:Int)(C:aF)(h:N1 C) : N1 (fy s C).2.1:=by
  simp only[fy,mn,sl,ig,rE,pB,rM]
  repeat' first | with_reducible exact h | with_reducible apply N1.bytesC | with_reducible apply N1.wordsC | (with_reducible refine N1.need (by decide) ?_)
theorem l6{one:Int→aF→Int × aF × et}(ho:∀ s C,N1 C→N1 (one s C).2.1)(may:Int→Bool)(c:Int){C:aF}(hC:N1 C) : N1 (eb one may c C).1:=by
  unfold eb ul
  refine N1.need (vm (N1.recs ho _ _ _ _ ?_)) (N1.bytesC (N1.need (by decide) (N1.bytesC hC)))
  show(0:Int)≠1
  decide
theorem t7{dir c:Int}{C:aF}{r:aF × b7}(hC:N1 C)(h:bG dir c C=some r) : uS c r:=by
  unfold bG at h
  repeat' split at h
  all_goals first | cases h | skip
  · exact⟨l6 AD _ _ hC,rfl,rfl⟩
  · exact⟨l6 xU _ _ hC,rfl,rfl⟩
  · exact⟨l6 zy _ _ hC,rfl,rfl⟩
theorem N1.endC{C:aF}(h:N1 C) : N1 C.endC:=by
  unfold aF.endC
  exact N1.need (by decide) h
theorem fT{form:Int→Int→aF→Option (aF × b7)}(hg:∀ {dir c:Int}{C:aF}{r:aF × b7},N1 C→form dir c C=some r→uS c r){dir c:Int}{b:List Int}(hd:dir=0∨dir=1){M:b7}{E:Int}(h:aL form dir c b=(M,E)) :
    E≠1∧(E=0→M.code=c∧M.fail=0):=by
  unfold aL at h
  rw[if_pos hd] at h
  have h0:N1 ⟨b,false,0⟩:=by show(0:Int)≠1;decide
  split at h
  · injection h with h1 h2
    subst h1 h2
    exact⟨by decide,fun h=>by cases h⟩
  · rename_i r hr
    obtain⟨g1,g2,g3⟩:=hg h0 hr
    unfold cL at h
    split at h
    · injection h with h1 h2
      subst h1 h2
      exact⟨by decide,fun _=>⟨g2,g3⟩⟩
    · rename_i hne
      injection h with h1 h2
      subst h1 h2
      exact⟨N1.endC g1,fun h=>absurd h hne⟩
end Go.Proofs.YtdkhbcefkfgbdaaGreat
namespace Go.Proofs.YtdkhbcefkfgbdaaGreat
theorem zm:∀ n:Nat,n<256→(dU (n:Int)=vu (n:Int))∧(vu (n:Int)=false→kF (n:Int)=0)∧(128≤n→vu (n:Int)=false):=by decide +kernel
theorem vg{x:Int}(h:0≤x∧x<256) : dU x=vu x∧(vu x=false→kF x=0)∧(128≤x→vu x=false):=by
  obtain⟨n,rfl⟩:=Int.eq_ofNat_of_zero_le h.1
  obtain⟨a,b,c⟩:=zm n (by omega)
  exact⟨a,b,fun h=>c (by omega)⟩
theorem v7{dir:Int}{b:List Int}(hd:dir=0∨dir=1){k:Nat}{M:b7}{E:Int}(h:iK k dir b=(M,E)) : E≠1∧(E=0→M.code=b.getD 0 0∧M.fail=0):=by
  unfold iK at h
  split at h
  · exact fT (fun hC h=>tg hC h) hd h
  · exact fT (fun hC h=>vj hC h) hd h
  · exact fT (fun hC h=>vS hC h) hd h
  · exact fT (fun hC h=>t7 hC h) hd h
  · exact fT (fun hC h=>yu hC h) hd h
  · injection h with h1 h2
    subst h1 h2
    exact⟨by decide,fun h=>by cases h⟩
theorem AL{b:List Int}{M:b7}(h:iO b=(M,0)) : M=iB ((b.getD 0 0-128)%256) (b.getD 1 0)∧128≤b.getD 0 0∧dU ((b.getD 0 0-128)%256)=true∧dL (b.getD 1 0)=true∧b.length=2:=by
  unfold iO at h
  split at h
  · cases h
  split at h
  · cases h
  split at h
  · cases h
  split at h
  · cases h
  split at h
  · cases h
  split at h
  · cases h
  injection h with h1 h2
  simp only[decide_eq_true_eq,Bool.not_eq_true',Bool.not_eq_true,beq_iff_eq,Bool.not_eq_false'] at *
  refine⟨h1.symm,by omega,by simp_all,by simp_all,by omega⟩
end Go.Proofs.YtdkhbcefkfgbdaaGreat
namespace Go.Proofs.YtdkhbcefkfgbdaaGreat
theorem eP{parse:Int→Int→List Int→b7 × Int}{lay:Int→b7→List Int}{dir:Int}{M:b7}{l:List Int}(h:cj parse lay dir M=some l) : parse dir M.code l=(M,0)∧l=lay dir M:=by
  unfold cj at h
  split at h
  · rename_i hh
    injection h with h
    subst h
    exact⟨hh,rfl⟩
  · cases h
theorem nY{k:Nat}{dir:Int}{M:b7}{l:List Int}(h:gO k dir M=some l) : k≠0∧iK k dir ([M.code]++l)=(M,0):=by
  unfold gO at h
  split at h
  · exact⟨by decide,(eP h).1⟩
  · exact⟨by decide,(eP h).1⟩
  · exact⟨by decide,(eP h).1⟩
  · exact⟨by decide,(eP h).1⟩
  · exact⟨by decide,(eP h).1⟩
  · cases h
theorem uX{M:b7}{l:List Int}(h:nu M=some l) : dU M.code=true∧dL M.fail=true∧M=iB M.code M.fail∧l=[(M.code+128)%256,M.fail]:=by
  unfold nu at h
  split at h
  · cases h
  split at h
  · cases h
  rename_i h1 h2
  injection h with h
  subst h
  have h3:gw M.code M.fail=true:=by
    cases hp:gw M.code M.fail
    · rw[hp] at h1;exact absurd rfl h1
    · rfl
  have h4:M=iB M.code M.fail:=by
    by_cases hm:M=iB M.code M.fail
    · exact hm
    · rw[decide_eq_false hm] at h2;exact absurd rfl h2
  unfold gw at h3
  obtain⟨h5,h6⟩:=eQ h3
  exact⟨(eQ h5).2,h6,h4,rfl⟩
theorem kO{dir:Int}{M:b7}{l:List Int}(hc:0≤M.code∧M.code<256)(h:dc dir M=some l) :
    (M.fail≠0∧dir=1∧dU M.code=true∧dL M.fail=true∧M=iB M.code M.fail∧l=[M.code+128,M.fail]∧M.code<128) ∨
    (M.fail=0∧kF M.code≠0∧M.code<128∧∃ l',gO (kF M.code) dir M=some l'∧l'.length<253∧l=[M.code]++l'):=by
  obtain⟨t1,t2,t3⟩:=vg hc
  unfold dc at h
  split at h
  · rename_i hf
    split at h
    · cases h
    · rename_i hd
      obtain⟨h1,h2,h3,h4⟩:=uX h
      have h5:M.code<128:=by
        by_cases h6:128≤M.code
        · have:=t3 h6
          rw[← t1,h1] at this
          cases this
        · omega
      refine .inl ⟨by simpa using hf,by simpa using hd,h1,h2,h3,?_,h5⟩
      rw[h4]
      congr 1
      omega
  · rename_i hf
    split at h
    · cases h
    · rename_i l' hl
      split at h
      · cases h
      · rename_i hn
        injection h with h
        have hk:=(nY hl).1
        have h5:M.code<128:=by
          by_cases h6:128≤M.code
          · exact absurd (t2 (t3 h6)) hk
          · omega
        simp only[decide_eq_true_eq] at hn
        exact .inr ⟨by simpa using hf,hk,h5,l',hl,by omega,h.symm⟩
theorem s4{dir:Int}{M:b7}{l:List Int}(hd:dir=0∨dir=1)(hc:0≤M.code∧M.code<256)(hf:0≤M.fail∧M.fail<256)(h:dc dir M=some l) : db dir l=(M,0):=by
  have hdd:(dir != 0&&dir != 1)=false:=by rcases hd with rfl | rfl<;>rfl
  rcases kO hc h with⟨h1,rfl,h2,h3,h4,rfl,h5⟩|⟨h1,h2,h3,l',h4,h5,rfl⟩
  · have ha:decide (128≤M.code+128)=true:=by simp;omega
    have hb:(M.code+128-128)%256=M.code:=by omega
    have rE:decide (M.code+128<128)=false:=by simp;omega
    unfold db
    simp only[List.length_cons,List.length_nil,List.getD_cons_zero,ha]
    show iO [M.code+128,M.fail]=(M,0)
    unfold iO
    simp only[List.length_cons,List.length_nil,List.getD_cons_zero,List.getD_cons_succ,hb,rE,h2,h3]
    show(iB M.code M.fail,(0:Int))=(M,0)
    rw[← h4]
  · have ha:(decide (128≤M.code)&&dir==1)=false:=by
      have:decide (128≤M.code)=false:=by simp;omega
      rw[this];rfl
    have hl0:(((([M.code]++l').length:Nat) : Int)==0)=false:=by
      simp only[List.length_append,List.length_cons,List.length_nil,beq_eq_false_iff_ne,ne_eq];omega
    have hl1:decide (253<((([M.code]++l').length:Nat) : Int))=false:=by
      simp only[List.length_append,List.length_cons,List.length_nil,decide_eq_false_iff_not];omega
    have hg:([M.code]++l').getD 0 0=M.code:=rfl
    unfold db
    rw[hdd,hl0,hl1,hg,ha]
    exact(nY h4).2
theorem fH{dir:Int}{M:b7}{l:List Int}(hc:0≤M.code∧M.code<256)(h:dc dir M=some l) : 0<l.length:=by
  rcases kO hc h with⟨_,_,_,_,_,rfl,_⟩|⟨_,_,_,l',_,_,rfl⟩<;>simp
theorem zc{dir:Int}{M:b7}{l:List Int}(hc:0≤M.code∧M.code<256)(h:dc dir M=some l)(hf:(M.fail != 0)=false) : l.getD 0 0=M.code:=by
  rcases kO hc h with⟨h1,_⟩|⟨_,_,_,l',_,_,rfl⟩
  · simp at hf;omega
  · rfl
open Go.RowKit
theorem wj{w w':World}(h:ay [] w w') : Below w.heap.size w w':=⟨h.os,h.tape,h.output,h.size,fun k hk=>h.block k hk (by simp)⟩
theorem wi{n:Int}(h:(Lit.int .u8 n).wf=true) : 0≤n∧n<256:=by
  have:=bounds_u8 h
  omega
open Go.RowKit
structure SL where
  aw:Option Addr
  kw:Nat
  ab:Option Addr
  kb:Nat
  ad:Option Addr
  kd:Nat
  ar:Option Addr
  kr:Nat
  ao:Option Addr
  ko:Nat
def jq (M:b7)(x:SL) : Array Value:=mG M.code M.fail M.addr M.count M.value M.and_ M.or_ M.addr2 M.sub M.status M.events M.messages (.slice x.aw M.words.length x.kw) (.slice x.ab M.bits.length x.kb) (.slice x.ad M.data.length x.kd) (.slice x.ar M.recs.length x.kr) M.mei M.kind M.level M.more M.next (.slice x.ao M.objects.length x.ko)
theorem p5{m:Md}{w:World}{cs:Array Value}{M:b7}(h:aH m w cs.toList M) : ∃ x,cs=jq M x:=by
  obtain⟨vw,vb,vd,vr,vo,h0,hw,hb,hd,hr,ho,hR⟩:=h
  obtain⟨aw,kw,rfl,_,_⟩:=hw.shape
  obtain⟨ab,kb,rfl,_,_⟩:=hb.shape
  obtain⟨ad,kd,rfl,_,_⟩:=hd.shape
  obtain⟨ar,kr,rfl,_,_⟩:=hr.shape
  obtain⟨ao,ko,rfl,_,_⟩:=ho.shape
  refine⟨⟨aw,kw,ab,kb,ad,kd,ar,kr,ao,ko⟩,?_⟩
  apply Array.toList_inj.1
  rw[h0]
  rfl
theorem aH.rngs{m:Md}{w:World}{cs:Array Value}{M:b7}(h:aH m w cs.toList M) : (0≤M.code∧M.code<256)∧(0≤M.fail∧M.fail<256):=by
  obtain⟨vw,vb,vd,vr,vo,h0,hw,hb,hd,hr,ho,hR⟩:=h
  exact⟨hR.code,hR.fail⟩
open Go.RowKit
structure aM where
  unit:Int
  tid:Int
  msg:b7
def aM.zero:aM:=⟨0,0,b7.zero⟩
def DB (m:Md)(w:World)(cs:Array Value)(F:aM) : Prop:=∃ c:Array Value,cs = #[.int .u8 F.unit,.int .u16 F.tid]++c∧aH m w c.toList F.msg∧B8 F.unit∧eT F.tid
def oT (res:aM × Int)(w:World)(e:Ending)(w':World) : Prop:=∃ cs,e = .returned (.tuple #[.agg cs,.int .i64 res.2])∧DB (.hi w.heap.size) w' cs res.1∧ay [] w w'
theorem eu{x y:aM × Int}(h:x=y){w:World}{e:Ending}{w':World}(k:oT y w e w') : oT x w e w':=by rw[h];exact k
def rU:Array Value:=#[.int .u8 0,.int .u16 0,.int .u8 0,.int .u8 0,.int .u16 0,.int .u16 0,.int .u16 0,.int .u16 0,.int .u16 0,.int .u16 0,.int .u16 0,.int .u16 0,.int .u16 0,.int .u16 0,.slice none 0 0,.slice none 0 0,.slice none 0 0,.slice none 0 0,.int .u8 0,.int .u8 0,.int .u8 0,.int .u8 0,.int .u8 0,.slice none 0 0]
theorem d9{x:Int}{w W:World}(hu:ay [] w W) : oT (aM.zero,x) w (.returned (.tuple #[.agg rU,.int .i64 x])) W:=⟨_,rfl,⟨xC,(by kernel_rfl),aH.zero ..,(show(0:Int)≤0∧(0:Int)<256 from by decide),(show(0:Int)≤0∧(0:Int)<65536 from by decide)⟩,hu⟩
def di (u t:Int) : b7 × Int→aM × Int
  | (M,E)=>if E != 0 then (aM.zero,E) else (⟨u,t,M⟩,0)
theorem gW{dir:Int}{M:b7}{l:List Int}(h:dc dir M=some l) : l.length≤253:=by
  unfold dc at h
  split at h
  · split at h
    · cases h
    · unfold nu at h
      split at h
      · cases h
      · split at h
        · cases h
        · injection h with h
          subst h
          simp only[List.length_cons,List.length_nil]
          omega
  · split at h
    · cases h
    · split at h
      · cases h
      · rename_i hl
        injection h with h
        subst h
        simp only[decide_eq_true_eq] at hl
        simp only[List.length_append,List.length_cons,List.length_nil]
        omega
open Go.RowKit
deriving instance DecidableEq for aM
def eo (u t:Int)(M:b7)(x:SL) : Array Value:=#[.int .u8 u,.int .u16 t,.int .u8 M.code,.int .u8 M.fail,.int .u16 M.addr,.int .u16 M.count,.int .u16 M.value,.int .u16 M.and_,.int .u16 M.or_,.int .u16 M.addr2,.int .u16 M.sub,.int .u16 M.status,.int .u16 M.events,.int .u16 M.messages,.slice x.aw M.words.length x.kw,.slice x.ab M.bits.length x.kb,.slice x.ad M.data.length x.kd,.slice x.ar M.recs.length x.kr,.int .u8 M.mei,.int .u8 M.kind,.int .u8 M.level,.int .u8 M.more,.int .u8 M.next,.slice x.ao M.objects.length x.ko]
theorem fo(u t:Int)(M:b7)(x:SL) : eo u t M x = #[.int .u8 u,.int .u16 t]++jq M x:=by kernel_rfl
end Go.Proofs.YtdkhbcefkfgbdaaGreat
