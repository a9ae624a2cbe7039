/- Contracts of functions, part CSmbapTells4. -/
import Derived.Test.YtdkhbcefkfgbdaaGreatCSmbapTells1
import Derived.Test.YtdkhbcefkfgbdaaGreatCSmbapTells2
import Derived.Test.YtdkhbcefkfgbdaaGreatCSmbapTells3
import Derived.Lib.ConvBytes
import Derived.Lib.OthersKept
import Derived.Laws.BitsAllLaws
import Derived.Shelf.Strings.Builder1
set_option linter.unusedVariables false
set_option linter.unusedSimpArgs false
set_option maxRecDepth 100000
set_option maxHeartbeats 4000000
namespace Go.Proofs.YtdkhbcefkfgbdaaGreat
open Go.RowKit
variable {A:Option Addr}{C:ag}{cp g:Nat}{full:List Int}{m:Md}{w w0:World}
theorem RC.lt(h:RC w0 m A cp full w g C) : g<w.heap.size:=by
  obtain⟨k,h1,_⟩:=h.cell
  exact ai h1
theorem RC.fld(h:RC w0 m A cp full w g C) : w.cell? ⟨g,3,none⟩=some (.int .i64 C.e):=by
  obtain⟨k,h1,_⟩:=h.cell
  rw[bP h1]
  rfl
theorem RC.safe(h:RC w0 m A cp full w g C)(D:List TypeId)(hD:194∉D) : bS true D [g] w:=by
  obtain⟨k,h1,_⟩:=h.cell
  exact bS.one h1 hD
variable {c:Int}
theorem pA(h:(((c==3)||(c==4))||(c==23))=true) : aY 1 c C=some (c5 c C):=by
  unfold aY
  by_cases h1:(c==3 || c==4)=true
  · rw[if_pos h1]
    rfl
  · rw[if_neg h1]
    have h2:c=23:=by
      simp only[Bool.or_eq_true,beq_iff_eq] at h h1
      omega
    subst h2
    rfl
variable {n:Int}
theorem nU{m:Int}:((n%2==0&&decide (0<n))&&decide (n≤m))=hH n m:=by
  unfold hH
  rw[Bool.eq_iff_iff]
  simp only[Bool.and_eq_true,decide_eq_true_eq,beq_iff_eq]
  omega
theorem nZ{a k:Int}:(a==2*k+2)=(2+2*k==a):=by
  rw[Bool.eq_iff_iff]
  simp only[beq_iff_eq]
  omega
variable {x:Int}
theorem dQ:decide (0<x)=decide (1≤x):=by
  rw[Bool.eq_iff_iff]
  simp only[decide_eq_true_eq]
  omega
theorem jd{a most:Int}(ha:0≤a∧a<65536)(hC:RC w0 m A cp full w g C) :
    Calls Tryz.prog 175 #[vP g 0,vW a,vI most] w (mT w0 m A cp full g .i64 65536 C.wordV (bB C a most) w):=by
 have hrng:=bG (RC.rng hC)
 refine en 26 Tryz.func175 rfl<|al 1<|aK 1<|aq<|m3 (c8 hC) fun q d e r=>bt C.wordV<|am 1<|al 4<|dc 4 [14] 18 14 (decide (0<C.wordV)) (decide (C.wordV≤most)) (fun K f h=>?_) ?_
 have s:=of_decide_eq_true h
 exact Pl 4<|ce f _ rfl
 refine aq<|m2 (aP (((decide (0<C.wordV))&&(decide (C.wordV≤most)))) 5 d) fun i j k=>?_
 refine eI j fun x19 l c=>?_
 refine aK 3<|aq<|m1 (nX (a:=a) (n:=C.wordV) (w:=i) (by omega) (by omega)) fun t b=>?_
 refine aq<|m2 (aP ((cK a C.wordV)) 7 (RC.upd c b ax (aC.step (RC.u c) b))) fun v o p=>cJ 2<|rt<|rr (vI C.wordV)<|?_
 subst l
 have e1:bB C a most=((C.wordsC 1).need (decide (0<C.wordV)&&decide (C.wordV≤most)) 5).need (cK a C.wordV) 7:=by unfold bB;rw[← dQ]
 rw[e1]
 exact⟨rfl,o,(u1 e (u1 k (uz b p) im) im),hrng⟩
variable {v:Value}
theorem aG.upd0{α:Type}  {e:TypeId}{sz:Nat}{R R':World→α→List Value→Prop}   {xs:List α}(h:aG m e sz R w v xs)(hR:∀ x cs,R w x cs→R' w x cs) : aG m e sz R' w v xs:=by
  obtain⟨A,c,rfl,h1,h2,h0,h3⟩:=h
  refine⟨A,c,rfl,h1,h2,h0,fun hp=>?_⟩
  obtain⟨b,off,cells,t,fr,rfl,hb,ht,hx⟩:=h3 hp
  exact⟨b,off,cells,t,fr,rfl,hb,ht,fun j x hj=>by obtain⟨cs,hl,hr,hc⟩:=hx j x hj;exact⟨cs,hl,hR _ _ hr,hc⟩⟩
def lX (v0:Value)(b:List Int)(w:World)(o:Obj)(cs:List Value) : Prop:=∃ A n c,cs=[.int .u8 o.id,.slice A n c]∧(∀ m' w',aV m' w' v0 b→aV m' w' (.slice A n c) o.value)∧B8 o.id
variable {b:List Int}{v0:Value}
theorem lX.ones(x:Obj)(cs:List Value)(h:lX v0 b w x cs) : ∀ v,v∈cs→v.oneCell'=true:=by
  obtain⟨A,n,c,rfl,h2,_⟩:=h
  intro u hu
  simp at hu
  rcases hu with rfl|rfl<;>rfl
def bA (v0:Value)(b:List Int)(w:World)(cs:List Value)(M:b6) : Prop :=
  ∃ vw vb vd vr vo,cs=eW M vw vb vd vr vo∧ej true w vw M.words∧ig true w vb M.bits∧(∀ m' w',aV m' w' v0 b→aV m' w' vd M.data)∧o2 true w vr M.recs∧aG true 100 2 (lX v0 b) w vo M.objects∧gT M
variable {M:b6}{cs:List Value}
theorem bA.rd(h:bA v0 b w cs M)(hb:aV m w v0 b) : aU false w cs M:=by
  obtain⟨vw,vb,vd,vr,vo,h0,h1,h2,h3,h4,h5,h6⟩:=h
  exact⟨vw,vb,vd,vr,vo,h0,aG.any h1 fun _ _ q=>q,aG.any h2 fun _ _ q=>q,aG.any (h3 _ _ hb) fun _ _ q=>q,aG.any h4 fun r cs ⟨v,a,b,c⟩=>⟨v,a,aG.any b fun _ _ q=>q,c⟩,aG.any h5 fun r cs ⟨A,n,k,a,b,c⟩=>⟨_,a,aG.any (b _ _ hb) fun _ _ q=>q,c⟩,h6⟩
theorem bA.rdt(h:bA v0 b w cs M)(hb:aV true w v0 b) : aU true w cs M:=by
  obtain⟨vw,vb,vd,vr,vo,h0,h1,h2,h3,h4,h5,h6⟩:=h
  exact⟨vw,vb,vd,vr,vo,h0,h1,h2,h3 _ _ hb,h4,aG.upd0 h5 fun r cs ⟨A,n,k,a,b,c⟩=>⟨_,a,b _ _ hb,c⟩,h6⟩
theorem bA.sub{v1:Value}{b1:List Int}    (h:bA v1 b1 w cs M)(hv:∀ m' w',aV m' w' v0 b→aV m' w' v1 b1) : bA v0 b w cs M:=by
  obtain⟨vw,vb,vd,vr,vo,h0,h1,h2,h3,h4,h5,h6⟩:=h
  exact⟨vw,vb,vd,vr,vo,h0,h1,h2,fun m' w' q=>h3 _ _ (hv _ _ q),h4,aG.upd0 h5 fun r cs ⟨A,n,k,a,b,c⟩=>⟨A,n,k,a,fun m' w' q=>b _ _ (hv _ _ q),c⟩,h6⟩
variable {w':World}
theorem bA.upd{S:List Nat}(h:bA v0 b w cs M)(hu:aC S w w')(hs:bS true dZ S w) : bA v0 b w' cs M:=by
  obtain⟨vw,vb,vd,vr,vo,h0,h1,h2,h3,h4,h5,h6⟩:=h
  exact⟨vw,vb,vd,vr,vo,h0,ej.upd' h1 hu (hs.sub (by decide)),ig.upd' h2 hu (hs.sub (by decide)),h3,o2.upd' h4 hu hs,aG.upd h5 hu (hs.sub (by decide)) (fun _ _ q=>q),h6⟩
theorem bA.zero(v0:Value)(b:List Int)(w:World) : bA v0 b w jw.toList b6.zero:=by
  obtain⟨vw,vb,vd,vr,vo,h0,h1,h2,h3,h4,h5,h6⟩:=aU.zero true w
  exact⟨_,_,_,_,_,rfl,aG.nil ..,aG.nil ..,(fun _ _ _=>aG.nil ..),aG.nil ..,aG.nil ..,h6⟩
theorem bA.size{cs:Array Value}  (h:bA v0 b w cs.toList M) : cs.size=22:=by
  obtain⟨vw,vb,vd,vr,vo,h0,_⟩:=h
  rw[← Array.length_toList,h0]
  rfl
theorem bA.one{w2:World}  {cs:Array Value}  (h:bA v0 b w cs.toList M)(hb:aV m w2 v0 b) : cs.all (·.oneCell')=true:=by
  obtain⟨vw,vb,vd,vr,vo,h0,h1,h2,h3,h4,h5,h6⟩:=h
  rw[← Array.all_toList,h0]
  obtain⟨_,_,rfl,_⟩:=h1
  obtain⟨_,_,rfl,_⟩:=h2
  obtain⟨_,_,rfl,_⟩:=h3 _ _ hb
  obtain⟨_,_,rfl,_⟩:=h4
  obtain⟨_,_,rfl,_⟩:=h5
  rfl
def cA (v0:Value)(b:List Int)(res:b6 × Int)(w:World)(e:Ending)(w':World) : Prop:=∃ cs,e = .returned (.tuple #[.agg cs,.int .i64 res.2])∧bA v0 b w' cs.toList res.1∧aC [] w w'
variable {W:World}
theorem cL{c:ag}  {cs:Array Value}(h0:c.endC.e=0)(h:bA v0 b W cs.toList M)(hu:aC [] w W) : cA v0 b (bj M c) w (.returned (.tuple #[.agg cs,.int .i64 0])) W:=by
  unfold bj
  rw[if_pos h0]
  exact⟨cs,rfl,h,hu⟩
theorem cn{c:ag}  (h0:¬ c.endC.e=0)(hu:aC [] w W) : cA v0 b (bj M c) w (.returned (.tuple #[.agg jw,.int .i64 c.endC.e])) W:=by
  unfold bj
  rw[if_neg h0]
  exact⟨jw,rfl,bA.zero ..,hu⟩
theorem bi(hu:aC [] w W) : cA v0 b (b6.zero,x) w (.returned (.tuple #[.agg jw,.int .i64 x])) W:=⟨jw,rfl,bA.zero ..,hu⟩
theorem jz(hcode:B8 c)(hsl:aV m w (.slice A b.length cp) b)(hb:b.length≤1048576) :
    Calls Tryz.prog 110 #[vI 0,vB c,.slice A b.length cp] w (cA (.slice A b.length cp) b (aj aY 0 c b) w):=by
 obtain⟨hcode1,hcode2⟩:=hcode
 have hln:(b.length:Int)≤1048576:=by omega
 refine en 221 Tryz.func110 rfl<|sg<|aJ mZ fun aL dO U J d=>am 1<|sq<|az 6<|c0<|bu<|al 2<|L0<|dw #[.slice A b.length cp,vI 0,.bool false,vI 0] fun q dP g r i=>Pl 1<|aK 2<|aJ mZ fun L dQ f V cr=>aB V (mC c) fun aM E W=>?_
 refine nt<|?_
 have aN:=ud cr W f
 have N:=aQ i aN
 have l:=aQ d N
 have F:RC w _ A cp b aM q (ag.mk b false 0):=⟨hsl,l,(Nat.le_trans d.size g),⟨0,(ub aN r),Nat.zero_le _,rfl⟩,by omega⟩
 refine ro (fun x=>[(6,vP aL 0),(8,vP q 0),(9,vP L 0)]) (fun(x:ag × Array Value × b6) w'=>aC [q,L] aM w'∧RC w m A cp b w' q x.1∧w'.heap[L]? = some (.cells x.2.1 45 (0,0))∧bA (.slice A b.length cp) b w' x.2.1.toList x.2.2∧(aj aY 0 c b=bj x.2.2 x.1)) ?_ ?_
 rintro⟨C,cs,M⟩ X ⟨aO,ct,cv,cw,cx⟩
 refine fs [(6,vP aL 0),(8,vP q 0),(9,vP L 0)] ?_
 have aT:RC w m A cp b X q C:=ct
 have cy:X.heap[L]? = some (.cells cs 45 (0,0)):=cv
 have Q:bA (.slice A b.length cp) b X cs.toList M:=cw
 have Y:=bA.size Q
 have aU:aj aY 0 c b=bj M C:=cx
 refine al 1<|aq<|m2 (jM aT) fun dR Z a0=>nt<|sq<|al 3<|L0<|er (p:=⟨q,3,none⟩) (v:=vI C.endC.e) (RC.fld Z)<|am 1<|?_
 have a1:=u1 aO a0 im
 have aW:=ut l a1 (ac (ni d.size g) (ac (ni (le d.size i.size) f) aA))
 refine cb ((C.endC.e != 0)) (fun a2=>?_) (fun a2=>?_)
 have a3:=ay a2
 refine sq<|Rg 7 (fun w'=>w'.cell? ⟨q,3,none⟩=some (vI C.endC.e)) fun dS R=>?_
 have aZ:=RC.upd Z R ax (aC.step (RC.u Z) R)
 refine bz (RC.fld aZ) fun O=>Rt 0 O<|Rt 1 O<|Rt 2 O<|Rt 3 O<|Rl 4 O (fun _ hs=>hs)<|?_
 refine R0 5 rfl<|iW (ub (ut N (aQ a1 R) (ac (nr g) (ac (ni i.size f) aA))) J) mZ fun dT cz b0=>?_
 have b1:=ud aW (uz R b0) U
 refine bz (RC.fld (RC.upd aZ b0 (aa (Ne.symm (nb (ai J) lr g)) ax) b1)) fun cB=>Rt 6 cB<|re<|tn<|bq<|c9 cz (vI C.endC.e)<|?_
 rw[aU]
 exact cn a3 b1
 have a3:=aI a2
 refine bu<|sg<|?_
 refine L0<|cM (hz:=(by rw[Y];exact aX)) (aS a0 (Ne.symm (nb (ai r) lr f)) cy)<|?_
 refine aB (hz:=(by rw[Y];exact aX)) (hv:=(bA.size Q)) (h1:=(bA.one Q hsl)) (ub (ut N a1 (ac (nr g) (ac (ni i.size f) aA))) J) (cs) fun dU cC b2=>am 1<|rt<|dW 22 Y cC (vI 0)<|?_
 rw[aU]
 exact cL a3 (bA.upd Q (us a0 b2) (ah (RC.safe aT _ (by decide)) (ah (aR (ub (ut N aO (ac (nr g) (ac (ni i.size f) aA))) J) (by decide)) aE))) (ud aW b2 U)
 refine bk<|az 15<|c0<|al 3<|dX 3 [68] 71 68 (c==3) (c==4) (fun K cD cH=>?_) ?_
 have dV:=au cH
 exact Pl 3<|ce cD _ rfl
 refine am 1<|cb (((c==3)||(c==4))) (fun k=>?_) (fun k=>?_)
 refine al 1<|aq<|m3 (c8 F) fun dY cI b3 dZ=>Pl 1<|?_
 have S:=nb (ai r) lr f
 refine L0<|bE (aS b3 (Ne.symm S) E) 2 (mG c 0 ((ag.mk b false 0).wordV) 0 0 0 0 0 0 0 0 0 nS nS nS nS 0 0 0 0 0 nS) fun e0 b4 b5=>nt<|go<|Pl 2<|aF b4 2<|?_
 have b7:=us b3 b5
 have b8:=ut l b7 (ac (ni d.size g) (ac (ni (le d.size i.size) f) aA))
 refine aq<|m3 (jd (a:=(ag.mk b false 0).wordV) (most:=125) (by omega) (RC.upd cI b5 (aa S ax) b8)) fun e1 cK b9 e2=>?_
 refine eI cK fun cS cT cU=>?_
 refine L0<|tR (((ag.mk b false 0).wordsC 1).wordV)<|Pl 1<|?_
 refine L0<|bE (aS b9 (Ne.symm S) b4) 3 (mG c 0 ((ag.mk b false 0).wordV) (((ag.mk b false 0).wordsC 1).wordV) 0 0 0 0 0 0 0 0 nS nS nS nS 0 0 0 0 0 nS) fun e3 cV ba=>nl<|bn<|?_
 have bb:=us b9 ba
 exact jn (cS,_,(b6.mk c 0 ((ag.mk b false 0).wordV) (((ag.mk b false 0).wordsC 1).wordV) 0 0 0 0 0 0 0 0 [] [] [] [] 0 0 0 0 0 [])) ⟨(ut b7 bb (ac im (ac im aA))),(RC.upd cU ba (aa S ax) (ut b8 bb (ac (ni d.size g) (ac (ni (le d.size i.size) f) aA)))),cV,⟨_,_,_,_,_,rfl,aG.nil ..,aG.nil ..,(fun _ _ _=>aG.nil ..),aG.nil ..,aG.nil ..,(bR (by omega))⟩,by subst cT;unfold aj aY bL c5 d9 cF ck cE cG jC;(try simp only[k,bp,cQ,cN,cR,cP,cO,reduceIte,nU,nZ])<;>rfl⟩
 have z:=(cl k).1
 have B:=(cl k).2
 have e4:=au z
 have e5:=au B
 refine az 3<|cb ((c==6)) (fun o=>?_) (fun o=>?_)
 have cW:=ap o
 refine al 1<|aq<|m3 (c8 F) fun e6 cX bc e7=>Pl 1<|?_
 have T:=nb (ai r) lr f
 refine L0<|bE (aS bc (Ne.symm T) E) 2 (mG c 0 ((ag.mk b false 0).wordV) 0 0 0 0 0 0 0 0 0 nS nS nS nS 0 0 0 0 0 nS) fun e8 cY bd=>nt<|go<|Pl 1<|?_
 have be:=us bc bd
 have bf:=ut l be (ac (ni d.size g) (ac (ni (le d.size i.size) f) aA))
 refine aq<|m3 (c8 (RC.upd cX bd (aa T ax) bf)) fun e9 d0 bg ea=>Pl 1<|?_
 refine L0<|bE (aS bg (Ne.symm T) cY) 4 (mG c 0 ((ag.mk b false 0).wordV) 0 (((ag.mk b false 0).wordsC 1).wordV) 0 0 0 0 0 0 0 nS nS nS nS 0 0 0 0 0 nS) fun eb d1 bh=>nl<|bn<|?_
 have bm:=us bg bh
 exact jn ((((ag.mk b false 0).wordsC 1).wordsC 1),_,(b6.mk c 0 ((ag.mk b false 0).wordV) 0 (((ag.mk b false 0).wordsC 1).wordV) 0 0 0 0 0 0 0 [] [] [] [] 0 0 0 0 0 [])) ⟨(ut be bm (ac im (ac im aA))),(RC.upd d0 bh (aa T ax) (ut bf bm (ac (ni d.size g) (ac (ni (le d.size i.size) f) aA)))),d1,⟨_,_,_,_,_,rfl,aG.nil ..,aG.nil ..,(fun _ _ _=>aG.nil ..),aG.nil ..,aG.nil ..,(bR (by omega))⟩,by unfold aj aY bL c5 d9 cF ck cE cG jC;(try simp only[k,z,B,o,bp,cQ,cN,cR,cP,cO,reduceIte,nU,nZ])<;>rfl⟩
 have cW:=au o
 refine az 3<|cb ((c==16)) (fun s=>?_) (fun s=>?_)
 have d2:=ap s
 refine al 1<|aq<|m3 (c8 F) fun ec d3 a4 ed=>Pl 1<|?_
 have t:=nb (ai r) lr f
 refine L0<|bE (aS a4 (Ne.symm t) E) 2 (mG c 0 ((ag.mk b false 0).wordV) 0 0 0 0 0 0 0 0 0 nS nS nS nS 0 0 0 0 0 nS) fun ee bo a5=>aK 2<|aF bo 2<|?_
 have bs:=us a4 a5
 have bv:=ut l bs (ac (ni d.size g) (ac (ni (le d.size i.size) f) aA))
 refine aq<|m3 (jd (a:=(ag.mk b false 0).wordV) (most:=123) (by omega) (RC.upd d3 a5 (aa t ax) bv)) fun ef d4 a6 eg=>?_
 refine eI d4 fun bw d5 d6=>?_
 refine L0<|tR (((ag.mk b false 0).wordsC 1).wordV)<|Pl 1<|?_
 refine L0<|bE (aS a6 (Ne.symm t) bo) 3 (mG c 0 ((ag.mk b false 0).wordV) (((ag.mk b false 0).wordsC 1).wordV) 0 0 0 0 0 0 0 0 nS nS nS nS 0 0 0 0 0 nS) fun eh d7 a7=>cJ 2<|c1<|al 1<|?_
 have bx:=us a6 a7
 have bC:=ut bv bx (ac (ni d.size g) (ac (ni (le d.size i.size) f) aA))
 refine aq<|m3 (dg (RC.upd d6 a7 (aa t ax) bC)) fun ei d8 a8 ej=>bt bw.byteV<|Pl 1<|aK 3<|?_
 have bD:=aS a8 (Ne.symm t) d7
 refine aF bD 3<|bt (((ag.mk b false 0).wordsC 1).wordV)<|bt (2*(((ag.mk b false 0).wordsC 1).wordV))<|Pl 1<|aq<|m2 (aP ((bw.byteV==(2*(((ag.mk b false 0).wordsC 1).wordV)))) 5 d8) fun ek da a9=>?_
 refine eI da fun ab db dc=>?_
 refine nt<|go<|Pl 2<|?_
 have bF:=aS a9 (Ne.symm t) bD
 refine aF bF 3<|bt (((ag.mk b false 0).wordsC 1).wordV)<|aq<|iG (eR (n:=((ag.mk b false 0).wordsC 1).wordV) (by omega) dc) fun dd de el bG em eo df bH=>Pl 1<|?_
 refine L0<|bE (aS bH (Ne.symm t) bF) 12 (mG c 0 ((ag.mk b false 0).wordV) (((ag.mk b false 0).wordsC 1).wordV) 0 0 0 0 0 0 0 0 (.slice dd ((ab.wordsR (((ag.mk b false 0).wordsC 1).wordV)).length) de) nS nS nS 0 0 0 0 0 nS) fun ep dh ad=>nl<|bn<|?_
 have bI:=ui a8 (ui a9 (us bH ad))
 exact jn ((ab.wordsC (((ag.mk b false 0).wordsC 1).wordV)),_,(b6.mk c 0 ((ag.mk b false 0).wordV) (((ag.mk b false 0).wordsC 1).wordV) 0 0 0 0 0 0 0 0 (ab.wordsR (((ag.mk b false 0).wordsC 1).wordV)) [] [] [] 0 0 0 0 0 [])) ⟨(ut bs (ut bx bI (ac im (ac im aA))) (ac im (ac im aA))),(RC.upd df ad (aa t ax) (ut bC bI (ac (ni d.size g) (ac (ni (le d.size i.size) f) aA)))),dh,⟨_,_,_,_,_,rfl,((av bG ad (fun x hx=>(aa (fun e=>(aD (ai V) (le (le (le (le (le (le W.size a4.size) a5.size) a6.size) a7.size) a8.size) a9.size) bG) (e▸hx)) ax)) (fun _ _ h=>h))).rd,aG.nil ..,(fun _ _ _=>aG.nil ..),aG.nil ..,aG.nil ..,(bR (by omega))⟩,by subst db d5;unfold aj aY bL c5 d9 cF ck cE cG jC;(try simp only[k,z,B,o,s,bp,cQ,cN,cR,cP,cO,reduceIte,nU,nZ])<;>rfl⟩
 have d2:=au s
 refine az 3<|cb ((c==22)) (fun D=>?_) (fun D=>?_)
 have di:=ap D
 refine al 1<|aq<|m3 (c8 F) fun eq dj bJ es=>Pl 1<|?_
 have G:=nb (ai r) lr f
 refine L0<|bE (aS bJ (Ne.symm G) E) 2 (mG c 0 ((ag.mk b false 0).wordV) 0 0 0 0 0 0 0 0 0 nS nS nS nS 0 0 0 0 0 nS) fun et dk bK=>aK 1<|?_
 have bM:=us bJ bK
 have bN:=ut l bM (ac (ni d.size g) (ac (ni (le d.size i.size) f) aA))
 refine aq<|m3 (c8 (RC.upd dj bK (aa G ax) bN)) fun eu dl bO ev=>Pl 1<|?_
 refine L0<|bE (aS bO (Ne.symm G) dk) 5 (mG c 0 ((ag.mk b false 0).wordV) 0 0 (((ag.mk b false 0).wordsC 1).wordV) 0 0 0 0 0 0 nS nS nS nS 0 0 0 0 0 nS) fun ew dm bP=>nt<|go<|Pl 1<|?_
 have bQ:=us bO bP
 have bS:=ut bN bQ (ac (ni d.size g) (ac (ni (le d.size i.size) f) aA))
 refine aq<|m3 (c8 (RC.upd dl bP (aa G ax) bS)) fun ex dn bT ey=>Pl 1<|?_
 refine L0<|bE (aS bT (Ne.symm G) dm) 6 (mG c 0 ((ag.mk b false 0).wordV) 0 0 (((ag.mk b false 0).wordsC 1).wordV) ((((ag.mk b false 0).wordsC 1).wordsC 1).wordV) 0 0 0 0 0 nS nS nS nS 0 0 0 0 0 nS) fun ez dp bU=>nl<|bn<|?_
 have bV:=us bT bU
 exact jn (((((ag.mk b false 0).wordsC 1).wordsC 1).wordsC 1),_,(b6.mk c 0 ((ag.mk b false 0).wordV) 0 0 (((ag.mk b false 0).wordsC 1).wordV) ((((ag.mk b false 0).wordsC 1).wordsC 1).wordV) 0 0 0 0 0 [] [] [] [] 0 0 0 0 0 [])) ⟨(ut bM (ut bQ bV (ac im (ac im aA))) (ac im (ac im aA))),(RC.upd dn bU (aa G ax) (ut bS bV (ac (ni d.size g) (ac (ni (le d.size i.size) f) aA)))),dp,⟨_,_,_,_,_,rfl,aG.nil ..,aG.nil ..,(fun _ _ _=>aG.nil ..),aG.nil ..,aG.nil ..,(bR (by omega))⟩,by unfold aj aY bL c5 d9 cF ck cE cG jC;(try simp only[k,z,B,o,s,D,bp,cQ,cN,cR,cP,cO,reduceIte,nU,nZ])<;>rfl⟩
 have di:=au D
 refine az 3<|cb ((c==23)) (fun H=>?_) (fun H=>?_)
 have dq:=ap H
 refine al 1<|aq<|m3 (c8 F) fun eA dr ae eB=>Pl 1<|?_
 have y:=nb (ai r) lr f
 refine L0<|bE (aS ae (Ne.symm y) E) 2 (mG c 0 ((ag.mk b false 0).wordV) 0 0 0 0 0 0 0 0 0 nS nS nS nS 0 0 0 0 0 nS) fun eC bW af=>aK 2<|aF bW 2<|?_
 have bX:=us ae af
 have bY:=ut l bX (ac (ni d.size g) (ac (ni (le d.size i.size) f) aA))
 refine aq<|m3 (jd (a:=(ag.mk b false 0).wordV) (most:=125) (by omega) (RC.upd dr af (aa y ax) bY)) fun eD ds ak eE=>?_
 refine eI ds fun j dt du=>?_
 refine L0<|tR (((ag.mk b false 0).wordsC 1).wordV)<|Pl 1<|?_
 refine L0<|bE (aS ak (Ne.symm y) bW) 3 (mG c 0 ((ag.mk b false 0).wordV) (((ag.mk b false 0).wordsC 1).wordV) 0 0 0 0 0 0 0 0 nS nS nS nS 0 0 0 0 0 nS) fun eF dv an=>aK 1<|?_
 have bZ:=us ak an
 have c2:=ut bY bZ (ac (ni d.size g) (ac (ni (le d.size i.size) f) aA))
 refine aq<|m3 (c8 (RC.upd du an (aa y ax) c2)) fun eG dx ao eH=>Pl 1<|?_
 refine L0<|bE (aS ao (Ne.symm y) dv) 7 (mG c 0 ((ag.mk b false 0).wordV) (((ag.mk b false 0).wordsC 1).wordV) 0 0 0 j.wordV 0 0 0 0 nS nS nS nS 0 0 0 0 0 nS) fun eJ c3 ar=>aK 2<|aF c3 7<|?_
 have c4:=us ao ar
 have c6:=ut c2 c4 (ac (ni d.size g) (ac (ni (le d.size i.size) f) aA))
 refine aq<|m3 (jd (a:=j.wordV) (most:=121) (by omega) (RC.upd dx ar (aa y ax) c6)) fun eK dy c7 eL=>Pl 1<|aK 1<|aq<|m3 (dg dy) fun eM dz ca eN=>bt ((bB (j.wordsC 1) j.wordV 121).byteV)<|Pl 1<|aK 3<|bt (2*((j.wordsC 1).wordV))<|Pl 1<|aq<|m2 (aP ((((bB (j.wordsC 1) j.wordV 121).byteV)==(2*((j.wordsC 1).wordV)))) 5 dz) fun eO dA cc=>?_
 refine eI dA fun aw dB dC=>?_
 refine nt<|go<|Pl 2<|aq<|iG (eR (n:=(j.wordsC 1).wordV) (by omega) dC) fun dD dE eP cd eQ eS dF dG=>Pl 1<|?_
 have cg:=u1 c7 (u1 ca (u1 cc dG im) im) im
 refine L0<|bE (aS cg (Ne.symm y) c3) 12 (mG c 0 ((ag.mk b false 0).wordV) (((ag.mk b false 0).wordsC 1).wordV) 0 0 0 j.wordV 0 0 0 0 (.slice dD ((aw.wordsR ((j.wordsC 1).wordV)).length) dE) nS nS nS 0 0 0 0 0 nS) fun eT dH aH=>nl<|bn<|?_
 have ch:=us cg aH
 exact jn ((aw.wordsC ((j.wordsC 1).wordV)),_,(b6.mk c 0 ((ag.mk b false 0).wordV) (((ag.mk b false 0).wordsC 1).wordV) 0 0 0 j.wordV 0 0 0 0 (aw.wordsR ((j.wordsC 1).wordV)) [] [] [] 0 0 0 0 0 [])) ⟨(ut bX (ut bZ (ut c4 ch (ac im (ac im aA))) (ac im (ac im aA))) (ac im (ac im aA))),(RC.upd dF aH (aa y ax) (ut c6 ch (ac (ni d.size g) (ac (ni (le d.size i.size) f) aA)))),dH,⟨_,_,_,_,_,rfl,((av cd aH (fun x hx=>(aa (fun e=>(aD (ai V) (le (le (le (le (le (le (le (le (le W.size ae.size) af.size) ak.size) an.size) ao.size) ar.size) c7.size) ca.size) cc.size) cd) (e▸hx)) ax)) (fun _ _ h=>h))).rd,aG.nil ..,(fun _ _ _=>aG.nil ..),aG.nil ..,aG.nil ..,(bR (by omega))⟩,by subst dB dt;unfold aj aY bL c5 d9 cF ck cE cG jC;(try simp only[k,z,B,o,s,D,H,bp,cQ,cN,cR,cP,cO,reduceIte,nU,nZ])<;>rfl⟩
 have dq:=au H
 refine al 3<|cu 3 [168] 171 ((c==24)) (fun K ci=>?_) ?_
 refine bl 168 ((c==24)) (fun P=>?_) (fun P=>?_)
 have dI:=ap P
 exact Pl 3<|ce ci true P
 have dI:=au P
 exact Pl 3<|ce ci false P
 refine am 1<|cb ((c==24)) (fun I=>?_) (fun I=>?_)
 have dJ:=ap I
 refine go<|Pl 1<|aq<|m3 (c8 F) fun eU dK cj eV=>Pl 1<|?_
 have cm:=nb (ai r) lr f
 refine L0<|bE (aS cj (Ne.symm cm) E) 2 (mG c 0 ((ag.mk b false 0).wordV) 0 0 0 0 0 0 0 0 0 nS nS nS nS 0 0 0 0 0 nS) fun eW dL co=>nl<|bn<|?_
 have cq:=us cj co
 exact jn (((ag.mk b false 0).wordsC 1),_,(b6.mk c 0 ((ag.mk b false 0).wordV) 0 0 0 0 0 0 0 0 0 [] [] [] [] 0 0 0 0 0 [])) ⟨cq,(RC.upd dK co (aa cm ax) (ut l cq (ac (ni d.size g) (ac (ni (le d.size i.size) f) aA)))),dL,⟨_,_,_,_,_,rfl,aG.nil ..,aG.nil ..,(fun _ _ _=>aG.nil ..),aG.nil ..,aG.nil ..,(bR (by omega))⟩,by unfold aj aY bL c5 d9 cF ck cE cG jC;(try simp only[k,z,B,o,s,D,H,I,bp,cQ,cN,cR,cP,cO,reduceIte,nU,nZ])<;>rfl⟩
 have dJ:=au I
 refine az 3<|cf I<|al 1<|?_
 refine aB (ub N J) mZ fun eX dM dN=>am 1<|rt<|br<|tr<|c9 dM (vI 4)<|?_
 exact cZ (by unfold aj aY bL c5 d9 cF ck cE cG jC;(try simp only[k,z,B,o,s,D,H,I,bp,cQ,cN,cR,cP,cO,reduceIte,nU,nZ])<;>rfl) (bi (ud l dN U))
theorem jA(hcode:B8 c)(hsl:aV m w (.slice A b.length cp) b)(hb:b.length≤1048576) :
    Calls Tryz.prog 110 #[vI 1,vB c,.slice A b.length cp] w (cA (.slice A b.length cp) b (aj aY 1 c b) w):=by
 obtain⟨hcode1,hcode2⟩:=hcode
 have hln:(b.length:Int)≤1048576:=by omega
 refine en 221 Tryz.func110 rfl<|sg<|aJ mZ fun a6 dq S F d=>am 1<|sq<|az 6<|c0<|bu<|al 2<|L0<|dw #[.slice A b.length cp,vI 0,.bool false,vI 0] fun k dr g r i=>Pl 1<|aK 2<|aJ mZ fun G ds f T bO=>aB T (mC c) fun a7 H U=>?_
 refine nt<|?_
 have a8:=ud bO U f
 have I:=aQ i a8
 have l:=aQ d I
 have J:RC w _ A cp b a7 k (ag.mk b false 0):=⟨hsl,l,(Nat.le_trans d.size g),⟨0,(ub a8 r),Nat.zero_le _,rfl⟩,by omega⟩
 refine ro (fun x=>[(6,vP a6 0),(8,vP k 0),(9,vP G 0)]) (fun(x:ag × Array Value × b6) w'=>aC [k,G] a7 w'∧RC w m A cp b w' k x.1∧w'.heap[G]? = some (.cells x.2.1 45 (0,0))∧bA (.slice A b.length cp) b w' x.2.1.toList x.2.2∧(aj aY 1 c b=bj x.2.2 x.1)) ?_ ?_
 rintro⟨C,cs,M⟩ V ⟨a9,bP,bQ,bS,bT⟩
 refine fs [(6,vP a6 0),(8,vP k 0),(9,vP G 0)] ?_
 have ab:RC w m A cp b V k C:=bP
 have bU:V.heap[G]? = some (.cells cs 45 (0,0)):=bQ
 have O:bA (.slice A b.length cp) b V cs.toList M:=bS
 have W:=bA.size O
 have ad:aj aY 1 c b=bj M C:=bT
 refine al 1<|aq<|m2 (jM ab) fun dt X Y=>nt<|sq<|al 3<|L0<|er (p:=⟨k,3,none⟩) (v:=vI C.endC.e) (RC.fld X)<|am 1<|?_
 have Z:=u1 a9 Y im
 have ae:=ut l Z (ac (ni d.size g) (ac (ni (le d.size i.size) f) aA))
 refine cb ((C.endC.e != 0)) (fun a0=>?_) (fun a0=>?_)
 have a1:=ay a0
 refine sq<|Rg 7 (fun w'=>w'.cell? ⟨k,3,none⟩=some (vI C.endC.e)) fun du P=>?_
 have af:=RC.upd X P ax (aC.step (RC.u X) P)
 refine bz (RC.fld af) fun L=>Rt 0 L<|Rt 1 L<|Rt 2 L<|Rt 3 L<|Rl 4 L (fun _ hs=>hs)<|?_
 refine R0 5 rfl<|iW (ub (ut I (aQ Z P) (ac (nr g) (ac (ni i.size f) aA))) F) mZ fun dv bV ak=>?_
 have an:=ud ae (uz P ak) S
 refine bz (RC.fld (RC.upd af ak (aa (Ne.symm (nb (ai F) lr g)) ax) an)) fun bW=>Rt 6 bW<|re<|tn<|bq<|c9 bV (vI C.endC.e)<|?_
 rw[ad]
 exact cn a1 an
 have a1:=aI a0
 refine bu<|sg<|?_
 refine L0<|cM (hz:=(by rw[W];exact aX)) (aS Y (Ne.symm (nb (ai r) lr f)) bU)<|?_
 refine aB (hz:=(by rw[W];exact aX)) (hv:=(bA.size O)) (h1:=(bA.one O hsl)) (ub (ut I Z (ac (nr g) (ac (ni i.size f) aA))) F) (cs) fun dx bX ao=>am 1<|rt<|dW 22 W bX (vI 0)<|?_
 rw[ad]
 exact cL a1 (bA.upd O (us Y ao) (ah (RC.safe ab _ (by decide)) (ah (aR (ub (ut I a9 (ac (nr g) (ac (ni i.size f) aA))) F) (by decide)) aE))) (ud ae ao S)
 refine bk<|al 6<|dX 3 [35] 38 35 (c==3) (c==4) (fun K bY bZ=>?_) ?_
 have dy:=au bZ
 exact Pl 3<|ce bY _ rfl
 refine Pl 1<|dX 3 [39] 42 39 ((c==3)||(c==4)) (c==23) (fun K c1 ar=>?_) ?_
 have c2:=(cl ar).1
 have c3:=(cl ar).2
 have dz:=au c2
 have dA:=au c3
 exact Pl 3<|ce c1 _ rfl
 refine am 2<|cb ((((c==3)||(c==4))||(c==23))) (fun j=>?_) (fun j=>?_)
 refine al 1<|aq<|m3 (dg J) fun dB c4 aw dC=>bt ((ag.mk b false 0).byteV)<|Pl 1<|aK 2<|L0<|Oe (vI (Int.tmod ((ag.mk b false 0).byteV) 2)) (vI (((ag.mk b false 0).byteV)%2)) (congrArg (Value.int .i64) (Int.tmod_eq_emod_of_nonneg (by omega)))<|Pl 2<|dc 3 [51] 54 51 ((((ag.mk b false 0).byteV)%2)==0) (decide (0<((ag.mk b false 0).byteV))) (fun K c6 c7=>?_) ?_
 have dD:=ap c7
 exact Pl 3<|ce c6 _ rfl
 refine Pl 1<|dc 3 [55] 58 55 (((((ag.mk b false 0).byteV)%2)==0)&&(decide (0<((ag.mk b false 0).byteV)))) (decide (((ag.mk b false 0).byteV)≤250)) (fun K ca aH=>?_) ?_
 have cc:=(aW aH).1
 have cd:=(aW aH).2
 have dE:=ap cc
 have dF:=of_decide_eq_true cd
 exact Pl 3<|ce ca _ rfl
 refine aq<|m2 (aP (((((((ag.mk b false 0).byteV)%2)==0)&&(decide (0<((ag.mk b false 0).byteV))))&&(decide (((ag.mk b false 0).byteV)≤250)))) 5 c4) fun dG cg aL=>?_
 refine eI cg fun x99 ch ci=>?_
 refine nt<|go<|Pl 2<|L0<|Oe (vI (IntKind.i64.wrap (Int.tdiv ((ag.mk b false 0).byteV) 2))) (vI (((ag.mk b false 0).byteV)/2)) (congrArg (Value.int .i64) (eJ (by omega) (by omega)))<|aq<|iG (eR (n:=(((ag.mk b false 0).byteV)/2)) (by omega) ci) fun cj cm dH aM dI dJ co cq=>Pl 1<|?_
 have aN:=u1 aw (u1 aL cq im) im
 have aO:=nb (ai r) lr f
 refine L0<|bE (aS aN (Ne.symm aO) H) 12 (mG c 0 0 0 0 0 0 0 0 0 0 0 (.slice cj ((x99.wordsR (((ag.mk b false 0).byteV)/2)).length) cm) nS nS nS 0 0 0 0 0 nS) fun dK cr a2=>nl<|bn<|?_
 have aT:=us aN a2
 exact jn ((x99.wordsC (((ag.mk b false 0).byteV)/2)),_,(b6.mk c 0 0 0 0 0 0 0 0 0 0 0 (x99.wordsR (((ag.mk b false 0).byteV)/2)) [] [] [] 0 0 0 0 0 [])) ⟨aT,(RC.upd co a2 (aa aO ax) (ut l aT (ac (ni d.size g) (ac (ni (le d.size i.size) f) aA)))),cr,⟨_,_,_,_,_,rfl,((av aM a2 (fun x hx=>(aa (fun e=>(aD (ai T) (le (le U.size aw.size) aL.size) aM) (e▸hx)) ax)) (fun _ _ h=>h))).rd,aG.nil ..,(fun _ _ _=>aG.nil ..),aG.nil ..,aG.nil ..,(bR (by omega))⟩,by subst ch;unfold aj  ;(try simp only[j,bp,cQ,cN,cR,cP,cO,reduceIte,nU,nZ,pA j])<;>rfl⟩
 have s:=(cl j).1
 have t:=(cl j).2
 have y:=(cl s).1
 have z:=(cl s).2
 have q87aap:=au y
 have q87abp:=au z
 have dL:=au t
 refine al 3<|sy 68 y<|am 4<|cf z<|az 3<|cb ((c==6)) (fun o=>?_) (fun o=>?_)
 have ct:=ap o
 refine al 1<|aq<|m3 (c8 J) fun dM cv aU dN=>Pl 1<|?_
 have Q:=nb (ai r) lr f
 refine L0<|bE (aS aU (Ne.symm Q) H) 2 (mG c 0 ((ag.mk b false 0).wordV) 0 0 0 0 0 0 0 0 0 nS nS nS nS 0 0 0 0 0 nS) fun dO cw aZ=>nt<|go<|Pl 1<|?_
 have b0:=us aU aZ
 have b1:=ut l b0 (ac (ni d.size g) (ac (ni (le d.size i.size) f) aA))
 refine aq<|m3 (c8 (RC.upd cv aZ (aa Q ax) b1)) fun dP cx b2 dQ=>Pl 1<|?_
 refine L0<|bE (aS b2 (Ne.symm Q) cw) 4 (mG c 0 ((ag.mk b false 0).wordV) 0 (((ag.mk b false 0).wordsC 1).wordV) 0 0 0 0 0 0 0 nS nS nS nS 0 0 0 0 0 nS) fun dR cy b3=>nl<|bn<|?_
 have b4:=us b2 b3
 exact jn ((((ag.mk b false 0).wordsC 1).wordsC 1),_,(b6.mk c 0 ((ag.mk b false 0).wordV) 0 (((ag.mk b false 0).wordsC 1).wordV) 0 0 0 0 0 0 0 [] [] [] [] 0 0 0 0 0 [])) ⟨(ut b0 b4 (ac im (ac im aA))),(RC.upd cx b3 (aa Q ax) (ut b1 b4 (ac (ni d.size g) (ac (ni (le d.size i.size) f) aA)))),cy,⟨_,_,_,_,_,rfl,aG.nil ..,aG.nil ..,(fun _ _ _=>aG.nil ..),aG.nil ..,aG.nil ..,(bR (by omega))⟩,by unfold aj aY bL c5 d9 cF ck cE cG jC;(try simp only[j,s,y,z,t,o,bp,cQ,cN,cR,cP,cO,reduceIte,nU,nZ])<;>rfl⟩
 have ct:=au o
 refine az 3<|cb ((c==16)) (fun B=>?_) (fun B=>?_)
 have cz:=ap B
 refine al 1<|aq<|m3 (c8 J) fun dS cB b5 dT=>Pl 1<|?_
 have R:=nb (ai r) lr f
 refine L0<|bE (aS b5 (Ne.symm R) H) 2 (mG c 0 ((ag.mk b false 0).wordV) 0 0 0 0 0 0 0 0 0 nS nS nS nS 0 0 0 0 0 nS) fun dU b7 b8=>aK 2<|aF b7 2<|?_
 have b9:=us b5 b8
 have ba:=ut l b9 (ac (ni d.size g) (ac (ni (le d.size i.size) f) aA))
 refine aq<|m3 (jd (a:=(ag.mk b false 0).wordV) (most:=123) (by omega) (RC.upd cB b8 (aa R ax) ba)) fun dV cC bb dY=>?_
 refine eI cC fun cD cH cI=>?_
 refine L0<|tR (((ag.mk b false 0).wordsC 1).wordV)<|Pl 1<|?_
 refine L0<|bE (aS bb (Ne.symm R) b7) 3 (mG c 0 ((ag.mk b false 0).wordV) (((ag.mk b false 0).wordsC 1).wordV) 0 0 0 0 0 0 0 0 nS nS nS nS 0 0 0 0 0 nS) fun dZ cK bc=>cJ 2<|c0<|sk<|bn<|?_
 have bd:=us bb bc
 exact jn (cD,_,(b6.mk c 0 ((ag.mk b false 0).wordV) (((ag.mk b false 0).wordsC 1).wordV) 0 0 0 0 0 0 0 0 [] [] [] [] 0 0 0 0 0 [])) ⟨(ut b9 bd (ac im (ac im aA))),(RC.upd cI bc (aa R ax) (ut ba bd (ac (ni d.size g) (ac (ni (le d.size i.size) f) aA)))),cK,⟨_,_,_,_,_,rfl,aG.nil ..,aG.nil ..,(fun _ _ _=>aG.nil ..),aG.nil ..,aG.nil ..,(bR (by omega))⟩,by subst cH;unfold aj aY bL c5 d9 cF ck cE cG jC;(try simp only[j,s,y,z,t,o,B,bp,cQ,cN,cR,cP,cO,reduceIte,nU,nZ])<;>rfl⟩
 have cz:=au B
 refine az 3<|cb ((c==22)) (fun D=>?_) (fun D=>?_)
 have cS:=ap D
 refine al 1<|aq<|m3 (c8 J) fun e0 cT be e1=>Pl 1<|?_
 have E:=nb (ai r) lr f
 refine L0<|bE (aS be (Ne.symm E) H) 2 (mG c 0 ((ag.mk b false 0).wordV) 0 0 0 0 0 0 0 0 0 nS nS nS nS 0 0 0 0 0 nS) fun e2 cU bf=>aK 1<|?_
 have bg:=us be bf
 have bh:=ut l bg (ac (ni d.size g) (ac (ni (le d.size i.size) f) aA))
 refine aq<|m3 (c8 (RC.upd cT bf (aa E ax) bh)) fun e3 cV bm e4=>Pl 1<|?_
 refine L0<|bE (aS bm (Ne.symm E) cU) 5 (mG c 0 ((ag.mk b false 0).wordV) 0 0 (((ag.mk b false 0).wordsC 1).wordV) 0 0 0 0 0 0 nS nS nS nS 0 0 0 0 0 nS) fun e5 cW bo=>nt<|go<|Pl 1<|?_
 have bs:=us bm bo
 have bv:=ut bh bs (ac (ni d.size g) (ac (ni (le d.size i.size) f) aA))
 refine aq<|m3 (c8 (RC.upd cV bo (aa E ax) bv)) fun e6 cX bw e7=>Pl 1<|?_
 refine L0<|bE (aS bw (Ne.symm E) cW) 6 (mG c 0 ((ag.mk b false 0).wordV) 0 0 (((ag.mk b false 0).wordsC 1).wordV) ((((ag.mk b false 0).wordsC 1).wordsC 1).wordV) 0 0 0 0 0 nS nS nS nS 0 0 0 0 0 nS) fun e8 cY bx=>nl<|bn<|?_
 have bB:=us bw bx
 exact jn (((((ag.mk b false 0).wordsC 1).wordsC 1).wordsC 1),_,(b6.mk c 0 ((ag.mk b false 0).wordV) 0 0 (((ag.mk b false 0).wordsC 1).wordV) ((((ag.mk b false 0).wordsC 1).wordsC 1).wordV) 0 0 0 0 0 [] [] [] [] 0 0 0 0 0 [])) ⟨(ut bg (ut bs bB (ac im (ac im aA))) (ac im (ac im aA))),(RC.upd cX bx (aa E ax) (ut bv bB (ac (ni d.size g) (ac (ni (le d.size i.size) f) aA)))),cY,⟨_,_,_,_,_,rfl,aG.nil ..,aG.nil ..,(fun _ _ _=>aG.nil ..),aG.nil ..,aG.nil ..,(bR (by omega))⟩,by unfold aj aY bL c5 d9 cF ck cE cG jC;(try simp only[j,s,y,z,t,o,B,D,bp,cQ,cN,cR,cP,cO,reduceIte,nU,nZ])<;>rfl⟩
 have cS:=au D
 refine az 3<|cf t<|al 3<|cu 3 [168] 171 (false) (fun K bC=>?_) ?_
 refine bl 168 ((c==24)) (fun a3=>?_) (fun a3=>?_)
 have d0:=ap a3
 exact Pl 3<|ce bC false rfl
 have d0:=au a3
 exact Pl 3<|ce bC false rfl
 refine am 1<|c0<|az 3<|cb ((c==24)) (fun N=>?_) (fun N=>?_)
 have d1:=ap N
 refine al 1<|aq<|m3 (c8 J) fun e9 d2 bD ea=>bt ((ag.mk b false 0).wordV)<|Pl 1<|aK 2<|L0<|Oe (vI (Int.tmod ((ag.mk b false 0).wordV) 2)) (vI (((ag.mk b false 0).wordV)%2)) (congrArg (Value.int .i64) (Int.tmod_eq_emod_of_nonneg (by omega)))<|Pl 2<|dc 3 [185] 188 185 ((((ag.mk b false 0).wordV)%2)==0) (decide (2≤((ag.mk b false 0).wordV))) (fun K d3 d4=>?_) ?_
 have eb:=ap d4
 exact Pl 3<|ce d3 _ rfl
 refine Pl 1<|dc 3 [189] 192 189 (((((ag.mk b false 0).wordV)%2)==0)&&(decide (2≤((ag.mk b false 0).wordV)))) (decide (((ag.mk b false 0).wordV)≤64)) (fun K d5 bF=>?_) ?_
 have d6:=(aW bF).1
 have d7:=(aW bF).2
 have ec:=ap d6
 have ed:=of_decide_eq_true d7
 exact Pl 3<|ce d5 _ rfl
 refine aq<|m2 (aP (((((((ag.mk b false 0).wordV)%2)==0)&&(decide (2≤((ag.mk b false 0).wordV))))&&(decide (((ag.mk b false 0).wordV)≤64)))) 5 d2) fun ee d8 bG=>?_
 refine eI d8 fun q da db=>?_
 refine aK 1<|aq<|m3 (c8 db) fun ef dd bH eg=>bt q.wordV<|Pl 1<|aK 3<|bt (2*q.wordV)<|bt ((2*q.wordV)+2)<|Pl 1<|aq<|m2 (aP ((((ag.mk b false 0).wordV)==((2*q.wordV)+2))) 5 dd) fun eh de bI=>?_
 refine eI de fun a4 df dh=>?_
 refine nt<|go<|Pl 2<|aq<|iG (eR (n:=q.wordV) (by omega) dh) fun di dj ei bJ ej ek dk dl=>Pl 1<|?_
 have bK:=u1 bD (u1 bG (u1 bH (u1 bI dl im) im) im) im
 have bM:=nb (ai r) lr f
 refine L0<|bE (aS bK (Ne.symm bM) H) 12 (mG c 0 0 0 0 0 0 0 0 0 0 0 (.slice di ((a4.wordsR q.wordV).length) dj) nS nS nS 0 0 0 0 0 nS) fun el dm a5=>nl<|bn<|?_
 have bN:=us bK a5
 exact jn ((a4.wordsC q.wordV),_,(b6.mk c 0 0 0 0 0 0 0 0 0 0 0 (a4.wordsR q.wordV) [] [] [] 0 0 0 0 0 [])) ⟨bN,(RC.upd dk a5 (aa bM ax) (ut l bN (ac (ni d.size g) (ac (ni (le d.size i.size) f) aA)))),dm,⟨_,_,_,_,_,rfl,((av bJ a5 (fun x hx=>(aa (fun e=>(aD (ai T) (le (le (le (le U.size bD.size) bG.size) bH.size) bI.size) bJ) (e▸hx)) ax)) (fun _ _ h=>h))).rd,aG.nil ..,(fun _ _ _=>aG.nil ..),aG.nil ..,aG.nil ..,(bR (by omega))⟩,by subst df da;unfold aj aY bL c5 d9 cF ck cE cG jC;(try simp only[j,s,y,z,t,o,B,D,N,bp,cQ,cN,cR,cP,cO,reduceIte,nU,nZ])<;>rfl⟩
 have d1:=au N
 refine al 1<|?_
 refine aB (ub I F) mZ fun em dn dp=>am 1<|rt<|br<|tr<|c9 dn (vI 4)<|?_
 exact cZ (by unfold aj aY bL c5 d9 cF ck cE cG jC;(try simp only[j,s,y,z,t,o,B,D,N,bp,cQ,cN,cR,cP,cO,reduceIte,nU,nZ])<;>rfl) (bi (ud l dp S))
variable {dir:Int}
theorem jy(hcode:B8 c)(hsl:aV m w (.slice A b.length cp) b)(hb:b.length≤1048576)(hd:¬ (dir=0∨dir=1)) :
    Calls Tryz.prog 110 #[vI dir,vB c,.slice A b.length cp] w (cA (.slice A b.length cp) b (aj aY dir c b) w):=by
 obtain⟨hcode1,hcode2⟩:=hcode
 have hln:(b.length:Int)≤1048576:=by omega
 have e0:(dir != 0)=true:=by simp;omega
 have e1:(dir != 1)=true:=by simp;omega
 refine en 221 Tryz.func110 rfl<|sg<|aJ mZ fun g h a d e=>am 1<|sq<|al 3<|sy 18 e0<|Pl 3<|nl<|tn<|ct e1<|al 1<|aB d mZ fun i dC f=>am 1<|bq<|c9 dC (vI 1)<|?_
 exact cZ (by unfold aj aY bL c5 d9 cF ck cE cG jC;(try simp only[e0,e1,bp,cQ,cN,cR,cP,cO,reduceIte,hd,nU,nZ])<;>rfl) (bi (ud e f a))
open Go.RowKit
def dO (dir:Int)(C:ag) : ag:=(C.wordsC 1).need (dt C.wordV&&((C.wordV != 4)||(dir==0))) 8
theorem ij:dO 0 C=(C.wordsC 1).need (dt C.wordV) 8:=by
  unfold dO
  rw[show((0:Int)==0)=true from rfl,Bool.or_true,Bool.and_true]
theorem iw:dO 1 C=(C.wordsC 1).need (dt C.wordV&&(C.wordV != 4)) 8:=by
  unfold dO
  rw[show((1:Int)==0)=false from rfl,Bool.or_false]
def dq (dir c:Int)(C:ag) : ag × b6 :=
  if C.wordV==0 then ((ii (dO dir C)).wordsC (((dO dir C).l.length:Int)/2),{ b6.zero with code:=c,sub:=C.wordV,words:=(ii (dO dir C)).wordsR (((dO dir C).l.length:Int)/2) })
  else (((dO dir C).wordsC 1).need (eQ dir C.wordV (dO dir C).wordV) 6,{ b6.zero with code:=c,sub:=C.wordV,words:=[(dO dir C).wordV] })
def cV (c:Int)(C:ag) : ag × b6 :=
  if c==7 then (C.bytesC 1,{ b6.zero with code:=c,value:=C.byteV })
  else if c==11 then ((dj C).wordsC 1,{ b6.zero with code:=c,status:=C.wordV,events:=(dj C).wordV })
  else if c==12 then ((gc C).bytesC (C.byteV-6),{ b6.zero with code:=c,status:=(fz C 6 70).wordV,events:=(dj (fz C 6 70)).wordV,messages:=((dj (fz C 6 70)).wordsC 1).wordV,data:=(gc C).bytesR (C.byteV-6) })
  else ((fz C 1 251).bytesC C.byteV,{ b6.zero with code:=c,data:=(fz C 1 251).bytesR C.byteV })
def bI (dir c:Int)(C:ag) : Option (ag × b6) :=
  if ((((c != 7)&&(c != 8))&&(c != 11))&&(c != 12))&&(c != 17) then none
  else if c==8 then some (dq dir c C)
  else if dir==0 then some (C,{ b6.zero with code:=c })
  else some (cV c C)
theorem jv(hcode:B8 c)(hsl:aV m w (.slice A b.length cp) b)(hb:b.length≤1048576) :
    Calls Tryz.prog 111 #[vI 0,vB c,.slice A b.length cp] w (cA (.slice A b.length cp) b (aj bI 0 c b) w):=by
 obtain⟨hcode1,hcode2⟩:=hcode
 have hln:(b.length:Int)≤1048576:=by omega
 refine en 197 Tryz.func111 rfl<|sg<|aJ mZ fun ab cC L t d=>am 1<|sq<|az 6<|c0<|bu<|sq<|al 3<|dc 3 [24] 27 24 (c != 7) (c != 8) (fun K bv bw=>?_) ?_
 have cD:=ay bw
 exact Pl 3<|ce bv _ rfl
 refine Pl 1<|dc 3 [28] 31 28 ((c != 7)&&(c != 8)) (c != 11) (fun K bB ad=>?_) ?_
 have bC:=(aW ad).1
 have bD:=(aW ad).2
 have cE:=ay bC
 have cF:=ay bD
 exact Pl 3<|ce bB _ rfl
 refine Pl 1<|dc 3 [32] 35 32 (((c != 7)&&(c != 8))&&(c != 11)) (c != 12) (fun K bF ae=>?_) ?_
 have af:=(aW ae).1
 have bG:=(aW ae).2
 have bH:=(aW af).1
 have bJ:=(aW af).2
 have q19aap:=ay bH
 have q19abp:=ay bJ
 have cG:=ay bG
 exact Pl 3<|ce bF _ rfl
 refine Pl 1<|dc 3 [36] 39 36 ((((c != 7)&&(c != 8))&&(c != 11))&&(c != 12)) (c != 17) (fun K bK ak=>?_) ?_
 have an:=(aW ak).1
 have bL:=(aW ak).2
 have ao:=(aW an).1
 have bM:=(aW an).2
 have q21aaa:=(aW ao).1
 have q21aab:=(aW ao).2
 have q21aaap:=ay q21aaa
 have q21aabp:=ay q21aab
 have q21abp:=ay bM
 have cH:=ay bL
 exact Pl 3<|ce bK _ rfl
 refine nt<|cb ((((((c != 7)&&(c != 8))&&(c != 11))&&(c != 12))&&(c != 17))) (fun o=>?_) (fun o=>?_)
 have N:=(aW o).1
 have ar:=(aW o).2
 have O:=(aW N).1
 have aw:=(aW N).2
 have q23aaa:=(aW O).1
 have q23aab:=(aW O).2
 have q23aaaa:=(aW q23aaa).1
 have q23aaab:=(aW q23aaa).2
 have q23aaaap:=ay q23aaaa
 have q23aaabp:=ay q23aaab
 have q23aabp:=ay q23aab
 have q23abp:=ay aw
 have cI:=ay ar
 refine al 1<|aB t mZ fun cJ bN bO=>am 1<|bq<|c9 bN (vI 4)<|?_
 exact cZ (by unfold aj bI dq cV;(try simp only[o,N,O,q23aaa,q23aaaa,q23aaab,q23aab,aw,ar,bp,cQ,cN,cR,cP,cO,reduceIte,ij,iw])<;>rfl) (bi (ud d bO L))
 refine bu<|al 2<|L0<|dw #[.slice A b.length cp,vI 0,.bool false,vI 0] fun i cK f P j=>Pl 1<|aK 2<|aJ mZ fun q cS g Q bP=>aB Q (mC c) fun aH aL R=>?_
 refine nt<|?_
 have aM:=ud bP R g
 have E:=aQ j aM
 have S:=aQ d E
 have aN:RC w _ A cp b aH i (ag.mk b false 0):=⟨hsl,S,(Nat.le_trans d.size f),⟨0,(ub aM P),Nat.zero_le _,rfl⟩,by omega⟩
 refine ro (fun x=>[(6,vP ab 0),(7,vI 0),(8,vP i 0),(9,vP q 0)]) (fun(x:ag × Array Value × b6) w'=>aC [i,q] aH w'∧RC w m A cp b w' i x.1∧w'.heap[q]? = some (.cells x.2.1 45 (0,0))∧bA (.slice A b.length cp) b w' x.2.1.toList x.2.2∧(aj bI 0 c b=bj x.2.2 x.1)) ?_ ?_
 rintro⟨C,cs,M⟩ T ⟨aT,bQ,bS,bT,bU⟩
 refine fs [(6,vP ab 0),(7,vI 0),(8,vP i 0),(9,vP q 0)] ?_
 have aU:RC w m A cp b T i C:=bQ
 have bV:T.heap[q]? = some (.cells cs 45 (0,0)):=bS
 have F:bA (.slice A b.length cp) b T cs.toList M:=bT
 have U:=bA.size F
 have aY:aj bI 0 c b=bj M C:=bU
 refine al 1<|aq<|m2 (jM aU) fun cT V W=>nt<|sq<|al 3<|L0<|er (p:=⟨i,3,none⟩) (v:=vI C.endC.e) (RC.fld V)<|am 1<|?_
 have X:=u1 aT W im
 have aZ:=ut S X (ac (ni d.size f) (ac (ni (le d.size j.size) g) aA))
 refine cb ((C.endC.e != 0)) (fun Y=>?_) (fun Y=>?_)
 have Z:=ay Y
 refine sq<|Rg 7 (fun w'=>w'.cell? ⟨i,3,none⟩=some (vI C.endC.e)) fun cU G=>?_
 have b0:=RC.upd V G ax (aC.step (RC.u V) G)
 refine bz (RC.fld b0) fun y=>Rt 0 y<|Rt 1 y<|Rt 2 y<|Rt 3 y<|Rl 4 y (fun _ hs=>hs)<|?_
 refine R0 5 rfl<|iW (ub (ut E (aQ X G) (ac (nr f) (ac (ni j.size g) aA))) t) mZ fun cW bW b1=>?_
 have b2:=ud aZ (uz G b1) L
 refine bz (RC.fld (RC.upd b0 b1 (aa (Ne.symm (nb (ai t) lr f)) ax) b2)) fun bX=>Rt 6 bX<|re<|tn<|bq<|c9 bW (vI C.endC.e)<|?_
 rw[aY]
 exact cn Z b2
 have Z:=aI Y
 refine bu<|sg<|?_
 refine L0<|cM (hz:=(by rw[U];exact aX)) (aS W (Ne.symm (nb (ai P) lr g)) bV)<|?_
 refine aB (hz:=(by rw[U];exact aX)) (hv:=(bA.size F)) (h1:=(bA.one F hsl)) (ub (ut E X (ac (nr f) (ac (ni j.size g) aA))) t) (cs) fun cX bY b3=>am 1<|rt<|dW 22 U bY (vI 0)<|?_
 rw[aY]
 exact cL Z (bA.upd F (us W b3) (ah (RC.safe aU _ (by decide)) (ah (aR (ub (ut E aT (ac (nr f) (ac (ni j.size g) aA))) t) (by decide)) aE))) (ud aZ b3 L)
 refine bk<|az 3<|cb ((c==8)) (fun r=>?_) (fun r=>?_)
 have bZ:=ap r
 refine al 1<|aq<|m3 (c8 aN) fun d0 c2 H d1=>Pl 1<|?_
 have k:=nb (ai P) lr g
 refine L0<|bE (aS H (Ne.symm k) aL) 8 (mG c 0 0 0 0 0 0 0 ((ag.mk b false 0).wordV) 0 0 0 nS nS nS nS 0 0 0 0 0 nS) fun c3 a0 a1=>aK 1<|aF a0 8<|aq<|m1 (tX (x:=(ag.mk b false 0).wordV) (w:=c3) (by omega)) fun d2 z=>Pl 1<|aK 3<|cu 8 [72] 80 ((dt ((ag.mk b false 0).wordV))) (fun K b4=>?_) ?_
 refine bl 72 ((dt ((ag.mk b false 0).wordV))) (fun a2=>?_) (fun a2=>?_)
 refine Pl 1<|?_
 refine L1<|cY (ub z a0) 8<|Pl 2<|cu 3 [76] 79 (true) (fun K b5=>?_) ?_
 refine bl 76 ((((ag.mk b false 0).wordV)!=4)) (fun a3=>?_) (fun a3=>?_)
 have c4:=ay a3
 exact Pl 3<|ce b5 true rfl
 have c4:=aI a3
 exact Pl 3<|ce b5 true rfl
 exact Pl 1<|ce b4 true a2
 exact Pl 8<|ce b4 false a2
 have b7:=aQ a1 z
 have a4:=us H b7
 have b8:=ut S a4 (ac (ni d.size f) (ac (ni (le d.size j.size) g) aA))
 refine aq<|m2 (aP ((dt ((ag.mk b false 0).wordV))) 8 (RC.upd c2 b7 (aa k ax) b8)) fun d3 c5 s=>?_
 refine eI c5 fun a b9 B=>?_
 refine nt<|sq<|al 1<|?_
 have a5:=aS (uz z s) (Ne.symm k) a0
 refine aF a5 8<|am 1<|?_
 have ba:=ud b8 s (le d.size f)
 refine cb ((((ag.mk b false 0).wordV)==0)) (fun D=>?_) (fun D=>?_)
 have c6:=ap D
 refine al 1<|aq<|m1 (g8 B) fun d4 I=>?_
 have d5:=RC.clen B
 refine Pl 1<|aK 2<|L0<|Oe (vI (Int.tmod (a.l.length:Int) 2)) (vI ((a.l.length:Int)%2)) (congrArg (Value.int .i64) (Int.tmod_eq_emod_of_nonneg (by omega)))<|Pl 2<|dc 3 [91] 94 91 (((a.l.length:Int)%2)==0) (decide (2≤(a.l.length:Int))) (fun K c7 ca=>?_) ?_
 have d6:=ap ca
 exact Pl 3<|ce c7 _ rfl
 refine Pl 1<|dc 3 [95] 98 95 ((((a.l.length:Int)%2)==0)&&(decide (2≤(a.l.length:Int)))) (decide ((a.l.length:Int)≤250)) (fun K cc bb=>?_) ?_
 have cd:=(aW bb).1
 have cf:=(aW bb).2
 have d7:=ap cd
 have d8:=of_decide_eq_true cf
 exact Pl 3<|ce cc _ rfl
 refine aq<|m2 (aP ((((((a.l.length:Int)%2)==0)&&(decide (2≤(a.l.length:Int))))&&(decide ((a.l.length:Int)≤250)))) 5 (RC.upd B I ax (aC.step (RC.u B) I))) fun d9 cg bc=>?_
 refine eI cg fun a6 ch ci=>?_
 refine aK 2<|L0<|Oe (vI (IntKind.i64.wrap (Int.tdiv (a.l.length:Int) 2))) (vI ((a.l.length:Int)/2)) (congrArg (Value.int .i64) (eJ (by omega) (by omega)))<|aq<|iG (eR (n:=((a.l.length:Int)/2)) (by omega) ci) fun cj ck da bd db dd cl cm=>Pl 1<|?_
 have be:=uz I (u1 bc cm im)
 refine L0<|bE (aS be (Ne.symm k) a5) 12 (mG c 0 0 0 0 0 0 0 ((ag.mk b false 0).wordV) 0 0 0 (.slice cj ((a6.wordsR ((a.l.length:Int)/2)).length) ck) nS nS nS 0 0 0 0 0 nS) fun de co a7=>nt<|xt<|tx<|bx<|?_
 have bf:=us be a7
 exact jn ((a6.wordsC ((a.l.length:Int)/2)),_,(b6.mk c 0 0 0 0 0 0 0 ((ag.mk b false 0).wordV) 0 0 0 (a6.wordsR ((a.l.length:Int)/2)) [] [] [] 0 0 0 0 0 [])) ⟨(ut a4 (ui s bf) (ac im (ac im aA))),(RC.upd cl a7 (aa k ax) (ut ba bf (ac (ni d.size f) (ac (ni (le d.size j.size) g) aA)))),co,⟨_,_,_,_,_,rfl,((av bd a7 (fun x hx=>(aa (fun e=>(aD (ai Q) (le (le (le (le (le (le R.size H.size) a1.size) z.size) s.size) I.size) bc.size) bd) (e▸hx)) ax)) (fun _ _ h=>h))).rd,aG.nil ..,(fun _ _ _=>aG.nil ..),aG.nil ..,aG.nil ..,(bR (by omega))⟩,by subst ch b9;unfold aj bI dq cV;(try simp only[o,r,D,bp,cQ,cN,cR,cP,cO,reduceIte,ij,iw])<;>rfl⟩
 have c6:=au D
 refine bu<|al 1<|aq<|m3 (c8 B) fun cq bg a8 df=>Pl 1<|aK 3<|?_
 have bh:=aS a8 (Ne.symm k) a5
 refine aF bh 8<|Pl 1<|aq<|m1 (uI (dir:=0) (sub:=(ag.mk b false 0).wordV) (v:=a.wordV) (w:=cq) (by omega)) fun dg J=>?_
 refine aq<|m2 (aP ((eQ 0 ((ag.mk b false 0).wordV) a.wordV)) 6 (RC.upd bg J ax (aC.step (RC.u bg) J))) fun dh cr bm=>?_
 refine eI cr fun ct cv cw=>?_
 refine nt<|go<|Pl 1<|L0<|gv (m:=1) (e:=37) #[vW a.wordV] fun cx di cy cz bo=>?_
 have br:=rJ cy (xs:=[a.wordV]) (by as_aux_lemma=>kernel_rfl) (aO (by omega) dB) (by(try simp only[List.length_cons,List.length_nil]);omega) cz
 refine Pl 1<|?_
 have bs:=uz J (aQ bm bo)
 refine L0<|bE (aS bs (Ne.symm k) bh) 12 (mG c 0 0 0 0 0 0 0 ((ag.mk b false 0).wordV) 0 0 0 (.slice (some ⟨cx,0,none⟩) 1 1) nS nS nS 0 0 0 0 0 nS) fun dj cB a9=>nl<|bn<|?_
 have bt:=ui a8 (us bs a9)
 exact jn (ct,_,(b6.mk c 0 0 0 0 0 0 0 ((ag.mk b false 0).wordV) 0 0 0 [a.wordV] [] [] [] 0 0 0 0 0 [])) ⟨(ut a4 (ui s bt) (ac im (ac im aA))),(RC.upd cw (uz bo a9) (aa k ax) (ut ba bt (ac (ni d.size f) (ac (ni (le d.size j.size) g) aA)))),cB,⟨_,_,_,_,_,rfl,((av br a9 (fun x hx=>(aa (fun e=>(aD (ai Q) (le (le (le (le (le (le (le R.size H.size) a1.size) z.size) s.size) a8.size) J.size) bm.size) br) (e▸hx)) ax)) (fun _ _ h=>h))).rd,aG.nil ..,(fun _ _ _=>aG.nil ..),aG.nil ..,aG.nil ..,(bR (by omega))⟩,by subst cv b9;unfold aj bI dq cV;(try simp only[o,r,D,bp,cQ,cN,cR,cP,cO,reduceIte,ij,iw])<;>rfl⟩
 have bZ:=au r
 exact az 3<|c1<|sk<|bn<|jn ((ag.mk b false 0),_,(b6.mk c 0 0 0 0 0 0 0 0 0 0 0 [] [] [] [] 0 0 0 0 0 [])) ⟨(aC.mono (S':=[i,q]) (aC.refl [] _) aA),aN,aL,⟨_,_,_,_,_,rfl,aG.nil ..,aG.nil ..,(fun _ _ _=>aG.nil ..),aG.nil ..,aG.nil ..,(bR (by omega))⟩,by unfold aj bI dq cV;(try simp only[o,r,bp,cQ,cN,cR,cP,cO,reduceIte,ij,iw])<;>rfl⟩
theorem jL(hcode:B8 c)(hsl:aV m w (.slice A b.length cp) b)(hb:b.length≤1048576) :
    Calls Tryz.prog 111 #[vI 1,vB c,.slice A b.length cp] w (cA (.slice A b.length cp) b (aj bI 1 c b) w):=by
 obtain⟨hcode1,hcode2⟩:=hcode
 have hln:(b.length:Int)≤1048576:=by omega
 refine en 197 Tryz.func111 rfl<|sg<|aJ mZ fun aT ez Z F a=>am 1<|sq<|az 6<|c0<|bu<|sq<|al 3<|dc 3 [24] 27 24 (c != 7) (c != 8) (fun K cr ct=>?_) ?_
 have eA:=ay ct
 exact Pl 3<|ce cr _ rfl
 refine Pl 1<|dc 3 [28] 31 28 ((c != 7)&&(c != 8)) (c != 11) (fun K cv aU=>?_) ?_
 have cw:=(aW aU).1
 have cx:=(aW aU).2
 have eB:=ay cw
 have eD:=ay cx
 exact Pl 3<|ce cv _ rfl
 refine Pl 1<|dc 3 [32] 35 32 (((c != 7)&&(c != 8))&&(c != 11)) (c != 12) (fun K cy aY=>?_) ?_
 have aZ:=(aW aY).1
 have cz:=(aW aY).2
 have cB:=(aW aZ).1
 have cC:=(aW aZ).2
 have q19aap:=ay cB
 have q19abp:=ay cC
 have eE:=ay cz
 exact Pl 3<|ce cy _ rfl
 refine Pl 1<|dc 3 [36] 39 36 ((((c != 7)&&(c != 8))&&(c != 11))&&(c != 12)) (c != 17) (fun K cD b0=>?_) ?_
 have b1:=(aW b0).1
 have cE:=(aW b0).2
 have b2:=(aW b1).1
 have cF:=(aW b1).2
 have q21aaa:=(aW b2).1
 have q21aab:=(aW b2).2
 have q21aaap:=ay q21aaa
 have q21aabp:=ay q21aab
 have q21abp:=ay cF
 have eF:=ay cE
 exact Pl 3<|ce cD _ rfl
 refine nt<|cb ((((((c != 7)&&(c != 8))&&(c != 11))&&(c != 12))&&(c != 17))) (fun j=>?_) (fun j=>?_)
 have a0:=(aW j).1
 have b3:=(aW j).2
 have a1:=(aW a0).1
 have b4:=(aW a0).2
 have q23aaa:=(aW a1).1
 have q23aab:=(aW a1).2
 have q23aaaa:=(aW q23aaa).1
 have q23aaab:=(aW q23aaa).2
 have q23aaaap:=ay q23aaaa
 have q23aaabp:=ay q23aaab
 have q23aabp:=ay q23aab
 have q23abp:=ay b4
 have eG:=ay b3
 refine al 1<|aB F mZ fun eH cG cH=>am 1<|bq<|c9 cG (vI 4)<|?_
 exact cZ (by unfold aj bI dq cV;(try simp only[j,a0,a1,q23aaa,q23aaaa,q23aaab,q23aab,b4,b3,bp,cQ,cN,cR,cP,cO,reduceIte,ij,iw])<;>rfl) (bi (ud a cH Z))
 refine bu<|al 2<|L0<|dw #[.slice A b.length cp,vI 0,.bool false,vI 0] fun r eK g y i=>Pl 1<|aK 2<|aJ mZ fun G eL d a2 cI=>aB a2 (mC c) fun b5 H a3=>?_
 refine nt<|?_
 have b7:=ud cI a3 d
 have R:=aQ i b7
 have z:=aQ a R
 have I:RC w _ A cp b b5 r (ag.mk b false 0):=⟨hsl,z,(Nat.le_trans a.size g),⟨0,(ub b7 y),Nat.zero_le _,rfl⟩,by omega⟩
 refine ro (fun x=>[(6,vP aT 0),(7,vI 0),(8,vP r 0),(9,vP G 0)]) (fun(x:ag × Array Value × b6) w'=>aC [r,G] b5 w'∧RC w m A cp b w' r x.1∧w'.heap[G]? = some (.cells x.2.1 45 (0,0))∧bA (.slice A b.length cp) b w' x.2.1.toList x.2.2∧(aj bI 1 c b=bj x.2.2 x.1)) ?_ ?_
 rintro⟨C,cs,M⟩ a4 ⟨b8,cJ,cK,cS,cT⟩
 refine fs [(6,vP aT 0),(7,vI 0),(8,vP r 0),(9,vP G 0)] ?_
 have b9:RC w m A cp b a4 r C:=cJ
 have cU:a4.heap[G]? = some (.cells cs 45 (0,0)):=cK
 have S:bA (.slice A b.length cp) b a4 cs.toList M:=cS
 have a5:=bA.size S
 have ba:aj bI 1 c b=bj M C:=cT
 refine al 1<|aq<|m2 (jM b9) fun eM a6 a7=>nt<|sq<|al 3<|L0<|er (p:=⟨r,3,none⟩) (v:=vI C.endC.e) (RC.fld a6)<|am 1<|?_
 have a8:=u1 b8 a7 im
 have bb:=ut z a8 (ac (ni a.size g) (ac (ni (le a.size i.size) d) aA))
 refine cb ((C.endC.e != 0)) (fun a9=>?_) (fun a9=>?_)
 have ab:=ay a9
 refine sq<|Rg 7 (fun w'=>w'.cell? ⟨r,3,none⟩=some (vI C.endC.e)) fun eN T=>?_
 have bc:=RC.upd a6 T ax (aC.step (RC.u a6) T)
 refine bz (RC.fld bc) fun J=>Rt 0 J<|Rt 1 J<|Rt 2 J<|Rt 3 J<|Rl 4 J (fun _ hs=>hs)<|?_
 refine R0 5 rfl<|iW (ub (ut R (aQ a8 T) (ac (nr g) (ac (ni i.size d) aA))) F) mZ fun eO cW bd=>?_
 have be:=ud bb (uz T bd) Z
 refine bz (RC.fld (RC.upd bc bd (aa (Ne.symm (nb (ai F) lr g)) ax) be)) fun cX=>Rt 6 cX<|re<|tn<|bq<|c9 cW (vI C.endC.e)<|?_
 rw[ba]
 exact cn ab be
 have ab:=aI a9
 refine bu<|sg<|?_
 refine L0<|cM (hz:=(by rw[a5];exact aX)) (aS a7 (Ne.symm (nb (ai y) lr d)) cU)<|?_
 refine aB (hz:=(by rw[a5];exact aX)) (hv:=(bA.size S)) (h1:=(bA.one S hsl)) (ub (ut R a8 (ac (nr g) (ac (ni i.size d) aA))) F) (cs) fun eP d0 bf=>am 1<|rt<|dW 22 a5 d0 (vI 0)<|?_
 rw[ba]
 exact cL ab (bA.upd S (us a7 bf) (ah (RC.safe b9 _ (by decide)) (ah (aR (ub (ut R b8 (ac (nr g) (ac (ni i.size d) aA))) F) (by decide)) aE))) (ud bb bf Z)
 refine bk<|az 3<|cb ((c==8)) (fun o=>?_) (fun o=>?_)
 have d1:=ap o
 refine al 1<|aq<|m3 (c8 I) fun eS d2 U eT=>Pl 1<|?_
 have s:=nb (ai y) lr d
 refine L0<|bE (aS U (Ne.symm s) H) 8 (mG c 0 0 0 0 0 0 0 ((ag.mk b false 0).wordV) 0 0 0 nS nS nS nS 0 0 0 0 0 nS) fun d3 ad ae=>aK 1<|aF ad 8<|aq<|m1 (tX (x:=(ag.mk b false 0).wordV) (w:=d3) (by omega)) fun eU L=>Pl 1<|aK 3<|cu 8 [72] 80 (((dt ((ag.mk b false 0).wordV))&&(((ag.mk b false 0).wordV)!=4))) (fun K bg=>?_) ?_
 refine bl 72 ((dt ((ag.mk b false 0).wordV))) (fun af=>?_) (fun af=>?_)
 refine Pl 1<|?_
 refine L1<|cY (ub L ad) 8<|Pl 2<|cu 3 [76] 79 ((((ag.mk b false 0).wordV)!=4)) (fun K bh=>?_) ?_
 refine bl 76 ((((ag.mk b false 0).wordV)!=4)) (fun N=>?_) (fun N=>?_)
 have d4:=ay N
 exact Pl 3<|ce bh true N
 have d4:=aI N
 exact Pl 3<|ce bh false N
 exact Pl 1<|ce bg (((ag.mk b false 0).wordV)!=4) (by rw[af];rfl)
 exact Pl 8<|ce bg false (by rw[af];rfl)
 have bm:=aQ ae L
 have ak:=us U bm
 have bo:=ut z ak (ac (ni a.size g) (ac (ni (le a.size i.size) d) aA))
 refine aq<|m2 (aP (((dt ((ag.mk b false 0).wordV))&&(((ag.mk b false 0).wordV)!=4))) 8 (RC.upd d2 bm (aa s ax) bo)) fun eV d5 D=>?_
 refine eI d5 fun f br O=>?_
 refine nt<|sq<|al 1<|?_
 have an:=aS (uz L D) (Ne.symm s) ad
 refine aF an 8<|am 1<|?_
 have bs:=ud bo D (le a.size g)
 refine cb ((((ag.mk b false 0).wordV)==0)) (fun P=>?_) (fun P=>?_)
 have d6:=ap P
 refine al 1<|aq<|m1 (g8 O) fun eW V=>?_
 have eX:=RC.clen O
 refine Pl 1<|aK 2<|L0<|Oe (vI (Int.tmod (f.l.length:Int) 2)) (vI ((f.l.length:Int)%2)) (congrArg (Value.int .i64) (Int.tmod_eq_emod_of_nonneg (by omega)))<|Pl 2<|dc 3 [91] 94 91 (((f.l.length:Int)%2)==0) (decide (2≤(f.l.length:Int))) (fun K d7 d8=>?_) ?_
 have eY:=ap d8
 exact Pl 3<|ce d7 _ rfl
 refine Pl 1<|dc 3 [95] 98 95 ((((f.l.length:Int)%2)==0)&&(decide (2≤(f.l.length:Int)))) (decide ((f.l.length:Int)≤250)) (fun K d9 bv=>?_) ?_
 have da:=(aW bv).1
 have db:=(aW bv).2
 have eZ:=ap da
 have f0:=of_decide_eq_true db
 exact Pl 3<|ce d9 _ rfl
 refine aq<|m2 (aP ((((((f.l.length:Int)%2)==0)&&(decide (2≤(f.l.length:Int))))&&(decide ((f.l.length:Int)≤250)))) 5 (RC.upd O V ax (aC.step (RC.u O) V))) fun f1 dd bw=>?_
 refine eI dd fun ao de df=>?_
 refine aK 2<|L0<|Oe (vI (IntKind.i64.wrap (Int.tdiv (f.l.length:Int) 2))) (vI ((f.l.length:Int)/2)) (congrArg (Value.int .i64) (eJ (by omega) (by omega)))<|aq<|iG (eR (n:=((f.l.length:Int)/2)) (by omega) df) fun dh di f2 bB f3 f4 dj dk=>Pl 1<|?_
 have bC:=uz V (u1 bw dk im)
 refine L0<|bE (aS bC (Ne.symm s) an) 12 (mG c 0 0 0 0 0 0 0 ((ag.mk b false 0).wordV) 0 0 0 (.slice dh ((ao.wordsR ((f.l.length:Int)/2)).length) di) nS nS nS 0 0 0 0 0 nS) fun f5 dl ar=>nt<|xt<|tx<|bx<|?_
 have bD:=us bC ar
 exact jn ((ao.wordsC ((f.l.length:Int)/2)),_,(b6.mk c 0 0 0 0 0 0 0 ((ag.mk b false 0).wordV) 0 0 0 (ao.wordsR ((f.l.length:Int)/2)) [] [] [] 0 0 0 0 0 [])) ⟨(ut ak (ui D bD) (ac im (ac im aA))),(RC.upd dj ar (aa s ax) (ut bs bD (ac (ni a.size g) (ac (ni (le a.size i.size) d) aA)))),dl,⟨_,_,_,_,_,rfl,((av bB ar (fun x hx=>(aa (fun e=>(aD (ai a2) (le (le (le (le (le (le a3.size U.size) ae.size) L.size) D.size) V.size) bw.size) bB) (e▸hx)) ax)) (fun _ _ h=>h))).rd,aG.nil ..,(fun _ _ _=>aG.nil ..),aG.nil ..,aG.nil ..,(bR (by omega))⟩,by subst de br;unfold aj bI dq cV;(try simp only[j,o,P,bp,cQ,cN,cR,cP,cO,reduceIte,ij,iw])<;>rfl⟩
 have d6:=au P
 refine bu<|al 1<|aq<|m3 (c8 O) fun dm bF aw f6=>Pl 1<|aK 3<|?_
 have bG:=aS aw (Ne.symm s) an
 refine aF bG 8<|Pl 1<|aq<|m1 (uI (dir:=1) (sub:=(ag.mk b false 0).wordV) (v:=f.wordV) (w:=dm) (by omega)) fun f7 W=>?_
 refine aq<|m2 (aP ((eQ 1 ((ag.mk b false 0).wordV) f.wordV)) 6 (RC.upd bF W ax (aC.step (RC.u bF) W))) fun f8 dn bH=>?_
 refine eI dn fun dp dr ds=>?_
 refine nt<|go<|Pl 1<|L0<|gv (m:=1) (e:=37) #[vW f.wordV] fun du f9 dv dx bJ=>?_
 have bK:=rJ dv (xs:=[f.wordV]) (by as_aux_lemma=>kernel_rfl) (aO (by omega) dB) (by(try simp only[List.length_cons,List.length_nil]);omega) dx
 refine Pl 1<|?_
 have bL:=uz W (aQ bH bJ)
 refine L0<|bE (aS bL (Ne.symm s) bG) 12 (mG c 0 0 0 0 0 0 0 ((ag.mk b false 0).wordV) 0 0 0 (.slice (some ⟨du,0,none⟩) 1 1) nS nS nS 0 0 0 0 0 nS) fun fa dy aH=>nl<|bn<|?_
 have bM:=ui aw (us bL aH)
 exact jn (dp,_,(b6.mk c 0 0 0 0 0 0 0 ((ag.mk b false 0).wordV) 0 0 0 [f.wordV] [] [] [] 0 0 0 0 0 [])) ⟨(ut ak (ui D bM) (ac im (ac im aA))),(RC.upd ds (uz bJ aH) (aa s ax) (ut bs bM (ac (ni a.size g) (ac (ni (le a.size i.size) d) aA)))),dy,⟨_,_,_,_,_,rfl,((av bK aH (fun x hx=>(aa (fun e=>(aD (ai a2) (le (le (le (le (le (le (le a3.size U.size) ae.size) L.size) D.size) aw.size) W.size) bH.size) bK) (e▸hx)) ax)) (fun _ _ h=>h))).rd,aG.nil ..,(fun _ _ _=>aG.nil ..),aG.nil ..,aG.nil ..,(bR (by omega))⟩,by subst dr br;unfold aj bI dq cV;(try simp only[j,o,P,bp,cQ,cN,cR,cP,cO,reduceIte,ij,iw])<;>rfl⟩
 have d1:=au o
 refine az 3<|c0<|az 3<|cb ((c==7)) (fun B=>?_) (fun B=>?_)
 have dz:=ap B
 refine go<|Pl 1<|aq<|m3 (dg I) fun fb dA bN fc=>L0<|tR ((ag.mk b false 0).byteV)<|Pl 1<|?_
 have bO:=nb (ai y) lr d
 refine L0<|bE (aS bN (Ne.symm bO) H) 4 (mG c 0 0 0 ((ag.mk b false 0).byteV) 0 0 0 0 0 0 0 nS nS nS nS 0 0 0 0 0 nS) fun fd dC bP=>nl<|bn<|?_
 have bQ:=us bN bP
 exact jn (((ag.mk b false 0).bytesC 1),_,(b6.mk c 0 0 0 ((ag.mk b false 0).byteV) 0 0 0 0 0 0 0 [] [] [] [] 0 0 0 0 0 [])) ⟨bQ,(RC.upd dA bP (aa bO ax) (ut z bQ (ac (ni a.size g) (ac (ni (le a.size i.size) d) aA)))),dC,⟨_,_,_,_,_,rfl,aG.nil ..,aG.nil ..,(fun _ _ _=>aG.nil ..),aG.nil ..,aG.nil ..,(bR (by omega))⟩,by unfold aj bI dq cV;(try simp only[j,o,B,bp,cQ,cN,cR,cP,cO,reduceIte,ij,iw])<;>rfl⟩
 have dz:=au B
 refine az 3<|cb ((c==11)) (fun E=>?_) (fun E=>?_)
 have dD:=ap E
 refine al 1<|aq<|m3 (c8 I) fun fe dE bS ff=>Pl 1<|?_
 have X:=nb (ai y) lr d
 refine L0<|bE (aS bS (Ne.symm X) H) 9 (mG c 0 0 0 0 0 0 0 0 ((ag.mk b false 0).wordV) 0 0 nS nS nS nS 0 0 0 0 0 nS) fun fg aL bT=>aK 2<|aF aL 9<|Pl 2<|dX 4 [137] 141 137 (((ag.mk b false 0).wordV)==0) (((ag.mk b false 0).wordV)==65535) (fun K dF dG=>?_) ?_
 have fh:=au dG
 exact Pl 1<|L1<|cY aL 9<|Pl 2<|ce dF _ rfl
 have bU:=us bS bT
 have bV:=ut z bU (ac (ni a.size g) (ac (ni (le a.size i.size) d) aA))
 refine aq<|m2 (aP (((((ag.mk b false 0).wordV)==0)||(((ag.mk b false 0).wordV)==65535))) 6 (RC.upd dE bT (aa X ax) bV)) fun fi dH dI=>?_
 refine eI dH fun aM dJ dK=>?_
 refine nt<|go<|Pl 1<|aq<|m3 (c8 dK) fun fj dL dM fk=>Pl 1<|?_
 have bW:=u1 dI dM im
 refine L0<|bE (aS bW (Ne.symm X) aL) 10 (mG c 0 0 0 0 0 0 0 0 ((ag.mk b false 0).wordV) aM.wordV 0 nS nS nS nS 0 0 0 0 0 nS) fun fl dN bX=>nl<|bn<|?_
 have bY:=us bW bX
 exact jn ((aM.wordsC 1),_,(b6.mk c 0 0 0 0 0 0 0 0 ((ag.mk b false 0).wordV) aM.wordV 0 [] [] [] [] 0 0 0 0 0 [])) ⟨(ut bU bY (ac im (ac im aA))),(RC.upd dL bX (aa X ax) (ut bV bY (ac (ni a.size g) (ac (ni (le a.size i.size) d) aA)))),dN,⟨_,_,_,_,_,rfl,aG.nil ..,aG.nil ..,(fun _ _ _=>aG.nil ..),aG.nil ..,aG.nil ..,(bR (by omega))⟩,by subst dJ;unfold aj bI dq cV;(try simp only[j,o,B,E,bp,cQ,cN,cR,cP,cO,reduceIte,ij,iw])<;>rfl⟩
 have dD:=au E
 refine az 3<|cb ((c==12)) (fun Q=>?_) (fun Q=>?_)
 have dO:=ap Q
 refine al 1<|aq<|m3 (dg I) fun fm dP dQ fn=>bt ((ag.mk b false 0).byteV)<|Pl 1<|aK 4<|dc 3 [155] 158 155 (decide (6≤((ag.mk b false 0).byteV))) (decide (((ag.mk b false 0).byteV)≤70)) (fun K dR dS=>?_) ?_
 have fo:=of_decide_eq_true dS
 exact Pl 3<|ce dR _ rfl
 refine aq<|m2 (aP (((decide (6≤((ag.mk b false 0).byteV)))&&(decide (((ag.mk b false 0).byteV)≤70)))) 5 dP) fun fp dT dU=>?_
 refine eI dT fun q dV dY=>?_
 refine aK 1<|aq<|m3 (c8 dY) fun fq dZ e0 fr=>Pl 1<|?_
 have bZ:=u1 dQ (u1 dU e0 im) im
 have t:=nb (ai y) lr d
 refine L0<|bE (aS bZ (Ne.symm t) H) 9 (mG c 0 0 0 0 0 0 0 0 q.wordV 0 0 nS nS nS nS 0 0 0 0 0 nS) fun ft aN c1=>aK 2<|aF aN 9<|Pl 2<|dX 4 [167] 171 167 (q.wordV==0) (q.wordV==65535) (fun K e1 e2=>?_) ?_
 have fu:=au e2
 exact Pl 1<|L1<|cY aN 9<|Pl 2<|ce e1 _ rfl
 have c2:=us bZ c1
 have c3:=ut z c2 (ac (ni a.size g) (ac (ni (le a.size i.size) d) aA))
 refine aq<|m2 (aP (((q.wordV==0)||(q.wordV==65535))) 6 (RC.upd dZ c1 (aa t ax) c3)) fun fv e3 e4=>?_
 refine eI e3 fun k e5 e6=>?_
 refine aK 1<|aq<|m3 (c8 e6) fun fw e7 e8 fx=>Pl 1<|?_
 have c4:=u1 e4 e8 im
 refine L0<|bE (aS c4 (Ne.symm t) aN) 10 (mG c 0 0 0 0 0 0 0 0 q.wordV k.wordV 0 nS nS nS nS 0 0 0 0 0 nS) fun fy e9 c5=>aK 1<|?_
 have c6:=us c4 c5
 have c7:=ut c3 c6 (ac (ni a.size g) (ac (ni (le a.size i.size) d) aA))
 refine aq<|m3 (c8 (RC.upd e7 c5 (aa t ax) c7)) fun fz ea ca fA=>Pl 1<|?_
 refine L0<|bE (aS ca (Ne.symm t) e9) 11 (mG c 0 0 0 0 0 0 0 0 q.wordV k.wordV ((k.wordsC 1).wordV) nS nS nS nS 0 0 0 0 0 nS) fun fB eb cc=>nt<|go<|Pl 2<|bt (((ag.mk b false 0).byteV)-6)<|?_
 have cd:=us ca cc
 have cf:=ut c7 cd (ac (ni a.size g) (ac (ni (le a.size i.size) d) aA))
 have cg:=RC.upd ea cc (aa t ax) cf
 refine aq<|mu (eC (n:=(((ag.mk b false 0).byteV)-6)) (by omega) cg) fun ec ed fC ee ef ch=>?_
 have fD:=Nat.le_trans (ag.bytesR_le ((k.wordsC 1).wordsC 1) (((ag.mk b false 0).byteV)-6)) (RC.clen cg)
 refine eI ef fun eg eh ei=>?_
 refine Pl 1<|?_
 refine L0<|bE (aS ch (Ne.symm t) eb) 14 (mG c 0 0 0 0 0 0 0 0 q.wordV k.wordV ((k.wordsC 1).wordV) nS nS (.slice ec ((((k.wordsC 1).wordsC 1).bytesR (((ag.mk b false 0).byteV)-6)).length) ed) nS 0 0 0 0 0 nS) fun fE ej ci=>nl<|bn<|?_
 have cj:=us ch ci
 exact jn (eg,_,(b6.mk c 0 0 0 0 0 0 0 0 q.wordV k.wordV ((k.wordsC 1).wordV) [] [] (((k.wordsC 1).wordsC 1).bytesR (((ag.mk b false 0).byteV)-6)) [] 0 0 0 0 0 [])) ⟨(ut c2 (ut c6 (ut cd cj (ac im (ac im aA))) (ac im (ac im aA))) (ac im (ac im aA))),(RC.upd ei ci (aa t ax) (ut cf cj (ac (ni a.size g) (ac (ni (le a.size i.size) d) aA)))),ej,⟨_,_,_,_,_,rfl,aG.nil ..,aG.nil ..,ee,aG.nil ..,aG.nil ..,(bR (by omega))⟩,by subst eh e5 dV;unfold aj bI dq cV;(try simp only[j,o,B,E,Q,bp,cQ,cN,cR,cP,cO,reduceIte,ij,iw])<;>rfl⟩
 have dO:=au Q
 refine al 1<|aq<|m3 (dg I) fun fF ek el fG=>bt ((ag.mk b false 0).byteV)<|Pl 1<|aK 4<|dc 3 [52] 55 52 (decide (1≤((ag.mk b false 0).byteV))) (decide (((ag.mk b false 0).byteV)≤251)) (fun K em eo=>?_) ?_
 have fH:=of_decide_eq_true eo
 exact Pl 3<|ce em _ rfl
 refine aq<|m2 (aP (((decide (1≤((ag.mk b false 0).byteV)))&&(decide (((ag.mk b false 0).byteV)≤251)))) 5 ek) fun fI ep eq=>?_
 refine eI ep fun Y es ck=>?_
 refine nt<|go<|Pl 2<|aq<|mu (eC (n:=(ag.mk b false 0).byteV) (by omega) ck) fun et eu fJ ev ew ex=>?_
 have fK:=Nat.le_trans (ag.bytesR_le Y ((ag.mk b false 0).byteV)) (RC.clen ck)
 refine Pl 1<|?_
 have cl:=u1 el (u1 eq ex im) im
 have cm:=nb (ai y) lr d
 refine L0<|bE (aS cl (Ne.symm cm) H) 14 (mG c 0 0 0 0 0 0 0 0 0 0 0 nS nS (.slice et ((Y.bytesR ((ag.mk b false 0).byteV)).length) eu) nS 0 0 0 0 0 nS) fun fL ey co=>nl<|bn<|?_
 have cq:=us cl co
 exact jn ((Y.bytesC ((ag.mk b false 0).byteV)),_,(b6.mk c 0 0 0 0 0 0 0 0 0 0 0 [] [] (Y.bytesR ((ag.mk b false 0).byteV)) [] 0 0 0 0 0 [])) ⟨cq,(RC.upd ew co (aa cm ax) (ut z cq (ac (ni a.size g) (ac (ni (le a.size i.size) d) aA)))),ey,⟨_,_,_,_,_,rfl,aG.nil ..,aG.nil ..,ev,aG.nil ..,aG.nil ..,(bR (by omega))⟩,by subst es;unfold aj bI dq cV;(try simp only[j,o,B,E,Q,bp,cQ,cN,cR,cP,cO,reduceIte,ij,iw])<;>rfl⟩
theorem jt(hcode:B8 c)(hsl:aV m w (.slice A b.length cp) b)(hb:b.length≤1048576)(hd:¬ (dir=0∨dir=1)) :
    Calls Tryz.prog 111 #[vI dir,vB c,.slice A b.length cp] w (cA (.slice A b.length cp) b (aj bI dir c b) w):=by
 obtain⟨hcode1,hcode2⟩:=hcode
 have hln:(b.length:Int)≤1048576:=by omega
 have e0:(dir != 0)=true:=by simp;omega
 have e1:(dir != 1)=true:=by simp;omega
 refine en 197 Tryz.func111 rfl<|sg<|aJ mZ fun g h a d e=>am 1<|sq<|al 3<|sy 17 e0<|Pl 3<|nl<|tn<|ct e1<|al 1<|aB d mZ fun i dC f=>am 1<|bq<|c9 dC (vI 1)<|?_
 exact cZ (by unfold aj bI dq cV;(try simp only[e0,e1,bp,cQ,cN,cR,cP,cO,reduceIte,hd,ij,iw])<;>rfl) (bi (ud e f a))
open Go.RowKit
theorem dp{ok:Bool}  (h:C.e≠0) : C.need ok x=C:=by
  unfold ag.need
  rw[if_neg fun k=>h k.1]
theorem e9(h:C.fails n=true) : (C.bytesC n).e≠0:=by
  unfold ag.bytesC
  rw[if_pos h]
  unfold ag.need
  split
  · exact(show(2:Int)≠0 from by decide)
  · rename_i k
    intro e
    exact k ⟨e,rfl⟩
theorem kJ(h:(C.wordsR 1).length≠1) : (C.wordsC 1).e≠0:=by
  unfold ag.wordsR at h
  unfold ag.wordsC
  split
  · exact e9 (by unfold ag.fails;simp)
  · rename_i hb
    rw[if_neg hb] at h
    by_cases hf:C.fails (2*1)=true
    · exact e9 hf
    · exfalso
      apply h
      unfold ag.bytesR
      rw[if_neg hf]
      unfold ag.fails at hf
      simp only[Bool.or_eq_true,decide_eq_true_eq,not_or] at hf
      rcases e:C.l with _|⟨a,_|⟨b,t⟩⟩
      · rw[e] at hf;simp at hf
      · rw[e] at hf;simp at hf
      · show(bO [a,b]).length=1
        unfold bO
        rw[if_pos (by simp)]
        simp[co]
theorem np(h:(C.wordsR 1).length=1) : [C.wordV]=C.wordsR 1:=by
  unfold ag.wordV
  rcases e:C.wordsR 1 with _|⟨a,_|⟨b,t⟩⟩
  · rw[e] at h;simp at h
  · rfl
  · rw[e] at h;simp at h
theorem ou{M':b6}  (h:C.e≠0) : bj M C=bj M' C:=by
  unfold bj
  have e:C.endC.e≠0:=by unfold ag.endC;rw[dp h];exact h
  rw[if_neg e,if_neg e]
theorem p2(dir:Int)(C:ag) : dO dir C=ek dir C:=by
  unfold dO ek
  rw[Bool.or_comm]
theorem pa(dir c:Int)(C:ag) : bj (dq dir c C).2 (dq dir c C).1=bj (eA dir c C).2 (eA dir c C).1:=by
  unfold dq eA
  rw[p2]
  by_cases h0:C.wordV=0
  · rw[h0,if_pos (show((0:Int)==0)=true from rfl),if_neg (show ¬ ((0:Int)!=0)=true from by decide)]
  · rw[if_neg (by simpa using h0),if_pos (by simpa using h0)]
    by_cases h1:((ek dir C).wordsR 1).length=1
    · rw[np h1,show((((ek dir C).wordsR 1).length:Int)==1)=true from by rw[h1];rfl,Bool.true_and]
      rfl
    · have k:=kJ h1
      dsimp only
      rw[dp k,dp k]
      exact ou k
theorem js{f f':Int→Int→ag→Option (ag × b6)}   (h:∀ C,(dir=0∨dir=1)→(f dir c C=none∧f' dir c C=none)∨∃ r r',f dir c C=some r∧f' dir c C=some r'∧bj r.2 r.1=bj r'.2 r'.1) : aj f dir c b=aj f' dir c b:=by
  unfold aj
  split
  · rename_i hd
    rcases h ⟨b,false,0⟩ hd with⟨h1,h2⟩|⟨r,r',h1,h2,h3⟩
    · rw[h1,h2]
    · rw[h1,h2];exact h3
  · rfl
theorem kC(dir c:Int)(b:List Int) : aj bI dir c b=aj bh dir c b:=by
  refine js fun C hd=>?_
  unfold bI bh
  by_cases h8:c=8
  · subst h8
    exact .inr ⟨_,_,rfl,rfl,pa dir 8 C⟩
  · by_cases h:c=7∨c=11∨c=12∨c=17
    · refine .inr ?_
      rw[if_neg (show ¬ (((((c != 7)&&(c != 8))&&(c != 11))&&(c != 12))&&(c != 17))=true from by rcases h with rfl | rfl | rfl | rfl<;>decide),if_neg (show ¬ (c==8)=true from by simpa using h8),if_neg (show ¬ (c==8)=true from by simpa using h8),if_pos (show(c==7 || c==11 || c==12 || c==17)=true from by rcases h with rfl | rfl | rfl | rfl<;>decide)]
      rcases hd with rfl|rfl
      · exact⟨_,_,rfl,rfl,rfl⟩
      · refine⟨_,_,rfl,rfl,?_⟩
        rcases h with rfl|rfl|rfl|rfl<;>rfl
    · refine .inl ?_
      rw[if_pos (show(((((c != 7)&&(c != 8))&&(c != 11))&&(c != 12))&&(c != 17))=true from by simp;omega),if_neg (show ¬ (c==8)=true from by simpa using h8),if_neg (show ¬ (c==7 || c==11 || c==12 || c==17)=true from by simp;omega)]
      exact⟨rfl,rfl⟩
open Go.RowKit
theorem kB:dG n=if n<1 then 0 else n/8+(if 0<n%8 then 1 else 0):=by
  unfold dG
  split
  · rfl
  · split<;>omega
theorem iS(l:List Bool)(j:Nat) : cj (l.take (8*j)) j=0:=by
  have h:=pg l (8*j)
  rw[show 8*j/8=j from by omega,show 8*j%8=0 from by omega] at h
  omega
variable {j t:Nat}{l:List Bool}
theorem hZ(ht:t<8) : cj (l.take (8*j+t+1)) j=cj (l.take (8*j+t)) j+if l.getD (8*j+t) false=true then 2 ^ t else 0:=by
  rw[ll,show(8*j+t)/8=j from by omega,show(8*j+t)%8=t from by omega]
  simp
theorem ol(h:t=8∨l.length≤8*j+t) : cj (l.take (8*j+t)) j=cj l j:=by
  rcases h with rfl|h
  · unfold cj
    simp only[fW]
    simp
  · rw[List.take_of_length_le h]
theorem qE(h1:l.length≤8*j)(h2:8*j<l.length+8) : (List.range j).map (fun i=>(cj l i:Int))=dh l:=by
  unfold dh
  rw[show(dG l.length).toNat=j from by unfold dG;split<;>omega]
theorem p6(l:List Bool) : ((dh l).length:Int)=dG l.length:=by
  unfold dh
  rw[List.length_map,List.length_range]
  unfold dG
  split<;>omega
theorem vl:∀ x0 x1 x2 x3 x4 x5 x6 x7:Bool,∀ t:Fin 8,(((((if x0=true then 1 else 0)+(if x1=true then 2 else 0)+(if x2=true then 4 else 0)+(if x3=true then 8 else 0)+(if x4=true then 16 else 0)+(if x5=true then 32 else 0)+(if x6=true then 64 else 0)+(if x7=true then 128 else 0) : Nat) : Int)/2 ^ t.val%2==1)=[x0,x1,x2,x3,x4,x5,x6,x7].getD t.val false):=by decide +kernel
theorem sR(ht:t<8) : ((cj l j:Int)/2 ^ t%2==1)=l.getD (8*j+t) false:=by
  have h:=vl (l.getD (8*j) false) (l.getD (8*j+1) false) (l.getD (8*j+2) false) (l.getD (8*j+3) false) (l.getD (8*j+4) false) (l.getD (8*j+5) false) (l.getD (8*j+6) false) (l.getD (8*j+7) false) ⟨t,ht⟩
  refine h.trans ?_
  rcases t with _|_|_|_|_|_|_|_|t
  case succ.succ.succ.succ.succ.succ.succ.succ=>omega
  all_goals rfl
theorem mi(l:List Bool) : bX (dh l) (l.length:Int)=some ((List.range l.length).map (bM (dh l))):=by
  have hl:=p6 l
  unfold bX
  rw[if_pos ⟨by omega,hl⟩,if_pos,show((l.length:Int)).toNat=l.length from by omega]
  rw[List.all_eq_true]
  intro i hi
  have hi:i<8*(dh l).length:=by simpa using hi
  simp only[Bool.or_eq_true,decide_eq_true_eq,Bool.not_eq_true']
  by_cases h:(i:Int)<l.length
  · exact .inl h
  · refine .inr ?_
    have hj:i/8<(dh l).length:=by omega
    unfold bM
    have e:(dh l).getD (i/8) 0=(cj l (i/8) : Int):=by
      have hj2:i/8<(dG (l.length:Int)).toNat:=by omega
      unfold dh
      rw[List.getD_eq_getElem?_getD,List.getElem?_map,List.getElem?_range hj2]
      rfl
    rw[e,sR (Nat.mod_lt _ (by decide)),show 8*(i/8)+i%8=i from by omega,List.getD_eq_getElem?_getD,List.getElem?_eq_none (by omega)]
    rfl
theorem lV(hr:∀ x,x∈b→0≤x∧x<256)(h0:0≤n) : bX b n=if dh ((List.range n.toNat).map (bM b))=b then some ((List.range n.toNat).map (bM b)) else none:=by
  by_cases h:dh ((List.range n.toNat).map (bM b))=b
  · rw[if_pos h]
    have k:=mi ((List.range n.toNat).map (bM b))
    rw[h,List.length_map,List.length_range,show((n.toNat:Nat) : Int)=n from by omega] at k
    exact k
  · rw[if_neg h]
    cases e:bX b n with
    | none=>rfl
    | some l =>
      exfalso
      have k:=mb hr e
      unfold bX at e
      split at e
      · split at e
        · injection e with e;rw[e] at h;exact h k
        · cases e
      · cases e
open Go.RowKit
theorem u6(hn : -1048576≤n∧n≤1048576) : Calls Tryz.prog 171 #[vI n] w (cg (vI (dG n)) w):=by
 refine en 14 Tryz.func171 rfl<|az 1<|sq<|az 2<|cb ((decide (n<1))) (fun a=>?_) (fun a=>?_)
 have c:=of_decide_eq_true a
 refine az 1<|bq<|rr (vI 0)<|?_
 have hs:dG n=0:=by rw[kB];split<;>(try split)<;>omega
 rw[hs]
 exact⟨rfl,(aC.refl [] _)⟩
 have c:=of_decide_eq_false a
 refine bu<|al 1<|L0<|Oe (vI (IntKind.i64.wrap (Int.tdiv n 8))) (vI (n/8)) (congrArg (Value.int .i64) (eJ (by omega) (by omega)))<|am 1<|sq<|al 1<|L0<|Oe (vI (Int.tmod n 8)) (vI (n%8)) (congrArg (Value.int .i64) (Int.tmod_eq_emod_of_nonneg (by omega)))<|am 1<|cb ((decide (0<(n%8)))) (fun b=>?_) (fun b=>?_)
 have d:=of_decide_eq_true b
 refine go<|Pl 1<|bt ((n/8)+1)<|Pl 1<|cJ 2<|rt<|rr (vI ((n/8)+1))<|?_
 have hs:dG n=((n/8)+1):=by rw[kB];split<;>(try split)<;>omega
 rw[hs]
 exact⟨rfl,(aC.refl [] _)⟩
 have d:=of_decide_eq_false b
 refine bu<|az 2<|rt<|rr (vI (n/8))<|?_
 have hs:dG n=(n/8):=by rw[kB];split<;>(try split)<;>omega
 rw[hs]
 exact⟨rfl,(aC.refl [] _)⟩
theorem oc(l:List Bool)(j t:Nat)(ht:t≤8) : cj (l.take (8*j+t)) j<2 ^ t:=by
  induction t with
  | zero=>rw[Nat.add_zero,iS];decide
  | succ t ih =>
    have h:=ih (by omega)
    rw[← Nat.add_assoc,hZ (by omega),Nat.pow_succ]
    split<;>omega
theorem r3(ht:t≤8) : 2 ^ t≤256:=by
  rcases t with _|_|_|_|_|_|_|_|_|t
  case succ.succ.succ.succ.succ.succ.succ.succ.succ=>omega
  all_goals decide
theorem p5(h1:¬ 8*j<l.length)(h2:8*j<l.length+8) : (List.range j).map (fun i=>(cj l i:Int))=dh l:=qE (by omega) h2
theorem pO(hc:c=(cj (l.take (8*j+t)) j:Int))(ht:t≤8)(h:t=8∨l.length≤8*j+t) : c%256=(cj l j:Int):=by
  have h1:=oc l j t ht
  have h2:=r3 ht
  rw[ol h] at hc h1
  omega
theorem tD(h:ig m w (.slice A l.length cp) l)(hn:l.length≤1048576) : Calls Tryz.prog 223 #[.slice A l.length cp] w (sF l w):=by
 refine en 42 Tryz.func223 rfl<|al 1<|cJ 1<|sq<|az 1<|bk<|iq (fun x=>[(0,.slice A l.length cp),(2,nS),(3,.slice x.2.2.1 x.2.1.length x.2.2.2),(4,vI ((8*x.1:Nat) : Int))]) (fun(x:Nat × List Int × Option Addr × Nat) w'=>aC [] w w'∧fq w.heap.size w' (.slice x.2.2.1 x.2.1.length x.2.2.2) x.2.1∧(8*x.1<l.length+8)∧(x.2.1=(List.range x.1).map (fun i=>(cj l i:Int)))) (fun x=>l.length+8-8*x.1) (0,[],none,0) ⟨aC.refl _ _,(aT.nil w.heap.size _ _ mv _),(by(try dsimp only);omega),rfl⟩ ?_
 rintro⟨j,L,B,cq⟩ q ⟨d,s,y,z⟩
 refine fs [(0,.slice A l.length cp),(2,nS),(3,.slice B L.length cq),(4,vI ((8*j:Nat) : Int))] ?_
 have f:fq w.heap.size q (.slice B L.length cq) L:=s
 have Y:8*j<l.length+8:=y
 have g:L=(List.range j).map (fun i=>(cj l i:Int)):=z
 have hLn:L.length=j:=by rw[g,List.length_map,List.length_range]
 refine sq<|az 4<|cb ((decide (((8*j:Nat) : Int)<(l.length:Int)))) (fun k=>?_) (fun k=>?_)
 have C:=of_decide_eq_true k
 refine bu<|sq<|bk<|al 1<|cJ 1<|sq<|az 2<|bk<|iq (fun x=>[(0,.slice A l.length cp),(2,nS),(3,.slice B L.length cq),(4,vI ((8*j:Nat) : Int)),(5,vI x.2.1),(6,vI x.2.2),(7,vI ((8*j+x.1:Nat) : Int)),(8,vI ((8*j:Nat) : Int)),(9,.slice A l.length cp),(10,vI (l.length:Int)),(11,.bool (decide (((8*j:Nat) : Int)<(l.length:Int)))),(14,vI ((8*j:Nat) : Int))]) (fun(x:Nat × Int × Int) w'=>aC [] q w'∧(x.1≤8)∧(x.2.1=(cj (l.take (8*j+x.1)) j:Int))∧(x.2.2=((2 ^ x.1:Nat) : Int))) (fun x=>8-x.1) (0,0,1) ⟨aC.refl _ _,(by(try dsimp only);omega),(by(try dsimp only);rw[Nat.add_zero,iS];rfl),rfl⟩ ?_
 rintro⟨t,c,u⟩ Z ⟨a,D,E,F⟩
 refine fs [(0,.slice A l.length cp),(2,nS),(3,.slice B L.length cq),(4,vI ((8*j:Nat) : Int)),(5,vI c),(6,vI u),(7,vI ((8*j+t:Nat) : Int)),(8,vI ((8*j:Nat) : Int)),(9,.slice A l.length cp),(10,vI (l.length:Int)),(11,.bool (decide (((8*j:Nat) : Int)<(l.length:Int)))),(14,vI ((8*j:Nat) : Int))] ?_
 have a0:t≤8:=D
 have G:c=(cj (l.take (8*j+t)) j:Int):=E
 have a1:u=((2 ^ t:Nat) : Int):=F
 have hpl:=oc l j t (by omega)
 have hpp:=r3 (t:=t) (by omega)
 refine sq<|al 5<|dc 5 [19] 24 19 (decide (((8*j+t:Nat) : Int)<(l.length:Int))) (decide (((8*j+t:Nat) : Int)<(((8*j:Nat) : Int)+8))) (fun K H I=>?_) ?_
 have a2:=of_decide_eq_true I
 exact Pl 2<|L1<|Oi (((8*j:Nat) : Int)+8)<|Pl 2<|ce H _ rfl
 refine nt<|?_
 have r:=aQ d a
 refine cb (((decide (((8*j+t:Nat) : Int)<(l.length:Int)))&&(decide (((8*j+t:Nat) : Int)<(((8*j:Nat) : Int)+8))))) (fun b=>?_) (fun b=>?_)
 have J:=(aW b).1
 have M:=(aW b).2
 have a3:=of_decide_eq_true J
 have a4:=of_decide_eq_true M
 refine bu<|sq<|bk<|sq<|al 2<|?_
 refine v7 (ig.at_ (ig.old h r) (8*j+t) (by omega)) fun N O P Q=>L0<|ia l.length (8*j+t) P (by omega)<|L0<|er (p:=⟨N,O+(8*j+t),none⟩) (v:=.bool (l.getD (8*j+t) false)) Q<|nt<|cb ((l.getD (8*j+t) false)) (fun n=>?_) (fun n=>?_)
 exact go<|Pl 2<|bt (c+u)<|am 1<|go<|Pl 1<|bt (2*u)<|Pl 1<|nl<|bn<|tn<|go<|Pl 1<|bt (((8*j+t:Nat) : Int)+1)<|Pl 1<|nl<|fv ((t+1),(c+u),(2*u)) ⟨a,(by(try dsimp only);omega),(by(try dsimp only);rw[← Nat.add_assoc,hZ (by omega),if_pos n];omega),(by(try dsimp only);rw[Nat.pow_succ];omega)⟩ (by omega)
 exact bu<|go<|Pl 1<|bt (2*u)<|Pl 1<|nl<|bn<|tn<|go<|Pl 1<|bt (((8*j+t:Nat) : Int)+1)<|Pl 1<|nl<|fv ((t+1),c,(2*u)) ⟨a,(by(try dsimp only);omega),(by(try dsimp only);rw[← Nat.add_assoc,hZ (by omega),if_neg (by rw[n];decide)];omega),(by(try dsimp only);rw[Nat.pow_succ];omega)⟩ (by omega)
 refine xt<|tx<|tx<|bx<|tn<|go<|Pl 3<|L0<|gv (m:=1) (e:=5) #[vB (c%256)] fun a5 a6 R S o=>?_
 have T:=mh R (xs:=[(c%256)]) (by as_aux_lemma=>kernel_rfl) (aO (by omega) dB) (by(try simp only[List.length_cons,List.length_nil]);omega) S
 refine L0<|sX qx (xs:=L) (ys:=([(c%256)])) (vB 0) 1 (av f (aQ a o) (fun x hx=>ax) (fun _ _ h=>h)) (T).rd (by(try simp only[ef,be]);omega) (le (le d.size a.size) o.size) fun U V a7 W X=>Pl 1<|nl<|bn<|tn<|go<|Pl 1<|bt (((8*j:Nat) : Int)+8)<|Pl 1<|nl<|?_
 exact fv ((j+1),(L++[(c%256)]),U,V) ⟨(ut r (ut (aC.mono (S':=(ob B++[])) o aA) X (aH il aA)) (aH (c7 f lr) aA)),W,(by(try dsimp only);omega),(by(try dsimp only);rw[g,List.range_succ,List.map_append];show _++[_]=_++[_];rw[pO G (by omega) (by have hq:=b;simp only[Bool.and_eq_false_iff,decide_eq_false_iff_not] at hq;omega)])⟩ (by omega)
 have C:=of_decide_eq_false k
 refine xt<|tx<|tx<|bx<|tn<|az 2<|rt<|rr (.slice B L.length cq)<|?_
 have hs:L=dh l:=by rw[g];exact p5 (by omega) (by omega)
 exact⟨_,rfl,by rw[← hs];exact f,d⟩
theorem uA(h:ig m w v l)(hn:l.length≤1048576) : Calls Tryz.prog 223 #[v] w (sF l w):=by
  obtain⟨A,c,rfl,_,_⟩:=h.shape
  exact tD h hn
theorem pV{P:Program}  {ev:Operand→Value}{o:Oper}{x y:Operand}{t t':TypeId}{a b:ByteArray}{v:Bool}(ho:o.op = .binOp .neq t x y t')(hx:ev x = .string a)(hy:ev y = .string b)(hv:(a.toList==b.toList)=v) : (execOp ev o).run P w = .ok (.value (.bool !v)) w:=by
  have hg:eqGuard .neq t x y (.string a) (.string b)=pure ():=rfl
  unfold execOp
  simp only[ho,hx,hy,hg,binOp_string_neq,Sem.run_bind,Sem.run_pure,Result.andThen,hv]
theorem vt{cs:Array Value}{xs:List Bool}(hg:w0.heap.size≤g)(hcs:cs=(xs.map Value.bool).toArray)(hl:xs.length≤4194304)(hb:w.heap[g]? = some (.cells cs 4 (0,0))) :
    rO w0.heap.size w (.slice (some ⟨g,0,none⟩) xs.length xs.length) xs:=sL (enc:=Value.bool) hg hcs (fun x h=>rfl) hl hb
variable {k:Nat}
theorem oL(h:c=x/2 ^ k) : c/2=x/2 ^ (k+1):=by
  rw[h,Int.ediv_ediv_of_nonneg (Int.le_of_lt (Int.pow_pos (by decide))),Int.pow_succ]
theorem qW(hx:0≤x∧x<256)  (h:c=x/2 ^ k) : 0≤c∧c<256:=by
  have h1:(1:Int)≤2 ^ k:=Int.pow_pos (by decide)
  subst h
  exact⟨Int.ediv_nonneg hx.1 (by omega),Int.lt_of_le_of_lt (Int.ediv_le_self _ hx.1) hx.2⟩
theorem ox{l:List Int}{i:Nat}(h:i<l.length) : l.getD i 0∈l:=by
  rw[List.getD_eq_getElem?_getD,List.getElem?_eq_getElem h]
  exact List.getElem_mem h
theorem qt(h:aV m w (.slice A b.length cp) b)(hl:b.length≤1048576)(hn : -1048576≤n∧n≤1048576) : Calls Tryz.prog 172 #[.slice A b.length cp,vI n] w (eL b n w):=by
 have hb:=aV.range h
 refine en 51 Tryz.func172 rfl<|az 2<|sq<|al 3<|dX 6 [12] 18 12 (decide (n<0)) (decide ((8*(b.length:Int))<n)) (fun K P Q=>?_) ?_
 have ad:=of_decide_eq_false Q
 exact Pl 3<|L1<|Oi (8*(b.length:Int))<|Pl 2<|ce P _ rfl
 refine nt<|cb (((decide (n<0))||(decide ((8*(b.length:Int))<n)))) (fun f=>?_) (fun f=>?_)
 refine az 2<|bq<|rr (.tuple #[nS,.bool false])<|?_
 have hq:=f
 have hs:bX b n=none:=by unfold bX;rw[if_neg];rintro⟨h1,h2⟩;simp only[Bool.or_eq_true,decide_eq_true_eq] at hq;rw[kB] at h2;split at h2<;>(try split at h2)<;>omega
 exact dY hs (aC.refl [] _)
 have R:=(cl f).1
 have S:=(cl f).2
 have ae:=of_decide_eq_false R
 have af:=of_decide_eq_false S
 refine bu<|az 1<|sq<|az 1<|bk<|iq (fun x=>[(0,.slice A b.length cp),(1,vI n),(4,nS),(5,.bool false),(6,.slice x.2.2.1 x.2.1.length x.2.2.2),(7,vI (x.1:Int))]) (fun(x:Nat × List Bool × Option Addr × Nat) w'=>aC [] w w'∧rO w.heap.size w' (.slice x.2.2.1 x.2.1.length x.2.2.2) x.2.1∧((x.1:Int)≤n)∧(x.2.1=(List.range x.1).map (bM b))) (fun x=>n.toNat-x.1) (0,[],none,0) ⟨aC.refl _ _,(aT.nil w.heap.size _ _ mf _),(by(try dsimp only);omega),rfl⟩ ?_
 rintro⟨i,L,B,cq⟩ G ⟨g,T,U,V⟩
 refine fs [(0,.slice A b.length cp),(1,vI n),(4,nS),(5,.bool false),(6,.slice B L.length cq),(7,vI (i:Int))] ?_
 have q:rO w.heap.size G (.slice B L.length cq) L:=T
 have ag:(i:Int)≤n:=U
 have j:L=(List.range i).map (bM b):=V
 have hLn:L.length=i:=by rw[j,List.length_map,List.length_range]
 have hi8:((i:Int)/8).toNat=i/8:=by omega
 refine sq<|az 3<|cb ((decide ((i:Int)<n))) (fun r=>?_) (fun r=>?_)
 have W:=of_decide_eq_true r
 refine bu<|sq<|bk<|al 2<|L0<|Oe (vI (IntKind.i64.wrap (Int.tdiv (i:Int) 8))) (vI ((i:Int)/8)) (congrArg (Value.int .i64) (eJ (by omega) (by omega)))<|?_
 refine eH (aV.at_ (aV.old h g) ((((i:Int)/8)).toNat) (by omega)) fun s t X Y ah=>L0<|uq b.length ((((i:Int)/8)).toNat) ((i:Int)/8) (by omega) X (by omega)<|L0<|er (p:=⟨s,t+((((i:Int)/8)).toNat),none⟩) (v:=vB (b.getD ((((i:Int)/8)).toNat) 0)) Y<|bt (b.getD ((((i:Int)/8)).toNat) 0)<|am 1<|sq<|az 1<|bk<|iq (fun x=>[(0,.slice A b.length cp),(1,vI n),(4,nS),(5,.bool false),(6,.slice B L.length cq),(7,vI (i:Int)),(8,vI x.2),(9,vI (x.1:Int)),(19,vI (i:Int)),(20,vI n),(21,.bool (decide ((i:Int)<n))),(24,.slice A b.length cp),(25,vI (i:Int)),(26,vI ((i:Int)/8)),(27,.pointer (some (⟨s,t+((((i:Int)/8)).toNat),none⟩))),(28,vB (b.getD ((((i:Int)/8)).toNat) 0)),(29,vI (b.getD ((((i:Int)/8)).toNat) 0))]) (fun(x:Nat × Int) w'=>aC [] G w'∧(x.1≤i%8)∧(x.2=b.getD (i/8) 0/2 ^ x.1)) (fun x=>8-x.1) (0,(b.getD ((((i:Int)/8)).toNat) 0)) ⟨aC.refl _ _,(by(try dsimp only);omega),(by(try dsimp only);rw[hi8,Int.pow_zero,Int.ediv_one])⟩ ?_
 rintro⟨k,c⟩ ai ⟨o,Z,a0⟩
 refine fs [(0,.slice A b.length cp),(1,vI n),(4,nS),(5,.bool false),(6,.slice B L.length cq),(7,vI (i:Int)),(8,vI c),(9,vI (k:Int)),(19,vI (i:Int)),(20,vI n),(21,.bool (decide ((i:Int)<n))),(24,.slice A b.length cp),(25,vI (i:Int)),(26,vI ((i:Int)/8)),(27,.pointer (some (⟨s,t+((((i:Int)/8)).toNat),none⟩))),(28,vB (b.getD ((((i:Int)/8)).toNat) 0)),(29,vI (b.getD ((((i:Int)/8)).toNat) 0))] ?_
 have aj:k≤i%8:=Z
 have u:c=b.getD (i/8) 0/2 ^ k:=a0
 have hcr:=qW (hb _ (ox (l:=b) (i:=i/8) (by omega))) u
 refine sq<|al 2<|L0<|Oe (vI (Int.tmod (i:Int) 8)) (vI ((i:Int)%8)) (congrArg (Value.int .i64) (Int.tmod_eq_emod_of_nonneg (by omega)))<|am 1<|?_
 refine cb ((decide ((k:Int)<((i:Int)%8)))) (fun y=>?_) (fun y=>?_)
 have a1:=of_decide_eq_true y
 exact bu<|sq<|bk<|go<|Pl 1<|L0<|Oe (vI (IntKind.i64.wrap (Int.tdiv c 2))) (vI (c/2)) (congrArg (Value.int .i64) (eJ (by omega) (by omega)))<|Pl 1<|nl<|bn<|tn<|go<|Pl 1<|bt ((k:Int)+1)<|Pl 1<|nl<|fv ((k+1),(c/2)) ⟨o,(by(try dsimp only);omega),oL u⟩ (by omega)
 have a1:=of_decide_eq_false y
 refine xt<|tx<|tx<|bx<|tn<|go<|Pl 2<|L0<|Oe (vI (Int.tmod c 2)) (vI (c%2)) (congrArg (Value.int .i64) (Int.tmod_eq_emod_of_nonneg (by omega)))<|Pl 1<|L0<|gv (m:=1) (e:=4) #[.bool ((c%2)==1)] fun ak an a2 a3 z=>?_
 have a4:=vt a2 (xs:=[((c%2)==1)]) (by as_aux_lemma=>kernel_rfl)  (by(try simp only[List.length_cons,List.length_nil]);omega) a3
 refine L0<|sX qe (xs:=L) (ys:=([((c%2)==1)])) (.bool false) 1 (av q (aQ o z) (fun x hx=>ax) (fun _ _ h=>h)) (a4).rd (by(try simp only[ef,be]);omega) (le (le g.size o.size) z.size) fun a5 a6 ao a7 a8=>Pl 1<|nl<|bn<|tn<|go<|Pl 1<|bt ((i:Int)+1)<|Pl 1<|nl<|?_
 exact fv ((i+1),(L++[((c%2)==1)]),a5,a6) ⟨(ut (aQ g o) (ut (aC.mono (S':=(ob B++[])) z aA) a8 (aH il aA)) (aH (c7 q lr) aA)),a7,(by(try dsimp only);omega),(by(try dsimp only);rw[j,List.range_succ,List.map_append];show _++[_]=_++[bM b i];unfold bM;rw[u,show k=i%8 from by omega])⟩ (by omega)
 have W:=of_decide_eq_false r
 refine xt<|tx<|tx<|bx<|tn<|sq<|sq<|Rg 6 (fun w'=>aV false w' (.slice A b.length cp) b) fun ap H=>?_
 have I:=aQ g H
 have C:=aV.old h I
 refine bz (aG.any C (fun _ _ h=>h)) fun D=>Rt 0 D<|Rt 3 D<|Rr 4 D (.string (strOfNums b)) (fun _ hs=>fT (A:=A) (n:=b.length) (c:=cp) rfl (by kernel_rfl) Tryz.underlying27 Tryz.underlying5 Tryz.underlying9 hs)<|?_
 have J:=av q H (fun x hx=>ax) (fun _ _ h=>h)
 refine R0 1 rfl<|Oc<|tA (uA (J).rd (by omega)) fun a9 aa aq M ar au E=>?_
 have N:=aV.old C E
 refine bz (aG.any N (fun _ _ h=>h)) fun aw=>R0 2 rfl<|jU (.string (strOfNums (dh L))) (fT (A:=a9) (n:=(dh L).length) (c:=aa) rfl (by kernel_rfl) Tryz.underlying27 Tryz.underlying5 Tryz.underlying9 (M).rd)<|bz (aG.any N (fun _ _ h=>h)) fun ab=>Rr 5 ab (.bool (!(decide ((dh L)=b)))) (fun _ _=>pV (a:=(strOfNums (dh L))) (b:=(strOfNums b)) rfl (by kernel_rfl) (by kernel_rfl) (qg (M).rd C))<|re<|tn<|?_
 have O:=aQ I E
 refine cb ((!(decide ((dh L)=b)))) (fun d=>?_) (fun d=>?_)
 have F:(decide ((dh L)=b))=false:=by simpa using d
 have ac:=of_decide_eq_false F
 refine az 2<|bq<|rr (.tuple #[nS,.bool false])<|?_
 have hL:L=(List.range n.toNat).map (bM b):=by rw[j,show i=n.toNat from by omega]
 have hu:=lV (n:=n) hb (by omega)
 rw[if_neg (by rw[← hL];simpa using d)] at hu
 exact dY hu O
 have F:(decide ((dh L)=b))=true:=by simpa using d
 have ac:=of_decide_eq_true F
 refine bu<|az 3<|rt<|rr (.tuple #[.slice B L.length cq,.bool true])<|?_
 have hL:L=(List.range n.toNat).map (bM b):=by rw[j,show i=n.toNat from by omega]
 have hu:=lV (n:=n) hb (by omega)
 rw[if_pos (by rw[← hL];simpa using d),← hL] at hu
 exact⟨_,by rw[hu];rfl,by rw[hu];exact(av J E (fun x hx=>ax) (fun _ _ h=>h)),O⟩
theorem s9(h:aV m w v b)(hl:b.length≤1048576)(hn : -1048576≤n∧n≤1048576) : Calls Tryz.prog 172 #[v,.int .i64 n] w (eL b n w):=by
  obtain⟨A,c,rfl,_,_⟩:=h.shape
  exact qt h hl hn
open Go.RowKit
def sm (w0:World)(m:Md)(A:Option Addr)(cp:Nat)(full:List Int)(g gm:Nat)(C':ag)(cs:Array Value)(w:World)(e:Ending)(w':World) : Prop:=e = .returned (.tuple #[])∧RC w0 m A cp full w' g C'∧w'.heap[gm]? = some (.cells cs 45 (0,0))∧aC [g,gm] w w'
theorem kO{gm:Nat}   {most:Int}(hcode:B8 c)(hC:RC w0 m A cp full w g C)(hm:w.heap[gm]? = some (.cells (mC c) 45 (0,0)))(hgm:w0.heap.size≤gm)(hne:g≠gm) :
    Calls Tryz.prog 166 #[vP g 0,vP gm 0,vI most] w (sm w0 m A cp full g gm (bU C most) (mG c 0 C.wordV (C.wordsC 1).wordV 0 0 0 0 0 0 0 0 nS nS nS nS 0 0 0 0 0 nS) w):=by
 obtain⟨hcode1,hcode2⟩:=hcode
 have hrng:=bG (RC.rng hC)
 refine en 39 Tryz.func166 rfl<|al 2<|aq<|m3 (c8 hC) fun F r d G=>Pl 2<|?_
 refine L0<|bE (aS d (Ne.symm hne) hm) 2 (mG c 0 C.wordV 0 0 0 0 0 0 0 0 0 nS nS nS nS 0 0 0 0 0 nS) fun H dC e=>aK 2<|?_
 have f:=us d e
 refine aq<|m3 (c8 (RC.upd r e (aa hne ax) (hC.u.trans' f (fun x hx=>.inr (by simp at hx;rcases hx with rfl | rfl;exact hC.new;exact hgm))))) fun I s h J=>Pl 2<|?_
 refine L0<|bE (aS h (Ne.symm hne) dC) 3 (mG c 0 C.wordV ((C.wordsC 1).wordV) 0 0 0 0 0 0 0 0 nS nS nS nS 0 0 0 0 0 nS) fun L i j=>aK 3<|aF i 3<|bt ((C.wordsC 1).wordV)<|Pl 1<|aK 4<|dc 4 [25] 29 25 (decide (0<((C.wordsC 1).wordV))) (decide (((C.wordsC 1).wordV)≤most)) (fun K t v=>?_) ?_
 have M:=of_decide_eq_true v
 exact Pl 4<|ce t _ rfl
 have k:=ut f (us h j) (ac im (ac im aA))
 refine aq<|m2 (aP (((decide (0<((C.wordsC 1).wordV)))&&(decide (((C.wordsC 1).wordV)≤most)))) 5 (RC.upd s j (aa hne ax) (hC.u.trans' k (fun x hx=>.inr (by simp at hx;rcases hx with rfl | rfl;exact hC.new;exact hgm))))) fun y z l=>?_
 refine eI z fun x36 B o=>?_
 refine nt<|go<|Pl 4<|?_
 have p:=aS l (Ne.symm hne) i
 refine aF p 2<|Pl 1<|aq<|m1 (nX (a:=C.wordV) (n:=(C.wordsC 1).wordV) (w:=y) (by omega) (by omega)) fun N b=>?_
 refine aq<|m2 (aP ((cK C.wordV ((C.wordsC 1).wordV))) 7 (RC.upd o b ax (aC.step (RC.u o) b))) fun O D E=>nl<|rm (.tuple #[])<|?_
 subst B
 have hs:bU C most=((((C.wordsC 1).wordsC 1).need ((decide (0<((C.wordsC 1).wordV)))&&(decide (((C.wordsC 1).wordV)≤most))) 5).need (cK C.wordV ((C.wordsC 1).wordV)) 7):=by
   unfold bU i7
   (try simp only[bp,dQ,reduceIte])
   all_goals rfl
 rw[hs]
 have q:=uz b E
 exact⟨rfl,D,(aS q (Ne.symm hne) p),(u1 k (u1 l q im) im)⟩
theorem iO(hcode:B8 c)(hsl:aV m w (.slice A b.length cp) b)(hb:b.length≤1048576) :
    Calls Tryz.prog 109 #[vI 0,vB c,.slice A b.length cp] w (cA (.slice A b.length cp) b (aj aN 0 c b) w):=by
 obtain⟨hcode1,hcode2⟩:=hcode
 have hln:(b.length:Int)≤1048576:=by omega
 refine en 113 Tryz.func109 rfl<|sg<|aJ mZ fun a6 cm S t d=>am 1<|sq<|az 6<|c0<|bu<|al 2<|L0<|dw #[.slice A b.length cp,vI 0,.bool false,vI 0] fun k co i l f=>Pl 1<|aK 2<|aJ mZ fun q cq a a7 a8=>aB a7 (mC c) fun a9 L T=>?_
 refine nt<|?_
 have ab:=ud a8 T a
 have y:=aQ f ab
 have z:=aQ d y
 have g:RC w _ A cp b a9 k (ag.mk b false 0):=⟨hsl,z,(Nat.le_trans d.size i),⟨0,(ub ab l),Nat.zero_le _,rfl⟩,by omega⟩
 refine ro (fun x=>[(6,vP a6 0),(8,vP k 0),(9,vP q 0)]) (fun(x:ag × Array Value × b6) w'=>aC [k,q] a9 w'∧RC w m A cp b w' k x.1∧w'.heap[q]? = some (.cells x.2.1 45 (0,0))∧bA (.slice A b.length cp) b w' x.2.1.toList x.2.2∧(aj aN 0 c b=bj x.2.2 x.1)) ?_ ?_
 rintro⟨C,cs,M⟩ U ⟨ad,be,bf,bg,bh⟩
 refine fs [(6,vP a6 0),(8,vP k 0),(9,vP q 0)] ?_
 have ae:RC w m A cp b U k C:=be
 have bl:U.heap[q]? = some (.cells cs 45 (0,0)):=bf
 have N:bA (.slice A b.length cp) b U cs.toList M:=bg
 have V:=bA.size N
 have af:aj aN 0 c b=bj M C:=bh
 refine al 1<|aq<|m2 (jM ae) fun cr W X=>nt<|sq<|al 3<|L0<|er (p:=⟨k,3,none⟩) (v:=vI C.endC.e) (RC.fld W)<|am 1<|?_
 have Y:=u1 ad X im
 have an:=ut z Y (ac (ni d.size i) (ac (ni (le d.size f.size) a) aA))
 refine cb ((C.endC.e != 0)) (fun Z=>?_) (fun Z=>?_)
 have a0:=ay Z
 refine sq<|Rg 7 (fun w'=>w'.cell? ⟨k,3,none⟩=some (vI C.endC.e)) fun cu O=>?_
 have ao:=RC.upd W O ax (aC.step (RC.u W) O)
 refine bz (RC.fld ao) fun B=>Rt 0 B<|Rt 1 B<|Rt 2 B<|Rt 3 B<|Rl 4 B (fun _ hs=>hs)<|?_
 refine R0 5 rfl<|iW (ub (ut y (aQ Y O) (ac (nr i) (ac (ni f.size a) aA))) t) mZ fun cv bm ar=>?_
 have aw:=ud an (uz O ar) S
 refine bz (RC.fld (RC.upd ao ar (aa (Ne.symm (nb (ai t) lr i)) ax) aw)) fun bo=>Rt 6 bo<|re<|tn<|bq<|c9 bm (vI C.endC.e)<|?_
 rw[af]
 exact cn a0 aw
 have a0:=aI Z
 refine bu<|sg<|?_
 refine L0<|cM (hz:=(by rw[V];exact aX)) (aS X (Ne.symm (nb (ai l) lr a)) bl)<|?_
 refine aB (hz:=(by rw[V];exact aX)) (hv:=(bA.size N)) (h1:=(bA.one N hsl)) (ub (ut y Y (ac (nr i) (ac (ni f.size a) aA))) t) (cs) fun cw bs aH=>am 1<|rt<|dW 22 V bs (vI 0)<|?_
 rw[af]
 exact cL a0 (bA.upd N (us X aH) (ah (RC.safe ae _ (by decide)) (ah (aR (ub (ut y ad (ac (nr i) (ac (ni f.size a) aA))) t) (by decide)) aE))) (ud an aH S)
 refine az 1<|bk<|sq<|az 2<|cb ((c==1)) (fun j=>?_) (fun j=>?_)
 have bw:=ap j
 refine bu<|ct j<|sq<|az 2<|c1<|al 1<|?_
 refine aq<|m3 (kO (most:=2000) (b8 (by omega)) g L (Nat.le_trans (le d.size f.size) a) (nb (ai l) lr a)) fun cx bB bC bD=>?_
 have cy:=bG (RC.rng g)
 have cz:=bG (c:=(ag.mk b false 0).wordsC 1) (c3 (RC.rng g) 1)
 exact nt<|xt<|tx<|bx<|jn ((bU (ag.mk b false 0) 2000),_,(b6.mk c 0 ((ag.mk b false 0).wordV) (((ag.mk b false 0).wordsC 1).wordV) 0 0 0 0 0 0 0 0 [] [] [] [] 0 0 0 0 0 [])) ⟨bD,bB,bC,⟨_,_,_,_,_,rfl,aG.nil ..,aG.nil ..,(fun _ _ _=>aG.nil ..),aG.nil ..,aG.nil ..,(bR (by omega))⟩,by unfold aj aN dl de cI fo o1 gg nR nc nF du ey;(try simp only[j,bp,cQ,cN,cR,cP,cO,reduceIte,dQ])<;>rfl⟩
 have bw:=au j
 refine go<|am 2<|cb ((c==2)) (fun o=>?_) (fun o=>?_)
 have bF:=ap o
 refine sq<|az 2<|c1<|al 1<|?_
 refine aq<|m3 (kO (most:=2000) (b8 (by omega)) g L (Nat.le_trans (le d.size f.size) a) (nb (ai l) lr a)) fun cB bH bI bJ=>?_
 have cC:=bG (RC.rng g)
 have cD:=bG (c:=(ag.mk b false 0).wordsC 1) (c3 (RC.rng g) 1)
 exact nt<|xt<|tx<|bx<|jn ((bU (ag.mk b false 0) 2000),_,(b6.mk c 0 ((ag.mk b false 0).wordV) (((ag.mk b false 0).wordsC 1).wordV) 0 0 0 0 0 0 0 0 [] [] [] [] 0 0 0 0 0 [])) ⟨bJ,bH,bI,⟨_,_,_,_,_,rfl,aG.nil ..,aG.nil ..,(fun _ _ _=>aG.nil ..),aG.nil ..,aG.nil ..,(bR (by omega))⟩,by unfold aj aN dl de cI fo o1 gg nR nc nF du ey;(try simp only[j,o,bp,cQ,cN,cR,cP,cO,reduceIte,dQ])<;>rfl⟩
 have bF:=au o
 refine az 2<|cb ((c==5)) (fun r=>?_) (fun r=>?_)
 have bK:=ap r
 refine al 1<|aq<|m3 (c8 g) fun cE bL aL cF=>Pl 1<|?_
 have D:=nb (ai l) lr a
 refine L0<|bE (aS aL (Ne.symm D) L) 2 (mG c 0 ((ag.mk b false 0).wordV) 0 0 0 0 0 0 0 0 0 nS nS nS nS 0 0 0 0 0 nS) fun cG bM aM=>aK 1<|?_
 have aO:=us aL aM
 have aT:=ut z aO (ac (ni d.size i) (ac (ni (le d.size f.size) a) aA))
 refine aq<|m3 (c8 (RC.upd bL aM (aa D ax) aT)) fun cH bN aU cJ=>Pl 1<|?_
 refine L0<|bE (aS aU (Ne.symm D) bM) 4 (mG c 0 ((ag.mk b false 0).wordV) 0 (((ag.mk b false 0).wordsC 1).wordV) 0 0 0 0 0 0 0 nS nS nS nS 0 0 0 0 0 nS) fun cK a1 aW=>nt<|go<|Pl 2<|aF a1 4<|Pl 2<|dX 4 [62] 66 62 ((((ag.mk b false 0).wordsC 1).wordV)==0) ((((ag.mk b false 0).wordsC 1).wordV)==65280) (fun K bO bP=>?_) ?_
 have cS:=au bP
 exact Pl 1<|L1<|cY a1 4<|Pl 2<|ce bO _ rfl
 have aY:=us aU aW
 refine aq<|m2 (aP ((((((ag.mk b false 0).wordsC 1).wordV)==0)||((((ag.mk b false 0).wordsC 1).wordV)==65280))) 6 (RC.upd bN aW (aa D ax) (ut aT aY (ac (ni d.size i) (ac (ni (le d.size f.size) a) aA))))) fun cT bQ aZ=>?_
 refine eI bQ fun bS bT bV=>?_
 refine nl<|bn<|?_
 exact jn (bS,_,(b6.mk c 0 ((ag.mk b false 0).wordV) 0 (((ag.mk b false 0).wordsC 1).wordV) 0 0 0 0 0 0 0 [] [] [] [] 0 0 0 0 0 [])) ⟨(ut aO (u1 aY aZ im) (ac im (ac im aA))),bV,(aS aZ (Ne.symm D) a1),⟨_,_,_,_,_,rfl,aG.nil ..,aG.nil ..,(fun _ _ _=>aG.nil ..),aG.nil ..,aG.nil ..,(bR (by omega))⟩,by subst bT;unfold aj aN dl de cI fo o1 gg nR nc nF du ey;(try simp only[j,o,r,bp,cQ,cN,cR,cP,cO,reduceIte,dQ])<;>rfl⟩
 have bK:=au r
 refine az 2<|cb ((c==15)) (fun E=>?_) (fun E=>?_)
 have bW:=ap E
 refine al 1<|?_
 have s:=nb (ai l) lr a
 refine aq<|m3 (kO (most:=1968) (b8 (by omega)) g L (Nat.le_trans (le d.size f.size) a) s) fun cU bY bZ a2=>?_
 have cV:=bG (RC.rng g)
 have cW:=bG (c:=(ag.mk b false 0).wordsC 1) (c3 (RC.rng g) 1)
 refine nt<|sq<|az 2<|c0<|bu<|al 1<|aq<|m3 (dg bY) fun c2 b0 P cX=>?_
 refine bt ((bU (ag.mk b false 0) 1968).byteV)<|Pl 1<|aK 3<|?_
 have b1:=aS P (Ne.symm s) bZ
 refine aF b1 3<|bt (((ag.mk b false 0).wordsC 1).wordV)<|aq<|m1 (u6 (n:=((ag.mk b false 0).wordsC 1).wordV) (w:=c2) (by omega)) fun d0 F=>Pl 1<|?_
 refine aq<|m2 (aP ((((bU (ag.mk b false 0) 1968).byteV)==(dG (((ag.mk b false 0).wordsC 1).wordV)))) 5 (RC.upd b0 F ax (aC.step (RC.u b0) F))) fun d1 c4 a3=>?_
 refine eI c4 fun G c5 b2=>?_
 refine nt<|sq<|Rg 12 (fun w'=>w'.cell? ⟨q,3,none⟩=some (vW (((ag.mk b false 0).wordsC 1).wordV))) fun d2 H=>?_
 have b3:=uz F (aQ a3 H)
 have b4:=aS b3 (Ne.symm s) b1
 refine bz (ak b4 rfl) fun I=>Rt 0 I<|Rt 1 I<|Rt 3 I<|Rl 4 I (fun _ hs=>hs)<|Rr 5 I (vI (((ag.mk b false 0).wordsC 1).wordV)) (fun _ _=>bv (vI (IntKind.i64.wrap (((ag.mk b false 0).wordsC 1).wordV))) (by kernel_rfl) (congrArg (Value.int .i64) (i64_in (by omega))))<|?_
 have b5:=RC.upd b2 H ax (aC.step (RC.u b2) H)
 refine R0 2 rfl<|Oc<|mu (eC (n:=(bU (ag.mk b false 0) 1968).byteV) (by omega) b5) fun c6 c7 d3 ca a4 Q=>?_
 have d4:=Nat.le_trans (ag.bytesR_le G ((bU (ag.mk b false 0) 1968).byteV)) (RC.clen b5)
 have b7:=aS Q (Ne.symm s) b4
 refine bz (ak b7 rfl) fun d5=>R0 6 rfl<|Oc (args:=#[.slice c6 ((G.bytesR ((bU (ag.mk b false 0) 1968).byteV)).length) c7,vI (((ag.mk b false 0).wordsC 1).wordV)])<|tA (s9 (n:=((ag.mk b false 0).wordsC 1).wordV) (ca _ _ (RC.rd a4)) (by omega) (by omega)) fun cc cd d6 a5 d7 d8 R=>?_
 have b9:=ub R b7
 refine bz (ak b9 rfl) fun J=>Rt 7 J<|Rt 8 J<|Rt 9 J<|Rt 10 J<|Rt 11 J<|re<|tn<|al 2<|?_
 refine aq<|m2 (aP ((bX (G.bytesR ((bU (ag.mk b false 0) 1968).byteV)) (((ag.mk b false 0).wordsC 1).wordV)).isSome) 6 (RC.upd a4 R ax (aC.step (RC.u a4) R))) fun d9 cf ba=>?_
 refine eI cf fun cg ch ci=>?_
 refine nt<|go<|Pl 2<|?_
 refine L0<|bE (aS ba (Ne.symm s) b9) 13 (mG c 0 ((ag.mk b false 0).wordV) (((ag.mk b false 0).wordsC 1).wordV) 0 0 0 0 0 0 0 0 nS (.slice cc (((bX (G.bytesR ((bU (ag.mk b false 0) 1968).byteV)) (((ag.mk b false 0).wordsC 1).wordV)).getD []).length) cd) nS nS 0 0 0 0 0 nS) fun da cj bb=>nl<|bn<|?_
 have bc:=us ba bb
 have bd:=ut a2 (ui P (ui b3 (ui Q (uz R bc)))) (ac im (ac im aA))
 exact jn (cg,_,(b6.mk c 0 ((ag.mk b false 0).wordV) (((ag.mk b false 0).wordsC 1).wordV) 0 0 0 0 0 0 0 0 [] ((bX (G.bytesR ((bU (ag.mk b false 0) 1968).byteV)) (((ag.mk b false 0).wordsC 1).wordV)).getD []) [] [] 0 0 0 0 0 [])) ⟨bd,(RC.upd ci bb (aa s ax) (ut z bd (ac (ni d.size i) (ac (ni (le d.size f.size) a) aA)))),cj,⟨_,_,_,_,_,rfl,aG.nil ..,((av a5 bc (fun x hx=>(aa (fun e=>(aD (ai l) (le (le (le (le (le (le (le a8.size T.size) a2.size) P.size) F.size) a3.size) H.size) Q.size) a5) (e▸hx)) (aa (fun e=>(aD (ai a7) (le (le (le (le (le (le T.size a2.size) P.size) F.size) a3.size) H.size) Q.size) a5) (e▸hx)) ax))) (fun _ _ h=>h))).rd,(fun _ _ _=>aG.nil ..),aG.nil ..,aG.nil ..,(bR (by omega))⟩,by subst ch c5;unfold aj aN dl de cI fo o1 gg nR nc nF du ey;(try simp only[j,o,r,E,bp,cQ,cN,cR,cP,cO,reduceIte,dQ])<;>rfl⟩
 have bW:=au E
 refine al 1<|?_
 refine aB (ub y t) mZ fun db ck cl=>am 1<|rt<|br<|tr<|c9 ck (vI 4)<|?_
 exact cZ (by unfold aj aN dl de cI fo o1 gg nR nc nF du ey;(try simp only[j,o,r,E,bp,cQ,cN,cR,cP,cO,reduceIte,dQ])<;>rfl) (bi (ud z cl S))
theorem iQ(hcode:B8 c)(hsl:aV m w (.slice A b.length cp) b)(hb:b.length≤1048576) :
    Calls Tryz.prog 109 #[vI 1,vB c,.slice A b.length cp] w (cA (.slice A b.length cp) b (aj aN 1 c b) w):=by
 obtain⟨hcode1,hcode2⟩:=hcode
 have hln:(b.length:Int)≤1048576:=by omega
 refine en 113 Tryz.func109 rfl<|sg<|aJ mZ fun S c6 H r d=>am 1<|sq<|az 6<|c0<|bu<|al 2<|L0<|dw #[.slice A b.length cp,vI 0,.bool false,vI 0] fun i c7 f k g=>Pl 1<|aK 2<|aJ mZ fun s ca a aH aL=>aB aH (mC c) fun T D aM=>?_
 refine nt<|?_
 have U:=ud aL aM a
 have t:=aQ g U
 have l:=aQ d t
 have o:RC w _ A cp b T i (ag.mk b false 0):=⟨hsl,l,(Nat.le_trans d.size f),⟨0,(ub U k),Nat.zero_le _,rfl⟩,by omega⟩
 refine ro (fun x=>[(6,vP S 0),(8,vP i 0),(9,vP s 0)]) (fun(x:ag × Array Value × b6) w'=>aC [i,s] T w'∧RC w m A cp b w' i x.1∧w'.heap[s]? = some (.cells x.2.1 45 (0,0))∧bA (.slice A b.length cp) b w' x.2.1.toList x.2.2∧(aj aN 1 c b=bj x.2.2 x.1)) ?_ ?_
 rintro⟨C,cs,M⟩ I ⟨V,aO,aT,aU,aW⟩
 refine fs [(6,vP S 0),(8,vP i 0),(9,vP s 0)] ?_
 have W:RC w m A cp b I i C:=aO
 have aY:I.heap[s]? = some (.cells cs 45 (0,0)):=aT
 have E:bA (.slice A b.length cp) b I cs.toList M:=aU
 have J:=bA.size E
 have X:aj aN 1 c b=bj M C:=aW
 refine al 1<|aq<|m2 (jM W) fun cc L N=>nt<|sq<|al 3<|L0<|er (p:=⟨i,3,none⟩) (v:=vI C.endC.e) (RC.fld L)<|am 1<|?_
 have O:=u1 V N im
 have Y:=ut l O (ac (ni d.size f) (ac (ni (le d.size g.size) a) aA))
 refine cb ((C.endC.e != 0)) (fun P=>?_) (fun P=>?_)
 have Q:=ay P
 refine sq<|Rg 7 (fun w'=>w'.cell? ⟨i,3,none⟩=some (vI C.endC.e)) fun cd F=>?_
 have Z:=RC.upd L F ax (aC.step (RC.u L) F)
 refine bz (RC.fld Z) fun y=>Rt 0 y<|Rt 1 y<|Rt 2 y<|Rt 3 y<|Rl 4 y (fun _ hs=>hs)<|?_
 refine R0 5 rfl<|iW (ub (ut t (aQ O F) (ac (nr f) (ac (ni g.size a) aA))) r) mZ fun cf aZ a0=>?_
 have a1:=ud Y (uz F a0) H
 refine bz (RC.fld (RC.upd Z a0 (aa (Ne.symm (nb (ai r) lr f)) ax) a1)) fun b0=>Rt 6 b0<|re<|tn<|bq<|c9 aZ (vI C.endC.e)<|?_
 rw[X]
 exact cn Q a1
 have Q:=aI P
 refine bu<|sg<|?_
 refine L0<|cM (hz:=(by rw[J];exact aX)) (aS N (Ne.symm (nb (ai k) lr a)) aY)<|?_
 refine aB (hz:=(by rw[J];exact aX)) (hv:=(bA.size E)) (h1:=(bA.one E hsl)) (ub (ut t O (ac (nr f) (ac (ni g.size a) aA))) r) (cs) fun cg b1 a2=>am 1<|rt<|dW 22 J b1 (vI 0)<|?_
 rw[X]
 exact cL Q (bA.upd E (us N a2) (ah (RC.safe W _ (by decide)) (ah (aR (ub (ut t V (ac (nr f) (ac (ni g.size a) aA))) r) (by decide)) aE))) (ud Y a2 H)
 refine az 1<|bk<|sq<|az 2<|cb ((c==1)) (fun h=>?_) (fun h=>?_)
 have b2:=ap h
 refine bu<|ct h<|sq<|az 2<|c0<|bu<|al 1<|aq<|m3 (dg o) fun ch b3 b4 ci=>bt ((ag.mk b false 0).byteV)<|Pl 1<|aK 4<|dc 3 [41] 44 41 (decide (0<((ag.mk b false 0).byteV))) (decide (((ag.mk b false 0).byteV)≤250)) (fun K b5 b7=>?_) ?_
 have cj:=of_decide_eq_true b7
 exact Pl 3<|ce b5 _ rfl
 refine aq<|m2 (aP (((decide (0<((ag.mk b false 0).byteV)))&&(decide (((ag.mk b false 0).byteV)≤250)))) 5 b3) fun ck b9 ba=>?_
 refine eI b9 fun x92 bb a3=>?_
 refine nt<|go<|Pl 2<|aq<|mu (eC (n:=(ag.mk b false 0).byteV) (by omega) a3) fun bc bd cl be bf bg=>?_
 have cm:=Nat.le_trans (ag.bytesR_le x92 ((ag.mk b false 0).byteV)) (RC.clen a3)
 refine Pl 1<|?_
 have a4:=u1 b4 (u1 ba bg im) im
 have a5:=nb (ai k) lr a
 refine L0<|bE (aS a4 (Ne.symm a5) D) 14 (mG c 0 0 0 0 0 0 0 0 0 0 0 nS nS (.slice bc ((x92.bytesR ((ag.mk b false 0).byteV)).length) bd) nS 0 0 0 0 0 nS) fun co bh a6=>nl<|bn<|?_
 have a7:=us a4 a6
 exact jn ((x92.bytesC ((ag.mk b false 0).byteV)),_,(b6.mk c 0 0 0 0 0 0 0 0 0 0 0 [] [] (x92.bytesR ((ag.mk b false 0).byteV)) [] 0 0 0 0 0 [])) ⟨a7,(RC.upd bf a6 (aa a5 ax) (ut l a7 (ac (ni d.size f) (ac (ni (le d.size g.size) a) aA)))),bh,⟨_,_,_,_,_,rfl,aG.nil ..,aG.nil ..,be,aG.nil ..,aG.nil ..,(bR (by omega))⟩,by subst bb;unfold aj aN dl de cI fo o1 gg nR nc nF du ey;(try simp only[h,bp,cQ,cN,cR,cP,cO,reduceIte,dQ])<;>rfl⟩
 have b2:=au h
 refine go<|am 2<|cb ((c==2)) (fun j=>?_) (fun j=>?_)
 have bl:=ap j
 refine sq<|az 2<|c0<|bu<|al 1<|aq<|m3 (dg o) fun cq bm bo cr=>bt ((ag.mk b false 0).byteV)<|Pl 1<|aK 4<|dc 3 [41] 44 41 (decide (0<((ag.mk b false 0).byteV))) (decide (((ag.mk b false 0).byteV)≤250)) (fun K bs bv=>?_) ?_
 have cu:=of_decide_eq_true bv
 exact Pl 3<|ce bs _ rfl
 refine aq<|m2 (aP (((decide (0<((ag.mk b false 0).byteV)))&&(decide (((ag.mk b false 0).byteV)≤250)))) 5 bm) fun cv bw bB=>?_
 refine eI bw fun G bC a8=>?_
 refine nt<|go<|Pl 2<|aq<|mu (eC (n:=(ag.mk b false 0).byteV) (by omega) a8) fun bD bF cw bH bI bJ=>?_
 have cx:=Nat.le_trans (ag.bytesR_le G ((ag.mk b false 0).byteV)) (RC.clen a8)
 refine Pl 1<|?_
 have a9:=u1 bo (u1 bB bJ im) im
 have ab:=nb (ai k) lr a
 refine L0<|bE (aS a9 (Ne.symm ab) D) 14 (mG c 0 0 0 0 0 0 0 0 0 0 0 nS nS (.slice bD ((G.bytesR ((ag.mk b false 0).byteV)).length) bF) nS 0 0 0 0 0 nS) fun cy bK ad=>nl<|bn<|?_
 have ae:=us a9 ad
 exact jn ((G.bytesC ((ag.mk b false 0).byteV)),_,(b6.mk c 0 0 0 0 0 0 0 0 0 0 0 [] [] (G.bytesR ((ag.mk b false 0).byteV)) [] 0 0 0 0 0 [])) ⟨ae,(RC.upd bI ad (aa ab ax) (ut l ae (ac (ni d.size f) (ac (ni (le d.size g.size) a) aA)))),bK,⟨_,_,_,_,_,rfl,aG.nil ..,aG.nil ..,bH,aG.nil ..,aG.nil ..,(bR (by omega))⟩,by subst bC;unfold aj aN dl de cI fo o1 gg nR nc nF du ey;(try simp only[h,j,bp,cQ,cN,cR,cP,cO,reduceIte,dQ])<;>rfl⟩
 have bl:=au j
 refine az 2<|cb ((c==5)) (fun q=>?_) (fun q=>?_)
 have bL:=ap q
 refine al 1<|aq<|m3 (c8 o) fun cz bM af cB=>Pl 1<|?_
 have z:=nb (ai k) lr a
 refine L0<|bE (aS af (Ne.symm z) D) 2 (mG c 0 ((ag.mk b false 0).wordV) 0 0 0 0 0 0 0 0 0 nS nS nS nS 0 0 0 0 0 nS) fun cC bN ak=>aK 1<|?_
 have an:=us af ak
 have ao:=ut l an (ac (ni d.size f) (ac (ni (le d.size g.size) a) aA))
 refine aq<|m3 (c8 (RC.upd bM ak (aa z ax) ao)) fun cD bO ar cE=>Pl 1<|?_
 refine L0<|bE (aS ar (Ne.symm z) bN) 4 (mG c 0 ((ag.mk b false 0).wordV) 0 (((ag.mk b false 0).wordsC 1).wordV) 0 0 0 0 0 0 0 nS nS nS nS 0 0 0 0 0 nS) fun cF R av=>nt<|go<|Pl 2<|aF R 4<|Pl 2<|dX 4 [62] 66 62 ((((ag.mk b false 0).wordsC 1).wordV)==0) ((((ag.mk b false 0).wordsC 1).wordV)==65280) (fun K bP bQ=>?_) ?_
 have cG:=au bQ
 exact Pl 1<|L1<|cY R 4<|Pl 2<|ce bP _ rfl
 have aw:=us ar av
 refine aq<|m2 (aP ((((((ag.mk b false 0).wordsC 1).wordV)==0)||((((ag.mk b false 0).wordsC 1).wordV)==65280))) 6 (RC.upd bO av (aa z ax) (ut ao aw (ac (ni d.size f) (ac (ni (le d.size g.size) a) aA))))) fun cH bS aD=>?_
 refine eI bS fun bT bV bW=>?_
 refine nl<|bn<|?_
 exact jn (bT,_,(b6.mk c 0 ((ag.mk b false 0).wordV) 0 (((ag.mk b false 0).wordsC 1).wordV) 0 0 0 0 0 0 0 [] [] [] [] 0 0 0 0 0 [])) ⟨(ut an (u1 aw aD im) (ac im (ac im aA))),bW,(aS aD (Ne.symm z) R),⟨_,_,_,_,_,rfl,aG.nil ..,aG.nil ..,(fun _ _ _=>aG.nil ..),aG.nil ..,aG.nil ..,(bR (by omega))⟩,by subst bV;unfold aj aN dl de cI fo o1 gg nR nc nF du ey;(try simp only[h,j,q,bp,cQ,cN,cR,cP,cO,reduceIte,dQ])<;>rfl⟩
 have bL:=au q
 refine az 2<|cb ((c==15)) (fun B=>?_) (fun B=>?_)
 have bX:=ap B
 refine al 1<|?_
 refine aq<|m3 (kO (most:=1968) (b8 (by omega)) o D (Nat.le_trans (le d.size g.size) a) (nb (ai k) lr a)) fun cJ bY bZ c2=>?_
 have cK:=bG (RC.rng o)
 have cS:=bG (c:=(ag.mk b false 0).wordsC 1) (c3 (RC.rng o) 1)
 exact nt<|sq<|az 2<|c1<|xt<|tx<|bx<|jn ((bU (ag.mk b false 0) 1968),_,(b6.mk c 0 ((ag.mk b false 0).wordV) (((ag.mk b false 0).wordsC 1).wordV) 0 0 0 0 0 0 0 0 [] [] [] [] 0 0 0 0 0 [])) ⟨c2,bY,bZ,⟨_,_,_,_,_,rfl,aG.nil ..,aG.nil ..,(fun _ _ _=>aG.nil ..),aG.nil ..,aG.nil ..,(bR (by omega))⟩,by unfold aj aN dl de cI fo o1 gg nR nc nF du ey;(try simp only[h,j,q,B,bp,cQ,cN,cR,cP,cO,reduceIte,dQ])<;>rfl⟩
 have bX:=au B
 refine al 1<|?_
 refine aB (ub t r) mZ fun cT c4 c5=>am 1<|rt<|br<|tr<|c9 c4 (vI 4)<|?_
 exact cZ (by unfold aj aN dl de cI fo o1 gg nR nc nF du ey;(try simp only[h,j,q,B,bp,cQ,cN,cR,cP,cO,reduceIte,dQ])<;>rfl) (bi (ud l c5 H))
theorem jg(hcode:B8 c)(hsl:aV m w (.slice A b.length cp) b)(hb:b.length≤1048576)(hd:¬ (dir=0∨dir=1)) :
    Calls Tryz.prog 109 #[vI dir,vB c,.slice A b.length cp] w (cA (.slice A b.length cp) b (aj aN dir c b) w):=by
 obtain⟨hcode1,hcode2⟩:=hcode
 have hln:(b.length:Int)≤1048576:=by omega
 have e0:(dir != 0)=true:=by simp;omega
 have e1:(dir != 1)=true:=by simp;omega
 refine en 113 Tryz.func109 rfl<|sg<|aJ mZ fun g h a d e=>am 1<|sq<|al 3<|sy 16 e0<|Pl 3<|nl<|tn<|ct e1<|al 1<|aB d mZ fun i dC f=>am 1<|bq<|c9 dC (vI 1)<|?_
 exact cZ (by unfold aj aN dl de cI fo o1 gg nR nc nF du ey;(try simp only[e0,e1,bp,cQ,cN,cR,cP,cO,reduceIte,hd,dQ])<;>rfl) (bi (ud e f a))
open Go.RowKit
theorem fA(h:gP C){b:Bool}  : gP (C.need b x):=fun y hy=>h y (by rwa [iY] at hy)
theorem fM(h:gP C)  : gP (C.bytesC n):=fh h n
theorem ka(h:gP C)  : gP (C.wordsC n):=c3 h n
theorem rI(C:ag)(x:Int) : (C.bytesC 1).need (!(C.bytesC 1).sh) x=C.bytesC 1:=by
  by_cases hf:C.fails 1=true
  · exact dp (e9 hf)
  · have h:(C.bytesC 1).sh=false:=by
      unfold ag.bytesC
      rw[if_neg hf]
      unfold ag.fails at hf
      simp only[Bool.or_eq_true,decide_eq_true_eq,not_or] at hf
      show C.sh=false
      simpa using hf.1.1
    rw[h]
    unfold ag.need
    rw[if_neg (by rintro⟨_,h⟩;cases h)]
theorem qG{v:Int}(h:0≤v) : decide (0<v)=(v != 0):=by
  rw[Bool.eq_iff_iff]
  simp only[decide_eq_true_eq,bne_iff_ne,ne_eq]
  omega
def uS (C:ag) : ag:=((C.bytesC 1).need (!(C.bytesC 1).sh) 5).need (C.byteV==6) 9
def uP (C:ag) : ag:=((uS C).wordsC 1).need (decide (0<(uS C).wordV)) 6
def uR (C:ag) : ag:=((uP C).wordsC 1).need (decide ((uP C).wordV≤9999)) 7
def qK (C:ag) : ag:=((uR C).wordsC 1).need (decide (0<(uR C).wordV)) 5
theorem qI(C:ag) : uS C=ir C:=by unfold uS ir;rw[rI]
theorem o3(h:gP C) : gP (ir C):=fA (fM h)
theorem rl(h:gP C) : uP C=iu C:=by unfold uP iu;rw[qI,qG (bG (o3 h)).1]
theorem rT(h:gP C) : gP (iu C):=fA (ka (o3 h))
theorem pI(h:gP C) : uR C=lW C:=by unfold uR lW;rw[rl h]
theorem rv(h:gP C) : gP (lW C):=fA (ka (rT h))
theorem oe(h:gP C) : qK C=d7 C:=by unfold qK d7;rw[pI h,qG (bG (rv h)).1]
theorem sO(h:C.e≠0) : C.endC=C:=by unfold ag.endC;exact dp h
theorem q6(h:b.length≠0) : (ag.mk b false 0).byteV=b.getD 0 0∧(ag.mk b false 0).bytesC 1=⟨b.drop 1,false,0⟩:=by
  have hf:¬ (ag.mk b false 0).fails 1=true:=by
    unfold ag.fails
    simp only[Bool.or_eq_true,decide_eq_true_eq,not_or]
    exact⟨⟨by decide,by decide⟩,by omega⟩
  constructor
  · unfold ag.byteV ag.bytesR
    rw[if_neg hf]
    rcases b with _|⟨x,t⟩
    · exact absurd rfl h
    · rfl
  · unfold ag.bytesC
    rw[if_neg hf]
    rfl
def ca (b:List Int)(n:Int) : List Int:=(b.take (n+1).toNat).drop 1
def cS (one:Int→ag→Int × ag × cX)(c:Int)(b:List Int) : b6 × Int :=
  if (aM one (ca b (b.getD 0 0)).length 0 ⟨ca b (b.getD 0 0),false,0⟩ []).1.e != 0 then (b6.zero,bg (aM one (ca b (b.getD 0 0)).length 0 ⟨ca b (b.getD 0 0),false,0⟩ []).1.e)
  else if decide (b.getD 0 0+1<(b.length:Int)) then (b6.zero,3)
  else ({ b6.zero with code:=c,recs:=(aM one (ca b (b.getD 0 0)).length 0 ⟨ca b (b.getD 0 0),false,0⟩ []).2 },0)
def cc (one:Int→ag→Int × ag × cX)(may:Int→Bool)(c:Int)(b:List Int) : b6 × Int :=
  if (b.length:Int)==0 then (b6.zero,2)
  else if !(may (b.getD 0 0)) then (b6.zero,5)
  else if decide ((b.length:Int)<b.getD 0 0+1) then (b6.zero,2)
  else cS one c b
theorem iA(h:C.e≠0) : bj M C=(b6.zero,C.e):=by
  unfold bj
  rw[sO h,if_neg h]
theorem i3{one:Int→ag→Int × ag × cX}{may:Int→Bool}   (hr:∀ x,x∈b→0≤x∧x<256) : bj (dD one may c ⟨b,false,0⟩).2 (dD one may c ⟨b,false,0⟩).1=cc one may c b:=by
  unfold cc
  by_cases h0:b.length=0
  · rw[if_pos (by rw[beq_iff_eq];omega)]
    obtain rfl:=List.eq_nil_of_length_eq_zero h0
    have e1:(kD may ⟨[],false,0⟩).e=2:=by
      unfold kD
      rw[dp (e9 (by decide))]
      rfl
    have e2:((kD may ⟨[],false,0⟩).bytesC (ag.mk [] false 0).byteV).e=2:=by
      have hs:(kD may ⟨[],false,0⟩).sh=true:=by
        unfold kD
        rw[dp (e9 (by decide))]
        rfl
      unfold ag.bytesC
      rw[if_pos (by unfold ag.fails;rw[hs];rfl),dp (by show(kD may ⟨[],false,0⟩).e≠0;rw[e1];decide)]
      exact e1
    unfold dD
    dsimp only
    rw[dp (by rw[e2];decide),iA (by rw[e2];decide),e2]
  rw[if_neg (by rw[beq_iff_eq];omega)]
  obtain⟨e1,e2⟩:=q6 h0
  have hn:0≤b.getD 0 0∧b.getD 0 0<256:=by
    rcases b with _|⟨x,t⟩
    · exact absurd rfl h0
    · exact hr x (by simp)
  by_cases hm:may (b.getD 0 0)=true
  · rw[if_neg (by rw[hm];decide)]
    have e3:kD may ⟨b,false,0⟩=⟨b.drop 1,false,0⟩:=by
      unfold kD
      rw[e1,e2,hm]
      rfl
    by_cases hs:(b.length:Int)<b.getD 0 0+1
    · rw[if_pos (by simpa using hs)]
      have hf:(ag.mk (b.drop 1) false 0).fails (b.getD 0 0)=true:=by
        unfold ag.fails
        simp only[Bool.or_eq_true,decide_eq_true_eq,List.length_drop]
        exact .inr (by omega)
      have e4:(kD may ⟨b,false,0⟩).bytesC (ag.mk b false 0).byteV=⟨[],true,2⟩:=by
        rw[e1,e3]
        unfold ag.bytesC
        rw[if_pos hf]
        rfl
      unfold dD
      dsimp only
      rw[e4,dp (by decide),iA (by decide)]
    · rw[if_neg (by simpa using hs)]
      have hf:¬ (ag.mk (b.drop 1) false 0).fails (b.getD 0 0)=true:=by
        unfold ag.fails
        simp only[Bool.or_eq_true,decide_eq_true_eq,List.length_drop,not_or]
        exact⟨⟨by decide,by omega⟩,by omega⟩
      have e4:(kD may ⟨b,false,0⟩).bytesC (ag.mk b false 0).byteV=⟨(b.drop 1).drop (b.getD 0 0).toNat,false,0⟩:=by
        rw[e1,e3]
        unfold ag.bytesC
        rw[if_neg hf]
      have e5:tu may ⟨b,false,0⟩=⟨ca b (b.getD 0 0),false,0⟩:=by
        unfold tu ca
        rw[e1,e3]
        unfold ag.bytesR
        rw[if_neg hf,show(b.getD 0 0+1).toNat=1+(b.getD 0 0).toNat from by omega,List.drop_take]
        rw[show 1+(b.getD 0 0).toNat-1=(b.getD 0 0).toNat from by omega]
      unfold dD cS tF
      dsimp only
      rw[e4,e5]
      by_cases hz:(aM one (ca b (b.getD 0 0)).length 0 ⟨ca b (b.getD 0 0),false,0⟩ []).1.e=0
      · rw[hz,if_neg (by decide)]
        have e6:(ag.mk ((b.drop 1).drop (b.getD 0 0).toNat) false 0).need ((0:Int)==0) (bg 0)=⟨(b.drop 1).drop (b.getD 0 0).toNat,false,0⟩:=rfl
        rw[e6]
        by_cases hl:b.getD 0 0+1<(b.length:Int)
        · rw[if_pos (by simpa using hl)]
          have e7:(ag.mk ((b.drop 1).drop (b.getD 0 0).toNat) false 0).endC=⟨(b.drop 1).drop (b.getD 0 0).toNat,false,3⟩:=by
            unfold ag.endC ag.need
            rw[if_pos ⟨rfl,by rw[beq_eq_false_iff_ne];simp only[List.length_drop];omega⟩]
          unfold bj
          rw[e7,if_neg (show ¬ (3:Int)=0 from by decide)]
        · rw[if_neg (by simpa using hl)]
          have e7:(ag.mk ((b.drop 1).drop (b.getD 0 0).toNat) false 0).endC=⟨(b.drop 1).drop (b.getD 0 0).toNat,false,0⟩:=by
            unfold ag.endC ag.need
            rw[if_neg (by rintro⟨_,h⟩;rw[beq_eq_false_iff_ne] at h;simp only[List.length_drop] at h;omega)]
          unfold bj
          rw[e7,if_pos rfl]
      · rw[if_pos (by simpa using hz)]
        have hw:bg (aM one (ca b (b.getD 0 0)).length 0 ⟨ca b (b.getD 0 0),false,0⟩ []).1.e≠0:=by
          unfold bg
          split
          · decide
          · exact hz
        have e6:(ag.mk ((b.drop 1).drop (b.getD 0 0).toNat) false 0).need ((aM one (ca b (b.getD 0 0)).length 0 ⟨ca b (b.getD 0 0),false,0⟩ []).1.e==0) (bg (aM one (ca b (b.getD 0 0)).length 0 ⟨ca b (b.getD 0 0),false,0⟩ []).1.e)=⟨(b.drop 1).drop (b.getD 0 0).toNat,false,bg (aM one (ca b (b.getD 0 0)).length 0 ⟨ca b (b.getD 0 0),false,0⟩ []).1.e⟩:=by
          unfold ag.need
          rw[if_pos ⟨rfl,by simpa using hz⟩]
        rw[e6,iA hw]
  · have hm:may (b.getD 0 0)=false:=by simpa using hm
    rw[if_pos (by rw[hm];rfl)]
    have e3:kD may ⟨b,false,0⟩=⟨b.drop 1,false,5⟩:=by
      unfold kD
      rw[e1,e2,hm]
      rfl
    have e4:((kD may ⟨b,false,0⟩).bytesC (ag.mk b false 0).byteV).e=5:=by
      rw[e3]
      unfold ag.bytesC
      split
      · rfl
      · rfl
    unfold dD
    dsimp only
    rw[dp (by rw[e4];decide),iA (by rw[e4];decide),e4]
theorem mX(hr:∀ x,x∈b→0≤x∧x<256) : aj b9 0 20 b=cc cw fE 20 b:=i3 hr
theorem mz(hr:∀ x,x∈b→0≤x∧x<256) : aj b9 1 20 b=cc bH fD 20 b:=i3 hr
theorem qH(hd:dir=0∨dir=1)(hr:∀ x,x∈b→0≤x∧x<256) : aj b9 dir 21 b=cc cy fB 21 b:=by
  unfold aj
  rw[if_pos hd]
  exact i3 hr
theorem si:∀ n:Nat,n<256→(decide (1≤(n:Int)%128)&&decide ((n:Int)%128≤3))=bJ (n:Int):=by decide +kernel
theorem uD(h:0≤x∧x<256) : (decide (1≤x%128)&&decide (x%128≤3))=bJ x:=by
  obtain⟨n,rfl⟩:=Int.eq_ofNat_of_zero_le h.1
  exact si n (by omega)
theorem tC:(decide (0<x)&&decide (x<5))=(decide (1≤x)&&decide (x≤4)):=by
  rw[Bool.eq_iff_iff]
  simp only[Bool.and_eq_true,decide_eq_true_eq]
  omega
def ed (C:ag) : ag:=((dr C).bytesC 1).need (decide (0<(dr C).byteV)&&decide ((dr C).byteV<5)) 6
theorem pW(C:ag) : ed C=fZ C:=by unfold ed fZ;rw[tC]
def eN (C:ag) : ag:=(C.bytesC 1).need (decide (1≤C.byteV%128)&&decide (C.byteV%128≤3)) 6
def fk (C:ag) : ag:=((eN C).bytesC 1).need ((eN C).byteV==0 || (eN C).byteV==255) 6
def fj (C:ag) : ag:=((fk C).bytesC 1).need ((fk C).byteV==0 || (eN C).byteV==255) 6
def gC (kd:Int)(C:ag) : ag:=((fj C).bytesC 1).need ((fj C).byteV==1 || kd != 4) 5
def dk (kd:Int)(C:ag) : ag × List Obj:=ee (fj C).byteV.toNat (gC kd C) []
theorem j5(h:gP C) : eN C=kE C:=by unfold eN kE;rw[uD (gj h)]
theorem lG(h:gP C) : fk C=kV C:=by unfold fk kV;rw[j5 h]
theorem q7(h:gP C) : fj C=pB C:=by
  unfold fj pB
  rw[lG h,j5 h]
  by_cases e:((kV C).bytesC 1).e=0
  · have h1:=(kv e).1
    unfold kV at h1
    have h2:=(qf (by decide) h1).2
    congr 1
    rw[Bool.eq_iff_iff]
    simp only[Bool.or_eq_true,beq_iff_eq,bne_iff_ne,ne_eq] at h2 ⊢
    omega
  · rw[dp e,dp e]
theorem lO{kd:Int}  (h:gP C) : dk kd C=eo kd C:=by
  unfold dk eo gC ua
  rw[q7 h,Bool.or_comm]
def cm (dir c:Int)(C:ag) : Option (ag × b6) :=
  if c != 43 then none
  else if C.byteV==13 then some ((eF C).bytesC ((dr C).l.length:Int),{ b6.zero with code:=43,mei:=C.byteV,data:=(eF C).bytesR ((dr C).l.length:Int) })
  else if dir==0 then some ((ed C).bytesC 1,{ b6.zero with code:=43,mei:=C.byteV,kind:=(dr C).byteV,next:=(ed C).byteV })
  else some ((dk (dr C).byteV (ed C)).1,{ b6.zero with code:=43,mei:=C.byteV,kind:=(dr C).byteV,level:=(ed C).byteV,more:=(eN (ed C)).byteV,next:=(fk (ed C)).byteV,objects:=(dk (dr C).byteV (ed C)).2 })
theorem mc(hr:∀ x,x∈b→0≤x∧x<256) : aj cm dir c b=aj bY dir c b:=by
  unfold aj
  split
  · rename_i hd
    unfold cm bY
    by_cases hc:c=43
    · subst hc
      have hD:gP (ed ⟨b,false,0⟩):=fA (fM (fA (fM (C:=⟨b,false,0⟩) hr)))
      have hl:(eF ⟨b,false,0⟩).l.length=(dr ⟨b,false,0⟩).l.length:=by unfold eF;rw[iY]
      rw[if_neg (show ¬ (((43:Int)!=43)=true) from by decide),if_neg (show ¬ (((43:Int)!=43)=true) from by decide),j5 hD,lG hD,lO hD,pW,hl]
      rcases hd with rfl|rfl
      · rw[if_pos (show((0:Int)==0)=true from rfl),if_neg (show ¬ ((0:Int)==1)=true from by decide)]
      · rw[if_neg (show ¬ ((1:Int)==0)=true from by decide),if_pos (show((1:Int)==1)=true from rfl)]
    · rw[if_pos (by simpa using hc),if_pos (by simpa using hc)]
  · rfl
open Go.RowKit
variable {base:Nat}
theorem RC.nrow{α:Type}{sz n c:Nat}{e:TypeId}{R:World→α→List Value→Prop}{B:Option Addr}{xs:List α}         (h:RC w0 m A cp full w g C)(ho:aT base e sz R w (.slice B n c) xs)(ht:(194==e)=false) : g∉ob B:=by
  obtain⟨k,h1,_⟩:=h.cell
  exact db h1 ho ht
theorem RC.fld2(h:RC w0 m A cp full w g C) : w.cell? ⟨g,2,none⟩=some (.bool C.sh):=by
  obtain⟨k,h1,_⟩:=h.cell
  rw[bP h1]
  rfl
def sD (w0:World)(m:Md)(A:Option Addr)(cp:Nat)(full:List Int)(g:Nat)(C':ag)(r:cX)(w:World)(e:Ending)(w':World) : Prop:=e = .returned (.agg #[.int .u16 r.file,.int .u16 r.record,.int .u16 r.count,.slice none 0 0])∧dC r.file∧dC r.record∧dC r.count∧RC w0 m A cp full w' g C'∧aC [g] w w'
theorem jP(h : -1≤x∧x≤255) : 0≤Int.tdiv x 2∧Int.tdiv x 2≤127:=by
  by_cases h0:x = -1
  · subst h0;decide
  · rw[Int.tdiv_eq_ediv_of_nonneg (by omega)]
    omega
variable {R:ag × List cX}
theorem fS{one:Int→ag→Int × ag × cX}{n:Nat}{s:Int}  {L:List cX}  (h3:(C.e=0∧C.l.length≤n∧aM one n s C L=R)∨(C.e≠0∧R.1=C))(hc:0<C.l.length)(he:C.e=0)(hlt:(one s C).2.1.l.length<C.l.length) :
    ((one s C).2.1.e=0∧(one s C).2.1.l.length≤n-1∧aM one (n-1) (one s C).1 (one s C).2.1 (L++[(one s C).2.2])=R)∨((one s C).2.1.e≠0∧R.1=(one s C).2.1):=by
  rcases h3 with⟨_,hn,hR⟩|⟨h,_⟩
  · obtain⟨k,rfl⟩ : ∃ k,n=k+1:=⟨n-1,by omega⟩
    unfold aM at hR
    rw[if_pos (by rw[he];simpa using hc)] at hR
    by_cases hz:(one s C).2.1.e=0
    · rw[if_neg (by rw[hz];decide)] at hR
      exact .inl ⟨hz,by omega,hR⟩
    · rw[if_pos (by simpa using hz)] at hR
      exact .inr ⟨hz,by rw[← hR]⟩
  · exact absurd he h
theorem ex{one:Int→ag→Int × ag × cX}{n:Nat}{s:Int}  {L:List cX}  (h3:(C.e=0∧C.l.length≤n∧aM one n s C L=R)∨(C.e≠0∧R.1=C))(hq:(decide (0<((C.l.length:Nat) : Int))&&C.e==0)=false) : R.1.e=C.e∧(C.e=0→R.2=L):=by
  rcases h3 with⟨he,hn,hR⟩|⟨h,h2⟩
  · rw[f7 one n s C L hq] at hR
    rw[← hR]
    exact⟨rfl,fun _=>rfl⟩
  · rw[h2]
    exact⟨rfl,fun h3=>absurd h3 h⟩
def eK (R:ag × List cX)(w:World)(e:Ending)(w':World) : Prop:=∃ A2 n2 c2,e = .returned (.tuple #[.slice A2 n2 c2,.int .i64 (bg R.1.e)])∧(bg R.1.e=0→aT w.heap.size 98 4 (bo true) w' (.slice A2 n2 c2) R.2)∧aC [] w w'
theorem j0{f:FuncId}{args:Array Value}   (h:Calls Tryz.prog f args w (eK R w))(h0:bg R.1.e=0) : Calls Tryz.prog f args w (fun e w'=>∃ v,e = .returned (.tuple #[v,.int .i64 0])∧aT w.heap.size 98 4 (bo true) w' v R.2∧aC [] w w'):=by
  refine h.mono ?_
  rintro e w' ⟨A2,n2,c2,rfl,h1,h2⟩
  exact⟨_,by rw[h0],h1 h0,h2⟩
theorem i5{f:FuncId}{args:Array Value}   (h:Calls Tryz.prog f args w (eK R w)) : Calls Tryz.prog f args w (fun e w'=>∃ A2 n2 c2,e = .returned (.tuple #[.slice A2 n2 c2,.int .i64 (bg R.1.e)])∧aC [] w w'):=by
  refine h.mono ?_
  rintro e w' ⟨A2,n2,c2,rfl,h1,h2⟩
  exact⟨A2,n2,c2,rfl,h2⟩
theorem sJ(hC:RC w0 m A cp full w g C) : Calls Tryz.prog 225 #[vP g 0] w (sD w0 m A cp full g (d7 C) (aL C) w):=by
 have hr:gP C:=RC.rng hC
 refine en 42 Tryz.func225 rfl<|sg<|aJ #[vW 0,vW 0,vW 0,nS] fun N O b i a=>aK 1<|?_
 refine aq<|m3 (dg (RC.upd hC a ax (aC.step (RC.u hC) a))) fun P c j Q=>Pl 1<|aK 4<|L0<|er (p:=⟨g,2,none⟩) (v:=.bool ((C.bytesC 1).sh)) (RC.fld2 c)<|Pl 1<|aq<|m2 (aP ((!((C.bytesC 1).sh))) 5 c) fun R k l=>aK 3<|aq<|m2 (aP ((C.byteV==6)) 9 k) fun S n o=>?_
 refine eI n fun x26 q r=>?_
 refine aK 1<|aq<|m3 (c8 r) fun T s t U=>Pl 1<|aK 3<|aq<|m2 (aP ((decide (0<x26.wordV))) 6 s) fun V y z=>nl<|tn<|al 1<|aq<|m3 (c8 y) fun W B D X=>Pl 1<|aK 3<|aq<|m2 (aP ((decide ((((x26.wordsC 1).need (decide (0<x26.wordV)) 6).wordV)≤9999))) 7 B) fun Y E F=>?_
 refine eI E fun x43 G H=>?_
 refine aK 1<|aq<|m3 (c8 H) fun Z I J a0=>Pl 1<|aK 3<|aq<|m2 (aP ((decide (0<x43.wordV))) 5 I) fun a1 K L=>nl<|tn<|al 4<|?_
 have d:=u1 j (u1 l (u1 o (u1 t (u1 z (u1 D (u1 F (u1 J L im) im) im) im) im) im) im) im
 have e:=nb (RC.lt hC) lr b
 refine aB (aS d (Ne.symm e) i) #[vW x26.wordV,vW (((x26.wordsC 1).need (decide (0<x26.wordV)) 6).wordV),vW x43.wordV,nS] fun a2 M f=>oS<|tU M<|?_
 subst G q
 have e1:d7 C=(((((((((C.bytesC 1).need (!((C.bytesC 1).sh)) 5).need (C.byteV==6) 9).wordsC 1).need (decide (0<(((C.bytesC 1).need (!((C.bytesC 1).sh)) 5).need (C.byteV==6) 9).wordV)) 6).wordsC 1).need (decide (((((((C.bytesC 1).need (!((C.bytesC 1).sh)) 5).need (C.byteV==6) 9).wordsC 1).need (decide (0<(((C.bytesC 1).need (!((C.bytesC 1).sh)) 5).need (C.byteV==6) 9).wordV)) 6).wordV)≤9999)) 7).wordsC 1).need (decide (0<(((((((C.bytesC 1).need (!((C.bytesC 1).sh)) 5).need (C.byteV==6) 9).wordsC 1).need (decide (0<(((C.bytesC 1).need (!((C.bytesC 1).sh)) 5).need (C.byteV==6) 9).wordV)) 6).wordsC 1).need (decide (((((((C.bytesC 1).need (!((C.bytesC 1).sh)) 5).need (C.byteV==6) 9).wordsC 1).need (decide (0<(((C.bytesC 1).need (!((C.bytesC 1).sh)) 5).need (C.byteV==6) 9).wordV)) 6).wordV)≤9999)) 7).wordV)) 5):=by rw[← oe hr];rfl
 have e2:(aL C).file=(((C.bytesC 1).need (!((C.bytesC 1).sh)) 5).need (C.byteV==6) 9).wordV:=by show(ir C).wordV=_;rw[← qI];rfl
 have e3:(aL C).record=(((((C.bytesC 1).need (!((C.bytesC 1).sh)) 5).need (C.byteV==6) 9).wordsC 1).need (decide (0<(((C.bytesC 1).need (!((C.bytesC 1).sh)) 5).need (C.byteV==6) 9).wordV)) 6).wordV:=by show(iu C).wordV=_;rw[← rl hr];rfl
 have e4:(aL C).count=(((((((C.bytesC 1).need (!((C.bytesC 1).sh)) 5).need (C.byteV==6) 9).wordsC 1).need (decide (0<(((C.bytesC 1).need (!((C.bytesC 1).sh)) 5).need (C.byteV==6) 9).wordV)) 6).wordsC 1).need (decide (((((((C.bytesC 1).need (!((C.bytesC 1).sh)) 5).need (C.byteV==6) 9).wordsC 1).need (decide (0<(((C.bytesC 1).need (!((C.bytesC 1).sh)) 5).need (C.byteV==6) 9).wordV)) 6).wordV)≤9999)) 7).wordV:=by show(lW C).wordV=_;rw[← pI hr];rfl
 have h:=ue a (us d f) b
 unfold sD
 rw[e1,e2,e3,e4]
 exact⟨rfl,c6 (by omega),c6 (by omega),c6 (by omega),(RC.upd K f (aa e ax) (hC.u.trans' h (fun x hx=>.inr (by simp at hx;subst hx;exact hC.new)))),h⟩
theorem py(hsl:aV m w (.slice A b.length cp) b)(hb:b.length≤1048576) :
    Calls Tryz.prog 179 #[vI 0,vB 20,.slice A b.length cp] w (eK (aM cw b.length 0 ⟨b,false,0⟩ []) w):=by
 have hln:(b.length:Int)≤1048576:=by omega
 refine en 108 Tryz.func179 rfl<|al 2<|aK 2<|L0<|dw #[.slice A b.length cp,vI 0,.bool false,vI 0] fun d T D a6 E=>am 1<|sq<|go<|Pl 1<|cJ 1<|sq<|bk<|?_
 have U:RC w _ A cp b T d (ag.mk b false 0):=⟨hsl,E,D,⟨0,a6,Nat.zero_le _,rfl⟩,by omega⟩
 refine iq (fun x=>[(0,vI 0),(1,vB 20),(6,nS),(7,vI 0),(8,vP d 0),(9,.slice x.2.2.2.1 x.2.2.1.length x.2.2.2.2.1),(10,vI x.2.2.2.2.2)]) (fun(x:Nat × ag × List cX × Option Addr × Nat × Int) w'=>aC [] w w'∧T.heap.size≤w'.heap.size∧RC w m A cp b w' d x.2.1∧aT w.heap.size 98 4 (bo true) w' (.slice x.2.2.2.1 x.2.2.1.length x.2.2.2.2.1) x.2.2.1∧(0≤x.2.2.2.2.2)∧(x.2.1.e=0→x.2.2.2.2.2≤245)∧(x.2.2.1.length+x.2.1.l.length≤b.length)∧((x.2.1.e=0∧x.2.1.l.length≤x.1∧aM cw x.1 x.2.2.2.2.2 x.2.1 x.2.2.1=aM cw b.length 0 ⟨b,false,0⟩ [])∨(x.2.1.e≠0∧(aM cw b.length 0 ⟨b,false,0⟩ []).1=x.2.1))) (fun x=>x.2.1.l.length) (b.length,(ag.mk b false 0),[],none,0,0) ⟨E,lr,U,(aT.nil w.heap.size _ _ (bo true) _),(by(try dsimp only);omega),(fun _=>(show(0:Int)≤245 from by decide)),(by(try dsimp only);simp),.inl ⟨rfl,Nat.le_refl _,rfl⟩⟩ ?_
 rintro⟨n,C,L,B,cq,s⟩ V ⟨a7,F,a8,a9,ab,ad,ae,af⟩
 refine fs [(0,vI 0),(1,vB 20),(6,nS),(7,vI 0),(8,vP d 0),(9,.slice B L.length cq),(10,vI s)] ?_
 have a:RC w m A cp b V d C:=a8
 have hlC:=RC.clen a
 have hrC:gP C:=RC.rng a
 have i:aT w.heap.size 98 4 (bo true) V (.slice B L.length cq) L:=a9
 have aZ:0≤s:=ab
 have b0:C.e=0→s≤245:=ad
 have b1:L.length+C.l.length≤b.length:=ae
 have G:(C.e=0∧C.l.length≤n∧aM cw n s C L=aM cw b.length 0 ⟨b,false,0⟩ [])∨(C.e≠0∧(aM cw b.length 0 ⟨b,false,0⟩ []).1=C):=af
 refine sq<|al 1<|aq<|m1 (g8 a) fun b2 c=>?_
 have b3:=RC.clen a
 refine Pl 2<|dc 6 [20] 26 20 (decide (0<(C.l.length:Int))) (C.e==0) (fun K ai aj=>?_) ?_
 have b4:=of_decide_eq_true aj
 refine Pl 3<|?_
 exact L1<|er (p:=⟨d,3,none⟩) (v:=vI C.e) (RC.fld (RC.upd a c ax (aC.step (RC.u a) c)))<|Pl 2<|ce ai _ rfl
 refine nt<|?_
 have H:=aQ a7 c
 refine cb (((decide (0<(C.l.length:Int)))&&(C.e==0))) (fun f=>?_) (fun f=>?_)
 have I:=(aW f).1
 have J:=(aW f).2
 have b5:=of_decide_eq_true I
 have b6:=ap J
 refine bu<|bk<|al 1<|aJ #[vW 0,vW 0,vW 0,nS] fun b8 b9 j ak M=>aB ak #[vW 0,vW 0,vW 0,nS] fun ba an N=>nt<|sq<|al 6<|nl<|tn<|c0<|al 1<|?_
 have W:=ud M N j
 have q:=aQ c W
 refine aq<|m5 (sJ (RC.upd a q ax (aC.step (RC.u a) q))) fun bb ao ar aw ay r=>?_
 obtain⟨bc,bd⟩:=ao
 obtain⟨bf,bh⟩:=ar
 obtain⟨bi,bj⟩:=aw
 have O:=nb (RC.lt U) (le F c.size) j
 refine aB (aS r (Ne.symm O) an) #[vW ((aL C).file),vW ((aL C).record),vW ((aL C).count),nS] fun bl X t=>cJ 2<|c0<|al 1<|bt (s+2)<|Pl 1<|aF X 2<|bt ((aL C).count)<|bt (2*((aL C).count))<|bt ((s+2)+(2*((aL C).count)))<|am 1<|go<|Pl 3<|?_
 have P:=us r t
 have Y:=ud H (ue W P j) D
 refine aq<|m2 (aP ((decide (((s+2)+(2*((aL C).count)))≤245))) 5 (RC.upd ay t (aa O ax) Y)) fun bm aD k=>?_
 refine eI aD fun x68 aI Z=>?_
 refine nt<|go<|Pl 1<|?_
 refine L0<|cM (aS k (Ne.symm O) X)<|L0<|gv (m:=1) (e:=98) #[vW ((aL C).file),vW ((aL C).record),vW ((aL C).count),nS] fun br bs bv aN y=>?_
 have aO:=ip (R:=bo true) (x:=(cX.mk ((aL C).file) ((aL C).record) ((aL C).count) ([]))) aN rfl ⟨_,rfl,(aG.nil true _ _ _ _),c6 (x:=(aL C).file) (by omega),c6 (x:=(aL C).record) (by omega),c6 (x:=(aL C).count) (by omega)⟩
 have a0:=aQ k y
 have a1:=ue q (u1 P a0 im) (le c.size j)
 have a2:=av i a1 (fun x hx=>(aa (fun e=>(RC.nrow a i (by decide)) (e▸hx)) ax)) (bo.upd16 a1 (ah (RC.safe a _ (by decide)) aE))
 refine L0<|fl (xs:=L) (ys:=([(cX.mk ((aL C).file) ((aL C).record) ((aL C).count) ([]))])) (.agg #[vW 0,vW 0,vW 0,nS]) 4 32 a2 aO (by simp) bo.ones (fun w' hv=>bo.upd16 hv (bK (bW _ a2 (by decide)) aE)) (by(try simp only[ef,be]);omega) (le (le (le (le (le (le (le (le E.size F) c.size) M.size) N.size) r.size) t.size) k.size) y.size) fun aR aU bw aX Q=>Pl 1<|nl<|bn<|?_
 subst aI
 have hC2:(cw s C).2.1=((d7 C).need (decide (((s+2)+(2*((aL C).count)))≤245)) 5):=by show dL s C=_;(try simp only[dL,dF,← Int.add_assoc,f,I,J,bp]);all_goals rfl
 have hM2:[(cw s C).2.2]=[(cX.mk ((aL C).file) ((aL C).record) ((aL C).count) ([]))]:=by show[aL C]=_;(try simp only[dL,dF,← Int.add_assoc,f,I,J,bp]);all_goals rfl
 have hS2:(cw s C).1=((s+2)+(2*((aL C).count))):=by(try (show dF s C=_));(try simp only[dF,← Int.add_assoc]);all_goals rfl
 have hlt:=o4 s C (by omega)
 have h9:=fS (one:=cw) G (by omega) (by omega) hlt
 rw[hC2,hM2,hS2] at h9
 rw[hC2] at hlt
 have a3:=ut Y (ut (aC.mono (S':=(d :: (ob B++[]))) a0 (ac im aA)) Q (aH il aA)) (ac (nr D) (aH (c7 i lr) aA))
 have a4:=ue q (u1 P k im) (le c.size j)
 exact fv ((n-1),((d7 C).need (decide (((s+2)+(2*((aL C).count)))≤245)) 5),(L++[(cX.mk ((aL C).file) ((aL C).record) ((aL C).count) ([]))]),aR,aU,((s+2)+(2*((aL C).count)))) ⟨a3,(le (le (le (le (le (le (le (le F c.size) M.size) N.size) r.size) t.size) k.size) y.size) Q.size),(RC.upd Z (ut (aC.mono (S':=(ob B++[])) y aA) Q (aH il aA)) (b7 (RC.nrow Z (av i a4 (fun x hx=>(aa (fun e=>(RC.nrow a i (by decide)) (e▸hx)) ax)) (bo.upd16 a4 (ah (RC.safe a _ (by decide)) aE))) (by decide)) ax) a3),aX,(by(try dsimp only);omega),(by(try dsimp only);intro he;have hk:=(qf (by decide) he).2;simp only[decide_eq_true_eq] at hk;omega),(by(try dsimp only);simp only[ef];omega),h9⟩ (by omega)
 refine xt<|tx<|tx<|bx<|tn<|sq<|al 3<|?_
 have S:=RC.upd a c ax (aC.step (RC.u a) c)
 refine L0<|er (p:=⟨d,3,none⟩) (v:=vI C.e) (RC.fld S)<|am 1<|cb ((C.e==2)) (fun o=>?_) (fun o=>?_)
 have aY:=ap o
 refine az 2<|bq<|rr (.tuple #[nS,vI 5])<|?_
 obtain⟨ir,iu⟩:=ex G f
 have hw:bg (aM cw b.length 0 ⟨b,false,0⟩ []).1.e=5:=by unfold bg;rw[ir,if_pos o]
 refine⟨none,0,0,by rw[hw],fun h=>absurd (hw.symm.trans h) (by decide),H⟩
 have aY:=au o
 refine bu<|sq<|Rg 7 (fun w'=>w'.cell? ⟨d,3,none⟩=some (vI C.e)) fun bA z=>?_
 refine bz (RC.fld (RC.upd S z ax (aC.step (RC.u S) z))) fun g=>Rt 0 g<|Rt 1 g<|Rt 2 g<|Rt 3 g<|Rl 4 g (fun _ hs=>hs)<|Rt 5 g<|Rt 6 g<|re<|tn<|rt<|rr (.tuple #[.slice B L.length cq,vI C.e])<|?_
 obtain⟨ir,iu⟩:=ex G f
 have hw:bg (aM cw b.length 0 ⟨b,false,0⟩ []).1.e=C.e:=by unfold bg;rw[ir,if_neg (by rw[o];decide)]
 have a5:=aQ c z
 refine⟨_,_,_,by rw[hw],fun h=>by rw[iu (hw.symm.trans h)];exact(av i a5 (fun x hx=>ax) (bo.upd16 a5 aE)),(aQ H z)⟩
theorem q9(hsl:aV m w (.slice A b.length cp) b)(hb:b.length≤1048576) :
    Calls Tryz.prog 179 #[vI 1,vB 20,.slice A b.length cp] w (eK (aM bH b.length 0 ⟨b,false,0⟩ []) w):=by
 have hln:(b.length:Int)≤1048576:=by omega
 refine en 108 Tryz.func179 rfl<|al 2<|aK 2<|L0<|dw #[.slice A b.length cp,vI 0,.bool false,vI 0] fun f ae I bb J=>am 1<|sq<|go<|Pl 1<|cJ 1<|sq<|bk<|?_
 have X:RC w _ A cp b ae f (ag.mk b false 0):=⟨hsl,J,I,⟨0,bb,Nat.zero_le _,rfl⟩,by omega⟩
 refine iq (fun x=>[(0,vI 1),(1,vB 20),(6,nS),(7,vI 0),(8,vP f 0),(9,.slice x.2.2.2.1 x.2.2.1.length x.2.2.2.2.1),(10,vI x.2.2.2.2.2)]) (fun(x:Nat × ag × List cX × Option Addr × Nat × Int) w'=>aC [] w w'∧ae.heap.size≤w'.heap.size∧RC w m A cp b w' f x.2.1∧aT w.heap.size 98 4 (bo true) w' (.slice x.2.2.2.1 x.2.2.1.length x.2.2.2.2.1) x.2.2.1∧(0≤x.2.2.2.2.2)∧(x.2.1.e=0→x.2.2.2.2.2≤245)∧(x.2.2.1.length+x.2.1.l.length≤b.length)∧((x.2.1.e=0∧x.2.1.l.length≤x.1∧aM bH x.1 x.2.2.2.2.2 x.2.1 x.2.2.1=aM bH b.length 0 ⟨b,false,0⟩ [])∨(x.2.1.e≠0∧(aM bH b.length 0 ⟨b,false,0⟩ []).1=x.2.1))) (fun x=>x.2.1.l.length) (b.length,(ag.mk b false 0),[],none,0,0) ⟨J,lr,X,(aT.nil w.heap.size _ _ (bo true) _),(by(try dsimp only);omega),(fun _=>(show(0:Int)≤245 from by decide)),(by(try dsimp only);simp),.inl ⟨rfl,Nat.le_refl _,rfl⟩⟩ ?_
 rintro⟨n,C,L,B,cq,s⟩ af ⟨bc,r,bd,bf,bh,bi,bj,bm⟩
 refine fs [(0,vI 1),(1,vB 20),(6,nS),(7,vI 0),(8,vP f 0),(9,.slice B L.length cq),(10,vI s)] ?_
 have a:RC w m A cp b af f C:=bd
 have hlC:=RC.clen a
 have hrC:gP C:=RC.rng a
 have d:aT w.heap.size 98 4 (bo true) af (.slice B L.length cq) L:=bf
 have c4:0≤s:=bh
 have c5:C.e=0→s≤245:=bi
 have c8:L.length+C.l.length≤b.length:=bj
 have M:(C.e=0∧C.l.length≤n∧aM bH n s C L=aM bH b.length 0 ⟨b,false,0⟩ [])∨(C.e≠0∧(aM bH b.length 0 ⟨b,false,0⟩ []).1=C):=bm
 refine sq<|al 1<|aq<|m1 (g8 a) fun c9 c=>?_
 have ca:=RC.clen a
 refine Pl 2<|dc 6 [20] 26 20 (decide (0<(C.l.length:Int))) (C.e==0) (fun K br bs=>?_) ?_
 have cc:=of_decide_eq_true bs
 refine Pl 3<|?_
 exact L1<|er (p:=⟨f,3,none⟩) (v:=vI C.e) (RC.fld (RC.upd a c ax (aC.step (RC.u a) c)))<|Pl 2<|ce br _ rfl
 refine nt<|?_
 have z:=aQ bc c
 refine cb (((decide (0<(C.l.length:Int)))&&(C.e==0))) (fun g=>?_) (fun g=>?_)
 have D:=(aW g).1
 have E:=(aW g).2
 have cd:=of_decide_eq_true D
 have cf:=ap E
 refine bu<|bk<|al 1<|aJ #[vW 0,vW 0,vW 0,nS] fun N cg j Y F=>aB Y #[vW 0,vW 0,vW 0,nS] fun ch aj k=>nt<|sq<|al 6<|nl<|tn<|c1<|al 1<|?_
 have ak:=ud F k j
 have t:=aQ c ak
 refine aq<|m3 (dg (RC.upd a t ax (aC.step (RC.u a) t))) fun ci G i cj=>bt C.byteV<|Pl 1<|aK 2<|L0<|Oe (vI (Int.tmod C.byteV 2)) (vI (C.byteV%2)) (congrArg (Value.int .i64) (Int.tmod_eq_emod_of_nonneg (by omega)))<|Pl 2<|dc 3 [41] 44 41 ((C.byteV%2)==1) (decide (3≤C.byteV)) (fun K bv bw=>?_) ?_
 have ck:=ap bw
 exact Pl 3<|ce bv _ rfl
 refine Pl 1<|?_
 have an:=ud z (uz ak i) I
 refine bl 45 ((((C.byteV%2)==1)&&(decide (3≤C.byteV)))) (fun o=>?_) (fun o=>?_)
 have Z:=(aW o).1
 have a0:=(aW o).2
 have cl:=ap Z
 have cm:=of_decide_eq_true a0
 refine Pl 2<|L1<|Oc<|m1 (g8 G) fun cn y=>?_
 have co:=RC.clen G
 refine Pl 2<|?_
 refine aq<|m2 (aP ((decide (C.byteV≤(((C.bytesC 1).l.length:Nat) : Int)))) 5 (RC.upd G y ax (aC.step (RC.u G) y))) fun cr bA O=>?_
 refine eI bA fun x66 bB bC=>?_
 refine aK 1<|aq<|m3 (dg bC) fun cs bD P ct=>Pl 1<|aK 3<|aq<|m2 (aP ((x66.byteV==6)) 9 bD) fun cu bF Q=>nl<|tn<|go<|Pl 2<|bt (C.byteV-1)<|?_
 have cv:=jP (x:=(C.byteV-1)) (by omega)
 refine L0<|Oe (vI (IntKind.i64.wrap (Int.tdiv (C.byteV-1) 2))) (vI (Int.tdiv (C.byteV-1) 2)) (congrArg (Value.int .i64) (ja (by omega) (by omega)))<|aq<|iG (eR (n:=(Int.tdiv (C.byteV-1) 2)) (by omega) bF) fun ao ar cw aw cx cy bG a1=>?_
 refine eI bG fun x82 bI ay=>?_
 refine Pl 1<|?_
 have aF:=uz y (u1 O (u1 P (u1 Q a1 im) im) im)
 have a2:=u1 i aF im
 have aG:=nb (RC.lt X) (le r c.size) j
 refine L0<|bE (aS a2 (Ne.symm aG) aj) 3 #[vW 0,vW 0,vW 0,.slice ao ((((x66.bytesC 1).need (x66.byteV==6) 9).wordsR (Int.tdiv (C.byteV-1) 2)).length) ar] fun cz bJ a3=>nt<|go<|Pl 1<|L0<|cM bJ<|L0<|gv (m:=1) (e:=98) #[vW 0,vW 0,vW 0,.slice ao ((((x66.bytesC 1).need (x66.byteV==6) 9).wordsR (Int.tdiv (C.byteV-1) 2)).length) ar] fun cA cB cC bL a4=>?_
 have a5:=aQ a3 a4
 have bM:=ip (R:=bo true) (x:=(cX.mk 0 0 0 (((x66.bytesC 1).need (x66.byteV==6) 9).wordsR (Int.tdiv (C.byteV-1) 2)))) bL rfl ⟨_,rfl,((av aw a5 (fun x hx=>(aa (fun e=>(aD (ai Y) (le (le (le (le (le k.size i.size) y.size) O.size) P.size) Q.size) aw) (e▸hx)) ax)) (fun _ _ h=>h))).rd,c6 (x:=0) (by omega),c6 (x:=0) (by omega),c6 (x:=0) (by omega)⟩
 have aI:=ue t (us a2 a5) (le c.size j)
 have aL:=av d aI (fun x hx=>(aa (fun e=>(RC.nrow a d (by decide)) (e▸hx)) ax)) (bo.upd16 aI (ah (RC.safe a _ (by decide)) aE))
 refine L0<|fl (xs:=L) (ys:=([(cX.mk 0 0 0 (((x66.bytesC 1).need (x66.byteV==6) 9).wordsR (Int.tdiv (C.byteV-1) 2)))])) (.agg #[vW 0,vW 0,vW 0,nS]) 4 32 aL bM (by simp) bo.ones (fun w' hv=>bo.upd16 hv (bK (bW _ aL (by decide)) aE)) (by(try simp only[ef,be]);omega) (le (le (le (le (le (le (le (le (le (le (le (le J.size r) c.size) F.size) k.size) i.size) y.size) O.size) P.size) Q.size) a1.size) a3.size) a4.size) fun bN bO cD bP aN=>Pl 1<|nl<|bn<|?_
 subst bI bB
 have hC2:(bH s C).2.1=(((((C.bytesC 1).need (decide (C.byteV≤(((C.bytesC 1).l.length:Nat) : Int))) 5).bytesC 1).need (((C.bytesC 1).need (decide (C.byteV≤(((C.bytesC 1).l.length:Nat) : Int))) 5).byteV==6) 9).wordsC (Int.tdiv (C.byteV-1) 2)):=by show eb C=_;(try simp only[eb,dK,g7,g9,g,D,E,o,Z,a0,bp]);all_goals rfl
 have hM2:[(bH s C).2.2]=[(cX.mk 0 0 0 (((((C.bytesC 1).need (decide (C.byteV≤(((C.bytesC 1).l.length:Nat) : Int))) 5).bytesC 1).need (((C.bytesC 1).need (decide (C.byteV≤(((C.bytesC 1).l.length:Nat) : Int))) 5).byteV==6) 9).wordsR (Int.tdiv (C.byteV-1) 2)))]:=by show[dK C]=_;(try simp only[eb,dK,g7,g9,g,D,E,o,Z,a0,bp]);all_goals rfl
 have hS2:(bH s C).1=s:=by(try (show s=_));(try simp only[dF,← Int.add_assoc]);all_goals rfl
 have hlt:=iJ s C (by omega)
 have h9:=fS (one:=bH) M (by omega) (by omega) hlt
 rw[hC2,hM2,hS2] at h9
 rw[hC2] at hlt
 have aO:=ut (aC.mono (S':=(N :: (ob B++[]))) a5 (ac im aA)) aN (aH il aA)
 have aR:=ut an (ut (aC.mono (S':=(f :: (N :: (ob B++[])))) aF (ac im aA)) aO (ac im (aH il aA))) (ac (nr I) (ac (ni z.size j) (aH (c7 d lr) aA)))
 have aU:=uz t a2
 exact fv ((n-1),(((((C.bytesC 1).need (decide (C.byteV≤(((C.bytesC 1).l.length:Nat) : Int))) 5).bytesC 1).need (((C.bytesC 1).need (decide (C.byteV≤(((C.bytesC 1).l.length:Nat) : Int))) 5).byteV==6) 9).wordsC (Int.tdiv (C.byteV-1) 2)),(L++[(cX.mk 0 0 0 (((((C.bytesC 1).need (decide (C.byteV≤(((C.bytesC 1).l.length:Nat) : Int))) 5).bytesC 1).need (((C.bytesC 1).need (decide (C.byteV≤(((C.bytesC 1).l.length:Nat) : Int))) 5).byteV==6) 9).wordsR (Int.tdiv (C.byteV-1) 2)))]),bN,bO,s) ⟨aR,(le (le (le (le (le (le (le (le (le (le (le (le r c.size) F.size) k.size) i.size) y.size) O.size) P.size) Q.size) a1.size) a3.size) a4.size) aN.size),(RC.upd ay aO (aa aG (b7 (RC.nrow ay (av d aU (fun x hx=>(aa (fun e=>(RC.nrow a d (by decide)) (e▸hx)) ax)) (bo.upd16 aU (ah (RC.safe a _ (by decide)) aE))) (by decide)) ax)) aR),bP,(by(try dsimp only);omega),(by(try dsimp only);intro he;omega),(by(try dsimp only);simp only[ef];omega),h9⟩ (by omega)
 refine Pl 5<|aq<|m2 (aP (false) 5 G) fun cE bQ S=>aK 1<|aq<|m3 (dg bQ) fun cF bR T cG=>Pl 1<|aK 3<|aq<|m2 (aP (((((C.bytesC 1).need false 5).byteV)==6)) 9 bR) fun cH bS U=>?_
 refine eI bS fun V bT bU=>?_
 refine nt<|go<|Pl 2<|bt (C.byteV-1)<|?_
 have cI:=jP (x:=(C.byteV-1)) (by omega)
 refine L0<|Oe (vI (IntKind.i64.wrap (Int.tdiv (C.byteV-1) 2))) (vI (Int.tdiv (C.byteV-1) 2)) (congrArg (Value.int .i64) (ja (by omega) (by omega)))<|aq<|iG (eR (n:=(Int.tdiv (C.byteV-1) 2)) (by omega) bU) fun aX aY cK aZ cL cN b0 a6=>Pl 1<|?_
 have b1:=u1 S (u1 T (u1 U a6 im) im) im
 have a7:=u1 i b1 im
 have b2:=nb (RC.lt X) (le r c.size) j
 refine L0<|bE (aS a7 (Ne.symm b2) aj) 3 #[vW 0,vW 0,vW 0,.slice aX ((V.wordsR (Int.tdiv (C.byteV-1) 2)).length) aY] fun cO bV a8=>nt<|go<|Pl 1<|L0<|cM bV<|L0<|gv (m:=1) (e:=98) #[vW 0,vW 0,vW 0,.slice aX ((V.wordsR (Int.tdiv (C.byteV-1) 2)).length) aY] fun cP cQ cR bX a9=>?_
 have ab:=aQ a8 a9
 have bY:=ip (R:=bo true) (x:=(cX.mk 0 0 0 (V.wordsR (Int.tdiv (C.byteV-1) 2)))) bX rfl ⟨_,rfl,((av aZ ab (fun x hx=>(aa (fun e=>(aD (ai Y) (le (le (le (le k.size i.size) S.size) T.size) U.size) aZ) (e▸hx)) ax)) (fun _ _ h=>h))).rd,c6 (x:=0) (by omega),c6 (x:=0) (by omega),c6 (x:=0) (by omega)⟩
 have b3:=ue t (us a7 ab) (le c.size j)
 have b4:=av d b3 (fun x hx=>(aa (fun e=>(RC.nrow a d (by decide)) (e▸hx)) ax)) (bo.upd16 b3 (ah (RC.safe a _ (by decide)) aE))
 refine L0<|fl (xs:=L) (ys:=([(cX.mk 0 0 0 (V.wordsR (Int.tdiv (C.byteV-1) 2)))])) (.agg #[vW 0,vW 0,vW 0,nS]) 4 32 b4 bY (by simp) bo.ones (fun w' hv=>bo.upd16 hv (bK (bW _ b4 (by decide)) aE)) (by(try simp only[ef,be]);omega) (le (le (le (le (le (le (le (le (le (le (le J.size r) c.size) F.size) k.size) i.size) S.size) T.size) U.size) a6.size) a8.size) a9.size) fun bZ c0 cS c2 b5=>Pl 1<|nl<|bn<|?_
 subst bT
 have hC2:(bH s C).2.1=(((((C.bytesC 1).need false 5).bytesC 1).need ((((C.bytesC 1).need false 5).byteV)==6) 9).wordsC (Int.tdiv (C.byteV-1) 2)):=by show eb C=_;(try simp only[eb,dK,g7,g9,g,D,E,o,bp]);all_goals rfl
 have hM2:[(bH s C).2.2]=[(cX.mk 0 0 0 (((((C.bytesC 1).need false 5).bytesC 1).need ((((C.bytesC 1).need false 5).byteV)==6) 9).wordsR (Int.tdiv (C.byteV-1) 2)))]:=by show[dK C]=_;(try simp only[eb,dK,g7,g9,g,D,E,o,bp]);all_goals rfl
 have hS2:(bH s C).1=s:=by(try (show s=_));(try simp only[dF,← Int.add_assoc]);all_goals rfl
 have hlt:=iJ s C (by omega)
 have h9:=fS (one:=bH) M (by omega) (by omega) hlt
 rw[hC2,hM2,hS2] at h9
 rw[hC2] at hlt
 have b6:=ut (aC.mono (S':=(N :: (ob B++[]))) ab (ac im aA)) b5 (aH il aA)
 have b8:=ut an (ut (aC.mono (S':=(f :: (N :: (ob B++[])))) b1 (ac im aA)) b6 (ac im (aH il aA))) (ac (nr I) (ac (ni z.size j) (aH (c7 d lr) aA)))
 have b9:=uz t a7
 exact fv ((n-1),(((((C.bytesC 1).need false 5).bytesC 1).need ((((C.bytesC 1).need false 5).byteV)==6) 9).wordsC (Int.tdiv (C.byteV-1) 2)),(L++[(cX.mk 0 0 0 (((((C.bytesC 1).need false 5).bytesC 1).need ((((C.bytesC 1).need false 5).byteV)==6) 9).wordsR (Int.tdiv (C.byteV-1) 2)))]),bZ,c0,s) ⟨b8,(le (le (le (le (le (le (le (le (le (le (le r c.size) F.size) k.size) i.size) S.size) T.size) U.size) a6.size) a8.size) a9.size) b5.size),(RC.upd b0 b6 (aa b2 (b7 (RC.nrow b0 (av d b9 (fun x hx=>(aa (fun e=>(RC.nrow a d (by decide)) (e▸hx)) ax)) (bo.upd16 b9 (ah (RC.safe a _ (by decide)) aE))) (by decide)) ax)) b8),c2,(by(try dsimp only);omega),(by(try dsimp only);intro he;omega),(by(try dsimp only);simp only[ef];omega),h9⟩ (by omega)
 refine xt<|tx<|tx<|bx<|tn<|sq<|al 3<|?_
 have ad:=RC.upd a c ax (aC.step (RC.u a) c)
 refine L0<|er (p:=⟨f,3,none⟩) (v:=vI C.e) (RC.fld ad)<|am 1<|cb ((C.e==2)) (fun H=>?_) (fun H=>?_)
 have c3:=ap H
 refine az 2<|bq<|rr (.tuple #[nS,vI 5])<|?_
 obtain⟨ir,iu⟩:=ex M g
 have hw:bg (aM bH b.length 0 ⟨b,false,0⟩ []).1.e=5:=by unfold bg;rw[ir,if_pos H]
 refine⟨none,0,0,by rw[hw],fun h=>absurd (hw.symm.trans h) (by decide),z⟩
 have c3:=au H
 refine bu<|sq<|Rg 7 (fun w'=>w'.cell? ⟨f,3,none⟩=some (vI C.e)) fun cT W=>?_
 refine bz (RC.fld (RC.upd ad W ax (aC.step (RC.u ad) W))) fun q=>Rt 0 q<|Rt 1 q<|Rt 2 q<|Rt 3 q<|Rl 4 q (fun _ hs=>hs)<|Rt 5 q<|Rt 6 q<|re<|tn<|rt<|rr (.tuple #[.slice B L.length cq,vI C.e])<|?_
 obtain⟨ir,iu⟩:=ex M g
 have hw:bg (aM bH b.length 0 ⟨b,false,0⟩ []).1.e=C.e:=by unfold bg;rw[ir,if_neg (by rw[H];decide)]
 have ba:=aQ c W
 refine⟨_,_,_,by rw[hw],fun h=>by rw[iu (hw.symm.trans h)];exact(av d ba (fun x hx=>ax) (bo.upd16 ba aE)),(aQ z W)⟩
theorem pT(hsl:aV m w (.slice A b.length cp) b)(hb:b.length≤1048576) :
    Calls Tryz.prog 179 #[vI dir,vB 21,.slice A b.length cp] w (eK (aM cy b.length 0 ⟨b,false,0⟩ []) w):=by
 have hln:(b.length:Int)≤1048576:=by omega
 refine en 108 Tryz.func179 rfl<|al 2<|aK 2<|L0<|dw #[.slice A b.length cp,vI 0,.bool false,vI 0] fun d a2 M aI N=>am 1<|sq<|go<|Pl 1<|cJ 1<|sq<|bk<|?_
 have a3:RC w _ A cp b a2 d (ag.mk b false 0):=⟨hsl,N,M,⟨0,aI,Nat.zero_le _,rfl⟩,by omega⟩
 refine iq (fun x=>[(0,vI dir),(1,vB 21),(6,nS),(7,vI 0),(8,vP d 0),(9,.slice x.2.2.2.1 x.2.2.1.length x.2.2.2.2.1),(10,vI x.2.2.2.2.2)]) (fun(x:Nat × ag × List cX × Option Addr × Nat × Int) w'=>aC [] w w'∧a2.heap.size≤w'.heap.size∧RC w m A cp b w' d x.2.1∧aT w.heap.size 98 4 (bo true) w' (.slice x.2.2.2.1 x.2.2.1.length x.2.2.2.2.1) x.2.2.1∧(0≤x.2.2.2.2.2)∧(x.2.1.e=0→x.2.2.2.2.2≤245)∧(x.2.2.1.length+x.2.1.l.length≤b.length)∧((x.2.1.e=0∧x.2.1.l.length≤x.1∧aM cy x.1 x.2.2.2.2.2 x.2.1 x.2.2.1=aM cy b.length 0 ⟨b,false,0⟩ [])∨(x.2.1.e≠0∧(aM cy b.length 0 ⟨b,false,0⟩ []).1=x.2.1))) (fun x=>x.2.1.l.length) (b.length,(ag.mk b false 0),[],none,0,0) ⟨N,lr,a3,(aT.nil w.heap.size _ _ (bo true) _),(by(try dsimp only);omega),(fun _=>(show(0:Int)≤245 from by decide)),(by(try dsimp only);simp),.inl ⟨rfl,Nat.le_refl _,rfl⟩⟩ ?_
 rintro⟨n,C,L,B,cq,s⟩ a4 ⟨aN,O,aO,aR,aU,aX,aY,aZ⟩
 refine fs [(0,vI dir),(1,vB 21),(6,nS),(7,vI 0),(8,vP d 0),(9,.slice B L.length cq),(10,vI s)] ?_
 have a:RC w m A cp b a4 d C:=aO
 have hlC:=RC.clen a
 have hrC:gP C:=RC.rng a
 have j:aT w.heap.size 98 4 (bo true) a4 (.slice B L.length cq) L:=aR
 have br:0≤s:=aU
 have bs:C.e=0→s≤245:=aX
 have bw:L.length+C.l.length≤b.length:=aY
 have P:(C.e=0∧C.l.length≤n∧aM cy n s C L=aM cy b.length 0 ⟨b,false,0⟩ [])∨(C.e≠0∧(aM cy b.length 0 ⟨b,false,0⟩ []).1=C):=aZ
 refine sq<|al 1<|aq<|m1 (g8 a) fun bA c=>?_
 have bB:=RC.clen a
 refine Pl 2<|dc 6 [20] 26 20 (decide (0<(C.l.length:Int))) (C.e==0) (fun K b0 b1=>?_) ?_
 have bC:=of_decide_eq_true b1
 refine Pl 3<|?_
 exact L1<|er (p:=⟨d,3,none⟩) (v:=vI C.e) (RC.fld (RC.upd a c ax (aC.step (RC.u a) c)))<|Pl 2<|ce b0 _ rfl
 refine nt<|?_
 have E:=aQ aN c
 refine cb (((decide (0<(C.l.length:Int)))&&(C.e==0))) (fun g=>?_) (fun g=>?_)
 have Q:=(aW g).1
 have S:=(aW g).2
 have bD:=of_decide_eq_true Q
 have bF:=ap S
 refine bu<|bk<|al 1<|aJ #[vW 0,vW 0,vW 0,nS] fun T bG k a5 U=>aB a5 #[vW 0,vW 0,vW 0,nS] fun bH b2 F=>nt<|sq<|al 6<|nl<|tn<|c0<|al 1<|?_
 have a6:=ud U F k
 have G:=aQ c a6
 refine aq<|m5 (sJ (RC.upd a G ax (aC.step (RC.u a) G))) fun bI b3 b4 b5 b6 r=>?_
 obtain⟨bJ,bL⟩:=b3
 obtain⟨bM,bN⟩:=b4
 obtain⟨bO,bP⟩:=b5
 have t:=nb (RC.lt a3) (le O c.size) k
 refine aB (aS r (Ne.symm t) b2) #[vW ((aL C).file),vW ((aL C).record),vW ((aL C).count),nS] fun bQ b8 H=>cJ 2<|c1<|sq<|Rg 9 (fun w'=>w'.cell? ⟨T,2,none⟩=some (vW ((aL C).count))) fun bR y=>?_
 have a7:=ub y b8
 refine bz (ak a7 rfl) fun o=>Rt 0 o<|Rt 1 o<|Rl 2 o (fun _ hs=>hs)<|Rr 3 o (vI ((aL C).count)) (fun _ _=>bv (vI (IntKind.i64.wrap ((aL C).count))) (by kernel_rfl) (congrArg (Value.int .i64) (i64_in (by omega))))<|Rr 4 o (vI (2*((aL C).count))) (fun _ _=>bv (vI (IntKind.i64.wrap (2*((aL C).count)))) (by kernel_rfl) (congrArg (Value.int .i64) (IntWalk.i64_in _ (by omega))))<|Rt 5 o<|?_
 have a8:=aQ H y
 have V:=us r a8
 have a9:=ud E (ue a6 V k) M
 have I:=RC.upd b6 a8 (aa t ax) a9
 refine R0 6 rfl<|Oc<|m1 (g8 I) fun bS f=>?_
 have bT:=RC.clen I
 have ab:=ub f a7
 refine bz (ak ab rfl) fun b9=>Rt 7 b9<|?_
 refine R0 8 rfl<|Oc<|m2 (aP ((decide ((2*((aL C).count))≤(((d7 C).l.length:Nat) : Int)))) 5 (RC.upd I f ax (aC.step (RC.u I) f))) fun bU ba q=>?_
 refine eI ba fun x93 bb bc=>?_
 have W:=aS q (Ne.symm t) ab
 refine bz (ak W rfl) fun bV=>re<|tn<|go<|Pl 2<|aF W 2<|bt ((aL C).count)<|aq<|iG (eR (n:=(aL C).count) (by omega) bc) fun ad ae bX af bY bZ aj z=>Pl 1<|?_
 refine L0<|bE (aS z (Ne.symm t) W) 3 #[vW ((aL C).file),vW ((aL C).record),vW ((aL C).count),.slice ad ((x93.wordsR ((aL C).count)).length) ae] fun c2 bd X=>nt<|go<|Pl 1<|L0<|cM bd<|L0<|gv (m:=1) (e:=98) #[vW ((aL C).file),vW ((aL C).record),vW ((aL C).count),.slice ad ((x93.wordsR ((aL C).count)).length) ae] fun c3 c4 c5 bf Y=>?_
 have Z:=aQ X Y
 have bh:=ip (R:=bo true) (x:=(cX.mk ((aL C).file) ((aL C).record) ((aL C).count) (x93.wordsR ((aL C).count)))) bf rfl ⟨_,rfl,((av af Z (fun x hx=>(aa (fun e=>(aD (ai a5) (le (le (le (le (le F.size r.size) H.size) y.size) f.size) q.size) af) (e▸hx)) ax)) (fun _ _ h=>h))).rd,c6 (x:=(aL C).file) (by omega),c6 (x:=(aL C).record) (by omega),c6 (x:=(aL C).count) (by omega)⟩
 have an:=uz f (ui q (us z Z))
 have ao:=ue G (ut V an (ac im (ac im aA))) (le c.size k)
 have ar:=av j ao (fun x hx=>(aa (fun e=>(RC.nrow a j (by decide)) (e▸hx)) ax)) (bo.upd16 ao (ah (RC.safe a _ (by decide)) aE))
 refine L0<|fl (xs:=L) (ys:=([(cX.mk ((aL C).file) ((aL C).record) ((aL C).count) (x93.wordsR ((aL C).count)))])) (.agg #[vW 0,vW 0,vW 0,nS]) 4 32 ar bh (by simp) bo.ones (fun w' hv=>bo.upd16 hv (bK (bW _ ar (by decide)) aE)) (by(try simp only[ef,be]);omega) (le (le (le (le (le (le (le (le (le (le (le (le N.size O) c.size) U.size) F.size) r.size) H.size) y.size) f.size) q.size) z.size) X.size) Y.size) fun bi bj c8 bl a0=>Pl 1<|nl<|bn<|?_
 subst bb
 have hC2:(cy s C).2.1=(((d7 C).need (decide ((2*((aL C).count))≤(((d7 C).l.length:Nat) : Int))) 5).wordsC ((aL C).count)):=by show gN C=_;(try simp only[gN,gr,lw,g,Q,S,bp]);all_goals rfl
 have hM2:[(cy s C).2.2]=[(cX.mk ((aL C).file) ((aL C).record) ((aL C).count) (((d7 C).need (decide ((2*((aL C).count))≤(((d7 C).l.length:Nat) : Int))) 5).wordsR ((aL C).count)))]:=by show[gr C]=_;(try simp only[gN,gr,lw,g,Q,S,bp]);all_goals rfl
 have hS2:(cy s C).1=s:=by(try (show s=_));(try simp only[dF,← Int.add_assoc]);all_goals rfl
 have hlt:=nV s C (by omega)
 have h9:=fS (one:=cy) P (by omega) (by omega) hlt
 rw[hC2,hM2,hS2] at h9
 rw[hC2] at hlt
 have aw:=ut a9 (ut (aC.mono (S':=(d :: (T :: (ob B++[])))) an (ac im (ac im aA))) a0 (aH il aA)) (ac (nr M) (ac (ni E.size k) (aH (c7 j lr) aA)))
 have ay:=ue G (u1 V (uz f (u1 q z im)) im) (le c.size k)
 exact fv ((n-1),(((d7 C).need (decide ((2*((aL C).count))≤(((d7 C).l.length:Nat) : Int))) 5).wordsC ((aL C).count)),(L++[(cX.mk ((aL C).file) ((aL C).record) ((aL C).count) (((d7 C).need (decide ((2*((aL C).count))≤(((d7 C).l.length:Nat) : Int))) 5).wordsR ((aL C).count)))]),bi,bj,s) ⟨aw,(le (le (le (le (le (le (le (le (le (le (le (le O c.size) U.size) F.size) r.size) H.size) y.size) f.size) q.size) z.size) X.size) Y.size) a0.size),(RC.upd aj (ut (aC.mono (S':=(T :: (ob B++[]))) Z (ac im aA)) a0 (aH il aA)) (aa t (b7 (RC.nrow aj (av j ay (fun x hx=>(aa (fun e=>(RC.nrow a j (by decide)) (e▸hx)) ax)) (bo.upd16 ay (ah (RC.safe a _ (by decide)) aE))) (by decide)) ax)) aw),bl,(by(try dsimp only);omega),(by(try dsimp only);intro he;omega),(by(try dsimp only);simp only[ef];omega),h9⟩ (by omega)
 refine xt<|tx<|tx<|bx<|tn<|sq<|al 3<|?_
 have a1:=RC.upd a c ax (aC.step (RC.u a) c)
 refine L0<|er (p:=⟨d,3,none⟩) (v:=vI C.e) (RC.fld a1)<|am 1<|cb ((C.e==2)) (fun D=>?_) (fun D=>?_)
 have bm:=ap D
 refine az 2<|bq<|rr (.tuple #[nS,vI 5])<|?_
 obtain⟨ir,iu⟩:=ex P g
 have hw:bg (aM cy b.length 0 ⟨b,false,0⟩ []).1.e=5:=by unfold bg;rw[ir,if_pos D]
 refine⟨none,0,0,by rw[hw],fun h=>absurd (hw.symm.trans h) (by decide),E⟩
 have bm:=au D
 refine bu<|sq<|Rg 7 (fun w'=>w'.cell? ⟨d,3,none⟩=some (vI C.e)) fun c9 J=>?_
 refine bz (RC.fld (RC.upd a1 J ax (aC.step (RC.u a1) J))) fun i=>Rt 0 i<|Rt 1 i<|Rt 2 i<|Rt 3 i<|Rl 4 i (fun _ hs=>hs)<|Rt 5 i<|Rt 6 i<|re<|tn<|rt<|rr (.tuple #[.slice B L.length cq,vI C.e])<|?_
 obtain⟨ir,iu⟩:=ex P g
 have hw:bg (aM cy b.length 0 ⟨b,false,0⟩ []).1.e=C.e:=by unfold bg;rw[ir,if_neg (by rw[D];decide)]
 have aG:=aQ c J
 refine⟨_,_,_,by rw[hw],fun h=>by rw[iu (hw.symm.trans h)];exact(av j aG (fun x hx=>ax) (bo.upd16 aG aE)),(aQ E J)⟩
theorem kp(h:aV m w v b)(hb:b.length≤1048576) :
    Calls Tryz.prog 179 #[.int .i64 0,.int .u8 20,v] w (eK (aM cw b.length 0 ⟨b,false,0⟩ []) w):=by
  obtain⟨A,cp,rfl,_,_⟩:=h.shape
  exact py h hb
theorem k9(h:aV m w v b)(hb:b.length≤1048576) :
    Calls Tryz.prog 179 #[.int .i64 1,.int .u8 20,v] w (eK (aM bH b.length 0 ⟨b,false,0⟩ []) w):=by
  obtain⟨A,cp,rfl,_,_⟩:=h.shape
  exact q9 h hb
theorem k0(h:aV m w v b)(hb:b.length≤1048576) :
    Calls Tryz.prog 179 #[.int .i64 dir,.int .u8 21,v] w (eK (aM cy b.length 0 ⟨b,false,0⟩ []) w):=by
  obtain⟨A,cp,rfl,_,_⟩:=h.shape
  exact pT h hb
open Go.RowKit
theorem eV(h:bg x=0) : x=0:=by
  unfold bg at h
  split at h
  · cases h
  · exact h
theorem gS(h:¬ bg x=0) : (x != 0)=true:=by
  rw[bne_iff_ne]
  rintro rfl
  exact h rfl
theorem fm:((0:Int)!=0)=false:=rfl
theorem qU(hsl:aV m w (.slice A b.length cp) b)(hb:b.length≤1048576) :
    Calls Tryz.prog 112 #[vI 0,vB 20,.slice A b.length cp] w (cA (.slice A b.length cp) b (cc cw fE 20 b) w):=by
 have hln:(b.length:Int)≤1048576:=by omega
 have hcp:b.length≤cp:=by obtain⟨_,_,hv,h1,_⟩:=aG.shape hsl;injection hv with _ _ h3;omega
 have hrb:=aV.range hsl
 refine en 101 Tryz.func112 rfl<|sg<|aJ mZ fun a8 a9 i g j=>am 1<|sq<|az 6<|c0<|bu<|sq<|az 6<|c0<|bu<|sq<|az 3<|cb (((b.length:Int)==0)) (fun a=>?_) (fun a=>?_)
 have F:=ap a
 refine al 1<|aB g mZ fun ab G H=>am 1<|bq<|c9 G (vI 2)<|?_
 exact cZ (y:=(b6.zero,2)) (by unfold cc cS ca fE;(try simp only[a,bp,fm,reduceIte])<;>rfl) (bi (ud j H i))
 have F:=au a
 refine bu<|al 1<|?_
 have q:=aV.old hsl j
 refine eH (aV.at_ q 0 (by omega)) fun I J L M ac=>L0<|ia b.length 0 L (by omega)<|L0<|er (p:=⟨I,J+0,none⟩) (v:=vB (b.getD 0 0)) M<|bt (b.getD 0 0)<|Pl 1<|aK 3<|dc 3 [36] 39 36 (decide (9≤(b.getD 0 0))) (decide ((b.getD 0 0)≤251)) (fun K N O=>?_) ?_
 have ad:=of_decide_eq_true O
 exact Pl 3<|ce N _ rfl
 refine am 1<|sq<|az 6<|c1<|go<|Pl 3<|dc 3 [48] 51 48 (decide (7≤(b.getD 0 0))) (decide ((b.getD 0 0)≤245)) (fun K Q R=>?_) ?_
 have ae:=of_decide_eq_true R
 exact Pl 3<|ce Q _ rfl
 refine Pl 1<|dc 4 [52] 56 52 ((decide (7≤(b.getD 0 0)))&&(decide ((b.getD 0 0)≤245))) (((b.getD 0 0)%7)==0) (fun K S z=>?_) ?_
 have T:=(aW z).1
 have U:=(aW z).2
 have af:=of_decide_eq_true T
 have ag:=of_decide_eq_true U
 exact Pl 1<|L1<|Oe (vI (Int.tmod (b.getD 0 0) 7)) (vI ((b.getD 0 0)%7)) (congrArg (Value.int .i64) (Int.tmod_eq_emod_of_nonneg (by omega)))<|Pl 2<|ce S _ rfl
 refine am 1<|sq<|az 6<|c0<|bu<|sq<|sq<|go<|am 2<|cb ((!(((decide (7≤(b.getD 0 0)))&&(decide ((b.getD 0 0)≤245)))&&(((b.getD 0 0)%7)==0)))) (fun d=>?_) (fun d=>?_)
 have f:(((decide (7≤(b.getD 0 0)))&&(decide ((b.getD 0 0)≤245)))&&(((b.getD 0 0)%7)==0))=false:=by simpa only[Bool.not_eq_true',Bool.not_eq_false'] using d
 refine al 1<|aB g mZ fun aj V W=>am 1<|bq<|c9 V (vI 5)<|?_
 exact cZ (y:=(b6.zero,5)) (by unfold cc cS ca fE;(try simp only[a,d,f,bp,fm,reduceIte])<;>rfl) (bi (ud j W i))
 have f:(((decide (7≤(b.getD 0 0)))&&(decide ((b.getD 0 0)≤245)))&&(((b.getD 0 0)%7)==0))=true:=by simpa only[Bool.not_eq_true',Bool.not_eq_false'] using d
 have k:=(aW f).1
 have l:=(aW f).2
 have q32naa:=(aW k).1
 have q32nab:=(aW k).2
 have q32naap:=of_decide_eq_true q32naa
 have q32nabp:=of_decide_eq_true q32nab
 have q32nbp:=ap l
 refine bu<|sq<|al 3<|bt ((b.getD 0 0)+1)<|am 1<|cb ((decide ((b.length:Int)<((b.getD 0 0)+1)))) (fun h=>?_) (fun h=>?_)
 have X:=of_decide_eq_true h
 refine al 1<|aB g mZ fun ak Y Z=>am 1<|bq<|c9 Y (vI 2)<|?_
 exact cZ (y:=(b6.zero,2)) (by unfold cc cS ca fE;(try simp only[a,d,f,k,q32naa,q32nab,l,h,bp,fm,reduceIte])<;>rfl) (bi (ud j Z i))
 have X:=of_decide_eq_false h
 refine bu<|al 4<|bt ((b.getD 0 0)+1)<|l2 (iC (P:=Tryz.prog) 27 5 1 Tryz.underlying27 rfl rfl A b.length cp (lo:=1) (up:=((b.getD 0 0)+1)) 1 ((((b.getD 0 0)+1)).toNat) (by omega) (by omega) (by omega) (by omega) (by omega)) fun r hrun43 B=>L0<|jU (.slice r (((((b.getD 0 0)+1)).toNat)-1) (cp-1)) (fL (kl:=.i64) (kh:=.i64) (lo:=1) (hi:=((b.getD 0 0)+1)) (A:=A) (n:=b.length) (c:=cp) rfl Tryz.underlying27 (by kernel_rfl) (by kernel_rfl) (by kernel_rfl) (hrun43 _ _ _))<|?_
 by_cases hE:bg (aM cw (((b.take ((((b.getD 0 0)+1)).toNat)).drop 1)).length 0 ⟨((b.take ((((b.getD 0 0)+1)).toNat)).drop 1),false,0⟩ []).1.e=0
 refine aq (args:=#[vI 0,vB 20,.slice r (((((b.getD 0 0)+1)).toNat)-1) (cp-1)])<|e2 (j0 (kp (B _ _ _ _ _ q) (by rw[List.length_drop,List.length_take];omega)) hE) fun an ao s t=>?_
 obtain⟨a0,a1,rfl,ar,aw⟩:=aG.shape s.rd
 refine am 5<|sq<|az 2<|c0<|bu<|sq<|sq<|go<|Pl 3<|bt ((b.getD 0 0)+1)<|am 1<|?_
 have C:=aQ j t
 refine cb ((decide (((b.getD 0 0)+1)<(b.length:Int)))) (fun o=>?_) (fun o=>?_)
 have a2:=of_decide_eq_true o
 refine al 1<|?_
 refine aB (ub t g) mZ fun ay a3 a4=>am 1<|bq<|c9 a3 (vI 3)<|?_
 have hE0:(aM cw (((b.take ((((b.getD 0 0)+1)).toNat)).drop 1)).length 0 ⟨((b.take ((((b.getD 0 0)+1)).toNat)).drop 1),false,0⟩ []).1.e=0:=eV hE
 exact cZ (y:=(b6.zero,3)) (by unfold cc cS ca fE;(try simp only[a,d,f,k,q32naa,q32nab,l,h,o,bp,hE0,fm,reduceIte])<;>rfl) (bi (ud C a4 i))
 have a2:=of_decide_eq_false o
 refine bu<|al 3<|?_
 have D:=ub t g
 refine aB D (mG 20 0 0 0 0 0 0 0 0 0 0 0 nS nS nS (.slice a0 ((aM cw (((b.take ((((b.getD 0 0)+1)).toNat)).drop 1)).length 0 ⟨((b.take ((((b.getD 0 0)+1)).toNat)).drop 1),false,0⟩ []).2.length) a1) 0 0 0 0 0 nS) fun aA a5 u=>am 1<|rt<|c9 a5 (vI 0)<|?_
 have hE0:(aM cw (((b.take ((((b.getD 0 0)+1)).toNat)).drop 1)).length 0 ⟨((b.take ((((b.getD 0 0)+1)).toNat)).drop 1),false,0⟩ []).1.e=0:=eV hE
 exact cZ (y:=((b6.mk 20 0 0 0 0 0 0 0 0 0 0 0 [] [] [] (aM cw (((b.take ((((b.getD 0 0)+1)).toNat)).drop 1)).length 0 ⟨((b.take ((((b.getD 0 0)+1)).toNat)).drop 1),false,0⟩ []).2 0 0 0 0 0 []),0)) (by unfold cc cS ca fE;(try simp only[a,d,f,k,q32naa,q32nab,l,h,o,bp,hE0,fm,reduceIte])<;>rfl) ⟨_,rfl,⟨_,_,_,_,_,rfl,aG.nil ..,aG.nil ..,(fun _ _ _=>aG.nil ..),((av s u (fun x hx=>(aa (fun e=>(aD (ai g) lr s) (e▸hx)) ax)) (bo.upd16 u (ah (aR D (by decide)) aE)))).rd,aG.nil ..,(bR (by omega))⟩,(ud C u i)⟩
 refine aq (args:=#[vI 0,vB 20,.slice r (((((b.getD 0 0)+1)).toNat)-1) (cp-1)])<|(i5 (kp (B _ _ _ _ _ q) (by rw[List.length_drop,List.length_take];omega))).mono ?_
 rintro _ aC ⟨aF,aH,aI,rfl,E⟩
 refine⟨_,rfl,?_⟩
 have hE1:(bg (aM cw (((b.take ((((b.getD 0 0)+1)).toNat)).drop 1)).length 0 ⟨((b.take ((((b.getD 0 0)+1)).toNat)).drop 1),false,0⟩ []).1.e != 0)=true:=by simpa using hE
 refine am 5<|sq<|az 2<|ct hE1<|al 2<|?_
 refine aB (ub E g) mZ fun aL a6 a7=>am 1<|bq<|c9 a6 (vI (bg (aM cw (((b.take ((((b.getD 0 0)+1)).toNat)).drop 1)).length 0 ⟨((b.take ((((b.getD 0 0)+1)).toNat)).drop 1),false,0⟩ []).1.e))<|?_
 have hE3:((aM cw (((b.take ((((b.getD 0 0)+1)).toNat)).drop 1)).length 0 ⟨((b.take ((((b.getD 0 0)+1)).toNat)).drop 1),false,0⟩ []).1.e != 0)=true:=gS hE
 exact cZ (y:=(b6.zero,bg (aM cw (((b.take ((((b.getD 0 0)+1)).toNat)).drop 1)).length 0 ⟨((b.take ((((b.getD 0 0)+1)).toNat)).drop 1),false,0⟩ []).1.e)) (by unfold cc cS ca fE;(try simp only[a,d,f,k,q32naa,q32nab,l,h,hE1,bp,hE3,fm,reduceIte])<;>rfl) (bi (ud j (uz E a7) i))
theorem pK(hsl:aV m w (.slice A b.length cp) b)(hb:b.length≤1048576) :
    Calls Tryz.prog 112 #[vI 1,vB 20,.slice A b.length cp] w (cA (.slice A b.length cp) b (cc bH fD 20 b) w):=by
 have hln:(b.length:Int)≤1048576:=by omega
 have hcp:b.length≤cp:=by obtain⟨_,_,hv,h1,_⟩:=aG.shape hsl;injection hv with _ _ h3;omega
 have hrb:=aV.range hsl
 refine en 101 Tryz.func112 rfl<|sg<|aJ mZ fun a4 a5 i g j=>am 1<|sq<|az 6<|c0<|bu<|sq<|az 6<|c0<|bu<|sq<|az 3<|cb (((b.length:Int)==0)) (fun a=>?_) (fun a=>?_)
 have E:=ap a
 refine al 1<|aB g mZ fun a6 F G=>am 1<|bq<|c9 F (vI 2)<|?_
 exact cZ (y:=(b6.zero,2)) (by unfold cc cS ca fD;(try simp only[a,bp,fm,reduceIte])<;>rfl) (bi (ud j G i))
 have E:=au a
 refine bu<|al 1<|?_
 have q:=aV.old hsl j
 refine eH (aV.at_ q 0 (by omega)) fun H I J L a7=>L0<|ia b.length 0 J (by omega)<|L0<|er (p:=⟨H,I+0,none⟩) (v:=vB (b.getD 0 0)) L<|bt (b.getD 0 0)<|Pl 1<|aK 3<|dc 3 [36] 39 36 (decide (9≤(b.getD 0 0))) (decide ((b.getD 0 0)≤251)) (fun K M N=>?_) ?_
 have a8:=of_decide_eq_true N
 exact Pl 3<|ce M _ rfl
 refine am 1<|sq<|az 6<|c0<|bu<|sq<|sq<|go<|am 6<|c1<|go<|Pl 3<|dc 3 [65] 68 65 (decide (4≤(b.getD 0 0))) (decide ((b.getD 0 0)≤245)) (fun K O Q=>?_) ?_
 have a9:=of_decide_eq_true Q
 exact Pl 3<|ce O _ rfl
 refine am 1<|sq<|az 2<|cb ((!((decide (4≤(b.getD 0 0)))&&(decide ((b.getD 0 0)≤245))))) (fun d=>?_) (fun d=>?_)
 have f:((decide (4≤(b.getD 0 0)))&&(decide ((b.getD 0 0)≤245)))=false:=by simpa only[Bool.not_eq_true',Bool.not_eq_false'] using d
 refine al 1<|aB g mZ fun ab R S=>am 1<|bq<|c9 R (vI 5)<|?_
 exact cZ (y:=(b6.zero,5)) (by unfold cc cS ca fD;(try simp only[a,d,f,bp,fm,reduceIte])<;>rfl) (bi (ud j S i))
 have f:((decide (4≤(b.getD 0 0)))&&(decide ((b.getD 0 0)≤245)))=true:=by simpa only[Bool.not_eq_true',Bool.not_eq_false'] using d
 have k:=(aW f).1
 have l:=(aW f).2
 have q30nap:=of_decide_eq_true k
 have q30nbp:=of_decide_eq_true l
 refine bu<|sq<|al 3<|bt ((b.getD 0 0)+1)<|am 1<|cb ((decide ((b.length:Int)<((b.getD 0 0)+1)))) (fun h=>?_) (fun h=>?_)
 have T:=of_decide_eq_true h
 refine al 1<|aB g mZ fun ac U V=>am 1<|bq<|c9 U (vI 2)<|?_
 exact cZ (y:=(b6.zero,2)) (by unfold cc cS ca fD;(try simp only[a,d,f,k,l,h,bp,fm,reduceIte])<;>rfl) (bi (ud j V i))
 have T:=of_decide_eq_false h
 refine bu<|al 4<|bt ((b.getD 0 0)+1)<|l2 (iC (P:=Tryz.prog) 27 5 1 Tryz.underlying27 rfl rfl A b.length cp (lo:=1) (up:=((b.getD 0 0)+1)) 1 ((((b.getD 0 0)+1)).toNat) (by omega) (by omega) (by omega) (by omega) (by omega)) fun r hrun41 z=>L0<|jU (.slice r (((((b.getD 0 0)+1)).toNat)-1) (cp-1)) (fL (kl:=.i64) (kh:=.i64) (lo:=1) (hi:=((b.getD 0 0)+1)) (A:=A) (n:=b.length) (c:=cp) rfl Tryz.underlying27 (by kernel_rfl) (by kernel_rfl) (by kernel_rfl) (hrun41 _ _ _))<|?_
 by_cases hE:bg (aM bH (((b.take ((((b.getD 0 0)+1)).toNat)).drop 1)).length 0 ⟨((b.take ((((b.getD 0 0)+1)).toNat)).drop 1),false,0⟩ []).1.e=0
 refine aq (args:=#[vI 1,vB 20,.slice r (((((b.getD 0 0)+1)).toNat)-1) (cp-1)])<|e2 (j0 (k9 (z _ _ _ _ _ q) (by rw[List.length_drop,List.length_take];omega)) hE) fun ad ae s t=>?_
 obtain⟨W,X,rfl,af,ag⟩:=aG.shape s.rd
 refine am 5<|sq<|az 2<|c0<|bu<|sq<|sq<|go<|Pl 3<|bt ((b.getD 0 0)+1)<|am 1<|?_
 have B:=aQ j t
 refine cb ((decide (((b.getD 0 0)+1)<(b.length:Int)))) (fun o=>?_) (fun o=>?_)
 have Y:=of_decide_eq_true o
 refine al 1<|?_
 refine aB (ub t g) mZ fun aj Z a0=>am 1<|bq<|c9 Z (vI 3)<|?_
 have hE0:(aM bH (((b.take ((((b.getD 0 0)+1)).toNat)).drop 1)).length 0 ⟨((b.take ((((b.getD 0 0)+1)).toNat)).drop 1),false,0⟩ []).1.e=0:=eV hE
 exact cZ (y:=(b6.zero,3)) (by unfold cc cS ca fD;(try simp only[a,d,f,k,l,h,o,bp,hE0,fm,reduceIte])<;>rfl) (bi (ud B a0 i))
 have Y:=of_decide_eq_false o
 refine bu<|al 3<|?_
 have C:=ub t g
 refine aB C (mG 20 0 0 0 0 0 0 0 0 0 0 0 nS nS nS (.slice W ((aM bH (((b.take ((((b.getD 0 0)+1)).toNat)).drop 1)).length 0 ⟨((b.take ((((b.getD 0 0)+1)).toNat)).drop 1),false,0⟩ []).2.length) X) 0 0 0 0 0 nS) fun ak a1 u=>am 1<|rt<|c9 a1 (vI 0)<|?_
 have hE0:(aM bH (((b.take ((((b.getD 0 0)+1)).toNat)).drop 1)).length 0 ⟨((b.take ((((b.getD 0 0)+1)).toNat)).drop 1),false,0⟩ []).1.e=0:=eV hE
 exact cZ (y:=((b6.mk 20 0 0 0 0 0 0 0 0 0 0 0 [] [] [] (aM bH (((b.take ((((b.getD 0 0)+1)).toNat)).drop 1)).length 0 ⟨((b.take ((((b.getD 0 0)+1)).toNat)).drop 1),false,0⟩ []).2 0 0 0 0 0 []),0)) (by unfold cc cS ca fD;(try simp only[a,d,f,k,l,h,o,bp,hE0,fm,reduceIte])<;>rfl) ⟨_,rfl,⟨_,_,_,_,_,rfl,aG.nil ..,aG.nil ..,(fun _ _ _=>aG.nil ..),((av s u (fun x hx=>(aa (fun e=>(aD (ai g) lr s) (e▸hx)) ax)) (bo.upd16 u (ah (aR C (by decide)) aE)))).rd,aG.nil ..,(bR (by omega))⟩,(ud B u i)⟩
 refine aq (args:=#[vI 1,vB 20,.slice r (((((b.getD 0 0)+1)).toNat)-1) (cp-1)])<|(i5 (k9 (z _ _ _ _ _ q) (by rw[List.length_drop,List.length_take];omega))).mono ?_
 rintro _ an ⟨ao,ar,aw,rfl,D⟩
 refine⟨_,rfl,?_⟩
 have hE1:(bg (aM bH (((b.take ((((b.getD 0 0)+1)).toNat)).drop 1)).length 0 ⟨((b.take ((((b.getD 0 0)+1)).toNat)).drop 1),false,0⟩ []).1.e != 0)=true:=by simpa using hE
 refine am 5<|sq<|az 2<|ct hE1<|al 2<|?_
 refine aB (ub D g) mZ fun ay a2 a3=>am 1<|bq<|c9 a2 (vI (bg (aM bH (((b.take ((((b.getD 0 0)+1)).toNat)).drop 1)).length 0 ⟨((b.take ((((b.getD 0 0)+1)).toNat)).drop 1),false,0⟩ []).1.e))<|?_
 have hE3:((aM bH (((b.take ((((b.getD 0 0)+1)).toNat)).drop 1)).length 0 ⟨((b.take ((((b.getD 0 0)+1)).toNat)).drop 1),false,0⟩ []).1.e != 0)=true:=gS hE
 exact cZ (y:=(b6.zero,bg (aM bH (((b.take ((((b.getD 0 0)+1)).toNat)).drop 1)).length 0 ⟨((b.take ((((b.getD 0 0)+1)).toNat)).drop 1),false,0⟩ []).1.e)) (by unfold cc cS ca fD;(try simp only[a,d,f,k,l,h,hE1,bp,hE3,fm,reduceIte])<;>rfl) (bi (ud j (uz D a3) i))
theorem pG(hd:dir=0∨dir=1)(hsl:aV m w (.slice A b.length cp) b)(hb:b.length≤1048576) :
    Calls Tryz.prog 112 #[vI dir,vB 21,.slice A b.length cp] w (cA (.slice A b.length cp) b (cc cy fB 21 b) w):=by
 have hln:(b.length:Int)≤1048576:=by omega
 have hcp:b.length≤cp:=by obtain⟨_,_,hv,h1,_⟩:=aG.shape hsl;injection hv with _ _ h3;omega
 have hrb:=aV.range hsl
 have g:((dir != 0)&&(dir != 1))=false:=by rcases hd with rfl | rfl<;>rfl
 refine en 101 Tryz.func112 rfl<|sg<|aJ mZ fun a5 a6 j h k=>am 1<|sq<|al 3<|dc 3 [14] 17 14 (dir != 0) (dir != 1) (fun K F G=>?_) ?_
 have a7:=ay G
 exact Pl 3<|ce F _ rfl
 refine nt<|cf g<|bu<|sq<|az 6<|c0<|bu<|sq<|az 3<|cb (((b.length:Int)==0)) (fun a=>?_) (fun a=>?_)
 have H:=ap a
 refine al 1<|aB h mZ fun a8 I J=>am 1<|bq<|c9 I (vI 2)<|?_
 exact cZ (y:=(b6.zero,2)) (by unfold cc cS ca fB;(try simp only[g,a,bp,fm,reduceIte])<;>rfl) (bi (ud k J j))
 have H:=au a
 refine bu<|al 1<|?_
 have r:=aV.old hsl k
 refine eH (aV.at_ r 0 (by omega)) fun L M N O a9=>L0<|ia b.length 0 N (by omega)<|L0<|er (p:=⟨L,M+0,none⟩) (v:=vB (b.getD 0 0)) O<|bt (b.getD 0 0)<|Pl 1<|aK 3<|dc 3 [36] 39 36 (decide (9≤(b.getD 0 0))) (decide ((b.getD 0 0)≤251)) (fun K Q R=>?_) ?_
 have ab:=of_decide_eq_true R
 exact Pl 3<|ce Q _ rfl
 refine am 1<|sq<|az 6<|c0<|bu<|sq<|sq<|go<|am 6<|c0<|bu<|sq<|az 2<|cb ((!((decide (9≤(b.getD 0 0)))&&(decide ((b.getD 0 0)≤251))))) (fun d=>?_) (fun d=>?_)
 have f:((decide (9≤(b.getD 0 0)))&&(decide ((b.getD 0 0)≤251)))=false:=by simpa only[Bool.not_eq_true',Bool.not_eq_false'] using d
 refine al 1<|aB h mZ fun ac S T=>am 1<|bq<|c9 S (vI 5)<|?_
 exact cZ (y:=(b6.zero,5)) (by unfold cc cS ca fB;(try simp only[g,a,d,f,bp,fm,reduceIte])<;>rfl) (bi (ud k T j))
 have f:((decide (9≤(b.getD 0 0)))&&(decide ((b.getD 0 0)≤251)))=true:=by simpa only[Bool.not_eq_true',Bool.not_eq_false'] using d
 have l:=(aW f).1
 have o:=(aW f).2
 have q30nap:=of_decide_eq_true l
 have q30nbp:=of_decide_eq_true o
 refine bu<|sq<|al 3<|bt ((b.getD 0 0)+1)<|am 1<|cb ((decide ((b.length:Int)<((b.getD 0 0)+1)))) (fun i=>?_) (fun i=>?_)
 have U:=of_decide_eq_true i
 refine al 1<|aB h mZ fun ad V W=>am 1<|bq<|c9 V (vI 2)<|?_
 exact cZ (y:=(b6.zero,2)) (by unfold cc cS ca fB;(try simp only[g,a,d,f,l,o,i,bp,fm,reduceIte])<;>rfl) (bi (ud k W j))
 have U:=of_decide_eq_false i
 refine bu<|al 4<|bt ((b.getD 0 0)+1)<|l2 (iC (P:=Tryz.prog) 27 5 1 Tryz.underlying27 rfl rfl A b.length cp (lo:=1) (up:=((b.getD 0 0)+1)) 1 ((((b.getD 0 0)+1)).toNat) (by omega) (by omega) (by omega) (by omega) (by omega)) fun s hrun41 B=>L0<|jU (.slice s (((((b.getD 0 0)+1)).toNat)-1) (cp-1)) (fL (kl:=.i64) (kh:=.i64) (lo:=1) (hi:=((b.getD 0 0)+1)) (A:=A) (n:=b.length) (c:=cp) rfl Tryz.underlying27 (by kernel_rfl) (by kernel_rfl) (by kernel_rfl) (hrun41 _ _ _))<|?_
 by_cases hE:bg (aM cy (((b.take ((((b.getD 0 0)+1)).toNat)).drop 1)).length 0 ⟨((b.take ((((b.getD 0 0)+1)).toNat)).drop 1),false,0⟩ []).1.e=0
 refine aq (args:=#[vI dir,vB 21,.slice s (((((b.getD 0 0)+1)).toNat)-1) (cp-1)])<|e2 (j0 (k0 (B _ _ _ _ _ r) (by rw[List.length_drop,List.length_take];omega)) hE) fun ae af t u=>?_
 obtain⟨X,Y,rfl,ag,aj⟩:=aG.shape t.rd
 refine am 5<|sq<|az 2<|c0<|bu<|sq<|sq<|go<|Pl 3<|bt ((b.getD 0 0)+1)<|am 1<|?_
 have C:=aQ k u
 refine cb ((decide (((b.getD 0 0)+1)<(b.length:Int)))) (fun q=>?_) (fun q=>?_)
 have Z:=of_decide_eq_true q
 refine al 1<|?_
 refine aB (ub u h) mZ fun ak a0 a1=>am 1<|bq<|c9 a0 (vI 3)<|?_
 have hE0:(aM cy (((b.take ((((b.getD 0 0)+1)).toNat)).drop 1)).length 0 ⟨((b.take ((((b.getD 0 0)+1)).toNat)).drop 1),false,0⟩ []).1.e=0:=eV hE
 exact cZ (y:=(b6.zero,3)) (by unfold cc cS ca fB;(try simp only[g,a,d,f,l,o,i,q,bp,hE0,fm,reduceIte])<;>rfl) (bi (ud C a1 j))
 have Z:=of_decide_eq_false q
 refine bu<|al 3<|?_
 have D:=ub u h
 refine aB D (mG 21 0 0 0 0 0 0 0 0 0 0 0 nS nS nS (.slice X ((aM cy (((b.take ((((b.getD 0 0)+1)).toNat)).drop 1)).length 0 ⟨((b.take ((((b.getD 0 0)+1)).toNat)).drop 1),false,0⟩ []).2.length) Y) 0 0 0 0 0 nS) fun an a2 z=>am 1<|rt<|c9 a2 (vI 0)<|?_
 have hE0:(aM cy (((b.take ((((b.getD 0 0)+1)).toNat)).drop 1)).length 0 ⟨((b.take ((((b.getD 0 0)+1)).toNat)).drop 1),false,0⟩ []).1.e=0:=eV hE
 exact cZ (y:=((b6.mk 21 0 0 0 0 0 0 0 0 0 0 0 [] [] [] (aM cy (((b.take ((((b.getD 0 0)+1)).toNat)).drop 1)).length 0 ⟨((b.take ((((b.getD 0 0)+1)).toNat)).drop 1),false,0⟩ []).2 0 0 0 0 0 []),0)) (by unfold cc cS ca fB;(try simp only[g,a,d,f,l,o,i,q,bp,hE0,fm,reduceIte])<;>rfl) ⟨_,rfl,⟨_,_,_,_,_,rfl,aG.nil ..,aG.nil ..,(fun _ _ _=>aG.nil ..),((av t z (fun x hx=>(aa (fun e=>(aD (ai h) lr t) (e▸hx)) ax)) (bo.upd16 z (ah (aR D (by decide)) aE)))).rd,aG.nil ..,(bR (by omega))⟩,(ud C z j)⟩
 refine aq (args:=#[vI dir,vB 21,.slice s (((((b.getD 0 0)+1)).toNat)-1) (cp-1)])<|(i5 (k0 (B _ _ _ _ _ r) (by rw[List.length_drop,List.length_take];omega))).mono ?_
 rintro _ ao ⟨ar,aw,aA,rfl,E⟩
 refine⟨_,rfl,?_⟩
 have hE1:(bg (aM cy (((b.take ((((b.getD 0 0)+1)).toNat)).drop 1)).length 0 ⟨((b.take ((((b.getD 0 0)+1)).toNat)).drop 1),false,0⟩ []).1.e != 0)=true:=by simpa using hE
 refine am 5<|sq<|az 2<|ct hE1<|al 2<|?_
 refine aB (ub E h) mZ fun aC a3 a4=>am 1<|bq<|c9 a3 (vI (bg (aM cy (((b.take ((((b.getD 0 0)+1)).toNat)).drop 1)).length 0 ⟨((b.take ((((b.getD 0 0)+1)).toNat)).drop 1),false,0⟩ []).1.e))<|?_
 have hE3:((aM cy (((b.take ((((b.getD 0 0)+1)).toNat)).drop 1)).length 0 ⟨((b.take ((((b.getD 0 0)+1)).toNat)).drop 1),false,0⟩ []).1.e != 0)=true:=gS hE
 exact cZ (y:=(b6.zero,bg (aM cy (((b.take ((((b.getD 0 0)+1)).toNat)).drop 1)).length 0 ⟨((b.take ((((b.getD 0 0)+1)).toNat)).drop 1),false,0⟩ []).1.e)) (by unfold cc cS ca fB;(try simp only[g,a,d,f,l,o,i,hE1,bp,hE3,fm,reduceIte])<;>rfl) (bi (ud k (uz E a4) j))
theorem p9(hd:dir=0∨dir=1)(hc:¬ c=20∧¬ c=21) :
    Calls Tryz.prog 112 #[vI dir,vB c,.slice A b.length cp] w (cA (.slice A b.length cp) b (b6.zero,4) w):=by
 have a:((dir != 0)&&(dir != 1))=false:=by rcases hd with rfl | rfl<;>rfl
 have e2:((c != 20)&&(c != 21))=true:=by simp[hc.1,hc.2]
 refine en 101 Tryz.func112 rfl<|sg<|aJ mZ fun m n d e f=>am 1<|sq<|al 3<|dc 3 [14] 17 14 (dir != 0) (dir != 1) (fun K g h=>?_) ?_
 have o:=ay h
 exact Pl 3<|ce g _ rfl
 refine nt<|cf a<|bu<|sq<|al 3<|dc 3 [21] 24 21 (c != 20) (c != 21) (fun K i j=>?_) ?_
 have p:=ay j
 exact Pl 3<|ce i _ rfl
 refine nt<|ct e2<|al 1<|aB e mZ fun q k l=>am 1<|bq<|c9 k (vI 4)<|?_
 exact bi (ud f l d)
theorem qh(hd:¬ (dir=0∨dir=1)) :
    Calls Tryz.prog 112 #[vI dir,vB c,.slice A b.length cp] w (cA (.slice A b.length cp) b (b6.zero,1) w):=by
 have a:((dir != 0)&&(dir != 1))=true:=by simp;omega
 refine en 101 Tryz.func112 rfl<|sg<|aJ mZ fun k l d e f=>am 1<|sq<|al 3<|dc 3 [14] 17 14 (dir != 0) (dir != 1) (fun K g h=>?_) ?_
 have m:=ay h
 exact Pl 3<|ce g _ rfl
 refine nt<|ct a<|al 1<|aB e mZ fun n i j=>am 1<|bq<|c9 i (vI 1)<|?_
 exact bi (ud f j d)
theorem nv(hd:dir=0∨dir=1)(hc:¬ c=20∧¬ c=21) : aj b9 dir c b=(b6.zero,4):=by
  unfold aj b9
  rw[if_pos hd,if_neg (by simpa using hc.1),if_neg (by simpa using hc.2)]
theorem oz{form:Int→Int→ag→Option (ag × b6)}   (hd:¬ (dir=0∨dir=1)) : aj form dir c b=(b6.zero,1):=by
  unfold aj
  rw[if_neg hd]
theorem l4(hc:B8 c)(h:aV m w v b)(hb:b.length≤1048576) :
    Calls Tryz.prog 112 #[.int .i64 dir,.int .u8 c,v] w (cA v b (aj b9 dir c b) w):=by
  have hr:=aV.range h
  obtain⟨A,cp,rfl,_,_⟩:=h.shape
  by_cases hd:dir=0∨dir=1
  · by_cases a:c=20
    · subst a
      rcases hd with rfl|rfl
      · rw[mX hr];exact qU h hb
      · rw[mz hr];exact pK h hb
    · by_cases d:c=21
      · subst d
        rw[qH hd hr];exact pG hd h hb
      · rw[nv hd ⟨a,d⟩];exact p9 hd ⟨a,d⟩
  · rw[oz hd];exact qh hd
open Go.RowKit
theorem qP{i:Nat}  {L:List Obj}{R:ag × List Obj}(h:ee (k-i) C L=R)(hk:k-i=0) : R=(C,L):=by
  rw[hk] at h
  exact h.symm
theorem jF(hcode:B8 c)(hsl:aV m w (.slice A b.length cp) b)(hb:b.length≤1048576) :
    Calls Tryz.prog 113 #[vI 0,vB c,.slice A b.length cp] w (cA (.slice A b.length cp) b (aj cm 0 c b) w):=by
 obtain⟨hcode1,hcode2⟩:=hcode
 have hln:(b.length:Int)≤1048576:=by omega
 refine en 176 Tryz.func113 rfl<|sg<|aJ mZ fun bA bB q j a=>am 1<|sq<|az 6<|c0<|bu<|sq<|az 2<|cb ((c != 43)) (fun k=>?_) (fun k=>?_)
 have aE:=ay k
 refine al 1<|aB j mZ fun bC aH aL=>am 1<|bq<|c9 aH (vI 4)<|?_
 exact cZ (by unfold aj cm dk gC fj fk eN ed eF dr;(try simp only[k,bp,cQ,cN,cR,cP,cO,reduceIte])<;>rfl) (bi (ud a aL q))
 have aE:=aI k
 refine bu<|al 2<|L0<|dw #[.slice A b.length cp,vI 0,.bool false,vI 0] fun r bD d U h=>Pl 1<|aK 1<|aJ mZ fun bF bG g aM aN=>aB aM (mC 43) fun aO aR aT=>?_
 refine aK 1<|?_
 have V:=ud aN aT g
 have s:=aQ h V
 have W:=aQ a s
 have aU:RC w _ A cp b aO r (ag.mk b false 0):=⟨hsl,W,(Nat.le_trans a.size d),⟨0,(ub V U),Nat.zero_le _,rfl⟩,by omega⟩
 refine aq<|m3 (dg aU) fun bH aW X bI=>Pl 1<|?_
 have f:=nb (ai U) lr g
 refine L0<|bE (aS X (Ne.symm f) aR) 16 (mG 43 0 0 0 0 0 0 0 0 0 0 0 nS nS nS nS ((ag.mk b false 0).byteV) 0 0 0 0 nS) fun bJ G Y=>aK 2<|aF G 16<|Pl 2<|dX 4 [38] 42 38 (((ag.mk b false 0).byteV)==13) (((ag.mk b false 0).byteV)==14) (fun K aX aY=>?_) ?_
 have bK:=au aY
 exact Pl 1<|L1<|cY G 16<|Pl 2<|ce aX _ rfl
 have t:=us X Y
 have Z:=ut W t (ac (ni a.size d) (ac (ni (le a.size h.size) g) aA))
 refine aq<|m2 (aP (((((ag.mk b false 0).byteV)==13)||(((ag.mk b false 0).byteV)==14))) 8 (RC.upd aW Y (aa f ax) Z)) fun bL aZ o=>?_
 refine eI aZ fun x55 a0 x=>?_
 refine nt<|sq<|bk<|al 1<|?_
 have H:=aS o (Ne.symm f) G
 refine aF H 16<|am 2<|?_
 have a1:=ud Z o (le a.size d)
 refine cb ((((ag.mk b false 0).byteV)==13)) (fun y=>?_) (fun y=>?_)
 have b0:=ap y
 refine al 1<|aq<|m1 (g8 x) fun bM I=>?_
 have bN:=RC.clen x
 refine Pl 1<|aK 3<|?_
 refine aq<|m2 (aP ((decide ((x55.l.length:Int)≤251))) 5 (RC.upd x I ax (aC.step (RC.u x) I))) fun bO a2 b1=>nt<|go<|Pl 2<|aq<|mu (eC (n:=(x55.l.length:Int)) (by omega) a2) fun a3 a4 bP b2 b3 b4=>?_
 have bQ:=Nat.le_trans (ag.bytesR_le (x55.need (decide ((x55.l.length:Int)≤251)) 5) (x55.l.length:Int)) (RC.clen a2)
 refine eI b3 fun l1 b5 b7=>?_
 refine Pl 1<|?_
 have a5:=uz I (u1 b1 b4 im)
 refine L0<|bE (aS a5 (Ne.symm f) H) 14 (mG 43 0 0 0 0 0 0 0 0 0 0 0 nS nS (.slice a3 (((x55.need (decide ((x55.l.length:Int)≤251)) 5).bytesR (x55.l.length:Int)).length) a4) nS ((ag.mk b false 0).byteV) 0 0 0 0 nS) fun bS b8 a6=>nl<|bn<|tn<|al 1<|?_
 have J:=us a5 a6
 have a7:=ut a1 J (ac (ni a.size d) (ac (ni (le a.size h.size) g) aA))
 refine aq<|m2 (jM (RC.upd b7 a6 (aa f ax) a7)) fun bT L C=>nt<|sq<|al 3<|L0<|er (p:=⟨r,3,none⟩) (v:=vI l1.endC.e) (RC.fld L)<|am 1<|?_
 have a8:=ud a7 C (le a.size d)
 have hs:aj cm 0 c b=bj (b6.mk 43 0 0 0 0 0 0 0 0 0 0 0 [] [] ((x55.need (decide ((x55.l.length:Int)≤251)) 5).bytesR (x55.l.length:Int)) [] ((ag.mk b false 0).byteV) 0 0 0 0 []) l1:=by
   subst b5 a0
   unfold aj cm dk gC fj fk eN ed eF dr
   (try simp only[k,y,bp,cQ,cN,cR,cP,cO,reduceIte])
   all_goals rfl
 refine cb ((l1.endC.e != 0)) (fun M=>?_) (fun M=>?_)
 have N:=ay M
 refine sq<|Rg 7 (fun w'=>w'.cell? ⟨r,3,none⟩=some (vI l1.endC.e)) fun bU D=>?_
 have a9:=RC.upd L D ax (aC.step (RC.u L) D)
 refine bz (RC.fld a9) fun z=>Rt 0 z<|Rt 1 z<|Rt 2 z<|Rt 3 z<|Rl 4 z (fun _ hs=>hs)<|?_
 refine R0 5 rfl<|iW (ub (ut s (ut t (ui o (u1 J (aQ C D) im)) (ac im (ac im aA))) (ac (nr d) (ac (ni h.size g) aA))) j) mZ fun bV b9 ab=>?_
 have ad:=ud a8 (uz D ab) q
 refine bz (RC.fld (RC.upd a9 ab (aa (Ne.symm (nb (ai j) lr d)) ax) ad)) fun ba=>Rt 6 ba<|re<|tn<|bq<|c9 b9 (vI l1.endC.e)<|?_
 rw[hs]
 exact cn N ad
 have N:=aI M
 refine bu<|sg<|?_
 refine L0<|cM (aS C (Ne.symm f) b8)<|?_
 refine aB (ub (ut s (ut t (ui o (u1 J C im)) (ac im (ac im aA))) (ac (nr d) (ac (ni h.size g) aA))) j) (mG 43 0 0 0 0 0 0 0 0 0 0 0 nS nS (.slice a3 (((x55.need (decide ((x55.l.length:Int)≤251)) 5).bytesR (x55.l.length:Int)).length) a4) nS ((ag.mk b false 0).byteV) 0 0 0 0 nS) fun bW bb bc=>am 1<|rt<|c9 bb (vI 0)<|?_
 rw[hs]
 exact cL N ⟨_,_,_,_,_,rfl,aG.nil ..,aG.nil ..,b2,aG.nil ..,aG.nil ..,(bR (by omega))⟩ (ud a8 bc q)
 have b0:=au y
 refine az 3<|c1<|al 1<|aq<|m3 (dg x) fun bX bd ae bY=>Pl 1<|?_
 refine L0<|bE (aS ae (Ne.symm f) H) 17 (mG 43 0 0 0 0 0 0 0 0 0 0 0 nS nS nS nS ((ag.mk b false 0).byteV) x55.byteV 0 0 0 nS) fun bZ O af=>aK 2<|aF O 17<|Pl 2<|dc 4 [154] 158 154 (decide (0<x55.byteV)) (decide (x55.byteV<5)) (fun K be bf=>?_) ?_
 have c2:=of_decide_eq_true bf
 exact Pl 1<|L1<|cY O 17<|Pl 2<|ce be _ rfl
 have P:=us ae af
 have ah:=ut a1 P (ac (ni a.size d) (ac (ni (le a.size h.size) g) aA))
 refine aq<|m2 (aP (((decide (0<x55.byteV))&&(decide (x55.byteV<5)))) 6 (RC.upd bd af (aa f ax) ah)) fun c3 bg bh=>?_
 refine eI bg fun i bl bm=>?_
 refine nt<|go<|Pl 1<|aq<|m3 (dg bm) fun c4 bo br c5=>Pl 1<|?_
 have ak:=u1 bh br im
 refine L0<|bE (aS ak (Ne.symm f) O) 20 (mG 43 0 0 0 0 0 0 0 0 0 0 0 nS nS nS nS ((ag.mk b false 0).byteV) x55.byteV 0 0 i.byteV nS) fun c6 bs an=>nl<|bn<|tn<|al 1<|?_
 have Q:=us ak an
 have ao:=ut ah Q (ac (ni a.size d) (ac (ni (le a.size h.size) g) aA))
 refine aq<|m2 (jM (RC.upd bo an (aa f ax) ao)) fun c7 R E=>nt<|sq<|al 3<|L0<|er (p:=⟨r,3,none⟩) (v:=vI (((i.bytesC 1).endC).e)) (RC.fld R)<|am 1<|?_
 have ar:=ud ao E (le a.size d)
 have hs:aj cm 0 c b=bj (b6.mk 43 0 0 0 0 0 0 0 0 0 0 0 [] [] [] [] ((ag.mk b false 0).byteV) x55.byteV 0 0 i.byteV []) (i.bytesC 1):=by
   subst bl a0
   unfold aj cm dk gC fj fk eN ed eF dr
   (try simp only[k,y,bp,cQ,cN,cR,cP,cO,reduceIte])
   all_goals rfl
 refine cb (((((i.bytesC 1).endC).e)!=0)) (fun S=>?_) (fun S=>?_)
 have T:=ay S
 refine sq<|Rg 7 (fun w'=>w'.cell? ⟨r,3,none⟩=some (vI (((i.bytesC 1).endC).e))) fun c8 F=>?_
 have av:=RC.upd R F ax (aC.step (RC.u R) F)
 refine bz (RC.fld av) fun B=>Rt 0 B<|Rt 1 B<|Rt 2 B<|Rt 3 B<|Rl 4 B (fun _ hs=>hs)<|?_
 refine R0 5 rfl<|iW (ub (ut s (ut t (ui o (ut P (u1 Q (aQ E F) im) (ac im (ac im aA)))) (ac im (ac im aA))) (ac (nr d) (ac (ni h.size g) aA))) j) mZ fun ca bt aw=>?_
 have aD:=ud ar (uz F aw) q
 refine bz (RC.fld (RC.upd av aw (aa (Ne.symm (nb (ai j) lr d)) ax) aD)) fun bv=>Rt 6 bv<|re<|tn<|bq<|c9 bt (vI (((i.bytesC 1).endC).e))<|?_
 rw[hs]
 exact cn T aD
 have T:=aI S
 refine bu<|sg<|?_
 refine L0<|cM (aS E (Ne.symm f) bs)<|?_
 refine aB (ub (ut s (ut t (ui o (ut P (u1 Q E im) (ac im (ac im aA)))) (ac im (ac im aA))) (ac (nr d) (ac (ni h.size g) aA))) j) (mG 43 0 0 0 0 0 0 0 0 0 0 0 nS nS nS nS ((ag.mk b false 0).byteV) x55.byteV 0 0 i.byteV nS) fun cc bw bx=>am 1<|rt<|c9 bw (vI 0)<|?_
 rw[hs]
 exact cL T ⟨_,_,_,_,_,rfl,aG.nil ..,aG.nil ..,(fun _ _ _=>aG.nil ..),aG.nil ..,aG.nil ..,(bR (by omega))⟩ (ud ar bx q)
theorem jq(hcode:B8 c)(hsl:aV m w (.slice A b.length cp) b)(hb:b.length≤1048576) :
    Calls Tryz.prog 113 #[vI 1,vB c,.slice A b.length cp] w (cA (.slice A b.length cp) b (aj cm 1 c b) w):=by
 obtain⟨hcode1,hcode2⟩:=hcode
 have hln:(b.length:Int)≤1048576:=by omega
 refine en 176 Tryz.func113 rfl<|sg<|aJ mZ fun S dN H s a=>am 1<|sq<|az 6<|c0<|bu<|sq<|az 2<|cb ((c != 43)) (fun D=>?_) (fun D=>?_)
 have ch:=ay D
 refine al 1<|aB s mZ fun dO ci cj=>am 1<|bq<|c9 ci (vI 4)<|?_
 exact cZ (by unfold aj cm dk gC fj fk eN ed eF dr;(try simp only[D,bp,cQ,cN,cR,cP,cO,reduceIte])<;>rfl) (bi (ud a cj H))
 have ch:=aI D
 refine bu<|al 2<|L0<|dw #[.slice A b.length cp,vI 0,.bool false,vI 0] fun r dP d aY k=>Pl 1<|aK 1<|aJ mZ fun E dQ o ck aZ=>aB ck (mC 43) fun cl co b0=>?_
 refine aK 1<|?_
 have b1:=ud aZ b0 o
 have T:=aQ k b1
 have b2:=aQ a T
 have cr:RC w _ A cp b cl r (ag.mk b false 0):=⟨hsl,b2,(Nat.le_trans a.size d),⟨0,(ub b1 aY),Nat.zero_le _,rfl⟩,by omega⟩
 refine aq<|m3 (dg cr) fun dR cs a1 dS=>Pl 1<|?_
 have f:=nb (ai aY) lr o
 refine L0<|bE (aS a1 (Ne.symm f) co) 16 (mG 43 0 0 0 0 0 0 0 0 0 0 0 nS nS nS nS ((ag.mk b false 0).byteV) 0 0 0 0 nS) fun dT a2 a3=>aK 2<|aF a2 16<|Pl 2<|dX 4 [38] 42 38 (((ag.mk b false 0).byteV)==13) (((ag.mk b false 0).byteV)==14) (fun K ct cu=>?_) ?_
 have dU:=au cu
 exact Pl 1<|L1<|cY a2 16<|Pl 2<|ce ct _ rfl
 have U:=us a1 a3
 have b3:=ut b2 U (ac (ni a.size d) (ac (ni (le a.size k.size) o) aA))
 refine aq<|m2 (aP (((((ag.mk b false 0).byteV)==13)||(((ag.mk b false 0).byteV)==14))) 8 (RC.upd cs a3 (aa f ax) b3)) fun dV cv F=>?_
 refine eI cv fun x55 b4 I=>?_
 refine nt<|sq<|bk<|al 1<|?_
 have a4:=aS F (Ne.symm f) a2
 refine aF a4 16<|am 2<|?_
 have b5:=ud b3 F (le a.size d)
 refine cb ((((ag.mk b false 0).byteV)==13)) (fun J=>?_) (fun J=>?_)
 have cw:=ap J
 refine al 1<|aq<|m1 (g8 I) fun dW a5=>?_
 have dY:=RC.clen I
 refine Pl 1<|aK 3<|?_
 refine aq<|m2 (aP ((decide ((x55.l.length:Int)≤251))) 5 (RC.upd I a5 ax (aC.step (RC.u I) a5))) fun dZ b9 cx=>nt<|go<|Pl 2<|aq<|mu (eC (n:=(x55.l.length:Int)) (by omega) b9) fun ba bb e0 cy cz cB=>?_
 have e1:=Nat.le_trans (ag.bytesR_le (x55.need (decide ((x55.l.length:Int)≤251)) 5) (x55.l.length:Int)) (RC.clen b9)
 refine eI cz fun l1 cC cD=>?_
 refine Pl 1<|?_
 have bc:=uz a5 (u1 cx cB im)
 refine L0<|bE (aS bc (Ne.symm f) a4) 14 (mG 43 0 0 0 0 0 0 0 0 0 0 0 nS nS (.slice ba (((x55.need (decide ((x55.l.length:Int)≤251)) 5).bytesR (x55.l.length:Int)).length) bb) nS ((ag.mk b false 0).byteV) 0 0 0 0 nS) fun e2 cE bd=>nl<|bn<|tn<|al 1<|?_
 have a6:=us bc bd
 have bf:=ut b5 a6 (ac (ni a.size d) (ac (ni (le a.size k.size) o) aA))
 refine aq<|m2 (jM (RC.upd cD bd (aa f ax) bf)) fun e3 a7 V=>nt<|sq<|al 3<|L0<|er (p:=⟨r,3,none⟩) (v:=vI l1.endC.e) (RC.fld a7)<|am 1<|?_
 have bg:=ud bf V (le a.size d)
 have hs:aj cm 1 c b=bj (b6.mk 43 0 0 0 0 0 0 0 0 0 0 0 [] [] ((x55.need (decide ((x55.l.length:Int)≤251)) 5).bytesR (x55.l.length:Int)) [] ((ag.mk b false 0).byteV) 0 0 0 0 []) l1:=by
   subst cC b4
   unfold aj cm dk gC fj fk eN ed eF dr
   (try simp only[D,J,bp,cQ,cN,cR,cP,cO,reduceIte])
   all_goals rfl
 refine cb ((l1.endC.e != 0)) (fun a8=>?_) (fun a8=>?_)
 have a9:=ay a8
 refine sq<|Rg 7 (fun w'=>w'.cell? ⟨r,3,none⟩=some (vI l1.endC.e)) fun e4 W=>?_
 have bh:=RC.upd a7 W ax (aC.step (RC.u a7) W)
 refine bz (RC.fld bh) fun M=>Rt 0 M<|Rt 1 M<|Rt 2 M<|Rt 3 M<|Rl 4 M (fun _ hs=>hs)<|?_
 refine R0 5 rfl<|iW (ub (ut T (ut U (ui F (u1 a6 (aQ V W) im)) (ac im (ac im aA))) (ac (nr d) (ac (ni k.size o) aA))) s) mZ fun e5 cF bl=>?_
 have bm:=ud bg (uz W bl) H
 refine bz (RC.fld (RC.upd bh bl (aa (Ne.symm (nb (ai s) lr d)) ax) bm)) fun cG=>Rt 6 cG<|re<|tn<|bq<|c9 cF (vI l1.endC.e)<|?_
 rw[hs]
 exact cn a9 bm
 have a9:=aI a8
 refine bu<|sg<|?_
 refine L0<|cM (aS V (Ne.symm f) cE)<|?_
 refine aB (ub (ut T (ut U (ui F (u1 a6 V im)) (ac im (ac im aA))) (ac (nr d) (ac (ni k.size o) aA))) s) (mG 43 0 0 0 0 0 0 0 0 0 0 0 nS nS (.slice ba (((x55.need (decide ((x55.l.length:Int)≤251)) 5).bytesR (x55.l.length:Int)).length) bb) nS ((ag.mk b false 0).byteV) 0 0 0 0 nS) fun e6 cH cI=>am 1<|rt<|c9 cH (vI 0)<|?_
 rw[hs]
 exact cL a9 ⟨_,_,_,_,_,rfl,aG.nil ..,aG.nil ..,cy,aG.nil ..,aG.nil ..,(bR (by omega))⟩ (ud bg cI H)
 have cw:=au J
 refine az 3<|c0<|al 1<|aq<|m3 (dg I) fun e7 cK ab e8=>Pl 1<|?_
 refine L0<|bE (aS ab (Ne.symm f) a4) 17 (mG 43 0 0 0 0 0 0 0 0 0 0 0 nS nS nS nS ((ag.mk b false 0).byteV) x55.byteV 0 0 0 nS) fun e9 ad ae=>aK 2<|aF ad 17<|Pl 2<|dc 4 [51] 55 51 (decide (0<x55.byteV)) (decide (x55.byteV<5)) (fun K cS cT=>?_) ?_
 have ea:=of_decide_eq_true cT
 exact Pl 1<|L1<|cY ad 17<|Pl 2<|ce cS _ rfl
 have bo:=us ab ae
 have br:=ut b5 bo (ac (ni a.size d) (ac (ni (le a.size k.size) o) aA))
 refine aq<|m2 (aP (((decide (0<x55.byteV))&&(decide (x55.byteV<5)))) 6 (RC.upd cK ae (aa f ax) br)) fun eb cU bs=>?_
 refine eI cU fun j cV cW=>?_
 refine aK 1<|aq<|m3 (dg cW) fun ec cX bv eg=>Pl 1<|?_
 have bw:=u1 bs bv im
 refine L0<|bE (aS bw (Ne.symm f) ad) 18 (mG 43 0 0 0 0 0 0 0 0 0 0 0 nS nS nS nS ((ag.mk b false 0).byteV) x55.byteV j.byteV 0 0 nS) fun eh bA af=>aK 1<|aF bA 18<|L0<|Oe (vB (Int.tmod j.byteV 128)) (vB (j.byteV%128)) (congrArg (Value.int .u8) (Int.tmod_eq_emod_of_nonneg (by omega)))<|Pl 1<|aK 4<|dc 3 [66] 69 66 (decide (1≤(j.byteV%128))) (decide ((j.byteV%128)≤3)) (fun K d0 d1=>?_) ?_
 have ei:=of_decide_eq_true d1
 exact Pl 3<|ce d0 _ rfl
 have bB:=us bw af
 have bC:=ut br bB (ac (ni a.size d) (ac (ni (le a.size k.size) o) aA))
 refine aq<|m2 (aP (((decide (1≤(j.byteV%128)))&&(decide ((j.byteV%128)≤3)))) 6 (RC.upd cX af (aa f ax) bC)) fun ej d2 bD=>?_
 refine eI d2 fun q d3 d4=>?_
 refine aK 1<|aq<|m3 (dg d4) fun ek d5 bF el=>Pl 1<|?_
 have bG:=u1 bD bF im
 refine L0<|bE (aS bG (Ne.symm f) bA) 19 (mG 43 0 0 0 0 0 0 0 0 0 0 0 nS nS nS nS ((ag.mk b false 0).byteV) x55.byteV j.byteV q.byteV 0 nS) fun em ah ak=>aK 2<|aF ah 19<|Pl 2<|dX 4 [78] 82 78 (q.byteV==0) (q.byteV==255) (fun K d6 d7=>?_) ?_
 have eo:=au d7
 exact Pl 1<|L1<|cY ah 19<|Pl 2<|ce d6 _ rfl
 have bH:=us bG ak
 have bI:=ut bC bH (ac (ni a.size d) (ac (ni (le a.size k.size) o) aA))
 refine aq<|m2 (aP (((q.byteV==0)||(q.byteV==255))) 6 (RC.upd d5 ak (aa f ax) bI)) fun ep d8 bJ=>?_
 refine eI d8 fun y d9 da=>?_
 refine aK 1<|aq<|m3 (dg da) fun eq dd bK es=>Pl 1<|?_
 have bL:=u1 bJ bK im
 refine L0<|bE (aS bL (Ne.symm f) ah) 20 (mG 43 0 0 0 0 0 0 0 0 0 0 0 nS nS nS nS ((ag.mk b false 0).byteV) x55.byteV j.byteV q.byteV y.byteV nS) fun et X an=>aK 2<|aF X 20<|Pl 2<|dX 4 [91] 95 91 (y.byteV==0) (q.byteV==255) (fun K de df=>?_) ?_
 have eu:=au df
 exact Pl 1<|L1<|cY X 19<|Pl 2<|ce de _ rfl
 have bM:=us bL an
 have bN:=ut bI bM (ac (ni a.size d) (ac (ni (le a.size k.size) o) aA))
 refine aq<|m2 (aP (((y.byteV==0)||(q.byteV==255))) 6 (RC.upd dd an (aa f ax) bN)) fun ev dh ao=>?_
 refine eI dh fun g di dj=>?_
 refine aK 1<|aq<|m3 (dg dj) fun ew dl ar ex=>bt g.byteV<|Pl 1<|aK 4<|dX 4 [103] 107 103 (g.byteV==1) (x55.byteV != 4) (fun K dm dn=>?_) ?_
 have ey:=au dn
 refine Pl 1<|?_
 exact L1<|cY (aS (u1 ao ar im) (Ne.symm f) X) 17<|Pl 2<|ce dm _ rfl
 refine aq<|m2 (aP (((g.byteV==1)||(x55.byteV != 4))) 5 dl) fun dp dq bO=>?_
 refine eI dq fun N ds dt=>?_
 refine cJ 1<|bk<|?_
 have hKr:0≤g.byteV∧g.byteV<256:=by omega
 have aw:=u1 ao (u1 ar bO im) im
 refine iq (fun x=>[(6,vP S 0),(7,vI 0),(8,vP r 0),(9,vP E 0),(12,vI g.byteV),(13,vI (x.1:Int))]) (fun(x:Nat × ag × List Obj × Option Addr × Nat) w'=>aC [] w w'∧dp.heap.size≤w'.heap.size∧w'.heap[S]? = some (.cells mZ 45 (0,0))∧RC w m A cp b w' r x.2.1∧w'.heap[E]? = some (.cells (mG 43 0 0 0 0 0 0 0 0 0 0 0 nS nS nS nS ((ag.mk b false 0).byteV) x55.byteV j.byteV q.byteV y.byteV (.slice x.2.2.2.1 x.2.2.1.length x.2.2.2.2)) 45 (0,0))∧aT w.heap.size 100 2 (lX (.slice A b.length cp) b) w' (.slice x.2.2.2.1 x.2.2.1.length x.2.2.2.2) x.2.2.1∧(x.1≤g.byteV.toNat)∧(x.2.2.1.length=x.1)∧(ee (g.byteV.toNat-x.1) x.2.1 x.2.2.1=ee g.byteV.toNat N [])) (fun x=>g.byteV.toNat-x.1) (0,N,[],none,0) ⟨(ud bN aw (le a.size d)),lr,(ub (ut T (ut U (ui F (ut bo (ut bB (ut bH (u1 bM aw im) (ac im (ac im aA))) (ac im (ac im aA))) (ac im (ac im aA)))) (ac im (ac im aA))) (ac (nr d) (ac (ni k.size o) aA))) s),dt,(aS aw (Ne.symm f) X),(aT.nil w.heap.size _ _ (lX (.slice A b.length cp) b) _),(by(try dsimp only);omega),rfl,rfl⟩ ?_
 rintro⟨i,C,L,B,cq⟩ Y ⟨bP,bQ,du,dv,dx,dy,dz,dA,dB⟩
 refine fs [(6,vP S 0),(7,vI 0),(8,vP r 0),(9,vP E 0),(12,vI g.byteV),(13,vI (i:Int))] ?_
 have O:Y.heap[S]? = some (.cells mZ 45 (0,0)):=du
 have z:RC w m A cp b Y r C:=dv
 have hlC:=RC.clen z
 have hrC:gP C:=RC.rng z
 have hbv:=gj hrC
 have hbv2:=gj (fM hrC (n:=1))
 have bS:Y.heap[E]? = some (.cells (mG 43 0 0 0 0 0 0 0 0 0 0 0 nS nS nS nS ((ag.mk b false 0).byteV) x55.byteV j.byteV q.byteV y.byteV (.slice B L.length cq)) 45 (0,0)):=dx
 have t:aT w.heap.size 100 2 (lX (.slice A b.length cp) b) Y (.slice B L.length cq) L:=dy
 have ez:i≤g.byteV.toNat:=dz
 have eA:L.length=i:=dA
 have bT:ee (g.byteV.toNat-i) C L=ee g.byteV.toNat N []:=dB
 refine sq<|az 3<|cb ((decide ((i:Int)<g.byteV))) (fun Z=>?_) (fun Z=>?_)
 have dC:=of_decide_eq_true Z
 refine bu<|sq<|bk<|al 1<|aq<|m3 (dg z) fun eB dD aD eD=>Pl 1<|aK 1<|aq<|m3 (dg dD) fun eE bU aE eG=>?_
 refine bt ((C.bytesC 1).byteV)<|Pl 1<|aK 2<|aq<|mu (eC (n:=(C.bytesC 1).byteV) (by omega) bU) fun dE dF eH dG bV aL=>?_
 have eJ:=Nat.le_trans (ag.bytesR_le ((C.bytesC 1).bytesC 1) ((C.bytesC 1).byteV)) (RC.clen bU)
 refine am 1<|go<|Pl 1<|?_
 have aM:=u1 aD (u1 aE aL im) im
 have aN:=aS aM (Ne.symm f) bS
 refine aF aN 21<|Pl 3<|L0<|gv (m:=1) (e:=100) #[vB C.byteV,.slice dE ((((C.bytesC 1).bytesC 1).bytesR ((C.bytesC 1).byteV)).length) dF] fun eK eL eM dH G=>?_
 have bW:=RC.upd bV G ax (aC.step (RC.u bV) G)
 have dI:=ip (R:=lX (.slice A b.length cp) b) (x:=(Obj.mk C.byteV (((C.bytesC 1).bytesC 1).bytesR ((C.bytesC 1).byteV)))) dH rfl ⟨_,_,_,rfl,dG,b8 (x:=C.byteV) (by omega)⟩
 have bX:=aQ aM G
 have bY:=av t bX (fun x hx=>(aa (fun e=>(RC.nrow z t (by decide)) (e▸hx)) ax)) (fun _ _ h=>h)
 refine L0<|fl (xs:=L) (ys:=([(Obj.mk C.byteV (((C.bytesC 1).bytesC 1).bytesR ((C.bytesC 1).byteV)))])) (.agg #[vB 0,nS]) 2 32 bY dI (by simp) lX.ones (fun _ _ _ _ h=>h) (by(try simp only[ef,be]);omega) (le (le (le (le (le (le (le (le (le (le (le (le (le (le (le (le (le (le (le (le (le (le (le (le (le a.size k.size) aZ.size) b0.size) a1.size) a3.size) F.size) ab.size) ae.size) bs.size) bv.size) af.size) bD.size) bF.size) ak.size) bJ.size) bK.size) an.size) ao.size) ar.size) bO.size) bQ) aD.size) aE.size) aL.size) G.size) fun bZ c1 eO c2 aO=>Pl 1<|?_
 have c3:=aC.blk (ut (aC.mono (S':=(ob B++[])) G aA) aO (aH il aA)) (b7 (db aN (av t aM (fun x hx=>(aa (fun e=>(RC.nrow z t (by decide)) (e▸hx)) ax)) (fun _ _ h=>h)) (by decide)) ax) aN
 refine L0<|bE c3 21 (mG 43 0 0 0 0 0 0 0 0 0 0 0 nS nS nS nS ((ag.mk b false 0).byteV) x55.byteV j.byteV q.byteV y.byteV (.slice bZ ((L++[(Obj.mk C.byteV (((C.bytesC 1).bytesC 1).bytesR ((C.bytesC 1).byteV)))]).length) c1)) fun eP dJ aR=>nl<|bn<|tn<|go<|Pl 1<|bt ((i:Int)+1)<|Pl 1<|nl<|?_
 have c4:=u1 (aC.mono (S':=(ob B++(E :: []))) aO (aH il aA)) aR im
 have c5:=ut (aC.mono (S':=(r :: (ob B++(E :: [])))) bX (ac im aA)) c4 (aH il (ac im aA))
 have c6:=ut bP c5 (ac (ni a.size d) (aH (c7 t lr) (ac (ni (le a.size k.size) o) aA)))
 exact fv ((i+1),(((C.bytesC 1).bytesC 1).bytesC ((C.bytesC 1).byteV)),(L++[(Obj.mk C.byteV (((C.bytesC 1).bytesC 1).bytesR ((C.bytesC 1).byteV)))]),bZ,c1) ⟨c6,(le (le (le (le (le (le bQ aD.size) aE.size) aL.size) G.size) aO.size) aR.size),(aC.blk c5 (aa (nb (ai s) lr d) (b7 (db O t (by decide)) (aa (nb (ai s) k.size o) ax))) O),(RC.upd bW c4 (b7 (RC.nrow bW bY (by decide)) (aa f ax)) c6),dJ,(av c2 aR (fun x hx=>(aa (fun e=>(db c3 c2 (by decide)) (e▸hx)) ax)) (fun _ _ h=>h)),(by(try dsimp only);omega),(by(try dsimp only);simp only[ef];omega),(by(try dsimp only);rw[← bT,show g.byteV.toNat-i=(g.byteV.toNat-(i+1))+1 from by omega];rfl)⟩ (by omega)
 have dC:=of_decide_eq_false Z
 refine xt<|tx<|tx<|bx<|bn<|tn<|al 1<|?_
 have hR:=qP bT (by omega)
 refine aq<|m2 (jM z) fun eQ aU P=>nt<|sq<|al 3<|L0<|er (p:=⟨r,3,none⟩) (v:=vI C.endC.e) (RC.fld aU)<|am 1<|?_
 have c8:=ud bP P (le a.size d)
 have hs:aj cm 1 c b=bj (b6.mk 43 0 0 0 0 0 0 0 0 0 0 0 [] [] [] [] ((ag.mk b false 0).byteV) x55.byteV j.byteV q.byteV y.byteV (ee g.byteV.toNat N []).2) (ee g.byteV.toNat N []).1:=by
   subst ds di d9 d3 cV b4
   unfold aj cm dk gC fj fk eN ed eF dr
   (try simp only[D,J,Z,bp,cQ,cN,cR,cP,cO,reduceIte])
   all_goals rfl
 refine cb ((C.endC.e != 0)) (fun aW=>?_) (fun aW=>?_)
 have aX:=ay aW
 refine sq<|Rg 7 (fun w'=>w'.cell? ⟨r,3,none⟩=some (vI C.endC.e)) fun eR a0=>?_
 have ca:=RC.upd aU a0 ax (aC.step (RC.u aU) a0)
 refine bz (RC.fld ca) fun Q=>Rt 0 Q<|Rt 1 Q<|Rt 2 Q<|Rt 3 Q<|Rl 4 Q (fun _ hs=>hs)<|?_
 have cc:=nb (ai s) lr d
 refine R0 5 rfl<|iW (aS (aQ P a0) cc O) mZ fun eS dK cd=>?_
 have cf:=ud c8 (uz a0 cd) H
 refine bz (RC.fld (RC.upd ca cd (aa (Ne.symm cc) ax) cf)) fun dL=>Rt 6 dL<|re<|tn<|bq<|c9 dK (vI C.endC.e)<|?_
 rw[hR] at hs
 rw[hs]
 exact cn aX cf
 have aX:=aI aW
 refine bu<|sg<|?_
 refine L0<|cM (aS P (Ne.symm f) bS)<|?_
 refine aB (aS P (nb (ai s) lr d) O) (mG 43 0 0 0 0 0 0 0 0 0 0 0 nS nS nS nS ((ag.mk b false 0).byteV) x55.byteV j.byteV q.byteV y.byteV (.slice B L.length cq)) fun eT dM cg=>am 1<|rt<|c9 dM (vI 0)<|?_
 rw[hR] at hs
 rw[hs]
 exact cL aX ⟨_,_,_,_,_,rfl,aG.nil ..,aG.nil ..,(fun _ _ _=>aG.nil ..),aG.nil ..,((av t (us P cg) (fun x hx=>(aa (fun e=>(RC.nrow z t (by decide)) (e▸hx)) (aa (fun e=>(db O t (by decide)) (e▸hx)) ax))) (fun _ _ h=>h))).rd,(bR (by omega))⟩ (ud c8 cg H)
theorem jp(hcode:B8 c)(hsl:aV m w (.slice A b.length cp) b)(hb:b.length≤1048576)(hd:¬ (dir=0∨dir=1)) :
    Calls Tryz.prog 113 #[vI dir,vB c,.slice A b.length cp] w (cA (.slice A b.length cp) b (aj cm dir c b) w):=by
 obtain⟨hcode1,hcode2⟩:=hcode
 have hln:(b.length:Int)≤1048576:=by omega
 have e0:(dir != 0)=true:=by simp;omega
 have e1:(dir != 1)=true:=by simp;omega
 refine en 176 Tryz.func113 rfl<|sg<|aJ mZ fun g h a d e=>am 1<|sq<|al 3<|sy 19 e0<|Pl 3<|nl<|tn<|ct e1<|al 1<|aB d mZ fun i dC f=>am 1<|bq<|c9 dC (vI 1)<|?_
 exact cZ (by unfold aj cm dk gC fj fk eN ed eF dr;(try simp only[e0,e1,bp,cQ,cN,cR,cP,cO,reduceIte,hd])<;>rfl) (bi (ud e f a))
theorem mF(hc:B8 c)(h:aV m w v b)(hb:b.length≤1048576) :
    Calls Tryz.prog 113 #[.int .i64 dir,.int .u8 c,v] w (cA v b (aj bY dir c b) w):=by
  rw[← mc (aV.range h)]
  obtain⟨A,cp,rfl,_,_⟩:=h.shape
  by_cases h0:dir=0
  · subst h0;exact jF hc h hb
  by_cases h1:dir=1
  · subst h1;exact jq hc h hb
  exact jp hc h hb (by omega)
open Go.RowKit
theorem rg:Calls Tryz.prog 164 #[vB x] w (cg (.bool (m7 x)) w):=by
 refine en 37 Tryz.func164 rfl<|al 1<|aK 3<|dc 3 [5] 8 5 (decide (1≤x)) (decide (x≤8)) (fun K e f=>?_) ?_
 have n:=of_decide_eq_true f
 exact Pl 3<|ce e _ rfl
 refine Pl 1<|dX 3 [9] 12 9 ((decide (1≤x))&&(decide (x≤8))) (x==11) (fun K g o=>?_) ?_
 exact Pl 3<|ce g _ rfl
 refine Pl 1<|dX 3 [13] 16 13 (((decide (1≤x))&&(decide (x≤8)))||(x==11)) (x==12) (fun K h p=>?_) ?_
 exact Pl 3<|ce h _ rfl
 refine Pl 1<|cu 7 [17] 24 ((((((decide (1≤x))&&(decide (x≤8)))||(x==11))||(x==12))||((decide (15≤x))&&(decide (x≤17))))) (fun K c=>?_) ?_
 refine bl 17 (((((decide (1≤x))&&(decide (x≤8)))||(x==11))||(x==12))) (fun a=>?_) (fun a=>?_)
 exact Pl 7<|ce c true (by rw[a];rfl)
 refine Pl 3<|dc 3 [20] 23 20 (decide (15≤x)) (decide (x≤17)) (fun K i j=>?_) ?_
 have q:=of_decide_eq_true j
 exact Pl 3<|ce i _ rfl
 exact Pl 1<|ce c ((decide (15≤x))&&(decide (x≤17))) (by rw[a];rfl)
 refine Pl 1<|cu 7 [25] 32 (((((((decide (1≤x))&&(decide (x≤8)))||(x==11))||(x==12))||((decide (15≤x))&&(decide (x≤17))))||((decide (20≤x))&&(decide (x≤24))))) (fun K d=>?_) ?_
 refine bl 25 ((((((decide (1≤x))&&(decide (x≤8)))||(x==11))||(x==12))||((decide (15≤x))&&(decide (x≤17))))) (fun b=>?_) (fun b=>?_)
 exact Pl 7<|ce d true (by rw[b];rfl)
 refine Pl 3<|dc 3 [28] 31 28 (decide (20≤x)) (decide (x≤24)) (fun K k l=>?_) ?_
 have r:=of_decide_eq_true l
 exact Pl 3<|ce k _ rfl
 exact Pl 1<|ce d ((decide (20≤x))&&(decide (x≤24))) (by rw[b];rfl)
 refine Pl 1<|dX 3 [33] 36 33 ((((((decide (1≤x))&&(decide (x≤8)))||(x==11))||(x==12))||((decide (15≤x))&&(decide (x≤17))))||((decide (20≤x))&&(decide (x≤24)))) (x==43) (fun K m s=>?_) ?_
 exact Pl 3<|ce m _ rfl
 exact am 1<|rt<|rr (.bool (((((((decide (1≤x))&&(decide (x≤8)))||(x==11))||(x==12))||((decide (15≤x))&&(decide (x≤17))))||((decide (20≤x))&&(decide (x≤24))))||(x==43)))<|cZ (by unfold m7;(try simp only[bp])<;>rfl) ⟨rfl,(aC.refl [] _)⟩
open Go.RowKit
def gf (b:List Int) : b6 × Int :=
  if decide ((b.length:Int)<1) then (b6.zero,2)
  else if decide (b.getD 0 0-128<0) then (b6.zero,4)
  else if !(m7 ((b.getD 0 0-128)%256)) then (b6.zero,4)
  else if decide ((b.length:Int)<2) then (b6.zero,2)
  else if !(da (b.getD 1 0)) then (b6.zero,6)
  else if decide (2<(b.length:Int)) then (b6.zero,3)
  else (uj ((b.getD 0 0-128)%256) (b.getD 1 0),0)
theorem tj:m7 x=f6 x:=by
  unfold m7 f6
  rw[Bool.eq_iff_iff]
  simp only[decide_eq_true_eq,List.mem_cons,List.not_mem_nil,or_false,Bool.or_eq_true,Bool.and_eq_true,beq_iff_eq]
  omega
theorem qQ(b:List Int) : gf b=fw b:=by
  unfold gf fw
  rw[tj,show decide ((b.length:Int)<1)=((b.length:Int)==0) from by rw[Bool.eq_iff_iff];simp only[decide_eq_true_eq,beq_iff_eq];omega,show decide (b.getD 0 0-128<0)=decide (b.getD 0 0<128) from by rw[Bool.eq_iff_iff];simp only[decide_eq_true_eq];omega]
  by_cases h:b.length=0
  · rw[show((b.length:Int)==0)=true from by rw[beq_iff_eq];omega];rfl
  · rw[show decide ((b.length:Int)<2)=((b.length:Int)==1) from by rw[Bool.eq_iff_iff];simp only[decide_eq_true_eq,beq_iff_eq];omega]
theorem lM(hsl:aV m w (.slice A b.length cp) b)(hb:b.length≤1048576) :
    Calls Tryz.prog 108 #[.slice A b.length cp] w (cA (.slice A b.length cp) b (gf b) w):=by
 have hln:(b.length:Int)≤1048576:=by omega
 refine en 46 Tryz.func108 rfl<|sg<|aJ mZ fun a3 a4 e f n=>am 1<|sq<|az 3<|cb ((decide ((b.length:Int)<1))) (fun a=>?_) (fun a=>?_)
 have u:=of_decide_eq_true a
 refine al 1<|aB f mZ fun a5 z B=>am 1<|bq<|c9 z (vI 2)<|?_
 exact cZ (y:=(b6.zero,2)) (by unfold gf;(try simp only[a,bp,Bool.not_eq_true,reduceIte])<;>rfl) (bi (ud n B e))
 have u:=of_decide_eq_false a
 refine bu<|al 1<|?_
 have s:=aV.old hsl n
 refine eH (aV.at_ s 0 (by omega)) fun C D E F a6=>L0<|ia b.length 0 E (by omega)<|L0<|er (p:=⟨C,D+0,none⟩) (v:=vB (b.getD 0 0)) F<|bt (b.getD 0 0)<|bt ((b.getD 0 0)-128)<|am 1<|sq<|az 2<|cb ((decide (((b.getD 0 0)-128)<0))) (fun c=>?_) (fun c=>?_)
 have G:=of_decide_eq_true c
 refine al 1<|aB f mZ fun a7 H I=>am 1<|bq<|c9 H (vI 4)<|?_
 exact cZ (y:=(b6.zero,4)) (by unfold gf;(try simp only[a,c,bp,Bool.not_eq_true,reduceIte])<;>rfl) (bi (ud n I e))
 have G:=of_decide_eq_false c
 refine bu<|al 2<|aq<|m1 (rg (x:=(((b.getD 0 0)-128)%256))) fun a8 g=>am 1<|sq<|al 2<|nl<|tn<|?_
 have q:=aQ n g
 refine cb ((!(m7 (((b.getD 0 0)-128)%256)))) (fun d=>?_) (fun d=>?_)
 have i:(m7 (((b.getD 0 0)-128)%256))=false:=by simpa using d
 refine al 1<|?_
 refine aB (ub g f) mZ fun a9 J K=>am 1<|bq<|c9 J (vI 4)<|?_
 exact cZ (y:=(b6.zero,4)) (by unfold gf;(try simp only[a,c,d,i,bp,Bool.not_eq_true,reduceIte])<;>rfl) (bi (ud q K e))
 have i:(m7 (((b.getD 0 0)-128)%256))=true:=by simpa using d
 refine bu<|sq<|az 3<|cb ((decide ((b.length:Int)<2))) (fun h=>?_) (fun h=>?_)
 have L:=of_decide_eq_true h
 refine al 1<|?_
 refine aB (ub g f) mZ fun aa M N=>am 1<|bq<|c9 M (vI 2)<|?_
 exact cZ (y:=(b6.zero,2)) (by unfold gf;(try simp only[a,c,d,i,h,bp,Bool.not_eq_true,reduceIte])<;>rfl) (bi (ud q N e))
 have L:=of_decide_eq_false h
 refine bu<|al 1<|?_
 have t:=aV.old s g
 refine eH (aV.at_ t 1 (by omega)) fun O P Q R ab=>L0<|ia b.length 1 Q (by omega)<|L0<|er (p:=⟨O,P+1,none⟩) (v:=vB (b.getD 1 0)) R<|aq<|m1 (qL (x:=(b.getD 1 0)) (by omega)) fun ac k=>am 1<|sq<|az 2<|?_
 have r:=aQ q k
 refine cb ((!(da (b.getD 1 0)))) (fun j=>?_) (fun j=>?_)
 have o:(da (b.getD 1 0))=false:=by simpa using j
 refine al 1<|?_
 refine aB (ub (aQ g k) f) mZ fun ad S T=>am 1<|bq<|c9 S (vI 6)<|?_
 exact cZ (y:=(b6.zero,6)) (by unfold gf;(try simp only[a,c,d,i,h,j,o,bp,Bool.not_eq_true,reduceIte])<;>rfl) (bi (ud r T e))
 have o:(da (b.getD 1 0))=true:=by simpa using j
 refine bu<|sq<|az 3<|cb ((decide (2<(b.length:Int)))) (fun l=>?_) (fun l=>?_)
 have U:=of_decide_eq_true l
 refine al 1<|?_
 refine aB (ub (aQ g k) f) mZ fun ae V W=>am 1<|bq<|c9 V (vI 3)<|?_
 exact cZ (y:=(b6.zero,3)) (by unfold gf;(try simp only[a,c,d,i,h,j,o,l,bp,Bool.not_eq_true,reduceIte])<;>rfl) (bi (ud r W e))
 have U:=of_decide_eq_false l
 refine bu<|al 3<|?_
 refine eH (aV.at_ (aV.old t k) 1 (by omega)) fun X Y Z a0 af=>L0<|ia b.length 1 Z (by omega)<|L0<|er (p:=⟨X,Y+1,none⟩) (v:=vB (b.getD 1 0)) a0<|Pl 1<|?_
 refine aB (ub (aQ g k) f) (mG (((b.getD 0 0)-128)%256) (b.getD 1 0) 0 0 0 0 0 0 0 0 0 0 nS nS nS nS 0 0 0 0 0 nS) fun ag a1 a2=>am 1<|rt<|c9 a1 (vI 0)<|?_
 exact cZ (y:=((b6.mk (((b.getD 0 0)-128)%256) (b.getD 1 0) 0 0 0 0 0 0 0 0 0 0 [] [] [] [] 0 0 0 0 0 []),0)) (by unfold gf;(try simp only[a,c,d,i,h,j,o,l,bp,Bool.not_eq_true,reduceIte])<;>rfl) ⟨_,rfl,⟨_,_,_,_,_,rfl,aG.nil ..,aG.nil ..,(fun _ _ _=>aG.nil ..),aG.nil ..,aG.nil ..,(bR (by omega))⟩,(ud r a2 e)⟩
theorem nk(h:aV m w v b)(hb:b.length≤1048576) : Calls Tryz.prog 108 #[v] w (cA v b (fw b) w):=by
  obtain⟨A,cp,rfl,_,_⟩:=h.shape
  rw[← qQ]
  exact lM h hb
open Go.RowKit
theorem fa{x y:b6 × Int}(h:x=y)  {e:Ending}    (k:cA v0 b y w e w') : cA v0 b x w e w':=by rw[h];exact k
theorem kP(hc:B8 c)(h:aV m w v b)(hb:b.length≤1048576) :
    Calls Tryz.prog 109 #[.int .i64 dir,.int .u8 c,v] w (cA v b (aj aN dir c b) w):=by
  obtain⟨A,cp,rfl,_,_⟩:=h.shape
  by_cases h0:dir=0
  · subst h0;exact iO hc h hb
  by_cases h1:dir=1
  · subst h1;exact iQ hc h hb
  exact jg hc h hb (by omega)
theorem m9(hc:B8 c)(h:aV m w v b)(hb:b.length≤1048576) :
    Calls Tryz.prog 110 #[.int .i64 dir,.int .u8 c,v] w (cA v b (aj aY dir c b) w):=by
  obtain⟨A,cp,rfl,_,_⟩:=h.shape
  by_cases h0:dir=0
  · subst h0;exact jz hc h hb
  by_cases h1:dir=1
  · subst h1;exact jA hc h hb
  exact jy hc h hb (by omega)
theorem lI(hc:B8 c)(h:aV m w v b)(hb:b.length≤1048576) :
    Calls Tryz.prog 111 #[.int .i64 dir,.int .u8 c,v] w (cA v b (aj bh dir c b) w):=by
  obtain⟨A,cp,rfl,_,_⟩:=h.shape
  rw[← kC]
  by_cases h0:dir=0
  · subst h0;exact jv hc h hb
  by_cases h1:dir=1
  · subst h1;exact jL hc h hb
  exact jt hc h hb (by omega)
theorem ln(hsl:aV m w (.slice A b.length cp) b)(hb:b.length≤1048576) :
    Calls Tryz.prog 78 #[vI dir,.slice A b.length cp] w (cA (.slice A b.length cp) b (ep dir b) w):=by
 have hln:(b.length:Int)≤1048576:=by omega
 refine en 87 Tryz.func78 rfl<|sg<|aJ mZ fun bJ bK u d i=>am 1<|sq<|al 3<|dc 3 [11] 14 11 (dir != 0) (dir != 1) (fun K aI aK=>?_) ?_
 have bL:=ay aK
 exact Pl 3<|ce aI _ rfl
 refine nt<|cb (((dir != 0)&&(dir != 1))) (fun f=>?_) (fun f=>?_)
 have aL:=(aW f).1
 have aM:=(aW f).2
 refine al 1<|aB d mZ fun bM aO aP=>am 1<|bq<|c9 aO (vI 1)<|?_
 have hs:eU dir b=(b6.zero,1):=by
   unfold eU
   (try simp only[f,aL,aM,bp,eg,reduceIte])
   all_goals rfl
 rw[← el]
 refine fa hs ?_
 exact bi (ud i aP u)
 refine bu<|sq<|az 3<|cb (((b.length:Int)==0)) (fun g=>?_) (fun g=>?_)
 have aS:=ap g
 refine al 1<|aB d mZ fun bN aT aU=>am 1<|bq<|c9 aT (vI 2)<|?_
 have hs:eU dir b=(b6.zero,2):=by
   unfold eU
   (try simp only[f,g,bp,eg,reduceIte])
   all_goals rfl
 rw[← el]
 refine fa hs ?_
 exact bi (ud i aU u)
 have aS:=au g
 refine bu<|sq<|az 3<|cb ((decide (253<(b.length:Int)))) (fun j=>?_) (fun j=>?_)
 have aZ:=of_decide_eq_true j
 refine al 1<|aB d mZ fun bO b0 b1=>am 1<|bq<|c9 b0 (vI 3)<|?_
 have hs:eU dir b=(b6.zero,3):=by
   unfold eU
   (try simp only[f,g,j,bp,eg,reduceIte])
   all_goals rfl
 rw[← el]
 refine fa hs ?_
 exact bi (ud i b1 u)
 have aZ:=of_decide_eq_false j
 refine bu<|al 1<|?_
 have D:=aV.old hsl i
 refine eH (aV.at_ D 0 (by omega)) fun b2 b3 b4 b5 bP=>L0<|ia b.length 0 b4 (by omega)<|L0<|er (p:=⟨b2,b3+0,none⟩) (v:=vB (b.getD 0 0)) b5<|am 1<|sq<|al 3<|dc 3 [29] 32 29 (decide (128≤(b.getD 0 0))) (dir==1) (fun K b7 ba=>?_) ?_
 have bQ:=of_decide_eq_true ba
 exact Pl 3<|ce b7 _ rfl
 refine nt<|cb (((decide (128≤(b.getD 0 0)))&&(dir==1))) (fun x=>?_) (fun x=>?_)
 have bb:=(aW x).1
 have bc:=(aW x).2
 refine al 1<|aq<|e2 (nk D (by omega)) fun bd bR E L=>?_
 refine Pl 2<|?_
 have S:=ub L d
 refine aB (hz:=(by rw[E.size];exact aX)) (hv:=E.size) (h1:=(bA.one E (aV.old D L))) S (bd) fun bS be T=>am 1<|bq<|dW 22 E.size be (vI (((fw b)).2))<|?_
 have hs:eU dir b=(fw b):=by
   unfold eU
   (try simp only[f,g,j,x,bb,bc,bp,eg,reduceIte])
   all_goals rfl
 rw[← el]
 refine fa hs ?_
 exact⟨_,rfl,(bA.upd E T (ah (aR S (by decide)) aE)),(ud i (uz L T) u)⟩
 refine bu<|al 3<|l2 (cT (P:=Tryz.prog) 27 5 1 Tryz.underlying27 rfl rfl A b.length cp 1 (by omega)) fun bf hrun54 U=>L0<|jU (.slice bf (b.length-1) (cp-1)) (cH (kl:=.i64) (k:=((1:Nat) : Int)) (A:=A) (n:=b.length) (c:=cp) rfl Tryz.underlying27 (by kernel_rfl) (by kernel_rfl) (hrun54 _ _))<|aq<|e2 (kP (dir:=dir) (c:=(b.getD 0 0)) (b8 (by omega)) (U _ _ _ _ _ D) (by(try simp only[List.length_drop]);omega)) fun V bT bg e=>?_
 have G:=aV.old D e
 have l:=bA.sub bg (fun m' w' q=>(U _ _ _ _ _ q))
 refine Pl 3<|aJ mZ fun bU bV a bj bk=>aB (hz:=(by rw[l.size];exact aX)) (hv:=l.size) (h1:=(bA.one l hsl)) bj (V) fun bW W bl=>am 1<|sq<|az 2<|?_
 have H:=ud bk bl a
 have o:=aQ e H
 have X:=aQ i o
 refine cb (((((aj aN dir (b.getD 0 0) (b.drop 1))).2)==4)) (fun h=>?_) (fun h=>?_)
 have bm:=ap h
 refine go<|Pl 3<|l2 (cT (P:=Tryz.prog) 27 5 1 Tryz.underlying27 rfl rfl A b.length cp 1 (by omega)) fun bn hrun75 Y=>L0<|jU (.slice bn (b.length-1) (cp-1)) (cH (kl:=.i64) (k:=((1:Nat) : Int)) (A:=A) (n:=b.length) (c:=cp) rfl Tryz.underlying27 (by kernel_rfl) (by kernel_rfl) (hrun75 _ _))<|?_
 refine aq<|e2 (m9 (dir:=dir) (c:=(b.getD 0 0)) (b8 (by omega)) (Y _ _ _ _ _ (aV.old G H)) (by(try simp only[List.length_drop]);omega)) fun Z bX bo M=>?_
 have r:=bA.sub bo (fun m' w' q=>(Y _ _ _ _ _ q))
 refine Pl 3<|?_
 have a0:=ub M W
 refine aB (hz:=(by rw[r.size];exact aX)) (hv:=(Eq.trans r.size (Eq.symm l.size))) (h1:=(bA.one r hsl)) a0 (Z) fun bZ a1 a2=>am 1<|sq<|az 2<|?_
 have C:=uz M a2
 have a3:=ud X C (le (le i.size e.size) a)
 refine cb (((((aj aY dir (b.getD 0 0) (b.drop 1))).2)==4)) (fun y=>?_) (fun y=>?_)
 have br:=ap y
 refine go<|Pl 3<|l2 (cT (P:=Tryz.prog) 27 5 1 Tryz.underlying27 rfl rfl A b.length cp 1 (by omega)) fun bs hrun92 a4=>L0<|jU (.slice bs (b.length-1) (cp-1)) (cH (kl:=.i64) (k:=((1:Nat) : Int)) (A:=A) (n:=b.length) (c:=cp) rfl Tryz.underlying27 (by kernel_rfl) (by kernel_rfl) (hrun92 _ _))<|?_
 have a5:=ud H C a
 refine aq<|e2 (lI (dir:=dir) (c:=(b.getD 0 0)) (b8 (by omega)) (a4 _ _ _ _ _ (aV.old G a5)) (by(try simp only[List.length_drop]);omega)) fun a6 c0 bt N=>?_
 have s:=bA.sub bt (fun m' w' q=>(a4 _ _ _ _ _ q))
 refine Pl 3<|?_
 have a7:=ub N a1
 refine aB (hz:=(by rw[s.size];exact aX)) (hv:=(Eq.trans s.size (Eq.symm r.size))) (h1:=(bA.one s hsl)) a7 (a6) fun c1 a8 a9=>am 1<|sq<|az 2<|?_
 have I:=uz N a9
 have aa:=ud a3 I (le (le i.size e.size) a)
 refine cb (((((aj bh dir (b.getD 0 0) (b.drop 1))).2)==4)) (fun B=>?_) (fun B=>?_)
 have bv:=ap B
 refine go<|Pl 3<|l2 (cT (P:=Tryz.prog) 27 5 1 Tryz.underlying27 rfl rfl A b.length cp 1 (by omega)) fun bw hrun110 ab=>L0<|jU (.slice bw (b.length-1) (cp-1)) (cH (kl:=.i64) (k:=((1:Nat) : Int)) (A:=A) (n:=b.length) (c:=cp) rfl Tryz.underlying27 (by kernel_rfl) (by kernel_rfl) (hrun110 _ _))<|?_
 have O:=u1 C I im
 have ad:=ud a5 I a
 refine aq<|e2 (l4 (dir:=dir) (c:=(b.getD 0 0)) (b8 (by omega)) (ab _ _ _ _ _ (aV.old G ad)) (by(try simp only[List.length_drop]);omega)) fun ae c2 bx Q=>?_
 have t:=bA.sub bx (fun m' w' q=>(ab _ _ _ _ _ q))
 refine Pl 3<|?_
 have af:=ub Q a8
 refine aB (hz:=(by rw[t.size];exact aX)) (hv:=(Eq.trans t.size (Eq.symm s.size))) (h1:=(bA.one t hsl)) af (ae) fun c3 ag ai=>am 1<|sq<|az 2<|?_
 have J:=uz Q ai
 have ak:=ud aa J (le (le i.size e.size) a)
 refine cb (((((aj b9 dir (b.getD 0 0) (b.drop 1))).2)==4)) (fun F=>?_) (fun F=>?_)
 have bz:=ap F
 refine go<|Pl 3<|l2 (cT (P:=Tryz.prog) 27 5 1 Tryz.underlying27 rfl rfl A b.length cp 1 (by omega)) fun bB hrun130 an=>L0<|jU (.slice bB (b.length-1) (cp-1)) (cH (kl:=.i64) (k:=((1:Nat) : Int)) (A:=A) (n:=b.length) (c:=cp) rfl Tryz.underlying27 (by kernel_rfl) (by kernel_rfl) (hrun130 _ _))<|?_
 have ao:=u1 O J im
 refine aq<|e2 (mF (dir:=dir) (c:=(b.getD 0 0)) (b8 (by omega)) (an _ _ _ _ _ (aV.old G (ud ad J a))) (by(try simp only[List.length_drop]);omega)) fun ar c4 bC R=>?_
 have z:=bA.sub bC (fun m' w' q=>(an _ _ _ _ _ q))
 refine Pl 3<|?_
 have av:=ub R ag
 refine aB (hz:=(by rw[z.size];exact aX)) (hv:=(Eq.trans z.size (Eq.symm t.size))) (h1:=(bA.one z hsl)) av (ar) fun c5 bD aw=>Pl 1<|ng<|L0<|cM (hz:=(by rw[z.size];exact aX)) bD<|Pl 1<|?_
 have ax:=uz R aw
 refine aB (hz:=(by rw[z.size];exact aX)) (hv:=z.size) (h1:=(bA.one z hsl)) (ub (ud o (u1 ao ax im) (le e.size a)) d) (ar) fun c6 bE aC=>am 1<|rt<|dW 22 z.size bE (vI (((aj bY dir (b.getD 0 0) (b.drop 1))).2))<|?_
 have hs:eU dir b=(aj bY dir (b.getD 0 0) (b.drop 1)):=by
   unfold eU
   (try simp only[f,g,j,x,h,y,B,F,bp,eg,reduceIte])
   all_goals rfl
 rw[← el]
 refine fa hs ?_
 exact⟨_,rfl,(bA.upd z (us aw aC) (ah (aR av (by decide)) (ah (aR (ub (ud o (aQ ao R) (le e.size a)) d) (by decide)) aE))),(ut ak (us ax aC) (ac (ni (le i.size e.size) a) (ac (nr u) aA)))⟩
 have bz:=au F
 refine bu<|sg<|L0<|cM (hz:=(by rw[t.size];exact aX)) ag<|Pl 1<|?_
 refine aB (hz:=(by rw[t.size];exact aX)) (hv:=t.size) (h1:=(bA.one t hsl)) (ub (ud o (u1 O J im) (le e.size a)) d) (ae) fun c7 bF aD=>am 1<|rt<|dW 22 t.size bF (vI (((aj b9 dir (b.getD 0 0) (b.drop 1))).2))<|?_
 have hs:eU dir b=(aj b9 dir (b.getD 0 0) (b.drop 1)):=by
   unfold eU
   (try simp only[f,g,j,x,h,y,B,F,bp,eg,reduceIte])
   all_goals rfl
 rw[← el]
 refine fa hs ?_
 exact⟨_,rfl,(bA.upd t (us ai aD) (ah (aR af (by decide)) (ah (aR (ub (ud o (aQ O Q) (le e.size a)) d) (by decide)) aE))),(ud ak aD u)⟩
 have bv:=au B
 refine bu<|sq<|az 2<|cf B<|bu<|sg<|L0<|cM (hz:=(by rw[s.size];exact aX)) a8<|Pl 1<|?_
 refine aB (hz:=(by rw[s.size];exact aX)) (hv:=s.size) (h1:=(bA.one s hsl)) (ub (ud o (u1 C I im) (le e.size a)) d) (a6) fun c8 bG aF=>am 1<|rt<|dW 22 s.size bG (vI (((aj bh dir (b.getD 0 0) (b.drop 1))).2))<|?_
 have hs:eU dir b=(aj bh dir (b.getD 0 0) (b.drop 1)):=by
   unfold eU
   (try simp only[f,g,j,x,h,y,B,bp,eg,reduceIte])
   all_goals rfl
 rw[← el]
 refine fa hs ?_
 exact⟨_,rfl,(bA.upd s (us a9 aF) (ah (aR a7 (by decide)) (ah (aR (ub (ud o (aQ C N) (le e.size a)) d) (by decide)) aE))),(ud aa aF u)⟩
 have br:=au y
 refine bu<|sq<|az 2<|cf y<|bu<|sq<|az 2<|cf y<|bu<|sg<|L0<|cM (hz:=(by rw[r.size];exact aX)) a1<|Pl 1<|?_
 refine aB (hz:=(by rw[r.size];exact aX)) (hv:=r.size) (h1:=(bA.one r hsl)) (ub (ud o C (le e.size a)) d) (Z) fun ca bH aG=>am 1<|rt<|dW 22 r.size bH (vI (((aj aY dir (b.getD 0 0) (b.drop 1))).2))<|?_
 have hs:eU dir b=(aj aY dir (b.getD 0 0) (b.drop 1)):=by
   unfold eU
   (try simp only[f,g,j,x,h,y,bp,eg,reduceIte])
   all_goals rfl
 rw[← el]
 refine fa hs ?_
 exact⟨_,rfl,(bA.upd r (us a2 aG) (ah (aR a0 (by decide)) (ah (aR (ub (aQ o M) d) (by decide)) aE))),(ud a3 aG u)⟩
 have bm:=au h
 refine bu<|sq<|az 2<|cf h<|bu<|sq<|az 2<|cf h<|bu<|sq<|az 2<|cf h<|sk<|tn<|sg<|L0<|cM (hz:=(by rw[l.size];exact aX)) W<|Pl 1<|?_
 refine aB (hz:=(by rw[l.size];exact aX)) (hv:=l.size) (h1:=(bA.one l hsl)) (ub o d) (V) fun cc bI aH=>am 1<|rt<|dW 22 l.size bI (vI (((aj aN dir (b.getD 0 0) (b.drop 1))).2))<|?_
 have hs:eU dir b=(aj aN dir (b.getD 0 0) (b.drop 1)):=by
   unfold eU
   (try simp only[f,g,j,x,h,bp,eg,reduceIte])
   all_goals rfl
 rw[← el]
 refine fa hs ?_
 exact⟨_,rfl,(bA.upd l (uz H aH) (ah (aR (ub e d) (by decide)) aE)),(ud X aH u)⟩
theorem mY(h:aV m w v b)(hb:b.length≤1048576) : Calls Tryz.prog 78 #[.int .i64 dir,v] w (cA v b (ep dir b) w):=by
  obtain⟨A,cp,rfl,_,_⟩:=h.shape
  exact ln h hb
open Go.RowKit
def mj (v0:Value)(b:List Int)(res:dx × Int)(w:World)(e:Ending)(w':World) : Prop:=∃ x,e = .returned (.tuple #[.agg (qv res.1.unit res.1.tid res.1.msg x),.int .i64 res.2])∧(bA v0 b w' (ml res.1.msg x).toList res.1.msg∧(0≤res.1.unit∧res.1.unit<256)∧(0≤res.1.tid∧res.1.tid<65536))∧aC [] w w'
theorem fG{x y:dx × Int}(h:x=y)  {e:Ending}    (k:mj v0 b y w e w') : mj v0 b x w e w':=by rw[h];exact k
def wd:SL:=⟨none,0,none,0,none,0,none,0,none,0⟩
theorem eE(hu:aC [] w W) : mj v0 b (dx.zero,x) w (.returned (.tuple #[.agg uH,.int .i64 x])) W:=⟨wd,(by kernel_rfl),⟨bA.zero v0 b W,(show(0:Int)≤0∧(0:Int)<256 from by decide),(show(0:Int)≤0∧(0:Int)<65536 from by decide)⟩,hu⟩
theorem kS{E:Int}(hX:ep dir b=(M,E))(h:aV m w v b)(hb:b.length≤1048576) : Calls Tryz.prog 78 #[.int .i64 dir,v] w (fun e w'=>∃ x,e = .returned (.tuple #[.agg (ml M x),.int .i64 E])∧bA v b w' (ml M x).toList M∧aC [] w w'):=by
  refine(mY h hb).mono ?_
  rintro e w' ⟨cs,rfl,h1,h2⟩
  rw[hX] at h1 ⊢
  obtain⟨x,rfl⟩:=qZ (h1.rd (aV.old h h2))
  exact⟨x,rfl,h1,h2⟩
end Go.Proofs.YtdkhbcefkfgbdaaGreat
namespace Go.Proofs.YtdkhbcefkfgbdaaGreat
open Go.RowKit
abbrev vm (xs:List Int) : Prop:=∀ x,x∈xs→0≤x∧x<256
def rQ (base:Nat)(w:World)(v:Value)(xs:List Int) : Prop:=∃ g cap cur n,v = .slice (some ⟨g,0,none⟩) xs.length cap∧base≤g∧w.heap[g]? = some (.cells cur 5 (n,n+1))∧xs.length≤n∧xs.length≤cap∧cap≤maxLen∧cur.toList.take xs.length=xs.map (Value.int .u8)∧vm xs
variable {base:Nat}{v:Value}{w:World}
theorem rQ.rd{xs:List Int}(h:rQ base w v xs) : aV true w v xs:=by
  obtain⟨g,cap,cur,n,rfl,hb,hh,h1,h2,h3,h4,h5⟩:=h
  refine⟨_,_,rfl,h2,h3,(fun hA=>by cases hA),fun hp=>⟨g,0,cur,_,_,rfl,hh,(fun _=>⟨rfl,Nat.zero_le _⟩),fun j x hj=>?_⟩⟩
  refine⟨[.int .u8 x],rfl,⟨rfl,h5 x (List.mem_of_getElem? hj)⟩,fun i u hi=>?_⟩
  cases i with
  | succ i=>simp at hi
  | zero =>
    have hi:Value.int .u8 x=u:=by simpa using hi
    subst hi
    have h6:(xs.map (Value.int .u8))[j]? = some (.int .u8 x):=by rw[List.getElem?_map,hj];rfl
    rw[← h4,List.getElem?_take] at h6
    split at h6
    · simpa using h6
    · cases h6
theorem rQ.shape{xs:List Int}(h:rQ base w v xs) : ∃ g cp,v = .slice (some ⟨g,0,none⟩) xs.length cp:=by
  obtain⟨g,cap,cur,n,hv,_⟩:=h
  exact⟨g,cap,hv⟩
section
variable {P:Program}{n:Nat}{D:List Deferred}{F:Fr}{w:World}{K:Fr→World→Prop}{Q:Exit→Act→World→Prop}{d:Option Tmp}{t:TypeId}{s:String}{af:Array Edge}{gu:Option (Nat × Bool)}
end
end Go.Proofs.YtdkhbcefkfgbdaaGreat
namespace Go.Proofs.YtdkhbcefkfgbdaaGreat
open Go.RowKit
section
variable {P:Program}{n:Nat}{D:List Deferred}{F:Fr}{w:World}{K:Fr→World→Prop}{Q:Exit→Act→World→Prop}{d:Option Tmp}{t:TypeId}{s:String}{af:Array Edge}{gu:Option (Nat × Bool)}
end
open Go.RowKit
open Go.RowKit
def vQ (B b:Nat)(L:List Int)(w:World) : Prop:=∃ p A cp,w.heap[b]? = some (.cells #[p,.slice A L.length cp] 251 (0,0))∧(p = .pointer none∨p = .pointer (some ⟨b,0,none⟩))∧fq B w (.slice A L.length cp) L
theorem vQ.new{B b:Nat}{w:World}(hb:w.heap[b]? = some (.cells #[.pointer none,.slice none 0 0] 251 (0,0))) : vQ B b [] w:=⟨_,_,_,hb,.inl rfl,aT.nil ..⟩
open Go.RowKit
open Go.RowKit
open Go.RowKit
open Go.RowKit
open Go.RowKit
theorem fY(a c:Int)(t:List Int) : (ag.mk (a :: c :: t) false 0).wordV=a*256+c∧(ag.mk (a :: c :: t) false 0).wordsC 1=⟨t,false,0⟩:=by
  have hb:¬ (ag.mk (a :: c :: t) false 0).wbad 1=true:=by
    unfold ag.wbad
    simp only[Bool.or_eq_true,decide_eq_true_eq,List.length_cons,not_or]
    omega
  have hf:¬ (ag.mk (a :: c :: t) false 0).fails (2*1)=true:=by
    unfold ag.fails
    simp only[Bool.or_eq_true,decide_eq_true_eq,List.length_cons,not_or]
    exact⟨⟨by decide,by decide⟩,by omega⟩
  constructor
  · unfold ag.wordV ag.wordsR ag.bytesR
    rw[if_neg hb,if_neg hf]
    show(bO [a,c]).getD 0 0=_
    unfold bO
    rw[if_pos (by simp)]
    rfl
  · unfold ag.wordsC ag.bytesC
    rw[if_neg hb,if_neg hf]
    rfl
theorem nP(a:Int)(t:List Int) : (ag.mk (a :: t) false 0).byteV=a∧(ag.mk (a :: t) false 0).bytesC 1=⟨t,false,0⟩:=q6 (b:=a :: t) (by simp)
theorem oW(t:List Int) : (ag.mk t false 0).bytesR ((t.length:Nat) : Int)=t:=by
  have hf:¬ (ag.mk t false 0).fails ((t.length:Nat) : Int)=true:=by
    unfold ag.fails
    simp only[Bool.or_eq_true,decide_eq_true_eq,not_or]
    exact⟨⟨by decide,by omega⟩,by omega⟩
  unfold ag.bytesR
  rw[if_neg hf]
  simp
def dH (dir:Int)(b:List Int) : dx × Int :=
  if dir != 0&&dir != 1 then (dx.zero,1)
  else if decide ((b.length:Int)<8) then (dx.zero,2)
  else if decide (260<(b.length:Int)) then (dx.zero,3)
  else if (b.getD 2 0 != 0)||(b.getD 3 0 != 0) then (dx.zero,13)
  else if ((256*b.getD 4 0)+b.getD 5 0)!=(b.length:Int)-6 then (dx.zero,5)
  else dI (b.getD 6 0) ((((256*b.getD 0 0)%65536)+b.getD 1 0)%65536) (ep dir (b.drop 7))
theorem e8{dir:Int}{b:List Int}(hr:∀ x,x∈b→0≤x∧x<256) : dH dir b=bZ dir b:=by
  unfold dH bZ
  split
  · rfl
  split
  · rfl
  rename_i hl
  split
  · rfl
  obtain⟨a0,a1,a2,a3,a4,a5,a6,t,rfl⟩ : ∃ a0 a1 a2 a3 a4 a5 a6 t,b=a0 :: a1 :: a2 :: a3 :: a4 :: a5 :: a6 :: t:=by
    rcases b with _|⟨a0,_|⟨a1,_|⟨a2,_|⟨a3,_|⟨a4,_|⟨a5,_|⟨a6,t⟩⟩⟩⟩⟩⟩⟩
    case cons.cons.cons.cons.cons.cons.cons=>exact⟨_,_,_,_,_,_,_,_,rfl⟩
    all_goals simp at hl
  have h0:=hr a0 (by simp)
  have h1:=hr a1 (by simp)
  have h2:=hr a2 (by simp)
  have h3:=hr a3 (by simp)
  have h4:=hr a4 (by simp)
  have h5:=hr a5 (by simp)
  have e1:rq (a0 :: a1 :: a2 :: a3 :: a4 :: a5 :: a6 :: t)=⟨a2 :: a3 :: a4 :: a5 :: a6 :: t,false,0⟩:=(fY _ _ _).2
  have e2:pJ (a0 :: a1 :: a2 :: a3 :: a4 :: a5 :: a6 :: t)=⟨a4 :: a5 :: a6 :: t,false,0⟩:=by unfold pJ;rw[e1];exact(fY _ _ _).2
  have e3:qs (a0 :: a1 :: a2 :: a3 :: a4 :: a5 :: a6 :: t)=⟨a6 :: t,false,0⟩:=by unfold qs;rw[e2];exact(fY _ _ _).2
  have e4:qp (a0 :: a1 :: a2 :: a3 :: a4 :: a5 :: a6 :: t)=⟨t,false,0⟩:=by unfold qp;rw[e3];exact(nP _ _).2
  have v0:(rp (a0 :: a1 :: a2 :: a3 :: a4 :: a5 :: a6 :: t)).wordV=a0*256+a1:=(fY _ _ _).1
  unfold l3
  rw[e1,e2,e3,e4,v0,(fY _ _ _).1,(fY _ _ _).1,(nP _ _).1,oW]
  show(if (a2 != 0)||(a3 != 0) then _ else if ((256*a4)+a5)!=_ then _ else dI a6 ((((256*a0)%65536)+a1)%65536) (ep dir t))=_
  rw[show((a2 != 0)||(a3 != 0))=(a2*256+a3 != 0) from by rw[Bool.eq_iff_iff];simp only[Bool.or_eq_true,bne_iff_ne,ne_eq];omega,show(256*a4)+a5=a4*256+a5 from by omega,show(((256*a0)%65536)+a1)%65536=a0*256+a1 from by omega]
open Go.RowKit
theorem kK{m:Md}{A:Option Addr}{cp:Nat}{b:List Int}{w:World}{dir:Int}(hsl:aV m w (.slice A b.length cp) b)(hb:b.length≤1048576)(hcp:b.length≤cp) :
    Calls Tryz.prog 53 #[vI dir,.slice A b.length cp] w (mj (.slice A b.length cp) b (bZ dir b) w):=by
 have hln:(b.length:Int)≤1048576:=by omega
 have hrb:=aV.range hsl
 refine en 76 Tryz.func53 rfl<|sg<|aJ #[vB 0,vW 0,vB 0,vB 0,vW 0,vW 0,vW 0,vW 0,vW 0,vW 0,vW 0,vW 0,vW 0,vW 0,nS,nS,nS,nS,vB 0,vB 0,vB 0,vB 0,vB 0,nS] fun bi bj o h s=>Pl 1<|cJ 3<|sq<|sq<|go<|Pl 3<|dc 3 [13] 16 13 (dir != 0) (dir != 1) (fun K a0 a1=>?_) ?_
 have bk:=ay a1
 exact Pl 3<|ce a0 _ rfl
 refine nt<|cb (((dir != 0)&&(dir != 1))) (fun f=>?_) (fun f=>?_)
 have I:=(aW f).1
 have J:=(aW f).2
 have bm:=ay I
 have bn:=ay J
 refine al 1<|aB h #[vB 0,vW 0,vB 0,vB 0,vW 0,vW 0,vW 0,vW 0,vW 0,vW 0,vW 0,vW 0,vW 0,vW 0,nS,nS,nS,nS,vB 0,vB 0,vB 0,vB 0,vB 0,nS] fun bo a2 a3=>am 1<|bq<|c9 a2 (vI 1)<|?_
 have hs:dH dir b=(dx.zero,1):=by
   unfold dH
   (try simp only[f,I,J,bp,dI,reduceIte])
   all_goals rfl
 rw[← e8 hrb]
 refine fG hs ?_
 exact eE (ud s a3 o)
 refine bu<|sq<|az 2<|cb ((decide ((b.length:Int)<8))) (fun i=>?_) (fun i=>?_)
 have a4:=of_decide_eq_true i
 refine al 1<|aB h #[vB 0,vW 0,vB 0,vB 0,vW 0,vW 0,vW 0,vW 0,vW 0,vW 0,vW 0,vW 0,vW 0,vW 0,nS,nS,nS,nS,vB 0,vB 0,vB 0,vB 0,vB 0,nS] fun br a5 a6=>am 1<|bq<|c9 a5 (vI 2)<|?_
 have hs:dH dir b=(dx.zero,2):=by
   unfold dH
   (try simp only[f,i,bp,dI,reduceIte])
   all_goals rfl
 rw[← e8 hrb]
 refine fG hs ?_
 exact eE (ud s a6 o)
 have a4:=of_decide_eq_false i
 refine bu<|sq<|az 2<|cb ((decide (260<(b.length:Int)))) (fun j=>?_) (fun j=>?_)
 have a7:=of_decide_eq_true j
 refine al 1<|aB h #[vB 0,vW 0,vB 0,vB 0,vW 0,vW 0,vW 0,vW 0,vW 0,vW 0,vW 0,vW 0,vW 0,vW 0,nS,nS,nS,nS,vB 0,vB 0,vB 0,vB 0,vB 0,nS] fun bs a8 a9=>am 1<|bq<|c9 a8 (vI 3)<|?_
 have hs:dH dir b=(dx.zero,3):=by
   unfold dH
   (try simp only[f,i,j,bp,dI,reduceIte])
   all_goals rfl
 rw[← e8 hrb]
 refine fG hs ?_
 exact eE (ud s a9 o)
 have a7:=of_decide_eq_false j
 refine bu<|sq<|al 1<|?_
 have z:=aV.old hsl s
 refine eH (aV.at_ z 2 (by omega)) fun aa ac ae af bt=>L0<|ia b.length 2 ae (by omega)<|L0<|er (p:=⟨aa,ac+2,none⟩) (v:=vB (b.getD 2 0)) af<|Pl 2<|bl 28 (((b.getD 2 0)!=0)) (fun r=>?_) (fun r=>?_)
 have ag:=ay r
 refine am 5<|c1<|al 1<|aB h #[vB 0,vW 0,vB 0,vB 0,vW 0,vW 0,vW 0,vW 0,vW 0,vW 0,vW 0,vW 0,vW 0,vW 0,nS,nS,nS,nS,vB 0,vB 0,vB 0,vB 0,vB 0,nS] fun bw aj ak=>am 1<|bq<|c9 aj (vI 13)<|?_
 have hs:dH dir b=(dx.zero,13):=by
   unfold dH
   (try simp only[f,i,j,r,bp,dI,reduceIte])
   all_goals rfl
 rw[← e8 hrb]
 refine fG hs ?_
 exact eE (ud s ak o)
 have ag:=aI r
 refine Pl 1<|eH (aV.at_ z 3 (by omega)) fun an ap au av bx=>L1<|ia b.length 3 au (by omega)<|L1<|er (p:=⟨an,ap+3,none⟩) (v:=vB (b.getD 3 0)) av<|am 2<|cb (((b.getD 3 0)!=0)) (fun t=>?_) (fun t=>?_)
 have ax:=ay t
 refine al 1<|aB h #[vB 0,vW 0,vB 0,vB 0,vW 0,vW 0,vW 0,vW 0,vW 0,vW 0,vW 0,vW 0,vW 0,vW 0,nS,nS,nS,nS,vB 0,vB 0,vB 0,vB 0,vB 0,nS] fun bB aA aC=>am 1<|bq<|c9 aA (vI 13)<|?_
 have hs:dH dir b=(dx.zero,13):=by
   unfold dH
   (try simp only[f,i,j,r,t,bp,dI,reduceIte])
   all_goals rfl
 rw[← e8 hrb]
 refine fG hs ?_
 exact eE (ud s aC o)
 have ax:=aI t
 refine bu<|sq<|sq<|eH (aV.at_ z 4 (by omega)) fun aD aF aG aH bC=>eH (aV.at_ z 5 (by omega)) fun aK aL aM aN bD=>Rg 13 (fun w'=>w'.cell? ⟨aD,aF+4,none⟩=some (vB (b.getD 4 0))∧w'.cell? ⟨aK,aL+5,none⟩=some (vB (b.getD 5 0))) fun bE l=>bz ⟨(uc l aH),(uc l aN)⟩ fun e=>Rt 0 e<|jm 1 e b.length 4 4 rfl aG (by omega)<|Rl 2 e (fun _ hs=>hs.1)<|Rr 3 e (vI (b.getD 4 0)) (fun _ _=>bv (vI (IntKind.i64.wrap (b.getD 4 0))) (by kernel_rfl) (congrArg (Value.int .i64) (i64_in (by omega))))<|Rr 4 e (vI (256*(b.getD 4 0))) (fun _ _=>bv (vI (IntKind.i64.wrap (256*(b.getD 4 0)))) (by kernel_rfl) (congrArg (Value.int .i64) (IntWalk.i64_in _ (by omega))))<|Rt 5 e<|jm 6 e b.length 5 5 rfl aM (by omega)<|Rl 7 e (fun _ hs=>hs.2)<|Rr 8 e (vI (b.getD 5 0)) (fun _ _=>bv (vI (IntKind.i64.wrap (b.getD 5 0))) (by kernel_rfl) (congrArg (Value.int .i64) (i64_in (by omega))))<|Rr 9 e (vI ((256*(b.getD 4 0))+(b.getD 5 0))) (fun _ _=>bv (vI (IntKind.i64.wrap ((256*(b.getD 4 0))+(b.getD 5 0)))) (by kernel_rfl) (congrArg (Value.int .i64) (IntWalk.i64_in _ (by omega))))<|Rt 10 e<|Rr 11 e (vI ((b.length:Int)-6)) (fun _ _=>bv (vI (IntKind.i64.wrap ((b.length:Int)-6))) (by kernel_rfl) (congrArg (Value.int .i64) (IntWalk.i64_in _ (by omega))))<|Rt 12 e<|re<|tn<|?_
 have L:=aQ s l
 refine cb ((((256*(b.getD 4 0))+(b.getD 5 0))!=((b.length:Int)-6))) (fun u=>?_) (fun u=>?_)
 have aO:=ay u
 refine al 1<|?_
 refine aB (ub l h) #[vB 0,vW 0,vB 0,vB 0,vW 0,vW 0,vW 0,vW 0,vW 0,vW 0,vW 0,vW 0,vW 0,vW 0,nS,nS,nS,nS,vB 0,vB 0,vB 0,vB 0,vB 0,nS] fun bF aP aT=>am 1<|bq<|c9 aP (vI 5)<|?_
 have hs:dH dir b=(dx.zero,5):=by
   unfold dH
   (try simp only[f,i,j,r,t,u,bp,dI,reduceIte])
   all_goals rfl
 rw[← e8 hrb]
 refine fG hs ?_
 exact eE (ud L aT o)
 have aO:=aI u
 refine bu<|al 2<|l2 (cT (P:=Tryz.prog) 27 5 1 Tryz.underlying27 rfl rfl A b.length cp 7 (by omega)) fun aU hrun84 M=>L0<|jU (.slice aU (b.length-7) (cp-7)) (cH (kl:=.i64) (k:=((7:Nat) : Int)) (A:=A) (n:=b.length) (c:=cp) rfl Tryz.underlying27 (by kernel_rfl) (by kernel_rfl) (hrun84 _ _))<|?_
 have N:=aV.old z l
 refine pr (ep dir (b.drop 7)) fun a D E=>?_
 refine aq<|e2 (kS E (M _ _ _ _ _ N) (by rw[List.length_drop];omega)) fun x90 bG aX F=>?_
 have aY:=bA.sub aX (fun m' w' q=>(M _ _ _ _ _ q))
 refine Pl 3<|aJ mZ fun O bH Q aZ b0=>aB aZ (ml a x90) fun bI b1 b2=>am 1<|sq<|az 2<|?_
 have R:=ud b0 b2 Q
 have C:=aQ F R
 have S:=aQ L C
 refine cb ((D != 0)) (fun B=>?_) (fun B=>?_)
 have b3:=ay B
 refine al 2<|?_
 refine aB (ub (aQ l C) h) #[vB 0,vW 0,vB 0,vB 0,vW 0,vW 0,vW 0,vW 0,vW 0,vW 0,vW 0,vW 0,vW 0,vW 0,nS,nS,nS,nS,vB 0,vB 0,vB 0,vB 0,vB 0,nS] fun bJ b4 b5=>am 1<|bq<|c9 b4 (vI D)<|?_
 have hs:dH dir b=(dx.zero,D):=by
   unfold dH
   (try simp only[f,i,j,r,t,u,B,bp,dI,E,reduceIte])
   all_goals rfl
 rw[← e8 hrb]
 refine fG hs ?_
 exact eE (ud S b5 o)
 have b3:=aI B
 refine bu<|sq<|?_
 have G:=aV.old N C
 refine eH (aV.at_ G 6 (by omega)) fun b6 b7 T b9 bK=>eH (aV.at_ G 0 (by omega)) fun ba bb U bc bL=>eH (aV.at_ G 1 (by omega)) fun bd be V bf bM=>Rg 18 (fun w'=>w'.cell? ⟨b6,b7+6,none⟩=some (vB (b.getD 6 0))∧w'.cell? ⟨ba,bb+0,none⟩=some (vB (b.getD 0 0))∧w'.cell? ⟨bd,be+1,none⟩=some (vB (b.getD 1 0))∧w'.heap[O]? = some (.cells (ml a x90) 45 (0,0))) fun bN y=>?_
 have W:=ub y b1
 refine bz ⟨(uc y b9),(uc y bc),(uc y bf),W⟩ fun d=>Rt 0 d<|jm 1 d b.length 6 6 rfl T (by omega)<|Rl 2 d (fun _ hs=>hs.1)<|Rt 3 d<|jm 4 d b.length 0 0 rfl U (by omega)<|Rl 5 d (fun _ hs=>hs.2.1)<|Rr 6 d (vW (b.getD 0 0)) (fun _ _=>bv (vW (IntKind.u16.wrap (b.getD 0 0))) (by kernel_rfl) (congrArg (Value.int .u16) (i8 (by omega))))<|Rt 7 d<|Rt 8 d<|jm 9 d b.length 1 1 rfl V (by omega)<|Rl 10 d (fun _ hs=>hs.2.2.1)<|Rr 11 d (vW (b.getD 1 0)) (fun _ _=>bv (vW (IntKind.u16.wrap (b.getD 1 0))) (by kernel_rfl) (congrArg (Value.int .u16) (i8 (by omega))))<|Rt 12 d<|Rt 13 d<|Rr 14 d (.agg (ml a x90)) (fun w' hs=>qX (g:=O) (off:=0) [vB a.code,vB a.fail,vW a.addr,vW a.count,vW a.value,vW a.and_,vW a.or_,vW a.addr2,vW a.sub,vW a.status,vW a.events,vW a.messages,.slice x90.aw a.words.length x90.kw,.slice x90.ab a.bits.length x90.kb,.slice x90.ad a.data.length x90.kd,.slice x90.ar a.recs.length x90.kr,vB a.mei,vB a.kind,vB a.level,vB a.more,vB a.next,.slice x90.ao a.objects.length x90.ko] rfl (by kernel_rfl) hs.2.2.2 (by kernel_rfl) (by kernel_rfl) rfl)<|Rt 15 d<|?_
 refine R0 16 rfl<|iW (ub (aQ l (aQ C y)) h) (qv (b.getD 6 0) ((((256*(b.getD 0 0))%65536)+(b.getD 1 0))%65536) a x90) fun bO bg X=>?_
 have Y:=uz y X
 have Z:=ud S Y o
 have H:=aV.old hsl Z
 refine bz ⟨(cB H T 6 (by omega)),(cB H U 0 (by omega)),(cB H V 1 (by omega)),(aS X (Ne.symm (nb (ai h) (le l.size F.size) Q)) W)⟩ fun bh=>Rt 17 bh<|re<|tn<|rt<|c9 bg (vI 0)<|?_
 have hs:dH dir b=(⟨(b.getD 6 0),((((256*(b.getD 0 0))%65536)+(b.getD 1 0))%65536),a⟩,0):=by
   unfold dH
   (try simp only[f,i,j,r,t,u,B,bp,dI,E,reduceIte])
   all_goals rfl
 rw[← e8 hrb]
 refine fG hs ?_
 exact⟨x90,rfl,⟨(bA.upd aY (uz R Y) (ah (aR (ub (aQ l F) h) (by decide)) aE)),b8 (x:=(b.getD 6 0)) (by omega),c6 (x:=((((256*(b.getD 0 0))%65536)+(b.getD 1 0))%65536)) (by omega)⟩,Z⟩
theorem lf{m:Md}{v:Value}{b:List Int}{w:World}{dir:Int}(h:aV m w v b)(hb:b.length≤1048576) : Calls Tryz.prog 53 #[.int .i64 dir,v] w (mj v b (bZ dir b) w):=by
  obtain⟨A,cp,rfl,hc,_⟩:=h.shape
  exact kK h hb hc
theorem jB{m:Md}{v:Value}{b:List Int}{w:World}{dir:Int}{F:dx}{E:Int}(hX:bZ dir b=(F,E))(h:aV m w v b)(hb:b.length≤1048576) : Calls Tryz.prog 53 #[.int .i64 dir,v] w (fun e w'=>∃ x,e = .returned (.tuple #[.agg (qv F.unit F.tid F.msg x),.int .i64 E])∧(bA v b w' (ml F.msg x).toList F.msg∧(0≤F.unit∧F.unit<256)∧(0≤F.tid∧F.tid<65536))∧aC [] w w'):=by
  refine(lf h hb).mono ?_
  rintro e w' ⟨x,rfl,h1,h2⟩
  rw[hX] at h1 ⊢
  exact⟨x,rfl,h1,h2⟩
end Go.Proofs.YtdkhbcefkfgbdaaGreat
