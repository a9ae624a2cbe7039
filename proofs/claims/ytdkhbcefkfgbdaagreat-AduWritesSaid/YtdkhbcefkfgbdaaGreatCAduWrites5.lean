/- Contracts of functions, part CAduWrites5. -/
import Derived.Test.YtdkhbcefkfgbdaaGreatCAduWrites1
import Derived.Test.YtdkhbcefkfgbdaaGreatCAduWrites2
import Derived.Test.YtdkhbcefkfgbdaaGreatCAduWrites3
import Derived.Test.YtdkhbcefkfgbdaaGreatCAduWrites4
set_option linter.unusedVariables false
set_option linter.unusedSimpArgs false
set_option maxRecDepth 100000
set_option maxHeartbeats 4000000
namespace Go.Proofs.YtdkhbcefkfgbdaaGreat
open Go.RowKit
theorem RC.lt{w0:World}{m:Md}{A:Option Addr}{cp:Nat}{full:List Int}{w:World}{g:Nat}{C:ah}(h:RC w0 m A cp full w g C) : g<w.heap.size:=by
  obtain⟨k,h1,_⟩:=h.cell
  exact aq h1
theorem RC.fld{w0:World}{m:Md}{A:Option Addr}{cp:Nat}{full:List Int}{w:World}{g:Nat}{C:ah}(h:RC w0 m A cp full w g C) : w.cell? ⟨g,3,none⟩=some (.int .i64 C.e):=by
  obtain⟨k,h1,_⟩:=h.cell
  rw[bF h1]
  rfl
theorem yx{c:Int}{C:ah}(h:(((c==3)||(c==4))||(c==23))=true) : aW 1 c C=some (cH c C):=by
  unfold aW
  by_cases h1:(c==3 || c==4)=true
  · rw[if_pos h1]
    rfl
  · rw[if_neg h1]
    have h2:c=23:=by
      simp only[Bool.or_eq_true,beq_iff_eq] at h h1
      omega
    subst h2
    rfl
theorem un{n m:Int}:((n%2==0&&decide (0<n))&&decide (n≤m))=jn n m:=by
  unfold jn
  rw[Bool.eq_iff_iff]
  simp only[Bool.and_eq_true,decide_eq_true_eq,beq_iff_eq]
  omega
theorem tO{a k:Int}:(a==2*k+2)=(2+2*k==a):=by
  rw[Bool.eq_iff_iff]
  simp only[beq_iff_eq]
  omega
theorem fy{x:Int}:decide (0<x)=decide (1≤x):=by
  rw[Bool.eq_iff_iff]
  simp only[decide_eq_true_eq]
  omega
theorem nd{w0:World}{m:Md}{A:Option Addr}{cp:Nat}{full:List Int}{w:World}{g:Nat}{C:ah}{a most:Int}(ha:0≤a∧a<65536)(hC:RC w0 m A cp full w g C) :
    Calls Tryz.prog 175 #[vP g 0,vW a,vI most] w (sN w0 m A cp full g .i64 65536 C.wordV (bP C a most) w):=by
 have hrng:=bR (RC.rng hC)
 refine en 26 Tryz.func175 rfl<|al 1<|aM 1<|ay<|m3 (d8 hC) fun r f h s=>bq C.wordV<|ai 1<|al 4<|cu 4 [14] 18 (((decide (0<C.wordV))&&(decide (C.wordV≤most)))) (fun K d=>?_) ?_
 refine bl 14 ((decide (0<C.wordV))) (fun b=>?_) (fun b=>?_)
 have i:=of_decide_eq_true b
 exact Pl 4<|ce d (decide (C.wordV≤most)) (by rw[b];rfl)
 have i:=of_decide_eq_false b
 exact Pl 4<|ce d false (by rw[b];rfl)
 refine ay<|m2 (bf (((decide (0<C.wordV))&&(decide (C.wordV≤most)))) 5 f) fun j k l=>?_
 refine gL k fun x19 o e=>?_
 refine aM 3<|ay<|m1 (tQ (a:=a) (n:=C.wordV) (w:=j) (by omega) (by omega)) fun t c=>?_
 refine ay<|m2 (bf ((dY a C.wordV)) 7 (RC.upd e c aF (aH.step (RC.u e) c))) fun v p q=>cE 2<|rt<|rr (vI C.wordV)<|?_
 subst o
 have e1:bP C a most=((C.wordsC 1).need (decide (0<C.wordV)&&decide (C.wordV≤most)) 5).need (dY a C.wordV) 7:=by unfold bP;rw[← fy]
 rw[e1]
 exact⟨rfl,p,(u1 h (u1 l (uz c q) im) im),hrng⟩
theorem aS.upd0{α:Type}{m:Md}{e:TypeId}{sz:Nat}{R R':World→α→List Value→Prop}{w:World}{v:Value}{xs:List α}(h:aS m e sz R w v xs)(hR:∀ x cs,R w x cs→R' w x cs) : aS m e sz R' w v xs:=by
  obtain⟨A,c,rfl,h1,h2,h0,h3⟩:=h
  refine⟨A,c,rfl,h1,h2,h0,fun hp=>?_⟩
  obtain⟨b,off,cells,t,fr,rfl,hb,ht,hx⟩:=h3 hp
  exact⟨b,off,cells,t,fr,rfl,hb,ht,fun j x hj=>by obtain⟨cs,hl,hr,hc⟩:=hx j x hj;exact⟨cs,hl,hR _ _ hr,hc⟩⟩
def qW (v0:Value)(b:List Int)(w:World)(o:Obj)(cs:List Value) : Prop:=∃ A n c,cs=[.int .u8 o.id,.slice A n c]∧(∀ m' w',aZ m' w' v0 b→aZ m' w' (.slice A n c) o.value)∧B8 o.id
theorem qW.ones{v0:Value}{b:List Int}{w:World}(x:Obj)(cs:List Value)(h:qW v0 b w x cs) : ∀ v,v∈cs→v.oneCell'=true:=by
  obtain⟨A,n,c,rfl,h2,_⟩:=h
  intro u hu
  simp at hu
  rcases hu with rfl|rfl<;>rfl
def cK (v0:Value)(b:List Int)(w:World)(cs:List Value)(M:aU) : Prop :=
  ∃ vw vb vd vr vo,cs=eJ M vw vb vd vr vo∧ey true w vw M.words∧j6 true w vb M.bits∧(∀ m' w',aZ m' w' v0 b→aZ m' w' vd M.data)∧nc true w vr M.recs∧aS true 100 2 (qW v0 b) w vo M.objects∧fS M
theorem cK.rd{v0:Value}{b:List Int}{m:Md}{w:World}{cs:List Value}{M:aU}(h:cK v0 b w cs M)(hb:aZ m w v0 b) : aJ false w cs M:=by
  obtain⟨vw,vb,vd,vr,vo,h0,h1,h2,h3,h4,h5,h6⟩:=h
  exact⟨vw,vb,vd,vr,vo,h0,aS.any h1 fun _ _ q=>q,aS.any h2 fun _ _ q=>q,aS.any (h3 _ _ hb) fun _ _ q=>q,aS.any h4 fun r cs ⟨v,a,b,c⟩=>⟨v,a,aS.any b fun _ _ q=>q,c⟩,aS.any h5 fun r cs ⟨A,n,k,a,b,c⟩=>⟨_,a,aS.any (b _ _ hb) fun _ _ q=>q,c⟩,h6⟩
theorem cK.rdt{v0:Value}{b:List Int}{w:World}{cs:List Value}{M:aU}(h:cK v0 b w cs M)(hb:aZ true w v0 b) : aJ true w cs M:=by
  obtain⟨vw,vb,vd,vr,vo,h0,h1,h2,h3,h4,h5,h6⟩:=h
  exact⟨vw,vb,vd,vr,vo,h0,h1,h2,h3 _ _ hb,h4,aS.upd0 h5 fun r cs ⟨A,n,k,a,b,c⟩=>⟨_,a,b _ _ hb,c⟩,h6⟩
theorem cK.sub{v0 v1:Value}{b b1:List Int}{w:World}{cs:List Value}{M:aU}(h:cK v1 b1 w cs M)(hv:∀ m' w',aZ m' w' v0 b→aZ m' w' v1 b1) : cK v0 b w cs M:=by
  obtain⟨vw,vb,vd,vr,vo,h0,h1,h2,h3,h4,h5,h6⟩:=h
  exact⟨vw,vb,vd,vr,vo,h0,h1,h2,fun m' w' q=>h3 _ _ (hv _ _ q),h4,aS.upd0 h5 fun r cs ⟨A,n,k,a,b,c⟩=>⟨A,n,k,a,fun m' w' q=>b _ _ (hv _ _ q),c⟩,h6⟩
theorem cK.upd{v0:Value}{b:List Int}{w w':World}{cs:List Value}{M:aU}{S:List Nat}(h:cK v0 b w cs M)(hu:aH S w w')(hs:dv true o8 S w) : cK v0 b w' cs M:=by
  obtain⟨vw,vb,vd,vr,vo,h0,h1,h2,h3,h4,h5,h6⟩:=h
  exact⟨vw,vb,vd,vr,vo,h0,ey.upd' h1 hu (hs.sub (by decide)),j6.upd' h2 hu (hs.sub (by decide)),h3,nc.upd' h4 hu hs,aS.upd h5 hu (hs.sub (by decide)) (fun _ _ q=>q),h6⟩
theorem cK.zero(v0:Value)(b:List Int)(w:World) : cK v0 b w nV.toList aU.zero:=by
  obtain⟨vw,vb,vd,vr,vo,h0,h1,h2,h3,h4,h5,h6⟩:=aJ.zero true w
  exact⟨_,_,_,_,_,rfl,aS.nil ..,aS.nil ..,(fun _ _ _=>aS.nil ..),aS.nil ..,aS.nil ..,h6⟩
theorem cK.size{v0:Value}{b:List Int}{w:World}{cs:Array Value}{M:aU}(h:cK v0 b w cs.toList M) : cs.size=22:=by
  obtain⟨vw,vb,vd,vr,vo,h0,_⟩:=h
  rw[← Array.length_toList,h0]
  rfl
theorem cK.one{v0:Value}{b:List Int}{w w2:World}{m:Md}{cs:Array Value}{M:aU}(h:cK v0 b w cs.toList M)(hb:aZ m w2 v0 b) : cs.all (·.oneCell')=true:=by
  obtain⟨vw,vb,vd,vr,vo,h0,h1,h2,h3,h4,h5,h6⟩:=h
  rw[← Array.all_toList,h0]
  obtain⟨_,_,rfl,_⟩:=h1
  obtain⟨_,_,rfl,_⟩:=h2
  obtain⟨_,_,rfl,_⟩:=h3 _ _ hb
  obtain⟨_,_,rfl,_⟩:=h4
  obtain⟨_,_,rfl,_⟩:=h5
  rfl
def cN (v0:Value)(b:List Int)(res:aU × Int)(w:World)(e:Ending)(w':World) : Prop:=∃ cs,e = .returned (.tuple #[.agg cs,.int .i64 res.2])∧cK v0 b w' cs.toList res.1∧aH [] w w'
theorem bD{v0:Value}{b:List Int}{M:aU}{c:ah}{w W:World}{cs:Array Value}(h0:c.endC.e=0)(h:cK v0 b W cs.toList M)(hu:aH [] w W) : cN v0 b (bp M c) w (.returned (.tuple #[.agg cs,.int .i64 0])) W:=by
  unfold bp
  rw[if_pos h0]
  exact⟨cs,rfl,h,hu⟩
theorem bu{v0:Value}{b:List Int}{M:aU}{c:ah}{w W:World}(h0:¬ c.endC.e=0)(hu:aH [] w W) : cN v0 b (bp M c) w (.returned (.tuple #[.agg nV,.int .i64 c.endC.e])) W:=by
  unfold bp
  rw[if_neg h0]
  exact⟨nV,rfl,cK.zero ..,hu⟩
theorem bG{v0:Value}{b:List Int}{x:Int}{w W:World}(hu:aH [] w W) : cN v0 b (aU.zero,x) w (.returned (.tuple #[.agg nV,.int .i64 x])) W:=⟨nV,rfl,cK.zero ..,hu⟩
theorem o3{m:Md}{A:Option Addr}{cp:Nat}{b:List Int}{w:World}{c:Int}(hcode:B8 c)(hsl:aZ m w (.slice A b.length cp) b)(hb:b.length≤1048576) :
    Calls Tryz.prog 110 #[vI 0,vB c,.slice A b.length cp] w (cN (.slice A b.length cp) b (aj aW 0 c b) w):=by
 obtain⟨hcode1,hcode2⟩:=hcode
 have hln:(b.length:Int)≤1048576:=by omega
 refine en 221 Tryz.func110 rfl<|sg<|aK mZ fun eN eO r j f=>ai 1<|sq<|aE 6<|c0<|bj<|al 2<|L0<|d6 #[.slice A b.length cp,vI 0,.bool false,vI 0] fun l eP d o i=>Pl 1<|aM 2<|aK mZ fun eQ eR g aV Q=>aG aV (mC c) fun J L F=>?_
 refine nt<|sq<|bk<|aE 15<|c0<|al 3<|cu 3 [68] 71 (((c==3)||(c==4))) (fun K bS=>?_) ?_
 refine bl 68 ((c==3)) (fun R=>?_) (fun R=>?_)
 have dj:=ag R
 exact Pl 3<|ce bS true (by rw[R];rfl)
 have dj:=au R
 exact Pl 3<|ce bS (c==4) (by rw[R];rfl)
 refine ai 1<|?_
 have G:=ud Q F g
 have q:=aI i G
 have s:=aI f q
 refine cb (((c==3)||(c==4))) (fun t=>?_) (fun t=>?_)
 refine al 1<|?_
 have dk:RC w _ A cp b J l (ah.mk b false 0):=⟨hsl,s,(Nat.le_trans f.size d),⟨0,(ub G o),Nat.zero_le _,rfl⟩,by omega⟩
 refine ay<|m3 (d8 dk) fun eS dl bT eT=>Pl 1<|?_
 have S:=nb (aq o) lr g
 refine L0<|ci (be bT (Ne.symm S) L) 2 (mG c 0 ((ah.mk b false 0).wordV) 0 0 0 0 0 0 0 0 0 nS nS nS nS 0 0 0 0 0 nS) fun eU bU bV=>nt<|go<|Pl 2<|aD bU 2<|?_
 have aY:=us bT bV
 have bW:=ut s aY (ac (ni f.size d) (ac (ni (le f.size i.size) g) aA))
 refine ay<|m3 (nd (a:=(ah.mk b false 0).wordV) (most:=125) (by omega) (RC.upd dl bV (aa S aF) bW)) fun eW dm bX eX=>?_
 refine gL dm fun x52 dr ds=>?_
 refine L0<|BA (((ah.mk b false 0).wordsC 1).wordV)<|Pl 1<|?_
 refine L0<|ci (be bX (Ne.symm S) bU) 3 (mG c 0 ((ah.mk b false 0).wordV) (((ah.mk b false 0).wordsC 1).wordV) 0 0 0 0 0 0 0 0 nS nS nS nS 0 0 0 0 0 nS) fun eY dt bY=>nl<|bn<|tn<|al 1<|?_
 have b0:=us bX bY
 have bZ:=ut bW b0 (ac (ni f.size d) (ac (ni (le f.size i.size) g) aA))
 refine ay<|m2 (eV (RC.upd ds bY (aa S aF) bZ)) fun eZ b1 am=>nt<|sq<|al 3<|L0<|eu (p:=⟨l,3,none⟩) (v:=vI x52.endC.e) (RC.fld b1)<|ai 1<|?_
 have c2:=ud bZ am (le f.size d)
 have hs:aj aW 0 c b=bp (aU.mk c 0 ((ah.mk b false 0).wordV) (((ah.mk b false 0).wordsC 1).wordV) 0 0 0 0 0 0 0 0 [] [] [] [] 0 0 0 0 0 []) x52:=by
   subst dr
   unfold aj aW co cH ef dq da dn dp lZ
   (try simp only[t,bi,dJ,dP,dL,dN,dO,reduceIte,un,tO])
   all_goals rfl
 refine cb ((x52.endC.e != 0)) (fun b2=>?_) (fun b2=>?_)
 have b3:=aB b2
 refine sq<|Rg 7 (fun w'=>w'.cell? ⟨l,3,none⟩=some (vI x52.endC.e)) fun f0 an=>?_
 have c3:=RC.upd b1 an aF (aH.step (RC.u b1) an)
 refine bo (RC.fld c3) fun T=>Rt 0 T<|Rt 1 T<|Rt 2 T<|Rt 3 T<|Rl 4 T (fun _ hs=>hs)<|?_
 refine R0 5 rfl<|gJ (ub (ut q (ut aY (u1 b0 (aI am an) im) (ac im (ac im aA))) (ac (nr d) (ac (ni i.size g) aA))) j) mZ fun f1 du c4=>?_
 have c5:=ud c2 (uz an c4) r
 refine bo (RC.fld (RC.upd c3 c4 (aa (Ne.symm (nb (aq j) lr d)) aF) c5)) fun dv=>Rt 6 dv<|re<|tn<|aX<|bJ du (vI x52.endC.e)<|?_
 rw[hs]
 exact bu b3 c5
 have b3:=az b2
 refine bj<|sg<|?_
 refine L0<|bN (be am (Ne.symm S) dt)<|?_
 refine aG (ub (ut q (ut aY (u1 b0 am im) (ac im (ac im aA))) (ac (nr d) (ac (ni i.size g) aA))) j) (mG c 0 ((ah.mk b false 0).wordV) (((ah.mk b false 0).wordsC 1).wordV) 0 0 0 0 0 0 0 0 nS nS nS nS 0 0 0 0 0 nS) fun f2 dw dx=>ai 1<|rt<|bJ dw (vI 0)<|?_
 rw[hs]
 exact bD b3 ⟨_,_,_,_,_,rfl,aS.nil ..,aS.nil ..,(fun _ _ _=>aS.nil ..),aS.nil ..,aS.nil ..,(cT (by omega))⟩ (ud c2 dx r)
 have M:=(bK t).1
 have N:=(bK t).2
 refine aE 3<|cb ((c==6)) (fun y=>?_) (fun y=>?_)
 have dy:=ag y
 refine al 1<|?_
 have dz:RC w _ A cp b J l (ah.mk b false 0):=⟨hsl,s,(Nat.le_trans f.size d),⟨0,(ub G o),Nat.zero_le _,rfl⟩,by omega⟩
 refine ay<|m3 (d8 dz) fun f3 dA c6 f4=>Pl 1<|?_
 have U:=nb (aq o) lr g
 refine L0<|ci (be c6 (Ne.symm U) L) 2 (mG c 0 ((ah.mk b false 0).wordV) 0 0 0 0 0 0 0 0 0 nS nS nS nS 0 0 0 0 0 nS) fun f5 dB c7=>nt<|go<|Pl 1<|?_
 have b4:=us c6 c7
 have c8:=ut s b4 (ac (ni f.size d) (ac (ni (le f.size i.size) g) aA))
 refine ay<|m3 (d8 (RC.upd dA c7 (aa U aF) c8)) fun f6 dC c9 f7=>Pl 1<|?_
 refine L0<|ci (be c9 (Ne.symm U) dB) 4 (mG c 0 ((ah.mk b false 0).wordV) 0 (((ah.mk b false 0).wordsC 1).wordV) 0 0 0 0 0 0 0 nS nS nS nS 0 0 0 0 0 nS) fun f8 dD ca=>nl<|bn<|tn<|al 1<|?_
 have b5:=us c9 ca
 have cc:=ut c8 b5 (ac (ni f.size d) (ac (ni (le f.size i.size) g) aA))
 refine ay<|m2 (eV (RC.upd dC ca (aa U aF) cc)) fun f9 b6 ao=>nt<|sq<|al 3<|L0<|eu (p:=⟨l,3,none⟩) (v:=vI (((((ah.mk b false 0).wordsC 1).wordsC 1).endC).e)) (RC.fld b6)<|ai 1<|?_
 have cd:=ud cc ao (le f.size d)
 have hs:aj aW 0 c b=bp (aU.mk c 0 ((ah.mk b false 0).wordV) 0 (((ah.mk b false 0).wordsC 1).wordV) 0 0 0 0 0 0 0 [] [] [] [] 0 0 0 0 0 []) (((ah.mk b false 0).wordsC 1).wordsC 1):=by
   unfold aj aW co cH ef dq da dn dp lZ
   (try simp only[t,M,N,y,bi,dJ,dP,dL,dN,dO,reduceIte,un,tO])
   all_goals rfl
 refine cb (((((((ah.mk b false 0).wordsC 1).wordsC 1).endC).e)!=0)) (fun b7=>?_) (fun b7=>?_)
 have b8:=aB b7
 refine sq<|Rg 7 (fun w'=>w'.cell? ⟨l,3,none⟩=some (vI (((((ah.mk b false 0).wordsC 1).wordsC 1).endC).e))) fun fa ap=>?_
 have cg:=RC.upd b6 ap aF (aH.step (RC.u b6) ap)
 refine bo (RC.fld cg) fun V=>Rt 0 V<|Rt 1 V<|Rt 2 V<|Rt 3 V<|Rl 4 V (fun _ hs=>hs)<|?_
 refine R0 5 rfl<|gJ (ub (ut q (ut b4 (u1 b5 (aI ao ap) im) (ac im (ac im aA))) (ac (nr d) (ac (ni i.size g) aA))) j) mZ fun fb dE ch=>?_
 have cj:=ud cd (uz ap ch) r
 refine bo (RC.fld (RC.upd cg ch (aa (Ne.symm (nb (aq j) lr d)) aF) cj)) fun dF=>Rt 6 dF<|re<|tn<|aX<|bJ dE (vI (((((ah.mk b false 0).wordsC 1).wordsC 1).endC).e))<|?_
 rw[hs]
 exact bu b8 cj
 have b8:=az b7
 refine bj<|sg<|?_
 refine L0<|bN (be ao (Ne.symm U) dD)<|?_
 refine aG (ub (ut q (ut b4 (u1 b5 ao im) (ac im (ac im aA))) (ac (nr d) (ac (ni i.size g) aA))) j) (mG c 0 ((ah.mk b false 0).wordV) 0 (((ah.mk b false 0).wordsC 1).wordV) 0 0 0 0 0 0 0 nS nS nS nS 0 0 0 0 0 nS) fun fc dG dH=>ai 1<|rt<|bJ dG (vI 0)<|?_
 rw[hs]
 exact bD b8 ⟨_,_,_,_,_,rfl,aS.nil ..,aS.nil ..,(fun _ _ _=>aS.nil ..),aS.nil ..,aS.nil ..,(cT (by omega))⟩ (ud cd dH r)
 have dy:=au y
 refine aE 3<|cb ((c==16)) (fun C=>?_) (fun C=>?_)
 have dI:=ag C
 refine al 1<|?_
 have dK:RC w _ A cp b J l (ah.mk b false 0):=⟨hsl,s,(Nat.le_trans f.size d),⟨0,(ub G o),Nat.zero_le _,rfl⟩,by omega⟩
 refine ay<|m3 (d8 dK) fun fd dM W fe=>Pl 1<|?_
 have z:=nb (aq o) lr g
 refine L0<|ci (be W (Ne.symm z) L) 2 (mG c 0 ((ah.mk b false 0).wordV) 0 0 0 0 0 0 0 0 0 nS nS nS nS 0 0 0 0 0 nS) fun ff ck X=>aM 2<|aD ck 2<|?_
 have b9:=us W X
 have cl:=ut s b9 (ac (ni f.size d) (ac (ni (le f.size i.size) g) aA))
 refine ay<|m3 (nd (a:=(ah.mk b false 0).wordV) (most:=123) (by omega) (RC.upd dM X (aa z aF) cl)) fun fg dQ Y fh=>?_
 refine gL dQ fun cm dR dS=>?_
 refine L0<|BA (((ah.mk b false 0).wordsC 1).wordV)<|Pl 1<|?_
 refine L0<|ci (be Y (Ne.symm z) ck) 3 (mG c 0 ((ah.mk b false 0).wordV) (((ah.mk b false 0).wordsC 1).wordV) 0 0 0 0 0 0 0 0 nS nS nS nS 0 0 0 0 0 nS) fun fi dT Z=>cE 2<|c1<|al 1<|?_
 have ba:=us Y Z
 have cn:=ut cl ba (ac (ni f.size d) (ac (ni (le f.size i.size) g) aA))
 refine ay<|m3 (eF (RC.upd dS Z (aa z aF) cn)) fun fj dU a0 fk=>bq cm.byteV<|Pl 1<|aM 3<|?_
 have cq:=be a0 (Ne.symm z) dT
 refine aD cq 3<|bq (((ah.mk b false 0).wordsC 1).wordV)<|bq (2*(((ah.mk b false 0).wordsC 1).wordV))<|Pl 1<|ay<|m2 (bf ((cm.byteV==(2*(((ah.mk b false 0).wordsC 1).wordV)))) 5 dU) fun fl dV a1=>?_
 refine gL dV fun D dW dX=>?_
 refine nt<|go<|Pl 2<|?_
 have cr:=be a1 (Ne.symm z) cq
 refine aD cr 3<|bq (((ah.mk b false 0).wordsC 1).wordV)<|ay<|pu (gY (n:=((ah.mk b false 0).wordsC 1).wordV) (by omega) dX) fun cs ct fm ar fn fo dY cw=>Pl 1<|?_
 refine L0<|ci (be cw (Ne.symm z) cr) 12 (mG c 0 ((ah.mk b false 0).wordV) (((ah.mk b false 0).wordsC 1).wordV) 0 0 0 0 0 0 0 0 (.slice cs ((D.wordsR (((ah.mk b false 0).wordsC 1).wordV)).length) ct) nS nS nS 0 0 0 0 0 nS) fun fp dZ bb=>nl<|bn<|tn<|al 1<|?_
 have bc:=ui a0 (ui a1 (us cw bb))
 have cx:=ut cn bc (ac (ni f.size d) (ac (ni (le f.size i.size) g) aA))
 refine ay<|m2 (eV (RC.upd dY bb (aa z aF) cx)) fun fq bd a2=>nt<|sq<|al 3<|L0<|eu (p:=⟨l,3,none⟩) (v:=vI (((D.wordsC (((ah.mk b false 0).wordsC 1).wordV)).endC).e)) (RC.fld bd)<|ai 1<|?_
 have cy:=ud cx a2 (le f.size d)
 have hs:aj aW 0 c b=bp (aU.mk c 0 ((ah.mk b false 0).wordV) (((ah.mk b false 0).wordsC 1).wordV) 0 0 0 0 0 0 0 0 (D.wordsR (((ah.mk b false 0).wordsC 1).wordV)) [] [] [] 0 0 0 0 0 []) (D.wordsC (((ah.mk b false 0).wordsC 1).wordV)):=by
   subst dW dR
   unfold aj aW co cH ef dq da dn dp lZ
   (try simp only[t,M,N,y,C,bi,dJ,dP,dL,dN,dO,reduceIte,un,tO])
   all_goals rfl
 refine cb (((((D.wordsC (((ah.mk b false 0).wordsC 1).wordV)).endC).e)!=0)) (fun bg=>?_) (fun bg=>?_)
 have bh:=aB bg
 refine sq<|Rg 7 (fun w'=>w'.cell? ⟨l,3,none⟩=some (vI (((D.wordsC (((ah.mk b false 0).wordsC 1).wordV)).endC).e))) fun fr aw=>?_
 have cz:=RC.upd bd aw aF (aH.step (RC.u bd) aw)
 refine bo (RC.fld cz) fun a3=>Rt 0 a3<|Rt 1 a3<|Rt 2 a3<|Rt 3 a3<|Rl 4 a3 (fun _ hs=>hs)<|?_
 refine R0 5 rfl<|gJ (ub (ut q (ut b9 (ut ba (u1 bc (aI a2 aw) im) (ac im (ac im aA))) (ac im (ac im aA))) (ac (nr d) (ac (ni i.size g) aA))) j) mZ fun fs e0 cA=>?_
 have cB:=ud cy (uz aw cA) r
 refine bo (RC.fld (RC.upd cz cA (aa (Ne.symm (nb (aq j) lr d)) aF) cB)) fun e1=>Rt 6 e1<|re<|tn<|aX<|bJ e0 (vI (((D.wordsC (((ah.mk b false 0).wordsC 1).wordV)).endC).e))<|?_
 rw[hs]
 exact bu bh cB
 have bh:=az bg
 refine bj<|sg<|?_
 refine L0<|bN (be a2 (Ne.symm z) dZ)<|?_
 refine aG (ub (ut q (ut b9 (ut ba (u1 bc a2 im) (ac im (ac im aA))) (ac im (ac im aA))) (ac (nr d) (ac (ni i.size g) aA))) j) (mG c 0 ((ah.mk b false 0).wordV) (((ah.mk b false 0).wordsC 1).wordV) 0 0 0 0 0 0 0 0 (.slice cs ((D.wordsR (((ah.mk b false 0).wordsC 1).wordV)).length) ct) nS nS nS 0 0 0 0 0 nS) fun ft e2 cC=>ai 1<|rt<|bJ e2 (vI 0)<|?_
 rw[hs]
 exact bD bh ⟨_,_,_,_,_,rfl,((av ar (us bb (us a2 cC)) (fun x hx=>(aa (fun e=>(aL (aq aV) (le (le (le (le (le (le F.size W.size) X.size) Y.size) Z.size) a0.size) a1.size) ar) (e▸hx)) (aa (fun e=>(aL (aq o) (le (le (le (le (le (le (le Q.size F.size) W.size) X.size) Y.size) Z.size) a0.size) a1.size) ar) (e▸hx)) (aa (fun e=>(aL (aq j) (le (le (le (le (le (le (le (le i.size Q.size) F.size) W.size) X.size) Y.size) Z.size) a0.size) a1.size) ar) (e▸hx)) aF)))) (fun _ _ h=>h))).rd,aS.nil ..,(fun _ _ _=>aS.nil ..),aS.nil ..,aS.nil ..,(cT (by omega))⟩ (ud cy cC r)
 have dI:=au C
 refine aE 3<|cb ((c==22)) (fun H=>?_) (fun H=>?_)
 have e3:=ag H
 refine al 1<|?_
 have e4:RC w _ A cp b J l (ah.mk b false 0):=⟨hsl,s,(Nat.le_trans f.size d),⟨0,(ub G o),Nat.zero_le _,rfl⟩,by omega⟩
 refine ay<|m3 (d8 e4) fun fu e5 cD fv=>Pl 1<|?_
 have I:=nb (aq o) lr g
 refine L0<|ci (be cD (Ne.symm I) L) 2 (mG c 0 ((ah.mk b false 0).wordV) 0 0 0 0 0 0 0 0 0 nS nS nS nS 0 0 0 0 0 nS) fun fw e6 cF=>aM 1<|?_
 have bm:=us cD cF
 have cG:=ut s bm (ac (ni f.size d) (ac (ni (le f.size i.size) g) aA))
 refine ay<|m3 (d8 (RC.upd e5 cF (aa I aF) cG)) fun fx e7 cI fy=>Pl 1<|?_
 refine L0<|ci (be cI (Ne.symm I) e6) 5 (mG c 0 ((ah.mk b false 0).wordV) 0 0 (((ah.mk b false 0).wordsC 1).wordV) 0 0 0 0 0 0 nS nS nS nS 0 0 0 0 0 nS) fun fz e8 cJ=>nt<|go<|Pl 1<|?_
 have bs:=us cI cJ
 have cK:=ut cG bs (ac (ni f.size d) (ac (ni (le f.size i.size) g) aA))
 refine ay<|m3 (d8 (RC.upd e7 cJ (aa I aF) cK)) fun fA e9 cL fB=>Pl 1<|?_
 refine L0<|ci (be cL (Ne.symm I) e8) 6 (mG c 0 ((ah.mk b false 0).wordV) 0 0 (((ah.mk b false 0).wordsC 1).wordV) ((((ah.mk b false 0).wordsC 1).wordsC 1).wordV) 0 0 0 0 0 nS nS nS nS 0 0 0 0 0 nS) fun fC ea cM=>nl<|bn<|tn<|al 1<|?_
 have bt:=us cL cM
 have cO:=ut cK bt (ac (ni f.size d) (ac (ni (le f.size i.size) g) aA))
 refine ay<|m2 (eV (RC.upd e9 cM (aa I aF) cO)) fun fD bv ax=>nt<|sq<|al 3<|L0<|eu (p:=⟨l,3,none⟩) (v:=vI ((((((ah.mk b false 0).wordsC 1).wordsC 1).wordsC 1).endC).e)) (RC.fld bv)<|ai 1<|?_
 have cP:=ud cO ax (le f.size d)
 have hs:aj aW 0 c b=bp (aU.mk c 0 ((ah.mk b false 0).wordV) 0 0 (((ah.mk b false 0).wordsC 1).wordV) ((((ah.mk b false 0).wordsC 1).wordsC 1).wordV) 0 0 0 0 0 [] [] [] [] 0 0 0 0 0 []) ((((ah.mk b false 0).wordsC 1).wordsC 1).wordsC 1):=by
   unfold aj aW co cH ef dq da dn dp lZ
   (try simp only[t,M,N,y,C,H,bi,dJ,dP,dL,dN,dO,reduceIte,un,tO])
   all_goals rfl
 refine cb ((((((((ah.mk b false 0).wordsC 1).wordsC 1).wordsC 1).endC).e)!=0)) (fun bw=>?_) (fun bw=>?_)
 have bx:=aB bw
 refine sq<|Rg 7 (fun w'=>w'.cell? ⟨l,3,none⟩=some (vI ((((((ah.mk b false 0).wordsC 1).wordsC 1).wordsC 1).endC).e))) fun fE aC=>?_
 have cQ:=RC.upd bv aC aF (aH.step (RC.u bv) aC)
 refine bo (RC.fld cQ) fun a4=>Rt 0 a4<|Rt 1 a4<|Rt 2 a4<|Rt 3 a4<|Rl 4 a4 (fun _ hs=>hs)<|?_
 refine R0 5 rfl<|gJ (ub (ut q (ut bm (ut bs (u1 bt (aI ax aC) im) (ac im (ac im aA))) (ac im (ac im aA))) (ac (nr d) (ac (ni i.size g) aA))) j) mZ fun fF eb cR=>?_
 have cS:=ud cP (uz aC cR) r
 refine bo (RC.fld (RC.upd cQ cR (aa (Ne.symm (nb (aq j) lr d)) aF) cS)) fun ec=>Rt 6 ec<|re<|tn<|aX<|bJ eb (vI ((((((ah.mk b false 0).wordsC 1).wordsC 1).wordsC 1).endC).e))<|?_
 rw[hs]
 exact bu bx cS
 have bx:=az bw
 refine bj<|sg<|?_
 refine L0<|bN (be ax (Ne.symm I) ea)<|?_
 refine aG (ub (ut q (ut bm (ut bs (u1 bt ax im) (ac im (ac im aA))) (ac im (ac im aA))) (ac (nr d) (ac (ni i.size g) aA))) j) (mG c 0 ((ah.mk b false 0).wordV) 0 0 (((ah.mk b false 0).wordsC 1).wordV) ((((ah.mk b false 0).wordsC 1).wordsC 1).wordV) 0 0 0 0 0 nS nS nS nS 0 0 0 0 0 nS) fun fG ed ee=>ai 1<|rt<|bJ ed (vI 0)<|?_
 rw[hs]
 exact bD bx ⟨_,_,_,_,_,rfl,aS.nil ..,aS.nil ..,(fun _ _ _=>aS.nil ..),aS.nil ..,aS.nil ..,(cT (by omega))⟩ (ud cP ee r)
 have e3:=au H
 refine aE 3<|cb ((c==23)) (fun O=>?_) (fun O=>?_)
 have eg:=ag O
 refine al 1<|?_
 have eh:RC w _ A cp b J l (ah.mk b false 0):=⟨hsl,s,(Nat.le_trans f.size d),⟨0,(ub G o),Nat.zero_le _,rfl⟩,by omega⟩
 refine ay<|m3 (d8 eh) fun fH ei a5 fI=>Pl 1<|?_
 have B:=nb (aq o) lr g
 refine L0<|ci (be a5 (Ne.symm B) L) 2 (mG c 0 ((ah.mk b false 0).wordV) 0 0 0 0 0 0 0 0 0 nS nS nS nS 0 0 0 0 0 nS) fun fJ cU a6=>aM 2<|aD cU 2<|?_
 have bz:=us a5 a6
 have cV:=ut s bz (ac (ni f.size d) (ac (ni (le f.size i.size) g) aA))
 refine ay<|m3 (nd (a:=(ah.mk b false 0).wordV) (most:=125) (by omega) (RC.upd ei a6 (aa B aF) cV)) fun fK ej a7 fL=>?_
 refine gL ej fun k ek el=>?_
 refine L0<|BA (((ah.mk b false 0).wordsC 1).wordV)<|Pl 1<|?_
 refine L0<|ci (be a7 (Ne.symm B) cU) 3 (mG c 0 ((ah.mk b false 0).wordV) (((ah.mk b false 0).wordsC 1).wordV) 0 0 0 0 0 0 0 0 nS nS nS nS 0 0 0 0 0 nS) fun fM em a8=>aM 1<|?_
 have bA:=us a7 a8
 have cW:=ut cV bA (ac (ni f.size d) (ac (ni (le f.size i.size) g) aA))
 refine ay<|m3 (d8 (RC.upd el a8 (aa B aF) cW)) fun fN eo a9 fO=>Pl 1<|?_
 refine L0<|ci (be a9 (Ne.symm B) em) 7 (mG c 0 ((ah.mk b false 0).wordV) (((ah.mk b false 0).wordsC 1).wordV) 0 0 0 k.wordV 0 0 0 0 nS nS nS nS 0 0 0 0 0 nS) fun fP cX ab=>aM 2<|aD cX 7<|?_
 have bB:=us a9 ab
 have cY:=ut cW bB (ac (ni f.size d) (ac (ni (le f.size i.size) g) aA))
 refine ay<|m3 (nd (a:=k.wordV) (most:=121) (by omega) (RC.upd eo ab (aa B aF) cY)) fun fQ ep aJ fR=>Pl 1<|aM 1<|ay<|m3 (eF ep) fun fS eq aN fT=>bq ((bP (k.wordsC 1) k.wordV 121).byteV)<|Pl 1<|aM 3<|bq (2*((k.wordsC 1).wordV))<|Pl 1<|ay<|m2 (bf ((((bP (k.wordsC 1) k.wordV 121).byteV)==(2*((k.wordsC 1).wordV)))) 5 eq) fun fU er aO=>?_
 refine gL er fun E es et=>?_
 refine nt<|go<|Pl 2<|ay<|pu (gY (n:=(k.wordsC 1).wordV) (by omega) et) fun cZ d0 fV aP fW fX ev ew=>Pl 1<|?_
 have d1:=u1 aJ (u1 aN (u1 aO ew im) im) im
 refine L0<|ci (be d1 (Ne.symm B) cX) 12 (mG c 0 ((ah.mk b false 0).wordV) (((ah.mk b false 0).wordsC 1).wordV) 0 0 0 k.wordV 0 0 0 0 (.slice cZ ((E.wordsR ((k.wordsC 1).wordV)).length) d0) nS nS nS 0 0 0 0 0 nS) fun fY ex bC=>nl<|bn<|tn<|al 1<|?_
 have bE:=us d1 bC
 have d2:=ut cY bE (ac (ni f.size d) (ac (ni (le f.size i.size) g) aA))
 refine ay<|m2 (eV (RC.upd ev bC (aa B aF) d2)) fun fZ bF ad=>nt<|sq<|al 3<|L0<|eu (p:=⟨l,3,none⟩) (v:=vI (((E.wordsC ((k.wordsC 1).wordV)).endC).e)) (RC.fld bF)<|ai 1<|?_
 have d3:=ud d2 ad (le f.size d)
 have hs:aj aW 0 c b=bp (aU.mk c 0 ((ah.mk b false 0).wordV) (((ah.mk b false 0).wordsC 1).wordV) 0 0 0 k.wordV 0 0 0 0 (E.wordsR ((k.wordsC 1).wordV)) [] [] [] 0 0 0 0 0 []) (E.wordsC ((k.wordsC 1).wordV)):=by
   subst es ek
   unfold aj aW co cH ef dq da dn dp lZ
   (try simp only[t,M,N,y,C,H,O,bi,dJ,dP,dL,dN,dO,reduceIte,un,tO])
   all_goals rfl
 refine cb (((((E.wordsC ((k.wordsC 1).wordV)).endC).e)!=0)) (fun bH=>?_) (fun bH=>?_)
 have bI:=aB bH
 refine sq<|Rg 7 (fun w'=>w'.cell? ⟨l,3,none⟩=some (vI (((E.wordsC ((k.wordsC 1).wordV)).endC).e))) fun g0 aQ=>?_
 have d4:=RC.upd bF aQ aF (aH.step (RC.u bF) aQ)
 refine bo (RC.fld d4) fun ae=>Rt 0 ae<|Rt 1 ae<|Rt 2 ae<|Rt 3 ae<|Rl 4 ae (fun _ hs=>hs)<|?_
 refine R0 5 rfl<|gJ (ub (ut q (ut bz (ut bA (ut bB (u1 bE (aI ad aQ) im) (ac im (ac im aA))) (ac im (ac im aA))) (ac im (ac im aA))) (ac (nr d) (ac (ni i.size g) aA))) j) mZ fun g1 ey d5=>?_
 have d7:=ud d3 (uz aQ d5) r
 refine bo (RC.fld (RC.upd d4 d5 (aa (Ne.symm (nb (aq j) lr d)) aF) d7)) fun ez=>Rt 6 ez<|re<|tn<|aX<|bJ ey (vI (((E.wordsC ((k.wordsC 1).wordV)).endC).e))<|?_
 rw[hs]
 exact bu bI d7
 have bI:=az bH
 refine bj<|sg<|?_
 refine L0<|bN (be ad (Ne.symm B) ex)<|?_
 refine aG (ub (ut q (ut bz (ut bA (ut bB (u1 bE ad im) (ac im (ac im aA))) (ac im (ac im aA))) (ac im (ac im aA))) (ac (nr d) (ac (ni i.size g) aA))) j) (mG c 0 ((ah.mk b false 0).wordV) (((ah.mk b false 0).wordsC 1).wordV) 0 0 0 k.wordV 0 0 0 0 (.slice cZ ((E.wordsR ((k.wordsC 1).wordV)).length) d0) nS nS nS 0 0 0 0 0 nS) fun g2 eA d9=>ai 1<|rt<|bJ eA (vI 0)<|?_
 rw[hs]
 exact bD bI ⟨_,_,_,_,_,rfl,((av aP (us bC (us ad d9)) (fun x hx=>(aa (fun e=>(aL (aq aV) (le (le (le (le (le (le (le (le (le F.size a5.size) a6.size) a7.size) a8.size) a9.size) ab.size) aJ.size) aN.size) aO.size) aP) (e▸hx)) (aa (fun e=>(aL (aq o) (le (le (le (le (le (le (le (le (le (le Q.size F.size) a5.size) a6.size) a7.size) a8.size) a9.size) ab.size) aJ.size) aN.size) aO.size) aP) (e▸hx)) (aa (fun e=>(aL (aq j) (le (le (le (le (le (le (le (le (le (le (le i.size Q.size) F.size) a5.size) a6.size) a7.size) a8.size) a9.size) ab.size) aJ.size) aN.size) aO.size) aP) (e▸hx)) aF)))) (fun _ _ h=>h))).rd,aS.nil ..,(fun _ _ _=>aS.nil ..),aS.nil ..,aS.nil ..,(cT (by omega))⟩ (ud d3 d9 r)
 have eg:=au O
 refine al 3<|cu 3 [168] 171 ((c==24)) (fun K db=>?_) ?_
 refine bl 168 ((c==24)) (fun af=>?_) (fun af=>?_)
 have eB:=ag af
 exact Pl 3<|ce db true af
 have eB:=au af
 exact Pl 3<|ce db false af
 refine ai 1<|cb ((c==24)) (fun P=>?_) (fun P=>?_)
 have eC:=ag P
 refine go<|Pl 1<|?_
 have eD:RC w _ A cp b J l (ah.mk b false 0):=⟨hsl,s,(Nat.le_trans f.size d),⟨0,(ub G o),Nat.zero_le _,rfl⟩,by omega⟩
 refine ay<|m3 (d8 eD) fun g3 eE dc g4=>Pl 1<|?_
 have bL:=nb (aq o) lr g
 refine L0<|ci (be dc (Ne.symm bL) L) 2 (mG c 0 ((ah.mk b false 0).wordV) 0 0 0 0 0 0 0 0 0 nS nS nS nS 0 0 0 0 0 nS) fun g5 eG dd=>nl<|bn<|tn<|al 1<|?_
 have bM:=us dc dd
 have de:=ut s bM (ac (ni f.size d) (ac (ni (le f.size i.size) g) aA))
 refine ay<|m2 (eV (RC.upd eE dd (aa bL aF) de)) fun g6 bO aR=>nt<|sq<|al 3<|L0<|eu (p:=⟨l,3,none⟩) (v:=vI ((((ah.mk b false 0).wordsC 1).endC).e)) (RC.fld bO)<|ai 1<|?_
 have df:=ud de aR (le f.size d)
 have hs:aj aW 0 c b=bp (aU.mk c 0 ((ah.mk b false 0).wordV) 0 0 0 0 0 0 0 0 0 [] [] [] [] 0 0 0 0 0 []) ((ah.mk b false 0).wordsC 1):=by
   unfold aj aW co cH ef dq da dn dp lZ
   (try simp only[t,M,N,y,C,H,O,P,bi,dJ,dP,dL,dN,dO,reduceIte,un,tO])
   all_goals rfl
 refine cb ((((((ah.mk b false 0).wordsC 1).endC).e)!=0)) (fun bQ=>?_) (fun bQ=>?_)
 have bR:=aB bQ
 refine sq<|Rg 7 (fun w'=>w'.cell? ⟨l,3,none⟩=some (vI ((((ah.mk b false 0).wordsC 1).endC).e))) fun g7 aT=>?_
 have dg:=RC.upd bO aT aF (aH.step (RC.u bO) aT)
 refine bo (RC.fld dg) fun ak=>Rt 0 ak<|Rt 1 ak<|Rt 2 ak<|Rt 3 ak<|Rl 4 ak (fun _ hs=>hs)<|?_
 refine R0 5 rfl<|gJ (ub (ut q (u1 bM (aI aR aT) im) (ac (nr d) (ac (ni i.size g) aA))) j) mZ fun g8 eH dh=>?_
 have di:=ud df (uz aT dh) r
 refine bo (RC.fld (RC.upd dg dh (aa (Ne.symm (nb (aq j) lr d)) aF) di)) fun eI=>Rt 6 eI<|re<|tn<|aX<|bJ eH (vI ((((ah.mk b false 0).wordsC 1).endC).e))<|?_
 rw[hs]
 exact bu bR di
 have bR:=az bQ
 refine bj<|sg<|?_
 refine L0<|bN (be aR (Ne.symm bL) eG)<|?_
 refine aG (ub (ut q (u1 bM aR im) (ac (nr d) (ac (ni i.size g) aA))) j) (mG c 0 ((ah.mk b false 0).wordV) 0 0 0 0 0 0 0 0 0 nS nS nS nS 0 0 0 0 0 nS) fun g9 eJ eK=>ai 1<|rt<|bJ eJ (vI 0)<|?_
 rw[hs]
 exact bD bR ⟨_,_,_,_,_,rfl,aS.nil ..,aS.nil ..,(fun _ _ _=>aS.nil ..),aS.nil ..,aS.nil ..,(cT (by omega))⟩ (ud df eK r)
 have eC:=au P
 refine aE 3<|cf P<|al 1<|?_
 refine aG (ub q j) mZ fun ga eL eM=>ai 1<|rt<|br<|tr<|bJ eL (vI 4)<|?_
 exact cv (by unfold aj aW co cH ef dq da dn dp lZ;(try simp only[t,M,N,y,C,H,O,P,bi,dJ,dP,dL,dN,dO,reduceIte,un,tO])<;>rfl) (bG (ud s eM r))
theorem nL{m:Md}{A:Option Addr}{cp:Nat}{b:List Int}{w:World}{c:Int}(hcode:B8 c)(hsl:aZ m w (.slice A b.length cp) b)(hb:b.length≤1048576) :
    Calls Tryz.prog 110 #[vI 1,vB c,.slice A b.length cp] w (cN (.slice A b.length cp) b (aj aW 1 c b) w):=by
 obtain⟨hcode1,hcode2⟩:=hcode
 have hln:(b.length:Int)≤1048576:=by omega
 refine en 221 Tryz.func110 rfl<|sg<|aK mZ fun e1 e2 r j f=>ai 1<|sq<|aE 6<|c0<|bj<|al 2<|L0<|d6 #[.slice A b.length cp,vI 0,.bool false,vI 0] fun k e3 d o i=>Pl 1<|aM 2<|aK mZ fun e4 e5 g ap L=>aG ap (mC c) fun M N B=>?_
 refine nt<|sq<|bk<|al 6<|cu 3 [35] 38 (((c==3)||(c==4))) (fun K bv=>?_) ?_
 refine bl 35 ((c==3)) (fun O=>?_) (fun O=>?_)
 have cJ:=ag O
 exact Pl 3<|ce bv true (by rw[O];rfl)
 have cJ:=au O
 exact Pl 3<|ce bv (c==4) (by rw[O];rfl)
 refine Pl 1<|cu 3 [39] 42 ((((c==3)||(c==4))||(c==23))) (fun K bw=>?_) ?_
 refine bl 39 (((c==3)||(c==4))) (fun ar=>?_) (fun ar=>?_)
 exact Pl 3<|ce bw true (by rw[ar];rfl)
 exact Pl 3<|ce bw (c==23) (by rw[ar];rfl)
 refine ai 2<|?_
 have F:=ud L B g
 have q:=aI i F
 have s:=aI f q
 refine cb ((((c==3)||(c==4))||(c==23))) (fun t=>?_) (fun t=>?_)
 refine al 1<|?_
 have cK:RC w _ A cp b M k (ah.mk b false 0):=⟨hsl,s,(Nat.le_trans f.size d),⟨0,(ub F o),Nat.zero_le _,rfl⟩,by omega⟩
 refine ay<|m3 (eF cK) fun e6 cL a2 e7=>bq ((ah.mk b false 0).byteV)<|Pl 1<|aM 2<|L0<|Oe (vI (Int.tmod ((ah.mk b false 0).byteV) 2)) (vI (((ah.mk b false 0).byteV)%2)) (congrArg (Value.int .i64) (Int.tmod_eq_emod_of_nonneg (by omega)))<|Pl 2<|cu 3 [51] 54 ((((((ah.mk b false 0).byteV)%2)==0)&&(decide (0<((ah.mk b false 0).byteV))))) (fun K bx=>?_) ?_
 refine bl 51 (((((ah.mk b false 0).byteV)%2)==0)) (fun P=>?_) (fun P=>?_)
 have cM:=ag P
 exact Pl 3<|ce bx (decide (0<((ah.mk b false 0).byteV))) (by rw[P];rfl)
 have cM:=au P
 exact Pl 3<|ce bx false (by rw[P];rfl)
 refine Pl 1<|cu 3 [55] 58 (((((((ah.mk b false 0).byteV)%2)==0)&&(decide (0<((ah.mk b false 0).byteV))))&&(decide (((ah.mk b false 0).byteV)≤250)))) (fun K bz=>?_) ?_
 refine bl 55 ((((((ah.mk b false 0).byteV)%2)==0)&&(decide (0<((ah.mk b false 0).byteV))))) (fun aw=>?_) (fun aw=>?_)
 exact Pl 3<|ce bz (decide (((ah.mk b false 0).byteV)≤250)) (by rw[aw];rfl)
 exact Pl 3<|ce bz false (by rw[aw];rfl)
 refine ay<|m2 (bf (((((((ah.mk b false 0).byteV)%2)==0)&&(decide (0<((ah.mk b false 0).byteV))))&&(decide (((ah.mk b false 0).byteV)≤250)))) 5 cL) fun e8 cO a3=>?_
 refine gL cO fun x49 cP cQ=>?_
 refine nt<|go<|Pl 2<|L0<|Oe (vI (IntKind.i64.wrap (Int.tdiv ((ah.mk b false 0).byteV) 2))) (vI (((ah.mk b false 0).byteV)/2)) (congrArg (Value.int .i64) (gV (by omega) (by omega)))<|ay<|pu (gY (n:=(((ah.mk b false 0).byteV)/2)) (by omega) cQ) fun bA bB e9 a4 ea eb cR cS=>Pl 1<|?_
 have bC:=u1 a2 (u1 a3 cS im) im
 have ax:=nb (aq o) lr g
 refine L0<|ci (be bC (Ne.symm ax) N) 12 (mG c 0 0 0 0 0 0 0 0 0 0 0 (.slice bA ((x49.wordsR (((ah.mk b false 0).byteV)/2)).length) bB) nS nS nS 0 0 0 0 0 nS) fun ec cU aC=>nl<|bn<|tn<|al 1<|?_
 have aJ:=us bC aC
 have bE:=ut s aJ (ac (ni f.size d) (ac (ni (le f.size i.size) g) aA))
 refine ay<|m2 (eV (RC.upd cR aC (aa ax aF) bE)) fun ed aN Q=>nt<|sq<|al 3<|L0<|eu (p:=⟨k,3,none⟩) (v:=vI (((x49.wordsC (((ah.mk b false 0).byteV)/2)).endC).e)) (RC.fld aN)<|ai 1<|?_
 have bF:=ud bE Q (le f.size d)
 have hs:aj aW 1 c b=bp (aU.mk c 0 0 0 0 0 0 0 0 0 0 0 (x49.wordsR (((ah.mk b false 0).byteV)/2)) [] [] [] 0 0 0 0 0 []) (x49.wordsC (((ah.mk b false 0).byteV)/2)):=by
   subst cP
   unfold aj
   (try simp only[t,bi,dJ,dP,dL,dN,dO,reduceIte,un,tO,yx t])
   all_goals rfl
 refine cb (((((x49.wordsC (((ah.mk b false 0).byteV)/2)).endC).e)!=0)) (fun aO=>?_) (fun aO=>?_)
 have aP:=aB aO
 refine sq<|Rg 7 (fun w'=>w'.cell? ⟨k,3,none⟩=some (vI (((x49.wordsC (((ah.mk b false 0).byteV)/2)).endC).e))) fun ee a5=>?_
 have bH:=RC.upd aN a5 aF (aH.step (RC.u aN) a5)
 refine bo (RC.fld bH) fun R=>Rt 0 R<|Rt 1 R<|Rt 2 R<|Rt 3 R<|Rl 4 R (fun _ hs=>hs)<|?_
 refine R0 5 rfl<|gJ (ub (ut q (u1 aJ (aI Q a5) im) (ac (nr d) (ac (ni i.size g) aA))) j) mZ fun eg cV bI=>?_
 have bL:=ud bF (uz a5 bI) r
 refine bo (RC.fld (RC.upd bH bI (aa (Ne.symm (nb (aq j) lr d)) aF) bL)) fun cW=>Rt 6 cW<|re<|tn<|aX<|bJ cV (vI (((x49.wordsC (((ah.mk b false 0).byteV)/2)).endC).e))<|?_
 rw[hs]
 exact bu aP bL
 have aP:=az aO
 refine bj<|sg<|?_
 refine L0<|bN (be Q (Ne.symm ax) cU)<|?_
 refine aG (ub (ut q (u1 aJ Q im) (ac (nr d) (ac (ni i.size g) aA))) j) (mG c 0 0 0 0 0 0 0 0 0 0 0 (.slice bA ((x49.wordsR (((ah.mk b false 0).byteV)/2)).length) bB) nS nS nS 0 0 0 0 0 nS) fun eh cX bM=>ai 1<|rt<|bJ cX (vI 0)<|?_
 rw[hs]
 exact bD aP ⟨_,_,_,_,_,rfl,((av a4 (us aC (us Q bM)) (fun x hx=>(aa (fun e=>(aL (aq ap) (le (le B.size a2.size) a3.size) a4) (e▸hx)) (aa (fun e=>(aL (aq o) (le (le (le L.size B.size) a2.size) a3.size) a4) (e▸hx)) (aa (fun e=>(aL (aq j) (le (le (le (le i.size L.size) B.size) a2.size) a3.size) a4) (e▸hx)) aF)))) (fun _ _ h=>h))).rd,aS.nil ..,(fun _ _ _=>aS.nil ..),aS.nil ..,aS.nil ..,(cT (by omega))⟩ (ud bF bM r)
 have C:=(bK t).1
 have G:=(bK t).2
 have H:=(bK C).1
 have I:=(bK C).2
 refine al 3<|sy 68 H<|ai 4<|cf I<|aE 3<|cb ((c==6)) (fun y=>?_) (fun y=>?_)
 have cY:=ag y
 refine al 1<|?_
 have cZ:RC w _ A cp b M k (ah.mk b false 0):=⟨hsl,s,(Nat.le_trans f.size d),⟨0,(ub F o),Nat.zero_le _,rfl⟩,by omega⟩
 refine ay<|m3 (d8 cZ) fun ei d0 bO ej=>Pl 1<|?_
 have S:=nb (aq o) lr g
 refine L0<|ci (be bO (Ne.symm S) N) 2 (mG c 0 ((ah.mk b false 0).wordV) 0 0 0 0 0 0 0 0 0 nS nS nS nS 0 0 0 0 0 nS) fun ek d1 bP=>nt<|go<|Pl 1<|?_
 have aQ:=us bO bP
 have bQ:=ut s aQ (ac (ni f.size d) (ac (ni (le f.size i.size) g) aA))
 refine ay<|m3 (d8 (RC.upd d0 bP (aa S aF) bQ)) fun el d2 bR em=>Pl 1<|?_
 refine L0<|ci (be bR (Ne.symm S) d1) 4 (mG c 0 ((ah.mk b false 0).wordV) 0 (((ah.mk b false 0).wordsC 1).wordV) 0 0 0 0 0 0 0 nS nS nS nS 0 0 0 0 0 nS) fun eo d3 bS=>nl<|bn<|tn<|al 1<|?_
 have aR:=us bR bS
 have bT:=ut bQ aR (ac (ni f.size d) (ac (ni (le f.size i.size) g) aA))
 refine ay<|m2 (eV (RC.upd d2 bS (aa S aF) bT)) fun ep aT a6=>nt<|sq<|al 3<|L0<|eu (p:=⟨k,3,none⟩) (v:=vI (((((ah.mk b false 0).wordsC 1).wordsC 1).endC).e)) (RC.fld aT)<|ai 1<|?_
 have bU:=ud bT a6 (le f.size d)
 have hs:aj aW 1 c b=bp (aU.mk c 0 ((ah.mk b false 0).wordV) 0 (((ah.mk b false 0).wordsC 1).wordV) 0 0 0 0 0 0 0 [] [] [] [] 0 0 0 0 0 []) (((ah.mk b false 0).wordsC 1).wordsC 1):=by
   unfold aj aW co cH ef dq da dn dp lZ
   (try simp only[t,C,H,I,G,y,bi,dJ,dP,dL,dN,dO,reduceIte,un,tO])
   all_goals rfl
 refine cb (((((((ah.mk b false 0).wordsC 1).wordsC 1).endC).e)!=0)) (fun aV=>?_) (fun aV=>?_)
 have aY:=aB aV
 refine sq<|Rg 7 (fun w'=>w'.cell? ⟨k,3,none⟩=some (vI (((((ah.mk b false 0).wordsC 1).wordsC 1).endC).e))) fun eq a7=>?_
 have bV:=RC.upd aT a7 aF (aH.step (RC.u aT) a7)
 refine bo (RC.fld bV) fun T=>Rt 0 T<|Rt 1 T<|Rt 2 T<|Rt 3 T<|Rl 4 T (fun _ hs=>hs)<|?_
 refine R0 5 rfl<|gJ (ub (ut q (ut aQ (u1 aR (aI a6 a7) im) (ac im (ac im aA))) (ac (nr d) (ac (ni i.size g) aA))) j) mZ fun er d4 bW=>?_
 have bX:=ud bU (uz a7 bW) r
 refine bo (RC.fld (RC.upd bV bW (aa (Ne.symm (nb (aq j) lr d)) aF) bX)) fun d5=>Rt 6 d5<|re<|tn<|aX<|bJ d4 (vI (((((ah.mk b false 0).wordsC 1).wordsC 1).endC).e))<|?_
 rw[hs]
 exact bu aY bX
 have aY:=az aV
 refine bj<|sg<|?_
 refine L0<|bN (be a6 (Ne.symm S) d3)<|?_
 refine aG (ub (ut q (ut aQ (u1 aR a6 im) (ac im (ac im aA))) (ac (nr d) (ac (ni i.size g) aA))) j) (mG c 0 ((ah.mk b false 0).wordV) 0 (((ah.mk b false 0).wordsC 1).wordV) 0 0 0 0 0 0 0 nS nS nS nS 0 0 0 0 0 nS) fun es d7 d9=>ai 1<|rt<|bJ d7 (vI 0)<|?_
 rw[hs]
 exact bD aY ⟨_,_,_,_,_,rfl,aS.nil ..,aS.nil ..,(fun _ _ _=>aS.nil ..),aS.nil ..,aS.nil ..,(cT (by omega))⟩ (ud bU d9 r)
 have cY:=au y
 refine aE 3<|cb ((c==16)) (fun D=>?_) (fun D=>?_)
 have db:=ag D
 refine al 1<|?_
 have dc:RC w _ A cp b M k (ah.mk b false 0):=⟨hsl,s,(Nat.le_trans f.size d),⟨0,(ub F o),Nat.zero_le _,rfl⟩,by omega⟩
 refine ay<|m3 (d8 dc) fun et dd bY ev=>Pl 1<|?_
 have U:=nb (aq o) lr g
 refine L0<|ci (be bY (Ne.symm U) N) 2 (mG c 0 ((ah.mk b false 0).wordV) 0 0 0 0 0 0 0 0 0 nS nS nS nS 0 0 0 0 0 nS) fun ew bZ c1=>aM 2<|aD bZ 2<|?_
 have b0:=us bY c1
 have c2:=ut s b0 (ac (ni f.size d) (ac (ni (le f.size i.size) g) aA))
 refine ay<|m3 (nd (a:=(ah.mk b false 0).wordV) (most:=123) (by omega) (RC.upd dd c1 (aa U aF) c2)) fun ex de c3 ey=>?_
 refine gL de fun V df dg=>?_
 refine L0<|BA (((ah.mk b false 0).wordsC 1).wordV)<|Pl 1<|?_
 refine L0<|ci (be c3 (Ne.symm U) bZ) 3 (mG c 0 ((ah.mk b false 0).wordV) (((ah.mk b false 0).wordsC 1).wordV) 0 0 0 0 0 0 0 0 nS nS nS nS 0 0 0 0 0 nS) fun ez dh c4=>cE 2<|c0<|sk<|bn<|tn<|al 1<|?_
 have b1:=us c3 c4
 have c5:=ut c2 b1 (ac (ni f.size d) (ac (ni (le f.size i.size) g) aA))
 refine ay<|m2 (eV (RC.upd dg c4 (aa U aF) c5)) fun eA b2 a8=>nt<|sq<|al 3<|L0<|eu (p:=⟨k,3,none⟩) (v:=vI V.endC.e) (RC.fld b2)<|ai 1<|?_
 have c6:=ud c5 a8 (le f.size d)
 have hs:aj aW 1 c b=bp (aU.mk c 0 ((ah.mk b false 0).wordV) (((ah.mk b false 0).wordsC 1).wordV) 0 0 0 0 0 0 0 0 [] [] [] [] 0 0 0 0 0 []) V:=by
   subst df
   unfold aj aW co cH ef dq da dn dp lZ
   (try simp only[t,C,H,I,G,y,D,bi,dJ,dP,dL,dN,dO,reduceIte,un,tO])
   all_goals rfl
 refine cb ((V.endC.e != 0)) (fun b3=>?_) (fun b3=>?_)
 have b4:=aB b3
 refine sq<|Rg 7 (fun w'=>w'.cell? ⟨k,3,none⟩=some (vI V.endC.e)) fun eB a9=>?_
 have c7:=RC.upd b2 a9 aF (aH.step (RC.u b2) a9)
 refine bo (RC.fld c7) fun W=>Rt 0 W<|Rt 1 W<|Rt 2 W<|Rt 3 W<|Rl 4 W (fun _ hs=>hs)<|?_
 refine R0 5 rfl<|gJ (ub (ut q (ut b0 (u1 b1 (aI a8 a9) im) (ac im (ac im aA))) (ac (nr d) (ac (ni i.size g) aA))) j) mZ fun eC di c8=>?_
 have c9:=ud c6 (uz a9 c8) r
 refine bo (RC.fld (RC.upd c7 c8 (aa (Ne.symm (nb (aq j) lr d)) aF) c9)) fun dj=>Rt 6 dj<|re<|tn<|aX<|bJ di (vI V.endC.e)<|?_
 rw[hs]
 exact bu b4 c9
 have b4:=az b3
 refine bj<|sg<|?_
 refine L0<|bN (be a8 (Ne.symm U) dh)<|?_
 refine aG (ub (ut q (ut b0 (u1 b1 a8 im) (ac im (ac im aA))) (ac (nr d) (ac (ni i.size g) aA))) j) (mG c 0 ((ah.mk b false 0).wordV) (((ah.mk b false 0).wordsC 1).wordV) 0 0 0 0 0 0 0 0 nS nS nS nS 0 0 0 0 0 nS) fun eD dk dl=>ai 1<|rt<|bJ dk (vI 0)<|?_
 rw[hs]
 exact bD b4 ⟨_,_,_,_,_,rfl,aS.nil ..,aS.nil ..,(fun _ _ _=>aS.nil ..),aS.nil ..,aS.nil ..,(cT (by omega))⟩ (ud c6 dl r)
 have db:=au D
 refine aE 3<|cb ((c==22)) (fun J=>?_) (fun J=>?_)
 have dm:=ag J
 refine al 1<|?_
 have dr:RC w _ A cp b M k (ah.mk b false 0):=⟨hsl,s,(Nat.le_trans f.size d),⟨0,(ub F o),Nat.zero_le _,rfl⟩,by omega⟩
 refine ay<|m3 (d8 dr) fun eE ds ca eG=>Pl 1<|?_
 have E:=nb (aq o) lr g
 refine L0<|ci (be ca (Ne.symm E) N) 2 (mG c 0 ((ah.mk b false 0).wordV) 0 0 0 0 0 0 0 0 0 nS nS nS nS 0 0 0 0 0 nS) fun eH dt cc=>aM 1<|?_
 have b5:=us ca cc
 have cd:=ut s b5 (ac (ni f.size d) (ac (ni (le f.size i.size) g) aA))
 refine ay<|m3 (d8 (RC.upd ds cc (aa E aF) cd)) fun eI du cg eJ=>Pl 1<|?_
 refine L0<|ci (be cg (Ne.symm E) dt) 5 (mG c 0 ((ah.mk b false 0).wordV) 0 0 (((ah.mk b false 0).wordsC 1).wordV) 0 0 0 0 0 0 nS nS nS nS 0 0 0 0 0 nS) fun eK dv ch=>nt<|go<|Pl 1<|?_
 have b6:=us cg ch
 have cj:=ut cd b6 (ac (ni f.size d) (ac (ni (le f.size i.size) g) aA))
 refine ay<|m3 (d8 (RC.upd du ch (aa E aF) cj)) fun eL dw ck eM=>Pl 1<|?_
 refine L0<|ci (be ck (Ne.symm E) dv) 6 (mG c 0 ((ah.mk b false 0).wordV) 0 0 (((ah.mk b false 0).wordsC 1).wordV) ((((ah.mk b false 0).wordsC 1).wordsC 1).wordV) 0 0 0 0 0 nS nS nS nS 0 0 0 0 0 nS) fun eN dx cl=>nl<|bn<|tn<|al 1<|?_
 have b7:=us ck cl
 have cm:=ut cj b7 (ac (ni f.size d) (ac (ni (le f.size i.size) g) aA))
 refine ay<|m2 (eV (RC.upd dw cl (aa E aF) cm)) fun eO b8 ab=>nt<|sq<|al 3<|L0<|eu (p:=⟨k,3,none⟩) (v:=vI ((((((ah.mk b false 0).wordsC 1).wordsC 1).wordsC 1).endC).e)) (RC.fld b8)<|ai 1<|?_
 have cn:=ud cm ab (le f.size d)
 have hs:aj aW 1 c b=bp (aU.mk c 0 ((ah.mk b false 0).wordV) 0 0 (((ah.mk b false 0).wordsC 1).wordV) ((((ah.mk b false 0).wordsC 1).wordsC 1).wordV) 0 0 0 0 0 [] [] [] [] 0 0 0 0 0 []) ((((ah.mk b false 0).wordsC 1).wordsC 1).wordsC 1):=by
   unfold aj aW co cH ef dq da dn dp lZ
   (try simp only[t,C,H,I,G,y,D,J,bi,dJ,dP,dL,dN,dO,reduceIte,un,tO])
   all_goals rfl
 refine cb ((((((((ah.mk b false 0).wordsC 1).wordsC 1).wordsC 1).endC).e)!=0)) (fun b9=>?_) (fun b9=>?_)
 have ba:=aB b9
 refine sq<|Rg 7 (fun w'=>w'.cell? ⟨k,3,none⟩=some (vI ((((((ah.mk b false 0).wordsC 1).wordsC 1).wordsC 1).endC).e))) fun eP ad=>?_
 have cq:=RC.upd b8 ad aF (aH.step (RC.u b8) ad)
 refine bo (RC.fld cq) fun X=>Rt 0 X<|Rt 1 X<|Rt 2 X<|Rt 3 X<|Rl 4 X (fun _ hs=>hs)<|?_
 refine R0 5 rfl<|gJ (ub (ut q (ut b5 (ut b6 (u1 b7 (aI ab ad) im) (ac im (ac im aA))) (ac im (ac im aA))) (ac (nr d) (ac (ni i.size g) aA))) j) mZ fun eQ dy cr=>?_
 have cs:=ud cn (uz ad cr) r
 refine bo (RC.fld (RC.upd cq cr (aa (Ne.symm (nb (aq j) lr d)) aF) cs)) fun dz=>Rt 6 dz<|re<|tn<|aX<|bJ dy (vI ((((((ah.mk b false 0).wordsC 1).wordsC 1).wordsC 1).endC).e))<|?_
 rw[hs]
 exact bu ba cs
 have ba:=az b9
 refine bj<|sg<|?_
 refine L0<|bN (be ab (Ne.symm E) dx)<|?_
 refine aG (ub (ut q (ut b5 (ut b6 (u1 b7 ab im) (ac im (ac im aA))) (ac im (ac im aA))) (ac (nr d) (ac (ni i.size g) aA))) j) (mG c 0 ((ah.mk b false 0).wordV) 0 0 (((ah.mk b false 0).wordsC 1).wordV) ((((ah.mk b false 0).wordsC 1).wordsC 1).wordV) 0 0 0 0 0 nS nS nS nS 0 0 0 0 0 nS) fun eR dA dB=>ai 1<|rt<|bJ dA (vI 0)<|?_
 rw[hs]
 exact bD ba ⟨_,_,_,_,_,rfl,aS.nil ..,aS.nil ..,(fun _ _ _=>aS.nil ..),aS.nil ..,aS.nil ..,(cT (by omega))⟩ (ud cn dB r)
 have dm:=au J
 refine aE 3<|cf G<|al 3<|cu 3 [168] 171 (false) (fun K ct=>?_) ?_
 refine bl 168 ((c==24)) (fun bb=>?_) (fun bb=>?_)
 have dC:=ag bb
 exact Pl 3<|ce ct false rfl
 have dC:=au bb
 exact Pl 3<|ce ct false rfl
 refine ai 1<|c0<|aE 3<|cb ((c==24)) (fun Y=>?_) (fun Y=>?_)
 have dD:=ag Y
 refine al 1<|?_
 have dE:RC w _ A cp b M k (ah.mk b false 0):=⟨hsl,s,(Nat.le_trans f.size d),⟨0,(ub F o),Nat.zero_le _,rfl⟩,by omega⟩
 refine ay<|m3 (d8 dE) fun eS dF ae eT=>bq ((ah.mk b false 0).wordV)<|Pl 1<|aM 2<|L0<|Oe (vI (Int.tmod ((ah.mk b false 0).wordV) 2)) (vI (((ah.mk b false 0).wordV)%2)) (congrArg (Value.int .i64) (Int.tmod_eq_emod_of_nonneg (by omega)))<|Pl 2<|cu 3 [185] 188 ((((((ah.mk b false 0).wordV)%2)==0)&&(decide (2≤((ah.mk b false 0).wordV))))) (fun K cw=>?_) ?_
 refine bl 185 (((((ah.mk b false 0).wordV)%2)==0)) (fun Z=>?_) (fun Z=>?_)
 have dG:=ag Z
 exact Pl 3<|ce cw (decide (2≤((ah.mk b false 0).wordV))) (by rw[Z];rfl)
 have dG:=au Z
 exact Pl 3<|ce cw false (by rw[Z];rfl)
 refine Pl 1<|cu 3 [189] 192 (((((((ah.mk b false 0).wordV)%2)==0)&&(decide (2≤((ah.mk b false 0).wordV))))&&(decide (((ah.mk b false 0).wordV)≤64)))) (fun K cx=>?_) ?_
 refine bl 189 ((((((ah.mk b false 0).wordV)%2)==0)&&(decide (2≤((ah.mk b false 0).wordV))))) (fun bc=>?_) (fun bc=>?_)
 exact Pl 3<|ce cx (decide (((ah.mk b false 0).wordV)≤64)) (by rw[bc];rfl)
 exact Pl 3<|ce cx false (by rw[bc];rfl)
 refine ay<|m2 (bf (((((((ah.mk b false 0).wordV)%2)==0)&&(decide (2≤((ah.mk b false 0).wordV))))&&(decide (((ah.mk b false 0).wordV)≤64)))) 5 dF) fun eU dH af=>?_
 refine gL dH fun l dI dK=>?_
 refine aM 1<|ay<|m3 (d8 dK) fun eW dM ak eX=>bq l.wordV<|Pl 1<|aM 3<|bq (2*l.wordV)<|bq ((2*l.wordV)+2)<|Pl 1<|ay<|m2 (bf ((((ah.mk b false 0).wordV)==((2*l.wordV)+2))) 5 dM) fun eY dQ am=>?_
 refine gL dQ fun z dR dS=>?_
 refine nt<|go<|Pl 2<|ay<|pu (gY (n:=l.wordV) (by omega) dS) fun cy cz eZ an f0 f1 dT dU=>Pl 1<|?_
 have cA:=u1 ae (u1 af (u1 ak (u1 am dU im) im) im) im
 have bd:=nb (aq o) lr g
 refine L0<|ci (be cA (Ne.symm bd) N) 12 (mG c 0 0 0 0 0 0 0 0 0 0 0 (.slice cy ((z.wordsR l.wordV).length) cz) nS nS nS 0 0 0 0 0 nS) fun f2 dV bg=>nl<|bn<|tn<|al 1<|?_
 have bh:=us cA bg
 have cB:=ut s bh (ac (ni f.size d) (ac (ni (le f.size i.size) g) aA))
 refine ay<|m2 (eV (RC.upd dT bg (aa bd aF) cB)) fun f3 bm a0=>nt<|sq<|al 3<|L0<|eu (p:=⟨k,3,none⟩) (v:=vI (((z.wordsC l.wordV).endC).e)) (RC.fld bm)<|ai 1<|?_
 have cC:=ud cB a0 (le f.size d)
 have hs:aj aW 1 c b=bp (aU.mk c 0 0 0 0 0 0 0 0 0 0 0 (z.wordsR l.wordV) [] [] [] 0 0 0 0 0 []) (z.wordsC l.wordV):=by
   subst dR dI
   unfold aj aW co cH ef dq da dn dp lZ
   (try simp only[t,C,H,I,G,y,D,J,Y,bi,dJ,dP,dL,dN,dO,reduceIte,un,tO])
   all_goals rfl
 refine cb (((((z.wordsC l.wordV).endC).e)!=0)) (fun bs=>?_) (fun bs=>?_)
 have bt:=aB bs
 refine sq<|Rg 7 (fun w'=>w'.cell? ⟨k,3,none⟩=some (vI (((z.wordsC l.wordV).endC).e))) fun f4 ao=>?_
 have cD:=RC.upd bm ao aF (aH.step (RC.u bm) ao)
 refine bo (RC.fld cD) fun a1=>Rt 0 a1<|Rt 1 a1<|Rt 2 a1<|Rt 3 a1<|Rl 4 a1 (fun _ hs=>hs)<|?_
 refine R0 5 rfl<|gJ (ub (ut q (u1 bh (aI a0 ao) im) (ac (nr d) (ac (ni i.size g) aA))) j) mZ fun f5 dW cF=>?_
 have cG:=ud cC (uz ao cF) r
 refine bo (RC.fld (RC.upd cD cF (aa (Ne.symm (nb (aq j) lr d)) aF) cG)) fun dX=>Rt 6 dX<|re<|tn<|aX<|bJ dW (vI (((z.wordsC l.wordV).endC).e))<|?_
 rw[hs]
 exact bu bt cG
 have bt:=az bs
 refine bj<|sg<|?_
 refine L0<|bN (be a0 (Ne.symm bd) dV)<|?_
 refine aG (ub (ut q (u1 bh a0 im) (ac (nr d) (ac (ni i.size g) aA))) j) (mG c 0 0 0 0 0 0 0 0 0 0 0 (.slice cy ((z.wordsR l.wordV).length) cz) nS nS nS 0 0 0 0 0 nS) fun f6 dY cI=>ai 1<|rt<|bJ dY (vI 0)<|?_
 rw[hs]
 exact bD bt ⟨_,_,_,_,_,rfl,((av an (us bg (us a0 cI)) (fun x hx=>(aa (fun e=>(aL (aq ap) (le (le (le (le B.size ae.size) af.size) ak.size) am.size) an) (e▸hx)) (aa (fun e=>(aL (aq o) (le (le (le (le (le L.size B.size) ae.size) af.size) ak.size) am.size) an) (e▸hx)) (aa (fun e=>(aL (aq j) (le (le (le (le (le (le i.size L.size) B.size) ae.size) af.size) ak.size) am.size) an) (e▸hx)) aF)))) (fun _ _ h=>h))).rd,aS.nil ..,(fun _ _ _=>aS.nil ..),aS.nil ..,aS.nil ..,(cT (by omega))⟩ (ud cC cI r)
 have dD:=au Y
 refine al 1<|?_
 refine aG (ub q j) mZ fun f7 dZ e0=>ai 1<|rt<|br<|tr<|bJ dZ (vI 4)<|?_
 exact cv (by unfold aj aW co cH ef dq da dn dp lZ;(try simp only[t,C,H,I,G,y,D,J,Y,bi,dJ,dP,dL,dN,dO,reduceIte,un,tO])<;>rfl) (bG (ud s e0 r))
theorem o4{m:Md}{A:Option Addr}{cp:Nat}{b:List Int}{w:World}{dir c:Int}(hcode:B8 c)(hsl:aZ m w (.slice A b.length cp) b)(hb:b.length≤1048576)(hd:¬ (dir=0∨dir=1)) :
    Calls Tryz.prog 110 #[vI dir,vB c,.slice A b.length cp] w (cN (.slice A b.length cp) b (aj aW dir c b) w):=by
 obtain⟨hcode1,hcode2⟩:=hcode
 have hln:(b.length:Int)≤1048576:=by omega
 have e0:(dir != 0)=true:=by simp;omega
 have e1:(dir != 1)=true:=by simp;omega
 refine en 221 Tryz.func110 rfl<|sg<|aK mZ fun g h a d e=>ai 1<|sq<|al 3<|sy 18 e0<|Pl 3<|nl<|tn<|ct e1<|al 1<|aG d mZ fun i eN f=>ai 1<|aX<|bJ eN (vI 1)<|?_
 exact cv (by unfold aj aW co cH ef dq da dn dp lZ;(try simp only[e0,e1,bi,dJ,dP,dL,dN,dO,reduceIte,hd,un,tO])<;>rfl) (bG (ud e f a))
open Go.RowKit
def fA (dir:Int)(C:ah) : ah:=(C.wordsC 1).need (eU C.wordV&&((C.wordV != 4)||(dir==0))) 8
theorem lP{C:ah}:fA 0 C=(C.wordsC 1).need (eU C.wordV) 8:=by
  unfold fA
  rw[show((0:Int)==0)=true from rfl,Bool.or_true,Bool.and_true]
theorem lL{C:ah}:fA 1 C=(C.wordsC 1).need (eU C.wordV&&(C.wordV != 4)) 8:=by
  unfold fA
  rw[show((1:Int)==0)=false from rfl,Bool.or_false]
def eT (dir c:Int)(C:ah) : ah × aU :=
  if C.wordV==0 then ((kx (fA dir C)).wordsC (((fA dir C).l.length:Int)/2),{ aU.zero with code:=c,sub:=C.wordV,words:=(kx (fA dir C)).wordsR (((fA dir C).l.length:Int)/2) })
  else (((fA dir C).wordsC 1).need (gX dir C.wordV (fA dir C).wordV) 6,{ aU.zero with code:=c,sub:=C.wordV,words:=[(fA dir C).wordV] })
def ee (c:Int)(C:ah) : ah × aU :=
  if c==7 then (C.bytesC 1,{ aU.zero with code:=c,value:=C.byteV })
  else if c==11 then ((dW C).wordsC 1,{ aU.zero with code:=c,status:=C.wordV,events:=(dW C).wordV })
  else if c==12 then ((gD C).bytesC (C.byteV-6),{ aU.zero with code:=c,status:=(fX C 6 70).wordV,events:=(dW (fX C 6 70)).wordV,messages:=((dW (fX C 6 70)).wordsC 1).wordV,data:=(gD C).bytesR (C.byteV-6) })
  else ((fX C 1 251).bytesC C.byteV,{ aU.zero with code:=c,data:=(fX C 1 251).bytesR C.byteV })
def bO (dir c:Int)(C:ah) : Option (ah × aU) :=
  if ((((c != 7)&&(c != 8))&&(c != 11))&&(c != 12))&&(c != 17) then none
  else if c==8 then some (eT dir c C)
  else if dir==0 then some (C,{ aU.zero with code:=c })
  else some (ee c C)
theorem nI{m:Md}{A:Option Addr}{cp:Nat}{b:List Int}{w:World}{c:Int}(hcode:B8 c)(hsl:aZ m w (.slice A b.length cp) b)(hb:b.length≤1048576) :
    Calls Tryz.prog 111 #[vI 0,vB c,.slice A b.length cp] w (cN (.slice A b.length cp) b (aj bO 0 c b) w):=by
 obtain⟨hcode1,hcode2⟩:=hcode
 have hln:(b.length:Int)≤1048576:=by omega
 refine en 197 Tryz.func111 rfl<|sg<|aK mZ fun cA cB s f d=>ai 1<|sq<|aE 6<|c0<|bj<|sq<|al 3<|cu 3 [24] 27 (((c != 7)&&(c != 8))) (fun K aV=>?_) ?_
 refine bl 24 ((c != 7)) (fun G=>?_) (fun G=>?_)
 have bR:=aB G
 exact Pl 3<|ce aV (c != 8) (by rw[G];rfl)
 have bR:=az G
 exact Pl 3<|ce aV false (by rw[G];rfl)
 refine Pl 1<|cu 3 [28] 31 ((((c != 7)&&(c != 8))&&(c != 11))) (fun K aW=>?_) ?_
 refine bl 28 (((c != 7)&&(c != 8))) (fun a3=>?_) (fun a3=>?_)
 exact Pl 3<|ce aW (c != 11) (by rw[a3];rfl)
 exact Pl 3<|ce aW false (by rw[a3];rfl)
 refine Pl 1<|cu 3 [32] 35 (((((c != 7)&&(c != 8))&&(c != 11))&&(c != 12))) (fun K aY=>?_) ?_
 refine bl 32 ((((c != 7)&&(c != 8))&&(c != 11))) (fun a4=>?_) (fun a4=>?_)
 exact Pl 3<|ce aY (c != 12) (by rw[a4];rfl)
 exact Pl 3<|ce aY false (by rw[a4];rfl)
 refine Pl 1<|cu 3 [36] 39 ((((((c != 7)&&(c != 8))&&(c != 11))&&(c != 12))&&(c != 17))) (fun K b0=>?_) ?_
 refine bl 36 (((((c != 7)&&(c != 8))&&(c != 11))&&(c != 12))) (fun a5=>?_) (fun a5=>?_)
 exact Pl 3<|ce b0 (c != 17) (by rw[a5];rfl)
 exact Pl 3<|ce b0 false (by rw[a5];rfl)
 refine nt<|cb ((((((c != 7)&&(c != 8))&&(c != 11))&&(c != 12))&&(c != 17))) (fun t=>?_) (fun t=>?_)
 have a6:=(bC t).1
 have bS:=(bC t).2
 have a7:=(bC a6).1
 have bT:=(bC a6).2
 have q23aaa:=(bC a7).1
 have q23aab:=(bC a7).2
 have q23aaaa:=(bC q23aaa).1
 have q23aaab:=(bC q23aaa).2
 refine al 1<|aG f mZ fun cC bU bV=>ai 1<|aX<|bJ bU (vI 4)<|?_
 exact cv (by unfold aj bO eT ee;(try simp only[t,a6,a7,q23aaa,q23aaaa,q23aaab,q23aab,bT,bS,bi,dJ,dP,dL,dN,dO,reduceIte,lP,lL])<;>rfl) (bG (ud d bV s))
 refine bj<|al 2<|L0<|d6 #[.slice A b.length cp,vI 0,.bool false,vI 0] fun q cD a C i=>Pl 1<|aM 2<|aK mZ fun cE cF j a8 H=>aG a8 (mC c) fun b1 b2 y=>?_
 refine nt<|sq<|bk<|aE 3<|?_
 have a9:=ud H y j
 have z:=aI i a9
 have U:=aI d z
 refine cb ((c==8)) (fun D=>?_) (fun D=>?_)
 have bW:=ag D
 refine al 1<|?_
 have bX:RC w _ A cp b b1 q (ah.mk b false 0):=⟨hsl,U,(Nat.le_trans d.size a),⟨0,(ub a9 C),Nat.zero_le _,rfl⟩,by omega⟩
 refine ay<|m3 (d8 bX) fun cG bY r cH=>Pl 1<|?_
 have k:=nb (aq C) lr j
 refine L0<|ci (be r (Ne.symm k) b2) 8 (mG c 0 0 0 0 0 0 0 ((ah.mk b false 0).wordV) 0 0 0 nS nS nS nS 0 0 0 0 0 nS) fun bZ ab B=>aM 1<|aD ab 8<|ay<|m1 (CU (x:=(ah.mk b false 0).wordV) (w:=bZ) (by omega)) fun cI o=>Pl 1<|aM 3<|cu 8 [72] 80 ((eU ((ah.mk b false 0).wordV))) (fun K b3=>?_) ?_
 refine bl 72 ((eU ((ah.mk b false 0).wordV))) (fun ad=>?_) (fun ad=>?_)
 refine Pl 1<|?_
 refine L1<|dD (ub o ab) 8<|Pl 2<|cu 3 [76] 79 (true) (fun K b4=>?_) ?_
 refine bl 76 ((((ah.mk b false 0).wordV)!=4)) (fun ae=>?_) (fun ae=>?_)
 have c2:=aB ae
 exact Pl 3<|ce b4 true rfl
 have c2:=az ae
 exact Pl 3<|ce b4 true rfl
 exact Pl 1<|ce b3 true ad
 exact Pl 8<|ce b3 false ad
 have b5:=aI B o
 have I:=us r b5
 have b6:=ut U I (ac (ni d.size a) (ac (ni (le d.size i.size) j) aA))
 refine ay<|m2 (bf ((eU ((ah.mk b false 0).wordV))) 8 (RC.upd bY b5 (aa k aF) b6)) fun cJ c3 g=>?_
 refine gL c3 fun x70 b7 J=>?_
 refine nt<|sq<|al 1<|?_
 have af:=be (uz o g) (Ne.symm k) ab
 refine aD af 8<|ai 1<|?_
 have b8:=ud b6 g (le d.size a)
 refine cb ((((ah.mk b false 0).wordV)==0)) (fun L=>?_) (fun L=>?_)
 have c4:=ag L
 refine al 1<|ay<|m1 (jM J) fun cK E=>?_
 have cL:=RC.clen J
 refine Pl 1<|aM 2<|L0<|Oe (vI (Int.tmod (x70.l.length:Int) 2)) (vI ((x70.l.length:Int)%2)) (congrArg (Value.int .i64) (Int.tmod_eq_emod_of_nonneg (by omega)))<|Pl 2<|cu 3 [91] 94 (((((x70.l.length:Int)%2)==0)&&(decide (2≤(x70.l.length:Int))))) (fun K b9=>?_) ?_
 refine bl 91 ((((x70.l.length:Int)%2)==0)) (fun M=>?_) (fun M=>?_)
 have c5:=ag M
 exact Pl 3<|ce b9 (decide (2≤(x70.l.length:Int))) (by rw[M];rfl)
 have c5:=au M
 exact Pl 3<|ce b9 false (by rw[M];rfl)
 refine Pl 1<|cu 3 [95] 98 ((((((x70.l.length:Int)%2)==0)&&(decide (2≤(x70.l.length:Int))))&&(decide ((x70.l.length:Int)≤250)))) (fun K ba=>?_) ?_
 refine bl 95 (((((x70.l.length:Int)%2)==0)&&(decide (2≤(x70.l.length:Int))))) (fun ak=>?_) (fun ak=>?_)
 exact Pl 3<|ce ba (decide ((x70.l.length:Int)≤250)) (by rw[ak];rfl)
 exact Pl 3<|ce ba false (by rw[ak];rfl)
 refine ay<|m2 (bf ((((((x70.l.length:Int)%2)==0)&&(decide (2≤(x70.l.length:Int))))&&(decide ((x70.l.length:Int)≤250)))) 5 (RC.upd J E aF (aH.step (RC.u J) E))) fun cM c6 V=>?_
 refine gL c6 fun x88 c7 c8=>?_
 refine aM 2<|L0<|Oe (vI (IntKind.i64.wrap (Int.tdiv (x70.l.length:Int) 2))) (vI ((x70.l.length:Int)/2)) (congrArg (Value.int .i64) (gV (by omega) (by omega)))<|ay<|pu (gY (n:=((x70.l.length:Int)/2)) (by omega) c8) fun bb bc cO W cP cQ c9 ca=>Pl 1<|?_
 have bd:=uz E (u1 V ca im)
 refine L0<|ci (be bd (Ne.symm k) af) 12 (mG c 0 0 0 0 0 0 0 ((ah.mk b false 0).wordV) 0 0 0 (.slice bb ((x88.wordsR ((x70.l.length:Int)/2)).length) bc) nS nS nS 0 0 0 0 0 nS) fun cR cc an=>nt<|xt<|tx<|bx<|tn<|al 1<|?_
 have ao:=us bd an
 have bg:=ut b8 ao (ac (ni d.size a) (ac (ni (le d.size i.size) j) aA))
 refine ay<|m2 (eV (RC.upd c9 an (aa k aF) bg)) fun cS ap N=>nt<|sq<|al 3<|L0<|eu (p:=⟨q,3,none⟩) (v:=vI (((x88.wordsC ((x70.l.length:Int)/2)).endC).e)) (RC.fld ap)<|ai 1<|?_
 have bh:=ud bg N (le d.size a)
 have hs:aj bO 0 c b=bp (aU.mk c 0 0 0 0 0 0 0 ((ah.mk b false 0).wordV) 0 0 0 (x88.wordsR ((x70.l.length:Int)/2)) [] [] [] 0 0 0 0 0 []) (x88.wordsC ((x70.l.length:Int)/2)):=by
   subst c7 b7
   unfold aj bO eT ee
   (try simp only[t,D,L,bi,dJ,dP,dL,dN,dO,reduceIte,lP,lL])
   all_goals rfl
 refine cb (((((x88.wordsC ((x70.l.length:Int)/2)).endC).e)!=0)) (fun ar=>?_) (fun ar=>?_)
 have aw:=aB ar
 refine sq<|Rg 7 (fun w'=>w'.cell? ⟨q,3,none⟩=some (vI (((x88.wordsC ((x70.l.length:Int)/2)).endC).e))) fun cU X=>?_
 have bm:=RC.upd ap X aF (aH.step (RC.u ap) X)
 refine bo (RC.fld bm) fun O=>Rt 0 O<|Rt 1 O<|Rt 2 O<|Rt 3 O<|Rl 4 O (fun _ hs=>hs)<|?_
 refine R0 5 rfl<|gJ (ub (ut z (ut I (ui g (u1 ao (aI N X) im)) (ac im (ac im aA))) (ac (nr a) (ac (ni i.size j) aA))) f) mZ fun cV cd bq=>?_
 have br:=ud bh (uz X bq) s
 refine bo (RC.fld (RC.upd bm bq (aa (Ne.symm (nb (aq f) lr a)) aF) br)) fun cf=>Rt 6 cf<|re<|tn<|aX<|bJ cd (vI (((x88.wordsC ((x70.l.length:Int)/2)).endC).e))<|?_
 rw[hs]
 exact bu aw br
 have aw:=az ar
 refine bj<|sg<|?_
 refine L0<|bN (be N (Ne.symm k) cc)<|?_
 refine aG (ub (ut z (ut I (ui g (u1 ao N im)) (ac im (ac im aA))) (ac (nr a) (ac (ni i.size j) aA))) f) (mG c 0 0 0 0 0 0 0 ((ah.mk b false 0).wordV) 0 0 0 (.slice bb ((x88.wordsR ((x70.l.length:Int)/2)).length) bc) nS nS nS 0 0 0 0 0 nS) fun cW cg bs=>ai 1<|rt<|bJ cg (vI 0)<|?_
 rw[hs]
 exact bD aw ⟨_,_,_,_,_,rfl,((av W (us an (us N bs)) (fun x hx=>(aa (fun e=>(aL (aq a8) (le (le (le (le (le (le y.size r.size) B.size) o.size) g.size) E.size) V.size) W) (e▸hx)) (aa (fun e=>(aL (aq C) (le (le (le (le (le (le (le H.size y.size) r.size) B.size) o.size) g.size) E.size) V.size) W) (e▸hx)) (aa (fun e=>(aL (aq f) (le (le (le (le (le (le (le (le i.size H.size) y.size) r.size) B.size) o.size) g.size) E.size) V.size) W) (e▸hx)) aF)))) (fun _ _ h=>h))).rd,aS.nil ..,(fun _ _ _=>aS.nil ..),aS.nil ..,aS.nil ..,(cT (by omega))⟩ (ud bh bs s)
 have c4:=au L
 refine bj<|al 1<|ay<|m3 (d8 J) fun ch bt P cX=>Pl 1<|aM 3<|?_
 have bv:=be P (Ne.symm k) af
 refine aD bv 8<|Pl 1<|ay<|m1 (Dc (dir:=0) (sub:=(ah.mk b false 0).wordV) (v:=x70.wordV) (w:=ch) (by omega)) fun cZ F=>?_
 refine ay<|m2 (bf ((gX 0 ((ah.mk b false 0).wordV) x70.wordV)) 6 (RC.upd bt F aF (aH.step (RC.u bt) F))) fun d0 cj Y=>?_
 refine gL cj fun Q ck cl=>?_
 refine nt<|go<|Pl 1<|L0<|cY (m:=1) (e:=37) #[vW x70.wordV] fun bw d1 cm cn bz=>?_
 have Z:=eB cm (xs:=[x70.wordV]) (by as_aux_lemma=>kernel_rfl) (am (by omega) aR) (by(try simp only[List.length_cons,List.length_nil]);omega) cn
 refine Pl 1<|?_
 have bA:=uz F (aI Y bz)
 refine L0<|ci (be bA (Ne.symm k) bv) 12 (mG c 0 0 0 0 0 0 0 ((ah.mk b false 0).wordV) 0 0 0 (.slice (some ⟨bw,0,none⟩) 1 1) nS nS nS 0 0 0 0 0 nS) fun d2 co ax=>nl<|bn<|tn<|al 1<|?_
 have aC:=ui P (us bA ax)
 have bB:=ut b8 aC (ac (ni d.size a) (ac (ni (le d.size i.size) j) aA))
 refine ay<|m2 (eV (RC.upd cl (uz bz ax) (aa k aF) bB)) fun d3 aJ R=>nt<|sq<|al 3<|L0<|eu (p:=⟨q,3,none⟩) (v:=vI Q.endC.e) (RC.fld aJ)<|ai 1<|?_
 have bE:=ud bB R (le d.size a)
 have hs:aj bO 0 c b=bp (aU.mk c 0 0 0 0 0 0 0 ((ah.mk b false 0).wordV) 0 0 0 [x70.wordV] [] [] [] 0 0 0 0 0 []) Q:=by
   subst ck b7
   unfold aj bO eT ee
   (try simp only[t,D,L,bi,dJ,dP,dL,dN,dO,reduceIte,lP,lL])
   all_goals rfl
 refine cb ((Q.endC.e != 0)) (fun aN=>?_) (fun aN=>?_)
 have aO:=aB aN
 refine sq<|Rg 7 (fun w'=>w'.cell? ⟨q,3,none⟩=some (vI Q.endC.e)) fun d4 a0=>?_
 have bF:=RC.upd aJ a0 aF (aH.step (RC.u aJ) a0)
 refine bo (RC.fld bF) fun S=>Rt 0 S<|Rt 1 S<|Rt 2 S<|Rt 3 S<|Rl 4 S (fun _ hs=>hs)<|?_
 refine R0 5 rfl<|gJ (ub (ut z (ut I (ui g (u1 aC (aI R a0) im)) (ac im (ac im aA))) (ac (nr a) (ac (ni i.size j) aA))) f) mZ fun d5 cq bH=>?_
 have bI:=ud bE (uz a0 bH) s
 refine bo (RC.fld (RC.upd bF bH (aa (Ne.symm (nb (aq f) lr a)) aF) bI)) fun cr=>Rt 6 cr<|re<|tn<|aX<|bJ cq (vI Q.endC.e)<|?_
 rw[hs]
 exact bu aO bI
 have aO:=az aN
 refine bj<|sg<|?_
 refine L0<|bN (be R (Ne.symm k) co)<|?_
 refine aG (ub (ut z (ut I (ui g (u1 aC R im)) (ac im (ac im aA))) (ac (nr a) (ac (ni i.size j) aA))) f) (mG c 0 0 0 0 0 0 0 ((ah.mk b false 0).wordV) 0 0 0 (.slice (some ⟨bw,0,none⟩) 1 1) nS nS nS 0 0 0 0 0 nS) fun d7 cs bK=>ai 1<|rt<|bJ cs (vI 0)<|?_
 rw[hs]
 exact bD aO ⟨_,_,_,_,_,rfl,((av Z (us ax (us R bK)) (fun x hx=>(aa (fun e=>(aL (aq a8) (le (le (le (le (le (le (le y.size r.size) B.size) o.size) g.size) P.size) F.size) Y.size) Z) (e▸hx)) (aa (fun e=>(aL (aq C) (le (le (le (le (le (le (le (le H.size y.size) r.size) B.size) o.size) g.size) P.size) F.size) Y.size) Z) (e▸hx)) (aa (fun e=>(aL (aq f) (le (le (le (le (le (le (le (le (le i.size H.size) y.size) r.size) B.size) o.size) g.size) P.size) F.size) Y.size) Z) (e▸hx)) aF)))) (fun _ _ h=>h))).rd,aS.nil ..,(fun _ _ _=>aS.nil ..),aS.nil ..,aS.nil ..,(cT (by omega))⟩ (ud bE bK s)
 have bW:=au D
 refine aE 3<|c1<|sk<|bn<|tn<|al 1<|?_
 have ct:RC w _ A cp b b1 q (ah.mk b false 0):=⟨hsl,U,(Nat.le_trans d.size a),⟨0,(ub a9 C),Nat.zero_le _,rfl⟩,by omega⟩
 refine ay<|m2 (eV ct) fun d9 aP a1=>nt<|sq<|al 3<|L0<|eu (p:=⟨q,3,none⟩) (v:=vI (((ah.mk b false 0).endC).e)) (RC.fld aP)<|ai 1<|?_
 have bL:=ud U a1 (le d.size a)
 have hs:aj bO 0 c b=bp (aU.mk c 0 0 0 0 0 0 0 0 0 0 0 [] [] [] [] 0 0 0 0 0 []) (ah.mk b false 0):=by
   unfold aj bO eT ee
   (try simp only[t,D,bi,dJ,dP,dL,dN,dO,reduceIte,lP,lL])
   all_goals rfl
 refine cb (((((ah.mk b false 0).endC).e)!=0)) (fun aQ=>?_) (fun aQ=>?_)
 have aT:=aB aQ
 refine sq<|Rg 7 (fun w'=>w'.cell? ⟨q,3,none⟩=some (vI (((ah.mk b false 0).endC).e))) fun da a2=>?_
 have bM:=RC.upd aP a2 aF (aH.step (RC.u aP) a2)
 refine bo (RC.fld bM) fun T=>Rt 0 T<|Rt 1 T<|Rt 2 T<|Rt 3 T<|Rl 4 T (fun _ hs=>hs)<|?_
 refine R0 5 rfl<|gJ (ub (ud z (aI a1 a2) a) f) mZ fun db cw bP=>?_
 have bQ:=ud bL (uz a2 bP) s
 refine bo (RC.fld (RC.upd bM bP (aa (Ne.symm (nb (aq f) lr a)) aF) bQ)) fun cx=>Rt 6 cx<|re<|tn<|aX<|bJ cw (vI (((ah.mk b false 0).endC).e))<|?_
 rw[hs]
 exact bu aT bQ
 have aT:=az aQ
 refine bj<|sg<|?_
 refine L0<|bN (be a1 (Ne.symm (nb (aq C) lr j)) b2)<|?_
 refine aG (ub (ud z a1 a) f) (mC c) fun dc cy cz=>ai 1<|rt<|bJ cy (vI 0)<|?_
 rw[hs]
 exact bD aT ⟨_,_,_,_,_,rfl,aS.nil ..,aS.nil ..,(fun _ _ _=>aS.nil ..),aS.nil ..,aS.nil ..,(cT (by omega))⟩ (ud bL cz s)
theorem nN{m:Md}{A:Option Addr}{cp:Nat}{b:List Int}{w:World}{c:Int}(hcode:B8 c)(hsl:aZ m w (.slice A b.length cp) b)(hb:b.length≤1048576) :
    Calls Tryz.prog 111 #[vI 1,vB c,.slice A b.length cp] w (cN (.slice A b.length cp) b (aj bO 1 c b) w):=by
 obtain⟨hcode1,hcode2⟩:=hcode
 have hln:(b.length:Int)≤1048576:=by omega
 refine en 197 Tryz.func111 rfl<|sg<|aK mZ fun fn fo k i d=>ai 1<|sq<|aE 6<|c0<|bj<|sq<|al 3<|cu 3 [24] 27 (((c != 7)&&(c != 8))) (fun K c1=>?_) ?_
 refine bl 24 ((c != 7)) (fun Q=>?_) (fun Q=>?_)
 have dx:=aB Q
 exact Pl 3<|ce c1 (c != 8) (by rw[Q];rfl)
 have dx:=az Q
 exact Pl 3<|ce c1 false (by rw[Q];rfl)
 refine Pl 1<|cu 3 [28] 31 ((((c != 7)&&(c != 8))&&(c != 11))) (fun K c2=>?_) ?_
 refine bl 28 (((c != 7)&&(c != 8))) (fun aY=>?_) (fun aY=>?_)
 exact Pl 3<|ce c2 (c != 11) (by rw[aY];rfl)
 exact Pl 3<|ce c2 false (by rw[aY];rfl)
 refine Pl 1<|cu 3 [32] 35 (((((c != 7)&&(c != 8))&&(c != 11))&&(c != 12))) (fun K c3=>?_) ?_
 refine bl 32 ((((c != 7)&&(c != 8))&&(c != 11))) (fun b0=>?_) (fun b0=>?_)
 exact Pl 3<|ce c3 (c != 12) (by rw[b0];rfl)
 exact Pl 3<|ce c3 false (by rw[b0];rfl)
 refine Pl 1<|cu 3 [36] 39 ((((((c != 7)&&(c != 8))&&(c != 11))&&(c != 12))&&(c != 17))) (fun K c4=>?_) ?_
 refine bl 36 (((((c != 7)&&(c != 8))&&(c != 11))&&(c != 12))) (fun b1=>?_) (fun b1=>?_)
 exact Pl 3<|ce c4 (c != 17) (by rw[b1];rfl)
 exact Pl 3<|ce c4 false (by rw[b1];rfl)
 refine nt<|cb ((((((c != 7)&&(c != 8))&&(c != 11))&&(c != 12))&&(c != 17))) (fun y=>?_) (fun y=>?_)
 have b2:=(bC y).1
 have dy:=(bC y).2
 have b3:=(bC b2).1
 have dz:=(bC b2).2
 have q23aaa:=(bC b3).1
 have q23aab:=(bC b3).2
 have q23aaaa:=(bC q23aaa).1
 have q23aaab:=(bC q23aaa).2
 refine al 1<|aG i mZ fun fp dA dB=>ai 1<|aX<|bJ dA (vI 4)<|?_
 exact cv (by unfold aj bO eT ee;(try simp only[y,b2,b3,q23aaa,q23aaaa,q23aaab,q23aab,dz,dy,bi,dJ,dP,dL,dN,dO,reduceIte,lP,lL])<;>rfl) (bG (ud d dB k))
 refine bj<|al 2<|L0<|d6 #[.slice A b.length cp,vI 0,.bool false,vI 0] fun j fq a r g=>Pl 1<|aM 2<|aK mZ fun fr fs f b4 R=>aG b4 (mC c) fun S T I=>?_
 refine nt<|sq<|bk<|aE 3<|?_
 have M:=ud R I f
 have o:=aI g M
 have z:=aI d o
 refine cb ((c==8)) (fun C=>?_) (fun C=>?_)
 have dC:=ag C
 refine al 1<|?_
 have dE:RC w _ A cp b S j (ah.mk b false 0):=⟨hsl,z,(Nat.le_trans d.size a),⟨0,(ub M r),Nat.zero_le _,rfl⟩,by omega⟩
 refine ay<|m3 (d8 dE) fun ft dF G fu=>Pl 1<|?_
 have B:=nb (aq r) lr f
 refine L0<|ci (be G (Ne.symm B) T) 8 (mG c 0 0 0 0 0 0 0 ((ah.mk b false 0).wordV) 0 0 0 nS nS nS nS 0 0 0 0 0 nS) fun dG b5 J=>aM 1<|aD b5 8<|ay<|m1 (CU (x:=(ah.mk b false 0).wordV) (w:=dG) (by omega)) fun fv D=>Pl 1<|aM 3<|cu 8 [72] 80 (((eU ((ah.mk b false 0).wordV))&&(((ah.mk b false 0).wordV)!=4))) (fun K c5=>?_) ?_
 refine bl 72 ((eU ((ah.mk b false 0).wordV))) (fun b6=>?_) (fun b6=>?_)
 refine Pl 1<|?_
 refine L1<|dD (ub D b5) 8<|Pl 2<|cu 3 [76] 79 ((((ah.mk b false 0).wordV)!=4)) (fun K c6=>?_) ?_
 refine bl 76 ((((ah.mk b false 0).wordV)!=4)) (fun U=>?_) (fun U=>?_)
 have dH:=aB U
 exact Pl 3<|ce c6 true U
 have dH:=az U
 exact Pl 3<|ce c6 false U
 exact Pl 1<|ce c5 (((ah.mk b false 0).wordV)!=4) (by rw[b6];rfl)
 exact Pl 8<|ce c5 false (by rw[b6];rfl)
 have c7:=aI J D
 have V:=us G c7
 have c8:=ut z V (ac (ni d.size a) (ac (ni (le d.size g.size) f) aA))
 refine ay<|m2 (bf (((eU ((ah.mk b false 0).wordV))&&(((ah.mk b false 0).wordV)!=4))) 8 (RC.upd dF c7 (aa B aF) c8)) fun fw dI s=>?_
 refine gL dI fun x70 c9 W=>?_
 refine nt<|sq<|al 1<|?_
 have b7:=be (uz D s) (Ne.symm B) b5
 refine aD b7 8<|ai 1<|?_
 have ca:=ud c8 s (le d.size a)
 refine cb ((((ah.mk b false 0).wordV)==0)) (fun X=>?_) (fun X=>?_)
 have dK:=ag X
 refine al 1<|ay<|m1 (jM W) fun fx N=>?_
 have fy:=RC.clen W
 refine Pl 1<|aM 2<|L0<|Oe (vI (Int.tmod (x70.l.length:Int) 2)) (vI ((x70.l.length:Int)%2)) (congrArg (Value.int .i64) (Int.tmod_eq_emod_of_nonneg (by omega)))<|Pl 2<|cu 3 [91] 94 (((((x70.l.length:Int)%2)==0)&&(decide (2≤(x70.l.length:Int))))) (fun K cc=>?_) ?_
 refine bl 91 ((((x70.l.length:Int)%2)==0)) (fun Y=>?_) (fun Y=>?_)
 have dM:=ag Y
 exact Pl 3<|ce cc (decide (2≤(x70.l.length:Int))) (by rw[Y];rfl)
 have dM:=au Y
 exact Pl 3<|ce cc false (by rw[Y];rfl)
 refine Pl 1<|cu 3 [95] 98 ((((((x70.l.length:Int)%2)==0)&&(decide (2≤(x70.l.length:Int))))&&(decide ((x70.l.length:Int)≤250)))) (fun K cd=>?_) ?_
 refine bl 95 (((((x70.l.length:Int)%2)==0)&&(decide (2≤(x70.l.length:Int))))) (fun b8=>?_) (fun b8=>?_)
 exact Pl 3<|ce cd (decide ((x70.l.length:Int)≤250)) (by rw[b8];rfl)
 exact Pl 3<|ce cd false (by rw[b8];rfl)
 refine ay<|m2 (bf ((((((x70.l.length:Int)%2)==0)&&(decide (2≤(x70.l.length:Int))))&&(decide ((x70.l.length:Int)≤250)))) 5 (RC.upd W N aF (aH.step (RC.u W) N))) fun fz dQ ao=>?_
 refine gL dQ fun x88 dR dS=>?_
 refine aM 2<|L0<|Oe (vI (IntKind.i64.wrap (Int.tdiv (x70.l.length:Int) 2))) (vI ((x70.l.length:Int)/2)) (congrArg (Value.int .i64) (gV (by omega) (by omega)))<|ay<|pu (gY (n:=((x70.l.length:Int)/2)) (by omega) dS) fun cf cg fA ap fB fC dT dU=>Pl 1<|?_
 have ch:=uz N (u1 ao dU im)
 refine L0<|ci (be ch (Ne.symm B) b7) 12 (mG c 0 0 0 0 0 0 0 ((ah.mk b false 0).wordV) 0 0 0 (.slice cf ((x88.wordsR ((x70.l.length:Int)/2)).length) cg) nS nS nS 0 0 0 0 0 nS) fun fD dV b9=>nt<|xt<|tx<|bx<|tn<|al 1<|?_
 have ba:=us ch b9
 have cj:=ut ca ba (ac (ni d.size a) (ac (ni (le d.size g.size) f) aA))
 refine ay<|m2 (eV (RC.upd dT b9 (aa B aF) cj)) fun fE bb Z=>nt<|sq<|al 3<|L0<|eu (p:=⟨j,3,none⟩) (v:=vI (((x88.wordsC ((x70.l.length:Int)/2)).endC).e)) (RC.fld bb)<|ai 1<|?_
 have ck:=ud cj Z (le d.size a)
 have hs:aj bO 1 c b=bp (aU.mk c 0 0 0 0 0 0 0 ((ah.mk b false 0).wordV) 0 0 0 (x88.wordsR ((x70.l.length:Int)/2)) [] [] [] 0 0 0 0 0 []) (x88.wordsC ((x70.l.length:Int)/2)):=by
   subst dR c9
   unfold aj bO eT ee
   (try simp only[y,C,X,bi,dJ,dP,dL,dN,dO,reduceIte,lP,lL])
   all_goals rfl
 refine cb (((((x88.wordsC ((x70.l.length:Int)/2)).endC).e)!=0)) (fun bc=>?_) (fun bc=>?_)
 have bd:=aB bc
 refine sq<|Rg 7 (fun w'=>w'.cell? ⟨j,3,none⟩=some (vI (((x88.wordsC ((x70.l.length:Int)/2)).endC).e))) fun fF ar=>?_
 have cl:=RC.upd bb ar aF (aH.step (RC.u bb) ar)
 refine bo (RC.fld cl) fun a0=>Rt 0 a0<|Rt 1 a0<|Rt 2 a0<|Rt 3 a0<|Rl 4 a0 (fun _ hs=>hs)<|?_
 refine R0 5 rfl<|gJ (ub (ut o (ut V (ui s (u1 ba (aI Z ar) im)) (ac im (ac im aA))) (ac (nr a) (ac (ni g.size f) aA))) i) mZ fun fG dW cm=>?_
 have cn:=ud ck (uz ar cm) k
 refine bo (RC.fld (RC.upd cl cm (aa (Ne.symm (nb (aq i) lr a)) aF) cn)) fun dX=>Rt 6 dX<|re<|tn<|aX<|bJ dW (vI (((x88.wordsC ((x70.l.length:Int)/2)).endC).e))<|?_
 rw[hs]
 exact bu bd cn
 have bd:=az bc
 refine bj<|sg<|?_
 refine L0<|bN (be Z (Ne.symm B) dV)<|?_
 refine aG (ub (ut o (ut V (ui s (u1 ba Z im)) (ac im (ac im aA))) (ac (nr a) (ac (ni g.size f) aA))) i) (mG c 0 0 0 0 0 0 0 ((ah.mk b false 0).wordV) 0 0 0 (.slice cf ((x88.wordsR ((x70.l.length:Int)/2)).length) cg) nS nS nS 0 0 0 0 0 nS) fun fH dY co=>ai 1<|rt<|bJ dY (vI 0)<|?_
 rw[hs]
 exact bD bd ⟨_,_,_,_,_,rfl,((av ap (us b9 (us Z co)) (fun x hx=>(aa (fun e=>(aL (aq b4) (le (le (le (le (le (le I.size G.size) J.size) D.size) s.size) N.size) ao.size) ap) (e▸hx)) (aa (fun e=>(aL (aq r) (le (le (le (le (le (le (le R.size I.size) G.size) J.size) D.size) s.size) N.size) ao.size) ap) (e▸hx)) (aa (fun e=>(aL (aq i) (le (le (le (le (le (le (le (le g.size R.size) I.size) G.size) J.size) D.size) s.size) N.size) ao.size) ap) (e▸hx)) aF)))) (fun _ _ h=>h))).rd,aS.nil ..,(fun _ _ _=>aS.nil ..),aS.nil ..,aS.nil ..,(cT (by omega))⟩ (ud ck co k)
 have dK:=au X
 refine bj<|al 1<|ay<|m3 (d8 W) fun dZ cq a1 fI=>Pl 1<|aM 3<|?_
 have cr:=be a1 (Ne.symm B) b7
 refine aD cr 8<|Pl 1<|ay<|m1 (Dc (dir:=1) (sub:=(ah.mk b false 0).wordV) (v:=x70.wordV) (w:=dZ) (by omega)) fun fJ O=>?_
 refine ay<|m2 (bf ((gX 1 ((ah.mk b false 0).wordV) x70.wordV)) 6 (RC.upd cq O aF (aH.step (RC.u cq) O))) fun fK e0 aw=>?_
 refine gL e0 fun a2 e1 e2=>?_
 refine nt<|go<|Pl 1<|L0<|cY (m:=1) (e:=37) #[vW x70.wordV] fun cs fL e3 e4 ct=>?_
 have ax:=eB e3 (xs:=[x70.wordV]) (by as_aux_lemma=>kernel_rfl) (am (by omega) aR) (by(try simp only[List.length_cons,List.length_nil]);omega) e4
 refine Pl 1<|?_
 have cw:=uz O (aI aw ct)
 refine L0<|ci (be cw (Ne.symm B) cr) 12 (mG c 0 0 0 0 0 0 0 ((ah.mk b false 0).wordV) 0 0 0 (.slice (some ⟨cs,0,none⟩) 1 1) nS nS nS 0 0 0 0 0 nS) fun fM e5 bg=>nl<|bn<|tn<|al 1<|?_
 have bh:=ui a1 (us cw bg)
 have cx:=ut ca bh (ac (ni d.size a) (ac (ni (le d.size g.size) f) aA))
 refine ay<|m2 (eV (RC.upd e2 (uz ct bg) (aa B aF) cx)) fun fN bm a3=>nt<|sq<|al 3<|L0<|eu (p:=⟨j,3,none⟩) (v:=vI a2.endC.e) (RC.fld bm)<|ai 1<|?_
 have cy:=ud cx a3 (le d.size a)
 have hs:aj bO 1 c b=bp (aU.mk c 0 0 0 0 0 0 0 ((ah.mk b false 0).wordV) 0 0 0 [x70.wordV] [] [] [] 0 0 0 0 0 []) a2:=by
   subst e1 c9
   unfold aj bO eT ee
   (try simp only[y,C,X,bi,dJ,dP,dL,dN,dO,reduceIte,lP,lL])
   all_goals rfl
 refine cb ((a2.endC.e != 0)) (fun br=>?_) (fun br=>?_)
 have bs:=aB br
 refine sq<|Rg 7 (fun w'=>w'.cell? ⟨j,3,none⟩=some (vI a2.endC.e)) fun fO aC=>?_
 have cz:=RC.upd bm aC aF (aH.step (RC.u bm) aC)
 refine bo (RC.fld cz) fun a4=>Rt 0 a4<|Rt 1 a4<|Rt 2 a4<|Rt 3 a4<|Rl 4 a4 (fun _ hs=>hs)<|?_
 refine R0 5 rfl<|gJ (ub (ut o (ut V (ui s (u1 bh (aI a3 aC) im)) (ac im (ac im aA))) (ac (nr a) (ac (ni g.size f) aA))) i) mZ fun fP e6 cA=>?_
 have cB:=ud cy (uz aC cA) k
 refine bo (RC.fld (RC.upd cz cA (aa (Ne.symm (nb (aq i) lr a)) aF) cB)) fun e7=>Rt 6 e7<|re<|tn<|aX<|bJ e6 (vI a2.endC.e)<|?_
 rw[hs]
 exact bu bs cB
 have bs:=az br
 refine bj<|sg<|?_
 refine L0<|bN (be a3 (Ne.symm B) e5)<|?_
 refine aG (ub (ut o (ut V (ui s (u1 bh a3 im)) (ac im (ac im aA))) (ac (nr a) (ac (ni g.size f) aA))) i) (mG c 0 0 0 0 0 0 0 ((ah.mk b false 0).wordV) 0 0 0 (.slice (some ⟨cs,0,none⟩) 1 1) nS nS nS 0 0 0 0 0 nS) fun fQ e8 cC=>ai 1<|rt<|bJ e8 (vI 0)<|?_
 rw[hs]
 exact bD bs ⟨_,_,_,_,_,rfl,((av ax (us bg (us a3 cC)) (fun x hx=>(aa (fun e=>(aL (aq b4) (le (le (le (le (le (le (le I.size G.size) J.size) D.size) s.size) a1.size) O.size) aw.size) ax) (e▸hx)) (aa (fun e=>(aL (aq r) (le (le (le (le (le (le (le (le R.size I.size) G.size) J.size) D.size) s.size) a1.size) O.size) aw.size) ax) (e▸hx)) (aa (fun e=>(aL (aq i) (le (le (le (le (le (le (le (le (le g.size R.size) I.size) G.size) J.size) D.size) s.size) a1.size) O.size) aw.size) ax) (e▸hx)) aF)))) (fun _ _ h=>h))).rd,aS.nil ..,(fun _ _ _=>aS.nil ..),aS.nil ..,aS.nil ..,(cT (by omega))⟩ (ud cy cC k)
 have dC:=au C
 refine aE 3<|c0<|aE 3<|cb ((c==7)) (fun L=>?_) (fun L=>?_)
 have e9:=ag L
 refine go<|Pl 1<|?_
 have ea:RC w _ A cp b S j (ah.mk b false 0):=⟨hsl,z,(Nat.le_trans d.size a),⟨0,(ub M r),Nat.zero_le _,rfl⟩,by omega⟩
 refine ay<|m3 (eF ea) fun fR eb cD fS=>L0<|BA ((ah.mk b false 0).byteV)<|Pl 1<|?_
 have bt:=nb (aq r) lr f
 refine L0<|ci (be cD (Ne.symm bt) T) 4 (mG c 0 0 0 ((ah.mk b false 0).byteV) 0 0 0 0 0 0 0 nS nS nS nS 0 0 0 0 0 nS) fun fT ec cE=>nl<|bn<|tn<|al 1<|?_
 have bv:=us cD cE
 have cF:=ut z bv (ac (ni d.size a) (ac (ni (le d.size g.size) f) aA))
 refine ay<|m2 (eV (RC.upd eb cE (aa bt aF) cF)) fun fU bw aJ=>nt<|sq<|al 3<|L0<|eu (p:=⟨j,3,none⟩) (v:=vI ((((ah.mk b false 0).bytesC 1).endC).e)) (RC.fld bw)<|ai 1<|?_
 have cG:=ud cF aJ (le d.size a)
 have hs:aj bO 1 c b=bp (aU.mk c 0 0 0 ((ah.mk b false 0).byteV) 0 0 0 0 0 0 0 [] [] [] [] 0 0 0 0 0 []) ((ah.mk b false 0).bytesC 1):=by
   unfold aj bO eT ee
   (try simp only[y,C,L,bi,dJ,dP,dL,dN,dO,reduceIte,lP,lL])
   all_goals rfl
 refine cb ((((((ah.mk b false 0).bytesC 1).endC).e)!=0)) (fun bz=>?_) (fun bz=>?_)
 have bA:=aB bz
 refine sq<|Rg 7 (fun w'=>w'.cell? ⟨j,3,none⟩=some (vI ((((ah.mk b false 0).bytesC 1).endC).e))) fun fV aN=>?_
 have cH:=RC.upd bw aN aF (aH.step (RC.u bw) aN)
 refine bo (RC.fld cH) fun a5=>Rt 0 a5<|Rt 1 a5<|Rt 2 a5<|Rt 3 a5<|Rl 4 a5 (fun _ hs=>hs)<|?_
 refine R0 5 rfl<|gJ (ub (ut o (u1 bv (aI aJ aN) im) (ac (nr a) (ac (ni g.size f) aA))) i) mZ fun fW ed cI=>?_
 have cJ:=ud cG (uz aN cI) k
 refine bo (RC.fld (RC.upd cH cI (aa (Ne.symm (nb (aq i) lr a)) aF) cJ)) fun ef=>Rt 6 ef<|re<|tn<|aX<|bJ ed (vI ((((ah.mk b false 0).bytesC 1).endC).e))<|?_
 rw[hs]
 exact bu bA cJ
 have bA:=az bz
 refine bj<|sg<|?_
 refine L0<|bN (be aJ (Ne.symm bt) ec)<|?_
 refine aG (ub (ut o (u1 bv aJ im) (ac (nr a) (ac (ni g.size f) aA))) i) (mG c 0 0 0 ((ah.mk b false 0).byteV) 0 0 0 0 0 0 0 nS nS nS nS 0 0 0 0 0 nS) fun fX eg eh=>ai 1<|rt<|bJ eg (vI 0)<|?_
 rw[hs]
 exact bD bA ⟨_,_,_,_,_,rfl,aS.nil ..,aS.nil ..,(fun _ _ _=>aS.nil ..),aS.nil ..,aS.nil ..,(cT (by omega))⟩ (ud cG eh k)
 have e9:=au L
 refine aE 3<|cb ((c==11)) (fun P=>?_) (fun P=>?_)
 have ei:=ag P
 refine al 1<|?_
 have ej:RC w _ A cp b S j (ah.mk b false 0):=⟨hsl,z,(Nat.le_trans d.size a),⟨0,(ub M r),Nat.zero_le _,rfl⟩,by omega⟩
 refine ay<|m3 (d8 ej) fun fY ek cK fZ=>Pl 1<|?_
 have a6:=nb (aq r) lr f
 refine L0<|ci (be cK (Ne.symm a6) T) 9 (mG c 0 0 0 0 0 0 0 0 ((ah.mk b false 0).wordV) 0 0 nS nS nS nS 0 0 0 0 0 nS) fun g0 bB cL=>aM 2<|aD bB 9<|Pl 2<|cu 4 [137] 141 (((((ah.mk b false 0).wordV)==0)||(((ah.mk b false 0).wordV)==65535))) (fun K cM=>?_) ?_
 refine bl 137 ((((ah.mk b false 0).wordV)==0)) (fun a7=>?_) (fun a7=>?_)
 have el:=ag a7
 exact Pl 4<|ce cM true (by rw[a7];rfl)
 have el:=au a7
 exact Pl 1<|L1<|dD bB 9<|Pl 2<|ce cM (((ah.mk b false 0).wordV)==65535) (by rw[a7];rfl)
 have bE:=us cK cL
 have cO:=ut z bE (ac (ni d.size a) (ac (ni (le d.size g.size) f) aA))
 refine ay<|m2 (bf (((((ah.mk b false 0).wordV)==0)||(((ah.mk b false 0).wordV)==65535))) 6 (RC.upd ek cL (aa a6 aF) cO)) fun g1 em eo=>?_
 refine gL em fun H ep eq=>?_
 refine nt<|go<|Pl 1<|ay<|m3 (d8 eq) fun g2 er es g3=>Pl 1<|?_
 have cP:=u1 eo es im
 refine L0<|ci (be cP (Ne.symm a6) bB) 10 (mG c 0 0 0 0 0 0 0 0 ((ah.mk b false 0).wordV) H.wordV 0 nS nS nS nS 0 0 0 0 0 nS) fun g4 et cQ=>nl<|bn<|tn<|al 1<|?_
 have bF:=us cP cQ
 have cR:=ut cO bF (ac (ni d.size a) (ac (ni (le d.size g.size) f) aA))
 refine ay<|m2 (eV (RC.upd er cQ (aa a6 aF) cR)) fun g5 bH aO=>nt<|sq<|al 3<|L0<|eu (p:=⟨j,3,none⟩) (v:=vI (((H.wordsC 1).endC).e)) (RC.fld bH)<|ai 1<|?_
 have cS:=ud cR aO (le d.size a)
 have hs:aj bO 1 c b=bp (aU.mk c 0 0 0 0 0 0 0 0 ((ah.mk b false 0).wordV) H.wordV 0 [] [] [] [] 0 0 0 0 0 []) (H.wordsC 1):=by
   subst ep
   unfold aj bO eT ee
   (try simp only[y,C,L,P,bi,dJ,dP,dL,dN,dO,reduceIte,lP,lL])
   all_goals rfl
 refine cb (((((H.wordsC 1).endC).e)!=0)) (fun bI=>?_) (fun bI=>?_)
 have bK:=aB bI
 refine sq<|Rg 7 (fun w'=>w'.cell? ⟨j,3,none⟩=some (vI (((H.wordsC 1).endC).e))) fun g6 aP=>?_
 have cU:=RC.upd bH aP aF (aH.step (RC.u bH) aP)
 refine bo (RC.fld cU) fun a8=>Rt 0 a8<|Rt 1 a8<|Rt 2 a8<|Rt 3 a8<|Rl 4 a8 (fun _ hs=>hs)<|?_
 refine R0 5 rfl<|gJ (ub (ut o (ut bE (u1 bF (aI aO aP) im) (ac im (ac im aA))) (ac (nr a) (ac (ni g.size f) aA))) i) mZ fun g7 ev cV=>?_
 have cW:=ud cS (uz aP cV) k
 refine bo (RC.fld (RC.upd cU cV (aa (Ne.symm (nb (aq i) lr a)) aF) cW)) fun ew=>Rt 6 ew<|re<|tn<|aX<|bJ ev (vI (((H.wordsC 1).endC).e))<|?_
 rw[hs]
 exact bu bK cW
 have bK:=az bI
 refine bj<|sg<|?_
 refine L0<|bN (be aO (Ne.symm a6) et)<|?_
 refine aG (ub (ut o (ut bE (u1 bF aO im) (ac im (ac im aA))) (ac (nr a) (ac (ni g.size f) aA))) i) (mG c 0 0 0 0 0 0 0 0 ((ah.mk b false 0).wordV) H.wordV 0 nS nS nS nS 0 0 0 0 0 nS) fun g8 ex ey=>ai 1<|rt<|bJ ex (vI 0)<|?_
 rw[hs]
 exact bD bK ⟨_,_,_,_,_,rfl,aS.nil ..,aS.nil ..,(fun _ _ _=>aS.nil ..),aS.nil ..,aS.nil ..,(cT (by omega))⟩ (ud cS ey k)
 have ei:=au P
 refine aE 3<|cb ((c==12)) (fun a9=>?_) (fun a9=>?_)
 have ez:=ag a9
 refine al 1<|?_
 have eA:RC w _ A cp b S j (ah.mk b false 0):=⟨hsl,z,(Nat.le_trans d.size a),⟨0,(ub M r),Nat.zero_le _,rfl⟩,by omega⟩
 refine ay<|m3 (eF eA) fun g9 eC eD ga=>bq ((ah.mk b false 0).byteV)<|Pl 1<|aM 4<|cu 3 [155] 158 (((decide (6≤((ah.mk b false 0).byteV)))&&(decide (((ah.mk b false 0).byteV)≤70)))) (fun K cX=>?_) ?_
 refine bl 155 ((decide (6≤((ah.mk b false 0).byteV)))) (fun ab=>?_) (fun ab=>?_)
 have eE:=of_decide_eq_true ab
 exact Pl 3<|ce cX (decide (((ah.mk b false 0).byteV)≤70)) (by rw[ab];rfl)
 have eE:=of_decide_eq_false ab
 exact Pl 3<|ce cX false (by rw[ab];rfl)
 refine ay<|m2 (bf (((decide (6≤((ah.mk b false 0).byteV)))&&(decide (((ah.mk b false 0).byteV)≤70)))) 5 eC) fun gb eG eH=>?_
 refine gL eG fun t eI eJ=>?_
 refine aM 1<|ay<|m3 (d8 eJ) fun gc eK eL gd=>Pl 1<|?_
 have cZ:=u1 eD (u1 eH eL im) im
 have E:=nb (aq r) lr f
 refine L0<|ci (be cZ (Ne.symm E) T) 9 (mG c 0 0 0 0 0 0 0 0 t.wordV 0 0 nS nS nS nS 0 0 0 0 0 nS) fun ge bL d0=>aM 2<|aD bL 9<|Pl 2<|cu 4 [167] 171 (((t.wordV==0)||(t.wordV==65535))) (fun K d1=>?_) ?_
 refine bl 167 ((t.wordV==0)) (fun ad=>?_) (fun ad=>?_)
 have eM:=ag ad
 exact Pl 4<|ce d1 true (by rw[ad];rfl)
 have eM:=au ad
 exact Pl 1<|L1<|dD bL 9<|Pl 2<|ce d1 (t.wordV==65535) (by rw[ad];rfl)
 have bM:=us cZ d0
 have d2:=ut z bM (ac (ni d.size a) (ac (ni (le d.size g.size) f) aA))
 refine ay<|m2 (bf (((t.wordV==0)||(t.wordV==65535))) 6 (RC.upd eK d0 (aa E aF) d2)) fun gf eN eO=>?_
 refine gL eN fun q eP eQ=>?_
 refine aM 1<|ay<|m3 (d8 eQ) fun gg eR eS gh=>Pl 1<|?_
 have d3:=u1 eO eS im
 refine L0<|ci (be d3 (Ne.symm E) bL) 10 (mG c 0 0 0 0 0 0 0 0 t.wordV q.wordV 0 nS nS nS nS 0 0 0 0 0 nS) fun gi eW d4=>aM 1<|?_
 have bP:=us d3 d4
 have d5:=ut d2 bP (ac (ni d.size a) (ac (ni (le d.size g.size) f) aA))
 refine ay<|m3 (d8 (RC.upd eR d4 (aa E aF) d5)) fun gj eX d7 gk=>Pl 1<|?_
 refine L0<|ci (be d7 (Ne.symm E) eW) 11 (mG c 0 0 0 0 0 0 0 0 t.wordV q.wordV ((q.wordsC 1).wordV) nS nS nS nS 0 0 0 0 0 nS) fun gl eY d9=>nt<|go<|Pl 2<|bq (((ah.mk b false 0).byteV)-6)<|?_
 have bQ:=us d7 d9
 have da:=ut d5 bQ (ac (ni d.size a) (ac (ni (le d.size g.size) f) aA))
 have db:=RC.upd eX d9 (aa E aF) da
 refine ay<|s7 (gB (n:=(((ah.mk b false 0).byteV)-6)) (by omega) db) fun dc dd gm eZ f0 de=>?_
 have gn:=Nat.le_trans (ah.bytesR_le ((q.wordsC 1).wordsC 1) (((ah.mk b false 0).byteV)-6)) (RC.clen db)
 refine gL f0 fun ae f1 f2=>?_
 refine Pl 1<|?_
 refine L0<|ci (be de (Ne.symm E) eY) 14 (mG c 0 0 0 0 0 0 0 0 t.wordV q.wordV ((q.wordsC 1).wordV) nS nS (.slice dc ((((q.wordsC 1).wordsC 1).bytesR (((ah.mk b false 0).byteV)-6)).length) dd) nS 0 0 0 0 0 nS) fun gp f3 df=>nl<|bn<|tn<|al 1<|?_
 have bR:=us de df
 have dg:=ut da bR (ac (ni d.size a) (ac (ni (le d.size g.size) f) aA))
 refine ay<|m2 (eV (RC.upd f2 df (aa E aF) dg)) fun gq bS aQ=>nt<|sq<|al 3<|L0<|eu (p:=⟨j,3,none⟩) (v:=vI ae.endC.e) (RC.fld bS)<|ai 1<|?_
 have dh:=ud dg aQ (le d.size a)
 have hs:aj bO 1 c b=bp (aU.mk c 0 0 0 0 0 0 0 0 t.wordV q.wordV ((q.wordsC 1).wordV) [] [] (((q.wordsC 1).wordsC 1).bytesR (((ah.mk b false 0).byteV)-6)) [] 0 0 0 0 0 []) ae:=by
   subst f1 eP eI
   unfold aj bO eT ee
   (try simp only[y,C,L,P,a9,bi,dJ,dP,dL,dN,dO,reduceIte,lP,lL])
   all_goals rfl
 refine cb ((ae.endC.e != 0)) (fun bT=>?_) (fun bT=>?_)
 have bU:=aB bT
 refine sq<|Rg 7 (fun w'=>w'.cell? ⟨j,3,none⟩=some (vI ae.endC.e)) fun gr aT=>?_
 have di:=RC.upd bS aT aF (aH.step (RC.u bS) aT)
 refine bo (RC.fld di) fun af=>Rt 0 af<|Rt 1 af<|Rt 2 af<|Rt 3 af<|Rl 4 af (fun _ hs=>hs)<|?_
 refine R0 5 rfl<|gJ (ub (ut o (ut bM (ut bP (ut bQ (u1 bR (aI aQ aT) im) (ac im (ac im aA))) (ac im (ac im aA))) (ac im (ac im aA))) (ac (nr a) (ac (ni g.size f) aA))) i) mZ fun gs f4 dj=>?_
 have dk:=ud dh (uz aT dj) k
 refine bo (RC.fld (RC.upd di dj (aa (Ne.symm (nb (aq i) lr a)) aF) dk)) fun f5=>Rt 6 f5<|re<|tn<|aX<|bJ f4 (vI ae.endC.e)<|?_
 rw[hs]
 exact bu bU dk
 have bU:=az bT
 refine bj<|sg<|?_
 refine L0<|bN (be aQ (Ne.symm E) f3)<|?_
 refine aG (ub (ut o (ut bM (ut bP (ut bQ (u1 bR aQ im) (ac im (ac im aA))) (ac im (ac im aA))) (ac im (ac im aA))) (ac (nr a) (ac (ni g.size f) aA))) i) (mG c 0 0 0 0 0 0 0 0 t.wordV q.wordV ((q.wordsC 1).wordV) nS nS (.slice dc ((((q.wordsC 1).wordsC 1).bytesR (((ah.mk b false 0).byteV)-6)).length) dd) nS 0 0 0 0 0 nS) fun gt f6 f7=>ai 1<|rt<|bJ f6 (vI 0)<|?_
 rw[hs]
 exact bD bU ⟨_,_,_,_,_,rfl,aS.nil ..,aS.nil ..,eZ,aS.nil ..,aS.nil ..,(cT (by omega))⟩ (ud dh f7 k)
 have ez:=au a9
 refine al 1<|?_
 have f8:RC w _ A cp b S j (ah.mk b false 0):=⟨hsl,z,(Nat.le_trans d.size a),⟨0,(ub M r),Nat.zero_le _,rfl⟩,by omega⟩
 refine ay<|m3 (eF f8) fun gu f9 fa gv=>bq ((ah.mk b false 0).byteV)<|Pl 1<|aM 4<|cu 3 [52] 55 (((decide (1≤((ah.mk b false 0).byteV)))&&(decide (((ah.mk b false 0).byteV)≤251)))) (fun K dl=>?_) ?_
 refine bl 52 ((decide (1≤((ah.mk b false 0).byteV)))) (fun ak=>?_) (fun ak=>?_)
 have fb:=of_decide_eq_true ak
 exact Pl 3<|ce dl (decide (((ah.mk b false 0).byteV)≤251)) (by rw[ak];rfl)
 have fb:=of_decide_eq_false ak
 exact Pl 3<|ce dl false (by rw[ak];rfl)
 refine ay<|m2 (bf (((decide (1≤((ah.mk b false 0).byteV)))&&(decide (((ah.mk b false 0).byteV)≤251)))) 5 f9) fun gw fc fd=>?_
 refine gL fc fun F fe dm=>?_
 refine nt<|go<|Pl 2<|ay<|s7 (gB (n:=(ah.mk b false 0).byteV) (by omega) dm) fun dn dp gx ff fg fh=>?_
 have gy:=Nat.le_trans (ah.bytesR_le F ((ah.mk b false 0).byteV)) (RC.clen dm)
 refine Pl 1<|?_
 have dq:=u1 fa (u1 fd fh im) im
 have bV:=nb (aq r) lr f
 refine L0<|ci (be dq (Ne.symm bV) T) 14 (mG c 0 0 0 0 0 0 0 0 0 0 0 nS nS (.slice dn ((F.bytesR ((ah.mk b false 0).byteV)).length) dp) nS 0 0 0 0 0 nS) fun gz fi dr=>nl<|bn<|tn<|al 1<|?_
 have bW:=us dq dr
 have ds:=ut z bW (ac (ni d.size a) (ac (ni (le d.size g.size) f) aA))
 refine ay<|m2 (eV (RC.upd fg dr (aa bV aF) ds)) fun gA bX aV=>nt<|sq<|al 3<|L0<|eu (p:=⟨j,3,none⟩) (v:=vI (((F.bytesC ((ah.mk b false 0).byteV)).endC).e)) (RC.fld bX)<|ai 1<|?_
 have dt:=ud ds aV (le d.size a)
 have hs:aj bO 1 c b=bp (aU.mk c 0 0 0 0 0 0 0 0 0 0 0 [] [] (F.bytesR ((ah.mk b false 0).byteV)) [] 0 0 0 0 0 []) (F.bytesC ((ah.mk b false 0).byteV)):=by
   subst fe
   unfold aj bO eT ee
   (try simp only[y,C,L,P,a9,bi,dJ,dP,dL,dN,dO,reduceIte,lP,lL])
   all_goals rfl
 refine cb (((((F.bytesC ((ah.mk b false 0).byteV)).endC).e)!=0)) (fun bY=>?_) (fun bY=>?_)
 have bZ:=aB bY
 refine sq<|Rg 7 (fun w'=>w'.cell? ⟨j,3,none⟩=some (vI (((F.bytesC ((ah.mk b false 0).byteV)).endC).e))) fun gC aW=>?_
 have du:=RC.upd bX aW aF (aH.step (RC.u bX) aW)
 refine bo (RC.fld du) fun an=>Rt 0 an<|Rt 1 an<|Rt 2 an<|Rt 3 an<|Rl 4 an (fun _ hs=>hs)<|?_
 refine R0 5 rfl<|gJ (ub (ut o (u1 bW (aI aV aW) im) (ac (nr a) (ac (ni g.size f) aA))) i) mZ fun gD fj dv=>?_
 have dw:=ud dt (uz aW dv) k
 refine bo (RC.fld (RC.upd du dv (aa (Ne.symm (nb (aq i) lr a)) aF) dw)) fun fk=>Rt 6 fk<|re<|tn<|aX<|bJ fj (vI (((F.bytesC ((ah.mk b false 0).byteV)).endC).e))<|?_
 rw[hs]
 exact bu bZ dw
 have bZ:=az bY
 refine bj<|sg<|?_
 refine L0<|bN (be aV (Ne.symm bV) fi)<|?_
 refine aG (ub (ut o (u1 bW aV im) (ac (nr a) (ac (ni g.size f) aA))) i) (mG c 0 0 0 0 0 0 0 0 0 0 0 nS nS (.slice dn ((F.bytesR ((ah.mk b false 0).byteV)).length) dp) nS 0 0 0 0 0 nS) fun gE fl fm=>ai 1<|rt<|bJ fl (vI 0)<|?_
 rw[hs]
 exact bD bZ ⟨_,_,_,_,_,rfl,aS.nil ..,aS.nil ..,ff,aS.nil ..,aS.nil ..,(cT (by omega))⟩ (ud dt fm k)
theorem nF{m:Md}{A:Option Addr}{cp:Nat}{b:List Int}{w:World}{dir c:Int}(hcode:B8 c)(hsl:aZ m w (.slice A b.length cp) b)(hb:b.length≤1048576)(hd:¬ (dir=0∨dir=1)) :
    Calls Tryz.prog 111 #[vI dir,vB c,.slice A b.length cp] w (cN (.slice A b.length cp) b (aj bO dir c b) w):=by
 obtain⟨hcode1,hcode2⟩:=hcode
 have hln:(b.length:Int)≤1048576:=by omega
 have e0:(dir != 0)=true:=by simp;omega
 have e1:(dir != 1)=true:=by simp;omega
 refine en 197 Tryz.func111 rfl<|sg<|aK mZ fun g h a d e=>ai 1<|sq<|al 3<|sy 17 e0<|Pl 3<|nl<|tn<|ct e1<|al 1<|aG d mZ fun i eN f=>ai 1<|aX<|bJ eN (vI 1)<|?_
 exact cv (by unfold aj bO eT ee;(try simp only[e0,e1,bi,dJ,dP,dL,dN,dO,reduceIte,hd,lP,lL])<;>rfl) (bG (ud e f a))
open Go.RowKit
theorem eQ{C:ah}{ok:Bool}{x:Int}(h:C.e≠0) : C.need ok x=C:=by
  unfold ah.need
  rw[if_neg fun k=>h k.1]
theorem fP{C:ah}{n:Int}(h:C.fails n=true) : (C.bytesC n).e≠0:=by
  unfold ah.bytesC
  rw[if_pos h]
  unfold ah.need
  split
  · exact(show(2:Int)≠0 from by decide)
  · rename_i k
    intro e
    exact k ⟨e,rfl⟩
theorem pG{C:ah}(h:(C.wordsR 1).length≠1) : (C.wordsC 1).e≠0:=by
  unfold ah.wordsR at h
  unfold ah.wordsC
  split
  · exact fP (by unfold ah.fails;simp)
  · rename_i hb
    rw[if_neg hb] at h
    by_cases hf:C.fails (2*1)=true
    · exact fP hf
    · exfalso
      apply h
      unfold ah.bytesR
      rw[if_neg hf]
      unfold ah.fails at hf
      simp only[Bool.or_eq_true,decide_eq_true_eq,not_or] at hf
      rcases e:C.l with _|⟨a,_|⟨b,t⟩⟩
      · rw[e] at hf;simp at hf
      · rw[e] at hf;simp at hf
      · show(cz [a,b]).length=1
        unfold cz
        rw[if_pos (by simp)]
        simp[dB]
theorem tc{C:ah}(h:(C.wordsR 1).length=1) : [C.wordV]=C.wordsR 1:=by
  unfold ah.wordV
  rcases e:C.wordsR 1 with _|⟨a,_|⟨b,t⟩⟩
  · rw[e] at h;simp at h
  · rfl
  · rw[e] at h;simp at h
theorem vT{M M':aU}{C:ah}(h:C.e≠0) : bp M C=bp M' C:=by
  unfold bp
  have e:C.endC.e≠0:=by unfold ah.endC;rw[eQ h];exact h
  rw[if_neg e,if_neg e]
theorem vy(dir:Int)(C:ah) : fA dir C=fu dir C:=by
  unfold fA fu
  rw[Bool.or_comm]
theorem we(dir c:Int)(C:ah) : bp (eT dir c C).2 (eT dir c C).1=bp (eD dir c C).2 (eD dir c C).1:=by
  unfold eT eD
  rw[vy]
  by_cases h0:C.wordV=0
  · rw[h0,if_pos (show((0:Int)==0)=true from rfl),if_neg (show ¬ ((0:Int)!=0)=true from by decide)]
  · rw[if_neg (by simpa using h0),if_pos (by simpa using h0)]
    by_cases h1:((fu dir C).wordsR 1).length=1
    · rw[tc h1,show((((fu dir C).wordsR 1).length:Int)==1)=true from by rw[h1];rfl,Bool.true_and]
      rfl
    · have k:=pG h1
      dsimp only
      rw[eQ k,eQ k]
      exact vT k
theorem nU{f f':Int→Int→ah→Option (ah × aU)}{dir c:Int}{b:List Int}(h:∀ C,(dir=0∨dir=1)→(f dir c C=none∧f' dir c C=none)∨∃ r r',f dir c C=some r∧f' dir c C=some r'∧bp r.2 r.1=bp r'.2 r'.1) : aj f dir c b=aj f' dir c b:=by
  unfold aj
  split
  · rename_i hd
    rcases h ⟨b,false,0⟩ hd with⟨h1,h2⟩|⟨r,r',h1,h2,h3⟩
    · rw[h1,h2]
    · rw[h1,h2];exact h3
  · rfl
theorem pL(dir c:Int)(b:List Int) : aj bO dir c b=aj bg dir c b:=by
  refine nU fun C hd=>?_
  unfold bO bg
  by_cases h8:c=8
  · subst h8
    exact .inr ⟨_,_,rfl,rfl,we dir 8 C⟩
  · by_cases h:c=7∨c=11∨c=12∨c=17
    · refine .inr ?_
      rw[if_neg (show ¬ (((((c != 7)&&(c != 8))&&(c != 11))&&(c != 12))&&(c != 17))=true from by rcases h with rfl | rfl | rfl | rfl<;>decide),if_neg (show ¬ (c==8)=true from by simpa using h8),if_neg (show ¬ (c==8)=true from by simpa using h8),if_pos (show(c==7 || c==11 || c==12 || c==17)=true from by rcases h with rfl | rfl | rfl | rfl<;>decide)]
      rcases hd with rfl|rfl
      · exact⟨_,_,rfl,rfl,rfl⟩
      · refine⟨_,_,rfl,rfl,?_⟩
        rcases h with rfl|rfl|rfl|rfl<;>rfl
    · refine .inl ?_
      rw[if_pos (show(((((c != 7)&&(c != 8))&&(c != 11))&&(c != 12))&&(c != 17))=true from by simp;omega),if_neg (show ¬ (c==8)=true from by simpa using h8),if_neg (show ¬ (c==7 || c==11 || c==12 || c==17)=true from by simp;omega)]
      exact⟨rfl,rfl⟩
open Go.RowKit
theorem pE{n:Int}:eo n=if n<1 then 0 else n/8+(if 0<n%8 then 1 else 0):=by
  unfold eo
  split
  · rfl
  · split<;>omega
theorem my(l:List Bool)(j:Nat) : ck (l.take (8*j)) j=0:=by
  have h:=o5 l (8*j)
  rw[show 8*j/8=j from by omega,show 8*j%8=0 from by omega] at h
  omega
theorem kT{l:List Bool}{j t:Nat}(ht:t<8) : ck (l.take (8*j+t+1)) j=ck (l.take (8*j+t)) j+if l.getD (8*j+t) false=true then 2 ^ t else 0:=by
  rw[jo,show(8*j+t)/8=j from by omega,show(8*j+t)%8=t from by omega]
  simp
theorem wv{l:List Bool}{j t:Nat}(h:t=8∨l.length≤8*j+t) : ck (l.take (8*j+t)) j=ck l j:=by
  rcases h with rfl|h
  · unfold ck
    simp only[jC]
    simp
  · rw[List.take_of_length_le h]
theorem xW{l:List Bool}{j:Nat}(h1:l.length≤8*j)(h2:8*j<l.length+8) : (List.range j).map (fun i=>(ck l i:Int))=bS l:=by
  unfold bS
  rw[show(eo l.length).toNat=j from by unfold eo;split<;>omega]
theorem uM(l:List Bool) : ((bS l).length:Int)=eo l.length:=by
  unfold bS
  rw[List.length_map,List.length_range]
  unfold eo
  split<;>omega
theorem Dx:∀ x0 x1 x2 x3 x4 x5 x6 x7:Bool,∀ t:Fin 8,(((((if x0=true then 1 else 0)+(if x1=true then 2 else 0)+(if x2=true then 4 else 0)+(if x3=true then 8 else 0)+(if x4=true then 16 else 0)+(if x5=true then 32 else 0)+(if x6=true then 64 else 0)+(if x7=true then 128 else 0) : Nat) : Int)/2 ^ t.val%2==1)=[x0,x1,x2,x3,x4,x5,x6,x7].getD t.val false):=by decide +kernel
theorem Cv{l:List Bool}{j t:Nat}(ht:t<8) : ((ck l j:Int)/2 ^ t%2==1)=l.getD (8*j+t) false:=by
  have h:=Dx (l.getD (8*j) false) (l.getD (8*j+1) false) (l.getD (8*j+2) false) (l.getD (8*j+3) false) (l.getD (8*j+4) false) (l.getD (8*j+5) false) (l.getD (8*j+6) false) (l.getD (8*j+7) false) ⟨t,ht⟩
  refine h.trans ?_
  rcases t with _|_|_|_|_|_|_|_|t
  case succ.succ.succ.succ.succ.succ.succ.succ=>omega
  all_goals rfl
theorem qL(l:List Bool) : cQ (bS l) (l.length:Int)=some ((List.range l.length).map (cJ (bS l))):=by
  have hl:=uM l
  unfold cQ
  rw[if_pos ⟨by omega,hl⟩,if_pos,show((l.length:Int)).toNat=l.length from by omega]
  rw[List.all_eq_true]
  intro i hi
  have hi:i<8*(bS l).length:=by simpa using hi
  simp only[Bool.or_eq_true,decide_eq_true_eq,Bool.not_eq_true']
  by_cases h:(i:Int)<l.length
  · exact .inl h
  · refine .inr ?_
    have hj:i/8<(bS l).length:=by omega
    unfold cJ
    have e:(bS l).getD (i/8) 0=(ck l (i/8) : Int):=by
      have hj2:i/8<(eo (l.length:Int)).toNat:=by omega
      unfold bS
      rw[List.getD_eq_getElem?_getD,List.getElem?_map,List.getElem?_range hj2]
      rfl
    rw[e,Cv (Nat.mod_lt _ (by decide)),show 8*(i/8)+i%8=i from by omega,List.getD_eq_getElem?_getD,List.getElem?_eq_none (by omega)]
    rfl
theorem qp{b:List Int}{n:Int}(hr:∀ x,x∈b→0≤x∧x<256)(h0:0≤n) : cQ b n=if bS ((List.range n.toNat).map (cJ b))=b then some ((List.range n.toNat).map (cJ b)) else none:=by
  by_cases h:bS ((List.range n.toNat).map (cJ b))=b
  · rw[if_pos h]
    have k:=qL ((List.range n.toNat).map (cJ b))
    rw[h,List.length_map,List.length_range,show((n.toNat:Nat) : Int)=n from by omega] at k
    exact k
  · rw[if_neg h]
    cases e:cQ b n with
    | none=>rfl
    | some l =>
      exfalso
      have k:=lH hr e
      unfold cQ at e
      split at e
      · split at e
        · injection e with e;rw[e] at h;exact h k
        · cases e
      · cases e
open Go.RowKit
theorem CI{n:Int}{w:World}(hn : -1048576≤n∧n≤1048576) : Calls Tryz.prog 171 #[vI n] w (cl (vI (eo n)) w):=by
 refine en 14 Tryz.func171 rfl<|aE 1<|sq<|aE 2<|cb ((decide (n<1))) (fun a=>?_) (fun a=>?_)
 have c:=of_decide_eq_true a
 refine aE 1<|aX<|rr (vI 0)<|?_
 have hs:eo n=0:=by rw[pE];split<;>(try split)<;>omega
 rw[hs]
 exact⟨rfl,(aH.refl [] _)⟩
 have c:=of_decide_eq_false a
 refine bj<|al 1<|L0<|Oe (vI (IntKind.i64.wrap (Int.tdiv n 8))) (vI (n/8)) (congrArg (Value.int .i64) (gV (by omega) (by omega)))<|ai 1<|sq<|al 1<|L0<|Oe (vI (Int.tmod n 8)) (vI (n%8)) (congrArg (Value.int .i64) (Int.tmod_eq_emod_of_nonneg (by omega)))<|ai 1<|cb ((decide (0<(n%8)))) (fun b=>?_) (fun b=>?_)
 have d:=of_decide_eq_true b
 refine go<|Pl 1<|bq ((n/8)+1)<|Pl 1<|cE 2<|rt<|rr (vI ((n/8)+1))<|?_
 have hs:eo n=((n/8)+1):=by rw[pE];split<;>(try split)<;>omega
 rw[hs]
 exact⟨rfl,(aH.refl [] _)⟩
 have d:=of_decide_eq_false b
 refine bj<|aE 2<|rt<|rr (vI (n/8))<|?_
 have hs:eo n=(n/8):=by rw[pE];split<;>(try split)<;>omega
 rw[hs]
 exact⟨rfl,(aH.refl [] _)⟩
theorem um(l:List Bool)(j t:Nat)(ht:t≤8) : ck (l.take (8*j+t)) j<2 ^ t:=by
  induction t with
  | zero=>rw[Nat.add_zero,my];decide
  | succ t ih =>
    have h:=ih (by omega)
    rw[← Nat.add_assoc,kT (by omega),Nat.pow_succ]
    split<;>omega
theorem ym{t:Nat}(ht:t≤8) : 2 ^ t≤256:=by
  rcases t with _|_|_|_|_|_|_|_|_|t
  case succ.succ.succ.succ.succ.succ.succ.succ.succ=>omega
  all_goals decide
theorem uG{l:List Bool}{j:Nat}(h1:¬ 8*j<l.length)(h2:8*j<l.length+8) : (List.range j).map (fun i=>(ck l i:Int))=bS l:=xW (by omega) h2
theorem yP{l:List Bool}{j t:Nat}{c:Int}(hc:c=(ck (l.take (8*j+t)) j:Int))(ht:t≤8)(h:t=8∨l.length≤8*j+t) : c%256=(ck l j:Int):=by
  have h1:=um l j t ht
  have h2:=ym ht
  rw[wv h] at hc h1
  omega
theorem BR{m:Md}{A:Option Addr}{cp:Nat}{l:List Bool}{w:World}(h:j6 m w (.slice A l.length cp) l)(hn:l.length≤1048576) : Calls Tryz.prog 223 #[.slice A l.length cp] w (yE l w):=by
 refine en 42 Tryz.func223 rfl<|al 1<|cE 1<|sq<|aE 1<|bk<|jf (fun x=>[(0,.slice A l.length cp),(2,nS),(3,.slice x.2.2.1 x.2.1.length x.2.2.2),(4,vI ((8*x.1:Nat) : Int))]) (fun(x:Nat × List Int × Option Addr × Nat) w'=>aH [] w w'∧eG w.heap.size w' (.slice x.2.2.1 x.2.1.length x.2.2.2) x.2.1∧(8*x.1<l.length+8)∧(x.2.1=(List.range x.1).map (fun i=>(ck l i:Int)))) (fun x=>l.length+8-8*x.1) (0,[],none,0) ⟨aH.refl _ _,(b6.nil w.heap.size _ _ wx _),(by(try dsimp only);omega),rfl⟩ ?_
 rintro⟨j,L,B,cq⟩ r ⟨f,z,C,D⟩
 refine je [(0,.slice A l.length cp),(2,nS),(3,.slice B L.length cq),(4,vI ((8*j:Nat) : Int))] ?_
 have g:eG w.heap.size r (.slice B L.length cq) L:=z
 have Z:8*j<l.length+8:=C
 have k:L=(List.range j).map (fun i=>(ck l i:Int)):=D
 have hLn:L.length=j:=by rw[k,List.length_map,List.length_range]
 refine sq<|aE 4<|cb ((decide (((8*j:Nat) : Int)<(l.length:Int)))) (fun n=>?_) (fun n=>?_)
 have E:=of_decide_eq_true n
 refine bj<|sq<|bk<|al 1<|cE 1<|sq<|aE 2<|bk<|jf (fun x=>[(0,.slice A l.length cp),(2,nS),(3,.slice B L.length cq),(4,vI ((8*j:Nat) : Int)),(5,vI x.2.1),(6,vI x.2.2),(7,vI ((8*j+x.1:Nat) : Int)),(8,vI ((8*j:Nat) : Int)),(9,.slice A l.length cp),(10,vI (l.length:Int)),(11,.bool (decide (((8*j:Nat) : Int)<(l.length:Int)))),(14,vI ((8*j:Nat) : Int))]) (fun(x:Nat × Int × Int) w'=>aH [] r w'∧(x.1≤8)∧(x.2.1=(ck (l.take (8*j+x.1)) j:Int))∧(x.2.2=((2 ^ x.1:Nat) : Int))) (fun x=>8-x.1) (0,0,1) ⟨aH.refl _ _,(by(try dsimp only);omega),(by(try dsimp only);rw[Nat.add_zero,my];rfl),rfl⟩ ?_
 rintro⟨t,c,u⟩ a0 ⟨a,F,G,H⟩
 refine je [(0,.slice A l.length cp),(2,nS),(3,.slice B L.length cq),(4,vI ((8*j:Nat) : Int)),(5,vI c),(6,vI u),(7,vI ((8*j+t:Nat) : Int)),(8,vI ((8*j:Nat) : Int)),(9,.slice A l.length cp),(10,vI (l.length:Int)),(11,.bool (decide (((8*j:Nat) : Int)<(l.length:Int)))),(14,vI ((8*j:Nat) : Int))] ?_
 have a1:t≤8:=F
 have I:c=(ck (l.take (8*j+t)) j:Int):=G
 have a2:u=((2 ^ t:Nat) : Int):=H
 have hpl:=um l j t (by omega)
 have hpp:=ym (t:=t) (by omega)
 refine sq<|al 5<|cu 5 [19] 24 (((decide (((8*j+t:Nat) : Int)<(l.length:Int)))&&(decide (((8*j+t:Nat) : Int)<(((8*j:Nat) : Int)+8))))) (fun K s=>?_) ?_
 refine bl 19 ((decide (((8*j+t:Nat) : Int)<(l.length:Int)))) (fun b=>?_) (fun b=>?_)
 have J:=of_decide_eq_true b
 exact Pl 2<|L1<|Oi (((8*j:Nat) : Int)+8)<|Pl 2<|ce s (decide (((8*j+t:Nat) : Int)<(((8*j:Nat) : Int)+8))) (by rw[b];rfl)
 have J:=of_decide_eq_false b
 exact Pl 5<|ce s false (by rw[b];rfl)
 refine nt<|?_
 have y:=aI f a
 refine cb (((decide (((8*j+t:Nat) : Int)<(l.length:Int)))&&(decide (((8*j+t:Nat) : Int)<(((8*j:Nat) : Int)+8))))) (fun d=>?_) (fun d=>?_)
 have M:=(bC d).1
 have N:=(bC d).2
 have a3:=of_decide_eq_true M
 have a4:=of_decide_eq_true N
 refine bj<|sq<|bk<|sq<|al 2<|?_
 refine DH (j6.at_ (j6.old h y) (8*j+t) (by omega)) fun O P Q R=>L0<|kY l.length (8*j+t) Q (by omega)<|L0<|eu (p:=⟨O,P+(8*j+t),none⟩) (v:=.bool (l.getD (8*j+t) false)) R<|nt<|cb ((l.getD (8*j+t) false)) (fun o=>?_) (fun o=>?_)
 exact go<|Pl 2<|bq (c+u)<|ai 1<|go<|Pl 1<|bq (2*u)<|Pl 1<|nl<|bn<|tn<|go<|Pl 1<|bq (((8*j+t:Nat) : Int)+1)<|Pl 1<|nl<|gI ((t+1),(c+u),(2*u)) ⟨a,(by(try dsimp only);omega),(by(try dsimp only);rw[← Nat.add_assoc,kT (by omega),if_pos o];omega),(by(try dsimp only);rw[Nat.pow_succ];omega)⟩ (by omega)
 exact bj<|go<|Pl 1<|bq (2*u)<|Pl 1<|nl<|bn<|tn<|go<|Pl 1<|bq (((8*j+t:Nat) : Int)+1)<|Pl 1<|nl<|gI ((t+1),c,(2*u)) ⟨a,(by(try dsimp only);omega),(by(try dsimp only);rw[← Nat.add_assoc,kT (by omega),if_neg (by rw[o];decide)];omega),(by(try dsimp only);rw[Nat.pow_succ];omega)⟩ (by omega)
 refine xt<|tx<|tx<|bx<|tn<|go<|Pl 3<|L0<|cY (m:=1) (e:=5) #[vB (c%256)] fun a5 a6 S T q=>?_
 have U:=cG S (xs:=[(c%256)]) (by as_aux_lemma=>kernel_rfl) (am (by omega) aR) (by(try simp only[List.length_cons,List.length_nil]);omega) T
 refine L0<|bQ b9 (xs:=L) (ys:=([(c%256)])) (vB 0) 1 (av g (aI a q) (fun x hx=>aF) (fun _ _ h=>h)) (U).rd (by(try simp only[bT,aC]);omega) (le (le f.size a.size) q.size) fun V W a7 X Y=>Pl 1<|nl<|bn<|tn<|go<|Pl 1<|bq (((8*j:Nat) : Int)+8)<|Pl 1<|nl<|?_
 exact gI ((j+1),(L++[(c%256)]),V,W) ⟨(ut y (ut (aH.mono (S':=(ob B++[])) q aA) Y (ap il aA)) (ap (aT g lr) aA)),X,(by(try dsimp only);omega),(by(try dsimp only);rw[k,List.range_succ,List.map_append];show _++[_]=_++[_];rw[yP I (by omega) (by have hq:=d;simp only[Bool.and_eq_false_iff,decide_eq_false_iff_not] at hq;omega)])⟩ (by omega)
 have E:=of_decide_eq_false n
 refine xt<|tx<|tx<|bx<|tn<|aE 2<|rt<|rr (.slice B L.length cq)<|?_
 have hs:L=bS l:=by rw[k];exact uG (by omega) (by omega)
 exact⟨_,rfl,by rw[← hs];exact g,f⟩
theorem Bp{m:Md}{v:Value}{l:List Bool}{w:World}(h:j6 m w v l)(hn:l.length≤1048576) : Calls Tryz.prog 223 #[v] w (yE l w):=by
  obtain⟨A,c,rfl,_,_⟩:=h.shape
  exact BR h hn
theorem wT{P:Program}{w:World}{ev:Operand→Value}{o:Oper}{x y:Operand}{t t':TypeId}{a b:ByteArray}{v:Bool}(ho:o.op = .binOp .neq t x y t')(hx:ev x = .string a)(hy:ev y = .string b)(hv:(a.toList==b.toList)=v) : (execOp ev o).run P w = .ok (.value (.bool !v)) w:=by
  have hg:eqGuard .neq t x y (.string a) (.string b)=pure ():=rfl
  unfold execOp
  simp only[ho,hx,hy,hg,binOp_string_neq,Sem.run_bind,Sem.run_pure,Result.andThen,hv]
theorem DP{w0 w:World}{g:Nat}{cs:Array Value}{xs:List Bool}(hg:w0.heap.size≤g)(hcs:cs=(xs.map Value.bool).toArray)(hl:xs.length≤4194304)(hb:w.heap[g]? = some (.cells cs 4 (0,0))) :
    AO w0.heap.size w (.slice (some ⟨g,0,none⟩) xs.length xs.length) xs:=BT (enc:=Value.bool) hg hcs (fun x h=>rfl) hl hb
theorem uA{x c:Int}{k:Nat}(h:c=x/2 ^ k) : c/2=x/2 ^ (k+1):=by
  rw[h,Int.ediv_ediv_of_nonneg (Int.le_of_lt (Int.pow_pos (by decide))),Int.pow_succ]
theorem yp{x c:Int}(hx:0≤x∧x<256){k:Nat}(h:c=x/2 ^ k) : 0≤c∧c<256:=by
  have h1:(1:Int)≤2 ^ k:=Int.pow_pos (by decide)
  subst h
  exact⟨Int.ediv_nonneg hx.1 (by omega),Int.lt_of_le_of_lt (Int.ediv_le_self _ hx.1) hx.2⟩
theorem vX{l:List Int}{i:Nat}(h:i<l.length) : l.getD i 0∈l:=by
  rw[List.getD_eq_getElem?_getD,List.getElem?_eq_getElem h]
  exact List.getElem_mem h
theorem xJ{m:Md}{A:Option Addr}{cp:Nat}{b:List Int}{n:Int}{w:World}(h:aZ m w (.slice A b.length cp) b)(hl:b.length≤1048576)(hn : -1048576≤n∧n≤1048576) : Calls Tryz.prog 172 #[.slice A b.length cp,vI n] w (gO b n w):=by
 have hb:=aZ.range h
 refine en 51 Tryz.func172 rfl<|aE 2<|sq<|al 3<|cu 6 [12] 18 (((decide (n<0))||(decide ((8*(b.length:Int))<n)))) (fun K H=>?_) ?_
 refine bl 12 ((decide (n<0))) (fun d=>?_) (fun d=>?_)
 have R:=of_decide_eq_true d
 exact Pl 6<|ce H true (by rw[d];rfl)
 have R:=of_decide_eq_false d
 exact Pl 3<|L1<|Oi (8*(b.length:Int))<|Pl 2<|ce H (decide ((8*(b.length:Int))<n)) (by rw[d];rfl)
 refine nt<|cb (((decide (n<0))||(decide ((8*(b.length:Int))<n)))) (fun g=>?_) (fun g=>?_)
 refine aE 2<|aX<|rr (.tuple #[nS,.bool false])<|?_
 have hq:=g
 have hs:cQ b n=none:=by unfold cQ;rw[if_neg];rintro⟨h1,h2⟩;simp only[Bool.or_eq_true,decide_eq_true_eq] at hq;rw[pE] at h2;split at h2<;>(try split at h2)<;>omega
 exact fM hs (aH.refl [] _)
 have S:=(bK g).1
 have T:=(bK g).2
 have ae:=of_decide_eq_false S
 have af:=of_decide_eq_false T
 refine bj<|aE 1<|sq<|aE 1<|bk<|jf (fun x=>[(0,.slice A b.length cp),(1,vI n),(4,nS),(5,.bool false),(6,.slice x.2.2.1 x.2.1.length x.2.2.2),(7,vI (x.1:Int))]) (fun(x:Nat × List Bool × Option Addr × Nat) w'=>aH [] w w'∧AO w.heap.size w' (.slice x.2.2.1 x.2.1.length x.2.2.2) x.2.1∧((x.1:Int)≤n)∧(x.2.1=(List.range x.1).map (cJ b))) (fun x=>n.toNat-x.1) (0,[],none,0) ⟨aH.refl _ _,(b6.nil w.heap.size _ _ oe _),(by(try dsimp only);omega),rfl⟩ ?_
 rintro⟨i,L,B,cq⟩ I ⟨j,U,V,W⟩
 refine je [(0,.slice A b.length cp),(1,vI n),(4,nS),(5,.bool false),(6,.slice B L.length cq),(7,vI (i:Int))] ?_
 have r:AO w.heap.size I (.slice B L.length cq) L:=U
 have ag:(i:Int)≤n:=V
 have o:L=(List.range i).map (cJ b):=W
 have hLn:L.length=i:=by rw[o,List.length_map,List.length_range]
 have hi8:((i:Int)/8).toNat=i/8:=by omega
 refine sq<|aE 3<|cb ((decide ((i:Int)<n))) (fun s=>?_) (fun s=>?_)
 have X:=of_decide_eq_true s
 refine bj<|sq<|bk<|al 2<|L0<|Oe (vI (IntKind.i64.wrap (Int.tdiv (i:Int) 8))) (vI ((i:Int)/8)) (congrArg (Value.int .i64) (gV (by omega) (by omega)))<|?_
 refine ft (aZ.at_ (aZ.old h j) ((((i:Int)/8)).toNat) (by omega)) fun t u Y Z ah=>L0<|wn b.length ((((i:Int)/8)).toNat) ((i:Int)/8) (by omega) Y (by omega)<|L0<|eu (p:=⟨t,u+((((i:Int)/8)).toNat),none⟩) (v:=vB (b.getD ((((i:Int)/8)).toNat) 0)) Z<|bq (b.getD ((((i:Int)/8)).toNat) 0)<|ai 1<|sq<|aE 1<|bk<|jf (fun x=>[(0,.slice A b.length cp),(1,vI n),(4,nS),(5,.bool false),(6,.slice B L.length cq),(7,vI (i:Int)),(8,vI x.2),(9,vI (x.1:Int)),(19,vI (i:Int)),(20,vI n),(21,.bool (decide ((i:Int)<n))),(24,.slice A b.length cp),(25,vI (i:Int)),(26,vI ((i:Int)/8)),(27,.pointer (some (⟨t,u+((((i:Int)/8)).toNat),none⟩))),(28,vB (b.getD ((((i:Int)/8)).toNat) 0)),(29,vI (b.getD ((((i:Int)/8)).toNat) 0))]) (fun(x:Nat × Int) w'=>aH [] I w'∧(x.1≤i%8)∧(x.2=b.getD (i/8) 0/2 ^ x.1)) (fun x=>8-x.1) (0,(b.getD ((((i:Int)/8)).toNat) 0)) ⟨aH.refl _ _,(by(try dsimp only);omega),(by(try dsimp only);rw[hi8,Int.pow_zero,Int.ediv_one])⟩ ?_
 rintro⟨k,c⟩ aj ⟨q,a0,a1⟩
 refine je [(0,.slice A b.length cp),(1,vI n),(4,nS),(5,.bool false),(6,.slice B L.length cq),(7,vI (i:Int)),(8,vI c),(9,vI (k:Int)),(19,vI (i:Int)),(20,vI n),(21,.bool (decide ((i:Int)<n))),(24,.slice A b.length cp),(25,vI (i:Int)),(26,vI ((i:Int)/8)),(27,.pointer (some (⟨t,u+((((i:Int)/8)).toNat),none⟩))),(28,vB (b.getD ((((i:Int)/8)).toNat) 0)),(29,vI (b.getD ((((i:Int)/8)).toNat) 0))] ?_
 have ak:k≤i%8:=a0
 have y:c=b.getD (i/8) 0/2 ^ k:=a1
 have hcr:=yp (hb _ (vX (l:=b) (i:=i/8) (by omega))) y
 refine sq<|al 2<|L0<|Oe (vI (Int.tmod (i:Int) 8)) (vI ((i:Int)%8)) (congrArg (Value.int .i64) (Int.tmod_eq_emod_of_nonneg (by omega)))<|ai 1<|?_
 refine cb ((decide ((k:Int)<((i:Int)%8)))) (fun z=>?_) (fun z=>?_)
 have a2:=of_decide_eq_true z
 exact bj<|sq<|bk<|go<|Pl 1<|L0<|Oe (vI (IntKind.i64.wrap (Int.tdiv c 2))) (vI (c/2)) (congrArg (Value.int .i64) (gV (by omega) (by omega)))<|Pl 1<|nl<|bn<|tn<|go<|Pl 1<|bq ((k:Int)+1)<|Pl 1<|nl<|gI ((k+1),(c/2)) ⟨q,(by(try dsimp only);omega),uA y⟩ (by omega)
 have a2:=of_decide_eq_false z
 refine xt<|tx<|tx<|bx<|tn<|go<|Pl 2<|L0<|Oe (vI (Int.tmod c 2)) (vI (c%2)) (congrArg (Value.int .i64) (Int.tmod_eq_emod_of_nonneg (by omega)))<|Pl 1<|L0<|cY (m:=1) (e:=4) #[.bool ((c%2)==1)] fun am an a3 a4 C=>?_
 have a5:=DP a3 (xs:=[((c%2)==1)]) (by as_aux_lemma=>kernel_rfl)  (by(try simp only[List.length_cons,List.length_nil]);omega) a4
 refine L0<|bQ xR (xs:=L) (ys:=([((c%2)==1)])) (.bool false) 1 (av r (aI q C) (fun x hx=>aF) (fun _ _ h=>h)) (a5).rd (by(try simp only[bT,aC]);omega) (le (le j.size q.size) C.size) fun a6 a7 ao a8 a9=>Pl 1<|nl<|bn<|tn<|go<|Pl 1<|bq ((i:Int)+1)<|Pl 1<|nl<|?_
 exact gI ((i+1),(L++[((c%2)==1)]),a6,a7) ⟨(ut (aI j q) (ut (aH.mono (S':=(ob B++[])) C aA) a9 (ap il aA)) (ap (aT r lr) aA)),a8,(by(try dsimp only);omega),(by(try dsimp only);rw[o,List.range_succ,List.map_append];show _++[_]=_++[cJ b i];unfold cJ;rw[y,show k=i%8 from by omega])⟩ (by omega)
 have X:=of_decide_eq_false s
 refine xt<|tx<|tx<|bx<|tn<|sq<|sq<|Rg 6 (fun w'=>aZ false w' (.slice A b.length cp) b) fun aq J=>?_
 have M:=aI j J
 have D:=aZ.old h M
 refine bo (aS.any D (fun _ _ h=>h)) fun E=>Rt 0 E<|Rt 3 E<|Rr 4 E (.string (strOfNums b)) (fun _ hs=>cV (A:=A) (n:=b.length) (c:=cp) rfl (by kernel_rfl) Tryz.underlying27 Tryz.underlying5 Tryz.underlying9 hs)<|?_
 have N:=av r J (fun x hx=>aF) (fun _ _ h=>h)
 refine R0 1 rfl<|Oc<|dV (Bp (N).rd (by omega)) fun aa ab ar O au aw F=>?_
 have P:=aZ.old D F
 refine bo (aS.any P (fun _ _ h=>h)) fun ax=>R0 2 rfl<|ik (.string (strOfNums (bS L))) (cV (A:=aa) (n:=(bS L).length) (c:=ab) rfl (by kernel_rfl) Tryz.underlying27 Tryz.underlying5 Tryz.underlying9 (O).rd)<|bo (aS.any P (fun _ _ h=>h)) fun ac=>Rr 5 ac (.bool (!(decide ((bS L)=b)))) (fun _ _=>wT (a:=(strOfNums (bS L))) (b:=(strOfNums b)) rfl (by kernel_rfl) (by kernel_rfl) (jU (O).rd D))<|re<|tn<|?_
 have Q:=aI M F
 refine cb ((!(decide ((bS L)=b)))) (fun f=>?_) (fun f=>?_)
 have G:(decide ((bS L)=b))=false:=by simpa using f
 have ad:=of_decide_eq_false G
 refine aE 2<|aX<|rr (.tuple #[nS,.bool false])<|?_
 have hL:L=(List.range n.toNat).map (cJ b):=by rw[o,show i=n.toNat from by omega]
 have hu:=qp (n:=n) hb (by omega)
 rw[if_neg (by rw[← hL];simpa using f)] at hu
 exact fM hu Q
 have G:(decide ((bS L)=b))=true:=by simpa using f
 have ad:=of_decide_eq_true G
 refine bj<|aE 3<|rt<|rr (.tuple #[.slice B L.length cq,.bool true])<|?_
 have hL:L=(List.range n.toNat).map (cJ b):=by rw[o,show i=n.toNat from by omega]
 have hu:=qp (n:=n) hb (by omega)
 rw[if_pos (by rw[← hL];simpa using f),← hL] at hu
 exact⟨_,by rw[hu];rfl,by rw[hu];exact(av N F (fun x hx=>aF) (fun _ _ h=>h)),Q⟩
theorem AZ{m:Md}{v:Value}{b:List Int}{n:Int}{w:World}(h:aZ m w v b)(hl:b.length≤1048576)(hn : -1048576≤n∧n≤1048576) : Calls Tryz.prog 172 #[v,.int .i64 n] w (gO b n w):=by
  obtain⟨A,c,rfl,_,_⟩:=h.shape
  exact xJ h hl hn
open Go.RowKit
def zj (w0:World)(m:Md)(A:Option Addr)(cp:Nat)(full:List Int)(g gm:Nat)(C':ah)(cs:Array Value)(w:World)(e:Ending)(w':World) : Prop:=e = .returned (.tuple #[])∧RC w0 m A cp full w' g C'∧w'.heap[gm]? = some (.cells cs 45 (0,0))∧aH [g,gm] w w'
theorem pm{w0:World}{m:Md}{A:Option Addr}{cp:Nat}{full:List Int}{w:World}{g gm:Nat}{c:Int}{C:ah}{most:Int}(hcode:B8 c)(hC:RC w0 m A cp full w g C)(hm:w.heap[gm]? = some (.cells (mC c) 45 (0,0)))(hgm:w0.heap.size≤gm)(hne:g≠gm) :
    Calls Tryz.prog 166 #[vP g 0,vP gm 0,vI most] w (zj w0 m A cp full g gm (bV C most) (mG c 0 C.wordV (C.wordsC 1).wordV 0 0 0 0 0 0 0 0 nS nS nS nS 0 0 0 0 0 nS) w):=by
 obtain⟨hcode1,hcode2⟩:=hcode
 have hrng:=bR (RC.rng hC)
 refine en 39 Tryz.func166 rfl<|al 2<|ay<|m3 (d8 hC) fun G t e H=>Pl 2<|?_
 refine L0<|ci (be e (Ne.symm hne) hm) 2 (mG c 0 C.wordV 0 0 0 0 0 0 0 0 0 nS nS nS nS 0 0 0 0 0 nS) fun I eN f=>aM 2<|?_
 have h:=us e f
 refine ay<|m3 (d8 (RC.upd t f (aa hne aF) (hC.u.trans' h (fun x hx=>.inr (by simp at hx;rcases hx with rfl | rfl;exact hC.new;exact hgm))))) fun J v i L=>Pl 2<|?_
 refine L0<|ci (be i (Ne.symm hne) eN) 3 (mG c 0 C.wordV ((C.wordsC 1).wordV) 0 0 0 0 0 0 0 0 nS nS nS nS 0 0 0 0 0 nS) fun M j k=>aM 3<|aD j 3<|bq ((C.wordsC 1).wordV)<|Pl 1<|aM 4<|cu 4 [25] 29 (((decide (0<((C.wordsC 1).wordV)))&&(decide (((C.wordsC 1).wordV)≤most)))) (fun K l=>?_) ?_
 refine bl 25 ((decide (0<((C.wordsC 1).wordV)))) (fun b=>?_) (fun b=>?_)
 have y:=of_decide_eq_true b
 exact Pl 4<|ce l (decide (((C.wordsC 1).wordV)≤most)) (by rw[b];rfl)
 have y:=of_decide_eq_false b
 exact Pl 4<|ce l false (by rw[b];rfl)
 have o:=ut h (us i k) (ac im (ac im aA))
 refine ay<|m2 (bf (((decide (0<((C.wordsC 1).wordV)))&&(decide (((C.wordsC 1).wordV)≤most)))) 5 (RC.upd v k (aa hne aF) (hC.u.trans' o (fun x hx=>.inr (by simp at hx;rcases hx with rfl | rfl;exact hC.new;exact hgm))))) fun z B p=>?_
 refine gL B fun x36 D q=>?_
 refine nt<|go<|Pl 4<|?_
 have r:=be p (Ne.symm hne) j
 refine aD r 2<|Pl 1<|ay<|m1 (tQ (a:=C.wordV) (n:=(C.wordsC 1).wordV) (w:=z) (by omega) (by omega)) fun N d=>?_
 refine ay<|m2 (bf ((dY C.wordV ((C.wordsC 1).wordV))) 7 (RC.upd q d aF (aH.step (RC.u q) d))) fun O E F=>nl<|rm (.tuple #[])<|?_
 subst D
 have hs:bV C most=((((C.wordsC 1).wordsC 1).need ((decide (0<((C.wordsC 1).wordV)))&&(decide (((C.wordsC 1).wordV)≤most))) 5).need (dY C.wordV ((C.wordsC 1).wordV)) 7):=by
   unfold bV jZ
   (try simp only[bi,fy,reduceIte])
   all_goals rfl
 rw[hs]
 have s:=uz d F
 exact⟨rfl,E,(be s (Ne.symm hne) r),(u1 o (u1 p s im) im)⟩
theorem mE{m:Md}{A:Option Addr}{cp:Nat}{b:List Int}{w:World}{c:Int}(hcode:B8 c)(hsl:aZ m w (.slice A b.length cp) b)(hb:b.length≤1048576) :
    Calls Tryz.prog 109 #[vI 0,vB c,.slice A b.length cp] w (cN (.slice A b.length cp) b (aj aP 0 c b) w):=by
 obtain⟨hcode1,hcode2⟩:=hcode
 have hln:(b.length:Int)≤1048576:=by omega
 refine en 113 Tryz.func109 rfl<|sg<|aK mZ fun c3 d2 l i f=>ai 1<|sq<|aE 6<|c0<|bj<|al 2<|L0<|d6 #[.slice A b.length cp,vI 0,.bool false,vI 0] fun j d3 a o g=>Pl 1<|aM 2<|aK mZ fun aV d4 d aW a5=>aG aW (mC c) fun T U V=>?_
 refine nt<|sq<|aE 1<|bk<|sq<|al 2<|nl<|tn<|?_
 have D:=ud a5 V d
 have k:=aI g D
 have q:=aI f k
 refine cb ((c==1)) (fun r=>?_) (fun r=>?_)
 have c4:=ag r
 refine bj<|ct r<|sq<|aE 2<|c1<|al 1<|?_
 have a6:RC w _ A cp b T j (ah.mk b false 0):=⟨hsl,q,(Nat.le_trans f.size a),⟨0,(ub D o),Nat.zero_le _,rfl⟩,by omega⟩
 have aY:=nb (aq o) lr d
 refine ay<|m3 (pm (most:=2000) (b8 (by omega)) a6 U (Nat.le_trans (le f.size g.size) d) aY) fun d5 c5 c6 c7=>?_
 have d7:=bR (RC.rng a6)
 have d9:=bR (c:=(ah.mk b false 0).wordsC 1) (cU (RC.rng a6) 1)
 refine nt<|xt<|tx<|bx<|tn<|al 1<|ay<|m2 (eV c5) fun da a7 b0=>nt<|sq<|sq<|go<|Pl 3<|L0<|eu (p:=⟨j,3,none⟩) (v:=vI (((bV (ah.mk b false 0) 2000).endC).e)) (RC.fld a7)<|ai 1<|?_
 have a8:=u1 c7 b0 im
 have b1:=ut q a8 (ac (ni f.size a) (ac (ni (le f.size g.size) d) aA))
 have hs:aj aP 0 c b=bp (aU.mk c 0 ((ah.mk b false 0).wordV) (((ah.mk b false 0).wordsC 1).wordV) 0 0 0 0 0 0 0 0 [] [] [] [] 0 0 0 0 0 []) (bV (ah.mk b false 0) 2000):=by
   unfold aj aP eE ep dX iR sa iX s9 oL sV eb fR
   (try simp only[r,bi,dJ,dP,dL,dN,dO,reduceIte,fy])
   all_goals rfl
 refine cb (((((bV (ah.mk b false 0) 2000).endC).e)!=0)) (fun a9=>?_) (fun a9=>?_)
 have ab:=aB a9
 refine sq<|Rg 7 (fun w'=>w'.cell? ⟨j,3,none⟩=some (vI (((bV (ah.mk b false 0) 2000).endC).e))) fun db W=>?_
 have b2:=RC.upd a7 W aF (aH.step (RC.u a7) W)
 refine bo (RC.fld b2) fun E=>Rt 0 E<|Rt 1 E<|Rt 2 E<|Rt 3 E<|Rl 4 E (fun _ hs=>hs)<|?_
 refine R0 5 rfl<|gJ (ub (ut k (aI a8 W) (ac (nr a) (ac (ni g.size d) aA))) i) mZ fun dc c8 b3=>?_
 have b4:=ud b1 (uz W b3) l
 refine bo (RC.fld (RC.upd b2 b3 (aa (Ne.symm (nb (aq i) lr a)) aF) b4)) fun c9=>Rt 6 c9<|re<|tn<|aX<|bJ c8 (vI (((bV (ah.mk b false 0) 2000).endC).e))<|?_
 rw[hs]
 exact bu ab b4
 have ab:=az a9
 refine bj<|sg<|?_
 refine L0<|bN (be b0 (Ne.symm aY) c6)<|?_
 refine aG (ub (ut k a8 (ac (nr a) (ac (ni g.size d) aA))) i) (mG c 0 ((ah.mk b false 0).wordV) (((ah.mk b false 0).wordsC 1).wordV) 0 0 0 0 0 0 0 0 nS nS nS nS 0 0 0 0 0 nS) fun dd ca cc=>ai 1<|rt<|bJ ca (vI 0)<|?_
 rw[hs]
 exact bD ab ⟨_,_,_,_,_,rfl,aS.nil ..,aS.nil ..,(fun _ _ _=>aS.nil ..),aS.nil ..,aS.nil ..,(cT (by omega))⟩ (ud b1 cc l)
 have c4:=au r
 refine go<|ai 2<|cb ((c==2)) (fun s=>?_) (fun s=>?_)
 have cd:=ag s
 refine sq<|aE 2<|c1<|al 1<|?_
 have ad:RC w _ A cp b T j (ah.mk b false 0):=⟨hsl,q,(Nat.le_trans f.size a),⟨0,(ub D o),Nat.zero_le _,rfl⟩,by omega⟩
 have b5:=nb (aq o) lr d
 refine ay<|m3 (pm (most:=2000) (b8 (by omega)) ad U (Nat.le_trans (le f.size g.size) d) b5) fun de cf cg ch=>?_
 have df:=bR (RC.rng ad)
 have dg:=bR (c:=(ah.mk b false 0).wordsC 1) (cU (RC.rng ad) 1)
 refine nt<|xt<|tx<|bx<|tn<|al 1<|ay<|m2 (eV cf) fun dh af b6=>nt<|sq<|sq<|go<|Pl 3<|L0<|eu (p:=⟨j,3,none⟩) (v:=vI (((bV (ah.mk b false 0) 2000).endC).e)) (RC.fld af)<|ai 1<|?_
 have ak:=u1 ch b6 im
 have b7:=ut q ak (ac (ni f.size a) (ac (ni (le f.size g.size) d) aA))
 have hs:aj aP 0 c b=bp (aU.mk c 0 ((ah.mk b false 0).wordV) (((ah.mk b false 0).wordsC 1).wordV) 0 0 0 0 0 0 0 0 [] [] [] [] 0 0 0 0 0 []) (bV (ah.mk b false 0) 2000):=by
   unfold aj aP eE ep dX iR sa iX s9 oL sV eb fR
   (try simp only[r,s,bi,dJ,dP,dL,dN,dO,reduceIte,fy])
   all_goals rfl
 refine cb (((((bV (ah.mk b false 0) 2000).endC).e)!=0)) (fun am=>?_) (fun am=>?_)
 have an:=aB am
 refine sq<|Rg 7 (fun w'=>w'.cell? ⟨j,3,none⟩=some (vI (((bV (ah.mk b false 0) 2000).endC).e))) fun di X=>?_
 have b9:=RC.upd af X aF (aH.step (RC.u af) X)
 refine bo (RC.fld b9) fun F=>Rt 0 F<|Rt 1 F<|Rt 2 F<|Rt 3 F<|Rl 4 F (fun _ hs=>hs)<|?_
 refine R0 5 rfl<|gJ (ub (ut k (aI ak X) (ac (nr a) (ac (ni g.size d) aA))) i) mZ fun dj cj ba=>?_
 have bb:=ud b7 (uz X ba) l
 refine bo (RC.fld (RC.upd b9 ba (aa (Ne.symm (nb (aq i) lr a)) aF) bb)) fun ck=>Rt 6 ck<|re<|tn<|aX<|bJ cj (vI (((bV (ah.mk b false 0) 2000).endC).e))<|?_
 rw[hs]
 exact bu an bb
 have an:=az am
 refine bj<|sg<|?_
 refine L0<|bN (be b6 (Ne.symm b5) cg)<|?_
 refine aG (ub (ut k ak (ac (nr a) (ac (ni g.size d) aA))) i) (mG c 0 ((ah.mk b false 0).wordV) (((ah.mk b false 0).wordsC 1).wordV) 0 0 0 0 0 0 0 0 nS nS nS nS 0 0 0 0 0 nS) fun dk cl cm=>ai 1<|rt<|bJ cl (vI 0)<|?_
 rw[hs]
 exact bD an ⟨_,_,_,_,_,rfl,aS.nil ..,aS.nil ..,(fun _ _ _=>aS.nil ..),aS.nil ..,aS.nil ..,(cT (by omega))⟩ (ud b7 cm l)
 have cd:=au s
 refine aE 2<|cb ((c==5)) (fun y=>?_) (fun y=>?_)
 have cn:=ag y
 refine al 1<|?_
 have co:RC w _ A cp b T j (ah.mk b false 0):=⟨hsl,q,(Nat.le_trans f.size a),⟨0,(ub D o),Nat.zero_le _,rfl⟩,by omega⟩
 refine ay<|m3 (d8 co) fun dl cq bc dm=>Pl 1<|?_
 have G:=nb (aq o) lr d
 refine L0<|ci (be bc (Ne.symm G) U) 2 (mG c 0 ((ah.mk b false 0).wordV) 0 0 0 0 0 0 0 0 0 nS nS nS nS 0 0 0 0 0 nS) fun dn cr bd=>aM 1<|?_
 have ao:=us bc bd
 have bg:=ut q ao (ac (ni f.size a) (ac (ni (le f.size g.size) d) aA))
 refine ay<|m3 (d8 (RC.upd cq bd (aa G aF) bg)) fun dp cs bh dq=>Pl 1<|?_
 refine L0<|ci (be bh (Ne.symm G) cr) 4 (mG c 0 ((ah.mk b false 0).wordV) 0 (((ah.mk b false 0).wordsC 1).wordV) 0 0 0 0 0 0 0 nS nS nS nS 0 0 0 0 0 nS) fun dr ap bm=>nt<|go<|Pl 2<|aD ap 4<|Pl 2<|cu 4 [62] 66 ((((((ah.mk b false 0).wordsC 1).wordV)==0)||((((ah.mk b false 0).wordsC 1).wordV)==65280))) (fun K bs=>?_) ?_
 refine bl 62 (((((ah.mk b false 0).wordsC 1).wordV)==0)) (fun H=>?_) (fun H=>?_)
 have cw:=ag H
 exact Pl 4<|ce bs true (by rw[H];rfl)
 have cw:=au H
 exact Pl 1<|L1<|dD ap 4<|Pl 2<|ce bs ((((ah.mk b false 0).wordsC 1).wordV)==65280) (by rw[H];rfl)
 have ar:=us bh bm
 have bt:=ut bg ar (ac (ni f.size a) (ac (ni (le f.size g.size) d) aA))
 refine ay<|m2 (bf ((((((ah.mk b false 0).wordsC 1).wordV)==0)||((((ah.mk b false 0).wordsC 1).wordV)==65280))) 6 (RC.upd cs bm (aa G aF) bt)) fun ds cx cy=>?_
 refine gL cx fun I cz cA=>?_
 refine nl<|bn<|tn<|al 1<|ay<|m2 (eV cA) fun dt aw cB=>nt<|sq<|al 3<|L0<|eu (p:=⟨j,3,none⟩) (v:=vI I.endC.e) (RC.fld aw)<|ai 1<|?_
 have Y:=u1 cy cB im
 have bv:=ud bt Y (le f.size a)
 have hs:aj aP 0 c b=bp (aU.mk c 0 ((ah.mk b false 0).wordV) 0 (((ah.mk b false 0).wordsC 1).wordV) 0 0 0 0 0 0 0 [] [] [] [] 0 0 0 0 0 []) I:=by
   subst cz
   unfold aj aP eE ep dX iR sa iX s9 oL sV eb fR
   (try simp only[r,s,y,bi,dJ,dP,dL,dN,dO,reduceIte,fy])
   all_goals rfl
 refine cb ((I.endC.e != 0)) (fun ax=>?_) (fun ax=>?_)
 have aC:=aB ax
 refine sq<|Rg 7 (fun w'=>w'.cell? ⟨j,3,none⟩=some (vI I.endC.e)) fun du Z=>?_
 have bw:=RC.upd aw Z aF (aH.step (RC.u aw) Z)
 refine bo (RC.fld bw) fun J=>Rt 0 J<|Rt 1 J<|Rt 2 J<|Rt 3 J<|Rl 4 J (fun _ hs=>hs)<|?_
 refine R0 5 rfl<|gJ (ub (ut k (ut ao (u1 ar (aI Y Z) im) (ac im (ac im aA))) (ac (nr a) (ac (ni g.size d) aA))) i) mZ fun dv cC bz=>?_
 have bA:=ud bv (uz Z bz) l
 refine bo (RC.fld (RC.upd bw bz (aa (Ne.symm (nb (aq i) lr a)) aF) bA)) fun cD=>Rt 6 cD<|re<|tn<|aX<|bJ cC (vI I.endC.e)<|?_
 rw[hs]
 exact bu aC bA
 have aC:=az ax
 refine bj<|sg<|?_
 refine L0<|bN (be Y (Ne.symm G) ap)<|?_
 refine aG (ub (ut k (ut ao (u1 ar Y im) (ac im (ac im aA))) (ac (nr a) (ac (ni g.size d) aA))) i) (mG c 0 ((ah.mk b false 0).wordV) 0 (((ah.mk b false 0).wordsC 1).wordV) 0 0 0 0 0 0 0 nS nS nS nS 0 0 0 0 0 nS) fun dw cE cF=>ai 1<|rt<|bJ cE (vI 0)<|?_
 rw[hs]
 exact bD aC ⟨_,_,_,_,_,rfl,aS.nil ..,aS.nil ..,(fun _ _ _=>aS.nil ..),aS.nil ..,aS.nil ..,(cT (by omega))⟩ (ud bv cF l)
 have cn:=au y
 refine aE 2<|cb ((c==15)) (fun L=>?_) (fun L=>?_)
 have cG:=ag L
 refine al 1<|?_
 have aJ:RC w _ A cp b T j (ah.mk b false 0):=⟨hsl,q,(Nat.le_trans f.size a),⟨0,(ub D o),Nat.zero_le _,rfl⟩,by omega⟩
 have t:=nb (aq o) lr d
 refine ay<|m3 (pm (most:=1968) (b8 (by omega)) aJ U (Nat.le_trans (le f.size g.size) d) t) fun dx cH cI a0=>?_
 have dy:=bR (RC.rng aJ)
 have dz:=bR (c:=(ah.mk b false 0).wordsC 1) (cU (RC.rng aJ) 1)
 refine nt<|sq<|aE 2<|c0<|bj<|al 1<|ay<|m3 (eF cH) fun cJ bB M dA=>?_
 refine bq ((bV (ah.mk b false 0) 1968).byteV)<|Pl 1<|aM 3<|?_
 have bC:=be M (Ne.symm t) cI
 refine aD bC 3<|bq (((ah.mk b false 0).wordsC 1).wordV)<|ay<|m1 (CI (n:=((ah.mk b false 0).wordsC 1).wordV) (w:=cJ) (by omega)) fun dB z=>Pl 1<|?_
 refine ay<|m2 (bf ((((bV (ah.mk b false 0) 1968).byteV)==(eo (((ah.mk b false 0).wordsC 1).wordV)))) 5 (RC.upd bB z aF (aH.step (RC.u bB) z))) fun dC cK a1=>?_
 refine gL cK fun B cL bE=>?_
 refine nt<|sq<|Rg 12 (fun w'=>w'.cell? ⟨aV,3,none⟩=some (vW (((ah.mk b false 0).wordsC 1).wordV))) fun dE C=>?_
 have bF:=uz z (aI a1 C)
 have bH:=be bF (Ne.symm t) bC
 refine bo (ae bH rfl) fun N=>Rt 0 N<|Rt 1 N<|Rt 3 N<|Rl 4 N (fun _ hs=>hs)<|Rr 5 N (vI (((ah.mk b false 0).wordsC 1).wordV)) (fun _ _=>bX (vI (IntKind.i64.wrap (((ah.mk b false 0).wordsC 1).wordV))) (by kernel_rfl) (congrArg (Value.int .i64) (i64_in (by omega))))<|?_
 have bI:=RC.upd bE C aF (aH.step (RC.u bE) C)
 refine R0 2 rfl<|Oc<|s7 (gB (n:=(bV (ah.mk b false 0) 1968).byteV) (by omega) bI) fun cM cO dF cP aN O=>?_
 have dG:=Nat.le_trans (ah.bytesR_le B ((bV (ah.mk b false 0) 1968).byteV)) (RC.clen bI)
 have bK:=be O (Ne.symm t) bH
 refine bo (ae bK rfl) fun dH=>R0 6 rfl<|Oc (args:=#[.slice cM ((B.bytesR ((bV (ah.mk b false 0) 1968).byteV)).length) cO,vI (((ah.mk b false 0).wordsC 1).wordV)])<|dV (AZ (n:=((ah.mk b false 0).wordsC 1).wordV) (cP _ _ (RC.rd aN)) (by omega) (by omega)) fun bL bM dI a2 dK dM a3=>?_
 have bO:=ub a3 bK
 refine bo (ae bO rfl) fun P=>Rt 7 P<|Rt 8 P<|Rt 9 P<|Rt 10 P<|Rt 11 P<|re<|tn<|al 2<|?_
 refine ay<|m2 (bf ((cQ (B.bytesR ((bV (ah.mk b false 0) 1968).byteV)) (((ah.mk b false 0).wordsC 1).wordV)).isSome) 6 (RC.upd aN a3 aF (aH.step (RC.u aN) a3))) fun dQ cR bP=>?_
 refine gL cR fun Q cS cV=>?_
 refine nt<|go<|Pl 2<|?_
 refine L0<|ci (be bP (Ne.symm t) bO) 13 (mG c 0 ((ah.mk b false 0).wordV) (((ah.mk b false 0).wordsC 1).wordV) 0 0 0 0 0 0 0 0 nS (.slice bL (((cQ (B.bytesR ((bV (ah.mk b false 0) 1968).byteV)) (((ah.mk b false 0).wordsC 1).wordV)).getD []).length) bM) nS nS 0 0 0 0 0 nS) fun dR cW bQ=>nl<|bn<|tn<|al 1<|?_
 have bS:=us bP bQ
 have aO:=ut a0 (ui M (ui bF (ui O (uz a3 bS)))) (ac im (ac im aA))
 have bT:=ut q aO (ac (ni f.size a) (ac (ni (le f.size g.size) d) aA))
 refine ay<|m2 (eV (RC.upd cV bQ (aa t aF) bT)) fun dS aQ R=>nt<|sq<|al 3<|L0<|eu (p:=⟨j,3,none⟩) (v:=vI Q.endC.e) (RC.fld aQ)<|ai 1<|?_
 have bU:=ud bT R (le f.size a)
 have hs:aj aP 0 c b=bp (aU.mk c 0 ((ah.mk b false 0).wordV) (((ah.mk b false 0).wordsC 1).wordV) 0 0 0 0 0 0 0 0 [] ((cQ (B.bytesR ((bV (ah.mk b false 0) 1968).byteV)) (((ah.mk b false 0).wordsC 1).wordV)).getD []) [] [] 0 0 0 0 0 []) Q:=by
   subst cS cL
   unfold aj aP eE ep dX iR sa iX s9 oL sV eb fR
   (try simp only[r,s,y,L,bi,dJ,dP,dL,dN,dO,reduceIte,fy])
   all_goals rfl
 refine cb ((Q.endC.e != 0)) (fun aR=>?_) (fun aR=>?_)
 have aT:=aB aR
 refine sq<|Rg 7 (fun w'=>w'.cell? ⟨j,3,none⟩=some (vI Q.endC.e)) fun dT a4=>?_
 have bW:=RC.upd aQ a4 aF (aH.step (RC.u aQ) a4)
 refine bo (RC.fld bW) fun S=>Rt 0 S<|Rt 1 S<|Rt 2 S<|Rt 3 S<|Rl 4 S (fun _ hs=>hs)<|?_
 refine R0 5 rfl<|gJ (ub (ut k (u1 aO (aI R a4) im) (ac (nr a) (ac (ni g.size d) aA))) i) mZ fun dU cX bY=>?_
 have bZ:=ud bU (uz a4 bY) l
 refine bo (RC.fld (RC.upd bW bY (aa (Ne.symm (nb (aq i) lr a)) aF) bZ)) fun cY=>Rt 6 cY<|re<|tn<|aX<|bJ cX (vI Q.endC.e)<|?_
 rw[hs]
 exact bu aT bZ
 have aT:=az aR
 refine bj<|sg<|?_
 refine L0<|bN (be R (Ne.symm t) cW)<|?_
 refine aG (ub (ut k (u1 aO R im) (ac (nr a) (ac (ni g.size d) aA))) i) (mG c 0 ((ah.mk b false 0).wordV) (((ah.mk b false 0).wordsC 1).wordV) 0 0 0 0 0 0 0 0 nS (.slice bL (((cQ (B.bytesR ((bV (ah.mk b false 0) 1968).byteV)) (((ah.mk b false 0).wordsC 1).wordV)).getD []).length) bM) nS nS 0 0 0 0 0 nS) fun dW cZ c2=>ai 1<|rt<|bJ cZ (vI 0)<|?_
 rw[hs]
 exact bD aT ⟨_,_,_,_,_,rfl,aS.nil ..,((av a2 (ut (aH.mono (S':=[j,aV,c3]) bS (ac im (ac im aA))) (us R c2) (ac im (ac im aA))) (fun x hx=>(aa (fun e=>(aL (aq o) (le (le (le (le (le (le (le a5.size V.size) a0.size) M.size) z.size) a1.size) C.size) O.size) a2) (e▸hx)) (aa (fun e=>(aL (aq aW) (le (le (le (le (le (le V.size a0.size) M.size) z.size) a1.size) C.size) O.size) a2) (e▸hx)) (aa (fun e=>(aL (aq i) (le (le (le (le (le (le (le (le g.size a5.size) V.size) a0.size) M.size) z.size) a1.size) C.size) O.size) a2) (e▸hx)) aF)))) (fun _ _ h=>h))).rd,(fun _ _ _=>aS.nil ..),aS.nil ..,aS.nil ..,(cT (by omega))⟩ (ud bU c2 l)
 have cG:=au L
 refine al 1<|?_
 refine aG (ub k i) mZ fun dY d0 d1=>ai 1<|rt<|br<|tr<|bJ d0 (vI 4)<|?_
 exact cv (by unfold aj aP eE ep dX iR sa iX s9 oL sV eb fR;(try simp only[r,s,y,L,bi,dJ,dP,dL,dN,dO,reduceIte,fy])<;>rfl) (bG (ud q d1 l))
theorem mY{m:Md}{A:Option Addr}{cp:Nat}{b:List Int}{w:World}{c:Int}(hcode:B8 c)(hsl:aZ m w (.slice A b.length cp) b)(hb:b.length≤1048576) :
    Calls Tryz.prog 109 #[vI 1,vB c,.slice A b.length cp] w (cN (.slice A b.length cp) b (aj aP 1 c b) w):=by
 obtain⟨hcode1,hcode2⟩:=hcode
 have hln:(b.length:Int)≤1048576:=by omega
 refine en 113 Tryz.func109 rfl<|sg<|aK mZ fun cL cM k h d=>ai 1<|sq<|aE 6<|c0<|bj<|al 2<|L0<|d6 #[.slice A b.length cp,vI 0,.bool false,vI 0] fun i cO a r g=>Pl 1<|aM 2<|aK mZ fun cP cQ f bw bz=>aG bw (mC c) fun J L bA=>?_
 refine nt<|sq<|aE 1<|bk<|sq<|al 2<|nl<|tn<|?_
 have x:=ud bz bA f
 have j:=aI g x
 have l:=aI d j
 refine cb ((c==1)) (fun o=>?_) (fun o=>?_)
 have bB:=ag o
 refine bj<|ct o<|sq<|aE 2<|c0<|bj<|al 1<|?_
 have bC:RC w _ A cp b J i (ah.mk b false 0):=⟨hsl,l,(Nat.le_trans d.size a),⟨0,(ub x r),Nat.zero_le _,rfl⟩,by omega⟩
 refine ay<|m3 (eF bC) fun cR bE bF cS=>bq ((ah.mk b false 0).byteV)<|Pl 1<|aM 4<|cu 3 [41] 44 (((decide (0<((ah.mk b false 0).byteV)))&&(decide (((ah.mk b false 0).byteV)≤250)))) (fun K ak=>?_) ?_
 refine bl 41 ((decide (0<((ah.mk b false 0).byteV)))) (fun y=>?_) (fun y=>?_)
 have bH:=of_decide_eq_true y
 exact Pl 3<|ce ak (decide (((ah.mk b false 0).byteV)≤250)) (by rw[y];rfl)
 have bH:=of_decide_eq_false y
 exact Pl 3<|ce ak false (by rw[y];rfl)
 refine ay<|m2 (bf (((decide (0<((ah.mk b false 0).byteV)))&&(decide (((ah.mk b false 0).byteV)≤250)))) 5 bE) fun cV bI bK=>?_
 refine gL bI fun x43 bL am=>?_
 refine nt<|go<|Pl 2<|ay<|s7 (gB (n:=(ah.mk b false 0).byteV) (by omega) am) fun an ao cW bM bO bP=>?_
 have cX:=Nat.le_trans (ah.bytesR_le x43 ((ah.mk b false 0).byteV)) (RC.clen am)
 refine Pl 1<|?_
 have ap:=u1 bF (u1 bK bP im) im
 have T:=nb (aq r) lr f
 refine L0<|ci (be ap (Ne.symm T) L) 14 (mG c 0 0 0 0 0 0 0 0 0 0 0 nS nS (.slice an ((x43.bytesR ((ah.mk b false 0).byteV)).length) ao) nS 0 0 0 0 0 nS) fun cY bQ ar=>nl<|bn<|tn<|al 1<|?_
 have U:=us ap ar
 have av:=ut l U (ac (ni d.size a) (ac (ni (le d.size g.size) f) aA))
 refine ay<|m2 (eV (RC.upd bO ar (aa T aF) av)) fun cZ V M=>nt<|sq<|al 3<|L0<|eu (p:=⟨i,3,none⟩) (v:=vI (((x43.bytesC ((ah.mk b false 0).byteV)).endC).e)) (RC.fld V)<|ai 1<|?_
 have aw:=ud av M (le d.size a)
 have hs:aj aP 1 c b=bp (aU.mk c 0 0 0 0 0 0 0 0 0 0 0 [] [] (x43.bytesR ((ah.mk b false 0).byteV)) [] 0 0 0 0 0 []) (x43.bytesC ((ah.mk b false 0).byteV)):=by
   subst bL
   unfold aj aP eE ep dX iR sa iX s9 oL sV eb fR
   (try simp only[o,bi,dJ,dP,dL,dN,dO,reduceIte,fy])
   all_goals rfl
 refine cb (((((x43.bytesC ((ah.mk b false 0).byteV)).endC).e)!=0)) (fun W=>?_) (fun W=>?_)
 have X:=aB W
 refine sq<|Rg 7 (fun w'=>w'.cell? ⟨i,3,none⟩=some (vI (((x43.bytesC ((ah.mk b false 0).byteV)).endC).e))) fun d0 N=>?_
 have ax:=RC.upd V N aF (aH.step (RC.u V) N)
 refine bo (RC.fld ax) fun z=>Rt 0 z<|Rt 1 z<|Rt 2 z<|Rt 3 z<|Rl 4 z (fun _ hs=>hs)<|?_
 refine R0 5 rfl<|gJ (ub (ut j (u1 U (aI M N) im) (ac (nr a) (ac (ni g.size f) aA))) h) mZ fun d1 bS aC=>?_
 have aJ:=ud aw (uz N aC) k
 refine bo (RC.fld (RC.upd ax aC (aa (Ne.symm (nb (aq h) lr a)) aF) aJ)) fun bT=>Rt 6 bT<|re<|tn<|aX<|bJ bS (vI (((x43.bytesC ((ah.mk b false 0).byteV)).endC).e))<|?_
 rw[hs]
 exact bu X aJ
 have X:=az W
 refine bj<|sg<|?_
 refine L0<|bN (be M (Ne.symm T) bQ)<|?_
 refine aG (ub (ut j (u1 U M im) (ac (nr a) (ac (ni g.size f) aA))) h) (mG c 0 0 0 0 0 0 0 0 0 0 0 nS nS (.slice an ((x43.bytesR ((ah.mk b false 0).byteV)).length) ao) nS 0 0 0 0 0 nS) fun d2 bU bW=>ai 1<|rt<|bJ bU (vI 0)<|?_
 rw[hs]
 exact bD X ⟨_,_,_,_,_,rfl,aS.nil ..,aS.nil ..,bM,aS.nil ..,aS.nil ..,(cT (by omega))⟩ (ud aw bW k)
 have bB:=au o
 refine go<|ai 2<|cb ((c==2)) (fun s=>?_) (fun s=>?_)
 have bX:=ag s
 refine sq<|aE 2<|c0<|bj<|al 1<|?_
 have bY:RC w _ A cp b J i (ah.mk b false 0):=⟨hsl,l,(Nat.le_trans d.size a),⟨0,(ub x r),Nat.zero_le _,rfl⟩,by omega⟩
 refine ay<|m3 (eF bY) fun d3 bZ c2 d4=>bq ((ah.mk b false 0).byteV)<|Pl 1<|aM 4<|cu 3 [41] 44 (((decide (0<((ah.mk b false 0).byteV)))&&(decide (((ah.mk b false 0).byteV)≤250)))) (fun K aL=>?_) ?_
 refine bl 41 ((decide (0<((ah.mk b false 0).byteV)))) (fun B=>?_) (fun B=>?_)
 have c3:=of_decide_eq_true B
 exact Pl 3<|ce aL (decide (((ah.mk b false 0).byteV)≤250)) (by rw[B];rfl)
 have c3:=of_decide_eq_false B
 exact Pl 3<|ce aL false (by rw[B];rfl)
 refine ay<|m2 (bf (((decide (0<((ah.mk b false 0).byteV)))&&(decide (((ah.mk b false 0).byteV)≤250)))) 5 bZ) fun d5 c4 c5=>?_
 refine gL c4 fun q c6 aN=>?_
 refine nt<|go<|Pl 2<|ay<|s7 (gB (n:=(ah.mk b false 0).byteV) (by omega) aN) fun aO aQ d7 c7 c8 c9=>?_
 have d9:=Nat.le_trans (ah.bytesR_le q ((ah.mk b false 0).byteV)) (RC.clen aN)
 refine Pl 1<|?_
 have aR:=u1 c2 (u1 c5 c9 im) im
 have Y:=nb (aq r) lr f
 refine L0<|ci (be aR (Ne.symm Y) L) 14 (mG c 0 0 0 0 0 0 0 0 0 0 0 nS nS (.slice aO ((q.bytesR ((ah.mk b false 0).byteV)).length) aQ) nS 0 0 0 0 0 nS) fun da ca aT=>nl<|bn<|tn<|al 1<|?_
 have Z:=us aR aT
 have aV:=ut l Z (ac (ni d.size a) (ac (ni (le d.size g.size) f) aA))
 refine ay<|m2 (eV (RC.upd c8 aT (aa Y aF) aV)) fun db a0 O=>nt<|sq<|al 3<|L0<|eu (p:=⟨i,3,none⟩) (v:=vI (((q.bytesC ((ah.mk b false 0).byteV)).endC).e)) (RC.fld a0)<|ai 1<|?_
 have aW:=ud aV O (le d.size a)
 have hs:aj aP 1 c b=bp (aU.mk c 0 0 0 0 0 0 0 0 0 0 0 [] [] (q.bytesR ((ah.mk b false 0).byteV)) [] 0 0 0 0 0 []) (q.bytesC ((ah.mk b false 0).byteV)):=by
   subst c6
   unfold aj aP eE ep dX iR sa iX s9 oL sV eb fR
   (try simp only[o,s,bi,dJ,dP,dL,dN,dO,reduceIte,fy])
   all_goals rfl
 refine cb (((((q.bytesC ((ah.mk b false 0).byteV)).endC).e)!=0)) (fun a1=>?_) (fun a1=>?_)
 have a2:=aB a1
 refine sq<|Rg 7 (fun w'=>w'.cell? ⟨i,3,none⟩=some (vI (((q.bytesC ((ah.mk b false 0).byteV)).endC).e))) fun dc P=>?_
 have aY:=RC.upd a0 P aF (aH.step (RC.u a0) P)
 refine bo (RC.fld aY) fun C=>Rt 0 C<|Rt 1 C<|Rt 2 C<|Rt 3 C<|Rl 4 C (fun _ hs=>hs)<|?_
 refine R0 5 rfl<|gJ (ub (ut j (u1 Z (aI O P) im) (ac (nr a) (ac (ni g.size f) aA))) h) mZ fun dd cc b0=>?_
 have b1:=ud aW (uz P b0) k
 refine bo (RC.fld (RC.upd aY b0 (aa (Ne.symm (nb (aq h) lr a)) aF) b1)) fun cd=>Rt 6 cd<|re<|tn<|aX<|bJ cc (vI (((q.bytesC ((ah.mk b false 0).byteV)).endC).e))<|?_
 rw[hs]
 exact bu a2 b1
 have a2:=az a1
 refine bj<|sg<|?_
 refine L0<|bN (be O (Ne.symm Y) ca)<|?_
 refine aG (ub (ut j (u1 Z O im) (ac (nr a) (ac (ni g.size f) aA))) h) (mG c 0 0 0 0 0 0 0 0 0 0 0 nS nS (.slice aO ((q.bytesR ((ah.mk b false 0).byteV)).length) aQ) nS 0 0 0 0 0 nS) fun de cf cg=>ai 1<|rt<|bJ cf (vI 0)<|?_
 rw[hs]
 exact bD a2 ⟨_,_,_,_,_,rfl,aS.nil ..,aS.nil ..,c7,aS.nil ..,aS.nil ..,(cT (by omega))⟩ (ud aW cg k)
 have bX:=au s
 refine aE 2<|cb ((c==5)) (fun t=>?_) (fun t=>?_)
 have ch:=ag t
 refine al 1<|?_
 have cj:RC w _ A cp b J i (ah.mk b false 0):=⟨hsl,l,(Nat.le_trans d.size a),⟨0,(ub x r),Nat.zero_le _,rfl⟩,by omega⟩
 refine ay<|m3 (d8 cj) fun df ck b2 dg=>Pl 1<|?_
 have D:=nb (aq r) lr f
 refine L0<|ci (be b2 (Ne.symm D) L) 2 (mG c 0 ((ah.mk b false 0).wordV) 0 0 0 0 0 0 0 0 0 nS nS nS nS 0 0 0 0 0 nS) fun dh cl b3=>aM 1<|?_
 have a3:=us b2 b3
 have b4:=ut l a3 (ac (ni d.size a) (ac (ni (le d.size g.size) f) aA))
 refine ay<|m3 (d8 (RC.upd ck b3 (aa D aF) b4)) fun di cm b5 dj=>Pl 1<|?_
 refine L0<|ci (be b5 (Ne.symm D) cl) 4 (mG c 0 ((ah.mk b false 0).wordV) 0 (((ah.mk b false 0).wordsC 1).wordV) 0 0 0 0 0 0 0 nS nS nS nS 0 0 0 0 0 nS) fun dk a4 b6=>nt<|go<|Pl 2<|aD a4 4<|Pl 2<|cu 4 [62] 66 ((((((ah.mk b false 0).wordsC 1).wordV)==0)||((((ah.mk b false 0).wordsC 1).wordV)==65280))) (fun K b7=>?_) ?_
 refine bl 62 (((((ah.mk b false 0).wordsC 1).wordV)==0)) (fun E=>?_) (fun E=>?_)
 have cn:=ag E
 exact Pl 4<|ce b7 true (by rw[E];rfl)
 have cn:=au E
 exact Pl 1<|L1<|dD a4 4<|Pl 2<|ce b7 ((((ah.mk b false 0).wordsC 1).wordV)==65280) (by rw[E];rfl)
 have a5:=us b5 b6
 have b9:=ut b4 a5 (ac (ni d.size a) (ac (ni (le d.size g.size) f) aA))
 refine ay<|m2 (bf ((((((ah.mk b false 0).wordsC 1).wordV)==0)||((((ah.mk b false 0).wordsC 1).wordV)==65280))) 6 (RC.upd cm b6 (aa D aF) b9)) fun dl co cq=>?_
 refine gL co fun F cr cs=>?_
 refine nl<|bn<|tn<|al 1<|ay<|m2 (eV cs) fun dm a6 cw=>nt<|sq<|al 3<|L0<|eu (p:=⟨i,3,none⟩) (v:=vI F.endC.e) (RC.fld a6)<|ai 1<|?_
 have Q:=u1 cq cw im
 have ba:=ud b9 Q (le d.size a)
 have hs:aj aP 1 c b=bp (aU.mk c 0 ((ah.mk b false 0).wordV) 0 (((ah.mk b false 0).wordsC 1).wordV) 0 0 0 0 0 0 0 [] [] [] [] 0 0 0 0 0 []) F:=by
   subst cr
   unfold aj aP eE ep dX iR sa iX s9 oL sV eb fR
   (try simp only[o,s,t,bi,dJ,dP,dL,dN,dO,reduceIte,fy])
   all_goals rfl
 refine cb ((F.endC.e != 0)) (fun a7=>?_) (fun a7=>?_)
 have a8:=aB a7
 refine sq<|Rg 7 (fun w'=>w'.cell? ⟨i,3,none⟩=some (vI F.endC.e)) fun dn R=>?_
 have bb:=RC.upd a6 R aF (aH.step (RC.u a6) R)
 refine bo (RC.fld bb) fun G=>Rt 0 G<|Rt 1 G<|Rt 2 G<|Rt 3 G<|Rl 4 G (fun _ hs=>hs)<|?_
 refine R0 5 rfl<|gJ (ub (ut j (ut a3 (u1 a5 (aI Q R) im) (ac im (ac im aA))) (ac (nr a) (ac (ni g.size f) aA))) h) mZ fun dp cx bc=>?_
 have bd:=ud ba (uz R bc) k
 refine bo (RC.fld (RC.upd bb bc (aa (Ne.symm (nb (aq h) lr a)) aF) bd)) fun cy=>Rt 6 cy<|re<|tn<|aX<|bJ cx (vI F.endC.e)<|?_
 rw[hs]
 exact bu a8 bd
 have a8:=az a7
 refine bj<|sg<|?_
 refine L0<|bN (be Q (Ne.symm D) a4)<|?_
 refine aG (ub (ut j (ut a3 (u1 a5 Q im) (ac im (ac im aA))) (ac (nr a) (ac (ni g.size f) aA))) h) (mG c 0 ((ah.mk b false 0).wordV) 0 (((ah.mk b false 0).wordsC 1).wordV) 0 0 0 0 0 0 0 nS nS nS nS 0 0 0 0 0 nS) fun dq cz cA=>ai 1<|rt<|bJ cz (vI 0)<|?_
 rw[hs]
 exact bD a8 ⟨_,_,_,_,_,rfl,aS.nil ..,aS.nil ..,(fun _ _ _=>aS.nil ..),aS.nil ..,aS.nil ..,(cT (by omega))⟩ (ud ba cA k)
 have ch:=au t
 refine aE 2<|cb ((c==15)) (fun H=>?_) (fun H=>?_)
 have cB:=ag H
 refine al 1<|?_
 have a9:RC w _ A cp b J i (ah.mk b false 0):=⟨hsl,l,(Nat.le_trans d.size a),⟨0,(ub x r),Nat.zero_le _,rfl⟩,by omega⟩
 have bg:=nb (aq r) lr f
 refine ay<|m3 (pm (most:=1968) (b8 (by omega)) a9 L (Nat.le_trans (le d.size g.size) f) bg) fun dr cC cD cE=>?_
 have ds:=bR (RC.rng a9)
 have dt:=bR (c:=(ah.mk b false 0).wordsC 1) (cU (RC.rng a9) 1)
 refine nt<|sq<|aE 2<|c1<|xt<|tx<|bx<|tn<|sq<|go<|Pl 1<|ay<|m2 (eV cC) fun du ab bh=>nt<|sq<|al 3<|L0<|eu (p:=⟨i,3,none⟩) (v:=vI (((bV (ah.mk b false 0) 1968).endC).e)) (RC.fld ab)<|ai 1<|?_
 have ad:=u1 cE bh im
 have bm:=ut l ad (ac (ni d.size a) (ac (ni (le d.size g.size) f) aA))
 have hs:aj aP 1 c b=bp (aU.mk c 0 ((ah.mk b false 0).wordV) (((ah.mk b false 0).wordsC 1).wordV) 0 0 0 0 0 0 0 0 [] [] [] [] 0 0 0 0 0 []) (bV (ah.mk b false 0) 1968):=by
   unfold aj aP eE ep dX iR sa iX s9 oL sV eb fR
   (try simp only[o,s,t,H,bi,dJ,dP,dL,dN,dO,reduceIte,fy])
   all_goals rfl
 refine cb (((((bV (ah.mk b false 0) 1968).endC).e)!=0)) (fun ae=>?_) (fun ae=>?_)
 have af:=aB ae
 refine sq<|Rg 7 (fun w'=>w'.cell? ⟨i,3,none⟩=some (vI (((bV (ah.mk b false 0) 1968).endC).e))) fun dv S=>?_
 have bs:=RC.upd ab S aF (aH.step (RC.u ab) S)
 refine bo (RC.fld bs) fun I=>Rt 0 I<|Rt 1 I<|Rt 2 I<|Rt 3 I<|Rl 4 I (fun _ hs=>hs)<|?_
 refine R0 5 rfl<|gJ (ub (ut j (aI ad S) (ac (nr a) (ac (ni g.size f) aA))) h) mZ fun dw cF bt=>?_
 have bv:=ud bm (uz S bt) k
 refine bo (RC.fld (RC.upd bs bt (aa (Ne.symm (nb (aq h) lr a)) aF) bv)) fun cG=>Rt 6 cG<|re<|tn<|aX<|bJ cF (vI (((bV (ah.mk b false 0) 1968).endC).e))<|?_
 rw[hs]
 exact bu af bv
 have af:=az ae
 refine bj<|sg<|?_
 refine L0<|bN (be bh (Ne.symm bg) cD)<|?_
 refine aG (ub (ut j ad (ac (nr a) (ac (ni g.size f) aA))) h) (mG c 0 ((ah.mk b false 0).wordV) (((ah.mk b false 0).wordsC 1).wordV) 0 0 0 0 0 0 0 0 nS nS nS nS 0 0 0 0 0 nS) fun dx cH cI=>ai 1<|rt<|bJ cH (vI 0)<|?_
 rw[hs]
 exact bD af ⟨_,_,_,_,_,rfl,aS.nil ..,aS.nil ..,(fun _ _ _=>aS.nil ..),aS.nil ..,aS.nil ..,(cT (by omega))⟩ (ud bm cI k)
 have cB:=au H
 refine al 1<|?_
 refine aG (ub j h) mZ fun dy cJ cK=>ai 1<|rt<|br<|tr<|bJ cJ (vI 4)<|?_
 exact cv (by unfold aj aP eE ep dX iR sa iX s9 oL sV eb fR;(try simp only[o,s,t,H,bi,dJ,dP,dL,dN,dO,reduceIte,fy])<;>rfl) (bG (ud l cK k))
theorem mV{m:Md}{A:Option Addr}{cp:Nat}{b:List Int}{w:World}{dir c:Int}(hcode:B8 c)(hsl:aZ m w (.slice A b.length cp) b)(hb:b.length≤1048576)(hd:¬ (dir=0∨dir=1)) :
    Calls Tryz.prog 109 #[vI dir,vB c,.slice A b.length cp] w (cN (.slice A b.length cp) b (aj aP dir c b) w):=by
 obtain⟨hcode1,hcode2⟩:=hcode
 have hln:(b.length:Int)≤1048576:=by omega
 have e0:(dir != 0)=true:=by simp;omega
 have e1:(dir != 1)=true:=by simp;omega
 refine en 113 Tryz.func109 rfl<|sg<|aK mZ fun g h a d e=>ai 1<|sq<|al 3<|sy 16 e0<|Pl 3<|nl<|tn<|ct e1<|al 1<|aG d mZ fun i eN f=>ai 1<|aX<|bJ eN (vI 1)<|?_
 exact cv (by unfold aj aP eE ep dX iR sa iX s9 oL sV eb fR;(try simp only[e0,e1,bi,dJ,dP,dL,dN,dO,reduceIte,hd,fy])<;>rfl) (bG (ud e f a))
open Go.RowKit
theorem jp{C:ah}(h:fm C){b:Bool}{x:Int}:fm (C.need b x):=fun y hy=>h y (by rwa [l6] at hy)
theorem ju{C:ah}(h:fm C){n:Int}:fm (C.bytesC n):=iC h n
theorem ol{C:ah}(h:fm C){n:Int}:fm (C.wordsC n):=cU h n
theorem Av(C:ah)(x:Int) : (C.bytesC 1).need (!(C.bytesC 1).sh) x=C.bytesC 1:=by
  by_cases hf:C.fails 1=true
  · exact eQ (fP hf)
  · have h:(C.bytesC 1).sh=false:=by
      unfold ah.bytesC
      rw[if_neg hf]
      unfold ah.fails at hf
      simp only[Bool.or_eq_true,decide_eq_true_eq,not_or] at hf
      show C.sh=false
      simpa using hf.1.1
    rw[h]
    unfold ah.need
    rw[if_neg (by rintro⟨_,h⟩;cases h)]
theorem yF{v:Int}(h:0≤v) : decide (0<v)=(v != 0):=by
  rw[Bool.eq_iff_iff]
  simp only[decide_eq_true_eq,bne_iff_ne,ne_eq]
  omega
def Dk (C:ah) : ah:=((C.bytesC 1).need (!(C.bytesC 1).sh) 5).need (C.byteV==6) 9
def Dn (C:ah) : ah:=((Dk C).wordsC 1).need (decide (0<(Dk C).wordV)) 6
def Dj (C:ah) : ah:=((Dn C).wordsC 1).need (decide ((Dn C).wordV≤9999)) 7
def xT (C:ah) : ah:=((Dj C).wordsC 1).need (decide (0<(Dj C).wordV)) 5
theorem xk(C:ah) : Dk C=j8 C:=by unfold Dk j8;rw[Av]
theorem tT{C:ah}(h:fm C) : fm (j8 C):=jp (ju h)
theorem wK{C:ah}(h:fm C) : Dn C=jJ C:=by unfold Dn jJ;rw[xk,yF (bR (tT h)).1]
theorem zg{C:ah}(h:fm C) : fm (jJ C):=jp (ol (tT h))
theorem yR{C:ah}(h:fm C) : Dj C=nw C:=by unfold Dj nw;rw[wK h]
theorem zM{C:ah}(h:fm C) : fm (nw C):=jp (ol (zg h))
theorem vS{C:ah}(h:fm C) : xT C=dQ C:=by unfold xT dQ;rw[yR h,yF (bR (zM h)).1]
theorem BW{C:ah}(h:C.e≠0) : C.endC=C:=by unfold ah.endC;exact eQ h
theorem wZ{b:List Int}(h:b.length≠0) : (ah.mk b false 0).byteV=b.getD 0 0∧(ah.mk b false 0).bytesC 1=⟨b.drop 1,false,0⟩:=by
  have hf:¬ (ah.mk b false 0).fails 1=true:=by
    unfold ah.fails
    simp only[Bool.or_eq_true,decide_eq_true_eq,not_or]
    exact⟨⟨by decide,by decide⟩,by omega⟩
  constructor
  · unfold ah.byteV ah.bytesR
    rw[if_neg hf]
    rcases b with _|⟨x,t⟩
    · exact absurd rfl h
    · rfl
  · unfold ah.bytesC
    rw[if_neg hf]
    rfl
def dg (b:List Int)(n:Int) : List Int:=(b.take (n+1).toNat).drop 1
def eg (one:Int→ah→Int × ah × dx)(c:Int)(b:List Int) : aU × Int :=
  if (aY one (dg b (b.getD 0 0)).length 0 ⟨dg b (b.getD 0 0),false,0⟩ []).1.e != 0 then (aU.zero,bE (aY one (dg b (b.getD 0 0)).length 0 ⟨dg b (b.getD 0 0),false,0⟩ []).1.e)
  else if decide (b.getD 0 0+1<(b.length:Int)) then (aU.zero,3)
  else ({ aU.zero with code:=c,recs:=(aY one (dg b (b.getD 0 0)).length 0 ⟨dg b (b.getD 0 0),false,0⟩ []).2 },0)
def dh (one:Int→ah→Int × ah × dx)(may:Int→Bool)(c:Int)(b:List Int) : aU × Int :=
  if (b.length:Int)==0 then (aU.zero,2)
  else if !(may (b.getD 0 0)) then (aU.zero,5)
  else if decide ((b.length:Int)<b.getD 0 0+1) then (aU.zero,2)
  else eg one c b
theorem m7{M:aU}{C:ah}(h:C.e≠0) : bp M C=(aU.zero,C.e):=by
  unfold bp
  rw[BW h,if_neg h]
theorem l7{one:Int→ah→Int × ah × dx}{may:Int→Bool}{c:Int}{b:List Int}(hr:∀ x,x∈b→0≤x∧x<256) : bp (eh one may c ⟨b,false,0⟩).2 (eh one may c ⟨b,false,0⟩).1=dh one may c b:=by
  unfold dh
  by_cases h0:b.length=0
  · rw[if_pos (by rw[beq_iff_eq];omega)]
    obtain rfl:=List.eq_nil_of_length_eq_zero h0
    have e1:(lK may ⟨[],false,0⟩).e=2:=by
      unfold lK
      rw[eQ (fP (by decide))]
      rfl
    have e2:((lK may ⟨[],false,0⟩).bytesC (ah.mk [] false 0).byteV).e=2:=by
      have hs:(lK may ⟨[],false,0⟩).sh=true:=by
        unfold lK
        rw[eQ (fP (by decide))]
        rfl
      unfold ah.bytesC
      rw[if_pos (by unfold ah.fails;rw[hs];rfl),eQ (by show(lK may ⟨[],false,0⟩).e≠0;rw[e1];decide)]
      exact e1
    unfold eh
    dsimp only
    rw[eQ (by rw[e2];decide),m7 (by rw[e2];decide),e2]
  rw[if_neg (by rw[beq_iff_eq];omega)]
  obtain⟨e1,e2⟩:=wZ h0
  have hn:0≤b.getD 0 0∧b.getD 0 0<256:=by
    rcases b with _|⟨x,t⟩
    · exact absurd rfl h0
    · exact hr x (by simp)
  by_cases hm:may (b.getD 0 0)=true
  · rw[if_neg (by rw[hm];decide)]
    have e3:lK may ⟨b,false,0⟩=⟨b.drop 1,false,0⟩:=by
      unfold lK
      rw[e1,e2,hm]
      rfl
    by_cases hs:(b.length:Int)<b.getD 0 0+1
    · rw[if_pos (by simpa using hs)]
      have hf:(ah.mk (b.drop 1) false 0).fails (b.getD 0 0)=true:=by
        unfold ah.fails
        simp only[Bool.or_eq_true,decide_eq_true_eq,List.length_drop]
        exact .inr (by omega)
      have e4:(lK may ⟨b,false,0⟩).bytesC (ah.mk b false 0).byteV=⟨[],true,2⟩:=by
        rw[e1,e3]
        unfold ah.bytesC
        rw[if_pos hf]
        rfl
      unfold eh
      dsimp only
      rw[e4,eQ (by decide),m7 (by decide)]
    · rw[if_neg (by simpa using hs)]
      have hf:¬ (ah.mk (b.drop 1) false 0).fails (b.getD 0 0)=true:=by
        unfold ah.fails
        simp only[Bool.or_eq_true,decide_eq_true_eq,List.length_drop,not_or]
        exact⟨⟨by decide,by omega⟩,by omega⟩
      have e4:(lK may ⟨b,false,0⟩).bytesC (ah.mk b false 0).byteV=⟨(b.drop 1).drop (b.getD 0 0).toNat,false,0⟩:=by
        rw[e1,e3]
        unfold ah.bytesC
        rw[if_neg hf]
      have e5:zb may ⟨b,false,0⟩=⟨dg b (b.getD 0 0),false,0⟩:=by
        unfold zb dg
        rw[e1,e3]
        unfold ah.bytesR
        rw[if_neg hf,show(b.getD 0 0+1).toNat=1+(b.getD 0 0).toNat from by omega,List.drop_take]
        rw[show 1+(b.getD 0 0).toNat-1=(b.getD 0 0).toNat from by omega]
      unfold eh eg sL
      dsimp only
      rw[e4,e5]
      by_cases hz:(aY one (dg b (b.getD 0 0)).length 0 ⟨dg b (b.getD 0 0),false,0⟩ []).1.e=0
      · rw[hz,if_neg (by decide)]
        have e6:(ah.mk ((b.drop 1).drop (b.getD 0 0).toNat) false 0).need ((0:Int)==0) (bE 0)=⟨(b.drop 1).drop (b.getD 0 0).toNat,false,0⟩:=rfl
        rw[e6]
        by_cases hl:b.getD 0 0+1<(b.length:Int)
        · rw[if_pos (by simpa using hl)]
          have e7:(ah.mk ((b.drop 1).drop (b.getD 0 0).toNat) false 0).endC=⟨(b.drop 1).drop (b.getD 0 0).toNat,false,3⟩:=by
            unfold ah.endC ah.need
            rw[if_pos ⟨rfl,by rw[beq_eq_false_iff_ne];simp only[List.length_drop];omega⟩]
          unfold bp
          rw[e7,if_neg (show ¬ (3:Int)=0 from by decide)]
        · rw[if_neg (by simpa using hl)]
          have e7:(ah.mk ((b.drop 1).drop (b.getD 0 0).toNat) false 0).endC=⟨(b.drop 1).drop (b.getD 0 0).toNat,false,0⟩:=by
            unfold ah.endC ah.need
            rw[if_neg (by rintro⟨_,h⟩;rw[beq_eq_false_iff_ne] at h;simp only[List.length_drop] at h;omega)]
          unfold bp
          rw[e7,if_pos rfl]
      · rw[if_pos (by simpa using hz)]
        have hw:bE (aY one (dg b (b.getD 0 0)).length 0 ⟨dg b (b.getD 0 0),false,0⟩ []).1.e≠0:=by
          unfold bE
          split
          · decide
          · exact hz
        have e6:(ah.mk ((b.drop 1).drop (b.getD 0 0).toNat) false 0).need ((aY one (dg b (b.getD 0 0)).length 0 ⟨dg b (b.getD 0 0),false,0⟩ []).1.e==0) (bE (aY one (dg b (b.getD 0 0)).length 0 ⟨dg b (b.getD 0 0),false,0⟩ []).1.e)=⟨(b.drop 1).drop (b.getD 0 0).toNat,false,bE (aY one (dg b (b.getD 0 0)).length 0 ⟨dg b (b.getD 0 0),false,0⟩ []).1.e⟩:=by
          unfold ah.need
          rw[if_pos ⟨rfl,by simpa using hz⟩]
        rw[e6,m7 hw]
  · have hm:may (b.getD 0 0)=false:=by simpa using hm
    rw[if_pos (by rw[hm];rfl)]
    have e3:lK may ⟨b,false,0⟩=⟨b.drop 1,false,5⟩:=by
      unfold lK
      rw[e1,e2,hm]
      rfl
    have e4:((lK may ⟨b,false,0⟩).bytesC (ah.mk b false 0).byteV).e=5:=by
      rw[e3]
      unfold ah.bytesC
      split
      · rfl
      · rfl
    unfold eh
    dsimp only
    rw[eQ (by rw[e4];decide),m7 (by rw[e4];decide),e4]
theorem sf{b:List Int}(hr:∀ x,x∈b→0≤x∧x<256) : aj bh 0 20 b=dh dl j9 20 b:=l7 hr
theorem sB{b:List Int}(hr:∀ x,x∈b→0≤x∧x<256) : aj bh 1 20 b=dh bY j7 20 b:=l7 hr
theorem yd{dir:Int}{b:List Int}(hd:dir=0∨dir=1)(hr:∀ x,x∈b→0≤x∧x<256) : aj bh dir 21 b=dh dr jl 21 b:=by
  unfold aj
  rw[if_pos hd]
  exact l7 hr
theorem zU:∀ n:Nat,n<256→(decide (1≤(n:Int)%128)&&decide ((n:Int)%128≤3))=cn (n:Int):=by decide +kernel
theorem CL{x:Int}(h:0≤x∧x<256) : (decide (1≤x%128)&&decide (x%128≤3))=cn x:=by
  obtain⟨n,rfl⟩:=Int.eq_ofNat_of_zero_le h.1
  exact zU n (by omega)
theorem Ce{x:Int}:(decide (0<x)&&decide (x<5))=(decide (1≤x)&&decide (x≤4)):=by
  rw[Bool.eq_iff_iff]
  simp only[Bool.and_eq_true,decide_eq_true_eq]
  omega
def fQ (C:ah) : ah:=((dS C).bytesC 1).need (decide (0<(dS C).byteV)&&decide ((dS C).byteV<5)) 6
theorem wD(C:ah) : fQ C=eP C:=by unfold fQ eP;rw[Ce]
def gU (C:ah) : ah:=(C.bytesC 1).need (decide (1≤C.byteV%128)&&decide (C.byteV%128≤3)) 6
def iZ (C:ah) : ah:=((gU C).bytesC 1).need ((gU C).byteV==0 || (gU C).byteV==255) 6
def j5 (C:ah) : ah:=((iZ C).bytesC 1).need ((iZ C).byteV==0 || (gU C).byteV==255) 6
def kv (kd:Int)(C:ah) : ah:=((j5 C).bytesC 1).need ((j5 C).byteV==1 || kd != 4) 5
def eK (kd:Int)(C:ah) : ah × List Obj:=eH (j5 C).byteV.toNat (kv kd C) []
theorem mw{C:ah}(h:fm C) : gU C=lM C:=by unfold gU lM;rw[CL (db h)]
theorem qJ{C:ah}(h:fm C) : iZ C=lQ C:=by unfold iZ lQ;rw[mw h]
theorem yB{C:ah}(h:fm C) : j5 C=nM C:=by
  unfold j5 nM
  rw[qJ h,mw h]
  by_cases e:((lQ C).bytesC 1).e=0
  · have h1:=(i4 e).1
    unfold lQ at h1
    have h2:=(gT (by decide) h1).2
    congr 1
    rw[Bool.eq_iff_iff]
    simp only[Bool.or_eq_true,beq_iff_eq,bne_iff_ne,ne_eq] at h2 ⊢
    omega
  · rw[eQ e,eQ e]
theorem s4{kd:Int}{C:ah}(h:fm C) : eK kd C=er kd C:=by
  unfold eK er kv xH
  rw[yB h,Bool.or_comm]
def du (dir c:Int)(C:ah) : Option (ah × aU) :=
  if c != 43 then none
  else if C.byteV==13 then some ((gc C).bytesC ((dS C).l.length:Int),{ aU.zero with code:=43,mei:=C.byteV,data:=(gc C).bytesR ((dS C).l.length:Int) })
  else if dir==0 then some ((fQ C).bytesC 1,{ aU.zero with code:=43,mei:=C.byteV,kind:=(dS C).byteV,next:=(fQ C).byteV })
  else some ((eK (dS C).byteV (fQ C)).1,{ aU.zero with code:=43,mei:=C.byteV,kind:=(dS C).byteV,level:=(fQ C).byteV,more:=(gU (fQ C)).byteV,next:=(iZ (fQ C)).byteV,objects:=(eK (dS C).byteV (fQ C)).2 })
theorem qy{dir c:Int}{b:List Int}(hr:∀ x,x∈b→0≤x∧x<256) : aj du dir c b=aj bU dir c b:=by
  unfold aj
  split
  · rename_i hd
    unfold du bU
    by_cases hc:c=43
    · subst hc
      have hD:fm (fQ ⟨b,false,0⟩):=jp (ju (jp (ju (C:=⟨b,false,0⟩) hr)))
      have hl:(gc ⟨b,false,0⟩).l.length=(dS ⟨b,false,0⟩).l.length:=by unfold gc;rw[l6]
      rw[if_neg (show ¬ (((43:Int)!=43)=true) from by decide),if_neg (show ¬ (((43:Int)!=43)=true) from by decide),mw hD,qJ hD,s4 hD,wD,hl]
      rcases hd with rfl|rfl
      · rw[if_pos (show((0:Int)==0)=true from rfl),if_neg (show ¬ ((0:Int)==1)=true from by decide)]
      · rw[if_neg (show ¬ ((1:Int)==0)=true from by decide),if_pos (show((1:Int)==1)=true from rfl)]
    · rw[if_pos (by simpa using hc),if_pos (by simpa using hc)]
  · rfl
open Go.RowKit
theorem RC.safe{w0:World}{m:Md}{A:Option Addr}{cp:Nat}{full:List Int}{w:World}{g:Nat}{C:ah}(h:RC w0 m A cp full w g C)(D:List TypeId)(hD:194∉D) : dv true D [g] w:=by
  obtain⟨k,h1,_⟩:=h.cell
  exact dv.one h1 hD
theorem RC.nrow{α:Type}{base sz n c:Nat}{e:TypeId}{R:World→α→List Value→Prop}{B:Option Addr}{xs:List α}{w0:World}{m:Md}{A:Option Addr}{cp:Nat}{full:List Int}{w:World}{g:Nat}{C:ah}(h:RC w0 m A cp full w g C)(ho:b6 base e sz R w (.slice B n c) xs)(ht:(194==e)=false) : g∉ob B:=by
  obtain⟨k,h1,_⟩:=h.cell
  exact dG h1 ho ht
theorem RC.fld2{w0:World}{m:Md}{A:Option Addr}{cp:Nat}{full:List Int}{w:World}{g:Nat}{C:ah}(h:RC w0 m A cp full w g C) : w.cell? ⟨g,2,none⟩=some (.bool C.sh):=by
  obtain⟨k,h1,_⟩:=h.cell
  rw[bF h1]
  rfl
def Br (w0:World)(m:Md)(A:Option Addr)(cp:Nat)(full:List Int)(g:Nat)(C':ah)(r:dx)(w:World)(e:Ending)(w':World) : Prop:=e = .returned (.agg #[.int .u16 r.file,.int .u16 r.record,.int .u16 r.count,.slice none 0 0])∧eN r.file∧eN r.record∧eN r.count∧RC w0 m A cp full w' g C'∧aH [g] w w'
theorem oT{x:Int}(h : -1≤x∧x≤255) : 0≤Int.tdiv x 2∧Int.tdiv x 2≤127:=by
  by_cases h0:x = -1
  · subst h0;decide
  · rw[Int.tdiv_eq_ediv_of_nonneg (by omega)]
    omega
theorem jB{one:Int→ah→Int × ah × dx}{n:Nat}{s:Int}{C:ah}{L:List dx}{R:ah × List dx}(h3:(C.e=0∧C.l.length≤n∧aY one n s C L=R)∨(C.e≠0∧R.1=C))(hc:0<C.l.length)(he:C.e=0)(hlt:(one s C).2.1.l.length<C.l.length) :
    ((one s C).2.1.e=0∧(one s C).2.1.l.length≤n-1∧aY one (n-1) (one s C).1 (one s C).2.1 (L++[(one s C).2.2])=R)∨((one s C).2.1.e≠0∧R.1=(one s C).2.1):=by
  rcases h3 with⟨_,hn,hR⟩|⟨h,_⟩
  · obtain⟨k,rfl⟩ : ∃ k,n=k+1:=⟨n-1,by omega⟩
    unfold aY at hR
    rw[if_pos (by rw[he];simpa using hc)] at hR
    by_cases hz:(one s C).2.1.e=0
    · rw[if_neg (by rw[hz];decide)] at hR
      exact .inl ⟨hz,by omega,hR⟩
    · rw[if_pos (by simpa using hz)] at hR
      exact .inr ⟨hz,by rw[← hR]⟩
  · exact absurd he h
theorem gk{one:Int→ah→Int × ah × dx}{n:Nat}{s:Int}{C:ah}{L:List dx}{R:ah × List dx}(h3:(C.e=0∧C.l.length≤n∧aY one n s C L=R)∨(C.e≠0∧R.1=C))(hq:(decide (0<((C.l.length:Nat) : Int))&&C.e==0)=false) : R.1.e=C.e∧(C.e=0→R.2=L):=by
  rcases h3 with⟨he,hn,hR⟩|⟨h,h2⟩
  · rw[iB one n s C L hq] at hR
    rw[← hR]
    exact⟨rfl,fun _=>rfl⟩
  · rw[h2]
    exact⟨rfl,fun h3=>absurd h3 h⟩
def gQ (R:ah × List dx)(w:World)(e:Ending)(w':World) : Prop:=∃ A2 n2 c2,e = .returned (.tuple #[.slice A2 n2 c2,.int .i64 (bE R.1.e)])∧(bE R.1.e=0→b6 w.heap.size 98 4 (bI true) w' (.slice A2 n2 c2) R.2)∧aH [] w w'
theorem mL{f:FuncId}{args:Array Value}{R:ah × List dx}{w:World}(h:Calls Tryz.prog f args w (gQ R w))(h0:bE R.1.e=0) : Calls Tryz.prog f args w (fun e w'=>∃ v,e = .returned (.tuple #[v,.int .i64 0])∧b6 w.heap.size 98 4 (bI true) w' v R.2∧aH [] w w'):=by
  refine h.mono ?_
  rintro e w' ⟨A2,n2,c2,rfl,h1,h2⟩
  exact⟨_,by rw[h0],h1 h0,h2⟩
theorem kZ{f:FuncId}{args:Array Value}{R:ah × List dx}{w:World}(h:Calls Tryz.prog f args w (gQ R w)) : Calls Tryz.prog f args w (fun e w'=>∃ A2 n2 c2,e = .returned (.tuple #[.slice A2 n2 c2,.int .i64 (bE R.1.e)])∧aH [] w w'):=by
  refine h.mono ?_
  rintro e w' ⟨A2,n2,c2,rfl,h1,h2⟩
  exact⟨A2,n2,c2,rfl,h2⟩
theorem Bj{w0:World}{m:Md}{A:Option Addr}{cp:Nat}{full:List Int}{w:World}{g:Nat}{C:ah}(hC:RC w0 m A cp full w g C) : Calls Tryz.prog 225 #[vP g 0] w (Br w0 m A cp full g (dQ C) (aV C) w):=by
 have hr:fm C:=RC.rng hC
 refine en 42 Tryz.func225 rfl<|sg<|aK #[vW 0,vW 0,vW 0,nS] fun N O b i a=>aM 1<|?_
 refine ay<|m3 (eF (RC.upd hC a aF (aH.step (RC.u hC) a))) fun P c j Q=>Pl 1<|aM 4<|L0<|eu (p:=⟨g,2,none⟩) (v:=.bool ((C.bytesC 1).sh)) (RC.fld2 c)<|Pl 1<|ay<|m2 (bf ((!((C.bytesC 1).sh))) 5 c) fun R k l=>aM 3<|ay<|m2 (bf ((C.byteV==6)) 9 k) fun S n o=>?_
 refine gL n fun x26 q r=>?_
 refine aM 1<|ay<|m3 (d8 r) fun T s t U=>Pl 1<|aM 3<|ay<|m2 (bf ((decide (0<x26.wordV))) 6 s) fun V y z=>nl<|tn<|al 1<|ay<|m3 (d8 y) fun W B D X=>Pl 1<|aM 3<|ay<|m2 (bf ((decide ((((x26.wordsC 1).need (decide (0<x26.wordV)) 6).wordV)≤9999))) 7 B) fun Y E F=>?_
 refine gL E fun x43 G H=>?_
 refine aM 1<|ay<|m3 (d8 H) fun Z I J a0=>Pl 1<|aM 3<|ay<|m2 (bf ((decide (0<x43.wordV))) 5 I) fun a1 K L=>nl<|tn<|al 4<|?_
 have d:=u1 j (u1 l (u1 o (u1 t (u1 z (u1 D (u1 F (u1 J L im) im) im) im) im) im) im) im
 have e:=nb (RC.lt hC) lr b
 refine aG (be d (Ne.symm e) i) #[vW x26.wordV,vW (((x26.wordsC 1).need (decide (0<x26.wordV)) 6).wordV),vW x43.wordV,nS] fun a2 M f=>qG<|By M<|?_
 subst G q
 have e1:dQ C=(((((((((C.bytesC 1).need (!((C.bytesC 1).sh)) 5).need (C.byteV==6) 9).wordsC 1).need (decide (0<(((C.bytesC 1).need (!((C.bytesC 1).sh)) 5).need (C.byteV==6) 9).wordV)) 6).wordsC 1).need (decide (((((((C.bytesC 1).need (!((C.bytesC 1).sh)) 5).need (C.byteV==6) 9).wordsC 1).need (decide (0<(((C.bytesC 1).need (!((C.bytesC 1).sh)) 5).need (C.byteV==6) 9).wordV)) 6).wordV)≤9999)) 7).wordsC 1).need (decide (0<(((((((C.bytesC 1).need (!((C.bytesC 1).sh)) 5).need (C.byteV==6) 9).wordsC 1).need (decide (0<(((C.bytesC 1).need (!((C.bytesC 1).sh)) 5).need (C.byteV==6) 9).wordV)) 6).wordsC 1).need (decide (((((((C.bytesC 1).need (!((C.bytesC 1).sh)) 5).need (C.byteV==6) 9).wordsC 1).need (decide (0<(((C.bytesC 1).need (!((C.bytesC 1).sh)) 5).need (C.byteV==6) 9).wordV)) 6).wordV)≤9999)) 7).wordV)) 5):=by rw[← vS hr];rfl
 have e2:(aV C).file=(((C.bytesC 1).need (!((C.bytesC 1).sh)) 5).need (C.byteV==6) 9).wordV:=by show(j8 C).wordV=_;rw[← xk];rfl
 have e3:(aV C).record=(((((C.bytesC 1).need (!((C.bytesC 1).sh)) 5).need (C.byteV==6) 9).wordsC 1).need (decide (0<(((C.bytesC 1).need (!((C.bytesC 1).sh)) 5).need (C.byteV==6) 9).wordV)) 6).wordV:=by show(jJ C).wordV=_;rw[← wK hr];rfl
 have e4:(aV C).count=(((((((C.bytesC 1).need (!((C.bytesC 1).sh)) 5).need (C.byteV==6) 9).wordsC 1).need (decide (0<(((C.bytesC 1).need (!((C.bytesC 1).sh)) 5).need (C.byteV==6) 9).wordV)) 6).wordsC 1).need (decide (((((((C.bytesC 1).need (!((C.bytesC 1).sh)) 5).need (C.byteV==6) 9).wordsC 1).need (decide (0<(((C.bytesC 1).need (!((C.bytesC 1).sh)) 5).need (C.byteV==6) 9).wordV)) 6).wordV)≤9999)) 7).wordV:=by show(nw C).wordV=_;rw[← yR hr];rfl
 have h:=ue a (us d f) b
 unfold Br
 rw[e1,e2,e3,e4]
 exact⟨rfl,cP (by omega),cP (by omega),cP (by omega),(RC.upd K f (aa e aF) (hC.u.trans' h (fun x hx=>.inr (by simp at hx;subst hx;exact hC.new)))),h⟩
theorem xZ{m:Md}{A:Option Addr}{cp:Nat}{b:List Int}{w:World}(hsl:aZ m w (.slice A b.length cp) b)(hb:b.length≤1048576) :
    Calls Tryz.prog 179 #[vI 0,vB 20,.slice A b.length cp] w (gQ (aY dl b.length 0 ⟨b,false,0⟩ []) w):=by
 have hln:(b.length:Int)≤1048576:=by omega
 refine en 108 Tryz.func179 rfl<|al 2<|aM 2<|L0<|d6 #[.slice A b.length cp,vI 0,.bool false,vI 0] fun d U E a8 F=>ai 1<|sq<|go<|Pl 1<|cE 1<|sq<|bk<|?_
 have V:RC w _ A cp b U d (ah.mk b false 0):=⟨hsl,F,E,⟨0,a8,Nat.zero_le _,rfl⟩,by omega⟩
 refine jf (fun x=>[(0,vI 0),(1,vB 20),(6,nS),(7,vI 0),(8,vP d 0),(9,.slice x.2.2.2.1 x.2.2.1.length x.2.2.2.2.1),(10,vI x.2.2.2.2.2)]) (fun(x:Nat × ah × List dx × Option Addr × Nat × Int) w'=>aH [] w w'∧U.heap.size≤w'.heap.size∧RC w m A cp b w' d x.2.1∧b6 w.heap.size 98 4 (bI true) w' (.slice x.2.2.2.1 x.2.2.1.length x.2.2.2.2.1) x.2.2.1∧(0≤x.2.2.2.2.2)∧(x.2.1.e=0→x.2.2.2.2.2≤245)∧(x.2.2.1.length+x.2.1.l.length≤b.length)∧((x.2.1.e=0∧x.2.1.l.length≤x.1∧aY dl x.1 x.2.2.2.2.2 x.2.1 x.2.2.1=aY dl b.length 0 ⟨b,false,0⟩ [])∨(x.2.1.e≠0∧(aY dl b.length 0 ⟨b,false,0⟩ []).1=x.2.1))) (fun x=>x.2.1.l.length) (b.length,(ah.mk b false 0),[],none,0,0) ⟨F,lr,V,(b6.nil w.heap.size _ _ (bI true) _),(by(try dsimp only);omega),(fun _=>(show(0:Int)≤245 from by decide)),(by(try dsimp only);simp),.inl ⟨rfl,Nat.le_refl _,rfl⟩⟩ ?_
 rintro⟨n,C,L,B,cq,s⟩ W ⟨a9,G,ab,ad,ae,af,aj,ak⟩
 refine je [(0,vI 0),(1,vB 20),(6,nS),(7,vI 0),(8,vP d 0),(9,.slice B L.length cq),(10,vI s)] ?_
 have a:RC w m A cp b W d C:=ab
 have hlC:=RC.clen a
 have hrC:fm C:=RC.rng a
 have i:b6 w.heap.size 98 4 (bI true) W (.slice B L.length cq) L:=ad
 have aW:0≤s:=ae
 have b0:C.e=0→s≤245:=af
 have b1:L.length+C.l.length≤b.length:=aj
 have H:(C.e=0∧C.l.length≤n∧aY dl n s C L=aY dl b.length 0 ⟨b,false,0⟩ [])∨(C.e≠0∧(aY dl b.length 0 ⟨b,false,0⟩ []).1=C):=ak
 refine sq<|al 1<|ay<|m1 (jM a) fun b2 c=>?_
 have b3:=RC.clen a
 refine Pl 2<|cu 6 [20] 26 (((decide (0<(C.l.length:Int)))&&(C.e==0))) (fun K X=>?_) ?_
 refine bl 20 ((decide (0<(C.l.length:Int)))) (fun j=>?_) (fun j=>?_)
 have am:=of_decide_eq_true j
 refine Pl 3<|?_
 exact L1<|eu (p:=⟨d,3,none⟩) (v:=vI C.e) (RC.fld (RC.upd a c aF (aH.step (RC.u a) c)))<|Pl 2<|ce X (C.e==0) (by rw[j];rfl)
 have am:=of_decide_eq_false j
 exact Pl 6<|ce X false (by rw[j];rfl)
 refine nt<|?_
 have I:=aI a9 c
 refine cb (((decide (0<(C.l.length:Int)))&&(C.e==0))) (fun f=>?_) (fun f=>?_)
 have J:=(bC f).1
 have M:=(bC f).2
 have b4:=of_decide_eq_true J
 have b5:=ag M
 refine bj<|bk<|al 1<|aK #[vW 0,vW 0,vW 0,nS] fun b7 b8 k an N=>aG an #[vW 0,vW 0,vW 0,nS] fun b9 ao O=>nt<|sq<|al 6<|nl<|tn<|c0<|al 1<|?_
 have Y:=ud N O k
 have r:=aI c Y
 refine ay<|m5 (Bj (RC.upd a r aF (aH.step (RC.u a) r))) fun ba aq ar aw az t=>?_
 obtain⟨bb,bc⟩:=aq
 obtain⟨bd,bg⟩:=ar
 obtain⟨bh,bm⟩:=aw
 have P:=nb (RC.lt V) (le G c.size) k
 refine aG (be t (Ne.symm P) ao) #[vW ((aV C).file),vW ((aV C).record),vW ((aV C).count),nS] fun bp Z y=>cE 2<|c0<|al 1<|bq (s+2)<|Pl 1<|aD Z 2<|bq ((aV C).count)<|bq (2*((aV C).count))<|bq ((s+2)+(2*((aV C).count)))<|ai 1<|go<|Pl 3<|?_
 have Q:=us t y
 have a0:=ud I (ue Y Q k) E
 refine ay<|m2 (bf ((decide (((s+2)+(2*((aV C).count)))≤245))) 5 (RC.upd az y (aa P aF) a0)) fun br aB o=>?_
 refine gL aB fun x68 aJ a1=>?_
 refine nt<|go<|Pl 1<|?_
 refine L0<|bN (be o (Ne.symm P) Z)<|L0<|cY (m:=1) (e:=98) #[vW ((aV C).file),vW ((aV C).record),vW ((aV C).count),nS] fun bs bt bu aL z=>?_
 have aO:=lT (R:=bI true) (x:=(dx.mk ((aV C).file) ((aV C).record) ((aV C).count) ([]))) aL rfl ⟨_,rfl,(aS.nil true _ _ _ _),cP (x:=(aV C).file) (by omega),cP (x:=(aV C).record) (by omega),cP (x:=(aV C).count) (by omega)⟩
 have a2:=aI o z
 have a3:=ue r (u1 Q a2 im) (le c.size k)
 have a4:=av i a3 (fun x hx=>(aa (fun e=>(RC.nrow a i (by decide)) (e▸hx)) aF)) (bI.upd16 a3 (ax (RC.safe a _ (by decide)) aN))
 refine L0<|iY (xs:=L) (ys:=([(dx.mk ((aV C).file) ((aV C).record) ((aV C).count) ([]))])) (.agg #[vW 0,vW 0,vW 0,nS]) 4 32 a4 aO (by simp) bI.ones (fun w' hv=>bI.upd16 hv (d9 (dM _ a4 (by decide)) aN)) (by(try simp only[bT,aC]);omega) (le (le (le (le (le (le (le (le F.size G) c.size) N.size) O.size) t.size) y.size) o.size) z.size) fun aP aQ bv aR S=>Pl 1<|nl<|bn<|?_
 subst aJ
 have hC2:(dl s C).2.1=((dQ C).need (decide (((s+2)+(2*((aV C).count)))≤245)) 5):=by show eZ s C=_;(try simp only[eZ,fi,← Int.add_assoc,f,J,M,bi]);all_goals rfl
 have hM2:[(dl s C).2.2]=[(dx.mk ((aV C).file) ((aV C).record) ((aV C).count) ([]))]:=by show[aV C]=_;(try simp only[eZ,fi,← Int.add_assoc,f,J,M,bi]);all_goals rfl
 have hS2:(dl s C).1=((s+2)+(2*((aV C).count))):=by(try (show fi s C=_));(try simp only[fi,← Int.add_assoc]);all_goals rfl
 have hlt:=pg s C (by omega)
 have h9:=jB (one:=dl) H (by omega) (by omega) hlt
 rw[hC2,hM2,hS2] at h9
 rw[hC2] at hlt
 have a5:=ut a0 (ut (aH.mono (S':=(d :: (ob B++[]))) a2 (ac im aA)) S (ap il aA)) (ac (nr E) (ap (aT i lr) aA))
 have a6:=ue r (u1 Q o im) (le c.size k)
 exact gI ((n-1),((dQ C).need (decide (((s+2)+(2*((aV C).count)))≤245)) 5),(L++[(dx.mk ((aV C).file) ((aV C).record) ((aV C).count) ([]))]),aP,aQ,((s+2)+(2*((aV C).count)))) ⟨a5,(le (le (le (le (le (le (le (le G c.size) N.size) O.size) t.size) y.size) o.size) z.size) S.size),(RC.upd a1 (ut (aH.mono (S':=(ob B++[])) z aA) S (ap il aA)) (bA (RC.nrow a1 (av i a6 (fun x hx=>(aa (fun e=>(RC.nrow a i (by decide)) (e▸hx)) aF)) (bI.upd16 a6 (ax (RC.safe a _ (by decide)) aN))) (by decide)) aF) a5),aR,(by(try dsimp only);omega),(by(try dsimp only);intro he;have hk:=(gT (by decide) he).2;simp only[decide_eq_true_eq] at hk;omega),(by(try dsimp only);simp only[bT];omega),h9⟩ (by omega)
 refine xt<|tx<|tx<|bx<|tn<|sq<|al 3<|?_
 have T:=RC.upd a c aF (aH.step (RC.u a) c)
 refine L0<|eu (p:=⟨d,3,none⟩) (v:=vI C.e) (RC.fld T)<|ai 1<|cb ((C.e==2)) (fun q=>?_) (fun q=>?_)
 have aU:=ag q
 refine aE 2<|aX<|rr (.tuple #[nS,vI 5])<|?_
 obtain⟨j8,jJ⟩:=gk H f
 have hw:bE (aY dl b.length 0 ⟨b,false,0⟩ []).1.e=5:=by unfold bE;rw[j8,if_pos q]
 refine⟨none,0,0,by rw[hw],fun h=>absurd (hw.symm.trans h) (by decide),I⟩
 have aU:=au q
 refine bj<|sq<|Rg 7 (fun w'=>w'.cell? ⟨d,3,none⟩=some (vI C.e)) fun bw D=>?_
 refine bo (RC.fld (RC.upd T D aF (aH.step (RC.u T) D))) fun g=>Rt 0 g<|Rt 1 g<|Rt 2 g<|Rt 3 g<|Rl 4 g (fun _ hs=>hs)<|Rt 5 g<|Rt 6 g<|re<|tn<|rt<|rr (.tuple #[.slice B L.length cq,vI C.e])<|?_
 obtain⟨j8,jJ⟩:=gk H f
 have hw:bE (aY dl b.length 0 ⟨b,false,0⟩ []).1.e=C.e:=by unfold bE;rw[j8,if_neg (by rw[q];decide)]
 have a7:=aI c D
 refine⟨_,_,_,by rw[hw],fun h=>by rw[jJ (hw.symm.trans h)];exact(av i a7 (fun x hx=>aF) (bI.upd16 a7 aN)),(aI I D)⟩
theorem xl{m:Md}{A:Option Addr}{cp:Nat}{b:List Int}{w:World}(hsl:aZ m w (.slice A b.length cp) b)(hb:b.length≤1048576) :
    Calls Tryz.prog 179 #[vI 1,vB 20,.slice A b.length cp] w (gQ (aY bY b.length 0 ⟨b,false,0⟩ []) w):=by
 have hln:(b.length:Int)≤1048576:=by omega
 refine en 108 Tryz.func179 rfl<|al 2<|aM 2<|L0<|d6 #[.slice A b.length cp,vI 0,.bool false,vI 0] fun f aj M bg N=>ai 1<|sq<|go<|Pl 1<|cE 1<|sq<|bk<|?_
 have Z:RC w _ A cp b aj f (ah.mk b false 0):=⟨hsl,N,M,⟨0,bg,Nat.zero_le _,rfl⟩,by omega⟩
 refine jf (fun x=>[(0,vI 1),(1,vB 20),(6,nS),(7,vI 0),(8,vP f 0),(9,.slice x.2.2.2.1 x.2.2.1.length x.2.2.2.2.1),(10,vI x.2.2.2.2.2)]) (fun(x:Nat × ah × List dx × Option Addr × Nat × Int) w'=>aH [] w w'∧aj.heap.size≤w'.heap.size∧RC w m A cp b w' f x.2.1∧b6 w.heap.size 98 4 (bI true) w' (.slice x.2.2.2.1 x.2.2.1.length x.2.2.2.2.1) x.2.2.1∧(0≤x.2.2.2.2.2)∧(x.2.1.e=0→x.2.2.2.2.2≤245)∧(x.2.2.1.length+x.2.1.l.length≤b.length)∧((x.2.1.e=0∧x.2.1.l.length≤x.1∧aY bY x.1 x.2.2.2.2.2 x.2.1 x.2.2.1=aY bY b.length 0 ⟨b,false,0⟩ [])∨(x.2.1.e≠0∧(aY bY b.length 0 ⟨b,false,0⟩ []).1=x.2.1))) (fun x=>x.2.1.l.length) (b.length,(ah.mk b false 0),[],none,0,0) ⟨N,lr,Z,(b6.nil w.heap.size _ _ (bI true) _),(by(try dsimp only);omega),(fun _=>(show(0:Int)≤245 from by decide)),(by(try dsimp only);simp),.inl ⟨rfl,Nat.le_refl _,rfl⟩⟩ ?_
 rintro⟨n,C,L,B,cq,s⟩ ak ⟨bh,r,bm,bp,br,bs,bt,bu⟩
 refine je [(0,vI 1),(1,vB 20),(6,nS),(7,vI 0),(8,vP f 0),(9,.slice B L.length cq),(10,vI s)] ?_
 have a:RC w m A cp b ak f C:=bm
 have hlC:=RC.clen a
 have hrC:fm C:=RC.rng a
 have d:b6 w.heap.size 98 4 (bI true) ak (.slice B L.length cq) L:=bp
 have c6:0≤s:=br
 have c7:C.e=0→s≤245:=bs
 have c8:L.length+C.l.length≤b.length:=bt
 have O:(C.e=0∧C.l.length≤n∧aY bY n s C L=aY bY b.length 0 ⟨b,false,0⟩ [])∨(C.e≠0∧(aY bY b.length 0 ⟨b,false,0⟩ []).1=C):=bu
 refine sq<|al 1<|ay<|m1 (jM a) fun c9 c=>?_
 have ca:=RC.clen a
 refine Pl 2<|cu 6 [20] 26 (((decide (0<(C.l.length:Int)))&&(C.e==0))) (fun K am=>?_) ?_
 refine bl 20 ((decide (0<(C.l.length:Int)))) (fun z=>?_) (fun z=>?_)
 have bv:=of_decide_eq_true z
 refine Pl 3<|?_
 exact L1<|eu (p:=⟨f,3,none⟩) (v:=vI C.e) (RC.fld (RC.upd a c aF (aH.step (RC.u a) c)))<|Pl 2<|ce am (C.e==0) (by rw[z];rfl)
 have bv:=of_decide_eq_false z
 exact Pl 6<|ce am false (by rw[z];rfl)
 refine nt<|?_
 have D:=aI bh c
 refine cb (((decide (0<(C.l.length:Int)))&&(C.e==0))) (fun g=>?_) (fun g=>?_)
 have E:=(bC g).1
 have F:=(bC g).2
 have cc:=of_decide_eq_true E
 have cd:=ag F
 refine bj<|bk<|al 1<|aK #[vW 0,vW 0,vW 0,nS] fun P cf j a0 G=>aG a0 #[vW 0,vW 0,vW 0,nS] fun cg an k=>nt<|sq<|al 6<|nl<|tn<|c1<|al 1<|?_
 have ao:=ud G k j
 have t:=aI c ao
 refine ay<|m3 (eF (RC.upd a t aF (aH.step (RC.u a) t))) fun ch H i cj=>bq C.byteV<|Pl 1<|aM 2<|L0<|Oe (vI (Int.tmod C.byteV 2)) (vI (C.byteV%2)) (congrArg (Value.int .i64) (Int.tmod_eq_emod_of_nonneg (by omega)))<|Pl 2<|cu 3 [41] 44 ((((C.byteV%2)==1)&&(decide (3≤C.byteV)))) (fun K ar=>?_) ?_
 refine bl 41 (((C.byteV%2)==1)) (fun I=>?_) (fun I=>?_)
 have bw:=ag I
 exact Pl 3<|ce ar (decide (3≤C.byteV)) (by rw[I];rfl)
 have bw:=au I
 exact Pl 3<|ce ar false (by rw[I];rfl)
 refine Pl 1<|?_
 have aw:=ud D (uz ao i) M
 refine bl 45 ((((C.byteV%2)==1)&&(decide (3≤C.byteV)))) (fun o=>?_) (fun o=>?_)
 have a1:=(bC o).1
 have a2:=(bC o).2
 have ck:=ag a1
 have cl:=of_decide_eq_true a2
 refine Pl 2<|L1<|Oc<|m1 (jM H) fun cm y=>?_
 have cn:=RC.clen H
 refine Pl 2<|?_
 refine ay<|m2 (bf ((decide (C.byteV≤(((C.bytesC 1).l.length:Nat) : Int)))) 5 (RC.upd H y aF (aH.step (RC.u H) y))) fun co bz Q=>?_
 refine gL bz fun x66 bB bD=>?_
 refine aM 1<|ay<|m3 (eF bD) fun cr bF S cs=>Pl 1<|aM 3<|ay<|m2 (bf ((x66.byteV==6)) 9 bF) fun ct bG T=>nl<|tn<|go<|Pl 2<|bq (C.byteV-1)<|?_
 have cv:=oT (x:=(C.byteV-1)) (by omega)
 refine L0<|Oe (vI (IntKind.i64.wrap (Int.tdiv (C.byteV-1) 2))) (vI (Int.tdiv (C.byteV-1) 2)) (congrArg (Value.int .i64) (mj (by omega) (by omega)))<|ay<|pu (gY (n:=(Int.tdiv (C.byteV-1) 2)) (by omega) bG) fun az aB cw aD cx cy bH a3=>?_
 refine gL bH fun x82 bJ aJ=>?_
 refine Pl 1<|?_
 have aO:=uz y (u1 Q (u1 S (u1 T a3 im) im) im)
 have a4:=u1 i aO im
 have aP:=nb (RC.lt Z) (le r c.size) j
 refine L0<|ci (be a4 (Ne.symm aP) an) 3 #[vW 0,vW 0,vW 0,.slice az ((((x66.bytesC 1).need (x66.byteV==6) 9).wordsR (Int.tdiv (C.byteV-1) 2)).length) aB] fun cz bK a5=>nt<|go<|Pl 1<|L0<|bN bK<|L0<|cY (m:=1) (e:=98) #[vW 0,vW 0,vW 0,.slice az ((((x66.bytesC 1).need (x66.byteV==6) 9).wordsR (Int.tdiv (C.byteV-1) 2)).length) aB] fun cA cB cC bL a6=>?_
 have a7:=aI a5 a6
 have bM:=lT (R:=bI true) (x:=(dx.mk 0 0 0 (((x66.bytesC 1).need (x66.byteV==6) 9).wordsR (Int.tdiv (C.byteV-1) 2)))) bL rfl ⟨_,rfl,((av aD a7 (fun x hx=>(aa (fun e=>(aL (aq a0) (le (le (le (le (le k.size i.size) y.size) Q.size) S.size) T.size) aD) (e▸hx)) aF)) (fun _ _ h=>h))).rd,cP (x:=0) (by omega),cP (x:=0) (by omega),cP (x:=0) (by omega)⟩
 have aQ:=ue t (us a4 a7) (le c.size j)
 have aR:=av d aQ (fun x hx=>(aa (fun e=>(RC.nrow a d (by decide)) (e▸hx)) aF)) (bI.upd16 aQ (ax (RC.safe a _ (by decide)) aN))
 refine L0<|iY (xs:=L) (ys:=([(dx.mk 0 0 0 (((x66.bytesC 1).need (x66.byteV==6) 9).wordsR (Int.tdiv (C.byteV-1) 2)))])) (.agg #[vW 0,vW 0,vW 0,nS]) 4 32 aR bM (by simp) bI.ones (fun w' hv=>bI.upd16 hv (d9 (dM _ aR (by decide)) aN)) (by(try simp only[bT,aC]);omega) (le (le (le (le (le (le (le (le (le (le (le (le N.size r) c.size) G.size) k.size) i.size) y.size) Q.size) S.size) T.size) a3.size) a5.size) a6.size) fun bO bP cD bQ aS=>Pl 1<|nl<|bn<|?_
 subst bJ bB
 have hC2:(bY s C).2.1=(((((C.bytesC 1).need (decide (C.byteV≤(((C.bytesC 1).l.length:Nat) : Int))) 5).bytesC 1).need (((C.bytesC 1).need (decide (C.byteV≤(((C.bytesC 1).l.length:Nat) : Int))) 5).byteV==6) 9).wordsC (Int.tdiv (C.byteV-1) 2)):=by show fs C=_;(try simp only[fs,fp,gv,j0,g,E,F,o,a1,a2,bi]);all_goals rfl
 have hM2:[(bY s C).2.2]=[(dx.mk 0 0 0 (((((C.bytesC 1).need (decide (C.byteV≤(((C.bytesC 1).l.length:Nat) : Int))) 5).bytesC 1).need (((C.bytesC 1).need (decide (C.byteV≤(((C.bytesC 1).l.length:Nat) : Int))) 5).byteV==6) 9).wordsR (Int.tdiv (C.byteV-1) 2)))]:=by show[fp C]=_;(try simp only[fs,fp,gv,j0,g,E,F,o,a1,a2,bi]);all_goals rfl
 have hS2:(bY s C).1=s:=by(try (show s=_));(try simp only[fi,← Int.add_assoc]);all_goals rfl
 have hlt:=kB s C (by omega)
 have h9:=jB (one:=bY) O (by omega) (by omega) hlt
 rw[hC2,hM2,hS2] at h9
 rw[hC2] at hlt
 have aU:=ut (aH.mono (S':=(P :: (ob B++[]))) a7 (ac im aA)) aS (ap il aA)
 have aV:=ut aw (ut (aH.mono (S':=(f :: (P :: (ob B++[])))) aO (ac im aA)) aU (ac im (ap il aA))) (ac (nr M) (ac (ni D.size j) (ap (aT d lr) aA)))
 have aW:=uz t a4
 exact gI ((n-1),(((((C.bytesC 1).need (decide (C.byteV≤(((C.bytesC 1).l.length:Nat) : Int))) 5).bytesC 1).need (((C.bytesC 1).need (decide (C.byteV≤(((C.bytesC 1).l.length:Nat) : Int))) 5).byteV==6) 9).wordsC (Int.tdiv (C.byteV-1) 2)),(L++[(dx.mk 0 0 0 (((((C.bytesC 1).need (decide (C.byteV≤(((C.bytesC 1).l.length:Nat) : Int))) 5).bytesC 1).need (((C.bytesC 1).need (decide (C.byteV≤(((C.bytesC 1).l.length:Nat) : Int))) 5).byteV==6) 9).wordsR (Int.tdiv (C.byteV-1) 2)))]),bO,bP,s) ⟨aV,(le (le (le (le (le (le (le (le (le (le (le (le r c.size) G.size) k.size) i.size) y.size) Q.size) S.size) T.size) a3.size) a5.size) a6.size) aS.size),(RC.upd aJ aU (aa aP (bA (RC.nrow aJ (av d aW (fun x hx=>(aa (fun e=>(RC.nrow a d (by decide)) (e▸hx)) aF)) (bI.upd16 aW (ax (RC.safe a _ (by decide)) aN))) (by decide)) aF)) aV),bQ,(by(try dsimp only);omega),(by(try dsimp only);intro he;omega),(by(try dsimp only);simp only[bT];omega),h9⟩ (by omega)
 refine Pl 5<|ay<|m2 (bf (false) 5 H) fun cF bR U=>aM 1<|ay<|m3 (eF bR) fun cG bS V cH=>Pl 1<|aM 3<|ay<|m2 (bf (((((C.bytesC 1).need false 5).byteV)==6)) 9 bS) fun cI bU W=>?_
 refine gL bU fun X bV bW=>?_
 refine nt<|go<|Pl 2<|bq (C.byteV-1)<|?_
 have cJ:=oT (x:=(C.byteV-1)) (by omega)
 refine L0<|Oe (vI (IntKind.i64.wrap (Int.tdiv (C.byteV-1) 2))) (vI (Int.tdiv (C.byteV-1) 2)) (congrArg (Value.int .i64) (mj (by omega) (by omega)))<|ay<|pu (gY (n:=(Int.tdiv (C.byteV-1) 2)) (by omega) bW) fun b0 b1 cK b2 cL cM b3 a8=>Pl 1<|?_
 have b4:=u1 U (u1 V (u1 W a8 im) im) im
 have a9:=u1 i b4 im
 have b5:=nb (RC.lt Z) (le r c.size) j
 refine L0<|ci (be a9 (Ne.symm b5) an) 3 #[vW 0,vW 0,vW 0,.slice b0 ((X.wordsR (Int.tdiv (C.byteV-1) 2)).length) b1] fun cN bX ab=>nt<|go<|Pl 1<|L0<|bN bX<|L0<|cY (m:=1) (e:=98) #[vW 0,vW 0,vW 0,.slice b0 ((X.wordsR (Int.tdiv (C.byteV-1) 2)).length) b1] fun cO cQ cR bZ ad=>?_
 have ae:=aI ab ad
 have c0:=lT (R:=bI true) (x:=(dx.mk 0 0 0 (X.wordsR (Int.tdiv (C.byteV-1) 2)))) bZ rfl ⟨_,rfl,((av b2 ae (fun x hx=>(aa (fun e=>(aL (aq a0) (le (le (le (le k.size i.size) U.size) V.size) W.size) b2) (e▸hx)) aF)) (fun _ _ h=>h))).rd,cP (x:=0) (by omega),cP (x:=0) (by omega),cP (x:=0) (by omega)⟩
 have b7:=ue t (us a9 ae) (le c.size j)
 have b8:=av d b7 (fun x hx=>(aa (fun e=>(RC.nrow a d (by decide)) (e▸hx)) aF)) (bI.upd16 b7 (ax (RC.safe a _ (by decide)) aN))
 refine L0<|iY (xs:=L) (ys:=([(dx.mk 0 0 0 (X.wordsR (Int.tdiv (C.byteV-1) 2)))])) (.agg #[vW 0,vW 0,vW 0,nS]) 4 32 b8 c0 (by simp) bI.ones (fun w' hv=>bI.upd16 hv (d9 (dM _ b8 (by decide)) aN)) (by(try simp only[bT,aC]);omega) (le (le (le (le (le (le (le (le (le (le (le N.size r) c.size) G.size) k.size) i.size) U.size) V.size) W.size) a8.size) ab.size) ad.size) fun c2 c3 cS c4 b9=>Pl 1<|nl<|bn<|?_
 subst bV
 have hC2:(bY s C).2.1=(((((C.bytesC 1).need false 5).bytesC 1).need ((((C.bytesC 1).need false 5).byteV)==6) 9).wordsC (Int.tdiv (C.byteV-1) 2)):=by show fs C=_;(try simp only[fs,fp,gv,j0,g,E,F,o,bi]);all_goals rfl
 have hM2:[(bY s C).2.2]=[(dx.mk 0 0 0 (((((C.bytesC 1).need false 5).bytesC 1).need ((((C.bytesC 1).need false 5).byteV)==6) 9).wordsR (Int.tdiv (C.byteV-1) 2)))]:=by show[fp C]=_;(try simp only[fs,fp,gv,j0,g,E,F,o,bi]);all_goals rfl
 have hS2:(bY s C).1=s:=by(try (show s=_));(try simp only[fi,← Int.add_assoc]);all_goals rfl
 have hlt:=kB s C (by omega)
 have h9:=jB (one:=bY) O (by omega) (by omega) hlt
 rw[hC2,hM2,hS2] at h9
 rw[hC2] at hlt
 have ba:=ut (aH.mono (S':=(P :: (ob B++[]))) ae (ac im aA)) b9 (ap il aA)
 have bb:=ut aw (ut (aH.mono (S':=(f :: (P :: (ob B++[])))) b4 (ac im aA)) ba (ac im (ap il aA))) (ac (nr M) (ac (ni D.size j) (ap (aT d lr) aA)))
 have bc:=uz t a9
 exact gI ((n-1),(((((C.bytesC 1).need false 5).bytesC 1).need ((((C.bytesC 1).need false 5).byteV)==6) 9).wordsC (Int.tdiv (C.byteV-1) 2)),(L++[(dx.mk 0 0 0 (((((C.bytesC 1).need false 5).bytesC 1).need ((((C.bytesC 1).need false 5).byteV)==6) 9).wordsR (Int.tdiv (C.byteV-1) 2)))]),c2,c3,s) ⟨bb,(le (le (le (le (le (le (le (le (le (le (le r c.size) G.size) k.size) i.size) U.size) V.size) W.size) a8.size) ab.size) ad.size) b9.size),(RC.upd b3 ba (aa b5 (bA (RC.nrow b3 (av d bc (fun x hx=>(aa (fun e=>(RC.nrow a d (by decide)) (e▸hx)) aF)) (bI.upd16 bc (ax (RC.safe a _ (by decide)) aN))) (by decide)) aF)) bb),c4,(by(try dsimp only);omega),(by(try dsimp only);intro he;omega),(by(try dsimp only);simp only[bT];omega),h9⟩ (by omega)
 refine xt<|tx<|tx<|bx<|tn<|sq<|al 3<|?_
 have af:=RC.upd a c aF (aH.step (RC.u a) c)
 refine L0<|eu (p:=⟨f,3,none⟩) (v:=vI C.e) (RC.fld af)<|ai 1<|cb ((C.e==2)) (fun J=>?_) (fun J=>?_)
 have c5:=ag J
 refine aE 2<|aX<|rr (.tuple #[nS,vI 5])<|?_
 obtain⟨j8,jJ⟩:=gk O g
 have hw:bE (aY bY b.length 0 ⟨b,false,0⟩ []).1.e=5:=by unfold bE;rw[j8,if_pos J]
 refine⟨none,0,0,by rw[hw],fun h=>absurd (hw.symm.trans h) (by decide),D⟩
 have c5:=au J
 refine bj<|sq<|Rg 7 (fun w'=>w'.cell? ⟨f,3,none⟩=some (vI C.e)) fun cT Y=>?_
 refine bo (RC.fld (RC.upd af Y aF (aH.step (RC.u af) Y))) fun q=>Rt 0 q<|Rt 1 q<|Rt 2 q<|Rt 3 q<|Rl 4 q (fun _ hs=>hs)<|Rt 5 q<|Rt 6 q<|re<|tn<|rt<|rr (.tuple #[.slice B L.length cq,vI C.e])<|?_
 obtain⟨j8,jJ⟩:=gk O g
 have hw:bE (aY bY b.length 0 ⟨b,false,0⟩ []).1.e=C.e:=by unfold bE;rw[j8,if_neg (by rw[J];decide)]
 have bd:=aI c Y
 refine⟨_,_,_,by rw[hw],fun h=>by rw[jJ (hw.symm.trans h)];exact(av d bd (fun x hx=>aF) (bI.upd16 bd aN)),(aI D Y)⟩
theorem xV{m:Md}{A:Option Addr}{cp:Nat}{b:List Int}{w:World}{dir:Int}(hsl:aZ m w (.slice A b.length cp) b)(hb:b.length≤1048576) :
    Calls Tryz.prog 179 #[vI dir,vB 21,.slice A b.length cp] w (gQ (aY dr b.length 0 ⟨b,false,0⟩ []) w):=by
 have hln:(b.length:Int)≤1048576:=by omega
 refine en 108 Tryz.func179 rfl<|al 2<|aM 2<|L0<|d6 #[.slice A b.length cp,vI 0,.bool false,vI 0] fun d a3 N aO O=>ai 1<|sq<|go<|Pl 1<|cE 1<|sq<|bk<|?_
 have a4:RC w _ A cp b a3 d (ah.mk b false 0):=⟨hsl,O,N,⟨0,aO,Nat.zero_le _,rfl⟩,by omega⟩
 refine jf (fun x=>[(0,vI dir),(1,vB 21),(6,nS),(7,vI 0),(8,vP d 0),(9,.slice x.2.2.2.1 x.2.2.1.length x.2.2.2.2.1),(10,vI x.2.2.2.2.2)]) (fun(x:Nat × ah × List dx × Option Addr × Nat × Int) w'=>aH [] w w'∧a3.heap.size≤w'.heap.size∧RC w m A cp b w' d x.2.1∧b6 w.heap.size 98 4 (bI true) w' (.slice x.2.2.2.1 x.2.2.1.length x.2.2.2.2.1) x.2.2.1∧(0≤x.2.2.2.2.2)∧(x.2.1.e=0→x.2.2.2.2.2≤245)∧(x.2.2.1.length+x.2.1.l.length≤b.length)∧((x.2.1.e=0∧x.2.1.l.length≤x.1∧aY dr x.1 x.2.2.2.2.2 x.2.1 x.2.2.1=aY dr b.length 0 ⟨b,false,0⟩ [])∨(x.2.1.e≠0∧(aY dr b.length 0 ⟨b,false,0⟩ []).1=x.2.1))) (fun x=>x.2.1.l.length) (b.length,(ah.mk b false 0),[],none,0,0) ⟨O,lr,a4,(b6.nil w.heap.size _ _ (bI true) _),(by(try dsimp only);omega),(fun _=>(show(0:Int)≤245 from by decide)),(by(try dsimp only);simp),.inl ⟨rfl,Nat.le_refl _,rfl⟩⟩ ?_
 rintro⟨n,C,L,B,cq,s⟩ a5 ⟨aP,P,aQ,aR,aS,aU,aW,b0⟩
 refine je [(0,vI dir),(1,vB 21),(6,nS),(7,vI 0),(8,vP d 0),(9,.slice B L.length cq),(10,vI s)] ?_
 have a:RC w m A cp b a5 d C:=aQ
 have hlC:=RC.clen a
 have hrC:fm C:=RC.rng a
 have j:b6 w.heap.size 98 4 (bI true) a5 (.slice B L.length cq) L:=aR
 have bt:0≤s:=aS
 have bu:C.e=0→s≤245:=aU
 have bv:L.length+C.l.length≤b.length:=aW
 have Q:(C.e=0∧C.l.length≤n∧aY dr n s C L=aY dr b.length 0 ⟨b,false,0⟩ [])∨(C.e≠0∧(aY dr b.length 0 ⟨b,false,0⟩ []).1=C):=b0
 refine sq<|al 1<|ay<|m1 (jM a) fun bw c=>?_
 have bz:=RC.clen a
 refine Pl 2<|cu 6 [20] 26 (((decide (0<(C.l.length:Int)))&&(C.e==0))) (fun K a6=>?_) ?_
 refine bl 20 ((decide (0<(C.l.length:Int)))) (fun r=>?_) (fun r=>?_)
 have b1:=of_decide_eq_true r
 refine Pl 3<|?_
 exact L1<|eu (p:=⟨d,3,none⟩) (v:=vI C.e) (RC.fld (RC.upd a c aF (aH.step (RC.u a) c)))<|Pl 2<|ce a6 (C.e==0) (by rw[r];rfl)
 have b1:=of_decide_eq_false r
 exact Pl 6<|ce a6 false (by rw[r];rfl)
 refine nt<|?_
 have F:=aI aP c
 refine cb (((decide (0<(C.l.length:Int)))&&(C.e==0))) (fun g=>?_) (fun g=>?_)
 have S:=(bC g).1
 have T:=(bC g).2
 have bB:=of_decide_eq_true S
 have bD:=ag T
 refine bj<|bk<|al 1<|aK #[vW 0,vW 0,vW 0,nS] fun U bF k a7 V=>aG a7 #[vW 0,vW 0,vW 0,nS] fun bG b2 G=>nt<|sq<|al 6<|nl<|tn<|c0<|al 1<|?_
 have a8:=ud V G k
 have H:=aI c a8
 refine ay<|m5 (Bj (RC.upd a H aF (aH.step (RC.u a) H))) fun bH b3 b4 b5 b7 t=>?_
 obtain⟨bJ,bK⟩:=b3
 obtain⟨bL,bM⟩:=b4
 obtain⟨bO,bP⟩:=b5
 have y:=nb (RC.lt a4) (le P c.size) k
 refine aG (be t (Ne.symm y) b2) #[vW ((aV C).file),vW ((aV C).record),vW ((aV C).count),nS] fun bQ b8 I=>cE 2<|c1<|sq<|Rg 9 (fun w'=>w'.cell? ⟨U,2,none⟩=some (vW ((aV C).count))) fun bR z=>?_
 have a9:=ub z b8
 refine bo (ae a9 rfl) fun o=>Rt 0 o<|Rt 1 o<|Rl 2 o (fun _ hs=>hs)<|Rr 3 o (vI ((aV C).count)) (fun _ _=>bX (vI (IntKind.i64.wrap ((aV C).count))) (by kernel_rfl) (congrArg (Value.int .i64) (i64_in (by omega))))<|Rr 4 o (vI (2*((aV C).count))) (fun _ _=>bX (vI (IntKind.i64.wrap (2*((aV C).count)))) (by kernel_rfl) (congrArg (Value.int .i64) (IntWalk.i64_in _ (by omega))))<|Rt 5 o<|?_
 have ab:=aI I z
 have W:=us t ab
 have ad:=ud F (ue a8 W k) N
 have J:=RC.upd b7 ab (aa y aF) ad
 refine R0 6 rfl<|Oc<|m1 (jM J) fun bS f=>?_
 have bU:=RC.clen J
 have af:=ub f a9
 refine bo (ae af rfl) fun b9=>Rt 7 b9<|?_
 refine R0 8 rfl<|Oc<|m2 (bf ((decide ((2*((aV C).count))≤(((dQ C).l.length:Nat) : Int)))) 5 (RC.upd J f aF (aH.step (RC.u J) f))) fun bV ba q=>?_
 refine gL ba fun x93 bb bc=>?_
 have X:=be q (Ne.symm y) af
 refine bo (ae X rfl) fun bW=>re<|tn<|go<|Pl 2<|aD X 2<|bq ((aV C).count)<|ay<|pu (gY (n:=(aV C).count) (by omega) bc) fun aj ak bY am bZ c2 an D=>Pl 1<|?_
 refine L0<|ci (be D (Ne.symm y) X) 3 #[vW ((aV C).file),vW ((aV C).record),vW ((aV C).count),.slice aj ((x93.wordsR ((aV C).count)).length) ak] fun c3 bd Y=>nt<|go<|Pl 1<|L0<|bN bd<|L0<|cY (m:=1) (e:=98) #[vW ((aV C).file),vW ((aV C).record),vW ((aV C).count),.slice aj ((x93.wordsR ((aV C).count)).length) ak] fun c4 c5 c6 bg Z=>?_
 have a0:=aI Y Z
 have bh:=lT (R:=bI true) (x:=(dx.mk ((aV C).file) ((aV C).record) ((aV C).count) (x93.wordsR ((aV C).count)))) bg rfl ⟨_,rfl,((av am a0 (fun x hx=>(aa (fun e=>(aL (aq a7) (le (le (le (le (le G.size t.size) I.size) z.size) f.size) q.size) am) (e▸hx)) aF)) (fun _ _ h=>h))).rd,cP (x:=(aV C).file) (by omega),cP (x:=(aV C).record) (by omega),cP (x:=(aV C).count) (by omega)⟩
 have ao:=uz f (ui q (us D a0))
 have ar:=ue H (ut W ao (ac im (ac im aA))) (le c.size k)
 have aw:=av j ar (fun x hx=>(aa (fun e=>(RC.nrow a j (by decide)) (e▸hx)) aF)) (bI.upd16 ar (ax (RC.safe a _ (by decide)) aN))
 refine L0<|iY (xs:=L) (ys:=([(dx.mk ((aV C).file) ((aV C).record) ((aV C).count) (x93.wordsR ((aV C).count)))])) (.agg #[vW 0,vW 0,vW 0,nS]) 4 32 aw bh (by simp) bI.ones (fun w' hv=>bI.upd16 hv (d9 (dM _ aw (by decide)) aN)) (by(try simp only[bT,aC]);omega) (le (le (le (le (le (le (le (le (le (le (le (le O.size P) c.size) V.size) G.size) t.size) I.size) z.size) f.size) q.size) D.size) Y.size) Z.size) fun bm bp c7 br a1=>Pl 1<|nl<|bn<|?_
 subst bb
 have hC2:(dr s C).2.1=(((dQ C).need (decide ((2*((aV C).count))≤(((dQ C).l.length:Nat) : Int))) 5).wordsC ((aV C).count)):=by show jX C=_;(try simp only[jX,jT,nB,g,S,T,bi]);all_goals rfl
 have hM2:[(dr s C).2.2]=[(dx.mk ((aV C).file) ((aV C).record) ((aV C).count) (((dQ C).need (decide ((2*((aV C).count))≤(((dQ C).l.length:Nat) : Int))) 5).wordsR ((aV C).count)))]:=by show[jT C]=_;(try simp only[jX,jT,nB,g,S,T,bi]);all_goals rfl
 have hS2:(dr s C).1=s:=by(try (show s=_));(try simp only[fi,← Int.add_assoc]);all_goals rfl
 have hlt:=pI s C (by omega)
 have h9:=jB (one:=dr) Q (by omega) (by omega) hlt
 rw[hC2,hM2,hS2] at h9
 rw[hC2] at hlt
 have az:=ut ad (ut (aH.mono (S':=(d :: (U :: (ob B++[])))) ao (ac im (ac im aA))) a1 (ap il aA)) (ac (nr N) (ac (ni F.size k) (ap (aT j lr) aA)))
 have aB:=ue H (u1 W (uz f (u1 q D im)) im) (le c.size k)
 exact gI ((n-1),(((dQ C).need (decide ((2*((aV C).count))≤(((dQ C).l.length:Nat) : Int))) 5).wordsC ((aV C).count)),(L++[(dx.mk ((aV C).file) ((aV C).record) ((aV C).count) (((dQ C).need (decide ((2*((aV C).count))≤(((dQ C).l.length:Nat) : Int))) 5).wordsR ((aV C).count)))]),bm,bp,s) ⟨az,(le (le (le (le (le (le (le (le (le (le (le (le P c.size) V.size) G.size) t.size) I.size) z.size) f.size) q.size) D.size) Y.size) Z.size) a1.size),(RC.upd an (ut (aH.mono (S':=(U :: (ob B++[]))) a0 (ac im aA)) a1 (ap il aA)) (aa y (bA (RC.nrow an (av j aB (fun x hx=>(aa (fun e=>(RC.nrow a j (by decide)) (e▸hx)) aF)) (bI.upd16 aB (ax (RC.safe a _ (by decide)) aN))) (by decide)) aF)) az),br,(by(try dsimp only);omega),(by(try dsimp only);intro he;omega),(by(try dsimp only);simp only[bT];omega),h9⟩ (by omega)
 refine xt<|tx<|tx<|bx<|tn<|sq<|al 3<|?_
 have a2:=RC.upd a c aF (aH.step (RC.u a) c)
 refine L0<|eu (p:=⟨d,3,none⟩) (v:=vI C.e) (RC.fld a2)<|ai 1<|cb ((C.e==2)) (fun E=>?_) (fun E=>?_)
 have bs:=ag E
 refine aE 2<|aX<|rr (.tuple #[nS,vI 5])<|?_
 obtain⟨j8,jJ⟩:=gk Q g
 have hw:bE (aY dr b.length 0 ⟨b,false,0⟩ []).1.e=5:=by unfold bE;rw[j8,if_pos E]
 refine⟨none,0,0,by rw[hw],fun h=>absurd (hw.symm.trans h) (by decide),F⟩
 have bs:=au E
 refine bj<|sq<|Rg 7 (fun w'=>w'.cell? ⟨d,3,none⟩=some (vI C.e)) fun c8 M=>?_
 refine bo (RC.fld (RC.upd a2 M aF (aH.step (RC.u a2) M))) fun i=>Rt 0 i<|Rt 1 i<|Rt 2 i<|Rt 3 i<|Rl 4 i (fun _ hs=>hs)<|Rt 5 i<|Rt 6 i<|re<|tn<|rt<|rr (.tuple #[.slice B L.length cq,vI C.e])<|?_
 obtain⟨j8,jJ⟩:=gk Q g
 have hw:bE (aY dr b.length 0 ⟨b,false,0⟩ []).1.e=C.e:=by unfold bE;rw[j8,if_neg (by rw[E];decide)]
 have aJ:=aI c M
 refine⟨_,_,_,by rw[hw],fun h=>by rw[jJ (hw.symm.trans h)];exact(av j aJ (fun x hx=>aF) (bI.upd16 aJ aN)),(aI F M)⟩
theorem oI{m:Md}{v:Value}{b:List Int}{w:World}(h:aZ m w v b)(hb:b.length≤1048576) :
    Calls Tryz.prog 179 #[.int .i64 0,.int .u8 20,v] w (gQ (aY dl b.length 0 ⟨b,false,0⟩ []) w):=by
  obtain⟨A,cp,rfl,_,_⟩:=h.shape
  exact xZ h hb
theorem oA{m:Md}{v:Value}{b:List Int}{w:World}(h:aZ m w v b)(hb:b.length≤1048576) :
    Calls Tryz.prog 179 #[.int .i64 1,.int .u8 20,v] w (gQ (aY bY b.length 0 ⟨b,false,0⟩ []) w):=by
  obtain⟨A,cp,rfl,_,_⟩:=h.shape
  exact xl h hb
theorem oD{m:Md}{v:Value}{b:List Int}{w:World}{dir:Int}(h:aZ m w v b)(hb:b.length≤1048576) :
    Calls Tryz.prog 179 #[.int .i64 dir,.int .u8 21,v] w (gQ (aY dr b.length 0 ⟨b,false,0⟩ []) w):=by
  obtain⟨A,cp,rfl,_,_⟩:=h.shape
  exact xV h hb
open Go.RowKit
theorem iu{x:Int}(h:bE x=0) : x=0:=by
  unfold bE at h
  split at h
  · cases h
  · exact h
theorem l0{x:Int}(h:¬ bE x=0) : (x != 0)=true:=by
  rw[bne_iff_ne]
  rintro rfl
  exact h rfl
theorem ja:((0:Int)!=0)=false:=rfl
theorem xa{m:Md}{A:Option Addr}{cp:Nat}{b:List Int}{w:World}(hsl:aZ m w (.slice A b.length cp) b)(hb:b.length≤1048576) :
    Calls Tryz.prog 112 #[vI 0,vB 20,.slice A b.length cp] w (cN (.slice A b.length cp) b (dh dl j9 20 b) w):=by
 have hln:(b.length:Int)≤1048576:=by omega
 have hcp:b.length≤cp:=by obtain⟨_,_,hv,h1,_⟩:=aS.shape hsl;injection hv with _ _ h3;omega
 have hrb:=aZ.range hsl
 refine en 101 Tryz.func112 rfl<|sg<|aK mZ fun ab ac i g j=>ai 1<|sq<|aE 6<|c0<|bj<|sq<|aE 6<|c0<|bj<|sq<|aE 3<|cb (((b.length:Int)==0)) (fun a=>?_) (fun a=>?_)
 have L:=ag a
 refine al 1<|aG g mZ fun ad M N=>ai 1<|aX<|bJ M (vI 2)<|?_
 exact cv (y:=(aU.zero,2)) (by unfold dh eg dg j9;(try simp only[a,bi,ja,reduceIte])<;>rfl) (bG (ud j N i))
 have L:=au a
 refine bj<|al 1<|?_
 have t:=aZ.old hsl j
 refine ft (aZ.at_ t 0 (by omega)) fun O Q R S ae=>L0<|kY b.length 0 R (by omega)<|L0<|eu (p:=⟨O,Q+0,none⟩) (v:=vB (b.getD 0 0)) S<|bq (b.getD 0 0)<|Pl 1<|aM 3<|cu 3 [36] 39 (((decide (9≤(b.getD 0 0)))&&(decide ((b.getD 0 0)≤251)))) (fun K D=>?_) ?_
 refine bl 36 ((decide (9≤(b.getD 0 0)))) (fun l=>?_) (fun l=>?_)
 have T:=of_decide_eq_true l
 exact Pl 3<|ce D (decide ((b.getD 0 0)≤251)) (by rw[l];rfl)
 have T:=of_decide_eq_false l
 exact Pl 3<|ce D false (by rw[l];rfl)
 refine ai 1<|sq<|aE 6<|c1<|go<|Pl 3<|cu 3 [48] 51 (((decide (7≤(b.getD 0 0)))&&(decide ((b.getD 0 0)≤245)))) (fun K E=>?_) ?_
 refine bl 48 ((decide (7≤(b.getD 0 0)))) (fun o=>?_) (fun o=>?_)
 have U:=of_decide_eq_true o
 exact Pl 3<|ce E (decide ((b.getD 0 0)≤245)) (by rw[o];rfl)
 have U:=of_decide_eq_false o
 exact Pl 3<|ce E false (by rw[o];rfl)
 refine Pl 1<|cu 4 [52] 56 ((((decide (7≤(b.getD 0 0)))&&(decide ((b.getD 0 0)≤245)))&&(((b.getD 0 0)%7)==0))) (fun K F=>?_) ?_
 refine bl 52 (((decide (7≤(b.getD 0 0)))&&(decide ((b.getD 0 0)≤245)))) (fun q=>?_) (fun q=>?_)
 have V:=(bC q).1
 have W:=(bC q).2
 have af:=of_decide_eq_true V
 have ah:=of_decide_eq_true W
 exact Pl 1<|L1<|Oe (vI (Int.tmod (b.getD 0 0) 7)) (vI ((b.getD 0 0)%7)) (congrArg (Value.int .i64) (Int.tmod_eq_emod_of_nonneg (by omega)))<|Pl 2<|ce F (((b.getD 0 0)%7)==0) (by rw[q];rfl)
 exact Pl 4<|ce F false (by rw[q];rfl)
 refine ai 1<|sq<|aE 6<|c0<|bj<|sq<|sq<|go<|ai 2<|cb ((!(((decide (7≤(b.getD 0 0)))&&(decide ((b.getD 0 0)≤245)))&&(((b.getD 0 0)%7)==0)))) (fun d=>?_) (fun d=>?_)
 have f:(((decide (7≤(b.getD 0 0)))&&(decide ((b.getD 0 0)≤245)))&&(((b.getD 0 0)%7)==0))=false:=by simpa only[Bool.not_eq_true',Bool.not_eq_false'] using d
 refine al 1<|aG g mZ fun aj X Y=>ai 1<|aX<|bJ X (vI 5)<|?_
 exact cv (y:=(aU.zero,5)) (by unfold dh eg dg j9;(try simp only[a,d,f,bi,ja,reduceIte])<;>rfl) (bG (ud j Y i))
 have f:(((decide (7≤(b.getD 0 0)))&&(decide ((b.getD 0 0)≤245)))&&(((b.getD 0 0)%7)==0))=true:=by simpa only[Bool.not_eq_true',Bool.not_eq_false'] using d
 have k:=(bC f).1
 have r:=(bC f).2
 have q32naa:=(bC k).1
 have q32nab:=(bC k).2
 have q32naap:=of_decide_eq_true q32naa
 have q32nabp:=of_decide_eq_true q32nab
 have q32nbp:=ag r
 refine bj<|sq<|al 3<|bq ((b.getD 0 0)+1)<|ai 1<|cb ((decide ((b.length:Int)<((b.getD 0 0)+1)))) (fun h=>?_) (fun h=>?_)
 have Z:=of_decide_eq_true h
 refine al 1<|aG g mZ fun ak a0 a1=>ai 1<|aX<|bJ a0 (vI 2)<|?_
 exact cv (y:=(aU.zero,2)) (by unfold dh eg dg j9;(try simp only[a,d,f,k,q32naa,q32nab,r,h,bi,ja,reduceIte])<;>rfl) (bG (ud j a1 i))
 have Z:=of_decide_eq_false h
 refine bj<|al 4<|bq ((b.getD 0 0)+1)<|ny (gW (P:=Tryz.prog) 27 5 1 Tryz.underlying27 rfl rfl A b.length cp (lo:=1) (up:=((b.getD 0 0)+1)) 1 ((((b.getD 0 0)+1)).toNat) (by omega) (by omega) (by omega) (by omega) (by omega)) fun u hrun43 G=>L0<|ik (.slice u (((((b.getD 0 0)+1)).toNat)-1) (cp-1)) (fa (kl:=.i64) (kh:=.i64) (lo:=1) (hi:=((b.getD 0 0)+1)) (A:=A) (n:=b.length) (c:=cp) rfl Tryz.underlying27 (by kernel_rfl) (by kernel_rfl) (by kernel_rfl) (hrun43 _ _ _))<|?_
 by_cases hE:bE (aY dl (((b.take ((((b.getD 0 0)+1)).toNat)).drop 1)).length 0 ⟨((b.take ((((b.getD 0 0)+1)).toNat)).drop 1),false,0⟩ []).1.e=0
 refine ay (args:=#[vI 0,vB 20,.slice u (((((b.getD 0 0)+1)).toNat)-1) (cp-1)])<|e2 (mL (oI (G _ _ _ _ _ t) (by rw[List.length_drop,List.length_take];omega)) hE) fun am an z B=>?_
 obtain⟨a2,a3,rfl,ao,ap⟩:=aS.shape z.rd
 refine ai 5<|sq<|aE 2<|c0<|bj<|sq<|sq<|go<|Pl 3<|bq ((b.getD 0 0)+1)<|ai 1<|?_
 have H:=aI j B
 refine cb ((decide (((b.getD 0 0)+1)<(b.length:Int)))) (fun s=>?_) (fun s=>?_)
 have a4:=of_decide_eq_true s
 refine al 1<|?_
 refine aG (ub B g) mZ fun ar a5 a6=>ai 1<|aX<|bJ a5 (vI 3)<|?_
 have hE0:(aY dl (((b.take ((((b.getD 0 0)+1)).toNat)).drop 1)).length 0 ⟨((b.take ((((b.getD 0 0)+1)).toNat)).drop 1),false,0⟩ []).1.e=0:=iu hE
 exact cv (y:=(aU.zero,3)) (by unfold dh eg dg j9;(try simp only[a,d,f,k,q32naa,q32nab,r,h,s,bi,hE0,ja,reduceIte])<;>rfl) (bG (ud H a6 i))
 have a4:=of_decide_eq_false s
 refine bj<|al 3<|?_
 have I:=ub B g
 refine aG I (mG 20 0 0 0 0 0 0 0 0 0 0 0 nS nS nS (.slice a2 ((aY dl (((b.take ((((b.getD 0 0)+1)).toNat)).drop 1)).length 0 ⟨((b.take ((((b.getD 0 0)+1)).toNat)).drop 1),false,0⟩ []).2.length) a3) 0 0 0 0 0 nS) fun aw a7 C=>ai 1<|rt<|bJ a7 (vI 0)<|?_
 have hE0:(aY dl (((b.take ((((b.getD 0 0)+1)).toNat)).drop 1)).length 0 ⟨((b.take ((((b.getD 0 0)+1)).toNat)).drop 1),false,0⟩ []).1.e=0:=iu hE
 exact cv (y:=((aU.mk 20 0 0 0 0 0 0 0 0 0 0 0 [] [] [] (aY dl (((b.take ((((b.getD 0 0)+1)).toNat)).drop 1)).length 0 ⟨((b.take ((((b.getD 0 0)+1)).toNat)).drop 1),false,0⟩ []).2 0 0 0 0 0 []),0)) (by unfold dh eg dg j9;(try simp only[a,d,f,k,q32naa,q32nab,r,h,s,bi,hE0,ja,reduceIte])<;>rfl) ⟨_,rfl,⟨_,_,_,_,_,rfl,aS.nil ..,aS.nil ..,(fun _ _ _=>aS.nil ..),((av z C (fun x hx=>(aa (fun e=>(aL (aq g) lr z) (e▸hx)) aF)) (bI.upd16 C (ax (b7 I (by decide)) aN)))).rd,aS.nil ..,(cT (by omega))⟩,(ud H C i)⟩
 refine ay (args:=#[vI 0,vB 20,.slice u (((((b.getD 0 0)+1)).toNat)-1) (cp-1)])<|(kZ (oI (G _ _ _ _ _ t) (by rw[List.length_drop,List.length_take];omega))).mono ?_
 rintro _ az ⟨aA,aB,aC,rfl,J⟩
 refine⟨_,rfl,?_⟩
 have hE1:(bE (aY dl (((b.take ((((b.getD 0 0)+1)).toNat)).drop 1)).length 0 ⟨((b.take ((((b.getD 0 0)+1)).toNat)).drop 1),false,0⟩ []).1.e != 0)=true:=by simpa using hE
 refine ai 5<|sq<|aE 2<|ct hE1<|al 2<|?_
 refine aG (ub J g) mZ fun aD a8 a9=>ai 1<|aX<|bJ a8 (vI (bE (aY dl (((b.take ((((b.getD 0 0)+1)).toNat)).drop 1)).length 0 ⟨((b.take ((((b.getD 0 0)+1)).toNat)).drop 1),false,0⟩ []).1.e))<|?_
 have hE3:((aY dl (((b.take ((((b.getD 0 0)+1)).toNat)).drop 1)).length 0 ⟨((b.take ((((b.getD 0 0)+1)).toNat)).drop 1),false,0⟩ []).1.e != 0)=true:=l0 hE
 exact cv (y:=(aU.zero,bE (aY dl (((b.take ((((b.getD 0 0)+1)).toNat)).drop 1)).length 0 ⟨((b.take ((((b.getD 0 0)+1)).toNat)).drop 1),false,0⟩ []).1.e)) (by unfold dh eg dg j9;(try simp only[a,d,f,k,q32naa,q32nab,r,h,hE1,bi,hE3,ja,reduceIte])<;>rfl) (bG (ud j (uz J a9) i))
theorem yh{m:Md}{A:Option Addr}{cp:Nat}{b:List Int}{w:World}(hsl:aZ m w (.slice A b.length cp) b)(hb:b.length≤1048576) :
    Calls Tryz.prog 112 #[vI 1,vB 20,.slice A b.length cp] w (cN (.slice A b.length cp) b (dh bY j7 20 b) w):=by
 have hln:(b.length:Int)≤1048576:=by omega
 have hcp:b.length≤cp:=by obtain⟨_,_,hv,h1,_⟩:=aS.shape hsl;injection hv with _ _ h3;omega
 have hrb:=aZ.range hsl
 refine en 101 Tryz.func112 rfl<|sg<|aK mZ fun a6 a7 i g j=>ai 1<|sq<|aE 6<|c0<|bj<|sq<|aE 6<|c0<|bj<|sq<|aE 3<|cb (((b.length:Int)==0)) (fun a=>?_) (fun a=>?_)
 have I:=ag a
 refine al 1<|aG g mZ fun a8 J L=>ai 1<|aX<|bJ J (vI 2)<|?_
 exact cv (y:=(aU.zero,2)) (by unfold dh eg dg j7;(try simp only[a,bi,ja,reduceIte])<;>rfl) (bG (ud j L i))
 have I:=au a
 refine bj<|al 1<|?_
 have s:=aZ.old hsl j
 refine ft (aZ.at_ s 0 (by omega)) fun M N O Q a9=>L0<|kY b.length 0 O (by omega)<|L0<|eu (p:=⟨M,N+0,none⟩) (v:=vB (b.getD 0 0)) Q<|bq (b.getD 0 0)<|Pl 1<|aM 3<|cu 3 [36] 39 (((decide (9≤(b.getD 0 0)))&&(decide ((b.getD 0 0)≤251)))) (fun K C=>?_) ?_
 refine bl 36 ((decide (9≤(b.getD 0 0)))) (fun k=>?_) (fun k=>?_)
 have R:=of_decide_eq_true k
 exact Pl 3<|ce C (decide ((b.getD 0 0)≤251)) (by rw[k];rfl)
 have R:=of_decide_eq_false k
 exact Pl 3<|ce C false (by rw[k];rfl)
 refine ai 1<|sq<|aE 6<|c0<|bj<|sq<|sq<|go<|ai 6<|c1<|go<|Pl 3<|cu 3 [65] 68 (((decide (4≤(b.getD 0 0)))&&(decide ((b.getD 0 0)≤245)))) (fun K D=>?_) ?_
 refine bl 65 ((decide (4≤(b.getD 0 0)))) (fun l=>?_) (fun l=>?_)
 have S:=of_decide_eq_true l
 exact Pl 3<|ce D (decide ((b.getD 0 0)≤245)) (by rw[l];rfl)
 have S:=of_decide_eq_false l
 exact Pl 3<|ce D false (by rw[l];rfl)
 refine ai 1<|sq<|aE 2<|cb ((!((decide (4≤(b.getD 0 0)))&&(decide ((b.getD 0 0)≤245))))) (fun d=>?_) (fun d=>?_)
 have f:((decide (4≤(b.getD 0 0)))&&(decide ((b.getD 0 0)≤245)))=false:=by simpa only[Bool.not_eq_true',Bool.not_eq_false'] using d
 refine al 1<|aG g mZ fun ab T U=>ai 1<|aX<|bJ T (vI 5)<|?_
 exact cv (y:=(aU.zero,5)) (by unfold dh eg dg j7;(try simp only[a,d,f,bi,ja,reduceIte])<;>rfl) (bG (ud j U i))
 have f:((decide (4≤(b.getD 0 0)))&&(decide ((b.getD 0 0)≤245)))=true:=by simpa only[Bool.not_eq_true',Bool.not_eq_false'] using d
 have o:=(bC f).1
 have q:=(bC f).2
 have q30nap:=of_decide_eq_true o
 have q30nbp:=of_decide_eq_true q
 refine bj<|sq<|al 3<|bq ((b.getD 0 0)+1)<|ai 1<|cb ((decide ((b.length:Int)<((b.getD 0 0)+1)))) (fun h=>?_) (fun h=>?_)
 have V:=of_decide_eq_true h
 refine al 1<|aG g mZ fun ac W X=>ai 1<|aX<|bJ W (vI 2)<|?_
 exact cv (y:=(aU.zero,2)) (by unfold dh eg dg j7;(try simp only[a,d,f,o,q,h,bi,ja,reduceIte])<;>rfl) (bG (ud j X i))
 have V:=of_decide_eq_false h
 refine bj<|al 4<|bq ((b.getD 0 0)+1)<|ny (gW (P:=Tryz.prog) 27 5 1 Tryz.underlying27 rfl rfl A b.length cp (lo:=1) (up:=((b.getD 0 0)+1)) 1 ((((b.getD 0 0)+1)).toNat) (by omega) (by omega) (by omega) (by omega) (by omega)) fun t hrun41 E=>L0<|ik (.slice t (((((b.getD 0 0)+1)).toNat)-1) (cp-1)) (fa (kl:=.i64) (kh:=.i64) (lo:=1) (hi:=((b.getD 0 0)+1)) (A:=A) (n:=b.length) (c:=cp) rfl Tryz.underlying27 (by kernel_rfl) (by kernel_rfl) (by kernel_rfl) (hrun41 _ _ _))<|?_
 by_cases hE:bE (aY bY (((b.take ((((b.getD 0 0)+1)).toNat)).drop 1)).length 0 ⟨((b.take ((((b.getD 0 0)+1)).toNat)).drop 1),false,0⟩ []).1.e=0
 refine ay (args:=#[vI 1,vB 20,.slice t (((((b.getD 0 0)+1)).toNat)-1) (cp-1)])<|e2 (mL (oA (E _ _ _ _ _ s) (by rw[List.length_drop,List.length_take];omega)) hE) fun ad ae u z=>?_
 obtain⟨Y,Z,rfl,af,ah⟩:=aS.shape u.rd
 refine ai 5<|sq<|aE 2<|c0<|bj<|sq<|sq<|go<|Pl 3<|bq ((b.getD 0 0)+1)<|ai 1<|?_
 have F:=aI j z
 refine cb ((decide (((b.getD 0 0)+1)<(b.length:Int)))) (fun r=>?_) (fun r=>?_)
 have a0:=of_decide_eq_true r
 refine al 1<|?_
 refine aG (ub z g) mZ fun aj a1 a2=>ai 1<|aX<|bJ a1 (vI 3)<|?_
 have hE0:(aY bY (((b.take ((((b.getD 0 0)+1)).toNat)).drop 1)).length 0 ⟨((b.take ((((b.getD 0 0)+1)).toNat)).drop 1),false,0⟩ []).1.e=0:=iu hE
 exact cv (y:=(aU.zero,3)) (by unfold dh eg dg j7;(try simp only[a,d,f,o,q,h,r,bi,hE0,ja,reduceIte])<;>rfl) (bG (ud F a2 i))
 have a0:=of_decide_eq_false r
 refine bj<|al 3<|?_
 have G:=ub z g
 refine aG G (mG 20 0 0 0 0 0 0 0 0 0 0 0 nS nS nS (.slice Y ((aY bY (((b.take ((((b.getD 0 0)+1)).toNat)).drop 1)).length 0 ⟨((b.take ((((b.getD 0 0)+1)).toNat)).drop 1),false,0⟩ []).2.length) Z) 0 0 0 0 0 nS) fun ak a3 B=>ai 1<|rt<|bJ a3 (vI 0)<|?_
 have hE0:(aY bY (((b.take ((((b.getD 0 0)+1)).toNat)).drop 1)).length 0 ⟨((b.take ((((b.getD 0 0)+1)).toNat)).drop 1),false,0⟩ []).1.e=0:=iu hE
 exact cv (y:=((aU.mk 20 0 0 0 0 0 0 0 0 0 0 0 [] [] [] (aY bY (((b.take ((((b.getD 0 0)+1)).toNat)).drop 1)).length 0 ⟨((b.take ((((b.getD 0 0)+1)).toNat)).drop 1),false,0⟩ []).2 0 0 0 0 0 []),0)) (by unfold dh eg dg j7;(try simp only[a,d,f,o,q,h,r,bi,hE0,ja,reduceIte])<;>rfl) ⟨_,rfl,⟨_,_,_,_,_,rfl,aS.nil ..,aS.nil ..,(fun _ _ _=>aS.nil ..),((av u B (fun x hx=>(aa (fun e=>(aL (aq g) lr u) (e▸hx)) aF)) (bI.upd16 B (ax (b7 G (by decide)) aN)))).rd,aS.nil ..,(cT (by omega))⟩,(ud F B i)⟩
 refine ay (args:=#[vI 1,vB 20,.slice t (((((b.getD 0 0)+1)).toNat)-1) (cp-1)])<|(kZ (oA (E _ _ _ _ _ s) (by rw[List.length_drop,List.length_take];omega))).mono ?_
 rintro _ am ⟨an,ao,ap,rfl,H⟩
 refine⟨_,rfl,?_⟩
 have hE1:(bE (aY bY (((b.take ((((b.getD 0 0)+1)).toNat)).drop 1)).length 0 ⟨((b.take ((((b.getD 0 0)+1)).toNat)).drop 1),false,0⟩ []).1.e != 0)=true:=by simpa using hE
 refine ai 5<|sq<|aE 2<|ct hE1<|al 2<|?_
 refine aG (ub H g) mZ fun ar a4 a5=>ai 1<|aX<|bJ a4 (vI (bE (aY bY (((b.take ((((b.getD 0 0)+1)).toNat)).drop 1)).length 0 ⟨((b.take ((((b.getD 0 0)+1)).toNat)).drop 1),false,0⟩ []).1.e))<|?_
 have hE3:((aY bY (((b.take ((((b.getD 0 0)+1)).toNat)).drop 1)).length 0 ⟨((b.take ((((b.getD 0 0)+1)).toNat)).drop 1),false,0⟩ []).1.e != 0)=true:=l0 hE
 exact cv (y:=(aU.zero,bE (aY bY (((b.take ((((b.getD 0 0)+1)).toNat)).drop 1)).length 0 ⟨((b.take ((((b.getD 0 0)+1)).toNat)).drop 1),false,0⟩ []).1.e)) (by unfold dh eg dg j7;(try simp only[a,d,f,o,q,h,hE1,bi,hE3,ja,reduceIte])<;>rfl) (bG (ud j (uz H a5) i))
theorem yc{m:Md}{A:Option Addr}{cp:Nat}{b:List Int}{w:World}{dir:Int}(hd:dir=0∨dir=1)(hsl:aZ m w (.slice A b.length cp) b)(hb:b.length≤1048576) :
    Calls Tryz.prog 112 #[vI dir,vB 21,.slice A b.length cp] w (cN (.slice A b.length cp) b (dh dr jl 21 b) w):=by
 have hln:(b.length:Int)≤1048576:=by omega
 have hcp:b.length≤cp:=by obtain⟨_,_,hv,h1,_⟩:=aS.shape hsl;injection hv with _ _ h3;omega
 have hrb:=aZ.range hsl
 have g:((dir != 0)&&(dir != 1))=false:=by rcases hd with rfl | rfl<;>rfl
 refine en 101 Tryz.func112 rfl<|sg<|aK mZ fun a7 a8 j h k=>ai 1<|sq<|al 3<|cu 3 [14] 17 (((dir != 0)&&(dir != 1))) (fun K D=>?_) ?_
 refine bl 14 ((dir != 0)) (fun l=>?_) (fun l=>?_)
 have J:=aB l
 exact Pl 3<|ce D (dir != 1) (by rw[l];rfl)
 have J:=az l
 exact Pl 3<|ce D false (by rw[l];rfl)
 refine nt<|cf g<|bj<|sq<|aE 6<|c0<|bj<|sq<|aE 3<|cb (((b.length:Int)==0)) (fun a=>?_) (fun a=>?_)
 have L:=ag a
 refine al 1<|aG h mZ fun a9 M N=>ai 1<|aX<|bJ M (vI 2)<|?_
 exact cv (y:=(aU.zero,2)) (by unfold dh eg dg jl;(try simp only[g,a,bi,ja,reduceIte])<;>rfl) (bG (ud k N j))
 have L:=au a
 refine bj<|al 1<|?_
 have t:=aZ.old hsl k
 refine ft (aZ.at_ t 0 (by omega)) fun O Q R S ab=>L0<|kY b.length 0 R (by omega)<|L0<|eu (p:=⟨O,Q+0,none⟩) (v:=vB (b.getD 0 0)) S<|bq (b.getD 0 0)<|Pl 1<|aM 3<|cu 3 [36] 39 (((decide (9≤(b.getD 0 0)))&&(decide ((b.getD 0 0)≤251)))) (fun K E=>?_) ?_
 refine bl 36 ((decide (9≤(b.getD 0 0)))) (fun o=>?_) (fun o=>?_)
 have T:=of_decide_eq_true o
 exact Pl 3<|ce E (decide ((b.getD 0 0)≤251)) (by rw[o];rfl)
 have T:=of_decide_eq_false o
 exact Pl 3<|ce E false (by rw[o];rfl)
 refine ai 1<|sq<|aE 6<|c0<|bj<|sq<|sq<|go<|ai 6<|c0<|bj<|sq<|aE 2<|cb ((!((decide (9≤(b.getD 0 0)))&&(decide ((b.getD 0 0)≤251))))) (fun d=>?_) (fun d=>?_)
 have f:((decide (9≤(b.getD 0 0)))&&(decide ((b.getD 0 0)≤251)))=false:=by simpa only[Bool.not_eq_true',Bool.not_eq_false'] using d
 refine al 1<|aG h mZ fun ac U V=>ai 1<|aX<|bJ U (vI 5)<|?_
 exact cv (y:=(aU.zero,5)) (by unfold dh eg dg jl;(try simp only[g,a,d,f,bi,ja,reduceIte])<;>rfl) (bG (ud k V j))
 have f:((decide (9≤(b.getD 0 0)))&&(decide ((b.getD 0 0)≤251)))=true:=by simpa only[Bool.not_eq_true',Bool.not_eq_false'] using d
 have q:=(bC f).1
 have r:=(bC f).2
 have q30nap:=of_decide_eq_true q
 have q30nbp:=of_decide_eq_true r
 refine bj<|sq<|al 3<|bq ((b.getD 0 0)+1)<|ai 1<|cb ((decide ((b.length:Int)<((b.getD 0 0)+1)))) (fun i=>?_) (fun i=>?_)
 have W:=of_decide_eq_true i
 refine al 1<|aG h mZ fun ad X Y=>ai 1<|aX<|bJ X (vI 2)<|?_
 exact cv (y:=(aU.zero,2)) (by unfold dh eg dg jl;(try simp only[g,a,d,f,q,r,i,bi,ja,reduceIte])<;>rfl) (bG (ud k Y j))
 have W:=of_decide_eq_false i
 refine bj<|al 4<|bq ((b.getD 0 0)+1)<|ny (gW (P:=Tryz.prog) 27 5 1 Tryz.underlying27 rfl rfl A b.length cp (lo:=1) (up:=((b.getD 0 0)+1)) 1 ((((b.getD 0 0)+1)).toNat) (by omega) (by omega) (by omega) (by omega) (by omega)) fun u hrun41 F=>L0<|ik (.slice u (((((b.getD 0 0)+1)).toNat)-1) (cp-1)) (fa (kl:=.i64) (kh:=.i64) (lo:=1) (hi:=((b.getD 0 0)+1)) (A:=A) (n:=b.length) (c:=cp) rfl Tryz.underlying27 (by kernel_rfl) (by kernel_rfl) (by kernel_rfl) (hrun41 _ _ _))<|?_
 by_cases hE:bE (aY dr (((b.take ((((b.getD 0 0)+1)).toNat)).drop 1)).length 0 ⟨((b.take ((((b.getD 0 0)+1)).toNat)).drop 1),false,0⟩ []).1.e=0
 refine ay (args:=#[vI dir,vB 21,.slice u (((((b.getD 0 0)+1)).toNat)-1) (cp-1)])<|e2 (mL (oD (F _ _ _ _ _ t) (by rw[List.length_drop,List.length_take];omega)) hE) fun ae af z B=>?_
 obtain⟨Z,a0,rfl,ah,aj⟩:=aS.shape z.rd
 refine ai 5<|sq<|aE 2<|c0<|bj<|sq<|sq<|go<|Pl 3<|bq ((b.getD 0 0)+1)<|ai 1<|?_
 have G:=aI k B
 refine cb ((decide (((b.getD 0 0)+1)<(b.length:Int)))) (fun s=>?_) (fun s=>?_)
 have a1:=of_decide_eq_true s
 refine al 1<|?_
 refine aG (ub B h) mZ fun ak a2 a3=>ai 1<|aX<|bJ a2 (vI 3)<|?_
 have hE0:(aY dr (((b.take ((((b.getD 0 0)+1)).toNat)).drop 1)).length 0 ⟨((b.take ((((b.getD 0 0)+1)).toNat)).drop 1),false,0⟩ []).1.e=0:=iu hE
 exact cv (y:=(aU.zero,3)) (by unfold dh eg dg jl;(try simp only[g,a,d,f,q,r,i,s,bi,hE0,ja,reduceIte])<;>rfl) (bG (ud G a3 j))
 have a1:=of_decide_eq_false s
 refine bj<|al 3<|?_
 have H:=ub B h
 refine aG H (mG 21 0 0 0 0 0 0 0 0 0 0 0 nS nS nS (.slice Z ((aY dr (((b.take ((((b.getD 0 0)+1)).toNat)).drop 1)).length 0 ⟨((b.take ((((b.getD 0 0)+1)).toNat)).drop 1),false,0⟩ []).2.length) a0) 0 0 0 0 0 nS) fun am a4 C=>ai 1<|rt<|bJ a4 (vI 0)<|?_
 have hE0:(aY dr (((b.take ((((b.getD 0 0)+1)).toNat)).drop 1)).length 0 ⟨((b.take ((((b.getD 0 0)+1)).toNat)).drop 1),false,0⟩ []).1.e=0:=iu hE
 exact cv (y:=((aU.mk 21 0 0 0 0 0 0 0 0 0 0 0 [] [] [] (aY dr (((b.take ((((b.getD 0 0)+1)).toNat)).drop 1)).length 0 ⟨((b.take ((((b.getD 0 0)+1)).toNat)).drop 1),false,0⟩ []).2 0 0 0 0 0 []),0)) (by unfold dh eg dg jl;(try simp only[g,a,d,f,q,r,i,s,bi,hE0,ja,reduceIte])<;>rfl) ⟨_,rfl,⟨_,_,_,_,_,rfl,aS.nil ..,aS.nil ..,(fun _ _ _=>aS.nil ..),((av z C (fun x hx=>(aa (fun e=>(aL (aq h) lr z) (e▸hx)) aF)) (bI.upd16 C (ax (b7 H (by decide)) aN)))).rd,aS.nil ..,(cT (by omega))⟩,(ud G C j)⟩
 refine ay (args:=#[vI dir,vB 21,.slice u (((((b.getD 0 0)+1)).toNat)-1) (cp-1)])<|(kZ (oD (F _ _ _ _ _ t) (by rw[List.length_drop,List.length_take];omega))).mono ?_
 rintro _ an ⟨ao,ap,ar,rfl,I⟩
 refine⟨_,rfl,?_⟩
 have hE1:(bE (aY dr (((b.take ((((b.getD 0 0)+1)).toNat)).drop 1)).length 0 ⟨((b.take ((((b.getD 0 0)+1)).toNat)).drop 1),false,0⟩ []).1.e != 0)=true:=by simpa using hE
 refine ai 5<|sq<|aE 2<|ct hE1<|al 2<|?_
 refine aG (ub I h) mZ fun aw a5 a6=>ai 1<|aX<|bJ a5 (vI (bE (aY dr (((b.take ((((b.getD 0 0)+1)).toNat)).drop 1)).length 0 ⟨((b.take ((((b.getD 0 0)+1)).toNat)).drop 1),false,0⟩ []).1.e))<|?_
 have hE3:((aY dr (((b.take ((((b.getD 0 0)+1)).toNat)).drop 1)).length 0 ⟨((b.take ((((b.getD 0 0)+1)).toNat)).drop 1),false,0⟩ []).1.e != 0)=true:=l0 hE
 exact cv (y:=(aU.zero,bE (aY dr (((b.take ((((b.getD 0 0)+1)).toNat)).drop 1)).length 0 ⟨((b.take ((((b.getD 0 0)+1)).toNat)).drop 1),false,0⟩ []).1.e)) (by unfold dh eg dg jl;(try simp only[g,a,d,f,q,r,i,hE1,bi,hE3,ja,reduceIte])<;>rfl) (bG (ud k (uz I a6) j))
theorem wm{A:Option Addr}{cp:Nat}{b:List Int}{w:World}{dir c:Int}(hd:dir=0∨dir=1)(hc:¬ c=20∧¬ c=21) :
    Calls Tryz.prog 112 #[vI dir,vB c,.slice A b.length cp] w (cN (.slice A b.length cp) b (aU.zero,4) w):=by
 have g:((dir != 0)&&(dir != 1))=false:=by rcases hd with rfl | rfl<;>rfl
 have e2:((c != 20)&&(c != 21))=true:=by simp[hc.1,hc.2]
 refine en 101 Tryz.func112 rfl<|sg<|aK mZ fun o p h i j=>ai 1<|sq<|al 3<|cu 3 [14] 17 (((dir != 0)&&(dir != 1))) (fun K e=>?_) ?_
 refine bl 14 ((dir != 0)) (fun a=>?_) (fun a=>?_)
 have k:=aB a
 exact Pl 3<|ce e (dir != 1) (by rw[a];rfl)
 have k:=az a
 exact Pl 3<|ce e false (by rw[a];rfl)
 refine nt<|cf g<|bj<|sq<|al 3<|cu 3 [21] 24 (((c != 20)&&(c != 21))) (fun K f=>?_) ?_
 refine bl 21 ((c != 20)) (fun d=>?_) (fun d=>?_)
 have l:=aB d
 exact Pl 3<|ce f (c != 21) (by rw[d];rfl)
 have l:=az d
 exact Pl 3<|ce f false (by rw[d];rfl)
 refine nt<|ct e2<|al 1<|aG i mZ fun q m n=>ai 1<|aX<|bJ m (vI 4)<|?_
 exact bG (ud j n h)
theorem xp{A:Option Addr}{cp:Nat}{b:List Int}{w:World}{dir c:Int}(hd:¬ (dir=0∨dir=1)) :
    Calls Tryz.prog 112 #[vI dir,vB c,.slice A b.length cp] w (cN (.slice A b.length cp) b (aU.zero,1) w):=by
 have e:((dir != 0)&&(dir != 1))=true:=by simp;omega
 refine en 101 Tryz.func112 rfl<|sg<|aK mZ fun l m f g h=>ai 1<|sq<|al 3<|cu 3 [14] 17 (((dir != 0)&&(dir != 1))) (fun K d=>?_) ?_
 refine bl 14 ((dir != 0)) (fun a=>?_) (fun a=>?_)
 have i:=aB a
 exact Pl 3<|ce d (dir != 1) (by rw[a];rfl)
 have i:=az a
 exact Pl 3<|ce d false (by rw[a];rfl)
 refine nt<|ct e<|al 1<|aG g mZ fun n j k=>ai 1<|aX<|bJ j (vI 1)<|?_
 exact bG (ud h k f)
theorem tf{dir c:Int}{b:List Int}(hd:dir=0∨dir=1)(hc:¬ c=20∧¬ c=21) : aj bh dir c b=(aU.zero,4):=by
  unfold aj bh
  rw[if_pos hd,if_neg (by simpa using hc.1),if_neg (by simpa using hc.2)]
theorem vA{form:Int→Int→ah→Option (ah × aU)}{dir c:Int}{b:List Int}(hd:¬ (dir=0∨dir=1)) : aj form dir c b=(aU.zero,1):=by
  unfold aj
  rw[if_neg hd]
theorem kG{m:Md}{v:Value}{b:List Int}{w:World}{dir c:Int}(hc:B8 c)(h:aZ m w v b)(hb:b.length≤1048576) :
    Calls Tryz.prog 112 #[.int .i64 dir,.int .u8 c,v] w (cN v b (aj bh dir c b) w):=by
  have hr:=aZ.range h
  obtain⟨A,cp,rfl,_,_⟩:=h.shape
  by_cases hd:dir=0∨dir=1
  · by_cases a:c=20
    · subst a
      rcases hd with rfl|rfl
      · rw[sf hr];exact xa h hb
      · rw[sB hr];exact yh h hb
    · by_cases d:c=21
      · subst d
        rw[yd hd hr];exact yc hd h hb
      · rw[tf hd ⟨a,d⟩];exact wm hd ⟨a,d⟩
  · rw[vA hd];exact xp hd
end Go.Proofs.YtdkhbcefkfgbdaaGreat
