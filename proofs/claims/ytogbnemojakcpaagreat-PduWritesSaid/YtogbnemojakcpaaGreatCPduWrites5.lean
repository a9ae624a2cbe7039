/- Contracts of functions, part CPduWrites5. -/
import Derived.Test.YtogbnemojakcpaaGreatCPduWrites1
import Derived.Test.YtogbnemojakcpaaGreatCPduWrites2
import Derived.Test.YtogbnemojakcpaaGreatCPduWrites3
import Derived.Test.YtogbnemojakcpaaGreatCPduWrites4
set_option linter.unusedVariables false
set_option linter.unusedSimpArgs false
set_option maxRecDepth 100000
set_option maxHeartbeats 4000000
namespace Go.Proofs.YtogbnemojakcpaaGreat
open Go.RowKit
theorem RC.lt{w0:World}{m:Md}{A:Option Addr}{cp:Nat}{full:List Int}{w:World}{g:Nat}{C:ai}(h:RC w0 m A cp full w g C) : g<w.heap.size:=by
  obtain⟨k,h1,_⟩:=h.cell
  exact au h1
theorem RC.fld{w0:World}{m:Md}{A:Option Addr}{cp:Nat}{full:List Int}{w:World}{g:Nat}{C:ai}(h:RC w0 m A cp full w g C) : w.cell? ⟨g,3,none⟩=some (.int .i64 C.e):=by
  obtain⟨k,h1,_⟩:=h.cell
  rw[bB h1]
  rfl
theorem nO{c:Int}{C:ai}(h:(((c==3)||(c==4))||(c==23))=true) : aH 1 c C=some (bT c C):=by
  unfold aH
  by_cases h1:(c==3 || c==4)=true
  · rw[if_pos h1]
    rfl
  · rw[if_neg h1]
    have h2:c=23:=by
      simp only[Bool.or_eq_true,beq_iff_eq] at h h1
      omega
    subst h2
    rfl
theorem jK{n m:Int}:((n%2==0&&decide (0<n))&&decide (n≤m))=hH n m:=by
  unfold hH
  rw[Bool.eq_iff_iff]
  simp only[Bool.and_eq_true,decide_eq_true_eq,beq_iff_eq]
  omega
theorem jN{a k:Int}:(a==2*k+2)=(2+2*k==a):=by
  rw[Bool.eq_iff_iff]
  simp only[beq_iff_eq]
  omega
theorem dJ{x:Int}:decide (0<x)=decide (1≤x):=by
  rw[Bool.eq_iff_iff]
  simp only[decide_eq_true_eq]
  omega
theorem kQ{w0:World}{m:Md}{A:Option Addr}{cp:Nat}{full:List Int}{w:World}{g:Nat}{C:ai}{a most:Int}(ha:0≤a∧a<65536)(hC:RC w0 m A cp full w g C) :
    Calls Tryz.prog 159 #[.pointer (some ⟨g,0,none⟩),.int .u16 a,.int .i64 most] w (p9 w0 m A cp full g .i64 65536 C.wordV (bJ C a most) w):=by
 have hrng:=bR (RC.rng hC)
 refine en 26 Tryz.func159 rfl<|sg<|Pl 1<|ng<|Pl 1<|L0<|Oc<|m3 (d6 hC) fun r f h s=>L0<|Oi C.wordV<|Pl 1<|nt<|?_
 refine sg<|Pl 4<|cu 4 [14] 18 (((decide (0<C.wordV))&&(decide (C.wordV≤most)))) (fun K d=>?_) ?_
 refine bl 14 ((decide (0<C.wordV))) (fun b=>?_) (fun b=>?_)
 have i:=of_decide_eq_true b
 exact Pl 4<|ce d (decide (C.wordV≤most)) (by rw[b];rfl)
 have i:=of_decide_eq_false b
 exact Pl 4<|ce d false (by rw[b];rfl)
 refine L0<|Oc<|m2 (b7 (((decide (0<C.wordV))&&(decide (C.wordV≤most)))) 5 f) fun j k l=>?_
 refine fL k fun x19 o e=>?_
 refine ng<|Pl 3<|L0<|Oc<|m1 (pg (a:=a) (n:=C.wordV) (w:=j) (by omega) (by omega)) fun t c=>?_
 refine L0<|Oc<|m2 (b7 ((dE a C.wordV)) 7 (RC.upd e c aA (aE.step (RC.u e) c))) fun v p q=>ng<|Pl 2<|nt<|rt<|rr (.int .i64 C.wordV)<|?_
 subst o
 have e1:bJ C a most=((C.wordsC 1).need (decide (0<C.wordV)&&decide (C.wordV≤most)) 5).need (dE a C.wordV) 7:=by unfold bJ;rw[← dJ]
 rw[e1]
 exact⟨rfl,p,(u1 h (u1 l (uz c q) im) im),hrng⟩
theorem aS.upd0{α:Type}{m:Md}{e:TypeId}{sz:Nat}{R R':World→α→List Value→Prop}{w:World}{v:Value}{xs:List α}(h:aS m e sz R w v xs)(hR:∀ x cs,R w x cs→R' w x cs) : aS m e sz R' w v xs:=by
  obtain⟨A,c,rfl,h1,h2,h0,h3⟩:=h
  refine⟨A,c,rfl,h1,h2,h0,fun hp=>?_⟩
  obtain⟨b,off,cells,t,fr,rfl,hb,ht,hx⟩:=h3 hp
  exact⟨b,off,cells,t,fr,rfl,hb,ht,fun j x hj=>by obtain⟨cs,hl,hr,hc⟩:=hx j x hj;exact⟨cs,hl,hR _ _ hr,hc⟩⟩
def ns (v0:Value)(b:List Int)(w:World)(o:Obj)(cs:List Value) : Prop:=∃ A n c,cs=[.int .u8 o.id,.slice A n c]∧(∀ m' w',bo m' w' v0 b→bo m' w' (.slice A n c) o.value)∧B8 o.id
theorem ns.ones{v0:Value}{b:List Int}{w:World}(x:Obj)(cs:List Value)(h:ns v0 b w x cs) : ∀ v,v∈cs→v.oneCell'=true:=by
  obtain⟨A,n,c,rfl,h2,_⟩:=h
  intro u hu
  simp at hu
  rcases hu with rfl|rfl<;>rfl
def dg (v0:Value)(b:List Int)(w:World)(cs:List Value)(M:aQ) : Prop :=
  ∃ vw vb vd vr vo,cs=bu M vw vb vd vr vo∧dN true w vw M.words∧gQ true w vb M.bits∧(∀ m' w',bo m' w' v0 b→bo m' w' vd M.data)∧kf true w vr M.recs∧aS true 111 2 (ns v0 b) w vo M.objects∧fu M
theorem dg.rd{v0:Value}{b:List Int}{m:Md}{w:World}{cs:List Value}{M:aQ}(h:dg v0 b w cs M)(hb:bo m w v0 b) : aO false w cs M:=by
  obtain⟨vw,vb,vd,vr,vo,h0,h1,h2,h3,h4,h5,h6⟩:=h
  exact⟨vw,vb,vd,vr,vo,h0,aS.any h1 fun _ _ q=>q,aS.any h2 fun _ _ q=>q,aS.any (h3 _ _ hb) fun _ _ q=>q,aS.any h4 fun r cs ⟨v,a,b,c⟩=>⟨v,a,aS.any b fun _ _ q=>q,c⟩,aS.any h5 fun r cs ⟨A,n,k,a,b,c⟩=>⟨_,a,aS.any (b _ _ hb) fun _ _ q=>q,c⟩,h6⟩
theorem dg.rdt{v0:Value}{b:List Int}{w:World}{cs:List Value}{M:aQ}(h:dg v0 b w cs M)(hb:bo true w v0 b) : aO true w cs M:=by
  obtain⟨vw,vb,vd,vr,vo,h0,h1,h2,h3,h4,h5,h6⟩:=h
  exact⟨vw,vb,vd,vr,vo,h0,h1,h2,h3 _ _ hb,h4,aS.upd0 h5 fun r cs ⟨A,n,k,a,b,c⟩=>⟨_,a,b _ _ hb,c⟩,h6⟩
theorem dg.sub{v0 v1:Value}{b b1:List Int}{w:World}{cs:List Value}{M:aQ}(h:dg v1 b1 w cs M)(hv:∀ m' w',bo m' w' v0 b→bo m' w' v1 b1) : dg v0 b w cs M:=by
  obtain⟨vw,vb,vd,vr,vo,h0,h1,h2,h3,h4,h5,h6⟩:=h
  exact⟨vw,vb,vd,vr,vo,h0,h1,h2,fun m' w' q=>h3 _ _ (hv _ _ q),h4,aS.upd0 h5 fun r cs ⟨A,n,k,a,b,c⟩=>⟨A,n,k,a,fun m' w' q=>b _ _ (hv _ _ q),c⟩,h6⟩
theorem dg.upd{v0:Value}{b:List Int}{w w':World}{cs:List Value}{M:aQ}{S:List Nat}(h:dg v0 b w cs M)(hu:aE S w w')(hs:dm true lS S w) : dg v0 b w' cs M:=by
  obtain⟨vw,vb,vd,vr,vo,h0,h1,h2,h3,h4,h5,h6⟩:=h
  exact⟨vw,vb,vd,vr,vo,h0,dN.upd' h1 hu (hs.sub (by decide)),gQ.upd' h2 hu (hs.sub (by decide)),h3,kf.upd' h4 hu hs,aS.upd h5 hu (hs.sub (by decide)) (fun _ _ q=>q),h6⟩
theorem dg.zero(v0:Value)(b:List Int)(w:World) : dg v0 b w mr.toList aQ.zero:=by
  obtain⟨vw,vb,vd,vr,vo,h0,h1,h2,h3,h4,h5,h6⟩:=aO.zero true w
  exact⟨_,_,_,_,_,rfl,aS.nil ..,aS.nil ..,(fun _ _ _=>aS.nil ..),aS.nil ..,aS.nil ..,h6⟩
theorem dg.size{v0:Value}{b:List Int}{w:World}{cs:Array Value}{M:aQ}(h:dg v0 b w cs.toList M) : cs.size=22:=by
  obtain⟨vw,vb,vd,vr,vo,h0,_⟩:=h
  rw[← Array.length_toList,h0]
  rfl
theorem dg.one{v0:Value}{b:List Int}{w w2:World}{m:Md}{cs:Array Value}{M:aQ}(h:dg v0 b w cs.toList M)(hb:bo m w2 v0 b) : cs.all (·.oneCell')=true:=by
  obtain⟨vw,vb,vd,vr,vo,h0,h1,h2,h3,h4,h5,h6⟩:=h
  rw[← Array.all_toList,h0]
  obtain⟨_,_,rfl,_⟩:=h1
  obtain⟨_,_,rfl,_⟩:=h2
  obtain⟨_,_,rfl,_⟩:=h3 _ _ hb
  obtain⟨_,_,rfl,_⟩:=h4
  obtain⟨_,_,rfl,_⟩:=h5
  rfl
def cK (v0:Value)(b:List Int)(res:aQ × Int)(w:World)(e:Ending)(w':World) : Prop:=∃ cs,e = .returned (.tuple #[.agg cs,.int .i64 res.2])∧dg v0 b w' cs.toList res.1∧aE [] w w'
theorem bt{v0:Value}{b:List Int}{M:aQ}{c:ai}{w W:World}{cs:Array Value}(h0:c.endC.e=0)(h:dg v0 b W cs.toList M)(hu:aE [] w W) : cK v0 b (aL M c) w (.returned (.tuple #[.agg cs,.int .i64 0])) W:=by
  unfold aL
  rw[if_pos h0]
  exact⟨cs,rfl,h,hu⟩
theorem bh{v0:Value}{b:List Int}{M:aQ}{c:ai}{w W:World}(h0:¬ c.endC.e=0)(hu:aE [] w W) : cK v0 b (aL M c) w (.returned (.tuple #[.agg mr,.int .i64 c.endC.e])) W:=by
  unfold aL
  rw[if_neg h0]
  exact⟨mr,rfl,dg.zero ..,hu⟩
theorem bA{v0:Value}{b:List Int}{x:Int}{w W:World}(hu:aE [] w W) : cK v0 b (aQ.zero,x) w (.returned (.tuple #[.agg mr,.int .i64 x])) W:=⟨mr,rfl,dg.zero ..,hu⟩
theorem ln{m:Md}{A:Option Addr}{cp:Nat}{b:List Int}{w:World}{c:Int}(hcode:B8 c)(hsl:bo m w (.slice A b.length cp) b)(hb:b.length≤1048576) :
    Calls Tryz.prog 94 #[.int .i64 0,.int .u8 c,.slice A b.length cp] w (cK (.slice A b.length cp) b (ag aH 0 c b) w):=by
 obtain⟨hcode1,hcode2⟩:=hcode
 have hln:(b.length:Int)≤1048576:=by omega
 refine en 221 Tryz.func94 rfl<|sg<|L0<|bQ mZ fun eH eI t k f=>Pl 1<|nt<|sq<|sg<|Pl 6<|nt<|c0<|?_
 refine bp<|sg<|Pl 2<|L0<|dC #[.slice A b.length cp,.int .i64 0,.bool false,.int .i64 0] fun l eJ d o i=>Pl 1<|ng<|Pl 2<|L0<|bQ mZ fun eK eL g a8 H=>L0<|be a8 (mC c) fun a6 a7 y=>?_
 refine nt<|sq<|bk<|sg<|Pl 15<|nt<|c0<|sg<|Pl 3<|cu 3 [68] 71 (((c==3)||(c==4))) (fun K bN=>?_) ?_
 refine bl 68 ((c==3)) (fun a9=>?_) (fun a9=>?_)
 have dq:=ae a9
 exact Pl 3<|ce bN true (by rw[a9];rfl)
 have dq:=ak a9
 exact Pl 3<|ce bN (c==4) (by rw[a9];rfl)
 refine Pl 1<|nt<|?_
 have a0:=ud H y g
 have r:=aG i a0
 have z:=aG f r
 refine cb (((c==3)||(c==4))) (fun q=>?_) (fun q=>?_)
 refine sg<|Pl 1<|?_
 have dr:RC w _ A cp b a6 l (ai.mk b false 0):=⟨hsl,z,(Nat.le_trans f.size d),⟨0,(ub a0 o),Nat.zero_le _,rfl⟩,by omega⟩
 refine L0<|Oc<|m3 (d6 dr) fun eM ds bO eN=>Pl 1<|?_
 have ab:=nb (au o) lr g
 refine L0<|cg (aZ bO (Ne.symm ab) a7) 2 (mG c 0 ((ai.mk b false 0).wordV) 0 0 0 0 0 0 0 0 0 nS nS nS nS 0 0 0 0 0 nS) fun eO bR bS=>nt<|go<|Pl 2<|L0<|aP bR 2<|?_
 have b2:=us bO bS
 have bU:=ut z b2 (ac (ni f.size d) (ac (ni (le f.size i.size) g) av))
 refine L0<|Oc<|m3 (kQ (a:=(ai.mk b false 0).wordV) (most:=125) (by omega) (RC.upd ds bS (aa ab aA) bU)) fun eP dt bV eQ=>?_
 refine fL dt fun x52 bW du=>?_
 refine L0<|vV (((ai.mk b false 0).wordsC 1).wordV)<|Pl 1<|?_
 refine L0<|cg (aZ bV (Ne.symm ab) bR) 3 (mG c 0 ((ai.mk b false 0).wordV) (((ai.mk b false 0).wordsC 1).wordV) 0 0 0 0 0 0 0 0 nS nS nS nS 0 0 0 0 0 nS) fun eR dv bY=>nl<|bn<|tn<|sg<|Pl 1<|?_
 have b3:=us bV bY
 have bZ:=ut bU b3 (ac (ni f.size d) (ac (ni (le f.size i.size) g) av))
 refine L0<|Oc<|m2 (ex (RC.upd du bY (aa ab aA) bZ)) fun eS b4 aM=>nt<|sq<|sg<|Pl 3<|L0<|eC (p:=⟨l,3,none⟩) (v:=.int .i64 x52.endC.e) (RC.fld b4)<|Pl 1<|nt<|?_
 have c2:=ud bZ aM (le f.size d)
 refine cb ((x52.endC.e != 0)) (fun ad=>?_) (fun ad=>?_)
 have b5:=az ad
 refine sq<|Rg 7 (fun w'=>w'.cell? ⟨l,3,none⟩=some (.int .i64 x52.endC.e)) fun eT aN=>?_
 have c3:=RC.upd b4 aN aA (aE.step (RC.u b4) aN)
 refine bi (RC.fld c3) fun af=>Rt 0 af<|Rt 1 af<|Rt 2 af<|Rt 3 af<|Rl 4 af (fun _ hs=>hs)<|?_
 refine R0 5 rfl<|be (ub (ut r (ut b2 (u1 b3 (aG aM aN) im) (ac im (ac im av))) (ac (nr d) (ac (ni i.size g) av))) k) mZ fun eU dw c4=>?_
 have c5:=ud c2 (uz aN c4) t
 refine bi (RC.fld (RC.upd c3 c4 (aa (Ne.symm (nb (au k) lr d)) aA) c5)) fun dx=>Rt 6 dx<|re<|tn<|rt<|tr<|bX dw (.int .i64 x52.endC.e)<|?_
 have hs:ag aH 0 c b=aL (aQ.mk c 0 ((ai.mk b false 0).wordV) (((ai.mk b false 0).wordsC 1).wordV) 0 0 0 0 0 0 0 0 [] [] [] [] 0 0 0 0 0 []) x52:=by
   subst bW
   unfold ag aH bL bT d8 cz ck cC cA i1
   (try simp only[q,ad,bs,if_true,if_false,decide_true,decide_false,eq_self,true_or,or_true,or_false,false_or,if_true,if_false,co,cm,cn,cv,reduceIte,jK,jN])
   all_goals rfl
 rw[hs]
 exact bh b5 c5
 have b5:=aj ad
 refine bp<|sg<|?_
 refine L0<|bP (aZ aM (Ne.symm ab) dv)<|?_
 refine L0<|be (ub (ut r (ut b2 (u1 b3 aM im) (ac im (ac im av))) (ac (nr d) (ac (ni i.size g) av))) k) (mG c 0 ((ai.mk b false 0).wordV) (((ai.mk b false 0).wordsC 1).wordV) 0 0 0 0 0 0 0 0 nS nS nS nS 0 0 0 0 0 nS) fun eV dy dz=>Pl 1<|nt<|rt<|bX dy (.int .i64 0)<|?_
 have hs:ag aH 0 c b=aL (aQ.mk c 0 ((ai.mk b false 0).wordV) (((ai.mk b false 0).wordsC 1).wordV) 0 0 0 0 0 0 0 0 [] [] [] [] 0 0 0 0 0 []) x52:=by
   subst bW
   unfold ag aH bL bT d8 cz ck cC cA i1
   (try simp only[q,ad,bs,if_true,if_false,decide_true,decide_false,eq_self,true_or,or_true,or_false,false_or,if_true,if_false,co,cm,cn,cv,reduceIte,jK,jN])
   all_goals rfl
 rw[hs]
 exact bt b5 ⟨_,_,_,_,_,rfl,aS.nil ..,aS.nil ..,(fun _ _ _=>aS.nil ..),aS.nil ..,aS.nil ..,⟨(b8 (x:=c) (by omega)),(b8 (x:=0) (by omega)),(aD (x:=(ai.mk b false 0).wordV) (by omega)),(aD (x:=((ai.mk b false 0).wordsC 1).wordV) (by omega)),(aD (x:=0) (by omega)),(aD (x:=0) (by omega)),(aD (x:=0) (by omega)),(aD (x:=0) (by omega)),(aD (x:=0) (by omega)),(aD (x:=0) (by omega)),(aD (x:=0) (by omega)),(aD (x:=0) (by omega)),(b8 (x:=0) (by omega)),(b8 (x:=0) (by omega)),(b8 (x:=0) (by omega)),(b8 (x:=0) (by omega)),(b8 (x:=0) (by omega))⟩⟩ (ud c2 dz t)
 have B:=(aI q).1
 have C:=(aI q).2
 have eW:=ak B
 have eX:=ak C
 refine sg<|Pl 3<|nt<|cb ((c==6)) (fun s=>?_) (fun s=>?_)
 have dA:=ae s
 refine sg<|Pl 1<|?_
 have dB:RC w _ A cp b a6 l (ai.mk b false 0):=⟨hsl,z,(Nat.le_trans f.size d),⟨0,(ub a0 o),Nat.zero_le _,rfl⟩,by omega⟩
 refine L0<|Oc<|m3 (d6 dB) fun eY dD c6 eZ=>Pl 1<|?_
 have ah:=nb (au o) lr g
 refine L0<|cg (aZ c6 (Ne.symm ah) a7) 2 (mG c 0 ((ai.mk b false 0).wordV) 0 0 0 0 0 0 0 0 0 nS nS nS nS 0 0 0 0 0 nS) fun f0 dE c7=>nt<|go<|Pl 1<|?_
 have b6:=us c6 c7
 have c8:=ut z b6 (ac (ni f.size d) (ac (ni (le f.size i.size) g) av))
 refine L0<|Oc<|m3 (d6 (RC.upd dD c7 (aa ah aA) c8)) fun f1 dF c9 f2=>Pl 1<|?_
 refine L0<|cg (aZ c9 (Ne.symm ah) dE) 4 (mG c 0 ((ai.mk b false 0).wordV) 0 (((ai.mk b false 0).wordsC 1).wordV) 0 0 0 0 0 0 0 nS nS nS nS 0 0 0 0 0 nS) fun f3 dG ca=>nl<|bn<|tn<|sg<|Pl 1<|?_
 have b9:=us c9 ca
 have cc:=ut c8 b9 (ac (ni f.size d) (ac (ni (le f.size i.size) g) av))
 refine L0<|Oc<|m2 (ex (RC.upd dF ca (aa ah aA) cc)) fun f4 ba aO=>nt<|sq<|sg<|Pl 3<|L0<|eC (p:=⟨l,3,none⟩) (v:=.int .i64 (((((ai.mk b false 0).wordsC 1).wordsC 1).endC).e)) (RC.fld ba)<|Pl 1<|nt<|?_
 have cd:=ud cc aO (le f.size d)
 refine cb (((((((ai.mk b false 0).wordsC 1).wordsC 1).endC).e)!=0)) (fun al=>?_) (fun al=>?_)
 have bb:=az al
 refine sq<|Rg 7 (fun w'=>w'.cell? ⟨l,3,none⟩=some (.int .i64 (((((ai.mk b false 0).wordsC 1).wordsC 1).endC).e))) fun f5 aR=>?_
 have ch:=RC.upd ba aR aA (aE.step (RC.u ba) aR)
 refine bi (RC.fld ch) fun am=>Rt 0 am<|Rt 1 am<|Rt 2 am<|Rt 3 am<|Rl 4 am (fun _ hs=>hs)<|?_
 refine R0 5 rfl<|be (ub (ut r (ut b6 (u1 b9 (aG aO aR) im) (ac im (ac im av))) (ac (nr d) (ac (ni i.size g) av))) k) mZ fun f6 dH ci=>?_
 have cj:=ud cd (uz aR ci) t
 refine bi (RC.fld (RC.upd ch ci (aa (Ne.symm (nb (au k) lr d)) aA) cj)) fun dI=>Rt 6 dI<|re<|tn<|rt<|tr<|bX dH (.int .i64 (((((ai.mk b false 0).wordsC 1).wordsC 1).endC).e))<|?_
 have hs:ag aH 0 c b=aL (aQ.mk c 0 ((ai.mk b false 0).wordV) 0 (((ai.mk b false 0).wordsC 1).wordV) 0 0 0 0 0 0 0 [] [] [] [] 0 0 0 0 0 []) (((ai.mk b false 0).wordsC 1).wordsC 1):=by
   unfold ag aH bL bT d8 cz ck cC cA i1
   (try simp only[q,B,C,s,al,bs,if_true,if_false,decide_true,decide_false,eq_self,true_or,or_true,or_false,false_or,if_true,if_false,co,cm,cn,cv,reduceIte,jK,jN])
   all_goals rfl
 rw[hs]
 exact bh bb cj
 have bb:=aj al
 refine bp<|sg<|?_
 refine L0<|bP (aZ aO (Ne.symm ah) dG)<|?_
 refine L0<|be (ub (ut r (ut b6 (u1 b9 aO im) (ac im (ac im av))) (ac (nr d) (ac (ni i.size g) av))) k) (mG c 0 ((ai.mk b false 0).wordV) 0 (((ai.mk b false 0).wordsC 1).wordV) 0 0 0 0 0 0 0 nS nS nS nS 0 0 0 0 0 nS) fun f7 dJ dK=>Pl 1<|nt<|rt<|bX dJ (.int .i64 0)<|?_
 have hs:ag aH 0 c b=aL (aQ.mk c 0 ((ai.mk b false 0).wordV) 0 (((ai.mk b false 0).wordsC 1).wordV) 0 0 0 0 0 0 0 [] [] [] [] 0 0 0 0 0 []) (((ai.mk b false 0).wordsC 1).wordsC 1):=by
   unfold ag aH bL bT d8 cz ck cC cA i1
   (try simp only[q,B,C,s,al,bs,if_true,if_false,decide_true,decide_false,eq_self,true_or,or_true,or_false,false_or,if_true,if_false,co,cm,cn,cv,reduceIte,jK,jN])
   all_goals rfl
 rw[hs]
 exact bt bb ⟨_,_,_,_,_,rfl,aS.nil ..,aS.nil ..,(fun _ _ _=>aS.nil ..),aS.nil ..,aS.nil ..,⟨(b8 (x:=c) (by omega)),(b8 (x:=0) (by omega)),(aD (x:=(ai.mk b false 0).wordV) (by omega)),(aD (x:=0) (by omega)),(aD (x:=((ai.mk b false 0).wordsC 1).wordV) (by omega)),(aD (x:=0) (by omega)),(aD (x:=0) (by omega)),(aD (x:=0) (by omega)),(aD (x:=0) (by omega)),(aD (x:=0) (by omega)),(aD (x:=0) (by omega)),(aD (x:=0) (by omega)),(b8 (x:=0) (by omega)),(b8 (x:=0) (by omega)),(b8 (x:=0) (by omega)),(b8 (x:=0) (by omega)),(b8 (x:=0) (by omega))⟩⟩ (ud cd dK t)
 have dA:=ak s
 refine sg<|Pl 3<|nt<|cb ((c==16)) (fun D=>?_) (fun D=>?_)
 have dL:=ae D
 refine sg<|Pl 1<|?_
 have dM:RC w _ A cp b a6 l (ai.mk b false 0):=⟨hsl,z,(Nat.le_trans f.size d),⟨0,(ub a0 o),Nat.zero_le _,rfl⟩,by omega⟩
 refine L0<|Oc<|m3 (d6 dM) fun f8 dN L f9=>Pl 1<|?_
 have I:=nb (au o) lr g
 refine L0<|cg (aZ L (Ne.symm I) a7) 2 (mG c 0 ((ai.mk b false 0).wordV) 0 0 0 0 0 0 0 0 0 nS nS nS nS 0 0 0 0 0 nS) fun fa cl M=>ng<|Pl 2<|L0<|aP cl 2<|?_
 have bc:=us L M
 have cq:=ut z bc (ac (ni f.size d) (ac (ni (le f.size i.size) g) av))
 refine L0<|Oc<|m3 (kQ (a:=(ai.mk b false 0).wordV) (most:=123) (by omega) (RC.upd dN M (aa I aA) cq)) fun fb dO N fc=>?_
 refine fL dO fun cr cs dP=>?_
 refine L0<|vV (((ai.mk b false 0).wordsC 1).wordV)<|Pl 1<|?_
 refine L0<|cg (aZ N (Ne.symm I) cl) 3 (mG c 0 ((ai.mk b false 0).wordV) (((ai.mk b false 0).wordsC 1).wordV) 0 0 0 0 0 0 0 0 nS nS nS nS 0 0 0 0 0 nS) fun fd dQ O=>ng<|Pl 2<|nt<|c1<|sg<|Pl 1<|?_
 have bd:=us N O
 have ct:=ut cq bd (ac (ni f.size d) (ac (ni (le f.size i.size) g) av))
 refine L0<|Oc<|m3 (eb (RC.upd dP O (aa I aA) ct)) fun fe dR P ff=>L0<|Oi cr.byteV<|Pl 1<|ng<|Pl 3<|?_
 have cw:=aZ P (Ne.symm I) dQ
 refine L0<|aP cw 3<|L0<|Oi (((ai.mk b false 0).wordsC 1).wordV)<|L0<|Oi (2*(((ai.mk b false 0).wordsC 1).wordV))<|Pl 1<|L0<|Oc<|m2 (b7 ((cr.byteV==(2*(((ai.mk b false 0).wordsC 1).wordV)))) 5 dR) fun fg dS Q=>?_
 refine fL dS fun E cx dT=>?_
 refine nt<|go<|Pl 2<|?_
 have cy:=aZ Q (Ne.symm I) cw
 refine L0<|aP cy 3<|L0<|Oi (((ai.mk b false 0).wordsC 1).wordV)<|L0<|Oc<|my (fV (n:=((ai.mk b false 0).wordsC 1).wordV) (by omega) dT) fun cB cD fh R fi fj dU cE=>Pl 1<|?_
 refine L0<|cg (aZ cE (Ne.symm I) cy) 12 (mG c 0 ((ai.mk b false 0).wordV) (((ai.mk b false 0).wordsC 1).wordV) 0 0 0 0 0 0 0 0 (.slice cB ((E.wordsR (((ai.mk b false 0).wordsC 1).wordV)).length) cD) nS nS nS 0 0 0 0 0 nS) fun fk dV aT=>nl<|bn<|tn<|sg<|Pl 1<|?_
 have bf:=ui P (ui Q (us cE aT))
 have cF:=ut ct bf (ac (ni f.size d) (ac (ni (le f.size i.size) g) av))
 refine L0<|Oc<|m2 (ex (RC.upd dU aT (aa I aA) cF)) fun fl bg an=>nt<|sq<|sg<|Pl 3<|L0<|eC (p:=⟨l,3,none⟩) (v:=.int .i64 (((E.wordsC (((ai.mk b false 0).wordsC 1).wordV)).endC).e)) (RC.fld bg)<|Pl 1<|nt<|?_
 have cG:=ud cF an (le f.size d)
 refine cb (((((E.wordsC (((ai.mk b false 0).wordsC 1).wordV)).endC).e)!=0)) (fun ao=>?_) (fun ao=>?_)
 have bj:=az ao
 refine sq<|Rg 7 (fun w'=>w'.cell? ⟨l,3,none⟩=some (.int .i64 (((E.wordsC (((ai.mk b false 0).wordsC 1).wordV)).endC).e))) fun fm aU=>?_
 have cH:=RC.upd bg aU aA (aE.step (RC.u bg) aU)
 refine bi (RC.fld cH) fun ap=>Rt 0 ap<|Rt 1 ap<|Rt 2 ap<|Rt 3 ap<|Rl 4 ap (fun _ hs=>hs)<|?_
 have cI:=aG an aU
 refine R0 5 rfl<|be (ub (ut r (ut bc (ut bd (u1 bf cI im) (ac im (ac im av))) (ac im (ac im av))) (ac (nr d) (ac (ni i.size g) av))) k) mZ fun fn dW bm=>?_
 have cJ:=ud cG (uz aU bm) t
 refine bi (RC.fld (RC.upd cH bm (aa (Ne.symm (nb (au k) lr d)) aA) cJ)) fun dX=>Rt 6 dX<|re<|tn<|rt<|tr<|bX dW (.int .i64 (((E.wordsC (((ai.mk b false 0).wordsC 1).wordV)).endC).e))<|?_
 have fo:=aq R (us aT (us cI bm)) (fun x hx=>(aa (fun e=>(aB (au a8) (le (le (le (le (le (le y.size L.size) M.size) N.size) O.size) P.size) Q.size) R) (e▸hx)) (aa (fun e=>(aB (au o) (le (le (le (le (le (le (le H.size y.size) L.size) M.size) N.size) O.size) P.size) Q.size) R) (e▸hx)) (aa (fun e=>(aB (au k) (le (le (le (le (le (le (le (le i.size H.size) y.size) L.size) M.size) N.size) O.size) P.size) Q.size) R) (e▸hx)) aA)))) (fun _ _ h=>h)
 have hs:ag aH 0 c b=aL (aQ.mk c 0 ((ai.mk b false 0).wordV) (((ai.mk b false 0).wordsC 1).wordV) 0 0 0 0 0 0 0 0 (E.wordsR (((ai.mk b false 0).wordsC 1).wordV)) [] [] [] 0 0 0 0 0 []) (E.wordsC (((ai.mk b false 0).wordsC 1).wordV)):=by
   subst cx cs
   unfold ag aH bL bT d8 cz ck cC cA i1
   (try simp only[q,B,C,s,D,ao,bs,if_true,if_false,decide_true,decide_false,eq_self,true_or,or_true,or_false,false_or,if_true,if_false,co,cm,cn,cv,reduceIte,jK,jN])
   all_goals rfl
 rw[hs]
 exact bh bj cJ
 have bj:=aj ao
 refine bp<|sg<|?_
 refine L0<|bP (aZ an (Ne.symm I) dV)<|?_
 refine L0<|be (ub (ut r (ut bc (ut bd (u1 bf an im) (ac im (ac im av))) (ac im (ac im av))) (ac (nr d) (ac (ni i.size g) av))) k) (mG c 0 ((ai.mk b false 0).wordV) (((ai.mk b false 0).wordsC 1).wordV) 0 0 0 0 0 0 0 0 (.slice cB ((E.wordsR (((ai.mk b false 0).wordsC 1).wordV)).length) cD) nS nS nS 0 0 0 0 0 nS) fun fp dY cL=>Pl 1<|nt<|rt<|bX dY (.int .i64 0)<|?_
 have hs:ag aH 0 c b=aL (aQ.mk c 0 ((ai.mk b false 0).wordV) (((ai.mk b false 0).wordsC 1).wordV) 0 0 0 0 0 0 0 0 (E.wordsR (((ai.mk b false 0).wordsC 1).wordV)) [] [] [] 0 0 0 0 0 []) (E.wordsC (((ai.mk b false 0).wordsC 1).wordV)):=by
   subst cx cs
   unfold ag aH bL bT d8 cz ck cC cA i1
   (try simp only[q,B,C,s,D,ao,bs,if_true,if_false,decide_true,decide_false,eq_self,true_or,or_true,or_false,false_or,if_true,if_false,co,cm,cn,cv,reduceIte,jK,jN])
   all_goals rfl
 rw[hs]
 exact bt bj ⟨_,_,_,_,_,rfl,((aq R (us aT (us an cL)) (fun x hx=>(aa (fun e=>(aB (au a8) (le (le (le (le (le (le y.size L.size) M.size) N.size) O.size) P.size) Q.size) R) (e▸hx)) (aa (fun e=>(aB (au o) (le (le (le (le (le (le (le H.size y.size) L.size) M.size) N.size) O.size) P.size) Q.size) R) (e▸hx)) (aa (fun e=>(aB (au k) (le (le (le (le (le (le (le (le i.size H.size) y.size) L.size) M.size) N.size) O.size) P.size) Q.size) R) (e▸hx)) aA)))) (fun _ _ h=>h))).rd,aS.nil ..,(fun _ _ _=>aS.nil ..),aS.nil ..,aS.nil ..,⟨(b8 (x:=c) (by omega)),(b8 (x:=0) (by omega)),(aD (x:=(ai.mk b false 0).wordV) (by omega)),(aD (x:=((ai.mk b false 0).wordsC 1).wordV) (by omega)),(aD (x:=0) (by omega)),(aD (x:=0) (by omega)),(aD (x:=0) (by omega)),(aD (x:=0) (by omega)),(aD (x:=0) (by omega)),(aD (x:=0) (by omega)),(aD (x:=0) (by omega)),(aD (x:=0) (by omega)),(b8 (x:=0) (by omega)),(b8 (x:=0) (by omega)),(b8 (x:=0) (by omega)),(b8 (x:=0) (by omega)),(b8 (x:=0) (by omega))⟩⟩ (ud cG cL t)
 have dL:=ak D
 refine sg<|Pl 3<|nt<|cb ((c==22)) (fun F=>?_) (fun F=>?_)
 have dZ:=ae F
 refine sg<|Pl 1<|?_
 have e0:RC w _ A cp b a6 l (ai.mk b false 0):=⟨hsl,z,(Nat.le_trans f.size d),⟨0,(ub a0 o),Nat.zero_le _,rfl⟩,by omega⟩
 refine L0<|Oc<|m3 (d6 e0) fun fq e1 cM fr=>Pl 1<|?_
 have a1:=nb (au o) lr g
 refine L0<|cg (aZ cM (Ne.symm a1) a7) 2 (mG c 0 ((ai.mk b false 0).wordV) 0 0 0 0 0 0 0 0 0 nS nS nS nS 0 0 0 0 0 nS) fun fs e2 cN=>ng<|Pl 1<|?_
 have bq:=us cM cN
 have cO:=ut z bq (ac (ni f.size d) (ac (ni (le f.size i.size) g) av))
 refine L0<|Oc<|m3 (d6 (RC.upd e1 cN (aa a1 aA) cO)) fun ft e3 cP fu=>Pl 1<|?_
 refine L0<|cg (aZ cP (Ne.symm a1) e2) 5 (mG c 0 ((ai.mk b false 0).wordV) 0 0 (((ai.mk b false 0).wordsC 1).wordV) 0 0 0 0 0 0 nS nS nS nS 0 0 0 0 0 nS) fun fv e4 cQ=>nt<|go<|Pl 1<|?_
 have bu:=us cP cQ
 have cR:=ut cO bu (ac (ni f.size d) (ac (ni (le f.size i.size) g) av))
 refine L0<|Oc<|m3 (d6 (RC.upd e3 cQ (aa a1 aA) cR)) fun fw e5 cS fx=>Pl 1<|?_
 refine L0<|cg (aZ cS (Ne.symm a1) e4) 6 (mG c 0 ((ai.mk b false 0).wordV) 0 0 (((ai.mk b false 0).wordsC 1).wordV) ((((ai.mk b false 0).wordsC 1).wordsC 1).wordV) 0 0 0 0 0 nS nS nS nS 0 0 0 0 0 nS) fun fy e6 cT=>nl<|bn<|tn<|sg<|Pl 1<|?_
 have bv:=us cS cT
 have cU:=ut cR bv (ac (ni f.size d) (ac (ni (le f.size i.size) g) av))
 refine L0<|Oc<|m2 (ex (RC.upd e5 cT (aa a1 aA) cU)) fun fz bw aV=>nt<|sq<|sg<|Pl 3<|L0<|eC (p:=⟨l,3,none⟩) (v:=.int .i64 ((((((ai.mk b false 0).wordsC 1).wordsC 1).wordsC 1).endC).e)) (RC.fld bw)<|Pl 1<|nt<|?_
 have cV:=ud cU aV (le f.size d)
 refine cb ((((((((ai.mk b false 0).wordsC 1).wordsC 1).wordsC 1).endC).e)!=0)) (fun ar=>?_) (fun ar=>?_)
 have bx:=az ar
 refine sq<|Rg 7 (fun w'=>w'.cell? ⟨l,3,none⟩=some (.int .i64 ((((((ai.mk b false 0).wordsC 1).wordsC 1).wordsC 1).endC).e))) fun fA aW=>?_
 have cW:=RC.upd bw aW aA (aE.step (RC.u bw) aW)
 refine bi (RC.fld cW) fun aw=>Rt 0 aw<|Rt 1 aw<|Rt 2 aw<|Rt 3 aw<|Rl 4 aw (fun _ hs=>hs)<|?_
 refine R0 5 rfl<|be (ub (ut r (ut bq (ut bu (u1 bv (aG aV aW) im) (ac im (ac im av))) (ac im (ac im av))) (ac (nr d) (ac (ni i.size g) av))) k) mZ fun fB e7 cX=>?_
 have cY:=ud cV (uz aW cX) t
 refine bi (RC.fld (RC.upd cW cX (aa (Ne.symm (nb (au k) lr d)) aA) cY)) fun e8=>Rt 6 e8<|re<|tn<|rt<|tr<|bX e7 (.int .i64 ((((((ai.mk b false 0).wordsC 1).wordsC 1).wordsC 1).endC).e))<|?_
 have hs:ag aH 0 c b=aL (aQ.mk c 0 ((ai.mk b false 0).wordV) 0 0 (((ai.mk b false 0).wordsC 1).wordV) ((((ai.mk b false 0).wordsC 1).wordsC 1).wordV) 0 0 0 0 0 [] [] [] [] 0 0 0 0 0 []) ((((ai.mk b false 0).wordsC 1).wordsC 1).wordsC 1):=by
   unfold ag aH bL bT d8 cz ck cC cA i1
   (try simp only[q,B,C,s,D,F,ar,bs,if_true,if_false,decide_true,decide_false,eq_self,true_or,or_true,or_false,false_or,if_true,if_false,co,cm,cn,cv,reduceIte,jK,jN])
   all_goals rfl
 rw[hs]
 exact bh bx cY
 have bx:=aj ar
 refine bp<|sg<|?_
 refine L0<|bP (aZ aV (Ne.symm a1) e6)<|?_
 refine L0<|be (ub (ut r (ut bq (ut bu (u1 bv aV im) (ac im (ac im av))) (ac im (ac im av))) (ac (nr d) (ac (ni i.size g) av))) k) (mG c 0 ((ai.mk b false 0).wordV) 0 0 (((ai.mk b false 0).wordsC 1).wordV) ((((ai.mk b false 0).wordsC 1).wordsC 1).wordV) 0 0 0 0 0 nS nS nS nS 0 0 0 0 0 nS) fun fC e9 ea=>Pl 1<|nt<|rt<|bX e9 (.int .i64 0)<|?_
 have hs:ag aH 0 c b=aL (aQ.mk c 0 ((ai.mk b false 0).wordV) 0 0 (((ai.mk b false 0).wordsC 1).wordV) ((((ai.mk b false 0).wordsC 1).wordsC 1).wordV) 0 0 0 0 0 [] [] [] [] 0 0 0 0 0 []) ((((ai.mk b false 0).wordsC 1).wordsC 1).wordsC 1):=by
   unfold ag aH bL bT d8 cz ck cC cA i1
   (try simp only[q,B,C,s,D,F,ar,bs,if_true,if_false,decide_true,decide_false,eq_self,true_or,or_true,or_false,false_or,if_true,if_false,co,cm,cn,cv,reduceIte,jK,jN])
   all_goals rfl
 rw[hs]
 exact bt bx ⟨_,_,_,_,_,rfl,aS.nil ..,aS.nil ..,(fun _ _ _=>aS.nil ..),aS.nil ..,aS.nil ..,⟨(b8 (x:=c) (by omega)),(b8 (x:=0) (by omega)),(aD (x:=(ai.mk b false 0).wordV) (by omega)),(aD (x:=0) (by omega)),(aD (x:=0) (by omega)),(aD (x:=((ai.mk b false 0).wordsC 1).wordV) (by omega)),(aD (x:=(((ai.mk b false 0).wordsC 1).wordsC 1).wordV) (by omega)),(aD (x:=0) (by omega)),(aD (x:=0) (by omega)),(aD (x:=0) (by omega)),(aD (x:=0) (by omega)),(aD (x:=0) (by omega)),(b8 (x:=0) (by omega)),(b8 (x:=0) (by omega)),(b8 (x:=0) (by omega)),(b8 (x:=0) (by omega)),(b8 (x:=0) (by omega))⟩⟩ (ud cV ea t)
 have dZ:=ak F
 refine sg<|Pl 3<|nt<|cb ((c==23)) (fun S=>?_) (fun S=>?_)
 have ec:=ae S
 refine sg<|Pl 1<|?_
 have ed:RC w _ A cp b a6 l (ai.mk b false 0):=⟨hsl,z,(Nat.le_trans f.size d),⟨0,(ub a0 o),Nat.zero_le _,rfl⟩,by omega⟩
 refine L0<|Oc<|m3 (d6 ed) fun fD ee T fE=>Pl 1<|?_
 have J:=nb (au o) lr g
 refine L0<|cg (aZ T (Ne.symm J) a7) 2 (mG c 0 ((ai.mk b false 0).wordV) 0 0 0 0 0 0 0 0 0 nS nS nS nS 0 0 0 0 0 nS) fun fF cZ U=>ng<|Pl 2<|L0<|aP cZ 2<|?_
 have bz:=us T U
 have d0:=ut z bz (ac (ni f.size d) (ac (ni (le f.size i.size) g) av))
 refine L0<|Oc<|m3 (kQ (a:=(ai.mk b false 0).wordV) (most:=125) (by omega) (RC.upd ee U (aa J aA) d0)) fun fG ef V fH=>?_
 refine fL ef fun j d1 eg=>?_
 refine L0<|vV (((ai.mk b false 0).wordsC 1).wordV)<|Pl 1<|?_
 refine L0<|cg (aZ V (Ne.symm J) cZ) 3 (mG c 0 ((ai.mk b false 0).wordV) (((ai.mk b false 0).wordsC 1).wordV) 0 0 0 0 0 0 0 0 nS nS nS nS 0 0 0 0 0 nS) fun fI eh W=>ng<|Pl 1<|?_
 have bB:=us V W
 have d2:=ut d0 bB (ac (ni f.size d) (ac (ni (le f.size i.size) g) av))
 refine L0<|Oc<|m3 (d6 (RC.upd eg W (aa J aA) d2)) fun fJ ei X fK=>Pl 1<|?_
 refine L0<|cg (aZ X (Ne.symm J) eh) 7 (mG c 0 ((ai.mk b false 0).wordV) (((ai.mk b false 0).wordsC 1).wordV) 0 0 0 j.wordV 0 0 0 0 nS nS nS nS 0 0 0 0 0 nS) fun fM d3 Y=>ng<|Pl 2<|L0<|aP d3 7<|?_
 have bC:=us X Y
 have d4:=ut d2 bC (ac (ni f.size d) (ac (ni (le f.size i.size) g) av))
 refine L0<|Oc<|m3 (kQ (a:=j.wordV) (most:=121) (by omega) (RC.upd ei Y (aa J aA) d4)) fun fN ej a2 fO=>Pl 1<|ng<|Pl 1<|L0<|Oc<|m3 (eb ej) fun fP ek a3 fQ=>L0<|Oi ((bJ (j.wordsC 1) j.wordV 121).byteV)<|Pl 1<|ng<|?_
 refine Pl 3<|L0<|Oi (2*((j.wordsC 1).wordV))<|Pl 1<|L0<|Oc<|m2 (b7 ((((bJ (j.wordsC 1) j.wordV 121).byteV)==(2*((j.wordsC 1).wordV)))) 5 ek) fun fR el a4=>?_
 refine fL el fun G d5 em=>?_
 refine nt<|go<|Pl 2<|L0<|Oc<|my (fV (n:=(j.wordsC 1).wordV) (by omega) em) fun d7 d9 fS Z fT fU eo ep=>Pl 1<|?_
 have da:=u1 a2 (u1 a3 (u1 a4 ep im) im) im
 refine L0<|cg (aZ da (Ne.symm J) d3) 12 (mG c 0 ((ai.mk b false 0).wordV) (((ai.mk b false 0).wordsC 1).wordV) 0 0 0 j.wordV 0 0 0 0 (.slice d7 ((G.wordsR ((j.wordsC 1).wordV)).length) d9) nS nS nS 0 0 0 0 0 nS) fun fW eq aX=>nl<|bn<|tn<|sg<|Pl 1<|?_
 have bD:=us da aX
 have db:=ut d4 bD (ac (ni f.size d) (ac (ni (le f.size i.size) g) av))
 refine L0<|Oc<|m2 (ex (RC.upd eo aX (aa J aA) db)) fun fX bE ax=>nt<|sq<|sg<|Pl 3<|L0<|eC (p:=⟨l,3,none⟩) (v:=.int .i64 (((G.wordsC ((j.wordsC 1).wordV)).endC).e)) (RC.fld bE)<|Pl 1<|nt<|?_
 have dc:=ud db ax (le f.size d)
 refine cb (((((G.wordsC ((j.wordsC 1).wordV)).endC).e)!=0)) (fun ay=>?_) (fun ay=>?_)
 have bF:=az ay
 refine sq<|Rg 7 (fun w'=>w'.cell? ⟨l,3,none⟩=some (.int .i64 (((G.wordsC ((j.wordsC 1).wordV)).endC).e))) fun fY aY=>?_
 have dd:=RC.upd bE aY aA (aE.step (RC.u bE) aY)
 refine bi (RC.fld dd) fun aC=>Rt 0 aC<|Rt 1 aC<|Rt 2 aC<|Rt 3 aC<|Rl 4 aC (fun _ hs=>hs)<|?_
 have de:=aG ax aY
 refine R0 5 rfl<|be (ub (ut r (ut bz (ut bB (ut bC (u1 bD de im) (ac im (ac im av))) (ac im (ac im av))) (ac im (ac im av))) (ac (nr d) (ac (ni i.size g) av))) k) mZ fun fZ er bG=>?_
 have df:=ud dc (uz aY bG) t
 refine bi (RC.fld (RC.upd dd bG (aa (Ne.symm (nb (au k) lr d)) aA) df)) fun es=>Rt 6 es<|re<|tn<|rt<|tr<|bX er (.int .i64 (((G.wordsC ((j.wordsC 1).wordV)).endC).e))<|?_
 have g0:=aq Z (us aX (us de bG)) (fun x hx=>(aa (fun e=>(aB (au a8) (le (le (le (le (le (le (le (le (le y.size T.size) U.size) V.size) W.size) X.size) Y.size) a2.size) a3.size) a4.size) Z) (e▸hx)) (aa (fun e=>(aB (au o) (le (le (le (le (le (le (le (le (le (le H.size y.size) T.size) U.size) V.size) W.size) X.size) Y.size) a2.size) a3.size) a4.size) Z) (e▸hx)) (aa (fun e=>(aB (au k) (le (le (le (le (le (le (le (le (le (le (le i.size H.size) y.size) T.size) U.size) V.size) W.size) X.size) Y.size) a2.size) a3.size) a4.size) Z) (e▸hx)) aA)))) (fun _ _ h=>h)
 have hs:ag aH 0 c b=aL (aQ.mk c 0 ((ai.mk b false 0).wordV) (((ai.mk b false 0).wordsC 1).wordV) 0 0 0 j.wordV 0 0 0 0 (G.wordsR ((j.wordsC 1).wordV)) [] [] [] 0 0 0 0 0 []) (G.wordsC ((j.wordsC 1).wordV)):=by
   subst d5 d1
   unfold ag aH bL bT d8 cz ck cC cA i1
   (try simp only[q,B,C,s,D,F,S,ay,bs,if_true,if_false,decide_true,decide_false,eq_self,true_or,or_true,or_false,false_or,if_true,if_false,co,cm,cn,cv,reduceIte,jK,jN])
   all_goals rfl
 rw[hs]
 exact bh bF df
 have bF:=aj ay
 refine bp<|sg<|?_
 refine L0<|bP (aZ ax (Ne.symm J) eq)<|?_
 refine L0<|be (ub (ut r (ut bz (ut bB (ut bC (u1 bD ax im) (ac im (ac im av))) (ac im (ac im av))) (ac im (ac im av))) (ac (nr d) (ac (ni i.size g) av))) k) (mG c 0 ((ai.mk b false 0).wordV) (((ai.mk b false 0).wordsC 1).wordV) 0 0 0 j.wordV 0 0 0 0 (.slice d7 ((G.wordsR ((j.wordsC 1).wordV)).length) d9) nS nS nS 0 0 0 0 0 nS) fun g1 et dg=>Pl 1<|nt<|rt<|bX et (.int .i64 0)<|?_
 have hs:ag aH 0 c b=aL (aQ.mk c 0 ((ai.mk b false 0).wordV) (((ai.mk b false 0).wordsC 1).wordV) 0 0 0 j.wordV 0 0 0 0 (G.wordsR ((j.wordsC 1).wordV)) [] [] [] 0 0 0 0 0 []) (G.wordsC ((j.wordsC 1).wordV)):=by
   subst d5 d1
   unfold ag aH bL bT d8 cz ck cC cA i1
   (try simp only[q,B,C,s,D,F,S,ay,bs,if_true,if_false,decide_true,decide_false,eq_self,true_or,or_true,or_false,false_or,if_true,if_false,co,cm,cn,cv,reduceIte,jK,jN])
   all_goals rfl
 rw[hs]
 exact bt bF ⟨_,_,_,_,_,rfl,((aq Z (us aX (us ax dg)) (fun x hx=>(aa (fun e=>(aB (au a8) (le (le (le (le (le (le (le (le (le y.size T.size) U.size) V.size) W.size) X.size) Y.size) a2.size) a3.size) a4.size) Z) (e▸hx)) (aa (fun e=>(aB (au o) (le (le (le (le (le (le (le (le (le (le H.size y.size) T.size) U.size) V.size) W.size) X.size) Y.size) a2.size) a3.size) a4.size) Z) (e▸hx)) (aa (fun e=>(aB (au k) (le (le (le (le (le (le (le (le (le (le (le i.size H.size) y.size) T.size) U.size) V.size) W.size) X.size) Y.size) a2.size) a3.size) a4.size) Z) (e▸hx)) aA)))) (fun _ _ h=>h))).rd,aS.nil ..,(fun _ _ _=>aS.nil ..),aS.nil ..,aS.nil ..,⟨(b8 (x:=c) (by omega)),(b8 (x:=0) (by omega)),(aD (x:=(ai.mk b false 0).wordV) (by omega)),(aD (x:=((ai.mk b false 0).wordsC 1).wordV) (by omega)),(aD (x:=0) (by omega)),(aD (x:=0) (by omega)),(aD (x:=0) (by omega)),(aD (x:=j.wordV) (by omega)),(aD (x:=0) (by omega)),(aD (x:=0) (by omega)),(aD (x:=0) (by omega)),(aD (x:=0) (by omega)),(b8 (x:=0) (by omega)),(b8 (x:=0) (by omega)),(b8 (x:=0) (by omega)),(b8 (x:=0) (by omega)),(b8 (x:=0) (by omega))⟩⟩ (ud dc dg t)
 have ec:=ak S
 refine sg<|Pl 3<|cu 3 [168] 171 ((c==24)) (fun K dh=>?_) ?_
 refine bl 168 ((c==24)) (fun aF=>?_) (fun aF=>?_)
 have eu:=ae aF
 exact Pl 3<|ce dh true aF
 have eu:=ak aF
 exact Pl 3<|ce dh false aF
 refine Pl 1<|nt<|cb ((c==24)) (fun a5=>?_) (fun a5=>?_)
 have ev:=ae a5
 refine go<|Pl 1<|?_
 have ew:RC w _ A cp b a6 l (ai.mk b false 0):=⟨hsl,z,(Nat.le_trans f.size d),⟨0,(ub a0 o),Nat.zero_le _,rfl⟩,by omega⟩
 refine L0<|Oc<|m3 (d6 ew) fun g2 ey di g3=>Pl 1<|?_
 have bH:=nb (au o) lr g
 refine L0<|cg (aZ di (Ne.symm bH) a7) 2 (mG c 0 ((ai.mk b false 0).wordV) 0 0 0 0 0 0 0 0 0 nS nS nS nS 0 0 0 0 0 nS) fun g4 ez dj=>nl<|bn<|tn<|sg<|Pl 1<|?_
 have bI:=us di dj
 have dk:=ut z bI (ac (ni f.size d) (ac (ni (le f.size i.size) g) av))
 refine L0<|Oc<|m2 (ex (RC.upd ey dj (aa bH aA) dk)) fun g5 bK b0=>nt<|sq<|sg<|Pl 3<|L0<|eC (p:=⟨l,3,none⟩) (v:=.int .i64 ((((ai.mk b false 0).wordsC 1).endC).e)) (RC.fld bK)<|Pl 1<|nt<|?_
 have dl:=ud dk b0 (le f.size d)
 refine cb ((((((ai.mk b false 0).wordsC 1).endC).e)!=0)) (fun aJ=>?_) (fun aJ=>?_)
 have bM:=az aJ
 refine sq<|Rg 7 (fun w'=>w'.cell? ⟨l,3,none⟩=some (.int .i64 ((((ai.mk b false 0).wordsC 1).endC).e))) fun g6 b1=>?_
 have dm:=RC.upd bK b1 aA (aE.step (RC.u bK) b1)
 refine bi (RC.fld dm) fun aK=>Rt 0 aK<|Rt 1 aK<|Rt 2 aK<|Rt 3 aK<|Rl 4 aK (fun _ hs=>hs)<|?_
 refine R0 5 rfl<|be (ub (ut r (u1 bI (aG b0 b1) im) (ac (nr d) (ac (ni i.size g) av))) k) mZ fun g7 eA dn=>?_
 have dp:=ud dl (uz b1 dn) t
 refine bi (RC.fld (RC.upd dm dn (aa (Ne.symm (nb (au k) lr d)) aA) dp)) fun eB=>Rt 6 eB<|re<|tn<|rt<|tr<|bX eA (.int .i64 ((((ai.mk b false 0).wordsC 1).endC).e))<|?_
 have hs:ag aH 0 c b=aL (aQ.mk c 0 ((ai.mk b false 0).wordV) 0 0 0 0 0 0 0 0 0 [] [] [] [] 0 0 0 0 0 []) ((ai.mk b false 0).wordsC 1):=by
   unfold ag aH bL bT d8 cz ck cC cA i1
   (try simp only[q,B,C,s,D,F,S,a5,aJ,bs,if_true,if_false,decide_true,decide_false,eq_self,true_or,or_true,or_false,false_or,if_true,if_false,co,cm,cn,cv,reduceIte,jK,jN])
   all_goals rfl
 rw[hs]
 exact bh bM dp
 have bM:=aj aJ
 refine bp<|sg<|?_
 refine L0<|bP (aZ b0 (Ne.symm bH) ez)<|?_
 refine L0<|be (ub (ut r (u1 bI b0 im) (ac (nr d) (ac (ni i.size g) av))) k) (mG c 0 ((ai.mk b false 0).wordV) 0 0 0 0 0 0 0 0 0 nS nS nS nS 0 0 0 0 0 nS) fun g8 eD eE=>Pl 1<|nt<|rt<|bX eD (.int .i64 0)<|?_
 have hs:ag aH 0 c b=aL (aQ.mk c 0 ((ai.mk b false 0).wordV) 0 0 0 0 0 0 0 0 0 [] [] [] [] 0 0 0 0 0 []) ((ai.mk b false 0).wordsC 1):=by
   unfold ag aH bL bT d8 cz ck cC cA i1
   (try simp only[q,B,C,s,D,F,S,a5,aJ,bs,if_true,if_false,decide_true,decide_false,eq_self,true_or,or_true,or_false,false_or,if_true,if_false,co,cm,cn,cv,reduceIte,jK,jN])
   all_goals rfl
 rw[hs]
 exact bt bM ⟨_,_,_,_,_,rfl,aS.nil ..,aS.nil ..,(fun _ _ _=>aS.nil ..),aS.nil ..,aS.nil ..,⟨(b8 (x:=c) (by omega)),(b8 (x:=0) (by omega)),(aD (x:=(ai.mk b false 0).wordV) (by omega)),(aD (x:=0) (by omega)),(aD (x:=0) (by omega)),(aD (x:=0) (by omega)),(aD (x:=0) (by omega)),(aD (x:=0) (by omega)),(aD (x:=0) (by omega)),(aD (x:=0) (by omega)),(aD (x:=0) (by omega)),(aD (x:=0) (by omega)),(b8 (x:=0) (by omega)),(b8 (x:=0) (by omega)),(b8 (x:=0) (by omega)),(b8 (x:=0) (by omega)),(b8 (x:=0) (by omega))⟩⟩ (ud dl eE t)
 have ev:=ak a5
 refine sg<|Pl 3<|nt<|cf a5<|sg<|Pl 1<|?_
 refine L0<|be (ub r k) mZ fun g9 eF eG=>Pl 1<|nt<|rt<|br<|tr<|bX eF (.int .i64 4)<|?_
 have hs:ag aH 0 c b=(aQ.zero,4):=by
   unfold ag aH bL bT d8 cz ck cC cA i1
   (try simp only[q,B,C,s,D,F,S,a5,bs,if_true,if_false,decide_true,decide_false,eq_self,true_or,or_true,or_false,false_or,if_true,if_false,co,cm,cn,cv,reduceIte,jK,jN])
   all_goals rfl
 rw[hs]
 exact bA (ud z eG t)
theorem lq{m:Md}{A:Option Addr}{cp:Nat}{b:List Int}{w:World}{c:Int}(hcode:B8 c)(hsl:bo m w (.slice A b.length cp) b)(hb:b.length≤1048576) :
    Calls Tryz.prog 94 #[.int .i64 1,.int .u8 c,.slice A b.length cp] w (cK (.slice A b.length cp) b (ag aH 1 c b) w):=by
 obtain⟨hcode1,hcode2⟩:=hcode
 have hln:(b.length:Int)≤1048576:=by omega
 refine en 221 Tryz.func94 rfl<|sg<|L0<|bQ mZ fun e2 e3 y j f=>Pl 1<|nt<|sq<|sg<|Pl 6<|nt<|c0<|?_
 refine bp<|sg<|Pl 2<|L0<|dC #[.slice A b.length cp,.int .i64 0,.bool false,.int .i64 0] fun l e4 d q i=>Pl 1<|ng<|Pl 2<|L0<|bQ mZ fun e5 e6 g W H=>L0<|be W (mC c) fun X Y r=>?_
 refine nt<|sq<|bk<|sg<|Pl 6<|cu 3 [35] 38 (((c==3)||(c==4))) (fun K bu=>?_) ?_
 refine bl 35 ((c==3)) (fun Z=>?_) (fun Z=>?_)
 have cS:=ae Z
 exact Pl 3<|ce bu true (by rw[Z];rfl)
 have cS:=ak Z
 exact Pl 3<|ce bu (c==4) (by rw[Z];rfl)
 refine Pl 1<|cu 3 [39] 42 ((((c==3)||(c==4))||(c==23))) (fun K bv=>?_) ?_
 refine bl 39 (((c==3)||(c==4))) (fun a0=>?_) (fun a0=>?_)
 exact Pl 3<|ce bv true (by rw[a0];rfl)
 have cT:=(aI a0).1
 have cU:=(aI a0).2
 have e7:=ak cT
 have e8:=ak cU
 exact Pl 3<|ce bv (c==23) (by rw[a0];rfl)
 refine Pl 2<|nt<|?_
 have T:=ud H r g
 have s:=aG i T
 have z:=aG f s
 refine cb ((((c==3)||(c==4))||(c==23))) (fun k=>?_) (fun k=>?_)
 refine sg<|Pl 1<|?_
 have cV:RC w _ A cp b X l (ai.mk b false 0):=⟨hsl,z,(Nat.le_trans f.size d),⟨0,(ub T q),Nat.zero_le _,rfl⟩,by omega⟩
 refine L0<|Oc<|m3 (eb cV) fun e9 cW M ea=>L0<|Oi ((ai.mk b false 0).byteV)<|Pl 1<|ng<|Pl 2<|L0<|Oe (.int .i64 (Int.tmod ((ai.mk b false 0).byteV) 2)) (.int .i64 (((ai.mk b false 0).byteV)%2)) (congrArg (Value.int .i64) (Int.tmod_eq_emod_of_nonneg (by omega)))<|Pl 2<|cu 3 [51] 54 ((((((ai.mk b false 0).byteV)%2)==0)&&(decide (0<((ai.mk b false 0).byteV))))) (fun K bw=>?_) ?_
 refine bl 51 (((((ai.mk b false 0).byteV)%2)==0)) (fun a1=>?_) (fun a1=>?_)
 have cX:=ae a1
 exact Pl 3<|ce bw (decide (0<((ai.mk b false 0).byteV))) (by rw[a1];rfl)
 have cX:=ak a1
 exact Pl 3<|ce bw false (by rw[a1];rfl)
 refine Pl 1<|cu 3 [55] 58 (((((((ai.mk b false 0).byteV)%2)==0)&&(decide (0<((ai.mk b false 0).byteV))))&&(decide (((ai.mk b false 0).byteV)≤250)))) (fun K bx=>?_) ?_
 refine bl 55 ((((((ai.mk b false 0).byteV)%2)==0)&&(decide (0<((ai.mk b false 0).byteV))))) (fun a2=>?_) (fun a2=>?_)
 have cY:=(b6 a2).1
 have cZ:=(b6 a2).2
 have ec:=ae cY
 have ed:=of_decide_eq_true cZ
 exact Pl 3<|ce bx (decide (((ai.mk b false 0).byteV)≤250)) (by rw[a2];rfl)
 exact Pl 3<|ce bx false (by rw[a2];rfl)
 refine L0<|Oc<|m2 (b7 (((((((ai.mk b false 0).byteV)%2)==0)&&(decide (0<((ai.mk b false 0).byteV))))&&(decide (((ai.mk b false 0).byteV)≤250)))) 5 cW) fun ee d0 N=>?_
 refine fL d0 fun x49 bz d1=>?_
 refine nt<|go<|Pl 2<|L0<|Oe (.int .i64 (IntKind.i64.wrap (Int.tdiv ((ai.mk b false 0).byteV) 2))) (.int .i64 (((ai.mk b false 0).byteV)/2)) (congrArg (Value.int .i64) (fS (by omega) (by omega)))<|L0<|Oc<|my (fV (n:=(((ai.mk b false 0).byteV)/2)) (by omega) d1) fun bB bC ef I eg eh d2 d3=>Pl 1<|?_
 have bD:=u1 M (u1 N d3 im) im
 have aO:=nb (au q) lr g
 refine L0<|cg (aZ bD (Ne.symm aO) Y) 12 (mG c 0 0 0 0 0 0 0 0 0 0 0 (.slice bB ((x49.wordsR (((ai.mk b false 0).byteV)/2)).length) bC) nS nS nS 0 0 0 0 0 nS) fun ei d4 ar=>nl<|bn<|tn<|sg<|Pl 1<|?_
 have aR:=us bD ar
 have bE:=ut z aR (ac (ni f.size d) (ac (ni (le f.size i.size) g) av))
 refine L0<|Oc<|m2 (ex (RC.upd d2 ar (aa aO aA) bE)) fun ej aT a3=>nt<|sq<|sg<|Pl 3<|L0<|eC (p:=⟨l,3,none⟩) (v:=.int .i64 (((x49.wordsC (((ai.mk b false 0).byteV)/2)).endC).e)) (RC.fld aT)<|Pl 1<|nt<|?_
 have bF:=ud bE a3 (le f.size d)
 refine cb (((((x49.wordsC (((ai.mk b false 0).byteV)/2)).endC).e)!=0)) (fun a4=>?_) (fun a4=>?_)
 have aU:=az a4
 refine sq<|Rg 7 (fun w'=>w'.cell? ⟨l,3,none⟩=some (.int .i64 (((x49.wordsC (((ai.mk b false 0).byteV)/2)).endC).e))) fun ek aw=>?_
 have bG:=RC.upd aT aw aA (aE.step (RC.u aT) aw)
 refine bi (RC.fld bG) fun a5=>Rt 0 a5<|Rt 1 a5<|Rt 2 a5<|Rt 3 a5<|Rl 4 a5 (fun _ hs=>hs)<|?_
 have bH:=aG a3 aw
 refine R0 5 rfl<|be (ub (ut s (u1 aR bH im) (ac (nr d) (ac (ni i.size g) av))) j) mZ fun el d5 aV=>?_
 have bI:=ud bF (uz aw aV) y
 refine bi (RC.fld (RC.upd bG aV (aa (Ne.symm (nb (au j) lr d)) aA) bI)) fun d7=>Rt 6 d7<|re<|tn<|rt<|tr<|bX d5 (.int .i64 (((x49.wordsC (((ai.mk b false 0).byteV)/2)).endC).e))<|?_
 have em:=aq I (us ar (us bH aV)) (fun x hx=>(aa (fun e=>(aB (au W) (le (le r.size M.size) N.size) I) (e▸hx)) (aa (fun e=>(aB (au q) (le (le (le H.size r.size) M.size) N.size) I) (e▸hx)) (aa (fun e=>(aB (au j) (le (le (le (le i.size H.size) r.size) M.size) N.size) I) (e▸hx)) aA)))) (fun _ _ h=>h)
 have hs:ag aH 1 c b=aL (aQ.mk c 0 0 0 0 0 0 0 0 0 0 0 (x49.wordsR (((ai.mk b false 0).byteV)/2)) [] [] [] 0 0 0 0 0 []) (x49.wordsC (((ai.mk b false 0).byteV)/2)):=by
   subst bz
   unfold ag
   (try simp only[k,a4,bs,if_true,if_false,decide_true,decide_false,eq_self,true_or,or_true,or_false,false_or,if_true,if_false,co,cm,cn,cv,reduceIte,jK,jN,nO k])
   all_goals rfl
 rw[hs]
 exact bh aU bI
 have aU:=aj a4
 refine bp<|sg<|?_
 refine L0<|bP (aZ a3 (Ne.symm aO) d4)<|?_
 refine L0<|be (ub (ut s (u1 aR a3 im) (ac (nr d) (ac (ni i.size g) av))) j) (mG c 0 0 0 0 0 0 0 0 0 0 0 (.slice bB ((x49.wordsR (((ai.mk b false 0).byteV)/2)).length) bC) nS nS nS 0 0 0 0 0 nS) fun eo d9 bJ=>Pl 1<|nt<|rt<|bX d9 (.int .i64 0)<|?_
 have hs:ag aH 1 c b=aL (aQ.mk c 0 0 0 0 0 0 0 0 0 0 0 (x49.wordsR (((ai.mk b false 0).byteV)/2)) [] [] [] 0 0 0 0 0 []) (x49.wordsC (((ai.mk b false 0).byteV)/2)):=by
   subst bz
   unfold ag
   (try simp only[k,a4,bs,if_true,if_false,decide_true,decide_false,eq_self,true_or,or_true,or_false,false_or,if_true,if_false,co,cm,cn,cv,reduceIte,jK,jN,nO k])
   all_goals rfl
 rw[hs]
 exact bt aU ⟨_,_,_,_,_,rfl,((aq I (us ar (us a3 bJ)) (fun x hx=>(aa (fun e=>(aB (au W) (le (le r.size M.size) N.size) I) (e▸hx)) (aa (fun e=>(aB (au q) (le (le (le H.size r.size) M.size) N.size) I) (e▸hx)) (aa (fun e=>(aB (au j) (le (le (le (le i.size H.size) r.size) M.size) N.size) I) (e▸hx)) aA)))) (fun _ _ h=>h))).rd,aS.nil ..,(fun _ _ _=>aS.nil ..),aS.nil ..,aS.nil ..,⟨(b8 (x:=c) (by omega)),(b8 (x:=0) (by omega)),(aD (x:=0) (by omega)),(aD (x:=0) (by omega)),(aD (x:=0) (by omega)),(aD (x:=0) (by omega)),(aD (x:=0) (by omega)),(aD (x:=0) (by omega)),(aD (x:=0) (by omega)),(aD (x:=0) (by omega)),(aD (x:=0) (by omega)),(aD (x:=0) (by omega)),(b8 (x:=0) (by omega)),(b8 (x:=0) (by omega)),(b8 (x:=0) (by omega)),(b8 (x:=0) (by omega)),(b8 (x:=0) (by omega))⟩⟩ (ud bF bJ y)
 have B:=(aI k).1
 have C:=(aI k).2
 have D:=(aI B).1
 have E:=(aI B).2
 have q35aap:=ak D
 have q35abp:=ak E
 have ep:=ak C
 refine sg<|Pl 3<|sy 68 D<|Pl 4<|nt<|cf E<|sg<|Pl 3<|nt<|cb ((c==6)) (fun t=>?_) (fun t=>?_)
 have da:=ae t
 refine sg<|Pl 1<|?_
 have db:RC w _ A cp b X l (ai.mk b false 0):=⟨hsl,z,(Nat.le_trans f.size d),⟨0,(ub T q),Nat.zero_le _,rfl⟩,by omega⟩
 refine L0<|Oc<|m3 (d6 db) fun eq dc bK er=>Pl 1<|?_
 have a6:=nb (au q) lr g
 refine L0<|cg (aZ bK (Ne.symm a6) Y) 2 (mG c 0 ((ai.mk b false 0).wordV) 0 0 0 0 0 0 0 0 0 nS nS nS nS 0 0 0 0 0 nS) fun es dd bM=>nt<|go<|Pl 1<|?_
 have aW:=us bK bM
 have bN:=ut z aW (ac (ni f.size d) (ac (ni (le f.size i.size) g) av))
 refine L0<|Oc<|m3 (d6 (RC.upd dc bM (aa a6 aA) bN)) fun et de bO eu=>Pl 1<|?_
 refine L0<|cg (aZ bO (Ne.symm a6) dd) 4 (mG c 0 ((ai.mk b false 0).wordV) 0 (((ai.mk b false 0).wordsC 1).wordV) 0 0 0 0 0 0 0 nS nS nS nS 0 0 0 0 0 nS) fun ev df bR=>nl<|bn<|tn<|sg<|Pl 1<|?_
 have aX:=us bO bR
 have bS:=ut bN aX (ac (ni f.size d) (ac (ni (le f.size i.size) g) av))
 refine L0<|Oc<|m2 (ex (RC.upd de bR (aa a6 aA) bS)) fun ew aY ax=>nt<|sq<|sg<|Pl 3<|L0<|eC (p:=⟨l,3,none⟩) (v:=.int .i64 (((((ai.mk b false 0).wordsC 1).wordsC 1).endC).e)) (RC.fld aY)<|Pl 1<|nt<|?_
 have bU:=ud bS ax (le f.size d)
 refine cb (((((((ai.mk b false 0).wordsC 1).wordsC 1).endC).e)!=0)) (fun a7=>?_) (fun a7=>?_)
 have b0:=az a7
 refine sq<|Rg 7 (fun w'=>w'.cell? ⟨l,3,none⟩=some (.int .i64 (((((ai.mk b false 0).wordsC 1).wordsC 1).endC).e))) fun ey ay=>?_
 have bV:=RC.upd aY ay aA (aE.step (RC.u aY) ay)
 refine bi (RC.fld bV) fun a8=>Rt 0 a8<|Rt 1 a8<|Rt 2 a8<|Rt 3 a8<|Rl 4 a8 (fun _ hs=>hs)<|?_
 refine R0 5 rfl<|be (ub (ut s (ut aW (u1 aX (aG ax ay) im) (ac im (ac im av))) (ac (nr d) (ac (ni i.size g) av))) j) mZ fun ez dg bW=>?_
 have bY:=ud bU (uz ay bW) y
 refine bi (RC.fld (RC.upd bV bW (aa (Ne.symm (nb (au j) lr d)) aA) bY)) fun dh=>Rt 6 dh<|re<|tn<|rt<|tr<|bX dg (.int .i64 (((((ai.mk b false 0).wordsC 1).wordsC 1).endC).e))<|?_
 have hs:ag aH 1 c b=aL (aQ.mk c 0 ((ai.mk b false 0).wordV) 0 (((ai.mk b false 0).wordsC 1).wordV) 0 0 0 0 0 0 0 [] [] [] [] 0 0 0 0 0 []) (((ai.mk b false 0).wordsC 1).wordsC 1):=by
   unfold ag aH bL bT d8 cz ck cC cA i1
   (try simp only[k,B,D,E,C,t,a7,bs,if_true,if_false,decide_true,decide_false,eq_self,true_or,or_true,or_false,false_or,if_true,if_false,co,cm,cn,cv,reduceIte,jK,jN])
   all_goals rfl
 rw[hs]
 exact bh b0 bY
 have b0:=aj a7
 refine bp<|sg<|?_
 refine L0<|bP (aZ ax (Ne.symm a6) df)<|?_
 refine L0<|be (ub (ut s (ut aW (u1 aX ax im) (ac im (ac im av))) (ac (nr d) (ac (ni i.size g) av))) j) (mG c 0 ((ai.mk b false 0).wordV) 0 (((ai.mk b false 0).wordsC 1).wordV) 0 0 0 0 0 0 0 nS nS nS nS 0 0 0 0 0 nS) fun eA di dj=>Pl 1<|nt<|rt<|bX di (.int .i64 0)<|?_
 have hs:ag aH 1 c b=aL (aQ.mk c 0 ((ai.mk b false 0).wordV) 0 (((ai.mk b false 0).wordsC 1).wordV) 0 0 0 0 0 0 0 [] [] [] [] 0 0 0 0 0 []) (((ai.mk b false 0).wordsC 1).wordsC 1):=by
   unfold ag aH bL bT d8 cz ck cC cA i1
   (try simp only[k,B,D,E,C,t,a7,bs,if_true,if_false,decide_true,decide_false,eq_self,true_or,or_true,or_false,false_or,if_true,if_false,co,cm,cn,cv,reduceIte,jK,jN])
   all_goals rfl
 rw[hs]
 exact bt b0 ⟨_,_,_,_,_,rfl,aS.nil ..,aS.nil ..,(fun _ _ _=>aS.nil ..),aS.nil ..,aS.nil ..,⟨(b8 (x:=c) (by omega)),(b8 (x:=0) (by omega)),(aD (x:=(ai.mk b false 0).wordV) (by omega)),(aD (x:=0) (by omega)),(aD (x:=((ai.mk b false 0).wordsC 1).wordV) (by omega)),(aD (x:=0) (by omega)),(aD (x:=0) (by omega)),(aD (x:=0) (by omega)),(aD (x:=0) (by omega)),(aD (x:=0) (by omega)),(aD (x:=0) (by omega)),(aD (x:=0) (by omega)),(b8 (x:=0) (by omega)),(b8 (x:=0) (by omega)),(b8 (x:=0) (by omega)),(b8 (x:=0) (by omega)),(b8 (x:=0) (by omega))⟩⟩ (ud bU dj y)
 have da:=ak t
 refine sg<|Pl 3<|nt<|cb ((c==16)) (fun F=>?_) (fun F=>?_)
 have dk:=ae F
 refine sg<|Pl 1<|?_
 have dl:RC w _ A cp b X l (ai.mk b false 0):=⟨hsl,z,(Nat.le_trans f.size d),⟨0,(ub T q),Nat.zero_le _,rfl⟩,by omega⟩
 refine L0<|Oc<|m3 (d6 dl) fun eB dm bZ eD=>Pl 1<|?_
 have a9:=nb (au q) lr g
 refine L0<|cg (aZ bZ (Ne.symm a9) Y) 2 (mG c 0 ((ai.mk b false 0).wordV) 0 0 0 0 0 0 0 0 0 nS nS nS nS 0 0 0 0 0 nS) fun eE c1 c2=>ng<|Pl 2<|L0<|aP c1 2<|?_
 have b1:=us bZ c2
 have c3:=ut z b1 (ac (ni f.size d) (ac (ni (le f.size i.size) g) av))
 refine L0<|Oc<|m3 (kQ (a:=(ai.mk b false 0).wordV) (most:=123) (by omega) (RC.upd dm c2 (aa a9 aA) c3)) fun eF dn c4 eG=>?_
 refine fL dn fun U c5 dp=>?_
 refine L0<|vV (((ai.mk b false 0).wordsC 1).wordV)<|Pl 1<|?_
 refine L0<|cg (aZ c4 (Ne.symm a9) c1) 3 (mG c 0 ((ai.mk b false 0).wordV) (((ai.mk b false 0).wordsC 1).wordV) 0 0 0 0 0 0 0 0 nS nS nS nS 0 0 0 0 0 nS) fun eH dq c6=>ng<|Pl 2<|nt<|c0<|sk<|bn<|tn<|sg<|?_
 refine Pl 1<|?_
 have b2:=us c4 c6
 have c7:=ut c3 b2 (ac (ni f.size d) (ac (ni (le f.size i.size) g) av))
 refine L0<|Oc<|m2 (ex (RC.upd dp c6 (aa a9 aA) c7)) fun eI b3 aC=>nt<|sq<|sg<|Pl 3<|L0<|eC (p:=⟨l,3,none⟩) (v:=.int .i64 U.endC.e) (RC.fld b3)<|Pl 1<|nt<|?_
 have c8:=ud c7 aC (le f.size d)
 refine cb ((U.endC.e != 0)) (fun ab=>?_) (fun ab=>?_)
 have b4:=az ab
 refine sq<|Rg 7 (fun w'=>w'.cell? ⟨l,3,none⟩=some (.int .i64 U.endC.e)) fun eJ aF=>?_
 have c9:=RC.upd b3 aF aA (aE.step (RC.u b3) aF)
 refine bi (RC.fld c9) fun ad=>Rt 0 ad<|Rt 1 ad<|Rt 2 ad<|Rt 3 ad<|Rl 4 ad (fun _ hs=>hs)<|?_
 refine R0 5 rfl<|be (ub (ut s (ut b1 (u1 b2 (aG aC aF) im) (ac im (ac im av))) (ac (nr d) (ac (ni i.size g) av))) j) mZ fun eK dr ca=>?_
 have cc:=ud c8 (uz aF ca) y
 refine bi (RC.fld (RC.upd c9 ca (aa (Ne.symm (nb (au j) lr d)) aA) cc)) fun ds=>Rt 6 ds<|re<|tn<|rt<|tr<|bX dr (.int .i64 U.endC.e)<|?_
 have hs:ag aH 1 c b=aL (aQ.mk c 0 ((ai.mk b false 0).wordV) (((ai.mk b false 0).wordsC 1).wordV) 0 0 0 0 0 0 0 0 [] [] [] [] 0 0 0 0 0 []) U:=by
   subst c5
   unfold ag aH bL bT d8 cz ck cC cA i1
   (try simp only[k,B,D,E,C,t,F,ab,bs,if_true,if_false,decide_true,decide_false,eq_self,true_or,or_true,or_false,false_or,if_true,if_false,co,cm,cn,cv,reduceIte,jK,jN])
   all_goals rfl
 rw[hs]
 exact bh b4 cc
 have b4:=aj ab
 refine bp<|sg<|?_
 refine L0<|bP (aZ aC (Ne.symm a9) dq)<|?_
 refine L0<|be (ub (ut s (ut b1 (u1 b2 aC im) (ac im (ac im av))) (ac (nr d) (ac (ni i.size g) av))) j) (mG c 0 ((ai.mk b false 0).wordV) (((ai.mk b false 0).wordsC 1).wordV) 0 0 0 0 0 0 0 0 nS nS nS nS 0 0 0 0 0 nS) fun eL dt du=>Pl 1<|nt<|rt<|bX dt (.int .i64 0)<|?_
 have hs:ag aH 1 c b=aL (aQ.mk c 0 ((ai.mk b false 0).wordV) (((ai.mk b false 0).wordsC 1).wordV) 0 0 0 0 0 0 0 0 [] [] [] [] 0 0 0 0 0 []) U:=by
   subst c5
   unfold ag aH bL bT d8 cz ck cC cA i1
   (try simp only[k,B,D,E,C,t,F,ab,bs,if_true,if_false,decide_true,decide_false,eq_self,true_or,or_true,or_false,false_or,if_true,if_false,co,cm,cn,cv,reduceIte,jK,jN])
   all_goals rfl
 rw[hs]
 exact bt b4 ⟨_,_,_,_,_,rfl,aS.nil ..,aS.nil ..,(fun _ _ _=>aS.nil ..),aS.nil ..,aS.nil ..,⟨(b8 (x:=c) (by omega)),(b8 (x:=0) (by omega)),(aD (x:=(ai.mk b false 0).wordV) (by omega)),(aD (x:=((ai.mk b false 0).wordsC 1).wordV) (by omega)),(aD (x:=0) (by omega)),(aD (x:=0) (by omega)),(aD (x:=0) (by omega)),(aD (x:=0) (by omega)),(aD (x:=0) (by omega)),(aD (x:=0) (by omega)),(aD (x:=0) (by omega)),(aD (x:=0) (by omega)),(b8 (x:=0) (by omega)),(b8 (x:=0) (by omega)),(b8 (x:=0) (by omega)),(b8 (x:=0) (by omega)),(b8 (x:=0) (by omega))⟩⟩ (ud c8 du y)
 have dk:=ak F
 refine sg<|Pl 3<|nt<|cb ((c==22)) (fun J=>?_) (fun J=>?_)
 have dv:=ae J
 refine sg<|Pl 1<|?_
 have dw:RC w _ A cp b X l (ai.mk b false 0):=⟨hsl,z,(Nat.le_trans f.size d),⟨0,(ub T q),Nat.zero_le _,rfl⟩,by omega⟩
 refine L0<|Oc<|m3 (d6 dw) fun eM dx cd eN=>Pl 1<|?_
 have O:=nb (au q) lr g
 refine L0<|cg (aZ cd (Ne.symm O) Y) 2 (mG c 0 ((ai.mk b false 0).wordV) 0 0 0 0 0 0 0 0 0 nS nS nS nS 0 0 0 0 0 nS) fun eO dy ch=>ng<|Pl 1<|?_
 have b5:=us cd ch
 have ci:=ut z b5 (ac (ni f.size d) (ac (ni (le f.size i.size) g) av))
 refine L0<|Oc<|m3 (d6 (RC.upd dx ch (aa O aA) ci)) fun eP dz cj eQ=>Pl 1<|?_
 refine L0<|cg (aZ cj (Ne.symm O) dy) 5 (mG c 0 ((ai.mk b false 0).wordV) 0 0 (((ai.mk b false 0).wordsC 1).wordV) 0 0 0 0 0 0 nS nS nS nS 0 0 0 0 0 nS) fun eR dA cl=>nt<|go<|Pl 1<|?_
 have b9:=us cj cl
 have cq:=ut ci b9 (ac (ni f.size d) (ac (ni (le f.size i.size) g) av))
 refine L0<|Oc<|m3 (d6 (RC.upd dz cl (aa O aA) cq)) fun eS dB cr eT=>Pl 1<|?_
 refine L0<|cg (aZ cr (Ne.symm O) dA) 6 (mG c 0 ((ai.mk b false 0).wordV) 0 0 (((ai.mk b false 0).wordsC 1).wordV) ((((ai.mk b false 0).wordsC 1).wordsC 1).wordV) 0 0 0 0 0 nS nS nS nS 0 0 0 0 0 nS) fun eU dD cs=>nl<|bn<|tn<|sg<|Pl 1<|?_
 have ba:=us cr cs
 have ct:=ut cq ba (ac (ni f.size d) (ac (ni (le f.size i.size) g) av))
 refine L0<|Oc<|m2 (ex (RC.upd dB cs (aa O aA) ct)) fun eV bb aJ=>nt<|sq<|sg<|Pl 3<|L0<|eC (p:=⟨l,3,none⟩) (v:=.int .i64 ((((((ai.mk b false 0).wordsC 1).wordsC 1).wordsC 1).endC).e)) (RC.fld bb)<|Pl 1<|nt<|?_
 have cw:=ud ct aJ (le f.size d)
 refine cb ((((((((ai.mk b false 0).wordsC 1).wordsC 1).wordsC 1).endC).e)!=0)) (fun af=>?_) (fun af=>?_)
 have bc:=az af
 refine sq<|Rg 7 (fun w'=>w'.cell? ⟨l,3,none⟩=some (.int .i64 ((((((ai.mk b false 0).wordsC 1).wordsC 1).wordsC 1).endC).e))) fun eW aK=>?_
 have cx:=RC.upd bb aK aA (aE.step (RC.u bb) aK)
 refine bi (RC.fld cx) fun ah=>Rt 0 ah<|Rt 1 ah<|Rt 2 ah<|Rt 3 ah<|Rl 4 ah (fun _ hs=>hs)<|?_
 refine R0 5 rfl<|be (ub (ut s (ut b5 (ut b9 (u1 ba (aG aJ aK) im) (ac im (ac im av))) (ac im (ac im av))) (ac (nr d) (ac (ni i.size g) av))) j) mZ fun eX dE cy=>?_
 have cB:=ud cw (uz aK cy) y
 refine bi (RC.fld (RC.upd cx cy (aa (Ne.symm (nb (au j) lr d)) aA) cB)) fun dF=>Rt 6 dF<|re<|tn<|rt<|tr<|bX dE (.int .i64 ((((((ai.mk b false 0).wordsC 1).wordsC 1).wordsC 1).endC).e))<|?_
 have hs:ag aH 1 c b=aL (aQ.mk c 0 ((ai.mk b false 0).wordV) 0 0 (((ai.mk b false 0).wordsC 1).wordV) ((((ai.mk b false 0).wordsC 1).wordsC 1).wordV) 0 0 0 0 0 [] [] [] [] 0 0 0 0 0 []) ((((ai.mk b false 0).wordsC 1).wordsC 1).wordsC 1):=by
   unfold ag aH bL bT d8 cz ck cC cA i1
   (try simp only[k,B,D,E,C,t,F,J,af,bs,if_true,if_false,decide_true,decide_false,eq_self,true_or,or_true,or_false,false_or,if_true,if_false,co,cm,cn,cv,reduceIte,jK,jN])
   all_goals rfl
 rw[hs]
 exact bh bc cB
 have bc:=aj af
 refine bp<|sg<|?_
 refine L0<|bP (aZ aJ (Ne.symm O) dD)<|?_
 refine L0<|be (ub (ut s (ut b5 (ut b9 (u1 ba aJ im) (ac im (ac im av))) (ac im (ac im av))) (ac (nr d) (ac (ni i.size g) av))) j) (mG c 0 ((ai.mk b false 0).wordV) 0 0 (((ai.mk b false 0).wordsC 1).wordV) ((((ai.mk b false 0).wordsC 1).wordsC 1).wordV) 0 0 0 0 0 nS nS nS nS 0 0 0 0 0 nS) fun eY dG dH=>Pl 1<|nt<|rt<|bX dG (.int .i64 0)<|?_
 have hs:ag aH 1 c b=aL (aQ.mk c 0 ((ai.mk b false 0).wordV) 0 0 (((ai.mk b false 0).wordsC 1).wordV) ((((ai.mk b false 0).wordsC 1).wordsC 1).wordV) 0 0 0 0 0 [] [] [] [] 0 0 0 0 0 []) ((((ai.mk b false 0).wordsC 1).wordsC 1).wordsC 1):=by
   unfold ag aH bL bT d8 cz ck cC cA i1
   (try simp only[k,B,D,E,C,t,F,J,af,bs,if_true,if_false,decide_true,decide_false,eq_self,true_or,or_true,or_false,false_or,if_true,if_false,co,cm,cn,cv,reduceIte,jK,jN])
   all_goals rfl
 rw[hs]
 exact bt bc ⟨_,_,_,_,_,rfl,aS.nil ..,aS.nil ..,(fun _ _ _=>aS.nil ..),aS.nil ..,aS.nil ..,⟨(b8 (x:=c) (by omega)),(b8 (x:=0) (by omega)),(aD (x:=(ai.mk b false 0).wordV) (by omega)),(aD (x:=0) (by omega)),(aD (x:=0) (by omega)),(aD (x:=((ai.mk b false 0).wordsC 1).wordV) (by omega)),(aD (x:=(((ai.mk b false 0).wordsC 1).wordsC 1).wordV) (by omega)),(aD (x:=0) (by omega)),(aD (x:=0) (by omega)),(aD (x:=0) (by omega)),(aD (x:=0) (by omega)),(aD (x:=0) (by omega)),(b8 (x:=0) (by omega)),(b8 (x:=0) (by omega)),(b8 (x:=0) (by omega)),(b8 (x:=0) (by omega)),(b8 (x:=0) (by omega))⟩⟩ (ud cw dH y)
 have dv:=ak J
 refine sg<|Pl 3<|nt<|cf C<|sg<|Pl 3<|cu 3 [168] 171 (false) (fun K cD=>?_) ?_
 refine bl 168 ((c==24)) (fun bd=>?_) (fun bd=>?_)
 have dI:=ae bd
 exact Pl 3<|ce cD false rfl
 have dI:=ak bd
 exact Pl 3<|ce cD false rfl
 refine Pl 1<|nt<|c0<|sg<|Pl 3<|nt<|cb ((c==24)) (fun V=>?_) (fun V=>?_)
 have dJ:=ae V
 refine sg<|Pl 1<|?_
 have dK:RC w _ A cp b X l (ai.mk b false 0):=⟨hsl,z,(Nat.le_trans f.size d),⟨0,(ub T q),Nat.zero_le _,rfl⟩,by omega⟩
 refine L0<|Oc<|m3 (d6 dK) fun eZ dL P f0=>L0<|Oi ((ai.mk b false 0).wordV)<|Pl 1<|ng<|Pl 2<|L0<|Oe (.int .i64 (Int.tmod ((ai.mk b false 0).wordV) 2)) (.int .i64 (((ai.mk b false 0).wordV)%2)) (congrArg (Value.int .i64) (Int.tmod_eq_emod_of_nonneg (by omega)))<|Pl 2<|cu 3 [185] 188 ((((((ai.mk b false 0).wordV)%2)==0)&&(decide (2≤((ai.mk b false 0).wordV))))) (fun K cE=>?_) ?_
 refine bl 185 (((((ai.mk b false 0).wordV)%2)==0)) (fun al=>?_) (fun al=>?_)
 have dM:=ae al
 exact Pl 3<|ce cE (decide (2≤((ai.mk b false 0).wordV))) (by rw[al];rfl)
 have dM:=ak al
 exact Pl 3<|ce cE false (by rw[al];rfl)
 refine Pl 1<|cu 3 [189] 192 (((((((ai.mk b false 0).wordV)%2)==0)&&(decide (2≤((ai.mk b false 0).wordV))))&&(decide (((ai.mk b false 0).wordV)≤64)))) (fun K cF=>?_) ?_
 refine bl 189 ((((((ai.mk b false 0).wordV)%2)==0)&&(decide (2≤((ai.mk b false 0).wordV))))) (fun am=>?_) (fun am=>?_)
 have dN:=(b6 am).1
 have dO:=(b6 am).2
 have f1:=ae dN
 have f2:=of_decide_eq_true dO
 exact Pl 3<|ce cF (decide (((ai.mk b false 0).wordV)≤64)) (by rw[am];rfl)
 exact Pl 3<|ce cF false (by rw[am];rfl)
 refine L0<|Oc<|m2 (b7 (((((((ai.mk b false 0).wordV)%2)==0)&&(decide (2≤((ai.mk b false 0).wordV))))&&(decide (((ai.mk b false 0).wordV)≤64)))) 5 dL) fun f3 dP Q=>?_
 refine fL dP fun o cG dQ=>?_
 refine ng<|Pl 1<|L0<|Oc<|m3 (d6 dQ) fun f4 dR R f5=>L0<|Oi o.wordV<|Pl 1<|ng<|Pl 3<|L0<|Oi (2*o.wordV)<|?_
 refine L0<|Oi ((2*o.wordV)+2)<|Pl 1<|L0<|Oc<|m2 (b7 ((((ai.mk b false 0).wordV)==((2*o.wordV)+2))) 5 dR) fun f6 dS S=>?_
 refine fL dS fun G cH dT=>?_
 refine nt<|go<|Pl 2<|L0<|Oc<|my (fV (n:=o.wordV) (by omega) dT) fun cI cJ f7 L f8 f9 dU dV=>Pl 1<|?_
 have cL:=u1 P (u1 Q (u1 R (u1 S dV im) im) im) im
 have bf:=nb (au q) lr g
 refine L0<|cg (aZ cL (Ne.symm bf) Y) 12 (mG c 0 0 0 0 0 0 0 0 0 0 0 (.slice cI ((G.wordsR o.wordV).length) cJ) nS nS nS 0 0 0 0 0 nS) fun fa dW aM=>nl<|bn<|tn<|sg<|Pl 1<|?_
 have bg:=us cL aM
 have cM:=ut z bg (ac (ni f.size d) (ac (ni (le f.size i.size) g) av))
 refine L0<|Oc<|m2 (ex (RC.upd dU aM (aa bf aA) cM)) fun fb bj an=>nt<|sq<|sg<|Pl 3<|L0<|eC (p:=⟨l,3,none⟩) (v:=.int .i64 (((G.wordsC o.wordV).endC).e)) (RC.fld bj)<|Pl 1<|nt<|?_
 have cN:=ud cM an (le f.size d)
 refine cb (((((G.wordsC o.wordV).endC).e)!=0)) (fun ao=>?_) (fun ao=>?_)
 have bm:=az ao
 refine sq<|Rg 7 (fun w'=>w'.cell? ⟨l,3,none⟩=some (.int .i64 (((G.wordsC o.wordV).endC).e))) fun fc aN=>?_
 have cO:=RC.upd bj aN aA (aE.step (RC.u bj) aN)
 refine bi (RC.fld cO) fun ap=>Rt 0 ap<|Rt 1 ap<|Rt 2 ap<|Rt 3 ap<|Rl 4 ap (fun _ hs=>hs)<|?_
 have cP:=aG an aN
 refine R0 5 rfl<|be (ub (ut s (u1 bg cP im) (ac (nr d) (ac (ni i.size g) av))) j) mZ fun fd dX bq=>?_
 have cQ:=ud cN (uz aN bq) y
 refine bi (RC.fld (RC.upd cO bq (aa (Ne.symm (nb (au j) lr d)) aA) cQ)) fun dY=>Rt 6 dY<|re<|tn<|rt<|tr<|bX dX (.int .i64 (((G.wordsC o.wordV).endC).e))<|?_
 have fe:=aq L (us aM (us cP bq)) (fun x hx=>(aa (fun e=>(aB (au W) (le (le (le (le r.size P.size) Q.size) R.size) S.size) L) (e▸hx)) (aa (fun e=>(aB (au q) (le (le (le (le (le H.size r.size) P.size) Q.size) R.size) S.size) L) (e▸hx)) (aa (fun e=>(aB (au j) (le (le (le (le (le (le i.size H.size) r.size) P.size) Q.size) R.size) S.size) L) (e▸hx)) aA)))) (fun _ _ h=>h)
 have hs:ag aH 1 c b=aL (aQ.mk c 0 0 0 0 0 0 0 0 0 0 0 (G.wordsR o.wordV) [] [] [] 0 0 0 0 0 []) (G.wordsC o.wordV):=by
   subst cH cG
   unfold ag aH bL bT d8 cz ck cC cA i1
   (try simp only[k,B,D,E,C,t,F,J,V,ao,bs,if_true,if_false,decide_true,decide_false,eq_self,true_or,or_true,or_false,false_or,if_true,if_false,co,cm,cn,cv,reduceIte,jK,jN])
   all_goals rfl
 rw[hs]
 exact bh bm cQ
 have bm:=aj ao
 refine bp<|sg<|?_
 refine L0<|bP (aZ an (Ne.symm bf) dW)<|?_
 refine L0<|be (ub (ut s (u1 bg an im) (ac (nr d) (ac (ni i.size g) av))) j) (mG c 0 0 0 0 0 0 0 0 0 0 0 (.slice cI ((G.wordsR o.wordV).length) cJ) nS nS nS 0 0 0 0 0 nS) fun ff dZ cR=>Pl 1<|nt<|rt<|bX dZ (.int .i64 0)<|?_
 have hs:ag aH 1 c b=aL (aQ.mk c 0 0 0 0 0 0 0 0 0 0 0 (G.wordsR o.wordV) [] [] [] 0 0 0 0 0 []) (G.wordsC o.wordV):=by
   subst cH cG
   unfold ag aH bL bT d8 cz ck cC cA i1
   (try simp only[k,B,D,E,C,t,F,J,V,ao,bs,if_true,if_false,decide_true,decide_false,eq_self,true_or,or_true,or_false,false_or,if_true,if_false,co,cm,cn,cv,reduceIte,jK,jN])
   all_goals rfl
 rw[hs]
 exact bt bm ⟨_,_,_,_,_,rfl,((aq L (us aM (us an cR)) (fun x hx=>(aa (fun e=>(aB (au W) (le (le (le (le r.size P.size) Q.size) R.size) S.size) L) (e▸hx)) (aa (fun e=>(aB (au q) (le (le (le (le (le H.size r.size) P.size) Q.size) R.size) S.size) L) (e▸hx)) (aa (fun e=>(aB (au j) (le (le (le (le (le (le i.size H.size) r.size) P.size) Q.size) R.size) S.size) L) (e▸hx)) aA)))) (fun _ _ h=>h))).rd,aS.nil ..,(fun _ _ _=>aS.nil ..),aS.nil ..,aS.nil ..,⟨(b8 (x:=c) (by omega)),(b8 (x:=0) (by omega)),(aD (x:=0) (by omega)),(aD (x:=0) (by omega)),(aD (x:=0) (by omega)),(aD (x:=0) (by omega)),(aD (x:=0) (by omega)),(aD (x:=0) (by omega)),(aD (x:=0) (by omega)),(aD (x:=0) (by omega)),(aD (x:=0) (by omega)),(aD (x:=0) (by omega)),(b8 (x:=0) (by omega)),(b8 (x:=0) (by omega)),(b8 (x:=0) (by omega)),(b8 (x:=0) (by omega)),(b8 (x:=0) (by omega))⟩⟩ (ud cN cR y)
 have dJ:=ak V
 refine sg<|Pl 1<|?_
 refine L0<|be (ub s j) mZ fun fg e0 e1=>Pl 1<|nt<|rt<|br<|tr<|bX e0 (.int .i64 4)<|?_
 have hs:ag aH 1 c b=(aQ.zero,4):=by
   unfold ag aH bL bT d8 cz ck cC cA i1
   (try simp only[k,B,D,E,C,t,F,J,V,bs,if_true,if_false,decide_true,decide_false,eq_self,true_or,or_true,or_false,false_or,if_true,if_false,co,cm,cn,cv,reduceIte,jK,jN])
   all_goals rfl
 rw[hs]
 exact bA (ud z e1 y)
theorem la{m:Md}{A:Option Addr}{cp:Nat}{b:List Int}{w:World}{dir c:Int}(hcode:B8 c)(hsl:bo m w (.slice A b.length cp) b)(hb:b.length≤1048576)(hd:¬ (dir=0∨dir=1)) :
    Calls Tryz.prog 94 #[.int .i64 dir,.int .u8 c,.slice A b.length cp] w (cK (.slice A b.length cp) b (ag aH dir c b) w):=by
 obtain⟨hcode1,hcode2⟩:=hcode
 have hln:(b.length:Int)≤1048576:=by omega
 have e0:(dir != 0)=true:=by simp;omega
 have e1:(dir != 1)=true:=by simp;omega
 refine en 221 Tryz.func94 rfl<|sg<|L0<|bQ mZ fun g h a d e=>Pl 1<|nt<|sq<|sg<|Pl 3<|sy 18 e0<|Pl 3<|nl<|?_
 refine tn<|ct e1<|sg<|Pl 1<|L0<|be d mZ fun i dF f=>Pl 1<|nt<|rt<|tr<|bX dF (.int .i64 1)<|?_
 have hs:ag aH dir c b=(aQ.zero,1):=by
   unfold ag aH bL bT d8 cz ck cC cA i1
   (try simp only[e0,e1,bs,if_true,if_false,decide_true,decide_false,eq_self,true_or,or_true,or_false,false_or,if_true,if_false,co,cm,cn,cv,reduceIte,hd,jK,jN])
   all_goals rfl
 rw[hs]
 exact bA (ud e f a)
open Go.RowKit
theorem wd{n:Int}{w:World}(hn : -1048576≤n∧n≤1048576) : Calls Tryz.prog 155 #[.int .i64 n] w (dM (.int .i64 (dL n)) w):=by
 refine en 14 Tryz.func155 rfl<|sg<|Pl 1<|nt<|sq<|sg<|Pl 2<|nt<|cb ((decide (n<1))) (fun a=>?_) (fun a=>?_)
 have c:=of_decide_eq_true a
 refine sg<|Pl 1<|nt<|rt<|tr<|rr (.int .i64 0)<|?_
 have hs:dL n=0:=by rw[ml];split<;>(try split)<;>omega
 rw[hs]
 exact⟨rfl,(aE.refl [] _)⟩
 have c:=of_decide_eq_false a
 refine bp<|sg<|Pl 1<|L0<|Oe (.int .i64 (IntKind.i64.wrap (Int.tdiv n 8))) (.int .i64 (n/8)) (congrArg (Value.int .i64) (fS (by omega) (by omega)))<|Pl 1<|nt<|sq<|sg<|Pl 1<|L0<|Oe (.int .i64 (Int.tmod n 8)) (.int .i64 (n%8)) (congrArg (Value.int .i64) (Int.tmod_eq_emod_of_nonneg (by omega)))<|?_
 refine Pl 1<|nt<|cb ((decide (0<(n%8)))) (fun b=>?_) (fun b=>?_)
 have d:=of_decide_eq_true b
 refine go<|Pl 1<|L0<|Oi ((n/8)+1)<|Pl 1<|ng<|Pl 2<|nt<|rt<|rr (.int .i64 ((n/8)+1))<|?_
 have hs:dL n=((n/8)+1):=by rw[ml];split<;>(try split)<;>omega
 rw[hs]
 exact⟨rfl,(aE.refl [] _)⟩
 have d:=of_decide_eq_false b
 refine bp<|sg<|Pl 2<|nt<|rt<|rr (.int .i64 (n/8))<|?_
 have hs:dL n=(n/8):=by rw[ml];split<;>(try split)<;>omega
 rw[hs]
 exact⟨rfl,(aE.refl [] _)⟩
theorem pp(l:List Bool)(j t:Nat)(ht:t≤8) : cc (l.take (8*j+t)) j<2 ^ t:=by
  induction t with
  | zero=>rw[Nat.add_zero,kg];decide
  | succ t ih =>
    have h:=ih (by omega)
    rw[← Nat.add_assoc,jd (by omega),Nat.pow_succ]
    split<;>omega
theorem rA{t:Nat}(ht:t≤8) : 2 ^ t≤256:=by
  rcases t with _|_|_|_|_|_|_|_|_|t
  case succ.succ.succ.succ.succ.succ.succ.succ.succ=>omega
  all_goals decide
theorem pH{l:List Bool}{j:Nat}(h1:¬ 8*j<l.length)(h2:8*j<l.length+8) : (List.range j).map (fun i=>(cc l i:Int))=bO l:=rE (by omega) h2
theorem sA{l:List Bool}{j t:Nat}{c:Int}(hc:c=(cc (l.take (8*j+t)) j:Int))(ht:t≤8)(h:t=8∨l.length≤8*j+t) : c%256=(cc l j:Int):=by
  have h1:=pp l j t ht
  have h2:=rA ht
  rw[qC h] at hc h1
  omega
theorem vK{m:Md}{A:Option Addr}{cp:Nat}{l:List Bool}{w:World}(h:gQ m w (.slice A l.length cp) l)(hn:l.length≤1048576) : Calls Tryz.prog 216 #[.slice A l.length cp] w (s7 l w):=by
 refine en 42 Tryz.func216 rfl<|sg<|Pl 1<|ng<|Pl 1<|nt<|sq<|sg<|?_
 refine Pl 1<|nt<|bk<|?_
 refine jf (fun x=>[(0,.slice A l.length cp),(2,.slice none 0 0),(3,.slice x.2.2.1 x.2.1.length x.2.2.2),(4,.int .i64 ((8*x.1:Nat) : Int))]) (fun(x:Nat × List Int × Option Addr × Nat) w'=>aE [] w w'∧eY w.heap.size w' (.slice x.2.2.1 x.2.1.length x.2.2.2) x.2.1∧(8*x.1<l.length+8)∧(x.2.1=(List.range x.1).map (fun i=>(cc l i:Int)))) (fun x=>l.length+8-8*x.1) (0,[],none,0) ⟨aE.refl _ _,(aV.nil w.heap.size _ _ rN _),(by(try dsimp only);omega),rfl⟩ ?_
 rintro⟨j,L,B,cq⟩ r ⟨f,z,C,D⟩
 refine jj [(0,.slice A l.length cp),(2,.slice none 0 0),(3,.slice B L.length cq),(4,.int .i64 ((8*j:Nat) : Int))] ?_
 have g:eY w.heap.size r (.slice B L.length cq) L:=z
 have Z:8*j<l.length+8:=C
 have k:L=(List.range j).map (fun i=>(cc l i:Int)):=D
 have hLn:L.length=j:=by rw[k,List.length_map,List.length_range]
 refine sq<|sg<|Pl 4<|nt<|cb ((decide (((8*j:Nat) : Int)<((l.length:Nat) : Int)))) (fun n=>?_) (fun n=>?_)
 have E:=of_decide_eq_true n
 refine bp<|sq<|bk<|sg<|Pl 1<|ng<|Pl 1<|nt<|?_
 refine sq<|sg<|Pl 2<|nt<|bk<|?_
 refine jf (fun x=>[(0,.slice A l.length cp),(2,.slice none 0 0),(3,.slice B L.length cq),(4,.int .i64 ((8*j:Nat) : Int)),(5,.int .i64 x.2.1),(6,.int .i64 x.2.2),(7,.int .i64 ((8*j+x.1:Nat) : Int)),(8,.int .i64 ((8*j:Nat) : Int)),(9,.slice A l.length cp),(10,.int .i64 ((l.length:Nat) : Int)),(11,.bool (decide (((8*j:Nat) : Int)<((l.length:Nat) : Int)))),(14,.int .i64 ((8*j:Nat) : Int))]) (fun(x:Nat × Int × Int) w'=>aE [] r w'∧(x.1≤8)∧(x.2.1=(cc (l.take (8*j+x.1)) j:Int))∧(x.2.2=((2 ^ x.1:Nat) : Int))) (fun x=>8-x.1) (0,0,1) ⟨aE.refl _ _,(by(try dsimp only);omega),(by(try dsimp only);rw[Nat.add_zero,kg];rfl),rfl⟩ ?_
 rintro⟨t,c,u⟩ a0 ⟨a,F,G,H⟩
 refine jj [(0,.slice A l.length cp),(2,.slice none 0 0),(3,.slice B L.length cq),(4,.int .i64 ((8*j:Nat) : Int)),(5,.int .i64 c),(6,.int .i64 u),(7,.int .i64 ((8*j+t:Nat) : Int)),(8,.int .i64 ((8*j:Nat) : Int)),(9,.slice A l.length cp),(10,.int .i64 ((l.length:Nat) : Int)),(11,.bool (decide (((8*j:Nat) : Int)<((l.length:Nat) : Int)))),(14,.int .i64 ((8*j:Nat) : Int))] ?_
 have a1:t≤8:=F
 have I:c=(cc (l.take (8*j+t)) j:Int):=G
 have a2:u=((2 ^ t:Nat) : Int):=H
 have hpl:=pp l j t (by omega)
 have hpp:=rA (t:=t) (by omega)
 refine sq<|sg<|Pl 5<|cu 5 [19] 24 (((decide (((8*j+t:Nat) : Int)<((l.length:Nat) : Int)))&&(decide (((8*j+t:Nat) : Int)<(((8*j:Nat) : Int)+8))))) (fun K s=>?_) ?_
 refine bl 19 ((decide (((8*j+t:Nat) : Int)<((l.length:Nat) : Int)))) (fun b=>?_) (fun b=>?_)
 have J:=of_decide_eq_true b
 exact Pl 2<|L1<|Oi (((8*j:Nat) : Int)+8)<|Pl 2<|ce s (decide (((8*j+t:Nat) : Int)<(((8*j:Nat) : Int)+8))) (by rw[b];rfl)
 have J:=of_decide_eq_false b
 exact Pl 5<|ce s false (by rw[b];rfl)
 refine nt<|?_
 have y:=aG f a
 refine cb (((decide (((8*j+t:Nat) : Int)<((l.length:Nat) : Int)))&&(decide (((8*j+t:Nat) : Int)<(((8*j:Nat) : Int)+8))))) (fun d=>?_) (fun d=>?_)
 have M:=(b6 d).1
 have N:=(b6 d).2
 have a3:=of_decide_eq_true M
 have a4:=of_decide_eq_true N
 refine bp<|sq<|bk<|sq<|sg<|Pl 2<|?_
 refine xh (gQ.at_ (gQ.old h y) (8*j+t) (by omega)) fun O P Q R=>L0<|mc l.length (8*j+t) Q (by omega)<|L0<|eC (p:=⟨O,P+(8*j+t),none⟩) (v:=.bool (l.getD (8*j+t) false)) R<|nt<|cb ((l.getD (8*j+t) false)) (fun o=>?_) (fun o=>?_)
 refine go<|Pl 2<|L0<|Oi (c+u)<|Pl 1<|nt<|go<|Pl 1<|L0<|Oi (2*u)<|Pl 1<|nl<|bn<|tn<|go<|?_
 exact Pl 1<|L0<|Oi (((8*j+t:Nat) : Int)+1)<|Pl 1<|nl<|gM ((t+1),(c+u),(2*u)) ⟨a,(by(try dsimp only);omega),(by(try dsimp only);rw[← Nat.add_assoc,jd (by omega),if_pos o];omega),(by(try dsimp only);rw[Nat.pow_succ];omega)⟩ (by omega)
 refine bp<|go<|Pl 1<|L0<|Oi (2*u)<|Pl 1<|nl<|bn<|tn<|go<|Pl 1<|L0<|Oi (((8*j+t:Nat) : Int)+1)<|Pl 1<|nl<|?_
 exact gM ((t+1),c,(2*u)) ⟨a,(by(try dsimp only);omega),(by(try dsimp only);rw[← Nat.add_assoc,jd (by omega),if_neg (by rw[o];decide)];omega),(by(try dsimp only);rw[Nat.pow_succ];omega)⟩ (by omega)
 refine xt<|tx<|tx<|bx<|tn<|go<|Pl 3<|L0<|cO (m:=1) (e:=5) #[.int .u8 (c%256)] fun a5 a6 S T q=>?_
 have U:=cN S (xs:=[(c%256)]) (by as_aux_lemma=>kernel_rfl) (al (by omega) aJ) (by(try simp only[List.length_cons,List.length_nil]);omega) T
 refine L0<|bG aX (xs:=L) (ys:=([(c%256)])) (.int .u8 0) 1 (aq g (aG a q) (fun x hx=>aA) (fun _ _ h=>h)) (U).rd (by(try simp only[List.length_append,List.length_cons,List.length_nil,ay]);omega) (le (le f.size a.size) q.size) fun V W a7 X Y=>Pl 1<|nl<|bn<|tn<|go<|Pl 1<|L0<|Oi (((8*j:Nat) : Int)+8)<|Pl 1<|nl<|?_
 exact gM ((j+1),(L++[(c%256)]),V,W) ⟨(ut y (ut (aE.mono (S':=(ob B++[])) q av) Y (am il av)) (am (aM g lr) av)),X,(by(try dsimp only);omega),(by(try dsimp only);rw[k,List.range_succ,List.map_append];show _++[_]=_++[_];rw[sA I (by omega) (by have hq:=d;simp only[Bool.and_eq_false_iff,decide_eq_false_iff_not] at hq;omega)])⟩ (by omega)
 have E:=of_decide_eq_false n
 refine xt<|tx<|tx<|bx<|tn<|sg<|Pl 2<|nt<|rt<|rr (.slice B L.length cq)<|?_
 have hs:L=bO l:=by rw[k];exact pH (by omega) (by omega)
 exact⟨_,rfl,by rw[← hs];exact g,f⟩
theorem uN{m:Md}{v:Value}{l:List Bool}{w:World}(h:gQ m w v l)(hn:l.length≤1048576) : Calls Tryz.prog 216 #[v] w (s7 l w):=by
  obtain⟨A,c,rfl,_,_⟩:=h.shape
  exact vK h hn
theorem sb{P:Program}{w:World}{ev:Operand→Value}{o:Oper}{x y:Operand}{t t':TypeId}{a b:ByteArray}{v:Bool}(ho:o.op = .binOp .neq t x y t')(hx:ev x = .string a)(hy:ev y = .string b)(hv:(a.toList==b.toList)=v) : (execOp ev o).run P w = .ok (.value (.bool !v)) w:=by
  have hg:eqGuard .neq t x y (.string a) (.string b)=pure ():=rfl
  unfold execOp
  simp only[ho,hx,hy,hg,binOp_string_neq,Sem.run_bind,Sem.run_pure,Result.andThen,hv]
theorem xm{w0 w:World}{g:Nat}{cs:Array Value}{xs:List Bool}(hg:w0.heap.size≤g)(hcs:cs=(xs.map Value.bool).toArray)(hl:xs.length≤4194304)(hb:w.heap[g]? = some (.cells cs 4 (0,0))) :
    uy w0.heap.size w (.slice (some ⟨g,0,none⟩) xs.length xs.length) xs:=vQ (enc:=Value.bool) hg hcs (fun x h=>rfl) hl hb
theorem qv{x c:Int}{k:Nat}(h:c=x/2 ^ k) : c/2=x/2 ^ (k+1):=by
  rw[h,Int.ediv_ediv_of_nonneg (Int.le_of_lt (Int.pow_pos (by decide))),Int.pow_succ]
theorem sX{x c:Int}(hx:0≤x∧x<256){k:Nat}(h:c=x/2 ^ k) : 0≤c∧c<256:=by
  have h1:(1:Int)≤2 ^ k:=Int.pow_pos (by decide)
  subst h
  exact⟨Int.ediv_nonneg hx.1 (by omega),Int.lt_of_le_of_lt (Int.ediv_le_self _ hx.1) hx.2⟩
theorem rf{l:List Int}{i:Nat}(h:i<l.length) : l.getD i 0∈l:=by
  rw[List.getD_eq_getElem?_getD,List.getElem?_eq_getElem h]
  exact List.getElem_mem h
theorem rC{m:Md}{A:Option Addr}{cp:Nat}{b:List Int}{n:Int}{w:World}(h:bo m w (.slice A b.length cp) b)(hl:b.length≤1048576)(hn : -1048576≤n∧n≤1048576) : Calls Tryz.prog 156 #[.slice A b.length cp,.int .i64 n] w (fM b n w):=by
 have hb:=bo.range h
 refine en 51 Tryz.func156 rfl<|sg<|Pl 2<|nt<|sq<|sg<|Pl 3<|cu 6 [12] 18 (((decide (n<0))||(decide ((8*((b.length:Nat) : Int))<n)))) (fun K H=>?_) ?_
 refine bl 12 ((decide (n<0))) (fun d=>?_) (fun d=>?_)
 have R:=of_decide_eq_true d
 exact Pl 6<|ce H true (by rw[d];rfl)
 have R:=of_decide_eq_false d
 exact Pl 3<|L1<|Oi (8*((b.length:Nat) : Int))<|Pl 2<|ce H (decide ((8*((b.length:Nat) : Int))<n)) (by rw[d];rfl)
 refine nt<|cb (((decide (n<0))||(decide ((8*((b.length:Nat) : Int))<n)))) (fun g=>?_) (fun g=>?_)
 refine sg<|Pl 2<|nt<|rt<|tr<|rr (.tuple #[.slice none 0 0,.bool false])<|?_
 have hq:=g
 have hs:cw b n=none:=by unfold cw;rw[if_neg];rintro⟨h1,h2⟩;simp only[Bool.or_eq_true,decide_eq_true_eq] at hq;rw[ml] at h2;split at h2<;>(try split at h2)<;>omega
 exact ff hs (aE.refl [] _)
 have S:=(aI g).1
 have T:=(aI g).2
 have ae:=of_decide_eq_false S
 have af:=of_decide_eq_false T
 refine bp<|sg<|Pl 1<|nt<|sq<|sg<|Pl 1<|nt<|bk<|?_
 refine jf (fun x=>[(0,.slice A b.length cp),(1,.int .i64 n),(4,.slice none 0 0),(5,.bool false),(6,.slice x.2.2.1 x.2.1.length x.2.2.2),(7,.int .i64 ((x.1:Nat) : Int))]) (fun(x:Nat × List Bool × Option Addr × Nat) w'=>aE [] w w'∧uy w.heap.size w' (.slice x.2.2.1 x.2.1.length x.2.2.2) x.2.1∧(((x.1:Nat) : Int)≤n)∧(x.2.1=(List.range x.1).map (cH b))) (fun x=>n.toNat-x.1) (0,[],none,0) ⟨aE.refl _ _,(aV.nil w.heap.size _ _ lH _),(by(try dsimp only);omega),rfl⟩ ?_
 rintro⟨i,L,B,cq⟩ I ⟨j,U,V,W⟩
 refine jj [(0,.slice A b.length cp),(1,.int .i64 n),(4,.slice none 0 0),(5,.bool false),(6,.slice B L.length cq),(7,.int .i64 ((i:Nat) : Int))] ?_
 have r:uy w.heap.size I (.slice B L.length cq) L:=U
 have ag:((i:Nat) : Int)≤n:=V
 have o:L=(List.range i).map (cH b):=W
 have hLn:L.length=i:=by rw[o,List.length_map,List.length_range]
 have hi8:(((i:Nat) : Int)/8).toNat=i/8:=by omega
 refine sq<|sg<|Pl 3<|nt<|cb ((decide (((i:Nat) : Int)<n))) (fun s=>?_) (fun s=>?_)
 have X:=of_decide_eq_true s
 refine bp<|sq<|bk<|sg<|Pl 2<|L0<|Oe (.int .i64 (IntKind.i64.wrap (Int.tdiv ((i:Nat) : Int) 8))) (.int .i64 (((i:Nat) : Int)/8)) (congrArg (Value.int .i64) (fS (by omega) (by omega)))<|?_
 refine gV (bo.at_ (bo.old h j) (((((i:Nat) : Int)/8)).toNat) (by omega)) fun t u Y Z ah=>L0<|wy b.length (((((i:Nat) : Int)/8)).toNat) (((i:Nat) : Int)/8) (by omega) Y (by omega)<|L0<|eC (p:=⟨t,u+(((((i:Nat) : Int)/8)).toNat),none⟩) (v:=.int .u8 (b.getD (((((i:Nat) : Int)/8)).toNat) 0)) Z<|L0<|Oi (b.getD (((((i:Nat) : Int)/8)).toNat) 0)<|Pl 1<|nt<|sq<|sg<|Pl 1<|nt<|bk<|?_
 refine jf (fun x=>[(0,.slice A b.length cp),(1,.int .i64 n),(4,.slice none 0 0),(5,.bool false),(6,.slice B L.length cq),(7,.int .i64 ((i:Nat) : Int)),(8,.int .i64 x.2),(9,.int .i64 ((x.1:Nat) : Int)),(19,.int .i64 ((i:Nat) : Int)),(20,.int .i64 n),(21,.bool (decide (((i:Nat) : Int)<n))),(24,.slice A b.length cp),(25,.int .i64 ((i:Nat) : Int)),(26,.int .i64 (((i:Nat) : Int)/8)),(27,.pointer (some (⟨t,u+(((((i:Nat) : Int)/8)).toNat),none⟩))),(28,.int .u8 (b.getD (((((i:Nat) : Int)/8)).toNat) 0)),(29,.int .i64 (b.getD (((((i:Nat) : Int)/8)).toNat) 0))]) (fun(x:Nat × Int) w'=>aE [] I w'∧(x.1≤i%8)∧(x.2=b.getD (i/8) 0/2 ^ x.1)) (fun x=>8-x.1) (0,(b.getD (((((i:Nat) : Int)/8)).toNat) 0)) ⟨aE.refl _ _,(by(try dsimp only);omega),(by(try dsimp only);rw[hi8,Int.pow_zero,Int.ediv_one])⟩ ?_
 rintro⟨k,c⟩ ai ⟨q,a0,a1⟩
 refine jj [(0,.slice A b.length cp),(1,.int .i64 n),(4,.slice none 0 0),(5,.bool false),(6,.slice B L.length cq),(7,.int .i64 ((i:Nat) : Int)),(8,.int .i64 c),(9,.int .i64 ((k:Nat) : Int)),(19,.int .i64 ((i:Nat) : Int)),(20,.int .i64 n),(21,.bool (decide (((i:Nat) : Int)<n))),(24,.slice A b.length cp),(25,.int .i64 ((i:Nat) : Int)),(26,.int .i64 (((i:Nat) : Int)/8)),(27,.pointer (some (⟨t,u+(((((i:Nat) : Int)/8)).toNat),none⟩))),(28,.int .u8 (b.getD (((((i:Nat) : Int)/8)).toNat) 0)),(29,.int .i64 (b.getD (((((i:Nat) : Int)/8)).toNat) 0))] ?_
 have aj:k≤i%8:=a0
 have y:c=b.getD (i/8) 0/2 ^ k:=a1
 have hcr:=sX (hb _ (rf (l:=b) (i:=i/8) (by omega))) y
 refine sq<|sg<|Pl 2<|L0<|Oe (.int .i64 (Int.tmod ((i:Nat) : Int) 8)) (.int .i64 (((i:Nat) : Int)%8)) (congrArg (Value.int .i64) (Int.tmod_eq_emod_of_nonneg (by omega)))<|Pl 1<|nt<|?_
 refine cb ((decide (((k:Nat) : Int)<(((i:Nat) : Int)%8)))) (fun z=>?_) (fun z=>?_)
 have a2:=of_decide_eq_true z
 refine bp<|sq<|bk<|go<|Pl 1<|L0<|Oe (.int .i64 (IntKind.i64.wrap (Int.tdiv c 2))) (.int .i64 (c/2)) (congrArg (Value.int .i64) (fS (by omega) (by omega)))<|Pl 1<|nl<|bn<|tn<|go<|Pl 1<|L0<|Oi (((k:Nat) : Int)+1)<|?_
 exact Pl 1<|nl<|gM ((k+1),(c/2)) ⟨q,(by(try dsimp only);omega),qv y⟩ (by omega)
 have a2:=of_decide_eq_false z
 refine xt<|tx<|tx<|bx<|tn<|go<|Pl 2<|L0<|Oe (.int .i64 (Int.tmod c 2)) (.int .i64 (c%2)) (congrArg (Value.int .i64) (Int.tmod_eq_emod_of_nonneg (by omega)))<|Pl 1<|L0<|cO (m:=1) (e:=4) #[.bool ((c%2)==1)] fun ak al a3 a4 C=>?_
 have a5:=xm a3 (xs:=[((c%2)==1)]) (by as_aux_lemma=>kernel_rfl)  (by(try simp only[List.length_cons,List.length_nil]);omega) a4
 refine L0<|bG rz (xs:=L) (ys:=([((c%2)==1)])) (.bool false) 1 (aq r (aG q C) (fun x hx=>aA) (fun _ _ h=>h)) (a5).rd (by(try simp only[List.length_append,List.length_cons,List.length_nil,ay]);omega) (le (le j.size q.size) C.size) fun a6 a7 an a8 a9=>Pl 1<|nl<|bn<|tn<|go<|Pl 1<|L0<|Oi (((i:Nat) : Int)+1)<|Pl 1<|nl<|?_
 exact gM ((i+1),(L++[((c%2)==1)]),a6,a7) ⟨(ut (aG j q) (ut (aE.mono (S':=(ob B++[])) C av) a9 (am il av)) (am (aM r lr) av)),a8,(by(try dsimp only);omega),(by(try dsimp only);rw[o,List.range_succ,List.map_append];show _++[_]=_++[cH b i];unfold cH;rw[y,show k=i%8 from by omega])⟩ (by omega)
 have X:=of_decide_eq_false s
 refine xt<|tx<|tx<|bx<|tn<|sq<|sq<|Rg 6 (fun w'=>bo false w' (.slice A b.length cp) b) fun ao J=>?_
 have M:=aG j J
 have D:=bo.old h M
 refine bi (aS.any D (fun _ _ h=>h)) fun E=>Rt 0 E<|Rt 3 E<|Rr 4 E (.string (strOfNums b)) (fun _ hs=>eW (A:=A) (n:=b.length) (c:=cp) rfl (by kernel_rfl) Tryz.underlying22 Tryz.underlying5 Tryz.underlying9 hs)<|?_
 have N:=aq r J (fun x hx=>aA) (fun _ _ h=>h)
 refine R0 1 rfl<|Oc<|dk (uN (N).rd (by omega)) fun aa ab ap O ar au F=>?_
 have P:=bo.old D F
 refine bi (aS.any P (fun _ _ h=>h)) fun aw=>R0 2 rfl<|oo (.string (strOfNums (bO L))) (eW (A:=aa) (n:=(bO L).length) (c:=ab) rfl (by kernel_rfl) Tryz.underlying22 Tryz.underlying5 Tryz.underlying9 (O).rd)<|bi (aS.any P (fun _ _ h=>h)) fun ac=>Rr 5 ac (.bool (!(decide ((bO L)=b)))) (fun _ _=>sb (a:=(strOfNums (bO L))) (b:=(strOfNums b)) rfl (by kernel_rfl) (by kernel_rfl) (oD (O).rd D))<|re<|tn<|?_
 have Q:=aG M F
 refine cb ((!(decide ((bO L)=b)))) (fun f=>?_) (fun f=>?_)
 have G:(decide ((bO L)=b))=false:=by simpa using f
 have ad:=of_decide_eq_false G
 refine sg<|Pl 2<|nt<|rt<|tr<|rr (.tuple #[.slice none 0 0,.bool false])<|?_
 have hL:L=(List.range n.toNat).map (cH b):=by rw[o,show i=n.toNat from by omega]
 have hu:=nH (n:=n) hb (by omega)
 rw[if_neg (by rw[← hL];simpa using f)] at hu
 exact ff hu Q
 have G:(decide ((bO L)=b))=true:=by simpa using f
 have ad:=of_decide_eq_true G
 refine bp<|sg<|Pl 3<|nt<|rt<|rr (.tuple #[.slice B L.length cq,.bool true])<|?_
 have hL:L=(List.range n.toNat).map (cH b):=by rw[o,show i=n.toNat from by omega]
 have hu:=nH (n:=n) hb (by omega)
 rw[if_pos (by rw[← hL];simpa using f),← hL] at hu
 exact⟨_,by rw[hu];rfl,by rw[hu];exact(aq N F (fun x hx=>aA) (fun _ _ h=>h)),Q⟩
theorem uf{m:Md}{v:Value}{b:List Int}{n:Int}{w:World}(h:bo m w v b)(hl:b.length≤1048576)(hn : -1048576≤n∧n≤1048576) : Calls Tryz.prog 156 #[v,.int .i64 n] w (fM b n w):=by
  obtain⟨A,c,rfl,_,_⟩:=h.shape
  exact rC h hl hn
open Go.RowKit
def d9 (dir:Int)(M:aQ) : List Int :=
  if M.code==1 || M.code==2 then (if dir==1 then [(M.data.length:Int)%256]++M.data else aF [M.addr,M.count])
  else if M.code==5 then aF [M.addr,M.value]
  else if M.code==15 then (if dir==0 then (aF [M.addr,M.count]++[((bO M.bits).length:Int)%256])++bO M.bits else aF [M.addr,M.count])
  else aF [M.addr,M.count]
def dS (dir:Int)(M:aQ) : List Int :=
  if M.code==8 then aF ([M.sub]++M.words)
  else if dir==0 then []
  else if M.code==7 then [M.value%256]
  else if M.code==11 then aF [M.status,M.events]
  else if M.code==12 then (([((M.data.length:Int)+6)%256]++aF [M.status,M.events,M.messages])++M.data)
  else [(M.data.length:Int)%256]++M.data
def bZ (dir:Int)(M:aQ) : List Int :=
  if dir==1&&((M.code==3 || M.code==4)||M.code==23) then (aF []++[(2*(M.words.length:Int))%256])++aF M.words
  else if (M.code==3 || M.code==4)||(M.code==16&&dir==1) then aF [M.addr,M.count]
  else if M.code==6 then aF [M.addr,M.value]
  else if M.code==16 then ((aF [M.addr,M.count]++[(2*(M.words.length:Int))%256])++aF M.words)
  else if M.code==22 then aF [M.addr,M.and_,M.or_]
  else if M.code==23 then ((aF [M.addr,M.count,M.addr2,(M.words.length:Int)%65536]++[(2*(M.words.length:Int))%256])++aF M.words)
  else if M.code==24&&dir==0 then aF [M.addr]
  else if M.code==24 then aF [(2*(M.words.length:Int)+2)%65536,(M.words.length:Int)%65536]++aF M.words
  else (aF []++[(2*(M.words.length:Int))%256])++aF M.words
theorem ol{m:Md}{cs:Array Value}{M:aQ}{w:World}{dir:Int}(h:aO m w cs.toList M)(hf:bU M) : Calls Tryz.prog 166 #[.int .i64 dir,.agg cs] w (fy (d9 dir M) w):=by
 obtain⟨vw,vb,vd,vr,vo,h0,hw,hbt,hd,hr,ho,hR⟩:=h
 obtain rfl:cs=(bu M vw vb vd vr vo).toArray:=by apply Array.toList_inj.1;simpa using h0
 clear h0
 obtain⟨Aw,kw,rfl,_,_⟩:=hw.shape
 obtain⟨Ab,kb,rfl,_,_⟩:=hbt.shape
 obtain⟨Ad,kd,rfl,_,_⟩:=hd.shape
 obtain⟨Ar,kr,rfl,_,_⟩:=hr.shape
 obtain⟨Ao,ko,rfl,_,_⟩:=ho.shape
 obtain⟨q0,q1,q2,q3,q4,q5,q6,q7,q8,q9,K,L,N,O,P,Q,R⟩:=hR
 simp only[B8,dF] at q0 q1 q2 q3 q4 q5 q6 q7 q8 q9 K L N O P Q R
 have hf1:=hf.words
 have hf2:=hf.bits
 have hf3:=hf.data
 have hf4:=hf.recs
 have hf5:=hf.objects
 refine en 52 Tryz.func166 rfl<|sg<|L0<|dC (mG M.code M.fail M.addr M.count M.value M.and_ M.or_ M.addr2 M.sub M.status M.events M.messages (.slice Aw M.words.length kw) (.slice Ab M.bits.length kb) (.slice Ad M.data.length kd) (.slice Ar M.recs.length kr) M.mei M.kind M.level M.more M.next (.slice Ao M.objects.length ko)) fun aC aD aH t c=>Pl 1<|ng<|Pl 1<|L0<|aP t 2<|Pl 1<|L0<|aP t 3<|L0<|cO (m:=2) (e:=24) #[.int .u16 M.addr,.int .u16 M.count] fun aI aK S T d=>?_
 have U:=dh S (xs:=[M.addr,M.count]) (by as_aux_lemma=>kernel_rfl) (al (by omega) (al (by omega) aJ)) (by(try simp only[List.length_cons,List.length_nil]);omega) T
 refine L0<|Oc<|dk (ek (xs:=[M.addr,M.count]) (U).rd (by(try simp only[List.length_append,List.length_cons,List.length_nil]);omega)) fun i q aL j aN aR r=>Pl 1<|nt<|sq<|sg<|Pl 1<|?_
 have A:=aG d r
 have g:=ub A t
 refine L0<|aP g 0<|nt<|bk<|sq<|sg<|Pl 2<|nt<|?_
 have a:=aG c A
 refine cb ((M.code==1)) (fun b=>?_) (fun b=>?_)
 have V:=ae b
 refine bp<|ct b<|sg<|Pl 2<|nt<|cb ((dir==1)) (fun n=>?_) (fun n=>?_)
 have W:=ae n
 refine sg<|Pl 1<|L0<|aP g 14<|Pl 2<|L0<|cO (m:=1) (e:=5) #[.int .u8 (((M.data.length:Nat) : Int)%256)] fun aS aT X Y u=>?_
 have B:=cN X (xs:=[(((M.data.length:Nat) : Int)%256)]) (by as_aux_lemma=>kernel_rfl) (al (by omega) aJ) (by(try simp only[List.length_cons,List.length_nil]);omega) Y
 refine Pl 1<|?_
 refine L0<|aP (ub u g) 14<|?_
 have C:=aG a u
 refine L0<|bG aX (xs:=([(((M.data.length:Nat) : Int)%256)])) (ys:=M.data) (.int .u8 0) 1 B (bo.old hd C) (by(try simp only[List.length_append,List.length_cons,List.length_nil,ay]);omega) u.size fun Z a0 aU a1 a2=>Pl 1<|nt<|rt<|br<|tr<|rr (.slice Z (([(((M.data.length:Nat) : Int)%256)]++M.data).length) a0)<|?_
 have hs:d9 dir M=([(((M.data.length:Nat) : Int)%256)]++M.data):=by
   unfold d9
   (try simp only[b,n,bs,if_true,if_false,decide_true,decide_false,Bool.or_true,Bool.true_or,Bool.or_false,Bool.false_or,Bool.and_true,Bool.true_and,Bool.and_false,Bool.false_and,reduceIte])
   all_goals rfl
 rw[hs]
 exact⟨_,rfl,(aV.weaken a1 a.size),(ut C a2 (am (aM B a.size) av))⟩
 have W:=ak n
 refine sk<|bn<|tn<|sg<|Pl 2<|nt<|rt<|rr (.slice i ((aF ([M.addr,M.count])).length) q)<|?_
 have hs:d9 dir M=(aF ([M.addr,M.count])):=by
   unfold d9
   (try simp only[b,n,bs,if_true,if_false,decide_true,decide_false,Bool.or_true,Bool.true_or,Bool.or_false,Bool.false_or,Bool.and_true,Bool.true_and,Bool.and_false,Bool.false_and,reduceIte])
   all_goals rfl
 rw[hs]
 exact⟨_,rfl,(aV.weaken j (le c.size d.size)),a⟩
 have V:=ak b
 refine go<|Pl 2<|nt<|cb ((M.code==2)) (fun f=>?_) (fun f=>?_)
 have a3:=ae f
 refine sg<|Pl 2<|nt<|cb ((dir==1)) (fun o=>?_) (fun o=>?_)
 have a4:=ae o
 refine sg<|Pl 1<|L0<|aP g 14<|Pl 2<|L0<|cO (m:=1) (e:=5) #[.int .u8 (((M.data.length:Nat) : Int)%256)] fun aW aY a5 a6 v=>?_
 have D:=cN a5 (xs:=[(((M.data.length:Nat) : Int)%256)]) (by as_aux_lemma=>kernel_rfl) (al (by omega) aJ) (by(try simp only[List.length_cons,List.length_nil]);omega) a6
 refine Pl 1<|?_
 refine L0<|aP (ub v g) 14<|?_
 have E:=aG a v
 refine L0<|bG aX (xs:=([(((M.data.length:Nat) : Int)%256)])) (ys:=M.data) (.int .u8 0) 1 D (bo.old hd E) (by(try simp only[List.length_append,List.length_cons,List.length_nil,ay]);omega) v.size fun a7 a8 aZ a9 aa=>Pl 1<|nt<|rt<|br<|tr<|rr (.slice a7 (([(((M.data.length:Nat) : Int)%256)]++M.data).length) a8)<|?_
 have hs:d9 dir M=([(((M.data.length:Nat) : Int)%256)]++M.data):=by
   unfold d9
   (try simp only[b,f,o,bs,if_true,if_false,decide_true,decide_false,Bool.or_true,Bool.true_or,Bool.or_false,Bool.false_or,Bool.and_true,Bool.true_and,Bool.and_false,Bool.false_and,reduceIte])
   all_goals rfl
 rw[hs]
 exact⟨_,rfl,(aV.weaken a9 a.size),(ut E aa (am (aM D a.size) av))⟩
 have a4:=ak o
 refine sk<|bn<|tn<|sg<|Pl 2<|nt<|rt<|rr (.slice i ((aF ([M.addr,M.count])).length) q)<|?_
 have hs:d9 dir M=(aF ([M.addr,M.count])):=by
   unfold d9
   (try simp only[b,f,o,bs,if_true,if_false,decide_true,decide_false,Bool.or_true,Bool.true_or,Bool.or_false,Bool.false_or,Bool.and_true,Bool.true_and,Bool.and_false,Bool.false_and,reduceIte])
   all_goals rfl
 rw[hs]
 exact⟨_,rfl,(aV.weaken j (le c.size d.size)),a⟩
 have a3:=ak f
 refine sg<|Pl 2<|nt<|cb ((M.code==5)) (fun k=>?_) (fun k=>?_)
 have ab:=ae k
 refine sg<|Pl 1<|L0<|aP g 2<|Pl 1<|L0<|aP g 4<|L0<|cO (m:=2) (e:=24) #[.int .u16 M.addr,.int .u16 M.value] fun b0 b1 ac ad F=>?_
 have af:=dh ac (xs:=[M.addr,M.value]) (by as_aux_lemma=>kernel_rfl) (al (by omega) (al (by omega) aJ)) (by(try simp only[List.length_cons,List.length_nil]);omega) ad
 refine L0<|Oc<|dk (ek (xs:=[M.addr,M.value]) (af).rd (by(try simp only[List.length_append,List.length_cons,List.length_nil]);omega)) fun ag ah b2 ai b3 b4 aj=>Pl 1<|nt<|rt<|br<|tr<|rr (.slice ag ((aF ([M.addr,M.value])).length) ah)<|?_
 have hs:d9 dir M=(aF ([M.addr,M.value])):=by
   unfold d9
   (try simp only[b,f,k,bs,if_true,if_false,decide_true,decide_false,Bool.or_true,Bool.true_or,Bool.or_false,Bool.false_or,Bool.and_true,Bool.true_and,Bool.and_false,Bool.false_and,reduceIte])
   all_goals rfl
 rw[hs]
 exact⟨_,rfl,(aV.weaken ai (le (le (le c.size d.size) r.size) F.size)),(aG a (aG F aj))⟩
 have ab:=ak k
 refine sg<|Pl 2<|nt<|cb ((M.code==15)) (fun l=>?_) (fun l=>?_)
 have an:=ae l
 refine sg<|Pl 2<|nt<|cb ((dir==0)) (fun p=>?_) (fun p=>?_)
 have ao:=ae p
 refine sg<|Pl 1<|L0<|aP g 13<|?_
 refine L0<|Oc<|dk (uN (gQ.old hbt a) (by omega)) fun b5 b6 b7 G b8 b9 y=>?_
 have ba:(bO M.bits).length≤1024:=by simp only[bO,List.length_map,List.length_range,dL];omega
 refine Pl 1<|ng<|Pl 4<|L0<|cO (m:=1) (e:=5) #[.int .u8 ((((bO M.bits).length:Nat) : Int)%256)] fun bb bc ap ar s=>?_
 have au:=cN ap (xs:=[((((bO M.bits).length:Nat) : Int)%256)]) (by as_aux_lemma=>kernel_rfl) (al (by omega) aJ) (by(try simp only[List.length_cons,List.length_nil]);omega) ar
 have H:=aG y s
 refine L0<|bG aX (xs:=(aF ([M.addr,M.count]))) (ys:=([((((bO M.bits).length:Nat) : Int)%256)])) (.int .u8 0) 1 (aq j H (fun x hx=>aA) (fun _ _ h=>h)) (au).rd (by(try simp only[List.length_append,List.length_cons,List.length_nil,ay]);omega) (le (le r.size y.size) s.size) fun I bd be J z=>Pl 1<|?_
 refine L0<|bG aX (xs:=((aF ([M.addr,M.count]))++[((((bO M.bits).length:Nat) : Int)%256)])) (ys:=(bO M.bits)) (.int .u8 0) 1 J ((aq G (ut (aE.mono (S':=(ob i++[])) s av) z (am il av)) (fun x hx=>(bf ((fx G j lr) x hx) aA)) (fun _ _ h=>h))).rd (by(try simp only[List.length_append,List.length_cons,List.length_nil,ay]);omega) (le (le (le r.size y.size) s.size) z.size) fun aw ax bg az aB=>Pl 1<|nt<|rt<|br<|tr<|rr (.slice aw ((((aF ([M.addr,M.count]))++[((((bO M.bits).length:Nat) : Int)%256)])++(bO M.bits)).length) ax)<|?_
 have hs:d9 dir M=(((aF ([M.addr,M.count]))++[((((bO M.bits).length:Nat) : Int)%256)])++(bO M.bits)):=by
   unfold d9
   (try simp only[b,f,k,l,p,bs,if_true,if_false,decide_true,decide_false,Bool.or_true,Bool.true_or,Bool.or_false,Bool.false_or,Bool.and_true,Bool.true_and,Bool.and_false,Bool.false_and,reduceIte])
   all_goals rfl
 rw[hs]
 exact⟨_,rfl,(aV.weaken az (le c.size d.size)),(ut a (ut (aE.mono (S':=(ob i++(ob I++[]))) H av) (ut (aE.mono (S':=(ob i++(ob I++[]))) z (am il av)) aB (am il av)) (am il (am il av))) (am (aM j (le c.size d.size)) (am (aM J (le c.size d.size)) av)))⟩
 have ao:=ak p
 refine sk<|bn<|tn<|sg<|Pl 2<|nt<|rt<|rr (.slice i ((aF ([M.addr,M.count])).length) q)<|?_
 have hs:d9 dir M=(aF ([M.addr,M.count])):=by
   unfold d9
   (try simp only[b,f,k,l,p,bs,if_true,if_false,decide_true,decide_false,Bool.or_true,Bool.true_or,Bool.or_false,Bool.false_or,Bool.and_true,Bool.true_and,Bool.and_false,Bool.false_and,reduceIte])
   all_goals rfl
 rw[hs]
 exact⟨_,rfl,(aV.weaken j (le c.size d.size)),a⟩
 have an:=ak l
 refine sk<|bn<|tn<|sg<|Pl 2<|nt<|rt<|rr (.slice i ((aF ([M.addr,M.count])).length) q)<|?_
 have hs:d9 dir M=(aF ([M.addr,M.count])):=by
   unfold d9
   (try simp only[b,f,k,l,bs,if_true,if_false,decide_true,decide_false,Bool.or_true,Bool.true_or,Bool.or_false,Bool.false_or,Bool.and_true,Bool.true_and,Bool.and_false,Bool.false_and,reduceIte])
   all_goals rfl
 rw[hs]
 exact⟨_,rfl,(aV.weaken j (le c.size d.size)),a⟩
theorem qt{m:Md}{cs:Array Value}{M:aQ}{w:World}{dir:Int}(h:aO m w cs.toList M)(hf:bU M) : Calls Tryz.prog 168 #[.int .i64 dir,.agg cs] w (fy (dS dir M) w):=by
 obtain⟨vw,vb,vd,vr,vo,h0,hw,hbt,hd,hr,ho,hR⟩:=h
 obtain rfl:cs=(bu M vw vb vd vr vo).toArray:=by apply Array.toList_inj.1;simpa using h0
 clear h0
 obtain⟨Aw,kw,rfl,_,_⟩:=hw.shape
 obtain⟨Ab,kb,rfl,_,_⟩:=hbt.shape
 obtain⟨Ad,kd,rfl,_,_⟩:=hd.shape
 obtain⟨Ar,kr,rfl,_,_⟩:=hr.shape
 obtain⟨Ao,ko,rfl,_,_⟩:=ho.shape
 obtain⟨q0,q1,q2,q3,q4,q5,q6,q7,q8,q9,a9,aa,ab,ac,ad,af,ag⟩:=hR
 simp only[B8,dF] at q0 q1 q2 q3 q4 q5 q6 q7 q8 q9 a9 aa ab ac ad af ag
 have hf1:=hf.words
 have hf2:=hf.bits
 have hf3:=hf.data
 have hf4:=hf.recs
 have hf5:=hf.objects
 refine en 63 Tryz.func168 rfl<|sg<|L0<|dC (mG M.code M.fail M.addr M.count M.value M.and_ M.or_ M.addr2 M.sub M.status M.events M.messages (.slice Aw M.words.length kw) (.slice Ab M.bits.length kb) (.slice Ad M.data.length kd) (.slice Ar M.recs.length kr) M.mei M.kind M.level M.more M.next (.slice Ao M.objects.length ko)) fun C bN bO b a=>Pl 1<|nt<|sq<|sg<|Pl 1<|L0<|aP b 0<|Pl 1<|nl<|?_
 refine tn<|cb ((M.code==8)) (fun d=>?_) (fun d=>?_)
 have ai:=ae d
 refine sg<|Pl 1<|L0<|aP b 8<|L0<|cO (m:=1) (e:=24) #[.int .u16 M.sub] fun bP bQ aj an D=>?_
 have P:=dh aj (xs:=[M.sub]) (by as_aux_lemma=>kernel_rfl) (al (by omega) aJ) (by(try simp only[List.length_cons,List.length_nil]);omega) an
 refine Pl 1<|?_
 refine L0<|aP (ub D b) 12<|?_
 have Q:=aG a D
 refine L0<|bG mz (xs:=([M.sub])) (ys:=M.words) (.int .u16 0) 2 P (dN.old hw Q) (by(try simp only[List.length_append,List.length_cons,List.length_nil,ay]);omega) D.size fun bR bS bT ao R=>L0<|Oc<|dk (ek (xs:=([M.sub]++M.words)) (ao).rd (by(try simp only[List.length_append,List.length_cons,List.length_nil]);omega)) fun ap ar bV aw bW bX ax=>Pl 1<|nt<|rt<|tr<|rr (.slice ap ((aF ([M.sub]++M.words)).length) ar)<|?_
 have hs:dS dir M=(aF ([M.sub]++M.words)):=by
   unfold dS
   (try simp only[d,bs,if_true,if_false,decide_true,decide_false,Bool.or_true,Bool.true_or,Bool.or_false,Bool.false_or,Bool.and_true,Bool.true_and,Bool.and_false,Bool.false_and,reduceIte])
   all_goals rfl
 rw[hs]
 exact⟨_,rfl,(aV.weaken aw (le (le a.size D.size) R.size)),(ut Q (aG R ax) (am (aM P a.size) av))⟩
 have ai:=ak d
 refine bp<|sq<|sg<|Pl 2<|nt<|cb ((dir==0)) (fun g=>?_) (fun g=>?_)
 have az:=ae g
 refine sg<|Pl 1<|nt<|rt<|tr<|rr (.slice none 0 0)<|?_
 have hs:dS dir M=[]:=by
   unfold dS
   (try simp only[d,g,bs,if_true,if_false,decide_true,decide_false,Bool.or_true,Bool.true_or,Bool.or_false,Bool.false_or,Bool.and_true,Bool.true_and,Bool.and_false,Bool.false_and,reduceIte])
   all_goals rfl
 rw[hs]
 exact⟨_,rfl,(aV.nil ..),a⟩
 have az:=ak g
 refine bp<|sq<|sg<|Pl 1<|L0<|aP b 0<|nt<|bk<|sg<|Pl 2<|nl<|?_
 refine tn<|cb ((M.code==7)) (fun i=>?_) (fun i=>?_)
 have aC:=ae i
 refine sg<|Pl 1<|L0<|aP b 4<|Pl 1<|L0<|cO (m:=1) (e:=5) #[.int .u8 (M.value%256)] fun aD bY aH aI aK=>?_
 have aL:=cN aH (xs:=[(M.value%256)]) (by as_aux_lemma=>kernel_rfl) (al (by omega) aJ) (by(try simp only[List.length_cons,List.length_nil]);omega) aI
 refine Pl 1<|nt<|rt<|br<|tr<|rr (.slice (some ⟨aD,0,none⟩) 1 1)<|?_
 have hs:dS dir M=[(M.value%256)]:=by
   unfold dS
   (try simp only[d,g,i,bs,if_true,if_false,decide_true,decide_false,Bool.or_true,Bool.true_or,Bool.or_false,Bool.false_or,Bool.and_true,Bool.true_and,Bool.and_false,Bool.false_and,reduceIte])
   all_goals rfl
 rw[hs]
 exact⟨_,rfl,(aV.weaken aL a.size),(aG a aK)⟩
 have aC:=ak i
 refine sg<|Pl 2<|nt<|cb ((M.code==11)) (fun k=>?_) (fun k=>?_)
 have aN:=ae k
 refine sg<|Pl 1<|L0<|aP b 9<|Pl 1<|L0<|aP b 10<|L0<|cO (m:=2) (e:=24) #[.int .u16 M.status,.int .u16 M.events] fun bZ c0 aR aS S=>?_
 have aT:=dh aR (xs:=[M.status,M.events]) (by as_aux_lemma=>kernel_rfl) (al (by omega) (al (by omega) aJ)) (by(try simp only[List.length_cons,List.length_nil]);omega) aS
 refine L0<|Oc<|dk (ek (xs:=[M.status,M.events]) (aT).rd (by(try simp only[List.length_append,List.length_cons,List.length_nil]);omega)) fun aU aW c1 aY c2 c3 aZ=>Pl 1<|nt<|rt<|br<|tr<|rr (.slice aU ((aF ([M.status,M.events])).length) aW)<|?_
 have hs:dS dir M=(aF ([M.status,M.events])):=by
   unfold dS
   (try simp only[d,g,i,k,bs,if_true,if_false,decide_true,decide_false,Bool.or_true,Bool.true_or,Bool.or_false,Bool.false_or,Bool.and_true,Bool.true_and,Bool.and_false,Bool.false_and,reduceIte])
   all_goals rfl
 rw[hs]
 exact⟨_,rfl,(aV.weaken aY (le a.size S.size)),(aG a (aG S aZ))⟩
 have aN:=ak k
 refine sg<|Pl 2<|nt<|cb ((M.code==12)) (fun l=>?_) (fun l=>?_)
 have b0:=ae l
 refine sq<|Rg 16 (fun w'=>w'.cell? ⟨C,14,none⟩=some (.slice Ad M.data.length kd)∧w'.cell? ⟨C,9,none⟩=some (.int .u16 M.status)∧w'.cell? ⟨C,10,none⟩=some (.int .u16 M.events)∧w'.cell? ⟨C,11,none⟩=some (.int .u16 M.messages)) fun c4 c=>?_
 have n:=ub c b
 refine bi ⟨(ah n rfl),(ah n rfl),(ah n rfl),(ah n rfl)⟩ fun f=>Rt 0 f<|Rl 1 f (fun _ hs=>hs.1)<|Rt 2 f<|Rr 3 f (.int .i64 (((M.data.length:Nat) : Int)+6)) (fun _ _=>cP (.int .i64 (IntKind.i64.wrap (((M.data.length:Nat) : Int)+6))) (by kernel_rfl) (congrArg (Value.int .i64) (IntWalk.i64_in _ (by omega))))<|Rt 4 f<|Rt 6 f<|Rl 7 f (fun _ hs=>hs.2.1)<|Rt 8 f<|Rl 9 f (fun _ hs=>hs.2.2.1)<|Rt 10 f<|Rl 11 f (fun _ hs=>hs.2.2.2)<|?_
 refine R2 5 12 rfl rfl ?_ ?_
 refine  cO (m:=1) (e:=5) #[.int .u8 ((((M.data.length:Nat) : Int)+6)%256)] fun b1 c5 b2 b3 H=>?_
 have I:=cN b2 (xs:=[((((M.data.length:Nat) : Int)+6)%256)]) (by as_aux_lemma=>kernel_rfl) (al (by omega) aJ) (by(try simp only[List.length_cons,List.length_nil]);omega) b3
 have p:=ub H n
 refine bi ⟨(ah p rfl),(ah p rfl),(ah p rfl),(ah p rfl)⟩ fun c6=>R0 12 rfl<|cO (m:=3) (e:=24) #[.int .u16 M.status,.int .u16 M.events,.int .u16 M.messages] fun c7 c8 b4 b5 J=>?_
 have b6:=dh b4 (xs:=[M.status,M.events,M.messages]) (by as_aux_lemma=>kernel_rfl) (al (by omega) (al (by omega) (al (by omega) aJ))) (by(try simp only[List.length_cons,List.length_nil]);omega) b5
 have q:=ub J p
 refine bi ⟨(ah q rfl),(ah q rfl),(ah q rfl),(ah q rfl)⟩ fun c9=>R0 13 rfl<|Oc<|dk (ek (xs:=[M.status,M.events,M.messages]) (b6).rd (by(try simp only[List.length_append,List.length_cons,List.length_nil]);omega)) fun ca cc cd b7 ce cf K=>?_
 have r:=ub K q
 refine bi ⟨(ah r rfl),(ah r rfl),(ah r rfl),(ah r rfl)⟩ fun cg=>?_
 have T:=aG J K
 refine R0 14 rfl<|bG aX (xs:=([((((M.data.length:Nat) : Int)+6)%256)])) (ys:=(aF ([M.status,M.events,M.messages]))) (.int .u8 0) 1 (aq I T (fun x hx=>aA) (fun _ _ h=>h)) (b7).rd (by(try simp only[List.length_append,List.length_cons,List.length_nil,ay]);omega) (le (le H.size J.size) K.size) fun ch ci cj U V=>?_
 have s:=aE.blk V (bf (aB (au b) c.size I) aA) r
 refine bi ⟨(ah s rfl),(ah s rfl),(ah s rfl),(ah s rfl)⟩ fun b8=>Rt 15 b8<|re<|tn<|sg<|Pl 2<|L0<|aP s 14<|?_
 have W:=ut H (ut (aE.mono (S':=(ob (some ⟨b1,0,none⟩)++[])) T av) V (am il av)) (am (aM I lr) av)
 have X:=aG a (aG c W)
 refine L0<|bG aX (xs:=([((((M.data.length:Nat) : Int)+6)%256)]++(aF ([M.status,M.events,M.messages])))) (ys:=M.data) (.int .u8 0) 1 U (bo.old hd X) (by(try simp only[List.length_append,List.length_cons,List.length_nil,ay]);omega) W.size fun b9 ba ck bb bc=>Pl 1<|nt<|rt<|br<|tr<|rr (.slice b9 ((([((((M.data.length:Nat) : Int)+6)%256)]++(aF ([M.status,M.events,M.messages])))++M.data).length) ba)<|?_
 have hs:dS dir M=(([((((M.data.length:Nat) : Int)+6)%256)]++(aF ([M.status,M.events,M.messages])))++M.data):=by
   unfold dS
   (try simp only[d,g,i,k,l,bs,if_true,if_false,decide_true,decide_false,Bool.or_true,Bool.true_or,Bool.or_false,Bool.false_or,Bool.and_true,Bool.true_and,Bool.and_false,Bool.false_and,reduceIte])
   all_goals rfl
 rw[hs]
 exact⟨_,rfl,(aV.weaken bb (le a.size c.size)),(ut X bc (am (aM U (le a.size c.size)) av))⟩
 refine  cO (m:=3) (e:=24) #[.int .u16 M.status,.int .u16 M.events,.int .u16 M.messages] fun cl cm bd be j=>?_
 have Y:=dh bd (xs:=[M.status,M.events,M.messages]) (by as_aux_lemma=>kernel_rfl) (al (by omega) (al (by omega) (al (by omega) aJ))) (by(try simp only[List.length_cons,List.length_nil]);omega) be
 have o:=ub j n
 refine bi ⟨(ah o rfl),(ah o rfl),(ah o rfl),(ah o rfl)⟩ fun cn=>?_
 refine R2 5 13 rfl rfl ?_ ?_
 refine  cO (m:=1) (e:=5) #[.int .u8 ((((M.data.length:Nat) : Int)+6)%256)] fun bg co bh bj E=>?_
 have L:=cN bh (xs:=[((((M.data.length:Nat) : Int)+6)%256)]) (by as_aux_lemma=>kernel_rfl) (al (by omega) aJ) (by(try simp only[List.length_cons,List.length_nil]);omega) bj
 have t:=ub E o
 refine bi ⟨(ah t rfl),(ah t rfl),(ah t rfl),(ah t rfl)⟩ fun cp=>?_
 refine R0 13 rfl<|Oc<|dk (ek (xs:=[M.status,M.events,M.messages]) ((aq Y E (fun x hx=>aA) (fun _ _ h=>h))).rd (by(try simp only[List.length_append,List.length_cons,List.length_nil]);omega)) fun cq cr ct bl cu cv F=>?_
 have u:=ub F t
 refine bi ⟨(ah u rfl),(ah u rfl),(ah u rfl),(ah u rfl)⟩ fun cw=>?_
 refine R0 14 rfl<|bG aX (xs:=([((((M.data.length:Nat) : Int)+6)%256)])) (ys:=(aF ([M.status,M.events,M.messages]))) (.int .u8 0) 1 (aq L F (fun x hx=>aA) (fun _ _ h=>h)) (bl).rd (by(try simp only[List.length_append,List.length_cons,List.length_nil,ay]);omega) (le E.size F.size) fun cx cy cz Z a0=>?_
 have v:=aE.blk a0 (bf (aB (au b) (le c.size j.size) L) aA) u
 refine bi ⟨(ah v rfl),(ah v rfl),(ah v rfl),(ah v rfl)⟩ fun bm=>Rt 15 bm<|re<|tn<|sg<|Pl 2<|L0<|aP v 14<|?_
 have a1:=ut E (ut (aE.mono (S':=(ob (some ⟨bg,0,none⟩)++[])) F av) a0 (am il av)) (am (aM L lr) av)
 have a2:=aG a (aG c (aG j a1))
 refine L0<|bG aX (xs:=([((((M.data.length:Nat) : Int)+6)%256)]++(aF ([M.status,M.events,M.messages])))) (ys:=M.data) (.int .u8 0) 1 Z (bo.old hd a2) (by(try simp only[List.length_append,List.length_cons,List.length_nil,ay]);omega) a1.size fun bq bt cA bv bw=>Pl 1<|nt<|rt<|br<|tr<|rr (.slice bq ((([((((M.data.length:Nat) : Int)+6)%256)]++(aF ([M.status,M.events,M.messages])))++M.data).length) bt)<|?_
 have hs:dS dir M=(([((((M.data.length:Nat) : Int)+6)%256)]++(aF ([M.status,M.events,M.messages])))++M.data):=by
   unfold dS
   (try simp only[d,g,i,k,l,bs,if_true,if_false,decide_true,decide_false,Bool.or_true,Bool.true_or,Bool.or_false,Bool.false_or,Bool.and_true,Bool.true_and,Bool.and_false,Bool.false_and,reduceIte])
   all_goals rfl
 rw[hs]
 exact⟨_,rfl,(aV.weaken bv (le (le a.size c.size) j.size)),(ut a2 bw (am (aM Z (le (le a.size c.size) j.size)) av))⟩
 refine  Oc<|dk (ek (xs:=[M.status,M.events,M.messages]) (Y).rd (by(try simp only[List.length_append,List.length_cons,List.length_nil]);omega)) fun cB cC cD bx cE cF y=>?_
 have z:=ub y o
 refine bi ⟨(ah z rfl),(ah z rfl),(ah z rfl),(ah z rfl)⟩ fun cG=>R0 5 rfl<|cO (m:=1) (e:=5) #[.int .u8 ((((M.data.length:Nat) : Int)+6)%256)] fun cH cI bz bA G=>?_
 have N:=cN bz (xs:=[((((M.data.length:Nat) : Int)+6)%256)]) (by as_aux_lemma=>kernel_rfl) (al (by omega) aJ) (by(try simp only[List.length_cons,List.length_nil]);omega) bA
 have A:=ub G z
 refine bi ⟨(ah A rfl),(ah A rfl),(ah A rfl),(ah A rfl)⟩ fun cJ=>?_
 refine R0 14 rfl<|bG aX (xs:=([((((M.data.length:Nat) : Int)+6)%256)])) (ys:=(aF ([M.status,M.events,M.messages]))) (.int .u8 0) 1 N ((aq bx G (fun x hx=>aA) (fun _ _ h=>h))).rd (by(try simp only[List.length_append,List.length_cons,List.length_nil,ay]);omega) G.size fun cK cL cM a3 a4=>?_
 have B:=aE.blk a4 (bf (aB (au b) (le (le c.size j.size) y.size) N) aA) A
 refine bi ⟨(ah B rfl),(ah B rfl),(ah B rfl),(ah B rfl)⟩ fun bB=>Rt 15 bB<|re<|tn<|sg<|Pl 2<|L0<|aP B 14<|?_
 have a5:=ut G a4 (am (aM N lr) av)
 have a6:=aG a (aG c (aG j (aG y a5)))
 refine L0<|bG aX (xs:=([((((M.data.length:Nat) : Int)+6)%256)]++(aF ([M.status,M.events,M.messages])))) (ys:=M.data) (.int .u8 0) 1 a3 (bo.old hd a6) (by(try simp only[List.length_append,List.length_cons,List.length_nil,ay]);omega) a5.size fun bC bD cQ bE bF=>Pl 1<|nt<|rt<|br<|tr<|rr (.slice bC ((([((((M.data.length:Nat) : Int)+6)%256)]++(aF ([M.status,M.events,M.messages])))++M.data).length) bD)<|?_
 have hs:dS dir M=(([((((M.data.length:Nat) : Int)+6)%256)]++(aF ([M.status,M.events,M.messages])))++M.data):=by
   unfold dS
   (try simp only[d,g,i,k,l,bs,if_true,if_false,decide_true,decide_false,Bool.or_true,Bool.true_or,Bool.or_false,Bool.false_or,Bool.and_true,Bool.true_and,Bool.and_false,Bool.false_and,reduceIte])
   all_goals rfl
 rw[hs]
 exact⟨_,rfl,(aV.weaken bE (le (le (le a.size c.size) j.size) y.size)),(ut a6 bF (am (aM a3 (le (le (le a.size c.size) j.size) y.size)) av))⟩
 have b0:=ak l
 refine sk<|bn<|tn<|sg<|Pl 1<|L0<|aP b 14<|Pl 2<|L0<|cO (m:=1) (e:=5) #[.int .u8 (((M.data.length:Nat) : Int)%256)] fun cR cS bH bI O=>?_
 have a7:=cN bH (xs:=[(((M.data.length:Nat) : Int)%256)]) (by as_aux_lemma=>kernel_rfl) (al (by omega) aJ) (by(try simp only[List.length_cons,List.length_nil]);omega) bI
 refine Pl 1<|?_
 refine L0<|aP (ub O b) 14<|?_
 have a8:=aG a O
 refine L0<|bG aX (xs:=([(((M.data.length:Nat) : Int)%256)])) (ys:=M.data) (.int .u8 0) 1 a7 (bo.old hd a8) (by(try simp only[List.length_append,List.length_cons,List.length_nil,ay]);omega) O.size fun bJ bK cT bL bM=>Pl 1<|nt<|rt<|rr (.slice bJ (([(((M.data.length:Nat) : Int)%256)]++M.data).length) bK)<|?_
 have hs:dS dir M=([(((M.data.length:Nat) : Int)%256)]++M.data):=by
   unfold dS
   (try simp only[d,g,i,k,l,bs,if_true,if_false,decide_true,decide_false,Bool.or_true,Bool.true_or,Bool.or_false,Bool.false_or,Bool.and_true,Bool.true_and,Bool.and_false,Bool.false_and,reduceIte])
   all_goals rfl
 rw[hs]
 exact⟨_,rfl,(aV.weaken bL a.size),(ut a8 bM (am (aM a7 a.size) av))⟩
theorem nF{m:Md}{cs:Array Value}{M:aQ}{w:World}{dir:Int}(h:aO m w cs.toList M)(hf:bU M)(ew:(dir==1)=true)(hd0:(dir==0)=false) : Calls Tryz.prog 167 #[.int .i64 dir,.agg cs] w (fy (bZ dir M) w):=by
 obtain⟨vw,vb,vd,vr,vo,h0,hw,hbt,hd,hr,ho,hR⟩:=h
 obtain rfl:cs=(bu M vw vb vd vr vo).toArray:=by apply Array.toList_inj.1;simpa using h0
 clear h0
 obtain⟨Aw,kw,rfl,_,_⟩:=hw.shape
 obtain⟨Ab,kb,rfl,_,_⟩:=hbt.shape
 obtain⟨Ad,kd,rfl,_,_⟩:=hd.shape
 obtain⟨Ar,kr,rfl,_,_⟩:=hr.shape
 obtain⟨Ao,ko,rfl,_,_⟩:=ho.shape
 obtain⟨q0,q1,q2,q3,q4,q5,q6,q7,q8,q9,Y,Z,a0,a1,a2,a3,a4⟩:=hR
 simp only[B8,dF] at q0 q1 q2 q3 q4 q5 q6 q7 q8 q9 Y Z a0 a1 a2 a3 a4
 have hf1:=hf.words
 have hf2:=hf.bits
 have hf3:=hf.data
 have hf4:=hf.recs
 have hf5:=hf.objects
 refine en 137 Tryz.func167 rfl<|sg<|L0<|dC (mG M.code M.fail M.addr M.count M.value M.and_ M.or_ M.addr2 M.sub M.status M.events M.messages (.slice Aw M.words.length kw) (.slice Ab M.bits.length kb) (.slice Ad M.data.length kd) (.slice Ar M.recs.length kr) M.mei M.kind M.level M.more M.next (.slice Ao M.objects.length ko)) fun bo bq bt E p=>Pl 1<|ng<|Pl 1<|L0<|aP E 12<|?_
 refine L0<|Oc<|dk (ek (xs:=M.words) (dN.old hw p) (by(try simp only[List.length_append,List.length_cons,List.length_nil]);omega)) fun bv bw bx v bz bA q=>Pl 1<|ng<|Pl 1<|?_
 have a:=ub q E
 refine L0<|aP a 12<|Pl 2<|ng<|Pl 1<|ng<|Pl 1<|nt<|?_
 refine sq<|bk<|sg<|Pl 3<|sy 19 ew<|Pl 1<|L1<|aP a 0<|Pl 2<|cu 4 [23] 27 (((M.code==3)||(M.code==4))) (fun K F=>?_) ?_
 refine bl 23 ((M.code==3)) (fun r=>?_) (fun r=>?_)
 have a5:=ae r
 exact Pl 4<|ce F true (by rw[r];rfl)
 have a5:=ak r
 exact Pl 1<|L1<|aP a 0<|Pl 2<|ce F (M.code==4) (by rw[r];rfl)
 refine Pl 1<|cu 4 [28] 32 ((((M.code==3)||(M.code==4))||(M.code==23))) (fun K G=>?_) ?_
 refine bl 28 (((M.code==3)||(M.code==4))) (fun s=>?_) (fun s=>?_)
 exact Pl 4<|ce G true (by rw[s];rfl)
 have a6:=(aI s).1
 have a7:=(aI s).2
 have bB:=ak a6
 have bC:=ak a7
 exact Pl 1<|L1<|aP a 0<|Pl 2<|ce G (M.code==23) (by rw[s];rfl)
 refine Pl 2<|nt<|?_
 have j:=aG p q
 refine cb ((((M.code==3)||(M.code==4))||(M.code==23))) (fun g=>?_) (fun g=>?_)
 refine sk<|bn<|tn<|sg<|Pl 1<|L0<|Oc<|dk (ek (xs:=[]) (aS.nil true _ _ _ _) (by(try simp only[List.length_append,List.length_cons,List.length_nil]);omega)) fun a8 bD bE H bF bH I=>Pl 1<|nt<|sq<|sg<|Pl 1<|nl<|?_
 refine tn<|c1<|go<|Pl 2<|L0<|Oi (2*((M.words.length:Nat) : Int))<|Pl 1<|L0<|cO (m:=1) (e:=5) #[.int .u8 ((2*((M.words.length:Nat) : Int))%256)] fun bI bJ a9 aa y=>?_
 have ab:=cN a9 (xs:=[((2*((M.words.length:Nat) : Int))%256)]) (by as_aux_lemma=>kernel_rfl) (al (by omega) aJ) (by(try simp only[List.length_cons,List.length_nil]);omega) aa
 refine L0<|bG aX (xs:=(aF ([]))) (ys:=([((2*((M.words.length:Nat) : Int))%256)])) (.int .u8 0) 1 (aq H y (fun x hx=>aA) (fun _ _ h=>h)) (ab).rd (by(try simp only[List.length_append,List.length_cons,List.length_nil,ay]);omega) (le I.size y.size) fun bK bL bM J ac=>Pl 1<|ng<|Pl 2<|?_
 have z:=ut I (ut (aE.mono (S':=(ob a8++[])) y av) ac (am il av)) (am (aM H lr) av)
 refine L0<|bG aX (xs:=((aF ([]))++[((2*((M.words.length:Nat) : Int))%256)])) (ys:=(aF M.words)) (.int .u8 0) 1 J ((aq v z (fun x hx=>aA) (fun _ _ h=>h))).rd (by(try simp only[List.length_append,List.length_cons,List.length_nil,ay]);omega) z.size fun ad af bN ag ah=>Pl 1<|nt<|rt<|rr (.slice ad ((((aF ([]))++[((2*((M.words.length:Nat) : Int))%256)])++(aF M.words)).length) af)<|?_
 have hs:bZ dir M=(((aF ([]))++[((2*((M.words.length:Nat) : Int))%256)])++(aF M.words)):=by
   unfold bZ
   (try simp only[ew,hd0,g,bs,if_true,if_false,decide_true,decide_false,Bool.or_true,Bool.true_or,Bool.or_false,Bool.false_or,Bool.and_true,Bool.true_and,Bool.and_false,Bool.false_and,reduceIte])
   all_goals rfl
 rw[hs]
 exact⟨_,rfl,(aV.weaken ag j.size),(aG j (ut z ah (am (aM J lr) av)))⟩
 have k:=(aI g).1
 have l:=(aI g).2
 have n:=(aI k).1
 have o:=(aI k).2
 have q31aap:=ak n
 have q31abp:=ak o
 have bO:=ak l
 refine sg<|Pl 1<|L0<|aP a 0<|Pl 2<|sy 38 n<|Pl 1<|L1<|aP a 0<|Pl 3<|sy 43 o<|Pl 1<|L1<|aP a 0<|Pl 2<|cu 3 [47] 50 (((M.code==16)&&(dir==1))) (fun K L=>?_) ?_
 refine bl 47 ((M.code==16)) (fun t=>?_) (fun t=>?_)
 have ai:=ae t
 exact Pl 3<|ce L (dir==1) (by rw[t];rfl)
 have ai:=ak t
 exact Pl 3<|ce L false (by rw[t];rfl)
 refine Pl 2<|nt<|cb (((M.code==16)&&(dir==1))) (fun i=>?_) (fun i=>?_)
 have b:=(b6 i).1
 have N:=(b6 i).2
 have aj:=ae b
 have bP:=ae N
 refine sg<|Pl 1<|L0<|aP a 2<|Pl 1<|L0<|aP a 3<|L0<|cO (m:=2) (e:=24) #[.int .u16 M.addr,.int .u16 M.count] fun bQ bR an ao O=>?_
 have ap:=dh an (xs:=[M.addr,M.count]) (by as_aux_lemma=>kernel_rfl) (al (by omega) (al (by omega) aJ)) (by(try simp only[List.length_cons,List.length_nil]);omega) ao
 refine L0<|Oc<|dk (ek (xs:=[M.addr,M.count]) (ap).rd (by(try simp only[List.length_append,List.length_cons,List.length_nil]);omega)) fun ar au bS aw bT bV ax=>Pl 1<|nt<|rt<|br<|tr<|rr (.slice ar ((aF ([M.addr,M.count])).length) au)<|?_
 have hs:bZ dir M=(aF ([M.addr,M.count])):=by
   unfold bZ
   (try simp only[show(M.code==3)=false from(by rw[ae b];rfl),show(M.code==4)=false from(by rw[ae b];rfl),show(M.code==6)=false from(by rw[ae b];rfl),show(M.code==22)=false from(by rw[ae b];rfl),show(M.code==23)=false from(by rw[ae b];rfl),show(M.code==24)=false from(by rw[ae b];rfl),N,hd0,g,k,n,o,l,i,b,bs,if_true,if_false,decide_true,decide_false,Bool.or_true,Bool.true_or,Bool.or_false,Bool.false_or,Bool.and_true,Bool.true_and,Bool.and_false,Bool.false_and,reduceIte])
   all_goals rfl
 rw[hs]
 exact⟨_,rfl,(aV.weaken aw (le (le p.size q.size) O.size)),(aG j (aG O ax))⟩
 have b:(M.code==16)=false:=by simpa only[ew,bs] using i
 have aj:=ak b
 refine sg<|Pl 1<|L0<|aP a 0<|Pl 2<|nt<|cb ((M.code==6)) (fun c=>?_) (fun c=>?_)
 have az:=ae c
 refine sg<|Pl 1<|L0<|aP a 2<|Pl 1<|L0<|aP a 4<|L0<|cO (m:=2) (e:=24) #[.int .u16 M.addr,.int .u16 M.value] fun bW bX aB aC P=>?_
 have aD:=dh aB (xs:=[M.addr,M.value]) (by as_aux_lemma=>kernel_rfl) (al (by omega) (al (by omega) aJ)) (by(try simp only[List.length_cons,List.length_nil]);omega) aC
 refine L0<|Oc<|dk (ek (xs:=[M.addr,M.value]) (aD).rd (by(try simp only[List.length_append,List.length_cons,List.length_nil]);omega)) fun aH aK bY aL c2 c3 aN=>Pl 1<|nt<|rt<|br<|tr<|rr (.slice aH ((aF ([M.addr,M.value])).length) aK)<|?_
 have hs:bZ dir M=(aF ([M.addr,M.value])):=by
   unfold bZ
   (try simp only[show(M.code==3)=false from(by rw[ae c];rfl),show(M.code==4)=false from(by rw[ae c];rfl),show(M.code==16)=false from(by rw[ae c];rfl),show(M.code==22)=false from(by rw[ae c];rfl),show(M.code==23)=false from(by rw[ae c];rfl),show(M.code==24)=false from(by rw[ae c];rfl),ew,hd0,g,k,n,o,l,i,b,c,bs,if_true,if_false,decide_true,decide_false,Bool.or_true,Bool.true_or,Bool.or_false,Bool.false_or,Bool.and_true,Bool.true_and,Bool.and_false,Bool.false_and,reduceIte])
   all_goals rfl
 rw[hs]
 exact⟨_,rfl,(aV.weaken aL (le (le p.size q.size) P.size)),(aG j (aG P aN))⟩
 have az:=ak c
 refine sg<|Pl 1<|L0<|aP a 0<|Pl 2<|nt<|cf b<|sg<|Pl 1<|L0<|aP a 0<|Pl 2<|nl<|?_
 refine tn<|cb ((M.code==22)) (fun d=>?_) (fun d=>?_)
 have aR:=ae d
 refine sg<|Pl 1<|L0<|aP a 2<|Pl 1<|L0<|aP a 5<|Pl 1<|L0<|aP a 6<|L0<|cO (m:=3) (e:=24) #[.int .u16 M.addr,.int .u16 M.and_,.int .u16 M.or_] fun c4 c5 aT aU Q=>?_
 have aW:=dh aT (xs:=[M.addr,M.and_,M.or_]) (by as_aux_lemma=>kernel_rfl) (al (by omega) (al (by omega) (al (by omega) aJ))) (by(try simp only[List.length_cons,List.length_nil]);omega) aU
 refine L0<|Oc<|dk (ek (xs:=[M.addr,M.and_,M.or_]) (aW).rd (by(try simp only[List.length_append,List.length_cons,List.length_nil]);omega)) fun aY aZ c6 b0 c7 c8 b1=>Pl 1<|nt<|rt<|br<|tr<|rr (.slice aY ((aF ([M.addr,M.and_,M.or_])).length) aZ)<|?_
 have hs:bZ dir M=(aF ([M.addr,M.and_,M.or_])):=by
   unfold bZ
   (try simp only[show(M.code==3)=false from(by rw[ae d];rfl),show(M.code==4)=false from(by rw[ae d];rfl),show(M.code==6)=false from(by rw[ae d];rfl),show(M.code==16)=false from(by rw[ae d];rfl),show(M.code==23)=false from(by rw[ae d];rfl),show(M.code==24)=false from(by rw[ae d];rfl),ew,hd0,g,k,n,o,l,i,b,c,d,bs,if_true,if_false,decide_true,decide_false,Bool.or_true,Bool.true_or,Bool.or_false,Bool.false_or,Bool.and_true,Bool.true_and,Bool.and_false,Bool.false_and,reduceIte])
   all_goals rfl
 rw[hs]
 exact⟨_,rfl,(aV.weaken b0 (le (le p.size q.size) Q.size)),(aG j (aG Q b1))⟩
 have aR:=ak d
 refine sg<|Pl 1<|L0<|aP a 0<|Pl 2<|nt<|cf l<|sg<|Pl 1<|L0<|aP a 0<|Pl 2<|cu 3 [106] 109 (((M.code==24)&&(dir==0))) (fun K R=>?_) ?_
 refine bl 106 ((M.code==24)) (fun u=>?_) (fun u=>?_)
 have b2:=ae u
 exact Pl 3<|ce R (dir==0) (by rw[u];rfl)
 have b2:=ak u
 exact Pl 3<|ce R false (by rw[u];rfl)
 refine Pl 1<|nt<|?_
 have A:((M.code==24)&&(dir==0))=false:=by simp only[hd0,bs]
 refine cf A<|sg<|Pl 1<|L0<|aP a 0<|Pl 2<|nt<|cb ((M.code==24)) (fun f=>?_) (fun f=>?_)
 have b3:=ae f
 refine sg<|Pl 1<|L0<|Oi (2*((M.words.length:Nat) : Int))<|L0<|Oi ((2*((M.words.length:Nat) : Int))+2)<|Pl 3<|L0<|cO (m:=2) (e:=24) #[.int .u16 (((2*((M.words.length:Nat) : Int))+2)%65536),.int .u16 (((M.words.length:Nat) : Int)%65536)] fun c9 ca b4 b5 B=>?_
 have b7:=dh b4 (xs:=[(((2*((M.words.length:Nat) : Int))+2)%65536),(((M.words.length:Nat) : Int)%65536)]) (by as_aux_lemma=>kernel_rfl) (al (by omega) (al (by omega) aJ)) (by(try simp only[List.length_cons,List.length_nil]);omega) b5
 refine Pl 1<|nt<|go<|Pl 1<|nl<|bn<|tn<|sg<|Pl 1<|L0<|Oc<|dk (ek (xs:=[(((2*((M.words.length:Nat) : Int))+2)%65536),(((M.words.length:Nat) : Int)%65536)]) (b7).rd (by(try simp only[List.length_append,List.length_cons,List.length_nil]);omega)) fun cc cd cg S ch ci T=>Pl 1<|nl<|?_
 refine tn<|sq<|sg<|Pl 1<|nt<|c0<|bp<|sg<|Pl 2<|?_
 have U:=aG B T
 refine L0<|bG aX (xs:=(aF ([(((2*((M.words.length:Nat) : Int))+2)%65536),(((M.words.length:Nat) : Int)%65536)]))) (ys:=(aF M.words)) (.int .u8 0) 1 S ((aq v U (fun x hx=>aA) (fun _ _ h=>h))).rd (by(try simp only[List.length_append,List.length_cons,List.length_nil,ay]);omega) T.size fun b8 b9 cj ba bb=>Pl 1<|nt<|rt<|rr (.slice b8 (((aF ([(((2*((M.words.length:Nat) : Int))+2)%65536),(((M.words.length:Nat) : Int)%65536)]))++(aF M.words)).length) b9)<|?_
 have hs:bZ dir M=((aF ([(((2*((M.words.length:Nat) : Int))+2)%65536),(((M.words.length:Nat) : Int)%65536)]))++(aF M.words)):=by
   unfold bZ
   (try simp only[show(M.code==3)=false from(by rw[ae f];rfl),show(M.code==4)=false from(by rw[ae f];rfl),show(M.code==6)=false from(by rw[ae f];rfl),show(M.code==16)=false from(by rw[ae f];rfl),show(M.code==22)=false from(by rw[ae f];rfl),show(M.code==23)=false from(by rw[ae f];rfl),ew,hd0,g,k,n,o,l,i,b,c,d,A,f,bs,if_true,if_false,decide_true,decide_false,Bool.or_true,Bool.true_or,Bool.or_false,Bool.false_or,Bool.and_true,Bool.true_and,Bool.and_false,Bool.false_and,reduceIte])
   all_goals rfl
 rw[hs]
 exact⟨_,rfl,(aV.weaken ba (le (le p.size q.size) B.size)),(aG j (ut U bb (am (aM S B.size) av)))⟩
 have b3:=ak f
 refine sk<|bn<|tn<|sg<|Pl 1<|L0<|Oc<|dk (ek (xs:=[]) (aS.nil true _ _ _ _) (by(try simp only[List.length_append,List.length_cons,List.length_nil]);omega)) fun bc ck cl V cm cn W=>Pl 1<|nt<|sq<|sg<|Pl 1<|nl<|?_
 refine tn<|c1<|go<|Pl 2<|L0<|Oi (2*((M.words.length:Nat) : Int))<|Pl 1<|L0<|cO (m:=1) (e:=5) #[.int .u8 ((2*((M.words.length:Nat) : Int))%256)] fun co cp bd be C=>?_
 have bf:=cN bd (xs:=[((2*((M.words.length:Nat) : Int))%256)]) (by as_aux_lemma=>kernel_rfl) (al (by omega) aJ) (by(try simp only[List.length_cons,List.length_nil]);omega) be
 refine L0<|bG aX (xs:=(aF ([]))) (ys:=([((2*((M.words.length:Nat) : Int))%256)])) (.int .u8 0) 1 (aq V C (fun x hx=>aA) (fun _ _ h=>h)) (bf).rd (by(try simp only[List.length_append,List.length_cons,List.length_nil,ay]);omega) (le W.size C.size) fun cq cr ct X bg=>Pl 1<|ng<|Pl 2<|?_
 have D:=ut W (ut (aE.mono (S':=(ob bc++[])) C av) bg (am il av)) (am (aM V lr) av)
 refine L0<|bG aX (xs:=((aF ([]))++[((2*((M.words.length:Nat) : Int))%256)])) (ys:=(aF M.words)) (.int .u8 0) 1 X ((aq v D (fun x hx=>aA) (fun _ _ h=>h))).rd (by(try simp only[List.length_append,List.length_cons,List.length_nil,ay]);omega) D.size fun bh bi cv bj bm=>Pl 1<|nt<|rt<|rr (.slice bh ((((aF ([]))++[((2*((M.words.length:Nat) : Int))%256)])++(aF M.words)).length) bi)<|?_
 have hs:bZ dir M=(((aF ([]))++[((2*((M.words.length:Nat) : Int))%256)])++(aF M.words)):=by
   unfold bZ
   (try simp only[ew,hd0,g,k,n,o,l,i,b,c,d,A,f,bs,if_true,if_false,decide_true,decide_false,Bool.or_true,Bool.true_or,Bool.or_false,Bool.false_or,Bool.and_true,Bool.true_and,Bool.and_false,Bool.false_and,reduceIte])
   all_goals rfl
 rw[hs]
 exact⟨_,rfl,(aV.weaken bj j.size),(aG j (ut D bm (am (aM X lr) av)))⟩
theorem nI{m:Md}{cs:Array Value}{M:aQ}{w:World}{dir:Int}(h:aO m w cs.toList M)(hf:bU M)(ew:(dir==1)=false)(hd0:(dir==0)=true) : Calls Tryz.prog 167 #[.int .i64 dir,.agg cs] w (fy (bZ dir M) w):=by
 obtain⟨vw,vb,vd,vr,vo,h0,hw,hbt,hd,hr,ho,hR⟩:=h
 obtain rfl:cs=(bu M vw vb vd vr vo).toArray:=by apply Array.toList_inj.1;simpa using h0
 clear h0
 obtain⟨Aw,kw,rfl,_,_⟩:=hw.shape
 obtain⟨Ab,kb,rfl,_,_⟩:=hbt.shape
 obtain⟨Ad,kd,rfl,_,_⟩:=hd.shape
 obtain⟨Ar,kr,rfl,_,_⟩:=hr.shape
 obtain⟨Ao,ko,rfl,_,_⟩:=ho.shape
 obtain⟨q0,q1,q2,q3,q4,q5,q6,q7,q8,q9,a5,a6,a7,a8,a9,aa,ab⟩:=hR
 simp only[B8,dF] at q0 q1 q2 q3 q4 q5 q6 q7 q8 q9 a5 a6 a7 a8 a9 aa ab
 have hf1:=hf.words
 have hf2:=hf.bits
 have hf3:=hf.data
 have hf4:=hf.recs
 have hf5:=hf.objects
 refine en 137 Tryz.func167 rfl<|sg<|L0<|dC (mG M.code M.fail M.addr M.count M.value M.and_ M.or_ M.addr2 M.sub M.status M.events M.messages (.slice Aw M.words.length kw) (.slice Ab M.bits.length kb) (.slice Ad M.data.length kd) (.slice Ar M.recs.length kr) M.mei M.kind M.level M.more M.next (.slice Ao M.objects.length ko)) fun bQ bR bS F k=>Pl 1<|ng<|Pl 1<|L0<|aP F 12<|?_
 refine L0<|Oc<|dk (ek (xs:=M.words) (dN.old hw k) (by(try simp only[List.length_append,List.length_cons,List.length_nil]);omega)) fun bT bV bW y bX bY l=>Pl 1<|ng<|Pl 1<|?_
 have a:=ub l F
 refine L0<|aP a 12<|Pl 2<|ng<|Pl 1<|ng<|Pl 1<|nt<|?_
 refine sq<|bk<|sg<|Pl 3<|sy 19 ew<|Pl 15<|nt<|c0<|sg<|Pl 1<|L0<|aP a 0<|?_
 refine Pl 2<|cu 4 [38] 42 (((M.code==3)||(M.code==4))) (fun K G=>?_) ?_
 refine bl 38 ((M.code==3)) (fun s=>?_) (fun s=>?_)
 have ac:=ae s
 exact Pl 4<|ce G true (by rw[s];rfl)
 have ac:=ak s
 exact Pl 1<|L1<|aP a 0<|Pl 2<|ce G (M.code==4) (by rw[s];rfl)
 refine Pl 1<|cu 8 [43] 51 ((((M.code==3)||(M.code==4))||((M.code==16)&&(dir==1)))) (fun K H=>?_) ?_
 refine bl 43 (((M.code==3)||(M.code==4))) (fun t=>?_) (fun t=>?_)
 exact Pl 8<|ce H true (by rw[t];rfl)
 have ad:=(aI t).1
 have af:=(aI t).2
 have c2:=ak ad
 have c3:=ak af
 refine Pl 1<|L1<|aP a 0<|Pl 2<|cu 3 [47] 50 (((M.code==16)&&(dir==1))) (fun K I=>?_) ?_
 refine bl 47 ((M.code==16)) (fun u=>?_) (fun u=>?_)
 have ag:=ae u
 exact Pl 3<|ce I (dir==1) (by rw[u];rfl)
 have ag:=ak u
 exact Pl 3<|ce I false (by rw[u];rfl)
 exact Pl 1<|ce H ((M.code==16)&&(dir==1)) (by rw[t];rfl)
 refine Pl 1<|nt<|?_
 have J:((M.code==16)&&(dir==1))=false:=by simp only[ew,bs]
 have n:=aG k l
 refine cb ((((M.code==3)||(M.code==4))||((M.code==16)&&(dir==1)))) (fun i=>?_) (fun i=>?_)
 have j:((M.code==3)||(M.code==4))=true:=by simpa only[J,bs] using i
 refine sg<|Pl 1<|L0<|aP a 2<|Pl 1<|L0<|aP a 3<|L0<|cO (m:=2) (e:=24) #[.int .u16 M.addr,.int .u16 M.count] fun c4 c5 ah ai L=>?_
 have aj:=dh ah (xs:=[M.addr,M.count]) (by as_aux_lemma=>kernel_rfl) (al (by omega) (al (by omega) aJ)) (by(try simp only[List.length_cons,List.length_nil]);omega) ai
 refine L0<|Oc<|dk (ek (xs:=[M.addr,M.count]) (aj).rd (by(try simp only[List.length_append,List.length_cons,List.length_nil]);omega)) fun an ao c6 ap c7 c8 ar=>Pl 1<|nt<|rt<|br<|tr<|rr (.slice an ((aF ([M.addr,M.count])).length) ao)<|?_
 have hs:bZ dir M=(aF ([M.addr,M.count])):=by
   unfold bZ
   (try simp only[ew,hd0,J,i,j,bs,if_true,if_false,decide_true,decide_false,Bool.or_true,Bool.true_or,Bool.or_false,Bool.false_or,Bool.and_true,Bool.true_and,Bool.and_false,Bool.false_and,reduceIte])
   all_goals rfl
 rw[hs]
 exact⟨_,rfl,(aV.weaken ap (le (le k.size l.size) L.size)),(aG n (aG L ar))⟩
 have j:=(aI i).1
 have q:=(aI i).2
 have o:=(aI j).1
 have p:=(aI j).2
 have q34aap:=ak o
 have q34abp:=ak p
 refine sg<|Pl 1<|L0<|aP a 0<|Pl 2<|nt<|cb ((M.code==6)) (fun b=>?_) (fun b=>?_)
 have au:=ae b
 refine sg<|Pl 1<|L0<|aP a 2<|Pl 1<|L0<|aP a 4<|L0<|cO (m:=2) (e:=24) #[.int .u16 M.addr,.int .u16 M.value] fun c9 ca aw ax N=>?_
 have az:=dh aw (xs:=[M.addr,M.value]) (by as_aux_lemma=>kernel_rfl) (al (by omega) (al (by omega) aJ)) (by(try simp only[List.length_cons,List.length_nil]);omega) ax
 refine L0<|Oc<|dk (ek (xs:=[M.addr,M.value]) (az).rd (by(try simp only[List.length_append,List.length_cons,List.length_nil]);omega)) fun aB aC cc aD cd cg aH=>Pl 1<|nt<|rt<|br<|tr<|rr (.slice aB ((aF ([M.addr,M.value])).length) aC)<|?_
 have hs:bZ dir M=(aF ([M.addr,M.value])):=by
   unfold bZ
   (try simp only[show(M.code==3)=false from(by rw[ae b];rfl),show(M.code==4)=false from(by rw[ae b];rfl),show(M.code==16)=false from(by rw[ae b];rfl),show(M.code==22)=false from(by rw[ae b];rfl),show(M.code==23)=false from(by rw[ae b];rfl),show(M.code==24)=false from(by rw[ae b];rfl),ew,hd0,q,i,j,o,p,b,bs,if_true,if_false,decide_true,decide_false,Bool.or_true,Bool.true_or,Bool.or_false,Bool.false_or,Bool.and_true,Bool.true_and,Bool.and_false,Bool.false_and,reduceIte])
   all_goals rfl
 rw[hs]
 exact⟨_,rfl,(aV.weaken aD (le (le k.size l.size) N.size)),(aG n (aG N aH))⟩
 have au:=ak b
 refine sg<|Pl 1<|L0<|aP a 0<|Pl 2<|nt<|cb ((M.code==16)) (fun c=>?_) (fun c=>?_)
 have aK:=ae c
 refine go<|Pl 1<|L0<|aP a 2<|Pl 1<|L0<|aP a 3<|L0<|cO (m:=2) (e:=24) #[.int .u16 M.addr,.int .u16 M.count] fun ch ci aL aN z=>?_
 have aR:=dh aL (xs:=[M.addr,M.count]) (by as_aux_lemma=>kernel_rfl) (al (by omega) (al (by omega) aJ)) (by(try simp only[List.length_cons,List.length_nil]);omega) aN
 refine Pl 1<|nl<|bn<|tn<|sg<|Pl 1<|L0<|Oc<|dk (ek (xs:=[M.addr,M.count]) (aR).rd (by(try simp only[List.length_append,List.length_cons,List.length_nil]);omega)) fun aT cj ck O cl cm P=>Pl 1<|nt<|sq<|sg<|?_
 refine Pl 1<|nt<|c1<|go<|Pl 2<|L0<|Oi (2*((M.words.length:Nat) : Int))<|Pl 1<|L0<|cO (m:=1) (e:=5) #[.int .u8 ((2*((M.words.length:Nat) : Int))%256)] fun cn co aU aW A=>?_
 have aY:=cN aU (xs:=[((2*((M.words.length:Nat) : Int))%256)]) (by as_aux_lemma=>kernel_rfl) (al (by omega) aJ) (by(try simp only[List.length_cons,List.length_nil]);omega) aW
 refine L0<|bG aX (xs:=(aF ([M.addr,M.count]))) (ys:=([((2*((M.words.length:Nat) : Int))%256)])) (.int .u8 0) 1 (aq O A (fun x hx=>aA) (fun _ _ h=>h)) (aY).rd (by(try simp only[List.length_append,List.length_cons,List.length_nil,ay]);omega) (le P.size A.size) fun cp cq cr Q aZ=>Pl 1<|ng<|Pl 2<|?_
 have R:=ut P (ut (aE.mono (S':=(ob aT++[])) A av) aZ (am il av)) (am (aM O lr) av)
 have S:=aG z R
 refine L0<|bG aX (xs:=((aF ([M.addr,M.count]))++[((2*((M.words.length:Nat) : Int))%256)])) (ys:=(aF M.words)) (.int .u8 0) 1 Q ((aq y S (fun x hx=>aA) (fun _ _ h=>h))).rd (by(try simp only[List.length_append,List.length_cons,List.length_nil,ay]);omega) R.size fun b0 b1 ct b2 b3=>Pl 1<|nt<|rt<|rr (.slice b0 ((((aF ([M.addr,M.count]))++[((2*((M.words.length:Nat) : Int))%256)])++(aF M.words)).length) b1)<|?_
 have hs:bZ dir M=(((aF ([M.addr,M.count]))++[((2*((M.words.length:Nat) : Int))%256)])++(aF M.words)):=by
   unfold bZ
   (try simp only[show(M.code==3)=false from(by rw[ae c];rfl),show(M.code==4)=false from(by rw[ae c];rfl),show(M.code==6)=false from(by rw[ae c];rfl),show(M.code==22)=false from(by rw[ae c];rfl),show(M.code==23)=false from(by rw[ae c];rfl),show(M.code==24)=false from(by rw[ae c];rfl),ew,hd0,q,i,j,o,p,b,c,bs,if_true,if_false,decide_true,decide_false,Bool.or_true,Bool.true_or,Bool.or_false,Bool.false_or,Bool.and_true,Bool.true_and,Bool.and_false,Bool.false_and,reduceIte])
   all_goals rfl
 rw[hs]
 exact⟨_,rfl,(aV.weaken b2 (le (le k.size l.size) z.size)),(aG n (ut S b3 (am (aM Q z.size) av)))⟩
 have aK:=ak c
 refine sg<|Pl 1<|L0<|aP a 0<|Pl 2<|nt<|cb ((M.code==22)) (fun d=>?_) (fun d=>?_)
 have b4:=ae d
 refine sg<|Pl 1<|L0<|aP a 2<|Pl 1<|L0<|aP a 5<|Pl 1<|L0<|aP a 6<|L0<|cO (m:=3) (e:=24) #[.int .u16 M.addr,.int .u16 M.and_,.int .u16 M.or_] fun cv cw b5 b7 T=>?_
 have b8:=dh b5 (xs:=[M.addr,M.and_,M.or_]) (by as_aux_lemma=>kernel_rfl) (al (by omega) (al (by omega) (al (by omega) aJ))) (by(try simp only[List.length_cons,List.length_nil]);omega) b7
 refine L0<|Oc<|dk (ek (xs:=[M.addr,M.and_,M.or_]) (b8).rd (by(try simp only[List.length_append,List.length_cons,List.length_nil]);omega)) fun b9 ba cx bb cy cz bc=>Pl 1<|nt<|rt<|br<|tr<|rr (.slice b9 ((aF ([M.addr,M.and_,M.or_])).length) ba)<|?_
 have hs:bZ dir M=(aF ([M.addr,M.and_,M.or_])):=by
   unfold bZ
   (try simp only[show(M.code==3)=false from(by rw[ae d];rfl),show(M.code==4)=false from(by rw[ae d];rfl),show(M.code==6)=false from(by rw[ae d];rfl),show(M.code==16)=false from(by rw[ae d];rfl),show(M.code==23)=false from(by rw[ae d];rfl),show(M.code==24)=false from(by rw[ae d];rfl),ew,hd0,q,i,j,o,p,b,c,d,bs,if_true,if_false,decide_true,decide_false,Bool.or_true,Bool.true_or,Bool.or_false,Bool.false_or,Bool.and_true,Bool.true_and,Bool.and_false,Bool.false_and,reduceIte])
   all_goals rfl
 rw[hs]
 exact⟨_,rfl,(aV.weaken bb (le (le k.size l.size) T.size)),(aG n (aG T bc))⟩
 have b4:=ak d
 refine sg<|Pl 1<|L0<|aP a 0<|Pl 2<|nt<|cb ((M.code==23)) (fun f=>?_) (fun f=>?_)
 have bd:=ae f
 refine go<|Pl 1<|L0<|aP a 2<|Pl 1<|L0<|aP a 3<|Pl 1<|L0<|aP a 7<|Pl 2<|L0<|cO (m:=4) (e:=24) #[.int .u16 M.addr,.int .u16 M.count,.int .u16 M.addr2,.int .u16 (((M.words.length:Nat) : Int)%65536)] fun cA cB be bf B=>?_
 have bg:=dh be (xs:=[M.addr,M.count,M.addr2,(((M.words.length:Nat) : Int)%65536)]) (by as_aux_lemma=>kernel_rfl) (al (by omega) (al (by omega) (al (by omega) (al (by omega) aJ)))) (by(try simp only[List.length_cons,List.length_nil]);omega) bf
 refine Pl 1<|nl<|bn<|tn<|sg<|Pl 1<|L0<|Oc<|dk (ek (xs:=[M.addr,M.count,M.addr2,(((M.words.length:Nat) : Int)%65536)]) (bg).rd (by(try simp only[List.length_append,List.length_cons,List.length_nil]);omega)) fun bh cC cD U cE cF V=>Pl 1<|nt<|sq<|sg<|?_
 refine Pl 1<|nt<|c1<|go<|Pl 2<|L0<|Oi (2*((M.words.length:Nat) : Int))<|Pl 1<|L0<|cO (m:=1) (e:=5) #[.int .u8 ((2*((M.words.length:Nat) : Int))%256)] fun cG cH bi bj C=>?_
 have bm:=cN bi (xs:=[((2*((M.words.length:Nat) : Int))%256)]) (by as_aux_lemma=>kernel_rfl) (al (by omega) aJ) (by(try simp only[List.length_cons,List.length_nil]);omega) bj
 refine L0<|bG aX (xs:=(aF ([M.addr,M.count,M.addr2,(((M.words.length:Nat) : Int)%65536)]))) (ys:=([((2*((M.words.length:Nat) : Int))%256)])) (.int .u8 0) 1 (aq U C (fun x hx=>aA) (fun _ _ h=>h)) (bm).rd (by(try simp only[List.length_append,List.length_cons,List.length_nil,ay]);omega) (le V.size C.size) fun cI cJ cK W bo=>Pl 1<|ng<|Pl 2<|?_
 have X:=ut V (ut (aE.mono (S':=(ob bh++[])) C av) bo (am il av)) (am (aM U lr) av)
 have Y:=aG B X
 refine L0<|bG aX (xs:=((aF ([M.addr,M.count,M.addr2,(((M.words.length:Nat) : Int)%65536)]))++[((2*((M.words.length:Nat) : Int))%256)])) (ys:=(aF M.words)) (.int .u8 0) 1 W ((aq y Y (fun x hx=>aA) (fun _ _ h=>h))).rd (by(try simp only[List.length_append,List.length_cons,List.length_nil,ay]);omega) X.size fun bp bq cL bt bv=>Pl 1<|nt<|rt<|rr (.slice bp ((((aF ([M.addr,M.count,M.addr2,(((M.words.length:Nat) : Int)%65536)]))++[((2*((M.words.length:Nat) : Int))%256)])++(aF M.words)).length) bq)<|?_
 have hs:bZ dir M=(((aF ([M.addr,M.count,M.addr2,(((M.words.length:Nat) : Int)%65536)]))++[((2*((M.words.length:Nat) : Int))%256)])++(aF M.words)):=by
   unfold bZ
   (try simp only[show(M.code==3)=false from(by rw[ae f];rfl),show(M.code==4)=false from(by rw[ae f];rfl),show(M.code==6)=false from(by rw[ae f];rfl),show(M.code==16)=false from(by rw[ae f];rfl),show(M.code==22)=false from(by rw[ae f];rfl),show(M.code==24)=false from(by rw[ae f];rfl),ew,hd0,q,i,j,o,p,b,c,d,f,bs,if_true,if_false,decide_true,decide_false,Bool.or_true,Bool.true_or,Bool.or_false,Bool.false_or,Bool.and_true,Bool.true_and,Bool.and_false,Bool.false_and,reduceIte])
   all_goals rfl
 rw[hs]
 exact⟨_,rfl,(aV.weaken bt (le (le k.size l.size) B.size)),(aG n (ut Y bv (am (aM W B.size) av)))⟩
 have bd:=ak f
 refine sg<|Pl 1<|L0<|aP a 0<|Pl 2<|cu 3 [106] 109 (((M.code==24)&&(dir==0))) (fun K Z=>?_) ?_
 refine bl 106 ((M.code==24)) (fun v=>?_) (fun v=>?_)
 have bw:=ae v
 exact Pl 3<|ce Z (dir==0) (by rw[v];rfl)
 have bw:=ak v
 exact Pl 3<|ce Z false (by rw[v];rfl)
 refine Pl 1<|nt<|cb (((M.code==24)&&(dir==0))) (fun r=>?_) (fun r=>?_)
 have g:=(b6 r).1
 have a0:=(b6 r).2
 have bx:=ae g
 have cM:=ae a0
 refine sg<|Pl 1<|L0<|aP a 2<|L0<|cO (m:=1) (e:=24) #[.int .u16 M.addr] fun cP cQ bz bA a1=>?_
 have bB:=dh bz (xs:=[M.addr]) (by as_aux_lemma=>kernel_rfl) (al (by omega) aJ) (by(try simp only[List.length_cons,List.length_nil]);omega) bA
 refine L0<|Oc<|dk (ek (xs:=[M.addr]) (bB).rd (by(try simp only[List.length_append,List.length_cons,List.length_nil]);omega)) fun bC bD cR bE cS cT bF=>Pl 1<|nt<|rt<|br<|tr<|rr (.slice bC ((aF ([M.addr])).length) bD)<|?_
 have hs:bZ dir M=(aF ([M.addr])):=by
   unfold bZ
   (try simp only[show(M.code==3)=false from(by rw[ae g];rfl),show(M.code==4)=false from(by rw[ae g];rfl),show(M.code==6)=false from(by rw[ae g];rfl),show(M.code==16)=false from(by rw[ae g];rfl),show(M.code==22)=false from(by rw[ae g];rfl),show(M.code==23)=false from(by rw[ae g];rfl),ew,a0,q,i,j,o,p,b,c,d,f,r,g,bs,if_true,if_false,decide_true,decide_false,Bool.or_true,Bool.true_or,Bool.or_false,Bool.false_or,Bool.and_true,Bool.true_and,Bool.and_false,Bool.false_and,reduceIte])
   all_goals rfl
 rw[hs]
 exact⟨_,rfl,(aV.weaken bE (le (le k.size l.size) a1.size)),(aG n (aG a1 bF))⟩
 have g:(M.code==24)=false:=by simpa only[hd0,bs] using r
 have bx:=ak g
 refine sg<|Pl 1<|L0<|aP a 0<|Pl 2<|nt<|cf g<|sk<|bn<|tn<|sg<|Pl 1<|L0<|Oc<|dk (ek (xs:=[]) (aS.nil true _ _ _ _) (by(try simp only[List.length_append,List.length_cons,List.length_nil]);omega)) fun bH cU cV a2 cW cX a3=>?_
 refine Pl 1<|nt<|sq<|sg<|Pl 1<|nt<|c1<|go<|Pl 2<|L0<|Oi (2*((M.words.length:Nat) : Int))<|Pl 1<|L0<|cO (m:=1) (e:=5) #[.int .u8 ((2*((M.words.length:Nat) : Int))%256)] fun cY cZ bI bJ D=>?_
 have bK:=cN bI (xs:=[((2*((M.words.length:Nat) : Int))%256)]) (by as_aux_lemma=>kernel_rfl) (al (by omega) aJ) (by(try simp only[List.length_cons,List.length_nil]);omega) bJ
 refine L0<|bG aX (xs:=(aF ([]))) (ys:=([((2*((M.words.length:Nat) : Int))%256)])) (.int .u8 0) 1 (aq a2 D (fun x hx=>aA) (fun _ _ h=>h)) (bK).rd (by(try simp only[List.length_append,List.length_cons,List.length_nil,ay]);omega) (le a3.size D.size) fun d0 d1 d2 a4 bL=>Pl 1<|ng<|Pl 2<|?_
 have E:=ut a3 (ut (aE.mono (S':=(ob bH++[])) D av) bL (am il av)) (am (aM a2 lr) av)
 refine L0<|bG aX (xs:=((aF ([]))++[((2*((M.words.length:Nat) : Int))%256)])) (ys:=(aF M.words)) (.int .u8 0) 1 a4 ((aq y E (fun x hx=>aA) (fun _ _ h=>h))).rd (by(try simp only[List.length_append,List.length_cons,List.length_nil,ay]);omega) E.size fun bM bN d3 bO bP=>Pl 1<|nt<|rt<|rr (.slice bM ((((aF ([]))++[((2*((M.words.length:Nat) : Int))%256)])++(aF M.words)).length) bN)<|?_
 have hs:bZ dir M=(((aF ([]))++[((2*((M.words.length:Nat) : Int))%256)])++(aF M.words)):=by
   unfold bZ
   (try simp only[ew,hd0,q,i,j,o,p,b,c,d,f,r,g,bs,if_true,if_false,decide_true,decide_false,Bool.or_true,Bool.true_or,Bool.or_false,Bool.false_or,Bool.and_true,Bool.true_and,Bool.and_false,Bool.false_and,reduceIte])
   all_goals rfl
 rw[hs]
 exact⟨_,rfl,(aV.weaken bO n.size),(aG n (ut E bP (am (aM a4 lr) av)))⟩
theorem nL{m:Md}{cs:Array Value}{M:aQ}{w:World}{dir:Int}(h:aO m w cs.toList M)(hf:bU M)(ew:(dir==1)=false)(hd0:(dir==0)=false) : Calls Tryz.prog 167 #[.int .i64 dir,.agg cs] w (fy (bZ dir M) w):=by
 obtain⟨vw,vb,vd,vr,vo,h0,hw,hbt,hd,hr,ho,hR⟩:=h
 obtain rfl:cs=(bu M vw vb vd vr vo).toArray:=by apply Array.toList_inj.1;simpa using h0
 clear h0
 obtain⟨Aw,kw,rfl,_,_⟩:=hw.shape
 obtain⟨Ab,kb,rfl,_,_⟩:=hbt.shape
 obtain⟨Ad,kd,rfl,_,_⟩:=hd.shape
 obtain⟨Ar,kr,rfl,_,_⟩:=hr.shape
 obtain⟨Ao,ko,rfl,_,_⟩:=ho.shape
 obtain⟨q0,q1,q2,q3,q4,q5,q6,q7,q8,q9,a7,a8,a9,aa,ab,ac,ad⟩:=hR
 simp only[B8,dF] at q0 q1 q2 q3 q4 q5 q6 q7 q8 q9 a7 a8 a9 aa ab ac ad
 have hf1:=hf.words
 have hf2:=hf.bits
 have hf3:=hf.data
 have hf4:=hf.recs
 have hf5:=hf.objects
 refine en 137 Tryz.func167 rfl<|sg<|L0<|dC (mG M.code M.fail M.addr M.count M.value M.and_ M.or_ M.addr2 M.sub M.status M.events M.messages (.slice Aw M.words.length kw) (.slice Ab M.bits.length kb) (.slice Ad M.data.length kd) (.slice Ar M.recs.length kr) M.mei M.kind M.level M.more M.next (.slice Ao M.objects.length ko)) fun bS bT bV G k=>Pl 1<|ng<|Pl 1<|L0<|aP G 12<|?_
 refine L0<|Oc<|dk (ek (xs:=M.words) (dN.old hw k) (by(try simp only[List.length_append,List.length_cons,List.length_nil]);omega)) fun bW bX bY v c2 c3 l=>Pl 1<|ng<|Pl 1<|?_
 have a:=ub l G
 refine L0<|aP a 12<|Pl 2<|ng<|Pl 1<|ng<|Pl 1<|nt<|?_
 refine sq<|bk<|sg<|Pl 3<|sy 19 ew<|Pl 15<|nt<|c0<|sg<|Pl 1<|L0<|aP a 0<|?_
 refine Pl 2<|cu 4 [38] 42 (((M.code==3)||(M.code==4))) (fun K H=>?_) ?_
 refine bl 38 ((M.code==3)) (fun r=>?_) (fun r=>?_)
 have af:=ae r
 exact Pl 4<|ce H true (by rw[r];rfl)
 have af:=ak r
 exact Pl 1<|L1<|aP a 0<|Pl 2<|ce H (M.code==4) (by rw[r];rfl)
 refine Pl 1<|cu 8 [43] 51 ((((M.code==3)||(M.code==4))||((M.code==16)&&(dir==1)))) (fun K I=>?_) ?_
 refine bl 43 (((M.code==3)||(M.code==4))) (fun s=>?_) (fun s=>?_)
 exact Pl 8<|ce I true (by rw[s];rfl)
 have ag:=(aI s).1
 have ah:=(aI s).2
 have c4:=ak ag
 have c5:=ak ah
 refine Pl 1<|L1<|aP a 0<|Pl 2<|cu 3 [47] 50 (((M.code==16)&&(dir==1))) (fun K J=>?_) ?_
 refine bl 47 ((M.code==16)) (fun t=>?_) (fun t=>?_)
 have ai:=ae t
 exact Pl 3<|ce J (dir==1) (by rw[t];rfl)
 have ai:=ak t
 exact Pl 3<|ce J false (by rw[t];rfl)
 exact Pl 1<|ce I ((M.code==16)&&(dir==1)) (by rw[s];rfl)
 refine Pl 1<|nt<|?_
 have L:((M.code==16)&&(dir==1))=false:=by simp only[ew,bs]
 have n:=aG k l
 refine cb ((((M.code==3)||(M.code==4))||((M.code==16)&&(dir==1)))) (fun g=>?_) (fun g=>?_)
 have j:((M.code==3)||(M.code==4))=true:=by simpa only[L,bs] using g
 refine sg<|Pl 1<|L0<|aP a 2<|Pl 1<|L0<|aP a 3<|L0<|cO (m:=2) (e:=24) #[.int .u16 M.addr,.int .u16 M.count] fun c6 c7 aj an N=>?_
 have ao:=dh aj (xs:=[M.addr,M.count]) (by as_aux_lemma=>kernel_rfl) (al (by omega) (al (by omega) aJ)) (by(try simp only[List.length_cons,List.length_nil]);omega) an
 refine L0<|Oc<|dk (ek (xs:=[M.addr,M.count]) (ao).rd (by(try simp only[List.length_append,List.length_cons,List.length_nil]);omega)) fun ap ar c8 au c9 ca aw=>Pl 1<|nt<|rt<|br<|tr<|rr (.slice ap ((aF ([M.addr,M.count])).length) ar)<|?_
 have hs:bZ dir M=(aF ([M.addr,M.count])):=by
   unfold bZ
   (try simp only[ew,hd0,L,g,j,bs,if_true,if_false,decide_true,decide_false,Bool.or_true,Bool.true_or,Bool.or_false,Bool.false_or,Bool.and_true,Bool.true_and,Bool.and_false,Bool.false_and,reduceIte])
   all_goals rfl
 rw[hs]
 exact⟨_,rfl,(aV.weaken au (le (le k.size l.size) N.size)),(aG n (aG N aw))⟩
 have j:=(aI g).1
 have q:=(aI g).2
 have o:=(aI j).1
 have p:=(aI j).2
 have q34aap:=ak o
 have q34abp:=ak p
 refine sg<|Pl 1<|L0<|aP a 0<|Pl 2<|nt<|cb ((M.code==6)) (fun b=>?_) (fun b=>?_)
 have ax:=ae b
 refine sg<|Pl 1<|L0<|aP a 2<|Pl 1<|L0<|aP a 4<|L0<|cO (m:=2) (e:=24) #[.int .u16 M.addr,.int .u16 M.value] fun cc cd az aB O=>?_
 have aC:=dh az (xs:=[M.addr,M.value]) (by as_aux_lemma=>kernel_rfl) (al (by omega) (al (by omega) aJ)) (by(try simp only[List.length_cons,List.length_nil]);omega) aB
 refine L0<|Oc<|dk (ek (xs:=[M.addr,M.value]) (aC).rd (by(try simp only[List.length_append,List.length_cons,List.length_nil]);omega)) fun aD aH cg aK ch ci aL=>Pl 1<|nt<|rt<|br<|tr<|rr (.slice aD ((aF ([M.addr,M.value])).length) aH)<|?_
 have hs:bZ dir M=(aF ([M.addr,M.value])):=by
   unfold bZ
   (try simp only[show(M.code==3)=false from(by rw[ae b];rfl),show(M.code==4)=false from(by rw[ae b];rfl),show(M.code==16)=false from(by rw[ae b];rfl),show(M.code==22)=false from(by rw[ae b];rfl),show(M.code==23)=false from(by rw[ae b];rfl),show(M.code==24)=false from(by rw[ae b];rfl),ew,hd0,q,g,j,o,p,b,bs,if_true,if_false,decide_true,decide_false,Bool.or_true,Bool.true_or,Bool.or_false,Bool.false_or,Bool.and_true,Bool.true_and,Bool.and_false,Bool.false_and,reduceIte])
   all_goals rfl
 rw[hs]
 exact⟨_,rfl,(aV.weaken aK (le (le k.size l.size) O.size)),(aG n (aG O aL))⟩
 have ax:=ak b
 refine sg<|Pl 1<|L0<|aP a 0<|Pl 2<|nt<|cb ((M.code==16)) (fun c=>?_) (fun c=>?_)
 have aN:=ae c
 refine go<|Pl 1<|L0<|aP a 2<|Pl 1<|L0<|aP a 3<|L0<|cO (m:=2) (e:=24) #[.int .u16 M.addr,.int .u16 M.count] fun cj ck aR aT y=>?_
 have aU:=dh aR (xs:=[M.addr,M.count]) (by as_aux_lemma=>kernel_rfl) (al (by omega) (al (by omega) aJ)) (by(try simp only[List.length_cons,List.length_nil]);omega) aT
 refine Pl 1<|nl<|bn<|tn<|sg<|Pl 1<|L0<|Oc<|dk (ek (xs:=[M.addr,M.count]) (aU).rd (by(try simp only[List.length_append,List.length_cons,List.length_nil]);omega)) fun aW cl cm P cn co Q=>Pl 1<|nt<|sq<|sg<|?_
 refine Pl 1<|nt<|c1<|go<|Pl 2<|L0<|Oi (2*((M.words.length:Nat) : Int))<|Pl 1<|L0<|cO (m:=1) (e:=5) #[.int .u8 ((2*((M.words.length:Nat) : Int))%256)] fun cp cq aY aZ z=>?_
 have b0:=cN aY (xs:=[((2*((M.words.length:Nat) : Int))%256)]) (by as_aux_lemma=>kernel_rfl) (al (by omega) aJ) (by(try simp only[List.length_cons,List.length_nil]);omega) aZ
 refine L0<|bG aX (xs:=(aF ([M.addr,M.count]))) (ys:=([((2*((M.words.length:Nat) : Int))%256)])) (.int .u8 0) 1 (aq P z (fun x hx=>aA) (fun _ _ h=>h)) (b0).rd (by(try simp only[List.length_append,List.length_cons,List.length_nil,ay]);omega) (le Q.size z.size) fun cr ct cv R b1=>Pl 1<|ng<|Pl 2<|?_
 have S:=ut Q (ut (aE.mono (S':=(ob aW++[])) z av) b1 (am il av)) (am (aM P lr) av)
 have T:=aG y S
 refine L0<|bG aX (xs:=((aF ([M.addr,M.count]))++[((2*((M.words.length:Nat) : Int))%256)])) (ys:=(aF M.words)) (.int .u8 0) 1 R ((aq v T (fun x hx=>aA) (fun _ _ h=>h))).rd (by(try simp only[List.length_append,List.length_cons,List.length_nil,ay]);omega) S.size fun b2 b3 cw b4 b5=>Pl 1<|nt<|rt<|rr (.slice b2 ((((aF ([M.addr,M.count]))++[((2*((M.words.length:Nat) : Int))%256)])++(aF M.words)).length) b3)<|?_
 have hs:bZ dir M=(((aF ([M.addr,M.count]))++[((2*((M.words.length:Nat) : Int))%256)])++(aF M.words)):=by
   unfold bZ
   (try simp only[show(M.code==3)=false from(by rw[ae c];rfl),show(M.code==4)=false from(by rw[ae c];rfl),show(M.code==6)=false from(by rw[ae c];rfl),show(M.code==22)=false from(by rw[ae c];rfl),show(M.code==23)=false from(by rw[ae c];rfl),show(M.code==24)=false from(by rw[ae c];rfl),ew,hd0,q,g,j,o,p,b,c,bs,if_true,if_false,decide_true,decide_false,Bool.or_true,Bool.true_or,Bool.or_false,Bool.false_or,Bool.and_true,Bool.true_and,Bool.and_false,Bool.false_and,reduceIte])
   all_goals rfl
 rw[hs]
 exact⟨_,rfl,(aV.weaken b4 (le (le k.size l.size) y.size)),(aG n (ut T b5 (am (aM R y.size) av)))⟩
 have aN:=ak c
 refine sg<|Pl 1<|L0<|aP a 0<|Pl 2<|nt<|cb ((M.code==22)) (fun d=>?_) (fun d=>?_)
 have b6:=ae d
 refine sg<|Pl 1<|L0<|aP a 2<|Pl 1<|L0<|aP a 5<|Pl 1<|L0<|aP a 6<|L0<|cO (m:=3) (e:=24) #[.int .u16 M.addr,.int .u16 M.and_,.int .u16 M.or_] fun cx cy b7 b8 U=>?_
 have b9:=dh b7 (xs:=[M.addr,M.and_,M.or_]) (by as_aux_lemma=>kernel_rfl) (al (by omega) (al (by omega) (al (by omega) aJ))) (by(try simp only[List.length_cons,List.length_nil]);omega) b8
 refine L0<|Oc<|dk (ek (xs:=[M.addr,M.and_,M.or_]) (b9).rd (by(try simp only[List.length_append,List.length_cons,List.length_nil]);omega)) fun ba bb cz bc cA cB bd=>Pl 1<|nt<|rt<|br<|tr<|rr (.slice ba ((aF ([M.addr,M.and_,M.or_])).length) bb)<|?_
 have hs:bZ dir M=(aF ([M.addr,M.and_,M.or_])):=by
   unfold bZ
   (try simp only[show(M.code==3)=false from(by rw[ae d];rfl),show(M.code==4)=false from(by rw[ae d];rfl),show(M.code==6)=false from(by rw[ae d];rfl),show(M.code==16)=false from(by rw[ae d];rfl),show(M.code==23)=false from(by rw[ae d];rfl),show(M.code==24)=false from(by rw[ae d];rfl),ew,hd0,q,g,j,o,p,b,c,d,bs,if_true,if_false,decide_true,decide_false,Bool.or_true,Bool.true_or,Bool.or_false,Bool.false_or,Bool.and_true,Bool.true_and,Bool.and_false,Bool.false_and,reduceIte])
   all_goals rfl
 rw[hs]
 exact⟨_,rfl,(aV.weaken bc (le (le k.size l.size) U.size)),(aG n (aG U bd))⟩
 have b6:=ak d
 refine sg<|Pl 1<|L0<|aP a 0<|Pl 2<|nt<|cb ((M.code==23)) (fun f=>?_) (fun f=>?_)
 have be:=ae f
 refine go<|Pl 1<|L0<|aP a 2<|Pl 1<|L0<|aP a 3<|Pl 1<|L0<|aP a 7<|Pl 2<|L0<|cO (m:=4) (e:=24) #[.int .u16 M.addr,.int .u16 M.count,.int .u16 M.addr2,.int .u16 (((M.words.length:Nat) : Int)%65536)] fun cC cD bf bg A=>?_
 have bh:=dh bf (xs:=[M.addr,M.count,M.addr2,(((M.words.length:Nat) : Int)%65536)]) (by as_aux_lemma=>kernel_rfl) (al (by omega) (al (by omega) (al (by omega) (al (by omega) aJ)))) (by(try simp only[List.length_cons,List.length_nil]);omega) bg
 refine Pl 1<|nl<|bn<|tn<|sg<|Pl 1<|L0<|Oc<|dk (ek (xs:=[M.addr,M.count,M.addr2,(((M.words.length:Nat) : Int)%65536)]) (bh).rd (by(try simp only[List.length_append,List.length_cons,List.length_nil]);omega)) fun bi cE cF V cG cH W=>Pl 1<|nt<|sq<|sg<|?_
 refine Pl 1<|nt<|c1<|go<|Pl 2<|L0<|Oi (2*((M.words.length:Nat) : Int))<|Pl 1<|L0<|cO (m:=1) (e:=5) #[.int .u8 ((2*((M.words.length:Nat) : Int))%256)] fun cI cJ bj bm B=>?_
 have bo:=cN bj (xs:=[((2*((M.words.length:Nat) : Int))%256)]) (by as_aux_lemma=>kernel_rfl) (al (by omega) aJ) (by(try simp only[List.length_cons,List.length_nil]);omega) bm
 refine L0<|bG aX (xs:=(aF ([M.addr,M.count,M.addr2,(((M.words.length:Nat) : Int)%65536)]))) (ys:=([((2*((M.words.length:Nat) : Int))%256)])) (.int .u8 0) 1 (aq V B (fun x hx=>aA) (fun _ _ h=>h)) (bo).rd (by(try simp only[List.length_append,List.length_cons,List.length_nil,ay]);omega) (le W.size B.size) fun cK cL cM X bq=>Pl 1<|ng<|Pl 2<|?_
 have Y:=ut W (ut (aE.mono (S':=(ob bi++[])) B av) bq (am il av)) (am (aM V lr) av)
 have Z:=aG A Y
 refine L0<|bG aX (xs:=((aF ([M.addr,M.count,M.addr2,(((M.words.length:Nat) : Int)%65536)]))++[((2*((M.words.length:Nat) : Int))%256)])) (ys:=(aF M.words)) (.int .u8 0) 1 X ((aq v Z (fun x hx=>aA) (fun _ _ h=>h))).rd (by(try simp only[List.length_append,List.length_cons,List.length_nil,ay]);omega) Y.size fun bt bv cP bw bx=>Pl 1<|nt<|rt<|rr (.slice bt ((((aF ([M.addr,M.count,M.addr2,(((M.words.length:Nat) : Int)%65536)]))++[((2*((M.words.length:Nat) : Int))%256)])++(aF M.words)).length) bv)<|?_
 have hs:bZ dir M=(((aF ([M.addr,M.count,M.addr2,(((M.words.length:Nat) : Int)%65536)]))++[((2*((M.words.length:Nat) : Int))%256)])++(aF M.words)):=by
   unfold bZ
   (try simp only[show(M.code==3)=false from(by rw[ae f];rfl),show(M.code==4)=false from(by rw[ae f];rfl),show(M.code==6)=false from(by rw[ae f];rfl),show(M.code==16)=false from(by rw[ae f];rfl),show(M.code==22)=false from(by rw[ae f];rfl),show(M.code==24)=false from(by rw[ae f];rfl),ew,hd0,q,g,j,o,p,b,c,d,f,bs,if_true,if_false,decide_true,decide_false,Bool.or_true,Bool.true_or,Bool.or_false,Bool.false_or,Bool.and_true,Bool.true_and,Bool.and_false,Bool.false_and,reduceIte])
   all_goals rfl
 rw[hs]
 exact⟨_,rfl,(aV.weaken bw (le (le k.size l.size) A.size)),(aG n (ut Z bx (am (aM X A.size) av)))⟩
 have be:=ak f
 refine sg<|Pl 1<|L0<|aP a 0<|Pl 2<|cu 3 [106] 109 (((M.code==24)&&(dir==0))) (fun K a0=>?_) ?_
 refine bl 106 ((M.code==24)) (fun u=>?_) (fun u=>?_)
 have bz:=ae u
 exact Pl 3<|ce a0 (dir==0) (by rw[u];rfl)
 have bz:=ak u
 exact Pl 3<|ce a0 false (by rw[u];rfl)
 refine Pl 1<|nt<|?_
 have C:((M.code==24)&&(dir==0))=false:=by simp only[hd0,bs]
 refine cf C<|sg<|Pl 1<|L0<|aP a 0<|Pl 2<|nt<|cb ((M.code==24)) (fun i=>?_) (fun i=>?_)
 have bA:=ae i
 refine sg<|Pl 1<|L0<|Oi (2*((M.words.length:Nat) : Int))<|L0<|Oi ((2*((M.words.length:Nat) : Int))+2)<|Pl 3<|L0<|cO (m:=2) (e:=24) #[.int .u16 (((2*((M.words.length:Nat) : Int))+2)%65536),.int .u16 (((M.words.length:Nat) : Int)%65536)] fun cQ cR bB bC D=>?_
 have bD:=dh bB (xs:=[(((2*((M.words.length:Nat) : Int))+2)%65536),(((M.words.length:Nat) : Int)%65536)]) (by as_aux_lemma=>kernel_rfl) (al (by omega) (al (by omega) aJ)) (by(try simp only[List.length_cons,List.length_nil]);omega) bC
 refine Pl 1<|nt<|go<|Pl 1<|nl<|bn<|tn<|sg<|Pl 1<|L0<|Oc<|dk (ek (xs:=[(((2*((M.words.length:Nat) : Int))+2)%65536),(((M.words.length:Nat) : Int)%65536)]) (bD).rd (by(try simp only[List.length_append,List.length_cons,List.length_nil]);omega)) fun cS cT cU a1 cV cW a2=>Pl 1<|nl<|?_
 refine tn<|sq<|sg<|Pl 1<|nt<|c0<|bp<|sg<|Pl 2<|?_
 have a3:=aG D a2
 refine L0<|bG aX (xs:=(aF ([(((2*((M.words.length:Nat) : Int))+2)%65536),(((M.words.length:Nat) : Int)%65536)]))) (ys:=(aF M.words)) (.int .u8 0) 1 a1 ((aq v a3 (fun x hx=>aA) (fun _ _ h=>h))).rd (by(try simp only[List.length_append,List.length_cons,List.length_nil,ay]);omega) a2.size fun bE bF cX bH bI=>Pl 1<|nt<|rt<|rr (.slice bE (((aF ([(((2*((M.words.length:Nat) : Int))+2)%65536),(((M.words.length:Nat) : Int)%65536)]))++(aF M.words)).length) bF)<|?_
 have hs:bZ dir M=((aF ([(((2*((M.words.length:Nat) : Int))+2)%65536),(((M.words.length:Nat) : Int)%65536)]))++(aF M.words)):=by
   unfold bZ
   (try simp only[show(M.code==3)=false from(by rw[ae i];rfl),show(M.code==4)=false from(by rw[ae i];rfl),show(M.code==6)=false from(by rw[ae i];rfl),show(M.code==16)=false from(by rw[ae i];rfl),show(M.code==22)=false from(by rw[ae i];rfl),show(M.code==23)=false from(by rw[ae i];rfl),ew,hd0,q,g,j,o,p,b,c,d,f,C,i,bs,if_true,if_false,decide_true,decide_false,Bool.or_true,Bool.true_or,Bool.or_false,Bool.false_or,Bool.and_true,Bool.true_and,Bool.and_false,Bool.false_and,reduceIte])
   all_goals rfl
 rw[hs]
 exact⟨_,rfl,(aV.weaken bH (le (le k.size l.size) D.size)),(aG n (ut a3 bI (am (aM a1 D.size) av)))⟩
 have bA:=ak i
 refine sk<|bn<|tn<|sg<|Pl 1<|L0<|Oc<|dk (ek (xs:=[]) (aS.nil true _ _ _ _) (by(try simp only[List.length_append,List.length_cons,List.length_nil]);omega)) fun bJ cY cZ a4 d0 d1 a5=>Pl 1<|nt<|sq<|sg<|Pl 1<|nl<|?_
 refine tn<|c1<|go<|Pl 2<|L0<|Oi (2*((M.words.length:Nat) : Int))<|Pl 1<|L0<|cO (m:=1) (e:=5) #[.int .u8 ((2*((M.words.length:Nat) : Int))%256)] fun d2 d3 bK bL E=>?_
 have bM:=cN bK (xs:=[((2*((M.words.length:Nat) : Int))%256)]) (by as_aux_lemma=>kernel_rfl) (al (by omega) aJ) (by(try simp only[List.length_cons,List.length_nil]);omega) bL
 refine L0<|bG aX (xs:=(aF ([]))) (ys:=([((2*((M.words.length:Nat) : Int))%256)])) (.int .u8 0) 1 (aq a4 E (fun x hx=>aA) (fun _ _ h=>h)) (bM).rd (by(try simp only[List.length_append,List.length_cons,List.length_nil,ay]);omega) (le a5.size E.size) fun d4 d5 d6 a6 bN=>Pl 1<|ng<|Pl 2<|?_
 have F:=ut a5 (ut (aE.mono (S':=(ob bJ++[])) E av) bN (am il av)) (am (aM a4 lr) av)
 refine L0<|bG aX (xs:=((aF ([]))++[((2*((M.words.length:Nat) : Int))%256)])) (ys:=(aF M.words)) (.int .u8 0) 1 a6 ((aq v F (fun x hx=>aA) (fun _ _ h=>h))).rd (by(try simp only[List.length_append,List.length_cons,List.length_nil,ay]);omega) F.size fun bO bP d7 bQ bR=>Pl 1<|nt<|rt<|rr (.slice bO ((((aF ([]))++[((2*((M.words.length:Nat) : Int))%256)])++(aF M.words)).length) bP)<|?_
 have hs:bZ dir M=(((aF ([]))++[((2*((M.words.length:Nat) : Int))%256)])++(aF M.words)):=by
   unfold bZ
   (try simp only[ew,hd0,q,g,j,o,p,b,c,d,f,C,i,bs,if_true,if_false,decide_true,decide_false,Bool.or_true,Bool.true_or,Bool.or_false,Bool.false_or,Bool.and_true,Bool.true_and,Bool.and_false,Bool.false_and,reduceIte])
   all_goals rfl
 rw[hs]
 exact⟨_,rfl,(aV.weaken bQ n.size),(aG n (ut F bR (am (aM a6 lr) av)))⟩
theorem qW{m:Md}{cs:Array Value}{M:aQ}{w:World}{dir:Int}(h:aO m w cs.toList M)(hf:bU M) : Calls Tryz.prog 167 #[.int .i64 dir,.agg cs] w (fy (bZ dir M) w):=by
  rcases dT (dir==1) with h1|h1
  · exact nF h hf h1 (by rw[ae h1];rfl)
  · rcases dT (dir==0) with h0 | h0
    · exact nI h hf h1 h0
    · exact nL h hf h1 h0
open Go.RowKit
def ki (dir code:Int)(r:dt) : List Int:=(if code==20&&dir==1 then [(2*(r.words.length:Int)+1)%256,6] else [6]++aF [r.file,r.record,r.count])++aF r.words
def dr (dir code:Int) : List dt→List Int
  | []=>[]
  | r :: rs=>ki dir code r++dr dir code rs
theorem iW(dir code:Int)(xs:List dt)(k:Nat)(h:k<xs.length) : dr dir code (xs.drop k)=ki dir code (xs.getD k ⟨0,0,0,[]⟩)++dr dir code (xs.drop (k+1)):=by
  rw[List.drop_eq_getElem_cons h]
  simp[dr,List.getD_eq_getElem?_getD,List.getElem?_eq_getElem h]
def eg (dir:Int)(M:aQ) : List Int:=[((dr dir M.code M.recs).length:Int)%256]++dr dir M.code M.recs
theorem mY{m:Md}{cs:Array Value}{M:aQ}{w:World}{dir:Int}(h:aO m w cs.toList M)(hf:bU M) : Calls Tryz.prog 169 #[.int .i64 dir,.agg cs] w (fy (eg dir M) w):=by
 obtain⟨vw,vb,vd,vr,vo,h0,hw,hbt,hd,hr,ho,hR⟩:=h
 obtain rfl:cs=(bu M vw vb vd vr vo).toArray:=by apply Array.toList_inj.1;simpa using h0
 clear h0
 obtain⟨Aw,kw,rfl,_,_⟩:=hw.shape
 obtain⟨Ab,kb,rfl,_,_⟩:=hbt.shape
 obtain⟨Ad,kd,rfl,_,_⟩:=hd.shape
 obtain⟨Ar,kr,rfl,_,_⟩:=hr.shape
 obtain⟨Ao,ko,rfl,_,_⟩:=ho.shape
 obtain⟨q0,q1,q2,q3,q4,q5,q6,q7,q8,q9,a4,a5,a6,a7,a8,a9,aa⟩:=hR
 simp only[B8,dF] at q0 q1 q2 q3 q4 q5 q6 q7 q8 q9 a4 a5 a6 a7 a8 a9 aa
 have hf1:=hf.words
 have hf2:=hf.bits
 have hf3:=hf.data
 have hf4:=hf.recs
 have hf5:=hf.objects
 refine en 60 Tryz.func169 rfl<|sg<|L0<|dC (mG M.code M.fail M.addr M.count M.value M.and_ M.or_ M.addr2 M.sub M.status M.events M.messages (.slice Aw M.words.length kw) (.slice Ab M.bits.length kb) (.slice Ad M.data.length kd) (.slice Ar M.recs.length kr) M.mei M.kind M.level M.more M.next (.slice Ao M.objects.length ko)) fun N o b9 ab p=>Pl 1<|ng<|Pl 1<|nt<|sq<|sq<|?_
 refine go<|Pl 1<|nt<|bk<|?_
 refine jf (fun x=>[(0,.int .i64 dir),(3,.pointer (some ⟨N,0,none⟩)),(4,.slice none 0 0),(5,.slice x.2.2.1 x.2.1.length x.2.2.2),(6,.int .i64 ((x.1:Nat) : Int))]) (fun(x:Nat × List Int × Option Addr × Nat) w'=>aE [] o w'∧eY o.heap.size w' (.slice x.2.2.1 x.2.1.length x.2.2.2) x.2.1∧(x.1≤M.recs.length)∧(x.2.1++dr dir M.code (M.recs.drop x.1)=([])++dr dir M.code M.recs)∧(x.2.1.length≤16+x.1*2060)∧(0≤x.2.1.length)) (fun x=>M.recs.length-x.1) (0,[],none,0) ⟨aE.refl _ _,(aV.nil o.heap.size _ _ rN _),(by(try dsimp only);omega),rfl,(by(try dsimp only);(try simp only[List.length_cons,List.length_nil]);omega),(by(try dsimp only);(try simp only[List.length_cons,List.length_nil]);omega)⟩ ?_
 rintro⟨k,L,A,cp⟩ ac ⟨a,ad,af,ag,ah,ai⟩
 refine jj [(0,.int .i64 dir),(3,.pointer (some ⟨N,0,none⟩)),(4,.slice none 0 0),(5,.slice A L.length cp),(6,.int .i64 ((k:Nat) : Int))] ?_
 have b:eY o.heap.size ac (.slice A L.length cp) L:=ad
 have ba:k≤M.recs.length:=af
 have bb:L++dr dir M.code (M.recs.drop k)=([])++dr dir M.code M.recs:=ag
 have bc:L.length≤16+k*2060:=ah
 have bd:0≤L.length:=ai
 have hL:L++dr dir M.code (M.recs.drop k)=([])++dr dir M.code M.recs:=by assumption
 have hv0:=fun(h:k<M.recs.length)=>hf.recw _ (di ⟨0,0,0,[]⟩ M.recs k h)
 refine sq<|sg<|Pl 2<|?_
 have y:=ub a ab
 refine L0<|aP y 15<|Pl 2<|nt<|?_
 have q:=aG p a
 refine cb ((decide (((k:Nat) : Int)<((M.recs.length:Nat) : Int)))) (fun f=>?_) (fun f=>?_)
 have aj:=of_decide_eq_true f
 refine bp<|sq<|bk<|sg<|Pl 1<|L0<|aP y 15<|Pl 1<|iY (kf.elt hr k (by omega)) fun bg bh bi bj bm O P an ao Q bo ap=>L0<|mA 4 M.recs.length k an (by omega)<|?_
 refine L0<|w7 [.int .u16 ((M.recs.getD k ⟨0,0,0,[]⟩).file),.int .u16 ((M.recs.getD k ⟨0,0,0,[]⟩).record),.int .u16 ((M.recs.getD k ⟨0,0,0,[]⟩).count),.slice O ((M.recs.getD k ⟨0,0,0,[]⟩).words.length) P] (ub q ao) ap<|L0<|bQ #[.int .u16 0,.int .u16 0,.int .u16 0,.slice none 0 0] fun bq br z ar c=>L0<|be ar #[.int .u16 ((M.recs.getD k ⟨0,0,0,[]⟩).file),.int .u16 ((M.recs.getD k ⟨0,0,0,[]⟩).record),.int .u16 ((M.recs.getD k ⟨0,0,0,[]⟩).count),.slice O ((M.recs.getD k ⟨0,0,0,[]⟩).words.length) P] fun bt B d=>nt<|sq<|sg<|Pl 1<|?_
 have r:=ud c d z
 refine L0<|aP (ub r y) 0<|Pl 2<|cu 3 [23] 26 (((M.code==20)&&(dir==1))) (fun K R=>?_) ?_
 refine bl 23 ((M.code==20)) (fun g=>?_) (fun g=>?_)
 have au:=ae g
 exact Pl 3<|ce R (dir==1) (by rw[g];rfl)
 have au:=ak g
 exact Pl 3<|ce R false (by rw[g];rfl)
 refine nt<|?_
 have S:=aG q r
 refine cb (((M.code==20)&&(dir==1))) (fun i=>?_) (fun i=>?_)
 have T:=(b6 i).1
 have U:=(b6 i).2
 have bv:=ae T
 have bw:=ae U
 refine go<|Pl 2<|L0<|aP B 3<|Pl 1<|L0<|Oi (2*(((M.recs.getD k ⟨0,0,0,[]⟩).words.length:Nat) : Int))<|L0<|Oi ((2*(((M.recs.getD k ⟨0,0,0,[]⟩).words.length:Nat) : Int))+1)<|Pl 1<|L0<|cO (m:=2) (e:=5) #[.int .u8 (((2*(((M.recs.getD k ⟨0,0,0,[]⟩).words.length:Nat) : Int))+1)%256),.int .u8 6] fun bz bA aw ax s=>?_
 have az:=cN aw (xs:=[(((2*(((M.recs.getD k ⟨0,0,0,[]⟩).words.length:Nat) : Int))+1)%256),6]) (by as_aux_lemma=>kernel_rfl) (al (by omega) (al (by omega) aJ)) (by(try simp only[List.length_cons,List.length_nil]);omega) ax
 have V:=aG r s
 refine L0<|bG aX (xs:=L) (ys:=([(((2*(((M.recs.getD k ⟨0,0,0,[]⟩).words.length:Nat) : Int))+1)%256),6])) (.int .u8 0) 1 (aq b V (fun x hx=>aA) (fun _ _ h=>h)) (az).rd (by(try simp only[List.length_append,List.length_cons,List.length_nil,ay]);omega) (le (le (le a.size c.size) d.size) s.size) fun C bB bC W D=>Pl 1<|nt<|go<|Pl 2<|?_
 have X:=ut (aE.mono (S':=(ob A++[])) s av) D (am il av)
 refine L0<|aP (aE.blk X (bf (dR b lr z) aA) B) 3<|?_
 refine L0<|Oc<|dk (ek (xs:=(M.recs.getD k ⟨0,0,0,[]⟩).words) (dN.old Q (ut S X (am (aM b p.size) av))) (by(try simp only[List.length_append,List.length_cons,List.length_nil]);omega)) fun bD bE bF aB bH bI E=>?_
 refine L0<|bG aX (xs:=(L++[(((2*(((M.recs.getD k ⟨0,0,0,[]⟩).words.length:Nat) : Int))+1)%256),6])) (ys:=(aF ((M.recs.getD k ⟨0,0,0,[]⟩).words))) (.int .u8 0) 1 (aq W E (fun x hx=>aA) (fun _ _ h=>h)) (aB).rd (by(try simp only[List.length_append,List.length_cons,List.length_nil,ay]);omega) (le (le (le (le (le a.size c.size) d.size) s.size) D.size) E.size) fun aC aD bJ aH aI=>Pl 1<|nl<|bn<|tn<|go<|Pl 1<|L0<|Oi (((k:Nat) : Int)+1)<|Pl 1<|nl<|?_
 exact gM ((k+1),((L++[(((2*(((M.recs.getD k ⟨0,0,0,[]⟩).words.length:Nat) : Int))+1)%256),6])++(aF ((M.recs.getD k ⟨0,0,0,[]⟩).words))),aC,aD) ⟨(ut a (ut (aE.mono (S':=(ob A++(ob C++[]))) V av) (ut (aE.mono (S':=(ob A++(ob C++[]))) D (am il av)) (ut (aE.mono (S':=(ob C++[])) E av) aI (am il av)) (am il av)) (am il (am il av))) (am (aM b lr) (am (aM W lr) av))),aH,(by(try dsimp only);omega),(by(try dsimp only);rw[← hL,iW dir M.code M.recs k (by omega)];simp only[ki,f,i,T,U,bs,if_true,if_false,decide_true,decide_false,List.append_assoc]),(by(try dsimp only);have hv:=hf.recw _ (di ⟨0,0,0,[]⟩ M.recs k (by omega));(try simp only[List.length_append,List.length_cons,List.length_nil,ay]);omega),(by(try dsimp only);(try simp only[List.length_append,List.length_cons,List.length_nil]);omega)⟩ (by omega)
 refine sg<|Pl 1<|L0<|cO (m:=1) (e:=5) #[.int .u8 6] fun bK bL aK aL j=>?_
 have aN:=cN aK (xs:=[6]) (by as_aux_lemma=>kernel_rfl) (al (by omega) aJ) (by(try simp only[List.length_cons,List.length_nil]);omega) aL
 have Y:=aG r j
 refine L0<|bG aX (xs:=L) (ys:=([6])) (.int .u8 0) 1 (aq b Y (fun x hx=>aA) (fun _ _ h=>h)) (aN).rd (by(try simp only[List.length_append,List.length_cons,List.length_nil,ay]);omega) (le (le (le a.size c.size) d.size) j.size) fun l bM bN t u=>Pl 1<|nt<|go<|Pl 2<|?_
 have Z:=ut (aE.mono (S':=(ob A++[])) j av) u (am il av)
 have n:=aE.blk Z (bf (dR b lr z) aA) B
 refine L0<|aP n 0<|Pl 1<|L0<|aP n 1<|Pl 1<|L0<|aP n 2<|L0<|cO (m:=3) (e:=24) #[.int .u16 ((M.recs.getD k ⟨0,0,0,[]⟩).file),.int .u16 ((M.recs.getD k ⟨0,0,0,[]⟩).record),.int .u16 ((M.recs.getD k ⟨0,0,0,[]⟩).count)] fun bO bP aR aS F=>?_
 have aT:=dh aR (xs:=[(M.recs.getD k ⟨0,0,0,[]⟩).file,(M.recs.getD k ⟨0,0,0,[]⟩).record,(M.recs.getD k ⟨0,0,0,[]⟩).count]) (by as_aux_lemma=>kernel_rfl) (al (by omega) (al (by omega) (al (by omega) aJ))) (by(try simp only[List.length_cons,List.length_nil]);omega) aS
 refine L0<|Oc<|dk (ek (xs:=[(M.recs.getD k ⟨0,0,0,[]⟩).file,(M.recs.getD k ⟨0,0,0,[]⟩).record,(M.recs.getD k ⟨0,0,0,[]⟩).count]) (aT).rd (by(try simp only[List.length_append,List.length_cons,List.length_nil]);omega)) fun bR bS bT aU bV bW G=>?_
 have a0:=aG F G
 refine L0<|bG aX (xs:=(L++[6])) (ys:=(aF ([(M.recs.getD k ⟨0,0,0,[]⟩).file,(M.recs.getD k ⟨0,0,0,[]⟩).record,(M.recs.getD k ⟨0,0,0,[]⟩).count]))) (.int .u8 0) 1 (aq t a0 (fun x hx=>aA) (fun _ _ h=>h)) (aU).rd (by(try simp only[List.length_append,List.length_cons,List.length_nil,ay]);omega) (le (le (le (le (le (le a.size c.size) d.size) j.size) u.size) F.size) G.size) fun v bX bY a1 a2=>Pl 1<|nt<|go<|Pl 2<|?_
 have H:=ut (aE.mono (S':=(ob l++[])) a0 av) a2 (am il av)
 refine L0<|aP (aE.blk H (bf (dI n t (by decide)) aA) n) 3<|?_
 refine L0<|Oc<|dk (ek (xs:=(M.recs.getD k ⟨0,0,0,[]⟩).words) (dN.old Q (ut S (ut (aE.mono (S':=(ob A++(ob l++[]))) Z (am il av)) H (am il av)) (am (aM b p.size) (am (aM t p.size) av)))) (by(try simp only[List.length_append,List.length_cons,List.length_nil]);omega)) fun bZ c0 c1 aW c2 c3 I=>?_
 refine L0<|bG aX (xs:=((L++[6])++(aF ([(M.recs.getD k ⟨0,0,0,[]⟩).file,(M.recs.getD k ⟨0,0,0,[]⟩).record,(M.recs.getD k ⟨0,0,0,[]⟩).count])))) (ys:=(aF ((M.recs.getD k ⟨0,0,0,[]⟩).words))) (.int .u8 0) 1 (aq a1 I (fun x hx=>aA) (fun _ _ h=>h)) (aW).rd (by(try simp only[List.length_append,List.length_cons,List.length_nil,ay]);omega) (le (le (le (le (le (le (le (le a.size c.size) d.size) j.size) u.size) F.size) G.size) a2.size) I.size) fun aY aZ c4 b0 b1=>Pl 1<|nl<|bn<|tn<|go<|Pl 1<|L0<|Oi (((k:Nat) : Int)+1)<|Pl 1<|nl<|?_
 exact gM ((k+1),(((L++[6])++(aF ([(M.recs.getD k ⟨0,0,0,[]⟩).file,(M.recs.getD k ⟨0,0,0,[]⟩).record,(M.recs.getD k ⟨0,0,0,[]⟩).count])))++(aF ((M.recs.getD k ⟨0,0,0,[]⟩).words))),aY,aZ) ⟨(ut a (ut (aE.mono (S':=(ob A++(ob l++(ob v++[])))) Y av) (ut (aE.mono (S':=(ob A++(ob l++(ob v++[])))) u (am il av)) (ut (aE.mono (S':=(ob l++(ob v++[]))) H (am il av)) (ut (aE.mono (S':=(ob v++[])) I av) b1 (am il av)) (am il av)) (am il (am il av))) (am il (am il (am il av)))) (am (aM b lr) (am (aM t lr) (am (aM a1 lr) av)))),b0,(by(try dsimp only);omega),(by(try dsimp only);rw[← hL,iW dir M.code M.recs k (by omega)];simp only[ki,f,i,bs,if_true,if_false,decide_true,decide_false,List.append_assoc]),(by(try dsimp only);have hv:=hf.recw _ (di ⟨0,0,0,[]⟩ M.recs k (by omega));(try simp only[List.length_append,List.length_cons,List.length_nil,ay]);omega),(by(try dsimp only);(try simp only[List.length_append,List.length_cons,List.length_nil]);omega)⟩ (by omega)
 have aj:=of_decide_eq_false f
 refine xt<|tx<|tx<|bx<|tn<|sg<|Pl 3<|L0<|cO (m:=1) (e:=5) #[.int .u8 (((L.length:Nat) : Int)%256)] fun c5 c6 b2 b3 J=>?_
 have a3:=cN b2 (xs:=[(((L.length:Nat) : Int)%256)]) (by as_aux_lemma=>kernel_rfl) (al (by omega) aJ) (by(try simp only[List.length_cons,List.length_nil]);omega) b3
 refine Pl 1<|?_
 refine L0<|bG aX (xs:=([(((L.length:Nat) : Int)%256)])) (ys:=L) (.int .u8 0) 1 a3 ((aq b J (fun x hx=>aA) (fun _ _ h=>h))).rd (by(try simp only[List.length_append,List.length_cons,List.length_nil,ay]);omega) J.size fun b4 b5 c7 b7 b8=>Pl 1<|nt<|rt<|rr (.slice b4 (([(((L.length:Nat) : Int)%256)]++L).length) b5)<|?_
 have hL2:L=dr dir M.code M.recs:=by rw[show k=M.recs.length by omega,List.drop_length] at hL;rw[show dr dir M.code []=[] from rfl,List.append_nil] at hL;exact hL
 have hs:eg dir M=([(((L.length:Nat) : Int)%256)]++L):=by unfold eg;rw[← hL2]
 rw[hs]
 exact⟨_,rfl,(aV.weaken b7 q.size),(aG q (ut J b8 (am (aM a3 lr) av)))⟩
open Go.RowKit
def fa (dir:Int)(M:aQ) : List Int :=
  if M.mei==13 then [13]++M.data
  else if dir==0 then [M.mei,M.kind,M.next]
  else [M.mei,M.kind,M.level,M.more,M.next,(M.objects.length:Int)%256]++eX M.objects
theorem ra{m:Md}{cs:Array Value}{M:aQ}{w:World}{dir:Int}(h:aO m w cs.toList M)(hf:bU M) : Calls Tryz.prog 170 #[.int .i64 dir,.agg cs] w (fy (fa dir M) w):=by
 obtain⟨vw,vb,vd,vr,vo,h0,hw,hbt,hd,hr,ho,hR⟩:=h
 obtain rfl:cs=(bu M vw vb vd vr vo).toArray:=by apply Array.toList_inj.1;simpa using h0
 clear h0
 obtain⟨Aw,kw,rfl,_,_⟩:=hw.shape
 obtain⟨Ab,kb,rfl,_,_⟩:=hbt.shape
 obtain⟨Ad,kd,rfl,_,_⟩:=hd.shape
 obtain⟨Ar,kr,rfl,_,_⟩:=hr.shape
 obtain⟨Ao,ko,rfl,_,_⟩:=ho.shape
 obtain⟨q0,q1,q2,q3,q4,q5,q6,q7,q8,q9,X,Y,Z,a0,a1,a2,a3⟩:=hR
 simp only[B8,dF] at q0 q1 q2 q3 q4 q5 q6 q7 q8 q9 X Y Z a0 a1 a2 a3
 have hf1:=hf.words
 have hf2:=hf.bits
 have hf3:=hf.data
 have hf4:=hf.recs
 have hf5:=hf.objects
 refine en 71 Tryz.func170 rfl<|sg<|L0<|dC (mG M.code M.fail M.addr M.count M.value M.and_ M.or_ M.addr2 M.sub M.status M.events M.messages (.slice Aw M.words.length kw) (.slice Ab M.bits.length kb) (.slice Ad M.data.length kd) (.slice Ar M.recs.length kr) M.mei M.kind M.level M.more M.next (.slice Ao M.objects.length ko)) fun q r aW b c=>Pl 1<|nt<|sq<|sg<|Pl 1<|L0<|aP b 16<|Pl 1<|nl<|?_
 refine tn<|cb ((M.mei==13)) (fun g=>?_) (fun g=>?_)
 have a4:=ae g
 refine sg<|L0<|cO (m:=1) (e:=5) #[.int .u8 13] fun aY aZ a5 a6 s=>?_
 have G:=cN a5 (xs:=[13]) (by as_aux_lemma=>kernel_rfl) (al (by omega) aJ) (by(try simp only[List.length_cons,List.length_nil]);omega) a6
 refine Pl 1<|?_
 refine L0<|aP (ub s b) 14<|?_
 have H:=aG c s
 refine L0<|bG aX (xs:=([13])) (ys:=M.data) (.int .u8 0) 1 G (bo.old hd H) (by(try simp only[List.length_append,List.length_cons,List.length_nil,ay]);omega) s.size fun a7 a8 b0 a9 aa=>Pl 1<|nt<|rt<|tr<|rr (.slice a7 (([13]++M.data).length) a8)<|?_
 have hs:fa dir M=([13]++M.data):=by
   unfold fa
   (try simp only[g,bs,if_true,if_false,decide_true,decide_false,Bool.or_true,Bool.true_or,Bool.or_false,Bool.false_or,Bool.and_true,Bool.true_and,Bool.and_false,Bool.false_and,reduceIte])
   all_goals rfl
 rw[hs]
 exact⟨_,rfl,(aV.weaken a9 c.size),(ut H aa (am (aM G c.size) av))⟩
 have a4:=ak g
 refine bp<|sq<|sg<|Pl 2<|nt<|cb ((dir==0)) (fun n=>?_) (fun n=>?_)
 have ab:=ae n
 refine sg<|Pl 1<|L0<|aP b 16<|Pl 1<|L0<|aP b 17<|Pl 1<|L0<|aP b 20<|L0<|cO (m:=3) (e:=5) #[.int .u8 M.mei,.int .u8 M.kind,.int .u8 M.next] fun ac b1 ad af ag=>?_
 have ai:=cN ad (xs:=[M.mei,M.kind,M.next]) (by as_aux_lemma=>kernel_rfl) (al (by omega) (al (by omega) (al (by omega) aJ))) (by(try simp only[List.length_cons,List.length_nil]);omega) af
 refine Pl 1<|nt<|rt<|tr<|rr (.slice (some ⟨ac,0,none⟩) 3 3)<|?_
 have hs:fa dir M=[M.mei,M.kind,M.next]:=by
   unfold fa
   (try simp only[g,n,bs,if_true,if_false,decide_true,decide_false,Bool.or_true,Bool.true_or,Bool.or_false,Bool.false_or,Bool.and_true,Bool.true_and,Bool.and_false,Bool.false_and,reduceIte])
   all_goals rfl
 rw[hs]
 exact⟨_,rfl,(aV.weaken ai c.size),(aG c ag)⟩
 have ab:=ak n
 refine bp<|sg<|Pl 1<|L0<|aP b 16<|Pl 1<|L0<|aP b 17<|Pl 1<|L0<|aP b 18<|Pl 1<|L0<|aP b 19<|Pl 1<|L0<|aP b 20<|?_
 refine Pl 1<|L0<|aP b 21<|Pl 2<|L0<|cO (m:=6) (e:=5) #[.int .u8 M.mei,.int .u8 M.kind,.int .u8 M.level,.int .u8 M.more,.int .u8 M.next,.int .u8 (((M.objects.length:Nat) : Int)%256)] fun aj an ao ap t=>?_
 have ar:=cN ao (xs:=[M.mei,M.kind,M.level,M.more,M.next,(((M.objects.length:Nat) : Int)%256)]) (by as_aux_lemma=>kernel_rfl) (al (by omega) (al (by omega) (al (by omega) (al (by omega) (al (by omega) (al (by omega) aJ)))))) (by(try simp only[List.length_cons,List.length_nil]);omega) ap
 refine Pl 1<|nt<|sq<|sg<|Pl 1<|nt<|bk<|?_
 refine jf (fun x=>[(3,.pointer (some ⟨q,0,none⟩)),(4,.slice none 0 0),(5,.slice x.2.2.1 x.2.1.length x.2.2.2),(6,.int .i64 ((x.1:Nat) : Int))]) (fun(x:Nat × List Int × Option Addr × Nat) w'=>aE [] r w'∧an.heap.size≤w'.heap.size∧eY r.heap.size w' (.slice x.2.2.1 x.2.1.length x.2.2.2) x.2.1∧(x.1≤M.objects.length)∧(x.2.1++eX (M.objects.drop x.1)=([M.mei,M.kind,M.level,M.more,M.next,(((M.objects.length:Nat) : Int)%256)])++eX M.objects)∧(x.2.1.length≤16+x.1*1026)∧(6≤x.2.1.length)) (fun x=>M.objects.length-x.1) (0,[M.mei,M.kind,M.level,M.more,M.next,(((M.objects.length:Nat) : Int)%256)],some ⟨aj,0,none⟩,6) ⟨t,lr,ar,(by(try dsimp only);omega),rfl,(by(try dsimp only);(try simp only[List.length_cons,List.length_nil]);omega),(by(try dsimp only);(try simp only[List.length_cons,List.length_nil]);omega)⟩ ?_
 rintro⟨k,L,A,cp⟩ aw ⟨u,y,ax,az,aC,aD,aF⟩
 refine jj [(3,.pointer (some ⟨q,0,none⟩)),(4,.slice none 0 0),(5,.slice A L.length cp),(6,.int .i64 ((k:Nat) : Int))] ?_
 have i:eY r.heap.size aw (.slice A L.length cp) L:=ax
 have b2:k≤M.objects.length:=az
 have b3:L++eX (M.objects.drop k)=([M.mei,M.kind,M.level,M.more,M.next,(((M.objects.length:Nat) : Int)%256)])++eX M.objects:=aC
 have b4:L.length≤16+k*1026:=aD
 have b5:6≤L.length:=aF
 have hL:L++eX (M.objects.drop k)=([M.mei,M.kind,M.level,M.more,M.next,(((M.objects.length:Nat) : Int)%256)])++eX M.objects:=by assumption
 have hv0:=fun(h:k<M.objects.length)=>hf.objv _ (di ⟨0,[]⟩ M.objects k h)
 refine sq<|sg<|Pl 2<|?_
 have I:=ub u b
 refine L0<|aP I 21<|Pl 2<|nt<|?_
 have J:=aG c u
 refine cb ((decide (((k:Nat) : Int)<((M.objects.length:Nat) : Int)))) (fun o=>?_) (fun o=>?_)
 have aH:=of_decide_eq_true o
 refine bp<|sq<|bk<|sq<|iY (m9.elt ho k (by omega)) fun z B b6 b7 b8 K N C O aI b9 d=>Rg 18 (fun w'=>w'.cell? ⟨q,21,none⟩=some (.slice Ao M.objects.length ko)∧w'.cell? ⟨z,B+k*2+0,none⟩=some (.int .u8 ((M.objects.getD k ⟨0,[]⟩).id))∧w'.cell? ⟨z,B+k*2+1,none⟩=some (.slice K ((M.objects.getD k ⟨0,[]⟩).value.length) N)) fun ba j=>?_
 have P:=ub j I
 have Q:=aG J j
 have D:=ub Q O
 refine bi ⟨(ah P rfl),(fC D d 0 rfl (by decide)),(fC D d 1 rfl (by decide))⟩ fun a=>Rt 0 a<|Rt 1 a<|Rl 2 a (fun _ hs=>hs.1)<|Rt 3 a<|Ri 4 a 2 M.objects.length k ((k:Nat) : Int) rfl C (by omega)<|Rt 5 a<|Rl 6 a (fun _ hs=>hs.2.1)<|Rt 7 a<|Rl 8 a (fun _ hs=>hs.1)<|Rt 9 a<|Ri 10 a 2 M.objects.length k ((k:Nat) : Int) rfl C (by omega)<|Rt 11 a<|Rl 12 a (fun _ hs=>hs.2.2)<|?_
 refine Rt 13 a<|Rt 14 a<|R0 15 rfl<|cO (m:=2) (e:=5) #[.int .u8 ((M.objects.getD k ⟨0,[]⟩).id),.int .u8 ((((M.objects.getD k ⟨0,[]⟩).value.length:Nat) : Int)%256)] fun bb bc aK aL f=>?_
 have aN:=cN aK (xs:=[(M.objects.getD k ⟨0,[]⟩).id,((((M.objects.getD k ⟨0,[]⟩).value.length:Nat) : Int)%256)]) (by as_aux_lemma=>kernel_rfl) (al (by omega) (al (by omega) aJ)) (by(try simp only[List.length_cons,List.length_nil]);omega) aL
 have R:=ub f P
 have E:=ub f D
 refine bi ⟨(ah R rfl),(fC E d 0 rfl (by decide)),(fC E d 1 rfl (by decide))⟩ fun bd=>?_
 have S:=aG j f
 refine R0 16 rfl<|bG aX (xs:=L) (ys:=([(M.objects.getD k ⟨0,[]⟩).id,((((M.objects.getD k ⟨0,[]⟩).value.length:Nat) : Int)%256)])) (.int .u8 0) 1 (aq i S (fun x hx=>aA) (fun _ _ h=>h)) (aN).rd (by(try simp only[List.length_append,List.length_cons,List.length_nil,ay]);omega) (le (le (le t.size y) j.size) f.size) fun T be bg U l=>?_
 have V:=aE.blk l (bf (aB (au b) lr i) aA) R
 have F:=aE.blk l (bf (aB (au O) c.size i) aA) E
 refine bi ⟨(ah V rfl),(fC F d 0 rfl (by decide)),(fC F d 1 rfl (by decide))⟩ fun aR=>Rt 17 aR<|re<|tn<|go<|Pl 2<|L0<|aP V 21<|Pl 1<|L0<|mA 2 M.objects.length k C (by omega)<|Pl 1<|L0<|eC (p:=⟨z,B+k*2+1,none⟩) (v:=.slice K ((M.objects.getD k ⟨0,[]⟩).value.length) N) (fC F d 1 rfl (by decide))<|?_
 refine L0<|bG aX (xs:=(L++[(M.objects.getD k ⟨0,[]⟩).id,((((M.objects.getD k ⟨0,[]⟩).value.length:Nat) : Int)%256)])) (ys:=((M.objects.getD k ⟨0,[]⟩).value)) (.int .u8 0) 1 U (bo.old aI (ut Q (ut (aE.mono (S':=(ob A++[])) f av) l (am il av)) (am (aM i c.size) av))) (by(try simp only[List.length_append,List.length_cons,List.length_nil,ay]);omega) (le (le (le (le t.size y) j.size) f.size) l.size) fun aS aT bh aU W=>Pl 1<|nl<|bn<|tn<|go<|Pl 1<|L0<|Oi (((k:Nat) : Int)+1)<|Pl 1<|nl<|?_
 exact gM ((k+1),((L++[(M.objects.getD k ⟨0,[]⟩).id,((((M.objects.getD k ⟨0,[]⟩).value.length:Nat) : Int)%256)])++(M.objects.getD k ⟨0,[]⟩).value),aS,aT) ⟨(ut u (ut (aE.mono (S':=(ob A++(ob T++[]))) S av) (ut (aE.mono (S':=(ob A++(ob T++[]))) l (am il av)) W (am il av)) (am il (am il av))) (am (aM i lr) (am (aM U lr) av))),(le (le (le (le y j.size) f.size) l.size) W.size),aU,(by(try dsimp only);omega),(by(try dsimp only);rw[← hL,lC  M.objects k (by omega)];simp only[List.append_assoc]),(by(try dsimp only);have hv:=hf.objv _ (di ⟨0,[]⟩ M.objects k (by omega));(try simp only[List.length_append,List.length_cons,List.length_nil,ay]);omega),(by(try dsimp only);(try simp only[List.length_append,List.length_cons,List.length_nil]);omega)⟩ (by omega)
 have aH:=of_decide_eq_false o
 refine xt<|tx<|tx<|bx<|tn<|sg<|Pl 2<|nt<|rt<|rr (.slice A L.length cp)<|?_
 have hk:k=M.objects.length:=by omega
 rw[hk,List.drop_length] at hL
 have hL2:L=([M.mei,M.kind,M.level,M.more,M.next,(((M.objects.length:Nat) : Int)%256)])++eX M.objects:=by rw[← hL];simp[eX]
 have hs:fa dir M=L:=by
   rw[hL2]
   unfold fa
   (try simp only[g,n,o,bs,if_true,if_false,decide_true,decide_false,reduceIte])
   all_goals rfl
 rw[hs]
 exact⟨_,rfl,(aV.weaken i c.size),J⟩
end Go.Proofs.YtogbnemojakcpaaGreat
namespace Go.Proofs.YtogbnemojakcpaaGreat
def N4 (C:ai) : Prop:=C.e≠4
theorem N4.need{C:ai}{b:Bool}{x:Int}(hx:x≠4)(h:N4 C) : N4 (C.need b x):=by
  unfold N4 ai.need at *
  split
  · exact hx
  · exact h
theorem N4.bytesC{C:ai}{n:Int}(h:N4 C) : N4 (C.bytesC n):=by
  unfold ai.bytesC
  split
  · exact N4.need (by decide) h
  · exact h
theorem N4.wordsC{C:ai}{n:Int}(h:N4 C) : N4 (C.wordsC n):=by
  unfold ai.wordsC
  split<;>exact N4.bytesC h
theorem N4.recs{one:Int→ai→Int × ai × dt}(ho:∀ s C,N4 C→N4 (one s C).2.1) : ∀ (n:Nat)(s:Int)(C:ai)(L:List dt),N4 C→N4 (aU one n s C L).1
  | 0,_,_,_,h=>h
  | n+1,s,C,L,h=>by
    unfold aU
    split
    · split
      · exact ho s C h
      · exact N4.recs ho n _ _ _ (ho s C h)
    · exact h
theorem N4.objs:∀ (n:Nat)(C:ai)(L:List Obj),N4 C→N4 (dW n C L).1
  | 0,_,_,h=>h
  | n+1,C,L,h=>N4.objs n _ _ (N4.bytesC (N4.bytesC (N4.bytesC h)))
theorem od{x:Int}(h:x≠4) : bq x≠4:=by
  unfold bq
  split
  · decide
  · exact h
theorem rp{dir c:Int}{C:ai}{r:ai × aQ}(hC:N4 C)(h:aC dir c C=some r) : N4 r.1:=by
  unfold aC at h
  repeat' split at h
  all_goals first | cases h | skip
  all_goals simp only[cD,cl,ci,eq,bD,iA,dV,cZ,jR,eP]
  all_goals repeat' first | with_reducible exact hC | with_reducible apply N4.bytesC | with_reducible apply N4.wordsC | (with_reducible refine N4.need (by decide) ?_)
theorem tY{dir c:Int}{C:ai}{r:ai × aQ}(hC:N4 C)(h:aH dir c C=some r) : N4 r.1:=by
  unfold aH at h
  repeat' split at h
  all_goals first | cases h | skip
  all_goals simp only[bL,bT,d8,cz,ck,cC,cA,i1,gZ,gz,bJ,jz,dc,fw,nE,tk,pl]
  all_goals repeat' first | with_reducible exact hC | with_reducible apply N4.bytesC | with_reducible apply N4.wordsC | (with_reducible refine N4.need (by decide) ?_)
theorem ti{dir c:Int}{C:ai}{r:ai × aQ}(hC:N4 C)(h:aR dir c C=some r) : N4 r.1:=by
  unfold aR dK bW at h
  repeat' split at h
  all_goals first | cases h | skip
  all_goals simp only[eK,iX,fh,fI,dv]
  all_goals repeat' first | with_reducible exact hC | with_reducible apply N4.bytesC | with_reducible apply N4.wordsC | (with_reducible refine N4.need (by decide) ?_)
theorem u6(s:Int)(C:ai)(h:N4 C) : N4 (cU s C).2.1:=by
  simp only[cU,eA,dD,ew,ij,l7]
  repeat' first | with_reducible exact h | with_reducible apply N4.bytesC | with_reducible apply N4.wordsC | (with_reducible refine N4.need (by decide) ?_)
theorem sx(s:Int)(C:ai)(h:N4 C) : N4 (bH s C).2.1:=by
  simp only[bH,eL,gP,fE]
  repeat' first | with_reducible exact h | with_reducible apply N4.bytesC | with_reducible apply N4.wordsC | (with_reducible refine N4.need (by decide) ?_)
theorem tA(s:Int)(C:ai)(h:N4 C) : N4 (cV s C).2.1:=by
  simp only[cV,iq,l9,dD,ew,ij,l7]
  repeat' first | with_reducible exact h | with_reducible apply N4.bytesC | with_reducible apply N4.wordsC | (with_reducible refine N4.need (by decide) ?_)
theorem jk{one:Int→ai→Int × ai × dt}(ho:∀ s C,N4 C→N4 (one s C).2.1)(may:Int→Bool)(c:Int){C:ai}(hC:N4 C) : N4 (dy one may c C).1:=by
  unfold dy j0
  refine N4.need (od (N4.recs ho _ _ _ _ ?_)) (N4.bytesC (N4.need (by decide) (N4.bytesC hC)))
  show(0:Int)≠4
  decide
theorem ru{dir c:Int}{C:ai}{r:ai × aQ}(hC:N4 C)(h:aW dir c C=some r) : N4 r.1:=by
  unfold aW at h
  repeat' split at h
  all_goals first | cases h | skip
  · exact jk u6 _ _ hC
  · exact jk sx _ _ hC
  · exact jk tA _ _ hC
theorem N4.endC{C:ai}(h:N4 C) : N4 C.endC:=by
  unfold ai.endC
  exact N4.need (by decide) h
theorem sH{form:Int→Int→ai→Option (ai × aQ)}(hg:∀ {dir c:Int}{C:ai}{r:ai × aQ},N4 C→form dir c C=some r→N4 r.1){dir c:Int}{b:List Int}(hd:dir=0∨dir=1){r:ai × aQ}(hf:form dir c ⟨b,false,0⟩=some r) :
    (ag form dir c b).2≠4:=by
  unfold ag
  rw[if_pos hd,hf]
  have h0:N4 ⟨b,false,0⟩:=by show(0:Int)≠4;decide
  have g1:=hg h0 hf
  show(aL r.2 r.1).2≠4
  unfold aL
  split
  · exact(show ¬ (0:Int)=4 from by decide)
  · exact N4.endC g1
theorem jY{form:Int→Int→ai→Option (ai × aQ)}{dir c:Int}{b:List Int}(hd:dir=0∨dir=1)(hf:form dir c ⟨b,false,0⟩=none) : ag form dir c b=(aQ.zero,4):=by
  unfold ag
  rw[if_pos hd,hf]
def fj (dir:Int)(b:List Int) : aQ × Int :=
  if (ag aC dir (b.getD 0 0) (b.drop 1)).2==4 then
    if (ag aH dir (b.getD 0 0) (b.drop 1)).2==4 then
      if (ag aR dir (b.getD 0 0) (b.drop 1)).2==4 then
        if (ag aW dir (b.getD 0 0) (b.drop 1)).2==4 then ag bz dir (b.getD 0 0) (b.drop 1)
        else ag aW dir (b.getD 0 0) (b.drop 1)
      else ag aR dir (b.getD 0 0) (b.drop 1)
    else ag aH dir (b.getD 0 0) (b.drop 1)
  else ag aC dir (b.getD 0 0) (b.drop 1)
theorem pG{dir:Int}{b:List Int}(hd:dir=0∨dir=1) : fj dir b=gU (it (b.getD 0 0)) dir b:=by
  have no:∀ (form:Int→Int→ai→Option (ai × aQ)),form dir (b.getD 0 0) ⟨b.drop 1,false,0⟩=none→((ag form dir (b.getD 0 0) (b.drop 1)).2==4)=true:=fun f h=>by rw[jY hd h];rfl
  have ye:∀ (form:Int→Int→ai→Option (ai × aQ)),(∀ {dir c:Int} {C:ai} {r:ai × aQ},N4 C→form dir c C=some r→N4 r.1)→(form dir (b.getD 0 0) ⟨b.drop 1,false,0⟩).isSome=true→¬ ((ag form dir (b.getD 0 0) (b.drop 1)).2==4)=true:=fun form hg h=>by
    obtain⟨r,hr⟩:=Option.isSome_iff_exists.1 h
    have k:=sH (form:=form) (c:=b.getD 0 0) (fun hC h=>hg hC h) hd hr
    rw[beq_iff_eq]
    exact k
  unfold fj
  rcases gl (b.getD 0 0) with⟨hk,hf⟩|⟨hk,hf⟩|⟨hk,hf⟩|⟨hk,hf⟩|⟨hk,hf⟩|⟨hk,hf⟩<;>rw[hf]
  · rw[if_neg (ye aC (fun hC h=>rp hC h) (by rcases hd with rfl | rfl<;>rcases hk with h | h | h | h<;>rw[h]<;>rfl))]
    rfl
  · rw[if_pos (no aC (by rcases hk with h | h | h | h | h | h | h<;>rw[h]<;>rfl)),if_neg (ye aH (fun hC h=>tY hC h) (by rcases hd with rfl | rfl<;>rcases hk with h | h | h | h | h | h | h<;>rw[h]<;>rfl))]
    rfl
  · rw[if_pos (no aC (by rcases hk with h | h | h | h | h<;>rw[h]<;>rfl)),if_pos (no aH (by rcases hk with h | h | h | h | h<;>rw[h]<;>rfl)),if_neg (ye aR (fun hC h=>ti hC h) (by rcases hd with rfl | rfl<;>rcases hk with h | h | h | h | h<;>rw[h]<;>rfl))]
    rfl
  · rw[if_pos (no aC (by rcases hk with h | h<;>rw[h]<;>rfl)),if_pos (no aH (by rcases hk with h | h<;>rw[h]<;>rfl)),if_pos (no aR (by rcases hk with h | h<;>rw[h]<;>rfl)),if_neg (ye aW (fun hC h=>ru hC h) (by rcases hd with rfl | rfl<;>rcases hk with h | h<;>rw[h]<;>rfl))]
    rfl
  · rw[if_pos (no aC (by rw[hk]<;>rfl)),if_pos (no aH (by rw[hk]<;>rfl)),if_pos (no aR (by rw[hk]<;>rfl)),if_pos (no aW (by rw[hk]<;>rfl))]
    rfl
  · have no0:∀ (form:Int→Int→ai→Option (ai × aQ)),(∀ C,form dir (b.getD 0 0) C=none)→((ag form dir (b.getD 0 0) (b.drop 1)).2==4)=true:=fun f h=>no f (h _)
    have ne:∀ k:Int,¬ b.getD 0 0=k→(b.getD 0 0==k)=false:=fun k h=>by simpa using h
    obtain⟨z1,z2,z5,a,z3,z4,z6,d,e,g,i,z7,z8,j,l,m,n,o,p⟩:=hk
    rw[if_pos (no0 aC fun C=>by unfold aC;simp only[ne _ z1,ne _ z2,ne _ z5,ne _ a,Bool.or_false,Bool.false_eq_true,if_false]),if_pos (no0 aH fun C=>by unfold aH;simp only[ne _ z3,ne _ z4,ne _ z6,ne _ d,ne _ e,ne _ g,ne _ i,Bool.or_false,Bool.false_eq_true,if_false]),if_pos (no0 aR fun C=>by unfold aR;simp only[ne _ z7,ne _ z8,ne _ j,ne _ l,ne _ m,Bool.or_false,Bool.false_eq_true,if_false]),if_pos (no0 aW fun C=>by unfold aW;simp only[ne _ n,ne _ o,Bool.or_false,Bool.false_eq_true,if_false])]
    exact jY hd (by unfold bz;rw[if_pos (show(b.getD 0 0 != 43)=true from by rw[bne_iff_ne];exact p)])
def gn (dir:Int)(b:List Int) : aQ × Int :=
  if dir != 0&&dir != 1 then (aQ.zero,1)
  else if (b.length:Int)==0 then (aQ.zero,2)
  else if decide (253<(b.length:Int)) then (aQ.zero,3)
  else if decide (128≤b.getD 0 0)&&dir==1 then ee b
  else fj dir b
theorem fp(dir:Int)(b:List Int) : gn dir b=dn dir b:=by
  unfold gn dn
  split
  · rfl
  · rename_i hh
    have hd:dir=0∨dir=1:=by simp only[Bool.and_eq_true,bne_iff_ne,ne_eq] at hh;omega
    rw[pG hd]
open Go.RowKit
theorem qS{x:Int}(hx:0≤x∧x<65536) : eo x=((decide (x≤4)||(decide (10≤x)&&decide (x≤18)))||x==20):=by
  unfold eo
  rw[Bool.eq_iff_iff]
  simp only[decide_eq_true_eq,List.mem_cons,List.not_mem_nil,or_false,Bool.or_eq_true,Bool.and_eq_true,beq_iff_eq]
  omega
theorem lf{x:Int}(hx:0≤x∧x<256) : cT x=((((decide (1≤x)&&decide (x≤6))||x==8)||x==10)||x==11):=by
  unfold cT
  rw[Bool.eq_iff_iff]
  simp only[decide_eq_true_eq,List.mem_cons,List.not_mem_nil,or_false,Bool.or_eq_true,Bool.and_eq_true,beq_iff_eq]
  omega
theorem ww{x:Int}{w:World}(hx:0≤x∧x<65536) : Calls Tryz.prog 160 #[.int .u16 x] w (dM (.bool (eo x)) w):=by
 refine en 17 Tryz.func160 rfl<|sg<|Pl 1<|ng<|Pl 3<|cu 7 [5] 12 (((decide (x≤4))||((decide (10≤x))&&(decide (x≤18))))) (fun K d=>?_) ?_
 refine bl 5 ((decide (x≤4))) (fun a=>?_) (fun a=>?_)
 have g:=of_decide_eq_true a
 exact Pl 7<|ce d true (by rw[a];rfl)
 have g:=of_decide_eq_false a
 refine Pl 3<|cu 3 [8] 11 (((decide (10≤x))&&(decide (x≤18)))) (fun K e=>?_) ?_
 refine bl 8 ((decide (10≤x))) (fun b=>?_) (fun b=>?_)
 have h:=of_decide_eq_true b
 exact Pl 3<|ce e (decide (x≤18)) (by rw[b];rfl)
 have h:=of_decide_eq_false b
 exact Pl 3<|ce e false (by rw[b];rfl)
 exact Pl 1<|ce d ((decide (10≤x))&&(decide (x≤18))) (by rw[a];rfl)
 refine Pl 1<|cu 3 [13] 16 ((((decide (x≤4))||((decide (10≤x))&&(decide (x≤18))))||(x==20))) (fun K f=>?_) ?_
 refine bl 13 (((decide (x≤4))||((decide (10≤x))&&(decide (x≤18))))) (fun c=>?_) (fun c=>?_)
 exact Pl 3<|ce f true (by rw[c];rfl)
 have i:=(aI c).1
 have j:=(aI c).2
 have k:=of_decide_eq_false i
 exact Pl 3<|ce f (x==20) (by rw[c];rfl)
 refine Pl 1<|nt<|rt<|rr (.bool (((decide (x≤4))||((decide (10≤x))&&(decide (x≤18))))||(x==20)))<|?_
 rw[qS hx]
 have hs:((decide (x≤4)||(decide (10≤x)&&decide (x≤18)))||x==20)=(((decide (x≤4))||((decide (10≤x))&&(decide (x≤18))))||(x==20)):=by(try simp only[Bool.true_or,Bool.false_or,Bool.true_and,Bool.false_and,Bool.or_true,Bool.or_false]);all_goals rfl
 rw[hs]
 exact⟨rfl,(aE.refl [] _)⟩
theorem sS{x:Int}{w:World}(hx:0≤x∧x<256) : Calls Tryz.prog 149 #[.int .u8 x] w (dM (.bool (cT x)) w):=by
 refine en 21 Tryz.func149 rfl<|sg<|Pl 1<|ng<|Pl 3<|cu 3 [5] 8 (((decide (1≤x))&&(decide (x≤6)))) (fun K e=>?_) ?_
 refine bl 5 ((decide (1≤x))) (fun a=>?_) (fun a=>?_)
 have j:=of_decide_eq_true a
 exact Pl 3<|ce e (decide (x≤6)) (by rw[a];rfl)
 have j:=of_decide_eq_false a
 exact Pl 3<|ce e false (by rw[a];rfl)
 refine Pl 1<|cu 3 [9] 12 ((((decide (1≤x))&&(decide (x≤6)))||(x==8))) (fun K f=>?_) ?_
 refine bl 9 (((decide (1≤x))&&(decide (x≤6)))) (fun b=>?_) (fun b=>?_)
 have k:=(b6 b).1
 have l:=(b6 b).2
 have p:=of_decide_eq_true k
 have q:=of_decide_eq_true l
 exact Pl 3<|ce f true (by rw[b];rfl)
 exact Pl 3<|ce f (x==8) (by rw[b];rfl)
 refine Pl 1<|cu 3 [13] 16 (((((decide (1≤x))&&(decide (x≤6)))||(x==8))||(x==10))) (fun K g=>?_) ?_
 refine bl 13 ((((decide (1≤x))&&(decide (x≤6)))||(x==8))) (fun c=>?_) (fun c=>?_)
 exact Pl 3<|ce g true (by rw[c];rfl)
 have r:=(aI c).1
 have m:=(aI c).2
 have s:=ak m
 exact Pl 3<|ce g (x==10) (by rw[c];rfl)
 refine Pl 1<|cu 3 [17] 20 ((((((decide (1≤x))&&(decide (x≤6)))||(x==8))||(x==10))||(x==11))) (fun K h=>?_) ?_
 refine bl 17 (((((decide (1≤x))&&(decide (x≤6)))||(x==8))||(x==10))) (fun d=>?_) (fun d=>?_)
 exact Pl 3<|ce h true (by rw[d];rfl)
 have i:=(aI d).1
 have n:=(aI d).2
 have t:=(aI i).1
 have o:=(aI i).2
 have q16abp:=ak o
 have u:=ak n
 exact Pl 3<|ce h (x==11) (by rw[d];rfl)
 refine Pl 1<|nt<|rt<|rr (.bool (((((decide (1≤x))&&(decide (x≤6)))||(x==8))||(x==10))||(x==11)))<|?_
 rw[lf hx]
 have hs:((((decide (1≤x)&&decide (x≤6))||x==8)||x==10)||x==11)=(((((decide (1≤x))&&(decide (x≤6)))||(x==8))||(x==10))||(x==11)):=by(try simp only[Bool.true_or,Bool.false_or,Bool.true_and,Bool.false_and,Bool.or_true,Bool.or_false]);all_goals rfl
 rw[hs]
 exact⟨rfl,(aE.refl [] _)⟩
theorem ib{dir sub v:Int}:fg dir sub v=if sub==1 then (v==0 || v==65280) else if sub==3 then v%256==0 else if dir==1&&(sub==2 || (decide (11≤sub)&&decide (sub≤18))) then true else v==0:=by
  unfold fg
  by_cases h1:sub=1
  · subst h1
    rfl
  by_cases h3:sub=3
  · subst h3
    rfl
  have e1:(sub==1)=false:=by simpa using h1
  have e3:(sub==3)=false:=by simpa using h3
  rw[e1,e3,Bool.and_comm]
  rfl
theorem wg{dir sub v:Int}{w:World}(hv:0≤v∧v<65536) : Calls Tryz.prog 162 #[.int .i64 dir,.int .u16 sub,.int .u16 v] w (dM (.bool (fg dir sub v)) w):=by
 refine en 39 Tryz.func162 rfl<|sg<|Pl 1<|nt<|sq<|bk<|sg<|Pl 3<|nt<|cb ((sub==1)) (fun a=>?_) (fun a=>?_)
 have m:=ae a
 refine sg<|Pl 3<|cu 3 [12] 15 (((v==0)||(v==65280))) (fun K h=>?_) ?_
 refine bl 12 ((v==0)) (fun c=>?_) (fun c=>?_)
 have n:=ae c
 exact Pl 3<|ce h true (by rw[c];rfl)
 have n:=ak c
 exact Pl 3<|ce h (v==65280) (by rw[c];rfl)
 refine Pl 1<|nt<|rt<|br<|tr<|rr (.bool ((v==0)||(v==65280)))<|?_
 have hs:fg dir sub v=((v==0)||(v==65280)):=by
   rw[ib]
   (try simp only[a,bs,if_true,if_false,decide_true,decide_false,reduceIte])
   all_goals rfl
 rw[hs]
 exact⟨rfl,(aE.refl [] _)⟩
 have m:=ak a
 refine sg<|Pl 3<|nt<|cb ((sub==3)) (fun b=>?_) (fun b=>?_)
 have o:=ae b
 refine sg<|Pl 1<|L0<|Oe (.int .u16 (Int.tmod v 256)) (.int .u16 (v%256)) (congrArg (Value.int .u16) (Int.tmod_eq_emod_of_nonneg (by omega)))<|Pl 2<|nt<|rt<|br<|tr<|rr (.bool ((v%256)==0))<|?_
 have hs:fg dir sub v=((v%256)==0):=by
   rw[ib]
   (try simp only[a,b,bs,if_true,if_false,decide_true,decide_false,reduceIte])
   all_goals rfl
 rw[hs]
 exact⟨rfl,(aE.refl [] _)⟩
 have o:=ak b
 refine sg<|Pl 3<|cu 11 [25] 36 (((dir==1)&&((sub==2)||((decide (11≤sub))&&(decide (sub≤18)))))) (fun K i=>?_) ?_
 refine bl 25 ((dir==1)) (fun d=>?_) (fun d=>?_)
 have p:=ae d
 refine Pl 3<|cu 7 [28] 35 (((sub==2)||((decide (11≤sub))&&(decide (sub≤18))))) (fun K j=>?_) ?_
 refine bl 28 ((sub==2)) (fun e=>?_) (fun e=>?_)
 have q:=ae e
 exact Pl 7<|ce j true (by rw[e];rfl)
 have q:=ak e
 refine Pl 3<|cu 3 [31] 34 (((decide (11≤sub))&&(decide (sub≤18)))) (fun K k=>?_) ?_
 refine bl 31 ((decide (11≤sub))) (fun f=>?_) (fun f=>?_)
 have r:=of_decide_eq_true f
 exact Pl 3<|ce k (decide (sub≤18)) (by rw[f];rfl)
 have r:=of_decide_eq_false f
 exact Pl 3<|ce k false (by rw[f];rfl)
 exact Pl 1<|ce j ((decide (11≤sub))&&(decide (sub≤18))) (by rw[e];rfl)
 exact Pl 1<|ce i ((sub==2)||((decide (11≤sub))&&(decide (sub≤18)))) (by rw[d];rfl)
 have p:=ak d
 exact Pl 11<|ce i false (by rw[d];rfl)
 refine Pl 1<|nt<|cb (((dir==1)&&((sub==2)||((decide (11≤sub))&&(decide (sub≤18)))))) (fun g=>?_) (fun g=>?_)
 have l:=(b6 g).1
 have s:=(b6 g).2
 have t:=ae l
 refine sg<|Pl 1<|nt<|rt<|br<|tr<|rr (.bool true)<|?_
 have hs:fg dir sub v=true:=by
   rw[ib]
   (try simp only[a,b,g,l,s,bs,if_true,if_false,decide_true,decide_false,reduceIte])
   all_goals rfl
 rw[hs]
 exact⟨rfl,(aE.refl [] _)⟩
 refine sk<|bn<|tn<|sg<|Pl 3<|nt<|rt<|rr (.bool (v==0))<|?_
 have hs:fg dir sub v=(v==0):=by
   rw[ib]
   (try simp only[a,b,g,bs,if_true,if_false,decide_true,decide_false,reduceIte])
   all_goals rfl
 rw[hs]
 exact⟨rfl,(aE.refl [] _)⟩
end Go.Proofs.YtogbnemojakcpaaGreat
