/- Contracts of functions, part CPduParses5. -/
import Derived.Test.YtogbnemojakcpaaGreatCPduParses1
import Derived.Test.YtogbnemojakcpaaGreatCPduParses2
import Derived.Test.YtogbnemojakcpaaGreatCPduParses3
import Derived.Test.YtogbnemojakcpaaGreatCPduParses4
set_option linter.unusedVariables false
set_option linter.unusedSimpArgs false
set_option maxRecDepth 100000
set_option maxHeartbeats 4000000
namespace Go.Proofs.YtogbnemojakcpaaGreat
open Go.RowKit
theorem RC.lt{w0:World}{m:Md}{A:Option Addr}{cp:Nat}{full:List Int}{w:World}{g:Nat}{C:aa}(h:RC w0 m A cp full w g C) : g<w.heap.size:=by
  obtain⟨k,h1,_⟩:=h.cell
  exact ak h1
theorem RC.fld{w0:World}{m:Md}{A:Option Addr}{cp:Nat}{full:List Int}{w:World}{g:Nat}{C:aa}(h:RC w0 m A cp full w g C) : w.cell? ⟨g,3,none⟩=some (.int .i64 C.e):=by
  obtain⟨k,h1,_⟩:=h.cell
  rw[bv h1]
  rfl
theorem lR{c:Int}{C:aa}(h:(((c==3)||(c==4))||(c==23))=true) : aH 1 c C=some (bO c C):=by
  unfold aH
  by_cases h1:(c==3 || c==4)=true
  · rw[if_pos h1]
    rfl
  · rw[if_neg h1]
    have h2:c=23:=by
      simp only[Bool.or_eq_true,beq_iff_eq] at h h1
      omega
    subst h2
    rfl
theorem ii{n m:Int}:((n%2==0&&decide (0<n))&&decide (n≤m))=hY n m:=by
  unfold hY
  rw[Bool.eq_iff_iff]
  simp only[Bool.and_eq_true,decide_eq_true_eq,beq_iff_eq]
  omega
theorem ij{a k:Int}:(a==2*k+2)=(2+2*k==a):=by
  rw[Bool.eq_iff_iff]
  simp only[beq_iff_eq]
  omega
theorem dg{x:Int}:decide (0<x)=decide (1≤x):=by
  rw[Bool.eq_iff_iff]
  simp only[decide_eq_true_eq]
  omega
theorem iY{w0:World}{m:Md}{A:Option Addr}{cp:Nat}{full:List Int}{w:World}{g:Nat}{C:aa}{a most:Int}(ha:0≤a∧a<65536)(hC:RC w0 m A cp full w g C) :
    Calls Tryz.prog 159 #[.pointer (some ⟨g,0,none⟩),.int .u16 a,.int .i64 most] w (mi w0 m A cp full g .i64 65536 C.wordV (aS C a most) w):=by
 have hrng:=bR (RC.rng hC)
 refine en 26 Tryz.func159 rfl<|sg<|Pl 1<|ng<|Pl 1<|L0<|Oc<|m3 (cK hC) fun r f h s=>L0<|Oi C.wordV<|Pl 1<|nt<|?_
 refine sg<|Pl 4<|cu 4 [14] 18 (((decide (0<C.wordV))&&(decide (C.wordV≤most)))) (fun K d=>?_) ?_
 refine bl 14 ((decide (0<C.wordV))) (fun b=>?_) (fun b=>?_)
 have i:=of_decide_eq_true b
 exact Pl 4<|ce d (decide (C.wordV≤most)) (by rw[b];rfl)
 have i:=of_decide_eq_false b
 exact Pl 4<|ce d false (by rw[b];rfl)
 refine L0<|Oc<|m2 (aU (((decide (0<C.wordV))&&(decide (C.wordV≤most)))) 5 f) fun j k l=>?_
 refine eX k fun x19 o e=>?_
 refine ng<|Pl 3<|L0<|Oc<|m1 (nk (a:=a) (n:=C.wordV) (w:=j) (by omega) (by omega)) fun t c=>?_
 refine L0<|Oc<|m2 (aU ((dc a C.wordV)) 7 (RC.upd e c ay (aE.step (RC.u e) c))) fun v p q=>ng<|Pl 2<|nt<|rt<|rr (.int .i64 C.wordV)<|?_
 subst o
 have e1:aS C a most=((C.wordsC 1).need (decide (0<C.wordV)&&decide (C.wordV≤most)) 5).need (dc a C.wordV) 7:=by unfold aS;rw[← dg]
 rw[e1]
 exact⟨rfl,p,(u1 h (u1 l (uz c q) im) im),hrng⟩
theorem aK.upd0{α:Type}{m:Md}{e:TypeId}{sz:Nat}{R R':World→α→List Value→Prop}{w:World}{v:Value}{xs:List α}(h:aK m e sz R w v xs)(hR:∀ x cs,R w x cs→R' w x cs) : aK m e sz R' w v xs:=by
  obtain⟨A,c,rfl,h1,h2,h0,h3⟩:=h
  refine⟨A,c,rfl,h1,h2,h0,fun hp=>?_⟩
  obtain⟨b,off,cells,t,fr,rfl,hb,ht,hx⟩:=h3 hp
  exact⟨b,off,cells,t,fr,rfl,hb,ht,fun j x hj=>by obtain⟨cs,hl,hr,hc⟩:=hx j x hj;exact⟨cs,hl,hR _ _ hr,hc⟩⟩
def m6 (v0:Value)(b:List Int)(w:World)(o:Obj)(cs:List Value) : Prop:=∃ A n c,cs=[.int .u8 o.id,.slice A n c]∧(∀ m' w',bi m' w' v0 b→bi m' w' (.slice A n c) o.value)∧B8 o.id
theorem m6.ones{v0:Value}{b:List Int}{w:World}(x:Obj)(cs:List Value)(h:m6 v0 b w x cs) : ∀ v,v∈cs→v.oneCell'=true:=by
  obtain⟨A,n,c,rfl,h2,_⟩:=h
  intro u hu
  simp at hu
  rcases hu with rfl|rfl<;>rfl
def dn (v0:Value)(b:List Int)(w:World)(cs:List Value)(M:aP) : Prop :=
  ∃ vw vb vd vr vo,cs=bP M vw vb vd vr vo∧dG true w vw M.words∧fP true w vb M.bits∧(∀ m' w',bi m' w' v0 b→bi m' w' vd M.data)∧jF true w vr M.recs∧aK true 111 2 (m6 v0 b) w vo M.objects∧eU M
theorem dn.rd{v0:Value}{b:List Int}{m:Md}{w:World}{cs:List Value}{M:aP}(h:dn v0 b w cs M)(hb:bi m w v0 b) : b6 false w cs M:=by
  obtain⟨vw,vb,vd,vr,vo,h0,h1,h2,h3,h4,h5,h6⟩:=h
  exact⟨vw,vb,vd,vr,vo,h0,aK.any h1 fun _ _ q=>q,aK.any h2 fun _ _ q=>q,aK.any (h3 _ _ hb) fun _ _ q=>q,aK.any h4 fun r cs ⟨v,a,b,c⟩=>⟨v,a,aK.any b fun _ _ q=>q,c⟩,aK.any h5 fun r cs ⟨A,n,k,a,b,c⟩=>⟨_,a,aK.any (b _ _ hb) fun _ _ q=>q,c⟩,h6⟩
theorem dn.sub{v0 v1:Value}{b b1:List Int}{w:World}{cs:List Value}{M:aP}(h:dn v1 b1 w cs M)(hv:∀ m' w',bi m' w' v0 b→bi m' w' v1 b1) : dn v0 b w cs M:=by
  obtain⟨vw,vb,vd,vr,vo,h0,h1,h2,h3,h4,h5,h6⟩:=h
  exact⟨vw,vb,vd,vr,vo,h0,h1,h2,fun m' w' q=>h3 _ _ (hv _ _ q),h4,aK.upd0 h5 fun r cs ⟨A,n,k,a,b,c⟩=>⟨A,n,k,a,fun m' w' q=>b _ _ (hv _ _ q),c⟩,h6⟩
theorem dn.upd{v0:Value}{b:List Int}{w w':World}{cs:List Value}{M:aP}{S:List Nat}(h:dn v0 b w cs M)(hu:aE S w w')(hs:cU true jU S w) : dn v0 b w' cs M:=by
  obtain⟨vw,vb,vd,vr,vo,h0,h1,h2,h3,h4,h5,h6⟩:=h
  exact⟨vw,vb,vd,vr,vo,h0,dG.upd' h1 hu (hs.sub (by decide)),fP.upd' h2 hu (hs.sub (by decide)),h3,jF.upd' h4 hu hs,aK.upd h5 hu (hs.sub (by decide)) (fun _ _ q=>q),h6⟩
theorem dn.zero(v0:Value)(b:List Int)(w:World) : dn v0 b w kR.toList aP.zero:=by
  obtain⟨vw,vb,vd,vr,vo,h0,h1,h2,h3,h4,h5,h6⟩:=b6.zero true w
  exact⟨_,_,_,_,_,rfl,aK.nil ..,aK.nil ..,(fun _ _ _=>aK.nil ..),aK.nil ..,aK.nil ..,h6⟩
theorem dn.size{v0:Value}{b:List Int}{w:World}{cs:Array Value}{M:aP}(h:dn v0 b w cs.toList M) : cs.size=22:=by
  obtain⟨vw,vb,vd,vr,vo,h0,_⟩:=h
  rw[← Array.length_toList,h0]
  rfl
theorem dn.one{v0:Value}{b:List Int}{w w2:World}{m:Md}{cs:Array Value}{M:aP}(h:dn v0 b w cs.toList M)(hb:bi m w2 v0 b) : cs.all (·.oneCell')=true:=by
  obtain⟨vw,vb,vd,vr,vo,h0,h1,h2,h3,h4,h5,h6⟩:=h
  rw[← Array.all_toList,h0]
  obtain⟨_,_,rfl,_⟩:=h1
  obtain⟨_,_,rfl,_⟩:=h2
  obtain⟨_,_,rfl,_⟩:=h3 _ _ hb
  obtain⟨_,_,rfl,_⟩:=h4
  obtain⟨_,_,rfl,_⟩:=h5
  rfl
def d7 (v0:Value)(b:List Int)(res:aP × Int)(w:World)(e:Ending)(w':World) : Prop:=∃ cs,e = .returned (.tuple #[.agg cs,.int .i64 res.2])∧dn v0 b w' cs.toList res.1∧aE [] w w'
theorem bo{v0:Value}{b:List Int}{M:aP}{c:aa}{w W:World}{cs:Array Value}(h0:c.endC.e=0)(h:dn v0 b W cs.toList M)(hu:aE [] w W) : d7 v0 b (aF M c) w (.returned (.tuple #[.agg cs,.int .i64 0])) W:=by
  unfold aF
  rw[if_pos h0]
  exact⟨cs,rfl,h,hu⟩
theorem bg{v0:Value}{b:List Int}{M:aP}{c:aa}{w W:World}(h0:¬ c.endC.e=0)(hu:aE [] w W) : d7 v0 b (aF M c) w (.returned (.tuple #[.agg kR,.int .i64 c.endC.e])) W:=by
  unfold aF
  rw[if_neg h0]
  exact⟨kR,rfl,dn.zero ..,hu⟩
theorem bu{v0:Value}{b:List Int}{x:Int}{w W:World}(hu:aE [] w W) : d7 v0 b (aP.zero,x) w (.returned (.tuple #[.agg kR,.int .i64 x])) W:=⟨kR,rfl,dn.zero ..,hu⟩
theorem jC{m:Md}{A:Option Addr}{cp:Nat}{b:List Int}{w:World}{c:Int}(hcode:B8 c)(hsl:bi m w (.slice A b.length cp) b)(hb:b.length≤1048576) :
    Calls Tryz.prog 94 #[.int .i64 0,.int .u8 c,.slice A b.length cp] w (d7 (.slice A b.length cp) b (ag aH 0 c b) w):=by
 obtain⟨hcode1,hcode2⟩:=hcode
 have hln:(b.length:Int)≤1048576:=by omega
 refine en 221 Tryz.func94 rfl<|sg<|L0<|bK mZ fun eH eI t j f=>Pl 1<|nt<|sq<|sg<|Pl 6<|nt<|c0<|?_
 refine bz<|sg<|Pl 2<|L0<|du #[.slice A b.length cp,.int .i64 0,.bool false,.int .i64 0] fun k eJ d o i=>Pl 1<|ng<|Pl 2<|L0<|bK mZ fun eK eL g a8 F=>L0<|b7 a8 (mC c) fun a4 a5 y=>?_
 refine nt<|sq<|bk<|sg<|Pl 15<|nt<|c0<|sg<|Pl 3<|cu 3 [68] 71 (((c==3)||(c==4))) (fun K bQ=>?_) ?_
 refine bl 68 ((c==3)) (fun a9=>?_) (fun a9=>?_)
 have dq:=am a9
 exact Pl 3<|ce bQ true (by rw[a9];rfl)
 have dq:=ap a9
 exact Pl 3<|ce bQ (c==4) (by rw[a9];rfl)
 refine Pl 1<|nt<|?_
 have Y:=ud F y g
 have r:=aI i Y
 have z:=aI f r
 refine cb (((c==3)||(c==4))) (fun q=>?_) (fun q=>?_)
 refine sg<|Pl 1<|?_
 have dr:RC w _ A cp b a4 k (aa.mk b false 0):=⟨hsl,z,(Nat.le_trans f.size d),⟨0,(ub Y o),Nat.zero_le _,rfl⟩,by omega⟩
 refine L0<|Oc<|m3 (cK dr) fun eM ds bR eN=>Pl 1<|?_
 have ab:=nb (ak o) lr g
 refine L0<|bU (aT bR (Ne.symm ab) a5) 2 (mG c 0 ((aa.mk b false 0).wordV) 0 0 0 0 0 0 0 0 0 nS nS nS nS 0 0 0 0 0 nS) fun eO bS bT=>nt<|go<|Pl 2<|L0<|aR bS 2<|?_
 have b4:=us bR bT
 have bV:=ut z b4 (ac (ni f.size d) (ac (ni (le f.size i.size) g) aq))
 refine L0<|Oc<|m3 (iY (a:=(aa.mk b false 0).wordV) (most:=125) (by omega) (RC.upd ds bT (ae ab ay) bV)) fun eP dt bW eQ=>?_
 refine eX dt fun x52 bX dv=>?_
 refine L0<|sX (((aa.mk b false 0).wordsC 1).wordV)<|Pl 1<|?_
 refine L0<|bU (aT bW (Ne.symm ab) bS) 3 (mG c 0 ((aa.mk b false 0).wordV) (((aa.mk b false 0).wordsC 1).wordV) 0 0 0 0 0 0 0 0 nS nS nS nS 0 0 0 0 0 nS) fun eR dw bY=>nl<|bn<|tn<|sg<|Pl 1<|?_
 have b5:=us bW bY
 have c2:=ut bV b5 (ac (ni f.size d) (ac (ni (le f.size i.size) g) aq))
 refine L0<|Oc<|m2 (dR (RC.upd dv bY (ae ab ay) c2)) fun eS b6 aN=>nt<|sq<|sg<|Pl 3<|L0<|ec (p:=⟨k,3,none⟩) (v:=.int .i64 x52.endC.e) (RC.fld b6)<|Pl 1<|nt<|?_
 have c3:=ud c2 aN (le f.size d)
 refine cb ((x52.endC.e != 0)) (fun ad=>?_) (fun ad=>?_)
 have b9:=av ad
 refine sq<|Rg 7 (fun w'=>w'.cell? ⟨k,3,none⟩=some (.int .i64 x52.endC.e)) fun eT aO=>?_
 have c4:=RC.upd b6 aO ay (aE.step (RC.u b6) aO)
 refine bh (RC.fld c4) fun af=>Rt 0 af<|Rt 1 af<|Rt 2 af<|Rt 3 af<|Rl 4 af (fun _ hs=>hs)<|?_
 refine R0 5 rfl<|b7 (ub (ut r (ut b4 (u1 b5 (aI aN aO) im) (ac im (ac im aq))) (ac (nr d) (ac (ni i.size g) aq))) j) mZ fun eU dx c5=>?_
 have c6:=ud c3 (uz aO c5) t
 refine bh (RC.fld (RC.upd c4 c5 (ae (Ne.symm (nb (ak j) lr d)) ay) c6)) fun dy=>Rt 6 dy<|re<|tn<|rt<|tr<|bL dx (.int .i64 x52.endC.e)<|?_
 subst bX
 have hs:ag aH 0 c b=aF (aP.mk c 0 ((aa.mk b false 0).wordV) (((aa.mk b false 0).wordsC 1).wordV) 0 0 0 0 0 0 0 0 [] [] [] [] 0 0 0 0 0 []) (aS ((aa.mk b false 0).wordsC 1) ((aa.mk b false 0).wordV) 125):=by
   unfold ag aH bI bO cP cA ck cz cy gi
   (try simp only[q,ad,bs,if_true,if_false,decide_true,decide_false,eq_self,true_or,or_true,or_false,false_or,if_true,if_false,ch,cc,cg,ci,reduceIte,ii,ij])
   all_goals rfl
 rw[hs]
 exact bg b9 c6
 have b9:=ai ad
 refine bz<|sg<|?_
 refine L0<|bZ (aT aN (Ne.symm ab) dw)<|?_
 refine L0<|b7 (ub (ut r (ut b4 (u1 b5 aN im) (ac im (ac im aq))) (ac (nr d) (ac (ni i.size g) aq))) j) (mG c 0 ((aa.mk b false 0).wordV) (((aa.mk b false 0).wordsC 1).wordV) 0 0 0 0 0 0 0 0 nS nS nS nS 0 0 0 0 0 nS) fun eV dz dA=>Pl 1<|nt<|rt<|bL dz (.int .i64 0)<|?_
 subst bX
 have hs:ag aH 0 c b=aF (aP.mk c 0 ((aa.mk b false 0).wordV) (((aa.mk b false 0).wordsC 1).wordV) 0 0 0 0 0 0 0 0 [] [] [] [] 0 0 0 0 0 []) (aS ((aa.mk b false 0).wordsC 1) ((aa.mk b false 0).wordV) 125):=by
   unfold ag aH bI bO cP cA ck cz cy gi
   (try simp only[q,ad,bs,if_true,if_false,decide_true,decide_false,eq_self,true_or,or_true,or_false,false_or,if_true,if_false,ch,cc,cg,ci,reduceIte,ii,ij])
   all_goals rfl
 rw[hs]
 exact bo b9 ⟨_,_,_,_,_,rfl,aK.nil ..,aK.nil ..,(fun _ _ _=>aK.nil ..),aK.nil ..,aK.nil ..,⟨(b8 (x:=c) (by omega)),(b8 (x:=0) (by omega)),(aB (x:=(aa.mk b false 0).wordV) (by omega)),(aB (x:=((aa.mk b false 0).wordsC 1).wordV) (by omega)),(aB (x:=0) (by omega)),(aB (x:=0) (by omega)),(aB (x:=0) (by omega)),(aB (x:=0) (by omega)),(aB (x:=0) (by omega)),(aB (x:=0) (by omega)),(aB (x:=0) (by omega)),(aB (x:=0) (by omega)),(b8 (x:=0) (by omega)),(b8 (x:=0) (by omega)),(b8 (x:=0) (by omega)),(b8 (x:=0) (by omega)),(b8 (x:=0) (by omega))⟩⟩ (ud c3 dA t)
 have B:=(aJ q).1
 have C:=(aJ q).2
 have eW:=ap B
 have eY:=ap C
 refine sg<|Pl 3<|nt<|cb ((c==6)) (fun s=>?_) (fun s=>?_)
 have dC:=am s
 refine sg<|Pl 1<|?_
 have dD:RC w _ A cp b a4 k (aa.mk b false 0):=⟨hsl,z,(Nat.le_trans f.size d),⟨0,(ub Y o),Nat.zero_le _,rfl⟩,by omega⟩
 refine L0<|Oc<|m3 (cK dD) fun eZ dE c7 f0=>Pl 1<|?_
 have ah:=nb (ak o) lr g
 refine L0<|bU (aT c7 (Ne.symm ah) a5) 2 (mG c 0 ((aa.mk b false 0).wordV) 0 0 0 0 0 0 0 0 0 nS nS nS nS 0 0 0 0 0 nS) fun f1 dF c8=>nt<|go<|Pl 1<|?_
 have ba:=us c7 c8
 have c9:=ut z ba (ac (ni f.size d) (ac (ni (le f.size i.size) g) aq))
 refine L0<|Oc<|m3 (cK (RC.upd dE c8 (ae ah ay) c9)) fun f2 dG ca f3=>Pl 1<|?_
 refine L0<|bU (aT ca (Ne.symm ah) dF) 4 (mG c 0 ((aa.mk b false 0).wordV) 0 (((aa.mk b false 0).wordsC 1).wordV) 0 0 0 0 0 0 0 nS nS nS nS 0 0 0 0 0 nS) fun f4 dH cd=>nl<|bn<|tn<|sg<|Pl 1<|?_
 have bb:=us ca cd
 have cj:=ut c9 bb (ac (ni f.size d) (ac (ni (le f.size i.size) g) aq))
 refine L0<|Oc<|m2 (dR (RC.upd dG cd (ae ah ay) cj)) fun f5 bc aQ=>nt<|sq<|sg<|Pl 3<|L0<|ec (p:=⟨k,3,none⟩) (v:=.int .i64 (((((aa.mk b false 0).wordsC 1).wordsC 1).endC).e)) (RC.fld bc)<|Pl 1<|nt<|?_
 have cl:=ud cj aQ (le f.size d)
 refine cb (((((((aa.mk b false 0).wordsC 1).wordsC 1).endC).e)!=0)) (fun aj=>?_) (fun aj=>?_)
 have bd:=av aj
 refine sq<|Rg 7 (fun w'=>w'.cell? ⟨k,3,none⟩=some (.int .i64 (((((aa.mk b false 0).wordsC 1).wordsC 1).endC).e))) fun f6 aV=>?_
 have cm:=RC.upd bc aV ay (aE.step (RC.u bc) aV)
 refine bh (RC.fld cm) fun al=>Rt 0 al<|Rt 1 al<|Rt 2 al<|Rt 3 al<|Rl 4 al (fun _ hs=>hs)<|?_
 refine R0 5 rfl<|b7 (ub (ut r (ut ba (u1 bb (aI aQ aV) im) (ac im (ac im aq))) (ac (nr d) (ac (ni i.size g) aq))) j) mZ fun f7 dI cn=>?_
 have co:=ud cl (uz aV cn) t
 refine bh (RC.fld (RC.upd cm cn (ae (Ne.symm (nb (ak j) lr d)) ay) co)) fun dJ=>Rt 6 dJ<|re<|tn<|rt<|tr<|bL dI (.int .i64 (((((aa.mk b false 0).wordsC 1).wordsC 1).endC).e))<|?_
 have hs:ag aH 0 c b=aF (aP.mk c 0 ((aa.mk b false 0).wordV) 0 (((aa.mk b false 0).wordsC 1).wordV) 0 0 0 0 0 0 0 [] [] [] [] 0 0 0 0 0 []) (((aa.mk b false 0).wordsC 1).wordsC 1):=by
   unfold ag aH bI bO cP cA ck cz cy gi
   (try simp only[q,B,C,s,aj,bs,if_true,if_false,decide_true,decide_false,eq_self,true_or,or_true,or_false,false_or,if_true,if_false,ch,cc,cg,ci,reduceIte,ii,ij])
   all_goals rfl
 rw[hs]
 exact bg bd co
 have bd:=ai aj
 refine bz<|sg<|?_
 refine L0<|bZ (aT aQ (Ne.symm ah) dH)<|?_
 refine L0<|b7 (ub (ut r (ut ba (u1 bb aQ im) (ac im (ac im aq))) (ac (nr d) (ac (ni i.size g) aq))) j) (mG c 0 ((aa.mk b false 0).wordV) 0 (((aa.mk b false 0).wordsC 1).wordV) 0 0 0 0 0 0 0 nS nS nS nS 0 0 0 0 0 nS) fun f8 dK dL=>Pl 1<|nt<|rt<|bL dK (.int .i64 0)<|?_
 have hs:ag aH 0 c b=aF (aP.mk c 0 ((aa.mk b false 0).wordV) 0 (((aa.mk b false 0).wordsC 1).wordV) 0 0 0 0 0 0 0 [] [] [] [] 0 0 0 0 0 []) (((aa.mk b false 0).wordsC 1).wordsC 1):=by
   unfold ag aH bI bO cP cA ck cz cy gi
   (try simp only[q,B,C,s,aj,bs,if_true,if_false,decide_true,decide_false,eq_self,true_or,or_true,or_false,false_or,if_true,if_false,ch,cc,cg,ci,reduceIte,ii,ij])
   all_goals rfl
 rw[hs]
 exact bo bd ⟨_,_,_,_,_,rfl,aK.nil ..,aK.nil ..,(fun _ _ _=>aK.nil ..),aK.nil ..,aK.nil ..,⟨(b8 (x:=c) (by omega)),(b8 (x:=0) (by omega)),(aB (x:=(aa.mk b false 0).wordV) (by omega)),(aB (x:=0) (by omega)),(aB (x:=((aa.mk b false 0).wordsC 1).wordV) (by omega)),(aB (x:=0) (by omega)),(aB (x:=0) (by omega)),(aB (x:=0) (by omega)),(aB (x:=0) (by omega)),(aB (x:=0) (by omega)),(aB (x:=0) (by omega)),(aB (x:=0) (by omega)),(b8 (x:=0) (by omega)),(b8 (x:=0) (by omega)),(b8 (x:=0) (by omega)),(b8 (x:=0) (by omega)),(b8 (x:=0) (by omega))⟩⟩ (ud cl dL t)
 have dC:=ap s
 refine sg<|Pl 3<|nt<|cb ((c==16)) (fun D=>?_) (fun D=>?_)
 have dM:=am D
 refine sg<|Pl 1<|?_
 have dN:RC w _ A cp b a4 k (aa.mk b false 0):=⟨hsl,z,(Nat.le_trans f.size d),⟨0,(ub Y o),Nat.zero_le _,rfl⟩,by omega⟩
 refine L0<|Oc<|m3 (cK dN) fun f9 dO I fb=>Pl 1<|?_
 have G:=nb (ak o) lr g
 refine L0<|bU (aT I (Ne.symm G) a5) 2 (mG c 0 ((aa.mk b false 0).wordV) 0 0 0 0 0 0 0 0 0 nS nS nS nS 0 0 0 0 0 nS) fun fc cq J=>ng<|Pl 2<|L0<|aR cq 2<|?_
 have be:=us I J
 have cr:=ut z be (ac (ni f.size d) (ac (ni (le f.size i.size) g) aq))
 refine L0<|Oc<|m3 (iY (a:=(aa.mk b false 0).wordV) (most:=123) (by omega) (RC.upd dO J (ae G ay) cr)) fun fd dP L fe=>?_
 refine eX dP fun cs ct dQ=>?_
 refine L0<|sX (((aa.mk b false 0).wordsC 1).wordV)<|Pl 1<|?_
 refine L0<|bU (aT L (Ne.symm G) cq) 3 (mG c 0 ((aa.mk b false 0).wordV) (((aa.mk b false 0).wordsC 1).wordV) 0 0 0 0 0 0 0 0 nS nS nS nS 0 0 0 0 0 nS) fun ff dS M=>ng<|Pl 2<|nt<|c1<|sg<|Pl 1<|?_
 have bf:=us L M
 have cv:=ut cr bf (ac (ni f.size d) (ac (ni (le f.size i.size) g) aq))
 refine L0<|Oc<|m3 (dB (RC.upd dQ M (ae G ay) cv)) fun fg dT N fh=>L0<|Oi cs.byteV<|Pl 1<|ng<|Pl 3<|?_
 have cw:=aT N (Ne.symm G) dS
 refine L0<|aR cw 3<|L0<|Oi (((aa.mk b false 0).wordsC 1).wordV)<|L0<|Oi (2*(((aa.mk b false 0).wordsC 1).wordV))<|Pl 1<|L0<|Oc<|m2 (aU ((cs.byteV==(2*(((aa.mk b false 0).wordsC 1).wordV)))) 5 dT) fun fi dU O=>?_
 refine eX dU fun a6 cx dV=>?_
 refine nt<|go<|Pl 2<|?_
 have cB:=aT O (Ne.symm G) cw
 refine L0<|aR cB 3<|L0<|Oi (((aa.mk b false 0).wordsC 1).wordV)<|L0<|Oc<|kY (fa (n:=((aa.mk b false 0).wordsC 1).wordV) (by omega) dV) fun cC cD fj P fk fl dW cE=>Pl 1<|?_
 refine L0<|bU (aT cE (Ne.symm G) cB) 12 (mG c 0 ((aa.mk b false 0).wordV) (((aa.mk b false 0).wordsC 1).wordV) 0 0 0 0 0 0 0 0 (.slice cC ((a6.wordsR (((aa.mk b false 0).wordsC 1).wordV)).length) cD) nS nS nS 0 0 0 0 0 nS) fun fm dX aW=>nl<|bn<|tn<|sg<|Pl 1<|?_
 have bj:=ui N (ui O (us cE aW))
 have cF:=ut cv bj (ac (ni f.size d) (ac (ni (le f.size i.size) g) aq))
 refine L0<|Oc<|m2 (dR (RC.upd dW aW (ae G ay) cF)) fun fn bm an=>nt<|sq<|sg<|Pl 3<|L0<|ec (p:=⟨k,3,none⟩) (v:=.int .i64 (((a6.wordsC (((aa.mk b false 0).wordsC 1).wordV)).endC).e)) (RC.fld bm)<|Pl 1<|nt<|?_
 have cG:=ud cF an (le f.size d)
 refine cb (((((a6.wordsC (((aa.mk b false 0).wordsC 1).wordV)).endC).e)!=0)) (fun ao=>?_) (fun ao=>?_)
 have bp:=av ao
 refine sq<|Rg 7 (fun w'=>w'.cell? ⟨k,3,none⟩=some (.int .i64 (((a6.wordsC (((aa.mk b false 0).wordsC 1).wordV)).endC).e))) fun fo aX=>?_
 have cH:=RC.upd bm aX ay (aE.step (RC.u bm) aX)
 refine bh (RC.fld cH) fun ar=>Rt 0 ar<|Rt 1 ar<|Rt 2 ar<|Rt 3 ar<|Rl 4 ar (fun _ hs=>hs)<|?_
 have cI:=aI an aX
 refine R0 5 rfl<|b7 (ub (ut r (ut be (ut bf (u1 bj cI im) (ac im (ac im aq))) (ac im (ac im aq))) (ac (nr d) (ac (ni i.size g) aq))) j) mZ fun fp dY bq=>?_
 have cJ:=ud cG (uz aX bq) t
 refine bh (RC.fld (RC.upd cH bq (ae (Ne.symm (nb (ak j) lr d)) ay) cJ)) fun dZ=>Rt 6 dZ<|re<|tn<|rt<|tr<|bL dY (.int .i64 (((a6.wordsC (((aa.mk b false 0).wordsC 1).wordV)).endC).e))<|?_
 subst cx ct
 have fq:=ax P (us aW (us cI bq)) (fun x hx=>(ae (fun e=>(aA (ak a8) (le (le (le (le (le (le y.size I.size) J.size) L.size) M.size) N.size) O.size) P) (e▸hx)) (ae (fun e=>(aA (ak o) (le (le (le (le (le (le (le F.size y.size) I.size) J.size) L.size) M.size) N.size) O.size) P) (e▸hx)) (ae (fun e=>(aA (ak j) (le (le (le (le (le (le (le (le i.size F.size) y.size) I.size) J.size) L.size) M.size) N.size) O.size) P) (e▸hx)) ay)))) (fun _ _ h=>h)
 have hs:ag aH 0 c b=aF (aP.mk c 0 ((aa.mk b false 0).wordV) (((aa.mk b false 0).wordsC 1).wordV) 0 0 0 0 0 0 0 0 ((((aS ((aa.mk b false 0).wordsC 1) ((aa.mk b false 0).wordV) 123).bytesC 1).need ((aS ((aa.mk b false 0).wordsC 1) ((aa.mk b false 0).wordV) 123).byteV==(2*(((aa.mk b false 0).wordsC 1).wordV))) 5).wordsR (((aa.mk b false 0).wordsC 1).wordV)) [] [] [] 0 0 0 0 0 []) ((((aS ((aa.mk b false 0).wordsC 1) ((aa.mk b false 0).wordV) 123).bytesC 1).need ((aS ((aa.mk b false 0).wordsC 1) ((aa.mk b false 0).wordV) 123).byteV==(2*(((aa.mk b false 0).wordsC 1).wordV))) 5).wordsC (((aa.mk b false 0).wordsC 1).wordV)):=by
   unfold ag aH bI bO cP cA ck cz cy gi
   (try simp only[q,B,C,s,D,ao,bs,if_true,if_false,decide_true,decide_false,eq_self,true_or,or_true,or_false,false_or,if_true,if_false,ch,cc,cg,ci,reduceIte,ii,ij])
   all_goals rfl
 rw[hs]
 exact bg bp cJ
 have bp:=ai ao
 refine bz<|sg<|?_
 refine L0<|bZ (aT an (Ne.symm G) dX)<|?_
 refine L0<|b7 (ub (ut r (ut be (ut bf (u1 bj an im) (ac im (ac im aq))) (ac im (ac im aq))) (ac (nr d) (ac (ni i.size g) aq))) j) (mG c 0 ((aa.mk b false 0).wordV) (((aa.mk b false 0).wordsC 1).wordV) 0 0 0 0 0 0 0 0 (.slice cC ((a6.wordsR (((aa.mk b false 0).wordsC 1).wordV)).length) cD) nS nS nS 0 0 0 0 0 nS) fun fr e0 cL=>Pl 1<|nt<|rt<|bL e0 (.int .i64 0)<|?_
 subst cx ct
 have hs:ag aH 0 c b=aF (aP.mk c 0 ((aa.mk b false 0).wordV) (((aa.mk b false 0).wordsC 1).wordV) 0 0 0 0 0 0 0 0 ((((aS ((aa.mk b false 0).wordsC 1) ((aa.mk b false 0).wordV) 123).bytesC 1).need ((aS ((aa.mk b false 0).wordsC 1) ((aa.mk b false 0).wordV) 123).byteV==(2*(((aa.mk b false 0).wordsC 1).wordV))) 5).wordsR (((aa.mk b false 0).wordsC 1).wordV)) [] [] [] 0 0 0 0 0 []) ((((aS ((aa.mk b false 0).wordsC 1) ((aa.mk b false 0).wordV) 123).bytesC 1).need ((aS ((aa.mk b false 0).wordsC 1) ((aa.mk b false 0).wordV) 123).byteV==(2*(((aa.mk b false 0).wordsC 1).wordV))) 5).wordsC (((aa.mk b false 0).wordsC 1).wordV)):=by
   unfold ag aH bI bO cP cA ck cz cy gi
   (try simp only[q,B,C,s,D,ao,bs,if_true,if_false,decide_true,decide_false,eq_self,true_or,or_true,or_false,false_or,if_true,if_false,ch,cc,cg,ci,reduceIte,ii,ij])
   all_goals rfl
 rw[hs]
 exact bo bp ⟨_,_,_,_,_,rfl,((ax P (us aW (us an cL)) (fun x hx=>(ae (fun e=>(aA (ak a8) (le (le (le (le (le (le y.size I.size) J.size) L.size) M.size) N.size) O.size) P) (e▸hx)) (ae (fun e=>(aA (ak o) (le (le (le (le (le (le (le F.size y.size) I.size) J.size) L.size) M.size) N.size) O.size) P) (e▸hx)) (ae (fun e=>(aA (ak j) (le (le (le (le (le (le (le (le i.size F.size) y.size) I.size) J.size) L.size) M.size) N.size) O.size) P) (e▸hx)) ay)))) (fun _ _ h=>h))).rd,aK.nil ..,(fun _ _ _=>aK.nil ..),aK.nil ..,aK.nil ..,⟨(b8 (x:=c) (by omega)),(b8 (x:=0) (by omega)),(aB (x:=(aa.mk b false 0).wordV) (by omega)),(aB (x:=((aa.mk b false 0).wordsC 1).wordV) (by omega)),(aB (x:=0) (by omega)),(aB (x:=0) (by omega)),(aB (x:=0) (by omega)),(aB (x:=0) (by omega)),(aB (x:=0) (by omega)),(aB (x:=0) (by omega)),(aB (x:=0) (by omega)),(aB (x:=0) (by omega)),(b8 (x:=0) (by omega)),(b8 (x:=0) (by omega)),(b8 (x:=0) (by omega)),(b8 (x:=0) (by omega)),(b8 (x:=0) (by omega))⟩⟩ (ud cG cL t)
 have dM:=ap D
 refine sg<|Pl 3<|nt<|cb ((c==22)) (fun E=>?_) (fun E=>?_)
 have e1:=am E
 refine sg<|Pl 1<|?_
 have e2:RC w _ A cp b a4 k (aa.mk b false 0):=⟨hsl,z,(Nat.le_trans f.size d),⟨0,(ub Y o),Nat.zero_le _,rfl⟩,by omega⟩
 refine L0<|Oc<|m3 (cK e2) fun fs e3 cM ft=>Pl 1<|?_
 have Z:=nb (ak o) lr g
 refine L0<|bU (aT cM (Ne.symm Z) a5) 2 (mG c 0 ((aa.mk b false 0).wordV) 0 0 0 0 0 0 0 0 0 nS nS nS nS 0 0 0 0 0 nS) fun fu e4 cN=>ng<|Pl 1<|?_
 have bt:=us cM cN
 have cO:=ut z bt (ac (ni f.size d) (ac (ni (le f.size i.size) g) aq))
 refine L0<|Oc<|m3 (cK (RC.upd e3 cN (ae Z ay) cO)) fun fv e5 cQ fw=>Pl 1<|?_
 refine L0<|bU (aT cQ (Ne.symm Z) e4) 5 (mG c 0 ((aa.mk b false 0).wordV) 0 0 (((aa.mk b false 0).wordsC 1).wordV) 0 0 0 0 0 0 nS nS nS nS 0 0 0 0 0 nS) fun fx e6 cR=>nt<|go<|Pl 1<|?_
 have bv:=us cQ cR
 have cS:=ut cO bv (ac (ni f.size d) (ac (ni (le f.size i.size) g) aq))
 refine L0<|Oc<|m3 (cK (RC.upd e5 cR (ae Z ay) cS)) fun fy e7 cT fz=>Pl 1<|?_
 refine L0<|bU (aT cT (Ne.symm Z) e6) 6 (mG c 0 ((aa.mk b false 0).wordV) 0 0 (((aa.mk b false 0).wordsC 1).wordV) ((((aa.mk b false 0).wordsC 1).wordsC 1).wordV) 0 0 0 0 0 nS nS nS nS 0 0 0 0 0 nS) fun fA e8 cU=>nl<|bn<|tn<|sg<|Pl 1<|?_
 have bw:=us cT cU
 have cV:=ut cS bw (ac (ni f.size d) (ac (ni (le f.size i.size) g) aq))
 refine L0<|Oc<|m2 (dR (RC.upd e7 cU (ae Z ay) cV)) fun fB bx aY=>nt<|sq<|sg<|Pl 3<|L0<|ec (p:=⟨k,3,none⟩) (v:=.int .i64 ((((((aa.mk b false 0).wordsC 1).wordsC 1).wordsC 1).endC).e)) (RC.fld bx)<|Pl 1<|nt<|?_
 have cW:=ud cV aY (le f.size d)
 refine cb ((((((((aa.mk b false 0).wordsC 1).wordsC 1).wordsC 1).endC).e)!=0)) (fun au=>?_) (fun au=>?_)
 have bA:=av au
 refine sq<|Rg 7 (fun w'=>w'.cell? ⟨k,3,none⟩=some (.int .i64 ((((((aa.mk b false 0).wordsC 1).wordsC 1).wordsC 1).endC).e))) fun fC aZ=>?_
 have cX:=RC.upd bx aZ ay (aE.step (RC.u bx) aZ)
 refine bh (RC.fld cX) fun aw=>Rt 0 aw<|Rt 1 aw<|Rt 2 aw<|Rt 3 aw<|Rl 4 aw (fun _ hs=>hs)<|?_
 refine R0 5 rfl<|b7 (ub (ut r (ut bt (ut bv (u1 bw (aI aY aZ) im) (ac im (ac im aq))) (ac im (ac im aq))) (ac (nr d) (ac (ni i.size g) aq))) j) mZ fun fD e9 cY=>?_
 have cZ:=ud cW (uz aZ cY) t
 refine bh (RC.fld (RC.upd cX cY (ae (Ne.symm (nb (ak j) lr d)) ay) cZ)) fun ea=>Rt 6 ea<|re<|tn<|rt<|tr<|bL e9 (.int .i64 ((((((aa.mk b false 0).wordsC 1).wordsC 1).wordsC 1).endC).e))<|?_
 have hs:ag aH 0 c b=aF (aP.mk c 0 ((aa.mk b false 0).wordV) 0 0 (((aa.mk b false 0).wordsC 1).wordV) ((((aa.mk b false 0).wordsC 1).wordsC 1).wordV) 0 0 0 0 0 [] [] [] [] 0 0 0 0 0 []) ((((aa.mk b false 0).wordsC 1).wordsC 1).wordsC 1):=by
   unfold ag aH bI bO cP cA ck cz cy gi
   (try simp only[q,B,C,s,D,E,au,bs,if_true,if_false,decide_true,decide_false,eq_self,true_or,or_true,or_false,false_or,if_true,if_false,ch,cc,cg,ci,reduceIte,ii,ij])
   all_goals rfl
 rw[hs]
 exact bg bA cZ
 have bA:=ai au
 refine bz<|sg<|?_
 refine L0<|bZ (aT aY (Ne.symm Z) e8)<|?_
 refine L0<|b7 (ub (ut r (ut bt (ut bv (u1 bw aY im) (ac im (ac im aq))) (ac im (ac im aq))) (ac (nr d) (ac (ni i.size g) aq))) j) (mG c 0 ((aa.mk b false 0).wordV) 0 0 (((aa.mk b false 0).wordsC 1).wordV) ((((aa.mk b false 0).wordsC 1).wordsC 1).wordV) 0 0 0 0 0 nS nS nS nS 0 0 0 0 0 nS) fun fE eb ed=>Pl 1<|nt<|rt<|bL eb (.int .i64 0)<|?_
 have hs:ag aH 0 c b=aF (aP.mk c 0 ((aa.mk b false 0).wordV) 0 0 (((aa.mk b false 0).wordsC 1).wordV) ((((aa.mk b false 0).wordsC 1).wordsC 1).wordV) 0 0 0 0 0 [] [] [] [] 0 0 0 0 0 []) ((((aa.mk b false 0).wordsC 1).wordsC 1).wordsC 1):=by
   unfold ag aH bI bO cP cA ck cz cy gi
   (try simp only[q,B,C,s,D,E,au,bs,if_true,if_false,decide_true,decide_false,eq_self,true_or,or_true,or_false,false_or,if_true,if_false,ch,cc,cg,ci,reduceIte,ii,ij])
   all_goals rfl
 rw[hs]
 exact bo bA ⟨_,_,_,_,_,rfl,aK.nil ..,aK.nil ..,(fun _ _ _=>aK.nil ..),aK.nil ..,aK.nil ..,⟨(b8 (x:=c) (by omega)),(b8 (x:=0) (by omega)),(aB (x:=(aa.mk b false 0).wordV) (by omega)),(aB (x:=0) (by omega)),(aB (x:=0) (by omega)),(aB (x:=((aa.mk b false 0).wordsC 1).wordV) (by omega)),(aB (x:=(((aa.mk b false 0).wordsC 1).wordsC 1).wordV) (by omega)),(aB (x:=0) (by omega)),(aB (x:=0) (by omega)),(aB (x:=0) (by omega)),(aB (x:=0) (by omega)),(aB (x:=0) (by omega)),(b8 (x:=0) (by omega)),(b8 (x:=0) (by omega)),(b8 (x:=0) (by omega)),(b8 (x:=0) (by omega)),(b8 (x:=0) (by omega))⟩⟩ (ud cW ed t)
 have e1:=ap E
 refine sg<|Pl 3<|nt<|cb ((c==23)) (fun Q=>?_) (fun Q=>?_)
 have ee:=am Q
 refine sg<|Pl 1<|?_
 have ef:RC w _ A cp b a4 k (aa.mk b false 0):=⟨hsl,z,(Nat.le_trans f.size d),⟨0,(ub Y o),Nat.zero_le _,rfl⟩,by omega⟩
 refine L0<|Oc<|m3 (cK ef) fun fF eg R fG=>Pl 1<|?_
 have H:=nb (ak o) lr g
 refine L0<|bU (aT R (Ne.symm H) a5) 2 (mG c 0 ((aa.mk b false 0).wordV) 0 0 0 0 0 0 0 0 0 nS nS nS nS 0 0 0 0 0 nS) fun fH d0 S=>ng<|Pl 2<|L0<|aR d0 2<|?_
 have bB:=us R S
 have d1:=ut z bB (ac (ni f.size d) (ac (ni (le f.size i.size) g) aq))
 refine L0<|Oc<|m3 (iY (a:=(aa.mk b false 0).wordV) (most:=125) (by omega) (RC.upd eg S (ae H ay) d1)) fun fI eh T fJ=>?_
 refine eX eh fun l d2 ei=>?_
 refine L0<|sX (((aa.mk b false 0).wordsC 1).wordV)<|Pl 1<|?_
 refine L0<|bU (aT T (Ne.symm H) d0) 3 (mG c 0 ((aa.mk b false 0).wordV) (((aa.mk b false 0).wordsC 1).wordV) 0 0 0 0 0 0 0 0 nS nS nS nS 0 0 0 0 0 nS) fun fK ej U=>ng<|Pl 1<|?_
 have bC:=us T U
 have d3:=ut d1 bC (ac (ni f.size d) (ac (ni (le f.size i.size) g) aq))
 refine L0<|Oc<|m3 (cK (RC.upd ei U (ae H ay) d3)) fun fL ek V fM=>Pl 1<|?_
 refine L0<|bU (aT V (Ne.symm H) ej) 7 (mG c 0 ((aa.mk b false 0).wordV) (((aa.mk b false 0).wordsC 1).wordV) 0 0 0 l.wordV 0 0 0 0 nS nS nS nS 0 0 0 0 0 nS) fun fN d4 W=>ng<|Pl 2<|L0<|aR d4 7<|?_
 have bD:=us V W
 have d5:=ut d3 bD (ac (ni f.size d) (ac (ni (le f.size i.size) g) aq))
 refine L0<|Oc<|m3 (iY (a:=l.wordV) (most:=121) (by omega) (RC.upd ek W (ae H ay) d5)) fun fO el a0 fP=>Pl 1<|ng<|Pl 1<|L0<|Oc<|m3 (dB el) fun fQ em a1 fR=>L0<|Oi ((aS (l.wordsC 1) l.wordV 121).byteV)<|Pl 1<|ng<|?_
 refine Pl 3<|L0<|Oi (2*((l.wordsC 1).wordV))<|Pl 1<|L0<|Oc<|m2 (aU ((((aS (l.wordsC 1) l.wordV 121).byteV)==(2*((l.wordsC 1).wordV)))) 5 em) fun fS eo a2=>?_
 refine eX eo fun a7 d6 ep=>?_
 refine nt<|go<|Pl 2<|L0<|Oc<|kY (fa (n:=(l.wordsC 1).wordV) (by omega) ep) fun d8 d9 fT X fU fV eq er=>Pl 1<|?_
 have da:=u1 a0 (u1 a1 (u1 a2 er im) im) im
 refine L0<|bU (aT da (Ne.symm H) d4) 12 (mG c 0 ((aa.mk b false 0).wordV) (((aa.mk b false 0).wordsC 1).wordV) 0 0 0 l.wordV 0 0 0 0 (.slice d8 ((a7.wordsR ((l.wordsC 1).wordV)).length) d9) nS nS nS 0 0 0 0 0 nS) fun fW es b0=>nl<|bn<|tn<|sg<|Pl 1<|?_
 have bE:=us da b0
 have db:=ut d5 bE (ac (ni f.size d) (ac (ni (le f.size i.size) g) aq))
 refine L0<|Oc<|m2 (dR (RC.upd eq b0 (ae H ay) db)) fun fX bF az=>nt<|sq<|sg<|Pl 3<|L0<|ec (p:=⟨k,3,none⟩) (v:=.int .i64 (((a7.wordsC ((l.wordsC 1).wordV)).endC).e)) (RC.fld bF)<|Pl 1<|nt<|?_
 have dc:=ud db az (le f.size d)
 refine cb (((((a7.wordsC ((l.wordsC 1).wordV)).endC).e)!=0)) (fun aC=>?_) (fun aC=>?_)
 have bG:=av aC
 refine sq<|Rg 7 (fun w'=>w'.cell? ⟨k,3,none⟩=some (.int .i64 (((a7.wordsC ((l.wordsC 1).wordV)).endC).e))) fun fY b1=>?_
 have dd:=RC.upd bF b1 ay (aE.step (RC.u bF) b1)
 refine bh (RC.fld dd) fun aD=>Rt 0 aD<|Rt 1 aD<|Rt 2 aD<|Rt 3 aD<|Rl 4 aD (fun _ hs=>hs)<|?_
 have de:=aI az b1
 refine R0 5 rfl<|b7 (ub (ut r (ut bB (ut bC (ut bD (u1 bE de im) (ac im (ac im aq))) (ac im (ac im aq))) (ac im (ac im aq))) (ac (nr d) (ac (ni i.size g) aq))) j) mZ fun fZ et bH=>?_
 have df:=ud dc (uz b1 bH) t
 refine bh (RC.fld (RC.upd dd bH (ae (Ne.symm (nb (ak j) lr d)) ay) df)) fun eu=>Rt 6 eu<|re<|tn<|rt<|tr<|bL et (.int .i64 (((a7.wordsC ((l.wordsC 1).wordV)).endC).e))<|?_
 subst d6 d2
 have g0:=ax X (us b0 (us de bH)) (fun x hx=>(ae (fun e=>(aA (ak a8) (le (le (le (le (le (le (le (le (le y.size R.size) S.size) T.size) U.size) V.size) W.size) a0.size) a1.size) a2.size) X) (e▸hx)) (ae (fun e=>(aA (ak o) (le (le (le (le (le (le (le (le (le (le F.size y.size) R.size) S.size) T.size) U.size) V.size) W.size) a0.size) a1.size) a2.size) X) (e▸hx)) (ae (fun e=>(aA (ak j) (le (le (le (le (le (le (le (le (le (le (le i.size F.size) y.size) R.size) S.size) T.size) U.size) V.size) W.size) a0.size) a1.size) a2.size) X) (e▸hx)) ay)))) (fun _ _ h=>h)
 have hs:ag aH 0 c b=aF (aP.mk c 0 ((aa.mk b false 0).wordV) (((aa.mk b false 0).wordsC 1).wordV) 0 0 0 ((aS ((aa.mk b false 0).wordsC 1) ((aa.mk b false 0).wordV) 125).wordV) 0 0 0 0 ((((aS ((aS ((aa.mk b false 0).wordsC 1) ((aa.mk b false 0).wordV) 125).wordsC 1) (aS ((aa.mk b false 0).wordsC 1) ((aa.mk b false 0).wordV) 125).wordV 121).bytesC 1).need (((aS ((aS ((aa.mk b false 0).wordsC 1) ((aa.mk b false 0).wordV) 125).wordsC 1) (aS ((aa.mk b false 0).wordsC 1) ((aa.mk b false 0).wordV) 125).wordV 121).byteV)==(2*(((aS ((aa.mk b false 0).wordsC 1) ((aa.mk b false 0).wordV) 125).wordsC 1).wordV))) 5).wordsR (((aS ((aa.mk b false 0).wordsC 1) ((aa.mk b false 0).wordV) 125).wordsC 1).wordV)) [] [] [] 0 0 0 0 0 []) ((((aS ((aS ((aa.mk b false 0).wordsC 1) ((aa.mk b false 0).wordV) 125).wordsC 1) (aS ((aa.mk b false 0).wordsC 1) ((aa.mk b false 0).wordV) 125).wordV 121).bytesC 1).need (((aS ((aS ((aa.mk b false 0).wordsC 1) ((aa.mk b false 0).wordV) 125).wordsC 1) (aS ((aa.mk b false 0).wordsC 1) ((aa.mk b false 0).wordV) 125).wordV 121).byteV)==(2*(((aS ((aa.mk b false 0).wordsC 1) ((aa.mk b false 0).wordV) 125).wordsC 1).wordV))) 5).wordsC (((aS ((aa.mk b false 0).wordsC 1) ((aa.mk b false 0).wordV) 125).wordsC 1).wordV)):=by
   unfold ag aH bI bO cP cA ck cz cy gi
   (try simp only[q,B,C,s,D,E,Q,aC,bs,if_true,if_false,decide_true,decide_false,eq_self,true_or,or_true,or_false,false_or,if_true,if_false,ch,cc,cg,ci,reduceIte,ii,ij])
   all_goals rfl
 rw[hs]
 exact bg bG df
 have bG:=ai aC
 refine bz<|sg<|?_
 refine L0<|bZ (aT az (Ne.symm H) es)<|?_
 refine L0<|b7 (ub (ut r (ut bB (ut bC (ut bD (u1 bE az im) (ac im (ac im aq))) (ac im (ac im aq))) (ac im (ac im aq))) (ac (nr d) (ac (ni i.size g) aq))) j) (mG c 0 ((aa.mk b false 0).wordV) (((aa.mk b false 0).wordsC 1).wordV) 0 0 0 l.wordV 0 0 0 0 (.slice d8 ((a7.wordsR ((l.wordsC 1).wordV)).length) d9) nS nS nS 0 0 0 0 0 nS) fun g1 ev dg=>Pl 1<|nt<|rt<|bL ev (.int .i64 0)<|?_
 subst d6 d2
 have hs:ag aH 0 c b=aF (aP.mk c 0 ((aa.mk b false 0).wordV) (((aa.mk b false 0).wordsC 1).wordV) 0 0 0 ((aS ((aa.mk b false 0).wordsC 1) ((aa.mk b false 0).wordV) 125).wordV) 0 0 0 0 ((((aS ((aS ((aa.mk b false 0).wordsC 1) ((aa.mk b false 0).wordV) 125).wordsC 1) (aS ((aa.mk b false 0).wordsC 1) ((aa.mk b false 0).wordV) 125).wordV 121).bytesC 1).need (((aS ((aS ((aa.mk b false 0).wordsC 1) ((aa.mk b false 0).wordV) 125).wordsC 1) (aS ((aa.mk b false 0).wordsC 1) ((aa.mk b false 0).wordV) 125).wordV 121).byteV)==(2*(((aS ((aa.mk b false 0).wordsC 1) ((aa.mk b false 0).wordV) 125).wordsC 1).wordV))) 5).wordsR (((aS ((aa.mk b false 0).wordsC 1) ((aa.mk b false 0).wordV) 125).wordsC 1).wordV)) [] [] [] 0 0 0 0 0 []) ((((aS ((aS ((aa.mk b false 0).wordsC 1) ((aa.mk b false 0).wordV) 125).wordsC 1) (aS ((aa.mk b false 0).wordsC 1) ((aa.mk b false 0).wordV) 125).wordV 121).bytesC 1).need (((aS ((aS ((aa.mk b false 0).wordsC 1) ((aa.mk b false 0).wordV) 125).wordsC 1) (aS ((aa.mk b false 0).wordsC 1) ((aa.mk b false 0).wordV) 125).wordV 121).byteV)==(2*(((aS ((aa.mk b false 0).wordsC 1) ((aa.mk b false 0).wordV) 125).wordsC 1).wordV))) 5).wordsC (((aS ((aa.mk b false 0).wordsC 1) ((aa.mk b false 0).wordV) 125).wordsC 1).wordV)):=by
   unfold ag aH bI bO cP cA ck cz cy gi
   (try simp only[q,B,C,s,D,E,Q,aC,bs,if_true,if_false,decide_true,decide_false,eq_self,true_or,or_true,or_false,false_or,if_true,if_false,ch,cc,cg,ci,reduceIte,ii,ij])
   all_goals rfl
 rw[hs]
 exact bo bG ⟨_,_,_,_,_,rfl,((ax X (us b0 (us az dg)) (fun x hx=>(ae (fun e=>(aA (ak a8) (le (le (le (le (le (le (le (le (le y.size R.size) S.size) T.size) U.size) V.size) W.size) a0.size) a1.size) a2.size) X) (e▸hx)) (ae (fun e=>(aA (ak o) (le (le (le (le (le (le (le (le (le (le F.size y.size) R.size) S.size) T.size) U.size) V.size) W.size) a0.size) a1.size) a2.size) X) (e▸hx)) (ae (fun e=>(aA (ak j) (le (le (le (le (le (le (le (le (le (le (le i.size F.size) y.size) R.size) S.size) T.size) U.size) V.size) W.size) a0.size) a1.size) a2.size) X) (e▸hx)) ay)))) (fun _ _ h=>h))).rd,aK.nil ..,(fun _ _ _=>aK.nil ..),aK.nil ..,aK.nil ..,⟨(b8 (x:=c) (by omega)),(b8 (x:=0) (by omega)),(aB (x:=(aa.mk b false 0).wordV) (by omega)),(aB (x:=((aa.mk b false 0).wordsC 1).wordV) (by omega)),(aB (x:=0) (by omega)),(aB (x:=0) (by omega)),(aB (x:=0) (by omega)),(aB (x:=(aS ((aa.mk b false 0).wordsC 1) ((aa.mk b false 0).wordV) 125).wordV) (by omega)),(aB (x:=0) (by omega)),(aB (x:=0) (by omega)),(aB (x:=0) (by omega)),(aB (x:=0) (by omega)),(b8 (x:=0) (by omega)),(b8 (x:=0) (by omega)),(b8 (x:=0) (by omega)),(b8 (x:=0) (by omega)),(b8 (x:=0) (by omega))⟩⟩ (ud dc dg t)
 have ee:=ap Q
 refine sg<|Pl 3<|cu 3 [168] 171 ((c==24)) (fun K dh=>?_) ?_
 refine bl 168 ((c==24)) (fun aG=>?_) (fun aG=>?_)
 have ew:=am aG
 exact Pl 3<|ce dh true aG
 have ew:=ap aG
 exact Pl 3<|ce dh false aG
 refine Pl 1<|nt<|cb ((c==24)) (fun a3=>?_) (fun a3=>?_)
 have ex:=am a3
 refine go<|Pl 1<|?_
 have ey:RC w _ A cp b a4 k (aa.mk b false 0):=⟨hsl,z,(Nat.le_trans f.size d),⟨0,(ub Y o),Nat.zero_le _,rfl⟩,by omega⟩
 refine L0<|Oc<|m3 (cK ey) fun g2 ez di g3=>Pl 1<|?_
 have bJ:=nb (ak o) lr g
 refine L0<|bU (aT di (Ne.symm bJ) a5) 2 (mG c 0 ((aa.mk b false 0).wordV) 0 0 0 0 0 0 0 0 0 nS nS nS nS 0 0 0 0 0 nS) fun g4 eA dj=>nl<|bn<|tn<|sg<|Pl 1<|?_
 have bM:=us di dj
 have dk:=ut z bM (ac (ni f.size d) (ac (ni (le f.size i.size) g) aq))
 refine L0<|Oc<|m2 (dR (RC.upd ez dj (ae bJ ay) dk)) fun g5 bN b2=>nt<|sq<|sg<|Pl 3<|L0<|ec (p:=⟨k,3,none⟩) (v:=.int .i64 ((((aa.mk b false 0).wordsC 1).endC).e)) (RC.fld bN)<|Pl 1<|nt<|?_
 have dl:=ud dk b2 (le f.size d)
 refine cb ((((((aa.mk b false 0).wordsC 1).endC).e)!=0)) (fun aL=>?_) (fun aL=>?_)
 have bP:=av aL
 refine sq<|Rg 7 (fun w'=>w'.cell? ⟨k,3,none⟩=some (.int .i64 ((((aa.mk b false 0).wordsC 1).endC).e))) fun g6 b3=>?_
 have dm:=RC.upd bN b3 ay (aE.step (RC.u bN) b3)
 refine bh (RC.fld dm) fun aM=>Rt 0 aM<|Rt 1 aM<|Rt 2 aM<|Rt 3 aM<|Rl 4 aM (fun _ hs=>hs)<|?_
 refine R0 5 rfl<|b7 (ub (ut r (u1 bM (aI b2 b3) im) (ac (nr d) (ac (ni i.size g) aq))) j) mZ fun g7 eB dn=>?_
 have dp:=ud dl (uz b3 dn) t
 refine bh (RC.fld (RC.upd dm dn (ae (Ne.symm (nb (ak j) lr d)) ay) dp)) fun eC=>Rt 6 eC<|re<|tn<|rt<|tr<|bL eB (.int .i64 ((((aa.mk b false 0).wordsC 1).endC).e))<|?_
 have hs:ag aH 0 c b=aF (aP.mk c 0 ((aa.mk b false 0).wordV) 0 0 0 0 0 0 0 0 0 [] [] [] [] 0 0 0 0 0 []) ((aa.mk b false 0).wordsC 1):=by
   unfold ag aH bI bO cP cA ck cz cy gi
   (try simp only[q,B,C,s,D,E,Q,a3,aL,bs,if_true,if_false,decide_true,decide_false,eq_self,true_or,or_true,or_false,false_or,if_true,if_false,ch,cc,cg,ci,reduceIte,ii,ij])
   all_goals rfl
 rw[hs]
 exact bg bP dp
 have bP:=ai aL
 refine bz<|sg<|?_
 refine L0<|bZ (aT b2 (Ne.symm bJ) eA)<|?_
 refine L0<|b7 (ub (ut r (u1 bM b2 im) (ac (nr d) (ac (ni i.size g) aq))) j) (mG c 0 ((aa.mk b false 0).wordV) 0 0 0 0 0 0 0 0 0 nS nS nS nS 0 0 0 0 0 nS) fun g8 eD eE=>Pl 1<|nt<|rt<|bL eD (.int .i64 0)<|?_
 have hs:ag aH 0 c b=aF (aP.mk c 0 ((aa.mk b false 0).wordV) 0 0 0 0 0 0 0 0 0 [] [] [] [] 0 0 0 0 0 []) ((aa.mk b false 0).wordsC 1):=by
   unfold ag aH bI bO cP cA ck cz cy gi
   (try simp only[q,B,C,s,D,E,Q,a3,aL,bs,if_true,if_false,decide_true,decide_false,eq_self,true_or,or_true,or_false,false_or,if_true,if_false,ch,cc,cg,ci,reduceIte,ii,ij])
   all_goals rfl
 rw[hs]
 exact bo bP ⟨_,_,_,_,_,rfl,aK.nil ..,aK.nil ..,(fun _ _ _=>aK.nil ..),aK.nil ..,aK.nil ..,⟨(b8 (x:=c) (by omega)),(b8 (x:=0) (by omega)),(aB (x:=(aa.mk b false 0).wordV) (by omega)),(aB (x:=0) (by omega)),(aB (x:=0) (by omega)),(aB (x:=0) (by omega)),(aB (x:=0) (by omega)),(aB (x:=0) (by omega)),(aB (x:=0) (by omega)),(aB (x:=0) (by omega)),(aB (x:=0) (by omega)),(aB (x:=0) (by omega)),(b8 (x:=0) (by omega)),(b8 (x:=0) (by omega)),(b8 (x:=0) (by omega)),(b8 (x:=0) (by omega)),(b8 (x:=0) (by omega))⟩⟩ (ud dl eE t)
 have ex:=ap a3
 refine sg<|Pl 3<|nt<|cf a3<|sg<|Pl 1<|?_
 refine L0<|b7 (ub r j) mZ fun g9 eF eG=>Pl 1<|nt<|rt<|br<|tr<|bL eF (.int .i64 4)<|?_
 have hs:ag aH 0 c b=(aP.zero,4):=by
   unfold ag aH bI bO cP cA ck cz cy gi
   (try simp only[q,B,C,s,D,E,Q,a3,bs,if_true,if_false,decide_true,decide_false,eq_self,true_or,or_true,or_false,false_or,if_true,if_false,ch,cc,cg,ci,reduceIte,ii,ij])
   all_goals rfl
 rw[hs]
 exact bu (ud z eG t)
theorem jE{m:Md}{A:Option Addr}{cp:Nat}{b:List Int}{w:World}{c:Int}(hcode:B8 c)(hsl:bi m w (.slice A b.length cp) b)(hb:b.length≤1048576) :
    Calls Tryz.prog 94 #[.int .i64 1,.int .u8 c,.slice A b.length cp] w (d7 (.slice A b.length cp) b (ag aH 1 c b) w):=by
 obtain⟨hcode1,hcode2⟩:=hcode
 have hln:(b.length:Int)≤1048576:=by omega
 refine en 221 Tryz.func94 rfl<|sg<|L0<|bK mZ fun e5 e6 t j f=>Pl 1<|nt<|sq<|sg<|Pl 6<|nt<|c0<|?_
 refine bz<|sg<|Pl 2<|L0<|du #[.slice A b.length cp,.int .i64 0,.bool false,.int .i64 0] fun l e7 d o i=>Pl 1<|ng<|Pl 2<|L0<|bK mZ fun e8 e9 g V G=>L0<|b7 V (mC c) fun W X q=>?_
 refine nt<|sq<|bk<|sg<|Pl 6<|cu 3 [35] 38 (((c==3)||(c==4))) (fun K bv=>?_) ?_
 refine bl 35 ((c==3)) (fun Y=>?_) (fun Y=>?_)
 have cU:=am Y
 exact Pl 3<|ce bv true (by rw[Y];rfl)
 have cU:=ap Y
 exact Pl 3<|ce bv (c==4) (by rw[Y];rfl)
 refine Pl 1<|cu 3 [39] 42 ((((c==3)||(c==4))||(c==23))) (fun K bw=>?_) ?_
 refine bl 39 (((c==3)||(c==4))) (fun Z=>?_) (fun Z=>?_)
 exact Pl 3<|ce bw true (by rw[Z];rfl)
 have cV:=(aJ Z).1
 have cW:=(aJ Z).2
 have ea:=ap cV
 have eb:=ap cW
 exact Pl 3<|ce bw (c==23) (by rw[Z];rfl)
 refine Pl 2<|nt<|?_
 have S:=ud G q g
 have r:=aI i S
 have y:=aI f r
 refine cb ((((c==3)||(c==4))||(c==23))) (fun k=>?_) (fun k=>?_)
 refine sg<|Pl 1<|?_
 have cX:RC w _ A cp b W l (aa.mk b false 0):=⟨hsl,y,(Nat.le_trans f.size d),⟨0,(ub S o),Nat.zero_le _,rfl⟩,by omega⟩
 refine L0<|Oc<|m3 (dB cX) fun ed cY L ee=>L0<|Oi ((aa.mk b false 0).byteV)<|Pl 1<|ng<|Pl 2<|L0<|Oe (.int .i64 (Int.tmod ((aa.mk b false 0).byteV) 2)) (.int .i64 (((aa.mk b false 0).byteV)%2)) (congrArg (Value.int .i64) (Int.tmod_eq_emod_of_nonneg (by omega)))<|Pl 2<|cu 3 [51] 54 ((((((aa.mk b false 0).byteV)%2)==0)&&(decide (0<((aa.mk b false 0).byteV))))) (fun K bx=>?_) ?_
 refine bl 51 (((((aa.mk b false 0).byteV)%2)==0)) (fun a0=>?_) (fun a0=>?_)
 have cZ:=am a0
 exact Pl 3<|ce bx (decide (0<((aa.mk b false 0).byteV))) (by rw[a0];rfl)
 have cZ:=ap a0
 exact Pl 3<|ce bx false (by rw[a0];rfl)
 refine Pl 1<|cu 3 [55] 58 (((((((aa.mk b false 0).byteV)%2)==0)&&(decide (0<((aa.mk b false 0).byteV))))&&(decide (((aa.mk b false 0).byteV)≤250)))) (fun K bA=>?_) ?_
 refine bl 55 ((((((aa.mk b false 0).byteV)%2)==0)&&(decide (0<((aa.mk b false 0).byteV))))) (fun a1=>?_) (fun a1=>?_)
 have d0:=(aW a1).1
 have d1:=(aW a1).2
 have ef:=am d0
 have eg:=of_decide_eq_true d1
 exact Pl 3<|ce bA (decide (((aa.mk b false 0).byteV)≤250)) (by rw[a1];rfl)
 exact Pl 3<|ce bA false (by rw[a1];rfl)
 refine L0<|Oc<|m2 (aU (((((((aa.mk b false 0).byteV)%2)==0)&&(decide (0<((aa.mk b false 0).byteV))))&&(decide (((aa.mk b false 0).byteV)≤250)))) 5 cY) fun eh d2 M=>?_
 refine eX d2 fun x49 bB d3=>?_
 refine nt<|go<|Pl 2<|L0<|Oe (.int .i64 (IntKind.i64.wrap (Int.tdiv ((aa.mk b false 0).byteV) 2))) (.int .i64 (((aa.mk b false 0).byteV)/2)) (congrArg (Value.int .i64) (eY (by omega) (by omega)))<|L0<|Oc<|kY (fa (n:=(((aa.mk b false 0).byteV)/2)) (by omega) d3) fun bC bD ei H ej ek d4 d5=>Pl 1<|?_
 have bE:=u1 L (u1 M d5 im) im
 have aQ:=nb (ak o) lr g
 refine L0<|bU (aT bE (Ne.symm aQ) X) 12 (mG c 0 0 0 0 0 0 0 0 0 0 0 (.slice bC ((x49.wordsR (((aa.mk b false 0).byteV)/2)).length) bD) nS nS nS 0 0 0 0 0 nS) fun el d6 ar=>nl<|bn<|tn<|sg<|Pl 1<|?_
 have aV:=us bE ar
 have bF:=ut y aV (ac (ni f.size d) (ac (ni (le f.size i.size) g) aq))
 refine L0<|Oc<|m2 (dR (RC.upd d4 ar (ae aQ ay) bF)) fun em aX a2=>nt<|sq<|sg<|Pl 3<|L0<|ec (p:=⟨l,3,none⟩) (v:=.int .i64 (((x49.wordsC (((aa.mk b false 0).byteV)/2)).endC).e)) (RC.fld aX)<|Pl 1<|nt<|?_
 have bG:=ud bF a2 (le f.size d)
 refine cb (((((x49.wordsC (((aa.mk b false 0).byteV)/2)).endC).e)!=0)) (fun a3=>?_) (fun a3=>?_)
 have aY:=av a3
 refine sq<|Rg 7 (fun w'=>w'.cell? ⟨l,3,none⟩=some (.int .i64 (((x49.wordsC (((aa.mk b false 0).byteV)/2)).endC).e))) fun eo au=>?_
 have bH:=RC.upd aX au ay (aE.step (RC.u aX) au)
 refine bh (RC.fld bH) fun a4=>Rt 0 a4<|Rt 1 a4<|Rt 2 a4<|Rt 3 a4<|Rl 4 a4 (fun _ hs=>hs)<|?_
 have bJ:=aI a2 au
 refine R0 5 rfl<|b7 (ub (ut r (u1 aV bJ im) (ac (nr d) (ac (ni i.size g) aq))) j) mZ fun ep d8 aZ=>?_
 have bM:=ud bG (uz au aZ) t
 refine bh (RC.fld (RC.upd bH aZ (ae (Ne.symm (nb (ak j) lr d)) ay) bM)) fun d9=>Rt 6 d9<|re<|tn<|rt<|tr<|bL d8 (.int .i64 (((x49.wordsC (((aa.mk b false 0).byteV)/2)).endC).e))<|?_
 subst bB
 have eq:=ax H (us ar (us bJ aZ)) (fun x hx=>(ae (fun e=>(aA (ak V) (le (le q.size L.size) M.size) H) (e▸hx)) (ae (fun e=>(aA (ak o) (le (le (le G.size q.size) L.size) M.size) H) (e▸hx)) (ae (fun e=>(aA (ak j) (le (le (le (le i.size G.size) q.size) L.size) M.size) H) (e▸hx)) ay)))) (fun _ _ h=>h)
 have hs:ag aH 1 c b=aF (aP.mk c 0 0 0 0 0 0 0 0 0 0 0 ((((aa.mk b false 0).bytesC 1).need ((((((aa.mk b false 0).byteV)%2)==0)&&(decide (0<((aa.mk b false 0).byteV))))&&(decide (((aa.mk b false 0).byteV)≤250))) 5).wordsR (((aa.mk b false 0).byteV)/2)) [] [] [] 0 0 0 0 0 []) ((((aa.mk b false 0).bytesC 1).need ((((((aa.mk b false 0).byteV)%2)==0)&&(decide (0<((aa.mk b false 0).byteV))))&&(decide (((aa.mk b false 0).byteV)≤250))) 5).wordsC (((aa.mk b false 0).byteV)/2)):=by
   unfold ag
   (try simp only[k,a3,bs,if_true,if_false,decide_true,decide_false,eq_self,true_or,or_true,or_false,false_or,if_true,if_false,ch,cc,cg,ci,reduceIte,ii,ij,lR k])
   all_goals rfl
 rw[hs]
 exact bg aY bM
 have aY:=ai a3
 refine bz<|sg<|?_
 refine L0<|bZ (aT a2 (Ne.symm aQ) d6)<|?_
 refine L0<|b7 (ub (ut r (u1 aV a2 im) (ac (nr d) (ac (ni i.size g) aq))) j) (mG c 0 0 0 0 0 0 0 0 0 0 0 (.slice bC ((x49.wordsR (((aa.mk b false 0).byteV)/2)).length) bD) nS nS nS 0 0 0 0 0 nS) fun er da bN=>Pl 1<|nt<|rt<|bL da (.int .i64 0)<|?_
 subst bB
 have hs:ag aH 1 c b=aF (aP.mk c 0 0 0 0 0 0 0 0 0 0 0 ((((aa.mk b false 0).bytesC 1).need ((((((aa.mk b false 0).byteV)%2)==0)&&(decide (0<((aa.mk b false 0).byteV))))&&(decide (((aa.mk b false 0).byteV)≤250))) 5).wordsR (((aa.mk b false 0).byteV)/2)) [] [] [] 0 0 0 0 0 []) ((((aa.mk b false 0).bytesC 1).need ((((((aa.mk b false 0).byteV)%2)==0)&&(decide (0<((aa.mk b false 0).byteV))))&&(decide (((aa.mk b false 0).byteV)≤250))) 5).wordsC (((aa.mk b false 0).byteV)/2)):=by
   unfold ag
   (try simp only[k,a3,bs,if_true,if_false,decide_true,decide_false,eq_self,true_or,or_true,or_false,false_or,if_true,if_false,ch,cc,cg,ci,reduceIte,ii,ij,lR k])
   all_goals rfl
 rw[hs]
 exact bo aY ⟨_,_,_,_,_,rfl,((ax H (us ar (us a2 bN)) (fun x hx=>(ae (fun e=>(aA (ak V) (le (le q.size L.size) M.size) H) (e▸hx)) (ae (fun e=>(aA (ak o) (le (le (le G.size q.size) L.size) M.size) H) (e▸hx)) (ae (fun e=>(aA (ak j) (le (le (le (le i.size G.size) q.size) L.size) M.size) H) (e▸hx)) ay)))) (fun _ _ h=>h))).rd,aK.nil ..,(fun _ _ _=>aK.nil ..),aK.nil ..,aK.nil ..,⟨(b8 (x:=c) (by omega)),(b8 (x:=0) (by omega)),(aB (x:=0) (by omega)),(aB (x:=0) (by omega)),(aB (x:=0) (by omega)),(aB (x:=0) (by omega)),(aB (x:=0) (by omega)),(aB (x:=0) (by omega)),(aB (x:=0) (by omega)),(aB (x:=0) (by omega)),(aB (x:=0) (by omega)),(aB (x:=0) (by omega)),(b8 (x:=0) (by omega)),(b8 (x:=0) (by omega)),(b8 (x:=0) (by omega)),(b8 (x:=0) (by omega)),(b8 (x:=0) (by omega))⟩⟩ (ud bG bN t)
 have z:=(aJ k).1
 have B:=(aJ k).2
 have C:=(aJ z).1
 have D:=(aJ z).2
 have q35aap:=ap C
 have q35abp:=ap D
 have es:=ap B
 refine sg<|Pl 3<|sy 68 C<|Pl 4<|nt<|cf D<|sg<|Pl 3<|nt<|cb ((c==6)) (fun s=>?_) (fun s=>?_)
 have db:=am s
 refine sg<|Pl 1<|?_
 have dc:RC w _ A cp b W l (aa.mk b false 0):=⟨hsl,y,(Nat.le_trans f.size d),⟨0,(ub S o),Nat.zero_le _,rfl⟩,by omega⟩
 refine L0<|Oc<|m3 (cK dc) fun et dd bP eu=>Pl 1<|?_
 have a5:=nb (ak o) lr g
 refine L0<|bU (aT bP (Ne.symm a5) X) 2 (mG c 0 ((aa.mk b false 0).wordV) 0 0 0 0 0 0 0 0 0 nS nS nS nS 0 0 0 0 0 nS) fun ev de bQ=>nt<|go<|Pl 1<|?_
 have b0:=us bP bQ
 have bR:=ut y b0 (ac (ni f.size d) (ac (ni (le f.size i.size) g) aq))
 refine L0<|Oc<|m3 (cK (RC.upd dd bQ (ae a5 ay) bR)) fun ew df bS ex=>Pl 1<|?_
 refine L0<|bU (aT bS (Ne.symm a5) de) 4 (mG c 0 ((aa.mk b false 0).wordV) 0 (((aa.mk b false 0).wordsC 1).wordV) 0 0 0 0 0 0 0 nS nS nS nS 0 0 0 0 0 nS) fun ey dg bT=>nl<|bn<|tn<|sg<|Pl 1<|?_
 have b1:=us bS bT
 have bV:=ut bR b1 (ac (ni f.size d) (ac (ni (le f.size i.size) g) aq))
 refine L0<|Oc<|m2 (dR (RC.upd df bT (ae a5 ay) bV)) fun ez b2 aw=>nt<|sq<|sg<|Pl 3<|L0<|ec (p:=⟨l,3,none⟩) (v:=.int .i64 (((((aa.mk b false 0).wordsC 1).wordsC 1).endC).e)) (RC.fld b2)<|Pl 1<|nt<|?_
 have bW:=ud bV aw (le f.size d)
 refine cb (((((((aa.mk b false 0).wordsC 1).wordsC 1).endC).e)!=0)) (fun a6=>?_) (fun a6=>?_)
 have b3:=av a6
 refine sq<|Rg 7 (fun w'=>w'.cell? ⟨l,3,none⟩=some (.int .i64 (((((aa.mk b false 0).wordsC 1).wordsC 1).endC).e))) fun eA az=>?_
 have bX:=RC.upd b2 az ay (aE.step (RC.u b2) az)
 refine bh (RC.fld bX) fun a7=>Rt 0 a7<|Rt 1 a7<|Rt 2 a7<|Rt 3 a7<|Rl 4 a7 (fun _ hs=>hs)<|?_
 refine R0 5 rfl<|b7 (ub (ut r (ut b0 (u1 b1 (aI aw az) im) (ac im (ac im aq))) (ac (nr d) (ac (ni i.size g) aq))) j) mZ fun eB dh bY=>?_
 have c1:=ud bW (uz az bY) t
 refine bh (RC.fld (RC.upd bX bY (ae (Ne.symm (nb (ak j) lr d)) ay) c1)) fun di=>Rt 6 di<|re<|tn<|rt<|tr<|bL dh (.int .i64 (((((aa.mk b false 0).wordsC 1).wordsC 1).endC).e))<|?_
 have hs:ag aH 1 c b=aF (aP.mk c 0 ((aa.mk b false 0).wordV) 0 (((aa.mk b false 0).wordsC 1).wordV) 0 0 0 0 0 0 0 [] [] [] [] 0 0 0 0 0 []) (((aa.mk b false 0).wordsC 1).wordsC 1):=by
   unfold ag aH bI bO cP cA ck cz cy gi
   (try simp only[k,z,C,D,B,s,a6,bs,if_true,if_false,decide_true,decide_false,eq_self,true_or,or_true,or_false,false_or,if_true,if_false,ch,cc,cg,ci,reduceIte,ii,ij])
   all_goals rfl
 rw[hs]
 exact bg b3 c1
 have b3:=ai a6
 refine bz<|sg<|?_
 refine L0<|bZ (aT aw (Ne.symm a5) dg)<|?_
 refine L0<|b7 (ub (ut r (ut b0 (u1 b1 aw im) (ac im (ac im aq))) (ac (nr d) (ac (ni i.size g) aq))) j) (mG c 0 ((aa.mk b false 0).wordV) 0 (((aa.mk b false 0).wordsC 1).wordV) 0 0 0 0 0 0 0 nS nS nS nS 0 0 0 0 0 nS) fun eC dj dk=>Pl 1<|nt<|rt<|bL dj (.int .i64 0)<|?_
 have hs:ag aH 1 c b=aF (aP.mk c 0 ((aa.mk b false 0).wordV) 0 (((aa.mk b false 0).wordsC 1).wordV) 0 0 0 0 0 0 0 [] [] [] [] 0 0 0 0 0 []) (((aa.mk b false 0).wordsC 1).wordsC 1):=by
   unfold ag aH bI bO cP cA ck cz cy gi
   (try simp only[k,z,C,D,B,s,a6,bs,if_true,if_false,decide_true,decide_false,eq_self,true_or,or_true,or_false,false_or,if_true,if_false,ch,cc,cg,ci,reduceIte,ii,ij])
   all_goals rfl
 rw[hs]
 exact bo b3 ⟨_,_,_,_,_,rfl,aK.nil ..,aK.nil ..,(fun _ _ _=>aK.nil ..),aK.nil ..,aK.nil ..,⟨(b8 (x:=c) (by omega)),(b8 (x:=0) (by omega)),(aB (x:=(aa.mk b false 0).wordV) (by omega)),(aB (x:=0) (by omega)),(aB (x:=((aa.mk b false 0).wordsC 1).wordV) (by omega)),(aB (x:=0) (by omega)),(aB (x:=0) (by omega)),(aB (x:=0) (by omega)),(aB (x:=0) (by omega)),(aB (x:=0) (by omega)),(aB (x:=0) (by omega)),(aB (x:=0) (by omega)),(b8 (x:=0) (by omega)),(b8 (x:=0) (by omega)),(b8 (x:=0) (by omega)),(b8 (x:=0) (by omega)),(b8 (x:=0) (by omega))⟩⟩ (ud bW dk t)
 have db:=ap s
 refine sg<|Pl 3<|nt<|cb ((c==16)) (fun F=>?_) (fun F=>?_)
 have dl:=am F
 refine sg<|Pl 1<|?_
 have dm:RC w _ A cp b W l (aa.mk b false 0):=⟨hsl,y,(Nat.le_trans f.size d),⟨0,(ub S o),Nat.zero_le _,rfl⟩,by omega⟩
 refine L0<|Oc<|m3 (cK dm) fun eD dn c2 eE=>Pl 1<|?_
 have a8:=nb (ak o) lr g
 refine L0<|bU (aT c2 (Ne.symm a8) X) 2 (mG c 0 ((aa.mk b false 0).wordV) 0 0 0 0 0 0 0 0 0 nS nS nS nS 0 0 0 0 0 nS) fun eF c3 c4=>ng<|Pl 2<|L0<|aR c3 2<|?_
 have b4:=us c2 c4
 have c5:=ut y b4 (ac (ni f.size d) (ac (ni (le f.size i.size) g) aq))
 refine L0<|Oc<|m3 (iY (a:=(aa.mk b false 0).wordV) (most:=123) (by omega) (RC.upd dn c4 (ae a8 ay) c5)) fun eG dp c6 eH=>?_
 refine eX dp fun aC c7 dq=>?_
 refine L0<|sX (((aa.mk b false 0).wordsC 1).wordV)<|Pl 1<|?_
 refine L0<|bU (aT c6 (Ne.symm a8) c3) 3 (mG c 0 ((aa.mk b false 0).wordV) (((aa.mk b false 0).wordsC 1).wordV) 0 0 0 0 0 0 0 0 nS nS nS nS 0 0 0 0 0 nS) fun eI dr c8=>ng<|Pl 2<|nt<|c0<|sk<|bn<|tn<|sg<|?_
 refine Pl 1<|?_
 have b5:=us c6 c8
 have c9:=ut c5 b5 (ac (ni f.size d) (ac (ni (le f.size i.size) g) aq))
 refine L0<|Oc<|m2 (dR (RC.upd dq c8 (ae a8 ay) c9)) fun eJ b6 aD=>nt<|sq<|sg<|Pl 3<|L0<|ec (p:=⟨l,3,none⟩) (v:=.int .i64 aC.endC.e) (RC.fld b6)<|Pl 1<|nt<|?_
 have ca:=ud c9 aD (le f.size d)
 refine cb ((aC.endC.e != 0)) (fun a9=>?_) (fun a9=>?_)
 have b9:=av a9
 refine sq<|Rg 7 (fun w'=>w'.cell? ⟨l,3,none⟩=some (.int .i64 aC.endC.e)) fun eK aG=>?_
 have cd:=RC.upd b6 aG ay (aE.step (RC.u b6) aG)
 refine bh (RC.fld cd) fun ab=>Rt 0 ab<|Rt 1 ab<|Rt 2 ab<|Rt 3 ab<|Rl 4 ab (fun _ hs=>hs)<|?_
 refine R0 5 rfl<|b7 (ub (ut r (ut b4 (u1 b5 (aI aD aG) im) (ac im (ac im aq))) (ac (nr d) (ac (ni i.size g) aq))) j) mZ fun eL ds cj=>?_
 have cl:=ud ca (uz aG cj) t
 refine bh (RC.fld (RC.upd cd cj (ae (Ne.symm (nb (ak j) lr d)) ay) cl)) fun dt=>Rt 6 dt<|re<|tn<|rt<|tr<|bL ds (.int .i64 aC.endC.e)<|?_
 subst c7
 have hs:ag aH 1 c b=aF (aP.mk c 0 ((aa.mk b false 0).wordV) (((aa.mk b false 0).wordsC 1).wordV) 0 0 0 0 0 0 0 0 [] [] [] [] 0 0 0 0 0 []) (aS ((aa.mk b false 0).wordsC 1) ((aa.mk b false 0).wordV) 123):=by
   unfold ag aH bI bO cP cA ck cz cy gi
   (try simp only[k,z,C,D,B,s,F,a9,bs,if_true,if_false,decide_true,decide_false,eq_self,true_or,or_true,or_false,false_or,if_true,if_false,ch,cc,cg,ci,reduceIte,ii,ij])
   all_goals rfl
 rw[hs]
 exact bg b9 cl
 have b9:=ai a9
 refine bz<|sg<|?_
 refine L0<|bZ (aT aD (Ne.symm a8) dr)<|?_
 refine L0<|b7 (ub (ut r (ut b4 (u1 b5 aD im) (ac im (ac im aq))) (ac (nr d) (ac (ni i.size g) aq))) j) (mG c 0 ((aa.mk b false 0).wordV) (((aa.mk b false 0).wordsC 1).wordV) 0 0 0 0 0 0 0 0 nS nS nS nS 0 0 0 0 0 nS) fun eM dv dw=>Pl 1<|nt<|rt<|bL dv (.int .i64 0)<|?_
 subst c7
 have hs:ag aH 1 c b=aF (aP.mk c 0 ((aa.mk b false 0).wordV) (((aa.mk b false 0).wordsC 1).wordV) 0 0 0 0 0 0 0 0 [] [] [] [] 0 0 0 0 0 []) (aS ((aa.mk b false 0).wordsC 1) ((aa.mk b false 0).wordV) 123):=by
   unfold ag aH bI bO cP cA ck cz cy gi
   (try simp only[k,z,C,D,B,s,F,a9,bs,if_true,if_false,decide_true,decide_false,eq_self,true_or,or_true,or_false,false_or,if_true,if_false,ch,cc,cg,ci,reduceIte,ii,ij])
   all_goals rfl
 rw[hs]
 exact bo b9 ⟨_,_,_,_,_,rfl,aK.nil ..,aK.nil ..,(fun _ _ _=>aK.nil ..),aK.nil ..,aK.nil ..,⟨(b8 (x:=c) (by omega)),(b8 (x:=0) (by omega)),(aB (x:=(aa.mk b false 0).wordV) (by omega)),(aB (x:=((aa.mk b false 0).wordsC 1).wordV) (by omega)),(aB (x:=0) (by omega)),(aB (x:=0) (by omega)),(aB (x:=0) (by omega)),(aB (x:=0) (by omega)),(aB (x:=0) (by omega)),(aB (x:=0) (by omega)),(aB (x:=0) (by omega)),(aB (x:=0) (by omega)),(b8 (x:=0) (by omega)),(b8 (x:=0) (by omega)),(b8 (x:=0) (by omega)),(b8 (x:=0) (by omega)),(b8 (x:=0) (by omega))⟩⟩ (ud ca dw t)
 have dl:=ap F
 refine sg<|Pl 3<|nt<|cb ((c==22)) (fun I=>?_) (fun I=>?_)
 have dx:=am I
 refine sg<|Pl 1<|?_
 have dy:RC w _ A cp b W l (aa.mk b false 0):=⟨hsl,y,(Nat.le_trans f.size d),⟨0,(ub S o),Nat.zero_le _,rfl⟩,by omega⟩
 refine L0<|Oc<|m3 (cK dy) fun eN dz cm eO=>Pl 1<|?_
 have N:=nb (ak o) lr g
 refine L0<|bU (aT cm (Ne.symm N) X) 2 (mG c 0 ((aa.mk b false 0).wordV) 0 0 0 0 0 0 0 0 0 nS nS nS nS 0 0 0 0 0 nS) fun eP dA cn=>ng<|Pl 1<|?_
 have ba:=us cm cn
 have co:=ut y ba (ac (ni f.size d) (ac (ni (le f.size i.size) g) aq))
 refine L0<|Oc<|m3 (cK (RC.upd dz cn (ae N ay) co)) fun eQ dC cq eR=>Pl 1<|?_
 refine L0<|bU (aT cq (Ne.symm N) dA) 5 (mG c 0 ((aa.mk b false 0).wordV) 0 0 (((aa.mk b false 0).wordsC 1).wordV) 0 0 0 0 0 0 nS nS nS nS 0 0 0 0 0 nS) fun eS dD cr=>nt<|go<|Pl 1<|?_
 have bb:=us cq cr
 have cs:=ut co bb (ac (ni f.size d) (ac (ni (le f.size i.size) g) aq))
 refine L0<|Oc<|m3 (cK (RC.upd dC cr (ae N ay) cs)) fun eT dE ct eU=>Pl 1<|?_
 refine L0<|bU (aT ct (Ne.symm N) dD) 6 (mG c 0 ((aa.mk b false 0).wordV) 0 0 (((aa.mk b false 0).wordsC 1).wordV) ((((aa.mk b false 0).wordsC 1).wordsC 1).wordV) 0 0 0 0 0 nS nS nS nS 0 0 0 0 0 nS) fun eV dF cv=>nl<|bn<|tn<|sg<|Pl 1<|?_
 have bc:=us ct cv
 have cw:=ut cs bc (ac (ni f.size d) (ac (ni (le f.size i.size) g) aq))
 refine L0<|Oc<|m2 (dR (RC.upd dE cv (ae N ay) cw)) fun eW bd aL=>nt<|sq<|sg<|Pl 3<|L0<|ec (p:=⟨l,3,none⟩) (v:=.int .i64 ((((((aa.mk b false 0).wordsC 1).wordsC 1).wordsC 1).endC).e)) (RC.fld bd)<|Pl 1<|nt<|?_
 have cx:=ud cw aL (le f.size d)
 refine cb ((((((((aa.mk b false 0).wordsC 1).wordsC 1).wordsC 1).endC).e)!=0)) (fun ad=>?_) (fun ad=>?_)
 have be:=av ad
 refine sq<|Rg 7 (fun w'=>w'.cell? ⟨l,3,none⟩=some (.int .i64 ((((((aa.mk b false 0).wordsC 1).wordsC 1).wordsC 1).endC).e))) fun eZ aM=>?_
 have cB:=RC.upd bd aM ay (aE.step (RC.u bd) aM)
 refine bh (RC.fld cB) fun af=>Rt 0 af<|Rt 1 af<|Rt 2 af<|Rt 3 af<|Rl 4 af (fun _ hs=>hs)<|?_
 refine R0 5 rfl<|b7 (ub (ut r (ut ba (ut bb (u1 bc (aI aL aM) im) (ac im (ac im aq))) (ac im (ac im aq))) (ac (nr d) (ac (ni i.size g) aq))) j) mZ fun f0 dG cC=>?_
 have cD:=ud cx (uz aM cC) t
 refine bh (RC.fld (RC.upd cB cC (ae (Ne.symm (nb (ak j) lr d)) ay) cD)) fun dH=>Rt 6 dH<|re<|tn<|rt<|tr<|bL dG (.int .i64 ((((((aa.mk b false 0).wordsC 1).wordsC 1).wordsC 1).endC).e))<|?_
 have hs:ag aH 1 c b=aF (aP.mk c 0 ((aa.mk b false 0).wordV) 0 0 (((aa.mk b false 0).wordsC 1).wordV) ((((aa.mk b false 0).wordsC 1).wordsC 1).wordV) 0 0 0 0 0 [] [] [] [] 0 0 0 0 0 []) ((((aa.mk b false 0).wordsC 1).wordsC 1).wordsC 1):=by
   unfold ag aH bI bO cP cA ck cz cy gi
   (try simp only[k,z,C,D,B,s,F,I,ad,bs,if_true,if_false,decide_true,decide_false,eq_self,true_or,or_true,or_false,false_or,if_true,if_false,ch,cc,cg,ci,reduceIte,ii,ij])
   all_goals rfl
 rw[hs]
 exact bg be cD
 have be:=ai ad
 refine bz<|sg<|?_
 refine L0<|bZ (aT aL (Ne.symm N) dF)<|?_
 refine L0<|b7 (ub (ut r (ut ba (ut bb (u1 bc aL im) (ac im (ac im aq))) (ac im (ac im aq))) (ac (nr d) (ac (ni i.size g) aq))) j) (mG c 0 ((aa.mk b false 0).wordV) 0 0 (((aa.mk b false 0).wordsC 1).wordV) ((((aa.mk b false 0).wordsC 1).wordsC 1).wordV) 0 0 0 0 0 nS nS nS nS 0 0 0 0 0 nS) fun f1 dI dJ=>Pl 1<|nt<|rt<|bL dI (.int .i64 0)<|?_
 have hs:ag aH 1 c b=aF (aP.mk c 0 ((aa.mk b false 0).wordV) 0 0 (((aa.mk b false 0).wordsC 1).wordV) ((((aa.mk b false 0).wordsC 1).wordsC 1).wordV) 0 0 0 0 0 [] [] [] [] 0 0 0 0 0 []) ((((aa.mk b false 0).wordsC 1).wordsC 1).wordsC 1):=by
   unfold ag aH bI bO cP cA ck cz cy gi
   (try simp only[k,z,C,D,B,s,F,I,ad,bs,if_true,if_false,decide_true,decide_false,eq_self,true_or,or_true,or_false,false_or,if_true,if_false,ch,cc,cg,ci,reduceIte,ii,ij])
   all_goals rfl
 rw[hs]
 exact bo be ⟨_,_,_,_,_,rfl,aK.nil ..,aK.nil ..,(fun _ _ _=>aK.nil ..),aK.nil ..,aK.nil ..,⟨(b8 (x:=c) (by omega)),(b8 (x:=0) (by omega)),(aB (x:=(aa.mk b false 0).wordV) (by omega)),(aB (x:=0) (by omega)),(aB (x:=0) (by omega)),(aB (x:=((aa.mk b false 0).wordsC 1).wordV) (by omega)),(aB (x:=(((aa.mk b false 0).wordsC 1).wordsC 1).wordV) (by omega)),(aB (x:=0) (by omega)),(aB (x:=0) (by omega)),(aB (x:=0) (by omega)),(aB (x:=0) (by omega)),(aB (x:=0) (by omega)),(b8 (x:=0) (by omega)),(b8 (x:=0) (by omega)),(b8 (x:=0) (by omega)),(b8 (x:=0) (by omega)),(b8 (x:=0) (by omega))⟩⟩ (ud cx dJ t)
 have dx:=ap I
 refine sg<|Pl 3<|nt<|cf B<|sg<|Pl 3<|cu 3 [168] 171 (false) (fun K cE=>?_) ?_
 refine bl 168 ((c==24)) (fun bf=>?_) (fun bf=>?_)
 have dK:=am bf
 exact Pl 3<|ce cE false rfl
 have dK:=ap bf
 exact Pl 3<|ce cE false rfl
 refine Pl 1<|nt<|c0<|sg<|Pl 3<|nt<|cb ((c==24)) (fun T=>?_) (fun T=>?_)
 have dL:=am T
 refine sg<|Pl 1<|?_
 have dM:RC w _ A cp b W l (aa.mk b false 0):=⟨hsl,y,(Nat.le_trans f.size d),⟨0,(ub S o),Nat.zero_le _,rfl⟩,by omega⟩
 refine L0<|Oc<|m3 (cK dM) fun f2 dN O f3=>L0<|Oi ((aa.mk b false 0).wordV)<|Pl 1<|ng<|Pl 2<|L0<|Oe (.int .i64 (Int.tmod ((aa.mk b false 0).wordV) 2)) (.int .i64 (((aa.mk b false 0).wordV)%2)) (congrArg (Value.int .i64) (Int.tmod_eq_emod_of_nonneg (by omega)))<|Pl 2<|cu 3 [185] 188 ((((((aa.mk b false 0).wordV)%2)==0)&&(decide (2≤((aa.mk b false 0).wordV))))) (fun K cF=>?_) ?_
 refine bl 185 (((((aa.mk b false 0).wordV)%2)==0)) (fun ah=>?_) (fun ah=>?_)
 have dO:=am ah
 exact Pl 3<|ce cF (decide (2≤((aa.mk b false 0).wordV))) (by rw[ah];rfl)
 have dO:=ap ah
 exact Pl 3<|ce cF false (by rw[ah];rfl)
 refine Pl 1<|cu 3 [189] 192 (((((((aa.mk b false 0).wordV)%2)==0)&&(decide (2≤((aa.mk b false 0).wordV))))&&(decide (((aa.mk b false 0).wordV)≤64)))) (fun K cG=>?_) ?_
 refine bl 189 ((((((aa.mk b false 0).wordV)%2)==0)&&(decide (2≤((aa.mk b false 0).wordV))))) (fun aj=>?_) (fun aj=>?_)
 have dP:=(aW aj).1
 have dQ:=(aW aj).2
 have f4:=am dP
 have f5:=of_decide_eq_true dQ
 exact Pl 3<|ce cG (decide (((aa.mk b false 0).wordV)≤64)) (by rw[aj];rfl)
 exact Pl 3<|ce cG false (by rw[aj];rfl)
 refine L0<|Oc<|m2 (aU (((((((aa.mk b false 0).wordV)%2)==0)&&(decide (2≤((aa.mk b false 0).wordV))))&&(decide (((aa.mk b false 0).wordV)≤64)))) 5 dN) fun f6 dS P=>?_
 refine eX dS fun E cH dT=>?_
 refine ng<|Pl 1<|L0<|Oc<|m3 (cK dT) fun f7 dU Q f8=>L0<|Oi E.wordV<|Pl 1<|ng<|Pl 3<|L0<|Oi (2*E.wordV)<|?_
 refine L0<|Oi ((2*E.wordV)+2)<|Pl 1<|L0<|Oc<|m2 (aU ((((aa.mk b false 0).wordV)==((2*E.wordV)+2))) 5 dU) fun f9 dV R=>?_
 refine eX dV fun U cI dW=>?_
 refine nt<|go<|Pl 2<|L0<|Oc<|kY (fa (n:=E.wordV) (by omega) dW) fun cJ cL fb J fc fd dX dY=>Pl 1<|?_
 have cM:=u1 O (u1 P (u1 Q (u1 R dY im) im) im) im
 have bj:=nb (ak o) lr g
 refine L0<|bU (aT cM (Ne.symm bj) X) 12 (mG c 0 0 0 0 0 0 0 0 0 0 0 (.slice cJ ((U.wordsR E.wordV).length) cL) nS nS nS 0 0 0 0 0 nS) fun fe dZ aN=>nl<|bn<|tn<|sg<|Pl 1<|?_
 have bm:=us cM aN
 have cN:=ut y bm (ac (ni f.size d) (ac (ni (le f.size i.size) g) aq))
 refine L0<|Oc<|m2 (dR (RC.upd dX aN (ae bj ay) cN)) fun ff bp al=>nt<|sq<|sg<|Pl 3<|L0<|ec (p:=⟨l,3,none⟩) (v:=.int .i64 (((U.wordsC E.wordV).endC).e)) (RC.fld bp)<|Pl 1<|nt<|?_
 have cO:=ud cN al (le f.size d)
 refine cb (((((U.wordsC E.wordV).endC).e)!=0)) (fun an=>?_) (fun an=>?_)
 have bq:=av an
 refine sq<|Rg 7 (fun w'=>w'.cell? ⟨l,3,none⟩=some (.int .i64 (((U.wordsC E.wordV).endC).e))) fun fg aO=>?_
 have cQ:=RC.upd bp aO ay (aE.step (RC.u bp) aO)
 refine bh (RC.fld cQ) fun ao=>Rt 0 ao<|Rt 1 ao<|Rt 2 ao<|Rt 3 ao<|Rl 4 ao (fun _ hs=>hs)<|?_
 have cR:=aI al aO
 refine R0 5 rfl<|b7 (ub (ut r (u1 bm cR im) (ac (nr d) (ac (ni i.size g) aq))) j) mZ fun fh e0 bt=>?_
 have cS:=ud cO (uz aO bt) t
 refine bh (RC.fld (RC.upd cQ bt (ae (Ne.symm (nb (ak j) lr d)) ay) cS)) fun e1=>Rt 6 e1<|re<|tn<|rt<|tr<|bL e0 (.int .i64 (((U.wordsC E.wordV).endC).e))<|?_
 subst cI cH
 have fi:=ax J (us aN (us cR bt)) (fun x hx=>(ae (fun e=>(aA (ak V) (le (le (le (le q.size O.size) P.size) Q.size) R.size) J) (e▸hx)) (ae (fun e=>(aA (ak o) (le (le (le (le (le G.size q.size) O.size) P.size) Q.size) R.size) J) (e▸hx)) (ae (fun e=>(aA (ak j) (le (le (le (le (le (le i.size G.size) q.size) O.size) P.size) Q.size) R.size) J) (e▸hx)) ay)))) (fun _ _ h=>h)
 have hs:ag aH 1 c b=aF (aP.mk c 0 0 0 0 0 0 0 0 0 0 0 ((((((aa.mk b false 0).wordsC 1).need ((((((aa.mk b false 0).wordV)%2)==0)&&(decide (2≤((aa.mk b false 0).wordV))))&&(decide (((aa.mk b false 0).wordV)≤64))) 5).wordsC 1).need (((aa.mk b false 0).wordV)==((2*(((aa.mk b false 0).wordsC 1).need ((((((aa.mk b false 0).wordV)%2)==0)&&(decide (2≤((aa.mk b false 0).wordV))))&&(decide (((aa.mk b false 0).wordV)≤64))) 5).wordV)+2)) 5).wordsR (((aa.mk b false 0).wordsC 1).need ((((((aa.mk b false 0).wordV)%2)==0)&&(decide (2≤((aa.mk b false 0).wordV))))&&(decide (((aa.mk b false 0).wordV)≤64))) 5).wordV) [] [] [] 0 0 0 0 0 []) ((((((aa.mk b false 0).wordsC 1).need ((((((aa.mk b false 0).wordV)%2)==0)&&(decide (2≤((aa.mk b false 0).wordV))))&&(decide (((aa.mk b false 0).wordV)≤64))) 5).wordsC 1).need (((aa.mk b false 0).wordV)==((2*(((aa.mk b false 0).wordsC 1).need ((((((aa.mk b false 0).wordV)%2)==0)&&(decide (2≤((aa.mk b false 0).wordV))))&&(decide (((aa.mk b false 0).wordV)≤64))) 5).wordV)+2)) 5).wordsC (((aa.mk b false 0).wordsC 1).need ((((((aa.mk b false 0).wordV)%2)==0)&&(decide (2≤((aa.mk b false 0).wordV))))&&(decide (((aa.mk b false 0).wordV)≤64))) 5).wordV):=by
   unfold ag aH bI bO cP cA ck cz cy gi
   (try simp only[k,z,C,D,B,s,F,I,T,an,bs,if_true,if_false,decide_true,decide_false,eq_self,true_or,or_true,or_false,false_or,if_true,if_false,ch,cc,cg,ci,reduceIte,ii,ij])
   all_goals rfl
 rw[hs]
 exact bg bq cS
 have bq:=ai an
 refine bz<|sg<|?_
 refine L0<|bZ (aT al (Ne.symm bj) dZ)<|?_
 refine L0<|b7 (ub (ut r (u1 bm al im) (ac (nr d) (ac (ni i.size g) aq))) j) (mG c 0 0 0 0 0 0 0 0 0 0 0 (.slice cJ ((U.wordsR E.wordV).length) cL) nS nS nS 0 0 0 0 0 nS) fun fj e2 cT=>Pl 1<|nt<|rt<|bL e2 (.int .i64 0)<|?_
 subst cI cH
 have hs:ag aH 1 c b=aF (aP.mk c 0 0 0 0 0 0 0 0 0 0 0 ((((((aa.mk b false 0).wordsC 1).need ((((((aa.mk b false 0).wordV)%2)==0)&&(decide (2≤((aa.mk b false 0).wordV))))&&(decide (((aa.mk b false 0).wordV)≤64))) 5).wordsC 1).need (((aa.mk b false 0).wordV)==((2*(((aa.mk b false 0).wordsC 1).need ((((((aa.mk b false 0).wordV)%2)==0)&&(decide (2≤((aa.mk b false 0).wordV))))&&(decide (((aa.mk b false 0).wordV)≤64))) 5).wordV)+2)) 5).wordsR (((aa.mk b false 0).wordsC 1).need ((((((aa.mk b false 0).wordV)%2)==0)&&(decide (2≤((aa.mk b false 0).wordV))))&&(decide (((aa.mk b false 0).wordV)≤64))) 5).wordV) [] [] [] 0 0 0 0 0 []) ((((((aa.mk b false 0).wordsC 1).need ((((((aa.mk b false 0).wordV)%2)==0)&&(decide (2≤((aa.mk b false 0).wordV))))&&(decide (((aa.mk b false 0).wordV)≤64))) 5).wordsC 1).need (((aa.mk b false 0).wordV)==((2*(((aa.mk b false 0).wordsC 1).need ((((((aa.mk b false 0).wordV)%2)==0)&&(decide (2≤((aa.mk b false 0).wordV))))&&(decide (((aa.mk b false 0).wordV)≤64))) 5).wordV)+2)) 5).wordsC (((aa.mk b false 0).wordsC 1).need ((((((aa.mk b false 0).wordV)%2)==0)&&(decide (2≤((aa.mk b false 0).wordV))))&&(decide (((aa.mk b false 0).wordV)≤64))) 5).wordV):=by
   unfold ag aH bI bO cP cA ck cz cy gi
   (try simp only[k,z,C,D,B,s,F,I,T,an,bs,if_true,if_false,decide_true,decide_false,eq_self,true_or,or_true,or_false,false_or,if_true,if_false,ch,cc,cg,ci,reduceIte,ii,ij])
   all_goals rfl
 rw[hs]
 exact bo bq ⟨_,_,_,_,_,rfl,((ax J (us aN (us al cT)) (fun x hx=>(ae (fun e=>(aA (ak V) (le (le (le (le q.size O.size) P.size) Q.size) R.size) J) (e▸hx)) (ae (fun e=>(aA (ak o) (le (le (le (le (le G.size q.size) O.size) P.size) Q.size) R.size) J) (e▸hx)) (ae (fun e=>(aA (ak j) (le (le (le (le (le (le i.size G.size) q.size) O.size) P.size) Q.size) R.size) J) (e▸hx)) ay)))) (fun _ _ h=>h))).rd,aK.nil ..,(fun _ _ _=>aK.nil ..),aK.nil ..,aK.nil ..,⟨(b8 (x:=c) (by omega)),(b8 (x:=0) (by omega)),(aB (x:=0) (by omega)),(aB (x:=0) (by omega)),(aB (x:=0) (by omega)),(aB (x:=0) (by omega)),(aB (x:=0) (by omega)),(aB (x:=0) (by omega)),(aB (x:=0) (by omega)),(aB (x:=0) (by omega)),(aB (x:=0) (by omega)),(aB (x:=0) (by omega)),(b8 (x:=0) (by omega)),(b8 (x:=0) (by omega)),(b8 (x:=0) (by omega)),(b8 (x:=0) (by omega)),(b8 (x:=0) (by omega))⟩⟩ (ud cO cT t)
 have dL:=ap T
 refine sg<|Pl 1<|?_
 refine L0<|b7 (ub r j) mZ fun fk e3 e4=>Pl 1<|nt<|rt<|br<|tr<|bL e3 (.int .i64 4)<|?_
 have hs:ag aH 1 c b=(aP.zero,4):=by
   unfold ag aH bI bO cP cA ck cz cy gi
   (try simp only[k,z,C,D,B,s,F,I,T,bs,if_true,if_false,decide_true,decide_false,eq_self,true_or,or_true,or_false,false_or,if_true,if_false,ch,cc,cg,ci,reduceIte,ii,ij])
   all_goals rfl
 rw[hs]
 exact bu (ud y e4 t)
theorem jq{m:Md}{A:Option Addr}{cp:Nat}{b:List Int}{w:World}{dir c:Int}(hcode:B8 c)(hsl:bi m w (.slice A b.length cp) b)(hb:b.length≤1048576)(hd:¬ (dir=0∨dir=1)) :
    Calls Tryz.prog 94 #[.int .i64 dir,.int .u8 c,.slice A b.length cp] w (d7 (.slice A b.length cp) b (ag aH dir c b) w):=by
 obtain⟨hcode1,hcode2⟩:=hcode
 have hln:(b.length:Int)≤1048576:=by omega
 have e0:(dir != 0)=true:=by simp;omega
 have e1:(dir != 1)=true:=by simp;omega
 refine en 221 Tryz.func94 rfl<|sg<|L0<|bK mZ fun g h a d e=>Pl 1<|nt<|sq<|sg<|Pl 3<|sy 18 e0<|Pl 3<|nl<|?_
 refine tn<|ct e1<|sg<|Pl 1<|L0<|b7 d mZ fun i dx f=>Pl 1<|nt<|rt<|tr<|bL dx (.int .i64 1)<|?_
 have hs:ag aH dir c b=(aP.zero,1):=by
   unfold ag aH bI bO cP cA ck cz cy gi
   (try simp only[e0,e1,bs,if_true,if_false,decide_true,decide_false,eq_self,true_or,or_true,or_false,false_or,if_true,if_false,ch,cc,cg,ci,reduceIte,hd,ii,ij])
   all_goals rfl
 rw[hs]
 exact bu (ud e f a)
open Go.RowKit
def ej (dir:Int)(C:aa) : aa:=(C.wordsC 1).need (bM C.wordV&&((C.wordV != 4)||(dir==0))) 8
theorem fc{C:aa}:ej 0 C=(C.wordsC 1).need (bM C.wordV) 8:=by
  unfold ej
  rw[show((0:Int)==0)=true from rfl,Bool.or_true,Bool.and_true]
theorem fb{C:aa}:ej 1 C=(C.wordsC 1).need (bM C.wordV&&(C.wordV != 4)) 8:=by
  unfold ej
  rw[show((1:Int)==0)=false from rfl,Bool.or_false]
def cS (dir c:Int)(C:aa) : aa × aP :=
  if C.wordV==0 then ((i9 (ej dir C)).wordsC (((ej dir C).l.length:Int)/2),{ aP.zero with code:=c,sub:=C.wordV,words:=(i9 (ej dir C)).wordsR (((ej dir C).l.length:Int)/2) })
  else (((ej dir C).wordsC 1).need (ee dir C.wordV (ej dir C).wordV) 6,{ aP.zero with code:=c,sub:=C.wordV,words:=[(ej dir C).wordV] })
def cn (c:Int)(C:aa) : aa × aP :=
  if c==7 then (C.bytesC 1,{ aP.zero with code:=c,value:=C.byteV })
  else if c==11 then ((dq C).wordsC 1,{ aP.zero with code:=c,status:=C.wordV,events:=(dq C).wordV })
  else if c==12 then ((gn C).bytesC (C.byteV-6),{ aP.zero with code:=c,status:=(fO C 6 70).wordV,events:=(dq (fO C 6 70)).wordV,messages:=((dq (fO C 6 70)).wordsC 1).wordV,data:=(gn C).bytesR (C.byteV-6) })
  else ((fO C 1 251).bytesC C.byteV,{ aP.zero with code:=c,data:=(fO C 1 251).bytesR C.byteV })
def aX (dir c:Int)(C:aa) : Option (aa × aP) :=
  if ((((c != 7)&&(c != 8))&&(c != 11))&&(c != 12))&&(c != 17) then none
  else if c==8 then some (cS dir c C)
  else if dir==0 then some (C,{ aP.zero with code:=c })
  else some (cn c C)
theorem jo{m:Md}{A:Option Addr}{cp:Nat}{b:List Int}{w:World}{c:Int}(hcode:B8 c)(hsl:bi m w (.slice A b.length cp) b)(hb:b.length≤1048576) :
    Calls Tryz.prog 95 #[.int .i64 0,.int .u8 c,.slice A b.length cp] w (d7 (.slice A b.length cp) b (ag aX 0 c b) w):=by
 obtain⟨hcode1,hcode2⟩:=hcode
 have hln:(b.length:Int)≤1048576:=by omega
 refine en 197 Tryz.func95 rfl<|sg<|L0<|bK mZ fun cQ cR I g i=>Pl 1<|nt<|sq<|sg<|Pl 6<|nt<|c0<|?_
 refine bz<|sq<|sg<|Pl 3<|cu 3 [24] 27 (((c != 7)&&(c != 8))) (fun K aS=>?_) ?_
 refine bl 24 ((c != 7)) (fun O=>?_) (fun O=>?_)
 have bX:=av O
 exact Pl 3<|ce aS (c != 8) (by rw[O];rfl)
 have bX:=ai O
 exact Pl 3<|ce aS false (by rw[O];rfl)
 refine Pl 1<|cu 3 [28] 31 ((((c != 7)&&(c != 8))&&(c != 11))) (fun K aV=>?_) ?_
 refine bl 28 (((c != 7)&&(c != 8))) (fun P=>?_) (fun P=>?_)
 have bY:=(aW P).1
 have c2:=(aW P).2
 have cT:=av bY
 have cU:=av c2
 exact Pl 3<|ce aV (c != 11) (by rw[P];rfl)
 exact Pl 3<|ce aV false (by rw[P];rfl)
 refine Pl 1<|cu 3 [32] 35 (((((c != 7)&&(c != 8))&&(c != 11))&&(c != 12))) (fun K aY=>?_) ?_
 refine bl 32 ((((c != 7)&&(c != 8))&&(c != 11))) (fun Q=>?_) (fun Q=>?_)
 have b0:=(aW Q).1
 have c3:=(aW Q).2
 have c4:=(aW b0).1
 have c5:=(aW b0).2
 have q19aap:=av c4
 have q19abp:=av c5
 have cV:=av c3
 exact Pl 3<|ce aY (c != 12) (by rw[Q];rfl)
 exact Pl 3<|ce aY false (by rw[Q];rfl)
 refine Pl 1<|cu 3 [36] 39 ((((((c != 7)&&(c != 8))&&(c != 11))&&(c != 12))&&(c != 17))) (fun K b1=>?_) ?_
 refine bl 36 (((((c != 7)&&(c != 8))&&(c != 11))&&(c != 12))) (fun R=>?_) (fun R=>?_)
 have b2:=(aW R).1
 have c6:=(aW R).2
 have b3:=(aW b2).1
 have c7:=(aW b2).2
 have q21aaa:=(aW b3).1
 have q21aab:=(aW b3).2
 have q21aaap:=av q21aaa
 have q21aabp:=av q21aab
 have q21abp:=av c7
 have cW:=av c6
 exact Pl 3<|ce b1 (c != 17) (by rw[R];rfl)
 exact Pl 3<|ce b1 false (by rw[R];rfl)
 refine nt<|cb ((((((c != 7)&&(c != 8))&&(c != 11))&&(c != 12))&&(c != 17))) (fun r=>?_) (fun r=>?_)
 have aj:=(aW r).1
 have b4:=(aW r).2
 have al:=(aW aj).1
 have b5:=(aW aj).2
 have q23aaa:=(aW al).1
 have q23aab:=(aW al).2
 have q23aaaa:=(aW q23aaa).1
 have q23aaab:=(aW q23aaa).2
 have q23aaaap:=av q23aaaa
 have q23aaabp:=av q23aaab
 have q23aabp:=av q23aab
 have q23abp:=av b5
 have cX:=av b4
 refine sg<|Pl 1<|L0<|b7 g mZ fun cY c8 c9=>Pl 1<|nt<|rt<|tr<|bL c8 (.int .i64 4)<|?_
 have hs:ag aX 0 c b=(aP.zero,4):=by
   unfold ag aX cS cn
   (try simp only[r,aj,al,q23aaa,q23aaaa,q23aaab,q23aab,b5,b4,bs,if_true,if_false,decide_true,decide_false,eq_self,true_or,or_true,or_false,false_or,if_true,if_false,ch,cc,cg,ci,reduceIte,fc,fb])
   all_goals rfl
 rw[hs]
 exact bu (ud i c9 I)
 refine bz<|sg<|Pl 2<|L0<|du #[.slice A b.length cp,.int .i64 0,.bool false,.int .i64 0] fun D cZ a E q=>Pl 1<|ng<|Pl 2<|L0<|bK mZ fun d0 d1 s S y=>L0<|b7 S (mC c) fun b6 b9 k=>?_
 refine nt<|sq<|bk<|sg<|Pl 3<|nt<|?_
 have an:=ud y k s
 have J:=aI q an
 have a5:=aI i J
 refine cb ((c==8)) (fun z=>?_) (fun z=>?_)
 have ca:=am z
 refine sg<|Pl 1<|?_
 have cd:RC w _ A cp b b6 D (aa.mk b false 0):=⟨hsl,a5,(Nat.le_trans i.size a),⟨0,(ub an E),Nat.zero_le _,rfl⟩,by omega⟩
 refine L0<|Oc<|m3 (cK cd) fun d2 cf j d3=>Pl 1<|?_
 have t:=nb (ak E) lr s
 refine L0<|bU (aT j (Ne.symm t) b9) 8 (mG c 0 0 0 0 0 0 0 ((aa.mk b false 0).wordV) 0 0 0 nS nS nS nS 0 0 0 0 0 nS) fun cj ao o=>ng<|Pl 1<|L0<|aR ao 8<|L0<|Oc<|m1 (tp (x:=(aa.mk b false 0).wordV) (w:=cj) (by omega)) fun d4 f=>Pl 1<|ng<|Pl 3<|cu 8 [72] 80 ((bM ((aa.mk b false 0).wordV))) (fun K ba=>?_) ?_
 refine bl 72 ((bM ((aa.mk b false 0).wordV))) (fun ar=>?_) (fun ar=>?_)
 refine Pl 1<|?_
 refine L1<|aR (ub f ao) 8<|Pl 2<|cu 3 [76] 79 (true) (fun K bb=>?_) ?_
 refine bl 76 ((((aa.mk b false 0).wordV)!=4)) (fun au=>?_) (fun au=>?_)
 have ck:=av au
 exact Pl 3<|ce bb true rfl
 have ck:=ai au
 exact Pl 3<|ce bb true rfl
 exact Pl 1<|ce ba true ar
 exact Pl 8<|ce ba false ar
 have bc:=aI o f
 have T:=us j bc
 have bd:=ut a5 T (ac (ni i.size a) (ac (ni (le i.size q.size) s) aq))
 refine L0<|Oc<|m2 (aU ((bM ((aa.mk b false 0).wordV))) 8 (RC.upd cf bc (ae t ay) bd)) fun d5 cl d=>?_
 refine eX cl fun x70 a6 U=>?_
 refine nt<|sq<|sg<|Pl 1<|?_
 have aw:=aT (uz f d) (Ne.symm t) ao
 refine L0<|aR aw 8<|Pl 1<|nt<|?_
 have be:=ud bd d (le i.size a)
 refine cb ((((aa.mk b false 0).wordV)==0)) (fun L=>?_) (fun L=>?_)
 have cm:=am L
 refine sg<|Pl 1<|L0<|Oc<|m1 (gl U) fun d6 B=>?_
 have d8:=RC.clen U
 refine Pl 1<|ng<|Pl 2<|L0<|Oe (.int .i64 (Int.tmod ((x70.l.length:Nat) : Int) 2)) (.int .i64 (((x70.l.length:Nat) : Int)%2)) (congrArg (Value.int .i64) (Int.tmod_eq_emod_of_nonneg (by omega)))<|Pl 2<|cu 3 [91] 94 ((((((x70.l.length:Nat) : Int)%2)==0)&&(decide (2≤((x70.l.length:Nat) : Int))))) (fun K bf=>?_) ?_
 refine bl 91 (((((x70.l.length:Nat) : Int)%2)==0)) (fun V=>?_) (fun V=>?_)
 have co:=am V
 exact Pl 3<|ce bf (decide (2≤((x70.l.length:Nat) : Int))) (by rw[V];rfl)
 have co:=ap V
 exact Pl 3<|ce bf false (by rw[V];rfl)
 refine Pl 1<|cu 3 [95] 98 (((((((x70.l.length:Nat) : Int)%2)==0)&&(decide (2≤((x70.l.length:Nat) : Int))))&&(decide (((x70.l.length:Nat) : Int)≤250)))) (fun K bj=>?_) ?_
 refine bl 95 ((((((x70.l.length:Nat) : Int)%2)==0)&&(decide (2≤((x70.l.length:Nat) : Int))))) (fun W=>?_) (fun W=>?_)
 have cq:=(aW W).1
 have cr:=(aW W).2
 have d9:=am cq
 have da:=of_decide_eq_true cr
 exact Pl 3<|ce bj (decide (((x70.l.length:Nat) : Int)≤250)) (by rw[W];rfl)
 exact Pl 3<|ce bj false (by rw[W];rfl)
 refine L0<|Oc<|m2 (aU (((((((x70.l.length:Nat) : Int)%2)==0)&&(decide (2≤((x70.l.length:Nat) : Int))))&&(decide (((x70.l.length:Nat) : Int)≤250)))) 5 (RC.upd U B ay (aE.step (RC.u U) B))) fun db cs M=>?_
 refine eX cs fun x88 bm ct=>?_
 refine ng<|Pl 2<|L0<|Oe (.int .i64 (IntKind.i64.wrap (Int.tdiv ((x70.l.length:Nat) : Int) 2))) (.int .i64 (((x70.l.length:Nat) : Int)/2)) (congrArg (Value.int .i64) (eY (by omega) (by omega)))<|L0<|Oc<|kY (fa (n:=(((x70.l.length:Nat) : Int)/2)) (by omega) ct) fun bp bq dc F dd de cv cw=>Pl 1<|?_
 have br:=uz B (u1 M cw im)
 refine L0<|bU (aT br (Ne.symm t) aw) 12 (mG c 0 0 0 0 0 0 0 ((aa.mk b false 0).wordV) 0 0 0 (.slice bp ((x88.wordsR (((x70.l.length:Nat) : Int)/2)).length) bq) nS nS nS 0 0 0 0 0 nS) fun df cx a7=>nt<|xt<|tx<|bx<|tn<|sg<|Pl 1<|?_
 have aC:=us br a7
 have bt:=ut be aC (ac (ni i.size a) (ac (ni (le i.size q.size) s) aq))
 refine L0<|Oc<|m2 (dR (RC.upd cv a7 (ae t ay) bt)) fun dg aD X=>nt<|sq<|sg<|Pl 3<|L0<|ec (p:=⟨D,3,none⟩) (v:=.int .i64 (((x88.wordsC (((x70.l.length:Nat) : Int)/2)).endC).e)) (RC.fld aD)<|Pl 1<|nt<|?_
 have bv:=ud bt X (le i.size a)
 refine cb (((((x88.wordsC (((x70.l.length:Nat) : Int)/2)).endC).e)!=0)) (fun Y=>?_) (fun Y=>?_)
 have aG:=av Y
 refine sq<|Rg 7 (fun w'=>w'.cell? ⟨D,3,none⟩=some (.int .i64 (((x88.wordsC (((x70.l.length:Nat) : Int)/2)).endC).e))) fun dh a8=>?_
 have bw:=RC.upd aD a8 ay (aE.step (RC.u aD) a8)
 refine bh (RC.fld bw) fun Z=>Rt 0 Z<|Rt 1 Z<|Rt 2 Z<|Rt 3 Z<|Rl 4 Z (fun _ hs=>hs)<|?_
 have bA:=aI X a8
 refine R0 5 rfl<|b7 (ub (ut J (ut T (ui d (u1 aC bA im)) (ac im (ac im aq))) (ac (nr a) (ac (ni q.size s) aq))) g) mZ fun di cy aH=>?_
 have bB:=ud bv (uz a8 aH) I
 refine bh (RC.fld (RC.upd bw aH (ae (Ne.symm (nb (ak g) lr a)) ay) bB)) fun cz=>Rt 6 cz<|re<|tn<|rt<|tr<|bL cy (.int .i64 (((x88.wordsC (((x70.l.length:Nat) : Int)/2)).endC).e))<|?_
 subst bm a6
 have dj:=ax F (us a7 (us bA aH)) (fun x hx=>(ae (fun e=>(aA (ak S) (le (le (le (le (le (le k.size j.size) o.size) f.size) d.size) B.size) M.size) F) (e▸hx)) (ae (fun e=>(aA (ak E) (le (le (le (le (le (le (le y.size k.size) j.size) o.size) f.size) d.size) B.size) M.size) F) (e▸hx)) (ae (fun e=>(aA (ak g) (le (le (le (le (le (le (le (le q.size y.size) k.size) j.size) o.size) f.size) d.size) B.size) M.size) F) (e▸hx)) ay)))) (fun _ _ h=>h)
 have hs:ag aX 0 c b=aF (aP.mk c 0 0 0 0 0 0 0 ((aa.mk b false 0).wordV) 0 0 0 (((((aa.mk b false 0).wordsC 1).need (bM ((aa.mk b false 0).wordV)) 8).need (((((((((aa.mk b false 0).wordsC 1).need (bM ((aa.mk b false 0).wordV)) 8).l.length:Nat) : Int)%2)==0)&&(decide (2≤(((((aa.mk b false 0).wordsC 1).need (bM ((aa.mk b false 0).wordV)) 8).l.length:Nat) : Int))))&&(decide ((((((aa.mk b false 0).wordsC 1).need (bM ((aa.mk b false 0).wordV)) 8).l.length:Nat) : Int)≤250))) 5).wordsR ((((((aa.mk b false 0).wordsC 1).need (bM ((aa.mk b false 0).wordV)) 8).l.length:Nat) : Int)/2)) [] [] [] 0 0 0 0 0 []) (((((aa.mk b false 0).wordsC 1).need (bM ((aa.mk b false 0).wordV)) 8).need (((((((((aa.mk b false 0).wordsC 1).need (bM ((aa.mk b false 0).wordV)) 8).l.length:Nat) : Int)%2)==0)&&(decide (2≤(((((aa.mk b false 0).wordsC 1).need (bM ((aa.mk b false 0).wordV)) 8).l.length:Nat) : Int))))&&(decide ((((((aa.mk b false 0).wordsC 1).need (bM ((aa.mk b false 0).wordV)) 8).l.length:Nat) : Int)≤250))) 5).wordsC ((((((aa.mk b false 0).wordsC 1).need (bM ((aa.mk b false 0).wordV)) 8).l.length:Nat) : Int)/2)):=by
   unfold ag aX cS cn
   (try simp only[r,z,L,Y,bs,if_true,if_false,decide_true,decide_false,eq_self,true_or,or_true,or_false,false_or,if_true,if_false,ch,cc,cg,ci,reduceIte,fc,fb])
   all_goals rfl
 rw[hs]
 exact bg aG bB
 have aG:=ai Y
 refine bz<|sg<|?_
 refine L0<|bZ (aT X (Ne.symm t) cx)<|?_
 refine L0<|b7 (ub (ut J (ut T (ui d (u1 aC X im)) (ac im (ac im aq))) (ac (nr a) (ac (ni q.size s) aq))) g) (mG c 0 0 0 0 0 0 0 ((aa.mk b false 0).wordV) 0 0 0 (.slice bp ((x88.wordsR (((x70.l.length:Nat) : Int)/2)).length) bq) nS nS nS 0 0 0 0 0 nS) fun dk cA bC=>Pl 1<|nt<|rt<|bL cA (.int .i64 0)<|?_
 subst bm a6
 have hs:ag aX 0 c b=aF (aP.mk c 0 0 0 0 0 0 0 ((aa.mk b false 0).wordV) 0 0 0 (((((aa.mk b false 0).wordsC 1).need (bM ((aa.mk b false 0).wordV)) 8).need (((((((((aa.mk b false 0).wordsC 1).need (bM ((aa.mk b false 0).wordV)) 8).l.length:Nat) : Int)%2)==0)&&(decide (2≤(((((aa.mk b false 0).wordsC 1).need (bM ((aa.mk b false 0).wordV)) 8).l.length:Nat) : Int))))&&(decide ((((((aa.mk b false 0).wordsC 1).need (bM ((aa.mk b false 0).wordV)) 8).l.length:Nat) : Int)≤250))) 5).wordsR ((((((aa.mk b false 0).wordsC 1).need (bM ((aa.mk b false 0).wordV)) 8).l.length:Nat) : Int)/2)) [] [] [] 0 0 0 0 0 []) (((((aa.mk b false 0).wordsC 1).need (bM ((aa.mk b false 0).wordV)) 8).need (((((((((aa.mk b false 0).wordsC 1).need (bM ((aa.mk b false 0).wordV)) 8).l.length:Nat) : Int)%2)==0)&&(decide (2≤(((((aa.mk b false 0).wordsC 1).need (bM ((aa.mk b false 0).wordV)) 8).l.length:Nat) : Int))))&&(decide ((((((aa.mk b false 0).wordsC 1).need (bM ((aa.mk b false 0).wordV)) 8).l.length:Nat) : Int)≤250))) 5).wordsC ((((((aa.mk b false 0).wordsC 1).need (bM ((aa.mk b false 0).wordV)) 8).l.length:Nat) : Int)/2)):=by
   unfold ag aX cS cn
   (try simp only[r,z,L,Y,bs,if_true,if_false,decide_true,decide_false,eq_self,true_or,or_true,or_false,false_or,if_true,if_false,ch,cc,cg,ci,reduceIte,fc,fb])
   all_goals rfl
 rw[hs]
 exact bo aG ⟨_,_,_,_,_,rfl,((ax F (us a7 (us X bC)) (fun x hx=>(ae (fun e=>(aA (ak S) (le (le (le (le (le (le k.size j.size) o.size) f.size) d.size) B.size) M.size) F) (e▸hx)) (ae (fun e=>(aA (ak E) (le (le (le (le (le (le (le y.size k.size) j.size) o.size) f.size) d.size) B.size) M.size) F) (e▸hx)) (ae (fun e=>(aA (ak g) (le (le (le (le (le (le (le (le q.size y.size) k.size) j.size) o.size) f.size) d.size) B.size) M.size) F) (e▸hx)) ay)))) (fun _ _ h=>h))).rd,aK.nil ..,(fun _ _ _=>aK.nil ..),aK.nil ..,aK.nil ..,⟨(b8 (x:=c) (by omega)),(b8 (x:=0) (by omega)),(aB (x:=0) (by omega)),(aB (x:=0) (by omega)),(aB (x:=0) (by omega)),(aB (x:=0) (by omega)),(aB (x:=0) (by omega)),(aB (x:=0) (by omega)),(aB (x:=(aa.mk b false 0).wordV) (by omega)),(aB (x:=0) (by omega)),(aB (x:=0) (by omega)),(aB (x:=0) (by omega)),(b8 (x:=0) (by omega)),(b8 (x:=0) (by omega)),(b8 (x:=0) (by omega)),(b8 (x:=0) (by omega)),(b8 (x:=0) (by omega))⟩⟩ (ud bv bC I)
 have cm:=ap L
 refine bz<|sg<|Pl 1<|L0<|Oc<|m3 (cK U) fun cB bD G dl=>Pl 1<|ng<|Pl 3<|?_
 have bE:=aT G (Ne.symm t) aw
 refine L0<|aR bE 8<|Pl 1<|L0<|Oc<|m1 (t6 (dir:=0) (sub:=(aa.mk b false 0).wordV) (v:=x70.wordV) (w:=cB) (by omega)) fun dm C=>?_
 refine L0<|Oc<|m2 (aU ((ee 0 ((aa.mk b false 0).wordV) x70.wordV)) 6 (RC.upd bD C ay (aE.step (RC.u bD) C))) fun dn cC N=>?_
 refine eX cC fun a9 bF cD=>?_
 refine nt<|go<|Pl 1<|L0<|dv (m:=1) (e:=24) #[.int .u16 x70.wordV] fun bG dp cE cF bH=>?_
 have H:=dX cE (xs:=[x70.wordV]) (by as_aux_lemma=>kernel_rfl) (az (by omega) aZ) (by(try simp only[List.length_cons,List.length_nil]);omega) cF
 refine Pl 1<|?_
 have bI:=uz C (aI N bH)
 refine L0<|bU (aT bI (Ne.symm t) bE) 12 (mG c 0 0 0 0 0 0 0 ((aa.mk b false 0).wordV) 0 0 0 (.slice (some ⟨bG,0,none⟩) 1 1) nS nS nS 0 0 0 0 0 nS) fun dq cG ab=>nl<|bn<|tn<|sg<|Pl 1<|?_
 have aJ:=ui G (us bI ab)
 have bJ:=ut be aJ (ac (ni i.size a) (ac (ni (le i.size q.size) s) aq))
 refine L0<|Oc<|m2 (dR (RC.upd cD (uz bH ab) (ae t ay) bJ)) fun dr aL a0=>nt<|sq<|sg<|Pl 3<|L0<|ec (p:=⟨D,3,none⟩) (v:=.int .i64 a9.endC.e) (RC.fld aL)<|Pl 1<|nt<|?_
 have bN:=ud bJ a0 (le i.size a)
 refine cb ((a9.endC.e != 0)) (fun a1=>?_) (fun a1=>?_)
 have aM:=av a1
 refine sq<|Rg 7 (fun w'=>w'.cell? ⟨D,3,none⟩=some (.int .i64 a9.endC.e)) fun ds ad=>?_
 have bO:=RC.upd aL ad ay (aE.step (RC.u aL) ad)
 refine bh (RC.fld bO) fun a2=>Rt 0 a2<|Rt 1 a2<|Rt 2 a2<|Rt 3 a2<|Rl 4 a2 (fun _ hs=>hs)<|?_
 have bP:=aI a0 ad
 refine R0 5 rfl<|b7 (ub (ut J (ut T (ui d (u1 aJ bP im)) (ac im (ac im aq))) (ac (nr a) (ac (ni q.size s) aq))) g) mZ fun dt cH aN=>?_
 have bQ:=ud bN (uz ad aN) I
 refine bh (RC.fld (RC.upd bO aN (ae (Ne.symm (nb (ak g) lr a)) ay) bQ)) fun cI=>Rt 6 cI<|re<|tn<|rt<|tr<|bL cH (.int .i64 a9.endC.e)<|?_
 subst bF a6
 have dw:=ax H (us ab (us bP aN)) (fun x hx=>(ae (fun e=>(aA (ak S) (le (le (le (le (le (le (le k.size j.size) o.size) f.size) d.size) G.size) C.size) N.size) H) (e▸hx)) (ae (fun e=>(aA (ak E) (le (le (le (le (le (le (le (le y.size k.size) j.size) o.size) f.size) d.size) G.size) C.size) N.size) H) (e▸hx)) (ae (fun e=>(aA (ak g) (le (le (le (le (le (le (le (le (le q.size y.size) k.size) j.size) o.size) f.size) d.size) G.size) C.size) N.size) H) (e▸hx)) ay)))) (fun _ _ h=>h)
 have hs:ag aX 0 c b=aF (aP.mk c 0 0 0 0 0 0 0 ((aa.mk b false 0).wordV) 0 0 0 [(((aa.mk b false 0).wordsC 1).need (bM ((aa.mk b false 0).wordV)) 8).wordV] [] [] [] 0 0 0 0 0 []) (((((aa.mk b false 0).wordsC 1).need (bM ((aa.mk b false 0).wordV)) 8).wordsC 1).need (ee 0 ((aa.mk b false 0).wordV) (((aa.mk b false 0).wordsC 1).need (bM ((aa.mk b false 0).wordV)) 8).wordV) 6):=by
   unfold ag aX cS cn
   (try simp only[r,z,L,a1,bs,if_true,if_false,decide_true,decide_false,eq_self,true_or,or_true,or_false,false_or,if_true,if_false,ch,cc,cg,ci,reduceIte,fc,fb])
   all_goals rfl
 rw[hs]
 exact bg aM bQ
 have aM:=ai a1
 refine bz<|sg<|?_
 refine L0<|bZ (aT a0 (Ne.symm t) cG)<|?_
 refine L0<|b7 (ub (ut J (ut T (ui d (u1 aJ a0 im)) (ac im (ac im aq))) (ac (nr a) (ac (ni q.size s) aq))) g) (mG c 0 0 0 0 0 0 0 ((aa.mk b false 0).wordV) 0 0 0 (.slice (some ⟨bG,0,none⟩) 1 1) nS nS nS 0 0 0 0 0 nS) fun dx cJ bR=>Pl 1<|nt<|rt<|bL cJ (.int .i64 0)<|?_
 subst bF a6
 have hs:ag aX 0 c b=aF (aP.mk c 0 0 0 0 0 0 0 ((aa.mk b false 0).wordV) 0 0 0 [(((aa.mk b false 0).wordsC 1).need (bM ((aa.mk b false 0).wordV)) 8).wordV] [] [] [] 0 0 0 0 0 []) (((((aa.mk b false 0).wordsC 1).need (bM ((aa.mk b false 0).wordV)) 8).wordsC 1).need (ee 0 ((aa.mk b false 0).wordV) (((aa.mk b false 0).wordsC 1).need (bM ((aa.mk b false 0).wordV)) 8).wordV) 6):=by
   unfold ag aX cS cn
   (try simp only[r,z,L,a1,bs,if_true,if_false,decide_true,decide_false,eq_self,true_or,or_true,or_false,false_or,if_true,if_false,ch,cc,cg,ci,reduceIte,fc,fb])
   all_goals rfl
 rw[hs]
 exact bo aM ⟨_,_,_,_,_,rfl,((ax H (us ab (us a0 bR)) (fun x hx=>(ae (fun e=>(aA (ak S) (le (le (le (le (le (le (le k.size j.size) o.size) f.size) d.size) G.size) C.size) N.size) H) (e▸hx)) (ae (fun e=>(aA (ak E) (le (le (le (le (le (le (le (le y.size k.size) j.size) o.size) f.size) d.size) G.size) C.size) N.size) H) (e▸hx)) (ae (fun e=>(aA (ak g) (le (le (le (le (le (le (le (le (le q.size y.size) k.size) j.size) o.size) f.size) d.size) G.size) C.size) N.size) H) (e▸hx)) ay)))) (fun _ _ h=>h))).rd,aK.nil ..,(fun _ _ _=>aK.nil ..),aK.nil ..,aK.nil ..,⟨(b8 (x:=c) (by omega)),(b8 (x:=0) (by omega)),(aB (x:=0) (by omega)),(aB (x:=0) (by omega)),(aB (x:=0) (by omega)),(aB (x:=0) (by omega)),(aB (x:=0) (by omega)),(aB (x:=0) (by omega)),(aB (x:=(aa.mk b false 0).wordV) (by omega)),(aB (x:=0) (by omega)),(aB (x:=0) (by omega)),(aB (x:=0) (by omega)),(b8 (x:=0) (by omega)),(b8 (x:=0) (by omega)),(b8 (x:=0) (by omega)),(b8 (x:=0) (by omega)),(b8 (x:=0) (by omega))⟩⟩ (ud bN bR I)
 have ca:=ap z
 refine sg<|Pl 3<|nt<|c1<|sk<|bn<|tn<|sg<|Pl 1<|?_
 have cL:RC w _ A cp b b6 D (aa.mk b false 0):=⟨hsl,a5,(Nat.le_trans i.size a),⟨0,(ub an E),Nat.zero_le _,rfl⟩,by omega⟩
 refine L0<|Oc<|m2 (dR cL) fun dy aO af=>nt<|sq<|sg<|Pl 3<|L0<|ec (p:=⟨D,3,none⟩) (v:=.int .i64 (((aa.mk b false 0).endC).e)) (RC.fld aO)<|Pl 1<|nt<|?_
 have bS:=ud a5 af (le i.size a)
 refine cb (((((aa.mk b false 0).endC).e)!=0)) (fun a3=>?_) (fun a3=>?_)
 have aQ:=av a3
 refine sq<|Rg 7 (fun w'=>w'.cell? ⟨D,3,none⟩=some (.int .i64 (((aa.mk b false 0).endC).e))) fun dz ah=>?_
 have bT:=RC.upd aO ah ay (aE.step (RC.u aO) ah)
 refine bh (RC.fld bT) fun a4=>Rt 0 a4<|Rt 1 a4<|Rt 2 a4<|Rt 3 a4<|Rl 4 a4 (fun _ hs=>hs)<|?_
 refine R0 5 rfl<|b7 (ub (ud J (aI af ah) a) g) mZ fun dA cM bV=>?_
 have bW:=ud bS (uz ah bV) I
 refine bh (RC.fld (RC.upd bT bV (ae (Ne.symm (nb (ak g) lr a)) ay) bW)) fun cN=>Rt 6 cN<|re<|tn<|rt<|tr<|bL cM (.int .i64 (((aa.mk b false 0).endC).e))<|?_
 have hs:ag aX 0 c b=aF (aP.mk c 0 0 0 0 0 0 0 0 0 0 0 [] [] [] [] 0 0 0 0 0 []) (aa.mk b false 0):=by
   unfold ag aX cS cn
   (try simp only[r,z,a3,bs,if_true,if_false,decide_true,decide_false,eq_self,true_or,or_true,or_false,false_or,if_true,if_false,ch,cc,cg,ci,reduceIte,fc,fb])
   all_goals rfl
 rw[hs]
 exact bg aQ bW
 have aQ:=ai a3
 refine bz<|sg<|?_
 refine L0<|bZ (aT af (Ne.symm (nb (ak E) lr s)) b9)<|?_
 refine L0<|b7 (ub (ud J af a) g) (mC c) fun dB cO cP=>Pl 1<|nt<|rt<|bL cO (.int .i64 0)<|?_
 have hs:ag aX 0 c b=aF (aP.mk c 0 0 0 0 0 0 0 0 0 0 0 [] [] [] [] 0 0 0 0 0 []) (aa.mk b false 0):=by
   unfold ag aX cS cn
   (try simp only[r,z,a3,bs,if_true,if_false,decide_true,decide_false,eq_self,true_or,or_true,or_false,false_or,if_true,if_false,ch,cc,cg,ci,reduceIte,fc,fb])
   all_goals rfl
 rw[hs]
 exact bo aQ ⟨_,_,_,_,_,rfl,aK.nil ..,aK.nil ..,(fun _ _ _=>aK.nil ..),aK.nil ..,aK.nil ..,⟨(b8 (x:=c) (by omega)),(b8 (x:=0) (by omega)),(aB (x:=0) (by omega)),(aB (x:=0) (by omega)),(aB (x:=0) (by omega)),(aB (x:=0) (by omega)),(aB (x:=0) (by omega)),(aB (x:=0) (by omega)),(aB (x:=0) (by omega)),(aB (x:=0) (by omega)),(aB (x:=0) (by omega)),(aB (x:=0) (by omega)),(b8 (x:=0) (by omega)),(b8 (x:=0) (by omega)),(b8 (x:=0) (by omega)),(b8 (x:=0) (by omega)),(b8 (x:=0) (by omega))⟩⟩ (ud bS cP I)
theorem jw{m:Md}{A:Option Addr}{cp:Nat}{b:List Int}{w:World}{c:Int}(hcode:B8 c)(hsl:bi m w (.slice A b.length cp) b)(hb:b.length≤1048576) :
    Calls Tryz.prog 95 #[.int .i64 1,.int .u8 c,.slice A b.length cp] w (d7 (.slice A b.length cp) b (ag aX 1 c b) w):=by
 obtain⟨hcode1,hcode2⟩:=hcode
 have hln:(b.length:Int)≤1048576:=by omega
 refine en 197 Tryz.func95 rfl<|sg<|L0<|bK mZ fun fz fA y i d=>Pl 1<|nt<|sq<|sg<|Pl 6<|nt<|c0<|?_
 refine bz<|sq<|sg<|Pl 3<|cu 3 [24] 27 (((c != 7)&&(c != 8))) (fun K c1=>?_) ?_
 refine bl 24 ((c != 7)) (fun Y=>?_) (fun Y=>?_)
 have dM:=av Y
 exact Pl 3<|ce c1 (c != 8) (by rw[Y];rfl)
 have dM:=ai Y
 exact Pl 3<|ce c1 false (by rw[Y];rfl)
 refine Pl 1<|cu 3 [28] 31 ((((c != 7)&&(c != 8))&&(c != 11))) (fun K c2=>?_) ?_
 refine bl 28 (((c != 7)&&(c != 8))) (fun Z=>?_) (fun Z=>?_)
 have dN:=(aW Z).1
 have dO:=(aW Z).2
 have fB:=av dN
 have fC:=av dO
 exact Pl 3<|ce c2 (c != 11) (by rw[Z];rfl)
 exact Pl 3<|ce c2 false (by rw[Z];rfl)
 refine Pl 1<|cu 3 [32] 35 (((((c != 7)&&(c != 8))&&(c != 11))&&(c != 12))) (fun K c3=>?_) ?_
 refine bl 32 ((((c != 7)&&(c != 8))&&(c != 11))) (fun a0=>?_) (fun a0=>?_)
 have c4:=(aW a0).1
 have dP:=(aW a0).2
 have dQ:=(aW c4).1
 have dS:=(aW c4).2
 have q19aap:=av dQ
 have q19abp:=av dS
 have fD:=av dP
 exact Pl 3<|ce c3 (c != 12) (by rw[a0];rfl)
 exact Pl 3<|ce c3 false (by rw[a0];rfl)
 refine Pl 1<|cu 3 [36] 39 ((((((c != 7)&&(c != 8))&&(c != 11))&&(c != 12))&&(c != 17))) (fun K c5=>?_) ?_
 refine bl 36 (((((c != 7)&&(c != 8))&&(c != 11))&&(c != 12))) (fun a1=>?_) (fun a1=>?_)
 have c6:=(aW a1).1
 have dT:=(aW a1).2
 have c7:=(aW c6).1
 have dU:=(aW c6).2
 have q21aaa:=(aW c7).1
 have q21aab:=(aW c7).2
 have q21aaap:=av q21aaa
 have q21aabp:=av q21aab
 have q21abp:=av dU
 have fE:=av dT
 exact Pl 3<|ce c5 (c != 17) (by rw[a1];rfl)
 exact Pl 3<|ce c5 false (by rw[a1];rfl)
 refine nt<|cb ((((((c != 7)&&(c != 8))&&(c != 11))&&(c != 12))&&(c != 17))) (fun o=>?_) (fun o=>?_)
 have bc:=(aW o).1
 have c8:=(aW o).2
 have bd:=(aW bc).1
 have c9:=(aW bc).2
 have q23aaa:=(aW bd).1
 have q23aab:=(aW bd).2
 have q23aaaa:=(aW q23aaa).1
 have q23aaab:=(aW q23aaa).2
 have q23aaaap:=av q23aaaa
 have q23aaabp:=av q23aaab
 have q23aabp:=av q23aab
 have q23abp:=av c9
 have fF:=av c8
 refine sg<|Pl 1<|L0<|b7 i mZ fun fG dV dW=>Pl 1<|nt<|rt<|tr<|bL dV (.int .i64 4)<|?_
 have hs:ag aX 1 c b=(aP.zero,4):=by
   unfold ag aX cS cn
   (try simp only[o,bc,bd,q23aaa,q23aaaa,q23aaab,q23aab,c9,c8,bs,if_true,if_false,decide_true,decide_false,eq_self,true_or,or_true,or_false,false_or,if_true,if_false,ch,cc,cg,ci,reduceIte,fc,fb])
   all_goals rfl
 rw[hs]
 exact bu (ud d dW y)
 refine bz<|sg<|Pl 2<|L0<|du #[.slice A b.length cp,.int .i64 0,.bool false,.int .i64 0] fun k fH a s g=>Pl 1<|ng<|Pl 2<|L0<|bK mZ fun fI fJ f a2 I=>L0<|b7 a2 (mC c) fun a3 a4 z=>?_
 refine nt<|sq<|bk<|sg<|Pl 3<|nt<|?_
 have W:=ud I z f
 have B:=aI g W
 have F:=aI d B
 refine cb ((c==8)) (fun q=>?_) (fun q=>?_)
 have dY:=am q
 refine sg<|Pl 1<|?_
 have dZ:RC w _ A cp b a3 k (aa.mk b false 0):=⟨hsl,F,(Nat.le_trans d.size a),⟨0,(ub W s),Nat.zero_le _,rfl⟩,by omega⟩
 refine L0<|Oc<|m3 (cK dZ) fun fK e0 t fL=>Pl 1<|?_
 have G:=nb (ak s) lr f
 refine L0<|bU (aT t (Ne.symm G) a4) 8 (mG c 0 0 0 0 0 0 0 ((aa.mk b false 0).wordV) 0 0 0 nS nS nS nS 0 0 0 0 0 nS) fun e1 be C=>ng<|Pl 1<|L0<|aR be 8<|L0<|Oc<|m1 (tp (x:=(aa.mk b false 0).wordV) (w:=e1) (by omega)) fun fM r=>Pl 1<|ng<|Pl 3<|cu 8 [72] 80 (((bM ((aa.mk b false 0).wordV))&&(((aa.mk b false 0).wordV)!=4))) (fun K ca=>?_) ?_
 refine bl 72 ((bM ((aa.mk b false 0).wordV))) (fun bf=>?_) (fun bf=>?_)
 refine Pl 1<|?_
 refine L1<|aR (ub r be) 8<|Pl 2<|cu 3 [76] 79 ((((aa.mk b false 0).wordV)!=4)) (fun K cd=>?_) ?_
 refine bl 76 ((((aa.mk b false 0).wordV)!=4)) (fun a5=>?_) (fun a5=>?_)
 have e2:=av a5
 exact Pl 3<|ce cd true a5
 have e2:=ai a5
 exact Pl 3<|ce cd false a5
 exact Pl 1<|ce ca (((aa.mk b false 0).wordV)!=4) (by rw[bf];rfl)
 exact Pl 8<|ce ca false (by rw[bf];rfl)
 have cf:=aI C r
 have a6:=us t cf
 have cj:=ut F a6 (ac (ni d.size a) (ac (ni (le d.size g.size) f) aq))
 refine L0<|Oc<|m2 (aU (((bM ((aa.mk b false 0).wordV))&&(((aa.mk b false 0).wordV)!=4))) 8 (RC.upd e0 cf (ae G ay) cj)) fun fN e3 j=>?_
 refine eX e3 fun x70 aO a7=>?_
 refine nt<|sq<|sg<|Pl 1<|?_
 have bj:=aT (uz r j) (Ne.symm G) be
 refine L0<|aR bj 8<|Pl 1<|nt<|?_
 have ck:=ud cj j (le d.size a)
 refine cb ((((aa.mk b false 0).wordV)==0)) (fun R=>?_) (fun R=>?_)
 have e4:=am R
 refine sg<|Pl 1<|L0<|Oc<|m1 (gl a7) fun fO J=>?_
 have fP:=RC.clen a7
 refine Pl 1<|ng<|Pl 2<|L0<|Oe (.int .i64 (Int.tmod ((x70.l.length:Nat) : Int) 2)) (.int .i64 (((x70.l.length:Nat) : Int)%2)) (congrArg (Value.int .i64) (Int.tmod_eq_emod_of_nonneg (by omega)))<|Pl 2<|cu 3 [91] 94 ((((((x70.l.length:Nat) : Int)%2)==0)&&(decide (2≤((x70.l.length:Nat) : Int))))) (fun K cl=>?_) ?_
 refine bl 91 (((((x70.l.length:Nat) : Int)%2)==0)) (fun a8=>?_) (fun a8=>?_)
 have e5:=am a8
 exact Pl 3<|ce cl (decide (2≤((x70.l.length:Nat) : Int))) (by rw[a8];rfl)
 have e5:=ap a8
 exact Pl 3<|ce cl false (by rw[a8];rfl)
 refine Pl 1<|cu 3 [95] 98 (((((((x70.l.length:Nat) : Int)%2)==0)&&(decide (2≤((x70.l.length:Nat) : Int))))&&(decide (((x70.l.length:Nat) : Int)≤250)))) (fun K cm=>?_) ?_
 refine bl 95 ((((((x70.l.length:Nat) : Int)%2)==0)&&(decide (2≤((x70.l.length:Nat) : Int))))) (fun a9=>?_) (fun a9=>?_)
 have e6:=(aW a9).1
 have e7:=(aW a9).2
 have fQ:=am e6
 have fR:=of_decide_eq_true e7
 exact Pl 3<|ce cm (decide (((x70.l.length:Nat) : Int)≤250)) (by rw[a9];rfl)
 exact Pl 3<|ce cm false (by rw[a9];rfl)
 refine L0<|Oc<|m2 (aU (((((((x70.l.length:Nat) : Int)%2)==0)&&(decide (2≤((x70.l.length:Nat) : Int))))&&(decide (((x70.l.length:Nat) : Int)≤250)))) 5 (RC.upd a7 J ay (aE.step (RC.u a7) J))) fun fS e8 S=>?_
 refine eX e8 fun x88 co e9=>?_
 refine ng<|Pl 2<|L0<|Oe (.int .i64 (IntKind.i64.wrap (Int.tdiv ((x70.l.length:Nat) : Int) 2))) (.int .i64 (((x70.l.length:Nat) : Int)/2)) (congrArg (Value.int .i64) (eY (by omega) (by omega)))<|L0<|Oc<|kY (fa (n:=(((x70.l.length:Nat) : Int)/2)) (by omega) e9) fun cq cr fT O fU fV ea eb=>Pl 1<|?_
 have cs:=uz J (u1 S eb im)
 refine L0<|bU (aT cs (Ne.symm G) bj) 12 (mG c 0 0 0 0 0 0 0 ((aa.mk b false 0).wordV) 0 0 0 (.slice cq ((x88.wordsR (((x70.l.length:Nat) : Int)/2)).length) cr) nS nS nS 0 0 0 0 0 nS) fun fW ed aQ=>nt<|xt<|tx<|bx<|tn<|sg<|Pl 1<|?_
 have bm:=us cs aQ
 have ct:=ut ck bm (ac (ni d.size a) (ac (ni (le d.size g.size) f) aq))
 refine L0<|Oc<|m2 (dR (RC.upd ea aQ (ae G ay) ct)) fun fX bp ab=>nt<|sq<|sg<|Pl 3<|L0<|ec (p:=⟨k,3,none⟩) (v:=.int .i64 (((x88.wordsC (((x70.l.length:Nat) : Int)/2)).endC).e)) (RC.fld bp)<|Pl 1<|nt<|?_
 have cv:=ud ct ab (le d.size a)
 refine cb (((((x88.wordsC (((x70.l.length:Nat) : Int)/2)).endC).e)!=0)) (fun ad=>?_) (fun ad=>?_)
 have bq:=av ad
 refine sq<|Rg 7 (fun w'=>w'.cell? ⟨k,3,none⟩=some (.int .i64 (((x88.wordsC (((x70.l.length:Nat) : Int)/2)).endC).e))) fun fY aS=>?_
 have cw:=RC.upd bp aS ay (aE.step (RC.u bp) aS)
 refine bh (RC.fld cw) fun af=>Rt 0 af<|Rt 1 af<|Rt 2 af<|Rt 3 af<|Rl 4 af (fun _ hs=>hs)<|?_
 have cx:=aI ab aS
 refine R0 5 rfl<|b7 (ub (ut B (ut a6 (ui j (u1 bm cx im)) (ac im (ac im aq))) (ac (nr a) (ac (ni g.size f) aq))) i) mZ fun fZ ef br=>?_
 have cy:=ud cv (uz aS br) y
 refine bh (RC.fld (RC.upd cw br (ae (Ne.symm (nb (ak i) lr a)) ay) cy)) fun eg=>Rt 6 eg<|re<|tn<|rt<|tr<|bL ef (.int .i64 (((x88.wordsC (((x70.l.length:Nat) : Int)/2)).endC).e))<|?_
 subst co aO
 have g0:=ax O (us aQ (us cx br)) (fun x hx=>(ae (fun e=>(aA (ak a2) (le (le (le (le (le (le z.size t.size) C.size) r.size) j.size) J.size) S.size) O) (e▸hx)) (ae (fun e=>(aA (ak s) (le (le (le (le (le (le (le I.size z.size) t.size) C.size) r.size) j.size) J.size) S.size) O) (e▸hx)) (ae (fun e=>(aA (ak i) (le (le (le (le (le (le (le (le g.size I.size) z.size) t.size) C.size) r.size) j.size) J.size) S.size) O) (e▸hx)) ay)))) (fun _ _ h=>h)
 have hs:ag aX 1 c b=aF (aP.mk c 0 0 0 0 0 0 0 ((aa.mk b false 0).wordV) 0 0 0 (((((aa.mk b false 0).wordsC 1).need ((bM ((aa.mk b false 0).wordV))&&(((aa.mk b false 0).wordV)!=4)) 8).need (((((((((aa.mk b false 0).wordsC 1).need ((bM ((aa.mk b false 0).wordV))&&(((aa.mk b false 0).wordV)!=4)) 8).l.length:Nat) : Int)%2)==0)&&(decide (2≤(((((aa.mk b false 0).wordsC 1).need ((bM ((aa.mk b false 0).wordV))&&(((aa.mk b false 0).wordV)!=4)) 8).l.length:Nat) : Int))))&&(decide ((((((aa.mk b false 0).wordsC 1).need ((bM ((aa.mk b false 0).wordV))&&(((aa.mk b false 0).wordV)!=4)) 8).l.length:Nat) : Int)≤250))) 5).wordsR ((((((aa.mk b false 0).wordsC 1).need ((bM ((aa.mk b false 0).wordV))&&(((aa.mk b false 0).wordV)!=4)) 8).l.length:Nat) : Int)/2)) [] [] [] 0 0 0 0 0 []) (((((aa.mk b false 0).wordsC 1).need ((bM ((aa.mk b false 0).wordV))&&(((aa.mk b false 0).wordV)!=4)) 8).need (((((((((aa.mk b false 0).wordsC 1).need ((bM ((aa.mk b false 0).wordV))&&(((aa.mk b false 0).wordV)!=4)) 8).l.length:Nat) : Int)%2)==0)&&(decide (2≤(((((aa.mk b false 0).wordsC 1).need ((bM ((aa.mk b false 0).wordV))&&(((aa.mk b false 0).wordV)!=4)) 8).l.length:Nat) : Int))))&&(decide ((((((aa.mk b false 0).wordsC 1).need ((bM ((aa.mk b false 0).wordV))&&(((aa.mk b false 0).wordV)!=4)) 8).l.length:Nat) : Int)≤250))) 5).wordsC ((((((aa.mk b false 0).wordsC 1).need ((bM ((aa.mk b false 0).wordV))&&(((aa.mk b false 0).wordV)!=4)) 8).l.length:Nat) : Int)/2)):=by
   unfold ag aX cS cn
   (try simp only[o,q,R,ad,bs,if_true,if_false,decide_true,decide_false,eq_self,true_or,or_true,or_false,false_or,if_true,if_false,ch,cc,cg,ci,reduceIte,fc,fb])
   all_goals rfl
 rw[hs]
 exact bg bq cy
 have bq:=ai ad
 refine bz<|sg<|?_
 refine L0<|bZ (aT ab (Ne.symm G) ed)<|?_
 refine L0<|b7 (ub (ut B (ut a6 (ui j (u1 bm ab im)) (ac im (ac im aq))) (ac (nr a) (ac (ni g.size f) aq))) i) (mG c 0 0 0 0 0 0 0 ((aa.mk b false 0).wordV) 0 0 0 (.slice cq ((x88.wordsR (((x70.l.length:Nat) : Int)/2)).length) cr) nS nS nS 0 0 0 0 0 nS) fun g1 eh cz=>Pl 1<|nt<|rt<|bL eh (.int .i64 0)<|?_
 subst co aO
 have hs:ag aX 1 c b=aF (aP.mk c 0 0 0 0 0 0 0 ((aa.mk b false 0).wordV) 0 0 0 (((((aa.mk b false 0).wordsC 1).need ((bM ((aa.mk b false 0).wordV))&&(((aa.mk b false 0).wordV)!=4)) 8).need (((((((((aa.mk b false 0).wordsC 1).need ((bM ((aa.mk b false 0).wordV))&&(((aa.mk b false 0).wordV)!=4)) 8).l.length:Nat) : Int)%2)==0)&&(decide (2≤(((((aa.mk b false 0).wordsC 1).need ((bM ((aa.mk b false 0).wordV))&&(((aa.mk b false 0).wordV)!=4)) 8).l.length:Nat) : Int))))&&(decide ((((((aa.mk b false 0).wordsC 1).need ((bM ((aa.mk b false 0).wordV))&&(((aa.mk b false 0).wordV)!=4)) 8).l.length:Nat) : Int)≤250))) 5).wordsR ((((((aa.mk b false 0).wordsC 1).need ((bM ((aa.mk b false 0).wordV))&&(((aa.mk b false 0).wordV)!=4)) 8).l.length:Nat) : Int)/2)) [] [] [] 0 0 0 0 0 []) (((((aa.mk b false 0).wordsC 1).need ((bM ((aa.mk b false 0).wordV))&&(((aa.mk b false 0).wordV)!=4)) 8).need (((((((((aa.mk b false 0).wordsC 1).need ((bM ((aa.mk b false 0).wordV))&&(((aa.mk b false 0).wordV)!=4)) 8).l.length:Nat) : Int)%2)==0)&&(decide (2≤(((((aa.mk b false 0).wordsC 1).need ((bM ((aa.mk b false 0).wordV))&&(((aa.mk b false 0).wordV)!=4)) 8).l.length:Nat) : Int))))&&(decide ((((((aa.mk b false 0).wordsC 1).need ((bM ((aa.mk b false 0).wordV))&&(((aa.mk b false 0).wordV)!=4)) 8).l.length:Nat) : Int)≤250))) 5).wordsC ((((((aa.mk b false 0).wordsC 1).need ((bM ((aa.mk b false 0).wordV))&&(((aa.mk b false 0).wordV)!=4)) 8).l.length:Nat) : Int)/2)):=by
   unfold ag aX cS cn
   (try simp only[o,q,R,ad,bs,if_true,if_false,decide_true,decide_false,eq_self,true_or,or_true,or_false,false_or,if_true,if_false,ch,cc,cg,ci,reduceIte,fc,fb])
   all_goals rfl
 rw[hs]
 exact bo bq ⟨_,_,_,_,_,rfl,((ax O (us aQ (us ab cz)) (fun x hx=>(ae (fun e=>(aA (ak a2) (le (le (le (le (le (le z.size t.size) C.size) r.size) j.size) J.size) S.size) O) (e▸hx)) (ae (fun e=>(aA (ak s) (le (le (le (le (le (le (le I.size z.size) t.size) C.size) r.size) j.size) J.size) S.size) O) (e▸hx)) (ae (fun e=>(aA (ak i) (le (le (le (le (le (le (le (le g.size I.size) z.size) t.size) C.size) r.size) j.size) J.size) S.size) O) (e▸hx)) ay)))) (fun _ _ h=>h))).rd,aK.nil ..,(fun _ _ _=>aK.nil ..),aK.nil ..,aK.nil ..,⟨(b8 (x:=c) (by omega)),(b8 (x:=0) (by omega)),(aB (x:=0) (by omega)),(aB (x:=0) (by omega)),(aB (x:=0) (by omega)),(aB (x:=0) (by omega)),(aB (x:=0) (by omega)),(aB (x:=0) (by omega)),(aB (x:=(aa.mk b false 0).wordV) (by omega)),(aB (x:=0) (by omega)),(aB (x:=0) (by omega)),(aB (x:=0) (by omega)),(b8 (x:=0) (by omega)),(b8 (x:=0) (by omega)),(b8 (x:=0) (by omega)),(b8 (x:=0) (by omega)),(b8 (x:=0) (by omega))⟩⟩ (ud cv cz y)
 have e4:=ap R
 refine bz<|sg<|Pl 1<|L0<|Oc<|m3 (cK a7) fun ei cA P g2=>Pl 1<|ng<|Pl 3<|?_
 have cB:=aT P (Ne.symm G) bj
 refine L0<|aR cB 8<|Pl 1<|L0<|Oc<|m1 (t6 (dir:=1) (sub:=(aa.mk b false 0).wordV) (v:=x70.wordV) (w:=ei) (by omega)) fun g3 L=>?_
 refine L0<|Oc<|m2 (aU ((ee 1 ((aa.mk b false 0).wordV) x70.wordV)) 6 (RC.upd cA L ay (aE.step (RC.u cA) L))) fun g4 ej T=>?_
 refine eX ej fun aV cC ek=>?_
 refine nt<|go<|Pl 1<|L0<|dv (m:=1) (e:=24) #[.int .u16 x70.wordV] fun cD g5 el em cE=>?_
 have Q:=dX el (xs:=[x70.wordV]) (by as_aux_lemma=>kernel_rfl) (az (by omega) aZ) (by(try simp only[List.length_cons,List.length_nil]);omega) em
 refine Pl 1<|?_
 have cF:=uz L (aI T cE)
 refine L0<|bU (aT cF (Ne.symm G) cB) 12 (mG c 0 0 0 0 0 0 0 ((aa.mk b false 0).wordV) 0 0 0 (.slice (some ⟨cD,0,none⟩) 1 1) nS nS nS 0 0 0 0 0 nS) fun g6 eo aY=>nl<|bn<|tn<|sg<|Pl 1<|?_
 have bt:=ui P (us cF aY)
 have cG:=ut ck bt (ac (ni d.size a) (ac (ni (le d.size g.size) f) aq))
 refine L0<|Oc<|m2 (dR (RC.upd ek (uz cE aY) (ae G ay) cG)) fun g7 bv ah=>nt<|sq<|sg<|Pl 3<|L0<|ec (p:=⟨k,3,none⟩) (v:=.int .i64 aV.endC.e) (RC.fld bv)<|Pl 1<|nt<|?_
 have cH:=ud cG ah (le d.size a)
 refine cb ((aV.endC.e != 0)) (fun aj=>?_) (fun aj=>?_)
 have bw:=av aj
 refine sq<|Rg 7 (fun w'=>w'.cell? ⟨k,3,none⟩=some (.int .i64 aV.endC.e)) fun g8 b0=>?_
 have cI:=RC.upd bv b0 ay (aE.step (RC.u bv) b0)
 refine bh (RC.fld cI) fun al=>Rt 0 al<|Rt 1 al<|Rt 2 al<|Rt 3 al<|Rl 4 al (fun _ hs=>hs)<|?_
 have cJ:=aI ah b0
 refine R0 5 rfl<|b7 (ub (ut B (ut a6 (ui j (u1 bt cJ im)) (ac im (ac im aq))) (ac (nr a) (ac (ni g.size f) aq))) i) mZ fun g9 ep bA=>?_
 have cL:=ud cH (uz b0 bA) y
 refine bh (RC.fld (RC.upd cI bA (ae (Ne.symm (nb (ak i) lr a)) ay) cL)) fun eq=>Rt 6 eq<|re<|tn<|rt<|tr<|bL ep (.int .i64 aV.endC.e)<|?_
 subst cC aO
 have ga:=ax Q (us aY (us cJ bA)) (fun x hx=>(ae (fun e=>(aA (ak a2) (le (le (le (le (le (le (le z.size t.size) C.size) r.size) j.size) P.size) L.size) T.size) Q) (e▸hx)) (ae (fun e=>(aA (ak s) (le (le (le (le (le (le (le (le I.size z.size) t.size) C.size) r.size) j.size) P.size) L.size) T.size) Q) (e▸hx)) (ae (fun e=>(aA (ak i) (le (le (le (le (le (le (le (le (le g.size I.size) z.size) t.size) C.size) r.size) j.size) P.size) L.size) T.size) Q) (e▸hx)) ay)))) (fun _ _ h=>h)
 have hs:ag aX 1 c b=aF (aP.mk c 0 0 0 0 0 0 0 ((aa.mk b false 0).wordV) 0 0 0 [(((aa.mk b false 0).wordsC 1).need ((bM ((aa.mk b false 0).wordV))&&(((aa.mk b false 0).wordV)!=4)) 8).wordV] [] [] [] 0 0 0 0 0 []) (((((aa.mk b false 0).wordsC 1).need ((bM ((aa.mk b false 0).wordV))&&(((aa.mk b false 0).wordV)!=4)) 8).wordsC 1).need (ee 1 ((aa.mk b false 0).wordV) (((aa.mk b false 0).wordsC 1).need ((bM ((aa.mk b false 0).wordV))&&(((aa.mk b false 0).wordV)!=4)) 8).wordV) 6):=by
   unfold ag aX cS cn
   (try simp only[o,q,R,aj,bs,if_true,if_false,decide_true,decide_false,eq_self,true_or,or_true,or_false,false_or,if_true,if_false,ch,cc,cg,ci,reduceIte,fc,fb])
   all_goals rfl
 rw[hs]
 exact bg bw cL
 have bw:=ai aj
 refine bz<|sg<|?_
 refine L0<|bZ (aT ah (Ne.symm G) eo)<|?_
 refine L0<|b7 (ub (ut B (ut a6 (ui j (u1 bt ah im)) (ac im (ac im aq))) (ac (nr a) (ac (ni g.size f) aq))) i) (mG c 0 0 0 0 0 0 0 ((aa.mk b false 0).wordV) 0 0 0 (.slice (some ⟨cD,0,none⟩) 1 1) nS nS nS 0 0 0 0 0 nS) fun gb er cM=>Pl 1<|nt<|rt<|bL er (.int .i64 0)<|?_
 subst cC aO
 have hs:ag aX 1 c b=aF (aP.mk c 0 0 0 0 0 0 0 ((aa.mk b false 0).wordV) 0 0 0 [(((aa.mk b false 0).wordsC 1).need ((bM ((aa.mk b false 0).wordV))&&(((aa.mk b false 0).wordV)!=4)) 8).wordV] [] [] [] 0 0 0 0 0 []) (((((aa.mk b false 0).wordsC 1).need ((bM ((aa.mk b false 0).wordV))&&(((aa.mk b false 0).wordV)!=4)) 8).wordsC 1).need (ee 1 ((aa.mk b false 0).wordV) (((aa.mk b false 0).wordsC 1).need ((bM ((aa.mk b false 0).wordV))&&(((aa.mk b false 0).wordV)!=4)) 8).wordV) 6):=by
   unfold ag aX cS cn
   (try simp only[o,q,R,aj,bs,if_true,if_false,decide_true,decide_false,eq_self,true_or,or_true,or_false,false_or,if_true,if_false,ch,cc,cg,ci,reduceIte,fc,fb])
   all_goals rfl
 rw[hs]
 exact bo bw ⟨_,_,_,_,_,rfl,((ax Q (us aY (us ah cM)) (fun x hx=>(ae (fun e=>(aA (ak a2) (le (le (le (le (le (le (le z.size t.size) C.size) r.size) j.size) P.size) L.size) T.size) Q) (e▸hx)) (ae (fun e=>(aA (ak s) (le (le (le (le (le (le (le (le I.size z.size) t.size) C.size) r.size) j.size) P.size) L.size) T.size) Q) (e▸hx)) (ae (fun e=>(aA (ak i) (le (le (le (le (le (le (le (le (le g.size I.size) z.size) t.size) C.size) r.size) j.size) P.size) L.size) T.size) Q) (e▸hx)) ay)))) (fun _ _ h=>h))).rd,aK.nil ..,(fun _ _ _=>aK.nil ..),aK.nil ..,aK.nil ..,⟨(b8 (x:=c) (by omega)),(b8 (x:=0) (by omega)),(aB (x:=0) (by omega)),(aB (x:=0) (by omega)),(aB (x:=0) (by omega)),(aB (x:=0) (by omega)),(aB (x:=0) (by omega)),(aB (x:=0) (by omega)),(aB (x:=(aa.mk b false 0).wordV) (by omega)),(aB (x:=0) (by omega)),(aB (x:=0) (by omega)),(aB (x:=0) (by omega)),(b8 (x:=0) (by omega)),(b8 (x:=0) (by omega)),(b8 (x:=0) (by omega)),(b8 (x:=0) (by omega)),(b8 (x:=0) (by omega))⟩⟩ (ud cH cM y)
 have dY:=ap q
 refine sg<|Pl 3<|nt<|c0<|sg<|Pl 3<|nt<|cb ((c==7)) (fun D=>?_) (fun D=>?_)
 have es:=am D
 refine go<|Pl 1<|?_
 have et:RC w _ A cp b a3 k (aa.mk b false 0):=⟨hsl,F,(Nat.le_trans d.size a),⟨0,(ub W s),Nat.zero_le _,rfl⟩,by omega⟩
 refine L0<|Oc<|m3 (dB et) fun gc eu cN gd=>L0<|sX ((aa.mk b false 0).byteV)<|Pl 1<|?_
 have bB:=nb (ak s) lr f
 refine L0<|bU (aT cN (Ne.symm bB) a4) 4 (mG c 0 0 0 ((aa.mk b false 0).byteV) 0 0 0 0 0 0 0 nS nS nS nS 0 0 0 0 0 nS) fun ge ev cO=>nl<|bn<|tn<|sg<|Pl 1<|?_
 have bC:=us cN cO
 have cP:=ut F bC (ac (ni d.size a) (ac (ni (le d.size g.size) f) aq))
 refine L0<|Oc<|m2 (dR (RC.upd eu cO (ae bB ay) cP)) fun gf bD b1=>nt<|sq<|sg<|Pl 3<|L0<|ec (p:=⟨k,3,none⟩) (v:=.int .i64 ((((aa.mk b false 0).bytesC 1).endC).e)) (RC.fld bD)<|Pl 1<|nt<|?_
 have cQ:=ud cP b1 (le d.size a)
 refine cb ((((((aa.mk b false 0).bytesC 1).endC).e)!=0)) (fun an=>?_) (fun an=>?_)
 have bE:=av an
 refine sq<|Rg 7 (fun w'=>w'.cell? ⟨k,3,none⟩=some (.int .i64 ((((aa.mk b false 0).bytesC 1).endC).e))) fun gg b2=>?_
 have cR:=RC.upd bD b2 ay (aE.step (RC.u bD) b2)
 refine bh (RC.fld cR) fun ao=>Rt 0 ao<|Rt 1 ao<|Rt 2 ao<|Rt 3 ao<|Rl 4 ao (fun _ hs=>hs)<|?_
 refine R0 5 rfl<|b7 (ub (ut B (u1 bC (aI b1 b2) im) (ac (nr a) (ac (ni g.size f) aq))) i) mZ fun gh ew cT=>?_
 have cU:=ud cQ (uz b2 cT) y
 refine bh (RC.fld (RC.upd cR cT (ae (Ne.symm (nb (ak i) lr a)) ay) cU)) fun ex=>Rt 6 ex<|re<|tn<|rt<|tr<|bL ew (.int .i64 ((((aa.mk b false 0).bytesC 1).endC).e))<|?_
 have hs:ag aX 1 c b=aF (aP.mk c 0 0 0 ((aa.mk b false 0).byteV) 0 0 0 0 0 0 0 [] [] [] [] 0 0 0 0 0 []) ((aa.mk b false 0).bytesC 1):=by
   unfold ag aX cS cn
   (try simp only[o,q,D,an,bs,if_true,if_false,decide_true,decide_false,eq_self,true_or,or_true,or_false,false_or,if_true,if_false,ch,cc,cg,ci,reduceIte,fc,fb])
   all_goals rfl
 rw[hs]
 exact bg bE cU
 have bE:=ai an
 refine bz<|sg<|?_
 refine L0<|bZ (aT b1 (Ne.symm bB) ev)<|?_
 refine L0<|b7 (ub (ut B (u1 bC b1 im) (ac (nr a) (ac (ni g.size f) aq))) i) (mG c 0 0 0 ((aa.mk b false 0).byteV) 0 0 0 0 0 0 0 nS nS nS nS 0 0 0 0 0 nS) fun gi ey ez=>Pl 1<|nt<|rt<|bL ey (.int .i64 0)<|?_
 have hs:ag aX 1 c b=aF (aP.mk c 0 0 0 ((aa.mk b false 0).byteV) 0 0 0 0 0 0 0 [] [] [] [] 0 0 0 0 0 []) ((aa.mk b false 0).bytesC 1):=by
   unfold ag aX cS cn
   (try simp only[o,q,D,an,bs,if_true,if_false,decide_true,decide_false,eq_self,true_or,or_true,or_false,false_or,if_true,if_false,ch,cc,cg,ci,reduceIte,fc,fb])
   all_goals rfl
 rw[hs]
 exact bo bE ⟨_,_,_,_,_,rfl,aK.nil ..,aK.nil ..,(fun _ _ _=>aK.nil ..),aK.nil ..,aK.nil ..,⟨(b8 (x:=c) (by omega)),(b8 (x:=0) (by omega)),(aB (x:=0) (by omega)),(aB (x:=0) (by omega)),(aB (x:=(aa.mk b false 0).byteV) (by omega)),(aB (x:=0) (by omega)),(aB (x:=0) (by omega)),(aB (x:=0) (by omega)),(aB (x:=0) (by omega)),(aB (x:=0) (by omega)),(aB (x:=0) (by omega)),(aB (x:=0) (by omega)),(b8 (x:=0) (by omega)),(b8 (x:=0) (by omega)),(b8 (x:=0) (by omega)),(b8 (x:=0) (by omega)),(b8 (x:=0) (by omega))⟩⟩ (ud cQ ez y)
 have es:=ap D
 refine sg<|Pl 3<|nt<|cb ((c==11)) (fun M=>?_) (fun M=>?_)
 have eA:=am M
 refine sg<|Pl 1<|?_
 have eB:RC w _ A cp b a3 k (aa.mk b false 0):=⟨hsl,F,(Nat.le_trans d.size a),⟨0,(ub W s),Nat.zero_le _,rfl⟩,by omega⟩
 refine L0<|Oc<|m3 (cK eB) fun gj eC cV gk=>Pl 1<|?_
 have ar:=nb (ak s) lr f
 refine L0<|bU (aT cV (Ne.symm ar) a4) 9 (mG c 0 0 0 0 0 0 0 0 ((aa.mk b false 0).wordV) 0 0 nS nS nS nS 0 0 0 0 0 nS) fun gm bF cW=>ng<|Pl 2<|L0<|aR bF 9<|Pl 2<|cu 4 [137] 141 (((((aa.mk b false 0).wordV)==0)||(((aa.mk b false 0).wordV)==65535))) (fun K cX=>?_) ?_
 refine bl 137 ((((aa.mk b false 0).wordV)==0)) (fun au=>?_) (fun au=>?_)
 have eD:=am au
 exact Pl 4<|ce cX true (by rw[au];rfl)
 have eD:=ap au
 exact Pl 1<|L1<|aR bF 9<|Pl 2<|ce cX (((aa.mk b false 0).wordV)==65535) (by rw[au];rfl)
 have bG:=us cV cW
 have cY:=ut F bG (ac (ni d.size a) (ac (ni (le d.size g.size) f) aq))
 refine L0<|Oc<|m2 (aU (((((aa.mk b false 0).wordV)==0)||(((aa.mk b false 0).wordV)==65535))) 6 (RC.upd eC cW (ae ar ay) cY)) fun gn eE eF=>?_
 refine eX eE fun X cZ eG=>?_
 refine nt<|go<|Pl 1<|L0<|Oc<|m3 (cK eG) fun gp eH eI gq=>Pl 1<|?_
 have d0:=u1 eF eI im
 refine L0<|bU (aT d0 (Ne.symm ar) bF) 10 (mG c 0 0 0 0 0 0 0 0 ((aa.mk b false 0).wordV) X.wordV 0 nS nS nS nS 0 0 0 0 0 nS) fun gr eJ d1=>nl<|bn<|tn<|sg<|Pl 1<|?_
 have bH:=us d0 d1
 have d2:=ut cY bH (ac (ni d.size a) (ac (ni (le d.size g.size) f) aq))
 refine L0<|Oc<|m2 (dR (RC.upd eH d1 (ae ar ay) d2)) fun gs bI b3=>nt<|sq<|sg<|Pl 3<|L0<|ec (p:=⟨k,3,none⟩) (v:=.int .i64 (((X.wordsC 1).endC).e)) (RC.fld bI)<|Pl 1<|nt<|?_
 have d3:=ud d2 b3 (le d.size a)
 refine cb (((((X.wordsC 1).endC).e)!=0)) (fun aw=>?_) (fun aw=>?_)
 have bJ:=av aw
 refine sq<|Rg 7 (fun w'=>w'.cell? ⟨k,3,none⟩=some (.int .i64 (((X.wordsC 1).endC).e))) fun gt b4=>?_
 have d4:=RC.upd bI b4 ay (aE.step (RC.u bI) b4)
 refine bh (RC.fld d4) fun aC=>Rt 0 aC<|Rt 1 aC<|Rt 2 aC<|Rt 3 aC<|Rl 4 aC (fun _ hs=>hs)<|?_
 refine R0 5 rfl<|b7 (ub (ut B (ut bG (u1 bH (aI b3 b4) im) (ac im (ac im aq))) (ac (nr a) (ac (ni g.size f) aq))) i) mZ fun gu eK d5=>?_
 have d6:=ud d3 (uz b4 d5) y
 refine bh (RC.fld (RC.upd d4 d5 (ae (Ne.symm (nb (ak i) lr a)) ay) d6)) fun eL=>Rt 6 eL<|re<|tn<|rt<|tr<|bL eK (.int .i64 (((X.wordsC 1).endC).e))<|?_
 subst cZ
 have hs:ag aX 1 c b=aF (aP.mk c 0 0 0 0 0 0 0 0 ((aa.mk b false 0).wordV) ((((aa.mk b false 0).wordsC 1).need ((((aa.mk b false 0).wordV)==0)||(((aa.mk b false 0).wordV)==65535)) 6).wordV) 0 [] [] [] [] 0 0 0 0 0 []) ((((aa.mk b false 0).wordsC 1).need ((((aa.mk b false 0).wordV)==0)||(((aa.mk b false 0).wordV)==65535)) 6).wordsC 1):=by
   unfold ag aX cS cn
   (try simp only[o,q,D,M,aw,bs,if_true,if_false,decide_true,decide_false,eq_self,true_or,or_true,or_false,false_or,if_true,if_false,ch,cc,cg,ci,reduceIte,fc,fb])
   all_goals rfl
 rw[hs]
 exact bg bJ d6
 have bJ:=ai aw
 refine bz<|sg<|?_
 refine L0<|bZ (aT b3 (Ne.symm ar) eJ)<|?_
 refine L0<|b7 (ub (ut B (ut bG (u1 bH b3 im) (ac im (ac im aq))) (ac (nr a) (ac (ni g.size f) aq))) i) (mG c 0 0 0 0 0 0 0 0 ((aa.mk b false 0).wordV) X.wordV 0 nS nS nS nS 0 0 0 0 0 nS) fun gv eM eN=>Pl 1<|nt<|rt<|bL eM (.int .i64 0)<|?_
 subst cZ
 have hs:ag aX 1 c b=aF (aP.mk c 0 0 0 0 0 0 0 0 ((aa.mk b false 0).wordV) ((((aa.mk b false 0).wordsC 1).need ((((aa.mk b false 0).wordV)==0)||(((aa.mk b false 0).wordV)==65535)) 6).wordV) 0 [] [] [] [] 0 0 0 0 0 []) ((((aa.mk b false 0).wordsC 1).need ((((aa.mk b false 0).wordV)==0)||(((aa.mk b false 0).wordV)==65535)) 6).wordsC 1):=by
   unfold ag aX cS cn
   (try simp only[o,q,D,M,aw,bs,if_true,if_false,decide_true,decide_false,eq_self,true_or,or_true,or_false,false_or,if_true,if_false,ch,cc,cg,ci,reduceIte,fc,fb])
   all_goals rfl
 rw[hs]
 exact bo bJ ⟨_,_,_,_,_,rfl,aK.nil ..,aK.nil ..,(fun _ _ _=>aK.nil ..),aK.nil ..,aK.nil ..,⟨(b8 (x:=c) (by omega)),(b8 (x:=0) (by omega)),(aB (x:=0) (by omega)),(aB (x:=0) (by omega)),(aB (x:=0) (by omega)),(aB (x:=0) (by omega)),(aB (x:=0) (by omega)),(aB (x:=0) (by omega)),(aB (x:=0) (by omega)),(aB (x:=(aa.mk b false 0).wordV) (by omega)),(aB (x:=(((aa.mk b false 0).wordsC 1).need ((((aa.mk b false 0).wordV)==0)||(((aa.mk b false 0).wordV)==65535)) 6).wordV) (by omega)),(aB (x:=0) (by omega)),(b8 (x:=0) (by omega)),(b8 (x:=0) (by omega)),(b8 (x:=0) (by omega)),(b8 (x:=0) (by omega)),(b8 (x:=0) (by omega))⟩⟩ (ud d3 eN y)
 have eA:=ap M
 refine sg<|Pl 3<|nt<|cb ((c==12)) (fun U=>?_) (fun U=>?_)
 have eO:=am U
 refine sg<|Pl 1<|?_
 have eP:RC w _ A cp b a3 k (aa.mk b false 0):=⟨hsl,F,(Nat.le_trans d.size a),⟨0,(ub W s),Nat.zero_le _,rfl⟩,by omega⟩
 refine L0<|Oc<|m3 (dB eP) fun gw eR eS gx=>L0<|Oi ((aa.mk b false 0).byteV)<|Pl 1<|ng<|Pl 4<|cu 3 [155] 158 (((decide (6≤((aa.mk b false 0).byteV)))&&(decide (((aa.mk b false 0).byteV)≤70)))) (fun K d8=>?_) ?_
 refine bl 155 ((decide (6≤((aa.mk b false 0).byteV)))) (fun aD=>?_) (fun aD=>?_)
 have eT:=of_decide_eq_true aD
 exact Pl 3<|ce d8 (decide (((aa.mk b false 0).byteV)≤70)) (by rw[aD];rfl)
 have eT:=of_decide_eq_false aD
 exact Pl 3<|ce d8 false (by rw[aD];rfl)
 refine L0<|Oc<|m2 (aU (((decide (6≤((aa.mk b false 0).byteV)))&&(decide (((aa.mk b false 0).byteV)≤70)))) 5 eR) fun gy eU eV=>?_
 refine eX eU fun E d9 eW=>?_
 refine ng<|Pl 1<|L0<|Oc<|m3 (cK eW) fun gz eZ f0 gA=>Pl 1<|?_
 have da:=u1 eS (u1 eV f0 im) im
 have N:=nb (ak s) lr f
 refine L0<|bU (aT da (Ne.symm N) a4) 9 (mG c 0 0 0 0 0 0 0 0 E.wordV 0 0 nS nS nS nS 0 0 0 0 0 nS) fun gB bN db=>ng<|Pl 2<|L0<|aR bN 9<|Pl 2<|cu 4 [167] 171 (((E.wordV==0)||(E.wordV==65535))) (fun K dc=>?_) ?_
 refine bl 167 ((E.wordV==0)) (fun aG=>?_) (fun aG=>?_)
 have f1:=am aG
 exact Pl 4<|ce dc true (by rw[aG];rfl)
 have f1:=ap aG
 exact Pl 1<|L1<|aR bN 9<|Pl 2<|ce dc (E.wordV==65535) (by rw[aG];rfl)
 have bO:=us da db
 have dd:=ut F bO (ac (ni d.size a) (ac (ni (le d.size g.size) f) aq))
 refine L0<|Oc<|m2 (aU (((E.wordV==0)||(E.wordV==65535))) 6 (RC.upd eZ db (ae N ay) dd)) fun gC f2 f3=>?_
 refine eX f2 fun H de f4=>?_
 refine ng<|Pl 1<|L0<|Oc<|m3 (cK f4) fun gD f5 f6 gE=>Pl 1<|?_
 have df:=u1 f3 f6 im
 refine L0<|bU (aT df (Ne.symm N) bN) 10 (mG c 0 0 0 0 0 0 0 0 E.wordV H.wordV 0 nS nS nS nS 0 0 0 0 0 nS) fun gF f7 dg=>ng<|Pl 1<|?_
 have bP:=us df dg
 have dh:=ut dd bP (ac (ni d.size a) (ac (ni (le d.size g.size) f) aq))
 refine L0<|Oc<|m3 (cK (RC.upd f5 dg (ae N ay) dh)) fun gG f8 di gH=>Pl 1<|?_
 refine L0<|bU (aT di (Ne.symm N) f7) 11 (mG c 0 0 0 0 0 0 0 0 E.wordV H.wordV ((H.wordsC 1).wordV) nS nS nS nS 0 0 0 0 0 nS) fun gI f9 dj=>nt<|go<|Pl 2<|L0<|Oi (((aa.mk b false 0).byteV)-6)<|?_
 have bQ:=us di dj
 have dk:=ut dh bQ (ac (ni d.size a) (ac (ni (le d.size g.size) f) aq))
 have dl:=RC.upd f8 dj (ae N ay) dk
 refine L0<|Oc<|md (eQ (n:=(((aa.mk b false 0).byteV)-6)) (by omega) dl) fun dm dn gJ fd fe dp=>?_
 have gK:=Nat.le_trans (aa.bytesR_le ((H.wordsC 1).wordsC 1) (((aa.mk b false 0).byteV)-6)) (RC.clen dl)
 refine eX fe fun b5 dq ff=>?_
 refine Pl 1<|?_
 refine L0<|bU (aT dp (Ne.symm N) f9) 14 (mG c 0 0 0 0 0 0 0 0 E.wordV H.wordV ((H.wordsC 1).wordV) nS nS (.slice dm ((((H.wordsC 1).wordsC 1).bytesR (((aa.mk b false 0).byteV)-6)).length) dn) nS 0 0 0 0 0 nS) fun gL fg dr=>nl<|bn<|tn<|sg<|Pl 1<|?_
 have bR:=us dp dr
 have ds:=ut dk bR (ac (ni d.size a) (ac (ni (le d.size g.size) f) aq))
 refine L0<|Oc<|m2 (dR (RC.upd ff dr (ae N ay) ds)) fun gM bS b6=>nt<|sq<|sg<|Pl 3<|L0<|ec (p:=⟨k,3,none⟩) (v:=.int .i64 b5.endC.e) (RC.fld bS)<|Pl 1<|nt<|?_
 have dt:=ud ds b6 (le d.size a)
 refine cb ((b5.endC.e != 0)) (fun aH=>?_) (fun aH=>?_)
 have bT:=av aH
 refine sq<|Rg 7 (fun w'=>w'.cell? ⟨k,3,none⟩=some (.int .i64 b5.endC.e)) fun gN b9=>?_
 have dw:=RC.upd bS b9 ay (aE.step (RC.u bS) b9)
 refine bh (RC.fld dw) fun aJ=>Rt 0 aJ<|Rt 1 aJ<|Rt 2 aJ<|Rt 3 aJ<|Rl 4 aJ (fun _ hs=>hs)<|?_
 refine R0 5 rfl<|b7 (ub (ut B (ut bO (ut bP (ut bQ (u1 bR (aI b6 b9) im) (ac im (ac im aq))) (ac im (ac im aq))) (ac im (ac im aq))) (ac (nr a) (ac (ni g.size f) aq))) i) mZ fun gO fh dx=>?_
 have dy:=ud dt (uz b9 dx) y
 refine bh (RC.fld (RC.upd dw dx (ae (Ne.symm (nb (ak i) lr a)) ay) dy)) fun fi=>Rt 6 fi<|re<|tn<|rt<|tr<|bL fh (.int .i64 b5.endC.e)<|?_
 subst dq de d9
 have hs:ag aX 1 c b=aF (aP.mk c 0 0 0 0 0 0 0 0 ((((aa.mk b false 0).bytesC 1).need ((decide (6≤((aa.mk b false 0).byteV)))&&(decide (((aa.mk b false 0).byteV)≤70))) 5).wordV) ((((((aa.mk b false 0).bytesC 1).need ((decide (6≤((aa.mk b false 0).byteV)))&&(decide (((aa.mk b false 0).byteV)≤70))) 5).wordsC 1).need (((((aa.mk b false 0).bytesC 1).need ((decide (6≤((aa.mk b false 0).byteV)))&&(decide (((aa.mk b false 0).byteV)≤70))) 5).wordV==0)||((((aa.mk b false 0).bytesC 1).need ((decide (6≤((aa.mk b false 0).byteV)))&&(decide (((aa.mk b false 0).byteV)≤70))) 5).wordV==65535)) 6).wordV) (((((((aa.mk b false 0).bytesC 1).need ((decide (6≤((aa.mk b false 0).byteV)))&&(decide (((aa.mk b false 0).byteV)≤70))) 5).wordsC 1).need (((((aa.mk b false 0).bytesC 1).need ((decide (6≤((aa.mk b false 0).byteV)))&&(decide (((aa.mk b false 0).byteV)≤70))) 5).wordV==0)||((((aa.mk b false 0).bytesC 1).need ((decide (6≤((aa.mk b false 0).byteV)))&&(decide (((aa.mk b false 0).byteV)≤70))) 5).wordV==65535)) 6).wordsC 1).wordV) [] [] ((((((((aa.mk b false 0).bytesC 1).need ((decide (6≤((aa.mk b false 0).byteV)))&&(decide (((aa.mk b false 0).byteV)≤70))) 5).wordsC 1).need (((((aa.mk b false 0).bytesC 1).need ((decide (6≤((aa.mk b false 0).byteV)))&&(decide (((aa.mk b false 0).byteV)≤70))) 5).wordV==0)||((((aa.mk b false 0).bytesC 1).need ((decide (6≤((aa.mk b false 0).byteV)))&&(decide (((aa.mk b false 0).byteV)≤70))) 5).wordV==65535)) 6).wordsC 1).wordsC 1).bytesR (((aa.mk b false 0).byteV)-6)) [] 0 0 0 0 0 []) ((((((((aa.mk b false 0).bytesC 1).need ((decide (6≤((aa.mk b false 0).byteV)))&&(decide (((aa.mk b false 0).byteV)≤70))) 5).wordsC 1).need (((((aa.mk b false 0).bytesC 1).need ((decide (6≤((aa.mk b false 0).byteV)))&&(decide (((aa.mk b false 0).byteV)≤70))) 5).wordV==0)||((((aa.mk b false 0).bytesC 1).need ((decide (6≤((aa.mk b false 0).byteV)))&&(decide (((aa.mk b false 0).byteV)≤70))) 5).wordV==65535)) 6).wordsC 1).wordsC 1).bytesC (((aa.mk b false 0).byteV)-6)):=by
   unfold ag aX cS cn
   (try simp only[o,q,D,M,U,aH,bs,if_true,if_false,decide_true,decide_false,eq_self,true_or,or_true,or_false,false_or,if_true,if_false,ch,cc,cg,ci,reduceIte,fc,fb])
   all_goals rfl
 rw[hs]
 exact bg bT dy
 have bT:=ai aH
 refine bz<|sg<|?_
 refine L0<|bZ (aT b6 (Ne.symm N) fg)<|?_
 refine L0<|b7 (ub (ut B (ut bO (ut bP (ut bQ (u1 bR b6 im) (ac im (ac im aq))) (ac im (ac im aq))) (ac im (ac im aq))) (ac (nr a) (ac (ni g.size f) aq))) i) (mG c 0 0 0 0 0 0 0 0 E.wordV H.wordV ((H.wordsC 1).wordV) nS nS (.slice dm ((((H.wordsC 1).wordsC 1).bytesR (((aa.mk b false 0).byteV)-6)).length) dn) nS 0 0 0 0 0 nS) fun gP fj fk=>Pl 1<|nt<|rt<|bL fj (.int .i64 0)<|?_
 subst dq de d9
 have hs:ag aX 1 c b=aF (aP.mk c 0 0 0 0 0 0 0 0 ((((aa.mk b false 0).bytesC 1).need ((decide (6≤((aa.mk b false 0).byteV)))&&(decide (((aa.mk b false 0).byteV)≤70))) 5).wordV) ((((((aa.mk b false 0).bytesC 1).need ((decide (6≤((aa.mk b false 0).byteV)))&&(decide (((aa.mk b false 0).byteV)≤70))) 5).wordsC 1).need (((((aa.mk b false 0).bytesC 1).need ((decide (6≤((aa.mk b false 0).byteV)))&&(decide (((aa.mk b false 0).byteV)≤70))) 5).wordV==0)||((((aa.mk b false 0).bytesC 1).need ((decide (6≤((aa.mk b false 0).byteV)))&&(decide (((aa.mk b false 0).byteV)≤70))) 5).wordV==65535)) 6).wordV) (((((((aa.mk b false 0).bytesC 1).need ((decide (6≤((aa.mk b false 0).byteV)))&&(decide (((aa.mk b false 0).byteV)≤70))) 5).wordsC 1).need (((((aa.mk b false 0).bytesC 1).need ((decide (6≤((aa.mk b false 0).byteV)))&&(decide (((aa.mk b false 0).byteV)≤70))) 5).wordV==0)||((((aa.mk b false 0).bytesC 1).need ((decide (6≤((aa.mk b false 0).byteV)))&&(decide (((aa.mk b false 0).byteV)≤70))) 5).wordV==65535)) 6).wordsC 1).wordV) [] [] ((((((((aa.mk b false 0).bytesC 1).need ((decide (6≤((aa.mk b false 0).byteV)))&&(decide (((aa.mk b false 0).byteV)≤70))) 5).wordsC 1).need (((((aa.mk b false 0).bytesC 1).need ((decide (6≤((aa.mk b false 0).byteV)))&&(decide (((aa.mk b false 0).byteV)≤70))) 5).wordV==0)||((((aa.mk b false 0).bytesC 1).need ((decide (6≤((aa.mk b false 0).byteV)))&&(decide (((aa.mk b false 0).byteV)≤70))) 5).wordV==65535)) 6).wordsC 1).wordsC 1).bytesR (((aa.mk b false 0).byteV)-6)) [] 0 0 0 0 0 []) ((((((((aa.mk b false 0).bytesC 1).need ((decide (6≤((aa.mk b false 0).byteV)))&&(decide (((aa.mk b false 0).byteV)≤70))) 5).wordsC 1).need (((((aa.mk b false 0).bytesC 1).need ((decide (6≤((aa.mk b false 0).byteV)))&&(decide (((aa.mk b false 0).byteV)≤70))) 5).wordV==0)||((((aa.mk b false 0).bytesC 1).need ((decide (6≤((aa.mk b false 0).byteV)))&&(decide (((aa.mk b false 0).byteV)≤70))) 5).wordV==65535)) 6).wordsC 1).wordsC 1).bytesC (((aa.mk b false 0).byteV)-6)):=by
   unfold ag aX cS cn
   (try simp only[o,q,D,M,U,aH,bs,if_true,if_false,decide_true,decide_false,eq_self,true_or,or_true,or_false,false_or,if_true,if_false,ch,cc,cg,ci,reduceIte,fc,fb])
   all_goals rfl
 rw[hs]
 exact bo bT ⟨_,_,_,_,_,rfl,aK.nil ..,aK.nil ..,fd,aK.nil ..,aK.nil ..,⟨(b8 (x:=c) (by omega)),(b8 (x:=0) (by omega)),(aB (x:=0) (by omega)),(aB (x:=0) (by omega)),(aB (x:=0) (by omega)),(aB (x:=0) (by omega)),(aB (x:=0) (by omega)),(aB (x:=0) (by omega)),(aB (x:=0) (by omega)),(aB (x:=(((aa.mk b false 0).bytesC 1).need ((decide (6≤((aa.mk b false 0).byteV)))&&(decide (((aa.mk b false 0).byteV)≤70))) 5).wordV) (by omega)),(aB (x:=(((((aa.mk b false 0).bytesC 1).need ((decide (6≤((aa.mk b false 0).byteV)))&&(decide (((aa.mk b false 0).byteV)≤70))) 5).wordsC 1).need (((((aa.mk b false 0).bytesC 1).need ((decide (6≤((aa.mk b false 0).byteV)))&&(decide (((aa.mk b false 0).byteV)≤70))) 5).wordV==0)||((((aa.mk b false 0).bytesC 1).need ((decide (6≤((aa.mk b false 0).byteV)))&&(decide (((aa.mk b false 0).byteV)≤70))) 5).wordV==65535)) 6).wordV) (by omega)),(aB (x:=((((((aa.mk b false 0).bytesC 1).need ((decide (6≤((aa.mk b false 0).byteV)))&&(decide (((aa.mk b false 0).byteV)≤70))) 5).wordsC 1).need (((((aa.mk b false 0).bytesC 1).need ((decide (6≤((aa.mk b false 0).byteV)))&&(decide (((aa.mk b false 0).byteV)≤70))) 5).wordV==0)||((((aa.mk b false 0).bytesC 1).need ((decide (6≤((aa.mk b false 0).byteV)))&&(decide (((aa.mk b false 0).byteV)≤70))) 5).wordV==65535)) 6).wordsC 1).wordV) (by omega)),(b8 (x:=0) (by omega)),(b8 (x:=0) (by omega)),(b8 (x:=0) (by omega)),(b8 (x:=0) (by omega)),(b8 (x:=0) (by omega))⟩⟩ (ud dt fk y)
 have eO:=ap U
 refine sg<|Pl 1<|?_
 have fl:RC w _ A cp b a3 k (aa.mk b false 0):=⟨hsl,F,(Nat.le_trans d.size a),⟨0,(ub W s),Nat.zero_le _,rfl⟩,by omega⟩
 refine L0<|Oc<|m3 (dB fl) fun gQ fm fn gR=>L0<|Oi ((aa.mk b false 0).byteV)<|Pl 1<|ng<|Pl 4<|cu 3 [52] 55 (((decide (1≤((aa.mk b false 0).byteV)))&&(decide (((aa.mk b false 0).byteV)≤251)))) (fun K dz=>?_) ?_
 refine bl 52 ((decide (1≤((aa.mk b false 0).byteV)))) (fun aL=>?_) (fun aL=>?_)
 have fo:=of_decide_eq_true aL
 exact Pl 3<|ce dz (decide (((aa.mk b false 0).byteV)≤251)) (by rw[aL];rfl)
 have fo:=of_decide_eq_false aL
 exact Pl 3<|ce dz false (by rw[aL];rfl)
 refine L0<|Oc<|m2 (aU (((decide (1≤((aa.mk b false 0).byteV)))&&(decide (((aa.mk b false 0).byteV)≤251)))) 5 fm) fun gS fp fq=>?_
 refine eX fp fun V dA dC=>?_
 refine nt<|go<|Pl 2<|L0<|Oc<|md (eQ (n:=(aa.mk b false 0).byteV) (by omega) dC) fun dD dE gT fr fs ft=>?_
 have gU:=Nat.le_trans (aa.bytesR_le V ((aa.mk b false 0).byteV)) (RC.clen dC)
 refine Pl 1<|?_
 have dF:=u1 fn (u1 fq ft im) im
 have bV:=nb (ak s) lr f
 refine L0<|bU (aT dF (Ne.symm bV) a4) 14 (mG c 0 0 0 0 0 0 0 0 0 0 0 nS nS (.slice dD ((V.bytesR ((aa.mk b false 0).byteV)).length) dE) nS 0 0 0 0 0 nS) fun gV fu dG=>nl<|bn<|tn<|sg<|Pl 1<|?_
 have bW:=us dF dG
 have dH:=ut F bW (ac (ni d.size a) (ac (ni (le d.size g.size) f) aq))
 refine L0<|Oc<|m2 (dR (RC.upd fs dG (ae bV ay) dH)) fun gW bX ba=>nt<|sq<|sg<|Pl 3<|L0<|ec (p:=⟨k,3,none⟩) (v:=.int .i64 (((V.bytesC ((aa.mk b false 0).byteV)).endC).e)) (RC.fld bX)<|Pl 1<|nt<|?_
 have dI:=ud dH ba (le d.size a)
 refine cb (((((V.bytesC ((aa.mk b false 0).byteV)).endC).e)!=0)) (fun aM=>?_) (fun aM=>?_)
 have bY:=av aM
 refine sq<|Rg 7 (fun w'=>w'.cell? ⟨k,3,none⟩=some (.int .i64 (((V.bytesC ((aa.mk b false 0).byteV)).endC).e))) fun gX bb=>?_
 have dJ:=RC.upd bX bb ay (aE.step (RC.u bX) bb)
 refine bh (RC.fld dJ) fun aN=>Rt 0 aN<|Rt 1 aN<|Rt 2 aN<|Rt 3 aN<|Rl 4 aN (fun _ hs=>hs)<|?_
 refine R0 5 rfl<|b7 (ub (ut B (u1 bW (aI ba bb) im) (ac (nr a) (ac (ni g.size f) aq))) i) mZ fun gY fv dK=>?_
 have dL:=ud dI (uz bb dK) y
 refine bh (RC.fld (RC.upd dJ dK (ae (Ne.symm (nb (ak i) lr a)) ay) dL)) fun fw=>Rt 6 fw<|re<|tn<|rt<|tr<|bL fv (.int .i64 (((V.bytesC ((aa.mk b false 0).byteV)).endC).e))<|?_
 subst dA
 have hs:ag aX 1 c b=aF (aP.mk c 0 0 0 0 0 0 0 0 0 0 0 [] [] ((((aa.mk b false 0).bytesC 1).need ((decide (1≤((aa.mk b false 0).byteV)))&&(decide (((aa.mk b false 0).byteV)≤251))) 5).bytesR ((aa.mk b false 0).byteV)) [] 0 0 0 0 0 []) ((((aa.mk b false 0).bytesC 1).need ((decide (1≤((aa.mk b false 0).byteV)))&&(decide (((aa.mk b false 0).byteV)≤251))) 5).bytesC ((aa.mk b false 0).byteV)):=by
   unfold ag aX cS cn
   (try simp only[o,q,D,M,U,aM,bs,if_true,if_false,decide_true,decide_false,eq_self,true_or,or_true,or_false,false_or,if_true,if_false,ch,cc,cg,ci,reduceIte,fc,fb])
   all_goals rfl
 rw[hs]
 exact bg bY dL
 have bY:=ai aM
 refine bz<|sg<|?_
 refine L0<|bZ (aT ba (Ne.symm bV) fu)<|?_
 refine L0<|b7 (ub (ut B (u1 bW ba im) (ac (nr a) (ac (ni g.size f) aq))) i) (mG c 0 0 0 0 0 0 0 0 0 0 0 nS nS (.slice dD ((V.bytesR ((aa.mk b false 0).byteV)).length) dE) nS 0 0 0 0 0 nS) fun gZ fx fy=>Pl 1<|nt<|rt<|bL fx (.int .i64 0)<|?_
 subst dA
 have hs:ag aX 1 c b=aF (aP.mk c 0 0 0 0 0 0 0 0 0 0 0 [] [] ((((aa.mk b false 0).bytesC 1).need ((decide (1≤((aa.mk b false 0).byteV)))&&(decide (((aa.mk b false 0).byteV)≤251))) 5).bytesR ((aa.mk b false 0).byteV)) [] 0 0 0 0 0 []) ((((aa.mk b false 0).bytesC 1).need ((decide (1≤((aa.mk b false 0).byteV)))&&(decide (((aa.mk b false 0).byteV)≤251))) 5).bytesC ((aa.mk b false 0).byteV)):=by
   unfold ag aX cS cn
   (try simp only[o,q,D,M,U,aM,bs,if_true,if_false,decide_true,decide_false,eq_self,true_or,or_true,or_false,false_or,if_true,if_false,ch,cc,cg,ci,reduceIte,fc,fb])
   all_goals rfl
 rw[hs]
 exact bo bY ⟨_,_,_,_,_,rfl,aK.nil ..,aK.nil ..,fr,aK.nil ..,aK.nil ..,⟨(b8 (x:=c) (by omega)),(b8 (x:=0) (by omega)),(aB (x:=0) (by omega)),(aB (x:=0) (by omega)),(aB (x:=0) (by omega)),(aB (x:=0) (by omega)),(aB (x:=0) (by omega)),(aB (x:=0) (by omega)),(aB (x:=0) (by omega)),(aB (x:=0) (by omega)),(aB (x:=0) (by omega)),(aB (x:=0) (by omega)),(b8 (x:=0) (by omega)),(b8 (x:=0) (by omega)),(b8 (x:=0) (by omega)),(b8 (x:=0) (by omega)),(b8 (x:=0) (by omega))⟩⟩ (ud dI fy y)
theorem jk{m:Md}{A:Option Addr}{cp:Nat}{b:List Int}{w:World}{dir c:Int}(hcode:B8 c)(hsl:bi m w (.slice A b.length cp) b)(hb:b.length≤1048576)(hd:¬ (dir=0∨dir=1)) :
    Calls Tryz.prog 95 #[.int .i64 dir,.int .u8 c,.slice A b.length cp] w (d7 (.slice A b.length cp) b (ag aX dir c b) w):=by
 obtain⟨hcode1,hcode2⟩:=hcode
 have hln:(b.length:Int)≤1048576:=by omega
 have e0:(dir != 0)=true:=by simp;omega
 have e1:(dir != 1)=true:=by simp;omega
 refine en 197 Tryz.func95 rfl<|sg<|L0<|bK mZ fun g h a d e=>Pl 1<|nt<|sq<|sg<|Pl 3<|sy 17 e0<|Pl 3<|nl<|?_
 refine tn<|ct e1<|sg<|Pl 1<|L0<|b7 d mZ fun i dx f=>Pl 1<|nt<|rt<|tr<|bL dx (.int .i64 1)<|?_
 have hs:ag aX dir c b=(aP.zero,1):=by
   unfold ag aX cS cn
   (try simp only[e0,e1,bs,if_true,if_false,decide_true,decide_false,eq_self,true_or,or_true,or_false,false_or,if_true,if_false,ch,cc,cg,ci,reduceIte,hd,fc,fb])
   all_goals rfl
 rw[hs]
 exact bu (ud e f a)
open Go.RowKit
theorem dI{C:aa}{ok:Bool}{x:Int}(h:C.e≠0) : C.need ok x=C:=by
  unfold aa.need
  rw[if_neg fun k=>h k.1]
theorem ey{C:aa}{n:Int}(h:C.fails n=true) : (C.bytesC n).e≠0:=by
  unfold aa.bytesC
  rw[if_pos h]
  unfold aa.need
  split
  · exact(show(2:Int)≠0 from by decide)
  · rename_i k
    intro e
    exact k ⟨e,rfl⟩
theorem kU{C:aa}(h:(C.wordsR 1).length≠1) : (C.wordsC 1).e≠0:=by
  unfold aa.wordsR at h
  unfold aa.wordsC
  split
  · exact ey (by unfold aa.fails;simp)
  · rename_i hb
    rw[if_neg hb] at h
    by_cases hf:C.fails (2*1)=true
    · exact ey hf
    · exfalso
      apply h
      unfold aa.bytesR
      rw[if_neg hf]
      unfold aa.fails at hf
      simp only[Bool.or_eq_true,decide_eq_true_eq,not_or] at hf
      rcases e:C.l with _|⟨a,_|⟨b,t⟩⟩
      · rw[e] at hf;simp at hf
      · rw[e] at hf;simp at hf
      · show(cH [a,b]).length=1
        unfold cH
        rw[if_pos (by simp)]
        simp[cV]
theorem mD{C:aa}(h:(C.wordsR 1).length=1) : [C.wordV]=C.wordsR 1:=by
  unfold aa.wordV
  rcases e:C.wordsR 1 with _|⟨a,_|⟨b,t⟩⟩
  · rw[e] at h;simp at h
  · rfl
  · rw[e] at h;simp at h
theorem nX{M M':aP}{C:aa}(h:C.e≠0) : aF M C=aF M' C:=by
  unfold aF
  have e:C.endC.e≠0:=by unfold aa.endC;rw[dI h];exact h
  rw[if_neg e,if_neg e]
theorem o8(dir:Int)(C:aa) : ej dir C=eD dir C:=by
  unfold ej eD
  rw[Bool.or_comm]
theorem nZ(dir c:Int)(C:aa) : aF (cS dir c C).2 (cS dir c C).1=aF (dP dir c C).2 (dP dir c C).1:=by
  unfold cS dP
  rw[o8]
  by_cases h0:C.wordV=0
  · rw[h0,if_pos (show((0:Int)==0)=true from rfl),if_neg (show ¬ ((0:Int)!=0)=true from by decide)]
  · rw[if_neg (by simpa using h0),if_pos (by simpa using h0)]
    by_cases h1:((eD dir C).wordsR 1).length=1
    · rw[mD h1,show((((eD dir C).wordsR 1).length:Int)==1)=true from by rw[h1];rfl,Bool.true_and]
      rfl
    · have k:=kU h1
      dsimp only
      rw[dI k,dI k]
      exact nX k
theorem jy{f f':Int→Int→aa→Option (aa × aP)}{dir c:Int}{b:List Int}(h:∀ C,(dir=0∨dir=1)→(f dir c C=none∧f' dir c C=none)∨∃ r r',f dir c C=some r∧f' dir c C=some r'∧aF r.2 r.1=aF r'.2 r'.1) : ag f dir c b=ag f' dir c b:=by
  unfold ag
  split
  · rename_i hd
    rcases h ⟨b,false,0⟩ hd with⟨h1,h2⟩|⟨r,r',h1,h2,h3⟩
    · rw[h1,h2]
    · rw[h1,h2];exact h3
  · rfl
theorem kz(dir c:Int)(b:List Int) : ag aX dir c b=ag aM dir c b:=by
  refine jy fun C hd=>?_
  unfold aX aM
  by_cases h8:c=8
  · subst h8
    exact .inr ⟨_,_,rfl,rfl,nZ dir 8 C⟩
  · by_cases h:c=7∨c=11∨c=12∨c=17
    · refine .inr ?_
      rw[if_neg (show ¬ (((((c != 7)&&(c != 8))&&(c != 11))&&(c != 12))&&(c != 17))=true from by rcases h with rfl | rfl | rfl | rfl<;>decide),if_neg (show ¬ (c==8)=true from by simpa using h8),if_neg (show ¬ (c==8)=true from by simpa using h8),if_pos (show(c==7 || c==11 || c==12 || c==17)=true from by rcases h with rfl | rfl | rfl | rfl<;>decide)]
      rcases hd with rfl|rfl
      · exact⟨_,_,rfl,rfl,rfl⟩
      · refine⟨_,_,rfl,rfl,?_⟩
        rcases h with rfl|rfl|rfl|rfl<;>rfl
    · refine .inl ?_
      rw[if_pos (show(((((c != 7)&&(c != 8))&&(c != 11))&&(c != 12))&&(c != 17))=true from by simp;omega),if_neg (show ¬ (c==8)=true from by simpa using h8),if_neg (show ¬ (c==7 || c==11 || c==12 || c==17)=true from by simp;omega)]
      exact⟨rfl,rfl⟩
open Go.RowKit
theorem kB{n:Int}:db n=if n<1 then 0 else n/8+(if 0<n%8 then 1 else 0):=by
  unfold db
  split
  · rfl
  · split<;>omega
theorem iG(l:List Bool)(j:Nat) : bS (l.take (8*j)) j=0:=by
  have h:=kx l (8*j)
  rw[show 8*j/8=j from by omega,show 8*j%8=0 from by omega] at h
  omega
theorem gT{l:List Bool}{j t:Nat}(ht:t<8) : bS (l.take (8*j+t+1)) j=bS (l.take (8*j+t)) j+if l.getD (8*j+t) false=true then 2 ^ t else 0:=by
  rw[fL,show(8*j+t)/8=j from by omega,show(8*j+t)%8=t from by omega]
  simp
theorem oO{l:List Bool}{j t:Nat}(h:t=8∨l.length≤8*j+t) : bS (l.take (8*j+t)) j=bS l j:=by
  rcases h with rfl|h
  · unfold bS
    simp only[g9]
    simp
  · rw[List.take_of_length_le h]
theorem qm{l:List Bool}{j:Nat}(h1:l.length≤8*j)(h2:8*j<l.length+8) : (List.range j).map (fun i=>(bS l i:Int))=cF l:=by
  unfold cF
  rw[show(db l.length).toNat=j from by unfold db;split<;>omega]
theorem nU(l:List Bool) : ((cF l).length:Int)=db l.length:=by
  unfold cF
  rw[List.length_map,List.length_range]
  unfold db
  split<;>omega
theorem um:∀ x0 x1 x2 x3 x4 x5 x6 x7:Bool,∀ t:Fin 8,(((((if x0=true then 1 else 0)+(if x1=true then 2 else 0)+(if x2=true then 4 else 0)+(if x3=true then 8 else 0)+(if x4=true then 16 else 0)+(if x5=true then 32 else 0)+(if x6=true then 64 else 0)+(if x7=true then 128 else 0) : Nat) : Int)/2 ^ t.val%2==1)=[x0,x1,x2,x3,x4,x5,x6,x7].getD t.val false):=by decide +kernel
theorem sQ{l:List Bool}{j t:Nat}(ht:t<8) : ((bS l j:Int)/2 ^ t%2==1)=l.getD (8*j+t) false:=by
  have h:=um (l.getD (8*j) false) (l.getD (8*j+1) false) (l.getD (8*j+2) false) (l.getD (8*j+3) false) (l.getD (8*j+4) false) (l.getD (8*j+5) false) (l.getD (8*j+6) false) (l.getD (8*j+7) false) ⟨t,ht⟩
  refine h.trans ?_
  rcases t with _|_|_|_|_|_|_|_|t
  case succ.succ.succ.succ.succ.succ.succ.succ=>omega
  all_goals rfl
theorem lB(l:List Bool) : bX (cF l) (l.length:Int)=some ((List.range l.length).map (cv (cF l))):=by
  have hl:=nU l
  unfold bX
  rw[if_pos ⟨by omega,hl⟩,if_pos,show((l.length:Int)).toNat=l.length from by omega]
  rw[List.all_eq_true]
  intro i hi
  have hi:i<8*(cF l).length:=by simpa using hi
  simp only[Bool.or_eq_true,decide_eq_true_eq,Bool.not_eq_true']
  by_cases h:(i:Int)<l.length
  · exact .inl h
  · refine .inr ?_
    have hj:i/8<(cF l).length:=by omega
    unfold cv
    have e:(cF l).getD (i/8) 0=(bS l (i/8) : Int):=by
      have hj2:i/8<(db (l.length:Int)).toNat:=by omega
      unfold cF
      rw[List.getD_eq_getElem?_getD,List.getElem?_map,List.getElem?_range hj2]
      rfl
    rw[e,sQ (Nat.mod_lt _ (by decide)),show 8*(i/8)+i%8=i from by omega,List.getD_eq_getElem?_getD,List.getElem?_eq_none (by omega)]
    rfl
theorem m8{b:List Int}{n:Int}(hr:∀ x,x∈b→0≤x∧x<256)(h0:0≤n) : bX b n=if cF ((List.range n.toNat).map (cv b))=b then some ((List.range n.toNat).map (cv b)) else none:=by
  by_cases h:cF ((List.range n.toNat).map (cv b))=b
  · rw[if_pos h]
    have k:=lB ((List.range n.toNat).map (cv b))
    rw[h,List.length_map,List.length_range,show((n.toNat:Nat) : Int)=n from by omega] at k
    exact k
  · rw[if_neg h]
    cases e:bX b n with
    | none=>rfl
    | some l =>
      exfalso
      have k:=lm hr e
      unfold bX at e
      split at e
      · split at e
        · injection e with e;rw[e] at h;exact h k
        · cases e
      · cases e
open Go.RowKit
theorem t7{n:Int}{w:World}(hn : -1048576≤n∧n≤1048576) : Calls Tryz.prog 155 #[.int .i64 n] w (dh (.int .i64 (db n)) w):=by
 refine en 14 Tryz.func155 rfl<|sg<|Pl 1<|nt<|sq<|sg<|Pl 2<|nt<|cb ((decide (n<1))) (fun a=>?_) (fun a=>?_)
 have c:=of_decide_eq_true a
 refine sg<|Pl 1<|nt<|rt<|tr<|rr (.int .i64 0)<|?_
 have hs:db n=0:=by rw[kB];split<;>(try split)<;>omega
 rw[hs]
 exact⟨rfl,(aE.refl [] _)⟩
 have c:=of_decide_eq_false a
 refine bz<|sg<|Pl 1<|L0<|Oe (.int .i64 (IntKind.i64.wrap (Int.tdiv n 8))) (.int .i64 (n/8)) (congrArg (Value.int .i64) (eY (by omega) (by omega)))<|Pl 1<|nt<|sq<|sg<|Pl 1<|L0<|Oe (.int .i64 (Int.tmod n 8)) (.int .i64 (n%8)) (congrArg (Value.int .i64) (Int.tmod_eq_emod_of_nonneg (by omega)))<|?_
 refine Pl 1<|nt<|cb ((decide (0<(n%8)))) (fun b=>?_) (fun b=>?_)
 have d:=of_decide_eq_true b
 refine go<|Pl 1<|L0<|Oi ((n/8)+1)<|Pl 1<|ng<|Pl 2<|nt<|rt<|rr (.int .i64 ((n/8)+1))<|?_
 have hs:db n=((n/8)+1):=by rw[kB];split<;>(try split)<;>omega
 rw[hs]
 exact⟨rfl,(aE.refl [] _)⟩
 have d:=of_decide_eq_false b
 refine bz<|sg<|Pl 2<|nt<|rt<|rr (.int .i64 (n/8))<|?_
 have hs:db n=(n/8):=by rw[kB];split<;>(try split)<;>omega
 rw[hs]
 exact⟨rfl,(aE.refl [] _)⟩
theorem nz(l:List Bool)(j t:Nat)(ht:t≤8) : bS (l.take (8*j+t)) j<2 ^ t:=by
  induction t with
  | zero=>rw[Nat.add_zero,iG];decide
  | succ t ih =>
    have h:=ih (by omega)
    rw[← Nat.add_assoc,gT (by omega),Nat.pow_succ]
    split<;>omega
theorem pF{t:Nat}(ht:t≤8) : 2 ^ t≤256:=by
  rcases t with _|_|_|_|_|_|_|_|_|t
  case succ.succ.succ.succ.succ.succ.succ.succ.succ=>omega
  all_goals decide
theorem ou{l:List Bool}{j:Nat}(h1:¬ 8*j<l.length)(h2:8*j<l.length+8) : (List.range j).map (fun i=>(bS l i:Int))=cF l:=qm (by omega) h2
theorem pn{l:List Bool}{j t:Nat}{c:Int}(hc:c=(bS (l.take (8*j+t)) j:Int))(ht:t≤8)(h:t=8∨l.length≤8*j+t) : c%256=(bS l j:Int):=by
  have h1:=nz l j t ht
  have h2:=pF ht
  rw[oO h] at hc h1
  omega
theorem sH{m:Md}{A:Option Addr}{cp:Nat}{l:List Bool}{w:World}(h:fP m w (.slice A l.length cp) l)(hn:l.length≤1048576) : Calls Tryz.prog 216 #[.slice A l.length cp] w (pj l w):=by
 refine en 42 Tryz.func216 rfl<|sg<|Pl 1<|ng<|Pl 1<|nt<|sq<|sg<|?_
 refine Pl 1<|nt<|bk<|?_
 refine jc (fun x=>[(0,.slice A l.length cp),(2,.slice none 0 0),(3,.slice x.2.2.1 x.2.1.length x.2.2.2),(4,.int .i64 ((8*x.1:Nat) : Int))]) (fun(x:Nat × List Int × Option Addr × Nat) w'=>aE [] w w'∧fD w.heap.size w' (.slice x.2.2.1 x.2.1.length x.2.2.2) x.2.1∧(8*x.1<l.length+8)∧(x.2.1=(List.range x.1).map (fun i=>(bS l i:Int)))) (fun x=>l.length+8-8*x.1) (0,[],none,0) ⟨aE.refl _ _,(bf.nil w.heap.size _ _ qB _),(by(try dsimp only);omega),rfl⟩ ?_
 rintro⟨j,L,B,cq⟩ r ⟨f,z,C,D⟩
 refine jf [(0,.slice A l.length cp),(2,.slice none 0 0),(3,.slice B L.length cq),(4,.int .i64 ((8*j:Nat) : Int))] ?_
 have g:fD w.heap.size r (.slice B L.length cq) L:=z
 have Z:8*j<l.length+8:=C
 have k:L=(List.range j).map (fun i=>(bS l i:Int)):=D
 have hLn:L.length=j:=by rw[k,List.length_map,List.length_range]
 refine sq<|sg<|Pl 4<|nt<|cb ((decide (((8*j:Nat) : Int)<((l.length:Nat) : Int)))) (fun n=>?_) (fun n=>?_)
 have E:=of_decide_eq_true n
 refine bz<|sq<|bk<|sg<|Pl 1<|ng<|Pl 1<|nt<|?_
 refine sq<|sg<|Pl 2<|nt<|bk<|?_
 refine jc (fun x=>[(0,.slice A l.length cp),(2,.slice none 0 0),(3,.slice B L.length cq),(4,.int .i64 ((8*j:Nat) : Int)),(5,.int .i64 x.2.1),(6,.int .i64 x.2.2),(7,.int .i64 ((8*j+x.1:Nat) : Int)),(8,.int .i64 ((8*j:Nat) : Int)),(9,.slice A l.length cp),(10,.int .i64 ((l.length:Nat) : Int)),(11,.bool (decide (((8*j:Nat) : Int)<((l.length:Nat) : Int)))),(14,.int .i64 ((8*j:Nat) : Int))]) (fun(x:Nat × Int × Int) w'=>aE [] r w'∧(x.1≤8)∧(x.2.1=(bS (l.take (8*j+x.1)) j:Int))∧(x.2.2=((2 ^ x.1:Nat) : Int))) (fun x=>8-x.1) (0,0,1) ⟨aE.refl _ _,(by(try dsimp only);omega),(by(try dsimp only);rw[Nat.add_zero,iG];rfl),rfl⟩ ?_
 rintro⟨t,c,u⟩ a0 ⟨a,F,G,H⟩
 refine jf [(0,.slice A l.length cp),(2,.slice none 0 0),(3,.slice B L.length cq),(4,.int .i64 ((8*j:Nat) : Int)),(5,.int .i64 c),(6,.int .i64 u),(7,.int .i64 ((8*j+t:Nat) : Int)),(8,.int .i64 ((8*j:Nat) : Int)),(9,.slice A l.length cp),(10,.int .i64 ((l.length:Nat) : Int)),(11,.bool (decide (((8*j:Nat) : Int)<((l.length:Nat) : Int)))),(14,.int .i64 ((8*j:Nat) : Int))] ?_
 have a1:t≤8:=F
 have I:c=(bS (l.take (8*j+t)) j:Int):=G
 have a2:u=((2 ^ t:Nat) : Int):=H
 have hpl:=nz l j t (by omega)
 have hpp:=pF (t:=t) (by omega)
 refine sq<|sg<|Pl 5<|cu 5 [19] 24 (((decide (((8*j+t:Nat) : Int)<((l.length:Nat) : Int)))&&(decide (((8*j+t:Nat) : Int)<(((8*j:Nat) : Int)+8))))) (fun K s=>?_) ?_
 refine bl 19 ((decide (((8*j+t:Nat) : Int)<((l.length:Nat) : Int)))) (fun b=>?_) (fun b=>?_)
 have J:=of_decide_eq_true b
 exact Pl 2<|L1<|Oi (((8*j:Nat) : Int)+8)<|Pl 2<|ce s (decide (((8*j+t:Nat) : Int)<(((8*j:Nat) : Int)+8))) (by rw[b];rfl)
 have J:=of_decide_eq_false b
 exact Pl 5<|ce s false (by rw[b];rfl)
 refine nt<|?_
 have y:=aI f a
 refine cb (((decide (((8*j+t:Nat) : Int)<((l.length:Nat) : Int)))&&(decide (((8*j+t:Nat) : Int)<(((8*j:Nat) : Int)+8))))) (fun d=>?_) (fun d=>?_)
 have M:=(aW d).1
 have N:=(aW d).2
 have a3:=of_decide_eq_true M
 have a4:=of_decide_eq_true N
 refine bz<|sq<|bk<|sq<|sg<|Pl 2<|?_
 refine ul (fP.at_ (fP.old h y) (8*j+t) (by omega)) fun O P Q R=>L0<|kj l.length (8*j+t) Q (by omega)<|L0<|ec (p:=⟨O,P+(8*j+t),none⟩) (v:=.bool (l.getD (8*j+t) false)) R<|nt<|cb ((l.getD (8*j+t) false)) (fun o=>?_) (fun o=>?_)
 refine go<|Pl 2<|L0<|Oi (c+u)<|Pl 1<|nt<|go<|Pl 1<|L0<|Oi (2*u)<|Pl 1<|nl<|bn<|tn<|go<|?_
 exact Pl 1<|L0<|Oi (((8*j+t:Nat) : Int)+1)<|Pl 1<|nl<|gf ((t+1),(c+u),(2*u)) ⟨a,(by(try dsimp only);omega),(by(try dsimp only);rw[← Nat.add_assoc,gT (by omega),if_pos o];omega),(by(try dsimp only);rw[Nat.pow_succ];omega)⟩ (by omega)
 refine bz<|go<|Pl 1<|L0<|Oi (2*u)<|Pl 1<|nl<|bn<|tn<|go<|Pl 1<|L0<|Oi (((8*j+t:Nat) : Int)+1)<|Pl 1<|nl<|?_
 exact gf ((t+1),c,(2*u)) ⟨a,(by(try dsimp only);omega),(by(try dsimp only);rw[← Nat.add_assoc,gT (by omega),if_neg (by rw[o];decide)];omega),(by(try dsimp only);rw[Nat.pow_succ];omega)⟩ (by omega)
 refine xt<|tx<|tx<|bx<|tn<|go<|Pl 3<|L0<|dv (m:=1) (e:=5) #[.int .u8 (c%256)] fun a5 a6 S T q=>?_
 have U:=dK S (xs:=[(c%256)]) (by as_aux_lemma=>kernel_rfl) (az (by omega) aZ) (by(try simp only[List.length_cons,List.length_nil]);omega) T
 refine L0<|cQ bB (xs:=L) (ys:=([(c%256)])) (.int .u8 0) 1 (ax g (aI a q) (fun x hx=>ay) (fun _ _ h=>h)) (U).rd (by(try simp only[List.length_append,List.length_cons,List.length_nil,aC]);omega) (le (le f.size a.size) q.size) fun V W a7 X Y=>Pl 1<|nl<|bn<|tn<|go<|Pl 1<|L0<|Oi (((8*j:Nat) : Int)+8)<|Pl 1<|nl<|?_
 exact gf ((j+1),(L++[(c%256)]),V,W) ⟨(ut y (ut (aE.mono (S':=(ob B++[])) q aq) Y (au il aq)) (au (aV g lr) aq)),X,(by(try dsimp only);omega),(by(try dsimp only);rw[k,List.range_succ,List.map_append];show _++[_]=_++[_];rw[pn I (by omega) (by have hq:=d;simp only[Bool.and_eq_false_iff,decide_eq_false_iff_not] at hq;omega)])⟩ (by omega)
 have E:=of_decide_eq_false n
 refine xt<|tx<|tx<|bx<|tn<|sg<|Pl 2<|nt<|rt<|rr (.slice B L.length cq)<|?_
 have hs:L=cF l:=by rw[k];exact ou (by omega) (by omega)
 exact⟨_,rfl,by rw[← hs];exact g,f⟩
theorem t4{m:Md}{v:Value}{l:List Bool}{w:World}(h:fP m w v l)(hn:l.length≤1048576) : Calls Tryz.prog 216 #[v] w (pj l w):=by
  obtain⟨A,c,rfl,_,_⟩:=h.shape
  exact sH h hn
theorem p2{P:Program}{w:World}{ev:Operand→Value}{o:Oper}{x y:Operand}{t t':TypeId}{a b:ByteArray}{v:Bool}(ho:o.op = .binOp .neq t x y t')(hx:ev x = .string a)(hy:ev y = .string b)(hv:(a.toList==b.toList)=v) : (execOp ev o).run P w = .ok (.value (.bool !v)) w:=by
  have hg:eqGuard .neq t x y (.string a) (.string b)=pure ():=rfl
  unfold execOp
  simp only[ho,hx,hy,hg,binOp_string_neq,Sem.run_bind,Sem.run_pure,Result.andThen,hv]
theorem uf{w0 w:World}{g:Nat}{cs:Array Value}{xs:List Bool}(hg:w0.heap.size≤g)(hcs:cs=(xs.map Value.bool).toArray)(hl:xs.length≤4194304)(hb:w.heap[g]? = some (.cells cs 4 (0,0))) :
    rK w0.heap.size w (.slice (some ⟨g,0,none⟩) xs.length xs.length) xs:=sU (enc:=Value.bool) hg hcs (fun x h=>rfl) hl hb
theorem og{x c:Int}{k:Nat}(h:c=x/2 ^ k) : c/2=x/2 ^ (k+1):=by
  rw[h,Int.ediv_ediv_of_nonneg (Int.le_of_lt (Int.pow_pos (by decide))),Int.pow_succ]
theorem pV{x c:Int}(hx:0≤x∧x<256){k:Nat}(h:c=x/2 ^ k) : 0≤c∧c<256:=by
  have h1:(1:Int)≤2 ^ k:=Int.pow_pos (by decide)
  subst h
  exact⟨Int.ediv_nonneg hx.1 (by omega),Int.lt_of_le_of_lt (Int.ediv_le_self _ hx.1) hx.2⟩
theorem oo{l:List Int}{i:Nat}(h:i<l.length) : l.getD i 0∈l:=by
  rw[List.getD_eq_getElem?_getD,List.getElem?_eq_getElem h]
  exact List.getElem_mem h
theorem qq{m:Md}{A:Option Addr}{cp:Nat}{b:List Int}{n:Int}{w:World}(h:bi m w (.slice A b.length cp) b)(hl:b.length≤1048576)(hn : -1048576≤n∧n≤1048576) : Calls Tryz.prog 156 #[.slice A b.length cp,.int .i64 n] w (f8 b n w):=by
 have hb:=bi.range h
 refine en 51 Tryz.func156 rfl<|sg<|Pl 2<|nt<|sq<|sg<|Pl 3<|cu 6 [12] 18 (((decide (n<0))||(decide ((8*((b.length:Nat) : Int))<n)))) (fun K H=>?_) ?_
 refine bl 12 ((decide (n<0))) (fun d=>?_) (fun d=>?_)
 have R:=of_decide_eq_true d
 exact Pl 6<|ce H true (by rw[d];rfl)
 have R:=of_decide_eq_false d
 exact Pl 3<|L1<|Oi (8*((b.length:Nat) : Int))<|Pl 2<|ce H (decide ((8*((b.length:Nat) : Int))<n)) (by rw[d];rfl)
 refine nt<|cb (((decide (n<0))||(decide ((8*((b.length:Nat) : Int))<n)))) (fun g=>?_) (fun g=>?_)
 refine sg<|Pl 2<|nt<|rt<|tr<|rr (.tuple #[.slice none 0 0,.bool false])<|?_
 have hq:=g
 have hs:bX b n=none:=by unfold bX;rw[if_neg];rintro⟨h1,h2⟩;simp only[Bool.or_eq_true,decide_eq_true_eq] at hq;rw[kB] at h2;split at h2<;>(try split at h2)<;>omega
 exact ew hs (aE.refl [] _)
 have S:=(aJ g).1
 have T:=(aJ g).2
 have ae:=of_decide_eq_false S
 have af:=of_decide_eq_false T
 refine bz<|sg<|Pl 1<|nt<|sq<|sg<|Pl 1<|nt<|bk<|?_
 refine jc (fun x=>[(0,.slice A b.length cp),(1,.int .i64 n),(4,.slice none 0 0),(5,.bool false),(6,.slice x.2.2.1 x.2.1.length x.2.2.2),(7,.int .i64 ((x.1:Nat) : Int))]) (fun(x:Nat × List Bool × Option Addr × Nat) w'=>aE [] w w'∧rK w.heap.size w' (.slice x.2.2.1 x.2.1.length x.2.2.2) x.2.1∧(((x.1:Nat) : Int)≤n)∧(x.2.1=(List.range x.1).map (cv b))) (fun x=>n.toNat-x.1) (0,[],none,0) ⟨aE.refl _ _,(bf.nil w.heap.size _ _ lv _),(by(try dsimp only);omega),rfl⟩ ?_
 rintro⟨i,L,B,cq⟩ I ⟨j,U,V,W⟩
 refine jf [(0,.slice A b.length cp),(1,.int .i64 n),(4,.slice none 0 0),(5,.bool false),(6,.slice B L.length cq),(7,.int .i64 ((i:Nat) : Int))] ?_
 have r:rK w.heap.size I (.slice B L.length cq) L:=U
 have ag:((i:Nat) : Int)≤n:=V
 have o:L=(List.range i).map (cv b):=W
 have hLn:L.length=i:=by rw[o,List.length_map,List.length_range]
 have hi8:(((i:Nat) : Int)/8).toNat=i/8:=by omega
 refine sq<|sg<|Pl 3<|nt<|cb ((decide (((i:Nat) : Int)<n))) (fun s=>?_) (fun s=>?_)
 have X:=of_decide_eq_true s
 refine bz<|sq<|bk<|sg<|Pl 2<|L0<|Oe (.int .i64 (IntKind.i64.wrap (Int.tdiv ((i:Nat) : Int) 8))) (.int .i64 (((i:Nat) : Int)/8)) (congrArg (Value.int .i64) (eY (by omega) (by omega)))<|?_
 refine fM (bi.at_ (bi.old h j) (((((i:Nat) : Int)/8)).toNat) (by omega)) fun t u Y Z ah=>L0<|t5 b.length (((((i:Nat) : Int)/8)).toNat) (((i:Nat) : Int)/8) (by omega) Y (by omega)<|L0<|ec (p:=⟨t,u+(((((i:Nat) : Int)/8)).toNat),none⟩) (v:=.int .u8 (b.getD (((((i:Nat) : Int)/8)).toNat) 0)) Z<|L0<|Oi (b.getD (((((i:Nat) : Int)/8)).toNat) 0)<|Pl 1<|nt<|sq<|sg<|Pl 1<|nt<|bk<|?_
 refine jc (fun x=>[(0,.slice A b.length cp),(1,.int .i64 n),(4,.slice none 0 0),(5,.bool false),(6,.slice B L.length cq),(7,.int .i64 ((i:Nat) : Int)),(8,.int .i64 x.2),(9,.int .i64 ((x.1:Nat) : Int)),(19,.int .i64 ((i:Nat) : Int)),(20,.int .i64 n),(21,.bool (decide (((i:Nat) : Int)<n))),(24,.slice A b.length cp),(25,.int .i64 ((i:Nat) : Int)),(26,.int .i64 (((i:Nat) : Int)/8)),(27,.pointer (some (⟨t,u+(((((i:Nat) : Int)/8)).toNat),none⟩))),(28,.int .u8 (b.getD (((((i:Nat) : Int)/8)).toNat) 0)),(29,.int .i64 (b.getD (((((i:Nat) : Int)/8)).toNat) 0))]) (fun(x:Nat × Int) w'=>aE [] I w'∧(x.1≤i%8)∧(x.2=b.getD (i/8) 0/2 ^ x.1)) (fun x=>8-x.1) (0,(b.getD (((((i:Nat) : Int)/8)).toNat) 0)) ⟨aE.refl _ _,(by(try dsimp only);omega),(by(try dsimp only);rw[hi8,Int.pow_zero,Int.ediv_one])⟩ ?_
 rintro⟨k,c⟩ ai ⟨q,a0,a1⟩
 refine jf [(0,.slice A b.length cp),(1,.int .i64 n),(4,.slice none 0 0),(5,.bool false),(6,.slice B L.length cq),(7,.int .i64 ((i:Nat) : Int)),(8,.int .i64 c),(9,.int .i64 ((k:Nat) : Int)),(19,.int .i64 ((i:Nat) : Int)),(20,.int .i64 n),(21,.bool (decide (((i:Nat) : Int)<n))),(24,.slice A b.length cp),(25,.int .i64 ((i:Nat) : Int)),(26,.int .i64 (((i:Nat) : Int)/8)),(27,.pointer (some (⟨t,u+(((((i:Nat) : Int)/8)).toNat),none⟩))),(28,.int .u8 (b.getD (((((i:Nat) : Int)/8)).toNat) 0)),(29,.int .i64 (b.getD (((((i:Nat) : Int)/8)).toNat) 0))] ?_
 have aj:k≤i%8:=a0
 have y:c=b.getD (i/8) 0/2 ^ k:=a1
 have hcr:=pV (hb _ (oo (l:=b) (i:=i/8) (by omega))) y
 refine sq<|sg<|Pl 2<|L0<|Oe (.int .i64 (Int.tmod ((i:Nat) : Int) 8)) (.int .i64 (((i:Nat) : Int)%8)) (congrArg (Value.int .i64) (Int.tmod_eq_emod_of_nonneg (by omega)))<|Pl 1<|nt<|?_
 refine cb ((decide (((k:Nat) : Int)<(((i:Nat) : Int)%8)))) (fun z=>?_) (fun z=>?_)
 have a2:=of_decide_eq_true z
 refine bz<|sq<|bk<|go<|Pl 1<|L0<|Oe (.int .i64 (IntKind.i64.wrap (Int.tdiv c 2))) (.int .i64 (c/2)) (congrArg (Value.int .i64) (eY (by omega) (by omega)))<|Pl 1<|nl<|bn<|tn<|go<|Pl 1<|L0<|Oi (((k:Nat) : Int)+1)<|?_
 exact Pl 1<|nl<|gf ((k+1),(c/2)) ⟨q,(by(try dsimp only);omega),og y⟩ (by omega)
 have a2:=of_decide_eq_false z
 refine xt<|tx<|tx<|bx<|tn<|go<|Pl 2<|L0<|Oe (.int .i64 (Int.tmod c 2)) (.int .i64 (c%2)) (congrArg (Value.int .i64) (Int.tmod_eq_emod_of_nonneg (by omega)))<|Pl 1<|L0<|dv (m:=1) (e:=4) #[.bool ((c%2)==1)] fun ak al a3 a4 C=>?_
 have a5:=uf a3 (xs:=[((c%2)==1)]) (by as_aux_lemma=>kernel_rfl)  (by(try simp only[List.length_cons,List.length_nil]);omega) a4
 refine L0<|cQ pO (xs:=L) (ys:=([((c%2)==1)])) (.bool false) 1 (ax r (aI q C) (fun x hx=>ay) (fun _ _ h=>h)) (a5).rd (by(try simp only[List.length_append,List.length_cons,List.length_nil,aC]);omega) (le (le j.size q.size) C.size) fun a6 a7 am a8 a9=>Pl 1<|nl<|bn<|tn<|go<|Pl 1<|L0<|Oi (((i:Nat) : Int)+1)<|Pl 1<|nl<|?_
 exact gf ((i+1),(L++[((c%2)==1)]),a6,a7) ⟨(ut (aI j q) (ut (aE.mono (S':=(ob B++[])) C aq) a9 (au il aq)) (au (aV r lr) aq)),a8,(by(try dsimp only);omega),(by(try dsimp only);rw[o,List.range_succ,List.map_append];show _++[_]=_++[cv b i];unfold cv;rw[y,show k=i%8 from by omega])⟩ (by omega)
 have X:=of_decide_eq_false s
 refine xt<|tx<|tx<|bx<|tn<|sq<|sq<|Rg 6 (fun w'=>bi false w' (.slice A b.length cp) b) fun an J=>?_
 have M:=aI j J
 have D:=bi.old h M
 refine bh (aK.any D (fun _ _ h=>h)) fun E=>Rt 0 E<|Rt 3 E<|Rr 4 E (.string (strOfNums b)) (fun _ hs=>eq (A:=A) (n:=b.length) (c:=cp) rfl (by kernel_rfl) Tryz.underlying22 Tryz.underlying5 Tryz.underlying9 hs)<|?_
 have N:=ax r J (fun x hx=>ay) (fun _ _ h=>h)
 refine R0 1 rfl<|Oc<|ef (t4 (N).rd (by omega)) fun aa ab ao O ap ar F=>?_
 have P:=bi.old D F
 refine bh (aK.any P (fun _ _ h=>h)) fun av=>R0 2 rfl<|mg (.string (strOfNums (cF L))) (eq (A:=aa) (n:=(cF L).length) (c:=ab) rfl (by kernel_rfl) Tryz.underlying22 Tryz.underlying5 Tryz.underlying9 (O).rd)<|bh (aK.any P (fun _ _ h=>h)) fun ac=>Rr 5 ac (.bool (!(decide ((cF L)=b)))) (fun _ _=>p2 (a:=(strOfNums (cF L))) (b:=(strOfNums b)) rfl (by kernel_rfl) (by kernel_rfl) (mQ (O).rd D))<|re<|tn<|?_
 have Q:=aI M F
 refine cb ((!(decide ((cF L)=b)))) (fun f=>?_) (fun f=>?_)
 have G:(decide ((cF L)=b))=false:=by simpa using f
 have ad:=of_decide_eq_false G
 refine sg<|Pl 2<|nt<|rt<|tr<|rr (.tuple #[.slice none 0 0,.bool false])<|?_
 have hL:L=(List.range n.toNat).map (cv b):=by rw[o,show i=n.toNat from by omega]
 have hu:=m8 (n:=n) hb (by omega)
 rw[if_neg (by rw[← hL];simpa using f)] at hu
 exact ew hu Q
 have G:(decide ((cF L)=b))=true:=by simpa using f
 have ad:=of_decide_eq_true G
 refine bz<|sg<|Pl 3<|nt<|rt<|rr (.tuple #[.slice B L.length cq,.bool true])<|?_
 have hL:L=(List.range n.toNat).map (cv b):=by rw[o,show i=n.toNat from by omega]
 have hu:=m8 (n:=n) hb (by omega)
 rw[if_pos (by rw[← hL];simpa using f),← hL] at hu
 exact⟨_,by rw[hu];rfl,by rw[hu];exact(ax N F (fun x hx=>ay) (fun _ _ h=>h)),Q⟩
theorem qJ{m:Md}{v:Value}{b:List Int}{n:Int}{w:World}(h:bi m w v b)(hl:b.length≤1048576)(hn : -1048576≤n∧n≤1048576) : Calls Tryz.prog 156 #[v,.int .i64 n] w (f8 b n w):=by
  obtain⟨A,c,rfl,_,_⟩:=h.shape
  exact qq h hl hn
open Go.RowKit
def rv (w0:World)(m:Md)(A:Option Addr)(cp:Nat)(full:List Int)(g gm:Nat)(C':aa)(cs:Array Value)(w:World)(e:Ending)(w':World) : Prop:=e = .returned (.tuple #[])∧RC w0 m A cp full w' g C'∧w'.heap[gm]? = some (.cells cs 30 (0,0))∧aE [g,gm] w w'
theorem kM{w0:World}{m:Md}{A:Option Addr}{cp:Nat}{full:List Int}{w:World}{g gm:Nat}{c:Int}{C:aa}{most:Int}(hcode:B8 c)(hC:RC w0 m A cp full w g C)(hm:w.heap[gm]? = some (.cells (mC c) 30 (0,0)))(hgm:w0.heap.size≤gm)(hne:g≠gm) :
    Calls Tryz.prog 150 #[.pointer (some ⟨g,0,none⟩),.pointer (some ⟨gm,0,none⟩),.int .i64 most] w (rv w0 m A cp full g gm (bp C most) (mG c 0 C.wordV (C.wordsC 1).wordV 0 0 0 0 0 0 0 0 nS nS nS nS 0 0 0 0 0 nS) w):=by
 obtain⟨hcode1,hcode2⟩:=hcode
 have hrng:=bR (RC.rng hC)
 refine en 39 Tryz.func150 rfl<|sg<|Pl 2<|L0<|Oc<|m3 (cK hC) fun G t e H=>Pl 2<|?_
 refine L0<|bU (aT e (Ne.symm hne) hm) 2 (mG c 0 C.wordV 0 0 0 0 0 0 0 0 0 nS nS nS nS 0 0 0 0 0 nS) fun I dx f=>ng<|Pl 2<|?_
 have h:=us e f
 refine L0<|Oc<|m3 (cK (RC.upd t f (ae hne ay) (hC.u.trans' h (fun x hx=>.inr (by simp at hx;rcases hx with rfl | rfl;exact hC.new;exact hgm))))) fun J v i L=>Pl 2<|?_
 refine L0<|bU (aT i (Ne.symm hne) dx) 3 (mG c 0 C.wordV ((C.wordsC 1).wordV) 0 0 0 0 0 0 0 0 nS nS nS nS 0 0 0 0 0 nS) fun M j k=>ng<|Pl 3<|L0<|aR j 3<|L0<|Oi ((C.wordsC 1).wordV)<|Pl 1<|ng<|Pl 4<|cu 4 [25] 29 (((decide (0<((C.wordsC 1).wordV)))&&(decide (((C.wordsC 1).wordV)≤most)))) (fun K l=>?_) ?_
 refine bl 25 ((decide (0<((C.wordsC 1).wordV)))) (fun b=>?_) (fun b=>?_)
 have y:=of_decide_eq_true b
 exact Pl 4<|ce l (decide (((C.wordsC 1).wordV)≤most)) (by rw[b];rfl)
 have y:=of_decide_eq_false b
 exact Pl 4<|ce l false (by rw[b];rfl)
 have o:=ut h (us i k) (ac im (ac im aq))
 refine L0<|Oc<|m2 (aU (((decide (0<((C.wordsC 1).wordV)))&&(decide (((C.wordsC 1).wordV)≤most)))) 5 (RC.upd v k (ae hne ay) (hC.u.trans' o (fun x hx=>.inr (by simp at hx;rcases hx with rfl | rfl;exact hC.new;exact hgm))))) fun z B p=>?_
 refine eX B fun x36 D q=>?_
 refine nt<|go<|Pl 4<|?_
 have r:=aT p (Ne.symm hne) j
 refine L0<|aR r 2<|Pl 1<|L0<|Oc<|m1 (nk (a:=C.wordV) (n:=(C.wordsC 1).wordV) (w:=z) (by omega) (by omega)) fun N d=>?_
 refine L0<|Oc<|m2 (aU ((dc C.wordV ((C.wordsC 1).wordV))) 7 (RC.upd q d ay (aE.step (RC.u q) d))) fun O E F=>nl<|rm (.tuple #[])<|?_
 subst D
 have hs:bp C most=((((C.wordsC 1).wordsC 1).need ((decide (0<((C.wordsC 1).wordV)))&&(decide (((C.wordsC 1).wordV)≤most))) 5).need (dc C.wordV ((C.wordsC 1).wordV)) 7):=by
   unfold bp gW
   (try simp only[bs,if_true,if_false,decide_true,decide_false,dg,reduceIte])
   all_goals rfl
 rw[hs]
 have s:=uz d F
 exact⟨rfl,E,(aT s (Ne.symm hne) r),(u1 o (u1 p s im) im)⟩
theorem iC{m:Md}{A:Option Addr}{cp:Nat}{b:List Int}{w:World}{c:Int}(hcode:B8 c)(hsl:bi m w (.slice A b.length cp) b)(hb:b.length≤1048576) :
    Calls Tryz.prog 93 #[.int .i64 0,.int .u8 c,.slice A b.length cp] w (d7 (.slice A b.length cp) b (ag aD 0 c b) w):=by
 obtain⟨hcode1,hcode2⟩:=hcode
 have hln:(b.length:Int)≤1048576:=by omega
 refine en 113 Tryz.func93 rfl<|sg<|L0<|bK mZ fun aW d2 r i f=>Pl 1<|nt<|sq<|sg<|Pl 6<|nt<|c0<|?_
 refine bz<|sg<|Pl 2<|L0<|du #[.slice A b.length cp,.int .i64 0,.bool false,.int .i64 0] fun j d3 a l g=>Pl 1<|ng<|Pl 2<|L0<|bK mZ fun ab d4 d ad J=>L0<|b7 ad (mC c) fun a0 a1 E=>?_
 refine nt<|sq<|sg<|Pl 1<|nt<|bk<|sq<|sg<|Pl 2<|nl<|?_
 refine tn<|?_
 have L:=ud J E d
 have o:=aI g L
 have s:=aI f o
 refine cb ((c==1)) (fun k=>?_) (fun k=>?_)
 have c3:=am k
 refine bz<|ct k<|sq<|sg<|Pl 2<|nt<|c1<|sg<|Pl 1<|?_
 have af:RC w _ A cp b a0 j (aa.mk b false 0):=⟨hsl,s,(Nat.le_trans f.size a),⟨0,(ub L l),Nat.zero_le _,rfl⟩,by omega⟩
 have aX:=nb (ak l) lr d
 refine L0<|Oc<|m3 (kM (most:=2000) (b8 (by omega)) af a1 (Nat.le_trans (le f.size g.size) d) aX) fun d5 c4 c5 c6=>?_
 have d8:=bR (RC.rng af)
 have d9:=bR (c:=(aa.mk b false 0).wordsC 1) (cG (RC.rng af) 1)
 refine nt<|xt<|tx<|bx<|tn<|sg<|Pl 1<|L0<|Oc<|m2 (dR c4) fun da aj aY=>nt<|sq<|sq<|?_
 refine go<|Pl 3<|L0<|ec (p:=⟨j,3,none⟩) (v:=.int .i64 (((bp (aa.mk b false 0) 2000).endC).e)) (RC.fld aj)<|Pl 1<|nt<|?_
 have al:=u1 c6 aY im
 have aZ:=ut s al (ac (ni f.size a) (ac (ni (le f.size g.size) d) aq))
 refine cb (((((bp (aa.mk b false 0) 2000).endC).e)!=0)) (fun M=>?_) (fun M=>?_)
 have an:=av M
 refine sq<|Rg 7 (fun w'=>w'.cell? ⟨j,3,none⟩=some (.int .i64 (((bp (aa.mk b false 0) 2000).endC).e))) fun dc a2=>?_
 have b0:=RC.upd aj a2 ay (aE.step (RC.u aj) a2)
 refine bh (RC.fld b0) fun N=>Rt 0 N<|Rt 1 N<|Rt 2 N<|Rt 3 N<|Rl 4 N (fun _ hs=>hs)<|?_
 refine R0 5 rfl<|b7 (ub (ut o (aI al a2) (ac (nr a) (ac (ni g.size d) aq))) i) mZ fun dd c7 b1=>?_
 have b2:=ud aZ (uz a2 b1) r
 refine bh (RC.fld (RC.upd b0 b1 (ae (Ne.symm (nb (ak i) lr a)) ay) b2)) fun c8=>Rt 6 c8<|re<|tn<|rt<|tr<|bL c7 (.int .i64 (((bp (aa.mk b false 0) 2000).endC).e))<|?_
 have hs:ag aD 0 c b=aF (aP.mk c 0 ((aa.mk b false 0).wordV) (((aa.mk b false 0).wordsC 1).wordV) 0 0 0 0 0 0 0 0 [] [] [] [] 0 0 0 0 0 []) (bp (aa.mk b false 0) 2000):=by
   unfold ag aD cD co cj e8 jg eV je iM iB d6 dE
   (try simp only[k,M,bs,if_true,if_false,decide_true,decide_false,eq_self,true_or,or_true,or_false,false_or,if_true,if_false,ch,cc,cg,ci,reduceIte,dg])
   all_goals rfl
 rw[hs]
 exact bg an b2
 have an:=ai M
 refine bz<|sg<|?_
 refine L0<|bZ (aT aY (Ne.symm aX) c5)<|?_
 refine L0<|b7 (ub (ut o al (ac (nr a) (ac (ni g.size d) aq))) i) (mG c 0 ((aa.mk b false 0).wordV) (((aa.mk b false 0).wordsC 1).wordV) 0 0 0 0 0 0 0 0 nS nS nS nS 0 0 0 0 0 nS) fun de c9 ca=>Pl 1<|nt<|rt<|bL c9 (.int .i64 0)<|?_
 have hs:ag aD 0 c b=aF (aP.mk c 0 ((aa.mk b false 0).wordV) (((aa.mk b false 0).wordsC 1).wordV) 0 0 0 0 0 0 0 0 [] [] [] [] 0 0 0 0 0 []) (bp (aa.mk b false 0) 2000):=by
   unfold ag aD cD co cj e8 jg eV je iM iB d6 dE
   (try simp only[k,M,bs,if_true,if_false,decide_true,decide_false,eq_self,true_or,or_true,or_false,false_or,if_true,if_false,ch,cc,cg,ci,reduceIte,dg])
   all_goals rfl
 rw[hs]
 exact bo an ⟨_,_,_,_,_,rfl,aK.nil ..,aK.nil ..,(fun _ _ _=>aK.nil ..),aK.nil ..,aK.nil ..,⟨(b8 (x:=c) (by omega)),(b8 (x:=0) (by omega)),(aB (x:=(aa.mk b false 0).wordV) (by omega)),(aB (x:=((aa.mk b false 0).wordsC 1).wordV) (by omega)),(aB (x:=0) (by omega)),(aB (x:=0) (by omega)),(aB (x:=0) (by omega)),(aB (x:=0) (by omega)),(aB (x:=0) (by omega)),(aB (x:=0) (by omega)),(aB (x:=0) (by omega)),(aB (x:=0) (by omega)),(b8 (x:=0) (by omega)),(b8 (x:=0) (by omega)),(b8 (x:=0) (by omega)),(b8 (x:=0) (by omega)),(b8 (x:=0) (by omega))⟩⟩ (ud aZ ca r)
 have c3:=ap k
 refine go<|Pl 2<|nt<|cb ((c==2)) (fun q=>?_) (fun q=>?_)
 have cd:=am q
 refine sq<|sg<|Pl 2<|nt<|c1<|sg<|Pl 1<|?_
 have ao:RC w _ A cp b a0 j (aa.mk b false 0):=⟨hsl,s,(Nat.le_trans f.size a),⟨0,(ub L l),Nat.zero_le _,rfl⟩,by omega⟩
 have b3:=nb (ak l) lr d
 refine L0<|Oc<|m3 (kM (most:=2000) (b8 (by omega)) ao a1 (Nat.le_trans (le f.size g.size) d) b3) fun df cf ck cl=>?_
 have dh:=bR (RC.rng ao)
 have di:=bR (c:=(aa.mk b false 0).wordsC 1) (cG (RC.rng ao) 1)
 refine nt<|xt<|tx<|bx<|tn<|sg<|Pl 1<|L0<|Oc<|m2 (dR cf) fun dj ar b4=>nt<|sq<|sq<|?_
 refine go<|Pl 3<|L0<|ec (p:=⟨j,3,none⟩) (v:=.int .i64 (((bp (aa.mk b false 0) 2000).endC).e)) (RC.fld ar)<|Pl 1<|nt<|?_
 have au:=u1 cl b4 im
 have b5:=ut s au (ac (ni f.size a) (ac (ni (le f.size g.size) d) aq))
 refine cb (((((bp (aa.mk b false 0) 2000).endC).e)!=0)) (fun O=>?_) (fun O=>?_)
 have aw:=av O
 refine sq<|Rg 7 (fun w'=>w'.cell? ⟨j,3,none⟩=some (.int .i64 (((bp (aa.mk b false 0) 2000).endC).e))) fun dk a3=>?_
 have b6:=RC.upd ar a3 ay (aE.step (RC.u ar) a3)
 refine bh (RC.fld b6) fun P=>Rt 0 P<|Rt 1 P<|Rt 2 P<|Rt 3 P<|Rl 4 P (fun _ hs=>hs)<|?_
 refine R0 5 rfl<|b7 (ub (ut o (aI au a3) (ac (nr a) (ac (ni g.size d) aq))) i) mZ fun dl cm b9=>?_
 have ba:=ud b5 (uz a3 b9) r
 refine bh (RC.fld (RC.upd b6 b9 (ae (Ne.symm (nb (ak i) lr a)) ay) ba)) fun cn=>Rt 6 cn<|re<|tn<|rt<|tr<|bL cm (.int .i64 (((bp (aa.mk b false 0) 2000).endC).e))<|?_
 have hs:ag aD 0 c b=aF (aP.mk c 0 ((aa.mk b false 0).wordV) (((aa.mk b false 0).wordsC 1).wordV) 0 0 0 0 0 0 0 0 [] [] [] [] 0 0 0 0 0 []) (bp (aa.mk b false 0) 2000):=by
   unfold ag aD cD co cj e8 jg eV je iM iB d6 dE
   (try simp only[k,q,O,bs,if_true,if_false,decide_true,decide_false,eq_self,true_or,or_true,or_false,false_or,if_true,if_false,ch,cc,cg,ci,reduceIte,dg])
   all_goals rfl
 rw[hs]
 exact bg aw ba
 have aw:=ai O
 refine bz<|sg<|?_
 refine L0<|bZ (aT b4 (Ne.symm b3) ck)<|?_
 refine L0<|b7 (ub (ut o au (ac (nr a) (ac (ni g.size d) aq))) i) (mG c 0 ((aa.mk b false 0).wordV) (((aa.mk b false 0).wordsC 1).wordV) 0 0 0 0 0 0 0 0 nS nS nS nS 0 0 0 0 0 nS) fun dm cq cr=>Pl 1<|nt<|rt<|bL cq (.int .i64 0)<|?_
 have hs:ag aD 0 c b=aF (aP.mk c 0 ((aa.mk b false 0).wordV) (((aa.mk b false 0).wordsC 1).wordV) 0 0 0 0 0 0 0 0 [] [] [] [] 0 0 0 0 0 []) (bp (aa.mk b false 0) 2000):=by
   unfold ag aD cD co cj e8 jg eV je iM iB d6 dE
   (try simp only[k,q,O,bs,if_true,if_false,decide_true,decide_false,eq_self,true_or,or_true,or_false,false_or,if_true,if_false,ch,cc,cg,ci,reduceIte,dg])
   all_goals rfl
 rw[hs]
 exact bo aw ⟨_,_,_,_,_,rfl,aK.nil ..,aK.nil ..,(fun _ _ _=>aK.nil ..),aK.nil ..,aK.nil ..,⟨(b8 (x:=c) (by omega)),(b8 (x:=0) (by omega)),(aB (x:=(aa.mk b false 0).wordV) (by omega)),(aB (x:=((aa.mk b false 0).wordsC 1).wordV) (by omega)),(aB (x:=0) (by omega)),(aB (x:=0) (by omega)),(aB (x:=0) (by omega)),(aB (x:=0) (by omega)),(aB (x:=0) (by omega)),(aB (x:=0) (by omega)),(aB (x:=0) (by omega)),(aB (x:=0) (by omega)),(b8 (x:=0) (by omega)),(b8 (x:=0) (by omega)),(b8 (x:=0) (by omega)),(b8 (x:=0) (by omega)),(b8 (x:=0) (by omega))⟩⟩ (ud b5 cr r)
 have cd:=ap q
 refine sg<|Pl 2<|nt<|cb ((c==5)) (fun z=>?_) (fun z=>?_)
 have cs:=am z
 refine sg<|Pl 1<|?_
 have cv:RC w _ A cp b a0 j (aa.mk b false 0):=⟨hsl,s,(Nat.le_trans f.size a),⟨0,(ub L l),Nat.zero_le _,rfl⟩,by omega⟩
 refine L0<|Oc<|m3 (cK cv) fun dn cw bb dp=>Pl 1<|?_
 have Q:=nb (ak l) lr d
 refine L0<|bU (aT bb (Ne.symm Q) a1) 2 (mG c 0 ((aa.mk b false 0).wordV) 0 0 0 0 0 0 0 0 0 nS nS nS nS 0 0 0 0 0 nS) fun dq cx bc=>ng<|Pl 1<|?_
 have az:=us bb bc
 have bd:=ut s az (ac (ni f.size a) (ac (ni (le f.size g.size) d) aq))
 refine L0<|Oc<|m3 (cK (RC.upd cw bc (ae Q ay) bd)) fun dr cy be ds=>Pl 1<|?_
 refine L0<|bU (aT be (Ne.symm Q) cx) 4 (mG c 0 ((aa.mk b false 0).wordV) 0 (((aa.mk b false 0).wordsC 1).wordV) 0 0 0 0 0 0 0 nS nS nS nS 0 0 0 0 0 nS) fun dt aC bf=>nt<|go<|Pl 2<|L0<|aR aC 4<|Pl 2<|cu 4 [62] 66 ((((((aa.mk b false 0).wordsC 1).wordV)==0)||((((aa.mk b false 0).wordsC 1).wordV)==65280))) (fun K bj=>?_) ?_
 refine bl 62 (((((aa.mk b false 0).wordsC 1).wordV)==0)) (fun R=>?_) (fun R=>?_)
 have cz:=am R
 exact Pl 4<|ce bj true (by rw[R];rfl)
 have cz:=ap R
 exact Pl 1<|L1<|aR aC 4<|Pl 2<|ce bj ((((aa.mk b false 0).wordsC 1).wordV)==65280) (by rw[R];rfl)
 have aG:=us be bf
 have bm:=ut bd aG (ac (ni f.size a) (ac (ni (le f.size g.size) d) aq))
 refine L0<|Oc<|m2 (aU ((((((aa.mk b false 0).wordsC 1).wordV)==0)||((((aa.mk b false 0).wordsC 1).wordV)==65280))) 6 (RC.upd cy bf (ae Q ay) bm)) fun dv cA cB=>?_
 refine eX cA fun a4 bq cC=>?_
 refine nl<|bn<|tn<|sg<|Pl 1<|L0<|Oc<|m2 (dR cC) fun dw aH cE=>nt<|sq<|sg<|Pl 3<|L0<|ec (p:=⟨j,3,none⟩) (v:=.int .i64 a4.endC.e) (RC.fld aH)<|?_
 refine Pl 1<|nt<|?_
 have a5:=u1 cB cE im
 have bt:=ud bm a5 (le f.size a)
 refine cb ((a4.endC.e != 0)) (fun S=>?_) (fun S=>?_)
 have aJ:=av S
 refine sq<|Rg 7 (fun w'=>w'.cell? ⟨j,3,none⟩=some (.int .i64 a4.endC.e)) fun dx a6=>?_
 have bv:=RC.upd aH a6 ay (aE.step (RC.u aH) a6)
 refine bh (RC.fld bv) fun T=>Rt 0 T<|Rt 1 T<|Rt 2 T<|Rt 3 T<|Rl 4 T (fun _ hs=>hs)<|?_
 refine R0 5 rfl<|b7 (ub (ut o (ut az (u1 aG (aI a5 a6) im) (ac im (ac im aq))) (ac (nr a) (ac (ni g.size d) aq))) i) mZ fun dy cF bw=>?_
 have bA:=ud bt (uz a6 bw) r
 refine bh (RC.fld (RC.upd bv bw (ae (Ne.symm (nb (ak i) lr a)) ay) bA)) fun cH=>Rt 6 cH<|re<|tn<|rt<|tr<|bL cF (.int .i64 a4.endC.e)<|?_
 subst bq
 have hs:ag aD 0 c b=aF (aP.mk c 0 ((aa.mk b false 0).wordV) 0 (((aa.mk b false 0).wordsC 1).wordV) 0 0 0 0 0 0 0 [] [] [] [] 0 0 0 0 0 []) ((((aa.mk b false 0).wordsC 1).wordsC 1).need (((((aa.mk b false 0).wordsC 1).wordV)==0)||((((aa.mk b false 0).wordsC 1).wordV)==65280)) 6):=by
   unfold ag aD cD co cj e8 jg eV je iM iB d6 dE
   (try simp only[k,q,z,S,bs,if_true,if_false,decide_true,decide_false,eq_self,true_or,or_true,or_false,false_or,if_true,if_false,ch,cc,cg,ci,reduceIte,dg])
   all_goals rfl
 rw[hs]
 exact bg aJ bA
 have aJ:=ai S
 refine bz<|sg<|?_
 refine L0<|bZ (aT a5 (Ne.symm Q) aC)<|?_
 refine L0<|b7 (ub (ut o (ut az (u1 aG a5 im) (ac im (ac im aq))) (ac (nr a) (ac (ni g.size d) aq))) i) (mG c 0 ((aa.mk b false 0).wordV) 0 (((aa.mk b false 0).wordsC 1).wordV) 0 0 0 0 0 0 0 nS nS nS nS 0 0 0 0 0 nS) fun dz cJ cL=>Pl 1<|nt<|rt<|bL cJ (.int .i64 0)<|?_
 subst bq
 have hs:ag aD 0 c b=aF (aP.mk c 0 ((aa.mk b false 0).wordV) 0 (((aa.mk b false 0).wordsC 1).wordV) 0 0 0 0 0 0 0 [] [] [] [] 0 0 0 0 0 []) ((((aa.mk b false 0).wordsC 1).wordsC 1).need (((((aa.mk b false 0).wordsC 1).wordV)==0)||((((aa.mk b false 0).wordsC 1).wordV)==65280)) 6):=by
   unfold ag aD cD co cj e8 jg eV je iM iB d6 dE
   (try simp only[k,q,z,S,bs,if_true,if_false,decide_true,decide_false,eq_self,true_or,or_true,or_false,false_or,if_true,if_false,ch,cc,cg,ci,reduceIte,dg])
   all_goals rfl
 rw[hs]
 exact bo aJ ⟨_,_,_,_,_,rfl,aK.nil ..,aK.nil ..,(fun _ _ _=>aK.nil ..),aK.nil ..,aK.nil ..,⟨(b8 (x:=c) (by omega)),(b8 (x:=0) (by omega)),(aB (x:=(aa.mk b false 0).wordV) (by omega)),(aB (x:=0) (by omega)),(aB (x:=((aa.mk b false 0).wordsC 1).wordV) (by omega)),(aB (x:=0) (by omega)),(aB (x:=0) (by omega)),(aB (x:=0) (by omega)),(aB (x:=0) (by omega)),(aB (x:=0) (by omega)),(aB (x:=0) (by omega)),(aB (x:=0) (by omega)),(b8 (x:=0) (by omega)),(b8 (x:=0) (by omega)),(b8 (x:=0) (by omega)),(b8 (x:=0) (by omega)),(b8 (x:=0) (by omega))⟩⟩ (ud bt cL r)
 have cs:=ap z
 refine sg<|Pl 2<|nt<|cb ((c==15)) (fun I=>?_) (fun I=>?_)
 have cM:=am I
 refine sg<|Pl 1<|?_
 have aL:RC w _ A cp b a0 j (aa.mk b false 0):=⟨hsl,s,(Nat.le_trans f.size a),⟨0,(ub L l),Nat.zero_le _,rfl⟩,by omega⟩
 have F:=nb (ak l) lr d
 refine L0<|Oc<|m3 (kM (most:=1968) (b8 (by omega)) aL a1 (Nat.le_trans (le f.size g.size) d) F) fun dA cN cO G=>?_
 have dC:=bR (RC.rng aL)
 have dD:=bR (c:=(aa.mk b false 0).wordsC 1) (cG (RC.rng aL) 1)
 refine nt<|sq<|sg<|Pl 2<|nt<|c0<|bz<|sg<|Pl 1<|L0<|Oc<|m3 (dB cN) fun cP bB B dF=>?_
 refine L0<|Oi ((bp (aa.mk b false 0) 1968).byteV)<|Pl 1<|ng<|Pl 3<|?_
 have bC:=aT B (Ne.symm F) cO
 refine L0<|aR bC 3<|L0<|Oi (((aa.mk b false 0).wordsC 1).wordV)<|L0<|Oc<|m1 (t7 (n:=((aa.mk b false 0).wordsC 1).wordV) (w:=cP) (by omega)) fun dG t=>Pl 1<|?_
 refine L0<|Oc<|m2 (aU ((((bp (aa.mk b false 0) 1968).byteV)==(db (((aa.mk b false 0).wordsC 1).wordV)))) 5 (RC.upd bB t ay (aE.step (RC.u bB) t))) fun dH cQ H=>?_
 refine eX cQ fun U bD bE=>?_
 refine nt<|sq<|Rg 12 (fun w'=>w'.cell? ⟨ab,3,none⟩=some (.int .u16 (((aa.mk b false 0).wordsC 1).wordV))) fun dI y=>?_
 have bF:=uz t (aI H y)
 have bG:=aT bF (Ne.symm F) bC
 refine bh (ah bG rfl) fun V=>Rt 0 V<|Rt 1 V<|Rt 3 V<|Rl 4 V (fun _ hs=>hs)<|Rr 5 V (.int .i64 (((aa.mk b false 0).wordsC 1).wordV)) (fun _ _=>cI (.int .i64 (IntKind.i64.wrap (((aa.mk b false 0).wordsC 1).wordV))) (by kernel_rfl) (congrArg (Value.int .i64) (i64_in (by omega))))<|?_
 have bH:=RC.upd bE y ay (aE.step (RC.u bE) y)
 refine R0 2 rfl<|Oc<|md (eQ (n:=(bp (aa.mk b false 0) 1968).byteV) (by omega) bH) fun cR cS dJ cT aM C=>?_
 have dK:=Nat.le_trans (aa.bytesR_le U ((bp (aa.mk b false 0) 1968).byteV)) (RC.clen bH)
 have bI:=aT C (Ne.symm F) bG
 refine bh (ah bI rfl) fun dL=>R0 6 rfl<|Oc (args:=#[.slice cR ((U.bytesR ((bp (aa.mk b false 0) 1968).byteV)).length) cS,.int .i64 (((aa.mk b false 0).wordsC 1).wordV)])<|ef (qJ (n:=((aa.mk b false 0).wordsC 1).wordV) (cT _ _ (RC.rd aM)) (by omega) (by omega)) fun bJ bM dM D dN dO a7=>?_
 have bN:=ub a7 bI
 refine bh (ah bN rfl) fun W=>Rt 7 W<|Rt 8 W<|Rt 9 W<|Rt 10 W<|Rt 11 W<|re<|tn<|sg<|Pl 2<|?_
 refine L0<|Oc<|m2 (aU ((bX (U.bytesR ((bp (aa.mk b false 0) 1968).byteV)) (((aa.mk b false 0).wordsC 1).wordV)).isSome) 6 (RC.upd aM a7 ay (aE.step (RC.u aM) a7))) fun dP cU bO=>?_
 refine eX cU fun a8 bP cV=>?_
 refine nt<|go<|Pl 2<|?_
 refine L0<|bU (aT bO (Ne.symm F) bN) 13 (mG c 0 ((aa.mk b false 0).wordV) (((aa.mk b false 0).wordsC 1).wordV) 0 0 0 0 0 0 0 0 nS (.slice bJ (((bX (U.bytesR ((bp (aa.mk b false 0) 1968).byteV)) (((aa.mk b false 0).wordsC 1).wordV)).getD []).length) bM) nS nS 0 0 0 0 0 nS) fun dQ cW bQ=>nl<|bn<|tn<|sg<|Pl 1<|?_
 have aN:=us bO bQ
 have aO:=ut G (ui B (ui bF (ui C (uz a7 aN)))) (ac im (ac im aq))
 have bS:=ut s aO (ac (ni f.size a) (ac (ni (le f.size g.size) d) aq))
 refine L0<|Oc<|m2 (dR (RC.upd cV bQ (ae F ay) bS)) fun dS aQ X=>nt<|sq<|sg<|Pl 3<|L0<|ec (p:=⟨j,3,none⟩) (v:=.int .i64 a8.endC.e) (RC.fld aQ)<|Pl 1<|nt<|?_
 have bT:=ud bS X (le f.size a)
 refine cb ((a8.endC.e != 0)) (fun Y=>?_) (fun Y=>?_)
 have aS:=av Y
 refine sq<|Rg 7 (fun w'=>w'.cell? ⟨j,3,none⟩=some (.int .i64 a8.endC.e)) fun dT a9=>?_
 have bV:=RC.upd aQ a9 ay (aE.step (RC.u aQ) a9)
 refine bh (RC.fld bV) fun Z=>Rt 0 Z<|Rt 1 Z<|Rt 2 Z<|Rt 3 Z<|Rl 4 Z (fun _ hs=>hs)<|?_
 have bW:=aI X a9
 refine R0 5 rfl<|b7 (ub (ut o (u1 aO bW im) (ac (nr a) (ac (ni g.size d) aq))) i) mZ fun dU cX aV=>?_
 have bY:=ud bT (uz a9 aV) r
 refine bh (RC.fld (RC.upd bV aV (ae (Ne.symm (nb (ak i) lr a)) ay) bY)) fun cY=>Rt 6 cY<|re<|tn<|rt<|tr<|bL cX (.int .i64 a8.endC.e)<|?_
 subst bP bD
 have dV:=ax D (ut (aE.mono (S':=[j,ab,aW]) aN (ac im (ac im aq))) (us bW aV) (ac im (ac im aq))) (fun x hx=>(ae (fun e=>(aA (ak l) (le (le (le (le (le (le (le J.size E.size) G.size) B.size) t.size) H.size) y.size) C.size) D) (e▸hx)) (ae (fun e=>(aA (ak ad) (le (le (le (le (le (le E.size G.size) B.size) t.size) H.size) y.size) C.size) D) (e▸hx)) (ae (fun e=>(aA (ak i) (le (le (le (le (le (le (le (le g.size J.size) E.size) G.size) B.size) t.size) H.size) y.size) C.size) D) (e▸hx)) ay)))) (fun _ _ h=>h)
 have hs:ag aD 0 c b=aF (aP.mk c 0 ((aa.mk b false 0).wordV) (((aa.mk b false 0).wordsC 1).wordV) 0 0 0 0 0 0 0 0 [] ((bX ((((bp (aa.mk b false 0) 1968).bytesC 1).need (((bp (aa.mk b false 0) 1968).byteV)==(db (((aa.mk b false 0).wordsC 1).wordV))) 5).bytesR ((bp (aa.mk b false 0) 1968).byteV)) (((aa.mk b false 0).wordsC 1).wordV)).getD []) [] [] 0 0 0 0 0 []) (((((bp (aa.mk b false 0) 1968).bytesC 1).need (((bp (aa.mk b false 0) 1968).byteV)==(db (((aa.mk b false 0).wordsC 1).wordV))) 5).bytesC ((bp (aa.mk b false 0) 1968).byteV)).need ((bX ((((bp (aa.mk b false 0) 1968).bytesC 1).need (((bp (aa.mk b false 0) 1968).byteV)==(db (((aa.mk b false 0).wordsC 1).wordV))) 5).bytesR ((bp (aa.mk b false 0) 1968).byteV)) (((aa.mk b false 0).wordsC 1).wordV)).isSome) 6):=by
   unfold ag aD cD co cj e8 jg eV je iM iB d6 dE
   (try simp only[k,q,z,I,Y,bs,if_true,if_false,decide_true,decide_false,eq_self,true_or,or_true,or_false,false_or,if_true,if_false,ch,cc,cg,ci,reduceIte,dg])
   all_goals rfl
 rw[hs]
 exact bg aS bY
 have aS:=ai Y
 refine bz<|sg<|?_
 refine L0<|bZ (aT X (Ne.symm F) cW)<|?_
 refine L0<|b7 (ub (ut o (u1 aO X im) (ac (nr a) (ac (ni g.size d) aq))) i) (mG c 0 ((aa.mk b false 0).wordV) (((aa.mk b false 0).wordsC 1).wordV) 0 0 0 0 0 0 0 0 nS (.slice bJ (((bX (U.bytesR ((bp (aa.mk b false 0) 1968).byteV)) (((aa.mk b false 0).wordsC 1).wordV)).getD []).length) bM) nS nS 0 0 0 0 0 nS) fun dW cZ c2=>Pl 1<|nt<|rt<|bL cZ (.int .i64 0)<|?_
 subst bP bD
 have hs:ag aD 0 c b=aF (aP.mk c 0 ((aa.mk b false 0).wordV) (((aa.mk b false 0).wordsC 1).wordV) 0 0 0 0 0 0 0 0 [] ((bX ((((bp (aa.mk b false 0) 1968).bytesC 1).need (((bp (aa.mk b false 0) 1968).byteV)==(db (((aa.mk b false 0).wordsC 1).wordV))) 5).bytesR ((bp (aa.mk b false 0) 1968).byteV)) (((aa.mk b false 0).wordsC 1).wordV)).getD []) [] [] 0 0 0 0 0 []) (((((bp (aa.mk b false 0) 1968).bytesC 1).need (((bp (aa.mk b false 0) 1968).byteV)==(db (((aa.mk b false 0).wordsC 1).wordV))) 5).bytesC ((bp (aa.mk b false 0) 1968).byteV)).need ((bX ((((bp (aa.mk b false 0) 1968).bytesC 1).need (((bp (aa.mk b false 0) 1968).byteV)==(db (((aa.mk b false 0).wordsC 1).wordV))) 5).bytesR ((bp (aa.mk b false 0) 1968).byteV)) (((aa.mk b false 0).wordsC 1).wordV)).isSome) 6):=by
   unfold ag aD cD co cj e8 jg eV je iM iB d6 dE
   (try simp only[k,q,z,I,Y,bs,if_true,if_false,decide_true,decide_false,eq_self,true_or,or_true,or_false,false_or,if_true,if_false,ch,cc,cg,ci,reduceIte,dg])
   all_goals rfl
 rw[hs]
 exact bo aS ⟨_,_,_,_,_,rfl,aK.nil ..,((ax D (ut (aE.mono (S':=[j,ab,aW]) aN (ac im (ac im aq))) (us X c2) (ac im (ac im aq))) (fun x hx=>(ae (fun e=>(aA (ak l) (le (le (le (le (le (le (le J.size E.size) G.size) B.size) t.size) H.size) y.size) C.size) D) (e▸hx)) (ae (fun e=>(aA (ak ad) (le (le (le (le (le (le E.size G.size) B.size) t.size) H.size) y.size) C.size) D) (e▸hx)) (ae (fun e=>(aA (ak i) (le (le (le (le (le (le (le (le g.size J.size) E.size) G.size) B.size) t.size) H.size) y.size) C.size) D) (e▸hx)) ay)))) (fun _ _ h=>h))).rd,(fun _ _ _=>aK.nil ..),aK.nil ..,aK.nil ..,⟨(b8 (x:=c) (by omega)),(b8 (x:=0) (by omega)),(aB (x:=(aa.mk b false 0).wordV) (by omega)),(aB (x:=((aa.mk b false 0).wordsC 1).wordV) (by omega)),(aB (x:=0) (by omega)),(aB (x:=0) (by omega)),(aB (x:=0) (by omega)),(aB (x:=0) (by omega)),(aB (x:=0) (by omega)),(aB (x:=0) (by omega)),(aB (x:=0) (by omega)),(aB (x:=0) (by omega)),(b8 (x:=0) (by omega)),(b8 (x:=0) (by omega)),(b8 (x:=0) (by omega)),(b8 (x:=0) (by omega)),(b8 (x:=0) (by omega))⟩⟩ (ud bT c2 r)
 have cM:=ap I
 refine sg<|Pl 1<|?_
 refine L0<|b7 (ub o i) mZ fun dX d0 d1=>Pl 1<|nt<|rt<|br<|tr<|bL d0 (.int .i64 4)<|?_
 have hs:ag aD 0 c b=(aP.zero,4):=by
   unfold ag aD cD co cj e8 jg eV je iM iB d6 dE
   (try simp only[k,q,z,I,bs,if_true,if_false,decide_true,decide_false,eq_self,true_or,or_true,or_false,false_or,if_true,if_false,ch,cc,cg,ci,reduceIte,dg])
   all_goals rfl
 rw[hs]
 exact bu (ud s d1 r)
theorem iD{m:Md}{A:Option Addr}{cp:Nat}{b:List Int}{w:World}{c:Int}(hcode:B8 c)(hsl:bi m w (.slice A b.length cp) b)(hb:b.length≤1048576) :
    Calls Tryz.prog 93 #[.int .i64 1,.int .u8 c,.slice A b.length cp] w (d7 (.slice A b.length cp) b (ag aD 1 c b) w):=by
 obtain⟨hcode1,hcode2⟩:=hcode
 have hln:(b.length:Int)≤1048576:=by omega
 refine en 113 Tryz.func93 rfl<|sg<|L0<|bK mZ fun cO cP o h d=>Pl 1<|nt<|sq<|sg<|Pl 6<|nt<|c0<|?_
 refine bz<|sg<|Pl 2<|L0<|du #[.slice A b.length cp,.int .i64 0,.bool false,.int .i64 0] fun j cQ a r g=>Pl 1<|ng<|Pl 2<|L0<|bK mZ fun cR cS f bv bw=>L0<|b7 bv (mC c) fun O P bA=>?_
 refine nt<|sq<|sg<|Pl 1<|nt<|bk<|sq<|sg<|Pl 2<|nl<|?_
 refine tn<|?_
 have z:=ud bw bA f
 have k:=aI g z
 have q:=aI d k
 refine cb ((c==1)) (fun i=>?_) (fun i=>?_)
 have bB:=am i
 refine bz<|ct i<|sq<|sg<|Pl 2<|nt<|c0<|bz<|sg<|?_
 refine Pl 1<|?_
 have bC:RC w _ A cp b O j (aa.mk b false 0):=⟨hsl,q,(Nat.le_trans d.size a),⟨0,(ub z r),Nat.zero_le _,rfl⟩,by omega⟩
 refine L0<|Oc<|m3 (dB bC) fun cT bD bE cU=>L0<|Oi ((aa.mk b false 0).byteV)<|Pl 1<|ng<|Pl 4<|cu 3 [41] 44 (((decide (0<((aa.mk b false 0).byteV)))&&(decide (((aa.mk b false 0).byteV)≤250)))) (fun K al=>?_) ?_
 refine bl 41 ((decide (0<((aa.mk b false 0).byteV)))) (fun B=>?_) (fun B=>?_)
 have bF:=of_decide_eq_true B
 exact Pl 3<|ce al (decide (((aa.mk b false 0).byteV)≤250)) (by rw[B];rfl)
 have bF:=of_decide_eq_false B
 exact Pl 3<|ce al false (by rw[B];rfl)
 refine L0<|Oc<|m2 (aU (((decide (0<((aa.mk b false 0).byteV)))&&(decide (((aa.mk b false 0).byteV)≤250)))) 5 bD) fun cV bG bH=>?_
 refine eX bG fun x43 an ao=>?_
 refine nt<|go<|Pl 2<|L0<|Oc<|md (eQ (n:=(aa.mk b false 0).byteV) (by omega) ao) fun ar au cW bI bJ bM=>?_
 have cX:=Nat.le_trans (aa.bytesR_le x43 ((aa.mk b false 0).byteV)) (RC.clen ao)
 refine Pl 1<|?_
 have aw:=u1 bE (u1 bH bM im) im
 have Y:=nb (ak r) lr f
 refine L0<|bU (aT aw (Ne.symm Y) P) 14 (mG c 0 0 0 0 0 0 0 0 0 0 0 nS nS (.slice ar ((x43.bytesR ((aa.mk b false 0).byteV)).length) au) nS 0 0 0 0 0 nS) fun cY bN ax=>nl<|bn<|tn<|sg<|Pl 1<|?_
 have Z:=us aw ax
 have az:=ut q Z (ac (ni d.size a) (ac (ni (le d.size g.size) f) aq))
 refine L0<|Oc<|m2 (dR (RC.upd bJ ax (ae Y ay) az)) fun cZ a0 Q=>nt<|sq<|sg<|Pl 3<|L0<|ec (p:=⟨j,3,none⟩) (v:=.int .i64 (((x43.bytesC ((aa.mk b false 0).byteV)).endC).e)) (RC.fld a0)<|Pl 1<|nt<|?_
 have aA:=ud az Q (le d.size a)
 refine cb (((((x43.bytesC ((aa.mk b false 0).byteV)).endC).e)!=0)) (fun C=>?_) (fun C=>?_)
 have a1:=av C
 refine sq<|Rg 7 (fun w'=>w'.cell? ⟨j,3,none⟩=some (.int .i64 (((x43.bytesC ((aa.mk b false 0).byteV)).endC).e))) fun d0 R=>?_
 have aC:=RC.upd a0 R ay (aE.step (RC.u a0) R)
 refine bh (RC.fld aC) fun D=>Rt 0 D<|Rt 1 D<|Rt 2 D<|Rt 3 D<|Rl 4 D (fun _ hs=>hs)<|?_
 refine R0 5 rfl<|b7 (ub (ut k (u1 Z (aI Q R) im) (ac (nr a) (ac (ni g.size f) aq))) h) mZ fun d1 bO aG=>?_
 have aH:=ud aA (uz R aG) o
 refine bh (RC.fld (RC.upd aC aG (ae (Ne.symm (nb (ak h) lr a)) ay) aH)) fun bP=>Rt 6 bP<|re<|tn<|rt<|tr<|bL bO (.int .i64 (((x43.bytesC ((aa.mk b false 0).byteV)).endC).e))<|?_
 subst an
 have hs:ag aD 1 c b=aF (aP.mk c 0 0 0 0 0 0 0 0 0 0 0 [] [] ((((aa.mk b false 0).bytesC 1).need ((decide (0<((aa.mk b false 0).byteV)))&&(decide (((aa.mk b false 0).byteV)≤250))) 5).bytesR ((aa.mk b false 0).byteV)) [] 0 0 0 0 0 []) ((((aa.mk b false 0).bytesC 1).need ((decide (0<((aa.mk b false 0).byteV)))&&(decide (((aa.mk b false 0).byteV)≤250))) 5).bytesC ((aa.mk b false 0).byteV)):=by
   unfold ag aD cD co cj e8 jg eV je iM iB d6 dE
   (try simp only[i,C,bs,if_true,if_false,decide_true,decide_false,eq_self,true_or,or_true,or_false,false_or,if_true,if_false,ch,cc,cg,ci,reduceIte,dg])
   all_goals rfl
 rw[hs]
 exact bg a1 aH
 have a1:=ai C
 refine bz<|sg<|?_
 refine L0<|bZ (aT Q (Ne.symm Y) bN)<|?_
 refine L0<|b7 (ub (ut k (u1 Z Q im) (ac (nr a) (ac (ni g.size f) aq))) h) (mG c 0 0 0 0 0 0 0 0 0 0 0 nS nS (.slice ar ((x43.bytesR ((aa.mk b false 0).byteV)).length) au) nS 0 0 0 0 0 nS) fun d2 bQ bS=>Pl 1<|nt<|rt<|bL bQ (.int .i64 0)<|?_
 subst an
 have hs:ag aD 1 c b=aF (aP.mk c 0 0 0 0 0 0 0 0 0 0 0 [] [] ((((aa.mk b false 0).bytesC 1).need ((decide (0<((aa.mk b false 0).byteV)))&&(decide (((aa.mk b false 0).byteV)≤250))) 5).bytesR ((aa.mk b false 0).byteV)) [] 0 0 0 0 0 []) ((((aa.mk b false 0).bytesC 1).need ((decide (0<((aa.mk b false 0).byteV)))&&(decide (((aa.mk b false 0).byteV)≤250))) 5).bytesC ((aa.mk b false 0).byteV)):=by
   unfold ag aD cD co cj e8 jg eV je iM iB d6 dE
   (try simp only[i,C,bs,if_true,if_false,decide_true,decide_false,eq_self,true_or,or_true,or_false,false_or,if_true,if_false,ch,cc,cg,ci,reduceIte,dg])
   all_goals rfl
 rw[hs]
 exact bo a1 ⟨_,_,_,_,_,rfl,aK.nil ..,aK.nil ..,bI,aK.nil ..,aK.nil ..,⟨(b8 (x:=c) (by omega)),(b8 (x:=0) (by omega)),(aB (x:=0) (by omega)),(aB (x:=0) (by omega)),(aB (x:=0) (by omega)),(aB (x:=0) (by omega)),(aB (x:=0) (by omega)),(aB (x:=0) (by omega)),(aB (x:=0) (by omega)),(aB (x:=0) (by omega)),(aB (x:=0) (by omega)),(aB (x:=0) (by omega)),(b8 (x:=0) (by omega)),(b8 (x:=0) (by omega)),(b8 (x:=0) (by omega)),(b8 (x:=0) (by omega)),(b8 (x:=0) (by omega))⟩⟩ (ud aA bS o)
 have bB:=ap i
 refine go<|Pl 2<|nt<|cb ((c==2)) (fun l=>?_) (fun l=>?_)
 have bT:=am l
 refine sq<|sg<|Pl 2<|nt<|c0<|bz<|sg<|Pl 1<|?_
 have bV:RC w _ A cp b O j (aa.mk b false 0):=⟨hsl,q,(Nat.le_trans d.size a),⟨0,(ub z r),Nat.zero_le _,rfl⟩,by omega⟩
 refine L0<|Oc<|m3 (dB bV) fun d3 bW bX d4=>L0<|Oi ((aa.mk b false 0).byteV)<|Pl 1<|ng<|Pl 4<|cu 3 [41] 44 (((decide (0<((aa.mk b false 0).byteV)))&&(decide (((aa.mk b false 0).byteV)≤250)))) (fun K aJ=>?_) ?_
 refine bl 41 ((decide (0<((aa.mk b false 0).byteV)))) (fun E=>?_) (fun E=>?_)
 have bY:=of_decide_eq_true E
 exact Pl 3<|ce aJ (decide (((aa.mk b false 0).byteV)≤250)) (by rw[E];rfl)
 have bY:=of_decide_eq_false E
 exact Pl 3<|ce aJ false (by rw[E];rfl)
 refine L0<|Oc<|m2 (aU (((decide (0<((aa.mk b false 0).byteV)))&&(decide (((aa.mk b false 0).byteV)≤250)))) 5 bW) fun d5 c2 c3=>?_
 refine eX c2 fun t aL aM=>?_
 refine nt<|go<|Pl 2<|L0<|Oc<|md (eQ (n:=(aa.mk b false 0).byteV) (by omega) aM) fun aN aO d8 c4 c5 c6=>?_
 have d9:=Nat.le_trans (aa.bytesR_le t ((aa.mk b false 0).byteV)) (RC.clen aM)
 refine Pl 1<|?_
 have aQ:=u1 bX (u1 c3 c6 im) im
 have a2:=nb (ak r) lr f
 refine L0<|bU (aT aQ (Ne.symm a2) P) 14 (mG c 0 0 0 0 0 0 0 0 0 0 0 nS nS (.slice aN ((t.bytesR ((aa.mk b false 0).byteV)).length) aO) nS 0 0 0 0 0 nS) fun da c7 aS=>nl<|bn<|tn<|sg<|Pl 1<|?_
 have a3:=us aQ aS
 have aV:=ut q a3 (ac (ni d.size a) (ac (ni (le d.size g.size) f) aq))
 refine L0<|Oc<|m2 (dR (RC.upd c5 aS (ae a2 ay) aV)) fun db a4 S=>nt<|sq<|sg<|Pl 3<|L0<|ec (p:=⟨j,3,none⟩) (v:=.int .i64 (((t.bytesC ((aa.mk b false 0).byteV)).endC).e)) (RC.fld a4)<|Pl 1<|nt<|?_
 have aW:=ud aV S (le d.size a)
 refine cb (((((t.bytesC ((aa.mk b false 0).byteV)).endC).e)!=0)) (fun F=>?_) (fun F=>?_)
 have a5:=av F
 refine sq<|Rg 7 (fun w'=>w'.cell? ⟨j,3,none⟩=some (.int .i64 (((t.bytesC ((aa.mk b false 0).byteV)).endC).e))) fun dc T=>?_
 have aX:=RC.upd a4 T ay (aE.step (RC.u a4) T)
 refine bh (RC.fld aX) fun G=>Rt 0 G<|Rt 1 G<|Rt 2 G<|Rt 3 G<|Rl 4 G (fun _ hs=>hs)<|?_
 refine R0 5 rfl<|b7 (ub (ut k (u1 a3 (aI S T) im) (ac (nr a) (ac (ni g.size f) aq))) h) mZ fun dd c8 aY=>?_
 have aZ:=ud aW (uz T aY) o
 refine bh (RC.fld (RC.upd aX aY (ae (Ne.symm (nb (ak h) lr a)) ay) aZ)) fun c9=>Rt 6 c9<|re<|tn<|rt<|tr<|bL c8 (.int .i64 (((t.bytesC ((aa.mk b false 0).byteV)).endC).e))<|?_
 subst aL
 have hs:ag aD 1 c b=aF (aP.mk c 0 0 0 0 0 0 0 0 0 0 0 [] [] ((((aa.mk b false 0).bytesC 1).need ((decide (0<((aa.mk b false 0).byteV)))&&(decide (((aa.mk b false 0).byteV)≤250))) 5).bytesR ((aa.mk b false 0).byteV)) [] 0 0 0 0 0 []) ((((aa.mk b false 0).bytesC 1).need ((decide (0<((aa.mk b false 0).byteV)))&&(decide (((aa.mk b false 0).byteV)≤250))) 5).bytesC ((aa.mk b false 0).byteV)):=by
   unfold ag aD cD co cj e8 jg eV je iM iB d6 dE
   (try simp only[i,l,F,bs,if_true,if_false,decide_true,decide_false,eq_self,true_or,or_true,or_false,false_or,if_true,if_false,ch,cc,cg,ci,reduceIte,dg])
   all_goals rfl
 rw[hs]
 exact bg a5 aZ
 have a5:=ai F
 refine bz<|sg<|?_
 refine L0<|bZ (aT S (Ne.symm a2) c7)<|?_
 refine L0<|b7 (ub (ut k (u1 a3 S im) (ac (nr a) (ac (ni g.size f) aq))) h) (mG c 0 0 0 0 0 0 0 0 0 0 0 nS nS (.slice aN ((t.bytesR ((aa.mk b false 0).byteV)).length) aO) nS 0 0 0 0 0 nS) fun de ca cd=>Pl 1<|nt<|rt<|bL ca (.int .i64 0)<|?_
 subst aL
 have hs:ag aD 1 c b=aF (aP.mk c 0 0 0 0 0 0 0 0 0 0 0 [] [] ((((aa.mk b false 0).bytesC 1).need ((decide (0<((aa.mk b false 0).byteV)))&&(decide (((aa.mk b false 0).byteV)≤250))) 5).bytesR ((aa.mk b false 0).byteV)) [] 0 0 0 0 0 []) ((((aa.mk b false 0).bytesC 1).need ((decide (0<((aa.mk b false 0).byteV)))&&(decide (((aa.mk b false 0).byteV)≤250))) 5).bytesC ((aa.mk b false 0).byteV)):=by
   unfold ag aD cD co cj e8 jg eV je iM iB d6 dE
   (try simp only[i,l,F,bs,if_true,if_false,decide_true,decide_false,eq_self,true_or,or_true,or_false,false_or,if_true,if_false,ch,cc,cg,ci,reduceIte,dg])
   all_goals rfl
 rw[hs]
 exact bo a5 ⟨_,_,_,_,_,rfl,aK.nil ..,aK.nil ..,c4,aK.nil ..,aK.nil ..,⟨(b8 (x:=c) (by omega)),(b8 (x:=0) (by omega)),(aB (x:=0) (by omega)),(aB (x:=0) (by omega)),(aB (x:=0) (by omega)),(aB (x:=0) (by omega)),(aB (x:=0) (by omega)),(aB (x:=0) (by omega)),(aB (x:=0) (by omega)),(aB (x:=0) (by omega)),(aB (x:=0) (by omega)),(aB (x:=0) (by omega)),(b8 (x:=0) (by omega)),(b8 (x:=0) (by omega)),(b8 (x:=0) (by omega)),(b8 (x:=0) (by omega)),(b8 (x:=0) (by omega))⟩⟩ (ud aW cd o)
 have bT:=ap l
 refine sg<|Pl 2<|nt<|cb ((c==5)) (fun s=>?_) (fun s=>?_)
 have cf:=am s
 refine sg<|Pl 1<|?_
 have ck:RC w _ A cp b O j (aa.mk b false 0):=⟨hsl,q,(Nat.le_trans d.size a),⟨0,(ub z r),Nat.zero_le _,rfl⟩,by omega⟩
 refine L0<|Oc<|m3 (cK ck) fun df cl b0 dh=>Pl 1<|?_
 have H:=nb (ak r) lr f
 refine L0<|bU (aT b0 (Ne.symm H) P) 2 (mG c 0 ((aa.mk b false 0).wordV) 0 0 0 0 0 0 0 0 0 nS nS nS nS 0 0 0 0 0 nS) fun di cm b1=>ng<|Pl 1<|?_
 have a6:=us b0 b1
 have b2:=ut q a6 (ac (ni d.size a) (ac (ni (le d.size g.size) f) aq))
 refine L0<|Oc<|m3 (cK (RC.upd cl b1 (ae H ay) b2)) fun dj cn b3 dk=>Pl 1<|?_
 refine L0<|bU (aT b3 (Ne.symm H) cm) 4 (mG c 0 ((aa.mk b false 0).wordV) 0 (((aa.mk b false 0).wordsC 1).wordV) 0 0 0 0 0 0 0 nS nS nS nS 0 0 0 0 0 nS) fun dl a7 b4=>nt<|go<|Pl 2<|L0<|aR a7 4<|Pl 2<|cu 4 [62] 66 ((((((aa.mk b false 0).wordsC 1).wordV)==0)||((((aa.mk b false 0).wordsC 1).wordV)==65280))) (fun K b5=>?_) ?_
 refine bl 62 (((((aa.mk b false 0).wordsC 1).wordV)==0)) (fun I=>?_) (fun I=>?_)
 have cq:=am I
 exact Pl 4<|ce b5 true (by rw[I];rfl)
 have cq:=ap I
 exact Pl 1<|L1<|aR a7 4<|Pl 2<|ce b5 ((((aa.mk b false 0).wordsC 1).wordV)==65280) (by rw[I];rfl)
 have a8:=us b3 b4
 have b6:=ut b2 a8 (ac (ni d.size a) (ac (ni (le d.size g.size) f) aq))
 refine L0<|Oc<|m2 (aU ((((((aa.mk b false 0).wordsC 1).wordV)==0)||((((aa.mk b false 0).wordsC 1).wordV)==65280))) 6 (RC.upd cn b4 (ae H ay) b6)) fun dm cr cs=>?_
 refine eX cr fun U b9 cv=>?_
 refine nl<|bn<|tn<|sg<|Pl 1<|L0<|Oc<|m2 (dR cv) fun dn a9 cw=>nt<|sq<|sg<|Pl 3<|L0<|ec (p:=⟨j,3,none⟩) (v:=.int .i64 U.endC.e) (RC.fld a9)<|?_
 refine Pl 1<|nt<|?_
 have V:=u1 cs cw im
 have ba:=ud b6 V (le d.size a)
 refine cb ((U.endC.e != 0)) (fun J=>?_) (fun J=>?_)
 have ab:=av J
 refine sq<|Rg 7 (fun w'=>w'.cell? ⟨j,3,none⟩=some (.int .i64 U.endC.e)) fun dp W=>?_
 have bb:=RC.upd a9 W ay (aE.step (RC.u a9) W)
 refine bh (RC.fld bb) fun L=>Rt 0 L<|Rt 1 L<|Rt 2 L<|Rt 3 L<|Rl 4 L (fun _ hs=>hs)<|?_
 refine R0 5 rfl<|b7 (ub (ut k (ut a6 (u1 a8 (aI V W) im) (ac im (ac im aq))) (ac (nr a) (ac (ni g.size f) aq))) h) mZ fun dq cx bc=>?_
 have bd:=ud ba (uz W bc) o
 refine bh (RC.fld (RC.upd bb bc (ae (Ne.symm (nb (ak h) lr a)) ay) bd)) fun cy=>Rt 6 cy<|re<|tn<|rt<|tr<|bL cx (.int .i64 U.endC.e)<|?_
 subst b9
 have hs:ag aD 1 c b=aF (aP.mk c 0 ((aa.mk b false 0).wordV) 0 (((aa.mk b false 0).wordsC 1).wordV) 0 0 0 0 0 0 0 [] [] [] [] 0 0 0 0 0 []) ((((aa.mk b false 0).wordsC 1).wordsC 1).need (((((aa.mk b false 0).wordsC 1).wordV)==0)||((((aa.mk b false 0).wordsC 1).wordV)==65280)) 6):=by
   unfold ag aD cD co cj e8 jg eV je iM iB d6 dE
   (try simp only[i,l,s,J,bs,if_true,if_false,decide_true,decide_false,eq_self,true_or,or_true,or_false,false_or,if_true,if_false,ch,cc,cg,ci,reduceIte,dg])
   all_goals rfl
 rw[hs]
 exact bg ab bd
 have ab:=ai J
 refine bz<|sg<|?_
 refine L0<|bZ (aT V (Ne.symm H) a7)<|?_
 refine L0<|b7 (ub (ut k (ut a6 (u1 a8 V im) (ac im (ac im aq))) (ac (nr a) (ac (ni g.size f) aq))) h) (mG c 0 ((aa.mk b false 0).wordV) 0 (((aa.mk b false 0).wordsC 1).wordV) 0 0 0 0 0 0 0 nS nS nS nS 0 0 0 0 0 nS) fun dr cz cA=>Pl 1<|nt<|rt<|bL cz (.int .i64 0)<|?_
 subst b9
 have hs:ag aD 1 c b=aF (aP.mk c 0 ((aa.mk b false 0).wordV) 0 (((aa.mk b false 0).wordsC 1).wordV) 0 0 0 0 0 0 0 [] [] [] [] 0 0 0 0 0 []) ((((aa.mk b false 0).wordsC 1).wordsC 1).need (((((aa.mk b false 0).wordsC 1).wordV)==0)||((((aa.mk b false 0).wordsC 1).wordV)==65280)) 6):=by
   unfold ag aD cD co cj e8 jg eV je iM iB d6 dE
   (try simp only[i,l,s,J,bs,if_true,if_false,decide_true,decide_false,eq_self,true_or,or_true,or_false,false_or,if_true,if_false,ch,cc,cg,ci,reduceIte,dg])
   all_goals rfl
 rw[hs]
 exact bo ab ⟨_,_,_,_,_,rfl,aK.nil ..,aK.nil ..,(fun _ _ _=>aK.nil ..),aK.nil ..,aK.nil ..,⟨(b8 (x:=c) (by omega)),(b8 (x:=0) (by omega)),(aB (x:=(aa.mk b false 0).wordV) (by omega)),(aB (x:=0) (by omega)),(aB (x:=((aa.mk b false 0).wordsC 1).wordV) (by omega)),(aB (x:=0) (by omega)),(aB (x:=0) (by omega)),(aB (x:=0) (by omega)),(aB (x:=0) (by omega)),(aB (x:=0) (by omega)),(aB (x:=0) (by omega)),(aB (x:=0) (by omega)),(b8 (x:=0) (by omega)),(b8 (x:=0) (by omega)),(b8 (x:=0) (by omega)),(b8 (x:=0) (by omega)),(b8 (x:=0) (by omega))⟩⟩ (ud ba cA o)
 have cf:=ap s
 refine sg<|Pl 2<|nt<|cb ((c==15)) (fun y=>?_) (fun y=>?_)
 have cB:=am y
 refine sg<|Pl 1<|?_
 have ad:RC w _ A cp b O j (aa.mk b false 0):=⟨hsl,q,(Nat.le_trans d.size a),⟨0,(ub z r),Nat.zero_le _,rfl⟩,by omega⟩
 have be:=nb (ak r) lr f
 refine L0<|Oc<|m3 (kM (most:=1968) (b8 (by omega)) ad P (Nat.le_trans (le d.size g.size) f) be) fun ds cC cE cF=>?_
 have dt:=bR (RC.rng ad)
 have dv:=bR (c:=(aa.mk b false 0).wordsC 1) (cG (RC.rng ad) 1)
 refine nt<|sq<|sg<|Pl 2<|nt<|c1<|xt<|tx<|bx<|tn<|sq<|?_
 refine go<|Pl 1<|L0<|Oc<|m2 (dR cC) fun dw af bf=>nt<|sq<|sg<|Pl 3<|L0<|ec (p:=⟨j,3,none⟩) (v:=.int .i64 (((bp (aa.mk b false 0) 1968).endC).e)) (RC.fld af)<|Pl 1<|nt<|?_
 have ah:=u1 cF bf im
 have bj:=ut q ah (ac (ni d.size a) (ac (ni (le d.size g.size) f) aq))
 refine cb (((((bp (aa.mk b false 0) 1968).endC).e)!=0)) (fun M=>?_) (fun M=>?_)
 have aj:=av M
 refine sq<|Rg 7 (fun w'=>w'.cell? ⟨j,3,none⟩=some (.int .i64 (((bp (aa.mk b false 0) 1968).endC).e))) fun dx X=>?_
 have bm:=RC.upd af X ay (aE.step (RC.u af) X)
 refine bh (RC.fld bm) fun N=>Rt 0 N<|Rt 1 N<|Rt 2 N<|Rt 3 N<|Rl 4 N (fun _ hs=>hs)<|?_
 refine R0 5 rfl<|b7 (ub (ut k (aI ah X) (ac (nr a) (ac (ni g.size f) aq))) h) mZ fun dy cH bq=>?_
 have bt:=ud bj (uz X bq) o
 refine bh (RC.fld (RC.upd bm bq (ae (Ne.symm (nb (ak h) lr a)) ay) bt)) fun cI=>Rt 6 cI<|re<|tn<|rt<|tr<|bL cH (.int .i64 (((bp (aa.mk b false 0) 1968).endC).e))<|?_
 have hs:ag aD 1 c b=aF (aP.mk c 0 ((aa.mk b false 0).wordV) (((aa.mk b false 0).wordsC 1).wordV) 0 0 0 0 0 0 0 0 [] [] [] [] 0 0 0 0 0 []) (bp (aa.mk b false 0) 1968):=by
   unfold ag aD cD co cj e8 jg eV je iM iB d6 dE
   (try simp only[i,l,s,y,M,bs,if_true,if_false,decide_true,decide_false,eq_self,true_or,or_true,or_false,false_or,if_true,if_false,ch,cc,cg,ci,reduceIte,dg])
   all_goals rfl
 rw[hs]
 exact bg aj bt
 have aj:=ai M
 refine bz<|sg<|?_
 refine L0<|bZ (aT bf (Ne.symm be) cE)<|?_
 refine L0<|b7 (ub (ut k ah (ac (nr a) (ac (ni g.size f) aq))) h) (mG c 0 ((aa.mk b false 0).wordV) (((aa.mk b false 0).wordsC 1).wordV) 0 0 0 0 0 0 0 0 nS nS nS nS 0 0 0 0 0 nS) fun dz cJ cL=>Pl 1<|nt<|rt<|bL cJ (.int .i64 0)<|?_
 have hs:ag aD 1 c b=aF (aP.mk c 0 ((aa.mk b false 0).wordV) (((aa.mk b false 0).wordsC 1).wordV) 0 0 0 0 0 0 0 0 [] [] [] [] 0 0 0 0 0 []) (bp (aa.mk b false 0) 1968):=by
   unfold ag aD cD co cj e8 jg eV je iM iB d6 dE
   (try simp only[i,l,s,y,M,bs,if_true,if_false,decide_true,decide_false,eq_self,true_or,or_true,or_false,false_or,if_true,if_false,ch,cc,cg,ci,reduceIte,dg])
   all_goals rfl
 rw[hs]
 exact bo aj ⟨_,_,_,_,_,rfl,aK.nil ..,aK.nil ..,(fun _ _ _=>aK.nil ..),aK.nil ..,aK.nil ..,⟨(b8 (x:=c) (by omega)),(b8 (x:=0) (by omega)),(aB (x:=(aa.mk b false 0).wordV) (by omega)),(aB (x:=((aa.mk b false 0).wordsC 1).wordV) (by omega)),(aB (x:=0) (by omega)),(aB (x:=0) (by omega)),(aB (x:=0) (by omega)),(aB (x:=0) (by omega)),(aB (x:=0) (by omega)),(aB (x:=0) (by omega)),(aB (x:=0) (by omega)),(aB (x:=0) (by omega)),(b8 (x:=0) (by omega)),(b8 (x:=0) (by omega)),(b8 (x:=0) (by omega)),(b8 (x:=0) (by omega)),(b8 (x:=0) (by omega))⟩⟩ (ud bj cL o)
 have cB:=ap y
 refine sg<|Pl 1<|?_
 refine L0<|b7 (ub k h) mZ fun dA cM cN=>Pl 1<|nt<|rt<|br<|tr<|bL cM (.int .i64 4)<|?_
 have hs:ag aD 1 c b=(aP.zero,4):=by
   unfold ag aD cD co cj e8 jg eV je iM iB d6 dE
   (try simp only[i,l,s,y,bs,if_true,if_false,decide_true,decide_false,eq_self,true_or,or_true,or_false,false_or,if_true,if_false,ch,cc,cg,ci,reduceIte,dg])
   all_goals rfl
 rw[hs]
 exact bu (ud q cN o)
theorem iX{m:Md}{A:Option Addr}{cp:Nat}{b:List Int}{w:World}{dir c:Int}(hcode:B8 c)(hsl:bi m w (.slice A b.length cp) b)(hb:b.length≤1048576)(hd:¬ (dir=0∨dir=1)) :
    Calls Tryz.prog 93 #[.int .i64 dir,.int .u8 c,.slice A b.length cp] w (d7 (.slice A b.length cp) b (ag aD dir c b) w):=by
 obtain⟨hcode1,hcode2⟩:=hcode
 have hln:(b.length:Int)≤1048576:=by omega
 have e0:(dir != 0)=true:=by simp;omega
 have e1:(dir != 1)=true:=by simp;omega
 refine en 113 Tryz.func93 rfl<|sg<|L0<|bK mZ fun g h a d e=>Pl 1<|nt<|sq<|sg<|Pl 3<|sy 16 e0<|Pl 3<|nl<|?_
 refine tn<|ct e1<|sg<|Pl 1<|L0<|b7 d mZ fun i dx f=>Pl 1<|nt<|rt<|tr<|bL dx (.int .i64 1)<|?_
 have hs:ag aD dir c b=(aP.zero,1):=by
   unfold ag aD cD co cj e8 jg eV je iM iB d6 dE
   (try simp only[e0,e1,bs,if_true,if_false,decide_true,decide_false,eq_self,true_or,or_true,or_false,false_or,if_true,if_false,ch,cc,cg,ci,reduceIte,hd,dg])
   all_goals rfl
 rw[hs]
 exact bu (ud e f a)
open Go.RowKit
theorem fQ{C:aa}(h:gQ C){b:Bool}{x:Int}:gQ (C.need b x):=fun y hy=>h y (by rwa [iI] at hy)
theorem gc{C:aa}(h:gQ C){n:Int}:gQ (C.bytesC n):=gz h n
theorem ki{C:aa}(h:gQ C){n:Int}:gQ (C.wordsC n):=cG h n
theorem rN(C:aa)(x:Int) : (C.bytesC 1).need (!(C.bytesC 1).sh) x=C.bytesC 1:=by
  by_cases hf:C.fails 1=true
  · exact dI (ey hf)
  · have h:(C.bytesC 1).sh=false:=by
      unfold aa.bytesC
      rw[if_neg hf]
      unfold aa.fails at hf
      simp only[Bool.or_eq_true,decide_eq_true_eq,not_or] at hf
      show C.sh=false
      simpa using hf.1.1
    rw[h]
    unfold aa.need
    rw[if_neg (by rintro⟨_,h⟩;cases h)]
theorem pP{v:Int}(h:0≤v) : decide (0<v)=(v != 0):=by
  rw[Bool.eq_iff_iff]
  simp only[decide_eq_true_eq,bne_iff_ne,ne_eq]
  omega
def tA (C:aa) : aa:=((C.bytesC 1).need (!(C.bytesC 1).sh) 5).need (C.byteV==6) 9
def tG (C:aa) : aa:=((tA C).wordsC 1).need (decide (0<(tA C).wordV)) 6
def tE (C:aa) : aa:=((tG C).wordsC 1).need (decide ((tG C).wordV≤9999)) 7
def ql (C:aa) : aa:=((tE C).wordsC 1).need (decide (0<(tE C).wordV)) 5
theorem oX(C:aa) : tA C=gB C:=by unfold tA gB;rw[rN]
theorem nH{C:aa}(h:gQ C) : gQ (gB C):=fQ (gc h)
theorem pX{C:aa}(h:gQ C) : tG C=gC C:=by unfold tG gC;rw[oX,pP (bR (nH h)).1]
theorem rg{C:aa}(h:gQ C) : gQ (gC C):=fQ (ki (nH h))
theorem pu{C:aa}(h:gQ C) : tE C=l9 C:=by unfold tE l9;rw[pX h]
theorem qZ{C:aa}(h:gQ C) : gQ (l9 C):=fQ (ki (rg h))
theorem nO{C:aa}(h:gQ C) : ql C=dt C:=by unfold ql dt;rw[pu h,pP (bR (qZ h)).1]
theorem si{C:aa}(h:C.e≠0) : C.endC=C:=by unfold aa.endC;exact dI h
theorem sw{b:List Int}(h:b.length≠0) : (aa.mk b false 0).byteV=b.getD 0 0∧(aa.mk b false 0).bytesC 1=⟨b.drop 1,false,0⟩:=by
  have hf:¬ (aa.mk b false 0).fails 1=true:=by
    unfold aa.fails
    simp only[Bool.or_eq_true,decide_eq_true_eq,not_or]
    exact⟨⟨by decide,by decide⟩,by omega⟩
  constructor
  · unfold aa.byteV aa.bytesR
    rw[if_neg hf]
    rcases b with _|⟨x,t⟩
    · exact absurd rfl h
    · rfl
  · unfold aa.bytesC
    rw[if_neg hf]
    rfl
def cN (b:List Int)(n:Int) : List Int:=(b.take (n+1).toNat).drop 1
def dj (one:Int→aa→Int × aa × de)(c:Int)(b:List Int) : aP × Int :=
  if (aN one (cN b (b.getD 0 0)).length 0 ⟨cN b (b.getD 0 0),false,0⟩ []).1.e != 0 then (aP.zero,bq (aN one (cN b (b.getD 0 0)).length 0 ⟨cN b (b.getD 0 0),false,0⟩ []).1.e)
  else if decide (b.getD 0 0+1<(b.length:Int)) then (aP.zero,3)
  else ({ aP.zero with code:=c,recs:=(aN one (cN b (b.getD 0 0)).length 0 ⟨cN b (b.getD 0 0),false,0⟩ []).2 },0)
def bH (one:Int→aa→Int × aa × de)(may:Int→Bool)(c:Int)(b:List Int) : aP × Int :=
  if (b.length:Int)==0 then (aP.zero,2)
  else if !(may (b.getD 0 0)) then (aP.zero,5)
  else if decide ((b.length:Int)<b.getD 0 0+1) then (aP.zero,2)
  else dj one c b
theorem ir{M:aP}{C:aa}(h:C.e≠0) : aF M C=(aP.zero,C.e):=by
  unfold aF
  rw[si h,if_neg h]
theorem gU{one:Int→aa→Int × aa × de}{may:Int→Bool}{c:Int}{b:List Int}(hr:∀ x,x∈b→0≤x∧x<256) : aF (dF one may c ⟨b,false,0⟩).2 (dF one may c ⟨b,false,0⟩).1=bH one may c b:=by
  unfold bH
  by_cases h0:b.length=0
  · rw[if_pos (by rw[beq_iff_eq];omega)]
    obtain rfl:=List.eq_nil_of_length_eq_zero h0
    have e1:(ji may ⟨[],false,0⟩).e=2:=by
      unfold ji
      rw[dI (ey (by decide))]
      rfl
    have e2:((ji may ⟨[],false,0⟩).bytesC (aa.mk [] false 0).byteV).e=2:=by
      have hs:(ji may ⟨[],false,0⟩).sh=true:=by
        unfold ji
        rw[dI (ey (by decide))]
        rfl
      unfold aa.bytesC
      rw[if_pos (by unfold aa.fails;rw[hs];rfl),dI (by show(ji may ⟨[],false,0⟩).e≠0;rw[e1];decide)]
      exact e1
    unfold dF
    dsimp only
    rw[dI (by rw[e2];decide),ir (by rw[e2];decide),e2]
  rw[if_neg (by rw[beq_iff_eq];omega)]
  obtain⟨e1,e2⟩:=sw h0
  have hn:0≤b.getD 0 0∧b.getD 0 0<256:=by
    rcases b with _|⟨x,t⟩
    · exact absurd rfl h0
    · exact hr x (by simp)
  by_cases hm:may (b.getD 0 0)=true
  · rw[if_neg (by rw[hm];decide)]
    have e3:ji may ⟨b,false,0⟩=⟨b.drop 1,false,0⟩:=by
      unfold ji
      rw[e1,e2,hm]
      rfl
    by_cases hs:(b.length:Int)<b.getD 0 0+1
    · rw[if_pos (by simpa using hs)]
      have hf:(aa.mk (b.drop 1) false 0).fails (b.getD 0 0)=true:=by
        unfold aa.fails
        simp only[Bool.or_eq_true,decide_eq_true_eq,List.length_drop]
        exact .inr (by omega)
      have e4:(ji may ⟨b,false,0⟩).bytesC (aa.mk b false 0).byteV=⟨[],true,2⟩:=by
        rw[e1,e3]
        unfold aa.bytesC
        rw[if_pos hf]
        rfl
      unfold dF
      dsimp only
      rw[e4,dI (by decide),ir (by decide)]
    · rw[if_neg (by simpa using hs)]
      have hf:¬ (aa.mk (b.drop 1) false 0).fails (b.getD 0 0)=true:=by
        unfold aa.fails
        simp only[Bool.or_eq_true,decide_eq_true_eq,List.length_drop,not_or]
        exact⟨⟨by decide,by omega⟩,by omega⟩
      have e4:(ji may ⟨b,false,0⟩).bytesC (aa.mk b false 0).byteV=⟨(b.drop 1).drop (b.getD 0 0).toNat,false,0⟩:=by
        rw[e1,e3]
        unfold aa.bytesC
        rw[if_neg hf]
      have e5:qv may ⟨b,false,0⟩=⟨cN b (b.getD 0 0),false,0⟩:=by
        unfold qv cN
        rw[e1,e3]
        unfold aa.bytesR
        rw[if_neg hf,show(b.getD 0 0+1).toNat=1+(b.getD 0 0).toNat from by omega,List.drop_take]
        rw[show 1+(b.getD 0 0).toNat-1=(b.getD 0 0).toNat from by omega]
      unfold dF dj qx
      dsimp only
      rw[e4,e5]
      by_cases hz:(aN one (cN b (b.getD 0 0)).length 0 ⟨cN b (b.getD 0 0),false,0⟩ []).1.e=0
      · rw[hz,if_neg (by decide)]
        have e6:(aa.mk ((b.drop 1).drop (b.getD 0 0).toNat) false 0).need ((0:Int)==0) (bq 0)=⟨(b.drop 1).drop (b.getD 0 0).toNat,false,0⟩:=rfl
        rw[e6]
        by_cases hl:b.getD 0 0+1<(b.length:Int)
        · rw[if_pos (by simpa using hl)]
          have e7:(aa.mk ((b.drop 1).drop (b.getD 0 0).toNat) false 0).endC=⟨(b.drop 1).drop (b.getD 0 0).toNat,false,3⟩:=by
            unfold aa.endC aa.need
            rw[if_pos ⟨rfl,by rw[beq_eq_false_iff_ne];simp only[List.length_drop];omega⟩]
          unfold aF
          rw[e7,if_neg (show ¬ (3:Int)=0 from by decide)]
        · rw[if_neg (by simpa using hl)]
          have e7:(aa.mk ((b.drop 1).drop (b.getD 0 0).toNat) false 0).endC=⟨(b.drop 1).drop (b.getD 0 0).toNat,false,0⟩:=by
            unfold aa.endC aa.need
            rw[if_neg (by rintro⟨_,h⟩;rw[beq_eq_false_iff_ne] at h;simp only[List.length_drop] at h;omega)]
          unfold aF
          rw[e7,if_pos rfl]
      · rw[if_pos (by simpa using hz)]
        have hw:bq (aN one (cN b (b.getD 0 0)).length 0 ⟨cN b (b.getD 0 0),false,0⟩ []).1.e≠0:=by
          unfold bq
          split
          · decide
          · exact hz
        have e6:(aa.mk ((b.drop 1).drop (b.getD 0 0).toNat) false 0).need ((aN one (cN b (b.getD 0 0)).length 0 ⟨cN b (b.getD 0 0),false,0⟩ []).1.e==0) (bq (aN one (cN b (b.getD 0 0)).length 0 ⟨cN b (b.getD 0 0),false,0⟩ []).1.e)=⟨(b.drop 1).drop (b.getD 0 0).toNat,false,bq (aN one (cN b (b.getD 0 0)).length 0 ⟨cN b (b.getD 0 0),false,0⟩ []).1.e⟩:=by
          unfold aa.need
          rw[if_pos ⟨rfl,by simpa using hz⟩]
        rw[e6,ir hw]
  · have hm:may (b.getD 0 0)=false:=by simpa using hm
    rw[if_pos (by rw[hm];rfl)]
    have e3:ji may ⟨b,false,0⟩=⟨b.drop 1,false,5⟩:=by
      unfold ji
      rw[e1,e2,hm]
      rfl
    have e4:((ji may ⟨b,false,0⟩).bytesC (aa.mk b false 0).byteV).e=5:=by
      rw[e3]
      unfold aa.bytesC
      split
      · rfl
      · rfl
    unfold dF
    dsimp only
    rw[dI (by rw[e4];decide),ir (by rw[e4];decide),e4]
theorem ml{b:List Int}(hr:∀ x,x∈b→0≤x∧x<256) : ag aY 0 20 b=bH cL dV 20 b:=gU hr
theorem nh{b:List Int}(hr:∀ x,x∈b→0≤x∧x<256) : ag aY 1 20 b=bH bG dU 20 b:=gU hr
theorem oU{dir:Int}{b:List Int}(hd:dir=0∨dir=1)(hr:∀ x,x∈b→0≤x∧x<256) : ag aY dir 21 b=bH cJ dW 21 b:=by
  unfold ag
  rw[if_pos hd]
  exact gU hr
theorem rC:∀ n:Nat,n<256→(decide (1≤(n:Int)%128)&&decide ((n:Int)%128≤3))=bY (n:Int):=by decide +kernel
theorem tk{x:Int}(h:0≤x∧x<256) : (decide (1≤x%128)&&decide (x%128≤3))=bY x:=by
  obtain⟨n,rfl⟩:=Int.eq_ofNat_of_zero_le h.1
  exact rC n (by omega)
theorem s4{x:Int}:(decide (0<x)&&decide (x<5))=(decide (1≤x)&&decide (x≤4)):=by
  rw[Bool.eq_iff_iff]
  simp only[Bool.and_eq_true,decide_eq_true_eq]
  omega
def dN (C:aa) : aa:=((dk C).bytesC 1).need (decide (0<(dk C).byteV)&&decide ((dk C).byteV<5)) 6
theorem p7(C:aa) : dN C=fj C:=by unfold dN fj;rw[s4]
def eh (C:aa) : aa:=(C.bytesC 1).need (decide (1≤C.byteV%128)&&decide (C.byteV%128≤3)) 6
def eF (C:aa) : aa:=((eh C).bytesC 1).need ((eh C).byteV==0 || (eh C).byteV==255) 6
def eE (C:aa) : aa:=((eF C).bytesC 1).need ((eF C).byteV==0 || (eh C).byteV==255) 6
def fg (kd:Int)(C:aa) : aa:=((eE C).bytesC 1).need ((eE C).byteV==1 || kd != 4) 5
def cY (kd:Int)(C:aa) : aa × List Obj:=eb (eE C).byteV.toNat (fg kd C) []
theorem ja{C:aa}(h:gQ C) : eh C=jt C:=by unfold eh jt;rw[tk (gy h)]
theorem lC{C:aa}(h:gQ C) : eF C=js C:=by unfold eF js;rw[ja h]
theorem pY{C:aa}(h:gQ C) : eE C=pJ C:=by
  unfold eE pJ
  rw[lC h,ja h]
  by_cases e:((js C).bytesC 1).e=0
  · have h1:=(lN e).1
    unfold js at h1
    have h2:=(p4 (by decide) h1).2
    congr 1
    rw[Bool.eq_iff_iff]
    simp only[Bool.or_eq_true,beq_iff_eq,bne_iff_ne,ne_eq] at h2 ⊢
    omega
  · rw[dI e,dI e]
theorem lH{kd:Int}{C:aa}(h:gQ C) : cY kd C=ed kd C:=by
  unfold cY ed fg td
  rw[pY h,Bool.or_comm]
def bN (dir c:Int)(C:aa) : Option (aa × aP) :=
  if c != 43 then none
  else if C.byteV==13 then some ((dY C).bytesC ((dk C).l.length:Int),{ aP.zero with code:=43,mei:=C.byteV,data:=(dY C).bytesR ((dk C).l.length:Int) })
  else if dir==0 then some ((dN C).bytesC 1,{ aP.zero with code:=43,mei:=C.byteV,kind:=(dk C).byteV,next:=(dN C).byteV })
  else some ((cY (dk C).byteV (dN C)).1,{ aP.zero with code:=43,mei:=C.byteV,kind:=(dk C).byteV,level:=(dN C).byteV,more:=(eh (dN C)).byteV,next:=(eF (dN C)).byteV,objects:=(cY (dk C).byteV (dN C)).2 })
theorem lS{dir c:Int}{b:List Int}(hr:∀ x,x∈b→0≤x∧x<256) : ag bN dir c b=ag bF dir c b:=by
  unfold ag
  split
  · rename_i hd
    unfold bN bF
    by_cases hc:c=43
    · subst hc
      have hD:gQ (dN ⟨b,false,0⟩):=fQ (gc (fQ (gc (C:=⟨b,false,0⟩) hr)))
      have hl:(dY ⟨b,false,0⟩).l.length=(dk ⟨b,false,0⟩).l.length:=by unfold dY;rw[iI]
      rw[if_neg (show ¬ (((43:Int)!=43)=true) from by decide),if_neg (show ¬ (((43:Int)!=43)=true) from by decide),ja hD,lC hD,lH hD,p7,hl]
      rcases hd with rfl|rfl
      · rw[if_pos (show((0:Int)==0)=true from rfl),if_neg (show ¬ ((0:Int)==1)=true from by decide)]
      · rw[if_neg (show ¬ ((1:Int)==0)=true from by decide),if_pos (show((1:Int)==1)=true from rfl)]
    · rw[if_pos (by simpa using hc),if_pos (by simpa using hc)]
  · rfl
end Go.Proofs.YtogbnemojakcpaaGreat
