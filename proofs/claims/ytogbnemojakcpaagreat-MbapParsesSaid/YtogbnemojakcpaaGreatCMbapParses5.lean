/- Contracts of functions, part CMbapParses5. -/
import Derived.Test.YtogbnemojakcpaaGreatCMbapParses1
import Derived.Test.YtogbnemojakcpaaGreatCMbapParses2
import Derived.Test.YtogbnemojakcpaaGreatCMbapParses3
import Derived.Test.YtogbnemojakcpaaGreatCMbapParses4
set_option linter.unusedVariables false
set_option linter.unusedSimpArgs false
set_option maxRecDepth 100000
set_option maxHeartbeats 4000000
namespace Go.Proofs.YtogbnemojakcpaaGreat
open Go.RowKit
theorem RC.lt{w0:World}{m:Md}{A:Option Addr}{cp:Nat}{full:List Int}{w:World}{g:Nat}{C:ah}(h:RC w0 m A cp full w g C) : g<w.heap.size:=by
  obtain⟨k,h1,_⟩:=h.cell
  exact ak h1
theorem RC.fld{w0:World}{m:Md}{A:Option Addr}{cp:Nat}{full:List Int}{w:World}{g:Nat}{C:ah}(h:RC w0 m A cp full w g C) : w.cell? ⟨g,3,none⟩=some (.int .i64 C.e):=by
  obtain⟨k,h1,_⟩:=h.cell
  rw[bu h1]
  rfl
theorem lP{c:Int}{C:ah}(h:(((c==3)||(c==4))||(c==23))=true) : aH 1 c C=some (bN c C):=by
  unfold aH
  by_cases h1:(c==3 || c==4)=true
  · rw[if_pos h1]
    rfl
  · rw[if_neg h1]
    have h2:c=23:=by
      simp only[Bool.or_eq_true,beq_iff_eq] at h h1
      omega
    subst h2
    rfl
theorem iA{n m:Int}:((n%2==0&&decide (0<n))&&decide (n≤m))=hZ n m:=by
  unfold hZ
  rw[Bool.eq_iff_iff]
  simp only[Bool.and_eq_true,decide_eq_true_eq,beq_iff_eq]
  omega
theorem iB{a k:Int}:(a==2*k+2)=(2+2*k==a):=by
  rw[Bool.eq_iff_iff]
  simp only[beq_iff_eq]
  omega
theorem dc{x:Int}:decide (0<x)=decide (1≤x):=by
  rw[Bool.eq_iff_iff]
  simp only[decide_eq_true_eq]
  omega
theorem iW{w0:World}{m:Md}{A:Option Addr}{cp:Nat}{full:List Int}{w:World}{g:Nat}{C:ah}{a most:Int}(ha:0≤a∧a<65536)(hC:RC w0 m A cp full w g C) :
    Calls Tryz.prog 159 #[.pointer (some ⟨g,0,none⟩),.int .u16 a,.int .i64 most] w (mK w0 m A cp full g .i64 65536 C.wordV (bI C a most) w):=by
 have hrng:=bS (RC.rng hC)
 refine en 26 Tryz.func159 rfl<|sg<|Pl 1<|ng<|Pl 1<|L0<|Oc<|m3 (cK hC) fun r f h s=>L0<|Oi C.wordV<|Pl 1<|nt<|?_
 refine sg<|Pl 4<|cu 4 [14] 18 (((decide (0<C.wordV))&&(decide (C.wordV≤most)))) (fun K d=>?_) ?_
 refine bl 14 ((decide (0<C.wordV))) (fun b=>?_) (fun b=>?_)
 have i:=of_decide_eq_true b
 exact Pl 4<|ce d (decide (C.wordV≤most)) (by rw[b];rfl)
 have i:=of_decide_eq_false b
 exact Pl 4<|ce d false (by rw[b];rfl)
 refine L0<|Oc<|m2 (aV (((decide (0<C.wordV))&&(decide (C.wordV≤most)))) 5 f) fun j k l=>?_
 refine f8 k fun x19 o e=>?_
 refine ng<|Pl 3<|L0<|Oc<|m1 (nQ (a:=a) (n:=C.wordV) (w:=j) (by omega) (by omega)) fun t c=>?_
 refine L0<|Oc<|m2 (aV ((db a C.wordV)) 7 (RC.upd e c ay (aE.step (RC.u e) c))) fun v p q=>ng<|Pl 2<|nt<|rt<|rr (.int .i64 C.wordV)<|?_
 subst o
 have e1:bI C a most=((C.wordsC 1).need (decide (0<C.wordV)&&decide (C.wordV≤most)) 5).need (db a C.wordV) 7:=by unfold bI;rw[← dc]
 rw[e1]
 exact⟨rfl,p,(u1 h (u1 l (uz c q) im) im),hrng⟩
theorem aK.upd0{α:Type}{m:Md}{e:TypeId}{sz:Nat}{R R':World→α→List Value→Prop}{w:World}{v:Value}{xs:List α}(h:aK m e sz R w v xs)(hR:∀ x cs,R w x cs→R' w x cs) : aK m e sz R' w v xs:=by
  obtain⟨A,c,rfl,h1,h2,h0,h3⟩:=h
  refine⟨A,c,rfl,h1,h2,h0,fun hp=>?_⟩
  obtain⟨b,off,cells,t,fr,rfl,hb,ht,hx⟩:=h3 hp
  exact⟨b,off,cells,t,fr,rfl,hb,ht,fun j x hj=>by obtain⟨cs,hl,hr,hc⟩:=hx j x hj;exact⟨cs,hl,hR _ _ hr,hc⟩⟩
def mv (v0:Value)(b:List Int)(w:World)(o:Obj)(cs:List Value) : Prop:=∃ A n c,cs=[.int .u8 o.id,.slice A n c]∧(∀ m' w',bg m' w' v0 b→bg m' w' (.slice A n c) o.value)∧B8 o.id
theorem mv.ones{v0:Value}{b:List Int}{w:World}(x:Obj)(cs:List Value)(h:mv v0 b w x cs) : ∀ v,v∈cs→v.oneCell'=true:=by
  obtain⟨A,n,c,rfl,h2,_⟩:=h
  intro u hu
  simp at hu
  rcases hu with rfl|rfl<;>rfl
def d8 (v0:Value)(b:List Int)(w:World)(cs:List Value)(M:aP) : Prop :=
  ∃ vw vb vd vr vo,cs=bR M vw vb vd vr vo∧dJ true w vw M.words∧g8 true w vb M.bits∧(∀ m' w',bg m' w' v0 b→bg m' w' vd M.data)∧kn true w vr M.recs∧aK true 111 2 (mv v0 b) w vo M.objects∧eI M
theorem d8.rd{v0:Value}{b:List Int}{m:Md}{w:World}{cs:List Value}{M:aP}(h:d8 v0 b w cs M)(hb:bg m w v0 b) : aW false w cs M:=by
  obtain⟨vw,vb,vd,vr,vo,h0,h1,h2,h3,h4,h5,h6⟩:=h
  exact⟨vw,vb,vd,vr,vo,h0,aK.any h1 fun _ _ q=>q,aK.any h2 fun _ _ q=>q,aK.any (h3 _ _ hb) fun _ _ q=>q,aK.any h4 fun r cs ⟨v,a,b,c⟩=>⟨v,a,aK.any b fun _ _ q=>q,c⟩,aK.any h5 fun r cs ⟨A,n,k,a,b,c⟩=>⟨_,a,aK.any (b _ _ hb) fun _ _ q=>q,c⟩,h6⟩
theorem d8.sub{v0 v1:Value}{b b1:List Int}{w:World}{cs:List Value}{M:aP}(h:d8 v1 b1 w cs M)(hv:∀ m' w',bg m' w' v0 b→bg m' w' v1 b1) : d8 v0 b w cs M:=by
  obtain⟨vw,vb,vd,vr,vo,h0,h1,h2,h3,h4,h5,h6⟩:=h
  exact⟨vw,vb,vd,vr,vo,h0,h1,h2,fun m' w' q=>h3 _ _ (hv _ _ q),h4,aK.upd0 h5 fun r cs ⟨A,n,k,a,b,c⟩=>⟨A,n,k,a,fun m' w' q=>b _ _ (hv _ _ q),c⟩,h6⟩
theorem d8.upd{v0:Value}{b:List Int}{w w':World}{cs:List Value}{M:aP}{S:List Nat}(h:d8 v0 b w cs M)(hu:aE S w w')(hs:cT true kE S w) : d8 v0 b w' cs M:=by
  obtain⟨vw,vb,vd,vr,vo,h0,h1,h2,h3,h4,h5,h6⟩:=h
  exact⟨vw,vb,vd,vr,vo,h0,dJ.upd' h1 hu (hs.sub (by decide)),g8.upd' h2 hu (hs.sub (by decide)),h3,kn.upd' h4 hu hs,aK.upd h5 hu (hs.sub (by decide)) (fun _ _ q=>q),h6⟩
theorem d8.zero(v0:Value)(b:List Int)(w:World) : d8 v0 b w jC.toList aP.zero:=by
  obtain⟨vw,vb,vd,vr,vo,h0,h1,h2,h3,h4,h5,h6⟩:=aW.zero true w
  exact⟨_,_,_,_,_,rfl,aK.nil ..,aK.nil ..,(fun _ _ _=>aK.nil ..),aK.nil ..,aK.nil ..,h6⟩
theorem d8.size{v0:Value}{b:List Int}{w:World}{cs:Array Value}{M:aP}(h:d8 v0 b w cs.toList M) : cs.size=22:=by
  obtain⟨vw,vb,vd,vr,vo,h0,_⟩:=h
  rw[← Array.length_toList,h0]
  rfl
theorem d8.one{v0:Value}{b:List Int}{w w2:World}{m:Md}{cs:Array Value}{M:aP}(h:d8 v0 b w cs.toList M)(hb:bg m w2 v0 b) : cs.all (·.oneCell')=true:=by
  obtain⟨vw,vb,vd,vr,vo,h0,h1,h2,h3,h4,h5,h6⟩:=h
  rw[← Array.all_toList,h0]
  obtain⟨_,_,rfl,_⟩:=h1
  obtain⟨_,_,rfl,_⟩:=h2
  obtain⟨_,_,rfl,_⟩:=h3 _ _ hb
  obtain⟨_,_,rfl,_⟩:=h4
  obtain⟨_,_,rfl,_⟩:=h5
  rfl
def d7 (v0:Value)(b:List Int)(res:aP × Int)(w:World)(e:Ending)(w':World) : Prop:=∃ cs,e = .returned (.tuple #[.agg cs,.int .i64 res.2])∧d8 v0 b w' cs.toList res.1∧aE [] w w'
theorem bj{v0:Value}{b:List Int}{M:aP}{c:ah}{w W:World}{cs:Array Value}(h0:c.endC.e=0)(h:d8 v0 b W cs.toList M)(hu:aE [] w W) : d7 v0 b (aF M c) w (.returned (.tuple #[.agg cs,.int .i64 0])) W:=by
  unfold aF
  rw[if_pos h0]
  exact⟨cs,rfl,h,hu⟩
theorem bf{v0:Value}{b:List Int}{M:aP}{c:ah}{w W:World}(h0:¬ c.endC.e=0)(hu:aE [] w W) : d7 v0 b (aF M c) w (.returned (.tuple #[.agg jC,.int .i64 c.endC.e])) W:=by
  unfold aF
  rw[if_neg h0]
  exact⟨jC,rfl,d8.zero ..,hu⟩
theorem bt{v0:Value}{b:List Int}{x:Int}{w W:World}(hu:aE [] w W) : d7 v0 b (aP.zero,x) w (.returned (.tuple #[.agg jC,.int .i64 x])) W:=⟨jC,rfl,d8.zero ..,hu⟩
theorem jD{m:Md}{A:Option Addr}{cp:Nat}{b:List Int}{w:World}{c:Int}(hcode:B8 c)(hsl:bg m w (.slice A b.length cp) b)(hb:b.length≤1048576) :
    Calls Tryz.prog 94 #[.int .i64 0,.int .u8 c,.slice A b.length cp] w (d7 (.slice A b.length cp) b (ae aH 0 c b) w):=by
 obtain⟨hcode1,hcode2⟩:=hcode
 have hln:(b.length:Int)≤1048576:=by omega
 refine en 221 Tryz.func94 rfl<|sg<|L0<|bJ mZ fun eH eI t k f=>Pl 1<|nt<|sq<|sg<|Pl 6<|nt<|c0<|?_
 refine bq<|sg<|Pl 2<|L0<|dt #[.slice A b.length cp,.int .i64 0,.bool false,.int .i64 0] fun l eJ d o i=>Pl 1<|ng<|Pl 2<|L0<|bJ mZ fun eK eL g a8 H=>L0<|b6 a8 (mC c) fun a6 a7 y=>?_
 refine nt<|sq<|bk<|sg<|Pl 15<|nt<|c0<|sg<|Pl 3<|cu 3 [68] 71 (((c==3)||(c==4))) (fun K bQ=>?_) ?_
 refine bl 68 ((c==3)) (fun a9=>?_) (fun a9=>?_)
 have dq:=al a9
 exact Pl 3<|ce bQ true (by rw[a9];rfl)
 have dq:=ap a9
 exact Pl 3<|ce bQ (c==4) (by rw[a9];rfl)
 refine Pl 1<|nt<|?_
 have a0:=ud H y g
 have r:=aI i a0
 have z:=aI f r
 refine cb (((c==3)||(c==4))) (fun q=>?_) (fun q=>?_)
 refine sg<|Pl 1<|?_
 have dr:RC w _ A cp b a6 l (ah.mk b false 0):=⟨hsl,z,(Nat.le_trans f.size d),⟨0,(ub a0 o),Nat.zero_le _,rfl⟩,by omega⟩
 refine L0<|Oc<|m3 (cK dr) fun eM ds bR eN=>Pl 1<|?_
 have ab:=nb (ak o) lr g
 refine L0<|bU (aT bR (Ne.symm ab) a7) 2 (mG c 0 ((ah.mk b false 0).wordV) 0 0 0 0 0 0 0 0 0 nS nS nS nS 0 0 0 0 0 nS) fun eO bS bT=>nt<|go<|Pl 2<|L0<|aR bS 2<|?_
 have b3:=us bR bT
 have bV:=ut z b3 (ac (ni f.size d) (ac (ni (le f.size i.size) g) au))
 refine L0<|Oc<|m3 (iW (a:=(ah.mk b false 0).wordV) (most:=125) (by omega) (RC.upd ds bT (aa ab ay) bV)) fun eP du bW eQ=>?_
 refine f8 du fun x52 bX dv=>?_
 refine L0<|tE (((ah.mk b false 0).wordsC 1).wordV)<|Pl 1<|?_
 refine L0<|bU (aT bW (Ne.symm ab) bS) 3 (mG c 0 ((ah.mk b false 0).wordV) (((ah.mk b false 0).wordsC 1).wordV) 0 0 0 0 0 0 0 0 nS nS nS nS 0 0 0 0 0 nS) fun eR dw bY=>nl<|bn<|tn<|sg<|Pl 1<|?_
 have b4:=us bW bY
 have c2:=ut bV b4 (ac (ni f.size d) (ac (ni (le f.size i.size) g) au))
 refine L0<|Oc<|m2 (dT (RC.upd dv bY (aa ab ay) c2)) fun eS b5 aN=>nt<|sq<|sg<|Pl 3<|L0<|dZ (p:=⟨l,3,none⟩) (v:=.int .i64 x52.endC.e) (RC.fld b5)<|Pl 1<|nt<|?_
 have c3:=ud c2 aN (le f.size d)
 refine cb ((x52.endC.e != 0)) (fun ad=>?_) (fun ad=>?_)
 have b7:=aq ad
 refine sq<|Rg 7 (fun w'=>w'.cell? ⟨l,3,none⟩=some (.int .i64 x52.endC.e)) fun eT aO=>?_
 have c4:=RC.upd b5 aO ay (aE.step (RC.u b5) aO)
 refine bh (RC.fld c4) fun af=>Rt 0 af<|Rt 1 af<|Rt 2 af<|Rt 3 af<|Rl 4 af (fun _ hs=>hs)<|?_
 refine R0 5 rfl<|b6 (ub (ut r (ut b3 (u1 b4 (aI aN aO) im) (ac im (ac im au))) (ac (nr d) (ac (ni i.size g) au))) k) mZ fun eU dx c5=>?_
 have c6:=ud c3 (uz aO c5) t
 refine bh (RC.fld (RC.upd c4 c5 (aa (Ne.symm (nb (ak k) lr d)) ay) c6)) fun dy=>Rt 6 dy<|re<|tn<|rt<|tr<|bF dx (.int .i64 x52.endC.e)<|?_
 have hs:ae aH 0 c b=aF (aP.mk c 0 ((ah.mk b false 0).wordV) (((ah.mk b false 0).wordsC 1).wordV) 0 0 0 0 0 0 0 0 [] [] [] [] 0 0 0 0 0 []) x52:=by
   subst bX
   unfold ae aH bK bN cP cy ck cz cD gw
   (try simp only[q,ad,bs,if_true,if_false,decide_true,decide_false,eq_self,true_or,or_true,or_false,false_or,if_true,if_false,ch,cc,bZ,cg,reduceIte,iA,iB])
   all_goals rfl
 rw[hs]
 exact bf b7 c6
 have b7:=ai ad
 refine bq<|sg<|?_
 refine L0<|cj (aT aN (Ne.symm ab) dw)<|?_
 refine L0<|b6 (ub (ut r (ut b3 (u1 b4 aN im) (ac im (ac im au))) (ac (nr d) (ac (ni i.size g) au))) k) (mG c 0 ((ah.mk b false 0).wordV) (((ah.mk b false 0).wordsC 1).wordV) 0 0 0 0 0 0 0 0 nS nS nS nS 0 0 0 0 0 nS) fun eV dz dA=>Pl 1<|nt<|rt<|bF dz (.int .i64 0)<|?_
 have hs:ae aH 0 c b=aF (aP.mk c 0 ((ah.mk b false 0).wordV) (((ah.mk b false 0).wordsC 1).wordV) 0 0 0 0 0 0 0 0 [] [] [] [] 0 0 0 0 0 []) x52:=by
   subst bX
   unfold ae aH bK bN cP cy ck cz cD gw
   (try simp only[q,ad,bs,if_true,if_false,decide_true,decide_false,eq_self,true_or,or_true,or_false,false_or,if_true,if_false,ch,cc,bZ,cg,reduceIte,iA,iB])
   all_goals rfl
 rw[hs]
 exact bj b7 ⟨_,_,_,_,_,rfl,aK.nil ..,aK.nil ..,(fun _ _ _=>aK.nil ..),aK.nil ..,aK.nil ..,⟨(b8 (x:=c) (by omega)),(b8 (x:=0) (by omega)),(aB (x:=(ah.mk b false 0).wordV) (by omega)),(aB (x:=((ah.mk b false 0).wordsC 1).wordV) (by omega)),(aB (x:=0) (by omega)),(aB (x:=0) (by omega)),(aB (x:=0) (by omega)),(aB (x:=0) (by omega)),(aB (x:=0) (by omega)),(aB (x:=0) (by omega)),(aB (x:=0) (by omega)),(aB (x:=0) (by omega)),(b8 (x:=0) (by omega)),(b8 (x:=0) (by omega)),(b8 (x:=0) (by omega)),(b8 (x:=0) (by omega)),(b8 (x:=0) (by omega))⟩⟩ (ud c3 dA t)
 have B:=(aJ q).1
 have C:=(aJ q).2
 have eW:=ap B
 have eX:=ap C
 refine sg<|Pl 3<|nt<|cb ((c==6)) (fun s=>?_) (fun s=>?_)
 have dB:=al s
 refine sg<|Pl 1<|?_
 have dD:RC w _ A cp b a6 l (ah.mk b false 0):=⟨hsl,z,(Nat.le_trans f.size d),⟨0,(ub a0 o),Nat.zero_le _,rfl⟩,by omega⟩
 refine L0<|Oc<|m3 (cK dD) fun eY dE c7 eZ=>Pl 1<|?_
 have ag:=nb (ak o) lr g
 refine L0<|bU (aT c7 (Ne.symm ag) a7) 2 (mG c 0 ((ah.mk b false 0).wordV) 0 0 0 0 0 0 0 0 0 nS nS nS nS 0 0 0 0 0 nS) fun f0 dF c8=>nt<|go<|Pl 1<|?_
 have b9:=us c7 c8
 have c9:=ut z b9 (ac (ni f.size d) (ac (ni (le f.size i.size) g) au))
 refine L0<|Oc<|m3 (cK (RC.upd dE c8 (aa ag ay) c9)) fun f1 dG ca f2=>Pl 1<|?_
 refine L0<|bU (aT ca (Ne.symm ag) dF) 4 (mG c 0 ((ah.mk b false 0).wordV) 0 (((ah.mk b false 0).wordsC 1).wordV) 0 0 0 0 0 0 0 nS nS nS nS 0 0 0 0 0 nS) fun f3 dH cd=>nl<|bn<|tn<|sg<|Pl 1<|?_
 have ba:=us ca cd
 have ci:=ut c9 ba (ac (ni f.size d) (ac (ni (le f.size i.size) g) au))
 refine L0<|Oc<|m2 (dT (RC.upd dG cd (aa ag ay) ci)) fun f4 bb aQ=>nt<|sq<|sg<|Pl 3<|L0<|dZ (p:=⟨l,3,none⟩) (v:=.int .i64 (((((ah.mk b false 0).wordsC 1).wordsC 1).endC).e)) (RC.fld bb)<|Pl 1<|nt<|?_
 have cl:=ud ci aQ (le f.size d)
 refine cb (((((((ah.mk b false 0).wordsC 1).wordsC 1).endC).e)!=0)) (fun aj=>?_) (fun aj=>?_)
 have bc:=aq aj
 refine sq<|Rg 7 (fun w'=>w'.cell? ⟨l,3,none⟩=some (.int .i64 (((((ah.mk b false 0).wordsC 1).wordsC 1).endC).e))) fun f5 aS=>?_
 have cm:=RC.upd bb aS ay (aE.step (RC.u bb) aS)
 refine bh (RC.fld cm) fun am=>Rt 0 am<|Rt 1 am<|Rt 2 am<|Rt 3 am<|Rl 4 am (fun _ hs=>hs)<|?_
 refine R0 5 rfl<|b6 (ub (ut r (ut b9 (u1 ba (aI aQ aS) im) (ac im (ac im au))) (ac (nr d) (ac (ni i.size g) au))) k) mZ fun f6 dI cn=>?_
 have co:=ud cl (uz aS cn) t
 refine bh (RC.fld (RC.upd cm cn (aa (Ne.symm (nb (ak k) lr d)) ay) co)) fun dJ=>Rt 6 dJ<|re<|tn<|rt<|tr<|bF dI (.int .i64 (((((ah.mk b false 0).wordsC 1).wordsC 1).endC).e))<|?_
 have hs:ae aH 0 c b=aF (aP.mk c 0 ((ah.mk b false 0).wordV) 0 (((ah.mk b false 0).wordsC 1).wordV) 0 0 0 0 0 0 0 [] [] [] [] 0 0 0 0 0 []) (((ah.mk b false 0).wordsC 1).wordsC 1):=by
   unfold ae aH bK bN cP cy ck cz cD gw
   (try simp only[q,B,C,s,aj,bs,if_true,if_false,decide_true,decide_false,eq_self,true_or,or_true,or_false,false_or,if_true,if_false,ch,cc,bZ,cg,reduceIte,iA,iB])
   all_goals rfl
 rw[hs]
 exact bf bc co
 have bc:=ai aj
 refine bq<|sg<|?_
 refine L0<|cj (aT aQ (Ne.symm ag) dH)<|?_
 refine L0<|b6 (ub (ut r (ut b9 (u1 ba aQ im) (ac im (ac im au))) (ac (nr d) (ac (ni i.size g) au))) k) (mG c 0 ((ah.mk b false 0).wordV) 0 (((ah.mk b false 0).wordsC 1).wordV) 0 0 0 0 0 0 0 nS nS nS nS 0 0 0 0 0 nS) fun f7 dK dL=>Pl 1<|nt<|rt<|bF dK (.int .i64 0)<|?_
 have hs:ae aH 0 c b=aF (aP.mk c 0 ((ah.mk b false 0).wordV) 0 (((ah.mk b false 0).wordsC 1).wordV) 0 0 0 0 0 0 0 [] [] [] [] 0 0 0 0 0 []) (((ah.mk b false 0).wordsC 1).wordsC 1):=by
   unfold ae aH bK bN cP cy ck cz cD gw
   (try simp only[q,B,C,s,aj,bs,if_true,if_false,decide_true,decide_false,eq_self,true_or,or_true,or_false,false_or,if_true,if_false,ch,cc,bZ,cg,reduceIte,iA,iB])
   all_goals rfl
 rw[hs]
 exact bj bc ⟨_,_,_,_,_,rfl,aK.nil ..,aK.nil ..,(fun _ _ _=>aK.nil ..),aK.nil ..,aK.nil ..,⟨(b8 (x:=c) (by omega)),(b8 (x:=0) (by omega)),(aB (x:=(ah.mk b false 0).wordV) (by omega)),(aB (x:=0) (by omega)),(aB (x:=((ah.mk b false 0).wordsC 1).wordV) (by omega)),(aB (x:=0) (by omega)),(aB (x:=0) (by omega)),(aB (x:=0) (by omega)),(aB (x:=0) (by omega)),(aB (x:=0) (by omega)),(aB (x:=0) (by omega)),(aB (x:=0) (by omega)),(b8 (x:=0) (by omega)),(b8 (x:=0) (by omega)),(b8 (x:=0) (by omega)),(b8 (x:=0) (by omega)),(b8 (x:=0) (by omega))⟩⟩ (ud cl dL t)
 have dB:=ap s
 refine sg<|Pl 3<|nt<|cb ((c==16)) (fun D=>?_) (fun D=>?_)
 have dM:=al D
 refine sg<|Pl 1<|?_
 have dN:RC w _ A cp b a6 l (ah.mk b false 0):=⟨hsl,z,(Nat.le_trans f.size d),⟨0,(ub a0 o),Nat.zero_le _,rfl⟩,by omega⟩
 refine L0<|Oc<|m3 (cK dN) fun f9 dO L fa=>Pl 1<|?_
 have I:=nb (ak o) lr g
 refine L0<|bU (aT L (Ne.symm I) a7) 2 (mG c 0 ((ah.mk b false 0).wordV) 0 0 0 0 0 0 0 0 0 nS nS nS nS 0 0 0 0 0 nS) fun fb cq M=>ng<|Pl 2<|L0<|aR cq 2<|?_
 have bd:=us L M
 have cr:=ut z bd (ac (ni f.size d) (ac (ni (le f.size i.size) g) au))
 refine L0<|Oc<|m3 (iW (a:=(ah.mk b false 0).wordV) (most:=123) (by omega) (RC.upd dO M (aa I ay) cr)) fun fc dP N fd=>?_
 refine f8 dP fun cs ct dQ=>?_
 refine L0<|tE (((ah.mk b false 0).wordsC 1).wordV)<|Pl 1<|?_
 refine L0<|bU (aT N (Ne.symm I) cq) 3 (mG c 0 ((ah.mk b false 0).wordV) (((ah.mk b false 0).wordsC 1).wordV) 0 0 0 0 0 0 0 0 nS nS nS nS 0 0 0 0 0 nS) fun fe dR O=>ng<|Pl 2<|nt<|c1<|sg<|Pl 1<|?_
 have be:=us N O
 have cv:=ut cr be (ac (ni f.size d) (ac (ni (le f.size i.size) g) au))
 refine L0<|Oc<|m3 (dC (RC.upd dQ O (aa I ay) cv)) fun ff dS P fg=>L0<|Oi cs.byteV<|Pl 1<|ng<|Pl 3<|?_
 have cw:=aT P (Ne.symm I) dR
 refine L0<|aR cw 3<|L0<|Oi (((ah.mk b false 0).wordsC 1).wordV)<|L0<|Oi (2*(((ah.mk b false 0).wordsC 1).wordV))<|Pl 1<|L0<|Oc<|m2 (aV ((cs.byteV==(2*(((ah.mk b false 0).wordsC 1).wordV)))) 5 dS) fun fh dU Q=>?_
 refine f8 dU fun E cx dV=>?_
 refine nt<|go<|Pl 2<|?_
 have cA:=aT Q (Ne.symm I) cw
 refine L0<|aR cA 3<|L0<|Oi (((ah.mk b false 0).wordsC 1).wordV)<|L0<|Oc<|ly (fj (n:=((ah.mk b false 0).wordsC 1).wordV) (by omega) dV) fun cB cC fi R fk fl dW cE=>Pl 1<|?_
 refine L0<|bU (aT cE (Ne.symm I) cA) 12 (mG c 0 ((ah.mk b false 0).wordV) (((ah.mk b false 0).wordsC 1).wordV) 0 0 0 0 0 0 0 0 (.slice cB ((E.wordsR (((ah.mk b false 0).wordsC 1).wordV)).length) cC) nS nS nS 0 0 0 0 0 nS) fun fm dX aU=>nl<|bn<|tn<|sg<|Pl 1<|?_
 have bi:=ui P (ui Q (us cE aU))
 have cF:=ut cv bi (ac (ni f.size d) (ac (ni (le f.size i.size) g) au))
 refine L0<|Oc<|m2 (dT (RC.upd dW aU (aa I ay) cF)) fun fn bm an=>nt<|sq<|sg<|Pl 3<|L0<|dZ (p:=⟨l,3,none⟩) (v:=.int .i64 (((E.wordsC (((ah.mk b false 0).wordsC 1).wordV)).endC).e)) (RC.fld bm)<|Pl 1<|nt<|?_
 have cG:=ud cF an (le f.size d)
 refine cb (((((E.wordsC (((ah.mk b false 0).wordsC 1).wordV)).endC).e)!=0)) (fun ao=>?_) (fun ao=>?_)
 have bo:=aq ao
 refine sq<|Rg 7 (fun w'=>w'.cell? ⟨l,3,none⟩=some (.int .i64 (((E.wordsC (((ah.mk b false 0).wordsC 1).wordV)).endC).e))) fun fo aW=>?_
 have cH:=RC.upd bm aW ay (aE.step (RC.u bm) aW)
 refine bh (RC.fld cH) fun ar=>Rt 0 ar<|Rt 1 ar<|Rt 2 ar<|Rt 3 ar<|Rl 4 ar (fun _ hs=>hs)<|?_
 have cI:=aI an aW
 refine R0 5 rfl<|b6 (ub (ut r (ut bd (ut be (u1 bi cI im) (ac im (ac im au))) (ac im (ac im au))) (ac (nr d) (ac (ni i.size g) au))) k) mZ fun fp dY bp=>?_
 have cJ:=ud cG (uz aW bp) t
 refine bh (RC.fld (RC.upd cH bp (aa (Ne.symm (nb (ak k) lr d)) ay) cJ)) fun e0=>Rt 6 e0<|re<|tn<|rt<|tr<|bF dY (.int .i64 (((E.wordsC (((ah.mk b false 0).wordsC 1).wordV)).endC).e))<|?_
 have fq:=ax R (us aU (us cI bp)) (fun x hx=>(aa (fun e=>(aA (ak a8) (le (le (le (le (le (le y.size L.size) M.size) N.size) O.size) P.size) Q.size) R) (e▸hx)) (aa (fun e=>(aA (ak o) (le (le (le (le (le (le (le H.size y.size) L.size) M.size) N.size) O.size) P.size) Q.size) R) (e▸hx)) (aa (fun e=>(aA (ak k) (le (le (le (le (le (le (le (le i.size H.size) y.size) L.size) M.size) N.size) O.size) P.size) Q.size) R) (e▸hx)) ay)))) (fun _ _ h=>h)
 have hs:ae aH 0 c b=aF (aP.mk c 0 ((ah.mk b false 0).wordV) (((ah.mk b false 0).wordsC 1).wordV) 0 0 0 0 0 0 0 0 (E.wordsR (((ah.mk b false 0).wordsC 1).wordV)) [] [] [] 0 0 0 0 0 []) (E.wordsC (((ah.mk b false 0).wordsC 1).wordV)):=by
   subst cx ct
   unfold ae aH bK bN cP cy ck cz cD gw
   (try simp only[q,B,C,s,D,ao,bs,if_true,if_false,decide_true,decide_false,eq_self,true_or,or_true,or_false,false_or,if_true,if_false,ch,cc,bZ,cg,reduceIte,iA,iB])
   all_goals rfl
 rw[hs]
 exact bf bo cJ
 have bo:=ai ao
 refine bq<|sg<|?_
 refine L0<|cj (aT an (Ne.symm I) dX)<|?_
 refine L0<|b6 (ub (ut r (ut bd (ut be (u1 bi an im) (ac im (ac im au))) (ac im (ac im au))) (ac (nr d) (ac (ni i.size g) au))) k) (mG c 0 ((ah.mk b false 0).wordV) (((ah.mk b false 0).wordsC 1).wordV) 0 0 0 0 0 0 0 0 (.slice cB ((E.wordsR (((ah.mk b false 0).wordsC 1).wordV)).length) cC) nS nS nS 0 0 0 0 0 nS) fun fr e1 cL=>Pl 1<|nt<|rt<|bF e1 (.int .i64 0)<|?_
 have hs:ae aH 0 c b=aF (aP.mk c 0 ((ah.mk b false 0).wordV) (((ah.mk b false 0).wordsC 1).wordV) 0 0 0 0 0 0 0 0 (E.wordsR (((ah.mk b false 0).wordsC 1).wordV)) [] [] [] 0 0 0 0 0 []) (E.wordsC (((ah.mk b false 0).wordsC 1).wordV)):=by
   subst cx ct
   unfold ae aH bK bN cP cy ck cz cD gw
   (try simp only[q,B,C,s,D,ao,bs,if_true,if_false,decide_true,decide_false,eq_self,true_or,or_true,or_false,false_or,if_true,if_false,ch,cc,bZ,cg,reduceIte,iA,iB])
   all_goals rfl
 rw[hs]
 exact bj bo ⟨_,_,_,_,_,rfl,((ax R (us aU (us an cL)) (fun x hx=>(aa (fun e=>(aA (ak a8) (le (le (le (le (le (le y.size L.size) M.size) N.size) O.size) P.size) Q.size) R) (e▸hx)) (aa (fun e=>(aA (ak o) (le (le (le (le (le (le (le H.size y.size) L.size) M.size) N.size) O.size) P.size) Q.size) R) (e▸hx)) (aa (fun e=>(aA (ak k) (le (le (le (le (le (le (le (le i.size H.size) y.size) L.size) M.size) N.size) O.size) P.size) Q.size) R) (e▸hx)) ay)))) (fun _ _ h=>h))).rd,aK.nil ..,(fun _ _ _=>aK.nil ..),aK.nil ..,aK.nil ..,⟨(b8 (x:=c) (by omega)),(b8 (x:=0) (by omega)),(aB (x:=(ah.mk b false 0).wordV) (by omega)),(aB (x:=((ah.mk b false 0).wordsC 1).wordV) (by omega)),(aB (x:=0) (by omega)),(aB (x:=0) (by omega)),(aB (x:=0) (by omega)),(aB (x:=0) (by omega)),(aB (x:=0) (by omega)),(aB (x:=0) (by omega)),(aB (x:=0) (by omega)),(aB (x:=0) (by omega)),(b8 (x:=0) (by omega)),(b8 (x:=0) (by omega)),(b8 (x:=0) (by omega)),(b8 (x:=0) (by omega)),(b8 (x:=0) (by omega))⟩⟩ (ud cG cL t)
 have dM:=ap D
 refine sg<|Pl 3<|nt<|cb ((c==22)) (fun F=>?_) (fun F=>?_)
 have e2:=al F
 refine sg<|Pl 1<|?_
 have e3:RC w _ A cp b a6 l (ah.mk b false 0):=⟨hsl,z,(Nat.le_trans f.size d),⟨0,(ub a0 o),Nat.zero_le _,rfl⟩,by omega⟩
 refine L0<|Oc<|m3 (cK e3) fun fs e4 cM ft=>Pl 1<|?_
 have a1:=nb (ak o) lr g
 refine L0<|bU (aT cM (Ne.symm a1) a7) 2 (mG c 0 ((ah.mk b false 0).wordV) 0 0 0 0 0 0 0 0 0 nS nS nS nS 0 0 0 0 0 nS) fun fu e5 cN=>ng<|Pl 1<|?_
 have bu:=us cM cN
 have cO:=ut z bu (ac (ni f.size d) (ac (ni (le f.size i.size) g) au))
 refine L0<|Oc<|m3 (cK (RC.upd e4 cN (aa a1 ay) cO)) fun fv e6 cQ fw=>Pl 1<|?_
 refine L0<|bU (aT cQ (Ne.symm a1) e5) 5 (mG c 0 ((ah.mk b false 0).wordV) 0 0 (((ah.mk b false 0).wordsC 1).wordV) 0 0 0 0 0 0 nS nS nS nS 0 0 0 0 0 nS) fun fx e7 cR=>nt<|go<|Pl 1<|?_
 have bv:=us cQ cR
 have cS:=ut cO bv (ac (ni f.size d) (ac (ni (le f.size i.size) g) au))
 refine L0<|Oc<|m3 (cK (RC.upd e6 cR (aa a1 ay) cS)) fun fy e8 cT fz=>Pl 1<|?_
 refine L0<|bU (aT cT (Ne.symm a1) e7) 6 (mG c 0 ((ah.mk b false 0).wordV) 0 0 (((ah.mk b false 0).wordsC 1).wordV) ((((ah.mk b false 0).wordsC 1).wordsC 1).wordV) 0 0 0 0 0 nS nS nS nS 0 0 0 0 0 nS) fun fA e9 cU=>nl<|bn<|tn<|sg<|Pl 1<|?_
 have bw:=us cT cU
 have cV:=ut cS bw (ac (ni f.size d) (ac (ni (le f.size i.size) g) au))
 refine L0<|Oc<|m2 (dT (RC.upd e8 cU (aa a1 ay) cV)) fun fB bx aX=>nt<|sq<|sg<|Pl 3<|L0<|dZ (p:=⟨l,3,none⟩) (v:=.int .i64 ((((((ah.mk b false 0).wordsC 1).wordsC 1).wordsC 1).endC).e)) (RC.fld bx)<|Pl 1<|nt<|?_
 have cW:=ud cV aX (le f.size d)
 refine cb ((((((((ah.mk b false 0).wordsC 1).wordsC 1).wordsC 1).endC).e)!=0)) (fun av=>?_) (fun av=>?_)
 have bz:=aq av
 refine sq<|Rg 7 (fun w'=>w'.cell? ⟨l,3,none⟩=some (.int .i64 ((((((ah.mk b false 0).wordsC 1).wordsC 1).wordsC 1).endC).e))) fun fC aY=>?_
 have cX:=RC.upd bx aY ay (aE.step (RC.u bx) aY)
 refine bh (RC.fld cX) fun aw=>Rt 0 aw<|Rt 1 aw<|Rt 2 aw<|Rt 3 aw<|Rl 4 aw (fun _ hs=>hs)<|?_
 refine R0 5 rfl<|b6 (ub (ut r (ut bu (ut bv (u1 bw (aI aX aY) im) (ac im (ac im au))) (ac im (ac im au))) (ac (nr d) (ac (ni i.size g) au))) k) mZ fun fD ea cY=>?_
 have cZ:=ud cW (uz aY cY) t
 refine bh (RC.fld (RC.upd cX cY (aa (Ne.symm (nb (ak k) lr d)) ay) cZ)) fun eb=>Rt 6 eb<|re<|tn<|rt<|tr<|bF ea (.int .i64 ((((((ah.mk b false 0).wordsC 1).wordsC 1).wordsC 1).endC).e))<|?_
 have hs:ae aH 0 c b=aF (aP.mk c 0 ((ah.mk b false 0).wordV) 0 0 (((ah.mk b false 0).wordsC 1).wordV) ((((ah.mk b false 0).wordsC 1).wordsC 1).wordV) 0 0 0 0 0 [] [] [] [] 0 0 0 0 0 []) ((((ah.mk b false 0).wordsC 1).wordsC 1).wordsC 1):=by
   unfold ae aH bK bN cP cy ck cz cD gw
   (try simp only[q,B,C,s,D,F,av,bs,if_true,if_false,decide_true,decide_false,eq_self,true_or,or_true,or_false,false_or,if_true,if_false,ch,cc,bZ,cg,reduceIte,iA,iB])
   all_goals rfl
 rw[hs]
 exact bf bz cZ
 have bz:=ai av
 refine bq<|sg<|?_
 refine L0<|cj (aT aX (Ne.symm a1) e9)<|?_
 refine L0<|b6 (ub (ut r (ut bu (ut bv (u1 bw aX im) (ac im (ac im au))) (ac im (ac im au))) (ac (nr d) (ac (ni i.size g) au))) k) (mG c 0 ((ah.mk b false 0).wordV) 0 0 (((ah.mk b false 0).wordsC 1).wordV) ((((ah.mk b false 0).wordsC 1).wordsC 1).wordV) 0 0 0 0 0 nS nS nS nS 0 0 0 0 0 nS) fun fE ec ed=>Pl 1<|nt<|rt<|bF ec (.int .i64 0)<|?_
 have hs:ae aH 0 c b=aF (aP.mk c 0 ((ah.mk b false 0).wordV) 0 0 (((ah.mk b false 0).wordsC 1).wordV) ((((ah.mk b false 0).wordsC 1).wordsC 1).wordV) 0 0 0 0 0 [] [] [] [] 0 0 0 0 0 []) ((((ah.mk b false 0).wordsC 1).wordsC 1).wordsC 1):=by
   unfold ae aH bK bN cP cy ck cz cD gw
   (try simp only[q,B,C,s,D,F,av,bs,if_true,if_false,decide_true,decide_false,eq_self,true_or,or_true,or_false,false_or,if_true,if_false,ch,cc,bZ,cg,reduceIte,iA,iB])
   all_goals rfl
 rw[hs]
 exact bj bz ⟨_,_,_,_,_,rfl,aK.nil ..,aK.nil ..,(fun _ _ _=>aK.nil ..),aK.nil ..,aK.nil ..,⟨(b8 (x:=c) (by omega)),(b8 (x:=0) (by omega)),(aB (x:=(ah.mk b false 0).wordV) (by omega)),(aB (x:=0) (by omega)),(aB (x:=0) (by omega)),(aB (x:=((ah.mk b false 0).wordsC 1).wordV) (by omega)),(aB (x:=(((ah.mk b false 0).wordsC 1).wordsC 1).wordV) (by omega)),(aB (x:=0) (by omega)),(aB (x:=0) (by omega)),(aB (x:=0) (by omega)),(aB (x:=0) (by omega)),(aB (x:=0) (by omega)),(b8 (x:=0) (by omega)),(b8 (x:=0) (by omega)),(b8 (x:=0) (by omega)),(b8 (x:=0) (by omega)),(b8 (x:=0) (by omega))⟩⟩ (ud cW ed t)
 have e2:=ap F
 refine sg<|Pl 3<|nt<|cb ((c==23)) (fun S=>?_) (fun S=>?_)
 have ee:=al S
 refine sg<|Pl 1<|?_
 have ef:RC w _ A cp b a6 l (ah.mk b false 0):=⟨hsl,z,(Nat.le_trans f.size d),⟨0,(ub a0 o),Nat.zero_le _,rfl⟩,by omega⟩
 refine L0<|Oc<|m3 (cK ef) fun fF eg T fG=>Pl 1<|?_
 have J:=nb (ak o) lr g
 refine L0<|bU (aT T (Ne.symm J) a7) 2 (mG c 0 ((ah.mk b false 0).wordV) 0 0 0 0 0 0 0 0 0 nS nS nS nS 0 0 0 0 0 nS) fun fH d0 U=>ng<|Pl 2<|L0<|aR d0 2<|?_
 have bA:=us T U
 have d1:=ut z bA (ac (ni f.size d) (ac (ni (le f.size i.size) g) au))
 refine L0<|Oc<|m3 (iW (a:=(ah.mk b false 0).wordV) (most:=125) (by omega) (RC.upd eg U (aa J ay) d1)) fun fI eh V fJ=>?_
 refine f8 eh fun j d2 ei=>?_
 refine L0<|tE (((ah.mk b false 0).wordsC 1).wordV)<|Pl 1<|?_
 refine L0<|bU (aT V (Ne.symm J) d0) 3 (mG c 0 ((ah.mk b false 0).wordV) (((ah.mk b false 0).wordsC 1).wordV) 0 0 0 0 0 0 0 0 nS nS nS nS 0 0 0 0 0 nS) fun fK ej W=>ng<|Pl 1<|?_
 have bB:=us V W
 have d3:=ut d1 bB (ac (ni f.size d) (ac (ni (le f.size i.size) g) au))
 refine L0<|Oc<|m3 (cK (RC.upd ei W (aa J ay) d3)) fun fL ek X fM=>Pl 1<|?_
 refine L0<|bU (aT X (Ne.symm J) ej) 7 (mG c 0 ((ah.mk b false 0).wordV) (((ah.mk b false 0).wordsC 1).wordV) 0 0 0 j.wordV 0 0 0 0 nS nS nS nS 0 0 0 0 0 nS) fun fN d4 Y=>ng<|Pl 2<|L0<|aR d4 7<|?_
 have bC:=us X Y
 have d5:=ut d3 bC (ac (ni f.size d) (ac (ni (le f.size i.size) g) au))
 refine L0<|Oc<|m3 (iW (a:=j.wordV) (most:=121) (by omega) (RC.upd ek Y (aa J ay) d5)) fun fO el a2 fP=>Pl 1<|ng<|Pl 1<|L0<|Oc<|m3 (dC el) fun fQ em a3 fR=>L0<|Oi ((bI (j.wordsC 1) j.wordV 121).byteV)<|Pl 1<|ng<|?_
 refine Pl 3<|L0<|Oi (2*((j.wordsC 1).wordV))<|Pl 1<|L0<|Oc<|m2 (aV ((((bI (j.wordsC 1) j.wordV 121).byteV)==(2*((j.wordsC 1).wordV)))) 5 em) fun fS eo a4=>?_
 refine f8 eo fun G d6 ep=>?_
 refine nt<|go<|Pl 2<|L0<|Oc<|ly (fj (n:=(j.wordsC 1).wordV) (by omega) ep) fun d8 d9 fT Z fU fV eq er=>Pl 1<|?_
 have da:=u1 a2 (u1 a3 (u1 a4 er im) im) im
 refine L0<|bU (aT da (Ne.symm J) d4) 12 (mG c 0 ((ah.mk b false 0).wordV) (((ah.mk b false 0).wordsC 1).wordV) 0 0 0 j.wordV 0 0 0 0 (.slice d8 ((G.wordsR ((j.wordsC 1).wordV)).length) d9) nS nS nS 0 0 0 0 0 nS) fun fW es aZ=>nl<|bn<|tn<|sg<|Pl 1<|?_
 have bD:=us da aZ
 have db:=ut d5 bD (ac (ni f.size d) (ac (ni (le f.size i.size) g) au))
 refine L0<|Oc<|m2 (dT (RC.upd eq aZ (aa J ay) db)) fun fX bE az=>nt<|sq<|sg<|Pl 3<|L0<|dZ (p:=⟨l,3,none⟩) (v:=.int .i64 (((G.wordsC ((j.wordsC 1).wordV)).endC).e)) (RC.fld bE)<|Pl 1<|nt<|?_
 have dc:=ud db az (le f.size d)
 refine cb (((((G.wordsC ((j.wordsC 1).wordV)).endC).e)!=0)) (fun aC=>?_) (fun aC=>?_)
 have bG:=aq aC
 refine sq<|Rg 7 (fun w'=>w'.cell? ⟨l,3,none⟩=some (.int .i64 (((G.wordsC ((j.wordsC 1).wordV)).endC).e))) fun fY b0=>?_
 have dd:=RC.upd bE b0 ay (aE.step (RC.u bE) b0)
 refine bh (RC.fld dd) fun aD=>Rt 0 aD<|Rt 1 aD<|Rt 2 aD<|Rt 3 aD<|Rl 4 aD (fun _ hs=>hs)<|?_
 have de:=aI az b0
 refine R0 5 rfl<|b6 (ub (ut r (ut bA (ut bB (ut bC (u1 bD de im) (ac im (ac im au))) (ac im (ac im au))) (ac im (ac im au))) (ac (nr d) (ac (ni i.size g) au))) k) mZ fun fZ et bH=>?_
 have df:=ud dc (uz b0 bH) t
 refine bh (RC.fld (RC.upd dd bH (aa (Ne.symm (nb (ak k) lr d)) ay) df)) fun eu=>Rt 6 eu<|re<|tn<|rt<|tr<|bF et (.int .i64 (((G.wordsC ((j.wordsC 1).wordV)).endC).e))<|?_
 have g0:=ax Z (us aZ (us de bH)) (fun x hx=>(aa (fun e=>(aA (ak a8) (le (le (le (le (le (le (le (le (le y.size T.size) U.size) V.size) W.size) X.size) Y.size) a2.size) a3.size) a4.size) Z) (e▸hx)) (aa (fun e=>(aA (ak o) (le (le (le (le (le (le (le (le (le (le H.size y.size) T.size) U.size) V.size) W.size) X.size) Y.size) a2.size) a3.size) a4.size) Z) (e▸hx)) (aa (fun e=>(aA (ak k) (le (le (le (le (le (le (le (le (le (le (le i.size H.size) y.size) T.size) U.size) V.size) W.size) X.size) Y.size) a2.size) a3.size) a4.size) Z) (e▸hx)) ay)))) (fun _ _ h=>h)
 have hs:ae aH 0 c b=aF (aP.mk c 0 ((ah.mk b false 0).wordV) (((ah.mk b false 0).wordsC 1).wordV) 0 0 0 j.wordV 0 0 0 0 (G.wordsR ((j.wordsC 1).wordV)) [] [] [] 0 0 0 0 0 []) (G.wordsC ((j.wordsC 1).wordV)):=by
   subst d6 d2
   unfold ae aH bK bN cP cy ck cz cD gw
   (try simp only[q,B,C,s,D,F,S,aC,bs,if_true,if_false,decide_true,decide_false,eq_self,true_or,or_true,or_false,false_or,if_true,if_false,ch,cc,bZ,cg,reduceIte,iA,iB])
   all_goals rfl
 rw[hs]
 exact bf bG df
 have bG:=ai aC
 refine bq<|sg<|?_
 refine L0<|cj (aT az (Ne.symm J) es)<|?_
 refine L0<|b6 (ub (ut r (ut bA (ut bB (ut bC (u1 bD az im) (ac im (ac im au))) (ac im (ac im au))) (ac im (ac im au))) (ac (nr d) (ac (ni i.size g) au))) k) (mG c 0 ((ah.mk b false 0).wordV) (((ah.mk b false 0).wordsC 1).wordV) 0 0 0 j.wordV 0 0 0 0 (.slice d8 ((G.wordsR ((j.wordsC 1).wordV)).length) d9) nS nS nS 0 0 0 0 0 nS) fun g1 ev dg=>Pl 1<|nt<|rt<|bF ev (.int .i64 0)<|?_
 have hs:ae aH 0 c b=aF (aP.mk c 0 ((ah.mk b false 0).wordV) (((ah.mk b false 0).wordsC 1).wordV) 0 0 0 j.wordV 0 0 0 0 (G.wordsR ((j.wordsC 1).wordV)) [] [] [] 0 0 0 0 0 []) (G.wordsC ((j.wordsC 1).wordV)):=by
   subst d6 d2
   unfold ae aH bK bN cP cy ck cz cD gw
   (try simp only[q,B,C,s,D,F,S,aC,bs,if_true,if_false,decide_true,decide_false,eq_self,true_or,or_true,or_false,false_or,if_true,if_false,ch,cc,bZ,cg,reduceIte,iA,iB])
   all_goals rfl
 rw[hs]
 exact bj bG ⟨_,_,_,_,_,rfl,((ax Z (us aZ (us az dg)) (fun x hx=>(aa (fun e=>(aA (ak a8) (le (le (le (le (le (le (le (le (le y.size T.size) U.size) V.size) W.size) X.size) Y.size) a2.size) a3.size) a4.size) Z) (e▸hx)) (aa (fun e=>(aA (ak o) (le (le (le (le (le (le (le (le (le (le H.size y.size) T.size) U.size) V.size) W.size) X.size) Y.size) a2.size) a3.size) a4.size) Z) (e▸hx)) (aa (fun e=>(aA (ak k) (le (le (le (le (le (le (le (le (le (le (le i.size H.size) y.size) T.size) U.size) V.size) W.size) X.size) Y.size) a2.size) a3.size) a4.size) Z) (e▸hx)) ay)))) (fun _ _ h=>h))).rd,aK.nil ..,(fun _ _ _=>aK.nil ..),aK.nil ..,aK.nil ..,⟨(b8 (x:=c) (by omega)),(b8 (x:=0) (by omega)),(aB (x:=(ah.mk b false 0).wordV) (by omega)),(aB (x:=((ah.mk b false 0).wordsC 1).wordV) (by omega)),(aB (x:=0) (by omega)),(aB (x:=0) (by omega)),(aB (x:=0) (by omega)),(aB (x:=j.wordV) (by omega)),(aB (x:=0) (by omega)),(aB (x:=0) (by omega)),(aB (x:=0) (by omega)),(aB (x:=0) (by omega)),(b8 (x:=0) (by omega)),(b8 (x:=0) (by omega)),(b8 (x:=0) (by omega)),(b8 (x:=0) (by omega)),(b8 (x:=0) (by omega))⟩⟩ (ud dc dg t)
 have ee:=ap S
 refine sg<|Pl 3<|cu 3 [168] 171 ((c==24)) (fun K dh=>?_) ?_
 refine bl 168 ((c==24)) (fun aG=>?_) (fun aG=>?_)
 have ew:=al aG
 exact Pl 3<|ce dh true aG
 have ew:=ap aG
 exact Pl 3<|ce dh false aG
 refine Pl 1<|nt<|cb ((c==24)) (fun a5=>?_) (fun a5=>?_)
 have ex:=al a5
 refine go<|Pl 1<|?_
 have ey:RC w _ A cp b a6 l (ah.mk b false 0):=⟨hsl,z,(Nat.le_trans f.size d),⟨0,(ub a0 o),Nat.zero_le _,rfl⟩,by omega⟩
 refine L0<|Oc<|m3 (cK ey) fun g2 ez di g3=>Pl 1<|?_
 have bL:=nb (ak o) lr g
 refine L0<|bU (aT di (Ne.symm bL) a7) 2 (mG c 0 ((ah.mk b false 0).wordV) 0 0 0 0 0 0 0 0 0 nS nS nS nS 0 0 0 0 0 nS) fun g4 eA dj=>nl<|bn<|tn<|sg<|Pl 1<|?_
 have bM:=us di dj
 have dk:=ut z bM (ac (ni f.size d) (ac (ni (le f.size i.size) g) au))
 refine L0<|Oc<|m2 (dT (RC.upd ez dj (aa bL ay) dk)) fun g5 bO b1=>nt<|sq<|sg<|Pl 3<|L0<|dZ (p:=⟨l,3,none⟩) (v:=.int .i64 ((((ah.mk b false 0).wordsC 1).endC).e)) (RC.fld bO)<|Pl 1<|nt<|?_
 have dl:=ud dk b1 (le f.size d)
 refine cb ((((((ah.mk b false 0).wordsC 1).endC).e)!=0)) (fun aL=>?_) (fun aL=>?_)
 have bP:=aq aL
 refine sq<|Rg 7 (fun w'=>w'.cell? ⟨l,3,none⟩=some (.int .i64 ((((ah.mk b false 0).wordsC 1).endC).e))) fun g6 b2=>?_
 have dm:=RC.upd bO b2 ay (aE.step (RC.u bO) b2)
 refine bh (RC.fld dm) fun aM=>Rt 0 aM<|Rt 1 aM<|Rt 2 aM<|Rt 3 aM<|Rl 4 aM (fun _ hs=>hs)<|?_
 refine R0 5 rfl<|b6 (ub (ut r (u1 bM (aI b1 b2) im) (ac (nr d) (ac (ni i.size g) au))) k) mZ fun g7 eB dn=>?_
 have dp:=ud dl (uz b2 dn) t
 refine bh (RC.fld (RC.upd dm dn (aa (Ne.symm (nb (ak k) lr d)) ay) dp)) fun eC=>Rt 6 eC<|re<|tn<|rt<|tr<|bF eB (.int .i64 ((((ah.mk b false 0).wordsC 1).endC).e))<|?_
 have hs:ae aH 0 c b=aF (aP.mk c 0 ((ah.mk b false 0).wordV) 0 0 0 0 0 0 0 0 0 [] [] [] [] 0 0 0 0 0 []) ((ah.mk b false 0).wordsC 1):=by
   unfold ae aH bK bN cP cy ck cz cD gw
   (try simp only[q,B,C,s,D,F,S,a5,aL,bs,if_true,if_false,decide_true,decide_false,eq_self,true_or,or_true,or_false,false_or,if_true,if_false,ch,cc,bZ,cg,reduceIte,iA,iB])
   all_goals rfl
 rw[hs]
 exact bf bP dp
 have bP:=ai aL
 refine bq<|sg<|?_
 refine L0<|cj (aT b1 (Ne.symm bL) eA)<|?_
 refine L0<|b6 (ub (ut r (u1 bM b1 im) (ac (nr d) (ac (ni i.size g) au))) k) (mG c 0 ((ah.mk b false 0).wordV) 0 0 0 0 0 0 0 0 0 nS nS nS nS 0 0 0 0 0 nS) fun g8 eD eE=>Pl 1<|nt<|rt<|bF eD (.int .i64 0)<|?_
 have hs:ae aH 0 c b=aF (aP.mk c 0 ((ah.mk b false 0).wordV) 0 0 0 0 0 0 0 0 0 [] [] [] [] 0 0 0 0 0 []) ((ah.mk b false 0).wordsC 1):=by
   unfold ae aH bK bN cP cy ck cz cD gw
   (try simp only[q,B,C,s,D,F,S,a5,aL,bs,if_true,if_false,decide_true,decide_false,eq_self,true_or,or_true,or_false,false_or,if_true,if_false,ch,cc,bZ,cg,reduceIte,iA,iB])
   all_goals rfl
 rw[hs]
 exact bj bP ⟨_,_,_,_,_,rfl,aK.nil ..,aK.nil ..,(fun _ _ _=>aK.nil ..),aK.nil ..,aK.nil ..,⟨(b8 (x:=c) (by omega)),(b8 (x:=0) (by omega)),(aB (x:=(ah.mk b false 0).wordV) (by omega)),(aB (x:=0) (by omega)),(aB (x:=0) (by omega)),(aB (x:=0) (by omega)),(aB (x:=0) (by omega)),(aB (x:=0) (by omega)),(aB (x:=0) (by omega)),(aB (x:=0) (by omega)),(aB (x:=0) (by omega)),(aB (x:=0) (by omega)),(b8 (x:=0) (by omega)),(b8 (x:=0) (by omega)),(b8 (x:=0) (by omega)),(b8 (x:=0) (by omega)),(b8 (x:=0) (by omega))⟩⟩ (ud dl eE t)
 have ex:=ap a5
 refine sg<|Pl 3<|nt<|cf a5<|sg<|Pl 1<|?_
 refine L0<|b6 (ub r k) mZ fun g9 eF eG=>Pl 1<|nt<|rt<|br<|tr<|bF eF (.int .i64 4)<|?_
 have hs:ae aH 0 c b=(aP.zero,4):=by
   unfold ae aH bK bN cP cy ck cz cD gw
   (try simp only[q,B,C,s,D,F,S,a5,bs,if_true,if_false,decide_true,decide_false,eq_self,true_or,or_true,or_false,false_or,if_true,if_false,ch,cc,bZ,cg,reduceIte,iA,iB])
   all_goals rfl
 rw[hs]
 exact bt (ud z eG t)
theorem jJ{m:Md}{A:Option Addr}{cp:Nat}{b:List Int}{w:World}{c:Int}(hcode:B8 c)(hsl:bg m w (.slice A b.length cp) b)(hb:b.length≤1048576) :
    Calls Tryz.prog 94 #[.int .i64 1,.int .u8 c,.slice A b.length cp] w (d7 (.slice A b.length cp) b (ae aH 1 c b) w):=by
 obtain⟨hcode1,hcode2⟩:=hcode
 have hln:(b.length:Int)≤1048576:=by omega
 refine en 221 Tryz.func94 rfl<|sg<|L0<|bJ mZ fun e5 e6 y j f=>Pl 1<|nt<|sq<|sg<|Pl 6<|nt<|c0<|?_
 refine bq<|sg<|Pl 2<|L0<|dt #[.slice A b.length cp,.int .i64 0,.bool false,.int .i64 0] fun l e7 d q i=>Pl 1<|ng<|Pl 2<|L0<|bJ mZ fun e8 e9 g W H=>L0<|b6 W (mC c) fun X Y r=>?_
 refine nt<|sq<|bk<|sg<|Pl 6<|cu 3 [35] 38 (((c==3)||(c==4))) (fun K bv=>?_) ?_
 refine bl 35 ((c==3)) (fun Z=>?_) (fun Z=>?_)
 have cT:=al Z
 exact Pl 3<|ce bv true (by rw[Z];rfl)
 have cT:=ap Z
 exact Pl 3<|ce bv (c==4) (by rw[Z];rfl)
 refine Pl 1<|cu 3 [39] 42 ((((c==3)||(c==4))||(c==23))) (fun K bw=>?_) ?_
 refine bl 39 (((c==3)||(c==4))) (fun a0=>?_) (fun a0=>?_)
 exact Pl 3<|ce bw true (by rw[a0];rfl)
 have cU:=(aJ a0).1
 have cV:=(aJ a0).2
 have ea:=ap cU
 have eb:=ap cV
 exact Pl 3<|ce bw (c==23) (by rw[a0];rfl)
 refine Pl 2<|nt<|?_
 have T:=ud H r g
 have s:=aI i T
 have z:=aI f s
 refine cb ((((c==3)||(c==4))||(c==23))) (fun k=>?_) (fun k=>?_)
 refine sg<|Pl 1<|?_
 have cW:RC w _ A cp b X l (ah.mk b false 0):=⟨hsl,z,(Nat.le_trans f.size d),⟨0,(ub T q),Nat.zero_le _,rfl⟩,by omega⟩
 refine L0<|Oc<|m3 (dC cW) fun ec cX M ed=>L0<|Oi ((ah.mk b false 0).byteV)<|Pl 1<|ng<|Pl 2<|L0<|Oe (.int .i64 (Int.tmod ((ah.mk b false 0).byteV) 2)) (.int .i64 (((ah.mk b false 0).byteV)%2)) (congrArg (Value.int .i64) (Int.tmod_eq_emod_of_nonneg (by omega)))<|Pl 2<|cu 3 [51] 54 ((((((ah.mk b false 0).byteV)%2)==0)&&(decide (0<((ah.mk b false 0).byteV))))) (fun K bx=>?_) ?_
 refine bl 51 (((((ah.mk b false 0).byteV)%2)==0)) (fun a1=>?_) (fun a1=>?_)
 have cY:=al a1
 exact Pl 3<|ce bx (decide (0<((ah.mk b false 0).byteV))) (by rw[a1];rfl)
 have cY:=ap a1
 exact Pl 3<|ce bx false (by rw[a1];rfl)
 refine Pl 1<|cu 3 [55] 58 (((((((ah.mk b false 0).byteV)%2)==0)&&(decide (0<((ah.mk b false 0).byteV))))&&(decide (((ah.mk b false 0).byteV)≤250)))) (fun K bz=>?_) ?_
 refine bl 55 ((((((ah.mk b false 0).byteV)%2)==0)&&(decide (0<((ah.mk b false 0).byteV))))) (fun a2=>?_) (fun a2=>?_)
 have cZ:=(aS a2).1
 have d0:=(aS a2).2
 have ee:=al cZ
 have ef:=of_decide_eq_true d0
 exact Pl 3<|ce bz (decide (((ah.mk b false 0).byteV)≤250)) (by rw[a2];rfl)
 exact Pl 3<|ce bz false (by rw[a2];rfl)
 refine L0<|Oc<|m2 (aV (((((((ah.mk b false 0).byteV)%2)==0)&&(decide (0<((ah.mk b false 0).byteV))))&&(decide (((ah.mk b false 0).byteV)≤250)))) 5 cX) fun eg d1 N=>?_
 refine f8 d1 fun x49 bA d2=>?_
 refine nt<|go<|Pl 2<|L0<|Oe (.int .i64 (IntKind.i64.wrap (Int.tdiv ((ah.mk b false 0).byteV) 2))) (.int .i64 (((ah.mk b false 0).byteV)/2)) (congrArg (Value.int .i64) (fb (by omega) (by omega)))<|L0<|Oc<|ly (fj (n:=(((ah.mk b false 0).byteV)/2)) (by omega) d2) fun bB bC eh I ei ej d3 d4=>Pl 1<|?_
 have bD:=u1 M (u1 N d4 im) im
 have aQ:=nb (ak q) lr g
 refine L0<|bU (aT bD (Ne.symm aQ) Y) 12 (mG c 0 0 0 0 0 0 0 0 0 0 0 (.slice bB ((x49.wordsR (((ah.mk b false 0).byteV)/2)).length) bC) nS nS nS 0 0 0 0 0 nS) fun ek d5 av=>nl<|bn<|tn<|sg<|Pl 1<|?_
 have aU:=us bD av
 have bE:=ut z aU (ac (ni f.size d) (ac (ni (le f.size i.size) g) au))
 refine L0<|Oc<|m2 (dT (RC.upd d3 av (aa aQ ay) bE)) fun el aW a3=>nt<|sq<|sg<|Pl 3<|L0<|dZ (p:=⟨l,3,none⟩) (v:=.int .i64 (((x49.wordsC (((ah.mk b false 0).byteV)/2)).endC).e)) (RC.fld aW)<|Pl 1<|nt<|?_
 have bG:=ud bE a3 (le f.size d)
 refine cb (((((x49.wordsC (((ah.mk b false 0).byteV)/2)).endC).e)!=0)) (fun a4=>?_) (fun a4=>?_)
 have aX:=aq a4
 refine sq<|Rg 7 (fun w'=>w'.cell? ⟨l,3,none⟩=some (.int .i64 (((x49.wordsC (((ah.mk b false 0).byteV)/2)).endC).e))) fun em aw=>?_
 have bH:=RC.upd aW aw ay (aE.step (RC.u aW) aw)
 refine bh (RC.fld bH) fun a5=>Rt 0 a5<|Rt 1 a5<|Rt 2 a5<|Rt 3 a5<|Rl 4 a5 (fun _ hs=>hs)<|?_
 have bI:=aI a3 aw
 refine R0 5 rfl<|b6 (ub (ut s (u1 aU bI im) (ac (nr d) (ac (ni i.size g) au))) j) mZ fun eo d6 aY=>?_
 have bL:=ud bG (uz aw aY) y
 refine bh (RC.fld (RC.upd bH aY (aa (Ne.symm (nb (ak j) lr d)) ay) bL)) fun d8=>Rt 6 d8<|re<|tn<|rt<|tr<|bF d6 (.int .i64 (((x49.wordsC (((ah.mk b false 0).byteV)/2)).endC).e))<|?_
 have ep:=ax I (us av (us bI aY)) (fun x hx=>(aa (fun e=>(aA (ak W) (le (le r.size M.size) N.size) I) (e▸hx)) (aa (fun e=>(aA (ak q) (le (le (le H.size r.size) M.size) N.size) I) (e▸hx)) (aa (fun e=>(aA (ak j) (le (le (le (le i.size H.size) r.size) M.size) N.size) I) (e▸hx)) ay)))) (fun _ _ h=>h)
 have hs:ae aH 1 c b=aF (aP.mk c 0 0 0 0 0 0 0 0 0 0 0 (x49.wordsR (((ah.mk b false 0).byteV)/2)) [] [] [] 0 0 0 0 0 []) (x49.wordsC (((ah.mk b false 0).byteV)/2)):=by
   subst bA
   unfold ae
   (try simp only[k,a4,bs,if_true,if_false,decide_true,decide_false,eq_self,true_or,or_true,or_false,false_or,if_true,if_false,ch,cc,bZ,cg,reduceIte,iA,iB,lP k])
   all_goals rfl
 rw[hs]
 exact bf aX bL
 have aX:=ai a4
 refine bq<|sg<|?_
 refine L0<|cj (aT a3 (Ne.symm aQ) d5)<|?_
 refine L0<|b6 (ub (ut s (u1 aU a3 im) (ac (nr d) (ac (ni i.size g) au))) j) (mG c 0 0 0 0 0 0 0 0 0 0 0 (.slice bB ((x49.wordsR (((ah.mk b false 0).byteV)/2)).length) bC) nS nS nS 0 0 0 0 0 nS) fun eq d9 bM=>Pl 1<|nt<|rt<|bF d9 (.int .i64 0)<|?_
 have hs:ae aH 1 c b=aF (aP.mk c 0 0 0 0 0 0 0 0 0 0 0 (x49.wordsR (((ah.mk b false 0).byteV)/2)) [] [] [] 0 0 0 0 0 []) (x49.wordsC (((ah.mk b false 0).byteV)/2)):=by
   subst bA
   unfold ae
   (try simp only[k,a4,bs,if_true,if_false,decide_true,decide_false,eq_self,true_or,or_true,or_false,false_or,if_true,if_false,ch,cc,bZ,cg,reduceIte,iA,iB,lP k])
   all_goals rfl
 rw[hs]
 exact bj aX ⟨_,_,_,_,_,rfl,((ax I (us av (us a3 bM)) (fun x hx=>(aa (fun e=>(aA (ak W) (le (le r.size M.size) N.size) I) (e▸hx)) (aa (fun e=>(aA (ak q) (le (le (le H.size r.size) M.size) N.size) I) (e▸hx)) (aa (fun e=>(aA (ak j) (le (le (le (le i.size H.size) r.size) M.size) N.size) I) (e▸hx)) ay)))) (fun _ _ h=>h))).rd,aK.nil ..,(fun _ _ _=>aK.nil ..),aK.nil ..,aK.nil ..,⟨(b8 (x:=c) (by omega)),(b8 (x:=0) (by omega)),(aB (x:=0) (by omega)),(aB (x:=0) (by omega)),(aB (x:=0) (by omega)),(aB (x:=0) (by omega)),(aB (x:=0) (by omega)),(aB (x:=0) (by omega)),(aB (x:=0) (by omega)),(aB (x:=0) (by omega)),(aB (x:=0) (by omega)),(aB (x:=0) (by omega)),(b8 (x:=0) (by omega)),(b8 (x:=0) (by omega)),(b8 (x:=0) (by omega)),(b8 (x:=0) (by omega)),(b8 (x:=0) (by omega))⟩⟩ (ud bG bM y)
 have B:=(aJ k).1
 have C:=(aJ k).2
 have D:=(aJ B).1
 have E:=(aJ B).2
 have q35aap:=ap D
 have q35abp:=ap E
 have er:=ap C
 refine sg<|Pl 3<|sy 68 D<|Pl 4<|nt<|cf E<|sg<|Pl 3<|nt<|cb ((c==6)) (fun t=>?_) (fun t=>?_)
 have da:=al t
 refine sg<|Pl 1<|?_
 have db:RC w _ A cp b X l (ah.mk b false 0):=⟨hsl,z,(Nat.le_trans f.size d),⟨0,(ub T q),Nat.zero_le _,rfl⟩,by omega⟩
 refine L0<|Oc<|m3 (cK db) fun es dc bO et=>Pl 1<|?_
 have a6:=nb (ak q) lr g
 refine L0<|bU (aT bO (Ne.symm a6) Y) 2 (mG c 0 ((ah.mk b false 0).wordV) 0 0 0 0 0 0 0 0 0 nS nS nS nS 0 0 0 0 0 nS) fun eu dd bP=>nt<|go<|Pl 1<|?_
 have aZ:=us bO bP
 have bQ:=ut z aZ (ac (ni f.size d) (ac (ni (le f.size i.size) g) au))
 refine L0<|Oc<|m3 (cK (RC.upd dc bP (aa a6 ay) bQ)) fun ev de bR ew=>Pl 1<|?_
 refine L0<|bU (aT bR (Ne.symm a6) dd) 4 (mG c 0 ((ah.mk b false 0).wordV) 0 (((ah.mk b false 0).wordsC 1).wordV) 0 0 0 0 0 0 0 nS nS nS nS 0 0 0 0 0 nS) fun ex df bS=>nl<|bn<|tn<|sg<|Pl 1<|?_
 have b0:=us bR bS
 have bT:=ut bQ b0 (ac (ni f.size d) (ac (ni (le f.size i.size) g) au))
 refine L0<|Oc<|m2 (dT (RC.upd de bS (aa a6 ay) bT)) fun ey b1 az=>nt<|sq<|sg<|Pl 3<|L0<|dZ (p:=⟨l,3,none⟩) (v:=.int .i64 (((((ah.mk b false 0).wordsC 1).wordsC 1).endC).e)) (RC.fld b1)<|Pl 1<|nt<|?_
 have bV:=ud bT az (le f.size d)
 refine cb (((((((ah.mk b false 0).wordsC 1).wordsC 1).endC).e)!=0)) (fun a7=>?_) (fun a7=>?_)
 have b2:=aq a7
 refine sq<|Rg 7 (fun w'=>w'.cell? ⟨l,3,none⟩=some (.int .i64 (((((ah.mk b false 0).wordsC 1).wordsC 1).endC).e))) fun ez aC=>?_
 have bW:=RC.upd b1 aC ay (aE.step (RC.u b1) aC)
 refine bh (RC.fld bW) fun a8=>Rt 0 a8<|Rt 1 a8<|Rt 2 a8<|Rt 3 a8<|Rl 4 a8 (fun _ hs=>hs)<|?_
 refine R0 5 rfl<|b6 (ub (ut s (ut aZ (u1 b0 (aI az aC) im) (ac im (ac im au))) (ac (nr d) (ac (ni i.size g) au))) j) mZ fun eA dg bX=>?_
 have bY:=ud bV (uz aC bX) y
 refine bh (RC.fld (RC.upd bW bX (aa (Ne.symm (nb (ak j) lr d)) ay) bY)) fun dh=>Rt 6 dh<|re<|tn<|rt<|tr<|bF dg (.int .i64 (((((ah.mk b false 0).wordsC 1).wordsC 1).endC).e))<|?_
 have hs:ae aH 1 c b=aF (aP.mk c 0 ((ah.mk b false 0).wordV) 0 (((ah.mk b false 0).wordsC 1).wordV) 0 0 0 0 0 0 0 [] [] [] [] 0 0 0 0 0 []) (((ah.mk b false 0).wordsC 1).wordsC 1):=by
   unfold ae aH bK bN cP cy ck cz cD gw
   (try simp only[k,B,D,E,C,t,a7,bs,if_true,if_false,decide_true,decide_false,eq_self,true_or,or_true,or_false,false_or,if_true,if_false,ch,cc,bZ,cg,reduceIte,iA,iB])
   all_goals rfl
 rw[hs]
 exact bf b2 bY
 have b2:=ai a7
 refine bq<|sg<|?_
 refine L0<|cj (aT az (Ne.symm a6) df)<|?_
 refine L0<|b6 (ub (ut s (ut aZ (u1 b0 az im) (ac im (ac im au))) (ac (nr d) (ac (ni i.size g) au))) j) (mG c 0 ((ah.mk b false 0).wordV) 0 (((ah.mk b false 0).wordsC 1).wordV) 0 0 0 0 0 0 0 nS nS nS nS 0 0 0 0 0 nS) fun eB di dj=>Pl 1<|nt<|rt<|bF di (.int .i64 0)<|?_
 have hs:ae aH 1 c b=aF (aP.mk c 0 ((ah.mk b false 0).wordV) 0 (((ah.mk b false 0).wordsC 1).wordV) 0 0 0 0 0 0 0 [] [] [] [] 0 0 0 0 0 []) (((ah.mk b false 0).wordsC 1).wordsC 1):=by
   unfold ae aH bK bN cP cy ck cz cD gw
   (try simp only[k,B,D,E,C,t,a7,bs,if_true,if_false,decide_true,decide_false,eq_self,true_or,or_true,or_false,false_or,if_true,if_false,ch,cc,bZ,cg,reduceIte,iA,iB])
   all_goals rfl
 rw[hs]
 exact bj b2 ⟨_,_,_,_,_,rfl,aK.nil ..,aK.nil ..,(fun _ _ _=>aK.nil ..),aK.nil ..,aK.nil ..,⟨(b8 (x:=c) (by omega)),(b8 (x:=0) (by omega)),(aB (x:=(ah.mk b false 0).wordV) (by omega)),(aB (x:=0) (by omega)),(aB (x:=((ah.mk b false 0).wordsC 1).wordV) (by omega)),(aB (x:=0) (by omega)),(aB (x:=0) (by omega)),(aB (x:=0) (by omega)),(aB (x:=0) (by omega)),(aB (x:=0) (by omega)),(aB (x:=0) (by omega)),(aB (x:=0) (by omega)),(b8 (x:=0) (by omega)),(b8 (x:=0) (by omega)),(b8 (x:=0) (by omega)),(b8 (x:=0) (by omega)),(b8 (x:=0) (by omega))⟩⟩ (ud bV dj y)
 have da:=ap t
 refine sg<|Pl 3<|nt<|cb ((c==16)) (fun F=>?_) (fun F=>?_)
 have dk:=al F
 refine sg<|Pl 1<|?_
 have dl:RC w _ A cp b X l (ah.mk b false 0):=⟨hsl,z,(Nat.le_trans f.size d),⟨0,(ub T q),Nat.zero_le _,rfl⟩,by omega⟩
 refine L0<|Oc<|m3 (cK dl) fun eC dm c1 eD=>Pl 1<|?_
 have a9:=nb (ak q) lr g
 refine L0<|bU (aT c1 (Ne.symm a9) Y) 2 (mG c 0 ((ah.mk b false 0).wordV) 0 0 0 0 0 0 0 0 0 nS nS nS nS 0 0 0 0 0 nS) fun eE c2 c3=>ng<|Pl 2<|L0<|aR c2 2<|?_
 have b3:=us c1 c3
 have c4:=ut z b3 (ac (ni f.size d) (ac (ni (le f.size i.size) g) au))
 refine L0<|Oc<|m3 (iW (a:=(ah.mk b false 0).wordV) (most:=123) (by omega) (RC.upd dm c3 (aa a9 ay) c4)) fun eF dn c5 eG=>?_
 refine f8 dn fun U c6 dp=>?_
 refine L0<|tE (((ah.mk b false 0).wordsC 1).wordV)<|Pl 1<|?_
 refine L0<|bU (aT c5 (Ne.symm a9) c2) 3 (mG c 0 ((ah.mk b false 0).wordV) (((ah.mk b false 0).wordsC 1).wordV) 0 0 0 0 0 0 0 0 nS nS nS nS 0 0 0 0 0 nS) fun eH dq c7=>ng<|Pl 2<|nt<|c0<|sk<|bn<|tn<|sg<|?_
 refine Pl 1<|?_
 have b4:=us c5 c7
 have c8:=ut c4 b4 (ac (ni f.size d) (ac (ni (le f.size i.size) g) au))
 refine L0<|Oc<|m2 (dT (RC.upd dp c7 (aa a9 ay) c8)) fun eI b5 aD=>nt<|sq<|sg<|Pl 3<|L0<|dZ (p:=⟨l,3,none⟩) (v:=.int .i64 U.endC.e) (RC.fld b5)<|Pl 1<|nt<|?_
 have c9:=ud c8 aD (le f.size d)
 refine cb ((U.endC.e != 0)) (fun ab=>?_) (fun ab=>?_)
 have b7:=aq ab
 refine sq<|Rg 7 (fun w'=>w'.cell? ⟨l,3,none⟩=some (.int .i64 U.endC.e)) fun eJ aG=>?_
 have ca:=RC.upd b5 aG ay (aE.step (RC.u b5) aG)
 refine bh (RC.fld ca) fun ad=>Rt 0 ad<|Rt 1 ad<|Rt 2 ad<|Rt 3 ad<|Rl 4 ad (fun _ hs=>hs)<|?_
 refine R0 5 rfl<|b6 (ub (ut s (ut b3 (u1 b4 (aI aD aG) im) (ac im (ac im au))) (ac (nr d) (ac (ni i.size g) au))) j) mZ fun eK dr cd=>?_
 have ci:=ud c9 (uz aG cd) y
 refine bh (RC.fld (RC.upd ca cd (aa (Ne.symm (nb (ak j) lr d)) ay) ci)) fun ds=>Rt 6 ds<|re<|tn<|rt<|tr<|bF dr (.int .i64 U.endC.e)<|?_
 have hs:ae aH 1 c b=aF (aP.mk c 0 ((ah.mk b false 0).wordV) (((ah.mk b false 0).wordsC 1).wordV) 0 0 0 0 0 0 0 0 [] [] [] [] 0 0 0 0 0 []) U:=by
   subst c6
   unfold ae aH bK bN cP cy ck cz cD gw
   (try simp only[k,B,D,E,C,t,F,ab,bs,if_true,if_false,decide_true,decide_false,eq_self,true_or,or_true,or_false,false_or,if_true,if_false,ch,cc,bZ,cg,reduceIte,iA,iB])
   all_goals rfl
 rw[hs]
 exact bf b7 ci
 have b7:=ai ab
 refine bq<|sg<|?_
 refine L0<|cj (aT aD (Ne.symm a9) dq)<|?_
 refine L0<|b6 (ub (ut s (ut b3 (u1 b4 aD im) (ac im (ac im au))) (ac (nr d) (ac (ni i.size g) au))) j) (mG c 0 ((ah.mk b false 0).wordV) (((ah.mk b false 0).wordsC 1).wordV) 0 0 0 0 0 0 0 0 nS nS nS nS 0 0 0 0 0 nS) fun eL du dv=>Pl 1<|nt<|rt<|bF du (.int .i64 0)<|?_
 have hs:ae aH 1 c b=aF (aP.mk c 0 ((ah.mk b false 0).wordV) (((ah.mk b false 0).wordsC 1).wordV) 0 0 0 0 0 0 0 0 [] [] [] [] 0 0 0 0 0 []) U:=by
   subst c6
   unfold ae aH bK bN cP cy ck cz cD gw
   (try simp only[k,B,D,E,C,t,F,ab,bs,if_true,if_false,decide_true,decide_false,eq_self,true_or,or_true,or_false,false_or,if_true,if_false,ch,cc,bZ,cg,reduceIte,iA,iB])
   all_goals rfl
 rw[hs]
 exact bj b7 ⟨_,_,_,_,_,rfl,aK.nil ..,aK.nil ..,(fun _ _ _=>aK.nil ..),aK.nil ..,aK.nil ..,⟨(b8 (x:=c) (by omega)),(b8 (x:=0) (by omega)),(aB (x:=(ah.mk b false 0).wordV) (by omega)),(aB (x:=((ah.mk b false 0).wordsC 1).wordV) (by omega)),(aB (x:=0) (by omega)),(aB (x:=0) (by omega)),(aB (x:=0) (by omega)),(aB (x:=0) (by omega)),(aB (x:=0) (by omega)),(aB (x:=0) (by omega)),(aB (x:=0) (by omega)),(aB (x:=0) (by omega)),(b8 (x:=0) (by omega)),(b8 (x:=0) (by omega)),(b8 (x:=0) (by omega)),(b8 (x:=0) (by omega)),(b8 (x:=0) (by omega))⟩⟩ (ud c9 dv y)
 have dk:=ap F
 refine sg<|Pl 3<|nt<|cb ((c==22)) (fun J=>?_) (fun J=>?_)
 have dw:=al J
 refine sg<|Pl 1<|?_
 have dx:RC w _ A cp b X l (ah.mk b false 0):=⟨hsl,z,(Nat.le_trans f.size d),⟨0,(ub T q),Nat.zero_le _,rfl⟩,by omega⟩
 refine L0<|Oc<|m3 (cK dx) fun eM dy cl eN=>Pl 1<|?_
 have O:=nb (ak q) lr g
 refine L0<|bU (aT cl (Ne.symm O) Y) 2 (mG c 0 ((ah.mk b false 0).wordV) 0 0 0 0 0 0 0 0 0 nS nS nS nS 0 0 0 0 0 nS) fun eO dz cm=>ng<|Pl 1<|?_
 have b9:=us cl cm
 have cn:=ut z b9 (ac (ni f.size d) (ac (ni (le f.size i.size) g) au))
 refine L0<|Oc<|m3 (cK (RC.upd dy cm (aa O ay) cn)) fun eP dA co eQ=>Pl 1<|?_
 refine L0<|bU (aT co (Ne.symm O) dz) 5 (mG c 0 ((ah.mk b false 0).wordV) 0 0 (((ah.mk b false 0).wordsC 1).wordV) 0 0 0 0 0 0 nS nS nS nS 0 0 0 0 0 nS) fun eR dB cq=>nt<|go<|Pl 1<|?_
 have ba:=us co cq
 have cr:=ut cn ba (ac (ni f.size d) (ac (ni (le f.size i.size) g) au))
 refine L0<|Oc<|m3 (cK (RC.upd dA cq (aa O ay) cr)) fun eS dD cs eT=>Pl 1<|?_
 refine L0<|bU (aT cs (Ne.symm O) dB) 6 (mG c 0 ((ah.mk b false 0).wordV) 0 0 (((ah.mk b false 0).wordsC 1).wordV) ((((ah.mk b false 0).wordsC 1).wordsC 1).wordV) 0 0 0 0 0 nS nS nS nS 0 0 0 0 0 nS) fun eU dE ct=>nl<|bn<|tn<|sg<|Pl 1<|?_
 have bb:=us cs ct
 have cv:=ut cr bb (ac (ni f.size d) (ac (ni (le f.size i.size) g) au))
 refine L0<|Oc<|m2 (dT (RC.upd dD ct (aa O ay) cv)) fun eV bc aL=>nt<|sq<|sg<|Pl 3<|L0<|dZ (p:=⟨l,3,none⟩) (v:=.int .i64 ((((((ah.mk b false 0).wordsC 1).wordsC 1).wordsC 1).endC).e)) (RC.fld bc)<|Pl 1<|nt<|?_
 have cw:=ud cv aL (le f.size d)
 refine cb ((((((((ah.mk b false 0).wordsC 1).wordsC 1).wordsC 1).endC).e)!=0)) (fun af=>?_) (fun af=>?_)
 have bd:=aq af
 refine sq<|Rg 7 (fun w'=>w'.cell? ⟨l,3,none⟩=some (.int .i64 ((((((ah.mk b false 0).wordsC 1).wordsC 1).wordsC 1).endC).e))) fun eW aM=>?_
 have cx:=RC.upd bc aM ay (aE.step (RC.u bc) aM)
 refine bh (RC.fld cx) fun ag=>Rt 0 ag<|Rt 1 ag<|Rt 2 ag<|Rt 3 ag<|Rl 4 ag (fun _ hs=>hs)<|?_
 refine R0 5 rfl<|b6 (ub (ut s (ut b9 (ut ba (u1 bb (aI aL aM) im) (ac im (ac im au))) (ac im (ac im au))) (ac (nr d) (ac (ni i.size g) au))) j) mZ fun eX dF cA=>?_
 have cB:=ud cw (uz aM cA) y
 refine bh (RC.fld (RC.upd cx cA (aa (Ne.symm (nb (ak j) lr d)) ay) cB)) fun dG=>Rt 6 dG<|re<|tn<|rt<|tr<|bF dF (.int .i64 ((((((ah.mk b false 0).wordsC 1).wordsC 1).wordsC 1).endC).e))<|?_
 have hs:ae aH 1 c b=aF (aP.mk c 0 ((ah.mk b false 0).wordV) 0 0 (((ah.mk b false 0).wordsC 1).wordV) ((((ah.mk b false 0).wordsC 1).wordsC 1).wordV) 0 0 0 0 0 [] [] [] [] 0 0 0 0 0 []) ((((ah.mk b false 0).wordsC 1).wordsC 1).wordsC 1):=by
   unfold ae aH bK bN cP cy ck cz cD gw
   (try simp only[k,B,D,E,C,t,F,J,af,bs,if_true,if_false,decide_true,decide_false,eq_self,true_or,or_true,or_false,false_or,if_true,if_false,ch,cc,bZ,cg,reduceIte,iA,iB])
   all_goals rfl
 rw[hs]
 exact bf bd cB
 have bd:=ai af
 refine bq<|sg<|?_
 refine L0<|cj (aT aL (Ne.symm O) dE)<|?_
 refine L0<|b6 (ub (ut s (ut b9 (ut ba (u1 bb aL im) (ac im (ac im au))) (ac im (ac im au))) (ac (nr d) (ac (ni i.size g) au))) j) (mG c 0 ((ah.mk b false 0).wordV) 0 0 (((ah.mk b false 0).wordsC 1).wordV) ((((ah.mk b false 0).wordsC 1).wordsC 1).wordV) 0 0 0 0 0 nS nS nS nS 0 0 0 0 0 nS) fun eY dH dI=>Pl 1<|nt<|rt<|bF dH (.int .i64 0)<|?_
 have hs:ae aH 1 c b=aF (aP.mk c 0 ((ah.mk b false 0).wordV) 0 0 (((ah.mk b false 0).wordsC 1).wordV) ((((ah.mk b false 0).wordsC 1).wordsC 1).wordV) 0 0 0 0 0 [] [] [] [] 0 0 0 0 0 []) ((((ah.mk b false 0).wordsC 1).wordsC 1).wordsC 1):=by
   unfold ae aH bK bN cP cy ck cz cD gw
   (try simp only[k,B,D,E,C,t,F,J,af,bs,if_true,if_false,decide_true,decide_false,eq_self,true_or,or_true,or_false,false_or,if_true,if_false,ch,cc,bZ,cg,reduceIte,iA,iB])
   all_goals rfl
 rw[hs]
 exact bj bd ⟨_,_,_,_,_,rfl,aK.nil ..,aK.nil ..,(fun _ _ _=>aK.nil ..),aK.nil ..,aK.nil ..,⟨(b8 (x:=c) (by omega)),(b8 (x:=0) (by omega)),(aB (x:=(ah.mk b false 0).wordV) (by omega)),(aB (x:=0) (by omega)),(aB (x:=0) (by omega)),(aB (x:=((ah.mk b false 0).wordsC 1).wordV) (by omega)),(aB (x:=(((ah.mk b false 0).wordsC 1).wordsC 1).wordV) (by omega)),(aB (x:=0) (by omega)),(aB (x:=0) (by omega)),(aB (x:=0) (by omega)),(aB (x:=0) (by omega)),(aB (x:=0) (by omega)),(b8 (x:=0) (by omega)),(b8 (x:=0) (by omega)),(b8 (x:=0) (by omega)),(b8 (x:=0) (by omega)),(b8 (x:=0) (by omega))⟩⟩ (ud cw dI y)
 have dw:=ap J
 refine sg<|Pl 3<|nt<|cf C<|sg<|Pl 3<|cu 3 [168] 171 (false) (fun K cC=>?_) ?_
 refine bl 168 ((c==24)) (fun be=>?_) (fun be=>?_)
 have dJ:=al be
 exact Pl 3<|ce cC false rfl
 have dJ:=ap be
 exact Pl 3<|ce cC false rfl
 refine Pl 1<|nt<|c0<|sg<|Pl 3<|nt<|cb ((c==24)) (fun V=>?_) (fun V=>?_)
 have dK:=al V
 refine sg<|Pl 1<|?_
 have dL:RC w _ A cp b X l (ah.mk b false 0):=⟨hsl,z,(Nat.le_trans f.size d),⟨0,(ub T q),Nat.zero_le _,rfl⟩,by omega⟩
 refine L0<|Oc<|m3 (cK dL) fun eZ dM P f0=>L0<|Oi ((ah.mk b false 0).wordV)<|Pl 1<|ng<|Pl 2<|L0<|Oe (.int .i64 (Int.tmod ((ah.mk b false 0).wordV) 2)) (.int .i64 (((ah.mk b false 0).wordV)%2)) (congrArg (Value.int .i64) (Int.tmod_eq_emod_of_nonneg (by omega)))<|Pl 2<|cu 3 [185] 188 ((((((ah.mk b false 0).wordV)%2)==0)&&(decide (2≤((ah.mk b false 0).wordV))))) (fun K cE=>?_) ?_
 refine bl 185 (((((ah.mk b false 0).wordV)%2)==0)) (fun aj=>?_) (fun aj=>?_)
 have dN:=al aj
 exact Pl 3<|ce cE (decide (2≤((ah.mk b false 0).wordV))) (by rw[aj];rfl)
 have dN:=ap aj
 exact Pl 3<|ce cE false (by rw[aj];rfl)
 refine Pl 1<|cu 3 [189] 192 (((((((ah.mk b false 0).wordV)%2)==0)&&(decide (2≤((ah.mk b false 0).wordV))))&&(decide (((ah.mk b false 0).wordV)≤64)))) (fun K cF=>?_) ?_
 refine bl 189 ((((((ah.mk b false 0).wordV)%2)==0)&&(decide (2≤((ah.mk b false 0).wordV))))) (fun am=>?_) (fun am=>?_)
 have dO:=(aS am).1
 have dP:=(aS am).2
 have f1:=al dO
 have f2:=of_decide_eq_true dP
 exact Pl 3<|ce cF (decide (((ah.mk b false 0).wordV)≤64)) (by rw[am];rfl)
 exact Pl 3<|ce cF false (by rw[am];rfl)
 refine L0<|Oc<|m2 (aV (((((((ah.mk b false 0).wordV)%2)==0)&&(decide (2≤((ah.mk b false 0).wordV))))&&(decide (((ah.mk b false 0).wordV)≤64)))) 5 dM) fun f3 dQ Q=>?_
 refine f8 dQ fun o cG dR=>?_
 refine ng<|Pl 1<|L0<|Oc<|m3 (cK dR) fun f4 dS R f5=>L0<|Oi o.wordV<|Pl 1<|ng<|Pl 3<|L0<|Oi (2*o.wordV)<|?_
 refine L0<|Oi ((2*o.wordV)+2)<|Pl 1<|L0<|Oc<|m2 (aV ((((ah.mk b false 0).wordV)==((2*o.wordV)+2))) 5 dS) fun f6 dU S=>?_
 refine f8 dU fun G cH dV=>?_
 refine nt<|go<|Pl 2<|L0<|Oc<|ly (fj (n:=o.wordV) (by omega) dV) fun cI cJ f7 L f9 fa dW dX=>Pl 1<|?_
 have cL:=u1 P (u1 Q (u1 R (u1 S dX im) im) im) im
 have bi:=nb (ak q) lr g
 refine L0<|bU (aT cL (Ne.symm bi) Y) 12 (mG c 0 0 0 0 0 0 0 0 0 0 0 (.slice cI ((G.wordsR o.wordV).length) cJ) nS nS nS 0 0 0 0 0 nS) fun fc dY aN=>nl<|bn<|tn<|sg<|Pl 1<|?_
 have bm:=us cL aN
 have cM:=ut z bm (ac (ni f.size d) (ac (ni (le f.size i.size) g) au))
 refine L0<|Oc<|m2 (dT (RC.upd dW aN (aa bi ay) cM)) fun fd bo an=>nt<|sq<|sg<|Pl 3<|L0<|dZ (p:=⟨l,3,none⟩) (v:=.int .i64 (((G.wordsC o.wordV).endC).e)) (RC.fld bo)<|Pl 1<|nt<|?_
 have cN:=ud cM an (le f.size d)
 refine cb (((((G.wordsC o.wordV).endC).e)!=0)) (fun ao=>?_) (fun ao=>?_)
 have bp:=aq ao
 refine sq<|Rg 7 (fun w'=>w'.cell? ⟨l,3,none⟩=some (.int .i64 (((G.wordsC o.wordV).endC).e))) fun fe aO=>?_
 have cO:=RC.upd bo aO ay (aE.step (RC.u bo) aO)
 refine bh (RC.fld cO) fun ar=>Rt 0 ar<|Rt 1 ar<|Rt 2 ar<|Rt 3 ar<|Rl 4 ar (fun _ hs=>hs)<|?_
 have cQ:=aI an aO
 refine R0 5 rfl<|b6 (ub (ut s (u1 bm cQ im) (ac (nr d) (ac (ni i.size g) au))) j) mZ fun ff e0 bu=>?_
 have cR:=ud cN (uz aO bu) y
 refine bh (RC.fld (RC.upd cO bu (aa (Ne.symm (nb (ak j) lr d)) ay) cR)) fun e1=>Rt 6 e1<|re<|tn<|rt<|tr<|bF e0 (.int .i64 (((G.wordsC o.wordV).endC).e))<|?_
 have fg:=ax L (us aN (us cQ bu)) (fun x hx=>(aa (fun e=>(aA (ak W) (le (le (le (le r.size P.size) Q.size) R.size) S.size) L) (e▸hx)) (aa (fun e=>(aA (ak q) (le (le (le (le (le H.size r.size) P.size) Q.size) R.size) S.size) L) (e▸hx)) (aa (fun e=>(aA (ak j) (le (le (le (le (le (le i.size H.size) r.size) P.size) Q.size) R.size) S.size) L) (e▸hx)) ay)))) (fun _ _ h=>h)
 have hs:ae aH 1 c b=aF (aP.mk c 0 0 0 0 0 0 0 0 0 0 0 (G.wordsR o.wordV) [] [] [] 0 0 0 0 0 []) (G.wordsC o.wordV):=by
   subst cH cG
   unfold ae aH bK bN cP cy ck cz cD gw
   (try simp only[k,B,D,E,C,t,F,J,V,ao,bs,if_true,if_false,decide_true,decide_false,eq_self,true_or,or_true,or_false,false_or,if_true,if_false,ch,cc,bZ,cg,reduceIte,iA,iB])
   all_goals rfl
 rw[hs]
 exact bf bp cR
 have bp:=ai ao
 refine bq<|sg<|?_
 refine L0<|cj (aT an (Ne.symm bi) dY)<|?_
 refine L0<|b6 (ub (ut s (u1 bm an im) (ac (nr d) (ac (ni i.size g) au))) j) (mG c 0 0 0 0 0 0 0 0 0 0 0 (.slice cI ((G.wordsR o.wordV).length) cJ) nS nS nS 0 0 0 0 0 nS) fun fh e2 cS=>Pl 1<|nt<|rt<|bF e2 (.int .i64 0)<|?_
 have hs:ae aH 1 c b=aF (aP.mk c 0 0 0 0 0 0 0 0 0 0 0 (G.wordsR o.wordV) [] [] [] 0 0 0 0 0 []) (G.wordsC o.wordV):=by
   subst cH cG
   unfold ae aH bK bN cP cy ck cz cD gw
   (try simp only[k,B,D,E,C,t,F,J,V,ao,bs,if_true,if_false,decide_true,decide_false,eq_self,true_or,or_true,or_false,false_or,if_true,if_false,ch,cc,bZ,cg,reduceIte,iA,iB])
   all_goals rfl
 rw[hs]
 exact bj bp ⟨_,_,_,_,_,rfl,((ax L (us aN (us an cS)) (fun x hx=>(aa (fun e=>(aA (ak W) (le (le (le (le r.size P.size) Q.size) R.size) S.size) L) (e▸hx)) (aa (fun e=>(aA (ak q) (le (le (le (le (le H.size r.size) P.size) Q.size) R.size) S.size) L) (e▸hx)) (aa (fun e=>(aA (ak j) (le (le (le (le (le (le i.size H.size) r.size) P.size) Q.size) R.size) S.size) L) (e▸hx)) ay)))) (fun _ _ h=>h))).rd,aK.nil ..,(fun _ _ _=>aK.nil ..),aK.nil ..,aK.nil ..,⟨(b8 (x:=c) (by omega)),(b8 (x:=0) (by omega)),(aB (x:=0) (by omega)),(aB (x:=0) (by omega)),(aB (x:=0) (by omega)),(aB (x:=0) (by omega)),(aB (x:=0) (by omega)),(aB (x:=0) (by omega)),(aB (x:=0) (by omega)),(aB (x:=0) (by omega)),(aB (x:=0) (by omega)),(aB (x:=0) (by omega)),(b8 (x:=0) (by omega)),(b8 (x:=0) (by omega)),(b8 (x:=0) (by omega)),(b8 (x:=0) (by omega)),(b8 (x:=0) (by omega))⟩⟩ (ud cN cS y)
 have dK:=ap V
 refine sg<|Pl 1<|?_
 refine L0<|b6 (ub s j) mZ fun fi e3 e4=>Pl 1<|nt<|rt<|br<|tr<|bF e3 (.int .i64 4)<|?_
 have hs:ae aH 1 c b=(aP.zero,4):=by
   unfold ae aH bK bN cP cy ck cz cD gw
   (try simp only[k,B,D,E,C,t,F,J,V,bs,if_true,if_false,decide_true,decide_false,eq_self,true_or,or_true,or_false,false_or,if_true,if_false,ch,cc,bZ,cg,reduceIte,iA,iB])
   all_goals rfl
 rw[hs]
 exact bt (ud z e4 y)
theorem jW{m:Md}{A:Option Addr}{cp:Nat}{b:List Int}{w:World}{dir c:Int}(hcode:B8 c)(hsl:bg m w (.slice A b.length cp) b)(hb:b.length≤1048576)(hd:¬ (dir=0∨dir=1)) :
    Calls Tryz.prog 94 #[.int .i64 dir,.int .u8 c,.slice A b.length cp] w (d7 (.slice A b.length cp) b (ae aH dir c b) w):=by
 obtain⟨hcode1,hcode2⟩:=hcode
 have hln:(b.length:Int)≤1048576:=by omega
 have e0:(dir != 0)=true:=by simp;omega
 have e1:(dir != 1)=true:=by simp;omega
 refine en 221 Tryz.func94 rfl<|sg<|L0<|bJ mZ fun g h a d e=>Pl 1<|nt<|sq<|sg<|Pl 3<|sy 18 e0<|Pl 3<|nl<|?_
 refine tn<|ct e1<|sg<|Pl 1<|L0<|b6 d mZ fun i dv f=>Pl 1<|nt<|rt<|tr<|bF dv (.int .i64 1)<|?_
 have hs:ae aH dir c b=(aP.zero,1):=by
   unfold ae aH bK bN cP cy ck cz cD gw
   (try simp only[e0,e1,bs,if_true,if_false,decide_true,decide_false,eq_self,true_or,or_true,or_false,false_or,if_true,if_false,ch,cc,bZ,cg,reduceIte,hd,iA,iB])
   all_goals rfl
 rw[hs]
 exact bt (ud e f a)
open Go.RowKit
def eq (dir:Int)(C:ah) : ah:=(C.wordsC 1).need (dR C.wordV&&((C.wordV != 4)||(dir==0))) 8
theorem fk{C:ah}:eq 0 C=(C.wordsC 1).need (dR C.wordV) 8:=by
  unfold eq
  rw[show((0:Int)==0)=true from rfl,Bool.or_true,Bool.and_true]
theorem fg{C:ah}:eq 1 C=(C.wordsC 1).need (dR C.wordV&&(C.wordV != 4)) 8:=by
  unfold eq
  rw[show((1:Int)==0)=false from rfl,Bool.or_false]
def cQ (dir c:Int)(C:ah) : ah × aP :=
  if C.wordV==0 then ((iu (eq dir C)).wordsC (((eq dir C).l.length:Int)/2),{ aP.zero with code:=c,sub:=C.wordV,words:=(iu (eq dir C)).wordsR (((eq dir C).l.length:Int)/2) })
  else (((eq dir C).wordsC 1).need (eC dir C.wordV (eq dir C).wordV) 6,{ aP.zero with code:=c,sub:=C.wordV,words:=[(eq dir C).wordV] })
def cn (c:Int)(C:ah) : ah × aP :=
  if c==7 then (C.bytesC 1,{ aP.zero with code:=c,value:=C.byteV })
  else if c==11 then ((dr C).wordsC 1,{ aP.zero with code:=c,status:=C.wordV,events:=(dr C).wordV })
  else if c==12 then ((gz C).bytesC (C.byteV-6),{ aP.zero with code:=c,status:=(g9 C 6 70).wordV,events:=(dr (g9 C 6 70)).wordV,messages:=((dr (g9 C 6 70)).wordsC 1).wordV,data:=(gz C).bytesR (C.byteV-6) })
  else ((g9 C 1 251).bytesC C.byteV,{ aP.zero with code:=c,data:=(g9 C 1 251).bytesR C.byteV })
def aX (dir c:Int)(C:ah) : Option (ah × aP) :=
  if ((((c != 7)&&(c != 8))&&(c != 11))&&(c != 12))&&(c != 17) then none
  else if c==8 then some (cQ dir c C)
  else if dir==0 then some (C,{ aP.zero with code:=c })
  else some (cn c C)
theorem jI{m:Md}{A:Option Addr}{cp:Nat}{b:List Int}{w:World}{c:Int}(hcode:B8 c)(hsl:bg m w (.slice A b.length cp) b)(hb:b.length≤1048576) :
    Calls Tryz.prog 95 #[.int .i64 0,.int .u8 c,.slice A b.length cp] w (d7 (.slice A b.length cp) b (ae aX 0 c b) w):=by
 obtain⟨hcode1,hcode2⟩:=hcode
 have hln:(b.length:Int)≤1048576:=by omega
 refine en 197 Tryz.func95 rfl<|sg<|L0<|bJ mZ fun cP cR I g i=>Pl 1<|nt<|sq<|sg<|Pl 6<|nt<|c0<|?_
 refine bq<|sq<|sg<|Pl 3<|cu 3 [24] 27 (((c != 7)&&(c != 8))) (fun K aU=>?_) ?_
 refine bl 24 ((c != 7)) (fun P=>?_) (fun P=>?_)
 have bW:=aq P
 exact Pl 3<|ce aU (c != 8) (by rw[P];rfl)
 have bW:=ai P
 exact Pl 3<|ce aU false (by rw[P];rfl)
 refine Pl 1<|cu 3 [28] 31 ((((c != 7)&&(c != 8))&&(c != 11))) (fun K aW=>?_) ?_
 refine bl 28 (((c != 7)&&(c != 8))) (fun Q=>?_) (fun Q=>?_)
 have bX:=(aS Q).1
 have bY:=(aS Q).2
 have cS:=aq bX
 have cT:=aq bY
 exact Pl 3<|ce aW (c != 11) (by rw[Q];rfl)
 exact Pl 3<|ce aW false (by rw[Q];rfl)
 refine Pl 1<|cu 3 [32] 35 (((((c != 7)&&(c != 8))&&(c != 11))&&(c != 12))) (fun K aY=>?_) ?_
 refine bl 32 ((((c != 7)&&(c != 8))&&(c != 11))) (fun R=>?_) (fun R=>?_)
 have b0:=(aS R).1
 have c2:=(aS R).2
 have c3:=(aS b0).1
 have c4:=(aS b0).2
 have q19aap:=aq c3
 have q19abp:=aq c4
 have cU:=aq c2
 exact Pl 3<|ce aY (c != 12) (by rw[R];rfl)
 exact Pl 3<|ce aY false (by rw[R];rfl)
 refine Pl 1<|cu 3 [36] 39 ((((((c != 7)&&(c != 8))&&(c != 11))&&(c != 12))&&(c != 17))) (fun K b1=>?_) ?_
 refine bl 36 (((((c != 7)&&(c != 8))&&(c != 11))&&(c != 12))) (fun S=>?_) (fun S=>?_)
 have b2:=(aS S).1
 have c5:=(aS S).2
 have b3:=(aS b2).1
 have c6:=(aS b2).2
 have q21aaa:=(aS b3).1
 have q21aab:=(aS b3).2
 have q21aaap:=aq q21aaa
 have q21aabp:=aq q21aab
 have q21abp:=aq c6
 have cV:=aq c5
 exact Pl 3<|ce b1 (c != 17) (by rw[S];rfl)
 exact Pl 3<|ce b1 false (by rw[S];rfl)
 refine nt<|cb ((((((c != 7)&&(c != 8))&&(c != 11))&&(c != 12))&&(c != 17))) (fun r=>?_) (fun r=>?_)
 have aj:=(aS r).1
 have b4:=(aS r).2
 have am:=(aS aj).1
 have b5:=(aS aj).2
 have q23aaa:=(aS am).1
 have q23aab:=(aS am).2
 have q23aaaa:=(aS q23aaa).1
 have q23aaab:=(aS q23aaa).2
 have q23aaaap:=aq q23aaaa
 have q23aaabp:=aq q23aaab
 have q23aabp:=aq q23aab
 have q23abp:=aq b5
 have cW:=aq b4
 refine sg<|Pl 1<|L0<|b6 g mZ fun cX c7 c8=>Pl 1<|nt<|rt<|tr<|bF c7 (.int .i64 4)<|?_
 have hs:ae aX 0 c b=(aP.zero,4):=by
   unfold ae aX cQ cn
   (try simp only[r,aj,am,q23aaa,q23aaaa,q23aaab,q23aab,b5,b4,bs,if_true,if_false,decide_true,decide_false,eq_self,true_or,or_true,or_false,false_or,if_true,if_false,ch,cc,bZ,cg,reduceIte,fk,fg])
   all_goals rfl
 rw[hs]
 exact bt (ud i c8 I)
 refine bq<|sg<|Pl 2<|L0<|dt #[.slice A b.length cp,.int .i64 0,.bool false,.int .i64 0] fun D cY a E q=>Pl 1<|ng<|Pl 2<|L0<|bJ mZ fun cZ d0 s T y=>L0<|b6 T (mC c) fun b7 b9 k=>?_
 refine nt<|sq<|bk<|sg<|Pl 3<|nt<|?_
 have an:=ud y k s
 have J:=aI q an
 have a6:=aI i J
 refine cb ((c==8)) (fun z=>?_) (fun z=>?_)
 have c9:=al z
 refine sg<|Pl 1<|?_
 have ca:RC w _ A cp b b7 D (ah.mk b false 0):=⟨hsl,a6,(Nat.le_trans i.size a),⟨0,(ub an E),Nat.zero_le _,rfl⟩,by omega⟩
 refine L0<|Oc<|m3 (cK ca) fun d1 cd j d2=>Pl 1<|?_
 have t:=nb (ak E) lr s
 refine L0<|bU (aT j (Ne.symm t) b9) 8 (mG c 0 0 0 0 0 0 0 ((ah.mk b false 0).wordV) 0 0 0 nS nS nS nS 0 0 0 0 0 nS) fun cf ao o=>ng<|Pl 1<|L0<|aR ao 8<|L0<|Oc<|m1 (tN (x:=(ah.mk b false 0).wordV) (w:=cf) (by omega)) fun d3 f=>Pl 1<|ng<|Pl 3<|cu 8 [72] 80 ((dR ((ah.mk b false 0).wordV))) (fun K ba=>?_) ?_
 refine bl 72 ((dR ((ah.mk b false 0).wordV))) (fun ar=>?_) (fun ar=>?_)
 refine Pl 1<|?_
 refine L1<|aR (ub f ao) 8<|Pl 2<|cu 3 [76] 79 (true) (fun K bb=>?_) ?_
 refine bl 76 ((((ah.mk b false 0).wordV)!=4)) (fun av=>?_) (fun av=>?_)
 have ci:=aq av
 exact Pl 3<|ce bb true rfl
 have ci:=ai av
 exact Pl 3<|ce bb true rfl
 exact Pl 1<|ce ba true ar
 exact Pl 8<|ce ba false ar
 have bc:=aI o f
 have U:=us j bc
 have bd:=ut a6 U (ac (ni i.size a) (ac (ni (le i.size q.size) s) au))
 refine L0<|Oc<|m2 (aV ((dR ((ah.mk b false 0).wordV))) 8 (RC.upd cd bc (aa t ay) bd)) fun d4 ck d=>?_
 refine f8 ck fun x70 a7 V=>?_
 refine nt<|sq<|sg<|Pl 1<|?_
 have aw:=aT (uz f d) (Ne.symm t) ao
 refine L0<|aR aw 8<|Pl 1<|nt<|?_
 have be:=ud bd d (le i.size a)
 refine cb ((((ah.mk b false 0).wordV)==0)) (fun L=>?_) (fun L=>?_)
 have cl:=al L
 refine sg<|Pl 1<|L0<|Oc<|m1 (gB V) fun d5 B=>?_
 have d6:=RC.clen V
 refine Pl 1<|ng<|Pl 2<|L0<|Oe (.int .i64 (Int.tmod ((x70.l.length:Nat) : Int) 2)) (.int .i64 (((x70.l.length:Nat) : Int)%2)) (congrArg (Value.int .i64) (Int.tmod_eq_emod_of_nonneg (by omega)))<|Pl 2<|cu 3 [91] 94 ((((((x70.l.length:Nat) : Int)%2)==0)&&(decide (2≤((x70.l.length:Nat) : Int))))) (fun K bi=>?_) ?_
 refine bl 91 (((((x70.l.length:Nat) : Int)%2)==0)) (fun W=>?_) (fun W=>?_)
 have cm:=al W
 exact Pl 3<|ce bi (decide (2≤((x70.l.length:Nat) : Int))) (by rw[W];rfl)
 have cm:=ap W
 exact Pl 3<|ce bi false (by rw[W];rfl)
 refine Pl 1<|cu 3 [95] 98 (((((((x70.l.length:Nat) : Int)%2)==0)&&(decide (2≤((x70.l.length:Nat) : Int))))&&(decide (((x70.l.length:Nat) : Int)≤250)))) (fun K bm=>?_) ?_
 refine bl 95 ((((((x70.l.length:Nat) : Int)%2)==0)&&(decide (2≤((x70.l.length:Nat) : Int))))) (fun X=>?_) (fun X=>?_)
 have co:=(aS X).1
 have cq:=(aS X).2
 have d8:=al co
 have d9:=of_decide_eq_true cq
 exact Pl 3<|ce bm (decide (((x70.l.length:Nat) : Int)≤250)) (by rw[X];rfl)
 exact Pl 3<|ce bm false (by rw[X];rfl)
 refine L0<|Oc<|m2 (aV (((((((x70.l.length:Nat) : Int)%2)==0)&&(decide (2≤((x70.l.length:Nat) : Int))))&&(decide (((x70.l.length:Nat) : Int)≤250)))) 5 (RC.upd V B ay (aE.step (RC.u V) B))) fun da cr M=>?_
 refine f8 cr fun x88 bo cs=>?_
 refine ng<|Pl 2<|L0<|Oe (.int .i64 (IntKind.i64.wrap (Int.tdiv ((x70.l.length:Nat) : Int) 2))) (.int .i64 (((x70.l.length:Nat) : Int)/2)) (congrArg (Value.int .i64) (fb (by omega) (by omega)))<|L0<|Oc<|ly (fj (n:=(((x70.l.length:Nat) : Int)/2)) (by omega) cs) fun bp br db F dc dd ct cv=>Pl 1<|?_
 have bu:=uz B (u1 M cv im)
 refine L0<|bU (aT bu (Ne.symm t) aw) 12 (mG c 0 0 0 0 0 0 0 ((ah.mk b false 0).wordV) 0 0 0 (.slice bp ((x88.wordsR (((x70.l.length:Nat) : Int)/2)).length) br) nS nS nS 0 0 0 0 0 nS) fun de cw a8=>nt<|xt<|tx<|bx<|tn<|sg<|Pl 1<|?_
 have aC:=us bu a8
 have bv:=ut be aC (ac (ni i.size a) (ac (ni (le i.size q.size) s) au))
 refine L0<|Oc<|m2 (dT (RC.upd ct a8 (aa t ay) bv)) fun df aD Y=>nt<|sq<|sg<|Pl 3<|L0<|dZ (p:=⟨D,3,none⟩) (v:=.int .i64 (((x88.wordsC (((x70.l.length:Nat) : Int)/2)).endC).e)) (RC.fld aD)<|Pl 1<|nt<|?_
 have bw:=ud bv Y (le i.size a)
 refine cb (((((x88.wordsC (((x70.l.length:Nat) : Int)/2)).endC).e)!=0)) (fun Z=>?_) (fun Z=>?_)
 have aG:=aq Z
 refine sq<|Rg 7 (fun w'=>w'.cell? ⟨D,3,none⟩=some (.int .i64 (((x88.wordsC (((x70.l.length:Nat) : Int)/2)).endC).e))) fun dg a9=>?_
 have bz:=RC.upd aD a9 ay (aE.step (RC.u aD) a9)
 refine bh (RC.fld bz) fun a0=>Rt 0 a0<|Rt 1 a0<|Rt 2 a0<|Rt 3 a0<|Rl 4 a0 (fun _ hs=>hs)<|?_
 have bA:=aI Y a9
 refine R0 5 rfl<|b6 (ub (ut J (ut U (ui d (u1 aC bA im)) (ac im (ac im au))) (ac (nr a) (ac (ni q.size s) au))) g) mZ fun dh cx aH=>?_
 have bB:=ud bw (uz a9 aH) I
 refine bh (RC.fld (RC.upd bz aH (aa (Ne.symm (nb (ak g) lr a)) ay) bB)) fun cy=>Rt 6 cy<|re<|tn<|rt<|tr<|bF cx (.int .i64 (((x88.wordsC (((x70.l.length:Nat) : Int)/2)).endC).e))<|?_
 have di:=ax F (us a8 (us bA aH)) (fun x hx=>(aa (fun e=>(aA (ak T) (le (le (le (le (le (le k.size j.size) o.size) f.size) d.size) B.size) M.size) F) (e▸hx)) (aa (fun e=>(aA (ak E) (le (le (le (le (le (le (le y.size k.size) j.size) o.size) f.size) d.size) B.size) M.size) F) (e▸hx)) (aa (fun e=>(aA (ak g) (le (le (le (le (le (le (le (le q.size y.size) k.size) j.size) o.size) f.size) d.size) B.size) M.size) F) (e▸hx)) ay)))) (fun _ _ h=>h)
 have hs:ae aX 0 c b=aF (aP.mk c 0 0 0 0 0 0 0 ((ah.mk b false 0).wordV) 0 0 0 (x88.wordsR (((x70.l.length:Nat) : Int)/2)) [] [] [] 0 0 0 0 0 []) (x88.wordsC (((x70.l.length:Nat) : Int)/2)):=by
   subst bo a7
   unfold ae aX cQ cn
   (try simp only[r,z,L,Z,bs,if_true,if_false,decide_true,decide_false,eq_self,true_or,or_true,or_false,false_or,if_true,if_false,ch,cc,bZ,cg,reduceIte,fk,fg])
   all_goals rfl
 rw[hs]
 exact bf aG bB
 have aG:=ai Z
 refine bq<|sg<|?_
 refine L0<|cj (aT Y (Ne.symm t) cw)<|?_
 refine L0<|b6 (ub (ut J (ut U (ui d (u1 aC Y im)) (ac im (ac im au))) (ac (nr a) (ac (ni q.size s) au))) g) (mG c 0 0 0 0 0 0 0 ((ah.mk b false 0).wordV) 0 0 0 (.slice bp ((x88.wordsR (((x70.l.length:Nat) : Int)/2)).length) br) nS nS nS 0 0 0 0 0 nS) fun dj cz bC=>Pl 1<|nt<|rt<|bF cz (.int .i64 0)<|?_
 have hs:ae aX 0 c b=aF (aP.mk c 0 0 0 0 0 0 0 ((ah.mk b false 0).wordV) 0 0 0 (x88.wordsR (((x70.l.length:Nat) : Int)/2)) [] [] [] 0 0 0 0 0 []) (x88.wordsC (((x70.l.length:Nat) : Int)/2)):=by
   subst bo a7
   unfold ae aX cQ cn
   (try simp only[r,z,L,Z,bs,if_true,if_false,decide_true,decide_false,eq_self,true_or,or_true,or_false,false_or,if_true,if_false,ch,cc,bZ,cg,reduceIte,fk,fg])
   all_goals rfl
 rw[hs]
 exact bj aG ⟨_,_,_,_,_,rfl,((ax F (us a8 (us Y bC)) (fun x hx=>(aa (fun e=>(aA (ak T) (le (le (le (le (le (le k.size j.size) o.size) f.size) d.size) B.size) M.size) F) (e▸hx)) (aa (fun e=>(aA (ak E) (le (le (le (le (le (le (le y.size k.size) j.size) o.size) f.size) d.size) B.size) M.size) F) (e▸hx)) (aa (fun e=>(aA (ak g) (le (le (le (le (le (le (le (le q.size y.size) k.size) j.size) o.size) f.size) d.size) B.size) M.size) F) (e▸hx)) ay)))) (fun _ _ h=>h))).rd,aK.nil ..,(fun _ _ _=>aK.nil ..),aK.nil ..,aK.nil ..,⟨(b8 (x:=c) (by omega)),(b8 (x:=0) (by omega)),(aB (x:=0) (by omega)),(aB (x:=0) (by omega)),(aB (x:=0) (by omega)),(aB (x:=0) (by omega)),(aB (x:=0) (by omega)),(aB (x:=0) (by omega)),(aB (x:=(ah.mk b false 0).wordV) (by omega)),(aB (x:=0) (by omega)),(aB (x:=0) (by omega)),(aB (x:=0) (by omega)),(b8 (x:=0) (by omega)),(b8 (x:=0) (by omega)),(b8 (x:=0) (by omega)),(b8 (x:=0) (by omega)),(b8 (x:=0) (by omega))⟩⟩ (ud bw bC I)
 have cl:=ap L
 refine bq<|sg<|Pl 1<|L0<|Oc<|m3 (cK V) fun cA bD G dk=>Pl 1<|ng<|Pl 3<|?_
 have bE:=aT G (Ne.symm t) aw
 refine L0<|aR bE 8<|Pl 1<|L0<|Oc<|m1 (uj (dir:=0) (sub:=(ah.mk b false 0).wordV) (v:=x70.wordV) (w:=cA) (by omega)) fun dl C=>?_
 refine L0<|Oc<|m2 (aV ((eC 0 ((ah.mk b false 0).wordV) x70.wordV)) 6 (RC.upd bD C ay (aE.step (RC.u bD) C))) fun dm cB N=>?_
 refine f8 cB fun O bG cC=>?_
 refine nt<|go<|Pl 1<|L0<|dy (m:=1) (e:=24) #[.int .u16 x70.wordV] fun bH dn cD cE bI=>?_
 have H:=dV cD (xs:=[x70.wordV]) (by as_aux_lemma=>kernel_rfl) (az (by omega) aZ) (by(try simp only[List.length_cons,List.length_nil]);omega) cE
 refine Pl 1<|?_
 have bK:=uz C (aI N bI)
 refine L0<|bU (aT bK (Ne.symm t) bE) 12 (mG c 0 0 0 0 0 0 0 ((ah.mk b false 0).wordV) 0 0 0 (.slice (some ⟨bH,0,none⟩) 1 1) nS nS nS 0 0 0 0 0 nS) fun dp cF ab=>nl<|bn<|tn<|sg<|Pl 1<|?_
 have aJ:=ui G (us bK ab)
 have bL:=ut be aJ (ac (ni i.size a) (ac (ni (le i.size q.size) s) au))
 refine L0<|Oc<|m2 (dT (RC.upd cC (uz bI ab) (aa t ay) bL)) fun dq aL a1=>nt<|sq<|sg<|Pl 3<|L0<|dZ (p:=⟨D,3,none⟩) (v:=.int .i64 O.endC.e) (RC.fld aL)<|Pl 1<|nt<|?_
 have bM:=ud bL a1 (le i.size a)
 refine cb ((O.endC.e != 0)) (fun a2=>?_) (fun a2=>?_)
 have aM:=aq a2
 refine sq<|Rg 7 (fun w'=>w'.cell? ⟨D,3,none⟩=some (.int .i64 O.endC.e)) fun dr ad=>?_
 have bN:=RC.upd aL ad ay (aE.step (RC.u aL) ad)
 refine bh (RC.fld bN) fun a3=>Rt 0 a3<|Rt 1 a3<|Rt 2 a3<|Rt 3 a3<|Rl 4 a3 (fun _ hs=>hs)<|?_
 have bO:=aI a1 ad
 refine R0 5 rfl<|b6 (ub (ut J (ut U (ui d (u1 aJ bO im)) (ac im (ac im au))) (ac (nr a) (ac (ni q.size s) au))) g) mZ fun ds cG aN=>?_
 have bP:=ud bM (uz ad aN) I
 refine bh (RC.fld (RC.upd bN aN (aa (Ne.symm (nb (ak g) lr a)) ay) bP)) fun cH=>Rt 6 cH<|re<|tn<|rt<|tr<|bF cG (.int .i64 O.endC.e)<|?_
 have du:=ax H (us ab (us bO aN)) (fun x hx=>(aa (fun e=>(aA (ak T) (le (le (le (le (le (le (le k.size j.size) o.size) f.size) d.size) G.size) C.size) N.size) H) (e▸hx)) (aa (fun e=>(aA (ak E) (le (le (le (le (le (le (le (le y.size k.size) j.size) o.size) f.size) d.size) G.size) C.size) N.size) H) (e▸hx)) (aa (fun e=>(aA (ak g) (le (le (le (le (le (le (le (le (le q.size y.size) k.size) j.size) o.size) f.size) d.size) G.size) C.size) N.size) H) (e▸hx)) ay)))) (fun _ _ h=>h)
 have hs:ae aX 0 c b=aF (aP.mk c 0 0 0 0 0 0 0 ((ah.mk b false 0).wordV) 0 0 0 [x70.wordV] [] [] [] 0 0 0 0 0 []) O:=by
   subst bG a7
   unfold ae aX cQ cn
   (try simp only[r,z,L,a2,bs,if_true,if_false,decide_true,decide_false,eq_self,true_or,or_true,or_false,false_or,if_true,if_false,ch,cc,bZ,cg,reduceIte,fk,fg])
   all_goals rfl
 rw[hs]
 exact bf aM bP
 have aM:=ai a2
 refine bq<|sg<|?_
 refine L0<|cj (aT a1 (Ne.symm t) cF)<|?_
 refine L0<|b6 (ub (ut J (ut U (ui d (u1 aJ a1 im)) (ac im (ac im au))) (ac (nr a) (ac (ni q.size s) au))) g) (mG c 0 0 0 0 0 0 0 ((ah.mk b false 0).wordV) 0 0 0 (.slice (some ⟨bH,0,none⟩) 1 1) nS nS nS 0 0 0 0 0 nS) fun dv cI bQ=>Pl 1<|nt<|rt<|bF cI (.int .i64 0)<|?_
 have hs:ae aX 0 c b=aF (aP.mk c 0 0 0 0 0 0 0 ((ah.mk b false 0).wordV) 0 0 0 [x70.wordV] [] [] [] 0 0 0 0 0 []) O:=by
   subst bG a7
   unfold ae aX cQ cn
   (try simp only[r,z,L,a2,bs,if_true,if_false,decide_true,decide_false,eq_self,true_or,or_true,or_false,false_or,if_true,if_false,ch,cc,bZ,cg,reduceIte,fk,fg])
   all_goals rfl
 rw[hs]
 exact bj aM ⟨_,_,_,_,_,rfl,((ax H (us ab (us a1 bQ)) (fun x hx=>(aa (fun e=>(aA (ak T) (le (le (le (le (le (le (le k.size j.size) o.size) f.size) d.size) G.size) C.size) N.size) H) (e▸hx)) (aa (fun e=>(aA (ak E) (le (le (le (le (le (le (le (le y.size k.size) j.size) o.size) f.size) d.size) G.size) C.size) N.size) H) (e▸hx)) (aa (fun e=>(aA (ak g) (le (le (le (le (le (le (le (le (le q.size y.size) k.size) j.size) o.size) f.size) d.size) G.size) C.size) N.size) H) (e▸hx)) ay)))) (fun _ _ h=>h))).rd,aK.nil ..,(fun _ _ _=>aK.nil ..),aK.nil ..,aK.nil ..,⟨(b8 (x:=c) (by omega)),(b8 (x:=0) (by omega)),(aB (x:=0) (by omega)),(aB (x:=0) (by omega)),(aB (x:=0) (by omega)),(aB (x:=0) (by omega)),(aB (x:=0) (by omega)),(aB (x:=0) (by omega)),(aB (x:=(ah.mk b false 0).wordV) (by omega)),(aB (x:=0) (by omega)),(aB (x:=0) (by omega)),(aB (x:=0) (by omega)),(b8 (x:=0) (by omega)),(b8 (x:=0) (by omega)),(b8 (x:=0) (by omega)),(b8 (x:=0) (by omega)),(b8 (x:=0) (by omega))⟩⟩ (ud bM bQ I)
 have c9:=ap z
 refine sg<|Pl 3<|nt<|c1<|sk<|bn<|tn<|sg<|Pl 1<|?_
 have cJ:RC w _ A cp b b7 D (ah.mk b false 0):=⟨hsl,a6,(Nat.le_trans i.size a),⟨0,(ub an E),Nat.zero_le _,rfl⟩,by omega⟩
 refine L0<|Oc<|m2 (dT cJ) fun dw aO af=>nt<|sq<|sg<|Pl 3<|L0<|dZ (p:=⟨D,3,none⟩) (v:=.int .i64 (((ah.mk b false 0).endC).e)) (RC.fld aO)<|Pl 1<|nt<|?_
 have bR:=ud a6 af (le i.size a)
 refine cb (((((ah.mk b false 0).endC).e)!=0)) (fun a4=>?_) (fun a4=>?_)
 have aQ:=aq a4
 refine sq<|Rg 7 (fun w'=>w'.cell? ⟨D,3,none⟩=some (.int .i64 (((ah.mk b false 0).endC).e))) fun dx ag=>?_
 have bS:=RC.upd aO ag ay (aE.step (RC.u aO) ag)
 refine bh (RC.fld bS) fun a5=>Rt 0 a5<|Rt 1 a5<|Rt 2 a5<|Rt 3 a5<|Rl 4 a5 (fun _ hs=>hs)<|?_
 refine R0 5 rfl<|b6 (ub (ud J (aI af ag) a) g) mZ fun dz cL bT=>?_
 have bV:=ud bR (uz ag bT) I
 refine bh (RC.fld (RC.upd bS bT (aa (Ne.symm (nb (ak g) lr a)) ay) bV)) fun cM=>Rt 6 cM<|re<|tn<|rt<|tr<|bF cL (.int .i64 (((ah.mk b false 0).endC).e))<|?_
 have hs:ae aX 0 c b=aF (aP.mk c 0 0 0 0 0 0 0 0 0 0 0 [] [] [] [] 0 0 0 0 0 []) (ah.mk b false 0):=by
   unfold ae aX cQ cn
   (try simp only[r,z,a4,bs,if_true,if_false,decide_true,decide_false,eq_self,true_or,or_true,or_false,false_or,if_true,if_false,ch,cc,bZ,cg,reduceIte,fk,fg])
   all_goals rfl
 rw[hs]
 exact bf aQ bV
 have aQ:=ai a4
 refine bq<|sg<|?_
 refine L0<|cj (aT af (Ne.symm (nb (ak E) lr s)) b9)<|?_
 refine L0<|b6 (ub (ud J af a) g) (mC c) fun dA cN cO=>Pl 1<|nt<|rt<|bF cN (.int .i64 0)<|?_
 have hs:ae aX 0 c b=aF (aP.mk c 0 0 0 0 0 0 0 0 0 0 0 [] [] [] [] 0 0 0 0 0 []) (ah.mk b false 0):=by
   unfold ae aX cQ cn
   (try simp only[r,z,a4,bs,if_true,if_false,decide_true,decide_false,eq_self,true_or,or_true,or_false,false_or,if_true,if_false,ch,cc,bZ,cg,reduceIte,fk,fg])
   all_goals rfl
 rw[hs]
 exact bj aQ ⟨_,_,_,_,_,rfl,aK.nil ..,aK.nil ..,(fun _ _ _=>aK.nil ..),aK.nil ..,aK.nil ..,⟨(b8 (x:=c) (by omega)),(b8 (x:=0) (by omega)),(aB (x:=0) (by omega)),(aB (x:=0) (by omega)),(aB (x:=0) (by omega)),(aB (x:=0) (by omega)),(aB (x:=0) (by omega)),(aB (x:=0) (by omega)),(aB (x:=0) (by omega)),(aB (x:=0) (by omega)),(aB (x:=0) (by omega)),(aB (x:=0) (by omega)),(b8 (x:=0) (by omega)),(b8 (x:=0) (by omega)),(b8 (x:=0) (by omega)),(b8 (x:=0) (by omega)),(b8 (x:=0) (by omega))⟩⟩ (ud bR cO I)
theorem jA{m:Md}{A:Option Addr}{cp:Nat}{b:List Int}{w:World}{c:Int}(hcode:B8 c)(hsl:bg m w (.slice A b.length cp) b)(hb:b.length≤1048576) :
    Calls Tryz.prog 95 #[.int .i64 1,.int .u8 c,.slice A b.length cp] w (d7 (.slice A b.length cp) b (ae aX 1 c b) w):=by
 obtain⟨hcode1,hcode2⟩:=hcode
 have hln:(b.length:Int)≤1048576:=by omega
 refine en 197 Tryz.func95 rfl<|sg<|L0<|bJ mZ fun fz fA B i d=>Pl 1<|nt<|sq<|sg<|Pl 6<|nt<|c0<|?_
 refine bq<|sq<|sg<|Pl 3<|cu 3 [24] 27 (((c != 7)&&(c != 8))) (fun K bY=>?_) ?_
 refine bl 24 ((c != 7)) (fun a0=>?_) (fun a0=>?_)
 have dL:=aq a0
 exact Pl 3<|ce bY (c != 8) (by rw[a0];rfl)
 have dL:=ai a0
 exact Pl 3<|ce bY false (by rw[a0];rfl)
 refine Pl 1<|cu 3 [28] 31 ((((c != 7)&&(c != 8))&&(c != 11))) (fun K c1=>?_) ?_
 refine bl 28 (((c != 7)&&(c != 8))) (fun a1=>?_) (fun a1=>?_)
 have dM:=(aS a1).1
 have dN:=(aS a1).2
 have fB:=aq dM
 have fC:=aq dN
 exact Pl 3<|ce c1 (c != 11) (by rw[a1];rfl)
 exact Pl 3<|ce c1 false (by rw[a1];rfl)
 refine Pl 1<|cu 3 [32] 35 (((((c != 7)&&(c != 8))&&(c != 11))&&(c != 12))) (fun K c2=>?_) ?_
 refine bl 32 ((((c != 7)&&(c != 8))&&(c != 11))) (fun a2=>?_) (fun a2=>?_)
 have c3:=(aS a2).1
 have dO:=(aS a2).2
 have dP:=(aS c3).1
 have dQ:=(aS c3).2
 have q19aap:=aq dP
 have q19abp:=aq dQ
 have fD:=aq dO
 exact Pl 3<|ce c2 (c != 12) (by rw[a2];rfl)
 exact Pl 3<|ce c2 false (by rw[a2];rfl)
 refine Pl 1<|cu 3 [36] 39 ((((((c != 7)&&(c != 8))&&(c != 11))&&(c != 12))&&(c != 17))) (fun K c4=>?_) ?_
 refine bl 36 (((((c != 7)&&(c != 8))&&(c != 11))&&(c != 12))) (fun a3=>?_) (fun a3=>?_)
 have c5:=(aS a3).1
 have dS:=(aS a3).2
 have c6:=(aS c5).1
 have dU:=(aS c5).2
 have q21aaa:=(aS c6).1
 have q21aab:=(aS c6).2
 have q21aaap:=aq q21aaa
 have q21aabp:=aq q21aab
 have q21abp:=aq dU
 have fE:=aq dS
 exact Pl 3<|ce c4 (c != 17) (by rw[a3];rfl)
 exact Pl 3<|ce c4 false (by rw[a3];rfl)
 refine nt<|cb ((((((c != 7)&&(c != 8))&&(c != 11))&&(c != 12))&&(c != 17))) (fun q=>?_) (fun q=>?_)
 have bc:=(aS q).1
 have c7:=(aS q).2
 have bd:=(aS bc).1
 have c8:=(aS bc).2
 have q23aaa:=(aS bd).1
 have q23aab:=(aS bd).2
 have q23aaaa:=(aS q23aaa).1
 have q23aaab:=(aS q23aaa).2
 have q23aaaap:=aq q23aaaa
 have q23aaabp:=aq q23aaab
 have q23aabp:=aq q23aab
 have q23abp:=aq c8
 have fF:=aq c7
 refine sg<|Pl 1<|L0<|b6 i mZ fun fG dW dX=>Pl 1<|nt<|rt<|tr<|bF dW (.int .i64 4)<|?_
 have hs:ae aX 1 c b=(aP.zero,4):=by
   unfold ae aX cQ cn
   (try simp only[q,bc,bd,q23aaa,q23aaaa,q23aaab,q23aab,c8,c7,bs,if_true,if_false,decide_true,decide_false,eq_self,true_or,or_true,or_false,false_or,if_true,if_false,ch,cc,bZ,cg,reduceIte,fk,fg])
   all_goals rfl
 rw[hs]
 exact bt (ud d dX B)
 refine bq<|sg<|Pl 2<|L0<|dt #[.slice A b.length cp,.int .i64 0,.bool false,.int .i64 0] fun o fH a t g=>Pl 1<|ng<|Pl 2<|L0<|bJ mZ fun fI fJ f a4 L=>L0<|b6 a4 (mC c) fun a5 a6 C=>?_
 refine nt<|sq<|bk<|sg<|Pl 3<|nt<|?_
 have X:=ud L C f
 have D:=aI g X
 have I:=aI d D
 refine cb ((c==8)) (fun r=>?_) (fun r=>?_)
 have dY:=al r
 refine sg<|Pl 1<|?_
 have e0:RC w _ A cp b a5 o (ah.mk b false 0):=⟨hsl,I,(Nat.le_trans d.size a),⟨0,(ub X t),Nat.zero_le _,rfl⟩,by omega⟩
 refine L0<|Oc<|m3 (cK e0) fun fK e1 y fL=>Pl 1<|?_
 have J:=nb (ak t) lr f
 refine L0<|bU (aT y (Ne.symm J) a6) 8 (mG c 0 0 0 0 0 0 0 ((ah.mk b false 0).wordV) 0 0 0 nS nS nS nS 0 0 0 0 0 nS) fun e2 be E=>ng<|Pl 1<|L0<|aR be 8<|L0<|Oc<|m1 (tN (x:=(ah.mk b false 0).wordV) (w:=e2) (by omega)) fun fM s=>Pl 1<|ng<|Pl 3<|cu 8 [72] 80 (((dR ((ah.mk b false 0).wordV))&&(((ah.mk b false 0).wordV)!=4))) (fun K c9=>?_) ?_
 refine bl 72 ((dR ((ah.mk b false 0).wordV))) (fun bi=>?_) (fun bi=>?_)
 refine Pl 1<|?_
 refine L1<|aR (ub s be) 8<|Pl 2<|cu 3 [76] 79 ((((ah.mk b false 0).wordV)!=4)) (fun K ca=>?_) ?_
 refine bl 76 ((((ah.mk b false 0).wordV)!=4)) (fun a7=>?_) (fun a7=>?_)
 have e3:=aq a7
 exact Pl 3<|ce ca true a7
 have e3:=ai a7
 exact Pl 3<|ce ca false a7
 exact Pl 1<|ce c9 (((ah.mk b false 0).wordV)!=4) (by rw[bi];rfl)
 exact Pl 8<|ce c9 false (by rw[bi];rfl)
 have cd:=aI E s
 have a8:=us y cd
 have cf:=ut I a8 (ac (ni d.size a) (ac (ni (le d.size g.size) f) au))
 refine L0<|Oc<|m2 (aV (((dR ((ah.mk b false 0).wordV))&&(((ah.mk b false 0).wordV)!=4))) 8 (RC.upd e1 cd (aa J ay) cf)) fun fN e4 j=>?_
 refine f8 e4 fun x70 aU a9=>?_
 refine nt<|sq<|sg<|Pl 1<|?_
 have bm:=aT (uz s j) (Ne.symm J) be
 refine L0<|aR bm 8<|Pl 1<|nt<|?_
 have ci:=ud cf j (le d.size a)
 refine cb ((((ah.mk b false 0).wordV)==0)) (fun T=>?_) (fun T=>?_)
 have e5:=al T
 refine sg<|Pl 1<|L0<|Oc<|m1 (gB a9) fun fO M=>?_
 have fP:=RC.clen a9
 refine Pl 1<|ng<|Pl 2<|L0<|Oe (.int .i64 (Int.tmod ((x70.l.length:Nat) : Int) 2)) (.int .i64 (((x70.l.length:Nat) : Int)%2)) (congrArg (Value.int .i64) (Int.tmod_eq_emod_of_nonneg (by omega)))<|Pl 2<|cu 3 [91] 94 ((((((x70.l.length:Nat) : Int)%2)==0)&&(decide (2≤((x70.l.length:Nat) : Int))))) (fun K ck=>?_) ?_
 refine bl 91 (((((x70.l.length:Nat) : Int)%2)==0)) (fun ab=>?_) (fun ab=>?_)
 have e6:=al ab
 exact Pl 3<|ce ck (decide (2≤((x70.l.length:Nat) : Int))) (by rw[ab];rfl)
 have e6:=ap ab
 exact Pl 3<|ce ck false (by rw[ab];rfl)
 refine Pl 1<|cu 3 [95] 98 (((((((x70.l.length:Nat) : Int)%2)==0)&&(decide (2≤((x70.l.length:Nat) : Int))))&&(decide (((x70.l.length:Nat) : Int)≤250)))) (fun K cl=>?_) ?_
 refine bl 95 ((((((x70.l.length:Nat) : Int)%2)==0)&&(decide (2≤((x70.l.length:Nat) : Int))))) (fun ad=>?_) (fun ad=>?_)
 have e7:=(aS ad).1
 have e8:=(aS ad).2
 have fQ:=al e7
 have fR:=of_decide_eq_true e8
 exact Pl 3<|ce cl (decide (((x70.l.length:Nat) : Int)≤250)) (by rw[ad];rfl)
 exact Pl 3<|ce cl false (by rw[ad];rfl)
 refine L0<|Oc<|m2 (aV (((((((x70.l.length:Nat) : Int)%2)==0)&&(decide (2≤((x70.l.length:Nat) : Int))))&&(decide (((x70.l.length:Nat) : Int)≤250)))) 5 (RC.upd a9 M ay (aE.step (RC.u a9) M))) fun fS e9 U=>?_
 refine f8 e9 fun x88 cm ea=>?_
 refine ng<|Pl 2<|L0<|Oe (.int .i64 (IntKind.i64.wrap (Int.tdiv ((x70.l.length:Nat) : Int) 2))) (.int .i64 (((x70.l.length:Nat) : Int)/2)) (congrArg (Value.int .i64) (fb (by omega) (by omega)))<|L0<|Oc<|ly (fj (n:=(((x70.l.length:Nat) : Int)/2)) (by omega) ea) fun co cq fT Q fU fV eb ec=>Pl 1<|?_
 have cr:=uz M (u1 U ec im)
 refine L0<|bU (aT cr (Ne.symm J) bm) 12 (mG c 0 0 0 0 0 0 0 ((ah.mk b false 0).wordV) 0 0 0 (.slice co ((x88.wordsR (((x70.l.length:Nat) : Int)/2)).length) cq) nS nS nS 0 0 0 0 0 nS) fun fW ed aW=>nt<|xt<|tx<|bx<|tn<|sg<|Pl 1<|?_
 have bo:=us cr aW
 have cs:=ut ci bo (ac (ni d.size a) (ac (ni (le d.size g.size) f) au))
 refine L0<|Oc<|m2 (dT (RC.upd eb aW (aa J ay) cs)) fun fX bp af=>nt<|sq<|sg<|Pl 3<|L0<|dZ (p:=⟨o,3,none⟩) (v:=.int .i64 (((x88.wordsC (((x70.l.length:Nat) : Int)/2)).endC).e)) (RC.fld bp)<|Pl 1<|nt<|?_
 have ct:=ud cs af (le d.size a)
 refine cb (((((x88.wordsC (((x70.l.length:Nat) : Int)/2)).endC).e)!=0)) (fun ag=>?_) (fun ag=>?_)
 have br:=aq ag
 refine sq<|Rg 7 (fun w'=>w'.cell? ⟨o,3,none⟩=some (.int .i64 (((x88.wordsC (((x70.l.length:Nat) : Int)/2)).endC).e))) fun fY aY=>?_
 have cv:=RC.upd bp aY ay (aE.step (RC.u bp) aY)
 refine bh (RC.fld cv) fun aj=>Rt 0 aj<|Rt 1 aj<|Rt 2 aj<|Rt 3 aj<|Rl 4 aj (fun _ hs=>hs)<|?_
 have cw:=aI af aY
 refine R0 5 rfl<|b6 (ub (ut D (ut a8 (ui j (u1 bo cw im)) (ac im (ac im au))) (ac (nr a) (ac (ni g.size f) au))) i) mZ fun fZ ee bu=>?_
 have cx:=ud ct (uz aY bu) B
 refine bh (RC.fld (RC.upd cv bu (aa (Ne.symm (nb (ak i) lr a)) ay) cx)) fun ef=>Rt 6 ef<|re<|tn<|rt<|tr<|bF ee (.int .i64 (((x88.wordsC (((x70.l.length:Nat) : Int)/2)).endC).e))<|?_
 have g0:=ax Q (us aW (us cw bu)) (fun x hx=>(aa (fun e=>(aA (ak a4) (le (le (le (le (le (le C.size y.size) E.size) s.size) j.size) M.size) U.size) Q) (e▸hx)) (aa (fun e=>(aA (ak t) (le (le (le (le (le (le (le L.size C.size) y.size) E.size) s.size) j.size) M.size) U.size) Q) (e▸hx)) (aa (fun e=>(aA (ak i) (le (le (le (le (le (le (le (le g.size L.size) C.size) y.size) E.size) s.size) j.size) M.size) U.size) Q) (e▸hx)) ay)))) (fun _ _ h=>h)
 have hs:ae aX 1 c b=aF (aP.mk c 0 0 0 0 0 0 0 ((ah.mk b false 0).wordV) 0 0 0 (x88.wordsR (((x70.l.length:Nat) : Int)/2)) [] [] [] 0 0 0 0 0 []) (x88.wordsC (((x70.l.length:Nat) : Int)/2)):=by
   subst cm aU
   unfold ae aX cQ cn
   (try simp only[q,r,T,ag,bs,if_true,if_false,decide_true,decide_false,eq_self,true_or,or_true,or_false,false_or,if_true,if_false,ch,cc,bZ,cg,reduceIte,fk,fg])
   all_goals rfl
 rw[hs]
 exact bf br cx
 have br:=ai ag
 refine bq<|sg<|?_
 refine L0<|cj (aT af (Ne.symm J) ed)<|?_
 refine L0<|b6 (ub (ut D (ut a8 (ui j (u1 bo af im)) (ac im (ac im au))) (ac (nr a) (ac (ni g.size f) au))) i) (mG c 0 0 0 0 0 0 0 ((ah.mk b false 0).wordV) 0 0 0 (.slice co ((x88.wordsR (((x70.l.length:Nat) : Int)/2)).length) cq) nS nS nS 0 0 0 0 0 nS) fun g1 eg cy=>Pl 1<|nt<|rt<|bF eg (.int .i64 0)<|?_
 have hs:ae aX 1 c b=aF (aP.mk c 0 0 0 0 0 0 0 ((ah.mk b false 0).wordV) 0 0 0 (x88.wordsR (((x70.l.length:Nat) : Int)/2)) [] [] [] 0 0 0 0 0 []) (x88.wordsC (((x70.l.length:Nat) : Int)/2)):=by
   subst cm aU
   unfold ae aX cQ cn
   (try simp only[q,r,T,ag,bs,if_true,if_false,decide_true,decide_false,eq_self,true_or,or_true,or_false,false_or,if_true,if_false,ch,cc,bZ,cg,reduceIte,fk,fg])
   all_goals rfl
 rw[hs]
 exact bj br ⟨_,_,_,_,_,rfl,((ax Q (us aW (us af cy)) (fun x hx=>(aa (fun e=>(aA (ak a4) (le (le (le (le (le (le C.size y.size) E.size) s.size) j.size) M.size) U.size) Q) (e▸hx)) (aa (fun e=>(aA (ak t) (le (le (le (le (le (le (le L.size C.size) y.size) E.size) s.size) j.size) M.size) U.size) Q) (e▸hx)) (aa (fun e=>(aA (ak i) (le (le (le (le (le (le (le (le g.size L.size) C.size) y.size) E.size) s.size) j.size) M.size) U.size) Q) (e▸hx)) ay)))) (fun _ _ h=>h))).rd,aK.nil ..,(fun _ _ _=>aK.nil ..),aK.nil ..,aK.nil ..,⟨(b8 (x:=c) (by omega)),(b8 (x:=0) (by omega)),(aB (x:=0) (by omega)),(aB (x:=0) (by omega)),(aB (x:=0) (by omega)),(aB (x:=0) (by omega)),(aB (x:=0) (by omega)),(aB (x:=0) (by omega)),(aB (x:=(ah.mk b false 0).wordV) (by omega)),(aB (x:=0) (by omega)),(aB (x:=0) (by omega)),(aB (x:=0) (by omega)),(b8 (x:=0) (by omega)),(b8 (x:=0) (by omega)),(b8 (x:=0) (by omega)),(b8 (x:=0) (by omega)),(b8 (x:=0) (by omega))⟩⟩ (ud ct cy B)
 have e5:=ap T
 refine bq<|sg<|Pl 1<|L0<|Oc<|m3 (cK a9) fun eh cz R g2=>Pl 1<|ng<|Pl 3<|?_
 have cA:=aT R (Ne.symm J) bm
 refine L0<|aR cA 8<|Pl 1<|L0<|Oc<|m1 (uj (dir:=1) (sub:=(ah.mk b false 0).wordV) (v:=x70.wordV) (w:=eh) (by omega)) fun g3 N=>?_
 refine L0<|Oc<|m2 (aV ((eC 1 ((ah.mk b false 0).wordV) x70.wordV)) 6 (RC.upd cz N ay (aE.step (RC.u cz) N))) fun g4 ei V=>?_
 refine f8 ei fun Y cB ej=>?_
 refine nt<|go<|Pl 1<|L0<|dy (m:=1) (e:=24) #[.int .u16 x70.wordV] fun cC g5 ek el cD=>?_
 have S:=dV ek (xs:=[x70.wordV]) (by as_aux_lemma=>kernel_rfl) (az (by omega) aZ) (by(try simp only[List.length_cons,List.length_nil]);omega) el
 refine Pl 1<|?_
 have cE:=uz N (aI V cD)
 refine L0<|bU (aT cE (Ne.symm J) cA) 12 (mG c 0 0 0 0 0 0 0 ((ah.mk b false 0).wordV) 0 0 0 (.slice (some ⟨cC,0,none⟩) 1 1) nS nS nS 0 0 0 0 0 nS) fun g6 em b0=>nl<|bn<|tn<|sg<|Pl 1<|?_
 have bv:=ui R (us cE b0)
 have cF:=ut ci bv (ac (ni d.size a) (ac (ni (le d.size g.size) f) au))
 refine L0<|Oc<|m2 (dT (RC.upd ej (uz cD b0) (aa J ay) cF)) fun g7 bw am=>nt<|sq<|sg<|Pl 3<|L0<|dZ (p:=⟨o,3,none⟩) (v:=.int .i64 Y.endC.e) (RC.fld bw)<|Pl 1<|nt<|?_
 have cG:=ud cF am (le d.size a)
 refine cb ((Y.endC.e != 0)) (fun an=>?_) (fun an=>?_)
 have bz:=aq an
 refine sq<|Rg 7 (fun w'=>w'.cell? ⟨o,3,none⟩=some (.int .i64 Y.endC.e)) fun g8 b1=>?_
 have cH:=RC.upd bw b1 ay (aE.step (RC.u bw) b1)
 refine bh (RC.fld cH) fun ao=>Rt 0 ao<|Rt 1 ao<|Rt 2 ao<|Rt 3 ao<|Rl 4 ao (fun _ hs=>hs)<|?_
 have cI:=aI am b1
 refine R0 5 rfl<|b6 (ub (ut D (ut a8 (ui j (u1 bv cI im)) (ac im (ac im au))) (ac (nr a) (ac (ni g.size f) au))) i) mZ fun g9 eo bA=>?_
 have cJ:=ud cG (uz b1 bA) B
 refine bh (RC.fld (RC.upd cH bA (aa (Ne.symm (nb (ak i) lr a)) ay) cJ)) fun ep=>Rt 6 ep<|re<|tn<|rt<|tr<|bF eo (.int .i64 Y.endC.e)<|?_
 have ga:=ax S (us b0 (us cI bA)) (fun x hx=>(aa (fun e=>(aA (ak a4) (le (le (le (le (le (le (le C.size y.size) E.size) s.size) j.size) R.size) N.size) V.size) S) (e▸hx)) (aa (fun e=>(aA (ak t) (le (le (le (le (le (le (le (le L.size C.size) y.size) E.size) s.size) j.size) R.size) N.size) V.size) S) (e▸hx)) (aa (fun e=>(aA (ak i) (le (le (le (le (le (le (le (le (le g.size L.size) C.size) y.size) E.size) s.size) j.size) R.size) N.size) V.size) S) (e▸hx)) ay)))) (fun _ _ h=>h)
 have hs:ae aX 1 c b=aF (aP.mk c 0 0 0 0 0 0 0 ((ah.mk b false 0).wordV) 0 0 0 [x70.wordV] [] [] [] 0 0 0 0 0 []) Y:=by
   subst cB aU
   unfold ae aX cQ cn
   (try simp only[q,r,T,an,bs,if_true,if_false,decide_true,decide_false,eq_self,true_or,or_true,or_false,false_or,if_true,if_false,ch,cc,bZ,cg,reduceIte,fk,fg])
   all_goals rfl
 rw[hs]
 exact bf bz cJ
 have bz:=ai an
 refine bq<|sg<|?_
 refine L0<|cj (aT am (Ne.symm J) em)<|?_
 refine L0<|b6 (ub (ut D (ut a8 (ui j (u1 bv am im)) (ac im (ac im au))) (ac (nr a) (ac (ni g.size f) au))) i) (mG c 0 0 0 0 0 0 0 ((ah.mk b false 0).wordV) 0 0 0 (.slice (some ⟨cC,0,none⟩) 1 1) nS nS nS 0 0 0 0 0 nS) fun gb eq cL=>Pl 1<|nt<|rt<|bF eq (.int .i64 0)<|?_
 have hs:ae aX 1 c b=aF (aP.mk c 0 0 0 0 0 0 0 ((ah.mk b false 0).wordV) 0 0 0 [x70.wordV] [] [] [] 0 0 0 0 0 []) Y:=by
   subst cB aU
   unfold ae aX cQ cn
   (try simp only[q,r,T,an,bs,if_true,if_false,decide_true,decide_false,eq_self,true_or,or_true,or_false,false_or,if_true,if_false,ch,cc,bZ,cg,reduceIte,fk,fg])
   all_goals rfl
 rw[hs]
 exact bj bz ⟨_,_,_,_,_,rfl,((ax S (us b0 (us am cL)) (fun x hx=>(aa (fun e=>(aA (ak a4) (le (le (le (le (le (le (le C.size y.size) E.size) s.size) j.size) R.size) N.size) V.size) S) (e▸hx)) (aa (fun e=>(aA (ak t) (le (le (le (le (le (le (le (le L.size C.size) y.size) E.size) s.size) j.size) R.size) N.size) V.size) S) (e▸hx)) (aa (fun e=>(aA (ak i) (le (le (le (le (le (le (le (le (le g.size L.size) C.size) y.size) E.size) s.size) j.size) R.size) N.size) V.size) S) (e▸hx)) ay)))) (fun _ _ h=>h))).rd,aK.nil ..,(fun _ _ _=>aK.nil ..),aK.nil ..,aK.nil ..,⟨(b8 (x:=c) (by omega)),(b8 (x:=0) (by omega)),(aB (x:=0) (by omega)),(aB (x:=0) (by omega)),(aB (x:=0) (by omega)),(aB (x:=0) (by omega)),(aB (x:=0) (by omega)),(aB (x:=0) (by omega)),(aB (x:=(ah.mk b false 0).wordV) (by omega)),(aB (x:=0) (by omega)),(aB (x:=0) (by omega)),(aB (x:=0) (by omega)),(b8 (x:=0) (by omega)),(b8 (x:=0) (by omega)),(b8 (x:=0) (by omega)),(b8 (x:=0) (by omega)),(b8 (x:=0) (by omega))⟩⟩ (ud cG cL B)
 have dY:=ap r
 refine sg<|Pl 3<|nt<|c0<|sg<|Pl 3<|nt<|cb ((c==7)) (fun F=>?_) (fun F=>?_)
 have er:=al F
 refine go<|Pl 1<|?_
 have es:RC w _ A cp b a5 o (ah.mk b false 0):=⟨hsl,I,(Nat.le_trans d.size a),⟨0,(ub X t),Nat.zero_le _,rfl⟩,by omega⟩
 refine L0<|Oc<|m3 (dC es) fun gc et cM gd=>L0<|tE ((ah.mk b false 0).byteV)<|Pl 1<|?_
 have bB:=nb (ak t) lr f
 refine L0<|bU (aT cM (Ne.symm bB) a6) 4 (mG c 0 0 0 ((ah.mk b false 0).byteV) 0 0 0 0 0 0 0 nS nS nS nS 0 0 0 0 0 nS) fun ge eu cN=>nl<|bn<|tn<|sg<|Pl 1<|?_
 have bC:=us cM cN
 have cO:=ut I bC (ac (ni d.size a) (ac (ni (le d.size g.size) f) au))
 refine L0<|Oc<|m2 (dT (RC.upd et cN (aa bB ay) cO)) fun gf bD b2=>nt<|sq<|sg<|Pl 3<|L0<|dZ (p:=⟨o,3,none⟩) (v:=.int .i64 ((((ah.mk b false 0).bytesC 1).endC).e)) (RC.fld bD)<|Pl 1<|nt<|?_
 have cP:=ud cO b2 (le d.size a)
 refine cb ((((((ah.mk b false 0).bytesC 1).endC).e)!=0)) (fun ar=>?_) (fun ar=>?_)
 have bE:=aq ar
 refine sq<|Rg 7 (fun w'=>w'.cell? ⟨o,3,none⟩=some (.int .i64 ((((ah.mk b false 0).bytesC 1).endC).e))) fun gg b3=>?_
 have cR:=RC.upd bD b3 ay (aE.step (RC.u bD) b3)
 refine bh (RC.fld cR) fun av=>Rt 0 av<|Rt 1 av<|Rt 2 av<|Rt 3 av<|Rl 4 av (fun _ hs=>hs)<|?_
 refine R0 5 rfl<|b6 (ub (ut D (u1 bC (aI b2 b3) im) (ac (nr a) (ac (ni g.size f) au))) i) mZ fun gh ev cS=>?_
 have cT:=ud cP (uz b3 cS) B
 refine bh (RC.fld (RC.upd cR cS (aa (Ne.symm (nb (ak i) lr a)) ay) cT)) fun ew=>Rt 6 ew<|re<|tn<|rt<|tr<|bF ev (.int .i64 ((((ah.mk b false 0).bytesC 1).endC).e))<|?_
 have hs:ae aX 1 c b=aF (aP.mk c 0 0 0 ((ah.mk b false 0).byteV) 0 0 0 0 0 0 0 [] [] [] [] 0 0 0 0 0 []) ((ah.mk b false 0).bytesC 1):=by
   unfold ae aX cQ cn
   (try simp only[q,r,F,ar,bs,if_true,if_false,decide_true,decide_false,eq_self,true_or,or_true,or_false,false_or,if_true,if_false,ch,cc,bZ,cg,reduceIte,fk,fg])
   all_goals rfl
 rw[hs]
 exact bf bE cT
 have bE:=ai ar
 refine bq<|sg<|?_
 refine L0<|cj (aT b2 (Ne.symm bB) eu)<|?_
 refine L0<|b6 (ub (ut D (u1 bC b2 im) (ac (nr a) (ac (ni g.size f) au))) i) (mG c 0 0 0 ((ah.mk b false 0).byteV) 0 0 0 0 0 0 0 nS nS nS nS 0 0 0 0 0 nS) fun gi ex ey=>Pl 1<|nt<|rt<|bF ex (.int .i64 0)<|?_
 have hs:ae aX 1 c b=aF (aP.mk c 0 0 0 ((ah.mk b false 0).byteV) 0 0 0 0 0 0 0 [] [] [] [] 0 0 0 0 0 []) ((ah.mk b false 0).bytesC 1):=by
   unfold ae aX cQ cn
   (try simp only[q,r,F,ar,bs,if_true,if_false,decide_true,decide_false,eq_self,true_or,or_true,or_false,false_or,if_true,if_false,ch,cc,bZ,cg,reduceIte,fk,fg])
   all_goals rfl
 rw[hs]
 exact bj bE ⟨_,_,_,_,_,rfl,aK.nil ..,aK.nil ..,(fun _ _ _=>aK.nil ..),aK.nil ..,aK.nil ..,⟨(b8 (x:=c) (by omega)),(b8 (x:=0) (by omega)),(aB (x:=0) (by omega)),(aB (x:=0) (by omega)),(aB (x:=(ah.mk b false 0).byteV) (by omega)),(aB (x:=0) (by omega)),(aB (x:=0) (by omega)),(aB (x:=0) (by omega)),(aB (x:=0) (by omega)),(aB (x:=0) (by omega)),(aB (x:=0) (by omega)),(aB (x:=0) (by omega)),(b8 (x:=0) (by omega)),(b8 (x:=0) (by omega)),(b8 (x:=0) (by omega)),(b8 (x:=0) (by omega)),(b8 (x:=0) (by omega))⟩⟩ (ud cP ey B)
 have er:=ap F
 refine sg<|Pl 3<|nt<|cb ((c==11)) (fun O=>?_) (fun O=>?_)
 have ez:=al O
 refine sg<|Pl 1<|?_
 have eA:RC w _ A cp b a5 o (ah.mk b false 0):=⟨hsl,I,(Nat.le_trans d.size a),⟨0,(ub X t),Nat.zero_le _,rfl⟩,by omega⟩
 refine L0<|Oc<|m3 (cK eA) fun gj eB cU gk=>Pl 1<|?_
 have aw:=nb (ak t) lr f
 refine L0<|bU (aT cU (Ne.symm aw) a6) 9 (mG c 0 0 0 0 0 0 0 0 ((ah.mk b false 0).wordV) 0 0 nS nS nS nS 0 0 0 0 0 nS) fun gl bG cV=>ng<|Pl 2<|L0<|aR bG 9<|Pl 2<|cu 4 [137] 141 (((((ah.mk b false 0).wordV)==0)||(((ah.mk b false 0).wordV)==65535))) (fun K cW=>?_) ?_
 refine bl 137 ((((ah.mk b false 0).wordV)==0)) (fun aC=>?_) (fun aC=>?_)
 have eD:=al aC
 exact Pl 4<|ce cW true (by rw[aC];rfl)
 have eD:=ap aC
 exact Pl 1<|L1<|aR bG 9<|Pl 2<|ce cW (((ah.mk b false 0).wordV)==65535) (by rw[aC];rfl)
 have bH:=us cU cV
 have cX:=ut I bH (ac (ni d.size a) (ac (ni (le d.size g.size) f) au))
 refine L0<|Oc<|m2 (aV (((((ah.mk b false 0).wordV)==0)||(((ah.mk b false 0).wordV)==65535))) 6 (RC.upd eB cV (aa aw ay) cX)) fun gm eE eF=>?_
 refine f8 eE fun G cY eG=>?_
 refine nt<|go<|Pl 1<|L0<|Oc<|m3 (cK eG) fun gn eH eI gp=>Pl 1<|?_
 have cZ:=u1 eF eI im
 refine L0<|bU (aT cZ (Ne.symm aw) bG) 10 (mG c 0 0 0 0 0 0 0 0 ((ah.mk b false 0).wordV) G.wordV 0 nS nS nS nS 0 0 0 0 0 nS) fun gq eJ d0=>nl<|bn<|tn<|sg<|Pl 1<|?_
 have bI:=us cZ d0
 have d1:=ut cX bI (ac (ni d.size a) (ac (ni (le d.size g.size) f) au))
 refine L0<|Oc<|m2 (dT (RC.upd eH d0 (aa aw ay) d1)) fun gr bK b4=>nt<|sq<|sg<|Pl 3<|L0<|dZ (p:=⟨o,3,none⟩) (v:=.int .i64 (((G.wordsC 1).endC).e)) (RC.fld bK)<|Pl 1<|nt<|?_
 have d2:=ud d1 b4 (le d.size a)
 refine cb (((((G.wordsC 1).endC).e)!=0)) (fun aD=>?_) (fun aD=>?_)
 have bL:=aq aD
 refine sq<|Rg 7 (fun w'=>w'.cell? ⟨o,3,none⟩=some (.int .i64 (((G.wordsC 1).endC).e))) fun gs b5=>?_
 have d3:=RC.upd bK b5 ay (aE.step (RC.u bK) b5)
 refine bh (RC.fld d3) fun aG=>Rt 0 aG<|Rt 1 aG<|Rt 2 aG<|Rt 3 aG<|Rl 4 aG (fun _ hs=>hs)<|?_
 refine R0 5 rfl<|b6 (ub (ut D (ut bH (u1 bI (aI b4 b5) im) (ac im (ac im au))) (ac (nr a) (ac (ni g.size f) au))) i) mZ fun gt eK d4=>?_
 have d5:=ud d2 (uz b5 d4) B
 refine bh (RC.fld (RC.upd d3 d4 (aa (Ne.symm (nb (ak i) lr a)) ay) d5)) fun eL=>Rt 6 eL<|re<|tn<|rt<|tr<|bF eK (.int .i64 (((G.wordsC 1).endC).e))<|?_
 have hs:ae aX 1 c b=aF (aP.mk c 0 0 0 0 0 0 0 0 ((ah.mk b false 0).wordV) G.wordV 0 [] [] [] [] 0 0 0 0 0 []) (G.wordsC 1):=by
   subst cY
   unfold ae aX cQ cn
   (try simp only[q,r,F,O,aD,bs,if_true,if_false,decide_true,decide_false,eq_self,true_or,or_true,or_false,false_or,if_true,if_false,ch,cc,bZ,cg,reduceIte,fk,fg])
   all_goals rfl
 rw[hs]
 exact bf bL d5
 have bL:=ai aD
 refine bq<|sg<|?_
 refine L0<|cj (aT b4 (Ne.symm aw) eJ)<|?_
 refine L0<|b6 (ub (ut D (ut bH (u1 bI b4 im) (ac im (ac im au))) (ac (nr a) (ac (ni g.size f) au))) i) (mG c 0 0 0 0 0 0 0 0 ((ah.mk b false 0).wordV) G.wordV 0 nS nS nS nS 0 0 0 0 0 nS) fun gu eM eN=>Pl 1<|nt<|rt<|bF eM (.int .i64 0)<|?_
 have hs:ae aX 1 c b=aF (aP.mk c 0 0 0 0 0 0 0 0 ((ah.mk b false 0).wordV) G.wordV 0 [] [] [] [] 0 0 0 0 0 []) (G.wordsC 1):=by
   subst cY
   unfold ae aX cQ cn
   (try simp only[q,r,F,O,aD,bs,if_true,if_false,decide_true,decide_false,eq_self,true_or,or_true,or_false,false_or,if_true,if_false,ch,cc,bZ,cg,reduceIte,fk,fg])
   all_goals rfl
 rw[hs]
 exact bj bL ⟨_,_,_,_,_,rfl,aK.nil ..,aK.nil ..,(fun _ _ _=>aK.nil ..),aK.nil ..,aK.nil ..,⟨(b8 (x:=c) (by omega)),(b8 (x:=0) (by omega)),(aB (x:=0) (by omega)),(aB (x:=0) (by omega)),(aB (x:=0) (by omega)),(aB (x:=0) (by omega)),(aB (x:=0) (by omega)),(aB (x:=0) (by omega)),(aB (x:=0) (by omega)),(aB (x:=(ah.mk b false 0).wordV) (by omega)),(aB (x:=G.wordV) (by omega)),(aB (x:=0) (by omega)),(b8 (x:=0) (by omega)),(b8 (x:=0) (by omega)),(b8 (x:=0) (by omega)),(b8 (x:=0) (by omega)),(b8 (x:=0) (by omega))⟩⟩ (ud d2 eN B)
 have ez:=ap O
 refine sg<|Pl 3<|nt<|cb ((c==12)) (fun W=>?_) (fun W=>?_)
 have eO:=al W
 refine sg<|Pl 1<|?_
 have eP:RC w _ A cp b a5 o (ah.mk b false 0):=⟨hsl,I,(Nat.le_trans d.size a),⟨0,(ub X t),Nat.zero_le _,rfl⟩,by omega⟩
 refine L0<|Oc<|m3 (dC eP) fun gv eQ eR gw=>L0<|Oi ((ah.mk b false 0).byteV)<|Pl 1<|ng<|Pl 4<|cu 3 [155] 158 (((decide (6≤((ah.mk b false 0).byteV)))&&(decide (((ah.mk b false 0).byteV)≤70)))) (fun K d6=>?_) ?_
 refine bl 155 ((decide (6≤((ah.mk b false 0).byteV)))) (fun aH=>?_) (fun aH=>?_)
 have eS:=of_decide_eq_true aH
 exact Pl 3<|ce d6 (decide (((ah.mk b false 0).byteV)≤70)) (by rw[aH];rfl)
 have eS:=of_decide_eq_false aH
 exact Pl 3<|ce d6 false (by rw[aH];rfl)
 refine L0<|Oc<|m2 (aV (((decide (6≤((ah.mk b false 0).byteV)))&&(decide (((ah.mk b false 0).byteV)≤70)))) 5 eQ) fun gx eT eU=>?_
 refine f8 eT fun z d8 eV=>?_
 refine ng<|Pl 1<|L0<|Oc<|m3 (cK eV) fun gy eW eX gz=>Pl 1<|?_
 have d9:=u1 eR (u1 eU eX im) im
 have P:=nb (ak t) lr f
 refine L0<|bU (aT d9 (Ne.symm P) a6) 9 (mG c 0 0 0 0 0 0 0 0 z.wordV 0 0 nS nS nS nS 0 0 0 0 0 nS) fun gA bM da=>ng<|Pl 2<|L0<|aR bM 9<|Pl 2<|cu 4 [167] 171 (((z.wordV==0)||(z.wordV==65535))) (fun K db=>?_) ?_
 refine bl 167 ((z.wordV==0)) (fun aJ=>?_) (fun aJ=>?_)
 have eZ:=al aJ
 exact Pl 4<|ce db true (by rw[aJ];rfl)
 have eZ:=ap aJ
 exact Pl 1<|L1<|aR bM 9<|Pl 2<|ce db (z.wordV==65535) (by rw[aJ];rfl)
 have bN:=us d9 da
 have dc:=ut I bN (ac (ni d.size a) (ac (ni (le d.size g.size) f) au))
 refine L0<|Oc<|m2 (aV (((z.wordV==0)||(z.wordV==65535))) 6 (RC.upd eW da (aa P ay) dc)) fun gC f0 f1=>?_
 refine f8 f0 fun k dd f2=>?_
 refine ng<|Pl 1<|L0<|Oc<|m3 (cK f2) fun gD f3 f4 gE=>Pl 1<|?_
 have de:=u1 f1 f4 im
 refine L0<|bU (aT de (Ne.symm P) bM) 10 (mG c 0 0 0 0 0 0 0 0 z.wordV k.wordV 0 nS nS nS nS 0 0 0 0 0 nS) fun gF f5 df=>ng<|Pl 1<|?_
 have bO:=us de df
 have dg:=ut dc bO (ac (ni d.size a) (ac (ni (le d.size g.size) f) au))
 refine L0<|Oc<|m3 (cK (RC.upd f3 df (aa P ay) dg)) fun gG f6 dh gH=>Pl 1<|?_
 refine L0<|bU (aT dh (Ne.symm P) f5) 11 (mG c 0 0 0 0 0 0 0 0 z.wordV k.wordV ((k.wordsC 1).wordV) nS nS nS nS 0 0 0 0 0 nS) fun gI f7 di=>nt<|go<|Pl 2<|L0<|Oi (((ah.mk b false 0).byteV)-6)<|?_
 have bP:=us dh di
 have dj:=ut dg bP (ac (ni d.size a) (ac (ni (le d.size g.size) f) au))
 have dk:=RC.upd f6 di (aa P ay) dj
 refine L0<|Oc<|mH (eY (n:=(((ah.mk b false 0).byteV)-6)) (by omega) dk) fun dl dm gJ f9 fa dn=>?_
 have gK:=Nat.le_trans (ah.bytesR_le ((k.wordsC 1).wordsC 1) (((ah.mk b false 0).byteV)-6)) (RC.clen dk)
 refine f8 fa fun Z dp fc=>?_
 refine Pl 1<|?_
 refine L0<|bU (aT dn (Ne.symm P) f7) 14 (mG c 0 0 0 0 0 0 0 0 z.wordV k.wordV ((k.wordsC 1).wordV) nS nS (.slice dl ((((k.wordsC 1).wordsC 1).bytesR (((ah.mk b false 0).byteV)-6)).length) dm) nS 0 0 0 0 0 nS) fun gL fd dq=>nl<|bn<|tn<|sg<|Pl 1<|?_
 have bQ:=us dn dq
 have dr:=ut dj bQ (ac (ni d.size a) (ac (ni (le d.size g.size) f) au))
 refine L0<|Oc<|m2 (dT (RC.upd fc dq (aa P ay) dr)) fun gM bR b7=>nt<|sq<|sg<|Pl 3<|L0<|dZ (p:=⟨o,3,none⟩) (v:=.int .i64 Z.endC.e) (RC.fld bR)<|Pl 1<|nt<|?_
 have ds:=ud dr b7 (le d.size a)
 refine cb ((Z.endC.e != 0)) (fun aL=>?_) (fun aL=>?_)
 have bS:=aq aL
 refine sq<|Rg 7 (fun w'=>w'.cell? ⟨o,3,none⟩=some (.int .i64 Z.endC.e)) fun gN b9=>?_
 have du:=RC.upd bR b9 ay (aE.step (RC.u bR) b9)
 refine bh (RC.fld du) fun aM=>Rt 0 aM<|Rt 1 aM<|Rt 2 aM<|Rt 3 aM<|Rl 4 aM (fun _ hs=>hs)<|?_
 refine R0 5 rfl<|b6 (ub (ut D (ut bN (ut bO (ut bP (u1 bQ (aI b7 b9) im) (ac im (ac im au))) (ac im (ac im au))) (ac im (ac im au))) (ac (nr a) (ac (ni g.size f) au))) i) mZ fun gO fe dv=>?_
 have dw:=ud ds (uz b9 dv) B
 refine bh (RC.fld (RC.upd du dv (aa (Ne.symm (nb (ak i) lr a)) ay) dw)) fun ff=>Rt 6 ff<|re<|tn<|rt<|tr<|bF fe (.int .i64 Z.endC.e)<|?_
 have hs:ae aX 1 c b=aF (aP.mk c 0 0 0 0 0 0 0 0 z.wordV k.wordV ((k.wordsC 1).wordV) [] [] (((k.wordsC 1).wordsC 1).bytesR (((ah.mk b false 0).byteV)-6)) [] 0 0 0 0 0 []) Z:=by
   subst dp dd d8
   unfold ae aX cQ cn
   (try simp only[q,r,F,O,W,aL,bs,if_true,if_false,decide_true,decide_false,eq_self,true_or,or_true,or_false,false_or,if_true,if_false,ch,cc,bZ,cg,reduceIte,fk,fg])
   all_goals rfl
 rw[hs]
 exact bf bS dw
 have bS:=ai aL
 refine bq<|sg<|?_
 refine L0<|cj (aT b7 (Ne.symm P) fd)<|?_
 refine L0<|b6 (ub (ut D (ut bN (ut bO (ut bP (u1 bQ b7 im) (ac im (ac im au))) (ac im (ac im au))) (ac im (ac im au))) (ac (nr a) (ac (ni g.size f) au))) i) (mG c 0 0 0 0 0 0 0 0 z.wordV k.wordV ((k.wordsC 1).wordV) nS nS (.slice dl ((((k.wordsC 1).wordsC 1).bytesR (((ah.mk b false 0).byteV)-6)).length) dm) nS 0 0 0 0 0 nS) fun gP fh fi=>Pl 1<|nt<|rt<|bF fh (.int .i64 0)<|?_
 have hs:ae aX 1 c b=aF (aP.mk c 0 0 0 0 0 0 0 0 z.wordV k.wordV ((k.wordsC 1).wordV) [] [] (((k.wordsC 1).wordsC 1).bytesR (((ah.mk b false 0).byteV)-6)) [] 0 0 0 0 0 []) Z:=by
   subst dp dd d8
   unfold ae aX cQ cn
   (try simp only[q,r,F,O,W,aL,bs,if_true,if_false,decide_true,decide_false,eq_self,true_or,or_true,or_false,false_or,if_true,if_false,ch,cc,bZ,cg,reduceIte,fk,fg])
   all_goals rfl
 rw[hs]
 exact bj bS ⟨_,_,_,_,_,rfl,aK.nil ..,aK.nil ..,f9,aK.nil ..,aK.nil ..,⟨(b8 (x:=c) (by omega)),(b8 (x:=0) (by omega)),(aB (x:=0) (by omega)),(aB (x:=0) (by omega)),(aB (x:=0) (by omega)),(aB (x:=0) (by omega)),(aB (x:=0) (by omega)),(aB (x:=0) (by omega)),(aB (x:=0) (by omega)),(aB (x:=z.wordV) (by omega)),(aB (x:=k.wordV) (by omega)),(aB (x:=(k.wordsC 1).wordV) (by omega)),(b8 (x:=0) (by omega)),(b8 (x:=0) (by omega)),(b8 (x:=0) (by omega)),(b8 (x:=0) (by omega)),(b8 (x:=0) (by omega))⟩⟩ (ud ds fi B)
 have eO:=ap W
 refine sg<|Pl 1<|?_
 have fl:RC w _ A cp b a5 o (ah.mk b false 0):=⟨hsl,I,(Nat.le_trans d.size a),⟨0,(ub X t),Nat.zero_le _,rfl⟩,by omega⟩
 refine L0<|Oc<|m3 (dC fl) fun gQ fm fn gR=>L0<|Oi ((ah.mk b false 0).byteV)<|Pl 1<|ng<|Pl 4<|cu 3 [52] 55 (((decide (1≤((ah.mk b false 0).byteV)))&&(decide (((ah.mk b false 0).byteV)≤251)))) (fun K dx=>?_) ?_
 refine bl 52 ((decide (1≤((ah.mk b false 0).byteV)))) (fun aN=>?_) (fun aN=>?_)
 have fo:=of_decide_eq_true aN
 exact Pl 3<|ce dx (decide (((ah.mk b false 0).byteV)≤251)) (by rw[aN];rfl)
 have fo:=of_decide_eq_false aN
 exact Pl 3<|ce dx false (by rw[aN];rfl)
 refine L0<|Oc<|m2 (aV (((decide (1≤((ah.mk b false 0).byteV)))&&(decide (((ah.mk b false 0).byteV)≤251)))) 5 fm) fun gS fp fq=>?_
 refine f8 fp fun H dz dA=>?_
 refine nt<|go<|Pl 2<|L0<|Oc<|mH (eY (n:=(ah.mk b false 0).byteV) (by omega) dA) fun dB dD gT fr fs ft=>?_
 have gU:=Nat.le_trans (ah.bytesR_le H ((ah.mk b false 0).byteV)) (RC.clen dA)
 refine Pl 1<|?_
 have dE:=u1 fn (u1 fq ft im) im
 have bT:=nb (ak t) lr f
 refine L0<|bU (aT dE (Ne.symm bT) a6) 14 (mG c 0 0 0 0 0 0 0 0 0 0 0 nS nS (.slice dB ((H.bytesR ((ah.mk b false 0).byteV)).length) dD) nS 0 0 0 0 0 nS) fun gV fu dF=>nl<|bn<|tn<|sg<|Pl 1<|?_
 have bV:=us dE dF
 have dG:=ut I bV (ac (ni d.size a) (ac (ni (le d.size g.size) f) au))
 refine L0<|Oc<|m2 (dT (RC.upd fs dF (aa bT ay) dG)) fun gW bW ba=>nt<|sq<|sg<|Pl 3<|L0<|dZ (p:=⟨o,3,none⟩) (v:=.int .i64 (((H.bytesC ((ah.mk b false 0).byteV)).endC).e)) (RC.fld bW)<|Pl 1<|nt<|?_
 have dH:=ud dG ba (le d.size a)
 refine cb (((((H.bytesC ((ah.mk b false 0).byteV)).endC).e)!=0)) (fun aO=>?_) (fun aO=>?_)
 have bX:=aq aO
 refine sq<|Rg 7 (fun w'=>w'.cell? ⟨o,3,none⟩=some (.int .i64 (((H.bytesC ((ah.mk b false 0).byteV)).endC).e))) fun gX bb=>?_
 have dI:=RC.upd bW bb ay (aE.step (RC.u bW) bb)
 refine bh (RC.fld dI) fun aQ=>Rt 0 aQ<|Rt 1 aQ<|Rt 2 aQ<|Rt 3 aQ<|Rl 4 aQ (fun _ hs=>hs)<|?_
 refine R0 5 rfl<|b6 (ub (ut D (u1 bV (aI ba bb) im) (ac (nr a) (ac (ni g.size f) au))) i) mZ fun gY fv dJ=>?_
 have dK:=ud dH (uz bb dJ) B
 refine bh (RC.fld (RC.upd dI dJ (aa (Ne.symm (nb (ak i) lr a)) ay) dK)) fun fw=>Rt 6 fw<|re<|tn<|rt<|tr<|bF fv (.int .i64 (((H.bytesC ((ah.mk b false 0).byteV)).endC).e))<|?_
 have hs:ae aX 1 c b=aF (aP.mk c 0 0 0 0 0 0 0 0 0 0 0 [] [] (H.bytesR ((ah.mk b false 0).byteV)) [] 0 0 0 0 0 []) (H.bytesC ((ah.mk b false 0).byteV)):=by
   subst dz
   unfold ae aX cQ cn
   (try simp only[q,r,F,O,W,aO,bs,if_true,if_false,decide_true,decide_false,eq_self,true_or,or_true,or_false,false_or,if_true,if_false,ch,cc,bZ,cg,reduceIte,fk,fg])
   all_goals rfl
 rw[hs]
 exact bf bX dK
 have bX:=ai aO
 refine bq<|sg<|?_
 refine L0<|cj (aT ba (Ne.symm bT) fu)<|?_
 refine L0<|b6 (ub (ut D (u1 bV ba im) (ac (nr a) (ac (ni g.size f) au))) i) (mG c 0 0 0 0 0 0 0 0 0 0 0 nS nS (.slice dB ((H.bytesR ((ah.mk b false 0).byteV)).length) dD) nS 0 0 0 0 0 nS) fun gZ fx fy=>Pl 1<|nt<|rt<|bF fx (.int .i64 0)<|?_
 have hs:ae aX 1 c b=aF (aP.mk c 0 0 0 0 0 0 0 0 0 0 0 [] [] (H.bytesR ((ah.mk b false 0).byteV)) [] 0 0 0 0 0 []) (H.bytesC ((ah.mk b false 0).byteV)):=by
   subst dz
   unfold ae aX cQ cn
   (try simp only[q,r,F,O,W,aO,bs,if_true,if_false,decide_true,decide_false,eq_self,true_or,or_true,or_false,false_or,if_true,if_false,ch,cc,bZ,cg,reduceIte,fk,fg])
   all_goals rfl
 rw[hs]
 exact bj bX ⟨_,_,_,_,_,rfl,aK.nil ..,aK.nil ..,fr,aK.nil ..,aK.nil ..,⟨(b8 (x:=c) (by omega)),(b8 (x:=0) (by omega)),(aB (x:=0) (by omega)),(aB (x:=0) (by omega)),(aB (x:=0) (by omega)),(aB (x:=0) (by omega)),(aB (x:=0) (by omega)),(aB (x:=0) (by omega)),(aB (x:=0) (by omega)),(aB (x:=0) (by omega)),(aB (x:=0) (by omega)),(aB (x:=0) (by omega)),(b8 (x:=0) (by omega)),(b8 (x:=0) (by omega)),(b8 (x:=0) (by omega)),(b8 (x:=0) (by omega)),(b8 (x:=0) (by omega))⟩⟩ (ud dH fy B)
theorem jK{m:Md}{A:Option Addr}{cp:Nat}{b:List Int}{w:World}{dir c:Int}(hcode:B8 c)(hsl:bg m w (.slice A b.length cp) b)(hb:b.length≤1048576)(hd:¬ (dir=0∨dir=1)) :
    Calls Tryz.prog 95 #[.int .i64 dir,.int .u8 c,.slice A b.length cp] w (d7 (.slice A b.length cp) b (ae aX dir c b) w):=by
 obtain⟨hcode1,hcode2⟩:=hcode
 have hln:(b.length:Int)≤1048576:=by omega
 have e0:(dir != 0)=true:=by simp;omega
 have e1:(dir != 1)=true:=by simp;omega
 refine en 197 Tryz.func95 rfl<|sg<|L0<|bJ mZ fun g h a d e=>Pl 1<|nt<|sq<|sg<|Pl 3<|sy 17 e0<|Pl 3<|nl<|?_
 refine tn<|ct e1<|sg<|Pl 1<|L0<|b6 d mZ fun i dv f=>Pl 1<|nt<|rt<|tr<|bF dv (.int .i64 1)<|?_
 have hs:ae aX dir c b=(aP.zero,1):=by
   unfold ae aX cQ cn
   (try simp only[e0,e1,bs,if_true,if_false,decide_true,decide_false,eq_self,true_or,or_true,or_false,false_or,if_true,if_false,ch,cc,bZ,cg,reduceIte,hd,fk,fg])
   all_goals rfl
 rw[hs]
 exact bt (ud e f a)
open Go.RowKit
theorem dL{C:ah}{ok:Bool}{x:Int}(h:C.e≠0) : C.need ok x=C:=by
  unfold ah.need
  rw[if_neg fun k=>h k.1]
theorem ex{C:ah}{n:Int}(h:C.fails n=true) : (C.bytesC n).e≠0:=by
  unfold ah.bytesC
  rw[if_pos h]
  unfold ah.need
  split
  · exact(show(2:Int)≠0 from by decide)
  · rename_i k
    intro e
    exact k ⟨e,rfl⟩
theorem la{C:ah}(h:(C.wordsR 1).length≠1) : (C.wordsC 1).e≠0:=by
  unfold ah.wordsR at h
  unfold ah.wordsC
  split
  · exact ex (by unfold ah.fails;simp)
  · rename_i hb
    rw[if_neg hb] at h
    by_cases hf:C.fails (2*1)=true
    · exact ex hf
    · exfalso
      apply h
      unfold ah.bytesR
      rw[if_neg hf]
      unfold ah.fails at hf
      simp only[Bool.or_eq_true,decide_eq_true_eq,not_or] at hf
      rcases e:C.l with _|⟨a,_|⟨b,t⟩⟩
      · rw[e] at hf;simp at hf
      · rw[e] at hf;simp at hf
      · show(cA [a,b]).length=1
        unfold cA
        rw[if_pos (by simp)]
        simp[cV]
theorem mI{C:ah}(h:(C.wordsR 1).length=1) : [C.wordV]=C.wordsR 1:=by
  unfold ah.wordV
  rcases e:C.wordsR 1 with _|⟨a,_|⟨b,t⟩⟩
  · rw[e] at h;simp at h
  · rfl
  · rw[e] at h;simp at h
theorem p2{M M':aP}{C:ah}(h:C.e≠0) : aF M C=aF M' C:=by
  unfold aF
  have e:C.endC.e≠0:=by unfold ah.endC;rw[dL h];exact h
  rw[if_neg e,if_neg e]
theorem oq(dir:Int)(C:ah) : eq dir C=eK dir C:=by
  unfold eq eK
  rw[Bool.or_comm]
theorem oG(dir c:Int)(C:ah) : aF (cQ dir c C).2 (cQ dir c C).1=aF (dS dir c C).2 (dS dir c C).1:=by
  unfold cQ dS
  rw[oq]
  by_cases h0:C.wordV=0
  · rw[h0,if_pos (show((0:Int)==0)=true from rfl),if_neg (show ¬ ((0:Int)!=0)=true from by decide)]
  · rw[if_neg (by simpa using h0),if_pos (by simpa using h0)]
    by_cases h1:((eK dir C).wordsR 1).length=1
    · rw[mI h1,show((((eK dir C).wordsR 1).length:Int)==1)=true from by rw[h1];rfl,Bool.true_and]
      rfl
    · have k:=la h1
      dsimp only
      rw[dL k,dL k]
      exact p2 k
theorem jV{f f':Int→Int→ah→Option (ah × aP)}{dir c:Int}{b:List Int}(h:∀ C,(dir=0∨dir=1)→(f dir c C=none∧f' dir c C=none)∨∃ r r',f dir c C=some r∧f' dir c C=some r'∧aF r.2 r.1=aF r'.2 r'.1) : ae f dir c b=ae f' dir c b:=by
  unfold ae
  split
  · rename_i hd
    rcases h ⟨b,false,0⟩ hd with⟨h1,h2⟩|⟨r,r',h1,h2,h3⟩
    · rw[h1,h2]
    · rw[h1,h2];exact h3
  · rfl
theorem lv(dir c:Int)(b:List Int) : ae aX dir c b=ae aM dir c b:=by
  refine jV fun C hd=>?_
  unfold aX aM
  by_cases h8:c=8
  · subst h8
    exact .inr ⟨_,_,rfl,rfl,oG dir 8 C⟩
  · by_cases h:c=7∨c=11∨c=12∨c=17
    · refine .inr ?_
      rw[if_neg (show ¬ (((((c != 7)&&(c != 8))&&(c != 11))&&(c != 12))&&(c != 17))=true from by rcases h with rfl | rfl | rfl | rfl<;>decide),if_neg (show ¬ (c==8)=true from by simpa using h8),if_neg (show ¬ (c==8)=true from by simpa using h8),if_pos (show(c==7 || c==11 || c==12 || c==17)=true from by rcases h with rfl | rfl | rfl | rfl<;>decide)]
      rcases hd with rfl|rfl
      · exact⟨_,_,rfl,rfl,rfl⟩
      · refine⟨_,_,rfl,rfl,?_⟩
        rcases h with rfl|rfl|rfl|rfl<;>rfl
    · refine .inl ?_
      rw[if_pos (show(((((c != 7)&&(c != 8))&&(c != 11))&&(c != 12))&&(c != 17))=true from by simp;omega),if_neg (show ¬ (c==8)=true from by simpa using h8),if_neg (show ¬ (c==7 || c==11 || c==12 || c==17)=true from by simp;omega)]
      exact⟨rfl,rfl⟩
end Go.Proofs.YtogbnemojakcpaaGreat
namespace Go.Proofs.YtogbnemojakcpaaGreat
def gP (C:ah) : Prop:=∀ x,x∈C.l→0≤x∧x<256
theorem qy{C:ah}{ok:Bool}{x:Int}(hx:x≠0)(h:(C.need ok x).e=0) : C.e=0∧ok=true:=by
  unfold ah.need at h
  split at h
  · exact absurd h hx
  · rename_i hh
    refine⟨h,?_⟩
    cases ok
    · exact absurd ⟨h,rfl⟩ hh
    · rfl
theorem mn{C:ah}{n:Int}(h:(C.bytesC n).e=0) : C.e=0∧C.l=C.bytesR n++(C.bytesC n).l∧((C.bytesR n).length:Int)=n:=by
  unfold ah.bytesC at h ⊢
  unfold ah.bytesR
  split at h
  · exfalso
    unfold ah.need at h
    split at h
    · cases h
    · rename_i hh
      exact hh ⟨h,rfl⟩
  · rename_i hf
    rw[if_neg hf,if_neg hf]
    refine⟨h,(List.take_append_drop _ _).symm,?_⟩
    unfold ah.fails at hf
    simp only[Bool.or_eq_true,decide_eq_true_eq,not_or] at hf
    rw[List.length_take]
    omega
theorem iJ:∀ (l:List Int),l.length%2=0→(∀ x,x∈l→0≤x∧x<256)→b7 (cV l)=l
  | [],_,_=>rfl
  | [_],h,_=>by simp at h
  | a :: b :: r,h,hr=>by
    have ha:=hr a (by simp)
    have hb:=hr b (by simp)
    simp only[cV,b7]
    rw[iJ r (by simp at h;omega) (fun x hx=>hr x (by simp[hx]))]
    congr 1
    · omega
    · congr 1
      omega
theorem sI{C:ah}{n:Int}(hr:gP C)(h:(C.wordsC n).e=0) : C.e=0∧C.l=b7 (C.wordsR n)++(C.wordsC n).l∧((C.wordsR n).length:Int)=n:=by
  unfold ah.wordsC at h ⊢
  unfold ah.wordsR
  split at h
  · obtain⟨_,_,h3⟩:=mn h
    omega
  · rename_i hb
    rw[if_neg hb,if_neg hb]
    obtain⟨h1,h2,h3⟩:=mn h
    have h4:(C.bytesR (2*n)).length%2=0:=by omega
    have h5:∀ x,x∈C.bytesR (2*n)→0≤x∧x<256:=fun x hx=>hr x (by rw[h2];exact List.mem_append_left _ hx)
    unfold cA
    rw[if_pos h4]
    refine⟨h1,by rw[iJ _ h4 h5];exact h2,?_⟩
    rw[eM]
    omega
def nk (C:ah)(l:List Int)(C':ah) : Prop:=gP C→gP C'∧(C'.e=0→C.e=0∧C.l=l++C'.l)
theorem nk.trans{A B C:ah}{l m:List Int}(h:nk A l B)(k:nk B m C) : nk A (l++m) C:=fun hr=>by
  obtain⟨h1,h2⟩:=h hr
  obtain⟨k1,k2⟩:=k h1
  refine⟨k1,fun he=>?_⟩
  obtain⟨k3,k4⟩:=k2 he
  obtain⟨h3,h4⟩:=h2 k3
  exact⟨h3,by rw[h4,k4,List.append_assoc]⟩
theorem nk.refl(C:ah) : nk C [] C:=fun hr=>⟨hr,fun he=>⟨he,rfl⟩⟩
theorem nk.need{A C:ah}{l:List Int}{ok:Bool}{x:Int}(h:nk A l C)(hx:x≠0:=by decide) : nk A l (C.need ok x):=fun hr=>by
  obtain⟨h1,h2⟩:=h hr
  refine⟨fun y hy=>h1 y (by rwa [iR] at hy),fun he=>?_⟩
  rw[iR]
  exact h2 (qy hx he).1
theorem nk.bytes{A C:ah}{l:List Int}(h:nk A l C)(n:Int) : nk A (l++C.bytesR n) (C.bytesC n):=h.trans fun hr=>⟨gD hr n,fun he=>⟨(mn he).1,(mn he).2.1⟩⟩
theorem nk.words{A C:ah}{l:List Int}(h:nk A l C)(n:Int) : nk A (l++b7 (C.wordsR n)) (C.wordsC n):=h.trans fun hr=>⟨cH hr n,fun he=>⟨(sI hr he).1,(sI hr he).2.1⟩⟩
theorem gC{C:ah}(hr:gP C) : 0≤C.byteV∧C.byteV<256:=by
  unfold ah.byteV
  rw[List.getD_eq_getElem?_getD]
  cases h:(C.bytesR 1)[0]? with
  | none=>simp
  | some x =>
    have hm:x∈C.bytesR 1:=List.mem_of_getElem? h
    have:x∈C.l:=by
      unfold ah.bytesR at hm
      split at hm
      · cases hm
      · exact List.mem_of_mem_take hm
    exact hr x this
theorem rB:∀ n:Nat,n<256→(((if ((n:Int)/2 ^ 0%2==1) then 1 else 0)+(if ((n:Int)/2 ^ 1%2==1) then 2 else 0)+(if ((n:Int)/2 ^ 2%2==1) then 4 else 0)+(if ((n:Int)/2 ^ 3%2==1) then 8 else 0)+(if ((n:Int)/2 ^ 4%2==1) then 16 else 0)+(if ((n:Int)/2 ^ 5%2==1) then 32 else 0)+(if ((n:Int)/2 ^ 6%2==1) then 64 else 0)+(if ((n:Int)/2 ^ 7%2==1) then 128 else 0) : Nat) : Int)=n:=by decide +kernel
theorem jU{x:Int}(hx:0≤x∧x<256)(f:Nat→Bool)(hf:∀ i,i<8→f i=(x/2 ^ i%2==1)) :
    (((if f 0 then 1 else 0)+(if f 1 then 2 else 0)+(if f 2 then 4 else 0)+(if f 3 then 8 else 0)+(if f 4 then 16 else 0)+(if f 5 then 32 else 0)+(if f 6 then 64 else 0)+(if f 7 then 128 else 0) : Nat) : Int)=x:=by
  rw[hf 0 (by decide),hf 1 (by decide),hf 2 (by decide),hf 3 (by decide),hf 4 (by decide),hf 5 (by decide),hf 6 (by decide),hf 7 (by decide)]
  obtain⟨n,rfl⟩:=Int.eq_ofNat_of_zero_le hx.1
  exact rB n (by omega)
theorem lG{b:List Int}{n:Int}{l:List Bool}(hr:∀ x,x∈b→0≤x∧x<256)(h:ci b n=some l) : cG l=b:=by
  unfold ci at h
  split at h
  · rename_i hc
    split at h
    · rename_i hall
      injection h with h
      subst h
      have hlen:((List.range n.toNat).map (cv b)).length=n.toNat:=by simp
      have hm:((List.range n.toNat).map (cv b)).length=n:=by rw[hlen];omega
      unfold cG
      rw[hm,← hc.2]
      apply List.ext_getElem
      · simp
      intro j h1 h2
      simp only[List.getElem_map,List.getElem_range]
      have hj:j<b.length:=h2
      have hget:∀ i,i<8*b.length→((List.range n.toNat).map (cv b)).getD i false=cv b i:=fun i hi=>by
        rw[List.getD_eq_getElem?_getD,List.getElem?_map]
        by_cases hin:i<n.toNat
        · rw[List.getElem?_range hin];rfl
        · rw[List.getElem?_eq_none (by simpa using hin)]
          rw[List.all_eq_true] at hall
          have:=hall i (by simpa using hi)
          simp only[Bool.or_eq_true,decide_eq_true_eq,Bool.not_eq_true'] at this
          rcases this with h3|h3
          · omega
          · simp[h3]
      have hx:∀ k,k<8→cv b (8*j+k)=(b[j]/2 ^ k%2==1):=fun k hk=>by
        unfold cv
        rw[show(8*j+k)/8=j from by omega,show(8*j+k)%8=k from by omega,List.getD_eq_getElem?_getD,List.getElem?_eq_getElem hj]
        rfl
      unfold bT
      rw[show(8*j:Nat)=8*j+0 from rfl]
      simp only[hget _ (show 8*j+0<8*b.length by omega),hget _ (show 8*j+0+1<8*b.length by omega),hget _ (show 8*j+0+2<8*b.length by omega),hget _ (show 8*j+0+3<8*b.length by omega),hget _ (show 8*j+0+4<8*b.length by omega),hget _ (show 8*j+0+5<8*b.length by omega),hget _ (show 8*j+0+6<8*b.length by omega),hget _ (show 8*j+0+7<8*b.length by omega)]
      exact jU (hr _ (List.getElem_mem hj)) (fun k=>cv b (8*j+k)) hx
    · cases h
  · cases h
end Go.Proofs.YtogbnemojakcpaaGreat
namespace Go.Proofs.YtogbnemojakcpaaGreat
end Go.Proofs.YtogbnemojakcpaaGreat
namespace Go.Proofs.YtogbnemojakcpaaGreat
end Go.Proofs.YtogbnemojakcpaaGreat
namespace Go.Proofs.YtogbnemojakcpaaGreat
def Sh (C C':ah) : Prop:=C'.l.length≤C.l.length
theorem Sh.refl(C:ah) : Sh C C:=Nat.le_refl _
theorem Sh.bytes{A C:ah}(h:Sh A C){n:Int}:Sh A (C.bytesC n):=Nat.le_trans (gF C n) h
theorem Sh.words{A C:ah}(h:Sh A C){n:Int}:Sh A (C.wordsC n):=Nat.le_trans (el C n) h
theorem Sh.need{A C:ah}(h:Sh A C){b:Bool}{e:Int}:Sh A (C.need b e):=by unfold Sh;rw[eb];exact h
open Go.RowKit
theorem ld{n:Int}:dn n=if n<1 then 0 else n/8+(if 0<n%8 then 1 else 0):=by
  unfold dn
  split
  · rfl
  · split<;>omega
theorem jl(l:List Bool)(j:Nat) : bT (l.take (8*j)) j=0:=by
  have h:=kv l (8*j)
  rw[show 8*j/8=j from by omega,show 8*j%8=0 from by omega] at h
  omega
theorem i8{l:List Bool}{j t:Nat}(ht:t<8) : bT (l.take (8*j+t+1)) j=bT (l.take (8*j+t)) j+if l.getD (8*j+t) false=true then 2 ^ t else 0:=by
  rw[fZ,show(8*j+t)/8=j from by omega,show(8*j+t)%8=t from by omega]
  simp
theorem ot{l:List Bool}{j t:Nat}(h:t=8∨l.length≤8*j+t) : bT (l.take (8*j+t)) j=bT l j:=by
  rcases h with rfl|h
  · unfold bT
    simp only[gh]
    simp
  · rw[List.take_of_length_le h]
theorem qG{l:List Bool}{j:Nat}(h1:l.length≤8*j)(h2:8*j<l.length+8) : (List.range j).map (fun i=>(bT l i:Int))=cG l:=by
  unfold cG
  rw[show(dn l.length).toNat=j from by unfold dn;split<;>omega]
theorem og(l:List Bool) : ((cG l).length:Int)=dn l.length:=by
  unfold cG
  rw[List.length_map,List.length_range]
  unfold dn
  split<;>omega
theorem vc:∀ x0 x1 x2 x3 x4 x5 x6 x7:Bool,∀ t:Fin 8,(((((if x0=true then 1 else 0)+(if x1=true then 2 else 0)+(if x2=true then 4 else 0)+(if x3=true then 8 else 0)+(if x4=true then 16 else 0)+(if x5=true then 32 else 0)+(if x6=true then 64 else 0)+(if x7=true then 128 else 0) : Nat) : Int)/2 ^ t.val%2==1)=[x0,x1,x2,x3,x4,x5,x6,x7].getD t.val false):=by decide +kernel
theorem tp{l:List Bool}{j t:Nat}(ht:t<8) : ((bT l j:Int)/2 ^ t%2==1)=l.getD (8*j+t) false:=by
  have h:=vc (l.getD (8*j) false) (l.getD (8*j+1) false) (l.getD (8*j+2) false) (l.getD (8*j+3) false) (l.getD (8*j+4) false) (l.getD (8*j+5) false) (l.getD (8*j+6) false) (l.getD (8*j+7) false) ⟨t,ht⟩
  refine h.trans ?_
  rcases t with _|_|_|_|_|_|_|_|t
  case succ.succ.succ.succ.succ.succ.succ.succ=>omega
  all_goals rfl
theorem lH(l:List Bool) : ci (cG l) (l.length:Int)=some ((List.range l.length).map (cv (cG l))):=by
  have hl:=og l
  unfold ci
  rw[if_pos ⟨by omega,hl⟩,if_pos,show((l.length:Int)).toNat=l.length from by omega]
  rw[List.all_eq_true]
  intro i hi
  have hi:i<8*(cG l).length:=by simpa using hi
  simp only[Bool.or_eq_true,decide_eq_true_eq,Bool.not_eq_true']
  by_cases h:(i:Int)<l.length
  · exact .inl h
  · refine .inr ?_
    have hj:i/8<(cG l).length:=by omega
    unfold cv
    have e:(cG l).getD (i/8) 0=(bT l (i/8) : Int):=by
      have hj2:i/8<(dn (l.length:Int)).toNat:=by omega
      unfold cG
      rw[List.getD_eq_getElem?_getD,List.getElem?_map,List.getElem?_range hj2]
      rfl
    rw[e,tp (Nat.mod_lt _ (by decide)),show 8*(i/8)+i%8=i from by omega,List.getD_eq_getElem?_getD,List.getElem?_eq_none (by omega)]
    rfl
theorem lN{b:List Int}{n:Int}(hr:∀ x,x∈b→0≤x∧x<256)(h0:0≤n) : ci b n=if cG ((List.range n.toNat).map (cv b))=b then some ((List.range n.toNat).map (cv b)) else none:=by
  by_cases h:cG ((List.range n.toNat).map (cv b))=b
  · rw[if_pos h]
    have k:=lH ((List.range n.toNat).map (cv b))
    rw[h,List.length_map,List.length_range,show((n.toNat:Nat) : Int)=n from by omega] at k
    exact k
  · rw[if_neg h]
    cases e:ci b n with
    | none=>rfl
    | some l =>
      exfalso
      have k:=lG hr e
      unfold ci at e
      split at e
      · split at e
        · injection e with e;rw[e] at h;exact h k
        · cases e
      · cases e
open Go.RowKit
theorem uf{n:Int}{w:World}(hn : -1048576≤n∧n≤1048576) : Calls Tryz.prog 155 #[.int .i64 n] w (dh (.int .i64 (dn n)) w):=by
 refine en 14 Tryz.func155 rfl<|sg<|Pl 1<|nt<|sq<|sg<|Pl 2<|nt<|cb ((decide (n<1))) (fun a=>?_) (fun a=>?_)
 have c:=of_decide_eq_true a
 refine sg<|Pl 1<|nt<|rt<|tr<|rr (.int .i64 0)<|?_
 have hs:dn n=0:=by rw[ld];split<;>(try split)<;>omega
 rw[hs]
 exact⟨rfl,(aE.refl [] _)⟩
 have c:=of_decide_eq_false a
 refine bq<|sg<|Pl 1<|L0<|Oe (.int .i64 (IntKind.i64.wrap (Int.tdiv n 8))) (.int .i64 (n/8)) (congrArg (Value.int .i64) (fb (by omega) (by omega)))<|Pl 1<|nt<|sq<|sg<|Pl 1<|L0<|Oe (.int .i64 (Int.tmod n 8)) (.int .i64 (n%8)) (congrArg (Value.int .i64) (Int.tmod_eq_emod_of_nonneg (by omega)))<|?_
 refine Pl 1<|nt<|cb ((decide (0<(n%8)))) (fun b=>?_) (fun b=>?_)
 have d:=of_decide_eq_true b
 refine go<|Pl 1<|L0<|Oi ((n/8)+1)<|Pl 1<|ng<|Pl 2<|nt<|rt<|rr (.int .i64 ((n/8)+1))<|?_
 have hs:dn n=((n/8)+1):=by rw[ld];split<;>(try split)<;>omega
 rw[hs]
 exact⟨rfl,(aE.refl [] _)⟩
 have d:=of_decide_eq_false b
 refine bq<|sg<|Pl 2<|nt<|rt<|rr (.int .i64 (n/8))<|?_
 have hs:dn n=(n/8):=by rw[ld];split<;>(try split)<;>omega
 rw[hs]
 exact⟨rfl,(aE.refl [] _)⟩
theorem nW(l:List Bool)(j t:Nat)(ht:t≤8) : bT (l.take (8*j+t)) j<2 ^ t:=by
  induction t with
  | zero=>rw[Nat.add_zero,jl];decide
  | succ t ih =>
    have h:=ih (by omega)
    rw[← Nat.add_assoc,i8 (by omega),Nat.pow_succ]
    split<;>omega
theorem rb{t:Nat}(ht:t≤8) : 2 ^ t≤256:=by
  rcases t with _|_|_|_|_|_|_|_|_|t
  case succ.succ.succ.succ.succ.succ.succ.succ.succ=>omega
  all_goals decide
theorem o7{l:List Bool}{j:Nat}(h1:¬ 8*j<l.length)(h2:8*j<l.length+8) : (List.range j).map (fun i=>(bT l i:Int))=cG l:=qG (by omega) h2
theorem qk{l:List Bool}{j t:Nat}{c:Int}(hc:c=(bT (l.take (8*j+t)) j:Int))(ht:t≤8)(h:t=8∨l.length≤8*j+t) : c%256=(bT l j:Int):=by
  have h1:=nW l j t ht
  have h2:=rb ht
  rw[ot h] at hc h1
  omega
theorem ta{m:Md}{A:Option Addr}{cp:Nat}{l:List Bool}{w:World}(h:g8 m w (.slice A l.length cp) l)(hn:l.length≤1048576) : Calls Tryz.prog 216 #[.slice A l.length cp] w (pP l w):=by
 refine en 42 Tryz.func216 rfl<|sg<|Pl 1<|ng<|Pl 1<|nt<|sq<|sg<|?_
 refine Pl 1<|nt<|bk<|?_
 refine jw (fun x=>[(0,.slice A l.length cp),(2,.slice none 0 0),(3,.slice x.2.2.1 x.2.1.length x.2.2.2),(4,.int .i64 ((8*x.1:Nat) : Int))]) (fun(x:Nat × List Int × Option Addr × Nat) w'=>aE [] w w'∧fh w.heap.size w' (.slice x.2.2.1 x.2.1.length x.2.2.2) x.2.1∧(8*x.1<l.length+8)∧(x.2.1=(List.range x.1).map (fun i=>(bT l i:Int)))) (fun x=>l.length+8-8*x.1) (0,[],none,0) ⟨aE.refl _ _,(be.nil w.heap.size _ _ rq _),(by(try dsimp only);omega),rfl⟩ ?_
 rintro⟨j,L,B,cq⟩ r ⟨f,z,C,D⟩
 refine jr [(0,.slice A l.length cp),(2,.slice none 0 0),(3,.slice B L.length cq),(4,.int .i64 ((8*j:Nat) : Int))] ?_
 have g:fh w.heap.size r (.slice B L.length cq) L:=z
 have Z:8*j<l.length+8:=C
 have k:L=(List.range j).map (fun i=>(bT l i:Int)):=D
 have hLn:L.length=j:=by rw[k,List.length_map,List.length_range]
 refine sq<|sg<|Pl 4<|nt<|cb ((decide (((8*j:Nat) : Int)<((l.length:Nat) : Int)))) (fun n=>?_) (fun n=>?_)
 have E:=of_decide_eq_true n
 refine bq<|sq<|bk<|sg<|Pl 1<|ng<|Pl 1<|nt<|?_
 refine sq<|sg<|Pl 2<|nt<|bk<|?_
 refine jw (fun x=>[(0,.slice A l.length cp),(2,.slice none 0 0),(3,.slice B L.length cq),(4,.int .i64 ((8*j:Nat) : Int)),(5,.int .i64 x.2.1),(6,.int .i64 x.2.2),(7,.int .i64 ((8*j+x.1:Nat) : Int)),(8,.int .i64 ((8*j:Nat) : Int)),(9,.slice A l.length cp),(10,.int .i64 ((l.length:Nat) : Int)),(11,.bool (decide (((8*j:Nat) : Int)<((l.length:Nat) : Int)))),(14,.int .i64 ((8*j:Nat) : Int))]) (fun(x:Nat × Int × Int) w'=>aE [] r w'∧(x.1≤8)∧(x.2.1=(bT (l.take (8*j+x.1)) j:Int))∧(x.2.2=((2 ^ x.1:Nat) : Int))) (fun x=>8-x.1) (0,0,1) ⟨aE.refl _ _,(by(try dsimp only);omega),(by(try dsimp only);rw[Nat.add_zero,jl];rfl),rfl⟩ ?_
 rintro⟨t,c,u⟩ a0 ⟨a,F,G,H⟩
 refine jr [(0,.slice A l.length cp),(2,.slice none 0 0),(3,.slice B L.length cq),(4,.int .i64 ((8*j:Nat) : Int)),(5,.int .i64 c),(6,.int .i64 u),(7,.int .i64 ((8*j+t:Nat) : Int)),(8,.int .i64 ((8*j:Nat) : Int)),(9,.slice A l.length cp),(10,.int .i64 ((l.length:Nat) : Int)),(11,.bool (decide (((8*j:Nat) : Int)<((l.length:Nat) : Int)))),(14,.int .i64 ((8*j:Nat) : Int))] ?_
 have a1:t≤8:=F
 have I:c=(bT (l.take (8*j+t)) j:Int):=G
 have a2:u=((2 ^ t:Nat) : Int):=H
 have hpl:=nW l j t (by omega)
 have hpp:=rb (t:=t) (by omega)
 refine sq<|sg<|Pl 5<|cu 5 [19] 24 (((decide (((8*j+t:Nat) : Int)<((l.length:Nat) : Int)))&&(decide (((8*j+t:Nat) : Int)<(((8*j:Nat) : Int)+8))))) (fun K s=>?_) ?_
 refine bl 19 ((decide (((8*j+t:Nat) : Int)<((l.length:Nat) : Int)))) (fun b=>?_) (fun b=>?_)
 have J:=of_decide_eq_true b
 exact Pl 2<|L1<|Oi (((8*j:Nat) : Int)+8)<|Pl 2<|ce s (decide (((8*j+t:Nat) : Int)<(((8*j:Nat) : Int)+8))) (by rw[b];rfl)
 have J:=of_decide_eq_false b
 exact Pl 5<|ce s false (by rw[b];rfl)
 refine nt<|?_
 have y:=aI f a
 refine cb (((decide (((8*j+t:Nat) : Int)<((l.length:Nat) : Int)))&&(decide (((8*j+t:Nat) : Int)<(((8*j:Nat) : Int)+8))))) (fun d=>?_) (fun d=>?_)
 have M:=(aS d).1
 have N:=(aS d).2
 have a3:=of_decide_eq_true M
 have a4:=of_decide_eq_true N
 refine bq<|sq<|bk<|sq<|sg<|Pl 2<|?_
 refine uZ (g8.at_ (g8.old h y) (8*j+t) (by omega)) fun O P Q R=>L0<|jt l.length (8*j+t) Q (by omega)<|L0<|dZ (p:=⟨O,P+(8*j+t),none⟩) (v:=.bool (l.getD (8*j+t) false)) R<|nt<|cb ((l.getD (8*j+t) false)) (fun o=>?_) (fun o=>?_)
 refine go<|Pl 2<|L0<|Oi (c+u)<|Pl 1<|nt<|go<|Pl 1<|L0<|Oi (2*u)<|Pl 1<|nl<|bn<|tn<|go<|?_
 exact Pl 1<|L0<|Oi (((8*j+t:Nat) : Int)+1)<|Pl 1<|nl<|gt ((t+1),(c+u),(2*u)) ⟨a,(by(try dsimp only);omega),(by(try dsimp only);rw[← Nat.add_assoc,i8 (by omega),if_pos o];omega),(by(try dsimp only);rw[Nat.pow_succ];omega)⟩ (by omega)
 refine bq<|go<|Pl 1<|L0<|Oi (2*u)<|Pl 1<|nl<|bn<|tn<|go<|Pl 1<|L0<|Oi (((8*j+t:Nat) : Int)+1)<|Pl 1<|nl<|?_
 exact gt ((t+1),c,(2*u)) ⟨a,(by(try dsimp only);omega),(by(try dsimp only);rw[← Nat.add_assoc,i8 (by omega),if_neg (by rw[o];decide)];omega),(by(try dsimp only);rw[Nat.pow_succ];omega)⟩ (by omega)
 refine xt<|tx<|tx<|bx<|tn<|go<|Pl 3<|L0<|dy (m:=1) (e:=5) #[.int .u8 (c%256)] fun a5 a6 S T q=>?_
 have U:=dP S (xs:=[(c%256)]) (by as_aux_lemma=>kernel_rfl) (az (by omega) aZ) (by(try simp only[List.length_cons,List.length_nil]);omega) T
 refine L0<|cM bv (xs:=L) (ys:=([(c%256)])) (.int .u8 0) 1 (ax g (aI a q) (fun x hx=>ay) (fun _ _ h=>h)) (U).rd (by(try simp only[List.length_append,List.length_cons,List.length_nil,aC]);omega) (le (le f.size a.size) q.size) fun V W a7 X Y=>Pl 1<|nl<|bn<|tn<|go<|Pl 1<|L0<|Oi (((8*j:Nat) : Int)+8)<|Pl 1<|nl<|?_
 exact gt ((j+1),(L++[(c%256)]),V,W) ⟨(ut y (ut (aE.mono (S':=(ob B++[])) q au) Y (av il au)) (av (aU g lr) au)),X,(by(try dsimp only);omega),(by(try dsimp only);rw[k,List.range_succ,List.map_append];show _++[_]=_++[_];rw[qk I (by omega) (by have hq:=d;simp only[Bool.and_eq_false_iff,decide_eq_false_iff_not] at hq;omega)])⟩ (by omega)
 have E:=of_decide_eq_false n
 refine xt<|tx<|tx<|bx<|tn<|sg<|Pl 2<|nt<|rt<|rr (.slice B L.length cq)<|?_
 have hs:L=cG l:=by rw[k];exact o7 (by omega) (by omega)
 exact⟨_,rfl,by rw[← hs];exact g,f⟩
theorem tT{m:Md}{v:Value}{l:List Bool}{w:World}(h:g8 m w v l)(hn:l.length≤1048576) : Calls Tryz.prog 216 #[v] w (pP l w):=by
  obtain⟨A,c,rfl,_,_⟩:=h.shape
  exact ta h hn
theorem qC{P:Program}{w:World}{ev:Operand→Value}{o:Oper}{x y:Operand}{t t':TypeId}{a b:ByteArray}{v:Bool}(ho:o.op = .binOp .neq t x y t')(hx:ev x = .string a)(hy:ev y = .string b)(hv:(a.toList==b.toList)=v) : (execOp ev o).run P w = .ok (.value (.bool !v)) w:=by
  have hg:eqGuard .neq t x y (.string a) (.string b)=pure ():=rfl
  unfold execOp
  simp only[ho,hx,hy,hg,binOp_string_neq,Sem.run_bind,Sem.run_pure,Result.andThen,hv]
theorem v6{w0 w:World}{g:Nat}{cs:Array Value}{xs:List Bool}(hg:w0.heap.size≤g)(hcs:cs=(xs.map Value.bool).toArray)(hl:xs.length≤4194304)(hb:w.heap[g]? = some (.cells cs 4 (0,0))) :
    rD w0.heap.size w (.slice (some ⟨g,0,none⟩) xs.length xs.length) xs:=sU (enc:=Value.bool) hg hcs (fun x h=>rfl) hl hb
theorem o9{x c:Int}{k:Nat}(h:c=x/2 ^ k) : c/2=x/2 ^ (k+1):=by
  rw[h,Int.ediv_ediv_of_nonneg (Int.le_of_lt (Int.pow_pos (by decide))),Int.pow_succ]
theorem pX{x c:Int}(hx:0≤x∧x<256){k:Nat}(h:c=x/2 ^ k) : 0≤c∧c<256:=by
  have h1:(1:Int)≤2 ^ k:=Int.pow_pos (by decide)
  subst h
  exact⟨Int.ediv_nonneg hx.1 (by omega),Int.lt_of_le_of_lt (Int.ediv_le_self _ hx.1) hx.2⟩
theorem pf{l:List Int}{i:Nat}(h:i<l.length) : l.getD i 0∈l:=by
  rw[List.getD_eq_getElem?_getD,List.getElem?_eq_getElem h]
  exact List.getElem_mem h
theorem pZ{m:Md}{A:Option Addr}{cp:Nat}{b:List Int}{n:Int}{w:World}(h:bg m w (.slice A b.length cp) b)(hl:b.length≤1048576)(hn : -1048576≤n∧n≤1048576) : Calls Tryz.prog 156 #[.slice A b.length cp,.int .i64 n] w (fd b n w):=by
 have hb:=bg.range h
 refine en 51 Tryz.func156 rfl<|sg<|Pl 2<|nt<|sq<|sg<|Pl 3<|cu 6 [12] 18 (((decide (n<0))||(decide ((8*((b.length:Nat) : Int))<n)))) (fun K H=>?_) ?_
 refine bl 12 ((decide (n<0))) (fun d=>?_) (fun d=>?_)
 have R:=of_decide_eq_true d
 exact Pl 6<|ce H true (by rw[d];rfl)
 have R:=of_decide_eq_false d
 exact Pl 3<|L1<|Oi (8*((b.length:Nat) : Int))<|Pl 2<|ce H (decide ((8*((b.length:Nat) : Int))<n)) (by rw[d];rfl)
 refine nt<|cb (((decide (n<0))||(decide ((8*((b.length:Nat) : Int))<n)))) (fun g=>?_) (fun g=>?_)
 refine sg<|Pl 2<|nt<|rt<|tr<|rr (.tuple #[.slice none 0 0,.bool false])<|?_
 have hq:=g
 have hs:ci b n=none:=by unfold ci;rw[if_neg];rintro⟨h1,h2⟩;simp only[Bool.or_eq_true,decide_eq_true_eq] at hq;rw[ld] at h2;split at h2<;>(try split at h2)<;>omega
 exact eA hs (aE.refl [] _)
 have S:=(aJ g).1
 have T:=(aJ g).2
 have ae:=of_decide_eq_false S
 have af:=of_decide_eq_false T
 refine bq<|sg<|Pl 1<|nt<|sq<|sg<|Pl 1<|nt<|bk<|?_
 refine jw (fun x=>[(0,.slice A b.length cp),(1,.int .i64 n),(4,.slice none 0 0),(5,.bool false),(6,.slice x.2.2.1 x.2.1.length x.2.2.2),(7,.int .i64 ((x.1:Nat) : Int))]) (fun(x:Nat × List Bool × Option Addr × Nat) w'=>aE [] w w'∧rD w.heap.size w' (.slice x.2.2.1 x.2.1.length x.2.2.2) x.2.1∧(((x.1:Nat) : Int)≤n)∧(x.2.1=(List.range x.1).map (cv b))) (fun x=>n.toNat-x.1) (0,[],none,0) ⟨aE.refl _ _,(be.nil w.heap.size _ _ m8 _),(by(try dsimp only);omega),rfl⟩ ?_
 rintro⟨i,L,B,cq⟩ I ⟨j,U,V,W⟩
 refine jr [(0,.slice A b.length cp),(1,.int .i64 n),(4,.slice none 0 0),(5,.bool false),(6,.slice B L.length cq),(7,.int .i64 ((i:Nat) : Int))] ?_
 have r:rD w.heap.size I (.slice B L.length cq) L:=U
 have ag:((i:Nat) : Int)≤n:=V
 have o:L=(List.range i).map (cv b):=W
 have hLn:L.length=i:=by rw[o,List.length_map,List.length_range]
 have hi8:(((i:Nat) : Int)/8).toNat=i/8:=by omega
 refine sq<|sg<|Pl 3<|nt<|cb ((decide (((i:Nat) : Int)<n))) (fun s=>?_) (fun s=>?_)
 have X:=of_decide_eq_true s
 refine bq<|sq<|bk<|sg<|Pl 2<|L0<|Oe (.int .i64 (IntKind.i64.wrap (Int.tdiv ((i:Nat) : Int) 8))) (.int .i64 (((i:Nat) : Int)/8)) (congrArg (Value.int .i64) (fb (by omega) (by omega)))<|?_
 refine fl (bg.at_ (bg.old h j) (((((i:Nat) : Int)/8)).toNat) (by omega)) fun t u Y Z ah=>L0<|tY b.length (((((i:Nat) : Int)/8)).toNat) (((i:Nat) : Int)/8) (by omega) Y (by omega)<|L0<|dZ (p:=⟨t,u+(((((i:Nat) : Int)/8)).toNat),none⟩) (v:=.int .u8 (b.getD (((((i:Nat) : Int)/8)).toNat) 0)) Z<|L0<|Oi (b.getD (((((i:Nat) : Int)/8)).toNat) 0)<|Pl 1<|nt<|sq<|sg<|Pl 1<|nt<|bk<|?_
 refine jw (fun x=>[(0,.slice A b.length cp),(1,.int .i64 n),(4,.slice none 0 0),(5,.bool false),(6,.slice B L.length cq),(7,.int .i64 ((i:Nat) : Int)),(8,.int .i64 x.2),(9,.int .i64 ((x.1:Nat) : Int)),(19,.int .i64 ((i:Nat) : Int)),(20,.int .i64 n),(21,.bool (decide (((i:Nat) : Int)<n))),(24,.slice A b.length cp),(25,.int .i64 ((i:Nat) : Int)),(26,.int .i64 (((i:Nat) : Int)/8)),(27,.pointer (some (⟨t,u+(((((i:Nat) : Int)/8)).toNat),none⟩))),(28,.int .u8 (b.getD (((((i:Nat) : Int)/8)).toNat) 0)),(29,.int .i64 (b.getD (((((i:Nat) : Int)/8)).toNat) 0))]) (fun(x:Nat × Int) w'=>aE [] I w'∧(x.1≤i%8)∧(x.2=b.getD (i/8) 0/2 ^ x.1)) (fun x=>8-x.1) (0,(b.getD (((((i:Nat) : Int)/8)).toNat) 0)) ⟨aE.refl _ _,(by(try dsimp only);omega),(by(try dsimp only);rw[hi8,Int.pow_zero,Int.ediv_one])⟩ ?_
 rintro⟨k,c⟩ ai ⟨q,a0,a1⟩
 refine jr [(0,.slice A b.length cp),(1,.int .i64 n),(4,.slice none 0 0),(5,.bool false),(6,.slice B L.length cq),(7,.int .i64 ((i:Nat) : Int)),(8,.int .i64 c),(9,.int .i64 ((k:Nat) : Int)),(19,.int .i64 ((i:Nat) : Int)),(20,.int .i64 n),(21,.bool (decide (((i:Nat) : Int)<n))),(24,.slice A b.length cp),(25,.int .i64 ((i:Nat) : Int)),(26,.int .i64 (((i:Nat) : Int)/8)),(27,.pointer (some (⟨t,u+(((((i:Nat) : Int)/8)).toNat),none⟩))),(28,.int .u8 (b.getD (((((i:Nat) : Int)/8)).toNat) 0)),(29,.int .i64 (b.getD (((((i:Nat) : Int)/8)).toNat) 0))] ?_
 have aj:k≤i%8:=a0
 have y:c=b.getD (i/8) 0/2 ^ k:=a1
 have hcr:=pX (hb _ (pf (l:=b) (i:=i/8) (by omega))) y
 refine sq<|sg<|Pl 2<|L0<|Oe (.int .i64 (Int.tmod ((i:Nat) : Int) 8)) (.int .i64 (((i:Nat) : Int)%8)) (congrArg (Value.int .i64) (Int.tmod_eq_emod_of_nonneg (by omega)))<|Pl 1<|nt<|?_
 refine cb ((decide (((k:Nat) : Int)<(((i:Nat) : Int)%8)))) (fun z=>?_) (fun z=>?_)
 have a2:=of_decide_eq_true z
 refine bq<|sq<|bk<|go<|Pl 1<|L0<|Oe (.int .i64 (IntKind.i64.wrap (Int.tdiv c 2))) (.int .i64 (c/2)) (congrArg (Value.int .i64) (fb (by omega) (by omega)))<|Pl 1<|nl<|bn<|tn<|go<|Pl 1<|L0<|Oi (((k:Nat) : Int)+1)<|?_
 exact Pl 1<|nl<|gt ((k+1),(c/2)) ⟨q,(by(try dsimp only);omega),o9 y⟩ (by omega)
 have a2:=of_decide_eq_false z
 refine xt<|tx<|tx<|bx<|tn<|go<|Pl 2<|L0<|Oe (.int .i64 (Int.tmod c 2)) (.int .i64 (c%2)) (congrArg (Value.int .i64) (Int.tmod_eq_emod_of_nonneg (by omega)))<|Pl 1<|L0<|dy (m:=1) (e:=4) #[.bool ((c%2)==1)] fun ak al a3 a4 C=>?_
 have a5:=v6 a3 (xs:=[((c%2)==1)]) (by as_aux_lemma=>kernel_rfl)  (by(try simp only[List.length_cons,List.length_nil]);omega) a4
 refine L0<|cM qD (xs:=L) (ys:=([((c%2)==1)])) (.bool false) 1 (ax r (aI q C) (fun x hx=>ay) (fun _ _ h=>h)) (a5).rd (by(try simp only[List.length_append,List.length_cons,List.length_nil,aC]);omega) (le (le j.size q.size) C.size) fun a6 a7 am a8 a9=>Pl 1<|nl<|bn<|tn<|go<|Pl 1<|L0<|Oi (((i:Nat) : Int)+1)<|Pl 1<|nl<|?_
 exact gt ((i+1),(L++[((c%2)==1)]),a6,a7) ⟨(ut (aI j q) (ut (aE.mono (S':=(ob B++[])) C au) a9 (av il au)) (av (aU r lr) au)),a8,(by(try dsimp only);omega),(by(try dsimp only);rw[o,List.range_succ,List.map_append];show _++[_]=_++[cv b i];unfold cv;rw[y,show k=i%8 from by omega])⟩ (by omega)
 have X:=of_decide_eq_false s
 refine xt<|tx<|tx<|bx<|tn<|sq<|sq<|Rg 6 (fun w'=>bg false w' (.slice A b.length cp) b) fun an J=>?_
 have M:=aI j J
 have D:=bg.old h M
 refine bh (aK.any D (fun _ _ h=>h)) fun E=>Rt 0 E<|Rt 3 E<|Rr 4 E (.string (strOfNums b)) (fun _ hs=>ek (A:=A) (n:=b.length) (c:=cp) rfl (by kernel_rfl) Tryz.underlying22 Tryz.underlying5 Tryz.underlying9 hs)<|?_
 have N:=ax r J (fun x hx=>ay) (fun _ _ h=>h)
 refine R0 1 rfl<|Oc<|ea (tT (N).rd (by omega)) fun aa ab ao O ap aq F=>?_
 have P:=bg.old D F
 refine bh (aK.any P (fun _ _ h=>h)) fun ar=>R0 2 rfl<|lB (.string (strOfNums (cG L))) (ek (A:=aa) (n:=(cG L).length) (c:=ab) rfl (by kernel_rfl) Tryz.underlying22 Tryz.underlying5 Tryz.underlying9 (O).rd)<|bh (aK.any P (fun _ _ h=>h)) fun ac=>Rr 5 ac (.bool (!(decide ((cG L)=b)))) (fun _ _=>qC (a:=(strOfNums (cG L))) (b:=(strOfNums b)) rfl (by kernel_rfl) (by kernel_rfl) (mX (O).rd D))<|re<|tn<|?_
 have Q:=aI M F
 refine cb ((!(decide ((cG L)=b)))) (fun f=>?_) (fun f=>?_)
 have G:(decide ((cG L)=b))=false:=by simpa using f
 have ad:=of_decide_eq_false G
 refine sg<|Pl 2<|nt<|rt<|tr<|rr (.tuple #[.slice none 0 0,.bool false])<|?_
 have hL:L=(List.range n.toNat).map (cv b):=by rw[o,show i=n.toNat from by omega]
 have hu:=lN (n:=n) hb (by omega)
 rw[if_neg (by rw[← hL];simpa using f)] at hu
 exact eA hu Q
 have G:(decide ((cG L)=b))=true:=by simpa using f
 have ad:=of_decide_eq_true G
 refine bq<|sg<|Pl 3<|nt<|rt<|rr (.tuple #[.slice B L.length cq,.bool true])<|?_
 have hL:L=(List.range n.toNat).map (cv b):=by rw[o,show i=n.toNat from by omega]
 have hu:=lN (n:=n) hb (by omega)
 rw[if_pos (by rw[← hL];simpa using f),← hL] at hu
 exact⟨_,by rw[hu];rfl,by rw[hu];exact(ax N F (fun x hx=>ay) (fun _ _ h=>h)),Q⟩
theorem rK{m:Md}{v:Value}{b:List Int}{n:Int}{w:World}(h:bg m w v b)(hl:b.length≤1048576)(hn : -1048576≤n∧n≤1048576) : Calls Tryz.prog 156 #[v,.int .i64 n] w (fd b n w):=by
  obtain⟨A,c,rfl,_,_⟩:=h.shape
  exact pZ h hl hn
open Go.RowKit
def sm (w0:World)(m:Md)(A:Option Addr)(cp:Nat)(full:List Int)(g gm:Nat)(C':ah)(cs:Array Value)(w:World)(e:Ending)(w':World) : Prop:=e = .returned (.tuple #[])∧RC w0 m A cp full w' g C'∧w'.heap[gm]? = some (.cells cs 30 (0,0))∧aE [g,gm] w w'
theorem kT{w0:World}{m:Md}{A:Option Addr}{cp:Nat}{full:List Int}{w:World}{g gm:Nat}{c:Int}{C:ah}{most:Int}(hcode:B8 c)(hC:RC w0 m A cp full w g C)(hm:w.heap[gm]? = some (.cells (mC c) 30 (0,0)))(hgm:w0.heap.size≤gm)(hne:g≠gm) :
    Calls Tryz.prog 150 #[.pointer (some ⟨g,0,none⟩),.pointer (some ⟨gm,0,none⟩),.int .i64 most] w (sm w0 m A cp full g gm (bA C most) (mG c 0 C.wordV (C.wordsC 1).wordV 0 0 0 0 0 0 0 0 nS nS nS nS 0 0 0 0 0 nS) w):=by
 obtain⟨hcode1,hcode2⟩:=hcode
 have hrng:=bS (RC.rng hC)
 refine en 39 Tryz.func150 rfl<|sg<|Pl 2<|L0<|Oc<|m3 (cK hC) fun G t e H=>Pl 2<|?_
 refine L0<|bU (aT e (Ne.symm hne) hm) 2 (mG c 0 C.wordV 0 0 0 0 0 0 0 0 0 nS nS nS nS 0 0 0 0 0 nS) fun I dv f=>ng<|Pl 2<|?_
 have h:=us e f
 refine L0<|Oc<|m3 (cK (RC.upd t f (aa hne ay) (hC.u.trans' h (fun x hx=>.inr (by simp at hx;rcases hx with rfl | rfl;exact hC.new;exact hgm))))) fun J v i L=>Pl 2<|?_
 refine L0<|bU (aT i (Ne.symm hne) dv) 3 (mG c 0 C.wordV ((C.wordsC 1).wordV) 0 0 0 0 0 0 0 0 nS nS nS nS 0 0 0 0 0 nS) fun M j k=>ng<|Pl 3<|L0<|aR j 3<|L0<|Oi ((C.wordsC 1).wordV)<|Pl 1<|ng<|Pl 4<|cu 4 [25] 29 (((decide (0<((C.wordsC 1).wordV)))&&(decide (((C.wordsC 1).wordV)≤most)))) (fun K l=>?_) ?_
 refine bl 25 ((decide (0<((C.wordsC 1).wordV)))) (fun b=>?_) (fun b=>?_)
 have y:=of_decide_eq_true b
 exact Pl 4<|ce l (decide (((C.wordsC 1).wordV)≤most)) (by rw[b];rfl)
 have y:=of_decide_eq_false b
 exact Pl 4<|ce l false (by rw[b];rfl)
 have o:=ut h (us i k) (ac im (ac im au))
 refine L0<|Oc<|m2 (aV (((decide (0<((C.wordsC 1).wordV)))&&(decide (((C.wordsC 1).wordV)≤most)))) 5 (RC.upd v k (aa hne ay) (hC.u.trans' o (fun x hx=>.inr (by simp at hx;rcases hx with rfl | rfl;exact hC.new;exact hgm))))) fun z B p=>?_
 refine f8 B fun x36 D q=>?_
 refine nt<|go<|Pl 4<|?_
 have r:=aT p (Ne.symm hne) j
 refine L0<|aR r 2<|Pl 1<|L0<|Oc<|m1 (nQ (a:=C.wordV) (n:=(C.wordsC 1).wordV) (w:=z) (by omega) (by omega)) fun N d=>?_
 refine L0<|Oc<|m2 (aV ((db C.wordV ((C.wordsC 1).wordV))) 7 (RC.upd q d ay (aE.step (RC.u q) d))) fun O E F=>nl<|rm (.tuple #[])<|?_
 subst D
 have hs:bA C most=((((C.wordsC 1).wordsC 1).need ((decide (0<((C.wordsC 1).wordV)))&&(decide (((C.wordsC 1).wordV)≤most))) 5).need (db C.wordV ((C.wordsC 1).wordV)) 7):=by
   unfold bA i9
   (try simp only[bs,if_true,if_false,decide_true,decide_false,dc,reduceIte])
   all_goals rfl
 rw[hs]
 have s:=uz d F
 exact⟨rfl,E,(aT s (Ne.symm hne) r),(u1 o (u1 p s im) im)⟩
theorem ji{m:Md}{A:Option Addr}{cp:Nat}{b:List Int}{w:World}{c:Int}(hcode:B8 c)(hsl:bg m w (.slice A b.length cp) b)(hb:b.length≤1048576) :
    Calls Tryz.prog 93 #[.int .i64 0,.int .u8 c,.slice A b.length cp] w (d7 (.slice A b.length cp) b (ae aD 0 c b) w):=by
 obtain⟨hcode1,hcode2⟩:=hcode
 have hln:(b.length:Int)≤1048576:=by omega
 refine en 113 Tryz.func93 rfl<|sg<|L0<|bJ mZ fun aW d3 r i f=>Pl 1<|nt<|sq<|sg<|Pl 6<|nt<|c0<|?_
 refine bq<|sg<|Pl 2<|L0<|dt #[.slice A b.length cp,.int .i64 0,.bool false,.int .i64 0] fun j d4 a l g=>Pl 1<|ng<|Pl 2<|L0<|bJ mZ fun ab d5 d ad N=>L0<|b6 ad (mC c) fun a2 a3 E=>?_
 refine nt<|sq<|sg<|Pl 1<|nt<|bk<|sq<|sg<|Pl 2<|nl<|?_
 refine tn<|?_
 have O:=ud N E d
 have o:=aI g O
 have s:=aI f o
 refine cb ((c==1)) (fun k=>?_) (fun k=>?_)
 have c3:=al k
 refine bq<|ct k<|sq<|sg<|Pl 2<|nt<|c1<|sg<|Pl 1<|?_
 have af:RC w _ A cp b a2 j (ah.mk b false 0):=⟨hsl,s,(Nat.le_trans f.size a),⟨0,(ub O l),Nat.zero_le _,rfl⟩,by omega⟩
 have aX:=nb (ak l) lr d
 refine L0<|Oc<|m3 (kT (most:=2000) (b8 (by omega)) af a3 (Nat.le_trans (le f.size g.size) d) aX) fun d6 c4 c5 c6=>?_
 have d8:=bS (RC.rng af)
 have d9:=bS (c:=(ah.mk b false 0).wordsC 1) (cH (RC.rng af) 1)
 refine nt<|xt<|tx<|bx<|tn<|sg<|Pl 1<|L0<|Oc<|m2 (dT c4) fun da aj aY=>nt<|sq<|sq<|?_
 refine go<|Pl 3<|L0<|dZ (p:=⟨j,3,none⟩) (v:=.int .i64 (((bA (ah.mk b false 0) 2000).endC).e)) (RC.fld aj)<|Pl 1<|nt<|?_
 have am:=u1 c6 aY im
 have aZ:=ut s am (ac (ni f.size a) (ac (ni (le f.size g.size) d) au))
 refine cb (((((bA (ah.mk b false 0) 2000).endC).e)!=0)) (fun P=>?_) (fun P=>?_)
 have an:=aq P
 refine sq<|Rg 7 (fun w'=>w'.cell? ⟨j,3,none⟩=some (.int .i64 (((bA (ah.mk b false 0) 2000).endC).e))) fun db a4=>?_
 have b0:=RC.upd aj a4 ay (aE.step (RC.u aj) a4)
 refine bh (RC.fld b0) fun Q=>Rt 0 Q<|Rt 1 Q<|Rt 2 Q<|Rt 3 Q<|Rl 4 Q (fun _ hs=>hs)<|?_
 refine R0 5 rfl<|b6 (ub (ut o (aI am a4) (ac (nr a) (ac (ni g.size d) au))) i) mZ fun dd c7 b1=>?_
 have b2:=ud aZ (uz a4 b1) r
 refine bh (RC.fld (RC.upd b0 b1 (aa (Ne.symm (nb (ak i) lr a)) ay) b2)) fun c8=>Rt 6 c8<|re<|tn<|rt<|tr<|bF c7 (.int .i64 (((bA (ah.mk b false 0) 2000).endC).e))<|?_
 have hs:ae aD 0 c b=aF (aP.mk c 0 ((ah.mk b false 0).wordV) (((ah.mk b false 0).wordsC 1).wordV) 0 0 0 0 0 0 0 0 [] [] [] [] 0 0 0 0 0 []) (bA (ah.mk b false 0) 2000):=by
   unfold ae aD cF co cl ec jy eX jv jp iV cY dI
   (try simp only[k,P,bs,if_true,if_false,decide_true,decide_false,eq_self,true_or,or_true,or_false,false_or,if_true,if_false,ch,cc,bZ,cg,reduceIte,dc])
   all_goals rfl
 rw[hs]
 exact bf an b2
 have an:=ai P
 refine bq<|sg<|?_
 refine L0<|cj (aT aY (Ne.symm aX) c5)<|?_
 refine L0<|b6 (ub (ut o am (ac (nr a) (ac (ni g.size d) au))) i) (mG c 0 ((ah.mk b false 0).wordV) (((ah.mk b false 0).wordsC 1).wordV) 0 0 0 0 0 0 0 0 nS nS nS nS 0 0 0 0 0 nS) fun de c9 ca=>Pl 1<|nt<|rt<|bF c9 (.int .i64 0)<|?_
 have hs:ae aD 0 c b=aF (aP.mk c 0 ((ah.mk b false 0).wordV) (((ah.mk b false 0).wordsC 1).wordV) 0 0 0 0 0 0 0 0 [] [] [] [] 0 0 0 0 0 []) (bA (ah.mk b false 0) 2000):=by
   unfold ae aD cF co cl ec jy eX jv jp iV cY dI
   (try simp only[k,P,bs,if_true,if_false,decide_true,decide_false,eq_self,true_or,or_true,or_false,false_or,if_true,if_false,ch,cc,bZ,cg,reduceIte,dc])
   all_goals rfl
 rw[hs]
 exact bj an ⟨_,_,_,_,_,rfl,aK.nil ..,aK.nil ..,(fun _ _ _=>aK.nil ..),aK.nil ..,aK.nil ..,⟨(b8 (x:=c) (by omega)),(b8 (x:=0) (by omega)),(aB (x:=(ah.mk b false 0).wordV) (by omega)),(aB (x:=((ah.mk b false 0).wordsC 1).wordV) (by omega)),(aB (x:=0) (by omega)),(aB (x:=0) (by omega)),(aB (x:=0) (by omega)),(aB (x:=0) (by omega)),(aB (x:=0) (by omega)),(aB (x:=0) (by omega)),(aB (x:=0) (by omega)),(aB (x:=0) (by omega)),(b8 (x:=0) (by omega)),(b8 (x:=0) (by omega)),(b8 (x:=0) (by omega)),(b8 (x:=0) (by omega)),(b8 (x:=0) (by omega))⟩⟩ (ud aZ ca r)
 have c3:=ap k
 refine go<|Pl 2<|nt<|cb ((c==2)) (fun q=>?_) (fun q=>?_)
 have cd:=al q
 refine sq<|sg<|Pl 2<|nt<|c1<|sg<|Pl 1<|?_
 have ao:RC w _ A cp b a2 j (ah.mk b false 0):=⟨hsl,s,(Nat.le_trans f.size a),⟨0,(ub O l),Nat.zero_le _,rfl⟩,by omega⟩
 have b3:=nb (ak l) lr d
 refine L0<|Oc<|m3 (kT (most:=2000) (b8 (by omega)) ao a3 (Nat.le_trans (le f.size g.size) d) b3) fun df cf ck cm=>?_
 have dg:=bS (RC.rng ao)
 have dh:=bS (c:=(ah.mk b false 0).wordsC 1) (cH (RC.rng ao) 1)
 refine nt<|xt<|tx<|bx<|tn<|sg<|Pl 1<|L0<|Oc<|m2 (dT cf) fun di ar b4=>nt<|sq<|sq<|?_
 refine go<|Pl 3<|L0<|dZ (p:=⟨j,3,none⟩) (v:=.int .i64 (((bA (ah.mk b false 0) 2000).endC).e)) (RC.fld ar)<|Pl 1<|nt<|?_
 have av:=u1 cm b4 im
 have b5:=ut s av (ac (ni f.size a) (ac (ni (le f.size g.size) d) au))
 refine cb (((((bA (ah.mk b false 0) 2000).endC).e)!=0)) (fun R=>?_) (fun R=>?_)
 have aw:=aq R
 refine sq<|Rg 7 (fun w'=>w'.cell? ⟨j,3,none⟩=some (.int .i64 (((bA (ah.mk b false 0) 2000).endC).e))) fun dj a5=>?_
 have b7:=RC.upd ar a5 ay (aE.step (RC.u ar) a5)
 refine bh (RC.fld b7) fun S=>Rt 0 S<|Rt 1 S<|Rt 2 S<|Rt 3 S<|Rl 4 S (fun _ hs=>hs)<|?_
 refine R0 5 rfl<|b6 (ub (ut o (aI av a5) (ac (nr a) (ac (ni g.size d) au))) i) mZ fun dk cn b9=>?_
 have ba:=ud b5 (uz a5 b9) r
 refine bh (RC.fld (RC.upd b7 b9 (aa (Ne.symm (nb (ak i) lr a)) ay) ba)) fun cq=>Rt 6 cq<|re<|tn<|rt<|tr<|bF cn (.int .i64 (((bA (ah.mk b false 0) 2000).endC).e))<|?_
 have hs:ae aD 0 c b=aF (aP.mk c 0 ((ah.mk b false 0).wordV) (((ah.mk b false 0).wordsC 1).wordV) 0 0 0 0 0 0 0 0 [] [] [] [] 0 0 0 0 0 []) (bA (ah.mk b false 0) 2000):=by
   unfold ae aD cF co cl ec jy eX jv jp iV cY dI
   (try simp only[k,q,R,bs,if_true,if_false,decide_true,decide_false,eq_self,true_or,or_true,or_false,false_or,if_true,if_false,ch,cc,bZ,cg,reduceIte,dc])
   all_goals rfl
 rw[hs]
 exact bf aw ba
 have aw:=ai R
 refine bq<|sg<|?_
 refine L0<|cj (aT b4 (Ne.symm b3) ck)<|?_
 refine L0<|b6 (ub (ut o av (ac (nr a) (ac (ni g.size d) au))) i) (mG c 0 ((ah.mk b false 0).wordV) (((ah.mk b false 0).wordsC 1).wordV) 0 0 0 0 0 0 0 0 nS nS nS nS 0 0 0 0 0 nS) fun dl cr cs=>Pl 1<|nt<|rt<|bF cr (.int .i64 0)<|?_
 have hs:ae aD 0 c b=aF (aP.mk c 0 ((ah.mk b false 0).wordV) (((ah.mk b false 0).wordsC 1).wordV) 0 0 0 0 0 0 0 0 [] [] [] [] 0 0 0 0 0 []) (bA (ah.mk b false 0) 2000):=by
   unfold ae aD cF co cl ec jy eX jv jp iV cY dI
   (try simp only[k,q,R,bs,if_true,if_false,decide_true,decide_false,eq_self,true_or,or_true,or_false,false_or,if_true,if_false,ch,cc,bZ,cg,reduceIte,dc])
   all_goals rfl
 rw[hs]
 exact bj aw ⟨_,_,_,_,_,rfl,aK.nil ..,aK.nil ..,(fun _ _ _=>aK.nil ..),aK.nil ..,aK.nil ..,⟨(b8 (x:=c) (by omega)),(b8 (x:=0) (by omega)),(aB (x:=(ah.mk b false 0).wordV) (by omega)),(aB (x:=((ah.mk b false 0).wordsC 1).wordV) (by omega)),(aB (x:=0) (by omega)),(aB (x:=0) (by omega)),(aB (x:=0) (by omega)),(aB (x:=0) (by omega)),(aB (x:=0) (by omega)),(aB (x:=0) (by omega)),(aB (x:=0) (by omega)),(aB (x:=0) (by omega)),(b8 (x:=0) (by omega)),(b8 (x:=0) (by omega)),(b8 (x:=0) (by omega)),(b8 (x:=0) (by omega)),(b8 (x:=0) (by omega))⟩⟩ (ud b5 cs r)
 have cd:=ap q
 refine sg<|Pl 2<|nt<|cb ((c==5)) (fun z=>?_) (fun z=>?_)
 have cv:=al z
 refine sg<|Pl 1<|?_
 have cw:RC w _ A cp b a2 j (ah.mk b false 0):=⟨hsl,s,(Nat.le_trans f.size a),⟨0,(ub O l),Nat.zero_le _,rfl⟩,by omega⟩
 refine L0<|Oc<|m3 (cK cw) fun dm cx bb dp=>Pl 1<|?_
 have T:=nb (ak l) lr d
 refine L0<|bU (aT bb (Ne.symm T) a3) 2 (mG c 0 ((ah.mk b false 0).wordV) 0 0 0 0 0 0 0 0 0 nS nS nS nS 0 0 0 0 0 nS) fun dq cy bc=>ng<|Pl 1<|?_
 have az:=us bb bc
 have bd:=ut s az (ac (ni f.size a) (ac (ni (le f.size g.size) d) au))
 refine L0<|Oc<|m3 (cK (RC.upd cx bc (aa T ay) bd)) fun dr cz be ds=>Pl 1<|?_
 refine L0<|bU (aT be (Ne.symm T) cy) 4 (mG c 0 ((ah.mk b false 0).wordV) 0 (((ah.mk b false 0).wordsC 1).wordV) 0 0 0 0 0 0 0 nS nS nS nS 0 0 0 0 0 nS) fun du aC bi=>nt<|go<|Pl 2<|L0<|aR aC 4<|Pl 2<|cu 4 [62] 66 ((((((ah.mk b false 0).wordsC 1).wordV)==0)||((((ah.mk b false 0).wordsC 1).wordV)==65280))) (fun K bm=>?_) ?_
 refine bl 62 (((((ah.mk b false 0).wordsC 1).wordV)==0)) (fun U=>?_) (fun U=>?_)
 have cA:=al U
 exact Pl 4<|ce bm true (by rw[U];rfl)
 have cA:=ap U
 exact Pl 1<|L1<|aR aC 4<|Pl 2<|ce bm ((((ah.mk b false 0).wordsC 1).wordV)==65280) (by rw[U];rfl)
 have aG:=us be bi
 have bo:=ut bd aG (ac (ni f.size a) (ac (ni (le f.size g.size) d) au))
 refine L0<|Oc<|m2 (aV ((((((ah.mk b false 0).wordsC 1).wordV)==0)||((((ah.mk b false 0).wordsC 1).wordV)==65280))) 6 (RC.upd cz bi (aa T ay) bo)) fun dv cB cC=>?_
 refine f8 cB fun J bp cD=>?_
 refine nl<|bn<|tn<|sg<|Pl 1<|L0<|Oc<|m2 (dT cD) fun dw aH cE=>nt<|sq<|sg<|Pl 3<|L0<|dZ (p:=⟨j,3,none⟩) (v:=.int .i64 J.endC.e) (RC.fld aH)<|?_
 refine Pl 1<|nt<|?_
 have a6:=u1 cC cE im
 have bu:=ud bo a6 (le f.size a)
 refine cb ((J.endC.e != 0)) (fun V=>?_) (fun V=>?_)
 have aJ:=aq V
 refine sq<|Rg 7 (fun w'=>w'.cell? ⟨j,3,none⟩=some (.int .i64 J.endC.e)) fun dx a7=>?_
 have bv:=RC.upd aH a7 ay (aE.step (RC.u aH) a7)
 refine bh (RC.fld bv) fun W=>Rt 0 W<|Rt 1 W<|Rt 2 W<|Rt 3 W<|Rl 4 W (fun _ hs=>hs)<|?_
 refine R0 5 rfl<|b6 (ub (ut o (ut az (u1 aG (aI a6 a7) im) (ac im (ac im au))) (ac (nr a) (ac (ni g.size d) au))) i) mZ fun dy cG bw=>?_
 have bz:=ud bu (uz a7 bw) r
 refine bh (RC.fld (RC.upd bv bw (aa (Ne.symm (nb (ak i) lr a)) ay) bz)) fun cI=>Rt 6 cI<|re<|tn<|rt<|tr<|bF cG (.int .i64 J.endC.e)<|?_
 have hs:ae aD 0 c b=aF (aP.mk c 0 ((ah.mk b false 0).wordV) 0 (((ah.mk b false 0).wordsC 1).wordV) 0 0 0 0 0 0 0 [] [] [] [] 0 0 0 0 0 []) J:=by
   subst bp
   unfold ae aD cF co cl ec jy eX jv jp iV cY dI
   (try simp only[k,q,z,V,bs,if_true,if_false,decide_true,decide_false,eq_self,true_or,or_true,or_false,false_or,if_true,if_false,ch,cc,bZ,cg,reduceIte,dc])
   all_goals rfl
 rw[hs]
 exact bf aJ bz
 have aJ:=ai V
 refine bq<|sg<|?_
 refine L0<|cj (aT a6 (Ne.symm T) aC)<|?_
 refine L0<|b6 (ub (ut o (ut az (u1 aG a6 im) (ac im (ac im au))) (ac (nr a) (ac (ni g.size d) au))) i) (mG c 0 ((ah.mk b false 0).wordV) 0 (((ah.mk b false 0).wordsC 1).wordV) 0 0 0 0 0 0 0 nS nS nS nS 0 0 0 0 0 nS) fun dz cJ cL=>Pl 1<|nt<|rt<|bF cJ (.int .i64 0)<|?_
 have hs:ae aD 0 c b=aF (aP.mk c 0 ((ah.mk b false 0).wordV) 0 (((ah.mk b false 0).wordsC 1).wordV) 0 0 0 0 0 0 0 [] [] [] [] 0 0 0 0 0 []) J:=by
   subst bp
   unfold ae aD cF co cl ec jy eX jv jp iV cY dI
   (try simp only[k,q,z,V,bs,if_true,if_false,decide_true,decide_false,eq_self,true_or,or_true,or_false,false_or,if_true,if_false,ch,cc,bZ,cg,reduceIte,dc])
   all_goals rfl
 rw[hs]
 exact bj aJ ⟨_,_,_,_,_,rfl,aK.nil ..,aK.nil ..,(fun _ _ _=>aK.nil ..),aK.nil ..,aK.nil ..,⟨(b8 (x:=c) (by omega)),(b8 (x:=0) (by omega)),(aB (x:=(ah.mk b false 0).wordV) (by omega)),(aB (x:=0) (by omega)),(aB (x:=((ah.mk b false 0).wordsC 1).wordV) (by omega)),(aB (x:=0) (by omega)),(aB (x:=0) (by omega)),(aB (x:=0) (by omega)),(aB (x:=0) (by omega)),(aB (x:=0) (by omega)),(aB (x:=0) (by omega)),(aB (x:=0) (by omega)),(b8 (x:=0) (by omega)),(b8 (x:=0) (by omega)),(b8 (x:=0) (by omega)),(b8 (x:=0) (by omega)),(b8 (x:=0) (by omega))⟩⟩ (ud bu cL r)
 have cv:=ap z
 refine sg<|Pl 2<|nt<|cb ((c==15)) (fun L=>?_) (fun L=>?_)
 have cM:=al L
 refine sg<|Pl 1<|?_
 have aL:RC w _ A cp b a2 j (ah.mk b false 0):=⟨hsl,s,(Nat.le_trans f.size a),⟨0,(ub O l),Nat.zero_le _,rfl⟩,by omega⟩
 have F:=nb (ak l) lr d
 refine L0<|Oc<|m3 (kT (most:=1968) (b8 (by omega)) aL a3 (Nat.le_trans (le f.size g.size) d) F) fun dA cN cO G=>?_
 have dB:=bS (RC.rng aL)
 have dD:=bS (c:=(ah.mk b false 0).wordsC 1) (cH (RC.rng aL) 1)
 refine nt<|sq<|sg<|Pl 2<|nt<|c0<|bq<|sg<|Pl 1<|L0<|Oc<|m3 (dC cN) fun cP bB B dE=>?_
 refine L0<|Oi ((bA (ah.mk b false 0) 1968).byteV)<|Pl 1<|ng<|Pl 3<|?_
 have bC:=aT B (Ne.symm F) cO
 refine L0<|aR bC 3<|L0<|Oi (((ah.mk b false 0).wordsC 1).wordV)<|L0<|Oc<|m1 (uf (n:=((ah.mk b false 0).wordsC 1).wordV) (w:=cP) (by omega)) fun dF t=>Pl 1<|?_
 refine L0<|Oc<|m2 (aV ((((bA (ah.mk b false 0) 1968).byteV)==(dn (((ah.mk b false 0).wordsC 1).wordV)))) 5 (RC.upd bB t ay (aE.step (RC.u bB) t))) fun dG cQ H=>?_
 refine f8 cQ fun I bD bE=>?_
 refine nt<|sq<|Rg 12 (fun w'=>w'.cell? ⟨ab,3,none⟩=some (.int .u16 (((ah.mk b false 0).wordsC 1).wordV))) fun dH y=>?_
 have bG:=uz t (aI H y)
 have bH:=aT bG (Ne.symm F) bC
 refine bh (ag bH rfl) fun X=>Rt 0 X<|Rt 1 X<|Rt 3 X<|Rl 4 X (fun _ hs=>hs)<|Rr 5 X (.int .i64 (((ah.mk b false 0).wordsC 1).wordV)) (fun _ _=>bY (.int .i64 (IntKind.i64.wrap (((ah.mk b false 0).wordsC 1).wordV))) (by kernel_rfl) (congrArg (Value.int .i64) (i64_in (by omega))))<|?_
 have bI:=RC.upd bE y ay (aE.step (RC.u bE) y)
 refine R0 2 rfl<|Oc<|mH (eY (n:=(bA (ah.mk b false 0) 1968).byteV) (by omega) bI) fun cR cS dJ cT aM C=>?_
 have dK:=Nat.le_trans (ah.bytesR_le I ((bA (ah.mk b false 0) 1968).byteV)) (RC.clen bI)
 have bK:=aT C (Ne.symm F) bH
 refine bh (ag bK rfl) fun dL=>R0 6 rfl<|Oc (args:=#[.slice cR ((I.bytesR ((bA (ah.mk b false 0) 1968).byteV)).length) cS,.int .i64 (((ah.mk b false 0).wordsC 1).wordV)])<|ea (rK (n:=((ah.mk b false 0).wordsC 1).wordV) (cT _ _ (RC.rd aM)) (by omega) (by omega)) fun bL bM dM D dN dO a8=>?_
 have bN:=ub a8 bK
 refine bh (ag bN rfl) fun Y=>Rt 7 Y<|Rt 8 Y<|Rt 9 Y<|Rt 10 Y<|Rt 11 Y<|re<|tn<|sg<|Pl 2<|?_
 refine L0<|Oc<|m2 (aV ((ci (I.bytesR ((bA (ah.mk b false 0) 1968).byteV)) (((ah.mk b false 0).wordsC 1).wordV)).isSome) 6 (RC.upd aM a8 ay (aE.step (RC.u aM) a8))) fun dP cU bO=>?_
 refine f8 cU fun M bP cV=>?_
 refine nt<|go<|Pl 2<|?_
 refine L0<|bU (aT bO (Ne.symm F) bN) 13 (mG c 0 ((ah.mk b false 0).wordV) (((ah.mk b false 0).wordsC 1).wordV) 0 0 0 0 0 0 0 0 nS (.slice bL (((ci (I.bytesR ((bA (ah.mk b false 0) 1968).byteV)) (((ah.mk b false 0).wordsC 1).wordV)).getD []).length) bM) nS nS 0 0 0 0 0 nS) fun dQ cW bQ=>nl<|bn<|tn<|sg<|Pl 1<|?_
 have aN:=us bO bQ
 have aO:=ut G (ui B (ui bG (ui C (uz a8 aN)))) (ac im (ac im au))
 have bR:=ut s aO (ac (ni f.size a) (ac (ni (le f.size g.size) d) au))
 refine L0<|Oc<|m2 (dT (RC.upd cV bQ (aa F ay) bR)) fun dR aQ Z=>nt<|sq<|sg<|Pl 3<|L0<|dZ (p:=⟨j,3,none⟩) (v:=.int .i64 M.endC.e) (RC.fld aQ)<|Pl 1<|nt<|?_
 have bT:=ud bR Z (le f.size a)
 refine cb ((M.endC.e != 0)) (fun a0=>?_) (fun a0=>?_)
 have aS:=aq a0
 refine sq<|Rg 7 (fun w'=>w'.cell? ⟨j,3,none⟩=some (.int .i64 M.endC.e)) fun dS a9=>?_
 have bV:=RC.upd aQ a9 ay (aE.step (RC.u aQ) a9)
 refine bh (RC.fld bV) fun a1=>Rt 0 a1<|Rt 1 a1<|Rt 2 a1<|Rt 3 a1<|Rl 4 a1 (fun _ hs=>hs)<|?_
 have bW:=aI Z a9
 refine R0 5 rfl<|b6 (ub (ut o (u1 aO bW im) (ac (nr a) (ac (ni g.size d) au))) i) mZ fun dU cX aU=>?_
 have bX:=ud bT (uz a9 aU) r
 refine bh (RC.fld (RC.upd bV aU (aa (Ne.symm (nb (ak i) lr a)) ay) bX)) fun cZ=>Rt 6 cZ<|re<|tn<|rt<|tr<|bF cX (.int .i64 M.endC.e)<|?_
 have dV:=ax D (ut (aE.mono (S':=[j,ab,aW]) aN (ac im (ac im au))) (us bW aU) (ac im (ac im au))) (fun x hx=>(aa (fun e=>(aA (ak l) (le (le (le (le (le (le (le N.size E.size) G.size) B.size) t.size) H.size) y.size) C.size) D) (e▸hx)) (aa (fun e=>(aA (ak ad) (le (le (le (le (le (le E.size G.size) B.size) t.size) H.size) y.size) C.size) D) (e▸hx)) (aa (fun e=>(aA (ak i) (le (le (le (le (le (le (le (le g.size N.size) E.size) G.size) B.size) t.size) H.size) y.size) C.size) D) (e▸hx)) ay)))) (fun _ _ h=>h)
 have hs:ae aD 0 c b=aF (aP.mk c 0 ((ah.mk b false 0).wordV) (((ah.mk b false 0).wordsC 1).wordV) 0 0 0 0 0 0 0 0 [] ((ci (I.bytesR ((bA (ah.mk b false 0) 1968).byteV)) (((ah.mk b false 0).wordsC 1).wordV)).getD []) [] [] 0 0 0 0 0 []) M:=by
   subst bP bD
   unfold ae aD cF co cl ec jy eX jv jp iV cY dI
   (try simp only[k,q,z,L,a0,bs,if_true,if_false,decide_true,decide_false,eq_self,true_or,or_true,or_false,false_or,if_true,if_false,ch,cc,bZ,cg,reduceIte,dc])
   all_goals rfl
 rw[hs]
 exact bf aS bX
 have aS:=ai a0
 refine bq<|sg<|?_
 refine L0<|cj (aT Z (Ne.symm F) cW)<|?_
 refine L0<|b6 (ub (ut o (u1 aO Z im) (ac (nr a) (ac (ni g.size d) au))) i) (mG c 0 ((ah.mk b false 0).wordV) (((ah.mk b false 0).wordsC 1).wordV) 0 0 0 0 0 0 0 0 nS (.slice bL (((ci (I.bytesR ((bA (ah.mk b false 0) 1968).byteV)) (((ah.mk b false 0).wordsC 1).wordV)).getD []).length) bM) nS nS 0 0 0 0 0 nS) fun dW d0 c2=>Pl 1<|nt<|rt<|bF d0 (.int .i64 0)<|?_
 have hs:ae aD 0 c b=aF (aP.mk c 0 ((ah.mk b false 0).wordV) (((ah.mk b false 0).wordsC 1).wordV) 0 0 0 0 0 0 0 0 [] ((ci (I.bytesR ((bA (ah.mk b false 0) 1968).byteV)) (((ah.mk b false 0).wordsC 1).wordV)).getD []) [] [] 0 0 0 0 0 []) M:=by
   subst bP bD
   unfold ae aD cF co cl ec jy eX jv jp iV cY dI
   (try simp only[k,q,z,L,a0,bs,if_true,if_false,decide_true,decide_false,eq_self,true_or,or_true,or_false,false_or,if_true,if_false,ch,cc,bZ,cg,reduceIte,dc])
   all_goals rfl
 rw[hs]
 exact bj aS ⟨_,_,_,_,_,rfl,aK.nil ..,((ax D (ut (aE.mono (S':=[j,ab,aW]) aN (ac im (ac im au))) (us Z c2) (ac im (ac im au))) (fun x hx=>(aa (fun e=>(aA (ak l) (le (le (le (le (le (le (le N.size E.size) G.size) B.size) t.size) H.size) y.size) C.size) D) (e▸hx)) (aa (fun e=>(aA (ak ad) (le (le (le (le (le (le E.size G.size) B.size) t.size) H.size) y.size) C.size) D) (e▸hx)) (aa (fun e=>(aA (ak i) (le (le (le (le (le (le (le (le g.size N.size) E.size) G.size) B.size) t.size) H.size) y.size) C.size) D) (e▸hx)) ay)))) (fun _ _ h=>h))).rd,(fun _ _ _=>aK.nil ..),aK.nil ..,aK.nil ..,⟨(b8 (x:=c) (by omega)),(b8 (x:=0) (by omega)),(aB (x:=(ah.mk b false 0).wordV) (by omega)),(aB (x:=((ah.mk b false 0).wordsC 1).wordV) (by omega)),(aB (x:=0) (by omega)),(aB (x:=0) (by omega)),(aB (x:=0) (by omega)),(aB (x:=0) (by omega)),(aB (x:=0) (by omega)),(aB (x:=0) (by omega)),(aB (x:=0) (by omega)),(aB (x:=0) (by omega)),(b8 (x:=0) (by omega)),(b8 (x:=0) (by omega)),(b8 (x:=0) (by omega)),(b8 (x:=0) (by omega)),(b8 (x:=0) (by omega))⟩⟩ (ud bT c2 r)
 have cM:=ap L
 refine sg<|Pl 1<|?_
 refine L0<|b6 (ub o i) mZ fun dX d1 d2=>Pl 1<|nt<|rt<|br<|tr<|bF d1 (.int .i64 4)<|?_
 have hs:ae aD 0 c b=(aP.zero,4):=by
   unfold ae aD cF co cl ec jy eX jv jp iV cY dI
   (try simp only[k,q,z,L,bs,if_true,if_false,decide_true,decide_false,eq_self,true_or,or_true,or_false,false_or,if_true,if_false,ch,cc,bZ,cg,reduceIte,dc])
   all_goals rfl
 rw[hs]
 exact bt (ud s d2 r)
theorem iY{m:Md}{A:Option Addr}{cp:Nat}{b:List Int}{w:World}{c:Int}(hcode:B8 c)(hsl:bg m w (.slice A b.length cp) b)(hb:b.length≤1048576) :
    Calls Tryz.prog 93 #[.int .i64 1,.int .u8 c,.slice A b.length cp] w (d7 (.slice A b.length cp) b (ae aD 1 c b) w):=by
 obtain⟨hcode1,hcode2⟩:=hcode
 have hln:(b.length:Int)≤1048576:=by omega
 refine en 113 Tryz.func93 rfl<|sg<|L0<|bJ mZ fun cO cP q h d=>Pl 1<|nt<|sq<|sg<|Pl 6<|nt<|c0<|?_
 refine bq<|sg<|Pl 2<|L0<|dt #[.slice A b.length cp,.int .i64 0,.bool false,.int .i64 0] fun j cQ a s g=>Pl 1<|ng<|Pl 2<|L0<|bJ mZ fun cR cS f bv bw=>L0<|b6 bv (mC c) fun P Q bz=>?_
 refine nt<|sq<|sg<|Pl 1<|nt<|bk<|sq<|sg<|Pl 2<|nl<|?_
 refine tn<|?_
 have B:=ud bw bz f
 have l:=aI g B
 have r:=aI d l
 refine cb ((c==1)) (fun i=>?_) (fun i=>?_)
 have bB:=al i
 refine bq<|ct i<|sq<|sg<|Pl 2<|nt<|c0<|bq<|sg<|?_
 refine Pl 1<|?_
 have bC:RC w _ A cp b P j (ah.mk b false 0):=⟨hsl,r,(Nat.le_trans d.size a),⟨0,(ub B s),Nat.zero_le _,rfl⟩,by omega⟩
 refine L0<|Oc<|m3 (dC bC) fun cT bD bE cU=>L0<|Oi ((ah.mk b false 0).byteV)<|Pl 1<|ng<|Pl 4<|cu 3 [41] 44 (((decide (0<((ah.mk b false 0).byteV)))&&(decide (((ah.mk b false 0).byteV)≤250)))) (fun K am=>?_) ?_
 refine bl 41 ((decide (0<((ah.mk b false 0).byteV)))) (fun C=>?_) (fun C=>?_)
 have bG:=of_decide_eq_true C
 exact Pl 3<|ce am (decide (((ah.mk b false 0).byteV)≤250)) (by rw[C];rfl)
 have bG:=of_decide_eq_false C
 exact Pl 3<|ce am false (by rw[C];rfl)
 refine L0<|Oc<|m2 (aV (((decide (0<((ah.mk b false 0).byteV)))&&(decide (((ah.mk b false 0).byteV)≤250)))) 5 bD) fun cV bH bI=>?_
 refine f8 bH fun x43 an ao=>?_
 refine nt<|go<|Pl 2<|L0<|Oc<|mH (eY (n:=(ah.mk b false 0).byteV) (by omega) ao) fun ar av cW bK bL bM=>?_
 have cX:=Nat.le_trans (ah.bytesR_le x43 ((ah.mk b false 0).byteV)) (RC.clen ao)
 refine Pl 1<|?_
 have aw:=u1 bE (u1 bI bM im) im
 have Y:=nb (ak s) lr f
 refine L0<|bU (aT aw (Ne.symm Y) Q) 14 (mG c 0 0 0 0 0 0 0 0 0 0 0 nS nS (.slice ar ((x43.bytesR ((ah.mk b false 0).byteV)).length) av) nS 0 0 0 0 0 nS) fun cZ bN ax=>nl<|bn<|tn<|sg<|Pl 1<|?_
 have Z:=us aw ax
 have az:=ut r Z (ac (ni d.size a) (ac (ni (le d.size g.size) f) au))
 refine L0<|Oc<|m2 (dT (RC.upd bL ax (aa Y ay) az)) fun d0 a0 R=>nt<|sq<|sg<|Pl 3<|L0<|dZ (p:=⟨j,3,none⟩) (v:=.int .i64 (((x43.bytesC ((ah.mk b false 0).byteV)).endC).e)) (RC.fld a0)<|Pl 1<|nt<|?_
 have aA:=ud az R (le d.size a)
 refine cb (((((x43.bytesC ((ah.mk b false 0).byteV)).endC).e)!=0)) (fun D=>?_) (fun D=>?_)
 have a1:=aq D
 refine sq<|Rg 7 (fun w'=>w'.cell? ⟨j,3,none⟩=some (.int .i64 (((x43.bytesC ((ah.mk b false 0).byteV)).endC).e))) fun d1 S=>?_
 have aC:=RC.upd a0 S ay (aE.step (RC.u a0) S)
 refine bh (RC.fld aC) fun E=>Rt 0 E<|Rt 1 E<|Rt 2 E<|Rt 3 E<|Rl 4 E (fun _ hs=>hs)<|?_
 refine R0 5 rfl<|b6 (ub (ut l (u1 Z (aI R S) im) (ac (nr a) (ac (ni g.size f) au))) h) mZ fun d2 bO aG=>?_
 have aH:=ud aA (uz S aG) q
 refine bh (RC.fld (RC.upd aC aG (aa (Ne.symm (nb (ak h) lr a)) ay) aH)) fun bP=>Rt 6 bP<|re<|tn<|rt<|tr<|bF bO (.int .i64 (((x43.bytesC ((ah.mk b false 0).byteV)).endC).e))<|?_
 have hs:ae aD 1 c b=aF (aP.mk c 0 0 0 0 0 0 0 0 0 0 0 [] [] (x43.bytesR ((ah.mk b false 0).byteV)) [] 0 0 0 0 0 []) (x43.bytesC ((ah.mk b false 0).byteV)):=by
   subst an
   unfold ae aD cF co cl ec jy eX jv jp iV cY dI
   (try simp only[i,D,bs,if_true,if_false,decide_true,decide_false,eq_self,true_or,or_true,or_false,false_or,if_true,if_false,ch,cc,bZ,cg,reduceIte,dc])
   all_goals rfl
 rw[hs]
 exact bf a1 aH
 have a1:=ai D
 refine bq<|sg<|?_
 refine L0<|cj (aT R (Ne.symm Y) bN)<|?_
 refine L0<|b6 (ub (ut l (u1 Z R im) (ac (nr a) (ac (ni g.size f) au))) h) (mG c 0 0 0 0 0 0 0 0 0 0 0 nS nS (.slice ar ((x43.bytesR ((ah.mk b false 0).byteV)).length) av) nS 0 0 0 0 0 nS) fun d3 bQ bR=>Pl 1<|nt<|rt<|bF bQ (.int .i64 0)<|?_
 have hs:ae aD 1 c b=aF (aP.mk c 0 0 0 0 0 0 0 0 0 0 0 [] [] (x43.bytesR ((ah.mk b false 0).byteV)) [] 0 0 0 0 0 []) (x43.bytesC ((ah.mk b false 0).byteV)):=by
   subst an
   unfold ae aD cF co cl ec jy eX jv jp iV cY dI
   (try simp only[i,D,bs,if_true,if_false,decide_true,decide_false,eq_self,true_or,or_true,or_false,false_or,if_true,if_false,ch,cc,bZ,cg,reduceIte,dc])
   all_goals rfl
 rw[hs]
 exact bj a1 ⟨_,_,_,_,_,rfl,aK.nil ..,aK.nil ..,bK,aK.nil ..,aK.nil ..,⟨(b8 (x:=c) (by omega)),(b8 (x:=0) (by omega)),(aB (x:=0) (by omega)),(aB (x:=0) (by omega)),(aB (x:=0) (by omega)),(aB (x:=0) (by omega)),(aB (x:=0) (by omega)),(aB (x:=0) (by omega)),(aB (x:=0) (by omega)),(aB (x:=0) (by omega)),(aB (x:=0) (by omega)),(aB (x:=0) (by omega)),(b8 (x:=0) (by omega)),(b8 (x:=0) (by omega)),(b8 (x:=0) (by omega)),(b8 (x:=0) (by omega)),(b8 (x:=0) (by omega))⟩⟩ (ud aA bR q)
 have bB:=ap i
 refine go<|Pl 2<|nt<|cb ((c==2)) (fun o=>?_) (fun o=>?_)
 have bT:=al o
 refine sq<|sg<|Pl 2<|nt<|c0<|bq<|sg<|Pl 1<|?_
 have bV:RC w _ A cp b P j (ah.mk b false 0):=⟨hsl,r,(Nat.le_trans d.size a),⟨0,(ub B s),Nat.zero_le _,rfl⟩,by omega⟩
 refine L0<|Oc<|m3 (dC bV) fun d4 bW bX d5=>L0<|Oi ((ah.mk b false 0).byteV)<|Pl 1<|ng<|Pl 4<|cu 3 [41] 44 (((decide (0<((ah.mk b false 0).byteV)))&&(decide (((ah.mk b false 0).byteV)≤250)))) (fun K aJ=>?_) ?_
 refine bl 41 ((decide (0<((ah.mk b false 0).byteV)))) (fun F=>?_) (fun F=>?_)
 have bY:=of_decide_eq_true F
 exact Pl 3<|ce aJ (decide (((ah.mk b false 0).byteV)≤250)) (by rw[F];rfl)
 have bY:=of_decide_eq_false F
 exact Pl 3<|ce aJ false (by rw[F];rfl)
 refine L0<|Oc<|m2 (aV (((decide (0<((ah.mk b false 0).byteV)))&&(decide (((ah.mk b false 0).byteV)≤250)))) 5 bW) fun d6 c2 c3=>?_
 refine f8 c2 fun k aL aM=>?_
 refine nt<|go<|Pl 2<|L0<|Oc<|mH (eY (n:=(ah.mk b false 0).byteV) (by omega) aM) fun aN aO d8 c4 c5 c6=>?_
 have d9:=Nat.le_trans (ah.bytesR_le k ((ah.mk b false 0).byteV)) (RC.clen aM)
 refine Pl 1<|?_
 have aQ:=u1 bX (u1 c3 c6 im) im
 have a2:=nb (ak s) lr f
 refine L0<|bU (aT aQ (Ne.symm a2) Q) 14 (mG c 0 0 0 0 0 0 0 0 0 0 0 nS nS (.slice aN ((k.bytesR ((ah.mk b false 0).byteV)).length) aO) nS 0 0 0 0 0 nS) fun da c7 aS=>nl<|bn<|tn<|sg<|Pl 1<|?_
 have a3:=us aQ aS
 have aU:=ut r a3 (ac (ni d.size a) (ac (ni (le d.size g.size) f) au))
 refine L0<|Oc<|m2 (dT (RC.upd c5 aS (aa a2 ay) aU)) fun db a4 T=>nt<|sq<|sg<|Pl 3<|L0<|dZ (p:=⟨j,3,none⟩) (v:=.int .i64 (((k.bytesC ((ah.mk b false 0).byteV)).endC).e)) (RC.fld a4)<|Pl 1<|nt<|?_
 have aW:=ud aU T (le d.size a)
 refine cb (((((k.bytesC ((ah.mk b false 0).byteV)).endC).e)!=0)) (fun G=>?_) (fun G=>?_)
 have a5:=aq G
 refine sq<|Rg 7 (fun w'=>w'.cell? ⟨j,3,none⟩=some (.int .i64 (((k.bytesC ((ah.mk b false 0).byteV)).endC).e))) fun dd U=>?_
 have aX:=RC.upd a4 U ay (aE.step (RC.u a4) U)
 refine bh (RC.fld aX) fun H=>Rt 0 H<|Rt 1 H<|Rt 2 H<|Rt 3 H<|Rl 4 H (fun _ hs=>hs)<|?_
 refine R0 5 rfl<|b6 (ub (ut l (u1 a3 (aI T U) im) (ac (nr a) (ac (ni g.size f) au))) h) mZ fun de c8 aY=>?_
 have aZ:=ud aW (uz U aY) q
 refine bh (RC.fld (RC.upd aX aY (aa (Ne.symm (nb (ak h) lr a)) ay) aZ)) fun c9=>Rt 6 c9<|re<|tn<|rt<|tr<|bF c8 (.int .i64 (((k.bytesC ((ah.mk b false 0).byteV)).endC).e))<|?_
 have hs:ae aD 1 c b=aF (aP.mk c 0 0 0 0 0 0 0 0 0 0 0 [] [] (k.bytesR ((ah.mk b false 0).byteV)) [] 0 0 0 0 0 []) (k.bytesC ((ah.mk b false 0).byteV)):=by
   subst aL
   unfold ae aD cF co cl ec jy eX jv jp iV cY dI
   (try simp only[i,o,G,bs,if_true,if_false,decide_true,decide_false,eq_self,true_or,or_true,or_false,false_or,if_true,if_false,ch,cc,bZ,cg,reduceIte,dc])
   all_goals rfl
 rw[hs]
 exact bf a5 aZ
 have a5:=ai G
 refine bq<|sg<|?_
 refine L0<|cj (aT T (Ne.symm a2) c7)<|?_
 refine L0<|b6 (ub (ut l (u1 a3 T im) (ac (nr a) (ac (ni g.size f) au))) h) (mG c 0 0 0 0 0 0 0 0 0 0 0 nS nS (.slice aN ((k.bytesR ((ah.mk b false 0).byteV)).length) aO) nS 0 0 0 0 0 nS) fun df ca cd=>Pl 1<|nt<|rt<|bF ca (.int .i64 0)<|?_
 have hs:ae aD 1 c b=aF (aP.mk c 0 0 0 0 0 0 0 0 0 0 0 [] [] (k.bytesR ((ah.mk b false 0).byteV)) [] 0 0 0 0 0 []) (k.bytesC ((ah.mk b false 0).byteV)):=by
   subst aL
   unfold ae aD cF co cl ec jy eX jv jp iV cY dI
   (try simp only[i,o,G,bs,if_true,if_false,decide_true,decide_false,eq_self,true_or,or_true,or_false,false_or,if_true,if_false,ch,cc,bZ,cg,reduceIte,dc])
   all_goals rfl
 rw[hs]
 exact bj a5 ⟨_,_,_,_,_,rfl,aK.nil ..,aK.nil ..,c4,aK.nil ..,aK.nil ..,⟨(b8 (x:=c) (by omega)),(b8 (x:=0) (by omega)),(aB (x:=0) (by omega)),(aB (x:=0) (by omega)),(aB (x:=0) (by omega)),(aB (x:=0) (by omega)),(aB (x:=0) (by omega)),(aB (x:=0) (by omega)),(aB (x:=0) (by omega)),(aB (x:=0) (by omega)),(aB (x:=0) (by omega)),(aB (x:=0) (by omega)),(b8 (x:=0) (by omega)),(b8 (x:=0) (by omega)),(b8 (x:=0) (by omega)),(b8 (x:=0) (by omega)),(b8 (x:=0) (by omega))⟩⟩ (ud aW cd q)
 have bT:=ap o
 refine sg<|Pl 2<|nt<|cb ((c==5)) (fun t=>?_) (fun t=>?_)
 have cf:=al t
 refine sg<|Pl 1<|?_
 have ci:RC w _ A cp b P j (ah.mk b false 0):=⟨hsl,r,(Nat.le_trans d.size a),⟨0,(ub B s),Nat.zero_le _,rfl⟩,by omega⟩
 refine L0<|Oc<|m3 (cK ci) fun dg ck b0 dh=>Pl 1<|?_
 have I:=nb (ak s) lr f
 refine L0<|bU (aT b0 (Ne.symm I) Q) 2 (mG c 0 ((ah.mk b false 0).wordV) 0 0 0 0 0 0 0 0 0 nS nS nS nS 0 0 0 0 0 nS) fun di cm b1=>ng<|Pl 1<|?_
 have a6:=us b0 b1
 have b2:=ut r a6 (ac (ni d.size a) (ac (ni (le d.size g.size) f) au))
 refine L0<|Oc<|m3 (cK (RC.upd ck b1 (aa I ay) b2)) fun dj cn b3 dk=>Pl 1<|?_
 refine L0<|bU (aT b3 (Ne.symm I) cm) 4 (mG c 0 ((ah.mk b false 0).wordV) 0 (((ah.mk b false 0).wordsC 1).wordV) 0 0 0 0 0 0 0 nS nS nS nS 0 0 0 0 0 nS) fun dl a7 b4=>nt<|go<|Pl 2<|L0<|aR a7 4<|Pl 2<|cu 4 [62] 66 ((((((ah.mk b false 0).wordsC 1).wordV)==0)||((((ah.mk b false 0).wordsC 1).wordV)==65280))) (fun K b5=>?_) ?_
 refine bl 62 (((((ah.mk b false 0).wordsC 1).wordV)==0)) (fun J=>?_) (fun J=>?_)
 have cq:=al J
 exact Pl 4<|ce b5 true (by rw[J];rfl)
 have cq:=ap J
 exact Pl 1<|L1<|aR a7 4<|Pl 2<|ce b5 ((((ah.mk b false 0).wordsC 1).wordV)==65280) (by rw[J];rfl)
 have a8:=us b3 b4
 have b7:=ut b2 a8 (ac (ni d.size a) (ac (ni (le d.size g.size) f) au))
 refine L0<|Oc<|m2 (aV ((((((ah.mk b false 0).wordsC 1).wordV)==0)||((((ah.mk b false 0).wordsC 1).wordV)==65280))) 6 (RC.upd cn b4 (aa I ay) b7)) fun dm cr cs=>?_
 refine f8 cr fun y b9 cv=>?_
 refine nl<|bn<|tn<|sg<|Pl 1<|L0<|Oc<|m2 (dT cv) fun dn a9 cw=>nt<|sq<|sg<|Pl 3<|L0<|dZ (p:=⟨j,3,none⟩) (v:=.int .i64 y.endC.e) (RC.fld a9)<|?_
 refine Pl 1<|nt<|?_
 have V:=u1 cs cw im
 have ba:=ud b7 V (le d.size a)
 refine cb ((y.endC.e != 0)) (fun L=>?_) (fun L=>?_)
 have ab:=aq L
 refine sq<|Rg 7 (fun w'=>w'.cell? ⟨j,3,none⟩=some (.int .i64 y.endC.e)) fun dp W=>?_
 have bb:=RC.upd a9 W ay (aE.step (RC.u a9) W)
 refine bh (RC.fld bb) fun M=>Rt 0 M<|Rt 1 M<|Rt 2 M<|Rt 3 M<|Rl 4 M (fun _ hs=>hs)<|?_
 refine R0 5 rfl<|b6 (ub (ut l (ut a6 (u1 a8 (aI V W) im) (ac im (ac im au))) (ac (nr a) (ac (ni g.size f) au))) h) mZ fun dq cx bc=>?_
 have bd:=ud ba (uz W bc) q
 refine bh (RC.fld (RC.upd bb bc (aa (Ne.symm (nb (ak h) lr a)) ay) bd)) fun cy=>Rt 6 cy<|re<|tn<|rt<|tr<|bF cx (.int .i64 y.endC.e)<|?_
 have hs:ae aD 1 c b=aF (aP.mk c 0 ((ah.mk b false 0).wordV) 0 (((ah.mk b false 0).wordsC 1).wordV) 0 0 0 0 0 0 0 [] [] [] [] 0 0 0 0 0 []) y:=by
   subst b9
   unfold ae aD cF co cl ec jy eX jv jp iV cY dI
   (try simp only[i,o,t,L,bs,if_true,if_false,decide_true,decide_false,eq_self,true_or,or_true,or_false,false_or,if_true,if_false,ch,cc,bZ,cg,reduceIte,dc])
   all_goals rfl
 rw[hs]
 exact bf ab bd
 have ab:=ai L
 refine bq<|sg<|?_
 refine L0<|cj (aT V (Ne.symm I) a7)<|?_
 refine L0<|b6 (ub (ut l (ut a6 (u1 a8 V im) (ac im (ac im au))) (ac (nr a) (ac (ni g.size f) au))) h) (mG c 0 ((ah.mk b false 0).wordV) 0 (((ah.mk b false 0).wordsC 1).wordV) 0 0 0 0 0 0 0 nS nS nS nS 0 0 0 0 0 nS) fun dr cz cA=>Pl 1<|nt<|rt<|bF cz (.int .i64 0)<|?_
 have hs:ae aD 1 c b=aF (aP.mk c 0 ((ah.mk b false 0).wordV) 0 (((ah.mk b false 0).wordsC 1).wordV) 0 0 0 0 0 0 0 [] [] [] [] 0 0 0 0 0 []) y:=by
   subst b9
   unfold ae aD cF co cl ec jy eX jv jp iV cY dI
   (try simp only[i,o,t,L,bs,if_true,if_false,decide_true,decide_false,eq_self,true_or,or_true,or_false,false_or,if_true,if_false,ch,cc,bZ,cg,reduceIte,dc])
   all_goals rfl
 rw[hs]
 exact bj ab ⟨_,_,_,_,_,rfl,aK.nil ..,aK.nil ..,(fun _ _ _=>aK.nil ..),aK.nil ..,aK.nil ..,⟨(b8 (x:=c) (by omega)),(b8 (x:=0) (by omega)),(aB (x:=(ah.mk b false 0).wordV) (by omega)),(aB (x:=0) (by omega)),(aB (x:=((ah.mk b false 0).wordsC 1).wordV) (by omega)),(aB (x:=0) (by omega)),(aB (x:=0) (by omega)),(aB (x:=0) (by omega)),(aB (x:=0) (by omega)),(aB (x:=0) (by omega)),(aB (x:=0) (by omega)),(aB (x:=0) (by omega)),(b8 (x:=0) (by omega)),(b8 (x:=0) (by omega)),(b8 (x:=0) (by omega)),(b8 (x:=0) (by omega)),(b8 (x:=0) (by omega))⟩⟩ (ud ba cA q)
 have cf:=ap t
 refine sg<|Pl 2<|nt<|cb ((c==15)) (fun z=>?_) (fun z=>?_)
 have cB:=al z
 refine sg<|Pl 1<|?_
 have ad:RC w _ A cp b P j (ah.mk b false 0):=⟨hsl,r,(Nat.le_trans d.size a),⟨0,(ub B s),Nat.zero_le _,rfl⟩,by omega⟩
 have be:=nb (ak s) lr f
 refine L0<|Oc<|m3 (kT (most:=1968) (b8 (by omega)) ad Q (Nat.le_trans (le d.size g.size) f) be) fun ds cC cD cE=>?_
 have du:=bS (RC.rng ad)
 have dv:=bS (c:=(ah.mk b false 0).wordsC 1) (cH (RC.rng ad) 1)
 refine nt<|sq<|sg<|Pl 2<|nt<|c1<|xt<|tx<|bx<|tn<|sq<|?_
 refine go<|Pl 1<|L0<|Oc<|m2 (dT cC) fun dw af bi=>nt<|sq<|sg<|Pl 3<|L0<|dZ (p:=⟨j,3,none⟩) (v:=.int .i64 (((bA (ah.mk b false 0) 1968).endC).e)) (RC.fld af)<|Pl 1<|nt<|?_
 have ag:=u1 cE bi im
 have bm:=ut r ag (ac (ni d.size a) (ac (ni (le d.size g.size) f) au))
 refine cb (((((bA (ah.mk b false 0) 1968).endC).e)!=0)) (fun N=>?_) (fun N=>?_)
 have aj:=aq N
 refine sq<|Rg 7 (fun w'=>w'.cell? ⟨j,3,none⟩=some (.int .i64 (((bA (ah.mk b false 0) 1968).endC).e))) fun dx X=>?_
 have bo:=RC.upd af X ay (aE.step (RC.u af) X)
 refine bh (RC.fld bo) fun O=>Rt 0 O<|Rt 1 O<|Rt 2 O<|Rt 3 O<|Rl 4 O (fun _ hs=>hs)<|?_
 refine R0 5 rfl<|b6 (ub (ut l (aI ag X) (ac (nr a) (ac (ni g.size f) au))) h) mZ fun dy cG bp=>?_
 have bu:=ud bm (uz X bp) q
 refine bh (RC.fld (RC.upd bo bp (aa (Ne.symm (nb (ak h) lr a)) ay) bu)) fun cI=>Rt 6 cI<|re<|tn<|rt<|tr<|bF cG (.int .i64 (((bA (ah.mk b false 0) 1968).endC).e))<|?_
 have hs:ae aD 1 c b=aF (aP.mk c 0 ((ah.mk b false 0).wordV) (((ah.mk b false 0).wordsC 1).wordV) 0 0 0 0 0 0 0 0 [] [] [] [] 0 0 0 0 0 []) (bA (ah.mk b false 0) 1968):=by
   unfold ae aD cF co cl ec jy eX jv jp iV cY dI
   (try simp only[i,o,t,z,N,bs,if_true,if_false,decide_true,decide_false,eq_self,true_or,or_true,or_false,false_or,if_true,if_false,ch,cc,bZ,cg,reduceIte,dc])
   all_goals rfl
 rw[hs]
 exact bf aj bu
 have aj:=ai N
 refine bq<|sg<|?_
 refine L0<|cj (aT bi (Ne.symm be) cD)<|?_
 refine L0<|b6 (ub (ut l ag (ac (nr a) (ac (ni g.size f) au))) h) (mG c 0 ((ah.mk b false 0).wordV) (((ah.mk b false 0).wordsC 1).wordV) 0 0 0 0 0 0 0 0 nS nS nS nS 0 0 0 0 0 nS) fun dz cJ cL=>Pl 1<|nt<|rt<|bF cJ (.int .i64 0)<|?_
 have hs:ae aD 1 c b=aF (aP.mk c 0 ((ah.mk b false 0).wordV) (((ah.mk b false 0).wordsC 1).wordV) 0 0 0 0 0 0 0 0 [] [] [] [] 0 0 0 0 0 []) (bA (ah.mk b false 0) 1968):=by
   unfold ae aD cF co cl ec jy eX jv jp iV cY dI
   (try simp only[i,o,t,z,N,bs,if_true,if_false,decide_true,decide_false,eq_self,true_or,or_true,or_false,false_or,if_true,if_false,ch,cc,bZ,cg,reduceIte,dc])
   all_goals rfl
 rw[hs]
 exact bj aj ⟨_,_,_,_,_,rfl,aK.nil ..,aK.nil ..,(fun _ _ _=>aK.nil ..),aK.nil ..,aK.nil ..,⟨(b8 (x:=c) (by omega)),(b8 (x:=0) (by omega)),(aB (x:=(ah.mk b false 0).wordV) (by omega)),(aB (x:=((ah.mk b false 0).wordsC 1).wordV) (by omega)),(aB (x:=0) (by omega)),(aB (x:=0) (by omega)),(aB (x:=0) (by omega)),(aB (x:=0) (by omega)),(aB (x:=0) (by omega)),(aB (x:=0) (by omega)),(aB (x:=0) (by omega)),(aB (x:=0) (by omega)),(b8 (x:=0) (by omega)),(b8 (x:=0) (by omega)),(b8 (x:=0) (by omega)),(b8 (x:=0) (by omega)),(b8 (x:=0) (by omega))⟩⟩ (ud bm cL q)
 have cB:=ap z
 refine sg<|Pl 1<|?_
 refine L0<|b6 (ub l h) mZ fun dA cM cN=>Pl 1<|nt<|rt<|br<|tr<|bF cM (.int .i64 4)<|?_
 have hs:ae aD 1 c b=(aP.zero,4):=by
   unfold ae aD cF co cl ec jy eX jv jp iV cY dI
   (try simp only[i,o,t,z,bs,if_true,if_false,decide_true,decide_false,eq_self,true_or,or_true,or_false,false_or,if_true,if_false,ch,cc,bZ,cg,reduceIte,dc])
   all_goals rfl
 rw[hs]
 exact bt (ud r cN q)
theorem jj{m:Md}{A:Option Addr}{cp:Nat}{b:List Int}{w:World}{dir c:Int}(hcode:B8 c)(hsl:bg m w (.slice A b.length cp) b)(hb:b.length≤1048576)(hd:¬ (dir=0∨dir=1)) :
    Calls Tryz.prog 93 #[.int .i64 dir,.int .u8 c,.slice A b.length cp] w (d7 (.slice A b.length cp) b (ae aD dir c b) w):=by
 obtain⟨hcode1,hcode2⟩:=hcode
 have hln:(b.length:Int)≤1048576:=by omega
 have e0:(dir != 0)=true:=by simp;omega
 have e1:(dir != 1)=true:=by simp;omega
 refine en 113 Tryz.func93 rfl<|sg<|L0<|bJ mZ fun g h a d e=>Pl 1<|nt<|sq<|sg<|Pl 3<|sy 16 e0<|Pl 3<|nl<|?_
 refine tn<|ct e1<|sg<|Pl 1<|L0<|b6 d mZ fun i dv f=>Pl 1<|nt<|rt<|tr<|bF dv (.int .i64 1)<|?_
 have hs:ae aD dir c b=(aP.zero,1):=by
   unfold ae aD cF co cl ec jy eX jv jp iV cY dI
   (try simp only[e0,e1,bs,if_true,if_false,decide_true,decide_false,eq_self,true_or,or_true,or_false,false_or,if_true,if_false,ch,cc,bZ,cg,reduceIte,hd,dc])
   all_goals rfl
 rw[hs]
 exact bt (ud e f a)
open Go.RowKit
theorem g7{C:ah}(h:gP C){b:Bool}{x:Int}:gP (C.need b x):=fun y hy=>h y (by rwa [iR] at hy)
theorem ge{C:ah}(h:gP C){n:Int}:gP (C.bytesC n):=gD h n
theorem kD{C:ah}(h:gP C){n:Int}:gP (C.wordsC n):=cH h n
theorem sl(C:ah)(x:Int) : (C.bytesC 1).need (!(C.bytesC 1).sh) x=C.bytesC 1:=by
  by_cases hf:C.fails 1=true
  · exact dL (ex hf)
  · have h:(C.bytesC 1).sh=false:=by
      unfold ah.bytesC
      rw[if_neg hf]
      unfold ah.fails at hf
      simp only[Bool.or_eq_true,decide_eq_true_eq,not_or] at hf
      show C.sh=false
      simpa using hf.1.1
    rw[h]
    unfold ah.need
    rw[if_neg (by rintro⟨_,h⟩;cases h)]
theorem pQ{v:Int}(h:0≤v) : decide (0<v)=(v != 0):=by
  rw[Bool.eq_iff_iff]
  simp only[decide_eq_true_eq,bne_iff_ne,ne_eq]
  omega
def um (C:ah) : ah:=((C.bytesC 1).need (!(C.bytesC 1).sh) 5).need (C.byteV==6) 9
def uo (C:ah) : ah:=((um C).wordsC 1).need (decide (0<(um C).wordV)) 6
def ur (C:ah) : ah:=((uo C).wordsC 1).need (decide ((uo C).wordV≤9999)) 7
def qI (C:ah) : ah:=((ur C).wordsC 1).need (decide (0<(ur C).wordV)) 5
theorem pB(C:ah) : um C=gL C:=by unfold um gL;rw[sl]
theorem o3{C:ah}(h:gP C) : gP (gL C):=g7 (ge h)
theorem qU{C:ah}(h:gP C) : uo C=gM C:=by unfold uo gM;rw[pB,pQ (bS (o3 h)).1]
theorem rv{C:ah}(h:gP C) : gP (gM C):=g7 (kD (o3 h))
theorem qs{C:ah}(h:gP C) : ur C=lC C:=by unfold ur lC;rw[qU h]
theorem rN{C:ah}(h:gP C) : gP (lC C):=g7 (kD (rv h))
theorem od{C:ah}(h:gP C) : qI C=dp C:=by unfold qI dp;rw[qs h,pQ (bS (rN h)).1]
theorem tk{C:ah}(h:C.e≠0) : C.endC=C:=by unfold ah.endC;exact dL h
theorem qv{b:List Int}(h:b.length≠0) : (ah.mk b false 0).byteV=b.getD 0 0∧(ah.mk b false 0).bytesC 1=⟨b.drop 1,false,0⟩:=by
  have hf:¬ (ah.mk b false 0).fails 1=true:=by
    unfold ah.fails
    simp only[Bool.or_eq_true,decide_eq_true_eq,not_or]
    exact⟨⟨by decide,by decide⟩,by omega⟩
  constructor
  · unfold ah.byteV ah.bytesR
    rw[if_neg hf]
    rcases b with _|⟨x,t⟩
    · exact absurd rfl h
    · rfl
  · unfold ah.bytesC
    rw[if_neg hf]
    rfl
def cN (b:List Int)(n:Int) : List Int:=(b.take (n+1).toNat).drop 1
def dj (one:Int→ah→Int × ah × de)(c:Int)(b:List Int) : aP × Int :=
  if (aN one (cN b (b.getD 0 0)).length 0 ⟨cN b (b.getD 0 0),false,0⟩ []).1.e != 0 then (aP.zero,bo (aN one (cN b (b.getD 0 0)).length 0 ⟨cN b (b.getD 0 0),false,0⟩ []).1.e)
  else if decide (b.getD 0 0+1<(b.length:Int)) then (aP.zero,3)
  else ({ aP.zero with code:=c,recs:=(aN one (cN b (b.getD 0 0)).length 0 ⟨cN b (b.getD 0 0),false,0⟩ []).2 },0)
def bH (one:Int→ah→Int × ah × de)(may:Int→Bool)(c:Int)(b:List Int) : aP × Int :=
  if (b.length:Int)==0 then (aP.zero,2)
  else if !(may (b.getD 0 0)) then (aP.zero,5)
  else if decide ((b.length:Int)<b.getD 0 0+1) then (aP.zero,2)
  else dj one c b
theorem iD{M:aP}{C:ah}(h:C.e≠0) : aF M C=(aP.zero,C.e):=by
  unfold aF
  rw[tk h,if_neg h]
theorem ia{one:Int→ah→Int × ah × de}{may:Int→Bool}{c:Int}{b:List Int}(hr:∀ x,x∈b→0≤x∧x<256) : aF (dF one may c ⟨b,false,0⟩).2 (dF one may c ⟨b,false,0⟩).1=bH one may c b:=by
  unfold bH
  by_cases h0:b.length=0
  · rw[if_pos (by rw[beq_iff_eq];omega)]
    obtain rfl:=List.eq_nil_of_length_eq_zero h0
    have e1:(js may ⟨[],false,0⟩).e=2:=by
      unfold js
      rw[dL (ex (by decide))]
      rfl
    have e2:((js may ⟨[],false,0⟩).bytesC (ah.mk [] false 0).byteV).e=2:=by
      have hs:(js may ⟨[],false,0⟩).sh=true:=by
        unfold js
        rw[dL (ex (by decide))]
        rfl
      unfold ah.bytesC
      rw[if_pos (by unfold ah.fails;rw[hs];rfl),dL (by show(js may ⟨[],false,0⟩).e≠0;rw[e1];decide)]
      exact e1
    unfold dF
    dsimp only
    rw[dL (by rw[e2];decide),iD (by rw[e2];decide),e2]
  rw[if_neg (by rw[beq_iff_eq];omega)]
  obtain⟨e1,e2⟩:=qv h0
  have hn:0≤b.getD 0 0∧b.getD 0 0<256:=by
    rcases b with _|⟨x,t⟩
    · exact absurd rfl h0
    · exact hr x (by simp)
  by_cases hm:may (b.getD 0 0)=true
  · rw[if_neg (by rw[hm];decide)]
    have e3:js may ⟨b,false,0⟩=⟨b.drop 1,false,0⟩:=by
      unfold js
      rw[e1,e2,hm]
      rfl
    by_cases hs:(b.length:Int)<b.getD 0 0+1
    · rw[if_pos (by simpa using hs)]
      have hf:(ah.mk (b.drop 1) false 0).fails (b.getD 0 0)=true:=by
        unfold ah.fails
        simp only[Bool.or_eq_true,decide_eq_true_eq,List.length_drop]
        exact .inr (by omega)
      have e4:(js may ⟨b,false,0⟩).bytesC (ah.mk b false 0).byteV=⟨[],true,2⟩:=by
        rw[e1,e3]
        unfold ah.bytesC
        rw[if_pos hf]
        rfl
      unfold dF
      dsimp only
      rw[e4,dL (by decide),iD (by decide)]
    · rw[if_neg (by simpa using hs)]
      have hf:¬ (ah.mk (b.drop 1) false 0).fails (b.getD 0 0)=true:=by
        unfold ah.fails
        simp only[Bool.or_eq_true,decide_eq_true_eq,List.length_drop,not_or]
        exact⟨⟨by decide,by omega⟩,by omega⟩
      have e4:(js may ⟨b,false,0⟩).bytesC (ah.mk b false 0).byteV=⟨(b.drop 1).drop (b.getD 0 0).toNat,false,0⟩:=by
        rw[e1,e3]
        unfold ah.bytesC
        rw[if_neg hf]
      have e5:rh may ⟨b,false,0⟩=⟨cN b (b.getD 0 0),false,0⟩:=by
        unfold rh cN
        rw[e1,e3]
        unfold ah.bytesR
        rw[if_neg hf,show(b.getD 0 0+1).toNat=1+(b.getD 0 0).toNat from by omega,List.drop_take]
        rw[show 1+(b.getD 0 0).toNat-1=(b.getD 0 0).toNat from by omega]
      unfold dF dj rf
      dsimp only
      rw[e4,e5]
      by_cases hz:(aN one (cN b (b.getD 0 0)).length 0 ⟨cN b (b.getD 0 0),false,0⟩ []).1.e=0
      · rw[hz,if_neg (by decide)]
        have e6:(ah.mk ((b.drop 1).drop (b.getD 0 0).toNat) false 0).need ((0:Int)==0) (bo 0)=⟨(b.drop 1).drop (b.getD 0 0).toNat,false,0⟩:=rfl
        rw[e6]
        by_cases hl:b.getD 0 0+1<(b.length:Int)
        · rw[if_pos (by simpa using hl)]
          have e7:(ah.mk ((b.drop 1).drop (b.getD 0 0).toNat) false 0).endC=⟨(b.drop 1).drop (b.getD 0 0).toNat,false,3⟩:=by
            unfold ah.endC ah.need
            rw[if_pos ⟨rfl,by rw[beq_eq_false_iff_ne];simp only[List.length_drop];omega⟩]
          unfold aF
          rw[e7,if_neg (show ¬ (3:Int)=0 from by decide)]
        · rw[if_neg (by simpa using hl)]
          have e7:(ah.mk ((b.drop 1).drop (b.getD 0 0).toNat) false 0).endC=⟨(b.drop 1).drop (b.getD 0 0).toNat,false,0⟩:=by
            unfold ah.endC ah.need
            rw[if_neg (by rintro⟨_,h⟩;rw[beq_eq_false_iff_ne] at h;simp only[List.length_drop] at h;omega)]
          unfold aF
          rw[e7,if_pos rfl]
      · rw[if_pos (by simpa using hz)]
        have hw:bo (aN one (cN b (b.getD 0 0)).length 0 ⟨cN b (b.getD 0 0),false,0⟩ []).1.e≠0:=by
          unfold bo
          split
          · decide
          · exact hz
        have e6:(ah.mk ((b.drop 1).drop (b.getD 0 0).toNat) false 0).need ((aN one (cN b (b.getD 0 0)).length 0 ⟨cN b (b.getD 0 0),false,0⟩ []).1.e==0) (bo (aN one (cN b (b.getD 0 0)).length 0 ⟨cN b (b.getD 0 0),false,0⟩ []).1.e)=⟨(b.drop 1).drop (b.getD 0 0).toNat,false,bo (aN one (cN b (b.getD 0 0)).length 0 ⟨cN b (b.getD 0 0),false,0⟩ []).1.e⟩:=by
          unfold ah.need
          rw[if_pos ⟨rfl,by simpa using hz⟩]
        rw[e6,iD hw]
  · have hm:may (b.getD 0 0)=false:=by simpa using hm
    rw[if_pos (by rw[hm];rfl)]
    have e3:js may ⟨b,false,0⟩=⟨b.drop 1,false,5⟩:=by
      unfold js
      rw[e1,e2,hm]
      rfl
    have e4:((js may ⟨b,false,0⟩).bytesC (ah.mk b false 0).byteV).e=5:=by
      rw[e3]
      unfold ah.bytesC
      split
      · rfl
      · rfl
    unfold dF
    dsimp only
    rw[dL (by rw[e4];decide),iD (by rw[e4];decide),e4]
theorem mU{b:List Int}(hr:∀ x,x∈b→0≤x∧x<256) : ae aY 0 20 b=bH cL e8 20 b:=ia hr
theorem nq{b:List Int}(hr:∀ x,x∈b→0≤x∧x<256) : ae aY 1 20 b=bH bG dW 20 b:=ia hr
theorem pE{dir:Int}{b:List Int}(hd:dir=0∨dir=1)(hr:∀ x,x∈b→0≤x∧x<256) : ae aY dir 21 b=bH cI dY 21 b:=by
  unfold ae
  rw[if_pos hd]
  exact ia hr
theorem rp:∀ n:Nat,n<256→(decide (1≤(n:Int)%128)&&decide ((n:Int)%128≤3))=bX (n:Int):=by decide +kernel
theorem tS{x:Int}(h:0≤x∧x<256) : (decide (1≤x%128)&&decide (x%128≤3))=bX x:=by
  obtain⟨n,rfl⟩:=Int.eq_ofNat_of_zero_le h.1
  exact rp n (by omega)
theorem t5{x:Int}:(decide (0<x)&&decide (x<5))=(decide (1≤x)&&decide (x≤4)):=by
  rw[Bool.eq_iff_iff]
  simp only[Bool.and_eq_true,decide_eq_true_eq]
  omega
def dQ (C:ah) : ah:=((dm C).bytesC 1).need (decide (0<(dm C).byteV)&&decide ((dm C).byteV<5)) 6
theorem ra(C:ah) : dQ C=fz C:=by unfold dQ fz;rw[t5]
def ei (C:ah) : ah:=(C.bytesC 1).need (decide (1≤C.byteV%128)&&decide (C.byteV%128≤3)) 6
def eL (C:ah) : ah:=((ei C).bytesC 1).need ((ei C).byteV==0 || (ei C).byteV==255) 6
def eJ (C:ah) : ah:=((eL C).bytesC 1).need ((eL C).byteV==0 || (ei C).byteV==255) 6
def fx (kd:Int)(C:ah) : ah:=((eJ C).bytesC 1).need ((eJ C).byteV==1 || kd != 4) 5
def cZ (kd:Int)(C:ah) : ah × List Obj:=ee (eJ C).byteV.toNat (fx kd C) []
theorem jc{C:ah}(h:gP C) : ei C=jL C:=by unfold ei jL;rw[tS (gC h)]
theorem lT{C:ah}(h:gP C) : eL C=jG C:=by unfold eL jG;rw[jc h]
theorem pA{C:ah}(h:gP C) : eJ C=pV C:=by
  unfold eJ pV
  rw[lT h,jc h]
  by_cases e:((jG C).bytesC 1).e=0
  · have h1:=(mn e).1
    unfold jG at h1
    have h2:=(qy (by decide) h1).2
    congr 1
    rw[Bool.eq_iff_iff]
    simp only[Bool.or_eq_true,beq_iff_eq,bne_iff_ne,ne_eq] at h2 ⊢
    omega
  · rw[dL e,dL e]
theorem mw{kd:Int}{C:ah}(h:gP C) : cZ kd C=ed kd C:=by
  unfold cZ ed fx u9
  rw[pA h,Bool.or_comm]
def bM (dir c:Int)(C:ah) : Option (ah × aP) :=
  if c != 43 then none
  else if C.byteV==13 then some ((dX C).bytesC ((dm C).l.length:Int),{ aP.zero with code:=43,mei:=C.byteV,data:=(dX C).bytesR ((dm C).l.length:Int) })
  else if dir==0 then some ((dQ C).bytesC 1,{ aP.zero with code:=43,mei:=C.byteV,kind:=(dm C).byteV,next:=(dQ C).byteV })
  else some ((cZ (dm C).byteV (dQ C)).1,{ aP.zero with code:=43,mei:=C.byteV,kind:=(dm C).byteV,level:=(dQ C).byteV,more:=(ei (dQ C)).byteV,next:=(eL (dQ C)).byteV,objects:=(cZ (dm C).byteV (dQ C)).2 })
theorem m7{dir c:Int}{b:List Int}(hr:∀ x,x∈b→0≤x∧x<256) : ae bM dir c b=ae bE dir c b:=by
  unfold ae
  split
  · rename_i hd
    unfold bM bE
    by_cases hc:c=43
    · subst hc
      have hD:gP (dQ ⟨b,false,0⟩):=g7 (ge (g7 (ge (C:=⟨b,false,0⟩) hr)))
      have hl:(dX ⟨b,false,0⟩).l.length=(dm ⟨b,false,0⟩).l.length:=by unfold dX;rw[iR]
      rw[if_neg (show ¬ (((43:Int)!=43)=true) from by decide),if_neg (show ¬ (((43:Int)!=43)=true) from by decide),jc hD,lT hD,mw hD,ra,hl]
      rcases hd with rfl|rfl
      · rw[if_pos (show((0:Int)==0)=true from rfl),if_neg (show ¬ ((0:Int)==1)=true from by decide)]
      · rw[if_neg (show ¬ ((1:Int)==0)=true from by decide),if_pos (show((1:Int)==1)=true from rfl)]
    · rw[if_pos (by simpa using hc),if_pos (by simpa using hc)]
  · rfl
open Go.RowKit
theorem RC.safe{w0:World}{m:Md}{A:Option Addr}{cp:Nat}{full:List Int}{w:World}{g:Nat}{C:ah}(h:RC w0 m A cp full w g C)(D:List TypeId)(hD:159∉D) : cT true D [g] w:=by
  obtain⟨k,h1,_⟩:=h.cell
  exact cT.one h1 hD
theorem RC.nrow{α:Type}{base sz n c:Nat}{e:TypeId}{R:World→α→List Value→Prop}{B:Option Addr}{xs:List α}{w0:World}{m:Md}{A:Option Addr}{cp:Nat}{full:List Int}{w:World}{g:Nat}{C:ah}(h:RC w0 m A cp full w g C)(ho:be base e sz R w (.slice B n c) xs)(ht:(159==e)=false) : g∉ob B:=by
  obtain⟨k,h1,_⟩:=h.cell
  exact dl h1 ho ht
theorem RC.fld2{w0:World}{m:Md}{A:Option Addr}{cp:Nat}{full:List Int}{w:World}{g:Nat}{C:ah}(h:RC w0 m A cp full w g C) : w.cell? ⟨g,2,none⟩=some (.bool C.sh):=by
  obtain⟨k,h1,_⟩:=h.cell
  rw[bu h1]
  rfl
def sB (w0:World)(m:Md)(A:Option Addr)(cp:Nat)(full:List Int)(g:Nat)(C':ah)(r:de)(w:World)(e:Ending)(w':World) : Prop:=e = .returned (.agg #[.int .u16 r.file,.int .u16 r.record,.int .u16 r.count,.slice none 0 0])∧dv r.file∧dv r.record∧dv r.count∧RC w0 m A cp full w' g C'∧aE [g] w w'
theorem kN{x:Int}(h : -1≤x∧x≤255) : 0≤Int.tdiv x 2∧Int.tdiv x 2≤127:=by
  by_cases h0:x = -1
  · subst h0;decide
  · rw[Int.tdiv_eq_ediv_of_nonneg (by omega)]
    omega
theorem gq{one:Int→ah→Int × ah × de}{n:Nat}{s:Int}{C:ah}{L:List de}{R:ah × List de}(h3:(C.e=0∧C.l.length≤n∧aN one n s C L=R)∨(C.e≠0∧R.1=C))(hc:0<C.l.length)(he:C.e=0)(hlt:(one s C).2.1.l.length<C.l.length) :
    ((one s C).2.1.e=0∧(one s C).2.1.l.length≤n-1∧aN one (n-1) (one s C).1 (one s C).2.1 (L++[(one s C).2.2])=R)∨((one s C).2.1.e≠0∧R.1=(one s C).2.1):=by
  rcases h3 with⟨_,hn,hR⟩|⟨h,_⟩
  · obtain⟨k,rfl⟩ : ∃ k,n=k+1:=⟨n-1,by omega⟩
    unfold aN at hR
    rw[if_pos (by rw[he];simpa using hc)] at hR
    by_cases hz:(one s C).2.1.e=0
    · rw[if_neg (by rw[hz];decide)] at hR
      exact .inl ⟨hz,by omega,hR⟩
    · rw[if_pos (by simpa using hz)] at hR
      exact .inr ⟨hz,by rw[← hR]⟩
  · exact absurd he h
theorem eQ{one:Int→ah→Int × ah × de}{n:Nat}{s:Int}{C:ah}{L:List de}{R:ah × List de}(h3:(C.e=0∧C.l.length≤n∧aN one n s C L=R)∨(C.e≠0∧R.1=C))(hq:(decide (0<((C.l.length:Nat) : Int))&&C.e==0)=false) : R.1.e=C.e∧(C.e=0→R.2=L):=by
  rcases h3 with⟨he,hn,hR⟩|⟨h,h2⟩
  · rw[fN one n s C L hq] at hR
    rw[← hR]
    exact⟨rfl,fun _=>rfl⟩
  · rw[h2]
    exact⟨rfl,fun h3=>absurd h3 h⟩
def fc (R:ah × List de)(w:World)(e:Ending)(w':World) : Prop:=∃ A2 n2 c2,e = .returned (.tuple #[.slice A2 n2 c2,.int .i64 (bo R.1.e)])∧(bo R.1.e=0→be w.heap.size 109 4 (bp true) w' (.slice A2 n2 c2) R.2)∧aE [] w w'
theorem iQ{f:FuncId}{args:Array Value}{R:ah × List de}{w:World}(h:Calls Tryz.prog f args w (fc R w))(h0:bo R.1.e=0) : Calls Tryz.prog f args w (fun e w'=>∃ v,e = .returned (.tuple #[v,.int .i64 0])∧be w.heap.size 109 4 (bp true) w' v R.2∧aE [] w w'):=by
  refine h.mono ?_
  rintro e w' ⟨A2,n2,c2,rfl,h1,h2⟩
  exact⟨_,by rw[h0],h1 h0,h2⟩
theorem i7{f:FuncId}{args:Array Value}{R:ah × List de}{w:World}(h:Calls Tryz.prog f args w (fc R w)) : Calls Tryz.prog f args w (fun e w'=>∃ A2 n2 c2,e = .returned (.tuple #[.slice A2 n2 c2,.int .i64 (bo R.1.e)])∧aE [] w w'):=by
  refine h.mono ?_
  rintro e w' ⟨A2,n2,c2,rfl,h1,h2⟩
  exact⟨A2,n2,c2,rfl,h2⟩
theorem sF{w0:World}{m:Md}{A:Option Addr}{cp:Nat}{full:List Int}{w:World}{g:Nat}{C:ah}(hC:RC w0 m A cp full w g C) : Calls Tryz.prog 218 #[.pointer (some ⟨g,0,none⟩)] w (sB w0 m A cp full g (dp C) (aL C) w):=by
 have hr:gP C:=RC.rng hC
 refine en 42 Tryz.func218 rfl<|sg<|L0<|bJ #[.int .u16 0,.int .u16 0,.int .u16 0,.slice none 0 0] fun N O b i a=>ng<|Pl 1<|?_
 refine L0<|Oc<|m3 (dC (RC.upd hC a ay (aE.step (RC.u hC) a))) fun P c j Q=>Pl 1<|ng<|Pl 4<|L0<|dZ (p:=⟨g,2,none⟩) (v:=.bool ((C.bytesC 1).sh)) (RC.fld2 c)<|Pl 1<|L0<|Oc<|m2 (aV ((!((C.bytesC 1).sh))) 5 c) fun R k l=>ng<|?_
 refine Pl 3<|L0<|Oc<|m2 (aV ((C.byteV==6)) 9 k) fun S n o=>?_
 refine f8 n fun x26 q r=>?_
 refine ng<|Pl 1<|L0<|Oc<|m3 (cK r) fun T s t U=>Pl 1<|ng<|Pl 3<|L0<|Oc<|m2 (aV ((decide (0<x26.wordV))) 6 s) fun V y z=>nl<|?_
 refine tn<|sg<|Pl 1<|L0<|Oc<|m3 (cK y) fun W B D X=>Pl 1<|ng<|Pl 3<|L0<|Oc<|m2 (aV ((decide ((((x26.wordsC 1).need (decide (0<x26.wordV)) 6).wordV)≤9999))) 7 B) fun Y E F=>?_
 refine f8 E fun x43 G H=>?_
 refine ng<|Pl 1<|L0<|Oc<|m3 (cK H) fun Z I J a0=>Pl 1<|ng<|Pl 3<|L0<|Oc<|m2 (aV ((decide (0<x43.wordV))) 5 I) fun a1 K L=>nl<|?_
 refine tn<|sg<|Pl 4<|?_
 have d:=u1 j (u1 l (u1 o (u1 t (u1 z (u1 D (u1 F (u1 J L im) im) im) im) im) im) im) im
 have e:=nb (RC.lt hC) lr b
 refine L0<|b6 (aT d (Ne.symm e) i) #[.int .u16 x26.wordV,.int .u16 (((x26.wordsC 1).need (decide (0<x26.wordV)) 6).wordV),.int .u16 x43.wordV,.slice none 0 0] fun a2 M f=>nt<|rt<|tK M<|?_
 subst G q
 have e1:dp C=(((((((((C.bytesC 1).need (!((C.bytesC 1).sh)) 5).need (C.byteV==6) 9).wordsC 1).need (decide (0<(((C.bytesC 1).need (!((C.bytesC 1).sh)) 5).need (C.byteV==6) 9).wordV)) 6).wordsC 1).need (decide (((((((C.bytesC 1).need (!((C.bytesC 1).sh)) 5).need (C.byteV==6) 9).wordsC 1).need (decide (0<(((C.bytesC 1).need (!((C.bytesC 1).sh)) 5).need (C.byteV==6) 9).wordV)) 6).wordV)≤9999)) 7).wordsC 1).need (decide (0<(((((((C.bytesC 1).need (!((C.bytesC 1).sh)) 5).need (C.byteV==6) 9).wordsC 1).need (decide (0<(((C.bytesC 1).need (!((C.bytesC 1).sh)) 5).need (C.byteV==6) 9).wordV)) 6).wordsC 1).need (decide (((((((C.bytesC 1).need (!((C.bytesC 1).sh)) 5).need (C.byteV==6) 9).wordsC 1).need (decide (0<(((C.bytesC 1).need (!((C.bytesC 1).sh)) 5).need (C.byteV==6) 9).wordV)) 6).wordV)≤9999)) 7).wordV)) 5):=by rw[← od hr];rfl
 have e2:(aL C).file=(((C.bytesC 1).need (!((C.bytesC 1).sh)) 5).need (C.byteV==6) 9).wordV:=by show(gL C).wordV=_;rw[← pB];rfl
 have e3:(aL C).record=(((((C.bytesC 1).need (!((C.bytesC 1).sh)) 5).need (C.byteV==6) 9).wordsC 1).need (decide (0<(((C.bytesC 1).need (!((C.bytesC 1).sh)) 5).need (C.byteV==6) 9).wordV)) 6).wordV:=by show(gM C).wordV=_;rw[← qU hr];rfl
 have e4:(aL C).count=(((((((C.bytesC 1).need (!((C.bytesC 1).sh)) 5).need (C.byteV==6) 9).wordsC 1).need (decide (0<(((C.bytesC 1).need (!((C.bytesC 1).sh)) 5).need (C.byteV==6) 9).wordV)) 6).wordsC 1).need (decide (((((((C.bytesC 1).need (!((C.bytesC 1).sh)) 5).need (C.byteV==6) 9).wordsC 1).need (decide (0<(((C.bytesC 1).need (!((C.bytesC 1).sh)) 5).need (C.byteV==6) 9).wordV)) 6).wordV)≤9999)) 7).wordV:=by show(lC C).wordV=_;rw[← qs hr];rfl
 have h:=ue a (us d f) b
 unfold sB
 rw[e1,e2,e3,e4]
 exact⟨rfl,aB (by omega),aB (by omega),aB (by omega),(RC.upd K f (aa e ay) (hC.u.trans' h (fun x hx=>.inr (by simp at hx;subst hx;exact hC.new)))),h⟩
theorem qV{m:Md}{A:Option Addr}{cp:Nat}{b:List Int}{w:World}(hsl:bg m w (.slice A b.length cp) b)(hb:b.length≤1048576) :
    Calls Tryz.prog 163 #[.int .i64 0,.int .u8 20,.slice A b.length cp] w (fc (aN cL b.length 0 ⟨b,false,0⟩ []) w):=by
 have hln:(b.length:Int)≤1048576:=by omega
 refine en 108 Tryz.func163 rfl<|sg<|Pl 2<|ng<|Pl 2<|L0<|dt #[.slice A b.length cp,.int .i64 0,.bool false,.int .i64 0] fun d U E a8 F=>Pl 1<|nt<|sq<|?_
 refine go<|Pl 1<|ng<|Pl 1<|nt<|sq<|bk<|?_
 have V:RC w _ A cp b U d (ah.mk b false 0):=⟨hsl,F,E,⟨0,a8,Nat.zero_le _,rfl⟩,by omega⟩
 refine jw (fun x=>[(0,.int .i64 0),(1,.int .u8 20),(6,.slice none 0 0),(7,.int .i64 0),(8,.pointer (some ⟨d,0,none⟩)),(9,.slice x.2.2.2.1 x.2.2.1.length x.2.2.2.2.1),(10,.int .i64 x.2.2.2.2.2)]) (fun(x:Nat × ah × List de × Option Addr × Nat × Int) w'=>aE [] w w'∧U.heap.size≤w'.heap.size∧RC w m A cp b w' d x.2.1∧be w.heap.size 109 4 (bp true) w' (.slice x.2.2.2.1 x.2.2.1.length x.2.2.2.2.1) x.2.2.1∧(0≤x.2.2.2.2.2)∧(x.2.1.e=0→x.2.2.2.2.2≤245)∧(x.2.2.1.length+x.2.1.l.length≤b.length)∧((x.2.1.e=0∧x.2.1.l.length≤x.1∧aN cL x.1 x.2.2.2.2.2 x.2.1 x.2.2.1=aN cL b.length 0 ⟨b,false,0⟩ [])∨(x.2.1.e≠0∧(aN cL b.length 0 ⟨b,false,0⟩ []).1=x.2.1))) (fun x=>x.2.1.l.length) (b.length,(ah.mk b false 0),[],none,0,0) ⟨F,lr,V,(be.nil w.heap.size _ _ (bp true) _),(by(try dsimp only);omega),(fun _=>(show(0:Int)≤245 from by decide)),(by(try dsimp only);simp),.inl ⟨rfl,Nat.le_refl _,rfl⟩⟩ ?_
 rintro⟨n,C,L,B,cq,s⟩ W ⟨a9,G,ab,ad,ae,af,ag,ai⟩
 refine jr [(0,.int .i64 0),(1,.int .u8 20),(6,.slice none 0 0),(7,.int .i64 0),(8,.pointer (some ⟨d,0,none⟩)),(9,.slice B L.length cq),(10,.int .i64 s)] ?_
 have a:RC w m A cp b W d C:=ab
 have hlC:=RC.clen a
 have hrC:gP C:=RC.rng a
 have i:be w.heap.size 109 4 (bp true) W (.slice B L.length cq) L:=ad
 have aP:0≤s:=ae
 have aQ:C.e=0→s≤245:=af
 have aW:L.length+C.l.length≤b.length:=ag
 have H:(C.e=0∧C.l.length≤n∧aN cL n s C L=aN cL b.length 0 ⟨b,false,0⟩ [])∨(C.e≠0∧(aN cL b.length 0 ⟨b,false,0⟩ []).1=C):=ai
 refine sq<|sg<|Pl 1<|L0<|Oc<|m1 (gB a) fun aX c=>?_
 have aY:=RC.clen a
 refine Pl 2<|cu 6 [20] 26 (((decide (0<((C.l.length:Nat) : Int)))&&(C.e==0))) (fun K X=>?_) ?_
 refine bl 20 ((decide (0<((C.l.length:Nat) : Int)))) (fun j=>?_) (fun j=>?_)
 have aj:=of_decide_eq_true j
 refine Pl 3<|?_
 exact L1<|dZ (p:=⟨d,3,none⟩) (v:=.int .i64 C.e) (RC.fld (RC.upd a c ay (aE.step (RC.u a) c)))<|Pl 2<|ce X (C.e==0) (by rw[j];rfl)
 have aj:=of_decide_eq_false j
 exact Pl 6<|ce X false (by rw[j];rfl)
 refine nt<|?_
 have I:=aI a9 c
 refine cb (((decide (0<((C.l.length:Nat) : Int)))&&(C.e==0))) (fun f=>?_) (fun f=>?_)
 have J:=(aS f).1
 have M:=(aS f).2
 have aZ:=of_decide_eq_true J
 have b0:=al M
 refine bq<|bk<|sg<|Pl 1<|L0<|bJ #[.int .u16 0,.int .u16 0,.int .u16 0,.slice none 0 0] fun b1 b2 k ak N=>L0<|b6 ak #[.int .u16 0,.int .u16 0,.int .u16 0,.slice none 0 0] fun b3 an O=>nt<|sq<|sg<|Pl 6<|nl<|?_
 refine tn<|c0<|sg<|Pl 1<|?_
 have Y:=ud N O k
 have r:=aI c Y
 refine L0<|Oc<|m5 (sF (RC.upd a r ay (aE.step (RC.u a) r))) fun b4 ao aq ar aw t=>?_
 obtain⟨b5,b7⟩:=ao
 obtain⟨b8,b9⟩:=aq
 obtain⟨ba,bb⟩:=ar
 have P:=nb (RC.lt V) (le G c.size) k
 refine L0<|b6 (aT t (Ne.symm P) an) #[.int .u16 ((aL C).file),.int .u16 ((aL C).record),.int .u16 ((aL C).count),.slice none 0 0] fun bc Z y=>ng<|Pl 2<|nt<|c0<|sg<|Pl 1<|L0<|Oi (s+2)<|Pl 1<|L0<|aR Z 2<|?_
 refine L0<|Oi ((aL C).count)<|L0<|Oi (2*((aL C).count))<|L0<|Oi ((s+2)+(2*((aL C).count)))<|Pl 1<|nt<|go<|Pl 3<|?_
 have Q:=us t y
 have a0:=ud I (ue Y Q k) E
 refine L0<|Oc<|m2 (aV ((decide (((s+2)+(2*((aL C).count)))≤245))) 5 (RC.upd aw y (aa P ay) a0)) fun bd az o=>?_
 refine f8 az fun x68 aA a1=>?_
 refine nt<|go<|Pl 1<|?_
 refine L0<|cj (aT o (Ne.symm P) Z)<|L0<|dy (m:=1) (e:=109) #[.int .u16 ((aL C).file),.int .u16 ((aL C).record),.int .u16 ((aL C).count),.slice none 0 0] fun bf bj bm aD z=>?_
 have aF:=iw (R:=bp true) (x:=(de.mk ((aL C).file) ((aL C).record) ((aL C).count) ([]))) aD rfl ⟨_,rfl,(aK.nil true _ _ _ _),aB (x:=(aL C).file) (by omega),aB (x:=(aL C).record) (by omega),aB (x:=(aL C).count) (by omega)⟩
 have a2:=aI o z
 have a3:=ue r (u1 Q a2 im) (le c.size k)
 have a4:=ax i a3 (fun x hx=>(aa (fun e=>(RC.nrow a i (by decide)) (e▸hx)) ay)) (bp.upd16 a3 (am (RC.safe a _ (by decide)) aG))
 refine L0<|fS (xs:=L) (ys:=([(de.mk ((aL C).file) ((aL C).record) ((aL C).count) ([]))])) (.agg #[.int .u16 0,.int .u16 0,.int .u16 0,.slice none 0 0]) 4 32 a4 aF (by simp) bp.ones (fun w' hv=>bp.upd16 hv (cJ (da _ a4 (by decide)) aG)) (by(try simp only[List.length_append,List.length_cons,List.length_nil,aC]);omega) (le (le (le (le (le (le (le (le F.size G) c.size) N.size) O.size) t.size) y.size) o.size) z.size) fun aH aJ br aM S=>Pl 1<|nl<|bn<|?_
 subst aA
 have hC2:(cL s C).2.1=((dp C).need (decide (((s+2)+(2*((aL C).count)))≤245)) 5):=by show ep s C=_;(try simp only[ep,ef,← Int.add_assoc,f,J,M,bs,if_true,if_false,decide_true,decide_false]);all_goals rfl
 have hM2:[(cL s C).2.2]=[(de.mk ((aL C).file) ((aL C).record) ((aL C).count) ([]))]:=by show[aL C]=_;(try simp only[ep,ef,← Int.add_assoc,f,J,M,bs,if_true,if_false,decide_true,decide_false]);all_goals rfl
 have hS2:(cL s C).1=((s+2)+(2*((aL C).count))):=by(try (show ef s C=_));(try simp only[ef,← Int.add_assoc]);all_goals rfl
 have hlt:=o4 s C (by omega)
 have h9:=gq (one:=cL) H (by omega) (by omega) hlt
 rw[hC2,hM2,hS2] at h9
 rw[hC2] at hlt
 have a5:=ut a0 (ut (aE.mono (S':=(d :: (ob B++[]))) a2 (ac im au)) S (av il au)) (ac (nr E) (av (aU i lr) au))
 have a6:=ue r (u1 Q o im) (le c.size k)
 exact gt ((n-1),((dp C).need (decide (((s+2)+(2*((aL C).count)))≤245)) 5),(L++[(de.mk ((aL C).file) ((aL C).record) ((aL C).count) ([]))]),aH,aJ,((s+2)+(2*((aL C).count)))) ⟨a5,(le (le (le (le (le (le (le (le G c.size) N.size) O.size) t.size) y.size) o.size) z.size) S.size),(RC.upd a1 (ut (aE.mono (S':=(ob B++[])) z au) S (av il au)) (bi (RC.nrow a1 (ax i a6 (fun x hx=>(aa (fun e=>(RC.nrow a i (by decide)) (e▸hx)) ay)) (bp.upd16 a6 (am (RC.safe a _ (by decide)) aG))) (by decide)) ay) a5),aM,(by(try dsimp only);omega),(by(try dsimp only);intro he;have hk:=(qy (by decide) he).2;simp only[decide_eq_true_eq] at hk;omega),(by(try dsimp only);simp only[List.length_append,List.length_cons,List.length_nil];omega),h9⟩ (by omega)
 refine xt<|tx<|tx<|bx<|tn<|sq<|sg<|Pl 3<|?_
 have T:=RC.upd a c ay (aE.step (RC.u a) c)
 refine L0<|dZ (p:=⟨d,3,none⟩) (v:=.int .i64 C.e) (RC.fld T)<|Pl 1<|nt<|cb ((C.e==2)) (fun q=>?_) (fun q=>?_)
 have aO:=al q
 refine sg<|Pl 2<|nt<|rt<|tr<|rr (.tuple #[.slice none 0 0,.int .i64 5])<|?_
 obtain⟨gL,gM⟩:=eQ H f
 have hw:bo (aN cL b.length 0 ⟨b,false,0⟩ []).1.e=5:=by unfold bo;rw[gL,if_pos q]
 refine⟨none,0,0,by rw[hw],fun h=>absurd (hw.symm.trans h) (by decide),I⟩
 have aO:=ap q
 refine bq<|sq<|Rg 7 (fun w'=>w'.cell? ⟨d,3,none⟩=some (.int .i64 C.e)) fun bt D=>?_
 refine bh (RC.fld (RC.upd T D ay (aE.step (RC.u T) D))) fun g=>Rt 0 g<|Rt 1 g<|Rt 2 g<|Rt 3 g<|Rl 4 g (fun _ hs=>hs)<|Rt 5 g<|Rt 6 g<|re<|tn<|rt<|rr (.tuple #[.slice B L.length cq,.int .i64 C.e])<|?_
 obtain⟨gL,gM⟩:=eQ H f
 have hw:bo (aN cL b.length 0 ⟨b,false,0⟩ []).1.e=C.e:=by unfold bo;rw[gL,if_neg (by rw[q];decide)]
 have a7:=aI c D
 refine⟨_,_,_,by rw[hw],fun h=>by rw[gM (hw.symm.trans h)];exact(ax i a7 (fun x hx=>ay) (bp.upd16 a7 aG)),(aI I D)⟩
theorem pU{m:Md}{A:Option Addr}{cp:Nat}{b:List Int}{w:World}(hsl:bg m w (.slice A b.length cp) b)(hb:b.length≤1048576) :
    Calls Tryz.prog 163 #[.int .i64 1,.int .u8 20,.slice A b.length cp] w (fc (aN bG b.length 0 ⟨b,false,0⟩ []) w):=by
 have hln:(b.length:Int)≤1048576:=by omega
 refine en 108 Tryz.func163 rfl<|sg<|Pl 2<|ng<|Pl 2<|L0<|dt #[.slice A b.length cp,.int .i64 0,.bool false,.int .i64 0] fun f ag M b9 N=>Pl 1<|nt<|sq<|?_
 refine go<|Pl 1<|ng<|Pl 1<|nt<|sq<|bk<|?_
 have Z:RC w _ A cp b ag f (ah.mk b false 0):=⟨hsl,N,M,⟨0,b9,Nat.zero_le _,rfl⟩,by omega⟩
 refine jw (fun x=>[(0,.int .i64 1),(1,.int .u8 20),(6,.slice none 0 0),(7,.int .i64 0),(8,.pointer (some ⟨f,0,none⟩)),(9,.slice x.2.2.2.1 x.2.2.1.length x.2.2.2.2.1),(10,.int .i64 x.2.2.2.2.2)]) (fun(x:Nat × ah × List de × Option Addr × Nat × Int) w'=>aE [] w w'∧ag.heap.size≤w'.heap.size∧RC w m A cp b w' f x.2.1∧be w.heap.size 109 4 (bp true) w' (.slice x.2.2.2.1 x.2.2.1.length x.2.2.2.2.1) x.2.2.1∧(0≤x.2.2.2.2.2)∧(x.2.1.e=0→x.2.2.2.2.2≤245)∧(x.2.2.1.length+x.2.1.l.length≤b.length)∧((x.2.1.e=0∧x.2.1.l.length≤x.1∧aN bG x.1 x.2.2.2.2.2 x.2.1 x.2.2.1=aN bG b.length 0 ⟨b,false,0⟩ [])∨(x.2.1.e≠0∧(aN bG b.length 0 ⟨b,false,0⟩ []).1=x.2.1))) (fun x=>x.2.1.l.length) (b.length,(ah.mk b false 0),[],none,0,0) ⟨N,lr,Z,(be.nil w.heap.size _ _ (bp true) _),(by(try dsimp only);omega),(fun _=>(show(0:Int)≤245 from by decide)),(by(try dsimp only);simp),.inl ⟨rfl,Nat.le_refl _,rfl⟩⟩ ?_
 rintro⟨n,C,L,B,cq,s⟩ ai ⟨ba,r,bb,bc,bd,bf,bj,bm⟩
 refine jr [(0,.int .i64 1),(1,.int .u8 20),(6,.slice none 0 0),(7,.int .i64 0),(8,.pointer (some ⟨f,0,none⟩)),(9,.slice B L.length cq),(10,.int .i64 s)] ?_
 have a:RC w m A cp b ai f C:=bb
 have hlC:=RC.clen a
 have hrC:gP C:=RC.rng a
 have d:be w.heap.size 109 4 (bp true) ai (.slice B L.length cq) L:=bc
 have bY:0≤s:=bd
 have bZ:C.e=0→s≤245:=bf
 have c0:L.length+C.l.length≤b.length:=bj
 have O:(C.e=0∧C.l.length≤n∧aN bG n s C L=aN bG b.length 0 ⟨b,false,0⟩ [])∨(C.e≠0∧(aN bG b.length 0 ⟨b,false,0⟩ []).1=C):=bm
 refine sq<|sg<|Pl 1<|L0<|Oc<|m1 (gB a) fun c2 c=>?_
 have c3:=RC.clen a
 refine Pl 2<|cu 6 [20] 26 (((decide (0<((C.l.length:Nat) : Int)))&&(C.e==0))) (fun K aj=>?_) ?_
 refine bl 20 ((decide (0<((C.l.length:Nat) : Int)))) (fun z=>?_) (fun z=>?_)
 have br:=of_decide_eq_true z
 refine Pl 3<|?_
 exact L1<|dZ (p:=⟨f,3,none⟩) (v:=.int .i64 C.e) (RC.fld (RC.upd a c ay (aE.step (RC.u a) c)))<|Pl 2<|ce aj (C.e==0) (by rw[z];rfl)
 have br:=of_decide_eq_false z
 exact Pl 6<|ce aj false (by rw[z];rfl)
 refine nt<|?_
 have D:=aI ba c
 refine cb (((decide (0<((C.l.length:Nat) : Int)))&&(C.e==0))) (fun g=>?_) (fun g=>?_)
 have E:=(aS g).1
 have F:=(aS g).2
 have c4:=of_decide_eq_true E
 have c5:=al F
 refine bq<|bk<|sg<|Pl 1<|L0<|bJ #[.int .u16 0,.int .u16 0,.int .u16 0,.slice none 0 0] fun P c6 j a0 G=>L0<|b6 a0 #[.int .u16 0,.int .u16 0,.int .u16 0,.slice none 0 0] fun c7 an k=>nt<|sq<|sg<|Pl 6<|nl<|?_
 refine tn<|c1<|sg<|Pl 1<|?_
 have ao:=ud G k j
 have t:=aI c ao
 refine L0<|Oc<|m3 (dC (RC.upd a t ay (aE.step (RC.u a) t))) fun c8 H i c9=>L0<|Oi C.byteV<|Pl 1<|ng<|Pl 2<|L0<|Oe (.int .i64 (Int.tmod C.byteV 2)) (.int .i64 (C.byteV%2)) (congrArg (Value.int .i64) (Int.tmod_eq_emod_of_nonneg (by omega)))<|Pl 2<|cu 3 [41] 44 ((((C.byteV%2)==1)&&(decide (3≤C.byteV)))) (fun K aq=>?_) ?_
 refine bl 41 (((C.byteV%2)==1)) (fun I=>?_) (fun I=>?_)
 have bt:=al I
 exact Pl 3<|ce aq (decide (3≤C.byteV)) (by rw[I];rfl)
 have bt:=ap I
 exact Pl 3<|ce aq false (by rw[I];rfl)
 refine Pl 1<|?_
 have ar:=ud D (uz ao i) M
 refine bl 45 ((((C.byteV%2)==1)&&(decide (3≤C.byteV)))) (fun o=>?_) (fun o=>?_)
 have a1:=(aS o).1
 have a2:=(aS o).2
 have ca:=al a1
 have cc:=of_decide_eq_true a2
 refine Pl 2<|L1<|Oc<|m1 (gB H) fun cd y=>?_
 have cf:=RC.clen H
 refine Pl 2<|?_
 refine L0<|Oc<|m2 (aV ((decide (C.byteV≤(((C.bytesC 1).l.length:Nat) : Int)))) 5 (RC.upd H y ay (aE.step (RC.u H) y))) fun cg bu Q=>?_
 refine f8 bu fun x66 bv bw=>?_
 refine ng<|Pl 1<|L0<|Oc<|m3 (dC bw) fun ch bz S ci=>Pl 1<|ng<|Pl 3<|L0<|Oc<|m2 (aV ((x66.byteV==6)) 9 bz) fun ck bA T=>nl<|?_
 refine tn<|go<|Pl 2<|L0<|Oi (C.byteV-1)<|?_
 have cl:=kN (x:=(C.byteV-1)) (by omega)
 refine L0<|Oe (.int .i64 (IntKind.i64.wrap (Int.tdiv (C.byteV-1) 2))) (.int .i64 (Int.tdiv (C.byteV-1) 2)) (congrArg (Value.int .i64) (jq (by omega) (by omega)))<|L0<|Oc<|ly (fj (n:=(Int.tdiv (C.byteV-1) 2)) (by omega) bA) fun aw az cm aD cn co bB a3=>?_
 refine f8 bB fun x82 bC aF=>?_
 refine Pl 1<|?_
 have aH:=uz y (u1 Q (u1 S (u1 T a3 im) im) im)
 have a4:=u1 i aH im
 have aJ:=nb (RC.lt Z) (le r c.size) j
 refine L0<|bU (aT a4 (Ne.symm aJ) an) 3 #[.int .u16 0,.int .u16 0,.int .u16 0,.slice aw ((((x66.bytesC 1).need (x66.byteV==6) 9).wordsR (Int.tdiv (C.byteV-1) 2)).length) az] fun cr bD a5=>nt<|go<|Pl 1<|L0<|cj bD<|L0<|dy (m:=1) (e:=109) #[.int .u16 0,.int .u16 0,.int .u16 0,.slice aw ((((x66.bytesC 1).need (x66.byteV==6) 9).wordsR (Int.tdiv (C.byteV-1) 2)).length) az] fun cs ct cv bE a6=>?_
 have a7:=aI a5 a6
 have bF:=iw (R:=bp true) (x:=(de.mk 0 0 0 (((x66.bytesC 1).need (x66.byteV==6) 9).wordsR (Int.tdiv (C.byteV-1) 2)))) bE rfl ⟨_,rfl,((ax aD a7 (fun x hx=>(aa (fun e=>(aA (ak a0) (le (le (le (le (le k.size i.size) y.size) Q.size) S.size) T.size) aD) (e▸hx)) ay)) (fun _ _ h=>h))).rd,aB (x:=0) (by omega),aB (x:=0) (by omega),aB (x:=0) (by omega)⟩
 have aK:=ue t (us a4 a7) (le c.size j)
 have aL:=ax d aK (fun x hx=>(aa (fun e=>(RC.nrow a d (by decide)) (e▸hx)) ay)) (bp.upd16 aK (am (RC.safe a _ (by decide)) aG))
 refine L0<|fS (xs:=L) (ys:=([(de.mk 0 0 0 (((x66.bytesC 1).need (x66.byteV==6) 9).wordsR (Int.tdiv (C.byteV-1) 2)))])) (.agg #[.int .u16 0,.int .u16 0,.int .u16 0,.slice none 0 0]) 4 32 aL bF (by simp) bp.ones (fun w' hv=>bp.upd16 hv (cJ (da _ aL (by decide)) aG)) (by(try simp only[List.length_append,List.length_cons,List.length_nil,aC]);omega) (le (le (le (le (le (le (le (le (le (le (le (le N.size r) c.size) G.size) k.size) i.size) y.size) Q.size) S.size) T.size) a3.size) a5.size) a6.size) fun bH bI cw bK aM=>Pl 1<|nl<|bn<|?_
 subst bC bv
 have hC2:(bG s C).2.1=(((((C.bytesC 1).need (decide (C.byteV≤(((C.bytesC 1).l.length:Nat) : Int))) 5).bytesC 1).need (((C.bytesC 1).need (decide (C.byteV≤(((C.bytesC 1).l.length:Nat) : Int))) 5).byteV==6) 9).wordsC (Int.tdiv (C.byteV-1) 2)):=by show ew C=_;(try simp only[ew,eh,gv,gy,g,E,F,o,a1,a2,bs,if_true,if_false,decide_true,decide_false]);all_goals rfl
 have hM2:[(bG s C).2.2]=[(de.mk 0 0 0 (((((C.bytesC 1).need (decide (C.byteV≤(((C.bytesC 1).l.length:Nat) : Int))) 5).bytesC 1).need (((C.bytesC 1).need (decide (C.byteV≤(((C.bytesC 1).l.length:Nat) : Int))) 5).byteV==6) 9).wordsR (Int.tdiv (C.byteV-1) 2)))]:=by show[eh C]=_;(try simp only[ew,eh,gv,gy,g,E,F,o,a1,a2,bs,if_true,if_false,decide_true,decide_false]);all_goals rfl
 have hS2:(bG s C).1=s:=by(try (show s=_));(try simp only[ef,← Int.add_assoc]);all_goals rfl
 have hlt:=iP s C (by omega)
 have h9:=gq (one:=bG) O (by omega) (by omega) hlt
 rw[hC2,hM2,hS2] at h9
 rw[hC2] at hlt
 have aO:=ut (aE.mono (S':=(P :: (ob B++[]))) a7 (ac im au)) aM (av il au)
 have aP:=ut ar (ut (aE.mono (S':=(f :: (P :: (ob B++[])))) aH (ac im au)) aO (ac im (av il au))) (ac (nr M) (ac (ni D.size j) (av (aU d lr) au)))
 have aQ:=uz t a4
 exact gt ((n-1),(((((C.bytesC 1).need (decide (C.byteV≤(((C.bytesC 1).l.length:Nat) : Int))) 5).bytesC 1).need (((C.bytesC 1).need (decide (C.byteV≤(((C.bytesC 1).l.length:Nat) : Int))) 5).byteV==6) 9).wordsC (Int.tdiv (C.byteV-1) 2)),(L++[(de.mk 0 0 0 (((((C.bytesC 1).need (decide (C.byteV≤(((C.bytesC 1).l.length:Nat) : Int))) 5).bytesC 1).need (((C.bytesC 1).need (decide (C.byteV≤(((C.bytesC 1).l.length:Nat) : Int))) 5).byteV==6) 9).wordsR (Int.tdiv (C.byteV-1) 2)))]),bH,bI,s) ⟨aP,(le (le (le (le (le (le (le (le (le (le (le (le r c.size) G.size) k.size) i.size) y.size) Q.size) S.size) T.size) a3.size) a5.size) a6.size) aM.size),(RC.upd aF aO (aa aJ (bi (RC.nrow aF (ax d aQ (fun x hx=>(aa (fun e=>(RC.nrow a d (by decide)) (e▸hx)) ay)) (bp.upd16 aQ (am (RC.safe a _ (by decide)) aG))) (by decide)) ay)) aP),bK,(by(try dsimp only);omega),(by(try dsimp only);intro he;omega),(by(try dsimp only);simp only[List.length_append,List.length_cons,List.length_nil];omega),h9⟩ (by omega)
 refine Pl 5<|L0<|Oc<|m2 (aV (false) 5 H) fun cx bL U=>ng<|Pl 1<|L0<|Oc<|m3 (dC bL) fun cy bM V cz=>Pl 1<|ng<|Pl 3<|L0<|Oc<|m2 (aV (((((C.bytesC 1).need false 5).byteV)==6)) 9 bM) fun cA bN W=>?_
 refine f8 bN fun X bO bP=>?_
 refine nt<|go<|Pl 2<|L0<|Oi (C.byteV-1)<|?_
 have cB:=kN (x:=(C.byteV-1)) (by omega)
 refine L0<|Oe (.int .i64 (IntKind.i64.wrap (Int.tdiv (C.byteV-1) 2))) (.int .i64 (Int.tdiv (C.byteV-1) 2)) (congrArg (Value.int .i64) (jq (by omega) (by omega)))<|L0<|Oc<|ly (fj (n:=(Int.tdiv (C.byteV-1) 2)) (by omega) bP) fun aR aW cC aX cD cE aY a8=>Pl 1<|?_
 have aZ:=u1 U (u1 V (u1 W a8 im) im) im
 have a9:=u1 i aZ im
 have b0:=nb (RC.lt Z) (le r c.size) j
 refine L0<|bU (aT a9 (Ne.symm b0) an) 3 #[.int .u16 0,.int .u16 0,.int .u16 0,.slice aR ((X.wordsR (Int.tdiv (C.byteV-1) 2)).length) aW] fun cF bQ ab=>nt<|go<|Pl 1<|L0<|cj bQ<|L0<|dy (m:=1) (e:=109) #[.int .u16 0,.int .u16 0,.int .u16 0,.slice aR ((X.wordsR (Int.tdiv (C.byteV-1) 2)).length) aW] fun cG cH cI bR ad=>?_
 have ae:=aI ab ad
 have bS:=iw (R:=bp true) (x:=(de.mk 0 0 0 (X.wordsR (Int.tdiv (C.byteV-1) 2)))) bR rfl ⟨_,rfl,((ax aX ae (fun x hx=>(aa (fun e=>(aA (ak a0) (le (le (le (le k.size i.size) U.size) V.size) W.size) aX) (e▸hx)) ay)) (fun _ _ h=>h))).rd,aB (x:=0) (by omega),aB (x:=0) (by omega),aB (x:=0) (by omega)⟩
 have b1:=ue t (us a9 ae) (le c.size j)
 have b2:=ax d b1 (fun x hx=>(aa (fun e=>(RC.nrow a d (by decide)) (e▸hx)) ay)) (bp.upd16 b1 (am (RC.safe a _ (by decide)) aG))
 refine L0<|fS (xs:=L) (ys:=([(de.mk 0 0 0 (X.wordsR (Int.tdiv (C.byteV-1) 2)))])) (.agg #[.int .u16 0,.int .u16 0,.int .u16 0,.slice none 0 0]) 4 32 b2 bS (by simp) bp.ones (fun w' hv=>bp.upd16 hv (cJ (da _ b2 (by decide)) aG)) (by(try simp only[List.length_append,List.length_cons,List.length_nil,aC]);omega) (le (le (le (le (le (le (le (le (le (le (le N.size r) c.size) G.size) k.size) i.size) U.size) V.size) W.size) a8.size) ab.size) ad.size) fun bT bV cK bW b3=>Pl 1<|nl<|bn<|?_
 subst bO
 have hC2:(bG s C).2.1=(((((C.bytesC 1).need false 5).bytesC 1).need ((((C.bytesC 1).need false 5).byteV)==6) 9).wordsC (Int.tdiv (C.byteV-1) 2)):=by show ew C=_;(try simp only[ew,eh,gv,gy,g,E,F,o,bs,if_true,if_false,decide_true,decide_false]);all_goals rfl
 have hM2:[(bG s C).2.2]=[(de.mk 0 0 0 (((((C.bytesC 1).need false 5).bytesC 1).need ((((C.bytesC 1).need false 5).byteV)==6) 9).wordsR (Int.tdiv (C.byteV-1) 2)))]:=by show[eh C]=_;(try simp only[ew,eh,gv,gy,g,E,F,o,bs,if_true,if_false,decide_true,decide_false]);all_goals rfl
 have hS2:(bG s C).1=s:=by(try (show s=_));(try simp only[ef,← Int.add_assoc]);all_goals rfl
 have hlt:=iP s C (by omega)
 have h9:=gq (one:=bG) O (by omega) (by omega) hlt
 rw[hC2,hM2,hS2] at h9
 rw[hC2] at hlt
 have b4:=ut (aE.mono (S':=(P :: (ob B++[]))) ae (ac im au)) b3 (av il au)
 have b5:=ut ar (ut (aE.mono (S':=(f :: (P :: (ob B++[])))) aZ (ac im au)) b4 (ac im (av il au))) (ac (nr M) (ac (ni D.size j) (av (aU d lr) au)))
 have b7:=uz t a9
 exact gt ((n-1),(((((C.bytesC 1).need false 5).bytesC 1).need ((((C.bytesC 1).need false 5).byteV)==6) 9).wordsC (Int.tdiv (C.byteV-1) 2)),(L++[(de.mk 0 0 0 (((((C.bytesC 1).need false 5).bytesC 1).need ((((C.bytesC 1).need false 5).byteV)==6) 9).wordsR (Int.tdiv (C.byteV-1) 2)))]),bT,bV,s) ⟨b5,(le (le (le (le (le (le (le (le (le (le (le r c.size) G.size) k.size) i.size) U.size) V.size) W.size) a8.size) ab.size) ad.size) b3.size),(RC.upd aY b4 (aa b0 (bi (RC.nrow aY (ax d b7 (fun x hx=>(aa (fun e=>(RC.nrow a d (by decide)) (e▸hx)) ay)) (bp.upd16 b7 (am (RC.safe a _ (by decide)) aG))) (by decide)) ay)) b5),bW,(by(try dsimp only);omega),(by(try dsimp only);intro he;omega),(by(try dsimp only);simp only[List.length_append,List.length_cons,List.length_nil];omega),h9⟩ (by omega)
 refine xt<|tx<|tx<|bx<|tn<|sq<|sg<|Pl 3<|?_
 have af:=RC.upd a c ay (aE.step (RC.u a) c)
 refine L0<|dZ (p:=⟨f,3,none⟩) (v:=.int .i64 C.e) (RC.fld af)<|Pl 1<|nt<|cb ((C.e==2)) (fun J=>?_) (fun J=>?_)
 have bX:=al J
 refine sg<|Pl 2<|nt<|rt<|tr<|rr (.tuple #[.slice none 0 0,.int .i64 5])<|?_
 obtain⟨gL,gM⟩:=eQ O g
 have hw:bo (aN bG b.length 0 ⟨b,false,0⟩ []).1.e=5:=by unfold bo;rw[gL,if_pos J]
 refine⟨none,0,0,by rw[hw],fun h=>absurd (hw.symm.trans h) (by decide),D⟩
 have bX:=ap J
 refine bq<|sq<|Rg 7 (fun w'=>w'.cell? ⟨f,3,none⟩=some (.int .i64 C.e)) fun cL Y=>?_
 refine bh (RC.fld (RC.upd af Y ay (aE.step (RC.u af) Y))) fun q=>Rt 0 q<|Rt 1 q<|Rt 2 q<|Rt 3 q<|Rl 4 q (fun _ hs=>hs)<|Rt 5 q<|Rt 6 q<|re<|tn<|rt<|rr (.tuple #[.slice B L.length cq,.int .i64 C.e])<|?_
 obtain⟨gL,gM⟩:=eQ O g
 have hw:bo (aN bG b.length 0 ⟨b,false,0⟩ []).1.e=C.e:=by unfold bo;rw[gL,if_neg (by rw[J];decide)]
 have b8:=aI c Y
 refine⟨_,_,_,by rw[hw],fun h=>by rw[gM (hw.symm.trans h)];exact(ax d b8 (fun x hx=>ay) (bp.upd16 b8 aG)),(aI D Y)⟩
theorem qB{m:Md}{A:Option Addr}{cp:Nat}{b:List Int}{w:World}{dir:Int}(hsl:bg m w (.slice A b.length cp) b)(hb:b.length≤1048576) :
    Calls Tryz.prog 163 #[.int .i64 dir,.int .u8 21,.slice A b.length cp] w (fc (aN cI b.length 0 ⟨b,false,0⟩ []) w):=by
 have hln:(b.length:Int)≤1048576:=by omega
 refine en 108 Tryz.func163 rfl<|sg<|Pl 2<|ng<|Pl 2<|L0<|dt #[.slice A b.length cp,.int .i64 0,.bool false,.int .i64 0] fun d a3 N aF O=>Pl 1<|nt<|sq<|?_
 refine go<|Pl 1<|ng<|Pl 1<|nt<|sq<|bk<|?_
 have a4:RC w _ A cp b a3 d (ah.mk b false 0):=⟨hsl,O,N,⟨0,aF,Nat.zero_le _,rfl⟩,by omega⟩
 refine jw (fun x=>[(0,.int .i64 dir),(1,.int .u8 21),(6,.slice none 0 0),(7,.int .i64 0),(8,.pointer (some ⟨d,0,none⟩)),(9,.slice x.2.2.2.1 x.2.2.1.length x.2.2.2.2.1),(10,.int .i64 x.2.2.2.2.2)]) (fun(x:Nat × ah × List de × Option Addr × Nat × Int) w'=>aE [] w w'∧a3.heap.size≤w'.heap.size∧RC w m A cp b w' d x.2.1∧be w.heap.size 109 4 (bp true) w' (.slice x.2.2.2.1 x.2.2.1.length x.2.2.2.2.1) x.2.2.1∧(0≤x.2.2.2.2.2)∧(x.2.1.e=0→x.2.2.2.2.2≤245)∧(x.2.2.1.length+x.2.1.l.length≤b.length)∧((x.2.1.e=0∧x.2.1.l.length≤x.1∧aN cI x.1 x.2.2.2.2.2 x.2.1 x.2.2.1=aN cI b.length 0 ⟨b,false,0⟩ [])∨(x.2.1.e≠0∧(aN cI b.length 0 ⟨b,false,0⟩ []).1=x.2.1))) (fun x=>x.2.1.l.length) (b.length,(ah.mk b false 0),[],none,0,0) ⟨O,lr,a4,(be.nil w.heap.size _ _ (bp true) _),(by(try dsimp only);omega),(fun _=>(show(0:Int)≤245 from by decide)),(by(try dsimp only);simp),.inl ⟨rfl,Nat.le_refl _,rfl⟩⟩ ?_
 rintro⟨n,C,L,B,cq,s⟩ a5 ⟨aH,P,aJ,aK,aM,aO,aP,aQ⟩
 refine jr [(0,.int .i64 dir),(1,.int .u8 21),(6,.slice none 0 0),(7,.int .i64 0),(8,.pointer (some ⟨d,0,none⟩)),(9,.slice B L.length cq),(10,.int .i64 s)] ?_
 have a:RC w m A cp b a5 d C:=aJ
 have hlC:=RC.clen a
 have hrC:gP C:=RC.rng a
 have j:be w.heap.size 109 4 (bp true) a5 (.slice B L.length cq) L:=aK
 have bj:0≤s:=aM
 have bm:C.e=0→s≤245:=aO
 have br:L.length+C.l.length≤b.length:=aP
 have Q:(C.e=0∧C.l.length≤n∧aN cI n s C L=aN cI b.length 0 ⟨b,false,0⟩ [])∨(C.e≠0∧(aN cI b.length 0 ⟨b,false,0⟩ []).1=C):=aQ
 refine sq<|sg<|Pl 1<|L0<|Oc<|m1 (gB a) fun bt c=>?_
 have bu:=RC.clen a
 refine Pl 2<|cu 6 [20] 26 (((decide (0<((C.l.length:Nat) : Int)))&&(C.e==0))) (fun K a6=>?_) ?_
 refine bl 20 ((decide (0<((C.l.length:Nat) : Int)))) (fun r=>?_) (fun r=>?_)
 have aW:=of_decide_eq_true r
 refine Pl 3<|?_
 exact L1<|dZ (p:=⟨d,3,none⟩) (v:=.int .i64 C.e) (RC.fld (RC.upd a c ay (aE.step (RC.u a) c)))<|Pl 2<|ce a6 (C.e==0) (by rw[r];rfl)
 have aW:=of_decide_eq_false r
 exact Pl 6<|ce a6 false (by rw[r];rfl)
 refine nt<|?_
 have F:=aI aH c
 refine cb (((decide (0<((C.l.length:Nat) : Int)))&&(C.e==0))) (fun g=>?_) (fun g=>?_)
 have S:=(aS g).1
 have T:=(aS g).2
 have bv:=of_decide_eq_true S
 have bw:=al T
 refine bq<|bk<|sg<|Pl 1<|L0<|bJ #[.int .u16 0,.int .u16 0,.int .u16 0,.slice none 0 0] fun U bz k a7 V=>L0<|b6 a7 #[.int .u16 0,.int .u16 0,.int .u16 0,.slice none 0 0] fun bA aX G=>nt<|sq<|sg<|Pl 6<|nl<|?_
 refine tn<|c0<|sg<|Pl 1<|?_
 have a8:=ud V G k
 have H:=aI c a8
 refine L0<|Oc<|m5 (sF (RC.upd a H ay (aE.step (RC.u a) H))) fun bB aY aZ b0 b1 t=>?_
 obtain⟨bC,bD⟩:=aY
 obtain⟨bE,bF⟩:=aZ
 obtain⟨bG,bH⟩:=b0
 have y:=nb (RC.lt a4) (le P c.size) k
 refine L0<|b6 (aT t (Ne.symm y) aX) #[.int .u16 ((aL C).file),.int .u16 ((aL C).record),.int .u16 ((aL C).count),.slice none 0 0] fun bI b2 I=>ng<|Pl 2<|nt<|c1<|sq<|Rg 9 (fun w'=>w'.cell? ⟨U,2,none⟩=some (.int .u16 ((aL C).count))) fun bK z=>?_
 have a9:=ub z b2
 refine bh (ag a9 rfl) fun o=>Rt 0 o<|Rt 1 o<|Rl 2 o (fun _ hs=>hs)<|Rr 3 o (.int .i64 ((aL C).count)) (fun _ _=>bY (.int .i64 (IntKind.i64.wrap ((aL C).count))) (by kernel_rfl) (congrArg (Value.int .i64) (i64_in (by omega))))<|Rr 4 o (.int .i64 (2*((aL C).count))) (fun _ _=>bY (.int .i64 (IntKind.i64.wrap (2*((aL C).count)))) (by kernel_rfl) (congrArg (Value.int .i64) (IntWalk.i64_in _ (by omega))))<|Rt 5 o<|?_
 have ab:=aI I z
 have W:=us t ab
 have ad:=ud F (ue a8 W k) N
 have J:=RC.upd b1 ab (aa y ay) ad
 refine R0 6 rfl<|Oc<|m1 (gB J) fun bL f=>?_
 have bM:=RC.clen J
 have ae:=ub f a9
 refine bh (ag ae rfl) fun b3=>Rt 7 b3<|?_
 refine R0 8 rfl<|Oc<|m2 (aV ((decide ((2*((aL C).count))≤(((dp C).l.length:Nat) : Int)))) 5 (RC.upd J f ay (aE.step (RC.u J) f))) fun bN b4 q=>?_
 refine f8 b4 fun x93 b5 b7=>?_
 have X:=aT q (Ne.symm y) ae
 refine bh (ag X rfl) fun bO=>re<|tn<|go<|Pl 2<|L0<|aR X 2<|L0<|Oi ((aL C).count)<|L0<|Oc<|ly (fj (n:=(aL C).count) (by omega) b7) fun af ai bP aj bQ bR an D=>Pl 1<|?_
 refine L0<|bU (aT D (Ne.symm y) X) 3 #[.int .u16 ((aL C).file),.int .u16 ((aL C).record),.int .u16 ((aL C).count),.slice af ((x93.wordsR ((aL C).count)).length) ai] fun bS b8 Y=>nt<|go<|Pl 1<|L0<|cj b8<|L0<|dy (m:=1) (e:=109) #[.int .u16 ((aL C).file),.int .u16 ((aL C).record),.int .u16 ((aL C).count),.slice af ((x93.wordsR ((aL C).count)).length) ai] fun bT bV bW b9 Z=>?_
 have a0:=aI Y Z
 have ba:=iw (R:=bp true) (x:=(de.mk ((aL C).file) ((aL C).record) ((aL C).count) (x93.wordsR ((aL C).count)))) b9 rfl ⟨_,rfl,((ax aj a0 (fun x hx=>(aa (fun e=>(aA (ak a7) (le (le (le (le (le G.size t.size) I.size) z.size) f.size) q.size) aj) (e▸hx)) ay)) (fun _ _ h=>h))).rd,aB (x:=(aL C).file) (by omega),aB (x:=(aL C).record) (by omega),aB (x:=(aL C).count) (by omega)⟩
 have ao:=uz f (ui q (us D a0))
 have aq:=ue H (ut W ao (ac im (ac im au))) (le c.size k)
 have ar:=ax j aq (fun x hx=>(aa (fun e=>(RC.nrow a j (by decide)) (e▸hx)) ay)) (bp.upd16 aq (am (RC.safe a _ (by decide)) aG))
 refine L0<|fS (xs:=L) (ys:=([(de.mk ((aL C).file) ((aL C).record) ((aL C).count) (x93.wordsR ((aL C).count)))])) (.agg #[.int .u16 0,.int .u16 0,.int .u16 0,.slice none 0 0]) 4 32 ar ba (by simp) bp.ones (fun w' hv=>bp.upd16 hv (cJ (da _ ar (by decide)) aG)) (by(try simp only[List.length_append,List.length_cons,List.length_nil,aC]);omega) (le (le (le (le (le (le (le (le (le (le (le (le O.size P) c.size) V.size) G.size) t.size) I.size) z.size) f.size) q.size) D.size) Y.size) Z.size) fun bb bc bX bd a1=>Pl 1<|nl<|bn<|?_
 subst b5
 have hC2:(cI s C).2.1=(((dp C).need (decide ((2*((aL C).count))≤(((dp C).l.length:Nat) : Int))) 5).wordsC ((aL C).count)):=by show gV C=_;(try simp only[gV,gJ,lJ,g,S,T,bs,if_true,if_false,decide_true,decide_false]);all_goals rfl
 have hM2:[(cI s C).2.2]=[(de.mk ((aL C).file) ((aL C).record) ((aL C).count) (((dp C).need (decide ((2*((aL C).count))≤(((dp C).l.length:Nat) : Int))) 5).wordsR ((aL C).count)))]:=by show[gJ C]=_;(try simp only[gV,gJ,lJ,g,S,T,bs,if_true,if_false,decide_true,decide_false]);all_goals rfl
 have hS2:(cI s C).1=s:=by(try (show s=_));(try simp only[ef,← Int.add_assoc]);all_goals rfl
 have hlt:=o0 s C (by omega)
 have h9:=gq (one:=cI) Q (by omega) (by omega) hlt
 rw[hC2,hM2,hS2] at h9
 rw[hC2] at hlt
 have aw:=ut ad (ut (aE.mono (S':=(d :: (U :: (ob B++[])))) ao (ac im (ac im au))) a1 (av il au)) (ac (nr N) (ac (ni F.size k) (av (aU j lr) au)))
 have az:=ue H (u1 W (uz f (u1 q D im)) im) (le c.size k)
 exact gt ((n-1),(((dp C).need (decide ((2*((aL C).count))≤(((dp C).l.length:Nat) : Int))) 5).wordsC ((aL C).count)),(L++[(de.mk ((aL C).file) ((aL C).record) ((aL C).count) (((dp C).need (decide ((2*((aL C).count))≤(((dp C).l.length:Nat) : Int))) 5).wordsR ((aL C).count)))]),bb,bc,s) ⟨aw,(le (le (le (le (le (le (le (le (le (le (le (le P c.size) V.size) G.size) t.size) I.size) z.size) f.size) q.size) D.size) Y.size) Z.size) a1.size),(RC.upd an (ut (aE.mono (S':=(U :: (ob B++[]))) a0 (ac im au)) a1 (av il au)) (aa y (bi (RC.nrow an (ax j az (fun x hx=>(aa (fun e=>(RC.nrow a j (by decide)) (e▸hx)) ay)) (bp.upd16 az (am (RC.safe a _ (by decide)) aG))) (by decide)) ay)) aw),bd,(by(try dsimp only);omega),(by(try dsimp only);intro he;omega),(by(try dsimp only);simp only[List.length_append,List.length_cons,List.length_nil];omega),h9⟩ (by omega)
 refine xt<|tx<|tx<|bx<|tn<|sq<|sg<|Pl 3<|?_
 have a2:=RC.upd a c ay (aE.step (RC.u a) c)
 refine L0<|dZ (p:=⟨d,3,none⟩) (v:=.int .i64 C.e) (RC.fld a2)<|Pl 1<|nt<|cb ((C.e==2)) (fun E=>?_) (fun E=>?_)
 have bf:=al E
 refine sg<|Pl 2<|nt<|rt<|tr<|rr (.tuple #[.slice none 0 0,.int .i64 5])<|?_
 obtain⟨gL,gM⟩:=eQ Q g
 have hw:bo (aN cI b.length 0 ⟨b,false,0⟩ []).1.e=5:=by unfold bo;rw[gL,if_pos E]
 refine⟨none,0,0,by rw[hw],fun h=>absurd (hw.symm.trans h) (by decide),F⟩
 have bf:=ap E
 refine bq<|sq<|Rg 7 (fun w'=>w'.cell? ⟨d,3,none⟩=some (.int .i64 C.e)) fun bZ M=>?_
 refine bh (RC.fld (RC.upd a2 M ay (aE.step (RC.u a2) M))) fun i=>Rt 0 i<|Rt 1 i<|Rt 2 i<|Rt 3 i<|Rl 4 i (fun _ hs=>hs)<|Rt 5 i<|Rt 6 i<|re<|tn<|rt<|rr (.tuple #[.slice B L.length cq,.int .i64 C.e])<|?_
 obtain⟨gL,gM⟩:=eQ Q g
 have hw:bo (aN cI b.length 0 ⟨b,false,0⟩ []).1.e=C.e:=by unfold bo;rw[gL,if_neg (by rw[E];decide)]
 have aD:=aI c M
 refine⟨_,_,_,by rw[hw],fun h=>by rw[gM (hw.symm.trans h)];exact(ax j aD (fun x hx=>ay) (bp.upd16 aD aG)),(aI F M)⟩
theorem kC{m:Md}{v:Value}{b:List Int}{w:World}(h:bg m w v b)(hb:b.length≤1048576) :
    Calls Tryz.prog 163 #[.int .i64 0,.int .u8 20,v] w (fc (aN cL b.length 0 ⟨b,false,0⟩ []) w):=by
  obtain⟨A,cp,rfl,_,_⟩:=h.shape
  exact qV h hb
theorem ke{m:Md}{v:Value}{b:List Int}{w:World}(h:bg m w v b)(hb:b.length≤1048576) :
    Calls Tryz.prog 163 #[.int .i64 1,.int .u8 20,v] w (fc (aN bG b.length 0 ⟨b,false,0⟩ []) w):=by
  obtain⟨A,cp,rfl,_,_⟩:=h.shape
  exact pU h hb
theorem kO{m:Md}{v:Value}{b:List Int}{w:World}{dir:Int}(h:bg m w v b)(hb:b.length≤1048576) :
    Calls Tryz.prog 163 #[.int .i64 dir,.int .u8 21,v] w (fc (aN cI b.length 0 ⟨b,false,0⟩ []) w):=by
  obtain⟨A,cp,rfl,_,_⟩:=h.shape
  exact qB h hb
end Go.Proofs.YtogbnemojakcpaaGreat
