/- Contracts of functions, part CGateBack4. -/
import Derived.Test.YtdkhbcefkfgbdaaGreatCGateBack1
import Derived.Test.YtdkhbcefkfgbdaaGreatCGateBack2
import Derived.Test.YtdkhbcefkfgbdaaGreatCGateBack3
import Derived.Deep.Upon
import Derived.Laws.BitsAllLaws
import Derived.Laws.StructEq
import Derived.Scope
import Derived.Lib.ConvBytes
import Derived.Lib.OthersKept
import Derived.Shelf.Strings.Builder1
import Derived.Lib.SlBytesConst
set_option linter.unusedVariables false
set_option linter.unusedSimpArgs false
set_option maxRecDepth 100000
set_option maxHeartbeats 4000000
namespace Go.Proofs.YtdkhbcefkfgbdaaGreat
open Go.RowKit
structure Ev where
  e:Int
  f:aM
def Ev.bad (e:Int) : Ev:=⟨e,aM.zero⟩
def xV (x:Ev)(s:SL) : Array Value:=#[.int .i64 x.e,.int .u8 x.f.unit,.int .u16 x.f.tid,.int .u8 x.f.msg.code,.int .u8 x.f.msg.fail,.int .u16 x.f.msg.addr,.int .u16 x.f.msg.count,.int .u16 x.f.msg.value,.int .u16 x.f.msg.and_,.int .u16 x.f.msg.or_,.int .u16 x.f.msg.addr2,.int .u16 x.f.msg.sub,.int .u16 x.f.msg.status,.int .u16 x.f.msg.events,.int .u16 x.f.msg.messages,.slice s.aw x.f.msg.words.length s.kw,.slice s.ab x.f.msg.bits.length s.kb,.slice s.ad x.f.msg.data.length s.kd,.slice s.ar x.f.msg.recs.length s.kr,.int .u8 x.f.msg.mei,.int .u8 x.f.msg.kind,.int .u8 x.f.msg.level,.int .u8 x.f.msg.more,.int .u8 x.f.msg.next,.slice s.ao x.f.msg.objects.length s.ko]
theorem Cs(x:Ev)(s:SL) : xV x s = #[.int .i64 x.e]++eo x.f.unit x.f.tid x.f.msg s:=by kernel_rfl
def kg (m:Md)(w:World)(x:Ev)(cs:List Value) : Prop:=∃ s,cs=(xV x s).toList∧aH m w (jq x.f.msg s).toList x.f.msg∧(0≤x.f.unit∧x.f.unit<256)∧(0≤x.f.tid∧x.f.tid<65536)
def nA (m:Md)(w:World)(f:aM)(cs:List Value) : Prop:=∃ s,cs=(eo f.unit f.tid f.msg s).toList∧aH m w (jq f.msg s).toList f.msg∧(0≤f.unit∧f.unit<256)∧(0≤f.tid∧f.tid<65536)
def Di (m:Md)(w:World)(b:List Int)(cs:List Value) : Prop:=∃ v,cs=[v]∧aW m w v b
variable {k n:Nat}{w:World}
theorem kg.lo{x:Ev}{cs:List Value}(hn:n≤k)(h:kg (.hi k) w x cs) : kg (.hi n) w x cs:=by
  obtain⟨s,h1,h2,h3⟩:=h
  exact⟨s,h1,h2.lo hn,h3⟩
theorem kg.tt{x:Ev}{cs:List Value}(h:kg (.hi k) w x cs) : kg true w x cs:=by
  obtain⟨s,h1,h2,h3⟩:=h
  exact⟨s,h1,h2.tt,h3⟩
abbrev wE (m:Md) (w:World) (v:Value) (xs:List Ev) : Prop:=aT m 87 25 (kg m) w v xs
abbrev El (base:Nat) (w:World) (v:Value) (xs:List Ev) : Prop:=aQ base 87 25 (kg true) w v xs
abbrev zq (base:Nat) (w:World) (v:Value) (xs:List Ev) : Prop:=aQ base 87 25 (kg (.hi base)) w v xs
variable {S:List Nat}{m:Md}{w':World}
theorem kg.upd(hu:ay S w w')(hs:bV m gC S w)(x:Ev)(cs:List Value)(h:kg m w x cs) : kg m w' x cs:=by
  obtain⟨s,h1,h2,h3⟩:=h
  exact⟨s,h1,h2.upd hu hs,h3⟩
variable {v:Value}{xs:List Ev}
theorem wE.upd'(h:wE m w v xs)(hu:ay S w w')(hs:bV m (87 :: gC) S w) : wE m w' v xs:=aT.upd h hu (hs.sub fun t ht=>by rw[List.mem_singleton] at ht;rw[ht];exact List.mem_cons_self ..) (kg.upd hu (hs.sub fun t ht=>List.mem_cons_of_mem _ ht))
theorem wE.old(h:wE m w v xs)(hu:ay [] w w') : wE m w' v xs:=h.upd' hu (bV.nil _ _ _)
theorem xX(x:Ev)(s:SL) : (xV x s).toList.length=25:=by kernel_rfl
theorem oG:aH m w (jq b7.zero ⟨none,0,none,0,none,0,none,0,none,0⟩).toList b7.zero:=aH.zero ..
theorem oO{w0:World}{g:Nat}{cs:Array Value}{x:Ev}(hg:w0.heap.size≤g)(hb:w.heap[g]? = some (.cells cs 87 (0,0)))(h:kg m w x cs.toList) : aQ w0.heap.size 87 25 (kg m) w (.slice (some ⟨g,0,none⟩) 1 1) [x]:=by
  have hh:=h
  obtain⟨s,h1,h2⟩:=hh
  have hl:cs.toList.length=25:=by rw[h1];exact xX x s
  clear h1
  refine⟨cs.toList,⟨hl,.inr ⟨g,1,cs,rfl,hg,hb,Nat.le_refl _,by unfold maxLen;omega,by simpa using hl,by rw[List.take_of_length_le];exact Nat.le_of_eq hl⟩⟩,fun j y hj=>?_⟩
  cases j with
  | succ j=>simp at hj
  | zero =>
    have hj:x=y:=by simpa using hj
    subst hj
    exact⟨cs.toList,hl,h,fun i u hi=>by simpa using hi⟩
theorem CV{α β γ δ ε ζ:Sort _}{C:Prop}{P1 P2 P3 P4:α→β→γ→δ→ε→ζ→Prop}(h:∃ a b c d e f,P1 a b c d e f∧P2 a b c d e f∧P3 a b c d e f∧P4 a b c d e f)(k:∀ a b c d e f,P1 a b c d e f→P2 a b c d e f→P3 a b c d e f→P4 a b c d e f→C) : C :=
  let ⟨a,b,c,d,e,f,h1,h2,h3,h4⟩:=h;k a b c d e f h1 h2 h3 h4
theorem j5{α β γ δ:Sort _}{C:Prop}{P1 P2 P3 P4 P5:α→β→γ→δ→Prop}(h:∃ a b c d,P1 a b c d∧P2 a b c d∧P3 a b c d∧P4 a b c d∧P5 a b c d)(k:∀ a b c d,P1 a b c d→P2 a b c d→P3 a b c d→P4 a b c d→P5 a b c d→C) : C :=
  let ⟨a,b,c,d,h1,h2,h3,h4,h5⟩:=h;k a b c d h1 h2 h3 h4 h5
theorem oX{cs:Array Value}{o m:Nat}{sub sub2:List Value}(hs:(cs.toList.drop o).take n=sub)(hv:(sub.drop k).take m=sub2)(hk:k+m≤n) : (cs.toList.drop (o+k)).take m=sub2:=by
  rw[← hv,← hs,List.drop_take,List.take_take,List.drop_drop,Nat.min_eq_left (by omega)]
theorem kg.ones(x:Ev)(cs:List Value)(h:kg m w x cs) : ∀ v,v∈cs→v.oneCell'=true:=by
  obtain⟨s,h1,h2,_⟩:=h
  have h3:=h2.one
  intro v hv
  rw[h1,Cs,fo,Array.toList_append,Array.toList_append,List.mem_append,List.mem_append] at hv
  clear h1
  rw[Array.all_eq_true'] at h3
  rcases hv with hv|hv|hv
  · simp at hv;subst hv;rfl
  · simp at hv;rcases hv with rfl | rfl<;>rfl
  · exact h3 v (by simpa using hv)
variable {A:Option Addr}{c:Nat}
theorem wE.elt(h:wE m w (.slice A n c) xs)(j:Nat)(hj:j<xs.length)(d:Ev) :
    ∃ b off cells t fr s,A=some ⟨b,off,none⟩∧w.heap[b]? = some (.cells cells t fr)∧(aH m w (jq (xs.getD j d).f.msg s).toList (xs.getD j d).f.msg∧(0≤(xs.getD j d).f.unit∧(xs.getD j d).f.unit<256)∧(0≤(xs.getD j d).f.tid∧(xs.getD j d).f.tid<65536))∧(cells.toList.drop (off+j*25)).take 25=(xV (xs.getD j d) s).toList:=by
  obtain⟨b,off,cells,t,fr,cs,h1,h2,h3,⟨s,h4,h5⟩,h6⟩:=aT.elt h d j hj
  exact⟨b,off,cells,t,fr,s,h1,h2,h5,h6.trans h4⟩
abbrev um (m:Md) (w:World) (v:Value) (xs:List aM) : Prop:=aT m 47 24 (nA m) w v xs
abbrev iD (m:Md) (w:World) (v:Value) (xs:List (List Int)) : Prop:=aT m 27 1 (Di m) w v xs
theorem nA.upd(hu:ay S w w')(hs:bV m gC S w)(x:aM)(cs:List Value)(h:nA m w x cs) : nA m w' x cs:=by
  obtain⟨s,h1,h2,h3⟩:=h
  exact⟨s,h1,h2.upd hu hs,h3⟩
theorem um.old{xs:List aM}(h:um m w v xs)(hu:ay [] w w') : um m w' v xs:=aT.upd h hu (bV.nil _ _ _) (nA.upd hu (bV.nil _ _ _))
theorem um.elt{xs:List aM}(h:um m w (.slice A n c) xs)(j:Nat)(hj:j<xs.length)(d:aM) :
    ∃ b off cells t fr s,A=some ⟨b,off,none⟩∧w.heap[b]? = some (.cells cells t fr)∧(aH m w (jq (xs.getD j d).msg s).toList (xs.getD j d).msg∧(0≤(xs.getD j d).unit∧(xs.getD j d).unit<256)∧(0≤(xs.getD j d).tid∧(xs.getD j d).tid<65536))∧(cells.toList.drop (off+j*24)).take 24=(eo (xs.getD j d).unit (xs.getD j d).tid (xs.getD j d).msg s).toList:=by
  obtain⟨b,off,cells,t,fr,cs,h1,h2,h3,⟨s,h4,h5⟩,h6⟩:=aT.elt h d j hj
  exact⟨b,off,cells,t,fr,s,h1,h2,h5,h6.trans h4⟩
theorem iD.old{xs:List (List Int)}(h:iD m w v xs)(hu:ay [] w w') : iD m w' v xs:=aT.upd h hu (bV.nil _ _ _) fun x cs ⟨v,h1,h2⟩=>⟨v,h1,h2.old hu⟩
theorem iD.elt{xs:List (List Int)}(h:iD m w (.slice A n c) xs)(j:Nat)(hj:j<xs.length) :
    ∃ b off A' c',A=some ⟨b,off,none⟩∧w.cell? ⟨b,off+j,none⟩=some (.slice A' (xs.getD j []).length c')∧aW m w (.slice A' (xs.getD j []).length c') (xs.getD j [])∧(xs.getD j []).length≤c'∧c'≤maxLen:=by
  obtain⟨b,off,cells,t,fr,cs,h1,h2,h3,⟨v,h4,h5⟩,h6⟩:=aT.elt h [] j hj
  obtain⟨A',c',rfl,h7,h8⟩:=h5.shape
  refine⟨b,off,A',c',h1,?_,h5,h7,h8⟩
  rw[bh h2]
  rw[h4] at h6
  have h9:=congrArg (fun z=>z[0]?) h6
  simpa using h9
open Go.RowKit
variable {P:Program}{i:TypeInfo}
theorem BB(t e:TypeId)(sz:Nat)  (ht:P.underlying t=some (.slice e))(hi:P.info? e=some i)(hsz:i.size=sz)(A:Option Addr)(n c:Nat){k:Int}(h:Nat)(hk:k=(h:Int))(hh:h≤n)(hc:n≤c) :
    ∃ A':Option Addr,(∀ (kh:IntKind) (W:World),(Instr.slice t (.slice A n c) none (some (.int kh k)) none).run P W = .ok (.slice A' h c) W) ∧
      ∀ {α:Type} (m:Md) (e':TypeId) (R:World→α→List Value→Prop) (w:World) (xs:List α),aT m e' sz R w (.slice A n c) xs→aT m e' sz R w (.slice A' h c) (xs.take h):=by
  subst hk
  obtain⟨A',h1,h2⟩:=yY (P:=P) t e sz ht hi hsz A n c 0 h (Nat.zero_le _) hh hc
  refine⟨A',fun kh W=>?_,fun m e' R w xs hr=>by simpa using h2 m e' R w xs hr⟩
  have h3:=h1 .i64 kh W
  have hel:P.elem t=e:=by simp[Program.elem,ht]
  have hu:P.underlying t=some (.slice (P.elem t)):=by rw[hel];exact ht
  rw[run_slice_h W t A n c hu kh (h:Int) (Int.natCast_nonneg _) (by omega)]
  rw[run_slice_lh W t A n c hu .i64 kh (((0:Nat) : Int)) (h:Int) (Int.natCast_nonneg _) (by omega) (by omega)] at h3
  simpa using h3
variable {e t:TypeId}{o:Oper}{x y:Operand}
theorem kc{ev:Operand→Value}       {kl:IntKind}{k:Int}   (ho:o.op = .slice t x none (some y) none)(ht:P.underlying t=some (.slice e))(hx:ev x = .slice A n c)(hy:ev y = .int kl k)
    (hr:(Instr.slice t (.slice A n c) none (some (.int kl k)) none).run P w = .ok v w) : (execOp ev o).run P w = .ok (.value v) w:=by
  have hu:(underlying t).run P w = .ok (.slice e) w:=run_underlying ht w
  unfold execOp
  simp only[ho,Option.map_some,Option.map_none,hx,hy,Instr.sliceAt,Sem.run_bind,hu,hr,Result.andThen,Sem.run_pure]
theorem tB(t e:TypeId)(sz:Nat)  (ht:P.underlying t=some (.slice e))(hi:P.info? e=some i)(hsz:i.size=sz)(A:Option Addr)(n c:Nat){lo up:Int}(k h:Nat)(hlo:lo=(k:Int))(hup:up=(h:Int))(hk:k≤h)(hh:h≤n)(hc:n≤c) :
    ∃ A':Option Addr,(∀ (kl kh:IntKind) (W:World),(Instr.slice t (.slice A n c) (some (.int kl lo)) (some (.int kh up)) none).run P W = .ok (.slice A' (h-k) (c-k)) W) ∧
      ∀ {α:Type} (m:Md) (e':TypeId) (R:World→α→List Value→Prop) (w:World) (xs:List α),aT m e' sz R w (.slice A n c) xs→aT m e' sz R w (.slice A' (h-k) (c-k)) ((xs.take h).drop k):=by
  subst hlo hup
  exact yY t e sz ht hi hsz A n c k h hk hh hc
theorem nK{ev:Operand→Value}    {z:Operand}   {kl kh:IntKind}{lo hi:Int}   (ho:o.op = .slice t x (some y) (some z) none)(ht:P.underlying t=some (.slice e))(hx:ev x = .slice A n c)(hy:ev y = .int kl lo)(hz:ev z = .int kh hi)
    (hr:(Instr.slice t (.slice A n c) (some (.int kl lo)) (some (.int kh hi)) none).run P w = .ok v w) : (execOp ev o).run P w = .ok (.value v) w:=by
  have hu:(underlying t).run P w = .ok (.slice e) w:=run_underlying ht w
  unfold execOp
  simp only[ho,Option.map_some,Option.map_none,hx,hy,hz,Instr.sliceAt,Sem.run_bind,hu,hr,Result.andThen,Sem.run_pure]
theorem oC(t e:TypeId)(sz:Nat)  (ht:P.underlying t=some (.slice e))(hi:P.info? e=some i)(hsz:i.size=sz)(A:Option Addr)(n c:Nat){lo:Int}(k:Nat)(hlo:lo=(k:Int))(hk:k≤n) :
    ∃ A':Option Addr,(∀ (kl:IntKind) (W:World),(Instr.slice t (.slice A n c) (some (.int kl lo)) none none).run P W = .ok (.slice A' (n-k) (c-k)) W) ∧
      ∀ {α:Type} (m:Md) (e':TypeId) (R:World→α→List Value→Prop) (w:World) (xs:List α),aT m e' sz R w (.slice A n c) xs→aT m e' sz R w (.slice A' (n-k) (c-k)) (xs.drop k):=by
  subst hlo
  exact gc t e sz ht hi hsz A n c k hk
open Go.RowKit
theorem Bh{ev:Operand→Value}   {ts:Array TypeId}{k:IntKind}{a b:Int}(ho:o.op = .call { callee:=.builtin .min,args:=#[x,y],argTypes:=ts })(hx:ev x = .int k a)(hy:ev y = .int k b) : (execOp ev o).run P w = .ok (.value (.int k (min a b))) w:=by
  have h:(Builtin.min_ ts o.type #[.int k a,.int k b]).run P w = .ok (.int k (min a b)) w:=by
    simp[Builtin.min_,Builtin.min2]
    split<;>simp[Int.min_def]<;>omega
  unfold execOp
  simp only[ho,resolve,invoke,builtin,Sem.run_bind,Sem.run_pure,Result.andThen_ok,List.map_toArray,List.map_cons,List.map_nil,hx,hy,h]
theorem aT.adr{α:Type}   {sz:Nat}{R:World→α→List Value→Prop}    {xs:List α}(h:aT m e sz R w (.slice A n c) xs) : 0<n→∃ b off,A=some ⟨b,off,none⟩:=fun hn=>by
  obtain⟨A',c',hv,hc1,hc2,h0,h3⟩:=h
  injection hv with e1 e2 e3
  subst e1 e2 e3
  obtain⟨b,off,cells,t,fr,hA,_⟩:=h3 hn
  exact⟨b,off,hA⟩
theorem aT.cap{α:Type}   {sz:Nat}{R:World→α→List Value→Prop}    {xs:List α}(h:aT m e sz R w (.slice A n c) xs) : n≤c:=by
  obtain⟨A',c',hv,h1,_⟩:=h
  injection hv with _ e2 e3
  subst e2 e3
  exact h1
theorem yG{ev:Operand→Value}  {z:Operand}    {k1 k2:IntKind}{i1 i2:Int}(ho:o.op = .slice t x none (some y) (some z))(ht:P.underlying t=some (.slice e))(hi:(P.info? e).map (·.size)=some 1)
    (hx:ev x = .slice A n c) (hy:ev y = .int k1 i1) (hz:ev z = .int k2 i2) (h1:i1=(n:Int)) (h2:i2=(n:Int)) (hc1:n≤c) (hA:0<n→∃ b off,A=some ⟨b,off,none⟩) : (execOp ev o).run P w = .ok (.value (.slice A n n)) w:=by
  subst h1 h2
  obtain⟨i0,hi0,hs⟩:=Option.map_eq_some_iff.1 hi
  have hel:P.elem t=e:=by simp[Program.elem,ht]
  have hu:P.underlying t=some (.slice (P.elem t)):=by rw[hel];exact ht
  have hr:=run_slice_hm (P:=P) w t A n c hu k1 k2 ((n:Nat) : Int) ((n:Nat) : Int) (by omega) (Int.le_refl _) (by omega)
  have hA:(if n=0 then A else A.map (·.add 0))=A:=by
    split
    · rfl
    · rename_i hne
      obtain⟨b,off,rfl⟩:=hA (by omega)
      rfl
  have hr2:(Instr.slice t (.slice A n c) none (some (.int k1 ((n:Nat) : Int))) (some (.int k2 ((n:Nat) : Int)))).run P w = .ok (.slice A n n) w:=by
    rw[hr,hel]
    simp[sizeOf,typeInfo,hi0,hs,sliced,Result.andThen]
    simpa using hA
  have hu2:(underlying t).run P w = .ok (.slice e) w:=run_underlying ht w
  unfold execOp
  simp only[ho,Option.map_some,Option.map_none,hx,hy,hz,Instr.sliceAt,Sem.run_bind,hu2,hr2,Result.andThen,Sem.run_pure]
theorem aW.full{xs:List Int}(h:aW m w (.slice A n c) xs) : aW m w (.slice A n n) xs:=by
  obtain⟨A',c',hv,hc1,hc2,h0,h3⟩:=h
  injection hv with e1 e2 e3
  subst e1 e2 e3
  refine⟨A,xs.length,rfl,Nat.le_refl _,Nat.le_trans hc1 hc2,fun hA=>?_,h3⟩
  have:=h0 hA
  omega
theorem qi(w:World) : (Builtin.firstCells 1 0 (.slice A 0 c)).run P w = .ok #[] w:=by
  cases A with
  | none=>simp[Builtin.firstCells]
  | some a =>
    have:=run_loadCells_list (P:=P) w a [] (fun j v hj=>by simp at hj)
    simpa [Builtin.firstCells] using this
theorem BN{ys:List Int}(ht:P.underlying t=some (.slice e))(h:aW m w (.slice A n c) ys)(h0:ys=[]) : Src P 1 t (.slice A n c) 0 [] w:=by
  subst h0
  obtain⟨A',c',hv,hc1,hc2,h0,h3⟩:=h
  injection hv with e1 e2 e3
  subst e1 e2 e3
  exact⟨.inl ⟨e,ht⟩,fun w'=>by simp[Builtin.lenOf],qi w,qi w.drew,rfl,fun u hu=>by cases hu⟩
section
variable {P:Program}{n:Nat}{D:List Deferred}{F:Fr}{w:World}{K:Fr→World→Prop}{Q:Exit→Act→World→Prop}{d:Option Tmp}{t:TypeId}{s:String}{af:Array Edge}{gu:Option (Nat × Bool)}
end
open Go.RowKit
theorem o5{P:Program}{sz:Nat}{A:Option Addr}{c:Nat}(w:World) : (Builtin.firstCells sz 0 (.slice A 0 c)).run P w = .ok #[] w:=by
  cases A with
  | none=>simp[Builtin.firstCells]
  | some a =>
    have:=run_loadCells_list (P:=P) w a [] (fun j v hj=>by simp at hj)
    simpa [Builtin.firstCells] using this
theorem eh{α:Type}{base sz:Nat}{e t:TypeId}{R:World→α→List Value→Prop}{w:World}{A:Option Addr}{n c g:Nat}{xs:List α}(hb:∃ cs fr,w.heap[g]? = some (.cells cs t fr))(h:aQ base e sz R w (.slice A n c) xs)(ht:(t==e)=false) : g∉ob A:=by
  obtain⟨cs,fr,hb⟩:=hb
  exact aJ hb h ht
theorem cJ{A B:Option Addr}(h:∀ x,x∈ob A→x∉ob B) : ∀ x,x∈ob B→x∉ob A:=fun x hx hy=>h x hy hx
section
variable {P:Program}{n:Nat}{D:List Deferred}{F:Fr}{w:World}{K:Fr→World→Prop}{Q:Exit→Act→World→Prop}{d:Option Tmp}{t:TypeId}{s:String}{af:Array Edge}{gu:Option (Nat × Bool)}
theorem DX{α:Type}{R:World→α→List Value→Prop}{x y:Operand}{e:TypeId}{base m c:Nat}{A:Option Addr}{xs ys:List α}{mm:Md}{e' ty:TypeId}{u:Value}(z:Value)(sz bytes:Nat)(HO:aQ base e sz R w (.slice A m c) xs)(HY:aT mm e' sz R w u ys)
    (hone:∀ x cs,R w x cs→∀ v,v∈cs→v.oneCell'=true) (hRU:∀ w',ay (ob A++[]) w w'→∀ x cs,R w x cs→R w' x cs)
    (hl:xs.length+ys.length≤4611686018427387904) (hmul:(xs.length+ys.length)*bytes≤140737488355328) (hbase:base≤w.heap.size) (h:∀ A' c' w',aQ base e sz R w' (.slice A' (xs++ys).length c') (xs++ys)→ay (ob A++[]) w w'→(∀ g,g∈ob A'→g∈ob A∨w.heap.size≤g)→K (pt d (.slice A' (xs++ys).length c') F) w')
    (hx:eg F x=some (.slice A m c):=by kernel_rfl) (hy':eg F y=some u:=by kernel_rfl) (he:pE P ty=some e:=by kernel_rfl) (hs:(nJ P ty,z.cells.size,(eU n d&&Nat.ble bytes 65536)&&Nat.blt 0 sz)=(some (some z,sz,bytes),sz,true):=by kernel_rfl) : OG P ⟨d,.call { callee:=.builtin .append,args:=#[x,y],argTypes:=#[ty,ty] },t,s,af,gu⟩ n D F w K Q:=by
  by_cases hne:ys=[]
  · subst hne
    simp only[Prod.mk.injEq] at hs
    have h3:=eQ (eQ hs.2.2).1
    obtain⟨A0,c0,e0,hc1,_⟩:=HO.rd.shape
    have e0:=e0.symm
    injection e0 with e1 e2 e3
    subst e2
    subst e1 e3
    obtain⟨B,cB,rfl,_,_⟩:=HY.shape
    have hinf:(P.info? e).map (fun i=>(i.zero,i.size,i.bytes))=some (some z,sz,bytes):=by have:=hs.1;unfold nJ at this;rw[he] at this;exact this
    obtain⟨i0,hi,hz0,hz1,hz2⟩:=info_parts hinf
    have hsr:Src P i0.size ty (.slice B 0 cB) 0 [] w:=⟨.inl ⟨e,ep he⟩,fun w'=>by simp[Builtin.lenOf],o5 w,o5 w.drew,by simp,fun u hu=>by cases hu⟩
    have hr:=run_append_nothing w ty ty t _ i0 (ep he) hi A0 xs.length c0 hc1 _ hsr
    refine⟨fun a ha K' hK=>OW.mk ?_⟩
    have hx':=ha.ev hx
    have hy2:=ha.ev hy'
    simp only[List.length_nil] at hy2
    unfold Oper.wp execOp
    simp only[resolve,invoke,builtin,Sem.run_bind,Sem.run_pure,Result.andThen_ok,List.map_toArray,List.map_cons,List.map_nil,hx',hy2,hr]
    refine hK _ _ _ (h A0 c0 w (by rw[List.append_nil];exact HO) (ay.mono (S':=ob A0++[]) (ay.refl [] w) (fun x hx=>by cases hx)) (fun g hg=>.inl hg)) ?_
    rw[List.append_nil]
    exact ha.put h3.1
  · have hy:0<ys.length:=by
      cases ys with
      | nil=>exact absurd rfl hne
      | cons a r=>simp
    simp only[Prod.mk.injEq] at hs
    have h2:=eQ hs.2.2
    have h3:=eQ h2.1
    exact⟨fun a ha K' hK=>pS z sz bytes rfl rfl (ep he) (by have:=hs.1;unfold nJ at this;rw[he] at this;exact this) hs.2.1 (by simpa using h2.2) xs (ha.ev hx) HO u ys (ha.ev hy') HY hy hone hRU hl hmul hbase fun A' c' w' hO hu hat=>hK _ _ _ (h A' c' w' hO hu hat) (ha.put h3.1)⟩
theorem ku{α:Type}{R:World→α→List Value→Prop}{x y:Operand}{e:TypeId}{base m c:Nat}{A:Option Addr}{xs ys:List α}{mm:Md}{e' ty:TypeId}{u:Value}(z:Value)(sz bytes:Nat)(HO:aQ base e sz R w (.slice A m c) xs)(HY:aT mm e' sz R w u ys)
    (hone:∀ x cs,R w x cs→∀ v,v∈cs→v.oneCell'=true) (hRU:∀ w',ay (ob A++[]) w w'→∀ x cs,R w x cs→R w' x cs)
    (hl:xs.length+ys.length≤4194304) (hbase:base≤w.heap.size) (h:∀ A' c' w',aQ base e sz R w' (.slice A' (xs++ys).length c') (xs++ys)→ay (ob A++[]) w w'→(∀ g,g∈ob A'→g∈ob A∨w.heap.size≤g)→K (pt d (.slice A' (xs++ys).length c') F) w')
    (hx:eg F x=some (.slice A m c):=by kernel_rfl) (hy':eg F y=some u:=by kernel_rfl) (he:pE P ty=some e:=by kernel_rfl) (hs:(nJ P ty,z.cells.size,(eU n d&&Nat.ble bytes 65536)&&Nat.blt 0 sz)=(some (some z,sz,bytes),sz,true):=by kernel_rfl) : OG P ⟨d,.call { callee:=.builtin .append,args:=#[x,y],argTypes:=#[ty,ty] },t,s,af,gu⟩ n D F w K Q:=by
  have hb:bytes≤65536:=by
    simp only[Prod.mk.injEq] at hs
    simpa using (eQ (eQ hs.2.2).1).2
  exact DX z sz bytes HO HY hone hRU (by omega) (Nat.le_trans (Nat.mul_le_mul hl hb) (by decide)) hbase h hx hy' he hs
end
open Go.RowKit
theorem nA.ones{m:Md}{w:World}(x:aM)(cs:List Value)(h:nA m w x cs) : ∀ v,v∈cs→v.oneCell'=true:=by
  obtain⟨s,h1,h2,_⟩:=h
  have h3:=h2.one
  intro v hv
  rw[h1,fo,Array.toList_append,List.mem_append] at hv
  rw[Array.all_eq_true'] at h3
  rcases hv with hv|hv
  · simp at hv;rcases hv with rfl | rfl<;>rfl
  · exact h3 v (by simpa using hv)
theorem DZ{m:Md}{w0 w:World}{g:Nat}{cs:Array Value}{x:aM}(hg:w0.heap.size≤g)(hb:w.heap[g]? = some (.cells cs 47 (0,0)))(h:nA m w x cs.toList) : aQ w0.heap.size 47 24 (nA m) w (.slice (some ⟨g,0,none⟩) 1 1) [x]:=by
  have hh:=h
  obtain⟨s,h1,h2⟩:=hh
  have hl:cs.toList.length=24:=by rw[h1];kernel_rfl
  clear h1
  refine⟨cs.toList,⟨hl,.inr ⟨g,1,cs,rfl,hg,hb,Nat.le_refl _,by unfold maxLen;omega,by simpa using hl,by rw[List.take_of_length_le];exact Nat.le_of_eq hl⟩⟩,fun j y hj=>?_⟩
  cases j with
  | succ j=>simp at hj
  | zero =>
    have hj:x=y:=by simpa using hj
    subst hj
    exact⟨cs.toList,hl,h,fun i u hi=>by simpa using hi⟩
def au (L:List Ev) : List aM:=(L.filter fun x=>x.e==0).map (·.f)
theorem tJ{L:List Ev}{fs:List aM}{k:Nat}(hk:k<L.length)(h:fs=au (L.take k)) : (((L.getD k (Ev.bad 0)).e==0)=true→fs++[(L.getD k (Ev.bad 0)).f]=au (L.take (k+1)))∧(((L.getD k (Ev.bad 0)).e==0)=false→fs=au (L.take (k+1))):=by
  have e:au (L.take (k+1))=au (L.take k)++au [L.getD k (Ev.bad 0)]:=by
    unfold au
    rw[List.take_succ_eq_append_getElem hk,List.getD_eq_getElem?_getD,List.getElem?_eq_getElem hk,List.filter_append,List.map_append]
    rfl
  rw[e,← h]
  refine⟨fun q=>?_,fun q=>?_⟩
  · unfold au;rw[List.filter_cons,if_pos q];rfl
  · unfold au;rw[List.filter_cons,if_neg (by rw[q];simp)];simp
open Go.RowKit
theorem sG{p:Nat}{A:Option Addr}{cp:Nat}{L:List Ev}{w:World}(h:wE (.hi p) w (.slice A L.length cp) L)(hL:L.length≤200000) : Calls Tryz.prog 38 #[.slice A L.length cp] w (fun e w'=>∃ v,e = .returned v∧aQ w.heap.size 47 24 (nA (.hi p)) w' v (au L)∧ay [] w w'):=by
 have hz:=aT.len h
 refine en 22 Tryz.func38 rfl<|aA 1<|dK 1<|sq<|aB 3<|bk<|?_
 refine jZ (fun x=>[(2,nS),(3,.slice x.2.2.1 x.2.1.length x.2.2.2),(6,.slice A L.length cp),(7,vI (L.length:Int)),(8,vI (x.1:Int))]) (fun(x:Nat × List aM × Option Addr × Nat) w'=>ay [] w w'∧aQ w.heap.size 47 24 (nA (.hi p)) w' (.slice x.2.2.1 x.2.1.length x.2.2.2) x.2.1∧(x.1≤L.length)∧(x.2.1.length≤x.1)∧(x.2.1=au (L.take x.1))) (fun x=>L.length-x.1) (0,[],none,0) ⟨ay.refl _ _,(aQ.nil w.heap.size _ _ (nA (.hi p)) _),(by(try dsimp only);omega),(by(try dsimp only);exact Nat.le_refl _),rfl⟩ ?_
 rintro⟨k,fs,B,cq⟩ u ⟨g,y,z,C,D⟩
 refine iW [(2,nS),(3,.slice B fs.length cq),(6,.slice A L.length cp),(7,vI (L.length:Int)),(8,vI (k:Int))] ?_
 have c:aQ w.heap.size 47 24 (nA (.hi p)) u (.slice B fs.length cq) fs:=y
 have V:k≤L.length:=z
 have W:fs.length≤k:=C
 have i:fs=au (L.take k):=D
 refine aB 1<|sq<|cb ((decide ((k:Int)<(L.length:Int)))) (fun j=>?_) (fun j=>?_)
 have E:=of_decide_eq_true j
 refine bM<|sq<|bk<|sg<|CV (wE.elt h k (by omega) (Ev.bad 0)) fun X Y Z a0 a1 a F G n H=>L0<|jC 25 L.length k F (by omega)<|?_
 refine L0<|wb [vI ((L.getD k (Ev.bad 0)).e),vB ((L.getD k (Ev.bad 0)).f.unit),vW ((L.getD k (Ev.bad 0)).f.tid),vB ((L.getD k (Ev.bad 0)).f.msg.code),vB ((L.getD k (Ev.bad 0)).f.msg.fail),vW ((L.getD k (Ev.bad 0)).f.msg.addr),vW ((L.getD k (Ev.bad 0)).f.msg.count),vW ((L.getD k (Ev.bad 0)).f.msg.value),vW ((L.getD k (Ev.bad 0)).f.msg.and_),vW ((L.getD k (Ev.bad 0)).f.msg.or_),vW ((L.getD k (Ev.bad 0)).f.msg.addr2),vW ((L.getD k (Ev.bad 0)).f.msg.sub),vW ((L.getD k (Ev.bad 0)).f.msg.status),vW ((L.getD k (Ev.bad 0)).f.msg.events),vW ((L.getD k (Ev.bad 0)).f.msg.messages),.slice a.aw ((L.getD k (Ev.bad 0)).f.msg.words.length) a.kw,.slice a.ab ((L.getD k (Ev.bad 0)).f.msg.bits.length) a.kb,.slice a.ad ((L.getD k (Ev.bad 0)).f.msg.data.length) a.kd,.slice a.ar ((L.getD k (Ev.bad 0)).f.msg.recs.length) a.kr,vB ((L.getD k (Ev.bad 0)).f.msg.mei),vB ((L.getD k (Ev.bad 0)).f.msg.kind),vB ((L.getD k (Ev.bad 0)).f.msg.level),vB ((L.getD k (Ev.bad 0)).f.msg.more),vB ((L.getD k (Ev.bad 0)).f.msg.next),.slice a.ao ((L.getD k (Ev.bad 0)).f.msg.objects.length) a.ko] (ub g G) H<|aO #[vI 0,vB 0,vW 0,vB 0,vB 0,vW 0,vW 0,vW 0,vW 0,vW 0,vW 0,vW 0,vW 0,vW 0,vW 0,nS,nS,nS,nS,vB 0,vB 0,vB 0,vB 0,vB 0,nS] fun a2 a3 I J K=>aN J (xV ⟨(L.getD k (Ev.bad 0)).e,(L.getD k (Ev.bad 0)).f⟩ a) fun a4 o M=>aU 1<|aD o 0<|al 1<|?_
 have d:=ud K M I
 have q:=aK g d
 refine cb ((((L.getD k (Ev.bad 0)).e)==0)) (fun b=>?_) (fun b=>?_)
 have N:=aI b
 refine go<|Pl 2<|L0<|Dj o 1 24<|L0<|dX (m:=1) (e:=47) (eo ((L.getD k (Ev.bad 0)).f.unit) ((L.getD k (Ev.bad 0)).f.tid) ((L.getD k (Ev.bad 0)).f.msg) a) fun a5 a6 O P r=>?_
 have l:=aK q r
 have Q:=DZ O P ⟨a,rfl,(aH.old (n.1) l),n.2⟩
 have s:=aK d r
 have t:=ak c s (fun x hx=>av) (nA.upd s aP)
 refine L0<|ku (xs:=fs) (ys:=([(L.getD k (Ev.bad 0)).f])) (.agg rU) 24 160 t (Q).rd nA.ones (fun w' hv=>nA.upd hv (cZ (dF _ t (by decide)) aP)) (by(try simp only[co,aE]);omega) l.size fun R S a7 T U a8=>Pl 1<|nl<|bn<|tn<|go<|bD ((k:Int)+1)<|Pl 1<|nl<|?_
 exact fD ((k+1),(fs++[(L.getD k (Ev.bad 0)).f]),R,S) ⟨(ut l U (ai (aX c lr) aC)),T,(by(try dsimp only);omega),(by(try dsimp only);(try simp only[co]);omega),(by(try dsimp only);exact(tJ (by omega) i).1 b)⟩ (by omega)
 have N:=aS b
 refine sk<|bn<|tn<|go<|bD ((k:Int)+1)<|Pl 1<|nl<|?_
 exact fD ((k+1),fs,B,cq) ⟨q,(ak c d (fun x hx=>av) (nA.upd d aP)),(by(try dsimp only);omega),(by(try dsimp only);(try simp only[co]);omega),(by(try dsimp only);exact(tJ (by omega) i).2 b)⟩ (by omega)
 have E:=of_decide_eq_false j
 refine xt<|tx<|tx<|bx<|tn<|aB 2<|rt<|rr (.slice B fs.length cq)<|?_
 have hs:fs=au L:=by rw[i,List.take_of_length_le (by omega)]
 exact⟨_,rfl,by rw[← hs];exact c,g⟩
theorem wm{p:Nat}{v:Value}{L:List Ev}{w:World}(h:wE (.hi p) w v L)(hL:L.length≤200000) : Calls Tryz.prog 38 #[v] w (fun e w'=>∃ v,e = .returned v∧aQ w.heap.size 47 24 (nA (.hi p)) w' v (au L)∧ay [] w w'):=by
      obtain⟨A,cp,rfl,_,_⟩:=h.shape
      exact sG h hL
end Go.Proofs.YtdkhbcefkfgbdaaGreat
namespace Go.Proofs.YtdkhbcefkfgbdaaGreat
def yC (x:Nat) : Nat:=(x/2) ^^^ (x%2*40961)
def j6:Nat→Nat→Nat
  | 0,x=>x
  | k+1,x=>yC (j6 k x)
def A7 (i:Nat) : Nat:=j6 8 i
theorem zY{x:Nat}(h:x<65536) : yC x<65536:=by
  unfold yC
  exact Nat.xor_lt_two_pow (n:=16) (by omega) (by omega)
theorem pp{x:Nat}(h:x<65536) : ∀ k,j6 k x<65536
  | 0=>h
  | k+1=>zY (pp h k)
theorem uo{i:Nat}(h:i<256) : A7 i<65536:=pp (by omega) 8
def wJ (s c:Nat) : Nat:=(s/256) ^^^ A7 ((s%256) ^^^ c)
theorem u7{a b:Nat}(ha:a<256)(hb:b<256) : a ^^^ b<256:=Nat.xor_lt_two_pow (n:=8) ha hb
theorem yN{a b:Nat}(ha:a<65536)(hb:b<65536) : a ^^^ b<65536:=Nat.xor_lt_two_pow (n:=16) ha hb
theorem wU{s c:Nat}(hs:s<65536)(hc:c<256) : wJ s c<65536:=yN (by omega) (uo (u7 (by omega) hc))
def xi (a b:Int) : Int:=((a.toNat ^^^ b.toNat:Nat) : Int)
theorem FA{a b:Int}(ha:0≤a∧a<256)(hb:0≤b∧b<256) : 0≤xi a b∧xi a b<256:=by
  have:=u7 (a:=a.toNat) (b:=b.toNat) (by omega) (by omega)
  unfold xi
  omega
theorem AT(n:Nat) : xi (((n:Nat) : Int)/2) ((((n:Nat) : Int)%2)*40961%65536)=((yC n:Nat) : Int):=by
  unfold xi yC
  rw[show(((n:Nat) : Int)/2).toNat=n/2 from by omega,show((((n:Nat) : Int)%2)*40961%65536).toNat=n%2*40961 from by omega]
def lH (i:Int) : Int:=((A7 i.toNat:Nat) : Int)
theorem qG{i:Int}(h:0≤i∧i<256) : 0≤lH i∧lH i<65536:=by
  have:=uo (i:=i.toNat) (by omega)
  unfold lH
  omega
def tv (s c:Int) : Int:=xi (s/256) (lH (xi (s%256) c))
theorem yz{s c:Int}(hs:0≤s∧s<65536)(hc:0≤c∧c<256) : tv s c=((wJ s.toNat c.toNat:Nat) : Int):=by
  unfold tv lH xi wJ
  rw[show(s/256).toNat=s.toNat/256 from by omega,show(s%256).toNat=s.toNat%256 from by omega]
  simp only[Int.toNat_natCast]
theorem pH{s c:Int}(hs:0≤s∧s<65536)(hc:0≤c∧c<256) : 0≤tv s c∧tv s c<65536:=by
  have:=wU (s:=s.toNat) (c:=c.toNat) (by omega) (by omega)
  rw[yz hs hc]
  omega
def cO (s:Int)(b:List Int) : Int:=b.foldl tv s
theorem kp:∀ (b:List Int){s:Int},(0≤s∧s<65536)→(∀ x,x∈b→0≤x∧x<256)→0≤cO s b∧cO s b<65536
  | [],s,hs,_=>hs
  | c :: b,s,hs,hb=>kp b (pH hs (hb c (List.mem_cons_self ..))) fun x hx=>hb x (List.mem_cons_of_mem _ hx)
theorem ym(s:Int)(a b:List Int) : cO s (a++b)=cO (cO s a) b:=by unfold cO;rw[List.foldl_append]
def bX (s:Int) : List Int:=[s%256,s/256%256]
theorem jt(s:Int) : (bX s).length=2:=rfl
def eC (b:List Int) : Bool:=decide (2≤b.length)&&decide (bX (cO 65535 (b.take (b.length-2)))=b.drop (b.length-2))
open Go.RowKit
def DH (P:Program)(ty:TypeId) : Option (Nat × TypeId):=match P.underlying ty with | some (.array m e)=>some (m,e) | _=>none
theorem yq{P:Program}{ty e:TypeId}{m:Nat}(h:DH P ty=some (m,e)) : P.underlying ty=some (.array m e):=by
  unfold DH at h
  split at h
  · injection h with h
    injection h with h1 h2
    subst h1 h2
    assumption
  · cases h
theorem w7{P:Program}{w:World}{ev:Operand→Value}{o:Oper}{t e:TypeId}{x ix:Operand}{b off j m:Nat}{k:IntKind}{i:Int}(ho:o.op = .indexAddr t x ix)(ht:P.underlying t=some (.array m e))(hi:(P.info? e).map (·.size)=some 1)
    (hx:ev x = .pointer (some ⟨b,off,none⟩)) (hix:ev ix = .int k i) (hj:i=j) (hlt:j<m) : (execOp ev o).run P w = .ok (.value (.pointer (some ⟨b,off+j,none⟩))) w:=by
  subst hj
  obtain⟨i0,hi0,hs⟩:=Option.map_eq_some_iff.1 hi
  unfold execOp
  have h2:(0:Int)≤(j:Int)∧(j:Int)<(m:Int):=by omega
  simp[ho,hx,hix,Instr.indexAt,Instr.sureAddr,asIntOf,run_underlying ht,Result.andThen,h2,sizeOf,typeInfo,hi0,hs,jI,hlt]
section
variable {P:Program}{n:Nat}{D:List Deferred}{F:Fr}{w:World}{K:Fr→World→Prop}{Q:Exit→Act→World→Prop}{d:Option Tmp}{t:TypeId}{s:String}{af:Array Edge}{gu:Option (Nat × Bool)}
theorem DQ{ty:TypeId}{x ix:Operand}{b off:Nat}(m j:Nat)(i:Int)(hj:i=j)(hlt:j<m)(h:K (pt d (.pointer (some ⟨b,off+j,none⟩)) F) w)
    (hx:eg F x=some (.pointer (some ⟨b,off,none⟩)):=by kernel_rfl) (hi:A8 F ix=some i:=by kernel_rfl) (hs:((DH P ty).bind fun p=>(P.info? p.2).map fun q=>(p.1,q.size),eU n d)=(some (m,1),true):=by kernel_rfl) : OG P ⟨d,.indexAddr ty x ix,t,s,af,gu⟩ n D F w K Q:=by
  simp only[Prod.mk.injEq] at hs
  obtain⟨hs,hd⟩:=hs
  obtain⟨k,hi⟩:=na hi
  cases he:DH P ty with
  | none=>rw[he] at hs;simp at hs
  | some p =>
    obtain⟨m',e⟩:=p
    rw[he] at hs
    obtain⟨q,hq,h3⟩:=Option.map_eq_some_iff.1 (show(P.info? e).map (fun q=>(m',q.size))=some (m,1) from hs)
    injection h3 with h4 h5
    subst h4
    exact⟨fun a ha K' hK=>gi _ rfl (w7 rfl (yq he) (by rw[hq];simp[h5]) (ha.ev hx) (ha.ev hi) hj hlt) (hK _ _ _ h (ha.put hd))⟩
end
theorem Dh{a b:Int}(ha:0≤a∧a<256)(hb:0≤b∧b<256) : bits .xor .u8 a b=xi a b:=u8_xor a b ha.1 ha.2 hb.1 hb.2
theorem zb{a b:Int}(ha:0≤a∧a<65536)(hb:0≤b∧b<65536) : bits .xor .u16 a b=xi a b:=u16_xor a b ha.1 ha.2 hb.1 hb.2
theorem yU{a:Int}(ha:0≤a∧a<65536) : bits .and .u16 a 1=a%2:=by
  rw[u16_and a 1 ha.1 ha.2 (by omega) (by omega)]
  show((a.toNat &&& 1:Nat) : Int)=_
  rw[Nat.and_one_is_mod]
  omega
def iL (k:Nat) : Array Value:=((List.range 256).map fun i=>if i<k then Value.int .u16 (lH i) else Value.int .u16 0).toArray
theorem cW(k:Nat) : (iL k).size=256:=by simp[iL]
theorem qg(k:Nat) : (iL k).all (·.oneCell')=true:=by
  unfold iL
  rw[List.all_toArray,List.all_eq_true]
  intro v hv
  rw[List.mem_map] at hv
  obtain⟨i,_,rfl⟩:=hv
  split<;>rfl
theorem xb{i k:Nat}(hk:k=8)(hi:i<256) : (iL i).setIfInBounds i (.int .u16 ((j6 k i:Nat) : Int))=iL (i+1):=by
  subst hk
  unfold iL
  rw[List.setIfInBounds_toArray]
  congr 1
  apply List.ext_getElem?
  intro j
  rw[List.getElem?_set]
  by_cases hj:j<256
  · by_cases hij:i=j
    · subst hij
      simp[hi,lH,A7]
    · simp[hij,hj]
      congr 1
      simp only[eq_iff_iff]
      omega
  · rw[if_neg (by omega)]
    simp[hj]
theorem Bm{i:Nat}(h:i<256) : (iL 256)[i]? = some (.int .u16 (lH i)):=by simp[iL,h]
def eW (s:Int)(b:List Int) : Nat→Int
  | 0=>s
  | k+1=>tv (eW s b k) (b.getD k 0)
theorem oA(s:Int)(b:List Int) : ∀ k,k≤b.length→eW s b k=cO s (b.take k)
  | 0,_=>by simp[eW,cO]
  | k+1,h=>by
    rw[List.take_succ_eq_append_getElem (by omega),ym,← oA s b k (by omega)]
    show tv _ (b.getD k 0)=_
    rw[List.getD_eq_getElem?_getD,List.getElem?_eq_getElem (by omega)]
    rfl
theorem yt{s:Int}{b:List Int}{k:Nat}(h:k=b.length) : eW s b k=cO s b:=by
  subst h
  rw[oA _ _ _ (Nat.le_refl _),List.take_length]
theorem pO{s:Int}{b:List Int}(hs:0≤s∧s<65536)(hb:∀ x,x∈b→0≤x∧x<256) : ∀ k,0≤eW s b k∧eW s b k<65536
  | 0=>hs
  | k+1=>pH (pO hs hb k) (i6 (by omega) hb k)
theorem yR{i:Int}(h:0≤i) : lH ((i.toNat:Nat) : Int)=lH i:=by rw[Int.toNat_of_nonneg h]
open Go.RowKit
theorem pA{w:World}:Calls Tryz.prog 258 #[] w (bS (.agg (iL 256)) w):=by
 refine en 23 Tryz.func258 rfl<|sg<|aO (iL 0) fun c F n o p=>ng<|aO (iL 0) fun a q r s t=>nt<|sq<|sg<|?_
 refine al 1<|bk<|?_
 refine jZ (fun x=>[(0,vP c 0),(1,vP a 0),(4,vI ((x:Nat) : Int))]) (fun(x:Nat) w'=>ay [a] q w'∧w'.heap[a]? = some (.cells (iL x) 247 (0,0))∧(x≤256)) (fun x=>256-x) 0 ⟨ay.refl _ _,s,(by(try dsimp only);omega)⟩ ?_
 rintro i g ⟨h,u,v⟩
 refine iW [(0,vP c 0),(1,vP a 0),(4,vI ((i:Nat) : Int))] ?_
 have j:g.heap[a]? = some (.cells (iL i) 247 (0,0)):=u
 have G:i≤256:=v
 refine aB 1<|sq<|?_
 have l:=ud t h r
 refine cb ((decide (((i:Nat) : Int)<256))) (fun d=>?_) (fun d=>?_)
 have y:=of_decide_eq_true d
 refine bM<|sq<|bk<|aA 2<|aU 1<|L0<|Oe (vW (IntKind.u16.wrap ((i:Nat) : Int))) (vW ((j6 0 i:Nat) : Int)) (congrArg (Value.int .u16) (rP (x:=((i:Nat) : Int)) (by omega)))<|Pl 1<|nl<|?_
 refine tn<|sq<|aB 1<|bk<|?_
 refine jZ (fun x=>[(0,vP c 0),(1,vP a 0),(2,vI ((i:Nat) : Int)),(3,vW ((j6 x i:Nat) : Int)),(4,vI ((i:Nat) : Int)),(5,.bool (decide (((i:Nat) : Int)<256))),(6,vI ((i:Nat) : Int)),(7,vI ((i:Nat) : Int)),(8,vW ((j6 0 i:Nat) : Int)),(9,vI ((x:Nat) : Int))]) (fun(x:Nat) w'=>ay [] g w'∧(x≤8)) (fun x=>8-x) 0 ⟨ay.refl _ _,(by(try dsimp only);omega)⟩ ?_
 rintro k H ⟨e,z⟩
 refine iW [(0,vP c 0),(1,vP a 0),(2,vI ((i:Nat) : Int)),(3,vW ((j6 k i:Nat) : Int)),(4,vI ((i:Nat) : Int)),(5,.bool (decide (((i:Nat) : Int)<256))),(6,vI ((i:Nat) : Int)),(7,vI ((i:Nat) : Int)),(8,vW ((j6 0 i:Nat) : Int)),(9,vI ((k:Nat) : Int))] ?_
 have I:k≤8:=z
 have J:=pp (x:=i) (by omega) k
 refine aB 1<|sq<|?_
 refine cb ((decide (((k:Nat) : Int)<8))) (fun f=>?_) (fun f=>?_)
 have A:=of_decide_eq_true f
 refine bM<|sq<|bk<|go<|Pl 1<|L0<|Oe (vW (Int.fdiv ((j6 k i:Nat) : Int) (2 ^ 1))) (vW (((j6 k i:Nat) : Int)/2)) (congrArg (Value.int .u16) (lS _ _ _ (by decide)))<|Pl 1<|L0<|Oe (vW (bits .and .u16 ((j6 k i:Nat) : Int) 1)) (vW (((j6 k i:Nat) : Int)%2)) (congrArg (Value.int .u16) (yU (by omega)))<|Pl 1<|L0<|Oe (vW (bits .xor .u16 (((j6 k i:Nat) : Int)/2) (((((j6 k i:Nat) : Int)%2)*40961)%65536))) (vW ((j6 (k+1) i:Nat) : Int)) (congrArg (Value.int .u16) ((zb (by omega) (by omega)).trans (AT _)))<|Pl 1<|nl<|bn<|?_
 exact tn<|go<|bD (((k:Nat) : Int)+1)<|Pl 1<|nl<|fD (k+1) ⟨e,(by(try dsimp only);omega)⟩ (by omega)
 have A:=of_decide_eq_false f
 refine xt<|tx<|tx<|bx<|tn<|go<|Pl 2<|L0<|DQ (b:=a) (off:=0) 256 i ((i:Nat) : Int) rfl (by omega)<|?_
 refine L0<|cA (hl:=(by rw[cW];simp;omega)) (ub e j) (0+i) ((iL i).setIfInBounds (0+i) (vW ((j6 k i:Nat) : Int))) fun K B C=>?_
 have m:=B
 rw[Nat.zero_add,xb (by omega) (by omega)] at m
 refine nl<|bn<|tn<|go<|bD (((i:Nat) : Int)+1)<|Pl 1<|nl<|?_
 exact fD (i+1) ⟨(u1 h (uz e C) im),m,(by(try dsimp only);omega)⟩ (by omega)
 have y:=of_decide_eq_false d
 refine xt<|tx<|tx<|bx<|tn<|sg<|L0<|cM (hz:=(by rw[cW];kernel_rfl)) j<|?_
 refine aN (hz:=(by rw[cW];kernel_rfl)) (hv:=(Eq.trans (by first | rw[cW,cW] | rw[cW]) (Eq.symm (cW _)))) (h1:=(qg _)) (ub l o) ((iL i)) fun L D E=>t4<|EC 256 (cW _) D<|?_
 have hi:i=256:=by omega
 subst hi
 exact⟨rfl,(ud (aK p l) E n)⟩
theorem oK{m:Md}{A:Option Addr}{cp:Nat}{b:List Int}{w:World}{s:Int}(hsl:aW m w (.slice A b.length cp) b)(hs:0≤s∧s<65536) :
    Calls Tryz.prog 257 #[vW s,.slice A b.length cp] w (bS (vW (cO s b)) w):=by
 have hln:=aT.len hsl
 have hb:=aW.range hsl
 refine en 26 Tryz.func257 rfl<|aA 1<|ng<|aG<|m1 (@pA w) fun D g=>aO (iL 0) fun c E h j l=>aN (hz:=(by rw[cW];kernel_rfl)) (hv:=(Eq.trans (by first | rw[cW,cW] | rw[cW]) (Eq.symm (cW _)))) (h1:=(qg _)) j ((iL 256)) fun n o q=>nt<|sq<|aB 3<|bk<|?_
 refine jZ (fun x=>[(0,vW (eW s b x)),(4,vW 0),(5,vP c 0),(9,.slice A b.length cp),(10,vI (b.length:Int)),(11,vI ((x:Nat) : Int))]) (fun(x:Nat) w'=>ay [] n w'∧(x≤b.length)∧(0≤eW s b x∧eW s b x<65536)) (fun x=>b.length-x) 0 ⟨ay.refl _ _,(by(try dsimp only);omega),hs⟩ ?_
 rintro k F ⟨d,r,t⟩
 refine iW [(0,vW (eW s b k)),(4,vW 0),(5,vP c 0),(9,.slice A b.length cp),(10,vI (b.length:Int)),(11,vI (k:Int))] ?_
 have G:k≤b.length:=r
 have H:0≤eW s b k∧eW s b k<65536:=t
 refine aB 1<|sq<|?_
 have f:=aK g (ud l (aK q d) h)
 refine cb ((decide ((k:Int)<(b.length:Int)))) (fun e=>?_) (fun e=>?_)
 have u:=of_decide_eq_true e
 refine bM<|sq<|bk<|sg<|?_
 refine kf (aW.at_ (aW.old hsl f) k (by omega)) fun y z B C I=>L0<|lW b.length k B (by omega)<|L0<|jO (p:=⟨y,z+k,none⟩) (v:=vB (b.getD k 0)) C<|al 1<|go<|Pl 1<|L0<|Oe (vW (Int.fdiv (eW s b k) (2 ^ 8))) (vW ((eW s b k)/256)) (congrArg (Value.int .u16) (lS _ _ _ (by decide)))<|Pl 3<|?_
 have J:=FA (a:=((eW s b k)%256)) (b:=(b.getD k 0)) (by omega) (by omega)
 refine L0<|Oe (vB (bits .xor .u8 ((eW s b k)%256) (b.getD k 0))) (vB (xi ((eW s b k)%256) (b.getD k 0))) (congrArg (Value.int .u8) (Dh (by omega) (by omega)))<|L0<|DQ (b:=c) (off:=0) 256 (((xi ((eW s b k)%256) (b.getD k 0))).toNat) (xi ((eW s b k)%256) (b.getD k 0)) (by omega) (by omega)<|?_
 have K:=qG (i:=(xi ((eW s b k)%256) (b.getD k 0))) (by omega)
 exact L0<|jO (p:=⟨c,0+((xi ((eW s b k)%256) (b.getD k 0))).toNat,none⟩) (v:=vW (lH ((xi ((eW s b k)%256) (b.getD k 0))))) (ae (ub d o) (by rw[Nat.zero_add,Bm (by omega),yR (by omega)]))<|L0<|Oe (vW (bits .xor .u16 ((eW s b k)/256) (lH (xi ((eW s b k)%256) (b.getD k 0))))) (vW (eW s b (k+1))) (congrArg (Value.int .u16) (zb (by omega) (qG (by omega))))<|Pl 1<|nl<|bn<|tn<|go<|bD ((k:Int)+1)<|Pl 1<|nl<|fD (k+1) ⟨d,(by(try dsimp only);omega),(pO hs hb _)⟩ (by omega)
 have u:=of_decide_eq_false e
 refine xt<|tx<|tx<|bx<|tn<|aB 2<|rt<|rr (vW (eW s b k))<|?_
 have hk:eW s b k=cO s b:=yt (by omega)
 rw[hk]
 exact⟨rfl,f⟩
theorem rB{m:Md}{v:Value}{b:List Int}{w:World}(h:aW m w v b) : Calls Tryz.prog 257 #[.int .u16 65535,v] w (bS (.int .u16 (cO 65535 b)) w):=by
  obtain⟨A,cp,rfl,_,_⟩:=h.shape
  exact oK h (by decide)
theorem sY{m:Md}{A:Option Addr}{cp:Nat}{b:List Int}{w:World}(hsl:aW m w (.slice A b.length cp) b) :
    Calls Tryz.prog 256 #[.slice A b.length cp] w (bS (vW (cO 65535 b)) w):=by
 exact en 5 Tryz.func256 rfl<|aA 1<|aU 1<|aG<|m1 (rB hsl) fun c a=>al 1<|rt<|rr (vW (cO 65535 b))<|⟨rfl,a⟩
theorem lb{m:Md}{v:Value}{b:List Int}{w:World}(h:aW m w v b) : Calls Tryz.prog 256 #[v] w (bS (.int .u16 (cO 65535 b)) w):=by
  obtain⟨A,cp,rfl,_,_⟩:=h.shape
  exact sY h
theorem ir{w:World}{s:Int}(hs:0≤s∧s<65536) : Calls Tryz.prog 255 #[vW s] w (fun e w'=>∃ v,e = .returned v∧cG w.heap.size w' v (bX s)∧ay [] w w'):=by
 refine en 9 Tryz.func255 rfl<|aA 1<|aU 3<|L0<|Oe (vW (Int.fdiv s (2 ^ 8))) (vW (s/256)) (congrArg (Value.int .u16) (lS _ _ _ (by decide)))<|Pl 1<|L0<|dX (m:=2) (e:=5) #[vB (s%256),vB ((s/256)%256)] fun a g b c d=>?_
 have f:=dZ b (xs:=[(s%256),((s/256)%256)]) (by as_aux_lemma=>kernel_rfl) (ax (by omega) (ax (by omega) b9)) (by(try simp only[List.length_cons,List.length_nil]);omega) c
 exact al 1<|rt<|rr (.slice (some ⟨a,0,none⟩) 2 2)<|⟨_,rfl,f,d⟩
theorem lP{b:List Int}{n:Nat}(h:2≤b.length)(hn:n=b.length-2) : eC b=decide (bX (cO 65535 (b.take n))=b.drop n):=by
  subst hn
  unfold eC
  simp[h]
theorem zI{b:List Int}(h:b.length<2) : eC b=false:=by
  unfold eC
  simp
  omega
theorem sN{m:Md}{A:Option Addr}{cp:Nat}{b:List Int}{w:World}(hsl:aW m w (.slice A b.length cp) b)(hb:b.length≤1048576)(hcp:b.length≤cp) :
    Calls Tryz.prog 254 #[.slice A b.length cp] w (bS (.bool (eC b)) w):=by
 have hc:=aT.len hsl
 refine en 22 Tryz.func254 rfl<|aA 1<|aU 2<|bD ((b.length:Int)-2)<|al 1<|sq<|?_
 refine Rg 16 (fun w'=>True) fun R f=>bi trivial fun d=>Rt 0 d<|Rt 1 d<|Rt 2 d<|zv 9 ((decide (0≤((b.length:Int)-2)))) (fun p=>?_) (fun p=>?_)
 have I:=of_decide_eq_true p
 refine Rt 3 d<|Rt 4 d<|xc (BB (P:=Tryz.prog) 27 5 1 Tryz.underlying27 rfl rfl A b.length cp (k:=((b.length:Int)-2)) ((((b.length:Int)-2)).toNat) (by omega) (by omega) (by omega)) fun q hrun60 i=>Rr 5 d (.slice q ((((b.length:Int)-2)).toNat) cp) (fun _ _=>kc (kl:=.i64) (k:=((b.length:Int)-2)) (A:=A) (n:=b.length) (c:=cp) rfl Tryz.underlying27 (by kernel_rfl) (by kernel_rfl) (hrun60 _ _))<|Rt 9 d<|Rt 10 d<|xc (oC (P:=Tryz.prog) 27 5 1 Tryz.underlying27 rfl rfl A b.length cp (lo:=((b.length:Int)-2)) ((((b.length:Int)-2)).toNat) (by omega) (by omega)) fun g hrun63 e=>Rr 11 d (.slice g (b.length-((((b.length:Int)-2)).toNat)) (cp-((((b.length:Int)-2)).toNat))) (fun _ _=>fW (kl:=.i64) (k:=((b.length:Int)-2)) (A:=A) (n:=b.length) (c:=cp) rfl Tryz.underlying27 (by kernel_rfl) (by kernel_rfl) (hrun63 _ _))<|R2 6 12 rfl rfl ?_ ?_
 have h:=aW.old hsl f
 refine  Oc (args:=#[.slice q ((((b.length:Int)-2)).toNat) cp])<|m1 (lb (i _ _ _ _ _ h)) fun S j=>?_
 have T:=kp (b.take ((((b.length:Int)-2)).toNat)) (s:=65535) (by decide) (aW.range (i _ _ _ _ _ h))
 refine bi trivial fun U=>?_
 refine R2 7 12 rfl rfl ?_ ?_
 refine  Oc<|fC (ir (s:=(cO 65535 (b.take ((((b.length:Int)-2)).toNat)))) (by omega)) fun x y V l W X z=>bi trivial fun Y=>?_
 refine R2 8 12 rfl rfl ?_ ?_
 refine  jv (.string (strOfNums (bX (cO 65535 (b.take ((((b.length:Int)-2)).toNat)))))) (cz (A:=x) (n:=(bX (cO 65535 (b.take ((((b.length:Int)-2)).toNat)))).length) (c:=y) rfl (by kernel_rfl) Tryz.underlying27 Tryz.underlying5 Tryz.underlying9 (l).rd)<|bi trivial fun Z=>?_
 have B:=aK j z
 have C:=aW.old h B
 refine R0 12 rfl<|jv (.string (strOfNums (b.drop ((((b.length:Int)-2)).toNat)))) (cz (A:=g) (n:=(b.length-((((b.length:Int)-2)).toNat))) (c:=(cp-((((b.length:Int)-2)).toNat))) rfl (by kernel_rfl) Tryz.underlying27 Tryz.underlying5 Tryz.underlying9 (e _ _ _ _ _ C))<|bi trivial fun r=>Rr 13 r (.bool (decide ((bX (cO 65535 (b.take ((((b.length:Int)-2)).toNat))))=(b.drop ((((b.length:Int)-2)).toNat))))) (fun _ _=>eF (a:=(strOfNums (bX (cO 65535 (b.take ((((b.length:Int)-2)).toNat)))))) (b:=(strOfNums (b.drop ((((b.length:Int)-2)).toNat)))) rfl (by kernel_rfl) (by kernel_rfl) (jy (l).rd (e _ _ _ _ _ C)))<|Rt 14 r<|Rt 15 r<|re<|tn<|rt<|rr (.bool (decide ((bX (cO 65535 (b.take ((((b.length:Int)-2)).toNat))))=(b.drop ((((b.length:Int)-2)).toNat)))))<|?_
 have hs:eC b=(decide ((bX (cO 65535 (b.take ((((b.length:Int)-2)).toNat))))=(b.drop ((((b.length:Int)-2)).toNat)))):=(lP (by omega) (by omega))
 rw[hs]
 exact⟨rfl,(aK f B)⟩
 have D:=aK j z
 have E:=aW.old h D
 refine  jv (.string (strOfNums (b.drop ((((b.length:Int)-2)).toNat)))) (cz (A:=g) (n:=(b.length-((((b.length:Int)-2)).toNat))) (c:=(cp-((((b.length:Int)-2)).toNat))) rfl (by kernel_rfl) Tryz.underlying27 Tryz.underlying5 Tryz.underlying9 (e _ _ _ _ _ E))<|bi trivial fun a0=>R0 8 rfl<|jv (.string (strOfNums (bX (cO 65535 (b.take ((((b.length:Int)-2)).toNat)))))) (cz (A:=x) (n:=(bX (cO 65535 (b.take ((((b.length:Int)-2)).toNat)))).length) (c:=y) rfl (by kernel_rfl) Tryz.underlying27 Tryz.underlying5 Tryz.underlying9 (l).rd)<|bi trivial fun t=>Rr 13 t (.bool (decide ((bX (cO 65535 (b.take ((((b.length:Int)-2)).toNat))))=(b.drop ((((b.length:Int)-2)).toNat))))) (fun _ _=>eF (a:=(strOfNums (bX (cO 65535 (b.take ((((b.length:Int)-2)).toNat)))))) (b:=(strOfNums (b.drop ((((b.length:Int)-2)).toNat)))) rfl (by kernel_rfl) (by kernel_rfl) (jy (l).rd (e _ _ _ _ _ E)))<|Rt 14 t<|Rt 15 t<|re<|tn<|rt<|rr (.bool (decide ((bX (cO 65535 (b.take ((((b.length:Int)-2)).toNat))))=(b.drop ((((b.length:Int)-2)).toNat)))))<|?_
 have hs:eC b=(decide ((bX (cO 65535 (b.take ((((b.length:Int)-2)).toNat))))=(b.drop ((((b.length:Int)-2)).toNat)))):=(lP (by omega) (by omega))
 rw[hs]
 exact⟨rfl,(aK f D)⟩
 have F:=aW.old h j
 refine  jv (.string (strOfNums (b.drop ((((b.length:Int)-2)).toNat)))) (cz (A:=g) (n:=(b.length-((((b.length:Int)-2)).toNat))) (c:=(cp-((((b.length:Int)-2)).toNat))) rfl (by kernel_rfl) Tryz.underlying27 Tryz.underlying5 Tryz.underlying9 (e _ _ _ _ _ F))<|bi trivial fun a1=>R0 7 rfl<|Oc<|fC (ir (s:=(cO 65535 (b.take ((((b.length:Int)-2)).toNat)))) (by omega)) fun J K a2 G a3 a4 L=>bi trivial fun a5=>R0 8 rfl<|jv (.string (strOfNums (bX (cO 65535 (b.take ((((b.length:Int)-2)).toNat)))))) (cz (A:=J) (n:=(bX (cO 65535 (b.take ((((b.length:Int)-2)).toNat)))).length) (c:=K) rfl (by kernel_rfl) Tryz.underlying27 Tryz.underlying5 Tryz.underlying9 (G).rd)<|bi trivial fun u=>Rr 13 u (.bool (decide ((bX (cO 65535 (b.take ((((b.length:Int)-2)).toNat))))=(b.drop ((((b.length:Int)-2)).toNat))))) (fun _ _=>eF (a:=(strOfNums (bX (cO 65535 (b.take ((((b.length:Int)-2)).toNat)))))) (b:=(strOfNums (b.drop ((((b.length:Int)-2)).toNat)))) rfl (by kernel_rfl) (by kernel_rfl) (jy (G).rd (e _ _ _ _ _ F)))<|Rt 14 u<|Rt 15 u<|re<|tn<|rt<|rr (.bool (decide ((bX (cO 65535 (b.take ((((b.length:Int)-2)).toNat))))=(b.drop ((((b.length:Int)-2)).toNat)))))<|?_
 have hs:eC b=(decide ((bX (cO 65535 (b.take ((((b.length:Int)-2)).toNat))))=(b.drop ((((b.length:Int)-2)).toNat)))):=(lP (by omega) (by omega))
 rw[hs]
 exact⟨rfl,(aK f (aK j L))⟩
 have o:=aW.old hsl f
 refine  jv (.string (strOfNums (b.drop ((((b.length:Int)-2)).toNat)))) (cz (A:=g) (n:=(b.length-((((b.length:Int)-2)).toNat))) (c:=(cp-((((b.length:Int)-2)).toNat))) rfl (by kernel_rfl) Tryz.underlying27 Tryz.underlying5 Tryz.underlying9 (e _ _ _ _ _ o))<|bi trivial fun a6=>R0 6 rfl<|Oc (args:=#[.slice q ((((b.length:Int)-2)).toNat) cp])<|m1 (lb (i _ _ _ _ _ o)) fun a7 M=>?_
 have a8:=kp (b.take ((((b.length:Int)-2)).toNat)) (s:=65535) (by decide) (aW.range (i _ _ _ _ _ o))
 refine bi trivial fun a9=>R0 7 rfl<|Oc<|fC (ir (s:=(cO 65535 (b.take ((((b.length:Int)-2)).toNat)))) (by omega)) fun N O aa H ab ac Q=>bi trivial fun ad=>R0 8 rfl<|jv (.string (strOfNums (bX (cO 65535 (b.take ((((b.length:Int)-2)).toNat)))))) (cz (A:=N) (n:=(bX (cO 65535 (b.take ((((b.length:Int)-2)).toNat)))).length) (c:=O) rfl (by kernel_rfl) Tryz.underlying27 Tryz.underlying5 Tryz.underlying9 (H).rd)<|bi trivial fun v=>Rr 13 v (.bool (decide ((bX (cO 65535 (b.take ((((b.length:Int)-2)).toNat))))=(b.drop ((((b.length:Int)-2)).toNat))))) (fun _ _=>eF (a:=(strOfNums (bX (cO 65535 (b.take ((((b.length:Int)-2)).toNat)))))) (b:=(strOfNums (b.drop ((((b.length:Int)-2)).toNat)))) rfl (by kernel_rfl) (by kernel_rfl) (jy (H).rd (e _ _ _ _ _ o)))<|Rt 14 v<|Rt 15 v<|re<|tn<|rt<|rr (.bool (decide ((bX (cO 65535 (b.take ((((b.length:Int)-2)).toNat))))=(b.drop ((((b.length:Int)-2)).toNat)))))<|?_
 have hs:eC b=(decide ((bX (cO 65535 (b.take ((((b.length:Int)-2)).toNat))))=(b.drop ((((b.length:Int)-2)).toNat)))):=(lP (by omega) (by omega))
 rw[hs]
 exact⟨rfl,(aK f (aK M Q))⟩
 have I:=of_decide_eq_false p
 refine Ro 3 d<|Ro 4 d<|Ro 5 d<|Ro 6 d<|Ro 7 d<|Ro 8 d<|Ro 9 d<|Ro 10 d<|Ro 11 d<|Ro 12 d<|Ro 13 d<|Rt 14 d<|Rt 15 d<|re<|tn<|rt<|rr (.bool false)<|?_
 have hs:eC b=false:=(zI (by omega))
 rw[hs]
 exact⟨rfl,f⟩
theorem uN{m:Md}{v:Value}{b:List Int}{w:World}(h:aW m w v b)(hb:b.length≤1048576) : Calls Tryz.prog 254 #[v] w (bS (.bool (eC b)) w):=by
  obtain⟨A,cp,rfl,hc,_⟩:=h.shape
  exact sN h hb hc
open Go.RowKit
def gD (b:List Int) : List Int:=(b.take (b.length-2)).drop 1
theorem ma(b:List Int) : gD b=(b.take (((b.length:Nat) : Int)-2).toNat).drop 1:=by
  unfold gD
  rw[show(((b.length:Nat) : Int)-2).toNat=b.length-2 from by omega]
def eN (dir:Int)(b:List Int) : aM × Int :=
  if dir != 0&&dir != 1 then (aM.zero,1)
  else if decide ((b.length:Int)<4) then (aM.zero,2)
  else if decide (256<(b.length:Int)) then (aM.zero,3)
  else if !(eC b) then (aM.zero,10)
  else di (b.getD 0 0) 0 (db dir (gD b))
theorem s6{m:Md}{A:Option Addr}{cp:Nat}{b:List Int}{w:World}{dir:Int}(hsl:aW m w (.slice A b.length cp) b)(hb:b.length≤1048576)(hcp:b.length≤cp) :
    Calls Tryz.prog 253 #[vI dir,.slice A b.length cp] w (oT (eN dir b) w):=by
 have hln:(b.length:Int)≤1048576:=by omega
 refine en 51 Tryz.func253 rfl<|sg<|aO #[vB 0,vW 0,vB 0,vB 0,vW 0,vW 0,vW 0,vW 0,vW 0,vW 0,vW 0,vW 0,vW 0,vW 0,nS,nS,nS,nS,vB 0,vB 0,vB 0,vB 0,vB 0,nS] fun aX aY j e B=>al 1<|sq<|bk<|aA 3<|ij 3 [11] 14 11 (dir != 0) (dir != 1) (fun K a3 a4=>?_) ?_
 have b0:=aR a4
 exact Pl 3<|ce a3 _ rfl
 refine al 1<|cb (((dir != 0)&&(dir != 1))) (fun d=>?_) (fun d=>?_)
 have N:=(bW d).1
 have O:=(bW d).2
 have b1:=aR N
 have b2:=aR O
 refine aA 1<|aN e #[vB 0,vW 0,vB 0,vB 0,vW 0,vW 0,vW 0,vW 0,vW 0,vW 0,vW 0,vW 0,vW 0,vW 0,nS,nS,nS,nS,vB 0,vB 0,vB 0,vB 0,vB 0,nS] fun b3 a5 a6=>al 1<|rt<|br<|tr<|eA a5 (vI 1)<|?_
 have hs:eN dir b=(aM.zero,1):=by
   unfold eN
   (try simp only[d,N,O,bC,di,reduceIte])
   all_goals rfl
 refine eu hs ?_
 exact d9 (ud B a6 j)
 refine aB 4<|cb ((decide ((b.length:Int)<4))) (fun f=>?_) (fun f=>?_)
 have a7:=of_decide_eq_true f
 refine aA 1<|aN e #[vB 0,vW 0,vB 0,vB 0,vW 0,vW 0,vW 0,vW 0,vW 0,vW 0,vW 0,vW 0,vW 0,vW 0,nS,nS,nS,nS,vB 0,vB 0,vB 0,vB 0,vB 0,nS] fun b4 a8 a9=>al 1<|rt<|br<|tr<|eA a8 (vI 2)<|?_
 have hs:eN dir b=(aM.zero,2):=by
   unfold eN
   (try simp only[d,f,bC,di,reduceIte])
   all_goals rfl
 refine eu hs ?_
 exact d9 (ud B a9 j)
 have a7:=of_decide_eq_false f
 refine aB 4<|cb ((decide (256<(b.length:Int)))) (fun h=>?_) (fun h=>?_)
 have aa:=of_decide_eq_true h
 refine aA 1<|aN e #[vB 0,vW 0,vB 0,vB 0,vW 0,vW 0,vW 0,vW 0,vW 0,vW 0,vW 0,vW 0,vW 0,vW 0,nS,nS,nS,nS,vB 0,vB 0,vB 0,vB 0,vB 0,nS] fun b5 ab ac=>al 1<|rt<|br<|tr<|eA ab (vI 3)<|?_
 have hs:eN dir b=(aM.zero,3):=by
   unfold eN
   (try simp only[d,f,h,bC,di,reduceIte])
   all_goals rfl
 refine eu hs ?_
 exact d9 (ud B ac j)
 have aa:=of_decide_eq_false h
 refine aA 1<|?_
 have Q:=aW.old hsl B
 refine aG (args:=#[.slice A b.length cp])<|m1 (uN Q (by omega)) fun ad i=>al 2<|?_
 have I:=aK B i
 refine cb ((!(eC b))) (fun k=>?_) (fun k=>?_)
 have F:(eC b)=false:=by simpa using k
 refine aA 1<|?_
 refine aN (ub i e) #[vB 0,vW 0,vB 0,vB 0,vW 0,vW 0,vW 0,vW 0,vW 0,vW 0,vW 0,vW 0,vW 0,vW 0,nS,nS,nS,nS,vB 0,vB 0,vB 0,vB 0,vB 0,nS] fun b7 ae af=>al 1<|rt<|br<|tr<|eA ae (vI 10)<|?_
 have hs:eN dir b=(aM.zero,10):=by
   unfold eN
   (try simp only[d,f,h,k,F,bC,di,reduceIte])
   all_goals rfl
 refine eu hs ?_
 exact d9 (ud I af j)
 have F:(eC b)=true:=by simpa using k
 refine sk<|bn<|tn<|aA 4<|bD ((b.length:Int)-2)<|xc (tB (P:=Tryz.prog) 27 5 1 Tryz.underlying27 rfl rfl A b.length cp (lo:=1) (up:=((b.length:Int)-2)) 1 ((((b.length:Int)-2)).toNat) (by omega) (by omega) (by omega) (by omega) (by omega)) fun ah hrun43 ai=>L0<|jv (.slice ah (((((b.length:Int)-2)).toNat)-1) (cp-1)) (nK (kl:=.i64) (kh:=.i64) (lo:=1) (hi:=((b.length:Int)-2)) (A:=A) (n:=b.length) (c:=cp) rfl Tryz.underlying27 (by kernel_rfl) (by kernel_rfl) (by kernel_rfl) (hrun43 _ _ _))<|?_
 obtain⟨a,C,J⟩ : ∃ M E,db dir ((b.take ((((b.length:Int)-2)).toNat)).drop 1)=(M,E):=⟨_,_,rfl⟩
 have R:=aW.old Q i
 have S:=kS (dir:=dir) (w:=ad) (ai _ _ _ _ _ R) (by rw[List.length_drop,List.length_take];omega)
 rw[J] at S
 refine aG<|e2 S fun aj b9 T L=>?_
 have ak:=T
 obtain⟨an,ao,ap,aq,ar,au,av,aw,ax,ay,az,ba⟩:=ak
 obtain rfl:aj=(eG a an ao ap aq ar).toArray:=by apply Array.toList_inj.1;simpa using au
 obtain⟨l,o,rfl,_,_⟩:=av.shape
 obtain⟨p,q,rfl,_,_⟩:=aw.shape
 obtain⟨r,s,rfl,_,_⟩:=ax.shape
 obtain⟨t,u,rfl,_,_⟩:=ay.shape
 obtain⟨v,y,rfl,_,_⟩:=az.shape
 refine Pl 3<|aO mZ fun U bb V aC aD=>aN aC (mG a.code a.fail a.addr a.count a.value a.and_ a.or_ a.addr2 a.sub a.status a.events a.messages (.slice l a.words.length o) (.slice p a.bits.length q) (.slice r a.data.length s) (.slice t a.recs.length u) a.mei a.kind a.level a.more a.next (.slice v a.objects.length y)) fun bc aE aF=>al 1<|sq<|aB 2<|?_
 have W:=ud aD aF V
 have G:=aK L W
 have X:=aK I G
 refine cb ((C != 0)) (fun D=>?_) (fun D=>?_)
 have aI:=aR D
 refine aA 2<|?_
 refine aN (ub (aK i G) e) #[vB 0,vW 0,vB 0,vB 0,vW 0,vW 0,vW 0,vW 0,vW 0,vW 0,vW 0,vW 0,vW 0,vW 0,nS,nS,nS,nS,vB 0,vB 0,vB 0,vB 0,vB 0,nS] fun bd aJ aL=>al 1<|bQ<|eA aJ (vI C)<|?_
 have hX2:db dir (gD b)=(a,C):=(congrArg (db dir) (ma b)).trans J
 have hs:eN dir b=(aM.zero,C):=by
   unfold eN
   (try simp only[d,f,h,k,F,D,bC,di,hX2,reduceIte])
   all_goals rfl
 refine eu hs ?_
 exact d9 (ud X aL j)
 have aI:=aZ D
 refine bM<|sq<|?_
 refine kf (aW.at_ (aW.old R G) 0 (by omega)) fun aQ aS Y aT be=>Rg 8 (fun w'=>w'.cell? ⟨aQ,aS+0,none⟩=some (vB (b.getD 0 0))∧w'.heap[U]? = some (.cells (mG a.code a.fail a.addr a.count a.value a.and_ a.or_ a.addr2 a.sub a.status a.events a.messages (.slice l a.words.length o) (.slice p a.bits.length q) (.slice r a.data.length s) (.slice t a.recs.length u) a.mei a.kind a.level a.more a.next (.slice v a.objects.length y)) 45 (0,0))) fun bg H=>?_
 have Z:=ub H aE
 refine bi ⟨(uc H aT),Z⟩ fun z=>Rt 0 z<|yJ 1 z b.length 0 0 rfl Y (by omega)<|Rl 2 z (fun _ hs=>hs.1)<|Rt 3 z<|Rr 4 z (.agg (mG a.code a.fail a.addr a.count a.value a.and_ a.or_ a.addr2 a.sub a.status a.events a.messages (.slice l a.words.length o) (.slice p a.bits.length q) (.slice r a.data.length s) (.slice t a.recs.length u) a.mei a.kind a.level a.more a.next (.slice v a.objects.length y))) (fun w' hs=>ie (g:=U) (off:=0) [vB a.code,vB a.fail,vW a.addr,vW a.count,vW a.value,vW a.and_,vW a.or_,vW a.addr2,vW a.sub,vW a.status,vW a.events,vW a.messages,.slice l a.words.length o,.slice p a.bits.length q,.slice r a.data.length s,.slice t a.recs.length u,vB a.mei,vB a.kind,vB a.level,vB a.more,vB a.next,.slice v a.objects.length y] rfl (by kernel_rfl) hs.2 (by kernel_rfl) (by kernel_rfl) rfl)<|Rt 5 z<|?_
 refine R0 6 rfl<|rL (ub (aK i (aK G H)) e) #[vB (b.getD 0 0),vW 0,vB a.code,vB a.fail,vW a.addr,vW a.count,vW a.value,vW a.and_,vW a.or_,vW a.addr2,vW a.sub,vW a.status,vW a.events,vW a.messages,.slice l a.words.length o,.slice p a.bits.length q,.slice r a.data.length s,.slice t a.recs.length u,vB a.mei,vB a.kind,vB a.level,vB a.more,vB a.next,.slice v a.objects.length y] fun bh aU a0=>?_
 have a1:=uz H a0
 have a2:=ud X a1 j
 refine bi ⟨(cB (aW.old hsl a2) Y 0 (by omega)),(bf a0 (Ne.symm (nb (ag e) (le i.size L.size) V)) Z)⟩ fun aV=>Rt 7 aV<|re<|tn<|rt<|eA aU (vI 0)<|?_
 have hX2:db dir (gD b)=(a,C):=(congrArg (db dir) (ma b)).trans J
 have hs:eN dir b=(⟨(b.getD 0 0),0,a⟩,0):=by
   unfold eN
   (try simp only[d,f,h,k,F,D,bC,di,hX2,reduceIte])
   all_goals rfl
 refine eu hs ?_
 exact⟨_,rfl,⟨#[vB a.code,vB a.fail,vW a.addr,vW a.count,vW a.value,vW a.and_,vW a.or_,vW a.addr2,vW a.sub,vW a.status,vW a.events,vW a.messages,.slice l a.words.length o,.slice p a.bits.length q,.slice r a.data.length s,.slice t a.recs.length u,vB a.mei,vB a.kind,vB a.level,vB a.more,vB a.next,.slice v a.objects.length y],(by as_aux_lemma=>kernel_rfl),(aH.lo (aH.upd T (uz W a1) (am (b6 (ub (aK i L) e) (by decide)) aP)) I.size),b8 (x:=(b.getD 0 0)) (by omega),cD (x:=0) (by omega)⟩,a2⟩
theorem uQ{m:Md}{v:Value}{b:List Int}{w:World}{dir:Int}(h:aW m w v b)(hb:b.length≤1048576) : Calls Tryz.prog 253 #[.int .i64 dir,v] w (oT (eN dir b) w):=by
  obtain⟨A,cp,rfl,hc,_⟩:=h.shape
  exact s6 h hb hc
open Go.RowKit
theorem zp(a b c d:Int)(w:World) : (Op.equalIn 10000 39 (.agg #[.int .u8 a,.int .u16 b]) (.agg #[.int .u8 c,.int .u16 d])).run Tryz.prog w = .ok ((a==c)&&(b==d)) w:=by
  have hS:Tryz.prog.underlying 39=some (.struct (Tryz.prog.fieldsOf 39)):=by kernel_rfl
  have hp:Tryz.prog.stoodInHeld 39=false:=by kernel_rfl
  rw[show(10000:Nat)=9998+1+1 from rfl,run_equalIn_agg w (9998+1) 39 _ _ hS hp]
  simp only[Program.fieldsOf,Tryz.underlying39]
  have p0:∀ v:Int,(part 5 #[.int .u8 v,.int .u16 b] 0).run Tryz.prog w = .ok (.int .u8 v) w:=fun v=>by simp[part,isAgg,run_underlying Tryz.underlying5,Result.andThen]
  have p0':∀ v:Int,(part 5 #[.int .u8 v,.int .u16 d] 0).run Tryz.prog w = .ok (.int .u8 v) w:=fun v=>by simp[part,isAgg,run_underlying Tryz.underlying5,Result.andThen]
  have p1:∀ v u:Int,(part 37 #[.int .u8 u,.int .u16 v] 1).run Tryz.prog w = .ok (.int .u16 v) w:=fun v u=>by simp[part,isAgg,run_underlying Tryz.underlying37,Result.andThen]
  have e0:=run_equalIn_int (P:=Tryz.prog) w 9998 5 .u8 _ a c Tryz.underlying5
  have e1:=run_equalIn_int (P:=Tryz.prog) w 9998 37 .u16 _ b d Tryz.underlying37
  simp only[Op.eqFields,Sem.run_bind,p0,p0',p1,e0,e1,Result.andThen_ok,ne_eq,String.reduceEq,not_false_eq_true,if_true,Sem.run_ite]
  cases (a==c)<;>cases (b==d)<;>simp
theorem s5{ev:Operand→Value}{o:Oper}{x y:Operand}{t:TypeId}(a b c d:Int){v:Bool}{w:World}(ho:o.op = .binOp .neq 39 x y t)
    (hx:ev x = .agg #[.int .u8 a,.int .u16 b]) (hy:ev y = .agg #[.int .u8 c,.int .u16 d]) (hv:(!((a==c)&&(b==d)))=v) : (execOp ev o).run Tryz.prog w = .ok (.value (.bool v)) w:=by
  subst hv
  have hg:(eqGuard .neq 39 x y (.agg #[.int .u8 a,.int .u16 b]) (.agg #[.int .u8 c,.int .u16 d])).run Tryz.prog w = .ok () w:=run_eqGuard_agg w _ _ _ _ _ _ (by kernel_rfl)
  unfold execOp
  simp only[ho,hx,hy,Sem.run_bind,hg,Result.andThen_ok,run_neq_struct,zp,Sem.run_pure]
open Go.RowKit
def kx (u:Int)(l:List Int) : List Int:=([u]++l)++bX (cO 65535 ([u]++l))
def gK (dir u t:Int)(M:b7) : Option (List Int) :=
  match dc dir M with
  | none=>none
  | some l=>if !((u==u)&&(t==0)) then none else some (kx u l)
theorem nL{m:Md}{cs:Array Value}{M:b7}{w:World}{dir u t:Int}(h:aH m w cs.toList M)(hf:bg M)(hu:B8 u)(ht:eT t) : Calls Tryz.prog 262 #[vI dir,.agg (#[vB u,vW t]++cs)] w (gh (gK dir u t M) w):=by
 have hM:=h
 obtain⟨hu1,hu2⟩:=hu
 obtain⟨ht1,ht2⟩:=ht
 refine jl h fun Aw kw Ab kb Ad kd Ar kr Ao ko e hw hbt hd hr ho _ _ _ _ _ _ _ _ _ _ q0 q1 q2 q3 q4 q5 q6 q7 q8 q9 O P Q R S T U=>?_
 subst e
 refine en 38 Tryz.func262 rfl<|sg<|L0<|cX #[vB u,vW t,vB M.code,vB M.fail,vW M.addr,vW M.count,vW M.value,vW M.and_,vW M.or_,vW M.addr2,vW M.sub,vW M.status,vW M.events,vW M.messages,.slice Aw M.words.length kw,.slice Ab M.bits.length kb,.slice Ad M.data.length kd,.slice Ar M.recs.length kr,vB M.mei,vB M.kind,vB M.level,vB M.more,vB M.next,.slice Ao M.objects.length ko] fun V W X k c=>Pl 2<|aU 2<|L0<|Dj k 2 22<|?_
 rcases hwr:dc dir M with _|lw
 have l:=fb (dir:=dir) (aH.old hM c) hf
 rw[hwr] at l
 refine aG<|m1 l fun Y C=>al 5<|sq<|aB 11<|c1<|aA 2<|nl<|tn<|bQ<|rr (.tuple #[nS,vI 1])<|?_
 exact dQ (y:=none) (by unfold gK;(try simp only[hwr,bC,reduceIte])<;>rfl) ⟨rfl,(aK c C)⟩
 have hlw:=gW hwr
 have n:=fb (dir:=dir) (aH.old hM c) hf
 rw[hwr] at n
 refine aG<|fC n fun Z a0 a1 D a2 a3 o=>al 5<|sq<|aA 4<|?_
 have g:=ub o k
 refine L1<|Dj g 0 2<|Pl 2<|L1<|iH g 0<|Pl 1<|L1<|jv (.bool (!((u==u)&&(t==0)))) (s5 u t u 0 rfl (by kernel_rfl) (by kernel_rfl) rfl)<|al 1<|?_
 have i:=aK c o
 refine cb ((!((u==u)&&(t==0)))) (fun a=>?_) (fun a=>?_)
 have b:((u==u)&&(t==0))=false:=by simpa using a
 exact aB 2<|bQ<|rr (.tuple #[nS,vI 1])<|dQ (y:=none) (by unfold gK;(try simp only[hwr,a,b,bC,reduceIte])<;>rfl) ⟨rfl,i⟩
 have b:((u==u)&&(t==0))=true:=by simpa using a
 have p:=(bW b).1
 have q:=(bW b).2
 have q33nap:=aI p
 have q33nbp:=aI q
 refine bM<|aA 2<|aD g 0<|L0<|dX (m:=1) (e:=5) #[vB u] fun E a4 F G d=>?_
 have r:=dZ F (xs:=[u]) (by as_aux_lemma=>kernel_rfl) (ax (by omega) b9) (by(try simp only[List.length_cons,List.length_nil]);omega) G
 refine Pl 1<|?_
 refine L0<|dj bp (xs:=([u])) (ys:=lw) (vB 0) 1 r ((ak D d (fun x hx=>av) (fun _ _ h=>h))).rd (by(try simp only[co,aE,jt]);omega) d.size fun j H a5 f v=>Pl 1<|aU 2<|aG (args:=#[.slice j (([u]++lw).length) H])<|m1 (lb (f).rd) fun a6 z=>?_
 have a7:=kp ([u]++lw) (s:=65535) (by decide) (aW.range (f).rd)
 refine aG<|fC (ir (s:=(cO 65535 ([u]++lw))) (by omega)) fun a8 a9 aa I ab ac A=>?_
 have B:=aK z A
 refine L0<|dj bp (xs:=([u]++lw)) (ys:=(bX (cO 65535 ([u]++lw)))) (vB 0) 1 (ak f B (fun x hx=>av) (fun _ _ h=>h)) (I).rd (by(try simp only[co,aE,jt]);omega) (le (le (le d.size v.size) z.size) A.size) fun J K ad L N=>al 2<|rt<|rr (.tuple #[.slice J ((([u]++lw)++(bX (cO 65535 ([u]++lw)))).length) K,vI 0])<|?_
 exact dQ (y:=(some (([u]++lw)++(bX (cO 65535 ([u]++lw)))))) (by unfold gK;(try simp only[hwr,a,b,p,q,bC,reduceIte])<;>rfl) ⟨_,rfl,(aQ.weaken L i.size),(aK i (ut d (ut (ay.mono (S':=(ob (some ⟨E,0,none⟩)++(ob j++[]))) v (ai il aC)) (ut (ay.mono (S':=(ob j++[])) B aC) N (ai il aC)) (ai il aC)) (ai (aX r lr) (ai (aX f lr) aC))))⟩
open Go.RowKit
theorem ro{m:Md}{v:Value}{b:List Int}{w:World}{dir:Int}{F:aM}{E:Int}(hX:eN dir b=(F,E))(h:aW m w v b)(hb:b.length≤1048576) : Calls Tryz.prog 253 #[.int .i64 dir,v] w (fun e w'=>∃ x,e = .returned (.tuple #[.agg (eo F.unit F.tid F.msg x),.int .i64 E])∧(aH (.hi w.heap.size) w' (jq F.msg x).toList F.msg∧(0≤F.unit∧F.unit<256)∧(0≤F.tid∧F.tid<65536))∧ay [] w w'):=by
  refine(uQ h hb).mono ?_
  rintro e w' ⟨cs,rfl,h1,h2⟩
  rw[hX] at h1 ⊢
  obtain⟨c,rfl,h3,h4,h5⟩:=h1
  obtain⟨x,rfl⟩:=p5 h3
  exact⟨x,by rw[fo],⟨h3,h4,h5⟩,h2⟩
theorem pU{m:Md}{x:SL}{M:b7}{w:World}{dir u t:Int}(hX:gK dir u t M=none)(h:aH m w (jq M x).toList M)(hf:bg M)(hu:0≤u∧u<256)(ht:0≤t∧t<65536) : Calls Tryz.prog 262 #[.int .i64 dir,.agg (eo u t M x)] w (fun e w'=>e = .returned (.tuple #[.slice none 0 0,.int .i64 1])∧ay [] w w'):=by
  have:=nL (dir:=dir) h hf hu ht
  rw[hX] at this
  rw[fo]
  exact this
theorem rk{m:Md}{x:SL}{M:b7}{w:World}{dir u t:Int}{l:List Int}(hX:gK dir u t M=some l)(h:aH m w (jq M x).toList M)(hf:bg M)(hu:0≤u∧u<256)(ht:0≤t∧t<65536) : Calls Tryz.prog 262 #[.int .i64 dir,.agg (eo u t M x)] w (fun e w'=>∃ v,e = .returned (.tuple #[v,.int .i64 0])∧cG w.heap.size w' v l∧ay [] w w'):=by
  have:=nL (dir:=dir) h hf hu ht
  rw[hX] at this
  rw[fo]
  exact this
open Go.RowKit
structure SS where
  dir:Int
  held:List Int
  off:Bool
def eI (w:World)(g:Nat)(S:SS) : Prop:=∃ A cp,w.heap[g]? = some (.cells #[.int .i64 S.dir,.slice A S.held.length cp,.bool S.off] 142 (0,0))∧aW true w (.slice A S.held.length cp) S.held∧S.held.length≤256∧S.held.length≤cp
def SS.feed (S:SS)(b:List Int) : SS × List Ev :=
  if S.off then (S,[]) else if decide (b.length≤256-S.held.length) then (⟨S.dir,S.held++b,false⟩,[]) else (⟨S.dir,[],true⟩,[Ev.bad 3])
def SS.tick (S:SS) : SS × List Ev:=(⟨S.dir,[],false⟩,if S.held.length=0 then [] else [⟨(eN S.dir S.held).2,(eN S.dir S.held).1⟩])
theorem eI.lt{w:World}{g:Nat}{S:SS}(h:eI w g S) : g<w.heap.size:=by
  obtain⟨A,cp,h1,_⟩:=h
  exact ag h1
theorem eI.upd{w w':World}{g:Nat}{S:SS}{X:List Nat}(h:eI w g S)(hu:ay X w w')(hg:g∉X)(hs:bV true [5] X w) : eI w' g S:=by
  obtain⟨A,cp,h1,h2,h3⟩:=h
  exact⟨A,cp,hu.blk hg h1,h2.upd' hu hs,h3⟩
theorem eI.old{w w':World}{g:Nat}{S:SS}(h:eI w g S)(hu:ay [] w w') : eI w' g S:=h.upd hu (by simp) (bV.nil _ _ _)
theorem eI.cells{w:World}{g:Nat}{S:SS}(h:eI w g S) : ∃ cs fr,w.heap[g]? = some (.cells cs 142 fr):=by
  obtain⟨A,cp,h1,_⟩:=h
  exact⟨_,_,h1⟩
theorem eI.le{w:World}{g:Nat}{S:SS}(h:eI w g S) : S.held.length≤256:=by
  obtain⟨A,cp,_,_,h1,_⟩:=h
  exact h1
theorem eI.safe{w:World}{g:Nat}{S:SS}(h:eI w g S)(D:List TypeId)(hD:D.contains 142=false) : bV true D [g] w:=by
  obtain⟨A,cp,h1,_⟩:=h
  exact b6 h1 hD
theorem SS.feed_le{S S2:SS}{b:List Int}{L:List Ev}(h:S.feed b=(S2,L)) : L.length≤1:=by
  have k:=congrArg Prod.snd h
  rw[show L=(S.feed b).2 from k.symm]
  unfold SS.feed
  split
  · exact Nat.zero_le _
  split
  · exact Nat.zero_le _
  · exact Nat.le_refl _
theorem SS.tick_le{S S2:SS}{L:List Ev}(h:S.tick=(S2,L)) : L.length≤1:=by
  have k:=congrArg Prod.snd h
  rw[show L=S.tick.2 from k.symm]
  unfold SS.tick
  dsimp only
  split
  · exact Nat.zero_le _
  · exact Nat.le_refl _
open Go.RowKit
theorem dP{α β:Type}{base sz base2 sz2:Nat}{e e2:TypeId}{R:World→α→List Value→Prop}{R2:World→β→List Value→Prop}{w:World}{A A2:Option Addr}{n c n2 c2:Nat}{xs:List α}{ys:List β}(h:aQ base e sz R w (.slice A n c) xs)(h2:aQ base2 e2 sz2 R2 w (.slice A2 n2 c2) ys)(ht:(e==e2)=false) : ∀ x,x∈ob A→x∉ob A2:=fun x hx hx2=>by
  rcases dw h with rfl|⟨g,cells,rfl,_,h1⟩
  · simp[ob] at hx
  rcases dw h2 with rfl|⟨g2,cells2,rfl,_,h3⟩
  · simp[ob] at hx2
  simp[ob] at hx hx2
  subst hx
  subst hx2
  rw[h1] at h3
  injection h3 with h3
  injection h3 with _ h3 _
  subst h3
  simp at ht
theorem lM{A A0:Option Addr}{w w0:World}{S:List Nat}(hat:∀ x,x∈ob A→x∈ob A0∨w.heap.size≤x)(h:∀ x,x∈ob A0→x∈S∨w0.heap.size≤x)(hs:w0.heap.size≤w.heap.size) : ∀ x,x∈ob A→x∈S∨w0.heap.size≤x:=fun x hx=>by
  rcases hat x hx with k|k
  · exact h x k
  · exact .inr (Nat.le_trans hs k)
theorem ld{A A1 A0:Option Addr}{w w0:World}(hat:∀ x,x∈ob A→x∈ob A1∨w.heap.size≤x)(h:∀ x,x∈ob A1→x∈ob A0∨w0.heap.size≤x)(hs:w0.heap.size≤w.heap.size) : ∀ x,x∈ob A→x∈ob A0∨w0.heap.size≤x:=lM hat h hs
theorem eK{A0:Option Addr}{w:World}:∀ x,x∈ob none→x∈ob A0∨w.heap.size≤x:=fun x hx=>by simp[ob] at hx
theorem kv{A0:Option Addr}{w:World}:∀ x,x∈ob A0→x∈ob A0∨w.heap.size≤x:=fun x hx=>.inl hx
theorem lO{w:World}:∀ x cs,lf w x cs→∀ v,v∈cs→v.oneCell'=true:=fun x cs h v hv=>by
  rw[h.1] at hv
  simp at hv
  subst hv
  rfl
section
variable {n:Nat}{B:Option Addr}
def lU (n:Nat)(B:Option Addr)(X:List Nat) : Prop:=0<n→∀ x,x∈ob B→x∉X
theorem fe:lU n B []:=fun _ x _=>by simp
theorem el{g:Nat}{X:List Nat}(h:0<n→∀ x,x∈ob B→x≠g)(k:lU n B X) : lU n B (g :: X):=fun hn x hx=>by
  rw[List.mem_cons]
  rintro(e|e)
  · exact h hn x hx e
  · exact k hn x hx e
theorem dG{A:Option Addr}{X:List Nat}(h:lU n B (ob A))(k:lU n B X) : lU n B (ob A++X):=fun hn x hx=>by
  rw[List.mem_append]
  rintro(e|e)
  · exact h hn x hx e
  · exact k hn x hx e
theorem gF{A A0:Option Addr}{w:World}(h:lU n B (ob A0))(hl:0<n→∀ x,x∈ob B→x<w.heap.size)(hat:∀ x,x∈ob A→x∈ob A0∨w.heap.size≤x) : lU n B (ob A):=fun hn x hx hx2=>by
  rcases hat x hx2 with k|k
  · exact h hn x hx k
  · have:=hl hn x hx;omega
theorem gG{α:Type}{base sz:Nat}{e:TypeId}{R:World→α→List Value→Prop}{w w':World}{A:Option Addr}{m c:Nat}{xs:List α}(hl:0<n→∀ x,x∈ob B→x<w.heap.size)(h:aQ base e sz R w' (.slice A m c) xs)(hs:w.heap.size≤base) : lU n B (ob A):=fun hn x hx hx2=>by
  have:=hl hn x hx
  have:=jr h x hx2
  omega
theorem aT.low{α:Type}{m:Md}{e:TypeId}{sz c:Nat}{R:World→α→List Value→Prop}{w:World}{xs:List α}(h:aT m e sz R w (.slice B n c) xs) : 0<n→∀ x,x∈ob B→x<w.heap.size:=fun hn x hx=>by
  obtain⟨A',c',hv,_,_,_,h3⟩:=h
  injection hv with e1 e2 e3
  subst e1 e2 e3
  obtain⟨b,off,cells,t,fr,rfl,hh,_⟩:=h3 hn
  simp[ob] at hx
  subst hx
  exact ag hh
theorem aW.far{m:Md}{c:Nat}{w w':World}{xs:List Int}{X:List Nat}(h:aW m w (.slice B n c) xs)(hu:ay X w w')(hd:lU n B X) : aW m w' (.slice B n c) xs:=by
  obtain⟨A',c',hv,h1,h2,h0,h3⟩:=h
  injection hv with e1 e2 e3
  subst e1 e2 e3
  refine⟨_,_,rfl,h1,h2,h0,fun hp=>?_⟩
  obtain⟨b,off,cells,t,fr,rfl,hh,h4,h5⟩:=h3 hp
  exact⟨b,off,cells,t,fr,rfl,hu.blk (hd hp b (by simp[ob])) hh,h4,h5⟩
end
open Go.RowKit
def wx (n:Nat)(X:List Nat)(w:World) : Prop:=∀ y,y∈X→n≤y∨∃ cells t fr,w.heap[y]? = some (.cells cells t fr)∧t∉gC
def uM (p n:Nat)(X:List Nat)(w:World) : Prop:=∀ y,y∈X→n≤y∨∃ cells t fr,w.heap[y]? = some (.cells cells t fr)∧(t∉gC∨y<p)
theorem wx.two{p n:Nat}{X:List Nat}{w:World}(h:wx n X w) : uM p n X w:=fun y hy=>(h y hy).imp_right fun⟨c,t,fr,k,q⟩=>⟨c,t,fr,k,.inl q⟩
theorem uM.le{p p' n:Nat}{X:List Nat}{w:World}(hp:p'≤p)(h:uM p' n X w) : uM p n X w:=fun y hy=>(h y hy).imp_right fun⟨c,t,fr,k,q⟩=>⟨c,t,fr,k,q.imp_right fun z=>Nat.lt_of_lt_of_le z hp⟩
def bq (p n:Nat)(w:World)(x:Ev)(cs:List Value) : Prop:=n≤w.heap.size∧∀ (w':World)(X:List Nat),ay X w w'→uM p n X w→kg (.hi p) w' x cs
theorem bq.mk{p:Nat}{w:World}{x:Ev}{cs:List Value}(h:kg (.hi p) w x cs) : bq p w.heap.size w x cs:=⟨Nat.le_refl _,fun w' X hu ha=>kg.upd hu (fun y hy=>by
  rcases ha y hy with k|⟨c,t,fr,k,k2⟩
  · exact .inl k
  · exact .inr ⟨rfl,c,t,fr,k,k2⟩) x cs h⟩
theorem bq.hi{p n:Nat}{w:World}{x:Ev}{cs:List Value}(h:bq p n w x cs) : kg (.hi p) w x cs:=h.2 w [] (ay.refl _ _) (fun y hy=>by cases hy)
theorem bq.ev{p n:Nat}{w:World}{x:Ev}{cs:List Value}(h:bq p n w x cs) : kg true w x cs:=h.hi.tt
theorem bq.mono{p n n':Nat}{w:World}{x:Ev}{cs:List Value}(hn:n≤n')(hs:n'≤w.heap.size)(h:bq p n w x cs) : bq p n' w x cs:=⟨hs,fun w' X hu ha=>h.2 w' X hu fun y hy=>by
  rcases ha y hy with k|k
  · exact .inl (Nat.le_trans hn k)
  · exact .inr k⟩
theorem bq.lo{p p' n:Nat}{w:World}{x:Ev}{cs:List Value}(hp:p'≤p)(h:bq p n w x cs) : bq p' n w x cs:=⟨h.1,fun w' X hu ha=>(h.2 w' X hu (ha.le hp)).lo hp⟩
theorem bq.upd2{p n:Nat}{w w':World}{X:List Nat}{x:Ev}{cs:List Value}(hu:ay X w w')(ha:uM p n X w)(h:bq p n w x cs) : bq p n w' x cs:=by
  refine⟨Nat.le_trans h.1 hu.size,fun w2 X2 hu2 ha2=>h.2 w2 (X++X2) ?_ ?_⟩
  · exact ay.trans' (ay.mono hu (fun y hy=>.inl (List.mem_append_left _ hy))) hu2 (fun y hy=>.inl (List.mem_append_right _ hy))
  · intro y hy
    rcases List.mem_append.1 hy with hy|hy
    · exact ha y hy
    · rcases ha2 y hy with k | ⟨cells,t,fr,k1,k2⟩
      · exact .inl k
      · by_cases hl:y<w.heap.size
        · by_cases hX:y∈X
          · exact ha y hX
          · exact .inr ⟨cells,t,fr,by rw[← hu.block y hl hX];exact k1,k2⟩
        · exact .inl (Nat.le_trans h.1 (by omega))
theorem bq.upd{p n:Nat}{w w':World}{X:List Nat}{x:Ev}{cs:List Value}(hu:ay X w w')(ha:wx n X w)(h:bq p n w x cs) : bq p n w' x cs:=h.upd2 hu ha.two
theorem bq.ones{p n:Nat}{w:World}:∀ (x:Ev)(cs:List Value),bq p n w x cs→∀ v,v∈cs→v.oneCell'=true:=fun x cs h=>kg.ones x cs h.hi
abbrev dy (n base:Nat) (w:World) (v:Value) (xs:List Ev) : Prop:=aQ base 87 25 (bq base n) w v xs
theorem aQ.map{α:Type}{base sz:Nat}{e:TypeId}{R R':World→α→List Value→Prop}{w:World}{v:Value}{xs:List α}(h:aQ base e sz R w v xs)(k:∀ x cs,R w x cs→R' w x cs) : aQ base e sz R' w v xs:=by
  obtain⟨cells,ho,hx⟩:=h
  refine⟨cells,ho,fun j x hj=>?_⟩
  obtain⟨cs,h1,h2,h3⟩:=hx j x hj
  exact⟨cs,h1,k _ _ h2,h3⟩
theorem zq.low{base:Nat}{w:World}{v:Value}{xs:List Ev}(h:zq base w v xs) : dy w.heap.size base w v xs:=aQ.map h fun _ _=>bq.mk
theorem tk{p base:Nat}{w:World}{v:Value}{xs:List Ev}(h:aQ base 87 25 (kg (.hi p)) w v xs) : aQ base 87 25 (bq p w.heap.size) w v xs:=aQ.map h fun _ _=>bq.mk
theorem dy.own{n base:Nat}{w:World}{v:Value}{xs:List Ev}(h:dy n base w v xs) : El base w v xs:=aQ.map h fun _ _ q=>q.ev
theorem dy.up{n n' base:Nat}{w:World}{v:Value}{xs:List Ev}(hn:n≤n')(hs:n'≤w.heap.size)(h:dy n base w v xs) : dy n' base w v xs:=aQ.map h fun _ _ q=>q.mono hn hs
theorem dy.lo{n base base':Nat}{w:World}{v:Value}{xs:List Ev}(h:dy n base w v xs)(hb:base'≤base) : dy n base' w v xs:=aQ.weaken (aQ.map h fun _ _ q=>q.lo hb) hb
theorem cv{n:Nat}{w:World}:wx n [] w:=fun y hy=>by cases hy
theorem fR{n g:Nat}{w:World}{cs:Array Value}{t:TypeId}{fr:Nat × Nat}{X:List Nat}(hb:w.heap[g]? = some (.cells cs t fr))(ht:gC.contains t=false)(k:wx n X w) : wx n (g :: X) w:=fun y hy=>by
  rcases List.mem_cons.1 hy with rfl|hy
  · exact .inr ⟨cs,t,fr,hb,by simpa using ht⟩
  · exact k y hy
theorem jp{n:Nat}{w:World}{A:Option Addr}{X:List Nat}(h:∀ x,x∈ob A→n≤x)(k:wx n X w) : wx n (ob A++X) w:=fun y hy=>by
  rcases List.mem_append.1 hy with hy|hy
  · exact .inl (h y hy)
  · exact k y hy
theorem lB{α:Type}{n base sz m c:Nat}{e:TypeId}{R:World→α→List Value→Prop}{w:World}{A:Option Addr}{xs:List α}{X:List Nat}(h:aQ base e sz R w (.slice A m c) xs)(ht:gC.contains e=false)(k:wx n X w) : wx n (ob A++X) w:=fun y hy=>by
  rcases List.mem_append.1 hy with hy|hy
  · rcases dw h with rfl | ⟨g,cells,rfl,_,h1⟩
    · simp[ob] at hy
    · simp[ob] at hy
      subst hy
      exact .inr ⟨_,_,_,h1,by simpa using ht⟩
  · exact k y hy
theorem d8{n:Nat}:∀ x,x∈ob none→n≤x:=fun x hx=>by simp[ob] at hx
theorem tD{n:Nat}{A A0:Option Addr}{w:World}(hat:∀ x,x∈ob A→x∈ob A0∨w.heap.size≤x)(h:∀ x,x∈ob A0→n≤x)(hs:n≤w.heap.size) : ∀ x,x∈ob A→n≤x:=fun x hx=>by
  rcases hat x hx with k|k
  · exact h x k
  · exact Nat.le_trans hs k
section
variable {n base g cp:Nat}{w w':World}{A:Option Addr}{X:List Nat}
theorem wX{n':Nat}(hn:n≤n')(h:∀ x,x∈ob A→n'≤x) : ∀ x,x∈ob A→n≤x:=fun x hx=>Nat.le_trans hn (h x hx)
theorem wY{k:Nat}{B:Option Addr}(hl:0<k→∀ x,x∈ob B→x<w.heap.size)(hg:w.heap.size≤g) : 0<k→∀ x,x∈ob B→x≠g:=fun hk x hx e=>by
  have:=hl hk x hx
  omega
end
theorem yr{α:Type}{b0 b1 sz:Nat}{e:TypeId}{R:World→α→List Value→Prop}{w:World}{v:Value}{xs:List α}(hb:b0≤b1)(h:aQ b1 e sz R w v xs) : aQ b0 e sz R w v xs:=by
  obtain⟨cells,⟨h1,h2⟩,h3⟩:=h
  refine⟨cells,⟨h1,?_⟩,h3⟩
  rcases h2 with h2|⟨g,cap,cur,k0,k1,k2⟩
  · exact .inl h2
  · exact .inr ⟨g,cap,cur,k0,Nat.le_trans hb k1,k2⟩
theorem Ae{α:Type}{b1 sz m c:Nat}{e:TypeId}{R:World→α→List Value→Prop}{w w1:World}{A A0:Option Addr}{xs:List α}(h:aQ b1 e sz R w1 (.slice A m c) xs)(hb:w.heap.size≤b1) : ∀ x,x∈ob A→x∈ob A0∨w.heap.size≤x:=fun x hx=>.inr (Nat.le_trans hb (jr h x hx))
theorem B7{α:Type}{n b1 sz m c:Nat}{e:TypeId}{R:World→α→List Value→Prop}{w1:World}{A:Option Addr}{xs:List α}(h:aQ b1 e sz R w1 (.slice A m c) xs)(hb:n≤b1) : ∀ x,x∈ob A→n≤x:=fun x hx=>Nat.le_trans hb (jr h x hx)
open Go.RowKit
theorem Cx{base g:Nat}{w:World}{cur:Array Value}(hb:base≤g)(hg:w.heap[g]? = some (.cells cur 5 (0,0)))(hc:cur.size≤maxLen) : cG base w (.slice (some ⟨g,0,none⟩) 0 cur.size) [] :=
  ⟨[],⟨rfl,.inr ⟨g,cur.size,cur,rfl,hb,hg,Nat.zero_le _,hc,(Nat.mul_one _).symm,by simp⟩⟩,fun j x hj=>by simp at hj⟩
theorem pk{base:Nat}{w:World}{A:Option Addr}{n c:Nat}{xs:List Int}(h:cG base w (.slice A n c) xs) : cG base w (.slice A 0 c) []:=by
  obtain⟨cells,⟨_,h2⟩,_⟩:=h
  rcases h2 with⟨e,_⟩|⟨g,cap,cur,e,h3,h4,h5,h6,h7,_⟩
  · injection e with e1 e2 e3
    subst e1 e3
    exact aQ.nil ..
  · injection e with e1 e2 e3
    subst e1 e3
    exact⟨[],⟨rfl,.inr ⟨g,c,cur,rfl,h3,h4,Nat.zero_le _,h6,h7,by simp⟩⟩,fun j x hj=>by simp at hj⟩
theorem kM{P:Program}{m:Md}{w:World}(t ty e:TypeId)(ht:P.underlying t=some (.slice e))(hte:e=5)(hinfo:(P.info? e).map (fun i=>(i.zero,i.size,i.bytes))=some (some (.int .u8 0),1,1))
    {A:Option Addr} {xs ys:List Int} (HX:aW true w (.slice A xs.length xs.length) xs) {u:Value} (HY:aW m w u ys) (hl:xs.length+ys.length≤4194304) :
    ∃ A' cp w',(Builtin.append_ #[t,t] ty #[.slice A xs.length xs.length,u]).run P w = .ok (.slice A' (xs++ys).length cp) w'∧aW true w' (.slice A' (xs++ys).length cp) (xs++ys)∧ay [] w w'∧((A'=A∧w'=w)∨∃ c,cG w.heap.size w' (.slice A' 0 c) []):=by
  subst hte
  obtain⟨i0,hi,hz0,hz1,hz2⟩:=info_parts hinfo
  obtain⟨B,c,rfl,hc1,hc2⟩:=HY.shape
  by_cases hy:ys=[]
  · have hs:=BN (P:=P) ht HY hy
    subst hy
    rw[← hz1] at hs
    rw[List.append_nil]
    exact⟨A,_,w,run_append_nothing w t t ty _ i0 ht hi A xs.length xs.length (Nat.le_refl _) _ hs,HX,ay.refl _ _,.inl ⟨rfl,rfl⟩⟩
  have hyl:0<ys.length:=by
    cases ys with
    | nil=>exact absurd rfl hy
    | cons a r=>simp
  cases B with
  | none =>
    obtain⟨B,c',hv,_,_,h0,h3⟩:=HY
    injection hv with e1 e2 e3
    subst e1 e3
    obtain⟨b,off,cells,t,fr,hh,_⟩:=h3 hyl
    cases hh
  | some ad =>
    obtain⟨_,hnews⟩:=jc bp.cell HY
    have hby:∀ x,x∈xs++ys→0≤x∧x<256:=fun x hx=>by
      rcases List.mem_append.1 hx with h|h
      · exact HX.rng x h
      · exact HY.rng x h
    have fin:∀ (cp:Nat) (w':World) (zs:Array Value),xs.length+ys.length≤cp→cp≤maxLen→zs.size=cp-(xs.length+ys.length)→w'.heap[w.heap.size]? = some (.cells (((xs++ys).map (Value.int .u8)).toArray++zs) 5 (0,0))→aW true w' (.slice (some ⟨w.heap.size,0,none⟩) (xs++ys).length cp) (xs++ys)∧∃ c,cG w.heap.size w' (.slice (some ⟨w.heap.size,0,none⟩) 0 c) []:=fun cp w' zs h1 h2 hz h3=>by
      refine⟨⟨_,cp,rfl,by rw[List.length_append];exact h1,h2,(fun hA=>by cases hA),fun hp=>⟨w.heap.size,0,_,_,_,rfl,h3,(fun _=>⟨rfl,Nat.zero_le _⟩),fun j x hj=>?_⟩⟩,_,Cx (Nat.le_refl _) h3 ?_⟩
      · refine⟨[.int .u8 x],rfl,⟨rfl,hby x (List.mem_of_getElem? hj)⟩,fun i u hi=>?_⟩
        cases i with
        | succ i=>simp at hi
        | zero =>
          have hi:Value.int .u8 x=u:=by simpa using hi
          subst hi
          have hlt:=(List.getElem?_eq_some_iff.1 hj).1
          rw[Array.getElem?_append_left (by simp;simpa using hlt)]
          simp only[Nat.zero_add,Nat.mul_one,Nat.add_zero]
          rw[List.getElem?_toArray,List.getElem?_map,hj]
          rfl
      · rw[Array.size_append,hz]
        simp
        omega
    have hzc:∀ k,(Builtin.zeroCells (Value.int .u8 0).cells k).size=k:=fun k=>by simp[Builtin.zeroCells,Value.cells]
    cases A with
    | none =>
      have hx0:xs=[]:=by
        obtain⟨B,c',hv,_,_,h0,h3⟩:=HX
        injection hv with e1 e2 e3
        subst e1
        have:=h0 rfl
        exact List.eq_nil_of_length_eq_zero (by omega)
      subst hx0
      have hr:=run_append_nil (P:=P) w t ty _ i0 (.int .u8 0) ht hi hz0 ad ys.length c (ys.map (Value.int .u8)) (by rw[hz1];simp) hnews hyl (by omega) (by rw[hz2];omega)
      have f:=fin (grownCap w ys.length 0 5) (w.drew.alloc (.cells ((ys.map (Value.int .u8)).toArray++Builtin.zeroCells (Value.int .u8 0).cells (grownCap w ys.length 0 5-ys.length)) 5)) (Builtin.zeroCells (Value.int .u8 0).cells (grownCap w ys.length 0 5-ys.length)) (by simpa using grownCap_ge w ys.length 0 _) (grownCap_le_maxLen _ _ _ _ (by unfold maxLen;omega)) (by rw[hzc];simp) (by simpa using dE w.drew _)
      exact⟨_,_,_,hr,f.1,((ay.refl _ _).drew).alloc _,.inr f.2⟩
    | some bd =>
      obtain⟨_,holds⟩:=jc bp.cell HX
      have hr:=run_append_grow (P:=P) w t ty _ i0 (.int .u8 0) ht hi hz0 bd xs.length xs.length (xs.map (Value.int .u8)) (by rw[hz1];simp) holds ad ys.length c (ys.map (Value.int .u8)) (by rw[hz1];simp) hnews (by omega) (by omega) (by
        rw[hz2]
        have:=nextslicecap_le (need:=xs.length+ys.length) (old:=xs.length) (by omega)
        omega)
      have f:=fin (grownCap w (xs.length+ys.length) xs.length 5) (w.drew.alloc (.cells ((xs.map (Value.int .u8)).toArray++(ys.map (Value.int .u8)).toArray++Builtin.zeroCells (Value.int .u8 0).cells (grownCap w (xs.length+ys.length) xs.length 5-(xs.length+ys.length))) 5)) (Builtin.zeroCells (Value.int .u8 0).cells (grownCap w (xs.length+ys.length) xs.length 5-(xs.length+ys.length))) (grownCap_ge w _ _ _) (grownCap_le_maxLen _ _ _ _ (by unfold maxLen;omega)) (by rw[hzc]) (by simpa using dE w.drew _)
      exact⟨some ⟨w.heap.size,0,none⟩,grownCap w (xs.length+ys.length) xs.length 5,_,by rw[hr,List.length_append],f.1,((ay.refl _ _).drew).alloc _,.inr f.2⟩
section
variable {P:Program}{n:Nat}{D:List Deferred}{F:Fr}{w:World}{K:Fr→World→Prop}{Q:Exit→Act→World→Prop}{d:Option Tmp}{t:TypeId}{s:String}{af:Array Edge}{gu:Option (Nat × Bool)}
theorem EK{ty:TypeId}{x y:Operand}{m:Md}{A:Option Addr}{xs ys:List Int}{u:Value}(HX:aW true w (.slice A xs.length xs.length) xs)(HY:aW m w u ys)(hl:xs.length+ys.length≤4194304)
    (h:∀ A' cp w',aW true w' (.slice A' (xs++ys).length cp) (xs++ys)→((A'=A∧w'=w)∨∃ c,cG w.heap.size w' (.slice A' 0 c) [])→ay [] w w'→K (pt d (.slice A' (xs++ys).length cp) F) w') (hx:eg F x=some (.slice A xs.length xs.length):=by kernel_rfl) (hy:eg F y=some u:=by kernel_rfl)
    (hs:(pE P ty,(P.info? 5).map (fun i=>(i.zero,i.size,i.bytes)),eU n d)=(some 5,some (some (.int .u8 0),1,1),true):=by kernel_rfl) : OG P ⟨d,.call { callee:=.builtin .append,args:=#[x,y],argTypes:=#[ty,ty] },t,s,af,gu⟩ n D F w K Q:=by
  simp only[Prod.mk.injEq] at hs
  obtain⟨h1,h2,h3⟩:=hs
  obtain⟨A',cp,w',hr,hv,hu,ho⟩:=kM (P:=P) (w:=w) ty t _ (ep h1) rfl h2 HX HY hl
  refine⟨fun a ha K' hK=>OW.mk ?_⟩
  have hx':=ha.ev hx
  have hy':=ha.ev hy
  unfold Oper.wp execOp
  simp only[resolve,invoke,builtin,Sem.run_bind,Sem.run_pure,Result.andThen_ok,List.map_toArray,List.map_cons,List.map_nil,hx',hy',hr]
  exact hK _ _ _ (h A' cp w' hv ho hu) (ha.put h3)
end
open Go.RowKit
def de (n base:Nat)(w:World)(g:Nat)(A:Option Addr)(c:Nat)(S:SS) : Prop:=(∃ cp,w.heap[g]? = some (.cells #[.int .i64 S.dir,.slice A S.held.length cp,.bool S.off] 142 (0,0))∧aW true w (.slice A S.held.length cp) S.held∧S.held.length≤256∧S.held.length≤cp)∧cG base w (.slice A 0 c) []∧n≤w.heap.size∧(∀ x,x∈ob A→n≤x)∧base≤w.heap.size
section
variable {n base g c:Nat}{w w':World}{A:Option Addr}{S:SS}{X:List Nat}
theorem de.row(h:de n base w g A c S) : cG base w (.slice A 0 c) []:=h.2.1
theorem de.low(h:de n base w g A c S) : ∀ x,x∈ob A→n≤x:=h.2.2.2.1
theorem de.nle(h:de n base w g A c S) : n≤w.heap.size:=h.2.2.1
theorem de.le(h:de n base w g A c S) : S.held.length≤256:=by
  obtain⟨⟨cp,_,_,h1,_⟩,_⟩:=h
  exact h1
theorem de.lt(h:de n base w g A c S) : g<w.heap.size:=by
  obtain⟨⟨cp,h1,_⟩,_⟩:=h
  exact ag h1
theorem de.cells(h:de n base w g A c S) : ∃ cs fr,w.heap[g]? = some (.cells cs 142 fr):=by
  obtain⟨⟨cp,h1,_⟩,_⟩:=h
  exact⟨_,_,h1⟩
theorem de.upd(h:de n base w g A c S)(hu:ay X w w')(hg:g∉X)(hr:∀ x,x∈ob A→x∉X) : de n base w' g A c S:=by
  obtain⟨⟨cp,h1,h2,h3⟩,h4,h5,h6,h7⟩:=h
  exact⟨⟨cp,hu.blk hg h1,aW.far h2 hu (fun _=>hr),h3⟩,ak h4 hu hr (fun _ _ q=>q),Nat.le_trans h5 hu.size,h6,Nat.le_trans h7 hu.size⟩
end
theorem bq.bad{p n:Nat}{w:World}(hn:n≤w.heap.size){e:Int}{cs:List Value}(h:kg (.hi p) w (Ev.bad e) cs) : bq p n w (Ev.bad e) cs:=⟨hn,fun w' X hu ha=>by
  obtain⟨s,h1,h2,h3⟩:=h
  obtain⟨vw,vb,vd,vr,vo,k0,kw,kb,kd,kr,ko,kR⟩:=h2
  have nl:∀ {α:Type} {e:TypeId} {sz:Nat} {R:World→α→List Value→Prop} {v:Value},aT (.hi p) e sz R w v []→aT (.hi p) e sz R w' v []:=fun⟨A,c,hv,q1,q2,q3,q4⟩=>⟨A,c,hv,q1,q2,q3,fun hp=>absurd hp (Nat.lt_irrefl 0)⟩
  exact⟨s,h1,⟨vw,vb,vd,vr,vo,k0,nl kw,nl kb,nl kd,nl kr,nl ko,kR⟩,h3⟩⟩
theorem dy.nil{n base:Nat}{w:World}:dy n base w (.slice none 0 0) []:=aQ.nil ..
theorem dy.bad{n base:Nat}{w:World}{v:Value}{e:Int}(hn:n≤w.heap.size)(h:zq base w v [Ev.bad e]) : dy n base w v [Ev.bad e]:=by
  obtain⟨cells,ho,hx⟩:=h
  refine⟨cells,ho,fun j x hj=>?_⟩
  obtain⟨cs,h1,h2,h3⟩:=hx j x hj
  cases j with
  | succ j=>simp at hj
  | zero =>
    have hj:Ev.bad e=x:=by simpa using hj
    subst hj
    exact⟨cs,h1,bq.bad hn h2,h3⟩
def EH (n base:Nat)(S2:SS)(L:List Ev)(g:Nat)(A:Option Addr)(w:World)(e:Ending)(w':World) : Prop:=∃ v A2 c2 n2,e = .returned v∧dy n2 w.heap.size w' v L∧de n2 base w' g A2 c2 S2∧(∀ x,x∈ob A2→x∈ob A∨w.heap.size≤x)∧n≤n2∧ay (g :: (ob A++[])) w w'
theorem mU{g:Nat}{A:Option Addr}{w w':World}(h:ay [g] w w') : ay (g :: (ob A++[])) w w':=ay.mono h fun x hx=>.inl (by rw[List.mem_singleton] at hx;rw[hx];exact List.mem_cons_self ..)
theorem zU{w:World}{d:Int}(hd:d=0∨d=1) : Calls Tryz.prog 67 #[vI d] w (fun e w'=>∃ g,e = .returned (vP g 0)∧w.heap.size≤g∧de w.heap.size w.heap.size w' g none 0 ⟨d,[],false⟩∧ay [] w w'):=by
 have c:((d != 0)&&(d != 1))=false:=by rcases hd with rfl | rfl<;>rfl
 refine en 12 Tryz.func67 rfl<|aB 1<|sq<|aA 3<|ij 3 [5] 8 5 (d != 0) (d != 1) (fun K f h=>?_) ?_
 have k:=aR h
 exact Pl 3<|ce f _ rfl
 exact nt<|cf c<|bM<|aA 2<|L0<|cX #[vI d,nS,.bool false] fun b l i j a=>al 1<|rt<|rr (vP b 0)<|⟨b,rfl,i,⟨⟨0,j,aT.nil ..,Nat.zero_le _,Nat.zero_le _⟩,aQ.nil ..,a.size,d8,a.size⟩,a⟩
theorem uy{w:World}{n base g c:Nat}{A:Option Addr}{S:SS}(h:de n base w g A c S){m:Md}{B:Option Addr}{cpb:Nat}{b:List Int}(hgA:g∉ob A)(hsl:aW m w (.slice B b.length cpb) b)(hbl:b.length≤1048576)(hcb:b.length≤cpb) :
    Calls Tryz.prog 250 #[vP g 0,.slice B b.length cpb] w (EH n base (S.feed b).1 (S.feed b).2 g A w):=by
 obtain⟨⟨cp,hb,hr,hl,hcp⟩,hrow,hn0,hlow,hbs⟩:=h
 have hcm:=aT.len hr
 have hbm:=aT.len hsl
 refine en 53 Tryz.func250 rfl<|aB 1<|sq<|aA 3<|aD hb 2<|nt<|cb (S.off) (fun l=>?_) (fun l=>?_)
 refine aB 1<|bQ<|rr nS<|?_
 have hs:S.feed b=(S,[]):=by unfold SS.feed;rw[l];rfl
 rw[hs]
 exact⟨_,A,c,n,rfl,dy.nil,⟨⟨cp,hb,hr,hl,hcp⟩,ak hrow (ay.refl [] _) (fun x hx=>(by simp)) (fun _ _ q=>q),Nat.le_trans hn0 lr,hlow,Nat.le_trans hbs lr⟩,kv,Nat.le_refl _,mU (ay.mono (S':=[g]) (ay.refl [] _) aC)⟩
 refine bM<|aA 5<|aD hb 1<|Pl 1<|bD (256-(S.held.length:Int))<|L0<|jv (vI (min (b.length:Int) (256-(S.held.length:Int)))) (Bh (a:=(b.length:Int)) (b:=(256-(S.held.length:Int))) rfl (by kernel_rfl) (by kernel_rfl))<|al 1<|sq<|Rg 23 (fun w'=>w'.cell? ⟨g,1,none⟩=some (.slice A S.held.length cp)) fun R f=>?_
 have z:=ub f hb
 refine bi (ae z rfl) fun d=>Rt 0 d<|Rt 1 d<|Rt 2 d<|Rt 3 d<|Rl 4 d (fun _ hs=>hs)<|Rt 5 d<|Rt 6 d<|Rt 7 d<|Rl 8 d (fun _ hs=>hs)<|Rt 9 d<|Rt 10 d<|Rt 11 d<|Rt 12 d<|Rl 13 d (fun _ hs=>hs)<|Rt 14 d<|?_
 have u:=aW.upd' hr f aP
 refine Rr 15 d (.slice A S.held.length S.held.length) (fun _ _=>yG (k1:=.i64) (k2:=.i64) (i1:=(S.held.length:Int)) (i2:=(S.held.length:Int)) (A:=A) (n:=S.held.length) (c:=cp) rfl Tryz.underlying27 (by kernel_rfl) (by kernel_rfl) (by kernel_rfl) (by kernel_rfl) rfl rfl (aT.cap u) (aT.adr u))<|Rt 16 d<|Rt 17 d<|xc (BB (P:=Tryz.prog) 27 5 1 Tryz.underlying27 rfl rfl B b.length cpb (k:=(min (b.length:Int) (256-(S.held.length:Int)))) (((min (b.length:Int) (256-(S.held.length:Int)))).toNat) (by omega) (by omega) (by omega)) fun G hrun30 H=>Rr 18 d (.slice G (((min (b.length:Int) (256-(S.held.length:Int)))).toNat) cpb) (fun _ _=>kc (kl:=.i64) (k:=(min (b.length:Int) (256-(S.held.length:Int)))) (A:=B) (n:=b.length) (c:=cpb) rfl Tryz.underlying27 (by kernel_rfl) (by kernel_rfl) (hrun30 _ _))<|?_
 refine R0 19 rfl<|EK (xs:=S.held) (ys:=(b.take (((min (b.length:Int) (256-(S.held.length:Int)))).toNat))) (u).full (H _ _ _ _ _ (aW.upd' hsl f aP)) (by(try simp only[List.length_take]);omega) fun o C T I J j=>?_
 have v:=ub j z
 refine bi (ae v rfl) fun D=>Rt 20 D<|Rt 21 D<|Fh 22 rfl<|cA v 1 #[vI S.dir,.slice o ((S.held++(b.take (((min (b.length:Int) (256-(S.held.length:Int)))).toNat))).length) C,.bool S.off] fun E F i=>re<|tn<|sq<|aB 4<|?_
 have p:=uz f (uz j i)
 refine cb (((min (b.length:Int) (256-(S.held.length:Int)))==(b.length:Int))) (fun y=>?_) (fun y=>?_)
 have K:=aI y
 refine aB 1<|bQ<|rr nS<|?_
 have hle:b.length≤256-S.held.length:=by omega
 have hs:S.feed b=(⟨S.dir,S.held++b,false⟩,[]):=by unfold SS.feed;rw[l,decide_eq_true hle];rfl
 rw[hs]
 have hz:(b.take (((min (b.length:Int) (256-(S.held.length:Int)))).toNat))=b:=List.take_of_length_le (by omega)
 have hB:=F
 have hR:=(aW.upd' I i (am (b6 v (by decide)) aP))
 rw[hz] at hB hR
 have hsh:=hR.cap
 have hgr:g∉ob A:=fun e=>hgA e
 have fin:∀ c2,cG base E (.slice o 0 c2) []→(∀ x,x∈ob o→n≤x)→(∀ x,x∈ob o→x∈ob A∨w.heap.size≤x)→EH n base ⟨S.dir,S.held++b,false⟩ [] g A w (.returned nS) E:=fun c2 k1 k2 k3=>⟨_,o,c2,n,rfl,dy.nil,⟨⟨C,by rw[← l];exact hB,hR,by rw[List.length_append];omega,hsh⟩,k1,Nat.le_trans hn0 p.size,k2,Nat.le_trans hbs p.size⟩,k3,Nat.le_refl _,mU p⟩
 rcases J with⟨e1,e2⟩|⟨c2,k⟩
 · refine fin c ?_ ?_ ?_
   · rw[e1];exact ak hrow p (fun x hx=>(by rw[List.mem_singleton];intro e;exact hgA (e▸hx))) (fun _ _ q=>q)
   · rw[e1];exact hlow
   · rw[e1];exact kv
 · refine fin c2 ?_ ?_ ?_
   · exact aQ.weaken (ak k i (fun x hx=>(by rw[List.mem_singleton];intro e;have:=jr k x hx;have:=ag hb;have:=f.size;omega)) (fun _ _ q=>q)) (Nat.le_trans hbs f.size)
   · exact fun x hx=>Nat.le_trans (Nat.le_trans hn0 f.size) (jr k x hx)
   · exact fun x hx=>.inr (Nat.le_trans f.size (jr k x hx))
 have K:=aS y
 refine bM<|aA 4<|L0<|cA F 1 #[vI S.dir,nS,.bool S.off] fun U L r=>Pl 2<|L0<|cA L 2 #[vI S.dir,nS,.bool true] fun V M s=>aU 1<|L0<|dX (m:=1) (e:=87) #[vI 3,vB 0,vW 0,vB 0,vB 0,vW 0,vW 0,vW 0,vW 0,vW 0,vW 0,vW 0,vW 0,vW 0,vW 0,nS,nS,nS,nS,vB 0,vB 0,vB 0,vB 0,vB 0,nS] fun N W O Q t=>?_
 refine al 1<|rt<|rr (.slice (some ⟨N,0,none⟩) 1 1)<|?_
 have hle:¬ b.length≤256-S.held.length:=by omega
 have hs:S.feed b=(⟨S.dir,[],true⟩,[Ev.bad 3]):=by unfold SS.feed;rw[l,decide_eq_false hle];rfl
 rw[hs]
 have hE:=oO (m:=.hi w.heap.size) (w0:=w) (x:=Ev.bad 3) (Nat.le_trans (le (le (le (le f.size j.size) i.size) r.size) s.size) O) Q ⟨⟨none,0,none,0,none,0,none,0,none,0⟩,by kernel_rfl,oG,by decide,by decide⟩
 exact⟨_,none,0,n,rfl,dy.bad (Nat.le_trans hn0 (le (le (le (le (le f.size j.size) i.size) r.size) s.size) t.size)) hE,⟨⟨0,(ub t M),aT.nil ..,(Nat.zero_le _),(Nat.zero_le _)⟩,aQ.nil ..,Nat.le_trans hn0 (le (le (le (le (le f.size j.size) i.size) r.size) s.size) t.size),d8,Nat.le_trans hbs (le (le (le (le (le f.size j.size) i.size) r.size) s.size) t.size)⟩,eK,Nat.le_refl _,mU (u1 p (u1 r (aK s t) im) im)⟩
theorem uZ{w:World}{n base g c:Nat}{A:Option Addr}{S:SS}(h:de n base w g A c S) : Calls Tryz.prog 252 #[vP g 0] w (EH n base S.tick.1 S.tick.2 g A w):=by
 obtain⟨⟨cp,hb,hr,hl,hcp⟩,hrow,hn0,hlow,hbs⟩:=h
 have hcm:=aT.len hr
 refine en 32 Tryz.func252 rfl<|aA 1<|aU 3<|aD hb 1<|al 1<|sq<|go<|Pl 4<|L0<|cA hb 1 #[vI S.dir,nS,.bool S.off] fun L u d=>Pl 2<|L0<|cA u 2 #[vI S.dir,nS,.bool false] fun v l f=>nt<|sq<|aB 3<|?_
 have a:=u1 d f im
 refine cb (((S.held.length:Int)==0)) (fun o=>?_) (fun o=>?_)
 have y:=aI o
 refine aB 1<|bQ<|rr nS<|?_
 have hs:S.tick=(⟨S.dir,[],false⟩,[]):=by unfold SS.tick;rw[if_pos (by omega)]
 rw[hs]
 exact⟨_,none,0,v.heap.size,rfl,dy.nil,⟨⟨0,l,aT.nil ..,(Nat.zero_le _),(Nat.zero_le _)⟩,aQ.nil ..,Nat.le_refl _,d8,Nat.le_trans hbs a.size⟩,eK,Nat.le_trans hn0 a.size,mU a⟩
 have y:=aS o
 refine bM<|aA 3<|aD l 0<|Pl 1<|?_
 refine pr (eN S.dir S.held) fun b p r=>?_
 refine aG<|e2 (ro r (aW.upd' hr a (am (b6 hb (by decide)) aP)) (by omega)) fun DG M z i=>?_
 obtain⟨B,C,D⟩:=z
 refine Pl 3<|aO #[vB 0,vW 0,vB 0,vB 0,vW 0,vW 0,vW 0,vW 0,vW 0,vW 0,vW 0,vW 0,vW 0,vW 0,nS,nS,nS,nS,vB 0,vB 0,vB 0,vB 0,vB 0,nS] fun N O E F j=>aN F (eo b.unit b.tid b.msg DG) fun P G k=>Pl 1<|aU 1<|L0<|cM G<|Pl 1<|L0<|dX (m:=1) (e:=87) (xV ⟨p,b⟩ DG) fun H I J K q=>Pl 1<|nl<|tn<|rt<|rr (.slice (some ⟨H,0,none⟩) 1 1)<|?_
 have hs:S.tick=(⟨S.dir,[],false⟩,[⟨p,b⟩]):=by unfold SS.tick;rw[if_neg (by omega),r]
 rw[hs]
 have s:=ud j (aK k q) E
 have hE:=oO (m:=.hi w.heap.size) (w0:=w) (x:=⟨p,b⟩) (Nat.le_trans (le (le (le (le d.size f.size) i.size) j.size) k.size) J) K ⟨DG,rfl,(aH.lo (aH.upd B s aP) a.size),C,D⟩
 have t:=aK i s
 exact⟨_,none,0,I.heap.size,rfl,zq.low hE,⟨⟨0,(ub t l),aT.nil ..,(Nat.zero_le _),(Nat.zero_le _)⟩,aQ.nil ..,Nat.le_refl _,d8,Nat.le_trans hbs (le (le (le (le (le d.size f.size) i.size) j.size) k.size) q.size)⟩,eK,Nat.le_trans hn0 (le (le (le (le (le d.size f.size) i.size) j.size) k.size) q.size),mU (aK a t)⟩
open Go.RowKit
def wC (b:List Int) : aF:=⟨b,false,0⟩
def wB (b:List Int) : aF:=(wC b).wordsC 1
def ww (b:List Int) : aF:=(wB b).wordsC 1
def wz (b:List Int) : aF:=(ww b).wordsC 1
def wP (b:List Int) : aF:=(wz b).bytesC 1
def mY (b:List Int) : List Int:=(wP b).bytesR (((wP b).l.length:Nat) : Int)
def cE (dir:Int)(b:List Int) : aM × Int :=
  if dir != 0&&dir != 1 then (aM.zero,1)
  else if decide ((b.length:Int)<8) then (aM.zero,2)
  else if decide (260<(b.length:Int)) then (aM.zero,3)
  else if (wB b).wordV != 0 then (aM.zero,13)
  else if (ww b).wordV != (b.length:Int)-6 then (aM.zero,5)
  else di (wz b).byteV (wC b).wordV (db dir (mY b))
theorem qv{m:Md}{A:Option Addr}{cp:Nat}{b:List Int}{w:World}{dir:Int}(hsl:aW m w (.slice A b.length cp) b)(hb:b.length≤1048576) :
    Calls Tryz.prog 107 #[vI dir,.slice A b.length cp] w (oT (cE dir b) w):=by
 have hln:(b.length:Int)≤1048576:=by omega
 refine en 75 Tryz.func107 rfl<|sg<|aO #[vB 0,vW 0,vB 0,vB 0,vW 0,vW 0,vW 0,vW 0,vW 0,vW 0,vW 0,vW 0,vW 0,vW 0,nS,nS,nS,nS,vB 0,vB 0,vB 0,vB 0,vB 0,nS] fun b5 b7 g e h=>al 1<|sq<|bk<|aA 3<|ij 3 [17] 20 17 (dir != 0) (dir != 1) (fun K a1 a2=>?_) ?_
 have b9:=aR a2
 exact Pl 3<|ce a1 _ rfl
 refine al 1<|cb (((dir != 0)&&(dir != 1))) (fun c=>?_) (fun c=>?_)
 have O:=(bW c).1
 have P:=(bW c).2
 have ba:=aR O
 have bb:=aR P
 refine aA 1<|aN e #[vB 0,vW 0,vB 0,vB 0,vW 0,vW 0,vW 0,vW 0,vW 0,vW 0,vW 0,vW 0,vW 0,vW 0,nS,nS,nS,nS,vB 0,vB 0,vB 0,vB 0,vB 0,nS] fun bc a3 a4=>al 1<|rt<|br<|tr<|eA a3 (vI 1)<|?_
 have hs:cE dir b=(aM.zero,1):=by
   unfold cE
   (try simp only[c,O,P,bC,di,wP,wz,ww,wB,wC,reduceIte])
   all_goals rfl
 refine eu hs ?_
 exact d9 (ud h a4 g)
 refine aB 4<|cb ((decide ((b.length:Int)<8))) (fun d=>?_) (fun d=>?_)
 have a5:=of_decide_eq_true d
 refine aA 1<|aN e #[vB 0,vW 0,vB 0,vB 0,vW 0,vW 0,vW 0,vW 0,vW 0,vW 0,vW 0,vW 0,vW 0,vW 0,nS,nS,nS,nS,vB 0,vB 0,vB 0,vB 0,vB 0,nS] fun bd a6 a7=>al 1<|rt<|br<|tr<|eA a6 (vI 2)<|?_
 have hs:cE dir b=(aM.zero,2):=by
   unfold cE
   (try simp only[c,d,bC,di,wP,wz,ww,wB,wC,reduceIte])
   all_goals rfl
 refine eu hs ?_
 exact d9 (ud h a7 g)
 have a5:=of_decide_eq_false d
 refine aB 4<|cb ((decide (260<(b.length:Int)))) (fun f=>?_) (fun f=>?_)
 have a8:=of_decide_eq_true f
 refine aA 1<|aN e #[vB 0,vW 0,vB 0,vB 0,vW 0,vW 0,vW 0,vW 0,vW 0,vW 0,vW 0,vW 0,vW 0,vW 0,nS,nS,nS,nS,vB 0,vB 0,vB 0,vB 0,vB 0,nS] fun be a9 aa=>al 1<|rt<|br<|tr<|eA a9 (vI 3)<|?_
 have hs:cE dir b=(aM.zero,3):=by
   unfold cE
   (try simp only[c,d,f,bC,di,wP,wz,ww,wB,wC,reduceIte])
   all_goals rfl
 refine eu hs ?_
 exact d9 (ud h aa g)
 have a8:=of_decide_eq_false f
 refine sk<|bn<|tn<|aA 1<|?_
 refine aG<|e3 (dI (aW.old hsl h) (by omega)) fun t bf o ac Q=>Pl 1<|aU 1<|aU 2<|L0<|gk #[] #[] (args:=#[vP t 0])<|m3 (bK ac) fun bg ad R bh=>Pl 2<|L0<|gk #[] #[] (args:=#[vP t 0])<|m3 (bK ad) fun bi ae S bj=>?_
 refine ab ae fun x46 r af=>?_
 refine Pl 2<|L0<|gk #[] #[] (args:=#[vP t 0])<|m3 (bK af) fun bl ag T bm=>al 3<|sq<|bk<|aB 3<|?_
 have j:=ud Q (u1 R (u1 S T im) im) o
 have u:=aK h j
 refine cb (((((aF.mk b false 0).wordsC 1).wordV)!=0)) (fun i=>?_) (fun i=>?_)
 have ai:=aR i
 refine aA 1<|?_
 refine aN (ub j e) #[vB 0,vW 0,vB 0,vB 0,vW 0,vW 0,vW 0,vW 0,vW 0,vW 0,vW 0,vW 0,vW 0,vW 0,nS,nS,nS,nS,vB 0,vB 0,vB 0,vB 0,vB 0,nS] fun bo aj ak=>al 1<|rt<|br<|tr<|eA aj (vI 13)<|?_
 subst r
 have hs:cE dir b=(aM.zero,13):=by
   unfold cE
   (try simp only[c,d,f,i,bC,di,wP,wz,ww,wB,wC,reduceIte])
   all_goals rfl
 refine eu hs ?_
 exact d9 (ud u ak g)
 have ai:=aZ i
 refine aA 1<|bD x46.wordV<|Pl 2<|bD ((b.length:Int)-6)<|al 2<|cb ((x46.wordV != ((b.length:Int)-6))) (fun k=>?_) (fun k=>?_)
 have an:=aR k
 refine aA 1<|?_
 refine aN (ub j e) #[vB 0,vW 0,vB 0,vB 0,vW 0,vW 0,vW 0,vW 0,vW 0,vW 0,vW 0,vW 0,vW 0,vW 0,nS,nS,nS,nS,vB 0,vB 0,vB 0,vB 0,vB 0,nS] fun bp ao ap=>al 1<|rt<|br<|tr<|eA ao (vI 5)<|?_
 subst r
 have hs:cE dir b=(aM.zero,5):=by
   unfold cE
   (try simp only[c,d,f,i,k,bC,di,wP,wz,ww,wB,wC,reduceIte])
   all_goals rfl
 refine eu hs ?_
 exact d9 (ud u ap g)
 have an:=aZ k
 refine sk<|bn<|tn<|aA 1<|aG<|m3 (bJ ag) fun bq s v bs=>Pl 1<|aU 3<|aG<|mq (ea s)<|?_
 have bt:=ah.len s
 refine aG<|w6 (cc (n:=((((x46.wordsC 1).bytesC 1).l.length:Nat) : Int)) s) fun bu bv aq ar bw bx au x=>?_
 have bz:=Nat.le_trans (aF.bytesR_le ((x46.wordsC 1).bytesC 1) ((((x46.wordsC 1).bytesC 1).l.length:Nat) : Int)) (ah.len s)
 refine ab au fun x80 U bA=>?_
 obtain⟨a,p,y⟩ : ∃ M E,db dir (((x46.wordsC 1).bytesC 1).bytesR ((((x46.wordsC 1).bytesC 1).l.length:Nat) : Int))=(M,E):=⟨_,_,rfl⟩
 have V:=kS (dir:=dir) (w:=aq) ar (by omega)
 rw[y] at V
 refine aG<|e2 V fun av bB W X=>?_
 have aw:=W
 obtain⟨ax,ay,az,aC,aD,aE,aI,aJ,aL,aQ,aS,bE⟩:=aw
 obtain rfl:av=(eG a ax ay az aC aD).toArray:=by apply Array.toList_inj.1;simpa using aE
 obtain⟨z,B,rfl,_,_⟩:=aI.shape
 obtain⟨C,D,rfl,_,_⟩:=aJ.shape
 obtain⟨F,G,rfl,_,_⟩:=aL.shape
 obtain⟨H,I,rfl,_,_⟩:=aQ.shape
 obtain⟨J,L,rfl,_,_⟩:=aS.shape
 refine Pl 3<|aO mZ fun bF bG aT aV aX=>aN aV (mG a.code a.fail a.addr a.count a.value a.and_ a.or_ a.addr2 a.sub a.status a.events a.messages (.slice z a.words.length B) (.slice C a.bits.length D) (.slice F a.data.length G) (.slice H a.recs.length I) a.mei a.kind a.level a.more a.next (.slice J a.objects.length L)) fun bH aY b0=>al 1<|sq<|aB 2<|?_
 have Y:=ud aX b0 aT
 have N:=u1 v (aK x (aK X Y)) im
 have Z:=ud u N (le h.size o)
 refine cb ((p != 0)) (fun q=>?_) (fun q=>?_)
 have b1:=aR q
 refine aA 2<|?_
 refine aN (ub (ud j N o) e) #[vB 0,vW 0,vB 0,vB 0,vW 0,vW 0,vW 0,vW 0,vW 0,vW 0,vW 0,vW 0,vW 0,vW 0,nS,nS,nS,nS,vB 0,vB 0,vB 0,vB 0,vB 0,nS] fun bI b2 b3=>al 1<|bQ<|eA b2 (vI p)<|?_
 subst U r
 have hX2:db dir (mY b)=(a,p):=y
 have hs:cE dir b=(aM.zero,p):=by
   unfold cE
   (try simp only[c,d,f,i,k,q,bC,di,wP,wz,ww,wB,wC,hX2,reduceIte])
   all_goals rfl
 refine eu hs ?_
 exact d9 (ud Z b3 g)
 have b1:=aZ q
 refine bM<|aA 3<|L0<|cM aY<|Pl 1<|?_
 refine aN (ub (ud j N o) e) #[vB ((x46.wordsC 1).byteV),vW ((aF.mk b false 0).wordV),vB a.code,vB a.fail,vW a.addr,vW a.count,vW a.value,vW a.and_,vW a.or_,vW a.addr2,vW a.sub,vW a.status,vW a.events,vW a.messages,.slice z a.words.length B,.slice C a.bits.length D,.slice F a.data.length G,.slice H a.recs.length I,vB a.mei,vB a.kind,vB a.level,vB a.more,vB a.next,.slice J a.objects.length L] fun bL b4 a0=>al 1<|rt<|eA b4 (vI 0)<|?_
 subst U r
 have hX2:db dir (mY b)=(a,p):=y
 have hs:cE dir b=(⟨((((aF.mk b false 0).wordsC 1).wordsC 1).wordsC 1).byteV,(aF.mk b false 0).wordV,a⟩,0):=by
   unfold cE
   (try simp only[c,d,f,i,k,q,bC,di,wP,wz,ww,wB,wC,hX2,reduceIte])
   all_goals rfl
 refine eu hs ?_
 exact⟨_,rfl,⟨#[vB a.code,vB a.fail,vW a.addr,vW a.count,vW a.value,vW a.and_,vW a.or_,vW a.addr2,vW a.sub,vW a.status,vW a.events,vW a.messages,.slice z a.words.length B,.slice C a.bits.length D,.slice F a.data.length G,.slice H a.recs.length I,vB a.mei,vB a.kind,vB a.level,vB a.more,vB a.next,.slice J a.objects.length L],(by as_aux_lemma=>kernel_rfl),(aH.lo (aH.upd W (uz Y a0) (am (b6 (ub (ud j (u1 v (aK x X) im) o) e) (by decide)) aP)) (le (le (le (le (le (le h.size Q.size) R.size) S.size) T.size) v.size) x.size)),b8 (by omega),cD (by omega)⟩,(ud Z a0 g)⟩
theorem sU{m:Md}{v:Value}{b:List Int}{w:World}{dir:Int}(h:aW m w v b)(hb:b.length≤1048576) : Calls Tryz.prog 107 #[.int .i64 dir,v] w (oT (cE dir b) w):=by
  obtain⟨A,cp,rfl,_,_⟩:=h.shape
  exact qv h hb
open Go.RowKit
def eq (dir u t:Int)(M:b7) : Option (List Int) :=
  match dc dir M with
  | none=>none
  | some l=>some ((aV [t,0,((l.length:Int)+1)%65536]++[u])++l)
theorem nf{m:Md}{cs:Array Value}{M:b7}{w:World}{dir u t:Int}(h:aH m w cs.toList M)(hf:bg M)(hu:B8 u)(ht:eT t) : Calls Tryz.prog 275 #[vI dir,.agg (#[vB u,vW t]++cs)] w (gh (eq dir u t M) w):=by
 have hM:=h
 obtain⟨hu1,hu2⟩:=hu
 obtain⟨ht1,ht2⟩:=ht
 refine jl h fun Aw kw Ab kb Ad kd Ar kr Ao ko e hw hbt hd hr ho _ _ _ _ _ _ _ _ _ _ q0 q1 q2 q3 q4 q5 q6 q7 q8 q9 J K L N O P Q=>?_
 subst e
 refine en 35 Tryz.func275 rfl<|sg<|L0<|cX #[vB u,vW t,vB M.code,vB M.fail,vW M.addr,vW M.count,vW M.value,vW M.and_,vW M.or_,vW M.addr2,vW M.sub,vW M.status,vW M.events,vW M.messages,.slice Aw M.words.length kw,.slice Ab M.bits.length kb,.slice Ad M.data.length kd,.slice Ar M.recs.length kr,vB M.mei,vB M.kind,vB M.level,vB M.more,vB M.next,.slice Ao M.objects.length ko] fun R S T g a=>Pl 2<|aU 2<|L0<|Dj g 2 22<|?_
 rcases hwr:dc dir M with _|lw
 have i:=fb (dir:=dir) (aH.old hM a) hf
 rw[hwr] at i
 refine aG<|m1 i fun U r=>al 5<|sq<|aB 2<|c1<|aA 2<|nl<|tn<|bQ<|rr (.tuple #[nS,vI 1])<|?_
 exact dQ (y:=none) (by unfold eq;(try simp only[hwr])<;>rfl) ⟨rfl,(aK a r)⟩
 have hlw:=gW hwr
 have j:=fb (dir:=dir) (aH.old hM a) hf
 rw[hwr] at j
 refine aG<|fC j fun V W X s Y Z d=>al 5<|sq<|aB 2<|c0<|bM<|sq<|go<|Pl 2<|?_
 have k:=ub d g
 refine aD k 1<|Pl 2<|bD ((lw.length:Int)+1)<|Pl 1<|L0<|dX (m:=3) (e:=37) #[vW t,vW 0,vW (((lw.length:Int)+1)%65536)] fun a0 a1 v z b=>?_
 have A:=iw v (xs:=[t,0,(((lw.length:Int)+1)%65536)]) (by as_aux_lemma=>kernel_rfl) (ax (by omega) (ax (by omega) (ax (by omega) b9))) (by(try simp only[List.length_cons,List.length_nil]);omega) z
 refine aG<|fC (ck (xs:=[t,0,(((lw.length:Int)+1)%65536)]) (A).rd (by(try simp only[List.length_cons,List.length_nil]);omega)) fun B a2 a3 l a4 a5 f=>Pl 1<|aU 3<|?_
 have n:=aK b f
 refine aD (ub n k) 0<|L0<|dX (m:=1) (e:=5) #[vB u] fun a6 a7 C D c=>?_
 have E:=dZ C (xs:=[u]) (by as_aux_lemma=>kernel_rfl) (ax (by omega) b9) (by(try simp only[List.length_cons,List.length_nil]);omega) D
 refine L0<|dj bp (xs:=(aV ([t,0,(((lw.length:Int)+1)%65536)]))) (ys:=([u])) (vB 0) 1 (ak l c (fun x hx=>av) (fun _ _ h=>h)) (E).rd (by(try simp only[co,aE]);omega) (le f.size c.size) fun a8 a9 aa o p=>Pl 1<|?_
 have q:=ut n (ut (ay.mono (S':=(ob B++[])) c aC) p (ai il aC)) (ai (aX l b.size) aC)
 refine L0<|dj bp (xs:=((aV ([t,0,(((lw.length:Int)+1)%65536)]))++[u])) (ys:=lw) (vB 0) 1 o ((ak s q (fun x hx=>av) (fun _ _ h=>h))).rd (by(try simp only[co,aE]);omega) (le (le f.size c.size) p.size) fun F G ab H I=>al 2<|rt<|rr (.tuple #[.slice F ((((aV ([t,0,(((lw.length:Int)+1)%65536)]))++[u])++lw).length) G,vI 0])<|?_
 exact dQ (y:=(some (((aV ([t,0,(((lw.length:Int)+1)%65536)]))++[u])++lw))) (by unfold eq;(try simp only[hwr])<;>rfl) ⟨_,rfl,(aQ.weaken H (le (le a.size d.size) b.size)),(aK a (aK d (ut q I (ai (aX o b.size) aC))))⟩
open Go.RowKit
theorem jV{m:Md}{v:Value}{b:List Int}{w:World}{dir:Int}{F:aM}{E:Int}(hX:cE dir b=(F,E))(h:aW m w v b)(hb:b.length≤1048576) : Calls Tryz.prog 107 #[.int .i64 dir,v] w (fun e w'=>∃ x,e = .returned (.tuple #[.agg (eo F.unit F.tid F.msg x),.int .i64 E])∧(aH (.hi w.heap.size) w' (jq F.msg x).toList F.msg∧(0≤F.unit∧F.unit<256)∧(0≤F.tid∧F.tid<65536))∧ay [] w w'):=by
  refine(sU h hb).mono ?_
  rintro e w' ⟨cs,rfl,h1,h2⟩
  rw[hX] at h1 ⊢
  obtain⟨c,rfl,h3,h4,h5⟩:=h1
  obtain⟨x,rfl⟩:=p5 h3
  exact⟨x,by rw[fo],⟨h3,h4,h5⟩,h2⟩
theorem pg{m:Md}{x:SL}{M:b7}{w:World}{dir u t:Int}(hX:eq dir u t M=none)(h:aH m w (jq M x).toList M)(hf:bg M)(hu:0≤u∧u<256)(ht:0≤t∧t<65536) : Calls Tryz.prog 275 #[.int .i64 dir,.agg (eo u t M x)] w (fun e w'=>e = .returned (.tuple #[.slice none 0 0,.int .i64 1])∧ay [] w w'):=by
  have:=nf (dir:=dir) h hf hu ht
  rw[hX] at this
  rw[fo]
  exact this
theorem oP{m:Md}{x:SL}{M:b7}{w:World}{dir u t:Int}{l:List Int}(hX:eq dir u t M=some l)(h:aH m w (jq M x).toList M)(hf:bg M)(hu:0≤u∧u<256)(ht:0≤t∧t<65536) : Calls Tryz.prog 275 #[.int .i64 dir,.agg (eo u t M x)] w (fun e w'=>∃ v,e = .returned (.tuple #[v,.int .i64 0])∧cG w.heap.size w' v l∧ay [] w w'):=by
  have:=nf (dir:=dir) h hf hu ht
  rw[hX] at this
  rw[fo]
  exact this
open Go.RowKit
structure SM where
  dir:Int
  held:List Int
  skip:Int
theorem zH{a b:Int}(ha:0≤a∧a<256)(hb:0≤b∧b<256) : bits .or .i64 (a*256) b=a*256+b:=by
  obtain⟨A,rfl⟩:=Int.eq_ofNat_of_zero_le ha.1
  obtain⟨B,rfl⟩:=Int.eq_ofNat_of_zero_le hb.1
  have e:((A:Int)*256)=((A*256:Nat) : Int):=by omega
  rw[e]
  show IntKind.i64.wrap ((BitVec.ofInt 64 ((A*256:Nat) : Int) ||| BitVec.ofInt 64 (B:Int)).toNat:Int)=_
  rw[BitVec.toNat_or,BitVec.ofInt_natCast,BitVec.ofInt_natCast,BitVec.toNat_ofNat,BitVec.toNat_ofNat,Nat.mod_eq_of_lt (by omega),Nat.mod_eq_of_lt (by omega)]
  have h:=Nat.shiftLeft_add_eq_or_of_lt (i:=8) (b:=B) (by omega) A
  rw[Nat.shiftLeft_eq] at h
  rw[← h,i64_in (by omega)]
  omega
def SM.size (S:SM) : Int:=S.held.getD 4 0*256+S.held.getD 5 0
def SM.nx (S:SM) : Nat:=if S.held.length<6 then 0 else if 254<S.size then 1 else if S.size<2 then 2 else if (S.held.length:Int)=6+S.size then 3 else 0
def SM.does (S:SM) : SM × List Ev:=match S.nx with
  | 1=>(⟨S.dir,[],S.size⟩,[Ev.bad 3])
  | 2=>(⟨S.dir,[],S.size⟩,[Ev.bad 5])
  | 3=>(⟨S.dir,[],S.skip⟩,[⟨(cE S.dir S.held).2,(cE S.dir S.held).1⟩])
  | _=>(S,[])
def SM.byte (S:SM)(c:Int) : SM × List Ev:=if 0<S.skip then (⟨S.dir,S.held,S.skip-1⟩,[]) else (SM.mk S.dir (S.held++[c]) S.skip).does
def SM.feed (S:SM)(b:List Int) : SM × List Ev:=b.foldl (fun p c=>((p.1.byte c).1,p.2++(p.1.byte c).2)) (S,[])
abbrev Fm (S:SM) (A:Option Addr) (cp:Nat) : Array Value:=#[.int .i64 S.dir,.slice A S.held.length cp,.int .i64 S.skip]
abbrev oD (w:World) (g:Nat) (S:SM) (A:Option Addr) (cp:Nat) : Prop:=w.heap[g]? = some (.cells (Fm S A cp) 89 (0,0))
theorem SM.size_rng{S:SM}(h:∀ x,x∈S.held→0≤x∧x<256) : 0≤S.size∧S.size<65536:=by
  have hd:∀ j,0≤S.held.getD j 0∧S.held.getD j 0<256:=fun j=>by
    rw[List.getD_eq_getElem?_getD]
    cases hj:S.held[j]? with
    | none=>simp
    | some x=>exact h x (List.mem_of_getElem? hj)
  have h4:=hd 4
  have h5:=hd 5
  unfold SM.size
  omega
def D2 (S:SM)(L:List Ev)(g:Nat)(w:World)(e:Ending)(w':World) : Prop:=∃ v,e = .returned v∧zq w.heap.size w' v L∧oD w' g S none 0∧ay [g] w w'
theorem sA{w:World}:Calls Tryz.prog 15 #[vI 0] w (fun e w'=>∃ g,e = .returned (vP g 0)∧w.heap.size≤g∧oD w' g ⟨0,[],0⟩ none 0∧ay [] w w'):=by
 exact en 12 Tryz.func15 rfl<|aB 1<|sq<|aB 6<|c0<|sk<|tn<|aA 2<|L0<|cX #[vI 0,nS,vI 0] fun a f b c d=>al 1<|rt<|rr (vP a 0)<|⟨a,rfl,b,c,d⟩
theorem ta{w:World}:Calls Tryz.prog 15 #[vI 1] w (fun e w'=>∃ g,e = .returned (vP g 0)∧w.heap.size≤g∧oD w' g ⟨1,[],0⟩ none 0∧ay [] w w'):=by
 exact en 12 Tryz.func15 rfl<|aB 1<|sq<|aB 6<|c0<|sk<|tn<|aA 2<|L0<|cX #[vI 1,nS,vI 0] fun a f b c d=>al 1<|rt<|rr (vP a 0)<|⟨a,rfl,b,c,d⟩
theorem iv{w:World}{g:Nat}{S:SM}{A:Option Addr}{cp:Nat}(hb:oD w g S A cp)(hr:aW true w (.slice A S.held.length cp) S.held)(h6:6≤S.held.length) : Calls Tryz.prog 74 #[vP g 0] w (bS (vI S.size) w):=by
 have hcm:=aT.len hr
 have hrg:=SM.size_rng (aW.range hr)
 have hru:=aW.range hr
 refine en 19 Tryz.func74 rfl<|aB 1<|sq<|kf (aW.at_ hr 4 (by omega)) fun c d e f l=>kf (aW.at_ hr 5 (by omega)) fun h i j k m=>Rg 17 (fun w'=>w'.cell? ⟨g,1,none⟩=some (.slice A S.held.length cp)∧w'.cell? ⟨c,d+4,none⟩=some (vB (S.held.getD 4 0))∧w'.cell? ⟨h,i+5,none⟩=some (vB (S.held.getD 5 0))) fun n b=>?_
 exact bi ⟨(ae (ub b hb) rfl),(uc b f),(uc b k)⟩ fun a=>Rt 0 a<|Rt 1 a<|Rt 2 a<|Rl 3 a (fun _ hs=>hs.1)<|yJ 4 a S.held.length 4 4 rfl e (by omega)<|Rl 5 a (fun _ hs=>hs.2.1)<|Rr 6 a (vI (S.held.getD 4 0)) (fun _ _=>cR (vI (IntKind.i64.wrap (S.held.getD 4 0))) (by kernel_rfl) (congrArg (Value.int .i64) (i64_in (by omega))))<|Rr 7 a (vI ((S.held.getD 4 0)*256)) (fun _ _=>cR (vI (IntKind.i64.wrap ((S.held.getD 4 0)*256))) (by kernel_rfl) (congrArg (Value.int .i64) (i64_in (by omega))))<|Rt 8 a<|Rt 9 a<|Rt 10 a<|Rl 11 a (fun _ hs=>hs.1)<|yJ 12 a S.held.length 5 5 rfl j (by omega)<|Rl 13 a (fun _ hs=>hs.2.2)<|Rr 14 a (vI (S.held.getD 5 0)) (fun _ _=>cR (vI (IntKind.i64.wrap (S.held.getD 5 0))) (by kernel_rfl) (congrArg (Value.int .i64) (i64_in (by omega))))<|Rr 15 a (vI (((S.held.getD 4 0)*256)+(S.held.getD 5 0))) (fun _ _=>cR (vI (bits .or .i64 ((S.held.getD 4 0)*256) (S.held.getD 5 0))) (by kernel_rfl) (congrArg (Value.int .i64) (zH (by omega) (by omega))))<|Rt 16 a<|re<|tn<|rt<|rr (vI (((S.held.getD 4 0)*256)+(S.held.getD 5 0)))<|⟨rfl,b⟩
def SM.fn (S:SM)(g:Nat) : Value:=match S.nx with
  | 1=>.func (.func 75) #[.pointer (some ⟨g,0,none⟩)] #[]
  | 2=>.func (.func 76) #[.pointer (some ⟨g,0,none⟩)] #[]
  | 3=>.func (.func 77) #[.pointer (some ⟨g,0,none⟩)] #[]
  | _=>.nilFunc
theorem iG{w:World}{g:Nat}{S:SM}{A:Option Addr}{cp:Nat}(hb:oD w g S A cp)(hr:aW true w (.slice A S.held.length cp) S.held) : Calls Tryz.prog 52 #[vP g 0] w (bS (S.fn g) w):=by
 have hcm:=aT.len hr
 have hrg:=SM.size_rng (aW.range hr)
 have hru:=aW.range hr
 refine en 34 Tryz.func52 rfl<|aB 1<|sq<|bk<|aA 3<|aD hb 1<|Pl 3<|nl<|tn<|cb ((decide ((S.held.length:Int)<6))) (fun c=>?_) (fun c=>?_)
 have r:=of_decide_eq_true c
 refine aB 1<|rt<|br<|tr<|rr (.nilFunc)<|?_
 have hs:S.nx=0:=by unfold SM.nx;(repeat' split)<;>first | rfl | omega
 have hf:S.fn g = .nilFunc:=by unfold SM.fn;rw[hs];rfl
 exact⟨by rw[hf],(ay.refl [] _)⟩
 have r:=of_decide_eq_false c
 refine aA 1<|aG<|m1 (iv (S:=S) hb hr (by omega)) fun v b=>al 2<|cb ((decide (254<S.size))) (fun d=>?_) (fun d=>?_)
 have s:=of_decide_eq_true d
 refine aB 3<|rt<|br<|tr<|rr (.func (.func 75) #[vP g 0] #[])<|?_
 have hs:S.nx=1:=by unfold SM.nx;(repeat' split)<;>first | rfl | omega
 have hf:S.fn g = .func (.func 75) #[vP g 0] #[]:=by unfold SM.fn;rw[hs];rfl
 exact⟨by rw[hf],b⟩
 have s:=of_decide_eq_false d
 refine aA 1<|?_
 have j:=ub b hb
 have k:=aW.upd' hr b aP
 refine aG<|m1 (iv (S:=S) j k (by omega)) fun x l=>al 2<|?_
 have m:=aK b l
 refine cb ((decide (S.size<2))) (fun e=>?_) (fun e=>?_)
 have t:=of_decide_eq_true e
 refine aB 3<|rt<|br<|tr<|rr (.func (.func 76) #[vP g 0] #[])<|?_
 have hs:S.nx=2:=by unfold SM.nx;(repeat' split)<;>first | rfl | omega
 have hf:S.fn g = .func (.func 76) #[vP g 0] #[]:=by unfold SM.fn;rw[hs];rfl
 exact⟨by rw[hf],m⟩
 have t:=of_decide_eq_false e
 refine sq<|Rg 10 (fun w'=>w'.cell? ⟨g,1,none⟩=some (.slice A S.held.length cp)) fun y n=>?_
 have o:=aK l n
 have f:=ub o j
 refine bi (ae f rfl) fun a=>Rt 0 a<|Rt 1 a<|Rt 2 a<|Rl 3 a (fun _ hs=>hs)<|Rt 4 a<|Rt 5 a<|?_
 refine R0 6 rfl<|Oc<|m1 (iv (S:=S) f (aW.upd' k o aP) (by omega)) fun z p=>?_
 refine bi (ae (ub p f) rfl) fun h=>Rr 7 h (vI (6+S.size)) (fun _ _=>cR (vI (IntKind.i64.wrap (6+S.size))) (by kernel_rfl) (congrArg (Value.int .i64) (IntWalk.i64_in _ (by omega))))<|Rt 8 h<|Rt 9 h<|re<|tn<|?_
 have q:=aK m (aK n p)
 refine cb (((S.held.length:Int)==(6+S.size))) (fun i=>?_) (fun i=>?_)
 have u:=aI i
 refine aB 3<|rt<|br<|tr<|rr (.func (.func 77) #[vP g 0] #[])<|?_
 have hs:S.nx=3:=by unfold SM.nx;(repeat' split)<;>first | rfl | omega
 have hf:S.fn g = .func (.func 77) #[vP g 0] #[]:=by unfold SM.fn;rw[hs];rfl
 exact⟨by rw[hf],q⟩
 have u:=aS i
 refine sk<|bn<|tn<|aB 1<|rt<|rr (.nilFunc)<|?_
 have hs:S.nx=0:=by unfold SM.nx;(repeat' split)<;>first | rfl | omega
 have hf:S.fn g = .nilFunc:=by unfold SM.fn;rw[hs];rfl
 exact⟨by rw[hf],q⟩
theorem ka{w:World}{g:Nat}{S:SM}{A:Option Addr}{cp:Nat}(hb:oD w g S A cp)(hr:aW true w (.slice A S.held.length cp) S.held)(h6:6≤S.held.length){e:Int}:Calls Tryz.prog 106 #[vP g 0,vI e] w (D2 ⟨S.dir,[],S.size⟩ [Ev.bad e] g w):=by
 have hcm:=aT.len hr
 have hrg:=SM.size_rng (aW.range hr)
 have hru:=aW.range hr
 refine en 16 Tryz.func106 rfl<|aA 1<|aU 2<|aG<|m1 (iv (S:=S) hb hr (by omega)) fun l a=>Pl 2<|?_
 refine L0<|cA (ub a hb) 2 #[vI S.dir,.slice A S.held.length cp,vI S.size] fun n f b=>aU 3<|L0<|cA f 1 #[vI S.dir,nS,vI S.size] fun o h c=>aU 2<|L0<|dX (m:=1) (e:=87) #[vI e,vB 0,vW 0,vB 0,vB 0,vW 0,vW 0,vW 0,vW 0,vW 0,vW 0,vW 0,vW 0,vW 0,vW 0,nS,nS,nS,nS,vB 0,vB 0,vB 0,vB 0,vB 0,nS] fun i p j k d=>Pl 1<|nl<|tn<|rt<|rr (.slice (some ⟨i,0,none⟩) 1 1)<|?_
 have hE:=oO (m:=.hi w.heap.size) (w0:=w) (x:=Ev.bad e) (Nat.le_trans (le (le a.size b.size) c.size) j) k ⟨⟨none,0,none,0,none,0,none,0,none,0⟩,by kernel_rfl,oG,(show(0:Int)≤0∧(0:Int)<256 from by decide),(show(0:Int)≤0∧(0:Int)<65536 from by decide)⟩
 exact⟨_,rfl,hE,(ub d h),(uz a (u1 b (aK c d) im))⟩
theorem rO{w:World}{g:Nat}{S:SM}{A:Option Addr}{cp:Nat}(hb:oD w g S A cp)(hr:aW true w (.slice A S.held.length cp) S.held)(h6:6≤S.held.length) : Calls Tryz.prog 75 #[vP g 0] w (D2 ⟨S.dir,[],S.size⟩ [Ev.bad 3] g w):=by
 have hcm:=aT.len hr
 have hrg:=SM.size_rng (aW.range hr)
 have hru:=aW.range hr
 exact en 5 Tryz.func75 rfl<|aA 1<|aU 1<|aG<|tS (ka (S:=S) (e:=3) hb hr h6) fun a b h c i j d f=>al 1<|rt<|rr (.slice a 1 b)<|⟨_,rfl,c,d,f⟩
theorem qA{w:World}{g:Nat}{S:SM}{A:Option Addr}{cp:Nat}(hb:oD w g S A cp)(hr:aW true w (.slice A S.held.length cp) S.held)(h6:6≤S.held.length) : Calls Tryz.prog 76 #[vP g 0] w (D2 ⟨S.dir,[],S.size⟩ [Ev.bad 5] g w):=by
 have hcm:=aT.len hr
 have hrg:=SM.size_rng (aW.range hr)
 have hru:=aW.range hr
 exact en 5 Tryz.func76 rfl<|aA 1<|aU 1<|aG<|tS (ka (S:=S) (e:=5) hb hr h6) fun a b h c i j d f=>al 1<|rt<|rr (.slice a 1 b)<|⟨_,rfl,c,d,f⟩
theorem rg{w:World}{g:Nat}{S:SM}{A:Option Addr}{cp:Nat}(hb:oD w g S A cp)(hr:aW true w (.slice A S.held.length cp) S.held)(hl:S.held.length≤1048576) : Calls Tryz.prog 77 #[vP g 0] w (D2 ⟨S.dir,[],S.skip⟩ [⟨(cE S.dir S.held).2,(cE S.dir S.held).1⟩] g w):=by
 have hcm:=aT.len hr
 have hrg:=SM.size_rng (aW.range hr)
 have hru:=aW.range hr
 refine en 24 Tryz.func77 rfl<|aB 1<|sq<|Rg 15 (fun w'=>w'.cell? ⟨g,0,none⟩=some (vI S.dir)∧w'.cell? ⟨g,1,none⟩=some (.slice A S.held.length cp)) fun ad a=>?_
 have f:=ub a hb
 refine bi ⟨(ae f rfl),(ae f rfl)⟩ fun b=>Rt 0 b<|Rt 1 b<|Rt 2 b<|Rl 3 b (fun _ hs=>hs.1)<|Rt 4 b<|Rt 5 b<|Rt 6 b<|Rl 7 b (fun _ hs=>hs.2)<|R2 8 12 rfl rfl ?_ ?_
 refine pr (cE S.dir S.held) fun c D E=>?_
 refine  Oc<|e2 (jV E (aW.upd' hr a aP) (by omega)) fun x56 af Q h=>?_
 obtain⟨R,T,U⟩:=Q
 have i:=ub h f
 refine bi ⟨(ae i rfl),(ae i rfl)⟩ fun l=>Rt 9 l<|Rt 10 l<|Rt 11 l<|R0 12 rfl<|Bv #[vB 0,vW 0,vB 0,vB 0,vW 0,vW 0,vW 0,vW 0,vW 0,vW 0,vW 0,vW 0,vW 0,vW 0,nS,nS,nS,nS,vB 0,vB 0,vB 0,vB 0,vB 0,nS] fun ah ai F V n=>?_
 have o:=ub n i
 refine bi ⟨(ae o rfl),(ae o rfl)⟩ fun aj=>R0 13 rfl<|rL V (eo c.unit c.tid c.msg x56) fun ak W p=>?_
 have G:=nb (ag hb) (le a.size h.size) F
 have q:=bf p G o
 refine bi ⟨(ae q rfl),(ae q rfl)⟩ fun X=>Rt 14 X<|re<|tn<|aA 3<|L0<|cA q 1 #[vI S.dir,nS,vI S.skip] fun an Y r=>aU 1<|?_
 refine L0<|cM (bf r (Ne.symm G) W)<|Pl 1<|L0<|dX (m:=1) (e:=87) (xV ⟨D,c⟩ x56) fun Z ao a0 a1 H=>al 1<|rt<|rr (.slice (some ⟨Z,0,none⟩) 1 1)<|?_
 have I:=ud n (us p (aK r H)) F
 have hE:=oO (m:=.hi w.heap.size) (w0:=w) (x:=⟨D,c⟩) (Nat.le_trans (le (le (le (le a.size h.size) n.size) p.size) r.size) a0) a1 ⟨x56,rfl,(aH.lo (aH.upd R I (am (b6 i (by decide)) aP)) a.size),T,U⟩
 exact⟨_,rfl,by rw[E];exact hE,(ub H Y),(uz a (uz h I))⟩
 refine  Bv #[vB 0,vW 0,vB 0,vB 0,vW 0,vW 0,vW 0,vW 0,vW 0,vW 0,vW 0,vW 0,vW 0,vW 0,nS,nS,nS,nS,vB 0,vB 0,vB 0,vB 0,vB 0,nS] fun ap aq J a2 s=>?_
 have t:=ub s f
 refine bi ⟨(ae t rfl),(ae t rfl)⟩ fun ar=>?_
 have u:=aK a s
 refine pr (cE S.dir S.held) fun d K L=>?_
 refine R0 8 rfl<|Oc<|e2 (jV L (aW.upd' hr u aP) (by omega)) fun v au a3 j=>?_
 obtain⟨a4,a5,a6⟩:=a3
 have k:=ub j t
 refine bi ⟨(ae k rfl),(ae k rfl)⟩ fun y=>Rt 9 y<|Rt 10 y<|Rt 11 y<|?_
 have M:=ub j a2
 refine R0 13 rfl<|rL M (eo d.unit d.tid d.msg v) fun av a7 z=>?_
 have N:=nb (ag hb) a.size J
 have B:=bf z N k
 refine bi ⟨(ae B rfl),(ae B rfl)⟩ fun a8=>Rt 14 a8<|re<|tn<|aA 3<|L0<|cA B 1 #[vI S.dir,nS,vI S.skip] fun aw a9 C=>aU 1<|?_
 refine L0<|cM (bf C (Ne.symm N) a7)<|Pl 1<|L0<|dX (m:=1) (e:=87) (xV ⟨K,d⟩ v) fun aa ax ab ac O=>al 1<|rt<|rr (.slice (some ⟨aa,0,none⟩) 1 1)<|?_
 have P:=us z (aK C O)
 have hE:=oO (m:=.hi w.heap.size) (w0:=w) (x:=⟨K,d⟩) (Nat.le_trans (le (le (le (le a.size s.size) j.size) z.size) C.size) ab) ac ⟨v,rfl,(aH.lo (aH.upd a4 P (am (b6 M (by decide)) (am (b6 k (by decide)) aP))) u.size),a5,a6⟩
 exact⟨_,rfl,by rw[L];exact hE,(ub O a9),(ud u (uz j P) (le a.size J))⟩
open Go.RowKit
theorem Ft{C:Prop}(S:SM)(h0:S.nx=0→C)(h1:S.nx=1→C)(h2:S.nx=2→C)(h3:S.nx=3→C) : C:=by
  have h:S.nx=0∨S.nx=1∨S.nx=2∨S.nx=3:=by
    unfold SM.nx
    (repeat' split)<;>simp
  rcases h with h|h|h|h
  · exact h0 h
  · exact h1 h
  · exact h2 h
  · exact h3 h
theorem Dw{S:SM}(h:S.nx≠0) : 6≤S.held.length:=by
  unfold SM.nx at h
  split at h
  · exact absurd rfl h
  · omega
theorem qq{w:World}{g:Nat}{S:SM}{A:Option Addr}{cp:Nat}(hb:oD w g S A cp)(hr:aW true w (.slice A S.held.length cp) S.held)(h:S.nx=0) : Calls Tryz.prog 52 #[.pointer (some ⟨g,0,none⟩)] w (bS (.nilFunc) w):=by
  have k:=iG hb hr
  unfold SM.fn at k
  rw[h] at k
  exact k
theorem qp{w:World}{g:Nat}{S:SM}{A:Option Addr}{cp:Nat}(hb:oD w g S A cp)(hr:aW true w (.slice A S.held.length cp) S.held)(h:S.nx=1) : Calls Tryz.prog 52 #[.pointer (some ⟨g,0,none⟩)] w (bS (.func (.func 75) #[.pointer (some ⟨g,0,none⟩)] #[]) w):=by
  have k:=iG hb hr
  unfold SM.fn at k
  rw[h] at k
  exact k
theorem pI{w:World}{g:Nat}{S:SM}{A:Option Addr}{cp:Nat}(hb:oD w g S A cp)(hr:aW true w (.slice A S.held.length cp) S.held)(h:S.nx=2) : Calls Tryz.prog 52 #[.pointer (some ⟨g,0,none⟩)] w (bS (.func (.func 76) #[.pointer (some ⟨g,0,none⟩)] #[]) w):=by
  have k:=iG hb hr
  unfold SM.fn at k
  rw[h] at k
  exact k
theorem pT{w:World}{g:Nat}{S:SM}{A:Option Addr}{cp:Nat}(hb:oD w g S A cp)(hr:aW true w (.slice A S.held.length cp) S.held)(h:S.nx=3) : Calls Tryz.prog 52 #[.pointer (some ⟨g,0,none⟩)] w (bS (.func (.func 77) #[.pointer (some ⟨g,0,none⟩)] #[]) w):=by
  have k:=iG hb hr
  unfold SM.fn at k
  rw[h] at k
  exact k
def SM.ok (S:SM) : Prop:=(0≤S.skip∧S.skip<65536)∧(∀ x,x∈S.held→0≤x∧x<256)∧(S.held.length<6∨2≤S.size∧S.size≤254∧(S.held.length:Int)<6+S.size)
theorem SM.ok_le{S:SM}(h:S.ok) : S.held.length≤259:=by
  obtain⟨_,_,h|h⟩:=h
  · omega
  · omega
theorem SM.size_app{S:SM}{c:Int}(h:6≤S.held.length) : (SM.mk S.dir (S.held++[c]) S.skip).size=S.size:=by
  unfold SM.size
  simp only[List.getD_eq_getElem?_getD]
  rw[List.getElem?_append_left (by omega),List.getElem?_append_left (by omega)]
theorem SM.byte_ok{S S2:SM}{c:Int}{L2:List Ev}(h:S.ok)(hc:0≤c∧c<256)(hx:S.byte c=(S2,L2)) : S2.ok∧L2.length≤1:=by
  obtain⟨h1,h2,h3⟩:=h
  unfold SM.byte at hx
  split at hx
  · injection hx with e1 e2
    subst e1 e2
    exact⟨⟨⟨by show 0≤S.skip-1;omega,by show S.skip-1<65536;omega⟩,h2,h3⟩,Nat.zero_le _⟩
  have hr:∀ x,x∈(SM.mk S.dir (S.held++[c]) S.skip).held→0≤x∧x<256:=fun x hx=>by
    rcases List.mem_append.1 hx with h|h
    · exact h2 x h
    · rw[List.mem_singleton] at h;rw[h];exact hc
  have hz:=SM.size_rng hr
  have hn:∀ d k,(0≤k∧k<65536)→(SM.mk d [] k).ok:=fun d k hk=>⟨hk,fun x hx=>(by cases hx),.inl (show 0<6 by omega)⟩
  unfold SM.does at hx
  have hnx:∀ i,(SM.mk S.dir (S.held++[c]) S.skip).nx=i→i=0∨i=1∨i=2∨i=3:=by
    intro i hi
    subst hi
    unfold SM.nx
    (repeat' split)<;>simp
  rcases hnx _ rfl with e|e|e|e<;>rw[e] at hx<;>injection hx with e1 e2<;>subst e1 e2
  · refine⟨⟨h1,hr,?_⟩,Nat.zero_le _⟩
    unfold SM.nx at e
    by_cases h6:(SM.mk S.dir (S.held++[c]) S.skip).held.length<6
    · exact .inl h6
    rw[if_neg h6] at e
    split at e
    · cases e
    split at e
    · cases e
    split at e
    · cases e
    rename_i k1 k2 k3
    refine .inr ⟨by omega,by omega,?_⟩
    have hl:(SM.mk S.dir (S.held++[c]) S.skip).held.length=S.held.length+1:=by simp
    rcases h3 with h3|⟨h4,h5,h7⟩
    · omega
    · by_cases h8:6≤S.held.length
      · rw[SM.size_app h8] at k1 k2 k3 ⊢
        omega
      · omega
  · exact⟨hn _ _ hz,Nat.le_refl _⟩
  · exact⟨hn _ _ hz,Nat.le_refl _⟩
  · exact⟨hn _ _ h1,Nat.le_refl _⟩
theorem kA{S0 T T2:SM}{L L2:List Ev}{b:List Int}{k:Nat}(hk:k<b.length)(h:(T,L)=S0.feed (b.take k))(hx:T.byte (b.getD k 0)=(T2,L2)) : (T2,L++L2)=S0.feed (b.take (k+1)):=by
  rw[List.take_succ_eq_append_getElem hk]
  unfold SM.feed at h ⊢
  rw[List.foldl_append,← h]
  rw[List.getD_eq_getElem?_getD,List.getElem?_eq_getElem hk] at hx
  simp only[Option.getD_some] at hx
  simp only[List.foldl_cons,List.foldl_nil,hx]
theorem mr{S0 T T2:SM}{L:List Ev}{b:List Int}{k:Nat}(hk:k<b.length)(h:(T,L)=S0.feed (b.take k))(hx:T.byte (b.getD k 0)=(T2,[])) : (T2,L)=S0.feed (b.take (k+1)):=by
  have:=kA hk h hx
  rwa [List.append_nil] at this
theorem uW{T:SM}{c:Int}(h:0<T.skip) : T.byte c=(⟨T.dir,T.held,T.skip-1⟩,[]):=by unfold SM.byte;rw[if_pos h]
theorem yc{T:SM}{c:Int}(h:¬ 0<T.skip)(e:(SM.mk T.dir (T.held++[c]) T.skip).nx=0) : T.byte c=(⟨T.dir,T.held++[c],T.skip⟩,[]):=by unfold SM.byte;rw[if_neg h];unfold SM.does;rw[e];rfl
theorem CG{T:SM}{c:Int}(h:¬ 0<T.skip)(e:(SM.mk T.dir (T.held++[c]) T.skip).nx=1) : T.byte c=(⟨T.dir,[],(SM.mk T.dir (T.held++[c]) T.skip).size⟩,[Ev.bad 3]):=by unfold SM.byte;rw[if_neg h];unfold SM.does;rw[e];rfl
theorem BS{T:SM}{c:Int}(h:¬ 0<T.skip)(e:(SM.mk T.dir (T.held++[c]) T.skip).nx=2) : T.byte c=(⟨T.dir,[],(SM.mk T.dir (T.held++[c]) T.skip).size⟩,[Ev.bad 5]):=by unfold SM.byte;rw[if_neg h];unfold SM.does;rw[e];rfl
theorem wS{T:SM}{c:Int}{F:aM}{E:Int}(h:¬ 0<T.skip)(e:(SM.mk T.dir (T.held++[c]) T.skip).nx=3)(hX:cE T.dir (T.held++[c])=(F,E)) : T.byte c=(⟨T.dir,[],T.skip⟩,[⟨E,F⟩]):=by
  unfold SM.byte
  rw[if_neg h]
  unfold SM.does
  rw[e]
  show(SM.mk T.dir [] T.skip,[Ev.mk (cE T.dir (T.held++[c])).2 (cE T.dir (T.held++[c])).1])=_
  rw[hX]
theorem nC{w:World}{g:Nat}{d k:Int}{h:List Int}{A:Option Addr}{cp:Nat}{F:aM}{E:Int}(hX:cE d h=(F,E))(hb:oD w g ⟨d,h,k⟩ A cp)(hr:aW true w (.slice A h.length cp) h)(hl:h.length≤1048576) : Calls Tryz.prog 77 #[.pointer (some ⟨g,0,none⟩)] w (D2 ⟨d,[],k⟩ [⟨E,F⟩] g w):=by
  have q:=rg (S:=⟨d,h,k⟩) hb hr hl
  rw[hX] at q
  exact q
def FB (base n0:Nat)(S2:SM)(L:List Ev)(g:Nat)(A:Option Addr)(w:World)(e:Ending)(w':World) : Prop:=∃ v A2 cp2 n2,e = .returned v∧dy n2 w.heap.size w' v L∧oD w' g S2 A2 cp2∧cG base w' (.slice A2 S2.held.length cp2) S2.held∧(∀ x,x∈ob A2→x∈ob A∨w.heap.size≤x)∧(n0≤n2∧n2≤w'.heap.size)∧(∀ x,x∈ob A2→n2≤x)∧ay (g :: (ob A++[])) w w'
theorem m0{b:List Int}(h:∀ x,x∈b→0≤x∧x<256)(k:Nat) : 0≤b.getD k 0∧b.getD k 0<256:=by
  rw[List.getD_eq_getElem?_getD]
  cases hj:b[k]? with
  | none=>simp
  | some x=>exact h x (List.mem_of_getElem? hj)
theorem pW{w:World}{g base:Nat}{S:SM}{A:Option Addr}{cp:Nat}{m:Md}{B:Option Addr}{cpb:Nat}{b:List Int}(hb:oD w g S A cp)(ho:cG base w (.slice A S.held.length cp) S.held)(hbs:base≤w.heap.size)(hok0:S.ok){n0:Nat}(hn0:n0≤w.heap.size)(hlo:∀ x,x∈ob A→n0≤x)(hsl:aW m w (.slice B b.length cpb) b)(hdg:0<b.length→∀ x,x∈ob B→x≠g)(hda:lU b.length B (ob A))(hbl:b.length≤1048576) :
    Calls Tryz.prog 16 #[vP g 0,.slice B b.length cpb] w (FB base n0 (S.feed b).1 (S.feed b).2 g A w):=by
 have hdl:=aT.low hsl
 have hok0l:=SM.ok_le hok0
 have hrb:=aW.range hsl
 refine en 47 Tryz.func16 rfl<|aA 1<|dK 1<|sq<|aB 3<|bk<|?_
 refine jZ (fun x=>[(0,vP g 0),(4,nS),(5,.slice x.2.2.2.2.2.1 x.2.2.1.length x.2.2.2.2.2.2.1),(9,.slice B b.length cpb),(10,vI (b.length:Int)),(11,vI (x.1:Int))]) (fun(x:Nat × SM × List Ev × Option Addr × Nat × Option Addr × Nat × Nat) w'=>ay (g :: (ob A++[])) w w'∧oD w' g x.2.1 x.2.2.2.1 x.2.2.2.2.1∧cG base w' (.slice x.2.2.2.1 x.2.1.held.length x.2.2.2.2.1) x.2.1.held∧dy x.2.2.2.2.2.2.2 w.heap.size w' (.slice x.2.2.2.2.2.1 x.2.2.1.length x.2.2.2.2.2.2.1) x.2.2.1∧x.2.2.2.2.2.2.2≤w'.heap.size∧aW m w' (.slice B b.length cpb) b∧((x.2.1,x.2.2.1)=S.feed (b.take x.1))∧(x.2.1.ok)∧(x.2.1.held.length≤259)∧(x.1≤b.length)∧(x.2.2.1.length≤x.1)∧(∀ y,y∈ob x.2.2.2.1→y∈ob A∨w.heap.size≤y)∧(n0≤x.2.2.2.2.2.2.2)∧(∀ y,y∈ob x.2.2.2.1→x.2.2.2.2.2.2.2≤y)) (fun x=>b.length-x.1) (0,S,[],A,cp,none,0,n0) ⟨ay.refl _ _,hb,ho,(aQ.nil w.heap.size _ _ (bq w.heap.size n0) _),(Nat.le_trans hn0 lr),hsl,rfl,hok0,hok0l,(by(try dsimp only);exact Nat.zero_le _),(by(try dsimp only);exact Nat.zero_le _),kv,(by(try dsimp only);exact Nat.le_refl _),hlo⟩ ?_
 rintro⟨k,T,L,Ah,ch,Bq,cq,n⟩ E ⟨j,aS,aV,aY,aZ,b0,b1,b2,b3,b4,b5,b6,b7,b8⟩
 refine iW [(0,vP g 0),(4,nS),(5,.slice Bq L.length cq),(9,.slice B b.length cpb),(10,vI (b.length:Int)),(11,vI (k:Int))] ?_
 have f:oD E g T Ah ch:=aS
 have r:cG base E (.slice Ah T.held.length ch) T.held:=aV
 have a:dy n w.heap.size E (.slice Bq L.length cq) L:=aY
 have ba:n≤E.heap.size:=aZ
 have hnl:=ba
 have z:aW m E (.slice B b.length cpb) b:=b0
 have bb:(T,L)=S.feed (b.take k):=b1
 have bc:T.ok:=b2
 have bO:T.held.length≤259:=b3
 have bP:k≤b.length:=b4
 have bQ:L.length≤k:=b5
 have bd:∀ y,y∈ob Ah→y∈ob A∨w.heap.size≤y:=b6
 have be:n0≤n:=b7
 have bf:∀ y,y∈ob Ah→n≤y:=b8
 have hlow:=bf
 have hn0l:=be
 have hat0:=bd
 have hok:=bc
 have hpj:=bb
 have hle:=SM.ok_le hok
 have hsk:=hok.1
 refine aB 1<|sq<|cb ((decide ((k:Int)<(b.length:Int)))) (fun X=>?_) (fun X=>?_)
 have bg:=of_decide_eq_true X
 refine bM<|sq<|bk<|sg<|kf (aW.at_ z k (by omega)) fun bh bi bj bl bR=>L0<|lW b.length k bj (by omega)<|L0<|jO (p:=⟨bh,bi+k,none⟩) (v:=vB (b.getD k 0)) bl<|al 1<|sq<|sq<|go<|Pl 3<|aD f 2<|al 1<|cb ((decide (0<T.skip))) (fun Y=>?_) (fun Y=>?_)
 have C:=of_decide_eq_true Y
 refine aA 3<|aD f 2<|bD (T.skip-1)<|Pl 2<|L0<|cA f 2 #[vI T.dir,.slice Ah T.held.length ch,vI (T.skip-1)] fun bS bm D=>nt<|xt<|tx<|bx<|tn<|go<|bD ((k:Int)+1)<|Pl 1<|nl<|?_
 have a2:=uW (T:=T) (c:=(b.getD k 0)) C
 have a3:=SM.byte_ok hok (m0 hrb k) a2
 exact fD ((k+1),(SM.mk T.dir T.held (T.skip-1)),L,Ah,ch,Bq,cq,n) ⟨(u1 j D im),bm,(ak r D (fun x hx=>(aa (fun e=>(aJ f r (by decide)) (e▸hx)) av)) (fun _ _ h=>h)),(ak a D (fun x hx=>(aa (fun e=>(az (ag hb) lr a) (e▸hx)) av)) (fun x cs q=>bq.upd D (fR f (by decide) cv) q)),(Nat.le_trans hnl D.size),(aW.far z D (el hdg fe)),(by(try dsimp only);exact mr (by omega) hpj a2),(by(try dsimp only);exact a3.1),(by(try dsimp only);have q:=SM.ok_le a3.1;exact q),(by(try dsimp only);omega),(by(try dsimp only);(try simp only[co]);omega),(by(try dsimp only);exact hat0),(by(try dsimp only);exact hn0l),(by(try dsimp only);exact hlow)⟩ (by omega)
 have C:=of_decide_eq_false Y
 refine bM<|aA 4<|aD f 1<|Pl 1<|L0<|dX (m:=1) (e:=5) #[vB (b.getD k 0)] fun bT bU bo bp l=>?_
 have br:=dZ bo (xs:=[(b.getD k 0)]) (by as_aux_lemma=>kernel_rfl) (ax (by omega) b9) (by(try simp only[List.length_cons,List.length_nil]);omega) bp
 refine L0<|ku (R:=lf) (xs:=T.held) (ys:=([(b.getD k 0)])) (vB 0) 1 1 (ak r l (fun x hx=>av) (fun _ _ h=>h)) (br).rd lO (fun _ _ _ _ h=>h) (by(try simp only[co,aE]);omega) (Nat.le_trans hbs (le j.size l.size)) fun a4 a5 bV s u a6=>Pl 2<|?_
 have a7:=ut (ay.mono (S':=(ob Ah++[])) l aC) u (ai il aC)
 have F:=ay.blk a7 (aq (aJ f r (by decide)) av) f
 refine L0<|cA F 1 #[vI T.dir,.slice a4 ((T.held++[(b.getD k 0)]).length) a5,vI T.skip] fun bW t o=>aU 1<|?_
 have G:=u1 (ay.mono (S':=(ob Ah++(g :: []))) a7 (ai il aC)) o im
 have O:=ut j G (ai (lM hat0 il lr) (ac im aC))
 refine Ft (SM.mk T.dir (T.held++[(b.getD k 0)]) T.skip) (fun i=>?_) (fun i=>?_) (fun i=>?_) (fun i=>?_)
 have a8:=ak s o (fun x hx=>(aa (fun e=>(aJ F s (by decide)) (e▸hx)) av)) (fun _ _ h=>h)
 refine aG<|m1 (qq (S:=(SM.mk T.dir (T.held++[(b.getD k 0)]) T.skip)) t (a8).rd i) fun bX P=>Pl 1<|dK 2<|c0<|sk<|bn<|tn<|go<|bD ((k:Int)+1)<|Pl 1<|nl<|?_
 have Q:=aK G P
 have a9:=yc (T:=T) (c:=(b.getD k 0)) C i
 have ab:=SM.byte_ok hok (m0 hrb k) a9
 exact fD ((k+1),(SM.mk T.dir (T.held++[(b.getD k 0)]) T.skip),L,a4,a5,Bq,cq,n) ⟨(aK O P),(ub P t),(ak a8 P (fun x hx=>av) (fun _ _ h=>h)),(ak a Q (fun x hx=>(aq ((dP a r (by decide)) x hx) (aa (fun e=>(az (ag hb) lr a) (e▸hx)) av))) (fun x cs q=>bq.upd Q (jp hlow (fR f (by decide) cv)) q)),(Nat.le_trans hnl Q.size),(aW.far z Q (dG (gF hda hdl hat0) (el hdg fe))),(by(try dsimp only);exact mr (by omega) hpj a9),(by(try dsimp only);exact ab.1),(by(try dsimp only);have q:=SM.ok_le ab.1;exact q),(by(try dsimp only);omega),(by(try dsimp only);(try simp only[co]);omega),(by(try dsimp only);exact(ld a6 hat0 (le j.size l.size))),(by(try dsimp only);exact hn0l),(by(try dsimp only);exact(tD a6 hlow (Nat.le_trans hnl l.size)))⟩ (by omega)
 have ad:=ak s o (fun x hx=>(aa (fun e=>(aJ F s (by decide)) (e▸hx)) av)) (fun _ _ h=>h)
 refine aG<|m1 (qp (S:=(SM.mk T.dir (T.held++[(b.getD k 0)]) T.skip)) t (ad).rd i) fun bY H=>Pl 1<|dK 2<|c1<|go<|Pl 2<|?_
 refine L0<|gk #[vP g 0] #[] (args:=#[vP g 0])<|tS (rO (S:=(SM.mk T.dir (T.held++[(b.getD k 0)]) T.skip)) (ub H t) ((ak ad H (fun x hx=>av) (fun _ _ h=>h))).rd (Dw (by rw[i];decide))) fun bZ c2 Z bs c3 c4 bt ae=>?_
 have af:=uz H ae
 have I:=u1 G af im
 have ah:=ak a I (fun x hx=>(aq ((dP a r (by decide)) x hx) (aa (fun e=>(az (ag hb) lr a) (e▸hx)) av))) (fun x cs q=>bq.upd I (jp hlow (fR f (by decide) cv)) q)
 have bu:n≤Z.heap.size:=Nat.le_trans hnl I.size
 refine L0<|ku (R:=bq w.heap.size Z.heap.size) (xs:=L) (ys:=([Ev.bad 3])) (.agg #[vI 0,vB 0,vW 0,vB 0,vB 0,vW 0,vW 0,vW 0,vW 0,vW 0,vW 0,vW 0,vW 0,vW 0,vW 0,nS,nS,nS,nS,vB 0,vB 0,vB 0,vB 0,vB 0,nS]) 25 168 (dy.up bu (Nat.le_refl _) ah) (tk (aQ.map bs fun _ _ q=>q.lo (le (le (le (le j.size l.size) u.size) o.size) H.size))).rd bq.ones (fun w' hv x cs q=>bq.upd hv (lB ah (by decide) cv) q) (by(try simp only[co,aE]);omega) (le (le (le (le (le j.size l.size) u.size) o.size) H.size) ae.size) fun bv bw c5 bz U c6=>Pl 1<|nl<|bn<|tn<|go<|bD ((k:Int)+1)<|Pl 1<|nl<|?_
 have aj:=CG (T:=T) (c:=(b.getD k 0)) C i
 have am:=SM.byte_ok hok (m0 hrb k) aj
 exact fD ((k+1),(SM.mk T.dir [] (SM.mk T.dir (T.held++[(b.getD k 0)]) T.skip).size),(L++[Ev.bad 3]),none,0,bv,bw,Z.heap.size) ⟨(ut O (ut (ay.mono (S':=(g :: (ob Bq++[]))) af (ac im aC)) U (ai il aC)) (ac im (ai (aX a lr) aC))),(ay.blk U (aq (az (ag hb) lr a) av) bt),(aQ.nil base _ _ lf _),bz,U.size,(aW.far z (ut (ay.mono (S':=(ob Ah++(g :: (ob Bq++[])))) I (ai il (ac im aC))) U (ai il aC)) (dG (gF hda hdl hat0) (el hdg (dG (gG hdl a (Nat.le_refl _)) fe)))),(by(try dsimp only);exact kA (by omega) hpj aj),(by(try dsimp only);exact am.1),(by(try dsimp only);have q:=SM.ok_le am.1;exact q),(by(try dsimp only);omega),(by(try dsimp only);(try simp only[co]);omega),(by(try dsimp only);exact eK),(by(try dsimp only);exact Nat.le_trans hn0l (Nat.le_trans hnl I.size)),(by(try dsimp only);exact d8)⟩ (by omega)
 have an:=ak s o (fun x hx=>(aa (fun e=>(aJ F s (by decide)) (e▸hx)) av)) (fun _ _ h=>h)
 refine aG<|m1 (pI (S:=(SM.mk T.dir (T.held++[(b.getD k 0)]) T.skip)) t (an).rd i) fun c7 J=>Pl 1<|dK 2<|c1<|go<|Pl 2<|?_
 refine L0<|gk #[vP g 0] #[] (args:=#[vP g 0])<|tS (qA (S:=(SM.mk T.dir (T.held++[(b.getD k 0)]) T.skip)) (ub J t) ((ak an J (fun x hx=>av) (fun _ _ h=>h))).rd (Dw (by rw[i];decide))) fun c8 c9 a0 bA ca cc bB ao=>?_
 have ap:=uz J ao
 have K:=u1 G ap im
 have ar:=ak a K (fun x hx=>(aq ((dP a r (by decide)) x hx) (aa (fun e=>(az (ag hb) lr a) (e▸hx)) av))) (fun x cs q=>bq.upd K (jp hlow (fR f (by decide) cv)) q)
 have bC:n≤a0.heap.size:=Nat.le_trans hnl K.size
 refine L0<|ku (R:=bq w.heap.size a0.heap.size) (xs:=L) (ys:=([Ev.bad 5])) (.agg #[vI 0,vB 0,vW 0,vB 0,vB 0,vW 0,vW 0,vW 0,vW 0,vW 0,vW 0,vW 0,vW 0,vW 0,vW 0,nS,nS,nS,nS,vB 0,vB 0,vB 0,vB 0,vB 0,nS]) 25 168 (dy.up bC (Nat.le_refl _) ar) (tk (aQ.map bA fun _ _ q=>q.lo (le (le (le (le j.size l.size) u.size) o.size) J.size))).rd bq.ones (fun w' hv x cs q=>bq.upd hv (lB ar (by decide) cv) q) (by(try simp only[co,aE]);omega) (le (le (le (le (le j.size l.size) u.size) o.size) J.size) ao.size) fun bE bF cd bG V ce=>Pl 1<|nl<|bn<|tn<|go<|bD ((k:Int)+1)<|Pl 1<|nl<|?_
 have au:=BS (T:=T) (c:=(b.getD k 0)) C i
 have aw:=SM.byte_ok hok (m0 hrb k) au
 exact fD ((k+1),(SM.mk T.dir [] (SM.mk T.dir (T.held++[(b.getD k 0)]) T.skip).size),(L++[Ev.bad 5]),none,0,bE,bF,a0.heap.size) ⟨(ut O (ut (ay.mono (S':=(g :: (ob Bq++[]))) ap (ac im aC)) V (ai il aC)) (ac im (ai (aX a lr) aC))),(ay.blk V (aq (az (ag hb) lr a) av) bB),(aQ.nil base _ _ lf _),bG,V.size,(aW.far z (ut (ay.mono (S':=(ob Ah++(g :: (ob Bq++[])))) K (ai il (ac im aC))) V (ai il aC)) (dG (gF hda hdl hat0) (el hdg (dG (gG hdl a (Nat.le_refl _)) fe)))),(by(try dsimp only);exact kA (by omega) hpj au),(by(try dsimp only);exact aw.1),(by(try dsimp only);have q:=SM.ok_le aw.1;exact q),(by(try dsimp only);omega),(by(try dsimp only);(try simp only[co]);omega),(by(try dsimp only);exact eK),(by(try dsimp only);exact Nat.le_trans hn0l (Nat.le_trans hnl K.size)),(by(try dsimp only);exact d8)⟩ (by omega)
 have aF:=ak s o (fun x hx=>(aa (fun e=>(aJ F s (by decide)) (e▸hx)) av)) (fun _ _ h=>h)
 refine aG<|m1 (pT (S:=(SM.mk T.dir (T.held++[(b.getD k 0)]) T.skip)) t (aF).rd i) fun cf M=>Pl 1<|dK 2<|c1<|go<|Pl 2<|pr (cE T.dir (T.held++[(b.getD k 0)])) fun aH aI aL=>?_
 refine L0<|gk #[vP g 0] #[] (args:=#[vP g 0])<|tS (nC (d:=T.dir) (h:=T.held++[(b.getD k 0)]) (k:=T.skip) aL (ub M t) ((ak aF M (fun x hx=>av) (fun _ _ h=>h))).rd (by simp only[co];omega)) fun cg ci a1 bH cj ck bI aM=>?_
 have aN:=uz M aM
 have N:=u1 G aN im
 have aO:=ak a N (fun x hx=>(aq ((dP a r (by decide)) x hx) (aa (fun e=>(az (ag hb) lr a) (e▸hx)) av))) (fun x cs q=>bq.upd N (jp hlow (fR f (by decide) cv)) q)
 have bJ:n≤a1.heap.size:=Nat.le_trans hnl N.size
 refine L0<|ku (R:=bq w.heap.size a1.heap.size) (xs:=L) (ys:=([Ev.mk aI aH])) (.agg #[vI 0,vB 0,vW 0,vB 0,vB 0,vW 0,vW 0,vW 0,vW 0,vW 0,vW 0,vW 0,vW 0,vW 0,vW 0,nS,nS,nS,nS,vB 0,vB 0,vB 0,vB 0,vB 0,nS]) 25 168 (dy.up bJ (Nat.le_refl _) aO) (tk (aQ.map bH fun _ _ q=>q.lo (le (le (le (le j.size l.size) u.size) o.size) M.size))).rd bq.ones (fun w' hv x cs q=>bq.upd hv (lB aO (by decide) cv) q) (by(try simp only[co,aE]);omega) (le (le (le (le (le j.size l.size) u.size) o.size) M.size) aM.size) fun bK bL cl bN W cm=>Pl 1<|nl<|bn<|tn<|go<|bD ((k:Int)+1)<|Pl 1<|nl<|?_
 have aP:=wS (T:=T) (c:=(b.getD k 0)) C i aL
 have aR:=SM.byte_ok hok (m0 hrb k) aP
 exact fD ((k+1),(SM.mk T.dir [] T.skip),(L++[Ev.mk aI aH]),none,0,bK,bL,a1.heap.size) ⟨(ut O (ut (ay.mono (S':=(g :: (ob Bq++[]))) aN (ac im aC)) W (ai il aC)) (ac im (ai (aX a lr) aC))),(ay.blk W (aq (az (ag hb) lr a) av) bI),(aQ.nil base _ _ lf _),bN,W.size,(aW.far z (ut (ay.mono (S':=(ob Ah++(g :: (ob Bq++[])))) N (ai il (ac im aC))) W (ai il aC)) (dG (gF hda hdl hat0) (el hdg (dG (gG hdl a (Nat.le_refl _)) fe)))),(by(try dsimp only);exact kA (by omega) hpj aP),(by(try dsimp only);exact aR.1),(by(try dsimp only);have q:=SM.ok_le aR.1;exact q),(by(try dsimp only);omega),(by(try dsimp only);(try simp only[co]);omega),(by(try dsimp only);exact eK),(by(try dsimp only);exact Nat.le_trans hn0l (Nat.le_trans hnl N.size)),(by(try dsimp only);exact d8)⟩ (by omega)
 have bg:=of_decide_eq_false X
 refine xt<|tx<|tx<|bx<|tn<|aB 2<|rt<|rr (.slice Bq L.length cq)<|?_
 have hs:S.feed b=(T,L):=by rw[hpj,List.take_of_length_le (by omega)]
 rw[hs]
 exact⟨_,Ah,ch,n,rfl,a,f,r,hat0,⟨hn0l,Nat.le_trans hnl lr⟩,hlow,j⟩
open Go.RowKit
def dr (n base:Nat)(w:World)(g:Nat)(A:Option Addr)(cp:Nat)(S:SM) : Prop:=oD w g S A cp∧cG base w (.slice A S.held.length cp) S.held∧S.ok∧n≤w.heap.size∧(∀ x,x∈ob A→n≤x)∧base≤w.heap.size
section
variable {n base g cp:Nat}{w w':World}{A:Option Addr}{S:SM}{X:List Nat}
theorem dr.row(h:dr n base w g A cp S) : cG base w (.slice A S.held.length cp) S.held:=h.2.1
theorem dr.low(h:dr n base w g A cp S) : ∀ x,x∈ob A→n≤x:=h.2.2.2.2.1
theorem dr.nle(h:dr n base w g A cp S) : n≤w.heap.size:=h.2.2.2.1
theorem dr.le(h:dr n base w g A cp S) : S.held.length≤259:=SM.ok_le h.2.2.1
theorem dr.lt(h:dr n base w g A cp S) : g<w.heap.size:=ag h.1
theorem dr.cells(h:dr n base w g A cp S) : ∃ cs fr,w.heap[g]? = some (.cells cs 89 fr):=⟨_,_,h.1⟩
theorem dr.upd(h:dr n base w g A cp S)(hu:ay X w w')(hg:g∉X)(hr:∀ x,x∈ob A→x∉X) : dr n base w' g A cp S :=
  ⟨hu.blk hg h.1,ak h.2.1 hu hr (fun _ _ q=>q),h.2.2.1,Nat.le_trans h.2.2.2.1 hu.size,h.2.2.2.2.1,Nat.le_trans h.2.2.2.2.2 hu.size⟩
end
theorem SM.feed_ok:∀ (b:List Int)(S:SM)(L:List Ev),S.ok→(∀ x,x∈b→0≤x∧x<256)→(b.foldl (fun(p:SM × List Ev) c=>((p.1.byte c).1,p.2++(p.1.byte c).2)) (S,L)).1.ok∧(b.foldl (fun(p:SM × List Ev) c=>((p.1.byte c).1,p.2++(p.1.byte c).2)) (S,L)).2.length≤L.length+b.length
  | [],S,L,h,_=>⟨h,Nat.le_refl _⟩
  | c :: t,S,L,h,hb=>by
    have k:=SM.byte_ok (S2:=(S.byte c).1) (L2:=(S.byte c).2) h (hb c (List.mem_cons_self ..)) rfl
    have q:=SM.feed_ok t (S.byte c).1 (L++(S.byte c).2) k.1 (fun x hx=>hb x (List.mem_cons_of_mem _ hx))
    refine⟨q.1,Nat.le_trans q.2 ?_⟩
    rw[List.length_append,List.length_cons]
    omega
theorem SM.feed_le{S S2:SM}{b:List Int}{L:List Ev}(h:S.ok)(hb:∀ x,x∈b→0≤x∧x<256)(hX:S.feed b=(S2,L)) : L.length≤b.length:=by
  have q:=(SM.feed_ok b S [] h hb).2
  have e:L=(S.feed b).2:=(congrArg Prod.snd hX).symm
  rw[e]
  rw[List.length_nil,Nat.zero_add] at q
  exact q
def F7 (n base:Nat)(S2:SM)(L:List Ev)(g:Nat)(A:Option Addr)(w:World)(e:Ending)(w':World) : Prop:=∃ v A2 cp2 n2,e = .returned v∧dy n2 w.heap.size w' v L∧dr n2 base w' g A2 cp2 S2∧(∀ x,x∈ob A2→x∈ob A∨w.heap.size≤x)∧n≤n2∧ay (g :: (ob A++[])) w w'
theorem sx{w:World}{n base g cp cpb nb:Nat}{S S2:SM}{L:List Ev}{A B:Option Addr}{m:Md}{b:List Int}(hX:S.feed b=(S2,L))(h:dr n base w g A cp S)(hsl:aW m w (.slice B nb cpb) b)(hdg:0<nb→∀ x,x∈ob B→x≠g)(hda:lU nb B (ob A))(hbl:b.length≤1048576) :
    Calls Tryz.prog 16 #[.pointer (some ⟨g,0,none⟩),.slice B nb cpb] w (F7 n base S2 L g A w):=by
  obtain⟨h1,h2,h3,h4,h5,h6⟩:=h
  obtain rfl:nb=b.length:=by
    obtain⟨_,_,e,_⟩:=hsl.shape
    injection e
  refine(pW h1 h2 h6 h3 h4 h5 hsl hdg hda hbl).mono ?_
  rintro e w' ⟨v,A2,cp2,n2,he,k1,k2,k3,k4,⟨k5,k6⟩,k7,k8⟩
  have hok:=(SM.feed_ok b S [] h3 (aW.range hsl)).1
  rw[hX] at k1 k2 k3
  have e2:S2=(S.feed b).1:=(congrArg Prod.fst hX).symm
  exact⟨v,A2,cp2,n2,he,k1,⟨k2,k3,by rw[e2];exact hok,k6,k7,Nat.le_trans h6 k8.size⟩,k4,k5,k8⟩
theorem tQ(d:Int){w:World}(hq:Calls Tryz.prog 15 #[.int .i64 d] w (fun e w'=>∃ g,e = .returned (.pointer (some ⟨g,0,none⟩))∧w.heap.size≤g∧oD w' g ⟨d,[],0⟩ none 0∧ay [] w w')) :
    Calls Tryz.prog 15 #[.int .i64 d] w (fun e w'=>∃ g,e = .returned (.pointer (some ⟨g,0,none⟩))∧w.heap.size≤g∧dr w.heap.size w.heap.size w' g none 0 ⟨d,[],0⟩∧ay [] w w'):=by
  refine hq.mono ?_
  rintro e w' ⟨g,he,h1,h2,h3⟩
  exact⟨g,he,h1,⟨h2,aQ.nil ..,⟨⟨(show(0:Int)≤0 from by decide),(show(0:Int)<65536 from by decide)⟩,(fun x hx=>by cases hx),.inl (show 0<6 from by decide)⟩,h3.size,d8,h3.size⟩,h3⟩
open Go.RowKit
section
variable {P:Program}{Q:Exit→Act→World→Prop}{n:Nat}{D:List Deferred}{F:Fr}{w:World}{c:Code}{l:Nat}
theorem F3(h:GC P c (Exit.noGoto Q) n D F w) : GC P (.scope c) Q n D F w:=⟨fun a ha=>wp_scope_straight (h.out a ha)⟩
theorem F6(h:GQ Q .normal n D F w) : GC P (.label l) Q n D F w:=⟨fun a ha=>wp_label (h.out a ha)⟩
theorem gr(h:GQ Q .ret n D F w) : GQ (Exit.noGoto Q) .ret n D F w:=⟨fun a ha=>h.out a ha⟩
end
open Go.RowKit
abbrev d5 (xs:List Int) : Prop:=∀ x,x∈xs→0≤x∧x<256
theorem pq{x:Int}(h:0≤x∧x<256) : ((UInt8.ofNat x.toNat).toNat:Int)=x:=by
  simp only[UInt8.toNat_ofNat']
  omega
theorem jm{xs:List Int}{j:Nat}(hj:j<xs.length)(hs:j<(strOfNums xs).size) : (strOfNums xs)[j]=UInt8.ofNat (xs.getD j 0).toNat:=by
  show(strOfNums xs).data[j]=_
  simp[strOfNums,List.getD_eq_getElem?_getD,List.getElem?_eq_getElem hj]
theorem qh{P:Program}{w:World}{ev:Operand→Value}{o:Oper}{x ix:Operand}{t:TypeId}{xs:List Int}{k:IntKind}{i:Int}(j:Nat)(ho:o.op = .index t x ix)(ht:P.underlying t=some .string)(hx:ev x = .string (strOfNums xs))(hi:ev ix = .int k i)(hr:d5 xs)(hj:i=(j:Int))(hlt:j<xs.length) : (execOp ev o).run P w = .ok (.value (.int .u8 (xs.getD j 0))) w:=by
  subst hj
  have hs:j<(strOfNums xs).size:=by rw[strOfNums_size];exact hlt
  have h:=run_index_string (P:=P) w t (strOfNums xs) k (j:Int) ht
  rw[dif_pos (by omega)] at h
  have hg:xs.getD j 0∈xs:=by
    rw[List.getD_eq_getElem?_getD,List.getElem?_eq_getElem hlt]
    exact List.getElem_mem hlt
  unfold execOp
  simp only[ho,hx,hi,Sem.run_bind,h,Result.andThen,Sem.run_pure]
  have e:((strOfNums xs)[((j:Nat) : Int).toNat]'(by simpa using hs))=UInt8.ofNat (xs.getD j 0).toNat:=by
    simp only[Int.toNat_natCast]
    exact jm hlt hs
  rw[e,pq (hr _ hg)]
theorem gI(xs:List Int)(a b:Nat)(hb:b≤xs.length) : (strOfNums xs).extract a b=strOfNums ((xs.take b).drop a):=by
  apply ByteArray.ext
  rw[ByteArray.data_extract]
  apply Array.toList_inj.1
  rw[Array.toList_extract]
  simp[strOfNums,List.extract,List.map_drop,List.map_take,List.drop_take]
theorem ot{P:Program}{w:World}{ev:Operand→Value}{o:Oper}{x y:Operand}{t:TypeId}{xs:List Int}{k:IntKind}{i:Int}(j:Nat)(ho:o.op = .slice t x (some y) none none)(ht:P.underlying t=some .string)(hx:ev x = .string (strOfNums xs))(hy:ev y = .int k i)(hj:i=(j:Int))(hlt:j≤xs.length) : (execOp ev o).run P w = .ok (.value (.string (strOfNums (xs.drop j)))) w:=by
  subst hj
  have hu:(underlying t).run P w = .ok .string w:=run_underlying ht w
  have h:=run_slice_string_l (P:=P) w t (strOfNums xs) ht k (j:Int) (by omega) (by rw[strOfNums_size];omega)
  rw[strOfNums_size,gI _ _ _ (Nat.le_refl _),List.take_length,Int.toNat_natCast] at h
  unfold execOp
  simp only[ho,Option.map_some,Option.map_none,hx,hy,Instr.sliceAt,Sem.run_bind,hu,h,Result.andThen,Sem.run_pure]
theorem vp{P:Program}{w:World}{ev:Operand→Value}{o:Oper}{x y:Operand}{t:TypeId}{xs:List Int}{k:IntKind}{i:Int}(j:Nat)(ho:o.op = .slice t x none (some y) none)(ht:P.underlying t=some .string)(hx:ev x = .string (strOfNums xs))(hy:ev y = .int k i)(hj:i=(j:Int))(hlt:j≤xs.length) : (execOp ev o).run P w = .ok (.value (.string (strOfNums (xs.take j)))) w:=by
  subst hj
  have hu:(underlying t).run P w = .ok .string w:=run_underlying ht w
  have h:=run_slice_string_h (P:=P) w t (strOfNums xs) ht k (j:Int) (by omega) (by rw[strOfNums_size];omega)
  rw[Int.toNat_natCast,gI _ _ _ hlt,List.drop_zero] at h
  unfold execOp
  simp only[ho,Option.map_some,Option.map_none,hx,hy,Instr.sliceAt,Sem.run_bind,hu,h,Result.andThen,Sem.run_pure]
theorem nG(xs ys:List Int) : strOfNums xs++strOfNums ys=strOfNums (xs++ys):=by
  apply ByteArray.ext
  simp[strOfNums,ByteArray.data_append]
theorem pL{P:Program}{w:World}{ev:Operand→Value}{o:Oper}{x y:Operand}{t t':TypeId}{a b:ByteArray}{xs ys:List Int}(ho:o.op = .binOp .add t x y t')(hx:ev x = .string a)(hy:ev y = .string b)(ha:a=strOfNums xs)(hb:b=strOfNums ys)(hl:xs.length+ys.length≤1048576) : (execOp ev o).run P w = .ok (.value (.string (strOfNums (xs++ys)))) w:=by
  subst ha hb
  have hg:eqGuard .add t x y (.string (strOfNums xs)) (.string (strOfNums ys))=pure ():=rfl
  unfold execOp
  simp only[ho,hx,hy,hg,Sem.run_bind,Sem.run_pure,Result.andThen]
  have h:(binOp .add t (.string (strOfNums xs)) (.string (strOfNums ys))).run P w = .ok (.string (strOfNums (xs++ys))) w:=by
    show(Op.stringOp .add _ _).run P w=_
    unfold Op.stringOp
    rw[← nG]
    have:¬ ((((strOfNums xs).size+(strOfNums ys).size:Nat) : Int) > IntKind.i64.max):=by
      rw[strOfNums_size,strOfNums_size]
      show ¬ (((xs.length+ys.length:Nat) : Int) > 9223372036854775807)
      omega
    dsimp only
    rw[if_neg this]
    rfl
  rw[h]
theorem kz{xs ys:List Int}(h:d5 xs)(k:d5 ys) : d5 (xs++ys):=fun x hx=>by
  rcases List.mem_append.1 hx with h1|h1
  · exact h x h1
  · exact k x h1
theorem kZ{xs:List Int}(h:d5 xs)(j:Nat) : d5 (xs.drop j):=fun x hx=>h x (List.mem_of_mem_drop hx)
theorem oy{xs:List Int}(h:d5 xs)(j:Nat) : d5 (xs.take j):=fun x hx=>h x (List.mem_of_mem_take hx)
theorem zQ{xs ys:List Int}(hx:d5 xs)(hy:d5 ys) : ((strOfNums xs).toList==(strOfNums ys).toList)=decide (xs=ys):=by
  have e:∀ zs:List Int,(strOfNums zs).toList=zs.map fun n=>UInt8.ofNat n.toNat:=fun zs=>by
    rw[ByteArray.toList_eq]
    rfl
  rw[e,e]
  by_cases h:xs=ys
  · subst h;simp
  · rw[decide_eq_false h,beq_eq_false_iff_ne]
    exact fun k=>h (kL xs ys hx hy k)
def ky (base:Nat)(w:World)(v:Value)(xs:List Int) : Prop:=∃ g cap cur n,v = .slice (some ⟨g,0,none⟩) xs.length cap∧base≤g∧w.heap[g]? = some (.cells cur 5 (n,n+1))∧xs.length≤n∧xs.length≤cap∧cap≤maxLen∧cur.toList.take xs.length=xs.map (Value.int .u8)∧d5 xs
theorem ky.rd{base:Nat}{w:World}{v:Value}{xs:List Int}(h:ky base w v xs) : aW true w v xs:=by
  obtain⟨g,cap,cur,n,rfl,hb,hh,h1,h2,h3,h4,h5⟩:=h
  refine⟨_,_,rfl,h2,h3,(fun hA=>by cases hA),fun hp=>⟨g,0,cur,_,_,rfl,hh,(fun _=>⟨rfl,Nat.zero_le _⟩),fun j x hj=>?_⟩⟩
  refine⟨[.int .u8 x],rfl,⟨rfl,h5 x (List.mem_of_getElem? hj)⟩,fun i u hi=>?_⟩
  cases i with
  | succ i=>simp at hi
  | zero =>
    have hi:Value.int .u8 x=u:=by simpa using hi
    subst hi
    have h6:(xs.map (Value.int .u8))[j]? = some (.int .u8 x):=by rw[List.getElem?_map,hj];rfl
    rw[← h4,List.getElem?_take] at h6
    split at h6
    · simpa using h6
    · cases h6
theorem ky.ge{base g m c:Nat}{w:World}{xs:List Int}(h:ky base w (.slice (some ⟨g,0,none⟩) m c) xs) : base≤g:=by
  obtain⟨g',cap,cur,n,hv,hb,_⟩:=h
  injection hv with e1 _ _
  injection e1 with e1
  injection e1 with e1 _
  rw[e1]
  exact hb
theorem ky.shape{base:Nat}{w:World}{v:Value}{xs:List Int}(h:ky base w v xs) : ∃ g cp,v = .slice (some ⟨g,0,none⟩) xs.length cp:=by
  obtain⟨g,cap,cur,n,hv,_⟩:=h
  exact⟨g,cap,hv⟩
theorem rK{P:Program}{w:World}{src dst e:TypeId}{xs:List Int}(hs:P.underlying src=some .string)(hd:P.underlying dst=some (.slice e))(he:P.underlying e=some (.int .u8))(hte:e=5)(hr:d5 xs)(hl:xs.length≤1048576) :
    ∃ cp w',(convert src dst (.string (strOfNums xs))).run P w = .ok (.slice (some ⟨w.heap.size,0,none⟩) xs.length cp) w'∧ky w.heap.size w' (.slice (some ⟨w.heap.size,0,none⟩) xs.length cp) xs∧ay [] w w':=by
  subst hte
  have h:=Lib.run_convert_string_bytes (P:=P) w src dst _ (strOfNums xs) hs hd he
  rw[strOfNums_size] at h
  refine⟨_,_,h,⟨_,_,_,_,rfl,Nat.le_refl _,Lib.bytesWorld_at_new w _ (strOfNums xs),?_,?_,?_,?_,hr⟩,?_⟩
  · simp[Lib.bytesCells,strOfNums]
  · exact grownCap_ge ..
  · exact grownCap_le_maxLen _ _ _ _ (by unfold maxLen;omega)
  · simp only[Lib.bytesCells]
    rw[Array.toList_append,List.take_append_of_le_length (by simp[strOfNums])]
    rw[List.take_of_length_le (by simp[strOfNums])]
    simp only[strOfNums,Array.toList_map,List.map_map]
    apply List.map_congr_left
    intro x hx
    show Value.int .u8 _=_
    rw[pq (hr x hx)]
  · exact⟨rfl,rfl,rfl,by rw[Lib.bytesWorld_size];omega,fun k hk _=>Lib.bytesWorld_at_old w _ _ k hk⟩
section
variable {P:Program}{n:Nat}{D:List Deferred}{F:Fr}{w:World}{K:Fr→World→Prop}{Q:Exit→Act→World→Prop}{d:Option Tmp}{t:TypeId}{s:String}{af:Array Edge}{gu:Option (Nat × Bool)}
theorem oN{a:Act}{o:Oper}{N:Option Tmp}{K:Act→World→Prop}{w1:World}(v:Value)(hN:o.dst=N)(hr:(execOp a.eval o).run P w = .ok (.value v) w1)(h:K (a.put N v) w1) : OW P o a w K Q:=by
  refine OW.mk ?_
  subst hN
  unfold Oper.wp
  rw[hr]
  exact h
theorem Fi{src dst:TypeId}{x:Operand}{xs:List Int}(hs:P.underlying src=some .string)(hd:P.underlying dst=some (.slice 5))(he:P.underlying 5=some (.int .u8))(hr:d5 xs)(hl:xs.length≤1048576)
    (h:∀ A cp w',ky w.heap.size w' (.slice A xs.length cp) xs→ay [] w w'→K (pt d (.slice A xs.length cp) F) w') (hx:eg F x=some (.string (strOfNums xs)):=by kernel_rfl) (hk:eU n d=true:=by kernel_rfl) : OG P ⟨d,.convert src dst x,t,s,af,gu⟩ n D F w K Q:=by
  obtain⟨cp,w',h1,h2,h3⟩:=rK (P:=P) (w:=w) hs hd he rfl hr hl
  refine⟨fun a ha K' hK=>oN _ rfl (w1:=w') ?_ (hK _ _ _ (h _ _ _ h2 h3) (ha.put hk))⟩
  have hx':=ha.ev hx
  unfold execOp
  simp only[hx',Sem.run_bind,h1,Result.andThen,Sem.run_pure]
theorem EF{ty:TypeId}{x:Operand}{sv:ByteArray}(hs:P.underlying ty=some .string)(h:∀ g w',w.heap.size≤g→w'.heap[g]? = some (.stringIter sv 0)→ay [] w w'→K (pt d (.pointer (some ⟨g,0,none⟩)) F) w')
    (hx:eg F x=some (.string sv):=by kernel_rfl) (hk:eU n d=true:=by kernel_rfl) : OG P ⟨d,.range ty x,t,s,af,gu⟩ n D F w K Q:=by
  refine⟨fun a ha K' hK=>oN (.pointer (some ⟨w.heap.size,0,none⟩)) rfl (w1:=w.alloc (.stringIter sv 0)) ?_ (hK _ _ _ (h _ _ (Nat.le_refl _) (dE _ _) ((ay.refl _ _).alloc _)) (ha.put hk))⟩
  have hx':=ha.ev hx
  unfold execOp
  simp only[hx',Sem.run_bind,run_range_string w ty sv hs,Result.andThen,Sem.run_pure]
  rfl
theorem uv{xs:List Int}(hr:d5 xs)(h0:0<xs.length) : ((((Utf8.decode (strOfNums xs) 0).1:Nat) : Int)=58↔xs.getD 0 0=58):=by
  have hs:0<(strOfNums xs).size:=by rw[strOfNums_size];exact h0
  have hm:xs.getD 0 0∈xs:=by
    rw[List.getD_eq_getElem?_getD,List.getElem?_eq_getElem h0]
    exact List.getElem_mem h0
  have hb:=hr _ hm
  have h1:((strOfNums xs).get! 0).toNat=(xs.getD 0 0).toNat:=by
    have e:(strOfNums xs).get! 0=(strOfNums xs)[0]:=by
      show(strOfNums xs).data[0]! = _
      rw[getElem!_pos (strOfNums xs).data 0 hs]
      rfl
    rw[e,jm h0 hs]
    simp only[UInt8.toNat_ofNat']
    omega
  unfold Utf8.decode
  simp only[Nat.zero_add,h1,Utf8.runeError]
  split
  · omega
  · split
    · split
      · rename_i h2 h3 h4;simp only;omega
      · simp only;omega
    · split
      · split
        · rename_i h2 h3 h4 h5;simp only[Bool.and_eq_true,decide_eq_true_eq] at h5;simp only;omega
        · simp only;omega
      · split
        · split
          · rename_i h2 h3 h4 h5 h6;simp only[Bool.and_eq_true,decide_eq_true_eq] at h6;simp only;omega
          · simp only;omega
        · simp only;omega
theorem Fs{x:Operand}{xs:List Int}{r:Nat}(hr:d5 xs)(h0:0<xs.length)(B:w.heap[r]? = some (.stringIter (strOfNums xs) 0))(h:∀ c w',(c=58↔xs.getD 0 0=58)→ay [r] w w'→K (pt d (.tuple #[.bool true,.int .i64 0,.int .i32 c]) F) w')
    (hx:eg F x=some (.pointer (some ⟨r,0,none⟩)):=by kernel_rfl) (hk:eU n d=true:=by kernel_rfl) : OG P ⟨d,.next x true,t,s,af,gu⟩ n D F w K Q:=by
  have hlt:=ag B
  have hrun:=Lib.run_next_any_at (P:=P) w r (strOfNums xs) 0 t B (by rw[strOfNums_size];exact h0)
  refine⟨fun a ha K' hK=>oN _ rfl (w1:=w.iterAt r (strOfNums xs) (0+(Utf8.decode (strOfNums xs) 0).2)) ?_ (hK _ _ _ (h (((Utf8.decode (strOfNums xs) 0).1:Nat) : Int) _ (uv hr h0) ?_) (ha.put hk))⟩
  · have hx':=ha.ev hx
    unfold execOp
    simp only[hx',Sem.run_bind,hrun,Result.andThen,Sem.run_pure]
    rfl
  · refine⟨rfl,rfl,rfl,?_,fun k hk hn=>?_⟩
    · simp[World.iterAt]
    · have:r≠k:=fun e=>hn (by simp[e])
      simp[World.iterAt,Array.getElem?_setIfInBounds,this]
end
open Go.RowKit
def fL (xs ys:List Int) : Bool:=decide (((ys.length:Nat) : Int)≤((xs.length:Nat) : Int))&&decide (xs.drop (((xs.length:Nat) : Int)-((ys.length:Nat) : Int)).toNat=ys)
theorem AP{m m2:Md}{A B:Option Addr}{n n2 c c2:Nat}{xs ys:List Int}{w:World}(h1:aW m w (.slice A n c) xs)(h2:aW m2 w (.slice B n2 c2) ys) : Calls Tryz.prog 79 #[.slice A n c,.slice B n2 c2] w (bS (.bool (decide (xs=ys))) w):=by
 refine en 10 Tryz.func79 rfl<|sg<|Pl 1<|ng<|Pl 1<|L0<|jv (.string (strOfNums xs)) (cz (A:=A) (n:=n) (c:=c) rfl (by kernel_rfl) Tryz.underlying27 Tryz.underlying5 Tryz.underlying9 h1)<|Pl 1<|L0<|jv (.string (strOfNums ys)) (cz (A:=B) (n:=n2) (c:=c2) rfl (by kernel_rfl) Tryz.underlying27 Tryz.underlying5 Tryz.underlying9 h2)<|L0<|jv (.bool (decide (xs=ys))) (eF (a:=(strOfNums xs)) (b:=(strOfNums ys)) rfl (by kernel_rfl) (by kernel_rfl) (jy h1 h2))<|Pl 1<|nl<|?_
 refine tn<|rt<|rr (.bool (decide (xs=ys)))<|?_
 exact⟨rfl,(ay.refl [] _)⟩
theorem yn{m m2:Md}{A B:Option Addr}{c c2:Nat}{xs ys:List Int}{w:World}(h1:aW m w (.slice A xs.length c) xs)(h2:aW m2 w (.slice B ys.length c2) ys) : Calls Tryz.prog 55 #[.slice A xs.length c,.slice B ys.length c2] w (bS (.bool (fL xs ys)) w):=by
 have hz1:=aT.len h1
 have hz2:=aT.len h2
 have hz3:=aT.cap h1
 refine en 21 Tryz.func55 rfl<|sg<|Pl 1<|ng<|Pl 6<|bl 10 ((decide (((ys.length:Nat) : Int)≤((xs.length:Nat) : Int)))) (fun a=>?_) (fun a=>?_)
 have b:=of_decide_eq_true a
 refine Pl 5<|L1<|Oi (((xs.length:Nat) : Int)-((ys.length:Nat) : Int))<|xc (oC (P:=Tryz.prog) 27 5 1 Tryz.underlying27 rfl rfl A xs.length c (lo:=(((xs.length:Nat) : Int)-((ys.length:Nat) : Int))) (((((xs.length:Nat) : Int)-((ys.length:Nat) : Int))).toNat) (by omega) (by omega)) fun d hrun12 e=>L1<|jv (.slice d (xs.length-(((((xs.length:Nat) : Int)-((ys.length:Nat) : Int))).toNat)) (c-(((((xs.length:Nat) : Int)-((ys.length:Nat) : Int))).toNat))) (fW (kl:=.i64) (k:=(((xs.length:Nat) : Int)-((ys.length:Nat) : Int))) (A:=A) (n:=xs.length) (c:=c) rfl Tryz.underlying27 (by kernel_rfl) (by kernel_rfl) (hrun12 _ _))<|Pl 1<|L1<|Oc<|m1 (AP (xs:=(xs.drop (((((xs.length:Nat) : Int)-((ys.length:Nat) : Int))).toNat))) (ys:=ys) (e _ _ _ _ _ h1) h2) fun g f=>Pl 2<|nt<|rt<|rr (.bool (decide ((xs.drop (((((xs.length:Nat) : Int)-((ys.length:Nat) : Int))).toNat))=ys)))<|?_
 have hs:(decide ((xs.drop (((((xs.length:Nat) : Int)-((ys.length:Nat) : Int))).toNat))=ys))=fL xs ys:=by unfold fL;simp only[a,bC,Bool.true_and,Bool.false_and,Bool.and_true,Bool.and_false]
 rw[hs]
 exact⟨rfl,f⟩
 have b:=of_decide_eq_false a
 refine Pl 11<|nt<|rt<|rr (.bool false)<|?_
 have hs:false=fL xs ys:=by unfold fL;simp only[a,bC,Bool.true_and,Bool.false_and,Bool.and_true,Bool.and_false]
 rw[hs]
 exact⟨rfl,(ay.refl [] _)⟩
theorem Bl{m m2:Md}{u v:Value}{xs ys:List Int}{w:World}(h1:aW m w u xs)(h2:aW m2 w v ys) : Calls Tryz.prog 55 #[u,v] w (bS (.bool (fL xs ys)) w):=by
  obtain⟨A,c,rfl,_,_⟩:=h1.shape
  obtain⟨B,c2,rfl,_,_⟩:=h2.shape
  exact yn h1 h2
end Go.Proofs.YtdkhbcefkfgbdaaGreat
namespace Go.Proofs.YtdkhbcefkfgbdaaGreat
def ki (b:List Int) : Nat→Int
  | 0=>0
  | k+1=>(ki b k+b.getD k 0)%256
def sJ (b:List Int) : Int:=ki b b.length
def dh (b:List Int) : Int:=(0-sJ b)%256
def fk (b:List Int) : Bool:=decide (0<((b.length:Nat) : Int))&&(dh b==0)
theorem wM(b:List Int) : ∀ k,0≤ki b k∧ki b k<256
  | 0=>by unfold ki;omega
  | k+1=>by unfold ki;omega
def er (n:Int) : Int:=if n<10 then 48+n else 55+n
def cI (c:Int) : Int:=if 48≤c∧c≤57 then c-48 else if 65≤c∧c≤70 then c-55 else -1
def dD:List Int→List Int
  | []=>[]
  | c :: b=>er (c/16) :: er (c%16) :: dD b
def bZ:List Int→Option (List Int)
  | []=>some []
  | [_]=>none
  | a :: b :: r=>if cI a<0∨cI b<0 then none else (bZ r).map fun l=>(16*cI a+cI b)%256 :: l
theorem jR{n:Int}(h:0≤n∧n<16) : 48≤er n∧er n≤70:=by unfold er;split<;>omega
theorem kW{n:Int}(h:0≤n∧n<16) : cI (er n)=n:=by
  unfold er
  split<;>unfold cI
  · rw[if_pos (by omega)];omega
  · rw[if_neg (by omega),if_pos (by omega)];omega
theorem l9{c:Int}(h:0≤cI c) : er (cI c)=c∧cI c<16:=by
  unfold cI at h ⊢
  split at h
  · rename_i h1
    rw[if_pos h1]
    unfold er
    rw[if_pos (by omega)]
    omega
  · rename_i h1
    split at h
    · rename_i h2
      rw[if_neg h1,if_pos h2]
      unfold er
      rw[if_neg (by omega)]
      omega
    · omega
theorem p7(c:Int) : cI c<16∧-1≤cI c:=by unfold cI;split;omega;split<;>omega
theorem dM:∀ b:List Int,(dD b).length=2*b.length
  | []=>rfl
  | c :: b=>by simp only[dD,List.length_cons,dM b];omega
theorem qt:∀ a b:List Int,dD (a++b)=dD a++dD b
  | [],b=>rfl
  | c :: a,b=>by simp only[List.cons_append,dD,qt a b]
theorem nZ:∀ b:List Int,(∀ x,x∈b→0≤x∧x<256)→bZ (dD b)=some b
  | [],_=>rfl
  | c :: b,h=>by
    have hc:=h c (List.mem_cons_self ..)
    have h1:=kW (n:=c/16) (by omega)
    have h2:=kW (n:=c%16) (by omega)
    simp only[dD,bZ]
    rw[h1,h2,if_neg (by omega),nZ b fun x hx=>h x (List.mem_cons_of_mem _ hx),show(16*(c/16)+c%16)%256=c from by omega]
    rfl
theorem iu:∀ {s x:List Int},bZ s=some x→s=dD x∧∀ y,y∈x→0≤y∧y<256
  | [],x,h=>by
    injection h with h
    subst h
    exact⟨rfl,fun y hy=>by cases hy⟩
  | [_],x,h=>by cases h
  | a :: b :: r,x,h=>by
    simp only[bZ] at h
    split at h
    · cases h
    · rename_i hd
      cases hr:bZ r with
      | none=>rw[hr] at h;cases h
      | some l =>
        rw[hr] at h
        injection h with h
        obtain⟨h1,h2⟩:=iu hr
        have ha:=l9 (c:=a) (by omega)
        have hb:=l9 (c:=b) (by omega)
        subst h
        refine⟨?_,fun y hy=>?_⟩
        · simp only[dD]
          rw[show(16*cI a+cI b)%256/16=cI a from by omega,show(16*cI a+cI b)%256%16=cI b from by omega,ha.1,hb.1,← h1]
        · rcases List.mem_cons.1 hy with rfl | hy
          · omega
          · exact h2 y hy
theorem tu{xs:List Int}{k:Nat}(h:2*k+1<xs.length)(ha:¬ cI (xs.getD (2*k) 0)<0)(hb:¬ cI (xs.getD (2*k+1) 0)<0) : bZ (xs.drop (2*k))=(bZ (xs.drop (2*(k+1)))).map fun l=>[(16*cI (xs.getD (2*k) 0)+cI (xs.getD (2*k+1) 0))%256]++l:=by
  have e1:xs.getD (2*k) 0=xs[2*k]:=by rw[List.getD_eq_getElem?_getD,List.getElem?_eq_getElem (by omega)];rfl
  have e2:xs.getD (2*k+1) 0=xs[2*k+1]:=by rw[List.getD_eq_getElem?_getD,List.getElem?_eq_getElem h];rfl
  rw[List.drop_eq_getElem_cons (show 2*k<xs.length by omega),List.drop_eq_getElem_cons h,← e1,← e2]
  simp only[bZ]
  rw[if_neg (by omega),show 2*k+1+1=2*(k+1) by omega]
  rfl
theorem vD{xs:List Int}{k:Nat}(h:2*k+1<xs.length)(hd:cI (xs.getD (2*k) 0)<0∨cI (xs.getD (2*k+1) 0)<0) : bZ (xs.drop (2*k))=none:=by
  have e1:xs.getD (2*k) 0=xs[2*k]:=by rw[List.getD_eq_getElem?_getD,List.getElem?_eq_getElem (by omega)];rfl
  have e2:xs.getD (2*k+1) 0=xs[2*k+1]:=by rw[List.getD_eq_getElem?_getD,List.getElem?_eq_getElem h];rfl
  rw[List.drop_eq_getElem_cons (show 2*k<xs.length by omega),List.drop_eq_getElem_cons h,← e1,← e2]
  simp only[bZ]
  rw[if_pos hd]
theorem o4:∀ {xs:List Int},xs.length%2≠0→bZ xs=none
  | [],h=>by simp at h
  | [_],_=>rfl
  | a :: b :: r,h=>by
    simp only[bZ]
    split
    · rfl
    · rw[o4 (by simp only[List.length_cons] at h;omega)]
      rfl
theorem o9{s x:List Int}(h:bZ s=some x) : s.length=2*x.length:=by
  obtain⟨h1,_⟩:=iu h
  rw[h1,dM]
theorem ux{xs L:List Int}{k:Nat}(h:bZ xs=(bZ (xs.drop (2*k))).map fun l=>L++l)(h1:¬ 2*k<xs.length) : bZ xs=some L:=by
  rw[List.drop_eq_nil_of_le (by omega)] at h
  rw[h]
  simp[bZ]
theorem sC{xs L:List Int}{k:Nat}(h:bZ xs=(bZ (xs.drop (2*k))).map fun l=>L++l)(h2:2*k+1<xs.length)(ha:¬ cI (xs.getD (2*k) 0)<0)(hb:¬ cI (xs.getD (2*k+1) 0)<0) : bZ xs=(bZ (xs.drop (2*(k+1)))).map fun l=>(L++[(16*cI (xs.getD (2*k) 0)+cI (xs.getD (2*k+1) 0))%256])++l:=by
  rw[h,tu h2 ha hb]
  cases bZ (xs.drop (2*(k+1))) with
  | none=>rfl
  | some l=>simp
theorem zd{xs L:List Int}{k:Nat}(h:bZ xs=(bZ (xs.drop (2*k))).map fun l=>L++l)(h2:2*k+1<xs.length)(hd:cI (xs.getD (2*k) 0)<0∨cI (xs.getD (2*k+1) 0)<0) : bZ xs=none:=by
  rw[h,vD h2 hd]
  rfl
theorem v4(b:List Int)(k:Nat)(h:k<b.length) : dD (b.take (k+1))=(dD (b.take k)++[er (b.getD k 0/16)])++[er (b.getD k 0%16)]:=by
  rw[List.take_succ_eq_append_getElem h,qt,List.getD_eq_getElem?_getD,List.getElem?_eq_getElem h]
  simp[dD]
open Go.RowKit
theorem AZ{w:World}{g:Nat}{c s:Int}(hg:w.heap[g]? = some (.cells #[vB s] 5 (0,0))) : Calls Tryz.prog 183 #[vB c,vP g 0] w (fun e w'=>e = .returned (.tuple #[])∧w'.heap[g]? = some (.cells #[vB ((s+c)%256)] 5 (0,0))∧ay [g] w w'):=by
 exact en 6 Tryz.func183 rfl<|go<|aD hg 0<|Pl 2<|L0<|cA hg 0 #[vB ((s+c)%256)] fun d a b=>nl<|rm (.tuple #[])<|⟨rfl,a,b⟩
theorem vy{m:Md}{A:Option Addr}{cp:Nat}{b:List Int}{w0 w:World}{g:Nat}(hu0:ay [] w0 w)(hg0:w0.heap.size≤g)(hsl:aW m w0 (.slice A b.length cp) b)(hg:w.heap[g]? = some (.cells #[vB (ki b 0)] 5 (0,0))) :
    Calls Tryz.prog 182 #[.slice A b.length cp,.func (.func 183) #[] #[vP g 0]] w (fun e w'=>e = .returned (.tuple #[])∧w'.heap[g]? = some (.cells #[vB (sJ b)] 5 (0,0))∧ay [] w0 w'∧w.heap.size≤w'.heap.size):=by
 have hln:=aT.len hsl
 refine en 16 Tryz.func182 rfl<|aB 3<|bk<|?_
 refine jZ (fun x=>[(1,.func (.func 183) #[] #[vP g 0]),(6,.slice A b.length cp),(7,vI ((b.length:Nat) : Int)),(8,vI ((x:Nat) : Int))]) (fun(x:Nat) w'=>ay [] w0 w'∧w.heap.size≤w'.heap.size∧w'.heap[g]? = some (.cells #[vB (ki b x)] 5 (0,0))∧(x≤b.length)) (fun x=>b.length-x) 0 ⟨hu0,lr,hg,(by(try dsimp only);omega)⟩ ?_
 rintro k j ⟨a,f,l,n⟩
 refine iW [(1,.func (.func 183) #[] #[vP g 0]),(6,.slice A b.length cp),(7,vI ((b.length:Nat) : Int)),(8,vI ((k:Nat) : Int))] ?_
 have h:j.heap[g]? = some (.cells #[vB (ki b k)] 5 (0,0)):=l
 have y:k≤b.length:=n
 refine aB 1<|sq<|cb ((decide (((k:Nat) : Int)<((b.length:Nat) : Int)))) (fun d=>?_) (fun d=>?_)
 have o:=of_decide_eq_true d
 refine bM<|sq<|bk<|sg<|?_
 refine kf (aW.at_ (aW.old hsl a) k (by omega)) fun q r s t z=>L0<|lW b.length k s (by omega)<|L0<|jO (p:=⟨q,r+k,none⟩) (v:=vB (b.getD k 0)) t<|al 1<|go<|Pl 2<|L0<|gk #[] #[vP g 0] (args:=#[vB (b.getD k 0),vP g 0])<|m2 (AZ (c:=(b.getD k 0)) h) fun B u i=>nl<|bn<|tn<|go<|bD (((k:Nat) : Int)+1)<|?_
 refine Pl 1<|nl<|?_
 exact fD (k+1) ⟨(ud a i hg0),(le f i.size),u,(by(try dsimp only);omega)⟩ (by omega)
 have o:=of_decide_eq_false d
 refine xt<|tx<|tx<|bx<|rm (.tuple #[])<|?_
 have hk:k=b.length:=by omega
 subst hk
 exact⟨rfl,h,a,f⟩
theorem sb{m:Md}{A:Option Addr}{cp:Nat}{b:List Int}{w:World}(hsl:aW m w (.slice A b.length cp) b) :
    Calls Tryz.prog 116 #[.slice A b.length cp] w (bS (vB (dh b)) w):=by
 refine en 9 Tryz.func116 rfl<|aA 1<|ng<|aO #[vB 0] fun h i a c d=>L0<|cA c 0 #[vB 0] fun j eT e=>aU 2<|?_
 exact aG<|m3 (vy (ud d e a) a hsl eT) fun k f g l=>ng<|aD f 0<|al 2<|rt<|rr (vB ((0-(sJ b))%256))<|⟨rfl,g⟩
theorem oB{m:Md}{v:Value}{b:List Int}{w:World}(h:aW m w v b) : Calls Tryz.prog 116 #[v] w (bS (.int .u8 (dh b)) w):=by
  obtain⟨A,cp,rfl,_,_⟩:=h.shape
  exact sb h
theorem rR{m:Md}{A:Option Addr}{cp:Nat}{b:List Int}{w:World}(hsl:aW m w (.slice A b.length cp) b) :
    Calls Tryz.prog 82 #[.slice A b.length cp] w (bS (.bool (fk b)) w):=by
 refine en 11 Tryz.func82 rfl<|aA 1<|aU 4<|bl 6 ((decide (0<(b.length:Int)))) (fun a=>?_) (fun a=>?_)
 have c:=of_decide_eq_true a
 refine Pl 1<|L1<|Oc (args:=#[.slice A b.length cp])<|m1 (oB hsl) fun e d=>al 3<|rt<|rr (.bool ((dh b)==0))<|?_
 have hs:fk b=((dh b)==0):=by unfold fk;(try simp only[a,bC]);all_goals rfl
 rw[hs]
 exact⟨rfl,d⟩
 have c:=of_decide_eq_false a
 refine al 5<|rt<|rr (.bool false)<|?_
 have hs:fk b=false:=by unfold fk;(try simp only[a,bC]);all_goals rfl
 rw[hs]
 exact⟨rfl,(ay.refl [] _)⟩
theorem uD{m:Md}{v:Value}{b:List Int}{w:World}(h:aW m w v b) : Calls Tryz.prog 82 #[v] w (bS (.bool (fk b)) w):=by
  obtain⟨A,cp,rfl,_,_⟩:=h.shape
  exact rR h
open Go.RowKit
theorem rf:∃ j,Tryz.prog.info? 251=some j∧j.size=2:=Option.map_eq_some_iff.1 (show(Tryz.prog.info? 251).map (·.size)=some 2 by kernel_rfl)
theorem oS(b:Nat)(w:World)(h0:w.cell? ⟨b,0,none⟩=some (.pointer none))(hsh:w.shape? b=some (251,2))(hfz:w.frozen? ⟨b,0,none⟩=false) :
    Calls Tryz.prog 270 #[.pointer (some ⟨b,0,none⟩)] w fun e w'=>e = .returned (.tuple #[])∧w'=w.setCell ⟨b,0,none⟩ (.pointer (some ⟨b,0,none⟩)):=by
  obtain⟨j,hj,hjs⟩:=rf
  go_enter Tryz.func270,Tryz.ntmps270
  go_wp2
  rw[Lib.run_to_unsafe w ⟨b,0,none⟩ Tryz.underlying249 Tryz.underlying255 hj (by rw[hjs];decide) hsh (Nat.zero_lt_succ 1)]
  simp only[Result.andThen]
  rw[Oper.upon_value]
  go_wp2
  rw[run_callFunc_extern Tryz.func271 (by kernel_rfl) (by kernel_rfl) (by kernel_rfl) (e:=Extern.AbiNoEscape.same) (by kernel_rfl)]
  rw[Lib.run_noEscape]
  simp only[Result.andThen]
  rw[Oper.upon_value]
  go_wp2
  rw[Lib.run_from_unsafe w ⟨b,0,none⟩ Tryz.underlying255 Tryz.underlying249 hj hsh (by kernel_rfl)]
  simp only[Result.andThen]
  rw[Oper.upon_value]
  go_wp2
  go_end0
  exact⟨rfl,rfl⟩
theorem rG(b:Nat)(w:World)(h0:w.cell? ⟨b,0,none⟩=some (.pointer (some ⟨b,0,none⟩))) :
    Calls Tryz.prog 270 #[.pointer (some ⟨b,0,none⟩)] w fun e w'=>e = .returned (.tuple #[])∧w'=w:=by
  obtain⟨j,hj,_⟩:=rf
  go_enter Tryz.func270,Tryz.ntmps270
  go_wp2
  rw[Lib.run_neq_ptr_same w _ Tryz.underlying249 hj]
  go_wp2
  go_end0
  exact⟨rfl,rfl⟩
theorem sO{w:World}{b:Nat}{p v:Value}(hp:p = .pointer none∨p = .pointer (some ⟨b,0,none⟩))(hb:w.heap[b]? = some (.cells #[p,v] 251 (0,0))) :
    Calls Tryz.prog 270 #[.pointer (some ⟨b,0,none⟩)] w fun e w'=>e = .returned (.tuple #[])∧w'.heap[b]? = some (.cells #[.pointer (some ⟨b,0,none⟩),v] 251 (0,0))∧ay [b] w w':=by
  have h0:w.cell? ⟨b,0,none⟩=some p:=(bh hb 0).trans rfl
  rcases hp with rfl|rfl
  · refine(oS b w h0 (by simp[World.shape?,hb]) (fa hb 0)).mono ?_
    rintro e w' ⟨rfl,rfl⟩
    exact⟨rfl,(gJ hb 0 _).trans rfl,(ay.refl _ _).setCell (Or.inl (by simp)) _⟩
  · refine(rG b w h0).mono ?_
    rintro e w' ⟨rfl,rfl⟩
    exact⟨rfl,hb,ay.refl _ _⟩
def mb:Array Value:=#[.int .u8 48,.int .u8 49,.int .u8 50,.int .u8 51,.int .u8 52,.int .u8 53,.int .u8 54,.int .u8 55,.int .u8 56,.int .u8 57,.int .u8 65,.int .u8 66,.int .u8 67,.int .u8 68,.int .u8 69,.int .u8 70]
theorem u4:∀ {j:Nat},j<16→mb[j]? = some (.int .u8 (er (j:Int)))
  | 0,_ | 1,_ | 2,_ | 3,_ | 4,_ | 5,_ | 6,_ | 7,_ | 8,_ | 9,_ | 10,_ | 11,_ | 12,_ | 13,_ | 14,_ | 15,_=>rfl
  | n+16,h=>by omega
theorem qy{i:Int}(h:0≤i∧i<16) : mb[i.toNat]? = some (.int .u8 (er i)):=by
  rw[u4 (by omega),Int.toNat_of_nonneg h.1]
theorem wK{P:Program}{w:World}{ev:Operand→Value}{o:Oper}{x ix:Operand}{t e:TypeId}{k:IntKind}{i:Int}(j:Nat)(ho:o.op = .index t x ix)(ht:P.underlying t=some (.array 16 e))(hi:(P.info? e).map (·.size)=some 1)(hr:∀ w,(isAgg e).run P w = .ok false w)(hx:ev x = .agg mb)(hy:ev ix = .int k i)(hj:i=(j:Int))(hlt:j<16) : (execOp ev o).run P w = .ok (.value (.int .u8 (er (j:Int)))) w:=by
  subst hj
  obtain⟨i0,hi0,hs⟩:=Option.map_eq_some_iff.1 hi
  have h:=u4 hlt
  unfold execOp
  have h2:(0:Int)≤(j:Int)∧(j:Int)<16:=by omega
  simp[ho,hx,hy,Instr.index,asIntOf,run_underlying ht,Result.andThen,h2,sizeOf,typeInfo,hi0,hs,part,h,hr,hlt]
def Bx (B b:Nat)(L:List Int)(w:World) : Prop:=∃ p A cp,w.heap[b]? = some (.cells #[p,.slice A L.length cp] 251 (0,0))∧(p = .pointer none∨p = .pointer (some ⟨b,0,none⟩))∧cG B w (.slice A L.length cp) L
theorem Bx.new{B b:Nat}{w:World}(hb:w.heap[b]? = some (.cells #[.pointer none,.slice none 0 0] 251 (0,0))) : Bx B b [] w:=⟨_,_,_,hb,.inl rfl,aQ.nil ..⟩
def Aq:Go.Shelf.Ren:=⟨fun | 169=>269 | n=>n,fun | 70=>249 | 9=>9 | 0=>0 | 72=>251 | 37=>27 | 127=>240 | 3=>3 | 5=>5 | n=>n,fun | n=>n⟩
theorem D7:Go.Proofs.Lays.n169 Tryz.prog Aq:={
  mixed:=by kernel_rfl
  f169:=Tryz.func269.trans (congrArg some (by kernel_rfl))
  t0:=Tryz.underlying0
  a0:=Tryz.isAgg0
  z0:=Tryz.sizeOf0
  v0:=Tryz.zeroValue0
  t3:=Tryz.underlying3
  a3:=Tryz.isAgg3
  z3:=Tryz.sizeOf3
  v3:=Tryz.zeroValue3
  t9:=Tryz.underlying9
  a9:=Tryz.isAgg9
  z9:=Tryz.sizeOf9
  v9:=Tryz.zeroValue9
  t37:=Tryz.underlying27
  a37:=Tryz.isAgg27
  z37:=Tryz.sizeOf27
  v37:=Tryz.zeroValue27
  t70:=Tryz.underlying249
  a70:=Tryz.isAgg249
  z70:=Tryz.sizeOf249
  v70:=Tryz.zeroValue249
  t72:=Tryz.underlying251
  a72:=Tryz.isAgg251
  z72:=Tryz.sizeOf251
  v72:=Tryz.zeroValue251
  t127:=Tryz.underlying240
  a127:=Tryz.isAgg240
  z127:=Tryz.sizeOf240
  v127:=Tryz.zeroValue240 }
theorem Cd:Builder.Extra Tryz.prog Aq:={
  sizeBuilder:=by kernel_rfl
  liesBuilder:=by kernel_rfl
  t5:=Tryz.underlying5
  a5:=Tryz.isAgg5
  z5:=Tryz.sizeOf5
  v5:=Tryz.zeroValue5
  infoByte:=by kernel_rfl
  cellsByte:=by kernel_rfl
  sizeByte:=by kernel_rfl
  neB5:=by decide }
theorem vq{L:List Int}(h:d5 L) : Lib.byteCells (L.map fun n=>UInt8.ofNat n.toNat)=L.map (Value.int .u8):=by
  unfold Lib.byteCells
  rw[List.map_map]
  apply List.map_congr_left
  intro x hx
  show Value.int .u8 _=_
  rw[pq (h x hx)]
theorem sj{w0 w:World}{b:Nat}{L:List Int}(hu:ay [] w0 w)(hg:w0.heap.size≤b)(h:Bx w0.heap.size b L w)(hr:d5 L) :
    Calls Tryz.prog 269 #[.pointer (some ⟨b,0,none⟩)] w fun e w'=>e = .returned (.string (strOfNums L))∧ay [] w0 w':=by
  obtain⟨p,A,cp,hb,hp,ho⟩:=h
  have h1:=ew (enc:=Value.int .u8) (fun _ _ _ h=>h.1) ho
  have h2:Lib.BuilderAt 251 5 w0.heap.size b p (Lib.byteCells (L.map fun n=>UInt8.ofNat n.toNat)) w:=by
    rw[vq hr]
    refine⟨hg,_,hb,by rw[List.length_map];exact h1,fun hq=>?_⟩
    rcases h1.2 with⟨hv,_⟩|⟨g',cap,cur,hv,_,hh,_⟩
    · rw[hv] at hq;cases hq
    · rw[hv] at hq
      have e:g'=b:=by simpa [Value.ownBlock] using hq
      subst e
      rw[hb] at hh
      injection hh with hh
      injection hh with _ h5 _
      exact absurd h5 (by decide)
  have h3:Lib.IsBuilder (Aq.t 72) (Aq.t 5) w0.heap.size b (Lib.byteCells (L.map fun n=>UInt8.ofNat n.toNat)) w:=by
    rcases hp with rfl|rfl
    · exact Or.inl h2
    · exact Or.inr h2
  refine(Any.Builder_String_any D7 Cd _ _ _ _ h3 hu.size).mono ?_
  rintro e w' ⟨rfl,hbel⟩
  exact⟨rfl,hu.os▸hbel.os,hu.tape▸hbel.tape,hu.output▸hbel.output,Nat.le_trans hu.size hbel.size,fun k hk hn=>(hbel.block k hk).trans (hu.block k hk hn)⟩
open Go.RowKit
theorem lX{w:World}:Calls Tryz.prog 181 #[] w (bS (.agg mb) w):=by
 refine en 2 Tryz.func181 rfl<|sg<|aO #[vB 0,vB 0,vB 0,vB 0,vB 0,vB 0,vB 0,vB 0,vB 0,vB 0,vB 0,vB 0,vB 0,vB 0,vB 0,vB 0] fun e f a b c=>aU 1<|aN b #[vB 48,vB 49,vB 50,vB 51,vB 52,vB 53,vB 54,vB 55,vB 56,vB 57,vB 65,vB 66,vB 67,vB 68,vB 69,vB 70] fun g eT d=>t4<|CT eT<|?_
 exact⟨rfl,(ud c d a)⟩
theorem yK{c:Int}{n:Nat}(h:∀ j:Nat,j<n→er (j:Int)≠c)(q:(er ((n:Nat) : Int)==c)=false) : ∀ j:Nat,j<n+1→er (j:Int)≠c:=fun j hj=>by
  by_cases e:j=n
  · subst e;simpa using q
  · exact h j (by omega)
theorem CH{c:Int}{n:Nat}(hn:n<16)(q:(er ((n:Nat) : Int)==c)=true) : cI c=((n:Nat) : Int):=by
  have e:er ((n:Nat) : Int)=c:=by simpa using q
  rw[← e]
  exact kW (by omega)
theorem xa{c:Int}{n:Nat}(hn:n=16)(h:∀ j:Nat,j<n→er (j:Int)≠c) : cI c = -1:=by
  by_cases e:0≤cI c
  · have h1:=l9 e
    exact absurd (by rw[Int.toNat_of_nonneg e];exact h1.1) (h (cI c).toNat (by omega))
  · have:=p7 c
    omega
theorem oa{w:World}{c:Int}(hc:0≤c∧c<256) : Calls Tryz.prog 115 #[vB c] w (bS (vI (cI c)) w):=by
 refine en 15 Tryz.func115 rfl<|aB 1<|sq<|sg<|aG<|m1 (@lX w) fun g h=>al 1<|bk<|?_
 refine jZ (fun x=>[(0,vB c),(5,.agg mb),(6,vI ((x:Nat) : Int))]) (fun(x:Nat) w'=>ay [] g w'∧(x≤16)∧(∀ j:Nat,j<x→er (j:Int)≠c)) (fun x=>16-x) 0 ⟨ay.refl _ _,(by(try dsimp only);omega),(fun j hj=>by omega)⟩ ?_
 rintro n q ⟨d,l,m⟩
 refine iW [(0,vB c),(5,.agg mb),(6,vI ((n:Nat) : Int))] ?_
 have r:n≤16:=l
 have e:∀ j:Nat,j<n→er (j:Int)≠c:=m
 refine aB 1<|sq<|?_
 have f:=aK h d
 refine cb ((decide (((n:Nat) : Int)<16))) (fun b=>?_) (fun b=>?_)
 have o:=of_decide_eq_true b
 refine bM<|sq<|bk<|aA 1<|L0<|jv (vB (er ((n:Nat) : Int))) (wK (k:=.i64) (i:=((n:Nat) : Int)) n rfl Tryz.underlying204 (by kernel_rfl) Tryz.isAgg5 (by kernel_rfl) (by kernel_rfl) rfl (by omega))<|Pl 2<|aU 3<|nl<|?_
 refine tn<|cb (((er ((n:Nat) : Int))==c)) (fun a=>?_) (fun a=>?_)
 have p:=aI a
 refine aB 2<|rt<|br<|tr<|tr<|br<|tr<|rr (vI ((n:Nat) : Int))<|?_
 have hs:cI c=((n:Nat) : Int):=CH (by omega) a
 rw[hs]
 exact⟨rfl,f⟩
 have p:=aS a
 exact sk<|bn<|tn<|go<|bD (((n:Nat) : Int)+1)<|Pl 1<|nl<|fD (n+1) ⟨d,(by(try dsimp only);omega),(yK e a)⟩ (by omega)
 have o:=of_decide_eq_false b
 refine xt<|tx<|tx<|bx<|tn<|aB 1<|rt<|rr (vI (-1))<|?_
 have hs:cI c = -1:=xa (n:=n) (by omega) e
 rw[hs]
 exact⟨rfl,f⟩
theorem nP{w0 w:World}{b gd:Nat}{L:List Int}{c:Int}(hu0:ay [] w0 w)(hg0:w0.heap.size≤b)(hg1:w0.heap.size≤gd)(h:Bx w0.heap.size b L w)(hd:w.heap[gd]? = some (.cells mb 204 (0,0)))(hne:gd≠b)(hc:0≤c∧c<256)(hl:L.length≤1048576) :
    Calls Tryz.prog 268 #[vP b 0,vB c] w (fun e w'=>e = .returned .nilIface∧Bx w0.heap.size b (L++[c]) w'∧w'.heap[gd]? = some (.cells mb 204 (0,0))∧ay [] w0 w'∧w.heap.size≤w'.heap.size):=by
 obtain⟨p,A,cp,hb,hp,ho⟩:=h
 refine en 17 Tryz.func268 rfl<|aA 1<|aU 1<|aG<|m2 (sO hp hb) fun u a d=>aU 4<|aD a 1<|Pl 1<|L0<|dX (m:=1) (e:=5) #[vB c] fun v y r eT f=>?_
 have s:=dZ r (xs:=[c]) (by as_aux_lemma=>kernel_rfl) (ax (by omega) b9) (by(try simp only[List.length_cons,List.length_nil]);omega) eT
 have i:=aK d f
 refine L0<|dj bp (xs:=L) (ys:=([c])) (vB 0) 1 (ak ho i (fun x hx=>(aa (fun e=>(aJ hb ho (by decide)) (e▸hx)) av)) (fun _ _ h=>h)) (s).rd (by(try simp only[co,aE]);omega) (le (le hu0.size d.size) f.size) fun j k z l n=>Pl 2<|?_
 have o:=ay.blk (ut (ay.mono (S':=(ob A++[])) f aC) n (ai il aC)) (aq (aJ a (ak ho d (fun x hx=>(aa (fun e=>(aJ hb ho (by decide)) (e▸hx)) av)) (fun _ _ h=>h)) (by decide)) av) a
 refine L0<|cA o 1 #[vP b 0,.slice j ((L++[c]).length) k] fun B t q=>dK 1<|rt<|rr (.nilIface)<|?_
 have g:=ut (ay.mono (S':=(b :: (ob A++[]))) i (ac im aC)) (u1 (ay.mono (S':=(ob A++(b :: []))) n (ai il aC)) q im) (ai il (ac im aC))
 exact⟨rfl,⟨_,j,k,t,.inr rfl,(ak l q (fun x hx=>(aa (fun e=>(aJ o l (by decide)) (e▸hx)) av)) (fun _ _ h=>h))⟩,(ay.blk g (aa hne (aq (aJ hd ho (by decide)) av)) hd),(ut hu0 g (ac (nr hg0) (ai (aX ho lr) aC))),g.size⟩
open Go.RowKit
theorem oh{b:List Int}(h:d5 b) : d5 (dD b):=by
  induction b with
  | nil=>exact h
  | cons c b ih =>
    have hc:=h c (List.mem_cons_self ..)
    have h1:=jR (n:=c/16) (by omega)
    have h2:=jR (n:=c%16) (by omega)
    intro x hx
    rcases List.mem_cons.1 hx with rfl|hx
    · omega
    rcases List.mem_cons.1 hx with rfl|hx
    · omega
    · exact ih (fun y hy=>h y (List.mem_cons_of_mem _ hy)) x hx
theorem vv{m:Md}{A:Option Addr}{cp:Nat}{b:List Int}{w:World}(hsl:aW m w (.slice A b.length cp) b)(hl:b.length≤1024) :
    Calls Tryz.prog 267 #[.slice A b.length cp] w (bS (.string (strOfNums (dD b))) w):=by
 have hb:=aW.range hsl
 refine en 26 Tryz.func267 rfl<|aA 1<|ng<|aO #[.pointer none,nS] fun d y g l h=>ng<|aG<|m1 (@lX y) fun X e=>?_
 refine aO #[vB 0,vB 0,vB 0,vB 0,vB 0,vB 0,vB 0,vB 0,vB 0,vB 0,vB 0,vB 0,vB 0,vB 0,vB 0,vB 0] fun a Y f z B=>aN (hz:=(by kernel_rfl)) (hv:=rfl) (h1:=(by kernel_rfl)) z (mb) fun C D E=>nt<|sq<|aB 3<|bk<|?_
 have o:=aK e (ud B E f)
 have q:=nb (ag l) e.size f
 refine jZ (fun x=>[(2,.string ⟨#[]⟩),(3,vP d 0),(4,vP a 0),(8,.slice A b.length cp),(9,vI ((b.length:Nat) : Int)),(10,vI ((x:Nat) : Int))]) (fun(x:Nat) w'=>ay [] w w'∧C.heap.size≤w'.heap.size∧Bx w.heap.size d (dD (b.take x)) w'∧w'.heap[a]? = some (.cells mb 204 (0,0))∧(x≤b.length)) (fun x=>b.length-x) 0 ⟨(aK h o),lr,(by simpa [dD] using Bx.new (ub o l)),D,(by(try dsimp only);omega)⟩ ?_
 rintro k r ⟨i,F,G,H,I⟩
 refine iW [(2,.string ⟨#[]⟩),(3,vP d 0),(4,vP a 0),(8,.slice A b.length cp),(9,vI ((b.length:Nat) : Int)),(10,vI ((k:Nat) : Int))] ?_
 have s:Bx w.heap.size d (dD (b.take k)) r:=G
 have t:r.heap[a]? = some (.cells mb 204 (0,0)):=H
 have Z:k≤b.length:=I
 refine aB 1<|sq<|cb ((decide (((k:Nat) : Int)<((b.length:Nat) : Int)))) (fun j=>?_) (fun j=>?_)
 have J:=of_decide_eq_true j
 refine bM<|sq<|bk<|sg<|?_
 refine kf (aW.at_ (aW.old hsl i) k (by omega)) fun K L M N a0=>L0<|lW b.length k M (by omega)<|L0<|jO (p:=⟨K,L+k,none⟩) (v:=vB (b.getD k 0)) N<|Pl 1<|aU 1<|L0<|Oe (vB (Int.fdiv (b.getD k 0) (2 ^ 4))) (vB ((b.getD k 0)/16)) (congrArg (Value.int .u8) (lS _ _ _ (by decide)))<|L0<|DQ (b:=a) (off:=0) 16 ((((b.getD k 0)/16)).toNat) ((b.getD k 0)/16) (by omega) (by omega)<|?_
 have a1:=jR (n:=((b.getD k 0)/16)) (by omega)
 refine L0<|jO (p:=⟨a,0+(((b.getD k 0)/16)).toNat,none⟩) (v:=vB (er (((b.getD k 0)/16)))) (ae t (by rw[Nat.zero_add,qy (by omega)]))<|aG<|m4 (nP (c:=(er ((b.getD k 0)/16))) i g (Nat.le_trans (le h.size e.size) f) s t (Ne.symm q) (by omega) (by rw[dM,List.length_take];omega)) fun a2 O u P Q=>nt<|go<|Pl 1<|L0<|Oe (vB (Int.tmod (b.getD k 0) 16)) (vB ((b.getD k 0)%16)) (congrArg (Value.int .u8) (Int.tmod_eq_emod_of_nonneg (by omega)))<|L0<|DQ (b:=a) (off:=0) 16 ((((b.getD k 0)%16)).toNat) ((b.getD k 0)%16) (by omega) (by omega)<|?_
 have a3:=jR (n:=((b.getD k 0)%16)) (by omega)
 exact L0<|jO (p:=⟨a,0+(((b.getD k 0)%16)).toNat,none⟩) (v:=vB (er (((b.getD k 0)%16)))) (ae u (by rw[Nat.zero_add,qy (by omega)]))<|aG<|m4 (nP (c:=(er ((b.getD k 0)%16))) P g (Nat.le_trans (le h.size e.size) f) O u (Ne.symm q) (by omega) (by rw[List.length_append,dM,List.length_take];simp only[List.length_cons,List.length_nil];omega)) fun a4 R S T U=>nl<|bn<|tn<|go<|bD (((k:Nat) : Int)+1)<|Pl 1<|nl<|fD (k+1) ⟨T,(le (le F Q) U),(by rw[v4 _ _ (by omega)];exact R),S,(by(try dsimp only);omega)⟩ (by omega)
 have J:=of_decide_eq_false j
 refine xt<|tx<|tx<|bx<|tn<|sg<|?_
 have V:k=b.length:=by omega
 have hbl:=s
 rw[V,List.take_length] at hbl
 have hbr:d5 (dD b):=oh hb
 refine aG<|m1 (sj i g hbl hbr) fun a5 W=>al 1<|rt<|rr (.string (strOfNums (dD b)))<|?_
 exact⟨rfl,W⟩
theorem ye{m:Md}{v:Value}{b:List Int}{w:World}(h:aW m w v b)(hl:b.length≤1024) : Calls Tryz.prog 267 #[v] w (bS (.string (strOfNums (dD b))) w):=by
  obtain⟨A,cp,rfl,_,_⟩:=h.shape
  exact vv h hl
def io (xs:List Int)(w:World)(e:Ending)(w':World) : Prop:=match bZ xs with
  | some l=>∃ v,e = .returned (.tuple #[v,.int .i64 0])∧cG w.heap.size w' v l∧ay [] w w'
  | none=>e = .returned (.tuple #[.slice none 0 0,.int .i64 11])∧ay [] w w'
theorem Az{xs l:List Int}{w w':World}{e:Ending}(h:bZ xs=some l)(k:∃ v,e = .returned (.tuple #[v,.int .i64 0])∧cG w.heap.size w' v l∧ay [] w w') : io xs w e w':=by
  unfold io
  rw[h]
  exact k
theorem tW{xs:List Int}{w w':World}{e:Ending}(h:bZ xs=none)(k:e = .returned (.tuple #[.slice none 0 0,.int .i64 11])∧ay [] w w') : io xs w e w':=by
  unfold io
  rw[h]
  exact k
theorem nW{xs:List Int}{w:World}(hr:d5 xs)(hl:xs.length≤1048576) :
    Calls Tryz.prog 81 #[.string (strOfNums xs)] w (io xs w):=by
 refine en 42 Tryz.func81 rfl<|aB 2<|sq<|aA 1<|L0<|Oe (vI (((strOfNums xs).size:Nat) : Int)) (vI (xs.length:Int)) (by rw[strOfNums_size])<|L0<|Oe (vI (Int.tmod (xs.length:Int) 2)) (vI ((xs.length:Int)%2)) (congrArg (Value.int .i64) (Int.tmod_eq_emod_of_nonneg (by omega)))<|Pl 1<|nl<|tn<|cb ((((xs.length:Int)%2)!=0)) (fun d=>?_) (fun d=>?_)
 have y:=aR d
 refine aB 2<|bQ<|rr (.tuple #[nS,vI 11])<|?_
 have hs:bZ xs=none:=o4 (by omega)
 exact tW hs ⟨rfl,(ay.refl [] _)⟩
 have y:=aZ d
 refine bM<|aB 1<|sq<|aB 1<|bk<|?_
 refine jZ (fun x=>[(0,.string (strOfNums xs)),(4,.slice x.2.2.1 x.2.1.length x.2.2.2),(5,vI ((2*x.1:Nat) : Int))]) (fun(x:Nat × List Int × Option Addr × Nat) w'=>ay [] w w'∧cG w.heap.size w' (.slice x.2.2.1 x.2.1.length x.2.2.2) x.2.1∧(2*x.1≤xs.length)∧(bZ xs=(bZ (xs.drop (2*x.1))).map fun l=>x.2.1++l)∧(x.2.1.length=x.1)) (fun x=>xs.length-2*x.1) (0,[],none,0) ⟨ay.refl _ _,(aQ.nil w.heap.size _ _ lf _),(by(try dsimp only);omega),(by(try dsimp only);simp),(by(try dsimp only);rfl)⟩ ?_
 rintro⟨k,L,B,cq⟩ z ⟨f,A,C,D,E⟩
 refine iW [(0,.string (strOfNums xs)),(4,.slice B L.length cq),(5,vI ((2*k:Nat) : Int))] ?_
 have g:cG w.heap.size z (.slice B L.length cq) L:=A
 have T:2*k≤xs.length:=C
 have U:bZ xs=(bZ (xs.drop (2*k))).map fun l=>L++l:=D
 have V:L.length=k:=E
 have hL:bZ xs=(bZ (xs.drop (2*k))).map fun l=>L++l:=by assumption
 refine sq<|aA 2<|L0<|Oe (vI (((strOfNums xs).size:Nat) : Int)) (vI (xs.length:Int)) (by rw[strOfNums_size])<|al 1<|cb ((decide (((2*k:Nat) : Int)<(xs.length:Int)))) (fun j=>?_) (fun j=>?_)
 have F:=of_decide_eq_true j
 refine bM<|sq<|bk<|sq<|Rg 11 (fun w'=>True) fun W o=>bi trivial fun a=>Rt 0 a<|Rt 1 a<|Rr 2 a (vB (xs.getD (2*k) 0)) (fun _ _=>qh (xs:=xs) (k:=.i64) (i:=((2*k:Nat) : Int)) (2*k) rfl Tryz.underlying9 (by kernel_rfl) (by kernel_rfl) hr rfl (by omega))<|Rt 4 a<|Rt 5 a<|Rr 6 a (vI (((2*k:Nat) : Int)+1)) (fun _ _=>cR (vI (IntKind.i64.wrap (((2*k:Nat) : Int)+1))) (by kernel_rfl) (congrArg (Value.int .i64) (IntWalk.i64_in _ (by omega))))<|Rr 7 a (vB (xs.getD ((((2*k:Nat) : Int)+1)).toNat 0)) (fun _ _=>qh (xs:=xs) (k:=.i64) (i:=(((2*k:Nat) : Int)+1)) ((((2*k:Nat) : Int)+1)).toNat rfl Tryz.underlying9 (by kernel_rfl) (by kernel_rfl) hr (by omega) (by omega))<|?_
 have X:=p7 (xs.getD (2*k) 0)
 refine R0 3 rfl<|Oc<|m1 (oa (c:=(xs.getD (2*k) 0)) (w:=_) (i6 (by omega) hr _)) fun Y p=>bi trivial fun Z=>?_
 have a0:=p7 (xs.getD ((((2*k:Nat) : Int)+1)).toNat 0)
 refine R0 8 rfl<|Oc<|m1 (oa (c:=(xs.getD ((((2*k:Nat) : Int)+1)).toNat 0)) (w:=_) (i6 (by omega) hr _)) fun a1 r=>bi trivial fun s=>Rt 9 s<|Rt 10 s<|re<|tn<|sq<|aA 3<|s8 3 [29] 32 29 (decide ((cI (xs.getD (2*k) 0))<0)) (decide ((cI (xs.getD ((((2*k:Nat) : Int)+1)).toNat 0))<0)) (fun K G H=>?_) ?_
 have a2:=of_decide_eq_false H
 exact Pl 3<|ce G _ rfl
 refine nt<|?_
 have t:=aK o (aK p r)
 have u:=aK f t
 refine cb (((decide ((cI (xs.getD (2*k) 0))<0))||(decide ((cI (xs.getD ((((2*k:Nat) : Int)+1)).toNat 0))<0)))) (fun b=>?_) (fun b=>?_)
 refine aB 2<|bQ<|br<|tr<|tr<|br<|tr<|rr (.tuple #[nS,vI 11])<|?_
 have hs:bZ xs=none:=zd (k:=k) hL (by omega) (by have q:=b;simp only[Bool.or_eq_true,decide_eq_true_eq] at q;rw[show 2*k+1=(((2*k:Nat) : Int)+1).toNat from by omega];exact q)
 exact tW hs ⟨rfl,u⟩
 have I:=(fh b).1
 have J:=(fh b).2
 have a3:=of_decide_eq_false I
 have a4:=of_decide_eq_false J
 refine bM<|go<|Pl 2<|bD (16*(cI (xs.getD (2*k) 0)))<|Pl 1<|bD ((16*(cI (xs.getD (2*k) 0)))+(cI (xs.getD ((((2*k:Nat) : Int)+1)).toNat 0)))<|Pl 1<|L0<|dX (m:=1) (e:=5) #[vB (((16*(cI (xs.getD (2*k) 0)))+(cI (xs.getD ((((2*k:Nat) : Int)+1)).toNat 0)))%256)] fun a5 a6 M N n=>?_
 have O:=dZ M (xs:=[(((16*(cI (xs.getD (2*k) 0)))+(cI (xs.getD ((((2*k:Nat) : Int)+1)).toNat 0)))%256)]) (by as_aux_lemma=>kernel_rfl) (ax (by omega) b9) (by(try simp only[List.length_cons,List.length_nil]);omega) N
 refine L0<|dj bp (xs:=L) (ys:=([(((16*(cI (xs.getD (2*k) 0)))+(cI (xs.getD ((((2*k:Nat) : Int)+1)).toNat 0)))%256)])) (vB 0) 1 (ak g (aK t n) (fun x hx=>av) (fun _ _ h=>h)) (O).rd (by(try simp only[co,aE]);omega) (le (le (le (le f.size o.size) p.size) r.size) n.size) fun P Q a7 R S=>Pl 1<|nl<|bn<|tn<|go<|Pl 1<|bD (((2*k:Nat) : Int)+2)<|Pl 1<|nl<|?_
 have v:=sC (k:=k) hL (by omega) (by omega) (by rw[show 2*k+1=(((2*k:Nat) : Int)+1).toNat from by omega];omega)
 rw[show 2*k+1=(((2*k:Nat) : Int)+1).toNat from by omega] at v
 exact fD ((k+1),(L++[(((16*(cI (xs.getD (2*k) 0)))+(cI (xs.getD ((((2*k:Nat) : Int)+1)).toNat 0)))%256)]),P,Q) ⟨(ut u (ut (ay.mono (S':=(ob B++[])) n aC) S (ai il aC)) (ai (aX g lr) aC)),R,(by(try dsimp only);omega),v,(by(try dsimp only);simp only[co];omega)⟩ (by omega)
 have F:=of_decide_eq_false j
 refine xt<|tx<|tx<|bx<|tn<|aB 3<|rt<|rr (.tuple #[.slice B L.length cq,vI 0])<|?_
 have hs:bZ xs=some L:=ux hL (by omega)
 exact Az hs ⟨_,rfl,g,f⟩
open Go.RowKit
def gl (xs:List Int) : Bool:=decide (2≤((xs.length:Nat) : Int))&&decide (xs.drop (((xs.length:Nat) : Int)-2).toNat=[13,10])
def iR (b:List Int) : Option (List Int):=if b.getD 0 0=58∧gl (b.drop 1)=true then some ((b.drop 1).take (b.length-3)) else none
theorem my{xs:List Int}(h:gl xs=true) : 2≤xs.length:=by
  unfold gl at h
  simp only[Bool.and_eq_true,decide_eq_true_eq] at h
  omega
theorem l7{b s:List Int}(h:iR b=some s) : b.getD 0 0=58∧gl (b.drop 1)=true∧s=(b.drop 1).take (b.length-3)∧3≤b.length:=by
  unfold iR at h
  split at h
  · rename_i hc
    injection h with h
    have:=my hc.2
    rw[List.length_drop] at this
    exact⟨hc.1,hc.2,h.symm,by omega⟩
  · cases h
theorem rF{b s:List Int}(h:iR b=some s) : s.length=b.length-3:=by
  obtain⟨_,_,rfl,h3⟩:=l7 h
  rw[List.length_take,List.length_drop]
  omega
def oJ (xs:List Int)(w:World)(e:Ending)(w':World) : Prop:=match iR xs with
  | some l=>e = .returned (.tuple #[.string (strOfNums l),.bool true])∧ay [] w w'
  | none=>∃ s,e = .returned (.tuple #[.string s,.bool false])∧ay [] w w'
theorem mt{xs:List Int}{w:World}(hr:d5 xs)(hl:xs.length≤1048576) : Calls Tryz.prog 226 #[.string (strOfNums xs),.string ⟨#[13,10]⟩] w (bS (.bool (gl xs)) w):=by
 refine en 21 Tryz.func226 rfl<|aA 1<|aU 1<|L0<|Oe (vI (((strOfNums xs).size:Nat) : Int)) (vI (xs.length:Int)) (by rw[strOfNums_size])<|Pl 4<|bl 10 ((decide (2≤(xs.length:Int)))) (fun c=>?_) (fun c=>?_)
 have d:=of_decide_eq_true c
 refine Pl 2<|L1<|Oe (vI (((strOfNums xs).size:Nat) : Int)) (vI (xs.length:Int)) (by rw[strOfNums_size])<|Pl 2<|L1<|Oi ((xs.length:Int)-2)<|?_
 have e:d5 (xs.drop (((xs.length:Int)-2)).toNat):=kZ hr (((xs.length:Int)-2)).toNat
 refine L1<|jv (.string (strOfNums (xs.drop (((xs.length:Int)-2)).toNat))) (ot (xs:=xs) (k:=.i64) (i:=((xs.length:Int)-2)) (((xs.length:Int)-2)).toNat rfl Tryz.underlying9 (by kernel_rfl) (by kernel_rfl) (by omega) (by omega))<|Pl 1<|L1<|jv (.bool (decide ((xs.drop (((xs.length:Int)-2)).toNat)=[13,10]))) (eF (a:=(strOfNums (xs.drop (((xs.length:Int)-2)).toNat))) (b:=⟨#[13,10]⟩) rfl (by kernel_rfl) (by kernel_rfl) (zQ (ys:=[13,10]) e (by decide)))<|al 2<|rt<|rr (.bool (decide ((xs.drop (((xs.length:Int)-2)).toNat)=[13,10])))<|?_
 have hs:gl xs=(decide ((xs.drop (((xs.length:Int)-2)).toNat)=[13,10])):=by unfold gl;(try simp only[c,bC]);all_goals rfl
 rw[hs]
 exact⟨rfl,(ay.refl [] _)⟩
 have d:=of_decide_eq_false c
 refine al 11<|rt<|rr (.bool false)<|?_
 have hs:gl xs=false:=by unfold gl;(try simp only[c,bC]);all_goals rfl
 rw[hs]
 exact⟨rfl,(ay.refl [] _)⟩
theorem wc{xs:List Int}{w:World}(hr:d5 xs)(hl:xs.length≤1048576)(hq:gl xs=true) : Calls Tryz.prog 180 #[.string (strOfNums xs),.string ⟨#[13,10]⟩] w (bS (.tuple #[.string (strOfNums (xs.take ((xs.length:Int)-2).toNat)),.bool true]) w):=by
 have hq2:=my hq
 refine en 18 Tryz.func180 rfl<|aB 2<|sq<|aA 2<|aG<|m1 (mt (xs:=xs) (w:=_) hr (by omega)) fun c a=>al 1<|?_
 have b:(!(gl xs))=false:=by simp only[hq,Bool.not_true,Bool.not_false]
 refine cf b<|bM<|aA 2<|L0<|Oe (vI (((strOfNums xs).size:Nat) : Int)) (vI (xs.length:Int)) (by rw[strOfNums_size])<|Pl 2<|bD ((xs.length:Int)-2)<|?_
 have d:d5 (xs.take (((xs.length:Int)-2)).toNat):=oy hr (((xs.length:Int)-2)).toNat
 exact L0<|jv (.string (strOfNums (xs.take (((xs.length:Int)-2)).toNat))) (vp (xs:=xs) (k:=.i64) (i:=((xs.length:Int)-2)) (((xs.length:Int)-2)).toNat rfl Tryz.underlying9 (by kernel_rfl) (by kernel_rfl) (by omega) (by omega))<|al 2<|rt<|rr (.tuple #[.string (strOfNums (xs.take (((xs.length:Int)-2)).toNat)),.bool true])<|⟨rfl,a⟩
theorem yl{xs:List Int}{w:World}(hr:d5 xs)(hl:xs.length≤1048576)(hq:gl xs=true) : Calls Tryz.prog 114 #[.string (strOfNums xs),.string ⟨#[13,10]⟩] w (bS (.tuple #[.string (strOfNums (xs.take ((xs.length:Int)-2).toNat)),.bool true]) w):=by
 exact en 11 Tryz.func114 rfl<|aA 2<|aU 2<|aG<|m1 (wc (xs:=xs) (w:=_) hr hl hq) fun b a=>al 4<|rt<|rr (.tuple #[.string (strOfNums (xs.take ((xs.length:Int)-2).toNat)),.bool true])<|⟨rfl,a⟩
theorem vz{xs:List Int}{w:World}(hr:d5 xs)(hl:xs.length≤1048576)(hq:gl xs=false) : Calls Tryz.prog 180 #[.string (strOfNums xs),.string ⟨#[13,10]⟩] w (bS (.tuple #[.string (strOfNums xs),.bool false]) w):=by
 refine en 18 Tryz.func180 rfl<|aB 2<|sq<|aA 2<|aG<|m1 (mt (xs:=xs) (w:=_) hr (by omega)) fun c a=>al 1<|?_
 have b:(!(gl xs))=true:=by simp only[hq,Bool.not_true,Bool.not_false]
 exact ct b<|aB 3<|bQ<|rr (.tuple #[.string (strOfNums xs),.bool false])<|⟨rfl,a⟩
theorem yw{xs:List Int}{w:World}(hr:d5 xs)(hl:xs.length≤1048576)(hq:gl xs=false) : Calls Tryz.prog 114 #[.string (strOfNums xs),.string ⟨#[13,10]⟩] w (bS (.tuple #[.string (strOfNums xs),.bool false]) w):=by
 exact en 11 Tryz.func114 rfl<|aA 2<|aU 2<|aG<|m1 (vz (xs:=xs) (w:=_) hr hl hq) fun b a=>al 4<|rt<|rr (.tuple #[.string (strOfNums xs),.bool false])<|⟨rfl,a⟩
theorem yE{b:List Int}(h:b.getD 0 0=58)(k:gl (b.drop 1)=true) : iR b=some ((b.drop 1).take (b.length-3)):=if_pos ⟨h,k⟩
theorem zC{b:List Int}(h:¬ b.getD 0 0=58) : iR b=none:=if_neg fun k=>h k.1
theorem zJ{b:List Int}(k:gl (b.drop 1)=false) : iR b=none:=if_neg fun h=>by rw[k] at h;cases h.2
theorem Cz{b l:List Int}{w w':World}{e:Ending}(h:iR b=some l)(k:e = .returned (.tuple #[.string (strOfNums l),.bool true])∧ay [] w w') : oJ b w e w':=by
  unfold oJ
  rw[h]
  exact k
theorem zl{b:List Int}{w w':World}{e:Ending}(h:iR b=none)(k:∃ s,e = .returned (.tuple #[.string s,.bool false])∧ay [] w w') : oJ b w e w':=by
  unfold oJ
  rw[h]
  exact k
theorem mI{b:List Int}{w:World}(hr:d5 b)(hl:b.length≤1048576)(h0:0<b.length) : Calls Tryz.prog 80 #[.string (strOfNums b)] w (oJ b w):=by
 refine en 18 Tryz.func80 rfl<|aB 2<|sq<|aA 1<|L0<|EF (sv:=strOfNums b) Tryz.underlying9 fun f m n o p=>nt<|bk<|?_
 refine jZ (fun x=>[(0,.string (strOfNums b)),(7,vP f 0)]) (fun(x:Unit) w'=>ay [] m w'∧(0≤0)) (fun x=>0) () ⟨ay.refl _ _,(by(try dsimp only);omega)⟩ ?_
 rintro z v ⟨g,q⟩
 refine iW [(0,.string (strOfNums b)),(7,vP f 0)] ?_
 have y:0≤0:=q
 refine sg<|?_
 refine L0<|Fs hr (by omega) (ub g o) fun r A h s=>al 1<|sq<|c1<|bM<|bk<|aB 2<|sq<|aB 2<|?_
 have a:=ud p (uz g s) n
 refine cb ((r != 58)) (fun c=>?_) (fun c=>?_)
 have d:=aR c
 exact aB 2<|bQ<|br<|tr<|br<|tr<|rr (.tuple #[.string ⟨#[]⟩,.bool false])<|zl (zC fun e=>d (h.2 e)) ⟨_,rfl,a⟩
 have d:=aZ c
 refine bM<|xt<|DJ<|tx<|bx<|tn<|aA 1<|?_
 have j:d5 (b.drop 1):=kZ hr 1
 refine L0<|jv (.string (strOfNums (b.drop 1))) (ot (xs:=b) (k:=.i64) (i:=1) 1 rfl Tryz.underlying9 (by kernel_rfl) (by kernel_rfl) rfl (by omega))<|?_
 rcases hY (gl (b.drop 1)) with hq|hq
 refine aG<|m1 (yl (xs:=(b.drop 1)) (w:=_) j (by rw[List.length_drop];omega) hq) fun B t=>al 4<|rt<|rr (.tuple #[.string (strOfNums ((b.drop 1).take (((b.drop 1).length:Int)-2).toNat)),.bool true])<|?_
 exact Cz (l:=(b.drop 1).take (b.length-3)) (yE (h.1 d) hq) ⟨by rw[show b.length-3=(((b.drop 1).length:Int)-2).toNat from by rw[List.length_drop];omega],(aK a t)⟩
 refine aG<|m1 (yw (xs:=(b.drop 1)) (w:=_) j (by rw[List.length_drop];omega) hq) fun C u=>al 4<|rt<|rr (.tuple #[.string (strOfNums (b.drop 1)),.bool false])<|?_
 exact zl (zJ hq) ⟨_,rfl,(aK a u)⟩
open Go.RowKit
theorem w9{b s:List Int}(hr:d5 b)(h:iR b=some s) : d5 s:=by
  obtain⟨_,_,rfl,_⟩:=l7 h
  exact oy (kZ hr 1) _
theorem A9{b l:List Int}{w:World}(h:iR b=some l)(e:Ending)(w':World)(k:oJ b w e w') : e = .returned (.tuple #[.string (strOfNums l),.bool true])∧ay [] w w':=by
  unfold oJ at k
  rw[h] at k
  exact k
theorem Be{b:List Int}{w:World}(h:iR b=none)(e:Ending)(w':World)(k:oJ b w e w') : ∃ s,e = .returned (.tuple #[.string s,.bool false])∧ay [] w w':=by
  unfold oJ at k
  rw[h] at k
  exact k
theorem yy{b l:List Int}{w:World}(h:bZ b=some l)(e:Ending)(w':World)(k:io b w e w') : ∃ v,e = .returned (.tuple #[v,.int .i64 0])∧cG w.heap.size w' v l∧ay [] w w':=by
  unfold io at k
  rw[h] at k
  exact k
theorem wN{b:List Int}{w:World}(h:bZ b=none)(e:Ending)(w':World)(k:io b w e w') : e = .returned (.tuple #[.slice none 0 0,.int .i64 11])∧ay [] w w':=by
  unfold io at k
  rw[h] at k
  exact k
def dV (x:List Int) : List Int:=(x.take (x.length-1)).drop 1
theorem mE(x:List Int) : dV x=(x.take (((x.length:Nat) : Int)-1).toNat).drop 1:=by
  unfold dV
  rw[show(((x.length:Nat) : Int)-1).toNat=x.length-1 from by omega]
def ee (dir:Int)(b:List Int) : aM × Int :=
  if dir != 0&&dir != 1 then (aM.zero,1)
  else if decide ((b.length:Int)<9) then (aM.zero,2)
  else if decide (513<(b.length:Int)) then (aM.zero,3)
  else match iR b with
    | none=>(aM.zero,12)
    | some s=>match bZ s with
      | none=>(aM.zero,11)
      | some x=>if !(fk x) then (aM.zero,10) else di (x.getD 0 0) 0 (db dir (dV x))
theorem sI{m:Md}{A:Option Addr}{cp:Nat}{b:List Int}{w:World}{dir:Int}(hsl0:aW m w (.slice A b.length cp) b)(hb:b.length≤1048576) :
    Calls Tryz.prog 56 #[vI dir,.slice A b.length cp] w (oT (ee dir b) w):=by
 have hln:(b.length:Int)≤1048576:=by omega
 have hr:d5 b:=aW.range hsl0
 refine en 71 Tryz.func56 rfl<|sg<|aO #[vB 0,vW 0,vB 0,vB 0,vW 0,vW 0,vW 0,vW 0,vW 0,vW 0,vW 0,vW 0,vW 0,vW 0,nS,nS,nS,nS,vB 0,vB 0,vB 0,vB 0,vB 0,nS] fun bw X k d o=>al 1<|sq<|bk<|aA 3<|ij 3 [14] 17 14 (dir != 0) (dir != 1) (fun K ai aj=>?_) ?_
 have bx:=aR aj
 exact Pl 3<|ce ai _ rfl
 refine al 1<|cb (((dir != 0)&&(dir != 1))) (fun f=>?_) (fun f=>?_)
 have Y:=(bW f).1
 have Z:=(bW f).2
 have bz:=aR Y
 have bA:=aR Z
 refine aA 1<|aN d #[vB 0,vW 0,vB 0,vB 0,vW 0,vW 0,vW 0,vW 0,vW 0,vW 0,vW 0,vW 0,vW 0,vW 0,nS,nS,nS,nS,vB 0,vB 0,vB 0,vB 0,vB 0,nS] fun bB an ao=>al 1<|rt<|br<|tr<|eA an (vI 1)<|?_
 have hs:ee dir b=(aM.zero,1):=by
   unfold ee
   (try simp only[f,Y,Z,bC,di,reduceIte])
   all_goals rfl
 refine eu hs ?_
 exact d9 (ud o ao k)
 refine aB 4<|cb ((decide ((b.length:Int)<9))) (fun i=>?_) (fun i=>?_)
 have ap:=of_decide_eq_true i
 refine aA 1<|aN d #[vB 0,vW 0,vB 0,vB 0,vW 0,vW 0,vW 0,vW 0,vW 0,vW 0,vW 0,vW 0,vW 0,vW 0,nS,nS,nS,nS,vB 0,vB 0,vB 0,vB 0,vB 0,nS] fun bE aq ar=>al 1<|rt<|br<|tr<|eA aq (vI 2)<|?_
 have hs:ee dir b=(aM.zero,2):=by
   unfold ee
   (try simp only[f,i,bC,di,reduceIte])
   all_goals rfl
 refine eu hs ?_
 exact d9 (ud o ar k)
 have ap:=of_decide_eq_false i
 refine aB 4<|cb ((decide (513<(b.length:Int)))) (fun j=>?_) (fun j=>?_)
 have au:=of_decide_eq_true j
 refine aA 1<|aN d #[vB 0,vW 0,vB 0,vB 0,vW 0,vW 0,vW 0,vW 0,vW 0,vW 0,vW 0,vW 0,vW 0,vW 0,nS,nS,nS,nS,vB 0,vB 0,vB 0,vB 0,vB 0,nS] fun bF aw ax=>al 1<|rt<|br<|tr<|eA aw (vI 3)<|?_
 have hs:ee dir b=(aM.zero,3):=by
   unfold ee
   (try simp only[f,i,j,bC,di,reduceIte])
   all_goals rfl
 refine eu hs ?_
 exact d9 (ud o ax k)
 have au:=of_decide_eq_false j
 refine sk<|bn<|tn<|aA 1<|?_
 have O:=aW.old hsl0 o
 refine L0<|jv (.string (strOfNums b)) (cz (A:=A) (n:=b.length) (c:=cp) rfl (by kernel_rfl) Tryz.underlying27 Tryz.underlying5 Tryz.underlying9 O)<|?_
 rcases hds:iR b with _|sd
 have ay:=mI (w:=X) (aW.range O) hb (by omega)
 have aC:=ay.mono (Be hds)
 refine aG (args:=#[.string (strOfNums b)])<|e1 aC fun bG bH a0=>al 5<|sq<|aB 2<|c1<|aA 1<|?_
 refine aN (ub a0 d) #[vB 0,vW 0,vB 0,vB 0,vW 0,vW 0,vW 0,vW 0,vW 0,vW 0,vW 0,vW 0,vW 0,vW 0,nS,nS,nS,nS,vB 0,vB 0,vB 0,vB 0,vB 0,nS] fun bI aD aE=>al 1<|bQ<|eA aD (vI 12)<|?_
 have hs:ee dir b=(aM.zero,12):=by
   unfold ee
   (try simp only[f,i,j,bC,di,hds,reduceIte])
   all_goals rfl
 refine eu hs ?_
 exact d9 (ud o (uz a0 aE) k)
 have hsl:=rF hds
 have hsd:d5 sd:=w9 hr hds
 have aF:=mI (w:=X) (aW.range O) hb (by omega)
 have aI:=aF.mono (A9 hds)
 refine aG (args:=#[.string (strOfNums b)])<|m1 aI fun a1 l=>al 5<|sq<|aB 2<|c0<|bM<|sq<|go<|Pl 1<|?_
 have a2:=aK o l
 rcases hth:bZ sd with _|x
 have aJ:=(nW (w:=a1) hsd (by omega)).mono (wN hth)
 refine aG<|m1 aJ fun bJ a3=>al 5<|sq<|aB 2<|c1<|aA 2<|?_
 refine aN (ub (aK l a3) d) #[vB 0,vW 0,vB 0,vB 0,vW 0,vW 0,vW 0,vW 0,vW 0,vW 0,vW 0,vW 0,vW 0,vW 0,nS,nS,nS,nS,vB 0,vB 0,vB 0,vB 0,vB 0,nS] fun bK aL aQ=>al 1<|bQ<|eA aL (vI 11)<|?_
 have hs:ee dir b=(aM.zero,11):=by
   unfold ee
   (try simp only[f,i,j,bC,di,hds,hth,reduceIte])
   all_goals rfl
 refine eu hs ?_
 exact d9 (ud a2 (uz a3 aQ) k)
 have hxl:=o9 hth
 have aS:=(nW (w:=a1) hsd (by omega)).mono (yy hth)
 refine aG<|fC aS fun Q I bL R bN bO a4=>al 5<|sq<|aB 2<|c0<|bM<|sq<|aA 1<|aG (args:=#[.slice Q x.length I])<|m1 (uD (R).rd) fun aT S=>al 1<|?_
 have F:=aK a4 S
 have T:=aK a2 F
 refine cb ((!(fk x))) (fun p=>?_) (fun p=>?_)
 have J:(fk x)=false:=by simpa using p
 refine aA 1<|?_
 refine aN (ub (aK l F) d) #[vB 0,vW 0,vB 0,vB 0,vW 0,vW 0,vW 0,vW 0,vW 0,vW 0,vW 0,vW 0,vW 0,vW 0,nS,nS,nS,nS,vB 0,vB 0,vB 0,vB 0,vB 0,nS] fun bP aU aV=>al 1<|bQ<|eA aU (vI 10)<|?_
 have hs:ee dir b=(aM.zero,10):=by
   unfold ee
   (try simp only[f,i,j,p,J,bC,di,hds,hth,reduceIte])
   all_goals rfl
 refine eu hs ?_
 exact d9 (ud T aV k)
 have J:(fk x)=true:=by simpa using p
 refine bM<|aA 4<|bD ((x.length:Int)-1)<|xc (tB (P:=Tryz.prog) 27 5 1 Tryz.underlying27 rfl rfl Q x.length I (lo:=1) (up:=((x.length:Int)-1)) 1 ((((x.length:Int)-1)).toNat) (by omega) (by omega) (by omega) (by omega) (by omega)) fun aX hrun79 aY=>L0<|jv (.slice aX (((((x.length:Int)-1)).toNat)-1) (I-1)) (nK (kl:=.i64) (kh:=.i64) (lo:=1) (hi:=((x.length:Int)-1)) (A:=Q) (n:=x.length) (c:=I) rfl Tryz.underlying27 (by kernel_rfl) (by kernel_rfl) (by kernel_rfl) (hrun79 _ _ _))<|?_
 obtain⟨a,G,U⟩ : ∃ M E,db dir ((x.take ((((x.length:Int)-1)).toNat)).drop 1)=(M,E):=⟨_,_,rfl⟩
 have a5:=ak R S (fun x hx=>av) (fun _ _ h=>h)
 have a6:=kS (dir:=dir) (w:=aT) (aY _ _ _ _ _ (a5).rd) (by rw[List.length_drop,List.length_take];omega)
 rw[U] at a6
 refine aG<|e2 a6 fun b0 bR a7 V=>?_
 have b1:=a7
 obtain⟨b2,b3,b4,b5,b7,b9,ba,bb,bc,bd,be,bS⟩:=b1
 obtain rfl:b0=(eG a b2 b3 b4 b5 b7).toArray:=by apply Array.toList_inj.1;simpa using b9
 obtain⟨q,r,rfl,_,_⟩:=ba.shape
 obtain⟨s,t,rfl,_,_⟩:=bb.shape
 obtain⟨u,v,rfl,_,_⟩:=bc.shape
 obtain⟨y,z,rfl,_,_⟩:=bd.shape
 obtain⟨B,C,rfl,_,_⟩:=be.shape
 refine Pl 3<|aO mZ fun a8 bT a9 bg bh=>aN bg (mG a.code a.fail a.addr a.count a.value a.and_ a.or_ a.addr2 a.sub a.status a.events a.messages (.slice q a.words.length r) (.slice s a.bits.length t) (.slice u a.data.length v) (.slice y a.recs.length z) a.mei a.kind a.level a.more a.next (.slice B a.objects.length C)) fun bU bj bl=>al 1<|sq<|aB 2<|?_
 have ab:=ud bh bl a9
 have L:=aK V ab
 have ac:=aK T L
 refine cb ((G != 0)) (fun H=>?_) (fun H=>?_)
 have bm:=aR H
 refine aA 2<|?_
 refine aN (ub (aK l (aK F L)) d) #[vB 0,vW 0,vB 0,vB 0,vW 0,vW 0,vW 0,vW 0,vW 0,vW 0,vW 0,vW 0,vW 0,vW 0,nS,nS,nS,nS,vB 0,vB 0,vB 0,vB 0,vB 0,nS] fun bV bo bp=>al 1<|bQ<|eA bo (vI G)<|?_
 have hX2:db dir (dV x)=(a,G):=(congrArg (db dir) (mE x)).trans U
 have hs:ee dir b=(aM.zero,G):=by
   unfold ee
   (try simp only[f,i,j,p,J,H,bC,di,hds,hth,hX2,reduceIte])
   all_goals rfl
 refine eu hs ?_
 exact d9 (ud ac bp k)
 have bm:=aZ H
 refine bM<|sq<|?_
 have ad:=ak a5 L (fun x hx=>av) (fun _ _ h=>h)
 refine kf (aW.at_ (ad).rd 0 (by omega)) fun bq bs ae bt bX=>Rg 8 (fun w'=>w'.cell? ⟨bq,bs+0,none⟩=some (vB (x.getD 0 0))∧w'.heap[a8]? = some (.cells (mG a.code a.fail a.addr a.count a.value a.and_ a.or_ a.addr2 a.sub a.status a.events a.messages (.slice q a.words.length r) (.slice s a.bits.length t) (.slice u a.data.length v) (.slice y a.recs.length z) a.mei a.kind a.level a.more a.next (.slice B a.objects.length C)) 45 (0,0))) fun bY N=>?_
 have af:=ub N bj
 refine bi ⟨(uc N bt),af⟩ fun D=>Rt 0 D<|yJ 1 D x.length 0 0 rfl ae (by omega)<|Rl 2 D (fun _ hs=>hs.1)<|Rt 3 D<|Rr 4 D (.agg (mG a.code a.fail a.addr a.count a.value a.and_ a.or_ a.addr2 a.sub a.status a.events a.messages (.slice q a.words.length r) (.slice s a.bits.length t) (.slice u a.data.length v) (.slice y a.recs.length z) a.mei a.kind a.level a.more a.next (.slice B a.objects.length C))) (fun w' hs=>ie (g:=a8) (off:=0) [vB a.code,vB a.fail,vW a.addr,vW a.count,vW a.value,vW a.and_,vW a.or_,vW a.addr2,vW a.sub,vW a.status,vW a.events,vW a.messages,.slice q a.words.length r,.slice s a.bits.length t,.slice u a.data.length v,.slice y a.recs.length z,vB a.mei,vB a.kind,vB a.level,vB a.more,vB a.next,.slice B a.objects.length C] rfl (by kernel_rfl) hs.2 (by kernel_rfl) (by kernel_rfl) rfl)<|Rt 5 D<|?_
 refine R0 6 rfl<|rL (ub (aK l (aK F (aK L N))) d) #[vB (x.getD 0 0),vW 0,vB a.code,vB a.fail,vW a.addr,vW a.count,vW a.value,vW a.and_,vW a.or_,vW a.addr2,vW a.sub,vW a.status,vW a.events,vW a.messages,.slice q a.words.length r,.slice s a.bits.length t,.slice u a.data.length v,.slice y a.recs.length z,vB a.mei,vB a.kind,vB a.level,vB a.more,vB a.next,.slice B a.objects.length C] fun c2 bu ah=>?_
 have W:=uz N ah
 refine bi ⟨(cB ((ak ad W (fun x hx=>(aa (fun e=>(az (ag d) l.size R) (e▸hx)) av)) (fun _ _ h=>h))).rd ae 0 (by omega)),(bf ah (Ne.symm (nb (ag d) (le (le (le l.size a4.size) S.size) V.size) a9)) af)⟩ fun bv=>Rt 7 bv<|re<|tn<|rt<|eA bu (vI 0)<|?_
 have hX2:db dir (dV x)=(a,G):=(congrArg (db dir) (mE x)).trans U
 have hs:ee dir b=(⟨(x.getD 0 0),0,a⟩,0):=by
   unfold ee
   (try simp only[f,i,j,p,J,H,bC,di,hds,hth,hX2,reduceIte])
   all_goals rfl
 refine eu hs ?_
 exact⟨_,rfl,⟨#[vB a.code,vB a.fail,vW a.addr,vW a.count,vW a.value,vW a.and_,vW a.or_,vW a.addr2,vW a.sub,vW a.status,vW a.events,vW a.messages,.slice q a.words.length r,.slice s a.bits.length t,.slice u a.data.length v,.slice y a.recs.length z,vB a.mei,vB a.kind,vB a.level,vB a.more,vB a.next,.slice B a.objects.length C],(by as_aux_lemma=>kernel_rfl),(aH.lo (aH.upd a7 (uz ab W) (am (b6 (ub (aK l (aK F V)) d) (by decide)) aP)) T.size),b8 (x:=(x.getD 0 0)) (by omega),cD (x:=0) (by omega)⟩,(ud ac W k)⟩
theorem vh{m:Md}{v:Value}{b:List Int}{w:World}{dir:Int}(h:aW m w v b)(hb:b.length≤1048576) : Calls Tryz.prog 56 #[.int .i64 dir,v] w (oT (ee dir b) w):=by
  obtain⟨A,cp,rfl,_,_⟩:=h.shape
  exact sI h hb
open Go.RowKit
def t6 (u:Int)(l:List Int) : List Int:=([58]++dD (([u]++l)++[dh ([u]++l)]))++[13,10]
def gM (dir u t:Int)(M:b7) : Option (List Int) :=
  match dc dir M with
  | none=>none
  | some l=>if t != 0 then none else some (t6 u l)
def At (res:Option (List Int))(w:World)(e:Ending)(w':World) : Prop :=
  match res with
  | some l=>∃ v,e = .returned (.tuple #[v,.int .i64 0])∧ky w.heap.size w' v l∧ay [] w w'
  | none=>e = .returned (.tuple #[.slice none 0 0,.int .i64 1])∧ay [] w w'
theorem ky.weaken{base base':Nat}{w:World}{v:Value}{xs:List Int}(h:ky base w v xs)(k:base'≤base) : ky base' w v xs:=by
  obtain⟨g,cap,cur,n,h1,h2,h3⟩:=h
  exact⟨g,cap,cur,n,h1,Nat.le_trans k h2,h3⟩
theorem la(b:List Int) : 0≤dh b∧dh b<256:=by unfold dh;omega
theorem nN{m:Md}{cs:Array Value}{M:b7}{w:World}{dir u t:Int}(h:aH m w cs.toList M)(hf:bg M)(hu:B8 u)(ht:eT t) : Calls Tryz.prog 266 #[vI dir,.agg (#[vB u,vW t]++cs)] w (At (gM dir u t M) w):=by
 have hM:=h
 obtain⟨hu1,hu2⟩:=hu
 obtain⟨ht1,ht2⟩:=ht
 refine jl h fun Aw kw Ab kb Ad kd Ar kr Ao ko e hw hbt hd hr ho _ _ _ _ _ _ _ _ _ _ q0 q1 q2 q3 q4 q5 q6 q7 q8 q9 W X Y Z a0 a1 a2=>?_
 subst e
 refine en 39 Tryz.func266 rfl<|sg<|L0<|cX #[vB u,vW t,vB M.code,vB M.fail,vW M.addr,vW M.count,vW M.value,vW M.and_,vW M.or_,vW M.addr2,vW M.sub,vW M.status,vW M.events,vW M.messages,.slice Aw M.words.length kw,.slice Ab M.bits.length kb,.slice Ad M.data.length kd,.slice Ar M.recs.length kr,vB M.mei,vB M.kind,vB M.level,vB M.more,vB M.next,.slice Ao M.objects.length ko] fun a3 a4 a5 o c=>Pl 2<|aU 2<|L0<|Dj o 2 22<|?_
 rcases hwr:dc dir M with _|lw
 have p:=fb (dir:=dir) (aH.old hM c) hf
 rw[hwr] at p
 refine aG<|m1 p fun a6 C=>al 5<|sq<|aB 8<|c1<|aA 2<|nl<|tn<|bQ<|rr (.tuple #[nS,vI 1])<|?_
 exact dQ (y:=none) (by unfold gM;(try simp only[hwr,bC,reduceIte])<;>rfl) ⟨rfl,(aK c C)⟩
 have hlw:=gW hwr
 have q:=fb (dir:=dir) (aH.old hM c) hf
 rw[hwr] at q
 refine aG<|fC q fun a7 a8 a9 D aa ab k=>al 5<|sq<|aA 5<|?_
 have r:=ub k o
 refine L1<|iH r 1<|al 2<|?_
 have s:=aK c k
 refine cb ((t != 0)) (fun d=>?_) (fun d=>?_)
 have E:=aR d
 exact aB 2<|bQ<|rr (.tuple #[nS,vI 1])<|dQ (y:=none) (by unfold gM;(try simp only[hwr,d,bC,reduceIte])<;>rfl) ⟨rfl,s⟩
 have E:=aZ d
 refine bM<|aA 2<|aD r 0<|L0<|dX (m:=1) (e:=5) #[vB u] fun F ac G H f=>?_
 have v:=dZ G (xs:=[u]) (by as_aux_lemma=>kernel_rfl) (ax (by omega) b9) (by(try simp only[List.length_cons,List.length_nil]);omega) H
 refine Pl 1<|?_
 refine L0<|dj bp (xs:=([u])) (ys:=lw) (vB 0) 1 v ((ak D f (fun x hx=>av) (fun _ _ h=>h))).rd (by(try simp only[co,aE]);omega) f.size fun g I ad l n=>Pl 1<|aU 2<|aG (args:=#[.slice g (([u]++lw).length) I])<|m1 (oB (l).rd) fun ae i=>?_
 have af:=la ([u]++lw)
 refine L0<|dX (m:=1) (e:=5) #[vB (dh ([u]++lw))] fun ag ah J K j=>?_
 have L:=dZ J (xs:=[(dh ([u]++lw))]) (by as_aux_lemma=>kernel_rfl) (ax (by omega) b9) (by(try simp only[List.length_cons,List.length_nil]);omega) K
 refine L0<|dj bp (xs:=([u]++lw)) (ys:=([(dh ([u]++lw))])) (vB 0) 1 (ak (ak l i (fun x hx=>av) (fun _ _ h=>h)) j (fun x hx=>av) (fun _ _ h=>h)) (L).rd (by(try simp only[co,aE]);omega) (le (le (le f.size n.size) i.size) j.size) fun N O aj z A=>aG (args:=#[.slice N ((([u]++lw)++[(dh ([u]++lw))]).length) O])<|m1 (ye (z).rd (by simp only[co];omega)) fun am B=>?_
 have P:d5 (dD (([u]++lw)++[(dh ([u]++lw))])):=oh (aW.range (z).rd)
 have Q:d5 ([58]++(dD (([u]++lw)++[(dh ([u]++lw))]))):=kz (by decide) P
 refine L0<|jv (.string (strOfNums ([58]++(dD (([u]++lw)++[(dh ([u]++lw))]))))) (pL (a:=⟨#[58]⟩) (b:=(strOfNums (dD (([u]++lw)++[(dh ([u]++lw))])))) (xs:=([58])) (ys:=(dD (([u]++lw)++[(dh ([u]++lw))]))) rfl (by kernel_rfl) (by kernel_rfl) rfl rfl (by simp only[dM,List.length_append,List.length_cons,List.length_nil];omega))<|?_
 have R:d5 (([58]++(dD (([u]++lw)++[(dh ([u]++lw))])))++[13,10]):=kz Q (by decide)
 refine L0<|jv (.string (strOfNums (([58]++(dD (([u]++lw)++[(dh ([u]++lw))])))++[13,10]))) (pL (a:=(strOfNums ([58]++(dD (([u]++lw)++[(dh ([u]++lw))]))))) (b:=⟨#[13,10]⟩) (xs:=([58]++(dD (([u]++lw)++[(dh ([u]++lw))])))) (ys:=([13,10])) rfl (by kernel_rfl) (by kernel_rfl) rfl rfl (by simp only[dM,List.length_append,List.length_cons,List.length_nil];omega))<|L0<|Fi (xs:=(([58]++(dD (([u]++lw)++[(dh ([u]++lw))])))++[13,10])) Tryz.underlying9 Tryz.underlying27 Tryz.underlying5 R (by simp only[dM,List.length_append,List.length_cons,List.length_nil];omega) fun S T an U V=>al 2<|rt<|rr (.tuple #[.slice S ((([58]++(dD (([u]++lw)++[(dh ([u]++lw))])))++[13,10]).length) T,vI 0])<|?_
 exact dQ (y:=(some (([58]++(dD (([u]++lw)++[(dh ([u]++lw))])))++[13,10]))) (by unfold gM;(try simp only[hwr,d,bC,reduceIte])<;>rfl) ⟨_,rfl,U.weaken (le (le (le (le (le (le (le c.size k.size) f.size) n.size) i.size) j.size) A.size) B.size),(aK s (ut f (ut (ay.mono (S':=(ob (some ⟨F,0,none⟩)++(ob g++[]))) n (ai il aC)) (ut (ay.mono (S':=(ob g++[])) i aC) (ut (ay.mono (S':=(ob g++[])) j aC) (aK A (aK B V)) (ai il aC)) (ai il aC)) (ai il aC)) (ai (aX v lr) (ai (aX l lr) aC))))⟩
open Go.RowKit
theorem lE{m:Md}{v:Value}{b:List Int}{w:World}{dir:Int}{F:aM}{E:Int}(hX:ee dir b=(F,E))(h:aW m w v b)(hb:b.length≤1048576) : Calls Tryz.prog 56 #[.int .i64 dir,v] w (fun e w'=>∃ x,e = .returned (.tuple #[.agg (eo F.unit F.tid F.msg x),.int .i64 E])∧(aH (.hi w.heap.size) w' (jq F.msg x).toList F.msg∧(0≤F.unit∧F.unit<256)∧(0≤F.tid∧F.tid<65536))∧ay [] w w'):=by
  refine(vh h hb).mono ?_
  rintro e w' ⟨cs,rfl,h1,h2⟩
  rw[hX] at h1 ⊢
  obtain⟨c,rfl,h3,h4,h5⟩:=h1
  obtain⟨x,rfl⟩:=p5 h3
  exact⟨x,by rw[fo],⟨h3,h4,h5⟩,h2⟩
theorem rA{m:Md}{x:SL}{M:b7}{w:World}{dir u t:Int}(hX:gM dir u t M=none)(h:aH m w (jq M x).toList M)(hf:bg M)(hu:0≤u∧u<256)(ht:0≤t∧t<65536) : Calls Tryz.prog 266 #[.int .i64 dir,.agg (eo u t M x)] w (fun e w'=>e = .returned (.tuple #[.slice none 0 0,.int .i64 1])∧ay [] w w'):=by
  have:=nN (dir:=dir) h hf hu ht
  rw[hX] at this
  rw[fo]
  exact this
theorem qZ{m:Md}{x:SL}{M:b7}{w:World}{dir u t:Int}{l:List Int}(hX:gM dir u t M=some l)(h:aH m w (jq M x).toList M)(hf:bg M)(hu:0≤u∧u<256)(ht:0≤t∧t<65536) : Calls Tryz.prog 266 #[.int .i64 dir,.agg (eo u t M x)] w (fun e w'=>∃ v,e = .returned (.tuple #[v,.int .i64 0])∧ky w.heap.size w' v l∧ay [] w w'):=by
  have:=nN (dir:=dir) h hf hu ht
  rw[hX] at this
  rw[fo]
  exact this
open Go.RowKit
theorem AE{P:Program}{w:World}{t e:TypeId}{g n c:Nat}{C:Array Value}(ht:P.underlying t=some (.slice e))(he:P.underlying e=some (.int .u8))(hb:w.heap[g]? = some (.cells C e (0,0))) :
    ∃ w2,(convert t t (.slice (some ⟨g,0,none⟩) n c)).run P w = .ok (.slice (some ⟨g,0,none⟩) n c) w2∧w2.heap[g]? = some (.cells C e (C.size,C.size+1))∧ay [g] w w2:=by
  have hsh:w.shape? g=some (e,C.size):=by
    unfold World.shape?
    rw[hb]
  refine⟨w.freeze ⟨g,C.size,none⟩ 1,?_,?_,?_⟩
  · simp[convert,run_underlying ht,run_underlying he,markStringish,hsh]
  · unfold World.freeze
    rw[if_neg (by decide)]
    simp[Array.getElem?_modify,hb]
  · unfold World.freeze
    rw[if_neg (by decide)]
    refine⟨rfl,rfl,rfl,by simp,fun k hk hn=>?_⟩
    have hne:¬ g=k:=fun q=>hn (by rw[q];exact List.mem_singleton.2 rfl)
    simp[Array.getElem?_modify,hne]
theorem zF{w:World}{g:Nat}{C:Array Value}{fr:Nat × Nat}{xs:List Int}(hb:w.heap[g]? = some (.cells C 5 fr))(hC:C=(xs.map (Value.int .u8)).toArray)(hr:∀ x,x∈xs→0≤x∧x<256)(hl:xs.length≤4194304) : aW true w (.slice (some ⟨g,0,none⟩) xs.length xs.length) xs:=by
  refine⟨_,xs.length,rfl,Nat.le_refl _,by unfold maxLen;omega,(fun h=>by cases h),fun _=>⟨g,0,C,_,fr,rfl,hb,(fun _=>⟨rfl,Nat.zero_le _⟩),fun j x hj=>?_⟩⟩
  refine⟨[.int .u8 x],rfl,⟨rfl,hr x (List.mem_of_getElem? hj)⟩,fun i u hi=>?_⟩
  cases i with
  | succ i=>simp at hi
  | zero =>
    have hi:Value.int .u8 x=u:=by simpa using hi
    subst hi
    subst hC
    simp only[Nat.zero_add,Nat.mul_one,Nat.add_zero]
    rw[List.getElem?_toArray,List.getElem?_map,hj]
    rfl
section
variable {P:Program}{n:Nat}{D:List Deferred}{F:Fr}{w:World}{K:Fr→World→Prop}{Q:Exit→Act→World→Prop}{d:Option Tmp}{t:TypeId}{s:String}{af:Array Edge}{gu:Option (Nat × Bool)}
theorem Em{ty e:TypeId}{x:Operand}{g m c:Nat}{C:Array Value}(hb:w.heap[g]? = some (.cells C e (0,0)))(h:∀ w',w'.heap[g]? = some (.cells C e (C.size,C.size+1))→ay [g] w w'→K (pt d (.slice (some ⟨g,0,none⟩) m c) F) w')
    (hx:eg F x=some (.slice (some ⟨g,0,none⟩) m c):=by kernel_rfl) (hs:(pE P ty,P.underlying e,eU n d)=(some e,some (.int .u8),true):=by kernel_rfl) : OG P ⟨d,.convert ty ty x,t,s,af,gu⟩ n D F w K Q:=by
  simp only[Prod.mk.injEq] at hs
  obtain⟨h1,h2,h3⟩:=hs
  obtain⟨w2,hr,hB,hu⟩:=AE (n:=m) (c:=c) (ep h1) h2 hb
  refine⟨fun a ha K' hK=>OW.mk ?_⟩
  have hx':=ha.ev hx
  unfold Oper.wp execOp
  simp only[hx',Sem.run_bind,Sem.run_pure,hr,Result.andThen_ok]
  exact hK _ _ _ (h w2 hB hu) (ha.put h3)
end
open Go.RowKit
structure SA where
  dir:Int
  held:List Int
abbrev Fg (S:SA) (A:Option Addr) (cp:Nat) : Array Value:=#[.int .i64 S.dir,.slice A S.held.length cp]
abbrev Bs (w:World) (g:Nat) (S:SA) (A:Option Addr) (cp:Nat) : Prop:=w.heap[g]? = some (.cells (Fg S A cp) 95 (0,0))
def SA.tail (d:Int)(h:List Int) : SA × List Ev:=if decide (513<((h.length:Nat) : Int))=true then (⟨d,[]⟩,[Ev.bad 3]) else if fL h [13,10]=true then (⟨d,[]⟩,[Ev.mk (ee d h).2 (ee d h).1]) else (⟨d,h⟩,[])
def SA.byte (S:SA)(c:Int) : SA × List Ev:=if ((c==58)&&(decide (0<((S.held.length:Nat) : Int))))=true then (⟨S.dir,[58]⟩,[Ev.bad 12]) else if ((c != 58)&&(((S.held.length:Nat) : Int)==0))=true then (S,[]) else SA.tail S.dir (S.held++[c])
def SA.feed (S:SA)(b:List Int) : SA × List Ev:=b.foldl (fun p c=>((p.1.byte c).1,p.2++(p.1.byte c).2)) (S,[])
def SA.ok (S:SA) : Prop:=(∀ x,x∈S.held→0≤x∧x<256)∧S.held.length≤513
theorem SA.ok_le{S:SA}(h:S.ok) : S.held.length≤513:=h.2
theorem SA.byte_ok{S S2:SA}{c:Int}{L2:List Ev}(h:S.ok)(hc:0≤c∧c<256)(hx:S.byte c=(S2,L2)) : S2.ok∧L2.length≤1:=by
  have h0:∀ d,(SA.mk d []).ok:=fun d=>⟨fun x hx=>(by cases hx),Nat.zero_le _⟩
  unfold SA.byte at hx
  split at hx
  · injection hx with e1 e2
    subst e1 e2
    exact⟨⟨fun x hx=>(by rw[List.mem_singleton] at hx;rw[hx];decide),(by show 1≤513;decide)⟩,Nat.le_refl _⟩
  split at hx
  · injection hx with e1 e2
    subst e1 e2
    exact⟨h,Nat.zero_le _⟩
  unfold SA.tail at hx
  split at hx
  · injection hx with e1 e2
    subst e1 e2
    exact⟨h0 _,Nat.le_refl _⟩
  rename_i hl
  split at hx
  · injection hx with e1 e2
    subst e1 e2
    exact⟨h0 _,Nat.le_refl _⟩
  · injection hx with e1 e2
    subst e1 e2
    refine⟨⟨fun x hx=>?_,?_⟩,Nat.zero_le _⟩
    · rcases List.mem_append.1 hx with k | k
      · exact h.1 x k
      · rw[List.mem_singleton] at k;rw[k];exact hc
    · simp only[decide_eq_true_eq] at hl
      show(S.held++[c]).length≤513
      omega
theorem kB{S0 T T2:SA}{L L2:List Ev}{b:List Int}{k:Nat}(hk:k<b.length)(h:(T,L)=S0.feed (b.take k))(hx:T.byte (b.getD k 0)=(T2,L2)) : (T2,L++L2)=S0.feed (b.take (k+1)):=by
  rw[List.take_succ_eq_append_getElem hk]
  unfold SA.feed at h ⊢
  rw[List.foldl_append,← h]
  rw[List.getD_eq_getElem?_getD,List.getElem?_eq_getElem hk] at hx
  simp only[Option.getD_some] at hx
  simp only[List.foldl_cons,List.foldl_nil,hx]
theorem qD{S0 T T2:SA}{L:List Ev}{b:List Int}{k:Nat}(hk:k<b.length)(h:(T,L)=S0.feed (b.take k))(hx:T.byte (b.getD k 0)=(T2,[])) : (T2,L)=S0.feed (b.take (k+1)):=by
  have:=kB hk h hx
  rwa [List.append_nil] at this
theorem Dg{T:SA}{c:Int}(h:((c==58)&&(decide (0<((T.held.length:Nat) : Int))))=true) : T.byte c=(⟨T.dir,[58]⟩,[Ev.bad 12]):=by unfold SA.byte;rw[if_pos h]
theorem De{T:SA}{c:Int}(h:((c==58)&&(decide (0<((T.held.length:Nat) : Int))))=false)(h2:((c != 58)&&(((T.held.length:Nat) : Int)==0))=true) : T.byte c=(T,[]):=by unfold SA.byte;rw[if_neg (by rw[h];decide),if_pos h2]
theorem DC{T:SA}{c:Int}(h:((c==58)&&(decide (0<((T.held.length:Nat) : Int))))=false)(h2:((c != 58)&&(((T.held.length:Nat) : Int)==0))=false)(h3:decide (513<(((T.held++[c]).length:Nat) : Int))=true) : T.byte c=(⟨T.dir,[]⟩,[Ev.bad 3]):=by unfold SA.byte;rw[if_neg (by rw[h];decide),if_neg (by rw[h2];decide)];unfold SA.tail;rw[if_pos h3]
theorem yh{T:SA}{c:Int}{F:aM}{E:Int}(h:((c==58)&&(decide (0<((T.held.length:Nat) : Int))))=false)(h2:((c != 58)&&(((T.held.length:Nat) : Int)==0))=false)(h3:decide (513<(((T.held++[c]).length:Nat) : Int))=false)(h4:fL (T.held++[c]) [13,10]=true)(hX:ee T.dir (T.held++[c])=(F,E)) : T.byte c=(⟨T.dir,[]⟩,[Ev.mk E F]):=by unfold SA.byte;rw[if_neg (by rw[h];decide),if_neg (by rw[h2];decide)];unfold SA.tail;rw[if_neg (by rw[h3];decide),if_pos h4,hX]
theorem xT{T:SA}{c:Int}(h:((c==58)&&(decide (0<((T.held.length:Nat) : Int))))=false)(h2:((c != 58)&&(((T.held.length:Nat) : Int)==0))=false)(h3:decide (513<(((T.held++[c]).length:Nat) : Int))=false)(h4:fL (T.held++[c]) [13,10]=false) : T.byte c=(⟨T.dir,T.held++[c]⟩,[]):=by unfold SA.byte;rw[if_neg (by rw[h];decide),if_neg (by rw[h2];decide)];unfold SA.tail;rw[if_neg (by rw[h3];decide),if_neg (by rw[h4];decide)]
def Fo (base n0:Nat)(S2:SA)(L:List Ev)(g:Nat)(A:Option Addr)(w:World)(e:Ending)(w':World) : Prop:=∃ v A2 cp2 n2,e = .returned v∧dy n2 w.heap.size w' v L∧Bs w' g S2 A2 cp2∧cG base w' (.slice A2 S2.held.length cp2) S2.held∧(∀ x,x∈ob A2→x∈ob A∨w.heap.size≤x)∧(n0≤n2∧n2≤w'.heap.size)∧(∀ x,x∈ob A2→n2≤x)∧ay (g :: (ob A++[])) w w'
theorem kT{b:List Int}(h:∀ x,x∈b→0≤x∧x<256)(k:Nat) : 0≤b.getD k 0∧b.getD k 0<256:=by
  rw[List.getD_eq_getElem?_getD]
  cases hj:b[k]? with
  | none=>simp
  | some x=>exact h x (List.mem_of_getElem? hj)
theorem vY{w:World}:Calls Tryz.prog 21 #[vI 0] w (fun e w'=>∃ g,e = .returned (vP g 0)∧w.heap.size≤g∧Bs w' g ⟨0,[]⟩ none 0∧ay [] w w'):=by
 exact en 12 Tryz.func21 rfl<|aB 1<|sq<|aB 6<|c0<|sk<|tn<|aA 2<|L0<|cX #[vI 0,nS] fun a f b c d=>al 1<|rt<|rr (vP a 0)<|⟨a,rfl,b,c,d⟩
theorem vk{w:World}:Calls Tryz.prog 21 #[vI 1] w (fun e w'=>∃ g,e = .returned (vP g 0)∧w.heap.size≤g∧Bs w' g ⟨1,[]⟩ none 0∧ay [] w w'):=by
 exact en 12 Tryz.func21 rfl<|aB 1<|sq<|aB 6<|c0<|sk<|tn<|aA 2<|L0<|cX #[vI 1,nS] fun a f b c d=>al 1<|rt<|rr (vP a 0)<|⟨a,rfl,b,c,d⟩
theorem s7{w:World}{g base:Nat}{S:SA}{A:Option Addr}{cp:Nat}{m:Md}{B:Option Addr}{cpb:Nat}{b:List Int}(hb:Bs w g S A cp)(ho:cG base w (.slice A S.held.length cp) S.held)(hbs:base≤w.heap.size)(hok0:S.ok){n0:Nat}(hn0:n0≤w.heap.size)(hlo:∀ x,x∈ob A→n0≤x)(hsl:aW m w (.slice B b.length cpb) b)(hdg:0<b.length→∀ x,x∈ob B→x≠g)(hda:lU b.length B (ob A))(hbl:b.length≤1048576) :
    Calls Tryz.prog 22 #[vP g 0,.slice B b.length cpb] w (Fo base n0 (S.feed b).1 (S.feed b).2 g A w):=by
 have hdl:=aT.low hsl
 have hok0l:=SA.ok_le hok0
 have hrb:=aW.range hsl
 refine en 98 Tryz.func22 rfl<|aB 1<|F3<|aB 1<|sq<|F6<|tn<|sq<|aB 3<|bk<|?_
 refine jZ (fun x=>[(0,vP g 0),(4,nS),(5,.slice x.2.2.2.2.2.1 x.2.2.1.length x.2.2.2.2.2.2.1),(10,.slice B b.length cpb),(11,vI (b.length:Int)),(12,vI (x.1:Int))]) (fun(x:Nat × SA × List Ev × Option Addr × Nat × Option Addr × Nat × Nat) w'=>ay (g :: (ob A++[])) w w'∧Bs w' g x.2.1 x.2.2.2.1 x.2.2.2.2.1∧cG base w' (.slice x.2.2.2.1 x.2.1.held.length x.2.2.2.2.1) x.2.1.held∧dy x.2.2.2.2.2.2.2 w.heap.size w' (.slice x.2.2.2.2.2.1 x.2.2.1.length x.2.2.2.2.2.2.1) x.2.2.1∧x.2.2.2.2.2.2.2≤w'.heap.size∧aW m w' (.slice B b.length cpb) b∧((x.2.1,x.2.2.1)=S.feed (b.take x.1))∧(x.2.1.ok)∧(x.2.1.held.length≤513)∧(x.1≤b.length)∧(x.2.2.1.length≤x.1)∧(∀ y,y∈ob x.2.2.2.1→y∈ob A∨w.heap.size≤y)∧(n0≤x.2.2.2.2.2.2.2)∧(∀ y,y∈ob x.2.2.2.1→x.2.2.2.2.2.2.2≤y)) (fun x=>b.length-x.1) (0,S,[],A,cp,none,0,n0) ⟨ay.refl _ _,hb,ho,(aQ.nil w.heap.size _ _ (bq w.heap.size n0) _),(Nat.le_trans hn0 lr),hsl,rfl,hok0,hok0l,(by(try dsimp only);exact Nat.zero_le _),(by(try dsimp only);exact Nat.zero_le _),kv,(by(try dsimp only);exact Nat.le_refl _),hlo⟩ ?_
 rintro⟨k,T,L,Ah,ch,Bq,cq,n⟩ M ⟨d,c8,c9,ca,cc,cd,cf,cg,ci,cj,ck,cl,cm,cn⟩
 refine iW [(0,vP g 0),(4,nS),(5,.slice Bq L.length cq),(10,.slice B b.length cpb),(11,vI (b.length:Int)),(12,vI (k:Int))] ?_
 have f:Bs M g T Ah ch:=c8
 have t:cG base M (.slice Ah T.held.length ch) T.held:=c9
 have a:dy n w.heap.size M (.slice Bq L.length cq) L:=ca
 have cr:n≤M.heap.size:=cc
 have hnl:=cr
 have D:aW m M (.slice B b.length cpb) b:=cd
 have ct:(T,L)=S.feed (b.take k):=cf
 have cu:T.ok:=cg
 have dM:T.held.length≤513:=ci
 have dN:k≤b.length:=cj
 have dO:L.length≤k:=ck
 have cw:∀ y,y∈ob Ah→y∈ob A∨w.heap.size≤y:=cl
 have cx:n0≤n:=cm
 have cy:∀ y,y∈ob Ah→n≤y:=cn
 have hlow:=cy
 have hn0l:=cx
 have hat0:=cw
 have hok:=cu
 have hpj:=ct
 have hle:=SA.ok_le hok
 refine aB 1<|sq<|cb ((decide ((k:Int)<(b.length:Int)))) (fun ab=>?_) (fun ab=>?_)
 have cz:=of_decide_eq_true ab
 refine bM<|sq<|bk<|sg<|kf (aW.at_ D k (by omega)) fun cB cC cD cE dQ=>L0<|lW b.length k cD (by omega)<|L0<|jO (p:=⟨cB,cC+k,none⟩) (v:=vB (b.getD k 0)) cE<|al 1<|sq<|bk<|aA 3<|ij 7 [19] 26 19 ((b.getD k 0)==58) (decide (0<(T.held.length:Int))) (fun K cF cH=>?_) ?_
 have dR:=aI cH
 exact Pl 3<|L1<|iH f 1<|Pl 3<|ce cF _ rfl
 refine al 1<|cb ((((b.getD k 0)==58)&&(decide (0<(T.held.length:Int))))) (fun r=>?_) (fun r=>?_)
 have cI:=(bW r).1
 have cJ:=(bW r).2
 have dS:=aI cI
 have dT:=of_decide_eq_true cJ
 refine aA 2<|L0<|dX (m:=1) (e:=87) #[vI 12,vB 0,vW 0,vB 0,vB 0,vW 0,vW 0,vW 0,vW 0,vW 0,vW 0,vW 0,vW 0,vW 0,vW 0,nS,nS,nS,nS,vB 0,vB 0,vB 0,vB 0,vB 0,nS] fun dU ad cK cL l=>?_
 have cN:=oO (m:=.hi w.heap.size) (w0:=M) (x:=(Ev.bad 12)) cK cL ⟨⟨none,0,none,0,none,0,none,0,none,0⟩,by kernel_rfl,oG,(show(0:Int)≤0∧(0:Int)<256 from by decide),(show(0:Int)≤0∧(0:Int)<65536 from by decide)⟩
 have bb:=ak a l (fun x hx=>av) (fun x cs q=>bq.upd l cv q)
 have cO:n≤ad.heap.size:=Nat.le_trans hnl l.size
 refine L0<|ku (R:=bq w.heap.size ad.heap.size) (xs:=L) (ys:=([Ev.bad 12])) (.agg #[vI 0,vB 0,vW 0,vB 0,vB 0,vW 0,vW 0,vW 0,vW 0,vW 0,vW 0,vW 0,vW 0,vW 0,vW 0,nS,nS,nS,nS,vB 0,vB 0,vB 0,vB 0,vB 0,nS]) 25 168 (dy.up cO (Nat.le_refl _) bb) (tk cN).rd bq.ones (fun w' hv x cs q=>bq.upd hv (lB bb (by decide) cv) q) (by(try simp only[co,aE]);omega) (le d.size l.size) fun cP cQ dV bc E dW=>Pl 1<|aU 1<|L0<|dX (m:=1) (e:=5) #[vB 58] fun bd dY cR cS af=>?_
 have V:=dZ cR (xs:=[58]) (by as_aux_lemma=>kernel_rfl) (ax (by omega) b9) (by(try simp only[List.length_cons,List.length_nil]);omega) cS
 refine Pl 2<|?_
 have be:=ut (ay.mono (S':=(ob Bq++[])) l aC) (aK E af) (ai il aC)
 refine L0<|cA (ay.blk be (aq (az (ag hb) lr a) av) f) 1 #[vI T.dir,.slice (some ⟨bd,0,none⟩) 1 1] fun e0 cT W=>nt<|xt<|DJ<|tx<|bx<|tn<|go<|bD ((k:Int)+1)<|Pl 1<|nl<|?_
 have bg:=u1 (ay.mono (S':=(ob Bq++(g :: []))) be (ai il aC)) W im
 have bh:=uz af W
 have bj:=Dg (T:=T) (c:=(b.getD k 0)) r
 have bl:=SA.byte_ok hok (kT hrb k) bj
 exact fD ((k+1),(SA.mk T.dir [58]),(L++[Ev.bad 12]),some ⟨bd,0,none⟩,1,cP,cQ,ad.heap.size) ⟨(ut d bg (ai (aX a lr) (ac im aC))),cT,(yr (Nat.le_trans hbs (le (le d.size l.size) E.size)) (ak V W (fun x hx=>(aa (fun e=>(az (ag hb) (le (le d.size l.size) E.size) V) (e▸hx)) av)) (fun _ _ h=>h))),(ak bc bh (fun x hx=>(aa (fun e=>(az (ag hb) lr bc) (e▸hx)) av)) (fun x cs q=>bq.upd bh (fR (ay.blk (ut (ay.mono (S':=(ob Bq++[])) l aC) E (ai il aC)) (aq (az (ag hb) lr a) av) f) (by decide) cv) q)),(le (le E.size af.size) W.size),(aW.far D bg (dG (gG hdl a (Nat.le_refl _)) (el hdg fe))),(by(try dsimp only);exact kB (by omega) hpj bj),(by(try dsimp only);exact bl.1),(by(try dsimp only);have q:=SA.ok_le bl.1;exact q),(by(try dsimp only);omega),(by(try dsimp only);(try simp only[co]);omega),(by(try dsimp only);exact(Ae V (le (le d.size l.size) E.size))),(by(try dsimp only);exact Nat.le_trans hn0l (Nat.le_trans hnl l.size)),(by(try dsimp only);exact(B7 V E.size))⟩ (by omega)
 refine aA 3<|ij 7 [38] 45 38 ((b.getD k 0)!=58) ((T.held.length:Int)==0) (fun K cU cV=>?_) ?_
 have e1:=aR cV
 exact Pl 3<|L1<|iH f 1<|Pl 3<|ce cU _ rfl
 refine al 1<|cb ((((b.getD k 0)!=58)&&((T.held.length:Int)==0))) (fun u=>?_) (fun u=>?_)
 have cW:=(bW u).1
 have cX:=(bW u).2
 have e3:=aR cW
 have e4:=aI cX
 refine xt<|DJ<|tx<|bx<|tn<|go<|bD ((k:Int)+1)<|Pl 1<|nl<|?_
 have bm:=De (T:=T) (c:=(b.getD k 0)) r u
 have bo:=SA.byte_ok hok (kT hrb k) bm
 exact fD ((k+1),T,L,Ah,ch,Bq,cq,n) ⟨d,f,t,a,(Nat.le_trans hnl lr),D,(by(try dsimp only);exact qD (by omega) hpj bm),(by(try dsimp only);exact bo.1),(by(try dsimp only);have q:=SA.ok_le bo.1;exact q),(by(try dsimp only);omega),(by(try dsimp only);(try simp only[co]);omega),(by(try dsimp only);exact hat0),(by(try dsimp only);exact hn0l),(by(try dsimp only);exact hlow)⟩ (by omega)
 refine sk<|bn<|tn<|aA 4<|aD f 1<|Pl 1<|L0<|dX (m:=1) (e:=5) #[vB (b.getD k 0)] fun e5 e6 cY cZ i=>?_
 have d0:=dZ cY (xs:=[(b.getD k 0)]) (by as_aux_lemma=>kernel_rfl) (ax (by omega) b9) (by(try simp only[List.length_cons,List.length_nil]);omega) cZ
 refine L0<|ku (R:=lf) (xs:=T.held) (ys:=([(b.getD k 0)])) (vB 0) 1 1 (ak t i (fun x hx=>av) (fun _ _ h=>h)) (d0).rd lO (fun _ _ _ _ h=>h) (by(try simp only[co,aE]);omega) (Nat.le_trans hbs (le d.size i.size)) fun X Y e7 bp z br=>Pl 2<|?_
 have bs:=ut (ay.mono (S':=(ob Ah++[])) i aC) z (ai il aC)
 have bt:=ay.blk bs (aq (aJ f t (by decide)) av) f
 refine L0<|cA bt 1 #[vI T.dir,.slice X ((T.held++[(b.getD k 0)]).length) Y] fun d1 O s=>nt<|sq<|bk<|aA 3<|aD O 1<|al 3<|?_
 have N:=u1 (ay.mono (S':=(ob Ah++(g :: []))) bs (ai il aC)) s im
 have bu:=ut d N (ai (lM hat0 il lr) (ac im aC))
 refine cb ((decide (513<((T.held++[(b.getD k 0)]).length:Int)))) (fun F=>?_) (fun F=>?_)
 have d2:=of_decide_eq_true F
 refine go<|Pl 2<|L0<|dX (m:=1) (e:=87) #[vI 3,vB 0,vW 0,vB 0,vB 0,vW 0,vW 0,vW 0,vW 0,vW 0,vW 0,vW 0,vW 0,vW 0,vW 0,nS,nS,nS,nS,vB 0,vB 0,vB 0,vB 0,vB 0,nS] fun e8 ah d3 d4 aj=>?_
 have d5:=oO (m:=.hi w.heap.size) (w0:=d1) (x:=(Ev.bad 3)) d3 d4 ⟨⟨none,0,none,0,none,0,none,0,none,0⟩,by kernel_rfl,oG,(show(0:Int)≤0∧(0:Int)<256 from by decide),(show(0:Int)≤0∧(0:Int)<65536 from by decide)⟩
 have Z:=aK N aj
 have bv:=ak a Z (fun x hx=>(aq ((dP a t (by decide)) x hx) (aa (fun e=>(az (ag hb) lr a) (e▸hx)) av))) (fun x cs q=>bq.upd Z (jp hlow (fR f (by decide) cv)) q)
 have d6:n≤ah.heap.size:=Nat.le_trans hnl Z.size
 refine L0<|ku (R:=bq w.heap.size ah.heap.size) (xs:=L) (ys:=([Ev.bad 3])) (.agg #[vI 0,vB 0,vW 0,vB 0,vB 0,vW 0,vW 0,vW 0,vW 0,vW 0,vW 0,vW 0,vW 0,vW 0,vW 0,nS,nS,nS,nS,vB 0,vB 0,vB 0,vB 0,vB 0,nS]) 25 168 (dy.up d6 (Nat.le_refl _) bv) (tk d5).rd bq.ones (fun w' hv x cs q=>bq.upd hv (lB bv (by decide) cv) q) (by(try simp only[co,aE]);omega) (le (le (le (le d.size i.size) z.size) s.size) aj.size) fun d7 d9 e9 bw bz ea=>Pl 1<|nl<|bn<|tn<|go<|Pl 3<|?_
 have bA:=ut (ay.mono (S':=(ob Bq++[])) aj aC) bz (ai il aC)
 have bB:=ay.blk bA (aq (az (ag hb) lr a) av) O
 refine L0<|cA bB 1 #[vI T.dir,nS] fun eb da a0=>nl<|bn<|tn<|go<|bD ((k:Int)+1)<|Pl 1<|nl<|?_
 have bC:=u1 (ay.mono (S':=(ob Bq++(g :: []))) bA (ai il aC)) a0 im
 have bE:=DC (T:=T) (c:=(b.getD k 0)) r u F
 have bF:=SA.byte_ok hok (kT hrb k) bE
 exact fD ((k+1),(SA.mk T.dir []),(L++[Ev.bad 3]),none,0,d7,d9,ah.heap.size) ⟨(ut bu bC (ai (aX a lr) (ac im aC))),da,(aQ.nil base _ _ lf _),(ak bw a0 (fun x hx=>(aa (fun e=>(az (ag hb) lr bw) (e▸hx)) av)) (fun x cs q=>bq.upd a0 (fR bB (by decide) cv) q)),(le bz.size a0.size),(aW.far D (ut (ay.mono (S':=(ob Ah++(g :: (ob Bq++[])))) N (ai il (ac im aC))) bC (ai il (ac im aC))) (dG (gF hda hdl hat0) (el hdg (dG (gG hdl a (Nat.le_refl _)) fe)))),(by(try dsimp only);exact kB (by omega) hpj bE),(by(try dsimp only);exact bF.1),(by(try dsimp only);have q:=SA.ok_le bF.1;exact q),(by(try dsimp only);omega),(by(try dsimp only);(try simp only[co]);omega),(by(try dsimp only);exact eK),(by(try dsimp only);exact Nat.le_trans hn0l (Nat.le_trans hnl Z.size)),(by(try dsimp only);exact d8)⟩ (by omega)
 have d2:=of_decide_eq_false F
 refine aA 3<|aD O 1<|L0<|dX (m:=2) (e:=5) #[vB 13,vB 10] fun db ec bG bH G=>?_
 have ed:=dZ bG (xs:=[13,10]) (by as_aux_lemma=>kernel_rfl) (ax (by omega) (ax (by omega) b9)) (by(try simp only[List.length_cons,List.length_nil]);omega) bH
 refine L0<|Em (m:=2) (c:=2) bH fun ef dc H=>?_
 have dd:=zF dc (xs:=[13,10]) (by as_aux_lemma=>kernel_rfl) (ax (by omega) (ax (by omega) b9)) (by(try simp only[List.length_cons,List.length_nil]);omega)
 have bI:=ud G H bG
 have a1:=ak bp (aK s bI) (fun x hx=>(aa (fun e=>(aJ bt bp (by decide)) (e▸hx)) av)) (fun _ _ h=>h)
 refine aG (args:=#[.slice X ((T.held++[(b.getD k 0)]).length) Y,.slice (some ⟨db,0,none⟩) 2 2])<|m1 (Bl (xs:=(T.held++[(b.getD k 0)])) (ys:=[13,10]) (a1).rd dd) fun eg o=>al 1<|?_
 have a2:=aK bI o
 have an:=aK bu a2
 refine cb ((fL (T.held++[(b.getD k 0)]) ([13,10]))) (fun a3=>?_) (fun a3=>?_)
 refine sq<|Rg 15 (fun w'=>w'.cell? ⟨g,0,none⟩=some (vI T.dir)∧w'.cell? ⟨g,1,none⟩=some (.slice X ((T.held++[(b.getD k 0)]).length) Y)) fun eh j=>?_
 have ao:=aK a2 j
 have a4:=ub ao O
 refine bi ⟨(ae a4 rfl),(ae a4 rfl)⟩ fun C=>Rt 0 C<|Rt 1 C<|Rt 2 C<|Rl 3 C (fun _ hs=>hs.1)<|Rt 4 C<|Rt 5 C<|Rt 6 C<|Rl 7 C (fun _ hs=>hs.2)<|R2 8 12 rfl rfl ?_ ?_
 refine pr (ee T.dir (T.held++[(b.getD k 0)])) fun I a5 bJ=>?_
 refine  Oc<|e2 (lE bJ ((ak a1 (aK o j) (fun x hx=>av) (fun _ _ h=>h))).rd (by simp only[co,List.length_replicate];omega)) fun ap ei de a6=>?_
 obtain⟨df,dg,dh⟩:=de
 have ar:=ub a6 a4
 refine bi ⟨(ae ar rfl),(ae ar rfl)⟩ fun au=>Rt 9 au<|Rt 10 au<|Rt 11 au<|R0 12 rfl<|Bv #[vB 0,vW 0,vB 0,vB 0,vW 0,vW 0,vW 0,vW 0,vW 0,vW 0,vW 0,vW 0,vW 0,vW 0,nS,nS,nS,nS,vB 0,vB 0,vB 0,vB 0,vB 0,nS] fun ej ek bK di aw=>?_
 have aF:=ub aw ar
 refine bi ⟨(ae aF rfl),(ae aF rfl)⟩ fun em=>R0 13 rfl<|rL di (eo I.unit I.tid I.msg ap) fun dj dk aL=>?_
 have aM:=bf aL (nb (ag hb) (le (le (le (le (le (le (le (le d.size i.size) z.size) s.size) G.size) H.size) o.size) j.size) a6.size) bK) aF
 refine bi ⟨(ae aM rfl),(ae aM rfl)⟩ fun dl=>Rt 14 dl<|re<|tn<|go<|Pl 2<|L0<|cM dk<|Pl 1<|L0<|dX (m:=1) (e:=87) (xV ⟨a5,I⟩ ap) fun ep aN dm dn aO=>?_
 have bL:=ud aw (aK aL aO) bK
 have dp:=oO (m:=.hi w.heap.size) (w0:=dj) (x:=(Ev.mk a5 I)) dm dn ⟨ap,rfl,(aH.lo (aH.upd df bL aP) (le (le (le (le (le (le (le d.size i.size) z.size) s.size) G.size) H.size) o.size) j.size)),dg,dh⟩
 have bN:=aK a6 bL
 have P:=aK N (aK ao bN)
 have bO:=ak a P (fun x hx=>(aq ((dP a t (by decide)) x hx) (aa (fun e=>(az (ag hb) lr a) (e▸hx)) av))) (fun x cs q=>bq.upd P (jp hlow (fR f (by decide) cv)) q)
 have dq:n≤aN.heap.size:=Nat.le_trans hnl P.size
 refine L0<|ku (R:=bq w.heap.size aN.heap.size) (xs:=L) (ys:=([Ev.mk a5 I])) (.agg #[vI 0,vB 0,vW 0,vB 0,vB 0,vW 0,vW 0,vW 0,vW 0,vW 0,vW 0,vW 0,vW 0,vW 0,vW 0,nS,nS,nS,nS,vB 0,vB 0,vB 0,vB 0,vB 0,nS]) 25 168 (dy.up dq (Nat.le_refl _) bO) (tk dp).rd bq.ones (fun w' hv x cs q=>bq.upd hv (lB bO (by decide) cv) q) (by(try simp only[co,aE]);omega) (le (le (le (le (le (le (le (le (le (le (le d.size i.size) z.size) s.size) G.size) H.size) o.size) j.size) a6.size) aw.size) aL.size) aO.size) fun dr ds eq bP bQ er=>Pl 1<|nl<|bn<|tn<|go<|Pl 3<|?_
 have bR:=ay.blk (ut (ay.mono (S':=(ob Bq++[])) aO aC) bQ (ai il aC)) (aq (az (ag hb) lr a) av) aM
 refine L0<|cA bR 1 #[vI T.dir,nS] fun es dt aS=>nl<|bn<|tn<|go<|bD ((k:Int)+1)<|Pl 1<|nl<|?_
 have aV:=u1 (ay.mono (S':=(ob Bq++(g :: []))) bQ (ai il aC)) aS im
 have bS:=yh (T:=T) (c:=(b.getD k 0)) r u F a3 bJ
 have bT:=SA.byte_ok hok (kT hrb k) bS
 exact fD ((k+1),(SA.mk T.dir []),(L++[Ev.mk a5 I]),none,0,dr,ds,aN.heap.size) ⟨(ut an (ut (ay.mono (S':=(ob Bq++(g :: []))) j aC) (ut (ay.mono (S':=(ob Bq++(g :: []))) bN aC) aV (ai il (ac im aC))) (ai il (ac im aC))) (ai (aX a lr) (ac im aC))),dt,(aQ.nil base _ _ lf _),(ak bP aS (fun x hx=>(aa (fun e=>(az (ag hb) lr bP) (e▸hx)) av)) (fun x cs q=>bq.upd aS (fR bR (by decide) cv) q)),aV.size,(aW.far D (ut (ay.mono (S':=(ob Ah++(g :: (ob Bq++[])))) P (ai il (ac im aC))) aV (ai il (ac im aC))) (dG (gF hda hdl hat0) (el hdg (dG (gG hdl a (Nat.le_refl _)) fe)))),(by(try dsimp only);exact kB (by omega) hpj bS),(by(try dsimp only);exact bT.1),(by(try dsimp only);have q:=SA.ok_le bT.1;exact q),(by(try dsimp only);omega),(by(try dsimp only);(try simp only[co]);omega),(by(try dsimp only);exact eK),(by(try dsimp only);exact Nat.le_trans hn0l (Nat.le_trans hnl P.size)),(by(try dsimp only);exact d8)⟩ (by omega)
 refine  Bv #[vB 0,vW 0,vB 0,vB 0,vW 0,vW 0,vW 0,vW 0,vW 0,vW 0,vW 0,vW 0,vW 0,vW 0,nS,nS,nS,nS,vB 0,vB 0,vB 0,vB 0,vB 0,nS] fun du et aY dv Q=>?_
 have aZ:=ub Q a4
 refine bi ⟨(ae aZ rfl),(ae aZ rfl)⟩ fun eu=>?_
 have bU:=aK j Q
 refine pr (ee T.dir (T.held++[(b.getD k 0)])) fun J a7 bV=>?_
 refine R0 8 rfl<|Oc<|e2 (lE bV ((ak a1 (aK o bU) (fun x hx=>av) (fun _ _ h=>h))).rd (by simp only[co,List.length_replicate];omega)) fun b0 ev dw a8=>?_
 obtain⟨dx,dz,dA⟩:=dw
 have b1:=ub a8 aZ
 refine bi ⟨(ae b1 rfl),(ae b1 rfl)⟩ fun b2=>Rt 9 b2<|Rt 10 b2<|Rt 11 b2<|?_
 have bX:=ub a8 dv
 refine R0 13 rfl<|rL bX (eo J.unit J.tid J.msg b0) fun dB dC b3=>?_
 have b4:=bf b3 (nb (ag hb) (le (le (le (le (le (le (le d.size i.size) z.size) s.size) G.size) H.size) o.size) j.size) aY) b1
 refine bi ⟨(ae b4 rfl),(ae b4 rfl)⟩ fun dD=>Rt 14 dD<|re<|tn<|go<|Pl 2<|L0<|cM dC<|Pl 1<|L0<|dX (m:=1) (e:=87) (xV ⟨a7,J⟩ b0) fun ew b5 dE dF b7=>?_
 have bY:=aK b3 b7
 have dH:=oO (m:=.hi w.heap.size) (w0:=dB) (x:=(Ev.mk a7 J)) dE dF ⟨b0,rfl,(aH.lo (aH.upd dx bY (am (b6 bX (by decide)) aP)) (le (le (le (le (le (le (le (le d.size i.size) z.size) s.size) G.size) H.size) o.size) j.size) Q.size)),dz,dA⟩
 have bZ:=uz a8 bY
 have U:=aK N (aK ao (ud Q bZ aY))
 have c0:=ak a U (fun x hx=>(aq ((dP a t (by decide)) x hx) (aa (fun e=>(az (ag hb) lr a) (e▸hx)) av))) (fun x cs q=>bq.upd U (jp hlow (fR f (by decide) cv)) q)
 have dI:n≤b5.heap.size:=Nat.le_trans hnl U.size
 refine L0<|ku (R:=bq w.heap.size b5.heap.size) (xs:=L) (ys:=([Ev.mk a7 J])) (.agg #[vI 0,vB 0,vW 0,vB 0,vB 0,vW 0,vW 0,vW 0,vW 0,vW 0,vW 0,vW 0,vW 0,vW 0,vW 0,nS,nS,nS,nS,vB 0,vB 0,vB 0,vB 0,vB 0,nS]) 25 168 (dy.up dI (Nat.le_refl _) c0) (tk dH).rd bq.ones (fun w' hv x cs q=>bq.upd hv (lB c0 (by decide) cv) q) (by(try simp only[co,aE]);omega) (le (le (le (le (le (le (le (le (le (le (le d.size i.size) z.size) s.size) G.size) H.size) o.size) j.size) Q.size) a8.size) b3.size) b7.size) fun dJ dK ex c1 c2 ey=>Pl 1<|nl<|bn<|tn<|go<|Pl 3<|?_
 have c3:=ay.blk (ut (ay.mono (S':=(ob Bq++[])) b7 aC) c2 (ai il aC)) (aq (az (ag hb) lr a) av) b4
 refine L0<|cA c3 1 #[vI T.dir,nS] fun ez dL b8=>nl<|bn<|tn<|go<|bD ((k:Int)+1)<|Pl 1<|nl<|?_
 have ba:=u1 (ay.mono (S':=(ob Bq++(g :: []))) c2 (ai il aC)) b8 im
 have c4:=yh (T:=T) (c:=(b.getD k 0)) r u F a3 bV
 have c5:=SA.byte_ok hok (kT hrb k) c4
 exact fD ((k+1),(SA.mk T.dir []),(L++[Ev.mk a7 J]),none,0,dJ,dK,b5.heap.size) ⟨(ut an (ut (ay.mono (S':=(ob Bq++(g :: []))) bU aC) (ut (ay.mono (S':=(du :: (ob Bq++(g :: [])))) bZ (ac im aC)) ba (ai il (ac im aC))) (ac (ni j.size aY) (ai il (ac im aC)))) (ai (aX a lr) (ac im aC))),dL,(aQ.nil base _ _ lf _),(ak c1 b8 (fun x hx=>(aa (fun e=>(az (ag hb) lr c1) (e▸hx)) av)) (fun x cs q=>bq.upd b8 (fR c3 (by decide) cv) q)),ba.size,(aW.far D (ut (ay.mono (S':=(ob Ah++(g :: (ob Bq++[])))) U (ai il (ac im aC))) ba (ai il (ac im aC))) (dG (gF hda hdl hat0) (el hdg (dG (gG hdl a (Nat.le_refl _)) fe)))),(by(try dsimp only);exact kB (by omega) hpj c4),(by(try dsimp only);exact c5.1),(by(try dsimp only);have q:=SA.ok_le c5.1;exact q),(by(try dsimp only);omega),(by(try dsimp only);(try simp only[co]);omega),(by(try dsimp only);exact eK),(by(try dsimp only);exact Nat.le_trans hn0l (Nat.le_trans hnl U.size)),(by(try dsimp only);exact d8)⟩ (by omega)
 refine xt<|DJ<|tx<|bx<|tn<|go<|bD ((k:Int)+1)<|Pl 1<|nl<|?_
 have a9:=aK N a2
 have c6:=xT (T:=T) (c:=(b.getD k 0)) r u F a3
 have c7:=SA.byte_ok hok (kT hrb k) c6
 exact fD ((k+1),(SA.mk T.dir (T.held++[(b.getD k 0)])),L,X,Y,Bq,cq,n) ⟨an,(ub a2 O),(ak a1 o (fun x hx=>av) (fun _ _ h=>h)),(ak a a9 (fun x hx=>(aq ((dP a t (by decide)) x hx) (aa (fun e=>(az (ag hb) lr a) (e▸hx)) av))) (fun x cs q=>bq.upd a9 (jp hlow (fR f (by decide) cv)) q)),(Nat.le_trans hnl a9.size),(aW.far D a9 (dG (gF hda hdl hat0) (el hdg fe))),(by(try dsimp only);exact qD (by omega) hpj c6),(by(try dsimp only);exact c7.1),(by(try dsimp only);have q:=SA.ok_le c7.1;exact q),(by(try dsimp only);omega),(by(try dsimp only);(try simp only[co]);omega),(by(try dsimp only);exact(ld br hat0 (le d.size i.size))),(by(try dsimp only);exact hn0l),(by(try dsimp only);exact(tD br hlow (Nat.le_trans hnl i.size)))⟩ (by omega)
 have cz:=of_decide_eq_false ab
 refine xt<|tx<|tx<|bx<|tn<|aB 2<|rt<|gr<|rr (.slice Bq L.length cq)<|?_
 have hs:S.feed b=(T,L):=by rw[hpj,List.take_of_length_le (by omega)]
 rw[hs]
 exact⟨_,Ah,ch,n,rfl,a,f,t,hat0,⟨hn0l,Nat.le_trans hnl lr⟩,hlow,d⟩
open Go.RowKit
def dn (n base:Nat)(w:World)(g:Nat)(A:Option Addr)(cp:Nat)(S:SA) : Prop:=Bs w g S A cp∧cG base w (.slice A S.held.length cp) S.held∧S.ok∧n≤w.heap.size∧(∀ x,x∈ob A→n≤x)∧base≤w.heap.size
section
variable {n base g cp:Nat}{w w':World}{A:Option Addr}{S:SA}{X:List Nat}
theorem dn.row(h:dn n base w g A cp S) : cG base w (.slice A S.held.length cp) S.held:=h.2.1
theorem dn.low(h:dn n base w g A cp S) : ∀ x,x∈ob A→n≤x:=h.2.2.2.2.1
theorem dn.nle(h:dn n base w g A cp S) : n≤w.heap.size:=h.2.2.2.1
theorem dn.le(h:dn n base w g A cp S) : S.held.length≤513:=SA.ok_le h.2.2.1
theorem dn.lt(h:dn n base w g A cp S) : g<w.heap.size:=ag h.1
theorem dn.cells(h:dn n base w g A cp S) : ∃ cs fr,w.heap[g]? = some (.cells cs 95 fr):=⟨_,_,h.1⟩
theorem dn.upd(h:dn n base w g A cp S)(hu:ay X w w')(hg:g∉X)(hr:∀ x,x∈ob A→x∉X) : dn n base w' g A cp S :=
  ⟨hu.blk hg h.1,ak h.2.1 hu hr (fun _ _ q=>q),h.2.2.1,Nat.le_trans h.2.2.2.1 hu.size,h.2.2.2.2.1,Nat.le_trans h.2.2.2.2.2 hu.size⟩
end
theorem SA.feed_ok:∀ (b:List Int)(S:SA)(L:List Ev),S.ok→(∀ x,x∈b→0≤x∧x<256)→(b.foldl (fun(p:SA × List Ev) c=>((p.1.byte c).1,p.2++(p.1.byte c).2)) (S,L)).1.ok∧(b.foldl (fun(p:SA × List Ev) c=>((p.1.byte c).1,p.2++(p.1.byte c).2)) (S,L)).2.length≤L.length+b.length
  | [],S,L,h,_=>⟨h,Nat.le_refl _⟩
  | c :: t,S,L,h,hb=>by
    have k:=SA.byte_ok (S2:=(S.byte c).1) (L2:=(S.byte c).2) h (hb c (List.mem_cons_self ..)) rfl
    have q:=SA.feed_ok t (S.byte c).1 (L++(S.byte c).2) k.1 (fun x hx=>hb x (List.mem_cons_of_mem _ hx))
    refine⟨q.1,Nat.le_trans q.2 ?_⟩
    rw[List.length_append,List.length_cons]
    omega
theorem SA.feed_le{S S2:SA}{b:List Int}{L:List Ev}(h:S.ok)(hb:∀ x,x∈b→0≤x∧x<256)(hX:S.feed b=(S2,L)) : L.length≤b.length:=by
  have q:=(SA.feed_ok b S [] h hb).2
  have e:L=(S.feed b).2:=(congrArg Prod.snd hX).symm
  rw[e]
  rw[List.length_nil,Nat.zero_add] at q
  exact q
def Fl (n base:Nat)(S2:SA)(L:List Ev)(g:Nat)(A:Option Addr)(w:World)(e:Ending)(w':World) : Prop:=∃ v A2 cp2 n2,e = .returned v∧dy n2 w.heap.size w' v L∧dn n2 base w' g A2 cp2 S2∧(∀ x,x∈ob A2→x∈ob A∨w.heap.size≤x)∧n≤n2∧ay (g :: (ob A++[])) w w'
theorem tp{w:World}{n base g cp cpb nb:Nat}{S S2:SA}{L:List Ev}{A B:Option Addr}{m:Md}{b:List Int}(hX:S.feed b=(S2,L))(h:dn n base w g A cp S)(hsl:aW m w (.slice B nb cpb) b)(hdg:0<nb→∀ x,x∈ob B→x≠g)(hda:lU nb B (ob A))(hbl:b.length≤1048576) :
    Calls Tryz.prog 22 #[.pointer (some ⟨g,0,none⟩),.slice B nb cpb] w (Fl n base S2 L g A w):=by
  obtain⟨h1,h2,h3,h4,h5,h6⟩:=h
  obtain rfl:nb=b.length:=by
    obtain⟨_,_,e,_⟩:=hsl.shape
    injection e
  refine(s7 h1 h2 h6 h3 h4 h5 hsl hdg hda hbl).mono ?_
  rintro e w' ⟨v,A2,cp2,n2,he,k1,k2,k3,k4,⟨k5,k6⟩,k7,k8⟩
  have hok:=(SA.feed_ok b S [] h3 (aW.range hsl)).1
  rw[hX] at k1 k2 k3
  have e2:S2=(S.feed b).1:=(congrArg Prod.fst hX).symm
  exact⟨v,A2,cp2,n2,he,k1,⟨k2,k3,by rw[e2];exact hok,k6,k7,Nat.le_trans h6 k8.size⟩,k4,k5,k8⟩
theorem tR(d:Int){w:World}(hq:Calls Tryz.prog 21 #[.int .i64 d] w (fun e w'=>∃ g,e = .returned (.pointer (some ⟨g,0,none⟩))∧w.heap.size≤g∧Bs w' g ⟨d,[]⟩ none 0∧ay [] w w')) :
    Calls Tryz.prog 21 #[.int .i64 d] w (fun e w'=>∃ g,e = .returned (.pointer (some ⟨g,0,none⟩))∧w.heap.size≤g∧dn w.heap.size w.heap.size w' g none 0 ⟨d,[]⟩∧ay [] w w'):=by
  refine hq.mono ?_
  rintro e w' ⟨g,he,h1,h2,h3⟩
  exact⟨g,he,h1,⟨h2,aQ.nil ..,⟨(fun x hx=>by cases hx),(show 0≤513 from by decide)⟩,h3.size,d8,h3.size⟩,h3⟩
end Go.Proofs.YtdkhbcefkfgbdaaGreat
