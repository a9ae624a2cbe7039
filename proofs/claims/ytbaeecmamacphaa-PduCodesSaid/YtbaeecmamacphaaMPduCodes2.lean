/- Contracts of the functions that PduCodes reaches, part 2. -/
import Derived.Test.YtbaeecmamacphaaMPduCodes1
import Derived.Orders
import Derived.Laws.BytesArg
import Derived.Stop.BytesEq
import Derived.Laws.EntriesVeiled
set_option linter.unusedVariables false
set_option linter.unusedSimpArgs false
namespace Go.Proofs.Ytbaeecmamacphaa
open Go.RowKit
abbrev Fr := List (Nat × Value)
def lk : Fr → Nat → Option Value
  | [], _ => none
  | p :: F, i => bif Nat.beq p.1 i then some p.2 else lk F i
def evo (F : Fr) : Operand → Option Value
  | .tmp i => lk F i
  | .const v => some v
  | .global g => some (.pointer (some ⟨g, 0, none⟩))
  | .func f => some (.func (.func f) #[] #[])
def ovr (F : Fr) (x : Operand) : Value := (evo F x).getD undef
structure Ag (n : Nat) (D : List Deferred) (F : Fr) (a : Act) : Prop where
  sz : a.tmps.size = n
  df : a.defers = D
  at_ : ∀ i v, lk F i = some v → a.tmps[i]? = some v
def pt (d : Option Nat) (v : Value) (F : Fr) : Fr := match d with | none => F | some i => (i, v) :: F
def dok (n : Nat) (d : Option Nat) : Bool := match d with | none => true | some i => Nat.blt i n
theorem nbq {i j : Nat} (h : i ≠ j) : Nat.beq i j = false := by
  cases hb : Nat.beq i j
  · rfl
  · exact absurd (Nat.eq_of_beq_eq_true hb) h
theorem lk_cons {i : Nat} {v : Value} {F : Fr} {j : Nat} {u : Value} (h : lk ((i, v) :: F) j = some u) : (i = j ∧ v = u) ∨ (i ≠ j ∧ lk F j = some u) := by
  unfold lk at h
  by_cases hij : i = j
  · subst hij
    left
    simpa using h
  · right
    have : Nat.beq i j = false := nbq hij
    rw [this] at h
    exact ⟨hij, h⟩
section
variable {n : Nat} {D : List Deferred} {F F' : Fr} {a : Act}
theorem Ag.ev (h : Ag n D F a) {x : Operand} {v : Value} (hx : evo F x = some v) : a.eval x = v := by
  cases x with
  | tmp i => have := h.at_ i v hx; simp [Act.eval, this]
  | const c => exact Option.some.inj hx
  | global g => exact Option.some.inj hx
  | func f => exact Option.some.inj hx
theorem Ag.ov (h : Ag n D F a) {x : Operand} (hx : (evo F x).isSome = true) : ovr F x = a.eval x := by
  obtain ⟨v, hv⟩ := Option.isSome_iff_exists.1 hx
  rw [h.ev hv]
  simp [ovr, hv]
theorem Ag.put (h : Ag n D F a) {d : Option Nat} {v : Value} (hd : dok n d = true) : Ag n D (pt d v F) (a.put d v) := by
  cases d with
  | none => exact h
  | some i =>
    have hi : i < a.tmps.size := by rw [h.sz]; simpa [dok] using hd
    refine ⟨by simp [Act.put, h.sz], h.df, fun j u hj => ?_⟩
    rcases lk_cons hj with ⟨rfl, rfl⟩ | ⟨h1, h2⟩
    · simp [Act.put, hi]
    · simp only [Act.put]
      rw [Array.getElem?_setIfInBounds_ne h1]
      exact h.at_ _ _ h2
def fks (F : Fr) : List Nat := F.map (·.1)
theorem lk_mem {F : Fr} {i : Nat} {v : Value} (h : lk F i = some v) : i ∈ fks F := by
  induction F with
  | nil => cases h
  | cons p F ih =>
    rcases lk_cons h with ⟨h1, _⟩ | ⟨_, h2⟩
    · simp [fks, h1]
    · have := ih h2; simp only [fks, List.map_cons, List.mem_cons] at this ⊢; exact .inr this
theorem Ag.wk (h : Ag n D F a) (hk : (fks F').map (lk F) = (fks F').map (lk F')) : Ag n D F' a :=
  ⟨h.sz, h.df, fun i v hi => h.at_ i v ((List.map_inj_left.1 hk i (lk_mem hi)).trans hi)⟩
def drp (ks : List Nat) (F : Fr) : Fr := F.filter (fun p => !(ks.any (Nat.beq p.1)))
theorem lk_drp {ks : List Nat} {F : Fr} {i : Nat} {v : Value} (h : lk (drp ks F) i = some v) : lk F i = some v ∧ i ∉ ks := by
  induction F with
  | nil => cases h
  | cons p F ih =>
    unfold drp at h
    rw [List.filter_cons] at h
    split at h
    · rename_i hp
      rcases lk_cons h with ⟨h1, h2⟩ | ⟨h1, h2⟩
      · subst h1 h2
        refine ⟨by simp [lk], fun hm => ?_⟩
        simp at hp
        exact hp _ hm rfl
      · have := ih h2
        refine ⟨?_, this.2⟩
        unfold lk
        have hb : Nat.beq p.1 i = false := nbq h1
        rw [hb]
        exact this.1
    · rename_i hp
      have := ih h
      refine ⟨?_, this.2⟩
      unfold lk
      have hb : Nat.beq p.1 i = false := by
        simp only [Bool.not_eq_true, Bool.not_eq_false', List.any_eq_true] at hp
        obtain ⟨k, hk1, hk2⟩ := hp
        have hpk : p.1 = k := Nat.eq_of_beq_eq_true hk2
        exact nbq fun e => this.2 (by rw [← e, hpk]; exact hk1)
      rw [hb]
      exact this.1
end
structure GC (P : Program) (c : Code) (Q : Exit → Act → World → Prop) (n : Nat) (D : List Deferred) (F : Fr) (w : World) : Prop where
  out : ∀ a, Ag n D F a → c.wp P Q a w
structure GQ (Q : Exit → Act → World → Prop) (e : Exit) (n : Nat) (D : List Deferred) (F : Fr) (w : World) : Prop where
  out : ∀ a, Ag n D F a → Q e a w
structure GL (P : Program) (ops : Array Oper) (Q : Exit → Act → World → Prop) (l : List Oper) (n : Nat) (D : List Deferred) (F : Fr) (w : World) : Prop where
  out : ∀ a, Ag n D F a → wpList P ops Q l a w
structure OG (P : Program) (o : Oper) (n : Nat) (D : List Deferred) (F : Fr) (w : World) (K : Fr → World → Prop) (Q : Exit → Act → World → Prop) : Prop where
  out : ∀ a, Ag n D F a → ∀ K' : Act → World → Prop, (∀ F' w' a', K F' w' → Ag n D F' a' → K' a' w') → OW P o a w K' Q
section
variable {P : Program} {Q : Exit → Act → World → Prop} {n : Nat} {D : List Deferred} {F : Fr} {w : World} {ops : Array Oper} {rest l : List Oper} {x y c : Code} {nx : Act → World → Prop} {id : Nat} {R : Ending → World → Prop} {fn : Func}
theorem sq (h : GC P x (Exit.then (y.wp P Q) Q) n D F w) : GC P (.seq x y) Q n D F w := ⟨fun a ha => wp_seq (h.out a ha)⟩
theorem bk (h : GC P c (Exit.inBlock id Q) n D F w) : GC P (.block id c) Q n D F w := ⟨fun a ha => wp_block (h.out a ha)⟩
theorem go (h : GL P l.toArray Q l n D F w) : GC P (.region id l.toArray false) Q n D F w := ⟨fun a ha => wp_region_lit (h.out a ha)⟩
theorem sk (h : GQ Q .normal n D F w) : GC P .skip Q n D F w := ⟨fun a ha => wp_skip (h.out a ha)⟩
theorem rt (h : GQ Q .ret n D F w) : GC P .ret Q n D F w := ⟨fun a ha => wp_ret (h.out a ha)⟩
theorem xt (h : GQ Q (.exit id) n D F w) : GC P (.exit id) Q n D F w := ⟨fun a ha => wp_exit (h.out a ha)⟩
theorem nl (h : GQ Q .normal n D F w) : GL P ops Q [] n D F w := ⟨fun a ha => h.out a ha⟩
theorem tn (h : GC P y Q n D F w) : GQ (Exit.then (y.wp P Q) Q) .normal n D F w := ⟨fun a ha => h.out a ha⟩
theorem tr (h : GQ Q .ret n D F w) : GQ (Exit.then nx Q) .ret n D F w := ⟨fun a ha => h.out a ha⟩
theorem tx (h : GQ Q (.exit id) n D F w) : GQ (Exit.then nx Q) (.exit id) n D F w := ⟨fun a ha => h.out a ha⟩
theorem bn (h : GQ Q .normal n D F w) : GQ (Exit.inBlock id Q) .normal n D F w := ⟨fun a ha => h.out a ha⟩
theorem br (h : GQ Q .ret n D F w) : GQ (Exit.inBlock id Q) .ret n D F w := ⟨fun a ha => h.out a ha⟩
theorem bx (h : GQ Q .normal n D F w) : GQ (Exit.inBlock id Q) (.exit id) n D F w := ⟨fun a ha => ib_x (h.out a ha)⟩
theorem by_ {id' : Nat} (h : GQ Q (.exit id') n D F w) (hne : id' ≠ id := by decide) : GQ (Exit.inBlock id Q) (.exit id') n D F w := ⟨fun a ha => ib_y hne (h.out a ha)⟩
theorem nt (h : GC P y Q n D F w) : GL P ops (Exit.then (y.wp P Q) Q) [] n D F w := nl (tn h)
theorem sg (h : GL P l.toArray (Exit.then (y.wp P Q) Q) l n D F w) : GC P (.seq (.region id l.toArray false) y) Q n D F w := sq (go h)
theorem ng (h : GL P l.toArray (Exit.then (y.wp P Q) Q) l n D F w) : GL P ops (Exit.then ((Code.seq (.region id l.toArray false) y).wp P Q) Q) [] n D F w := nt (sg h)
theorem skn (h : GC P y Q n D F w) : GC P .skip (Exit.then (y.wp P Q) Q) n D F w := sk (tn h)
theorem ct {c : Operand} {e : Bool} (he : e = true) (h : GC P x Q n D F w) (hv : evo F c = some (.bool e) := by kernel_rfl) : GC P (.cond c x y) Q n D F w := ⟨fun a ha => cd_t e (ha.ev hv) he (h.out a ha)⟩
theorem cf {c : Operand} {e : Bool} (he : e = false) (h : GC P y Q n D F w) (hv : evo F c = some (.bool e) := by kernel_rfl) : GC P (.cond c x y) Q n D F w := ⟨fun a ha => cd_f e (ha.ev hv) he (h.out a ha)⟩
theorem c1 {c : Operand} (h : GC P x Q n D F w) (hv : evo F c = some (.bool true) := by kernel_rfl) : GC P (.cond c x y) Q n D F w := ct rfl h hv
theorem c0 {c : Operand} (h : GC P y Q n D F w) (hv : evo F c = some (.bool false) := by kernel_rfl) : GC P (.cond c x y) Q n D F w := cf rfl h hv
theorem cb {c : Operand} (e : Bool) (ht : e = true → GC P x Q n D F w) (hf : e = false → GC P y Q n D F w) (hv : evo F c = some (.bool e) := by kernel_rfl) : GC P (.cond c x y) Q n D F w := by
  rcases bool_dich e with q | q
  · exact ct q (ht q) hv
  · exact cf q (hf q) hv
theorem wkc (F' : Fr) (h : GC P c Q n D F' w) (hk : (fks F').map (lk F) = (fks F').map (lk F') := by kernel_rfl) : GC P c Q n D F w := ⟨fun a ha => h.out a (ha.wk hk)⟩
def zipF : Nat → List Value → Fr
  | _, [] => []
  | i, v :: l => (i, v) :: zipF (i + 1) l
theorem zipF_get : ∀ (l : List Value) (i j : Nat) (v : Value), lk (zipF i l) j = some v → i ≤ j ∧ l[j - i]? = some v
  | [], _, _, _, h => by cases h
  | u :: l, i, j, v, h => by
    rcases lk_cons h with ⟨h1, h2⟩ | ⟨_, h2⟩
    · subst h1 h2; simp
    · obtain ⟨h3, h4⟩ := zipF_get l (i + 1) j v h2
      refine ⟨by omega, ?_⟩
      rw [show j - i = (j - (i + 1)) + 1 from by omega]
      simpa using h4
theorem ag0 {args : List Value} {m : Nat} : Ag (args.length + m) [] (zipF 0 args) { tmps := args.toArray ++ Array.replicate m undef, defers := [] } := by
  refine ⟨by simp, rfl, fun i v h => ?_⟩
  obtain ⟨_, h2⟩ := zipF_get _ _ _ _ h
  simp only [Nat.sub_zero] at h2
  have hi : i < args.length := (List.getElem?_eq_some_iff.1 h2).1
  rw [Array.getElem?_append_left (by simpa using hi)]
  simpa using h2
theorem en {f : FuncId} {c : Code} {args : List Value} {w : World} (n : Nat) (hf : P.funcs[f]? = some fn) (hb : fn.body = some c)
    (h : GC P c (bodyPost P fn R) n [] (zipF 0 args) w) (hn : args.length + (fn.ntmps - args.length) = n := by kernel_rfl) : Calls P f args.toArray w R := by
  subst hn
  exact calls_of_wp hf hb (by simpa using h.out _ (ag0 (args := args) (m := fn.ntmps - args.length)))
def gd (ops : Array Oper) (F : Fr) (j : Nat) : Option Value := ((ops[j]?).bind (·.dst)).bind (lk F)
theorem gd_y {a : Act} {j : Nat} {v : Value} (ha : Ag n D F a) (h : gd ops F j = some v) : ((ops[j]?).bind (·.dst)).bind (a.tmps[·]?) = some v := by
  unfold gd at h
  obtain ⟨i, hi, h2⟩ := Option.bind_eq_some_iff.1 h
  rw [hi]
  exact ha.at_ _ _ h2
theorem yl_b {a : Act} {j : Nat} {b : Bool} (ha : Ag n D F a) (h : gd ops F j = some (.bool b)) : yielded ops a.tmps j = some b := by
  unfold yielded
  rw [gd_y ha h]
def gOn (ops : Array Oper) (F : Fr) (g : Option (Nat × Bool)) : Bool × Bool := match g with
  | none => (true, true)
  | some p => match gd ops F p.1 with
    | some (.bool c) => (true, c == p.2)
    | some _ => (true, false)
    | none => (false, false)
theorem gOn_w {a : Act} {o : Oper} {b : Bool} (ha : Ag n D F a) (h : gOn ops F o.guard = (true, b)) : Region.wanted o (yielded ops a.tmps) = b := by
  unfold gOn at h
  unfold Region.wanted
  cases hg : o.guard with
  | none => rw [hg] at h; simpa using h
  | some p =>
    rw [hg] at h
    obtain ⟨j, c⟩ := p
    simp only at h ⊢
    cases hv : gd ops F j with
    | none => rw [hv] at h; simp at h
    | some v =>
      rw [hv] at h
      unfold yielded
      rw [gd_y ha hv]
      cases v <;> simp at h ⊢ <;> first | exact h | (subst h; rfl) | (rw [← h]; simp)
theorem L0 {d : Option Tmp} {op : Op} {t : TypeId} {s : String} {af : Array Edge} (h : OG P ⟨d, op, t, s, af, none⟩ n D F w (GL P ops Q rest n D) Q) : GL P ops Q (⟨d, op, t, s, af, none⟩ :: rest) n D F w :=
  ⟨fun a ha => (Lst0 rfl (h.out a ha (WL P ops Q rest) fun _ _ a' k ha' => ⟨k.out a' ha'⟩)).out⟩
theorem L1 {d : Option Tmp} {op : Op} {t : TypeId} {s : String} {af : Array Edge} {j : Nat} {b : Bool} (h : OG P ⟨d, op, t, s, af, some (j, b)⟩ n D F w (GL P ops Q rest n D) Q) (hg : gd ops F j = some (.bool b) := by kernel_rfl) : GL P ops Q (⟨d, op, t, s, af, some (j, b)⟩ :: rest) n D F w :=
  ⟨fun a ha => (Lst (wanted_on rfl (yl_b ha hg) rfl) (h.out a ha (WL P ops Q rest) fun _ _ a' k ha' => ⟨k.out a' ha'⟩)).out⟩
def okO (F : Fr) (x : Operand) : Bool := (evo F x).isSome
def opIn (F : Fr) : Op → Bool
  | .move x | .assign x | .nilCheck x | .unOp _ _ x | .convert _ _ x | .makeInterface _ x | .fieldAddr _ x _ | .field _ x _ | .extract x _ | .box _ x | .load _ x => okO F x
  | .pick c x y => okO F c && okO F x && okO F y
  | .binOp _ _ x y _ | .store _ x y | .indexAddr _ x y | .index _ x y | .makeSlice _ x y => okO F x && okO F y
  | .build _ ps | .buildSlice _ _ ps => ps.toList.all fun p => okO F p.2
  | .makeFunc _ p q => p.toList.all (okO F) && q.toList.all (okO F)
  | .slice _ x l h m => okO F x && l.all (okO F) && h.all (okO F) && m.all (okO F)
  | .call c => (match c.callee with | .builtin _ => true | .value f => okO F f | _ => false) && c.args.toList.all (okO F)
  | _ => false
theorem opIn_ex {a : Act} {o : Oper} (ha : Ag n D F a) (h : opIn F o.op = true) : execOp (ovr F) o = execOp a.eval o := by
  refine execOp_congr o (fun cs b e => by rw [e] at h; cases h) fun x hx => ha.ov ?_
  obtain ⟨dst, op, type, pos, after, guard⟩ := o
  have hall : ∀ (ps : Array Operand), ps.toList.all (okO F) = true → x ∈ ps → (evo F x).isSome = true := fun ps hp hm => by
    have := List.all_eq_true.1 hp x (by simpa using hm)
    exact this
  cases op <;> simp only [opIn, Op.operands, Bool.and_eq_true] at h hx <;> try contradiction
  case build t ps =>
    simp at hx
    obtain ⟨i, hp⟩ := hx
    exact List.all_eq_true.1 h (i, x) (by simpa using hp)
  case buildSlice t m ps =>
    simp at hx
    obtain ⟨i, hp⟩ := hx
    exact List.all_eq_true.1 h (i, x) (by simpa using hp)
  case makeFunc f p q =>
    rcases Array.mem_append.1 hx with hx | hx
    · exact hall _ h.1 hx
    · exact hall _ h.2 hx
  case slice t y lo hi mx =>
    obtain ⟨⟨⟨h1, h2⟩, h3⟩, h4⟩ := h
    simp only [okO] at h1
    cases lo <;> cases hi <;> cases mx <;> simp [okO] at hx h2 h3 h4 <;> (try rcases hx with rfl | rfl | rfl | rfl) <;> (try rcases hx with rfl | rfl | rfl) <;> (try rcases hx with rfl | rfl) <;> (try subst hx) <;> assumption
  case call c =>
    simp only [Call.operands] at hx
    rcases Array.mem_append.1 hx with hx | hx
    · revert h hx
      cases c.callee <;> intro h hx <;> simp at hx h
      subst hx
      exact h.1
    · exact hall _ h.2 hx
  all_goals (simp only [okO, Bool.and_eq_true] at h; simp at hx; (try rcases hx with rfl | rfl | rfl) <;> (try rcases hx with rfl | rfl) <;> (try subst hx) <;> first | exact h | exact h.1 | exact h.2 | exact h.1.1 | exact h.1.2)
def vo (P : Program) (w : World) (F : Fr) (o : Oper) : Value := match (execOp (ovr F) o).run P w with
  | .ok (.value v) _ => v
  | _ => undef
def st1 (P : Program) (ops : Array Oper) (w : World) (F : Fr) (o : Oper) : Fr := bif (gOn ops F o.guard).2 then pt o.dst (vo P w F o) F else pt o.dst undef F
def rn (P : Program) (ops : Array Oper) (w : World) : Nat → List Oper → Fr → Fr
  | 0, _, F => F
  | _ + 1, [], F => F
  | k + 1, o :: l, F => rn P ops w k l (st1 P ops w F o)
def ckL (P : Program) (ops : Array Oper) (w : World) (n : Nat) : Nat → List Oper → Fr → List ((Bool × Bool) × Result Next)
  | 0, _, _ => []
  | _ + 1, [], _ => [((false, false), .ok .skip w)]
  | k + 1, o :: l, F => (((gOn ops F o.guard).1, dok n o.dst && (bif (gOn ops F o.guard).2 then opIn F o.op else true)), bif (gOn ops F o.guard).2 then (execOp (ovr F) o).run P w else .ok .skip w) :: ckL P ops w n k l (st1 P ops w F o)
def exL (P : Program) (ops : Array Oper) (w : World) : Nat → List Oper → Fr → List ((Bool × Bool) × Result Next)
  | 0, _, _ => []
  | _ + 1, [], _ => [((true, true), .ok .skip w)]
  | k + 1, o :: l, F => ((true, true), bif (gOn ops F o.guard).2 then .ok (.value (vo P w F o)) w else .ok .skip w) :: exL P ops w k l (st1 P ops w F o)
theorem Pl (k : Nat) (h : GL P ops Q (l.drop k) n D (rn P ops w k l F) w) (hc : ckL P ops w n k l F = exL P ops w k l F := by kernel_rfl) : GL P ops Q l n D F w := by
  induction k generalizing l F with
  | zero => exact h
  | succ k ih =>
    cases l with
    | nil => simp [ckL, exL] at hc
    | cons o l =>
      simp only [ckL, exL, List.cons.injEq, Prod.mk.injEq, Bool.and_eq_true] at hc
      obtain ⟨⟨⟨h1, h2, h3⟩, h4⟩, h5⟩ := hc
      have h6 := ih (l := l) (F := st1 P ops w F o) (by simpa [rn] using h) h5
      refine ⟨fun a ha => ?_⟩
      cases hon : (gOn ops F o.guard).2 with
      | true =>
        rw [hon] at h3 h4
        simp only [cond_true] at h3 h4
        have hw : Region.wanted o (yielded ops a.tmps) = true := gOn_w ha (Prod.ext h1 hon)
        have hst : st1 P ops w F o = pt o.dst (vo P w F o) F := by simp [st1, hon]
        rw [hst] at h6
        exact (Lst hw (ow_val (N := o.dst) (vo P w F o) rfl (by rw [← opIn_ex ha h3]; exact h4) ⟨h6.out _ (ha.put h2)⟩)).out
      | false =>
        have hw : Region.wanted o (yielded ops a.tmps) = false := gOn_w ha (Prod.ext h1 hon)
        have hst : st1 P ops w F o = pt o.dst undef F := by simp [st1, hon]
        rw [hst] at h6
        exact (Loff (N := o.dst) hw rfl ⟨h6.out _ (ha.put h2)⟩).out
theorem bl (j : Nat) (e : Bool) (ht : e = true → GL P ops Q l n D ((j, .bool true) :: F) w) (hf : e = false → GL P ops Q l n D ((j, .bool false) :: F) w) (hv : lk F j = some (.bool e) := by kernel_rfl) : GL P ops Q l n D F w := by
  refine ⟨fun a ha => ?_⟩
  have key : ∀ b, e = b → Ag n D ((j, .bool b) :: F) a := fun b hb => ⟨ha.sz, ha.df, fun i v hi => by
    rcases lk_cons hi with ⟨rfl, rfl⟩ | ⟨_, h2⟩
    · rw [← hb]; exact ha.at_ _ _ hv
    · exact ha.at_ _ _ h2⟩
  rcases bool_dich e with q | q
  · exact (ht q).out a (key _ q)
  · exact (hf q).out a (key _ q)
theorem sy (j : Nat) {e b : Bool} (q : e = b) (h : GL P ops Q l n D ((j, .bool b) :: F) w) (hv : lk F j = some (.bool e) := by kernel_rfl) : GL P ops Q l n D F w := by
  subst q
  refine ⟨fun a ha => h.out a ⟨ha.sz, ha.df, fun i v hi => ?_⟩⟩
  rcases lk_cons hi with ⟨rfl, rfl⟩ | ⟨_, h2⟩
  · exact ha.at_ _ _ hv
  · exact ha.at_ _ _ h2
theorem cu (k : Nat) (ks : List Nat) (j : Nat) (r : Bool) (h : ∀ K : Act → World → Prop, (∀ a, Ag n D ((j, .bool r) :: drp ks F) a → K a w) → GL P ops (Exit.then K Q) (l.take k) n D F w)
    (hk : GL P ops Q (l.drop k) n D ((j, .bool r) :: drp ks F) w) : GL P ops Q l n D F w := by
  refine ⟨fun a ha => ?_⟩
  have := wpList_to (P := P) (Q := Q) (ops := ops) (l.drop k) (l.take k) a w ((h (wpList P ops Q (l.drop k)) fun a' ha' => hk.out a' ha').out a ha)
  rwa [List.take_append_drop] at this
theorem ce {K : Act → World → Prop} {j : Nat} {r : Bool} {F0 : Fr} (hK : ∀ a, Ag n D ((j, .bool r) :: F0) a → K a w) (t : Bool) (hr : r = t) (hk : (fks ((j, .bool t) :: F0)).map (lk F) = (fks ((j, .bool t) :: F0)).map (lk ((j, .bool t) :: F0)) := by kernel_rfl) : GL P ops (Exit.then K Q) [] n D F w := by
  subst hr
  exact ⟨fun a ha => hK a (ha.wk hk)⟩
theorem glp {ι : Type} (G : ι → Fr) (J : ι → World → Prop) (μ : ι → Nat) (x0 : ι) (h0 : J x0 w) (round : ∀ x w, J x w → GC P c (Exit.then (fun a' w' => ∃ y, Ag n D (G y) a' ∧ J y w' ∧ μ y < μ x) Q) n D (G x) w)
    (hk : (fks (G x0)).map (lk F) = (fks (G x0)).map (lk (G x0)) := by kernel_rfl) : GC P (.loop c) Q n D F w := by
  refine ⟨fun a ha => lp (fun x a w => Ag n D (G x) a ∧ J x w) μ x0 ⟨ha.wk hk, h0⟩ fun x a w hI => ?_⟩
  refine wp_mono ((round x w hI.2).out a hI.1) fun e a' w' q => ?_
  cases e with
  | normal => obtain ⟨y, h1, h2, h3⟩ := q; exact ⟨y, ⟨h1, h2⟩, h3⟩
  | _ => exact q
theorem lpe {ι : Type} {G : ι → Fr} {J : ι → World → Prop} {μ : ι → Nat} {x : ι} (y : ι) (h : J y w) (hm : μ y < μ x) (hk : (fks (G y)).map (lk F) = (fks (G y)).map (lk (G y)) := by kernel_rfl) : GQ (Exit.then (fun a' w' => ∃ y, Ag n D (G y) a' ∧ J y w' ∧ μ y < μ x) Q) .normal n D F w :=
  ⟨fun a ha => ⟨y, ha.wk hk, h, hm⟩⟩
end
section
variable {P : Program} {Q : Exit → Act → World → Prop} {n : Nat} {D : List Deferred} {F : Fr} {w : World} {K : Fr → World → Prop} {d : Option Tmp} {op : Op} {t : TypeId} {s : String} {af : Array Edge} {gu : Option (Nat × Bool)}
theorem and2 {a b : Bool} (h : (a && b) = true) : a = true ∧ b = true := by simpa using h
theorem Oe (v0 v : Value) (he : v0 = v) (h : K (pt d v F) w) (hr : (execOp (ovr F) ⟨d, op, t, s, af, gu⟩).run P w = .ok (.value v0) w := by kernel_rfl) (hs : (opIn F op && dok n d) = true := by kernel_rfl) : OG P ⟨d, op, t, s, af, gu⟩ n D F w K Q := by
  subst he
  have hs := and2 hs
  exact ⟨fun a ha K' hK => ow_val _ rfl (by rw [← opIn_ex ha hs.1]; exact hr) (hK _ _ _ h (ha.put hs.2))⟩
theorem Oi (x : Int) (h : K (pt d (.int .i64 x) F) w) (hb : -9223372036854775808 ≤ x ∧ x ≤ 9223372036854775807 := by omega) (hr : (execOp (ovr F) ⟨d, op, t, s, af, gu⟩).run P w = .ok (.value (.int .i64 (IntKind.i64.wrap x))) w := by kernel_rfl) (hs : (opIn F op && dok n d) = true := by kernel_rfl) : OG P ⟨d, op, t, s, af, gu⟩ n D F w K Q :=
  Oe _ _ (congrArg (Value.int .i64) (IntWalk.i64_in _ (by omega))) h hr hs
theorem O16 (x : Int) (h : K (pt d (.int .u16 x) F) w) (hb : 0 ≤ x ∧ x < 65536 := by omega) (hr : (execOp (ovr F) ⟨d, op, t, s, af, gu⟩).run P w = .ok (.value (.int .u16 (IntKind.u16.wrap x))) w := by kernel_rfl) (hs : (opIn F op && dok n d) = true := by kernel_rfl) : OG P ⟨d, op, t, s, af, gu⟩ n D F w K Q :=
  Oe _ _ (congrArg (Value.int .u16) (u16_in hb)) h hr hs
theorem O8 (x : Int) (h : K (pt d (.int .u8 x) F) w) (hb : 0 ≤ x ∧ x < 256 := by omega) (hr : (execOp (ovr F) ⟨d, op, t, s, af, gu⟩).run P w = .ok (.value (.int .u8 (IntKind.u8.wrap x))) w := by kernel_rfl) (hs : (opIn F op && dok n d) = true := by kernel_rfl) : OG P ⟨d, op, t, s, af, gu⟩ n D F w K Q :=
  Oe _ _ (congrArg (Value.int .u8) (u8_in hb)) h hr hs
theorem Or_ (v : Value) (hr : (execOp (ovr F) ⟨d, op, t, s, af, gu⟩).run P w = .ok (.value v) w) (h : K (pt d v F) w) (hs : (opIn F op && dok n d) = true := by kernel_rfl) : OG P ⟨d, op, t, s, af, gu⟩ n D F w K Q := Oe v v rfl h hr hs
theorem Old {ty : TypeId} {x : Operand} {p : Addr} {v : Value} (hc : w.cell? p = some v) (h : K (pt d v F) w) (hx : evo F x = some (.pointer (some p)) := by kernel_rfl) (hs : (scalarT P ty && dok n d) = true := by kernel_rfl) : OG P ⟨d, .load ty x, t, s, af, gu⟩ n D F w K Q :=
  ⟨fun a ha K' hK => ow_ld v rfl rfl (ha.ev hx) (and2 hs).1 hc (hK _ _ _ h (ha.put (and2 hs).2))⟩
theorem Olb {ty ty' : TypeId} {x : Operand} {b : Nat} {cs : Array Value} {fr : Nat × Nat} (B : w.heap[b]? = some (.cells cs ty' fr)) (off : Nat) (h : K (pt d (cs.getD off undef) F) w) (hx : evo F x = some (.pointer (some ⟨b, off, none⟩)) := by kernel_rfl) (hs : (scalarT P ty && dok n d) = true := by kernel_rfl) (hl : Nat.blt off cs.size = true := by kernel_rfl) : OG P ⟨d, .load ty x, t, s, af, gu⟩ n D F w K Q :=
  Old (blk_at B (by
    have : off < cs.size := by simpa using hl
    simp [Array.getD, this])) h hx hs
theorem Ola {ty ty' : TypeId} {x : Operand} {b : Nat} {cs : Array Value} {fr : Nat × Nat} (B : w.heap[b]? = some (.cells cs ty' fr)) (off k : Nat) (h : K (pt d (.agg ((cs.toList.drop off).take k).toArray) F) w) (hx : evo F x = some (.pointer (some ⟨b, off, none⟩)) := by kernel_rfl)
    (hs : ((P.underlying ty).map (·.isRow), (P.info? ty).map (·.size), dok n d) = (some true, some ((cs.toList.drop off).take k).length, true) := by kernel_rfl) : OG P ⟨d, .load ty x, t, s, af, gu⟩ n D F w K Q := by
  simp only [Prod.mk.injEq] at hs
  exact ⟨fun a ha K' hK => ow_lda _ rfl rfl (ha.ev hx) B hs.1 hs.2.1 (by simp [List.take_take]) (hK _ _ _ h (ha.put hs.2.2))⟩
theorem Olw {ty ty' : TypeId} {x : Operand} {b : Nat} {cs : Array Value} {fr : Nat × Nat} (B : w.heap[b]? = some (.cells cs ty' fr)) (h : K (pt d (.agg cs) F) w) (hz : (P.info? ty).map (·.size) = some cs.size := by kernel_rfl) (hx : evo F x = some (.pointer (some ⟨b, 0, none⟩)) := by kernel_rfl)
    (hs : ((P.underlying ty).map (·.isRow), dok n d) = (some true, true) := by kernel_rfl) : OG P ⟨d, .load ty x, t, s, af, gu⟩ n D F w K Q := by
  simp only [Prod.mk.injEq] at hs
  exact ⟨fun a ha K' hK => ow_ldw rfl rfl (ha.ev hx) B hs.1 hz (hK _ _ _ h (ha.put hs.2))⟩
theorem Ost {ty t' : TypeId} {x y : Operand} {b : Nat} {cs : Array Value} (B : w.heap[b]? = some (.cells cs t' (0, 0))) (off : Nat) (cs' : Array Value) (h : ∀ w', w'.heap[b]? = some (.cells cs' t' (0, 0)) → Upd [b] w w' → K (pt d undef F) w')
    (hx : evo F x = some (.pointer (some ⟨b, off, none⟩)) := by kernel_rfl) (hl : Nat.blt off cs.size = true := by kernel_rfl) (hs : ((P.info? ty).map (·.size), (okO F y && dok n d) && (ovr F y).oneCell') = (some 1, true) := by kernel_rfl) (hc : cs.setIfInBounds off (ovr F y) = cs' := by kernel_rfl) : OG P ⟨d, .store ty x y, t, s, af, gu⟩ n D F w K Q := by
  simp only [Prod.mk.injEq] at hs
  have h2 := and2 hs.2
  have h3 := and2 h2.1
  exact ⟨fun a ha K' hK => ow_st (ovr F y) cs' rfl rfl (ha.ev hx) (ha.ov h3.1).symm B hl hs.1 h2.2 hc fun w' hB hu => hK _ _ _ (h w' hB hu) (ha.put h3.2)⟩
theorem Osw {ty t' : TypeId} {x y : Operand} {b : Nat} {cs : Array Value} (B : w.heap[b]? = some (.cells cs t' (0, 0))) (vs : Array Value) (h : ∀ w', w'.heap[b]? = some (.cells vs t' (0, 0)) → Upd [b] w w' → K (pt d undef F) w')
    (hz : (P.info? ty).map (·.size) = some vs.size := by kernel_rfl) (h1 : vs.all (·.oneCell') = true := by kernel_rfl) (hv : vs.size = cs.size := by kernel_rfl) (hx : evo F x = some (.pointer (some ⟨b, 0, none⟩)) := by kernel_rfl) (hy : evo F y = some (.agg vs) := by kernel_rfl) (hs : dok n d = true := by kernel_rfl) : OG P ⟨d, .store ty x y, t, s, af, gu⟩ n D F w K Q :=
  ⟨fun a ha K' hK => ow_stw vs rfl rfl (ha.ev hx) (ha.ev hy) B hz hv h1 fun w' hB hu => hK _ _ _ (h w' hB hu) (ha.put hs)⟩
theorem Osm {ty t' : TypeId} {x y : Operand} {b : Nat} {cs : Array Value} (B : w.heap[b]? = some (.cells cs t' (0, 0))) (off : Nat) (vs cs' : Array Value) (h : ∀ w', w'.heap[b]? = some (.cells cs' t' (0, 0)) → Upd [b] w w' → K (pt d undef F) w')
    (hz : (P.info? ty).map (·.size) = some vs.size := by kernel_rfl) (h1 : vs.all (·.oneCell') = true := by kernel_rfl) (hl : Nat.ble (off + vs.size) cs.size = true := by kernel_rfl) (hx : evo F x = some (.pointer (some ⟨b, off, none⟩)) := by kernel_rfl) (hy : evo F y = some (.agg vs) := by kernel_rfl) (hs : dok n d = true := by kernel_rfl) (hc : setFrom cs off vs.toList = cs' := by kernel_rfl) : OG P ⟨d, .store ty x y, t, s, af, gu⟩ n D F w K Q :=
  ⟨fun a ha K' hK => ow_stm vs cs' rfl rfl (ha.ev hx) (ha.ev hy) B hz hl h1 hc fun w' hB hu => hK _ _ _ (h w' hB hu) (ha.put hs)⟩
theorem Oal {ty : TypeId} (cs : Array Value) (h : ∀ g w', w.heap.size ≤ g → w'.heap[g]? = some (.cells cs ty (0, 0)) → Upd [] w w' → K (pt d (.pointer (some ⟨g, 0, none⟩)) F) w')
    (hz : (P.info? ty).bind (fun i => i.zero.map (·.cells)) = some cs := by kernel_rfl) (hs : dok n d = true := by kernel_rfl) : OG P ⟨d, .alloc ty, t, s, af, gu⟩ n D F w K Q :=
  ⟨fun a ha K' hK => ow_alloc cs rfl rfl hz fun g w' hg hB hu => hK _ _ _ (h g w' hg hB hu) (ha.put hs)⟩
theorem Obx {ty : TypeId} {x : Operand} (cs : Array Value) (h : ∀ g w', w.heap.size ≤ g → w'.heap[g]? = some (.cells cs ty (0, 0)) → Upd [] w w' → K (pt d (.pointer (some ⟨g, 0, none⟩)) F) w')
    (hz : (ovr F x).cells = cs := by kernel_rfl) (hs : (okO F x && dok n d) = true := by kernel_rfl) : OG P ⟨d, .box ty x, t, s, af, gu⟩ n D F w K Q :=
  ⟨fun a ha K' hK => ow_box cs rfl rfl (by rw [← ha.ov (and2 hs).1]; exact hz) fun g w' hg hB hu => hK _ _ _ (h g w' hg hB hu) (ha.put (and2 hs).2)⟩
theorem Olt {e : TypeId} {m : Nat} (cs : Array Value) (h : ∀ g w', w.heap.size ≤ g → w'.heap[g]? = some (.cells cs e (0, 0)) → Upd [] w w' → K (pt d (.slice (some ⟨g, 0, none⟩) m m) F) w')
    (hr : (execOp (ovr F) ⟨d, op, t, s, af, gu⟩).run P w = .ok (.value (.slice (some ⟨w.heap.size, 0, none⟩) m m)) (w.alloc (.cells cs e)) := by kernel_rfl) (hs : (opIn F op && dok n d) = true := by kernel_rfl) : OG P ⟨d, op, t, s, af, gu⟩ n D F w K Q :=
  ⟨fun a ha K' hK => ow_lit cs rfl (by rw [← opIn_ex ha (and2 hs).1]; exact hr) fun g w' hg hB hu => hK _ _ _ (h g w' hg hB hu) (ha.put (and2 hs).2)⟩
theorem Omk {ty : TypeId} (h : ∀ g w', w.heap.size ≤ g → w'.heap[g]? = some (.map #[] 0) → Upd [] w w' → K (pt d (.map (some g)) F) w') (hs : dok n d = true := by kernel_rfl) : OG P ⟨d, .makeMap ty none, t, s, af, gu⟩ n D F w K Q :=
  ⟨fun a ha K' hK => ow_map rfl rfl fun g w' hg hB hu => hK _ _ _ (h g w' hg hB hu) (ha.put hs)⟩
def mapK (P : Program) (ty : TypeId) : Option IntKind := match P.underlying ty with | some (.map kt _) => (match P.underlying kt with | some (.int q) => some q | _ => none) | _ => none
def mapQ (P : Program) (ty : TypeId) : IntKind := (mapK P ty).getD .i64
theorem mapQ_some {ty : TypeId} (h : (mapK P ty).isSome = true) : mapK P ty = some (mapQ P ty) := by
  obtain ⟨q, hq⟩ := Option.isSome_iff_exists.1 h
  simp [mapQ, hq]
def mapE (P : Program) (ty : TypeId) : TypeId := match P.underlying ty with | some (.map _ e) => e | _ => 0
theorem mapK_some {ty : TypeId} {q : IntKind} (h : mapK P ty = some q) : ∃ kt, P.underlying ty = some (.map kt (mapE P ty)) ∧ P.underlying kt = some (.int q) := by
  unfold mapK at h
  unfold mapE
  split at h
  · rename_i kt e he
    split at h
    · rename_i q' hq
      refine ⟨kt, by simp [he], ?_⟩
      rw [hq]
      simpa using h
    · cases h
  · cases h
theorem Oin {ty : TypeId} {m k x : Operand} {r : Nat} {es : Array MapEntry} {clk : Nat} (B : w.heap[r]? = some (.map es clk)) (z : Int) (es' : Array MapEntry) (clk' : Nat) (h : ∀ w', w'.heap[r]? = some (.map es' clk') → Upd [r] w w' → K (pt d undef F) w')
    (hq : (mapK P ty).isSome = true := by kernel_rfl) (hm : evo F m = some (.map (some r)) := by kernel_rfl) (hk : evo F k = some (.int (mapQ P ty) z) := by kernel_rfl) (hs : (okO F x && dok n d) = true := by kernel_rfl)
    (hn : Instr.findNow (.int (mapQ P ty)) (.int (mapQ P ty) z) es.toList 0 = some none := by kernel_rfl) (he : (es.push ⟨.int (mapQ P ty) z, ovr F x, clk⟩, clk + 1) = (es', clk') := by kernel_rfl) : OG P ⟨d, .insert ty m k x, t, s, af, gu⟩ n D F w K Q := by
  obtain ⟨kt, h1, h2⟩ := mapK_some (mapQ_some hq)
  simp only [Prod.mk.injEq] at he
  exact ⟨fun a ha K' hK => ow_ins z (ovr F x) es' clk' rfl rfl h1 h2 (ha.ev hm) B (ha.ev hk) (ha.ov (and2 hs).1).symm hn he.1 he.2 fun w' hB hu => hK _ _ _ (h w' hB hu) (ha.put (and2 hs).2)⟩
theorem Olk {ty : TypeId} {m k : Operand} {c : Bool} {r : Nat} {es : Array MapEntry} {clk : Nat} (B : w.heap[r]? = some (.map es clk)) (x : Int) (z : Value) (res : Option (Nat × Value)) (h : K (pt d (if c then .tuple #[(res.map (·.2)).getD z, .bool res.isSome] else (res.map (·.2)).getD z) F) w)
    (hf : Instr.findNow (.int (mapQ P ty)) (.int (mapQ P ty) x) es.toList 0 = some res := by kernel_rfl) (hq : (mapK P ty).isSome = true := by kernel_rfl) (hm : evo F m = some (.map (some r)) := by kernel_rfl) (hk : evo F k = some (.int (mapQ P ty) x) := by kernel_rfl) (hs : dok n d = true := by kernel_rfl)
    (hz : (zeroValue (mapE P ty)).run P w = .ok z w := by kernel_rfl) : OG P ⟨d, .lookup ty m k c, t, s, af, gu⟩ n D F w K Q := by
  obtain ⟨kt, h1, h2⟩ := mapK_some (mapQ_some hq)
  exact ⟨fun a ha K' hK => ow_look x z res _ rfl rfl h1 h2 (ha.ev hm) B (ha.ev hk) hz hf rfl (hK _ _ _ h (ha.put hs))⟩
def slE (P : Program) (ty : TypeId) : Option TypeId := match P.underlying ty with | some (.slice e) => some e | _ => none
theorem slE_some {ty e : TypeId} (h : slE P ty = some e) : P.underlying ty = some (.slice e) := by
  unfold slE at h
  split at h
  · rename_i e' he; rw [he]; simpa using h
  · cases h
def slA (F : Fr) (x : Operand) : Option (Option Addr × Nat) := match evo F x with | some (.slice A m _) => some (A, m) | _ => none
def ixA (F : Fr) (x : Operand) : Option Int := match evo F x with | some (.int _ i) => some i | _ => none
theorem slA_some {x : Operand} {A : Option Addr} {m : Nat} (h : slA F x = some (A, m)) : ∃ c, evo F x = some (.slice A m c) := by
  unfold slA at h
  split at h
  · rename_i A' m' c he
    simp only [Option.some.injEq, Prod.mk.injEq] at h
    exact ⟨c, by rw [he, h.1, h.2]⟩
  · cases h
theorem ixA_some {x : Operand} {i : Int} (h : ixA F x = some i) : ∃ k, evo F x = some (.int k i) := by
  unfold ixA at h
  split at h
  · rename_i k i' he
    exact ⟨k, by rw [he]; simpa using h⟩
  · cases h
theorem Oixi {ty : TypeId} {x ix : Operand} {b off : Nat} (sz m j : Nat) (i : Int) (hj : i = j) {A : Option Addr} (hA : A = some ⟨b, off, none⟩) (hlt : j < m) (h : K (pt d (.pointer (some ⟨b, off + j * sz, none⟩)) F) w)
    (hx : slA F x = some (A, m) := by kernel_rfl) (hi : ixA F ix = some i := by kernel_rfl) (hs : (((slE P ty).bind P.info?).map (·.size), dok n d) = (some sz, true) := by kernel_rfl) : OG P ⟨d, .indexAddr ty x ix, t, s, af, gu⟩ n D F w K Q := by
  simp only [Prod.mk.injEq] at hs
  obtain ⟨c, hx⟩ := slA_some hx
  obtain ⟨k, hi⟩ := ixA_some hi
  cases he : slE P ty with
  | none => rw [he] at hs; simp at hs
  | some e =>
    rw [he] at hs
    exact ⟨fun a ha K' hK => ow_ixs sz rfl rfl (slE_some he) hs.1 (ha.ev hx) (ha.ev hi) hj hlt hA (hK _ _ _ h (ha.put hs.2))⟩
theorem Oixs {ty : TypeId} {x ix : Operand} {b off : Nat} (sz m j : Nat) {A : Option Addr} (hA : A = some ⟨b, off, none⟩) (hlt : j < m) (h : K (pt d (.pointer (some ⟨b, off + j * sz, none⟩)) F) w)
    (hx : slA F x = some (A, m) := by kernel_rfl) (hi : ixA F ix = some (j : Int) := by kernel_rfl) (hs : (((slE P ty).bind P.info?).map (·.size), dok n d) = (some sz, true) := by kernel_rfl) : OG P ⟨d, .indexAddr ty x ix, t, s, af, gu⟩ n D F w K Q := Oixi sz m j _ rfl hA hlt h hx hi hs
theorem Oixj {ty : TypeId} {x ix : Operand} {b off : Nat} (m j : Nat) (i : Int) (hj : i = j) {A : Option Addr} (hA : A = some ⟨b, off, none⟩) (hlt : j < m) (h : K (pt d (.pointer (some ⟨b, off + j, none⟩)) F) w)
    (hx : slA F x = some (A, m) := by kernel_rfl) (hi : ixA F ix = some i := by kernel_rfl) (hs : (((slE P ty).bind P.info?).map (·.size), dok n d) = (some 1, true) := by kernel_rfl) : OG P ⟨d, .indexAddr ty x ix, t, s, af, gu⟩ n D F w K Q := Oixi 1 m j _ hj hA hlt (by rwa [Nat.mul_one]) hx hi hs
theorem Oix {ty : TypeId} {x ix : Operand} {b off : Nat} (m j : Nat) {A : Option Addr} (hA : A = some ⟨b, off, none⟩) (hlt : j < m) (h : K (pt d (.pointer (some ⟨b, off + j, none⟩)) F) w)
    (hx : slA F x = some (A, m) := by kernel_rfl) (hi : ixA F ix = some (j : Int) := by kernel_rfl) (hs : (((slE P ty).bind P.info?).map (·.size), dok n d) = (some 1, true) := by kernel_rfl) : OG P ⟨d, .indexAddr ty x ix, t, s, af, gu⟩ n D F w K Q := Oixj m j _ rfl hA hlt h hx hi hs
theorem Orow {α : Type} {R : World → α → List Value → Prop} {enc : α → Value} (hR : One R enc) {ty e : TypeId} {x y : Operand} {base m c b off j : Nat} {A : Option Addr} {xs : List α} (HO : OwnG base e 1 R w (.slice A m c) xs) (hA : A = some ⟨b, off, none⟩) (hj : j < xs.length) (v : α) (hv : ∀ w, R w v [enc v])
    (h : ∀ w', OwnG base e 1 R w' (.slice A m c) (xs.set j v) → Upd (ob A ++ []) w w' → K (pt d undef F) w') (hx : evo F x = some (.pointer (some ⟨b, off + j, none⟩)) := by kernel_rfl) (hy : evo F y = some (enc v) := by kernel_rfl) (hs : ((P.info? ty).map (·.size), dok n d) = (some 1, true) := by kernel_rfl) : OG P ⟨d, .store ty x y, t, s, af, gu⟩ n D F w K Q := by
  simp only [Prod.mk.injEq] at hs
  exact ⟨fun a ha K' hK => ow_row hR v rfl rfl (ha.ev hx) (ha.ev hy) hv HO hA hj hs.1 fun w' hO hu => hK _ _ _ (h w' hO hu) (ha.put hs.2)⟩
def infA (P : Program) (ty : TypeId) : Option (Option Value × Nat × Nat) := ((slE P ty).bind P.info?).map fun i => (i.zero, i.size, i.bytes)
theorem Oapp {α : Type} {R : World → α → List Value → Prop} {enc : α → Value} (hR : One R enc) {x y : Operand} {e : TypeId} {base m c : Nat} {A : Option Addr} {xs ys : List α} {mm : Bool} {e' ty : TypeId} {u : Value} (z : Value) (bytes : Nat) (HO : OwnG base e 1 R w (.slice A m c) xs) (HY : RdG mm e' 1 R w u ys)
    (hl : xs.length + ys.length ≤ 4194304) (hbase : base ≤ w.heap.size) (h : ∀ A' c' w', OwnG base e 1 R w' (.slice A' (xs ++ ys).length c') (xs ++ ys) → Upd (ob A ++ []) w w' → K (pt d (.slice A' (xs ++ ys).length c') F) w')
    (hx : evo F x = some (.slice A m c) := by kernel_rfl) (hy : evo F y = some u := by kernel_rfl) (he : slE P ty = some e := by kernel_rfl) (hs : (infA P ty, z.cells.size, dok n d && Nat.ble bytes 65536) = (some (some z, 1, bytes), 1, true) := by kernel_rfl) : OG P ⟨d, .call { callee := .builtin .append, args := #[x, y], argTypes := #[ty, ty] }, t, s, af, gu⟩ n D F w K Q := by
  simp only [Prod.mk.injEq] at hs
  have h2 := and2 hs.2.2
  exact ⟨fun a ha K' hK => ow_app hR z bytes rfl rfl (slE_some he) (by have := hs.1; unfold infA at this; rw [he] at this; exact this) hs.2.1 xs (ha.ev hx) HO u ys (ha.ev hy) HY hl (by simpa using h2.2) hbase fun A' c' w' hO hu => hK _ _ _ (h A' c' w' hO hu) (ha.put h2.1)⟩
theorem Oappg {α : Type} {R : World → α → List Value → Prop} {x y : Operand} {e : TypeId} {base m c : Nat} {A : Option Addr} {xs ys : List α} {mm : Bool} {e' ty : TypeId} {u : Value} (z : Value) (sz bytes : Nat) (HO : OwnG base e sz R w (.slice A m c) xs) (HY : RdG mm e' sz R w u ys) (hne : 0 < ys.length)
    (hone : ∀ x cs, R w x cs → ∀ v, v ∈ cs → v.oneCell' = true) (hRU : ∀ w', Upd (ob A ++ []) w w' → ∀ x cs, R w x cs → R w' x cs)
    (hl : xs.length + ys.length ≤ 4194304) (hbase : base ≤ w.heap.size) (h : ∀ A' c' w', OwnG base e sz R w' (.slice A' (xs ++ ys).length c') (xs ++ ys) → Upd (ob A ++ []) w w' → K (pt d (.slice A' (xs ++ ys).length c') F) w')
    (hx : evo F x = some (.slice A m c) := by kernel_rfl) (hy : evo F y = some u := by kernel_rfl) (he : slE P ty = some e := by kernel_rfl) (hs : (infA P ty, z.cells.size, (dok n d && Nat.ble bytes 65536) && Nat.blt 0 sz) = (some (some z, sz, bytes), sz, true) := by kernel_rfl) : OG P ⟨d, .call { callee := .builtin .append, args := #[x, y], argTypes := #[ty, ty] }, t, s, af, gu⟩ n D F w K Q := by
  simp only [Prod.mk.injEq] at hs
  have h2 := and2 hs.2.2
  have h3 := and2 h2.1
  exact ⟨fun a ha K' hK => ow_appg z sz bytes rfl rfl (slE_some he) (by have := hs.1; unfold infA at this; rw [he] at this; exact this) hs.2.1 (by simpa using h2.2) xs (ha.ev hx) HO u ys (ha.ev hy) HY hne hone hRU hl (by simpa using h3.2) hbase fun A' c' w' hO hu => hK _ _ _ (h A' c' w' hO hu) (ha.put h3.1)⟩
def fnO (P : Program) (f : FuncId) : Option (Bool × Bool) := (P.funcs[f]?).map fun fn => (fn.name == "runtime.NumGoroutine", fn.body.isSome)
theorem fnO_some {f : FuncId} (h : fnO P f = some (false, true)) : ∃ fn, P.funcs[f]? = some fn ∧ (fn.name == "runtime.NumGoroutine") = false ∧ fn.body.isSome = true := by
  obtain ⟨fn, h1, h2⟩ := Option.map_eq_some_iff.1 h
  simp only [Prod.mk.injEq] at h2
  exact ⟨fn, h1, h2.1, h2.2⟩
theorem ag_args {a : Act} (ha : Ag n D F a) : ∀ {l : List Operand} {vs : List Value}, l.map (evo F) = vs.map some → l.map a.eval = vs
  | [], vs, h => by cases vs with | nil => rfl | cons _ _ => cases h
  | x :: l, vs, h => by
    cases vs with
    | nil => cases h
    | cons v vs =>
      injection h with h1 h2
      simp [ha.ev h1, ag_args ha h2]
theorem Oc {f : FuncId} {opds : Array Operand} {ts : Array TypeId} {args : Array Value} (h : Calls P f args w fun e w' => ∃ v, e = .returned v ∧ K (pt d v F) w')
    (ha : opds.toList.map (evo F) = args.toList.map some := by kernel_rfl) (hf : fnO P f = some (false, true) := by kernel_rfl) (hs : dok n d = true := by kernel_rfl) : OG P ⟨d, .call { callee := .value (.func f), args := opds, argTypes := ts }, t, s, af, gu⟩ n D F w K Q := by
  obtain ⟨fn, h1, h2, h3⟩ := fnO_some hf
  exact ⟨fun a hag K' hK => ow_call args rfl rfl h1 h2 h3 (by apply Array.toList_inj.1; rw [Array.toList_map]; exact ag_args hag ha) (h.mono fun e w' hh => by
    obtain ⟨v, rfl, hk⟩ := hh
    exact ⟨v, rfl, hK _ _ _ hk (hag.put hs)⟩)⟩
theorem Ocv {f : FuncId} {x : Operand} {opds : Array Operand} {ts : Array TypeId} {args : Array Value} (first cap : Array Value) (h : Calls P f args w fun e w' => ∃ v, e = .returned v ∧ K (pt d v F) w')
    (hx : evo F x = some (.func (.func f) first cap) := by kernel_rfl) (ha : first.toList.map some ++ (opds.toList.map (evo F) ++ cap.toList.map some) = args.toList.map some := by kernel_rfl) (hf : fnO P f = some (false, true) := by kernel_rfl) (hs : dok n d = true := by kernel_rfl) : OG P ⟨d, .call { callee := .value x, args := opds, argTypes := ts }, t, s, af, gu⟩ n D F w K Q := by
  obtain ⟨fn, h1, h2, h3⟩ := fnO_some hf
  have hall : ∀ {l : List (Option Value)} {vs : List Value}, l = vs.map some → ∀ y, y ∈ l → y.isSome = true := by
    intro l vs e y hy
    subst e
    obtain ⟨v, _, rfl⟩ := List.mem_map.1 hy
    rfl
  refine ⟨fun a hag K' hK => ow_callv first cap args rfl rfl (hag.ev hx) h1 h2 h3 ?_ (h.mono fun e w' hh => by
    obtain ⟨v, rfl, hk⟩ := hh
    exact ⟨v, rfl, hK _ _ _ hk (hag.put hs)⟩)⟩
  have hm : opds.toList.map (evo F) = (opds.toList.map a.eval).map some := by
    rw [List.map_map]
    refine List.map_congr_left fun y hy => ?_
    have := hall ha (evo F y) (by simp only [List.mem_append, List.mem_map]; exact .inr (.inl ⟨y, hy, rfl⟩))
    obtain ⟨v, hv⟩ := Option.isSome_iff_exists.1 this
    simp [hag.ev hv, hv]
  rw [hm, ← List.map_append, ← List.map_append] at ha
  apply Array.toList_inj.1
  have hinj := (List.map_inj_right (fun x y (h : some x = some y) => Option.some.inj h)).1 ha
  simpa using hinj
end
section
variable {P : Program} {f : FuncId} {args : Array Value} {w : World} {K : Value → World → Prop} {v : Value} {A1 A2 A3 A4 A5 A6 : World → Prop}
theorem mq (h : Calls P f args w fun e w' => e = .returned v ∧ w = w') (k : K v w) : Calls P f args w fun e w' => ∃ v, e = .returned v ∧ K v w' := h.mono fun _ _ ⟨h1, h2⟩ => ⟨v, h1, h2 ▸ k⟩
theorem m1 (h : Calls P f args w fun e w' => e = .returned v ∧ A1 w') (k : ∀ w', A1 w' → K v w') : Calls P f args w fun e w' => ∃ v, e = .returned v ∧ K v w' := h.mono fun _ w' ⟨h0, h1⟩ => ⟨_, h0, k w' h1⟩
theorem m2 (h : Calls P f args w fun e w' => e = .returned v ∧ A1 w' ∧ A2 w') (k : ∀ w', A1 w' → A2 w' → K v w') : Calls P f args w fun e w' => ∃ v, e = .returned v ∧ K v w' := h.mono fun _ w' ⟨h0, h1, h2⟩ => ⟨_, h0, k w' h1 h2⟩
theorem m3 (h : Calls P f args w fun e w' => e = .returned v ∧ A1 w' ∧ A2 w' ∧ A3 w') (k : ∀ w', A1 w' → A2 w' → A3 w' → K v w') : Calls P f args w fun e w' => ∃ v, e = .returned v ∧ K v w' := h.mono fun _ w' ⟨h0, h1, h2, h3⟩ => ⟨_, h0, k w' h1 h2 h3⟩
theorem m4 (h : Calls P f args w fun e w' => e = .returned v ∧ A1 w' ∧ A2 w' ∧ A3 w' ∧ A4 w') (k : ∀ w', A1 w' → A2 w' → A3 w' → A4 w' → K v w') : Calls P f args w fun e w' => ∃ v, e = .returned v ∧ K v w' := h.mono fun _ w' ⟨h0, h1, h2, h3, h4⟩ => ⟨_, h0, k w' h1 h2 h3 h4⟩
theorem m5 (h : Calls P f args w fun e w' => e = .returned v ∧ A1 w' ∧ A2 w' ∧ A3 w' ∧ A4 w' ∧ A5 w') (k : ∀ w', A1 w' → A2 w' → A3 w' → A4 w' → A5 w' → K v w') : Calls P f args w fun e w' => ∃ v, e = .returned v ∧ K v w' := h.mono fun _ w' ⟨h0, h1, h2, h3, h4, h5⟩ => ⟨_, h0, k w' h1 h2 h3 h4 h5⟩
theorem m6 (h : Calls P f args w fun e w' => e = .returned v ∧ A1 w' ∧ A2 w' ∧ A3 w' ∧ A4 w' ∧ A5 w' ∧ A6 w') (k : ∀ w', A1 w' → A2 w' → A3 w' → A4 w' → A5 w' → A6 w' → K v w') : Calls P f args w fun e w' => ∃ v, e = .returned v ∧ K v w' := h.mono fun _ w' ⟨h0, h1, h2, h3, h4, h5, h6⟩ => ⟨_, h0, k w' h1 h2 h3 h4 h5 h6⟩
variable {α β : Type} {V : α → Value} {V2 : α → β → Value} {B1 B2 B3 B4 B5 B6 : α → World → Prop} {E1 E2 E3 E4 E5 E6 E7 : α → β → World → Prop}
theorem e1 (h : Calls P f args w fun e w' => ∃ x, e = .returned (V x) ∧ B1 x w') (k : ∀ x w', B1 x w' → K (V x) w') : Calls P f args w fun e w' => ∃ v, e = .returned v ∧ K v w' := h.mono fun _ w' ⟨x, h0, h1⟩ => ⟨_, h0, k x w' h1⟩
theorem e2 (h : Calls P f args w fun e w' => ∃ x, e = .returned (V x) ∧ B1 x w' ∧ B2 x w') (k : ∀ x w', B1 x w' → B2 x w' → K (V x) w') : Calls P f args w fun e w' => ∃ v, e = .returned v ∧ K v w' := h.mono fun _ w' ⟨x, h0, h1, h2⟩ => ⟨_, h0, k x w' h1 h2⟩
theorem e3 (h : Calls P f args w fun e w' => ∃ x, e = .returned (V x) ∧ B1 x w' ∧ B2 x w' ∧ B3 x w') (k : ∀ x w', B1 x w' → B2 x w' → B3 x w' → K (V x) w') : Calls P f args w fun e w' => ∃ v, e = .returned v ∧ K v w' := h.mono fun _ w' ⟨x, h0, h1, h2, h3⟩ => ⟨_, h0, k x w' h1 h2 h3⟩
theorem e4 (h : Calls P f args w fun e w' => ∃ x, e = .returned (V x) ∧ B1 x w' ∧ B2 x w' ∧ B3 x w' ∧ B4 x w') (k : ∀ x w', B1 x w' → B2 x w' → B3 x w' → B4 x w' → K (V x) w') : Calls P f args w fun e w' => ∃ v, e = .returned v ∧ K v w' := h.mono fun _ w' ⟨x, h0, h1, h2, h3, h4⟩ => ⟨_, h0, k x w' h1 h2 h3 h4⟩
theorem e5 (h : Calls P f args w fun e w' => ∃ x, e = .returned (V x) ∧ B1 x w' ∧ B2 x w' ∧ B3 x w' ∧ B4 x w' ∧ B5 x w') (k : ∀ x w', B1 x w' → B2 x w' → B3 x w' → B4 x w' → B5 x w' → K (V x) w') : Calls P f args w fun e w' => ∃ v, e = .returned v ∧ K v w' := h.mono fun _ w' ⟨x, h0, h1, h2, h3, h4, h5⟩ => ⟨_, h0, k x w' h1 h2 h3 h4 h5⟩
theorem e6 (h : Calls P f args w fun e w' => ∃ x, e = .returned (V x) ∧ B1 x w' ∧ B2 x w' ∧ B3 x w' ∧ B4 x w' ∧ B5 x w' ∧ B6 x w') (k : ∀ x w', B1 x w' → B2 x w' → B3 x w' → B4 x w' → B5 x w' → B6 x w' → K (V x) w') : Calls P f args w fun e w' => ∃ v, e = .returned v ∧ K v w' := h.mono fun _ w' ⟨x, h0, h1, h2, h3, h4, h5, h6⟩ => ⟨_, h0, k x w' h1 h2 h3 h4 h5 h6⟩
theorem ee1 (h : Calls P f args w fun e w' => ∃ x y, e = .returned (V2 x y) ∧ E1 x y w') (k : ∀ x y w', E1 x y w' → K (V2 x y) w') : Calls P f args w fun e w' => ∃ v, e = .returned v ∧ K v w' := h.mono fun _ w' ⟨x, y, h0, h1⟩ => ⟨_, h0, k x y w' h1⟩
theorem ee2 (h : Calls P f args w fun e w' => ∃ x y, e = .returned (V2 x y) ∧ E1 x y w' ∧ E2 x y w') (k : ∀ x y w', E1 x y w' → E2 x y w' → K (V2 x y) w') : Calls P f args w fun e w' => ∃ v, e = .returned v ∧ K v w' := h.mono fun _ w' ⟨x, y, h0, h1, h2⟩ => ⟨_, h0, k x y w' h1 h2⟩
theorem ee3 (h : Calls P f args w fun e w' => ∃ x y, e = .returned (V2 x y) ∧ E1 x y w' ∧ E2 x y w' ∧ E3 x y w') (k : ∀ x y w', E1 x y w' → E2 x y w' → E3 x y w' → K (V2 x y) w') : Calls P f args w fun e w' => ∃ v, e = .returned v ∧ K v w' := h.mono fun _ w' ⟨x, y, h0, h1, h2, h3⟩ => ⟨_, h0, k x y w' h1 h2 h3⟩
theorem ee4 (h : Calls P f args w fun e w' => ∃ x y, e = .returned (V2 x y) ∧ E1 x y w' ∧ E2 x y w' ∧ E3 x y w' ∧ E4 x y w') (k : ∀ x y w', E1 x y w' → E2 x y w' → E3 x y w' → E4 x y w' → K (V2 x y) w') : Calls P f args w fun e w' => ∃ v, e = .returned v ∧ K v w' := h.mono fun _ w' ⟨x, y, h0, h1, h2, h3, h4⟩ => ⟨_, h0, k x y w' h1 h2 h3 h4⟩
theorem ee5 (h : Calls P f args w fun e w' => ∃ x y, e = .returned (V2 x y) ∧ E1 x y w' ∧ E2 x y w' ∧ E3 x y w' ∧ E4 x y w' ∧ E5 x y w') (k : ∀ x y w', E1 x y w' → E2 x y w' → E3 x y w' → E4 x y w' → E5 x y w' → K (V2 x y) w') : Calls P f args w fun e w' => ∃ v, e = .returned v ∧ K v w' := h.mono fun _ w' ⟨x, y, h0, h1, h2, h3, h4, h5⟩ => ⟨_, h0, k x y w' h1 h2 h3 h4 h5⟩
theorem ee6 (h : Calls P f args w fun e w' => ∃ x y, e = .returned (V2 x y) ∧ E1 x y w' ∧ E2 x y w' ∧ E3 x y w' ∧ E4 x y w' ∧ E5 x y w' ∧ E6 x y w') (k : ∀ x y w', E1 x y w' → E2 x y w' → E3 x y w' → E4 x y w' → E5 x y w' → E6 x y w' → K (V2 x y) w') : Calls P f args w fun e w' => ∃ v, e = .returned v ∧ K v w' := h.mono fun _ w' ⟨x, y, h0, h1, h2, h3, h4, h5, h6⟩ => ⟨_, h0, k x y w' h1 h2 h3 h4 h5 h6⟩
theorem ee7 (h : Calls P f args w fun e w' => ∃ x y, e = .returned (V2 x y) ∧ E1 x y w' ∧ E2 x y w' ∧ E3 x y w' ∧ E4 x y w' ∧ E5 x y w' ∧ E6 x y w' ∧ E7 x y w') (k : ∀ x y w', E1 x y w' → E2 x y w' → E3 x y w' → E4 x y w' → E5 x y w' → E6 x y w' → E7 x y w' → K (V2 x y) w') : Calls P f args w fun e w' => ∃ v, e = .returned v ∧ K v w' := h.mono fun _ w' ⟨x, y, h0, h1, h2, h3, h4, h5, h6, h7⟩ => ⟨_, h0, k x y w' h1 h2 h3 h4 h5 h6 h7⟩
variable {γ : Type} {mm : Bool} {base : Nat} {te : TypeId} {sz : Nat} {RR : World → γ → List Value → Prop} {xs : List γ} {C1 C2 C3 C4 : Value → World → Prop} {U : Value → Value}
theorem so1 (h : Calls P f args w fun e w' => ∃ v, e = .returned (U v) ∧ OwnG base te sz RR w' v xs) (k : ∀ A c w', OwnG base te sz RR w' (.slice A xs.length c) xs → xs.length ≤ c → c ≤ maxLen → K (U (.slice A xs.length c)) w') : Calls P f args w fun e w' => ∃ v, e = .returned v ∧ K v w' := h.mono fun _ w' ⟨v, h0, hO⟩ => by
  obtain ⟨A, c, rfl, h5, h6⟩ := hO.rd.shape
  exact ⟨_, h0, k A c w' hO h5 h6⟩
theorem so2 (h : Calls P f args w fun e w' => ∃ v, e = .returned (U v) ∧ OwnG base te sz RR w' v xs ∧ C1 v w') (k : ∀ A c w', OwnG base te sz RR w' (.slice A xs.length c) xs → xs.length ≤ c → c ≤ maxLen → C1 (.slice A xs.length c) w' → K (U (.slice A xs.length c)) w') : Calls P f args w fun e w' => ∃ v, e = .returned v ∧ K v w' := h.mono fun _ w' ⟨v, h0, hO, h1⟩ => by
  obtain ⟨A, c, rfl, h5, h6⟩ := hO.rd.shape
  exact ⟨_, h0, k A c w' hO h5 h6 h1⟩
theorem so3 (h : Calls P f args w fun e w' => ∃ v, e = .returned (U v) ∧ OwnG base te sz RR w' v xs ∧ C1 v w' ∧ C2 v w') (k : ∀ A c w', OwnG base te sz RR w' (.slice A xs.length c) xs → xs.length ≤ c → c ≤ maxLen → C1 (.slice A xs.length c) w' → C2 (.slice A xs.length c) w' → K (U (.slice A xs.length c)) w') : Calls P f args w fun e w' => ∃ v, e = .returned v ∧ K v w' := h.mono fun _ w' ⟨v, h0, hO, h1, h2⟩ => by
  obtain ⟨A, c, rfl, h5, h6⟩ := hO.rd.shape
  exact ⟨_, h0, k A c w' hO h5 h6 h1 h2⟩
theorem so4 (h : Calls P f args w fun e w' => ∃ v, e = .returned (U v) ∧ OwnG base te sz RR w' v xs ∧ C1 v w' ∧ C2 v w' ∧ C3 v w') (k : ∀ A c w', OwnG base te sz RR w' (.slice A xs.length c) xs → xs.length ≤ c → c ≤ maxLen → C1 (.slice A xs.length c) w' → C2 (.slice A xs.length c) w' → C3 (.slice A xs.length c) w' → K (U (.slice A xs.length c)) w') : Calls P f args w fun e w' => ∃ v, e = .returned v ∧ K v w' := h.mono fun _ w' ⟨v, h0, hO, h1, h2, h3⟩ => by
  obtain ⟨A, c, rfl, h5, h6⟩ := hO.rd.shape
  exact ⟨_, h0, k A c w' hO h5 h6 h1 h2 h3⟩
theorem sr1 (h : Calls P f args w fun e w' => ∃ v, e = .returned (U v) ∧ RdG mm te sz RR w' v xs) (k : ∀ A c w', RdG mm te sz RR w' (.slice A xs.length c) xs → xs.length ≤ c → c ≤ maxLen → K (U (.slice A xs.length c)) w') : Calls P f args w fun e w' => ∃ v, e = .returned v ∧ K v w' := h.mono fun _ w' ⟨v, h0, hO⟩ => by
  obtain ⟨A, c, rfl, h5, h6⟩ := hO.shape
  exact ⟨_, h0, k A c w' hO h5 h6⟩
theorem sr2 (h : Calls P f args w fun e w' => ∃ v, e = .returned (U v) ∧ RdG mm te sz RR w' v xs ∧ C1 v w') (k : ∀ A c w', RdG mm te sz RR w' (.slice A xs.length c) xs → xs.length ≤ c → c ≤ maxLen → C1 (.slice A xs.length c) w' → K (U (.slice A xs.length c)) w') : Calls P f args w fun e w' => ∃ v, e = .returned v ∧ K v w' := h.mono fun _ w' ⟨v, h0, hO, h1⟩ => by
  obtain ⟨A, c, rfl, h5, h6⟩ := hO.shape
  exact ⟨_, h0, k A c w' hO h5 h6 h1⟩
theorem sr3 (h : Calls P f args w fun e w' => ∃ v, e = .returned (U v) ∧ RdG mm te sz RR w' v xs ∧ C1 v w' ∧ C2 v w') (k : ∀ A c w', RdG mm te sz RR w' (.slice A xs.length c) xs → xs.length ≤ c → c ≤ maxLen → C1 (.slice A xs.length c) w' → C2 (.slice A xs.length c) w' → K (U (.slice A xs.length c)) w') : Calls P f args w fun e w' => ∃ v, e = .returned v ∧ K v w' := h.mono fun _ w' ⟨v, h0, hO, h1, h2⟩ => by
  obtain ⟨A, c, rfl, h5, h6⟩ := hO.shape
  exact ⟨_, h0, k A c w' hO h5 h6 h1 h2⟩
theorem sr4 (h : Calls P f args w fun e w' => ∃ v, e = .returned (U v) ∧ RdG mm te sz RR w' v xs ∧ C1 v w' ∧ C2 v w' ∧ C3 v w') (k : ∀ A c w', RdG mm te sz RR w' (.slice A xs.length c) xs → xs.length ≤ c → c ≤ maxLen → C1 (.slice A xs.length c) w' → C2 (.slice A xs.length c) w' → C3 (.slice A xs.length c) w' → K (U (.slice A xs.length c)) w') : Calls P f args w fun e w' => ∃ v, e = .returned v ∧ K v w' := h.mono fun _ w' ⟨v, h0, hO, h1, h2, h3⟩ => by
  obtain ⟨A, c, rfl, h5, h6⟩ := hO.shape
  exact ⟨_, h0, k A c w' hO h5 h6 h1 h2 h3⟩
end
structure GA (P : Program) (ops : Array Oper) (Q : Exit → Act → World → Prop) (S : World → Prop) (fuel : Nat) (l : Array Bool) (n : Nat) (D : List Deferred) (F : Fr) (w : World) : Prop where
  out : ∀ a, Ag n D F a → WA P ops Q S fuel l a w
structure GH (P : Program) (ops : Array Oper) (Q : Exit → Act → World → Prop) (S : World → Prop) (fuel : Nat) (l : Array Bool) (n : Nat) (D : List Deferred) (F : Fr) (w : World) : Prop where
  s : S w
  out : GA P ops Q S fuel l n D F w
section
variable {P : Program} {Q : Exit → Act → World → Prop} {n : Nat} {D : List Deferred} {F : Fr} {w : World} {ops : Array Oper} {S : World → Prop} {fuel : Nat} {l : Array Bool} {id : Nat}
theorem hld (hS : S w) (h : S w → GA P ops Q S fuel l n D F w) : GH P ops Q S fuel l n D F w := ⟨hS, h hS⟩
theorem Rg (k : Nat) (S : World → Prop) (h : ∀ w', Upd [] w w' → GH P ops Q S k (Array.replicate k false) n D F w') (hn : ops.size = k := by kernel_rfl) (hm : P.follows .mixedOrders = true := by kernel_rfl) : GC P (.region id ops true) Q n D F w := by
  subst hn
  exact ⟨fun a ha => Rgo S _ hm rfl rfl fun w' hu => ⟨(h w' hu).s, (h w' hu).out.out a ha⟩⟩
theorem R0 (i : Nat) {o : Oper} (hi : ops[i]? = some o) (h : OG P o n D F w (GH P ops Q S fuel (l.setIfInBounds i true) n D) Q) (hc : (Region.ready .any ops l == [i]) = true := by kernel_rfl) (hw : gOn ops F o.guard = (true, true) := by kernel_rfl) : GA P ops Q S (fuel + 1) l n D F w :=
  ⟨fun a ha => Rst (l.setIfInBounds i true) hi (by simp only [rdB, hc, Bool.true_and]; simp) (gOn_w ha hw) (h.out a ha _ fun F' w' a' k ha' => ⟨k.s, k.out.out a' ha'⟩)⟩
theorem R2 (i j : Nat) {o o' : Oper} (hi : ops[i]? = some o) (hj : ops[j]? = some o') (h1 : OG P o n D F w (GH P ops Q S fuel (l.setIfInBounds i true) n D) Q) (h2 : OG P o' n D F w (GH P ops Q S fuel (l.setIfInBounds j true) n D) Q) (hc : (Region.ready .any ops l == [i, j]) = true := by kernel_rfl)
    (hw : (gOn ops F o.guard, gOn ops F o'.guard) = ((true, true), (true, true)) := by kernel_rfl) : GA P ops Q S (fuel + 1) l n D F w := by
  simp only [Prod.mk.injEq] at hw
  exact ⟨fun a ha => Rst2 _ _ hi hj hc rfl rfl (gOn_w ha hw.1) (gOn_w ha hw.2) (h1.out a ha _ fun F' w' a' k ha' => ⟨k.s, k.out.out a' ha'⟩) (h2.out a ha _ fun F' w' a' k ha' => ⟨k.s, k.out.out a' ha'⟩)⟩
def opA (ops : Array Oper) (i : Nat) : Oper := (ops[i]?).getD default
def tkA (ops : Array Oper) (l : Array Bool) (i : Nat) : Bool := (ops[i]?).isSome && (Region.noSelect ops && Region.free .any ops l i && (Region.ready .any ops l).contains i)
theorem tkA_b {i : Nat} (h : tkA ops l i = true) : ops[i]? = some (opA ops i) ∧ tkB ops l (l.setIfInBounds i true) i = true := by
  have := and2 h
  obtain ⟨o, ho⟩ := Option.isSome_iff_exists.1 this.1
  exact ⟨by simp [opA, ho], by unfold tkB; rw [this.2]; simp⟩
theorem Rr (i : Nat) (hS : S w) (v : Value) (hy : ∀ w', S w' → (execOp (ovr F) (opA ops i)).run P w' = .ok (.value v) w') (h : GA P ops Q S fuel (l.setIfInBounds i true) n D (pt (opA ops i).dst v F) w)
    (hc : ((tkA ops l i, gOn ops F (opA ops i).guard), (dok n (opA ops i).dst && opIn F (opA ops i).op)) = ((true, (true, true)), true) := by kernel_rfl) (hQ : ∀ c a w, Q (.panic c) (a.put (opA ops i).dst v) w → Q (.panic c) a w := by exact fun _ _ _ h => h) : GA P ops Q S (fuel + 1) l n D F w := by
  simp only [Prod.mk.injEq] at hc
  obtain ⟨h1, h2⟩ := tkA_b hc.1.1
  have h3 := and2 hc.2
  exact ⟨fun a ha => Rtk v _ h1 rfl h2 hQ (gOn_w ha hc.1.2) (fun w' hs => by rw [← opIn_ex ha h3.2]; exact hy w' hs) hS (h.out _ (ha.put h3.1))⟩
theorem Rt (i : Nat) (hS : S w) (h : GA P ops Q S fuel (l.setIfInBounds i true) n D (pt (opA ops i).dst (vo P w F (opA ops i)) F) w) (hy : ∀ w', (execOp (ovr F) (opA ops i)).run P w' = .ok (.value (vo P w F (opA ops i))) w' := by intro _; kernel_rfl)
    (hc : ((tkA ops l i, gOn ops F (opA ops i).guard), (dok n (opA ops i).dst && opIn F (opA ops i).op)) = ((true, (true, true)), true) := by kernel_rfl) (hQ : ∀ c a w', Q (.panic c) (a.put (opA ops i).dst (vo P w F (opA ops i))) w' → Q (.panic c) a w' := by exact fun _ _ _ h => h) : GA P ops Q S (fuel + 1) l n D F w := by
  simp only [Prod.mk.injEq] at hc
  obtain ⟨h1, h2⟩ := tkA_b hc.1.1
  have h3 := and2 hc.2
  exact ⟨fun a ha => Rtk _ _ h1 rfl h2 (fun c a w' q => by exact hQ c a w' q) (gOn_w ha hc.1.2) (fun w' hs => by rw [← opIn_ex ha h3.2]; exact hy w') hS (h.out _ (ha.put h3.1))⟩
theorem Ro (i : Nat) (hS : S w) (h : GA P ops Q S fuel (l.setIfInBounds i true) n D (pt (opA ops i).dst undef F) w) (hc : ((tkA ops l i, gOn ops F (opA ops i).guard), dok n (opA ops i).dst) = ((true, (true, false)), true) := by kernel_rfl)
    (hQ : ∀ c a w, Q (.panic c) (a.put (opA ops i).dst undef) w → Q (.panic c) a w := by exact fun _ _ _ h => h) : GA P ops Q S (fuel + 1) l n D F w := by
  simp only [Prod.mk.injEq] at hc
  obtain ⟨h1, h2⟩ := tkA_b hc.1.1
  exact ⟨fun a ha => Roff _ h1 rfl h2 (fun c a w' q => by exact hQ c a w' q) (gOn_w ha hc.1.2) hS (h.out _ (ha.put hc.2))⟩
def ldc (P : Program) (F : Fr) (o : Oper) : Option Value × Bool := match o.op with
  | .load ty x => (evo F x, scalarT P ty)
  | _ => (none, false)
theorem Rl (i : Nat) (hS : S w) {p : Addr} {v : Value} (hl : ∀ w', S w' → w'.cell? p = some v) (h : GA P ops Q S fuel (l.setIfInBounds i true) n D (pt (opA ops i).dst v F) w) (hx : ldc P F (opA ops i) = (some (.pointer (some p)), true) := by kernel_rfl)
    (hc : ((tkA ops l i, gOn ops F (opA ops i).guard), (dok n (opA ops i).dst && opIn F (opA ops i).op)) = ((true, (true, true)), true) := by kernel_rfl) (hQ : ∀ c a w, Q (.panic c) (a.put (opA ops i).dst v) w → Q (.panic c) a w := by exact fun _ _ _ h => h) : GA P ops Q S (fuel + 1) l n D F w := by
  simp only [Prod.mk.injEq] at hc
  obtain ⟨h1, h2⟩ := tkA_b hc.1.1
  have h3 := and2 hc.2
  obtain ⟨ty, x, h4, h5, h6⟩ : ∃ ty x, (opA ops i).op = .load ty x ∧ evo F x = some (.pointer (some p)) ∧ scalarT P ty = true := by
    unfold ldc at hx
    split at hx
    · rename_i ty x hop
      simp only [Prod.mk.injEq] at hx
      exact ⟨ty, x, hop, hx.1, hx.2⟩
    · simp at hx
  exact ⟨fun a ha => Rtk v _ h1 rfl h2 hQ (gOn_w ha hc.1.2) (fun w' hs => run_ld h4 (ha.ev h5) h6 (hl w' hs)) hS (h.out _ (ha.put h3.1))⟩
theorem re (h : GQ Q .normal n D F w) (hr : (Region.ready .any ops l == []) = true := by kernel_rfl) : GA P ops Q S fuel l n D F w := ⟨fun a ha => Rend hr (h.out a ha)⟩
theorem bla (j : Nat) (e : Bool) (ht : e = true → GA P ops Q S fuel l n D ((j, .bool true) :: F) w) (hf : e = false → GA P ops Q S fuel l n D ((j, .bool false) :: F) w) (hv : lk F j = some (.bool e) := by kernel_rfl) : GA P ops Q S fuel l n D F w := by
  refine ⟨fun a ha => ?_⟩
  have key : ∀ b, e = b → Ag n D ((j, .bool b) :: F) a := fun b hb => ⟨ha.sz, ha.df, fun i v hi => by
    rcases lk_cons hi with ⟨rfl, rfl⟩ | ⟨_, h2⟩
    · rw [← hb]; exact ha.at_ _ _ hv
    · exact ha.at_ _ _ h2⟩
  rcases bool_dich e with q | q
  · exact (ht q).out a (key _ q)
  · exact (hf q).out a (key _ q)
theorem sya (j : Nat) {e b : Bool} (q : e = b) (h : GA P ops Q S fuel l n D ((j, .bool b) :: F) w) (hv : lk F j = some (.bool e) := by kernel_rfl) : GA P ops Q S fuel l n D F w := by
  subst q
  refine ⟨fun a ha => h.out a ⟨ha.sz, ha.df, fun i v hi => ?_⟩⟩
  rcases lk_cons hi with ⟨rfl, rfl⟩ | ⟨_, h2⟩
  · exact ha.at_ _ _ hv
  · exact ha.at_ _ _ h2
end
def rsv (rs : Array ResultVar) (F : Fr) : Option Value := match rs.toList with
  | [] => some (.tuple #[])
  | [.tmp i] => lk F i
  | [.tmp i, .tmp j] => (lk F i).bind fun u => (lk F j).map fun v => .tuple #[u, v]
  | [.tmp i, .tmp j, .tmp k] => (lk F i).bind fun u => (lk F j).bind fun v => (lk F k).map fun x => .tuple #[u, v, x]
  | _ => none
section
variable {P : Program} {n : Nat} {F : Fr} {w : World} {D : List Deferred} {fn : Func} {R : Ending → World → Prop}
theorem rsv_run {a : Act} (ha : Ag n D F a) {v : Value} (h : rsv fn.results F = some v) : (results fn a.tmps).run P w = .ok v w := by
  obtain ⟨rs, hrs⟩ : ∃ rs, fn.results = rs := ⟨_, rfl⟩
  rw [hrs] at h
  have hg : ∀ {i v}, lk F i = some v → a.tmps[i]?.getD undef = v := fun h => by rw [ha.at_ _ _ h]; rfl
  obtain ⟨l⟩ := rs
  unfold rsv at h
  simp only at h
  split at h
  · simp [results, hrs]
    simpa using h
  · simp [results, hrs, hg h]
  · obtain ⟨u, h1, h2⟩ := Option.bind_eq_some_iff.1 h
    obtain ⟨x, h3, rfl⟩ := Option.map_eq_some_iff.1 h2
    simp [results, hrs, hg h1, hg h3]
  · obtain ⟨u, h1, h2⟩ := Option.bind_eq_some_iff.1 h
    obtain ⟨x, h3, h4⟩ := Option.bind_eq_some_iff.1 h2
    obtain ⟨y, h5, rfl⟩ := Option.map_eq_some_iff.1 h4
    simp [results, hrs, hg h1, hg h3, hg h5]
  · cases h
theorem rr (v : Value) (h : R (.returned v) w) (hv : rsv fn.results F = some v := by kernel_rfl) : GQ (bodyPost P fn R) .ret n [] F w := ⟨fun a ha => bp_ret v (rsv_run ha hv) ha.df h⟩
theorem rm (v : Value) (h : R (.returned v) w) (hv : rsv fn.results F = some v := by kernel_rfl) : GQ (bodyPost P fn R) .normal n [] F w := ⟨fun a ha => bp_end v (rsv_run ha hv) ha.df h⟩
def rcS (P : Program) (rs : Array ResultVar) (F : Fr) : Option (Option Value × Option Value × Option Bool × Option Nat) := match rs.toList with
  | [.cell p ty, .tmp q] => some (lk F p, lk F q, (P.underlying ty).map fun d => (match d with | .struct _ | .array _ _ => true | _ => false), (P.info? ty).map (·.size))
  | _ => none
def rcS1 (P : Program) (rs : Array ResultVar) (F : Fr) : Option (Option Value × Option Bool × Option Nat) := match rs.toList with
  | [.cell p ty] => some (lk F p, (P.underlying ty).map fun d => (match d with | .struct _ | .array _ _ => true | _ => false), (P.info? ty).map (·.size))
  | _ => none
theorem rct_run {a : Act} (ha : Ag n D F a) {g : Nat} {cs : Array Value} {t : TypeId} {fr : Nat × Nat} {k : Nat} {u : Value} (B : w.heap[g]? = some (.cells cs t fr)) (hz : some k = some cs.size) (hc : rcS P fn.results F = some (some (.pointer (some ⟨g, 0, none⟩)), some u, some true, some k)) :
    (results fn a.tmps).run P w = .ok (.tuple #[.agg cs, u]) w := by
  obtain ⟨rs, hrs⟩ : ∃ rs, fn.results = rs := ⟨_, rfl⟩
  rw [hrs] at hc
  obtain ⟨l⟩ := rs
  unfold rcS at hc
  simp only at hc
  split at hc
  · simp only [Option.some.injEq, Prod.mk.injEq] at hc
    obtain ⟨h1, h2, h3, h4⟩ := hc
    obtain ⟨dd, h5, h6⟩ := Option.map_eq_some_iff.1 h3
    have h7 := results_cell_tmp (P := P) hrs a.tmps w g t cs fr dd (by simp [ha.at_ _ _ h1]) B h5 (by cases dd <;> first | rfl | exact h6) (h4.trans hz)
    have h8 := ha.at_ _ _ h2
    rw [h7]
    simp [h8]
  · cases hc
theorem rct {g : Nat} {cs : Array Value} {t : TypeId} {fr : Nat × Nat} (B : w.heap[g]? = some (.cells cs t fr)) (u : Value) (h : R (.returned (.tuple #[.agg cs, u])) w) (hc : rcS P fn.results F = some (some (.pointer (some ⟨g, 0, none⟩)), some u, some true, some cs.size) := by kernel_rfl) : GQ (bodyPost P fn R) .ret n [] F w :=
  ⟨fun a ha => bodyPost_ret (rct_run ha B rfl hc) ha.df h⟩
theorem rc1k {g : Nat} {cs : Array Value} {t : TypeId} {fr : Nat × Nat} {k : Nat} (B : w.heap[g]? = some (.cells cs t fr)) (h : R (.returned (.agg cs)) w) (hz : some k = some cs.size) (hc : rcS1 P fn.results F = some (some (.pointer (some ⟨g, 0, none⟩)), some true, some k)) : GQ (bodyPost P fn R) .ret n [] F w := by
  obtain ⟨rs, hrs⟩ : ∃ rs, fn.results = rs := ⟨_, rfl⟩
  rw [hrs] at hc
  obtain ⟨l⟩ := rs
  unfold rcS1 at hc
  simp only at hc
  split at hc
  · simp only [Option.some.injEq, Prod.mk.injEq] at hc
    obtain ⟨h1, h3, h4⟩ := hc
    obtain ⟨dd, h5, h6⟩ := Option.map_eq_some_iff.1 h3
    refine ⟨fun a ha => bodyPost_ret ?_ ha.df h⟩
    have hp := ha.at_ _ _ h1
    simp [results, hrs, hp, asAddr, run_loadVar_row w g t _ cs fr dd B h5 (by cases dd <;> first | rfl | exact h6) (h4.trans hz)]
  · cases hc
end
section
variable {S : List Nat} {a b c w w' : World} {x y : Nat} {o : Go.Obj}
theorem lr {n : Nat} : n ≤ n := Nat.le_refl _
theorem le {i j k : Nat} (h : i ≤ j) (h2 : j ≤ k) : i ≤ k := Nat.le_trans h h2
theorem im (h : x ∈ S := by simp) : x ∈ S ∨ a.heap.size ≤ x := .inl h
theorem nr (h : a.heap.size ≤ x) : x ∈ S ∨ a.heap.size ≤ x := .inr h
theorem ni (h : a.heap.size ≤ y) (h2 : y ≤ x) : x ∈ S ∨ a.heap.size ≤ x := .inr (Nat.le_trans h h2)
theorem ac {p : Nat → Prop} {a : Nat} {S : List Nat} (h : p a) (k : ∀ x, x ∈ S → p x) : ∀ x, x ∈ a :: S → p x := all_cons h k
theorem ut {S' : List Nat} (h : Upd S a b) (k : Upd S' b c) (hS : ∀ x, x ∈ S' → x ∈ S ∨ a.heap.size ≤ x) : Upd S a c := h.trans' k hS
theorem u1 (h : Upd S a b) (k : Upd [x] b c) (hx : x ∈ S ∨ a.heap.size ≤ x) : Upd S a c := h.trans' k fun y hy => by simp at hy; subst hy; exact hx
theorem ub (h : Upd [] w w') (B : w.heap[x]? = some o) : w'.heap[x]? = some o := h.blk (by simp) B
theorem ub1 (h : Upd [y] w w') (hn : x ≠ y) (B : w.heap[x]? = some o) : w'.heap[x]? = some o := h.blk (by simpa using hn) B
theorem nb {i j k l : Nat} (h : i < j) (h2 : j ≤ k) (h3 : k ≤ l) : i ≠ l := by omega
theorem bs : ((∀ b, (true && b) = b) ∧ (∀ b, (false && b) = false) ∧ (∀ b, (b && true) = b) ∧ (∀ b, (b && false) = false)) ∧ ((∀ b, (true || b) = true) ∧ (∀ b, (false || b) = b) ∧ (∀ b, (b || true) = true) ∧ (∀ b, (b || false) = b)) ∧ ((!true) = false ∧ (!false) = true ∧ ((false = true) = False)) := by
  refine ⟨⟨?_, ?_, ?_, ?_⟩, ⟨?_, ?_, ?_, ?_⟩, ?_, ?_, ?_⟩ <;> simp
end
section
variable {P : Program} {Q : Exit → Act → World → Prop} {n : Nat} {D : List Deferred} {F : Fr} {w : World} {K : Fr → World → Prop} {d : Option Tmp} {t : TypeId} {s : String} {af : Array Edge} {gu : Option (Nat × Bool)}
theorem Oel {ty ty' : TypeId} {x : Operand} {b off : Nat} {cs : Array Value} {fr : Nat × Nat} (sub : List Value) (B : w.heap[b]? = some (.cells cs ty' fr)) (hs : (cs.toList.drop off).take sub.length = sub) (h : K (pt d (.agg sub.toArray) F) w) (hx : evo F x = some (.pointer (some ⟨b, off, none⟩)) := by kernel_rfl)
    (hc : ((P.underlying ty).map (·.isRow), (P.info? ty).map (·.size), dok n d) = (some true, some sub.length, true) := by kernel_rfl) : OG P ⟨d, .load ty x, t, s, af, gu⟩ n D F w K Q := by
  simp only [Prod.mk.injEq] at hc
  exact ⟨fun a ha K' hK => ow_lda _ rfl rfl (ha.ev hx) B hc.1 hc.2.1 hs (hK _ _ _ h (ha.put hc.2.2))⟩
theorem run_eqo {o : Oper} {ev : Operand → Value} (v0 : Value) {v : Value} (hr : (execOp ev o).run P w = .ok (.value v0) w) (he : v0 = v) : (execOp ev o).run P w = .ok (.value v) w := by subst he; exact hr
theorem lda_o {o : Oper} {ev : Operand → Value} {ty : TypeId} {x : Operand} {g off : Nat} {cs : Array Value} {t : TypeId} {fr : Nat × Nat} {w : World} (sub : List Value) (ho : o.op = .load ty x) (hx : ev x = .pointer (some ⟨g, off, none⟩)) (hb : w.heap[g]? = some (.cells cs t fr))
    (hu : (P.underlying ty).map (·.isRow) = some true) (hi : (P.info? ty).map (·.size) = some sub.length) (hs : (cs.toList.drop off).take sub.length = sub) : (execOp ev o).run P w = .ok (.value (.agg sub.toArray)) w := by
  obtain ⟨d, hd, hr⟩ := Option.map_eq_some_iff.1 hu
  have hc : w.rangeAt g off sub := fun j v hj => by
    rw [blk_cell hb]
    have hjl : j < sub.length := (List.getElem?_eq_some_iff.1 hj).1
    rw [← hs, List.getElem?_take, if_pos hjl, List.getElem?_drop] at hj
    simpa using hj
  unfold execOp
  simp only [ho, hx, Instr.loadAt, Instr.sureAddr, Sem.run_bind, Sem.run_pure, Result.andThen_ok, run_loadVar_mid w g off ty sub d hc hd hr hi]
end
section
variable {P : Program} {n : Nat} {F : Fr} {w : World} {fn : Func} {R : Ending → World → Prop}
theorem rctx (k : Nat) {g : Nat} {cs : Array Value} {t : TypeId} {fr : Nat × Nat} (hz : cs.size = k) (B : w.heap[g]? = some (.cells cs t fr)) (u : Value) (h : R (.returned (.tuple #[.agg cs, u])) w) (hc : rcS P fn.results F = some (some (.pointer (some ⟨g, 0, none⟩)), some u, some true, some k) := by kernel_rfl) : GQ (bodyPost P fn R) .ret n [] F w :=
  ⟨fun a ha => bodyPost_ret (rct_run ha B (by rw [hz]) hc) ha.df h⟩
theorem rc1 {g : Nat} {cs : Array Value} {t : TypeId} {fr : Nat × Nat} (B : w.heap[g]? = some (.cells cs t fr)) (h : R (.returned (.agg cs)) w) (hc : rcS1 P fn.results F = some (some (.pointer (some ⟨g, 0, none⟩)), some true, some cs.size) := by kernel_rfl) : GQ (bodyPost P fn R) .ret n [] F w := rc1k B h rfl hc
theorem rc1x (k : Nat) {g : Nat} {cs : Array Value} {t : TypeId} {fr : Nat × Nat} (hz : cs.size = k) (B : w.heap[g]? = some (.cells cs t fr)) (h : R (.returned (.agg cs)) w) (hc : rcS1 P fn.results F = some (some (.pointer (some ⟨g, 0, none⟩)), some true, some k) := by kernel_rfl) : GQ (bodyPost P fn R) .ret n [] F w :=
  rc1k (k := k) B h (by rw [hz]) hc
end
section
variable {C : Prop} {α β γ δ ε ζ η : Type}
theorem x12 {P1 P2 : α → Prop} (h : ∃ x, P1 x ∧ P2 x) (k : ∀ x, P1 x → P2 x → C) : C := let ⟨x, h1, h2⟩ := h; k x h1 h2
theorem x23 {P1 P2 P3 : α → β → Prop} (h : ∃ x y, P1 x y ∧ P2 x y ∧ P3 x y) (k : ∀ x y, P1 x y → P2 x y → P3 x y → C) : C := let ⟨x, y, h1, h2, h3⟩ := h; k x y h1 h2 h3
theorem x75 {P1 P2 P3 P4 P5 : α → β → γ → δ → ε → ζ → η → Prop} (h : ∃ a b c d e f g, P1 a b c d e f g ∧ P2 a b c d e f g ∧ P3 a b c d e f g ∧ P4 a b c d e f g ∧ P5 a b c d e f g) (k : ∀ a b c d e f g, P1 a b c d e f g → P2 a b c d e f g → P3 a b c d e f g → P4 a b c d e f g → P5 a b c d e f g → C) : C :=
  let ⟨a, b, c, d, e, f, g, h1, h2, h3, h4, h5⟩ := h; k a b c d e f g h1 h2 h3 h4 h5
theorem ab {w : World} {g : Nat} {c : Cur} (h : CurAt w g c) (k : ∀ x, x = c → CurAt w g x → C) : C := k c rfl h
end
section
variable {P : Program} {w w' : World}
theorem uc {p : Addr} {v : Value} (h : Upd [] w w') (hc : w.cell? p = some v) : w'.cell? p = some v := h.cell (by simp) hc
theorem el_at {b o : Nat} {cs : Array Value} {t : TypeId} {fr : Nat × Nat} {sub : List Value} (hb : w.heap[b]? = some (.cells cs t fr)) (hs : (cs.toList.drop o).take sub.length = sub) (i : Nat) (hi : i < sub.length) : w.cell? ⟨b, o + i, none⟩ = some sub[i] := by
  rw [blk_cell hb, ← Array.getElem?_toList, ← List.getElem?_drop]
  have h2 : sub[i]? = some sub[i] := by simp
  rw [← h2]
  conv => rhs; rw [← hs]
  rw [List.getElem?_take, if_pos hi]
def ixc (P : Program) (F : Fr) (o : Oper) : Option (Option Addr × Nat) × Option Int × Option Nat := match o.op with
  | .indexAddr ty x ix => (slA F x, ixA F ix, ((slE P ty).bind P.info?).map (·.size))
  | _ => (none, none, none)
theorem Ri {n : Nat} {D : List Deferred} {F : Fr} {Q : Exit → Act → World → Prop} {ops : Array Oper} {S : World → Prop} {fuel : Nat} {l : Array Bool} (i : Nat) (hS : S w) (sz m j : Nat) (z : Int) (hj : z = j) {A : Option Addr} {b off : Nat} (hA : A = some ⟨b, off, none⟩) (hlt : j < m)
    (h : GA P ops Q S fuel (l.setIfInBounds i true) n D (pt (opA ops i).dst (.pointer (some ⟨b, off + j * sz, none⟩)) F) w) (hx : ixc P F (opA ops i) = (some (A, m), some z, some sz) := by kernel_rfl)
    (hc : ((tkA ops l i, gOn ops F (opA ops i).guard), (dok n (opA ops i).dst && opIn F (opA ops i).op)) = ((true, (true, true)), true) := by kernel_rfl) (hQ : ∀ c a w', Q (.panic c) (a.put (opA ops i).dst (.pointer (some ⟨b, off + j * sz, none⟩))) w' → Q (.panic c) a w' := by exact fun _ _ _ h => h) : GA P ops Q S (fuel + 1) l n D F w := by
  simp only [Prod.mk.injEq] at hc
  obtain ⟨h1, h2⟩ := tkA_b hc.1.1
  have h3 := and2 hc.2
  obtain ⟨ty, x, ix, h4, h5, h6, h7⟩ : ∃ ty x ix, (opA ops i).op = .indexAddr ty x ix ∧ slA F x = some (A, m) ∧ ixA F ix = some z ∧ ((slE P ty).bind P.info?).map (·.size) = some sz := by
    unfold ixc at hx
    split at hx
    · rename_i ty x ix hop
      simp only [Prod.mk.injEq] at hx
      exact ⟨ty, x, ix, hop, hx.1, hx.2.1, hx.2.2⟩
    · simp at hx
  obtain ⟨c, h5⟩ := slA_some h5
  obtain ⟨k, h6⟩ := ixA_some h6
  cases he : slE P ty with
  | none => rw [he] at h7; simp at h7
  | some e =>
    rw [he] at h7
    refine ⟨fun a ha => Rtk _ _ h1 rfl h2 (fun c a w' q => hQ c a w' q) (gOn_w ha hc.1.2) (fun w' hs => ?_) hS (h.out _ (ha.put h3.1))⟩
    subst hj
    subst hA
    obtain ⟨i0, hi0, hsz⟩ := Option.map_eq_some_iff.1 h7
    have hx' := ha.ev h5
    have hi' := ha.ev h6
    unfold execOp
    have h8 : (0 : Int) ≤ (j : Int) ∧ (j : Int) < (m : Int) := by omega
    have hi0' : P.info? e = some i0 := hi0
    simp [h4, hx', hi', Instr.indexAt, asIntOf, run_underlying (slE_some he), Result.andThen, h8, sizeOf, typeInfo, hi0', hsz, add_mk, hlt]
theorem Ri1 {n : Nat} {D : List Deferred} {F : Fr} {Q : Exit → Act → World → Prop} {ops : Array Oper} {S : World → Prop} {fuel : Nat} {l : Array Bool} (i : Nat) (hS : S w) (m j : Nat) (z : Int) (hj : z = j) {A : Option Addr} {b off : Nat} (hA : A = some ⟨b, off, none⟩) (hlt : j < m)
    (h : GA P ops Q S fuel (l.setIfInBounds i true) n D (pt (opA ops i).dst (.pointer (some ⟨b, off + j, none⟩)) F) w) (hx : ixc P F (opA ops i) = (some (A, m), some z, some 1) := by kernel_rfl)
    (hc : ((tkA ops l i, gOn ops F (opA ops i).guard), (dok n (opA ops i).dst && opIn F (opA ops i).op)) = ((true, (true, true)), true) := by kernel_rfl) (hQ : ∀ c a w', Q (.panic c) (a.put (opA ops i).dst (.pointer (some ⟨b, off + j, none⟩))) w' → Q (.panic c) a w' := by exact fun _ _ _ h => h) : GA P ops Q S (fuel + 1) l n D F w :=
  Ri i hS 1 m j z hj hA hlt (by rwa [Nat.mul_one]) hx hc (by rw [Nat.mul_one]; exact hQ)
end
end Go.Proofs.Ytbaeecmamacphaa
namespace Go.Proofs.Ytbaeecmamacphaa
open Go.RowKit
def setE (q : IntKind) (xs : List Int) : Array MapEntry := (xs.zipIdx.map fun p => (⟨.int q p.1, .bool true, p.2⟩ : MapEntry)).toArray
theorem setE_snoc (q : IntKind) (xs : List Int) (x : Int) : setE q (xs ++ [x]) = (setE q xs).push ⟨.int q x, .bool true, xs.length⟩ := by
  simp [setE, List.zipIdx_append]
theorem find_set (q : IntKind) (n : Int) : ∀ (xs : List Int) (i j : Nat), ∃ res, Instr.findNow (.int q) (.int q n) ((xs.zipIdx j).map fun p => (⟨.int q p.1, .bool true, p.2⟩ : MapEntry)) i = some res ∧ res.isSome = decide (n ∈ xs) ∧ ∀ p, res = some p → p.2 = .bool true
  | [], i, j => ⟨none, rfl, by simp, fun p h => by cases h⟩
  | x :: xs, i, j => by
    by_cases h : n = x
    · subst h
      exact ⟨some (i, .bool true), by simp [Instr.findNow, Instr.sameNow], by simp, fun p hp => by cases hp; rfl⟩
    · obtain ⟨res, h1, h2, h3⟩ := find_set q n xs (i + 1) (j + 1)
      refine ⟨res, ?_, ?_, h3⟩
      · have : (n == x) = false := by simpa using h
        simp only [List.zipIdx_cons, List.map_cons, Instr.findNow, Instr.sameNow, this, if_true]
        exact h1
      · rw [h2]; simp [h]
theorem setE_find (q : IntKind) (n : Int) (xs : List Int) : ∃ res, Instr.findNow (.int q) (.int q n) (setE q xs).toList 0 = some res ∧ res.isSome = decide (n ∈ xs) ∧ ∀ p, res = some p → p.2 = .bool true := by
  simpa [setE] using find_set q n xs 0 0
theorem setE_new {q : IntKind} {n : Int} {xs : List Int} (h : n ∉ xs) : Instr.findNow (.int q) (.int q n) (setE q xs).toList 0 = some none := by
  obtain ⟨res, h1, h2, _⟩ := setE_find q n xs
  rw [h1]
  cases res with
  | none => rfl
  | some p => simp [h] at h2
theorem ow_set {P : Program} {Q : Exit → Act → World → Prop} {a : Act} {w : World} {K : Act → World → Prop} {o : Oper} {N : Option Tmp} {t kt e : TypeId} {q : IntKind} {m k x : Operand} {r : Nat} {xs : List Int} {clk : Nat} (n : Int) (hN : o.dst = N) (hop : o.op = .mapUpdate t m k x)
    (ht : P.underlying t = some (.map kt e)) (hk : P.underlying kt = some (.int q)) (hm : a.eval m = .map (some r)) (hb : w.heap[r]? = some (.map (setE q xs) clk))
    (hkv : a.eval k = .int q n) (hx : a.eval x = .bool true) (hno : n ∉ xs) (hclk : clk = xs.length)
    (h : ∀ w', w'.heap[r]? = some (.map (setE q (xs ++ [n])) (clk + 1)) → Upd [r] w w' → K (a.put N undef) w') : OW P o a w K Q := by
  refine OW.mk ?_
  subst hN
  obtain ⟨w', hrr, h1, h2⟩ := run_mapput ht hk hb n (.bool true) (setE_new hno)
  have hrun : (execOp a.eval o).run P w = .ok .skip w' := by
    unfold execOp
    simp [hop, hm, hkv, hx, hrr, Result.andThen]
  unfold Oper.wp
  rw [hrun]
  refine h w' ?_ h2
  rw [h1, setE_snoc, hclk]
theorem ow_in {P : Program} {Q : Exit → Act → World → Prop} {a : Act} {w : World} {K : Act → World → Prop} {o : Oper} {N : Option Tmp} {t kt e : TypeId} {q : IntKind} {m k : Operand} {r : Nat} {es : Array MapEntry} {clk : Nat} (n : Int) (xs : List Int) (hN : o.dst = N) (hop : o.op = .lookup t m k false)
    (ht : P.underlying t = some (.map kt e)) (hk : P.underlying kt = some (.int q)) (hm : a.eval m = .map (some r)) (hb : w.heap[r]? = some (.map es clk)) (hes : es = setE q xs) (hkv : a.eval k = .int q n)
    (hz : (zeroValue e).run P w = .ok (.bool false) w) (h : K (a.put N (.bool (decide (n ∈ xs)))) w) : OW P o a w K Q := by
  subst hes
  obtain ⟨res, h1, h2, h3⟩ := setE_find q n xs
  refine ow_look (res := res) n (.bool false) _ hN hop ht hk hm hb hkv hz h1 ?_ h
  cases res with
  | none => simp at h2; simp [h2]
  | some p => simp at h2; simp [h2, h3 p rfl]
section
variable {P : Program} {Q : Exit → Act → World → Prop} {n : Nat} {D : List Deferred} {F : Fr} {w : World} {K : Fr → World → Prop} {d : Option Tmp} {t : TypeId} {s : String} {af : Array Edge} {gu : Option (Nat × Bool)}
theorem Oki {ty : TypeId} {m k : Operand} {r : Nat} {es : Array MapEntry} {clk : Nat} (B : w.heap[r]? = some (.map es clk)) (x : Int) (xs : List Int) (h : K (pt d (.bool (decide (x ∈ xs))) F) w) (hq : (mapK P ty).isSome = true := by kernel_rfl) (hm : evo F m = some (.map (some r)) := by kernel_rfl)
    (hk : evo F k = some (.int (mapQ P ty) x) := by kernel_rfl) (he : es = setE (mapQ P ty) xs := by kernel_rfl) (hs : dok n d = true := by kernel_rfl) (hz : (zeroValue (mapE P ty)).run P w = .ok (.bool false) w := by kernel_rfl) : OG P ⟨d, .lookup ty m k false, t, s, af, gu⟩ n D F w K Q := by
  obtain ⟨kt, h1, h2⟩ := mapK_some (mapQ_some hq)
  exact ⟨fun a ha K' hK => ow_in x xs rfl rfl h1 h2 (ha.ev hm) B he (ha.ev hk) hz (hK _ _ _ h (ha.put hs))⟩
theorem Omu {ty : TypeId} {q : IntKind} {m k x : Operand} {r : Nat} {xs : List Int} {clk : Nat} (B : w.heap[r]? = some (.map (setE q xs) clk)) (z : Int) (hno : z ∉ xs) (hclk : clk = xs.length) (h : ∀ w', w'.heap[r]? = some (.map (setE q (xs ++ [z])) (clk + 1)) → Upd [r] w w' → K (pt d undef F) w')
    (hq : mapK P ty = some q := by kernel_rfl) (hm : evo F m = some (.map (some r)) := by kernel_rfl) (hk : evo F k = some (.int q z) := by kernel_rfl) (hx : evo F x = some (.bool true) := by kernel_rfl) (hs : dok n d = true := by kernel_rfl) : OG P ⟨d, .mapUpdate ty m k x, t, s, af, gu⟩ n D F w K Q := by
  obtain ⟨kt, h1, h2⟩ := mapK_some hq
  exact ⟨fun a ha K' hK => ow_set z rfl rfl h1 h2 (ha.ev hm) B (ha.ev hk) (ha.ev hx) hno hclk fun w' hB hu => hK _ _ _ (h w' hB hu) (ha.put hs)⟩
end
def PSet (q : IntKind) (xs : List Int) (w : World) (e : Ending) (w' : World) : Prop := ∃ r clk, e = .returned (.map (some r)) ∧ w.heap.size ≤ r ∧ w'.heap[r]? = some (.map (setE q xs) clk) ∧ Upd [] w w'
theorem not_mem_take {xs : List Int} (h : xs.Nodup) (k : Nat) (hk : k < xs.length) : xs.getD k 0 ∉ xs.take k := by
  intro hm
  obtain ⟨i, hi, he⟩ := List.getElem_of_mem hm
  have hik : i < k := by simp at hi; omega
  rw [List.getElem_take] at he
  have hg : xs.getD k 0 = xs[k] := by simp [List.getD_eq_getElem?_getD, List.getElem?_eq_getElem hk]
  rw [hg] at he
  have := (List.getElem_inj h).1 he
  omega
theorem take_snoc' {α : Type} (xs : List α) (d : α) (k : Nat) (hk : k < xs.length) : xs.take (k + 1) = xs.take k ++ [xs.getD k d] := by
  rw [List.take_succ_eq_append_getElem hk, List.getD_eq_getElem?_getD, List.getElem?_eq_getElem hk]
  rfl
set_option maxRecDepth 100000 in
set_option maxHeartbeats 4000000 in
theorem set_u8 {A : Option Addr} {c : Nat} {xs : List Int} {w : World} (h : RdB true w (.slice A xs.length c) xs) (hn : xs.length ≤ 1048576) (hnd : xs.Nodup) :
    Calls Try.prog 52 #[.slice A xs.length c] w (PSet .u8 xs w) := by
 refine en 17 Try.func52 rfl <| sg <| Pl 1 <| ng <| L0 <| Omk fun g10 w11 hg12 B13 hu14 => Pl 1 <| nt <| sq <| sq <| ?_
 refine go <| Pl 3 <| nt <| bk <| ?_
 refine glp (fun x => [(2, .map none), (3, .map (some g10)), (7, .slice A xs.length c), (8, .int .i64 ((xs.length : Nat) : Int)), (9, .int .i64 ((x : Nat) : Int))]) (fun (x : Nat) w' => Upd [g10] w11 w' ∧ w'.heap[g10]? = some (.map (setE .u8 (xs.take x)) x) ∧ (x ≤ xs.length)) (fun x => xs.length - x) 0 ⟨Upd.refl _ _, B13, (by (try dsimp only); omega)⟩ ?_
 rintro k w15 ⟨hu16, f17, p18⟩
 refine wkc [(2, .map none), (3, .map (some g10)), (7, .slice A xs.length c), (8, .int .i64 ((xs.length : Nat) : Int)), (9, .int .i64 ((k : Nat) : Int))] ?_
 have f20 : w15.heap[g10]? = some (.map (setE .u8 (xs.take k)) k) := f17
 have p21 : k ≤ xs.length := p18
 refine sg <| Pl 1 <| nt <| sq <| ?_
 have U22 := u1 hu14 hu16 (nr hg12)
 refine cb ((decide (((k : Nat) : Int) < ((xs.length : Nat) : Int)))) (fun q23 => ?_) (fun q23 => ?_)
 have q23p := of_decide_eq_true q23
 refine skn <| sq <| bk <| sg <| ?_
 have r24 := RdB.upd' h U22 safe0
 refine x23 (RdB.at_ r24 k (by omega)) fun b25 o26 hA27 hl28 hr29 => L0 <| Oix xs.length k hA27 (by omega) <| L0 <| Old (p := ⟨b25, o26 + k, none⟩) (v := .int .u8 (xs.getD k 0)) hl28 <| Pl 1 <| nt <| go <| Pl 2 <| L0 <| Omu f20 (xs.getD k 0) (not_mem_take hnd k (by omega)) (by simp; omega) fun w30 B31 hu32 => ?_
 have B33 : w30.heap[g10]? = some (.map (setE .u8 (xs.take (k + 1))) (k + 1)) := by rw [take_snoc' xs 0 k (by omega)]; exact B31
 refine nl <| bn <| tn <| go <| L0 <| Oi (((k : Nat) : Int) + 1) <| Pl 1 <| nl <| ?_
 have U34 := u1 hu16 hu32 im
 exact lpe (k + 1) ⟨U34, B33, (by (try dsimp only); omega)⟩ (by omega)
 have q23p := of_decide_eq_false q23
 refine xt <| tx <| tx <| bx <| tn <| sg <| Pl 2 <| nt <| rt <| rr (.map (some g10)) <| ?_
 have hk : k = xs.length := by omega
 rw [hk, List.take_length] at f20
 exact ⟨g10, _, rfl, hg12, f20, U22⟩
set_option maxRecDepth 100000 in
set_option maxHeartbeats 4000000 in
theorem set_u16 {A : Option Addr} {c : Nat} {xs : List Int} {w : World} (h : RdW true w (.slice A xs.length c) xs) (hn : xs.length ≤ 1048576) (hnd : xs.Nodup) :
    Calls Try.prog 109 #[.slice A xs.length c] w (PSet .u16 xs w) := by
 refine en 17 Try.func109 rfl <| sg <| Pl 1 <| ng <| L0 <| Omk fun g10 w11 hg12 B13 hu14 => Pl 1 <| nt <| sq <| sq <| ?_
 refine go <| Pl 3 <| nt <| bk <| ?_
 refine glp (fun x => [(2, .map none), (3, .map (some g10)), (7, .slice A xs.length c), (8, .int .i64 ((xs.length : Nat) : Int)), (9, .int .i64 ((x : Nat) : Int))]) (fun (x : Nat) w' => Upd [g10] w11 w' ∧ w'.heap[g10]? = some (.map (setE .u16 (xs.take x)) x) ∧ (x ≤ xs.length)) (fun x => xs.length - x) 0 ⟨Upd.refl _ _, B13, (by (try dsimp only); omega)⟩ ?_
 rintro k w15 ⟨hu16, f17, p18⟩
 refine wkc [(2, .map none), (3, .map (some g10)), (7, .slice A xs.length c), (8, .int .i64 ((xs.length : Nat) : Int)), (9, .int .i64 ((k : Nat) : Int))] ?_
 have f20 : w15.heap[g10]? = some (.map (setE .u16 (xs.take k)) k) := f17
 have p21 : k ≤ xs.length := p18
 refine sg <| Pl 1 <| nt <| sq <| ?_
 have U22 := u1 hu14 hu16 (nr hg12)
 refine cb ((decide (((k : Nat) : Int) < ((xs.length : Nat) : Int)))) (fun q23 => ?_) (fun q23 => ?_)
 have q23p := of_decide_eq_true q23
 refine skn <| sq <| bk <| sg <| ?_
 have r24 := RdW.upd' h U22 safe0
 refine x23 (RdW.at_ r24 k (by omega)) fun b25 o26 hA27 hl28 hr29 => L0 <| Oix xs.length k hA27 (by omega) <| L0 <| Old (p := ⟨b25, o26 + k, none⟩) (v := .int .u16 (xs.getD k 0)) hl28 <| Pl 1 <| nt <| go <| Pl 2 <| L0 <| Omu f20 (xs.getD k 0) (not_mem_take hnd k (by omega)) (by simp; omega) fun w30 B31 hu32 => ?_
 have B33 : w30.heap[g10]? = some (.map (setE .u16 (xs.take (k + 1))) (k + 1)) := by rw [take_snoc' xs 0 k (by omega)]; exact B31
 refine nl <| bn <| tn <| go <| L0 <| Oi (((k : Nat) : Int) + 1) <| Pl 1 <| nl <| ?_
 have U34 := u1 hu16 hu32 im
 exact lpe (k + 1) ⟨U34, B33, (by (try dsimp only); omega)⟩ (by omega)
 have q23p := of_decide_eq_false q23
 refine xt <| tx <| tx <| bx <| tn <| sg <| Pl 2 <| nt <| rt <| rr (.map (some g10)) <| ?_
 have hk : k = xs.length := by omega
 rw [hk, List.take_length] at f20
 exact ⟨g10, _, rfl, hg12, f20, U22⟩
end Go.Proofs.Ytbaeecmamacphaa
namespace Go.Proofs.Ytbaeecmamacphaa
open Go.RowKit
def PBool (x : Bool) (w : World) (e : Ending) (w' : World) : Prop := e = .returned (.bool x) ∧ Upd [] w w'
theorem eqPre {α : Type} [DecidableEq α] {xs ys : List α} {d : α} (h : xs.length = ys.length) {k : Nat} (hk : k < xs.length) (hp : xs.take k = ys.take k) (hx : xs.getD k d = ys.getD k d) : xs.take (k + 1) = ys.take (k + 1) := by
  rw [List.take_add_one, List.take_add_one, hp]
  simp only [List.getD_eq_getElem?_getD, List.getElem?_eq_getElem hk, List.getElem?_eq_getElem (h ▸ hk), Option.getD_some] at hx
  simp [List.getElem?_eq_getElem hk, List.getElem?_eq_getElem (h ▸ hk), hx]
theorem eqNo {α : Type} [DecidableEq α] {xs ys : List α} {d : α} (k : Nat) (hx : xs.getD k d ≠ ys.getD k d) : xs ≠ ys := fun h => hx (by rw [h])
set_option maxRecDepth 100000 in
theorem eqW_any {m m' : Bool} {u v : Value} {xs ys : List Int} {w : World} (hx : RdW m w u xs) (hy : RdW m' w v ys) : Calls Try.prog 73 #[u, v] w (PBool (decide (xs = ys)) w) := by
  have hhx := hx
  have hhy := hy
  obtain ⟨A, c, rfl, hc1, hc2⟩ := hx.shape
  obtain ⟨B, c', rfl, hd1, hd2⟩ := hy.shape
  have hn : xs.length ≤ 9223372036854775807 := by have := hc2; unfold maxLen at this; omega
  by_cases hl : xs.length = ys.length
  case neg =>
    have hno : ∀ W, Upd [] w W → PBool (decide (xs = ys)) w (.returned (.bool false)) W := by
      intro W hW
      rw [decide_eq_false (fun h => hl (by rw [h]))]
      exact ⟨rfl, hW⟩
    have hli : ((xs.length : Int) != (ys.length : Int)) = true := by simp; omega
    clear hx hy hhx hhy hl
    go_enter Try.func73, Try.ntmps73
    go_wp2
    go_ret
    exact hno _ (Upd.refl _ _)
  have hno : ∀ W k, xs.getD k 0 ≠ ys.getD k 0 → Upd [] w W → PBool (decide (xs = ys)) w (.returned (.bool false)) W := by
    intro W k hk hW
    rw [decide_eq_false (eqNo k hk)]
    exact ⟨rfl, hW⟩
  have hyes : ∀ W, xs.take xs.length = ys.take xs.length → Upd [] w W → PBool (decide (xs = ys)) w (.returned (.bool true)) W := by
    intro W hk hW
    rw [List.take_length, hl, List.take_length] at hk
    rw [decide_eq_true hk]
    exact ⟨rfl, hW⟩
  revert hno hyes
  generalize PBool (decide (xs = ys)) w = P
  intro hno hyes
  have hli : ((xs.length : Int) != (ys.length : Int)) = false := by simp; omega
  have hL := Lib.hid hl
  clear hx hy hl
  go_enter Try.func73, Try.ntmps73
  go_wp2
  go_loopw [13] (fun i wr => ∃ k : Nat, k ≤ xs.length ∧ i = .int .i64 (k : Int) ∧ xs.take k = ys.take k ∧ Upd [] w wr) (fun i _ => xs.length - (intOf i).toNat)
  case atStart => exact ⟨0, by omega, rfl, by simp, Upd.refl _ _⟩
  case round =>
    obtain ⟨k, hk, rfl, hpre, hu⟩ := hrel
    by_cases hlt : k < xs.length
    · obtain ⟨b, off, rfl, cw0, hr0⟩ := RdW.at_ hhx k hlt
      obtain ⟨b', off', rfl, cw1, hr1⟩ := RdW.at_ hhy k (by have := hL.out; omega)
      have hlt' : k < ys.length := by have := hL.out; omega
      have hstep := fun h => eqPre (d := 0) hL.out hlt hpre h
      have hno' := fun W h => hno W k h
      revert cw0 cw1 hstep hno' hr0 hr1
      generalize xs.getD k 0 = x0
      generalize ys.getD k 0 = y0
      intro cw0 hr0 cw1 hr1 hstep hno'
      have hc0 := hu.cell (by simp) cw0
      have hc1 := hu.cell (by simp) cw1
      have hstep := Lib.hid hstep
      have hno' := Lib.hid hno'
      clear cw0 cw1 hhx hhy hpre hno hyes
      have hc0 : wr.drew.cell? ⟨b, off + k, none⟩ = some (.int .u16 x0) := hc0
      have hc1 : wr.drew.cell? ⟨b', off' + k, none⟩ = some (.int .u16 y0) := hc1
      go_wp2
      refine rg_start (S := fun w' => w'.cell? ⟨b, off + k, none⟩ = some (.int .u16 x0) ∧ w'.cell? ⟨b', off' + k, none⟩ = some (.int .u16 y0)) (n := 9) #[false, false, false, false, false, false, false, false, false] (by kernel_rfl) rfl rfl ⟨hc0, hc1⟩ (fun hHeld => ?_)
      refine rg_take (i := 0) (N := some 16) (v := ?_) (a' := ?_) #[true, false, false, false, false, false, false, false, false] rfl rfl (by kernel_rfl) (fun _ _ _ h => h) (Or.inl ⟨by rfl, ?_⟩) hHeld ?_ ?_
      rotate_left
      · rintro w' ⟨hs0, hs1⟩
        go_simp
        with_reducible rfl
      rotate_left
      · simp only [Act.put, List.setIfInBounds_toArray, List.set_cons_zero, List.set_cons_succ]
        rfl
      refine rg_take (i := 1) (N := some 17) (v := ?_) (a' := ?_) #[true, true, false, false, false, false, false, false, false] rfl rfl (by kernel_rfl) (fun _ _ _ h => h) (Or.inl ⟨by rfl, ?_⟩) hHeld ?_ ?_
      rotate_left
      · rintro w' ⟨hs0, hs1⟩
        go_simp
        with_reducible rfl
      rotate_left
      · simp only [Act.put, List.setIfInBounds_toArray, List.set_cons_zero, List.set_cons_succ]
        rfl
      refine rg_take (i := 2) (N := some 18) (v := ?_) (a' := ?_) #[true, true, true, false, false, false, false, false, false] rfl rfl (by kernel_rfl) (fun _ _ _ h => h) (Or.inl ⟨by rfl, ?_⟩) hHeld ?_ ?_
      rotate_left
      · rintro w' ⟨hs0, hs1⟩
        go_simp
        with_reducible rfl
      rotate_left
      · simp only [Act.put, List.setIfInBounds_toArray, List.set_cons_zero, List.set_cons_succ]
        rfl
      refine rg_take (i := 3) (N := some 19) (v := ?_) (a' := ?_) #[true, true, true, true, false, false, false, false, false] rfl rfl (by kernel_rfl) (fun _ _ _ h => h) (Or.inl ⟨by rfl, ?_⟩) hHeld ?_ ?_
      rotate_left
      · rintro w' ⟨hs0, hs1⟩
        go_simp
        with_reducible rfl
      rotate_left
      · simp only [Act.put, List.setIfInBounds_toArray, List.set_cons_zero, List.set_cons_succ]
        rfl
      refine rg_take (i := 4) (N := some 20) (v := ?_) (a' := ?_) #[true, true, true, true, true, false, false, false, false] rfl rfl (by kernel_rfl) (fun _ _ _ h => h) (Or.inl ⟨by rfl, ?_⟩) hHeld ?_ ?_
      rotate_left
      · rintro w' ⟨hs0, hs1⟩
        go_simp
        with_reducible rfl
      rotate_left
      · simp only [Act.put, List.setIfInBounds_toArray, List.set_cons_zero, List.set_cons_succ]
        rfl
      refine rg_take (i := 5) (N := some 21) (v := ?_) (a' := ?_) #[true, true, true, true, true, true, false, false, false] rfl rfl (by kernel_rfl) (fun _ _ _ h => h) (Or.inl ⟨by rfl, ?_⟩) hHeld ?_ ?_
      rotate_left
      · rintro w' ⟨hs0, hs1⟩
        go_simp
        with_reducible rfl
      rotate_left
      · simp only [Act.put, List.setIfInBounds_toArray, List.set_cons_zero, List.set_cons_succ]
        rfl
      refine rg_take (i := 6) (N := some 22) (v := ?_) (a' := ?_) #[true, true, true, true, true, true, true, false, false] rfl rfl (by kernel_rfl) (fun _ _ _ h => h) (Or.inl ⟨by rfl, ?_⟩) hHeld ?_ ?_
      rotate_left
      · rintro w' ⟨hs0, hs1⟩
        go_simp
        with_reducible rfl
      rotate_left
      · simp only [Act.put, List.setIfInBounds_toArray, List.set_cons_zero, List.set_cons_succ]
        rfl
      refine rg_take (i := 7) (N := some 23) (v := ?_) (a' := ?_) #[true, true, true, true, true, true, true, true, false] rfl rfl (by kernel_rfl) (fun _ _ _ h => h) (Or.inl ⟨by rfl, ?_⟩) hHeld ?_ ?_
      rotate_left
      · rintro w' ⟨hs0, hs1⟩
        go_simp
        with_reducible rfl
      rotate_left
      · simp only [Act.put, List.setIfInBounds_toArray, List.set_cons_zero, List.set_cons_succ]
        rfl
      refine rg_take (i := 8) (N := some 24) (v := ?_) (a' := ?_) #[true, true, true, true, true, true, true, true, true] rfl rfl (by kernel_rfl) (fun _ _ _ h => h) (Or.inl ⟨by rfl, ?_⟩) hHeld ?_ ?_
      rotate_left
      · rintro w' ⟨hs0, hs1⟩
        go_simp
        with_reducible rfl
      rotate_left
      · simp only [Act.put, List.setIfInBounds_toArray, List.set_cons_zero, List.set_cons_succ]
        rfl
      refine rg_done (by kernel_rfl) ?_
      clear hc0 hc1 hHeld
      go_wp2
      · exact hno'.out _ (by simpa using (show (x0 != y0) = true by assumption)) (hu.drew)
      · go_roundw
        case rel => exact ⟨k + 1, by omega, by go_num, hstep.out (by simpa using (show (x0 != y0) = false by assumption)), hu.drew⟩
        case measure => simp [intOf]; omega
    · have hj3 : k = xs.length := by omega
      have H3 := Lib.hid hj3
      rw [hj3] at hpre
      clear hj3 hhx hhy
      go_wp2
      exact hyes _ hpre hu
set_option maxRecDepth 100000 in
theorem eqL_any {m m' : Bool} {u v : Value} {xs ys : List Bool} {w : World} (hx : RdL m w u xs) (hy : RdL m' w v ys) : Calls Try.prog 74 #[u, v] w (PBool (decide (xs = ys)) w) := by
  have hhx := hx
  have hhy := hy
  obtain ⟨A, c, rfl, hc1, hc2⟩ := hx.shape
  obtain ⟨B, c', rfl, hd1, hd2⟩ := hy.shape
  have hn : xs.length ≤ 9223372036854775807 := by have := hc2; unfold maxLen at this; omega
  by_cases hl : xs.length = ys.length
  case neg =>
    have hno : ∀ W, Upd [] w W → PBool (decide (xs = ys)) w (.returned (.bool false)) W := by
      intro W hW
      rw [decide_eq_false (fun h => hl (by rw [h]))]
      exact ⟨rfl, hW⟩
    have hli : ((xs.length : Int) != (ys.length : Int)) = true := by simp; omega
    clear hx hy hhx hhy hl
    go_enter Try.func74, Try.ntmps74
    go_wp2
    go_ret
    exact hno _ (Upd.refl _ _)
  have hno : ∀ W k, xs.getD k false ≠ ys.getD k false → Upd [] w W → PBool (decide (xs = ys)) w (.returned (.bool false)) W := by
    intro W k hk hW
    rw [decide_eq_false (eqNo k hk)]
    exact ⟨rfl, hW⟩
  have hyes : ∀ W, xs.take xs.length = ys.take xs.length → Upd [] w W → PBool (decide (xs = ys)) w (.returned (.bool true)) W := by
    intro W hk hW
    rw [List.take_length, hl, List.take_length] at hk
    rw [decide_eq_true hk]
    exact ⟨rfl, hW⟩
  revert hno hyes
  generalize PBool (decide (xs = ys)) w = P
  intro hno hyes
  have hli : ((xs.length : Int) != (ys.length : Int)) = false := by simp; omega
  have hL := Lib.hid hl
  clear hx hy hl
  go_enter Try.func74, Try.ntmps74
  go_wp2
  go_loopw [13] (fun i wr => ∃ k : Nat, k ≤ xs.length ∧ i = .int .i64 (k : Int) ∧ xs.take k = ys.take k ∧ Upd [] w wr) (fun i _ => xs.length - (intOf i).toNat)
  case atStart => exact ⟨0, by omega, rfl, by simp, Upd.refl _ _⟩
  case round =>
    obtain ⟨k, hk, rfl, hpre, hu⟩ := hrel
    by_cases hlt : k < xs.length
    · obtain ⟨b, off, rfl, cw0⟩ := RdL.at_ hhx k hlt
      obtain ⟨b', off', rfl, cw1⟩ := RdL.at_ hhy k (by have := hL.out; omega)
      have hlt' : k < ys.length := by have := hL.out; omega
      have hstep := fun h => eqPre (d := false) hL.out hlt hpre h
      have hno' := fun W h => hno W k h
      revert cw0 cw1 hstep hno' 
      generalize xs.getD k false = x0
      generalize ys.getD k false = y0
      intro cw0 cw1 hstep hno'
      have hc0 := hu.cell (by simp) cw0
      have hc1 := hu.cell (by simp) cw1
      have hstep := Lib.hid hstep
      have hno' := Lib.hid hno'
      clear cw0 cw1 hhx hhy hpre hno hyes
      have hc0 : wr.drew.cell? ⟨b, off + k, none⟩ = some (.bool x0) := hc0
      have hc1 : wr.drew.cell? ⟨b', off' + k, none⟩ = some (.bool y0) := hc1
      go_wp2
      refine rg_start (S := fun w' => w'.cell? ⟨b, off + k, none⟩ = some (.bool x0) ∧ w'.cell? ⟨b', off' + k, none⟩ = some (.bool y0)) (n := 9) #[false, false, false, false, false, false, false, false, false] (by kernel_rfl) rfl rfl ⟨hc0, hc1⟩ (fun hHeld => ?_)
      refine rg_take (i := 0) (N := some 16) (v := ?_) (a' := ?_) #[true, false, false, false, false, false, false, false, false] rfl rfl (by kernel_rfl) (fun _ _ _ h => h) (Or.inl ⟨by rfl, ?_⟩) hHeld ?_ ?_
      rotate_left
      · rintro w' ⟨hs0, hs1⟩
        go_simp
        with_reducible rfl
      rotate_left
      · simp only [Act.put, List.setIfInBounds_toArray, List.set_cons_zero, List.set_cons_succ]
        rfl
      refine rg_take (i := 1) (N := some 17) (v := ?_) (a' := ?_) #[true, true, false, false, false, false, false, false, false] rfl rfl (by kernel_rfl) (fun _ _ _ h => h) (Or.inl ⟨by rfl, ?_⟩) hHeld ?_ ?_
      rotate_left
      · rintro w' ⟨hs0, hs1⟩
        go_simp
        with_reducible rfl
      rotate_left
      · simp only [Act.put, List.setIfInBounds_toArray, List.set_cons_zero, List.set_cons_succ]
        rfl
      refine rg_take (i := 2) (N := some 18) (v := ?_) (a' := ?_) #[true, true, true, false, false, false, false, false, false] rfl rfl (by kernel_rfl) (fun _ _ _ h => h) (Or.inl ⟨by rfl, ?_⟩) hHeld ?_ ?_
      rotate_left
      · rintro w' ⟨hs0, hs1⟩
        go_simp
        with_reducible rfl
      rotate_left
      · simp only [Act.put, List.setIfInBounds_toArray, List.set_cons_zero, List.set_cons_succ]
        rfl
      refine rg_take (i := 3) (N := some 19) (v := ?_) (a' := ?_) #[true, true, true, true, false, false, false, false, false] rfl rfl (by kernel_rfl) (fun _ _ _ h => h) (Or.inl ⟨by rfl, ?_⟩) hHeld ?_ ?_
      rotate_left
      · rintro w' ⟨hs0, hs1⟩
        go_simp
        with_reducible rfl
      rotate_left
      · simp only [Act.put, List.setIfInBounds_toArray, List.set_cons_zero, List.set_cons_succ]
        rfl
      refine rg_take (i := 4) (N := some 20) (v := ?_) (a' := ?_) #[true, true, true, true, true, false, false, false, false] rfl rfl (by kernel_rfl) (fun _ _ _ h => h) (Or.inl ⟨by rfl, ?_⟩) hHeld ?_ ?_
      rotate_left
      · rintro w' ⟨hs0, hs1⟩
        go_simp
        with_reducible rfl
      rotate_left
      · simp only [Act.put, List.setIfInBounds_toArray, List.set_cons_zero, List.set_cons_succ]
        rfl
      refine rg_take (i := 5) (N := some 21) (v := ?_) (a' := ?_) #[true, true, true, true, true, true, false, false, false] rfl rfl (by kernel_rfl) (fun _ _ _ h => h) (Or.inl ⟨by rfl, ?_⟩) hHeld ?_ ?_
      rotate_left
      · rintro w' ⟨hs0, hs1⟩
        go_simp
        with_reducible rfl
      rotate_left
      · simp only [Act.put, List.setIfInBounds_toArray, List.set_cons_zero, List.set_cons_succ]
        rfl
      refine rg_take (i := 6) (N := some 22) (v := ?_) (a' := ?_) #[true, true, true, true, true, true, true, false, false] rfl rfl (by kernel_rfl) (fun _ _ _ h => h) (Or.inl ⟨by rfl, ?_⟩) hHeld ?_ ?_
      rotate_left
      · rintro w' ⟨hs0, hs1⟩
        go_simp
        with_reducible rfl
      rotate_left
      · simp only [Act.put, List.setIfInBounds_toArray, List.set_cons_zero, List.set_cons_succ]
        rfl
      refine rg_take (i := 7) (N := some 23) (v := ?_) (a' := ?_) #[true, true, true, true, true, true, true, true, false] rfl rfl (by kernel_rfl) (fun _ _ _ h => h) (Or.inl ⟨by rfl, ?_⟩) hHeld ?_ ?_
      rotate_left
      · rintro w' ⟨hs0, hs1⟩
        go_simp
        with_reducible rfl
      rotate_left
      · simp only [Act.put, List.setIfInBounds_toArray, List.set_cons_zero, List.set_cons_succ]
        rfl
      refine rg_take (i := 8) (N := some 24) (v := ?_) (a' := ?_) #[true, true, true, true, true, true, true, true, true] rfl rfl (by kernel_rfl) (fun _ _ _ h => h) (Or.inl ⟨by rfl, ?_⟩) hHeld ?_ ?_
      rotate_left
      · rintro w' ⟨hs0, hs1⟩
        go_simp
        with_reducible rfl
      rotate_left
      · simp only [Act.put, List.setIfInBounds_toArray, List.set_cons_zero, List.set_cons_succ]
        rfl
      refine rg_done (by kernel_rfl) ?_
      clear hc0 hc1 hHeld
      go_wp2
      · exact hno'.out _ (by simpa using (show (x0 != y0) = true by assumption)) (hu.drew)
      · go_roundw
        case rel => exact ⟨k + 1, by omega, by go_num, hstep.out (by simpa using (show (x0 != y0) = false by assumption)), hu.drew⟩
        case measure => simp [intOf]; omega
    · have hj3 : k = xs.length := by omega
      have H3 := Lib.hid hj3
      rw [hj3] at hpre
      clear hj3 hhx hhy
      go_wp2
      exact hyes _ hpre hu
end Go.Proofs.Ytbaeecmamacphaa
namespace Go.Proofs.Ytbaeecmamacphaa
open Go.RowKit
theorem RdB.cells {m : Bool} {w : World} {A : Option Addr} {n c : Nat} {xs : List Int} (h : RdB m w (.slice A n c) xs) : (A = none ∧ xs = []) ∨ xs = [] ∨ ∃ b off, A = some ⟨b, off, none⟩ ∧ ∀ i, i < xs.length → w.cell? ⟨b, off + i, none⟩ = some (.int .u8 (xs.getD i 0)) := by
  by_cases h0 : xs = []
  · exact .inr (.inl h0)
  · have hl : 0 < xs.length := List.length_pos_iff.2 h0
    obtain ⟨b, off, rfl, _⟩ := RdB.at_ h 0 hl
    refine .inr (.inr ⟨b, off, rfl, fun i hi => ?_⟩)
    obtain ⟨b', off', hA, hc, _⟩ := RdB.at_ h i hi
    injection hA with hA
    injection hA with h1 h2
    subst h1 h2
    exact hc
theorem run_str {m : Bool} {w : World} {v : Value} {xs : List Int} (h : RdB m w v xs) : (convert 22 9 v).run Try.prog w = .ok (.string (strOfNums xs)) w := by
  have hh := h
  obtain ⟨A, c, rfl, h1, h2, h0, h3⟩ := hh
  rcases Nat.eq_zero_or_pos xs.length with hz | hz
  · obtain rfl : xs = [] := List.eq_nil_of_length_eq_zero hz
    cases A with
    | none => exact run_convert_bytes_nil w _ _ Try.underlying22 Try.underlying5 _ _ _ Try.underlying9
    | some a =>
      rw [run_convert_bytes_string w _ _ _ _ _ _ Try.underlying22 Try.underlying5 Try.underlying9]
      rw [run_bytesToString w a _ c [] (by simp [loadCells, loadCellsFrom, Sem.run_pure])]
      rfl
  · obtain ⟨b, off, cells, t, fr, rfl, hb, ht, hx⟩ := h3 hz
    exact run_convert_bytes_arg w _ _ Try.underlying22 Try.underlying5 b off _ c xs rfl (fun i hi => by
      obtain ⟨b', off', hA, hc, _⟩ := RdB.at_ h i hi
      injection hA with hA
      injection hA with h1 h2
      subst h1 h2
      exact hc) _ Try.underlying9
theorem str_inj : ∀ {xs ys : List Int}, (∀ x, x ∈ xs → 0 ≤ x ∧ x < 256) → (∀ x, x ∈ ys → 0 ≤ x ∧ x < 256) → (xs.map fun n => UInt8.ofNat n.toNat) = (ys.map fun n => UInt8.ofNat n.toNat) → xs = ys
  | [], [], _, _, _ => rfl
  | [], _ :: _, _, _, h => by simp at h
  | _ :: _, [], _, _, h => by simp at h
  | x :: xs, y :: ys, hx, hy, h => by
    simp only [List.map_cons, List.cons.injEq] at h
    have h1 := hx x (by simp)
    have h2 := hy y (by simp)
    have h3 : x = y := by
      have := congrArg UInt8.toNat h.1
      simp at this
      omega
    rw [h3, str_inj (fun z hz => hx z (by simp [hz])) (fun z hz => hy z (by simp [hz])) h.2]
theorem run_streq {m m' : Bool} {w w' W : World} {u v : Value} {xs ys : List Int} (hx : RdB m w u xs) (hy : RdB m' w' v ys) : (binOp .eql 9 (.string (strOfNums xs)) (.string (strOfNums ys))).run Try.prog W = .ok (.bool (decide (xs = ys))) W := by
  have e : ((strOfNums xs).toList == (strOfNums ys).toList) = decide (xs = ys) := by
    by_cases h : xs = ys
    · subst h; simp
    · rw [decide_eq_false h, beq_eq_false_iff_ne]
      intro h2
      rw [ByteArray.toList_eq, ByteArray.toList_eq] at h2
      exact h (str_inj hx.rng hy.rng h2)
  rw [binOp_string_eql, e]
  rfl
theorem yields_cell {P : Program} {ops : Array Oper} {S : World → Prop} {op : Oper} {a : Act} {v : Value} (hw : Region.wanted op (yielded ops a.tmps) = true) (h : ∀ w, S w → (execOp a.eval op).run P w = .ok (.value v) w) : YieldsIf P ops S op v a := .inl ⟨hw, h⟩
theorem rec_dec {A B : Rec} : decide (A = B) = (decide (A.file = B.file) && (decide (A.record = B.record) && (decide (A.count = B.count) && decide (A.words = B.words)))) := by
  rw [Bool.eq_iff_iff]
  cases A; cases B
  simp
set_option maxRecDepth 100000 in
set_option maxHeartbeats 2000000 in
theorem rec_any {m m' : Bool} {ca cb : List Value} {A B : Rec} {w : World} (ha : recR m w A ca) (hb : recR m' w B cb) : Calls Try.prog 76 #[.agg ca.toArray, .agg cb.toArray] w (PBool (decide (A = B)) w) := by
  obtain ⟨va, rfl, hwa, hra⟩ := ha
  obtain ⟨vb, rfl, hwb, hrb⟩ := hb
  rw [rec_dec]
  generalize A.file = f1 at *
  generalize A.record = f2 at *
  generalize A.count = f3 at *
  generalize A.words = f4 at *
  generalize B.file = g1 at *
  generalize B.record = g2 at *
  generalize B.count = g3 at *
  generalize B.words = g4 at *
  clear hra hrb
  have hpost : ∀ W, Upd [] w W → PBool (decide (f1 = g1) && (decide (f2 = g2) && (decide (f3 = g3) && decide (f4 = g4)))) w (.returned (.bool (decide (f1 = g1) && (decide (f2 = g2) && (decide (f3 = g3) && decide (f4 = g4)))))) W := fun W h => ⟨rfl, h⟩
  revert hpost
  generalize PBool (decide (f1 = g1) && (decide (f2 = g2) && (decide (f3 = g3) && decide (f4 = g4)))) w = P
  intro hpost
  by_cases h1 : f1 = g1
  case neg =>
    have e : (decide (f1 = g1) && (decide (f2 = g2) && (decide (f3 = g3) && decide (f4 = g4)))) = false := by simp [h1]
    rw [e] at hpost
    have e1 : (f1 == g1) = false := by simpa using h1
    clear h1 e hwa hwb
    replace hpost := Lib.hid hpost
    go_enter Try.func76, Try.ntmps76
    go_wp2
    exact hpost.out _ (((Upd.refl [] w).alloc _).alloc _)
  subst h1
  by_cases h1 : f2 = g2
  case neg =>
    have e : (decide (f1 = f1) && (decide (f2 = g2) && (decide (f3 = g3) && decide (f4 = g4)))) = false := by simp [h1]
    rw [e] at hpost
    have e1 : (f2 == g2) = false := by simpa using h1
    clear h1 e hwa hwb
    replace hpost := Lib.hid hpost
    go_enter Try.func76, Try.ntmps76
    go_wp2
    exact hpost.out _ (((Upd.refl [] w).alloc _).alloc _)
  subst h1
  by_cases h1 : f3 = g3
  case neg =>
    have e : (decide (f1 = f1) && (decide (f2 = f2) && (decide (f3 = g3) && decide (f4 = g4)))) = false := by simp [h1]
    rw [e] at hpost
    have e1 : (f3 == g3) = false := by simpa using h1
    clear h1 e hwa hwb
    replace hpost := Lib.hid hpost
    go_enter Try.func76, Try.ntmps76
    go_wp2
    exact hpost.out _ (((Upd.refl [] w).alloc _).alloc _)
  subst h1
  have e : (decide (f1 = f1) && (decide (f2 = f2) && (decide (f3 = f3) && decide (f4 = g4)))) = decide (f4 = g4) := by simp
  rw [e] at hpost
  clear e
  have hcall := fun (W : World) (h : Upd [] w W) => eqW_any (hwa.old h) (hwb.old h)
  replace hpost := Lib.hid hpost
  go_enter Try.func76, Try.ntmps76
  go_wp2_with (go_at_call 73; refine (hcall _ (((Upd.refl [] w).alloc _).alloc _)).mono ?_; rintro e w1 ⟨rfl, hu1⟩)
  exact hpost.out _ ((((Upd.refl [] w).alloc _).alloc _).step hu1)
theorem obj_dec {A B : Obj} : decide (A = B) = (decide (A.id = B.id) && decide (A.value = B.value)) := by
  rw [Bool.eq_iff_iff]
  cases A; cases B
  simp
set_option maxRecDepth 100000 in
set_option maxHeartbeats 2000000 in
theorem object_any {m m' : Bool} {ca cb : List Value} {A B : Obj} {w : World} (ha : objR m w A ca) (hb : objR m' w B cb) : Calls Try.prog 78 #[.agg ca.toArray, .agg cb.toArray] w (PBool (decide (A = B)) w) := by
  obtain ⟨va, rfl, hwa, hra⟩ := ha
  obtain ⟨vb, rfl, hwb, hrb⟩ := hb
  rw [obj_dec]
  generalize A.id = f1 at *
  generalize A.value = f4 at *
  generalize B.id = g1 at *
  generalize B.value = g4 at *
  clear hra hrb
  have hpost : ∀ W, Upd [] w W → PBool (decide (f1 = g1) && decide (f4 = g4)) w (.returned (.bool (decide (f1 = g1) && decide (f4 = g4)))) W := fun W h => ⟨rfl, h⟩
  revert hpost
  generalize PBool (decide (f1 = g1) && decide (f4 = g4)) w = P
  intro hpost
  by_cases h1 : f1 = g1
  case neg =>
    have e : (decide (f1 = g1) && decide (f4 = g4)) = false := by simp [h1]
    rw [e] at hpost
    have e1 : (f1 == g1) = false := by simpa using h1
    clear h1 e hwa hwb
    replace hpost := Lib.hid hpost
    go_enter Try.func78, Try.ntmps78
    go_wp2
    exact hpost.out _ (((Upd.refl [] w).alloc _).alloc _)
  subst h1
  have e : (decide (f1 = f1) && decide (f4 = g4)) = decide (f4 = g4) := by simp
  rw [e] at hpost
  have hu0 : Upd [] w ((w.alloc (.cells #[.int .u8 f1, va] 59)).alloc (.cells #[.int .u8 f1, vb] 59)) := ((Upd.refl [] w).alloc _).alloc _
  have c1 := run_str (hwa.old hu0)
  have c2 := run_str (hwb.old hu0)
  have c3 := run_streq (hwa.old hu0) (hwb.old hu0) (W := (w.alloc (.cells #[.int .u8 f1, va] 59)).alloc (.cells #[.int .u8 f1, vb] 59))
  replace hpost := hpost _ hu0
  generalize strOfNums f4 = s1 at *
  generalize strOfNums g4 = s2 at *
  generalize decide (f4 = g4) = D at *
  clear hu0 hwa hwb e
  rw [binOp_string_eql] at c3
  have c4 : (s1.toList == s2.toList) = D := by simpa [Sem.run_pure] using c3
  clear c3
  replace hpost := Lib.hid hpost
  go_enter Try.func78, Try.ntmps78
  go_wp2
  exact hpost.out
end Go.Proofs.Ytbaeecmamacphaa
namespace Go.Proofs.Ytbaeecmamacphaa
open Go.RowKit
theorem RdG.at_ {α : Type} {m : Bool} {e : TypeId} {sz : Nat} {R : World → α → List Value → Prop} {w : World} {A : Option Addr} {n c : Nat} {xs : List α} (h : RdG m e sz R w (.slice A n c) xs) (d : α) (j : Nat) (hj : j < xs.length) :
    ∃ b off cs, A = some ⟨b, off, none⟩ ∧ w.rangeAt b (off + j * sz) cs ∧ R w (xs.getD j d) cs ∧ cs.length = sz := by
  obtain ⟨A', c', hv, h1, h2, h0, h3⟩ := h
  injection hv with e1 e2 e3
  subst e1 e3
  obtain ⟨b, off, cells, t, fr, rfl, hb, ht, hx⟩ := h3 (by omega)
  obtain ⟨cs, h4, h5, h6⟩ := hx j (xs.getD j d) (by simp [List.getD_eq_getElem?_getD, List.getElem?_eq_getElem hj])
  exact ⟨b, off, cs, rfl, fun i u hi => by rw [blk_cell hb]; exact h6 i u hi, h5, h4⟩
theorem recR.upd0 {m : Bool} {w w' : World} (hu : Upd [] w w') {r : Rec} {cs : List Value} (h : recR m w r cs) : recR m w' r cs := recR.upd hu (Safe.nil _ _ _) r cs h
theorem objR.upd0 {m : Bool} {w w' : World} (hu : Upd [] w w') {r : Obj} {cs : List Value} (h : objR m w r cs) : objR m w' r cs := objR.upd hu (Safe.nil _ _ _) r cs h
theorem range_upd {w w' : World} {b o : Nat} {cs : List Value} (h : w.rangeAt b o cs) {S : List Nat} (hu : Upd S w w') (hb : b ∉ S) : w'.rangeAt b o cs := fun j v hj => hu.cell hb (h j v hj)
theorem rec_info : (Try.prog.info? 57).map (·.zero) = some (some (.agg #[.int .u16 0, .int .u16 0, .int .u16 0, .slice none 0 0])) := by kernel_rfl
theorem rec_size : (Try.prog.info? 57).map (·.size) = some 4 := by kernel_rfl
theorem obj_info : (Try.prog.info? 59).map (·.zero) = some (some (.agg #[.int .u8 0, .slice none 0 0])) := by kernel_rfl
theorem obj_size : (Try.prog.info? 59).map (·.size) = some 2 := by kernel_rfl
theorem recR.one {m : Bool} {w : World} {r : Rec} {cs : List Value} (h : recR m w r cs) : cs.toArray.all (·.oneCell') = true ∧ cs.length = 4 := by
  obtain ⟨v, rfl, h1, _⟩ := h
  obtain ⟨A, c, rfl, _⟩ := h1
  exact ⟨by simp [Value.oneCell'], rfl⟩
theorem objR.one {m : Bool} {w : World} {r : Obj} {cs : List Value} (h : objR m w r cs) : cs.toArray.all (·.oneCell') = true ∧ cs.length = 2 := by
  obtain ⟨v, rfl, h1, _⟩ := h
  obtain ⟨A, c, rfl, _⟩ := h1
  exact ⟨by simp [Value.oneCell'], rfl⟩
set_option maxRecDepth 100000 in
set_option maxHeartbeats 2000000 in
theorem eqR_any {m m' : Bool} {u v : Value} {xs ys : List Rec} {w : World} (hx : RdR m w u xs) (hy : RdR m' w v ys) :
    Calls Try.prog 75 #[u, v, .func (.func 76) #[] #[]] w (PBool (decide (xs = ys)) w) := by
  have hhx := hx
  have hhy := hy
  obtain ⟨A, c, rfl, hc1, hc2⟩ := hx.shape
  obtain ⟨B, c', rfl, hd1, hd2⟩ := hy.shape
  have hn : xs.length ≤ 9223372036854775807 := by have := hc2; unfold maxLen at this; omega
  by_cases hl : xs.length = ys.length
  case neg =>
    have hno : ∀ W, Upd [] w W → PBool (decide (xs = ys)) w (.returned (.bool false)) W := by
      intro W hW
      rw [decide_eq_false (fun h => hl (by rw [h]))]
      exact ⟨rfl, hW⟩
    have hli : ((xs.length : Int) != (ys.length : Int)) = true := by simp; omega
    clear hx hy hhx hhy hl
    go_enter Try.func75, Try.ntmps75
    go_wp2
    go_ret
    exact hno _ (Upd.refl _ _)
  have hno : ∀ W k, xs.getD k ⟨0, 0, 0, []⟩ ≠ ys.getD k ⟨0, 0, 0, []⟩ → Upd [] w W → PBool (decide (xs = ys)) w (.returned (.bool false)) W := by
    intro W k hk hW
    rw [decide_eq_false (eqNo k hk)]
    exact ⟨rfl, hW⟩
  have hyes : ∀ W, xs.take xs.length = ys.take xs.length → Upd [] w W → PBool (decide (xs = ys)) w (.returned (.bool true)) W := by
    intro W hk hW
    rw [List.take_length, hl, List.take_length] at hk
    rw [decide_eq_true hk]
    exact ⟨rfl, hW⟩
  revert hno hyes
  generalize PBool (decide (xs = ys)) w = P
  intro hno hyes
  have hli : ((xs.length : Int) != (ys.length : Int)) = false := by simp; omega
  have hL := Lib.hid hl
  clear hx hy hl
  go_enter Try.func75, Try.ntmps75
  go_wp2
  go_loopw [17] (fun i wr => ∃ k : Nat, k ≤ xs.length ∧ i = .int .i64 (k : Int) ∧ xs.take k = ys.take k ∧ Upd [] w wr) (fun i _ => xs.length - (intOf i).toNat)
  case atStart => exact ⟨0, by omega, rfl, by simp, Upd.refl _ _⟩
  case round =>
    obtain ⟨k, hk, rfl, hpre, hu⟩ := hrel
    by_cases hlt : k < xs.length
    · obtain ⟨b, off, ca, rfl, cw0, hr0, hl0⟩ := RdG.at_ hhx ⟨0, 0, 0, []⟩ k hlt
      obtain ⟨b', off', cb, rfl, cw1, hr1, hl1⟩ := RdG.at_ hhy ⟨0, 0, 0, []⟩ k (by have := hL.out; omega)
      have hlt' : k < ys.length := by have := hL.out; omega
      have hstep := fun h => eqPre (d := ⟨0, 0, 0, []⟩) hL.out hlt hpre h
      have hno' := fun W h => hno W k h
      revert hstep hno' hr0 hr1
      generalize xs.getD k ⟨0, 0, 0, []⟩ = x0
      generalize ys.getD k ⟨0, 0, 0, []⟩ = y0
      intro hr0 hr1 hstep hno'
      have hc0 := Lib.hid (range_upd cw0 hu (by simp))
      have hc1 := Lib.hid (range_upd cw1 hu (by simp))
      replace hstep := Lib.hid hstep
      replace hno' := Lib.hid hno'
      have ha := Lib.hid hr0
      have hb := Lib.hid hr1
      clear cw0 cw1 hhx hhy hpre hno hyes hr0 hr1
      have tok1_0 : True := trivial
      have tok1_1 : True := trivial
      have tok1_2 : True := trivial
      have tok1_3 : True := trivial
      have tok1_4 : True := trivial
      have tok1_5 : True := trivial
      have tok1_6 : True := trivial
      have tok1_7 : True := trivial
      have tok1_8 : True := trivial
      go_wp2_with (first | (have _t := tok1_0; refine wpList_load_mid rfl 57 _ rfl b (off + k * 4) rfl ca _ hc0.out Try.underlying57 rfl (by rw [hl0]; exact rec_size) ?_; clear _t tok1_0) | (have _t := tok1_1; refine wp_allocw rfl 57 rfl _ rec_info ?_; intro g1 w1 hg1 hB1 hu1; clear _t tok1_1) | (have _t := tok1_2; refine wp_storew rfl 57 _ _ rfl g1 rfl ca.toArray rfl _ _ hB1 (by simp only [List.size_toArray, hl0]; exact rec_size) (by simp only [List.size_toArray, hl0]; rfl) (recR.one ha.out).1 ?_; intro w2 hB2 hu2; have U2 := hu1.fresh1 hu2 hg1; clear _t tok1_2) | (have _t := tok1_3; refine wpList_load_mid rfl 57 _ rfl b' (off' + k * 4) rfl cb _ (range_upd hc1.out U2 (by simp)) Try.underlying57 rfl (by rw [hl1]; exact rec_size) ?_; clear _t tok1_3) | (have _t := tok1_4; refine wp_allocw rfl 57 rfl _ rec_info ?_; intro g3 w3 hg3 hB3 hu3; clear _t tok1_4) | (have _t := tok1_5; refine wp_storew rfl 57 _ _ rfl g3 rfl cb.toArray rfl _ _ hB3 (by simp only [List.size_toArray, hl1]; exact rec_size) (by simp only [List.size_toArray, hl1]; rfl) (recR.one hb.out).1 ?_; intro w4 hB4 hu4; have U4 := hu3.fresh1 hu4 hg3; have hB24 := U4.blk (by simp) hB2; have V4 := hu.step (U2.step U4); clear _t tok1_5) | (have _t := tok1_6; refine wpList_load_row rfl 57 _ rfl g1 rfl _ _ _ _ hB24 Try.underlying57 rfl (by simp only [List.size_toArray, hl0]; exact rec_size) ?_; clear _t tok1_6) | (have _t := tok1_7; refine wpList_load_row rfl 57 _ rfl g3 rfl _ _ _ _ hB4 Try.underlying57 rfl (by simp only [List.size_toArray, hl1]; exact rec_size) ?_; clear _t tok1_7) | (have _t := tok1_8; go_at_call 76; refine (rec_any (recR.upd0 V4 ha.out) (recR.upd0 V4 hb.out)).mono ?_; rintro e w5 ⟨rfl, hu5⟩; generalize hD : decide (x0 = y0) = D; have HD := Lib.hid hD; clear hD hB24 hB4; clear _t tok1_8))
      · have hD0 : (!D) = true := by assumption
        exact hno'.out _ (by have := HD.out; intro h; rw [← this, h] at hD0; simp at hD0) (V4.step hu5)
      · have hD0 : (!D) = false := by assumption
        have hxy : x0 = y0 := by have := HD.out; rw [← this] at hD0; simpa using hD0
        go_roundw
        case rel => exact ⟨k + 1, by omega, by go_num, hstep.out hxy, V4.step hu5⟩
        case measure => simp [intOf]; omega
    · have hj3 : k = xs.length := by omega
      have H3 := Lib.hid hj3
      rw [hj3] at hpre
      clear hj3 hhx hhy
      go_wp2
      exact hyes _ hpre hu
set_option maxRecDepth 100000 in
set_option maxHeartbeats 2000000 in
theorem eqO_any {m m' : Bool} {u v : Value} {xs ys : List Obj} {w : World} (hx : RdO m w u xs) (hy : RdO m' w v ys) :
    Calls Try.prog 77 #[u, v, .func (.func 78) #[] #[]] w (PBool (decide (xs = ys)) w) := by
  have hhx := hx
  have hhy := hy
  obtain ⟨A, c, rfl, hc1, hc2⟩ := hx.shape
  obtain ⟨B, c', rfl, hd1, hd2⟩ := hy.shape
  have hn : xs.length ≤ 9223372036854775807 := by have := hc2; unfold maxLen at this; omega
  by_cases hl : xs.length = ys.length
  case neg =>
    have hno : ∀ W, Upd [] w W → PBool (decide (xs = ys)) w (.returned (.bool false)) W := by
      intro W hW
      rw [decide_eq_false (fun h => hl (by rw [h]))]
      exact ⟨rfl, hW⟩
    have hli : ((xs.length : Int) != (ys.length : Int)) = true := by simp; omega
    clear hx hy hhx hhy hl
    go_enter Try.func77, Try.ntmps77
    go_wp2
    go_ret
    exact hno _ (Upd.refl _ _)
  have hno : ∀ W k, xs.getD k ⟨0, []⟩ ≠ ys.getD k ⟨0, []⟩ → Upd [] w W → PBool (decide (xs = ys)) w (.returned (.bool false)) W := by
    intro W k hk hW
    rw [decide_eq_false (eqNo k hk)]
    exact ⟨rfl, hW⟩
  have hyes : ∀ W, xs.take xs.length = ys.take xs.length → Upd [] w W → PBool (decide (xs = ys)) w (.returned (.bool true)) W := by
    intro W hk hW
    rw [List.take_length, hl, List.take_length] at hk
    rw [decide_eq_true hk]
    exact ⟨rfl, hW⟩
  revert hno hyes
  generalize PBool (decide (xs = ys)) w = P
  intro hno hyes
  have hli : ((xs.length : Int) != (ys.length : Int)) = false := by simp; omega
  have hL := Lib.hid hl
  clear hx hy hl
  go_enter Try.func77, Try.ntmps77
  go_wp2
  go_loopw [17] (fun i wr => ∃ k : Nat, k ≤ xs.length ∧ i = .int .i64 (k : Int) ∧ xs.take k = ys.take k ∧ Upd [] w wr) (fun i _ => xs.length - (intOf i).toNat)
  case atStart => exact ⟨0, by omega, rfl, by simp, Upd.refl _ _⟩
  case round =>
    obtain ⟨k, hk, rfl, hpre, hu⟩ := hrel
    by_cases hlt : k < xs.length
    · obtain ⟨b, off, ca, rfl, cw0, hr0, hl0⟩ := RdG.at_ hhx ⟨0, []⟩ k hlt
      obtain ⟨b', off', cb, rfl, cw1, hr1, hl1⟩ := RdG.at_ hhy ⟨0, []⟩ k (by have := hL.out; omega)
      have hlt' : k < ys.length := by have := hL.out; omega
      have hstep := fun h => eqPre (d := ⟨0, []⟩) hL.out hlt hpre h
      have hno' := fun W h => hno W k h
      revert hstep hno' hr0 hr1
      generalize xs.getD k ⟨0, []⟩ = x0
      generalize ys.getD k ⟨0, []⟩ = y0
      intro hr0 hr1 hstep hno'
      have hc0 := Lib.hid (range_upd cw0 hu (by simp))
      have hc1 := Lib.hid (range_upd cw1 hu (by simp))
      replace hstep := Lib.hid hstep
      replace hno' := Lib.hid hno'
      have ha := Lib.hid hr0
      have hb := Lib.hid hr1
      clear cw0 cw1 hhx hhy hpre hno hyes hr0 hr1
      have tok2_0 : True := trivial
      have tok2_1 : True := trivial
      have tok2_2 : True := trivial
      have tok2_3 : True := trivial
      have tok2_4 : True := trivial
      have tok2_5 : True := trivial
      have tok2_6 : True := trivial
      have tok2_7 : True := trivial
      have tok2_8 : True := trivial
      go_wp2_with (first | (have _t := tok2_0; refine wpList_load_mid rfl 59 _ rfl b (off + k * 2) rfl ca _ hc0.out Try.underlying59 rfl (by rw [hl0]; exact obj_size) ?_; clear _t tok2_0) | (have _t := tok2_1; refine wp_allocw rfl 59 rfl _ obj_info ?_; intro g1 w1 hg1 hB1 hu1; clear _t tok2_1) | (have _t := tok2_2; refine wp_storew rfl 59 _ _ rfl g1 rfl ca.toArray rfl _ _ hB1 (by simp only [List.size_toArray, hl0]; exact obj_size) (by simp only [List.size_toArray, hl0]; rfl) (objR.one ha.out).1 ?_; intro w2 hB2 hu2; have U2 := hu1.fresh1 hu2 hg1; clear _t tok2_2) | (have _t := tok2_3; refine wpList_load_mid rfl 59 _ rfl b' (off' + k * 2) rfl cb _ (range_upd hc1.out U2 (by simp)) Try.underlying59 rfl (by rw [hl1]; exact obj_size) ?_; clear _t tok2_3) | (have _t := tok2_4; refine wp_allocw rfl 59 rfl _ obj_info ?_; intro g3 w3 hg3 hB3 hu3; clear _t tok2_4) | (have _t := tok2_5; refine wp_storew rfl 59 _ _ rfl g3 rfl cb.toArray rfl _ _ hB3 (by simp only [List.size_toArray, hl1]; exact obj_size) (by simp only [List.size_toArray, hl1]; rfl) (objR.one hb.out).1 ?_; intro w4 hB4 hu4; have U4 := hu3.fresh1 hu4 hg3; have hB24 := U4.blk (by simp) hB2; have V4 := hu.step (U2.step U4); clear _t tok2_5) | (have _t := tok2_6; refine wpList_load_row rfl 59 _ rfl g1 rfl _ _ _ _ hB24 Try.underlying59 rfl (by simp only [List.size_toArray, hl0]; exact obj_size) ?_; clear _t tok2_6) | (have _t := tok2_7; refine wpList_load_row rfl 59 _ rfl g3 rfl _ _ _ _ hB4 Try.underlying59 rfl (by simp only [List.size_toArray, hl1]; exact obj_size) ?_; clear _t tok2_7) | (have _t := tok2_8; go_at_call 78; refine (object_any (objR.upd0 V4 ha.out) (objR.upd0 V4 hb.out)).mono ?_; rintro e w5 ⟨rfl, hu5⟩; generalize hD : decide (x0 = y0) = D; have HD := Lib.hid hD; clear hD hB24 hB4; clear _t tok2_8))
      · have hD0 : (!D) = true := by assumption
        exact hno'.out _ (by have := HD.out; intro h; rw [← this, h] at hD0; simp at hD0) (V4.step hu5)
      · have hD0 : (!D) = false := by assumption
        have hxy : x0 = y0 := by have := HD.out; rw [← this] at hD0; simpa using hD0
        go_roundw
        case rel => exact ⟨k + 1, by omega, by go_num, hstep.out hxy, V4.step hu5⟩
        case measure => simp [intOf]; omega
    · have hj3 : k = xs.length := by omega
      have H3 := Lib.hid hj3
      rw [hj3] at hpre
      clear hj3 hhx hhy
      go_wp2
      exact hyes _ hpre hu
end Go.Proofs.Ytbaeecmamacphaa
namespace Go.Proofs.Ytbaeecmamacphaa
open Go.RowKit
def plainL (M : Msg) : List Int := [M.code, M.fail, M.addr, M.count, M.value, M.and_, M.or_, M.addr2, M.sub, M.status, M.events, M.messages, M.mei * 256 + M.kind, M.level * 256 + M.more, M.next]
def plainA (M : Msg) : Array Value := ((plainL M).map (Value.int .u16)).toArray
def PVal (v : Value) (w : World) (e : Ending) (w' : World) : Prop := e = .returned v ∧ Upd [] w w'
theorem plain_zero : (Try.prog.info? 110).map (·.zero) = some (some (.agg ((List.replicate 15 (Value.int .u16 0)).toArray))) := by kernel_rfl
theorem plain_size : (Try.prog.info? 110).map (·.size) = some 15 := by kernel_rfl
theorem build_plain (a0 a1 a2 a3 a4 a5 a6 a7 a8 a9 a10 a11 a12 a13 a14 : Int) (w : World) : (Instr.build 110 #[(0, .int .u16 a0), (1, .int .u16 a1), (2, .int .u16 a2), (3, .int .u16 a3), (4, .int .u16 a4), (5, .int .u16 a5), (6, .int .u16 a6), (7, .int .u16 a7), (8, .int .u16 a8), (9, .int .u16 a9), (10, .int .u16 a10), (11, .int .u16 a11), (12, .int .u16 a12), (13, .int .u16 a13), (14, .int .u16 a14)]).run Try.prog w
    = .ok (.agg #[.int .u16 a0, .int .u16 a1, .int .u16 a2, .int .u16 a3, .int .u16 a4, .int .u16 a5, .int .u16 a6, .int .u16 a7, .int .u16 a8, .int .u16 a9, .int .u16 a10, .int .u16 a11, .int .u16 a12, .int .u16 a13, .int .u16 a14]) w := by kernel_rfl
theorem ret_cell {P : Program} {fn : Func} {p : Tmp} {ty : TypeId} (h : fn.results = #[.cell p ty]) {R : Ending → World → Prop} {a : Act} {w : World} (hd0 : a.defers = []) (g : Nat) (t : TypeId) (cs : Array Value) (fr : Nat × Nat) (d : TypeDesc)
    (hp : a.tmps.getD p undef = .pointer (some ⟨g, 0, none⟩)) (hg : w.heap[g]? = some (.cells cs t fr))
    (hu : P.underlying ty = some d) (hd : (match d with | .struct _ | .array _ _ => true | _ => false) = true) (hi : (P.info? ty).map (·.size) = some cs.size)
    (hR : R (.returned (.agg cs)) w) : bodyPost P fn R .ret a w := by
  have hp' : a.tmps[p]?.getD undef = .pointer (some ⟨g, 0, none⟩) := by simpa using hp
  exact bodyPost_ret (by simp [results, h, hp', asAddr, run_loadVar_row w g t ty cs fr d hg hu hd hi]) hd0 hR
set_option maxRecDepth 100000 in
set_option maxHeartbeats 2000000 in
theorem plain_any {m : Bool} {cs : Array Value} {M : Msg} {w : World} (h : MsgRd m w cs.toList M) : Calls Try.prog 72 #[.agg cs] w (PVal (.agg (plainA M)) w) := by
  obtain ⟨vw, vb, vd, vr, vo, h0, _, _, _, _, _, hR⟩ := h
  obtain ⟨c0, c1, c2, c3, c4, c5, c6, c7, c8, c9, c10, c11, l1, l2, l3, l4, c16, c17, c18, c19, c20, l5⟩ := M
  obtain ⟨r0, r1, r2, r3, r4, r5, r6, r7, r8, r9, r10, r11, r16, r17, r18, r19, r20⟩ := hR
  simp only [B8, B16] at r0 r1 r2 r3 r4 r5 r6 r7 r8 r9 r10 r11 r16 r17 r18 r19 r20
  have hpost : ∀ W, Upd [] w W → PVal (.agg (plainA ⟨c0, c1, c2, c3, c4, c5, c6, c7, c8, c9, c10, c11, l1, l2, l3, l4, c16, c17, c18, c19, c20, l5⟩)) w (.returned (.agg #[.int .u16 c0, .int .u16 c1, .int .u16 c2, .int .u16 c3, .int .u16 c4, .int .u16 c5, .int .u16 c6, .int .u16 c7, .int .u16 c8, .int .u16 c9, .int .u16 c10, .int .u16 c11, .int .u16 (c16 * 256 + c17), .int .u16 (c18 * 256 + c19), .int .u16 c20])) W := fun W hW => ⟨rfl, hW⟩
  revert hpost
  generalize PVal (.agg (plainA ⟨c0, c1, c2, c3, c4, c5, c6, c7, c8, c9, c10, c11, l1, l2, l3, l4, c16, c17, c18, c19, c20, l5⟩)) w = P
  intro hpost
  replace hpost := Lib.hid hpost
  have w0 : IntKind.u16.wrap c0 = c0 := by show c0 % 65536 = c0; omega
  have w1 : IntKind.u16.wrap c1 = c1 := by show c1 % 65536 = c1; omega
  have w16 : IntKind.u16.wrap c16 = c16 := by show c16 % 65536 = c16; omega
  have w17 : IntKind.u16.wrap c17 = c17 := by show c17 % 65536 = c17; omega
  have w18 : IntKind.u16.wrap c18 = c18 := by show c18 % 65536 = c18; omega
  have w19 : IntKind.u16.wrap c19 = c19 := by show c19 % 65536 = c19; omega
  have w20 : IntKind.u16.wrap c20 = c20 := by show c20 % 65536 = c20; omega
  have x1 : IntKind.u16.wrap (c16 * 256) = c16 * 256 := by show (c16 * 256) % 65536 = c16 * 256; omega
  have x2 : IntKind.u16.wrap (c18 * 256) = c18 * 256 := by show (c18 * 256) % 65536 = c18 * 256; omega
  have o1 := or_word r16 r17
  have o2 := or_word r18 r19
  have hcs : cs = #[.int .u8 c0, .int .u8 c1, .int .u16 c2, .int .u16 c3, .int .u16 c4, .int .u16 c5, .int .u16 c6, .int .u16 c7, .int .u16 c8, .int .u16 c9, .int .u16 c10, .int .u16 c11, vw, vb, vd, vr, .int .u8 c16, .int .u8 c17, .int .u8 c18, .int .u8 c19, .int .u8 c20, vo] := by
    apply Array.toList_inj.1
    exact h0
  subst hcs
  have hbp := build_plain
  clear h0 r0 r1 r2 r3 r4 r5 r6 r7 r8 r9 r10 r11 r16 r17 r18 r19 r20
  go_enter Try.func72, Try.ntmps72
  have tok1_0 : True := trivial
  have tok1_1 : True := trivial
  have tok1_2 : True := trivial
  go_wp2_with (first | (have _t := tok1_0; refine wp_boxw rfl 29 _ rfl (.agg #[.int .u8 c0, .int .u8 c1, .int .u16 c2, .int .u16 c3, .int .u16 c4, .int .u16 c5, .int .u16 c6, .int .u16 c7, .int .u16 c8, .int .u16 c9, .int .u16 c10, .int .u16 c11, vw, vb, vd, vr, .int .u8 c16, .int .u8 c17, .int .u8 c18, .int .u8 c19, .int .u8 c20, vo]) rfl ?_; intro g w1 hg hB hu1; clear _t tok1_0) | (have _t := tok1_1; refine wp_allocw rfl 110 rfl _ plain_zero ?_; intro gp w2 hgp hBp hu2; replace hB := hu2.blk (by simp) hB; have k0 : w2.cell? ⟨g, 0, none⟩ = some (.int .u8 c0) := (blk_cell hB 0).trans rfl; have k1 : w2.cell? ⟨g, 1, none⟩ = some (.int .u8 c1) := (blk_cell hB 1).trans rfl; have k2 : w2.cell? ⟨g, 2, none⟩ = some (.int .u16 c2) := (blk_cell hB 2).trans rfl; have k3 : w2.cell? ⟨g, 3, none⟩ = some (.int .u16 c3) := (blk_cell hB 3).trans rfl; have k4 : w2.cell? ⟨g, 4, none⟩ = some (.int .u16 c4) := (blk_cell hB 4).trans rfl; have k5 : w2.cell? ⟨g, 5, none⟩ = some (.int .u16 c5) := (blk_cell hB 5).trans rfl; have k6 : w2.cell? ⟨g, 6, none⟩ = some (.int .u16 c6) := (blk_cell hB 6).trans rfl; have k7 : w2.cell? ⟨g, 7, none⟩ = some (.int .u16 c7) := (blk_cell hB 7).trans rfl; have k8 : w2.cell? ⟨g, 8, none⟩ = some (.int .u16 c8) := (blk_cell hB 8).trans rfl; have k9 : w2.cell? ⟨g, 9, none⟩ = some (.int .u16 c9) := (blk_cell hB 9).trans rfl; have k10 : w2.cell? ⟨g, 10, none⟩ = some (.int .u16 c10) := (blk_cell hB 10).trans rfl; have k11 : w2.cell? ⟨g, 11, none⟩ = some (.int .u16 c11) := (blk_cell hB 11).trans rfl; have k16 : w2.cell? ⟨g, 16, none⟩ = some (.int .u8 c16) := (blk_cell hB 16).trans rfl; have k17 : w2.cell? ⟨g, 17, none⟩ = some (.int .u8 c17) := (blk_cell hB 17).trans rfl; have k18 : w2.cell? ⟨g, 18, none⟩ = some (.int .u8 c18) := (blk_cell hB 18).trans rfl; have k19 : w2.cell? ⟨g, 19, none⟩ = some (.int .u8 c19) := (blk_cell hB 19).trans rfl; have k20 : w2.cell? ⟨g, 20, none⟩ = some (.int .u8 c20) := (blk_cell hB 20).trans rfl; clear hB; clear _t tok1_1) | (have _t := tok1_2; refine wp_storew rfl 110 _ _ rfl gp rfl _ rfl _ _ hBp plain_size rfl (by simp [Value.oneCell']) ?_; intro w3 hB3 hu3; clear _t tok1_2))
  refine ret_cell rfl rfl gp _ _ _ _ rfl hB3 Try.underlying110 rfl plain_size ?_
  exact hpost.out _ (hu1.step (hu2.fresh1 hu3 hgp))
end Go.Proofs.Ytbaeecmamacphaa
namespace Go.Proofs.Ytbaeecmamacphaa
open Go.RowKit
def publicB (x : Int) : Bool := decide (x ∈ ([1, 2, 3, 4, 5, 6, 7, 8, 11, 12, 15, 16, 17, 20, 21, 22, 23, 24, 43] : List Int))
set_option maxRecDepth 100000 in
set_option maxHeartbeats 4000000 in
theorem public_any {x : Int} {w : World} : Calls Try.prog 34 #[.int .u8 x] w (PVal (.bool (publicB x)) w) := by
 refine en 7 Try.func34 rfl <| sg <| Pl 1 <| ng <| L0 <| Olt (m := 19) (e := 5) #[.int .u8 1, .int .u8 2, .int .u8 3, .int .u8 4, .int .u8 5, .int .u8 6, .int .u8 7, .int .u8 8, .int .u8 11, .int .u8 12, .int .u8 15, .int .u8 16, .int .u8 17, .int .u8 20, .int .u8 21, .int .u8 22, .int .u8 23, .int .u8 24, .int .u8 43] fun g10 w11 hg12 B13 hu14 => ?_
 have ow15 := litB hg12 (xs := [1, 2, 3, 4, 5, 6, 7, 8, 11, 12, 15, 16, 17, 20, 21, 22, 23, 24, 43]) (by as_aux_lemma => kernel_rfl) (rng_cons (by omega) (rng_cons (by omega) (rng_cons (by omega) (rng_cons (by omega) (rng_cons (by omega) (rng_cons (by omega) (rng_cons (by omega) (rng_cons (by omega) (rng_cons (by omega) (rng_cons (by omega) (rng_cons (by omega) (rng_cons (by omega) (rng_cons (by omega) (rng_cons (by omega) (rng_cons (by omega) (rng_cons (by omega) (rng_cons (by omega) (rng_cons (by omega) (rng_cons (by omega) rng_nil))))))))))))))))))) (by (try simp only [List.length_cons, List.length_nil]); omega) B13
 refine L0 <| Oc <| ee3 (set_u8 (xs := [1, 2, 3, 4, 5, 6, 7, 8, 11, 12, 15, 16, 17, 20, 21, 22, 23, 24, 43]) (ow15).rd (by decide) (by decide)) fun r17 ck18 w16 hg19 B20 hu21 => Pl 1 <| L0 <| Oki B20 x ([1, 2, 3, 4, 5, 6, 7, 8, 11, 12, 15, 16, 17, 20, 21, 22, 23, 24, 43]) <| Pl 1 <| nt <| rt <| rr (.bool (decide (x ∈ [1, 2, 3, 4, 5, 6, 7, 8, 11, 12, 15, 16, 17, 20, 21, 22, 23, 24, 43]))) <| ?_
 have U22 := ut0 hu14 hu21
 exact ⟨rfl, U22⟩
def failureB (x : Int) : Bool := decide (x ∈ ([1, 2, 3, 4, 5, 6, 8, 10, 11] : List Int))
set_option maxRecDepth 100000 in
set_option maxHeartbeats 4000000 in
theorem failure_any {x : Int} {w : World} : Calls Try.prog 35 #[.int .u8 x] w (PVal (.bool (failureB x)) w) := by
 refine en 7 Try.func35 rfl <| sg <| Pl 1 <| ng <| L0 <| Olt (m := 9) (e := 5) #[.int .u8 1, .int .u8 2, .int .u8 3, .int .u8 4, .int .u8 5, .int .u8 6, .int .u8 8, .int .u8 10, .int .u8 11] fun g10 w11 hg12 B13 hu14 => ?_
 have ow15 := litB hg12 (xs := [1, 2, 3, 4, 5, 6, 8, 10, 11]) (by as_aux_lemma => kernel_rfl) (rng_cons (by omega) (rng_cons (by omega) (rng_cons (by omega) (rng_cons (by omega) (rng_cons (by omega) (rng_cons (by omega) (rng_cons (by omega) (rng_cons (by omega) (rng_cons (by omega) rng_nil))))))))) (by (try simp only [List.length_cons, List.length_nil]); omega) B13
 refine L0 <| Oc <| ee3 (set_u8 (xs := [1, 2, 3, 4, 5, 6, 8, 10, 11]) (ow15).rd (by decide) (by decide)) fun r17 ck18 w16 hg19 B20 hu21 => Pl 1 <| L0 <| Oki B20 x ([1, 2, 3, 4, 5, 6, 8, 10, 11]) <| Pl 1 <| nt <| rt <| rr (.bool (decide (x ∈ [1, 2, 3, 4, 5, 6, 8, 10, 11]))) <| ?_
 have U22 := ut0 hu14 hu21
 exact ⟨rfl, U22⟩
def subB (x : Int) : Bool := decide (x ∈ ([0, 1, 2, 3, 4, 10, 11, 12, 13, 14, 15, 16, 17, 18, 20] : List Int))
set_option maxRecDepth 100000 in
set_option maxHeartbeats 4000000 in
theorem bits_any {x : Int} {w : World} : Calls Try.prog 95 #[.int .u16 x] w (PVal (.bool (subB x)) w) := by
 refine en 7 Try.func95 rfl <| sg <| Pl 1 <| ng <| L0 <| Olt (m := 15) (e := 23) #[.int .u16 0, .int .u16 1, .int .u16 2, .int .u16 3, .int .u16 4, .int .u16 10, .int .u16 11, .int .u16 12, .int .u16 13, .int .u16 14, .int .u16 15, .int .u16 16, .int .u16 17, .int .u16 18, .int .u16 20] fun g10 w11 hg12 B13 hu14 => ?_
 have ow15 := litW hg12 (xs := [0, 1, 2, 3, 4, 10, 11, 12, 13, 14, 15, 16, 17, 18, 20]) (by as_aux_lemma => kernel_rfl) (rng_cons (by omega) (rng_cons (by omega) (rng_cons (by omega) (rng_cons (by omega) (rng_cons (by omega) (rng_cons (by omega) (rng_cons (by omega) (rng_cons (by omega) (rng_cons (by omega) (rng_cons (by omega) (rng_cons (by omega) (rng_cons (by omega) (rng_cons (by omega) (rng_cons (by omega) (rng_cons (by omega) rng_nil))))))))))))))) (by (try simp only [List.length_cons, List.length_nil]); omega) B13
 refine L0 <| Oc <| ee3 (set_u16 (xs := [0, 1, 2, 3, 4, 10, 11, 12, 13, 14, 15, 16, 17, 18, 20]) (ow15).rd (by decide) (by decide)) fun r17 ck18 w16 hg19 B20 hu21 => Pl 1 <| L0 <| Oki B20 x ([0, 1, 2, 3, 4, 10, 11, 12, 13, 14, 15, 16, 17, 18, 20]) <| Pl 1 <| nt <| rt <| rr (.bool (decide (x ∈ [0, 1, 2, 3, 4, 10, 11, 12, 13, 14, 15, 16, 17, 18, 20]))) <| ?_
 have U22 := ut0 hu14 hu21
 exact ⟨rfl, U22⟩
def levelB (x : Int) : Bool := decide (x ∈ ([1, 2, 3, 129, 130, 131] : List Int))
set_option maxRecDepth 100000 in
set_option maxHeartbeats 4000000 in
theorem level_any {x : Int} {w : World} : Calls Try.prog 106 #[.int .u8 x] w (PVal (.bool (levelB x)) w) := by
 refine en 7 Try.func106 rfl <| sg <| Pl 1 <| ng <| L0 <| Omk fun g10 w11 hg12 B13 hu14 => L0 <| Oin B13 1 #[⟨.int .u8 1, .bool true, 0⟩] 1 fun w15 B16 hu17 => L0 <| Oin B16 2 #[⟨.int .u8 1, .bool true, 0⟩, ⟨.int .u8 2, .bool true, 1⟩] 2 fun w18 B19 hu20 => L0 <| Oin B19 3 #[⟨.int .u8 1, .bool true, 0⟩, ⟨.int .u8 2, .bool true, 1⟩, ⟨.int .u8 3, .bool true, 2⟩] 3 fun w21 B22 hu23 => L0 <| Oin B22 129 #[⟨.int .u8 1, .bool true, 0⟩, ⟨.int .u8 2, .bool true, 1⟩, ⟨.int .u8 3, .bool true, 2⟩, ⟨.int .u8 129, .bool true, 3⟩] 4 fun w24 B25 hu26 => L0 <| Oin B25 130 #[⟨.int .u8 1, .bool true, 0⟩, ⟨.int .u8 2, .bool true, 1⟩, ⟨.int .u8 3, .bool true, 2⟩, ⟨.int .u8 129, .bool true, 3⟩, ⟨.int .u8 130, .bool true, 4⟩] 5 fun w27 B28 hu29 => ?_
 refine L0 <| Oin B28 131 #[⟨.int .u8 1, .bool true, 0⟩, ⟨.int .u8 2, .bool true, 1⟩, ⟨.int .u8 3, .bool true, 2⟩, ⟨.int .u8 129, .bool true, 3⟩, ⟨.int .u8 130, .bool true, 4⟩, ⟨.int .u8 131, .bool true, 5⟩] 6 fun w30 B31 hu32 => Pl 2 <| L0 <| Oki B31 x ([1, 2, 3, 129, 130, 131]) <| Pl 1 <| nt <| rt <| rr (.bool (decide (x ∈ [1, 2, 3, 129, 130, 131]))) <| ?_
 have U33 := u1 hu14 hu17 (nr hg12)
 have U34 := u1 U33 hu20 (nr hg12)
 have U35 := u1 U34 hu23 (nr hg12)
 have U36 := u1 U35 hu26 (nr hg12)
 have U37 := u1 U36 hu29 (nr hg12)
 have U38 := u1 U37 hu32 (nr hg12)
 exact ⟨rfl, U38⟩
end Go.Proofs.Ytbaeecmamacphaa
namespace Go.Proofs.Ytbaeecmamacphaa
open Go.RowKit
def pub7 (x : Int) : Bool := (((((((decide (1 ≤ x) && decide (x ≤ 8)) || x == 11) || x == 12) || (decide (15 ≤ x) && decide (x ≤ 17))) || (decide (20 ≤ x) && decide (x ≤ 24))) || x == 43))
set_option maxRecDepth 100000 in
set_option maxHeartbeats 4000000 in
theorem pub7_any {x : Int} {w : World} : Calls Try.prog 19 #[.int .u8 x] w (PVal (.bool (pub7 x)) w) := by
 refine en 37 Try.func19 rfl <| sg <| Pl 1 <| ng <| Pl 3 <| cu 3 [5] 8 (((decide (1 ≤ x)) && (decide (x ≤ 8)))) (fun K K11 => ?_) ?_
 refine bl 5 ((decide (1 ≤ x))) (fun q10 => ?_) (fun q10 => ?_)
 have q10p := of_decide_eq_true q10
 exact Pl 3 <| ce K11 (decide (x ≤ 8)) (by rw [q10]; rfl)
 have q10p := of_decide_eq_false q10
 exact Pl 3 <| ce K11 false (by rw [q10]; rfl)
 refine Pl 1 <| cu 3 [9] 12 ((((decide (1 ≤ x)) && (decide (x ≤ 8))) || (x == 11))) (fun K K13 => ?_) ?_
 refine bl 9 (((decide (1 ≤ x)) && (decide (x ≤ 8)))) (fun q12 => ?_) (fun q12 => ?_)
 have q12a := (and_t q12).1
 have q12b := (and_t q12).2
 have q12ap := of_decide_eq_true q12a
 have q12bp := of_decide_eq_true q12b
 exact Pl 3 <| ce K13 true (by rw [q12]; rfl)
 exact Pl 3 <| ce K13 (x == 11) (by rw [q12]; rfl)
 refine Pl 1 <| cu 3 [13] 16 (((((decide (1 ≤ x)) && (decide (x ≤ 8))) || (x == 11)) || (x == 12))) (fun K K15 => ?_) ?_
 refine bl 13 ((((decide (1 ≤ x)) && (decide (x ≤ 8))) || (x == 11))) (fun q14 => ?_) (fun q14 => ?_)
 exact Pl 3 <| ce K15 true (by rw [q14]; rfl)
 have q14a := (or_f q14).1
 have q14b := (or_f q14).2
 have q14bp := ne_of_beqi q14b
 exact Pl 3 <| ce K15 (x == 12) (by rw [q14]; rfl)
 refine Pl 1 <| cu 7 [17] 24 ((((((decide (1 ≤ x)) && (decide (x ≤ 8))) || (x == 11)) || (x == 12)) || ((decide (15 ≤ x)) && (decide (x ≤ 17))))) (fun K K17 => ?_) ?_
 refine bl 17 (((((decide (1 ≤ x)) && (decide (x ≤ 8))) || (x == 11)) || (x == 12))) (fun q16 => ?_) (fun q16 => ?_)
 exact Pl 7 <| ce K17 true (by rw [q16]; rfl)
 have q16a := (or_f q16).1
 have q16b := (or_f q16).2
 have q16aa := (or_f q16a).1
 have q16ab := (or_f q16a).2
 have q16abp := ne_of_beqi q16ab
 have q16bp := ne_of_beqi q16b
 refine Pl 3 <| cu 3 [20] 23 (((decide (15 ≤ x)) && (decide (x ≤ 17)))) (fun K K19 => ?_) ?_
 refine bl 20 ((decide (15 ≤ x))) (fun q18 => ?_) (fun q18 => ?_)
 have q18p := of_decide_eq_true q18
 exact Pl 3 <| ce K19 (decide (x ≤ 17)) (by rw [q18]; rfl)
 have q18p := of_decide_eq_false q18
 exact Pl 3 <| ce K19 false (by rw [q18]; rfl)
 exact Pl 1 <| ce K17 ((decide (15 ≤ x)) && (decide (x ≤ 17))) (by rw [q16]; rfl)
 refine Pl 1 <| cu 7 [25] 32 (((((((decide (1 ≤ x)) && (decide (x ≤ 8))) || (x == 11)) || (x == 12)) || ((decide (15 ≤ x)) && (decide (x ≤ 17)))) || ((decide (20 ≤ x)) && (decide (x ≤ 24))))) (fun K K21 => ?_) ?_
 refine bl 25 ((((((decide (1 ≤ x)) && (decide (x ≤ 8))) || (x == 11)) || (x == 12)) || ((decide (15 ≤ x)) && (decide (x ≤ 17))))) (fun q20 => ?_) (fun q20 => ?_)
 exact Pl 7 <| ce K21 true (by rw [q20]; rfl)
 have q20a := (or_f q20).1
 have q20b := (or_f q20).2
 have q20aa := (or_f q20a).1
 have q20ab := (or_f q20a).2
 have q20aaa := (or_f q20aa).1
 have q20aab := (or_f q20aa).2
 have q20aabp := ne_of_beqi q20aab
 have q20abp := ne_of_beqi q20ab
 refine Pl 3 <| cu 3 [28] 31 (((decide (20 ≤ x)) && (decide (x ≤ 24)))) (fun K K23 => ?_) ?_
 refine bl 28 ((decide (20 ≤ x))) (fun q22 => ?_) (fun q22 => ?_)
 have q22p := of_decide_eq_true q22
 exact Pl 3 <| ce K23 (decide (x ≤ 24)) (by rw [q22]; rfl)
 have q22p := of_decide_eq_false q22
 exact Pl 3 <| ce K23 false (by rw [q22]; rfl)
 exact Pl 1 <| ce K21 ((decide (20 ≤ x)) && (decide (x ≤ 24))) (by rw [q20]; rfl)
 refine Pl 1 <| cu 3 [33] 36 ((((((((decide (1 ≤ x)) && (decide (x ≤ 8))) || (x == 11)) || (x == 12)) || ((decide (15 ≤ x)) && (decide (x ≤ 17)))) || ((decide (20 ≤ x)) && (decide (x ≤ 24)))) || (x == 43))) (fun K K25 => ?_) ?_
 refine bl 33 (((((((decide (1 ≤ x)) && (decide (x ≤ 8))) || (x == 11)) || (x == 12)) || ((decide (15 ≤ x)) && (decide (x ≤ 17)))) || ((decide (20 ≤ x)) && (decide (x ≤ 24))))) (fun q24 => ?_) (fun q24 => ?_)
 exact Pl 3 <| ce K25 true (by rw [q24]; rfl)
 have q24a := (or_f q24).1
 have q24b := (or_f q24).2
 have q24aa := (or_f q24a).1
 have q24ab := (or_f q24a).2
 have q24aaa := (or_f q24aa).1
 have q24aab := (or_f q24aa).2
 have q24aaaa := (or_f q24aaa).1
 have q24aaab := (or_f q24aaa).2
 have q24aaabp := ne_of_beqi q24aaab
 have q24aabp := ne_of_beqi q24aab
 exact Pl 3 <| ce K25 (x == 43) (by rw [q24]; rfl)
 refine Pl 1 <| nt <| rt <| rr (.bool (((((((decide (1 ≤ x)) && (decide (x ≤ 8))) || (x == 11)) || (x == 12)) || ((decide (15 ≤ x)) && (decide (x ≤ 17)))) || ((decide (20 ≤ x)) && (decide (x ≤ 24)))) || (x == 43))) <| ?_
 have hs : pub7 x = (((((((decide (1 ≤ x)) && (decide (x ≤ 8))) || (x == 11)) || (x == 12)) || ((decide (15 ≤ x)) && (decide (x ≤ 17)))) || ((decide (20 ≤ x)) && (decide (x ≤ 24)))) || (x == 43)) := by
   unfold pub7
   (try simp only [bs, if_true, if_false, decide_true, decide_false])
 rw [hs]
 exact ⟨rfl, (Upd.refl [] _)⟩
set_option maxRecDepth 100000 in
set_option maxHeartbeats 4000000 in
theorem same1_any0 {m m' : Bool} {A B : Option Addr} {c d : Nat} {xs ys : List Int} {w : World} (h1 : RdB m w (.slice A xs.length c) xs) (h2 : RdB m' w (.slice B ys.length d) ys) :
    Calls Try.prog 17 #[.slice A xs.length c, .slice B ys.length d] w (PVal (.bool (decide (xs = ys))) w) := by
 refine en 10 Try.func17 rfl <| sg <| Pl 1 <| ng <| Pl 1 <| L0 <| Or_ (.string (strOfNums xs)) (run_convB (A := A) (n := xs.length) (c := c) rfl (by kernel_rfl) Try.underlying22 Try.underlying5 Try.underlying9 h1) <| Pl 1 <| L0 <| Or_ (.string (strOfNums ys)) (run_convB (A := B) (n := ys.length) (c := d) rfl (by kernel_rfl) Try.underlying22 Try.underlying5 Try.underlying9 h2) <| L0 <| Or_ (.bool (decide (xs = ys))) (run_strq (a := (strOfNums xs)) (b := (strOfNums ys)) rfl (by kernel_rfl) (by kernel_rfl) (str_eq h1 h2)) <| Pl 1 <| nl <| ?_
 refine tn <| rt <| rr (.bool (decide (xs = ys))) <| ?_
 exact ⟨rfl, (Upd.refl [] _)⟩
theorem same1_any {m m' : Bool} {a b : Value} {xs ys : List Int} {w : World} (h1 : RdB m w a xs) (h2 : RdB m' w b ys) : Calls Try.prog 17 #[a, b] w (PVal (.bool (decide (xs = ys))) w) := by
  obtain ⟨A, c, rfl, _, _⟩ := h1.shape
  obtain ⟨B, d, rfl, _, _⟩ := h2.shape
  exact same1_any0 h1 h2
end Go.Proofs.Ytbaeecmamacphaa
namespace Go.Proofs.Ytbaeecmamacphaa
open Go.RowKit
def smK (c : Cur) : Int := (spanC c 1968).byteV
def smN (c : Cur) : Int := (c.wordsC 1).wordV
def smC2 (c : Cur) : Cur := ((spanC c 1968).bytesC 1).need (smK c == many (smN c)) 5
def smU (c : Cur) : Option (List Bool) := unpackB ((smC2 c).bytesR (smK c)) (smN c)
def smC (c : Cur) : Cur := ((smC2 c).bytesC (smK c)).need (smU c).isSome 6
def PMany (g gm : Nat) (c : Cur) (cs : Array Value) (w : World) (e : Ending) (w' : World) : Prop :=
  ∃ v, e = .returned (.tuple #[]) ∧ CurAt w' g (smC c) ∧ MsgB w' gm (((cs.setIfInBounds 2 (.int .u16 c.wordV)).setIfInBounds 3 (.int .u16 (smN c))).setIfInBounds 13 v) ∧ RdL true w' v ((smU c).getD []) ∧ Upd [g, gm] w w'
set_option maxRecDepth 100000 in
set_option maxHeartbeats 2000000 in
theorem setsMany_any {g gm : Nat} {c : Cur} {cs : Array Value} {w : World} (hc : CurAt w g c) (hm : MsgB w gm cs) :
    Calls Try.prog 56 #[.agg #[.pointer (some ⟨g, 0, none⟩), .pointer (some ⟨gm, 0, none⟩)]] w (PMany g gm c cs w) := by
  have st := FormSt.start hc hm
  have k0 := st.k0
  have k1 := st.k1
  obtain ⟨W0, hW0⟩ : ∃ W0, w.alloc (.cells #[.pointer (some ⟨g, 0, none⟩), .pointer (some ⟨gm, 0, none⟩)] 91) = W0 := ⟨_, rfl⟩
  obtain ⟨bf, hbf⟩ : ∃ bf, w.heap.size = bf := ⟨_, rfl⟩
  rw [hW0, hbf] at st k0 k1
  have hcs : cs.size = 22 := hm.2
  have hrn2 := wordV_rng (wordsC_rng hc.rng 1)
  have hpost : ∀ W v, FormSt w W bf g gm (smC c) ((cs.setIfInBounds 2 (.int .u16 c.wordV)).setIfInBounds 3 (.int .u16 (smN c))) → RdL true W v ((smU c).getD []) → PMany g gm c cs w (.returned (.tuple #[])) (W.setCell ⟨gm, 13, none⟩ v) := fun W v h hr =>
    have h' := h.store 13 v
    ⟨v, rfl, h'.hc, h'.hm, RdL.upd' hr ((Upd.refl [gm] W).setCell (p := ⟨gm, 13, none⟩) (.inl (by simp)) v) (h.hm.safe _ (by decide)), h'.u⟩
  unfold smC smU smC2 smK smN at hpost
  revert hpost
  generalize PMany g gm c cs w = P
  intro hpost
  clear hc hm
  go_enter Try.func56, Try.ntmps56
  have tok1_0 : True := trivial
  have tok1_1 : True := trivial
  go_wp2_with (first | (have _t := tok1_0; go_at_call 57; refine (done_any st.hc st.hm).mono ?_; rintro e w1 ⟨rfl, hc1, hm1, hu1⟩; have s1 := st.both hc1 hm1 hu1; have k2 := s1.k0; have k3 := s1.k1; clear hW0 hbf; clear _t tok1_0) | (have _t := tok1_1; go_at_call 30; refine (byte_any s1.hc).mono ?_; rintro e w2 ⟨rfl, hc2, hu2, hrk⟩; have s2 := s1.call hc2 hu2; clear _t tok1_1))
  have e3 := s2.hm.cellv 3 (by decide) (getD_set_same 3 _ (by simp; omega))
  clear hc1 hm1 hu1 s1 k2 k3 hc2 hu2 st k0 k1
  revert hpost hrn2 s2 e3 hrk
  generalize (c.wordsC 1).wordV = n
  generalize (spanC c 1968).byteV = k
  generalize (spanC c 1968).bytesC 1 = c2
  generalize (cs.setIfInBounds 2 (.int .u16 c.wordV)).setIfInBounds 3 (.int .u16 n) = cs3
  intro hrn2 hpost hrk s2 e3
  have hwk : IntKind.i64.wrap k = k := IntWalk.i64_in _ (by omega)
  have hwn : IntKind.i64.wrap n = n := IntWalk.i64_in _ (by omega)
  have sd := s2.drew
  refine rg_start (S := fun w' => w'.cell? ⟨bf, 0, none⟩ = some (.pointer (some ⟨g, 0, none⟩)) ∧ w'.cell? ⟨bf, 1, none⟩ = some (.pointer (some ⟨gm, 0, none⟩)) ∧ w'.cell? ⟨gm, 3, none⟩ = some (.int .u16 n)) (n := 12) #[false, false, false, false, false, false, false, false, false, false, false, false] (by kernel_rfl) rfl rfl ⟨sd.k0, sd.k1, e3⟩ (fun hHeld => ?_)
  refine rg_take (i := 0) (N := some 11) (v := ?_) (a' := ?_) #[true, false, false, false, false, false, false, false, false, false, false, false] rfl rfl (by kernel_rfl) (fun _ _ _ h => h) (Or.inl ⟨by rfl, ?_⟩) hHeld ?_ ?_
  rotate_left
  · rintro w' ⟨hs0, hs1, hs2⟩
    go_simp
    with_reducible rfl
  rotate_left
  · simp only [Act.put, List.setIfInBounds_toArray, List.set_cons_zero, List.set_cons_succ]
    rfl
  refine rg_take (i := 1) (N := some 12) (v := ?_) (a' := ?_) #[true, true, false, false, false, false, false, false, false, false, false, false] rfl rfl (by kernel_rfl) (fun _ _ _ h => h) (Or.inl ⟨by rfl, ?_⟩) hHeld ?_ ?_
  rotate_left
  · rintro w' ⟨hs0, hs1, hs2⟩
    go_simp
    with_reducible rfl
  rotate_left
  · simp only [Act.put, List.setIfInBounds_toArray, List.set_cons_zero, List.set_cons_succ]
    rfl
  refine rg_take (i := 2) (N := some 13) (v := ?_) (a' := ?_) #[true, true, true, false, false, false, false, false, false, false, false, false] rfl rfl (by kernel_rfl) (fun _ _ _ h => h) (Or.inl ⟨by rfl, ?_⟩) hHeld ?_ ?_
  rotate_left
  · rintro w' ⟨hs0, hs1, hs2⟩
    go_simp
    with_reducible rfl
  rotate_left
  · simp only [Act.put, List.setIfInBounds_toArray, List.set_cons_zero, List.set_cons_succ]
    rfl
  refine rg_take (i := 3) (N := some 14) (v := ?_) (a' := ?_) #[true, true, true, true, false, false, false, false, false, false, false, false] rfl rfl (by kernel_rfl) (fun _ _ _ h => h) (Or.inl ⟨by rfl, ?_⟩) hHeld ?_ ?_
  rotate_left
  · rintro w' ⟨hs0, hs1, hs2⟩
    go_simp
    with_reducible rfl
  rotate_left
  · simp only [Act.put, List.setIfInBounds_toArray, List.set_cons_zero, List.set_cons_succ]
    rfl
  refine rg_take (i := 4) (N := some 15) (v := ?_) (a' := ?_) #[true, true, true, true, true, false, false, false, false, false, false, false] rfl rfl (by kernel_rfl) (fun _ _ _ h => h) (Or.inl ⟨by rfl, ?_⟩) hHeld ?_ ?_
  rotate_left
  · rintro w' ⟨hs0, hs1, hs2⟩
    go_simp
    with_reducible rfl
  rotate_left
  · simp only [Act.put, List.setIfInBounds_toArray, List.set_cons_zero, List.set_cons_succ]
    rfl
  refine rg_take (i := 5) (N := some 16) (v := ?_) (a' := ?_) #[true, true, true, true, true, true, false, false, false, false, false, false] rfl rfl (by kernel_rfl) (fun _ _ _ h => h) (Or.inl ⟨by rfl, ?_⟩) hHeld ?_ ?_
  rotate_left
  · rintro w' ⟨hs0, hs1, hs2⟩
    go_simp
    with_reducible rfl
  rotate_left
  · simp only [Act.put, List.setIfInBounds_toArray, List.set_cons_zero, List.set_cons_succ]
    rfl
  refine rg_take (i := 6) (N := some 17) (v := ?_) (a' := ?_) #[true, true, true, true, true, true, true, false, false, false, false, false] rfl rfl (by kernel_rfl) (fun _ _ _ h => h) (Or.inl ⟨by rfl, ?_⟩) hHeld ?_ ?_
  rotate_left
  · rintro w' ⟨hs0, hs1, hs2⟩
    go_simp
    with_reducible rfl
  rotate_left
  · simp only [Act.put, List.setIfInBounds_toArray, List.set_cons_zero, List.set_cons_succ]
    rfl
  refine rg_take (i := 7) (N := some 18) (v := ?_) (a' := ?_) #[true, true, true, true, true, true, true, true, false, false, false, false] rfl rfl (by kernel_rfl) (fun _ _ _ h => h) (Or.inl ⟨by rfl, ?_⟩) hHeld ?_ ?_
  rotate_left
  · rintro w' ⟨hs0, hs1, hs2⟩
    go_simp
    with_reducible rfl
  rotate_left
  · simp only [Act.put, List.setIfInBounds_toArray, List.set_cons_zero, List.set_cons_succ]
    rfl
  refine rg_take (i := 8) (N := some 19) (v := ?_) (a' := ?_) #[true, true, true, true, true, true, true, true, true, false, false, false] rfl rfl (by kernel_rfl) (fun _ _ _ h => h) (Or.inl ⟨by rfl, ?_⟩) hHeld ?_ ?_
  rotate_left
  · rintro w' ⟨hs0, hs1, hs2⟩
    go_simp
    with_reducible rfl
  rotate_left
  · simp only [Act.put, List.setIfInBounds_toArray, List.set_cons_zero, List.set_cons_succ]
    rfl
  refine rg_call (i := 9) (N := some 20) (f := 81) (args := ?_) #[true, true, true, true, true, true, true, true, true, true, false, false] rfl rfl (by kernel_rfl) Try.func81 (by kernel_rfl) rfl (by rfl) rfl ?_ ?_
  rotate_left
  · (try simp only [List.map_toArray, List.map_cons, List.map_nil]); rfl
  refine (many_any (by omega)).mono ?_
  rintro e w3 ⟨rfl, rfl⟩
  refine ⟨_, rfl, ⟨sd.k0, sd.k1, e3⟩, fun hHeld => ?_⟩
  refine rg_norm (a' := ?_) ?_ ?_
  rotate_left
  · show Act.put _ (some 20) _ = _
    simp only [Act.put, List.setIfInBounds_toArray, List.set_cons_zero, List.set_cons_succ]
    rfl
  refine rg_take (i := 10) (N := some 21) (v := ?_) (a' := ?_) #[true, true, true, true, true, true, true, true, true, true, true, false] rfl rfl (by kernel_rfl) (fun _ _ _ h => h) (Or.inl ⟨by rfl, ?_⟩) hHeld ?_ ?_
  rotate_left
  · rintro w' ⟨hs0, hs1, hs2⟩
    go_simp
    with_reducible rfl
  rotate_left
  · simp only [Act.put, List.setIfInBounds_toArray, List.set_cons_zero, List.set_cons_succ]
    rfl
  refine rg_call (i := 11) (N := some 22) (f := 51) (args := ?_) #[true, true, true, true, true, true, true, true, true, true, true, true] rfl rfl (by kernel_rfl) Try.func51 (by kernel_rfl) rfl (by rfl) rfl ?_ ?_
  rotate_left
  · (try simp only [List.map_toArray, List.map_cons, List.map_nil]); rfl
  refine (need_any _ 5 sd.hc).mono ?_
  rintro e w3 ⟨rfl, hc3, hu3⟩
  have s3 := sd.call hc3 hu3
  have e4 := hu3.cell (by simpa using sd.ne.symm) e3
  refine ⟨_, rfl, ⟨s3.k0, s3.k1, e4⟩, fun hHeld => ?_⟩
  refine rg_norm (a' := ?_) ?_ ?_
  rotate_left
  · show Act.put _ (some 22) _ = _
    simp only [Act.put, List.setIfInBounds_toArray, List.set_cons_zero, List.set_cons_succ]
    rfl
  refine rg_done (by kernel_rfl) ?_
  clear sd hHeld s2 e3 hc3 hu3
  go_wp2_with fail
  have sd := s3.drew
  have e5 : w3.drew.cell? ⟨gm, 3, none⟩ = some (.int .u16 n) := e4
  refine rg_start (S := fun w' => w'.cell? ⟨bf, 0, none⟩ = some (.pointer (some ⟨g, 0, none⟩)) ∧ w'.cell? ⟨bf, 1, none⟩ = some (.pointer (some ⟨gm, 0, none⟩)) ∧ w'.cell? ⟨gm, 3, none⟩ = some (.int .u16 n)) (n := 16) #[false, false, false, false, false, false, false, false, false, false, false, false, false, false, false, false] (by kernel_rfl) rfl rfl ⟨sd.k0, sd.k1, e5⟩ (fun hHeld => ?_)
  refine rg_take (i := 0) (N := some 24) (v := ?_) (a' := ?_) #[true, false, false, false, false, false, false, false, false, false, false, false, false, false, false, false] rfl rfl (by kernel_rfl) (fun _ _ _ h => h) (Or.inl ⟨by rfl, ?_⟩) hHeld ?_ ?_
  rotate_left
  · rintro w' ⟨hs0, hs1, hs2⟩
    go_simp
    with_reducible rfl
  rotate_left
  · simp only [Act.put, List.setIfInBounds_toArray, List.set_cons_zero, List.set_cons_succ]
    rfl
  refine rg_take (i := 1) (N := some 25) (v := ?_) (a' := ?_) #[true, true, false, false, false, false, false, false, false, false, false, false, false, false, false, false] rfl rfl (by kernel_rfl) (fun _ _ _ h => h) (Or.inl ⟨by rfl, ?_⟩) hHeld ?_ ?_
  rotate_left
  · rintro w' ⟨hs0, hs1, hs2⟩
    go_simp
    with_reducible rfl
  rotate_left
  · simp only [Act.put, List.setIfInBounds_toArray, List.set_cons_zero, List.set_cons_succ]
    rfl
  refine rg_take (i := 2) (N := some 26) (v := ?_) (a' := ?_) #[true, true, true, false, false, false, false, false, false, false, false, false, false, false, false, false] rfl rfl (by kernel_rfl) (fun _ _ _ h => h) (Or.inl ⟨by rfl, ?_⟩) hHeld ?_ ?_
  rotate_left
  · rintro w' ⟨hs0, hs1, hs2⟩
    go_simp
    with_reducible rfl
  rotate_left
  · simp only [Act.put, List.setIfInBounds_toArray, List.set_cons_zero, List.set_cons_succ]
    rfl
  refine rg_take (i := 4) (N := some 28) (v := ?_) (a' := ?_) #[true, true, true, false, true, false, false, false, false, false, false, false, false, false, false, false] rfl rfl (by kernel_rfl) (fun _ _ _ h => h) (Or.inl ⟨by rfl, ?_⟩) hHeld ?_ ?_
  rotate_left
  · rintro w' ⟨hs0, hs1, hs2⟩
    go_simp
    with_reducible rfl
  rotate_left
  · simp only [Act.put, List.setIfInBounds_toArray, List.set_cons_zero, List.set_cons_succ]
    rfl
  refine rg_take (i := 5) (N := some 29) (v := ?_) (a' := ?_) #[true, true, true, false, true, true, false, false, false, false, false, false, false, false, false, false] rfl rfl (by kernel_rfl) (fun _ _ _ h => h) (Or.inl ⟨by rfl, ?_⟩) hHeld ?_ ?_
  rotate_left
  · rintro w' ⟨hs0, hs1, hs2⟩
    go_simp
    with_reducible rfl
  rotate_left
  · simp only [Act.put, List.setIfInBounds_toArray, List.set_cons_zero, List.set_cons_succ]
    rfl
  refine rg_take (i := 6) (N := some 30) (v := ?_) (a' := ?_) #[true, true, true, false, true, true, true, false, false, false, false, false, false, false, false, false] rfl rfl (by kernel_rfl) (fun _ _ _ h => h) (Or.inl ⟨by rfl, ?_⟩) hHeld ?_ ?_
  rotate_left
  · rintro w' ⟨hs0, hs1, hs2⟩
    go_simp
    with_reducible rfl
  rotate_left
  · simp only [Act.put, List.setIfInBounds_toArray, List.set_cons_zero, List.set_cons_succ]
    rfl
  refine rg_take (i := 7) (N := some 31) (v := ?_) (a' := ?_) #[true, true, true, false, true, true, true, true, false, false, false, false, false, false, false, false] rfl rfl (by kernel_rfl) (fun _ _ _ h => h) (Or.inl ⟨by rfl, ?_⟩) hHeld ?_ ?_
  rotate_left
  · rintro w' ⟨hs0, hs1, hs2⟩
    go_simp
    with_reducible rfl
  rotate_left
  · simp only [Act.put, List.setIfInBounds_toArray, List.set_cons_zero, List.set_cons_succ]
    rfl
  refine rg_take (i := 8) (N := some 32) (v := ?_) (a' := ?_) #[true, true, true, false, true, true, true, true, true, false, false, false, false, false, false, false] rfl rfl (by kernel_rfl) (fun _ _ _ h => h) (Or.inl ⟨by rfl, ?_⟩) hHeld ?_ ?_
  rotate_left
  · rintro w' ⟨hs0, hs1, hs2⟩
    go_simp
    with_reducible rfl
  rotate_left
  · simp only [Act.put, List.setIfInBounds_toArray, List.set_cons_zero, List.set_cons_succ]
    rfl
  refine rg_take (i := 9) (N := some 33) (v := ?_) (a' := ?_) #[true, true, true, false, true, true, true, true, true, true, false, false, false, false, false, false] rfl rfl (by kernel_rfl) (fun _ _ _ h => h) (Or.inl ⟨by rfl, ?_⟩) hHeld ?_ ?_
  rotate_left
  · rintro w' ⟨hs0, hs1, hs2⟩
    go_simp
    with_reducible rfl
  rotate_left
  · simp only [Act.put, List.setIfInBounds_toArray, List.set_cons_zero, List.set_cons_succ]
    rfl
  refine rg_call (i := 3) (N := some 27) (f := 31) (args := ?_) #[true, true, true, true, true, true, true, true, true, true, false, false, false, false, false, false] rfl rfl (by kernel_rfl) Try.func31 (by kernel_rfl) rfl (by rfl) rfl ?_ ?_
  rotate_left
  · (try simp only [List.map_toArray, List.map_cons, List.map_nil]); rfl
  refine (bytes_any sd.hc).mono ?_
  rintro e w4 ⟨vb, rfl, hr4, hc4, hu4⟩
  have s4 := sd.call hc4 hu4
  have e6 := hu4.cell (by simpa using sd.ne.symm) e5
  refine ⟨_, rfl, ⟨s4.k0, s4.k1, e6⟩, fun hHeld => ?_⟩
  refine rg_norm (a' := ?_) ?_ ?_
  rotate_left
  · show Act.put _ (some 27) _ = _
    simp only [Act.put, List.setIfInBounds_toArray, List.set_cons_zero, List.set_cons_succ]
    rfl
  refine rg_call (i := 10) (N := some 34) (f := 82) (args := ?_) #[true, true, true, true, true, true, true, true, true, true, true, false, false, false, false, false] rfl rfl (by kernel_rfl) Try.func82 (by kernel_rfl) rfl (by rfl) rfl ?_ ?_
  rotate_left
  · (try simp only [List.map_toArray, List.map_cons, List.map_nil]); rfl
  refine (unpack_any hr4 (Nat.le_trans (Cur.bytesR_le _ _) sd.hc.len) (by omega) (by omega)).mono ?_
  rintro e w5 ⟨vl, rfl, ho5, hu5⟩
  have s5 := s4.old hu5
  have e7 := hu5.cell (by simp) e6
  refine ⟨_, rfl, ⟨s5.k0, s5.k1, e7⟩, fun hHeld => ?_⟩
  refine rg_norm (a' := ?_) ?_ ?_
  rotate_left
  · show Act.put _ (some 34) _ = _
    simp only [Act.put, List.setIfInBounds_toArray, List.set_cons_zero, List.set_cons_succ]
    rfl
  refine rg_take (i := 11) (N := some 23) (v := ?_) (a' := ?_) #[true, true, true, true, true, true, true, true, true, true, true, true, false, false, false, false] rfl rfl (by kernel_rfl) (fun _ _ _ h => h) (Or.inl ⟨by rfl, ?_⟩) hHeld ?_ ?_
  rotate_left
  · rintro w' ⟨hs0, hs1, hs2⟩
    go_simp
    with_reducible rfl
  rotate_left
  · simp only [Act.put, List.setIfInBounds_toArray, List.set_cons_zero, List.set_cons_succ]
    rfl
  refine rg_take (i := 12) (N := some 35) (v := ?_) (a' := ?_) #[true, true, true, true, true, true, true, true, true, true, true, true, true, false, false, false] rfl rfl (by kernel_rfl) (fun _ _ _ h => h) (Or.inl ⟨by rfl, ?_⟩) hHeld ?_ ?_
  rotate_left
  · rintro w' ⟨hs0, hs1, hs2⟩
    go_simp
    with_reducible rfl
  rotate_left
  · simp only [Act.put, List.setIfInBounds_toArray, List.set_cons_zero, List.set_cons_succ]
    rfl
  refine rg_take (i := 13) (N := some 36) (v := ?_) (a' := ?_) #[true, true, true, true, true, true, true, true, true, true, true, true, true, true, false, false] rfl rfl (by kernel_rfl) (fun _ _ _ h => h) (Or.inl ⟨by rfl, ?_⟩) hHeld ?_ ?_
  rotate_left
  · rintro w' ⟨hs0, hs1, hs2⟩
    go_simp
    with_reducible rfl
  rotate_left
  · simp only [Act.put, List.setIfInBounds_toArray, List.set_cons_zero, List.set_cons_succ]
    rfl
  refine rg_take (i := 14) (N := some 3) (v := ?_) (a' := ?_) #[true, true, true, true, true, true, true, true, true, true, true, true, true, true, true, false] rfl rfl (by kernel_rfl) (fun _ _ _ h => h) (Or.inl ⟨by rfl, ?_⟩) hHeld ?_ ?_
  rotate_left
  · rintro w' ⟨hs0, hs1, hs2⟩
    go_simp
    with_reducible rfl
  rotate_left
  · simp only [Act.put, List.setIfInBounds_toArray, List.set_cons_zero, List.set_cons_succ]
    rfl
  refine rg_take (i := 15) (N := some 4) (v := ?_) (a' := ?_) #[true, true, true, true, true, true, true, true, true, true, true, true, true, true, true, true] rfl rfl (by kernel_rfl) (fun _ _ _ h => h) (Or.inl ⟨by rfl, ?_⟩) hHeld ?_ ?_
  rotate_left
  · rintro w' ⟨hs0, hs1, hs2⟩
    go_simp
    with_reducible rfl
  rotate_left
  · simp only [Act.put, List.setIfInBounds_toArray, List.set_cons_zero, List.set_cons_succ]
    rfl
  refine rg_done (by kernel_rfl) ?_
  have k2 := s5.k0
  have k3 := s5.k1
  have tok2_0 : True := trivial
  go_wp2_with (first | (have _t := tok2_0; go_at_call 51; refine (need_any _ 6 s5.hc).mono ?_; rintro e w6 ⟨rfl, hc6, hu6⟩; have s6 := s5.call hc6 hu6; have k4 := s6.k0; have k5 := s6.k1; have e8 := s6.hm.cell 13 (by decide); have f8 := s6.hm.froz 13; have ho6 := RdL.upd' ho5.rd hu6 (s5.hc.safe _ (by decide)); obtain ⟨A, cp, rfl, _, _⟩ := RdG.shape ho6; clear _t tok2_0))
  go_end0
  exact hpost _ _ s6 ho6
theorem zero_pair (w : World) : (zeroValue 92).run Try.prog w = .ok (.agg #[.nilFunc, .nilFunc]) w := by kernel_rfl
theorem form_zero : (Try.prog.info? 91).map (·.zero) = some (some (.agg #[.pointer none, .pointer none])) := by kernel_rfl
theorem build_pair (f1 f2 : Fn) (x1 x2 y1 y2 : Array Value) (w : World) : (Instr.build 92 #[(0, .func f1 x1 y1), (1, .func f2 x2 y2)]).run Try.prog w = .ok (.agg #[.func f1 x1 y1, .func f2 x2 y2]) w := by kernel_rfl
theorem build_form (x y : Option Addr) (w : World) : (Instr.build 91 #[(0, .pointer x), (1, .pointer y)]).run Try.prog w = .ok (.agg #[.pointer x, .pointer y]) w := by kernel_rfl
theorem form_size : (Try.prog.info? 91).map (·.size) = some 2 := by kernel_rfl
theorem pair_size : (Try.prog.info? 92).map (·.size) = some 2 := by kernel_rfl
theorem pair_zero : (Try.prog.info? 92).map (·.zero) = some (some (.agg #[.nilFunc, .nilFunc])) := by kernel_rfl
def finish (M : Msg) (c : Cur) : Msg × Int := if c.endC.e = 0 then (M, 0) else (Msg.zero, c.endC.e)
def PFormG (g gm : Nat) (c : Cur) (M : Msg) (w : World) (e : Ending) (w' : World) : Prop := e = .returned (.tuple #[]) ∧ CurAt w' g c ∧ (∃ cs, MsgB w' gm cs ∧ MsgRd true w' cs.toList M) ∧ Upd [g, gm] w w'
theorem finish_ok {M : Msg} {c : Cur} {w W : World} {cs : Array Value} (h0 : c.endC.e = 0) (h : MsgRd true W cs.toList M) (hu : Upd [] w W) : PMsg (finish M c) w (.returned (.tuple #[.agg cs, .int .i64 0])) W := by
  unfold finish
  rw [if_pos h0]
  exact ⟨cs, rfl, h, hu⟩
theorem finish_bad {M : Msg} {c : Cur} {w W : World} (h0 : ¬ c.endC.e = 0) (hu : Upd [] w W) : PMsg (finish M c) w (.returned (.tuple #[.agg msgZ, .int .i64 c.endC.e])) W := by
  unfold finish
  rw [if_neg h0]
  exact ⟨msgZ, rfl, MsgRd.zero .., hu⟩
theorem bad_res {x : Int} {w W : World} (hu : Upd [] w W) : PMsg (Msg.zero, x) w (.returned (.tuple #[.agg msgZ, .int .i64 x])) W := ⟨msgZ, rfl, MsgRd.zero .., hu⟩
theorem findNow_no {q : IntKind} {n : Int} : ∀ (l : List MapEntry) (i : Nat), (∀ e, e ∈ l → ∃ k, e.key = .int q k ∧ k ≠ n) → Instr.findNow (.int q) (.int q n) l i = some none
  | [], _, _ => rfl
  | e :: l, i, h => by
    obtain ⟨k, hk, hn⟩ := h e (by simp)
    have : (n == k) = false := by simpa using fun h => hn h.symm
    simp only [Instr.findNow, hk, Instr.sameNow, this, if_true]
    exact findNow_no l (i + 1) fun e he => h e (by simp [he])
end Go.Proofs.Ytbaeecmamacphaa
namespace Go.Proofs.Ytbaeecmamacphaa
open Go.RowKit
set_option maxRecDepth 100000 in
set_option maxHeartbeats 2000000 in
theorem coils_w0 {m : Bool} {v : Value} {b : List Int} {w : World} {c : Int} {C : Cur} {M : Msg} (hcl : c = 1 ∨ c = 2) (h : RdB m w v b) (hb : b.length ≤ 1048576)
    (hform : ∀ g gm W, CurAt W g ⟨b, false, 0⟩ → MsgB W gm (msgZ.setIfInBounds 0 (.int .u8 c)) → Calls Try.prog 53 #[.agg #[.pointer (some ⟨g, 0, none⟩), .pointer (some ⟨gm, 0, none⟩)]] W (PFormG g gm C M W)) :
    Calls Try.prog 37 #[.int .i64 0, .int .u8 c, v] w (PMsg (finish M C) w) := by
  have hb0 := build_msg0
  have hb1 := build_msg1 c
  have hbp := build_pair
  have hbm := build_form
  go_enter Try.func37, Try.ntmps37
  have tok1_0 : True := trivial
  have tok1_1 : True := trivial
  have tok1_2 : True := trivial
  have tok1_3 : True := trivial
  have tok1_4 : True := trivial
  have tok1_5 : True := trivial
  have tok1_6 : True := trivial
  have tok1_9 : True := trivial
  have tok1_10 : True := trivial
  have tok1_11 : True := trivial
  have tok1_12 : True := trivial
  have tok1_13 : True := trivial
  have tok1_14 : True := trivial
  go_wp2_with (first | (have _t := tok1_0; refine wp_allocw rfl 29 rfl (.agg msgZ) msgZ_info ?_; intro g6 w1 hg6 hB6 hu1; clear _t tok1_0) | (have _t := tok1_1; refine wp_allocw rfl 29 rfl (.agg msgZ) msgZ_info ?_; intro gm w2 hgm hBm hu2; clear _t tok1_1) | (have _t := tok1_2; refine wp_storew rfl 29 _ _ rfl gm rfl (msgZ.setIfInBounds 0 (.int .u8 c)) rfl msgZ 29 hBm msg_size rfl (by kernel_rfl) ?_; intro w3 hBm3 hu3; have U3 := hu2.fresh1 hu3 hgm; clear _t tok1_2) | (have _t := tok1_3; go_at_call 28; refine (new_any (RdB.old h (hu1.step U3)) (by omega)).mono ?_; rintro e w4 ⟨g, rfl, hg, hc, hu4⟩; clear _t tok1_3) | (have _t := tok1_4; refine wp_allocw rfl 91 rfl (.agg #[.pointer none, .pointer none]) form_zero ?_; intro bf w5 hbf hBf hu5; clear _t tok1_4) | (have _t := tok1_5; refine wp_storew rfl 91 _ _ rfl bf rfl #[.pointer (some ⟨g, 0, none⟩), .pointer (some ⟨gm, 0, none⟩)] rfl _ _ hBf form_size rfl (by kernel_rfl) ?_; intro w6 hF6 hu6; have V6 := hu5.fresh1 hu6 hbf; clear _t tok1_5) | (have _t := tok1_6; refine wp_makemap rfl 93 rfl ?_; intro r w7 hr hmap hM; have hF := hM.blk (by simp) hF6; clear _t tok1_6) | (refine wpList_load_row rfl 91 _ rfl bf rfl _ _ _ _ hF Try.underlying91 rfl form_size ?_) | (refine wp_insert rfl 93 _ _ _ rfl Try.underlying93 Try.underlying5 r _ _ rfl hmap _ rfl _ rfl (by rfl) hM hr ?_; clear hmap hM hF; intro w8 hmap hM; have hF := hM.blk (by simp) hF6) | (have _t := tok1_9; refine wp_lookup rfl 93 _ _ true rfl Try.underlying93 Try.underlying5 r _ _ rfl hmap _ rfl _ (zero_pair _) (some (if c = 1 then 0 else 1, _)) (by rcases hcl with rfl | rfl <;> rfl) _ rfl ?_; clear _t tok1_9) | (have _t := tok1_10; refine wp_allocw rfl 92 rfl _ pair_zero ?_; intro ba w9 hba hBa hu9; clear _t tok1_10) | (have _t := tok1_11; refine wp_storew rfl 92 _ _ rfl ba rfl _ rfl _ _ hBa pair_size rfl (by kernel_rfl) ?_; intro w10 hBa10 hu10; have X10 := hu9.fresh1 hu10 hba; have V10 := (V6.step hM).step X10; have hc10 := hc.old V10; have hm10 : MsgB w10 gm _ := MsgB.upd ⟨hBm3, rfl⟩ (hu4.step V10) (by simp); have hF10 := X10.blk (by simp) hF; have ka := (blk_cell hBa10 0).trans rfl; clear hF hF6 hmap; clear _t tok1_11) | (have _t := tok1_12; go_at_call 53; refine (hform g gm _ hc10 hm10).mono ?_; rintro e w11 ⟨rfl, hc11, ⟨cs, hm11, hM11⟩, hu11⟩; have hF11 := hu11.blk (by have := hc.lt; have := blk_lt hBm3; have := hu4.size; simp; omega) hF10; have kf := (blk_cell hF11 0).trans rfl; clear hbp hbm hb1 ka; clear _t tok1_12) | (have _t := tok1_13; go_at_call 58; refine (end_any hc11).mono ?_; rintro e w12 ⟨rfl, hc12, hu12⟩; have hF12 := hu12.blk (by have := hc.lt; simp; omega) hF11; have kg := (blk_cell hF12 0).trans rfl; clear kf; clear _t tok1_13) | (have _t := tok1_14; go_at_call 59; refine (err_any hc12).mono ?_; rintro e w13 ⟨rfl, rfl⟩; have U10 := (U3.step hu4).step V10; have hG := U3.size; have hU12 := (U10.fresh2 hu11 (by omega) hgm).fresh1 hu12 (by omega); have hB612 := hU12.blk (by simp) hB6; have hm12 := hm11.upd hu12 (by simpa using (hm11.ne hc11).symm); have hM12 := hM11.upd hu12 (hc11.safe _ (by decide)); clear kg; generalize hE : C.endC.e = E; have HE := Lib.hid hE; clear hE hform; clear _t tok1_14) | (refine wpList_load_row rfl 29 _ rfl gm rfl _ _ _ _ hm12.1 Try.underlying29 rfl (by rw [hm12.2]; exact msg_size) ?_) | (refine wp_storew rfl 29 _ _ rfl g6 rfl msgZ rfl msgZ 29 hB612 msg_size rfl (by kernel_rfl) ?_; intro w14 hB614 hu14) | (refine wp_storew rfl 29 _ _ rfl g6 rfl cs rfl msgZ 29 hB612 (by rw [hm12.2]; exact msg_size) hm12.2 hM12.one ?_; intro w14 hB614 hu14))
  · have hne : ¬ E = 0 := by simpa using (show (E != 0) = true by assumption)
    refine ret_cell_tmp rfl rfl g6 _ msgZ _ _ rfl hB614 Try.underlying29 rfl msg_size ?_
    obtain rfl := HE.out
    exact finish_bad hne ((hu1.step hU12).fresh1 hu14 hg6)
  · have h0 : E = 0 := by simpa using (show (E != 0) = false by assumption)
    refine ret_cell_tmp rfl rfl g6 _ cs _ _ rfl hB614 Try.underlying29 rfl (by rw [hm12.2]; exact msg_size) ?_
    exact finish_ok (HE.out.trans h0) (hM12.upd hu14 (Safe.one hB612 (by decide))) ((hu1.step hU12).fresh1 hu14 hg6)
set_option maxRecDepth 100000 in
set_option maxHeartbeats 2000000 in
theorem coils_w1 {m : Bool} {v : Value} {b : List Int} {w : World} {c : Int} {C : Cur} {M : Msg} (hcl : c = 1 ∨ c = 2) (h : RdB m w v b) (hb : b.length ≤ 1048576)
    (hform : ∀ g gm W, CurAt W g ⟨b, false, 0⟩ → MsgB W gm (msgZ.setIfInBounds 0 (.int .u8 c)) → Calls Try.prog 54 #[.agg #[.pointer (some ⟨g, 0, none⟩), .pointer (some ⟨gm, 0, none⟩)]] W (PFormG g gm C M W)) :
    Calls Try.prog 37 #[.int .i64 1, .int .u8 c, v] w (PMsg (finish M C) w) := by
  have hb0 := build_msg0
  have hb1 := build_msg1 c
  have hbp := build_pair
  have hbm := build_form
  go_enter Try.func37, Try.ntmps37
  have tok2_0 : True := trivial
  have tok2_1 : True := trivial
  have tok2_2 : True := trivial
  have tok2_3 : True := trivial
  have tok2_4 : True := trivial
  have tok2_5 : True := trivial
  have tok2_6 : True := trivial
  have tok2_9 : True := trivial
  have tok2_10 : True := trivial
  have tok2_11 : True := trivial
  have tok2_12 : True := trivial
  have tok2_13 : True := trivial
  have tok2_14 : True := trivial
  go_wp2_with (first | (have _t := tok2_0; refine wp_allocw rfl 29 rfl (.agg msgZ) msgZ_info ?_; intro g6 w1 hg6 hB6 hu1; clear _t tok2_0) | (have _t := tok2_1; refine wp_allocw rfl 29 rfl (.agg msgZ) msgZ_info ?_; intro gm w2 hgm hBm hu2; clear _t tok2_1) | (have _t := tok2_2; refine wp_storew rfl 29 _ _ rfl gm rfl (msgZ.setIfInBounds 0 (.int .u8 c)) rfl msgZ 29 hBm msg_size rfl (by kernel_rfl) ?_; intro w3 hBm3 hu3; have U3 := hu2.fresh1 hu3 hgm; clear _t tok2_2) | (have _t := tok2_3; go_at_call 28; refine (new_any (RdB.old h (hu1.step U3)) (by omega)).mono ?_; rintro e w4 ⟨g, rfl, hg, hc, hu4⟩; clear _t tok2_3) | (have _t := tok2_4; refine wp_allocw rfl 91 rfl (.agg #[.pointer none, .pointer none]) form_zero ?_; intro bf w5 hbf hBf hu5; clear _t tok2_4) | (have _t := tok2_5; refine wp_storew rfl 91 _ _ rfl bf rfl #[.pointer (some ⟨g, 0, none⟩), .pointer (some ⟨gm, 0, none⟩)] rfl _ _ hBf form_size rfl (by kernel_rfl) ?_; intro w6 hF6 hu6; have V6 := hu5.fresh1 hu6 hbf; clear _t tok2_5) | (have _t := tok2_6; refine wp_makemap rfl 93 rfl ?_; intro r w7 hr hmap hM; have hF := hM.blk (by simp) hF6; clear _t tok2_6) | (refine wpList_load_row rfl 91 _ rfl bf rfl _ _ _ _ hF Try.underlying91 rfl form_size ?_) | (refine wp_insert rfl 93 _ _ _ rfl Try.underlying93 Try.underlying5 r _ _ rfl hmap _ rfl _ rfl (by rfl) hM hr ?_; clear hmap hM hF; intro w8 hmap hM; have hF := hM.blk (by simp) hF6) | (have _t := tok2_9; refine wp_lookup rfl 93 _ _ true rfl Try.underlying93 Try.underlying5 r _ _ rfl hmap _ rfl _ (zero_pair _) (some (if c = 1 then 0 else 1, _)) (by rcases hcl with rfl | rfl <;> rfl) _ rfl ?_; clear _t tok2_9) | (have _t := tok2_10; refine wp_allocw rfl 92 rfl _ pair_zero ?_; intro ba w9 hba hBa hu9; clear _t tok2_10) | (have _t := tok2_11; refine wp_storew rfl 92 _ _ rfl ba rfl _ rfl _ _ hBa pair_size rfl (by kernel_rfl) ?_; intro w10 hBa10 hu10; have X10 := hu9.fresh1 hu10 hba; have V10 := (V6.step hM).step X10; have hc10 := hc.old V10; have hm10 : MsgB w10 gm _ := MsgB.upd ⟨hBm3, rfl⟩ (hu4.step V10) (by simp); have hF10 := X10.blk (by simp) hF; have ka := (blk_cell hBa10 1).trans rfl; clear hF hF6 hmap; clear _t tok2_11) | (have _t := tok2_12; go_at_call 54; refine (hform g gm _ hc10 hm10).mono ?_; rintro e w11 ⟨rfl, hc11, ⟨cs, hm11, hM11⟩, hu11⟩; have hF11 := hu11.blk (by have := hc.lt; have := blk_lt hBm3; have := hu4.size; simp; omega) hF10; have kf := (blk_cell hF11 0).trans rfl; clear hbp hbm hb1 ka; clear _t tok2_12) | (have _t := tok2_13; go_at_call 58; refine (end_any hc11).mono ?_; rintro e w12 ⟨rfl, hc12, hu12⟩; have hF12 := hu12.blk (by have := hc.lt; simp; omega) hF11; have kg := (blk_cell hF12 0).trans rfl; clear kf; clear _t tok2_13) | (have _t := tok2_14; go_at_call 59; refine (err_any hc12).mono ?_; rintro e w13 ⟨rfl, rfl⟩; have U10 := (U3.step hu4).step V10; have hG := U3.size; have hU12 := (U10.fresh2 hu11 (by omega) hgm).fresh1 hu12 (by omega); have hB612 := hU12.blk (by simp) hB6; have hm12 := hm11.upd hu12 (by simpa using (hm11.ne hc11).symm); have hM12 := hM11.upd hu12 (hc11.safe _ (by decide)); clear kg; generalize hE : C.endC.e = E; have HE := Lib.hid hE; clear hE hform; clear _t tok2_14) | (refine wpList_load_row rfl 29 _ rfl gm rfl _ _ _ _ hm12.1 Try.underlying29 rfl (by rw [hm12.2]; exact msg_size) ?_) | (refine wp_storew rfl 29 _ _ rfl g6 rfl msgZ rfl msgZ 29 hB612 msg_size rfl (by kernel_rfl) ?_; intro w14 hB614 hu14) | (refine wp_storew rfl 29 _ _ rfl g6 rfl cs rfl msgZ 29 hB612 (by rw [hm12.2]; exact msg_size) hm12.2 hM12.one ?_; intro w14 hB614 hu14))
  · have hne : ¬ E = 0 := by simpa using (show (E != 0) = true by assumption)
    refine ret_cell_tmp rfl rfl g6 _ msgZ _ _ rfl hB614 Try.underlying29 rfl msg_size ?_
    obtain rfl := HE.out
    exact finish_bad hne ((hu1.step hU12).fresh1 hu14 hg6)
  · have h0 : E = 0 := by simpa using (show (E != 0) = false by assumption)
    refine ret_cell_tmp rfl rfl g6 _ cs _ _ rfl hB614 Try.underlying29 rfl (by rw [hm12.2]; exact msg_size) ?_
    exact finish_ok (HE.out.trans h0) (hM12.upd hu14 (Safe.one hB612 (by decide))) ((hu1.step hU12).fresh1 hu14 hg6)
set_option maxRecDepth 100000 in
set_option maxHeartbeats 2000000 in
theorem coils_w2 {m : Bool} {v : Value} {b : List Int} {w : World} {c : Int} {C : Cur} {M : Msg} (hcl : c = 5 ∨ c = 5) (h : RdB m w v b) (hb : b.length ≤ 1048576)
    (hform : ∀ g gm W, CurAt W g ⟨b, false, 0⟩ → MsgB W gm (msgZ.setIfInBounds 0 (.int .u8 c)) → Calls Try.prog 55 #[.agg #[.pointer (some ⟨g, 0, none⟩), .pointer (some ⟨gm, 0, none⟩)]] W (PFormG g gm C M W)) :
    Calls Try.prog 37 #[.int .i64 0, .int .u8 c, v] w (PMsg (finish M C) w) := by
  have hb0 := build_msg0
  have hb1 := build_msg1 c
  have hbp := build_pair
  have hbm := build_form
  go_enter Try.func37, Try.ntmps37
  have tok3_0 : True := trivial
  have tok3_1 : True := trivial
  have tok3_2 : True := trivial
  have tok3_3 : True := trivial
  have tok3_4 : True := trivial
  have tok3_5 : True := trivial
  have tok3_6 : True := trivial
  have tok3_9 : True := trivial
  have tok3_10 : True := trivial
  have tok3_11 : True := trivial
  have tok3_12 : True := trivial
  have tok3_13 : True := trivial
  have tok3_14 : True := trivial
  go_wp2_with (first | (have _t := tok3_0; refine wp_allocw rfl 29 rfl (.agg msgZ) msgZ_info ?_; intro g6 w1 hg6 hB6 hu1; clear _t tok3_0) | (have _t := tok3_1; refine wp_allocw rfl 29 rfl (.agg msgZ) msgZ_info ?_; intro gm w2 hgm hBm hu2; clear _t tok3_1) | (have _t := tok3_2; refine wp_storew rfl 29 _ _ rfl gm rfl (msgZ.setIfInBounds 0 (.int .u8 c)) rfl msgZ 29 hBm msg_size rfl (by kernel_rfl) ?_; intro w3 hBm3 hu3; have U3 := hu2.fresh1 hu3 hgm; clear _t tok3_2) | (have _t := tok3_3; go_at_call 28; refine (new_any (RdB.old h (hu1.step U3)) (by omega)).mono ?_; rintro e w4 ⟨g, rfl, hg, hc, hu4⟩; clear _t tok3_3) | (have _t := tok3_4; refine wp_allocw rfl 91 rfl (.agg #[.pointer none, .pointer none]) form_zero ?_; intro bf w5 hbf hBf hu5; clear _t tok3_4) | (have _t := tok3_5; refine wp_storew rfl 91 _ _ rfl bf rfl #[.pointer (some ⟨g, 0, none⟩), .pointer (some ⟨gm, 0, none⟩)] rfl _ _ hBf form_size rfl (by kernel_rfl) ?_; intro w6 hF6 hu6; have V6 := hu5.fresh1 hu6 hbf; clear _t tok3_5) | (have _t := tok3_6; refine wp_makemap rfl 93 rfl ?_; intro r w7 hr hmap hM; have hF := hM.blk (by simp) hF6; clear _t tok3_6) | (refine wpList_load_row rfl 91 _ rfl bf rfl _ _ _ _ hF Try.underlying91 rfl form_size ?_) | (refine wp_insert rfl 93 _ _ _ rfl Try.underlying93 Try.underlying5 r _ _ rfl hmap _ rfl _ rfl (by rfl) hM hr ?_; clear hmap hM hF; intro w8 hmap hM; have hF := hM.blk (by simp) hF6) | (have _t := tok3_9; refine wp_lookup rfl 93 _ _ true rfl Try.underlying93 Try.underlying5 r _ _ rfl hmap _ rfl _ (zero_pair _) (some (2, _)) (by rcases hcl with rfl | rfl <;> rfl) _ rfl ?_; clear _t tok3_9) | (have _t := tok3_10; refine wp_allocw rfl 92 rfl _ pair_zero ?_; intro ba w9 hba hBa hu9; clear _t tok3_10) | (have _t := tok3_11; refine wp_storew rfl 92 _ _ rfl ba rfl _ rfl _ _ hBa pair_size rfl (by kernel_rfl) ?_; intro w10 hBa10 hu10; have X10 := hu9.fresh1 hu10 hba; have V10 := (V6.step hM).step X10; have hc10 := hc.old V10; have hm10 : MsgB w10 gm _ := MsgB.upd ⟨hBm3, rfl⟩ (hu4.step V10) (by simp); have hF10 := X10.blk (by simp) hF; have ka := (blk_cell hBa10 0).trans rfl; clear hF hF6 hmap; clear _t tok3_11) | (have _t := tok3_12; go_at_call 55; refine (hform g gm _ hc10 hm10).mono ?_; rintro e w11 ⟨rfl, hc11, ⟨cs, hm11, hM11⟩, hu11⟩; have hF11 := hu11.blk (by have := hc.lt; have := blk_lt hBm3; have := hu4.size; simp; omega) hF10; have kf := (blk_cell hF11 0).trans rfl; clear hbp hbm hb1 ka; clear _t tok3_12) | (have _t := tok3_13; go_at_call 58; refine (end_any hc11).mono ?_; rintro e w12 ⟨rfl, hc12, hu12⟩; have hF12 := hu12.blk (by have := hc.lt; simp; omega) hF11; have kg := (blk_cell hF12 0).trans rfl; clear kf; clear _t tok3_13) | (have _t := tok3_14; go_at_call 59; refine (err_any hc12).mono ?_; rintro e w13 ⟨rfl, rfl⟩; have U10 := (U3.step hu4).step V10; have hG := U3.size; have hU12 := (U10.fresh2 hu11 (by omega) hgm).fresh1 hu12 (by omega); have hB612 := hU12.blk (by simp) hB6; have hm12 := hm11.upd hu12 (by simpa using (hm11.ne hc11).symm); have hM12 := hM11.upd hu12 (hc11.safe _ (by decide)); clear kg; generalize hE : C.endC.e = E; have HE := Lib.hid hE; clear hE hform; clear _t tok3_14) | (refine wpList_load_row rfl 29 _ rfl gm rfl _ _ _ _ hm12.1 Try.underlying29 rfl (by rw [hm12.2]; exact msg_size) ?_) | (refine wp_storew rfl 29 _ _ rfl g6 rfl msgZ rfl msgZ 29 hB612 msg_size rfl (by kernel_rfl) ?_; intro w14 hB614 hu14) | (refine wp_storew rfl 29 _ _ rfl g6 rfl cs rfl msgZ 29 hB612 (by rw [hm12.2]; exact msg_size) hm12.2 hM12.one ?_; intro w14 hB614 hu14))
  · have hne : ¬ E = 0 := by simpa using (show (E != 0) = true by assumption)
    refine ret_cell_tmp rfl rfl g6 _ msgZ _ _ rfl hB614 Try.underlying29 rfl msg_size ?_
    obtain rfl := HE.out
    exact finish_bad hne ((hu1.step hU12).fresh1 hu14 hg6)
  · have h0 : E = 0 := by simpa using (show (E != 0) = false by assumption)
    refine ret_cell_tmp rfl rfl g6 _ cs _ _ rfl hB614 Try.underlying29 rfl (by rw [hm12.2]; exact msg_size) ?_
    exact finish_ok (HE.out.trans h0) (hM12.upd hu14 (Safe.one hB612 (by decide))) ((hu1.step hU12).fresh1 hu14 hg6)
set_option maxRecDepth 100000 in
set_option maxHeartbeats 2000000 in
theorem coils_w3 {m : Bool} {v : Value} {b : List Int} {w : World} {c : Int} {C : Cur} {M : Msg} (hcl : c = 5 ∨ c = 5) (h : RdB m w v b) (hb : b.length ≤ 1048576)
    (hform : ∀ g gm W, CurAt W g ⟨b, false, 0⟩ → MsgB W gm (msgZ.setIfInBounds 0 (.int .u8 c)) → Calls Try.prog 55 #[.agg #[.pointer (some ⟨g, 0, none⟩), .pointer (some ⟨gm, 0, none⟩)]] W (PFormG g gm C M W)) :
    Calls Try.prog 37 #[.int .i64 1, .int .u8 c, v] w (PMsg (finish M C) w) := by
  have hb0 := build_msg0
  have hb1 := build_msg1 c
  have hbp := build_pair
  have hbm := build_form
  go_enter Try.func37, Try.ntmps37
  have tok4_0 : True := trivial
  have tok4_1 : True := trivial
  have tok4_2 : True := trivial
  have tok4_3 : True := trivial
  have tok4_4 : True := trivial
  have tok4_5 : True := trivial
  have tok4_6 : True := trivial
  have tok4_9 : True := trivial
  have tok4_10 : True := trivial
  have tok4_11 : True := trivial
  have tok4_12 : True := trivial
  have tok4_13 : True := trivial
  have tok4_14 : True := trivial
  go_wp2_with (first | (have _t := tok4_0; refine wp_allocw rfl 29 rfl (.agg msgZ) msgZ_info ?_; intro g6 w1 hg6 hB6 hu1; clear _t tok4_0) | (have _t := tok4_1; refine wp_allocw rfl 29 rfl (.agg msgZ) msgZ_info ?_; intro gm w2 hgm hBm hu2; clear _t tok4_1) | (have _t := tok4_2; refine wp_storew rfl 29 _ _ rfl gm rfl (msgZ.setIfInBounds 0 (.int .u8 c)) rfl msgZ 29 hBm msg_size rfl (by kernel_rfl) ?_; intro w3 hBm3 hu3; have U3 := hu2.fresh1 hu3 hgm; clear _t tok4_2) | (have _t := tok4_3; go_at_call 28; refine (new_any (RdB.old h (hu1.step U3)) (by omega)).mono ?_; rintro e w4 ⟨g, rfl, hg, hc, hu4⟩; clear _t tok4_3) | (have _t := tok4_4; refine wp_allocw rfl 91 rfl (.agg #[.pointer none, .pointer none]) form_zero ?_; intro bf w5 hbf hBf hu5; clear _t tok4_4) | (have _t := tok4_5; refine wp_storew rfl 91 _ _ rfl bf rfl #[.pointer (some ⟨g, 0, none⟩), .pointer (some ⟨gm, 0, none⟩)] rfl _ _ hBf form_size rfl (by kernel_rfl) ?_; intro w6 hF6 hu6; have V6 := hu5.fresh1 hu6 hbf; clear _t tok4_5) | (have _t := tok4_6; refine wp_makemap rfl 93 rfl ?_; intro r w7 hr hmap hM; have hF := hM.blk (by simp) hF6; clear _t tok4_6) | (refine wpList_load_row rfl 91 _ rfl bf rfl _ _ _ _ hF Try.underlying91 rfl form_size ?_) | (refine wp_insert rfl 93 _ _ _ rfl Try.underlying93 Try.underlying5 r _ _ rfl hmap _ rfl _ rfl (by rfl) hM hr ?_; clear hmap hM hF; intro w8 hmap hM; have hF := hM.blk (by simp) hF6) | (have _t := tok4_9; refine wp_lookup rfl 93 _ _ true rfl Try.underlying93 Try.underlying5 r _ _ rfl hmap _ rfl _ (zero_pair _) (some (2, _)) (by rcases hcl with rfl | rfl <;> rfl) _ rfl ?_; clear _t tok4_9) | (have _t := tok4_10; refine wp_allocw rfl 92 rfl _ pair_zero ?_; intro ba w9 hba hBa hu9; clear _t tok4_10) | (have _t := tok4_11; refine wp_storew rfl 92 _ _ rfl ba rfl _ rfl _ _ hBa pair_size rfl (by kernel_rfl) ?_; intro w10 hBa10 hu10; have X10 := hu9.fresh1 hu10 hba; have V10 := (V6.step hM).step X10; have hc10 := hc.old V10; have hm10 : MsgB w10 gm _ := MsgB.upd ⟨hBm3, rfl⟩ (hu4.step V10) (by simp); have hF10 := X10.blk (by simp) hF; have ka := (blk_cell hBa10 1).trans rfl; clear hF hF6 hmap; clear _t tok4_11) | (have _t := tok4_12; go_at_call 55; refine (hform g gm _ hc10 hm10).mono ?_; rintro e w11 ⟨rfl, hc11, ⟨cs, hm11, hM11⟩, hu11⟩; have hF11 := hu11.blk (by have := hc.lt; have := blk_lt hBm3; have := hu4.size; simp; omega) hF10; have kf := (blk_cell hF11 0).trans rfl; clear hbp hbm hb1 ka; clear _t tok4_12) | (have _t := tok4_13; go_at_call 58; refine (end_any hc11).mono ?_; rintro e w12 ⟨rfl, hc12, hu12⟩; have hF12 := hu12.blk (by have := hc.lt; simp; omega) hF11; have kg := (blk_cell hF12 0).trans rfl; clear kf; clear _t tok4_13) | (have _t := tok4_14; go_at_call 59; refine (err_any hc12).mono ?_; rintro e w13 ⟨rfl, rfl⟩; have U10 := (U3.step hu4).step V10; have hG := U3.size; have hU12 := (U10.fresh2 hu11 (by omega) hgm).fresh1 hu12 (by omega); have hB612 := hU12.blk (by simp) hB6; have hm12 := hm11.upd hu12 (by simpa using (hm11.ne hc11).symm); have hM12 := hM11.upd hu12 (hc11.safe _ (by decide)); clear kg; generalize hE : C.endC.e = E; have HE := Lib.hid hE; clear hE hform; clear _t tok4_14) | (refine wpList_load_row rfl 29 _ rfl gm rfl _ _ _ _ hm12.1 Try.underlying29 rfl (by rw [hm12.2]; exact msg_size) ?_) | (refine wp_storew rfl 29 _ _ rfl g6 rfl msgZ rfl msgZ 29 hB612 msg_size rfl (by kernel_rfl) ?_; intro w14 hB614 hu14) | (refine wp_storew rfl 29 _ _ rfl g6 rfl cs rfl msgZ 29 hB612 (by rw [hm12.2]; exact msg_size) hm12.2 hM12.one ?_; intro w14 hB614 hu14))
  · have hne : ¬ E = 0 := by simpa using (show (E != 0) = true by assumption)
    refine ret_cell_tmp rfl rfl g6 _ msgZ _ _ rfl hB614 Try.underlying29 rfl msg_size ?_
    obtain rfl := HE.out
    exact finish_bad hne ((hu1.step hU12).fresh1 hu14 hg6)
  · have h0 : E = 0 := by simpa using (show (E != 0) = false by assumption)
    refine ret_cell_tmp rfl rfl g6 _ cs _ _ rfl hB614 Try.underlying29 rfl (by rw [hm12.2]; exact msg_size) ?_
    exact finish_ok (HE.out.trans h0) (hM12.upd hu14 (Safe.one hB612 (by decide))) ((hu1.step hU12).fresh1 hu14 hg6)
set_option maxRecDepth 100000 in
set_option maxHeartbeats 2000000 in
theorem coils_w4 {m : Bool} {v : Value} {b : List Int} {w : World} {c : Int} {C : Cur} {M : Msg} (hcl : c = 15 ∨ c = 15) (h : RdB m w v b) (hb : b.length ≤ 1048576)
    (hform : ∀ g gm W, CurAt W g ⟨b, false, 0⟩ → MsgB W gm (msgZ.setIfInBounds 0 (.int .u8 c)) → Calls Try.prog 56 #[.agg #[.pointer (some ⟨g, 0, none⟩), .pointer (some ⟨gm, 0, none⟩)]] W (PFormG g gm C M W)) :
    Calls Try.prog 37 #[.int .i64 0, .int .u8 c, v] w (PMsg (finish M C) w) := by
  have hb0 := build_msg0
  have hb1 := build_msg1 c
  have hbp := build_pair
  have hbm := build_form
  go_enter Try.func37, Try.ntmps37
  have tok5_0 : True := trivial
  have tok5_1 : True := trivial
  have tok5_2 : True := trivial
  have tok5_3 : True := trivial
  have tok5_4 : True := trivial
  have tok5_5 : True := trivial
  have tok5_6 : True := trivial
  have tok5_9 : True := trivial
  have tok5_10 : True := trivial
  have tok5_11 : True := trivial
  have tok5_12 : True := trivial
  have tok5_13 : True := trivial
  have tok5_14 : True := trivial
  go_wp2_with (first | (have _t := tok5_0; refine wp_allocw rfl 29 rfl (.agg msgZ) msgZ_info ?_; intro g6 w1 hg6 hB6 hu1; clear _t tok5_0) | (have _t := tok5_1; refine wp_allocw rfl 29 rfl (.agg msgZ) msgZ_info ?_; intro gm w2 hgm hBm hu2; clear _t tok5_1) | (have _t := tok5_2; refine wp_storew rfl 29 _ _ rfl gm rfl (msgZ.setIfInBounds 0 (.int .u8 c)) rfl msgZ 29 hBm msg_size rfl (by kernel_rfl) ?_; intro w3 hBm3 hu3; have U3 := hu2.fresh1 hu3 hgm; clear _t tok5_2) | (have _t := tok5_3; go_at_call 28; refine (new_any (RdB.old h (hu1.step U3)) (by omega)).mono ?_; rintro e w4 ⟨g, rfl, hg, hc, hu4⟩; clear _t tok5_3) | (have _t := tok5_4; refine wp_allocw rfl 91 rfl (.agg #[.pointer none, .pointer none]) form_zero ?_; intro bf w5 hbf hBf hu5; clear _t tok5_4) | (have _t := tok5_5; refine wp_storew rfl 91 _ _ rfl bf rfl #[.pointer (some ⟨g, 0, none⟩), .pointer (some ⟨gm, 0, none⟩)] rfl _ _ hBf form_size rfl (by kernel_rfl) ?_; intro w6 hF6 hu6; have V6 := hu5.fresh1 hu6 hbf; clear _t tok5_5) | (have _t := tok5_6; refine wp_makemap rfl 93 rfl ?_; intro r w7 hr hmap hM; have hF := hM.blk (by simp) hF6; clear _t tok5_6) | (refine wpList_load_row rfl 91 _ rfl bf rfl _ _ _ _ hF Try.underlying91 rfl form_size ?_) | (refine wp_insert rfl 93 _ _ _ rfl Try.underlying93 Try.underlying5 r _ _ rfl hmap _ rfl _ rfl (by rfl) hM hr ?_; clear hmap hM hF; intro w8 hmap hM; have hF := hM.blk (by simp) hF6) | (have _t := tok5_9; refine wp_lookup rfl 93 _ _ true rfl Try.underlying93 Try.underlying5 r _ _ rfl hmap _ rfl _ (zero_pair _) (some (3, _)) (by rcases hcl with rfl | rfl <;> rfl) _ rfl ?_; clear _t tok5_9) | (have _t := tok5_10; refine wp_allocw rfl 92 rfl _ pair_zero ?_; intro ba w9 hba hBa hu9; clear _t tok5_10) | (have _t := tok5_11; refine wp_storew rfl 92 _ _ rfl ba rfl _ rfl _ _ hBa pair_size rfl (by kernel_rfl) ?_; intro w10 hBa10 hu10; have X10 := hu9.fresh1 hu10 hba; have V10 := (V6.step hM).step X10; have hc10 := hc.old V10; have hm10 : MsgB w10 gm _ := MsgB.upd ⟨hBm3, rfl⟩ (hu4.step V10) (by simp); have hF10 := X10.blk (by simp) hF; have ka := (blk_cell hBa10 0).trans rfl; clear hF hF6 hmap; clear _t tok5_11) | (have _t := tok5_12; go_at_call 56; refine (hform g gm _ hc10 hm10).mono ?_; rintro e w11 ⟨rfl, hc11, ⟨cs, hm11, hM11⟩, hu11⟩; have hF11 := hu11.blk (by have := hc.lt; have := blk_lt hBm3; have := hu4.size; simp; omega) hF10; have kf := (blk_cell hF11 0).trans rfl; clear hbp hbm hb1 ka; clear _t tok5_12) | (have _t := tok5_13; go_at_call 58; refine (end_any hc11).mono ?_; rintro e w12 ⟨rfl, hc12, hu12⟩; have hF12 := hu12.blk (by have := hc.lt; simp; omega) hF11; have kg := (blk_cell hF12 0).trans rfl; clear kf; clear _t tok5_13) | (have _t := tok5_14; go_at_call 59; refine (err_any hc12).mono ?_; rintro e w13 ⟨rfl, rfl⟩; have U10 := (U3.step hu4).step V10; have hG := U3.size; have hU12 := (U10.fresh2 hu11 (by omega) hgm).fresh1 hu12 (by omega); have hB612 := hU12.blk (by simp) hB6; have hm12 := hm11.upd hu12 (by simpa using (hm11.ne hc11).symm); have hM12 := hM11.upd hu12 (hc11.safe _ (by decide)); clear kg; generalize hE : C.endC.e = E; have HE := Lib.hid hE; clear hE hform; clear _t tok5_14) | (refine wpList_load_row rfl 29 _ rfl gm rfl _ _ _ _ hm12.1 Try.underlying29 rfl (by rw [hm12.2]; exact msg_size) ?_) | (refine wp_storew rfl 29 _ _ rfl g6 rfl msgZ rfl msgZ 29 hB612 msg_size rfl (by kernel_rfl) ?_; intro w14 hB614 hu14) | (refine wp_storew rfl 29 _ _ rfl g6 rfl cs rfl msgZ 29 hB612 (by rw [hm12.2]; exact msg_size) hm12.2 hM12.one ?_; intro w14 hB614 hu14))
  · have hne : ¬ E = 0 := by simpa using (show (E != 0) = true by assumption)
    refine ret_cell_tmp rfl rfl g6 _ msgZ _ _ rfl hB614 Try.underlying29 rfl msg_size ?_
    obtain rfl := HE.out
    exact finish_bad hne ((hu1.step hU12).fresh1 hu14 hg6)
  · have h0 : E = 0 := by simpa using (show (E != 0) = false by assumption)
    refine ret_cell_tmp rfl rfl g6 _ cs _ _ rfl hB614 Try.underlying29 rfl (by rw [hm12.2]; exact msg_size) ?_
    exact finish_ok (HE.out.trans h0) (hM12.upd hu14 (Safe.one hB612 (by decide))) ((hu1.step hU12).fresh1 hu14 hg6)
set_option maxRecDepth 100000 in
set_option maxHeartbeats 2000000 in
theorem coils_w5 {m : Bool} {v : Value} {b : List Int} {w : World} {c : Int} {C : Cur} {M : Msg} (hcl : c = 15 ∨ c = 15) (h : RdB m w v b) (hb : b.length ≤ 1048576)
    (hform : ∀ g gm W, CurAt W g ⟨b, false, 0⟩ → MsgB W gm (msgZ.setIfInBounds 0 (.int .u8 c)) → Calls Try.prog 57 #[.agg #[.pointer (some ⟨g, 0, none⟩), .pointer (some ⟨gm, 0, none⟩)]] W (PFormG g gm C M W)) :
    Calls Try.prog 37 #[.int .i64 1, .int .u8 c, v] w (PMsg (finish M C) w) := by
  have hb0 := build_msg0
  have hb1 := build_msg1 c
  have hbp := build_pair
  have hbm := build_form
  go_enter Try.func37, Try.ntmps37
  have tok6_0 : True := trivial
  have tok6_1 : True := trivial
  have tok6_2 : True := trivial
  have tok6_3 : True := trivial
  have tok6_4 : True := trivial
  have tok6_5 : True := trivial
  have tok6_6 : True := trivial
  have tok6_9 : True := trivial
  have tok6_10 : True := trivial
  have tok6_11 : True := trivial
  have tok6_12 : True := trivial
  have tok6_13 : True := trivial
  have tok6_14 : True := trivial
  go_wp2_with (first | (have _t := tok6_0; refine wp_allocw rfl 29 rfl (.agg msgZ) msgZ_info ?_; intro g6 w1 hg6 hB6 hu1; clear _t tok6_0) | (have _t := tok6_1; refine wp_allocw rfl 29 rfl (.agg msgZ) msgZ_info ?_; intro gm w2 hgm hBm hu2; clear _t tok6_1) | (have _t := tok6_2; refine wp_storew rfl 29 _ _ rfl gm rfl (msgZ.setIfInBounds 0 (.int .u8 c)) rfl msgZ 29 hBm msg_size rfl (by kernel_rfl) ?_; intro w3 hBm3 hu3; have U3 := hu2.fresh1 hu3 hgm; clear _t tok6_2) | (have _t := tok6_3; go_at_call 28; refine (new_any (RdB.old h (hu1.step U3)) (by omega)).mono ?_; rintro e w4 ⟨g, rfl, hg, hc, hu4⟩; clear _t tok6_3) | (have _t := tok6_4; refine wp_allocw rfl 91 rfl (.agg #[.pointer none, .pointer none]) form_zero ?_; intro bf w5 hbf hBf hu5; clear _t tok6_4) | (have _t := tok6_5; refine wp_storew rfl 91 _ _ rfl bf rfl #[.pointer (some ⟨g, 0, none⟩), .pointer (some ⟨gm, 0, none⟩)] rfl _ _ hBf form_size rfl (by kernel_rfl) ?_; intro w6 hF6 hu6; have V6 := hu5.fresh1 hu6 hbf; clear _t tok6_5) | (have _t := tok6_6; refine wp_makemap rfl 93 rfl ?_; intro r w7 hr hmap hM; have hF := hM.blk (by simp) hF6; clear _t tok6_6) | (refine wpList_load_row rfl 91 _ rfl bf rfl _ _ _ _ hF Try.underlying91 rfl form_size ?_) | (refine wp_insert rfl 93 _ _ _ rfl Try.underlying93 Try.underlying5 r _ _ rfl hmap _ rfl _ rfl (by rfl) hM hr ?_; clear hmap hM hF; intro w8 hmap hM; have hF := hM.blk (by simp) hF6) | (have _t := tok6_9; refine wp_lookup rfl 93 _ _ true rfl Try.underlying93 Try.underlying5 r _ _ rfl hmap _ rfl _ (zero_pair _) (some (3, _)) (by rcases hcl with rfl | rfl <;> rfl) _ rfl ?_; clear _t tok6_9) | (have _t := tok6_10; refine wp_allocw rfl 92 rfl _ pair_zero ?_; intro ba w9 hba hBa hu9; clear _t tok6_10) | (have _t := tok6_11; refine wp_storew rfl 92 _ _ rfl ba rfl _ rfl _ _ hBa pair_size rfl (by kernel_rfl) ?_; intro w10 hBa10 hu10; have X10 := hu9.fresh1 hu10 hba; have V10 := (V6.step hM).step X10; have hc10 := hc.old V10; have hm10 : MsgB w10 gm _ := MsgB.upd ⟨hBm3, rfl⟩ (hu4.step V10) (by simp); have hF10 := X10.blk (by simp) hF; have ka := (blk_cell hBa10 1).trans rfl; clear hF hF6 hmap; clear _t tok6_11) | (have _t := tok6_12; go_at_call 57; refine (hform g gm _ hc10 hm10).mono ?_; rintro e w11 ⟨rfl, hc11, ⟨cs, hm11, hM11⟩, hu11⟩; have hF11 := hu11.blk (by have := hc.lt; have := blk_lt hBm3; have := hu4.size; simp; omega) hF10; have kf := (blk_cell hF11 0).trans rfl; clear hbp hbm hb1 ka; clear _t tok6_12) | (have _t := tok6_13; go_at_call 58; refine (end_any hc11).mono ?_; rintro e w12 ⟨rfl, hc12, hu12⟩; have hF12 := hu12.blk (by have := hc.lt; simp; omega) hF11; have kg := (blk_cell hF12 0).trans rfl; clear kf; clear _t tok6_13) | (have _t := tok6_14; go_at_call 59; refine (err_any hc12).mono ?_; rintro e w13 ⟨rfl, rfl⟩; have U10 := (U3.step hu4).step V10; have hG := U3.size; have hU12 := (U10.fresh2 hu11 (by omega) hgm).fresh1 hu12 (by omega); have hB612 := hU12.blk (by simp) hB6; have hm12 := hm11.upd hu12 (by simpa using (hm11.ne hc11).symm); have hM12 := hM11.upd hu12 (hc11.safe _ (by decide)); clear kg; generalize hE : C.endC.e = E; have HE := Lib.hid hE; clear hE hform; clear _t tok6_14) | (refine wpList_load_row rfl 29 _ rfl gm rfl _ _ _ _ hm12.1 Try.underlying29 rfl (by rw [hm12.2]; exact msg_size) ?_) | (refine wp_storew rfl 29 _ _ rfl g6 rfl msgZ rfl msgZ 29 hB612 msg_size rfl (by kernel_rfl) ?_; intro w14 hB614 hu14) | (refine wp_storew rfl 29 _ _ rfl g6 rfl cs rfl msgZ 29 hB612 (by rw [hm12.2]; exact msg_size) hm12.2 hM12.one ?_; intro w14 hB614 hu14))
  · have hne : ¬ E = 0 := by simpa using (show (E != 0) = true by assumption)
    refine ret_cell_tmp rfl rfl g6 _ msgZ _ _ rfl hB614 Try.underlying29 rfl msg_size ?_
    obtain rfl := HE.out
    exact finish_bad hne ((hu1.step hU12).fresh1 hu14 hg6)
  · have h0 : E = 0 := by simpa using (show (E != 0) = false by assumption)
    refine ret_cell_tmp rfl rfl g6 _ cs _ _ rfl hB614 Try.underlying29 rfl (by rw [hm12.2]; exact msg_size) ?_
    exact finish_ok (HE.out.trans h0) (hM12.upd hu14 (Safe.one hB612 (by decide))) ((hu1.step hU12).fresh1 hu14 hg6)
end Go.Proofs.Ytbaeecmamacphaa
namespace Go.Proofs.Ytbaeecmamacphaa
open Go.RowKit
theorem msgRd_of {m : Bool} {w : World} {cs : Array Value} {M : Msg} (h : cs.toList = msgCells M nilS nilS nilS nilS nilS) (h1 : M.words = []) (h2 : M.bits = []) (h3 : M.data = []) (h4 : M.recs = []) (h5 : M.objects = []) (hR : MsgRng M) : MsgRd m w cs.toList M := by
  refine ⟨nilS, nilS, nilS, nilS, nilS, h, ?_, ?_, ?_, ?_, ?_, hR⟩
  · rw [h1]; exact RdG.nil ..
  · rw [h2]; exact RdG.nil ..
  · rw [h3]; exact RdG.nil ..
  · rw [h4]; exact RdG.nil ..
  · rw [h5]; exact RdG.nil ..
def coilsForm (dir c : Int) (C : Cur) : Option (Cur × Msg) :=
  if c = 1 ∨ c = 2 then
    if dir = 0 then some (spanC C 2000, { Msg.zero with code := c, addr := C.wordV, count := (C.wordsC 1).wordV })
    else some ((toldC2 C).bytesC C.byteV, { Msg.zero with code := c, data := (toldC2 C).bytesR C.byteV })
  else if c = 5 then some (setsC C, { Msg.zero with code := c, addr := C.wordV, value := (C.wordsC 1).wordV })
  else if c = 15 then
    if dir = 0 then some (smC C, { Msg.zero with code := c, addr := C.wordV, count := smN C, bits := (smU C).getD [] })
    else some (spanC C 1968, { Msg.zero with code := c, addr := C.wordV, count := (C.wordsC 1).wordV })
  else none
def parseOf (form : Int → Int → Cur → Option (Cur × Msg)) (dir c : Int) (b : List Int) : Msg × Int :=
  if dir = 0 ∨ dir = 1 then
    match form dir c ⟨b, false, 0⟩ with
    | none => (Msg.zero, 4)
    | some r => finish r.2 r.1
  else (Msg.zero, 1)
theorem rng_with {c : Int} (hc : B8 c) : MsgRng { Msg.zero with code := c } := ⟨hc, MsgRng.zero.fail, MsgRng.zero.addr, MsgRng.zero.count, MsgRng.zero.value, MsgRng.zero.and_, MsgRng.zero.or_, MsgRng.zero.addr2, MsgRng.zero.sub, MsgRng.zero.status, MsgRng.zero.events, MsgRng.zero.messages, MsgRng.zero.mei, MsgRng.zero.kind, MsgRng.zero.level, MsgRng.zero.more, MsgRng.zero.next⟩
theorem g_span {w : World} {g gm : Nat} {C C' : Cur} {c : Int} {f : FuncId} {args : Array Value} (hc : B8 c) (hC : CurAt w g C)
    (h : Calls Try.prog f args w (PForm g gm C' (((msgZ.setIfInBounds 0 (.int .u8 c)).setIfInBounds 2 (.int .u16 C.wordV)).setIfInBounds 3 (.int .u16 (C.wordsC 1).wordV)) w)) :
    Calls Try.prog f args w (PFormG g gm C' { Msg.zero with code := c, addr := C.wordV, count := (C.wordsC 1).wordV } w) := by
  refine h.mono ?_
  rintro e w' ⟨rfl, h1, h2, h3⟩
  exact ⟨rfl, h1, ⟨_, h2, msgRd_of rfl rfl rfl rfl rfl rfl { rng_with hc with addr := hC.wordV, count := wordV_rng (wordsC_rng hC.rng 1) }⟩, h3⟩
set_option maxRecDepth 100000 in
set_option maxHeartbeats 4000000 in
theorem coils_parse {m : Bool} {v : Value} {b : List Int} {w : World} {dir c : Int} (hc : B8 c) (h : RdB m w v b) (hb : b.length ≤ 1048576) :
    Calls Try.prog 37 #[.int .i64 dir, .int .u8 c, v] w (PMsg (parseOf coilsForm dir c b) w) := by
  unfold parseOf
  by_cases hd : dir = 0 ∨ dir = 1
  case neg =>
    rw [if_neg hd]
    have e0 : (dir != 0) = true := by simp; omega
    have e1 : (dir != 1) = true := by simp; omega
    have hb0 := build_msg0
    go_enter Try.func37, Try.ntmps37
    have tok1_0 : True := trivial
    have tok1_1 : True := trivial
    go_wp2_with (first | (have _t := tok1_0; refine wp_allocw rfl 29 rfl (.agg msgZ) msgZ_info ?_; intro g6 w1 hg6 hB6 hu1; clear _t tok1_0) | (have _t := tok1_1; refine wp_storew rfl 29 _ _ rfl g6 rfl msgZ rfl msgZ 29 hB6 msg_size rfl (by kernel_rfl) ?_; intro w14 hB614 hu14; clear _t tok1_1))
    refine ret_cell_tmp rfl rfl g6 _ msgZ _ _ rfl hB614 Try.underlying29 rfl msg_size ?_
    exact bad_res (hu1.fresh1 hu14 hg6)
  rw [if_pos hd]
  unfold coilsForm
  by_cases h1 : c = 1 ∨ c = 2
  · simp only [if_pos h1]
    rcases hd with rfl | rfl
    · rw [if_pos rfl]
      exact coils_w0 h1 h hb fun g gm W hC hm => g_span hc hC (asksRead_any hC hm)
    · rw [if_neg (by decide)]
      refine coils_w1 h1 h hb fun g gm W hC hm => (told_any hC hm).mono ?_
      rintro e w' ⟨v, rfl, h1, h2, h3, h4⟩
      exact ⟨rfl, h1, ⟨_, h2, nilS, nilS, v, nilS, nilS, rfl, RdG.nil .., RdG.nil .., h3, RdG.nil .., RdG.nil .., { rng_with hc with }⟩, h4⟩
  simp only [if_neg h1]
  by_cases h5 : c = 5
  · simp only [if_pos h5]
    have hf : ∀ g gm W, CurAt W g ⟨b, false, 0⟩ → MsgB W gm (msgZ.setIfInBounds 0 (.int .u8 c)) → Calls Try.prog 55 #[.agg #[.pointer (some ⟨g, 0, none⟩), .pointer (some ⟨gm, 0, none⟩)]] W
        (PFormG g gm (setsC ⟨b, false, 0⟩) { Msg.zero with code := c, addr := Cur.wordV ⟨b, false, 0⟩, value := (Cur.wordsC ⟨b, false, 0⟩ 1).wordV } W) := by
      intro g gm W hC hm
      refine (sets_any hC hm).mono ?_
      rintro e w' ⟨rfl, h1, h2, h3⟩
      exact ⟨rfl, h1, ⟨_, h2, msgRd_of rfl rfl rfl rfl rfl rfl { rng_with hc with addr := hC.wordV, value := wordV_rng (wordsC_rng hC.rng 1) }⟩, h3⟩
    rcases hd with rfl | rfl
    · exact coils_w2 (.inl h5) h hb hf
    · exact coils_w3 (.inl h5) h hb hf
  simp only [if_neg h5]
  by_cases h15 : c = 15
  · simp only [if_pos h15]
    rcases hd with rfl | rfl
    · rw [if_pos rfl]
      refine coils_w4 (.inl h15) h hb fun g gm W hC hm => (setsMany_any hC hm).mono ?_
      rintro e w' ⟨v, rfl, h1, h2, h3, h4⟩
      exact ⟨rfl, h1, ⟨_, h2, nilS, v, nilS, nilS, nilS, rfl, RdG.nil .., h3, RdG.nil .., RdG.nil .., RdG.nil .., { rng_with hc with addr := hC.wordV, count := wordV_rng (wordsC_rng hC.rng 1) }⟩, h4⟩
    · rw [if_neg (by decide)]
      exact coils_w5 (.inl h15) h hb fun g gm W hC hm => g_span hc hC (done_any hC hm)
  simp only [if_neg h15]
  have hb0 := build_msg0
  have hb1 := build_msg1 c
  have hbp := build_pair
  have hbm := build_form
  have hk1 : c ≠ 1 := fun h => h1 (.inl h)
  have hk2 : c ≠ 2 := fun h => h1 (.inr h)
  have hno : ∀ e1 e2 e3 e4, Instr.findNow (.int .u8) (.int .u8 c) [⟨.int .u8 1, e1, 0⟩, ⟨.int .u8 2, e2, 1⟩, ⟨.int .u8 5, e3, 2⟩, ⟨.int .u8 15, e4, 3⟩] 0 = some none := by
    intro e1 e2 e3 e4
    refine findNow_no _ _ fun e he => ?_
    simp at he
    rcases he with rfl | rfl | rfl | rfl
    · exact ⟨_, rfl, fun h => hk1 h.symm⟩
    · exact ⟨_, rfl, fun h => hk2 h.symm⟩
    · exact ⟨_, rfl, fun h => h5 h.symm⟩
    · exact ⟨_, rfl, fun h => h15 h.symm⟩
  have hno := Lib.hid hno
  clear h1 h5 h15 hk1 hk2 hc
  rcases hd with rfl | rfl
  all_goals
    go_enter Try.func37, Try.ntmps37
    have tok2_0 : True := trivial
    have tok2_1 : True := trivial
    have tok2_2 : True := trivial
    have tok2_3 : True := trivial
    have tok2_4 : True := trivial
    have tok2_5 : True := trivial
    have tok2_6 : True := trivial
    have tok2_9 : True := trivial
    have tok2_10 : True := trivial
    have tok2_11 : True := trivial
    have tok2_12 : True := trivial
    go_wp2_with (first | (have _t := tok2_0; refine wp_allocw rfl 29 rfl (.agg msgZ) msgZ_info ?_; intro g6 w1 hg6 hB6 hu1; clear _t tok2_0) | (have _t := tok2_1; refine wp_allocw rfl 29 rfl (.agg msgZ) msgZ_info ?_; intro gm w2 hgm hBm hu2; clear _t tok2_1) | (have _t := tok2_2; refine wp_storew rfl 29 _ _ rfl gm rfl (msgZ.setIfInBounds 0 (.int .u8 c)) rfl msgZ 29 hBm msg_size rfl (by kernel_rfl) ?_; intro w3 hBm3 hu3; have U3 := hu2.fresh1 hu3 hgm; clear _t tok2_2) | (have _t := tok2_3; go_at_call 28; refine (new_any (RdB.old h (hu1.step U3)) (by omega)).mono ?_; rintro e w4 ⟨g, rfl, hg, hc, hu4⟩; clear _t tok2_3) | (have _t := tok2_4; refine wp_allocw rfl 91 rfl (.agg #[.pointer none, .pointer none]) form_zero ?_; intro bf w5 hbf hBf hu5; clear _t tok2_4) | (have _t := tok2_5; refine wp_storew rfl 91 _ _ rfl bf rfl #[.pointer (some ⟨g, 0, none⟩), .pointer (some ⟨gm, 0, none⟩)] rfl _ _ hBf form_size rfl (by kernel_rfl) ?_; intro w6 hF6 hu6; have V6 := hu5.fresh1 hu6 hbf; clear _t tok2_5) | (have _t := tok2_6; refine wp_makemap rfl 93 rfl ?_; intro r w7 hr hmap hM; have hF := hM.blk (by simp) hF6; clear _t tok2_6) | (refine wpList_load_row rfl 91 _ rfl bf rfl _ _ _ _ hF Try.underlying91 rfl form_size ?_) | (refine wp_insert rfl 93 _ _ _ rfl Try.underlying93 Try.underlying5 r _ _ rfl hmap _ rfl _ rfl (by rfl) hM hr ?_; clear hmap hM hF; intro w8 hmap hM; have hF := hM.blk (by simp) hF6) | (have _t := tok2_9; refine wp_lookup rfl 93 _ _ true rfl Try.underlying93 Try.underlying5 r _ _ rfl hmap _ rfl _ (zero_pair _) none (hno.out _ _ _ _) _ rfl ?_; clear _t tok2_9) | (have _t := tok2_10; refine wp_allocw rfl 92 rfl _ pair_zero ?_; intro ba w9 hba hBa hu9; clear _t tok2_10) | (have _t := tok2_11; refine wp_storew rfl 92 _ _ rfl ba rfl _ rfl _ _ hBa pair_size rfl (by kernel_rfl) ?_; intro w10 hBa10 hu10; have X10 := hu9.fresh1 hu10 hba; have U10 := ((U3.step hu4).step (V6.step hM)).step X10; have hB610 := U10.blk (by simp) hB6; clear _t tok2_11) | (have _t := tok2_12; refine wp_storew rfl 29 _ _ rfl g6 rfl msgZ rfl msgZ 29 hB610 msg_size rfl (by kernel_rfl) ?_; intro w14 hB614 hu14; clear _t tok2_12))
    refine ret_cell_tmp rfl rfl g6 _ msgZ _ _ rfl hB614 Try.underlying29 rfl msg_size ?_
    exact bad_res ((hu1.step U10).fresh1 hu14 hg6)
end Go.Proofs.Ytbaeecmamacphaa
namespace Go.Proofs.Ytbaeecmamacphaa
open Go.RowKit
def cfam (x : Int) : Nat := if x = 1 ∨ x = 2 ∨ x = 5 ∨ x = 15 then 1 else if x = 3 ∨ x = 4 ∨ x = 6 ∨ x = 16 ∨ x = 22 ∨ x = 23 ∨ x = 24 then 2 else if x = 7 ∨ x = 8 ∨ x = 11 ∨ x = 12 ∨ x = 17 then 3 else if x = 20 ∨ x = 21 then 4 else if x = 43 then 5 else 0
def codecV : Nat → Value
  | 1 => .tuple #[.agg #[.func (.func 37) #[] #[], .func (.func 38) #[] #[]], .bool true]
  | 2 => .tuple #[.agg #[.func (.func 39) #[] #[], .func (.func 40) #[] #[]], .bool true]
  | 3 => .tuple #[.agg #[.func (.func 41) #[] #[], .func (.func 42) #[] #[]], .bool true]
  | 4 => .tuple #[.agg #[.func (.func 43) #[] #[], .func (.func 44) #[] #[]], .bool true]
  | 5 => .tuple #[.agg #[.func (.func 45) #[] #[], .func (.func 46) #[] #[]], .bool true]
  | _ => .tuple #[.agg #[.nilFunc, .nilFunc], .bool false]
theorem cfam_dich (x : Int) : ((x = 1 ∨ x = 2 ∨ x = 5 ∨ x = 15) ∧ cfam x = 1) ∨ ((x = 3 ∨ x = 4 ∨ x = 6 ∨ x = 16 ∨ x = 22 ∨ x = 23 ∨ x = 24) ∧ cfam x = 2) ∨ ((x = 7 ∨ x = 8 ∨ x = 11 ∨ x = 12 ∨ x = 17) ∧ cfam x = 3) ∨ ((x = 20 ∨ x = 21) ∧ cfam x = 4) ∨ ((x = 43) ∧ cfam x = 5) ∨ ((¬ x = 1 ∧ ¬ x = 2 ∧ ¬ x = 5 ∧ ¬ x = 15 ∧ ¬ x = 3 ∧ ¬ x = 4 ∧ ¬ x = 6 ∧ ¬ x = 16 ∧ ¬ x = 22 ∧ ¬ x = 23 ∧ ¬ x = 24 ∧ ¬ x = 7 ∧ ¬ x = 8 ∧ ¬ x = 11 ∧ ¬ x = 12 ∧ ¬ x = 17 ∧ ¬ x = 20 ∧ ¬ x = 21 ∧ ¬ x = 43) ∧ cfam x = 0) := by
  unfold cfam
  repeat
    split
    · simp_all
  simp_all
set_option maxRecDepth 100000 in
set_option maxHeartbeats 4000000 in
theorem of_any {x : Int} {w : World} : Calls Try.prog 24 #[.int .u8 x] w (PVal (codecV (cfam x)) w) := by
 refine en 44 Try.func24 rfl <| sg <| L0 <| Oal #[.nilFunc, .nilFunc] fun g10 w11 hg12 B13 hu14 => Pl 1 <| ng <| Pl 2 <| L0 <| Oal #[.nilFunc, .nilFunc] fun g15 w16 hg17 B18 hu19 => L0 <| Oal #[.nilFunc, .nilFunc] fun g20 w21 hg22 B23 hu24 => ?_
 have r25 := ub hu24 B18
 refine L0 <| Osw r25 #[.func (.func 37) #[] #[], .func (.func 38) #[] #[]] fun w26 B27 hu28 => ?_
 have ne29 := nb (blk_lt B18) lr hg22
 have r30 := ub1 hu28 (Ne.symm ne29) B23
 refine L0 <| Osw r30 #[.func (.func 39) #[] #[], .func (.func 40) #[] #[]] fun w31 B32 hu33 => ng <| Pl 2 <| L0 <| Oal #[.nilFunc, .nilFunc] fun g34 w35 hg36 B37 hu38 => L0 <| Oal #[.nilFunc, .nilFunc] fun g39 w40 hg41 B42 hu43 => ?_
 have r44 := ub hu43 B37
 refine L0 <| Osw r44 #[.func (.func 41) #[] #[], .func (.func 42) #[] #[]] fun w45 B46 hu47 => ?_
 have ne48 := nb (blk_lt B37) lr hg41
 have r49 := ub1 hu47 (Ne.symm ne48) B42
 refine L0 <| Osw r49 #[.func (.func 43) #[] #[], .func (.func 44) #[] #[]] fun w50 B51 hu52 => ng <| L0 <| Omk fun g53 w54 hg55 B56 hu57 => ?_
 have U58 := ut0 hu33 hu38
 have U59 := ut0 U58 hu43
 have U60 := u1 U59 hu47 (ni hu33.size hg36)
 have U61 := u1 U60 hu52 (ni U58.size hg41)
 have U62 := ut0 U61 hu57
 have r63 := ub1 U62 ne29 B27
 refine L0 <| Olw r63 <| L0 <| Oin B56 1 #[⟨.int .u8 1, .agg #[.func (.func 37) #[] #[], .func (.func 38) #[] #[]], 0⟩] 1 fun w64 B65 hu66 => ?_
 have ne67 := nb (blk_lt B18) (le (le (le (le (le (le hu24.size hu28.size) hu33.size) hu38.size) hu43.size) hu47.size) hu52.size) hg55
 have r68 := ub1 hu66 ne67 r63
 refine L0 <| Olw r68 <| L0 <| Oin B65 2 #[⟨.int .u8 1, .agg #[.func (.func 37) #[] #[], .func (.func 38) #[] #[]], 0⟩, ⟨.int .u8 2, .agg #[.func (.func 37) #[] #[], .func (.func 38) #[] #[]], 1⟩] 2 fun w69 B70 hu71 => ?_
 have r72 := ub1 hu71 ne67 r68
 refine L0 <| Olw r72 <| L0 <| Oin B70 5 #[⟨.int .u8 1, .agg #[.func (.func 37) #[] #[], .func (.func 38) #[] #[]], 0⟩, ⟨.int .u8 2, .agg #[.func (.func 37) #[] #[], .func (.func 38) #[] #[]], 1⟩, ⟨.int .u8 5, .agg #[.func (.func 37) #[] #[], .func (.func 38) #[] #[]], 2⟩] 3 fun w73 B74 hu75 => ?_
 have r76 := ub1 hu75 ne67 r72
 refine L0 <| Olw r76 <| L0 <| Oin B74 15 #[⟨.int .u8 1, .agg #[.func (.func 37) #[] #[], .func (.func 38) #[] #[]], 0⟩, ⟨.int .u8 2, .agg #[.func (.func 37) #[] #[], .func (.func 38) #[] #[]], 1⟩, ⟨.int .u8 5, .agg #[.func (.func 37) #[] #[], .func (.func 38) #[] #[]], 2⟩, ⟨.int .u8 15, .agg #[.func (.func 37) #[] #[], .func (.func 38) #[] #[]], 3⟩] 4 fun w77 B78 hu79 => ?_
 have U80 := ut0 hu38 hu43
 have U81 := u1 U80 hu47 (nr hg36)
 have U82 := u1 U81 hu52 (ni hu38.size hg41)
 have U83 := ut0 U82 hu57
 have U84 := u1 U83 hu66 (ni U82.size hg55)
 have U85 := u1 U84 hu71 (ni U82.size hg55)
 have U86 := u1 U85 hu75 (ni U82.size hg55)
 have U87 := u1 U86 hu79 (ni U82.size hg55)
 have r88 := ub U87 B32
 refine L0 <| Olw r88 <| L0 <| Oin B78 3 #[⟨.int .u8 1, .agg #[.func (.func 37) #[] #[], .func (.func 38) #[] #[]], 0⟩, ⟨.int .u8 2, .agg #[.func (.func 37) #[] #[], .func (.func 38) #[] #[]], 1⟩, ⟨.int .u8 5, .agg #[.func (.func 37) #[] #[], .func (.func 38) #[] #[]], 2⟩, ⟨.int .u8 15, .agg #[.func (.func 37) #[] #[], .func (.func 38) #[] #[]], 3⟩, ⟨.int .u8 3, .agg #[.func (.func 39) #[] #[], .func (.func 40) #[] #[]], 4⟩] 5 fun w89 B90 hu91 => ?_
 have ne92 := nb (blk_lt B23) (le (le (le (le (le hu28.size hu33.size) hu38.size) hu43.size) hu47.size) hu52.size) hg55
 have r93 := ub1 hu91 ne92 r88
 refine L0 <| Olw r93 <| L0 <| Oin B90 4 #[⟨.int .u8 1, .agg #[.func (.func 37) #[] #[], .func (.func 38) #[] #[]], 0⟩, ⟨.int .u8 2, .agg #[.func (.func 37) #[] #[], .func (.func 38) #[] #[]], 1⟩, ⟨.int .u8 5, .agg #[.func (.func 37) #[] #[], .func (.func 38) #[] #[]], 2⟩, ⟨.int .u8 15, .agg #[.func (.func 37) #[] #[], .func (.func 38) #[] #[]], 3⟩, ⟨.int .u8 3, .agg #[.func (.func 39) #[] #[], .func (.func 40) #[] #[]], 4⟩, ⟨.int .u8 4, .agg #[.func (.func 39) #[] #[], .func (.func 40) #[] #[]], 5⟩] 6 fun w94 B95 hu96 => ?_
 have r97 := ub1 hu96 ne92 r93
 refine L0 <| Olw r97 <| L0 <| Oin B95 6 #[⟨.int .u8 1, .agg #[.func (.func 37) #[] #[], .func (.func 38) #[] #[]], 0⟩, ⟨.int .u8 2, .agg #[.func (.func 37) #[] #[], .func (.func 38) #[] #[]], 1⟩, ⟨.int .u8 5, .agg #[.func (.func 37) #[] #[], .func (.func 38) #[] #[]], 2⟩, ⟨.int .u8 15, .agg #[.func (.func 37) #[] #[], .func (.func 38) #[] #[]], 3⟩, ⟨.int .u8 3, .agg #[.func (.func 39) #[] #[], .func (.func 40) #[] #[]], 4⟩, ⟨.int .u8 4, .agg #[.func (.func 39) #[] #[], .func (.func 40) #[] #[]], 5⟩, ⟨.int .u8 6, .agg #[.func (.func 39) #[] #[], .func (.func 40) #[] #[]], 6⟩] 7 fun w98 B99 hu100 => ?_
 have r101 := ub1 hu100 ne92 r97
 refine L0 <| Olw r101 <| L0 <| Oin B99 16 #[⟨.int .u8 1, .agg #[.func (.func 37) #[] #[], .func (.func 38) #[] #[]], 0⟩, ⟨.int .u8 2, .agg #[.func (.func 37) #[] #[], .func (.func 38) #[] #[]], 1⟩, ⟨.int .u8 5, .agg #[.func (.func 37) #[] #[], .func (.func 38) #[] #[]], 2⟩, ⟨.int .u8 15, .agg #[.func (.func 37) #[] #[], .func (.func 38) #[] #[]], 3⟩, ⟨.int .u8 3, .agg #[.func (.func 39) #[] #[], .func (.func 40) #[] #[]], 4⟩, ⟨.int .u8 4, .agg #[.func (.func 39) #[] #[], .func (.func 40) #[] #[]], 5⟩, ⟨.int .u8 6, .agg #[.func (.func 39) #[] #[], .func (.func 40) #[] #[]], 6⟩, ⟨.int .u8 16, .agg #[.func (.func 39) #[] #[], .func (.func 40) #[] #[]], 7⟩] 8 fun w102 B103 hu104 => ?_
 have r105 := ub1 hu104 ne92 r101
 refine L0 <| Olw r105 <| L0 <| Oin B103 22 #[⟨.int .u8 1, .agg #[.func (.func 37) #[] #[], .func (.func 38) #[] #[]], 0⟩, ⟨.int .u8 2, .agg #[.func (.func 37) #[] #[], .func (.func 38) #[] #[]], 1⟩, ⟨.int .u8 5, .agg #[.func (.func 37) #[] #[], .func (.func 38) #[] #[]], 2⟩, ⟨.int .u8 15, .agg #[.func (.func 37) #[] #[], .func (.func 38) #[] #[]], 3⟩, ⟨.int .u8 3, .agg #[.func (.func 39) #[] #[], .func (.func 40) #[] #[]], 4⟩, ⟨.int .u8 4, .agg #[.func (.func 39) #[] #[], .func (.func 40) #[] #[]], 5⟩, ⟨.int .u8 6, .agg #[.func (.func 39) #[] #[], .func (.func 40) #[] #[]], 6⟩, ⟨.int .u8 16, .agg #[.func (.func 39) #[] #[], .func (.func 40) #[] #[]], 7⟩, ⟨.int .u8 22, .agg #[.func (.func 39) #[] #[], .func (.func 40) #[] #[]], 8⟩] 9 fun w106 B107 hu108 => ?_
 have r109 := ub1 hu108 ne92 r105
 refine L0 <| Olw r109 <| L0 <| Oin B107 23 #[⟨.int .u8 1, .agg #[.func (.func 37) #[] #[], .func (.func 38) #[] #[]], 0⟩, ⟨.int .u8 2, .agg #[.func (.func 37) #[] #[], .func (.func 38) #[] #[]], 1⟩, ⟨.int .u8 5, .agg #[.func (.func 37) #[] #[], .func (.func 38) #[] #[]], 2⟩, ⟨.int .u8 15, .agg #[.func (.func 37) #[] #[], .func (.func 38) #[] #[]], 3⟩, ⟨.int .u8 3, .agg #[.func (.func 39) #[] #[], .func (.func 40) #[] #[]], 4⟩, ⟨.int .u8 4, .agg #[.func (.func 39) #[] #[], .func (.func 40) #[] #[]], 5⟩, ⟨.int .u8 6, .agg #[.func (.func 39) #[] #[], .func (.func 40) #[] #[]], 6⟩, ⟨.int .u8 16, .agg #[.func (.func 39) #[] #[], .func (.func 40) #[] #[]], 7⟩, ⟨.int .u8 22, .agg #[.func (.func 39) #[] #[], .func (.func 40) #[] #[]], 8⟩, ⟨.int .u8 23, .agg #[.func (.func 39) #[] #[], .func (.func 40) #[] #[]], 9⟩] 10 fun w110 B111 hu112 => ?_
 have r113 := ub1 hu112 ne92 r109
 refine L0 <| Olw r113 <| L0 <| Oin B111 24 #[⟨.int .u8 1, .agg #[.func (.func 37) #[] #[], .func (.func 38) #[] #[]], 0⟩, ⟨.int .u8 2, .agg #[.func (.func 37) #[] #[], .func (.func 38) #[] #[]], 1⟩, ⟨.int .u8 5, .agg #[.func (.func 37) #[] #[], .func (.func 38) #[] #[]], 2⟩, ⟨.int .u8 15, .agg #[.func (.func 37) #[] #[], .func (.func 38) #[] #[]], 3⟩, ⟨.int .u8 3, .agg #[.func (.func 39) #[] #[], .func (.func 40) #[] #[]], 4⟩, ⟨.int .u8 4, .agg #[.func (.func 39) #[] #[], .func (.func 40) #[] #[]], 5⟩, ⟨.int .u8 6, .agg #[.func (.func 39) #[] #[], .func (.func 40) #[] #[]], 6⟩, ⟨.int .u8 16, .agg #[.func (.func 39) #[] #[], .func (.func 40) #[] #[]], 7⟩, ⟨.int .u8 22, .agg #[.func (.func 39) #[] #[], .func (.func 40) #[] #[]], 8⟩, ⟨.int .u8 23, .agg #[.func (.func 39) #[] #[], .func (.func 40) #[] #[]], 9⟩, ⟨.int .u8 24, .agg #[.func (.func 39) #[] #[], .func (.func 40) #[] #[]], 10⟩] 11 fun w114 B115 hu116 => ?_
 have U117 := ut0 hu52 hu57
 have U118 := u1 U117 hu66 (ni hu52.size hg55)
 have U119 := u1 U118 hu71 (ni hu52.size hg55)
 have U120 := u1 U119 hu75 (ni hu52.size hg55)
 have U121 := u1 U120 hu79 (ni hu52.size hg55)
 have U122 := u1 U121 hu91 (ni hu52.size hg55)
 have U123 := u1 U122 hu96 (ni hu52.size hg55)
 have U124 := u1 U123 hu100 (ni hu52.size hg55)
 have U125 := u1 U124 hu104 (ni hu52.size hg55)
 have U126 := u1 U125 hu108 (ni hu52.size hg55)
 have U127 := u1 U126 hu112 (ni hu52.size hg55)
 have U128 := u1 U127 hu116 (ni hu52.size hg55)
 have r129 := ub1 U128 ne48 B46
 refine L0 <| Olw r129 <| L0 <| Oin B115 7 #[⟨.int .u8 1, .agg #[.func (.func 37) #[] #[], .func (.func 38) #[] #[]], 0⟩, ⟨.int .u8 2, .agg #[.func (.func 37) #[] #[], .func (.func 38) #[] #[]], 1⟩, ⟨.int .u8 5, .agg #[.func (.func 37) #[] #[], .func (.func 38) #[] #[]], 2⟩, ⟨.int .u8 15, .agg #[.func (.func 37) #[] #[], .func (.func 38) #[] #[]], 3⟩, ⟨.int .u8 3, .agg #[.func (.func 39) #[] #[], .func (.func 40) #[] #[]], 4⟩, ⟨.int .u8 4, .agg #[.func (.func 39) #[] #[], .func (.func 40) #[] #[]], 5⟩, ⟨.int .u8 6, .agg #[.func (.func 39) #[] #[], .func (.func 40) #[] #[]], 6⟩, ⟨.int .u8 16, .agg #[.func (.func 39) #[] #[], .func (.func 40) #[] #[]], 7⟩, ⟨.int .u8 22, .agg #[.func (.func 39) #[] #[], .func (.func 40) #[] #[]], 8⟩, ⟨.int .u8 23, .agg #[.func (.func 39) #[] #[], .func (.func 40) #[] #[]], 9⟩, ⟨.int .u8 24, .agg #[.func (.func 39) #[] #[], .func (.func 40) #[] #[]], 10⟩, ⟨.int .u8 7, .agg #[.func (.func 41) #[] #[], .func (.func 42) #[] #[]], 11⟩] 12 fun w130 B131 hu132 => ?_
 have ne133 := nb (blk_lt B37) (le (le hu43.size hu47.size) hu52.size) hg55
 have r134 := ub1 hu132 ne133 r129
 refine L0 <| Olw r134 <| L0 <| Oin B131 8 #[⟨.int .u8 1, .agg #[.func (.func 37) #[] #[], .func (.func 38) #[] #[]], 0⟩, ⟨.int .u8 2, .agg #[.func (.func 37) #[] #[], .func (.func 38) #[] #[]], 1⟩, ⟨.int .u8 5, .agg #[.func (.func 37) #[] #[], .func (.func 38) #[] #[]], 2⟩, ⟨.int .u8 15, .agg #[.func (.func 37) #[] #[], .func (.func 38) #[] #[]], 3⟩, ⟨.int .u8 3, .agg #[.func (.func 39) #[] #[], .func (.func 40) #[] #[]], 4⟩, ⟨.int .u8 4, .agg #[.func (.func 39) #[] #[], .func (.func 40) #[] #[]], 5⟩, ⟨.int .u8 6, .agg #[.func (.func 39) #[] #[], .func (.func 40) #[] #[]], 6⟩, ⟨.int .u8 16, .agg #[.func (.func 39) #[] #[], .func (.func 40) #[] #[]], 7⟩, ⟨.int .u8 22, .agg #[.func (.func 39) #[] #[], .func (.func 40) #[] #[]], 8⟩, ⟨.int .u8 23, .agg #[.func (.func 39) #[] #[], .func (.func 40) #[] #[]], 9⟩, ⟨.int .u8 24, .agg #[.func (.func 39) #[] #[], .func (.func 40) #[] #[]], 10⟩, ⟨.int .u8 7, .agg #[.func (.func 41) #[] #[], .func (.func 42) #[] #[]], 11⟩, ⟨.int .u8 8, .agg #[.func (.func 41) #[] #[], .func (.func 42) #[] #[]], 12⟩] 13 fun w135 B136 hu137 => ?_
 have r138 := ub1 hu137 ne133 r134
 refine L0 <| Olw r138 <| L0 <| Oin B136 11 #[⟨.int .u8 1, .agg #[.func (.func 37) #[] #[], .func (.func 38) #[] #[]], 0⟩, ⟨.int .u8 2, .agg #[.func (.func 37) #[] #[], .func (.func 38) #[] #[]], 1⟩, ⟨.int .u8 5, .agg #[.func (.func 37) #[] #[], .func (.func 38) #[] #[]], 2⟩, ⟨.int .u8 15, .agg #[.func (.func 37) #[] #[], .func (.func 38) #[] #[]], 3⟩, ⟨.int .u8 3, .agg #[.func (.func 39) #[] #[], .func (.func 40) #[] #[]], 4⟩, ⟨.int .u8 4, .agg #[.func (.func 39) #[] #[], .func (.func 40) #[] #[]], 5⟩, ⟨.int .u8 6, .agg #[.func (.func 39) #[] #[], .func (.func 40) #[] #[]], 6⟩, ⟨.int .u8 16, .agg #[.func (.func 39) #[] #[], .func (.func 40) #[] #[]], 7⟩, ⟨.int .u8 22, .agg #[.func (.func 39) #[] #[], .func (.func 40) #[] #[]], 8⟩, ⟨.int .u8 23, .agg #[.func (.func 39) #[] #[], .func (.func 40) #[] #[]], 9⟩, ⟨.int .u8 24, .agg #[.func (.func 39) #[] #[], .func (.func 40) #[] #[]], 10⟩, ⟨.int .u8 7, .agg #[.func (.func 41) #[] #[], .func (.func 42) #[] #[]], 11⟩, ⟨.int .u8 8, .agg #[.func (.func 41) #[] #[], .func (.func 42) #[] #[]], 12⟩, ⟨.int .u8 11, .agg #[.func (.func 41) #[] #[], .func (.func 42) #[] #[]], 13⟩] 14 fun w139 B140 hu141 => ?_
 have r142 := ub1 hu141 ne133 r138
 refine L0 <| Olw r142 <| L0 <| Oin B140 12 #[⟨.int .u8 1, .agg #[.func (.func 37) #[] #[], .func (.func 38) #[] #[]], 0⟩, ⟨.int .u8 2, .agg #[.func (.func 37) #[] #[], .func (.func 38) #[] #[]], 1⟩, ⟨.int .u8 5, .agg #[.func (.func 37) #[] #[], .func (.func 38) #[] #[]], 2⟩, ⟨.int .u8 15, .agg #[.func (.func 37) #[] #[], .func (.func 38) #[] #[]], 3⟩, ⟨.int .u8 3, .agg #[.func (.func 39) #[] #[], .func (.func 40) #[] #[]], 4⟩, ⟨.int .u8 4, .agg #[.func (.func 39) #[] #[], .func (.func 40) #[] #[]], 5⟩, ⟨.int .u8 6, .agg #[.func (.func 39) #[] #[], .func (.func 40) #[] #[]], 6⟩, ⟨.int .u8 16, .agg #[.func (.func 39) #[] #[], .func (.func 40) #[] #[]], 7⟩, ⟨.int .u8 22, .agg #[.func (.func 39) #[] #[], .func (.func 40) #[] #[]], 8⟩, ⟨.int .u8 23, .agg #[.func (.func 39) #[] #[], .func (.func 40) #[] #[]], 9⟩, ⟨.int .u8 24, .agg #[.func (.func 39) #[] #[], .func (.func 40) #[] #[]], 10⟩, ⟨.int .u8 7, .agg #[.func (.func 41) #[] #[], .func (.func 42) #[] #[]], 11⟩, ⟨.int .u8 8, .agg #[.func (.func 41) #[] #[], .func (.func 42) #[] #[]], 12⟩, ⟨.int .u8 11, .agg #[.func (.func 41) #[] #[], .func (.func 42) #[] #[]], 13⟩, ⟨.int .u8 12, .agg #[.func (.func 41) #[] #[], .func (.func 42) #[] #[]], 14⟩] 15 fun w143 B144 hu145 => ?_
 have r146 := ub1 hu145 ne133 r142
 refine L0 <| Olw r146 <| L0 <| Oin B144 17 #[⟨.int .u8 1, .agg #[.func (.func 37) #[] #[], .func (.func 38) #[] #[]], 0⟩, ⟨.int .u8 2, .agg #[.func (.func 37) #[] #[], .func (.func 38) #[] #[]], 1⟩, ⟨.int .u8 5, .agg #[.func (.func 37) #[] #[], .func (.func 38) #[] #[]], 2⟩, ⟨.int .u8 15, .agg #[.func (.func 37) #[] #[], .func (.func 38) #[] #[]], 3⟩, ⟨.int .u8 3, .agg #[.func (.func 39) #[] #[], .func (.func 40) #[] #[]], 4⟩, ⟨.int .u8 4, .agg #[.func (.func 39) #[] #[], .func (.func 40) #[] #[]], 5⟩, ⟨.int .u8 6, .agg #[.func (.func 39) #[] #[], .func (.func 40) #[] #[]], 6⟩, ⟨.int .u8 16, .agg #[.func (.func 39) #[] #[], .func (.func 40) #[] #[]], 7⟩, ⟨.int .u8 22, .agg #[.func (.func 39) #[] #[], .func (.func 40) #[] #[]], 8⟩, ⟨.int .u8 23, .agg #[.func (.func 39) #[] #[], .func (.func 40) #[] #[]], 9⟩, ⟨.int .u8 24, .agg #[.func (.func 39) #[] #[], .func (.func 40) #[] #[]], 10⟩, ⟨.int .u8 7, .agg #[.func (.func 41) #[] #[], .func (.func 42) #[] #[]], 11⟩, ⟨.int .u8 8, .agg #[.func (.func 41) #[] #[], .func (.func 42) #[] #[]], 12⟩, ⟨.int .u8 11, .agg #[.func (.func 41) #[] #[], .func (.func 42) #[] #[]], 13⟩, ⟨.int .u8 12, .agg #[.func (.func 41) #[] #[], .func (.func 42) #[] #[]], 14⟩, ⟨.int .u8 17, .agg #[.func (.func 41) #[] #[], .func (.func 42) #[] #[]], 15⟩] 16 fun w147 B148 hu149 => ?_
 have U150 := u1 hu57 hu66 (nr hg55)
 have U151 := u1 U150 hu71 (nr hg55)
 have U152 := u1 U151 hu75 (nr hg55)
 have U153 := u1 U152 hu79 (nr hg55)
 have U154 := u1 U153 hu91 (nr hg55)
 have U155 := u1 U154 hu96 (nr hg55)
 have U156 := u1 U155 hu100 (nr hg55)
 have U157 := u1 U156 hu104 (nr hg55)
 have U158 := u1 U157 hu108 (nr hg55)
 have U159 := u1 U158 hu112 (nr hg55)
 have U160 := u1 U159 hu116 (nr hg55)
 have U161 := u1 U160 hu132 (nr hg55)
 have U162 := u1 U161 hu137 (nr hg55)
 have U163 := u1 U162 hu141 (nr hg55)
 have U164 := u1 U163 hu145 (nr hg55)
 have U165 := u1 U164 hu149 (nr hg55)
 have r166 := ub U165 B51
 refine L0 <| Olw r166 <| L0 <| Oin B148 20 #[⟨.int .u8 1, .agg #[.func (.func 37) #[] #[], .func (.func 38) #[] #[]], 0⟩, ⟨.int .u8 2, .agg #[.func (.func 37) #[] #[], .func (.func 38) #[] #[]], 1⟩, ⟨.int .u8 5, .agg #[.func (.func 37) #[] #[], .func (.func 38) #[] #[]], 2⟩, ⟨.int .u8 15, .agg #[.func (.func 37) #[] #[], .func (.func 38) #[] #[]], 3⟩, ⟨.int .u8 3, .agg #[.func (.func 39) #[] #[], .func (.func 40) #[] #[]], 4⟩, ⟨.int .u8 4, .agg #[.func (.func 39) #[] #[], .func (.func 40) #[] #[]], 5⟩, ⟨.int .u8 6, .agg #[.func (.func 39) #[] #[], .func (.func 40) #[] #[]], 6⟩, ⟨.int .u8 16, .agg #[.func (.func 39) #[] #[], .func (.func 40) #[] #[]], 7⟩, ⟨.int .u8 22, .agg #[.func (.func 39) #[] #[], .func (.func 40) #[] #[]], 8⟩, ⟨.int .u8 23, .agg #[.func (.func 39) #[] #[], .func (.func 40) #[] #[]], 9⟩, ⟨.int .u8 24, .agg #[.func (.func 39) #[] #[], .func (.func 40) #[] #[]], 10⟩, ⟨.int .u8 7, .agg #[.func (.func 41) #[] #[], .func (.func 42) #[] #[]], 11⟩, ⟨.int .u8 8, .agg #[.func (.func 41) #[] #[], .func (.func 42) #[] #[]], 12⟩, ⟨.int .u8 11, .agg #[.func (.func 41) #[] #[], .func (.func 42) #[] #[]], 13⟩, ⟨.int .u8 12, .agg #[.func (.func 41) #[] #[], .func (.func 42) #[] #[]], 14⟩, ⟨.int .u8 17, .agg #[.func (.func 41) #[] #[], .func (.func 42) #[] #[]], 15⟩, ⟨.int .u8 20, .agg #[.func (.func 43) #[] #[], .func (.func 44) #[] #[]], 16⟩] 17 fun w167 B168 hu169 => ?_
 have ne170 := nb (blk_lt B42) (le hu47.size hu52.size) hg55
 have r171 := ub1 hu169 ne170 r166
 refine L0 <| Olw r171 <| L0 <| Oin B168 21 #[⟨.int .u8 1, .agg #[.func (.func 37) #[] #[], .func (.func 38) #[] #[]], 0⟩, ⟨.int .u8 2, .agg #[.func (.func 37) #[] #[], .func (.func 38) #[] #[]], 1⟩, ⟨.int .u8 5, .agg #[.func (.func 37) #[] #[], .func (.func 38) #[] #[]], 2⟩, ⟨.int .u8 15, .agg #[.func (.func 37) #[] #[], .func (.func 38) #[] #[]], 3⟩, ⟨.int .u8 3, .agg #[.func (.func 39) #[] #[], .func (.func 40) #[] #[]], 4⟩, ⟨.int .u8 4, .agg #[.func (.func 39) #[] #[], .func (.func 40) #[] #[]], 5⟩, ⟨.int .u8 6, .agg #[.func (.func 39) #[] #[], .func (.func 40) #[] #[]], 6⟩, ⟨.int .u8 16, .agg #[.func (.func 39) #[] #[], .func (.func 40) #[] #[]], 7⟩, ⟨.int .u8 22, .agg #[.func (.func 39) #[] #[], .func (.func 40) #[] #[]], 8⟩, ⟨.int .u8 23, .agg #[.func (.func 39) #[] #[], .func (.func 40) #[] #[]], 9⟩, ⟨.int .u8 24, .agg #[.func (.func 39) #[] #[], .func (.func 40) #[] #[]], 10⟩, ⟨.int .u8 7, .agg #[.func (.func 41) #[] #[], .func (.func 42) #[] #[]], 11⟩, ⟨.int .u8 8, .agg #[.func (.func 41) #[] #[], .func (.func 42) #[] #[]], 12⟩, ⟨.int .u8 11, .agg #[.func (.func 41) #[] #[], .func (.func 42) #[] #[]], 13⟩, ⟨.int .u8 12, .agg #[.func (.func 41) #[] #[], .func (.func 42) #[] #[]], 14⟩, ⟨.int .u8 17, .agg #[.func (.func 41) #[] #[], .func (.func 42) #[] #[]], 15⟩, ⟨.int .u8 20, .agg #[.func (.func 43) #[] #[], .func (.func 44) #[] #[]], 16⟩, ⟨.int .u8 21, .agg #[.func (.func 43) #[] #[], .func (.func 44) #[] #[]], 17⟩] 18 fun w172 B173 hu174 => Pl 1 <| L0 <| Oin B173 43 #[⟨.int .u8 1, .agg #[.func (.func 37) #[] #[], .func (.func 38) #[] #[]], 0⟩, ⟨.int .u8 2, .agg #[.func (.func 37) #[] #[], .func (.func 38) #[] #[]], 1⟩, ⟨.int .u8 5, .agg #[.func (.func 37) #[] #[], .func (.func 38) #[] #[]], 2⟩, ⟨.int .u8 15, .agg #[.func (.func 37) #[] #[], .func (.func 38) #[] #[]], 3⟩, ⟨.int .u8 3, .agg #[.func (.func 39) #[] #[], .func (.func 40) #[] #[]], 4⟩, ⟨.int .u8 4, .agg #[.func (.func 39) #[] #[], .func (.func 40) #[] #[]], 5⟩, ⟨.int .u8 6, .agg #[.func (.func 39) #[] #[], .func (.func 40) #[] #[]], 6⟩, ⟨.int .u8 16, .agg #[.func (.func 39) #[] #[], .func (.func 40) #[] #[]], 7⟩, ⟨.int .u8 22, .agg #[.func (.func 39) #[] #[], .func (.func 40) #[] #[]], 8⟩, ⟨.int .u8 23, .agg #[.func (.func 39) #[] #[], .func (.func 40) #[] #[]], 9⟩, ⟨.int .u8 24, .agg #[.func (.func 39) #[] #[], .func (.func 40) #[] #[]], 10⟩, ⟨.int .u8 7, .agg #[.func (.func 41) #[] #[], .func (.func 42) #[] #[]], 11⟩, ⟨.int .u8 8, .agg #[.func (.func 41) #[] #[], .func (.func 42) #[] #[]], 12⟩, ⟨.int .u8 11, .agg #[.func (.func 41) #[] #[], .func (.func 42) #[] #[]], 13⟩, ⟨.int .u8 12, .agg #[.func (.func 41) #[] #[], .func (.func 42) #[] #[]], 14⟩, ⟨.int .u8 17, .agg #[.func (.func 41) #[] #[], .func (.func 42) #[] #[]], 15⟩, ⟨.int .u8 20, .agg #[.func (.func 43) #[] #[], .func (.func 44) #[] #[]], 16⟩, ⟨.int .u8 21, .agg #[.func (.func 43) #[] #[], .func (.func 44) #[] #[]], 17⟩, ⟨.int .u8 43, .agg #[.func (.func 45) #[] #[], .func (.func 46) #[] #[]], 18⟩] 19 fun w175 B176 hu177 => Pl 2 <| ng <| Pl 2 <| ?_
 have U178 := ut0 hu14 hu19
 have U179 := ut0 U178 hu24
 have U180 := u1 U179 hu28 (ni hu14.size hg17)
 have U181 := u1 U180 hu33 (ni U178.size hg22)
 have U182 := ut0 U181 hu38
 have U183 := ut0 U182 hu43
 have U184 := u1 U183 hu47 (ni U181.size hg36)
 have U185 := u1 U184 hu52 (ni U182.size hg41)
 have U186 := ut0 U185 hu57
 have U187 := u1 U186 hu66 (ni U185.size hg55)
 have U188 := u1 U187 hu71 (ni U185.size hg55)
 have U189 := u1 U188 hu75 (ni U185.size hg55)
 have U190 := u1 U189 hu79 (ni U185.size hg55)
 have U191 := u1 U190 hu91 (ni U185.size hg55)
 have U192 := u1 U191 hu96 (ni U185.size hg55)
 have U193 := u1 U192 hu100 (ni U185.size hg55)
 have U194 := u1 U193 hu104 (ni U185.size hg55)
 have U195 := u1 U194 hu108 (ni U185.size hg55)
 have U196 := u1 U195 hu112 (ni U185.size hg55)
 have U197 := u1 U196 hu116 (ni U185.size hg55)
 have U198 := u1 U197 hu132 (ni U185.size hg55)
 have U199 := u1 U198 hu137 (ni U185.size hg55)
 have U200 := u1 U199 hu141 (ni U185.size hg55)
 have U201 := u1 U200 hu145 (ni U185.size hg55)
 have U202 := u1 U201 hu149 (ni U185.size hg55)
 have U203 := u1 U202 hu169 (ni U185.size hg55)
 have U204 := u1 U203 hu174 (ni U185.size hg55)
 have U205 := u1 U204 hu177 (ni U185.size hg55)
 rcases cfam_dich x with ⟨hk, hkf⟩ | ⟨hk, hkf⟩ | ⟨hk, hkf⟩ | ⟨hk, hkf⟩ | ⟨hk, hkf⟩ | ⟨hk, hkf⟩
 obtain ⟨ix, hix⟩ : ∃ i, Instr.findNow (.int .u8) (.int .u8 x) (#[⟨.int .u8 1, .agg #[.func (.func 37) #[] #[], .func (.func 38) #[] #[]], 0⟩, ⟨.int .u8 2, .agg #[.func (.func 37) #[] #[], .func (.func 38) #[] #[]], 1⟩, ⟨.int .u8 5, .agg #[.func (.func 37) #[] #[], .func (.func 38) #[] #[]], 2⟩, ⟨.int .u8 15, .agg #[.func (.func 37) #[] #[], .func (.func 38) #[] #[]], 3⟩, ⟨.int .u8 3, .agg #[.func (.func 39) #[] #[], .func (.func 40) #[] #[]], 4⟩, ⟨.int .u8 4, .agg #[.func (.func 39) #[] #[], .func (.func 40) #[] #[]], 5⟩, ⟨.int .u8 6, .agg #[.func (.func 39) #[] #[], .func (.func 40) #[] #[]], 6⟩, ⟨.int .u8 16, .agg #[.func (.func 39) #[] #[], .func (.func 40) #[] #[]], 7⟩, ⟨.int .u8 22, .agg #[.func (.func 39) #[] #[], .func (.func 40) #[] #[]], 8⟩, ⟨.int .u8 23, .agg #[.func (.func 39) #[] #[], .func (.func 40) #[] #[]], 9⟩, ⟨.int .u8 24, .agg #[.func (.func 39) #[] #[], .func (.func 40) #[] #[]], 10⟩, ⟨.int .u8 7, .agg #[.func (.func 41) #[] #[], .func (.func 42) #[] #[]], 11⟩, ⟨.int .u8 8, .agg #[.func (.func 41) #[] #[], .func (.func 42) #[] #[]], 12⟩, ⟨.int .u8 11, .agg #[.func (.func 41) #[] #[], .func (.func 42) #[] #[]], 13⟩, ⟨.int .u8 12, .agg #[.func (.func 41) #[] #[], .func (.func 42) #[] #[]], 14⟩, ⟨.int .u8 17, .agg #[.func (.func 41) #[] #[], .func (.func 42) #[] #[]], 15⟩, ⟨.int .u8 20, .agg #[.func (.func 43) #[] #[], .func (.func 44) #[] #[]], 16⟩, ⟨.int .u8 21, .agg #[.func (.func 43) #[] #[], .func (.func 44) #[] #[]], 17⟩, ⟨.int .u8 43, .agg #[.func (.func 45) #[] #[], .func (.func 46) #[] #[]], 18⟩] : Array MapEntry).toList 0 = some (some (i, .agg #[.func (.func 37) #[] #[], .func (.func 38) #[] #[]])) := by
   rcases hk with rfl | rfl | rfl | rfl
   · exact ⟨0, by kernel_rfl⟩
   · exact ⟨1, by kernel_rfl⟩
   · exact ⟨2, by kernel_rfl⟩
   · exact ⟨3, by kernel_rfl⟩
 refine L0 <| Olk (hf := hix) B176 x (.agg #[.nilFunc, .nilFunc]) (some (ix, .agg #[.func (.func 37) #[] #[], .func (.func 38) #[] #[]])) <| Pl 3 <| L0 <| Oal #[.nilFunc, .nilFunc] fun g206 w207 hg208 B209 hu210 => L0 <| Osw B209 #[.func (.func 37) #[] #[], .func (.func 38) #[] #[]] fun w211 B212 hu213 => Pl 1 <| ng <| L0 <| Olw B212 <| Pl 1 <| ?_
 have U214 := ut0 hu19 hu24
 have U215 := u1 U214 hu28 (nr hg17)
 have U216 := u1 U215 hu33 (ni hu19.size hg22)
 have U217 := ut0 U216 hu38
 have U218 := ut0 U217 hu43
 have U219 := u1 U218 hu47 (ni U216.size hg36)
 have U220 := u1 U219 hu52 (ni U217.size hg41)
 have U221 := ut0 U220 hu57
 have U222 := u1 U221 hu66 (ni U220.size hg55)
 have U223 := u1 U222 hu71 (ni U220.size hg55)
 have U224 := u1 U223 hu75 (ni U220.size hg55)
 have U225 := u1 U224 hu79 (ni U220.size hg55)
 have U226 := u1 U225 hu91 (ni U220.size hg55)
 have U227 := u1 U226 hu96 (ni U220.size hg55)
 have U228 := u1 U227 hu100 (ni U220.size hg55)
 have U229 := u1 U228 hu104 (ni U220.size hg55)
 have U230 := u1 U229 hu108 (ni U220.size hg55)
 have U231 := u1 U230 hu112 (ni U220.size hg55)
 have U232 := u1 U231 hu116 (ni U220.size hg55)
 have U233 := u1 U232 hu132 (ni U220.size hg55)
 have U234 := u1 U233 hu137 (ni U220.size hg55)
 have U235 := u1 U234 hu141 (ni U220.size hg55)
 have U236 := u1 U235 hu145 (ni U220.size hg55)
 have U237 := u1 U236 hu149 (ni U220.size hg55)
 have U238 := u1 U237 hu169 (ni U220.size hg55)
 have U239 := u1 U238 hu174 (ni U220.size hg55)
 have U240 := u1 U239 hu177 (ni U220.size hg55)
 have U241 := ut0 U240 hu210
 have U242 := u1 U241 hu213 (ni U240.size hg208)
 have r243 := ub U242 B13
 refine L0 <| Osw r243 #[.func (.func 37) #[] #[], .func (.func 38) #[] #[]] fun w244 B245 hu246 => Pl 1 <| nt <| rt <| rct B245 (.bool true) <| ?_
 rw [hkf]
 have U247 := ut0 U205 hu210
 have U248 := u1 U247 hu213 (ni U205.size hg208)
 have U249 := u1 U248 hu246 (nr hg12)
 exact ⟨rfl, U249⟩
 obtain ⟨ix, hix⟩ : ∃ i, Instr.findNow (.int .u8) (.int .u8 x) (#[⟨.int .u8 1, .agg #[.func (.func 37) #[] #[], .func (.func 38) #[] #[]], 0⟩, ⟨.int .u8 2, .agg #[.func (.func 37) #[] #[], .func (.func 38) #[] #[]], 1⟩, ⟨.int .u8 5, .agg #[.func (.func 37) #[] #[], .func (.func 38) #[] #[]], 2⟩, ⟨.int .u8 15, .agg #[.func (.func 37) #[] #[], .func (.func 38) #[] #[]], 3⟩, ⟨.int .u8 3, .agg #[.func (.func 39) #[] #[], .func (.func 40) #[] #[]], 4⟩, ⟨.int .u8 4, .agg #[.func (.func 39) #[] #[], .func (.func 40) #[] #[]], 5⟩, ⟨.int .u8 6, .agg #[.func (.func 39) #[] #[], .func (.func 40) #[] #[]], 6⟩, ⟨.int .u8 16, .agg #[.func (.func 39) #[] #[], .func (.func 40) #[] #[]], 7⟩, ⟨.int .u8 22, .agg #[.func (.func 39) #[] #[], .func (.func 40) #[] #[]], 8⟩, ⟨.int .u8 23, .agg #[.func (.func 39) #[] #[], .func (.func 40) #[] #[]], 9⟩, ⟨.int .u8 24, .agg #[.func (.func 39) #[] #[], .func (.func 40) #[] #[]], 10⟩, ⟨.int .u8 7, .agg #[.func (.func 41) #[] #[], .func (.func 42) #[] #[]], 11⟩, ⟨.int .u8 8, .agg #[.func (.func 41) #[] #[], .func (.func 42) #[] #[]], 12⟩, ⟨.int .u8 11, .agg #[.func (.func 41) #[] #[], .func (.func 42) #[] #[]], 13⟩, ⟨.int .u8 12, .agg #[.func (.func 41) #[] #[], .func (.func 42) #[] #[]], 14⟩, ⟨.int .u8 17, .agg #[.func (.func 41) #[] #[], .func (.func 42) #[] #[]], 15⟩, ⟨.int .u8 20, .agg #[.func (.func 43) #[] #[], .func (.func 44) #[] #[]], 16⟩, ⟨.int .u8 21, .agg #[.func (.func 43) #[] #[], .func (.func 44) #[] #[]], 17⟩, ⟨.int .u8 43, .agg #[.func (.func 45) #[] #[], .func (.func 46) #[] #[]], 18⟩] : Array MapEntry).toList 0 = some (some (i, .agg #[.func (.func 39) #[] #[], .func (.func 40) #[] #[]])) := by
   rcases hk with rfl | rfl | rfl | rfl | rfl | rfl | rfl
   · exact ⟨4, by kernel_rfl⟩
   · exact ⟨5, by kernel_rfl⟩
   · exact ⟨6, by kernel_rfl⟩
   · exact ⟨7, by kernel_rfl⟩
   · exact ⟨8, by kernel_rfl⟩
   · exact ⟨9, by kernel_rfl⟩
   · exact ⟨10, by kernel_rfl⟩
 refine L0 <| Olk (hf := hix) B176 x (.agg #[.nilFunc, .nilFunc]) (some (ix, .agg #[.func (.func 39) #[] #[], .func (.func 40) #[] #[]])) <| Pl 3 <| L0 <| Oal #[.nilFunc, .nilFunc] fun g250 w251 hg252 B253 hu254 => L0 <| Osw B253 #[.func (.func 39) #[] #[], .func (.func 40) #[] #[]] fun w255 B256 hu257 => Pl 1 <| ng <| L0 <| Olw B256 <| Pl 1 <| ?_
 have U258 := ut0 hu19 hu24
 have U259 := u1 U258 hu28 (nr hg17)
 have U260 := u1 U259 hu33 (ni hu19.size hg22)
 have U261 := ut0 U260 hu38
 have U262 := ut0 U261 hu43
 have U263 := u1 U262 hu47 (ni U260.size hg36)
 have U264 := u1 U263 hu52 (ni U261.size hg41)
 have U265 := ut0 U264 hu57
 have U266 := u1 U265 hu66 (ni U264.size hg55)
 have U267 := u1 U266 hu71 (ni U264.size hg55)
 have U268 := u1 U267 hu75 (ni U264.size hg55)
 have U269 := u1 U268 hu79 (ni U264.size hg55)
 have U270 := u1 U269 hu91 (ni U264.size hg55)
 have U271 := u1 U270 hu96 (ni U264.size hg55)
 have U272 := u1 U271 hu100 (ni U264.size hg55)
 have U273 := u1 U272 hu104 (ni U264.size hg55)
 have U274 := u1 U273 hu108 (ni U264.size hg55)
 have U275 := u1 U274 hu112 (ni U264.size hg55)
 have U276 := u1 U275 hu116 (ni U264.size hg55)
 have U277 := u1 U276 hu132 (ni U264.size hg55)
 have U278 := u1 U277 hu137 (ni U264.size hg55)
 have U279 := u1 U278 hu141 (ni U264.size hg55)
 have U280 := u1 U279 hu145 (ni U264.size hg55)
 have U281 := u1 U280 hu149 (ni U264.size hg55)
 have U282 := u1 U281 hu169 (ni U264.size hg55)
 have U283 := u1 U282 hu174 (ni U264.size hg55)
 have U284 := u1 U283 hu177 (ni U264.size hg55)
 have U285 := ut0 U284 hu254
 have U286 := u1 U285 hu257 (ni U284.size hg252)
 have r287 := ub U286 B13
 refine L0 <| Osw r287 #[.func (.func 39) #[] #[], .func (.func 40) #[] #[]] fun w288 B289 hu290 => Pl 1 <| nt <| rt <| rct B289 (.bool true) <| ?_
 rw [hkf]
 have U291 := ut0 U205 hu254
 have U292 := u1 U291 hu257 (ni U205.size hg252)
 have U293 := u1 U292 hu290 (nr hg12)
 exact ⟨rfl, U293⟩
 obtain ⟨ix, hix⟩ : ∃ i, Instr.findNow (.int .u8) (.int .u8 x) (#[⟨.int .u8 1, .agg #[.func (.func 37) #[] #[], .func (.func 38) #[] #[]], 0⟩, ⟨.int .u8 2, .agg #[.func (.func 37) #[] #[], .func (.func 38) #[] #[]], 1⟩, ⟨.int .u8 5, .agg #[.func (.func 37) #[] #[], .func (.func 38) #[] #[]], 2⟩, ⟨.int .u8 15, .agg #[.func (.func 37) #[] #[], .func (.func 38) #[] #[]], 3⟩, ⟨.int .u8 3, .agg #[.func (.func 39) #[] #[], .func (.func 40) #[] #[]], 4⟩, ⟨.int .u8 4, .agg #[.func (.func 39) #[] #[], .func (.func 40) #[] #[]], 5⟩, ⟨.int .u8 6, .agg #[.func (.func 39) #[] #[], .func (.func 40) #[] #[]], 6⟩, ⟨.int .u8 16, .agg #[.func (.func 39) #[] #[], .func (.func 40) #[] #[]], 7⟩, ⟨.int .u8 22, .agg #[.func (.func 39) #[] #[], .func (.func 40) #[] #[]], 8⟩, ⟨.int .u8 23, .agg #[.func (.func 39) #[] #[], .func (.func 40) #[] #[]], 9⟩, ⟨.int .u8 24, .agg #[.func (.func 39) #[] #[], .func (.func 40) #[] #[]], 10⟩, ⟨.int .u8 7, .agg #[.func (.func 41) #[] #[], .func (.func 42) #[] #[]], 11⟩, ⟨.int .u8 8, .agg #[.func (.func 41) #[] #[], .func (.func 42) #[] #[]], 12⟩, ⟨.int .u8 11, .agg #[.func (.func 41) #[] #[], .func (.func 42) #[] #[]], 13⟩, ⟨.int .u8 12, .agg #[.func (.func 41) #[] #[], .func (.func 42) #[] #[]], 14⟩, ⟨.int .u8 17, .agg #[.func (.func 41) #[] #[], .func (.func 42) #[] #[]], 15⟩, ⟨.int .u8 20, .agg #[.func (.func 43) #[] #[], .func (.func 44) #[] #[]], 16⟩, ⟨.int .u8 21, .agg #[.func (.func 43) #[] #[], .func (.func 44) #[] #[]], 17⟩, ⟨.int .u8 43, .agg #[.func (.func 45) #[] #[], .func (.func 46) #[] #[]], 18⟩] : Array MapEntry).toList 0 = some (some (i, .agg #[.func (.func 41) #[] #[], .func (.func 42) #[] #[]])) := by
   rcases hk with rfl | rfl | rfl | rfl | rfl
   · exact ⟨11, by kernel_rfl⟩
   · exact ⟨12, by kernel_rfl⟩
   · exact ⟨13, by kernel_rfl⟩
   · exact ⟨14, by kernel_rfl⟩
   · exact ⟨15, by kernel_rfl⟩
 refine L0 <| Olk (hf := hix) B176 x (.agg #[.nilFunc, .nilFunc]) (some (ix, .agg #[.func (.func 41) #[] #[], .func (.func 42) #[] #[]])) <| Pl 3 <| L0 <| Oal #[.nilFunc, .nilFunc] fun g294 w295 hg296 B297 hu298 => L0 <| Osw B297 #[.func (.func 41) #[] #[], .func (.func 42) #[] #[]] fun w299 B300 hu301 => Pl 1 <| ng <| L0 <| Olw B300 <| Pl 1 <| ?_
 have U302 := ut0 hu19 hu24
 have U303 := u1 U302 hu28 (nr hg17)
 have U304 := u1 U303 hu33 (ni hu19.size hg22)
 have U305 := ut0 U304 hu38
 have U306 := ut0 U305 hu43
 have U307 := u1 U306 hu47 (ni U304.size hg36)
 have U308 := u1 U307 hu52 (ni U305.size hg41)
 have U309 := ut0 U308 hu57
 have U310 := u1 U309 hu66 (ni U308.size hg55)
 have U311 := u1 U310 hu71 (ni U308.size hg55)
 have U312 := u1 U311 hu75 (ni U308.size hg55)
 have U313 := u1 U312 hu79 (ni U308.size hg55)
 have U314 := u1 U313 hu91 (ni U308.size hg55)
 have U315 := u1 U314 hu96 (ni U308.size hg55)
 have U316 := u1 U315 hu100 (ni U308.size hg55)
 have U317 := u1 U316 hu104 (ni U308.size hg55)
 have U318 := u1 U317 hu108 (ni U308.size hg55)
 have U319 := u1 U318 hu112 (ni U308.size hg55)
 have U320 := u1 U319 hu116 (ni U308.size hg55)
 have U321 := u1 U320 hu132 (ni U308.size hg55)
 have U322 := u1 U321 hu137 (ni U308.size hg55)
 have U323 := u1 U322 hu141 (ni U308.size hg55)
 have U324 := u1 U323 hu145 (ni U308.size hg55)
 have U325 := u1 U324 hu149 (ni U308.size hg55)
 have U326 := u1 U325 hu169 (ni U308.size hg55)
 have U327 := u1 U326 hu174 (ni U308.size hg55)
 have U328 := u1 U327 hu177 (ni U308.size hg55)
 have U329 := ut0 U328 hu298
 have U330 := u1 U329 hu301 (ni U328.size hg296)
 have r331 := ub U330 B13
 refine L0 <| Osw r331 #[.func (.func 41) #[] #[], .func (.func 42) #[] #[]] fun w332 B333 hu334 => Pl 1 <| nt <| rt <| rct B333 (.bool true) <| ?_
 rw [hkf]
 have U335 := ut0 U205 hu298
 have U336 := u1 U335 hu301 (ni U205.size hg296)
 have U337 := u1 U336 hu334 (nr hg12)
 exact ⟨rfl, U337⟩
 obtain ⟨ix, hix⟩ : ∃ i, Instr.findNow (.int .u8) (.int .u8 x) (#[⟨.int .u8 1, .agg #[.func (.func 37) #[] #[], .func (.func 38) #[] #[]], 0⟩, ⟨.int .u8 2, .agg #[.func (.func 37) #[] #[], .func (.func 38) #[] #[]], 1⟩, ⟨.int .u8 5, .agg #[.func (.func 37) #[] #[], .func (.func 38) #[] #[]], 2⟩, ⟨.int .u8 15, .agg #[.func (.func 37) #[] #[], .func (.func 38) #[] #[]], 3⟩, ⟨.int .u8 3, .agg #[.func (.func 39) #[] #[], .func (.func 40) #[] #[]], 4⟩, ⟨.int .u8 4, .agg #[.func (.func 39) #[] #[], .func (.func 40) #[] #[]], 5⟩, ⟨.int .u8 6, .agg #[.func (.func 39) #[] #[], .func (.func 40) #[] #[]], 6⟩, ⟨.int .u8 16, .agg #[.func (.func 39) #[] #[], .func (.func 40) #[] #[]], 7⟩, ⟨.int .u8 22, .agg #[.func (.func 39) #[] #[], .func (.func 40) #[] #[]], 8⟩, ⟨.int .u8 23, .agg #[.func (.func 39) #[] #[], .func (.func 40) #[] #[]], 9⟩, ⟨.int .u8 24, .agg #[.func (.func 39) #[] #[], .func (.func 40) #[] #[]], 10⟩, ⟨.int .u8 7, .agg #[.func (.func 41) #[] #[], .func (.func 42) #[] #[]], 11⟩, ⟨.int .u8 8, .agg #[.func (.func 41) #[] #[], .func (.func 42) #[] #[]], 12⟩, ⟨.int .u8 11, .agg #[.func (.func 41) #[] #[], .func (.func 42) #[] #[]], 13⟩, ⟨.int .u8 12, .agg #[.func (.func 41) #[] #[], .func (.func 42) #[] #[]], 14⟩, ⟨.int .u8 17, .agg #[.func (.func 41) #[] #[], .func (.func 42) #[] #[]], 15⟩, ⟨.int .u8 20, .agg #[.func (.func 43) #[] #[], .func (.func 44) #[] #[]], 16⟩, ⟨.int .u8 21, .agg #[.func (.func 43) #[] #[], .func (.func 44) #[] #[]], 17⟩, ⟨.int .u8 43, .agg #[.func (.func 45) #[] #[], .func (.func 46) #[] #[]], 18⟩] : Array MapEntry).toList 0 = some (some (i, .agg #[.func (.func 43) #[] #[], .func (.func 44) #[] #[]])) := by
   rcases hk with rfl | rfl
   · exact ⟨16, by kernel_rfl⟩
   · exact ⟨17, by kernel_rfl⟩
 refine L0 <| Olk (hf := hix) B176 x (.agg #[.nilFunc, .nilFunc]) (some (ix, .agg #[.func (.func 43) #[] #[], .func (.func 44) #[] #[]])) <| Pl 3 <| L0 <| Oal #[.nilFunc, .nilFunc] fun g338 w339 hg340 B341 hu342 => L0 <| Osw B341 #[.func (.func 43) #[] #[], .func (.func 44) #[] #[]] fun w343 B344 hu345 => Pl 1 <| ng <| L0 <| Olw B344 <| Pl 1 <| ?_
 have U346 := ut0 hu19 hu24
 have U347 := u1 U346 hu28 (nr hg17)
 have U348 := u1 U347 hu33 (ni hu19.size hg22)
 have U349 := ut0 U348 hu38
 have U350 := ut0 U349 hu43
 have U351 := u1 U350 hu47 (ni U348.size hg36)
 have U352 := u1 U351 hu52 (ni U349.size hg41)
 have U353 := ut0 U352 hu57
 have U354 := u1 U353 hu66 (ni U352.size hg55)
 have U355 := u1 U354 hu71 (ni U352.size hg55)
 have U356 := u1 U355 hu75 (ni U352.size hg55)
 have U357 := u1 U356 hu79 (ni U352.size hg55)
 have U358 := u1 U357 hu91 (ni U352.size hg55)
 have U359 := u1 U358 hu96 (ni U352.size hg55)
 have U360 := u1 U359 hu100 (ni U352.size hg55)
 have U361 := u1 U360 hu104 (ni U352.size hg55)
 have U362 := u1 U361 hu108 (ni U352.size hg55)
 have U363 := u1 U362 hu112 (ni U352.size hg55)
 have U364 := u1 U363 hu116 (ni U352.size hg55)
 have U365 := u1 U364 hu132 (ni U352.size hg55)
 have U366 := u1 U365 hu137 (ni U352.size hg55)
 have U367 := u1 U366 hu141 (ni U352.size hg55)
 have U368 := u1 U367 hu145 (ni U352.size hg55)
 have U369 := u1 U368 hu149 (ni U352.size hg55)
 have U370 := u1 U369 hu169 (ni U352.size hg55)
 have U371 := u1 U370 hu174 (ni U352.size hg55)
 have U372 := u1 U371 hu177 (ni U352.size hg55)
 have U373 := ut0 U372 hu342
 have U374 := u1 U373 hu345 (ni U372.size hg340)
 have r375 := ub U374 B13
 refine L0 <| Osw r375 #[.func (.func 43) #[] #[], .func (.func 44) #[] #[]] fun w376 B377 hu378 => Pl 1 <| nt <| rt <| rct B377 (.bool true) <| ?_
 rw [hkf]
 have U379 := ut0 U205 hu342
 have U380 := u1 U379 hu345 (ni U205.size hg340)
 have U381 := u1 U380 hu378 (nr hg12)
 exact ⟨rfl, U381⟩
 obtain ⟨ix, hix⟩ : ∃ i, Instr.findNow (.int .u8) (.int .u8 x) (#[⟨.int .u8 1, .agg #[.func (.func 37) #[] #[], .func (.func 38) #[] #[]], 0⟩, ⟨.int .u8 2, .agg #[.func (.func 37) #[] #[], .func (.func 38) #[] #[]], 1⟩, ⟨.int .u8 5, .agg #[.func (.func 37) #[] #[], .func (.func 38) #[] #[]], 2⟩, ⟨.int .u8 15, .agg #[.func (.func 37) #[] #[], .func (.func 38) #[] #[]], 3⟩, ⟨.int .u8 3, .agg #[.func (.func 39) #[] #[], .func (.func 40) #[] #[]], 4⟩, ⟨.int .u8 4, .agg #[.func (.func 39) #[] #[], .func (.func 40) #[] #[]], 5⟩, ⟨.int .u8 6, .agg #[.func (.func 39) #[] #[], .func (.func 40) #[] #[]], 6⟩, ⟨.int .u8 16, .agg #[.func (.func 39) #[] #[], .func (.func 40) #[] #[]], 7⟩, ⟨.int .u8 22, .agg #[.func (.func 39) #[] #[], .func (.func 40) #[] #[]], 8⟩, ⟨.int .u8 23, .agg #[.func (.func 39) #[] #[], .func (.func 40) #[] #[]], 9⟩, ⟨.int .u8 24, .agg #[.func (.func 39) #[] #[], .func (.func 40) #[] #[]], 10⟩, ⟨.int .u8 7, .agg #[.func (.func 41) #[] #[], .func (.func 42) #[] #[]], 11⟩, ⟨.int .u8 8, .agg #[.func (.func 41) #[] #[], .func (.func 42) #[] #[]], 12⟩, ⟨.int .u8 11, .agg #[.func (.func 41) #[] #[], .func (.func 42) #[] #[]], 13⟩, ⟨.int .u8 12, .agg #[.func (.func 41) #[] #[], .func (.func 42) #[] #[]], 14⟩, ⟨.int .u8 17, .agg #[.func (.func 41) #[] #[], .func (.func 42) #[] #[]], 15⟩, ⟨.int .u8 20, .agg #[.func (.func 43) #[] #[], .func (.func 44) #[] #[]], 16⟩, ⟨.int .u8 21, .agg #[.func (.func 43) #[] #[], .func (.func 44) #[] #[]], 17⟩, ⟨.int .u8 43, .agg #[.func (.func 45) #[] #[], .func (.func 46) #[] #[]], 18⟩] : Array MapEntry).toList 0 = some (some (i, .agg #[.func (.func 45) #[] #[], .func (.func 46) #[] #[]])) := by
   rcases hk with rfl
   · exact ⟨18, by kernel_rfl⟩
 refine L0 <| Olk (hf := hix) B176 x (.agg #[.nilFunc, .nilFunc]) (some (ix, .agg #[.func (.func 45) #[] #[], .func (.func 46) #[] #[]])) <| Pl 3 <| L0 <| Oal #[.nilFunc, .nilFunc] fun g382 w383 hg384 B385 hu386 => L0 <| Osw B385 #[.func (.func 45) #[] #[], .func (.func 46) #[] #[]] fun w387 B388 hu389 => Pl 1 <| ng <| L0 <| Olw B388 <| Pl 1 <| ?_
 have U390 := ut0 hu19 hu24
 have U391 := u1 U390 hu28 (nr hg17)
 have U392 := u1 U391 hu33 (ni hu19.size hg22)
 have U393 := ut0 U392 hu38
 have U394 := ut0 U393 hu43
 have U395 := u1 U394 hu47 (ni U392.size hg36)
 have U396 := u1 U395 hu52 (ni U393.size hg41)
 have U397 := ut0 U396 hu57
 have U398 := u1 U397 hu66 (ni U396.size hg55)
 have U399 := u1 U398 hu71 (ni U396.size hg55)
 have U400 := u1 U399 hu75 (ni U396.size hg55)
 have U401 := u1 U400 hu79 (ni U396.size hg55)
 have U402 := u1 U401 hu91 (ni U396.size hg55)
 have U403 := u1 U402 hu96 (ni U396.size hg55)
 have U404 := u1 U403 hu100 (ni U396.size hg55)
 have U405 := u1 U404 hu104 (ni U396.size hg55)
 have U406 := u1 U405 hu108 (ni U396.size hg55)
 have U407 := u1 U406 hu112 (ni U396.size hg55)
 have U408 := u1 U407 hu116 (ni U396.size hg55)
 have U409 := u1 U408 hu132 (ni U396.size hg55)
 have U410 := u1 U409 hu137 (ni U396.size hg55)
 have U411 := u1 U410 hu141 (ni U396.size hg55)
 have U412 := u1 U411 hu145 (ni U396.size hg55)
 have U413 := u1 U412 hu149 (ni U396.size hg55)
 have U414 := u1 U413 hu169 (ni U396.size hg55)
 have U415 := u1 U414 hu174 (ni U396.size hg55)
 have U416 := u1 U415 hu177 (ni U396.size hg55)
 have U417 := ut0 U416 hu386
 have U418 := u1 U417 hu389 (ni U416.size hg384)
 have r419 := ub U418 B13
 refine L0 <| Osw r419 #[.func (.func 45) #[] #[], .func (.func 46) #[] #[]] fun w420 B421 hu422 => Pl 1 <| nt <| rt <| rct B421 (.bool true) <| ?_
 rw [hkf]
 have U423 := ut0 U205 hu386
 have U424 := u1 U423 hu389 (ni U205.size hg384)
 have U425 := u1 U424 hu422 (nr hg12)
 exact ⟨rfl, U425⟩
 refine L0 <| Olk (hf := (findNow_no _ _ (by intro e he; simp only [List.mem_cons, List.not_mem_nil, or_false] at he; obtain ⟨z1, z2, z5, z15, z3, z4, z6, z16, z22, z23, z24, z7, z8, z11, z12, z17, z20, z21, z43⟩ := hk; rcases he with rfl | rfl | rfl | rfl | rfl | rfl | rfl | rfl | rfl | rfl | rfl | rfl | rfl | rfl | rfl | rfl | rfl | rfl | rfl <;> exact ⟨_, rfl, fun h => by omega⟩))) B176 x (.agg #[.nilFunc, .nilFunc]) none <| Pl 3 <| L0 <| Oal #[.nilFunc, .nilFunc] fun g426 w427 hg428 B429 hu430 => L0 <| Osw B429 #[.nilFunc, .nilFunc] fun w431 B432 hu433 => Pl 1 <| ng <| L0 <| Olw B432 <| Pl 1 <| ?_
 have U434 := ut0 hu19 hu24
 have U435 := u1 U434 hu28 (nr hg17)
 have U436 := u1 U435 hu33 (ni hu19.size hg22)
 have U437 := ut0 U436 hu38
 have U438 := ut0 U437 hu43
 have U439 := u1 U438 hu47 (ni U436.size hg36)
 have U440 := u1 U439 hu52 (ni U437.size hg41)
 have U441 := ut0 U440 hu57
 have U442 := u1 U441 hu66 (ni U440.size hg55)
 have U443 := u1 U442 hu71 (ni U440.size hg55)
 have U444 := u1 U443 hu75 (ni U440.size hg55)
 have U445 := u1 U444 hu79 (ni U440.size hg55)
 have U446 := u1 U445 hu91 (ni U440.size hg55)
 have U447 := u1 U446 hu96 (ni U440.size hg55)
 have U448 := u1 U447 hu100 (ni U440.size hg55)
 have U449 := u1 U448 hu104 (ni U440.size hg55)
 have U450 := u1 U449 hu108 (ni U440.size hg55)
 have U451 := u1 U450 hu112 (ni U440.size hg55)
 have U452 := u1 U451 hu116 (ni U440.size hg55)
 have U453 := u1 U452 hu132 (ni U440.size hg55)
 have U454 := u1 U453 hu137 (ni U440.size hg55)
 have U455 := u1 U454 hu141 (ni U440.size hg55)
 have U456 := u1 U455 hu145 (ni U440.size hg55)
 have U457 := u1 U456 hu149 (ni U440.size hg55)
 have U458 := u1 U457 hu169 (ni U440.size hg55)
 have U459 := u1 U458 hu174 (ni U440.size hg55)
 have U460 := u1 U459 hu177 (ni U440.size hg55)
 have U461 := ut0 U460 hu430
 have U462 := u1 U461 hu433 (ni U460.size hg428)
 have r463 := ub U462 B13
 refine L0 <| Osw r463 #[.nilFunc, .nilFunc] fun w464 B465 hu466 => Pl 1 <| nt <| rt <| rct B465 (.bool false) <| ?_
 rw [hkf]
 have U467 := ut0 U205 hu430
 have U468 := u1 U467 hu433 (ni U205.size hg428)
 have U469 := u1 U468 hu466 (nr hg12)
 exact ⟨rfl, U469⟩
end Go.Proofs.Ytbaeecmamacphaa
namespace Go.Proofs.Ytbaeecmamacphaa
open Go.RowKit
theorem run_pairneq {ev : Operand → Value} {o : Oper} {x y : Operand} {t : TypeId} {a b : Int} {w : World} (ho : o.op = .binOp .neq 78 x y t)
    (hx : ev x = .agg #[.int .u8 a, .int .u8 b]) (hy : ev y = .agg #[.int .u8 0, .int .u8 0]) : (execOp ev o).run Try.prog w = .ok (.value (.bool ((a != 0) || (b != 0)))) w := by
  unfold execOp
  rw [ho]
  simp only [hx, hy]
  cases a with
  | ofNat a =>
    cases a with
    | zero =>
      cases b with
      | ofNat b =>
        cases b with
        | zero => kernel_rfl
        | succ b => kernel_rfl
      | negSucc b => kernel_rfl
    | succ a => kernel_rfl
  | negSucc a => kernel_rfl
def refM (a b : Int) : Msg := { Msg.zero with code := a, fail := b }
def pairB (a b : Int) : Bool := (((a != 0) || (b != 0)) && publicB a) && failureB b
set_option maxRecDepth 100000 in
set_option maxHeartbeats 4000000 in
theorem pairof_any {a b : Int} {w : World} : Calls Try.prog 36 #[.agg #[.int .u8 a, .int .u8 b]] w (PVal (.agg #[.int .u8 a, .int .u8 b, .int .u16 0, .int .u16 0, .int .u16 0, .int .u16 0, .int .u16 0, .int .u16 0, .int .u16 0, .int .u16 0, .int .u16 0, .int .u16 0, .slice none 0 0, .slice none 0 0, .slice none 0 0, .slice none 0 0, .int .u8 0, .int .u8 0, .int .u8 0, .int .u8 0, .int .u8 0, .slice none 0 0]) w) := by
 refine en 8 Try.func36 rfl <| sg <| L0 <| Obx #[.int .u8 a, .int .u8 b] fun g10 w11 hg12 B13 hu14 => L0 <| Oal mZ fun g15 w16 hg17 B18 hu19 => ng <| Pl 1 <| ?_
 have r20 := ub hu19 B13
 refine L0 <| Olb r20 0 <| Pl 1 <| L0 <| Olb r20 1 <| Pl 1 <| L0 <| Osw B18 (mG a b 0 0 0 0 0 0 0 0 0 0 nS nS nS nS 0 0 0 0 0 nS) fun w21 B22 hu23 => nt <| rt <| rc1 B22 <| ?_
 have U24 := ut0 hu14 hu19
 have U25 := u1 U24 hu23 (ni hu14.size hg17)
 exact ⟨rfl, U25⟩
set_option maxRecDepth 100000 in
set_option maxHeartbeats 4000000 in
theorem right_any {a b : Int} {w : World} : Calls Try.prog 47 #[.agg #[.int .u8 a, .int .u8 b]] w (PVal (.bool (pairB a b)) w) := by
 refine en 16 Try.func47 rfl <| sg <| L0 <| Obx #[.int .u8 a, .int .u8 b] fun g10 w11 hg12 B13 hu14 => Pl 1 <| ng <| L0 <| Olw B13 <| Pl 1 <| L0 <| Or_ (.bool ((a != 0) || (b != 0))) (run_pairneq rfl (by kernel_rfl) (by kernel_rfl)) <| Pl 1 <| bl 6 (((a != 0) || (b != 0))) (fun q15 => ?_) (fun q15 => ?_)
 refine Pl 1 <| L1 <| Olb B13 0 <| L1 <| Oc <| m1 (public_any (x := a) (w := _)) fun w16 hu17 => Pl 2 <| ?_
 have U18 := ut0 hu14 hu17
 refine bl 11 ((publicB a)) (fun q19 => ?_) (fun q19 => ?_)
 refine Pl 1 <| ?_
 have r20 := ub hu17 B13
 refine L1 <| Olb r20 1 <| L1 <| Oc <| m1 (failure_any (x := b) (w := _)) fun w21 hu22 => Pl 2 <| nt <| rt <| rr (.bool (failureB b)) <| ?_
 have hs : pairB a b = (failureB b) := by
   unfold pairB
   (try simp only [q15, q19, bs, if_true, if_false, decide_true, decide_false])
   done
 rw [hs]
 have U23 := ut0 U18 hu22
 exact ⟨rfl, U23⟩
 refine Pl 5 <| nt <| rt <| rr (.bool false) <| ?_
 have hs : pairB a b = false := by
   unfold pairB
   (try simp only [q15, q19, bs, if_true, if_false, decide_true, decide_false])
   done
 rw [hs]
 exact ⟨rfl, U18⟩
 have q15a := (or_f q15).1
 have q15b := (or_f q15).2
 have q15ap := eq_of_bnei q15a
 have q15bp := eq_of_bnei q15b
 refine Pl 10 <| nt <| rt <| rr (.bool false) <| ?_
 have hs : pairB a b = false := by
   unfold pairB
   (try simp only [q15, q15a, q15b, bs, if_true, if_false, decide_true, decide_false])
   done
 rw [hs]
 exact ⟨rfl, hu14⟩
def refP (b : List Int) : Msg × Int :=
  if (b.length : Int) == 0 then (Msg.zero, 2)
  else if decide (b.getD 0 0 < 128) then (Msg.zero, 4)
  else if !(publicB ((b.getD 0 0 - 128) % 256)) then (Msg.zero, 4)
  else if (b.length : Int) == 1 then (Msg.zero, 2)
  else if !(failureB (b.getD 1 0)) then (Msg.zero, 6)
  else if decide (2 < (b.length : Int)) then (Msg.zero, 3)
  else (refM ((b.getD 0 0 - 128) % 256) (b.getD 1 0), 0)
set_option maxRecDepth 100000 in
set_option maxHeartbeats 4000000 in
theorem ref_parse0 {m : Bool} {A : Option Addr} {cp : Nat} {b : List Int} {w : World} (hsl : RdB m w (.slice A b.length cp) b) (hb : b.length ≤ 1048576) :
    Calls Try.prog 23 #[.slice A b.length cp] w (PMsg (refP b) w) := by
 have hln : (b.length : Int) ≤ 1048576 := by omega
 refine en 49 Try.func23 rfl <| sg <| L0 <| Oal mZ fun g10 w11 hg12 B13 hu14 => Pl 1 <| nt <| sq <| bk <| sg <| Pl 4 <| nt <| ?_
 refine cb ((((b.length : Nat) : Int) == 0)) (fun q15 => ?_) (fun q15 => ?_)
 have q15p := eq_of_beqi q15
 refine sg <| Pl 1 <| L0 <| Osw B13 mZ fun w16 B17 hu18 => Pl 1 <| nt <| rt <| br <| tr <| rct B17 (.int .i64 2) <| ?_
 have hs : refP b = (Msg.zero, 2) := by
   unfold refP
   (try simp only [q15, bs, if_true, if_false, decide_true, decide_false, Bool.not_eq_true, reduceIte])
   all_goals rfl
 rw [hs]
 have U19 := u1 hu14 hu18 (nr hg12)
 exact bad_res U19
 have q15p := ne_of_beqi q15
 refine sg <| Pl 1 <| ?_
 have r20 := RdB.old hsl hu14
 refine x23 (RdB.at_ r20 0 (by omega)) fun b21 o22 hA23 hl24 hr25 => L0 <| Oix b.length 0 hA23 (by omega) <| L0 <| Old (p := ⟨b21, o22 + 0, none⟩) (v := .int .u8 (b.getD 0 0)) hl24 <| Pl 2 <| bl 14 ((decide ((b.getD 0 0) < 128))) (fun q26 => ?_) (fun q26 => ?_)
 have q26p := of_decide_eq_true q26
 refine Pl 8 <| nt <| c1 <| sg <| Pl 1 <| L0 <| Osw B13 mZ fun w27 B28 hu29 => Pl 1 <| nt <| rt <| br <| tr <| ?_
 refine rct B28 (.int .i64 4) <| ?_
 have hs : refP b = (Msg.zero, 4) := by
   unfold refP
   (try simp only [q15, q26, bs, if_true, if_false, decide_true, decide_false, Bool.not_eq_true, reduceIte])
   all_goals rfl
 rw [hs]
 have U30 := u1 hu14 hu29 (nr hg12)
 exact bad_res U30
 have q26p := of_decide_eq_false q26
 refine Pl 1 <| x23 (RdB.at_ r20 0 (by omega)) fun b31 o32 hA33 hl34 hr35 => L1 <| Oix b.length 0 hA33 (by omega) <| L1 <| Old (p := ⟨b31, o32 + 0, none⟩) (v := .int .u8 (b.getD 0 0)) hl34 <| Pl 1 <| L1 <| Oc <| m1 (public_any (x := (((b.getD 0 0) - 128) % 256)) (w := _)) fun w36 hu37 => Pl 3 <| nt <| ?_
 have U38 := ut0 hu14 hu37
 refine cb ((!(publicB (((b.getD 0 0) - 128) % 256)))) (fun q39 => ?_) (fun q39 => ?_)
 have q39n : (publicB (((b.getD 0 0) - 128) % 256)) = false := by simpa using q39
 refine sg <| Pl 1 <| ?_
 have r40 := ub hu37 B13
 refine L0 <| Osw r40 mZ fun w41 B42 hu43 => Pl 1 <| nt <| rt <| br <| tr <| rct B42 (.int .i64 4) <| ?_
 have hs : refP b = (Msg.zero, 4) := by
   unfold refP
   (try simp only [q15, q26, q39, q39n, bs, if_true, if_false, decide_true, decide_false, Bool.not_eq_true, reduceIte])
   all_goals rfl
 rw [hs]
 have U44 := u1 U38 hu43 (nr hg12)
 exact bad_res U44
 have q39n : (publicB (((b.getD 0 0) - 128) % 256)) = true := by simpa using q39
 refine sg <| Pl 4 <| nt <| cb ((((b.length : Nat) : Int) == 1)) (fun q45 => ?_) (fun q45 => ?_)
 have q45p := eq_of_beqi q45
 refine sg <| Pl 1 <| ?_
 have r46 := ub hu37 B13
 refine L0 <| Osw r46 mZ fun w47 B48 hu49 => Pl 1 <| nt <| rt <| br <| tr <| rct B48 (.int .i64 2) <| ?_
 have hs : refP b = (Msg.zero, 2) := by
   unfold refP
   (try simp only [q15, q26, q39, q39n, q45, bs, if_true, if_false, decide_true, decide_false, Bool.not_eq_true, reduceIte])
   all_goals rfl
 rw [hs]
 have U50 := u1 U38 hu49 (nr hg12)
 exact bad_res U50
 have q45p := ne_of_beqi q45
 refine sg <| Pl 1 <| ?_
 have r51 := RdB.old r20 hu37
 refine x23 (RdB.at_ r51 1 (by omega)) fun b52 o53 hA54 hl55 hr56 => L0 <| Oix b.length 1 hA54 (by omega) <| L0 <| Old (p := ⟨b52, o53 + 1, none⟩) (v := .int .u8 (b.getD 1 0)) hl55 <| L0 <| Oc <| m1 (failure_any (x := (b.getD 1 0)) (w := _)) fun w57 hu58 => Pl 2 <| nt <| ?_
 have U59 := ut0 U38 hu58
 refine cb ((!(failureB (b.getD 1 0)))) (fun q60 => ?_) (fun q60 => ?_)
 have q60n : (failureB (b.getD 1 0)) = false := by simpa using q60
 refine sg <| Pl 1 <| ?_
 have U61 := ut0 hu37 hu58
 have r62 := ub U61 B13
 refine L0 <| Osw r62 mZ fun w63 B64 hu65 => Pl 1 <| nt <| rt <| br <| tr <| rct B64 (.int .i64 6) <| ?_
 have hs : refP b = (Msg.zero, 6) := by
   unfold refP
   (try simp only [q15, q26, q39, q39n, q45, q60, q60n, bs, if_true, if_false, decide_true, decide_false, Bool.not_eq_true, reduceIte])
   all_goals rfl
 rw [hs]
 have U66 := u1 U59 hu65 (nr hg12)
 exact bad_res U66
 have q60n : (failureB (b.getD 1 0)) = true := by simpa using q60
 refine sg <| Pl 4 <| nt <| cb ((decide (2 < ((b.length : Nat) : Int)))) (fun q67 => ?_) (fun q67 => ?_)
 have q67p := of_decide_eq_true q67
 refine sg <| Pl 1 <| ?_
 have U68 := ut0 hu37 hu58
 have r69 := ub U68 B13
 refine L0 <| Osw r69 mZ fun w70 B71 hu72 => Pl 1 <| nt <| rt <| br <| tr <| rct B71 (.int .i64 3) <| ?_
 have hs : refP b = (Msg.zero, 3) := by
   unfold refP
   (try simp only [q15, q26, q39, q39n, q45, q60, q60n, q67, bs, if_true, if_false, decide_true, decide_false, Bool.not_eq_true, reduceIte])
   all_goals rfl
 rw [hs]
 have U73 := u1 U59 hu72 (nr hg12)
 exact bad_res U73
 have q67p := of_decide_eq_false q67
 refine sk <| bn <| tn <| sq <| Rg 11 (fun w' => True) fun w154 hu155 => hld trivial fun hS156 => Rt 0 hS156 <| Rt 4 hS156 <| ?_
 refine R2 1 5 rfl rfl ?_ ?_
 have U157 := ut0 hu58 hu155
 have r158 := RdB.old r51 U157
 refine x23 (RdB.at_ r158 0 (by omega)) fun b159 o160 hA161 hl162 hr163 =>  Oix b.length 0 hA161 (by omega) <| hld trivial fun hS164 => ?_
 refine R2 2 5 rfl rfl ?_ ?_
 refine  Old (p := ⟨b159, o160 + 0, none⟩) (v := .int .u8 (b.getD 0 0)) hl162 <| hld trivial fun hS165 => Rt 3 hS165 <| x23 (RdB.at_ r158 1 (by omega)) fun b166 o167 hA168 hl169 hr170 => R0 5 rfl <| Oix b.length 1 hA168 (by omega) <| hld trivial fun hS171 => R0 6 rfl <| Old (p := ⟨b166, o167 + 1, none⟩) (v := .int .u8 (b.getD 1 0)) hl169 <| hld trivial fun hS172 => Rt 7 hS172 <| R0 8 rfl <| Oc <| m1 (pairof_any (a := (((b.getD 0 0) - 128) % 256)) (b := (b.getD 1 0)) (w := _)) fun w173 hu174 => hld trivial fun hS175 => ?_
 have U176 := ut0 hu37 hu58
 have U177 := ut0 U176 hu155
 have U178 := ut0 U177 hu174
 have r179 := ub U178 B13
 refine R0 9 rfl <| Osw r179 (mG (((b.getD 0 0) - 128) % 256) (b.getD 1 0) 0 0 0 0 0 0 0 0 0 0 nS nS nS nS 0 0 0 0 0 nS) fun w180 B181 hu182 => hld trivial fun hS183 => Rt 10 hS183 <| re <| tn <| rt <| rct B181 (.int .i64 0) <| ?_
 have hs : refP b = ((Msg.mk (((b.getD 0 0) - 128) % 256) (b.getD 1 0) 0 0 0 0 0 0 0 0 0 0 [] [] [] [] 0 0 0 0 0 []), 0) := by
   unfold refP
   (try simp only [q15, q26, q39, q39n, q45, q60, q60n, q67, bs, if_true, if_false, decide_true, decide_false, Bool.not_eq_true, reduceIte])
   all_goals rfl
 rw [hs]
 have U184 := ut0 U59 hu155
 have U185 := ut0 U184 hu174
 have U186 := u1 U185 hu182 (nr hg12)
 exact ⟨_, rfl, ⟨_, _, _, _, _, rfl, RdG.nil .., RdG.nil .., RdG.nil .., RdG.nil .., RdG.nil .., ⟨(b8 (x := (((b.getD 0 0) - 128) % 256)) (by omega)), (b8 (x := (b.getD 1 0)) (by omega)), (b16 (x := 0) (by omega)), (b16 (x := 0) (by omega)), (b16 (x := 0) (by omega)), (b16 (x := 0) (by omega)), (b16 (x := 0) (by omega)), (b16 (x := 0) (by omega)), (b16 (x := 0) (by omega)), (b16 (x := 0) (by omega)), (b16 (x := 0) (by omega)), (b16 (x := 0) (by omega)), (b8 (x := 0) (by omega)), (b8 (x := 0) (by omega)), (b8 (x := 0) (by omega)), (b8 (x := 0) (by omega)), (b8 (x := 0) (by omega))⟩⟩, U186⟩
 refine x23 (RdB.at_ r158 1 (by omega)) fun b187 o188 hA189 hl190 hr191 =>  Oix b.length 1 hA189 (by omega) <| hld trivial fun hS192 => ?_
 refine R2 2 6 rfl rfl ?_ ?_
 refine  Old (p := ⟨b159, o160 + 0, none⟩) (v := .int .u8 (b.getD 0 0)) hl162 <| hld trivial fun hS193 => Rt 3 hS193 <| R0 6 rfl <| Old (p := ⟨b187, o188 + 1, none⟩) (v := .int .u8 (b.getD 1 0)) hl190 <| hld trivial fun hS194 => Rt 7 hS194 <| R0 8 rfl <| Oc <| m1 (pairof_any (a := (((b.getD 0 0) - 128) % 256)) (b := (b.getD 1 0)) (w := _)) fun w195 hu196 => hld trivial fun hS197 => ?_
 have U198 := ut0 hu37 hu58
 have U199 := ut0 U198 hu155
 have U200 := ut0 U199 hu196
 have r201 := ub U200 B13
 refine R0 9 rfl <| Osw r201 (mG (((b.getD 0 0) - 128) % 256) (b.getD 1 0) 0 0 0 0 0 0 0 0 0 0 nS nS nS nS 0 0 0 0 0 nS) fun w202 B203 hu204 => hld trivial fun hS205 => Rt 10 hS205 <| re <| tn <| rt <| rct B203 (.int .i64 0) <| ?_
 have hs : refP b = ((Msg.mk (((b.getD 0 0) - 128) % 256) (b.getD 1 0) 0 0 0 0 0 0 0 0 0 0 [] [] [] [] 0 0 0 0 0 []), 0) := by
   unfold refP
   (try simp only [q15, q26, q39, q39n, q45, q60, q60n, q67, bs, if_true, if_false, decide_true, decide_false, Bool.not_eq_true, reduceIte])
   all_goals rfl
 rw [hs]
 have U206 := ut0 U59 hu155
 have U207 := ut0 U206 hu196
 have U208 := u1 U207 hu204 (nr hg12)
 exact ⟨_, rfl, ⟨_, _, _, _, _, rfl, RdG.nil .., RdG.nil .., RdG.nil .., RdG.nil .., RdG.nil .., ⟨(b8 (x := (((b.getD 0 0) - 128) % 256)) (by omega)), (b8 (x := (b.getD 1 0)) (by omega)), (b16 (x := 0) (by omega)), (b16 (x := 0) (by omega)), (b16 (x := 0) (by omega)), (b16 (x := 0) (by omega)), (b16 (x := 0) (by omega)), (b16 (x := 0) (by omega)), (b16 (x := 0) (by omega)), (b16 (x := 0) (by omega)), (b16 (x := 0) (by omega)), (b16 (x := 0) (by omega)), (b8 (x := 0) (by omega)), (b8 (x := 0) (by omega)), (b8 (x := 0) (by omega)), (b8 (x := 0) (by omega)), (b8 (x := 0) (by omega))⟩⟩, U208⟩
 refine  Old (p := ⟨b187, o188 + 1, none⟩) (v := .int .u8 (b.getD 1 0)) hl190 <| hld trivial fun hS209 => R0 2 rfl <| Old (p := ⟨b159, o160 + 0, none⟩) (v := .int .u8 (b.getD 0 0)) hl162 <| hld trivial fun hS210 => Rt 3 hS210 <| Rt 7 hS210 <| R0 8 rfl <| Oc <| m1 (pairof_any (a := (((b.getD 0 0) - 128) % 256)) (b := (b.getD 1 0)) (w := _)) fun w211 hu212 => hld trivial fun hS213 => ?_
 have U214 := ut0 hu37 hu58
 have U215 := ut0 U214 hu155
 have U216 := ut0 U215 hu212
 have r217 := ub U216 B13
 refine R0 9 rfl <| Osw r217 (mG (((b.getD 0 0) - 128) % 256) (b.getD 1 0) 0 0 0 0 0 0 0 0 0 0 nS nS nS nS 0 0 0 0 0 nS) fun w218 B219 hu220 => hld trivial fun hS221 => Rt 10 hS221 <| re <| tn <| rt <| rct B219 (.int .i64 0) <| ?_
 have hs : refP b = ((Msg.mk (((b.getD 0 0) - 128) % 256) (b.getD 1 0) 0 0 0 0 0 0 0 0 0 0 [] [] [] [] 0 0 0 0 0 []), 0) := by
   unfold refP
   (try simp only [q15, q26, q39, q39n, q45, q60, q60n, q67, bs, if_true, if_false, decide_true, decide_false, Bool.not_eq_true, reduceIte])
   all_goals rfl
 rw [hs]
 have U222 := ut0 U59 hu155
 have U223 := ut0 U222 hu212
 have U224 := u1 U223 hu220 (nr hg12)
 exact ⟨_, rfl, ⟨_, _, _, _, _, rfl, RdG.nil .., RdG.nil .., RdG.nil .., RdG.nil .., RdG.nil .., ⟨(b8 (x := (((b.getD 0 0) - 128) % 256)) (by omega)), (b8 (x := (b.getD 1 0)) (by omega)), (b16 (x := 0) (by omega)), (b16 (x := 0) (by omega)), (b16 (x := 0) (by omega)), (b16 (x := 0) (by omega)), (b16 (x := 0) (by omega)), (b16 (x := 0) (by omega)), (b16 (x := 0) (by omega)), (b16 (x := 0) (by omega)), (b16 (x := 0) (by omega)), (b16 (x := 0) (by omega)), (b8 (x := 0) (by omega)), (b8 (x := 0) (by omega)), (b8 (x := 0) (by omega)), (b8 (x := 0) (by omega)), (b8 (x := 0) (by omega))⟩⟩, U224⟩
 have U225 := ut0 hu58 hu155
 have r226 := RdB.old r51 U225
 refine x23 (RdB.at_ r226 1 (by omega)) fun b227 o228 hA229 hl230 hr231 =>  Oix b.length 1 hA229 (by omega) <| hld trivial fun hS232 => ?_
 refine R2 1 6 rfl rfl ?_ ?_
 refine x23 (RdB.at_ r226 0 (by omega)) fun b233 o234 hA235 hl236 hr237 =>  Oix b.length 0 hA235 (by omega) <| hld trivial fun hS238 => ?_
 refine R2 2 6 rfl rfl ?_ ?_
 refine  Old (p := ⟨b233, o234 + 0, none⟩) (v := .int .u8 (b.getD 0 0)) hl236 <| hld trivial fun hS239 => Rt 3 hS239 <| R0 6 rfl <| Old (p := ⟨b227, o228 + 1, none⟩) (v := .int .u8 (b.getD 1 0)) hl230 <| hld trivial fun hS240 => Rt 7 hS240 <| R0 8 rfl <| Oc <| m1 (pairof_any (a := (((b.getD 0 0) - 128) % 256)) (b := (b.getD 1 0)) (w := _)) fun w241 hu242 => hld trivial fun hS243 => ?_
 have U244 := ut0 hu37 hu58
 have U245 := ut0 U244 hu155
 have U246 := ut0 U245 hu242
 have r247 := ub U246 B13
 refine R0 9 rfl <| Osw r247 (mG (((b.getD 0 0) - 128) % 256) (b.getD 1 0) 0 0 0 0 0 0 0 0 0 0 nS nS nS nS 0 0 0 0 0 nS) fun w248 B249 hu250 => hld trivial fun hS251 => Rt 10 hS251 <| re <| tn <| rt <| rct B249 (.int .i64 0) <| ?_
 have hs : refP b = ((Msg.mk (((b.getD 0 0) - 128) % 256) (b.getD 1 0) 0 0 0 0 0 0 0 0 0 0 [] [] [] [] 0 0 0 0 0 []), 0) := by
   unfold refP
   (try simp only [q15, q26, q39, q39n, q45, q60, q60n, q67, bs, if_true, if_false, decide_true, decide_false, Bool.not_eq_true, reduceIte])
   all_goals rfl
 rw [hs]
 have U252 := ut0 U59 hu155
 have U253 := ut0 U252 hu242
 have U254 := u1 U253 hu250 (nr hg12)
 exact ⟨_, rfl, ⟨_, _, _, _, _, rfl, RdG.nil .., RdG.nil .., RdG.nil .., RdG.nil .., RdG.nil .., ⟨(b8 (x := (((b.getD 0 0) - 128) % 256)) (by omega)), (b8 (x := (b.getD 1 0)) (by omega)), (b16 (x := 0) (by omega)), (b16 (x := 0) (by omega)), (b16 (x := 0) (by omega)), (b16 (x := 0) (by omega)), (b16 (x := 0) (by omega)), (b16 (x := 0) (by omega)), (b16 (x := 0) (by omega)), (b16 (x := 0) (by omega)), (b16 (x := 0) (by omega)), (b16 (x := 0) (by omega)), (b8 (x := 0) (by omega)), (b8 (x := 0) (by omega)), (b8 (x := 0) (by omega)), (b8 (x := 0) (by omega)), (b8 (x := 0) (by omega))⟩⟩, U254⟩
 refine  Old (p := ⟨b227, o228 + 1, none⟩) (v := .int .u8 (b.getD 1 0)) hl230 <| hld trivial fun hS255 => R0 2 rfl <| Old (p := ⟨b233, o234 + 0, none⟩) (v := .int .u8 (b.getD 0 0)) hl236 <| hld trivial fun hS256 => Rt 3 hS256 <| Rt 7 hS256 <| R0 8 rfl <| Oc <| m1 (pairof_any (a := (((b.getD 0 0) - 128) % 256)) (b := (b.getD 1 0)) (w := _)) fun w257 hu258 => hld trivial fun hS259 => ?_
 have U260 := ut0 hu37 hu58
 have U261 := ut0 U260 hu155
 have U262 := ut0 U261 hu258
 have r263 := ub U262 B13
 refine R0 9 rfl <| Osw r263 (mG (((b.getD 0 0) - 128) % 256) (b.getD 1 0) 0 0 0 0 0 0 0 0 0 0 nS nS nS nS 0 0 0 0 0 nS) fun w264 B265 hu266 => hld trivial fun hS267 => Rt 10 hS267 <| re <| tn <| rt <| rct B265 (.int .i64 0) <| ?_
 have hs : refP b = ((Msg.mk (((b.getD 0 0) - 128) % 256) (b.getD 1 0) 0 0 0 0 0 0 0 0 0 0 [] [] [] [] 0 0 0 0 0 []), 0) := by
   unfold refP
   (try simp only [q15, q26, q39, q39n, q45, q60, q60n, q67, bs, if_true, if_false, decide_true, decide_false, Bool.not_eq_true, reduceIte])
   all_goals rfl
 rw [hs]
 have U268 := ut0 U59 hu155
 have U269 := ut0 U268 hu258
 have U270 := u1 U269 hu266 (nr hg12)
 exact ⟨_, rfl, ⟨_, _, _, _, _, rfl, RdG.nil .., RdG.nil .., RdG.nil .., RdG.nil .., RdG.nil .., ⟨(b8 (x := (((b.getD 0 0) - 128) % 256)) (by omega)), (b8 (x := (b.getD 1 0)) (by omega)), (b16 (x := 0) (by omega)), (b16 (x := 0) (by omega)), (b16 (x := 0) (by omega)), (b16 (x := 0) (by omega)), (b16 (x := 0) (by omega)), (b16 (x := 0) (by omega)), (b16 (x := 0) (by omega)), (b16 (x := 0) (by omega)), (b16 (x := 0) (by omega)), (b16 (x := 0) (by omega)), (b8 (x := 0) (by omega)), (b8 (x := 0) (by omega)), (b8 (x := 0) (by omega)), (b8 (x := 0) (by omega)), (b8 (x := 0) (by omega))⟩⟩, U270⟩
 refine  Old (p := ⟨b227, o228 + 1, none⟩) (v := .int .u8 (b.getD 1 0)) hl230 <| hld trivial fun hS271 => x23 (RdB.at_ r226 0 (by omega)) fun b272 o273 hA274 hl275 hr276 => R0 1 rfl <| Oix b.length 0 hA274 (by omega) <| hld trivial fun hS277 => R0 2 rfl <| Old (p := ⟨b272, o273 + 0, none⟩) (v := .int .u8 (b.getD 0 0)) hl275 <| hld trivial fun hS278 => Rt 3 hS278 <| Rt 7 hS278 <| R0 8 rfl <| Oc <| m1 (pairof_any (a := (((b.getD 0 0) - 128) % 256)) (b := (b.getD 1 0)) (w := _)) fun w279 hu280 => hld trivial fun hS281 => ?_
 have U282 := ut0 hu37 hu58
 have U283 := ut0 U282 hu155
 have U284 := ut0 U283 hu280
 have r285 := ub U284 B13
 refine R0 9 rfl <| Osw r285 (mG (((b.getD 0 0) - 128) % 256) (b.getD 1 0) 0 0 0 0 0 0 0 0 0 0 nS nS nS nS 0 0 0 0 0 nS) fun w286 B287 hu288 => hld trivial fun hS289 => Rt 10 hS289 <| re <| tn <| rt <| rct B287 (.int .i64 0) <| ?_
 have hs : refP b = ((Msg.mk (((b.getD 0 0) - 128) % 256) (b.getD 1 0) 0 0 0 0 0 0 0 0 0 0 [] [] [] [] 0 0 0 0 0 []), 0) := by
   unfold refP
   (try simp only [q15, q26, q39, q39n, q45, q60, q60n, q67, bs, if_true, if_false, decide_true, decide_false, Bool.not_eq_true, reduceIte])
   all_goals rfl
 rw [hs]
 have U290 := ut0 U59 hu155
 have U291 := ut0 U290 hu280
 have U292 := u1 U291 hu288 (nr hg12)
 exact ⟨_, rfl, ⟨_, _, _, _, _, rfl, RdG.nil .., RdG.nil .., RdG.nil .., RdG.nil .., RdG.nil .., ⟨(b8 (x := (((b.getD 0 0) - 128) % 256)) (by omega)), (b8 (x := (b.getD 1 0)) (by omega)), (b16 (x := 0) (by omega)), (b16 (x := 0) (by omega)), (b16 (x := 0) (by omega)), (b16 (x := 0) (by omega)), (b16 (x := 0) (by omega)), (b16 (x := 0) (by omega)), (b16 (x := 0) (by omega)), (b16 (x := 0) (by omega)), (b16 (x := 0) (by omega)), (b16 (x := 0) (by omega)), (b8 (x := 0) (by omega)), (b8 (x := 0) (by omega)), (b8 (x := 0) (by omega)), (b8 (x := 0) (by omega)), (b8 (x := 0) (by omega))⟩⟩, U292⟩
theorem ref_parse {m : Bool} {v : Value} {b : List Int} {w : World} (h : RdB m w v b) (hb : b.length ≤ 1048576) : Calls Try.prog 23 #[v] w (PMsg (refP b) w) := by
  obtain ⟨A, cp, rfl, _, _⟩ := h.shape
  exact ref_parse0 h hb
end Go.Proofs.Ytbaeecmamacphaa
namespace Go.Proofs.Ytbaeecmamacphaa
open Go.RowKit
structure RegSt (w W : World) (bc bm g gm : Nat) (c : Cur) (cs : Array Value) : Prop where
  hc : CurAt W g c
  hm : MsgB W gm cs
  k0 : W.cell? ⟨bc, 0, none⟩ = some (.pointer (some ⟨g, 0, none⟩))
  k1 : W.cell? ⟨bm, 0, none⟩ = some (.pointer (some ⟨gm, 0, none⟩))
  cg : bc ≠ g
  cm : bc ≠ gm
  mg : bm ≠ g
  mm : bm ≠ gm
  ne : g ≠ gm
  u : Upd [g, gm] w W
theorem RegSt.self {w W : World} {bc bm g gm : Nat} {c : Cur} {cs : Array Value} (h : RegSt w W bc bm g gm c cs) : RegSt W W bc bm g gm c cs :=
  ⟨h.hc, h.hm, h.k0, h.k1, h.cg, h.cm, h.mg, h.mm, h.ne, Upd.refl _ _⟩
theorem RegSt.old {w W W' : World} {bc bm g gm : Nat} {c : Cur} {cs : Array Value} (h : RegSt w W bc bm g gm c cs) (hu : Upd [] W W') : RegSt w W' bc bm g gm c cs :=
  ⟨h.hc.old hu, h.hm.upd hu (by simp), hu.cell (by simp) h.k0, hu.cell (by simp) h.k1, h.cg, h.cm, h.mg, h.mm, h.ne, h.u.step hu⟩
theorem RegSt.drew {w W : World} {bc bm g gm : Nat} {c : Cur} {cs : Array Value} (h : RegSt w W bc bm g gm c cs) : RegSt w W.drew bc bm g gm c cs := h.old (Upd.refl [] W).drew
theorem RegSt.call {w W w1 : World} {bc bm g gm : Nat} {c c1 : Cur} {cs : Array Value} (h : RegSt w W bc bm g gm c cs) (hc1 : CurAt w1 g c1) (hu : Upd [g] W w1) : RegSt w w1 bc bm g gm c1 cs :=
  ⟨hc1, h.hm.upd hu (by simpa using h.ne.symm), hu.cell (by simpa using h.cg) h.k0, hu.cell (by simpa using h.mg) h.k1, h.cg, h.cm, h.mg, h.mm, h.ne, h.u.trans' hu fun x hx => by simp at hx; subst hx; simp⟩
theorem RegSt.store {w W : World} {bc bm g gm : Nat} {c : Cur} {cs : Array Value} (h : RegSt w W bc bm g gm c cs) (i : Nat) (u : Value) : RegSt w (W.setCell ⟨gm, i, none⟩ u) bc bm g gm c (cs.setIfInBounds i u) := by
  have hu : Upd [gm] W (W.setCell ⟨gm, i, none⟩ u) := (Upd.refl [gm] W).setCell (p := ⟨gm, i, none⟩) (.inl (by simp)) u
  exact ⟨h.hc.setMsg h.hm i u, h.hm.set i u, hu.cell (by simpa using h.cm) h.k0, hu.cell (by simpa using h.mm) h.k1, h.cg, h.cm, h.mg, h.mm, h.ne, h.u.trans' hu fun x hx => by simp at hx; subst hx; simp⟩
theorem RegSt.both {w W w1 : World} {bc bm g gm : Nat} {c c1 : Cur} {cs cs1 : Array Value} (h : RegSt w W bc bm g gm c cs) (hc1 : CurAt w1 g c1) (hm1 : MsgB w1 gm cs1) (hu : Upd [g, gm] W w1) : RegSt w w1 bc bm g gm c1 cs1 :=
  ⟨hc1, hm1, hu.cell (by simpa using ⟨h.cg, h.cm⟩) h.k0, hu.cell (by simpa using ⟨h.mg, h.mm⟩) h.k1, h.cg, h.cm, h.mg, h.mm, h.ne, h.u.trans hu⟩
theorem RegSt.post {w W : World} {bc bm g gm : Nat} {c : Cur} {cs : Array Value} (h : RegSt w W bc bm g gm c cs) : PForm g gm c cs w (.returned (.tuple #[])) W := ⟨rfl, h.hc, h.hm, h.u⟩
def rspanC (c : Cur) (a most : Int) : Cur := ((c.wordsC 1).need (decide (1 ≤ c.wordV) && decide (c.wordV ≤ most)) 5).need (within a c.wordV) 7
set_option maxRecDepth 100000 in
set_option maxHeartbeats 1000000 in
theorem rspan_any {g : Nat} {c : Cur} {w : World} {a most : Int} (hc : CurAt w g c) (ha : 0 ≤ a ∧ a < 65536) :
    Calls Try.prog 85 #[.pointer (some ⟨g, 0, none⟩), .int .u16 a, .int .i64 most] w (PByte g .i64 65536 c.wordV (rspanC c a most) w) := by
  have hr := hc.wordV
  have hpost : ∀ W, CurAt W g (rspanC c a most) → Upd [g] w W → PByte g .i64 65536 c.wordV (rspanC c a most) w (.returned (.int .i64 c.wordV)) W := fun W h1 h2 => ⟨rfl, h1, h2, hr⟩
  revert hpost
  generalize PByte g .i64 65536 c.wordV (rspanC c a most) w = P
  unfold rspanC
  intro hpost
  have hword := word_any hc
  revert hpost hword hr
  generalize c.wordV = n
  generalize c.wordsC 1 = c1
  intro hr hpost hword
  have hwn : IntKind.i64.wrap n = n := IntWalk.i64_in _ (by omega)
  replace hword := Lib.hid hword
  replace hpost := Lib.hid hpost
  by_cases h1 : 1 ≤ n
  · have hq : (decide (1 ≤ n) && decide (n ≤ most)) = decide (n ≤ most) := by simp [h1]
    rw [hq] at hpost
    clear hq
    go_enter Try.func85, Try.ntmps85
    have tok1_0 : True := trivial
    have tok1_1 : True := trivial
    have tok1_2 : True := trivial
    have tok1_3 : True := trivial
    go_wp2_with (first | (have _t := tok1_0; go_at_call 29; refine hword.out.mono ?_; rintro e w1 ⟨rfl, hc1, hu1, _⟩; clear _t tok1_0) | (have _t := tok1_1; go_at_call 51; refine (need_any _ 5 hc1).mono ?_; rintro e w2 ⟨rfl, hc2, hu2⟩; clear _t tok1_1) | (have _t := tok1_2; go_at_call 108; refine (within_any ha).mono ?_; rintro e w3 ⟨rfl, rfl⟩; clear _t tok1_2) | (have _t := tok1_3; go_at_call 51; refine (need_any _ 7 hc2).mono ?_; rintro e w4 ⟨rfl, hc4, hu4⟩; clear _t tok1_3))
    try go_ret
    exact hpost.out _ hc4 ((hu1.trans hu2).trans hu4)
  · obtain rfl : n = 0 := by omega
    have hq : (decide ((1 : Int) ≤ 0) && decide ((0 : Int) ≤ most)) = false := by simp
    rw [hq] at hpost
    clear hq h1
    go_enter Try.func85, Try.ntmps85
    have tok2_0 : True := trivial
    have tok2_1 : True := trivial
    have tok2_2 : True := trivial
    have tok2_3 : True := trivial
    go_wp2_with (first | (have _t := tok2_0; go_at_call 29; refine hword.out.mono ?_; rintro e w1 ⟨rfl, hc1, hu1, _⟩; clear _t tok2_0) | (have _t := tok2_1; go_at_call 51; refine (need_any _ 5 hc1).mono ?_; rintro e w2 ⟨rfl, hc2, hu2⟩; clear _t tok2_1) | (have _t := tok2_2; go_at_call 108; refine (within_any ha).mono ?_; rintro e w3 ⟨rfl, rfl⟩; clear _t tok2_2) | (have _t := tok2_3; go_at_call 51; refine (need_any _ 7 hc2).mono ?_; rintro e w4 ⟨rfl, hc4, hu4⟩; clear _t tok2_3))
    try go_ret
    exact hpost.out _ hc4 ((hu1.trans hu2).trans hu4)
def countedC1 (c : Cur) (n : Int) : Cur := (c.bytesC 1).need (c.byteV == 2 * n) 5
set_option maxRecDepth 100000 in
set_option maxHeartbeats 1000000 in
theorem counted_any {g : Nat} {c : Cur} {w : World} {n : Int} (hc : CurAt w g c) (hn : 0 ≤ n ∧ n < 65536) :
    Calls Try.prog 90 #[.pointer (some ⟨g, 0, none⟩), .int .i64 n] w (PWords g (countedC1 c n) n w) := by
  have hr := hc.byteV
  have hpost : ∀ W w1 v, CurAt W g ((countedC1 c n).wordsC n) → OwnW w1.heap.size W v ((countedC1 c n).wordsR n) → Upd [g] w w1 → Upd [g] w1 W → PWords g (countedC1 c n) n w (.returned v) W := fun W w1 v h1 h2 h3 h4 => ⟨v, rfl, OwnG.weaken h2 h3.size, h1, h3.trans h4⟩
  revert hpost
  generalize PWords g (countedC1 c n) n w = P
  unfold countedC1
  intro hpost
  have hbyte := byte_any hc
  revert hpost hbyte hr
  generalize c.byteV = k
  generalize c.bytesC 1 = c1
  intro hr hpost hbyte
  have hwk : IntKind.i64.wrap k = k := IntWalk.i64_in _ (by omega)
  have hwn : IntKind.i64.wrap (2 * n) = 2 * n := IntWalk.i64_in _ (by omega)
  replace hbyte := Lib.hid hbyte
  replace hpost := Lib.hid hpost
  go_enter Try.func90, Try.ntmps90
  have tok3_0 : True := trivial
  have tok3_1 : True := trivial
  have tok3_2 : True := trivial
  go_wp2_with (first | (have _t := tok3_0; go_at_call 30; refine hbyte.out.mono ?_; rintro e w1 ⟨rfl, hc1, hu1, _⟩; clear _t tok3_0) | (have _t := tok3_1; go_at_call 51; refine (need_any _ 5 hc1).mono ?_; rintro e w2 ⟨rfl, hc2, hu2⟩; clear _t tok3_1) | (have _t := tok3_2; go_at_call 50; refine (words_any hc2).mono ?_; rintro e w3 ⟨v, rfl, ho3, hc3, hu3⟩; clear _t tok3_2))
  try go_ret
  exact hpost.out _ _ _ hc3 ho3 (hu1.trans hu2) hu3
end Go.Proofs.Ytbaeecmamacphaa
