/- Contracts of functions, part KA2. -/
import Derived.Test.YtbaeecmamacphaaKA1
import Derived.Laws.BytesArg
import Derived.Orders
import Derived.Stop.BytesEq
import Derived.Laws.EntriesVeiled
set_option linter.unusedVariables false
set_option linter.unusedSimpArgs false
namespace Go.Proofs.Ytbaeecmamacphaa
open Go.RowKit
structure WL (P : Program) (ops : Array Oper) (Q : Exit → Act → World → Prop) (l : List Oper) (a : Act) (w : World) : Prop where
  out : wpList P ops Q l a w
structure OW (P : Program) (o : Oper) (a : Act) (w : World) (K : Act → World → Prop) (Q : Exit → Act → World → Prop) : Prop where
  out : o.wp P a w K Q
structure WA (P : Program) (ops : Array Oper) (Q : Exit → Act → World → Prop) (S : World → Prop) (n : Nat) (l : Array Bool) (a : Act) (w : World) : Prop where
  out : wpAnyH P .any ops Q S n l a w
theorem ow_next {P : Program} {o : Oper} {a : Act} {w : World} {K K' : Act → World → Prop} {Q : Exit → Act → World → Prop} (h : OW P o a w K Q) (k : ∀ a w, K a w → K' a w) : o.wp P a w K' Q := Oper.wp_mono k h.out
theorem bool_dich (b : Bool) : b = true ∨ b = false := by cases b <;> simp
section
variable {P : Program} {Q : Exit → Act → World → Prop} {a : Act} {w : World} {K next : Act → World → Prop} {ops : Array Oper} {rest : List Oper} {o : Oper}
theorem fr_c {c : Code} (a' : Act) (h : a = a') (k : c.wp P Q a' w) : c.wp P Q a w := by subst h; exact k
theorem fr_d {c : Code} {D : List Deferred} (F : (Nat → Value) → List Value) (h : a = ⟨(F (fun i => a.tmps.toList.getD i undef)).toArray, D⟩) (k : ∀ d, c.wp P Q ⟨(F d).toArray, D⟩ w) : c.wp P Q a w := by rw [h]; exact k _
theorem fr_l {l : List Oper} (a' : Act) (h : a = a') (k : WL P ops Q l a' w) : WL P ops Q l a w := by subst h; exact k
def fput (L : List Value) : Option Tmp → Value → List Value
  | none, _ => L
  | some i, v => L.set i v
theorem put_fput {L : List Value} {D : List Deferred} {N : Option Tmp} {v : Value} : Act.put ⟨L.toArray, D⟩ N v = ⟨(fput L N v).toArray, D⟩ := by
  cases N with
  | none => rfl
  | some i =>
    show (⟨L.toArray.setIfInBounds i v, D⟩ : Act) = ⟨(L.set i v).toArray, D⟩
    rw [List.setIfInBounds_toArray]
def nS : Value := .slice none 0 0
def mG (c f a n v an o a2 su st ev me : Int) (w b d r : Value) (mei k l mo ne : Int) (ob : Value) : Array Value :=
  #[.int .u8 c, .int .u8 f, .int .u16 a, .int .u16 n, .int .u16 v, .int .u16 an, .int .u16 o, .int .u16 a2, .int .u16 su, .int .u16 st, .int .u16 ev, .int .u16 me, w, b, d, r, .int .u8 mei, .int .u8 k, .int .u8 l, .int .u8 mo, .int .u8 ne, ob]
def mC (c : Int) : Array Value := mG c 0 0 0 0 0 0 0 0 0 0 0 nS nS nS nS 0 0 0 0 0 nS
def mZ : Array Value := mC 0
def bzl : Nat → Nat → List Bool
  | 0, _ => []
  | n + 1, m => Nat.beq (m % 2) 1 :: bzl n (m / 2)
def bz (n m : Nat) : Array Bool := (bzl n m).toArray
theorem ut0 {S : List Nat} {w0 w1 w2 : World} (h : Upd S w0 w1) (k : Upd [] w1 w2) : Upd S w0 w2 := Upd.trans' h k (fun x hx => by simp at hx)
def ds (d : Nat → Value) : Nat → Nat → List Value → List Value
  | _, 0, t => t
  | i, n + 1, t => d i :: ds d (i + 1) n t
theorem fg_l {l : List Oper} {L : List Value} {D : List Deferred} (F : (Nat → Value) → List Value) (h : L = F (fun i => L.getD i undef)) (k : ∀ d, WL P ops Q l ⟨(F d).toArray, D⟩ w) : WL P ops Q l ⟨L.toArray, D⟩ w := by
  have h2 := k (fun i => L.getD i undef)
  rw [← h] at h2
  exact h2
theorem Lv {L : List Value} {D : List Deferred} (i : Tmp) (v : Value) (h : (o.guard, o.dst, (execOp (Act.eval ⟨L.toArray, D⟩) o).run P w) = (none, some i, .ok (.value v) w)) (k : WL P ops Q rest ⟨(L.set i v).toArray, D⟩ w) : WL P ops Q (o :: rest) ⟨L.toArray, D⟩ w := by
  injection h with h1 h2
  injection h2 with h2 h3
  refine ⟨?_⟩
  unfold wpList
  rw [if_pos (by simp [Region.wanted, h1])]
  refine .inl ?_
  unfold Oper.wp
  rw [h3]
  show wpList P ops Q rest (Act.put _ o.dst v) w
  rw [h2, put_fput]
  exact k.out
theorem fp_l {l : List Oper} {L : List Value} {D : List Deferred} {N : Option Tmp} {v : Value} (k : WL P ops Q l ⟨(fput L N v).toArray, D⟩ w) : WL P ops Q l (Act.put ⟨L.toArray, D⟩ N v) w := by rw [put_fput]; exact k
theorem fr_q {e : Exit} (a' : Act) (h : a = a') (k : Q e a' w) : Q e a w := by subst h; exact k
theorem th_n (h : next a w) : Exit.then next Q .normal a w := h
theorem th_ret (h : Q .ret a w) : Exit.then next Q .ret a w := h
theorem th_x {id : Nat} (h : Q (.exit id) a w) : Exit.then next Q (.exit id) a w := h
theorem ib_n {id : Nat} (h : Q .normal a w) : Exit.inBlock id Q .normal a w := h
theorem ib_ret {id : Nat} (h : Q .ret a w) : Exit.inBlock id Q .ret a w := h
theorem ib_x {id : Nat} (h : Q .normal a w) : Exit.inBlock id Q (.exit id) a w := by
  show (if id = id then _ else _)
  rw [if_pos rfl]
  exact h
theorem ib_y {id id' : Nat} (hne : id' ≠ id) (h : Q (.exit id') a w) : Exit.inBlock id Q (.exit id') a w := by
  show (if id' = id then _ else _)
  rw [if_neg hne]
  exact h
theorem cd_t {c : Operand} {x y : Code} (e : Bool) (hv : a.eval c = .bool e) (he : e = true) (h : x.wp P Q a w) : (Code.cond c x y).wp P Q a w := wp_cond_true (by rw [hv, he]) h
theorem cd_f {c : Operand} {x y : Code} (e : Bool) (hv : a.eval c = .bool e) (he : e = false) (h : y.wp P Q a w) : (Code.cond c x y).wp P Q a w := wp_cond_false (by rw [hv, he]) h
theorem bp_ret {fn : Func} {R : Ending → World → Prop} (v : Value) (hr : (results fn a.tmps).run P w = .ok v w) (hd : a.defers = []) (hR : R (.returned v) w) : bodyPost P fn R .ret a w := bodyPost_ret hr hd hR
theorem bp_end {fn : Func} {R : Ending → World → Prop} (v : Value) (hr : (results fn a.tmps).run P w = .ok v w) (hd : a.defers = []) (hR : R (.returned v) w) : bodyPost P fn R .normal a w := bodyPost_end hr hd hR
theorem nat_min {p : Nat → Prop} (h : ∃ n, p n) : ∃ n, p n ∧ ∀ m, p m → n ≤ m := by
  obtain ⟨n, hn⟩ := h
  induction n using Nat.strongRecOn with
  | _ n ih =>
    by_cases hm : ∃ m, m < n ∧ p m
    · obtain ⟨m, hlt, hp⟩ := hm
      exact ih m hlt hp
    · exact ⟨n, hn, fun m hp => by
        rcases Nat.lt_or_ge m n with hl | hl
        · exact (hm ⟨m, hl, hp⟩).elim
        · exact hl⟩
theorem lp {c : Code} {ι : Type} (I : ι → Act → World → Prop) (μ : ι → Nat) (x0 : ι) (h0 : I x0 a w) (round : ∀ x a w, I x a w → c.wp P (Exit.then (fun a' w' => ∃ y, I y a' w' ∧ μ y < μ x) Q) a w) : (Code.loop c).wp P Q a w := by
  classical
  refine wp_loop (fun a w => ∃ x, I x a w) (fun a w => if h : ∃ n, ∃ x, I x a w ∧ μ x = n then Classical.choose (nat_min h) else 0) ⟨x0, h0⟩ ?_
  intro a w hx
  have hh : ∃ n, ∃ x, I x a w ∧ μ x = n := by obtain ⟨x, hx⟩ := hx; exact ⟨_, x, hx, rfl⟩
  obtain ⟨⟨x, hI, hm⟩, hmin⟩ := Classical.choose_spec (nat_min hh)
  refine Code.wp_mono ?_ (round x a w hI)
  intro e a' w' q
  cases e with
  | normal =>
    obtain ⟨y, hy, hlt⟩ := q
    refine ⟨⟨y, hy⟩, ?_⟩
    have h' : ∃ n, ∃ x, I x a' w' ∧ μ x = n := ⟨_, y, hy, rfl⟩
    simp only [dif_pos hh, dif_pos h']
    have : Classical.choose (nat_min h') ≤ μ y := (Classical.choose_spec (nat_min h')).2 _ ⟨y, hy, rfl⟩
    omega
  | _ => exact q
theorem Lgo {id : Nat} {l : List Oper} (h : WL P l.toArray Q l a w) : (Code.region id l.toArray false).wp P Q a w := wp_region_lit h.out
theorem Lnil (h : Q .normal a w) : WL P ops Q [] a w := ⟨h⟩
theorem Lst (hw : Region.wanted o (yielded ops a.tmps) = true) (h : OW P o a w (WL P ops Q rest) Q) : WL P ops Q (o :: rest) a w := by
  refine ⟨?_⟩
  unfold wpList
  rw [if_pos hw]
  exact .inl (ow_next h fun _ _ h => h.out)
theorem Lst0 (hg : o.guard = none) (h : OW P o a w (WL P ops Q rest) Q) : WL P ops Q (o :: rest) a w := Lst (by simp [Region.wanted, hg]) h
theorem Loff {N : Option Tmp} (hw : Region.wanted o (yielded ops a.tmps) = false) (hN : o.dst = N) (h : WL P ops Q rest (a.put N undef) w) : WL P ops Q (o :: rest) a w := by
  subst hN
  refine ⟨?_⟩
  unfold wpList
  rw [if_neg (by simp [hw])]
  exact h.out
theorem wanted_on {tmps : Array Value} {j : Nat} {b e : Bool} (hg : o.guard = some (j, b)) (hy : yielded ops tmps j = some e) (he : e = b) : Region.wanted o (yielded ops tmps) = true := by
  simp [Region.wanted, hg, hy, he]
theorem wanted_off {tmps : Array Value} {j : Nat} {b e : Bool} (hg : o.guard = some (j, b)) (hy : yielded ops tmps j = some e) (he : e = !b) : Region.wanted o (yielded ops tmps) = false := by
  subst he
  cases b <;> simp [Region.wanted, hg, hy]
theorem wpList_to {ops : Array Oper} (rest : List Oper) : ∀ (G : List Oper) (a : Act) (w : World), wpList P ops (Exit.then (wpList P ops Q rest) Q) G a w → wpList P ops Q (G ++ rest) a w
  | [], a, w, h => h
  | o :: G, a, w, h => by
    simp only [List.cons_append]
    unfold wpList at h ⊢
    by_cases hw : Region.wanted o (yielded ops a.tmps) = true
    · rw [if_pos hw] at h ⊢
      rcases h with h | h
      · refine .inl ?_
        unfold Oper.wp at h ⊢
        generalize (execOp a.eval o).run P w = r at h ⊢
        cases r with
        | ok n w' =>
          cases n <;> simp only [Oper.upon] at h ⊢
          case value u => exact wpList_to rest G _ _ h
          case skip => exact wpList_to rest G _ _ h
          case defer d => exact wpList_to rest G _ _ h
          case enter f args =>
            refine Calls.mono h fun e w'' he => ?_
            cases e with
            | returned u => exact wpList_to rest G _ _ he
            | panicked c => exact he
            | outgrown => exact he
          case row row args => exact Rows.mono h fun u w'' he => wpList_to rest G _ _ he
        | halt x w' =>
          cases x <;> simp only [Oper.upon] at h ⊢
          case panic u => exact h
      · exact .inr h
    · rw [if_neg hw] at h ⊢
      exact wpList_to rest G _ _ h
theorem Lcut0 (G : List Oper) {D : List Deferred} {F : (Nat → Value) → Bool → List Value} {e : Bool} (hk : ∀ d, WL P ops Q rest ⟨(F d e).toArray, D⟩ w)
    (h : ∀ K : Act → World → Prop, (∀ d, K ⟨(F d e).toArray, D⟩ w) → WL P ops (Exit.then K Q) G a w) : WL P ops Q (G ++ rest) a w :=
  ⟨wpList_to rest G a w (h _ fun d => (hk d).out).out⟩
theorem Lcut2 {o0 o1 : Oper} {L : List Value} {D : List Deferred} (F : (Nat → Value) → Bool → List Value) (e : Bool)
    (h : ∀ K : Act → World → Prop, (∀ d, K ⟨(F d e).toArray, D⟩ w) → WL P ops (Exit.then K Q) [o0, o1] ⟨L.toArray, D⟩ w)
    (hk : ∀ d, WL P ops Q rest ⟨(F d e).toArray, D⟩ w) : WL P ops Q (o0 :: o1 :: rest) ⟨L.toArray, D⟩ w := Lcut0 [o0, o1] hk h
theorem Lcut3 {o0 o1 o2 : Oper} {L : List Value} {D : List Deferred} (F : (Nat → Value) → Bool → List Value) (e : Bool)
    (h : ∀ K : Act → World → Prop, (∀ d, K ⟨(F d e).toArray, D⟩ w) → WL P ops (Exit.then K Q) [o0, o1, o2] ⟨L.toArray, D⟩ w)
    (hk : ∀ d, WL P ops Q rest ⟨(F d e).toArray, D⟩ w) : WL P ops Q (o0 :: o1 :: o2 :: rest) ⟨L.toArray, D⟩ w := Lcut0 [o0, o1, o2] hk h
theorem Lcut4 {o0 o1 o2 o3 : Oper} {L : List Value} {D : List Deferred} (F : (Nat → Value) → Bool → List Value) (e : Bool)
    (h : ∀ K : Act → World → Prop, (∀ d, K ⟨(F d e).toArray, D⟩ w) → WL P ops (Exit.then K Q) [o0, o1, o2, o3] ⟨L.toArray, D⟩ w)
    (hk : ∀ d, WL P ops Q rest ⟨(F d e).toArray, D⟩ w) : WL P ops Q (o0 :: o1 :: o2 :: o3 :: rest) ⟨L.toArray, D⟩ w := Lcut0 [o0, o1, o2, o3] hk h
theorem Lcut5 {o0 o1 o2 o3 o4 : Oper} {L : List Value} {D : List Deferred} (F : (Nat → Value) → Bool → List Value) (e : Bool)
    (h : ∀ K : Act → World → Prop, (∀ d, K ⟨(F d e).toArray, D⟩ w) → WL P ops (Exit.then K Q) [o0, o1, o2, o3, o4] ⟨L.toArray, D⟩ w)
    (hk : ∀ d, WL P ops Q rest ⟨(F d e).toArray, D⟩ w) : WL P ops Q (o0 :: o1 :: o2 :: o3 :: o4 :: rest) ⟨L.toArray, D⟩ w := Lcut0 [o0, o1, o2, o3, o4] hk h
theorem Lcut6 {o0 o1 o2 o3 o4 o5 : Oper} {L : List Value} {D : List Deferred} (F : (Nat → Value) → Bool → List Value) (e : Bool)
    (h : ∀ K : Act → World → Prop, (∀ d, K ⟨(F d e).toArray, D⟩ w) → WL P ops (Exit.then K Q) [o0, o1, o2, o3, o4, o5] ⟨L.toArray, D⟩ w)
    (hk : ∀ d, WL P ops Q rest ⟨(F d e).toArray, D⟩ w) : WL P ops Q (o0 :: o1 :: o2 :: o3 :: o4 :: o5 :: rest) ⟨L.toArray, D⟩ w := Lcut0 [o0, o1, o2, o3, o4, o5] hk h
theorem Lcut7 {o0 o1 o2 o3 o4 o5 o6 : Oper} {L : List Value} {D : List Deferred} (F : (Nat → Value) → Bool → List Value) (e : Bool)
    (h : ∀ K : Act → World → Prop, (∀ d, K ⟨(F d e).toArray, D⟩ w) → WL P ops (Exit.then K Q) [o0, o1, o2, o3, o4, o5, o6] ⟨L.toArray, D⟩ w)
    (hk : ∀ d, WL P ops Q rest ⟨(F d e).toArray, D⟩ w) : WL P ops Q (o0 :: o1 :: o2 :: o3 :: o4 :: o5 :: o6 :: rest) ⟨L.toArray, D⟩ w := Lcut0 [o0, o1, o2, o3, o4, o5, o6] hk h
theorem Lcut8 {o0 o1 o2 o3 o4 o5 o6 o7 : Oper} {L : List Value} {D : List Deferred} (F : (Nat → Value) → Bool → List Value) (e : Bool)
    (h : ∀ K : Act → World → Prop, (∀ d, K ⟨(F d e).toArray, D⟩ w) → WL P ops (Exit.then K Q) [o0, o1, o2, o3, o4, o5, o6, o7] ⟨L.toArray, D⟩ w)
    (hk : ∀ d, WL P ops Q rest ⟨(F d e).toArray, D⟩ w) : WL P ops Q (o0 :: o1 :: o2 :: o3 :: o4 :: o5 :: o6 :: o7 :: rest) ⟨L.toArray, D⟩ w := Lcut0 [o0, o1, o2, o3, o4, o5, o6, o7] hk h
theorem Lcut9 {o0 o1 o2 o3 o4 o5 o6 o7 o8 : Oper} {L : List Value} {D : List Deferred} (F : (Nat → Value) → Bool → List Value) (e : Bool)
    (h : ∀ K : Act → World → Prop, (∀ d, K ⟨(F d e).toArray, D⟩ w) → WL P ops (Exit.then K Q) [o0, o1, o2, o3, o4, o5, o6, o7, o8] ⟨L.toArray, D⟩ w)
    (hk : ∀ d, WL P ops Q rest ⟨(F d e).toArray, D⟩ w) : WL P ops Q (o0 :: o1 :: o2 :: o3 :: o4 :: o5 :: o6 :: o7 :: o8 :: rest) ⟨L.toArray, D⟩ w := Lcut0 [o0, o1, o2, o3, o4, o5, o6, o7, o8] hk h
theorem Lcut10 {o0 o1 o2 o3 o4 o5 o6 o7 o8 o9 : Oper} {L : List Value} {D : List Deferred} (F : (Nat → Value) → Bool → List Value) (e : Bool)
    (h : ∀ K : Act → World → Prop, (∀ d, K ⟨(F d e).toArray, D⟩ w) → WL P ops (Exit.then K Q) [o0, o1, o2, o3, o4, o5, o6, o7, o8, o9] ⟨L.toArray, D⟩ w)
    (hk : ∀ d, WL P ops Q rest ⟨(F d e).toArray, D⟩ w) : WL P ops Q (o0 :: o1 :: o2 :: o3 :: o4 :: o5 :: o6 :: o7 :: o8 :: o9 :: rest) ⟨L.toArray, D⟩ w := Lcut0 [o0, o1, o2, o3, o4, o5, o6, o7, o8, o9] hk h
theorem Lcut11 {o0 o1 o2 o3 o4 o5 o6 o7 o8 o9 o10 : Oper} {L : List Value} {D : List Deferred} (F : (Nat → Value) → Bool → List Value) (e : Bool)
    (h : ∀ K : Act → World → Prop, (∀ d, K ⟨(F d e).toArray, D⟩ w) → WL P ops (Exit.then K Q) [o0, o1, o2, o3, o4, o5, o6, o7, o8, o9, o10] ⟨L.toArray, D⟩ w)
    (hk : ∀ d, WL P ops Q rest ⟨(F d e).toArray, D⟩ w) : WL P ops Q (o0 :: o1 :: o2 :: o3 :: o4 :: o5 :: o6 :: o7 :: o8 :: o9 :: o10 :: rest) ⟨L.toArray, D⟩ w := Lcut0 [o0, o1, o2, o3, o4, o5, o6, o7, o8, o9, o10] hk h
theorem Lcut12 {o0 o1 o2 o3 o4 o5 o6 o7 o8 o9 o10 o11 : Oper} {L : List Value} {D : List Deferred} (F : (Nat → Value) → Bool → List Value) (e : Bool)
    (h : ∀ K : Act → World → Prop, (∀ d, K ⟨(F d e).toArray, D⟩ w) → WL P ops (Exit.then K Q) [o0, o1, o2, o3, o4, o5, o6, o7, o8, o9, o10, o11] ⟨L.toArray, D⟩ w)
    (hk : ∀ d, WL P ops Q rest ⟨(F d e).toArray, D⟩ w) : WL P ops Q (o0 :: o1 :: o2 :: o3 :: o4 :: o5 :: o6 :: o7 :: o8 :: o9 :: o10 :: o11 :: rest) ⟨L.toArray, D⟩ w := Lcut0 [o0, o1, o2, o3, o4, o5, o6, o7, o8, o9, o10, o11] hk h
theorem Lcut13 {o0 o1 o2 o3 o4 o5 o6 o7 o8 o9 o10 o11 o12 : Oper} {L : List Value} {D : List Deferred} (F : (Nat → Value) → Bool → List Value) (e : Bool)
    (h : ∀ K : Act → World → Prop, (∀ d, K ⟨(F d e).toArray, D⟩ w) → WL P ops (Exit.then K Q) [o0, o1, o2, o3, o4, o5, o6, o7, o8, o9, o10, o11, o12] ⟨L.toArray, D⟩ w)
    (hk : ∀ d, WL P ops Q rest ⟨(F d e).toArray, D⟩ w) : WL P ops Q (o0 :: o1 :: o2 :: o3 :: o4 :: o5 :: o6 :: o7 :: o8 :: o9 :: o10 :: o11 :: o12 :: rest) ⟨L.toArray, D⟩ w := Lcut0 [o0, o1, o2, o3, o4, o5, o6, o7, o8, o9, o10, o11, o12] hk h
theorem Lcut14 {o0 o1 o2 o3 o4 o5 o6 o7 o8 o9 o10 o11 o12 o13 : Oper} {L : List Value} {D : List Deferred} (F : (Nat → Value) → Bool → List Value) (e : Bool)
    (h : ∀ K : Act → World → Prop, (∀ d, K ⟨(F d e).toArray, D⟩ w) → WL P ops (Exit.then K Q) [o0, o1, o2, o3, o4, o5, o6, o7, o8, o9, o10, o11, o12, o13] ⟨L.toArray, D⟩ w)
    (hk : ∀ d, WL P ops Q rest ⟨(F d e).toArray, D⟩ w) : WL P ops Q (o0 :: o1 :: o2 :: o3 :: o4 :: o5 :: o6 :: o7 :: o8 :: o9 :: o10 :: o11 :: o12 :: o13 :: rest) ⟨L.toArray, D⟩ w := Lcut0 [o0, o1, o2, o3, o4, o5, o6, o7, o8, o9, o10, o11, o12, o13] hk h
theorem Lcut15 {o0 o1 o2 o3 o4 o5 o6 o7 o8 o9 o10 o11 o12 o13 o14 : Oper} {L : List Value} {D : List Deferred} (F : (Nat → Value) → Bool → List Value) (e : Bool)
    (h : ∀ K : Act → World → Prop, (∀ d, K ⟨(F d e).toArray, D⟩ w) → WL P ops (Exit.then K Q) [o0, o1, o2, o3, o4, o5, o6, o7, o8, o9, o10, o11, o12, o13, o14] ⟨L.toArray, D⟩ w)
    (hk : ∀ d, WL P ops Q rest ⟨(F d e).toArray, D⟩ w) : WL P ops Q (o0 :: o1 :: o2 :: o3 :: o4 :: o5 :: o6 :: o7 :: o8 :: o9 :: o10 :: o11 :: o12 :: o13 :: o14 :: rest) ⟨L.toArray, D⟩ w := Lcut0 [o0, o1, o2, o3, o4, o5, o6, o7, o8, o9, o10, o11, o12, o13, o14] hk h
theorem Lcut16 {o0 o1 o2 o3 o4 o5 o6 o7 o8 o9 o10 o11 o12 o13 o14 o15 : Oper} {L : List Value} {D : List Deferred} (F : (Nat → Value) → Bool → List Value) (e : Bool)
    (h : ∀ K : Act → World → Prop, (∀ d, K ⟨(F d e).toArray, D⟩ w) → WL P ops (Exit.then K Q) [o0, o1, o2, o3, o4, o5, o6, o7, o8, o9, o10, o11, o12, o13, o14, o15] ⟨L.toArray, D⟩ w)
    (hk : ∀ d, WL P ops Q rest ⟨(F d e).toArray, D⟩ w) : WL P ops Q (o0 :: o1 :: o2 :: o3 :: o4 :: o5 :: o6 :: o7 :: o8 :: o9 :: o10 :: o11 :: o12 :: o13 :: o14 :: o15 :: rest) ⟨L.toArray, D⟩ w := Lcut0 [o0, o1, o2, o3, o4, o5, o6, o7, o8, o9, o10, o11, o12, o13, o14, o15] hk h
theorem Lcut17 {o0 o1 o2 o3 o4 o5 o6 o7 o8 o9 o10 o11 o12 o13 o14 o15 o16 : Oper} {L : List Value} {D : List Deferred} (F : (Nat → Value) → Bool → List Value) (e : Bool)
    (h : ∀ K : Act → World → Prop, (∀ d, K ⟨(F d e).toArray, D⟩ w) → WL P ops (Exit.then K Q) [o0, o1, o2, o3, o4, o5, o6, o7, o8, o9, o10, o11, o12, o13, o14, o15, o16] ⟨L.toArray, D⟩ w)
    (hk : ∀ d, WL P ops Q rest ⟨(F d e).toArray, D⟩ w) : WL P ops Q (o0 :: o1 :: o2 :: o3 :: o4 :: o5 :: o6 :: o7 :: o8 :: o9 :: o10 :: o11 :: o12 :: o13 :: o14 :: o15 :: o16 :: rest) ⟨L.toArray, D⟩ w := Lcut0 [o0, o1, o2, o3, o4, o5, o6, o7, o8, o9, o10, o11, o12, o13, o14, o15, o16] hk h
theorem Lcut18 {o0 o1 o2 o3 o4 o5 o6 o7 o8 o9 o10 o11 o12 o13 o14 o15 o16 o17 : Oper} {L : List Value} {D : List Deferred} (F : (Nat → Value) → Bool → List Value) (e : Bool)
    (h : ∀ K : Act → World → Prop, (∀ d, K ⟨(F d e).toArray, D⟩ w) → WL P ops (Exit.then K Q) [o0, o1, o2, o3, o4, o5, o6, o7, o8, o9, o10, o11, o12, o13, o14, o15, o16, o17] ⟨L.toArray, D⟩ w)
    (hk : ∀ d, WL P ops Q rest ⟨(F d e).toArray, D⟩ w) : WL P ops Q (o0 :: o1 :: o2 :: o3 :: o4 :: o5 :: o6 :: o7 :: o8 :: o9 :: o10 :: o11 :: o12 :: o13 :: o14 :: o15 :: o16 :: o17 :: rest) ⟨L.toArray, D⟩ w := Lcut0 [o0, o1, o2, o3, o4, o5, o6, o7, o8, o9, o10, o11, o12, o13, o14, o15, o16, o17] hk h
theorem Lcut19 {o0 o1 o2 o3 o4 o5 o6 o7 o8 o9 o10 o11 o12 o13 o14 o15 o16 o17 o18 : Oper} {L : List Value} {D : List Deferred} (F : (Nat → Value) → Bool → List Value) (e : Bool)
    (h : ∀ K : Act → World → Prop, (∀ d, K ⟨(F d e).toArray, D⟩ w) → WL P ops (Exit.then K Q) [o0, o1, o2, o3, o4, o5, o6, o7, o8, o9, o10, o11, o12, o13, o14, o15, o16, o17, o18] ⟨L.toArray, D⟩ w)
    (hk : ∀ d, WL P ops Q rest ⟨(F d e).toArray, D⟩ w) : WL P ops Q (o0 :: o1 :: o2 :: o3 :: o4 :: o5 :: o6 :: o7 :: o8 :: o9 :: o10 :: o11 :: o12 :: o13 :: o14 :: o15 :: o16 :: o17 :: o18 :: rest) ⟨L.toArray, D⟩ w := Lcut0 [o0, o1, o2, o3, o4, o5, o6, o7, o8, o9, o10, o11, o12, o13, o14, o15, o16, o17, o18] hk h
theorem Lcut20 {o0 o1 o2 o3 o4 o5 o6 o7 o8 o9 o10 o11 o12 o13 o14 o15 o16 o17 o18 o19 : Oper} {L : List Value} {D : List Deferred} (F : (Nat → Value) → Bool → List Value) (e : Bool)
    (h : ∀ K : Act → World → Prop, (∀ d, K ⟨(F d e).toArray, D⟩ w) → WL P ops (Exit.then K Q) [o0, o1, o2, o3, o4, o5, o6, o7, o8, o9, o10, o11, o12, o13, o14, o15, o16, o17, o18, o19] ⟨L.toArray, D⟩ w)
    (hk : ∀ d, WL P ops Q rest ⟨(F d e).toArray, D⟩ w) : WL P ops Q (o0 :: o1 :: o2 :: o3 :: o4 :: o5 :: o6 :: o7 :: o8 :: o9 :: o10 :: o11 :: o12 :: o13 :: o14 :: o15 :: o16 :: o17 :: o18 :: o19 :: rest) ⟨L.toArray, D⟩ w := Lcut0 [o0, o1, o2, o3, o4, o5, o6, o7, o8, o9, o10, o11, o12, o13, o14, o15, o16, o17, o18, o19] hk h
theorem Lcut21 {o0 o1 o2 o3 o4 o5 o6 o7 o8 o9 o10 o11 o12 o13 o14 o15 o16 o17 o18 o19 o20 : Oper} {L : List Value} {D : List Deferred} (F : (Nat → Value) → Bool → List Value) (e : Bool)
    (h : ∀ K : Act → World → Prop, (∀ d, K ⟨(F d e).toArray, D⟩ w) → WL P ops (Exit.then K Q) [o0, o1, o2, o3, o4, o5, o6, o7, o8, o9, o10, o11, o12, o13, o14, o15, o16, o17, o18, o19, o20] ⟨L.toArray, D⟩ w)
    (hk : ∀ d, WL P ops Q rest ⟨(F d e).toArray, D⟩ w) : WL P ops Q (o0 :: o1 :: o2 :: o3 :: o4 :: o5 :: o6 :: o7 :: o8 :: o9 :: o10 :: o11 :: o12 :: o13 :: o14 :: o15 :: o16 :: o17 :: o18 :: o19 :: o20 :: rest) ⟨L.toArray, D⟩ w := Lcut0 [o0, o1, o2, o3, o4, o5, o6, o7, o8, o9, o10, o11, o12, o13, o14, o15, o16, o17, o18, o19, o20] hk h
theorem Lcut22 {o0 o1 o2 o3 o4 o5 o6 o7 o8 o9 o10 o11 o12 o13 o14 o15 o16 o17 o18 o19 o20 o21 : Oper} {L : List Value} {D : List Deferred} (F : (Nat → Value) → Bool → List Value) (e : Bool)
    (h : ∀ K : Act → World → Prop, (∀ d, K ⟨(F d e).toArray, D⟩ w) → WL P ops (Exit.then K Q) [o0, o1, o2, o3, o4, o5, o6, o7, o8, o9, o10, o11, o12, o13, o14, o15, o16, o17, o18, o19, o20, o21] ⟨L.toArray, D⟩ w)
    (hk : ∀ d, WL P ops Q rest ⟨(F d e).toArray, D⟩ w) : WL P ops Q (o0 :: o1 :: o2 :: o3 :: o4 :: o5 :: o6 :: o7 :: o8 :: o9 :: o10 :: o11 :: o12 :: o13 :: o14 :: o15 :: o16 :: o17 :: o18 :: o19 :: o20 :: o21 :: rest) ⟨L.toArray, D⟩ w := Lcut0 [o0, o1, o2, o3, o4, o5, o6, o7, o8, o9, o10, o11, o12, o13, o14, o15, o16, o17, o18, o19, o20, o21] hk h
theorem Lcut23 {o0 o1 o2 o3 o4 o5 o6 o7 o8 o9 o10 o11 o12 o13 o14 o15 o16 o17 o18 o19 o20 o21 o22 : Oper} {L : List Value} {D : List Deferred} (F : (Nat → Value) → Bool → List Value) (e : Bool)
    (h : ∀ K : Act → World → Prop, (∀ d, K ⟨(F d e).toArray, D⟩ w) → WL P ops (Exit.then K Q) [o0, o1, o2, o3, o4, o5, o6, o7, o8, o9, o10, o11, o12, o13, o14, o15, o16, o17, o18, o19, o20, o21, o22] ⟨L.toArray, D⟩ w)
    (hk : ∀ d, WL P ops Q rest ⟨(F d e).toArray, D⟩ w) : WL P ops Q (o0 :: o1 :: o2 :: o3 :: o4 :: o5 :: o6 :: o7 :: o8 :: o9 :: o10 :: o11 :: o12 :: o13 :: o14 :: o15 :: o16 :: o17 :: o18 :: o19 :: o20 :: o21 :: o22 :: rest) ⟨L.toArray, D⟩ w := Lcut0 [o0, o1, o2, o3, o4, o5, o6, o7, o8, o9, o10, o11, o12, o13, o14, o15, o16, o17, o18, o19, o20, o21, o22] hk h
theorem Lcut24 {o0 o1 o2 o3 o4 o5 o6 o7 o8 o9 o10 o11 o12 o13 o14 o15 o16 o17 o18 o19 o20 o21 o22 o23 : Oper} {L : List Value} {D : List Deferred} (F : (Nat → Value) → Bool → List Value) (e : Bool)
    (h : ∀ K : Act → World → Prop, (∀ d, K ⟨(F d e).toArray, D⟩ w) → WL P ops (Exit.then K Q) [o0, o1, o2, o3, o4, o5, o6, o7, o8, o9, o10, o11, o12, o13, o14, o15, o16, o17, o18, o19, o20, o21, o22, o23] ⟨L.toArray, D⟩ w)
    (hk : ∀ d, WL P ops Q rest ⟨(F d e).toArray, D⟩ w) : WL P ops Q (o0 :: o1 :: o2 :: o3 :: o4 :: o5 :: o6 :: o7 :: o8 :: o9 :: o10 :: o11 :: o12 :: o13 :: o14 :: o15 :: o16 :: o17 :: o18 :: o19 :: o20 :: o21 :: o22 :: o23 :: rest) ⟨L.toArray, D⟩ w := Lcut0 [o0, o1, o2, o3, o4, o5, o6, o7, o8, o9, o10, o11, o12, o13, o14, o15, o16, o17, o18, o19, o20, o21, o22, o23] hk h
theorem Lcut25 {o0 o1 o2 o3 o4 o5 o6 o7 o8 o9 o10 o11 o12 o13 o14 o15 o16 o17 o18 o19 o20 o21 o22 o23 o24 : Oper} {L : List Value} {D : List Deferred} (F : (Nat → Value) → Bool → List Value) (e : Bool)
    (h : ∀ K : Act → World → Prop, (∀ d, K ⟨(F d e).toArray, D⟩ w) → WL P ops (Exit.then K Q) [o0, o1, o2, o3, o4, o5, o6, o7, o8, o9, o10, o11, o12, o13, o14, o15, o16, o17, o18, o19, o20, o21, o22, o23, o24] ⟨L.toArray, D⟩ w)
    (hk : ∀ d, WL P ops Q rest ⟨(F d e).toArray, D⟩ w) : WL P ops Q (o0 :: o1 :: o2 :: o3 :: o4 :: o5 :: o6 :: o7 :: o8 :: o9 :: o10 :: o11 :: o12 :: o13 :: o14 :: o15 :: o16 :: o17 :: o18 :: o19 :: o20 :: o21 :: o22 :: o23 :: o24 :: rest) ⟨L.toArray, D⟩ w := Lcut0 [o0, o1, o2, o3, o4, o5, o6, o7, o8, o9, o10, o11, o12, o13, o14, o15, o16, o17, o18, o19, o20, o21, o22, o23, o24] hk h
theorem cut_end {L : List Value} {D : List Deferred} {F : (Nat → Value) → Bool → List Value} {e : Bool} (hK : ∀ d, K ⟨(F d e).toArray, D⟩ w) (b : Bool) (hb : e = b) (h : F (fun i => L.getD i undef) b = L) : WL P ops (Exit.then K Q) [] ⟨L.toArray, D⟩ w := by
  subst hb
  refine ⟨?_⟩
  have h2 := hK (fun i => L.getD i undef)
  rw [h] at h2
  exact h2
end
section
variable {P : Program} {Q : Exit → Act → World → Prop} {a : Act} {w : World} {K : Act → World → Prop} {o : Oper} {N : Option Tmp}
theorem ow_val (v : Value) (hN : o.dst = N) (hr : (execOp a.eval o).run P w = .ok (.value v) w) (h : K (a.put N v) w) : OW P o a w K Q := by
  refine OW.mk ?_
  subst hN
  unfold Oper.wp
  rw [hr]
  exact h
theorem ow_valeq (v0 v : Value) (hN : o.dst = N) (hr : (execOp a.eval o).run P w = .ok (.value v0) w) (he : v0 = v) (h : K (a.put N v) w) : OW P o a w K Q := by
  subst he
  exact ow_val _ hN hr h
theorem ow_pick {c x y : Operand} (e : Bool) (v : Value) (hN : o.dst = N) (ho : o.op = .pick c x y) (hc : a.eval c = .bool e) (hv : (if e then a.eval x else a.eval y) = v) (h : K (a.put N v) w) : OW P o a w K Q := by
  refine ow_val v hN ?_ h
  subst hv
  unfold execOp
  simp [ho, hc, asBool, Result.andThen]
theorem run_pick {c x y : Operand} (e : Bool) {v : Value} (ho : o.op = .pick c x y) (hc : a.eval c = .bool e) (hv : (if e then a.eval x else a.eval y) = v) : (execOp a.eval o).run P w = .ok (.value v) w := by
  subst hv
  unfold execOp
  simp [ho, hc, asBool, Result.andThen]
theorem run_eq (v0 : Value) {v : Value} (hr : (execOp a.eval o).run P w = .ok (.value v0) w) (he : v0 = v) : (execOp a.eval o).run P w = .ok (.value v) w := by subst he; exact hr
theorem run_isAgg {ty : TypeId} {d : TypeDesc} (hu : P.underlying ty = some d) (w : World) : (isAgg ty).run P w = .ok d.isRow w := by
  unfold isAgg
  rw [Sem.run_bind, run_underlying hu w]
  cases d <;> rfl
def scalarT (P : Program) (ty : TypeId) : Bool := match P.underlying ty with | some d => !d.isRow | none => false
theorem scalarT_some {ty : TypeId} (h : scalarT P ty = true) : ∃ d, P.underlying ty = some d ∧ d.isRow = false := by
  unfold scalarT at h
  split at h
  · rename_i d hd; exact ⟨d, hd, by simpa using h⟩
  · cases h
theorem run_ld {ty : TypeId} {x : Operand} {p : Addr} {v : Value} {w : World} (ho : o.op = .load ty x) (hx : a.eval x = .pointer (some p)) (hu : scalarT P ty = true) (hc : w.cell? p = some v) : (execOp a.eval o).run P w = .ok (.value v) w := by
  obtain ⟨d, hd, hr⟩ := scalarT_some hu
  unfold execOp
  simp only [ho, hx, Instr.loadAt, Instr.sureAddr, Sem.run_bind, Sem.run_pure, Result.andThen_ok, loadVar, run_isAgg hd, hr, load]
  simp [Sem.run, hc, Result.andThen]
theorem ow_ld {ty : TypeId} {x : Operand} {p : Addr} (v : Value) (hN : o.dst = N) (ho : o.op = .load ty x) (hx : a.eval x = .pointer (some p)) (hu : scalarT P ty = true) (hc : w.cell? p = some v) (h : K (a.put N v) w) : OW P o a w K Q :=
  ow_val v hN (run_ld ho hx hu hc) h
theorem blk_at {g off : Nat} {cs : Array Value} {t : TypeId} {fr : Nat × Nat} {v : Value} (hb : w.heap[g]? = some (.cells cs t fr)) (hc : cs[off]? = some v) : w.cell? ⟨g, off, none⟩ = some v := (blk_cell hb off).trans hc
theorem run_lda {ty : TypeId} {x : Operand} {g off : Nat} {cs : Array Value} {t : TypeId} {fr : Nat × Nat} {w : World} (sub : List Value) (ho : o.op = .load ty x) (hx : a.eval x = .pointer (some ⟨g, off, none⟩)) (hb : w.heap[g]? = some (.cells cs t fr))
    (hu : (P.underlying ty).map (·.isRow) = some true) (hi : (P.info? ty).map (·.size) = some sub.length) (hs : (cs.toList.drop off).take sub.length = sub) : (execOp a.eval o).run P w = .ok (.value (.agg sub.toArray)) w := by
  obtain ⟨d, hd, hr⟩ := Option.map_eq_some_iff.1 hu
  have hc : w.rangeAt g off sub := fun j v hj => by
    rw [blk_cell hb]
    have hjl : j < sub.length := (List.getElem?_eq_some_iff.1 hj).1
    rw [← hs, List.getElem?_take, if_pos hjl, List.getElem?_drop] at hj
    simpa using hj
  unfold execOp
  simp only [ho, hx, Instr.loadAt, Instr.sureAddr, Sem.run_bind, Sem.run_pure, Result.andThen_ok, run_loadVar_mid w g off ty sub d hc hd hr hi]
theorem ow_lda {ty : TypeId} {x : Operand} {g off : Nat} {cs : Array Value} {t : TypeId} {fr : Nat × Nat} (sub : List Value) (hN : o.dst = N) (ho : o.op = .load ty x) (hx : a.eval x = .pointer (some ⟨g, off, none⟩)) (hb : w.heap[g]? = some (.cells cs t fr))
    (hu : (P.underlying ty).map (·.isRow) = some true) (hi : (P.info? ty).map (·.size) = some sub.length) (hs : (cs.toList.drop off).take sub.length = sub) (h : K (a.put N (.agg sub.toArray)) w) : OW P o a w K Q :=
  ow_val _ hN (run_lda sub ho hx hb hu hi hs) h
theorem run_ldw {ty : TypeId} {x : Operand} {g : Nat} {cs : Array Value} {t : TypeId} {fr : Nat × Nat} {w : World} (ho : o.op = .load ty x) (hx : a.eval x = .pointer (some ⟨g, 0, none⟩)) (hb : w.heap[g]? = some (.cells cs t fr))
    (hu : (P.underlying ty).map (·.isRow) = some true) (hi : (P.info? ty).map (·.size) = some cs.size) : (execOp a.eval o).run P w = .ok (.value (.agg cs)) w := by
  have := run_lda (P := P) (o := o) (a := a) (cs := cs) cs.toList ho hx hb hu (by simpa using hi) (by simpa using List.take_length (l := cs.toList))
  simpa using this
theorem ow_ldw {ty : TypeId} {x : Operand} {g : Nat} {cs : Array Value} {t : TypeId} {fr : Nat × Nat} (hN : o.dst = N) (ho : o.op = .load ty x) (hx : a.eval x = .pointer (some ⟨g, 0, none⟩)) (hb : w.heap[g]? = some (.cells cs t fr))
    (hu : (P.underlying ty).map (·.isRow) = some true) (hi : (P.info? ty).map (·.size) = some cs.size) (h : K (a.put N (.agg cs)) w) : OW P o a w K Q :=
  ow_val _ hN (run_ldw ho hx hb hu hi) h
theorem ow_st {ty : TypeId} {x y : Operand} {g off : Nat} {cs : Array Value} {t : TypeId} (v : Value) (cs' : Array Value) (hN : o.dst = N) (ho : o.op = .store ty x y) (hx : a.eval x = .pointer (some ⟨g, off, none⟩)) (hy : a.eval y = v)
    (hb : w.heap[g]? = some (.cells cs t (0, 0))) (hlt' : Nat.blt off cs.size = true) (hi : (P.info? ty).map (·.size) = some 1) (h1 : v.oneCell' = true) (hcs : cs.setIfInBounds off v = cs')
    (h : ∀ w', w'.heap[g]? = some (.cells cs' t (0, 0)) → Upd [g] w w' → K (a.put N undef) w') : OW P o a w K Q := by
  refine OW.mk ?_
  subst hN
  subst hcs
  have hlt : off < cs.size := by simpa using hlt'
  obtain ⟨i, hi1, hi2⟩ := Option.map_eq_some_iff.1 hi
  have hcell : w.cell? ⟨g, off, none⟩ = some cs[off] := by rw [blk_cell hb]; simp [hlt]
  have hfr : w.frozen? ⟨g, off, none⟩ = false := blk_frozen hb off
  have hrun : (execOp a.eval o).run P w = .ok .skip (w.setCell ⟨g, off, none⟩ v) := by
    unfold execOp
    simp only [ho, hx, hy, Instr.storeAt, Instr.sureAddr, Sem.run_bind, Sem.run_pure, Result.andThen_ok, storeVar, sizeOf, typeInfo]
    cases v <;> simp_all [Value.oneCell', Value.cells, Sem.run, Result.andThen, storeCells, store, Addr.add, program]
  unfold Oper.wp
  rw [hrun]
  exact h _ (blk_set hb off v) ((Upd.refl [g] w).setCell (p := ⟨g, off, none⟩) (.inl (by simp)) v)
theorem ow_stw {ty : TypeId} {x y : Operand} {g : Nat} {cs : Array Value} {t : TypeId} (vs : Array Value) (hN : o.dst = N) (ho : o.op = .store ty x y) (hx : a.eval x = .pointer (some ⟨g, 0, none⟩)) (hy : a.eval y = .agg vs)
    (hb : w.heap[g]? = some (.cells cs t (0, 0))) (hi : (P.info? ty).map (·.size) = some vs.size) (hs : vs.size = cs.size) (h1 : vs.all (·.oneCell') = true)
    (h : ∀ w', w'.heap[g]? = some (.cells vs t (0, 0)) → Upd [g] w w' → K (a.put N undef) w') : OW P o a w K Q := by
  refine OW.mk ?_
  subst hN
  obtain ⟨h2, h3⟩ := setCells_blk vs.toList w g 0 cs t (0, 0) hb
  rw [setFrom_all _ _ (by simpa using hs)] at h2
  refine wp_store_mid ty x y ho g 0 vs hx hy (fun j hj => ?_) hi h1 (h _ (by simpa using h2) h3)
  rw [Nat.zero_add, blk_cell hb, blk_frozen hb]
  exact ⟨by rw [Array.getElem?_eq_getElem (by omega)]; rfl, rfl⟩
theorem ow_stm {ty : TypeId} {x y : Operand} {g off : Nat} {cs : Array Value} {t : TypeId} (vs cs' : Array Value) (hN : o.dst = N) (ho : o.op = .store ty x y) (hx : a.eval x = .pointer (some ⟨g, off, none⟩)) (hy : a.eval y = .agg vs)
    (hb : w.heap[g]? = some (.cells cs t (0, 0))) (hi : (P.info? ty).map (·.size) = some vs.size) (hs' : Nat.ble (off + vs.size) cs.size = true) (h1 : vs.all (·.oneCell') = true) (hcs : setFrom cs off vs.toList = cs')
    (h : ∀ w', w'.heap[g]? = some (.cells cs' t (0, 0)) → Upd [g] w w' → K (a.put N undef) w') : OW P o a w K Q := by
  refine OW.mk ?_
  subst hN
  subst hcs
  have hs : off + vs.size ≤ cs.size := by simpa using hs'
  obtain ⟨h2, h3⟩ := setCells_blk vs.toList w g off cs t (0, 0) hb
  refine wp_store_mid ty x y ho g off vs hx hy (fun j hj => ?_) hi h1 (h _ h2 h3)
  rw [blk_cell hb, blk_frozen hb]
  exact ⟨by rw [Array.getElem?_eq_getElem (by omega)]; rfl, rfl⟩
theorem ow_alloc {t : TypeId} (cs : Array Value) (hN : o.dst = N) (ho : o.op = .alloc t) (hz : (P.info? t).bind (fun i => i.zero.map (·.cells)) = some cs)
    (h : ∀ g w', w.heap.size ≤ g → w'.heap[g]? = some (.cells cs t (0, 0)) → Upd [] w w' → K (a.put N (.pointer (some ⟨g, 0, none⟩))) w') : OW P o a w K Q := by
  refine OW.mk ?_
  subst hN
  obtain ⟨i0, hi, hz0⟩ := Option.bind_eq_some_iff.1 hz
  obtain ⟨z, hz1, rfl⟩ := Option.map_eq_some_iff.1 hz0
  have hrun : (execOp a.eval o).run P w = .ok (.value (.pointer (some ⟨w.heap.size, 0, none⟩))) (w.alloc (.cells z.cells t)) := by
    unfold execOp
    simp [go_sem, ho, Instr.alloc, zeroValue, typeInfo, hi, hz1, newVar, newRow]
  unfold Oper.wp
  rw [hrun]
  exact h _ _ (Nat.le_refl _) (blk_new ..) ((Upd.refl [] w).alloc _)
theorem ow_box {t : TypeId} {x : Operand} (cs : Array Value) (hN : o.dst = N) (ho : o.op = .box t x) (hx : (a.eval x).cells = cs)
    (h : ∀ g w', w.heap.size ≤ g → w'.heap[g]? = some (.cells cs t (0, 0)) → Upd [] w w' → K (a.put N (.pointer (some ⟨g, 0, none⟩))) w') : OW P o a w K Q := by
  refine OW.mk ?_
  subst hx
  subst hN
  have hrun : (execOp a.eval o).run P w = .ok (.value (.pointer (some ⟨w.heap.size, 0, none⟩))) (w.alloc (.cells (a.eval x).cells t)) := by
    unfold execOp
    simp [go_sem, ho, newVar, newRow]
  unfold Oper.wp
  rw [hrun]
  exact h _ _ (Nat.le_refl _) (blk_new ..) ((Upd.refl [] w).alloc _)
theorem ow_lit {e : TypeId} {n : Nat} (cs : Array Value) (hN : o.dst = N) (hr : (execOp a.eval o).run P w = .ok (.value (.slice (some ⟨w.heap.size, 0, none⟩) n n)) (w.alloc (.cells cs e)))
    (h : ∀ g w', w.heap.size ≤ g → w'.heap[g]? = some (.cells cs e (0, 0)) → Upd [] w w' → K (a.put N (.slice (some ⟨g, 0, none⟩) n n)) w') : OW P o a w K Q := by
  refine OW.mk ?_
  subst hN
  unfold Oper.wp
  rw [hr]
  exact h _ _ (Nat.le_refl _) (blk_new ..) ((Upd.refl [] w).alloc _)
theorem ow_map {t : TypeId} (hN : o.dst = N) (ho : o.op = .makeMap t none)
    (h : ∀ g w', w.heap.size ≤ g → w'.heap[g]? = some (.map #[] 0) → Upd [] w w' → K (a.put N (.map (some g))) w') : OW P o a w K Q := by
  refine OW.mk ?_
  subst hN
  have hrun : (execOp a.eval o).run P w = .ok (.value (.map (some w.heap.size))) (w.alloc (.map #[] 0)) := by
    unfold execOp
    simp [ho, run_makeMap]
  unfold Oper.wp
  rw [hrun]
  exact h _ _ (Nat.le_refl _) (blk_new ..) ((Upd.refl [] w).alloc _)
theorem ow_ins {t kt e : TypeId} {q : IntKind} {m k x : Operand} {r : Nat} {es : Array MapEntry} {clk : Nat} (n : Int) (v : Value) (es' : Array MapEntry) (clk' : Nat) (hN : o.dst = N) (hop : o.op = .insert t m k x)
    (ht : P.underlying t = some (.map kt e)) (hk : P.underlying kt = some (.int q)) (hm : a.eval m = .map (some r)) (hb : w.heap[r]? = some (.map es clk))
    (hkv : a.eval k = .int q n) (hx : a.eval x = v) (hno : Instr.findNow (.int q) (.int q n) es.toList 0 = some none) (he : es.push ⟨.int q n, v, clk⟩ = es') (hc : clk + 1 = clk')
    (h : ∀ w', w'.heap[r]? = some (.map es' clk') → Upd [r] w w' → K (a.put N undef) w') : OW P o a w K Q := by
  refine OW.mk ?_
  subst hN
  subst he
  subst hc
  obtain ⟨w', hrr, h1, h2⟩ := run_mapput ht hk hb n v hno
  have hrun : (execOp a.eval o).run P w = .ok .skip w' := by
    unfold execOp
    simp [hop, hm, hkv, hx, hrr, Result.andThen]
  unfold Oper.wp
  rw [hrun]
  exact h w' h1 h2
theorem ow_look {t kt e : TypeId} {q : IntKind} {m k : Operand} {cok : Bool} {r : Nat} {es : Array MapEntry} {clk : Nat} (n : Int) (z : Value) (res : Option (Nat × Value)) (u : Value) (hN : o.dst = N) (hop : o.op = .lookup t m k cok)
    (ht : P.underlying t = some (.map kt e)) (hk : P.underlying kt = some (.int q)) (hm : a.eval m = .map (some r)) (hb : w.heap[r]? = some (.map es clk)) (hkv : a.eval k = .int q n)
    (hz : (zeroValue e).run P w = .ok z w) (hf : Instr.findNow (.int q) (.int q n) es.toList 0 = some res) (hu : (if cok then .tuple #[(res.map (·.2)).getD z, .bool res.isSome] else (res.map (·.2)).getD z) = u)
    (h : K (a.put N u) w) : OW P o a w K Q := by
  subst hu
  refine ow_val _ hN ?_ h
  unfold execOp
  simp only [hop, hm, hkv]
  simp only [Sem.run_bind, Sem.run_map, run_lookup_known ht hk hb n z hz hf cok, Result.andThen, Sem.run_pure]
theorem run_cutf {o : Oper} {ev : Operand → Value} {P : Program} {w : World} {t : TypeId} {x y : Operand} {A : Option Addr} {n c : Nat} {kl : IntKind} {k : Int} {v : Value} {e : TypeId} (ho : o.op = .slice t x (some y) none none) (ht : P.underlying t = some (.slice e)) (hx : ev x = .slice A n c) (hy : ev y = .int kl k)
    (hr : (Instr.slice t (.slice A n c) (some (.int kl k)) none none).run P w = .ok v w) : (execOp ev o).run P w = .ok (.value v) w := by
  have hu : (underlying t).run P w = .ok (.slice e) w := run_underlying ht w
  unfold execOp
  simp only [ho, Option.map_some, Option.map_none, hx, hy, Instr.sliceAt, Sem.run_bind, hu, hr, Result.andThen, Sem.run_pure]
theorem ow_ix {t e : TypeId} {x ix : Operand} {A : Option Addr} {n c b off j : Nat} {k : IntKind} {i : Int} (hN : o.dst = N) (ho : o.op = .indexAddr t x ix) (ht : P.underlying t = some (.slice e)) (hi : (P.info? e).map (·.size) = some 1)
    (hx : a.eval x = .slice A n c) (hix : a.eval ix = .int k i) (hj : i = j) (hlt : j < n) (hA : A = some ⟨b, off, none⟩) (h : K (a.put N (.pointer (some ⟨b, off + j, none⟩))) w) : OW P o a w K Q := by
  subst hj
  subst hA
  obtain ⟨i0, hi0, hs⟩ := Option.map_eq_some_iff.1 hi
  refine ow_val _ hN ?_ h
  unfold execOp
  have h2 : (0 : Int) ≤ (j : Int) ∧ (j : Int) < (n : Int) := by omega
  simp [ho, hx, hix, Instr.indexAt, asIntOf, run_underlying ht, Result.andThen, h2, sizeOf, typeInfo, hi0, hs, add_mk, hlt]
theorem ow_call {f : FuncId} {fn : Func} {opds : Array Operand} {ts : Array TypeId} (args : Array Value) (hN : o.dst = N) (hop : o.op = .call { callee := .value (.func f), args := opds, argTypes := ts })
    (hf : P.funcs[f]? = some fn) (hname : (fn.name == "runtime.NumGoroutine") = false) (hb : fn.body.isSome = true) (hargs : opds.map a.eval = args)
    (h : Calls P f args w fun e w' => ∃ v, e = .returned v ∧ K (a.put N v) w') : OW P o a w K Q := by
  refine OW.mk ?_
  subst hN
  have h1 : fn.name ≠ "runtime.NumGoroutine" := by simpa using hname
  obtain ⟨cd, hcd⟩ := Option.isSome_iff_exists.1 hb
  have hrun : (execOp a.eval o).run P w = .ok (.enter f args) w := by
    unfold execOp
    simp [hop, resolve, Deferred.ofValue, invoke, Act.eval, hargs, callFunc, hf, h1, hcd]
  unfold Oper.wp
  rw [hrun, Oper.upon_enter]
  refine h.mono fun e w'' hh => ?_
  obtain ⟨v, rfl, h2⟩ := hh
  exact h2
theorem ow_callv {f : FuncId} {fn : Func} {x : Operand} {opds : Array Operand} {ts : Array TypeId} (first cap args : Array Value) (hN : o.dst = N) (hop : o.op = .call { callee := .value x, args := opds, argTypes := ts })
    (hx : a.eval x = .func (.func f) first cap) (hf : P.funcs[f]? = some fn) (hname : (fn.name == "runtime.NumGoroutine") = false) (hb : fn.body.isSome = true) (hargs : (first ++ opds.map a.eval) ++ cap = args)
    (h : Calls P f args w fun e w' => ∃ v, e = .returned v ∧ K (a.put N v) w') : OW P o a w K Q := by
  refine OW.mk ?_
  subst hN
  have h1 : fn.name ≠ "runtime.NumGoroutine" := by simpa using hname
  obtain ⟨cd, hcd⟩ := Option.isSome_iff_exists.1 hb
  have hrun : (execOp a.eval o).run P w = .ok (.enter f args) w := by
    unfold execOp
    simp only [hop, resolve, hx, Deferred.ofValue, Sem.run_bind, Sem.run_pure, Result.andThen_ok, invoke, hargs, callFunc, program]
    simp [Sem.run, hf, h1, hcd]
  unfold Oper.wp
  rw [hrun, Oper.upon_enter]
  refine h.mono fun e w'' hh => ?_
  obtain ⟨v, rfl, h2⟩ := hh
  exact h2
end
section
variable {P : Program} {ops : Array Oper} {Q : Exit → Act → World → Prop} {S : World → Prop}
structure HeldK (P : Program) (ops : Array Oper) (Q : Exit → Act → World → Prop) (S : World → Prop) (fuel : Nat) (l : Array Bool) (a : Act) (w : World) : Prop where
  s : S w
  out : WA P ops Q S fuel l a w
theorem heldk {fuel : Nat} {l : Array Bool} {a : Act} {w : World} (hS : S w) (h : S w → WA P ops Q S fuel l a w) : HeldK P ops Q S fuel l a w := ⟨hS, h hS⟩
theorem Rgo {id n : Nat} {a : Act} {w : World} (S : World → Prop) (l : Array Bool) (hm : P.follows .mixedOrders = true) (hn : ops.size = n) (hl : Array.replicate n false = l)
    (h : ∀ w', Upd [] w w' → HeldK P ops Q S n l a w') : (Code.region id ops true).wp P Q a w := by
  subst hn
  subst hl
  exact wp_region_held hm (h w.drew (Upd.refl [] w).drew).out.out
theorem Rst {i : Nat} {oi : Oper} {fuel : Nat} {l : Array Bool} {a : Act} {w : World} (l' : Array Bool) (hi : ops[i]? = some oi) (hc : rdB ops l l' i = true)
    (hw : Region.wanted oi (yielded ops a.tmps) = true) (h : OW P oi a w (HeldK P ops Q S fuel l') Q) : WA P ops Q S (fuel + 1) l a w := by
  refine ⟨?_⟩
  simp only [rdB, Bool.and_eq_true, beq_iff_eq] at hc
  obtain ⟨h1, h2⟩ := hc
  subst h2
  refine wpAnyH_all h1 (by simp) fun j hj => ?_
  obtain rfl : j = i := by simpa using hj
  unfold wpOp
  simp only [hi]
  rw [if_pos hw]
  exact .inl (ow_next h fun _ _ h => ⟨h.s, h.out.out⟩)
theorem Rst2 {i j : Nat} {oi oj : Oper} {fuel : Nat} {l : Array Bool} {a : Act} {w : World} (li lj : Array Bool) (hi : ops[i]? = some oi) (hj : ops[j]? = some oj) (hr : (Region.ready .any ops l == [i, j]) = true)
    (hli : l.setIfInBounds i true = li) (hlj : l.setIfInBounds j true = lj) (hwi : Region.wanted oi (yielded ops a.tmps) = true) (hwj : Region.wanted oj (yielded ops a.tmps) = true)
    (h1 : OW P oi a w (HeldK P ops Q S fuel li) Q) (h2 : OW P oj a w (HeldK P ops Q S fuel lj) Q) : WA P ops Q S (fuel + 1) l a w := by
  subst hli
  subst hlj
  simp only [beq_iff_eq] at hr
  refine ⟨wpAnyH_all hr (by simp) fun k hk => ?_⟩
  unfold wpOp
  simp at hk
  rcases hk with rfl | rfl
  · simp only [hi]
    rw [if_pos hwi]
    exact .inl (ow_next h1 fun _ _ h => ⟨h.s, h.out.out⟩)
  · simp only [hj]
    rw [if_pos hwj]
    exact .inl (ow_next h2 fun _ _ h => ⟨h.s, h.out.out⟩)
theorem Rtk {i : Nat} {N : Option Tmp} {oi : Oper} {fuel : Nat} {l : Array Bool} {a : Act} {w : World} (v : Value) (l' : Array Bool) (hi : ops[i]? = some oi) (hN : oi.dst = N) (hc : tkB ops l l' i = true)
    (hQ : ∀ c a w, Q (.panic c) (a.put oi.dst v) w → Q (.panic c) a w) (hw : Region.wanted oi (yielded ops a.tmps) = true) (hy : ∀ w, S w → (execOp a.eval oi).run P w = .ok (.value v) w) (hS : S w)
    (h : WA P ops Q S fuel l' (a.put N v) w) : WA P ops Q S (fuel + 1) l a w :=
  ⟨rg_take (v := v) l' hi hN hc hQ (.inl ⟨hw, hy⟩) hS rfl h.out⟩
theorem Roff {i : Nat} {N : Option Tmp} {oi : Oper} {fuel : Nat} {l : Array Bool} {a : Act} {w : World} (l' : Array Bool) (hi : ops[i]? = some oi) (hN : oi.dst = N) (hc : tkB ops l l' i = true)
    (hQ : ∀ c a w, Q (.panic c) (a.put oi.dst undef) w → Q (.panic c) a w) (hw : Region.wanted oi (yielded ops a.tmps) = false) (hS : S w)
    (h : WA P ops Q S fuel l' (a.put N undef) w) : WA P ops Q S (fuel + 1) l a w :=
  ⟨rg_take (v := undef) l' hi hN hc hQ (.inr ⟨hw, rfl⟩) hS rfl h.out⟩
theorem fg_r {fuel : Nat} {l : Array Bool} {w : World} {L : List Value} {D : List Deferred} (F : (Nat → Value) → List Value) (h : L = F (fun i => L.getD i undef)) (k : ∀ d, WA P ops Q S fuel l ⟨(F d).toArray, D⟩ w) : WA P ops Q S fuel l ⟨L.toArray, D⟩ w := by
  have h2 := k (fun i => L.getD i undef)
  rw [← h] at h2
  exact h2
theorem fp_r {fuel : Nat} {l : Array Bool} {w : World} {L : List Value} {D : List Deferred} {N : Option Tmp} {v : Value} (k : WA P ops Q S fuel l ⟨(fput L N v).toArray, D⟩ w) : WA P ops Q S fuel l (Act.put ⟨L.toArray, D⟩ N v) w := by rw [put_fput]; exact k
theorem fr_r {fuel : Nat} {l : Array Bool} {a : Act} {w : World} (a' : Act) (h : a = a') (k : WA P ops Q S fuel l a' w) : WA P ops Q S fuel l a w := by subst h; exact k
theorem Rend {l : Array Bool} {a : Act} {w : World} {n : Nat} (hr : (Region.ready .any ops l == []) = true) (h : Q .normal a w) : WA P ops Q S n l a w := ⟨wpAnyH_done (by simpa using hr) h n⟩
end
theorem rng_nil {B : Int} : ∀ x, x ∈ ([] : List Int) → 0 ≤ x ∧ x < B := fun x h => by simp at h
theorem rng_cons {B a : Int} {l : List Int} (h : 0 ≤ a ∧ a < B) (k : ∀ x, x ∈ l → 0 ≤ x ∧ x < B) : ∀ x, x ∈ a :: l → 0 ≤ x ∧ x < B := fun x hx => by
  rcases List.mem_cons.1 hx with rfl | hx
  · exact h
  · exact k x hx
theorem litO {α : Type} {R : World → α → List Value → Prop} {enc : α → Value} {w0 w : World} {e : TypeId} {g : Nat} {cs : Array Value} {xs : List α} (hg : w0.heap.size ≤ g) (hcs : cs = (xs.map enc).toArray) (hR : ∀ x, x ∈ xs → R w x [enc x]) (hl : xs.length ≤ 4194304) (hb : w.heap[g]? = some (.cells cs e (0, 0))) :
    OwnG w0.heap.size e 1 R w (.slice (some ⟨g, 0, none⟩) xs.length xs.length) xs := by
  subst hcs
  refine own_of_row (enc := enc) hR ⟨by simp, .inr ⟨g, xs.length, _, rfl, hg, hb, Nat.le_refl _, by unfold maxLen; omega, by simp, by simp [List.take_of_length_le]⟩⟩
theorem litB {w0 w : World} {g : Nat} {cs : Array Value} {xs : List Int} (hg : w0.heap.size ≤ g) (hcs : cs = (xs.map (Value.int .u8)).toArray) (hx : ∀ x, x ∈ xs → 0 ≤ x ∧ x < 256) (hl : xs.length ≤ 4194304) (hb : w.heap[g]? = some (.cells cs 5 (0, 0))) :
    OwnB w0.heap.size w (.slice (some ⟨g, 0, none⟩) xs.length xs.length) xs := litO (enc := Value.int .u8) hg hcs (fun x h => ⟨rfl, (hx x h).1, (hx x h).2⟩) hl hb
theorem litW {w0 w : World} {g : Nat} {cs : Array Value} {xs : List Int} (hg : w0.heap.size ≤ g) (hcs : cs = (xs.map (Value.int .u16)).toArray) (hx : ∀ x, x ∈ xs → 0 ≤ x ∧ x < 65536) (hl : xs.length ≤ 4194304) (hb : w.heap[g]? = some (.cells cs 23 (0, 0))) :
    OwnW w0.heap.size w (.slice (some ⟨g, 0, none⟩) xs.length xs.length) xs := litO (enc := Value.int .u16) hg hcs (fun x h => ⟨rfl, (hx x h).1, (hx x h).2⟩) hl hb
theorem eq_of_beqi {x y : Int} (h : (x == y) = true) : x = y := by simpa using h
theorem ne_of_beqi {x y : Int} (h : (x == y) = false) : ¬ x = y := by simpa using h
theorem ne_of_bnei {x y : Int} (h : (x != y) = true) : ¬ x = y := by simpa using h
theorem eq_of_bnei {x y : Int} (h : (x != y) = false) : x = y := by simpa using h
theorem and_t {x y : Bool} (h : (x && y) = true) : x = true ∧ y = true := by simpa using h
theorem or_f {x y : Bool} (h : (x || y) = false) : x = false ∧ y = false := by simpa using h
theorem i00 : ((0 : Int) == 0) = true := rfl
theorem i01 : ((0 : Int) == 1) = false := rfl
theorem i10 : ((1 : Int) == 0) = false := rfl
theorem i11 : ((1 : Int) == 1) = true := rfl
theorem b8 {x : Int} (h : 0 ≤ x ∧ x < 256) : B8 x := h
theorem b16 {x : Int} (h : 0 ≤ x ∧ x < 65536) : B16 x := h
def ob (A : Option Addr) : List Nat := (A.map (·.block)).toList
theorem ob_cases {α : Type} {base sz : Nat} {e : TypeId} {R : World → α → List Value → Prop} {w : World} {A : Option Addr} {n c : Nat} {xs : List α} (h : OwnG base e sz R w (.slice A n c) xs) :
    A = none ∨ ∃ g cells, A = some ⟨g, 0, none⟩ ∧ base ≤ g ∧ w.heap[g]? = some (.cells cells e (0, 0)) := by
  obtain ⟨cells, ⟨_, ho⟩, _⟩ := h
  rcases ho with ⟨hv, _⟩ | ⟨g, cap, cur, hv, hb, hh, _⟩
  · injection hv with h1
    exact .inl h1
  · injection hv with h1
    exact .inr ⟨g, cur, h1, hb, hh⟩
theorem ob_ge {α : Type} {base sz : Nat} {e : TypeId} {R : World → α → List Value → Prop} {w : World} {A : Option Addr} {n c : Nat} {xs : List α} (h : OwnG base e sz R w (.slice A n c) xs) : ∀ x, x ∈ ob A → base ≤ x := by
  intro x hx
  rcases ob_cases h with rfl | ⟨g, cells, rfl, h1, h2⟩
  · simp [ob] at hx
  · simp [ob] at hx
    omega
theorem ob_lt {α : Type} {base sz : Nat} {e : TypeId} {R : World → α → List Value → Prop} {w : World} {A : Option Addr} {n c : Nat} {xs : List α} (h : OwnG base e sz R w (.slice A n c) xs) : ∀ x, x ∈ ob A → x < w.heap.size := by
  intro x hx
  rcases ob_cases h with rfl | ⟨g, cells, rfl, h1, h2⟩
  · simp [ob] at hx
  · simp [ob] at hx
    have := blk_lt h2
    omega
theorem ob_safe {α : Type} {base sz : Nat} {e : TypeId} {R : World → α → List Value → Prop} {w : World} {A : Option Addr} {n c : Nat} {xs : List α} (D : List TypeId) (h : OwnG base e sz R w (.slice A n c) xs) (hD : D.contains e = false) : Safe true D (ob A) w := by
  intro x hx
  rcases ob_cases h with rfl | ⟨g, cells, rfl, h1, h2⟩
  · simp [ob] at hx
  · simp [ob] at hx
    subst hx
    exact .inr ⟨rfl, _, _, _, h2, by simpa using hD⟩
theorem not_old {α : Type} {base sz : Nat} {e : TypeId} {R : World → α → List Value → Prop} {w W : World} {A : Option Addr} {n c g : Nat} {xs : List α} (hg : g < W.heap.size) (hs : W.heap.size ≤ base) (h : OwnG base e sz R w (.slice A n c) xs) : g ∉ ob A := fun hx => by
  have := ob_ge h g hx
  omega
theorem not_young {α : Type} {base sz : Nat} {e : TypeId} {R : World → α → List Value → Prop} {w W : World} {A : Option Addr} {n c g : Nat} {xs : List α} (h : OwnG base e sz R w (.slice A n c) xs) (hs : w.heap.size ≤ W.heap.size) (hg : W.heap.size ≤ g) : g ∉ ob A := fun hx => by
  have := ob_lt h g hx
  omega
theorem not_type {α : Type} {base sz : Nat} {e t : TypeId} {R : World → α → List Value → Prop} {w : World} {A : Option Addr} {n c g : Nat} {xs : List α} {cs : Array Value} {fr : Nat × Nat} (hb : w.heap[g]? = some (.cells cs t fr)) (h : OwnG base e sz R w (.slice A n c) xs) (ht : (t == e) = false) : g ∉ ob A := fun hx => by
  rcases ob_cases h with rfl | ⟨g', cells, rfl, h1, h2⟩
  · simp [ob] at hx
  · simp [ob] at hx
    subst hx
    rw [hb] at h2
    injection h2 with h2
    injection h2 with _ h3
    simp [h3] at ht
theorem not_app {g : Nat} {s S : List Nat} (h : g ∉ s) (k : g ∉ S) : g ∉ s ++ S := by simp [h, k]
theorem not_cons {g a : Nat} {S : List Nat} (h : g ≠ a) (k : g ∉ S) : g ∉ a :: S := by simp [h, k]
theorem all_app {p : Nat → Prop} {s S : List Nat} (h : ∀ x, x ∈ s → p x) (k : ∀ x, x ∈ S → p x) : ∀ x, x ∈ s ++ S → p x := fun x hx => by
  rcases List.mem_append.1 hx with hx | hx
  · exact h x hx
  · exact k x hx
theorem all_cons {p : Nat → Prop} {a : Nat} {S : List Nat} (h : p a) (k : ∀ x, x ∈ S → p x) : ∀ x, x ∈ a :: S → p x := fun x hx => by
  rcases List.mem_cons.1 hx with rfl | hx
  · exact h
  · exact k x hx
theorem ob_new {α : Type} {base sz : Nat} {e : TypeId} {R : World → α → List Value → Prop} {w W : World} {A : Option Addr} {n c : Nat} {xs : List α} {S : List Nat} (h : OwnG base e sz R w (.slice A n c) xs) (hs : W.heap.size ≤ base) : ∀ x, x ∈ ob A → x ∈ S ∨ W.heap.size ≤ x := fun x hx => .inr (Nat.le_trans hs (ob_ge h x hx))
theorem safe_app {m : Bool} {D : List TypeId} {w : World} {s S : List Nat} (h : Safe m D s w) (k : Safe m D S w) : Safe m D (s ++ S) w := fun x hx => by
  rcases List.mem_append.1 hx with hx | hx
  · exact h x hx
  · exact k x hx
theorem own_stay {α : Type} {base sz : Nat} {e : TypeId} {R : World → α → List Value → Prop} {w w' : World} {A : Option Addr} {n c : Nat} {xs : List α} {S : List Nat}
    (h : OwnG base e sz R w (.slice A n c) xs) (hu : Upd S w w') (hn : ∀ x, x ∈ ob A → x ∉ S) (hR : ∀ x cs, R w x cs → R w' x cs) : OwnG base e sz R w' (.slice A n c) xs := by
  obtain ⟨cells, ho, hx⟩ := h
  refine ⟨cells, ownsRow_blk ho fun g hg => ?_, fun j x hj => ?_⟩
  · rcases ho.2 with ⟨hv, _⟩ | ⟨g', cap, cur, hv, hb, hh, _⟩
    · rw [hv] at hg; simp [Value.ownBlock] at hg
    · rw [hv] at hg
      have : g' = g := by simpa [Value.ownBlock] using hg
      subst this
      injection hv with h1
      exact hu.block _ (blk_lt hh) (hn _ (by simp [ob, h1]))
  · obtain ⟨cs, hl, hr, hc⟩ := hx j x hj
    exact ⟨cs, hl, hR _ _ hr, hc⟩
theorem rows_old {α β : Type} {base base' sz sz' : Nat} {e e' : TypeId} {R : World → α → List Value → Prop} {R' : World → β → List Value → Prop} {w w' : World} {A A' : Option Addr} {n c n' c' : Nat} {xs : List α} {ys : List β}
    (h : OwnG base e sz R w (.slice A n c) xs) (hs : w.heap.size ≤ base') (h' : OwnG base' e' sz' R' w' (.slice A' n' c') ys) : ∀ x, x ∈ ob A → x ∉ ob A' := fun x hx hx' => by
  have h1 := ob_lt h x hx
  have h2 := ob_ge h' x hx'
  omega
theorem rows_young {α β : Type} {base base' sz sz' : Nat} {e e' : TypeId} {R : World → α → List Value → Prop} {R' : World → β → List Value → Prop} {w w' : World} {A A' : Option Addr} {n c n' c' : Nat} {xs : List α} {ys : List β}
    (h : OwnG base e sz R w (.slice A n c) xs) (h' : OwnG base' e' sz' R' w' (.slice A' n' c') ys) (hs : w'.heap.size ≤ base) : ∀ x, x ∈ ob A → x ∉ ob A' := fun x hx hx' => by
  have h1 := ob_ge h x hx
  have h2 := ob_lt h' x hx'
  omega
theorem ow_appg {P : Program} {Q : Exit → Act → World → Prop} {a : Act} {w : World} {K : Act → World → Prop} {o : Oper} {N : Option Tmp} {α : Type} {R : World → α → List Value → Prop}
    {s x : Operand} {t e : TypeId} {base n c : Nat} {A : Option Addr} (z : Value) (sz bytes : Nat) (hN : o.dst = N) (ho : o.op = .call { callee := .builtin .append, args := #[s, x], argTypes := #[t, t] })
    (ht : P.underlying t = some (.slice e)) (hinfo : (P.info? e).map (fun i => (i.zero, i.size, i.bytes)) = some (some z, sz, bytes)) (hz : z.cells.size = sz) (hsz : 0 < sz)
    (xs : List α) (hs : a.eval s = .slice A n c) (HO : OwnG base e sz R w (.slice A n c) xs) {m : Bool} {e' : TypeId} (u : Value) (ys : List α) (hx : a.eval x = u) (HY : RdG m e' sz R w u ys) (hne : 0 < ys.length)
    (hone : ∀ x cs, R w x cs → ∀ v, v ∈ cs → v.oneCell' = true) (hRU : ∀ w', Upd (ob A ++ []) w w' → ∀ x cs, R w x cs → R w' x cs)
    (hl : xs.length + ys.length ≤ 4194304) (hby : bytes ≤ 65536) (hbase : base ≤ w.heap.size)
    (h : ∀ A' c' w', OwnG base e sz R w' (.slice A' (xs ++ ys).length c') (xs ++ ys) → Upd (ob A ++ []) w w' → K (a.put N (.slice A' (xs ++ ys).length c')) w') : OW P o a w K Q := by
  subst hN
  refine ⟨?_⟩
  obtain ⟨i0, hi, hz0, hz1, hz2⟩ := info_parts hinfo
  obtain ⟨v', w', hr, h1, hU⟩ : ∃ v' w', (Builtin.append_ #[t, t] o.type #[.slice A n c, u]).run P w = .ok v' w' ∧ OwnG base e sz R w' v' (xs ++ ys) ∧ Upd (ob A ++ []) w w' := by
    obtain ⟨A2, c2, rfl, _, _, _, h3⟩ := HY
    obtain ⟨b, off, cells, t', fr, rfl, hb, _, hc⟩ := h3 hne
    have hA := ob_cases HO
    obtain ⟨cs0, ho0, hx0⟩ := HO
    have hn : n = xs.length := by
      rcases ho0.2 with ⟨hv, h0⟩ | ⟨_, _, _, hv, _⟩
      · injection hv with _ h2 _; omega
      · injection hv
    -- the cells that come
    let news := (cells.toList.drop off).take (ys.length * sz)
    have hget : ∀ (j : Nat) (y : α), ys[j]? = some y → ∃ cs : List Value, cs.length = sz ∧ R w y cs ∧ ∀ i u, cs[i]? = some u → news[j * sz + i]? = some u := by
      intro j y hj
      obtain ⟨cs, h4, h5, h6⟩ := hc j y hj
      refine ⟨cs, h4, h5, fun i u hu => ?_⟩
      have hi' : i < sz := by have := (List.getElem?_eq_some_iff.1 hu).1; omega
      have hj' : j < ys.length := (List.getElem?_eq_some_iff.1 hj).1
      have hlt : j * sz + i < ys.length * sz := by
        have : (j + 1) * sz ≤ ys.length * sz := Nat.mul_le_mul_right sz hj'
        rw [Nat.add_mul] at this
        omega
      show ((cells.toList.drop off).take (ys.length * sz))[j * sz + i]? = some u
      rw [List.getElem?_take, if_pos hlt, List.getElem?_drop]
      have := h6 i u hu
      rw [← this]
      simp [Nat.add_assoc]
    have hnl : news.length = ys.length * sz := by
      have hlast := hc (ys.length - 1) (ys[ys.length - 1]'(by omega)) (by simp)
      obtain ⟨cs, h4, h5, h6⟩ := hlast
      obtain ⟨u, hu⟩ : ∃ u, cs[sz - 1]? = some u := ⟨cs[sz - 1]'(by omega), by simp⟩
      have h7 := (Array.getElem?_eq_some_iff.1 (h6 (sz - 1) u hu)).1
      show ((cells.toList.drop off).take (ys.length * sz)).length = _
      rw [List.length_take, List.length_drop]
      have hcl : cells.toList.length = cells.size := Array.length_toList
      have : (ys.length - 1) * sz + sz = ys.length * sz := by
        rw [← Nat.succ_mul]
        congr 1
        omega
      omega
    have hnews : ∀ j u, news[j]? = some u → w.cell? ((⟨b, off, none⟩ : Addr).add j) = some u := by
      intro j u hj
      have hj' : j < ys.length * sz := by have := (List.getElem?_eq_some_iff.1 hj).1; omega
      change ((cells.toList.drop off).take (ys.length * sz))[j]? = some u at hj
      rw [List.getElem?_take, if_pos hj', List.getElem?_drop] at hj
      rw [add_mk _ _ _ _ rfl, blk_cell hb]
      simpa using hj
    have hnone : ∀ u, u ∈ news → u.oneCell' = true := by
      intro u hu
      obtain ⟨k, hk⟩ := List.getElem?_of_mem hu
      have hk' : k < ys.length * sz := by have := (List.getElem?_eq_some_iff.1 hk).1; omega
      have hd : k / sz < ys.length := Nat.div_lt_of_lt_mul (by rw [Nat.mul_comm]; exact hk')
      obtain ⟨cs, h4, h5, h6⟩ := hget (k / sz) (ys[k / sz]'hd) (by simp)
      have hm : k % sz < cs.length := by rw [h4]; exact Nat.mod_lt _ hsz
      have h7 := h6 (k % sz) (cs[k % sz]'hm) (by simp)
      rw [Nat.div_add_mod' k sz, hk] at h7
      injection h7 with h7
      exact hone _ _ h5 u (by rw [h7]; simp)
    have hmul : (xs.length + ys.length) * bytes ≤ 140737488355328 := Nat.le_trans (Nat.mul_le_mul hl hby) (by decide)
    subst hn
    obtain ⟨v', w', hr, hown, hg, _, _⟩ := run_append_own_at (P := P) (w := w) base t o.type e i0 z sz bytes ht hi hz0 hz1 hz2 hz hsz _ xs.length cs0 ho0 ⟨b, off, none⟩ ys.length c2 news hnl hnews hnone (by unfold maxLen; omega) hmul hbase
    have hU : Upd (ob A ++ []) w w' := Upd.of_grown hg _ fun k hk => .inl (by
      rcases hA with rfl | ⟨g, cells, rfl, _, _⟩
      · simp [Value.ownBlock] at hk
      · simp [Value.ownBlock] at hk
        simp [ob, hk])
    refine ⟨v', w', hr, ⟨cs0 ++ news, by simpa using hown, fun j y hj => ?_⟩, hU⟩
    rcases Nat.lt_or_ge j xs.length with hjx | hjx
    · rw [List.getElem?_append_left hjx] at hj
      obtain ⟨cs, h4, h5, h6⟩ := hx0 j y hj
      refine ⟨cs, h4, hRU w' hU _ _ h5, fun i u hu => ?_⟩
      have := h6 i u hu
      rw [List.getElem?_append_left (List.getElem?_eq_some_iff.1 this).1]
      exact this
    · rw [List.getElem?_append_right hjx] at hj
      obtain ⟨cs, h4, h5, h6⟩ := hget _ y hj
      refine ⟨cs, h4, hRU w' hU _ _ h5, fun i u hu => ?_⟩
      have := h6 i u hu
      have hle : cs0.length ≤ j * sz + i := by
        rw [ho0.1]
        have := Nat.mul_le_mul_right sz hjx
        omega
      rw [List.getElem?_append_right hle, ho0.1, ← this]
      congr 1
      rw [Nat.sub_mul]
      have := Nat.mul_le_mul_right sz hjx
      omega
  have hrun : (execOp a.eval o).run P w = .ok (.value v') w' := by
    unfold execOp
    simp only [ho, resolve, invoke, builtin, Sem.run_bind, Sem.run_pure, Result.andThen_ok, List.map_toArray, List.map_cons, List.map_nil, hs, hx, hr]
  unfold Oper.wp
  rw [hrun]
  obtain ⟨A', c', rfl, _, _⟩ := h1.rd.shape
  exact h _ _ _ h1 hU
theorem lit1 {α : Type} {R : World → α → List Value → Prop} {w : World} {e : TypeId} {g sz : Nat} {cs : Array Value} {x : α} (hb : w.heap[g]? = some (.cells cs e (0, 0))) (hs : cs.toList.length = sz) (hR : R w x cs.toList) : RdG true e sz R w (.slice (some ⟨g, 0, none⟩) 1 1) [x] := by
  refine ⟨_, 1, rfl, Nat.le_refl _, by unfold maxLen; omega, (fun h => by cases h), fun _ => ⟨g, 0, cs, e, (0, 0), rfl, hb, fun _ => rfl, fun j y hj => ?_⟩⟩
  have : j = 0 := by have := (List.getElem?_eq_some_iff.1 hj).1; simp at this; exact this
  subst this
  simp at hj
  subst hj
  exact ⟨cs.toList, hs, hR, fun i u hu => by simpa using hu⟩
theorem objR.upd8 {m : Bool} {w w' : World} {S : List Nat} (hu : Upd S w w') (hs : Safe m [5] S w) (r : Obj) (cs : List Value) (h : objR m w r cs) : objR m w' r cs := by
  obtain ⟨v, h1, h2, h3⟩ := h
  exact ⟨v, h1, RdB.upd' h2 hu hs, h3⟩
theorem recR.upd16 {m : Bool} {w w' : World} {S : List Nat} (hu : Upd S w w') (hs : Safe m [23] S w) (r : Rec) (cs : List Value) (h : recR m w r cs) : recR m w' r cs := by
  obtain ⟨v, h1, h2, h3⟩ := h
  exact ⟨v, h1, RdW.upd' h2 hu hs, h3⟩
theorem objR.ones {m : Bool} {w : World} (x : Obj) (cs : List Value) (h : objR m w x cs) : ∀ v, v ∈ cs → v.oneCell' = true := by
  obtain ⟨v, rfl, h2, _⟩ := h
  intro u hu
  simp at hu
  rcases hu with rfl | rfl
  · rfl
  · exact RdG.one h2
theorem recR.ones {m : Bool} {w : World} (x : Rec) (cs : List Value) (h : recR m w x cs) : ∀ v, v ∈ cs → v.oneCell' = true := by
  obtain ⟨v, rfl, h2, _⟩ := h
  intro u hu
  simp at hu
  rcases hu with rfl | rfl | rfl | rfl
  · rfl
  · rfl
  · rfl
  · exact RdG.one h2
theorem ow_app {P : Program} {Q : Exit → Act → World → Prop} {a : Act} {w : World} {K : Act → World → Prop} {o : Oper} {N : Option Tmp} {α : Type} {R : World → α → List Value → Prop} {enc : α → Value} (hR : One R enc)
    {s x : Operand} {t e : TypeId} {base n c : Nat} {A : Option Addr} (z : Value) (bytes : Nat) (hN : o.dst = N) (ho : o.op = .call { callee := .builtin .append, args := #[s, x], argTypes := #[t, t] })
    (ht : P.underlying t = some (.slice e)) (hinfo : (P.info? e).map (fun i => (i.zero, i.size, i.bytes)) = some (some z, 1, bytes)) (hz : z.cells.size = 1)
    (xs : List α) (hs : a.eval s = .slice A n c) (HO : OwnG base e 1 R w (.slice A n c) xs) {m : Bool} {e' : TypeId} (u : Value) (ys : List α) (hx : a.eval x = u) (HY : RdG m e' 1 R w u ys)
    (hl : xs.length + ys.length ≤ 4194304) (hby : bytes ≤ 65536) (hbase : base ≤ w.heap.size)
    (h : ∀ A' c' w', OwnG base e 1 R w' (.slice A' (xs ++ ys).length c') (xs ++ ys) → Upd (ob A ++ []) w w' → K (a.put N (.slice A' (xs ++ ys).length c')) w') : OW P o a w K Q := by
  subst hN
  refine ⟨?_⟩
  obtain ⟨i0, hi, hz0, hz1, hz2⟩ := info_parts hinfo
  obtain ⟨v', w', hr, h1, hU⟩ : ∃ v' w', (Builtin.append_ #[t, t] o.type #[.slice A n c, u]).run P w = .ok v' w' ∧ OwnG base e 1 R w' v' (xs ++ ys) ∧ Upd (ob A) w w' := by
    obtain ⟨A2, c2, hu, hc1, hc2⟩ := HY.shape
    subst hu
    cases A2 with
    | none =>
      obtain ⟨A2, c', hv, _, _, h0, h3⟩ := HY
      injection hv with e1 e2 e3
      subst e1 e3
      obtain rfl : ys = [] := by
        rcases Nat.eq_zero_or_pos ys.length with h0 | h0
        · exact List.eq_nil_of_length_eq_zero h0
        · obtain ⟨b, off, cells, t, fr, hh, _⟩ := h3 h0
          cases hh
      obtain rfl := h0 rfl
      have hn : n = xs.length := by
        obtain ⟨_, _, hv, _⟩ := HO.rd.shape
        injection hv
      exact ⟨_, w, by subst hn; exact run_append_owned_none (P := P) (w := w) base t o.type e i0 1 ht hi _ xs.length (xs.map enc) (row_of_own hR.cell HO), by subst hn; simpa using HO, Upd.refl _ _⟩
    | some ad =>
      obtain ⟨_, hnews⟩ := cell_news hR.cell HY
      have hmul : (xs.length + ys.length) * bytes ≤ 140737488355328 := Nat.le_trans (Nat.mul_le_mul hl hby) (by decide)
      obtain ⟨v', w', hr, hown, hg, _, _⟩ := run_append_own_at (P := P) (w := w) base t o.type e i0 z 1 bytes ht hi hz0 hz1 hz2 hz (by decide) _ xs.length (xs.map enc) (row_of_own hR.cell HO) ad ys.length c2 (ys.map enc) (by simp) hnews
        (fun u hu => by obtain ⟨y, _, rfl⟩ := List.mem_map.1 hu; exact hR.one y) (by unfold maxLen; omega) hmul hbase
      refine ⟨v', w', hr, own_of_row (enc := enc) (fun y hy => ?_) (by simpa using hown), Upd.of_grown hg _ fun k hk => .inl ?_⟩
      · rcases List.mem_append.1 hy with hy | hy
        · obtain ⟨cs, h1⟩ := HO.mem y hy; exact hR.any _ _ _ _ h1
        · obtain ⟨cs, h1⟩ := HY.mem y hy; exact hR.any _ _ _ _ h1
      · rcases ob_cases HO with rfl | ⟨g, cells, rfl, _, _⟩
        · simp [Value.ownBlock] at hk
        · simp [Value.ownBlock] at hk
          simp [ob, hk]
  have hrun : (execOp a.eval o).run P w = .ok (.value v') w' := by
    unfold execOp
    simp only [ho, resolve, invoke, builtin, Sem.run_bind, Sem.run_pure, Result.andThen_ok, List.map_toArray, List.map_cons, List.map_nil, hs, hx, hr]
  unfold Oper.wp
  rw [hrun]
  obtain ⟨A', c', rfl, _, _⟩ := h1.rd.shape
  exact h _ _ _ h1 (by simpa using hU)
theorem RdR.old {m : Bool} {w w' : World} {v : Value} {l : List Rec} (h : RdR m w v l) (hu : Upd [] w w') : RdR m w' v l := h.upd' hu (Safe.nil _ _ _)
theorem RdO.old {m : Bool} {w w' : World} {v : Value} {l : List Obj} (h : RdO m w v l) (hu : Upd [] w w') : RdO m w' v l := h.upd' hu (Safe.nil _ _ _)
theorem RdG.elt {α : Type} {m : Bool} {e : TypeId} {sz : Nat} {R : World → α → List Value → Prop} {w : World} {A : Option Addr} {n c : Nat} {xs : List α} (h : RdG m e sz R w (.slice A n c) xs) (d : α) (j : Nat) (hj : j < xs.length) :
    ∃ b off cells t fr cs, A = some ⟨b, off, none⟩ ∧ w.heap[b]? = some (.cells cells t fr) ∧ cs.length = sz ∧ R w (xs.getD j d) cs ∧ (cells.toList.drop (off + j * sz)).take sz = cs := by
  obtain ⟨A', c', hv, h1, h2, h0, h3⟩ := h
  injection hv with e1 e2 e3
  subst e1 e3
  obtain ⟨b, off, cells, t, fr, rfl, hb, ht, hx⟩ := h3 (by omega)
  have hg : xs[j]? = some (xs.getD j d) := by simp [List.getD_eq_getElem?_getD, List.getElem?_eq_getElem hj]
  obtain ⟨cs, h4, h5, h6⟩ := hx j _ hg
  refine ⟨b, off, cells, t, fr, cs, rfl, hb, h4, h5, ?_⟩
  apply List.ext_getElem?
  intro i
  rw [List.getElem?_take, List.getElem?_drop]
  by_cases hi : i < sz
  · rw [if_pos hi]
    have hi' : i < cs.length := by omega
    have := h6 i cs[i] (by simp)
    rw [List.getElem?_eq_getElem hi', ← this]
    simp
  · rw [if_neg hi, List.getElem?_eq_none (by omega)]
theorem RdO.elt {m : Bool} {w : World} {A : Option Addr} {n c : Nat} {xs : List Obj} (h : RdO m w (.slice A n c) xs) (j : Nat) (hj : j < xs.length) :
    ∃ b off cells t fr A' c', A = some ⟨b, off, none⟩ ∧ w.heap[b]? = some (.cells cells t fr) ∧ RdB m w (.slice A' (xs.getD j ⟨0, []⟩).value.length c') (xs.getD j ⟨0, []⟩).value ∧ (0 ≤ (xs.getD j ⟨0, []⟩).id ∧ (xs.getD j ⟨0, []⟩).id < 256) ∧
      (cells.toList.drop (off + j * 2)).take 2 = [.int .u8 (xs.getD j ⟨0, []⟩).id, .slice A' (xs.getD j ⟨0, []⟩).value.length c'] := by
  obtain ⟨b, off, cells, t, fr, cs, h1, h2, h3, ⟨v, h4, h5, h6⟩, h7⟩ := RdG.elt h ⟨0, []⟩ j hj
  obtain ⟨A', c', rfl, _, _⟩ := h5.shape
  exact ⟨b, off, cells, t, fr, A', c', h1, h2, h5, h6, by rw [h7, h4]⟩
theorem RdR.elt {m : Bool} {w : World} {A : Option Addr} {n c : Nat} {xs : List Rec} (h : RdR m w (.slice A n c) xs) (j : Nat) (hj : j < xs.length) :
    ∃ b off cells t fr A' c', A = some ⟨b, off, none⟩ ∧ w.heap[b]? = some (.cells cells t fr) ∧ RdW m w (.slice A' (xs.getD j ⟨0, 0, 0, []⟩).words.length c') (xs.getD j ⟨0, 0, 0, []⟩).words ∧
      ((0 ≤ (xs.getD j ⟨0, 0, 0, []⟩).file ∧ (xs.getD j ⟨0, 0, 0, []⟩).file < 65536) ∧ (0 ≤ (xs.getD j ⟨0, 0, 0, []⟩).record ∧ (xs.getD j ⟨0, 0, 0, []⟩).record < 65536) ∧ (0 ≤ (xs.getD j ⟨0, 0, 0, []⟩).count ∧ (xs.getD j ⟨0, 0, 0, []⟩).count < 65536)) ∧
      (cells.toList.drop (off + j * 4)).take 4 = [.int .u16 (xs.getD j ⟨0, 0, 0, []⟩).file, .int .u16 (xs.getD j ⟨0, 0, 0, []⟩).record, .int .u16 (xs.getD j ⟨0, 0, 0, []⟩).count, .slice A' (xs.getD j ⟨0, 0, 0, []⟩).words.length c'] := by
  obtain ⟨b, off, cells, t, fr, cs, h1, h2, h3, ⟨v, h4, h5, h6⟩, h7⟩ := RdG.elt h ⟨0, 0, 0, []⟩ j hj
  obtain ⟨A', c', rfl, _, _⟩ := h5.shape
  exact ⟨b, off, cells, t, fr, A', c', h1, h2, h5, h6, by rw [h7, h4]⟩
theorem ow_ixs {P : Program} {Q : Exit → Act → World → Prop} {a : Act} {w : World} {K : Act → World → Prop} {o : Oper} {N : Option Tmp} {t e : TypeId} {x ix : Operand} {A : Option Addr} {n c b off j : Nat} {k : IntKind} {i : Int} (sz : Nat) (hN : o.dst = N) (ho : o.op = .indexAddr t x ix) (ht : P.underlying t = some (.slice e)) (hi : (P.info? e).map (·.size) = some sz)
    (hx : a.eval x = .slice A n c) (hix : a.eval ix = .int k i) (hj : i = j) (hlt : j < n) (hA : A = some ⟨b, off, none⟩) (h : K (a.put N (.pointer (some ⟨b, off + j * sz, none⟩))) w) : OW P o a w K Q := by
  subst hj
  subst hA
  obtain ⟨i0, hi0, hs⟩ := Option.map_eq_some_iff.1 hi
  refine ow_val _ hN ?_ h
  unfold execOp
  have h2 : (0 : Int) ≤ (j : Int) ∧ (j : Int) < (n : Int) := by omega
  simp [ho, hx, hix, Instr.indexAt, asIntOf, run_underlying ht, Result.andThen, h2, sizeOf, typeInfo, hi0, hs, add_mk, hlt]
theorem ow_row {P : Program} {Q : Exit → Act → World → Prop} {a : Act} {w : World} {K : Act → World → Prop} {o : Oper} {N : Option Tmp} {α : Type} {R : World → α → List Value → Prop} {enc : α → Value} (hR : One R enc) {ty e : TypeId} {x y : Operand} {base n c b off j : Nat} {A : Option Addr} {xs : List α} (v : α)
    (hN : o.dst = N) (ho : o.op = .store ty x y) (hx : a.eval x = .pointer (some ⟨b, off + j, none⟩)) (hy : a.eval y = enc v) (hv : ∀ w, R w v [enc v]) (HO : OwnG base e 1 R w (.slice A n c) xs) (hA : A = some ⟨b, off, none⟩) (hj : j < xs.length) (hi : (P.info? ty).map (·.size) = some 1)
    (h : ∀ w', OwnG base e 1 R w' (.slice A n c) (xs.set j v) → Upd (ob A ++ []) w w' → K (a.put N undef) w') : OW P o a w K Q := by
  subst hA
  have hrow := row_of_own hR.cell HO
  obtain ⟨hl, hh⟩ := hrow
  rcases hh with ⟨hv', h0⟩ | ⟨g, cap, cur, hv', hb, hheap, h1, h2, h3, h4⟩
  · omega
  injection hv' with e1 e2 e3
  injection e1 with e1
  injection e1 with e4 e5
  subst e4 e5 e2
  have hjc : j < cur.size := by rw [h3]; omega
  refine ow_st (g := b) (off := 0 + j) (enc v) _ hN ho hx hy hheap (by simp; omega) hi (hR.one v) rfl fun w' hb' hu => h w' ?_ (by simpa [ob] using hu)
  have : (xs.set j v).length = xs.length := by simp
  rw [← this]
  refine own_of_row (enc := enc) (fun y hy => ?_) ⟨by simp, .inr ⟨b, cap, _, by rw [this, e3], hb, hb', by rw [this]; exact h1, h2, by simp [h3], ?_⟩⟩
  · rcases List.mem_or_eq_of_mem_set hy with hy | rfl
    · obtain ⟨cs, h5⟩ := HO.mem y hy
      exact hR.any _ _ _ _ h5
    · exact hv w'
  · rw [this, List.map_set, ← h4]
    simp [List.take_set]
theorem i64_in {x : Int} (h : -9223372036854775808 ≤ x ∧ x ≤ 9223372036854775807) : IntKind.i64.wrap x = x := IntWalk.i64_in _ (by omega)
theorem u16_in {x : Int} (h : 0 ≤ x ∧ x < 65536) : IntKind.u16.wrap x = x := by show x % 65536 = x; omega
theorem u8_in {x : Int} (h : 0 ≤ x ∧ x < 256) : IntKind.u8.wrap x = x := by show x % 256 = x; omega
theorem i64_quo {x y : Int} (hx : 0 ≤ x ∧ x ≤ 9223372036854775807) (hy : 0 < y) : IntKind.i64.wrap (Int.tdiv x y) = x / y := by
  rw [Int.tdiv_eq_ediv_of_nonneg hx.1]
  refine i64_in ⟨?_, ?_⟩
  · have := Int.ediv_nonneg hx.1 (Int.le_of_lt hy)
    omega
  · have := Int.ediv_le_self y hx.1
    omega
theorem u16_quo {x y : Int} (hx : 0 ≤ x ∧ x < 65536) (hy : 0 < y) : IntKind.u16.wrap (Int.tdiv x y) = x / y := by
  rw [Int.tdiv_eq_ediv_of_nonneg hx.1]
  refine u16_in ⟨Int.ediv_nonneg hx.1 (Int.le_of_lt hy), ?_⟩
  have := Int.ediv_le_self y hx.1
  omega
theorem i64_tdiv {x y : Int} (hx : -1000000 ≤ x ∧ x ≤ 1000000) (hy : 0 < y) : IntKind.i64.wrap (Int.tdiv x y) = Int.tdiv x y := by
  have h : -1000000 ≤ Int.tdiv x y ∧ Int.tdiv x y ≤ 1000000 := by
    rcases Int.lt_or_le x 0 with h | h
    · obtain ⟨n, rfl⟩ : ∃ n : Nat, x = -(n : Int) := ⟨(-x).toNat, by omega⟩
      rw [Int.neg_tdiv, Int.tdiv_eq_ediv_of_nonneg (by omega)]
      have h1 := Int.ediv_nonneg (show (0 : Int) ≤ n by omega) (Int.le_of_lt hy)
      have h2 := Int.ediv_le_self y (show (0 : Int) ≤ n by omega)
      omega
    · rw [Int.tdiv_eq_ediv_of_nonneg h]
      have h1 := Int.ediv_nonneg h (Int.le_of_lt hy)
      have h2 := Int.ediv_le_self y h
      omega
  exact i64_in ⟨by omega, by omega⟩
theorem shr_lit (x y z : Int) (h : decide (0 ≤ y) && (y == z) = true) : Int.fdiv x y = x / z := by
  simp only [Bool.and_eq_true, decide_eq_true_eq, beq_iff_eq] at h
  rw [← h.2]
  exact Int.fdiv_eq_ediv_of_nonneg x h.1
theorem all0 {p : Nat → Prop} : ∀ x, x ∈ ([] : List Nat) → p x := fun x h => by simp at h
theorem all1 {p : Nat → Prop} {a : Nat} (ha : p a) : ∀ x, x ∈ [a] → p x := fun x h => by simp at h; subst h; exact ha
theorem all2 {p : Nat → Prop} {a b : Nat} (ha : p a) (hb : p b) : ∀ x, x ∈ [a, b] → p x := fun x h => by
  simp at h
  rcases h with rfl | rfl
  · exact ha
  · exact hb
theorem all3 {p : Nat → Prop} {a b c : Nat} (ha : p a) (hb : p b) (hc : p c) : ∀ x, x ∈ [a, b, c] → p x := fun x h => by
  simp at h
  rcases h with rfl | rfl | rfl
  · exact ha
  · exact hb
  · exact hc
theorem not0 {g : Nat} : g ∉ ([] : List Nat) := by simp
theorem not1 {g a : Nat} (h : g ≠ a) : g ∉ [a] := by simpa using h
theorem not2 {g a b : Nat} (h : g ≠ a) (h2 : g ≠ b) : g ∉ [a, b] := by simp; exact ⟨h, h2⟩
theorem not3 {g a b c : Nat} (h : g ≠ a) (h2 : g ≠ b) (h3 : g ≠ c) : g ∉ [a, b, c] := by simp; exact ⟨h, h2, h3⟩
theorem safe0 {m : Bool} {D : List TypeId} {w : World} : Safe m D [] w := Safe.nil _ _ _
theorem safe1 {D : List TypeId} {w : World} {g : Nat} {cs : Array Value} {t : TypeId} {fr : Nat × Nat} (h : w.heap[g]? = some (.cells cs t fr)) (ht : D.contains t = false) : Safe true D [g] w := Safe.one h (by simpa using ht)
theorem safe_cons {m : Bool} {D : List TypeId} {w : World} {g : Nat} {S : List Nat} (h : Safe m D [g] w) (k : Safe m D S w) : Safe m D (g :: S) w := fun s hs => by
  simp at hs
  rcases hs with rfl | hs
  · exact h _ (by simp)
  · exact k _ hs
theorem safe2 {D : List TypeId} {w : World} {g g' : Nat} {cs cs' : Array Value} {t t' : TypeId} {fr fr' : Nat × Nat} (h : w.heap[g]? = some (.cells cs t fr)) (ht : D.contains t = false) (h' : w.heap[g']? = some (.cells cs' t' fr')) (ht' : D.contains t' = false) : Safe true D [g, g'] w :=
  Safe.two h (by simpa using ht) h' (by simpa using ht')
theorem ne_new {w w' : World} {g g' : Nat} {o : Go.Obj} (h : w.heap[g']? = some o) (hs : w.heap.size ≤ w'.heap.size) (hg : w'.heap.size ≤ g) : g' ≠ g := by
  have := blk_lt h
  omega
theorem run_convB {P : Program} {m : Bool} {w : World} {ev : Operand → Value} {o : Oper} {x : Operand} {src dst e : TypeId} {A : Option Addr} {n c : Nat} {xs : List Int} (ho : o.op = .convert src dst x) (hx : ev x = .slice A n c)
    (hs : P.underlying src = some (.slice e)) (he : P.underlying e = some (.int .u8)) (hd : P.underlying dst = some .string) (h : RdB m w (.slice A n c) xs) : (execOp ev o).run P w = .ok (.value (.string (strOfNums xs))) w := by
  have hr : (convert src dst (.slice A n c)).run P w = .ok (.string (strOfNums xs)) w := by
    obtain ⟨A', c', hv, h1, h2, h0, h3⟩ := h
    injection hv with e1 e2 e3
    subst e1 e2 e3
    by_cases hp : 0 < xs.length
    · obtain ⟨b, off, cells, t, fr, rfl, hb, ht, hx⟩ := h3 hp
      refine run_convert_bytes_arg w src e hs he b off _ c xs rfl (fun i hi => ?_) dst hd
      obtain ⟨cs, hl, ⟨hr, _, _⟩, hc⟩ := hx i xs[i] (List.getElem?_eq_getElem hi)
      rw [blk_cell hb, ← Nat.mul_one i]
      have := hc 0 (.int .u8 xs[i]) (by rw [hr]; rfl)
      simp only [Nat.add_zero] at this
      rw [this]
      simp [List.getD_eq_getElem?_getD, List.getElem?_eq_getElem hi]
    · have hz : xs = [] := List.eq_nil_of_length_eq_zero (by omega)
      subst hz
      cases A with
      | none => rw [run_convert_bytes_nil w src e hs he _ _ dst hd]; rfl
      | some a =>
        have hl : (loadCells a 0).run P w = .ok #[] w := by
          have := run_loadCells_list (P := P) w a [] (fun j v hj => by simp at hj)
          simpa using this
        rw [run_convert_bytes_string w src dst e _ _ c hs he hd, show ([] : List Int).length = 0 from rfl, run_bytesToString w _ 0 c [] (by simpa using hl)]
        rfl
  unfold execOp
  simp only [ho, hx, Sem.run_bind, hr, Result.andThen, Sem.run_pure]
theorem strOf_inj : ∀ (xs ys : List Int), (∀ x, x ∈ xs → 0 ≤ x ∧ x < 256) → (∀ x, x ∈ ys → 0 ≤ x ∧ x < 256) → (xs.map fun n => UInt8.ofNat n.toNat) = (ys.map fun n => UInt8.ofNat n.toNat) → xs = ys
  | [], [], _, _, _ => rfl
  | [], _ :: _, _, _, h => by simp at h
  | _ :: _, [], _, _, h => by simp at h
  | x :: xs, y :: ys, hx, hy, h => by
    simp only [List.map_cons, List.cons.injEq] at h
    obtain ⟨h1, h2⟩ := h
    have h3 := strOf_inj xs ys (fun z hz => hx z (by simp [hz])) (fun z hz => hy z (by simp [hz])) h2
    have a := hx x (by simp)
    have b := hy y (by simp)
    have h4 : x.toNat % 256 = y.toNat % 256 := by
      have := congrArg UInt8.toNat h1
      simpa [UInt8.toNat_ofNat'] using this
    have h5 : x = y := by omega
    rw [h5, h3]
theorem RdB.range {m : Bool} {w : World} {v : Value} {xs : List Int} (h : RdB m w v xs) : ∀ x, x ∈ xs → 0 ≤ x ∧ x < 256 := by
  intro x hx
  obtain ⟨A, c, rfl, _, _, _, h3⟩ := h
  obtain ⟨j, hj, rfl⟩ := List.getElem_of_mem hx
  obtain ⟨b, off, cells, t, fr, _, _, _, h4⟩ := h3 (by omega)
  obtain ⟨cs, _, ⟨_, h5, h6⟩, _⟩ := h4 j xs[j] (List.getElem?_eq_getElem hj)
  exact ⟨h5, h6⟩
theorem str_eq {m m' : Bool} {w w' : World} {v v' : Value} {xs ys : List Int} (hx : RdB m w v xs) (hy : RdB m' w' v' ys) : ((strOfNums xs).toList == (strOfNums ys).toList) = decide (xs = ys) := by
  rw [ByteArray.toList_eq, ByteArray.toList_eq, strOfNums_data, strOfNums_data]
  by_cases h : xs = ys
  · subst h; simp
  · rw [decide_eq_false h]
    simp only [beq_eq_false_iff_ne, ne_eq]
    intro he
    exact h (strOf_inj xs ys hx.range hy.range he)
theorem str_lit {xs : List Int} {l : List UInt8} {b : ByteArray} (hb : b.data.toList = l) (h : (xs.map fun n => UInt8.ofNat n.toNat) = l) : ((strOfNums xs).toList == b.toList) = true := by
  rw [ByteArray.toList_eq, ByteArray.toList_eq, strOfNums_data, hb, h]
  simp
theorem run_strq {P : Program} {w : World} {ev : Operand → Value} {o : Oper} {x y : Operand} {t t' : TypeId} {a b : ByteArray} {v : Bool} (ho : o.op = .binOp .eql t x y t') (hx : ev x = .string a) (hy : ev y = .string b) (hv : (a.toList == b.toList) = v) : (execOp ev o).run P w = .ok (.value (.bool v)) w := by
  have hg : eqGuard .eql t x y (.string a) (.string b) = pure () := rfl
  unfold execOp
  simp only [ho, hx, hy, hg, binOp_string_eql, Sem.run_bind, Sem.run_pure, Result.andThen, hv]
abbrev Fr := List (Nat × Value)
def lk : Fr → Nat → Option Value
  | [], _ => none
  | p :: F, i => bif Nat.beq p.1 i then some p.2 else lk F i
def evo (F : Fr) : Operand → Option Value
  | .tmp i => lk F i
  | .const v => some v
  | .global g => some (.pointer (some ⟨g, 0, none⟩))
  | .func f => some (.func (.func f) #[] #[])
def ovr (F : Fr) (x : Operand) : Value := (evo F x).getD undef
structure Ag (n : Nat) (D : List Deferred) (F : Fr) (a : Act) : Prop where
  sz : a.tmps.size = n
  df : a.defers = D
  at_ : ∀ i v, lk F i = some v → a.tmps[i]? = some v
def pt (d : Option Nat) (v : Value) (F : Fr) : Fr := match d with | none => F | some i => (i, v) :: F
def dok (n : Nat) (d : Option Nat) : Bool := match d with | none => true | some i => Nat.blt i n
theorem nbq {i j : Nat} (h : i ≠ j) : Nat.beq i j = false := by
  cases hb : Nat.beq i j
  · rfl
  · exact absurd (Nat.eq_of_beq_eq_true hb) h
theorem lk_cons {i : Nat} {v : Value} {F : Fr} {j : Nat} {u : Value} (h : lk ((i, v) :: F) j = some u) : (i = j ∧ v = u) ∨ (i ≠ j ∧ lk F j = some u) := by
  unfold lk at h
  by_cases hij : i = j
  · subst hij
    left
    simpa using h
  · right
    have : Nat.beq i j = false := nbq hij
    rw [this] at h
    exact ⟨hij, h⟩
section
variable {n : Nat} {D : List Deferred} {F F' : Fr} {a : Act}
theorem Ag.ev (h : Ag n D F a) {x : Operand} {v : Value} (hx : evo F x = some v) : a.eval x = v := by
  cases x with
  | tmp i => have := h.at_ i v hx; simp [Act.eval, this]
  | const c => exact Option.some.inj hx
  | global g => exact Option.some.inj hx
  | func f => exact Option.some.inj hx
theorem Ag.ov (h : Ag n D F a) {x : Operand} (hx : (evo F x).isSome = true) : ovr F x = a.eval x := by
  obtain ⟨v, hv⟩ := Option.isSome_iff_exists.1 hx
  rw [h.ev hv]
  simp [ovr, hv]
theorem Ag.put (h : Ag n D F a) {d : Option Nat} {v : Value} (hd : dok n d = true) : Ag n D (pt d v F) (a.put d v) := by
  cases d with
  | none => exact h
  | some i =>
    have hi : i < a.tmps.size := by rw [h.sz]; simpa [dok] using hd
    refine ⟨by simp [Act.put, h.sz], h.df, fun j u hj => ?_⟩
    rcases lk_cons hj with ⟨rfl, rfl⟩ | ⟨h1, h2⟩
    · simp [Act.put, hi]
    · simp only [Act.put]
      rw [Array.getElem?_setIfInBounds_ne h1]
      exact h.at_ _ _ h2
def fks (F : Fr) : List Nat := F.map (·.1)
theorem lk_mem {F : Fr} {i : Nat} {v : Value} (h : lk F i = some v) : i ∈ fks F := by
  induction F with
  | nil => cases h
  | cons p F ih =>
    rcases lk_cons h with ⟨h1, _⟩ | ⟨_, h2⟩
    · simp [fks, h1]
    · have := ih h2; simp only [fks, List.map_cons, List.mem_cons] at this ⊢; exact .inr this
theorem Ag.wk (h : Ag n D F a) (hk : (fks F').map (lk F) = (fks F').map (lk F')) : Ag n D F' a :=
  ⟨h.sz, h.df, fun i v hi => h.at_ i v ((List.map_inj_left.1 hk i (lk_mem hi)).trans hi)⟩
def drp (ks : List Nat) (F : Fr) : Fr := F.filter (fun p => !(ks.any (Nat.beq p.1)))
theorem lk_drp {ks : List Nat} {F : Fr} {i : Nat} {v : Value} (h : lk (drp ks F) i = some v) : lk F i = some v ∧ i ∉ ks := by
  induction F with
  | nil => cases h
  | cons p F ih =>
    unfold drp at h
    rw [List.filter_cons] at h
    split at h
    · rename_i hp
      rcases lk_cons h with ⟨h1, h2⟩ | ⟨h1, h2⟩
      · subst h1 h2
        refine ⟨by simp [lk], fun hm => ?_⟩
        simp at hp
        exact hp _ hm rfl
      · have := ih h2
        refine ⟨?_, this.2⟩
        unfold lk
        have hb : Nat.beq p.1 i = false := nbq h1
        rw [hb]
        exact this.1
    · rename_i hp
      have := ih h
      refine ⟨?_, this.2⟩
      unfold lk
      have hb : Nat.beq p.1 i = false := by
        simp only [Bool.not_eq_true, Bool.not_eq_false', List.any_eq_true] at hp
        obtain ⟨k, hk1, hk2⟩ := hp
        have hpk : p.1 = k := Nat.eq_of_beq_eq_true hk2
        exact nbq fun e => this.2 (by rw [← e, hpk]; exact hk1)
      rw [hb]
      exact this.1
end
structure GC (P : Program) (c : Code) (Q : Exit → Act → World → Prop) (n : Nat) (D : List Deferred) (F : Fr) (w : World) : Prop where
  out : ∀ a, Ag n D F a → c.wp P Q a w
structure GQ (Q : Exit → Act → World → Prop) (e : Exit) (n : Nat) (D : List Deferred) (F : Fr) (w : World) : Prop where
  out : ∀ a, Ag n D F a → Q e a w
structure GL (P : Program) (ops : Array Oper) (Q : Exit → Act → World → Prop) (l : List Oper) (n : Nat) (D : List Deferred) (F : Fr) (w : World) : Prop where
  out : ∀ a, Ag n D F a → wpList P ops Q l a w
structure OG (P : Program) (o : Oper) (n : Nat) (D : List Deferred) (F : Fr) (w : World) (K : Fr → World → Prop) (Q : Exit → Act → World → Prop) : Prop where
  out : ∀ a, Ag n D F a → ∀ K' : Act → World → Prop, (∀ F' w' a', K F' w' → Ag n D F' a' → K' a' w') → OW P o a w K' Q
section
variable {P : Program} {Q : Exit → Act → World → Prop} {n : Nat} {D : List Deferred} {F : Fr} {w : World} {ops : Array Oper} {rest l : List Oper} {x y c : Code} {nx : Act → World → Prop} {id : Nat} {R : Ending → World → Prop} {fn : Func}
theorem sq (h : GC P x (Exit.then (y.wp P Q) Q) n D F w) : GC P (.seq x y) Q n D F w := ⟨fun a ha => wp_seq (h.out a ha)⟩
theorem bk (h : GC P c (Exit.inBlock id Q) n D F w) : GC P (.block id c) Q n D F w := ⟨fun a ha => wp_block (h.out a ha)⟩
theorem go (h : GL P l.toArray Q l n D F w) : GC P (.region id l.toArray false) Q n D F w := ⟨fun a ha => wp_region_lit (h.out a ha)⟩
theorem sk (h : GQ Q .normal n D F w) : GC P .skip Q n D F w := ⟨fun a ha => wp_skip (h.out a ha)⟩
theorem rt (h : GQ Q .ret n D F w) : GC P .ret Q n D F w := ⟨fun a ha => wp_ret (h.out a ha)⟩
theorem xt (h : GQ Q (.exit id) n D F w) : GC P (.exit id) Q n D F w := ⟨fun a ha => wp_exit (h.out a ha)⟩
theorem nl (h : GQ Q .normal n D F w) : GL P ops Q [] n D F w := ⟨fun a ha => h.out a ha⟩
theorem tn (h : GC P y Q n D F w) : GQ (Exit.then (y.wp P Q) Q) .normal n D F w := ⟨fun a ha => h.out a ha⟩
theorem tr (h : GQ Q .ret n D F w) : GQ (Exit.then nx Q) .ret n D F w := ⟨fun a ha => h.out a ha⟩
theorem tx (h : GQ Q (.exit id) n D F w) : GQ (Exit.then nx Q) (.exit id) n D F w := ⟨fun a ha => h.out a ha⟩
theorem bn (h : GQ Q .normal n D F w) : GQ (Exit.inBlock id Q) .normal n D F w := ⟨fun a ha => h.out a ha⟩
theorem br (h : GQ Q .ret n D F w) : GQ (Exit.inBlock id Q) .ret n D F w := ⟨fun a ha => h.out a ha⟩
theorem bx (h : GQ Q .normal n D F w) : GQ (Exit.inBlock id Q) (.exit id) n D F w := ⟨fun a ha => ib_x (h.out a ha)⟩
theorem by_ {id' : Nat} (h : GQ Q (.exit id') n D F w) (hne : id' ≠ id := by decide) : GQ (Exit.inBlock id Q) (.exit id') n D F w := ⟨fun a ha => ib_y hne (h.out a ha)⟩
theorem nt (h : GC P y Q n D F w) : GL P ops (Exit.then (y.wp P Q) Q) [] n D F w := nl (tn h)
theorem sg (h : GL P l.toArray (Exit.then (y.wp P Q) Q) l n D F w) : GC P (.seq (.region id l.toArray false) y) Q n D F w := sq (go h)
theorem ng (h : GL P l.toArray (Exit.then (y.wp P Q) Q) l n D F w) : GL P ops (Exit.then ((Code.seq (.region id l.toArray false) y).wp P Q) Q) [] n D F w := nt (sg h)
theorem skn (h : GC P y Q n D F w) : GC P .skip (Exit.then (y.wp P Q) Q) n D F w := sk (tn h)
theorem ct {c : Operand} {e : Bool} (he : e = true) (h : GC P x Q n D F w) (hv : evo F c = some (.bool e) := by kernel_rfl) : GC P (.cond c x y) Q n D F w := ⟨fun a ha => cd_t e (ha.ev hv) he (h.out a ha)⟩
theorem cf {c : Operand} {e : Bool} (he : e = false) (h : GC P y Q n D F w) (hv : evo F c = some (.bool e) := by kernel_rfl) : GC P (.cond c x y) Q n D F w := ⟨fun a ha => cd_f e (ha.ev hv) he (h.out a ha)⟩
theorem c1 {c : Operand} (h : GC P x Q n D F w) (hv : evo F c = some (.bool true) := by kernel_rfl) : GC P (.cond c x y) Q n D F w := ct rfl h hv
theorem c0 {c : Operand} (h : GC P y Q n D F w) (hv : evo F c = some (.bool false) := by kernel_rfl) : GC P (.cond c x y) Q n D F w := cf rfl h hv
theorem cb {c : Operand} (e : Bool) (ht : e = true → GC P x Q n D F w) (hf : e = false → GC P y Q n D F w) (hv : evo F c = some (.bool e) := by kernel_rfl) : GC P (.cond c x y) Q n D F w := by
  rcases bool_dich e with q | q
  · exact ct q (ht q) hv
  · exact cf q (hf q) hv
theorem wkc (F' : Fr) (h : GC P c Q n D F' w) (hk : (fks F').map (lk F) = (fks F').map (lk F') := by kernel_rfl) : GC P c Q n D F w := ⟨fun a ha => h.out a (ha.wk hk)⟩
def zipF : Nat → List Value → Fr
  | _, [] => []
  | i, v :: l => (i, v) :: zipF (i + 1) l
theorem zipF_get : ∀ (l : List Value) (i j : Nat) (v : Value), lk (zipF i l) j = some v → i ≤ j ∧ l[j - i]? = some v
  | [], _, _, _, h => by cases h
  | u :: l, i, j, v, h => by
    rcases lk_cons h with ⟨h1, h2⟩ | ⟨_, h2⟩
    · subst h1 h2; simp
    · obtain ⟨h3, h4⟩ := zipF_get l (i + 1) j v h2
      refine ⟨by omega, ?_⟩
      rw [show j - i = (j - (i + 1)) + 1 from by omega]
      simpa using h4
theorem ag0 {args : List Value} {m : Nat} : Ag (args.length + m) [] (zipF 0 args) { tmps := args.toArray ++ Array.replicate m undef, defers := [] } := by
  refine ⟨by simp, rfl, fun i v h => ?_⟩
  obtain ⟨_, h2⟩ := zipF_get _ _ _ _ h
  simp only [Nat.sub_zero] at h2
  have hi : i < args.length := (List.getElem?_eq_some_iff.1 h2).1
  rw [Array.getElem?_append_left (by simpa using hi)]
  simpa using h2
theorem en {f : FuncId} {c : Code} {args : List Value} {w : World} (n : Nat) (hf : P.funcs[f]? = some fn) (hb : fn.body = some c)
    (h : GC P c (bodyPost P fn R) n [] (zipF 0 args) w) (hn : args.length + (fn.ntmps - args.length) = n := by kernel_rfl) : Calls P f args.toArray w R := by
  subst hn
  exact calls_of_wp hf hb (by simpa using h.out _ (ag0 (args := args) (m := fn.ntmps - args.length)))
def gd (ops : Array Oper) (F : Fr) (j : Nat) : Option Value := ((ops[j]?).bind (·.dst)).bind (lk F)
theorem gd_y {a : Act} {j : Nat} {v : Value} (ha : Ag n D F a) (h : gd ops F j = some v) : ((ops[j]?).bind (·.dst)).bind (a.tmps[·]?) = some v := by
  unfold gd at h
  obtain ⟨i, hi, h2⟩ := Option.bind_eq_some_iff.1 h
  rw [hi]
  exact ha.at_ _ _ h2
theorem yl_b {a : Act} {j : Nat} {b : Bool} (ha : Ag n D F a) (h : gd ops F j = some (.bool b)) : yielded ops a.tmps j = some b := by
  unfold yielded
  rw [gd_y ha h]
def gOn (ops : Array Oper) (F : Fr) (g : Option (Nat × Bool)) : Bool × Bool := match g with
  | none => (true, true)
  | some p => match gd ops F p.1 with
    | some (.bool c) => (true, c == p.2)
    | some _ => (true, false)
    | none => (false, false)
theorem gOn_w {a : Act} {o : Oper} {b : Bool} (ha : Ag n D F a) (h : gOn ops F o.guard = (true, b)) : Region.wanted o (yielded ops a.tmps) = b := by
  unfold gOn at h
  unfold Region.wanted
  cases hg : o.guard with
  | none => rw [hg] at h; simpa using h
  | some p =>
    rw [hg] at h
    obtain ⟨j, c⟩ := p
    simp only at h ⊢
    cases hv : gd ops F j with
    | none => rw [hv] at h; simp at h
    | some v =>
      rw [hv] at h
      unfold yielded
      rw [gd_y ha hv]
      cases v <;> simp at h ⊢ <;> first | exact h | (subst h; rfl) | (rw [← h]; simp)
theorem L0 {d : Option Tmp} {op : Op} {t : TypeId} {s : String} {af : Array Edge} (h : OG P ⟨d, op, t, s, af, none⟩ n D F w (GL P ops Q rest n D) Q) : GL P ops Q (⟨d, op, t, s, af, none⟩ :: rest) n D F w :=
  ⟨fun a ha => (Lst0 rfl (h.out a ha (WL P ops Q rest) fun _ _ a' k ha' => ⟨k.out a' ha'⟩)).out⟩
theorem L1 {d : Option Tmp} {op : Op} {t : TypeId} {s : String} {af : Array Edge} {j : Nat} {b : Bool} (h : OG P ⟨d, op, t, s, af, some (j, b)⟩ n D F w (GL P ops Q rest n D) Q) (hg : gd ops F j = some (.bool b) := by kernel_rfl) : GL P ops Q (⟨d, op, t, s, af, some (j, b)⟩ :: rest) n D F w :=
  ⟨fun a ha => (Lst (wanted_on rfl (yl_b ha hg) rfl) (h.out a ha (WL P ops Q rest) fun _ _ a' k ha' => ⟨k.out a' ha'⟩)).out⟩
def okO (F : Fr) (x : Operand) : Bool := (evo F x).isSome
def opIn (F : Fr) : Op → Bool
  | .move x | .assign x | .nilCheck x | .unOp _ _ x | .convert _ _ x | .makeInterface _ x | .fieldAddr _ x _ | .field _ x _ | .extract x _ | .box _ x | .load _ x => okO F x
  | .pick c x y => okO F c && okO F x && okO F y
  | .binOp _ _ x y _ | .store _ x y | .indexAddr _ x y | .index _ x y | .makeSlice _ x y => okO F x && okO F y
  | .build _ ps | .buildSlice _ _ ps => ps.toList.all fun p => okO F p.2
  | .makeFunc _ p q => p.toList.all (okO F) && q.toList.all (okO F)
  | .slice _ x l h m => okO F x && l.all (okO F) && h.all (okO F) && m.all (okO F)
  | .call c => (match c.callee with | .builtin _ => true | .value f => okO F f | _ => false) && c.args.toList.all (okO F)
  | _ => false
theorem opIn_ex {a : Act} {o : Oper} (ha : Ag n D F a) (h : opIn F o.op = true) : execOp (ovr F) o = execOp a.eval o := by
  refine execOp_congr o (fun cs b e => by rw [e] at h; cases h) fun x hx => ha.ov ?_
  obtain ⟨dst, op, type, pos, after, guard⟩ := o
  have hall : ∀ (ps : Array Operand), ps.toList.all (okO F) = true → x ∈ ps → (evo F x).isSome = true := fun ps hp hm => by
    have := List.all_eq_true.1 hp x (by simpa using hm)
    exact this
  cases op <;> simp only [opIn, Op.operands, Bool.and_eq_true] at h hx <;> try contradiction
  case build t ps =>
    simp at hx
    obtain ⟨i, hp⟩ := hx
    exact List.all_eq_true.1 h (i, x) (by simpa using hp)
  case buildSlice t m ps =>
    simp at hx
    obtain ⟨i, hp⟩ := hx
    exact List.all_eq_true.1 h (i, x) (by simpa using hp)
  case makeFunc f p q =>
    rcases Array.mem_append.1 hx with hx | hx
    · exact hall _ h.1 hx
    · exact hall _ h.2 hx
  case slice t y lo hi mx =>
    obtain ⟨⟨⟨h1, h2⟩, h3⟩, h4⟩ := h
    simp only [okO] at h1
    cases lo <;> cases hi <;> cases mx <;> simp [okO] at hx h2 h3 h4 <;> (try rcases hx with rfl | rfl | rfl | rfl) <;> (try rcases hx with rfl | rfl | rfl) <;> (try rcases hx with rfl | rfl) <;> (try subst hx) <;> assumption
  case call c =>
    simp only [Call.operands] at hx
    rcases Array.mem_append.1 hx with hx | hx
    · revert h hx
      cases c.callee <;> intro h hx <;> simp at hx h
      subst hx
      exact h.1
    · exact hall _ h.2 hx
  all_goals (simp only [okO, Bool.and_eq_true] at h; simp at hx; (try rcases hx with rfl | rfl | rfl) <;> (try rcases hx with rfl | rfl) <;> (try subst hx) <;> first | exact h | exact h.1 | exact h.2 | exact h.1.1 | exact h.1.2)
def vo (P : Program) (w : World) (F : Fr) (o : Oper) : Value := match (execOp (ovr F) o).run P w with
  | .ok (.value v) _ => v
  | _ => undef
def st1 (P : Program) (ops : Array Oper) (w : World) (F : Fr) (o : Oper) : Fr := bif (gOn ops F o.guard).2 then pt o.dst (vo P w F o) F else pt o.dst undef F
def rn (P : Program) (ops : Array Oper) (w : World) : Nat → List Oper → Fr → Fr
  | 0, _, F => F
  | _ + 1, [], F => F
  | k + 1, o :: l, F => rn P ops w k l (st1 P ops w F o)
def ckL (P : Program) (ops : Array Oper) (w : World) (n : Nat) : Nat → List Oper → Fr → List ((Bool × Bool) × Result Next)
  | 0, _, _ => []
  | _ + 1, [], _ => [((false, false), .ok .skip w)]
  | k + 1, o :: l, F => (((gOn ops F o.guard).1, dok n o.dst && (bif (gOn ops F o.guard).2 then opIn F o.op else true)), bif (gOn ops F o.guard).2 then (execOp (ovr F) o).run P w else .ok .skip w) :: ckL P ops w n k l (st1 P ops w F o)
def exL (P : Program) (ops : Array Oper) (w : World) : Nat → List Oper → Fr → List ((Bool × Bool) × Result Next)
  | 0, _, _ => []
  | _ + 1, [], _ => [((true, true), .ok .skip w)]
  | k + 1, o :: l, F => ((true, true), bif (gOn ops F o.guard).2 then .ok (.value (vo P w F o)) w else .ok .skip w) :: exL P ops w k l (st1 P ops w F o)
theorem Pl (k : Nat) (h : GL P ops Q (l.drop k) n D (rn P ops w k l F) w) (hc : ckL P ops w n k l F = exL P ops w k l F := by kernel_rfl) : GL P ops Q l n D F w := by
  induction k generalizing l F with
  | zero => exact h
  | succ k ih =>
    cases l with
    | nil => simp [ckL, exL] at hc
    | cons o l =>
      simp only [ckL, exL, List.cons.injEq, Prod.mk.injEq, Bool.and_eq_true] at hc
      obtain ⟨⟨⟨h1, h2, h3⟩, h4⟩, h5⟩ := hc
      have h6 := ih (l := l) (F := st1 P ops w F o) (by simpa [rn] using h) h5
      refine ⟨fun a ha => ?_⟩
      cases hon : (gOn ops F o.guard).2 with
      | true =>
        rw [hon] at h3 h4
        simp only [cond_true] at h3 h4
        have hw : Region.wanted o (yielded ops a.tmps) = true := gOn_w ha (Prod.ext h1 hon)
        have hst : st1 P ops w F o = pt o.dst (vo P w F o) F := by simp [st1, hon]
        rw [hst] at h6
        exact (Lst hw (ow_val (N := o.dst) (vo P w F o) rfl (by rw [← opIn_ex ha h3]; exact h4) ⟨h6.out _ (ha.put h2)⟩)).out
      | false =>
        have hw : Region.wanted o (yielded ops a.tmps) = false := gOn_w ha (Prod.ext h1 hon)
        have hst : st1 P ops w F o = pt o.dst undef F := by simp [st1, hon]
        rw [hst] at h6
        exact (Loff (N := o.dst) hw rfl ⟨h6.out _ (ha.put h2)⟩).out
theorem bl (j : Nat) (e : Bool) (ht : e = true → GL P ops Q l n D ((j, .bool true) :: F) w) (hf : e = false → GL P ops Q l n D ((j, .bool false) :: F) w) (hv : lk F j = some (.bool e) := by kernel_rfl) : GL P ops Q l n D F w := by
  refine ⟨fun a ha => ?_⟩
  have key : ∀ b, e = b → Ag n D ((j, .bool b) :: F) a := fun b hb => ⟨ha.sz, ha.df, fun i v hi => by
    rcases lk_cons hi with ⟨rfl, rfl⟩ | ⟨_, h2⟩
    · rw [← hb]; exact ha.at_ _ _ hv
    · exact ha.at_ _ _ h2⟩
  rcases bool_dich e with q | q
  · exact (ht q).out a (key _ q)
  · exact (hf q).out a (key _ q)
theorem sy (j : Nat) {e b : Bool} (q : e = b) (h : GL P ops Q l n D ((j, .bool b) :: F) w) (hv : lk F j = some (.bool e) := by kernel_rfl) : GL P ops Q l n D F w := by
  subst q
  refine ⟨fun a ha => h.out a ⟨ha.sz, ha.df, fun i v hi => ?_⟩⟩
  rcases lk_cons hi with ⟨rfl, rfl⟩ | ⟨_, h2⟩
  · exact ha.at_ _ _ hv
  · exact ha.at_ _ _ h2
theorem cu (k : Nat) (ks : List Nat) (j : Nat) (r : Bool) (h : ∀ K : Act → World → Prop, (∀ a, Ag n D ((j, .bool r) :: drp ks F) a → K a w) → GL P ops (Exit.then K Q) (l.take k) n D F w)
    (hk : GL P ops Q (l.drop k) n D ((j, .bool r) :: drp ks F) w) : GL P ops Q l n D F w := by
  refine ⟨fun a ha => ?_⟩
  have := wpList_to (P := P) (Q := Q) (ops := ops) (l.drop k) (l.take k) a w ((h (wpList P ops Q (l.drop k)) fun a' ha' => hk.out a' ha').out a ha)
  rwa [List.take_append_drop] at this
theorem ce {K : Act → World → Prop} {j : Nat} {r : Bool} {F0 : Fr} (hK : ∀ a, Ag n D ((j, .bool r) :: F0) a → K a w) (t : Bool) (hr : r = t) (hk : (fks ((j, .bool t) :: F0)).map (lk F) = (fks ((j, .bool t) :: F0)).map (lk ((j, .bool t) :: F0)) := by kernel_rfl) : GL P ops (Exit.then K Q) [] n D F w := by
  subst hr
  exact ⟨fun a ha => hK a (ha.wk hk)⟩
theorem glp {ι : Type} (G : ι → Fr) (J : ι → World → Prop) (μ : ι → Nat) (x0 : ι) (h0 : J x0 w) (round : ∀ x w, J x w → GC P c (Exit.then (fun a' w' => ∃ y, Ag n D (G y) a' ∧ J y w' ∧ μ y < μ x) Q) n D (G x) w)
    (hk : (fks (G x0)).map (lk F) = (fks (G x0)).map (lk (G x0)) := by kernel_rfl) : GC P (.loop c) Q n D F w := by
  refine ⟨fun a ha => lp (fun x a w => Ag n D (G x) a ∧ J x w) μ x0 ⟨ha.wk hk, h0⟩ fun x a w hI => ?_⟩
  refine wp_mono ((round x w hI.2).out a hI.1) fun e a' w' q => ?_
  cases e with
  | normal => obtain ⟨y, h1, h2, h3⟩ := q; exact ⟨y, ⟨h1, h2⟩, h3⟩
  | _ => exact q
theorem lpe {ι : Type} {G : ι → Fr} {J : ι → World → Prop} {μ : ι → Nat} {x : ι} (y : ι) (h : J y w) (hm : μ y < μ x) (hk : (fks (G y)).map (lk F) = (fks (G y)).map (lk (G y)) := by kernel_rfl) : GQ (Exit.then (fun a' w' => ∃ y, Ag n D (G y) a' ∧ J y w' ∧ μ y < μ x) Q) .normal n D F w :=
  ⟨fun a ha => ⟨y, ha.wk hk, h, hm⟩⟩
end
section
variable {P : Program} {Q : Exit → Act → World → Prop} {n : Nat} {D : List Deferred} {F : Fr} {w : World} {K : Fr → World → Prop} {d : Option Tmp} {op : Op} {t : TypeId} {s : String} {af : Array Edge} {gu : Option (Nat × Bool)}
theorem and2 {a b : Bool} (h : (a && b) = true) : a = true ∧ b = true := by simpa using h
theorem Oe (v0 v : Value) (he : v0 = v) (h : K (pt d v F) w) (hr : (execOp (ovr F) ⟨d, op, t, s, af, gu⟩).run P w = .ok (.value v0) w := by kernel_rfl) (hs : (opIn F op && dok n d) = true := by kernel_rfl) : OG P ⟨d, op, t, s, af, gu⟩ n D F w K Q := by
  subst he
  have hs := and2 hs
  exact ⟨fun a ha K' hK => ow_val _ rfl (by rw [← opIn_ex ha hs.1]; exact hr) (hK _ _ _ h (ha.put hs.2))⟩
theorem Oi (x : Int) (h : K (pt d (.int .i64 x) F) w) (hb : -9223372036854775808 ≤ x ∧ x ≤ 9223372036854775807 := by omega) (hr : (execOp (ovr F) ⟨d, op, t, s, af, gu⟩).run P w = .ok (.value (.int .i64 (IntKind.i64.wrap x))) w := by kernel_rfl) (hs : (opIn F op && dok n d) = true := by kernel_rfl) : OG P ⟨d, op, t, s, af, gu⟩ n D F w K Q :=
  Oe _ _ (congrArg (Value.int .i64) (IntWalk.i64_in _ (by omega))) h hr hs
theorem O16 (x : Int) (h : K (pt d (.int .u16 x) F) w) (hb : 0 ≤ x ∧ x < 65536 := by omega) (hr : (execOp (ovr F) ⟨d, op, t, s, af, gu⟩).run P w = .ok (.value (.int .u16 (IntKind.u16.wrap x))) w := by kernel_rfl) (hs : (opIn F op && dok n d) = true := by kernel_rfl) : OG P ⟨d, op, t, s, af, gu⟩ n D F w K Q :=
  Oe _ _ (congrArg (Value.int .u16) (u16_in hb)) h hr hs
theorem O8 (x : Int) (h : K (pt d (.int .u8 x) F) w) (hb : 0 ≤ x ∧ x < 256 := by omega) (hr : (execOp (ovr F) ⟨d, op, t, s, af, gu⟩).run P w = .ok (.value (.int .u8 (IntKind.u8.wrap x))) w := by kernel_rfl) (hs : (opIn F op && dok n d) = true := by kernel_rfl) : OG P ⟨d, op, t, s, af, gu⟩ n D F w K Q :=
  Oe _ _ (congrArg (Value.int .u8) (u8_in hb)) h hr hs
theorem Or_ (v : Value) (hr : (execOp (ovr F) ⟨d, op, t, s, af, gu⟩).run P w = .ok (.value v) w) (h : K (pt d v F) w) (hs : (opIn F op && dok n d) = true := by kernel_rfl) : OG P ⟨d, op, t, s, af, gu⟩ n D F w K Q := Oe v v rfl h hr hs
theorem Old {ty : TypeId} {x : Operand} {p : Addr} {v : Value} (hc : w.cell? p = some v) (h : K (pt d v F) w) (hx : evo F x = some (.pointer (some p)) := by kernel_rfl) (hs : (scalarT P ty && dok n d) = true := by kernel_rfl) : OG P ⟨d, .load ty x, t, s, af, gu⟩ n D F w K Q :=
  ⟨fun a ha K' hK => ow_ld v rfl rfl (ha.ev hx) (and2 hs).1 hc (hK _ _ _ h (ha.put (and2 hs).2))⟩
theorem Olb {ty ty' : TypeId} {x : Operand} {b : Nat} {cs : Array Value} {fr : Nat × Nat} (B : w.heap[b]? = some (.cells cs ty' fr)) (off : Nat) (h : K (pt d (cs.getD off undef) F) w) (hx : evo F x = some (.pointer (some ⟨b, off, none⟩)) := by kernel_rfl) (hs : (scalarT P ty && dok n d) = true := by kernel_rfl) (hl : Nat.blt off cs.size = true := by kernel_rfl) : OG P ⟨d, .load ty x, t, s, af, gu⟩ n D F w K Q :=
  Old (blk_at B (by
    have : off < cs.size := by simpa using hl
    simp [Array.getD, this])) h hx hs
theorem Ola {ty ty' : TypeId} {x : Operand} {b : Nat} {cs : Array Value} {fr : Nat × Nat} (B : w.heap[b]? = some (.cells cs ty' fr)) (off k : Nat) (h : K (pt d (.agg ((cs.toList.drop off).take k).toArray) F) w) (hx : evo F x = some (.pointer (some ⟨b, off, none⟩)) := by kernel_rfl)
    (hs : ((P.underlying ty).map (·.isRow), (P.info? ty).map (·.size), dok n d) = (some true, some ((cs.toList.drop off).take k).length, true) := by kernel_rfl) : OG P ⟨d, .load ty x, t, s, af, gu⟩ n D F w K Q := by
  simp only [Prod.mk.injEq] at hs
  exact ⟨fun a ha K' hK => ow_lda _ rfl rfl (ha.ev hx) B hs.1 hs.2.1 (by simp [List.take_take]) (hK _ _ _ h (ha.put hs.2.2))⟩
theorem Olw {ty ty' : TypeId} {x : Operand} {b : Nat} {cs : Array Value} {fr : Nat × Nat} (B : w.heap[b]? = some (.cells cs ty' fr)) (h : K (pt d (.agg cs) F) w) (hz : (P.info? ty).map (·.size) = some cs.size := by kernel_rfl) (hx : evo F x = some (.pointer (some ⟨b, 0, none⟩)) := by kernel_rfl)
    (hs : ((P.underlying ty).map (·.isRow), dok n d) = (some true, true) := by kernel_rfl) : OG P ⟨d, .load ty x, t, s, af, gu⟩ n D F w K Q := by
  simp only [Prod.mk.injEq] at hs
  exact ⟨fun a ha K' hK => ow_ldw rfl rfl (ha.ev hx) B hs.1 hz (hK _ _ _ h (ha.put hs.2))⟩
theorem Ost {ty t' : TypeId} {x y : Operand} {b : Nat} {cs : Array Value} (B : w.heap[b]? = some (.cells cs t' (0, 0))) (off : Nat) (cs' : Array Value) (h : ∀ w', w'.heap[b]? = some (.cells cs' t' (0, 0)) → Upd [b] w w' → K (pt d undef F) w')
    (hx : evo F x = some (.pointer (some ⟨b, off, none⟩)) := by kernel_rfl) (hl : Nat.blt off cs.size = true := by kernel_rfl) (hs : ((P.info? ty).map (·.size), (okO F y && dok n d) && (ovr F y).oneCell') = (some 1, true) := by kernel_rfl) (hc : cs.setIfInBounds off (ovr F y) = cs' := by kernel_rfl) : OG P ⟨d, .store ty x y, t, s, af, gu⟩ n D F w K Q := by
  simp only [Prod.mk.injEq] at hs
  have h2 := and2 hs.2
  have h3 := and2 h2.1
  exact ⟨fun a ha K' hK => ow_st (ovr F y) cs' rfl rfl (ha.ev hx) (ha.ov h3.1).symm B hl hs.1 h2.2 hc fun w' hB hu => hK _ _ _ (h w' hB hu) (ha.put h3.2)⟩
theorem Osw {ty t' : TypeId} {x y : Operand} {b : Nat} {cs : Array Value} (B : w.heap[b]? = some (.cells cs t' (0, 0))) (vs : Array Value) (h : ∀ w', w'.heap[b]? = some (.cells vs t' (0, 0)) → Upd [b] w w' → K (pt d undef F) w')
    (hz : (P.info? ty).map (·.size) = some vs.size := by kernel_rfl) (h1 : vs.all (·.oneCell') = true := by kernel_rfl) (hv : vs.size = cs.size := by kernel_rfl) (hx : evo F x = some (.pointer (some ⟨b, 0, none⟩)) := by kernel_rfl) (hy : evo F y = some (.agg vs) := by kernel_rfl) (hs : dok n d = true := by kernel_rfl) : OG P ⟨d, .store ty x y, t, s, af, gu⟩ n D F w K Q :=
  ⟨fun a ha K' hK => ow_stw vs rfl rfl (ha.ev hx) (ha.ev hy) B hz hv h1 fun w' hB hu => hK _ _ _ (h w' hB hu) (ha.put hs)⟩
theorem Osm {ty t' : TypeId} {x y : Operand} {b : Nat} {cs : Array Value} (B : w.heap[b]? = some (.cells cs t' (0, 0))) (off : Nat) (vs cs' : Array Value) (h : ∀ w', w'.heap[b]? = some (.cells cs' t' (0, 0)) → Upd [b] w w' → K (pt d undef F) w')
    (hz : (P.info? ty).map (·.size) = some vs.size := by kernel_rfl) (h1 : vs.all (·.oneCell') = true := by kernel_rfl) (hl : Nat.ble (off + vs.size) cs.size = true := by kernel_rfl) (hx : evo F x = some (.pointer (some ⟨b, off, none⟩)) := by kernel_rfl) (hy : evo F y = some (.agg vs) := by kernel_rfl) (hs : dok n d = true := by kernel_rfl) (hc : setFrom cs off vs.toList = cs' := by kernel_rfl) : OG P ⟨d, .store ty x y, t, s, af, gu⟩ n D F w K Q :=
  ⟨fun a ha K' hK => ow_stm vs cs' rfl rfl (ha.ev hx) (ha.ev hy) B hz hl h1 hc fun w' hB hu => hK _ _ _ (h w' hB hu) (ha.put hs)⟩
theorem Oal {ty : TypeId} (cs : Array Value) (h : ∀ g w', w.heap.size ≤ g → w'.heap[g]? = some (.cells cs ty (0, 0)) → Upd [] w w' → K (pt d (.pointer (some ⟨g, 0, none⟩)) F) w')
    (hz : (P.info? ty).bind (fun i => i.zero.map (·.cells)) = some cs := by kernel_rfl) (hs : dok n d = true := by kernel_rfl) : OG P ⟨d, .alloc ty, t, s, af, gu⟩ n D F w K Q :=
  ⟨fun a ha K' hK => ow_alloc cs rfl rfl hz fun g w' hg hB hu => hK _ _ _ (h g w' hg hB hu) (ha.put hs)⟩
theorem Obx {ty : TypeId} {x : Operand} (cs : Array Value) (h : ∀ g w', w.heap.size ≤ g → w'.heap[g]? = some (.cells cs ty (0, 0)) → Upd [] w w' → K (pt d (.pointer (some ⟨g, 0, none⟩)) F) w')
    (hz : (ovr F x).cells = cs := by kernel_rfl) (hs : (okO F x && dok n d) = true := by kernel_rfl) : OG P ⟨d, .box ty x, t, s, af, gu⟩ n D F w K Q :=
  ⟨fun a ha K' hK => ow_box cs rfl rfl (by rw [← ha.ov (and2 hs).1]; exact hz) fun g w' hg hB hu => hK _ _ _ (h g w' hg hB hu) (ha.put (and2 hs).2)⟩
theorem Olt {e : TypeId} {m : Nat} (cs : Array Value) (h : ∀ g w', w.heap.size ≤ g → w'.heap[g]? = some (.cells cs e (0, 0)) → Upd [] w w' → K (pt d (.slice (some ⟨g, 0, none⟩) m m) F) w')
    (hr : (execOp (ovr F) ⟨d, op, t, s, af, gu⟩).run P w = .ok (.value (.slice (some ⟨w.heap.size, 0, none⟩) m m)) (w.alloc (.cells cs e)) := by kernel_rfl) (hs : (opIn F op && dok n d) = true := by kernel_rfl) : OG P ⟨d, op, t, s, af, gu⟩ n D F w K Q :=
  ⟨fun a ha K' hK => ow_lit cs rfl (by rw [← opIn_ex ha (and2 hs).1]; exact hr) fun g w' hg hB hu => hK _ _ _ (h g w' hg hB hu) (ha.put (and2 hs).2)⟩
theorem Omk {ty : TypeId} (h : ∀ g w', w.heap.size ≤ g → w'.heap[g]? = some (.map #[] 0) → Upd [] w w' → K (pt d (.map (some g)) F) w') (hs : dok n d = true := by kernel_rfl) : OG P ⟨d, .makeMap ty none, t, s, af, gu⟩ n D F w K Q :=
  ⟨fun a ha K' hK => ow_map rfl rfl fun g w' hg hB hu => hK _ _ _ (h g w' hg hB hu) (ha.put hs)⟩
def mapK (P : Program) (ty : TypeId) : Option IntKind := match P.underlying ty with | some (.map kt _) => (match P.underlying kt with | some (.int q) => some q | _ => none) | _ => none
def mapQ (P : Program) (ty : TypeId) : IntKind := (mapK P ty).getD .i64
theorem mapQ_some {ty : TypeId} (h : (mapK P ty).isSome = true) : mapK P ty = some (mapQ P ty) := by
  obtain ⟨q, hq⟩ := Option.isSome_iff_exists.1 h
  simp [mapQ, hq]
def mapE (P : Program) (ty : TypeId) : TypeId := match P.underlying ty with | some (.map _ e) => e | _ => 0
theorem mapK_some {ty : TypeId} {q : IntKind} (h : mapK P ty = some q) : ∃ kt, P.underlying ty = some (.map kt (mapE P ty)) ∧ P.underlying kt = some (.int q) := by
  unfold mapK at h
  unfold mapE
  split at h
  · rename_i kt e he
    split at h
    · rename_i q' hq
      refine ⟨kt, by simp [he], ?_⟩
      rw [hq]
      simpa using h
    · cases h
  · cases h
theorem Oin {ty : TypeId} {m k x : Operand} {r : Nat} {es : Array MapEntry} {clk : Nat} (B : w.heap[r]? = some (.map es clk)) (z : Int) (es' : Array MapEntry) (clk' : Nat) (h : ∀ w', w'.heap[r]? = some (.map es' clk') → Upd [r] w w' → K (pt d undef F) w')
    (hq : (mapK P ty).isSome = true := by kernel_rfl) (hm : evo F m = some (.map (some r)) := by kernel_rfl) (hk : evo F k = some (.int (mapQ P ty) z) := by kernel_rfl) (hs : (okO F x && dok n d) = true := by kernel_rfl)
    (hn : Instr.findNow (.int (mapQ P ty)) (.int (mapQ P ty) z) es.toList 0 = some none := by kernel_rfl) (he : (es.push ⟨.int (mapQ P ty) z, ovr F x, clk⟩, clk + 1) = (es', clk') := by kernel_rfl) : OG P ⟨d, .insert ty m k x, t, s, af, gu⟩ n D F w K Q := by
  obtain ⟨kt, h1, h2⟩ := mapK_some (mapQ_some hq)
  simp only [Prod.mk.injEq] at he
  exact ⟨fun a ha K' hK => ow_ins z (ovr F x) es' clk' rfl rfl h1 h2 (ha.ev hm) B (ha.ev hk) (ha.ov (and2 hs).1).symm hn he.1 he.2 fun w' hB hu => hK _ _ _ (h w' hB hu) (ha.put (and2 hs).2)⟩
theorem Olk {ty : TypeId} {m k : Operand} {c : Bool} {r : Nat} {es : Array MapEntry} {clk : Nat} (B : w.heap[r]? = some (.map es clk)) (x : Int) (z : Value) (res : Option (Nat × Value)) (h : K (pt d (if c then .tuple #[(res.map (·.2)).getD z, .bool res.isSome] else (res.map (·.2)).getD z) F) w)
    (hf : Instr.findNow (.int (mapQ P ty)) (.int (mapQ P ty) x) es.toList 0 = some res := by kernel_rfl) (hq : (mapK P ty).isSome = true := by kernel_rfl) (hm : evo F m = some (.map (some r)) := by kernel_rfl) (hk : evo F k = some (.int (mapQ P ty) x) := by kernel_rfl) (hs : dok n d = true := by kernel_rfl)
    (hz : (zeroValue (mapE P ty)).run P w = .ok z w := by kernel_rfl) : OG P ⟨d, .lookup ty m k c, t, s, af, gu⟩ n D F w K Q := by
  obtain ⟨kt, h1, h2⟩ := mapK_some (mapQ_some hq)
  exact ⟨fun a ha K' hK => ow_look x z res _ rfl rfl h1 h2 (ha.ev hm) B (ha.ev hk) hz hf rfl (hK _ _ _ h (ha.put hs))⟩
def slE (P : Program) (ty : TypeId) : Option TypeId := match P.underlying ty with | some (.slice e) => some e | _ => none
theorem slE_some {ty e : TypeId} (h : slE P ty = some e) : P.underlying ty = some (.slice e) := by
  unfold slE at h
  split at h
  · rename_i e' he; rw [he]; simpa using h
  · cases h
def slA (F : Fr) (x : Operand) : Option (Option Addr × Nat) := match evo F x with | some (.slice A m _) => some (A, m) | _ => none
def ixA (F : Fr) (x : Operand) : Option Int := match evo F x with | some (.int _ i) => some i | _ => none
theorem slA_some {x : Operand} {A : Option Addr} {m : Nat} (h : slA F x = some (A, m)) : ∃ c, evo F x = some (.slice A m c) := by
  unfold slA at h
  split at h
  · rename_i A' m' c he
    simp only [Option.some.injEq, Prod.mk.injEq] at h
    exact ⟨c, by rw [he, h.1, h.2]⟩
  · cases h
theorem ixA_some {x : Operand} {i : Int} (h : ixA F x = some i) : ∃ k, evo F x = some (.int k i) := by
  unfold ixA at h
  split at h
  · rename_i k i' he
    exact ⟨k, by rw [he]; simpa using h⟩
  · cases h
theorem Oixi {ty : TypeId} {x ix : Operand} {b off : Nat} (sz m j : Nat) (i : Int) (hj : i = j) {A : Option Addr} (hA : A = some ⟨b, off, none⟩) (hlt : j < m) (h : K (pt d (.pointer (some ⟨b, off + j * sz, none⟩)) F) w)
    (hx : slA F x = some (A, m) := by kernel_rfl) (hi : ixA F ix = some i := by kernel_rfl) (hs : (((slE P ty).bind P.info?).map (·.size), dok n d) = (some sz, true) := by kernel_rfl) : OG P ⟨d, .indexAddr ty x ix, t, s, af, gu⟩ n D F w K Q := by
  simp only [Prod.mk.injEq] at hs
  obtain ⟨c, hx⟩ := slA_some hx
  obtain ⟨k, hi⟩ := ixA_some hi
  cases he : slE P ty with
  | none => rw [he] at hs; simp at hs
  | some e =>
    rw [he] at hs
    exact ⟨fun a ha K' hK => ow_ixs sz rfl rfl (slE_some he) hs.1 (ha.ev hx) (ha.ev hi) hj hlt hA (hK _ _ _ h (ha.put hs.2))⟩
theorem Oixs {ty : TypeId} {x ix : Operand} {b off : Nat} (sz m j : Nat) {A : Option Addr} (hA : A = some ⟨b, off, none⟩) (hlt : j < m) (h : K (pt d (.pointer (some ⟨b, off + j * sz, none⟩)) F) w)
    (hx : slA F x = some (A, m) := by kernel_rfl) (hi : ixA F ix = some (j : Int) := by kernel_rfl) (hs : (((slE P ty).bind P.info?).map (·.size), dok n d) = (some sz, true) := by kernel_rfl) : OG P ⟨d, .indexAddr ty x ix, t, s, af, gu⟩ n D F w K Q := Oixi sz m j _ rfl hA hlt h hx hi hs
theorem Oixj {ty : TypeId} {x ix : Operand} {b off : Nat} (m j : Nat) (i : Int) (hj : i = j) {A : Option Addr} (hA : A = some ⟨b, off, none⟩) (hlt : j < m) (h : K (pt d (.pointer (some ⟨b, off + j, none⟩)) F) w)
    (hx : slA F x = some (A, m) := by kernel_rfl) (hi : ixA F ix = some i := by kernel_rfl) (hs : (((slE P ty).bind P.info?).map (·.size), dok n d) = (some 1, true) := by kernel_rfl) : OG P ⟨d, .indexAddr ty x ix, t, s, af, gu⟩ n D F w K Q := Oixi 1 m j _ hj hA hlt (by rwa [Nat.mul_one]) hx hi hs
theorem Oix {ty : TypeId} {x ix : Operand} {b off : Nat} (m j : Nat) {A : Option Addr} (hA : A = some ⟨b, off, none⟩) (hlt : j < m) (h : K (pt d (.pointer (some ⟨b, off + j, none⟩)) F) w)
    (hx : slA F x = some (A, m) := by kernel_rfl) (hi : ixA F ix = some (j : Int) := by kernel_rfl) (hs : (((slE P ty).bind P.info?).map (·.size), dok n d) = (some 1, true) := by kernel_rfl) : OG P ⟨d, .indexAddr ty x ix, t, s, af, gu⟩ n D F w K Q := Oixj m j _ rfl hA hlt h hx hi hs
theorem Orow {α : Type} {R : World → α → List Value → Prop} {enc : α → Value} (hR : One R enc) {ty e : TypeId} {x y : Operand} {base m c b off j : Nat} {A : Option Addr} {xs : List α} (HO : OwnG base e 1 R w (.slice A m c) xs) (hA : A = some ⟨b, off, none⟩) (hj : j < xs.length) (v : α) (hv : ∀ w, R w v [enc v])
    (h : ∀ w', OwnG base e 1 R w' (.slice A m c) (xs.set j v) → Upd (ob A ++ []) w w' → K (pt d undef F) w') (hx : evo F x = some (.pointer (some ⟨b, off + j, none⟩)) := by kernel_rfl) (hy : evo F y = some (enc v) := by kernel_rfl) (hs : ((P.info? ty).map (·.size), dok n d) = (some 1, true) := by kernel_rfl) : OG P ⟨d, .store ty x y, t, s, af, gu⟩ n D F w K Q := by
  simp only [Prod.mk.injEq] at hs
  exact ⟨fun a ha K' hK => ow_row hR v rfl rfl (ha.ev hx) (ha.ev hy) hv HO hA hj hs.1 fun w' hO hu => hK _ _ _ (h w' hO hu) (ha.put hs.2)⟩
def infA (P : Program) (ty : TypeId) : Option (Option Value × Nat × Nat) := ((slE P ty).bind P.info?).map fun i => (i.zero, i.size, i.bytes)
theorem Oapp {α : Type} {R : World → α → List Value → Prop} {enc : α → Value} (hR : One R enc) {x y : Operand} {e : TypeId} {base m c : Nat} {A : Option Addr} {xs ys : List α} {mm : Bool} {e' ty : TypeId} {u : Value} (z : Value) (bytes : Nat) (HO : OwnG base e 1 R w (.slice A m c) xs) (HY : RdG mm e' 1 R w u ys)
    (hl : xs.length + ys.length ≤ 4194304) (hbase : base ≤ w.heap.size) (h : ∀ A' c' w', OwnG base e 1 R w' (.slice A' (xs ++ ys).length c') (xs ++ ys) → Upd (ob A ++ []) w w' → K (pt d (.slice A' (xs ++ ys).length c') F) w')
    (hx : evo F x = some (.slice A m c) := by kernel_rfl) (hy : evo F y = some u := by kernel_rfl) (he : slE P ty = some e := by kernel_rfl) (hs : (infA P ty, z.cells.size, dok n d && Nat.ble bytes 65536) = (some (some z, 1, bytes), 1, true) := by kernel_rfl) : OG P ⟨d, .call { callee := .builtin .append, args := #[x, y], argTypes := #[ty, ty] }, t, s, af, gu⟩ n D F w K Q := by
  simp only [Prod.mk.injEq] at hs
  have h2 := and2 hs.2.2
  exact ⟨fun a ha K' hK => ow_app hR z bytes rfl rfl (slE_some he) (by have := hs.1; unfold infA at this; rw [he] at this; exact this) hs.2.1 xs (ha.ev hx) HO u ys (ha.ev hy) HY hl (by simpa using h2.2) hbase fun A' c' w' hO hu => hK _ _ _ (h A' c' w' hO hu) (ha.put h2.1)⟩
theorem Oappg {α : Type} {R : World → α → List Value → Prop} {x y : Operand} {e : TypeId} {base m c : Nat} {A : Option Addr} {xs ys : List α} {mm : Bool} {e' ty : TypeId} {u : Value} (z : Value) (sz bytes : Nat) (HO : OwnG base e sz R w (.slice A m c) xs) (HY : RdG mm e' sz R w u ys) (hne : 0 < ys.length)
    (hone : ∀ x cs, R w x cs → ∀ v, v ∈ cs → v.oneCell' = true) (hRU : ∀ w', Upd (ob A ++ []) w w' → ∀ x cs, R w x cs → R w' x cs)
    (hl : xs.length + ys.length ≤ 4194304) (hbase : base ≤ w.heap.size) (h : ∀ A' c' w', OwnG base e sz R w' (.slice A' (xs ++ ys).length c') (xs ++ ys) → Upd (ob A ++ []) w w' → K (pt d (.slice A' (xs ++ ys).length c') F) w')
    (hx : evo F x = some (.slice A m c) := by kernel_rfl) (hy : evo F y = some u := by kernel_rfl) (he : slE P ty = some e := by kernel_rfl) (hs : (infA P ty, z.cells.size, (dok n d && Nat.ble bytes 65536) && Nat.blt 0 sz) = (some (some z, sz, bytes), sz, true) := by kernel_rfl) : OG P ⟨d, .call { callee := .builtin .append, args := #[x, y], argTypes := #[ty, ty] }, t, s, af, gu⟩ n D F w K Q := by
  simp only [Prod.mk.injEq] at hs
  have h2 := and2 hs.2.2
  have h3 := and2 h2.1
  exact ⟨fun a ha K' hK => ow_appg z sz bytes rfl rfl (slE_some he) (by have := hs.1; unfold infA at this; rw [he] at this; exact this) hs.2.1 (by simpa using h2.2) xs (ha.ev hx) HO u ys (ha.ev hy) HY hne hone hRU hl (by simpa using h3.2) hbase fun A' c' w' hO hu => hK _ _ _ (h A' c' w' hO hu) (ha.put h3.1)⟩
def fnO (P : Program) (f : FuncId) : Option (Bool × Bool) := (P.funcs[f]?).map fun fn => (fn.name == "runtime.NumGoroutine", fn.body.isSome)
theorem fnO_some {f : FuncId} (h : fnO P f = some (false, true)) : ∃ fn, P.funcs[f]? = some fn ∧ (fn.name == "runtime.NumGoroutine") = false ∧ fn.body.isSome = true := by
  obtain ⟨fn, h1, h2⟩ := Option.map_eq_some_iff.1 h
  simp only [Prod.mk.injEq] at h2
  exact ⟨fn, h1, h2.1, h2.2⟩
theorem ag_args {a : Act} (ha : Ag n D F a) : ∀ {l : List Operand} {vs : List Value}, l.map (evo F) = vs.map some → l.map a.eval = vs
  | [], vs, h => by cases vs with | nil => rfl | cons _ _ => cases h
  | x :: l, vs, h => by
    cases vs with
    | nil => cases h
    | cons v vs =>
      injection h with h1 h2
      simp [ha.ev h1, ag_args ha h2]
theorem Oc {f : FuncId} {opds : Array Operand} {ts : Array TypeId} {args : Array Value} (h : Calls P f args w fun e w' => ∃ v, e = .returned v ∧ K (pt d v F) w')
    (ha : opds.toList.map (evo F) = args.toList.map some := by kernel_rfl) (hf : fnO P f = some (false, true) := by kernel_rfl) (hs : dok n d = true := by kernel_rfl) : OG P ⟨d, .call { callee := .value (.func f), args := opds, argTypes := ts }, t, s, af, gu⟩ n D F w K Q := by
  obtain ⟨fn, h1, h2, h3⟩ := fnO_some hf
  exact ⟨fun a hag K' hK => ow_call args rfl rfl h1 h2 h3 (by apply Array.toList_inj.1; rw [Array.toList_map]; exact ag_args hag ha) (h.mono fun e w' hh => by
    obtain ⟨v, rfl, hk⟩ := hh
    exact ⟨v, rfl, hK _ _ _ hk (hag.put hs)⟩)⟩
theorem Ocv {f : FuncId} {x : Operand} {opds : Array Operand} {ts : Array TypeId} {args : Array Value} (first cap : Array Value) (h : Calls P f args w fun e w' => ∃ v, e = .returned v ∧ K (pt d v F) w')
    (hx : evo F x = some (.func (.func f) first cap) := by kernel_rfl) (ha : first.toList.map some ++ (opds.toList.map (evo F) ++ cap.toList.map some) = args.toList.map some := by kernel_rfl) (hf : fnO P f = some (false, true) := by kernel_rfl) (hs : dok n d = true := by kernel_rfl) : OG P ⟨d, .call { callee := .value x, args := opds, argTypes := ts }, t, s, af, gu⟩ n D F w K Q := by
  obtain ⟨fn, h1, h2, h3⟩ := fnO_some hf
  have hall : ∀ {l : List (Option Value)} {vs : List Value}, l = vs.map some → ∀ y, y ∈ l → y.isSome = true := by
    intro l vs e y hy
    subst e
    obtain ⟨v, _, rfl⟩ := List.mem_map.1 hy
    rfl
  refine ⟨fun a hag K' hK => ow_callv first cap args rfl rfl (hag.ev hx) h1 h2 h3 ?_ (h.mono fun e w' hh => by
    obtain ⟨v, rfl, hk⟩ := hh
    exact ⟨v, rfl, hK _ _ _ hk (hag.put hs)⟩)⟩
  have hm : opds.toList.map (evo F) = (opds.toList.map a.eval).map some := by
    rw [List.map_map]
    refine List.map_congr_left fun y hy => ?_
    have := hall ha (evo F y) (by simp only [List.mem_append, List.mem_map]; exact .inr (.inl ⟨y, hy, rfl⟩))
    obtain ⟨v, hv⟩ := Option.isSome_iff_exists.1 this
    simp [hag.ev hv, hv]
  rw [hm, ← List.map_append, ← List.map_append] at ha
  apply Array.toList_inj.1
  have hinj := (List.map_inj_right (fun x y (h : some x = some y) => Option.some.inj h)).1 ha
  simpa using hinj
end
section
variable {P : Program} {f : FuncId} {args : Array Value} {w : World} {K : Value → World → Prop} {v : Value} {A1 A2 A3 A4 A5 A6 : World → Prop}
theorem mq (h : Calls P f args w fun e w' => e = .returned v ∧ w = w') (k : K v w) : Calls P f args w fun e w' => ∃ v, e = .returned v ∧ K v w' := h.mono fun _ _ ⟨h1, h2⟩ => ⟨v, h1, h2 ▸ k⟩
theorem m1 (h : Calls P f args w fun e w' => e = .returned v ∧ A1 w') (k : ∀ w', A1 w' → K v w') : Calls P f args w fun e w' => ∃ v, e = .returned v ∧ K v w' := h.mono fun _ w' ⟨h0, h1⟩ => ⟨_, h0, k w' h1⟩
theorem m2 (h : Calls P f args w fun e w' => e = .returned v ∧ A1 w' ∧ A2 w') (k : ∀ w', A1 w' → A2 w' → K v w') : Calls P f args w fun e w' => ∃ v, e = .returned v ∧ K v w' := h.mono fun _ w' ⟨h0, h1, h2⟩ => ⟨_, h0, k w' h1 h2⟩
theorem m3 (h : Calls P f args w fun e w' => e = .returned v ∧ A1 w' ∧ A2 w' ∧ A3 w') (k : ∀ w', A1 w' → A2 w' → A3 w' → K v w') : Calls P f args w fun e w' => ∃ v, e = .returned v ∧ K v w' := h.mono fun _ w' ⟨h0, h1, h2, h3⟩ => ⟨_, h0, k w' h1 h2 h3⟩
theorem m4 (h : Calls P f args w fun e w' => e = .returned v ∧ A1 w' ∧ A2 w' ∧ A3 w' ∧ A4 w') (k : ∀ w', A1 w' → A2 w' → A3 w' → A4 w' → K v w') : Calls P f args w fun e w' => ∃ v, e = .returned v ∧ K v w' := h.mono fun _ w' ⟨h0, h1, h2, h3, h4⟩ => ⟨_, h0, k w' h1 h2 h3 h4⟩
theorem m5 (h : Calls P f args w fun e w' => e = .returned v ∧ A1 w' ∧ A2 w' ∧ A3 w' ∧ A4 w' ∧ A5 w') (k : ∀ w', A1 w' → A2 w' → A3 w' → A4 w' → A5 w' → K v w') : Calls P f args w fun e w' => ∃ v, e = .returned v ∧ K v w' := h.mono fun _ w' ⟨h0, h1, h2, h3, h4, h5⟩ => ⟨_, h0, k w' h1 h2 h3 h4 h5⟩
theorem m6 (h : Calls P f args w fun e w' => e = .returned v ∧ A1 w' ∧ A2 w' ∧ A3 w' ∧ A4 w' ∧ A5 w' ∧ A6 w') (k : ∀ w', A1 w' → A2 w' → A3 w' → A4 w' → A5 w' → A6 w' → K v w') : Calls P f args w fun e w' => ∃ v, e = .returned v ∧ K v w' := h.mono fun _ w' ⟨h0, h1, h2, h3, h4, h5, h6⟩ => ⟨_, h0, k w' h1 h2 h3 h4 h5 h6⟩
variable {α β : Type} {V : α → Value} {V2 : α → β → Value} {B1 B2 B3 B4 B5 B6 : α → World → Prop} {E1 E2 E3 E4 E5 E6 E7 : α → β → World → Prop}
theorem e1 (h : Calls P f args w fun e w' => ∃ x, e = .returned (V x) ∧ B1 x w') (k : ∀ x w', B1 x w' → K (V x) w') : Calls P f args w fun e w' => ∃ v, e = .returned v ∧ K v w' := h.mono fun _ w' ⟨x, h0, h1⟩ => ⟨_, h0, k x w' h1⟩
theorem e2 (h : Calls P f args w fun e w' => ∃ x, e = .returned (V x) ∧ B1 x w' ∧ B2 x w') (k : ∀ x w', B1 x w' → B2 x w' → K (V x) w') : Calls P f args w fun e w' => ∃ v, e = .returned v ∧ K v w' := h.mono fun _ w' ⟨x, h0, h1, h2⟩ => ⟨_, h0, k x w' h1 h2⟩
theorem e3 (h : Calls P f args w fun e w' => ∃ x, e = .returned (V x) ∧ B1 x w' ∧ B2 x w' ∧ B3 x w') (k : ∀ x w', B1 x w' → B2 x w' → B3 x w' → K (V x) w') : Calls P f args w fun e w' => ∃ v, e = .returned v ∧ K v w' := h.mono fun _ w' ⟨x, h0, h1, h2, h3⟩ => ⟨_, h0, k x w' h1 h2 h3⟩
theorem e4 (h : Calls P f args w fun e w' => ∃ x, e = .returned (V x) ∧ B1 x w' ∧ B2 x w' ∧ B3 x w' ∧ B4 x w') (k : ∀ x w', B1 x w' → B2 x w' → B3 x w' → B4 x w' → K (V x) w') : Calls P f args w fun e w' => ∃ v, e = .returned v ∧ K v w' := h.mono fun _ w' ⟨x, h0, h1, h2, h3, h4⟩ => ⟨_, h0, k x w' h1 h2 h3 h4⟩
theorem e5 (h : Calls P f args w fun e w' => ∃ x, e = .returned (V x) ∧ B1 x w' ∧ B2 x w' ∧ B3 x w' ∧ B4 x w' ∧ B5 x w') (k : ∀ x w', B1 x w' → B2 x w' → B3 x w' → B4 x w' → B5 x w' → K (V x) w') : Calls P f args w fun e w' => ∃ v, e = .returned v ∧ K v w' := h.mono fun _ w' ⟨x, h0, h1, h2, h3, h4, h5⟩ => ⟨_, h0, k x w' h1 h2 h3 h4 h5⟩
theorem e6 (h : Calls P f args w fun e w' => ∃ x, e = .returned (V x) ∧ B1 x w' ∧ B2 x w' ∧ B3 x w' ∧ B4 x w' ∧ B5 x w' ∧ B6 x w') (k : ∀ x w', B1 x w' → B2 x w' → B3 x w' → B4 x w' → B5 x w' → B6 x w' → K (V x) w') : Calls P f args w fun e w' => ∃ v, e = .returned v ∧ K v w' := h.mono fun _ w' ⟨x, h0, h1, h2, h3, h4, h5, h6⟩ => ⟨_, h0, k x w' h1 h2 h3 h4 h5 h6⟩
theorem ee1 (h : Calls P f args w fun e w' => ∃ x y, e = .returned (V2 x y) ∧ E1 x y w') (k : ∀ x y w', E1 x y w' → K (V2 x y) w') : Calls P f args w fun e w' => ∃ v, e = .returned v ∧ K v w' := h.mono fun _ w' ⟨x, y, h0, h1⟩ => ⟨_, h0, k x y w' h1⟩
theorem ee2 (h : Calls P f args w fun e w' => ∃ x y, e = .returned (V2 x y) ∧ E1 x y w' ∧ E2 x y w') (k : ∀ x y w', E1 x y w' → E2 x y w' → K (V2 x y) w') : Calls P f args w fun e w' => ∃ v, e = .returned v ∧ K v w' := h.mono fun _ w' ⟨x, y, h0, h1, h2⟩ => ⟨_, h0, k x y w' h1 h2⟩
theorem ee3 (h : Calls P f args w fun e w' => ∃ x y, e = .returned (V2 x y) ∧ E1 x y w' ∧ E2 x y w' ∧ E3 x y w') (k : ∀ x y w', E1 x y w' → E2 x y w' → E3 x y w' → K (V2 x y) w') : Calls P f args w fun e w' => ∃ v, e = .returned v ∧ K v w' := h.mono fun _ w' ⟨x, y, h0, h1, h2, h3⟩ => ⟨_, h0, k x y w' h1 h2 h3⟩
theorem ee4 (h : Calls P f args w fun e w' => ∃ x y, e = .returned (V2 x y) ∧ E1 x y w' ∧ E2 x y w' ∧ E3 x y w' ∧ E4 x y w') (k : ∀ x y w', E1 x y w' → E2 x y w' → E3 x y w' → E4 x y w' → K (V2 x y) w') : Calls P f args w fun e w' => ∃ v, e = .returned v ∧ K v w' := h.mono fun _ w' ⟨x, y, h0, h1, h2, h3, h4⟩ => ⟨_, h0, k x y w' h1 h2 h3 h4⟩
theorem ee5 (h : Calls P f args w fun e w' => ∃ x y, e = .returned (V2 x y) ∧ E1 x y w' ∧ E2 x y w' ∧ E3 x y w' ∧ E4 x y w' ∧ E5 x y w') (k : ∀ x y w', E1 x y w' → E2 x y w' → E3 x y w' → E4 x y w' → E5 x y w' → K (V2 x y) w') : Calls P f args w fun e w' => ∃ v, e = .returned v ∧ K v w' := h.mono fun _ w' ⟨x, y, h0, h1, h2, h3, h4, h5⟩ => ⟨_, h0, k x y w' h1 h2 h3 h4 h5⟩
theorem ee6 (h : Calls P f args w fun e w' => ∃ x y, e = .returned (V2 x y) ∧ E1 x y w' ∧ E2 x y w' ∧ E3 x y w' ∧ E4 x y w' ∧ E5 x y w' ∧ E6 x y w') (k : ∀ x y w', E1 x y w' → E2 x y w' → E3 x y w' → E4 x y w' → E5 x y w' → E6 x y w' → K (V2 x y) w') : Calls P f args w fun e w' => ∃ v, e = .returned v ∧ K v w' := h.mono fun _ w' ⟨x, y, h0, h1, h2, h3, h4, h5, h6⟩ => ⟨_, h0, k x y w' h1 h2 h3 h4 h5 h6⟩
theorem ee7 (h : Calls P f args w fun e w' => ∃ x y, e = .returned (V2 x y) ∧ E1 x y w' ∧ E2 x y w' ∧ E3 x y w' ∧ E4 x y w' ∧ E5 x y w' ∧ E6 x y w' ∧ E7 x y w') (k : ∀ x y w', E1 x y w' → E2 x y w' → E3 x y w' → E4 x y w' → E5 x y w' → E6 x y w' → E7 x y w' → K (V2 x y) w') : Calls P f args w fun e w' => ∃ v, e = .returned v ∧ K v w' := h.mono fun _ w' ⟨x, y, h0, h1, h2, h3, h4, h5, h6, h7⟩ => ⟨_, h0, k x y w' h1 h2 h3 h4 h5 h6 h7⟩
variable {γ : Type} {mm : Bool} {base : Nat} {te : TypeId} {sz : Nat} {RR : World → γ → List Value → Prop} {xs : List γ} {C1 C2 C3 C4 : Value → World → Prop} {U : Value → Value}
theorem so1 (h : Calls P f args w fun e w' => ∃ v, e = .returned (U v) ∧ OwnG base te sz RR w' v xs) (k : ∀ A c w', OwnG base te sz RR w' (.slice A xs.length c) xs → xs.length ≤ c → c ≤ maxLen → K (U (.slice A xs.length c)) w') : Calls P f args w fun e w' => ∃ v, e = .returned v ∧ K v w' := h.mono fun _ w' ⟨v, h0, hO⟩ => by
  obtain ⟨A, c, rfl, h5, h6⟩ := hO.rd.shape
  exact ⟨_, h0, k A c w' hO h5 h6⟩
theorem so2 (h : Calls P f args w fun e w' => ∃ v, e = .returned (U v) ∧ OwnG base te sz RR w' v xs ∧ C1 v w') (k : ∀ A c w', OwnG base te sz RR w' (.slice A xs.length c) xs → xs.length ≤ c → c ≤ maxLen → C1 (.slice A xs.length c) w' → K (U (.slice A xs.length c)) w') : Calls P f args w fun e w' => ∃ v, e = .returned v ∧ K v w' := h.mono fun _ w' ⟨v, h0, hO, h1⟩ => by
  obtain ⟨A, c, rfl, h5, h6⟩ := hO.rd.shape
  exact ⟨_, h0, k A c w' hO h5 h6 h1⟩
theorem so3 (h : Calls P f args w fun e w' => ∃ v, e = .returned (U v) ∧ OwnG base te sz RR w' v xs ∧ C1 v w' ∧ C2 v w') (k : ∀ A c w', OwnG base te sz RR w' (.slice A xs.length c) xs → xs.length ≤ c → c ≤ maxLen → C1 (.slice A xs.length c) w' → C2 (.slice A xs.length c) w' → K (U (.slice A xs.length c)) w') : Calls P f args w fun e w' => ∃ v, e = .returned v ∧ K v w' := h.mono fun _ w' ⟨v, h0, hO, h1, h2⟩ => by
  obtain ⟨A, c, rfl, h5, h6⟩ := hO.rd.shape
  exact ⟨_, h0, k A c w' hO h5 h6 h1 h2⟩
theorem so4 (h : Calls P f args w fun e w' => ∃ v, e = .returned (U v) ∧ OwnG base te sz RR w' v xs ∧ C1 v w' ∧ C2 v w' ∧ C3 v w') (k : ∀ A c w', OwnG base te sz RR w' (.slice A xs.length c) xs → xs.length ≤ c → c ≤ maxLen → C1 (.slice A xs.length c) w' → C2 (.slice A xs.length c) w' → C3 (.slice A xs.length c) w' → K (U (.slice A xs.length c)) w') : Calls P f args w fun e w' => ∃ v, e = .returned v ∧ K v w' := h.mono fun _ w' ⟨v, h0, hO, h1, h2, h3⟩ => by
  obtain ⟨A, c, rfl, h5, h6⟩ := hO.rd.shape
  exact ⟨_, h0, k A c w' hO h5 h6 h1 h2 h3⟩
theorem sr1 (h : Calls P f args w fun e w' => ∃ v, e = .returned (U v) ∧ RdG mm te sz RR w' v xs) (k : ∀ A c w', RdG mm te sz RR w' (.slice A xs.length c) xs → xs.length ≤ c → c ≤ maxLen → K (U (.slice A xs.length c)) w') : Calls P f args w fun e w' => ∃ v, e = .returned v ∧ K v w' := h.mono fun _ w' ⟨v, h0, hO⟩ => by
  obtain ⟨A, c, rfl, h5, h6⟩ := hO.shape
  exact ⟨_, h0, k A c w' hO h5 h6⟩
theorem sr2 (h : Calls P f args w fun e w' => ∃ v, e = .returned (U v) ∧ RdG mm te sz RR w' v xs ∧ C1 v w') (k : ∀ A c w', RdG mm te sz RR w' (.slice A xs.length c) xs → xs.length ≤ c → c ≤ maxLen → C1 (.slice A xs.length c) w' → K (U (.slice A xs.length c)) w') : Calls P f args w fun e w' => ∃ v, e = .returned v ∧ K v w' := h.mono fun _ w' ⟨v, h0, hO, h1⟩ => by
  obtain ⟨A, c, rfl, h5, h6⟩ := hO.shape
  exact ⟨_, h0, k A c w' hO h5 h6 h1⟩
theorem sr3 (h : Calls P f args w fun e w' => ∃ v, e = .returned (U v) ∧ RdG mm te sz RR w' v xs ∧ C1 v w' ∧ C2 v w') (k : ∀ A c w', RdG mm te sz RR w' (.slice A xs.length c) xs → xs.length ≤ c → c ≤ maxLen → C1 (.slice A xs.length c) w' → C2 (.slice A xs.length c) w' → K (U (.slice A xs.length c)) w') : Calls P f args w fun e w' => ∃ v, e = .returned v ∧ K v w' := h.mono fun _ w' ⟨v, h0, hO, h1, h2⟩ => by
  obtain ⟨A, c, rfl, h5, h6⟩ := hO.shape
  exact ⟨_, h0, k A c w' hO h5 h6 h1 h2⟩
theorem sr4 (h : Calls P f args w fun e w' => ∃ v, e = .returned (U v) ∧ RdG mm te sz RR w' v xs ∧ C1 v w' ∧ C2 v w' ∧ C3 v w') (k : ∀ A c w', RdG mm te sz RR w' (.slice A xs.length c) xs → xs.length ≤ c → c ≤ maxLen → C1 (.slice A xs.length c) w' → C2 (.slice A xs.length c) w' → C3 (.slice A xs.length c) w' → K (U (.slice A xs.length c)) w') : Calls P f args w fun e w' => ∃ v, e = .returned v ∧ K v w' := h.mono fun _ w' ⟨v, h0, hO, h1, h2, h3⟩ => by
  obtain ⟨A, c, rfl, h5, h6⟩ := hO.shape
  exact ⟨_, h0, k A c w' hO h5 h6 h1 h2 h3⟩
end
structure GA (P : Program) (ops : Array Oper) (Q : Exit → Act → World → Prop) (S : World → Prop) (fuel : Nat) (l : Array Bool) (n : Nat) (D : List Deferred) (F : Fr) (w : World) : Prop where
  out : ∀ a, Ag n D F a → WA P ops Q S fuel l a w
structure GH (P : Program) (ops : Array Oper) (Q : Exit → Act → World → Prop) (S : World → Prop) (fuel : Nat) (l : Array Bool) (n : Nat) (D : List Deferred) (F : Fr) (w : World) : Prop where
  s : S w
  out : GA P ops Q S fuel l n D F w
section
variable {P : Program} {Q : Exit → Act → World → Prop} {n : Nat} {D : List Deferred} {F : Fr} {w : World} {ops : Array Oper} {S : World → Prop} {fuel : Nat} {l : Array Bool} {id : Nat}
theorem hld (hS : S w) (h : S w → GA P ops Q S fuel l n D F w) : GH P ops Q S fuel l n D F w := ⟨hS, h hS⟩
theorem Rg (k : Nat) (S : World → Prop) (h : ∀ w', Upd [] w w' → GH P ops Q S k (Array.replicate k false) n D F w') (hn : ops.size = k := by kernel_rfl) (hm : P.follows .mixedOrders = true := by kernel_rfl) : GC P (.region id ops true) Q n D F w := by
  subst hn
  exact ⟨fun a ha => Rgo S _ hm rfl rfl fun w' hu => ⟨(h w' hu).s, (h w' hu).out.out a ha⟩⟩
theorem R0 (i : Nat) {o : Oper} (hi : ops[i]? = some o) (h : OG P o n D F w (GH P ops Q S fuel (l.setIfInBounds i true) n D) Q) (hc : (Region.ready .any ops l == [i]) = true := by kernel_rfl) (hw : gOn ops F o.guard = (true, true) := by kernel_rfl) : GA P ops Q S (fuel + 1) l n D F w :=
  ⟨fun a ha => Rst (l.setIfInBounds i true) hi (by simp only [rdB, hc, Bool.true_and]; simp) (gOn_w ha hw) (h.out a ha _ fun F' w' a' k ha' => ⟨k.s, k.out.out a' ha'⟩)⟩
theorem R2 (i j : Nat) {o o' : Oper} (hi : ops[i]? = some o) (hj : ops[j]? = some o') (h1 : OG P o n D F w (GH P ops Q S fuel (l.setIfInBounds i true) n D) Q) (h2 : OG P o' n D F w (GH P ops Q S fuel (l.setIfInBounds j true) n D) Q) (hc : (Region.ready .any ops l == [i, j]) = true := by kernel_rfl)
    (hw : (gOn ops F o.guard, gOn ops F o'.guard) = ((true, true), (true, true)) := by kernel_rfl) : GA P ops Q S (fuel + 1) l n D F w := by
  simp only [Prod.mk.injEq] at hw
  exact ⟨fun a ha => Rst2 _ _ hi hj hc rfl rfl (gOn_w ha hw.1) (gOn_w ha hw.2) (h1.out a ha _ fun F' w' a' k ha' => ⟨k.s, k.out.out a' ha'⟩) (h2.out a ha _ fun F' w' a' k ha' => ⟨k.s, k.out.out a' ha'⟩)⟩
def opA (ops : Array Oper) (i : Nat) : Oper := (ops[i]?).getD default
def tkA (ops : Array Oper) (l : Array Bool) (i : Nat) : Bool := (ops[i]?).isSome && (Region.noSelect ops && Region.free .any ops l i && (Region.ready .any ops l).contains i)
theorem tkA_b {i : Nat} (h : tkA ops l i = true) : ops[i]? = some (opA ops i) ∧ tkB ops l (l.setIfInBounds i true) i = true := by
  have := and2 h
  obtain ⟨o, ho⟩ := Option.isSome_iff_exists.1 this.1
  exact ⟨by simp [opA, ho], by unfold tkB; rw [this.2]; simp⟩
theorem Rr (i : Nat) (hS : S w) (v : Value) (hy : ∀ w', S w' → (execOp (ovr F) (opA ops i)).run P w' = .ok (.value v) w') (h : GA P ops Q S fuel (l.setIfInBounds i true) n D (pt (opA ops i).dst v F) w)
    (hc : ((tkA ops l i, gOn ops F (opA ops i).guard), (dok n (opA ops i).dst && opIn F (opA ops i).op)) = ((true, (true, true)), true) := by kernel_rfl) (hQ : ∀ c a w, Q (.panic c) (a.put (opA ops i).dst v) w → Q (.panic c) a w := by exact fun _ _ _ h => h) : GA P ops Q S (fuel + 1) l n D F w := by
  simp only [Prod.mk.injEq] at hc
  obtain ⟨h1, h2⟩ := tkA_b hc.1.1
  have h3 := and2 hc.2
  exact ⟨fun a ha => Rtk v _ h1 rfl h2 hQ (gOn_w ha hc.1.2) (fun w' hs => by rw [← opIn_ex ha h3.2]; exact hy w' hs) hS (h.out _ (ha.put h3.1))⟩
theorem Rt (i : Nat) (hS : S w) (h : GA P ops Q S fuel (l.setIfInBounds i true) n D (pt (opA ops i).dst (vo P w F (opA ops i)) F) w) (hy : ∀ w', (execOp (ovr F) (opA ops i)).run P w' = .ok (.value (vo P w F (opA ops i))) w' := by intro _; kernel_rfl)
    (hc : ((tkA ops l i, gOn ops F (opA ops i).guard), (dok n (opA ops i).dst && opIn F (opA ops i).op)) = ((true, (true, true)), true) := by kernel_rfl) (hQ : ∀ c a w', Q (.panic c) (a.put (opA ops i).dst (vo P w F (opA ops i))) w' → Q (.panic c) a w' := by exact fun _ _ _ h => h) : GA P ops Q S (fuel + 1) l n D F w := by
  simp only [Prod.mk.injEq] at hc
  obtain ⟨h1, h2⟩ := tkA_b hc.1.1
  have h3 := and2 hc.2
  exact ⟨fun a ha => Rtk _ _ h1 rfl h2 (fun c a w' q => by exact hQ c a w' q) (gOn_w ha hc.1.2) (fun w' hs => by rw [← opIn_ex ha h3.2]; exact hy w') hS (h.out _ (ha.put h3.1))⟩
theorem Ro (i : Nat) (hS : S w) (h : GA P ops Q S fuel (l.setIfInBounds i true) n D (pt (opA ops i).dst undef F) w) (hc : ((tkA ops l i, gOn ops F (opA ops i).guard), dok n (opA ops i).dst) = ((true, (true, false)), true) := by kernel_rfl)
    (hQ : ∀ c a w, Q (.panic c) (a.put (opA ops i).dst undef) w → Q (.panic c) a w := by exact fun _ _ _ h => h) : GA P ops Q S (fuel + 1) l n D F w := by
  simp only [Prod.mk.injEq] at hc
  obtain ⟨h1, h2⟩ := tkA_b hc.1.1
  exact ⟨fun a ha => Roff _ h1 rfl h2 (fun c a w' q => by exact hQ c a w' q) (gOn_w ha hc.1.2) hS (h.out _ (ha.put hc.2))⟩
def ldc (P : Program) (F : Fr) (o : Oper) : Option Value × Bool := match o.op with
  | .load ty x => (evo F x, scalarT P ty)
  | _ => (none, false)
theorem Rl (i : Nat) (hS : S w) {p : Addr} {v : Value} (hl : ∀ w', S w' → w'.cell? p = some v) (h : GA P ops Q S fuel (l.setIfInBounds i true) n D (pt (opA ops i).dst v F) w) (hx : ldc P F (opA ops i) = (some (.pointer (some p)), true) := by kernel_rfl)
    (hc : ((tkA ops l i, gOn ops F (opA ops i).guard), (dok n (opA ops i).dst && opIn F (opA ops i).op)) = ((true, (true, true)), true) := by kernel_rfl) (hQ : ∀ c a w, Q (.panic c) (a.put (opA ops i).dst v) w → Q (.panic c) a w := by exact fun _ _ _ h => h) : GA P ops Q S (fuel + 1) l n D F w := by
  simp only [Prod.mk.injEq] at hc
  obtain ⟨h1, h2⟩ := tkA_b hc.1.1
  have h3 := and2 hc.2
  obtain ⟨ty, x, h4, h5, h6⟩ : ∃ ty x, (opA ops i).op = .load ty x ∧ evo F x = some (.pointer (some p)) ∧ scalarT P ty = true := by
    unfold ldc at hx
    split at hx
    · rename_i ty x hop
      simp only [Prod.mk.injEq] at hx
      exact ⟨ty, x, hop, hx.1, hx.2⟩
    · simp at hx
  exact ⟨fun a ha => Rtk v _ h1 rfl h2 hQ (gOn_w ha hc.1.2) (fun w' hs => run_ld h4 (ha.ev h5) h6 (hl w' hs)) hS (h.out _ (ha.put h3.1))⟩
theorem re (h : GQ Q .normal n D F w) (hr : (Region.ready .any ops l == []) = true := by kernel_rfl) : GA P ops Q S fuel l n D F w := ⟨fun a ha => Rend hr (h.out a ha)⟩
theorem bla (j : Nat) (e : Bool) (ht : e = true → GA P ops Q S fuel l n D ((j, .bool true) :: F) w) (hf : e = false → GA P ops Q S fuel l n D ((j, .bool false) :: F) w) (hv : lk F j = some (.bool e) := by kernel_rfl) : GA P ops Q S fuel l n D F w := by
  refine ⟨fun a ha => ?_⟩
  have key : ∀ b, e = b → Ag n D ((j, .bool b) :: F) a := fun b hb => ⟨ha.sz, ha.df, fun i v hi => by
    rcases lk_cons hi with ⟨rfl, rfl⟩ | ⟨_, h2⟩
    · rw [← hb]; exact ha.at_ _ _ hv
    · exact ha.at_ _ _ h2⟩
  rcases bool_dich e with q | q
  · exact (ht q).out a (key _ q)
  · exact (hf q).out a (key _ q)
theorem sya (j : Nat) {e b : Bool} (q : e = b) (h : GA P ops Q S fuel l n D ((j, .bool b) :: F) w) (hv : lk F j = some (.bool e) := by kernel_rfl) : GA P ops Q S fuel l n D F w := by
  subst q
  refine ⟨fun a ha => h.out a ⟨ha.sz, ha.df, fun i v hi => ?_⟩⟩
  rcases lk_cons hi with ⟨rfl, rfl⟩ | ⟨_, h2⟩
  · exact ha.at_ _ _ hv
  · exact ha.at_ _ _ h2
end
def rsv (rs : Array ResultVar) (F : Fr) : Option Value := match rs.toList with
  | [] => some (.tuple #[])
  | [.tmp i] => lk F i
  | [.tmp i, .tmp j] => (lk F i).bind fun u => (lk F j).map fun v => .tuple #[u, v]
  | [.tmp i, .tmp j, .tmp k] => (lk F i).bind fun u => (lk F j).bind fun v => (lk F k).map fun x => .tuple #[u, v, x]
  | _ => none
section
variable {P : Program} {n : Nat} {F : Fr} {w : World} {D : List Deferred} {fn : Func} {R : Ending → World → Prop}
theorem rsv_run {a : Act} (ha : Ag n D F a) {v : Value} (h : rsv fn.results F = some v) : (results fn a.tmps).run P w = .ok v w := by
  obtain ⟨rs, hrs⟩ : ∃ rs, fn.results = rs := ⟨_, rfl⟩
  rw [hrs] at h
  have hg : ∀ {i v}, lk F i = some v → a.tmps[i]?.getD undef = v := fun h => by rw [ha.at_ _ _ h]; rfl
  obtain ⟨l⟩ := rs
  unfold rsv at h
  simp only at h
  split at h
  · simp [results, hrs]
    simpa using h
  · simp [results, hrs, hg h]
  · obtain ⟨u, h1, h2⟩ := Option.bind_eq_some_iff.1 h
    obtain ⟨x, h3, rfl⟩ := Option.map_eq_some_iff.1 h2
    simp [results, hrs, hg h1, hg h3]
  · obtain ⟨u, h1, h2⟩ := Option.bind_eq_some_iff.1 h
    obtain ⟨x, h3, h4⟩ := Option.bind_eq_some_iff.1 h2
    obtain ⟨y, h5, rfl⟩ := Option.map_eq_some_iff.1 h4
    simp [results, hrs, hg h1, hg h3, hg h5]
  · cases h
theorem rr (v : Value) (h : R (.returned v) w) (hv : rsv fn.results F = some v := by kernel_rfl) : GQ (bodyPost P fn R) .ret n [] F w := ⟨fun a ha => bp_ret v (rsv_run ha hv) ha.df h⟩
theorem rm (v : Value) (h : R (.returned v) w) (hv : rsv fn.results F = some v := by kernel_rfl) : GQ (bodyPost P fn R) .normal n [] F w := ⟨fun a ha => bp_end v (rsv_run ha hv) ha.df h⟩
def rcS (P : Program) (rs : Array ResultVar) (F : Fr) : Option (Option Value × Option Value × Option Bool × Option Nat) := match rs.toList with
  | [.cell p ty, .tmp q] => some (lk F p, lk F q, (P.underlying ty).map fun d => (match d with | .struct _ | .array _ _ => true | _ => false), (P.info? ty).map (·.size))
  | _ => none
def rcS1 (P : Program) (rs : Array ResultVar) (F : Fr) : Option (Option Value × Option Bool × Option Nat) := match rs.toList with
  | [.cell p ty] => some (lk F p, (P.underlying ty).map fun d => (match d with | .struct _ | .array _ _ => true | _ => false), (P.info? ty).map (·.size))
  | _ => none
theorem rct_run {a : Act} (ha : Ag n D F a) {g : Nat} {cs : Array Value} {t : TypeId} {fr : Nat × Nat} {k : Nat} {u : Value} (B : w.heap[g]? = some (.cells cs t fr)) (hz : some k = some cs.size) (hc : rcS P fn.results F = some (some (.pointer (some ⟨g, 0, none⟩)), some u, some true, some k)) :
    (results fn a.tmps).run P w = .ok (.tuple #[.agg cs, u]) w := by
  obtain ⟨rs, hrs⟩ : ∃ rs, fn.results = rs := ⟨_, rfl⟩
  rw [hrs] at hc
  obtain ⟨l⟩ := rs
  unfold rcS at hc
  simp only at hc
  split at hc
  · simp only [Option.some.injEq, Prod.mk.injEq] at hc
    obtain ⟨h1, h2, h3, h4⟩ := hc
    obtain ⟨dd, h5, h6⟩ := Option.map_eq_some_iff.1 h3
    have h7 := results_cell_tmp (P := P) hrs a.tmps w g t cs fr dd (by simp [ha.at_ _ _ h1]) B h5 (by cases dd <;> first | rfl | exact h6) (h4.trans hz)
    have h8 := ha.at_ _ _ h2
    rw [h7]
    simp [h8]
  · cases hc
theorem rct {g : Nat} {cs : Array Value} {t : TypeId} {fr : Nat × Nat} (B : w.heap[g]? = some (.cells cs t fr)) (u : Value) (h : R (.returned (.tuple #[.agg cs, u])) w) (hc : rcS P fn.results F = some (some (.pointer (some ⟨g, 0, none⟩)), some u, some true, some cs.size) := by kernel_rfl) : GQ (bodyPost P fn R) .ret n [] F w :=
  ⟨fun a ha => bodyPost_ret (rct_run ha B rfl hc) ha.df h⟩
theorem rc1k {g : Nat} {cs : Array Value} {t : TypeId} {fr : Nat × Nat} {k : Nat} (B : w.heap[g]? = some (.cells cs t fr)) (h : R (.returned (.agg cs)) w) (hz : some k = some cs.size) (hc : rcS1 P fn.results F = some (some (.pointer (some ⟨g, 0, none⟩)), some true, some k)) : GQ (bodyPost P fn R) .ret n [] F w := by
  obtain ⟨rs, hrs⟩ : ∃ rs, fn.results = rs := ⟨_, rfl⟩
  rw [hrs] at hc
  obtain ⟨l⟩ := rs
  unfold rcS1 at hc
  simp only at hc
  split at hc
  · simp only [Option.some.injEq, Prod.mk.injEq] at hc
    obtain ⟨h1, h3, h4⟩ := hc
    obtain ⟨dd, h5, h6⟩ := Option.map_eq_some_iff.1 h3
    refine ⟨fun a ha => bodyPost_ret ?_ ha.df h⟩
    have hp := ha.at_ _ _ h1
    simp [results, hrs, hp, asAddr, run_loadVar_row w g t _ cs fr dd B h5 (by cases dd <;> first | rfl | exact h6) (h4.trans hz)]
  · cases hc
end
section
variable {S : List Nat} {a b c w w' : World} {x y : Nat} {o : Go.Obj}
theorem lr {n : Nat} : n ≤ n := Nat.le_refl _
theorem le {i j k : Nat} (h : i ≤ j) (h2 : j ≤ k) : i ≤ k := Nat.le_trans h h2
theorem im (h : x ∈ S := by simp) : x ∈ S ∨ a.heap.size ≤ x := .inl h
theorem nr (h : a.heap.size ≤ x) : x ∈ S ∨ a.heap.size ≤ x := .inr h
theorem ni (h : a.heap.size ≤ y) (h2 : y ≤ x) : x ∈ S ∨ a.heap.size ≤ x := .inr (Nat.le_trans h h2)
theorem ac {p : Nat → Prop} {a : Nat} {S : List Nat} (h : p a) (k : ∀ x, x ∈ S → p x) : ∀ x, x ∈ a :: S → p x := all_cons h k
theorem ut {S' : List Nat} (h : Upd S a b) (k : Upd S' b c) (hS : ∀ x, x ∈ S' → x ∈ S ∨ a.heap.size ≤ x) : Upd S a c := h.trans' k hS
theorem u1 (h : Upd S a b) (k : Upd [x] b c) (hx : x ∈ S ∨ a.heap.size ≤ x) : Upd S a c := h.trans' k fun y hy => by simp at hy; subst hy; exact hx
theorem ub (h : Upd [] w w') (B : w.heap[x]? = some o) : w'.heap[x]? = some o := h.blk (by simp) B
theorem ub1 (h : Upd [y] w w') (hn : x ≠ y) (B : w.heap[x]? = some o) : w'.heap[x]? = some o := h.blk (by simpa using hn) B
theorem nb {i j k l : Nat} (h : i < j) (h2 : j ≤ k) (h3 : k ≤ l) : i ≠ l := by omega
theorem bs : ((∀ b, (true && b) = b) ∧ (∀ b, (false && b) = false) ∧ (∀ b, (b && true) = b) ∧ (∀ b, (b && false) = false)) ∧ ((∀ b, (true || b) = true) ∧ (∀ b, (false || b) = b) ∧ (∀ b, (b || true) = true) ∧ (∀ b, (b || false) = b)) ∧ ((!true) = false ∧ (!false) = true ∧ ((false = true) = False)) := by
  refine ⟨⟨?_, ?_, ?_, ?_⟩, ⟨?_, ?_, ?_, ?_⟩, ?_, ?_, ?_⟩ <;> simp
end
section
variable {P : Program} {Q : Exit → Act → World → Prop} {n : Nat} {D : List Deferred} {F : Fr} {w : World} {K : Fr → World → Prop} {d : Option Tmp} {t : TypeId} {s : String} {af : Array Edge} {gu : Option (Nat × Bool)}
theorem Oel {ty ty' : TypeId} {x : Operand} {b off : Nat} {cs : Array Value} {fr : Nat × Nat} (sub : List Value) (B : w.heap[b]? = some (.cells cs ty' fr)) (hs : (cs.toList.drop off).take sub.length = sub) (h : K (pt d (.agg sub.toArray) F) w) (hx : evo F x = some (.pointer (some ⟨b, off, none⟩)) := by kernel_rfl)
    (hc : ((P.underlying ty).map (·.isRow), (P.info? ty).map (·.size), dok n d) = (some true, some sub.length, true) := by kernel_rfl) : OG P ⟨d, .load ty x, t, s, af, gu⟩ n D F w K Q := by
  simp only [Prod.mk.injEq] at hc
  exact ⟨fun a ha K' hK => ow_lda _ rfl rfl (ha.ev hx) B hc.1 hc.2.1 hs (hK _ _ _ h (ha.put hc.2.2))⟩
theorem run_eqo {o : Oper} {ev : Operand → Value} (v0 : Value) {v : Value} (hr : (execOp ev o).run P w = .ok (.value v0) w) (he : v0 = v) : (execOp ev o).run P w = .ok (.value v) w := by subst he; exact hr
theorem lda_o {o : Oper} {ev : Operand → Value} {ty : TypeId} {x : Operand} {g off : Nat} {cs : Array Value} {t : TypeId} {fr : Nat × Nat} {w : World} (sub : List Value) (ho : o.op = .load ty x) (hx : ev x = .pointer (some ⟨g, off, none⟩)) (hb : w.heap[g]? = some (.cells cs t fr))
    (hu : (P.underlying ty).map (·.isRow) = some true) (hi : (P.info? ty).map (·.size) = some sub.length) (hs : (cs.toList.drop off).take sub.length = sub) : (execOp ev o).run P w = .ok (.value (.agg sub.toArray)) w := by
  obtain ⟨d, hd, hr⟩ := Option.map_eq_some_iff.1 hu
  have hc : w.rangeAt g off sub := fun j v hj => by
    rw [blk_cell hb]
    have hjl : j < sub.length := (List.getElem?_eq_some_iff.1 hj).1
    rw [← hs, List.getElem?_take, if_pos hjl, List.getElem?_drop] at hj
    simpa using hj
  unfold execOp
  simp only [ho, hx, Instr.loadAt, Instr.sureAddr, Sem.run_bind, Sem.run_pure, Result.andThen_ok, run_loadVar_mid w g off ty sub d hc hd hr hi]
end
section
variable {P : Program} {n : Nat} {F : Fr} {w : World} {fn : Func} {R : Ending → World → Prop}
theorem rctx (k : Nat) {g : Nat} {cs : Array Value} {t : TypeId} {fr : Nat × Nat} (hz : cs.size = k) (B : w.heap[g]? = some (.cells cs t fr)) (u : Value) (h : R (.returned (.tuple #[.agg cs, u])) w) (hc : rcS P fn.results F = some (some (.pointer (some ⟨g, 0, none⟩)), some u, some true, some k) := by kernel_rfl) : GQ (bodyPost P fn R) .ret n [] F w :=
  ⟨fun a ha => bodyPost_ret (rct_run ha B (by rw [hz]) hc) ha.df h⟩
theorem rc1 {g : Nat} {cs : Array Value} {t : TypeId} {fr : Nat × Nat} (B : w.heap[g]? = some (.cells cs t fr)) (h : R (.returned (.agg cs)) w) (hc : rcS1 P fn.results F = some (some (.pointer (some ⟨g, 0, none⟩)), some true, some cs.size) := by kernel_rfl) : GQ (bodyPost P fn R) .ret n [] F w := rc1k B h rfl hc
theorem rc1x (k : Nat) {g : Nat} {cs : Array Value} {t : TypeId} {fr : Nat × Nat} (hz : cs.size = k) (B : w.heap[g]? = some (.cells cs t fr)) (h : R (.returned (.agg cs)) w) (hc : rcS1 P fn.results F = some (some (.pointer (some ⟨g, 0, none⟩)), some true, some k) := by kernel_rfl) : GQ (bodyPost P fn R) .ret n [] F w :=
  rc1k (k := k) B h (by rw [hz]) hc
end
section
variable {C : Prop} {α β γ δ ε ζ η : Type}
theorem x12 {P1 P2 : α → Prop} (h : ∃ x, P1 x ∧ P2 x) (k : ∀ x, P1 x → P2 x → C) : C := let ⟨x, h1, h2⟩ := h; k x h1 h2
theorem x22 {P1 P2 : α → β → Prop} (h : ∃ x y, P1 x y ∧ P2 x y) (k : ∀ x y, P1 x y → P2 x y → C) : C := let ⟨x, y, h1, h2⟩ := h; k x y h1 h2
theorem x23 {P1 P2 P3 : α → β → Prop} (h : ∃ x y, P1 x y ∧ P2 x y ∧ P3 x y) (k : ∀ x y, P1 x y → P2 x y → P3 x y → C) : C := let ⟨x, y, h1, h2, h3⟩ := h; k x y h1 h2 h3
theorem x75 {P1 P2 P3 P4 P5 : α → β → γ → δ → ε → ζ → η → Prop} (h : ∃ a b c d e f g, P1 a b c d e f g ∧ P2 a b c d e f g ∧ P3 a b c d e f g ∧ P4 a b c d e f g ∧ P5 a b c d e f g) (k : ∀ a b c d e f g, P1 a b c d e f g → P2 a b c d e f g → P3 a b c d e f g → P4 a b c d e f g → P5 a b c d e f g → C) : C :=
  let ⟨a, b, c, d, e, f, g, h1, h2, h3, h4, h5⟩ := h; k a b c d e f g h1 h2 h3 h4 h5
theorem ab {w : World} {g : Nat} {c : Cur} (h : CurAt w g c) (k : ∀ x, x = c → CurAt w g x → C) : C := k c rfl h
end
theorem RdG.len {α : Type} {m : Bool} {e : TypeId} {sz : Nat} {R : World → α → List Value → Prop} {w : World} {v : Value} {xs : List α} (h : RdG m e sz R w v xs) : xs.length ≤ 9223372036854775807 := by
  obtain ⟨_, _, _, h1, h2⟩ := h.shape
  unfold maxLen at h2
  omega
section
variable {P : Program} {w w' : World}
theorem uc {p : Addr} {v : Value} (h : Upd [] w w') (hc : w.cell? p = some v) : w'.cell? p = some v := h.cell (by simp) hc
theorem el_at {b o n : Nat} {cs : Array Value} {t : TypeId} {fr : Nat × Nat} {sub : List Value} {v : Value} (hb : w.heap[b]? = some (.cells cs t fr)) (hs : (cs.toList.drop o).take n = sub) (i : Nat) (hv : sub[i]? = some v) (hi : i < n) : w.cell? ⟨b, o + i, none⟩ = some v := by
  rw [blk_cell hb, ← Array.getElem?_toList, ← List.getElem?_drop, ← hv, ← hs, List.getElem?_take, if_pos hi]
def ixc (P : Program) (F : Fr) (o : Oper) : Option (Option Addr × Nat) × Option Int × Option Nat := match o.op with
  | .indexAddr ty x ix => (slA F x, ixA F ix, ((slE P ty).bind P.info?).map (·.size))
  | _ => (none, none, none)
theorem Ri {n : Nat} {D : List Deferred} {F : Fr} {Q : Exit → Act → World → Prop} {ops : Array Oper} {S : World → Prop} {fuel : Nat} {l : Array Bool} (i : Nat) (hS : S w) (sz m j : Nat) (z : Int) (hj : z = j) {A : Option Addr} {b off : Nat} (hA : A = some ⟨b, off, none⟩) (hlt : j < m)
    (h : GA P ops Q S fuel (l.setIfInBounds i true) n D (pt (opA ops i).dst (.pointer (some ⟨b, off + j * sz, none⟩)) F) w) (hx : ixc P F (opA ops i) = (some (A, m), some z, some sz) := by kernel_rfl)
    (hc : ((tkA ops l i, gOn ops F (opA ops i).guard), (dok n (opA ops i).dst && opIn F (opA ops i).op)) = ((true, (true, true)), true) := by kernel_rfl) (hQ : ∀ c a w', Q (.panic c) (a.put (opA ops i).dst (.pointer (some ⟨b, off + j * sz, none⟩))) w' → Q (.panic c) a w' := by exact fun _ _ _ h => h) : GA P ops Q S (fuel + 1) l n D F w := by
  simp only [Prod.mk.injEq] at hc
  obtain ⟨h1, h2⟩ := tkA_b hc.1.1
  have h3 := and2 hc.2
  obtain ⟨ty, x, ix, h4, h5, h6, h7⟩ : ∃ ty x ix, (opA ops i).op = .indexAddr ty x ix ∧ slA F x = some (A, m) ∧ ixA F ix = some z ∧ ((slE P ty).bind P.info?).map (·.size) = some sz := by
    unfold ixc at hx
    split at hx
    · rename_i ty x ix hop
      simp only [Prod.mk.injEq] at hx
      exact ⟨ty, x, ix, hop, hx.1, hx.2.1, hx.2.2⟩
    · simp at hx
  obtain ⟨c, h5⟩ := slA_some h5
  obtain ⟨k, h6⟩ := ixA_some h6
  cases he : slE P ty with
  | none => rw [he] at h7; simp at h7
  | some e =>
    rw [he] at h7
    refine ⟨fun a ha => Rtk _ _ h1 rfl h2 (fun c a w' q => hQ c a w' q) (gOn_w ha hc.1.2) (fun w' hs => ?_) hS (h.out _ (ha.put h3.1))⟩
    subst hj
    subst hA
    obtain ⟨i0, hi0, hsz⟩ := Option.map_eq_some_iff.1 h7
    have hx' := ha.ev h5
    have hi' := ha.ev h6
    unfold execOp
    have h8 : (0 : Int) ≤ (j : Int) ∧ (j : Int) < (m : Int) := by omega
    have hi0' : P.info? e = some i0 := hi0
    simp [h4, hx', hi', Instr.indexAt, asIntOf, run_underlying (slE_some he), Result.andThen, h8, sizeOf, typeInfo, hi0', hsz, add_mk, hlt]
theorem Ri1 {n : Nat} {D : List Deferred} {F : Fr} {Q : Exit → Act → World → Prop} {ops : Array Oper} {S : World → Prop} {fuel : Nat} {l : Array Bool} (i : Nat) (hS : S w) (m j : Nat) (z : Int) (hj : z = j) {A : Option Addr} {b off : Nat} (hA : A = some ⟨b, off, none⟩) (hlt : j < m)
    (h : GA P ops Q S fuel (l.setIfInBounds i true) n D (pt (opA ops i).dst (.pointer (some ⟨b, off + j, none⟩)) F) w) (hx : ixc P F (opA ops i) = (some (A, m), some z, some 1) := by kernel_rfl)
    (hc : ((tkA ops l i, gOn ops F (opA ops i).guard), (dok n (opA ops i).dst && opIn F (opA ops i).op)) = ((true, (true, true)), true) := by kernel_rfl) (hQ : ∀ c a w', Q (.panic c) (a.put (opA ops i).dst (.pointer (some ⟨b, off + j, none⟩))) w' → Q (.panic c) a w' := by exact fun _ _ _ h => h) : GA P ops Q S (fuel + 1) l n D F w :=
  Ri i hS 1 m j z hj hA hlt (by rwa [Nat.mul_one]) hx hc (by rw [Nat.mul_one]; exact hQ)
end
def setE (q : IntKind) (xs : List Int) : Array MapEntry := (xs.zipIdx.map fun p => (⟨.int q p.1, .bool true, p.2⟩ : MapEntry)).toArray
theorem setE_snoc (q : IntKind) (xs : List Int) (x : Int) : setE q (xs ++ [x]) = (setE q xs).push ⟨.int q x, .bool true, xs.length⟩ := by
  simp [setE, List.zipIdx_append]
theorem find_set (q : IntKind) (n : Int) : ∀ (xs : List Int) (i j : Nat), ∃ res, Instr.findNow (.int q) (.int q n) ((xs.zipIdx j).map fun p => (⟨.int q p.1, .bool true, p.2⟩ : MapEntry)) i = some res ∧ res.isSome = decide (n ∈ xs) ∧ ∀ p, res = some p → p.2 = .bool true
  | [], i, j => ⟨none, rfl, by simp, fun p h => by cases h⟩
  | x :: xs, i, j => by
    by_cases h : n = x
    · subst h
      exact ⟨some (i, .bool true), by simp [Instr.findNow, Instr.sameNow], by simp, fun p hp => by cases hp; rfl⟩
    · obtain ⟨res, h1, h2, h3⟩ := find_set q n xs (i + 1) (j + 1)
      refine ⟨res, ?_, ?_, h3⟩
      · have : (n == x) = false := by simpa using h
        simp only [List.zipIdx_cons, List.map_cons, Instr.findNow, Instr.sameNow, this, if_true]
        exact h1
      · rw [h2]; simp [h]
theorem setE_find (q : IntKind) (n : Int) (xs : List Int) : ∃ res, Instr.findNow (.int q) (.int q n) (setE q xs).toList 0 = some res ∧ res.isSome = decide (n ∈ xs) ∧ ∀ p, res = some p → p.2 = .bool true := by
  simpa [setE] using find_set q n xs 0 0
theorem setE_new {q : IntKind} {n : Int} {xs : List Int} (h : n ∉ xs) : Instr.findNow (.int q) (.int q n) (setE q xs).toList 0 = some none := by
  obtain ⟨res, h1, h2, _⟩ := setE_find q n xs
  rw [h1]
  cases res with
  | none => rfl
  | some p => simp [h] at h2
theorem ow_set {P : Program} {Q : Exit → Act → World → Prop} {a : Act} {w : World} {K : Act → World → Prop} {o : Oper} {N : Option Tmp} {t kt e : TypeId} {q : IntKind} {m k x : Operand} {r : Nat} {xs : List Int} {clk : Nat} (n : Int) (hN : o.dst = N) (hop : o.op = .mapUpdate t m k x)
    (ht : P.underlying t = some (.map kt e)) (hk : P.underlying kt = some (.int q)) (hm : a.eval m = .map (some r)) (hb : w.heap[r]? = some (.map (setE q xs) clk))
    (hkv : a.eval k = .int q n) (hx : a.eval x = .bool true) (hno : n ∉ xs) (hclk : clk = xs.length)
    (h : ∀ w', w'.heap[r]? = some (.map (setE q (xs ++ [n])) (clk + 1)) → Upd [r] w w' → K (a.put N undef) w') : OW P o a w K Q := by
  refine OW.mk ?_
  subst hN
  obtain ⟨w', hrr, h1, h2⟩ := run_mapput ht hk hb n (.bool true) (setE_new hno)
  have hrun : (execOp a.eval o).run P w = .ok .skip w' := by
    unfold execOp
    simp [hop, hm, hkv, hx, hrr, Result.andThen]
  unfold Oper.wp
  rw [hrun]
  refine h w' ?_ h2
  rw [h1, setE_snoc, hclk]
theorem ow_in {P : Program} {Q : Exit → Act → World → Prop} {a : Act} {w : World} {K : Act → World → Prop} {o : Oper} {N : Option Tmp} {t kt e : TypeId} {q : IntKind} {m k : Operand} {r : Nat} {es : Array MapEntry} {clk : Nat} (n : Int) (xs : List Int) (hN : o.dst = N) (hop : o.op = .lookup t m k false)
    (ht : P.underlying t = some (.map kt e)) (hk : P.underlying kt = some (.int q)) (hm : a.eval m = .map (some r)) (hb : w.heap[r]? = some (.map es clk)) (hes : es = setE q xs) (hkv : a.eval k = .int q n)
    (hz : (zeroValue e).run P w = .ok (.bool false) w) (h : K (a.put N (.bool (decide (n ∈ xs)))) w) : OW P o a w K Q := by
  subst hes
  obtain ⟨res, h1, h2, h3⟩ := setE_find q n xs
  refine ow_look (res := res) n (.bool false) _ hN hop ht hk hm hb hkv hz h1 ?_ h
  cases res with
  | none => simp at h2; simp [h2]
  | some p => simp at h2; simp [h2, h3 p rfl]
section
variable {P : Program} {Q : Exit → Act → World → Prop} {n : Nat} {D : List Deferred} {F : Fr} {w : World} {K : Fr → World → Prop} {d : Option Tmp} {t : TypeId} {s : String} {af : Array Edge} {gu : Option (Nat × Bool)}
theorem Oki {ty : TypeId} {m k : Operand} {r : Nat} {es : Array MapEntry} {clk : Nat} (B : w.heap[r]? = some (.map es clk)) (x : Int) (xs : List Int) (h : K (pt d (.bool (decide (x ∈ xs))) F) w) (hq : (mapK P ty).isSome = true := by kernel_rfl) (hm : evo F m = some (.map (some r)) := by kernel_rfl)
    (hk : evo F k = some (.int (mapQ P ty) x) := by kernel_rfl) (he : es = setE (mapQ P ty) xs := by kernel_rfl) (hs : dok n d = true := by kernel_rfl) (hz : (zeroValue (mapE P ty)).run P w = .ok (.bool false) w := by kernel_rfl) : OG P ⟨d, .lookup ty m k false, t, s, af, gu⟩ n D F w K Q := by
  obtain ⟨kt, h1, h2⟩ := mapK_some (mapQ_some hq)
  exact ⟨fun a ha K' hK => ow_in x xs rfl rfl h1 h2 (ha.ev hm) B he (ha.ev hk) hz (hK _ _ _ h (ha.put hs))⟩
theorem Omu {ty : TypeId} {q : IntKind} {m k x : Operand} {r : Nat} {xs : List Int} {clk : Nat} (B : w.heap[r]? = some (.map (setE q xs) clk)) (z : Int) (hno : z ∉ xs) (hclk : clk = xs.length) (h : ∀ w', w'.heap[r]? = some (.map (setE q (xs ++ [z])) (clk + 1)) → Upd [r] w w' → K (pt d undef F) w')
    (hq : mapK P ty = some q := by kernel_rfl) (hm : evo F m = some (.map (some r)) := by kernel_rfl) (hk : evo F k = some (.int q z) := by kernel_rfl) (hx : evo F x = some (.bool true) := by kernel_rfl) (hs : dok n d = true := by kernel_rfl) : OG P ⟨d, .mapUpdate ty m k x, t, s, af, gu⟩ n D F w K Q := by
  obtain ⟨kt, h1, h2⟩ := mapK_some hq
  exact ⟨fun a ha K' hK => ow_set z rfl rfl h1 h2 (ha.ev hm) B (ha.ev hk) (ha.ev hx) hno hclk fun w' hB hu => hK _ _ _ (h w' hB hu) (ha.put hs)⟩
end
def PSet (q : IntKind) (xs : List Int) (w : World) (e : Ending) (w' : World) : Prop := ∃ r clk, e = .returned (.map (some r)) ∧ w.heap.size ≤ r ∧ w'.heap[r]? = some (.map (setE q xs) clk) ∧ Upd [] w w'
theorem not_mem_take {xs : List Int} (h : xs.Nodup) (k : Nat) (hk : k < xs.length) : xs.getD k 0 ∉ xs.take k := by
  intro hm
  obtain ⟨i, hi, he⟩ := List.getElem_of_mem hm
  have hik : i < k := by simp at hi; omega
  rw [List.getElem_take] at he
  have hg : xs.getD k 0 = xs[k] := by simp [List.getD_eq_getElem?_getD, List.getElem?_eq_getElem hk]
  rw [hg] at he
  have := (List.getElem_inj h).1 he
  omega
theorem take_snoc' {α : Type} (xs : List α) (d : α) (k : Nat) (hk : k < xs.length) : xs.take (k + 1) = xs.take k ++ [xs.getD k d] := by
  rw [List.take_succ_eq_append_getElem hk, List.getD_eq_getElem?_getD, List.getElem?_eq_getElem hk]
  rfl
set_option maxRecDepth 100000 in
set_option maxHeartbeats 4000000 in
theorem set_u8 {A : Option Addr} {c : Nat} {xs : List Int} {w : World} (h : RdB true w (.slice A xs.length c) xs) (hn : xs.length ≤ 1048576) (hnd : xs.Nodup) :
    Calls Try.prog 52 #[.slice A xs.length c] w (PSet .u8 xs w) := by
 refine en 17 Try.func52 rfl <| sg <| Pl 1 <| ng <| L0 <| Omk fun g10 w11 hg12 B13 hu14 => Pl 1 <| nt <| sq <| sq <| ?_
 refine go <| Pl 3 <| nt <| bk <| ?_
 refine glp (fun x => [(2, .map none), (3, .map (some g10)), (7, .slice A xs.length c), (8, .int .i64 ((xs.length : Nat) : Int)), (9, .int .i64 ((x : Nat) : Int))]) (fun (x : Nat) w' => Upd [g10] w11 w' ∧ w'.heap[g10]? = some (.map (setE .u8 (xs.take x)) x) ∧ (x ≤ xs.length)) (fun x => xs.length - x) 0 ⟨Upd.refl _ _, B13, (by (try dsimp only); omega)⟩ ?_
 rintro k w15 ⟨hu16, f17, p18⟩
 refine wkc [(2, .map none), (3, .map (some g10)), (7, .slice A xs.length c), (8, .int .i64 ((xs.length : Nat) : Int)), (9, .int .i64 ((k : Nat) : Int))] ?_
 have f20 : w15.heap[g10]? = some (.map (setE .u8 (xs.take k)) k) := f17
 have p21 : k ≤ xs.length := p18
 refine sg <| Pl 1 <| nt <| sq <| ?_
 have U22 := u1 hu14 hu16 (nr hg12)
 refine cb ((decide (((k : Nat) : Int) < ((xs.length : Nat) : Int)))) (fun q23 => ?_) (fun q23 => ?_)
 have q23p := of_decide_eq_true q23
 refine skn <| sq <| bk <| sg <| ?_
 have r24 := RdB.upd' h U22 safe0
 refine x23 (RdB.at_ r24 k (by omega)) fun b25 o26 hA27 hl28 hr29 => L0 <| Oix xs.length k hA27 (by omega) <| L0 <| Old (p := ⟨b25, o26 + k, none⟩) (v := .int .u8 (xs.getD k 0)) hl28 <| Pl 1 <| nt <| go <| Pl 2 <| L0 <| Omu f20 (xs.getD k 0) (not_mem_take hnd k (by omega)) (by simp; omega) fun w30 B31 hu32 => ?_
 have B33 : w30.heap[g10]? = some (.map (setE .u8 (xs.take (k + 1))) (k + 1)) := by rw [take_snoc' xs 0 k (by omega)]; exact B31
 refine nl <| bn <| tn <| go <| L0 <| Oi (((k : Nat) : Int) + 1) <| Pl 1 <| nl <| ?_
 have U34 := u1 hu16 hu32 im
 exact lpe (k + 1) ⟨U34, B33, (by (try dsimp only); omega)⟩ (by omega)
 have q23p := of_decide_eq_false q23
 refine xt <| tx <| tx <| bx <| tn <| sg <| Pl 2 <| nt <| rt <| rr (.map (some g10)) <| ?_
 have hk : k = xs.length := by omega
 rw [hk, List.take_length] at f20
 exact ⟨g10, _, rfl, hg12, f20, U22⟩
set_option maxRecDepth 100000 in
set_option maxHeartbeats 4000000 in
theorem set_u16 {A : Option Addr} {c : Nat} {xs : List Int} {w : World} (h : RdW true w (.slice A xs.length c) xs) (hn : xs.length ≤ 1048576) (hnd : xs.Nodup) :
    Calls Try.prog 109 #[.slice A xs.length c] w (PSet .u16 xs w) := by
 refine en 17 Try.func109 rfl <| sg <| Pl 1 <| ng <| L0 <| Omk fun g10 w11 hg12 B13 hu14 => Pl 1 <| nt <| sq <| sq <| ?_
 refine go <| Pl 3 <| nt <| bk <| ?_
 refine glp (fun x => [(2, .map none), (3, .map (some g10)), (7, .slice A xs.length c), (8, .int .i64 ((xs.length : Nat) : Int)), (9, .int .i64 ((x : Nat) : Int))]) (fun (x : Nat) w' => Upd [g10] w11 w' ∧ w'.heap[g10]? = some (.map (setE .u16 (xs.take x)) x) ∧ (x ≤ xs.length)) (fun x => xs.length - x) 0 ⟨Upd.refl _ _, B13, (by (try dsimp only); omega)⟩ ?_
 rintro k w15 ⟨hu16, f17, p18⟩
 refine wkc [(2, .map none), (3, .map (some g10)), (7, .slice A xs.length c), (8, .int .i64 ((xs.length : Nat) : Int)), (9, .int .i64 ((k : Nat) : Int))] ?_
 have f20 : w15.heap[g10]? = some (.map (setE .u16 (xs.take k)) k) := f17
 have p21 : k ≤ xs.length := p18
 refine sg <| Pl 1 <| nt <| sq <| ?_
 have U22 := u1 hu14 hu16 (nr hg12)
 refine cb ((decide (((k : Nat) : Int) < ((xs.length : Nat) : Int)))) (fun q23 => ?_) (fun q23 => ?_)
 have q23p := of_decide_eq_true q23
 refine skn <| sq <| bk <| sg <| ?_
 have r24 := RdW.upd' h U22 safe0
 refine x23 (RdW.at_ r24 k (by omega)) fun b25 o26 hA27 hl28 hr29 => L0 <| Oix xs.length k hA27 (by omega) <| L0 <| Old (p := ⟨b25, o26 + k, none⟩) (v := .int .u16 (xs.getD k 0)) hl28 <| Pl 1 <| nt <| go <| Pl 2 <| L0 <| Omu f20 (xs.getD k 0) (not_mem_take hnd k (by omega)) (by simp; omega) fun w30 B31 hu32 => ?_
 have B33 : w30.heap[g10]? = some (.map (setE .u16 (xs.take (k + 1))) (k + 1)) := by rw [take_snoc' xs 0 k (by omega)]; exact B31
 refine nl <| bn <| tn <| go <| L0 <| Oi (((k : Nat) : Int) + 1) <| Pl 1 <| nl <| ?_
 have U34 := u1 hu16 hu32 im
 exact lpe (k + 1) ⟨U34, B33, (by (try dsimp only); omega)⟩ (by omega)
 have q23p := of_decide_eq_false q23
 refine xt <| tx <| tx <| bx <| tn <| sg <| Pl 2 <| nt <| rt <| rr (.map (some g10)) <| ?_
 have hk : k = xs.length := by omega
 rw [hk, List.take_length] at f20
 exact ⟨g10, _, rfl, hg12, f20, U22⟩
def PBool (x : Bool) (w : World) (e : Ending) (w' : World) : Prop := e = .returned (.bool x) ∧ Upd [] w w'
theorem eqPre {α : Type} [DecidableEq α] {xs ys : List α} {d : α} (h : xs.length = ys.length) {k : Nat} (hk : k < xs.length) (hp : xs.take k = ys.take k) (hx : xs.getD k d = ys.getD k d) : xs.take (k + 1) = ys.take (k + 1) := by
  rw [List.take_add_one, List.take_add_one, hp]
  simp only [List.getD_eq_getElem?_getD, List.getElem?_eq_getElem hk, List.getElem?_eq_getElem (h ▸ hk), Option.getD_some] at hx
  simp [List.getElem?_eq_getElem hk, List.getElem?_eq_getElem (h ▸ hk), hx]
theorem eqNo {α : Type} [DecidableEq α] {xs ys : List α} {d : α} (k : Nat) (hx : xs.getD k d ≠ ys.getD k d) : xs ≠ ys := fun h => hx (by rw [h])
set_option maxRecDepth 100000 in
theorem eqW_any {m m' : Bool} {u v : Value} {xs ys : List Int} {w : World} (hx : RdW m w u xs) (hy : RdW m' w v ys) : Calls Try.prog 73 #[u, v] w (PBool (decide (xs = ys)) w) := by
  have hhx := hx
  have hhy := hy
  obtain ⟨A, c, rfl, hc1, hc2⟩ := hx.shape
  obtain ⟨B, c', rfl, hd1, hd2⟩ := hy.shape
  have hn : xs.length ≤ 9223372036854775807 := by have := hc2; unfold maxLen at this; omega
  by_cases hl : xs.length = ys.length
  case neg =>
    have hno : ∀ W, Upd [] w W → PBool (decide (xs = ys)) w (.returned (.bool false)) W := by
      intro W hW
      rw [decide_eq_false (fun h => hl (by rw [h]))]
      exact ⟨rfl, hW⟩
    have hli : ((xs.length : Int) != (ys.length : Int)) = true := by simp; omega
    clear hx hy hhx hhy hl
    go_enter Try.func73, Try.ntmps73
    go_wp2
    go_ret
    exact hno _ (Upd.refl _ _)
  have hno : ∀ W k, xs.getD k 0 ≠ ys.getD k 0 → Upd [] w W → PBool (decide (xs = ys)) w (.returned (.bool false)) W := by
    intro W k hk hW
    rw [decide_eq_false (eqNo k hk)]
    exact ⟨rfl, hW⟩
  have hyes : ∀ W, xs.take xs.length = ys.take xs.length → Upd [] w W → PBool (decide (xs = ys)) w (.returned (.bool true)) W := by
    intro W hk hW
    rw [List.take_length, hl, List.take_length] at hk
    rw [decide_eq_true hk]
    exact ⟨rfl, hW⟩
  revert hno hyes
  generalize PBool (decide (xs = ys)) w = P
  intro hno hyes
  have hli : ((xs.length : Int) != (ys.length : Int)) = false := by simp; omega
  have hL := Lib.hid hl
  clear hx hy hl
  go_enter Try.func73, Try.ntmps73
  go_wp2
  go_loopw [13] (fun i wr => ∃ k : Nat, k ≤ xs.length ∧ i = .int .i64 (k : Int) ∧ xs.take k = ys.take k ∧ Upd [] w wr) (fun i _ => xs.length - (intOf i).toNat)
  case atStart => exact ⟨0, by omega, rfl, by simp, Upd.refl _ _⟩
  case round =>
    obtain ⟨k, hk, rfl, hpre, hu⟩ := hrel
    by_cases hlt : k < xs.length
    · obtain ⟨b, off, rfl, cw0, hr0⟩ := RdW.at_ hhx k hlt
      obtain ⟨b', off', rfl, cw1, hr1⟩ := RdW.at_ hhy k (by have := hL.out; omega)
      have hlt' : k < ys.length := by have := hL.out; omega
      have hstep := fun h => eqPre (d := 0) hL.out hlt hpre h
      have hno' := fun W h => hno W k h
      revert cw0 cw1 hstep hno' hr0 hr1
      generalize xs.getD k 0 = x0
      generalize ys.getD k 0 = y0
      intro cw0 hr0 cw1 hr1 hstep hno'
      have hc0 := hu.cell (by simp) cw0
      have hc1 := hu.cell (by simp) cw1
      have hstep := Lib.hid hstep
      have hno' := Lib.hid hno'
      clear cw0 cw1 hhx hhy hpre hno hyes
      have hc0 : wr.drew.cell? ⟨b, off + k, none⟩ = some (.int .u16 x0) := hc0
      have hc1 : wr.drew.cell? ⟨b', off' + k, none⟩ = some (.int .u16 y0) := hc1
      go_wp2
      refine rg_start (S := fun w' => w'.cell? ⟨b, off + k, none⟩ = some (.int .u16 x0) ∧ w'.cell? ⟨b', off' + k, none⟩ = some (.int .u16 y0)) (n := 9) #[false, false, false, false, false, false, false, false, false] (by kernel_rfl) rfl rfl ⟨hc0, hc1⟩ (fun hHeld => ?_)
      refine rg_take (i := 0) (N := some 16) (v := ?_) (a' := ?_) #[true, false, false, false, false, false, false, false, false] rfl rfl (by kernel_rfl) (fun _ _ _ h => h) (Or.inl ⟨by rfl, ?_⟩) hHeld ?_ ?_
      rotate_left
      · rintro w' ⟨hs0, hs1⟩
        go_simp
        with_reducible rfl
      rotate_left
      · simp only [Act.put, List.setIfInBounds_toArray, List.set_cons_zero, List.set_cons_succ]
        rfl
      refine rg_take (i := 1) (N := some 17) (v := ?_) (a' := ?_) #[true, true, false, false, false, false, false, false, false] rfl rfl (by kernel_rfl) (fun _ _ _ h => h) (Or.inl ⟨by rfl, ?_⟩) hHeld ?_ ?_
      rotate_left
      · rintro w' ⟨hs0, hs1⟩
        go_simp
        with_reducible rfl
      rotate_left
      · simp only [Act.put, List.setIfInBounds_toArray, List.set_cons_zero, List.set_cons_succ]
        rfl
      refine rg_take (i := 2) (N := some 18) (v := ?_) (a' := ?_) #[true, true, true, false, false, false, false, false, false] rfl rfl (by kernel_rfl) (fun _ _ _ h => h) (Or.inl ⟨by rfl, ?_⟩) hHeld ?_ ?_
      rotate_left
      · rintro w' ⟨hs0, hs1⟩
        go_simp
        with_reducible rfl
      rotate_left
      · simp only [Act.put, List.setIfInBounds_toArray, List.set_cons_zero, List.set_cons_succ]
        rfl
      refine rg_take (i := 3) (N := some 19) (v := ?_) (a' := ?_) #[true, true, true, true, false, false, false, false, false] rfl rfl (by kernel_rfl) (fun _ _ _ h => h) (Or.inl ⟨by rfl, ?_⟩) hHeld ?_ ?_
      rotate_left
      · rintro w' ⟨hs0, hs1⟩
        go_simp
        with_reducible rfl
      rotate_left
      · simp only [Act.put, List.setIfInBounds_toArray, List.set_cons_zero, List.set_cons_succ]
        rfl
      refine rg_take (i := 4) (N := some 20) (v := ?_) (a' := ?_) #[true, true, true, true, true, false, false, false, false] rfl rfl (by kernel_rfl) (fun _ _ _ h => h) (Or.inl ⟨by rfl, ?_⟩) hHeld ?_ ?_
      rotate_left
      · rintro w' ⟨hs0, hs1⟩
        go_simp
        with_reducible rfl
      rotate_left
      · simp only [Act.put, List.setIfInBounds_toArray, List.set_cons_zero, List.set_cons_succ]
        rfl
      refine rg_take (i := 5) (N := some 21) (v := ?_) (a' := ?_) #[true, true, true, true, true, true, false, false, false] rfl rfl (by kernel_rfl) (fun _ _ _ h => h) (Or.inl ⟨by rfl, ?_⟩) hHeld ?_ ?_
      rotate_left
      · rintro w' ⟨hs0, hs1⟩
        go_simp
        with_reducible rfl
      rotate_left
      · simp only [Act.put, List.setIfInBounds_toArray, List.set_cons_zero, List.set_cons_succ]
        rfl
      refine rg_take (i := 6) (N := some 22) (v := ?_) (a' := ?_) #[true, true, true, true, true, true, true, false, false] rfl rfl (by kernel_rfl) (fun _ _ _ h => h) (Or.inl ⟨by rfl, ?_⟩) hHeld ?_ ?_
      rotate_left
      · rintro w' ⟨hs0, hs1⟩
        go_simp
        with_reducible rfl
      rotate_left
      · simp only [Act.put, List.setIfInBounds_toArray, List.set_cons_zero, List.set_cons_succ]
        rfl
      refine rg_take (i := 7) (N := some 23) (v := ?_) (a' := ?_) #[true, true, true, true, true, true, true, true, false] rfl rfl (by kernel_rfl) (fun _ _ _ h => h) (Or.inl ⟨by rfl, ?_⟩) hHeld ?_ ?_
      rotate_left
      · rintro w' ⟨hs0, hs1⟩
        go_simp
        with_reducible rfl
      rotate_left
      · simp only [Act.put, List.setIfInBounds_toArray, List.set_cons_zero, List.set_cons_succ]
        rfl
      refine rg_take (i := 8) (N := some 24) (v := ?_) (a' := ?_) #[true, true, true, true, true, true, true, true, true] rfl rfl (by kernel_rfl) (fun _ _ _ h => h) (Or.inl ⟨by rfl, ?_⟩) hHeld ?_ ?_
      rotate_left
      · rintro w' ⟨hs0, hs1⟩
        go_simp
        with_reducible rfl
      rotate_left
      · simp only [Act.put, List.setIfInBounds_toArray, List.set_cons_zero, List.set_cons_succ]
        rfl
      refine rg_done (by kernel_rfl) ?_
      clear hc0 hc1 hHeld
      go_wp2
      · exact hno'.out _ (by simpa using (show (x0 != y0) = true by assumption)) (hu.drew)
      · go_roundw
        case rel => exact ⟨k + 1, by omega, by go_num, hstep.out (by simpa using (show (x0 != y0) = false by assumption)), hu.drew⟩
        case measure => simp [intOf]; omega
    · have hj3 : k = xs.length := by omega
      have H3 := Lib.hid hj3
      rw [hj3] at hpre
      clear hj3 hhx hhy
      go_wp2
      exact hyes _ hpre hu
set_option maxRecDepth 100000 in
theorem eqL_any {m m' : Bool} {u v : Value} {xs ys : List Bool} {w : World} (hx : RdL m w u xs) (hy : RdL m' w v ys) : Calls Try.prog 74 #[u, v] w (PBool (decide (xs = ys)) w) := by
  have hhx := hx
  have hhy := hy
  obtain ⟨A, c, rfl, hc1, hc2⟩ := hx.shape
  obtain ⟨B, c', rfl, hd1, hd2⟩ := hy.shape
  have hn : xs.length ≤ 9223372036854775807 := by have := hc2; unfold maxLen at this; omega
  by_cases hl : xs.length = ys.length
  case neg =>
    have hno : ∀ W, Upd [] w W → PBool (decide (xs = ys)) w (.returned (.bool false)) W := by
      intro W hW
      rw [decide_eq_false (fun h => hl (by rw [h]))]
      exact ⟨rfl, hW⟩
    have hli : ((xs.length : Int) != (ys.length : Int)) = true := by simp; omega
    clear hx hy hhx hhy hl
    go_enter Try.func74, Try.ntmps74
    go_wp2
    go_ret
    exact hno _ (Upd.refl _ _)
  have hno : ∀ W k, xs.getD k false ≠ ys.getD k false → Upd [] w W → PBool (decide (xs = ys)) w (.returned (.bool false)) W := by
    intro W k hk hW
    rw [decide_eq_false (eqNo k hk)]
    exact ⟨rfl, hW⟩
  have hyes : ∀ W, xs.take xs.length = ys.take xs.length → Upd [] w W → PBool (decide (xs = ys)) w (.returned (.bool true)) W := by
    intro W hk hW
    rw [List.take_length, hl, List.take_length] at hk
    rw [decide_eq_true hk]
    exact ⟨rfl, hW⟩
  revert hno hyes
  generalize PBool (decide (xs = ys)) w = P
  intro hno hyes
  have hli : ((xs.length : Int) != (ys.length : Int)) = false := by simp; omega
  have hL := Lib.hid hl
  clear hx hy hl
  go_enter Try.func74, Try.ntmps74
  go_wp2
  go_loopw [13] (fun i wr => ∃ k : Nat, k ≤ xs.length ∧ i = .int .i64 (k : Int) ∧ xs.take k = ys.take k ∧ Upd [] w wr) (fun i _ => xs.length - (intOf i).toNat)
  case atStart => exact ⟨0, by omega, rfl, by simp, Upd.refl _ _⟩
  case round =>
    obtain ⟨k, hk, rfl, hpre, hu⟩ := hrel
    by_cases hlt : k < xs.length
    · obtain ⟨b, off, rfl, cw0⟩ := RdL.at_ hhx k hlt
      obtain ⟨b', off', rfl, cw1⟩ := RdL.at_ hhy k (by have := hL.out; omega)
      have hlt' : k < ys.length := by have := hL.out; omega
      have hstep := fun h => eqPre (d := false) hL.out hlt hpre h
      have hno' := fun W h => hno W k h
      revert cw0 cw1 hstep hno' 
      generalize xs.getD k false = x0
      generalize ys.getD k false = y0
      intro cw0 cw1 hstep hno'
      have hc0 := hu.cell (by simp) cw0
      have hc1 := hu.cell (by simp) cw1
      have hstep := Lib.hid hstep
      have hno' := Lib.hid hno'
      clear cw0 cw1 hhx hhy hpre hno hyes
      have hc0 : wr.drew.cell? ⟨b, off + k, none⟩ = some (.bool x0) := hc0
      have hc1 : wr.drew.cell? ⟨b', off' + k, none⟩ = some (.bool y0) := hc1
      go_wp2
      refine rg_start (S := fun w' => w'.cell? ⟨b, off + k, none⟩ = some (.bool x0) ∧ w'.cell? ⟨b', off' + k, none⟩ = some (.bool y0)) (n := 9) #[false, false, false, false, false, false, false, false, false] (by kernel_rfl) rfl rfl ⟨hc0, hc1⟩ (fun hHeld => ?_)
      refine rg_take (i := 0) (N := some 16) (v := ?_) (a' := ?_) #[true, false, false, false, false, false, false, false, false] rfl rfl (by kernel_rfl) (fun _ _ _ h => h) (Or.inl ⟨by rfl, ?_⟩) hHeld ?_ ?_
      rotate_left
      · rintro w' ⟨hs0, hs1⟩
        go_simp
        with_reducible rfl
      rotate_left
      · simp only [Act.put, List.setIfInBounds_toArray, List.set_cons_zero, List.set_cons_succ]
        rfl
      refine rg_take (i := 1) (N := some 17) (v := ?_) (a' := ?_) #[true, true, false, false, false, false, false, false, false] rfl rfl (by kernel_rfl) (fun _ _ _ h => h) (Or.inl ⟨by rfl, ?_⟩) hHeld ?_ ?_
      rotate_left
      · rintro w' ⟨hs0, hs1⟩
        go_simp
        with_reducible rfl
      rotate_left
      · simp only [Act.put, List.setIfInBounds_toArray, List.set_cons_zero, List.set_cons_succ]
        rfl
      refine rg_take (i := 2) (N := some 18) (v := ?_) (a' := ?_) #[true, true, true, false, false, false, false, false, false] rfl rfl (by kernel_rfl) (fun _ _ _ h => h) (Or.inl ⟨by rfl, ?_⟩) hHeld ?_ ?_
      rotate_left
      · rintro w' ⟨hs0, hs1⟩
        go_simp
        with_reducible rfl
      rotate_left
      · simp only [Act.put, List.setIfInBounds_toArray, List.set_cons_zero, List.set_cons_succ]
        rfl
      refine rg_take (i := 3) (N := some 19) (v := ?_) (a' := ?_) #[true, true, true, true, false, false, false, false, false] rfl rfl (by kernel_rfl) (fun _ _ _ h => h) (Or.inl ⟨by rfl, ?_⟩) hHeld ?_ ?_
      rotate_left
      · rintro w' ⟨hs0, hs1⟩
        go_simp
        with_reducible rfl
      rotate_left
      · simp only [Act.put, List.setIfInBounds_toArray, List.set_cons_zero, List.set_cons_succ]
        rfl
      refine rg_take (i := 4) (N := some 20) (v := ?_) (a' := ?_) #[true, true, true, true, true, false, false, false, false] rfl rfl (by kernel_rfl) (fun _ _ _ h => h) (Or.inl ⟨by rfl, ?_⟩) hHeld ?_ ?_
      rotate_left
      · rintro w' ⟨hs0, hs1⟩
        go_simp
        with_reducible rfl
      rotate_left
      · simp only [Act.put, List.setIfInBounds_toArray, List.set_cons_zero, List.set_cons_succ]
        rfl
      refine rg_take (i := 5) (N := some 21) (v := ?_) (a' := ?_) #[true, true, true, true, true, true, false, false, false] rfl rfl (by kernel_rfl) (fun _ _ _ h => h) (Or.inl ⟨by rfl, ?_⟩) hHeld ?_ ?_
      rotate_left
      · rintro w' ⟨hs0, hs1⟩
        go_simp
        with_reducible rfl
      rotate_left
      · simp only [Act.put, List.setIfInBounds_toArray, List.set_cons_zero, List.set_cons_succ]
        rfl
      refine rg_take (i := 6) (N := some 22) (v := ?_) (a' := ?_) #[true, true, true, true, true, true, true, false, false] rfl rfl (by kernel_rfl) (fun _ _ _ h => h) (Or.inl ⟨by rfl, ?_⟩) hHeld ?_ ?_
      rotate_left
      · rintro w' ⟨hs0, hs1⟩
        go_simp
        with_reducible rfl
      rotate_left
      · simp only [Act.put, List.setIfInBounds_toArray, List.set_cons_zero, List.set_cons_succ]
        rfl
      refine rg_take (i := 7) (N := some 23) (v := ?_) (a' := ?_) #[true, true, true, true, true, true, true, true, false] rfl rfl (by kernel_rfl) (fun _ _ _ h => h) (Or.inl ⟨by rfl, ?_⟩) hHeld ?_ ?_
      rotate_left
      · rintro w' ⟨hs0, hs1⟩
        go_simp
        with_reducible rfl
      rotate_left
      · simp only [Act.put, List.setIfInBounds_toArray, List.set_cons_zero, List.set_cons_succ]
        rfl
      refine rg_take (i := 8) (N := some 24) (v := ?_) (a' := ?_) #[true, true, true, true, true, true, true, true, true] rfl rfl (by kernel_rfl) (fun _ _ _ h => h) (Or.inl ⟨by rfl, ?_⟩) hHeld ?_ ?_
      rotate_left
      · rintro w' ⟨hs0, hs1⟩
        go_simp
        with_reducible rfl
      rotate_left
      · simp only [Act.put, List.setIfInBounds_toArray, List.set_cons_zero, List.set_cons_succ]
        rfl
      refine rg_done (by kernel_rfl) ?_
      clear hc0 hc1 hHeld
      go_wp2
      · exact hno'.out _ (by simpa using (show (x0 != y0) = true by assumption)) (hu.drew)
      · go_roundw
        case rel => exact ⟨k + 1, by omega, by go_num, hstep.out (by simpa using (show (x0 != y0) = false by assumption)), hu.drew⟩
        case measure => simp [intOf]; omega
    · have hj3 : k = xs.length := by omega
      have H3 := Lib.hid hj3
      rw [hj3] at hpre
      clear hj3 hhx hhy
      go_wp2
      exact hyes _ hpre hu
theorem RdB.cells {m : Bool} {w : World} {A : Option Addr} {n c : Nat} {xs : List Int} (h : RdB m w (.slice A n c) xs) : (A = none ∧ xs = []) ∨ xs = [] ∨ ∃ b off, A = some ⟨b, off, none⟩ ∧ ∀ i, i < xs.length → w.cell? ⟨b, off + i, none⟩ = some (.int .u8 (xs.getD i 0)) := by
  by_cases h0 : xs = []
  · exact .inr (.inl h0)
  · have hl : 0 < xs.length := List.length_pos_iff.2 h0
    obtain ⟨b, off, rfl, _⟩ := RdB.at_ h 0 hl
    refine .inr (.inr ⟨b, off, rfl, fun i hi => ?_⟩)
    obtain ⟨b', off', hA, hc, _⟩ := RdB.at_ h i hi
    injection hA with hA
    injection hA with h1 h2
    subst h1 h2
    exact hc
theorem run_str {m : Bool} {w : World} {v : Value} {xs : List Int} (h : RdB m w v xs) : (convert 22 9 v).run Try.prog w = .ok (.string (strOfNums xs)) w := by
  have hh := h
  obtain ⟨A, c, rfl, h1, h2, h0, h3⟩ := hh
  rcases Nat.eq_zero_or_pos xs.length with hz | hz
  · obtain rfl : xs = [] := List.eq_nil_of_length_eq_zero hz
    cases A with
    | none => exact run_convert_bytes_nil w _ _ Try.underlying22 Try.underlying5 _ _ _ Try.underlying9
    | some a =>
      rw [run_convert_bytes_string w _ _ _ _ _ _ Try.underlying22 Try.underlying5 Try.underlying9]
      rw [run_bytesToString w a _ c [] (by simp [loadCells, loadCellsFrom, Sem.run_pure])]
      rfl
  · obtain ⟨b, off, cells, t, fr, rfl, hb, ht, hx⟩ := h3 hz
    exact run_convert_bytes_arg w _ _ Try.underlying22 Try.underlying5 b off _ c xs rfl (fun i hi => by
      obtain ⟨b', off', hA, hc, _⟩ := RdB.at_ h i hi
      injection hA with hA
      injection hA with h1 h2
      subst h1 h2
      exact hc) _ Try.underlying9
theorem str_inj : ∀ {xs ys : List Int}, (∀ x, x ∈ xs → 0 ≤ x ∧ x < 256) → (∀ x, x ∈ ys → 0 ≤ x ∧ x < 256) → (xs.map fun n => UInt8.ofNat n.toNat) = (ys.map fun n => UInt8.ofNat n.toNat) → xs = ys
  | [], [], _, _, _ => rfl
  | [], _ :: _, _, _, h => by simp at h
  | _ :: _, [], _, _, h => by simp at h
  | x :: xs, y :: ys, hx, hy, h => by
    simp only [List.map_cons, List.cons.injEq] at h
    have h1 := hx x (by simp)
    have h2 := hy y (by simp)
    have h3 : x = y := by
      have := congrArg UInt8.toNat h.1
      simp at this
      omega
    rw [h3, str_inj (fun z hz => hx z (by simp [hz])) (fun z hz => hy z (by simp [hz])) h.2]
theorem run_streq {m m' : Bool} {w w' W : World} {u v : Value} {xs ys : List Int} (hx : RdB m w u xs) (hy : RdB m' w' v ys) : (binOp .eql 9 (.string (strOfNums xs)) (.string (strOfNums ys))).run Try.prog W = .ok (.bool (decide (xs = ys))) W := by
  have e : ((strOfNums xs).toList == (strOfNums ys).toList) = decide (xs = ys) := by
    by_cases h : xs = ys
    · subst h; simp
    · rw [decide_eq_false h, beq_eq_false_iff_ne]
      intro h2
      rw [ByteArray.toList_eq, ByteArray.toList_eq] at h2
      exact h (str_inj hx.rng hy.rng h2)
  rw [binOp_string_eql, e]
  rfl
theorem yields_cell {P : Program} {ops : Array Oper} {S : World → Prop} {op : Oper} {a : Act} {v : Value} (hw : Region.wanted op (yielded ops a.tmps) = true) (h : ∀ w, S w → (execOp a.eval op).run P w = .ok (.value v) w) : YieldsIf P ops S op v a := .inl ⟨hw, h⟩
theorem rec_dec {A B : Rec} : decide (A = B) = (decide (A.file = B.file) && (decide (A.record = B.record) && (decide (A.count = B.count) && decide (A.words = B.words)))) := by
  rw [Bool.eq_iff_iff]
  cases A; cases B
  simp
set_option maxRecDepth 100000 in
set_option maxHeartbeats 2000000 in
theorem rec_any {m m' : Bool} {ca cb : List Value} {A B : Rec} {w : World} (ha : recR m w A ca) (hb : recR m' w B cb) : Calls Try.prog 76 #[.agg ca.toArray, .agg cb.toArray] w (PBool (decide (A = B)) w) := by
  obtain ⟨va, rfl, hwa, hra⟩ := ha
  obtain ⟨vb, rfl, hwb, hrb⟩ := hb
  rw [rec_dec]
  generalize A.file = f1 at *
  generalize A.record = f2 at *
  generalize A.count = f3 at *
  generalize A.words = f4 at *
  generalize B.file = g1 at *
  generalize B.record = g2 at *
  generalize B.count = g3 at *
  generalize B.words = g4 at *
  clear hra hrb
  have hpost : ∀ W, Upd [] w W → PBool (decide (f1 = g1) && (decide (f2 = g2) && (decide (f3 = g3) && decide (f4 = g4)))) w (.returned (.bool (decide (f1 = g1) && (decide (f2 = g2) && (decide (f3 = g3) && decide (f4 = g4)))))) W := fun W h => ⟨rfl, h⟩
  revert hpost
  generalize PBool (decide (f1 = g1) && (decide (f2 = g2) && (decide (f3 = g3) && decide (f4 = g4)))) w = P
  intro hpost
  by_cases h1 : f1 = g1
  case neg =>
    have e : (decide (f1 = g1) && (decide (f2 = g2) && (decide (f3 = g3) && decide (f4 = g4)))) = false := by simp [h1]
    rw [e] at hpost
    have e1 : (f1 == g1) = false := by simpa using h1
    clear h1 e hwa hwb
    replace hpost := Lib.hid hpost
    go_enter Try.func76, Try.ntmps76
    go_wp2
    exact hpost.out _ (((Upd.refl [] w).alloc _).alloc _)
  subst h1
  by_cases h1 : f2 = g2
  case neg =>
    have e : (decide (f1 = f1) && (decide (f2 = g2) && (decide (f3 = g3) && decide (f4 = g4)))) = false := by simp [h1]
    rw [e] at hpost
    have e1 : (f2 == g2) = false := by simpa using h1
    clear h1 e hwa hwb
    replace hpost := Lib.hid hpost
    go_enter Try.func76, Try.ntmps76
    go_wp2
    exact hpost.out _ (((Upd.refl [] w).alloc _).alloc _)
  subst h1
  by_cases h1 : f3 = g3
  case neg =>
    have e : (decide (f1 = f1) && (decide (f2 = f2) && (decide (f3 = g3) && decide (f4 = g4)))) = false := by simp [h1]
    rw [e] at hpost
    have e1 : (f3 == g3) = false := by simpa using h1
    clear h1 e hwa hwb
    replace hpost := Lib.hid hpost
    go_enter Try.func76, Try.ntmps76
    go_wp2
    exact hpost.out _ (((Upd.refl [] w).alloc _).alloc _)
  subst h1
  have e : (decide (f1 = f1) && (decide (f2 = f2) && (decide (f3 = f3) && decide (f4 = g4)))) = decide (f4 = g4) := by simp
  rw [e] at hpost
  clear e
  have hcall := fun (W : World) (h : Upd [] w W) => eqW_any (hwa.old h) (hwb.old h)
  replace hpost := Lib.hid hpost
  go_enter Try.func76, Try.ntmps76
  go_wp2_with (go_at_call 73; refine (hcall _ (((Upd.refl [] w).alloc _).alloc _)).mono ?_; rintro e w1 ⟨rfl, hu1⟩)
  exact hpost.out _ ((((Upd.refl [] w).alloc _).alloc _).step hu1)
theorem obj_dec {A B : Obj} : decide (A = B) = (decide (A.id = B.id) && decide (A.value = B.value)) := by
  rw [Bool.eq_iff_iff]
  cases A; cases B
  simp
set_option maxRecDepth 100000 in
set_option maxHeartbeats 2000000 in
theorem object_any {m m' : Bool} {ca cb : List Value} {A B : Obj} {w : World} (ha : objR m w A ca) (hb : objR m' w B cb) : Calls Try.prog 78 #[.agg ca.toArray, .agg cb.toArray] w (PBool (decide (A = B)) w) := by
  obtain ⟨va, rfl, hwa, hra⟩ := ha
  obtain ⟨vb, rfl, hwb, hrb⟩ := hb
  rw [obj_dec]
  generalize A.id = f1 at *
  generalize A.value = f4 at *
  generalize B.id = g1 at *
  generalize B.value = g4 at *
  clear hra hrb
  have hpost : ∀ W, Upd [] w W → PBool (decide (f1 = g1) && decide (f4 = g4)) w (.returned (.bool (decide (f1 = g1) && decide (f4 = g4)))) W := fun W h => ⟨rfl, h⟩
  revert hpost
  generalize PBool (decide (f1 = g1) && decide (f4 = g4)) w = P
  intro hpost
  by_cases h1 : f1 = g1
  case neg =>
    have e : (decide (f1 = g1) && decide (f4 = g4)) = false := by simp [h1]
    rw [e] at hpost
    have e1 : (f1 == g1) = false := by simpa using h1
    clear h1 e hwa hwb
    replace hpost := Lib.hid hpost
    go_enter Try.func78, Try.ntmps78
    go_wp2
    exact hpost.out _ (((Upd.refl [] w).alloc _).alloc _)
  subst h1
  have e : (decide (f1 = f1) && decide (f4 = g4)) = decide (f4 = g4) := by simp
  rw [e] at hpost
  have hu0 : Upd [] w ((w.alloc (.cells #[.int .u8 f1, va] 59)).alloc (.cells #[.int .u8 f1, vb] 59)) := ((Upd.refl [] w).alloc _).alloc _
  have c1 := run_str (hwa.old hu0)
  have c2 := run_str (hwb.old hu0)
  have c3 := run_streq (hwa.old hu0) (hwb.old hu0) (W := (w.alloc (.cells #[.int .u8 f1, va] 59)).alloc (.cells #[.int .u8 f1, vb] 59))
  replace hpost := hpost _ hu0
  generalize strOfNums f4 = s1 at *
  generalize strOfNums g4 = s2 at *
  generalize decide (f4 = g4) = D at *
  clear hu0 hwa hwb e
  rw [binOp_string_eql] at c3
  have c4 : (s1.toList == s2.toList) = D := by simpa [Sem.run_pure] using c3
  clear c3
  replace hpost := Lib.hid hpost
  go_enter Try.func78, Try.ntmps78
  go_wp2
  exact hpost.out
theorem RdG.at_ {α : Type} {m : Bool} {e : TypeId} {sz : Nat} {R : World → α → List Value → Prop} {w : World} {A : Option Addr} {n c : Nat} {xs : List α} (h : RdG m e sz R w (.slice A n c) xs) (d : α) (j : Nat) (hj : j < xs.length) :
    ∃ b off cs, A = some ⟨b, off, none⟩ ∧ w.rangeAt b (off + j * sz) cs ∧ R w (xs.getD j d) cs ∧ cs.length = sz := by
  obtain ⟨A', c', hv, h1, h2, h0, h3⟩ := h
  injection hv with e1 e2 e3
  subst e1 e3
  obtain ⟨b, off, cells, t, fr, rfl, hb, ht, hx⟩ := h3 (by omega)
  obtain ⟨cs, h4, h5, h6⟩ := hx j (xs.getD j d) (by simp [List.getD_eq_getElem?_getD, List.getElem?_eq_getElem hj])
  exact ⟨b, off, cs, rfl, fun i u hi => by rw [blk_cell hb]; exact h6 i u hi, h5, h4⟩
theorem recR.upd0 {m : Bool} {w w' : World} (hu : Upd [] w w') {r : Rec} {cs : List Value} (h : recR m w r cs) : recR m w' r cs := recR.upd hu (Safe.nil _ _ _) r cs h
theorem objR.upd0 {m : Bool} {w w' : World} (hu : Upd [] w w') {r : Obj} {cs : List Value} (h : objR m w r cs) : objR m w' r cs := objR.upd hu (Safe.nil _ _ _) r cs h
theorem range_upd {w w' : World} {b o : Nat} {cs : List Value} (h : w.rangeAt b o cs) {S : List Nat} (hu : Upd S w w') (hb : b ∉ S) : w'.rangeAt b o cs := fun j v hj => hu.cell hb (h j v hj)
theorem rec_info : (Try.prog.info? 57).map (·.zero) = some (some (.agg #[.int .u16 0, .int .u16 0, .int .u16 0, .slice none 0 0])) := by kernel_rfl
theorem rec_size : (Try.prog.info? 57).map (·.size) = some 4 := by kernel_rfl
theorem obj_info : (Try.prog.info? 59).map (·.zero) = some (some (.agg #[.int .u8 0, .slice none 0 0])) := by kernel_rfl
theorem obj_size : (Try.prog.info? 59).map (·.size) = some 2 := by kernel_rfl
theorem recR.one {m : Bool} {w : World} {r : Rec} {cs : List Value} (h : recR m w r cs) : cs.toArray.all (·.oneCell') = true ∧ cs.length = 4 := by
  obtain ⟨v, rfl, h1, _⟩ := h
  obtain ⟨A, c, rfl, _⟩ := h1
  exact ⟨by simp [Value.oneCell'], rfl⟩
theorem objR.one {m : Bool} {w : World} {r : Obj} {cs : List Value} (h : objR m w r cs) : cs.toArray.all (·.oneCell') = true ∧ cs.length = 2 := by
  obtain ⟨v, rfl, h1, _⟩ := h
  obtain ⟨A, c, rfl, _⟩ := h1
  exact ⟨by simp [Value.oneCell'], rfl⟩
set_option maxRecDepth 100000 in
set_option maxHeartbeats 2000000 in
theorem eqR_any {m m' : Bool} {u v : Value} {xs ys : List Rec} {w : World} (hx : RdR m w u xs) (hy : RdR m' w v ys) :
    Calls Try.prog 75 #[u, v, .func (.func 76) #[] #[]] w (PBool (decide (xs = ys)) w) := by
  have hhx := hx
  have hhy := hy
  obtain ⟨A, c, rfl, hc1, hc2⟩ := hx.shape
  obtain ⟨B, c', rfl, hd1, hd2⟩ := hy.shape
  have hn : xs.length ≤ 9223372036854775807 := by have := hc2; unfold maxLen at this; omega
  by_cases hl : xs.length = ys.length
  case neg =>
    have hno : ∀ W, Upd [] w W → PBool (decide (xs = ys)) w (.returned (.bool false)) W := by
      intro W hW
      rw [decide_eq_false (fun h => hl (by rw [h]))]
      exact ⟨rfl, hW⟩
    have hli : ((xs.length : Int) != (ys.length : Int)) = true := by simp; omega
    clear hx hy hhx hhy hl
    go_enter Try.func75, Try.ntmps75
    go_wp2
    go_ret
    exact hno _ (Upd.refl _ _)
  have hno : ∀ W k, xs.getD k ⟨0, 0, 0, []⟩ ≠ ys.getD k ⟨0, 0, 0, []⟩ → Upd [] w W → PBool (decide (xs = ys)) w (.returned (.bool false)) W := by
    intro W k hk hW
    rw [decide_eq_false (eqNo k hk)]
    exact ⟨rfl, hW⟩
  have hyes : ∀ W, xs.take xs.length = ys.take xs.length → Upd [] w W → PBool (decide (xs = ys)) w (.returned (.bool true)) W := by
    intro W hk hW
    rw [List.take_length, hl, List.take_length] at hk
    rw [decide_eq_true hk]
    exact ⟨rfl, hW⟩
  revert hno hyes
  generalize PBool (decide (xs = ys)) w = P
  intro hno hyes
  have hli : ((xs.length : Int) != (ys.length : Int)) = false := by simp; omega
  have hL := Lib.hid hl
  clear hx hy hl
  go_enter Try.func75, Try.ntmps75
  go_wp2
  go_loopw [17] (fun i wr => ∃ k : Nat, k ≤ xs.length ∧ i = .int .i64 (k : Int) ∧ xs.take k = ys.take k ∧ Upd [] w wr) (fun i _ => xs.length - (intOf i).toNat)
  case atStart => exact ⟨0, by omega, rfl, by simp, Upd.refl _ _⟩
  case round =>
    obtain ⟨k, hk, rfl, hpre, hu⟩ := hrel
    by_cases hlt : k < xs.length
    · obtain ⟨b, off, ca, rfl, cw0, hr0, hl0⟩ := RdG.at_ hhx ⟨0, 0, 0, []⟩ k hlt
      obtain ⟨b', off', cb, rfl, cw1, hr1, hl1⟩ := RdG.at_ hhy ⟨0, 0, 0, []⟩ k (by have := hL.out; omega)
      have hlt' : k < ys.length := by have := hL.out; omega
      have hstep := fun h => eqPre (d := ⟨0, 0, 0, []⟩) hL.out hlt hpre h
      have hno' := fun W h => hno W k h
      revert hstep hno' hr0 hr1
      generalize xs.getD k ⟨0, 0, 0, []⟩ = x0
      generalize ys.getD k ⟨0, 0, 0, []⟩ = y0
      intro hr0 hr1 hstep hno'
      have hc0 := Lib.hid (range_upd cw0 hu (by simp))
      have hc1 := Lib.hid (range_upd cw1 hu (by simp))
      replace hstep := Lib.hid hstep
      replace hno' := Lib.hid hno'
      have ha := Lib.hid hr0
      have hb := Lib.hid hr1
      clear cw0 cw1 hhx hhy hpre hno hyes hr0 hr1
      have tok1_0 : True := trivial
      have tok1_1 : True := trivial
      have tok1_2 : True := trivial
      have tok1_3 : True := trivial
      have tok1_4 : True := trivial
      have tok1_5 : True := trivial
      have tok1_6 : True := trivial
      have tok1_7 : True := trivial
      have tok1_8 : True := trivial
      go_wp2_with (first | (have _t := tok1_0; refine wpList_load_mid rfl 57 _ rfl b (off + k * 4) rfl ca _ hc0.out Try.underlying57 rfl (by rw [hl0]; exact rec_size) ?_; clear _t tok1_0) | (have _t := tok1_1; refine wp_allocw rfl 57 rfl _ rec_info ?_; intro g1 w1 hg1 hB1 hu1; clear _t tok1_1) | (have _t := tok1_2; refine wp_storew rfl 57 _ _ rfl g1 rfl ca.toArray rfl _ _ hB1 (by simp only [List.size_toArray, hl0]; exact rec_size) (by simp only [List.size_toArray, hl0]; rfl) (recR.one ha.out).1 ?_; intro w2 hB2 hu2; have U2 := hu1.fresh1 hu2 hg1; clear _t tok1_2) | (have _t := tok1_3; refine wpList_load_mid rfl 57 _ rfl b' (off' + k * 4) rfl cb _ (range_upd hc1.out U2 (by simp)) Try.underlying57 rfl (by rw [hl1]; exact rec_size) ?_; clear _t tok1_3) | (have _t := tok1_4; refine wp_allocw rfl 57 rfl _ rec_info ?_; intro g3 w3 hg3 hB3 hu3; clear _t tok1_4) | (have _t := tok1_5; refine wp_storew rfl 57 _ _ rfl g3 rfl cb.toArray rfl _ _ hB3 (by simp only [List.size_toArray, hl1]; exact rec_size) (by simp only [List.size_toArray, hl1]; rfl) (recR.one hb.out).1 ?_; intro w4 hB4 hu4; have U4 := hu3.fresh1 hu4 hg3; have hB24 := U4.blk (by simp) hB2; have V4 := hu.step (U2.step U4); clear _t tok1_5) | (have _t := tok1_6; refine wpList_load_row rfl 57 _ rfl g1 rfl _ _ _ _ hB24 Try.underlying57 rfl (by simp only [List.size_toArray, hl0]; exact rec_size) ?_; clear _t tok1_6) | (have _t := tok1_7; refine wpList_load_row rfl 57 _ rfl g3 rfl _ _ _ _ hB4 Try.underlying57 rfl (by simp only [List.size_toArray, hl1]; exact rec_size) ?_; clear _t tok1_7) | (have _t := tok1_8; go_at_call 76; refine (rec_any (recR.upd0 V4 ha.out) (recR.upd0 V4 hb.out)).mono ?_; rintro e w5 ⟨rfl, hu5⟩; generalize hD : decide (x0 = y0) = D; have HD := Lib.hid hD; clear hD hB24 hB4; clear _t tok1_8))
      · have hD0 : (!D) = true := by assumption
        exact hno'.out _ (by have := HD.out; intro h; rw [← this, h] at hD0; simp at hD0) (V4.step hu5)
      · have hD0 : (!D) = false := by assumption
        have hxy : x0 = y0 := by have := HD.out; rw [← this] at hD0; simpa using hD0
        go_roundw
        case rel => exact ⟨k + 1, by omega, by go_num, hstep.out hxy, V4.step hu5⟩
        case measure => simp [intOf]; omega
    · have hj3 : k = xs.length := by omega
      have H3 := Lib.hid hj3
      rw [hj3] at hpre
      clear hj3 hhx hhy
      go_wp2
      exact hyes _ hpre hu
set_option maxRecDepth 100000 in
set_option maxHeartbeats 2000000 in
theorem eqO_any {m m' : Bool} {u v : Value} {xs ys : List Obj} {w : World} (hx : RdO m w u xs) (hy : RdO m' w v ys) :
    Calls Try.prog 77 #[u, v, .func (.func 78) #[] #[]] w (PBool (decide (xs = ys)) w) := by
  have hhx := hx
  have hhy := hy
  obtain ⟨A, c, rfl, hc1, hc2⟩ := hx.shape
  obtain ⟨B, c', rfl, hd1, hd2⟩ := hy.shape
  have hn : xs.length ≤ 9223372036854775807 := by have := hc2; unfold maxLen at this; omega
  by_cases hl : xs.length = ys.length
  case neg =>
    have hno : ∀ W, Upd [] w W → PBool (decide (xs = ys)) w (.returned (.bool false)) W := by
      intro W hW
      rw [decide_eq_false (fun h => hl (by rw [h]))]
      exact ⟨rfl, hW⟩
    have hli : ((xs.length : Int) != (ys.length : Int)) = true := by simp; omega
    clear hx hy hhx hhy hl
    go_enter Try.func77, Try.ntmps77
    go_wp2
    go_ret
    exact hno _ (Upd.refl _ _)
  have hno : ∀ W k, xs.getD k ⟨0, []⟩ ≠ ys.getD k ⟨0, []⟩ → Upd [] w W → PBool (decide (xs = ys)) w (.returned (.bool false)) W := by
    intro W k hk hW
    rw [decide_eq_false (eqNo k hk)]
    exact ⟨rfl, hW⟩
  have hyes : ∀ W, xs.take xs.length = ys.take xs.length → Upd [] w W → PBool (decide (xs = ys)) w (.returned (.bool true)) W := by
    intro W hk hW
    rw [List.take_length, hl, List.take_length] at hk
    rw [decide_eq_true hk]
    exact ⟨rfl, hW⟩
  revert hno hyes
  generalize PBool (decide (xs = ys)) w = P
  intro hno hyes
  have hli : ((xs.length : Int) != (ys.length : Int)) = false := by simp; omega
  have hL := Lib.hid hl
  clear hx hy hl
  go_enter Try.func77, Try.ntmps77
  go_wp2
  go_loopw [17] (fun i wr => ∃ k : Nat, k ≤ xs.length ∧ i = .int .i64 (k : Int) ∧ xs.take k = ys.take k ∧ Upd [] w wr) (fun i _ => xs.length - (intOf i).toNat)
  case atStart => exact ⟨0, by omega, rfl, by simp, Upd.refl _ _⟩
  case round =>
    obtain ⟨k, hk, rfl, hpre, hu⟩ := hrel
    by_cases hlt : k < xs.length
    · obtain ⟨b, off, ca, rfl, cw0, hr0, hl0⟩ := RdG.at_ hhx ⟨0, []⟩ k hlt
      obtain ⟨b', off', cb, rfl, cw1, hr1, hl1⟩ := RdG.at_ hhy ⟨0, []⟩ k (by have := hL.out; omega)
      have hlt' : k < ys.length := by have := hL.out; omega
      have hstep := fun h => eqPre (d := ⟨0, []⟩) hL.out hlt hpre h
      have hno' := fun W h => hno W k h
      revert hstep hno' hr0 hr1
      generalize xs.getD k ⟨0, []⟩ = x0
      generalize ys.getD k ⟨0, []⟩ = y0
      intro hr0 hr1 hstep hno'
      have hc0 := Lib.hid (range_upd cw0 hu (by simp))
      have hc1 := Lib.hid (range_upd cw1 hu (by simp))
      replace hstep := Lib.hid hstep
      replace hno' := Lib.hid hno'
      have ha := Lib.hid hr0
      have hb := Lib.hid hr1
      clear cw0 cw1 hhx hhy hpre hno hyes hr0 hr1
      have tok2_0 : True := trivial
      have tok2_1 : True := trivial
      have tok2_2 : True := trivial
      have tok2_3 : True := trivial
      have tok2_4 : True := trivial
      have tok2_5 : True := trivial
      have tok2_6 : True := trivial
      have tok2_7 : True := trivial
      have tok2_8 : True := trivial
      go_wp2_with (first | (have _t := tok2_0; refine wpList_load_mid rfl 59 _ rfl b (off + k * 2) rfl ca _ hc0.out Try.underlying59 rfl (by rw [hl0]; exact obj_size) ?_; clear _t tok2_0) | (have _t := tok2_1; refine wp_allocw rfl 59 rfl _ obj_info ?_; intro g1 w1 hg1 hB1 hu1; clear _t tok2_1) | (have _t := tok2_2; refine wp_storew rfl 59 _ _ rfl g1 rfl ca.toArray rfl _ _ hB1 (by simp only [List.size_toArray, hl0]; exact obj_size) (by simp only [List.size_toArray, hl0]; rfl) (objR.one ha.out).1 ?_; intro w2 hB2 hu2; have U2 := hu1.fresh1 hu2 hg1; clear _t tok2_2) | (have _t := tok2_3; refine wpList_load_mid rfl 59 _ rfl b' (off' + k * 2) rfl cb _ (range_upd hc1.out U2 (by simp)) Try.underlying59 rfl (by rw [hl1]; exact obj_size) ?_; clear _t tok2_3) | (have _t := tok2_4; refine wp_allocw rfl 59 rfl _ obj_info ?_; intro g3 w3 hg3 hB3 hu3; clear _t tok2_4) | (have _t := tok2_5; refine wp_storew rfl 59 _ _ rfl g3 rfl cb.toArray rfl _ _ hB3 (by simp only [List.size_toArray, hl1]; exact obj_size) (by simp only [List.size_toArray, hl1]; rfl) (objR.one hb.out).1 ?_; intro w4 hB4 hu4; have U4 := hu3.fresh1 hu4 hg3; have hB24 := U4.blk (by simp) hB2; have V4 := hu.step (U2.step U4); clear _t tok2_5) | (have _t := tok2_6; refine wpList_load_row rfl 59 _ rfl g1 rfl _ _ _ _ hB24 Try.underlying59 rfl (by simp only [List.size_toArray, hl0]; exact obj_size) ?_; clear _t tok2_6) | (have _t := tok2_7; refine wpList_load_row rfl 59 _ rfl g3 rfl _ _ _ _ hB4 Try.underlying59 rfl (by simp only [List.size_toArray, hl1]; exact obj_size) ?_; clear _t tok2_7) | (have _t := tok2_8; go_at_call 78; refine (object_any (objR.upd0 V4 ha.out) (objR.upd0 V4 hb.out)).mono ?_; rintro e w5 ⟨rfl, hu5⟩; generalize hD : decide (x0 = y0) = D; have HD := Lib.hid hD; clear hD hB24 hB4; clear _t tok2_8))
      · have hD0 : (!D) = true := by assumption
        exact hno'.out _ (by have := HD.out; intro h; rw [← this, h] at hD0; simp at hD0) (V4.step hu5)
      · have hD0 : (!D) = false := by assumption
        have hxy : x0 = y0 := by have := HD.out; rw [← this] at hD0; simpa using hD0
        go_roundw
        case rel => exact ⟨k + 1, by omega, by go_num, hstep.out hxy, V4.step hu5⟩
        case measure => simp [intOf]; omega
    · have hj3 : k = xs.length := by omega
      have H3 := Lib.hid hj3
      rw [hj3] at hpre
      clear hj3 hhx hhy
      go_wp2
      exact hyes _ hpre hu
def plainL (M : Msg) : List Int := [M.code, M.fail, M.addr, M.count, M.value, M.and_, M.or_, M.addr2, M.sub, M.status, M.events, M.messages, M.mei * 256 + M.kind, M.level * 256 + M.more, M.next]
def plainA (M : Msg) : Array Value := ((plainL M).map (Value.int .u16)).toArray
def PVal (v : Value) (w : World) (e : Ending) (w' : World) : Prop := e = .returned v ∧ Upd [] w w'
theorem plain_zero : (Try.prog.info? 110).map (·.zero) = some (some (.agg ((List.replicate 15 (Value.int .u16 0)).toArray))) := by kernel_rfl
theorem plain_size : (Try.prog.info? 110).map (·.size) = some 15 := by kernel_rfl
theorem build_plain (a0 a1 a2 a3 a4 a5 a6 a7 a8 a9 a10 a11 a12 a13 a14 : Int) (w : World) : (Instr.build 110 #[(0, .int .u16 a0), (1, .int .u16 a1), (2, .int .u16 a2), (3, .int .u16 a3), (4, .int .u16 a4), (5, .int .u16 a5), (6, .int .u16 a6), (7, .int .u16 a7), (8, .int .u16 a8), (9, .int .u16 a9), (10, .int .u16 a10), (11, .int .u16 a11), (12, .int .u16 a12), (13, .int .u16 a13), (14, .int .u16 a14)]).run Try.prog w
    = .ok (.agg #[.int .u16 a0, .int .u16 a1, .int .u16 a2, .int .u16 a3, .int .u16 a4, .int .u16 a5, .int .u16 a6, .int .u16 a7, .int .u16 a8, .int .u16 a9, .int .u16 a10, .int .u16 a11, .int .u16 a12, .int .u16 a13, .int .u16 a14]) w := by kernel_rfl
theorem ret_cell {P : Program} {fn : Func} {p : Tmp} {ty : TypeId} (h : fn.results = #[.cell p ty]) {R : Ending → World → Prop} {a : Act} {w : World} (hd0 : a.defers = []) (g : Nat) (t : TypeId) (cs : Array Value) (fr : Nat × Nat) (d : TypeDesc)
    (hp : a.tmps.getD p undef = .pointer (some ⟨g, 0, none⟩)) (hg : w.heap[g]? = some (.cells cs t fr))
    (hu : P.underlying ty = some d) (hd : (match d with | .struct _ | .array _ _ => true | _ => false) = true) (hi : (P.info? ty).map (·.size) = some cs.size)
    (hR : R (.returned (.agg cs)) w) : bodyPost P fn R .ret a w := by
  have hp' : a.tmps[p]?.getD undef = .pointer (some ⟨g, 0, none⟩) := by simpa using hp
  exact bodyPost_ret (by simp [results, h, hp', asAddr, run_loadVar_row w g t ty cs fr d hg hu hd hi]) hd0 hR
set_option maxRecDepth 100000 in
set_option maxHeartbeats 2000000 in
theorem plain_any {m : Bool} {cs : Array Value} {M : Msg} {w : World} (h : MsgRd m w cs.toList M) : Calls Try.prog 72 #[.agg cs] w (PVal (.agg (plainA M)) w) := by
  obtain ⟨vw, vb, vd, vr, vo, h0, _, _, _, _, _, hR⟩ := h
  obtain ⟨c0, c1, c2, c3, c4, c5, c6, c7, c8, c9, c10, c11, l1, l2, l3, l4, c16, c17, c18, c19, c20, l5⟩ := M
  obtain ⟨r0, r1, r2, r3, r4, r5, r6, r7, r8, r9, r10, r11, r16, r17, r18, r19, r20⟩ := hR
  simp only [B8, B16] at r0 r1 r2 r3 r4 r5 r6 r7 r8 r9 r10 r11 r16 r17 r18 r19 r20
  have hpost : ∀ W, Upd [] w W → PVal (.agg (plainA ⟨c0, c1, c2, c3, c4, c5, c6, c7, c8, c9, c10, c11, l1, l2, l3, l4, c16, c17, c18, c19, c20, l5⟩)) w (.returned (.agg #[.int .u16 c0, .int .u16 c1, .int .u16 c2, .int .u16 c3, .int .u16 c4, .int .u16 c5, .int .u16 c6, .int .u16 c7, .int .u16 c8, .int .u16 c9, .int .u16 c10, .int .u16 c11, .int .u16 (c16 * 256 + c17), .int .u16 (c18 * 256 + c19), .int .u16 c20])) W := fun W hW => ⟨rfl, hW⟩
  revert hpost
  generalize PVal (.agg (plainA ⟨c0, c1, c2, c3, c4, c5, c6, c7, c8, c9, c10, c11, l1, l2, l3, l4, c16, c17, c18, c19, c20, l5⟩)) w = P
  intro hpost
  replace hpost := Lib.hid hpost
  have w0 : IntKind.u16.wrap c0 = c0 := by show c0 % 65536 = c0; omega
  have w1 : IntKind.u16.wrap c1 = c1 := by show c1 % 65536 = c1; omega
  have w16 : IntKind.u16.wrap c16 = c16 := by show c16 % 65536 = c16; omega
  have w17 : IntKind.u16.wrap c17 = c17 := by show c17 % 65536 = c17; omega
  have w18 : IntKind.u16.wrap c18 = c18 := by show c18 % 65536 = c18; omega
  have w19 : IntKind.u16.wrap c19 = c19 := by show c19 % 65536 = c19; omega
  have w20 : IntKind.u16.wrap c20 = c20 := by show c20 % 65536 = c20; omega
  have x1 : IntKind.u16.wrap (c16 * 256) = c16 * 256 := by show (c16 * 256) % 65536 = c16 * 256; omega
  have x2 : IntKind.u16.wrap (c18 * 256) = c18 * 256 := by show (c18 * 256) % 65536 = c18 * 256; omega
  have o1 := or_word r16 r17
  have o2 := or_word r18 r19
  have hcs : cs = #[.int .u8 c0, .int .u8 c1, .int .u16 c2, .int .u16 c3, .int .u16 c4, .int .u16 c5, .int .u16 c6, .int .u16 c7, .int .u16 c8, .int .u16 c9, .int .u16 c10, .int .u16 c11, vw, vb, vd, vr, .int .u8 c16, .int .u8 c17, .int .u8 c18, .int .u8 c19, .int .u8 c20, vo] := by
    apply Array.toList_inj.1
    exact h0
  subst hcs
  have hbp := build_plain
  clear h0 r0 r1 r2 r3 r4 r5 r6 r7 r8 r9 r10 r11 r16 r17 r18 r19 r20
  go_enter Try.func72, Try.ntmps72
  have tok1_0 : True := trivial
  have tok1_1 : True := trivial
  have tok1_2 : True := trivial
  go_wp2_with (first | (have _t := tok1_0; refine wp_boxw rfl 29 _ rfl (.agg #[.int .u8 c0, .int .u8 c1, .int .u16 c2, .int .u16 c3, .int .u16 c4, .int .u16 c5, .int .u16 c6, .int .u16 c7, .int .u16 c8, .int .u16 c9, .int .u16 c10, .int .u16 c11, vw, vb, vd, vr, .int .u8 c16, .int .u8 c17, .int .u8 c18, .int .u8 c19, .int .u8 c20, vo]) rfl ?_; intro g w1 hg hB hu1; clear _t tok1_0) | (have _t := tok1_1; refine wp_allocw rfl 110 rfl _ plain_zero ?_; intro gp w2 hgp hBp hu2; replace hB := hu2.blk (by simp) hB; have k0 : w2.cell? ⟨g, 0, none⟩ = some (.int .u8 c0) := (blk_cell hB 0).trans rfl; have k1 : w2.cell? ⟨g, 1, none⟩ = some (.int .u8 c1) := (blk_cell hB 1).trans rfl; have k2 : w2.cell? ⟨g, 2, none⟩ = some (.int .u16 c2) := (blk_cell hB 2).trans rfl; have k3 : w2.cell? ⟨g, 3, none⟩ = some (.int .u16 c3) := (blk_cell hB 3).trans rfl; have k4 : w2.cell? ⟨g, 4, none⟩ = some (.int .u16 c4) := (blk_cell hB 4).trans rfl; have k5 : w2.cell? ⟨g, 5, none⟩ = some (.int .u16 c5) := (blk_cell hB 5).trans rfl; have k6 : w2.cell? ⟨g, 6, none⟩ = some (.int .u16 c6) := (blk_cell hB 6).trans rfl; have k7 : w2.cell? ⟨g, 7, none⟩ = some (.int .u16 c7) := (blk_cell hB 7).trans rfl; have k8 : w2.cell? ⟨g, 8, none⟩ = some (.int .u16 c8) := (blk_cell hB 8).trans rfl; have k9 : w2.cell? ⟨g, 9, none⟩ = some (.int .u16 c9) := (blk_cell hB 9).trans rfl; have k10 : w2.cell? ⟨g, 10, none⟩ = some (.int .u16 c10) := (blk_cell hB 10).trans rfl; have k11 : w2.cell? ⟨g, 11, none⟩ = some (.int .u16 c11) := (blk_cell hB 11).trans rfl; have k16 : w2.cell? ⟨g, 16, none⟩ = some (.int .u8 c16) := (blk_cell hB 16).trans rfl; have k17 : w2.cell? ⟨g, 17, none⟩ = some (.int .u8 c17) := (blk_cell hB 17).trans rfl; have k18 : w2.cell? ⟨g, 18, none⟩ = some (.int .u8 c18) := (blk_cell hB 18).trans rfl; have k19 : w2.cell? ⟨g, 19, none⟩ = some (.int .u8 c19) := (blk_cell hB 19).trans rfl; have k20 : w2.cell? ⟨g, 20, none⟩ = some (.int .u8 c20) := (blk_cell hB 20).trans rfl; clear hB; clear _t tok1_1) | (have _t := tok1_2; refine wp_storew rfl 110 _ _ rfl gp rfl _ rfl _ _ hBp plain_size rfl (by simp [Value.oneCell']) ?_; intro w3 hB3 hu3; clear _t tok1_2))
  refine ret_cell rfl rfl gp _ _ _ _ rfl hB3 Try.underlying110 rfl plain_size ?_
  exact hpost.out _ (hu1.step (hu2.fresh1 hu3 hgp))
def publicB (x : Int) : Bool := decide (x ∈ ([1, 2, 3, 4, 5, 6, 7, 8, 11, 12, 15, 16, 17, 20, 21, 22, 23, 24, 43] : List Int))
set_option maxRecDepth 100000 in
set_option maxHeartbeats 4000000 in
theorem public_any {x : Int} {w : World} : Calls Try.prog 34 #[.int .u8 x] w (PVal (.bool (publicB x)) w) := by
 refine en 7 Try.func34 rfl <| sg <| Pl 1 <| ng <| L0 <| Olt (m := 19) (e := 5) #[.int .u8 1, .int .u8 2, .int .u8 3, .int .u8 4, .int .u8 5, .int .u8 6, .int .u8 7, .int .u8 8, .int .u8 11, .int .u8 12, .int .u8 15, .int .u8 16, .int .u8 17, .int .u8 20, .int .u8 21, .int .u8 22, .int .u8 23, .int .u8 24, .int .u8 43] fun g10 w11 hg12 B13 hu14 => ?_
 have ow15 := litB hg12 (xs := [1, 2, 3, 4, 5, 6, 7, 8, 11, 12, 15, 16, 17, 20, 21, 22, 23, 24, 43]) (by as_aux_lemma => kernel_rfl) (rng_cons (by omega) (rng_cons (by omega) (rng_cons (by omega) (rng_cons (by omega) (rng_cons (by omega) (rng_cons (by omega) (rng_cons (by omega) (rng_cons (by omega) (rng_cons (by omega) (rng_cons (by omega) (rng_cons (by omega) (rng_cons (by omega) (rng_cons (by omega) (rng_cons (by omega) (rng_cons (by omega) (rng_cons (by omega) (rng_cons (by omega) (rng_cons (by omega) (rng_cons (by omega) rng_nil))))))))))))))))))) (by (try simp only [List.length_cons, List.length_nil]); omega) B13
 refine L0 <| Oc <| ee3 (set_u8 (xs := [1, 2, 3, 4, 5, 6, 7, 8, 11, 12, 15, 16, 17, 20, 21, 22, 23, 24, 43]) (ow15).rd (by decide) (by decide)) fun r17 ck18 w16 hg19 B20 hu21 => Pl 1 <| L0 <| Oki B20 x ([1, 2, 3, 4, 5, 6, 7, 8, 11, 12, 15, 16, 17, 20, 21, 22, 23, 24, 43]) <| Pl 1 <| nt <| rt <| rr (.bool (decide (x ∈ [1, 2, 3, 4, 5, 6, 7, 8, 11, 12, 15, 16, 17, 20, 21, 22, 23, 24, 43]))) <| ?_
 have U22 := ut0 hu14 hu21
 exact ⟨rfl, U22⟩
def failureB (x : Int) : Bool := decide (x ∈ ([1, 2, 3, 4, 5, 6, 8, 10, 11] : List Int))
set_option maxRecDepth 100000 in
set_option maxHeartbeats 4000000 in
theorem failure_any {x : Int} {w : World} : Calls Try.prog 35 #[.int .u8 x] w (PVal (.bool (failureB x)) w) := by
 refine en 7 Try.func35 rfl <| sg <| Pl 1 <| ng <| L0 <| Olt (m := 9) (e := 5) #[.int .u8 1, .int .u8 2, .int .u8 3, .int .u8 4, .int .u8 5, .int .u8 6, .int .u8 8, .int .u8 10, .int .u8 11] fun g10 w11 hg12 B13 hu14 => ?_
 have ow15 := litB hg12 (xs := [1, 2, 3, 4, 5, 6, 8, 10, 11]) (by as_aux_lemma => kernel_rfl) (rng_cons (by omega) (rng_cons (by omega) (rng_cons (by omega) (rng_cons (by omega) (rng_cons (by omega) (rng_cons (by omega) (rng_cons (by omega) (rng_cons (by omega) (rng_cons (by omega) rng_nil))))))))) (by (try simp only [List.length_cons, List.length_nil]); omega) B13
 refine L0 <| Oc <| ee3 (set_u8 (xs := [1, 2, 3, 4, 5, 6, 8, 10, 11]) (ow15).rd (by decide) (by decide)) fun r17 ck18 w16 hg19 B20 hu21 => Pl 1 <| L0 <| Oki B20 x ([1, 2, 3, 4, 5, 6, 8, 10, 11]) <| Pl 1 <| nt <| rt <| rr (.bool (decide (x ∈ [1, 2, 3, 4, 5, 6, 8, 10, 11]))) <| ?_
 have U22 := ut0 hu14 hu21
 exact ⟨rfl, U22⟩
def subB (x : Int) : Bool := decide (x ∈ ([0, 1, 2, 3, 4, 10, 11, 12, 13, 14, 15, 16, 17, 18, 20] : List Int))
set_option maxRecDepth 100000 in
set_option maxHeartbeats 4000000 in
theorem bits_any {x : Int} {w : World} : Calls Try.prog 95 #[.int .u16 x] w (PVal (.bool (subB x)) w) := by
 refine en 7 Try.func95 rfl <| sg <| Pl 1 <| ng <| L0 <| Olt (m := 15) (e := 23) #[.int .u16 0, .int .u16 1, .int .u16 2, .int .u16 3, .int .u16 4, .int .u16 10, .int .u16 11, .int .u16 12, .int .u16 13, .int .u16 14, .int .u16 15, .int .u16 16, .int .u16 17, .int .u16 18, .int .u16 20] fun g10 w11 hg12 B13 hu14 => ?_
 have ow15 := litW hg12 (xs := [0, 1, 2, 3, 4, 10, 11, 12, 13, 14, 15, 16, 17, 18, 20]) (by as_aux_lemma => kernel_rfl) (rng_cons (by omega) (rng_cons (by omega) (rng_cons (by omega) (rng_cons (by omega) (rng_cons (by omega) (rng_cons (by omega) (rng_cons (by omega) (rng_cons (by omega) (rng_cons (by omega) (rng_cons (by omega) (rng_cons (by omega) (rng_cons (by omega) (rng_cons (by omega) (rng_cons (by omega) (rng_cons (by omega) rng_nil))))))))))))))) (by (try simp only [List.length_cons, List.length_nil]); omega) B13
 refine L0 <| Oc <| ee3 (set_u16 (xs := [0, 1, 2, 3, 4, 10, 11, 12, 13, 14, 15, 16, 17, 18, 20]) (ow15).rd (by decide) (by decide)) fun r17 ck18 w16 hg19 B20 hu21 => Pl 1 <| L0 <| Oki B20 x ([0, 1, 2, 3, 4, 10, 11, 12, 13, 14, 15, 16, 17, 18, 20]) <| Pl 1 <| nt <| rt <| rr (.bool (decide (x ∈ [0, 1, 2, 3, 4, 10, 11, 12, 13, 14, 15, 16, 17, 18, 20]))) <| ?_
 have U22 := ut0 hu14 hu21
 exact ⟨rfl, U22⟩
def levelB (x : Int) : Bool := decide (x ∈ ([1, 2, 3, 129, 130, 131] : List Int))
set_option maxRecDepth 100000 in
set_option maxHeartbeats 4000000 in
theorem level_any {x : Int} {w : World} : Calls Try.prog 106 #[.int .u8 x] w (PVal (.bool (levelB x)) w) := by
 refine en 7 Try.func106 rfl <| sg <| Pl 1 <| ng <| L0 <| Omk fun g10 w11 hg12 B13 hu14 => L0 <| Oin B13 1 #[⟨.int .u8 1, .bool true, 0⟩] 1 fun w15 B16 hu17 => L0 <| Oin B16 2 #[⟨.int .u8 1, .bool true, 0⟩, ⟨.int .u8 2, .bool true, 1⟩] 2 fun w18 B19 hu20 => L0 <| Oin B19 3 #[⟨.int .u8 1, .bool true, 0⟩, ⟨.int .u8 2, .bool true, 1⟩, ⟨.int .u8 3, .bool true, 2⟩] 3 fun w21 B22 hu23 => L0 <| Oin B22 129 #[⟨.int .u8 1, .bool true, 0⟩, ⟨.int .u8 2, .bool true, 1⟩, ⟨.int .u8 3, .bool true, 2⟩, ⟨.int .u8 129, .bool true, 3⟩] 4 fun w24 B25 hu26 => L0 <| Oin B25 130 #[⟨.int .u8 1, .bool true, 0⟩, ⟨.int .u8 2, .bool true, 1⟩, ⟨.int .u8 3, .bool true, 2⟩, ⟨.int .u8 129, .bool true, 3⟩, ⟨.int .u8 130, .bool true, 4⟩] 5 fun w27 B28 hu29 => ?_
 refine L0 <| Oin B28 131 #[⟨.int .u8 1, .bool true, 0⟩, ⟨.int .u8 2, .bool true, 1⟩, ⟨.int .u8 3, .bool true, 2⟩, ⟨.int .u8 129, .bool true, 3⟩, ⟨.int .u8 130, .bool true, 4⟩, ⟨.int .u8 131, .bool true, 5⟩] 6 fun w30 B31 hu32 => Pl 2 <| L0 <| Oki B31 x ([1, 2, 3, 129, 130, 131]) <| Pl 1 <| nt <| rt <| rr (.bool (decide (x ∈ [1, 2, 3, 129, 130, 131]))) <| ?_
 have U33 := u1 hu14 hu17 (nr hg12)
 have U34 := u1 U33 hu20 (nr hg12)
 have U35 := u1 U34 hu23 (nr hg12)
 have U36 := u1 U35 hu26 (nr hg12)
 have U37 := u1 U36 hu29 (nr hg12)
 have U38 := u1 U37 hu32 (nr hg12)
 exact ⟨rfl, U38⟩
def pub7 (x : Int) : Bool := (((((((decide (1 ≤ x) && decide (x ≤ 8)) || x == 11) || x == 12) || (decide (15 ≤ x) && decide (x ≤ 17))) || (decide (20 ≤ x) && decide (x ≤ 24))) || x == 43))
set_option maxRecDepth 100000 in
set_option maxHeartbeats 4000000 in
theorem pub7_any {x : Int} {w : World} : Calls Try.prog 19 #[.int .u8 x] w (PVal (.bool (pub7 x)) w) := by
 refine en 37 Try.func19 rfl <| sg <| Pl 1 <| ng <| Pl 3 <| cu 3 [5] 8 (((decide (1 ≤ x)) && (decide (x ≤ 8)))) (fun K K11 => ?_) ?_
 refine bl 5 ((decide (1 ≤ x))) (fun q10 => ?_) (fun q10 => ?_)
 have q10p := of_decide_eq_true q10
 exact Pl 3 <| ce K11 (decide (x ≤ 8)) (by rw [q10]; rfl)
 have q10p := of_decide_eq_false q10
 exact Pl 3 <| ce K11 false (by rw [q10]; rfl)
 refine Pl 1 <| cu 3 [9] 12 ((((decide (1 ≤ x)) && (decide (x ≤ 8))) || (x == 11))) (fun K K13 => ?_) ?_
 refine bl 9 (((decide (1 ≤ x)) && (decide (x ≤ 8)))) (fun q12 => ?_) (fun q12 => ?_)
 have q12a := (and_t q12).1
 have q12b := (and_t q12).2
 have q12ap := of_decide_eq_true q12a
 have q12bp := of_decide_eq_true q12b
 exact Pl 3 <| ce K13 true (by rw [q12]; rfl)
 exact Pl 3 <| ce K13 (x == 11) (by rw [q12]; rfl)
 refine Pl 1 <| cu 3 [13] 16 (((((decide (1 ≤ x)) && (decide (x ≤ 8))) || (x == 11)) || (x == 12))) (fun K K15 => ?_) ?_
 refine bl 13 ((((decide (1 ≤ x)) && (decide (x ≤ 8))) || (x == 11))) (fun q14 => ?_) (fun q14 => ?_)
 exact Pl 3 <| ce K15 true (by rw [q14]; rfl)
 have q14a := (or_f q14).1
 have q14b := (or_f q14).2
 have q14bp := ne_of_beqi q14b
 exact Pl 3 <| ce K15 (x == 12) (by rw [q14]; rfl)
 refine Pl 1 <| cu 7 [17] 24 ((((((decide (1 ≤ x)) && (decide (x ≤ 8))) || (x == 11)) || (x == 12)) || ((decide (15 ≤ x)) && (decide (x ≤ 17))))) (fun K K17 => ?_) ?_
 refine bl 17 (((((decide (1 ≤ x)) && (decide (x ≤ 8))) || (x == 11)) || (x == 12))) (fun q16 => ?_) (fun q16 => ?_)
 exact Pl 7 <| ce K17 true (by rw [q16]; rfl)
 have q16a := (or_f q16).1
 have q16b := (or_f q16).2
 have q16aa := (or_f q16a).1
 have q16ab := (or_f q16a).2
 have q16abp := ne_of_beqi q16ab
 have q16bp := ne_of_beqi q16b
 refine Pl 3 <| cu 3 [20] 23 (((decide (15 ≤ x)) && (decide (x ≤ 17)))) (fun K K19 => ?_) ?_
 refine bl 20 ((decide (15 ≤ x))) (fun q18 => ?_) (fun q18 => ?_)
 have q18p := of_decide_eq_true q18
 exact Pl 3 <| ce K19 (decide (x ≤ 17)) (by rw [q18]; rfl)
 have q18p := of_decide_eq_false q18
 exact Pl 3 <| ce K19 false (by rw [q18]; rfl)
 exact Pl 1 <| ce K17 ((decide (15 ≤ x)) && (decide (x ≤ 17))) (by rw [q16]; rfl)
 refine Pl 1 <| cu 7 [25] 32 (((((((decide (1 ≤ x)) && (decide (x ≤ 8))) || (x == 11)) || (x == 12)) || ((decide (15 ≤ x)) && (decide (x ≤ 17)))) || ((decide (20 ≤ x)) && (decide (x ≤ 24))))) (fun K K21 => ?_) ?_
 refine bl 25 ((((((decide (1 ≤ x)) && (decide (x ≤ 8))) || (x == 11)) || (x == 12)) || ((decide (15 ≤ x)) && (decide (x ≤ 17))))) (fun q20 => ?_) (fun q20 => ?_)
 exact Pl 7 <| ce K21 true (by rw [q20]; rfl)
 have q20a := (or_f q20).1
 have q20b := (or_f q20).2
 have q20aa := (or_f q20a).1
 have q20ab := (or_f q20a).2
 have q20aaa := (or_f q20aa).1
 have q20aab := (or_f q20aa).2
 have q20aabp := ne_of_beqi q20aab
 have q20abp := ne_of_beqi q20ab
 refine Pl 3 <| cu 3 [28] 31 (((decide (20 ≤ x)) && (decide (x ≤ 24)))) (fun K K23 => ?_) ?_
 refine bl 28 ((decide (20 ≤ x))) (fun q22 => ?_) (fun q22 => ?_)
 have q22p := of_decide_eq_true q22
 exact Pl 3 <| ce K23 (decide (x ≤ 24)) (by rw [q22]; rfl)
 have q22p := of_decide_eq_false q22
 exact Pl 3 <| ce K23 false (by rw [q22]; rfl)
 exact Pl 1 <| ce K21 ((decide (20 ≤ x)) && (decide (x ≤ 24))) (by rw [q20]; rfl)
 refine Pl 1 <| cu 3 [33] 36 ((((((((decide (1 ≤ x)) && (decide (x ≤ 8))) || (x == 11)) || (x == 12)) || ((decide (15 ≤ x)) && (decide (x ≤ 17)))) || ((decide (20 ≤ x)) && (decide (x ≤ 24)))) || (x == 43))) (fun K K25 => ?_) ?_
 refine bl 33 (((((((decide (1 ≤ x)) && (decide (x ≤ 8))) || (x == 11)) || (x == 12)) || ((decide (15 ≤ x)) && (decide (x ≤ 17)))) || ((decide (20 ≤ x)) && (decide (x ≤ 24))))) (fun q24 => ?_) (fun q24 => ?_)
 exact Pl 3 <| ce K25 true (by rw [q24]; rfl)
 have q24a := (or_f q24).1
 have q24b := (or_f q24).2
 have q24aa := (or_f q24a).1
 have q24ab := (or_f q24a).2
 have q24aaa := (or_f q24aa).1
 have q24aab := (or_f q24aa).2
 have q24aaaa := (or_f q24aaa).1
 have q24aaab := (or_f q24aaa).2
 have q24aaabp := ne_of_beqi q24aaab
 have q24aabp := ne_of_beqi q24aab
 exact Pl 3 <| ce K25 (x == 43) (by rw [q24]; rfl)
 refine Pl 1 <| nt <| rt <| rr (.bool (((((((decide (1 ≤ x)) && (decide (x ≤ 8))) || (x == 11)) || (x == 12)) || ((decide (15 ≤ x)) && (decide (x ≤ 17)))) || ((decide (20 ≤ x)) && (decide (x ≤ 24)))) || (x == 43))) <| ?_
 have hs : pub7 x = (((((((decide (1 ≤ x)) && (decide (x ≤ 8))) || (x == 11)) || (x == 12)) || ((decide (15 ≤ x)) && (decide (x ≤ 17)))) || ((decide (20 ≤ x)) && (decide (x ≤ 24)))) || (x == 43)) := by
   unfold pub7
   (try simp only [bs, if_true, if_false, decide_true, decide_false])
 rw [hs]
 exact ⟨rfl, (Upd.refl [] _)⟩
set_option maxRecDepth 100000 in
set_option maxHeartbeats 4000000 in
theorem same1_any0 {m m' : Bool} {A B : Option Addr} {c d : Nat} {xs ys : List Int} {w : World} (h1 : RdB m w (.slice A xs.length c) xs) (h2 : RdB m' w (.slice B ys.length d) ys) :
    Calls Try.prog 17 #[.slice A xs.length c, .slice B ys.length d] w (PVal (.bool (decide (xs = ys))) w) := by
 refine en 10 Try.func17 rfl <| sg <| Pl 1 <| ng <| Pl 1 <| L0 <| Or_ (.string (strOfNums xs)) (run_convB (A := A) (n := xs.length) (c := c) rfl (by kernel_rfl) Try.underlying22 Try.underlying5 Try.underlying9 h1) <| Pl 1 <| L0 <| Or_ (.string (strOfNums ys)) (run_convB (A := B) (n := ys.length) (c := d) rfl (by kernel_rfl) Try.underlying22 Try.underlying5 Try.underlying9 h2) <| L0 <| Or_ (.bool (decide (xs = ys))) (run_strq (a := (strOfNums xs)) (b := (strOfNums ys)) rfl (by kernel_rfl) (by kernel_rfl) (str_eq h1 h2)) <| Pl 1 <| nl <| ?_
 refine tn <| rt <| rr (.bool (decide (xs = ys))) <| ?_
 exact ⟨rfl, (Upd.refl [] _)⟩
theorem same1_any {m m' : Bool} {a b : Value} {xs ys : List Int} {w : World} (h1 : RdB m w a xs) (h2 : RdB m' w b ys) : Calls Try.prog 17 #[a, b] w (PVal (.bool (decide (xs = ys))) w) := by
  obtain ⟨A, c, rfl, _, _⟩ := h1.shape
  obtain ⟨B, d, rfl, _, _⟩ := h2.shape
  exact same1_any0 h1 h2
def smK (c : Cur) : Int := (spanC c 1968).byteV
def smN (c : Cur) : Int := (c.wordsC 1).wordV
def smC2 (c : Cur) : Cur := ((spanC c 1968).bytesC 1).need (smK c == many (smN c)) 5
def smU (c : Cur) : Option (List Bool) := unpackB ((smC2 c).bytesR (smK c)) (smN c)
def smC (c : Cur) : Cur := ((smC2 c).bytesC (smK c)).need (smU c).isSome 6
def PMany (g gm : Nat) (c : Cur) (cs : Array Value) (w : World) (e : Ending) (w' : World) : Prop :=
  ∃ v, e = .returned (.tuple #[]) ∧ CurAt w' g (smC c) ∧ MsgB w' gm (((cs.setIfInBounds 2 (.int .u16 c.wordV)).setIfInBounds 3 (.int .u16 (smN c))).setIfInBounds 13 v) ∧ RdL true w' v ((smU c).getD []) ∧ Upd [g, gm] w w'
set_option maxRecDepth 100000 in
set_option maxHeartbeats 2000000 in
theorem setsMany_any {g gm : Nat} {c : Cur} {cs : Array Value} {w : World} (hc : CurAt w g c) (hm : MsgB w gm cs) :
    Calls Try.prog 56 #[.agg #[.pointer (some ⟨g, 0, none⟩), .pointer (some ⟨gm, 0, none⟩)]] w (PMany g gm c cs w) := by
  have st := FormSt.start hc hm
  have k0 := st.k0
  have k1 := st.k1
  obtain ⟨W0, hW0⟩ : ∃ W0, w.alloc (.cells #[.pointer (some ⟨g, 0, none⟩), .pointer (some ⟨gm, 0, none⟩)] 91) = W0 := ⟨_, rfl⟩
  obtain ⟨bf, hbf⟩ : ∃ bf, w.heap.size = bf := ⟨_, rfl⟩
  rw [hW0, hbf] at st k0 k1
  have hcs : cs.size = 22 := hm.2
  have hrn2 := wordV_rng (wordsC_rng hc.rng 1)
  have hpost : ∀ W v, FormSt w W bf g gm (smC c) ((cs.setIfInBounds 2 (.int .u16 c.wordV)).setIfInBounds 3 (.int .u16 (smN c))) → RdL true W v ((smU c).getD []) → PMany g gm c cs w (.returned (.tuple #[])) (W.setCell ⟨gm, 13, none⟩ v) := fun W v h hr =>
    have h' := h.store 13 v
    ⟨v, rfl, h'.hc, h'.hm, RdL.upd' hr ((Upd.refl [gm] W).setCell (p := ⟨gm, 13, none⟩) (.inl (by simp)) v) (h.hm.safe _ (by decide)), h'.u⟩
  unfold smC smU smC2 smK smN at hpost
  revert hpost
  generalize PMany g gm c cs w = P
  intro hpost
  clear hc hm
  go_enter Try.func56, Try.ntmps56
  have tok1_0 : True := trivial
  have tok1_1 : True := trivial
  go_wp2_with (first | (have _t := tok1_0; go_at_call 57; refine (done_any st.hc st.hm).mono ?_; rintro e w1 ⟨rfl, hc1, hm1, hu1⟩; have s1 := st.both hc1 hm1 hu1; have k2 := s1.k0; have k3 := s1.k1; clear hW0 hbf; clear _t tok1_0) | (have _t := tok1_1; go_at_call 30; refine (byte_any s1.hc).mono ?_; rintro e w2 ⟨rfl, hc2, hu2, hrk⟩; have s2 := s1.call hc2 hu2; clear _t tok1_1))
  have e3 := s2.hm.cellv 3 (by decide) (getD_set_same 3 _ (by simp; omega))
  clear hc1 hm1 hu1 s1 k2 k3 hc2 hu2 st k0 k1
  revert hpost hrn2 s2 e3 hrk
  generalize (c.wordsC 1).wordV = n
  generalize (spanC c 1968).byteV = k
  generalize (spanC c 1968).bytesC 1 = c2
  generalize (cs.setIfInBounds 2 (.int .u16 c.wordV)).setIfInBounds 3 (.int .u16 n) = cs3
  intro hrn2 hpost hrk s2 e3
  have hwk : IntKind.i64.wrap k = k := IntWalk.i64_in _ (by omega)
  have hwn : IntKind.i64.wrap n = n := IntWalk.i64_in _ (by omega)
  have sd := s2.drew
  refine rg_start (S := fun w' => w'.cell? ⟨bf, 0, none⟩ = some (.pointer (some ⟨g, 0, none⟩)) ∧ w'.cell? ⟨bf, 1, none⟩ = some (.pointer (some ⟨gm, 0, none⟩)) ∧ w'.cell? ⟨gm, 3, none⟩ = some (.int .u16 n)) (n := 12) #[false, false, false, false, false, false, false, false, false, false, false, false] (by kernel_rfl) rfl rfl ⟨sd.k0, sd.k1, e3⟩ (fun hHeld => ?_)
  refine rg_take (i := 0) (N := some 11) (v := ?_) (a' := ?_) #[true, false, false, false, false, false, false, false, false, false, false, false] rfl rfl (by kernel_rfl) (fun _ _ _ h => h) (Or.inl ⟨by rfl, ?_⟩) hHeld ?_ ?_
  rotate_left
  · rintro w' ⟨hs0, hs1, hs2⟩
    go_simp
    with_reducible rfl
  rotate_left
  · simp only [Act.put, List.setIfInBounds_toArray, List.set_cons_zero, List.set_cons_succ]
    rfl
  refine rg_take (i := 1) (N := some 12) (v := ?_) (a' := ?_) #[true, true, false, false, false, false, false, false, false, false, false, false] rfl rfl (by kernel_rfl) (fun _ _ _ h => h) (Or.inl ⟨by rfl, ?_⟩) hHeld ?_ ?_
  rotate_left
  · rintro w' ⟨hs0, hs1, hs2⟩
    go_simp
    with_reducible rfl
  rotate_left
  · simp only [Act.put, List.setIfInBounds_toArray, List.set_cons_zero, List.set_cons_succ]
    rfl
  refine rg_take (i := 2) (N := some 13) (v := ?_) (a' := ?_) #[true, true, true, false, false, false, false, false, false, false, false, false] rfl rfl (by kernel_rfl) (fun _ _ _ h => h) (Or.inl ⟨by rfl, ?_⟩) hHeld ?_ ?_
  rotate_left
  · rintro w' ⟨hs0, hs1, hs2⟩
    go_simp
    with_reducible rfl
  rotate_left
  · simp only [Act.put, List.setIfInBounds_toArray, List.set_cons_zero, List.set_cons_succ]
    rfl
  refine rg_take (i := 3) (N := some 14) (v := ?_) (a' := ?_) #[true, true, true, true, false, false, false, false, false, false, false, false] rfl rfl (by kernel_rfl) (fun _ _ _ h => h) (Or.inl ⟨by rfl, ?_⟩) hHeld ?_ ?_
  rotate_left
  · rintro w' ⟨hs0, hs1, hs2⟩
    go_simp
    with_reducible rfl
  rotate_left
  · simp only [Act.put, List.setIfInBounds_toArray, List.set_cons_zero, List.set_cons_succ]
    rfl
  refine rg_take (i := 4) (N := some 15) (v := ?_) (a' := ?_) #[true, true, true, true, true, false, false, false, false, false, false, false] rfl rfl (by kernel_rfl) (fun _ _ _ h => h) (Or.inl ⟨by rfl, ?_⟩) hHeld ?_ ?_
  rotate_left
  · rintro w' ⟨hs0, hs1, hs2⟩
    go_simp
    with_reducible rfl
  rotate_left
  · simp only [Act.put, List.setIfInBounds_toArray, List.set_cons_zero, List.set_cons_succ]
    rfl
  refine rg_take (i := 5) (N := some 16) (v := ?_) (a' := ?_) #[true, true, true, true, true, true, false, false, false, false, false, false] rfl rfl (by kernel_rfl) (fun _ _ _ h => h) (Or.inl ⟨by rfl, ?_⟩) hHeld ?_ ?_
  rotate_left
  · rintro w' ⟨hs0, hs1, hs2⟩
    go_simp
    with_reducible rfl
  rotate_left
  · simp only [Act.put, List.setIfInBounds_toArray, List.set_cons_zero, List.set_cons_succ]
    rfl
  refine rg_take (i := 6) (N := some 17) (v := ?_) (a' := ?_) #[true, true, true, true, true, true, true, false, false, false, false, false] rfl rfl (by kernel_rfl) (fun _ _ _ h => h) (Or.inl ⟨by rfl, ?_⟩) hHeld ?_ ?_
  rotate_left
  · rintro w' ⟨hs0, hs1, hs2⟩
    go_simp
    with_reducible rfl
  rotate_left
  · simp only [Act.put, List.setIfInBounds_toArray, List.set_cons_zero, List.set_cons_succ]
    rfl
  refine rg_take (i := 7) (N := some 18) (v := ?_) (a' := ?_) #[true, true, true, true, true, true, true, true, false, false, false, false] rfl rfl (by kernel_rfl) (fun _ _ _ h => h) (Or.inl ⟨by rfl, ?_⟩) hHeld ?_ ?_
  rotate_left
  · rintro w' ⟨hs0, hs1, hs2⟩
    go_simp
    with_reducible rfl
  rotate_left
  · simp only [Act.put, List.setIfInBounds_toArray, List.set_cons_zero, List.set_cons_succ]
    rfl
  refine rg_take (i := 8) (N := some 19) (v := ?_) (a' := ?_) #[true, true, true, true, true, true, true, true, true, false, false, false] rfl rfl (by kernel_rfl) (fun _ _ _ h => h) (Or.inl ⟨by rfl, ?_⟩) hHeld ?_ ?_
  rotate_left
  · rintro w' ⟨hs0, hs1, hs2⟩
    go_simp
    with_reducible rfl
  rotate_left
  · simp only [Act.put, List.setIfInBounds_toArray, List.set_cons_zero, List.set_cons_succ]
    rfl
  refine rg_call (i := 9) (N := some 20) (f := 81) (args := ?_) #[true, true, true, true, true, true, true, true, true, true, false, false] rfl rfl (by kernel_rfl) Try.func81 (by kernel_rfl) rfl (by rfl) rfl ?_ ?_
  rotate_left
  · (try simp only [List.map_toArray, List.map_cons, List.map_nil]); rfl
  refine (many_any (by omega)).mono ?_
  rintro e w3 ⟨rfl, rfl⟩
  refine ⟨_, rfl, ⟨sd.k0, sd.k1, e3⟩, fun hHeld => ?_⟩
  refine rg_norm (a' := ?_) ?_ ?_
  rotate_left
  · show Act.put _ (some 20) _ = _
    simp only [Act.put, List.setIfInBounds_toArray, List.set_cons_zero, List.set_cons_succ]
    rfl
  refine rg_take (i := 10) (N := some 21) (v := ?_) (a' := ?_) #[true, true, true, true, true, true, true, true, true, true, true, false] rfl rfl (by kernel_rfl) (fun _ _ _ h => h) (Or.inl ⟨by rfl, ?_⟩) hHeld ?_ ?_
  rotate_left
  · rintro w' ⟨hs0, hs1, hs2⟩
    go_simp
    with_reducible rfl
  rotate_left
  · simp only [Act.put, List.setIfInBounds_toArray, List.set_cons_zero, List.set_cons_succ]
    rfl
  refine rg_call (i := 11) (N := some 22) (f := 51) (args := ?_) #[true, true, true, true, true, true, true, true, true, true, true, true] rfl rfl (by kernel_rfl) Try.func51 (by kernel_rfl) rfl (by rfl) rfl ?_ ?_
  rotate_left
  · (try simp only [List.map_toArray, List.map_cons, List.map_nil]); rfl
  refine (need_any _ 5 sd.hc).mono ?_
  rintro e w3 ⟨rfl, hc3, hu3⟩
  have s3 := sd.call hc3 hu3
  have e4 := hu3.cell (by simpa using sd.ne.symm) e3
  refine ⟨_, rfl, ⟨s3.k0, s3.k1, e4⟩, fun hHeld => ?_⟩
  refine rg_norm (a' := ?_) ?_ ?_
  rotate_left
  · show Act.put _ (some 22) _ = _
    simp only [Act.put, List.setIfInBounds_toArray, List.set_cons_zero, List.set_cons_succ]
    rfl
  refine rg_done (by kernel_rfl) ?_
  clear sd hHeld s2 e3 hc3 hu3
  go_wp2_with fail
  have sd := s3.drew
  have e5 : w3.drew.cell? ⟨gm, 3, none⟩ = some (.int .u16 n) := e4
  refine rg_start (S := fun w' => w'.cell? ⟨bf, 0, none⟩ = some (.pointer (some ⟨g, 0, none⟩)) ∧ w'.cell? ⟨bf, 1, none⟩ = some (.pointer (some ⟨gm, 0, none⟩)) ∧ w'.cell? ⟨gm, 3, none⟩ = some (.int .u16 n)) (n := 16) #[false, false, false, false, false, false, false, false, false, false, false, false, false, false, false, false] (by kernel_rfl) rfl rfl ⟨sd.k0, sd.k1, e5⟩ (fun hHeld => ?_)
  refine rg_take (i := 0) (N := some 24) (v := ?_) (a' := ?_) #[true, false, false, false, false, false, false, false, false, false, false, false, false, false, false, false] rfl rfl (by kernel_rfl) (fun _ _ _ h => h) (Or.inl ⟨by rfl, ?_⟩) hHeld ?_ ?_
  rotate_left
  · rintro w' ⟨hs0, hs1, hs2⟩
    go_simp
    with_reducible rfl
  rotate_left
  · simp only [Act.put, List.setIfInBounds_toArray, List.set_cons_zero, List.set_cons_succ]
    rfl
  refine rg_take (i := 1) (N := some 25) (v := ?_) (a' := ?_) #[true, true, false, false, false, false, false, false, false, false, false, false, false, false, false, false] rfl rfl (by kernel_rfl) (fun _ _ _ h => h) (Or.inl ⟨by rfl, ?_⟩) hHeld ?_ ?_
  rotate_left
  · rintro w' ⟨hs0, hs1, hs2⟩
    go_simp
    with_reducible rfl
  rotate_left
  · simp only [Act.put, List.setIfInBounds_toArray, List.set_cons_zero, List.set_cons_succ]
    rfl
  refine rg_take (i := 2) (N := some 26) (v := ?_) (a' := ?_) #[true, true, true, false, false, false, false, false, false, false, false, false, false, false, false, false] rfl rfl (by kernel_rfl) (fun _ _ _ h => h) (Or.inl ⟨by rfl, ?_⟩) hHeld ?_ ?_
  rotate_left
  · rintro w' ⟨hs0, hs1, hs2⟩
    go_simp
    with_reducible rfl
  rotate_left
  · simp only [Act.put, List.setIfInBounds_toArray, List.set_cons_zero, List.set_cons_succ]
    rfl
  refine rg_take (i := 4) (N := some 28) (v := ?_) (a' := ?_) #[true, true, true, false, true, false, false, false, false, false, false, false, false, false, false, false] rfl rfl (by kernel_rfl) (fun _ _ _ h => h) (Or.inl ⟨by rfl, ?_⟩) hHeld ?_ ?_
  rotate_left
  · rintro w' ⟨hs0, hs1, hs2⟩
    go_simp
    with_reducible rfl
  rotate_left
  · simp only [Act.put, List.setIfInBounds_toArray, List.set_cons_zero, List.set_cons_succ]
    rfl
  refine rg_take (i := 5) (N := some 29) (v := ?_) (a' := ?_) #[true, true, true, false, true, true, false, false, false, false, false, false, false, false, false, false] rfl rfl (by kernel_rfl) (fun _ _ _ h => h) (Or.inl ⟨by rfl, ?_⟩) hHeld ?_ ?_
  rotate_left
  · rintro w' ⟨hs0, hs1, hs2⟩
    go_simp
    with_reducible rfl
  rotate_left
  · simp only [Act.put, List.setIfInBounds_toArray, List.set_cons_zero, List.set_cons_succ]
    rfl
  refine rg_take (i := 6) (N := some 30) (v := ?_) (a' := ?_) #[true, true, true, false, true, true, true, false, false, false, false, false, false, false, false, false] rfl rfl (by kernel_rfl) (fun _ _ _ h => h) (Or.inl ⟨by rfl, ?_⟩) hHeld ?_ ?_
  rotate_left
  · rintro w' ⟨hs0, hs1, hs2⟩
    go_simp
    with_reducible rfl
  rotate_left
  · simp only [Act.put, List.setIfInBounds_toArray, List.set_cons_zero, List.set_cons_succ]
    rfl
  refine rg_take (i := 7) (N := some 31) (v := ?_) (a' := ?_) #[true, true, true, false, true, true, true, true, false, false, false, false, false, false, false, false] rfl rfl (by kernel_rfl) (fun _ _ _ h => h) (Or.inl ⟨by rfl, ?_⟩) hHeld ?_ ?_
  rotate_left
  · rintro w' ⟨hs0, hs1, hs2⟩
    go_simp
    with_reducible rfl
  rotate_left
  · simp only [Act.put, List.setIfInBounds_toArray, List.set_cons_zero, List.set_cons_succ]
    rfl
  refine rg_take (i := 8) (N := some 32) (v := ?_) (a' := ?_) #[true, true, true, false, true, true, true, true, true, false, false, false, false, false, false, false] rfl rfl (by kernel_rfl) (fun _ _ _ h => h) (Or.inl ⟨by rfl, ?_⟩) hHeld ?_ ?_
  rotate_left
  · rintro w' ⟨hs0, hs1, hs2⟩
    go_simp
    with_reducible rfl
  rotate_left
  · simp only [Act.put, List.setIfInBounds_toArray, List.set_cons_zero, List.set_cons_succ]
    rfl
  refine rg_take (i := 9) (N := some 33) (v := ?_) (a' := ?_) #[true, true, true, false, true, true, true, true, true, true, false, false, false, false, false, false] rfl rfl (by kernel_rfl) (fun _ _ _ h => h) (Or.inl ⟨by rfl, ?_⟩) hHeld ?_ ?_
  rotate_left
  · rintro w' ⟨hs0, hs1, hs2⟩
    go_simp
    with_reducible rfl
  rotate_left
  · simp only [Act.put, List.setIfInBounds_toArray, List.set_cons_zero, List.set_cons_succ]
    rfl
  refine rg_call (i := 3) (N := some 27) (f := 31) (args := ?_) #[true, true, true, true, true, true, true, true, true, true, false, false, false, false, false, false] rfl rfl (by kernel_rfl) Try.func31 (by kernel_rfl) rfl (by rfl) rfl ?_ ?_
  rotate_left
  · (try simp only [List.map_toArray, List.map_cons, List.map_nil]); rfl
  refine (bytes_any sd.hc).mono ?_
  rintro e w4 ⟨vb, rfl, hr4, hc4, hu4⟩
  have s4 := sd.call hc4 hu4
  have e6 := hu4.cell (by simpa using sd.ne.symm) e5
  refine ⟨_, rfl, ⟨s4.k0, s4.k1, e6⟩, fun hHeld => ?_⟩
  refine rg_norm (a' := ?_) ?_ ?_
  rotate_left
  · show Act.put _ (some 27) _ = _
    simp only [Act.put, List.setIfInBounds_toArray, List.set_cons_zero, List.set_cons_succ]
    rfl
  refine rg_call (i := 10) (N := some 34) (f := 82) (args := ?_) #[true, true, true, true, true, true, true, true, true, true, true, false, false, false, false, false] rfl rfl (by kernel_rfl) Try.func82 (by kernel_rfl) rfl (by rfl) rfl ?_ ?_
  rotate_left
  · (try simp only [List.map_toArray, List.map_cons, List.map_nil]); rfl
  refine (unpack_any hr4 (Nat.le_trans (Cur.bytesR_le _ _) sd.hc.len) (by omega) (by omega)).mono ?_
  rintro e w5 ⟨vl, rfl, ho5, hu5⟩
  have s5 := s4.old hu5
  have e7 := hu5.cell (by simp) e6
  refine ⟨_, rfl, ⟨s5.k0, s5.k1, e7⟩, fun hHeld => ?_⟩
  refine rg_norm (a' := ?_) ?_ ?_
  rotate_left
  · show Act.put _ (some 34) _ = _
    simp only [Act.put, List.setIfInBounds_toArray, List.set_cons_zero, List.set_cons_succ]
    rfl
  refine rg_take (i := 11) (N := some 23) (v := ?_) (a' := ?_) #[true, true, true, true, true, true, true, true, true, true, true, true, false, false, false, false] rfl rfl (by kernel_rfl) (fun _ _ _ h => h) (Or.inl ⟨by rfl, ?_⟩) hHeld ?_ ?_
  rotate_left
  · rintro w' ⟨hs0, hs1, hs2⟩
    go_simp
    with_reducible rfl
  rotate_left
  · simp only [Act.put, List.setIfInBounds_toArray, List.set_cons_zero, List.set_cons_succ]
    rfl
  refine rg_take (i := 12) (N := some 35) (v := ?_) (a' := ?_) #[true, true, true, true, true, true, true, true, true, true, true, true, true, false, false, false] rfl rfl (by kernel_rfl) (fun _ _ _ h => h) (Or.inl ⟨by rfl, ?_⟩) hHeld ?_ ?_
  rotate_left
  · rintro w' ⟨hs0, hs1, hs2⟩
    go_simp
    with_reducible rfl
  rotate_left
  · simp only [Act.put, List.setIfInBounds_toArray, List.set_cons_zero, List.set_cons_succ]
    rfl
  refine rg_take (i := 13) (N := some 36) (v := ?_) (a' := ?_) #[true, true, true, true, true, true, true, true, true, true, true, true, true, true, false, false] rfl rfl (by kernel_rfl) (fun _ _ _ h => h) (Or.inl ⟨by rfl, ?_⟩) hHeld ?_ ?_
  rotate_left
  · rintro w' ⟨hs0, hs1, hs2⟩
    go_simp
    with_reducible rfl
  rotate_left
  · simp only [Act.put, List.setIfInBounds_toArray, List.set_cons_zero, List.set_cons_succ]
    rfl
  refine rg_take (i := 14) (N := some 3) (v := ?_) (a' := ?_) #[true, true, true, true, true, true, true, true, true, true, true, true, true, true, true, false] rfl rfl (by kernel_rfl) (fun _ _ _ h => h) (Or.inl ⟨by rfl, ?_⟩) hHeld ?_ ?_
  rotate_left
  · rintro w' ⟨hs0, hs1, hs2⟩
    go_simp
    with_reducible rfl
  rotate_left
  · simp only [Act.put, List.setIfInBounds_toArray, List.set_cons_zero, List.set_cons_succ]
    rfl
  refine rg_take (i := 15) (N := some 4) (v := ?_) (a' := ?_) #[true, true, true, true, true, true, true, true, true, true, true, true, true, true, true, true] rfl rfl (by kernel_rfl) (fun _ _ _ h => h) (Or.inl ⟨by rfl, ?_⟩) hHeld ?_ ?_
  rotate_left
  · rintro w' ⟨hs0, hs1, hs2⟩
    go_simp
    with_reducible rfl
  rotate_left
  · simp only [Act.put, List.setIfInBounds_toArray, List.set_cons_zero, List.set_cons_succ]
    rfl
  refine rg_done (by kernel_rfl) ?_
  have k2 := s5.k0
  have k3 := s5.k1
  have tok2_0 : True := trivial
  go_wp2_with (first | (have _t := tok2_0; go_at_call 51; refine (need_any _ 6 s5.hc).mono ?_; rintro e w6 ⟨rfl, hc6, hu6⟩; have s6 := s5.call hc6 hu6; have k4 := s6.k0; have k5 := s6.k1; have e8 := s6.hm.cell 13 (by decide); have f8 := s6.hm.froz 13; have ho6 := RdL.upd' ho5.rd hu6 (s5.hc.safe _ (by decide)); obtain ⟨A, cp, rfl, _, _⟩ := RdG.shape ho6; clear _t tok2_0))
  go_end0
  exact hpost _ _ s6 ho6
theorem zero_pair (w : World) : (zeroValue 92).run Try.prog w = .ok (.agg #[.nilFunc, .nilFunc]) w := by kernel_rfl
theorem form_zero : (Try.prog.info? 91).map (·.zero) = some (some (.agg #[.pointer none, .pointer none])) := by kernel_rfl
theorem build_pair (f1 f2 : Fn) (x1 x2 y1 y2 : Array Value) (w : World) : (Instr.build 92 #[(0, .func f1 x1 y1), (1, .func f2 x2 y2)]).run Try.prog w = .ok (.agg #[.func f1 x1 y1, .func f2 x2 y2]) w := by kernel_rfl
theorem build_form (x y : Option Addr) (w : World) : (Instr.build 91 #[(0, .pointer x), (1, .pointer y)]).run Try.prog w = .ok (.agg #[.pointer x, .pointer y]) w := by kernel_rfl
theorem form_size : (Try.prog.info? 91).map (·.size) = some 2 := by kernel_rfl
theorem pair_size : (Try.prog.info? 92).map (·.size) = some 2 := by kernel_rfl
theorem pair_zero : (Try.prog.info? 92).map (·.zero) = some (some (.agg #[.nilFunc, .nilFunc])) := by kernel_rfl
def finish (M : Msg) (c : Cur) : Msg × Int := if c.endC.e = 0 then (M, 0) else (Msg.zero, c.endC.e)
def PFormG (g gm : Nat) (c : Cur) (M : Msg) (w : World) (e : Ending) (w' : World) : Prop := e = .returned (.tuple #[]) ∧ CurAt w' g c ∧ (∃ cs, MsgB w' gm cs ∧ MsgRd true w' cs.toList M) ∧ Upd [g, gm] w w'
theorem finish_ok {M : Msg} {c : Cur} {w W : World} {cs : Array Value} (h0 : c.endC.e = 0) (h : MsgRd true W cs.toList M) (hu : Upd [] w W) : PMsg (finish M c) w (.returned (.tuple #[.agg cs, .int .i64 0])) W := by
  unfold finish
  rw [if_pos h0]
  exact ⟨cs, rfl, h, hu⟩
theorem finish_bad {M : Msg} {c : Cur} {w W : World} (h0 : ¬ c.endC.e = 0) (hu : Upd [] w W) : PMsg (finish M c) w (.returned (.tuple #[.agg msgZ, .int .i64 c.endC.e])) W := by
  unfold finish
  rw [if_neg h0]
  exact ⟨msgZ, rfl, MsgRd.zero .., hu⟩
theorem bad_res {x : Int} {w W : World} (hu : Upd [] w W) : PMsg (Msg.zero, x) w (.returned (.tuple #[.agg msgZ, .int .i64 x])) W := ⟨msgZ, rfl, MsgRd.zero .., hu⟩
theorem findNow_no {q : IntKind} {n : Int} : ∀ (l : List MapEntry) (i : Nat), (∀ e, e ∈ l → ∃ k, e.key = .int q k ∧ k ≠ n) → Instr.findNow (.int q) (.int q n) l i = some none
  | [], _, _ => rfl
  | e :: l, i, h => by
    obtain ⟨k, hk, hn⟩ := h e (by simp)
    have : (n == k) = false := by simpa using fun h => hn h.symm
    simp only [Instr.findNow, hk, Instr.sameNow, this, if_true]
    exact findNow_no l (i + 1) fun e he => h e (by simp [he])
end Go.Proofs.Ytbaeecmamacphaa
