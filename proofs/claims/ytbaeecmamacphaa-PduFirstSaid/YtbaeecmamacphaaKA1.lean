/- Contracts of functions, part KA1. -/
import Derived.Test.YtbaeecmamacphaaProg
import Derived.WalkKit
import Derived.WalkSpells
import Derived.WalkLawsBesides
import Derived.Maps.AppendAt
import Derived.Deep.Draws
import Derived.Laws.AppendOwnNone
import Derived.StillTailTactics
import Derived.Deep.RegionHeld3
import Derived.Deep.AppendLies
import Derived.Lib.Hide
import Derived.Laws.ShiftsVarLaws
import Derived.Deep.OwnRows
import Derived.ChangeMaps4
import Derived.Deep.MidRow
set_option linter.unusedVariables false
set_option linter.unusedSimpArgs false
namespace Go.Proofs.Ytbaeecmamacphaa
open Go.RowKit
structure Upd (S : List Nat) (w w' : World) : Prop where
  os : w'.os = w.os
  tape : w'.tape = w.tape
  output : w'.output = w.output
  size : w.heap.size ≤ w'.heap.size
  block : ∀ k, k < w.heap.size → k ∉ S → w'.heap[k]? = w.heap[k]?
theorem Upd.refl (S : List Nat) (w : World) : Upd S w w := ⟨rfl, rfl, rfl, Nat.le_refl _, fun _ _ _ => rfl⟩
theorem Upd.trans' {S S' : List Nat} {a b c : World} (h : Upd S a b) (k : Upd S' b c) (hS : ∀ x, x ∈ S' → x ∈ S ∨ a.heap.size ≤ x) : Upd S a c :=
  ⟨k.os.trans h.os, k.tape.trans h.tape, k.output.trans h.output, Nat.le_trans h.size k.size, fun i hi hn =>
    (k.block i (Nat.lt_of_lt_of_le hi h.size) (fun hx => by rcases hS i hx with h1 | h1; exact hn h1; omega)).trans (h.block i hi hn)⟩
theorem Upd.trans {S : List Nat} {a b c : World} (h : Upd S a b) (k : Upd S b c) : Upd S a c := h.trans' k fun _ hx => .inl hx
theorem Upd.step {S : List Nat} {a b c : World} (h : Upd S a b) (k : Upd [] b c) : Upd S a c := h.trans' k fun _ hx => by simp at hx
theorem Upd.mono {S S' : List Nat} {a b : World} (h : Upd S a b) (hS : ∀ x, x ∈ S → x ∈ S' ∨ a.heap.size ≤ x) : Upd S' a b := (Upd.refl S' a).trans' h hS
theorem Upd.fresh {S S' : List Nat} {a b c : World} (h : Upd S a b) (k : Upd S' b c) (hS : ∀ x, x ∈ S' → a.heap.size ≤ x) : Upd S a c := h.trans' k fun x hx => .inr (hS x hx)
theorem Upd.fresh1 {S : List Nat} {a b c : World} {x : Nat} (h : Upd S a b) (k : Upd [x] b c) (hx : a.heap.size ≤ x) : Upd S a c := h.fresh k fun y hy => by simp at hy; subst hy; exact hx
theorem Upd.fresh2 {S : List Nat} {a b c : World} {x y : Nat} (h : Upd S a b) (k : Upd [x, y] b c) (hx : a.heap.size ≤ x) (hy : a.heap.size ≤ y) : Upd S a c := h.fresh k fun z hz => by
  simp at hz
  rcases hz with rfl | rfl
  · exact hx
  · exact hy
theorem Upd.of_below {w w' : World} (h : Below w.heap.size w w') : Upd [] w w' := ⟨h.os, h.tape, h.output, h.size, fun k hk _ => h.block k hk⟩
theorem Upd.below {w w' : World} (h : Upd [] w w') : Below w.heap.size w w' := ⟨h.os, h.tape, h.output, h.size, fun k hk => h.block k hk (by simp)⟩
theorem Upd.of_grown {w w' : World} {row : Option Nat} (h : w.grownBy w' row) (S : List Nat) (hr : ∀ k, row = some k → k ∈ S ∨ w.heap.size ≤ k) : Upd S w w' :=
  ⟨h.os, h.tape, h.output, h.size, fun k hk hn => h.block k hk (fun e => by rcases hr k e.symm with h1 | h1; exact hn h1; omega)⟩
theorem Upd.alloc {S : List Nat} {a w : World} (h : Upd S a w) (o : Obj) : Upd S a (w.alloc o) :=
  h.step ⟨rfl, rfl, rfl, by simp, fun k hk _ => Below.heap_alloc _ _ _ hk⟩
theorem Upd.drew {S : List Nat} {a w : World} (h : Upd S a w) : Upd S a w.drew := ⟨h.os, h.tape, h.output, h.size, h.block⟩
theorem Upd.drewN {S : List Nat} {a w : World} (h : Upd S a w) (n : Nat) : Upd S a (w.drewN n) := ⟨h.os, h.tape, h.output, h.size, h.block⟩
theorem Upd.setCell {S : List Nat} {a w : World} (h : Upd S a w) {p : Addr} (hp : p.block ∈ S ∨ a.heap.size ≤ p.block) (u : Value) : Upd S a (w.setCell p u) :=
  h.trans' (S' := [p.block]) ⟨rfl, rfl, rfl, by simp [World.setCell], fun k hk hn => Below.heap_setCell _ _ _ _ (by simpa using hn)⟩ (fun x hx => by simp at hx; subst hx; exact hp)
theorem Upd.cell {S : List Nat} {w w' : World} (h : Upd S w w') {p : Addr} {v : Value} (hp : p.block ∉ S) (hc : w.cell? p = some v) : w'.cell? p = some v :=
  (World.cell?_of_block (h.block p.block (World.block_lt_of_cell? w p hc) hp)).trans hc
theorem Upd.froz {S : List Nat} {w w' : World} (h : Upd S w w') {p : Addr} {b : Bool} (hp : p.block ∉ S) (hl : p.block < w.heap.size) (hc : w.frozen? p = b) : w'.frozen? p = b :=
  (World.frozen?_of_block (h.block p.block hl hp)).trans hc
theorem Upd.blk {S : List Nat} {w w' : World} (h : Upd S w w') {g : Nat} {o : Obj} (hg : g ∉ S) (hb : w.heap[g]? = some o) : w'.heap[g]? = some o :=
  (h.block g (Array.getElem?_eq_some_iff.1 hb).1 hg).trans hb
theorem blk_lt {w : World} {g : Nat} {o : Obj} (h : w.heap[g]? = some o) : g < w.heap.size := (Array.getElem?_eq_some_iff.1 h).1
theorem blk_cell {w : World} {g : Nat} {t : TypeId} {cs : Array Value} {fr : Nat × Nat} (h : w.heap[g]? = some (.cells cs t fr)) (i : Nat) : w.cell? ⟨g, i, none⟩ = cs[i]? := by simp [World.cell?, h]
theorem blk_frozen {w : World} {g : Nat} {t : TypeId} {cs : Array Value} (h : w.heap[g]? = some (.cells cs t (0, 0))) (i : Nat) : w.frozen? ⟨g, i, none⟩ = false := by simp [World.frozen?, h]
theorem blk_new (w : World) (o : Obj) : (w.alloc o).heap[w.heap.size]? = some o := by show (w.heap.push o)[_]? = _; simp
theorem blk_old {w : World} {g : Nat} {o : Obj} (h : w.heap[g]? = some o) (o' : Obj) : (w.alloc o').heap[g]? = some o := (Below.heap_alloc _ _ _ (blk_lt h)).trans h
theorem blk_set {w : World} {g : Nat} {t : TypeId} {cs : Array Value} {fr : Nat × Nat} (h : w.heap[g]? = some (.cells cs t fr)) (i : Nat) (u : Value) :
    (w.setCell ⟨g, i, none⟩ u).heap[g]? = some (.cells (cs.setIfInBounds i u) t fr) := by
  simp [World.setCell, Array.getElem?_modify, h]
theorem blk_far {w : World} {g : Nat} {o : Obj} (h : w.heap[g]? = some o) {p : Addr} (hp : g ≠ p.block) (u : Value) : (w.setCell p u).heap[g]? = some o :=
  (Below.heap_setCell _ _ _ _ hp).trans h
theorem blk_ne {w : World} {g g' : Nat} {t t' : TypeId} {cs cs' : Array Value} {fr fr' : Nat × Nat} (h : w.heap[g]? = some (.cells cs t fr)) (h' : w.heap[g']? = some (.cells cs' t' fr')) (hne : t ≠ t') : g ≠ g' := by
  rintro rfl
  rw [h] at h'
  injection h' with h'
  injection h' with _ ht
  exact hne ht
def Safe (m : Bool) (D : List TypeId) (S : List Nat) (w : World) : Prop :=
  ∀ s, s ∈ S → w.heap.size ≤ s ∨ (m = true ∧ ∃ cells t fr, w.heap[s]? = some (.cells cells t fr) ∧ t ∉ D)
theorem Safe.nil (m : Bool) (D : List TypeId) (w : World) : Safe m D [] w := fun s hs => by simp at hs
theorem Safe.one {D : List TypeId} {g : Nat} {w : World} {cells : Array Value} {t : TypeId} {fr : Nat × Nat} (h : w.heap[g]? = some (.cells cells t fr)) (ht : t ∉ D) : Safe true D [g] w :=
  fun s hs => by simp at hs; subst hs; exact .inr ⟨rfl, _, _, _, h, ht⟩
theorem Safe.two {D : List TypeId} {g g' : Nat} {w : World} {cells cells' : Array Value} {t t' : TypeId} {fr fr' : Nat × Nat} (h : w.heap[g]? = some (.cells cells t fr)) (ht : t ∉ D)
    (h' : w.heap[g']? = some (.cells cells' t' fr')) (ht' : t' ∉ D) : Safe true D [g, g'] w :=
  fun s hs => by
    simp at hs
    rcases hs with rfl | rfl
    · exact .inr ⟨rfl, _, _, _, h, ht⟩
    · exact .inr ⟨rfl, _, _, _, h', ht'⟩
theorem Safe.sub {m : Bool} {D D' : List TypeId} {S : List Nat} {w : World} (h : Safe m D S w) (hD : ∀ t, t ∈ D' → t ∈ D) : Safe m D' S w :=
  fun s hs => (h s hs).imp_right fun ⟨a, c, t, fr, b, n⟩ => ⟨a, c, t, fr, b, fun hx => n (hD t hx)⟩
theorem Safe.fresh {m : Bool} {D : List TypeId} {S : List Nat} {w : World} (h : ∀ s, s ∈ S → w.heap.size ≤ s) : Safe m D S w := fun s hs => .inl (h s hs)
def okT (m : Bool) (e t : TypeId) : Prop := m = true → t = e
def RdG {α : Type} (m : Bool) (e : TypeId) (sz : Nat) (R : World → α → List Value → Prop) (w : World) (v : Value) (xs : List α) : Prop :=
  ∃ A c, v = .slice A xs.length c ∧ xs.length ≤ c ∧ c ≤ maxLen ∧ (A = none → c = 0) ∧ (0 < xs.length → ∃ b off cells t fr, A = some ⟨b, off, none⟩ ∧ w.heap[b]? = some (.cells cells t fr) ∧ okT m e t ∧
    ∀ (j : Nat) (x : α), xs[j]? = some x → ∃ cs : List Value, cs.length = sz ∧ R w x cs ∧ ∀ i u, cs[i]? = some u → cells[off + j * sz + i]? = some u)
theorem RdG.upd {α : Type} {m : Bool} {e : TypeId} {sz : Nat} {R : World → α → List Value → Prop} {w w' : World} {v : Value} {xs : List α} {S : List Nat}
    (h : RdG m e sz R w v xs) (hu : Upd S w w') (hs : Safe m [e] S w) (hR : ∀ x cs, R w x cs → R w' x cs) : RdG m e sz R w' v xs := by
  obtain ⟨A, c, rfl, h1, h2, h0, h3⟩ := h
  refine ⟨A, c, rfl, h1, h2, h0, fun hp => ?_⟩
  obtain ⟨b, off, cells, t, fr, rfl, hb, ht, hx⟩ := h3 hp
  refine ⟨b, off, cells, t, fr, rfl, ?_, ht, fun j x hj => ?_⟩
  · refine hu.blk (fun hbs => ?_) hb
    rcases hs b hbs with h4 | ⟨rfl, cells', t', fr', h5, h6⟩
    · have := blk_lt hb; omega
    · rw [hb] at h5
      injection h5 with h5
      injection h5 with _ h7 _
      exact h6 (by rw [← h7, ht rfl]; simp)
  · obtain ⟨cs, hl, hr, hc⟩ := hx j x hj
    exact ⟨cs, hl, hR _ _ hr, hc⟩
theorem RdG.any {α : Type} {m : Bool} {e : TypeId} {sz : Nat} {R R' : World → α → List Value → Prop} {w : World} {v : Value} {xs : List α} (h : RdG m e sz R w v xs) (hR : ∀ x cs, R w x cs → R' w x cs) : RdG false e sz R' w v xs := by
  obtain ⟨A, c, rfl, h1, h2, h0, h3⟩ := h
  refine ⟨A, c, rfl, h1, h2, h0, fun hp => ?_⟩
  obtain ⟨b, off, cells, t, fr, rfl, hb, ht, hx⟩ := h3 hp
  exact ⟨b, off, cells, t, fr, rfl, hb, (fun h => by cases h), fun j x hj => by obtain ⟨cs, hl, hr, hc⟩ := hx j x hj; exact ⟨cs, hl, hR _ _ hr, hc⟩⟩
theorem RdG.nil {α : Type} (m : Bool) (e : TypeId) (sz : Nat) (R : World → α → List Value → Prop) (w : World) : RdG m e sz R w (.slice none 0 0) [] :=
  ⟨none, 0, rfl, Nat.le_refl _, by unfold maxLen; omega, fun _ => rfl, fun h => by simp at h⟩
theorem RdG.empty {α : Type} (m : Bool) (e : TypeId) (sz : Nat) (R : World → α → List Value → Prop) (w : World) (A : Option Addr) (c : Nat) (hc : c ≤ maxLen) (hA : A = none → c = 0) : RdG m e sz R w (.slice A 0 c) [] :=
  ⟨A, c, rfl, Nat.zero_le _, hc, hA, fun h => by simp at h⟩
def u8R (_ : World) (x : Int) (cs : List Value) : Prop := cs = [.int .u8 x] ∧ 0 ≤ x ∧ x < 256
def u16R (_ : World) (x : Int) (cs : List Value) : Prop := cs = [.int .u16 x] ∧ 0 ≤ x ∧ x < 65536
def boolR (_ : World) (x : Bool) (cs : List Value) : Prop := cs = [.bool x]
abbrev RdB (m : Bool) (w : World) (v : Value) (xs : List Int) : Prop := RdG m 5 1 u8R w v xs
abbrev RdW (m : Bool) (w : World) (v : Value) (xs : List Int) : Prop := RdG m 23 1 u16R w v xs
abbrev RdL (m : Bool) (w : World) (v : Value) (xs : List Bool) : Prop := RdG m 4 1 boolR w v xs
theorem RdB.upd' {m : Bool} {w w' : World} {v : Value} {xs : List Int} {S : List Nat} (h : RdB m w v xs) (hu : Upd S w w') (hs : Safe m [5] S w) : RdB m w' v xs := RdG.upd h hu hs fun _ _ h => h
theorem RdW.upd' {m : Bool} {w w' : World} {v : Value} {xs : List Int} {S : List Nat} (h : RdW m w v xs) (hu : Upd S w w') (hs : Safe m [23] S w) : RdW m w' v xs := RdG.upd h hu hs fun _ _ h => h
theorem RdL.upd' {m : Bool} {w w' : World} {v : Value} {xs : List Bool} {S : List Nat} (h : RdL m w v xs) (hu : Upd S w w') (hs : Safe m [4] S w) : RdL m w' v xs := RdG.upd h hu hs fun _ _ h => h
theorem RdB.old {m : Bool} {w w' : World} {v : Value} {xs : List Int} (h : RdB m w v xs) (hu : Upd [] w w') : RdB m w' v xs := h.upd' hu (Safe.nil _ _ _)
theorem RdW.old {m : Bool} {w w' : World} {v : Value} {xs : List Int} (h : RdW m w v xs) (hu : Upd [] w w') : RdW m w' v xs := h.upd' hu (Safe.nil _ _ _)
theorem RdL.old {m : Bool} {w w' : World} {v : Value} {xs : List Bool} (h : RdL m w v xs) (hu : Upd [] w w') : RdL m w' v xs := h.upd' hu (Safe.nil _ _ _)
theorem RdG.take {α : Type} {m : Bool} {e : TypeId} {sz : Nat} {R : World → α → List Value → Prop} {w : World} {A : Option Addr} {c : Nat} {n : Nat} {xs : List α}
    (h : RdG m e sz R w (.slice A n c) xs) (k : Nat) (hk : k ≤ xs.length) : RdG m e sz R w (.slice A k c) (xs.take k) := by
  obtain ⟨A', c', hv, h1, h2, h0, h3⟩ := h
  injection hv with e1 e2 e3
  subst e1 e3
  have hl : (xs.take k).length = k := by simp; omega
  refine ⟨A, c, by rw [hl], by omega, h2, h0, fun hp => ?_⟩
  obtain ⟨b, off, cells, t, fr, rfl, hb, ht, hx⟩ := h3 (by omega)
  refine ⟨b, off, cells, t, fr, rfl, hb, ht, fun j x hj => hx j x ?_⟩
  rw [List.getElem?_take] at hj
  split at hj
  · exact hj
  · cases hj
theorem add_mk (b off n : Nat) (sp : Option Nat) (h : sp = none) : (⟨b, off, sp⟩ : Addr).add n = ⟨b, off + n, none⟩ := by
  subst h
  unfold Addr.add
  split
  · rename_i h; subst h; rfl
  · rfl
theorem RdG.drop {α : Type} {m : Bool} {e : TypeId} {sz : Nat} {R : World → α → List Value → Prop} {w : World} {A : Option Addr} {c : Nat} {n : Nat} {xs : List α}
    (h : RdG m e sz R w (.slice A n c) xs) (k : Nat) (hk : k ≤ xs.length) : RdG m e sz R w (.slice (if c = k then A else A.map (·.add (k * sz))) (xs.length - k) (c - k)) (xs.drop k) := by
  obtain ⟨A', c', hv, h1, h2, h0, h3⟩ := h
  injection hv with e1 e2 e3
  subst e1 e3
  have hl : (xs.drop k).length = xs.length - k := by simp
  refine ⟨_, _, by rw [hl], by omega, by omega, fun hA => ?_, fun hp => ?_⟩
  · split at hA
    · omega
    · have := h0 (by cases A <;> simp_all)
      omega
  obtain ⟨b, off, cells, t, fr, rfl, hb, ht, hx⟩ := h3 (by omega)
  refine ⟨b, off + k * sz, cells, t, fr, ?_, hb, ht, fun j x hj => ?_⟩
  · rw [if_neg (by omega)]
    simp [add_mk]
  · obtain ⟨cs, h4, h5, h6⟩ := hx (k + j) x (by rw [List.getElem?_drop] at hj; exact hj)
    refine ⟨cs, h4, h5, fun i u hi => ?_⟩
    have := h6 i u hi
    rw [Nat.add_mul] at this
    rw [← this]
    congr 1
    omega
theorem RdG.shape {α : Type} {m : Bool} {e : TypeId} {sz : Nat} {R : World → α → List Value → Prop} {w : World} {v : Value} {xs : List α} (h : RdG m e sz R w v xs) :
    ∃ A c, v = .slice A xs.length c ∧ xs.length ≤ c ∧ c ≤ maxLen := by
  obtain ⟨A, c, h0, h1, h2, _⟩ := h
  exact ⟨A, c, h0, h1, h2⟩
theorem RdB.at_ {m : Bool} {w : World} {A : Option Addr} {n c : Nat} {xs : List Int} (h : RdB m w (.slice A n c) xs) (j : Nat) (hj : j < xs.length) :
    ∃ b off, A = some ⟨b, off, none⟩ ∧ w.cell? ⟨b, off + j, none⟩ = some (.int .u8 (xs.getD j 0)) ∧ 0 ≤ xs.getD j 0 ∧ xs.getD j 0 < 256 := by
  obtain ⟨A', c', hv, h1, h2, h0, h3⟩ := h
  injection hv with e1 e2 e3
  subst e1 e3
  obtain ⟨b, off, cells, t, fr, rfl, hb, ht, hx⟩ := h3 (by omega)
  have hg : xs[j]? = some (xs.getD j 0) := by simp [List.getD_eq_getElem?_getD, List.getElem?_eq_getElem hj]
  obtain ⟨cs, h4, ⟨rfl, h5, h6⟩, h7⟩ := hx j _ hg
  refine ⟨b, off, rfl, ?_, h5, h6⟩
  rw [blk_cell hb]
  have := h7 0 _ (by simp; rfl)
  simpa using this
theorem RdW.at_ {m : Bool} {w : World} {A : Option Addr} {n c : Nat} {xs : List Int} (h : RdW m w (.slice A n c) xs) (j : Nat) (hj : j < xs.length) :
    ∃ b off, A = some ⟨b, off, none⟩ ∧ w.cell? ⟨b, off + j, none⟩ = some (.int .u16 (xs.getD j 0)) ∧ 0 ≤ xs.getD j 0 ∧ xs.getD j 0 < 65536 := by
  obtain ⟨A', c', hv, h1, h2, h0, h3⟩ := h
  injection hv with e1 e2 e3
  subst e1 e3
  obtain ⟨b, off, cells, t, fr, rfl, hb, ht, hx⟩ := h3 (by omega)
  have hg : xs[j]? = some (xs.getD j 0) := by simp [List.getD_eq_getElem?_getD, List.getElem?_eq_getElem hj]
  obtain ⟨cs, h4, ⟨rfl, h5, h6⟩, h7⟩ := hx j _ hg
  refine ⟨b, off, rfl, ?_, h5, h6⟩
  rw [blk_cell hb]
  have := h7 0 _ (by simp; rfl)
  simpa using this
theorem RdL.at_ {m : Bool} {w : World} {A : Option Addr} {n c : Nat} {xs : List Bool} (h : RdL m w (.slice A n c) xs) (j : Nat) (hj : j < xs.length) :
    ∃ b off, A = some ⟨b, off, none⟩ ∧ w.cell? ⟨b, off + j, none⟩ = some (.bool (xs.getD j false)) := by
  obtain ⟨A', c', hv, h1, h2, h0, h3⟩ := h
  injection hv with e1 e2 e3
  subst e1 e3
  obtain ⟨b, off, cells, t, fr, rfl, hb, ht, hx⟩ := h3 (by omega)
  have hg : xs[j]? = some (xs.getD j false) := by simp [List.getD_eq_getElem?_getD, List.getElem?_eq_getElem hj]
  obtain ⟨cs, h4, rfl, h7⟩ := hx j _ hg
  refine ⟨b, off, rfl, ?_⟩
  rw [blk_cell hb]
  have := h7 0 _ (by simp; rfl)
  simpa using this
def OwnG {α : Type} (base : Nat) (e : TypeId) (sz : Nat) (R : World → α → List Value → Prop) (w : World) (v : Value) (xs : List α) : Prop :=
  ∃ cells : List Value, w.ownsRow base e sz v xs.length cells ∧ ∀ (j : Nat) (x : α), xs[j]? = some x → ∃ cs : List Value, cs.length = sz ∧ R w x cs ∧ ∀ i u, cs[i]? = some u → cells[j * sz + i]? = some u
abbrev OwnB (base : Nat) (w : World) (v : Value) (xs : List Int) : Prop := OwnG base 5 1 u8R w v xs
abbrev OwnW (base : Nat) (w : World) (v : Value) (xs : List Int) : Prop := OwnG base 23 1 u16R w v xs
abbrev OwnL (base : Nat) (w : World) (v : Value) (xs : List Bool) : Prop := OwnG base 4 1 boolR w v xs
theorem OwnG.rd {α : Type} {base : Nat} {e : TypeId} {sz : Nat} {R : World → α → List Value → Prop} {w : World} {v : Value} {xs : List α} (h : OwnG base e sz R w v xs) : RdG true e sz R w v xs := by
  obtain ⟨cells, ⟨hl, ho⟩, hx⟩ := h
  rcases ho with ⟨rfl, h0⟩ | ⟨g, cap, cur, rfl, hb, hh, h1, h2, h3, h4⟩
  · obtain rfl := List.eq_nil_of_length_eq_zero h0
    exact RdG.nil ..
  · refine ⟨_, _, rfl, h1, h2, (fun hA => by cases hA), fun hp => ⟨g, 0, cur, e, (0, 0), rfl, hh, fun _ => rfl, fun j x hj => ?_⟩⟩
    obtain ⟨cs, h5, h6, h7⟩ := hx j x hj
    refine ⟨cs, h5, h6, fun i u hi => ?_⟩
    have h8 := h7 i u hi
    rw [← h4, List.getElem?_take] at h8
    split at h8
    · simpa using h8
    · cases h8
theorem OwnG.nil {α : Type} (base : Nat) (e : TypeId) (sz : Nat) (R : World → α → List Value → Prop) (w : World) : OwnG base e sz R w (.slice none 0 0) [] :=
  ⟨[], ⟨by simp, .inl ⟨rfl, rfl⟩⟩, fun j x h => by simp at h⟩
theorem ownsRow_blk {w w' : World} {base : Nat} {e : TypeId} {sz n : Nat} {v : Value} {xs : List Value} (h : w.ownsRow base e sz v n xs) (hb : ∀ g, v.ownBlock = some g → w'.heap[g]? = w.heap[g]?) : w'.ownsRow base e sz v n xs := by
  obtain ⟨h0, h1⟩ := h
  refine ⟨h0, ?_⟩
  rcases h1 with h1 | ⟨g, cap, cur, rfl, h2, h3, h4⟩
  · exact .inl h1
  · exact .inr ⟨g, cap, cur, rfl, h2, (hb g rfl).trans h3, h4⟩
theorem OwnG.upd {α : Type} {base : Nat} {e : TypeId} {sz : Nat} {R : World → α → List Value → Prop} {w w' : World} {v : Value} {xs : List α} {S : List Nat}
    (h : OwnG base e sz R w v xs) (hu : Upd S w w') (hs : Safe true [e] S w) (hR : ∀ x cs, R w x cs → R w' x cs) : OwnG base e sz R w' v xs := by
  obtain ⟨cells, ho, hx⟩ := h
  refine ⟨cells, ownsRow_blk ho fun g hg => ?_, fun j x hj => ?_⟩
  · rcases ho.2 with ⟨rfl, _⟩ | ⟨g', cap, cur, rfl, hb, hh, _⟩
    · simp [Value.ownBlock] at hg
    · have : g' = g := by simpa [Value.ownBlock] using hg
      subst this
      refine hu.block _ (blk_lt hh) fun hgs => ?_
      rcases hs _ hgs with h4 | ⟨_, cells', t', fr', h5, h6⟩
      · have := blk_lt hh; omega
      · rw [hh] at h5
        injection h5 with h5
        injection h5 with _ h7 _
        exact h6 (by rw [← h7]; simp)
  · obtain ⟨cs, hl, hr, hc⟩ := hx j x hj
    exact ⟨cs, hl, hR _ _ hr, hc⟩
theorem OwnG.weaken {α : Type} {base base' : Nat} {e : TypeId} {sz : Nat} {R : World → α → List Value → Prop} {w : World} {v : Value} {xs : List α} (h : OwnG base e sz R w v xs) (hb : base' ≤ base) : OwnG base' e sz R w v xs := by
  obtain ⟨cells, ⟨h0, h1⟩, h2⟩ := h
  refine ⟨cells, ⟨h0, ?_⟩, h2⟩
  rcases h1 with h1 | ⟨g, cap, cur, h3, h4, h5⟩
  · exact .inl h1
  · exact .inr ⟨g, cap, cur, h3, Nat.le_trans hb h4, h5⟩
theorem cell_news {m : Bool} {e : TypeId} {α : Type} {R : World → α → List Value → Prop} {enc : α → Value} {w : World} {a : Addr} {n c : Nat} {xs : List α} (hR : ∀ w x cs, R w x cs → cs = [enc x]) (h : RdG m e 1 R w (.slice (some a) n c) xs) :
    n = xs.length ∧ ∀ j u, (xs.map enc)[j]? = some u → w.cell? (a.add j) = some u := by
  obtain ⟨A, c', hv, h1, h2, h0, h3⟩ := h
  injection hv with e1 e2 e3
  subst e1 e2 e3
  refine ⟨rfl, fun j u hj => ?_⟩
  rw [List.getElem?_map] at hj
  obtain ⟨x, hx, rfl⟩ := Option.map_eq_some_iff.1 hj
  have hl : j < xs.length := (List.getElem?_eq_some_iff.1 hx).1
  obtain ⟨b, off, cells, t, fr, hA, hb, ht, hcs⟩ := h3 (by omega)
  injection hA with hA
  subst hA
  obtain ⟨cs, h4, h5, h6⟩ := hcs j x hx
  obtain rfl := hR _ _ _ h5
  rw [add_mk _ _ _ _ rfl, blk_cell hb]
  have := h6 0 _ (by simp; rfl)
  simpa using this
theorem own_of_row {e : TypeId} {α : Type} {R : World → α → List Value → Prop} {enc : α → Value} {w : World} {base : Nat} {v : Value} {xs : List α} (hR : ∀ x, x ∈ xs → R w x [enc x]) (h : w.ownsRow base e 1 v xs.length (xs.map enc)) : OwnG base e 1 R w v xs := by
  refine ⟨_, h, fun j x hj => ⟨[enc x], rfl, hR _ (List.mem_of_getElem? hj), fun i u hi => ?_⟩⟩
  have : i = 0 := by
    rcases Nat.eq_zero_or_pos i with h0 | h0
    · exact h0
    · rw [List.getElem?_eq_none (by simp; omega)] at hi; cases hi
  subst this
  simp at hi
  subst hi
  simp [hj]
theorem row_of_own {e : TypeId} {α : Type} {R : World → α → List Value → Prop} {enc : α → Value} {w : World} {base : Nat} {v : Value} {xs : List α} (hR : ∀ w x cs, R w x cs → cs = [enc x]) (h : OwnG base e 1 R w v xs) : w.ownsRow base e 1 v xs.length (xs.map enc) := by
  obtain ⟨cells, ho, hx⟩ := h
  have : cells = xs.map enc := by
    apply List.ext_getElem?
    intro j
    rcases Nat.lt_or_ge j xs.length with hj | hj
    · have hg : xs[j]? = some xs[j] := List.getElem?_eq_getElem hj
      obtain ⟨cs, h1, h2, h3⟩ := hx j _ hg
      obtain rfl := hR _ _ _ h2
      have h4 := h3 0 _ (by simp; rfl)
      simp at h4
      simp [h4, hg]
    · rw [List.getElem?_eq_none (by rw [ho.1]; omega), List.getElem?_eq_none (by simp; omega)]
  rw [← this]
  exact ho
theorem RdG.mem {α : Type} {m : Bool} {e : TypeId} {R : World → α → List Value → Prop} {w : World} {v : Value} {xs : List α} {sz : Nat} (h : RdG m e sz R w v xs) : ∀ x, x ∈ xs → ∃ cs, R w x cs := by
  intro x hx
  obtain ⟨A, c, rfl, _, _, _, h3⟩ := h
  obtain ⟨j, hj⟩ := List.getElem?_of_mem hx
  obtain ⟨b, off, cells, t, fr, _, _, _, h4⟩ := h3 (by have := List.length_pos_of_mem hx; omega)
  obtain ⟨cs, _, h5, _⟩ := h4 j x hj
  exact ⟨cs, h5⟩
theorem OwnG.mem {α : Type} {e : TypeId} {R : World → α → List Value → Prop} {w : World} {v : Value} {xs : List α} {sz base : Nat} (h : OwnG base e sz R w v xs) : ∀ x, x ∈ xs → ∃ cs, R w x cs := h.rd.mem
theorem RdB.rng {m : Bool} {w : World} {v : Value} {xs : List Int} (h : RdB m w v xs) : ∀ x, x ∈ xs → 0 ≤ x ∧ x < 256 := fun x hx => by obtain ⟨cs, h1⟩ := h.mem x hx; exact h1.2
theorem RdW.rng {m : Bool} {w : World} {v : Value} {xs : List Int} (h : RdW m w v xs) : ∀ x, x ∈ xs → 0 ≤ x ∧ x < 65536 := fun x hx => by obtain ⟨cs, h1⟩ := h.mem x hx; exact h1.2
structure One {α : Type} (R : World → α → List Value → Prop) (enc : α → Value) : Prop where
  cell : ∀ w x cs, R w x cs → cs = [enc x]
  any : ∀ w w' x cs, R w x cs → R w' x [enc x]
  one : ∀ x, (enc x).oneCell' = true
theorem one_u8 : One u8R (Value.int .u8) := ⟨fun _ _ _ h => h.1, fun _ _ _ _ h => ⟨rfl, h.2⟩, fun _ => rfl⟩
theorem one_u16 : One u16R (Value.int .u16) := ⟨fun _ _ _ h => h.1, fun _ _ _ _ h => ⟨rfl, h.2⟩, fun _ => rfl⟩
theorem one_bool : One boolR Value.bool := ⟨fun _ _ _ h => h, fun _ _ _ _ h => rfl, fun _ => rfl⟩
theorem run_append {α : Type} {R : World → α → List Value → Prop} {enc : α → Value} (hR : One R enc) {P : Program} {w : World}
    (base : Nat) (t ty e : TypeId) (z : Value) (bytes : Nat) (ht : P.underlying t = some (.slice e)) (hinfo : (P.info? e).map (fun i => (i.zero, i.size, i.bytes)) = some (some z, 1, bytes)) (hz : z.cells.size = 1)
    (v : Value) (xs : List α) (HO : OwnG base e 1 R w v xs) {m : Bool} {e' : TypeId} (u : Value) (ys : List α) (HY : RdG m e' 1 R w u ys)
    (hl : xs.length + ys.length ≤ 4194304) (hby : bytes ≤ 65536) (hbase : base ≤ w.heap.size) :
    ∃ v' w', (Builtin.append_ #[t, t] ty #[v, u]).run P w = .ok v' w' ∧ OwnG base e 1 R w' v' (xs ++ ys) ∧ (∀ S w0, Upd S w0 w → w0.heap.size ≤ base → Upd S w0 w') := by
  obtain ⟨i0, hi, hz0, hz1, hz2⟩ := info_parts hinfo
  obtain ⟨A, c, hu, hc1, hc2⟩ := HY.shape
  subst hu
  cases A with
  | none =>
    obtain ⟨A, c', hv, _, _, h0, h3⟩ := HY
    injection hv with e1 e2 e3
    subst e1 e3
    obtain rfl : ys = [] := by
      rcases Nat.eq_zero_or_pos ys.length with h0 | h0
      · exact List.eq_nil_of_length_eq_zero h0
      · obtain ⟨b, off, cells, t, fr, hh, _⟩ := h3 h0
        cases hh
    obtain rfl := h0 rfl
    exact ⟨v, w, run_append_owned_none (P := P) (w := w) base t ty e i0 1 ht hi v xs.length (xs.map enc) (row_of_own hR.cell HO), by simpa using HO, fun _ _ h _ => h⟩
  | some ad =>
    obtain ⟨_, hnews⟩ := cell_news hR.cell HY
    have hmul : (xs.length + ys.length) * bytes ≤ 140737488355328 := Nat.le_trans (Nat.mul_le_mul hl hby) (by decide)
    obtain ⟨v', w', hr, hown, hg, _, _⟩ := run_append_own_at (P := P) (w := w) base t ty e i0 z 1 bytes ht hi hz0 hz1 hz2 hz (by decide) v xs.length (xs.map enc) (row_of_own hR.cell HO) ad ys.length c (ys.map enc) (by simp) hnews
      (fun u hu => by obtain ⟨y, _, rfl⟩ := List.mem_map.1 hu; exact hR.one y) (by unfold maxLen; omega) hmul hbase
    refine ⟨v', w', hr, own_of_row (enc := enc) (fun y hy => ?_) (by simpa using hown), fun S w0 hu hb => ?_⟩
    · rcases List.mem_append.1 hy with hy | hy
      · obtain ⟨cs, h1⟩ := HO.mem y hy; exact hR.any _ _ _ _ h1
      · obtain ⟨cs, h1⟩ := HY.mem y hy; exact hR.any _ _ _ _ h1
    · refine hu.trans' (Upd.of_grown hg (v.ownBlock.toList) fun k hk => .inl (by simp [hk])) fun k hk => .inr ?_
      have hk' : v.ownBlock = some k := by cases hvb : v.ownBlock <;> simp_all
      obtain ⟨cells, ho', _⟩ := HO
      rcases ho'.2 with ⟨rfl, _⟩ | ⟨g, cap, cur, rfl, hb', _⟩
      · simp [Value.ownBlock] at hk'
      · have : g = k := by simpa [Value.ownBlock] using hk'
        omega
theorem wp_append {α : Type} {R : World → α → List Value → Prop} {enc : α → Value} (hR : One R enc) {P : Program} {w : World} {ops : Array Oper} {rest : List Oper} {o : Oper} {a : Act} {Q : Exit → Act → World → Prop}
    (base : Nat) (hgd : o.guard = none) (s x : Operand) (t e : TypeId) (z : Value) (bytes : Nat)
    (ho : o.op = .call { callee := .builtin .append, args := #[s, x], argTypes := #[t, t] })
    (ht : P.underlying t = some (.slice e)) (hinfo : (P.info? e).map (fun i => (i.zero, i.size, i.bytes)) = some (some z, 1, bytes)) (hz : z.cells.size = 1)
    (v : Value) (xs : List α) (hs : a.eval s = v) (HO : OwnG base e 1 R w v xs) {m : Bool} {e' : TypeId} (u : Value) (ys : List α) (hx : a.eval x = u) (HY : RdG m e' 1 R w u ys)
    (hl : xs.length + ys.length ≤ 4194304) (hby : bytes ≤ 65536) (hbase : base ≤ w.heap.size)
    (h : ∀ v' w', OwnG base e 1 R w' v' (xs ++ ys) → (∀ S w0, Upd S w0 w → w0.heap.size ≤ base → Upd S w0 w') → wpList P ops Q rest (a.put o.dst v') w') :
    wpList P ops Q (o :: rest) a w := by
  obtain ⟨v', w', hr, h1, h2⟩ := run_append hR (P := P) (w := w) base t o.type e z bytes ht hinfo hz v xs HO u ys HY hl hby hbase
  refine wpList_plain hgd fun K hK => ?_
  unfold Oper.wp execOp
  simp only [ho, resolve, invoke, builtin, Sem.run_bind, Sem.run_pure, Result.andThen_ok, List.map_toArray, List.map_cons, List.map_nil, hs, hx, hr]
  exact hK _ _ (h v' w' h1 h2)
theorem step_append {α : Type} {R : World → α → List Value → Prop} {enc : α → Value} (hR : One R enc) {P : Program} {w : World} {ops : Array Oper} {o : Oper} {a : Act} {K : Act → World → Prop} {Q : Exit → Act → World → Prop} {E : Prop}
    (base : Nat) (hgd : o.guard = none) (s x : Operand) (t e : TypeId) (z : Value) (bytes : Nat)
    (ho : o.op = .call { callee := .builtin .append, args := #[s, x], argTypes := #[t, t] })
    (ht : P.underlying t = some (.slice e)) (hinfo : (P.info? e).map (fun i => (i.zero, i.size, i.bytes)) = some (some z, 1, bytes)) (hz : z.cells.size = 1)
    (v : Value) (xs : List α) (hs : a.eval s = v) (HO : OwnG base e 1 R w v xs) {m : Bool} {e' : TypeId} (u : Value) (ys : List α) (hx : a.eval x = u) (HY : RdG m e' 1 R w u ys)
    (hl : xs.length + ys.length ≤ 4194304) (hby : bytes ≤ 65536) (hbase : base ≤ w.heap.size)
    (h : ∀ v' w', OwnG base e 1 R w' v' (xs ++ ys) → (∀ S w0, Upd S w0 w → w0.heap.size ≤ base → Upd S w0 w') → K (a.put o.dst v') w') :
    if Region.wanted o (yielded ops a.tmps) = true then Oper.wp P o a w K Q else E := by
  obtain ⟨v', w', hr, h1, h2⟩ := run_append hR (P := P) (w := w) base t o.type e z bytes ht hinfo hz v xs HO u ys HY hl hby hbase
  rw [if_pos (by simp [Region.wanted, hgd])]
  unfold Oper.wp execOp
  simp only [ho, resolve, invoke, builtin, Sem.run_bind, Sem.run_pure, Result.andThen_ok, List.map_toArray, List.map_cons, List.map_nil, hs, hx, hr]
  exact h v' w' h1 h2
theorem cut_from {P : Program} (t e : TypeId) (sz : Nat) {i : TypeInfo} (ht : P.underlying t = some (.slice e)) (hi : P.info? e = some i) (hsz : i.size = sz) (A : Option Addr) (n c k : Nat) (hk : k ≤ n) :
    ∃ A' : Option Addr, (∀ (kl : IntKind) (W : World), (Instr.slice t (.slice A n c) (some (.int kl (k : Int))) none none).run P W = .ok (.slice A' (n - k) (c - k)) W) ∧
      ∀ {α : Type} (m : Bool) (e' : TypeId) (R : World → α → List Value → Prop) (w : World) (xs : List α), RdG m e' sz R w (.slice A n c) xs → RdG m e' sz R w (.slice A' (n - k) (c - k)) (xs.drop k) := by
  refine ⟨if c = k then A else A.map (·.add (k * sz)), fun kl W => ?_, fun m e' R w xs h => ?_⟩
  · have hel : P.elem t = e := by simp [Program.elem, ht]
    have hu : P.underlying t = some (.slice (P.elem t)) := by rw [hel]; exact ht
    rw [run_slice_l W t A n c hu kl (k : Int) (Int.natCast_nonneg _) (by omega), hel]
    simp [sizeOf, typeInfo, hi, hsz, sliced, Result.andThen]
  · obtain ⟨A', c', hv, _⟩ := h.shape
    injection hv with e1 e2 e3
    subst e2
    exact h.drop k hk
theorem cut_lh {P : Program} (t e : TypeId) (sz : Nat) {i : TypeInfo} (ht : P.underlying t = some (.slice e)) (hi : P.info? e = some i) (hsz : i.size = sz) (A : Option Addr) (n c k h : Nat) (hk : k ≤ h) (hh : h ≤ n) (hc : n ≤ c) :
    ∃ A' : Option Addr, (∀ (kl kh : IntKind) (W : World), (Instr.slice t (.slice A n c) (some (.int kl (k : Int))) (some (.int kh (h : Int))) none).run P W = .ok (.slice A' (h - k) (c - k)) W) ∧
      ∀ {α : Type} (m : Bool) (e' : TypeId) (R : World → α → List Value → Prop) (w : World) (xs : List α), RdG m e' sz R w (.slice A n c) xs → RdG m e' sz R w (.slice A' (h - k) (c - k)) ((xs.take h).drop k) := by
  refine ⟨if c = k then A else A.map (·.add (k * sz)), fun kl kh W => ?_, fun m e' R w xs hr => ?_⟩
  · have hel : P.elem t = e := by simp [Program.elem, ht]
    have hu : P.underlying t = some (.slice (P.elem t)) := by rw [hel]; exact ht
    rw [run_slice_lh W t A n c hu kl kh (k : Int) (h : Int) (Int.natCast_nonneg _) (by omega) (by omega), hel]
    simp [sizeOf, typeInfo, hi, hsz, sliced, Result.andThen]
  · obtain ⟨A', c', hv, _⟩ := hr.shape
    injection hv with e1 e2 e3
    subst e2
    have h2 := (hr.take h hh).drop k (by simp; omega)
    have h3 : (xs.take h).length - k = h - k := by simp; omega
    rw [h3] at h2
    exact h2
theorem wp_still_tail {P : Program} {id : Nat} {Q : Exit → Act → World → Prop} {a : Act} {w : World} {l : List Oper} (n : Nat) (hm : P.follows .mixedOrders = true) (hB : Region.lexTailB .any l.toArray n = true)
    (h : ∀ w2 : World, Upd [] w w2 → wpStill P l.toArray w2 (fun a' => wpList P l.toArray Q (l.drop n) a' w2) (l.take n) a) : (Code.region id l.toArray true).wp P Q a w :=
  wp_region_still_tail n hm hB (h _ ⟨rfl, rfl, rfl, Nat.le_refl _, fun _ _ _ => rfl⟩)
theorem wpStill_off {P : Program} {ops : Array Oper} {w : World} {Q : Act → Prop} {a : Act} {o : Oper} {rest : List Oper} (h : Region.wanted o (yielded ops a.tmps) = false) (k : wpStill P ops w Q rest (a.put o.dst undef)) : wpStill P ops w Q (o :: rest) a := by
  unfold wpStill
  rw [h]
  simpa using k
section
variable {P : Program} {ops : Array Oper} {Q : Exit → Act → World → Prop} {S : World → Prop}
theorem rg_start {id n : Nat} {a : Act} {w : World} (l : Array Bool) (hm : P.follows .mixedOrders = true) (hn : ops.size = n) (hl : Array.replicate n false = l) (hS : S w.drew)
    (h : S w.drew → wpAnyH P .any ops Q S n l a w.drew) : (Code.region id ops true).wp P Q a w := by
  subst hn
  subst hl
  exact wp_region_held hm (h hS)
def tkB (ops : Array Oper) (l l' : Array Bool) (i : Nat) : Bool :=
  Region.noSelect ops && Region.free .any ops l i && (Region.ready .any ops l).contains i && (l.setIfInBounds i true == l')
theorem rg_take {i : Nat} {N : Option Tmp} {oi : Oper} {v : Value} {fuel : Nat} {l : Array Bool} {a : Act} {w : World} (l' : Array Bool) (hi : ops[i]? = some oi) (hN : oi.dst = N) (hc : tkB ops l l' i = true)
    (hQ : ∀ c a w, Q (.panic c) (a.put oi.dst v) w → Q (.panic c) a w) (hy : YieldsIf P ops S oi v a) (hS : S w) {a' : Act} (ha : a.put N v = a')
    (h : wpAnyH P .any ops Q S fuel l' a' w) : wpAnyH P .any ops Q S (fuel + 1) l a w := by
  subst ha
  subst hN
  simp only [tkB, Bool.and_eq_true, beq_iff_eq] at hc
  obtain ⟨⟨⟨h1, h2⟩, h3⟩, h4⟩ := hc
  subst h4
  exact wpAnyH_take hi h1 h2 h3 hQ hy hS h
def rdB (ops : Array Oper) (l l' : Array Bool) (i : Nat) : Bool := (Region.ready .any ops l == [i]) && (l.setIfInBounds i true == l')
theorem rg_one {i : Nat} {N : Option Tmp} {oi : Oper} {fuel : Nat} {l : Array Bool} {a : Act} {w : World} (l' : Array Bool) (hi : ops[i]? = some oi) (hN : oi.dst = N) (hc : rdB ops l l' i = true)
    (hw : Region.wanted oi (yielded ops a.tmps) = true) (h : oi.wp P a w (fun a' w' => S w' ∧ wpAnyH P .any ops Q S fuel l' a' w') Q) : wpAnyH P .any ops Q S (fuel + 1) l a w := by
  simp only [rdB, Bool.and_eq_true, beq_iff_eq] at hc
  obtain ⟨h1, h2⟩ := hc
  subst h2
  refine wpAnyH_all h1 (by simp) fun j hj => ?_
  obtain rfl : j = i := by simpa using hj
  unfold wpOp
  simp only [hi]
  rw [if_pos hw]
  exact .inl h
theorem rg_call {i : Nat} {N : Option Tmp} {oi : Oper} {fuel : Nat} {l : Array Bool} {a : Act} {w : World} {f : FuncId} {fn : Func} {opds : Array Operand} {ts : Array TypeId} {args : Array Value} (l' : Array Bool) (hi : ops[i]? = some oi) (hN : oi.dst = N) (hc : rdB ops l l' i = true)
    (hf : P.funcs[f]? = some fn) (hname : (fn.name == "runtime.NumGoroutine") = false) (hb : fn.body.isSome = true) (hw : Region.wanted oi (yielded ops a.tmps) = true)
    (hop : oi.op = .call { callee := .value (.func f), args := opds, argTypes := ts }) (hargs : opds.map a.eval = args)
    (h : Calls P f args w fun e w' => ∃ v, e = .returned v ∧ S w' ∧ (S w' → wpAnyH P .any ops Q S fuel l' (a.put N v) w')) : wpAnyH P .any ops Q S (fuel + 1) l a w := by
  refine rg_one l' hi hN hc hw ?_
  have h1 : fn.name ≠ "runtime.NumGoroutine" := by simpa using hname
  obtain ⟨cd, hcd⟩ := Option.isSome_iff_exists.1 hb
  have hrun : (execOp a.eval oi).run P w = .ok (.enter f args) w := by
    unfold execOp
    simp [hop, resolve, Deferred.ofValue, invoke, Act.eval, hargs, callFunc, hf, h1, hcd]
  unfold Oper.wp
  rw [hrun, Oper.upon_enter]
  refine h.mono fun e w'' hh => ?_
  obtain ⟨v, rfl, h2, h3⟩ := hh
  subst hN
  exact ⟨h2, h3 h2⟩
theorem rg_val {i : Nat} {N : Option Tmp} {oi : Oper} {fuel : Nat} {l : Array Bool} {a : Act} {w w1 : World} {v : Value} (l' : Array Bool) (hi : ops[i]? = some oi) (hN : oi.dst = N) (hc : rdB ops l l' i = true)
    (hw : Region.wanted oi (yielded ops a.tmps) = true) (hrun : (execOp a.eval oi).run P w = .ok (.value v) w1) (hS : S w1) (h : S w1 → wpAnyH P .any ops Q S fuel l' (a.put N v) w1) : wpAnyH P .any ops Q S (fuel + 1) l a w := by
  refine rg_one l' hi hN hc hw ?_
  subst hN
  unfold Oper.wp
  rw [hrun]
  exact ⟨hS, h hS⟩
theorem rg_store {i : Nat} {oi : Oper} {fuel : Nat} {l : Array Bool} {a : Act} {w w1 : World} (l' : Array Bool) (hi : ops[i]? = some oi) (hN : oi.dst = none) (hc : rdB ops l l' i = true)
    (hw : Region.wanted oi (yielded ops a.tmps) = true) (hrun : (execOp a.eval oi).run P w = .ok .skip w1) (hS : S w1) (h : S w1 → wpAnyH P .any ops Q S fuel l' a w1) : wpAnyH P .any ops Q S (fuel + 1) l a w := by
  refine rg_one l' hi hN hc hw ?_
  unfold Oper.wp
  rw [hrun]
  show S w1 ∧ wpAnyH P .any ops Q S fuel l' (a.put oi.dst undef) w1
  rw [hN]
  exact ⟨hS, h hS⟩
theorem rg_app {α : Type} {R : World → α → List Value → Prop} {enc : α → Value} {i : Nat} {N : Option Tmp} {oi : Oper} {fuel : Nat} {l : Array Bool} {a : Act} {w : World} (l' : Array Bool) (hi : ops[i]? = some oi) (hN : oi.dst = N) (hc : rdB ops l l' i = true)
    (hw : Region.wanted oi (yielded ops a.tmps) = true) (hR : One R enc)
    (base : Nat) (s x : Operand) (t e : TypeId) (z : Value) (bytes : Nat)
    (ho : oi.op = .call { callee := .builtin .append, args := #[s, x], argTypes := #[t, t] })
    (ht : P.underlying t = some (.slice e)) (hinfo : (P.info? e).map (fun i => (i.zero, i.size, i.bytes)) = some (some z, 1, bytes)) (hz : z.cells.size = 1)
    (v : Value) (xs : List α) (hs : a.eval s = v) (HO : OwnG base e 1 R w v xs) {m : Bool} {e' : TypeId} (u : Value) (ys : List α) (hx : a.eval x = u) (HY : RdG m e' 1 R w u ys)
    (hl : xs.length + ys.length ≤ 4194304) (hby : bytes ≤ 65536) (hbase : base ≤ w.heap.size)
    (h : ∀ v' w', OwnG base e 1 R w' v' (xs ++ ys) → (∀ S w0, Upd S w0 w → w0.heap.size ≤ base → Upd S w0 w') → S w' ∧ (S w' → wpAnyH P .any ops Q S fuel l' (a.put N v') w')) : wpAnyH P .any ops Q S (fuel + 1) l a w := by
  obtain ⟨v', w', hr, h1, h2⟩ := run_append hR (P := P) (w := w) base t oi.type e z bytes ht hinfo hz v xs HO u ys HY hl hby hbase
  refine rg_one l' hi hN hc hw ?_
  subst hN
  unfold Oper.wp execOp
  simp only [ho, resolve, invoke, builtin, Sem.run_bind, Sem.run_pure, Result.andThen_ok, List.map_toArray, List.map_cons, List.map_nil, hs, hx, hr]
  obtain ⟨h3, h4⟩ := h v' w' h1 h2
  exact ⟨h3, h4 h3⟩
theorem rg_norm {fuel : Nat} {l : Array Bool} {a a' : Act} {w : World} (ha : a = a') (h : wpAnyH P .any ops Q S fuel l a' w) : wpAnyH P .any ops Q S fuel l a w := by
  subst ha
  exact h
theorem rg_done {l : Array Bool} {a : Act} {w : World} {n : Nat} (hr : (Region.ready .any ops l == []) = true) (h : Q .normal a w) : wpAnyH P .any ops Q S n l a w := wpAnyH_done (by simpa using hr) h n
end
theorem rd_lit {α : Type} {R : World → α → List Value → Prop} {enc : α → Value} (w : World) (e : TypeId) (xs : List α) (hR : ∀ x, x ∈ xs → R (w.alloc (.cells (xs.map enc).toArray e)) x [enc x]) (hl : xs.length ≤ 4194304) :
    OwnG w.heap.size e 1 R (w.alloc (.cells (xs.map enc).toArray e)) (.slice (some ⟨w.heap.size, 0, none⟩) xs.length xs.length) xs := by
  refine own_of_row (enc := enc) hR ⟨by simp, .inr ⟨w.heap.size, xs.length, _, rfl, Nat.le_refl _, blk_new w _, Nat.le_refl _, by unfold maxLen; omega, by simp, by simp [List.take_of_length_le]⟩⟩
def PClone (xs : List Int) (w : World) (e : Ending) (w' : World) : Prop := ∃ v, e = .returned v ∧ OwnB w.heap.size w' v xs ∧ Upd [] w w'
theorem u8_info : (Try.prog.info? 5).map (fun i => (i.zero, i.size, i.bytes)) = some (some (.int .u8 0), 1, 1) := by kernel_rfl
theorem u16_info : (Try.prog.info? 23).map (fun i => (i.zero, i.size, i.bytes)) = some (some (.int .u16 0), 1, 2) := by kernel_rfl
theorem clone_any {m : Bool} {v : Value} {xs : List Int} {w : World} (h : RdB m w v xs) (hn : xs.length ≤ 1048576) : Calls Try.prog 49 #[v] w (PClone xs w) := by
  have hh := h
  obtain ⟨A, c, rfl, hc1, hc2⟩ := h.shape
  have qT : ∀ (w : World) (a : Option Addr) (n c n' c' : Nat), (binOp .eql 22 (.slice a n c) (.slice none n' c')).run Try.prog w = .ok (.bool a.isNone) w := fun w a n c n' c' => Lib.run_eql_slice_nil w _ _ a n c n' c' Try.underlying22
  cases A with
  | none =>
    obtain rfl : xs = [] := by
      obtain ⟨A, c, hv, _, _, _, h3⟩ := hh
      rcases Nat.eq_zero_or_pos xs.length with h0 | h0
      · exact List.eq_nil_of_length_eq_zero h0
      · obtain ⟨b, off, cells, t, fr, rfl, _⟩ := h3 h0
        cases hv
    clear h hh
    go_enter Try.func49, Try.ntmps49
    go_wp2
    go_ret
    exact ⟨_, rfl, OwnG.nil .., Upd.refl _ _⟩
  | some a =>
    have hown := rd_lit (R := u8R) (enc := Value.int .u8) w 5 [] (fun x hx => by cases hx) (by simp)
    have hsrc : RdB m (w.alloc (.cells #[] 5)) (.slice (some a) xs.length c) xs := hh.old ((Upd.refl [] w).alloc _)
    clear h hh
    go_enter Try.func49, Try.ntmps49
    go_wp2_with (at_builtin; refine wp_append one_u8 w.heap.size rfl _ _ 22 5 (.int .u8 0) 1 rfl Try.underlying22 u8_info rfl _ [] rfl hown _ xs rfl hsrc (by simp; omega) (by decide) (by simp) ?_; intro v' w' hown' hupd; clear hown hsrc)
    go_ret
    exact ⟨_, rfl, hown', hupd [] w ((Upd.refl [] w).alloc _) (Nat.le_refl _)⟩
structure Cur where
  l : List Int
  sh : Bool
  e : Int
def Cur.need (c : Cur) (ok : Bool) (x : Int) : Cur := if c.e = 0 ∧ ok = false then { c with e := x } else c
def Cur.fails (c : Cur) (n : Int) : Bool := c.sh || decide (n < 0) || decide ((c.l.length : Int) < n)
def Cur.bytesC (c : Cur) (n : Int) : Cur := if c.fails n then Cur.need { c with l := [], sh := true } false 2 else { c with l := c.l.drop n.toNat }
def Cur.bytesR (c : Cur) (n : Int) : List Int := if c.fails n then [] else c.l.take n.toNat
def curT : TypeId := 83
def CurAt (w : World) (g : Nat) (c : Cur) : Prop :=
  ∃ v, w.heap[g]? = some (.cells #[v, .bool c.sh, .int .i64 c.e] 83 (0, 0)) ∧ RdB true w v c.l ∧ c.l.length ≤ 1048576
theorem CurAt.safe {w : World} {g : Nat} {c : Cur} (h : CurAt w g c) (D : List TypeId) (hD : 83 ∉ D) : Safe true D [g] w := by
  obtain ⟨v, hb, _⟩ := h
  exact Safe.one hb hD
theorem CurAt.lt {w : World} {g : Nat} {c : Cur} (h : CurAt w g c) : g < w.heap.size := by
  obtain ⟨v, hb, _⟩ := h
  exact blk_lt hb
theorem CurAt.len {w : World} {g : Nat} {c : Cur} (h : CurAt w g c) : c.l.length ≤ 1048576 := by
  obtain ⟨v, _, _, h⟩ := h
  exact h
theorem CurAt.upd {w w' : World} {g : Nat} {c : Cur} {S : List Nat} (h : CurAt w g c) (hu : Upd S w w') (hg : g ∉ S) (hs : Safe true [5] S w) : CurAt w' g c := by
  obtain ⟨v, hb, hr, hl⟩ := h
  exact ⟨v, hu.blk hg hb, hr.upd' hu hs, hl⟩
theorem CurAt.old {w w' : World} {g : Nat} {c : Cur} (h : CurAt w g c) (hu : Upd [] w w') : CurAt w' g c := h.upd hu (by simp) (Safe.nil _ _ _)
theorem CurAt.cells {w : World} {g : Nat} {c : Cur} (h : CurAt w g c) : ∃ A cp, w.cell? ⟨g, 0, none⟩ = some (.slice A c.l.length cp) ∧ w.cell? ⟨g, 1, none⟩ = some (.bool c.sh) ∧ w.cell? ⟨g, 2, none⟩ = some (.int .i64 c.e) ∧
    (∀ i, w.frozen? ⟨g, i, none⟩ = false) ∧ c.l.length ≤ cp ∧ cp ≤ maxLen ∧ RdB true w (.slice A c.l.length cp) c.l := by
  obtain ⟨v, hb, hr, hl⟩ := h
  obtain ⟨A, cp, rfl, h1, h2⟩ := hr.shape
  exact ⟨A, cp, by rw [blk_cell hb]; rfl, by rw [blk_cell hb]; rfl, by rw [blk_cell hb]; rfl, fun i => blk_frozen hb i, h1, h2, hr⟩
def PCur (g : Nat) (c' : Cur) (w : World) (e : Ending) (w' : World) : Prop := e = .returned (.tuple #[]) ∧ CurAt w' g c' ∧ Upd [g] w w'
theorem need_any {g : Nat} {c : Cur} {w : World} (ok : Bool) (x : Int) (hc : CurAt w g c) :
    Calls Try.prog 51 #[.pointer (some ⟨g, 0, none⟩), .bool ok, .int .i64 x] w (PCur g (c.need ok x) w) := by
  obtain ⟨A, cp, c0, c1, c2, hf, _⟩ := hc.cells
  have f2 := hf 2
  clear hf
  by_cases h : c.e = 0 ∧ ok = false
  · obtain ⟨he, rfl⟩ := h
    rw [he] at c2
    go_enter Try.func51, Try.ntmps51
    go_wp2
    go_end0
    obtain ⟨v, hb, hr, hl⟩ := hc
    refine ⟨rfl, ?_, (Upd.refl [g] w).setCell (p := ⟨g, 2, none⟩) (.inl (by simp)) _⟩
    have hu : Upd [g] w (w.setCell ⟨g, 2, none⟩ (.int .i64 x)) := (Upd.refl [g] w).setCell (p := ⟨g, 2, none⟩) (.inl (by simp)) _
    refine ⟨v, ?_, by rw [Cur.need, if_pos ⟨he, rfl⟩]; exact hr.upd' hu (Safe.one hb (by decide)), by rw [Cur.need, if_pos ⟨he, rfl⟩]; exact hl⟩
    rw [blk_set hb, Cur.need, if_pos ⟨he, rfl⟩]
    rfl
  · have hpost : PCur g (c.need ok x) w (.returned (.tuple #[])) w := by
      refine ⟨rfl, ?_, Upd.refl _ _⟩
      rw [Cur.need, if_neg h]
      exact hc
    cases ok with
    | true =>
      clear hc h
      go_enter Try.func51, Try.ntmps51
      go_wp2
      all_goals (go_end0; exact hpost)
    | false =>
      have he : (c.e == 0) = false := by simpa using h
      clear hc h
      go_enter Try.func51, Try.ntmps51
      go_wp2
      all_goals (go_end0; exact hpost)
def PBytes (g : Nat) (c : Cur) (n : Int) (w : World) (e : Ending) (w' : World) : Prop := ∃ v, e = .returned v ∧ RdB true w' v (c.bytesR n) ∧ CurAt w' g (c.bytesC n) ∧ Upd [g] w w'
theorem CurAt.short {w : World} {g : Nat} {c : Cur} (h : CurAt w g c) : CurAt ((w.setCell ⟨g, 0, none⟩ (.slice none 0 0)).setCell ⟨g, 1, none⟩ (.bool true)) g { c with l := [], sh := true } := by
  obtain ⟨v, hb, hr, hl⟩ := h
  exact ⟨.slice none 0 0, by rw [blk_set (blk_set hb _ _) _ _]; rfl, RdG.nil .., by simp⟩
theorem bytes_bad {g : Nat} {c : Cur} {w : World} {n : Int} (hc : CurAt w g c) (hf : c.fails n = true) :
    Calls Try.prog 31 #[.pointer (some ⟨g, 0, none⟩), .int .i64 n] w (PBytes g c n w) := by
  obtain ⟨A, cp, c0, c1, c2, hfr, _⟩ := hc.cells
  have f0 := hfr 0
  have f1 := hfr 1
  have hs := hc.short
  have hpost : ∀ w', CurAt w' g (Cur.need { c with l := [], sh := true } false 2) → Upd [g] ((w.setCell ⟨g, 0, none⟩ (.slice none 0 0)).setCell ⟨g, 1, none⟩ (.bool true)) w' → PBytes g c n w (.returned (.slice none 0 0)) w' := by
    intro w' h1 h2
    refine ⟨_, rfl, by rw [Cur.bytesR, if_pos hf]; exact RdG.nil .., by rw [Cur.bytesC, if_pos hf]; exact h1, ?_⟩
    exact (((Upd.refl [g] w).setCell (p := ⟨g, 0, none⟩) (.inl (by simp)) _).setCell (p := ⟨g, 1, none⟩) (.inl (by simp)) _).trans h2
  have hlen : (c.l.length : Int) ≤ 1048576 := by obtain ⟨_, _, _, h⟩ := hc; omega
  clear hfr hc
  simp only [Cur.fails, Bool.or_eq_true, decide_eq_true_eq] at hf
  by_cases h1 : c.sh = true
  · rw [h1] at c1
    clear hf
    go_enter Try.func31, Try.ntmps31
    go_wp2_with (go_at_call 51; refine (need_any false 2 hs).mono ?_; rintro e w' ⟨rfl, hn1, hn2⟩)
    go_ret
    exact hpost _ hn1 hn2
  · simp only [Bool.not_eq_true] at h1
    rw [h1] at c1
    by_cases h2 : n < 0
    · clear hf
      go_enter Try.func31, Try.ntmps31
      go_wp2_with (go_at_call 51; refine (need_any false 2 hs).mono ?_; rintro e w' ⟨rfl, hn1, hn2⟩)
      go_ret
      exact hpost _ hn1 hn2
    · have h3 : (c.l.length : Int) < n := by
        rcases hf with (h | h) | h
        · rw [h1] at h; cases h
        · omega
        · exact h
      clear hf
      go_enter Try.func31, Try.ntmps31
      go_wp2_with (go_at_call 51; refine (need_any false 2 hs).mono ?_; rintro e w' ⟨rfl, hn1, hn2⟩)
      go_ret
      exact hpost _ hn1 hn2
theorem bytes_ok {g : Nat} {c : Cur} {w : World} {n : Int} (hc : CurAt w g c) (hf : c.fails n = false) :
    Calls Try.prog 31 #[.pointer (some ⟨g, 0, none⟩), .int .i64 n] w (PBytes g c n w) := by
  obtain ⟨A, cp, c0, c1, c2, hfr, hcp1, hcp2, hrd⟩ := hc.cells
  have hlen : (c.l.length : Int) ≤ 1048576 := by obtain ⟨_, _, _, h⟩ := hc; omega
  have hf' := hf
  simp only [Cur.fails, Bool.or_eq_false_iff, decide_eq_false_iff_not] at hf
  obtain ⟨⟨h1, h2⟩, h3⟩ := hf
  obtain ⟨k, rfl⟩ := Int.eq_ofNat_of_zero_le (show 0 ≤ n by omega)
  rw [h1] at c1
  have hk : k ≤ c.l.length := by omega
  have hrk := hrd.take k hk
  obtain ⟨i0, hi, _, hz1, _⟩ := info_parts u8_info
  obtain ⟨A', hcut, hdk⟩ := cut_from 22 5 1 Try.underlying22 hi hz1 A c.l.length cp k hk
  have hd := hdk true 5 u8R w c.l hrd
  have hlt := hc.lt
  have f0 := hfr 0
  have hpost : ∀ v' w', OwnB w.heap.size w' v' (c.l.take k) → Upd [] w w' → PBytes g c k w (.returned v') (w'.setCell ⟨g, 0, none⟩ (.slice A' (c.l.length - k) (cp - k))) := by
    intro v' w' h4 h5
    have hu : Upd [g] w' (w'.setCell ⟨g, 0, none⟩ (.slice A' (c.l.length - k) (cp - k))) := (Upd.refl [g] w').setCell (p := ⟨g, 0, none⟩) (.inl (by simp)) _
    have hs := (hc.old h5).safe [5] (by decide)
    refine ⟨_, rfl, ?_, ?_, (Upd.refl [g] w).trans' (h5.mono (S' := [g]) (by simp)) (by simp) |>.trans hu⟩
    · rw [Cur.bytesR, if_neg (by simp [hf'])]
      exact RdB.upd' h4.rd hu hs
    · rw [Cur.bytesC, if_neg (by simp [hf'])]
      obtain ⟨v, hb, _, hl⟩ := hc.old h5
      refine ⟨_, by rw [blk_set hb]; rfl, RdB.upd' (RdB.old hd h5) hu hs, ?_⟩
      simp only [Int.toNat_natCast, List.length_drop]
      omega
  clear hfr hrd hdk hd hi hz1 hf'
  go_enter Try.func31, Try.ntmps31
  go_wp2_with (go_at_call 49; refine (clone_any hrk (by simp; omega)).mono ?_; rintro e w' ⟨v', rfl, hn1, hn2⟩; have d0 := hn2.cell (p := ⟨g, 0, none⟩) (by simp) c0; have g0 := hn2.froz (p := ⟨g, 0, none⟩) (by simp) hlt f0)
  go_ret
  exact hpost _ _ hn1 hn2
theorem bytes_any {g : Nat} {c : Cur} {w : World} {n : Int} (hc : CurAt w g c) : Calls Try.prog 31 #[.pointer (some ⟨g, 0, none⟩), .int .i64 n] w (PBytes g c n w) := by
  cases hf : c.fails n with
  | true => exact bytes_bad hc hf
  | false => exact bytes_ok hc hf
def takeW : List Int → List Int
  | a :: b :: r => (a * 256 + b) :: takeW r
  | _ => []
theorem takeW_length : ∀ xs : List Int, (takeW xs).length = xs.length / 2
  | [] => rfl
  | [_] => by simp [takeW]
  | a :: b :: r => by simp only [takeW, List.length_cons, takeW_length r]; omega
theorem takeW_get : ∀ (xs : List Int) (k : Nat), 2 * k + 1 < xs.length → (takeW xs)[k]? = some (xs.getD (2 * k) 0 * 256 + xs.getD (2 * k + 1) 0)
  | [], k, h => by simp at h
  | [_], k, h => by simp at h
  | a :: b :: r, 0, h => by simp [takeW]
  | a :: b :: r, k + 1, h => by
    have := takeW_get r k (by simp at h; omega)
    simp only [takeW, List.getElem?_cons_succ, this]
    rw [show 2 * (k + 1) = 2 * k + 1 + 1 by omega, show 2 * k + 1 + 1 + 1 = (2 * k + 1) + 1 + 1 by omega]
    simp
theorem takeW_snoc (xs : List Int) (k : Nat) (h : 2 * k + 1 < xs.length) : (takeW xs).take (k + 1) = (takeW xs).take k ++ [xs.getD (2 * k) 0 * 256 + xs.getD (2 * k + 1) 0] := by
  have hg := takeW_get xs k h
  rw [List.take_add_one, hg]
  rfl
theorem or_word {x y : Int} (hx : 0 ≤ x ∧ x < 256) (hy : 0 ≤ y ∧ y < 256) : bits .or .u16 (x * 256) y = x * 256 + y := by
  rw [u16_or _ _ (by omega) (by omega) hy.1 (by omega)]
  obtain ⟨a, rfl⟩ := Int.eq_ofNat_of_zero_le hx.1
  obtain ⟨b, rfl⟩ := Int.eq_ofNat_of_zero_le hy.1
  have h1 : ((a : Int) * 256).toNat = 2 ^ 8 * a := by omega
  rw [h1, Int.toNat_natCast, ← Nat.two_pow_add_eq_or_of_lt (by omega : b < 2 ^ 8) a]
  omega
def wordTake (xs : List Int) : List Int := if xs.length % 2 = 0 then takeW xs else []
def PTake (xs : List Int) (w : World) (e : Ending) (w' : World) : Prop := ∃ v, e = .returned v ∧ OwnW w.heap.size w' v (wordTake xs) ∧ Upd [] w w'
set_option maxRecDepth 100000 in
theorem take_any {m : Bool} {v : Value} {xs : List Int} {w : World} (h : RdB m w v xs) (hn : xs.length ≤ 1048576) : Calls Try.prog 107 #[v] w (PTake xs w) := by
  have hh := h
  obtain ⟨A, c, rfl, hc1, hc2⟩ := h.shape
  by_cases ho : xs.length % 2 = 0
  case neg =>
    have ho' : ((xs.length : Int) % 2 != 0) = true := by simp; omega
    clear h
    go_enter Try.func107, Try.ntmps107
    go_wp2
    go_ret
    refine ⟨_, rfl, ?_, Upd.refl _ _⟩
    rw [wordTake, if_neg ho]
    exact OwnG.nil ..
  case pos =>
    have ho' : ((xs.length : Int) % 2 != 0) = false := by simp; omega
    go_enter Try.func107, Try.ntmps107
    go_wp2
    go_loopw [3, 4] (fun o i wr => ∃ j : Nat, j ≤ xs.length ∧ Hid (j % 2 = 0) ∧ i = .int .i64 (j : Int) ∧ OwnW w.heap.size wr o ((takeW xs).take (j / 2)) ∧ Upd [] w wr) (fun _ i _ => xs.length - (intOf i).toNat)
    case atStart => exact ⟨0, by omega, rfl, rfl, by simpa using OwnG.nil .., Upd.refl _ _⟩
    case round =>
      obtain ⟨j, hj, hj2, rfl, hown, hu⟩ := hrel
      by_cases hlt : j < xs.length
      · obtain ⟨b, off, rfl, cw0, hr0⟩ := RdB.at_ hh j hlt
        obtain ⟨b', off', hbb, cw1, hr1⟩ := RdB.at_ hh (j + 1) (by have := hj2.out; omega)
        injection hbb with hbb
        injection hbb with e1 e2 e3
        subst e1 e2
        clear e3
        have hlt1 : j + 1 < xs.length := by have := hj2.out; omega
        obtain ⟨x0, hx0⟩ : ∃ x, x = xs.getD j 0 := ⟨_, rfl⟩
        obtain ⟨x1, hx1⟩ : ∃ x, x = xs.getD (j + 1) 0 := ⟨_, rfl⟩
        rw [← hx0] at cw0 hr0
        rw [← hx1] at cw1 hr1
        have hc0 := hu.cell (by simp) cw0
        have hc1 := hu.cell (by simp) cw1
        have H0 := Lib.hid hx0
        have H1 := Lib.hid hx1
        clear h hh ho ho' hx0 hx1
        go_wp2
        have hw0 : IntKind.i64.wrap ((j : Int) + 1) = (j : Int) + 1 := IntWalk.i64_in _ (by omega)
        have hw1 : (0 : Int) ≤ (j : Int) + 1 := by omega
        have hw2 : ((j : Int) + 1).toNat = j + 1 := by omega
        have hw3 : (j : Int) + 1 < xs.length := by omega
        have hw4 : IntKind.u16.wrap x0 = x0 := by show x0 % 65536 = x0; omega
        have hw5 : IntKind.u16.wrap x1 = x1 := by show x1 % 65536 = x1; omega
        have hw6 : IntKind.u16.wrap (x0 * 256) = x0 * 256 := by show (x0 * 256) % 65536 = x0 * 256; omega
        have hw7 := or_word hr0 hr1
        have hown2 : ∀ W, Upd [] wr W → OwnW w.heap.size W u3 ((takeW xs).take (j / 2)) := fun W hW => OwnG.upd hown hW (Safe.nil _ _ _) fun _ _ h => h
        have hlit := fun W => (rd_lit (R := u16R) (enc := Value.int .u16) W 23 [x0 * 256 + x1] (fun x hx => by simp at hx; subst hx; exact ⟨rfl, by omega, by omega⟩) (by simp)).rd
        have hlw : ((takeW xs).take (j / 2)).length + [x0 * 256 + x1].length ≤ 4194304 := by rw [List.length_take, takeW_length]; simp; omega
        have hsz := hu.size
        have hdone : ∀ o w', OwnW w.heap.size w' o ((takeW xs).take (j / 2) ++ [x0 * 256 + x1]) → OwnW w.heap.size w' o ((takeW xs).take ((j + 2) / 2)) := by
          intro o w' h
          have e : (j + 2) / 2 = j / 2 + 1 := by omega
          have h2 : 2 * (j / 2) = j := by have := hj2.out; omega
          rw [e, takeW_snoc xs (j / 2) (by omega), h2, ← H0.out, ← H1.out]
          exact h
        go_region_held3 (fun w' => w'.cell? ⟨b, off + j, none⟩ = some (.int .u8 x0) ∧ w'.cell? ⟨b, off + (j + 1), none⟩ = some (.int .u8 x1)) (first | go_keep | (go_split_ands; exact ⟨(hupd [] w ((hu.alloc _).drew) (Nat.le_refl _)).cell (by simp) cw0, (hupd [] w ((hu.alloc _).drew) (Nat.le_refl _)).cell (by simp) cw1⟩)) ((refine step_append one_u16 w.heap.size (by rfl) _ _ 24 23 (.int .u16 0) 2 (by rfl) Try.underlying24 u16_info rfl _ _ (by rfl) (hown2 _ ((Upd.refl [] wr).alloc _).drew) _ [x0 * 256 + x1] (by rfl) (hlit _) hlw (by decide) (by simp; omega) ?_; intro v' w' hown' hupd))
        clear hlit hown2 hc0 hc1 cw0 cw1 hw0 hw1 hw2 hw3 hw4 hw5 hw6 hw7
        go_wp2
        go_roundw
        case rel => exact ⟨j + 2, by omega, by show (j + 2) % 2 = 0; have := hj2.out; omega, by go_num, hdone _ _ hown', hupd [] w ((hu.alloc _).drew) (Nat.le_refl _)⟩
        case measure => simp [intOf]; omega
      · have hj3 : j = xs.length := by omega
        have H3 := Lib.hid hj3
        clear hj3 h hh ho'
        go_wp2
        go_ret
        refine ⟨_, rfl, ?_, hu⟩
        rw [wordTake, if_pos ho]
        rw [H3.out, List.take_of_length_le (by rw [takeW_length]; omega)] at hown
        exact hown
def within (a n : Int) : Bool := decide (0 < n) && decide (n ≤ 65536 - a)
theorem within_any {a n : Int} {w : World} (ha : 0 ≤ a ∧ a < 65536) : Calls Try.prog 108 #[.int .u16 a, .int .i64 n] w fun e w' => e = .returned (.bool (within a n)) ∧ w = w' := by
  have h1 : IntKind.i64.wrap (65536 - a) = 65536 - a := IntWalk.i64_in _ (by omega)
  by_cases h : 0 < n
  · have hd : within a n = decide (n ≤ 65536 - a) := by simp [within, h]
    rw [hd]
    go_enter Try.func108, Try.ntmps108
    go_wp2
    go_ret
    exact ⟨rfl, rfl⟩
  · have hd : within a n = false := by simp [within, h]
    rw [hd]
    go_enter Try.func108, Try.ntmps108
    go_wp2
    go_ret
    exact ⟨rfl, rfl⟩
def Cur.wbad (c : Cur) (n : Int) : Bool := decide (n < 0) || decide ((c.l.length : Int) < n)
def Cur.wordsC (c : Cur) (n : Int) : Cur := if c.wbad n then c.bytesC (-1) else c.bytesC (2 * n)
def Cur.wordsR (c : Cur) (n : Int) : List Int := if c.wbad n then [] else wordTake (c.bytesR (2 * n))
def PWords (g : Nat) (c : Cur) (n : Int) (w : World) (e : Ending) (w' : World) : Prop := ∃ v, e = .returned v ∧ OwnW w.heap.size w' v (c.wordsR n) ∧ CurAt w' g (c.wordsC n) ∧ Upd [g] w w'
theorem Cur.bytesR_le (c : Cur) (n : Int) : (c.bytesR n).length ≤ c.l.length := by
  unfold Cur.bytesR
  split
  · simp
  · simp; omega
theorem numbers_any {g : Nat} {c : Cur} {w : World} {n : Int} (hc : CurAt w g c) :
    Calls Try.prog 79 #[.func (.func 31) #[.pointer (some ⟨g, 0, none⟩)] #[], .int .i64 n, .int .i64 c.l.length] w (PWords g c n w) := by
  have hlen : (c.l.length : Int) ≤ 1048576 := by obtain ⟨_, _, _, h⟩ := hc; omega
  by_cases hb : c.wbad n = true
  · have hpost : ∀ w', CurAt w' g (c.bytesC (-1)) → Upd [g] w w' → PWords g c n w (.returned (.slice none 0 0)) w' := fun w' h1 h2 =>
      ⟨_, rfl, by rw [Cur.wordsR, if_pos hb]; exact OwnG.nil .., by rw [Cur.wordsC, if_pos hb]; exact h1, h2⟩
    simp only [Cur.wbad, Bool.or_eq_true, decide_eq_true_eq] at hb
    by_cases h1 : n < 0
    · clear hb
      go_enter Try.func79, Try.ntmps79
      go_wp2_with (go_at_call 31; refine (bytes_any hc).mono ?_; rintro e w' ⟨v, rfl, _, hn1, hn2⟩)
      go_ret
      exact hpost _ hn1 hn2
    · have h2 : (c.l.length : Int) < n := by omega
      clear hb
      go_enter Try.func79, Try.ntmps79
      go_wp2_with (go_at_call 31; refine (bytes_any hc).mono ?_; rintro e w' ⟨v, rfl, _, hn1, hn2⟩)
      go_ret
      exact hpost _ hn1 hn2
  · have hpost : ∀ v w1 w', OwnW w1.heap.size w' v (wordTake (c.bytesR (2 * n))) → CurAt w1 g (c.bytesC (2 * n)) → Upd [g] w w1 → Upd [] w1 w' → PWords g c n w (.returned v) w' := fun v w1 w' h1 h2 h3 h4 =>
      ⟨_, rfl, by rw [Cur.wordsR, if_neg hb]; exact h1.weaken h3.size, by rw [Cur.wordsC, if_neg hb]; exact h2.old h4, h3.step h4⟩
    simp only [Cur.wbad, Bool.or_eq_true, decide_eq_true_eq, not_or] at hb
    obtain ⟨h1, h2⟩ := hb
    have h3 : IntKind.i64.wrap (2 * n) = 2 * n := IntWalk.i64_in _ (by omega)
    have hle := c.bytesR_le (2 * n)
    go_enter Try.func79, Try.ntmps79
    go_wp2_with (first | (go_at_call 31; refine (bytes_any hc).mono ?_; rintro e w1 ⟨v, rfl, hr1, hn1, hn2⟩) | (go_at_call 107; refine (take_any hr1 (by omega)).mono ?_; rintro e w2 ⟨v2, rfl, ho, hu⟩))
    go_ret
    exact hpost _ _ _ ho hn1 hn2 hu
theorem words_any {g : Nat} {c : Cur} {w : World} {n : Int} (hc : CurAt w g c) :
    Calls Try.prog 50 #[.pointer (some ⟨g, 0, none⟩), .int .i64 n] w (PWords g c n w) := by
  obtain ⟨A, cp, c0, c1, c2, hfr, hcp1, hcp2, hrd⟩ := hc.cells
  clear hfr hrd c1 c2
  go_enter Try.func50, Try.ntmps50
  go_wp2_with (go_at_call 79; refine (numbers_any hc).mono ?_; rintro e w' ⟨v, rfl, hn0, hn1, hn2⟩)
  go_ret
  exact ⟨_, rfl, hn0, hn1, hn2⟩
theorem left_any {g : Nat} {c : Cur} {w : World} (hc : CurAt w g c) :
    Calls Try.prog 32 #[.pointer (some ⟨g, 0, none⟩)] w fun e w' => e = .returned (.int .i64 c.l.length) ∧ w = w' := by
  obtain ⟨A, cp, c0, c1, c2, hfr, hcp1, hcp2, hrd⟩ := hc.cells
  clear hfr hrd c1 c2
  go_enter Try.func32, Try.ntmps32
  go_wp2
  go_ret
  exact ⟨rfl, rfl⟩
theorem err_any {g : Nat} {c : Cur} {w : World} (hc : CurAt w g c) :
    Calls Try.prog 59 #[.pointer (some ⟨g, 0, none⟩)] w fun e w' => e = .returned (.int .i64 c.e) ∧ w = w' := by
  obtain ⟨A, cp, c0, c1, c2, hfr, hcp1, hcp2, hrd⟩ := hc.cells
  clear hfr hrd c1 c0
  go_enter Try.func59, Try.ntmps59
  go_wp2
  go_ret
  exact ⟨rfl, rfl⟩
def Cur.endC (c : Cur) : Cur := c.need ((c.l.length : Int) == 0) 3
theorem end_any {g : Nat} {c : Cur} {w : World} (hc : CurAt w g c) :
    Calls Try.prog 58 #[.pointer (some ⟨g, 0, none⟩)] w (PCur g c.endC w) := by
  obtain ⟨A, cp, c0, c1, c2, hfr, hcp1, hcp2, hrd⟩ := hc.cells
  clear hfr hrd c1 c2
  go_enter Try.func58, Try.ntmps58
  go_wp2_with (go_at_call 51; refine (need_any _ 3 hc).mono ?_; rintro e w' ⟨rfl, hn1, hn2⟩)
  go_end0
  exact ⟨rfl, hn1, hn2⟩
def PNew (xs : List Int) (w : World) (e : Ending) (w' : World) : Prop := ∃ g, e = .returned (.pointer (some ⟨g, 0, none⟩)) ∧ w.heap.size ≤ g ∧ CurAt w' g ⟨xs, false, 0⟩ ∧ Upd [] w w'
theorem new_any {m : Bool} {v : Value} {xs : List Int} {w : World} (h : RdB m w v xs) (hn : xs.length ≤ 1048576) :
    Calls Try.prog 28 #[v] w (PNew xs w) := by
  go_enter Try.func28, Try.ntmps28
  go_wp2_with (go_at_call 49; refine (clone_any h hn).mono ?_; rintro e w' ⟨v', rfl, hn1, hn2⟩; have hr := hn1.rd; obtain ⟨A, c, rfl, _, _⟩ := hr.shape)
  go_ret
  refine ⟨_, rfl, hn2.size, ⟨_, ?_, RdB.old hr ((Upd.refl [] _).alloc _), hn⟩, hn2.alloc _⟩
  exact blk_new ..
def Cur.byteV (c : Cur) : Int := (c.bytesR 1).getD 0 0
def Cur.wordV (c : Cur) : Int := (c.wordsR 1).getD 0 0
def PByte (g : Nat) (k : IntKind) (hi : Int) (x : Int) (c' : Cur) (w : World) (e : Ending) (w' : World) : Prop := e = .returned (.int k x) ∧ CurAt w' g c' ∧ Upd [g] w w' ∧ 0 ≤ x ∧ x < hi
set_option maxRecDepth 100000 in
theorem byte_any {g : Nat} {c : Cur} {w : World} (hc : CurAt w g c) :
    Calls Try.prog 30 #[.pointer (some ⟨g, 0, none⟩)] w (PByte g .u8 256 c.byteV (c.bytesC 1) w) := by
  have hpost : ∀ w' x, x = c.byteV → CurAt w' g (c.bytesC 1) → Upd [g] w w' → 0 ≤ x ∧ x < 256 → PByte g .u8 256 c.byteV (c.bytesC 1) w (.returned (.int .u8 x)) w' := fun w' x hx h1 h2 h3 => ⟨by rw [hx], h1, h2, hx ▸ h3⟩
  rcases hl : c.bytesR 1 with _ | ⟨x, r⟩
  · have hv : c.byteV = 0 := by simp [Cur.byteV, hl]
    have hb := bytes_any (n := 1) hc
    unfold PBytes at hb
    rw [hl] at hb
    have HV := Lib.hid hv
    clear hl hv
    go_enter Try.func30, Try.ntmps30
    go_wp2_with (first | (go_at_call 31; refine hb.mono ?_; rintro e w1 ⟨v, rfl, hr1, hn1, hn2⟩; obtain ⟨A, cp, rfl, _, _⟩ := hr1.shape; clear hb hr1) | (refine wp_loop_once ?_))
    go_ret
    exact hpost _ _ HV.out.symm hn1 hn2 (by omega)
  · have hv : c.byteV = x := by simp [Cur.byteV, hl]
    have hb := bytes_any (n := 1) hc
    unfold PBytes at hb
    rw [hl] at hb
    have HV := Lib.hid hv
    clear hl hv
    go_enter Try.func30, Try.ntmps30
    go_wp2_with (first | (go_at_call 31; refine hb.mono ?_; rintro e w1 ⟨v, rfl, hr1, hn1, hn2⟩; obtain ⟨A, cp, rfl, _, _⟩ := hr1.shape; obtain ⟨b, off, rfl, hcell, hrng⟩ := RdB.at_ hr1 0 (by simp); simp only [List.getD_cons_zero, Nat.add_zero] at hcell hrng; clear hb hr1) | (refine wp_loop_once ?_))
    go_ret
    exact hpost _ _ HV.out.symm hn1 hn2 hrng
set_option maxRecDepth 100000 in
theorem word_any {g : Nat} {c : Cur} {w : World} (hc : CurAt w g c) :
    Calls Try.prog 29 #[.pointer (some ⟨g, 0, none⟩)] w (PByte g .u16 65536 c.wordV (c.wordsC 1) w) := by
  have hpost : ∀ w' x, x = c.wordV → CurAt w' g (c.wordsC 1) → Upd [g] w w' → 0 ≤ x ∧ x < 65536 → PByte g .u16 65536 c.wordV (c.wordsC 1) w (.returned (.int .u16 x)) w' := fun w' x hx h1 h2 h3 => ⟨by rw [hx], h1, h2, hx ▸ h3⟩
  rcases hl : c.wordsR 1 with _ | ⟨x, r⟩
  · have hv : c.wordV = 0 := by simp [Cur.wordV, hl]
    have hb := words_any (n := 1) hc
    unfold PWords at hb
    rw [hl] at hb
    have HV := Lib.hid hv
    clear hl hv
    go_enter Try.func29, Try.ntmps29
    go_wp2_with (first | (go_at_call 50; refine hb.mono ?_; rintro e w1 ⟨v, rfl, hr1, hn1, hn2⟩; obtain ⟨A, cp, rfl, _, _⟩ := hr1.rd.shape; clear hb hr1) | (refine wp_loop_once ?_))
    go_ret
    exact hpost _ _ HV.out.symm hn1 hn2 (by omega)
  · have hv : c.wordV = x := by simp [Cur.wordV, hl]
    have hb := words_any (n := 1) hc
    unfold PWords at hb
    rw [hl] at hb
    have HV := Lib.hid hv
    clear hl hv
    go_enter Try.func29, Try.ntmps29
    go_wp2_with (first | (go_at_call 50; refine hb.mono ?_; rintro e w1 ⟨v, rfl, hr1, hn1, hn2⟩; obtain ⟨A, cp, rfl, _, _⟩ := hr1.rd.shape; obtain ⟨b, off, rfl, hcell, hrng⟩ := RdW.at_ hr1.rd 0 (by simp); simp only [List.getD_cons_zero, Nat.add_zero] at hcell hrng; clear hb hr1) | (refine wp_loop_once ?_))
    go_ret
    exact hpost _ _ HV.out.symm hn1 hn2 hrng
theorem getD_rng {xs : List Int} {h : Int} (hh : 0 < h) (hx : ∀ x, x ∈ xs → 0 ≤ x ∧ x < h) (i : Nat) : 0 ≤ xs.getD i 0 ∧ xs.getD i 0 < h := by
  rw [List.getD_eq_getElem?_getD]
  cases hg : xs[i]? with
  | none => exact ⟨Int.le_refl _, hh⟩
  | some x => exact hx x (List.mem_of_getElem? hg)
theorem CurAt.rng {w : World} {g : Nat} {c : Cur} (h : CurAt w g c) : ∀ x, x ∈ c.l → 0 ≤ x ∧ x < 256 := by
  obtain ⟨v, _, hr, _⟩ := h
  exact hr.rng
theorem bytesR_rng {c : Cur} (h : ∀ x, x ∈ c.l → 0 ≤ x ∧ x < 256) (n : Int) : ∀ x, x ∈ c.bytesR n → 0 ≤ x ∧ x < 256 := by
  intro x hx
  unfold Cur.bytesR at hx
  split at hx
  · cases hx
  · exact h x (List.mem_of_mem_take hx)
theorem takeW_rng : ∀ {xs : List Int}, (∀ x, x ∈ xs → 0 ≤ x ∧ x < 256) → ∀ x, x ∈ takeW xs → 0 ≤ x ∧ x < 65536
  | [], _, x, hx => by cases hx
  | [_], _, x, hx => by cases hx
  | a :: b :: r, h, x, hx => by
    simp only [takeW, List.mem_cons] at hx
    have ha := h a (by simp)
    have hb := h b (by simp)
    rcases hx with rfl | hx
    · omega
    · exact takeW_rng (fun y hy => h y (by simp [hy])) x hx
theorem wordTake_rng {xs : List Int} (h : ∀ x, x ∈ xs → 0 ≤ x ∧ x < 256) : ∀ x, x ∈ wordTake xs → 0 ≤ x ∧ x < 65536 := by
  unfold wordTake
  split
  · exact takeW_rng h
  · intro x hx; cases hx
theorem CurAt.byteV {w : World} {g : Nat} {c : Cur} (h : CurAt w g c) : 0 ≤ c.byteV ∧ c.byteV < 256 := getD_rng (by omega) (bytesR_rng h.rng 1) 0
theorem CurAt.wordV {w : World} {g : Nat} {c : Cur} (h : CurAt w g c) : 0 ≤ c.wordV ∧ c.wordV < 65536 := by
  refine getD_rng (by omega) ?_ 0
  unfold Cur.wordsR
  split
  · intro x hx; cases hx
  · exact wordTake_rng (bytesR_rng h.rng _)
theorem need_l (c : Cur) (ok : Bool) (x : Int) : (c.need ok x).l = c.l := by unfold Cur.need; split <;> rfl
theorem bytesC_rng {c : Cur} (h : ∀ x, x ∈ c.l → 0 ≤ x ∧ x < 256) (n : Int) : ∀ x, x ∈ (c.bytesC n).l → 0 ≤ x ∧ x < 256 := by
  intro x hx
  unfold Cur.bytesC at hx
  split at hx
  · rw [need_l] at hx; cases hx
  · exact h x (List.mem_of_mem_drop hx)
theorem wordsC_rng {c : Cur} (h : ∀ x, x ∈ c.l → 0 ≤ x ∧ x < 256) (n : Int) : ∀ x, x ∈ (c.wordsC n).l → 0 ≤ x ∧ x < 256 := by
  unfold Cur.wordsC
  split <;> exact bytesC_rng h _
theorem wordV_rng {c : Cur} (h : ∀ x, x ∈ c.l → 0 ≤ x ∧ x < 256) : 0 ≤ c.wordV ∧ c.wordV < 65536 := by
  refine getD_rng (by omega) ?_ 0
  unfold Cur.wordsR
  split
  · intro x hx; cases hx
  · exact wordTake_rng (bytesR_rng h _)
theorem byteV_rng {c : Cur} (h : ∀ x, x ∈ c.l → 0 ≤ x ∧ x < 256) : 0 ≤ c.byteV ∧ c.byteV < 256 := getD_rng (by omega) (bytesR_rng h 1) 0
def putW : List Int → List Int
  | [] => []
  | n :: r => n / 256 :: n % 256 :: putW r
theorem putW_length : ∀ xs : List Int, (putW xs).length = 2 * xs.length
  | [] => rfl
  | n :: r => by simp only [putW, List.length_cons, putW_length r]; omega
theorem putW_append : ∀ xs ys : List Int, putW (xs ++ ys) = putW xs ++ putW ys
  | [], ys => rfl
  | n :: r, ys => by simp [putW, putW_append r ys]
theorem putW_snoc (xs : List Int) (k : Nat) (h : k < xs.length) : putW (xs.take (k + 1)) = putW (xs.take k) ++ [xs.getD k 0 / 256, xs.getD k 0 % 256] := by
  have hg : xs[k]? = some (xs.getD k 0) := by simp [List.getD_eq_getElem?_getD, List.getElem?_eq_getElem h]
  rw [List.take_add_one, hg, putW_append]
  rfl
def PPut (xs : List Int) (w : World) (e : Ending) (w' : World) : Prop := ∃ v, e = .returned v ∧ OwnB w.heap.size w' v (putW xs) ∧ Upd [] w w'
set_option maxRecDepth 100000 in
theorem put_any {m : Bool} {v : Value} {xs : List Int} {w : World} (h : RdW m w v xs) (hn : xs.length ≤ 1048576) : Calls Try.prog 33 #[v] w (PPut xs w) := by
  have hh := h
  obtain ⟨A, c, rfl, hc1, hc2⟩ := h.shape
  go_enter Try.func33, Try.ntmps33
  go_wp2
  go_loopw [3, 8] (fun o i wr => ∃ k : Nat, k ≤ xs.length ∧ i = .int .i64 (k : Int) ∧ OwnB w.heap.size wr o (putW (xs.take k)) ∧ Upd [] w wr) (fun _ i _ => xs.length - (intOf i).toNat)
  case atStart => exact ⟨0, by omega, rfl, by simpa [putW] using OwnG.nil .., Upd.refl _ _⟩
  case round =>
    obtain ⟨k, hk, rfl, hown, hu⟩ := hrel
    by_cases hlt : k < xs.length
    · obtain ⟨b, off, rfl, cw0, hr0⟩ := RdW.at_ hh k hlt
      obtain ⟨x0, hx0⟩ : ∃ x, x = xs.getD k 0 := ⟨_, rfl⟩
      rw [← hx0] at cw0 hr0
      have hc0 := hu.cell (by simp) cw0
      have H0 := Lib.hid hx0
      have hw1 : IntKind.u8.wrap (x0 / 256) = x0 / 256 := IntWalk.u8_in _ (by omega)
      have hw2 : IntKind.u8.wrap x0 = x0 % 256 := IntKind.wrap_u8 _
      clear h hh hx0 cw0
      have hown2 : ∀ W, Upd [] wr W → OwnB w.heap.size W u3 (putW (xs.take k)) := fun W hW => OwnG.upd hown hW (Safe.nil _ _ _) fun _ _ h => h
      have hlit := fun W => (rd_lit (R := u8R) (enc := Value.int .u8) W 5 [x0 / 256, x0 % 256] (fun x hx => by simp at hx; rcases hx with rfl | rfl <;> exact ⟨rfl, by omega, by omega⟩) (by simp)).rd
      have hlw : (putW (xs.take k)).length + [x0 / 256, x0 % 256].length ≤ 4194304 := by rw [putW_length, List.length_take]; simp; omega
      have hsz := hu.size
      have hdone : ∀ o w', OwnB w.heap.size w' o (putW (xs.take k) ++ [x0 / 256, x0 % 256]) → OwnB w.heap.size w' o (putW (xs.take (k + 1))) := by
        intro o w' h
        rw [putW_snoc xs k hlt, ← H0.out]
        exact h
      go_wp2_with (at_builtin; refine wp_append one_u8 w.heap.size rfl _ _ 22 5 (.int .u8 0) 1 rfl Try.underlying22 u8_info rfl _ _ rfl (hown2 _ ((Upd.refl [] wr).alloc _)) _ [x0 / 256, x0 % 256] rfl (hlit _) hlw (by decide) (by simp; omega) ?_; intro v' w' hown' hupd)
      go_roundw
      case rel => exact ⟨k + 1, by omega, by go_num, hdone _ _ hown', hupd [] w (hu.alloc _) (Nat.le_refl _)⟩
      case measure => simp [intOf]; omega
    · have hj3 : k = xs.length := by omega
      have H3 := Lib.hid hj3
      clear hj3 h hh
      go_wp2
      go_ret
      refine ⟨_, rfl, ?_, hu⟩
      rw [H3.out, List.take_of_length_le (Nat.le_refl _)] at hown
      exact hown
def MsgB (w : World) (g : Nat) (cs : Array Value) : Prop := w.heap[g]? = some (.cells cs 29 (0, 0)) ∧ cs.size = 22
theorem MsgB.upd {w w' : World} {g : Nat} {cs : Array Value} {S : List Nat} (h : MsgB w g cs) (hu : Upd S w w') (hg : g ∉ S) : MsgB w' g cs := ⟨hu.blk hg h.1, h.2⟩
theorem MsgB.cell {w : World} {g : Nat} {cs : Array Value} (h : MsgB w g cs) (i : Nat) (hi : i < 22) : w.cell? ⟨g, i, none⟩ = some (cs.getD i undef) := by
  rw [blk_cell h.1]
  have : i < cs.size := by rw [h.2]; exact hi
  simp [Array.getD, this]
theorem MsgB.froz {w : World} {g : Nat} {cs : Array Value} (h : MsgB w g cs) (i : Nat) : w.frozen? ⟨g, i, none⟩ = false := blk_frozen h.1 i
theorem MsgB.set {w : World} {g : Nat} {cs : Array Value} (h : MsgB w g cs) (i : Nat) (u : Value) : MsgB (w.setCell ⟨g, i, none⟩ u) g (cs.setIfInBounds i u) := ⟨blk_set h.1 i u, by simp [h.2]⟩
theorem MsgB.far {w : World} {g : Nat} {cs : Array Value} (h : MsgB w g cs) {p : Addr} (hp : g ≠ p.block) (u : Value) : MsgB (w.setCell p u) g cs := ⟨blk_far h.1 hp u, h.2⟩
theorem MsgB.ne {w : World} {g g' : Nat} {cs : Array Value} {c : Cur} (h : MsgB w g cs) (hc : CurAt w g' c) : g' ≠ g := by
  obtain ⟨v, hb, _⟩ := hc
  exact blk_ne hb h.1 (by decide)
theorem MsgB.safe {w : World} {g : Nat} {cs : Array Value} (h : MsgB w g cs) (D : List TypeId) (hD : 29 ∉ D) : Safe true D [g] w := Safe.one h.1 hD
theorem CurAt.setMsg {w : World} {g gm : Nat} {c : Cur} {cs : Array Value} (h : CurAt w g c) (hm : MsgB w gm cs) (i : Nat) (u : Value) : CurAt (w.setCell ⟨gm, i, none⟩ u) g c :=
  h.upd (S := [gm]) ((Upd.refl _ _).setCell (.inl (by simp)) _) (by simpa using hm.ne h) (hm.safe _ (by decide))
theorem MsgB.lt {w : World} {g : Nat} {cs : Array Value} (h : MsgB w g cs) : g < w.heap.size := blk_lt h.1
structure FormSt (w W : World) (bf g gm : Nat) (c : Cur) (cs : Array Value) : Prop where
  hc : CurAt W g c
  hm : MsgB W gm cs
  k0 : W.cell? ⟨bf, 0, none⟩ = some (.pointer (some ⟨g, 0, none⟩))
  k1 : W.cell? ⟨bf, 1, none⟩ = some (.pointer (some ⟨gm, 0, none⟩))
  bg : bf ≠ g
  bm : bf ≠ gm
  ne : g ≠ gm
  u : Upd [g, gm] w W
theorem FormSt.start {w : World} {g gm : Nat} {c : Cur} {cs : Array Value} (hc : CurAt w g c) (hm : MsgB w gm cs) :
    FormSt w (w.alloc (.cells #[.pointer (some ⟨g, 0, none⟩), .pointer (some ⟨gm, 0, none⟩)] 91)) w.heap.size g gm c cs := by
  have u0 := (Upd.refl [] w).alloc (.cells #[.pointer (some ⟨g, 0, none⟩), .pointer (some ⟨gm, 0, none⟩)] 91)
  have hb0 := blk_new w (.cells #[.pointer (some ⟨g, 0, none⟩), .pointer (some ⟨gm, 0, none⟩)] 91)
  exact ⟨hc.old u0, hm.upd u0 (by simp), by rw [blk_cell hb0]; rfl, by rw [blk_cell hb0]; rfl, by have := hc.lt; omega, by have := hm.lt; omega, hm.ne hc, (Upd.refl _ w).alloc _⟩
theorem FormSt.old {w W W' : World} {bf g gm : Nat} {c : Cur} {cs : Array Value} (h : FormSt w W bf g gm c cs) (hu : Upd [] W W') : FormSt w W' bf g gm c cs :=
  ⟨h.hc.old hu, h.hm.upd hu (by simp), hu.cell (by simp) h.k0, hu.cell (by simp) h.k1, h.bg, h.bm, h.ne, h.u.step hu⟩
theorem FormSt.drew {w W : World} {bf g gm : Nat} {c : Cur} {cs : Array Value} (h : FormSt w W bf g gm c cs) : FormSt w W.drew bf g gm c cs := h.old (Upd.refl [] W).drew
theorem FormSt.call {w W w1 : World} {bf g gm : Nat} {c c1 : Cur} {cs : Array Value} (h : FormSt w W bf g gm c cs) (hc1 : CurAt w1 g c1) (hu : Upd [g] W w1) : FormSt w w1 bf g gm c1 cs :=
  ⟨hc1, h.hm.upd hu (by simpa using h.ne.symm), hu.cell (by simpa using h.bg) h.k0, hu.cell (by simpa using h.bg) h.k1, h.bg, h.bm, h.ne, h.u.trans' hu fun x hx => by simp at hx; subst hx; simp⟩
theorem FormSt.store {w W : World} {bf g gm : Nat} {c : Cur} {cs : Array Value} (h : FormSt w W bf g gm c cs) (i : Nat) (u : Value) : FormSt w (W.setCell ⟨gm, i, none⟩ u) bf g gm c (cs.setIfInBounds i u) := by
  have hu : Upd [gm] W (W.setCell ⟨gm, i, none⟩ u) := (Upd.refl [gm] W).setCell (p := ⟨gm, i, none⟩) (.inl (by simp)) u
  exact ⟨h.hc.setMsg h.hm i u, h.hm.set i u, hu.cell (by simpa using h.bm) h.k0, hu.cell (by simpa using h.bm) h.k1, h.bg, h.bm, h.ne, h.u.trans' hu fun x hx => by simp at hx; subst hx; simp⟩
theorem FormSt.both {w W w1 : World} {bf g gm : Nat} {c c1 : Cur} {cs cs1 : Array Value} (h : FormSt w W bf g gm c cs) (hc1 : CurAt w1 g c1) (hm1 : MsgB w1 gm cs1) (hu : Upd [g, gm] W w1) : FormSt w w1 bf g gm c1 cs1 :=
  ⟨hc1, hm1, hu.cell (by simpa using ⟨h.bg, h.bm⟩) h.k0, hu.cell (by simpa using ⟨h.bg, h.bm⟩) h.k1, h.bg, h.bm, h.ne, h.u.trans hu⟩
def PForm (g gm : Nat) (c' : Cur) (cs' : Array Value) (w : World) (e : Ending) (w' : World) : Prop := e = .returned (.tuple #[]) ∧ CurAt w' g c' ∧ MsgB w' gm cs' ∧ Upd [g, gm] w w'
theorem FormSt.post {w W : World} {bf g gm : Nat} {c : Cur} {cs : Array Value} (h : FormSt w W bf g gm c cs) : PForm g gm c cs w (.returned (.tuple #[])) W := ⟨rfl, h.hc, h.hm, h.u⟩
theorem getD_set_same {cs : Array Value} (i : Nat) (u : Value) (h : i < cs.size) : (cs.setIfInBounds i u).getD i undef = u := by
  simp [Array.getD, h]
theorem getD_set_far {cs : Array Value} (i j : Nat) (u : Value) (h : i ≠ j) : (cs.setIfInBounds i u).getD j undef = cs.getD j undef := by
  simp only [Array.getD_eq_getD_getElem?, Array.getElem?_setIfInBounds]
  rw [if_neg h]
theorem MsgB.cellv {w : World} {g : Nat} {cs : Array Value} {v : Value} (h : MsgB w g cs) (i : Nat) (hi : i < 22) (hv : cs.getD i undef = v) : w.cell? ⟨g, i, none⟩ = some v := by rw [h.cell i hi, hv]
def spanC1 (c : Cur) (most : Int) : Cur := ((c.wordsC 1).wordsC 1).need (decide (1 ≤ (c.wordsC 1).wordV) && decide ((c.wordsC 1).wordV ≤ most)) 5
def spanC (c : Cur) (most : Int) : Cur := (spanC1 c most).need (within c.wordV (c.wordsC 1).wordV) 7
set_option maxRecDepth 100000 in
set_option maxHeartbeats 1000000 in
theorem span_any {g gm : Nat} {c : Cur} {cs : Array Value} {w : World} {most : Int} (hc : CurAt w g c) (hm : MsgB w gm cs) (hmost : 0 ≤ most ∧ most < 65536) :
    Calls Try.prog 80 #[.agg #[.pointer (some ⟨g, 0, none⟩), .pointer (some ⟨gm, 0, none⟩)], .int .u16 most] w
      (PForm g gm (spanC c most) ((cs.setIfInBounds 2 (.int .u16 c.wordV)).setIfInBounds 3 (.int .u16 (c.wordsC 1).wordV)) w) := by
  have st := FormSt.start hc hm
  have k0 := st.k0
  have k1 := st.k1
  obtain ⟨W0, hW0⟩ : ∃ W0, w.alloc (.cells #[.pointer (some ⟨g, 0, none⟩), .pointer (some ⟨gm, 0, none⟩)] 91) = W0 := ⟨_, rfl⟩
  obtain ⟨bf, hbf⟩ : ∃ bf, w.heap.size = bf := ⟨_, rfl⟩
  rw [hW0, hbf] at st k0 k1
  have hpost : ∀ W, FormSt w W bf g gm ((((c.wordsC 1).wordsC 1).need (decide (1 ≤ (c.wordsC 1).wordV) && decide ((c.wordsC 1).wordV ≤ most)) 5).need (within c.wordV (c.wordsC 1).wordV) 7) ((cs.setIfInBounds 2 (.int .u16 c.wordV)).setIfInBounds 3 (.int .u16 (c.wordsC 1).wordV)) →
      PForm g gm (spanC c most) ((cs.setIfInBounds 2 (.int .u16 c.wordV)).setIfInBounds 3 (.int .u16 (c.wordsC 1).wordV)) w (.returned (.tuple #[])) W := fun W h => h.post
  revert hpost
  generalize PForm g gm (spanC c most) ((cs.setIfInBounds 2 (.int .u16 c.wordV)).setIfInBounds 3 (.int .u16 (c.wordsC 1).wordV)) w = P
  intro hpost
  clear hc hm
  go_enter Try.func80, Try.ntmps80
  go_wp2_with fail
  clear hW0 hbf
  have sd := st.drew
  refine rg_start (S := fun w' => w'.cell? ⟨bf, 0, none⟩ = some (.pointer (some ⟨g, 0, none⟩)) ∧ w'.cell? ⟨bf, 1, none⟩ = some (.pointer (some ⟨gm, 0, none⟩))) (n := 8) #[false, false, false, false, false, false, false, false] (by kernel_rfl) rfl rfl ⟨sd.k0, sd.k1⟩ (fun hHeld => ?_)
  refine rg_take (i := 0) (N := some 4) (v := ?_) (a' := ?_) #[true, false, false, false, false, false, false, false] rfl rfl (by kernel_rfl) (fun _ _ _ h => h) (Or.inl ⟨by rfl, ?_⟩) hHeld ?_ ?_
  rotate_left
  · rintro w' ⟨hs0, hs1⟩
    go_simp
    with_reducible rfl
  rotate_left
  · simp only [Act.put, List.setIfInBounds_toArray, List.set_cons_zero, List.set_cons_succ]
    rfl
  refine rg_take (i := 1) (N := some 5) (v := ?_) (a' := ?_) #[true, true, false, false, false, false, false, false] rfl rfl (by kernel_rfl) (fun _ _ _ h => h) (Or.inl ⟨by rfl, ?_⟩) hHeld ?_ ?_
  rotate_left
  · rintro w' ⟨hs0, hs1⟩
    go_simp
    with_reducible rfl
  rotate_left
  · simp only [Act.put, List.setIfInBounds_toArray, List.set_cons_zero, List.set_cons_succ]
    rfl
  refine rg_take (i := 2) (N := some 6) (v := ?_) (a' := ?_) #[true, true, true, false, false, false, false, false] rfl rfl (by kernel_rfl) (fun _ _ _ h => h) (Or.inl ⟨by rfl, ?_⟩) hHeld ?_ ?_
  rotate_left
  · rintro w' ⟨hs0, hs1⟩
    go_simp
    with_reducible rfl
  rotate_left
  · simp only [Act.put, List.setIfInBounds_toArray, List.set_cons_zero, List.set_cons_succ]
    rfl
  refine rg_take (i := 3) (N := some 7) (v := ?_) (a' := ?_) #[true, true, true, true, false, false, false, false] rfl rfl (by kernel_rfl) (fun _ _ _ h => h) (Or.inl ⟨by rfl, ?_⟩) hHeld ?_ ?_
  rotate_left
  · rintro w' ⟨hs0, hs1⟩
    go_simp
    with_reducible rfl
  rotate_left
  · simp only [Act.put, List.setIfInBounds_toArray, List.set_cons_zero, List.set_cons_succ]
    rfl
  refine rg_call (i := 4) (N := some 8) (f := 29) (args := ?_) #[true, true, true, true, true, false, false, false] rfl rfl (by kernel_rfl) Try.func29 (by kernel_rfl) rfl (by rfl) rfl ?_ ?_
  rotate_left
  · (try simp only [List.map_toArray, List.map_cons, List.map_nil]); rfl
  refine (word_any sd.hc).mono ?_
  rintro e w1 ⟨rfl, hc1, hu1, hra⟩
  have s1 := sd.call hc1 hu1
  have e2 := s1.hm.cell 2 (by decide)
  have f2 := s1.hm.froz 2
  refine ⟨_, rfl, ⟨s1.k0, s1.k1⟩, fun hHeld => ?_⟩
  refine rg_norm (a' := ?_) ?_ ?_
  rotate_left
  · show Act.put _ (some 8) _ = _
    simp only [Act.put, List.setIfInBounds_toArray, List.set_cons_zero, List.set_cons_succ]
    rfl
  refine rg_take (i := 5) (N := some 9) (v := ?_) (a' := ?_) #[true, true, true, true, true, true, false, false] rfl rfl (by kernel_rfl) (fun _ _ _ h => h) (Or.inl ⟨by rfl, ?_⟩) hHeld ?_ ?_
  rotate_left
  · rintro w' ⟨hs0, hs1⟩
    go_simp
    with_reducible rfl
  rotate_left
  · simp only [Act.put, List.setIfInBounds_toArray, List.set_cons_zero, List.set_cons_succ]
    rfl
  refine rg_take (i := 6) (N := some 10) (v := ?_) (a' := ?_) #[true, true, true, true, true, true, true, false] rfl rfl (by kernel_rfl) (fun _ _ _ h => h) (Or.inl ⟨by rfl, ?_⟩) hHeld ?_ ?_
  rotate_left
  · rintro w' ⟨hs0, hs1⟩
    go_simp
    with_reducible rfl
  rotate_left
  · simp only [Act.put, List.setIfInBounds_toArray, List.set_cons_zero, List.set_cons_succ]
    rfl
  refine rg_store (i := 7) (w1 := ?_) #[true, true, true, true, true, true, true, true] rfl rfl (by kernel_rfl) (by rfl) ?_ ?_ (fun hHeld => ?_)
  rotate_left
  · go_simp
    rfl
  · exact ⟨(s1.store 2 _).k0, (s1.store 2 _).k1⟩
  refine rg_done (by kernel_rfl) ?_
  have st2 := s1.store 2 (.int .u16 c.wordV)
  clear st sd s1 e2 f2 hc1 hu1 k0 k1 hHeld
  go_wp2_with fail
  have sd := st2.drew
  refine rg_start (S := fun w' => w'.cell? ⟨bf, 0, none⟩ = some (.pointer (some ⟨g, 0, none⟩)) ∧ w'.cell? ⟨bf, 1, none⟩ = some (.pointer (some ⟨gm, 0, none⟩))) (n := 8) #[false, false, false, false, false, false, false, false] (by kernel_rfl) rfl rfl ⟨sd.k0, sd.k1⟩ (fun hHeld => ?_)
  refine rg_take (i := 0) (N := some 11) (v := ?_) (a' := ?_) #[true, false, false, false, false, false, false, false] rfl rfl (by kernel_rfl) (fun _ _ _ h => h) (Or.inl ⟨by rfl, ?_⟩) hHeld ?_ ?_
  rotate_left
  · rintro w' ⟨hs0, hs1⟩
    go_simp
    with_reducible rfl
  rotate_left
  · simp only [Act.put, List.setIfInBounds_toArray, List.set_cons_zero, List.set_cons_succ]
    rfl
  refine rg_take (i := 1) (N := some 12) (v := ?_) (a' := ?_) #[true, true, false, false, false, false, false, false] rfl rfl (by kernel_rfl) (fun _ _ _ h => h) (Or.inl ⟨by rfl, ?_⟩) hHeld ?_ ?_
  rotate_left
  · rintro w' ⟨hs0, hs1⟩
    go_simp
    with_reducible rfl
  rotate_left
  · simp only [Act.put, List.setIfInBounds_toArray, List.set_cons_zero, List.set_cons_succ]
    rfl
  refine rg_take (i := 2) (N := some 13) (v := ?_) (a' := ?_) #[true, true, true, false, false, false, false, false] rfl rfl (by kernel_rfl) (fun _ _ _ h => h) (Or.inl ⟨by rfl, ?_⟩) hHeld ?_ ?_
  rotate_left
  · rintro w' ⟨hs0, hs1⟩
    go_simp
    with_reducible rfl
  rotate_left
  · simp only [Act.put, List.setIfInBounds_toArray, List.set_cons_zero, List.set_cons_succ]
    rfl
  refine rg_take (i := 3) (N := some 14) (v := ?_) (a' := ?_) #[true, true, true, true, false, false, false, false] rfl rfl (by kernel_rfl) (fun _ _ _ h => h) (Or.inl ⟨by rfl, ?_⟩) hHeld ?_ ?_
  rotate_left
  · rintro w' ⟨hs0, hs1⟩
    go_simp
    with_reducible rfl
  rotate_left
  · simp only [Act.put, List.setIfInBounds_toArray, List.set_cons_zero, List.set_cons_succ]
    rfl
  refine rg_call (i := 4) (N := some 15) (f := 29) (args := ?_) #[true, true, true, true, true, false, false, false] rfl rfl (by kernel_rfl) Try.func29 (by kernel_rfl) rfl (by rfl) rfl ?_ ?_
  rotate_left
  · (try simp only [List.map_toArray, List.map_cons, List.map_nil]); rfl
  refine (word_any sd.hc).mono ?_
  rintro e w1 ⟨rfl, hc1, hu1, hrn⟩
  have s1 := sd.call hc1 hu1
  have e2 := s1.hm.cell 3 (by decide)
  have f2 := s1.hm.froz 3
  refine ⟨_, rfl, ⟨s1.k0, s1.k1⟩, fun hHeld => ?_⟩
  refine rg_norm (a' := ?_) ?_ ?_
  rotate_left
  · show Act.put _ (some 15) _ = _
    simp only [Act.put, List.setIfInBounds_toArray, List.set_cons_zero, List.set_cons_succ]
    rfl
  refine rg_take (i := 5) (N := some 16) (v := ?_) (a' := ?_) #[true, true, true, true, true, true, false, false] rfl rfl (by kernel_rfl) (fun _ _ _ h => h) (Or.inl ⟨by rfl, ?_⟩) hHeld ?_ ?_
  rotate_left
  · rintro w' ⟨hs0, hs1⟩
    go_simp
    with_reducible rfl
  rotate_left
  · simp only [Act.put, List.setIfInBounds_toArray, List.set_cons_zero, List.set_cons_succ]
    rfl
  refine rg_take (i := 6) (N := some 17) (v := ?_) (a' := ?_) #[true, true, true, true, true, true, true, false] rfl rfl (by kernel_rfl) (fun _ _ _ h => h) (Or.inl ⟨by rfl, ?_⟩) hHeld ?_ ?_
  rotate_left
  · rintro w' ⟨hs0, hs1⟩
    go_simp
    with_reducible rfl
  rotate_left
  · simp only [Act.put, List.setIfInBounds_toArray, List.set_cons_zero, List.set_cons_succ]
    rfl
  refine rg_store (i := 7) (w1 := ?_) #[true, true, true, true, true, true, true, true] rfl rfl (by kernel_rfl) (by rfl) ?_ ?_ (fun hHeld => ?_)
  rotate_left
  · go_simp
    rfl
  · exact ⟨(s1.store 3 _).k0, (s1.store 3 _).k1⟩
  refine rg_done (by kernel_rfl) ?_
  have st3 := s1.store 3 (.int .u16 (c.wordsC 1).wordV)
  clear st2 sd s1 e2 f2 hc1 hu1 hHeld
  go_wp2_with fail
  have hsz : (cs.setIfInBounds 2 (.int .u16 c.wordV)).size = 22 := by have := st3.hm.2; simpa using this
  have hsz' : cs.size = 22 := by simpa using hsz
  have e3 := st3.hm.cellv 3 (by decide) (getD_set_same 3 _ (by omega))
  have e2 := st3.hm.cellv 2 (by decide) ((getD_set_far 3 2 _ (by decide)).trans (getD_set_same 2 _ (by omega)))
  clear hsz hsz'
  revert st3 e2 e3 hra hrn hpost
  generalize (c.wordsC 1).wordV = n
  generalize c.wordV = a
  generalize (c.wordsC 1).wordsC 1 = c3
  generalize (cs.setIfInBounds 2 (.int .u16 a)).setIfInBounds 3 (.int .u16 n) = cs3
  intro hpost hra hrn st3 e3 e2
  have hwn : IntKind.i64.wrap n = n := IntWalk.i64_in _ (by omega)
  by_cases hn : 1 ≤ n
  case pos =>
    have hq : (decide (1 ≤ n) && decide (n ≤ most)) = decide (n ≤ most) := by simp [hn]
    rw [hq] at hpost
    have hg : decide (1 ≤ n) = true := by simpa using hn
    clear hq
    have sd := st3.drew
    refine rg_start (S := fun w' => w'.cell? ⟨bf, 0, none⟩ = some (.pointer (some ⟨g, 0, none⟩)) ∧ w'.cell? ⟨bf, 1, none⟩ = some (.pointer (some ⟨gm, 0, none⟩)) ∧ w'.cell? ⟨gm, 3, none⟩ = some (.int .u16 n)) (n := 18) #[false, false, false, false, false, false, false, false, false, false, false, false, false, false, false, false, false, false] (by kernel_rfl) rfl rfl ⟨sd.k0, sd.k1, e3⟩ (fun hHeld => ?_)
    refine rg_take (i := 0) (N := some 18) (v := ?_) (a' := ?_) #[true, false, false, false, false, false, false, false, false, false, false, false, false, false, false, false, false, false] rfl rfl (by kernel_rfl) (fun _ _ _ h => h) (Or.inl ⟨by rfl, ?_⟩) hHeld ?_ ?_
    rotate_left
    · rintro w' ⟨hs0, hs1, hs2⟩
      go_simp
      with_reducible rfl
    rotate_left
    · simp only [Act.put, List.setIfInBounds_toArray, List.set_cons_zero, List.set_cons_succ]
      rfl
    refine rg_take (i := 1) (N := some 19) (v := ?_) (a' := ?_) #[true, true, false, false, false, false, false, false, false, false, false, false, false, false, false, false, false, false] rfl rfl (by kernel_rfl) (fun _ _ _ h => h) (Or.inl ⟨by rfl, ?_⟩) hHeld ?_ ?_
    rotate_left
    · rintro w' ⟨hs0, hs1, hs2⟩
      go_simp
      with_reducible rfl
    rotate_left
    · simp only [Act.put, List.setIfInBounds_toArray, List.set_cons_zero, List.set_cons_succ]
      rfl
    refine rg_take (i := 2) (N := some 20) (v := ?_) (a' := ?_) #[true, true, true, false, false, false, false, false, false, false, false, false, false, false, false, false, false, false] rfl rfl (by kernel_rfl) (fun _ _ _ h => h) (Or.inl ⟨by rfl, ?_⟩) hHeld ?_ ?_
    rotate_left
    · rintro w' ⟨hs0, hs1, hs2⟩
      go_simp
      with_reducible rfl
    rotate_left
    · simp only [Act.put, List.setIfInBounds_toArray, List.set_cons_zero, List.set_cons_succ]
      rfl
    refine rg_take (i := 3) (N := some 21) (v := ?_) (a' := ?_) #[true, true, true, true, false, false, false, false, false, false, false, false, false, false, false, false, false, false] rfl rfl (by kernel_rfl) (fun _ _ _ h => h) (Or.inl ⟨by rfl, ?_⟩) hHeld ?_ ?_
    rotate_left
    · rintro w' ⟨hs0, hs1, hs2⟩
      go_simp
      with_reducible rfl
    rotate_left
    · simp only [Act.put, List.setIfInBounds_toArray, List.set_cons_zero, List.set_cons_succ]
      rfl
    refine rg_take (i := 4) (N := some 22) (v := ?_) (a' := ?_) #[true, true, true, true, true, false, false, false, false, false, false, false, false, false, false, false, false, false] rfl rfl (by kernel_rfl) (fun _ _ _ h => h) (Or.inl ⟨by rfl, ?_⟩) hHeld ?_ ?_
    rotate_left
    · rintro w' ⟨hs0, hs1, hs2⟩
      go_simp
      with_reducible rfl
    rotate_left
    · simp only [Act.put, List.setIfInBounds_toArray, List.set_cons_zero, List.set_cons_succ]
      rfl
    refine rg_take (i := 5) (N := some 23) (v := ?_) (a' := ?_) #[true, true, true, true, true, true, false, false, false, false, false, false, false, false, false, false, false, false] rfl rfl (by kernel_rfl) (fun _ _ _ h => h) (Or.inl ⟨by rfl, ?_⟩) hHeld ?_ ?_
    rotate_left
    · rintro w' ⟨hs0, hs1, hs2⟩
      go_simp
      with_reducible rfl
    rotate_left
    · simp only [Act.put, List.setIfInBounds_toArray, List.set_cons_zero, List.set_cons_succ]
      rfl
    refine rg_take (i := 6) (N := some 24) (v := ?_) (a' := ?_) #[true, true, true, true, true, true, true, false, false, false, false, false, false, false, false, false, false, false] rfl rfl (by kernel_rfl) (fun _ _ _ h => h) (Or.inl ⟨by rfl, ?_⟩) hHeld ?_ ?_
    rotate_left
    · rintro w' ⟨hs0, hs1, hs2⟩
      go_simp
      with_reducible rfl
    rotate_left
    · simp only [Act.put, List.setIfInBounds_toArray, List.set_cons_zero, List.set_cons_succ]
      rfl
    refine rg_take (i := 7) (N := some 25) (v := ?_) (a' := ?_) #[true, true, true, true, true, true, true, true, false, false, false, false, false, false, false, false, false, false] rfl rfl (by kernel_rfl) (fun _ _ _ h => h) (Or.inl ⟨by rfl, ?_⟩) hHeld ?_ ?_
    rotate_left
    · rintro w' ⟨hs0, hs1, hs2⟩
      go_simp
      with_reducible rfl
    rotate_left
    · simp only [Act.put, List.setIfInBounds_toArray, List.set_cons_zero, List.set_cons_succ]
      rfl
    refine rg_take (i := 8) (N := some 26) (v := ?_) (a' := ?_) #[true, true, true, true, true, true, true, true, true, false, false, false, false, false, false, false, false, false] rfl rfl (by kernel_rfl) (fun _ _ _ h => h) (Or.inl ⟨by rfl, ?_⟩) hHeld ?_ ?_
    rotate_left
    · rintro w' ⟨hs0, hs1, hs2⟩
      go_simp
      with_reducible rfl
    rotate_left
    · simp only [Act.put, List.setIfInBounds_toArray, List.set_cons_zero, List.set_cons_succ]
      rfl
    refine rg_take (i := 9) (N := some 27) (v := ?_) (a' := ?_) #[true, true, true, true, true, true, true, true, true, true, false, false, false, false, false, false, false, false] rfl rfl (by kernel_rfl) (fun _ _ _ h => h) (Or.inl ⟨by rfl, ?_⟩) hHeld ?_ ?_
    rotate_left
    · rintro w' ⟨hs0, hs1, hs2⟩
      go_simp
      with_reducible rfl
    rotate_left
    · simp only [Act.put, List.setIfInBounds_toArray, List.set_cons_zero, List.set_cons_succ]
      rfl
    refine rg_take (i := 10) (N := some 28) (v := ?_) (a' := ?_) #[true, true, true, true, true, true, true, true, true, true, true, false, false, false, false, false, false, false] rfl rfl (by kernel_rfl) (fun _ _ _ h => h) (Or.inl ⟨by rfl, ?_⟩) hHeld ?_ ?_
    rotate_left
    · rintro w' ⟨hs0, hs1, hs2⟩
      go_simp
      with_reducible rfl
    rotate_left
    · simp only [Act.put, List.setIfInBounds_toArray, List.set_cons_zero, List.set_cons_succ]
      rfl
    refine rg_take (i := 11) (N := some 29) (v := ?_) (a' := ?_) #[true, true, true, true, true, true, true, true, true, true, true, true, false, false, false, false, false, false] rfl rfl (by kernel_rfl) (fun _ _ _ h => h) (Or.inl ⟨by rfl, ?_⟩) hHeld ?_ ?_
    rotate_left
    · rintro w' ⟨hs0, hs1, hs2⟩
      go_simp
      with_reducible rfl
    rotate_left
    · simp only [Act.put, List.setIfInBounds_toArray, List.set_cons_zero, List.set_cons_succ]
      rfl
    refine rg_take (i := 12) (N := some 30) (v := ?_) (a' := ?_) #[true, true, true, true, true, true, true, true, true, true, true, true, true, false, false, false, false, false] rfl rfl (by kernel_rfl) (fun _ _ _ h => h) (Or.inl ⟨by rfl, ?_⟩) hHeld ?_ ?_
    rotate_left
    · rintro w' ⟨hs0, hs1, hs2⟩
      go_simp
      with_reducible rfl
    rotate_left
    · simp only [Act.put, List.setIfInBounds_toArray, List.set_cons_zero, List.set_cons_succ]
      rfl
    refine rg_take (i := 13) (N := some 31) (v := ?_) (a' := ?_) #[true, true, true, true, true, true, true, true, true, true, true, true, true, true, false, false, false, false] rfl rfl (by kernel_rfl) (fun _ _ _ h => h) (Or.inl ⟨by rfl, ?_⟩) hHeld ?_ ?_
    rotate_left
    · rintro w' ⟨hs0, hs1, hs2⟩
      go_simp
      with_reducible rfl
    rotate_left
    · simp only [Act.put, List.setIfInBounds_toArray, List.set_cons_zero, List.set_cons_succ]
      rfl
    refine rg_take (i := 14) (N := some 32) (v := ?_) (a' := ?_) #[true, true, true, true, true, true, true, true, true, true, true, true, true, true, true, false, false, false] rfl rfl (by kernel_rfl) (fun _ _ _ h => h) (Or.inl ⟨by rfl, ?_⟩) hHeld ?_ ?_
    rotate_left
    · rintro w' ⟨hs0, hs1, hs2⟩
      go_simp
      with_reducible rfl
    rotate_left
    · simp only [Act.put, List.setIfInBounds_toArray, List.set_cons_zero, List.set_cons_succ]
      rfl
    refine rg_take (i := 15) (N := some 33) (v := ?_) (a' := ?_) #[true, true, true, true, true, true, true, true, true, true, true, true, true, true, true, true, false, false] rfl rfl (by kernel_rfl) (fun _ _ _ h => h) (Or.inl ⟨by rfl, ?_⟩) hHeld ?_ ?_
    rotate_left
    · rintro w' ⟨hs0, hs1, hs2⟩
      go_simp
      with_reducible rfl
    rotate_left
    · simp only [Act.put, List.setIfInBounds_toArray, List.set_cons_zero, List.set_cons_succ]
      rfl
    refine rg_take (i := 16) (N := some 34) (v := ?_) (a' := ?_) #[true, true, true, true, true, true, true, true, true, true, true, true, true, true, true, true, true, false] rfl rfl (by kernel_rfl) (fun _ _ _ h => h) (Or.inl ⟨by rfl, ?_⟩) hHeld ?_ ?_
    rotate_left
    · rintro w' ⟨hs0, hs1, hs2⟩
      go_simp
      with_reducible rfl
    rotate_left
    · simp only [Act.put, List.setIfInBounds_toArray, List.set_cons_zero, List.set_cons_succ]
      rfl
    refine rg_call (i := 17) (N := some 35) (f := 51) (args := ?_) #[true, true, true, true, true, true, true, true, true, true, true, true, true, true, true, true, true, true] rfl rfl (by kernel_rfl) Try.func51 (by kernel_rfl) rfl (by rfl) rfl ?_ ?_
    rotate_left
    · (try simp only [List.map_toArray, List.map_cons, List.map_nil]); rfl
    refine (need_any _ 5 sd.hc).mono ?_
    rintro e w2 ⟨rfl, hc1, hu1⟩
    have s1 := sd.call hc1 hu1
    have e4 := hu1.cell (by simpa using sd.ne.symm) e3
    have e5 := hu1.cell (by simpa using sd.ne.symm) e2
    refine ⟨_, rfl, ⟨s1.k0, s1.k1, e4⟩, fun hHeld => ?_⟩
    refine rg_norm (a' := ?_) ?_ ?_
    rotate_left
    · show Act.put _ (some 35) _ = _
      simp only [Act.put, List.setIfInBounds_toArray, List.set_cons_zero, List.set_cons_succ]
      rfl
    refine rg_done (by kernel_rfl) ?_
    clear st3 e3 e2 sd hc1 hu1 hn hHeld
    go_wp2_with fail
    have sd := s1.drew
    refine rg_start (S := fun w' => w'.cell? ⟨bf, 0, none⟩ = some (.pointer (some ⟨g, 0, none⟩)) ∧ w'.cell? ⟨bf, 1, none⟩ = some (.pointer (some ⟨gm, 0, none⟩)) ∧ w'.cell? ⟨gm, 3, none⟩ = some (.int .u16 n) ∧ w'.cell? ⟨gm, 2, none⟩ = some (.int .u16 a)) (n := 15) #[false, false, false, false, false, false, false, false, false, false, false, false, false, false, false] (by kernel_rfl) rfl rfl ⟨sd.k0, sd.k1, e4, e5⟩ (fun hHeld => ?_)
    refine rg_take (i := 0) (N := some 36) (v := ?_) (a' := ?_) #[true, false, false, false, false, false, false, false, false, false, false, false, false, false, false] rfl rfl (by kernel_rfl) (fun _ _ _ h => h) (Or.inl ⟨by rfl, ?_⟩) hHeld ?_ ?_
    rotate_left
    · rintro w' ⟨hs0, hs1, hs2, hs3⟩
      go_simp
      with_reducible rfl
    rotate_left
    · simp only [Act.put, List.setIfInBounds_toArray, List.set_cons_zero, List.set_cons_succ]
      rfl
    refine rg_take (i := 1) (N := some 37) (v := ?_) (a' := ?_) #[true, true, false, false, false, false, false, false, false, false, false, false, false, false, false] rfl rfl (by kernel_rfl) (fun _ _ _ h => h) (Or.inl ⟨by rfl, ?_⟩) hHeld ?_ ?_
    rotate_left
    · rintro w' ⟨hs0, hs1, hs2, hs3⟩
      go_simp
      with_reducible rfl
    rotate_left
    · simp only [Act.put, List.setIfInBounds_toArray, List.set_cons_zero, List.set_cons_succ]
      rfl
    refine rg_take (i := 2) (N := some 38) (v := ?_) (a' := ?_) #[true, true, true, false, false, false, false, false, false, false, false, false, false, false, false] rfl rfl (by kernel_rfl) (fun _ _ _ h => h) (Or.inl ⟨by rfl, ?_⟩) hHeld ?_ ?_
    rotate_left
    · rintro w' ⟨hs0, hs1, hs2, hs3⟩
      go_simp
      with_reducible rfl
    rotate_left
    · simp only [Act.put, List.setIfInBounds_toArray, List.set_cons_zero, List.set_cons_succ]
      rfl
    refine rg_take (i := 3) (N := some 39) (v := ?_) (a' := ?_) #[true, true, true, true, false, false, false, false, false, false, false, false, false, false, false] rfl rfl (by kernel_rfl) (fun _ _ _ h => h) (Or.inl ⟨by rfl, ?_⟩) hHeld ?_ ?_
    rotate_left
    · rintro w' ⟨hs0, hs1, hs2, hs3⟩
      go_simp
      with_reducible rfl
    rotate_left
    · simp only [Act.put, List.setIfInBounds_toArray, List.set_cons_zero, List.set_cons_succ]
      rfl
    refine rg_take (i := 4) (N := some 40) (v := ?_) (a' := ?_) #[true, true, true, true, true, false, false, false, false, false, false, false, false, false, false] rfl rfl (by kernel_rfl) (fun _ _ _ h => h) (Or.inl ⟨by rfl, ?_⟩) hHeld ?_ ?_
    rotate_left
    · rintro w' ⟨hs0, hs1, hs2, hs3⟩
      go_simp
      with_reducible rfl
    rotate_left
    · simp only [Act.put, List.setIfInBounds_toArray, List.set_cons_zero, List.set_cons_succ]
      rfl
    refine rg_take (i := 5) (N := some 41) (v := ?_) (a' := ?_) #[true, true, true, true, true, true, false, false, false, false, false, false, false, false, false] rfl rfl (by kernel_rfl) (fun _ _ _ h => h) (Or.inl ⟨by rfl, ?_⟩) hHeld ?_ ?_
    rotate_left
    · rintro w' ⟨hs0, hs1, hs2, hs3⟩
      go_simp
      with_reducible rfl
    rotate_left
    · simp only [Act.put, List.setIfInBounds_toArray, List.set_cons_zero, List.set_cons_succ]
      rfl
    refine rg_take (i := 6) (N := some 42) (v := ?_) (a' := ?_) #[true, true, true, true, true, true, true, false, false, false, false, false, false, false, false] rfl rfl (by kernel_rfl) (fun _ _ _ h => h) (Or.inl ⟨by rfl, ?_⟩) hHeld ?_ ?_
    rotate_left
    · rintro w' ⟨hs0, hs1, hs2, hs3⟩
      go_simp
      with_reducible rfl
    rotate_left
    · simp only [Act.put, List.setIfInBounds_toArray, List.set_cons_zero, List.set_cons_succ]
      rfl
    refine rg_take (i := 7) (N := some 43) (v := ?_) (a' := ?_) #[true, true, true, true, true, true, true, true, false, false, false, false, false, false, false] rfl rfl (by kernel_rfl) (fun _ _ _ h => h) (Or.inl ⟨by rfl, ?_⟩) hHeld ?_ ?_
    rotate_left
    · rintro w' ⟨hs0, hs1, hs2, hs3⟩
      go_simp
      with_reducible rfl
    rotate_left
    · simp only [Act.put, List.setIfInBounds_toArray, List.set_cons_zero, List.set_cons_succ]
      rfl
    refine rg_take (i := 8) (N := some 44) (v := ?_) (a' := ?_) #[true, true, true, true, true, true, true, true, true, false, false, false, false, false, false] rfl rfl (by kernel_rfl) (fun _ _ _ h => h) (Or.inl ⟨by rfl, ?_⟩) hHeld ?_ ?_
    rotate_left
    · rintro w' ⟨hs0, hs1, hs2, hs3⟩
      go_simp
      with_reducible rfl
    rotate_left
    · simp only [Act.put, List.setIfInBounds_toArray, List.set_cons_zero, List.set_cons_succ]
      rfl
    refine rg_take (i := 9) (N := some 45) (v := ?_) (a' := ?_) #[true, true, true, true, true, true, true, true, true, true, false, false, false, false, false] rfl rfl (by kernel_rfl) (fun _ _ _ h => h) (Or.inl ⟨by rfl, ?_⟩) hHeld ?_ ?_
    rotate_left
    · rintro w' ⟨hs0, hs1, hs2, hs3⟩
      go_simp
      with_reducible rfl
    rotate_left
    · simp only [Act.put, List.setIfInBounds_toArray, List.set_cons_zero, List.set_cons_succ]
      rfl
    refine rg_take (i := 10) (N := some 46) (v := ?_) (a' := ?_) #[true, true, true, true, true, true, true, true, true, true, true, false, false, false, false] rfl rfl (by kernel_rfl) (fun _ _ _ h => h) (Or.inl ⟨by rfl, ?_⟩) hHeld ?_ ?_
    rotate_left
    · rintro w' ⟨hs0, hs1, hs2, hs3⟩
      go_simp
      with_reducible rfl
    rotate_left
    · simp only [Act.put, List.setIfInBounds_toArray, List.set_cons_zero, List.set_cons_succ]
      rfl
    refine rg_take (i := 11) (N := some 47) (v := ?_) (a' := ?_) #[true, true, true, true, true, true, true, true, true, true, true, true, false, false, false] rfl rfl (by kernel_rfl) (fun _ _ _ h => h) (Or.inl ⟨by rfl, ?_⟩) hHeld ?_ ?_
    rotate_left
    · rintro w' ⟨hs0, hs1, hs2, hs3⟩
      go_simp
      with_reducible rfl
    rotate_left
    · simp only [Act.put, List.setIfInBounds_toArray, List.set_cons_zero, List.set_cons_succ]
      rfl
    refine rg_take (i := 12) (N := some 48) (v := ?_) (a' := ?_) #[true, true, true, true, true, true, true, true, true, true, true, true, true, false, false] rfl rfl (by kernel_rfl) (fun _ _ _ h => h) (Or.inl ⟨by rfl, ?_⟩) hHeld ?_ ?_
    rotate_left
    · rintro w' ⟨hs0, hs1, hs2, hs3⟩
      go_simp
      with_reducible rfl
    rotate_left
    · simp only [Act.put, List.setIfInBounds_toArray, List.set_cons_zero, List.set_cons_succ]
      rfl
    refine rg_call (i := 13) (N := some 49) (f := 108) (args := ?_) #[true, true, true, true, true, true, true, true, true, true, true, true, true, true, false] rfl rfl (by kernel_rfl) Try.func108 (by kernel_rfl) rfl (by rfl) rfl ?_ ?_
    rotate_left
    · (try simp only [List.map_toArray, List.map_cons, List.map_nil]); rfl
    refine (within_any hra).mono ?_
    rintro e w3 ⟨rfl, rfl⟩
    refine ⟨_, rfl, ⟨sd.k0, sd.k1, e4, e5⟩, fun hHeld => ?_⟩
    refine rg_norm (a' := ?_) ?_ ?_
    rotate_left
    · show Act.put _ (some 49) _ = _
      simp only [Act.put, List.setIfInBounds_toArray, List.set_cons_zero, List.set_cons_succ]
      rfl
    refine rg_call (i := 14) (N := some 50) (f := 51) (args := ?_) #[true, true, true, true, true, true, true, true, true, true, true, true, true, true, true] rfl rfl (by kernel_rfl) Try.func51 (by kernel_rfl) rfl (by rfl) rfl ?_ ?_
    rotate_left
    · (try simp only [List.map_toArray, List.map_cons, List.map_nil]); rfl
    refine (need_any _ 7 sd.hc).mono ?_
    rintro e w3 ⟨rfl, hc1, hu1⟩
    have s2 := sd.call hc1 hu1
    have e6 := hu1.cell (by simpa using sd.ne.symm) e4
    have e7 := hu1.cell (by simpa using sd.ne.symm) e5
    refine ⟨_, rfl, ⟨s2.k0, s2.k1, e6, e7⟩, fun hHeld => ?_⟩
    refine rg_norm (a' := ?_) ?_ ?_
    rotate_left
    · show Act.put _ (some 50) _ = _
      simp only [Act.put, List.setIfInBounds_toArray, List.set_cons_zero, List.set_cons_succ]
      rfl
    refine rg_done (by kernel_rfl) ?_
    clear sd hc1 hu1 e4 e5 e6 e7 hHeld
    go_wp2_with fail
    go_end0
    exact hpost _ s2
  case neg =>
    have hq : (decide (1 ≤ n) && decide (n ≤ most)) = false := by simp [hn]
    rw [hq] at hpost
    obtain rfl : n = 0 := by omega
    clear hq
    have sd := st3.drew
    refine rg_start (S := fun w' => w'.cell? ⟨bf, 0, none⟩ = some (.pointer (some ⟨g, 0, none⟩)) ∧ w'.cell? ⟨bf, 1, none⟩ = some (.pointer (some ⟨gm, 0, none⟩)) ∧ w'.cell? ⟨gm, 3, none⟩ = some (.int .u16 0)) (n := 18) #[false, false, false, false, false, false, false, false, false, false, false, false, false, false, false, false, false, false] (by kernel_rfl) rfl rfl ⟨sd.k0, sd.k1, e3⟩ (fun hHeld => ?_)
    refine rg_take (i := 0) (N := some 18) (v := ?_) (a' := ?_) #[true, false, false, false, false, false, false, false, false, false, false, false, false, false, false, false, false, false] rfl rfl (by kernel_rfl) (fun _ _ _ h => h) (Or.inl ⟨by rfl, ?_⟩) hHeld ?_ ?_
    rotate_left
    · rintro w' ⟨hs0, hs1, hs2⟩
      go_simp
      with_reducible rfl
    rotate_left
    · simp only [Act.put, List.setIfInBounds_toArray, List.set_cons_zero, List.set_cons_succ]
      rfl
    refine rg_take (i := 1) (N := some 19) (v := ?_) (a' := ?_) #[true, true, false, false, false, false, false, false, false, false, false, false, false, false, false, false, false, false] rfl rfl (by kernel_rfl) (fun _ _ _ h => h) (Or.inl ⟨by rfl, ?_⟩) hHeld ?_ ?_
    rotate_left
    · rintro w' ⟨hs0, hs1, hs2⟩
      go_simp
      with_reducible rfl
    rotate_left
    · simp only [Act.put, List.setIfInBounds_toArray, List.set_cons_zero, List.set_cons_succ]
      rfl
    refine rg_take (i := 2) (N := some 20) (v := ?_) (a' := ?_) #[true, true, true, false, false, false, false, false, false, false, false, false, false, false, false, false, false, false] rfl rfl (by kernel_rfl) (fun _ _ _ h => h) (Or.inl ⟨by rfl, ?_⟩) hHeld ?_ ?_
    rotate_left
    · rintro w' ⟨hs0, hs1, hs2⟩
      go_simp
      with_reducible rfl
    rotate_left
    · simp only [Act.put, List.setIfInBounds_toArray, List.set_cons_zero, List.set_cons_succ]
      rfl
    refine rg_take (i := 3) (N := some 21) (v := ?_) (a' := ?_) #[true, true, true, true, false, false, false, false, false, false, false, false, false, false, false, false, false, false] rfl rfl (by kernel_rfl) (fun _ _ _ h => h) (Or.inl ⟨by rfl, ?_⟩) hHeld ?_ ?_
    rotate_left
    · rintro w' ⟨hs0, hs1, hs2⟩
      go_simp
      with_reducible rfl
    rotate_left
    · simp only [Act.put, List.setIfInBounds_toArray, List.set_cons_zero, List.set_cons_succ]
      rfl
    refine rg_take (i := 4) (N := some 22) (v := ?_) (a' := ?_) #[true, true, true, true, true, false, false, false, false, false, false, false, false, false, false, false, false, false] rfl rfl (by kernel_rfl) (fun _ _ _ h => h) (Or.inl ⟨by rfl, ?_⟩) hHeld ?_ ?_
    rotate_left
    · rintro w' ⟨hs0, hs1, hs2⟩
      go_simp
      with_reducible rfl
    rotate_left
    · simp only [Act.put, List.setIfInBounds_toArray, List.set_cons_zero, List.set_cons_succ]
      rfl
    refine rg_take (i := 5) (N := some 23) (v := ?_) (a' := ?_) #[true, true, true, true, true, true, false, false, false, false, false, false, false, false, false, false, false, false] rfl rfl (by kernel_rfl) (fun _ _ _ h => h) (Or.inl ⟨by rfl, ?_⟩) hHeld ?_ ?_
    rotate_left
    · rintro w' ⟨hs0, hs1, hs2⟩
      go_simp
      with_reducible rfl
    rotate_left
    · simp only [Act.put, List.setIfInBounds_toArray, List.set_cons_zero, List.set_cons_succ]
      rfl
    refine rg_take (i := 6) (N := some 24) (v := ?_) (a' := ?_) #[true, true, true, true, true, true, true, false, false, false, false, false, false, false, false, false, false, false] rfl rfl (by kernel_rfl) (fun _ _ _ h => h) (Or.inl ⟨by rfl, ?_⟩) hHeld ?_ ?_
    rotate_left
    · rintro w' ⟨hs0, hs1, hs2⟩
      go_simp
      with_reducible rfl
    rotate_left
    · simp only [Act.put, List.setIfInBounds_toArray, List.set_cons_zero, List.set_cons_succ]
      rfl
    refine rg_take (i := 7) (N := some 25) (v := ?_) (a' := ?_) #[true, true, true, true, true, true, true, true, false, false, false, false, false, false, false, false, false, false] rfl rfl (by kernel_rfl) (fun _ _ _ h => h) (Or.inl ⟨by rfl, ?_⟩) hHeld ?_ ?_
    rotate_left
    · rintro w' ⟨hs0, hs1, hs2⟩
      go_simp
      with_reducible rfl
    rotate_left
    · simp only [Act.put, List.setIfInBounds_toArray, List.set_cons_zero, List.set_cons_succ]
      rfl
    refine rg_take (i := 8) (N := some 26) (v := ?_) (a' := ?_) #[true, true, true, true, true, true, true, true, true, false, false, false, false, false, false, false, false, false] rfl rfl (by kernel_rfl) (fun _ _ _ h => h) (Or.inl ⟨by rfl, ?_⟩) hHeld ?_ ?_
    rotate_left
    · rintro w' ⟨hs0, hs1, hs2⟩
      go_simp
      with_reducible rfl
    rotate_left
    · simp only [Act.put, List.setIfInBounds_toArray, List.set_cons_zero, List.set_cons_succ]
      rfl
    refine rg_take (i := 9) (N := some 27) (v := undef) (a' := ?_) #[true, true, true, true, true, true, true, true, true, true, false, false, false, false, false, false, false, false] rfl rfl (by kernel_rfl) (fun _ _ _ h => h) (Or.inr ⟨by rfl, rfl⟩) hHeld ?_ ?_
    rotate_left
    · simp only [Act.put, List.setIfInBounds_toArray, List.set_cons_zero, List.set_cons_succ]
      rfl
    refine rg_take (i := 10) (N := some 28) (v := undef) (a' := ?_) #[true, true, true, true, true, true, true, true, true, true, true, false, false, false, false, false, false, false] rfl rfl (by kernel_rfl) (fun _ _ _ h => h) (Or.inr ⟨by rfl, rfl⟩) hHeld ?_ ?_
    rotate_left
    · simp only [Act.put, List.setIfInBounds_toArray, List.set_cons_zero, List.set_cons_succ]
      rfl
    refine rg_take (i := 11) (N := some 29) (v := undef) (a' := ?_) #[true, true, true, true, true, true, true, true, true, true, true, true, false, false, false, false, false, false] rfl rfl (by kernel_rfl) (fun _ _ _ h => h) (Or.inr ⟨by rfl, rfl⟩) hHeld ?_ ?_
    rotate_left
    · simp only [Act.put, List.setIfInBounds_toArray, List.set_cons_zero, List.set_cons_succ]
      rfl
    refine rg_take (i := 12) (N := some 30) (v := undef) (a' := ?_) #[true, true, true, true, true, true, true, true, true, true, true, true, true, false, false, false, false, false] rfl rfl (by kernel_rfl) (fun _ _ _ h => h) (Or.inr ⟨by rfl, rfl⟩) hHeld ?_ ?_
    rotate_left
    · simp only [Act.put, List.setIfInBounds_toArray, List.set_cons_zero, List.set_cons_succ]
      rfl
    refine rg_take (i := 13) (N := some 31) (v := undef) (a' := ?_) #[true, true, true, true, true, true, true, true, true, true, true, true, true, true, false, false, false, false] rfl rfl (by kernel_rfl) (fun _ _ _ h => h) (Or.inr ⟨by rfl, rfl⟩) hHeld ?_ ?_
    rotate_left
    · simp only [Act.put, List.setIfInBounds_toArray, List.set_cons_zero, List.set_cons_succ]
      rfl
    refine rg_take (i := 14) (N := some 32) (v := undef) (a' := ?_) #[true, true, true, true, true, true, true, true, true, true, true, true, true, true, true, false, false, false] rfl rfl (by kernel_rfl) (fun _ _ _ h => h) (Or.inr ⟨by rfl, rfl⟩) hHeld ?_ ?_
    rotate_left
    · simp only [Act.put, List.setIfInBounds_toArray, List.set_cons_zero, List.set_cons_succ]
      rfl
    refine rg_take (i := 15) (N := some 33) (v := undef) (a' := ?_) #[true, true, true, true, true, true, true, true, true, true, true, true, true, true, true, true, false, false] rfl rfl (by kernel_rfl) (fun _ _ _ h => h) (Or.inr ⟨by rfl, rfl⟩) hHeld ?_ ?_
    rotate_left
    · simp only [Act.put, List.setIfInBounds_toArray, List.set_cons_zero, List.set_cons_succ]
      rfl
    refine rg_take (i := 16) (N := some 34) (v := ?_) (a' := ?_) #[true, true, true, true, true, true, true, true, true, true, true, true, true, true, true, true, true, false] rfl rfl (by kernel_rfl) (fun _ _ _ h => h) (Or.inl ⟨by rfl, ?_⟩) hHeld ?_ ?_
    rotate_left
    · rintro w' ⟨hs0, hs1, hs2⟩
      go_simp
      with_reducible rfl
    rotate_left
    · simp only [Act.put, List.setIfInBounds_toArray, List.set_cons_zero, List.set_cons_succ]
      rfl
    refine rg_call (i := 17) (N := some 35) (f := 51) (args := ?_) #[true, true, true, true, true, true, true, true, true, true, true, true, true, true, true, true, true, true] rfl rfl (by kernel_rfl) Try.func51 (by kernel_rfl) rfl (by rfl) rfl ?_ ?_
    rotate_left
    · (try simp only [List.map_toArray, List.map_cons, List.map_nil]); rfl
    refine (need_any _ 5 sd.hc).mono ?_
    rintro e w2 ⟨rfl, hc1, hu1⟩
    have s1 := sd.call hc1 hu1
    have e4 := hu1.cell (by simpa using sd.ne.symm) e3
    have e5 := hu1.cell (by simpa using sd.ne.symm) e2
    refine ⟨_, rfl, ⟨s1.k0, s1.k1, e4⟩, fun hHeld => ?_⟩
    refine rg_norm (a' := ?_) ?_ ?_
    rotate_left
    · show Act.put _ (some 35) _ = _
      simp only [Act.put, List.setIfInBounds_toArray, List.set_cons_zero, List.set_cons_succ]
      rfl
    refine rg_done (by kernel_rfl) ?_
    clear st3 e3 e2 sd hc1 hu1 hn hHeld
    go_wp2_with fail
    have sd := s1.drew
    refine rg_start (S := fun w' => w'.cell? ⟨bf, 0, none⟩ = some (.pointer (some ⟨g, 0, none⟩)) ∧ w'.cell? ⟨bf, 1, none⟩ = some (.pointer (some ⟨gm, 0, none⟩)) ∧ w'.cell? ⟨gm, 3, none⟩ = some (.int .u16 0) ∧ w'.cell? ⟨gm, 2, none⟩ = some (.int .u16 a)) (n := 15) #[false, false, false, false, false, false, false, false, false, false, false, false, false, false, false] (by kernel_rfl) rfl rfl ⟨sd.k0, sd.k1, e4, e5⟩ (fun hHeld => ?_)
    refine rg_take (i := 0) (N := some 36) (v := ?_) (a' := ?_) #[true, false, false, false, false, false, false, false, false, false, false, false, false, false, false] rfl rfl (by kernel_rfl) (fun _ _ _ h => h) (Or.inl ⟨by rfl, ?_⟩) hHeld ?_ ?_
    rotate_left
    · rintro w' ⟨hs0, hs1, hs2, hs3⟩
      go_simp
      with_reducible rfl
    rotate_left
    · simp only [Act.put, List.setIfInBounds_toArray, List.set_cons_zero, List.set_cons_succ]
      rfl
    refine rg_take (i := 1) (N := some 37) (v := ?_) (a' := ?_) #[true, true, false, false, false, false, false, false, false, false, false, false, false, false, false] rfl rfl (by kernel_rfl) (fun _ _ _ h => h) (Or.inl ⟨by rfl, ?_⟩) hHeld ?_ ?_
    rotate_left
    · rintro w' ⟨hs0, hs1, hs2, hs3⟩
      go_simp
      with_reducible rfl
    rotate_left
    · simp only [Act.put, List.setIfInBounds_toArray, List.set_cons_zero, List.set_cons_succ]
      rfl
    refine rg_take (i := 2) (N := some 38) (v := ?_) (a' := ?_) #[true, true, true, false, false, false, false, false, false, false, false, false, false, false, false] rfl rfl (by kernel_rfl) (fun _ _ _ h => h) (Or.inl ⟨by rfl, ?_⟩) hHeld ?_ ?_
    rotate_left
    · rintro w' ⟨hs0, hs1, hs2, hs3⟩
      go_simp
      with_reducible rfl
    rotate_left
    · simp only [Act.put, List.setIfInBounds_toArray, List.set_cons_zero, List.set_cons_succ]
      rfl
    refine rg_take (i := 3) (N := some 39) (v := ?_) (a' := ?_) #[true, true, true, true, false, false, false, false, false, false, false, false, false, false, false] rfl rfl (by kernel_rfl) (fun _ _ _ h => h) (Or.inl ⟨by rfl, ?_⟩) hHeld ?_ ?_
    rotate_left
    · rintro w' ⟨hs0, hs1, hs2, hs3⟩
      go_simp
      with_reducible rfl
    rotate_left
    · simp only [Act.put, List.setIfInBounds_toArray, List.set_cons_zero, List.set_cons_succ]
      rfl
    refine rg_take (i := 4) (N := some 40) (v := ?_) (a' := ?_) #[true, true, true, true, true, false, false, false, false, false, false, false, false, false, false] rfl rfl (by kernel_rfl) (fun _ _ _ h => h) (Or.inl ⟨by rfl, ?_⟩) hHeld ?_ ?_
    rotate_left
    · rintro w' ⟨hs0, hs1, hs2, hs3⟩
      go_simp
      with_reducible rfl
    rotate_left
    · simp only [Act.put, List.setIfInBounds_toArray, List.set_cons_zero, List.set_cons_succ]
      rfl
    refine rg_take (i := 5) (N := some 41) (v := ?_) (a' := ?_) #[true, true, true, true, true, true, false, false, false, false, false, false, false, false, false] rfl rfl (by kernel_rfl) (fun _ _ _ h => h) (Or.inl ⟨by rfl, ?_⟩) hHeld ?_ ?_
    rotate_left
    · rintro w' ⟨hs0, hs1, hs2, hs3⟩
      go_simp
      with_reducible rfl
    rotate_left
    · simp only [Act.put, List.setIfInBounds_toArray, List.set_cons_zero, List.set_cons_succ]
      rfl
    refine rg_take (i := 6) (N := some 42) (v := ?_) (a' := ?_) #[true, true, true, true, true, true, true, false, false, false, false, false, false, false, false] rfl rfl (by kernel_rfl) (fun _ _ _ h => h) (Or.inl ⟨by rfl, ?_⟩) hHeld ?_ ?_
    rotate_left
    · rintro w' ⟨hs0, hs1, hs2, hs3⟩
      go_simp
      with_reducible rfl
    rotate_left
    · simp only [Act.put, List.setIfInBounds_toArray, List.set_cons_zero, List.set_cons_succ]
      rfl
    refine rg_take (i := 7) (N := some 43) (v := ?_) (a' := ?_) #[true, true, true, true, true, true, true, true, false, false, false, false, false, false, false] rfl rfl (by kernel_rfl) (fun _ _ _ h => h) (Or.inl ⟨by rfl, ?_⟩) hHeld ?_ ?_
    rotate_left
    · rintro w' ⟨hs0, hs1, hs2, hs3⟩
      go_simp
      with_reducible rfl
    rotate_left
    · simp only [Act.put, List.setIfInBounds_toArray, List.set_cons_zero, List.set_cons_succ]
      rfl
    refine rg_take (i := 8) (N := some 44) (v := ?_) (a' := ?_) #[true, true, true, true, true, true, true, true, true, false, false, false, false, false, false] rfl rfl (by kernel_rfl) (fun _ _ _ h => h) (Or.inl ⟨by rfl, ?_⟩) hHeld ?_ ?_
    rotate_left
    · rintro w' ⟨hs0, hs1, hs2, hs3⟩
      go_simp
      with_reducible rfl
    rotate_left
    · simp only [Act.put, List.setIfInBounds_toArray, List.set_cons_zero, List.set_cons_succ]
      rfl
    refine rg_take (i := 9) (N := some 45) (v := ?_) (a' := ?_) #[true, true, true, true, true, true, true, true, true, true, false, false, false, false, false] rfl rfl (by kernel_rfl) (fun _ _ _ h => h) (Or.inl ⟨by rfl, ?_⟩) hHeld ?_ ?_
    rotate_left
    · rintro w' ⟨hs0, hs1, hs2, hs3⟩
      go_simp
      with_reducible rfl
    rotate_left
    · simp only [Act.put, List.setIfInBounds_toArray, List.set_cons_zero, List.set_cons_succ]
      rfl
    refine rg_take (i := 10) (N := some 46) (v := ?_) (a' := ?_) #[true, true, true, true, true, true, true, true, true, true, true, false, false, false, false] rfl rfl (by kernel_rfl) (fun _ _ _ h => h) (Or.inl ⟨by rfl, ?_⟩) hHeld ?_ ?_
    rotate_left
    · rintro w' ⟨hs0, hs1, hs2, hs3⟩
      go_simp
      with_reducible rfl
    rotate_left
    · simp only [Act.put, List.setIfInBounds_toArray, List.set_cons_zero, List.set_cons_succ]
      rfl
    refine rg_take (i := 11) (N := some 47) (v := ?_) (a' := ?_) #[true, true, true, true, true, true, true, true, true, true, true, true, false, false, false] rfl rfl (by kernel_rfl) (fun _ _ _ h => h) (Or.inl ⟨by rfl, ?_⟩) hHeld ?_ ?_
    rotate_left
    · rintro w' ⟨hs0, hs1, hs2, hs3⟩
      go_simp
      with_reducible rfl
    rotate_left
    · simp only [Act.put, List.setIfInBounds_toArray, List.set_cons_zero, List.set_cons_succ]
      rfl
    refine rg_take (i := 12) (N := some 48) (v := ?_) (a' := ?_) #[true, true, true, true, true, true, true, true, true, true, true, true, true, false, false] rfl rfl (by kernel_rfl) (fun _ _ _ h => h) (Or.inl ⟨by rfl, ?_⟩) hHeld ?_ ?_
    rotate_left
    · rintro w' ⟨hs0, hs1, hs2, hs3⟩
      go_simp
      with_reducible rfl
    rotate_left
    · simp only [Act.put, List.setIfInBounds_toArray, List.set_cons_zero, List.set_cons_succ]
      rfl
    refine rg_call (i := 13) (N := some 49) (f := 108) (args := ?_) #[true, true, true, true, true, true, true, true, true, true, true, true, true, true, false] rfl rfl (by kernel_rfl) Try.func108 (by kernel_rfl) rfl (by rfl) rfl ?_ ?_
    rotate_left
    · (try simp only [List.map_toArray, List.map_cons, List.map_nil]); rfl
    refine (within_any hra).mono ?_
    rintro e w3 ⟨rfl, rfl⟩
    refine ⟨_, rfl, ⟨sd.k0, sd.k1, e4, e5⟩, fun hHeld => ?_⟩
    refine rg_norm (a' := ?_) ?_ ?_
    rotate_left
    · show Act.put _ (some 49) _ = _
      simp only [Act.put, List.setIfInBounds_toArray, List.set_cons_zero, List.set_cons_succ]
      rfl
    refine rg_call (i := 14) (N := some 50) (f := 51) (args := ?_) #[true, true, true, true, true, true, true, true, true, true, true, true, true, true, true] rfl rfl (by kernel_rfl) Try.func51 (by kernel_rfl) rfl (by rfl) rfl ?_ ?_
    rotate_left
    · (try simp only [List.map_toArray, List.map_cons, List.map_nil]); rfl
    refine (need_any _ 7 sd.hc).mono ?_
    rintro e w3 ⟨rfl, hc1, hu1⟩
    have s2 := sd.call hc1 hu1
    have e6 := hu1.cell (by simpa using sd.ne.symm) e4
    have e7 := hu1.cell (by simpa using sd.ne.symm) e5
    refine ⟨_, rfl, ⟨s2.k0, s2.k1, e6, e7⟩, fun hHeld => ?_⟩
    refine rg_norm (a' := ?_) ?_ ?_
    rotate_left
    · show Act.put _ (some 50) _ = _
      simp only [Act.put, List.setIfInBounds_toArray, List.set_cons_zero, List.set_cons_succ]
      rfl
    refine rg_done (by kernel_rfl) ?_
    clear sd hc1 hu1 e4 e5 e6 e7 hHeld
    go_wp2_with fail
    go_end0
    exact hpost _ s2
set_option maxRecDepth 100000 in
set_option maxHeartbeats 1000000 in
theorem asksRead_any {g gm : Nat} {c : Cur} {cs : Array Value} {w : World} (hc : CurAt w g c) (hm : MsgB w gm cs) :
    Calls Try.prog 53 #[.agg #[.pointer (some ⟨g, 0, none⟩), .pointer (some ⟨gm, 0, none⟩)]] w
      (PForm g gm (spanC c 2000) ((cs.setIfInBounds 2 (.int .u16 c.wordV)).setIfInBounds 3 (.int .u16 (c.wordsC 1).wordV)) w) := by
  have st := FormSt.start hc hm
  have k0 := st.k0
  have k1 := st.k1
  obtain ⟨W0, hW0⟩ : ∃ W0, w.alloc (.cells #[.pointer (some ⟨g, 0, none⟩), .pointer (some ⟨gm, 0, none⟩)] 91) = W0 := ⟨_, rfl⟩
  obtain ⟨bf, hbf⟩ : ∃ bf, w.heap.size = bf := ⟨_, rfl⟩
  rw [hW0, hbf] at st k0 k1
  clear hc hm
  go_enter Try.func53, Try.ntmps53
  go_wp2_with (go_at_call 80; refine (span_any st.hc st.hm (by omega)).mono ?_; rintro e w1 ⟨rfl, hc1, hm1, hu1⟩)
  go_end0
  exact (st.both hc1 hm1 hu1).post
set_option maxRecDepth 100000 in
set_option maxHeartbeats 1000000 in
theorem done_any {g gm : Nat} {c : Cur} {cs : Array Value} {w : World} (hc : CurAt w g c) (hm : MsgB w gm cs) :
    Calls Try.prog 57 #[.agg #[.pointer (some ⟨g, 0, none⟩), .pointer (some ⟨gm, 0, none⟩)]] w
      (PForm g gm (spanC c 1968) ((cs.setIfInBounds 2 (.int .u16 c.wordV)).setIfInBounds 3 (.int .u16 (c.wordsC 1).wordV)) w) := by
  have st := FormSt.start hc hm
  have k0 := st.k0
  have k1 := st.k1
  obtain ⟨W0, hW0⟩ : ∃ W0, w.alloc (.cells #[.pointer (some ⟨g, 0, none⟩), .pointer (some ⟨gm, 0, none⟩)] 91) = W0 := ⟨_, rfl⟩
  obtain ⟨bf, hbf⟩ : ∃ bf, w.heap.size = bf := ⟨_, rfl⟩
  rw [hW0, hbf] at st k0 k1
  clear hc hm
  go_enter Try.func57, Try.ntmps57
  go_wp2_with (go_at_call 80; refine (span_any st.hc st.hm (by omega)).mono ?_; rintro e w1 ⟨rfl, hc1, hm1, hu1⟩)
  go_end0
  exact (st.both hc1 hm1 hu1).post
def toldC2 (c : Cur) : Cur := (c.bytesC 1).need (decide (1 ≤ c.byteV) && decide (c.byteV ≤ 250)) 5
def PTold (g gm : Nat) (c : Cur) (cs : Array Value) (w : World) (e : Ending) (w' : World) : Prop :=
  ∃ v, e = .returned (.tuple #[]) ∧ CurAt w' g ((toldC2 c).bytesC c.byteV) ∧ MsgB w' gm (cs.setIfInBounds 14 v) ∧ RdB true w' v ((toldC2 c).bytesR c.byteV) ∧ Upd [g, gm] w w'
set_option maxRecDepth 100000 in
set_option maxHeartbeats 1000000 in
theorem told_any {g gm : Nat} {c : Cur} {cs : Array Value} {w : World} (hc : CurAt w g c) (hm : MsgB w gm cs) :
    Calls Try.prog 54 #[.agg #[.pointer (some ⟨g, 0, none⟩), .pointer (some ⟨gm, 0, none⟩)]] w (PTold g gm c cs w) := by
  have st := FormSt.start hc hm
  have k0 := st.k0
  have k1 := st.k1
  obtain ⟨W0, hW0⟩ : ∃ W0, w.alloc (.cells #[.pointer (some ⟨g, 0, none⟩), .pointer (some ⟨gm, 0, none⟩)] 91) = W0 := ⟨_, rfl⟩
  obtain ⟨bf, hbf⟩ : ∃ bf, w.heap.size = bf := ⟨_, rfl⟩
  rw [hW0, hbf] at st k0 k1
  have hpost : ∀ W v, FormSt w W bf g gm ((toldC2 c).bytesC c.byteV) cs → RdB true W v (((c.bytesC 1).need (decide (1 ≤ c.byteV) && decide (c.byteV ≤ 250)) 5).bytesR c.byteV) → PTold g gm c cs w (.returned (.tuple #[])) (W.setCell ⟨gm, 14, none⟩ v) := fun W v h hr =>
    have h' := h.store 14 v
    ⟨v, rfl, h'.hc, h'.hm, RdB.upd' hr ((Upd.refl [gm] W).setCell (p := ⟨gm, 14, none⟩) (.inl (by simp)) v) (h.hm.safe _ (by decide)), h'.u⟩
  unfold toldC2 at hpost
  have hb := byte_any st.hc
  have hr := st.hc.byteV
  revert hpost hb hr
  generalize PTold g gm c cs w = P
  generalize c.byteV = n
  intro hpost hb hr
  have hwn : IntKind.i64.wrap n = n := IntWalk.i64_in _ (by omega)
  clear hc hm
  by_cases hn : 1 ≤ n
  case pos =>
    have hq : (decide (1 ≤ n) && decide (n ≤ 250)) = decide (n ≤ 250) := by simp [hn]
    rw [hq] at hpost
    clear hq
    go_enter Try.func54, Try.ntmps54
    go_wp2_with (first | (go_at_call 30; refine hb.mono ?_; rintro e w1 ⟨rfl, hc1, hu1, _⟩; have s1 := st.call hc1 hu1; have k2 := s1.k0; have k3 := s1.k1; clear hb hW0 hbf) | (go_at_call 51; refine (need_any _ 5 s1.hc).mono ?_; rintro e w2 ⟨rfl, hc2, hu2⟩; have s2 := s1.call hc2 hu2; have k4 := s2.k0; have k5 := s2.k1))
    have sd := s2.drew
    refine rg_start (S := fun w' => w'.cell? ⟨bf, 0, none⟩ = some (.pointer (some ⟨g, 0, none⟩)) ∧ w'.cell? ⟨bf, 1, none⟩ = some (.pointer (some ⟨gm, 0, none⟩))) (n := 10) #[false, false, false, false, false, false, false, false, false, false] (by kernel_rfl) rfl rfl ⟨sd.k0, sd.k1⟩ (fun hHeld => ?_)
    refine rg_take (i := 0) (N := some 15) (v := ?_) (a' := ?_) #[true, false, false, false, false, false, false, false, false, false] rfl rfl (by kernel_rfl) (fun _ _ _ h => h) (Or.inl ⟨by rfl, ?_⟩) hHeld ?_ ?_
    rotate_left
    · rintro w' ⟨hs0, hs1⟩
      go_simp
      with_reducible rfl
    rotate_left
    · simp only [Act.put, List.setIfInBounds_toArray, List.set_cons_zero, List.set_cons_succ]
      rfl
    refine rg_take (i := 1) (N := some 16) (v := ?_) (a' := ?_) #[true, true, false, false, false, false, false, false, false, false] rfl rfl (by kernel_rfl) (fun _ _ _ h => h) (Or.inl ⟨by rfl, ?_⟩) hHeld ?_ ?_
    rotate_left
    · rintro w' ⟨hs0, hs1⟩
      go_simp
      with_reducible rfl
    rotate_left
    · simp only [Act.put, List.setIfInBounds_toArray, List.set_cons_zero, List.set_cons_succ]
      rfl
    refine rg_take (i := 2) (N := some 17) (v := ?_) (a' := ?_) #[true, true, true, false, false, false, false, false, false, false] rfl rfl (by kernel_rfl) (fun _ _ _ h => h) (Or.inl ⟨by rfl, ?_⟩) hHeld ?_ ?_
    rotate_left
    · rintro w' ⟨hs0, hs1⟩
      go_simp
      with_reducible rfl
    rotate_left
    · simp only [Act.put, List.setIfInBounds_toArray, List.set_cons_zero, List.set_cons_succ]
      rfl
    refine rg_take (i := 3) (N := some 18) (v := ?_) (a' := ?_) #[true, true, true, true, false, false, false, false, false, false] rfl rfl (by kernel_rfl) (fun _ _ _ h => h) (Or.inl ⟨by rfl, ?_⟩) hHeld ?_ ?_
    rotate_left
    · rintro w' ⟨hs0, hs1⟩
      go_simp
      with_reducible rfl
    rotate_left
    · simp only [Act.put, List.setIfInBounds_toArray, List.set_cons_zero, List.set_cons_succ]
      rfl
    refine rg_take (i := 4) (N := some 19) (v := ?_) (a' := ?_) #[true, true, true, true, true, false, false, false, false, false] rfl rfl (by kernel_rfl) (fun _ _ _ h => h) (Or.inl ⟨by rfl, ?_⟩) hHeld ?_ ?_
    rotate_left
    · rintro w' ⟨hs0, hs1⟩
      go_simp
      with_reducible rfl
    rotate_left
    · simp only [Act.put, List.setIfInBounds_toArray, List.set_cons_zero, List.set_cons_succ]
      rfl
    refine rg_take (i := 5) (N := some 20) (v := ?_) (a' := ?_) #[true, true, true, true, true, true, false, false, false, false] rfl rfl (by kernel_rfl) (fun _ _ _ h => h) (Or.inl ⟨by rfl, ?_⟩) hHeld ?_ ?_
    rotate_left
    · rintro w' ⟨hs0, hs1⟩
      go_simp
      with_reducible rfl
    rotate_left
    · simp only [Act.put, List.setIfInBounds_toArray, List.set_cons_zero, List.set_cons_succ]
      rfl
    refine rg_call (i := 6) (N := some 21) (f := 31) (args := ?_) #[true, true, true, true, true, true, true, false, false, false] rfl rfl (by kernel_rfl) Try.func31 (by kernel_rfl) rfl (by rfl) rfl ?_ ?_
    rotate_left
    · (try simp only [List.map_toArray, List.map_cons, List.map_nil]); rfl
    refine (bytes_any sd.hc).mono ?_
    rintro e w3 ⟨v, rfl, hr3, hc3, hu3⟩
    have s3 := sd.call hc3 hu3
    have e3 := s3.hm.cell 14 (by decide)
    have f3 := s3.hm.froz 14
    obtain ⟨A, cp, rfl, _, _⟩ := RdG.shape hr3
    refine ⟨_, rfl, ⟨s3.k0, s3.k1⟩, fun hHeld => ?_⟩
    refine rg_norm (a' := ?_) ?_ ?_
    rotate_left
    · show Act.put _ (some 21) _ = _
      simp only [Act.put, List.setIfInBounds_toArray, List.set_cons_zero, List.set_cons_succ]
      rfl
    refine rg_take (i := 7) (N := some 22) (v := ?_) (a' := ?_) #[true, true, true, true, true, true, true, true, false, false] rfl rfl (by kernel_rfl) (fun _ _ _ h => h) (Or.inl ⟨by rfl, ?_⟩) hHeld ?_ ?_
    rotate_left
    · rintro w' ⟨hs0, hs1⟩
      go_simp
      with_reducible rfl
    rotate_left
    · simp only [Act.put, List.setIfInBounds_toArray, List.set_cons_zero, List.set_cons_succ]
      rfl
    refine rg_take (i := 8) (N := some 23) (v := ?_) (a' := ?_) #[true, true, true, true, true, true, true, true, true, false] rfl rfl (by kernel_rfl) (fun _ _ _ h => h) (Or.inl ⟨by rfl, ?_⟩) hHeld ?_ ?_
    rotate_left
    · rintro w' ⟨hs0, hs1⟩
      go_simp
      with_reducible rfl
    rotate_left
    · simp only [Act.put, List.setIfInBounds_toArray, List.set_cons_zero, List.set_cons_succ]
      rfl
    refine rg_store (i := 9) (w1 := ?_) #[true, true, true, true, true, true, true, true, true, true] rfl rfl (by kernel_rfl) (by rfl) ?_ ?_ (fun hHeld => ?_)
    rotate_left
    · go_simp
      rfl
    · exact ⟨(s3.store 14 _).k0, (s3.store 14 _).k1⟩
    refine rg_done (by kernel_rfl) ?_
    go_wp2_with fail
    go_end0
    exact hpost _ _ s3 hr3
  case neg =>
    obtain rfl : n = 0 := by omega
    have hq : (decide ((1 : Int) ≤ 0) && decide ((0 : Int) ≤ 250)) = false := by simp
    rw [hq] at hpost
    clear hq
    go_enter Try.func54, Try.ntmps54
    go_wp2_with (first | (go_at_call 30; refine hb.mono ?_; rintro e w1 ⟨rfl, hc1, hu1, _⟩; have s1 := st.call hc1 hu1; have k2 := s1.k0; have k3 := s1.k1; clear hb hW0 hbf) | (go_at_call 51; refine (need_any _ 5 s1.hc).mono ?_; rintro e w2 ⟨rfl, hc2, hu2⟩; have s2 := s1.call hc2 hu2; have k4 := s2.k0; have k5 := s2.k1))
    have sd := s2.drew
    refine rg_start (S := fun w' => w'.cell? ⟨bf, 0, none⟩ = some (.pointer (some ⟨g, 0, none⟩)) ∧ w'.cell? ⟨bf, 1, none⟩ = some (.pointer (some ⟨gm, 0, none⟩))) (n := 10) #[false, false, false, false, false, false, false, false, false, false] (by kernel_rfl) rfl rfl ⟨sd.k0, sd.k1⟩ (fun hHeld => ?_)
    refine rg_take (i := 0) (N := some 15) (v := ?_) (a' := ?_) #[true, false, false, false, false, false, false, false, false, false] rfl rfl (by kernel_rfl) (fun _ _ _ h => h) (Or.inl ⟨by rfl, ?_⟩) hHeld ?_ ?_
    rotate_left
    · rintro w' ⟨hs0, hs1⟩
      go_simp
      with_reducible rfl
    rotate_left
    · simp only [Act.put, List.setIfInBounds_toArray, List.set_cons_zero, List.set_cons_succ]
      rfl
    refine rg_take (i := 1) (N := some 16) (v := ?_) (a' := ?_) #[true, true, false, false, false, false, false, false, false, false] rfl rfl (by kernel_rfl) (fun _ _ _ h => h) (Or.inl ⟨by rfl, ?_⟩) hHeld ?_ ?_
    rotate_left
    · rintro w' ⟨hs0, hs1⟩
      go_simp
      with_reducible rfl
    rotate_left
    · simp only [Act.put, List.setIfInBounds_toArray, List.set_cons_zero, List.set_cons_succ]
      rfl
    refine rg_take (i := 2) (N := some 17) (v := ?_) (a' := ?_) #[true, true, true, false, false, false, false, false, false, false] rfl rfl (by kernel_rfl) (fun _ _ _ h => h) (Or.inl ⟨by rfl, ?_⟩) hHeld ?_ ?_
    rotate_left
    · rintro w' ⟨hs0, hs1⟩
      go_simp
      with_reducible rfl
    rotate_left
    · simp only [Act.put, List.setIfInBounds_toArray, List.set_cons_zero, List.set_cons_succ]
      rfl
    refine rg_take (i := 3) (N := some 18) (v := ?_) (a' := ?_) #[true, true, true, true, false, false, false, false, false, false] rfl rfl (by kernel_rfl) (fun _ _ _ h => h) (Or.inl ⟨by rfl, ?_⟩) hHeld ?_ ?_
    rotate_left
    · rintro w' ⟨hs0, hs1⟩
      go_simp
      with_reducible rfl
    rotate_left
    · simp only [Act.put, List.setIfInBounds_toArray, List.set_cons_zero, List.set_cons_succ]
      rfl
    refine rg_take (i := 4) (N := some 19) (v := ?_) (a' := ?_) #[true, true, true, true, true, false, false, false, false, false] rfl rfl (by kernel_rfl) (fun _ _ _ h => h) (Or.inl ⟨by rfl, ?_⟩) hHeld ?_ ?_
    rotate_left
    · rintro w' ⟨hs0, hs1⟩
      go_simp
      with_reducible rfl
    rotate_left
    · simp only [Act.put, List.setIfInBounds_toArray, List.set_cons_zero, List.set_cons_succ]
      rfl
    refine rg_take (i := 5) (N := some 20) (v := ?_) (a' := ?_) #[true, true, true, true, true, true, false, false, false, false] rfl rfl (by kernel_rfl) (fun _ _ _ h => h) (Or.inl ⟨by rfl, ?_⟩) hHeld ?_ ?_
    rotate_left
    · rintro w' ⟨hs0, hs1⟩
      go_simp
      with_reducible rfl
    rotate_left
    · simp only [Act.put, List.setIfInBounds_toArray, List.set_cons_zero, List.set_cons_succ]
      rfl
    refine rg_call (i := 6) (N := some 21) (f := 31) (args := ?_) #[true, true, true, true, true, true, true, false, false, false] rfl rfl (by kernel_rfl) Try.func31 (by kernel_rfl) rfl (by rfl) rfl ?_ ?_
    rotate_left
    · (try simp only [List.map_toArray, List.map_cons, List.map_nil]); rfl
    refine (bytes_any sd.hc).mono ?_
    rintro e w3 ⟨v, rfl, hr3, hc3, hu3⟩
    have s3 := sd.call hc3 hu3
    have e3 := s3.hm.cell 14 (by decide)
    have f3 := s3.hm.froz 14
    obtain ⟨A, cp, rfl, _, _⟩ := RdG.shape hr3
    refine ⟨_, rfl, ⟨s3.k0, s3.k1⟩, fun hHeld => ?_⟩
    refine rg_norm (a' := ?_) ?_ ?_
    rotate_left
    · show Act.put _ (some 21) _ = _
      simp only [Act.put, List.setIfInBounds_toArray, List.set_cons_zero, List.set_cons_succ]
      rfl
    refine rg_take (i := 7) (N := some 22) (v := ?_) (a' := ?_) #[true, true, true, true, true, true, true, true, false, false] rfl rfl (by kernel_rfl) (fun _ _ _ h => h) (Or.inl ⟨by rfl, ?_⟩) hHeld ?_ ?_
    rotate_left
    · rintro w' ⟨hs0, hs1⟩
      go_simp
      with_reducible rfl
    rotate_left
    · simp only [Act.put, List.setIfInBounds_toArray, List.set_cons_zero, List.set_cons_succ]
      rfl
    refine rg_take (i := 8) (N := some 23) (v := ?_) (a' := ?_) #[true, true, true, true, true, true, true, true, true, false] rfl rfl (by kernel_rfl) (fun _ _ _ h => h) (Or.inl ⟨by rfl, ?_⟩) hHeld ?_ ?_
    rotate_left
    · rintro w' ⟨hs0, hs1⟩
      go_simp
      with_reducible rfl
    rotate_left
    · simp only [Act.put, List.setIfInBounds_toArray, List.set_cons_zero, List.set_cons_succ]
      rfl
    refine rg_store (i := 9) (w1 := ?_) #[true, true, true, true, true, true, true, true, true, true] rfl rfl (by kernel_rfl) (by rfl) ?_ ?_ (fun hHeld => ?_)
    rotate_left
    · go_simp
      rfl
    · exact ⟨(s3.store 14 _).k0, (s3.store 14 _).k1⟩
    refine rg_done (by kernel_rfl) ?_
    go_wp2_with fail
    go_end0
    exact hpost _ _ s3 hr3
def setsC (c : Cur) : Cur := ((c.wordsC 1).wordsC 1).need (decide ((c.wordsC 1).wordV = 0) || decide ((c.wordsC 1).wordV = 65280)) 6
set_option maxRecDepth 100000 in
set_option maxHeartbeats 1000000 in
theorem sets_any {g gm : Nat} {c : Cur} {cs : Array Value} {w : World} (hc : CurAt w g c) (hm : MsgB w gm cs) :
    Calls Try.prog 55 #[.agg #[.pointer (some ⟨g, 0, none⟩), .pointer (some ⟨gm, 0, none⟩)]] w
      (PForm g gm (setsC c) ((cs.setIfInBounds 2 (.int .u16 c.wordV)).setIfInBounds 4 (.int .u16 (c.wordsC 1).wordV)) w) := by
  have st := FormSt.start hc hm
  have k0 := st.k0
  have k1 := st.k1
  obtain ⟨W0, hW0⟩ : ∃ W0, w.alloc (.cells #[.pointer (some ⟨g, 0, none⟩), .pointer (some ⟨gm, 0, none⟩)] 91) = W0 := ⟨_, rfl⟩
  obtain ⟨bf, hbf⟩ : ∃ bf, w.heap.size = bf := ⟨_, rfl⟩
  rw [hW0, hbf] at st k0 k1
  have hpost : ∀ W, FormSt w W bf g gm (((c.wordsC 1).wordsC 1).need (decide ((c.wordsC 1).wordV = 0) || decide ((c.wordsC 1).wordV = 65280)) 6) ((cs.setIfInBounds 2 (.int .u16 c.wordV)).setIfInBounds 4 (.int .u16 (c.wordsC 1).wordV)) →
      PForm g gm (setsC c) ((cs.setIfInBounds 2 (.int .u16 c.wordV)).setIfInBounds 4 (.int .u16 (c.wordsC 1).wordV)) w (.returned (.tuple #[])) W := fun W h => h.post
  revert hpost
  generalize PForm g gm (setsC c) ((cs.setIfInBounds 2 (.int .u16 c.wordV)).setIfInBounds 4 (.int .u16 (c.wordsC 1).wordV)) w = P
  intro hpost
  clear hc hm
  go_enter Try.func55, Try.ntmps55
  go_wp2_with fail
  clear hW0 hbf
  have sd := st.drew
  refine rg_start (S := fun w' => w'.cell? ⟨bf, 0, none⟩ = some (.pointer (some ⟨g, 0, none⟩)) ∧ w'.cell? ⟨bf, 1, none⟩ = some (.pointer (some ⟨gm, 0, none⟩))) (n := 8) #[false, false, false, false, false, false, false, false] (by kernel_rfl) rfl rfl ⟨sd.k0, sd.k1⟩ (fun hHeld => ?_)
  refine rg_take (i := 0) (N := some 2) (v := ?_) (a' := ?_) #[true, false, false, false, false, false, false, false] rfl rfl (by kernel_rfl) (fun _ _ _ h => h) (Or.inl ⟨by rfl, ?_⟩) hHeld ?_ ?_
  rotate_left
  · rintro w' ⟨hs0, hs1⟩
    go_simp
    with_reducible rfl
  rotate_left
  · simp only [Act.put, List.setIfInBounds_toArray, List.set_cons_zero, List.set_cons_succ]
    rfl
  refine rg_take (i := 1) (N := some 3) (v := ?_) (a' := ?_) #[true, true, false, false, false, false, false, false] rfl rfl (by kernel_rfl) (fun _ _ _ h => h) (Or.inl ⟨by rfl, ?_⟩) hHeld ?_ ?_
  rotate_left
  · rintro w' ⟨hs0, hs1⟩
    go_simp
    with_reducible rfl
  rotate_left
  · simp only [Act.put, List.setIfInBounds_toArray, List.set_cons_zero, List.set_cons_succ]
    rfl
  refine rg_take (i := 2) (N := some 4) (v := ?_) (a' := ?_) #[true, true, true, false, false, false, false, false] rfl rfl (by kernel_rfl) (fun _ _ _ h => h) (Or.inl ⟨by rfl, ?_⟩) hHeld ?_ ?_
  rotate_left
  · rintro w' ⟨hs0, hs1⟩
    go_simp
    with_reducible rfl
  rotate_left
  · simp only [Act.put, List.setIfInBounds_toArray, List.set_cons_zero, List.set_cons_succ]
    rfl
  refine rg_take (i := 3) (N := some 5) (v := ?_) (a' := ?_) #[true, true, true, true, false, false, false, false] rfl rfl (by kernel_rfl) (fun _ _ _ h => h) (Or.inl ⟨by rfl, ?_⟩) hHeld ?_ ?_
  rotate_left
  · rintro w' ⟨hs0, hs1⟩
    go_simp
    with_reducible rfl
  rotate_left
  · simp only [Act.put, List.setIfInBounds_toArray, List.set_cons_zero, List.set_cons_succ]
    rfl
  refine rg_call (i := 4) (N := some 6) (f := 29) (args := ?_) #[true, true, true, true, true, false, false, false] rfl rfl (by kernel_rfl) Try.func29 (by kernel_rfl) rfl (by rfl) rfl ?_ ?_
  rotate_left
  · (try simp only [List.map_toArray, List.map_cons, List.map_nil]); rfl
  refine (word_any sd.hc).mono ?_
  rintro e w1 ⟨rfl, hc1, hu1, hra⟩
  have s1 := sd.call hc1 hu1
  have e2 := s1.hm.cell 2 (by decide)
  have f2 := s1.hm.froz 2
  refine ⟨_, rfl, ⟨s1.k0, s1.k1⟩, fun hHeld => ?_⟩
  refine rg_norm (a' := ?_) ?_ ?_
  rotate_left
  · show Act.put _ (some 6) _ = _
    simp only [Act.put, List.setIfInBounds_toArray, List.set_cons_zero, List.set_cons_succ]
    rfl
  refine rg_take (i := 5) (N := some 7) (v := ?_) (a' := ?_) #[true, true, true, true, true, true, false, false] rfl rfl (by kernel_rfl) (fun _ _ _ h => h) (Or.inl ⟨by rfl, ?_⟩) hHeld ?_ ?_
  rotate_left
  · rintro w' ⟨hs0, hs1⟩
    go_simp
    with_reducible rfl
  rotate_left
  · simp only [Act.put, List.setIfInBounds_toArray, List.set_cons_zero, List.set_cons_succ]
    rfl
  refine rg_take (i := 6) (N := some 8) (v := ?_) (a' := ?_) #[true, true, true, true, true, true, true, false] rfl rfl (by kernel_rfl) (fun _ _ _ h => h) (Or.inl ⟨by rfl, ?_⟩) hHeld ?_ ?_
  rotate_left
  · rintro w' ⟨hs0, hs1⟩
    go_simp
    with_reducible rfl
  rotate_left
  · simp only [Act.put, List.setIfInBounds_toArray, List.set_cons_zero, List.set_cons_succ]
    rfl
  refine rg_store (i := 7) (w1 := ?_) #[true, true, true, true, true, true, true, true] rfl rfl (by kernel_rfl) (by rfl) ?_ ?_ (fun hHeld => ?_)
  rotate_left
  · go_simp
    rfl
  · exact ⟨(s1.store 2 _).k0, (s1.store 2 _).k1⟩
  refine rg_done (by kernel_rfl) ?_
  have st2 := s1.store 2 (.int .u16 c.wordV)
  clear st sd s1 e2 f2 hc1 hu1 k0 k1 hHeld
  go_wp2_with fail
  have sd := st2.drew
  refine rg_start (S := fun w' => w'.cell? ⟨bf, 0, none⟩ = some (.pointer (some ⟨g, 0, none⟩)) ∧ w'.cell? ⟨bf, 1, none⟩ = some (.pointer (some ⟨gm, 0, none⟩))) (n := 8) #[false, false, false, false, false, false, false, false] (by kernel_rfl) rfl rfl ⟨sd.k0, sd.k1⟩ (fun hHeld => ?_)
  refine rg_take (i := 0) (N := some 9) (v := ?_) (a' := ?_) #[true, false, false, false, false, false, false, false] rfl rfl (by kernel_rfl) (fun _ _ _ h => h) (Or.inl ⟨by rfl, ?_⟩) hHeld ?_ ?_
  rotate_left
  · rintro w' ⟨hs0, hs1⟩
    go_simp
    with_reducible rfl
  rotate_left
  · simp only [Act.put, List.setIfInBounds_toArray, List.set_cons_zero, List.set_cons_succ]
    rfl
  refine rg_take (i := 1) (N := some 10) (v := ?_) (a' := ?_) #[true, true, false, false, false, false, false, false] rfl rfl (by kernel_rfl) (fun _ _ _ h => h) (Or.inl ⟨by rfl, ?_⟩) hHeld ?_ ?_
  rotate_left
  · rintro w' ⟨hs0, hs1⟩
    go_simp
    with_reducible rfl
  rotate_left
  · simp only [Act.put, List.setIfInBounds_toArray, List.set_cons_zero, List.set_cons_succ]
    rfl
  refine rg_take (i := 2) (N := some 11) (v := ?_) (a' := ?_) #[true, true, true, false, false, false, false, false] rfl rfl (by kernel_rfl) (fun _ _ _ h => h) (Or.inl ⟨by rfl, ?_⟩) hHeld ?_ ?_
  rotate_left
  · rintro w' ⟨hs0, hs1⟩
    go_simp
    with_reducible rfl
  rotate_left
  · simp only [Act.put, List.setIfInBounds_toArray, List.set_cons_zero, List.set_cons_succ]
    rfl
  refine rg_take (i := 3) (N := some 12) (v := ?_) (a' := ?_) #[true, true, true, true, false, false, false, false] rfl rfl (by kernel_rfl) (fun _ _ _ h => h) (Or.inl ⟨by rfl, ?_⟩) hHeld ?_ ?_
  rotate_left
  · rintro w' ⟨hs0, hs1⟩
    go_simp
    with_reducible rfl
  rotate_left
  · simp only [Act.put, List.setIfInBounds_toArray, List.set_cons_zero, List.set_cons_succ]
    rfl
  refine rg_call (i := 4) (N := some 13) (f := 29) (args := ?_) #[true, true, true, true, true, false, false, false] rfl rfl (by kernel_rfl) Try.func29 (by kernel_rfl) rfl (by rfl) rfl ?_ ?_
  rotate_left
  · (try simp only [List.map_toArray, List.map_cons, List.map_nil]); rfl
  refine (word_any sd.hc).mono ?_
  rintro e w1 ⟨rfl, hc1, hu1, hrn⟩
  have s1 := sd.call hc1 hu1
  have e2 := s1.hm.cell 4 (by decide)
  have f2 := s1.hm.froz 4
  refine ⟨_, rfl, ⟨s1.k0, s1.k1⟩, fun hHeld => ?_⟩
  refine rg_norm (a' := ?_) ?_ ?_
  rotate_left
  · show Act.put _ (some 13) _ = _
    simp only [Act.put, List.setIfInBounds_toArray, List.set_cons_zero, List.set_cons_succ]
    rfl
  refine rg_take (i := 5) (N := some 14) (v := ?_) (a' := ?_) #[true, true, true, true, true, true, false, false] rfl rfl (by kernel_rfl) (fun _ _ _ h => h) (Or.inl ⟨by rfl, ?_⟩) hHeld ?_ ?_
  rotate_left
  · rintro w' ⟨hs0, hs1⟩
    go_simp
    with_reducible rfl
  rotate_left
  · simp only [Act.put, List.setIfInBounds_toArray, List.set_cons_zero, List.set_cons_succ]
    rfl
  refine rg_take (i := 6) (N := some 15) (v := ?_) (a' := ?_) #[true, true, true, true, true, true, true, false] rfl rfl (by kernel_rfl) (fun _ _ _ h => h) (Or.inl ⟨by rfl, ?_⟩) hHeld ?_ ?_
  rotate_left
  · rintro w' ⟨hs0, hs1⟩
    go_simp
    with_reducible rfl
  rotate_left
  · simp only [Act.put, List.setIfInBounds_toArray, List.set_cons_zero, List.set_cons_succ]
    rfl
  refine rg_store (i := 7) (w1 := ?_) #[true, true, true, true, true, true, true, true] rfl rfl (by kernel_rfl) (by rfl) ?_ ?_ (fun hHeld => ?_)
  rotate_left
  · go_simp
    rfl
  · exact ⟨(s1.store 4 _).k0, (s1.store 4 _).k1⟩
  refine rg_done (by kernel_rfl) ?_
  have st3 := s1.store 4 (.int .u16 (c.wordsC 1).wordV)
  clear st2 sd s1 e2 f2 hc1 hu1 hHeld
  go_wp2_with fail
  have hsz : (cs.setIfInBounds 2 (.int .u16 c.wordV)).size = 22 := by have := st3.hm.2; simpa using this
  have e3 := st3.hm.cellv 4 (by decide) (getD_set_same 4 _ (by omega))
  clear hsz
  revert st3 e3 hra hrn hpost
  generalize (c.wordsC 1).wordV = n
  generalize c.wordV = a
  generalize (c.wordsC 1).wordsC 1 = c3
  generalize (cs.setIfInBounds 2 (.int .u16 a)).setIfInBounds 4 (.int .u16 n) = cs3
  intro hpost hra hrn st3 e3
  by_cases hn : n = 0
  case pos =>
    subst hn
    have hq : (decide ((0 : Int) = 0) || decide ((0 : Int) = 65280)) = true := by simp
    rw [hq] at hpost
    clear hq
    have sd := st3.drew
    refine rg_start (S := fun w' => w'.cell? ⟨bf, 0, none⟩ = some (.pointer (some ⟨g, 0, none⟩)) ∧ w'.cell? ⟨bf, 1, none⟩ = some (.pointer (some ⟨gm, 0, none⟩)) ∧ w'.cell? ⟨gm, 4, none⟩ = some (.int .u16 0)) (n := 17) #[false, false, false, false, false, false, false, false, false, false, false, false, false, false, false, false, false] (by kernel_rfl) rfl rfl ⟨sd.k0, sd.k1, e3⟩ (fun hHeld => ?_)
    refine rg_take (i := 0) (N := some 16) (v := ?_) (a' := ?_) #[true, false, false, false, false, false, false, false, false, false, false, false, false, false, false, false, false] rfl rfl (by kernel_rfl) (fun _ _ _ h => h) (Or.inl ⟨by rfl, ?_⟩) hHeld ?_ ?_
    rotate_left
    · rintro w' ⟨hs0, hs1, hs2⟩
      go_simp
      with_reducible rfl
    rotate_left
    · simp only [Act.put, List.setIfInBounds_toArray, List.set_cons_zero, List.set_cons_succ]
      rfl
    refine rg_take (i := 1) (N := some 17) (v := ?_) (a' := ?_) #[true, true, false, false, false, false, false, false, false, false, false, false, false, false, false, false, false] rfl rfl (by kernel_rfl) (fun _ _ _ h => h) (Or.inl ⟨by rfl, ?_⟩) hHeld ?_ ?_
    rotate_left
    · rintro w' ⟨hs0, hs1, hs2⟩
      go_simp
      with_reducible rfl
    rotate_left
    · simp only [Act.put, List.setIfInBounds_toArray, List.set_cons_zero, List.set_cons_succ]
      rfl
    refine rg_take (i := 2) (N := some 18) (v := ?_) (a' := ?_) #[true, true, true, false, false, false, false, false, false, false, false, false, false, false, false, false, false] rfl rfl (by kernel_rfl) (fun _ _ _ h => h) (Or.inl ⟨by rfl, ?_⟩) hHeld ?_ ?_
    rotate_left
    · rintro w' ⟨hs0, hs1, hs2⟩
      go_simp
      with_reducible rfl
    rotate_left
    · simp only [Act.put, List.setIfInBounds_toArray, List.set_cons_zero, List.set_cons_succ]
      rfl
    refine rg_take (i := 3) (N := some 19) (v := ?_) (a' := ?_) #[true, true, true, true, false, false, false, false, false, false, false, false, false, false, false, false, false] rfl rfl (by kernel_rfl) (fun _ _ _ h => h) (Or.inl ⟨by rfl, ?_⟩) hHeld ?_ ?_
    rotate_left
    · rintro w' ⟨hs0, hs1, hs2⟩
      go_simp
      with_reducible rfl
    rotate_left
    · simp only [Act.put, List.setIfInBounds_toArray, List.set_cons_zero, List.set_cons_succ]
      rfl
    refine rg_take (i := 4) (N := some 20) (v := ?_) (a' := ?_) #[true, true, true, true, true, false, false, false, false, false, false, false, false, false, false, false, false] rfl rfl (by kernel_rfl) (fun _ _ _ h => h) (Or.inl ⟨by rfl, ?_⟩) hHeld ?_ ?_
    rotate_left
    · rintro w' ⟨hs0, hs1, hs2⟩
      go_simp
      with_reducible rfl
    rotate_left
    · simp only [Act.put, List.setIfInBounds_toArray, List.set_cons_zero, List.set_cons_succ]
      rfl
    refine rg_take (i := 5) (N := some 21) (v := ?_) (a' := ?_) #[true, true, true, true, true, true, false, false, false, false, false, false, false, false, false, false, false] rfl rfl (by kernel_rfl) (fun _ _ _ h => h) (Or.inl ⟨by rfl, ?_⟩) hHeld ?_ ?_
    rotate_left
    · rintro w' ⟨hs0, hs1, hs2⟩
      go_simp
      with_reducible rfl
    rotate_left
    · simp only [Act.put, List.setIfInBounds_toArray, List.set_cons_zero, List.set_cons_succ]
      rfl
    refine rg_take (i := 6) (N := some 22) (v := ?_) (a' := ?_) #[true, true, true, true, true, true, true, false, false, false, false, false, false, false, false, false, false] rfl rfl (by kernel_rfl) (fun _ _ _ h => h) (Or.inl ⟨by rfl, ?_⟩) hHeld ?_ ?_
    rotate_left
    · rintro w' ⟨hs0, hs1, hs2⟩
      go_simp
      with_reducible rfl
    rotate_left
    · simp only [Act.put, List.setIfInBounds_toArray, List.set_cons_zero, List.set_cons_succ]
      rfl
    refine rg_take (i := 7) (N := some 23) (v := ?_) (a' := ?_) #[true, true, true, true, true, true, true, true, false, false, false, false, false, false, false, false, false] rfl rfl (by kernel_rfl) (fun _ _ _ h => h) (Or.inl ⟨by rfl, ?_⟩) hHeld ?_ ?_
    rotate_left
    · rintro w' ⟨hs0, hs1, hs2⟩
      go_simp
      with_reducible rfl
    rotate_left
    · simp only [Act.put, List.setIfInBounds_toArray, List.set_cons_zero, List.set_cons_succ]
      rfl
    refine rg_take (i := 8) (N := some 24) (v := ?_) (a' := ?_) #[true, true, true, true, true, true, true, true, true, false, false, false, false, false, false, false, false] rfl rfl (by kernel_rfl) (fun _ _ _ h => h) (Or.inl ⟨by rfl, ?_⟩) hHeld ?_ ?_
    rotate_left
    · rintro w' ⟨hs0, hs1, hs2⟩
      go_simp
      with_reducible rfl
    rotate_left
    · simp only [Act.put, List.setIfInBounds_toArray, List.set_cons_zero, List.set_cons_succ]
      rfl
    refine rg_take (i := 9) (N := some 25) (v := undef) (a' := ?_) #[true, true, true, true, true, true, true, true, true, true, false, false, false, false, false, false, false] rfl rfl (by kernel_rfl) (fun _ _ _ h => h) (Or.inr ⟨by rfl, rfl⟩) hHeld ?_ ?_
    rotate_left
    · simp only [Act.put, List.setIfInBounds_toArray, List.set_cons_zero, List.set_cons_succ]
      rfl
    refine rg_take (i := 10) (N := some 26) (v := undef) (a' := ?_) #[true, true, true, true, true, true, true, true, true, true, true, false, false, false, false, false, false] rfl rfl (by kernel_rfl) (fun _ _ _ h => h) (Or.inr ⟨by rfl, rfl⟩) hHeld ?_ ?_
    rotate_left
    · simp only [Act.put, List.setIfInBounds_toArray, List.set_cons_zero, List.set_cons_succ]
      rfl
    refine rg_take (i := 11) (N := some 27) (v := undef) (a' := ?_) #[true, true, true, true, true, true, true, true, true, true, true, true, false, false, false, false, false] rfl rfl (by kernel_rfl) (fun _ _ _ h => h) (Or.inr ⟨by rfl, rfl⟩) hHeld ?_ ?_
    rotate_left
    · simp only [Act.put, List.setIfInBounds_toArray, List.set_cons_zero, List.set_cons_succ]
      rfl
    refine rg_take (i := 12) (N := some 28) (v := undef) (a' := ?_) #[true, true, true, true, true, true, true, true, true, true, true, true, true, false, false, false, false] rfl rfl (by kernel_rfl) (fun _ _ _ h => h) (Or.inr ⟨by rfl, rfl⟩) hHeld ?_ ?_
    rotate_left
    · simp only [Act.put, List.setIfInBounds_toArray, List.set_cons_zero, List.set_cons_succ]
      rfl
    refine rg_take (i := 13) (N := some 29) (v := undef) (a' := ?_) #[true, true, true, true, true, true, true, true, true, true, true, true, true, true, false, false, false] rfl rfl (by kernel_rfl) (fun _ _ _ h => h) (Or.inr ⟨by rfl, rfl⟩) hHeld ?_ ?_
    rotate_left
    · simp only [Act.put, List.setIfInBounds_toArray, List.set_cons_zero, List.set_cons_succ]
      rfl
    refine rg_take (i := 14) (N := some 30) (v := undef) (a' := ?_) #[true, true, true, true, true, true, true, true, true, true, true, true, true, true, true, false, false] rfl rfl (by kernel_rfl) (fun _ _ _ h => h) (Or.inr ⟨by rfl, rfl⟩) hHeld ?_ ?_
    rotate_left
    · simp only [Act.put, List.setIfInBounds_toArray, List.set_cons_zero, List.set_cons_succ]
      rfl
    refine rg_take (i := 15) (N := some 31) (v := ?_) (a' := ?_) #[true, true, true, true, true, true, true, true, true, true, true, true, true, true, true, true, false] rfl rfl (by kernel_rfl) (fun _ _ _ h => h) (Or.inl ⟨by rfl, ?_⟩) hHeld ?_ ?_
    rotate_left
    · rintro w' ⟨hs0, hs1, hs2⟩
      go_simp
      with_reducible rfl
    rotate_left
    · simp only [Act.put, List.setIfInBounds_toArray, List.set_cons_zero, List.set_cons_succ]
      rfl
    refine rg_call (i := 16) (N := some 32) (f := 51) (args := ?_) #[true, true, true, true, true, true, true, true, true, true, true, true, true, true, true, true, true] rfl rfl (by kernel_rfl) Try.func51 (by kernel_rfl) rfl (by rfl) rfl ?_ ?_
    rotate_left
    · (try simp only [List.map_toArray, List.map_cons, List.map_nil]); rfl
    refine (need_any _ 6 sd.hc).mono ?_
    rintro e w2 ⟨rfl, hc1, hu1⟩
    have s1 := sd.call hc1 hu1
    have e4 := hu1.cell (by simpa using sd.ne.symm) e3
    refine ⟨_, rfl, ⟨s1.k0, s1.k1, e4⟩, fun hHeld => ?_⟩
    refine rg_norm (a' := ?_) ?_ ?_
    rotate_left
    · show Act.put _ (some 32) _ = _
      simp only [Act.put, List.setIfInBounds_toArray, List.set_cons_zero, List.set_cons_succ]
      rfl
    refine rg_done (by kernel_rfl) ?_
    clear st3 e3 sd hc1 hu1 hHeld e4
    go_wp2_with fail
    go_end0
    exact hpost _ s1
  case neg =>
    have hq : (decide (n = 0) || decide (n = 65280)) = (n == 65280) := by simp [hn]; rfl
    rw [hq] at hpost
    have hg : (n == 0) = false := by simpa using hn
    clear hq
    have sd := st3.drew
    refine rg_start (S := fun w' => w'.cell? ⟨bf, 0, none⟩ = some (.pointer (some ⟨g, 0, none⟩)) ∧ w'.cell? ⟨bf, 1, none⟩ = some (.pointer (some ⟨gm, 0, none⟩)) ∧ w'.cell? ⟨gm, 4, none⟩ = some (.int .u16 n)) (n := 17) #[false, false, false, false, false, false, false, false, false, false, false, false, false, false, false, false, false] (by kernel_rfl) rfl rfl ⟨sd.k0, sd.k1, e3⟩ (fun hHeld => ?_)
    refine rg_take (i := 0) (N := some 16) (v := ?_) (a' := ?_) #[true, false, false, false, false, false, false, false, false, false, false, false, false, false, false, false, false] rfl rfl (by kernel_rfl) (fun _ _ _ h => h) (Or.inl ⟨by rfl, ?_⟩) hHeld ?_ ?_
    rotate_left
    · rintro w' ⟨hs0, hs1, hs2⟩
      go_simp
      with_reducible rfl
    rotate_left
    · simp only [Act.put, List.setIfInBounds_toArray, List.set_cons_zero, List.set_cons_succ]
      rfl
    refine rg_take (i := 1) (N := some 17) (v := ?_) (a' := ?_) #[true, true, false, false, false, false, false, false, false, false, false, false, false, false, false, false, false] rfl rfl (by kernel_rfl) (fun _ _ _ h => h) (Or.inl ⟨by rfl, ?_⟩) hHeld ?_ ?_
    rotate_left
    · rintro w' ⟨hs0, hs1, hs2⟩
      go_simp
      with_reducible rfl
    rotate_left
    · simp only [Act.put, List.setIfInBounds_toArray, List.set_cons_zero, List.set_cons_succ]
      rfl
    refine rg_take (i := 2) (N := some 18) (v := ?_) (a' := ?_) #[true, true, true, false, false, false, false, false, false, false, false, false, false, false, false, false, false] rfl rfl (by kernel_rfl) (fun _ _ _ h => h) (Or.inl ⟨by rfl, ?_⟩) hHeld ?_ ?_
    rotate_left
    · rintro w' ⟨hs0, hs1, hs2⟩
      go_simp
      with_reducible rfl
    rotate_left
    · simp only [Act.put, List.setIfInBounds_toArray, List.set_cons_zero, List.set_cons_succ]
      rfl
    refine rg_take (i := 3) (N := some 19) (v := ?_) (a' := ?_) #[true, true, true, true, false, false, false, false, false, false, false, false, false, false, false, false, false] rfl rfl (by kernel_rfl) (fun _ _ _ h => h) (Or.inl ⟨by rfl, ?_⟩) hHeld ?_ ?_
    rotate_left
    · rintro w' ⟨hs0, hs1, hs2⟩
      go_simp
      with_reducible rfl
    rotate_left
    · simp only [Act.put, List.setIfInBounds_toArray, List.set_cons_zero, List.set_cons_succ]
      rfl
    refine rg_take (i := 4) (N := some 20) (v := ?_) (a' := ?_) #[true, true, true, true, true, false, false, false, false, false, false, false, false, false, false, false, false] rfl rfl (by kernel_rfl) (fun _ _ _ h => h) (Or.inl ⟨by rfl, ?_⟩) hHeld ?_ ?_
    rotate_left
    · rintro w' ⟨hs0, hs1, hs2⟩
      go_simp
      with_reducible rfl
    rotate_left
    · simp only [Act.put, List.setIfInBounds_toArray, List.set_cons_zero, List.set_cons_succ]
      rfl
    refine rg_take (i := 5) (N := some 21) (v := ?_) (a' := ?_) #[true, true, true, true, true, true, false, false, false, false, false, false, false, false, false, false, false] rfl rfl (by kernel_rfl) (fun _ _ _ h => h) (Or.inl ⟨by rfl, ?_⟩) hHeld ?_ ?_
    rotate_left
    · rintro w' ⟨hs0, hs1, hs2⟩
      go_simp
      with_reducible rfl
    rotate_left
    · simp only [Act.put, List.setIfInBounds_toArray, List.set_cons_zero, List.set_cons_succ]
      rfl
    refine rg_take (i := 6) (N := some 22) (v := ?_) (a' := ?_) #[true, true, true, true, true, true, true, false, false, false, false, false, false, false, false, false, false] rfl rfl (by kernel_rfl) (fun _ _ _ h => h) (Or.inl ⟨by rfl, ?_⟩) hHeld ?_ ?_
    rotate_left
    · rintro w' ⟨hs0, hs1, hs2⟩
      go_simp
      with_reducible rfl
    rotate_left
    · simp only [Act.put, List.setIfInBounds_toArray, List.set_cons_zero, List.set_cons_succ]
      rfl
    refine rg_take (i := 7) (N := some 23) (v := ?_) (a' := ?_) #[true, true, true, true, true, true, true, true, false, false, false, false, false, false, false, false, false] rfl rfl (by kernel_rfl) (fun _ _ _ h => h) (Or.inl ⟨by rfl, ?_⟩) hHeld ?_ ?_
    rotate_left
    · rintro w' ⟨hs0, hs1, hs2⟩
      go_simp
      with_reducible rfl
    rotate_left
    · simp only [Act.put, List.setIfInBounds_toArray, List.set_cons_zero, List.set_cons_succ]
      rfl
    refine rg_take (i := 8) (N := some 24) (v := ?_) (a' := ?_) #[true, true, true, true, true, true, true, true, true, false, false, false, false, false, false, false, false] rfl rfl (by kernel_rfl) (fun _ _ _ h => h) (Or.inl ⟨by rfl, ?_⟩) hHeld ?_ ?_
    rotate_left
    · rintro w' ⟨hs0, hs1, hs2⟩
      go_simp
      with_reducible rfl
    rotate_left
    · simp only [Act.put, List.setIfInBounds_toArray, List.set_cons_zero, List.set_cons_succ]
      rfl
    refine rg_take (i := 9) (N := some 25) (v := ?_) (a' := ?_) #[true, true, true, true, true, true, true, true, true, true, false, false, false, false, false, false, false] rfl rfl (by kernel_rfl) (fun _ _ _ h => h) (Or.inl ⟨by rfl, ?_⟩) hHeld ?_ ?_
    rotate_left
    · rintro w' ⟨hs0, hs1, hs2⟩
      go_simp
      with_reducible rfl
    rotate_left
    · simp only [Act.put, List.setIfInBounds_toArray, List.set_cons_zero, List.set_cons_succ]
      rfl
    refine rg_take (i := 10) (N := some 26) (v := ?_) (a' := ?_) #[true, true, true, true, true, true, true, true, true, true, true, false, false, false, false, false, false] rfl rfl (by kernel_rfl) (fun _ _ _ h => h) (Or.inl ⟨by rfl, ?_⟩) hHeld ?_ ?_
    rotate_left
    · rintro w' ⟨hs0, hs1, hs2⟩
      go_simp
      with_reducible rfl
    rotate_left
    · simp only [Act.put, List.setIfInBounds_toArray, List.set_cons_zero, List.set_cons_succ]
      rfl
    refine rg_take (i := 11) (N := some 27) (v := ?_) (a' := ?_) #[true, true, true, true, true, true, true, true, true, true, true, true, false, false, false, false, false] rfl rfl (by kernel_rfl) (fun _ _ _ h => h) (Or.inl ⟨by rfl, ?_⟩) hHeld ?_ ?_
    rotate_left
    · rintro w' ⟨hs0, hs1, hs2⟩
      go_simp
      with_reducible rfl
    rotate_left
    · simp only [Act.put, List.setIfInBounds_toArray, List.set_cons_zero, List.set_cons_succ]
      rfl
    refine rg_take (i := 12) (N := some 28) (v := ?_) (a' := ?_) #[true, true, true, true, true, true, true, true, true, true, true, true, true, false, false, false, false] rfl rfl (by kernel_rfl) (fun _ _ _ h => h) (Or.inl ⟨by rfl, ?_⟩) hHeld ?_ ?_
    rotate_left
    · rintro w' ⟨hs0, hs1, hs2⟩
      go_simp
      with_reducible rfl
    rotate_left
    · simp only [Act.put, List.setIfInBounds_toArray, List.set_cons_zero, List.set_cons_succ]
      rfl
    refine rg_take (i := 13) (N := some 29) (v := ?_) (a' := ?_) #[true, true, true, true, true, true, true, true, true, true, true, true, true, true, false, false, false] rfl rfl (by kernel_rfl) (fun _ _ _ h => h) (Or.inl ⟨by rfl, ?_⟩) hHeld ?_ ?_
    rotate_left
    · rintro w' ⟨hs0, hs1, hs2⟩
      go_simp
      with_reducible rfl
    rotate_left
    · simp only [Act.put, List.setIfInBounds_toArray, List.set_cons_zero, List.set_cons_succ]
      rfl
    refine rg_take (i := 14) (N := some 30) (v := ?_) (a' := ?_) #[true, true, true, true, true, true, true, true, true, true, true, true, true, true, true, false, false] rfl rfl (by kernel_rfl) (fun _ _ _ h => h) (Or.inl ⟨by rfl, ?_⟩) hHeld ?_ ?_
    rotate_left
    · rintro w' ⟨hs0, hs1, hs2⟩
      go_simp
      with_reducible rfl
    rotate_left
    · simp only [Act.put, List.setIfInBounds_toArray, List.set_cons_zero, List.set_cons_succ]
      rfl
    refine rg_take (i := 15) (N := some 31) (v := ?_) (a' := ?_) #[true, true, true, true, true, true, true, true, true, true, true, true, true, true, true, true, false] rfl rfl (by kernel_rfl) (fun _ _ _ h => h) (Or.inl ⟨by rfl, ?_⟩) hHeld ?_ ?_
    rotate_left
    · rintro w' ⟨hs0, hs1, hs2⟩
      go_simp
      with_reducible rfl
    rotate_left
    · simp only [Act.put, List.setIfInBounds_toArray, List.set_cons_zero, List.set_cons_succ]
      rfl
    refine rg_call (i := 16) (N := some 32) (f := 51) (args := ?_) #[true, true, true, true, true, true, true, true, true, true, true, true, true, true, true, true, true] rfl rfl (by kernel_rfl) Try.func51 (by kernel_rfl) rfl (by rfl) rfl ?_ ?_
    rotate_left
    · (try simp only [List.map_toArray, List.map_cons, List.map_nil]); rfl
    refine (need_any _ 6 sd.hc).mono ?_
    rintro e w2 ⟨rfl, hc1, hu1⟩
    have s1 := sd.call hc1 hu1
    have e4 := hu1.cell (by simpa using sd.ne.symm) e3
    refine ⟨_, rfl, ⟨s1.k0, s1.k1, e4⟩, fun hHeld => ?_⟩
    refine rg_norm (a' := ?_) ?_ ?_
    rotate_left
    · show Act.put _ (some 32) _ = _
      simp only [Act.put, List.setIfInBounds_toArray, List.set_cons_zero, List.set_cons_succ]
      rfl
    refine rg_done (by kernel_rfl) ?_
    clear st3 e3 sd hc1 hu1 hn hHeld e4
    go_wp2_with fail
    go_end0
    exact hpost _ s1
def many (n : Int) : Int := if n < 1 then 0 else (n - 1) / 8 + 1
theorem many_any {n : Int} {w : World} (hn : -4611686018427387904 ≤ n ∧ n ≤ 4611686018427387904) : Calls Try.prog 81 #[.int .i64 n] w fun e w' => e = .returned (.int .i64 (many n)) ∧ w = w' := by
  by_cases h : n < 1
  · have hm : many n = 0 := if_pos h
    rw [hm]
    go_enter Try.func81, Try.ntmps81
    go_wp2
    go_ret
    exact ⟨rfl, rfl⟩
  · have hm : many n = (n - 1) / 8 + 1 := if_neg h
    rw [hm]
    go_enter Try.func81, Try.ntmps81
    go_wp2
    go_ret
    exact ⟨rfl, rfl⟩
def RowB {α : Type} (w : World) (g : Nat) (e : TypeId) (enc : α → Value) (xs : List α) : Prop := w.heap[g]? = some (.cells (xs.map enc).toArray e (0, 0))
theorem RowB.cell {α : Type} {w : World} {g : Nat} {e : TypeId} {enc : α → Value} {xs : List α} (h : RowB w g e enc xs) (d : α) (i : Nat) (hi : i < xs.length) : w.cell? ⟨g, i, none⟩ = some (enc (xs.getD i d)) := by
  rw [blk_cell h]
  simp [List.getD_eq_getElem?_getD, List.getElem?_eq_getElem hi]
theorem RowB.froz {α : Type} {w : World} {g : Nat} {e : TypeId} {enc : α → Value} {xs : List α} (h : RowB w g e enc xs) (i : Nat) : w.frozen? ⟨g, i, none⟩ = false := blk_frozen h i
theorem RowB.set {α : Type} {w : World} {g : Nat} {e : TypeId} {enc : α → Value} {xs : List α} (h : RowB w g e enc xs) (i : Nat) (y : α) : RowB (w.setCell ⟨g, i, none⟩ (enc y)) g e enc (xs.set i y) := by
  unfold RowB
  rw [blk_set h]
  simp [List.map_set]
theorem RowB.upd {α : Type} {w w' : World} {g : Nat} {e : TypeId} {enc : α → Value} {xs : List α} {S : List Nat} (h : RowB w g e enc xs) (hu : Upd S w w') (hg : g ∉ S) : RowB w' g e enc xs := hu.blk hg h
theorem RowB.own {α : Type} {R : World → α → List Value → Prop} {w : World} {g base : Nat} {e : TypeId} {enc : α → Value} {xs : List α} (h : RowB w g e enc xs) (hb : base ≤ g) (hR : ∀ x, x ∈ xs → R w x [enc x]) (hl : xs.length ≤ 4194304) :
    OwnG base e 1 R w (.slice (some ⟨g, 0, none⟩) xs.length xs.length) xs :=
  own_of_row (enc := enc) hR ⟨by simp, .inr ⟨g, xs.length, _, rfl, hb, h, Nat.le_refl _, by unfold maxLen; omega, by simp, by simp [List.take_of_length_le]⟩⟩
theorem made_list {α : Type} (enc : α → Value) (d : α) (m : Nat) : madeCells #[enc d] m = ((List.replicate m d).map enc).toArray := by
  apply Array.ext_getElem?
  intro i
  by_cases hi : i < m
  · simp [madeCells, Nat.mod_one, hi]
  · simp [madeCells, hi]
theorem run_made {P : Program} {α : Type} (enc : α → Value) (d : α) (t e : TypeId) (bytes : Nat) (ht : P.underlying t = some (.slice e)) (hinfo : (P.info? e).map (fun i => (i.zero, i.size, i.bytes)) = some (some (enc d), 1, bytes)) (hz : (enc d).cells = #[enc d])
    (m : Nat) (hm : m ≤ 4194304) (hby : bytes ≤ 65536) (W : World) :
    (Instr.makeSlice t (.int .i64 (m : Int)) (.int .i64 (m : Int))).run P W = .ok (.slice (some ⟨W.heap.size, 0, none⟩) m m) (W.alloc (.cells ((List.replicate m d).map enc).toArray e)) := by
  rw [← made_list]
  exact run_make_row' t e (enc d) bytes ht hinfo hz .i64 .i64 m (Nat.le_trans (Nat.mul_le_mul hby hm) (by decide)) (by omega) W
theorem bool_info : (Try.prog.info? 4).map (fun i => (i.zero, i.size, i.bytes)) = some (some (.bool false), 1, 1) := by kernel_rfl
def byteOf (l : List Bool) (j : Nat) : Nat :=
  (if l.getD (8 * j) false then 1 else 0) + (if l.getD (8 * j + 1) false then 2 else 0) + (if l.getD (8 * j + 2) false then 4 else 0) + (if l.getD (8 * j + 3) false then 8 else 0) +
  (if l.getD (8 * j + 4) false then 16 else 0) + (if l.getD (8 * j + 5) false then 32 else 0) + (if l.getD (8 * j + 6) false then 64 else 0) + (if l.getD (8 * j + 7) false then 128 else 0)
theorem getD_take (l : List Bool) (k i : Nat) : (l.take k).getD i false = (decide (i < k) && l.getD i false) := by
  rw [List.getD_eq_getElem?_getD, List.getD_eq_getElem?_getD, List.getElem?_take]
  by_cases h : i < k <;> simp [h]
theorem byteOf_lt (l : List Bool) (k : Nat) : byteOf (l.take k) (k / 8) < 2 ^ (k % 8) := by
  have hr : k % 8 < 8 := Nat.mod_lt _ (by decide)
  have hk : k = 8 * (k / 8) + k % 8 := by omega
  generalize k / 8 = q at *
  generalize k % 8 = r at *
  subst hk
  unfold byteOf
  simp only [getD_take]
  rcases r with _ | _ | _ | _ | _ | _ | _ | _ | r
  case succ.succ.succ.succ.succ.succ.succ.succ => omega
  all_goals
    simp
    repeat' split
    all_goals omega
theorem byteOf_succ (l : List Bool) (k j : Nat) : byteOf (l.take (k + 1)) j = byteOf (l.take k) j + if j = k / 8 ∧ l.getD k false = true then 2 ^ (k % 8) else 0 := by
  by_cases hj : j = k / 8
  · subst hj
    have hr : k % 8 < 8 := Nat.mod_lt _ (by decide)
    have hk : k = 8 * (k / 8) + k % 8 := by omega
    generalize k / 8 = q at *
    generalize k % 8 = r at *
    subst hk
    unfold byteOf
    simp only [getD_take]
    have e : ∀ t r : Nat, decide (8 * q + t < 8 * q + r) = decide (t < r) := fun t r => by simp
    have e0 : ∀ r : Nat, decide (8 * q < 8 * q + r) = decide (0 < r) := fun r => by simp
    simp only [Nat.add_assoc, e, e0]
    rcases r with _ | _ | _ | _ | _ | _ | _ | _ | r
    case succ.succ.succ.succ.succ.succ.succ.succ => omega
    all_goals simp
  · have h1 : ∀ t, t < 8 → (decide (8 * j + t < k + 1) && l.getD (8 * j + t) false) = (decide (8 * j + t < k) && l.getD (8 * j + t) false) := by
      intro t ht
      have : 8 * j + t < k + 1 ↔ 8 * j + t < k := by omega
      simp only [this]
    have h0 := h1 0 (by omega)
    simp only [Nat.add_zero] at h0
    unfold byteOf
    simp only [getD_take, h0, h1 1 (by omega), h1 2 (by omega), h1 3 (by omega), h1 4 (by omega), h1 5 (by omega), h1 6 (by omega), h1 7 (by omega)]
    simp [hj]
theorem byteOf_255 (l : List Bool) (j : Nat) : byteOf l j ≤ 255 := by
  unfold byteOf
  repeat' split
  all_goals omega
theorem byteOf_nil (j : Nat) : byteOf [] j = 0 := by simp [byteOf]
def packB (l : List Bool) : List Int := (List.range (many l.length).toNat).map fun j => (byteOf l j : Int)
def PPack (l : List Bool) (w : World) (e : Ending) (w' : World) : Prop := ∃ v, e = .returned v ∧ OwnB w.heap.size w' v (packB l) ∧ Upd [] w w'
set_option maxRecDepth 100000 in
theorem pack_any {m : Bool} {v : Value} {l : List Bool} {w : World} (h : RdL m w v l) (hn : l.length ≤ 1048576) : Calls Try.prog 83 #[v] w (PPack l w) := by
  have hh := h
  obtain ⟨A, c, rfl, hc1, hc2⟩ := h.shape
  have hmn : 0 ≤ many l.length ∧ many l.length ≤ 131073 := by unfold many; split <;> omega
  obtain ⟨N, hN⟩ := Int.eq_ofNat_of_zero_le hmn.1
  have hmk := run_made (P := Try.prog) (Value.int .u8) 0 22 5 1 Try.underlying22 u8_info rfl N (by omega) (by decide)
  clear h
  go_enter Try.func83, Try.ntmps83
  go_wp2_with (go_at_call 81; refine (many_any (by omega)).mono ?_; rintro e w1 ⟨rfl, rfl⟩; rw [hN])
  clear hmk
  go_loopw [4, 12] (fun _ i wr => ∃ k : Nat, k ≤ l.length ∧ i = .int .i64 (k : Int) ∧ RowB wr w.heap.size 5 (Value.int .u8) ((List.range N).map fun j => (byteOf (l.take k) j : Int)) ∧ Upd [] w wr) (fun _ i _ => l.length - (intOf i).toNat)
  case atStart =>
    refine ⟨0, by omega, rfl, ?_, (Upd.refl [] w).alloc _⟩
    have e : (List.range N).map (fun j => (byteOf (l.take 0) j : Int)) = List.replicate N 0 := by
      apply List.ext_getElem
      · simp
      · intro i h1 h2
        simp [byteOf]
    rw [e]
    have h := blk_new w (.cells ((List.replicate N (0 : Int)).map (Value.int .u8)).toArray 5)
    simp only [List.map_replicate, List.toArray_replicate] at h
    unfold RowB
    rw [List.map_replicate, List.toArray_replicate]
    exact h
  case round =>
    obtain ⟨k, hk, rfl, hrow, hu⟩ := hrel
    by_cases hlt : k < l.length
    · obtain ⟨b, off, rfl, cw0⟩ := RdL.at_ hh k hlt
      obtain ⟨x0, hx0⟩ : ∃ x, x = l.getD k false := ⟨_, rfl⟩
      rw [← hx0] at cw0
      have hc0 := hu.cell (by simp) cw0
      have H0 := Lib.hid hx0
      clear hh hx0 cw0
      have hkN : k / 8 < N := by
        have : (k : Int) / 8 < N := by rw [← hN]; unfold many; split <;> omega
        omega
      cases x0 with
      | false =>
        have hrow' : RowB wr w.heap.size 5 (Value.int .u8) ((List.range N).map fun j => (byteOf (l.take (k + 1)) j : Int)) := by
          have e : (fun j => (byteOf (l.take (k + 1)) j : Int)) = fun j => (byteOf (l.take k) j : Int) := by
            funext j
            rw [byteOf_succ, ← H0.out]
            simp
          rw [e]
          exact hrow
        clear hrow
        go_wp2
        go_roundw
        case rel => exact ⟨k + 1, by omega, by go_num, hrow', hu⟩
        case measure => simp [intOf]; omega
      | true =>
        have hd1 : IntKind.i64.wrap ((k : Int) / 8) = (k : Int) / 8 := IntWalk.i64_in _ (by omega)
        have hd2 : (0 : Int) ≤ (k : Int) / 8 := by omega
        have hd3 : (k : Int) / 8 < N := by omega
        have hd4 : ((k : Int) / 8).toNat = k / 8 := by omega
        obtain ⟨r, hr⟩ : ∃ r, k % 8 = r := ⟨_, rfl⟩
        have hr8 : r < 8 := by omega
        have hd5 : (k : Int).tmod 8 = (r : Int) := by rw [Int.tmod_eq_emod_of_nonneg (by omega)]; omega
        have hsh : ∀ W, (Op.shift BinOp.shl IntKind.u8 1 IntKind.i64 (r : Int)).run Try.prog W = .ok (.int .u8 (2 ^ r)) W := by
          intro W
          clear hr hd5
          rcases r with _ | _ | _ | _ | _ | _ | _ | _ | r
          case succ.succ.succ.succ.succ.succ.succ.succ => omega
          all_goals rfl
        have hbl := byteOf_lt l k
        rw [hr] at hbl
        obtain ⟨x, hx⟩ : ∃ x, byteOf (l.take k) (k / 8) = x := ⟨_, rfl⟩
        rw [hx] at hbl
        have hor : bits BinOp.or IntKind.u8 (x : Int) (2 ^ r) = ((x + 2 ^ r : Nat) : Int) := by
          have h2 : (2 : Nat) ^ r ≤ 128 := by
            have := Nat.pow_le_pow_right (n := 2) (by decide) (show r ≤ 7 by omega)
            omega
          have h3 : ((2 : Int) ^ r) = ((2 ^ r : Nat) : Int) := by simp
          rw [h3, u8_or_nat _ _ (by omega) (by omega)]
          have := Nat.two_pow_add_eq_or_of_lt hbl 1
          rw [Nat.mul_one, Nat.or_comm] at this
          omega
        have hcell := hrow.cell 0 (k / 8) (by simp; exact hkN)
        have hget : ((List.range N).map fun j => (byteOf (l.take k) j : Int)).getD (k / 8) 0 = (x : Int) := by
          rw [List.getD_eq_getElem?_getD]
          simp [hkN, hx]
        rw [hget] at hcell
        have hfro := hrow.froz (k / 8)
        have hrow2 : ∀ W, Upd [] wr W → RowB (W.setCell ⟨w.heap.size, k / 8, none⟩ (.int .u8 ((x : Int) + 2 ^ r))) w.heap.size 5 (Value.int .u8) ((List.range N).map fun j => (byteOf (l.take (k + 1)) j : Int)) := by
          intro W hW
          have h := (RowB.upd hrow hW (by simp)).set (k / 8) ((x + 2 ^ r : Nat) : Int)
          have hrow' : ((List.range N).map fun j => (byteOf (l.take k) j : Int)).set (k / 8) ((x + 2 ^ r : Nat) : Int) = (List.range N).map fun j => (byteOf (l.take (k + 1)) j : Int) := by
            apply List.ext_getElem
            · simp
            · intro i h1 h2
              simp only [List.getElem_set, List.getElem_map, List.getElem_range]
              rw [byteOf_succ, ← H0.out, hr]
              by_cases hi : i = k / 8
              · subst hi
                simp [hx]
              · rw [if_neg (by omega)]
                simp [hi]
          rw [hrow'] at h
          simpa using h
        have hcast : ((x + 2 ^ r : Nat) : Int) = (x : Int) + 2 ^ r := by simp
        rw [hcast] at hor
        have hwr : IntKind.u8.wrap (2 ^ r) = 2 ^ r := by
          have h2 : (2 : Nat) ^ r ≤ 128 := by
            have := Nat.pow_le_pow_right (n := 2) (by decide) (show r ≤ 7 by omega)
            omega
          have h3 : ((2 : Int) ^ r) = ((2 ^ r : Nat) : Int) := by simp
          rw [h3]
          exact IntWalk.u8_in _ (by omega)
        clear hrow hr hx hget hbl hcast
        go_wp2_with fail
        refine wp_still_tail 10 (by kernel_rfl) (by kernel_rfl) (fun w4 hu4 => ?_)
        have d0 := hu4.cell (by simp) hcell
        have d1 := hu4.froz (p := ⟨w.heap.size, k / 8, none⟩) (by simp) (World.block_lt_of_cell? _ _ hcell) hfro
        clear hcell hfro hc0
        simp only [List.take_succ_cons, List.take_zero, List.drop_succ_cons, List.drop_zero]
        iterate 10 still_step
        refine wpStill_nil ?_
        have h5 := hrow2 w4 hu4
        have hu6 : Upd [] w (w4.setCell ⟨w.heap.size, k / 8, none⟩ (.int .u8 ((x : Int) + 2 ^ r))) := (hu.trans hu4).setCell (.inr (Nat.le_refl _)) _
        clear hrow2 hor hwr hsh
        go_wp2
        go_roundw
        case rel => exact ⟨k + 1, by omega, by go_num, h5, hu6⟩
        case measure => simp [intOf]; omega
    · have hj3 : k = l.length := by omega
      have H3 := Lib.hid hj3
      clear hj3 hh
      go_wp2
      go_ret
      rw [H3.out, List.take_of_length_le (Nat.le_refl _)] at hrow
      have ho := hrow.own (R := u8R) (Nat.le_refl _) (fun x hx => by
        simp only [List.mem_map, List.mem_range] at hx
        obtain ⟨j, _, rfl⟩ := hx
        have := byteOf_255 l j
        exact ⟨rfl, by omega, by omega⟩) (by simp; omega)
      have hlN : ((List.range N).map fun j => (byteOf l j : Int)).length = N := by simp
      rw [hlN] at ho
      refine ⟨_, rfl, ?_, hu⟩
      unfold packB
      rw [hN]
      exact ho
def bitAt (b : List Int) (i : Nat) : Bool := b.getD (i / 8) 0 / 2 ^ (i % 8) % 2 == 1
def unpackB (b : List Int) (n : Int) : Option (List Bool) :=
  if 0 ≤ n ∧ (b.length : Int) = many n then
    if (List.range (8 * b.length)).all (fun i => decide ((i : Int) < n) || !bitAt b i) then some ((List.range n.toNat).map (bitAt b)) else none
  else none
def PUnpack (b : List Int) (n : Int) (w : World) (e : Ending) (w' : World) : Prop :=
  ∃ v, e = .returned (.tuple #[v, .bool (unpackB b n).isSome]) ∧ OwnL w.heap.size w' v ((unpackB b n).getD []) ∧ Upd [] w w'
theorem unpack_none {b : List Int} {n : Int} {w w' : World} (h : unpackB b n = none) (hu : Upd [] w w') : PUnpack b n w (.returned (.tuple #[.slice none 0 0, .bool false])) w' :=
  ⟨_, by rw [h]; rfl, by rw [h]; exact OwnG.nil .., hu⟩
set_option maxRecDepth 100000 in
set_option maxHeartbeats 1000000 in
theorem unpack_any {m : Bool} {v : Value} {b : List Int} {n : Int} {w : World} (h : RdB m w v b) (hb : b.length ≤ 1048576) (hn : n ≤ 100000) (hn0 : -100000 ≤ n) : Calls Try.prog 82 #[v, .int .i64 n] w (PUnpack b n w) := by
  have hh := h
  obtain ⟨A, c, rfl, hc1, hc2⟩ := h.shape
  have hrng := RdB.rng h
  clear h
  by_cases h0 : n < 0
  · have hno : unpackB b n = none := if_neg (by omega)
    have hp : ∀ w', Upd [] w w' → PUnpack b n w (.returned (.tuple #[.slice none 0 0, .bool false])) w' := fun w' hu => unpack_none hno hu
    clear hno hh
    go_enter Try.func82, Try.ntmps82
    go_wp2
    go_ret2
    exact hp _ (Upd.refl _ _)
  by_cases h1 : (b.length : Int) = many n
  case neg =>
    have hno : unpackB b n = none := if_neg (by omega)
    have hp : ∀ w', Upd [] w w' → PUnpack b n w (.returned (.tuple #[.slice none 0 0, .bool false])) w' := fun w' hu => unpack_none hno hu
    have h1' : ((b.length : Int) != many n) = true := by simpa using h1
    clear hno hh h1
    go_enter Try.func82, Try.ntmps82
    go_wp2_with (go_at_call 81; refine (many_any (by omega)).mono ?_; rintro e w1 ⟨rfl, rfl⟩)
    go_ret2
    exact hp _ (Upd.refl _ _)
  case pos =>
    have h1' : ((b.length : Int) != many n) = false := by simpa using h1
    obtain ⟨N, rfl⟩ := Int.eq_ofNat_of_zero_le (show 0 ≤ n by omega)
    have hmk := run_made (P := Try.prog) Value.bool false 25 4 1 Try.underlying25 bool_info rfl N (by omega) (by decide)
    have H1 := Lib.hid h1
    clear h1
    go_enter Try.func82, Try.ntmps82
    go_wp2_with (go_at_call 81; refine (many_any (by omega)).mono ?_; rintro e w1 ⟨rfl, rfl⟩)
    clear hmk
    go_loopw [23] (fun i wr => ∃ k : Nat, k ≤ 8 * b.length ∧ i = .int .i64 (k : Int) ∧ RowB wr w.heap.size 4 Value.bool ((List.range N).map fun j => decide (j < k) && bitAt b j) ∧ (∀ j, N ≤ j → j < k → bitAt b j = false) ∧ Upd [] w wr) (fun i _ => 8 * b.length - (intOf i).toNat)
    case atStart =>
      refine ⟨0, by omega, rfl, ?_, fun j _ hj => by omega, (Upd.refl [] w).alloc _⟩
      have e : (List.range N).map (fun j => decide (j < 0) && bitAt b j) = List.replicate N false := by
        apply List.ext_getElem
        · simp
        · intro i h1 h2
          simp
      rw [e]
      have h := blk_new w (.cells ((List.replicate N false).map Value.bool).toArray 4)
      simp only [List.map_replicate, List.toArray_replicate] at h
      unfold RowB
      rw [List.map_replicate, List.toArray_replicate]
      exact h
    case round =>
      obtain ⟨k, hk, rfl, hrow, hz, hu⟩ := hrel
      by_cases hlt : k < 8 * b.length
      · have hk8 : k / 8 < b.length := by omega
        obtain ⟨bb, off, rfl, cw0, hr0⟩ := RdB.at_ hh (k / 8) hk8
        obtain ⟨x, hx⟩ : ∃ x, b.getD (k / 8) 0 = x := ⟨_, rfl⟩
        rw [hx] at cw0 hr0
        have hc0 := hu.cell (by simp) cw0
        obtain ⟨r, hr⟩ : ∃ r, k % 8 = r := ⟨_, rfl⟩
        have hr8 : r < 8 := by omega
        have hd4 : ((k : Int) / 8).toNat = k / 8 := by omega
        have hd5 : (k : Int) % 8 = (r : Int) := by omega
        have hsh : ∀ W, (Op.shift BinOp.shr IntKind.u8 x IntKind.i64 (r : Int)).run Try.prog W = .ok (.int .u8 (x / 2 ^ r)) W := by
          intro W
          clear hr hd5
          rcases r with _ | _ | _ | _ | _ | _ | _ | _ | r
          case succ.succ.succ.succ.succ.succ.succ.succ => omega
          all_goals simp [go_sem]
        have hq : 0 ≤ x / 2 ^ r ∧ x / 2 ^ r < 256 := by
          have h2 : (0 : Int) < 2 ^ r := Int.pow_pos (by decide)
          constructor
          · exact Int.ediv_nonneg hr0.1 (by omega)
          · exact Int.lt_of_le_of_lt (Int.ediv_le_self _ hr0.1) hr0.2
        have hand : bits BinOp.and IntKind.u8 (x / 2 ^ r) 1 = x / 2 ^ r % 2 := by
          rw [u8_and _ _ hq.1 hq.2 (by decide) (by decide)]
          have : (1 : Int).toNat = 1 := rfl
          rw [this, Nat.and_one_is_mod]
          omega
        have hbit : (x / 2 ^ r % 2 == 1) = bitAt b k := by rw [bitAt, hx, hr]
        have hset : ∀ W B, RowB W w.heap.size 4 Value.bool ((List.range N).map fun j => decide (j < k) && bitAt b j) → B = bitAt b k → k < N → RowB (W.setCell ⟨w.heap.size, k, none⟩ (.bool B)) w.heap.size 4 Value.bool ((List.range N).map fun j => decide (j < k + 1) && bitAt b j) := by
          intro W B h hB hkN
          have h2 := h.set k B
          have e : ((List.range N).map fun j => decide (j < k) && bitAt b j).set k B = (List.range N).map fun j => decide (j < k + 1) && bitAt b j := by
            apply List.ext_getElem
            · simp
            · intro i h1 h2
              simp only [List.getElem_set, List.getElem_map, List.getElem_range]
              by_cases hi : i = k
              · subst hi
                simp [hB]
              · rw [if_neg (by omega)]
                have : i < k + 1 ↔ i < k := by omega
                simp [this]
          rw [e] at h2
          exact h2
        have hwr1 : IntKind.i64.wrap ((k : Int) / 8) = (k : Int) / 8 := IntWalk.i64_in _ (by omega)
        have HX := Lib.hid hx
        have HR := Lib.hid hr
        clear hx hr cw0 hq
        by_cases hkN : k < N
        · have hkl : k < ((List.range N).map fun j => decide (j < k) && bitAt b j).length := by simpa using hkN
          have hcell := hrow.cell false k hkl
          have hfro := hrow.froz k
          have hset' := fun B hB => hset wr B hrow hB hkN
          have hz' : ∀ j, N ≤ j → j < k + 1 → bitAt b j = false := fun j h1 h2 => hz j h1 (by omega)
          have hlt2 : (k : Int) < N := by omega
          generalize hBv : bitAt b k = B at hbit
          have HB := Lib.hid hBv
          have HZ := Lib.hid hz'
          have HS := Lib.hid hset'
          generalize ((List.range N).map fun j => decide (j < k) && bitAt b j).getD k false = B0 at hcell
          have hN8 : N ≤ 8 * b.length := by have := H1.out; unfold many at this; split at this <;> omega
          clear hset hset' hz hz' hrow hh hBv hkl
          cases B <;>
          · go_wp2
            go_roundw
            case rel => exact ⟨k + 1, by omega, by go_num, HS.out _ HB.out.symm, HZ.out, hu.setCell (.inr (Nat.le_refl _)) _⟩
            case measure => simp [intOf]; omega
        · have hlt2 : ¬ (k : Int) < N := by omega
          generalize hBv : bitAt b k = B at hbit
          have HB := Lib.hid hBv
          clear hset hBv
          cases B with
          | true =>
            have hno : unpackB b N = none := by
              unfold unpackB
              rw [if_pos ⟨by omega, H1.out⟩, if_neg]
              intro hall
              have := List.all_eq_true.1 hall k (List.mem_range.2 (by omega))
              simp [HB.out] at this
              omega
            have hp : ∀ w', Upd [] w w' → PUnpack b N w (.returned (.tuple #[.slice none 0 0, .bool false])) w' := fun w' hu => unpack_none hno hu
            clear hno hz hrow hh
            go_wp2
            go_ret2
            exact hp _ hu
          | false =>
            have hrow' : RowB wr w.heap.size 4 Value.bool ((List.range N).map fun j => decide (j < k + 1) && bitAt b j) := by
              have e : (List.range N).map (fun j => decide (j < k + 1) && bitAt b j) = (List.range N).map fun j => decide (j < k) && bitAt b j := by
                apply List.map_congr_left
                intro j hj
                have hj' := List.mem_range.1 hj
                have : j < k + 1 ↔ j < k := by omega
                simp [this]
              rw [e]
              exact hrow
            have hz' : ∀ j, N ≤ j → j < k + 1 → bitAt b j = false := fun j h1 h2 => by
              rcases Nat.lt_or_ge j k with h3 | h3
              · exact hz j h1 h3
              · obtain rfl : j = k := by omega
                exact HB.out
            have HZ := Lib.hid hz'
            clear hz hz' hrow hh
            go_wp2
            go_roundw
            case rel => exact ⟨k + 1, by omega, by go_num, hrow', HZ.out, hu⟩
            case measure => simp [intOf]; omega
      · have hk3 : k = 8 * b.length := by omega
        have hN8 : N ≤ 8 * b.length := by have := H1.out; unfold many at this; split at this <;> omega
        have hyes : unpackB b N = some ((List.range N).map (bitAt b)) := by
          unfold unpackB
          rw [if_pos ⟨by omega, H1.out⟩, if_pos]
          · simp
          · simp only [List.all_eq_true, List.mem_range, Bool.or_eq_true, decide_eq_true_eq, Bool.not_eq_true']
            intro j hj
            by_cases hjN : j < N
            · exact .inl (by omega)
            · exact .inr (hz j (by omega) (by omega))
        have hfin : ((List.range N).map fun j => decide (j < k) && bitAt b j) = (List.range N).map (bitAt b) := by
          apply List.map_congr_left
          intro j hj
          have hj' := List.mem_range.1 hj
          have : j < k := by omega
          simp [this]
        rw [hfin] at hrow
        have ho := hrow.own (R := boolR) (Nat.le_refl _) (fun x hx => rfl) (by simp; omega)
        have hlN : ((List.range N).map (bitAt b)).length = N := by simp
        rw [hlN] at ho
        have hp : PUnpack b N w (.returned (.tuple #[.slice (some ⟨w.heap.size, 0, none⟩) N N, .bool true])) wr := ⟨_, by rw [hyes]; rfl, by rw [hyes]; exact ho, hu⟩
        have H3 := Lib.hid hk3
        clear hk3 hz hrow hh hyes hfin ho hlN
        go_wp2
        go_ret2
        exact hp
theorem chk_int {P : Program} {kt : TypeId} {q q' : IntKind} (hk : P.underlying kt = some (.int q)) (w : World) (em : Bool) (n : Int) : (Instr.checkKey em 10000 kt (.int q' n)).run P w = .ok () w := by
  rw [show (10000 : Nat) = 9999 + 1 from rfl, Instr.checkKey]
  simp [run_underlying hk, Result.andThen]
theorem run_mapput {P : Program} {w : World} {t kt e : TypeId} {q : IntKind} (ht : P.underlying t = some (.map kt e)) (hk : P.underlying kt = some (.int q)) {r : Nat} {es : Array MapEntry} {clk : Nat} (hb : w.heap[r]? = some (.map es clk))
    (n : Int) (v : Value) (hno : Instr.findNow (.int q) (.int q n) es.toList 0 = some none) :
    ∃ w', (Instr.mapUpdate t (.map (some r)) (.int q n) v).run P w = .ok () w' ∧ w'.heap[r]? = some (.map (es.push ⟨.int q n, v, clk⟩) (clk + 1)) ∧ Upd [r] w w' := by
  have hlt := blk_lt hb
  refine ⟨{ w with heap := w.heap.setIfInBounds r (.map (es.push ⟨.int q n, v, clk⟩) (clk + 1)) }, ?_, by simp [hlt], rfl, rfl, rfl, by simp, fun k hk1 hk2 => ?_⟩
  · simp [Instr.mapUpdate, run_underlying ht, MapKept.run_getObj_map hb, chk_int hk, MapKept.run_findKey hk hno, MapKept.run_setObj_map _ hb, Result.andThen]
  · have : r ≠ k := fun h => hk2 (by simp [h])
    simp [Array.getElem?_setIfInBounds, this]
theorem wp_insert {P : Program} {w : World} {ops : Array Oper} {rest : List Oper} {o : Oper} {a : Act} {Q : Exit → Act → World → Prop} (hg : o.guard = none) (t : TypeId) (m k x : Operand) (hop : o.op = .insert t m k x) {kt e : TypeId} {q : IntKind}
    (ht : P.underlying t = some (.map kt e)) (hk : P.underlying kt = some (.int q)) (r : Nat) (es : Array MapEntry) (clk : Nat) (hm : a.eval m = .map (some r)) (hb : w.heap[r]? = some (.map es clk))
    (n : Int) (hkv : a.eval k = .int q n) (v : Value) (hx : a.eval x = v) (hno : Instr.findNow (.int q) (.int q n) es.toList 0 = some none)
    {wm : World} (hM : Upd [] wm w) (hr : wm.heap.size ≤ r)
    (h : ∀ w', w'.heap[r]? = some (.map (es.push ⟨.int q n, v, clk⟩) (clk + 1)) → Upd [] wm w' → wpList P ops Q rest (a.put o.dst undef) w') : wpList P ops Q (o :: rest) a w := by
  refine wpList_plain hg fun K hK => ?_
  obtain ⟨w', hrr, h1, h2⟩ := run_mapput ht hk hb n v hno
  have hrun : (execOp a.eval o).run P w = .ok .skip w' := by
    unfold execOp
    simp [hop, hm, hkv, hx, hrr, Result.andThen]
  unfold Oper.wp
  rw [hrun]
  exact hK _ _ (h w' h1 (hM.fresh h2 (by simpa using hr)))
theorem run_lookup_known {P : Program} {w : World} {t kt e : TypeId} {q : IntKind} (ht : P.underlying t = some (.map kt e)) (hk : P.underlying kt = some (.int q)) {r : Nat} {es : Array MapEntry} {clk : Nat} (hb : w.heap[r]? = some (.map es clk))
    (n : Int) (z : Value) (hz : (zeroValue e).run P w = .ok z w) {res : Option (Nat × Value)} (hf : Instr.findNow (.int q) (.int q n) es.toList 0 = some res) (cok : Bool) :
    (Instr.lookup t (.map (some r)) (.int q n) cok).run P w = .ok (if cok then .tuple #[(res.map (·.2)).getD z, .bool res.isSome] else (res.map (·.2)).getD z) w := by
  unfold Instr.lookup
  simp only [Sem.run_bind, run_underlying ht, MapKept.run_getObj_map hb, chk_int hk, MapKept.run_findKey hk hf, Result.andThen, Sem.run_pure]
  cases res with
  | none => simp [hz, Result.andThen]
  | some p => simp [Result.andThen]
theorem wp_lookup {P : Program} {w : World} {ops : Array Oper} {rest : List Oper} {o : Oper} {a : Act} {Q : Exit → Act → World → Prop} (hg : o.guard = none) (t : TypeId) (m k : Operand) (cok : Bool) (hop : o.op = .lookup t m k cok) {kt e : TypeId} {q : IntKind}
    (ht : P.underlying t = some (.map kt e)) (hk : P.underlying kt = some (.int q)) (r : Nat) (es : Array MapEntry) (clk : Nat) (hm : a.eval m = .map (some r)) (hb : w.heap[r]? = some (.map es clk))
    (n : Int) (hkv : a.eval k = .int q n) (z : Value) (hz : (zeroValue e).run P w = .ok z w) (res : Option (Nat × Value)) (hf : Instr.findNow (.int q) (.int q n) es.toList 0 = some res) (u : Value)
    (hu : (if cok then .tuple #[(res.map (·.2)).getD z, .bool res.isSome] else (res.map (·.2)).getD z) = u) (h : wpList P ops Q rest (a.put o.dst u) w) : wpList P ops Q (o :: rest) a w := by
  subst hu
  refine wpList_plain hg fun K hK => ?_
  have hrun : (execOp a.eval o).run P w = .ok (.value (if cok then .tuple #[(res.map (·.2)).getD z, .bool res.isSome] else (res.map (·.2)).getD z)) w := by
    unfold execOp
    simp only [hop, hm, hkv]
    simp only [Sem.run_bind, Sem.run_map, run_lookup_known ht hk hb n z hz hf cok, Result.andThen, Sem.run_pure]
  unfold Oper.wp
  rw [hrun]
  exact hK _ _ h
def setFrom (cs : Array Value) : Nat → List Value → Array Value
  | _, [] => cs
  | o, v :: r => setFrom (cs.setIfInBounds o v) (o + 1) r
theorem setFrom_size : ∀ (vs : List Value) (cs : Array Value) (o : Nat), (setFrom cs o vs).size = cs.size
  | [], _, _ => rfl
  | v :: r, cs, o => by simp [setFrom, setFrom_size r]
theorem setFrom_get : ∀ (vs : List Value) (cs : Array Value) (o j : Nat), o + vs.length ≤ cs.size → (setFrom cs o vs)[j]? = if o ≤ j ∧ j < o + vs.length then vs[j - o]? else cs[j]?
  | [], cs, o, j, _ => by simp [setFrom]; intro h1 h2; omega
  | v :: r, cs, o, j, h => by
    have h' : o + 1 + r.length ≤ cs.size := by simp at h; omega
    simp only [setFrom]
    rw [setFrom_get r _ (o + 1) j (by simpa using h')]
    by_cases hj : j = o
    · subst hj
      rw [if_neg (by omega), if_pos (by simp)]
      simp at h
      simp [Array.getElem?_setIfInBounds]
      omega
    · by_cases h2 : o + 1 ≤ j ∧ j < o + 1 + r.length
      · rw [if_pos h2, if_pos (by simp; omega)]
        have : j - o = (j - (o + 1)) + 1 := by omega
        rw [this, List.getElem?_cons_succ]
      · rw [if_neg h2, if_neg (by simp; omega), Array.getElem?_setIfInBounds, if_neg (by omega)]
theorem setFrom_all (vs : List Value) (cs : Array Value) (h : vs.length = cs.size) : setFrom cs 0 vs = vs.toArray := by
  apply Array.ext_getElem?
  intro j
  rw [setFrom_get vs cs 0 j (by omega)]
  by_cases hj : j < vs.length
  · rw [if_pos (by omega)]
    simp
  · rw [if_neg (by omega)]
    simp
    rw [Array.getElem?_eq_none (by omega), List.getElem?_eq_none (by omega)]
theorem setCells_blk : ∀ (vs : List Value) (w : World) (b o : Nat) (cs : Array Value) (t : TypeId) (fr : Nat × Nat), w.heap[b]? = some (.cells cs t fr) → (w.setCells b o vs).heap[b]? = some (.cells (setFrom cs o vs) t fr) ∧ Upd [b] w (w.setCells b o vs)
  | [], w, b, o, cs, t, fr, h => ⟨h, Upd.refl _ _⟩
  | v :: r, w, b, o, cs, t, fr, h => by
    obtain ⟨h1, h2⟩ := setCells_blk r (w.setCell ⟨b, o, none⟩ v) b (o + 1) _ t fr (blk_set h o v)
    exact ⟨h1, ((Upd.refl [b] w).setCell (p := ⟨b, o, none⟩) (.inl (by simp)) v).trans h2⟩
section
variable {P : Program} {w : World} {ops : Array Oper} {rest : List Oper} {o : Oper} {a : Act} {Q : Exit → Act → World → Prop}
theorem wp_storew (hg : o.guard = none) (t : TypeId) (x y : Operand) (ho : o.op = .store t x y) (g : Nat) (hx : a.eval x = .pointer (some ⟨g, 0, none⟩)) (vs : Array Value) (hy : a.eval y = .agg vs)
    (cs : Array Value) (t' : TypeId) (hb : w.heap[g]? = some (.cells cs t' (0, 0))) (hi : (P.info? t).map (·.size) = some vs.size) (hs : vs.size = cs.size) (h1 : vs.all (·.oneCell') = true)
    (h : ∀ w', w'.heap[g]? = some (.cells vs t' (0, 0)) → Upd [g] w w' → wpList P ops Q rest (a.put o.dst undef) w') : wpList P ops Q (o :: rest) a w := by
  obtain ⟨h2, h3⟩ := setCells_blk vs.toList w g 0 cs t' (0, 0) hb
  rw [setFrom_all _ _ (by simpa using hs)] at h2
  refine wpList_store_mid hg t x y ho g 0 vs hx hy (fun j hj => ?_) hi h1 (h _ (by simpa using h2) h3)
  rw [Nat.zero_add, blk_cell hb, blk_frozen hb]
  exact ⟨by rw [Array.getElem?_eq_getElem (by omega)]; rfl, rfl⟩
theorem wp_allocw (hg : o.guard = none) (t : TypeId) (ho : o.op = .alloc t) (z : Value) (hz : (P.info? t).map (·.zero) = some (some z))
    (h : ∀ g w', w.heap.size ≤ g → w'.heap[g]? = some (.cells z.cells t (0, 0)) → Upd [] w w' → wpList P ops Q rest (a.put o.dst (.pointer (some ⟨g, 0, none⟩))) w') : wpList P ops Q (o :: rest) a w := by
  refine wpList_plain hg fun K hK => ?_
  obtain ⟨i0, hi, hz0⟩ := Option.map_eq_some_iff.1 hz
  have hrun : (execOp a.eval o).run P w = .ok (.value (.pointer (some ⟨w.heap.size, 0, none⟩))) (w.alloc (.cells z.cells t)) := by
    unfold execOp
    simp [go_sem, ho, Instr.alloc, zeroValue, typeInfo, hi, hz0, newVar, newRow]
  unfold Oper.wp
  rw [hrun]
  exact hK _ _ (h _ _ (Nat.le_refl _) (blk_new ..) ((Upd.refl [] w).alloc _))
theorem wp_boxw (hg : o.guard = none) (t : TypeId) (x : Operand) (ho : o.op = .box t x) (v : Value) (hx : a.eval x = v)
    (h : ∀ g w', w.heap.size ≤ g → w'.heap[g]? = some (.cells v.cells t (0, 0)) → Upd [] w w' → wpList P ops Q rest (a.put o.dst (.pointer (some ⟨g, 0, none⟩))) w') : wpList P ops Q (o :: rest) a w := by
  subst hx
  refine wpList_plain hg fun K hK => ?_
  have hrun : (execOp a.eval o).run P w = .ok (.value (.pointer (some ⟨w.heap.size, 0, none⟩))) (w.alloc (.cells (a.eval x).cells t)) := by
    unfold execOp
    simp [go_sem, ho, newVar, newRow]
  unfold Oper.wp
  rw [hrun]
  exact hK _ _ (h _ _ (Nat.le_refl _) (blk_new ..) ((Upd.refl [] w).alloc _))
theorem wp_makemap (hg : o.guard = none) (t : TypeId) (ho : o.op = .makeMap t none)
    (h : ∀ g w', w.heap.size ≤ g → w'.heap[g]? = some (.map #[] 0) → Upd [] w w' → wpList P ops Q rest (a.put o.dst (.map (some g))) w') : wpList P ops Q (o :: rest) a w := by
  refine wpList_plain hg fun K hK => ?_
  have hrun : (execOp a.eval o).run P w = .ok (.value (.map (some w.heap.size))) (w.alloc (.map #[] 0)) := by
    unfold execOp
    simp [ho, run_makeMap]
  unfold Oper.wp
  rw [hrun]
  exact hK _ _ (h _ _ (Nat.le_refl _) (blk_new ..) ((Upd.refl [] w).alloc _))
theorem wp_value (hg : o.guard = none) (v : Value) (hrun : (execOp a.eval o).run P w = .ok (.value v) w) (h : wpList P ops Q rest (a.put o.dst v) w) : wpList P ops Q (o :: rest) a w := by
  refine wpList_plain hg fun K hK => ?_
  unfold Oper.wp
  rw [hrun]
  exact hK _ _ h
end
theorem results_cell_tmp {P : Program} {fn : Func} {p q : Tmp} {ty : TypeId} (h : fn.results = #[.cell p ty, .tmp q]) (tmps : Array Value) (w : World) (g : Nat) (t : TypeId) (cs : Array Value) (fr : Nat × Nat) (d : TypeDesc)
    (hp : tmps.getD p undef = .pointer (some ⟨g, 0, none⟩)) (hg : w.heap[g]? = some (.cells cs t fr))
    (hu : P.underlying ty = some d) (hd : (match d with | .struct _ | .array _ _ => true | _ => false) = true) (hi : (P.info? ty).map (·.size) = some cs.size) :
    (results fn tmps).run P w = .ok (.tuple #[.agg cs, tmps.getD q undef]) w := by
  have hp' : tmps[p]?.getD undef = .pointer (some ⟨g, 0, none⟩) := by simpa using hp
  simp [results, h, hp', asAddr, run_loadVar_row w g t ty cs fr d hg hu hd hi]
theorem ret_cell_tmp {P : Program} {fn : Func} {p q : Tmp} {ty : TypeId} (h : fn.results = #[.cell p ty, .tmp q]) {R : Ending → World → Prop} {a : Act} {w : World} (hd0 : a.defers = []) (g : Nat) (t : TypeId) (cs : Array Value) (fr : Nat × Nat) (d : TypeDesc)
    (hp : a.tmps.getD p undef = .pointer (some ⟨g, 0, none⟩)) (hg : w.heap[g]? = some (.cells cs t fr))
    (hu : P.underlying ty = some d) (hd : (match d with | .struct _ | .array _ _ => true | _ => false) = true) (hi : (P.info? ty).map (·.size) = some cs.size)
    (hR : R (.returned (.tuple #[.agg cs, a.tmps.getD q undef])) w) : bodyPost P fn R .ret a w :=
  bodyPost_ret (results_cell_tmp h a.tmps w g t cs fr d hp hg hu hd hi) hd0 hR
structure Rec where
  file : Int
  record : Int
  count : Int
  words : List Int
deriving DecidableEq
structure Obj where
  id : Int
  value : List Int
deriving DecidableEq
structure Msg where
  code : Int
  fail : Int
  addr : Int
  count : Int
  value : Int
  and_ : Int
  or_ : Int
  addr2 : Int
  sub : Int
  status : Int
  events : Int
  messages : Int
  words : List Int
  bits : List Bool
  data : List Int
  recs : List Rec
  mei : Int
  kind : Int
  level : Int
  more : Int
  next : Int
  objects : List Obj
deriving DecidableEq
def Msg.zero : Msg := ⟨0, 0, 0, 0, 0, 0, 0, 0, 0, 0, 0, 0, [], [], [], [], 0, 0, 0, 0, 0, []⟩
def B8 (x : Int) : Prop := 0 ≤ x ∧ x < 256
def B16 (x : Int) : Prop := 0 ≤ x ∧ x < 65536
def recR (m : Bool) (w : World) (r : Rec) (cs : List Value) : Prop := ∃ v, cs = [.int .u16 r.file, .int .u16 r.record, .int .u16 r.count, v] ∧ RdW m w v r.words ∧ B16 r.file ∧ B16 r.record ∧ B16 r.count
def objR (m : Bool) (w : World) (o : Obj) (cs : List Value) : Prop := ∃ v, cs = [.int .u8 o.id, v] ∧ RdB m w v o.value ∧ B8 o.id
abbrev RdR (m : Bool) (w : World) (v : Value) (l : List Rec) : Prop := RdG m 57 4 (recR m) w v l
abbrev RdO (m : Bool) (w : World) (v : Value) (l : List Obj) : Prop := RdG m 59 2 (objR m) w v l
def dataT : List TypeId := [5, 23, 4, 57, 59]
theorem recR.upd {m : Bool} {w w' : World} {S : List Nat} (hu : Upd S w w') (hs : Safe m dataT S w) (r : Rec) (cs : List Value) (h : recR m w r cs) : recR m w' r cs := by
  obtain ⟨v, h1, h2, h3⟩ := h
  exact ⟨v, h1, RdW.upd' h2 hu (hs.sub (by decide)), h3⟩
theorem objR.upd {m : Bool} {w w' : World} {S : List Nat} (hu : Upd S w w') (hs : Safe m dataT S w) (r : Obj) (cs : List Value) (h : objR m w r cs) : objR m w' r cs := by
  obtain ⟨v, h1, h2, h3⟩ := h
  exact ⟨v, h1, RdB.upd' h2 hu (hs.sub (by decide)), h3⟩
theorem RdR.upd' {m : Bool} {w w' : World} {v : Value} {l : List Rec} {S : List Nat} (h : RdR m w v l) (hu : Upd S w w') (hs : Safe m dataT S w) : RdR m w' v l := RdG.upd h hu (hs.sub (by decide)) (recR.upd hu hs)
theorem RdO.upd' {m : Bool} {w w' : World} {v : Value} {l : List Obj} {S : List Nat} (h : RdO m w v l) (hu : Upd S w w') (hs : Safe m dataT S w) : RdO m w' v l := RdG.upd h hu (hs.sub (by decide)) (objR.upd hu hs)
def msgCells (M : Msg) (vw vb vd vr vo : Value) : List Value :=
  [.int .u8 M.code, .int .u8 M.fail, .int .u16 M.addr, .int .u16 M.count, .int .u16 M.value, .int .u16 M.and_, .int .u16 M.or_, .int .u16 M.addr2, .int .u16 M.sub, .int .u16 M.status, .int .u16 M.events, .int .u16 M.messages,
    vw, vb, vd, vr, .int .u8 M.mei, .int .u8 M.kind, .int .u8 M.level, .int .u8 M.more, .int .u8 M.next, vo]
structure MsgRng (M : Msg) : Prop where
  code : B8 M.code
  fail : B8 M.fail
  addr : B16 M.addr
  count : B16 M.count
  value : B16 M.value
  and_ : B16 M.and_
  or_ : B16 M.or_
  addr2 : B16 M.addr2
  sub : B16 M.sub
  status : B16 M.status
  events : B16 M.events
  messages : B16 M.messages
  mei : B8 M.mei
  kind : B8 M.kind
  level : B8 M.level
  more : B8 M.more
  next : B8 M.next
def MsgRd (m : Bool) (w : World) (cs : List Value) (M : Msg) : Prop :=
  ∃ vw vb vd vr vo, cs = msgCells M vw vb vd vr vo ∧ RdW m w vw M.words ∧ RdL m w vb M.bits ∧ RdB m w vd M.data ∧ RdR m w vr M.recs ∧ RdO m w vo M.objects ∧ MsgRng M
theorem MsgRd.upd {m : Bool} {w w' : World} {cs : List Value} {M : Msg} {S : List Nat} (h : MsgRd m w cs M) (hu : Upd S w w') (hs : Safe m dataT S w) : MsgRd m w' cs M := by
  obtain ⟨vw, vb, vd, vr, vo, h0, h1, h2, h3, h4, h5, h6⟩ := h
  exact ⟨vw, vb, vd, vr, vo, h0, RdW.upd' h1 hu (hs.sub (by decide)), RdL.upd' h2 hu (hs.sub (by decide)), RdB.upd' h3 hu (hs.sub (by decide)), RdR.upd' h4 hu hs, RdO.upd' h5 hu hs, h6⟩
theorem MsgRd.old {m : Bool} {w w' : World} {cs : List Value} {M : Msg} (h : MsgRd m w cs M) (hu : Upd [] w w') : MsgRd m w' cs M := h.upd hu (Safe.nil _ _ _)
theorem RdG.one {α : Type} {m : Bool} {e : TypeId} {sz : Nat} {R : World → α → List Value → Prop} {w : World} {v : Value} {xs : List α} (h : RdG m e sz R w v xs) : v.oneCell' = true := by
  obtain ⟨A, c, rfl, _⟩ := h
  rfl
theorem MsgRd.one {m : Bool} {w : World} {cs : Array Value} {M : Msg} (h : MsgRd m w cs.toList M) : cs.all (·.oneCell') = true := by
  obtain ⟨vw, vb, vd, vr, vo, h0, h1, h2, h3, h4, h5, h6⟩ := h
  rw [← Array.all_toList, h0]
  obtain ⟨_, _, rfl, _⟩ := h1
  obtain ⟨_, _, rfl, _⟩ := h2
  obtain ⟨_, _, rfl, _⟩ := h3
  obtain ⟨_, _, rfl, _⟩ := h4
  obtain ⟨_, _, rfl, _⟩ := h5
  rfl
theorem MsgRd.size {m : Bool} {w : World} {cs : Array Value} {M : Msg} (h : MsgRd m w cs.toList M) : cs.size = 22 := by
  obtain ⟨vw, vb, vd, vr, vo, h0, h1, h2, h3, h4, h5, h6⟩ := h
  rw [← Array.length_toList, h0]
  rfl
def nilS : Value := .slice none 0 0
def zeroCells : List Value := msgCells Msg.zero nilS nilS nilS nilS nilS
theorem MsgRng.zero : MsgRng Msg.zero := by constructor <;> exact ⟨by decide, by decide⟩
theorem MsgRd.zero (m : Bool) (w : World) : MsgRd m w zeroCells Msg.zero := ⟨nilS, nilS, nilS, nilS, nilS, rfl, RdG.nil .., RdG.nil .., RdG.nil .., RdG.nil .., RdG.nil .., MsgRng.zero⟩
def PMsg (res : Msg × Int) (w : World) (e : Ending) (w' : World) : Prop := ∃ cs, e = .returned (.tuple #[.agg cs, .int .i64 res.2]) ∧ MsgRd true w' cs.toList res.1 ∧ Upd [] w w'
def msgZ : Array Value := zeroCells.toArray
theorem msgZ_info : (Try.prog.info? 29).map (·.zero) = some (some (.agg msgZ)) := by kernel_rfl
theorem msg_size : (Try.prog.info? 29).map (·.size) = some 22 := by kernel_rfl
theorem build_msg0 (w : World) : (Instr.build 29 #[]).run Try.prog w = .ok (.agg msgZ) w := by kernel_rfl
theorem build_msg1 (c : Int) (w : World) : (Instr.build 29 #[(0, .int .u8 c)]).run Try.prog w = .ok (.agg (msgZ.setIfInBounds 0 (.int .u8 c))) w := by kernel_rfl
end Go.Proofs.Ytbaeecmamacphaa
