/- Contracts of functions, part KA2. -/
import Derived.Test.YtbaeecmamacphaaKA1
import Derived.Laws.BytesArg
import Derived.Stop.BytesEq
set_option linter.unusedVariables false
set_option linter.unusedSimpArgs false
namespace Go.Proofs.Ytbaeecmamacphaa
open Go.RowKit
def PBool (x : Bool) (w : World) (e : Ending) (w' : World) : Prop := e = .returned (.bool x) ∧ Upd [] w w'
theorem eqPre {α : Type} [DecidableEq α] {xs ys : List α} {d : α} (h : xs.length = ys.length) {k : Nat} (hk : k < xs.length) (hp : xs.take k = ys.take k) (hx : xs.getD k d = ys.getD k d) : xs.take (k + 1) = ys.take (k + 1) := by
  rw [List.take_add_one, List.take_add_one, hp]
  simp only [List.getD_eq_getElem?_getD, List.getElem?_eq_getElem hk, List.getElem?_eq_getElem (h ▸ hk), Option.getD_some] at hx
  simp [List.getElem?_eq_getElem hk, List.getElem?_eq_getElem (h ▸ hk), hx]
theorem eqNo {α : Type} [DecidableEq α] {xs ys : List α} {d : α} (k : Nat) (hx : xs.getD k d ≠ ys.getD k d) : xs ≠ ys := fun h => hx (by rw [h])
set_option maxRecDepth 100000 in
theorem eqW_any {m m' : Bool} {u v : Value} {xs ys : List Int} {w : World} (hx : RdW m w u xs) (hy : RdW m' w v ys) : Calls Try.prog 73 #[u, v] w (PBool (decide (xs = ys)) w) := by
  have hhx := hx
  have hhy := hy
  obtain ⟨A, c, rfl, hc1, hc2⟩ := hx.shape
  obtain ⟨B, c', rfl, hd1, hd2⟩ := hy.shape
  have hn : xs.length ≤ 9223372036854775807 := by have := hc2; unfold maxLen at this; omega
  by_cases hl : xs.length = ys.length
  case neg =>
    have hno : ∀ W, Upd [] w W → PBool (decide (xs = ys)) w (.returned (.bool false)) W := by
      intro W hW
      rw [decide_eq_false (fun h => hl (by rw [h]))]
      exact ⟨rfl, hW⟩
    have hli : ((xs.length : Int) != (ys.length : Int)) = true := by simp; omega
    clear hx hy hhx hhy hl
    go_enter Try.func73, Try.ntmps73
    go_wp2
    go_ret
    exact hno _ (Upd.refl _ _)
  have hno : ∀ W k, xs.getD k 0 ≠ ys.getD k 0 → Upd [] w W → PBool (decide (xs = ys)) w (.returned (.bool false)) W := by
    intro W k hk hW
    rw [decide_eq_false (eqNo k hk)]
    exact ⟨rfl, hW⟩
  have hyes : ∀ W, xs.take xs.length = ys.take xs.length → Upd [] w W → PBool (decide (xs = ys)) w (.returned (.bool true)) W := by
    intro W hk hW
    rw [List.take_length, hl, List.take_length] at hk
    rw [decide_eq_true hk]
    exact ⟨rfl, hW⟩
  revert hno hyes
  generalize PBool (decide (xs = ys)) w = P
  intro hno hyes
  have hli : ((xs.length : Int) != (ys.length : Int)) = false := by simp; omega
  have hL := Lib.hid hl
  clear hx hy hl
  go_enter Try.func73, Try.ntmps73
  go_wp2
  go_loopw [13] (fun i wr => ∃ k : Nat, k ≤ xs.length ∧ i = .int .i64 (k : Int) ∧ xs.take k = ys.take k ∧ Upd [] w wr) (fun i _ => xs.length - (intOf i).toNat)
  case atStart => exact ⟨0, by omega, rfl, by simp, Upd.refl _ _⟩
  case round =>
    obtain ⟨k, hk, rfl, hpre, hu⟩ := hrel
    by_cases hlt : k < xs.length
    · obtain ⟨b, off, rfl, cw0, hr0⟩ := RdW.at_ hhx k hlt
      obtain ⟨b', off', rfl, cw1, hr1⟩ := RdW.at_ hhy k (by have := hL.out; omega)
      have hlt' : k < ys.length := by have := hL.out; omega
      have hstep := fun h => eqPre (d := 0) hL.out hlt hpre h
      have hno' := fun W h => hno W k h
      revert cw0 cw1 hstep hno' hr0 hr1
      generalize xs.getD k 0 = x0
      generalize ys.getD k 0 = y0
      intro cw0 hr0 cw1 hr1 hstep hno'
      have hc0 := hu.cell (by simp) cw0
      have hc1 := hu.cell (by simp) cw1
      have hstep := Lib.hid hstep
      have hno' := Lib.hid hno'
      clear cw0 cw1 hhx hhy hpre hno hyes
      have hc0 : wr.drew.cell? ⟨b, off + k, none⟩ = some (.int .u16 x0) := hc0
      have hc1 : wr.drew.cell? ⟨b', off' + k, none⟩ = some (.int .u16 y0) := hc1
      go_wp2
      refine rg_start (S := fun w' => w'.cell? ⟨b, off + k, none⟩ = some (.int .u16 x0) ∧ w'.cell? ⟨b', off' + k, none⟩ = some (.int .u16 y0)) (n := 9) #[false, false, false, false, false, false, false, false, false] (by kernel_rfl) rfl rfl ⟨hc0, hc1⟩ (fun hHeld => ?_)
      refine rg_take (i := 0) (N := some 16) (v := ?_) (a' := ?_) #[true, false, false, false, false, false, false, false, false] rfl rfl (by kernel_rfl) (fun _ _ _ h => h) (Or.inl ⟨by rfl, ?_⟩) hHeld ?_ ?_
      rotate_left
      · rintro w' ⟨hs0, hs1⟩
        go_simp
        with_reducible rfl
      rotate_left
      · simp only [Act.put, List.setIfInBounds_toArray, List.set_cons_zero, List.set_cons_succ]
        rfl
      refine rg_take (i := 1) (N := some 17) (v := ?_) (a' := ?_) #[true, true, false, false, false, false, false, false, false] rfl rfl (by kernel_rfl) (fun _ _ _ h => h) (Or.inl ⟨by rfl, ?_⟩) hHeld ?_ ?_
      rotate_left
      · rintro w' ⟨hs0, hs1⟩
        go_simp
        with_reducible rfl
      rotate_left
      · simp only [Act.put, List.setIfInBounds_toArray, List.set_cons_zero, List.set_cons_succ]
        rfl
      refine rg_take (i := 2) (N := some 18) (v := ?_) (a' := ?_) #[true, true, true, false, false, false, false, false, false] rfl rfl (by kernel_rfl) (fun _ _ _ h => h) (Or.inl ⟨by rfl, ?_⟩) hHeld ?_ ?_
      rotate_left
      · rintro w' ⟨hs0, hs1⟩
        go_simp
        with_reducible rfl
      rotate_left
      · simp only [Act.put, List.setIfInBounds_toArray, List.set_cons_zero, List.set_cons_succ]
        rfl
      refine rg_take (i := 3) (N := some 19) (v := ?_) (a' := ?_) #[true, true, true, true, false, false, false, false, false] rfl rfl (by kernel_rfl) (fun _ _ _ h => h) (Or.inl ⟨by rfl, ?_⟩) hHeld ?_ ?_
      rotate_left
      · rintro w' ⟨hs0, hs1⟩
        go_simp
        with_reducible rfl
      rotate_left
      · simp only [Act.put, List.setIfInBounds_toArray, List.set_cons_zero, List.set_cons_succ]
        rfl
      refine rg_take (i := 4) (N := some 20) (v := ?_) (a' := ?_) #[true, true, true, true, true, false, false, false, false] rfl rfl (by kernel_rfl) (fun _ _ _ h => h) (Or.inl ⟨by rfl, ?_⟩) hHeld ?_ ?_
      rotate_left
      · rintro w' ⟨hs0, hs1⟩
        go_simp
        with_reducible rfl
      rotate_left
      · simp only [Act.put, List.setIfInBounds_toArray, List.set_cons_zero, List.set_cons_succ]
        rfl
      refine rg_take (i := 5) (N := some 21) (v := ?_) (a' := ?_) #[true, true, true, true, true, true, false, false, false] rfl rfl (by kernel_rfl) (fun _ _ _ h => h) (Or.inl ⟨by rfl, ?_⟩) hHeld ?_ ?_
      rotate_left
      · rintro w' ⟨hs0, hs1⟩
        go_simp
        with_reducible rfl
      rotate_left
      · simp only [Act.put, List.setIfInBounds_toArray, List.set_cons_zero, List.set_cons_succ]
        rfl
      refine rg_take (i := 6) (N := some 22) (v := ?_) (a' := ?_) #[true, true, true, true, true, true, true, false, false] rfl rfl (by kernel_rfl) (fun _ _ _ h => h) (Or.inl ⟨by rfl, ?_⟩) hHeld ?_ ?_
      rotate_left
      · rintro w' ⟨hs0, hs1⟩
        go_simp
        with_reducible rfl
      rotate_left
      · simp only [Act.put, List.setIfInBounds_toArray, List.set_cons_zero, List.set_cons_succ]
        rfl
      refine rg_take (i := 7) (N := some 23) (v := ?_) (a' := ?_) #[true, true, true, true, true, true, true, true, false] rfl rfl (by kernel_rfl) (fun _ _ _ h => h) (Or.inl ⟨by rfl, ?_⟩) hHeld ?_ ?_
      rotate_left
      · rintro w' ⟨hs0, hs1⟩
        go_simp
        with_reducible rfl
      rotate_left
      · simp only [Act.put, List.setIfInBounds_toArray, List.set_cons_zero, List.set_cons_succ]
        rfl
      refine rg_take (i := 8) (N := some 24) (v := ?_) (a' := ?_) #[true, true, true, true, true, true, true, true, true] rfl rfl (by kernel_rfl) (fun _ _ _ h => h) (Or.inl ⟨by rfl, ?_⟩) hHeld ?_ ?_
      rotate_left
      · rintro w' ⟨hs0, hs1⟩
        go_simp
        with_reducible rfl
      rotate_left
      · simp only [Act.put, List.setIfInBounds_toArray, List.set_cons_zero, List.set_cons_succ]
        rfl
      refine rg_done (by kernel_rfl) ?_
      clear hc0 hc1 hHeld
      go_wp2
      · exact hno'.out _ (by simpa using (show (x0 != y0) = true by assumption)) (hu.drew)
      · go_roundw
        case rel => exact ⟨k + 1, by omega, by go_num, hstep.out (by simpa using (show (x0 != y0) = false by assumption)), hu.drew⟩
        case measure => simp [intOf]; omega
    · have hj3 : k = xs.length := by omega
      have H3 := Lib.hid hj3
      rw [hj3] at hpre
      clear hj3 hhx hhy
      go_wp2
      exact hyes _ hpre hu
set_option maxRecDepth 100000 in
theorem eqL_any {m m' : Bool} {u v : Value} {xs ys : List Bool} {w : World} (hx : RdL m w u xs) (hy : RdL m' w v ys) : Calls Try.prog 74 #[u, v] w (PBool (decide (xs = ys)) w) := by
  have hhx := hx
  have hhy := hy
  obtain ⟨A, c, rfl, hc1, hc2⟩ := hx.shape
  obtain ⟨B, c', rfl, hd1, hd2⟩ := hy.shape
  have hn : xs.length ≤ 9223372036854775807 := by have := hc2; unfold maxLen at this; omega
  by_cases hl : xs.length = ys.length
  case neg =>
    have hno : ∀ W, Upd [] w W → PBool (decide (xs = ys)) w (.returned (.bool false)) W := by
      intro W hW
      rw [decide_eq_false (fun h => hl (by rw [h]))]
      exact ⟨rfl, hW⟩
    have hli : ((xs.length : Int) != (ys.length : Int)) = true := by simp; omega
    clear hx hy hhx hhy hl
    go_enter Try.func74, Try.ntmps74
    go_wp2
    go_ret
    exact hno _ (Upd.refl _ _)
  have hno : ∀ W k, xs.getD k false ≠ ys.getD k false → Upd [] w W → PBool (decide (xs = ys)) w (.returned (.bool false)) W := by
    intro W k hk hW
    rw [decide_eq_false (eqNo k hk)]
    exact ⟨rfl, hW⟩
  have hyes : ∀ W, xs.take xs.length = ys.take xs.length → Upd [] w W → PBool (decide (xs = ys)) w (.returned (.bool true)) W := by
    intro W hk hW
    rw [List.take_length, hl, List.take_length] at hk
    rw [decide_eq_true hk]
    exact ⟨rfl, hW⟩
  revert hno hyes
  generalize PBool (decide (xs = ys)) w = P
  intro hno hyes
  have hli : ((xs.length : Int) != (ys.length : Int)) = false := by simp; omega
  have hL := Lib.hid hl
  clear hx hy hl
  go_enter Try.func74, Try.ntmps74
  go_wp2
  go_loopw [13] (fun i wr => ∃ k : Nat, k ≤ xs.length ∧ i = .int .i64 (k : Int) ∧ xs.take k = ys.take k ∧ Upd [] w wr) (fun i _ => xs.length - (intOf i).toNat)
  case atStart => exact ⟨0, by omega, rfl, by simp, Upd.refl _ _⟩
  case round =>
    obtain ⟨k, hk, rfl, hpre, hu⟩ := hrel
    by_cases hlt : k < xs.length
    · obtain ⟨b, off, rfl, cw0⟩ := RdL.at_ hhx k hlt
      obtain ⟨b', off', rfl, cw1⟩ := RdL.at_ hhy k (by have := hL.out; omega)
      have hlt' : k < ys.length := by have := hL.out; omega
      have hstep := fun h => eqPre (d := false) hL.out hlt hpre h
      have hno' := fun W h => hno W k h
      revert cw0 cw1 hstep hno' 
      generalize xs.getD k false = x0
      generalize ys.getD k false = y0
      intro cw0 cw1 hstep hno'
      have hc0 := hu.cell (by simp) cw0
      have hc1 := hu.cell (by simp) cw1
      have hstep := Lib.hid hstep
      have hno' := Lib.hid hno'
      clear cw0 cw1 hhx hhy hpre hno hyes
      have hc0 : wr.drew.cell? ⟨b, off + k, none⟩ = some (.bool x0) := hc0
      have hc1 : wr.drew.cell? ⟨b', off' + k, none⟩ = some (.bool y0) := hc1
      go_wp2
      refine rg_start (S := fun w' => w'.cell? ⟨b, off + k, none⟩ = some (.bool x0) ∧ w'.cell? ⟨b', off' + k, none⟩ = some (.bool y0)) (n := 9) #[false, false, false, false, false, false, false, false, false] (by kernel_rfl) rfl rfl ⟨hc0, hc1⟩ (fun hHeld => ?_)
      refine rg_take (i := 0) (N := some 16) (v := ?_) (a' := ?_) #[true, false, false, false, false, false, false, false, false] rfl rfl (by kernel_rfl) (fun _ _ _ h => h) (Or.inl ⟨by rfl, ?_⟩) hHeld ?_ ?_
      rotate_left
      · rintro w' ⟨hs0, hs1⟩
        go_simp
        with_reducible rfl
      rotate_left
      · simp only [Act.put, List.setIfInBounds_toArray, List.set_cons_zero, List.set_cons_succ]
        rfl
      refine rg_take (i := 1) (N := some 17) (v := ?_) (a' := ?_) #[true, true, false, false, false, false, false, false, false] rfl rfl (by kernel_rfl) (fun _ _ _ h => h) (Or.inl ⟨by rfl, ?_⟩) hHeld ?_ ?_
      rotate_left
      · rintro w' ⟨hs0, hs1⟩
        go_simp
        with_reducible rfl
      rotate_left
      · simp only [Act.put, List.setIfInBounds_toArray, List.set_cons_zero, List.set_cons_succ]
        rfl
      refine rg_take (i := 2) (N := some 18) (v := ?_) (a' := ?_) #[true, true, true, false, false, false, false, false, false] rfl rfl (by kernel_rfl) (fun _ _ _ h => h) (Or.inl ⟨by rfl, ?_⟩) hHeld ?_ ?_
      rotate_left
      · rintro w' ⟨hs0, hs1⟩
        go_simp
        with_reducible rfl
      rotate_left
      · simp only [Act.put, List.setIfInBounds_toArray, List.set_cons_zero, List.set_cons_succ]
        rfl
      refine rg_take (i := 3) (N := some 19) (v := ?_) (a' := ?_) #[true, true, true, true, false, false, false, false, false] rfl rfl (by kernel_rfl) (fun _ _ _ h => h) (Or.inl ⟨by rfl, ?_⟩) hHeld ?_ ?_
      rotate_left
      · rintro w' ⟨hs0, hs1⟩
        go_simp
        with_reducible rfl
      rotate_left
      · simp only [Act.put, List.setIfInBounds_toArray, List.set_cons_zero, List.set_cons_succ]
        rfl
      refine rg_take (i := 4) (N := some 20) (v := ?_) (a' := ?_) #[true, true, true, true, true, false, false, false, false] rfl rfl (by kernel_rfl) (fun _ _ _ h => h) (Or.inl ⟨by rfl, ?_⟩) hHeld ?_ ?_
      rotate_left
      · rintro w' ⟨hs0, hs1⟩
        go_simp
        with_reducible rfl
      rotate_left
      · simp only [Act.put, List.setIfInBounds_toArray, List.set_cons_zero, List.set_cons_succ]
        rfl
      refine rg_take (i := 5) (N := some 21) (v := ?_) (a' := ?_) #[true, true, true, true, true, true, false, false, false] rfl rfl (by kernel_rfl) (fun _ _ _ h => h) (Or.inl ⟨by rfl, ?_⟩) hHeld ?_ ?_
      rotate_left
      · rintro w' ⟨hs0, hs1⟩
        go_simp
        with_reducible rfl
      rotate_left
      · simp only [Act.put, List.setIfInBounds_toArray, List.set_cons_zero, List.set_cons_succ]
        rfl
      refine rg_take (i := 6) (N := some 22) (v := ?_) (a' := ?_) #[true, true, true, true, true, true, true, false, false] rfl rfl (by kernel_rfl) (fun _ _ _ h => h) (Or.inl ⟨by rfl, ?_⟩) hHeld ?_ ?_
      rotate_left
      · rintro w' ⟨hs0, hs1⟩
        go_simp
        with_reducible rfl
      rotate_left
      · simp only [Act.put, List.setIfInBounds_toArray, List.set_cons_zero, List.set_cons_succ]
        rfl
      refine rg_take (i := 7) (N := some 23) (v := ?_) (a' := ?_) #[true, true, true, true, true, true, true, true, false] rfl rfl (by kernel_rfl) (fun _ _ _ h => h) (Or.inl ⟨by rfl, ?_⟩) hHeld ?_ ?_
      rotate_left
      · rintro w' ⟨hs0, hs1⟩
        go_simp
        with_reducible rfl
      rotate_left
      · simp only [Act.put, List.setIfInBounds_toArray, List.set_cons_zero, List.set_cons_succ]
        rfl
      refine rg_take (i := 8) (N := some 24) (v := ?_) (a' := ?_) #[true, true, true, true, true, true, true, true, true] rfl rfl (by kernel_rfl) (fun _ _ _ h => h) (Or.inl ⟨by rfl, ?_⟩) hHeld ?_ ?_
      rotate_left
      · rintro w' ⟨hs0, hs1⟩
        go_simp
        with_reducible rfl
      rotate_left
      · simp only [Act.put, List.setIfInBounds_toArray, List.set_cons_zero, List.set_cons_succ]
        rfl
      refine rg_done (by kernel_rfl) ?_
      clear hc0 hc1 hHeld
      go_wp2
      · exact hno'.out _ (by simpa using (show (x0 != y0) = true by assumption)) (hu.drew)
      · go_roundw
        case rel => exact ⟨k + 1, by omega, by go_num, hstep.out (by simpa using (show (x0 != y0) = false by assumption)), hu.drew⟩
        case measure => simp [intOf]; omega
    · have hj3 : k = xs.length := by omega
      have H3 := Lib.hid hj3
      rw [hj3] at hpre
      clear hj3 hhx hhy
      go_wp2
      exact hyes _ hpre hu
open Go.RowKit
theorem eq_of_take {α : Type} {xs ys : List α} {k : Nat} (h : xs.take k = ys.take k) (h1 : k = xs.length) (h2 : xs.length = ys.length) : xs = ys := by
  rw [List.take_of_length_le (by omega), List.take_of_length_le (by omega)] at h
  exact h
set_option maxRecDepth 100000 in
set_option maxHeartbeats 4000000 in
theorem refWords_any0 {m m' : Bool} {A B : Option Addr} {c d : Nat} {xs ys : List Int} {w : World} (h1 : RdW m w (.slice A xs.length c) xs) (h2 : RdW m' w (.slice B ys.length d) ys) :
    Calls Try.prog 26 #[.slice A xs.length c, .slice B ys.length d] w (PVal (.bool (decide (xs = ys))) w) := by
 have hz1 := RdG.len h1
 have hz2 := RdG.len h2
 refine en 26 Try.func26 rfl <| sg <| Pl 1 <| nt <| sq <| sg <| Pl 5 <| nt <| cb ((((xs.length : Nat) : Int) != ((ys.length : Nat) : Int))) (fun q10 => ?_) (fun q10 => ?_)
 have q10p := ne_of_bnei q10
 refine sg <| Pl 1 <| nt <| rt <| tr <| rr (.bool false) <| ?_
 have hs : decide (xs = ys) = false := decide_eq_false (fun e => by rw [e] at q10p; omega)
 rw [hs]
 exact ⟨rfl, (Upd.refl [] _)⟩
 have q10p := eq_of_bnei q10
 refine skn <| sq <| sg <| Pl 1 <| nt <| bk <| ?_
 refine glp (fun x => [(0, .slice A xs.length c), (1, .slice B ys.length d), (5, .int .i64 ((x : Nat) : Int))]) (fun (x : Nat) w' => Upd [] w w' ∧ (xs.take x = ys.take x) ∧ (x ≤ xs.length)) (fun x => xs.length - x) 0 ⟨Upd.refl _ _, (by (try dsimp only); simp), (by (try dsimp only); omega)⟩ ?_
 rintro k w11 ⟨hu12, p13, p14⟩
 refine wkc [(0, .slice A xs.length c), (1, .slice B ys.length d), (5, .int .i64 ((k : Nat) : Int))] ?_
 have p16 : xs.take k = ys.take k := p13
 have p17 : k ≤ xs.length := p14
 refine sq <| sg <| Pl 4 <| nt <| cb ((decide (((k : Nat) : Int) < ((xs.length : Nat) : Int)))) (fun q18 => ?_) (fun q18 => ?_)
 have q18p := of_decide_eq_true q18
 refine skn <| sq <| bk <| sq <| ?_
 have r31 := RdW.old h1 hu12
 refine x23 (RdW.at_ r31 k (by omega)) fun b32 o33 hA34 hl35 hr36 => ?_
 have r37 := RdW.old h2 hu12
 refine x23 (RdW.at_ r37 k (by omega)) fun b38 o39 hA40 hl41 hr42 => Rg 9 (fun w' => w'.cell? ⟨b32, o33 + k, none⟩ = some (.int .u16 (xs.getD k 0)) ∧ w'.cell? ⟨b38, o39 + k, none⟩ = some (.int .u16 (ys.getD k 0))) fun w43 hu44 => hld ⟨(uc hu44 hl35), (uc hu44 hl41)⟩ fun hS45 => Rt 0 hS45 <| Rt 1 hS45 <| Ri1 2 hS45 xs.length k ((k : Nat) : Int) rfl hA34 (by omega) <| Rl 3 hS45 (fun _ hs => hs.1) <| Rt 4 hS45 <| Rt 5 hS45 <| Ri1 6 hS45 ys.length k ((k : Nat) : Int) rfl hA40 (by omega) <| Rl 7 hS45 (fun _ hs => hs.2) <| Rt 8 hS45 <| re <| tn <| ?_
 have U46 := ut0 hu12 hu44
 refine cb (((xs.getD k 0) != (ys.getD k 0))) (fun q47 => ?_) (fun q47 => ?_)
 have q47p := ne_of_bnei q47
 refine sg <| Pl 1 <| nt <| rt <| br <| tr <| tr <| br <| tr <| rr (.bool false) <| ?_
 have hs : decide (xs = ys) = false := decide_eq_false (eqNo (d := 0) k (by simpa using q47))
 rw [hs]
 exact ⟨rfl, U46⟩
 have q47p := eq_of_bnei q47
 exact sk <| bn <| tn <| go <| Pl 1 <| L0 <| Oi (((k : Nat) : Int) + 1) <| Pl 1 <| nl <| lpe (k + 1) ⟨U46, (eqPre (d := 0) (by omega) (by omega) p16 q47p), (by (try dsimp only); omega)⟩ (by omega)
 have q18p := of_decide_eq_false q18
 refine xt <| tx <| tx <| bx <| tn <| sg <| Pl 1 <| nt <| rt <| rr (.bool true) <| ?_
 have hs : decide (xs = ys) = true := decide_eq_true (eq_of_take p16 (by omega) (by omega))
 rw [hs]
 exact ⟨rfl, hu12⟩
theorem refWords_any {m m' : Bool} {a b : Value} {xs ys : List Int} {w : World} (h1 : RdW m w a xs) (h2 : RdW m' w b ys) : Calls Try.prog 26 #[a, b] w (PVal (.bool (decide (xs = ys))) w) := by
  obtain ⟨A, c, rfl, _, _⟩ := h1.shape
  obtain ⟨B, d, rfl, _, _⟩ := h2.shape
  exact refWords_any0 h1 h2
set_option maxRecDepth 100000 in
set_option maxHeartbeats 4000000 in
theorem refBools_any0 {m m' : Bool} {A B : Option Addr} {c d : Nat} {xs ys : List Bool} {w : World} (h1 : RdL m w (.slice A xs.length c) xs) (h2 : RdL m' w (.slice B ys.length d) ys) :
    Calls Try.prog 27 #[.slice A xs.length c, .slice B ys.length d] w (PVal (.bool (decide (xs = ys))) w) := by
 have hz1 := RdG.len h1
 have hz2 := RdG.len h2
 refine en 26 Try.func27 rfl <| sg <| Pl 1 <| nt <| sq <| sg <| Pl 5 <| nt <| cb ((((xs.length : Nat) : Int) != ((ys.length : Nat) : Int))) (fun q10 => ?_) (fun q10 => ?_)
 have q10p := ne_of_bnei q10
 refine sg <| Pl 1 <| nt <| rt <| tr <| rr (.bool false) <| ?_
 have hs : decide (xs = ys) = false := decide_eq_false (fun e => by rw [e] at q10p; omega)
 rw [hs]
 exact ⟨rfl, (Upd.refl [] _)⟩
 have q10p := eq_of_bnei q10
 refine skn <| sq <| sg <| Pl 1 <| nt <| bk <| ?_
 refine glp (fun x => [(0, .slice A xs.length c), (1, .slice B ys.length d), (5, .int .i64 ((x : Nat) : Int))]) (fun (x : Nat) w' => Upd [] w w' ∧ (xs.take x = ys.take x) ∧ (x ≤ xs.length)) (fun x => xs.length - x) 0 ⟨Upd.refl _ _, (by (try dsimp only); simp), (by (try dsimp only); omega)⟩ ?_
 rintro k w11 ⟨hu12, p13, p14⟩
 refine wkc [(0, .slice A xs.length c), (1, .slice B ys.length d), (5, .int .i64 ((k : Nat) : Int))] ?_
 have p16 : xs.take k = ys.take k := p13
 have p17 : k ≤ xs.length := p14
 refine sq <| sg <| Pl 4 <| nt <| cb ((decide (((k : Nat) : Int) < ((xs.length : Nat) : Int)))) (fun q18 => ?_) (fun q18 => ?_)
 have q18p := of_decide_eq_true q18
 refine skn <| sq <| bk <| sq <| ?_
 have r31 := RdL.old h1 hu12
 refine x22 (RdL.at_ r31 k (by omega)) fun b32 o33 hA34 hl35 => ?_
 have r37 := RdL.old h2 hu12
 refine x22 (RdL.at_ r37 k (by omega)) fun b38 o39 hA40 hl41 => Rg 9 (fun w' => w'.cell? ⟨b32, o33 + k, none⟩ = some (.bool (xs.getD k false)) ∧ w'.cell? ⟨b38, o39 + k, none⟩ = some (.bool (ys.getD k false))) fun w43 hu44 => hld ⟨(uc hu44 hl35), (uc hu44 hl41)⟩ fun hS45 => Rt 0 hS45 <| Rt 1 hS45 <| Ri1 2 hS45 xs.length k ((k : Nat) : Int) rfl hA34 (by omega) <| Rl 3 hS45 (fun _ hs => hs.1) <| Rt 4 hS45 <| Rt 5 hS45 <| Ri1 6 hS45 ys.length k ((k : Nat) : Int) rfl hA40 (by omega) <| Rl 7 hS45 (fun _ hs => hs.2) <| Rt 8 hS45 <| re <| tn <| ?_
 have U46 := ut0 hu12 hu44
 refine cb (((xs.getD k false) != (ys.getD k false))) (fun q47 => ?_) (fun q47 => ?_)
 refine sg <| Pl 1 <| nt <| rt <| br <| tr <| tr <| br <| tr <| rr (.bool false) <| ?_
 have hs : decide (xs = ys) = false := decide_eq_false (eqNo (d := false) k (by simpa using q47))
 rw [hs]
 exact ⟨rfl, U46⟩
 exact sk <| bn <| tn <| go <| Pl 1 <| L0 <| Oi (((k : Nat) : Int) + 1) <| Pl 1 <| nl <| lpe (k + 1) ⟨U46, (eqPre (d := false) (by omega) (by omega) p16 (by simpa using q47)), (by (try dsimp only); omega)⟩ (by omega)
 have q18p := of_decide_eq_false q18
 refine xt <| tx <| tx <| bx <| tn <| sg <| Pl 1 <| nt <| rt <| rr (.bool true) <| ?_
 have hs : decide (xs = ys) = true := decide_eq_true (eq_of_take p16 (by omega) (by omega))
 rw [hs]
 exact ⟨rfl, hu12⟩
theorem refBools_any {m m' : Bool} {a b : Value} {xs ys : List Bool} {w : World} (h1 : RdL m w a xs) (h2 : RdL m' w b ys) : Calls Try.prog 27 #[a, b] w (PVal (.bool (decide (xs = ys))) w) := by
  obtain ⟨A, c, rfl, _, _⟩ := h1.shape
  obtain ⟨B, d, rfl, _, _⟩ := h2.shape
  exact refBools_any0 h1 h2
open Go.RowKit
theorem take_eq {α : Type} {xs ys : List α} {d : α} {k : Nat} (h : xs.take k = ys.take k) (hk : k < xs.length) (hl : xs.length = ys.length) (he : xs.getD k d = ys.getD k d) : xs.take (k + 1) = ys.take (k + 1) := by
  have hk2 : k < ys.length := by omega
  rw [List.take_succ_eq_append_getElem hk, List.take_succ_eq_append_getElem hk2, h]
  rw [List.getD_eq_getElem?_getD, List.getElem?_eq_getElem hk, List.getD_eq_getElem?_getD, List.getElem?_eq_getElem (by omega)] at he
  simp only [Option.getD_some] at he
  rw [he]
theorem rec_eq {a b : Rec} (h : ((((!(decide (a.words = b.words))) || (a.file != b.file)) || (a.record != b.record)) || (a.count != b.count)) = false) : a = b := by
  cases a
  cases b
  simp at h
  simp [h]
theorem obj_eq {a b : Obj} (h : ((!(decide (a.value = b.value))) || (a.id != b.id)) = false) : a = b := by
  cases a
  cases b
  simp at h
  simp [h]
theorem obj_eq2 {a b : Obj} (h : (!(decide (a.value = b.value))) = false) (h2 : (a.id != b.id) = false) : a = b := obj_eq (by rw [h, h2]; rfl)
theorem ne_by {A B : Msg} {f : Msg → Msg → Bool} (h : f A B = true) (hf : ∀ M, f M M = false) : decide (A = B) = false := decide_eq_false fun e => by rw [e, hf] at h; cases h
theorem same7_t {A B : Msg} (h1 : ((((((((((((A.code != B.code) || (A.fail != B.fail)) || (A.addr != B.addr)) || (A.count != B.count)) || (A.value != B.value)) || (A.and_ != B.and_)) || (A.or_ != B.or_)) || (A.addr2 != B.addr2)) || (A.sub != B.sub)) || (A.status != B.status)) || (A.events != B.events)) || (A.messages != B.messages)) = false) (h2 : (((((A.mei != B.mei) || (A.kind != B.kind)) || (A.level != B.level)) || (A.more != B.more)) || (A.next != B.next)) = false) (h3 : (((((!(decide (A.words = B.words))) || (!(decide (A.bits = B.bits)))) || (!(decide (A.data = B.data)))) || (((A.recs.length : Nat) : Int) != ((B.recs.length : Nat) : Int))) || (((A.objects.length : Nat) : Int) != ((B.objects.length : Nat) : Int))) = false) (hr : A.recs.length = B.recs.length → A.recs = B.recs) (ho : A.objects.length = B.objects.length → A.objects = B.objects) : A = B := by
  cases A
  cases B
  simp only [Bool.or_eq_false_iff, bne_eq_false_iff_eq, Bool.not_eq_false', decide_eq_true_eq] at h1 h2 h3
  simp only at hr ho
  obtain ⟨⟨⟨⟨⟨⟨⟨⟨⟨⟨⟨a1, a2⟩, a3⟩, a4⟩, a5⟩, a6⟩, a7⟩, a8⟩, a9⟩, a10⟩, a11⟩, a12⟩ := h1
  obtain ⟨⟨⟨⟨b1, b2⟩, b3⟩, b4⟩, b5⟩ := h2
  obtain ⟨⟨⟨⟨d1, d2⟩, d3⟩, d4⟩, d5⟩ := h3
  have d4 := hr (by omega)
  have d5 := ho (by omega)
  subst a1 a2 a3 a4 a5 a6 a7 a8 a9 a10 a11 a12 b1 b2 b3 b4 b5 d1 d2 d3 d4 d5
  rfl
set_option maxRecDepth 100000 in
set_option maxHeartbeats 4000000 in
theorem same7_any {m m' : Bool} {pc qc : Array Value} {A B : Msg} {w : World} (ha : MsgRd m w pc.toList A) (hb : MsgRd m' w qc.toList B) :
    Calls Try.prog 18 #[.agg pc, .agg qc] w (PVal (.bool (decide (A = B))) w) := by
 have pM := ha
 obtain ⟨pvw, pvb, pvd, pvr, pvo, ph0, phw, phb, phd, phr, pho, pR⟩ := ha
 obtain rfl : pc = (msgCells A pvw pvb pvd pvr pvo).toArray := by apply Array.toList_inj.1; simpa using ph0
 clear ph0
 obtain ⟨pw, pkw, rfl, _, _⟩ := phw.shape
 obtain ⟨pb, pkb, rfl, _, _⟩ := phb.shape
 obtain ⟨pd, pkd, rfl, _, _⟩ := phd.shape
 obtain ⟨pr, pkr, rfl, _, _⟩ := phr.shape
 obtain ⟨po, pko, rfl, _, _⟩ := pho.shape
 have qM := hb
 obtain ⟨qvw, qvb, qvd, qvr, qvo, qh0, qhw, qhb, qhd, qhr, qho, qR⟩ := hb
 obtain rfl : qc = (msgCells B qvw qvb qvd qvr qvo).toArray := by apply Array.toList_inj.1; simpa using qh0
 clear qh0
 obtain ⟨qw, qkw, rfl, _, _⟩ := qhw.shape
 obtain ⟨qb, qkb, rfl, _, _⟩ := qhb.shape
 obtain ⟨qd, qkd, rfl, _, _⟩ := qhd.shape
 obtain ⟨qr, qkr, rfl, _, _⟩ := qhr.shape
 obtain ⟨qo, qko, rfl, _, _⟩ := qho.shape
 have hz1 := RdG.len phr
 have hz2 := RdG.len pho
 refine en 254 Try.func18 rfl <| sg <| L0 <| Obx (mG A.code A.fail A.addr A.count A.value A.and_ A.or_ A.addr2 A.sub A.status A.events A.messages (.slice pw A.words.length pkw) (.slice pb A.bits.length pkb) (.slice pd A.data.length pkd) (.slice pr A.recs.length pkr) A.mei A.kind A.level A.more A.next (.slice po A.objects.length pko)) fun g10 w11 hg12 B13 hu14 => L0 <| Obx (mG B.code B.fail B.addr B.count B.value B.and_ B.or_ B.addr2 B.sub B.status B.events B.messages (.slice qw B.words.length qkw) (.slice qb B.bits.length qkb) (.slice qd B.data.length qkd) (.slice qr B.recs.length qkr) B.mei B.kind B.level B.more B.next (.slice qo B.objects.length qko)) fun g15 w16 hg17 B18 hu19 => Pl 1 <| nt <| sq <| sg <| Pl 1 <| ?_
 have r20 := ub hu19 B13
 refine L0 <| Olb r20 0 <| Pl 1 <| L0 <| Olb B18 0 <| Pl 2 <| cu 6 [19] 25 (((A.code != B.code) || (A.fail != B.fail))) (fun K K22 => ?_) ?_
 refine bl 19 ((A.code != B.code)) (fun q21 => ?_) (fun q21 => ?_)
 have q21p := ne_of_bnei q21
 exact Pl 6 <| ce K22 true (by rw [q21]; rfl)
 have q21p := eq_of_bnei q21
 exact Pl 1 <| L1 <| Olb r20 1 <| Pl 1 <| L1 <| Olb B18 1 <| Pl 2 <| ce K22 (A.fail != B.fail) (by rw [q21]; rfl)
 refine Pl 1 <| cu 6 [26] 32 ((((A.code != B.code) || (A.fail != B.fail)) || (A.addr != B.addr))) (fun K K24 => ?_) ?_
 refine bl 26 (((A.code != B.code) || (A.fail != B.fail))) (fun q23 => ?_) (fun q23 => ?_)
 exact Pl 6 <| ce K24 true (by rw [q23]; rfl)
 have q23a := (or_f q23).1
 have q23b := (or_f q23).2
 have q23ap := eq_of_bnei q23a
 have q23bp := eq_of_bnei q23b
 exact Pl 1 <| L1 <| Olb r20 2 <| Pl 1 <| L1 <| Olb B18 2 <| Pl 2 <| ce K24 (A.addr != B.addr) (by rw [q23]; rfl)
 refine Pl 1 <| cu 6 [33] 39 (((((A.code != B.code) || (A.fail != B.fail)) || (A.addr != B.addr)) || (A.count != B.count))) (fun K K26 => ?_) ?_
 refine bl 33 ((((A.code != B.code) || (A.fail != B.fail)) || (A.addr != B.addr))) (fun q25 => ?_) (fun q25 => ?_)
 exact Pl 6 <| ce K26 true (by rw [q25]; rfl)
 have q25a := (or_f q25).1
 have q25b := (or_f q25).2
 have q25aa := (or_f q25a).1
 have q25ab := (or_f q25a).2
 have q25aap := eq_of_bnei q25aa
 have q25abp := eq_of_bnei q25ab
 have q25bp := eq_of_bnei q25b
 exact Pl 1 <| L1 <| Olb r20 3 <| Pl 1 <| L1 <| Olb B18 3 <| Pl 2 <| ce K26 (A.count != B.count) (by rw [q25]; rfl)
 refine Pl 1 <| cu 6 [40] 46 ((((((A.code != B.code) || (A.fail != B.fail)) || (A.addr != B.addr)) || (A.count != B.count)) || (A.value != B.value))) (fun K K28 => ?_) ?_
 refine bl 40 (((((A.code != B.code) || (A.fail != B.fail)) || (A.addr != B.addr)) || (A.count != B.count))) (fun q27 => ?_) (fun q27 => ?_)
 exact Pl 6 <| ce K28 true (by rw [q27]; rfl)
 have q27a := (or_f q27).1
 have q27b := (or_f q27).2
 have q27aa := (or_f q27a).1
 have q27ab := (or_f q27a).2
 have q27aaa := (or_f q27aa).1
 have q27aab := (or_f q27aa).2
 have q27aaap := eq_of_bnei q27aaa
 have q27aabp := eq_of_bnei q27aab
 have q27abp := eq_of_bnei q27ab
 have q27bp := eq_of_bnei q27b
 exact Pl 1 <| L1 <| Olb r20 4 <| Pl 1 <| L1 <| Olb B18 4 <| Pl 2 <| ce K28 (A.value != B.value) (by rw [q27]; rfl)
 refine Pl 1 <| cu 6 [47] 53 (((((((A.code != B.code) || (A.fail != B.fail)) || (A.addr != B.addr)) || (A.count != B.count)) || (A.value != B.value)) || (A.and_ != B.and_))) (fun K K30 => ?_) ?_
 refine bl 47 ((((((A.code != B.code) || (A.fail != B.fail)) || (A.addr != B.addr)) || (A.count != B.count)) || (A.value != B.value))) (fun q29 => ?_) (fun q29 => ?_)
 exact Pl 6 <| ce K30 true (by rw [q29]; rfl)
 have q29a := (or_f q29).1
 have q29b := (or_f q29).2
 have q29aa := (or_f q29a).1
 have q29ab := (or_f q29a).2
 have q29aaa := (or_f q29aa).1
 have q29aab := (or_f q29aa).2
 have q29aaaa := (or_f q29aaa).1
 have q29aaab := (or_f q29aaa).2
 have q29aaaap := eq_of_bnei q29aaaa
 have q29aaabp := eq_of_bnei q29aaab
 have q29aabp := eq_of_bnei q29aab
 have q29abp := eq_of_bnei q29ab
 have q29bp := eq_of_bnei q29b
 exact Pl 1 <| L1 <| Olb r20 5 <| Pl 1 <| L1 <| Olb B18 5 <| Pl 2 <| ce K30 (A.and_ != B.and_) (by rw [q29]; rfl)
 refine Pl 1 <| cu 6 [54] 60 ((((((((A.code != B.code) || (A.fail != B.fail)) || (A.addr != B.addr)) || (A.count != B.count)) || (A.value != B.value)) || (A.and_ != B.and_)) || (A.or_ != B.or_))) (fun K K32 => ?_) ?_
 refine bl 54 (((((((A.code != B.code) || (A.fail != B.fail)) || (A.addr != B.addr)) || (A.count != B.count)) || (A.value != B.value)) || (A.and_ != B.and_))) (fun q31 => ?_) (fun q31 => ?_)
 exact Pl 6 <| ce K32 true (by rw [q31]; rfl)
 have q31a := (or_f q31).1
 have q31b := (or_f q31).2
 have q31aa := (or_f q31a).1
 have q31ab := (or_f q31a).2
 have q31aaa := (or_f q31aa).1
 have q31aab := (or_f q31aa).2
 have q31aaaa := (or_f q31aaa).1
 have q31aaab := (or_f q31aaa).2
 have q31aaaaa := (or_f q31aaaa).1
 have q31aaaab := (or_f q31aaaa).2
 have q31aaaaap := eq_of_bnei q31aaaaa
 have q31aaaabp := eq_of_bnei q31aaaab
 have q31aaabp := eq_of_bnei q31aaab
 have q31aabp := eq_of_bnei q31aab
 have q31abp := eq_of_bnei q31ab
 have q31bp := eq_of_bnei q31b
 exact Pl 1 <| L1 <| Olb r20 6 <| Pl 1 <| L1 <| Olb B18 6 <| Pl 2 <| ce K32 (A.or_ != B.or_) (by rw [q31]; rfl)
 refine Pl 1 <| cu 6 [61] 67 (((((((((A.code != B.code) || (A.fail != B.fail)) || (A.addr != B.addr)) || (A.count != B.count)) || (A.value != B.value)) || (A.and_ != B.and_)) || (A.or_ != B.or_)) || (A.addr2 != B.addr2))) (fun K K34 => ?_) ?_
 refine bl 61 ((((((((A.code != B.code) || (A.fail != B.fail)) || (A.addr != B.addr)) || (A.count != B.count)) || (A.value != B.value)) || (A.and_ != B.and_)) || (A.or_ != B.or_))) (fun q33 => ?_) (fun q33 => ?_)
 exact Pl 6 <| ce K34 true (by rw [q33]; rfl)
 have q33a := (or_f q33).1
 have q33b := (or_f q33).2
 have q33aa := (or_f q33a).1
 have q33ab := (or_f q33a).2
 have q33aaa := (or_f q33aa).1
 have q33aab := (or_f q33aa).2
 have q33aaaa := (or_f q33aaa).1
 have q33aaab := (or_f q33aaa).2
 have q33aaaaa := (or_f q33aaaa).1
 have q33aaaab := (or_f q33aaaa).2
 have q33aaaaaa := (or_f q33aaaaa).1
 have q33aaaaab := (or_f q33aaaaa).2
 have q33aaaaaap := eq_of_bnei q33aaaaaa
 have q33aaaaabp := eq_of_bnei q33aaaaab
 have q33aaaabp := eq_of_bnei q33aaaab
 have q33aaabp := eq_of_bnei q33aaab
 have q33aabp := eq_of_bnei q33aab
 have q33abp := eq_of_bnei q33ab
 have q33bp := eq_of_bnei q33b
 exact Pl 1 <| L1 <| Olb r20 7 <| Pl 1 <| L1 <| Olb B18 7 <| Pl 2 <| ce K34 (A.addr2 != B.addr2) (by rw [q33]; rfl)
 refine Pl 1 <| cu 6 [68] 74 ((((((((((A.code != B.code) || (A.fail != B.fail)) || (A.addr != B.addr)) || (A.count != B.count)) || (A.value != B.value)) || (A.and_ != B.and_)) || (A.or_ != B.or_)) || (A.addr2 != B.addr2)) || (A.sub != B.sub))) (fun K K36 => ?_) ?_
 refine bl 68 (((((((((A.code != B.code) || (A.fail != B.fail)) || (A.addr != B.addr)) || (A.count != B.count)) || (A.value != B.value)) || (A.and_ != B.and_)) || (A.or_ != B.or_)) || (A.addr2 != B.addr2))) (fun q35 => ?_) (fun q35 => ?_)
 exact Pl 6 <| ce K36 true (by rw [q35]; rfl)
 have q35a := (or_f q35).1
 have q35b := (or_f q35).2
 have q35aa := (or_f q35a).1
 have q35ab := (or_f q35a).2
 have q35aaa := (or_f q35aa).1
 have q35aab := (or_f q35aa).2
 have q35aaaa := (or_f q35aaa).1
 have q35aaab := (or_f q35aaa).2
 have q35aaaaa := (or_f q35aaaa).1
 have q35aaaab := (or_f q35aaaa).2
 have q35aaaaaa := (or_f q35aaaaa).1
 have q35aaaaab := (or_f q35aaaaa).2
 have q35aaaaaaa := (or_f q35aaaaaa).1
 have q35aaaaaab := (or_f q35aaaaaa).2
 have q35aaaaaaap := eq_of_bnei q35aaaaaaa
 have q35aaaaaabp := eq_of_bnei q35aaaaaab
 have q35aaaaabp := eq_of_bnei q35aaaaab
 have q35aaaabp := eq_of_bnei q35aaaab
 have q35aaabp := eq_of_bnei q35aaab
 have q35aabp := eq_of_bnei q35aab
 have q35abp := eq_of_bnei q35ab
 have q35bp := eq_of_bnei q35b
 exact Pl 1 <| L1 <| Olb r20 8 <| Pl 1 <| L1 <| Olb B18 8 <| Pl 2 <| ce K36 (A.sub != B.sub) (by rw [q35]; rfl)
 refine Pl 1 <| cu 6 [75] 81 (((((((((((A.code != B.code) || (A.fail != B.fail)) || (A.addr != B.addr)) || (A.count != B.count)) || (A.value != B.value)) || (A.and_ != B.and_)) || (A.or_ != B.or_)) || (A.addr2 != B.addr2)) || (A.sub != B.sub)) || (A.status != B.status))) (fun K K38 => ?_) ?_
 refine bl 75 ((((((((((A.code != B.code) || (A.fail != B.fail)) || (A.addr != B.addr)) || (A.count != B.count)) || (A.value != B.value)) || (A.and_ != B.and_)) || (A.or_ != B.or_)) || (A.addr2 != B.addr2)) || (A.sub != B.sub))) (fun q37 => ?_) (fun q37 => ?_)
 exact Pl 6 <| ce K38 true (by rw [q37]; rfl)
 have q37a := (or_f q37).1
 have q37b := (or_f q37).2
 have q37aa := (or_f q37a).1
 have q37ab := (or_f q37a).2
 have q37aaa := (or_f q37aa).1
 have q37aab := (or_f q37aa).2
 have q37aaaa := (or_f q37aaa).1
 have q37aaab := (or_f q37aaa).2
 have q37aaaaa := (or_f q37aaaa).1
 have q37aaaab := (or_f q37aaaa).2
 have q37aaaaaa := (or_f q37aaaaa).1
 have q37aaaaab := (or_f q37aaaaa).2
 have q37aaaaaaa := (or_f q37aaaaaa).1
 have q37aaaaaab := (or_f q37aaaaaa).2
 have q37aaaaaaaa := (or_f q37aaaaaaa).1
 have q37aaaaaaab := (or_f q37aaaaaaa).2
 have q37aaaaaaaap := eq_of_bnei q37aaaaaaaa
 have q37aaaaaaabp := eq_of_bnei q37aaaaaaab
 have q37aaaaaabp := eq_of_bnei q37aaaaaab
 have q37aaaaabp := eq_of_bnei q37aaaaab
 have q37aaaabp := eq_of_bnei q37aaaab
 have q37aaabp := eq_of_bnei q37aaab
 have q37aabp := eq_of_bnei q37aab
 have q37abp := eq_of_bnei q37ab
 have q37bp := eq_of_bnei q37b
 exact Pl 1 <| L1 <| Olb r20 9 <| Pl 1 <| L1 <| Olb B18 9 <| Pl 2 <| ce K38 (A.status != B.status) (by rw [q37]; rfl)
 refine Pl 1 <| cu 6 [82] 88 ((((((((((((A.code != B.code) || (A.fail != B.fail)) || (A.addr != B.addr)) || (A.count != B.count)) || (A.value != B.value)) || (A.and_ != B.and_)) || (A.or_ != B.or_)) || (A.addr2 != B.addr2)) || (A.sub != B.sub)) || (A.status != B.status)) || (A.events != B.events))) (fun K K40 => ?_) ?_
 refine bl 82 (((((((((((A.code != B.code) || (A.fail != B.fail)) || (A.addr != B.addr)) || (A.count != B.count)) || (A.value != B.value)) || (A.and_ != B.and_)) || (A.or_ != B.or_)) || (A.addr2 != B.addr2)) || (A.sub != B.sub)) || (A.status != B.status))) (fun q39 => ?_) (fun q39 => ?_)
 exact Pl 6 <| ce K40 true (by rw [q39]; rfl)
 have q39a := (or_f q39).1
 have q39b := (or_f q39).2
 have q39aa := (or_f q39a).1
 have q39ab := (or_f q39a).2
 have q39aaa := (or_f q39aa).1
 have q39aab := (or_f q39aa).2
 have q39aaaa := (or_f q39aaa).1
 have q39aaab := (or_f q39aaa).2
 have q39aaaaa := (or_f q39aaaa).1
 have q39aaaab := (or_f q39aaaa).2
 have q39aaaaaa := (or_f q39aaaaa).1
 have q39aaaaab := (or_f q39aaaaa).2
 have q39aaaaaaa := (or_f q39aaaaaa).1
 have q39aaaaaab := (or_f q39aaaaaa).2
 have q39aaaaaaaa := (or_f q39aaaaaaa).1
 have q39aaaaaaab := (or_f q39aaaaaaa).2
 have q39aaaaaaaaa := (or_f q39aaaaaaaa).1
 have q39aaaaaaaab := (or_f q39aaaaaaaa).2
 have q39aaaaaaaaap := eq_of_bnei q39aaaaaaaaa
 have q39aaaaaaaabp := eq_of_bnei q39aaaaaaaab
 have q39aaaaaaabp := eq_of_bnei q39aaaaaaab
 have q39aaaaaabp := eq_of_bnei q39aaaaaab
 have q39aaaaabp := eq_of_bnei q39aaaaab
 have q39aaaabp := eq_of_bnei q39aaaab
 have q39aaabp := eq_of_bnei q39aaab
 have q39aabp := eq_of_bnei q39aab
 have q39abp := eq_of_bnei q39ab
 have q39bp := eq_of_bnei q39b
 exact Pl 1 <| L1 <| Olb r20 10 <| Pl 1 <| L1 <| Olb B18 10 <| Pl 2 <| ce K40 (A.events != B.events) (by rw [q39]; rfl)
 refine Pl 1 <| cu 6 [89] 95 (((((((((((((A.code != B.code) || (A.fail != B.fail)) || (A.addr != B.addr)) || (A.count != B.count)) || (A.value != B.value)) || (A.and_ != B.and_)) || (A.or_ != B.or_)) || (A.addr2 != B.addr2)) || (A.sub != B.sub)) || (A.status != B.status)) || (A.events != B.events)) || (A.messages != B.messages))) (fun K K42 => ?_) ?_
 refine bl 89 ((((((((((((A.code != B.code) || (A.fail != B.fail)) || (A.addr != B.addr)) || (A.count != B.count)) || (A.value != B.value)) || (A.and_ != B.and_)) || (A.or_ != B.or_)) || (A.addr2 != B.addr2)) || (A.sub != B.sub)) || (A.status != B.status)) || (A.events != B.events))) (fun q41 => ?_) (fun q41 => ?_)
 exact Pl 6 <| ce K42 true (by rw [q41]; rfl)
 have q41a := (or_f q41).1
 have q41b := (or_f q41).2
 have q41aa := (or_f q41a).1
 have q41ab := (or_f q41a).2
 have q41aaa := (or_f q41aa).1
 have q41aab := (or_f q41aa).2
 have q41aaaa := (or_f q41aaa).1
 have q41aaab := (or_f q41aaa).2
 have q41aaaaa := (or_f q41aaaa).1
 have q41aaaab := (or_f q41aaaa).2
 have q41aaaaaa := (or_f q41aaaaa).1
 have q41aaaaab := (or_f q41aaaaa).2
 have q41aaaaaaa := (or_f q41aaaaaa).1
 have q41aaaaaab := (or_f q41aaaaaa).2
 have q41aaaaaaaa := (or_f q41aaaaaaa).1
 have q41aaaaaaab := (or_f q41aaaaaaa).2
 have q41aaaaaaaaa := (or_f q41aaaaaaaa).1
 have q41aaaaaaaab := (or_f q41aaaaaaaa).2
 have q41aaaaaaaaaa := (or_f q41aaaaaaaaa).1
 have q41aaaaaaaaab := (or_f q41aaaaaaaaa).2
 have q41aaaaaaaaaap := eq_of_bnei q41aaaaaaaaaa
 have q41aaaaaaaaabp := eq_of_bnei q41aaaaaaaaab
 have q41aaaaaaaabp := eq_of_bnei q41aaaaaaaab
 have q41aaaaaaabp := eq_of_bnei q41aaaaaaab
 have q41aaaaaabp := eq_of_bnei q41aaaaaab
 have q41aaaaabp := eq_of_bnei q41aaaaab
 have q41aaaabp := eq_of_bnei q41aaaab
 have q41aaabp := eq_of_bnei q41aaab
 have q41aabp := eq_of_bnei q41aab
 have q41abp := eq_of_bnei q41ab
 have q41bp := eq_of_bnei q41b
 exact Pl 1 <| L1 <| Olb r20 11 <| Pl 1 <| L1 <| Olb B18 11 <| Pl 2 <| ce K42 (A.messages != B.messages) (by rw [q41]; rfl)
 refine nt <| ?_
 have U43 := ut0 hu14 hu19
 refine cb (((((((((((((A.code != B.code) || (A.fail != B.fail)) || (A.addr != B.addr)) || (A.count != B.count)) || (A.value != B.value)) || (A.and_ != B.and_)) || (A.or_ != B.or_)) || (A.addr2 != B.addr2)) || (A.sub != B.sub)) || (A.status != B.status)) || (A.events != B.events)) || (A.messages != B.messages))) (fun q44 => ?_) (fun q44 => ?_)
 refine sg <| Pl 1 <| nt <| rt <| tr <| rr (.bool false) <| ?_
 have hs : decide (A = B) = false := ne_by (f := fun x y => ((((((((((((x.code != y.code) || (x.fail != y.fail)) || (x.addr != y.addr)) || (x.count != y.count)) || (x.value != y.value)) || (x.and_ != y.and_)) || (x.or_ != y.or_)) || (x.addr2 != y.addr2)) || (x.sub != y.sub)) || (x.status != y.status)) || (x.events != y.events)) || (x.messages != y.messages))) q44 (fun M => by simp)
 rw [hs]
 exact ⟨rfl, U43⟩
 have q44a := (or_f q44).1
 have q44b := (or_f q44).2
 have q44aa := (or_f q44a).1
 have q44ab := (or_f q44a).2
 have q44aaa := (or_f q44aa).1
 have q44aab := (or_f q44aa).2
 have q44aaaa := (or_f q44aaa).1
 have q44aaab := (or_f q44aaa).2
 have q44aaaaa := (or_f q44aaaa).1
 have q44aaaab := (or_f q44aaaa).2
 have q44aaaaaa := (or_f q44aaaaa).1
 have q44aaaaab := (or_f q44aaaaa).2
 have q44aaaaaaa := (or_f q44aaaaaa).1
 have q44aaaaaab := (or_f q44aaaaaa).2
 have q44aaaaaaaa := (or_f q44aaaaaaa).1
 have q44aaaaaaab := (or_f q44aaaaaaa).2
 have q44aaaaaaaaa := (or_f q44aaaaaaaa).1
 have q44aaaaaaaab := (or_f q44aaaaaaaa).2
 have q44aaaaaaaaaa := (or_f q44aaaaaaaaa).1
 have q44aaaaaaaaab := (or_f q44aaaaaaaaa).2
 have q44aaaaaaaaaaa := (or_f q44aaaaaaaaaa).1
 have q44aaaaaaaaaab := (or_f q44aaaaaaaaaa).2
 have q44aaaaaaaaaaap := eq_of_bnei q44aaaaaaaaaaa
 have q44aaaaaaaaaabp := eq_of_bnei q44aaaaaaaaaab
 have q44aaaaaaaaabp := eq_of_bnei q44aaaaaaaaab
 have q44aaaaaaaabp := eq_of_bnei q44aaaaaaaab
 have q44aaaaaaabp := eq_of_bnei q44aaaaaaab
 have q44aaaaaabp := eq_of_bnei q44aaaaaab
 have q44aaaaabp := eq_of_bnei q44aaaaab
 have q44aaaabp := eq_of_bnei q44aaaab
 have q44aaabp := eq_of_bnei q44aaab
 have q44aabp := eq_of_bnei q44aab
 have q44abp := eq_of_bnei q44ab
 have q44bp := eq_of_bnei q44b
 refine skn <| sq <| sg <| Pl 1 <| L0 <| Olb r20 16 <| Pl 1 <| L0 <| Olb B18 16 <| Pl 2 <| cu 6 [101] 107 (((A.mei != B.mei) || (A.kind != B.kind))) (fun K K46 => ?_) ?_
 refine bl 101 ((A.mei != B.mei)) (fun q45 => ?_) (fun q45 => ?_)
 have q45p := ne_of_bnei q45
 exact Pl 6 <| ce K46 true (by rw [q45]; rfl)
 have q45p := eq_of_bnei q45
 exact Pl 1 <| L1 <| Olb r20 17 <| Pl 1 <| L1 <| Olb B18 17 <| Pl 2 <| ce K46 (A.kind != B.kind) (by rw [q45]; rfl)
 refine Pl 1 <| cu 6 [108] 114 ((((A.mei != B.mei) || (A.kind != B.kind)) || (A.level != B.level))) (fun K K48 => ?_) ?_
 refine bl 108 (((A.mei != B.mei) || (A.kind != B.kind))) (fun q47 => ?_) (fun q47 => ?_)
 exact Pl 6 <| ce K48 true (by rw [q47]; rfl)
 have q47a := (or_f q47).1
 have q47b := (or_f q47).2
 have q47ap := eq_of_bnei q47a
 have q47bp := eq_of_bnei q47b
 exact Pl 1 <| L1 <| Olb r20 18 <| Pl 1 <| L1 <| Olb B18 18 <| Pl 2 <| ce K48 (A.level != B.level) (by rw [q47]; rfl)
 refine Pl 1 <| cu 6 [115] 121 (((((A.mei != B.mei) || (A.kind != B.kind)) || (A.level != B.level)) || (A.more != B.more))) (fun K K50 => ?_) ?_
 refine bl 115 ((((A.mei != B.mei) || (A.kind != B.kind)) || (A.level != B.level))) (fun q49 => ?_) (fun q49 => ?_)
 exact Pl 6 <| ce K50 true (by rw [q49]; rfl)
 have q49a := (or_f q49).1
 have q49b := (or_f q49).2
 have q49aa := (or_f q49a).1
 have q49ab := (or_f q49a).2
 have q49aap := eq_of_bnei q49aa
 have q49abp := eq_of_bnei q49ab
 have q49bp := eq_of_bnei q49b
 exact Pl 1 <| L1 <| Olb r20 19 <| Pl 1 <| L1 <| Olb B18 19 <| Pl 2 <| ce K50 (A.more != B.more) (by rw [q49]; rfl)
 refine Pl 1 <| cu 6 [122] 128 ((((((A.mei != B.mei) || (A.kind != B.kind)) || (A.level != B.level)) || (A.more != B.more)) || (A.next != B.next))) (fun K K52 => ?_) ?_
 refine bl 122 (((((A.mei != B.mei) || (A.kind != B.kind)) || (A.level != B.level)) || (A.more != B.more))) (fun q51 => ?_) (fun q51 => ?_)
 exact Pl 6 <| ce K52 true (by rw [q51]; rfl)
 have q51a := (or_f q51).1
 have q51b := (or_f q51).2
 have q51aa := (or_f q51a).1
 have q51ab := (or_f q51a).2
 have q51aaa := (or_f q51aa).1
 have q51aab := (or_f q51aa).2
 have q51aaap := eq_of_bnei q51aaa
 have q51aabp := eq_of_bnei q51aab
 have q51abp := eq_of_bnei q51ab
 have q51bp := eq_of_bnei q51b
 exact Pl 1 <| L1 <| Olb r20 20 <| Pl 1 <| L1 <| Olb B18 20 <| Pl 2 <| ce K52 (A.next != B.next) (by rw [q51]; rfl)
 refine nt <| cb ((((((A.mei != B.mei) || (A.kind != B.kind)) || (A.level != B.level)) || (A.more != B.more)) || (A.next != B.next))) (fun q53 => ?_) (fun q53 => ?_)
 refine sg <| Pl 1 <| nt <| rt <| tr <| rr (.bool false) <| ?_
 have hs : decide (A = B) = false := ne_by (f := fun x y => (((((x.mei != y.mei) || (x.kind != y.kind)) || (x.level != y.level)) || (x.more != y.more)) || (x.next != y.next))) q53 (fun M => by simp)
 rw [hs]
 exact ⟨rfl, U43⟩
 have q53a := (or_f q53).1
 have q53b := (or_f q53).2
 have q53aa := (or_f q53a).1
 have q53ab := (or_f q53a).2
 have q53aaa := (or_f q53aa).1
 have q53aab := (or_f q53aa).2
 have q53aaaa := (or_f q53aaa).1
 have q53aaab := (or_f q53aaa).2
 have q53aaaap := eq_of_bnei q53aaaa
 have q53aaabp := eq_of_bnei q53aaab
 have q53aabp := eq_of_bnei q53aab
 have q53abp := eq_of_bnei q53ab
 have q53bp := eq_of_bnei q53b
 refine skn <| sg <| Pl 1 <| L0 <| Olb r20 12 <| Pl 1 <| L0 <| Olb B18 12 <| ?_
 have r56 := RdW.old phw U43
 have r57 := RdW.old qhw U43
 refine L0 <| Oc <| m1 (refWords_any r56 r57) fun w54 hu55 => Pl 1 <| ng <| Pl 1 <| ?_
 have r58 := ub hu55 r20
 refine L0 <| Olb r58 13 <| Pl 1 <| ?_
 have r59 := ub hu55 B18
 refine L0 <| Olb r59 13 <| ?_
 have U62 := ut0 U43 hu55
 have r63 := RdL.old phb U62
 have r64 := RdL.old qhb U62
 refine L0 <| Oc <| m1 (refBools_any r63 r64) fun w60 hu61 => Pl 1 <| ng <| Pl 1 <| ?_
 have r65 := ub hu61 r58
 refine L0 <| Olb r65 14 <| Pl 1 <| ?_
 have r66 := ub hu61 r59
 refine L0 <| Olb r66 14 <| ?_
 have U69 := ut0 U62 hu61
 have r70 := RdB.old phd U69
 have r71 := RdB.old qhd U69
 refine L0 <| Oc <| m1 (same1_any r70 r71) fun w67 hu68 => Pl 1 <| nt <| sq <| sg <| Pl 3 <| cu 3 [146] 149 (((!(decide (A.words = B.words))) || (!(decide (A.bits = B.bits))))) (fun K K73 => ?_) ?_
 refine bl 146 ((!(decide (A.words = B.words)))) (fun q72 => ?_) (fun q72 => ?_)
 have q72n : (decide (A.words = B.words)) = false := by simpa using q72
 have q72np := of_decide_eq_false q72n
 exact Pl 3 <| ce K73 true (by rw [q72]; rfl)
 have q72n : (decide (A.words = B.words)) = true := by simpa using q72
 have q72np := of_decide_eq_true q72n
 exact Pl 3 <| ce K73 (!(decide (A.bits = B.bits))) (by rw [q72]; rfl)
 refine Pl 1 <| cu 3 [150] 153 ((((!(decide (A.words = B.words))) || (!(decide (A.bits = B.bits)))) || (!(decide (A.data = B.data))))) (fun K K75 => ?_) ?_
 refine bl 150 (((!(decide (A.words = B.words))) || (!(decide (A.bits = B.bits))))) (fun q74 => ?_) (fun q74 => ?_)
 exact Pl 3 <| ce K75 true (by rw [q74]; rfl)
 have q74a := (or_f q74).1
 have q74b := (or_f q74).2
 have q74an : (decide (A.words = B.words)) = true := by simpa using q74a
 have q74anp := of_decide_eq_true q74an
 have q74bn : (decide (A.bits = B.bits)) = true := by simpa using q74b
 have q74bnp := of_decide_eq_true q74bn
 exact Pl 3 <| ce K75 (!(decide (A.data = B.data))) (by rw [q74]; rfl)
 refine Pl 1 <| cu 8 [154] 162 (((((!(decide (A.words = B.words))) || (!(decide (A.bits = B.bits)))) || (!(decide (A.data = B.data)))) || (((A.recs.length : Nat) : Int) != ((B.recs.length : Nat) : Int)))) (fun K K77 => ?_) ?_
 refine bl 154 ((((!(decide (A.words = B.words))) || (!(decide (A.bits = B.bits)))) || (!(decide (A.data = B.data))))) (fun q76 => ?_) (fun q76 => ?_)
 exact Pl 8 <| ce K77 true (by rw [q76]; rfl)
 have q76a := (or_f q76).1
 have q76b := (or_f q76).2
 have q76aa := (or_f q76a).1
 have q76ab := (or_f q76a).2
 have q76aan : (decide (A.words = B.words)) = true := by simpa using q76aa
 have q76aanp := of_decide_eq_true q76aan
 have q76abn : (decide (A.bits = B.bits)) = true := by simpa using q76ab
 have q76abnp := of_decide_eq_true q76abn
 have q76bn : (decide (A.data = B.data)) = true := by simpa using q76b
 have q76bnp := of_decide_eq_true q76bn
 refine Pl 1 <| ?_
 have r78 := ub hu68 r65
 refine L1 <| Olb r78 15 <| Pl 2 <| ?_
 have r79 := ub hu68 r66
 exact L1 <| Olb r79 15 <| Pl 3 <| ce K77 (((A.recs.length : Nat) : Int) != ((B.recs.length : Nat) : Int)) (by rw [q76]; rfl)
 refine Pl 1 <| cu 8 [163] 171 ((((((!(decide (A.words = B.words))) || (!(decide (A.bits = B.bits)))) || (!(decide (A.data = B.data)))) || (((A.recs.length : Nat) : Int) != ((B.recs.length : Nat) : Int))) || (((A.objects.length : Nat) : Int) != ((B.objects.length : Nat) : Int)))) (fun K K81 => ?_) ?_
 refine bl 163 (((((!(decide (A.words = B.words))) || (!(decide (A.bits = B.bits)))) || (!(decide (A.data = B.data)))) || (((A.recs.length : Nat) : Int) != ((B.recs.length : Nat) : Int)))) (fun q80 => ?_) (fun q80 => ?_)
 exact Pl 8 <| ce K81 true (by rw [q80]; rfl)
 have q80a := (or_f q80).1
 have q80b := (or_f q80).2
 have q80aa := (or_f q80a).1
 have q80ab := (or_f q80a).2
 have q80aaa := (or_f q80aa).1
 have q80aab := (or_f q80aa).2
 have q80aaan : (decide (A.words = B.words)) = true := by simpa using q80aaa
 have q80aaanp := of_decide_eq_true q80aaan
 have q80aabn : (decide (A.bits = B.bits)) = true := by simpa using q80aab
 have q80aabnp := of_decide_eq_true q80aabn
 have q80abn : (decide (A.data = B.data)) = true := by simpa using q80ab
 have q80abnp := of_decide_eq_true q80abn
 have q80bp := eq_of_bnei q80b
 refine Pl 1 <| ?_
 have r82 := ub hu68 r65
 refine L1 <| Olb r82 21 <| Pl 2 <| ?_
 have r83 := ub hu68 r66
 exact L1 <| Olb r83 21 <| Pl 3 <| ce K81 (((A.objects.length : Nat) : Int) != ((B.objects.length : Nat) : Int)) (by rw [q80]; rfl)
 refine nt <| ?_
 have U84 := ut0 U69 hu68
 refine cb ((((((!(decide (A.words = B.words))) || (!(decide (A.bits = B.bits)))) || (!(decide (A.data = B.data)))) || (((A.recs.length : Nat) : Int) != ((B.recs.length : Nat) : Int))) || (((A.objects.length : Nat) : Int) != ((B.objects.length : Nat) : Int)))) (fun q85 => ?_) (fun q85 => ?_)
 refine sg <| Pl 1 <| nt <| rt <| tr <| rr (.bool false) <| ?_
 have hs : decide (A = B) = false := ne_by (f := fun x y => (((((!(decide (x.words = y.words))) || (!(decide (x.bits = y.bits)))) || (!(decide (x.data = y.data)))) || (((x.recs.length : Nat) : Int) != ((y.recs.length : Nat) : Int))) || (((x.objects.length : Nat) : Int) != ((y.objects.length : Nat) : Int)))) q85 (fun M => by simp)
 rw [hs]
 exact ⟨rfl, U84⟩
 have q85a := (or_f q85).1
 have q85b := (or_f q85).2
 have q85aa := (or_f q85a).1
 have q85ab := (or_f q85a).2
 have q85aaa := (or_f q85aa).1
 have q85aab := (or_f q85aa).2
 have q85aaaa := (or_f q85aaa).1
 have q85aaab := (or_f q85aaa).2
 have q85aaaan : (decide (A.words = B.words)) = true := by simpa using q85aaaa
 have q85aaaanp := of_decide_eq_true q85aaaan
 have q85aaabn : (decide (A.bits = B.bits)) = true := by simpa using q85aaab
 have q85aaabnp := of_decide_eq_true q85aaabn
 have q85aabn : (decide (A.data = B.data)) = true := by simpa using q85aab
 have q85aabnp := of_decide_eq_true q85aabn
 have q85abp := eq_of_bnei q85ab
 have q85bp := eq_of_bnei q85b
 refine skn <| sq <| sg <| Pl 1 <| nt <| bk <| ?_
 refine glp (fun x => [(2, .pointer (some ⟨g10, 0, none⟩)), (3, .pointer (some ⟨g15, 0, none⟩)), (8, .int .i64 ((x : Nat) : Int))]) (fun (x : Nat) w' => Upd [] w67 w' ∧ (A.recs.take x = B.recs.take x) ∧ (x ≤ A.recs.length)) (fun x => A.recs.length - x) 0 ⟨Upd.refl _ _, (by (try dsimp only); simp), (by (try dsimp only); omega)⟩ ?_
 rintro j w86 ⟨hu87, p88, p89⟩
 refine wkc [(2, .pointer (some ⟨g10, 0, none⟩)), (3, .pointer (some ⟨g15, 0, none⟩)), (8, .int .i64 ((j : Nat) : Int))] ?_
 have p91 : A.recs.take j = B.recs.take j := p88
 have p92 : j ≤ A.recs.length := p89
 refine sq <| sg <| Pl 2 <| ?_
 have U93 := ut0 hu68 hu87
 have r94 := ub U93 r65
 refine L0 <| Olb r94 15 <| Pl 2 <| nt <| ?_
 have U95 := ut0 U84 hu87
 refine cb ((decide (((j : Nat) : Int) < ((A.recs.length : Nat) : Int)))) (fun q96 => ?_) (fun q96 => ?_)
 have q96p := of_decide_eq_true q96
 refine skn <| sq <| bk <| sg <| Pl 1 <| L0 <| Olb r94 15 <| Pl 1 <| x75 (RdR.elt phr j (by omega)) fun b97 o98 cl99 t100 fr101 A102 cp103 hA104 hb105 hv106 hr107 hs108 => L0 <| Oixs 4 A.recs.length j hA104 (by omega) <| ?_
 have r109 := ub U95 hb105
 refine L0 <| Oel [.int .u16 ((A.recs.getD j ⟨0, 0, 0, []⟩).file), .int .u16 ((A.recs.getD j ⟨0, 0, 0, []⟩).record), .int .u16 ((A.recs.getD j ⟨0, 0, 0, []⟩).count), .slice A102 ((A.recs.getD j ⟨0, 0, 0, []⟩).words.length) cp103] r109 hs108 <| L0 <| Oal #[.int .u16 0, .int .u16 0, .int .u16 0, .slice none 0 0] fun g110 w111 hg112 B113 hu114 => L0 <| Osw B113 #[.int .u16 ((A.recs.getD j ⟨0, 0, 0, []⟩).file), .int .u16 ((A.recs.getD j ⟨0, 0, 0, []⟩).record), .int .u16 ((A.recs.getD j ⟨0, 0, 0, []⟩).count), .slice A102 ((A.recs.getD j ⟨0, 0, 0, []⟩).words.length) cp103] fun w115 B116 hu117 => ng <| Pl 1 <| ?_
 have U118 := ut0 U93 hu114
 have U119 := u1 U118 hu117 (ni U93.size hg112)
 have r120 := ub U119 r66
 refine L0 <| Olb r120 15 <| Pl 1 <| x75 (RdR.elt qhr j (by omega)) fun b121 o122 cl123 t124 fr125 A126 cp127 hA128 hb129 hv130 hr131 hs132 => L0 <| Oixs 4 B.recs.length j hA128 (by omega) <| ?_
 have U133 := ut0 U95 hu114
 have U134 := u1 U133 hu117 (ni U95.size hg112)
 have r135 := ub U134 hb129
 refine L0 <| Oel [.int .u16 ((B.recs.getD j ⟨0, 0, 0, []⟩).file), .int .u16 ((B.recs.getD j ⟨0, 0, 0, []⟩).record), .int .u16 ((B.recs.getD j ⟨0, 0, 0, []⟩).count), .slice A126 ((B.recs.getD j ⟨0, 0, 0, []⟩).words.length) cp127] r135 hs132 <| L0 <| Oal #[.int .u16 0, .int .u16 0, .int .u16 0, .slice none 0 0] fun g136 w137 hg138 B139 hu140 => L0 <| Osw B139 #[.int .u16 ((B.recs.getD j ⟨0, 0, 0, []⟩).file), .int .u16 ((B.recs.getD j ⟨0, 0, 0, []⟩).record), .int .u16 ((B.recs.getD j ⟨0, 0, 0, []⟩).count), .slice A126 ((B.recs.getD j ⟨0, 0, 0, []⟩).words.length) cp127] fun w141 B142 hu143 => ng <| Pl 1 <| ?_
 have U144 := u1 hu140 hu143 (nr hg138)
 have r145 := ub U144 B116
 refine L0 <| Olb r145 3 <| Pl 1 <| L0 <| Olb B142 3 <| ?_
 have U148 := ut0 U134 hu140
 have U149 := u1 U148 hu143 (ni U134.size hg138)
 have r150 := RdW.old hv106 U149
 have r151 := RdW.old hv130 U149
 refine L0 <| Oc <| m1 (refWords_any r150 r151) fun w146 hu147 => Pl 1 <| ng <| Pl 3 <| cu 6 [196] 202 (((!(decide ((A.recs.getD j ⟨0, 0, 0, []⟩).words = (B.recs.getD j ⟨0, 0, 0, []⟩).words))) || (((A.recs.getD j ⟨0, 0, 0, []⟩).file) != ((B.recs.getD j ⟨0, 0, 0, []⟩).file)))) (fun K K153 => ?_) ?_
 refine bl 196 ((!(decide ((A.recs.getD j ⟨0, 0, 0, []⟩).words = (B.recs.getD j ⟨0, 0, 0, []⟩).words)))) (fun q152 => ?_) (fun q152 => ?_)
 have q152n : (decide ((A.recs.getD j ⟨0, 0, 0, []⟩).words = (B.recs.getD j ⟨0, 0, 0, []⟩).words)) = false := by simpa using q152
 have q152np := of_decide_eq_false q152n
 exact Pl 6 <| ce K153 true (by rw [q152]; rfl)
 have q152n : (decide ((A.recs.getD j ⟨0, 0, 0, []⟩).words = (B.recs.getD j ⟨0, 0, 0, []⟩).words)) = true := by simpa using q152
 have q152np := of_decide_eq_true q152n
 refine Pl 1 <| ?_
 have r154 := ub hu147 r145
 refine L1 <| Olb r154 0 <| Pl 1 <| ?_
 have r155 := ub hu147 B142
 exact L1 <| Olb r155 0 <| Pl 2 <| ce K153 (((A.recs.getD j ⟨0, 0, 0, []⟩).file) != ((B.recs.getD j ⟨0, 0, 0, []⟩).file)) (by rw [q152]; rfl)
 refine Pl 1 <| cu 6 [203] 209 ((((!(decide ((A.recs.getD j ⟨0, 0, 0, []⟩).words = (B.recs.getD j ⟨0, 0, 0, []⟩).words))) || (((A.recs.getD j ⟨0, 0, 0, []⟩).file) != ((B.recs.getD j ⟨0, 0, 0, []⟩).file))) || (((A.recs.getD j ⟨0, 0, 0, []⟩).record) != ((B.recs.getD j ⟨0, 0, 0, []⟩).record)))) (fun K K157 => ?_) ?_
 refine bl 203 (((!(decide ((A.recs.getD j ⟨0, 0, 0, []⟩).words = (B.recs.getD j ⟨0, 0, 0, []⟩).words))) || (((A.recs.getD j ⟨0, 0, 0, []⟩).file) != ((B.recs.getD j ⟨0, 0, 0, []⟩).file)))) (fun q156 => ?_) (fun q156 => ?_)
 exact Pl 6 <| ce K157 true (by rw [q156]; rfl)
 have q156a := (or_f q156).1
 have q156b := (or_f q156).2
 have q156an : (decide ((A.recs.getD j ⟨0, 0, 0, []⟩).words = (B.recs.getD j ⟨0, 0, 0, []⟩).words)) = true := by simpa using q156a
 have q156anp := of_decide_eq_true q156an
 have q156bp := eq_of_bnei q156b
 refine Pl 1 <| ?_
 have r158 := ub hu147 r145
 refine L1 <| Olb r158 1 <| Pl 1 <| ?_
 have r159 := ub hu147 B142
 exact L1 <| Olb r159 1 <| Pl 2 <| ce K157 (((A.recs.getD j ⟨0, 0, 0, []⟩).record) != ((B.recs.getD j ⟨0, 0, 0, []⟩).record)) (by rw [q156]; rfl)
 refine Pl 1 <| cu 6 [210] 216 (((((!(decide ((A.recs.getD j ⟨0, 0, 0, []⟩).words = (B.recs.getD j ⟨0, 0, 0, []⟩).words))) || (((A.recs.getD j ⟨0, 0, 0, []⟩).file) != ((B.recs.getD j ⟨0, 0, 0, []⟩).file))) || (((A.recs.getD j ⟨0, 0, 0, []⟩).record) != ((B.recs.getD j ⟨0, 0, 0, []⟩).record))) || (((A.recs.getD j ⟨0, 0, 0, []⟩).count) != ((B.recs.getD j ⟨0, 0, 0, []⟩).count)))) (fun K K161 => ?_) ?_
 refine bl 210 ((((!(decide ((A.recs.getD j ⟨0, 0, 0, []⟩).words = (B.recs.getD j ⟨0, 0, 0, []⟩).words))) || (((A.recs.getD j ⟨0, 0, 0, []⟩).file) != ((B.recs.getD j ⟨0, 0, 0, []⟩).file))) || (((A.recs.getD j ⟨0, 0, 0, []⟩).record) != ((B.recs.getD j ⟨0, 0, 0, []⟩).record)))) (fun q160 => ?_) (fun q160 => ?_)
 exact Pl 6 <| ce K161 true (by rw [q160]; rfl)
 have q160a := (or_f q160).1
 have q160b := (or_f q160).2
 have q160aa := (or_f q160a).1
 have q160ab := (or_f q160a).2
 have q160aan : (decide ((A.recs.getD j ⟨0, 0, 0, []⟩).words = (B.recs.getD j ⟨0, 0, 0, []⟩).words)) = true := by simpa using q160aa
 have q160aanp := of_decide_eq_true q160aan
 have q160abp := eq_of_bnei q160ab
 have q160bp := eq_of_bnei q160b
 refine Pl 1 <| ?_
 have r162 := ub hu147 r145
 refine L1 <| Olb r162 2 <| Pl 1 <| ?_
 have r163 := ub hu147 B142
 exact L1 <| Olb r163 2 <| Pl 2 <| ce K161 (((A.recs.getD j ⟨0, 0, 0, []⟩).count) != ((B.recs.getD j ⟨0, 0, 0, []⟩).count)) (by rw [q160]; rfl)
 refine nt <| ?_
 have U164 := ut0 U149 hu147
 refine cb (((((!(decide ((A.recs.getD j ⟨0, 0, 0, []⟩).words = (B.recs.getD j ⟨0, 0, 0, []⟩).words))) || (((A.recs.getD j ⟨0, 0, 0, []⟩).file) != ((B.recs.getD j ⟨0, 0, 0, []⟩).file))) || (((A.recs.getD j ⟨0, 0, 0, []⟩).record) != ((B.recs.getD j ⟨0, 0, 0, []⟩).record))) || (((A.recs.getD j ⟨0, 0, 0, []⟩).count) != ((B.recs.getD j ⟨0, 0, 0, []⟩).count)))) (fun q165 => ?_) (fun q165 => ?_)
 refine sg <| Pl 1 <| nt <| rt <| br <| tr <| tr <| br <| tr <| rr (.bool false) <| ?_
 have hs : decide (A = B) = false := ne_by (f := fun x y => ((((!(decide ((x.recs.getD j ⟨0, 0, 0, []⟩).words = (y.recs.getD j ⟨0, 0, 0, []⟩).words))) || (((x.recs.getD j ⟨0, 0, 0, []⟩).file) != ((y.recs.getD j ⟨0, 0, 0, []⟩).file))) || (((x.recs.getD j ⟨0, 0, 0, []⟩).record) != ((y.recs.getD j ⟨0, 0, 0, []⟩).record))) || (((x.recs.getD j ⟨0, 0, 0, []⟩).count) != ((y.recs.getD j ⟨0, 0, 0, []⟩).count)))) q165 (fun M => by simp)
 rw [hs]
 exact ⟨rfl, U164⟩
 have q165a := (or_f q165).1
 have q165b := (or_f q165).2
 have q165aa := (or_f q165a).1
 have q165ab := (or_f q165a).2
 have q165aaa := (or_f q165aa).1
 have q165aab := (or_f q165aa).2
 have q165aaan : (decide ((A.recs.getD j ⟨0, 0, 0, []⟩).words = (B.recs.getD j ⟨0, 0, 0, []⟩).words)) = true := by simpa using q165aaa
 have q165aaanp := of_decide_eq_true q165aaan
 have q165aabp := eq_of_bnei q165aab
 have q165abp := eq_of_bnei q165ab
 have q165bp := eq_of_bnei q165b
 refine sk <| bn <| tn <| go <| Pl 1 <| L0 <| Oi (((j : Nat) : Int) + 1) <| Pl 1 <| nl <| ?_
 have U166 := ut0 hu87 hu114
 have U167 := u1 U166 hu117 (ni hu87.size hg112)
 have U168 := ut0 U167 hu140
 have U169 := u1 U168 hu143 (ni U167.size hg138)
 have U170 := ut0 U169 hu147
 exact lpe (j + 1) ⟨U170, (take_eq (d := ⟨0, 0, 0, []⟩) p91 (by omega) (by omega) (rec_eq q165)), (by (try dsimp only); omega)⟩ (by omega)
 have q96p := of_decide_eq_false q96
 refine xt <| tx <| tx <| bx <| tn <| sq <| sg <| Pl 1 <| nt <| bk <| ?_
 refine glp (fun x => [(2, .pointer (some ⟨g10, 0, none⟩)), (3, .pointer (some ⟨g15, 0, none⟩)), (12, .int .i64 ((x : Nat) : Int))]) (fun (x : Nat) w' => Upd [] w86 w' ∧ (A.objects.take x = B.objects.take x) ∧ (x ≤ A.objects.length)) (fun x => A.objects.length - x) 0 ⟨Upd.refl _ _, (by (try dsimp only); simp), (by (try dsimp only); omega)⟩ ?_
 rintro k w171 ⟨hu172, p173, p174⟩
 refine wkc [(2, .pointer (some ⟨g10, 0, none⟩)), (3, .pointer (some ⟨g15, 0, none⟩)), (12, .int .i64 ((k : Nat) : Int))] ?_
 have p176 : A.objects.take k = B.objects.take k := p173
 have p177 : k ≤ A.objects.length := p174
 refine sq <| sg <| Pl 2 <| ?_
 have r178 := ub hu172 r94
 refine L0 <| Olb r178 21 <| Pl 2 <| nt <| ?_
 have U179 := ut0 U95 hu172
 refine cb ((decide (((k : Nat) : Int) < ((A.objects.length : Nat) : Int)))) (fun q180 => ?_) (fun q180 => ?_)
 have q180p := of_decide_eq_true q180
 refine skn <| sq <| bk <| sq <| x75 (RdO.elt pho k (by omega)) fun b209 o210 cl211 t212 fr213 A214 cp215 hA216 hb217 hv218 hr219 hs220 => x75 (RdO.elt qho k (by omega)) fun b221 o222 cl223 t224 fr225 A226 cp227 hA228 hb229 hv230 hr231 hs232 => Rg 14 (fun w' => w'.cell? ⟨g10, 21, none⟩ = some (.slice po A.objects.length pko) ∧ w'.cell? ⟨b209, o210 + k * 2 + 1, none⟩ = some (.slice A214 ((A.objects.getD k ⟨0, []⟩).value.length) cp215) ∧ w'.cell? ⟨g15, 21, none⟩ = some (.slice qo B.objects.length qko) ∧ w'.cell? ⟨b221, o222 + k * 2 + 1, none⟩ = some (.slice A226 ((B.objects.getD k ⟨0, []⟩).value.length) cp227)) fun w237 hu238 => ?_
 have r240 := ub hu238 r178
 have U241 := ut0 U179 hu238
 have r242 := ub U241 hb217
 have U243 := ut0 U93 hu172
 have U244 := ut0 U243 hu238
 have r245 := ub U244 r66
 have r246 := ub U241 hb229
 refine hld ⟨(blk_at r240 rfl), (el_at r242 hs220 1 rfl (by decide)), (blk_at r245 rfl), (el_at r246 hs232 1 rfl (by decide))⟩ fun hS239 => Rt 0 hS239 <| Rl 1 hS239 (fun _ hs => hs.1) <| Rt 2 hS239 <| Ri 3 hS239 2 A.objects.length k ((k : Nat) : Int) rfl hA216 (by omega) <| Rt 4 hS239 <| Rl 5 hS239 (fun _ hs => hs.2.1) <| Rt 6 hS239 <| Rl 7 hS239 (fun _ hs => hs.2.2.1) <| Rt 8 hS239 <| Ri 9 hS239 2 B.objects.length k ((k : Nat) : Int) rfl hA228 (by omega) <| Rt 10 hS239 <| Rl 11 hS239 (fun _ hs => hs.2.2.2) <| ?_
 have r249 := RdB.old hv218 U241
 have r250 := RdB.old hv230 U241
 refine R0 12 rfl <| Oc <| m1 (same1_any r249 r250) fun w247 hu248 => ?_
 have r252 := ub hu248 r240
 have r253 := ub hu248 r242
 have r254 := ub hu248 r245
 have r255 := ub hu248 r246
 refine hld ⟨(blk_at r252 rfl), (el_at r253 hs220 1 rfl (by decide)), (blk_at r254 rfl), (el_at r255 hs232 1 rfl (by decide))⟩ fun hS251 => Rt 13 hS251 <| re <| tn <| sq <| Rg 17 (fun w' => w'.cell? ⟨g10, 21, none⟩ = some (.slice po A.objects.length pko) ∧ w'.cell? ⟨b209, o210 + k * 2 + 0, none⟩ = some (.int .u8 ((A.objects.getD k ⟨0, []⟩).id)) ∧ w'.cell? ⟨g15, 21, none⟩ = some (.slice qo B.objects.length qko) ∧ w'.cell? ⟨b221, o222 + k * 2 + 0, none⟩ = some (.int .u8 ((B.objects.getD k ⟨0, []⟩).id))) fun w260 hu261 => ?_
 have r263 := ub hu261 r252
 have r264 := ub hu261 r253
 have r265 := ub hu261 r254
 have r266 := ub hu261 r255
 refine hld ⟨(blk_at r263 rfl), (el_at r264 hs220 0 rfl (by decide)), (blk_at r265 rfl), (el_at r266 hs232 0 rfl (by decide))⟩ fun hS262 => Rt 0 hS262 <| Rt 1 hS262 <| Rt 2 hS262 <| ?_
 have U267 := ut0 U241 hu248
 have U268 := ut0 U267 hu261
 refine bla 239 ((!(decide ((A.objects.getD k ⟨0, []⟩).value = (B.objects.getD k ⟨0, []⟩).value)))) (fun q269 => ?_) (fun q269 => ?_)
 have q269n : (decide ((A.objects.getD k ⟨0, []⟩).value = (B.objects.getD k ⟨0, []⟩).value)) = false := by simpa using q269
 have q269np := of_decide_eq_false q269n
 refine Ro 3 hS262 <| Ro 4 hS262 <| Ro 5 hS262 <| Ro 6 hS262 <| Ro 7 hS262 <| Ro 8 hS262 <| Ro 9 hS262 <| Ro 10 hS262 <| Ro 11 hS262 <| Ro 12 hS262 <| Ro 13 hS262 <| Ro 14 hS262 <| Ro 15 hS262 <| Rt 16 hS262 <| ?_
 refine re <| tn <| c1 <| sg <| Pl 1 <| nt <| rt <| br <| tr <| tr <| br <| tr <| ?_
 refine rr (.bool false) <| ?_
 have hs : decide (A = B) = false := ne_by (f := fun x y => (!(decide ((x.objects.getD k ⟨0, []⟩).value = (y.objects.getD k ⟨0, []⟩).value)))) q269 (fun M => by simp)
 rw [hs]
 exact ⟨rfl, U268⟩
 have q269n : (decide ((A.objects.getD k ⟨0, []⟩).value = (B.objects.getD k ⟨0, []⟩).value)) = true := by simpa using q269
 have q269np := of_decide_eq_true q269n
 refine Rt 3 hS262 <| Rl 4 hS262 (fun _ hs => hs.1) <| Rt 5 hS262 <| Ri 6 hS262 2 A.objects.length k ((k : Nat) : Int) rfl hA216 (by omega) <| Rt 7 hS262 <| Rl 8 hS262 (fun _ hs => hs.2.1) <| Rt 9 hS262 <| Rl 10 hS262 (fun _ hs => hs.2.2.1) <| Rt 11 hS262 <| Ri 12 hS262 2 B.objects.length k ((k : Nat) : Int) rfl hA228 (by omega) <| Rt 13 hS262 <| Rl 14 hS262 (fun _ hs => hs.2.2.2) <| Rt 15 hS262 <| Rt 16 hS262 <| ?_
 refine re <| tn <| cb ((((A.objects.getD k ⟨0, []⟩).id) != ((B.objects.getD k ⟨0, []⟩).id))) (fun q270 => ?_) (fun q270 => ?_)
 have q270p := ne_of_bnei q270
 refine sg <| Pl 1 <| nt <| rt <| br <| tr <| tr <| br <| tr <| rr (.bool false) <| ?_
 have hs : decide (A = B) = false := ne_by (f := fun x y => (((x.objects.getD k ⟨0, []⟩).id) != ((y.objects.getD k ⟨0, []⟩).id))) q270 (fun M => by simp)
 rw [hs]
 exact ⟨rfl, U268⟩
 have q270p := eq_of_bnei q270
 refine sk <| bn <| tn <| go <| Pl 1 <| L0 <| Oi (((k : Nat) : Int) + 1) <| Pl 1 <| nl <| ?_
 have U271 := ut0 hu172 hu238
 have U272 := ut0 U271 hu248
 have U273 := ut0 U272 hu261
 exact lpe (k + 1) ⟨U273, (take_eq (d := ⟨0, []⟩) p176 (by omega) (by omega) (obj_eq2 q269 q270)), (by (try dsimp only); omega)⟩ (by omega)
 have q180p := of_decide_eq_false q180
 refine xt <| tx <| tx <| bx <| tn <| sg <| Pl 1 <| nt <| rt <| rr (.bool true) <| ?_
 have hs : decide (A = B) = true := decide_eq_true (same7_t q44 q53 q85 (fun e => eq_of_take p91 (by omega) e) (fun e => eq_of_take p176 (by omega) e))
 rw [hs]
 exact ⟨rfl, U179⟩
open Go.RowKit
def cfam (x : Int) : Nat := if x = 1 ∨ x = 2 ∨ x = 5 ∨ x = 15 then 1 else if x = 3 ∨ x = 4 ∨ x = 6 ∨ x = 16 ∨ x = 22 ∨ x = 23 ∨ x = 24 then 2 else if x = 7 ∨ x = 8 ∨ x = 11 ∨ x = 12 ∨ x = 17 then 3 else if x = 20 ∨ x = 21 then 4 else if x = 43 then 5 else 0
def codecV : Nat → Value
  | 1 => .tuple #[.agg #[.func (.func 37) #[] #[], .func (.func 38) #[] #[]], .bool true]
  | 2 => .tuple #[.agg #[.func (.func 39) #[] #[], .func (.func 40) #[] #[]], .bool true]
  | 3 => .tuple #[.agg #[.func (.func 41) #[] #[], .func (.func 42) #[] #[]], .bool true]
  | 4 => .tuple #[.agg #[.func (.func 43) #[] #[], .func (.func 44) #[] #[]], .bool true]
  | 5 => .tuple #[.agg #[.func (.func 45) #[] #[], .func (.func 46) #[] #[]], .bool true]
  | _ => .tuple #[.agg #[.nilFunc, .nilFunc], .bool false]
theorem cfam_dich (x : Int) : ((x = 1 ∨ x = 2 ∨ x = 5 ∨ x = 15) ∧ cfam x = 1) ∨ ((x = 3 ∨ x = 4 ∨ x = 6 ∨ x = 16 ∨ x = 22 ∨ x = 23 ∨ x = 24) ∧ cfam x = 2) ∨ ((x = 7 ∨ x = 8 ∨ x = 11 ∨ x = 12 ∨ x = 17) ∧ cfam x = 3) ∨ ((x = 20 ∨ x = 21) ∧ cfam x = 4) ∨ ((x = 43) ∧ cfam x = 5) ∨ ((¬ x = 1 ∧ ¬ x = 2 ∧ ¬ x = 5 ∧ ¬ x = 15 ∧ ¬ x = 3 ∧ ¬ x = 4 ∧ ¬ x = 6 ∧ ¬ x = 16 ∧ ¬ x = 22 ∧ ¬ x = 23 ∧ ¬ x = 24 ∧ ¬ x = 7 ∧ ¬ x = 8 ∧ ¬ x = 11 ∧ ¬ x = 12 ∧ ¬ x = 17 ∧ ¬ x = 20 ∧ ¬ x = 21 ∧ ¬ x = 43) ∧ cfam x = 0) := by
  unfold cfam
  repeat
    split
    · simp_all
  simp_all
def codecs : Array MapEntry := #[⟨.int .u8 1, .agg #[.func (.func 37) #[] #[], .func (.func 38) #[] #[]], 0⟩, ⟨.int .u8 2, .agg #[.func (.func 37) #[] #[], .func (.func 38) #[] #[]], 1⟩, ⟨.int .u8 5, .agg #[.func (.func 37) #[] #[], .func (.func 38) #[] #[]], 2⟩, ⟨.int .u8 15, .agg #[.func (.func 37) #[] #[], .func (.func 38) #[] #[]], 3⟩, ⟨.int .u8 3, .agg #[.func (.func 39) #[] #[], .func (.func 40) #[] #[]], 4⟩, ⟨.int .u8 4, .agg #[.func (.func 39) #[] #[], .func (.func 40) #[] #[]], 5⟩, ⟨.int .u8 6, .agg #[.func (.func 39) #[] #[], .func (.func 40) #[] #[]], 6⟩, ⟨.int .u8 16, .agg #[.func (.func 39) #[] #[], .func (.func 40) #[] #[]], 7⟩, ⟨.int .u8 22, .agg #[.func (.func 39) #[] #[], .func (.func 40) #[] #[]], 8⟩, ⟨.int .u8 23, .agg #[.func (.func 39) #[] #[], .func (.func 40) #[] #[]], 9⟩, ⟨.int .u8 24, .agg #[.func (.func 39) #[] #[], .func (.func 40) #[] #[]], 10⟩, ⟨.int .u8 7, .agg #[.func (.func 41) #[] #[], .func (.func 42) #[] #[]], 11⟩, ⟨.int .u8 8, .agg #[.func (.func 41) #[] #[], .func (.func 42) #[] #[]], 12⟩, ⟨.int .u8 11, .agg #[.func (.func 41) #[] #[], .func (.func 42) #[] #[]], 13⟩, ⟨.int .u8 12, .agg #[.func (.func 41) #[] #[], .func (.func 42) #[] #[]], 14⟩, ⟨.int .u8 17, .agg #[.func (.func 41) #[] #[], .func (.func 42) #[] #[]], 15⟩, ⟨.int .u8 20, .agg #[.func (.func 43) #[] #[], .func (.func 44) #[] #[]], 16⟩, ⟨.int .u8 21, .agg #[.func (.func 43) #[] #[], .func (.func 44) #[] #[]], 17⟩, ⟨.int .u8 43, .agg #[.func (.func 45) #[] #[], .func (.func 46) #[] #[]], 18⟩]
set_option maxRecDepth 100000 in
set_option maxHeartbeats 4000000 in
theorem of_any {x : Int} {w : World} : Calls Try.prog 24 #[.int .u8 x] w (PVal (codecV (cfam x)) w) := by
 refine en 44 Try.func24 rfl <| sg <| L0 <| Oal #[.nilFunc, .nilFunc] fun g10 w11 hg12 B13 hu14 => Pl 1 <| ng <| Pl 2 <| L0 <| Oal #[.nilFunc, .nilFunc] fun g15 w16 hg17 B18 hu19 => L0 <| Oal #[.nilFunc, .nilFunc] fun g20 w21 hg22 B23 hu24 => ?_
 have r25 := ub hu24 B18
 refine L0 <| Osw r25 #[.func (.func 37) #[] #[], .func (.func 38) #[] #[]] fun w26 B27 hu28 => ?_
 have ne29 := nb (blk_lt B18) lr hg22
 have r30 := ub1 hu28 (Ne.symm ne29) B23
 refine L0 <| Osw r30 #[.func (.func 39) #[] #[], .func (.func 40) #[] #[]] fun w31 B32 hu33 => ng <| Pl 2 <| L0 <| Oal #[.nilFunc, .nilFunc] fun g34 w35 hg36 B37 hu38 => L0 <| Oal #[.nilFunc, .nilFunc] fun g39 w40 hg41 B42 hu43 => ?_
 have r44 := ub hu43 B37
 refine L0 <| Osw r44 #[.func (.func 41) #[] #[], .func (.func 42) #[] #[]] fun w45 B46 hu47 => ?_
 have ne48 := nb (blk_lt B37) lr hg41
 have r49 := ub1 hu47 (Ne.symm ne48) B42
 refine L0 <| Osw r49 #[.func (.func 43) #[] #[], .func (.func 44) #[] #[]] fun w50 B51 hu52 => ng <| L0 <| Omk fun g53 w54 hg55 B56 hu57 => ?_
 have U58 := ut0 hu33 hu38
 have U59 := ut0 U58 hu43
 have U60 := u1 U59 hu47 (ni hu33.size hg36)
 have U61 := u1 U60 hu52 (ni U58.size hg41)
 have U62 := ut0 U61 hu57
 have r63 := ub1 U62 ne29 B27
 refine L0 <| Olw r63 <| L0 <| Oin B56 1 fun w64 B65 hu66 => ?_
 have ne67 := nb (blk_lt B18) (le (le (le (le (le (le hu24.size hu28.size) hu33.size) hu38.size) hu43.size) hu47.size) hu52.size) hg55
 have r68 := ub1 hu66 ne67 r63
 refine L0 <| Olw r68 <| L0 <| Oin B65 2 fun w69 B70 hu71 => ?_
 have r72 := ub1 hu71 ne67 r68
 refine L0 <| Olw r72 <| L0 <| Oin B70 5 fun w73 B74 hu75 => ?_
 have r76 := ub1 hu75 ne67 r72
 refine L0 <| Olw r76 <| L0 <| Oin B74 15 fun w77 B78 hu79 => ?_
 have U80 := ut0 hu38 hu43
 have U81 := u1 U80 hu47 (nr hg36)
 have U82 := u1 U81 hu52 (ni hu38.size hg41)
 have U83 := ut0 U82 hu57
 have U84 := u1 U83 hu66 (ni U82.size hg55)
 have U85 := u1 U84 hu71 (ni U82.size hg55)
 have U86 := u1 U85 hu75 (ni U82.size hg55)
 have U87 := u1 U86 hu79 (ni U82.size hg55)
 have r88 := ub U87 B32
 refine L0 <| Olw r88 <| L0 <| Oin B78 3 fun w89 B90 hu91 => ?_
 have ne92 := nb (blk_lt B23) (le (le (le (le (le hu28.size hu33.size) hu38.size) hu43.size) hu47.size) hu52.size) hg55
 have r93 := ub1 hu91 ne92 r88
 refine L0 <| Olw r93 <| L0 <| Oin B90 4 fun w94 B95 hu96 => ?_
 have r97 := ub1 hu96 ne92 r93
 refine L0 <| Olw r97 <| L0 <| Oin B95 6 fun w98 B99 hu100 => ?_
 have r101 := ub1 hu100 ne92 r97
 refine L0 <| Olw r101 <| L0 <| Oin B99 16 fun w102 B103 hu104 => ?_
 have r105 := ub1 hu104 ne92 r101
 refine L0 <| Olw r105 <| L0 <| Oin B103 22 fun w106 B107 hu108 => ?_
 have r109 := ub1 hu108 ne92 r105
 refine L0 <| Olw r109 <| L0 <| Oin B107 23 fun w110 B111 hu112 => ?_
 have r113 := ub1 hu112 ne92 r109
 refine L0 <| Olw r113 <| L0 <| Oin B111 24 fun w114 B115 hu116 => ?_
 have U117 := ut0 hu52 hu57
 have U118 := u1 U117 hu66 (ni hu52.size hg55)
 have U119 := u1 U118 hu71 (ni hu52.size hg55)
 have U120 := u1 U119 hu75 (ni hu52.size hg55)
 have U121 := u1 U120 hu79 (ni hu52.size hg55)
 have U122 := u1 U121 hu91 (ni hu52.size hg55)
 have U123 := u1 U122 hu96 (ni hu52.size hg55)
 have U124 := u1 U123 hu100 (ni hu52.size hg55)
 have U125 := u1 U124 hu104 (ni hu52.size hg55)
 have U126 := u1 U125 hu108 (ni hu52.size hg55)
 have U127 := u1 U126 hu112 (ni hu52.size hg55)
 have U128 := u1 U127 hu116 (ni hu52.size hg55)
 have r129 := ub1 U128 ne48 B46
 refine L0 <| Olw r129 <| L0 <| Oin B115 7 fun w130 B131 hu132 => ?_
 have ne133 := nb (blk_lt B37) (le (le hu43.size hu47.size) hu52.size) hg55
 have r134 := ub1 hu132 ne133 r129
 refine L0 <| Olw r134 <| L0 <| Oin B131 8 fun w135 B136 hu137 => ?_
 have r138 := ub1 hu137 ne133 r134
 refine L0 <| Olw r138 <| L0 <| Oin B136 11 fun w139 B140 hu141 => ?_
 have r142 := ub1 hu141 ne133 r138
 refine L0 <| Olw r142 <| L0 <| Oin B140 12 fun w143 B144 hu145 => ?_
 have r146 := ub1 hu145 ne133 r142
 refine L0 <| Olw r146 <| L0 <| Oin B144 17 fun w147 B148 hu149 => ?_
 have U150 := u1 hu57 hu66 (nr hg55)
 have U151 := u1 U150 hu71 (nr hg55)
 have U152 := u1 U151 hu75 (nr hg55)
 have U153 := u1 U152 hu79 (nr hg55)
 have U154 := u1 U153 hu91 (nr hg55)
 have U155 := u1 U154 hu96 (nr hg55)
 have U156 := u1 U155 hu100 (nr hg55)
 have U157 := u1 U156 hu104 (nr hg55)
 have U158 := u1 U157 hu108 (nr hg55)
 have U159 := u1 U158 hu112 (nr hg55)
 have U160 := u1 U159 hu116 (nr hg55)
 have U161 := u1 U160 hu132 (nr hg55)
 have U162 := u1 U161 hu137 (nr hg55)
 have U163 := u1 U162 hu141 (nr hg55)
 have U164 := u1 U163 hu145 (nr hg55)
 have U165 := u1 U164 hu149 (nr hg55)
 have r166 := ub U165 B51
 refine L0 <| Olw r166 <| L0 <| Oin B148 20 fun w167 B168 hu169 => ?_
 have ne170 := nb (blk_lt B42) (le hu47.size hu52.size) hg55
 have r171 := ub1 hu169 ne170 r166
 refine L0 <| Olw r171 <| L0 <| Oin B168 21 fun w172 B173 hu174 => Pl 1 <| L0 <| Oin B173 43 fun w175 B176 hu177 => Pl 2 <| ng <| Pl 2 <| ?_
 have U178 := ut0 hu14 hu19
 have U179 := ut0 U178 hu24
 have U180 := u1 U179 hu28 (ni hu14.size hg17)
 have U181 := u1 U180 hu33 (ni U178.size hg22)
 have U182 := ut0 U181 hu38
 have U183 := ut0 U182 hu43
 have U184 := u1 U183 hu47 (ni U181.size hg36)
 have U185 := u1 U184 hu52 (ni U182.size hg41)
 have U186 := ut0 U185 hu57
 have U187 := u1 U186 hu66 (ni U185.size hg55)
 have U188 := u1 U187 hu71 (ni U185.size hg55)
 have U189 := u1 U188 hu75 (ni U185.size hg55)
 have U190 := u1 U189 hu79 (ni U185.size hg55)
 have U191 := u1 U190 hu91 (ni U185.size hg55)
 have U192 := u1 U191 hu96 (ni U185.size hg55)
 have U193 := u1 U192 hu100 (ni U185.size hg55)
 have U194 := u1 U193 hu104 (ni U185.size hg55)
 have U195 := u1 U194 hu108 (ni U185.size hg55)
 have U196 := u1 U195 hu112 (ni U185.size hg55)
 have U197 := u1 U196 hu116 (ni U185.size hg55)
 have U198 := u1 U197 hu132 (ni U185.size hg55)
 have U199 := u1 U198 hu137 (ni U185.size hg55)
 have U200 := u1 U199 hu141 (ni U185.size hg55)
 have U201 := u1 U200 hu145 (ni U185.size hg55)
 have U202 := u1 U201 hu149 (ni U185.size hg55)
 have U203 := u1 U202 hu169 (ni U185.size hg55)
 have U204 := u1 U203 hu174 (ni U185.size hg55)
 have U205 := u1 U204 hu177 (ni U185.size hg55)
 rcases cfam_dich x with ⟨hk, hkf⟩ | ⟨hk, hkf⟩ | ⟨hk, hkf⟩ | ⟨hk, hkf⟩ | ⟨hk, hkf⟩ | ⟨hk, hkf⟩
 obtain ⟨ix, hix⟩ : ∃ i, Instr.findNow (.int .u8) (.int .u8 x) codecs.toList 0 = some (some (i, .agg #[.func (.func 37) #[] #[], .func (.func 38) #[] #[]])) := by
   rcases hk with rfl | rfl | rfl | rfl
   · exact ⟨0, by kernel_rfl⟩
   · exact ⟨1, by kernel_rfl⟩
   · exact ⟨2, by kernel_rfl⟩
   · exact ⟨3, by kernel_rfl⟩
 refine L0 <| Olk (hf := (fns codecs hix)) B176 x (.agg #[.nilFunc, .nilFunc]) (some (ix, .agg #[.func (.func 37) #[] #[], .func (.func 38) #[] #[]])) <| Pl 3 <| L0 <| Oal #[.nilFunc, .nilFunc] fun g206 w207 hg208 B209 hu210 => L0 <| Osw B209 #[.func (.func 37) #[] #[], .func (.func 38) #[] #[]] fun w211 B212 hu213 => Pl 1 <| ng <| L0 <| Olw B212 <| Pl 1 <| ?_
 have U214 := ut0 hu19 hu24
 have U215 := u1 U214 hu28 (nr hg17)
 have U216 := u1 U215 hu33 (ni hu19.size hg22)
 have U217 := ut0 U216 hu38
 have U218 := ut0 U217 hu43
 have U219 := u1 U218 hu47 (ni U216.size hg36)
 have U220 := u1 U219 hu52 (ni U217.size hg41)
 have U221 := ut0 U220 hu57
 have U222 := u1 U221 hu66 (ni U220.size hg55)
 have U223 := u1 U222 hu71 (ni U220.size hg55)
 have U224 := u1 U223 hu75 (ni U220.size hg55)
 have U225 := u1 U224 hu79 (ni U220.size hg55)
 have U226 := u1 U225 hu91 (ni U220.size hg55)
 have U227 := u1 U226 hu96 (ni U220.size hg55)
 have U228 := u1 U227 hu100 (ni U220.size hg55)
 have U229 := u1 U228 hu104 (ni U220.size hg55)
 have U230 := u1 U229 hu108 (ni U220.size hg55)
 have U231 := u1 U230 hu112 (ni U220.size hg55)
 have U232 := u1 U231 hu116 (ni U220.size hg55)
 have U233 := u1 U232 hu132 (ni U220.size hg55)
 have U234 := u1 U233 hu137 (ni U220.size hg55)
 have U235 := u1 U234 hu141 (ni U220.size hg55)
 have U236 := u1 U235 hu145 (ni U220.size hg55)
 have U237 := u1 U236 hu149 (ni U220.size hg55)
 have U238 := u1 U237 hu169 (ni U220.size hg55)
 have U239 := u1 U238 hu174 (ni U220.size hg55)
 have U240 := u1 U239 hu177 (ni U220.size hg55)
 have U241 := ut0 U240 hu210
 have U242 := u1 U241 hu213 (ni U240.size hg208)
 have r243 := ub U242 B13
 refine L0 <| Osw r243 #[.func (.func 37) #[] #[], .func (.func 38) #[] #[]] fun w244 B245 hu246 => Pl 1 <| nt <| rt <| rct B245 (.bool true) <| ?_
 rw [hkf]
 have U247 := ut0 U205 hu210
 have U248 := u1 U247 hu213 (ni U205.size hg208)
 have U249 := u1 U248 hu246 (nr hg12)
 exact ⟨rfl, U249⟩
 obtain ⟨ix, hix⟩ : ∃ i, Instr.findNow (.int .u8) (.int .u8 x) codecs.toList 0 = some (some (i, .agg #[.func (.func 39) #[] #[], .func (.func 40) #[] #[]])) := by
   rcases hk with rfl | rfl | rfl | rfl | rfl | rfl | rfl
   · exact ⟨4, by kernel_rfl⟩
   · exact ⟨5, by kernel_rfl⟩
   · exact ⟨6, by kernel_rfl⟩
   · exact ⟨7, by kernel_rfl⟩
   · exact ⟨8, by kernel_rfl⟩
   · exact ⟨9, by kernel_rfl⟩
   · exact ⟨10, by kernel_rfl⟩
 refine L0 <| Olk (hf := (fns codecs hix)) B176 x (.agg #[.nilFunc, .nilFunc]) (some (ix, .agg #[.func (.func 39) #[] #[], .func (.func 40) #[] #[]])) <| Pl 3 <| L0 <| Oal #[.nilFunc, .nilFunc] fun g250 w251 hg252 B253 hu254 => L0 <| Osw B253 #[.func (.func 39) #[] #[], .func (.func 40) #[] #[]] fun w255 B256 hu257 => Pl 1 <| ng <| L0 <| Olw B256 <| Pl 1 <| ?_
 have U258 := ut0 hu19 hu24
 have U259 := u1 U258 hu28 (nr hg17)
 have U260 := u1 U259 hu33 (ni hu19.size hg22)
 have U261 := ut0 U260 hu38
 have U262 := ut0 U261 hu43
 have U263 := u1 U262 hu47 (ni U260.size hg36)
 have U264 := u1 U263 hu52 (ni U261.size hg41)
 have U265 := ut0 U264 hu57
 have U266 := u1 U265 hu66 (ni U264.size hg55)
 have U267 := u1 U266 hu71 (ni U264.size hg55)
 have U268 := u1 U267 hu75 (ni U264.size hg55)
 have U269 := u1 U268 hu79 (ni U264.size hg55)
 have U270 := u1 U269 hu91 (ni U264.size hg55)
 have U271 := u1 U270 hu96 (ni U264.size hg55)
 have U272 := u1 U271 hu100 (ni U264.size hg55)
 have U273 := u1 U272 hu104 (ni U264.size hg55)
 have U274 := u1 U273 hu108 (ni U264.size hg55)
 have U275 := u1 U274 hu112 (ni U264.size hg55)
 have U276 := u1 U275 hu116 (ni U264.size hg55)
 have U277 := u1 U276 hu132 (ni U264.size hg55)
 have U278 := u1 U277 hu137 (ni U264.size hg55)
 have U279 := u1 U278 hu141 (ni U264.size hg55)
 have U280 := u1 U279 hu145 (ni U264.size hg55)
 have U281 := u1 U280 hu149 (ni U264.size hg55)
 have U282 := u1 U281 hu169 (ni U264.size hg55)
 have U283 := u1 U282 hu174 (ni U264.size hg55)
 have U284 := u1 U283 hu177 (ni U264.size hg55)
 have U285 := ut0 U284 hu254
 have U286 := u1 U285 hu257 (ni U284.size hg252)
 have r287 := ub U286 B13
 refine L0 <| Osw r287 #[.func (.func 39) #[] #[], .func (.func 40) #[] #[]] fun w288 B289 hu290 => Pl 1 <| nt <| rt <| rct B289 (.bool true) <| ?_
 rw [hkf]
 have U291 := ut0 U205 hu254
 have U292 := u1 U291 hu257 (ni U205.size hg252)
 have U293 := u1 U292 hu290 (nr hg12)
 exact ⟨rfl, U293⟩
 obtain ⟨ix, hix⟩ : ∃ i, Instr.findNow (.int .u8) (.int .u8 x) codecs.toList 0 = some (some (i, .agg #[.func (.func 41) #[] #[], .func (.func 42) #[] #[]])) := by
   rcases hk with rfl | rfl | rfl | rfl | rfl
   · exact ⟨11, by kernel_rfl⟩
   · exact ⟨12, by kernel_rfl⟩
   · exact ⟨13, by kernel_rfl⟩
   · exact ⟨14, by kernel_rfl⟩
   · exact ⟨15, by kernel_rfl⟩
 refine L0 <| Olk (hf := (fns codecs hix)) B176 x (.agg #[.nilFunc, .nilFunc]) (some (ix, .agg #[.func (.func 41) #[] #[], .func (.func 42) #[] #[]])) <| Pl 3 <| L0 <| Oal #[.nilFunc, .nilFunc] fun g294 w295 hg296 B297 hu298 => L0 <| Osw B297 #[.func (.func 41) #[] #[], .func (.func 42) #[] #[]] fun w299 B300 hu301 => Pl 1 <| ng <| L0 <| Olw B300 <| Pl 1 <| ?_
 have U302 := ut0 hu19 hu24
 have U303 := u1 U302 hu28 (nr hg17)
 have U304 := u1 U303 hu33 (ni hu19.size hg22)
 have U305 := ut0 U304 hu38
 have U306 := ut0 U305 hu43
 have U307 := u1 U306 hu47 (ni U304.size hg36)
 have U308 := u1 U307 hu52 (ni U305.size hg41)
 have U309 := ut0 U308 hu57
 have U310 := u1 U309 hu66 (ni U308.size hg55)
 have U311 := u1 U310 hu71 (ni U308.size hg55)
 have U312 := u1 U311 hu75 (ni U308.size hg55)
 have U313 := u1 U312 hu79 (ni U308.size hg55)
 have U314 := u1 U313 hu91 (ni U308.size hg55)
 have U315 := u1 U314 hu96 (ni U308.size hg55)
 have U316 := u1 U315 hu100 (ni U308.size hg55)
 have U317 := u1 U316 hu104 (ni U308.size hg55)
 have U318 := u1 U317 hu108 (ni U308.size hg55)
 have U319 := u1 U318 hu112 (ni U308.size hg55)
 have U320 := u1 U319 hu116 (ni U308.size hg55)
 have U321 := u1 U320 hu132 (ni U308.size hg55)
 have U322 := u1 U321 hu137 (ni U308.size hg55)
 have U323 := u1 U322 hu141 (ni U308.size hg55)
 have U324 := u1 U323 hu145 (ni U308.size hg55)
 have U325 := u1 U324 hu149 (ni U308.size hg55)
 have U326 := u1 U325 hu169 (ni U308.size hg55)
 have U327 := u1 U326 hu174 (ni U308.size hg55)
 have U328 := u1 U327 hu177 (ni U308.size hg55)
 have U329 := ut0 U328 hu298
 have U330 := u1 U329 hu301 (ni U328.size hg296)
 have r331 := ub U330 B13
 refine L0 <| Osw r331 #[.func (.func 41) #[] #[], .func (.func 42) #[] #[]] fun w332 B333 hu334 => Pl 1 <| nt <| rt <| rct B333 (.bool true) <| ?_
 rw [hkf]
 have U335 := ut0 U205 hu298
 have U336 := u1 U335 hu301 (ni U205.size hg296)
 have U337 := u1 U336 hu334 (nr hg12)
 exact ⟨rfl, U337⟩
 obtain ⟨ix, hix⟩ : ∃ i, Instr.findNow (.int .u8) (.int .u8 x) codecs.toList 0 = some (some (i, .agg #[.func (.func 43) #[] #[], .func (.func 44) #[] #[]])) := by
   rcases hk with rfl | rfl
   · exact ⟨16, by kernel_rfl⟩
   · exact ⟨17, by kernel_rfl⟩
 refine L0 <| Olk (hf := (fns codecs hix)) B176 x (.agg #[.nilFunc, .nilFunc]) (some (ix, .agg #[.func (.func 43) #[] #[], .func (.func 44) #[] #[]])) <| Pl 3 <| L0 <| Oal #[.nilFunc, .nilFunc] fun g338 w339 hg340 B341 hu342 => L0 <| Osw B341 #[.func (.func 43) #[] #[], .func (.func 44) #[] #[]] fun w343 B344 hu345 => Pl 1 <| ng <| L0 <| Olw B344 <| Pl 1 <| ?_
 have U346 := ut0 hu19 hu24
 have U347 := u1 U346 hu28 (nr hg17)
 have U348 := u1 U347 hu33 (ni hu19.size hg22)
 have U349 := ut0 U348 hu38
 have U350 := ut0 U349 hu43
 have U351 := u1 U350 hu47 (ni U348.size hg36)
 have U352 := u1 U351 hu52 (ni U349.size hg41)
 have U353 := ut0 U352 hu57
 have U354 := u1 U353 hu66 (ni U352.size hg55)
 have U355 := u1 U354 hu71 (ni U352.size hg55)
 have U356 := u1 U355 hu75 (ni U352.size hg55)
 have U357 := u1 U356 hu79 (ni U352.size hg55)
 have U358 := u1 U357 hu91 (ni U352.size hg55)
 have U359 := u1 U358 hu96 (ni U352.size hg55)
 have U360 := u1 U359 hu100 (ni U352.size hg55)
 have U361 := u1 U360 hu104 (ni U352.size hg55)
 have U362 := u1 U361 hu108 (ni U352.size hg55)
 have U363 := u1 U362 hu112 (ni U352.size hg55)
 have U364 := u1 U363 hu116 (ni U352.size hg55)
 have U365 := u1 U364 hu132 (ni U352.size hg55)
 have U366 := u1 U365 hu137 (ni U352.size hg55)
 have U367 := u1 U366 hu141 (ni U352.size hg55)
 have U368 := u1 U367 hu145 (ni U352.size hg55)
 have U369 := u1 U368 hu149 (ni U352.size hg55)
 have U370 := u1 U369 hu169 (ni U352.size hg55)
 have U371 := u1 U370 hu174 (ni U352.size hg55)
 have U372 := u1 U371 hu177 (ni U352.size hg55)
 have U373 := ut0 U372 hu342
 have U374 := u1 U373 hu345 (ni U372.size hg340)
 have r375 := ub U374 B13
 refine L0 <| Osw r375 #[.func (.func 43) #[] #[], .func (.func 44) #[] #[]] fun w376 B377 hu378 => Pl 1 <| nt <| rt <| rct B377 (.bool true) <| ?_
 rw [hkf]
 have U379 := ut0 U205 hu342
 have U380 := u1 U379 hu345 (ni U205.size hg340)
 have U381 := u1 U380 hu378 (nr hg12)
 exact ⟨rfl, U381⟩
 obtain ⟨ix, hix⟩ : ∃ i, Instr.findNow (.int .u8) (.int .u8 x) codecs.toList 0 = some (some (i, .agg #[.func (.func 45) #[] #[], .func (.func 46) #[] #[]])) := by
   rcases hk with rfl
   · exact ⟨18, by kernel_rfl⟩
 refine L0 <| Olk (hf := (fns codecs hix)) B176 x (.agg #[.nilFunc, .nilFunc]) (some (ix, .agg #[.func (.func 45) #[] #[], .func (.func 46) #[] #[]])) <| Pl 3 <| L0 <| Oal #[.nilFunc, .nilFunc] fun g382 w383 hg384 B385 hu386 => L0 <| Osw B385 #[.func (.func 45) #[] #[], .func (.func 46) #[] #[]] fun w387 B388 hu389 => Pl 1 <| ng <| L0 <| Olw B388 <| Pl 1 <| ?_
 have U390 := ut0 hu19 hu24
 have U391 := u1 U390 hu28 (nr hg17)
 have U392 := u1 U391 hu33 (ni hu19.size hg22)
 have U393 := ut0 U392 hu38
 have U394 := ut0 U393 hu43
 have U395 := u1 U394 hu47 (ni U392.size hg36)
 have U396 := u1 U395 hu52 (ni U393.size hg41)
 have U397 := ut0 U396 hu57
 have U398 := u1 U397 hu66 (ni U396.size hg55)
 have U399 := u1 U398 hu71 (ni U396.size hg55)
 have U400 := u1 U399 hu75 (ni U396.size hg55)
 have U401 := u1 U400 hu79 (ni U396.size hg55)
 have U402 := u1 U401 hu91 (ni U396.size hg55)
 have U403 := u1 U402 hu96 (ni U396.size hg55)
 have U404 := u1 U403 hu100 (ni U396.size hg55)
 have U405 := u1 U404 hu104 (ni U396.size hg55)
 have U406 := u1 U405 hu108 (ni U396.size hg55)
 have U407 := u1 U406 hu112 (ni U396.size hg55)
 have U408 := u1 U407 hu116 (ni U396.size hg55)
 have U409 := u1 U408 hu132 (ni U396.size hg55)
 have U410 := u1 U409 hu137 (ni U396.size hg55)
 have U411 := u1 U410 hu141 (ni U396.size hg55)
 have U412 := u1 U411 hu145 (ni U396.size hg55)
 have U413 := u1 U412 hu149 (ni U396.size hg55)
 have U414 := u1 U413 hu169 (ni U396.size hg55)
 have U415 := u1 U414 hu174 (ni U396.size hg55)
 have U416 := u1 U415 hu177 (ni U396.size hg55)
 have U417 := ut0 U416 hu386
 have U418 := u1 U417 hu389 (ni U416.size hg384)
 have r419 := ub U418 B13
 refine L0 <| Osw r419 #[.func (.func 45) #[] #[], .func (.func 46) #[] #[]] fun w420 B421 hu422 => Pl 1 <| nt <| rt <| rct B421 (.bool true) <| ?_
 rw [hkf]
 have U423 := ut0 U205 hu386
 have U424 := u1 U423 hu389 (ni U205.size hg384)
 have U425 := u1 U424 hu422 (nr hg12)
 exact ⟨rfl, U425⟩
 refine L0 <| Olk (hf := (fno (q := .u8) (x := x) codecs (by unfold codecs; exact findNow_no _ _ (by intro e he; simp only [List.mem_cons, List.not_mem_nil, or_false] at he; obtain ⟨z1, z2, z5, z15, z3, z4, z6, z16, z22, z23, z24, z7, z8, z11, z12, z17, z20, z21, z43⟩ := hk; rcases he with rfl | rfl | rfl | rfl | rfl | rfl | rfl | rfl | rfl | rfl | rfl | rfl | rfl | rfl | rfl | rfl | rfl | rfl | rfl <;> exact ⟨_, rfl, fun h => by omega⟩)))) B176 x (.agg #[.nilFunc, .nilFunc]) none <| Pl 3 <| L0 <| Oal #[.nilFunc, .nilFunc] fun g426 w427 hg428 B429 hu430 => L0 <| Osw B429 #[.nilFunc, .nilFunc] fun w431 B432 hu433 => Pl 1 <| ng <| L0 <| Olw B432 <| Pl 1 <| ?_
 have U434 := ut0 hu19 hu24
 have U435 := u1 U434 hu28 (nr hg17)
 have U436 := u1 U435 hu33 (ni hu19.size hg22)
 have U437 := ut0 U436 hu38
 have U438 := ut0 U437 hu43
 have U439 := u1 U438 hu47 (ni U436.size hg36)
 have U440 := u1 U439 hu52 (ni U437.size hg41)
 have U441 := ut0 U440 hu57
 have U442 := u1 U441 hu66 (ni U440.size hg55)
 have U443 := u1 U442 hu71 (ni U440.size hg55)
 have U444 := u1 U443 hu75 (ni U440.size hg55)
 have U445 := u1 U444 hu79 (ni U440.size hg55)
 have U446 := u1 U445 hu91 (ni U440.size hg55)
 have U447 := u1 U446 hu96 (ni U440.size hg55)
 have U448 := u1 U447 hu100 (ni U440.size hg55)
 have U449 := u1 U448 hu104 (ni U440.size hg55)
 have U450 := u1 U449 hu108 (ni U440.size hg55)
 have U451 := u1 U450 hu112 (ni U440.size hg55)
 have U452 := u1 U451 hu116 (ni U440.size hg55)
 have U453 := u1 U452 hu132 (ni U440.size hg55)
 have U454 := u1 U453 hu137 (ni U440.size hg55)
 have U455 := u1 U454 hu141 (ni U440.size hg55)
 have U456 := u1 U455 hu145 (ni U440.size hg55)
 have U457 := u1 U456 hu149 (ni U440.size hg55)
 have U458 := u1 U457 hu169 (ni U440.size hg55)
 have U459 := u1 U458 hu174 (ni U440.size hg55)
 have U460 := u1 U459 hu177 (ni U440.size hg55)
 have U461 := ut0 U460 hu430
 have U462 := u1 U461 hu433 (ni U460.size hg428)
 have r463 := ub U462 B13
 refine L0 <| Osw r463 #[.nilFunc, .nilFunc] fun w464 B465 hu466 => Pl 1 <| nt <| rt <| rct B465 (.bool false) <| ?_
 rw [hkf]
 have U467 := ut0 U205 hu430
 have U468 := u1 U467 hu433 (ni U205.size hg428)
 have U469 := u1 U468 hu466 (nr hg12)
 exact ⟨rfl, U469⟩
open Go.RowKit
theorem run_pairneq {ev : Operand → Value} {o : Oper} {x y : Operand} {t : TypeId} {a b : Int} {w : World} (ho : o.op = .binOp .neq 78 x y t)
    (hx : ev x = .agg #[.int .u8 a, .int .u8 b]) (hy : ev y = .agg #[.int .u8 0, .int .u8 0]) : (execOp ev o).run Try.prog w = .ok (.value (.bool ((a != 0) || (b != 0)))) w := by
  unfold execOp
  rw [ho]
  simp only [hx, hy]
  cases a with
  | ofNat a =>
    cases a with
    | zero =>
      cases b with
      | ofNat b =>
        cases b with
        | zero => kernel_rfl
        | succ b => kernel_rfl
      | negSucc b => kernel_rfl
    | succ a => kernel_rfl
  | negSucc a => kernel_rfl
def refM (a b : Int) : Msg := { Msg.zero with code := a, fail := b }
def pairB (a b : Int) : Bool := (((a != 0) || (b != 0)) && publicB a) && failureB b
set_option maxRecDepth 100000 in
set_option maxHeartbeats 4000000 in
theorem pairof_any {a b : Int} {w : World} : Calls Try.prog 36 #[.agg #[.int .u8 a, .int .u8 b]] w (PVal (.agg #[.int .u8 a, .int .u8 b, .int .u16 0, .int .u16 0, .int .u16 0, .int .u16 0, .int .u16 0, .int .u16 0, .int .u16 0, .int .u16 0, .int .u16 0, .int .u16 0, .slice none 0 0, .slice none 0 0, .slice none 0 0, .slice none 0 0, .int .u8 0, .int .u8 0, .int .u8 0, .int .u8 0, .int .u8 0, .slice none 0 0]) w) := by
 refine en 8 Try.func36 rfl <| sg <| L0 <| Obx #[.int .u8 a, .int .u8 b] fun g10 w11 hg12 B13 hu14 => L0 <| Oal mZ fun g15 w16 hg17 B18 hu19 => ng <| Pl 1 <| ?_
 have r20 := ub hu19 B13
 refine L0 <| Olb r20 0 <| Pl 1 <| L0 <| Olb r20 1 <| Pl 1 <| L0 <| Osw B18 (mG a b 0 0 0 0 0 0 0 0 0 0 nS nS nS nS 0 0 0 0 0 nS) fun w21 B22 hu23 => nt <| rt <| rc1 B22 <| ?_
 have U24 := ut0 hu14 hu19
 have U25 := u1 U24 hu23 (ni hu14.size hg17)
 exact ⟨rfl, U25⟩
set_option maxRecDepth 100000 in
set_option maxHeartbeats 4000000 in
theorem right_any {a b : Int} {w : World} : Calls Try.prog 47 #[.agg #[.int .u8 a, .int .u8 b]] w (PVal (.bool (pairB a b)) w) := by
 refine en 16 Try.func47 rfl <| sg <| L0 <| Obx #[.int .u8 a, .int .u8 b] fun g10 w11 hg12 B13 hu14 => Pl 1 <| ng <| L0 <| Olw B13 <| Pl 1 <| L0 <| Or_ (.bool ((a != 0) || (b != 0))) (run_pairneq rfl (by kernel_rfl) (by kernel_rfl)) <| Pl 1 <| bl 6 (((a != 0) || (b != 0))) (fun q15 => ?_) (fun q15 => ?_)
 refine Pl 1 <| L1 <| Olb B13 0 <| L1 <| Oc <| m1 (public_any (x := a) (w := _)) fun w16 hu17 => Pl 2 <| ?_
 have U18 := ut0 hu14 hu17
 refine bl 11 ((publicB a)) (fun q19 => ?_) (fun q19 => ?_)
 refine Pl 1 <| ?_
 have r20 := ub hu17 B13
 refine L1 <| Olb r20 1 <| L1 <| Oc <| m1 (failure_any (x := b) (w := _)) fun w21 hu22 => Pl 2 <| nt <| rt <| rr (.bool (failureB b)) <| ?_
 have hs : pairB a b = (failureB b) := by
   unfold pairB
   (try simp only [q15, q19, bs, if_true, if_false, decide_true, decide_false])
   done
 rw [hs]
 have U23 := ut0 U18 hu22
 exact ⟨rfl, U23⟩
 refine Pl 5 <| nt <| rt <| rr (.bool false) <| ?_
 have hs : pairB a b = false := by
   unfold pairB
   (try simp only [q15, q19, bs, if_true, if_false, decide_true, decide_false])
   done
 rw [hs]
 exact ⟨rfl, U18⟩
 have q15a := (or_f q15).1
 have q15b := (or_f q15).2
 have q15ap := eq_of_bnei q15a
 have q15bp := eq_of_bnei q15b
 refine Pl 10 <| nt <| rt <| rr (.bool false) <| ?_
 have hs : pairB a b = false := by
   unfold pairB
   (try simp only [q15, q15a, q15b, bs, if_true, if_false, decide_true, decide_false])
   done
 rw [hs]
 exact ⟨rfl, hu14⟩
def refP (b : List Int) : Msg × Int :=
  if (b.length : Int) == 0 then (Msg.zero, 2)
  else if decide (b.getD 0 0 < 128) then (Msg.zero, 4)
  else if !(publicB ((b.getD 0 0 - 128) % 256)) then (Msg.zero, 4)
  else if (b.length : Int) == 1 then (Msg.zero, 2)
  else if !(failureB (b.getD 1 0)) then (Msg.zero, 6)
  else if decide (2 < (b.length : Int)) then (Msg.zero, 3)
  else (refM ((b.getD 0 0 - 128) % 256) (b.getD 1 0), 0)
set_option maxRecDepth 100000 in
set_option maxHeartbeats 4000000 in
theorem ref_parse0 {m : Bool} {A : Option Addr} {cp : Nat} {b : List Int} {w : World} (hsl : RdB m w (.slice A b.length cp) b) (hb : b.length ≤ 1048576) :
    Calls Try.prog 23 #[.slice A b.length cp] w (PMsg (refP b) w) := by
 have hln : (b.length : Int) ≤ 1048576 := by omega
 refine en 49 Try.func23 rfl <| sg <| L0 <| Oal mZ fun g10 w11 hg12 B13 hu14 => Pl 1 <| nt <| sq <| bk <| sg <| Pl 4 <| nt <| ?_
 refine cb ((((b.length : Nat) : Int) == 0)) (fun q15 => ?_) (fun q15 => ?_)
 have q15p := eq_of_beqi q15
 refine sg <| Pl 1 <| L0 <| Osw B13 mZ fun w16 B17 hu18 => Pl 1 <| nt <| rt <| br <| tr <| rct B17 (.int .i64 2) <| ?_
 have hs : refP b = (Msg.zero, 2) := by
   unfold refP
   (try simp only [q15, bs, if_true, if_false, decide_true, decide_false, Bool.not_eq_true, reduceIte])
   all_goals rfl
 rw [hs]
 have U19 := u1 hu14 hu18 (nr hg12)
 exact bad_res U19
 have q15p := ne_of_beqi q15
 refine sg <| Pl 1 <| ?_
 have r20 := RdB.old hsl hu14
 refine x23 (RdB.at_ r20 0 (by omega)) fun b21 o22 hA23 hl24 hr25 => L0 <| Oix b.length 0 hA23 (by omega) <| L0 <| Old (p := ⟨b21, o22 + 0, none⟩) (v := .int .u8 (b.getD 0 0)) hl24 <| Pl 2 <| bl 14 ((decide ((b.getD 0 0) < 128))) (fun q26 => ?_) (fun q26 => ?_)
 have q26p := of_decide_eq_true q26
 refine Pl 8 <| nt <| c1 <| sg <| Pl 1 <| L0 <| Osw B13 mZ fun w27 B28 hu29 => Pl 1 <| nt <| rt <| br <| tr <| ?_
 refine rct B28 (.int .i64 4) <| ?_
 have hs : refP b = (Msg.zero, 4) := by
   unfold refP
   (try simp only [q15, q26, bs, if_true, if_false, decide_true, decide_false, Bool.not_eq_true, reduceIte])
   all_goals rfl
 rw [hs]
 have U30 := u1 hu14 hu29 (nr hg12)
 exact bad_res U30
 have q26p := of_decide_eq_false q26
 refine Pl 1 <| L1 <| Oix b.length 0 hA23 (by omega) <| L1 <| Old (p := ⟨b21, o22 + 0, none⟩) (v := .int .u8 (b.getD 0 0)) hl24 <| Pl 1 <| L1 <| Oc <| m1 (public_any (x := (((b.getD 0 0) - 128) % 256)) (w := _)) fun w31 hu32 => Pl 3 <| nt <| ?_
 have U33 := ut0 hu14 hu32
 refine cb ((!(publicB (((b.getD 0 0) - 128) % 256)))) (fun q34 => ?_) (fun q34 => ?_)
 have q34n : (publicB (((b.getD 0 0) - 128) % 256)) = false := by simpa using q34
 refine sg <| Pl 1 <| ?_
 have r35 := ub hu32 B13
 refine L0 <| Osw r35 mZ fun w36 B37 hu38 => Pl 1 <| nt <| rt <| br <| tr <| rct B37 (.int .i64 4) <| ?_
 have hs : refP b = (Msg.zero, 4) := by
   unfold refP
   (try simp only [q15, q26, q34, q34n, bs, if_true, if_false, decide_true, decide_false, Bool.not_eq_true, reduceIte])
   all_goals rfl
 rw [hs]
 have U39 := u1 U33 hu38 (nr hg12)
 exact bad_res U39
 have q34n : (publicB (((b.getD 0 0) - 128) % 256)) = true := by simpa using q34
 refine sg <| Pl 4 <| nt <| cb ((((b.length : Nat) : Int) == 1)) (fun q40 => ?_) (fun q40 => ?_)
 have q40p := eq_of_beqi q40
 refine sg <| Pl 1 <| ?_
 have r41 := ub hu32 B13
 refine L0 <| Osw r41 mZ fun w42 B43 hu44 => Pl 1 <| nt <| rt <| br <| tr <| rct B43 (.int .i64 2) <| ?_
 have hs : refP b = (Msg.zero, 2) := by
   unfold refP
   (try simp only [q15, q26, q34, q34n, q40, bs, if_true, if_false, decide_true, decide_false, Bool.not_eq_true, reduceIte])
   all_goals rfl
 rw [hs]
 have U45 := u1 U33 hu44 (nr hg12)
 exact bad_res U45
 have q40p := ne_of_beqi q40
 refine sg <| Pl 1 <| ?_
 have r46 := RdB.old r20 hu32
 refine x23 (RdB.at_ r46 1 (by omega)) fun b47 o48 hA49 hl50 hr51 => L0 <| Oix b.length 1 hA49 (by omega) <| L0 <| Old (p := ⟨b47, o48 + 1, none⟩) (v := .int .u8 (b.getD 1 0)) hl50 <| L0 <| Oc <| m1 (failure_any (x := (b.getD 1 0)) (w := _)) fun w52 hu53 => Pl 2 <| nt <| ?_
 have U54 := ut0 U33 hu53
 refine cb ((!(failureB (b.getD 1 0)))) (fun q55 => ?_) (fun q55 => ?_)
 have q55n : (failureB (b.getD 1 0)) = false := by simpa using q55
 refine sg <| Pl 1 <| ?_
 have U56 := ut0 hu32 hu53
 have r57 := ub U56 B13
 refine L0 <| Osw r57 mZ fun w58 B59 hu60 => Pl 1 <| nt <| rt <| br <| tr <| rct B59 (.int .i64 6) <| ?_
 have hs : refP b = (Msg.zero, 6) := by
   unfold refP
   (try simp only [q15, q26, q34, q34n, q40, q55, q55n, bs, if_true, if_false, decide_true, decide_false, Bool.not_eq_true, reduceIte])
   all_goals rfl
 rw [hs]
 have U61 := u1 U54 hu60 (nr hg12)
 exact bad_res U61
 have q55n : (failureB (b.getD 1 0)) = true := by simpa using q55
 refine sg <| Pl 4 <| nt <| cb ((decide (2 < ((b.length : Nat) : Int)))) (fun q62 => ?_) (fun q62 => ?_)
 have q62p := of_decide_eq_true q62
 refine sg <| Pl 1 <| ?_
 have U63 := ut0 hu32 hu53
 have r64 := ub U63 B13
 refine L0 <| Osw r64 mZ fun w65 B66 hu67 => Pl 1 <| nt <| rt <| br <| tr <| rct B66 (.int .i64 3) <| ?_
 have hs : refP b = (Msg.zero, 3) := by
   unfold refP
   (try simp only [q15, q26, q34, q34n, q40, q55, q55n, q62, bs, if_true, if_false, decide_true, decide_false, Bool.not_eq_true, reduceIte])
   all_goals rfl
 rw [hs]
 have U68 := u1 U54 hu67 (nr hg12)
 exact bad_res U68
 have q62p := of_decide_eq_false q62
 refine sk <| bn <| tn <| sq <| ?_
 have r88 := RdB.old r46 hu53
 refine x23 (RdB.at_ r88 0 (by omega)) fun b89 o90 hA91 hl92 hr93 => x23 (RdB.at_ r88 1 (by omega)) fun b94 o95 hA96 hl97 hr98 => Rg 11 (fun w' => w'.cell? ⟨b89, o90 + 0, none⟩ = some (.int .u8 (b.getD 0 0)) ∧ w'.cell? ⟨b94, o95 + 1, none⟩ = some (.int .u8 (b.getD 1 0))) fun w107 hu108 => hld ⟨(uc hu108 hl92), (uc hu108 hl97)⟩ fun hS109 => Rt 0 hS109 <| Ri1 1 hS109 b.length 0 0 rfl hA91 (by omega) <| Rl 2 hS109 (fun _ hs => hs.1) <| Rt 3 hS109 <| Rt 4 hS109 <| Ri1 5 hS109 b.length 1 1 rfl hA96 (by omega) <| Rl 6 hS109 (fun _ hs => hs.2) <| Rt 7 hS109 <| R0 8 rfl <| Oc <| m1 (pairof_any (a := (((b.getD 0 0) - 128) % 256)) (b := (b.getD 1 0)) (w := _)) fun w110 hu111 => ?_
 have U113 := ut0 hu108 hu111
 refine hld ⟨(uc U113 hl92), (uc U113 hl97)⟩ fun hS112 => ?_
 have U114 := ut0 hu32 hu53
 have U115 := ut0 U114 hu108
 have U116 := ut0 U115 hu111
 have r117 := ub U116 B13
 refine R0 9 rfl <| Osw r117 (mG (((b.getD 0 0) - 128) % 256) (b.getD 1 0) 0 0 0 0 0 0 0 0 0 0 nS nS nS nS 0 0 0 0 0 nS) fun w118 B119 hu120 => ?_
 have U122 := u1 (Upd.mono (S' := [g10]) U113 all0) hu120 im
 have U123 := ut0 hu53 hu108
 have U124 := ut0 U123 hu111
 have U125 := u1 (Upd.mono (S' := [g10]) U124 all0) hu120 im
 have U126 := u1 (Upd.mono (S' := [g10]) U116 all0) hu120 im
 have U127 := ut0 U54 hu108
 have U128 := ut0 U127 hu111
 have U129 := u1 U128 hu120 (nr hg12)
 have r130 := RdB.old hsl U129
 refine hld ⟨(cB r130 hA91 0 (by omega)), (cB r130 hA96 1 (by omega))⟩ fun hS121 => Rt 10 hS121 <| re <| tn <| rt <| rct B119 (.int .i64 0) <| ?_
 have hs : refP b = ((Msg.mk (((b.getD 0 0) - 128) % 256) (b.getD 1 0) 0 0 0 0 0 0 0 0 0 0 [] [] [] [] 0 0 0 0 0 []), 0) := by
   unfold refP
   (try simp only [q15, q26, q34, q34n, q40, q55, q55n, q62, bs, if_true, if_false, decide_true, decide_false, Bool.not_eq_true, reduceIte])
   all_goals rfl
 rw [hs]
 exact ⟨_, rfl, ⟨_, _, _, _, _, rfl, RdG.nil .., RdG.nil .., RdG.nil .., RdG.nil .., RdG.nil .., ⟨(b8 (x := (((b.getD 0 0) - 128) % 256)) (by omega)), (b8 (x := (b.getD 1 0)) (by omega)), (b16 (x := 0) (by omega)), (b16 (x := 0) (by omega)), (b16 (x := 0) (by omega)), (b16 (x := 0) (by omega)), (b16 (x := 0) (by omega)), (b16 (x := 0) (by omega)), (b16 (x := 0) (by omega)), (b16 (x := 0) (by omega)), (b16 (x := 0) (by omega)), (b16 (x := 0) (by omega)), (b8 (x := 0) (by omega)), (b8 (x := 0) (by omega)), (b8 (x := 0) (by omega)), (b8 (x := 0) (by omega)), (b8 (x := 0) (by omega))⟩⟩, U129⟩
theorem ref_parse {m : Bool} {v : Value} {b : List Int} {w : World} (h : RdB m w v b) (hb : b.length ≤ 1048576) : Calls Try.prog 23 #[v] w (PMsg (refP b) w) := by
  obtain ⟨A, cp, rfl, _, _⟩ := h.shape
  exact ref_parse0 h hb
open Go.RowKit
set_option maxRecDepth 100000 in
set_option maxHeartbeats 4000000 in
theorem span_any {most : Int} {g gm : Nat} {c : Int} {C : Cur} {w : World} (hcode : B8 c) (hC : CurAt w g C) (hm : w.heap[gm]? = some (.cells (mC c) 29 (0, 0))) (hne : g ≠ gm) :
    Calls Try.prog 80 #[.agg #[.pointer (some ⟨g, 0, none⟩), .pointer (some ⟨gm, 0, none⟩)], .int .u16 most] w (PCells g gm (spanC C most) (mG c 0 C.wordV (C.wordsC 1).wordV 0 0 0 0 0 0 0 0 nS nS nS nS 0 0 0 0 0 nS) w) := by
 obtain ⟨hcode1, hcode2⟩ := hcode
 have hlen := hC.len
 refine en 51 Try.func80 rfl <| sg <| L0 <| Obx #[.pointer (some ⟨g, 0, none⟩), .pointer (some ⟨gm, 0, none⟩)] fun g10 w11 hg12 B13 hu14 => nt <| sq <| Rg 8 (fun w' => w'.cell? ⟨g10, 1, none⟩ = some (.pointer (some ⟨gm, 0, none⟩)) ∧ w'.cell? ⟨g10, 0, none⟩ = some (.pointer (some ⟨g, 0, none⟩))) fun w25 hu26 => ?_
 have r28 := ub hu26 B13
 refine hld ⟨(blk_at r28 rfl), (blk_at r28 rfl)⟩ fun hS27 => Rt 0 hS27 <| Rl 1 hS27 (fun _ hs => hs.1) <| Rt 2 hS27 <| Rl 3 hS27 (fun _ hs => hs.2) <| ?_
 have U29 := ut0 hu14 hu26
 have r30 := CurAt.old hC U29
 refine R0 4 rfl <| Oc <| m3 (word_any r30) fun w31 hc32 hu33 hr34 => ?_
 have ne36 := nb (CurAt.lt hC) lr hg12
 have r37 := ub1 hu33 (Ne.symm ne36) r28
 refine hld ⟨(blk_at r37 rfl), (blk_at r37 rfl)⟩ fun hS35 => Rt 5 hS35 <| Rt 6 hS35 <| ?_
 have U38 := u1 (Upd.mono (S' := [g]) U29 all0) hu33 im
 have r39 := ub1 U38 (Ne.symm hne) hm
 refine R0 7 rfl <| Ost r39 2 (mG c 0 C.wordV 0 0 0 0 0 0 0 0 0 nS nS nS nS 0 0 0 0 0 nS) fun w40 B41 hu42 => ?_
 have ne44 := nb (blk_lt hm) lr hg12
 have r45 := ub1 hu42 (Ne.symm ne44) r37
 refine hld ⟨(blk_at r45 rfl), (blk_at r45 rfl)⟩ fun hS43 => re <| tn <| sq <| Rg 8 (fun w' => w'.cell? ⟨g10, 1, none⟩ = some (.pointer (some ⟨gm, 0, none⟩)) ∧ w'.cell? ⟨g10, 0, none⟩ = some (.pointer (some ⟨g, 0, none⟩))) fun w55 hu56 => ?_
 have r58 := ub hu56 r45
 refine hld ⟨(blk_at r58 rfl), (blk_at r58 rfl)⟩ fun hS57 => Rt 0 hS57 <| Rl 1 hS57 (fun _ hs => hs.1) <| Rt 2 hS57 <| Rl 3 hS57 (fun _ hs => hs.2) <| ?_
 have U59 := ut0 hu42 hu56
 have r60 := CurAt.upd hc32 U59 (not_cons hne not0) (safe_cons (safe1 r39 (by decide)) safe0)
 refine R0 4 rfl <| Oc <| m3 (word_any r60) fun w61 hc62 hu63 hr64 => ?_
 have r66 := ub1 hu63 (Ne.symm ne36) r58
 refine hld ⟨(blk_at r66 rfl), (blk_at r66 rfl)⟩ fun hS65 => Rt 5 hS65 <| Rt 6 hS65 <| ?_
 have U67 := u1 (Upd.mono (S' := [g]) hu56 all0) hu63 im
 have r68 := ub1 U67 (Ne.symm hne) B41
 refine R0 7 rfl <| Ost r68 3 (mG c 0 C.wordV ((C.wordsC 1).wordV) 0 0 0 0 0 0 0 0 nS nS nS nS 0 0 0 0 0 nS) fun w69 B70 hu71 => ?_
 have r73 := ub1 hu71 (Ne.symm ne44) r66
 refine hld ⟨(blk_at r73 rfl), (blk_at r73 rfl)⟩ fun hS72 => re <| tn <| sq <| Rg 18 (fun w' => w'.cell? ⟨g10, 0, none⟩ = some (.pointer (some ⟨g, 0, none⟩)) ∧ w'.cell? ⟨g10, 1, none⟩ = some (.pointer (some ⟨gm, 0, none⟩)) ∧ w'.cell? ⟨gm, 3, none⟩ = some (.int .u16 ((C.wordsC 1).wordV))) fun w87 hu88 => ?_
 have r90 := ub hu88 r73
 have r91 := ub hu88 B70
 refine hld ⟨(blk_at r90 rfl), (blk_at r90 rfl), (blk_at r91 rfl)⟩ fun hS89 => Rt 0 hS89 <| Rl 1 hS89 (fun _ hs => hs.1) <| Rt 2 hS89 <| Rl 3 hS89 (fun _ hs => hs.2.1) <| Rt 4 hS89 <| Rt 5 hS89 <| Rl 6 hS89 (fun _ hs => hs.2.2) <| Rt 7 hS89 <| Rt 8 hS89 <| ?_
 have U92 := u1 (Upd.mono (S' := [g, gm]) U38 (ac im all0)) hu42 im
 have U93 := ut0 U92 hu56
 have U94 := u1 U93 hu63 im
 have U95 := u1 U94 hu71 im
 have U96 := ut0 U95 hu88
 refine bla 26 ((decide (1 ≤ ((C.wordsC 1).wordV)))) (fun q97 => ?_) (fun q97 => ?_)
 have q97p := of_decide_eq_true q97
 refine Rt 9 hS89 <| Rl 10 hS89 (fun _ hs => hs.2.1) <| Rt 11 hS89 <| Rt 12 hS89 <| Rl 13 hS89 (fun _ hs => hs.2.2) <| Rt 14 hS89 <| Rt 15 hS89 <| Rt 16 hS89 <| ?_
 have U98 := ut0 hu71 hu88
 have r99 := CurAt.upd hc62 U98 (not_cons hne not0) (safe_cons (safe1 r68 (by decide)) safe0)
 refine R0 17 rfl <| Oc <| m2 (need_any ((decide (((C.wordsC 1).wordV) ≤ most))) 5 r99) fun w100 hc101 hu102 => ?_
 have r104 := ub1 hu102 (Ne.symm ne36) r90
 have r105 := ub1 hu102 (Ne.symm hne) r91
 refine hld ⟨(blk_at r104 rfl), (blk_at r104 rfl), (blk_at r105 rfl)⟩ fun hS103 => re <| tn <| Rg 15 (fun w' => w'.cell? ⟨g10, 0, none⟩ = some (.pointer (some ⟨g, 0, none⟩)) ∧ w'.cell? ⟨g10, 1, none⟩ = some (.pointer (some ⟨gm, 0, none⟩)) ∧ w'.cell? ⟨gm, 2, none⟩ = some (.int .u16 C.wordV) ∧ w'.cell? ⟨gm, 3, none⟩ = some (.int .u16 ((C.wordsC 1).wordV))) fun w109 hu110 => ?_
 have r112 := ub hu110 r104
 have r113 := ub hu110 r105
 refine hld ⟨(blk_at r112 rfl), (blk_at r112 rfl), (blk_at r113 rfl), (blk_at r113 rfl)⟩ fun hS111 => Rt 0 hS111 <| Rl 1 hS111 (fun _ hs => hs.1) <| Rt 2 hS111 <| Rl 3 hS111 (fun _ hs => hs.2.1) <| Rt 4 hS111 <| Rt 5 hS111 <| Rl 6 hS111 (fun _ hs => hs.2.2.1) <| Rt 7 hS111 <| Rl 8 hS111 (fun _ hs => hs.2.1) <| Rt 9 hS111 <| Rt 10 hS111 <| Rl 11 hS111 (fun _ hs => hs.2.2.2) <| Rr 12 hS111 (.int .i64 ((C.wordsC 1).wordV)) (fun _ _ => run_eqo (.int .i64 (IntKind.i64.wrap ((C.wordsC 1).wordV))) (by kernel_rfl) (congrArg (Value.int .i64) (i64_in (by omega)))) <| ?_
 refine R0 13 rfl <| Oc <| mq (within_any (a := C.wordV) (n := (C.wordsC 1).wordV) (by omega)) <| hld ⟨(blk_at r112 rfl), (blk_at r112 rfl), (blk_at r113 rfl), (blk_at r113 rfl)⟩ fun hS114 => ?_
 have r115 := CurAt.old hc101 hu110
 refine R0 14 rfl <| Oc <| m2 (need_any ((within C.wordV ((C.wordsC 1).wordV))) 7 r115) fun w116 hc117 hu118 => ?_
 have r120 := ub1 hu118 (Ne.symm ne36) r112
 have r121 := ub1 hu118 (Ne.symm hne) r113
 refine hld ⟨(blk_at r120 rfl), (blk_at r120 rfl), (blk_at r121 rfl), (blk_at r121 rfl)⟩ fun hS119 => re <| rm (.tuple #[]) <| ?_
 have hs : spanC C most = ((((C.wordsC 1).wordsC 1).need (decide (((C.wordsC 1).wordV) ≤ most)) 5).need (within C.wordV ((C.wordsC 1).wordV)) 7) := by
   unfold spanC spanC1
   (try simp only [q97, bs, if_true, if_false, decide_true, decide_false, reduceIte])
   all_goals rfl
 rw [hs]
 have U122 := u1 U96 hu102 im
 have U123 := ut0 U122 hu110
 have U124 := u1 U123 hu118 im
 exact ⟨rfl, hc117, r121, U124⟩
 have q97p := of_decide_eq_false q97
 refine Ro 9 hS89 <| Ro 10 hS89 <| Ro 11 hS89 <| Ro 12 hS89 <| Ro 13 hS89 <| Ro 14 hS89 <| Ro 15 hS89 <| Rt 16 hS89 <| ?_
 have U125 := ut0 hu71 hu88
 have r126 := CurAt.upd hc62 U125 (not_cons hne not0) (safe_cons (safe1 r68 (by decide)) safe0)
 refine R0 17 rfl <| Oc <| m2 (need_any (false) 5 r126) fun w127 hc128 hu129 => ?_
 have r131 := ub1 hu129 (Ne.symm ne36) r90
 have r132 := ub1 hu129 (Ne.symm hne) r91
 refine hld ⟨(blk_at r131 rfl), (blk_at r131 rfl), (blk_at r132 rfl)⟩ fun hS130 => re <| tn <| Rg 15 (fun w' => w'.cell? ⟨g10, 0, none⟩ = some (.pointer (some ⟨g, 0, none⟩)) ∧ w'.cell? ⟨g10, 1, none⟩ = some (.pointer (some ⟨gm, 0, none⟩)) ∧ w'.cell? ⟨gm, 2, none⟩ = some (.int .u16 C.wordV) ∧ w'.cell? ⟨gm, 3, none⟩ = some (.int .u16 ((C.wordsC 1).wordV))) fun w136 hu137 => ?_
 have r139 := ub hu137 r131
 have r140 := ub hu137 r132
 refine hld ⟨(blk_at r139 rfl), (blk_at r139 rfl), (blk_at r140 rfl), (blk_at r140 rfl)⟩ fun hS138 => Rt 0 hS138 <| Rl 1 hS138 (fun _ hs => hs.1) <| Rt 2 hS138 <| Rl 3 hS138 (fun _ hs => hs.2.1) <| Rt 4 hS138 <| Rt 5 hS138 <| Rl 6 hS138 (fun _ hs => hs.2.2.1) <| Rt 7 hS138 <| Rl 8 hS138 (fun _ hs => hs.2.1) <| Rt 9 hS138 <| Rt 10 hS138 <| Rl 11 hS138 (fun _ hs => hs.2.2.2) <| Rr 12 hS138 (.int .i64 ((C.wordsC 1).wordV)) (fun _ _ => run_eqo (.int .i64 (IntKind.i64.wrap ((C.wordsC 1).wordV))) (by kernel_rfl) (congrArg (Value.int .i64) (i64_in (by omega)))) <| ?_
 refine R0 13 rfl <| Oc <| mq (within_any (a := C.wordV) (n := (C.wordsC 1).wordV) (by omega)) <| hld ⟨(blk_at r139 rfl), (blk_at r139 rfl), (blk_at r140 rfl), (blk_at r140 rfl)⟩ fun hS141 => ?_
 have r142 := CurAt.old hc128 hu137
 refine R0 14 rfl <| Oc <| m2 (need_any ((within C.wordV ((C.wordsC 1).wordV))) 7 r142) fun w143 hc144 hu145 => ?_
 have r147 := ub1 hu145 (Ne.symm ne36) r139
 have r148 := ub1 hu145 (Ne.symm hne) r140
 refine hld ⟨(blk_at r147 rfl), (blk_at r147 rfl), (blk_at r148 rfl), (blk_at r148 rfl)⟩ fun hS146 => re <| rm (.tuple #[]) <| ?_
 have hs : spanC C most = ((((C.wordsC 1).wordsC 1).need false 5).need (within C.wordV ((C.wordsC 1).wordV)) 7) := by
   unfold spanC spanC1
   (try simp only [q97, bs, if_true, if_false, decide_true, decide_false, reduceIte])
   all_goals rfl
 rw [hs]
 have U149 := u1 U96 hu129 im
 have U150 := ut0 U149 hu137
 have U151 := u1 U150 hu145 im
 exact ⟨rfl, hc144, r148, U151⟩
set_option maxRecDepth 100000 in
set_option maxHeartbeats 4000000 in
theorem asksRead_any {g gm : Nat} {c : Int} {C : Cur} {w : World} (hcode : B8 c) (hC : CurAt w g C) (hm : w.heap[gm]? = some (.cells (mC c) 29 (0, 0))) (hne : g ≠ gm) :
    Calls Try.prog 53 #[.agg #[.pointer (some ⟨g, 0, none⟩), .pointer (some ⟨gm, 0, none⟩)]] w (PFormG g gm (asksR 2000 c C).1 (asksR 2000 c C).2 w) := by
 obtain ⟨hcode1, hcode2⟩ := hcode
 have hlen := hC.len
 refine en 4 Try.func53 rfl <| sg <| L0 <| Obx #[.pointer (some ⟨g, 0, none⟩), .pointer (some ⟨gm, 0, none⟩)] fun g10 w11 hg12 B13 hu14 => nt <| go <| L0 <| Olw B13 <| ?_
 have r15 := CurAt.old hC hu14
 have r16 := ub hu14 hm
 refine L0 <| Oc <| m3 (span_any (most := 2000) ⟨hcode1, hcode2⟩ r15 r16 hne) fun w17 hc18 B19 hu20 => ?_
 have hr21 := (r15).wordV
 have hr22 := wordV_rng (wordsC_rng (r15).rng 1)
 refine nl <| rm (.tuple #[]) <| ?_
 have hs : asksR 2000 c C = ((spanC C 2000), (Msg.mk c 0 C.wordV ((C.wordsC 1).wordV) 0 0 0 0 0 0 0 0 [] [] [] [] 0 0 0 0 0 [])) := by
   unfold asksR
   (try simp only [bs, if_true, if_false, decide_true, decide_false, reduceIte])
   all_goals rfl
 rw [hs]
 have U23 := ut (Upd.mono (S' := [g, gm]) hu14 all0) hu20 (ac im (ac im all0))
 exact ⟨rfl, hc18, ⟨_, ⟨B19, rfl⟩, ⟨_, _, _, _, _, rfl, RdG.nil .., RdG.nil .., RdG.nil .., RdG.nil .., RdG.nil .., ⟨(b8 (x := c) (by omega)), (b8 (x := 0) (by omega)), (b16 (x := C.wordV) (by omega)), (b16 (x := (C.wordsC 1).wordV) (by omega)), (b16 (x := 0) (by omega)), (b16 (x := 0) (by omega)), (b16 (x := 0) (by omega)), (b16 (x := 0) (by omega)), (b16 (x := 0) (by omega)), (b16 (x := 0) (by omega)), (b16 (x := 0) (by omega)), (b16 (x := 0) (by omega)), (b8 (x := 0) (by omega)), (b8 (x := 0) (by omega)), (b8 (x := 0) (by omega)), (b8 (x := 0) (by omega)), (b8 (x := 0) (by omega))⟩⟩⟩, U23⟩
set_option maxRecDepth 100000 in
set_option maxHeartbeats 4000000 in
theorem ctold_any {g gm : Nat} {c : Int} {C : Cur} {w : World} (hcode : B8 c) (hC : CurAt w g C) (hm : w.heap[gm]? = some (.cells (mC c) 29 (0, 0))) (hne : g ≠ gm) :
    Calls Try.prog 54 #[.agg #[.pointer (some ⟨g, 0, none⟩), .pointer (some ⟨gm, 0, none⟩)]] w (PFormG g gm (ctoldR c C).1 (ctoldR c C).2 w) := by
 obtain ⟨hcode1, hcode2⟩ := hcode
 have hlen := hC.len
 refine en 24 Try.func54 rfl <| sg <| L0 <| Obx #[.pointer (some ⟨g, 0, none⟩), .pointer (some ⟨gm, 0, none⟩)] fun g10 w11 hg12 B13 hu14 => ng <| Pl 1 <| L0 <| Olb B13 0 <| ?_
 have r15 := CurAt.old hC hu14
 refine L0 <| Oc <| m3 (byte_any r15) fun w16 hc17 hu18 hr19 => Pl 1 <| ng <| Pl 1 <| ?_
 have ne20 := nb (CurAt.lt hC) lr hg12
 have r21 := ub1 hu18 (Ne.symm ne20) B13
 refine L0 <| Olb r21 0 <| Pl 3 <| cu 3 [10] 13 (((decide (1 ≤ C.byteV)) && (decide (C.byteV ≤ 250)))) (fun K K23 => ?_) ?_
 refine bl 10 ((decide (1 ≤ C.byteV))) (fun q22 => ?_) (fun q22 => ?_)
 have q22p := of_decide_eq_true q22
 exact Pl 3 <| ce K23 (decide (C.byteV ≤ 250)) (by rw [q22]; rfl)
 have q22p := of_decide_eq_false q22
 exact Pl 3 <| ce K23 false (by rw [q22]; rfl)
 refine L0 <| Oc <| m2 (need_any (((decide (1 ≤ C.byteV)) && (decide (C.byteV ≤ 250)))) 5 hc17) fun w24 hc25 hu26 => nt <| Rg 10 (fun w' => w'.cell? ⟨g10, 1, none⟩ = some (.pointer (some ⟨gm, 0, none⟩)) ∧ w'.cell? ⟨g10, 0, none⟩ = some (.pointer (some ⟨g, 0, none⟩))) fun w45 hu46 => ?_
 have U48 := ut0 hu26 hu46
 have r49 := ub1 U48 (Ne.symm ne20) r21
 refine hld ⟨(blk_at r49 rfl), (blk_at r49 rfl)⟩ fun hS47 => Rt 0 hS47 <| Rl 1 hS47 (fun _ hs => hs.1) <| Rt 2 hS47 <| Rl 3 hS47 (fun _ hs => hs.2) <| Rt 4 hS47 <| Rr 5 hS47 (.int .i64 C.byteV) (fun _ _ => run_eqo (.int .i64 (IntKind.i64.wrap C.byteV)) (by kernel_rfl) (congrArg (Value.int .i64) (i64_in (by omega)))) <| ?_
 have r50 := CurAt.old hc25 hu46
 refine R0 6 rfl <| Oc <| sr3 (bytes_any (n := C.byteV) r50) fun A57 cp58 w51 rd61 hl59 hm60 hc54 hu55 => ?_
 have hlb56 := Nat.le_trans (Cur.bytesR_le ((C.bytesC 1).need ((decide (1 ≤ C.byteV)) && (decide (C.byteV ≤ 250))) 5) C.byteV) (CurAt.len r50)
 have r63 := ub1 hu55 (Ne.symm ne20) r49
 refine hld ⟨(blk_at r63 rfl), (blk_at r63 rfl)⟩ fun hS62 => Rt 7 hS62 <| Rt 8 hS62 <| ?_
 have U64 := u1 (Upd.mono (S' := [g]) hu14 all0) hu18 im
 have U65 := u1 U64 hu26 im
 have U66 := ut0 U65 hu46
 have U67 := u1 U66 hu55 im
 have r68 := ub1 U67 (Ne.symm hne) hm
 refine R0 9 rfl <| Ost r68 14 (mG c 0 0 0 0 0 0 0 0 0 0 0 nS nS (.slice A57 ((((C.bytesC 1).need ((decide (1 ≤ C.byteV)) && (decide (C.byteV ≤ 250))) 5).bytesR C.byteV).length) cp58) nS 0 0 0 0 0 nS) fun w69 B70 hu71 => ?_
 have ne73 := nb (blk_lt hm) lr hg12
 have r74 := ub1 hu71 (Ne.symm ne73) r63
 refine hld ⟨(blk_at r74 rfl), (blk_at r74 rfl)⟩ fun hS72 => re <| rm (.tuple #[]) <| ?_
 have r75 := RdB.upd' rd61 hu71 (safe_cons (safe1 r68 (by decide)) safe0)
 have hs : ctoldR c C = ((((C.bytesC 1).need ((decide (1 ≤ C.byteV)) && (decide (C.byteV ≤ 250))) 5).bytesC C.byteV), (Msg.mk c 0 0 0 0 0 0 0 0 0 0 0 [] [] (((C.bytesC 1).need ((decide (1 ≤ C.byteV)) && (decide (C.byteV ≤ 250))) 5).bytesR C.byteV) [] 0 0 0 0 0 [])) := by
   unfold ctoldR toldC2
   (try simp only [bs, if_true, if_false, decide_true, decide_false, reduceIte])
   all_goals rfl
 rw [hs]
 have r76 := CurAt.upd hc54 hu71 (not_cons hne not0) (safe_cons (safe1 r68 (by decide)) safe0)
 have U77 := u1 (Upd.mono (S' := [g, gm]) U67 (ac im all0)) hu71 im
 exact ⟨rfl, r76, ⟨_, ⟨B70, rfl⟩, ⟨_, _, _, _, _, rfl, RdG.nil .., RdG.nil .., r75, RdG.nil .., RdG.nil .., ⟨(b8 (x := c) (by omega)), (b8 (x := 0) (by omega)), (b16 (x := 0) (by omega)), (b16 (x := 0) (by omega)), (b16 (x := 0) (by omega)), (b16 (x := 0) (by omega)), (b16 (x := 0) (by omega)), (b16 (x := 0) (by omega)), (b16 (x := 0) (by omega)), (b16 (x := 0) (by omega)), (b16 (x := 0) (by omega)), (b16 (x := 0) (by omega)), (b8 (x := 0) (by omega)), (b8 (x := 0) (by omega)), (b8 (x := 0) (by omega)), (b8 (x := 0) (by omega)), (b8 (x := 0) (by omega))⟩⟩⟩, U77⟩
set_option maxRecDepth 100000 in
set_option maxHeartbeats 4000000 in
theorem csets_any {g gm : Nat} {c : Int} {C : Cur} {w : World} (hcode : B8 c) (hC : CurAt w g C) (hm : w.heap[gm]? = some (.cells (mC c) 29 (0, 0))) (hne : g ≠ gm) :
    Calls Try.prog 55 #[.agg #[.pointer (some ⟨g, 0, none⟩), .pointer (some ⟨gm, 0, none⟩)]] w (PFormG g gm (csetsR c C).1 (csetsR c C).2 w) := by
 obtain ⟨hcode1, hcode2⟩ := hcode
 have hlen := hC.len
 refine en 33 Try.func55 rfl <| sg <| L0 <| Obx #[.pointer (some ⟨g, 0, none⟩), .pointer (some ⟨gm, 0, none⟩)] fun g10 w11 hg12 B13 hu14 => nt <| sq <| Rg 8 (fun w' => w'.cell? ⟨g10, 1, none⟩ = some (.pointer (some ⟨gm, 0, none⟩)) ∧ w'.cell? ⟨g10, 0, none⟩ = some (.pointer (some ⟨g, 0, none⟩))) fun w25 hu26 => ?_
 have r28 := ub hu26 B13
 refine hld ⟨(blk_at r28 rfl), (blk_at r28 rfl)⟩ fun hS27 => Rt 0 hS27 <| Rl 1 hS27 (fun _ hs => hs.1) <| Rt 2 hS27 <| Rl 3 hS27 (fun _ hs => hs.2) <| ?_
 have U29 := ut0 hu14 hu26
 have r30 := CurAt.old hC U29
 refine R0 4 rfl <| Oc <| m3 (word_any r30) fun w31 hc32 hu33 hr34 => ?_
 have ne36 := nb (CurAt.lt hC) lr hg12
 have r37 := ub1 hu33 (Ne.symm ne36) r28
 refine hld ⟨(blk_at r37 rfl), (blk_at r37 rfl)⟩ fun hS35 => Rt 5 hS35 <| Rt 6 hS35 <| ?_
 have U38 := u1 (Upd.mono (S' := [g]) U29 all0) hu33 im
 have r39 := ub1 U38 (Ne.symm hne) hm
 refine R0 7 rfl <| Ost r39 2 (mG c 0 C.wordV 0 0 0 0 0 0 0 0 0 nS nS nS nS 0 0 0 0 0 nS) fun w40 B41 hu42 => ?_
 have ne44 := nb (blk_lt hm) lr hg12
 have r45 := ub1 hu42 (Ne.symm ne44) r37
 refine hld ⟨(blk_at r45 rfl), (blk_at r45 rfl)⟩ fun hS43 => re <| tn <| sq <| Rg 8 (fun w' => w'.cell? ⟨g10, 1, none⟩ = some (.pointer (some ⟨gm, 0, none⟩)) ∧ w'.cell? ⟨g10, 0, none⟩ = some (.pointer (some ⟨g, 0, none⟩))) fun w55 hu56 => ?_
 have r58 := ub hu56 r45
 refine hld ⟨(blk_at r58 rfl), (blk_at r58 rfl)⟩ fun hS57 => Rt 0 hS57 <| Rl 1 hS57 (fun _ hs => hs.1) <| Rt 2 hS57 <| Rl 3 hS57 (fun _ hs => hs.2) <| ?_
 have U59 := ut0 hu42 hu56
 have r60 := CurAt.upd hc32 U59 (not_cons hne not0) (safe_cons (safe1 r39 (by decide)) safe0)
 refine R0 4 rfl <| Oc <| m3 (word_any r60) fun w61 hc62 hu63 hr64 => ?_
 have r66 := ub1 hu63 (Ne.symm ne36) r58
 refine hld ⟨(blk_at r66 rfl), (blk_at r66 rfl)⟩ fun hS65 => Rt 5 hS65 <| Rt 6 hS65 <| ?_
 have U67 := u1 (Upd.mono (S' := [g]) hu56 all0) hu63 im
 have r68 := ub1 U67 (Ne.symm hne) B41
 refine R0 7 rfl <| Ost r68 4 (mG c 0 C.wordV 0 ((C.wordsC 1).wordV) 0 0 0 0 0 0 0 nS nS nS nS 0 0 0 0 0 nS) fun w69 B70 hu71 => ?_
 have r73 := ub1 hu71 (Ne.symm ne44) r66
 refine hld ⟨(blk_at r73 rfl), (blk_at r73 rfl)⟩ fun hS72 => re <| tn <| Rg 17 (fun w' => w'.cell? ⟨g10, 0, none⟩ = some (.pointer (some ⟨g, 0, none⟩)) ∧ w'.cell? ⟨g10, 1, none⟩ = some (.pointer (some ⟨gm, 0, none⟩)) ∧ w'.cell? ⟨gm, 4, none⟩ = some (.int .u16 ((C.wordsC 1).wordV))) fun w87 hu88 => ?_
 have r90 := ub hu88 r73
 have r91 := ub hu88 B70
 refine hld ⟨(blk_at r90 rfl), (blk_at r90 rfl), (blk_at r91 rfl)⟩ fun hS89 => Rt 0 hS89 <| Rl 1 hS89 (fun _ hs => hs.1) <| Rt 2 hS89 <| Rl 3 hS89 (fun _ hs => hs.2.1) <| Rt 4 hS89 <| Rt 5 hS89 <| Rl 6 hS89 (fun _ hs => hs.2.2) <| Rt 7 hS89 <| Rt 8 hS89 <| ?_
 have U92 := u1 (Upd.mono (S' := [g, gm]) U38 (ac im all0)) hu42 im
 have U93 := ut0 U92 hu56
 have U94 := u1 U93 hu63 im
 have U95 := u1 U94 hu71 im
 have U96 := ut0 U95 hu88
 refine bla 24 ((((C.wordsC 1).wordV) == 0)) (fun q97 => ?_) (fun q97 => ?_)
 have q97p := eq_of_beqi q97
 refine Ro 9 hS89 <| Ro 10 hS89 <| Ro 11 hS89 <| Ro 12 hS89 <| Ro 13 hS89 <| Ro 14 hS89 <| Rt 15 hS89 <| ?_
 have U98 := ut0 hu71 hu88
 have r99 := CurAt.upd hc62 U98 (not_cons hne not0) (safe_cons (safe1 r68 (by decide)) safe0)
 refine R0 16 rfl <| Oc <| m2 (need_any (true) 6 r99) fun w100 hc101 hu102 => ?_
 have r104 := ub1 hu102 (Ne.symm ne36) r90
 have r105 := ub1 hu102 (Ne.symm hne) r91
 refine hld ⟨(blk_at r104 rfl), (blk_at r104 rfl), (blk_at r105 rfl)⟩ fun hS103 => re <| rm (.tuple #[]) <| ?_
 have hs : csetsR c C = ((((C.wordsC 1).wordsC 1).need true 6), (Msg.mk c 0 C.wordV 0 ((C.wordsC 1).wordV) 0 0 0 0 0 0 0 [] [] [] [] 0 0 0 0 0 [])) := by
   unfold csetsR setsC
   (try simp only [q97, bs, if_true, if_false, decide_true, decide_false, reduceIte])
   all_goals rfl
 rw [hs]
 have U106 := u1 U96 hu102 im
 exact ⟨rfl, hc101, ⟨_, ⟨r105, rfl⟩, ⟨_, _, _, _, _, rfl, RdG.nil .., RdG.nil .., RdG.nil .., RdG.nil .., RdG.nil .., ⟨(b8 (x := c) (by omega)), (b8 (x := 0) (by omega)), (b16 (x := C.wordV) (by omega)), (b16 (x := 0) (by omega)), (b16 (x := (C.wordsC 1).wordV) (by omega)), (b16 (x := 0) (by omega)), (b16 (x := 0) (by omega)), (b16 (x := 0) (by omega)), (b16 (x := 0) (by omega)), (b16 (x := 0) (by omega)), (b16 (x := 0) (by omega)), (b16 (x := 0) (by omega)), (b8 (x := 0) (by omega)), (b8 (x := 0) (by omega)), (b8 (x := 0) (by omega)), (b8 (x := 0) (by omega)), (b8 (x := 0) (by omega))⟩⟩⟩, U106⟩
 have q97p := ne_of_beqi q97
 refine Rt 9 hS89 <| Rl 10 hS89 (fun _ hs => hs.2.1) <| Rt 11 hS89 <| Rt 12 hS89 <| Rl 13 hS89 (fun _ hs => hs.2.2) <| Rt 14 hS89 <| Rt 15 hS89 <| ?_
 have U107 := ut0 hu71 hu88
 have r108 := CurAt.upd hc62 U107 (not_cons hne not0) (safe_cons (safe1 r68 (by decide)) safe0)
 refine R0 16 rfl <| Oc <| m2 (need_any ((((C.wordsC 1).wordV) == 65280)) 6 r108) fun w109 hc110 hu111 => ?_
 have r113 := ub1 hu111 (Ne.symm ne36) r90
 have r114 := ub1 hu111 (Ne.symm hne) r91
 refine hld ⟨(blk_at r113 rfl), (blk_at r113 rfl), (blk_at r114 rfl)⟩ fun hS112 => re <| rm (.tuple #[]) <| ?_
 have hs : csetsR c C = ((((C.wordsC 1).wordsC 1).need (((C.wordsC 1).wordV) == 65280) 6), (Msg.mk c 0 C.wordV 0 ((C.wordsC 1).wordV) 0 0 0 0 0 0 0 [] [] [] [] 0 0 0 0 0 [])) := by
   unfold csetsR setsC
   (try simp only [q97, bs, if_true, if_false, decide_true, decide_false, reduceIte])
   all_goals rfl
 rw [hs]
 have U115 := u1 U96 hu111 im
 exact ⟨rfl, hc110, ⟨_, ⟨r114, rfl⟩, ⟨_, _, _, _, _, rfl, RdG.nil .., RdG.nil .., RdG.nil .., RdG.nil .., RdG.nil .., ⟨(b8 (x := c) (by omega)), (b8 (x := 0) (by omega)), (b16 (x := C.wordV) (by omega)), (b16 (x := 0) (by omega)), (b16 (x := (C.wordsC 1).wordV) (by omega)), (b16 (x := 0) (by omega)), (b16 (x := 0) (by omega)), (b16 (x := 0) (by omega)), (b16 (x := 0) (by omega)), (b16 (x := 0) (by omega)), (b16 (x := 0) (by omega)), (b16 (x := 0) (by omega)), (b8 (x := 0) (by omega)), (b8 (x := 0) (by omega)), (b8 (x := 0) (by omega)), (b8 (x := 0) (by omega)), (b8 (x := 0) (by omega))⟩⟩⟩, U115⟩
set_option maxRecDepth 100000 in
set_option maxHeartbeats 4000000 in
theorem done_any {g gm : Nat} {c : Int} {C : Cur} {w : World} (hcode : B8 c) (hC : CurAt w g C) (hm : w.heap[gm]? = some (.cells (mC c) 29 (0, 0))) (hne : g ≠ gm) :
    Calls Try.prog 57 #[.agg #[.pointer (some ⟨g, 0, none⟩), .pointer (some ⟨gm, 0, none⟩)]] w (PFormG g gm (asksR 1968 c C).1 (asksR 1968 c C).2 w) := by
 obtain ⟨hcode1, hcode2⟩ := hcode
 have hlen := hC.len
 refine en 4 Try.func57 rfl <| sg <| L0 <| Obx #[.pointer (some ⟨g, 0, none⟩), .pointer (some ⟨gm, 0, none⟩)] fun g10 w11 hg12 B13 hu14 => nt <| go <| L0 <| Olw B13 <| ?_
 have r15 := CurAt.old hC hu14
 have r16 := ub hu14 hm
 refine L0 <| Oc <| m3 (span_any (most := 1968) ⟨hcode1, hcode2⟩ r15 r16 hne) fun w17 hc18 B19 hu20 => ?_
 have hr21 := (r15).wordV
 have hr22 := wordV_rng (wordsC_rng (r15).rng 1)
 refine nl <| rm (.tuple #[]) <| ?_
 have hs : asksR 1968 c C = ((spanC C 1968), (Msg.mk c 0 C.wordV ((C.wordsC 1).wordV) 0 0 0 0 0 0 0 0 [] [] [] [] 0 0 0 0 0 [])) := by
   unfold asksR
   (try simp only [bs, if_true, if_false, decide_true, decide_false, reduceIte])
   all_goals rfl
 rw [hs]
 have U23 := ut (Upd.mono (S' := [g, gm]) hu14 all0) hu20 (ac im (ac im all0))
 exact ⟨rfl, hc18, ⟨_, ⟨B19, rfl⟩, ⟨_, _, _, _, _, rfl, RdG.nil .., RdG.nil .., RdG.nil .., RdG.nil .., RdG.nil .., ⟨(b8 (x := c) (by omega)), (b8 (x := 0) (by omega)), (b16 (x := C.wordV) (by omega)), (b16 (x := (C.wordsC 1).wordV) (by omega)), (b16 (x := 0) (by omega)), (b16 (x := 0) (by omega)), (b16 (x := 0) (by omega)), (b16 (x := 0) (by omega)), (b16 (x := 0) (by omega)), (b16 (x := 0) (by omega)), (b16 (x := 0) (by omega)), (b16 (x := 0) (by omega)), (b8 (x := 0) (by omega)), (b8 (x := 0) (by omega)), (b8 (x := 0) (by omega)), (b8 (x := 0) (by omega)), (b8 (x := 0) (by omega))⟩⟩⟩, U23⟩
set_option maxRecDepth 100000 in
set_option maxHeartbeats 4000000 in
theorem doneC_any {g gm : Nat} {c : Int} {C : Cur} {w : World} (hcode : B8 c) (hC : CurAt w g C) (hm : w.heap[gm]? = some (.cells (mC c) 29 (0, 0))) (hne : g ≠ gm) :
    Calls Try.prog 57 #[.agg #[.pointer (some ⟨g, 0, none⟩), .pointer (some ⟨gm, 0, none⟩)]] w (PCells g gm (spanC C 1968) (mG c 0 C.wordV (C.wordsC 1).wordV 0 0 0 0 0 0 0 0 nS nS nS nS 0 0 0 0 0 nS) w) := by
 obtain ⟨hcode1, hcode2⟩ := hcode
 have hlen := hC.len
 refine en 4 Try.func57 rfl <| sg <| L0 <| Obx #[.pointer (some ⟨g, 0, none⟩), .pointer (some ⟨gm, 0, none⟩)] fun g10 w11 hg12 B13 hu14 => nt <| go <| L0 <| Olw B13 <| ?_
 have r15 := CurAt.old hC hu14
 have r16 := ub hu14 hm
 refine L0 <| Oc <| m3 (span_any (most := 1968) ⟨hcode1, hcode2⟩ r15 r16 hne) fun w17 hc18 B19 hu20 => ?_
 have hr21 := (r15).wordV
 have hr22 := wordV_rng (wordsC_rng (r15).rng 1)
 refine nl <| rm (.tuple #[]) <| ?_
 have hs : spanC C 1968 = (spanC C 1968) := by
   unfold spanC spanC1
   (try simp only [bs, if_true, if_false, decide_true, decide_false, reduceIte])
   all_goals rfl
 rw [hs]
 have U23 := ut (Upd.mono (S' := [g, gm]) hu14 all0) hu20 (ac im (ac im all0))
 exact ⟨rfl, hc18, B19, U23⟩
set_option maxRecDepth 100000 in
set_option maxHeartbeats 4000000 in
theorem csm_any {g gm : Nat} {c : Int} {C : Cur} {w : World} (hcode : B8 c) (hC : CurAt w g C) (hm : w.heap[gm]? = some (.cells (mC c) 29 (0, 0))) (hne : g ≠ gm) :
    Calls Try.prog 56 #[.agg #[.pointer (some ⟨g, 0, none⟩), .pointer (some ⟨gm, 0, none⟩)]] w (PFormG g gm (csmR c C).1 (csmR c C).2 w) := by
 obtain ⟨hcode1, hcode2⟩ := hcode
 have hlen := hC.len
 refine en 46 Try.func56 rfl <| sg <| L0 <| Obx #[.pointer (some ⟨g, 0, none⟩), .pointer (some ⟨gm, 0, none⟩)] fun g10 w11 hg12 B13 hu14 => ng <| L0 <| Olw B13 <| ?_
 have r15 := CurAt.old hC hu14
 have r16 := ub hu14 hm
 refine L0 <| Oc <| m3 (doneC_any ⟨hcode1, hcode2⟩ r15 r16 hne) fun w17 hc18 B19 hu20 => ?_
 have hr21 := (r15).wordV
 have hr22 := wordV_rng (wordsC_rng (r15).rng 1)
 refine ng <| Pl 1 <| ?_
 have ne23 := nb (blk_lt hm) lr hg12
 have ne24 := nb (CurAt.lt hC) lr hg12
 have r25 := Upd.blk hu20 (not_cons (Ne.symm ne24) (not_cons (Ne.symm ne23) not0)) B13
 refine L0 <| Olb r25 0 <| L0 <| Oc <| m3 (byte_any hc18) fun w26 hc27 hu28 hr29 => L0 <| Oi ((spanC C 1968).byteV) <| Pl 1 <| nt <| sq <| Rg 12 (fun w' => w'.cell? ⟨g10, 0, none⟩ = some (.pointer (some ⟨g, 0, none⟩)) ∧ w'.cell? ⟨g10, 1, none⟩ = some (.pointer (some ⟨gm, 0, none⟩)) ∧ w'.cell? ⟨gm, 3, none⟩ = some (.int .u16 ((C.wordsC 1).wordV))) fun w33 hu34 => ?_
 have U36 := ut0 hu28 hu34
 have r37 := ub1 U36 (Ne.symm ne24) r25
 have r38 := ub1 U36 (Ne.symm hne) B19
 refine hld ⟨(blk_at r37 rfl), (blk_at r37 rfl), (blk_at r38 rfl)⟩ fun hS35 => Rt 0 hS35 <| Rl 1 hS35 (fun _ hs => hs.1) <| Rt 2 hS35 <| Rt 3 hS35 <| Rl 4 hS35 (fun _ hs => hs.2.1) <| Rt 5 hS35 <| Rt 6 hS35 <| Rl 7 hS35 (fun _ hs => hs.2.2) <| Rr 8 hS35 (.int .i64 ((C.wordsC 1).wordV)) (fun _ _ => run_eqo (.int .i64 (IntKind.i64.wrap ((C.wordsC 1).wordV))) (by kernel_rfl) (congrArg (Value.int .i64) (i64_in (by omega)))) <| R0 9 rfl <| Oc <| mq (many_any (n := (C.wordsC 1).wordV) (by omega)) <| hld ⟨(blk_at r37 rfl), (blk_at r37 rfl), (blk_at r38 rfl)⟩ fun hS39 => Rt 10 hS39 <| ?_
 have r40 := CurAt.old hc27 hu34
 refine R0 11 rfl <| Oc <| m2 (need_any ((((spanC C 1968).byteV) == (many ((C.wordsC 1).wordV)))) 5 r40) fun w41 hc42 hu43 => ?_
 have r45 := ub1 hu43 (Ne.symm ne24) r37
 have r46 := ub1 hu43 (Ne.symm hne) r38
 refine hld ⟨(blk_at r45 rfl), (blk_at r45 rfl), (blk_at r46 rfl)⟩ fun hS44 => re <| tn <| sq <| Rg 16 (fun w' => w'.cell? ⟨g10, 0, none⟩ = some (.pointer (some ⟨g, 0, none⟩)) ∧ w'.cell? ⟨g10, 1, none⟩ = some (.pointer (some ⟨gm, 0, none⟩)) ∧ w'.cell? ⟨gm, 3, none⟩ = some (.int .u16 ((C.wordsC 1).wordV))) fun w67 hu68 => ?_
 have r70 := ub hu68 r45
 have r71 := ub hu68 r46
 refine hld ⟨(blk_at r70 rfl), (blk_at r70 rfl), (blk_at r71 rfl)⟩ fun hS69 => Rt 0 hS69 <| Rl 1 hS69 (fun _ hs => hs.1) <| Rt 2 hS69 <| Rt 4 hS69 <| Rl 5 hS69 (fun _ hs => hs.2.1) <| Rt 6 hS69 <| Rt 7 hS69 <| Rl 8 hS69 (fun _ hs => hs.2.2) <| Rr 9 hS69 (.int .i64 ((C.wordsC 1).wordV)) (fun _ _ => run_eqo (.int .i64 (IntKind.i64.wrap ((C.wordsC 1).wordV))) (by kernel_rfl) (congrArg (Value.int .i64) (i64_in (by omega)))) <| ?_
 have r72 := CurAt.old hc42 hu68
 refine R0 3 rfl <| Oc <| sr3 (bytes_any (n := (spanC C 1968).byteV) r72) fun A79 cp80 w73 rd83 hl81 hm82 hc76 hu77 => ?_
 have hlb78 := Nat.le_trans (Cur.bytesR_le (((spanC C 1968).bytesC 1).need (((spanC C 1968).byteV) == (many ((C.wordsC 1).wordV))) 5) ((spanC C 1968).byteV)) (CurAt.len r72)
 have r85 := ub1 hu77 (Ne.symm ne24) r70
 have r86 := ub1 hu77 (Ne.symm hne) r71
 refine hld ⟨(blk_at r85 rfl), (blk_at r85 rfl), (blk_at r86 rfl)⟩ fun hS84 => R0 10 rfl <| Oc (args := #[.slice A79 (((((spanC C 1968).bytesC 1).need (((spanC C 1968).byteV) == (many ((C.wordsC 1).wordV))) 5).bytesR ((spanC C 1968).byteV)).length) cp80, .int .i64 ((C.wordsC 1).wordV)]) <| so2 (unpack_any rd83 (by omega) (by omega) (by omega)) fun A91 cp92 w87 rd95 hl93 hm94 hu90 => ?_
 have r97 := ub hu90 r85
 have r98 := ub hu90 r86
 refine hld ⟨(blk_at r97 rfl), (blk_at r97 rfl), (blk_at r98 rfl)⟩ fun hS96 => Rt 11 hS96 <| Rt 12 hS96 <| Rt 13 hS96 <| Rt 14 hS96 <| Rt 15 hS96 <| re <| tn <| sg <| Pl 1 <| L0 <| Olb r97 0 <| Pl 1 <| ?_
 have r99 := CurAt.old hc76 hu90
 refine L0 <| Oc <| m2 (need_any ((unpackB ((((spanC C 1968).bytesC 1).need (((spanC C 1968).byteV) == (many ((C.wordsC 1).wordV))) 5).bytesR ((spanC C 1968).byteV)) ((C.wordsC 1).wordV)).isSome) 6 r99) fun w100 hc101 hu102 => nt <| go <| Pl 1 <| ?_
 have r103 := ub1 hu102 (Ne.symm ne24) r97
 refine L0 <| Olb r103 1 <| Pl 3 <| ?_
 have r104 := ub1 hu102 (Ne.symm hne) r98
 refine L0 <| Ost r104 13 (mG c 0 C.wordV ((C.wordsC 1).wordV) 0 0 0 0 0 0 0 0 nS (.slice A91 (((unpackB ((((spanC C 1968).bytesC 1).need (((spanC C 1968).byteV) == (many ((C.wordsC 1).wordV))) 5).bytesR ((spanC C 1968).byteV)) ((C.wordsC 1).wordV)).getD []).length) cp92) nS nS 0 0 0 0 0 nS) fun w105 B106 hu107 => nl <| rm (.tuple #[]) <| ?_
 have U108 := u1 (Upd.mono (S' := [g, gm]) hu102 (ac im all0)) hu107 im
 have r109 := own_stay rd95 U108 (fun x hx => (not_cons (fun e => (not_old (CurAt.lt hC) (le (le (le (le (le (le hu14.size hu20.size) hu28.size) hu34.size) hu43.size) hu68.size) hu77.size) rd95) (e ▸ hx)) (not_cons (fun e => (not_old (blk_lt hm) (le (le (le (le (le (le hu14.size hu20.size) hu28.size) hu34.size) hu43.size) hu68.size) hu77.size) rd95) (e ▸ hx)) not0))) (fun _ _ h => h)
 have hs : csmR c C = ((((((spanC C 1968).bytesC 1).need (((spanC C 1968).byteV) == (many ((C.wordsC 1).wordV))) 5).bytesC ((spanC C 1968).byteV)).need ((unpackB ((((spanC C 1968).bytesC 1).need (((spanC C 1968).byteV) == (many ((C.wordsC 1).wordV))) 5).bytesR ((spanC C 1968).byteV)) ((C.wordsC 1).wordV)).isSome) 6), (Msg.mk c 0 C.wordV ((C.wordsC 1).wordV) 0 0 0 0 0 0 0 0 [] ((unpackB ((((spanC C 1968).bytesC 1).need (((spanC C 1968).byteV) == (many ((C.wordsC 1).wordV))) 5).bytesR ((spanC C 1968).byteV)) ((C.wordsC 1).wordV)).getD []) [] [] 0 0 0 0 0 [])) := by
   unfold csmR smC smU smC2 smK smN
   (try simp only [bs, if_true, if_false, decide_true, decide_false, reduceIte])
   all_goals rfl
 rw [hs]
 have r110 := CurAt.upd hc101 hu107 (not_cons hne not0) (safe_cons (safe1 r104 (by decide)) safe0)
 have U111 := ut (Upd.mono (S' := [g, gm]) hu14 all0) hu20 (ac im (ac im all0))
 have U112 := u1 U111 hu28 im
 have U113 := ut0 U112 hu34
 have U114 := u1 U113 hu43 im
 have U115 := ut0 U114 hu68
 have U116 := u1 U115 hu77 im
 have U117 := ut0 U116 hu90
 have U118 := u1 U117 hu102 im
 have U119 := u1 U118 hu107 im
 exact ⟨rfl, r110, ⟨_, ⟨B106, rfl⟩, ⟨_, _, _, _, _, rfl, RdG.nil .., (r109).rd, RdG.nil .., RdG.nil .., RdG.nil .., ⟨(b8 (x := c) (by omega)), (b8 (x := 0) (by omega)), (b16 (x := C.wordV) (by omega)), (b16 (x := (C.wordsC 1).wordV) (by omega)), (b16 (x := 0) (by omega)), (b16 (x := 0) (by omega)), (b16 (x := 0) (by omega)), (b16 (x := 0) (by omega)), (b16 (x := 0) (by omega)), (b16 (x := 0) (by omega)), (b16 (x := 0) (by omega)), (b16 (x := 0) (by omega)), (b8 (x := 0) (by omega)), (b8 (x := 0) (by omega)), (b8 (x := 0) (by omega)), (b8 (x := 0) (by omega)), (b8 (x := 0) (by omega))⟩⟩⟩, U119⟩
open Go.RowKit
theorem cdich (c : Int) : c = 1 ∨ c = 2 ∨ c = 5 ∨ c = 15 ∨ (c ≠ 1 ∧ c ≠ 2 ∧ c ≠ 5 ∧ c ≠ 15) := by omega
set_option maxRecDepth 100000 in
set_option maxHeartbeats 4000000 in
theorem coils_parse_0 {m : Bool} {A : Option Addr} {cp : Nat} {b : List Int} {w : World} {c : Int} (hcode : B8 c) (hsl : RdB m w (.slice A b.length cp) b) (hb : b.length ≤ 1048576) :
    Calls Try.prog 37 #[.int .i64 0, .int .u8 c, .slice A b.length cp] w (PMsg (parseOf coilsForm 0 c b) w) := by
 obtain ⟨hcode1, hcode2⟩ := hcode
 have hln : (b.length : Int) ≤ 1048576 := by omega
 refine en 72 Try.func37 rfl <| sg <| L0 <| Oal mZ fun g10 w11 hg12 B13 hu14 => Pl 1 <| nt <| sq <| sg <| Pl 6 <| nt <| c0 <| ?_
 refine skn <| sg <| Pl 2 <| L0 <| Oal mZ fun g15 w16 hg17 B18 hu19 => L0 <| Osw B18 (mC c) fun w20 B21 hu22 => ng <| Pl 1 <| ?_
 have U23 := ut0 hu14 hu19
 have U24 := u1 U23 hu22 (ni hu14.size hg17)
 have r25 := RdB.old hsl U24
 refine L0 <| Oc <| e3 (new_any r25 (by omega)) fun g27 w26 hg28 hc29 hu30 => Pl 1 <| L0 <| Oal #[.pointer none, .pointer none] fun g31 w32 hg33 B34 hu35 => L0 <| Osw B34 #[.pointer (some ⟨g27, 0, none⟩), .pointer (some ⟨g15, 0, none⟩)] fun w36 B37 hu38 => ng <| L0 <| Omk fun g39 w40 hg41 B42 hu43 => ?_
 have r44 := ub hu43 B37
 refine L0 <| Olw r44 <| Pl 1 <| L0 <| Olw r44 <| Pl 2 <| L0 <| Oin B42 1 fun w45 B46 hu47 => ?_
 have ne48 := nb (blk_lt B34) hu38.size hg41
 have r49 := ub1 hu47 ne48 r44
 refine L0 <| Olw r49 <| Pl 1 <| L0 <| Olw r49 <| Pl 2 <| L0 <| Oin B46 2 fun w50 B51 hu52 => ?_
 have r53 := ub1 hu52 ne48 r49
 refine L0 <| Olw r53 <| Pl 1 <| L0 <| Olw r53 <| Pl 2 <| L0 <| Oin B51 5 fun w54 B55 hu56 => ?_
 have r57 := ub1 hu56 ne48 r53
 refine L0 <| Olw r57 <| Pl 1 <| L0 <| Olw r57 <| Pl 2 <| L0 <| Oin B55 15 fun w58 B59 hu60 => Pl 2 <| ng <| Pl 2 <| ?_
 have U61 := ut0 U24 hu30
 have U62 := ut0 U61 hu35
 have U63 := u1 U62 hu38 (ni U61.size hg33)
 have U64 := ut0 U63 hu43
 have U65 := u1 U64 hu47 (ni U63.size hg41)
 have U66 := u1 U65 hu52 (ni U63.size hg41)
 have U67 := u1 U66 hu56 (ni U63.size hg41)
 have U68 := u1 U67 hu60 (ni U63.size hg41)
 rcases cdich c with hk | hk | hk | hk | hk
 have k1 : (c == 1) = true := by rw [hk]; rfl
 have k2 : (c == 2) = false := by rw [hk]; rfl
 have k5 : (c == 5) = false := by rw [hk]; rfl
 have k15 : (c == 15) = false := by rw [hk]; rfl
 refine L0 <| Olk (hf := (by subst hk; kernel_rfl)) B59 c (.agg #[.nilFunc, .nilFunc]) (some (0, .agg #[.func (.func 53) #[.agg #[.pointer (some ⟨g27, 0, none⟩), .pointer (some ⟨g15, 0, none⟩)]] #[], .func (.func 54) #[.agg #[.pointer (some ⟨g27, 0, none⟩), .pointer (some ⟨g15, 0, none⟩)]] #[]])) <| Pl 3 <| L0 <| Oal #[.nilFunc, .nilFunc] fun g69 w70 hg71 B72 hu73 => L0 <| Osw B72 #[.func (.func 53) #[.agg #[.pointer (some ⟨g27, 0, none⟩), .pointer (some ⟨g15, 0, none⟩)]] #[], .func (.func 54) #[.agg #[.pointer (some ⟨g27, 0, none⟩), .pointer (some ⟨g15, 0, none⟩)]] #[]] fun w74 B75 hu76 => Pl 1 <| nt <| sq <| sg <| Pl 2 <| nt <| c0 <| ?_
 refine skn <| sg <| Pl 2 <| L0 <| Olb B75 0 <| ?_
 have U77 := u1 hu35 hu38 (nr hg33)
 have U78 := ut0 U77 hu43
 have U79 := u1 U78 hu47 (ni U77.size hg41)
 have U80 := u1 U79 hu52 (ni U77.size hg41)
 have U81 := u1 U80 hu56 (ni U77.size hg41)
 have U82 := u1 U81 hu60 (ni U77.size hg41)
 have U83 := ut0 U82 hu73
 have U84 := u1 U83 hu76 (ni U82.size hg71)
 have r85 := CurAt.old hc29 U84
 have U86 := ut0 hu30 hu35
 have U87 := u1 U86 hu38 (ni hu30.size hg33)
 have U88 := ut0 U87 hu43
 have U89 := u1 U88 hu47 (ni U87.size hg41)
 have U90 := u1 U89 hu52 (ni U87.size hg41)
 have U91 := u1 U90 hu56 (ni U87.size hg41)
 have U92 := u1 U91 hu60 (ni U87.size hg41)
 have U93 := ut0 U92 hu73
 have U94 := u1 U93 hu76 (ni U92.size hg71)
 have r95 := ub U94 B21
 have ne102 := nb (blk_lt B18) hu22.size hg28
 refine L0 <| Ocv #[.agg #[.pointer (some ⟨g27, 0, none⟩), .pointer (some ⟨g15, 0, none⟩)]] #[] (args := #[.agg #[.pointer (some ⟨g27, 0, none⟩), .pointer (some ⟨g15, 0, none⟩)]]) <| m3 (asksRead_any (c := c) ⟨hcode1, hcode2⟩ r85 r95 (Ne.symm ne102)) fun w96 hc97 hx106 hu101 => ?_
 obtain ⟨cs98, hm99, hM100⟩ := hx106
 refine ab hc97 fun x103 ex104 hc105 => ?_
 refine ng <| Pl 1 <| ?_
 have U107 := ut0 hu60 hu73
 have U108 := u1 U107 hu76 (ni hu60.size hg71)
 have U109 := ut (Upd.mono (S' := [g39, g27, g15]) U108 (ac im all0)) hu101 (ac im (ac im all0))
 have ne110 := nb (blk_lt B18) (le hu22.size hu30.size) hg33
 have ne111 := nb (CurAt.lt hc29) lr hg33
 have r112 := Upd.blk U109 (not_cons ne48 (not_cons (Ne.symm ne111) (not_cons (Ne.symm ne110) not0))) r57
 refine L0 <| Olb r112 0 <| L0 <| Oc <| m2 (end_any hc105) fun w113 hc114 hu115 => nt <| sq <| sg <| Pl 1 <| ?_
 have r116 := ub1 hu115 (Ne.symm ne111) r112
 refine L0 <| Olb r116 0 <| L0 <| Oc <| mq (err_any hc114) <| ?_
 have hl117 := CurAt.len hc114
 refine Pl 1 <| ng <| Pl 2 <| nt <| ?_
 have U118 := ut0 U68 hu73
 have U119 := u1 U118 hu76 (ni U68.size hg71)
 have U120 := ut U119 hu101 (ac (ni U24.size hg28) (ac (ni hu14.size hg17) all0))
 have U121 := u1 U120 hu115 (ni U24.size hg28)
 refine cb ((x103.endC.e != 0)) (fun q122 => ?_) (fun q122 => ?_)
 have q122p := ne_of_bnei q122
 refine sg <| Pl 2 <| ?_
 have U123 := u1 hu19 hu22 (nr hg17)
 have U124 := ut0 U123 hu30
 have U125 := ut0 U124 hu35
 have U126 := u1 U125 hu38 (ni U124.size hg33)
 have U127 := ut0 U126 hu43
 have U128 := u1 U127 hu47 (ni U126.size hg41)
 have U129 := u1 U128 hu52 (ni U126.size hg41)
 have U130 := u1 U129 hu56 (ni U126.size hg41)
 have U131 := u1 U130 hu60 (ni U126.size hg41)
 have U132 := ut0 U131 hu73
 have U133 := u1 U132 hu76 (ni U131.size hg71)
 have U134 := ut U133 hu101 (ac (ni U123.size hg28) (ac (nr hg17) all0))
 have U135 := u1 U134 hu115 (ni U123.size hg28)
 have r136 := ub U135 B13
 refine L0 <| Osw r136 mZ fun w137 B138 hu139 => Pl 1 <| nt <| rt <| tr <| rct B138 (.int .i64 x103.endC.e) <| ?_
 subst ex104
 have U140 := u1 U121 hu139 (nr hg12)
 have hs : parseOf coilsForm 0 c b = finish ((asksR 2000 c (Cur.mk b false 0)).2) ((asksR 2000 c (Cur.mk b false 0)).1) := by
   unfold parseOf coilsForm 
   (try simp only [q122, bs, if_true, if_false, decide_true, decide_false, eq_self, true_or, or_true, or_false, false_or, if_true, if_false, i00, i01, i10, i11, reduceIte, k1, k2, k5, k15])
   all_goals rfl
 rw [hs]
 exact finish_bad q122p U140
 have q122p := eq_of_bnei q122
 refine skn <| sg <| ?_
 have r141 := ub1 hu115 ne102 hm99.1
 refine L0 <| Olw (hz := (by rw [hm99.2]; exact msg_size)) r141 <| ?_
 have U142 := u1 hu19 hu22 (nr hg17)
 have U143 := ut0 U142 hu30
 have U144 := ut0 U143 hu35
 have U145 := u1 U144 hu38 (ni U143.size hg33)
 have U146 := ut0 U145 hu43
 have U147 := u1 U146 hu47 (ni U145.size hg41)
 have U148 := u1 U147 hu52 (ni U145.size hg41)
 have U149 := u1 U148 hu56 (ni U145.size hg41)
 have U150 := u1 U149 hu60 (ni U145.size hg41)
 have U151 := ut0 U150 hu73
 have U152 := u1 U151 hu76 (ni U150.size hg71)
 have U153 := ut U152 hu101 (ac (ni U142.size hg28) (ac (nr hg17) all0))
 have U154 := u1 U153 hu115 (ni U142.size hg28)
 have r155 := ub U154 B13
 refine L0 <| Osw (hz := (by rw [hm99.2]; exact msg_size)) (hv := hM100.size) (h1 := hM100.one) r155 (cs98) fun w156 B157 hu158 => Pl 1 <| nt <| rt <| rctx 22 hm99.2 B157 (.int .i64 0) <| ?_
 subst ex104
 have U159 := u1 U121 hu158 (nr hg12)
 have hs : parseOf coilsForm 0 c b = finish ((asksR 2000 c (Cur.mk b false 0)).2) ((asksR 2000 c (Cur.mk b false 0)).1) := by
   unfold parseOf coilsForm 
   (try simp only [q122, bs, if_true, if_false, decide_true, decide_false, eq_self, true_or, or_true, or_false, false_or, if_true, if_false, i00, i01, i10, i11, reduceIte, k1, k2, k5, k15])
   all_goals rfl
 rw [hs]
 have U160 := u1 (Upd.mono (S' := [g27, g10]) hu115 (ac im all0)) hu158 im
 have r161 := ub U153 B13
 have r162 := MsgRd.upd hM100 U160 (safe_cons (CurAt.safe hc105 _ (by decide)) (safe_cons (safe1 r161 (by decide)) safe0))
 exact finish_ok q122p r162 U159
 have k1 : (c == 1) = false := by rw [hk]; rfl
 have k2 : (c == 2) = true := by rw [hk]; rfl
 have k5 : (c == 5) = false := by rw [hk]; rfl
 have k15 : (c == 15) = false := by rw [hk]; rfl
 refine L0 <| Olk (hf := (by subst hk; kernel_rfl)) B59 c (.agg #[.nilFunc, .nilFunc]) (some (1, .agg #[.func (.func 53) #[.agg #[.pointer (some ⟨g27, 0, none⟩), .pointer (some ⟨g15, 0, none⟩)]] #[], .func (.func 54) #[.agg #[.pointer (some ⟨g27, 0, none⟩), .pointer (some ⟨g15, 0, none⟩)]] #[]])) <| Pl 3 <| L0 <| Oal #[.nilFunc, .nilFunc] fun g163 w164 hg165 B166 hu167 => L0 <| Osw B166 #[.func (.func 53) #[.agg #[.pointer (some ⟨g27, 0, none⟩), .pointer (some ⟨g15, 0, none⟩)]] #[], .func (.func 54) #[.agg #[.pointer (some ⟨g27, 0, none⟩), .pointer (some ⟨g15, 0, none⟩)]] #[]] fun w168 B169 hu170 => Pl 1 <| nt <| sq <| sg <| Pl 2 <| nt <| c0 <| ?_
 refine skn <| sg <| Pl 2 <| L0 <| Olb B169 0 <| ?_
 have U171 := u1 hu35 hu38 (nr hg33)
 have U172 := ut0 U171 hu43
 have U173 := u1 U172 hu47 (ni U171.size hg41)
 have U174 := u1 U173 hu52 (ni U171.size hg41)
 have U175 := u1 U174 hu56 (ni U171.size hg41)
 have U176 := u1 U175 hu60 (ni U171.size hg41)
 have U177 := ut0 U176 hu167
 have U178 := u1 U177 hu170 (ni U176.size hg165)
 have r179 := CurAt.old hc29 U178
 have U180 := ut0 hu30 hu35
 have U181 := u1 U180 hu38 (ni hu30.size hg33)
 have U182 := ut0 U181 hu43
 have U183 := u1 U182 hu47 (ni U181.size hg41)
 have U184 := u1 U183 hu52 (ni U181.size hg41)
 have U185 := u1 U184 hu56 (ni U181.size hg41)
 have U186 := u1 U185 hu60 (ni U181.size hg41)
 have U187 := ut0 U186 hu167
 have U188 := u1 U187 hu170 (ni U186.size hg165)
 have r189 := ub U188 B21
 have ne196 := nb (blk_lt B18) hu22.size hg28
 refine L0 <| Ocv #[.agg #[.pointer (some ⟨g27, 0, none⟩), .pointer (some ⟨g15, 0, none⟩)]] #[] (args := #[.agg #[.pointer (some ⟨g27, 0, none⟩), .pointer (some ⟨g15, 0, none⟩)]]) <| m3 (asksRead_any (c := c) ⟨hcode1, hcode2⟩ r179 r189 (Ne.symm ne196)) fun w190 hc191 hx200 hu195 => ?_
 obtain ⟨cs192, hm193, hM194⟩ := hx200
 refine ab hc191 fun x197 ex198 hc199 => ?_
 refine ng <| Pl 1 <| ?_
 have U201 := ut0 hu60 hu167
 have U202 := u1 U201 hu170 (ni hu60.size hg165)
 have U203 := ut (Upd.mono (S' := [g39, g27, g15]) U202 (ac im all0)) hu195 (ac im (ac im all0))
 have ne204 := nb (blk_lt B18) (le hu22.size hu30.size) hg33
 have ne205 := nb (CurAt.lt hc29) lr hg33
 have r206 := Upd.blk U203 (not_cons ne48 (not_cons (Ne.symm ne205) (not_cons (Ne.symm ne204) not0))) r57
 refine L0 <| Olb r206 0 <| L0 <| Oc <| m2 (end_any hc199) fun w207 hc208 hu209 => nt <| sq <| sg <| Pl 1 <| ?_
 have r210 := ub1 hu209 (Ne.symm ne205) r206
 refine L0 <| Olb r210 0 <| L0 <| Oc <| mq (err_any hc208) <| ?_
 have hl211 := CurAt.len hc208
 refine Pl 1 <| ng <| Pl 2 <| nt <| ?_
 have U212 := ut0 U68 hu167
 have U213 := u1 U212 hu170 (ni U68.size hg165)
 have U214 := ut U213 hu195 (ac (ni U24.size hg28) (ac (ni hu14.size hg17) all0))
 have U215 := u1 U214 hu209 (ni U24.size hg28)
 refine cb ((x197.endC.e != 0)) (fun q216 => ?_) (fun q216 => ?_)
 have q216p := ne_of_bnei q216
 refine sg <| Pl 2 <| ?_
 have U217 := u1 hu19 hu22 (nr hg17)
 have U218 := ut0 U217 hu30
 have U219 := ut0 U218 hu35
 have U220 := u1 U219 hu38 (ni U218.size hg33)
 have U221 := ut0 U220 hu43
 have U222 := u1 U221 hu47 (ni U220.size hg41)
 have U223 := u1 U222 hu52 (ni U220.size hg41)
 have U224 := u1 U223 hu56 (ni U220.size hg41)
 have U225 := u1 U224 hu60 (ni U220.size hg41)
 have U226 := ut0 U225 hu167
 have U227 := u1 U226 hu170 (ni U225.size hg165)
 have U228 := ut U227 hu195 (ac (ni U217.size hg28) (ac (nr hg17) all0))
 have U229 := u1 U228 hu209 (ni U217.size hg28)
 have r230 := ub U229 B13
 refine L0 <| Osw r230 mZ fun w231 B232 hu233 => Pl 1 <| nt <| rt <| tr <| rct B232 (.int .i64 x197.endC.e) <| ?_
 subst ex198
 have U234 := u1 U215 hu233 (nr hg12)
 have hs : parseOf coilsForm 0 c b = finish ((asksR 2000 c (Cur.mk b false 0)).2) ((asksR 2000 c (Cur.mk b false 0)).1) := by
   unfold parseOf coilsForm 
   (try simp only [q216, bs, if_true, if_false, decide_true, decide_false, eq_self, true_or, or_true, or_false, false_or, if_true, if_false, i00, i01, i10, i11, reduceIte, k1, k2, k5, k15])
   all_goals rfl
 rw [hs]
 exact finish_bad q216p U234
 have q216p := eq_of_bnei q216
 refine skn <| sg <| ?_
 have r235 := ub1 hu209 ne196 hm193.1
 refine L0 <| Olw (hz := (by rw [hm193.2]; exact msg_size)) r235 <| ?_
 have U236 := u1 hu19 hu22 (nr hg17)
 have U237 := ut0 U236 hu30
 have U238 := ut0 U237 hu35
 have U239 := u1 U238 hu38 (ni U237.size hg33)
 have U240 := ut0 U239 hu43
 have U241 := u1 U240 hu47 (ni U239.size hg41)
 have U242 := u1 U241 hu52 (ni U239.size hg41)
 have U243 := u1 U242 hu56 (ni U239.size hg41)
 have U244 := u1 U243 hu60 (ni U239.size hg41)
 have U245 := ut0 U244 hu167
 have U246 := u1 U245 hu170 (ni U244.size hg165)
 have U247 := ut U246 hu195 (ac (ni U236.size hg28) (ac (nr hg17) all0))
 have U248 := u1 U247 hu209 (ni U236.size hg28)
 have r249 := ub U248 B13
 refine L0 <| Osw (hz := (by rw [hm193.2]; exact msg_size)) (hv := hM194.size) (h1 := hM194.one) r249 (cs192) fun w250 B251 hu252 => Pl 1 <| nt <| rt <| rctx 22 hm193.2 B251 (.int .i64 0) <| ?_
 subst ex198
 have U253 := u1 U215 hu252 (nr hg12)
 have hs : parseOf coilsForm 0 c b = finish ((asksR 2000 c (Cur.mk b false 0)).2) ((asksR 2000 c (Cur.mk b false 0)).1) := by
   unfold parseOf coilsForm 
   (try simp only [q216, bs, if_true, if_false, decide_true, decide_false, eq_self, true_or, or_true, or_false, false_or, if_true, if_false, i00, i01, i10, i11, reduceIte, k1, k2, k5, k15])
   all_goals rfl
 rw [hs]
 have U254 := u1 (Upd.mono (S' := [g27, g10]) hu209 (ac im all0)) hu252 im
 have r255 := ub U247 B13
 have r256 := MsgRd.upd hM194 U254 (safe_cons (CurAt.safe hc199 _ (by decide)) (safe_cons (safe1 r255 (by decide)) safe0))
 exact finish_ok q216p r256 U253
 have k1 : (c == 1) = false := by rw [hk]; rfl
 have k2 : (c == 2) = false := by rw [hk]; rfl
 have k5 : (c == 5) = true := by rw [hk]; rfl
 have k15 : (c == 15) = false := by rw [hk]; rfl
 refine L0 <| Olk (hf := (by subst hk; kernel_rfl)) B59 c (.agg #[.nilFunc, .nilFunc]) (some (2, .agg #[.func (.func 55) #[.agg #[.pointer (some ⟨g27, 0, none⟩), .pointer (some ⟨g15, 0, none⟩)]] #[], .func (.func 55) #[.agg #[.pointer (some ⟨g27, 0, none⟩), .pointer (some ⟨g15, 0, none⟩)]] #[]])) <| Pl 3 <| L0 <| Oal #[.nilFunc, .nilFunc] fun g257 w258 hg259 B260 hu261 => L0 <| Osw B260 #[.func (.func 55) #[.agg #[.pointer (some ⟨g27, 0, none⟩), .pointer (some ⟨g15, 0, none⟩)]] #[], .func (.func 55) #[.agg #[.pointer (some ⟨g27, 0, none⟩), .pointer (some ⟨g15, 0, none⟩)]] #[]] fun w262 B263 hu264 => Pl 1 <| nt <| sq <| sg <| Pl 2 <| nt <| c0 <| ?_
 refine skn <| sg <| Pl 2 <| L0 <| Olb B263 0 <| ?_
 have U265 := u1 hu35 hu38 (nr hg33)
 have U266 := ut0 U265 hu43
 have U267 := u1 U266 hu47 (ni U265.size hg41)
 have U268 := u1 U267 hu52 (ni U265.size hg41)
 have U269 := u1 U268 hu56 (ni U265.size hg41)
 have U270 := u1 U269 hu60 (ni U265.size hg41)
 have U271 := ut0 U270 hu261
 have U272 := u1 U271 hu264 (ni U270.size hg259)
 have r273 := CurAt.old hc29 U272
 have U274 := ut0 hu30 hu35
 have U275 := u1 U274 hu38 (ni hu30.size hg33)
 have U276 := ut0 U275 hu43
 have U277 := u1 U276 hu47 (ni U275.size hg41)
 have U278 := u1 U277 hu52 (ni U275.size hg41)
 have U279 := u1 U278 hu56 (ni U275.size hg41)
 have U280 := u1 U279 hu60 (ni U275.size hg41)
 have U281 := ut0 U280 hu261
 have U282 := u1 U281 hu264 (ni U280.size hg259)
 have r283 := ub U282 B21
 have ne290 := nb (blk_lt B18) hu22.size hg28
 refine L0 <| Ocv #[.agg #[.pointer (some ⟨g27, 0, none⟩), .pointer (some ⟨g15, 0, none⟩)]] #[] (args := #[.agg #[.pointer (some ⟨g27, 0, none⟩), .pointer (some ⟨g15, 0, none⟩)]]) <| m3 (csets_any (c := c) ⟨hcode1, hcode2⟩ r273 r283 (Ne.symm ne290)) fun w284 hc285 hx294 hu289 => ?_
 obtain ⟨cs286, hm287, hM288⟩ := hx294
 refine ab hc285 fun x291 ex292 hc293 => ?_
 refine ng <| Pl 1 <| ?_
 have U295 := ut0 hu60 hu261
 have U296 := u1 U295 hu264 (ni hu60.size hg259)
 have U297 := ut (Upd.mono (S' := [g39, g27, g15]) U296 (ac im all0)) hu289 (ac im (ac im all0))
 have ne298 := nb (blk_lt B18) (le hu22.size hu30.size) hg33
 have ne299 := nb (CurAt.lt hc29) lr hg33
 have r300 := Upd.blk U297 (not_cons ne48 (not_cons (Ne.symm ne299) (not_cons (Ne.symm ne298) not0))) r57
 refine L0 <| Olb r300 0 <| L0 <| Oc <| m2 (end_any hc293) fun w301 hc302 hu303 => nt <| sq <| sg <| Pl 1 <| ?_
 have r304 := ub1 hu303 (Ne.symm ne299) r300
 refine L0 <| Olb r304 0 <| L0 <| Oc <| mq (err_any hc302) <| ?_
 have hl305 := CurAt.len hc302
 refine Pl 1 <| ng <| Pl 2 <| nt <| ?_
 have U306 := ut0 U68 hu261
 have U307 := u1 U306 hu264 (ni U68.size hg259)
 have U308 := ut U307 hu289 (ac (ni U24.size hg28) (ac (ni hu14.size hg17) all0))
 have U309 := u1 U308 hu303 (ni U24.size hg28)
 refine cb ((x291.endC.e != 0)) (fun q310 => ?_) (fun q310 => ?_)
 have q310p := ne_of_bnei q310
 refine sg <| Pl 2 <| ?_
 have U311 := u1 hu19 hu22 (nr hg17)
 have U312 := ut0 U311 hu30
 have U313 := ut0 U312 hu35
 have U314 := u1 U313 hu38 (ni U312.size hg33)
 have U315 := ut0 U314 hu43
 have U316 := u1 U315 hu47 (ni U314.size hg41)
 have U317 := u1 U316 hu52 (ni U314.size hg41)
 have U318 := u1 U317 hu56 (ni U314.size hg41)
 have U319 := u1 U318 hu60 (ni U314.size hg41)
 have U320 := ut0 U319 hu261
 have U321 := u1 U320 hu264 (ni U319.size hg259)
 have U322 := ut U321 hu289 (ac (ni U311.size hg28) (ac (nr hg17) all0))
 have U323 := u1 U322 hu303 (ni U311.size hg28)
 have r324 := ub U323 B13
 refine L0 <| Osw r324 mZ fun w325 B326 hu327 => Pl 1 <| nt <| rt <| tr <| rct B326 (.int .i64 x291.endC.e) <| ?_
 subst ex292
 have U328 := u1 U309 hu327 (nr hg12)
 have hs : parseOf coilsForm 0 c b = finish ((csetsR c (Cur.mk b false 0)).2) ((csetsR c (Cur.mk b false 0)).1) := by
   unfold parseOf coilsForm 
   (try simp only [q310, bs, if_true, if_false, decide_true, decide_false, eq_self, true_or, or_true, or_false, false_or, if_true, if_false, i00, i01, i10, i11, reduceIte, k1, k2, k5, k15])
   all_goals rfl
 rw [hs]
 exact finish_bad q310p U328
 have q310p := eq_of_bnei q310
 refine skn <| sg <| ?_
 have r329 := ub1 hu303 ne290 hm287.1
 refine L0 <| Olw (hz := (by rw [hm287.2]; exact msg_size)) r329 <| ?_
 have U330 := u1 hu19 hu22 (nr hg17)
 have U331 := ut0 U330 hu30
 have U332 := ut0 U331 hu35
 have U333 := u1 U332 hu38 (ni U331.size hg33)
 have U334 := ut0 U333 hu43
 have U335 := u1 U334 hu47 (ni U333.size hg41)
 have U336 := u1 U335 hu52 (ni U333.size hg41)
 have U337 := u1 U336 hu56 (ni U333.size hg41)
 have U338 := u1 U337 hu60 (ni U333.size hg41)
 have U339 := ut0 U338 hu261
 have U340 := u1 U339 hu264 (ni U338.size hg259)
 have U341 := ut U340 hu289 (ac (ni U330.size hg28) (ac (nr hg17) all0))
 have U342 := u1 U341 hu303 (ni U330.size hg28)
 have r343 := ub U342 B13
 refine L0 <| Osw (hz := (by rw [hm287.2]; exact msg_size)) (hv := hM288.size) (h1 := hM288.one) r343 (cs286) fun w344 B345 hu346 => Pl 1 <| nt <| rt <| rctx 22 hm287.2 B345 (.int .i64 0) <| ?_
 subst ex292
 have U347 := u1 U309 hu346 (nr hg12)
 have hs : parseOf coilsForm 0 c b = finish ((csetsR c (Cur.mk b false 0)).2) ((csetsR c (Cur.mk b false 0)).1) := by
   unfold parseOf coilsForm 
   (try simp only [q310, bs, if_true, if_false, decide_true, decide_false, eq_self, true_or, or_true, or_false, false_or, if_true, if_false, i00, i01, i10, i11, reduceIte, k1, k2, k5, k15])
   all_goals rfl
 rw [hs]
 have U348 := u1 (Upd.mono (S' := [g27, g10]) hu303 (ac im all0)) hu346 im
 have r349 := ub U341 B13
 have r350 := MsgRd.upd hM288 U348 (safe_cons (CurAt.safe hc293 _ (by decide)) (safe_cons (safe1 r349 (by decide)) safe0))
 exact finish_ok q310p r350 U347
 have k1 : (c == 1) = false := by rw [hk]; rfl
 have k2 : (c == 2) = false := by rw [hk]; rfl
 have k5 : (c == 5) = false := by rw [hk]; rfl
 have k15 : (c == 15) = true := by rw [hk]; rfl
 refine L0 <| Olk (hf := (by subst hk; kernel_rfl)) B59 c (.agg #[.nilFunc, .nilFunc]) (some (3, .agg #[.func (.func 56) #[.agg #[.pointer (some ⟨g27, 0, none⟩), .pointer (some ⟨g15, 0, none⟩)]] #[], .func (.func 57) #[.agg #[.pointer (some ⟨g27, 0, none⟩), .pointer (some ⟨g15, 0, none⟩)]] #[]])) <| Pl 3 <| L0 <| Oal #[.nilFunc, .nilFunc] fun g351 w352 hg353 B354 hu355 => L0 <| Osw B354 #[.func (.func 56) #[.agg #[.pointer (some ⟨g27, 0, none⟩), .pointer (some ⟨g15, 0, none⟩)]] #[], .func (.func 57) #[.agg #[.pointer (some ⟨g27, 0, none⟩), .pointer (some ⟨g15, 0, none⟩)]] #[]] fun w356 B357 hu358 => Pl 1 <| nt <| sq <| sg <| Pl 2 <| nt <| c0 <| ?_
 refine skn <| sg <| Pl 2 <| L0 <| Olb B357 0 <| ?_
 have U359 := u1 hu35 hu38 (nr hg33)
 have U360 := ut0 U359 hu43
 have U361 := u1 U360 hu47 (ni U359.size hg41)
 have U362 := u1 U361 hu52 (ni U359.size hg41)
 have U363 := u1 U362 hu56 (ni U359.size hg41)
 have U364 := u1 U363 hu60 (ni U359.size hg41)
 have U365 := ut0 U364 hu355
 have U366 := u1 U365 hu358 (ni U364.size hg353)
 have r367 := CurAt.old hc29 U366
 have U368 := ut0 hu30 hu35
 have U369 := u1 U368 hu38 (ni hu30.size hg33)
 have U370 := ut0 U369 hu43
 have U371 := u1 U370 hu47 (ni U369.size hg41)
 have U372 := u1 U371 hu52 (ni U369.size hg41)
 have U373 := u1 U372 hu56 (ni U369.size hg41)
 have U374 := u1 U373 hu60 (ni U369.size hg41)
 have U375 := ut0 U374 hu355
 have U376 := u1 U375 hu358 (ni U374.size hg353)
 have r377 := ub U376 B21
 have ne384 := nb (blk_lt B18) hu22.size hg28
 refine L0 <| Ocv #[.agg #[.pointer (some ⟨g27, 0, none⟩), .pointer (some ⟨g15, 0, none⟩)]] #[] (args := #[.agg #[.pointer (some ⟨g27, 0, none⟩), .pointer (some ⟨g15, 0, none⟩)]]) <| m3 (csm_any (c := c) ⟨hcode1, hcode2⟩ r367 r377 (Ne.symm ne384)) fun w378 hc379 hx385 hu383 => ?_
 obtain ⟨cs380, hm381, hM382⟩ := hx385
 refine ng <| Pl 1 <| ?_
 have U386 := ut0 hu60 hu355
 have U387 := u1 U386 hu358 (ni hu60.size hg353)
 have U388 := ut (Upd.mono (S' := [g39, g27, g15]) U387 (ac im all0)) hu383 (ac im (ac im all0))
 have ne389 := nb (blk_lt B18) (le hu22.size hu30.size) hg33
 have ne390 := nb (CurAt.lt hc29) lr hg33
 have r391 := Upd.blk U388 (not_cons ne48 (not_cons (Ne.symm ne390) (not_cons (Ne.symm ne389) not0))) r57
 refine L0 <| Olb r391 0 <| L0 <| Oc <| m2 (end_any hc379) fun w392 hc393 hu394 => ?_
 refine ab hc393 fun x395 ex396 hc397 => ?_
 refine nt <| sq <| sg <| Pl 1 <| ?_
 have r398 := ub1 hu394 (Ne.symm ne390) r391
 refine L0 <| Olb r398 0 <| L0 <| Oc <| mq (err_any hc397) <| ?_
 have hl399 := CurAt.len hc397
 refine Pl 1 <| ng <| Pl 2 <| nt <| ?_
 have U400 := ut0 U68 hu355
 have U401 := u1 U400 hu358 (ni U68.size hg353)
 have U402 := ut U401 hu383 (ac (ni U24.size hg28) (ac (ni hu14.size hg17) all0))
 have U403 := u1 U402 hu394 (ni U24.size hg28)
 refine cb ((x395.e != 0)) (fun q404 => ?_) (fun q404 => ?_)
 have q404p := ne_of_bnei q404
 refine sg <| Pl 2 <| ?_
 have U405 := u1 hu19 hu22 (nr hg17)
 have U406 := ut0 U405 hu30
 have U407 := ut0 U406 hu35
 have U408 := u1 U407 hu38 (ni U406.size hg33)
 have U409 := ut0 U408 hu43
 have U410 := u1 U409 hu47 (ni U408.size hg41)
 have U411 := u1 U410 hu52 (ni U408.size hg41)
 have U412 := u1 U411 hu56 (ni U408.size hg41)
 have U413 := u1 U412 hu60 (ni U408.size hg41)
 have U414 := ut0 U413 hu355
 have U415 := u1 U414 hu358 (ni U413.size hg353)
 have U416 := ut U415 hu383 (ac (ni U405.size hg28) (ac (nr hg17) all0))
 have U417 := u1 U416 hu394 (ni U405.size hg28)
 have r418 := ub U417 B13
 refine L0 <| Osw r418 mZ fun w419 B420 hu421 => Pl 1 <| nt <| rt <| tr <| rct B420 (.int .i64 x395.e) <| ?_
 subst ex396
 have U422 := u1 U403 hu421 (nr hg12)
 have hs : parseOf coilsForm 0 c b = finish ((csmR c (Cur.mk b false 0)).2) ((csmR c (Cur.mk b false 0)).1) := by
   unfold parseOf coilsForm 
   (try simp only [q404, bs, if_true, if_false, decide_true, decide_false, eq_self, true_or, or_true, or_false, false_or, if_true, if_false, i00, i01, i10, i11, reduceIte, k1, k2, k5, k15])
   all_goals rfl
 rw [hs]
 exact finish_bad q404p U422
 have q404p := eq_of_bnei q404
 refine skn <| sg <| ?_
 have r423 := ub1 hu394 ne384 hm381.1
 refine L0 <| Olw (hz := (by rw [hm381.2]; exact msg_size)) r423 <| ?_
 have U424 := u1 hu19 hu22 (nr hg17)
 have U425 := ut0 U424 hu30
 have U426 := ut0 U425 hu35
 have U427 := u1 U426 hu38 (ni U425.size hg33)
 have U428 := ut0 U427 hu43
 have U429 := u1 U428 hu47 (ni U427.size hg41)
 have U430 := u1 U429 hu52 (ni U427.size hg41)
 have U431 := u1 U430 hu56 (ni U427.size hg41)
 have U432 := u1 U431 hu60 (ni U427.size hg41)
 have U433 := ut0 U432 hu355
 have U434 := u1 U433 hu358 (ni U432.size hg353)
 have U435 := ut U434 hu383 (ac (ni U424.size hg28) (ac (nr hg17) all0))
 have U436 := u1 U435 hu394 (ni U424.size hg28)
 have r437 := ub U436 B13
 refine L0 <| Osw (hz := (by rw [hm381.2]; exact msg_size)) (hv := hM382.size) (h1 := hM382.one) r437 (cs380) fun w438 B439 hu440 => Pl 1 <| nt <| rt <| rctx 22 hm381.2 B439 (.int .i64 0) <| ?_
 subst ex396
 have U441 := u1 U403 hu440 (nr hg12)
 have hs : parseOf coilsForm 0 c b = finish ((csmR c (Cur.mk b false 0)).2) ((csmR c (Cur.mk b false 0)).1) := by
   unfold parseOf coilsForm 
   (try simp only [q404, bs, if_true, if_false, decide_true, decide_false, eq_self, true_or, or_true, or_false, false_or, if_true, if_false, i00, i01, i10, i11, reduceIte, k1, k2, k5, k15])
   all_goals rfl
 rw [hs]
 have U442 := u1 (Upd.mono (S' := [g27, g10]) hu394 (ac im all0)) hu440 im
 have r443 := ub U435 B13
 have r444 := MsgRd.upd hM382 U442 (safe_cons (CurAt.safe hc379 _ (by decide)) (safe_cons (safe1 r443 (by decide)) safe0))
 exact finish_ok q404p r444 U441
 have k1 : (c == 1) = false := by simpa using hk.1
 have k2 : (c == 2) = false := by simpa using hk.2.1
 have k5 : (c == 5) = false := by simpa using hk.2.2.1
 have k15 : (c == 15) = false := by simpa using hk.2.2.2
 refine L0 <| Olk (hf := (fno (q := .u8) (x := c) #[⟨.int .u8 1, .agg #[.func (.func 53) #[.agg #[.pointer (some ⟨g27, 0, none⟩), .pointer (some ⟨g15, 0, none⟩)]] #[], .func (.func 54) #[.agg #[.pointer (some ⟨g27, 0, none⟩), .pointer (some ⟨g15, 0, none⟩)]] #[]], 0⟩, ⟨.int .u8 2, .agg #[.func (.func 53) #[.agg #[.pointer (some ⟨g27, 0, none⟩), .pointer (some ⟨g15, 0, none⟩)]] #[], .func (.func 54) #[.agg #[.pointer (some ⟨g27, 0, none⟩), .pointer (some ⟨g15, 0, none⟩)]] #[]], 1⟩, ⟨.int .u8 5, .agg #[.func (.func 55) #[.agg #[.pointer (some ⟨g27, 0, none⟩), .pointer (some ⟨g15, 0, none⟩)]] #[], .func (.func 55) #[.agg #[.pointer (some ⟨g27, 0, none⟩), .pointer (some ⟨g15, 0, none⟩)]] #[]], 2⟩, ⟨.int .u8 15, .agg #[.func (.func 56) #[.agg #[.pointer (some ⟨g27, 0, none⟩), .pointer (some ⟨g15, 0, none⟩)]] #[], .func (.func 57) #[.agg #[.pointer (some ⟨g27, 0, none⟩), .pointer (some ⟨g15, 0, none⟩)]] #[]], 3⟩] (findNow_no _ _ (by intro e he; simp only [List.mem_cons, List.not_mem_nil, or_false] at he; obtain ⟨z1, z2, z5, z15⟩ := hk; rcases he with rfl | rfl | rfl | rfl <;> exact ⟨_, rfl, fun h => by simp_all⟩)))) B59 c (.agg #[.nilFunc, .nilFunc]) none <| Pl 3 <| L0 <| Oal #[.nilFunc, .nilFunc] fun g445 w446 hg447 B448 hu449 => L0 <| Osw B448 #[.nilFunc, .nilFunc] fun w450 B451 hu452 => Pl 1 <| nt <| sq <| sg <| Pl 2 <| nt <| c1 <| ?_
 refine sg <| Pl 1 <| ?_
 have U453 := u1 hu19 hu22 (nr hg17)
 have U454 := ut0 U453 hu30
 have U455 := ut0 U454 hu35
 have U456 := u1 U455 hu38 (ni U454.size hg33)
 have U457 := ut0 U456 hu43
 have U458 := u1 U457 hu47 (ni U456.size hg41)
 have U459 := u1 U458 hu52 (ni U456.size hg41)
 have U460 := u1 U459 hu56 (ni U456.size hg41)
 have U461 := u1 U460 hu60 (ni U456.size hg41)
 have U462 := ut0 U461 hu449
 have U463 := u1 U462 hu452 (ni U461.size hg447)
 have r464 := ub U463 B13
 refine L0 <| Osw r464 mZ fun w465 B466 hu467 => Pl 1 <| nt <| rt <| tr <| rct B466 (.int .i64 4) <| ?_
 have U468 := ut0 U68 hu449
 have U469 := u1 U468 hu452 (ni U68.size hg447)
 have U470 := u1 U469 hu467 (nr hg12)
 have hs : parseOf coilsForm 0 c b = (Msg.zero, 4) := by
   unfold parseOf coilsForm 
   (try simp only [bs, if_true, if_false, decide_true, decide_false, eq_self, true_or, or_true, or_false, false_or, if_true, if_false, i00, i01, i10, i11, reduceIte, k1, k2, k5, k15])
   all_goals rfl
 rw [hs]
 exact bad_res U470
set_option maxRecDepth 100000 in
set_option maxHeartbeats 4000000 in
theorem coils_parse_1 {m : Bool} {A : Option Addr} {cp : Nat} {b : List Int} {w : World} {c : Int} (hcode : B8 c) (hsl : RdB m w (.slice A b.length cp) b) (hb : b.length ≤ 1048576) :
    Calls Try.prog 37 #[.int .i64 1, .int .u8 c, .slice A b.length cp] w (PMsg (parseOf coilsForm 1 c b) w) := by
 obtain ⟨hcode1, hcode2⟩ := hcode
 have hln : (b.length : Int) ≤ 1048576 := by omega
 refine en 72 Try.func37 rfl <| sg <| L0 <| Oal mZ fun g10 w11 hg12 B13 hu14 => Pl 1 <| nt <| sq <| sg <| Pl 6 <| nt <| c0 <| ?_
 refine skn <| sg <| Pl 2 <| L0 <| Oal mZ fun g15 w16 hg17 B18 hu19 => L0 <| Osw B18 (mC c) fun w20 B21 hu22 => ng <| Pl 1 <| ?_
 have U23 := ut0 hu14 hu19
 have U24 := u1 U23 hu22 (ni hu14.size hg17)
 have r25 := RdB.old hsl U24
 refine L0 <| Oc <| e3 (new_any r25 (by omega)) fun g27 w26 hg28 hc29 hu30 => Pl 1 <| L0 <| Oal #[.pointer none, .pointer none] fun g31 w32 hg33 B34 hu35 => L0 <| Osw B34 #[.pointer (some ⟨g27, 0, none⟩), .pointer (some ⟨g15, 0, none⟩)] fun w36 B37 hu38 => ng <| L0 <| Omk fun g39 w40 hg41 B42 hu43 => ?_
 have r44 := ub hu43 B37
 refine L0 <| Olw r44 <| Pl 1 <| L0 <| Olw r44 <| Pl 2 <| L0 <| Oin B42 1 fun w45 B46 hu47 => ?_
 have ne48 := nb (blk_lt B34) hu38.size hg41
 have r49 := ub1 hu47 ne48 r44
 refine L0 <| Olw r49 <| Pl 1 <| L0 <| Olw r49 <| Pl 2 <| L0 <| Oin B46 2 fun w50 B51 hu52 => ?_
 have r53 := ub1 hu52 ne48 r49
 refine L0 <| Olw r53 <| Pl 1 <| L0 <| Olw r53 <| Pl 2 <| L0 <| Oin B51 5 fun w54 B55 hu56 => ?_
 have r57 := ub1 hu56 ne48 r53
 refine L0 <| Olw r57 <| Pl 1 <| L0 <| Olw r57 <| Pl 2 <| L0 <| Oin B55 15 fun w58 B59 hu60 => Pl 2 <| ng <| Pl 2 <| ?_
 have U61 := ut0 U24 hu30
 have U62 := ut0 U61 hu35
 have U63 := u1 U62 hu38 (ni U61.size hg33)
 have U64 := ut0 U63 hu43
 have U65 := u1 U64 hu47 (ni U63.size hg41)
 have U66 := u1 U65 hu52 (ni U63.size hg41)
 have U67 := u1 U66 hu56 (ni U63.size hg41)
 have U68 := u1 U67 hu60 (ni U63.size hg41)
 rcases cdich c with hk | hk | hk | hk | hk
 have k1 : (c == 1) = true := by rw [hk]; rfl
 have k2 : (c == 2) = false := by rw [hk]; rfl
 have k5 : (c == 5) = false := by rw [hk]; rfl
 have k15 : (c == 15) = false := by rw [hk]; rfl
 refine L0 <| Olk (hf := (by subst hk; kernel_rfl)) B59 c (.agg #[.nilFunc, .nilFunc]) (some (0, .agg #[.func (.func 53) #[.agg #[.pointer (some ⟨g27, 0, none⟩), .pointer (some ⟨g15, 0, none⟩)]] #[], .func (.func 54) #[.agg #[.pointer (some ⟨g27, 0, none⟩), .pointer (some ⟨g15, 0, none⟩)]] #[]])) <| Pl 3 <| L0 <| Oal #[.nilFunc, .nilFunc] fun g69 w70 hg71 B72 hu73 => L0 <| Osw B72 #[.func (.func 53) #[.agg #[.pointer (some ⟨g27, 0, none⟩), .pointer (some ⟨g15, 0, none⟩)]] #[], .func (.func 54) #[.agg #[.pointer (some ⟨g27, 0, none⟩), .pointer (some ⟨g15, 0, none⟩)]] #[]] fun w74 B75 hu76 => Pl 1 <| nt <| sq <| sg <| Pl 2 <| nt <| c0 <| ?_
 refine skn <| sg <| Pl 2 <| L0 <| Olb B75 1 <| ?_
 have U77 := u1 hu35 hu38 (nr hg33)
 have U78 := ut0 U77 hu43
 have U79 := u1 U78 hu47 (ni U77.size hg41)
 have U80 := u1 U79 hu52 (ni U77.size hg41)
 have U81 := u1 U80 hu56 (ni U77.size hg41)
 have U82 := u1 U81 hu60 (ni U77.size hg41)
 have U83 := ut0 U82 hu73
 have U84 := u1 U83 hu76 (ni U82.size hg71)
 have r85 := CurAt.old hc29 U84
 have U86 := ut0 hu30 hu35
 have U87 := u1 U86 hu38 (ni hu30.size hg33)
 have U88 := ut0 U87 hu43
 have U89 := u1 U88 hu47 (ni U87.size hg41)
 have U90 := u1 U89 hu52 (ni U87.size hg41)
 have U91 := u1 U90 hu56 (ni U87.size hg41)
 have U92 := u1 U91 hu60 (ni U87.size hg41)
 have U93 := ut0 U92 hu73
 have U94 := u1 U93 hu76 (ni U92.size hg71)
 have r95 := ub U94 B21
 have ne102 := nb (blk_lt B18) hu22.size hg28
 refine L0 <| Ocv #[.agg #[.pointer (some ⟨g27, 0, none⟩), .pointer (some ⟨g15, 0, none⟩)]] #[] (args := #[.agg #[.pointer (some ⟨g27, 0, none⟩), .pointer (some ⟨g15, 0, none⟩)]]) <| m3 (ctold_any (c := c) ⟨hcode1, hcode2⟩ r85 r95 (Ne.symm ne102)) fun w96 hc97 hx106 hu101 => ?_
 obtain ⟨cs98, hm99, hM100⟩ := hx106
 refine ab hc97 fun x103 ex104 hc105 => ?_
 refine ng <| Pl 1 <| ?_
 have U107 := ut0 hu60 hu73
 have U108 := u1 U107 hu76 (ni hu60.size hg71)
 have U109 := ut (Upd.mono (S' := [g39, g27, g15]) U108 (ac im all0)) hu101 (ac im (ac im all0))
 have ne110 := nb (blk_lt B18) (le hu22.size hu30.size) hg33
 have ne111 := nb (CurAt.lt hc29) lr hg33
 have r112 := Upd.blk U109 (not_cons ne48 (not_cons (Ne.symm ne111) (not_cons (Ne.symm ne110) not0))) r57
 refine L0 <| Olb r112 0 <| L0 <| Oc <| m2 (end_any hc105) fun w113 hc114 hu115 => nt <| sq <| sg <| Pl 1 <| ?_
 have r116 := ub1 hu115 (Ne.symm ne111) r112
 refine L0 <| Olb r116 0 <| L0 <| Oc <| mq (err_any hc114) <| ?_
 have hl117 := CurAt.len hc114
 refine Pl 1 <| ng <| Pl 2 <| nt <| ?_
 have U118 := ut0 U68 hu73
 have U119 := u1 U118 hu76 (ni U68.size hg71)
 have U120 := ut U119 hu101 (ac (ni U24.size hg28) (ac (ni hu14.size hg17) all0))
 have U121 := u1 U120 hu115 (ni U24.size hg28)
 refine cb ((x103.endC.e != 0)) (fun q122 => ?_) (fun q122 => ?_)
 have q122p := ne_of_bnei q122
 refine sg <| Pl 2 <| ?_
 have U123 := u1 hu19 hu22 (nr hg17)
 have U124 := ut0 U123 hu30
 have U125 := ut0 U124 hu35
 have U126 := u1 U125 hu38 (ni U124.size hg33)
 have U127 := ut0 U126 hu43
 have U128 := u1 U127 hu47 (ni U126.size hg41)
 have U129 := u1 U128 hu52 (ni U126.size hg41)
 have U130 := u1 U129 hu56 (ni U126.size hg41)
 have U131 := u1 U130 hu60 (ni U126.size hg41)
 have U132 := ut0 U131 hu73
 have U133 := u1 U132 hu76 (ni U131.size hg71)
 have U134 := ut U133 hu101 (ac (ni U123.size hg28) (ac (nr hg17) all0))
 have U135 := u1 U134 hu115 (ni U123.size hg28)
 have r136 := ub U135 B13
 refine L0 <| Osw r136 mZ fun w137 B138 hu139 => Pl 1 <| nt <| rt <| tr <| rct B138 (.int .i64 x103.endC.e) <| ?_
 subst ex104
 have U140 := u1 U121 hu139 (nr hg12)
 have hs : parseOf coilsForm 1 c b = finish ((ctoldR c (Cur.mk b false 0)).2) ((ctoldR c (Cur.mk b false 0)).1) := by
   unfold parseOf coilsForm 
   (try simp only [q122, bs, if_true, if_false, decide_true, decide_false, eq_self, true_or, or_true, or_false, false_or, if_true, if_false, i00, i01, i10, i11, reduceIte, k1, k2, k5, k15])
   all_goals rfl
 rw [hs]
 exact finish_bad q122p U140
 have q122p := eq_of_bnei q122
 refine skn <| sg <| ?_
 have r141 := ub1 hu115 ne102 hm99.1
 refine L0 <| Olw (hz := (by rw [hm99.2]; exact msg_size)) r141 <| ?_
 have U142 := u1 hu19 hu22 (nr hg17)
 have U143 := ut0 U142 hu30
 have U144 := ut0 U143 hu35
 have U145 := u1 U144 hu38 (ni U143.size hg33)
 have U146 := ut0 U145 hu43
 have U147 := u1 U146 hu47 (ni U145.size hg41)
 have U148 := u1 U147 hu52 (ni U145.size hg41)
 have U149 := u1 U148 hu56 (ni U145.size hg41)
 have U150 := u1 U149 hu60 (ni U145.size hg41)
 have U151 := ut0 U150 hu73
 have U152 := u1 U151 hu76 (ni U150.size hg71)
 have U153 := ut U152 hu101 (ac (ni U142.size hg28) (ac (nr hg17) all0))
 have U154 := u1 U153 hu115 (ni U142.size hg28)
 have r155 := ub U154 B13
 refine L0 <| Osw (hz := (by rw [hm99.2]; exact msg_size)) (hv := hM100.size) (h1 := hM100.one) r155 (cs98) fun w156 B157 hu158 => Pl 1 <| nt <| rt <| rctx 22 hm99.2 B157 (.int .i64 0) <| ?_
 subst ex104
 have U159 := u1 U121 hu158 (nr hg12)
 have hs : parseOf coilsForm 1 c b = finish ((ctoldR c (Cur.mk b false 0)).2) ((ctoldR c (Cur.mk b false 0)).1) := by
   unfold parseOf coilsForm 
   (try simp only [q122, bs, if_true, if_false, decide_true, decide_false, eq_self, true_or, or_true, or_false, false_or, if_true, if_false, i00, i01, i10, i11, reduceIte, k1, k2, k5, k15])
   all_goals rfl
 rw [hs]
 have U160 := u1 (Upd.mono (S' := [g27, g10]) hu115 (ac im all0)) hu158 im
 have r161 := ub U153 B13
 have r162 := MsgRd.upd hM100 U160 (safe_cons (CurAt.safe hc105 _ (by decide)) (safe_cons (safe1 r161 (by decide)) safe0))
 exact finish_ok q122p r162 U159
 have k1 : (c == 1) = false := by rw [hk]; rfl
 have k2 : (c == 2) = true := by rw [hk]; rfl
 have k5 : (c == 5) = false := by rw [hk]; rfl
 have k15 : (c == 15) = false := by rw [hk]; rfl
 refine L0 <| Olk (hf := (by subst hk; kernel_rfl)) B59 c (.agg #[.nilFunc, .nilFunc]) (some (1, .agg #[.func (.func 53) #[.agg #[.pointer (some ⟨g27, 0, none⟩), .pointer (some ⟨g15, 0, none⟩)]] #[], .func (.func 54) #[.agg #[.pointer (some ⟨g27, 0, none⟩), .pointer (some ⟨g15, 0, none⟩)]] #[]])) <| Pl 3 <| L0 <| Oal #[.nilFunc, .nilFunc] fun g163 w164 hg165 B166 hu167 => L0 <| Osw B166 #[.func (.func 53) #[.agg #[.pointer (some ⟨g27, 0, none⟩), .pointer (some ⟨g15, 0, none⟩)]] #[], .func (.func 54) #[.agg #[.pointer (some ⟨g27, 0, none⟩), .pointer (some ⟨g15, 0, none⟩)]] #[]] fun w168 B169 hu170 => Pl 1 <| nt <| sq <| sg <| Pl 2 <| nt <| c0 <| ?_
 refine skn <| sg <| Pl 2 <| L0 <| Olb B169 1 <| ?_
 have U171 := u1 hu35 hu38 (nr hg33)
 have U172 := ut0 U171 hu43
 have U173 := u1 U172 hu47 (ni U171.size hg41)
 have U174 := u1 U173 hu52 (ni U171.size hg41)
 have U175 := u1 U174 hu56 (ni U171.size hg41)
 have U176 := u1 U175 hu60 (ni U171.size hg41)
 have U177 := ut0 U176 hu167
 have U178 := u1 U177 hu170 (ni U176.size hg165)
 have r179 := CurAt.old hc29 U178
 have U180 := ut0 hu30 hu35
 have U181 := u1 U180 hu38 (ni hu30.size hg33)
 have U182 := ut0 U181 hu43
 have U183 := u1 U182 hu47 (ni U181.size hg41)
 have U184 := u1 U183 hu52 (ni U181.size hg41)
 have U185 := u1 U184 hu56 (ni U181.size hg41)
 have U186 := u1 U185 hu60 (ni U181.size hg41)
 have U187 := ut0 U186 hu167
 have U188 := u1 U187 hu170 (ni U186.size hg165)
 have r189 := ub U188 B21
 have ne196 := nb (blk_lt B18) hu22.size hg28
 refine L0 <| Ocv #[.agg #[.pointer (some ⟨g27, 0, none⟩), .pointer (some ⟨g15, 0, none⟩)]] #[] (args := #[.agg #[.pointer (some ⟨g27, 0, none⟩), .pointer (some ⟨g15, 0, none⟩)]]) <| m3 (ctold_any (c := c) ⟨hcode1, hcode2⟩ r179 r189 (Ne.symm ne196)) fun w190 hc191 hx200 hu195 => ?_
 obtain ⟨cs192, hm193, hM194⟩ := hx200
 refine ab hc191 fun x197 ex198 hc199 => ?_
 refine ng <| Pl 1 <| ?_
 have U201 := ut0 hu60 hu167
 have U202 := u1 U201 hu170 (ni hu60.size hg165)
 have U203 := ut (Upd.mono (S' := [g39, g27, g15]) U202 (ac im all0)) hu195 (ac im (ac im all0))
 have ne204 := nb (blk_lt B18) (le hu22.size hu30.size) hg33
 have ne205 := nb (CurAt.lt hc29) lr hg33
 have r206 := Upd.blk U203 (not_cons ne48 (not_cons (Ne.symm ne205) (not_cons (Ne.symm ne204) not0))) r57
 refine L0 <| Olb r206 0 <| L0 <| Oc <| m2 (end_any hc199) fun w207 hc208 hu209 => nt <| sq <| sg <| Pl 1 <| ?_
 have r210 := ub1 hu209 (Ne.symm ne205) r206
 refine L0 <| Olb r210 0 <| L0 <| Oc <| mq (err_any hc208) <| ?_
 have hl211 := CurAt.len hc208
 refine Pl 1 <| ng <| Pl 2 <| nt <| ?_
 have U212 := ut0 U68 hu167
 have U213 := u1 U212 hu170 (ni U68.size hg165)
 have U214 := ut U213 hu195 (ac (ni U24.size hg28) (ac (ni hu14.size hg17) all0))
 have U215 := u1 U214 hu209 (ni U24.size hg28)
 refine cb ((x197.endC.e != 0)) (fun q216 => ?_) (fun q216 => ?_)
 have q216p := ne_of_bnei q216
 refine sg <| Pl 2 <| ?_
 have U217 := u1 hu19 hu22 (nr hg17)
 have U218 := ut0 U217 hu30
 have U219 := ut0 U218 hu35
 have U220 := u1 U219 hu38 (ni U218.size hg33)
 have U221 := ut0 U220 hu43
 have U222 := u1 U221 hu47 (ni U220.size hg41)
 have U223 := u1 U222 hu52 (ni U220.size hg41)
 have U224 := u1 U223 hu56 (ni U220.size hg41)
 have U225 := u1 U224 hu60 (ni U220.size hg41)
 have U226 := ut0 U225 hu167
 have U227 := u1 U226 hu170 (ni U225.size hg165)
 have U228 := ut U227 hu195 (ac (ni U217.size hg28) (ac (nr hg17) all0))
 have U229 := u1 U228 hu209 (ni U217.size hg28)
 have r230 := ub U229 B13
 refine L0 <| Osw r230 mZ fun w231 B232 hu233 => Pl 1 <| nt <| rt <| tr <| rct B232 (.int .i64 x197.endC.e) <| ?_
 subst ex198
 have U234 := u1 U215 hu233 (nr hg12)
 have hs : parseOf coilsForm 1 c b = finish ((ctoldR c (Cur.mk b false 0)).2) ((ctoldR c (Cur.mk b false 0)).1) := by
   unfold parseOf coilsForm 
   (try simp only [q216, bs, if_true, if_false, decide_true, decide_false, eq_self, true_or, or_true, or_false, false_or, if_true, if_false, i00, i01, i10, i11, reduceIte, k1, k2, k5, k15])
   all_goals rfl
 rw [hs]
 exact finish_bad q216p U234
 have q216p := eq_of_bnei q216
 refine skn <| sg <| ?_
 have r235 := ub1 hu209 ne196 hm193.1
 refine L0 <| Olw (hz := (by rw [hm193.2]; exact msg_size)) r235 <| ?_
 have U236 := u1 hu19 hu22 (nr hg17)
 have U237 := ut0 U236 hu30
 have U238 := ut0 U237 hu35
 have U239 := u1 U238 hu38 (ni U237.size hg33)
 have U240 := ut0 U239 hu43
 have U241 := u1 U240 hu47 (ni U239.size hg41)
 have U242 := u1 U241 hu52 (ni U239.size hg41)
 have U243 := u1 U242 hu56 (ni U239.size hg41)
 have U244 := u1 U243 hu60 (ni U239.size hg41)
 have U245 := ut0 U244 hu167
 have U246 := u1 U245 hu170 (ni U244.size hg165)
 have U247 := ut U246 hu195 (ac (ni U236.size hg28) (ac (nr hg17) all0))
 have U248 := u1 U247 hu209 (ni U236.size hg28)
 have r249 := ub U248 B13
 refine L0 <| Osw (hz := (by rw [hm193.2]; exact msg_size)) (hv := hM194.size) (h1 := hM194.one) r249 (cs192) fun w250 B251 hu252 => Pl 1 <| nt <| rt <| rctx 22 hm193.2 B251 (.int .i64 0) <| ?_
 subst ex198
 have U253 := u1 U215 hu252 (nr hg12)
 have hs : parseOf coilsForm 1 c b = finish ((ctoldR c (Cur.mk b false 0)).2) ((ctoldR c (Cur.mk b false 0)).1) := by
   unfold parseOf coilsForm 
   (try simp only [q216, bs, if_true, if_false, decide_true, decide_false, eq_self, true_or, or_true, or_false, false_or, if_true, if_false, i00, i01, i10, i11, reduceIte, k1, k2, k5, k15])
   all_goals rfl
 rw [hs]
 have U254 := u1 (Upd.mono (S' := [g27, g10]) hu209 (ac im all0)) hu252 im
 have r255 := ub U247 B13
 have r256 := MsgRd.upd hM194 U254 (safe_cons (CurAt.safe hc199 _ (by decide)) (safe_cons (safe1 r255 (by decide)) safe0))
 exact finish_ok q216p r256 U253
 have k1 : (c == 1) = false := by rw [hk]; rfl
 have k2 : (c == 2) = false := by rw [hk]; rfl
 have k5 : (c == 5) = true := by rw [hk]; rfl
 have k15 : (c == 15) = false := by rw [hk]; rfl
 refine L0 <| Olk (hf := (by subst hk; kernel_rfl)) B59 c (.agg #[.nilFunc, .nilFunc]) (some (2, .agg #[.func (.func 55) #[.agg #[.pointer (some ⟨g27, 0, none⟩), .pointer (some ⟨g15, 0, none⟩)]] #[], .func (.func 55) #[.agg #[.pointer (some ⟨g27, 0, none⟩), .pointer (some ⟨g15, 0, none⟩)]] #[]])) <| Pl 3 <| L0 <| Oal #[.nilFunc, .nilFunc] fun g257 w258 hg259 B260 hu261 => L0 <| Osw B260 #[.func (.func 55) #[.agg #[.pointer (some ⟨g27, 0, none⟩), .pointer (some ⟨g15, 0, none⟩)]] #[], .func (.func 55) #[.agg #[.pointer (some ⟨g27, 0, none⟩), .pointer (some ⟨g15, 0, none⟩)]] #[]] fun w262 B263 hu264 => Pl 1 <| nt <| sq <| sg <| Pl 2 <| nt <| c0 <| ?_
 refine skn <| sg <| Pl 2 <| L0 <| Olb B263 1 <| ?_
 have U265 := u1 hu35 hu38 (nr hg33)
 have U266 := ut0 U265 hu43
 have U267 := u1 U266 hu47 (ni U265.size hg41)
 have U268 := u1 U267 hu52 (ni U265.size hg41)
 have U269 := u1 U268 hu56 (ni U265.size hg41)
 have U270 := u1 U269 hu60 (ni U265.size hg41)
 have U271 := ut0 U270 hu261
 have U272 := u1 U271 hu264 (ni U270.size hg259)
 have r273 := CurAt.old hc29 U272
 have U274 := ut0 hu30 hu35
 have U275 := u1 U274 hu38 (ni hu30.size hg33)
 have U276 := ut0 U275 hu43
 have U277 := u1 U276 hu47 (ni U275.size hg41)
 have U278 := u1 U277 hu52 (ni U275.size hg41)
 have U279 := u1 U278 hu56 (ni U275.size hg41)
 have U280 := u1 U279 hu60 (ni U275.size hg41)
 have U281 := ut0 U280 hu261
 have U282 := u1 U281 hu264 (ni U280.size hg259)
 have r283 := ub U282 B21
 have ne290 := nb (blk_lt B18) hu22.size hg28
 refine L0 <| Ocv #[.agg #[.pointer (some ⟨g27, 0, none⟩), .pointer (some ⟨g15, 0, none⟩)]] #[] (args := #[.agg #[.pointer (some ⟨g27, 0, none⟩), .pointer (some ⟨g15, 0, none⟩)]]) <| m3 (csets_any (c := c) ⟨hcode1, hcode2⟩ r273 r283 (Ne.symm ne290)) fun w284 hc285 hx294 hu289 => ?_
 obtain ⟨cs286, hm287, hM288⟩ := hx294
 refine ab hc285 fun x291 ex292 hc293 => ?_
 refine ng <| Pl 1 <| ?_
 have U295 := ut0 hu60 hu261
 have U296 := u1 U295 hu264 (ni hu60.size hg259)
 have U297 := ut (Upd.mono (S' := [g39, g27, g15]) U296 (ac im all0)) hu289 (ac im (ac im all0))
 have ne298 := nb (blk_lt B18) (le hu22.size hu30.size) hg33
 have ne299 := nb (CurAt.lt hc29) lr hg33
 have r300 := Upd.blk U297 (not_cons ne48 (not_cons (Ne.symm ne299) (not_cons (Ne.symm ne298) not0))) r57
 refine L0 <| Olb r300 0 <| L0 <| Oc <| m2 (end_any hc293) fun w301 hc302 hu303 => nt <| sq <| sg <| Pl 1 <| ?_
 have r304 := ub1 hu303 (Ne.symm ne299) r300
 refine L0 <| Olb r304 0 <| L0 <| Oc <| mq (err_any hc302) <| ?_
 have hl305 := CurAt.len hc302
 refine Pl 1 <| ng <| Pl 2 <| nt <| ?_
 have U306 := ut0 U68 hu261
 have U307 := u1 U306 hu264 (ni U68.size hg259)
 have U308 := ut U307 hu289 (ac (ni U24.size hg28) (ac (ni hu14.size hg17) all0))
 have U309 := u1 U308 hu303 (ni U24.size hg28)
 refine cb ((x291.endC.e != 0)) (fun q310 => ?_) (fun q310 => ?_)
 have q310p := ne_of_bnei q310
 refine sg <| Pl 2 <| ?_
 have U311 := u1 hu19 hu22 (nr hg17)
 have U312 := ut0 U311 hu30
 have U313 := ut0 U312 hu35
 have U314 := u1 U313 hu38 (ni U312.size hg33)
 have U315 := ut0 U314 hu43
 have U316 := u1 U315 hu47 (ni U314.size hg41)
 have U317 := u1 U316 hu52 (ni U314.size hg41)
 have U318 := u1 U317 hu56 (ni U314.size hg41)
 have U319 := u1 U318 hu60 (ni U314.size hg41)
 have U320 := ut0 U319 hu261
 have U321 := u1 U320 hu264 (ni U319.size hg259)
 have U322 := ut U321 hu289 (ac (ni U311.size hg28) (ac (nr hg17) all0))
 have U323 := u1 U322 hu303 (ni U311.size hg28)
 have r324 := ub U323 B13
 refine L0 <| Osw r324 mZ fun w325 B326 hu327 => Pl 1 <| nt <| rt <| tr <| rct B326 (.int .i64 x291.endC.e) <| ?_
 subst ex292
 have U328 := u1 U309 hu327 (nr hg12)
 have hs : parseOf coilsForm 1 c b = finish ((csetsR c (Cur.mk b false 0)).2) ((csetsR c (Cur.mk b false 0)).1) := by
   unfold parseOf coilsForm 
   (try simp only [q310, bs, if_true, if_false, decide_true, decide_false, eq_self, true_or, or_true, or_false, false_or, if_true, if_false, i00, i01, i10, i11, reduceIte, k1, k2, k5, k15])
   all_goals rfl
 rw [hs]
 exact finish_bad q310p U328
 have q310p := eq_of_bnei q310
 refine skn <| sg <| ?_
 have r329 := ub1 hu303 ne290 hm287.1
 refine L0 <| Olw (hz := (by rw [hm287.2]; exact msg_size)) r329 <| ?_
 have U330 := u1 hu19 hu22 (nr hg17)
 have U331 := ut0 U330 hu30
 have U332 := ut0 U331 hu35
 have U333 := u1 U332 hu38 (ni U331.size hg33)
 have U334 := ut0 U333 hu43
 have U335 := u1 U334 hu47 (ni U333.size hg41)
 have U336 := u1 U335 hu52 (ni U333.size hg41)
 have U337 := u1 U336 hu56 (ni U333.size hg41)
 have U338 := u1 U337 hu60 (ni U333.size hg41)
 have U339 := ut0 U338 hu261
 have U340 := u1 U339 hu264 (ni U338.size hg259)
 have U341 := ut U340 hu289 (ac (ni U330.size hg28) (ac (nr hg17) all0))
 have U342 := u1 U341 hu303 (ni U330.size hg28)
 have r343 := ub U342 B13
 refine L0 <| Osw (hz := (by rw [hm287.2]; exact msg_size)) (hv := hM288.size) (h1 := hM288.one) r343 (cs286) fun w344 B345 hu346 => Pl 1 <| nt <| rt <| rctx 22 hm287.2 B345 (.int .i64 0) <| ?_
 subst ex292
 have U347 := u1 U309 hu346 (nr hg12)
 have hs : parseOf coilsForm 1 c b = finish ((csetsR c (Cur.mk b false 0)).2) ((csetsR c (Cur.mk b false 0)).1) := by
   unfold parseOf coilsForm 
   (try simp only [q310, bs, if_true, if_false, decide_true, decide_false, eq_self, true_or, or_true, or_false, false_or, if_true, if_false, i00, i01, i10, i11, reduceIte, k1, k2, k5, k15])
   all_goals rfl
 rw [hs]
 have U348 := u1 (Upd.mono (S' := [g27, g10]) hu303 (ac im all0)) hu346 im
 have r349 := ub U341 B13
 have r350 := MsgRd.upd hM288 U348 (safe_cons (CurAt.safe hc293 _ (by decide)) (safe_cons (safe1 r349 (by decide)) safe0))
 exact finish_ok q310p r350 U347
 have k1 : (c == 1) = false := by rw [hk]; rfl
 have k2 : (c == 2) = false := by rw [hk]; rfl
 have k5 : (c == 5) = false := by rw [hk]; rfl
 have k15 : (c == 15) = true := by rw [hk]; rfl
 refine L0 <| Olk (hf := (by subst hk; kernel_rfl)) B59 c (.agg #[.nilFunc, .nilFunc]) (some (3, .agg #[.func (.func 56) #[.agg #[.pointer (some ⟨g27, 0, none⟩), .pointer (some ⟨g15, 0, none⟩)]] #[], .func (.func 57) #[.agg #[.pointer (some ⟨g27, 0, none⟩), .pointer (some ⟨g15, 0, none⟩)]] #[]])) <| Pl 3 <| L0 <| Oal #[.nilFunc, .nilFunc] fun g351 w352 hg353 B354 hu355 => L0 <| Osw B354 #[.func (.func 56) #[.agg #[.pointer (some ⟨g27, 0, none⟩), .pointer (some ⟨g15, 0, none⟩)]] #[], .func (.func 57) #[.agg #[.pointer (some ⟨g27, 0, none⟩), .pointer (some ⟨g15, 0, none⟩)]] #[]] fun w356 B357 hu358 => Pl 1 <| nt <| sq <| sg <| Pl 2 <| nt <| c0 <| ?_
 refine skn <| sg <| Pl 2 <| L0 <| Olb B357 1 <| ?_
 have U359 := u1 hu35 hu38 (nr hg33)
 have U360 := ut0 U359 hu43
 have U361 := u1 U360 hu47 (ni U359.size hg41)
 have U362 := u1 U361 hu52 (ni U359.size hg41)
 have U363 := u1 U362 hu56 (ni U359.size hg41)
 have U364 := u1 U363 hu60 (ni U359.size hg41)
 have U365 := ut0 U364 hu355
 have U366 := u1 U365 hu358 (ni U364.size hg353)
 have r367 := CurAt.old hc29 U366
 have U368 := ut0 hu30 hu35
 have U369 := u1 U368 hu38 (ni hu30.size hg33)
 have U370 := ut0 U369 hu43
 have U371 := u1 U370 hu47 (ni U369.size hg41)
 have U372 := u1 U371 hu52 (ni U369.size hg41)
 have U373 := u1 U372 hu56 (ni U369.size hg41)
 have U374 := u1 U373 hu60 (ni U369.size hg41)
 have U375 := ut0 U374 hu355
 have U376 := u1 U375 hu358 (ni U374.size hg353)
 have r377 := ub U376 B21
 have ne384 := nb (blk_lt B18) hu22.size hg28
 refine L0 <| Ocv #[.agg #[.pointer (some ⟨g27, 0, none⟩), .pointer (some ⟨g15, 0, none⟩)]] #[] (args := #[.agg #[.pointer (some ⟨g27, 0, none⟩), .pointer (some ⟨g15, 0, none⟩)]]) <| m3 (done_any (c := c) ⟨hcode1, hcode2⟩ r367 r377 (Ne.symm ne384)) fun w378 hc379 hx388 hu383 => ?_
 obtain ⟨cs380, hm381, hM382⟩ := hx388
 refine ab hc379 fun x385 ex386 hc387 => ?_
 refine ng <| Pl 1 <| ?_
 have U389 := ut0 hu60 hu355
 have U390 := u1 U389 hu358 (ni hu60.size hg353)
 have U391 := ut (Upd.mono (S' := [g39, g27, g15]) U390 (ac im all0)) hu383 (ac im (ac im all0))
 have ne392 := nb (blk_lt B18) (le hu22.size hu30.size) hg33
 have ne393 := nb (CurAt.lt hc29) lr hg33
 have r394 := Upd.blk U391 (not_cons ne48 (not_cons (Ne.symm ne393) (not_cons (Ne.symm ne392) not0))) r57
 refine L0 <| Olb r394 0 <| L0 <| Oc <| m2 (end_any hc387) fun w395 hc396 hu397 => nt <| sq <| sg <| Pl 1 <| ?_
 have r398 := ub1 hu397 (Ne.symm ne393) r394
 refine L0 <| Olb r398 0 <| L0 <| Oc <| mq (err_any hc396) <| ?_
 have hl399 := CurAt.len hc396
 refine Pl 1 <| ng <| Pl 2 <| nt <| ?_
 have U400 := ut0 U68 hu355
 have U401 := u1 U400 hu358 (ni U68.size hg353)
 have U402 := ut U401 hu383 (ac (ni U24.size hg28) (ac (ni hu14.size hg17) all0))
 have U403 := u1 U402 hu397 (ni U24.size hg28)
 refine cb ((x385.endC.e != 0)) (fun q404 => ?_) (fun q404 => ?_)
 have q404p := ne_of_bnei q404
 refine sg <| Pl 2 <| ?_
 have U405 := u1 hu19 hu22 (nr hg17)
 have U406 := ut0 U405 hu30
 have U407 := ut0 U406 hu35
 have U408 := u1 U407 hu38 (ni U406.size hg33)
 have U409 := ut0 U408 hu43
 have U410 := u1 U409 hu47 (ni U408.size hg41)
 have U411 := u1 U410 hu52 (ni U408.size hg41)
 have U412 := u1 U411 hu56 (ni U408.size hg41)
 have U413 := u1 U412 hu60 (ni U408.size hg41)
 have U414 := ut0 U413 hu355
 have U415 := u1 U414 hu358 (ni U413.size hg353)
 have U416 := ut U415 hu383 (ac (ni U405.size hg28) (ac (nr hg17) all0))
 have U417 := u1 U416 hu397 (ni U405.size hg28)
 have r418 := ub U417 B13
 refine L0 <| Osw r418 mZ fun w419 B420 hu421 => Pl 1 <| nt <| rt <| tr <| rct B420 (.int .i64 x385.endC.e) <| ?_
 subst ex386
 have U422 := u1 U403 hu421 (nr hg12)
 have hs : parseOf coilsForm 1 c b = finish ((asksR 1968 c (Cur.mk b false 0)).2) ((asksR 1968 c (Cur.mk b false 0)).1) := by
   unfold parseOf coilsForm 
   (try simp only [q404, bs, if_true, if_false, decide_true, decide_false, eq_self, true_or, or_true, or_false, false_or, if_true, if_false, i00, i01, i10, i11, reduceIte, k1, k2, k5, k15])
   all_goals rfl
 rw [hs]
 exact finish_bad q404p U422
 have q404p := eq_of_bnei q404
 refine skn <| sg <| ?_
 have r423 := ub1 hu397 ne384 hm381.1
 refine L0 <| Olw (hz := (by rw [hm381.2]; exact msg_size)) r423 <| ?_
 have U424 := u1 hu19 hu22 (nr hg17)
 have U425 := ut0 U424 hu30
 have U426 := ut0 U425 hu35
 have U427 := u1 U426 hu38 (ni U425.size hg33)
 have U428 := ut0 U427 hu43
 have U429 := u1 U428 hu47 (ni U427.size hg41)
 have U430 := u1 U429 hu52 (ni U427.size hg41)
 have U431 := u1 U430 hu56 (ni U427.size hg41)
 have U432 := u1 U431 hu60 (ni U427.size hg41)
 have U433 := ut0 U432 hu355
 have U434 := u1 U433 hu358 (ni U432.size hg353)
 have U435 := ut U434 hu383 (ac (ni U424.size hg28) (ac (nr hg17) all0))
 have U436 := u1 U435 hu397 (ni U424.size hg28)
 have r437 := ub U436 B13
 refine L0 <| Osw (hz := (by rw [hm381.2]; exact msg_size)) (hv := hM382.size) (h1 := hM382.one) r437 (cs380) fun w438 B439 hu440 => Pl 1 <| nt <| rt <| rctx 22 hm381.2 B439 (.int .i64 0) <| ?_
 subst ex386
 have U441 := u1 U403 hu440 (nr hg12)
 have hs : parseOf coilsForm 1 c b = finish ((asksR 1968 c (Cur.mk b false 0)).2) ((asksR 1968 c (Cur.mk b false 0)).1) := by
   unfold parseOf coilsForm 
   (try simp only [q404, bs, if_true, if_false, decide_true, decide_false, eq_self, true_or, or_true, or_false, false_or, if_true, if_false, i00, i01, i10, i11, reduceIte, k1, k2, k5, k15])
   all_goals rfl
 rw [hs]
 have U442 := u1 (Upd.mono (S' := [g27, g10]) hu397 (ac im all0)) hu440 im
 have r443 := ub U435 B13
 have r444 := MsgRd.upd hM382 U442 (safe_cons (CurAt.safe hc387 _ (by decide)) (safe_cons (safe1 r443 (by decide)) safe0))
 exact finish_ok q404p r444 U441
 have k1 : (c == 1) = false := by simpa using hk.1
 have k2 : (c == 2) = false := by simpa using hk.2.1
 have k5 : (c == 5) = false := by simpa using hk.2.2.1
 have k15 : (c == 15) = false := by simpa using hk.2.2.2
 refine L0 <| Olk (hf := (fno (q := .u8) (x := c) #[⟨.int .u8 1, .agg #[.func (.func 53) #[.agg #[.pointer (some ⟨g27, 0, none⟩), .pointer (some ⟨g15, 0, none⟩)]] #[], .func (.func 54) #[.agg #[.pointer (some ⟨g27, 0, none⟩), .pointer (some ⟨g15, 0, none⟩)]] #[]], 0⟩, ⟨.int .u8 2, .agg #[.func (.func 53) #[.agg #[.pointer (some ⟨g27, 0, none⟩), .pointer (some ⟨g15, 0, none⟩)]] #[], .func (.func 54) #[.agg #[.pointer (some ⟨g27, 0, none⟩), .pointer (some ⟨g15, 0, none⟩)]] #[]], 1⟩, ⟨.int .u8 5, .agg #[.func (.func 55) #[.agg #[.pointer (some ⟨g27, 0, none⟩), .pointer (some ⟨g15, 0, none⟩)]] #[], .func (.func 55) #[.agg #[.pointer (some ⟨g27, 0, none⟩), .pointer (some ⟨g15, 0, none⟩)]] #[]], 2⟩, ⟨.int .u8 15, .agg #[.func (.func 56) #[.agg #[.pointer (some ⟨g27, 0, none⟩), .pointer (some ⟨g15, 0, none⟩)]] #[], .func (.func 57) #[.agg #[.pointer (some ⟨g27, 0, none⟩), .pointer (some ⟨g15, 0, none⟩)]] #[]], 3⟩] (findNow_no _ _ (by intro e he; simp only [List.mem_cons, List.not_mem_nil, or_false] at he; obtain ⟨z1, z2, z5, z15⟩ := hk; rcases he with rfl | rfl | rfl | rfl <;> exact ⟨_, rfl, fun h => by simp_all⟩)))) B59 c (.agg #[.nilFunc, .nilFunc]) none <| Pl 3 <| L0 <| Oal #[.nilFunc, .nilFunc] fun g445 w446 hg447 B448 hu449 => L0 <| Osw B448 #[.nilFunc, .nilFunc] fun w450 B451 hu452 => Pl 1 <| nt <| sq <| sg <| Pl 2 <| nt <| c1 <| ?_
 refine sg <| Pl 1 <| ?_
 have U453 := u1 hu19 hu22 (nr hg17)
 have U454 := ut0 U453 hu30
 have U455 := ut0 U454 hu35
 have U456 := u1 U455 hu38 (ni U454.size hg33)
 have U457 := ut0 U456 hu43
 have U458 := u1 U457 hu47 (ni U456.size hg41)
 have U459 := u1 U458 hu52 (ni U456.size hg41)
 have U460 := u1 U459 hu56 (ni U456.size hg41)
 have U461 := u1 U460 hu60 (ni U456.size hg41)
 have U462 := ut0 U461 hu449
 have U463 := u1 U462 hu452 (ni U461.size hg447)
 have r464 := ub U463 B13
 refine L0 <| Osw r464 mZ fun w465 B466 hu467 => Pl 1 <| nt <| rt <| tr <| rct B466 (.int .i64 4) <| ?_
 have U468 := ut0 U68 hu449
 have U469 := u1 U468 hu452 (ni U68.size hg447)
 have U470 := u1 U469 hu467 (nr hg12)
 have hs : parseOf coilsForm 1 c b = (Msg.zero, 4) := by
   unfold parseOf coilsForm 
   (try simp only [bs, if_true, if_false, decide_true, decide_false, eq_self, true_or, or_true, or_false, false_or, if_true, if_false, i00, i01, i10, i11, reduceIte, k1, k2, k5, k15])
   all_goals rfl
 rw [hs]
 exact bad_res U470
set_option maxRecDepth 100000 in
set_option maxHeartbeats 4000000 in
theorem coils_parse_x {m : Bool} {A : Option Addr} {cp : Nat} {b : List Int} {w : World} {dir c : Int} (hcode : B8 c) (hsl : RdB m w (.slice A b.length cp) b) (hb : b.length ≤ 1048576) (hd : ¬ (dir = 0 ∨ dir = 1)) :
    Calls Try.prog 37 #[.int .i64 dir, .int .u8 c, .slice A b.length cp] w (PMsg (parseOf coilsForm dir c b) w) := by
 obtain ⟨hcode1, hcode2⟩ := hcode
 have hln : (b.length : Int) ≤ 1048576 := by omega
 have e0 : (dir != 0) = true := by simp; omega
 have e1 : (dir != 1) = true := by simp; omega
 refine en 72 Try.func37 rfl <| sg <| L0 <| Oal mZ fun g10 w11 hg12 B13 hu14 => Pl 1 <| nt <| sq <| sg <| Pl 3 <| sy 16 e0 <| Pl 3 <| nl <| ?_
 refine tn <| ct e1 <| sg <| Pl 1 <| L0 <| Osw B13 mZ fun w15 B16 hu17 => Pl 1 <| nt <| rt <| tr <| rct B16 (.int .i64 1) <| ?_
 have U18 := u1 hu14 hu17 (nr hg12)
 have hs : parseOf coilsForm dir c b = (Msg.zero, 1) := by
   unfold parseOf coilsForm 
   (try simp only [e0, e1, bs, if_true, if_false, decide_true, decide_false, eq_self, true_or, or_true, or_false, false_or, if_true, if_false, i00, i01, i10, i11, reduceIte, hd])
   all_goals rfl
 rw [hs]
 exact bad_res U18
theorem coils_parse {m : Bool} {v : Value} {b : List Int} {w : World} {dir c : Int} (hc : B8 c) (h : RdB m w v b) (hb : b.length ≤ 1048576) :
    Calls Try.prog 37 #[.int .i64 dir, .int .u8 c, v] w (PMsg (parseOf coilsForm dir c b) w) := by
  obtain ⟨A, cp, rfl, _, _⟩ := h.shape
  by_cases h0 : dir = 0
  · subst h0; exact coils_parse_0 hc h hb
  by_cases h1 : dir = 1
  · subst h1; exact coils_parse_1 hc h hb
  exact coils_parse_x hc h hb (by omega)
open Go.RowKit
def PMkF (Q : World → Ending → World → Prop) (w : World) (e : Ending) (w' : World) : Prop := ∃ F free, e = .returned (.func (.func F) #[] free) ∧ fnO Try.prog F = some (false, true) ∧ Upd [] w w' ∧ Calls Try.prog F free w' (Q w')
set_option maxRecDepth 100000 in
set_option maxHeartbeats 4000000 in
theorem rspan_any {g : Nat} {C : Cur} {w : World} {a most : Int} (hC : CurAt w g C) (ha : 0 ≤ a ∧ a < 65536) :
    Calls Try.prog 85 #[.pointer (some ⟨g, 0, none⟩), .int .u16 a, .int .i64 most] w (PByte g .i64 65536 C.wordV (rspanC C a most) w) := by
 have hlen := hC.len
 have hrr := hC.wordV
 refine en 26 Try.func85 rfl <| sg <| Pl 1 <| ng <| Pl 1 <| L0 <| Oc <| m3 (word_any hC) fun w10 hc11 hu12 hr13 => L0 <| Oi C.wordV <| Pl 1 <| nt <| ?_
 refine sg <| Pl 4 <| cu 4 [14] 18 (((decide (1 ≤ C.wordV)) && (decide (C.wordV ≤ most)))) (fun K K15 => ?_) ?_
 refine bl 14 ((decide (1 ≤ C.wordV))) (fun q14 => ?_) (fun q14 => ?_)
 have q14p := of_decide_eq_true q14
 exact Pl 4 <| ce K15 (decide (C.wordV ≤ most)) (by rw [q14]; rfl)
 have q14p := of_decide_eq_false q14
 exact Pl 4 <| ce K15 false (by rw [q14]; rfl)
 refine L0 <| Oc <| m2 (need_any (((decide (1 ≤ C.wordV)) && (decide (C.wordV ≤ most)))) 5 hc11) fun w16 hc17 hu18 => ng <| Pl 3 <| L0 <| Oc <| mq (within_any (a := a) (n := C.wordV) (by omega)) <| L0 <| Oc <| m2 (need_any ((within a C.wordV)) 7 hc17) fun w19 hc20 hu21 => ng <| Pl 2 <| nl <| ?_
 refine tn <| rt <| rr (.int .i64 C.wordV) <| ?_
 have hs : rspanC C a most = (((C.wordsC 1).need ((decide (1 ≤ C.wordV)) && (decide (C.wordV ≤ most))) 5).need (within a C.wordV) 7) := by
   unfold rspanC
   (try simp only [bs, if_true, if_false, decide_true, decide_false, reduceIte])
   all_goals rfl
 rw [hs]
 have U22 := u1 hu12 hu18 im
 have U23 := u1 U22 hu21 im
 exact ⟨rfl, hc20, U23, hrr⟩
set_option maxRecDepth 100000 in
set_option maxHeartbeats 4000000 in
theorem counted_any {g : Nat} {C : Cur} {w : World} {n : Int} (hC : CurAt w g C) (hn : 0 ≤ n ∧ n < 65536) :
    Calls Try.prog 90 #[.pointer (some ⟨g, 0, none⟩), .int .i64 n] w (fun e w' => ∃ v, e = .returned v ∧ OwnW w.heap.size w' v ((countedC1 C n).wordsR n) ∧ CurAt w' g ((countedC1 C n).wordsC n) ∧ Upd [g] w w') := by
 have hlen := hC.len
 refine en 16 Try.func90 rfl <| sg <| Pl 1 <| ng <| Pl 2 <| L0 <| Oc <| m3 (byte_any hC) fun w10 hc11 hu12 hr13 => L0 <| Oi C.byteV <| Pl 1 <| L0 <| Oi (2 * n) <| Pl 1 <| L0 <| Oc <| m2 (need_any ((C.byteV == (2 * n))) 5 hc11) fun w14 hc15 hu16 => ?_
 refine ng <| Pl 2 <| L0 <| Oc <| so3 (words_any (n := n) hc15) fun A24 cp25 w17 rd28 hl26 hm27 hc20 hu21 => Pl 1 <| nt <| rt <| rr (.slice A24 ((((C.bytesC 1).need (C.byteV == (2 * n)) 5).wordsR n).length) cp25) <| ?_
 have hs : countedC1 C n = ((C.bytesC 1).need (C.byteV == (2 * n)) 5) := by
   unfold countedC1
   (try simp only [bs, if_true, if_false, decide_true, decide_false, reduceIte])
   all_goals rfl
 rw [hs]
 have U29 := u1 hu12 hu16 im
 have U30 := u1 U29 hu21 im
 exact ⟨_, rfl, (OwnG.weaken rd28 (le hu12.size hu16.size)), hc20, U30⟩
set_option maxRecDepth 100000 in
set_option maxHeartbeats 4000000 in
theorem where_any {most : Int} {g gm : Nat} {c : Int} {C : Cur} {w : World} (hcode : B8 c) (hC : CurAt w g C) (hm : w.heap[gm]? = some (.cells (mC c) 29 (0, 0))) (hne : g ≠ gm) {bc : Nat} {bm : Nat} (hbc : w.heap[bc]? = some (.cells #[.pointer (some ⟨g, 0, none⟩)] 69 (0, 0))) (n_bc_g : bc ≠ g) (n_bc_gm : bc ≠ gm) (hbm : w.heap[bm]? = some (.cells #[.pointer (some ⟨gm, 0, none⟩)] 89 (0, 0))) (n_bm_g : bm ≠ g) (n_bm_gm : bm ≠ gm) :
    Calls Try.prog 84 #[.int .i64 most, .pointer (some ⟨bc, 0, none⟩), .pointer (some ⟨bm, 0, none⟩)] w (PCells g gm (rspanC (C.wordsC 1) C.wordV most) (mG c 0 C.wordV (C.wordsC 1).wordV 0 0 0 0 0 0 0 0 nS nS nS nS 0 0 0 0 0 nS) w) := by
 obtain ⟨hcode1, hcode2⟩ := hcode
 have hlen := hC.len
 refine en 20 Try.func84 rfl <| sq <| Rg 6 (fun w' => w'.cell? ⟨bm, 0, none⟩ = some (.pointer (some ⟨gm, 0, none⟩)) ∧ w'.cell? ⟨bc, 0, none⟩ = some (.pointer (some ⟨g, 0, none⟩))) fun w18 hu19 => ?_
 have r21 := ub hu19 hbm
 have r22 := ub hu19 hbc
 refine hld ⟨(blk_at r21 rfl), (blk_at r22 rfl)⟩ fun hS20 => Rl 0 hS20 (fun _ hs => hs.1) <| Rl 1 hS20 (fun _ hs => hs.2) <| ?_
 have r23 := CurAt.old hC hu19
 refine R0 2 rfl <| Oc <| m3 (word_any r23) fun w24 hc25 hu26 hr27 => ?_
 have r29 := ub1 hu26 n_bm_g r21
 have r30 := ub1 hu26 n_bc_g r22
 refine hld ⟨(blk_at r29 rfl), (blk_at r30 rfl)⟩ fun hS28 => Rt 3 hS28 <| Rt 4 hS28 <| ?_
 have U31 := u1 (Upd.mono (S' := [g]) hu19 all0) hu26 im
 have r32 := ub1 U31 (Ne.symm hne) hm
 refine R0 5 rfl <| Ost r32 2 (mG c 0 C.wordV 0 0 0 0 0 0 0 0 0 nS nS nS nS 0 0 0 0 0 nS) fun w33 B34 hu35 => ?_
 have r37 := ub1 hu35 n_bm_gm r29
 have r38 := ub1 hu35 n_bc_gm r30
 refine hld ⟨(blk_at r37 rfl), (blk_at r38 rfl)⟩ fun hS36 => re <| tn <| Rg 12 (fun w' => w'.cell? ⟨bm, 0, none⟩ = some (.pointer (some ⟨gm, 0, none⟩)) ∧ w'.cell? ⟨bc, 0, none⟩ = some (.pointer (some ⟨g, 0, none⟩)) ∧ w'.cell? ⟨gm, 2, none⟩ = some (.int .u16 C.wordV)) fun w48 hu49 => ?_
 have r51 := ub hu49 r37
 have r52 := ub hu49 r38
 have r53 := ub hu49 B34
 refine hld ⟨(blk_at r51 rfl), (blk_at r52 rfl), (blk_at r53 rfl)⟩ fun hS50 => Rl 0 hS50 (fun _ hs => hs.1) <| Rl 1 hS50 (fun _ hs => hs.2.1) <| Rl 2 hS50 (fun _ hs => hs.1) <| Rt 3 hS50 <| Rt 4 hS50 <| Rl 5 hS50 (fun _ hs => hs.2.2) <| Rt 6 hS50 <| ?_
 have U54 := ut0 hu35 hu49
 have r55 := CurAt.upd hc25 U54 (not_cons hne not0) (safe_cons (safe1 r32 (by decide)) safe0)
 refine R0 7 rfl <| Oc <| m3 (rspan_any (a := C.wordV) (most := most) r55 (by omega)) fun w56 hc57 hu58 hr59 => ?_
 have r61 := ub1 hu58 n_bm_g r51
 have r62 := ub1 hu58 n_bc_g r52
 have r63 := ub1 hu58 (Ne.symm hne) r53
 refine hld ⟨(blk_at r61 rfl), (blk_at r62 rfl), (blk_at r63 rfl)⟩ fun hS60 => Rr 8 hS60 (.int .u16 ((C.wordsC 1).wordV)) (fun _ _ => run_eqo (.int .u16 (IntKind.u16.wrap ((C.wordsC 1).wordV))) (by kernel_rfl) (congrArg (Value.int .u16) (u16_in (by omega)))) <| Rt 9 hS60 <| Rt 10 hS60 <| R0 11 rfl <| Ost r63 3 (mG c 0 C.wordV ((C.wordsC 1).wordV) 0 0 0 0 0 0 0 0 nS nS nS nS 0 0 0 0 0 nS) fun w64 B65 hu66 => ?_
 have r68 := ub1 hu66 n_bm_gm r61
 have r69 := ub1 hu66 n_bc_gm r62
 refine hld ⟨(blk_at r68 rfl), (blk_at r69 rfl), (blk_at B65 rfl)⟩ fun hS67 => re <| rm (.tuple #[]) <| ?_
 have r70 := CurAt.upd hc57 hu66 (not_cons hne not0) (safe_cons (safe1 r63 (by decide)) safe0)
 have U71 := u1 (Upd.mono (S' := [g, gm]) U31 (ac im all0)) hu35 im
 have U72 := ut0 U71 hu49
 have U73 := u1 U72 hu58 im
 have U74 := u1 U73 hu66 im
 exact ⟨rfl, r70, B65, U74⟩
set_option maxRecDepth 100000 in
set_option maxHeartbeats 4000000 in
theorem rc2 {g gm : Nat} {c : Int} {C : Cur} {w : World} (hcode : B8 c) (hC : CurAt w g C) (hm : w.heap[gm]? = some (.cells (mC c) 29 (0, 0))) (hne : g ≠ gm) {bc : Nat} {bm : Nat} {bw : Nat} (hbc : w.heap[bc]? = some (.cells #[.pointer (some ⟨g, 0, none⟩)] 69 (0, 0))) (n_bc_g : bc ≠ g) (n_bc_gm : bc ≠ gm) (hbm : w.heap[bm]? = some (.cells #[.pointer (some ⟨gm, 0, none⟩)] 89 (0, 0))) (n_bm_g : bm ≠ g) (n_bm_gm : bm ≠ gm) (hbw : w.heap[bw]? = some (.cells #[.func (.func 84) #[] #[.pointer (some ⟨bc, 0, none⟩), .pointer (some ⟨bm, 0, none⟩)]] 123 (0, 0))) (n_bw_g : bw ≠ g) (n_bw_gm : bw ≠ gm) :
    Calls Try.prog 86 #[.pointer (some ⟨bw, 0, none⟩)] w (PFormG g gm (rasksR 125 c C).1 (rasksR 125 c C).2 w) := by
 obtain ⟨hcode1, hcode2⟩ := hcode
 have hlen := hC.len
 refine en 3 Try.func86 rfl <| go <| L0 <| Olb hbw 0 <| L0 <| Ocv #[] #[.pointer (some ⟨bc, 0, none⟩), .pointer (some ⟨bm, 0, none⟩)] (args := #[.int .i64 125, .pointer (some ⟨bc, 0, none⟩), .pointer (some ⟨bm, 0, none⟩)]) <| m3 (where_any (most := 125) ⟨hcode1, hcode2⟩ hC hm hne hbc n_bc_g n_bc_gm hbm n_bm_g n_bm_gm) fun w10 hc11 B12 hu13 => ?_
 have hr14 := (hC).wordV
 have hr15 := wordV_rng (wordsC_rng (hC).rng 1)
 refine nl <| rm (.tuple #[]) <| ?_
 have hs : rasksR 125 c C = ((rspanC (C.wordsC 1) C.wordV 125), (Msg.mk c 0 C.wordV ((C.wordsC 1).wordV) 0 0 0 0 0 0 0 0 [] [] [] [] 0 0 0 0 0 [])) := by
   unfold rasksR
   (try simp only [bs, if_true, if_false, decide_true, decide_false, reduceIte])
   all_goals rfl
 rw [hs]
 exact ⟨rfl, hc11, ⟨_, ⟨B12, rfl⟩, ⟨_, _, _, _, _, rfl, RdG.nil .., RdG.nil .., RdG.nil .., RdG.nil .., RdG.nil .., ⟨(b8 (x := c) (by omega)), (b8 (x := 0) (by omega)), (b16 (x := C.wordV) (by omega)), (b16 (x := (C.wordsC 1).wordV) (by omega)), (b16 (x := 0) (by omega)), (b16 (x := 0) (by omega)), (b16 (x := 0) (by omega)), (b16 (x := 0) (by omega)), (b16 (x := 0) (by omega)), (b16 (x := 0) (by omega)), (b16 (x := 0) (by omega)), (b16 (x := 0) (by omega)), (b8 (x := 0) (by omega)), (b8 (x := 0) (by omega)), (b8 (x := 0) (by omega)), (b8 (x := 0) (by omega)), (b8 (x := 0) (by omega))⟩⟩⟩, hu13⟩
set_option maxRecDepth 100000 in
set_option maxHeartbeats 4000000 in
theorem rc3 {g gm : Nat} {c : Int} {C : Cur} {w : World} (hcode : B8 c) (hC : CurAt w g C) (hm : w.heap[gm]? = some (.cells (mC c) 29 (0, 0))) (hne : g ≠ gm) {bc : Nat} {bm : Nat} (hbc : w.heap[bc]? = some (.cells #[.pointer (some ⟨g, 0, none⟩)] 69 (0, 0))) (n_bc_g : bc ≠ g) (n_bc_gm : bc ≠ gm) (hbm : w.heap[bm]? = some (.cells #[.pointer (some ⟨gm, 0, none⟩)] 89 (0, 0))) (n_bm_g : bm ≠ g) (n_bm_gm : bm ≠ gm) :
    Calls Try.prog 87 #[.pointer (some ⟨bc, 0, none⟩), .pointer (some ⟨bm, 0, none⟩)] w (PFormG g gm (rtoldR c C).1 (rtoldR c C).2 w) := by
 obtain ⟨hcode1, hcode2⟩ := hcode
 have hlen := hC.len
 refine en 26 Try.func87 rfl <| sg <| L0 <| Olb hbc 0 <| L0 <| Oc <| m3 (byte_any hC) fun w10 hc11 hu12 hr13 => L0 <| Oi C.byteV <| Pl 1 <| ng <| ?_
 have r14 := ub1 hu12 n_bc_g hbc
 refine L0 <| Olb r14 0 <| Pl 1 <| L0 <| Oe (.int .i64 (Int.tmod C.byteV 2)) (.int .i64 (C.byteV % 2)) (congrArg (Value.int .i64) (Int.tmod_eq_emod_of_nonneg (by omega))) <| Pl 2 <| cu 3 [10] 13 ((((C.byteV % 2) == 0) && (decide (2 ≤ C.byteV)))) (fun K K16 => ?_) ?_
 refine bl 10 (((C.byteV % 2) == 0)) (fun q15 => ?_) (fun q15 => ?_)
 have q15p := eq_of_beqi q15
 exact Pl 3 <| ce K16 (decide (2 ≤ C.byteV)) (by rw [q15]; rfl)
 have q15p := ne_of_beqi q15
 exact Pl 3 <| ce K16 false (by rw [q15]; rfl)
 refine Pl 1 <| cu 3 [14] 17 (((((C.byteV % 2) == 0) && (decide (2 ≤ C.byteV))) && (decide (C.byteV ≤ 250)))) (fun K K18 => ?_) ?_
 refine bl 14 ((((C.byteV % 2) == 0) && (decide (2 ≤ C.byteV)))) (fun q17 => ?_) (fun q17 => ?_)
 have q17a := (and_t q17).1
 have q17b := (and_t q17).2
 have q17ap := eq_of_beqi q17a
 have q17bp := of_decide_eq_true q17b
 exact Pl 3 <| ce K18 (decide (C.byteV ≤ 250)) (by rw [q17]; rfl)
 exact Pl 3 <| ce K18 false (by rw [q17]; rfl)
 refine L0 <| Oc <| m2 (need_any (((((C.byteV % 2) == 0) && (decide (2 ≤ C.byteV))) && (decide (C.byteV ≤ 250)))) 5 hc11) fun w19 hc20 hu21 => nt <| Rg 8 (fun w' => w'.cell? ⟨bm, 0, none⟩ = some (.pointer (some ⟨gm, 0, none⟩)) ∧ w'.cell? ⟨bc, 0, none⟩ = some (.pointer (some ⟨g, 0, none⟩))) fun w40 hu41 => ?_
 have U43 := u1 hu12 hu21 im
 have U44 := ut0 U43 hu41
 have r45 := ub1 U44 n_bm_g hbm
 have U46 := ut0 hu21 hu41
 have r47 := ub1 U46 n_bc_g r14
 refine hld ⟨(blk_at r45 rfl), (blk_at r47 rfl)⟩ fun hS42 => Rl 0 hS42 (fun _ hs => hs.1) <| Rl 1 hS42 (fun _ hs => hs.2) <| Rt 2 hS42 <| Rr 3 hS42 (.int .i64 (C.byteV / 2)) (fun _ _ => run_eqo (.int .i64 (IntKind.i64.wrap (Int.tdiv C.byteV 2))) (by kernel_rfl) (congrArg (Value.int .i64) (i64_quo (by omega) (by omega)))) <| ?_
 have r48 := CurAt.old hc20 hu41
 refine R0 4 rfl <| Oc <| so3 (words_any (n := (C.byteV / 2)) r48) fun A56 cp57 w49 rd60 hl58 hm59 hc52 hu53 => ?_
 have r62 := ub1 hu53 n_bm_g r45
 have r63 := ub1 hu53 n_bc_g r47
 refine hld ⟨(blk_at r62 rfl), (blk_at r63 rfl)⟩ fun hS61 => Rt 5 hS61 <| Rt 6 hS61 <| ?_
 have U64 := u1 U44 hu53 im
 have r65 := ub1 U64 (Ne.symm hne) hm
 refine R0 7 rfl <| Ost r65 12 (mG c 0 0 0 0 0 0 0 0 0 0 0 (.slice A56 ((((C.bytesC 1).need ((((C.byteV % 2) == 0) && (decide (2 ≤ C.byteV))) && (decide (C.byteV ≤ 250))) 5).wordsR (C.byteV / 2)).length) cp57) nS nS nS 0 0 0 0 0 nS) fun w66 B67 hu68 => ?_
 have r70 := ub1 hu68 n_bm_gm r62
 have r71 := ub1 hu68 n_bc_gm r63
 refine hld ⟨(blk_at r70 rfl), (blk_at r71 rfl)⟩ fun hS69 => re <| rm (.tuple #[]) <| ?_
 have r72 := own_stay rd60 hu68 (fun x hx => (not_cons (fun e => (not_old (blk_lt hm) U44.size rd60) (e ▸ hx)) not0)) (fun _ _ h => h)
 have hs : rtoldR c C = ((((C.bytesC 1).need ((((C.byteV % 2) == 0) && (decide (2 ≤ C.byteV))) && (decide (C.byteV ≤ 250))) 5).wordsC (C.byteV / 2)), (Msg.mk c 0 0 0 0 0 0 0 0 0 0 0 (((C.bytesC 1).need ((((C.byteV % 2) == 0) && (decide (2 ≤ C.byteV))) && (decide (C.byteV ≤ 250))) 5).wordsR (C.byteV / 2)) [] [] [] 0 0 0 0 0 [])) := by
   unfold rtoldR told3 evenIn
   (try simp only [bs, if_true, if_false, decide_true, decide_false, reduceIte])
   all_goals rfl
 rw [hs]
 have r73 := CurAt.upd hc52 hu68 (not_cons hne not0) (safe_cons (safe1 r65 (by decide)) safe0)
 have U74 := u1 (Upd.mono (S' := [g, gm]) U64 (ac im all0)) hu68 im
 exact ⟨rfl, r73, ⟨_, ⟨B67, rfl⟩, ⟨_, _, _, _, _, rfl, (r72).rd, RdG.nil .., RdG.nil .., RdG.nil .., RdG.nil .., ⟨(b8 (x := c) (by omega)), (b8 (x := 0) (by omega)), (b16 (x := 0) (by omega)), (b16 (x := 0) (by omega)), (b16 (x := 0) (by omega)), (b16 (x := 0) (by omega)), (b16 (x := 0) (by omega)), (b16 (x := 0) (by omega)), (b16 (x := 0) (by omega)), (b16 (x := 0) (by omega)), (b16 (x := 0) (by omega)), (b16 (x := 0) (by omega)), (b8 (x := 0) (by omega)), (b8 (x := 0) (by omega)), (b8 (x := 0) (by omega)), (b8 (x := 0) (by omega)), (b8 (x := 0) (by omega))⟩⟩⟩, U74⟩
set_option maxRecDepth 100000 in
set_option maxHeartbeats 4000000 in
theorem rc4 {g gm : Nat} {c : Int} {C : Cur} {w : World} (hcode : B8 c) (hC : CurAt w g C) (hm : w.heap[gm]? = some (.cells (mC c) 29 (0, 0))) (hne : g ≠ gm) {bc : Nat} {bm : Nat} (hbc : w.heap[bc]? = some (.cells #[.pointer (some ⟨g, 0, none⟩)] 69 (0, 0))) (n_bc_g : bc ≠ g) (n_bc_gm : bc ≠ gm) (hbm : w.heap[bm]? = some (.cells #[.pointer (some ⟨gm, 0, none⟩)] 89 (0, 0))) (n_bm_g : bm ≠ g) (n_bm_gm : bm ≠ gm) :
    Calls Try.prog 88 #[.pointer (some ⟨bc, 0, none⟩), .pointer (some ⟨bm, 0, none⟩)] w (PFormG g gm (roneR c C).1 (roneR c C).2 w) := by
 obtain ⟨hcode1, hcode2⟩ := hcode
 have hlen := hC.len
 refine en 12 Try.func88 rfl <| Rg 12 (fun w' => w'.cell? ⟨bm, 0, none⟩ = some (.pointer (some ⟨gm, 0, none⟩)) ∧ w'.cell? ⟨bc, 0, none⟩ = some (.pointer (some ⟨g, 0, none⟩))) fun w26 hu27 => ?_
 have r29 := ub hu27 hbm
 have r30 := ub hu27 hbc
 refine hld ⟨(blk_at r29 rfl), (blk_at r30 rfl)⟩ fun hS28 => Rl 0 hS28 (fun _ hs => hs.1) <| Rl 1 hS28 (fun _ hs => hs.1) <| Rl 2 hS28 (fun _ hs => hs.2) <| Rl 4 hS28 (fun _ hs => hs.2) <| ?_
 have r31 := CurAt.old hC hu27
 refine R0 3 rfl <| Oc <| m3 (word_any r31) fun w32 hc33 hu34 hr35 => ?_
 have r37 := ub1 hu34 n_bm_g r29
 have r38 := ub1 hu34 n_bc_g r30
 refine hld ⟨(blk_at r37 rfl), (blk_at r38 rfl)⟩ fun hS36 => R0 5 rfl <| Oc <| m3 (word_any hc33) fun w39 hc40 hu41 hr42 => ?_
 have r44 := ub1 hu41 n_bm_g r37
 have r45 := ub1 hu41 n_bc_g r38
 refine hld ⟨(blk_at r44 rfl), (blk_at r45 rfl)⟩ fun hS43 => Rt 6 hS43 <| Rt 7 hS43 <| ?_
 have U46 := u1 (Upd.mono (S' := [g]) hu27 all0) hu34 im
 have U47 := u1 U46 hu41 im
 have r48 := ub1 U47 (Ne.symm hne) hm
 refine R0 8 rfl <| Ost r48 2 (mG c 0 C.wordV 0 0 0 0 0 0 0 0 0 nS nS nS nS 0 0 0 0 0 nS) fun w49 B50 hu51 => ?_
 have r53 := ub1 hu51 n_bm_gm r44
 have r54 := ub1 hu51 n_bc_gm r45
 refine hld ⟨(blk_at r53 rfl), (blk_at r54 rfl)⟩ fun hS52 => Rt 9 hS52 <| Rt 10 hS52 <| R0 11 rfl <| Ost B50 4 (mG c 0 C.wordV 0 ((C.wordsC 1).wordV) 0 0 0 0 0 0 0 nS nS nS nS 0 0 0 0 0 nS) fun w55 B56 hu57 => ?_
 have r59 := ub1 hu57 n_bm_gm r53
 have r60 := ub1 hu57 n_bc_gm r54
 refine hld ⟨(blk_at r59 rfl), (blk_at r60 rfl)⟩ fun hS58 => re <| rm (.tuple #[]) <| ?_
 have hs : roneR c C = (((C.wordsC 1).wordsC 1), (Msg.mk c 0 C.wordV 0 ((C.wordsC 1).wordV) 0 0 0 0 0 0 0 [] [] [] [] 0 0 0 0 0 [])) := by
   unfold roneR
   (try simp only [bs, if_true, if_false, decide_true, decide_false, reduceIte])
   all_goals rfl
 rw [hs]
 have U61 := u1 hu51 hu57 im
 have r62 := CurAt.upd hc40 U61 (not_cons hne not0) (safe_cons (safe1 r48 (by decide)) safe0)
 have U63 := u1 (Upd.mono (S' := [g, gm]) U47 (ac im all0)) hu51 im
 have U64 := u1 U63 hu57 im
 exact ⟨rfl, r62, ⟨_, ⟨B56, rfl⟩, ⟨_, _, _, _, _, rfl, RdG.nil .., RdG.nil .., RdG.nil .., RdG.nil .., RdG.nil .., ⟨(b8 (x := c) (by omega)), (b8 (x := 0) (by omega)), (b16 (x := C.wordV) (by omega)), (b16 (x := 0) (by omega)), (b16 (x := (C.wordsC 1).wordV) (by omega)), (b16 (x := 0) (by omega)), (b16 (x := 0) (by omega)), (b16 (x := 0) (by omega)), (b16 (x := 0) (by omega)), (b16 (x := 0) (by omega)), (b16 (x := 0) (by omega)), (b16 (x := 0) (by omega)), (b8 (x := 0) (by omega)), (b8 (x := 0) (by omega)), (b8 (x := 0) (by omega)), (b8 (x := 0) (by omega)), (b8 (x := 0) (by omega))⟩⟩⟩, U64⟩
set_option maxRecDepth 100000 in
set_option maxHeartbeats 4000000 in
theorem rc5t {ask : Bool} {g gm : Nat} {c : Int} {C : Cur} {w : World} (hcode : B8 c) (hC : CurAt w g C) (hm : w.heap[gm]? = some (.cells (mC c) 29 (0, 0))) (hne : g ≠ gm) {bc : Nat} {bm : Nat} {bw : Nat} {ba : Nat} (hbc : w.heap[bc]? = some (.cells #[.pointer (some ⟨g, 0, none⟩)] 69 (0, 0))) (n_bc_g : bc ≠ g) (n_bc_gm : bc ≠ gm) (hbm : w.heap[bm]? = some (.cells #[.pointer (some ⟨gm, 0, none⟩)] 89 (0, 0))) (n_bm_g : bm ≠ g) (n_bm_gm : bm ≠ gm) (hbw : w.heap[bw]? = some (.cells #[.func (.func 84) #[] #[.pointer (some ⟨bc, 0, none⟩), .pointer (some ⟨bm, 0, none⟩)]] 123 (0, 0))) (n_bw_g : bw ≠ g) (n_bw_gm : bw ≠ gm) (hba : w.heap[ba]? = some (.cells #[.bool ask] 4 (0, 0))) (n_ba_g : ba ≠ g) (n_ba_gm : ba ≠ gm) (hask : ask = true) :
    Calls Try.prog 89 #[.pointer (some ⟨bw, 0, none⟩), .pointer (some ⟨ba, 0, none⟩), .pointer (some ⟨bc, 0, none⟩), .pointer (some ⟨bm, 0, none⟩)] w (PFormG g gm (rmanyR c C).1 (rmanyR c C).2 w) := by
 obtain ⟨hcode1, hcode2⟩ := hcode
 have hlen := hC.len
 refine en 17 Try.func89 rfl <| sg <| L0 <| Olb hbw 0 <| L0 <| Ocv #[] #[.pointer (some ⟨bc, 0, none⟩), .pointer (some ⟨bm, 0, none⟩)] (args := #[.int .i64 123, .pointer (some ⟨bc, 0, none⟩), .pointer (some ⟨bm, 0, none⟩)]) <| m3 (where_any (most := 123) ⟨hcode1, hcode2⟩ hC hm hne hbc n_bc_g n_bc_gm hbm n_bm_g n_bm_gm) fun w10 hc11 B12 hu13 => ?_
 have hr14 := (hC).wordV
 have hr15 := wordV_rng (wordsC_rng (hC).rng 1)
 refine ng <| ?_
 have r16 := Upd.blk hu13 (not_cons n_ba_g (not_cons n_ba_gm not0)) hba
 refine L0 <| Olb r16 0 <| nt <| ct hask <| Rg 11 (fun w' => w'.cell? ⟨bm, 0, none⟩ = some (.pointer (some ⟨gm, 0, none⟩)) ∧ w'.cell? ⟨bc, 0, none⟩ = some (.pointer (some ⟨g, 0, none⟩)) ∧ w'.cell? ⟨gm, 3, none⟩ = some (.int .u16 ((C.wordsC 1).wordV))) fun w31 hu32 => ?_
 have U34 := ut0 hu13 hu32
 have r35 := Upd.blk U34 (not_cons n_bm_g (not_cons n_bm_gm not0)) hbm
 have r36 := Upd.blk U34 (not_cons n_bc_g (not_cons n_bc_gm not0)) hbc
 have r37 := ub hu32 B12
 refine hld ⟨(blk_at r35 rfl), (blk_at r36 rfl), (blk_at r37 rfl)⟩ fun hS33 => Rl 0 hS33 (fun _ hs => hs.1) <| Rl 1 hS33 (fun _ hs => hs.2.1) <| Rl 2 hS33 (fun _ hs => hs.1) <| Rt 3 hS33 <| Rt 4 hS33 <| Rl 5 hS33 (fun _ hs => hs.2.2) <| Rr 6 hS33 (.int .i64 ((C.wordsC 1).wordV)) (fun _ _ => run_eqo (.int .i64 (IntKind.i64.wrap ((C.wordsC 1).wordV))) (by kernel_rfl) (congrArg (Value.int .i64) (i64_in (by omega)))) <| ?_
 have r38 := CurAt.old hc11 hu32
 refine R0 7 rfl <| Oc <| so3 (counted_any (n := (C.wordsC 1).wordV) r38 (by omega)) fun A44 cp45 w39 rd48 hl46 hm47 hc42 hu43 => ?_
 have r50 := ub1 hu43 n_bm_g r35
 have r51 := ub1 hu43 n_bc_g r36
 have r52 := ub1 hu43 (Ne.symm hne) r37
 refine hld ⟨(blk_at r50 rfl), (blk_at r51 rfl), (blk_at r52 rfl)⟩ fun hS49 => Rt 8 hS49 <| Rt 9 hS49 <| R0 10 rfl <| Ost r52 12 (mG c 0 C.wordV ((C.wordsC 1).wordV) 0 0 0 0 0 0 0 0 (.slice A44 (((countedC1 (rspanC (C.wordsC 1) C.wordV 123) ((C.wordsC 1).wordV)).wordsR ((C.wordsC 1).wordV)).length) cp45) nS nS nS 0 0 0 0 0 nS) fun w53 B54 hu55 => ?_
 have r57 := ub1 hu55 n_bm_gm r50
 have r58 := ub1 hu55 n_bc_gm r51
 refine hld ⟨(blk_at r57 rfl), (blk_at r58 rfl), (blk_at B54 rfl)⟩ fun hS56 => re <| rm (.tuple #[]) <| ?_
 have r59 := own_stay rd48 hu55 (fun x hx => (not_cons (fun e => (not_old (blk_lt hm) U34.size rd48) (e ▸ hx)) not0)) (fun _ _ h => h)
 have hs : rmanyR c C = (((countedC1 (rspanC (C.wordsC 1) C.wordV 123) ((C.wordsC 1).wordV)).wordsC ((C.wordsC 1).wordV)), (Msg.mk c 0 C.wordV ((C.wordsC 1).wordV) 0 0 0 0 0 0 0 0 ((countedC1 (rspanC (C.wordsC 1) C.wordV 123) ((C.wordsC 1).wordV)).wordsR ((C.wordsC 1).wordV)) [] [] [] 0 0 0 0 0 [])) := by
   unfold rmanyR rmanyC
   (try simp only [hask, bs, if_true, if_false, decide_true, decide_false, reduceIte])
   all_goals rfl
 rw [hs]
 have r60 := CurAt.upd hc42 hu55 (not_cons hne not0) (safe_cons (safe1 r52 (by decide)) safe0)
 have U61 := u1 U34 hu43 im
 have U62 := u1 U61 hu55 im
 exact ⟨rfl, r60, ⟨_, ⟨B54, rfl⟩, ⟨_, _, _, _, _, rfl, (r59).rd, RdG.nil .., RdG.nil .., RdG.nil .., RdG.nil .., ⟨(b8 (x := c) (by omega)), (b8 (x := 0) (by omega)), (b16 (x := C.wordV) (by omega)), (b16 (x := (C.wordsC 1).wordV) (by omega)), (b16 (x := 0) (by omega)), (b16 (x := 0) (by omega)), (b16 (x := 0) (by omega)), (b16 (x := 0) (by omega)), (b16 (x := 0) (by omega)), (b16 (x := 0) (by omega)), (b16 (x := 0) (by omega)), (b16 (x := 0) (by omega)), (b8 (x := 0) (by omega)), (b8 (x := 0) (by omega)), (b8 (x := 0) (by omega)), (b8 (x := 0) (by omega)), (b8 (x := 0) (by omega))⟩⟩⟩, U62⟩
set_option maxRecDepth 100000 in
set_option maxHeartbeats 4000000 in
theorem rc5f {ask : Bool} {g gm : Nat} {c : Int} {C : Cur} {w : World} (hcode : B8 c) (hC : CurAt w g C) (hm : w.heap[gm]? = some (.cells (mC c) 29 (0, 0))) (hne : g ≠ gm) {bc : Nat} {bm : Nat} {bw : Nat} {ba : Nat} (hbc : w.heap[bc]? = some (.cells #[.pointer (some ⟨g, 0, none⟩)] 69 (0, 0))) (n_bc_g : bc ≠ g) (n_bc_gm : bc ≠ gm) (hbm : w.heap[bm]? = some (.cells #[.pointer (some ⟨gm, 0, none⟩)] 89 (0, 0))) (n_bm_g : bm ≠ g) (n_bm_gm : bm ≠ gm) (hbw : w.heap[bw]? = some (.cells #[.func (.func 84) #[] #[.pointer (some ⟨bc, 0, none⟩), .pointer (some ⟨bm, 0, none⟩)]] 123 (0, 0))) (n_bw_g : bw ≠ g) (n_bw_gm : bw ≠ gm) (hba : w.heap[ba]? = some (.cells #[.bool ask] 4 (0, 0))) (n_ba_g : ba ≠ g) (n_ba_gm : ba ≠ gm) (hask : ask = false) :
    Calls Try.prog 89 #[.pointer (some ⟨bw, 0, none⟩), .pointer (some ⟨ba, 0, none⟩), .pointer (some ⟨bc, 0, none⟩), .pointer (some ⟨bm, 0, none⟩)] w (PFormG g gm (rasksR 123 c C).1 (rasksR 123 c C).2 w) := by
 obtain ⟨hcode1, hcode2⟩ := hcode
 have hlen := hC.len
 refine en 17 Try.func89 rfl <| sg <| L0 <| Olb hbw 0 <| L0 <| Ocv #[] #[.pointer (some ⟨bc, 0, none⟩), .pointer (some ⟨bm, 0, none⟩)] (args := #[.int .i64 123, .pointer (some ⟨bc, 0, none⟩), .pointer (some ⟨bm, 0, none⟩)]) <| m3 (where_any (most := 123) ⟨hcode1, hcode2⟩ hC hm hne hbc n_bc_g n_bc_gm hbm n_bm_g n_bm_gm) fun w10 hc11 B12 hu13 => ?_
 have hr14 := (hC).wordV
 have hr15 := wordV_rng (wordsC_rng (hC).rng 1)
 refine ng <| ?_
 have r16 := Upd.blk hu13 (not_cons n_ba_g (not_cons n_ba_gm not0)) hba
 refine L0 <| Olb r16 0 <| nt <| cf hask <| sk <| rm (.tuple #[]) <| ?_
 have hs : rasksR 123 c C = ((rspanC (C.wordsC 1) C.wordV 123), (Msg.mk c 0 C.wordV ((C.wordsC 1).wordV) 0 0 0 0 0 0 0 0 [] [] [] [] 0 0 0 0 0 [])) := by
   unfold rasksR
   (try simp only [hask, bs, if_true, if_false, decide_true, decide_false, reduceIte])
   all_goals rfl
 rw [hs]
 exact ⟨rfl, hc11, ⟨_, ⟨B12, rfl⟩, ⟨_, _, _, _, _, rfl, RdG.nil .., RdG.nil .., RdG.nil .., RdG.nil .., RdG.nil .., ⟨(b8 (x := c) (by omega)), (b8 (x := 0) (by omega)), (b16 (x := C.wordV) (by omega)), (b16 (x := (C.wordsC 1).wordV) (by omega)), (b16 (x := 0) (by omega)), (b16 (x := 0) (by omega)), (b16 (x := 0) (by omega)), (b16 (x := 0) (by omega)), (b16 (x := 0) (by omega)), (b16 (x := 0) (by omega)), (b16 (x := 0) (by omega)), (b16 (x := 0) (by omega)), (b8 (x := 0) (by omega)), (b8 (x := 0) (by omega)), (b8 (x := 0) (by omega)), (b8 (x := 0) (by omega)), (b8 (x := 0) (by omega))⟩⟩⟩, hu13⟩
set_option maxRecDepth 100000 in
set_option maxHeartbeats 4000000 in
theorem rc6 {g gm : Nat} {c : Int} {C : Cur} {w : World} (hcode : B8 c) (hC : CurAt w g C) (hm : w.heap[gm]? = some (.cells (mC c) 29 (0, 0))) (hne : g ≠ gm) {bc : Nat} {bm : Nat} (hbc : w.heap[bc]? = some (.cells #[.pointer (some ⟨g, 0, none⟩)] 69 (0, 0))) (n_bc_g : bc ≠ g) (n_bc_gm : bc ≠ gm) (hbm : w.heap[bm]? = some (.cells #[.pointer (some ⟨gm, 0, none⟩)] 89 (0, 0))) (n_bm_g : bm ≠ g) (n_bm_gm : bm ≠ gm) :
    Calls Try.prog 91 #[.pointer (some ⟨bc, 0, none⟩), .pointer (some ⟨bm, 0, none⟩)] w (PFormG g gm (rmaskR c C).1 (rmaskR c C).2 w) := by
 obtain ⟨hcode1, hcode2⟩ := hcode
 have hlen := hC.len
 refine en 17 Try.func91 rfl <| Rg 18 (fun w' => w'.cell? ⟨bm, 0, none⟩ = some (.pointer (some ⟨gm, 0, none⟩)) ∧ w'.cell? ⟨bc, 0, none⟩ = some (.pointer (some ⟨g, 0, none⟩))) fun w34 hu35 => ?_
 have r37 := ub hu35 hbm
 have r38 := ub hu35 hbc
 refine hld ⟨(blk_at r37 rfl), (blk_at r38 rfl)⟩ fun hS36 => Rl 0 hS36 (fun _ hs => hs.1) <| Rl 1 hS36 (fun _ hs => hs.1) <| Rl 2 hS36 (fun _ hs => hs.1) <| Rl 3 hS36 (fun _ hs => hs.2) <| Rl 5 hS36 (fun _ hs => hs.2) <| Rl 7 hS36 (fun _ hs => hs.2) <| ?_
 have r39 := CurAt.old hC hu35
 refine R0 4 rfl <| Oc <| m3 (word_any r39) fun w40 hc41 hu42 hr43 => ?_
 have r45 := ub1 hu42 n_bm_g r37
 have r46 := ub1 hu42 n_bc_g r38
 refine hld ⟨(blk_at r45 rfl), (blk_at r46 rfl)⟩ fun hS44 => R0 6 rfl <| Oc <| m3 (word_any hc41) fun w47 hc48 hu49 hr50 => ?_
 have r52 := ub1 hu49 n_bm_g r45
 have r53 := ub1 hu49 n_bc_g r46
 refine hld ⟨(blk_at r52 rfl), (blk_at r53 rfl)⟩ fun hS51 => R0 8 rfl <| Oc <| m3 (word_any hc48) fun w54 hc55 hu56 hr57 => ?_
 have r59 := ub1 hu56 n_bm_g r52
 have r60 := ub1 hu56 n_bc_g r53
 refine hld ⟨(blk_at r59 rfl), (blk_at r60 rfl)⟩ fun hS58 => Rt 9 hS58 <| Rt 10 hS58 <| ?_
 have U61 := u1 (Upd.mono (S' := [g]) hu35 all0) hu42 im
 have U62 := u1 U61 hu49 im
 have U63 := u1 U62 hu56 im
 have r64 := ub1 U63 (Ne.symm hne) hm
 refine R0 11 rfl <| Ost r64 2 (mG c 0 C.wordV 0 0 0 0 0 0 0 0 0 nS nS nS nS 0 0 0 0 0 nS) fun w65 B66 hu67 => ?_
 have r69 := ub1 hu67 n_bm_gm r59
 have r70 := ub1 hu67 n_bc_gm r60
 refine hld ⟨(blk_at r69 rfl), (blk_at r70 rfl)⟩ fun hS68 => Rt 12 hS68 <| Rt 13 hS68 <| R0 14 rfl <| Ost B66 5 (mG c 0 C.wordV 0 0 ((C.wordsC 1).wordV) 0 0 0 0 0 0 nS nS nS nS 0 0 0 0 0 nS) fun w71 B72 hu73 => ?_
 have r75 := ub1 hu73 n_bm_gm r69
 have r76 := ub1 hu73 n_bc_gm r70
 refine hld ⟨(blk_at r75 rfl), (blk_at r76 rfl)⟩ fun hS74 => Rt 15 hS74 <| Rt 16 hS74 <| R0 17 rfl <| Ost B72 6 (mG c 0 C.wordV 0 0 ((C.wordsC 1).wordV) (((C.wordsC 1).wordsC 1).wordV) 0 0 0 0 0 nS nS nS nS 0 0 0 0 0 nS) fun w77 B78 hu79 => ?_
 have r81 := ub1 hu79 n_bm_gm r75
 have r82 := ub1 hu79 n_bc_gm r76
 refine hld ⟨(blk_at r81 rfl), (blk_at r82 rfl)⟩ fun hS80 => re <| rm (.tuple #[]) <| ?_
 have hs : rmaskR c C = ((((C.wordsC 1).wordsC 1).wordsC 1), (Msg.mk c 0 C.wordV 0 0 ((C.wordsC 1).wordV) (((C.wordsC 1).wordsC 1).wordV) 0 0 0 0 0 [] [] [] [] 0 0 0 0 0 [])) := by
   unfold rmaskR
   (try simp only [bs, if_true, if_false, decide_true, decide_false, reduceIte])
   all_goals rfl
 rw [hs]
 have U83 := u1 hu67 hu73 im
 have U84 := u1 U83 hu79 im
 have r85 := CurAt.upd hc55 U84 (not_cons hne not0) (safe_cons (safe1 r64 (by decide)) safe0)
 have U86 := u1 (Upd.mono (S' := [g, gm]) U63 (ac im all0)) hu67 im
 have U87 := u1 U86 hu73 im
 have U88 := u1 U87 hu79 im
 exact ⟨rfl, r85, ⟨_, ⟨B78, rfl⟩, ⟨_, _, _, _, _, rfl, RdG.nil .., RdG.nil .., RdG.nil .., RdG.nil .., RdG.nil .., ⟨(b8 (x := c) (by omega)), (b8 (x := 0) (by omega)), (b16 (x := C.wordV) (by omega)), (b16 (x := 0) (by omega)), (b16 (x := 0) (by omega)), (b16 (x := (C.wordsC 1).wordV) (by omega)), (b16 (x := ((C.wordsC 1).wordsC 1).wordV) (by omega)), (b16 (x := 0) (by omega)), (b16 (x := 0) (by omega)), (b16 (x := 0) (by omega)), (b16 (x := 0) (by omega)), (b16 (x := 0) (by omega)), (b8 (x := 0) (by omega)), (b8 (x := 0) (by omega)), (b8 (x := 0) (by omega)), (b8 (x := 0) (by omega)), (b8 (x := 0) (by omega))⟩⟩⟩, U88⟩
set_option maxRecDepth 100000 in
set_option maxHeartbeats 4000000 in
theorem rc7 {g gm : Nat} {c : Int} {C : Cur} {w : World} (hcode : B8 c) (hC : CurAt w g C) (hm : w.heap[gm]? = some (.cells (mC c) 29 (0, 0))) (hne : g ≠ gm) {bc : Nat} {bm : Nat} {bw : Nat} (hbc : w.heap[bc]? = some (.cells #[.pointer (some ⟨g, 0, none⟩)] 69 (0, 0))) (n_bc_g : bc ≠ g) (n_bc_gm : bc ≠ gm) (hbm : w.heap[bm]? = some (.cells #[.pointer (some ⟨gm, 0, none⟩)] 89 (0, 0))) (n_bm_g : bm ≠ g) (n_bm_gm : bm ≠ gm) (hbw : w.heap[bw]? = some (.cells #[.func (.func 84) #[] #[.pointer (some ⟨bc, 0, none⟩), .pointer (some ⟨bm, 0, none⟩)]] 123 (0, 0))) (n_bw_g : bw ≠ g) (n_bw_gm : bw ≠ gm) :
    Calls Try.prog 92 #[.pointer (some ⟨bw, 0, none⟩), .pointer (some ⟨bc, 0, none⟩), .pointer (some ⟨bm, 0, none⟩)] w (PFormG g gm (rbothR c C).1 (rbothR c C).2 w) := by
 obtain ⟨hcode1, hcode2⟩ := hcode
 have hlen := hC.len
 refine en 21 Try.func92 rfl <| sg <| L0 <| Olb hbw 0 <| L0 <| Ocv #[] #[.pointer (some ⟨bc, 0, none⟩), .pointer (some ⟨bm, 0, none⟩)] (args := #[.int .i64 125, .pointer (some ⟨bc, 0, none⟩), .pointer (some ⟨bm, 0, none⟩)]) <| m3 (where_any (most := 125) ⟨hcode1, hcode2⟩ hC hm hne hbc n_bc_g n_bc_gm hbm n_bm_g n_bm_gm) fun w10 hc11 B12 hu13 => ?_
 have hr14 := (hC).wordV
 have hr15 := wordV_rng (wordsC_rng (hC).rng 1)
 refine nt <| sq <| Rg 6 (fun w' => w'.cell? ⟨bm, 0, none⟩ = some (.pointer (some ⟨gm, 0, none⟩)) ∧ w'.cell? ⟨bc, 0, none⟩ = some (.pointer (some ⟨g, 0, none⟩))) fun w24 hu25 => ?_
 have U27 := ut0 hu13 hu25
 have r28 := Upd.blk U27 (not_cons n_bm_g (not_cons n_bm_gm not0)) hbm
 have r29 := Upd.blk U27 (not_cons n_bc_g (not_cons n_bc_gm not0)) hbc
 refine hld ⟨(blk_at r28 rfl), (blk_at r29 rfl)⟩ fun hS26 => Rl 0 hS26 (fun _ hs => hs.1) <| Rl 1 hS26 (fun _ hs => hs.2) <| ?_
 have r30 := CurAt.old hc11 hu25
 refine R0 2 rfl <| Oc <| m3 (word_any r30) fun w31 hc32 hu33 hr34 => ?_
 have r36 := ub1 hu33 n_bm_g r28
 have r37 := ub1 hu33 n_bc_g r29
 refine hld ⟨(blk_at r36 rfl), (blk_at r37 rfl)⟩ fun hS35 => Rt 3 hS35 <| Rt 4 hS35 <| ?_
 have U38 := u1 (Upd.mono (S' := [g]) hu25 all0) hu33 im
 have r39 := ub1 U38 (Ne.symm hne) B12
 refine R0 5 rfl <| Ost r39 7 (mG c 0 C.wordV ((C.wordsC 1).wordV) 0 0 0 ((rspanC (C.wordsC 1) C.wordV 125).wordV) 0 0 0 0 nS nS nS nS 0 0 0 0 0 nS) fun w40 B41 hu42 => ?_
 have r44 := ub1 hu42 n_bm_gm r36
 have r45 := ub1 hu42 n_bc_gm r37
 refine hld ⟨(blk_at r44 rfl), (blk_at r45 rfl)⟩ fun hS43 => re <| tn <| Rg 12 (fun w' => w'.cell? ⟨bm, 0, none⟩ = some (.pointer (some ⟨gm, 0, none⟩)) ∧ w'.cell? ⟨bc, 0, none⟩ = some (.pointer (some ⟨g, 0, none⟩)) ∧ w'.cell? ⟨gm, 7, none⟩ = some (.int .u16 ((rspanC (C.wordsC 1) C.wordV 125).wordV))) fun w66 hu67 => ?_
 have r69 := ub hu67 r44
 have r70 := ub hu67 r45
 have r71 := ub hu67 B41
 refine hld ⟨(blk_at r69 rfl), (blk_at r70 rfl), (blk_at r71 rfl)⟩ fun hS68 => Rl 0 hS68 (fun _ hs => hs.1) <| Rl 1 hS68 (fun _ hs => hs.2.1) <| Rl 2 hS68 (fun _ hs => hs.2.1) <| Rl 3 hS68 (fun _ hs => hs.1) <| Rt 4 hS68 <| Rt 5 hS68 <| Rl 6 hS68 (fun _ hs => hs.2.2) <| ?_
 have U72 := ut0 hu42 hu67
 have r73 := CurAt.upd hc32 U72 (not_cons hne not0) (safe_cons (safe1 r39 (by decide)) safe0)
 refine R0 7 rfl <| Oc <| m3 (rspan_any (a := (rspanC (C.wordsC 1) C.wordV 125).wordV) (most := 121) r73 (by omega)) fun w74 hc75 hu76 hr77 => ?_
 have r79 := ub1 hu76 n_bm_g r69
 have r80 := ub1 hu76 n_bc_g r70
 have r81 := ub1 hu76 (Ne.symm hne) r71
 refine hld ⟨(blk_at r79 rfl), (blk_at r80 rfl), (blk_at r81 rfl)⟩ fun hS78 => R0 8 rfl <| Oc <| so3 (counted_any (n := ((rspanC (C.wordsC 1) C.wordV 125).wordsC 1).wordV) hc75 (by omega)) fun A87 cp88 w82 rd91 hl89 hm90 hc85 hu86 => ?_
 have r93 := ub1 hu86 n_bm_g r79
 have r94 := ub1 hu86 n_bc_g r80
 have r95 := ub1 hu86 (Ne.symm hne) r81
 refine hld ⟨(blk_at r93 rfl), (blk_at r94 rfl), (blk_at r95 rfl)⟩ fun hS92 => Rt 9 hS92 <| Rt 10 hS92 <| R0 11 rfl <| Ost r95 12 (mG c 0 C.wordV ((C.wordsC 1).wordV) 0 0 0 ((rspanC (C.wordsC 1) C.wordV 125).wordV) 0 0 0 0 (.slice A87 (((countedC1 (rspanC ((rspanC (C.wordsC 1) C.wordV 125).wordsC 1) ((rspanC (C.wordsC 1) C.wordV 125).wordV) 121) (((rspanC (C.wordsC 1) C.wordV 125).wordsC 1).wordV)).wordsR (((rspanC (C.wordsC 1) C.wordV 125).wordsC 1).wordV)).length) cp88) nS nS nS 0 0 0 0 0 nS) fun w96 B97 hu98 => ?_
 have r100 := ub1 hu98 n_bm_gm r93
 have r101 := ub1 hu98 n_bc_gm r94
 refine hld ⟨(blk_at r100 rfl), (blk_at r101 rfl), (blk_at B97 rfl)⟩ fun hS99 => re <| rm (.tuple #[]) <| ?_
 have r102 := own_stay rd91 hu98 (fun x hx => (not_cons (fun e => (not_old (blk_lt hm) (le (le (le (le (le hu13.size hu25.size) hu33.size) hu42.size) hu67.size) hu76.size) rd91) (e ▸ hx)) not0)) (fun _ _ h => h)
 have hs : rbothR c C = (((countedC1 (rspanC ((rspanC (C.wordsC 1) C.wordV 125).wordsC 1) ((rspanC (C.wordsC 1) C.wordV 125).wordV) 121) (((rspanC (C.wordsC 1) C.wordV 125).wordsC 1).wordV)).wordsC (((rspanC (C.wordsC 1) C.wordV 125).wordsC 1).wordV)), (Msg.mk c 0 C.wordV ((C.wordsC 1).wordV) 0 0 0 ((rspanC (C.wordsC 1) C.wordV 125).wordV) 0 0 0 0 ((countedC1 (rspanC ((rspanC (C.wordsC 1) C.wordV 125).wordsC 1) ((rspanC (C.wordsC 1) C.wordV 125).wordV) 121) (((rspanC (C.wordsC 1) C.wordV 125).wordsC 1).wordV)).wordsR (((rspanC (C.wordsC 1) C.wordV 125).wordsC 1).wordV)) [] [] [] 0 0 0 0 0 [])) := by
   unfold rbothR rbothC both2 both1
   (try simp only [bs, if_true, if_false, decide_true, decide_false, reduceIte])
   all_goals rfl
 rw [hs]
 have r103 := CurAt.upd hc85 hu98 (not_cons hne not0) (safe_cons (safe1 r95 (by decide)) safe0)
 have U104 := u1 U27 hu33 im
 have U105 := u1 U104 hu42 im
 have U106 := ut0 U105 hu67
 have U107 := u1 U106 hu76 im
 have U108 := u1 U107 hu86 im
 have U109 := u1 U108 hu98 im
 exact ⟨rfl, r103, ⟨_, ⟨B97, rfl⟩, ⟨_, _, _, _, _, rfl, (r102).rd, RdG.nil .., RdG.nil .., RdG.nil .., RdG.nil .., ⟨(b8 (x := c) (by omega)), (b8 (x := 0) (by omega)), (b16 (x := C.wordV) (by omega)), (b16 (x := (C.wordsC 1).wordV) (by omega)), (b16 (x := 0) (by omega)), (b16 (x := 0) (by omega)), (b16 (x := 0) (by omega)), (b16 (x := (rspanC (C.wordsC 1) C.wordV 125).wordV) (by omega)), (b16 (x := 0) (by omega)), (b16 (x := 0) (by omega)), (b16 (x := 0) (by omega)), (b16 (x := 0) (by omega)), (b8 (x := 0) (by omega)), (b8 (x := 0) (by omega)), (b8 (x := 0) (by omega)), (b8 (x := 0) (by omega)), (b8 (x := 0) (by omega))⟩⟩⟩, U109⟩
set_option maxRecDepth 100000 in
set_option maxHeartbeats 4000000 in
theorem rc8 {g gm : Nat} {c : Int} {C : Cur} {w : World} (hcode : B8 c) (hC : CurAt w g C) (hm : w.heap[gm]? = some (.cells (mC c) 29 (0, 0))) (hne : g ≠ gm) {bc : Nat} {bm : Nat} (hbc : w.heap[bc]? = some (.cells #[.pointer (some ⟨g, 0, none⟩)] 69 (0, 0))) (n_bc_g : bc ≠ g) (n_bc_gm : bc ≠ gm) (hbm : w.heap[bm]? = some (.cells #[.pointer (some ⟨gm, 0, none⟩)] 89 (0, 0))) (n_bm_g : bm ≠ g) (n_bm_gm : bm ≠ gm) :
    Calls Try.prog 93 #[.pointer (some ⟨bc, 0, none⟩), .pointer (some ⟨bm, 0, none⟩)] w (PFormG g gm (raskqR c C).1 (raskqR c C).2 w) := by
 obtain ⟨hcode1, hcode2⟩ := hcode
 have hlen := hC.len
 refine en 7 Try.func93 rfl <| Rg 6 (fun w' => w'.cell? ⟨bm, 0, none⟩ = some (.pointer (some ⟨gm, 0, none⟩)) ∧ w'.cell? ⟨bc, 0, none⟩ = some (.pointer (some ⟨g, 0, none⟩))) fun w18 hu19 => ?_
 have r21 := ub hu19 hbm
 have r22 := ub hu19 hbc
 refine hld ⟨(blk_at r21 rfl), (blk_at r22 rfl)⟩ fun hS20 => Rl 0 hS20 (fun _ hs => hs.1) <| Rl 1 hS20 (fun _ hs => hs.2) <| ?_
 have r23 := CurAt.old hC hu19
 refine R0 2 rfl <| Oc <| m3 (word_any r23) fun w24 hc25 hu26 hr27 => ?_
 have r29 := ub1 hu26 n_bm_g r21
 have r30 := ub1 hu26 n_bc_g r22
 refine hld ⟨(blk_at r29 rfl), (blk_at r30 rfl)⟩ fun hS28 => Rt 3 hS28 <| Rt 4 hS28 <| ?_
 have U31 := u1 (Upd.mono (S' := [g]) hu19 all0) hu26 im
 have r32 := ub1 U31 (Ne.symm hne) hm
 refine R0 5 rfl <| Ost r32 2 (mG c 0 C.wordV 0 0 0 0 0 0 0 0 0 nS nS nS nS 0 0 0 0 0 nS) fun w33 B34 hu35 => ?_
 have r37 := ub1 hu35 n_bm_gm r29
 have r38 := ub1 hu35 n_bc_gm r30
 refine hld ⟨(blk_at r37 rfl), (blk_at r38 rfl)⟩ fun hS36 => re <| rm (.tuple #[]) <| ?_
 have hs : raskqR c C = ((C.wordsC 1), (Msg.mk c 0 C.wordV 0 0 0 0 0 0 0 0 0 [] [] [] [] 0 0 0 0 0 [])) := by
   unfold raskqR
   (try simp only [bs, if_true, if_false, decide_true, decide_false, reduceIte])
   all_goals rfl
 rw [hs]
 have r39 := CurAt.upd hc25 hu35 (not_cons hne not0) (safe_cons (safe1 r32 (by decide)) safe0)
 have U40 := u1 (Upd.mono (S' := [g, gm]) U31 (ac im all0)) hu35 im
 exact ⟨rfl, r39, ⟨_, ⟨B34, rfl⟩, ⟨_, _, _, _, _, rfl, RdG.nil .., RdG.nil .., RdG.nil .., RdG.nil .., RdG.nil .., ⟨(b8 (x := c) (by omega)), (b8 (x := 0) (by omega)), (b16 (x := C.wordV) (by omega)), (b16 (x := 0) (by omega)), (b16 (x := 0) (by omega)), (b16 (x := 0) (by omega)), (b16 (x := 0) (by omega)), (b16 (x := 0) (by omega)), (b16 (x := 0) (by omega)), (b16 (x := 0) (by omega)), (b16 (x := 0) (by omega)), (b16 (x := 0) (by omega)), (b8 (x := 0) (by omega)), (b8 (x := 0) (by omega)), (b8 (x := 0) (by omega)), (b8 (x := 0) (by omega)), (b8 (x := 0) (by omega))⟩⟩⟩, U40⟩
set_option maxRecDepth 100000 in
set_option maxHeartbeats 4000000 in
theorem rc9 {g gm : Nat} {c : Int} {C : Cur} {w : World} (hcode : B8 c) (hC : CurAt w g C) (hm : w.heap[gm]? = some (.cells (mC c) 29 (0, 0))) (hne : g ≠ gm) {bc : Nat} {bm : Nat} (hbc : w.heap[bc]? = some (.cells #[.pointer (some ⟨g, 0, none⟩)] 69 (0, 0))) (n_bc_g : bc ≠ g) (n_bc_gm : bc ≠ gm) (hbm : w.heap[bm]? = some (.cells #[.pointer (some ⟨gm, 0, none⟩)] 89 (0, 0))) (n_bm_g : bm ≠ g) (n_bm_gm : bm ≠ gm) :
    Calls Try.prog 94 #[.pointer (some ⟨bc, 0, none⟩), .pointer (some ⟨bm, 0, none⟩)] w (PFormG g gm (rqR c C).1 (rqR c C).2 w) := by
 obtain ⟨hcode1, hcode2⟩ := hcode
 have hlen := hC.len
 refine en 36 Try.func94 rfl <| sg <| L0 <| Olb hbc 0 <| L0 <| Oc <| m3 (word_any hC) fun w10 hc11 hu12 hr13 => L0 <| Oi C.wordV <| Pl 1 <| ng <| ?_
 have r14 := ub1 hu12 n_bc_g hbc
 refine L0 <| Olb r14 0 <| Pl 1 <| L0 <| Oe (.int .i64 (Int.tmod C.wordV 2)) (.int .i64 (C.wordV % 2)) (congrArg (Value.int .i64) (Int.tmod_eq_emod_of_nonneg (by omega))) <| Pl 2 <| cu 3 [11] 14 ((((C.wordV % 2) == 0) && (decide (2 ≤ C.wordV)))) (fun K K16 => ?_) ?_
 refine bl 11 (((C.wordV % 2) == 0)) (fun q15 => ?_) (fun q15 => ?_)
 have q15p := eq_of_beqi q15
 exact Pl 3 <| ce K16 (decide (2 ≤ C.wordV)) (by rw [q15]; rfl)
 have q15p := ne_of_beqi q15
 exact Pl 3 <| ce K16 false (by rw [q15]; rfl)
 refine Pl 1 <| cu 3 [15] 18 (((((C.wordV % 2) == 0) && (decide (2 ≤ C.wordV))) && (decide (C.wordV ≤ 64)))) (fun K K18 => ?_) ?_
 refine bl 15 ((((C.wordV % 2) == 0) && (decide (2 ≤ C.wordV)))) (fun q17 => ?_) (fun q17 => ?_)
 have q17a := (and_t q17).1
 have q17b := (and_t q17).2
 have q17ap := eq_of_beqi q17a
 have q17bp := of_decide_eq_true q17b
 exact Pl 3 <| ce K18 (decide (C.wordV ≤ 64)) (by rw [q17]; rfl)
 exact Pl 3 <| ce K18 false (by rw [q17]; rfl)
 refine L0 <| Oc <| m2 (need_any (((((C.wordV % 2) == 0) && (decide (2 ≤ C.wordV))) && (decide (C.wordV ≤ 64)))) 5 hc11) fun w19 hc20 hu21 => ng <| ?_
 have r22 := ub1 hu21 n_bc_g r14
 refine L0 <| Olb r22 0 <| L0 <| Oc <| m3 (word_any hc20) fun w23 hc24 hu25 hr26 => L0 <| Oi (((C.wordsC 1).need ((((C.wordV % 2) == 0) && (decide (2 ≤ C.wordV))) && (decide (C.wordV ≤ 64))) 5).wordV) <| Pl 1 <| ng <| ?_
 have r27 := ub1 hu25 n_bc_g r22
 refine L0 <| Olb r27 0 <| Pl 1 <| L0 <| Oi (2 * (((C.wordsC 1).need ((((C.wordV % 2) == 0) && (decide (2 ≤ C.wordV))) && (decide (C.wordV ≤ 64))) 5).wordV)) <| L0 <| Oi (2 + (2 * (((C.wordsC 1).need ((((C.wordV % 2) == 0) && (decide (2 ≤ C.wordV))) && (decide (C.wordV ≤ 64))) 5).wordV))) <| Pl 2 <| L0 <| Oc <| m2 (need_any (((2 + (2 * (((C.wordsC 1).need ((((C.wordV % 2) == 0) && (decide (2 ≤ C.wordV))) && (decide (C.wordV ≤ 64))) 5).wordV))) == C.wordV)) 5 hc24) fun w28 hc29 hu30 => nt <| Rg 7 (fun w' => w'.cell? ⟨bm, 0, none⟩ = some (.pointer (some ⟨gm, 0, none⟩)) ∧ w'.cell? ⟨bc, 0, none⟩ = some (.pointer (some ⟨g, 0, none⟩))) fun w51 hu52 => ?_
 have U54 := u1 hu12 hu21 im
 have U55 := u1 U54 hu25 im
 have U56 := u1 U55 hu30 im
 have U57 := ut0 U56 hu52
 have r58 := ub1 U57 n_bm_g hbm
 have U59 := ut0 hu30 hu52
 have r60 := ub1 U59 n_bc_g r27
 refine hld ⟨(blk_at r58 rfl), (blk_at r60 rfl)⟩ fun hS53 => Rl 0 hS53 (fun _ hs => hs.1) <| Rl 1 hS53 (fun _ hs => hs.2) <| Rt 2 hS53 <| ?_
 have r61 := CurAt.old hc29 hu52
 refine R0 3 rfl <| Oc <| so3 (words_any (n := ((C.wordsC 1).need ((((C.wordV % 2) == 0) && (decide (2 ≤ C.wordV))) && (decide (C.wordV ≤ 64))) 5).wordV) r61) fun A69 cp70 w62 rd73 hl71 hm72 hc65 hu66 => ?_
 have r75 := ub1 hu66 n_bm_g r58
 have r76 := ub1 hu66 n_bc_g r60
 refine hld ⟨(blk_at r75 rfl), (blk_at r76 rfl)⟩ fun hS74 => Rt 4 hS74 <| Rt 5 hS74 <| ?_
 have U77 := u1 U57 hu66 im
 have r78 := ub1 U77 (Ne.symm hne) hm
 refine R0 6 rfl <| Ost r78 12 (mG c 0 0 0 0 0 0 0 0 0 0 0 (.slice A69 ((((((C.wordsC 1).need ((((C.wordV % 2) == 0) && (decide (2 ≤ C.wordV))) && (decide (C.wordV ≤ 64))) 5).wordsC 1).need ((2 + (2 * (((C.wordsC 1).need ((((C.wordV % 2) == 0) && (decide (2 ≤ C.wordV))) && (decide (C.wordV ≤ 64))) 5).wordV))) == C.wordV) 5).wordsR (((C.wordsC 1).need ((((C.wordV % 2) == 0) && (decide (2 ≤ C.wordV))) && (decide (C.wordV ≤ 64))) 5).wordV)).length) cp70) nS nS nS 0 0 0 0 0 nS) fun w79 B80 hu81 => ?_
 have r83 := ub1 hu81 n_bm_gm r75
 have r84 := ub1 hu81 n_bc_gm r76
 refine hld ⟨(blk_at r83 rfl), (blk_at r84 rfl)⟩ fun hS82 => re <| rm (.tuple #[]) <| ?_
 have r85 := own_stay rd73 hu81 (fun x hx => (not_cons (fun e => (not_old (blk_lt hm) U57.size rd73) (e ▸ hx)) not0)) (fun _ _ h => h)
 have hs : rqR c C = ((((((C.wordsC 1).need ((((C.wordV % 2) == 0) && (decide (2 ≤ C.wordV))) && (decide (C.wordV ≤ 64))) 5).wordsC 1).need ((2 + (2 * (((C.wordsC 1).need ((((C.wordV % 2) == 0) && (decide (2 ≤ C.wordV))) && (decide (C.wordV ≤ 64))) 5).wordV))) == C.wordV) 5).wordsC (((C.wordsC 1).need ((((C.wordV % 2) == 0) && (decide (2 ≤ C.wordV))) && (decide (C.wordV ≤ 64))) 5).wordV)), (Msg.mk c 0 0 0 0 0 0 0 0 0 0 0 (((((C.wordsC 1).need ((((C.wordV % 2) == 0) && (decide (2 ≤ C.wordV))) && (decide (C.wordV ≤ 64))) 5).wordsC 1).need ((2 + (2 * (((C.wordsC 1).need ((((C.wordV % 2) == 0) && (decide (2 ≤ C.wordV))) && (decide (C.wordV ≤ 64))) 5).wordV))) == C.wordV) 5).wordsR (((C.wordsC 1).need ((((C.wordV % 2) == 0) && (decide (2 ≤ C.wordV))) && (decide (C.wordV ≤ 64))) 5).wordV)) [] [] [] 0 0 0 0 0 [])) := by
   unfold rqR q2C q1C evenIn
   (try simp only [bs, if_true, if_false, decide_true, decide_false, reduceIte])
   all_goals rfl
 rw [hs]
 have r86 := CurAt.upd hc65 hu81 (not_cons hne not0) (safe_cons (safe1 r78 (by decide)) safe0)
 have U87 := u1 (Upd.mono (S' := [g, gm]) U77 (ac im all0)) hu81 im
 exact ⟨rfl, r86, ⟨_, ⟨B80, rfl⟩, ⟨_, _, _, _, _, rfl, (r85).rd, RdG.nil .., RdG.nil .., RdG.nil .., RdG.nil .., ⟨(b8 (x := c) (by omega)), (b8 (x := 0) (by omega)), (b16 (x := 0) (by omega)), (b16 (x := 0) (by omega)), (b16 (x := 0) (by omega)), (b16 (x := 0) (by omega)), (b16 (x := 0) (by omega)), (b16 (x := 0) (by omega)), (b16 (x := 0) (by omega)), (b16 (x := 0) (by omega)), (b16 (x := 0) (by omega)), (b16 (x := 0) (by omega)), (b8 (x := 0) (by omega)), (b8 (x := 0) (by omega)), (b8 (x := 0) (by omega)), (b8 (x := 0) (by omega)), (b8 (x := 0) (by omega))⟩⟩⟩, U87⟩
end Go.Proofs.Ytbaeecmamacphaa
