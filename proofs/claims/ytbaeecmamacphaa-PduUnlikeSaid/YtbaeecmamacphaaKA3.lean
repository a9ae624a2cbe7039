/- Contracts of functions, part KA3. -/
import Derived.Test.YtbaeecmamacphaaKA1
import Derived.Test.YtbaeecmamacphaaKA2
import Derived.Laws.BitsAllLaws
set_option linter.unusedVariables false
set_option linter.unusedSimpArgs false
namespace Go.Proofs.Ytbaeecmamacphaa
open Go.RowKit
structure RegSt (w W : World) (bc bm g gm : Nat) (c : Cur) (cs : Array Value) : Prop where
  hc : CurAt W g c
  hm : MsgB W gm cs
  k0 : W.cell? ⟨bc, 0, none⟩ = some (.pointer (some ⟨g, 0, none⟩))
  k1 : W.cell? ⟨bm, 0, none⟩ = some (.pointer (some ⟨gm, 0, none⟩))
  cg : bc ≠ g
  cm : bc ≠ gm
  mg : bm ≠ g
  mm : bm ≠ gm
  ne : g ≠ gm
  u : Upd [g, gm] w W
theorem RegSt.self {w W : World} {bc bm g gm : Nat} {c : Cur} {cs : Array Value} (h : RegSt w W bc bm g gm c cs) : RegSt W W bc bm g gm c cs :=
  ⟨h.hc, h.hm, h.k0, h.k1, h.cg, h.cm, h.mg, h.mm, h.ne, Upd.refl _ _⟩
theorem RegSt.old {w W W' : World} {bc bm g gm : Nat} {c : Cur} {cs : Array Value} (h : RegSt w W bc bm g gm c cs) (hu : Upd [] W W') : RegSt w W' bc bm g gm c cs :=
  ⟨h.hc.old hu, h.hm.upd hu (by simp), hu.cell (by simp) h.k0, hu.cell (by simp) h.k1, h.cg, h.cm, h.mg, h.mm, h.ne, h.u.step hu⟩
theorem RegSt.drew {w W : World} {bc bm g gm : Nat} {c : Cur} {cs : Array Value} (h : RegSt w W bc bm g gm c cs) : RegSt w W.drew bc bm g gm c cs := h.old (Upd.refl [] W).drew
theorem RegSt.call {w W w1 : World} {bc bm g gm : Nat} {c c1 : Cur} {cs : Array Value} (h : RegSt w W bc bm g gm c cs) (hc1 : CurAt w1 g c1) (hu : Upd [g] W w1) : RegSt w w1 bc bm g gm c1 cs :=
  ⟨hc1, h.hm.upd hu (by simpa using h.ne.symm), hu.cell (by simpa using h.cg) h.k0, hu.cell (by simpa using h.mg) h.k1, h.cg, h.cm, h.mg, h.mm, h.ne, h.u.trans' hu fun x hx => by simp at hx; subst hx; simp⟩
theorem RegSt.store {w W : World} {bc bm g gm : Nat} {c : Cur} {cs : Array Value} (h : RegSt w W bc bm g gm c cs) (i : Nat) (u : Value) : RegSt w (W.setCell ⟨gm, i, none⟩ u) bc bm g gm c (cs.setIfInBounds i u) := by
  have hu : Upd [gm] W (W.setCell ⟨gm, i, none⟩ u) := (Upd.refl [gm] W).setCell (p := ⟨gm, i, none⟩) (.inl (by simp)) u
  exact ⟨h.hc.setMsg h.hm i u, h.hm.set i u, hu.cell (by simpa using h.cm) h.k0, hu.cell (by simpa using h.mm) h.k1, h.cg, h.cm, h.mg, h.mm, h.ne, h.u.trans' hu fun x hx => by simp at hx; subst hx; simp⟩
theorem RegSt.both {w W w1 : World} {bc bm g gm : Nat} {c c1 : Cur} {cs cs1 : Array Value} (h : RegSt w W bc bm g gm c cs) (hc1 : CurAt w1 g c1) (hm1 : MsgB w1 gm cs1) (hu : Upd [g, gm] W w1) : RegSt w w1 bc bm g gm c1 cs1 :=
  ⟨hc1, hm1, hu.cell (by simpa using ⟨h.cg, h.cm⟩) h.k0, hu.cell (by simpa using ⟨h.mg, h.mm⟩) h.k1, h.cg, h.cm, h.mg, h.mm, h.ne, h.u.trans hu⟩
theorem RegSt.post {w W : World} {bc bm g gm : Nat} {c : Cur} {cs : Array Value} (h : RegSt w W bc bm g gm c cs) : PForm g gm c cs w (.returned (.tuple #[])) W := ⟨rfl, h.hc, h.hm, h.u⟩
def rspanC (c : Cur) (a most : Int) : Cur := ((c.wordsC 1).need (decide (1 ≤ c.wordV) && decide (c.wordV ≤ most)) 5).need (within a c.wordV) 7
set_option maxRecDepth 100000 in
set_option maxHeartbeats 1000000 in
theorem rspan_any {g : Nat} {c : Cur} {w : World} {a most : Int} (hc : CurAt w g c) (ha : 0 ≤ a ∧ a < 65536) :
    Calls Try.prog 85 #[.pointer (some ⟨g, 0, none⟩), .int .u16 a, .int .i64 most] w (PByte g .i64 65536 c.wordV (rspanC c a most) w) := by
  have hr := hc.wordV
  have hpost : ∀ W, CurAt W g (rspanC c a most) → Upd [g] w W → PByte g .i64 65536 c.wordV (rspanC c a most) w (.returned (.int .i64 c.wordV)) W := fun W h1 h2 => ⟨rfl, h1, h2, hr⟩
  revert hpost
  generalize PByte g .i64 65536 c.wordV (rspanC c a most) w = P
  unfold rspanC
  intro hpost
  have hword := word_any hc
  revert hpost hword hr
  generalize c.wordV = n
  generalize c.wordsC 1 = c1
  intro hr hpost hword
  have hwn : IntKind.i64.wrap n = n := IntWalk.i64_in _ (by omega)
  replace hword := Lib.hid hword
  replace hpost := Lib.hid hpost
  by_cases h1 : 1 ≤ n
  · have hq : (decide (1 ≤ n) && decide (n ≤ most)) = decide (n ≤ most) := by simp [h1]
    rw [hq] at hpost
    clear hq
    go_enter Try.func85, Try.ntmps85
    have tok1_0 : True := trivial
    have tok1_1 : True := trivial
    have tok1_2 : True := trivial
    have tok1_3 : True := trivial
    go_wp2_with (first | (have _t := tok1_0; go_at_call 29; refine hword.out.mono ?_; rintro e w1 ⟨rfl, hc1, hu1, _⟩; clear _t tok1_0) | (have _t := tok1_1; go_at_call 51; refine (need_any _ 5 hc1).mono ?_; rintro e w2 ⟨rfl, hc2, hu2⟩; clear _t tok1_1) | (have _t := tok1_2; go_at_call 108; refine (within_any ha).mono ?_; rintro e w3 ⟨rfl, rfl⟩; clear _t tok1_2) | (have _t := tok1_3; go_at_call 51; refine (need_any _ 7 hc2).mono ?_; rintro e w4 ⟨rfl, hc4, hu4⟩; clear _t tok1_3))
    try go_ret
    exact hpost.out _ hc4 ((hu1.trans hu2).trans hu4)
  · obtain rfl : n = 0 := by omega
    have hq : (decide ((1 : Int) ≤ 0) && decide ((0 : Int) ≤ most)) = false := by simp
    rw [hq] at hpost
    clear hq h1
    go_enter Try.func85, Try.ntmps85
    have tok2_0 : True := trivial
    have tok2_1 : True := trivial
    have tok2_2 : True := trivial
    have tok2_3 : True := trivial
    go_wp2_with (first | (have _t := tok2_0; go_at_call 29; refine hword.out.mono ?_; rintro e w1 ⟨rfl, hc1, hu1, _⟩; clear _t tok2_0) | (have _t := tok2_1; go_at_call 51; refine (need_any _ 5 hc1).mono ?_; rintro e w2 ⟨rfl, hc2, hu2⟩; clear _t tok2_1) | (have _t := tok2_2; go_at_call 108; refine (within_any ha).mono ?_; rintro e w3 ⟨rfl, rfl⟩; clear _t tok2_2) | (have _t := tok2_3; go_at_call 51; refine (need_any _ 7 hc2).mono ?_; rintro e w4 ⟨rfl, hc4, hu4⟩; clear _t tok2_3))
    try go_ret
    exact hpost.out _ hc4 ((hu1.trans hu2).trans hu4)
def countedC1 (c : Cur) (n : Int) : Cur := (c.bytesC 1).need (c.byteV == 2 * n) 5
set_option maxRecDepth 100000 in
set_option maxHeartbeats 1000000 in
theorem counted_any {g : Nat} {c : Cur} {w : World} {n : Int} (hc : CurAt w g c) (hn : 0 ≤ n ∧ n < 65536) :
    Calls Try.prog 90 #[.pointer (some ⟨g, 0, none⟩), .int .i64 n] w (PWords g (countedC1 c n) n w) := by
  have hr := hc.byteV
  have hpost : ∀ W w1 v, CurAt W g ((countedC1 c n).wordsC n) → OwnW w1.heap.size W v ((countedC1 c n).wordsR n) → Upd [g] w w1 → Upd [g] w1 W → PWords g (countedC1 c n) n w (.returned v) W := fun W w1 v h1 h2 h3 h4 => ⟨v, rfl, OwnG.weaken h2 h3.size, h1, h3.trans h4⟩
  revert hpost
  generalize PWords g (countedC1 c n) n w = P
  unfold countedC1
  intro hpost
  have hbyte := byte_any hc
  revert hpost hbyte hr
  generalize c.byteV = k
  generalize c.bytesC 1 = c1
  intro hr hpost hbyte
  have hwk : IntKind.i64.wrap k = k := IntWalk.i64_in _ (by omega)
  have hwn : IntKind.i64.wrap (2 * n) = 2 * n := IntWalk.i64_in _ (by omega)
  replace hbyte := Lib.hid hbyte
  replace hpost := Lib.hid hpost
  go_enter Try.func90, Try.ntmps90
  have tok3_0 : True := trivial
  have tok3_1 : True := trivial
  have tok3_2 : True := trivial
  go_wp2_with (first | (have _t := tok3_0; go_at_call 30; refine hbyte.out.mono ?_; rintro e w1 ⟨rfl, hc1, hu1, _⟩; clear _t tok3_0) | (have _t := tok3_1; go_at_call 51; refine (need_any _ 5 hc1).mono ?_; rintro e w2 ⟨rfl, hc2, hu2⟩; clear _t tok3_1) | (have _t := tok3_2; go_at_call 50; refine (words_any hc2).mono ?_; rintro e w3 ⟨v, rfl, ho3, hc3, hu3⟩; clear _t tok3_2))
  try go_ret
  exact hpost.out _ _ _ hc3 ho3 (hu1.trans hu2) hu3
def PFormW (g gm : Nat) (c' : Cur) (cs : Array Value) (l : List Int) (w : World) (e : Ending) (w' : World) : Prop :=
  ∃ v, e = .returned (.tuple #[]) ∧ CurAt w' g c' ∧ MsgB w' gm (cs.setIfInBounds 12 v) ∧ RdW true w' v l ∧ Upd [g, gm] w w'
theorem RegSt.postW {w W : World} {bc bm g gm : Nat} {c : Cur} {cs : Array Value} {v : Value} {l : List Int} {b : Nat} (h : RegSt w W bc bm g gm c cs) (hr : OwnW b W v l) :
    PFormW g gm c cs l w (.returned (.tuple #[])) (W.setCell ⟨gm, 12, none⟩ v) :=
  have h' := h.store 12 v
  ⟨v, rfl, h'.hc, h'.hm, RdW.upd' hr.rd ((Upd.refl [gm] W).setCell (p := ⟨gm, 12, none⟩) (.inl (by simp)) v) (h.hm.safe _ (by decide)), h'.u⟩
def evenIn (n hi : Int) : Bool := decide (n % 2 = 0) && (decide (2 ≤ n) && decide (n ≤ hi))
theorem tmod2 {n : Int} (h : 0 ≤ n) : n.tmod 2 = n % 2 := Int.tmod_eq_emod_of_nonneg h
theorem tdiv2 {n : Int} (h : 0 ≤ n) : n.tdiv 2 = n / 2 := Int.tdiv_eq_ediv_of_nonneg h
set_option maxRecDepth 100000 in
set_option maxHeartbeats 2000000 in
theorem regs8 {bc bm g gm : Nat} {c : Cur} {cs : Array Value} {w : World} (s : RegSt w w bc bm g gm c cs) :
    Calls Try.prog 93 #[.pointer (some ⟨bc, 0, none⟩), .pointer (some ⟨bm, 0, none⟩)] w (PForm g gm (c.wordsC 1) (cs.setIfInBounds 2 (.int .u16 c.wordV)) w) := by
  have hpost : ∀ W, RegSt w W bc bm g gm (c.wordsC 1) (cs.setIfInBounds 2 (.int .u16 c.wordV)) → PForm g gm (c.wordsC 1) (cs.setIfInBounds 2 (.int .u16 c.wordV)) w (.returned (.tuple #[])) W := fun W h => h.post
  revert hpost
  generalize PForm g gm (c.wordsC 1) (cs.setIfInBounds 2 (.int .u16 c.wordV)) w = P
  intro hpost
  replace hpost := Lib.hid hpost
  have sd := s.drew
  go_enter Try.func93, Try.ntmps93
  refine rg_start (S := fun w' => w'.cell? ⟨bc, 0, none⟩ = some (.pointer (some ⟨g, 0, none⟩)) ∧ w'.cell? ⟨bm, 0, none⟩ = some (.pointer (some ⟨gm, 0, none⟩))) (n := 6) #[false, false, false, false, false, false] (by kernel_rfl) rfl rfl ⟨sd.k0, sd.k1⟩ (fun hHeld => ?_)
  refine rg_take (i := 0) (N := some 2) (v := ?_) (a' := ?_) #[true, false, false, false, false, false] rfl rfl (by kernel_rfl) (fun _ _ _ h => h) (Or.inl ⟨by rfl, ?_⟩) hHeld ?_ ?_
  rotate_left
  · rintro w' ⟨hs0, hs1⟩
    go_simp
    with_reducible rfl
  rotate_left
  · simp only [Act.put, List.setIfInBounds_toArray, List.set_cons_zero, List.set_cons_succ]
    rfl
  refine rg_take (i := 1) (N := some 3) (v := ?_) (a' := ?_) #[true, true, false, false, false, false] rfl rfl (by kernel_rfl) (fun _ _ _ h => h) (Or.inl ⟨by rfl, ?_⟩) hHeld ?_ ?_
  rotate_left
  · rintro w' ⟨hs0, hs1⟩
    go_simp
    with_reducible rfl
  rotate_left
  · simp only [Act.put, List.setIfInBounds_toArray, List.set_cons_zero, List.set_cons_succ]
    rfl
  refine rg_call (i := 2) (N := some 4) (f := 29) (args := ?_) #[true, true, true, false, false, false] rfl rfl (by kernel_rfl) Try.func29 (by kernel_rfl) rfl (by rfl) rfl ?_ ?_
  rotate_left
  · (try simp only [List.map_toArray, List.map_cons, List.map_nil]); rfl
  refine (word_any sd.hc).mono ?_
  rintro e w1 ⟨rfl, hc1, hu1, hr1⟩
  have s1 := sd.call hc1 hu1
  have e1_2 := s1.hm.cell 2 (by decide)
  have f1_2 := s1.hm.froz 2
  refine ⟨_, rfl, ⟨s1.k0, s1.k1⟩, fun hHeld => ?_⟩
  refine rg_norm (a' := ?_) ?_ ?_
  rotate_left
  · show Act.put _ (some 4) _ = _
    simp only [Act.put, List.setIfInBounds_toArray, List.set_cons_zero, List.set_cons_succ]
    rfl
  refine rg_take (i := 3) (N := some 5) (v := ?_) (a' := ?_) #[true, true, true, true, false, false] rfl rfl (by kernel_rfl) (fun _ _ _ h => h) (Or.inl ⟨by rfl, ?_⟩) hHeld ?_ ?_
  rotate_left
  · rintro w' ⟨hs0, hs1⟩
    go_simp
    with_reducible rfl
  rotate_left
  · simp only [Act.put, List.setIfInBounds_toArray, List.set_cons_zero, List.set_cons_succ]
    rfl
  refine rg_take (i := 4) (N := some 6) (v := ?_) (a' := ?_) #[true, true, true, true, true, false] rfl rfl (by kernel_rfl) (fun _ _ _ h => h) (Or.inl ⟨by rfl, ?_⟩) hHeld ?_ ?_
  rotate_left
  · rintro w' ⟨hs0, hs1⟩
    go_simp
    with_reducible rfl
  rotate_left
  · simp only [Act.put, List.setIfInBounds_toArray, List.set_cons_zero, List.set_cons_succ]
    rfl
  refine rg_store (i := 5) (w1 := ?_) #[true, true, true, true, true, true] rfl rfl (by kernel_rfl) (by rfl) ?_ ?_ (fun hHeld => ?_)
  rotate_left
  · go_simp
    rfl
  · exact ⟨(s1.store 2 _).k0, (s1.store 2 _).k1⟩
  refine rg_done (by kernel_rfl) ?_
  go_end0
  exact hpost.out _ (s1.store 2 _)
set_option maxRecDepth 100000 in
set_option maxHeartbeats 2000000 in
theorem regs4 {bc bm g gm : Nat} {c : Cur} {cs : Array Value} {w : World} (s : RegSt w w bc bm g gm c cs) :
    Calls Try.prog 88 #[.pointer (some ⟨bc, 0, none⟩), .pointer (some ⟨bm, 0, none⟩)] w (PForm g gm ((c.wordsC 1).wordsC 1) ((cs.setIfInBounds 2 (.int .u16 c.wordV)).setIfInBounds 4 (.int .u16 ((c.wordsC 1)).wordV)) w) := by
  have hpost : ∀ W, RegSt w W bc bm g gm ((c.wordsC 1).wordsC 1) ((cs.setIfInBounds 2 (.int .u16 c.wordV)).setIfInBounds 4 (.int .u16 ((c.wordsC 1)).wordV)) → PForm g gm ((c.wordsC 1).wordsC 1) ((cs.setIfInBounds 2 (.int .u16 c.wordV)).setIfInBounds 4 (.int .u16 ((c.wordsC 1)).wordV)) w (.returned (.tuple #[])) W := fun W h => h.post
  revert hpost
  generalize PForm g gm ((c.wordsC 1).wordsC 1) ((cs.setIfInBounds 2 (.int .u16 c.wordV)).setIfInBounds 4 (.int .u16 ((c.wordsC 1)).wordV)) w = P
  intro hpost
  replace hpost := Lib.hid hpost
  have sd := s.drew
  go_enter Try.func88, Try.ntmps88
  refine rg_start (S := fun w' => w'.cell? ⟨bc, 0, none⟩ = some (.pointer (some ⟨g, 0, none⟩)) ∧ w'.cell? ⟨bm, 0, none⟩ = some (.pointer (some ⟨gm, 0, none⟩))) (n := 12) #[false, false, false, false, false, false, false, false, false, false, false, false] (by kernel_rfl) rfl rfl ⟨sd.k0, sd.k1⟩ (fun hHeld => ?_)
  refine rg_take (i := 0) (N := some 2) (v := ?_) (a' := ?_) #[true, false, false, false, false, false, false, false, false, false, false, false] rfl rfl (by kernel_rfl) (fun _ _ _ h => h) (Or.inl ⟨by rfl, ?_⟩) hHeld ?_ ?_
  rotate_left
  · rintro w' ⟨hs0, hs1⟩
    go_simp
    with_reducible rfl
  rotate_left
  · simp only [Act.put, List.setIfInBounds_toArray, List.set_cons_zero, List.set_cons_succ]
    rfl
  refine rg_take (i := 1) (N := some 3) (v := ?_) (a' := ?_) #[true, true, false, false, false, false, false, false, false, false, false, false] rfl rfl (by kernel_rfl) (fun _ _ _ h => h) (Or.inl ⟨by rfl, ?_⟩) hHeld ?_ ?_
  rotate_left
  · rintro w' ⟨hs0, hs1⟩
    go_simp
    with_reducible rfl
  rotate_left
  · simp only [Act.put, List.setIfInBounds_toArray, List.set_cons_zero, List.set_cons_succ]
    rfl
  refine rg_take (i := 2) (N := some 4) (v := ?_) (a' := ?_) #[true, true, true, false, false, false, false, false, false, false, false, false] rfl rfl (by kernel_rfl) (fun _ _ _ h => h) (Or.inl ⟨by rfl, ?_⟩) hHeld ?_ ?_
  rotate_left
  · rintro w' ⟨hs0, hs1⟩
    go_simp
    with_reducible rfl
  rotate_left
  · simp only [Act.put, List.setIfInBounds_toArray, List.set_cons_zero, List.set_cons_succ]
    rfl
  refine rg_take (i := 4) (N := some 6) (v := ?_) (a' := ?_) #[true, true, true, false, true, false, false, false, false, false, false, false] rfl rfl (by kernel_rfl) (fun _ _ _ h => h) (Or.inl ⟨by rfl, ?_⟩) hHeld ?_ ?_
  rotate_left
  · rintro w' ⟨hs0, hs1⟩
    go_simp
    with_reducible rfl
  rotate_left
  · simp only [Act.put, List.setIfInBounds_toArray, List.set_cons_zero, List.set_cons_succ]
    rfl
  refine rg_call (i := 3) (N := some 5) (f := 29) (args := ?_) #[true, true, true, true, true, false, false, false, false, false, false, false] rfl rfl (by kernel_rfl) Try.func29 (by kernel_rfl) rfl (by rfl) rfl ?_ ?_
  rotate_left
  · (try simp only [List.map_toArray, List.map_cons, List.map_nil]); rfl
  refine (word_any sd.hc).mono ?_
  rintro e w1 ⟨rfl, hc1, hu1, hr1⟩
  have s1 := sd.call hc1 hu1
  refine ⟨_, rfl, ⟨s1.k0, s1.k1⟩, fun hHeld => ?_⟩
  refine rg_norm (a' := ?_) ?_ ?_
  rotate_left
  · show Act.put _ (some 5) _ = _
    simp only [Act.put, List.setIfInBounds_toArray, List.set_cons_zero, List.set_cons_succ]
    rfl
  refine rg_call (i := 5) (N := some 7) (f := 29) (args := ?_) #[true, true, true, true, true, true, false, false, false, false, false, false] rfl rfl (by kernel_rfl) Try.func29 (by kernel_rfl) rfl (by rfl) rfl ?_ ?_
  rotate_left
  · (try simp only [List.map_toArray, List.map_cons, List.map_nil]); rfl
  refine (word_any s1.hc).mono ?_
  rintro e w2 ⟨rfl, hc2, hu2, hr2⟩
  have s2 := s1.call hc2 hu2
  have e2_2 := s2.hm.cell 2 (by decide)
  have f2_2 := s2.hm.froz 2
  have e2_4 := s2.hm.cell 4 (by decide)
  have f2_4 := s2.hm.froz 4
  refine ⟨_, rfl, ⟨s2.k0, s2.k1⟩, fun hHeld => ?_⟩
  refine rg_norm (a' := ?_) ?_ ?_
  rotate_left
  · show Act.put _ (some 7) _ = _
    simp only [Act.put, List.setIfInBounds_toArray, List.set_cons_zero, List.set_cons_succ]
    rfl
  refine rg_take (i := 6) (N := some 8) (v := ?_) (a' := ?_) #[true, true, true, true, true, true, true, false, false, false, false, false] rfl rfl (by kernel_rfl) (fun _ _ _ h => h) (Or.inl ⟨by rfl, ?_⟩) hHeld ?_ ?_
  rotate_left
  · rintro w' ⟨hs0, hs1⟩
    go_simp
    with_reducible rfl
  rotate_left
  · simp only [Act.put, List.setIfInBounds_toArray, List.set_cons_zero, List.set_cons_succ]
    rfl
  refine rg_take (i := 7) (N := some 9) (v := ?_) (a' := ?_) #[true, true, true, true, true, true, true, true, false, false, false, false] rfl rfl (by kernel_rfl) (fun _ _ _ h => h) (Or.inl ⟨by rfl, ?_⟩) hHeld ?_ ?_
  rotate_left
  · rintro w' ⟨hs0, hs1⟩
    go_simp
    with_reducible rfl
  rotate_left
  · simp only [Act.put, List.setIfInBounds_toArray, List.set_cons_zero, List.set_cons_succ]
    rfl
  refine rg_store (i := 8) (w1 := ?_) #[true, true, true, true, true, true, true, true, true, false, false, false] rfl rfl (by kernel_rfl) (by rfl) ?_ ?_ (fun hHeld => ?_)
  rotate_left
  · go_simp
    rfl
  · exact ⟨(s2.store 2 _).k0, (s2.store 2 _).k1⟩
  refine rg_take (i := 9) (N := some 10) (v := ?_) (a' := ?_) #[true, true, true, true, true, true, true, true, true, true, false, false] rfl rfl (by kernel_rfl) (fun _ _ _ h => h) (Or.inl ⟨by rfl, ?_⟩) hHeld ?_ ?_
  rotate_left
  · rintro w' ⟨hs0, hs1⟩
    go_simp
    with_reducible rfl
  rotate_left
  · simp only [Act.put, List.setIfInBounds_toArray, List.set_cons_zero, List.set_cons_succ]
    rfl
  refine rg_take (i := 10) (N := some 11) (v := ?_) (a' := ?_) #[true, true, true, true, true, true, true, true, true, true, true, false] rfl rfl (by kernel_rfl) (fun _ _ _ h => h) (Or.inl ⟨by rfl, ?_⟩) hHeld ?_ ?_
  rotate_left
  · rintro w' ⟨hs0, hs1⟩
    go_simp
    with_reducible rfl
  rotate_left
  · simp only [Act.put, List.setIfInBounds_toArray, List.set_cons_zero, List.set_cons_succ]
    rfl
  refine rg_store (i := 11) (w1 := ?_) #[true, true, true, true, true, true, true, true, true, true, true, true] rfl rfl (by kernel_rfl) (by rfl) ?_ ?_ (fun hHeld => ?_)
  rotate_left
  · go_simp
    rfl
  · exact ⟨((s2.store 2 _).store 4 _).k0, ((s2.store 2 _).store 4 _).k1⟩
  refine rg_done (by kernel_rfl) ?_
  go_end0
  exact hpost.out _ ((s2.store 2 _).store 4 _)
set_option maxRecDepth 100000 in
set_option maxHeartbeats 2000000 in
theorem regs6 {bc bm g gm : Nat} {c : Cur} {cs : Array Value} {w : World} (s : RegSt w w bc bm g gm c cs) :
    Calls Try.prog 91 #[.pointer (some ⟨bc, 0, none⟩), .pointer (some ⟨bm, 0, none⟩)] w (PForm g gm (((c.wordsC 1).wordsC 1).wordsC 1) (((cs.setIfInBounds 2 (.int .u16 c.wordV)).setIfInBounds 5 (.int .u16 ((c.wordsC 1)).wordV)).setIfInBounds 6 (.int .u16 (((c.wordsC 1).wordsC 1)).wordV)) w) := by
  have hpost : ∀ W, RegSt w W bc bm g gm (((c.wordsC 1).wordsC 1).wordsC 1) (((cs.setIfInBounds 2 (.int .u16 c.wordV)).setIfInBounds 5 (.int .u16 ((c.wordsC 1)).wordV)).setIfInBounds 6 (.int .u16 (((c.wordsC 1).wordsC 1)).wordV)) → PForm g gm (((c.wordsC 1).wordsC 1).wordsC 1) (((cs.setIfInBounds 2 (.int .u16 c.wordV)).setIfInBounds 5 (.int .u16 ((c.wordsC 1)).wordV)).setIfInBounds 6 (.int .u16 (((c.wordsC 1).wordsC 1)).wordV)) w (.returned (.tuple #[])) W := fun W h => h.post
  revert hpost
  generalize PForm g gm (((c.wordsC 1).wordsC 1).wordsC 1) (((cs.setIfInBounds 2 (.int .u16 c.wordV)).setIfInBounds 5 (.int .u16 ((c.wordsC 1)).wordV)).setIfInBounds 6 (.int .u16 (((c.wordsC 1).wordsC 1)).wordV)) w = P
  intro hpost
  replace hpost := Lib.hid hpost
  have sd := s.drew
  go_enter Try.func91, Try.ntmps91
  refine rg_start (S := fun w' => w'.cell? ⟨bc, 0, none⟩ = some (.pointer (some ⟨g, 0, none⟩)) ∧ w'.cell? ⟨bm, 0, none⟩ = some (.pointer (some ⟨gm, 0, none⟩))) (n := 18) #[false, false, false, false, false, false, false, false, false, false, false, false, false, false, false, false, false, false] (by kernel_rfl) rfl rfl ⟨sd.k0, sd.k1⟩ (fun hHeld => ?_)
  refine rg_take (i := 0) (N := some 2) (v := ?_) (a' := ?_) #[true, false, false, false, false, false, false, false, false, false, false, false, false, false, false, false, false, false] rfl rfl (by kernel_rfl) (fun _ _ _ h => h) (Or.inl ⟨by rfl, ?_⟩) hHeld ?_ ?_
  rotate_left
  · rintro w' ⟨hs0, hs1⟩
    go_simp
    with_reducible rfl
  rotate_left
  · simp only [Act.put, List.setIfInBounds_toArray, List.set_cons_zero, List.set_cons_succ]
    rfl
  refine rg_take (i := 1) (N := some 3) (v := ?_) (a' := ?_) #[true, true, false, false, false, false, false, false, false, false, false, false, false, false, false, false, false, false] rfl rfl (by kernel_rfl) (fun _ _ _ h => h) (Or.inl ⟨by rfl, ?_⟩) hHeld ?_ ?_
  rotate_left
  · rintro w' ⟨hs0, hs1⟩
    go_simp
    with_reducible rfl
  rotate_left
  · simp only [Act.put, List.setIfInBounds_toArray, List.set_cons_zero, List.set_cons_succ]
    rfl
  refine rg_take (i := 2) (N := some 4) (v := ?_) (a' := ?_) #[true, true, true, false, false, false, false, false, false, false, false, false, false, false, false, false, false, false] rfl rfl (by kernel_rfl) (fun _ _ _ h => h) (Or.inl ⟨by rfl, ?_⟩) hHeld ?_ ?_
  rotate_left
  · rintro w' ⟨hs0, hs1⟩
    go_simp
    with_reducible rfl
  rotate_left
  · simp only [Act.put, List.setIfInBounds_toArray, List.set_cons_zero, List.set_cons_succ]
    rfl
  refine rg_take (i := 3) (N := some 5) (v := ?_) (a' := ?_) #[true, true, true, true, false, false, false, false, false, false, false, false, false, false, false, false, false, false] rfl rfl (by kernel_rfl) (fun _ _ _ h => h) (Or.inl ⟨by rfl, ?_⟩) hHeld ?_ ?_
  rotate_left
  · rintro w' ⟨hs0, hs1⟩
    go_simp
    with_reducible rfl
  rotate_left
  · simp only [Act.put, List.setIfInBounds_toArray, List.set_cons_zero, List.set_cons_succ]
    rfl
  refine rg_take (i := 5) (N := some 7) (v := ?_) (a' := ?_) #[true, true, true, true, false, true, false, false, false, false, false, false, false, false, false, false, false, false] rfl rfl (by kernel_rfl) (fun _ _ _ h => h) (Or.inl ⟨by rfl, ?_⟩) hHeld ?_ ?_
  rotate_left
  · rintro w' ⟨hs0, hs1⟩
    go_simp
    with_reducible rfl
  rotate_left
  · simp only [Act.put, List.setIfInBounds_toArray, List.set_cons_zero, List.set_cons_succ]
    rfl
  refine rg_take (i := 7) (N := some 9) (v := ?_) (a' := ?_) #[true, true, true, true, false, true, false, true, false, false, false, false, false, false, false, false, false, false] rfl rfl (by kernel_rfl) (fun _ _ _ h => h) (Or.inl ⟨by rfl, ?_⟩) hHeld ?_ ?_
  rotate_left
  · rintro w' ⟨hs0, hs1⟩
    go_simp
    with_reducible rfl
  rotate_left
  · simp only [Act.put, List.setIfInBounds_toArray, List.set_cons_zero, List.set_cons_succ]
    rfl
  refine rg_call (i := 4) (N := some 6) (f := 29) (args := ?_) #[true, true, true, true, true, true, false, true, false, false, false, false, false, false, false, false, false, false] rfl rfl (by kernel_rfl) Try.func29 (by kernel_rfl) rfl (by rfl) rfl ?_ ?_
  rotate_left
  · (try simp only [List.map_toArray, List.map_cons, List.map_nil]); rfl
  refine (word_any sd.hc).mono ?_
  rintro e w1 ⟨rfl, hc1, hu1, hr1⟩
  have s1 := sd.call hc1 hu1
  refine ⟨_, rfl, ⟨s1.k0, s1.k1⟩, fun hHeld => ?_⟩
  refine rg_norm (a' := ?_) ?_ ?_
  rotate_left
  · show Act.put _ (some 6) _ = _
    simp only [Act.put, List.setIfInBounds_toArray, List.set_cons_zero, List.set_cons_succ]
    rfl
  refine rg_call (i := 6) (N := some 8) (f := 29) (args := ?_) #[true, true, true, true, true, true, true, true, false, false, false, false, false, false, false, false, false, false] rfl rfl (by kernel_rfl) Try.func29 (by kernel_rfl) rfl (by rfl) rfl ?_ ?_
  rotate_left
  · (try simp only [List.map_toArray, List.map_cons, List.map_nil]); rfl
  refine (word_any s1.hc).mono ?_
  rintro e w2 ⟨rfl, hc2, hu2, hr2⟩
  have s2 := s1.call hc2 hu2
  refine ⟨_, rfl, ⟨s2.k0, s2.k1⟩, fun hHeld => ?_⟩
  refine rg_norm (a' := ?_) ?_ ?_
  rotate_left
  · show Act.put _ (some 8) _ = _
    simp only [Act.put, List.setIfInBounds_toArray, List.set_cons_zero, List.set_cons_succ]
    rfl
  refine rg_call (i := 8) (N := some 10) (f := 29) (args := ?_) #[true, true, true, true, true, true, true, true, true, false, false, false, false, false, false, false, false, false] rfl rfl (by kernel_rfl) Try.func29 (by kernel_rfl) rfl (by rfl) rfl ?_ ?_
  rotate_left
  · (try simp only [List.map_toArray, List.map_cons, List.map_nil]); rfl
  refine (word_any s2.hc).mono ?_
  rintro e w3 ⟨rfl, hc3, hu3, hr3⟩
  have s3 := s2.call hc3 hu3
  have e3_2 := s3.hm.cell 2 (by decide)
  have f3_2 := s3.hm.froz 2
  have e3_5 := s3.hm.cell 5 (by decide)
  have f3_5 := s3.hm.froz 5
  have e3_6 := s3.hm.cell 6 (by decide)
  have f3_6 := s3.hm.froz 6
  refine ⟨_, rfl, ⟨s3.k0, s3.k1⟩, fun hHeld => ?_⟩
  refine rg_norm (a' := ?_) ?_ ?_
  rotate_left
  · show Act.put _ (some 10) _ = _
    simp only [Act.put, List.setIfInBounds_toArray, List.set_cons_zero, List.set_cons_succ]
    rfl
  refine rg_take (i := 9) (N := some 11) (v := ?_) (a' := ?_) #[true, true, true, true, true, true, true, true, true, true, false, false, false, false, false, false, false, false] rfl rfl (by kernel_rfl) (fun _ _ _ h => h) (Or.inl ⟨by rfl, ?_⟩) hHeld ?_ ?_
  rotate_left
  · rintro w' ⟨hs0, hs1⟩
    go_simp
    with_reducible rfl
  rotate_left
  · simp only [Act.put, List.setIfInBounds_toArray, List.set_cons_zero, List.set_cons_succ]
    rfl
  refine rg_take (i := 10) (N := some 12) (v := ?_) (a' := ?_) #[true, true, true, true, true, true, true, true, true, true, true, false, false, false, false, false, false, false] rfl rfl (by kernel_rfl) (fun _ _ _ h => h) (Or.inl ⟨by rfl, ?_⟩) hHeld ?_ ?_
  rotate_left
  · rintro w' ⟨hs0, hs1⟩
    go_simp
    with_reducible rfl
  rotate_left
  · simp only [Act.put, List.setIfInBounds_toArray, List.set_cons_zero, List.set_cons_succ]
    rfl
  refine rg_store (i := 11) (w1 := ?_) #[true, true, true, true, true, true, true, true, true, true, true, true, false, false, false, false, false, false] rfl rfl (by kernel_rfl) (by rfl) ?_ ?_ (fun hHeld => ?_)
  rotate_left
  · go_simp
    rfl
  · exact ⟨(s3.store 2 _).k0, (s3.store 2 _).k1⟩
  refine rg_take (i := 12) (N := some 13) (v := ?_) (a' := ?_) #[true, true, true, true, true, true, true, true, true, true, true, true, true, false, false, false, false, false] rfl rfl (by kernel_rfl) (fun _ _ _ h => h) (Or.inl ⟨by rfl, ?_⟩) hHeld ?_ ?_
  rotate_left
  · rintro w' ⟨hs0, hs1⟩
    go_simp
    with_reducible rfl
  rotate_left
  · simp only [Act.put, List.setIfInBounds_toArray, List.set_cons_zero, List.set_cons_succ]
    rfl
  refine rg_take (i := 13) (N := some 14) (v := ?_) (a' := ?_) #[true, true, true, true, true, true, true, true, true, true, true, true, true, true, false, false, false, false] rfl rfl (by kernel_rfl) (fun _ _ _ h => h) (Or.inl ⟨by rfl, ?_⟩) hHeld ?_ ?_
  rotate_left
  · rintro w' ⟨hs0, hs1⟩
    go_simp
    with_reducible rfl
  rotate_left
  · simp only [Act.put, List.setIfInBounds_toArray, List.set_cons_zero, List.set_cons_succ]
    rfl
  refine rg_store (i := 14) (w1 := ?_) #[true, true, true, true, true, true, true, true, true, true, true, true, true, true, true, false, false, false] rfl rfl (by kernel_rfl) (by rfl) ?_ ?_ (fun hHeld => ?_)
  rotate_left
  · go_simp
    rfl
  · exact ⟨((s3.store 2 _).store 5 _).k0, ((s3.store 2 _).store 5 _).k1⟩
  refine rg_take (i := 15) (N := some 15) (v := ?_) (a' := ?_) #[true, true, true, true, true, true, true, true, true, true, true, true, true, true, true, true, false, false] rfl rfl (by kernel_rfl) (fun _ _ _ h => h) (Or.inl ⟨by rfl, ?_⟩) hHeld ?_ ?_
  rotate_left
  · rintro w' ⟨hs0, hs1⟩
    go_simp
    with_reducible rfl
  rotate_left
  · simp only [Act.put, List.setIfInBounds_toArray, List.set_cons_zero, List.set_cons_succ]
    rfl
  refine rg_take (i := 16) (N := some 16) (v := ?_) (a' := ?_) #[true, true, true, true, true, true, true, true, true, true, true, true, true, true, true, true, true, false] rfl rfl (by kernel_rfl) (fun _ _ _ h => h) (Or.inl ⟨by rfl, ?_⟩) hHeld ?_ ?_
  rotate_left
  · rintro w' ⟨hs0, hs1⟩
    go_simp
    with_reducible rfl
  rotate_left
  · simp only [Act.put, List.setIfInBounds_toArray, List.set_cons_zero, List.set_cons_succ]
    rfl
  refine rg_store (i := 17) (w1 := ?_) #[true, true, true, true, true, true, true, true, true, true, true, true, true, true, true, true, true, true] rfl rfl (by kernel_rfl) (by rfl) ?_ ?_ (fun hHeld => ?_)
  rotate_left
  · go_simp
    rfl
  · exact ⟨(((s3.store 2 _).store 5 _).store 6 _).k0, (((s3.store 2 _).store 5 _).store 6 _).k1⟩
  refine rg_done (by kernel_rfl) ?_
  go_end0
  exact hpost.out _ (((s3.store 2 _).store 5 _).store 6 _)
set_option maxRecDepth 100000 in
set_option maxHeartbeats 2000000 in
theorem regs1 {bc bm g gm : Nat} {c : Cur} {cs : Array Value} {w : World} {most : Int} (s : RegSt w w bc bm g gm c cs) :
    Calls Try.prog 84 #[.int .i64 most, .pointer (some ⟨bc, 0, none⟩), .pointer (some ⟨bm, 0, none⟩)] w (PForm g gm (spanC c most) ((cs.setIfInBounds 2 (.int .u16 c.wordV)).setIfInBounds 3 (.int .u16 (c.wordsC 1).wordV)) w) := by
  have hpost : ∀ W, RegSt w W bc bm g gm (rspanC (c.wordsC 1) c.wordV most) ((cs.setIfInBounds 2 (.int .u16 c.wordV)).setIfInBounds 3 (.int .u16 (c.wordsC 1).wordV)) → PForm g gm (spanC c most) ((cs.setIfInBounds 2 (.int .u16 c.wordV)).setIfInBounds 3 (.int .u16 (c.wordsC 1).wordV)) w (.returned (.tuple #[])) W := fun W h => h.post
  revert hpost
  generalize PForm g gm (spanC c most) ((cs.setIfInBounds 2 (.int .u16 c.wordV)).setIfInBounds 3 (.int .u16 (c.wordsC 1).wordV)) w = P
  intro hpost
  replace hpost := Lib.hid hpost
  have hra := s.hc.wordV
  have hsz : cs.size = 22 := s.hm.2
  have sd := s.drew
  go_enter Try.func84, Try.ntmps84
  go_wp2_with fail
  refine rg_start (S := fun w' => w'.cell? ⟨bc, 0, none⟩ = some (.pointer (some ⟨g, 0, none⟩)) ∧ w'.cell? ⟨bm, 0, none⟩ = some (.pointer (some ⟨gm, 0, none⟩))) (n := 6) #[false, false, false, false, false, false] (by kernel_rfl) rfl rfl ⟨sd.k0, sd.k1⟩ (fun hHeld => ?_)
  refine rg_take (i := 0) (N := some 4) (v := ?_) (a' := ?_) #[true, false, false, false, false, false] rfl rfl (by kernel_rfl) (fun _ _ _ h => h) (Or.inl ⟨by rfl, ?_⟩) hHeld ?_ ?_
  rotate_left
  · rintro w' ⟨hs0, hs1⟩
    go_simp
    with_reducible rfl
  rotate_left
  · simp only [Act.put, List.setIfInBounds_toArray, List.set_cons_zero, List.set_cons_succ]
    rfl
  refine rg_take (i := 1) (N := some 5) (v := ?_) (a' := ?_) #[true, true, false, false, false, false] rfl rfl (by kernel_rfl) (fun _ _ _ h => h) (Or.inl ⟨by rfl, ?_⟩) hHeld ?_ ?_
  rotate_left
  · rintro w' ⟨hs0, hs1⟩
    go_simp
    with_reducible rfl
  rotate_left
  · simp only [Act.put, List.setIfInBounds_toArray, List.set_cons_zero, List.set_cons_succ]
    rfl
  refine rg_call (i := 2) (N := some 6) (f := 29) (args := ?_) #[true, true, true, false, false, false] rfl rfl (by kernel_rfl) Try.func29 (by kernel_rfl) rfl (by rfl) rfl ?_ ?_
  rotate_left
  · (try simp only [List.map_toArray, List.map_cons, List.map_nil]); rfl
  refine (word_any sd.hc).mono ?_
  rintro e w1 ⟨rfl, hc1, hu1, hr1⟩
  have s1 := sd.call hc1 hu1
  have e1_2 := s1.hm.cell 2 (by decide)
  have f1_2 := s1.hm.froz 2
  refine ⟨_, rfl, ⟨s1.k0, s1.k1⟩, fun hHeld => ?_⟩
  refine rg_norm (a' := ?_) ?_ ?_
  rotate_left
  · show Act.put _ (some 6) _ = _
    simp only [Act.put, List.setIfInBounds_toArray, List.set_cons_zero, List.set_cons_succ]
    rfl
  refine rg_take (i := 3) (N := some 7) (v := ?_) (a' := ?_) #[true, true, true, true, false, false] rfl rfl (by kernel_rfl) (fun _ _ _ h => h) (Or.inl ⟨by rfl, ?_⟩) hHeld ?_ ?_
  rotate_left
  · rintro w' ⟨hs0, hs1⟩
    go_simp
    with_reducible rfl
  rotate_left
  · simp only [Act.put, List.setIfInBounds_toArray, List.set_cons_zero, List.set_cons_succ]
    rfl
  refine rg_take (i := 4) (N := some 8) (v := ?_) (a' := ?_) #[true, true, true, true, true, false] rfl rfl (by kernel_rfl) (fun _ _ _ h => h) (Or.inl ⟨by rfl, ?_⟩) hHeld ?_ ?_
  rotate_left
  · rintro w' ⟨hs0, hs1⟩
    go_simp
    with_reducible rfl
  rotate_left
  · simp only [Act.put, List.setIfInBounds_toArray, List.set_cons_zero, List.set_cons_succ]
    rfl
  refine rg_store (i := 5) (w1 := ?_) #[true, true, true, true, true, true] rfl rfl (by kernel_rfl) (by rfl) ?_ ?_ (fun hHeld => ?_)
  rotate_left
  · go_simp
    rfl
  · exact ⟨(s1.store 2 _).k0, (s1.store 2 _).k1⟩
  refine rg_done (by kernel_rfl) ?_
  have t1 := (s1.store 2 (.int .u16 c.wordV)).drew
  have e2 := t1.hm.cellv 2 (by decide) (getD_set_same 2 _ (by omega))
  clear hHeld e1_2 f1_2
  go_wp2_with fail
  have hrn := wordV_rng (wordsC_rng s.hc.rng 1)
  have hwr : IntKind.u16.wrap (c.wordsC 1).wordV = (c.wordsC 1).wordV := by show _ % 65536 = _; omega
  refine rg_start (S := fun w' => w'.cell? ⟨bc, 0, none⟩ = some (.pointer (some ⟨g, 0, none⟩)) ∧ w'.cell? ⟨bm, 0, none⟩ = some (.pointer (some ⟨gm, 0, none⟩)) ∧ w'.cell? ⟨gm, 2, none⟩ = some (.int .u16 c.wordV)) (n := 12) #[false, false, false, false, false, false, false, false, false, false, false, false] (by kernel_rfl) rfl rfl ⟨t1.k0, t1.k1, e2⟩ (fun hHeld => ?_)
  refine rg_take (i := 0) (N := some 9) (v := ?_) (a' := ?_) #[true, false, false, false, false, false, false, false, false, false, false, false] rfl rfl (by kernel_rfl) (fun _ _ _ h => h) (Or.inl ⟨by rfl, ?_⟩) hHeld ?_ ?_
  rotate_left
  · rintro w' ⟨hs0, hs1, hs2⟩
    go_simp
    with_reducible rfl
  rotate_left
  · simp only [Act.put, List.setIfInBounds_toArray, List.set_cons_zero, List.set_cons_succ]
    rfl
  refine rg_take (i := 1) (N := some 10) (v := ?_) (a' := ?_) #[true, true, false, false, false, false, false, false, false, false, false, false] rfl rfl (by kernel_rfl) (fun _ _ _ h => h) (Or.inl ⟨by rfl, ?_⟩) hHeld ?_ ?_
  rotate_left
  · rintro w' ⟨hs0, hs1, hs2⟩
    go_simp
    with_reducible rfl
  rotate_left
  · simp only [Act.put, List.setIfInBounds_toArray, List.set_cons_zero, List.set_cons_succ]
    rfl
  refine rg_take (i := 2) (N := some 11) (v := ?_) (a' := ?_) #[true, true, true, false, false, false, false, false, false, false, false, false] rfl rfl (by kernel_rfl) (fun _ _ _ h => h) (Or.inl ⟨by rfl, ?_⟩) hHeld ?_ ?_
  rotate_left
  · rintro w' ⟨hs0, hs1, hs2⟩
    go_simp
    with_reducible rfl
  rotate_left
  · simp only [Act.put, List.setIfInBounds_toArray, List.set_cons_zero, List.set_cons_succ]
    rfl
  refine rg_take (i := 3) (N := some 12) (v := ?_) (a' := ?_) #[true, true, true, true, false, false, false, false, false, false, false, false] rfl rfl (by kernel_rfl) (fun _ _ _ h => h) (Or.inl ⟨by rfl, ?_⟩) hHeld ?_ ?_
  rotate_left
  · rintro w' ⟨hs0, hs1, hs2⟩
    go_simp
    with_reducible rfl
  rotate_left
  · simp only [Act.put, List.setIfInBounds_toArray, List.set_cons_zero, List.set_cons_succ]
    rfl
  refine rg_take (i := 4) (N := some 13) (v := ?_) (a' := ?_) #[true, true, true, true, true, false, false, false, false, false, false, false] rfl rfl (by kernel_rfl) (fun _ _ _ h => h) (Or.inl ⟨by rfl, ?_⟩) hHeld ?_ ?_
  rotate_left
  · rintro w' ⟨hs0, hs1, hs2⟩
    go_simp
    with_reducible rfl
  rotate_left
  · simp only [Act.put, List.setIfInBounds_toArray, List.set_cons_zero, List.set_cons_succ]
    rfl
  refine rg_take (i := 5) (N := some 14) (v := ?_) (a' := ?_) #[true, true, true, true, true, true, false, false, false, false, false, false] rfl rfl (by kernel_rfl) (fun _ _ _ h => h) (Or.inl ⟨by rfl, ?_⟩) hHeld ?_ ?_
  rotate_left
  · rintro w' ⟨hs0, hs1, hs2⟩
    go_simp
    with_reducible rfl
  rotate_left
  · simp only [Act.put, List.setIfInBounds_toArray, List.set_cons_zero, List.set_cons_succ]
    rfl
  refine rg_take (i := 6) (N := some 15) (v := ?_) (a' := ?_) #[true, true, true, true, true, true, true, false, false, false, false, false] rfl rfl (by kernel_rfl) (fun _ _ _ h => h) (Or.inl ⟨by rfl, ?_⟩) hHeld ?_ ?_
  rotate_left
  · rintro w' ⟨hs0, hs1, hs2⟩
    go_simp
    with_reducible rfl
  rotate_left
  · simp only [Act.put, List.setIfInBounds_toArray, List.set_cons_zero, List.set_cons_succ]
    rfl
  refine rg_call (i := 7) (N := some 16) (f := 85) (args := ?_) #[true, true, true, true, true, true, true, true, false, false, false, false] rfl rfl (by kernel_rfl) Try.func85 (by kernel_rfl) rfl (by rfl) rfl ?_ ?_
  rotate_left
  · (try simp only [List.map_toArray, List.map_cons, List.map_nil]); rfl
  refine (rspan_any t1.hc hra).mono ?_
  rintro e w2 ⟨rfl, hc2, hu2, _⟩
  have s2 := t1.call hc2 hu2
  have e3 := s2.hm.cell 3 (by decide)
  have f3 := s2.hm.froz 3
  have e4 := hu2.cell (by simpa using t1.ne.symm) e2
  refine ⟨_, rfl, ⟨s2.k0, s2.k1, e4⟩, fun hHeld => ?_⟩
  refine rg_norm (a' := ?_) ?_ ?_
  rotate_left
  · show Act.put _ (some 16) _ = _
    simp only [Act.put, List.setIfInBounds_toArray, List.set_cons_zero, List.set_cons_succ]
    rfl
  refine rg_take (i := 8) (N := some 17) (v := ?_) (a' := ?_) #[true, true, true, true, true, true, true, true, true, false, false, false] rfl rfl (by kernel_rfl) (fun _ _ _ h => h) (Or.inl ⟨by rfl, ?_⟩) hHeld ?_ ?_
  rotate_left
  · rintro w' ⟨hs0, hs1, hs2⟩
    go_simp
    with_reducible rfl
  rotate_left
  · simp only [Act.put, List.setIfInBounds_toArray, List.set_cons_zero, List.set_cons_succ]
    rfl
  refine rg_take (i := 9) (N := some 18) (v := ?_) (a' := ?_) #[true, true, true, true, true, true, true, true, true, true, false, false] rfl rfl (by kernel_rfl) (fun _ _ _ h => h) (Or.inl ⟨by rfl, ?_⟩) hHeld ?_ ?_
  rotate_left
  · rintro w' ⟨hs0, hs1, hs2⟩
    go_simp
    with_reducible rfl
  rotate_left
  · simp only [Act.put, List.setIfInBounds_toArray, List.set_cons_zero, List.set_cons_succ]
    rfl
  refine rg_take (i := 10) (N := some 19) (v := ?_) (a' := ?_) #[true, true, true, true, true, true, true, true, true, true, true, false] rfl rfl (by kernel_rfl) (fun _ _ _ h => h) (Or.inl ⟨by rfl, ?_⟩) hHeld ?_ ?_
  rotate_left
  · rintro w' ⟨hs0, hs1, hs2⟩
    go_simp
    with_reducible rfl
  rotate_left
  · simp only [Act.put, List.setIfInBounds_toArray, List.set_cons_zero, List.set_cons_succ]
    rfl
  refine rg_store (i := 11) (w1 := ?_) #[true, true, true, true, true, true, true, true, true, true, true, true] rfl rfl (by kernel_rfl) (by rfl) ?_ ?_ (fun hHeld => ?_)
  rotate_left
  · go_simp
    rfl
  · exact ⟨(s2.store 3 _).k0, (s2.store 3 _).k1, (s2.store 3 _).hm.cellv 2 (by decide) ((getD_set_far 3 2 _ (by decide)).trans (getD_set_same 2 _ (by omega)))⟩
  refine rg_done (by kernel_rfl) ?_
  go_end0
  exact hpost.out _ (s2.store 3 _)
set_option maxRecDepth 100000 in
set_option maxHeartbeats 2000000 in
theorem regs2 {bc bm g gm bw : Nat} {c : Cur} {cs : Array Value} {w : World} (s : RegSt w w bc bm g gm c cs) (hw : w.cell? ⟨bw, 0, none⟩ = some (.func (.func 84) #[] #[.pointer (some ⟨bc, 0, none⟩), .pointer (some ⟨bm, 0, none⟩)])) :
    Calls Try.prog 86 #[.pointer (some ⟨bw, 0, none⟩)] w (PForm g gm (spanC c 125) ((cs.setIfInBounds 2 (.int .u16 c.wordV)).setIfInBounds 3 (.int .u16 (c.wordsC 1).wordV)) w) := by
  have hcall := Lib.hid (regs1 (most := 125) s)
  clear s
  go_enter Try.func86, Try.ntmps86
  go_wp2_with (go_at_call 84; refine hcall.out.mono ?_; rintro e w1 ⟨rfl, h1, h2, h3⟩)
  go_end0
  exact ⟨rfl, h1, h2, h3⟩
set_option maxRecDepth 100000 in
set_option maxHeartbeats 2000000 in
theorem regs3 {bc bm g gm : Nat} {c : Cur} {cs : Array Value} {w : World} (s : RegSt w w bc bm g gm c cs) :
    Calls Try.prog 87 #[.pointer (some ⟨bc, 0, none⟩), .pointer (some ⟨bm, 0, none⟩)] w (PFormW g gm ((((c.bytesC 1).need (evenIn c.byteV 250) 5)).wordsC (c.byteV / 2)) cs (((c.bytesC 1).need (evenIn c.byteV 250) 5).wordsR (c.byteV / 2)) w) := by
  have hpost : ∀ W w1 v, RegSt w W bc bm g gm ((((c.bytesC 1).need (evenIn c.byteV 250) 5)).wordsC (c.byteV / 2)) cs → OwnW w1 W v (((c.bytesC 1).need (evenIn c.byteV 250) 5).wordsR (c.byteV / 2)) →
      PFormW g gm ((((c.bytesC 1).need (evenIn c.byteV 250) 5)).wordsC (c.byteV / 2)) cs (((c.bytesC 1).need (evenIn c.byteV 250) 5).wordsR (c.byteV / 2)) w (.returned (.tuple #[])) (W.setCell ⟨gm, 12, none⟩ v) := fun W w1 v h hr => h.postW hr
  have hbyte := byte_any s.hc
  have hr := s.hc.byteV
  revert hpost hbyte hr
  generalize PFormW g gm ((((c.bytesC 1).need (evenIn c.byteV 250) 5)).wordsC (c.byteV / 2)) cs (((c.bytesC 1).need (evenIn c.byteV 250) 5).wordsR (c.byteV / 2)) w = P
  unfold evenIn
  generalize c.byteV = n
  generalize c.bytesC 1 = c1
  intro hpost hbyte hr
  have hwn : IntKind.i64.wrap n = n := IntWalk.i64_in _ (by omega)
  have hwm : IntKind.i64.wrap (n % 2) = n % 2 := IntWalk.i64_in _ (by omega)
  have hwd : IntKind.i64.wrap (n / 2) = n / 2 := IntWalk.i64_in _ (by omega)
  have ht := tmod2 hr.1
  have hd := tdiv2 hr.1
  have k0 := s.k0
  have k1 := s.k1
  replace hbyte := Lib.hid hbyte
  replace hpost := Lib.hid hpost
  rcases (show n % 2 = 0 ∨ n % 2 = 1 by omega) with hm | hm
  case inr =>
    have hq : (decide (n % 2 = 0) && (decide (2 ≤ n) && decide (n ≤ 250))) = false := by simp [hm]
    rw [hq] at hpost
    rw [hm] at ht
    clear hq hwm
    go_enter Try.func87, Try.ntmps87
    have tok1_0 : True := trivial
    have tok1_1 : True := trivial
    go_wp2_with (first | (have _t := tok1_0; go_at_call 30; refine hbyte.out.mono ?_; rintro e w1 ⟨rfl, hc1, hu1, _⟩; have s1 := s.call hc1 hu1; have k2 := s1.k0; have k3 := s1.k1; clear _t tok1_0) | (have _t := tok1_1; go_at_call 51; refine (need_any _ 5 hc1).mono ?_; rintro e w2 ⟨rfl, hc2, hu2⟩; have s2 := (s1.call hc2 hu2).drew; clear _t tok1_1))
    refine rg_start (S := fun w' => w'.cell? ⟨bc, 0, none⟩ = some (.pointer (some ⟨g, 0, none⟩)) ∧ w'.cell? ⟨bm, 0, none⟩ = some (.pointer (some ⟨gm, 0, none⟩))) (n := 8) #[false, false, false, false, false, false, false, false] (by kernel_rfl) rfl rfl ⟨s2.k0, s2.k1⟩ (fun hHeld => ?_)
    refine rg_take (i := 0) (N := some 19) (v := ?_) (a' := ?_) #[true, false, false, false, false, false, false, false] rfl rfl (by kernel_rfl) (fun _ _ _ h => h) (Or.inl ⟨by rfl, ?_⟩) hHeld ?_ ?_
    rotate_left
    · rintro w' ⟨hs0, hs1⟩
      go_simp
      with_reducible rfl
    rotate_left
    · simp only [Act.put, List.setIfInBounds_toArray, List.set_cons_zero, List.set_cons_succ]
      rfl
    refine rg_take (i := 1) (N := some 20) (v := ?_) (a' := ?_) #[true, true, false, false, false, false, false, false] rfl rfl (by kernel_rfl) (fun _ _ _ h => h) (Or.inl ⟨by rfl, ?_⟩) hHeld ?_ ?_
    rotate_left
    · rintro w' ⟨hs0, hs1⟩
      go_simp
      with_reducible rfl
    rotate_left
    · simp only [Act.put, List.setIfInBounds_toArray, List.set_cons_zero, List.set_cons_succ]
      rfl
    refine rg_take (i := 2) (N := some 21) (v := ?_) (a' := ?_) #[true, true, true, false, false, false, false, false] rfl rfl (by kernel_rfl) (fun _ _ _ h => h) (Or.inl ⟨by rfl, ?_⟩) hHeld ?_ ?_
    rotate_left
    · rintro w' ⟨hs0, hs1⟩
      go_simp
      with_reducible rfl
    rotate_left
    · simp only [Act.put, List.setIfInBounds_toArray, List.set_cons_zero, List.set_cons_succ]
      rfl
    refine rg_take (i := 3) (N := some 22) (v := ?_) (a' := ?_) #[true, true, true, true, false, false, false, false] rfl rfl (by kernel_rfl) (fun _ _ _ h => h) (Or.inl ⟨by rfl, ?_⟩) hHeld ?_ ?_
    rotate_left
    · rintro w' ⟨hs0, hs1⟩
      go_simp
      with_reducible rfl
    rotate_left
    · simp only [Act.put, List.setIfInBounds_toArray, List.set_cons_zero, List.set_cons_succ]
      rfl
    refine rg_call (i := 4) (N := some 23) (f := 50) (args := ?_) #[true, true, true, true, true, false, false, false] rfl rfl (by kernel_rfl) Try.func50 (by kernel_rfl) rfl (by rfl) rfl ?_ ?_
    rotate_left
    · (try simp only [List.map_toArray, List.map_cons, List.map_nil]); rfl
    refine (words_any s2.hc).mono ?_
    rintro e w3 ⟨v, rfl, hr3, hc3, hu3⟩
    have s3 := s2.call hc3 hu3
    have e3 := s3.hm.cell 12 (by decide)
    have f3 := s3.hm.froz 12
    obtain ⟨A, cp, rfl, _, _⟩ := RdG.shape hr3.rd
    refine ⟨_, rfl, ⟨s3.k0, s3.k1⟩, fun hHeld => ?_⟩
    refine rg_norm (a' := ?_) ?_ ?_
    rotate_left
    · show Act.put _ (some 23) _ = _
      simp only [Act.put, List.setIfInBounds_toArray, List.set_cons_zero, List.set_cons_succ]
      rfl
    refine rg_take (i := 5) (N := some 24) (v := ?_) (a' := ?_) #[true, true, true, true, true, true, false, false] rfl rfl (by kernel_rfl) (fun _ _ _ h => h) (Or.inl ⟨by rfl, ?_⟩) hHeld ?_ ?_
    rotate_left
    · rintro w' ⟨hs0, hs1⟩
      go_simp
      with_reducible rfl
    rotate_left
    · simp only [Act.put, List.setIfInBounds_toArray, List.set_cons_zero, List.set_cons_succ]
      rfl
    refine rg_take (i := 6) (N := some 25) (v := ?_) (a' := ?_) #[true, true, true, true, true, true, true, false] rfl rfl (by kernel_rfl) (fun _ _ _ h => h) (Or.inl ⟨by rfl, ?_⟩) hHeld ?_ ?_
    rotate_left
    · rintro w' ⟨hs0, hs1⟩
      go_simp
      with_reducible rfl
    rotate_left
    · simp only [Act.put, List.setIfInBounds_toArray, List.set_cons_zero, List.set_cons_succ]
      rfl
    refine rg_store (i := 7) (w1 := ?_) #[true, true, true, true, true, true, true, true] rfl rfl (by kernel_rfl) (by rfl) ?_ ?_ (fun hHeld => ?_)
    rotate_left
    · go_simp
      rfl
    · exact ⟨(s3.store 12 _).k0, (s3.store 12 _).k1⟩
    refine rg_done (by kernel_rfl) ?_
    go_end0
    exact hpost.out _ _ _ s3 hr3
  rw [hm] at ht
  by_cases h2 : 2 ≤ n
  case neg =>
    obtain rfl : n = 0 := by omega
    have hq : (decide ((0 : Int) % 2 = 0) && (decide (2 ≤ (0 : Int)) && decide ((0 : Int) ≤ 250))) = false := by simp
    rw [hq] at hpost
    clear hq hwm h2
    go_enter Try.func87, Try.ntmps87
    have tok2_0 : True := trivial
    have tok2_1 : True := trivial
    go_wp2_with (first | (have _t := tok2_0; go_at_call 30; refine hbyte.out.mono ?_; rintro e w1 ⟨rfl, hc1, hu1, _⟩; have s1 := s.call hc1 hu1; have k2 := s1.k0; have k3 := s1.k1; clear _t tok2_0) | (have _t := tok2_1; go_at_call 51; refine (need_any _ 5 hc1).mono ?_; rintro e w2 ⟨rfl, hc2, hu2⟩; have s2 := (s1.call hc2 hu2).drew; clear _t tok2_1))
    refine rg_start (S := fun w' => w'.cell? ⟨bc, 0, none⟩ = some (.pointer (some ⟨g, 0, none⟩)) ∧ w'.cell? ⟨bm, 0, none⟩ = some (.pointer (some ⟨gm, 0, none⟩))) (n := 8) #[false, false, false, false, false, false, false, false] (by kernel_rfl) rfl rfl ⟨s2.k0, s2.k1⟩ (fun hHeld => ?_)
    refine rg_take (i := 0) (N := some 19) (v := ?_) (a' := ?_) #[true, false, false, false, false, false, false, false] rfl rfl (by kernel_rfl) (fun _ _ _ h => h) (Or.inl ⟨by rfl, ?_⟩) hHeld ?_ ?_
    rotate_left
    · rintro w' ⟨hs0, hs1⟩
      go_simp
      with_reducible rfl
    rotate_left
    · simp only [Act.put, List.setIfInBounds_toArray, List.set_cons_zero, List.set_cons_succ]
      rfl
    refine rg_take (i := 1) (N := some 20) (v := ?_) (a' := ?_) #[true, true, false, false, false, false, false, false] rfl rfl (by kernel_rfl) (fun _ _ _ h => h) (Or.inl ⟨by rfl, ?_⟩) hHeld ?_ ?_
    rotate_left
    · rintro w' ⟨hs0, hs1⟩
      go_simp
      with_reducible rfl
    rotate_left
    · simp only [Act.put, List.setIfInBounds_toArray, List.set_cons_zero, List.set_cons_succ]
      rfl
    refine rg_take (i := 2) (N := some 21) (v := ?_) (a' := ?_) #[true, true, true, false, false, false, false, false] rfl rfl (by kernel_rfl) (fun _ _ _ h => h) (Or.inl ⟨by rfl, ?_⟩) hHeld ?_ ?_
    rotate_left
    · rintro w' ⟨hs0, hs1⟩
      go_simp
      with_reducible rfl
    rotate_left
    · simp only [Act.put, List.setIfInBounds_toArray, List.set_cons_zero, List.set_cons_succ]
      rfl
    refine rg_take (i := 3) (N := some 22) (v := ?_) (a' := ?_) #[true, true, true, true, false, false, false, false] rfl rfl (by kernel_rfl) (fun _ _ _ h => h) (Or.inl ⟨by rfl, ?_⟩) hHeld ?_ ?_
    rotate_left
    · rintro w' ⟨hs0, hs1⟩
      go_simp
      with_reducible rfl
    rotate_left
    · simp only [Act.put, List.setIfInBounds_toArray, List.set_cons_zero, List.set_cons_succ]
      rfl
    refine rg_call (i := 4) (N := some 23) (f := 50) (args := ?_) #[true, true, true, true, true, false, false, false] rfl rfl (by kernel_rfl) Try.func50 (by kernel_rfl) rfl (by rfl) rfl ?_ ?_
    rotate_left
    · (try simp only [List.map_toArray, List.map_cons, List.map_nil]); rfl
    refine (words_any s2.hc).mono ?_
    rintro e w3 ⟨v, rfl, hr3, hc3, hu3⟩
    have s3 := s2.call hc3 hu3
    have e3 := s3.hm.cell 12 (by decide)
    have f3 := s3.hm.froz 12
    obtain ⟨A, cp, rfl, _, _⟩ := RdG.shape hr3.rd
    refine ⟨_, rfl, ⟨s3.k0, s3.k1⟩, fun hHeld => ?_⟩
    refine rg_norm (a' := ?_) ?_ ?_
    rotate_left
    · show Act.put _ (some 23) _ = _
      simp only [Act.put, List.setIfInBounds_toArray, List.set_cons_zero, List.set_cons_succ]
      rfl
    refine rg_take (i := 5) (N := some 24) (v := ?_) (a' := ?_) #[true, true, true, true, true, true, false, false] rfl rfl (by kernel_rfl) (fun _ _ _ h => h) (Or.inl ⟨by rfl, ?_⟩) hHeld ?_ ?_
    rotate_left
    · rintro w' ⟨hs0, hs1⟩
      go_simp
      with_reducible rfl
    rotate_left
    · simp only [Act.put, List.setIfInBounds_toArray, List.set_cons_zero, List.set_cons_succ]
      rfl
    refine rg_take (i := 6) (N := some 25) (v := ?_) (a' := ?_) #[true, true, true, true, true, true, true, false] rfl rfl (by kernel_rfl) (fun _ _ _ h => h) (Or.inl ⟨by rfl, ?_⟩) hHeld ?_ ?_
    rotate_left
    · rintro w' ⟨hs0, hs1⟩
      go_simp
      with_reducible rfl
    rotate_left
    · simp only [Act.put, List.setIfInBounds_toArray, List.set_cons_zero, List.set_cons_succ]
      rfl
    refine rg_store (i := 7) (w1 := ?_) #[true, true, true, true, true, true, true, true] rfl rfl (by kernel_rfl) (by rfl) ?_ ?_ (fun hHeld => ?_)
    rotate_left
    · go_simp
      rfl
    · exact ⟨(s3.store 12 _).k0, (s3.store 12 _).k1⟩
    refine rg_done (by kernel_rfl) ?_
    go_end0
    exact hpost.out _ _ _ s3 hr3
  have hq : (decide (n % 2 = 0) && (decide (2 ≤ n) && decide (n ≤ 250))) = decide (n ≤ 250) := by simp [hm, h2]
  rw [hq] at hpost
  clear hq hwm
  · skip
    go_enter Try.func87, Try.ntmps87
    have tok3_0 : True := trivial
    have tok3_1 : True := trivial
    go_wp2_with (first | (have _t := tok3_0; go_at_call 30; refine hbyte.out.mono ?_; rintro e w1 ⟨rfl, hc1, hu1, _⟩; have s1 := s.call hc1 hu1; have k2 := s1.k0; have k3 := s1.k1; clear _t tok3_0) | (have _t := tok3_1; go_at_call 51; refine (need_any _ 5 hc1).mono ?_; rintro e w2 ⟨rfl, hc2, hu2⟩; have s2 := (s1.call hc2 hu2).drew; clear _t tok3_1))
    refine rg_start (S := fun w' => w'.cell? ⟨bc, 0, none⟩ = some (.pointer (some ⟨g, 0, none⟩)) ∧ w'.cell? ⟨bm, 0, none⟩ = some (.pointer (some ⟨gm, 0, none⟩))) (n := 8) #[false, false, false, false, false, false, false, false] (by kernel_rfl) rfl rfl ⟨s2.k0, s2.k1⟩ (fun hHeld => ?_)
    refine rg_take (i := 0) (N := some 19) (v := ?_) (a' := ?_) #[true, false, false, false, false, false, false, false] rfl rfl (by kernel_rfl) (fun _ _ _ h => h) (Or.inl ⟨by rfl, ?_⟩) hHeld ?_ ?_
    rotate_left
    · rintro w' ⟨hs0, hs1⟩
      go_simp
      with_reducible rfl
    rotate_left
    · simp only [Act.put, List.setIfInBounds_toArray, List.set_cons_zero, List.set_cons_succ]
      rfl
    refine rg_take (i := 1) (N := some 20) (v := ?_) (a' := ?_) #[true, true, false, false, false, false, false, false] rfl rfl (by kernel_rfl) (fun _ _ _ h => h) (Or.inl ⟨by rfl, ?_⟩) hHeld ?_ ?_
    rotate_left
    · rintro w' ⟨hs0, hs1⟩
      go_simp
      with_reducible rfl
    rotate_left
    · simp only [Act.put, List.setIfInBounds_toArray, List.set_cons_zero, List.set_cons_succ]
      rfl
    refine rg_take (i := 2) (N := some 21) (v := ?_) (a' := ?_) #[true, true, true, false, false, false, false, false] rfl rfl (by kernel_rfl) (fun _ _ _ h => h) (Or.inl ⟨by rfl, ?_⟩) hHeld ?_ ?_
    rotate_left
    · rintro w' ⟨hs0, hs1⟩
      go_simp
      with_reducible rfl
    rotate_left
    · simp only [Act.put, List.setIfInBounds_toArray, List.set_cons_zero, List.set_cons_succ]
      rfl
    refine rg_take (i := 3) (N := some 22) (v := ?_) (a' := ?_) #[true, true, true, true, false, false, false, false] rfl rfl (by kernel_rfl) (fun _ _ _ h => h) (Or.inl ⟨by rfl, ?_⟩) hHeld ?_ ?_
    rotate_left
    · rintro w' ⟨hs0, hs1⟩
      go_simp
      with_reducible rfl
    rotate_left
    · simp only [Act.put, List.setIfInBounds_toArray, List.set_cons_zero, List.set_cons_succ]
      rfl
    refine rg_call (i := 4) (N := some 23) (f := 50) (args := ?_) #[true, true, true, true, true, false, false, false] rfl rfl (by kernel_rfl) Try.func50 (by kernel_rfl) rfl (by rfl) rfl ?_ ?_
    rotate_left
    · (try simp only [List.map_toArray, List.map_cons, List.map_nil]); rfl
    refine (words_any s2.hc).mono ?_
    rintro e w3 ⟨v, rfl, hr3, hc3, hu3⟩
    have s3 := s2.call hc3 hu3
    have e3 := s3.hm.cell 12 (by decide)
    have f3 := s3.hm.froz 12
    obtain ⟨A, cp, rfl, _, _⟩ := RdG.shape hr3.rd
    refine ⟨_, rfl, ⟨s3.k0, s3.k1⟩, fun hHeld => ?_⟩
    refine rg_norm (a' := ?_) ?_ ?_
    rotate_left
    · show Act.put _ (some 23) _ = _
      simp only [Act.put, List.setIfInBounds_toArray, List.set_cons_zero, List.set_cons_succ]
      rfl
    refine rg_take (i := 5) (N := some 24) (v := ?_) (a' := ?_) #[true, true, true, true, true, true, false, false] rfl rfl (by kernel_rfl) (fun _ _ _ h => h) (Or.inl ⟨by rfl, ?_⟩) hHeld ?_ ?_
    rotate_left
    · rintro w' ⟨hs0, hs1⟩
      go_simp
      with_reducible rfl
    rotate_left
    · simp only [Act.put, List.setIfInBounds_toArray, List.set_cons_zero, List.set_cons_succ]
      rfl
    refine rg_take (i := 6) (N := some 25) (v := ?_) (a' := ?_) #[true, true, true, true, true, true, true, false] rfl rfl (by kernel_rfl) (fun _ _ _ h => h) (Or.inl ⟨by rfl, ?_⟩) hHeld ?_ ?_
    rotate_left
    · rintro w' ⟨hs0, hs1⟩
      go_simp
      with_reducible rfl
    rotate_left
    · simp only [Act.put, List.setIfInBounds_toArray, List.set_cons_zero, List.set_cons_succ]
      rfl
    refine rg_store (i := 7) (w1 := ?_) #[true, true, true, true, true, true, true, true] rfl rfl (by kernel_rfl) (by rfl) ?_ ?_ (fun hHeld => ?_)
    rotate_left
    · go_simp
      rfl
    · exact ⟨(s3.store 12 _).k0, (s3.store 12 _).k1⟩
    refine rg_done (by kernel_rfl) ?_
    go_end0
    exact hpost.out _ _ _ s3 hr3
def q1C (c : Cur) : Cur := (c.wordsC 1).need (evenIn c.wordV 64) 5
def q2C (c : Cur) : Cur := ((q1C c).wordsC 1).need (2 + 2 * (q1C c).wordV == c.wordV) 5
set_option maxRecDepth 100000 in
set_option maxHeartbeats 2000000 in
theorem regs9 {bc bm g gm : Nat} {c : Cur} {cs : Array Value} {w : World} (s : RegSt w w bc bm g gm c cs) :
    Calls Try.prog 94 #[.pointer (some ⟨bc, 0, none⟩), .pointer (some ⟨bm, 0, none⟩)] w (PFormW g gm ((q2C c).wordsC (q1C c).wordV) cs ((q2C c).wordsR (q1C c).wordV) w) := by
  have hpost : ∀ W w1 v, RegSt w W bc bm g gm ((q2C c).wordsC (q1C c).wordV) cs → OwnW w1 W v ((q2C c).wordsR (q1C c).wordV) →
      PFormW g gm ((q2C c).wordsC (q1C c).wordV) cs ((q2C c).wordsR (q1C c).wordV) w (.returned (.tuple #[])) (W.setCell ⟨gm, 12, none⟩ v) := fun W w1 v h hr => h.postW hr
  have hword := word_any s.hc
  have hr := s.hc.wordV
  revert hpost hword hr
  generalize PFormW g gm ((q2C c).wordsC (q1C c).wordV) cs ((q2C c).wordsR (q1C c).wordV) w = P
  unfold q2C q1C evenIn
  generalize c.wordV = n
  generalize c.wordsC 1 = c1
  intro hpost hword hr
  have hwn : IntKind.i64.wrap n = n := IntWalk.i64_in _ (by omega)
  have hwm : IntKind.i64.wrap (n % 2) = n % 2 := IntWalk.i64_in _ (by omega)
  have ht := tmod2 hr.1
  have k0 := s.k0
  have k1 := s.k1
  replace hword := Lib.hid hword
  replace hpost := Lib.hid hpost
  rcases (show n % 2 = 0 ∨ n % 2 = 1 by omega) with hm | hm
  case inr =>
    have hq : (decide (n % 2 = 0) && (decide (2 ≤ n) && decide (n ≤ 64))) = false := by simp [hm]
    rw [hq] at hpost
    rw [hm] at ht
    clear hq hwm
    go_enter Try.func94, Try.ntmps94
    have tok4_0 : True := trivial
    have tok4_1 : True := trivial
    have tok4_2 : True := trivial
    have tok4_3 : True := trivial
    go_wp2_with (first | (have _t := tok4_0; go_at_call 29; refine hword.out.mono ?_; rintro e w1 ⟨rfl, hc1, hu1, _⟩; have s1 := s.call hc1 hu1; have k2 := s1.k0; have k3 := s1.k1; clear _t tok4_0) | (have _t := tok4_1; go_at_call 51; refine (need_any _ 5 hc1).mono ?_; rintro e w2 ⟨rfl, hc2, hu2⟩; have s2 := s1.call hc2 hu2; have k4 := s2.k0; have k5 := s2.k1; have hkr := hc2.wordV; clear _t tok4_1) | (have _t := tok4_2; go_at_call 29; refine (word_any s2.hc).mono ?_; rintro e w3 ⟨rfl, hc3, hu3, _⟩; have s3 := s2.call hc3 hu3; have k6 := s3.k0; have k7 := s3.k1; have hw3 := IntWalk.i64_in _ (show _ by exact (show -9223372036854775808 ≤ Cur.wordV _ ∧ Cur.wordV _ ≤ 9223372036854775807 from ⟨Int.le_trans (by decide) hkr.1, Int.le_trans (Int.le_of_lt hkr.2) (by decide)⟩)); clear _t tok4_2) | (have _t := tok4_3; go_at_call 51; refine (need_any _ 5 s3.hc).mono ?_; rintro e w4 ⟨rfl, hc4, hu4⟩; have s4 := (s3.call hc4 hu4).drew; clear _t tok4_3))
    refine rg_start (S := fun w' => w'.cell? ⟨bc, 0, none⟩ = some (.pointer (some ⟨g, 0, none⟩)) ∧ w'.cell? ⟨bm, 0, none⟩ = some (.pointer (some ⟨gm, 0, none⟩))) (n := 7) #[false, false, false, false, false, false, false] (by kernel_rfl) rfl rfl ⟨s4.k0, s4.k1⟩ (fun hHeld => ?_)
    refine rg_take (i := 0) (N := some 30) (v := ?_) (a' := ?_) #[true, false, false, false, false, false, false] rfl rfl (by kernel_rfl) (fun _ _ _ h => h) (Or.inl ⟨by rfl, ?_⟩) hHeld ?_ ?_
    rotate_left
    · rintro w' ⟨hs0, hs1⟩
      go_simp
      with_reducible rfl
    rotate_left
    · simp only [Act.put, List.setIfInBounds_toArray, List.set_cons_zero, List.set_cons_succ]
      rfl
    refine rg_take (i := 1) (N := some 31) (v := ?_) (a' := ?_) #[true, true, false, false, false, false, false] rfl rfl (by kernel_rfl) (fun _ _ _ h => h) (Or.inl ⟨by rfl, ?_⟩) hHeld ?_ ?_
    rotate_left
    · rintro w' ⟨hs0, hs1⟩
      go_simp
      with_reducible rfl
    rotate_left
    · simp only [Act.put, List.setIfInBounds_toArray, List.set_cons_zero, List.set_cons_succ]
      rfl
    refine rg_take (i := 2) (N := some 32) (v := ?_) (a' := ?_) #[true, true, true, false, false, false, false] rfl rfl (by kernel_rfl) (fun _ _ _ h => h) (Or.inl ⟨by rfl, ?_⟩) hHeld ?_ ?_
    rotate_left
    · rintro w' ⟨hs0, hs1⟩
      go_simp
      with_reducible rfl
    rotate_left
    · simp only [Act.put, List.setIfInBounds_toArray, List.set_cons_zero, List.set_cons_succ]
      rfl
    refine rg_call (i := 3) (N := some 33) (f := 50) (args := ?_) #[true, true, true, true, false, false, false] rfl rfl (by kernel_rfl) Try.func50 (by kernel_rfl) rfl (by rfl) rfl ?_ ?_
    rotate_left
    · (try simp only [List.map_toArray, List.map_cons, List.map_nil]); rfl
    refine (words_any s4.hc).mono ?_
    rintro e w5 ⟨v, rfl, hr5, hc5, hu5⟩
    have s5 := s4.call hc5 hu5
    have e5 := s5.hm.cell 12 (by decide)
    have f5 := s5.hm.froz 12
    obtain ⟨A, cp, rfl, _, _⟩ := RdG.shape hr5.rd
    refine ⟨_, rfl, ⟨s5.k0, s5.k1⟩, fun hHeld => ?_⟩
    refine rg_norm (a' := ?_) ?_ ?_
    rotate_left
    · show Act.put _ (some 33) _ = _
      simp only [Act.put, List.setIfInBounds_toArray, List.set_cons_zero, List.set_cons_succ]
      rfl
    refine rg_take (i := 4) (N := some 34) (v := ?_) (a' := ?_) #[true, true, true, true, true, false, false] rfl rfl (by kernel_rfl) (fun _ _ _ h => h) (Or.inl ⟨by rfl, ?_⟩) hHeld ?_ ?_
    rotate_left
    · rintro w' ⟨hs0, hs1⟩
      go_simp
      with_reducible rfl
    rotate_left
    · simp only [Act.put, List.setIfInBounds_toArray, List.set_cons_zero, List.set_cons_succ]
      rfl
    refine rg_take (i := 5) (N := some 35) (v := ?_) (a' := ?_) #[true, true, true, true, true, true, false] rfl rfl (by kernel_rfl) (fun _ _ _ h => h) (Or.inl ⟨by rfl, ?_⟩) hHeld ?_ ?_
    rotate_left
    · rintro w' ⟨hs0, hs1⟩
      go_simp
      with_reducible rfl
    rotate_left
    · simp only [Act.put, List.setIfInBounds_toArray, List.set_cons_zero, List.set_cons_succ]
      rfl
    refine rg_store (i := 6) (w1 := ?_) #[true, true, true, true, true, true, true] rfl rfl (by kernel_rfl) (by rfl) ?_ ?_ (fun hHeld => ?_)
    rotate_left
    · go_simp
      rfl
    · exact ⟨(s5.store 12 _).k0, (s5.store 12 _).k1⟩
    refine rg_done (by kernel_rfl) ?_
    go_end0
    exact hpost.out _ _ _ s5 hr5
  rw [hm] at ht
  by_cases h2 : 2 ≤ n
  case neg =>
    obtain rfl : n = 0 := by omega
    have hq : (decide ((0 : Int) % 2 = 0) && (decide (2 ≤ (0 : Int)) && decide ((0 : Int) ≤ 64))) = false := by simp
    rw [hq] at hpost
    clear hq hwm h2
    go_enter Try.func94, Try.ntmps94
    have tok5_0 : True := trivial
    have tok5_1 : True := trivial
    have tok5_2 : True := trivial
    have tok5_3 : True := trivial
    go_wp2_with (first | (have _t := tok5_0; go_at_call 29; refine hword.out.mono ?_; rintro e w1 ⟨rfl, hc1, hu1, _⟩; have s1 := s.call hc1 hu1; have k2 := s1.k0; have k3 := s1.k1; clear _t tok5_0) | (have _t := tok5_1; go_at_call 51; refine (need_any _ 5 hc1).mono ?_; rintro e w2 ⟨rfl, hc2, hu2⟩; have s2 := s1.call hc2 hu2; have k4 := s2.k0; have k5 := s2.k1; have hkr := hc2.wordV; clear _t tok5_1) | (have _t := tok5_2; go_at_call 29; refine (word_any s2.hc).mono ?_; rintro e w3 ⟨rfl, hc3, hu3, _⟩; have s3 := s2.call hc3 hu3; have k6 := s3.k0; have k7 := s3.k1; have hw3 := IntWalk.i64_in _ (show _ by exact (show -9223372036854775808 ≤ Cur.wordV _ ∧ Cur.wordV _ ≤ 9223372036854775807 from ⟨Int.le_trans (by decide) hkr.1, Int.le_trans (Int.le_of_lt hkr.2) (by decide)⟩)); clear _t tok5_2) | (have _t := tok5_3; go_at_call 51; refine (need_any _ 5 s3.hc).mono ?_; rintro e w4 ⟨rfl, hc4, hu4⟩; have s4 := (s3.call hc4 hu4).drew; clear _t tok5_3))
    refine rg_start (S := fun w' => w'.cell? ⟨bc, 0, none⟩ = some (.pointer (some ⟨g, 0, none⟩)) ∧ w'.cell? ⟨bm, 0, none⟩ = some (.pointer (some ⟨gm, 0, none⟩))) (n := 7) #[false, false, false, false, false, false, false] (by kernel_rfl) rfl rfl ⟨s4.k0, s4.k1⟩ (fun hHeld => ?_)
    refine rg_take (i := 0) (N := some 30) (v := ?_) (a' := ?_) #[true, false, false, false, false, false, false] rfl rfl (by kernel_rfl) (fun _ _ _ h => h) (Or.inl ⟨by rfl, ?_⟩) hHeld ?_ ?_
    rotate_left
    · rintro w' ⟨hs0, hs1⟩
      go_simp
      with_reducible rfl
    rotate_left
    · simp only [Act.put, List.setIfInBounds_toArray, List.set_cons_zero, List.set_cons_succ]
      rfl
    refine rg_take (i := 1) (N := some 31) (v := ?_) (a' := ?_) #[true, true, false, false, false, false, false] rfl rfl (by kernel_rfl) (fun _ _ _ h => h) (Or.inl ⟨by rfl, ?_⟩) hHeld ?_ ?_
    rotate_left
    · rintro w' ⟨hs0, hs1⟩
      go_simp
      with_reducible rfl
    rotate_left
    · simp only [Act.put, List.setIfInBounds_toArray, List.set_cons_zero, List.set_cons_succ]
      rfl
    refine rg_take (i := 2) (N := some 32) (v := ?_) (a' := ?_) #[true, true, true, false, false, false, false] rfl rfl (by kernel_rfl) (fun _ _ _ h => h) (Or.inl ⟨by rfl, ?_⟩) hHeld ?_ ?_
    rotate_left
    · rintro w' ⟨hs0, hs1⟩
      go_simp
      with_reducible rfl
    rotate_left
    · simp only [Act.put, List.setIfInBounds_toArray, List.set_cons_zero, List.set_cons_succ]
      rfl
    refine rg_call (i := 3) (N := some 33) (f := 50) (args := ?_) #[true, true, true, true, false, false, false] rfl rfl (by kernel_rfl) Try.func50 (by kernel_rfl) rfl (by rfl) rfl ?_ ?_
    rotate_left
    · (try simp only [List.map_toArray, List.map_cons, List.map_nil]); rfl
    refine (words_any s4.hc).mono ?_
    rintro e w5 ⟨v, rfl, hr5, hc5, hu5⟩
    have s5 := s4.call hc5 hu5
    have e5 := s5.hm.cell 12 (by decide)
    have f5 := s5.hm.froz 12
    obtain ⟨A, cp, rfl, _, _⟩ := RdG.shape hr5.rd
    refine ⟨_, rfl, ⟨s5.k0, s5.k1⟩, fun hHeld => ?_⟩
    refine rg_norm (a' := ?_) ?_ ?_
    rotate_left
    · show Act.put _ (some 33) _ = _
      simp only [Act.put, List.setIfInBounds_toArray, List.set_cons_zero, List.set_cons_succ]
      rfl
    refine rg_take (i := 4) (N := some 34) (v := ?_) (a' := ?_) #[true, true, true, true, true, false, false] rfl rfl (by kernel_rfl) (fun _ _ _ h => h) (Or.inl ⟨by rfl, ?_⟩) hHeld ?_ ?_
    rotate_left
    · rintro w' ⟨hs0, hs1⟩
      go_simp
      with_reducible rfl
    rotate_left
    · simp only [Act.put, List.setIfInBounds_toArray, List.set_cons_zero, List.set_cons_succ]
      rfl
    refine rg_take (i := 5) (N := some 35) (v := ?_) (a' := ?_) #[true, true, true, true, true, true, false] rfl rfl (by kernel_rfl) (fun _ _ _ h => h) (Or.inl ⟨by rfl, ?_⟩) hHeld ?_ ?_
    rotate_left
    · rintro w' ⟨hs0, hs1⟩
      go_simp
      with_reducible rfl
    rotate_left
    · simp only [Act.put, List.setIfInBounds_toArray, List.set_cons_zero, List.set_cons_succ]
      rfl
    refine rg_store (i := 6) (w1 := ?_) #[true, true, true, true, true, true, true] rfl rfl (by kernel_rfl) (by rfl) ?_ ?_ (fun hHeld => ?_)
    rotate_left
    · go_simp
      rfl
    · exact ⟨(s5.store 12 _).k0, (s5.store 12 _).k1⟩
    refine rg_done (by kernel_rfl) ?_
    go_end0
    exact hpost.out _ _ _ s5 hr5
  have hq : (decide (n % 2 = 0) && (decide (2 ≤ n) && decide (n ≤ 64))) = decide (n ≤ 64) := by simp [hm, h2]
  rw [hq] at hpost
  clear hq hwm
  · skip
    go_enter Try.func94, Try.ntmps94
    have tok6_0 : True := trivial
    have tok6_1 : True := trivial
    have tok6_2 : True := trivial
    have tok6_3 : True := trivial
    go_wp2_with (first | (have _t := tok6_0; go_at_call 29; refine hword.out.mono ?_; rintro e w1 ⟨rfl, hc1, hu1, _⟩; have s1 := s.call hc1 hu1; have k2 := s1.k0; have k3 := s1.k1; clear _t tok6_0) | (have _t := tok6_1; go_at_call 51; refine (need_any _ 5 hc1).mono ?_; rintro e w2 ⟨rfl, hc2, hu2⟩; have s2 := s1.call hc2 hu2; have k4 := s2.k0; have k5 := s2.k1; have hkr := hc2.wordV; clear _t tok6_1) | (have _t := tok6_2; go_at_call 29; refine (word_any s2.hc).mono ?_; rintro e w3 ⟨rfl, hc3, hu3, _⟩; have s3 := s2.call hc3 hu3; have k6 := s3.k0; have k7 := s3.k1; have hw3 := IntWalk.i64_in _ (show _ by exact (show -9223372036854775808 ≤ Cur.wordV _ ∧ Cur.wordV _ ≤ 9223372036854775807 from ⟨Int.le_trans (by decide) hkr.1, Int.le_trans (Int.le_of_lt hkr.2) (by decide)⟩)); clear _t tok6_2) | (have _t := tok6_3; go_at_call 51; refine (need_any _ 5 s3.hc).mono ?_; rintro e w4 ⟨rfl, hc4, hu4⟩; have s4 := (s3.call hc4 hu4).drew; clear _t tok6_3))
    refine rg_start (S := fun w' => w'.cell? ⟨bc, 0, none⟩ = some (.pointer (some ⟨g, 0, none⟩)) ∧ w'.cell? ⟨bm, 0, none⟩ = some (.pointer (some ⟨gm, 0, none⟩))) (n := 7) #[false, false, false, false, false, false, false] (by kernel_rfl) rfl rfl ⟨s4.k0, s4.k1⟩ (fun hHeld => ?_)
    refine rg_take (i := 0) (N := some 30) (v := ?_) (a' := ?_) #[true, false, false, false, false, false, false] rfl rfl (by kernel_rfl) (fun _ _ _ h => h) (Or.inl ⟨by rfl, ?_⟩) hHeld ?_ ?_
    rotate_left
    · rintro w' ⟨hs0, hs1⟩
      go_simp
      with_reducible rfl
    rotate_left
    · simp only [Act.put, List.setIfInBounds_toArray, List.set_cons_zero, List.set_cons_succ]
      rfl
    refine rg_take (i := 1) (N := some 31) (v := ?_) (a' := ?_) #[true, true, false, false, false, false, false] rfl rfl (by kernel_rfl) (fun _ _ _ h => h) (Or.inl ⟨by rfl, ?_⟩) hHeld ?_ ?_
    rotate_left
    · rintro w' ⟨hs0, hs1⟩
      go_simp
      with_reducible rfl
    rotate_left
    · simp only [Act.put, List.setIfInBounds_toArray, List.set_cons_zero, List.set_cons_succ]
      rfl
    refine rg_take (i := 2) (N := some 32) (v := ?_) (a' := ?_) #[true, true, true, false, false, false, false] rfl rfl (by kernel_rfl) (fun _ _ _ h => h) (Or.inl ⟨by rfl, ?_⟩) hHeld ?_ ?_
    rotate_left
    · rintro w' ⟨hs0, hs1⟩
      go_simp
      with_reducible rfl
    rotate_left
    · simp only [Act.put, List.setIfInBounds_toArray, List.set_cons_zero, List.set_cons_succ]
      rfl
    refine rg_call (i := 3) (N := some 33) (f := 50) (args := ?_) #[true, true, true, true, false, false, false] rfl rfl (by kernel_rfl) Try.func50 (by kernel_rfl) rfl (by rfl) rfl ?_ ?_
    rotate_left
    · (try simp only [List.map_toArray, List.map_cons, List.map_nil]); rfl
    refine (words_any s4.hc).mono ?_
    rintro e w5 ⟨v, rfl, hr5, hc5, hu5⟩
    have s5 := s4.call hc5 hu5
    have e5 := s5.hm.cell 12 (by decide)
    have f5 := s5.hm.froz 12
    obtain ⟨A, cp, rfl, _, _⟩ := RdG.shape hr5.rd
    refine ⟨_, rfl, ⟨s5.k0, s5.k1⟩, fun hHeld => ?_⟩
    refine rg_norm (a' := ?_) ?_ ?_
    rotate_left
    · show Act.put _ (some 33) _ = _
      simp only [Act.put, List.setIfInBounds_toArray, List.set_cons_zero, List.set_cons_succ]
      rfl
    refine rg_take (i := 4) (N := some 34) (v := ?_) (a' := ?_) #[true, true, true, true, true, false, false] rfl rfl (by kernel_rfl) (fun _ _ _ h => h) (Or.inl ⟨by rfl, ?_⟩) hHeld ?_ ?_
    rotate_left
    · rintro w' ⟨hs0, hs1⟩
      go_simp
      with_reducible rfl
    rotate_left
    · simp only [Act.put, List.setIfInBounds_toArray, List.set_cons_zero, List.set_cons_succ]
      rfl
    refine rg_take (i := 5) (N := some 35) (v := ?_) (a' := ?_) #[true, true, true, true, true, true, false] rfl rfl (by kernel_rfl) (fun _ _ _ h => h) (Or.inl ⟨by rfl, ?_⟩) hHeld ?_ ?_
    rotate_left
    · rintro w' ⟨hs0, hs1⟩
      go_simp
      with_reducible rfl
    rotate_left
    · simp only [Act.put, List.setIfInBounds_toArray, List.set_cons_zero, List.set_cons_succ]
      rfl
    refine rg_store (i := 6) (w1 := ?_) #[true, true, true, true, true, true, true] rfl rfl (by kernel_rfl) (by rfl) ?_ ?_ (fun hHeld => ?_)
    rotate_left
    · go_simp
      rfl
    · exact ⟨(s5.store 12 _).k0, (s5.store 12 _).k1⟩
    refine rg_done (by kernel_rfl) ?_
    go_end0
    exact hpost.out _ _ _ s5 hr5
set_option maxRecDepth 100000 in
set_option maxHeartbeats 2000000 in
theorem regs5n {bc bm g gm bw ba : Nat} {c : Cur} {cs : Array Value} {w : World} (s : RegSt w w bc bm g gm c cs) (hw : w.cell? ⟨bw, 0, none⟩ = some (.func (.func 84) #[] #[.pointer (some ⟨bc, 0, none⟩), .pointer (some ⟨bm, 0, none⟩)])) (bw_g : bw ≠ g) (bw_m : bw ≠ gm) (ba_g : ba ≠ g) (ba_m : ba ≠ gm) (ha : w.cell? ⟨ba, 0, none⟩ = some (.bool false)) :
    Calls Try.prog 89 #[.pointer (some ⟨bw, 0, none⟩), .pointer (some ⟨ba, 0, none⟩), .pointer (some ⟨bc, 0, none⟩), .pointer (some ⟨bm, 0, none⟩)] w (PForm g gm (spanC c 123) ((cs.setIfInBounds 2 (.int .u16 c.wordV)).setIfInBounds 3 (.int .u16 (c.wordsC 1).wordV)) w) := by
  have hcall := Lib.hid (regs1 (most := 123) s)
  clear s
  go_enter Try.func89, Try.ntmps89
  go_wp2_with (go_at_call 84; refine hcall.out.mono ?_; rintro e w1 ⟨rfl, h1, h2, h3⟩; replace ha := h3.cell (by simpa using ⟨ba_g, ba_m⟩) ha)
  try go_end0
  exact ⟨rfl, h1, h2, h3⟩
set_option maxRecDepth 100000 in
set_option maxHeartbeats 2000000 in
theorem regs5y {bc bm g gm bw ba : Nat} {c : Cur} {cs : Array Value} {w : World} (s : RegSt w w bc bm g gm c cs) (hw : w.cell? ⟨bw, 0, none⟩ = some (.func (.func 84) #[] #[.pointer (some ⟨bc, 0, none⟩), .pointer (some ⟨bm, 0, none⟩)])) (bw_g : bw ≠ g) (bw_m : bw ≠ gm) (ba_g : ba ≠ g) (ba_m : ba ≠ gm) (ha : w.cell? ⟨ba, 0, none⟩ = some (.bool true)) :
    Calls Try.prog 89 #[.pointer (some ⟨bw, 0, none⟩), .pointer (some ⟨ba, 0, none⟩), .pointer (some ⟨bc, 0, none⟩), .pointer (some ⟨bm, 0, none⟩)] w (PFormW g gm ((countedC1 (spanC c 123) (c.wordsC 1).wordV).wordsC (c.wordsC 1).wordV) ((cs.setIfInBounds 2 (.int .u16 c.wordV)).setIfInBounds 3 (.int .u16 (c.wordsC 1).wordV)) ((countedC1 (spanC c 123) (c.wordsC 1).wordV).wordsR (c.wordsC 1).wordV) w) := by
  have hcall := Lib.hid (regs1 (most := 123) s)
  have hrn := wordV_rng (wordsC_rng s.hc.rng 1)
  have hsz : cs.size = 22 := s.hm.2
  have hwn : IntKind.i64.wrap (c.wordsC 1).wordV = (c.wordsC 1).wordV := IntWalk.i64_in _ (by omega)
  have hpost : ∀ W w1 v, RegSt w W bc bm g gm ((countedC1 (spanC c 123) (c.wordsC 1).wordV).wordsC (c.wordsC 1).wordV) ((cs.setIfInBounds 2 (.int .u16 c.wordV)).setIfInBounds 3 (.int .u16 (c.wordsC 1).wordV)) → OwnW w1 W v ((countedC1 (spanC c 123) (c.wordsC 1).wordV).wordsR (c.wordsC 1).wordV) →
      PFormW g gm ((countedC1 (spanC c 123) (c.wordsC 1).wordV).wordsC (c.wordsC 1).wordV) ((cs.setIfInBounds 2 (.int .u16 c.wordV)).setIfInBounds 3 (.int .u16 (c.wordsC 1).wordV)) ((countedC1 (spanC c 123) (c.wordsC 1).wordV).wordsR (c.wordsC 1).wordV) w (.returned (.tuple #[])) (W.setCell ⟨gm, 12, none⟩ v) := fun W w1 v h hr => h.postW hr
  revert hpost
  generalize PFormW g gm ((countedC1 (spanC c 123) (c.wordsC 1).wordV).wordsC (c.wordsC 1).wordV) ((cs.setIfInBounds 2 (.int .u16 c.wordV)).setIfInBounds 3 (.int .u16 (c.wordsC 1).wordV)) ((countedC1 (spanC c 123) (c.wordsC 1).wordV).wordsR (c.wordsC 1).wordV) w = P
  intro hpost
  replace hpost := Lib.hid hpost
  go_enter Try.func89, Try.ntmps89
  go_wp2_with (go_at_call 84; refine hcall.out.mono ?_; rintro e w1 ⟨rfl, h1, h2, h3⟩; replace ha := h3.cell (by simpa using ⟨ba_g, ba_m⟩) ha)
  have s1 := (s.both h1 h2 h3).drew
  have e1 := s1.hm.cellv 3 (by decide) (getD_set_same 3 _ (by simp; omega))
  refine rg_start (S := fun w' => w'.cell? ⟨bc, 0, none⟩ = some (.pointer (some ⟨g, 0, none⟩)) ∧ w'.cell? ⟨bm, 0, none⟩ = some (.pointer (some ⟨gm, 0, none⟩)) ∧ w'.cell? ⟨gm, 3, none⟩ = some (.int .u16 (c.wordsC 1).wordV)) (n := 11) #[false, false, false, false, false, false, false, false, false, false, false] (by kernel_rfl) rfl rfl ⟨s1.k0, s1.k1, e1⟩ (fun hHeld => ?_)
  refine rg_take (i := 0) (N := some 7) (v := ?_) (a' := ?_) #[true, false, false, false, false, false, false, false, false, false, false] rfl rfl (by kernel_rfl) (fun _ _ _ h => h) (Or.inl ⟨by rfl, ?_⟩) hHeld ?_ ?_
  rotate_left
  · rintro w' ⟨hs0, hs1, hs2⟩
    go_simp
    with_reducible rfl
  rotate_left
  · simp only [Act.put, List.setIfInBounds_toArray, List.set_cons_zero, List.set_cons_succ]
    rfl
  refine rg_take (i := 1) (N := some 8) (v := ?_) (a' := ?_) #[true, true, false, false, false, false, false, false, false, false, false] rfl rfl (by kernel_rfl) (fun _ _ _ h => h) (Or.inl ⟨by rfl, ?_⟩) hHeld ?_ ?_
  rotate_left
  · rintro w' ⟨hs0, hs1, hs2⟩
    go_simp
    with_reducible rfl
  rotate_left
  · simp only [Act.put, List.setIfInBounds_toArray, List.set_cons_zero, List.set_cons_succ]
    rfl
  refine rg_take (i := 2) (N := some 9) (v := ?_) (a' := ?_) #[true, true, true, false, false, false, false, false, false, false, false] rfl rfl (by kernel_rfl) (fun _ _ _ h => h) (Or.inl ⟨by rfl, ?_⟩) hHeld ?_ ?_
  rotate_left
  · rintro w' ⟨hs0, hs1, hs2⟩
    go_simp
    with_reducible rfl
  rotate_left
  · simp only [Act.put, List.setIfInBounds_toArray, List.set_cons_zero, List.set_cons_succ]
    rfl
  refine rg_take (i := 3) (N := some 10) (v := ?_) (a' := ?_) #[true, true, true, true, false, false, false, false, false, false, false] rfl rfl (by kernel_rfl) (fun _ _ _ h => h) (Or.inl ⟨by rfl, ?_⟩) hHeld ?_ ?_
  rotate_left
  · rintro w' ⟨hs0, hs1, hs2⟩
    go_simp
    with_reducible rfl
  rotate_left
  · simp only [Act.put, List.setIfInBounds_toArray, List.set_cons_zero, List.set_cons_succ]
    rfl
  refine rg_take (i := 4) (N := some 11) (v := ?_) (a' := ?_) #[true, true, true, true, true, false, false, false, false, false, false] rfl rfl (by kernel_rfl) (fun _ _ _ h => h) (Or.inl ⟨by rfl, ?_⟩) hHeld ?_ ?_
  rotate_left
  · rintro w' ⟨hs0, hs1, hs2⟩
    go_simp
    with_reducible rfl
  rotate_left
  · simp only [Act.put, List.setIfInBounds_toArray, List.set_cons_zero, List.set_cons_succ]
    rfl
  refine rg_take (i := 5) (N := some 12) (v := ?_) (a' := ?_) #[true, true, true, true, true, true, false, false, false, false, false] rfl rfl (by kernel_rfl) (fun _ _ _ h => h) (Or.inl ⟨by rfl, ?_⟩) hHeld ?_ ?_
  rotate_left
  · rintro w' ⟨hs0, hs1, hs2⟩
    go_simp
    with_reducible rfl
  rotate_left
  · simp only [Act.put, List.setIfInBounds_toArray, List.set_cons_zero, List.set_cons_succ]
    rfl
  refine rg_take (i := 6) (N := some 13) (v := ?_) (a' := ?_) #[true, true, true, true, true, true, true, false, false, false, false] rfl rfl (by kernel_rfl) (fun _ _ _ h => h) (Or.inl ⟨by rfl, ?_⟩) hHeld ?_ ?_
  rotate_left
  · rintro w' ⟨hs0, hs1, hs2⟩
    go_simp
    with_reducible rfl
  rotate_left
  · simp only [Act.put, List.setIfInBounds_toArray, List.set_cons_zero, List.set_cons_succ]
    rfl
  refine rg_call (i := 7) (N := some 14) (f := 90) (args := ?_) #[true, true, true, true, true, true, true, true, false, false, false] rfl rfl (by kernel_rfl) Try.func90 (by kernel_rfl) rfl (by rfl) rfl ?_ ?_
  rotate_left
  · (try simp only [List.map_toArray, List.map_cons, List.map_nil]); rfl
  refine (counted_any s1.hc hrn).mono ?_
  rintro e w2 ⟨v, rfl, hr2, hc2, hu2⟩
  have s2 := s1.call hc2 hu2
  have e2 := s2.hm.cell 12 (by decide)
  have f2 := s2.hm.froz 12
  have e4 := hu2.cell (by simpa using s1.ne.symm) e1
  obtain ⟨A, cp, rfl, _, _⟩ := RdG.shape hr2.rd
  refine ⟨_, rfl, ⟨s2.k0, s2.k1, e4⟩, fun hHeld => ?_⟩
  refine rg_norm (a' := ?_) ?_ ?_
  rotate_left
  · show Act.put _ (some 14) _ = _
    simp only [Act.put, List.setIfInBounds_toArray, List.set_cons_zero, List.set_cons_succ]
    rfl
  refine rg_take (i := 8) (N := some 15) (v := ?_) (a' := ?_) #[true, true, true, true, true, true, true, true, true, false, false] rfl rfl (by kernel_rfl) (fun _ _ _ h => h) (Or.inl ⟨by rfl, ?_⟩) hHeld ?_ ?_
  rotate_left
  · rintro w' ⟨hs0, hs1, hs2⟩
    go_simp
    with_reducible rfl
  rotate_left
  · simp only [Act.put, List.setIfInBounds_toArray, List.set_cons_zero, List.set_cons_succ]
    rfl
  refine rg_take (i := 9) (N := some 16) (v := ?_) (a' := ?_) #[true, true, true, true, true, true, true, true, true, true, false] rfl rfl (by kernel_rfl) (fun _ _ _ h => h) (Or.inl ⟨by rfl, ?_⟩) hHeld ?_ ?_
  rotate_left
  · rintro w' ⟨hs0, hs1, hs2⟩
    go_simp
    with_reducible rfl
  rotate_left
  · simp only [Act.put, List.setIfInBounds_toArray, List.set_cons_zero, List.set_cons_succ]
    rfl
  refine rg_store (i := 10) (w1 := ?_) #[true, true, true, true, true, true, true, true, true, true, true] rfl rfl (by kernel_rfl) (by rfl) ?_ ?_ (fun hHeld => ?_)
  rotate_left
  · go_simp
    rfl
  · exact ⟨(s2.store 12 _).k0, (s2.store 12 _).k1, (s2.store 12 _).hm.cellv 3 (by decide) ((getD_set_far 12 3 _ (by decide)).trans (getD_set_same 3 _ (by simp; omega)))⟩
  refine rg_done (by kernel_rfl) ?_
  go_end0
  exact hpost.out _ _ _ s2 hr2
set_option maxRecDepth 100000 in
set_option maxHeartbeats 2000000 in
theorem regs7 {bc bm g gm bw : Nat} {c : Cur} {cs : Array Value} {w : World} (s : RegSt w w bc bm g gm c cs) (hw : w.cell? ⟨bw, 0, none⟩ = some (.func (.func 84) #[] #[.pointer (some ⟨bc, 0, none⟩), .pointer (some ⟨bm, 0, none⟩)])) :
    Calls Try.prog 92 #[.pointer (some ⟨bw, 0, none⟩), .pointer (some ⟨bc, 0, none⟩), .pointer (some ⟨bm, 0, none⟩)] w (PFormW g gm ((countedC1 (rspanC ((spanC c 125).wordsC 1) (spanC c 125).wordV 121) ((spanC c 125).wordsC 1).wordV).wordsC ((spanC c 125).wordsC 1).wordV) (((cs.setIfInBounds 2 (.int .u16 c.wordV)).setIfInBounds 3 (.int .u16 (c.wordsC 1).wordV)).setIfInBounds 7 (.int .u16 (spanC c 125).wordV)) ((countedC1 (rspanC ((spanC c 125).wordsC 1) (spanC c 125).wordV 121) ((spanC c 125).wordsC 1).wordV).wordsR ((spanC c 125).wordsC 1).wordV) w) := by
  have hcall := Lib.hid (regs1 (most := 125) s)
  have hsz : cs.size = 22 := s.hm.2
  have hpost : ∀ W w1 v, RegSt w W bc bm g gm ((countedC1 (rspanC ((spanC c 125).wordsC 1) (spanC c 125).wordV 121) ((spanC c 125).wordsC 1).wordV).wordsC ((spanC c 125).wordsC 1).wordV) (((cs.setIfInBounds 2 (.int .u16 c.wordV)).setIfInBounds 3 (.int .u16 (c.wordsC 1).wordV)).setIfInBounds 7 (.int .u16 (spanC c 125).wordV)) → OwnW w1 W v ((countedC1 (rspanC ((spanC c 125).wordsC 1) (spanC c 125).wordV 121) ((spanC c 125).wordsC 1).wordV).wordsR ((spanC c 125).wordsC 1).wordV) →
      PFormW g gm ((countedC1 (rspanC ((spanC c 125).wordsC 1) (spanC c 125).wordV 121) ((spanC c 125).wordsC 1).wordV).wordsC ((spanC c 125).wordsC 1).wordV) (((cs.setIfInBounds 2 (.int .u16 c.wordV)).setIfInBounds 3 (.int .u16 (c.wordsC 1).wordV)).setIfInBounds 7 (.int .u16 (spanC c 125).wordV)) ((countedC1 (rspanC ((spanC c 125).wordsC 1) (spanC c 125).wordV 121) ((spanC c 125).wordsC 1).wordV).wordsR ((spanC c 125).wordsC 1).wordV) w (.returned (.tuple #[])) (W.setCell ⟨gm, 12, none⟩ v) := fun W w1 v h hr => h.postW hr
  revert hpost
  generalize PFormW g gm ((countedC1 (rspanC ((spanC c 125).wordsC 1) (spanC c 125).wordV 121) ((spanC c 125).wordsC 1).wordV).wordsC ((spanC c 125).wordsC 1).wordV) (((cs.setIfInBounds 2 (.int .u16 c.wordV)).setIfInBounds 3 (.int .u16 (c.wordsC 1).wordV)).setIfInBounds 7 (.int .u16 (spanC c 125).wordV)) ((countedC1 (rspanC ((spanC c 125).wordsC 1) (spanC c 125).wordV 121) ((spanC c 125).wordsC 1).wordV).wordsR ((spanC c 125).wordsC 1).wordV) w = P
  intro hpost
  replace hpost := Lib.hid hpost
  go_enter Try.func92, Try.ntmps92
  go_wp2_with (go_at_call 84; refine hcall.out.mono ?_; rintro e w1 ⟨rfl, h1, h2, h3⟩)
  have s1 := (s.both h1 h2 h3).drew
  clear hw
  refine rg_start (S := fun w' => w'.cell? ⟨bc, 0, none⟩ = some (.pointer (some ⟨g, 0, none⟩)) ∧ w'.cell? ⟨bm, 0, none⟩ = some (.pointer (some ⟨gm, 0, none⟩))) (n := 6) #[false, false, false, false, false, false] (by kernel_rfl) rfl rfl ⟨s1.k0, s1.k1⟩ (fun hHeld => ?_)
  refine rg_take (i := 0) (N := some 5) (v := ?_) (a' := ?_) #[true, false, false, false, false, false] rfl rfl (by kernel_rfl) (fun _ _ _ h => h) (Or.inl ⟨by rfl, ?_⟩) hHeld ?_ ?_
  rotate_left
  · rintro w' ⟨hs0, hs1⟩
    go_simp
    with_reducible rfl
  rotate_left
  · simp only [Act.put, List.setIfInBounds_toArray, List.set_cons_zero, List.set_cons_succ]
    rfl
  refine rg_take (i := 1) (N := some 6) (v := ?_) (a' := ?_) #[true, true, false, false, false, false] rfl rfl (by kernel_rfl) (fun _ _ _ h => h) (Or.inl ⟨by rfl, ?_⟩) hHeld ?_ ?_
  rotate_left
  · rintro w' ⟨hs0, hs1⟩
    go_simp
    with_reducible rfl
  rotate_left
  · simp only [Act.put, List.setIfInBounds_toArray, List.set_cons_zero, List.set_cons_succ]
    rfl
  refine rg_call (i := 2) (N := some 7) (f := 29) (args := ?_) #[true, true, true, false, false, false] rfl rfl (by kernel_rfl) Try.func29 (by kernel_rfl) rfl (by rfl) rfl ?_ ?_
  rotate_left
  · (try simp only [List.map_toArray, List.map_cons, List.map_nil]); rfl
  refine (word_any s1.hc).mono ?_
  rintro e w2 ⟨rfl, hc2, hu2, hr2⟩
  have s2 := s1.call hc2 hu2
  have e2_7 := s2.hm.cell 7 (by decide)
  have f2_7 := s2.hm.froz 7
  refine ⟨_, rfl, ⟨s2.k0, s2.k1⟩, fun hHeld => ?_⟩
  refine rg_norm (a' := ?_) ?_ ?_
  rotate_left
  · show Act.put _ (some 7) _ = _
    simp only [Act.put, List.setIfInBounds_toArray, List.set_cons_zero, List.set_cons_succ]
    rfl
  refine rg_take (i := 3) (N := some 8) (v := ?_) (a' := ?_) #[true, true, true, true, false, false] rfl rfl (by kernel_rfl) (fun _ _ _ h => h) (Or.inl ⟨by rfl, ?_⟩) hHeld ?_ ?_
  rotate_left
  · rintro w' ⟨hs0, hs1⟩
    go_simp
    with_reducible rfl
  rotate_left
  · simp only [Act.put, List.setIfInBounds_toArray, List.set_cons_zero, List.set_cons_succ]
    rfl
  refine rg_take (i := 4) (N := some 9) (v := ?_) (a' := ?_) #[true, true, true, true, true, false] rfl rfl (by kernel_rfl) (fun _ _ _ h => h) (Or.inl ⟨by rfl, ?_⟩) hHeld ?_ ?_
  rotate_left
  · rintro w' ⟨hs0, hs1⟩
    go_simp
    with_reducible rfl
  rotate_left
  · simp only [Act.put, List.setIfInBounds_toArray, List.set_cons_zero, List.set_cons_succ]
    rfl
  refine rg_store (i := 5) (w1 := ?_) #[true, true, true, true, true, true] rfl rfl (by kernel_rfl) (by rfl) ?_ ?_ (fun hHeld => ?_)
  rotate_left
  · go_simp
    rfl
  · exact ⟨(s2.store 7 _).k0, (s2.store 7 _).k1⟩
  refine rg_done (by kernel_rfl) ?_
  have t1 := (s2.store 7 (.int .u16 (spanC c 125).wordV)).drew
  have e2 := t1.hm.cellv 7 (by decide) (getD_set_same 7 _ (by simp; omega))
  clear hHeld e2_7 f2_7
  go_wp2_with fail
  refine rg_start (S := fun w' => w'.cell? ⟨bc, 0, none⟩ = some (.pointer (some ⟨g, 0, none⟩)) ∧ w'.cell? ⟨bm, 0, none⟩ = some (.pointer (some ⟨gm, 0, none⟩)) ∧ w'.cell? ⟨gm, 7, none⟩ = some (.int .u16 (spanC c 125).wordV)) (n := 12) #[false, false, false, false, false, false, false, false, false, false, false, false] (by kernel_rfl) rfl rfl ⟨t1.k0, t1.k1, e2⟩ (fun hHeld => ?_)
  refine rg_take (i := 0) (N := some 10) (v := ?_) (a' := ?_) #[true, false, false, false, false, false, false, false, false, false, false, false] rfl rfl (by kernel_rfl) (fun _ _ _ h => h) (Or.inl ⟨by rfl, ?_⟩) hHeld ?_ ?_
  rotate_left
  · rintro w' ⟨hs0, hs1, hs2⟩
    go_simp
    with_reducible rfl
  rotate_left
  · simp only [Act.put, List.setIfInBounds_toArray, List.set_cons_zero, List.set_cons_succ]
    rfl
  refine rg_take (i := 1) (N := some 11) (v := ?_) (a' := ?_) #[true, true, false, false, false, false, false, false, false, false, false, false] rfl rfl (by kernel_rfl) (fun _ _ _ h => h) (Or.inl ⟨by rfl, ?_⟩) hHeld ?_ ?_
  rotate_left
  · rintro w' ⟨hs0, hs1, hs2⟩
    go_simp
    with_reducible rfl
  rotate_left
  · simp only [Act.put, List.setIfInBounds_toArray, List.set_cons_zero, List.set_cons_succ]
    rfl
  refine rg_take (i := 2) (N := some 12) (v := ?_) (a' := ?_) #[true, true, true, false, false, false, false, false, false, false, false, false] rfl rfl (by kernel_rfl) (fun _ _ _ h => h) (Or.inl ⟨by rfl, ?_⟩) hHeld ?_ ?_
  rotate_left
  · rintro w' ⟨hs0, hs1, hs2⟩
    go_simp
    with_reducible rfl
  rotate_left
  · simp only [Act.put, List.setIfInBounds_toArray, List.set_cons_zero, List.set_cons_succ]
    rfl
  refine rg_take (i := 3) (N := some 13) (v := ?_) (a' := ?_) #[true, true, true, true, false, false, false, false, false, false, false, false] rfl rfl (by kernel_rfl) (fun _ _ _ h => h) (Or.inl ⟨by rfl, ?_⟩) hHeld ?_ ?_
  rotate_left
  · rintro w' ⟨hs0, hs1, hs2⟩
    go_simp
    with_reducible rfl
  rotate_left
  · simp only [Act.put, List.setIfInBounds_toArray, List.set_cons_zero, List.set_cons_succ]
    rfl
  refine rg_take (i := 4) (N := some 14) (v := ?_) (a' := ?_) #[true, true, true, true, true, false, false, false, false, false, false, false] rfl rfl (by kernel_rfl) (fun _ _ _ h => h) (Or.inl ⟨by rfl, ?_⟩) hHeld ?_ ?_
  rotate_left
  · rintro w' ⟨hs0, hs1, hs2⟩
    go_simp
    with_reducible rfl
  rotate_left
  · simp only [Act.put, List.setIfInBounds_toArray, List.set_cons_zero, List.set_cons_succ]
    rfl
  refine rg_take (i := 5) (N := some 15) (v := ?_) (a' := ?_) #[true, true, true, true, true, true, false, false, false, false, false, false] rfl rfl (by kernel_rfl) (fun _ _ _ h => h) (Or.inl ⟨by rfl, ?_⟩) hHeld ?_ ?_
  rotate_left
  · rintro w' ⟨hs0, hs1, hs2⟩
    go_simp
    with_reducible rfl
  rotate_left
  · simp only [Act.put, List.setIfInBounds_toArray, List.set_cons_zero, List.set_cons_succ]
    rfl
  refine rg_take (i := 6) (N := some 16) (v := ?_) (a' := ?_) #[true, true, true, true, true, true, true, false, false, false, false, false] rfl rfl (by kernel_rfl) (fun _ _ _ h => h) (Or.inl ⟨by rfl, ?_⟩) hHeld ?_ ?_
  rotate_left
  · rintro w' ⟨hs0, hs1, hs2⟩
    go_simp
    with_reducible rfl
  rotate_left
  · simp only [Act.put, List.setIfInBounds_toArray, List.set_cons_zero, List.set_cons_succ]
    rfl
  refine rg_call (i := 7) (N := some 17) (f := 85) (args := ?_) #[true, true, true, true, true, true, true, true, false, false, false, false] rfl rfl (by kernel_rfl) Try.func85 (by kernel_rfl) rfl (by rfl) rfl ?_ ?_
  rotate_left
  · (try simp only [List.map_toArray, List.map_cons, List.map_nil]); rfl
  refine (rspan_any t1.hc hr2).mono ?_
  rintro e w3 ⟨rfl, hc3, hu3, hr3⟩
  have s3 := t1.call hc3 hu3
  have e4 := hu3.cell (by simpa using t1.ne.symm) e2
  refine ⟨_, rfl, ⟨s3.k0, s3.k1, e4⟩, fun hHeld => ?_⟩
  refine rg_norm (a' := ?_) ?_ ?_
  rotate_left
  · show Act.put _ (some 17) _ = _
    simp only [Act.put, List.setIfInBounds_toArray, List.set_cons_zero, List.set_cons_succ]
    rfl
  refine rg_call (i := 8) (N := some 18) (f := 90) (args := ?_) #[true, true, true, true, true, true, true, true, true, false, false, false] rfl rfl (by kernel_rfl) Try.func90 (by kernel_rfl) rfl (by rfl) rfl ?_ ?_
  rotate_left
  · (try simp only [List.map_toArray, List.map_cons, List.map_nil]); rfl
  refine (counted_any s3.hc hr3).mono ?_
  rintro e w4 ⟨v, rfl, hr4, hc4, hu4⟩
  have s4 := s3.call hc4 hu4
  have e5 := s4.hm.cell 12 (by decide)
  have f5 := s4.hm.froz 12
  have e6 := hu4.cell (by simpa using s3.ne.symm) e4
  obtain ⟨A, cp, rfl, _, _⟩ := RdG.shape hr4.rd
  refine ⟨_, rfl, ⟨s4.k0, s4.k1, e6⟩, fun hHeld => ?_⟩
  refine rg_norm (a' := ?_) ?_ ?_
  rotate_left
  · show Act.put _ (some 18) _ = _
    simp only [Act.put, List.setIfInBounds_toArray, List.set_cons_zero, List.set_cons_succ]
    rfl
  refine rg_take (i := 9) (N := some 19) (v := ?_) (a' := ?_) #[true, true, true, true, true, true, true, true, true, true, false, false] rfl rfl (by kernel_rfl) (fun _ _ _ h => h) (Or.inl ⟨by rfl, ?_⟩) hHeld ?_ ?_
  rotate_left
  · rintro w' ⟨hs0, hs1, hs2⟩
    go_simp
    with_reducible rfl
  rotate_left
  · simp only [Act.put, List.setIfInBounds_toArray, List.set_cons_zero, List.set_cons_succ]
    rfl
  refine rg_take (i := 10) (N := some 20) (v := ?_) (a' := ?_) #[true, true, true, true, true, true, true, true, true, true, true, false] rfl rfl (by kernel_rfl) (fun _ _ _ h => h) (Or.inl ⟨by rfl, ?_⟩) hHeld ?_ ?_
  rotate_left
  · rintro w' ⟨hs0, hs1, hs2⟩
    go_simp
    with_reducible rfl
  rotate_left
  · simp only [Act.put, List.setIfInBounds_toArray, List.set_cons_zero, List.set_cons_succ]
    rfl
  refine rg_store (i := 11) (w1 := ?_) #[true, true, true, true, true, true, true, true, true, true, true, true] rfl rfl (by kernel_rfl) (by rfl) ?_ ?_ (fun hHeld => ?_)
  rotate_left
  · go_simp
    rfl
  · exact ⟨(s4.store 12 _).k0, (s4.store 12 _).k1, (s4.store 12 _).hm.cellv 7 (by decide) ((getD_set_far 12 7 _ (by decide)).trans (getD_set_same 7 _ (by simp; omega)))⟩
  refine rg_done (by kernel_rfl) ?_
  go_end0
  exact hpost.out _ _ _ s4 hr4
def PMk (F : FuncId) (Q : World → Ending → World → Prop) (w : World) (e : Ending) (w' : World) : Prop :=
  ∃ free, e = .returned (.func (.func F) #[] free) ∧ Upd [] w w' ∧ Calls Try.prog F free w' (Q w')
theorem wp_store1 {P : Program} {w : World} {ops : Array Oper} {rest : List Oper} {o : Oper} {a : Act} {Q : Exit → Act → World → Prop} (hg : o.guard = none) (t : TypeId) (x y : Operand) (ho : o.op = .store t x y) (g : Nat) (hx : a.eval x = .pointer (some ⟨g, 0, none⟩)) (v : Value) (hy : a.eval y = v) (hv : v.cells = #[v])
    (cs : Array Value) (t' : TypeId) (hb : w.heap[g]? = some (.cells cs t' (0, 0))) (hi : (P.info? t).map (·.size) = some 1) (hs : cs.size = 1) (h1 : v.oneCell' = true)
    (h : ∀ w', w'.heap[g]? = some (.cells #[v] t' (0, 0)) → Upd [g] w w' → wpList P ops Q rest (a.put o.dst undef) w') : wpList P ops Q (o :: rest) a w := by
  obtain ⟨h2, h3⟩ := setCells_blk [v] w g 0 cs t' (0, 0) hb
  rw [setFrom_all [v] cs (by simp [hs])] at h2
  refine wpList_plain hg fun K hK => ?_
  have e : storeVar t ⟨g, 0, none⟩ v = storeVar t ⟨g, 0, none⟩ (.agg #[v]) := by
    unfold storeVar
    rw [hv]
    rfl
  have hrun := run_storeVar_mid (P := P) w g 0 t #[v] (fun j hj => by
    obtain rfl : j = 0 := by simpa using hj
    rw [Nat.zero_add, blk_cell hb, blk_frozen hb]
    exact ⟨by rw [Array.getElem?_eq_getElem (by omega)]; rfl, rfl⟩) (by simpa using hi) (by simpa using h1)
  unfold Oper.wp execOp
  simp only [ho, hx, hy, Instr.storeAt, Instr.sureAddr, Sem.run_bind, Sem.run_pure, Result.andThen_ok, e, hrun]
  exact hK _ _ (h _ h2 h3)
theorem fn_size : (Try.prog.info? 123).map (·.size) = some 1 := by kernel_rfl
theorem bool_size : (Try.prog.info? 4).map (·.size) = some 1 := by kernel_rfl
theorem fn_zero : (Try.prog.info? 123).map (·.zero) = some (some .nilFunc) := by kernel_rfl
theorem bool_zero : (Try.prog.info? 4).map (·.zero) = some (some (.bool false)) := by kernel_rfl
set_option maxRecDepth 100000 in
set_option maxHeartbeats 2000000 in
theorem regsMk2 {g gm : Nat} {k : Cur} {cs : Array Value} {w : World} {c : Int} {Q : World → Ending → World → Prop} (hcl : c = 3 ∨ c = 4) (hc : CurAt w g k) (hm : MsgB w gm cs) (h0 : cs.getD 0 undef = .int .u8 c)
    (hQ : ∀ W bw ba bc bm (st : RegSt W W bc bm g gm k cs) (hwB : W.cell? ⟨bw, 0, none⟩ = some (.func (.func 84) #[] #[.pointer (some ⟨bc, 0, none⟩), .pointer (some ⟨bm, 0, none⟩)])) (wg : bw ≠ g) (wm : bw ≠ gm) (ag : ba ≠ g) (am : ba ≠ gm) (haB : W.cell? ⟨ba, 0, none⟩ = some (.bool true)),
      Calls Try.prog 86 #[.pointer (some ⟨bw, 0, none⟩)] W (Q W)) :
    Calls Try.prog 61 #[.int .i64 0, .pointer (some ⟨gm, 0, none⟩), .pointer (some ⟨g, 0, none⟩)] w (PMk 86 Q w) := by
  have hlt := hc.lt
  have hml := hm.lt
  replace hQ := Lib.hid hQ
  have k0 := hm.cellv 0 (by decide) h0
  rcases hcl with rfl | rfl
  all_goals
    go_enter Try.func61, Try.ntmps61
    have tok1_0 : True := trivial
    have tok1_1 : True := trivial
    have tok1_2 : True := trivial
    have tok1_3 : True := trivial
    have tok1_4 : True := trivial
    have tok1_5 : True := trivial
    go_wp2_with (first | (have _t := tok1_0; refine wp_boxw rfl 89 _ rfl (.pointer (some ⟨gm, 0, none⟩)) rfl ?_; intro bm w1 hbm hB1 hu1; clear _t tok1_0) | (have _t := tok1_1; refine wp_boxw rfl 69 _ rfl (.pointer (some ⟨g, 0, none⟩)) rfl ?_; intro bc w2 hbc hB2 hu2; clear _t tok1_1) | (have _t := tok1_2; refine wp_allocw rfl 123 rfl _ fn_zero ?_; intro bw w3 hbw hB3 hu3; clear _t tok1_2) | (have _t := tok1_3; refine wp_store1 rfl 123 _ _ rfl bw rfl (.func (.func 84) #[] #[.pointer (some ⟨bc, 0, none⟩), .pointer (some ⟨bm, 0, none⟩)]) rfl rfl _ _ hB3 fn_size rfl rfl ?_; intro w4 hB4 hu4; have U4 := hu3.fresh1 hu4 hbw; clear _t tok1_3) | (have _t := tok1_4; refine wp_allocw rfl 4 rfl _ bool_zero ?_; intro ba w5 hba hB5 hu5; clear _t tok1_4) | (have _t := tok1_5; refine wp_store1 rfl 4 _ _ rfl ba rfl (.bool true) rfl rfl _ _ hB5 bool_size rfl rfl ?_; intro w6 hB6 hu6; have U6 := hu5.fresh1 hu6 hba; have hb4 := U6.blk (by simp) hB4; have V4 := hu2.step (U4.step U6); have hb1 := (U4.step U6).blk (by simp) (hu2.blk (by simp) hB1); have hb2 := (U4.step U6).blk (by simp) hB2; have V := hu1.step V4; have q0 : w6.cell? ⟨bm, 0, none⟩ = some (.pointer (some ⟨gm, 0, none⟩)) := (blk_cell hb1 0).trans rfl; have q1 : w6.cell? ⟨bc, 0, none⟩ = some (.pointer (some ⟨g, 0, none⟩)) := (blk_cell hb2 0).trans rfl; have q2 : w6.cell? ⟨bw, 0, none⟩ = some (.func (.func 84) #[] #[.pointer (some ⟨bc, 0, none⟩), .pointer (some ⟨bm, 0, none⟩)]) := (blk_cell hb4 0).trans rfl; have q3 : w6.cell? ⟨ba, 0, none⟩ = some (.bool true) := (blk_cell hB6 0).trans rfl; have q4 := V.cell (by simp) k0; have z1 := hu1.size; have z2 := hu2.size; have z3 := U4.size; clear _t tok1_5))
    all_goals (go_ret; exact ⟨_, rfl, V, hQ.out _ bw ba bc bm ⟨hc.old V, hm.upd V (by simp), q1, q0, by omega, by omega, by omega, by omega, hm.ne hc, Upd.refl _ _⟩ q2 (by omega) (by omega) (by omega) (by omega) q3⟩)
set_option maxRecDepth 100000 in
set_option maxHeartbeats 2000000 in
theorem regsMk3 {g gm : Nat} {k : Cur} {cs : Array Value} {w : World} {c : Int} {Q : World → Ending → World → Prop} (hcl : c = 3 ∨ c = 4) (hc : CurAt w g k) (hm : MsgB w gm cs) (h0 : cs.getD 0 undef = .int .u8 c)
    (hQ : ∀ W bw ba bc bm (st : RegSt W W bc bm g gm k cs) (hwB : W.cell? ⟨bw, 0, none⟩ = some (.func (.func 84) #[] #[.pointer (some ⟨bc, 0, none⟩), .pointer (some ⟨bm, 0, none⟩)])) (wg : bw ≠ g) (wm : bw ≠ gm) (ag : ba ≠ g) (am : ba ≠ gm) (haB : W.cell? ⟨ba, 0, none⟩ = some (.bool false)),
      Calls Try.prog 87 #[.pointer (some ⟨bc, 0, none⟩), .pointer (some ⟨bm, 0, none⟩)] W (Q W)) :
    Calls Try.prog 61 #[.int .i64 1, .pointer (some ⟨gm, 0, none⟩), .pointer (some ⟨g, 0, none⟩)] w (PMk 87 Q w) := by
  have hlt := hc.lt
  have hml := hm.lt
  replace hQ := Lib.hid hQ
  have k0 := hm.cellv 0 (by decide) h0
  rcases hcl with rfl | rfl
  all_goals
    go_enter Try.func61, Try.ntmps61
    have tok2_0 : True := trivial
    have tok2_1 : True := trivial
    have tok2_2 : True := trivial
    have tok2_3 : True := trivial
    have tok2_4 : True := trivial
    have tok2_5 : True := trivial
    go_wp2_with (first | (have _t := tok2_0; refine wp_boxw rfl 89 _ rfl (.pointer (some ⟨gm, 0, none⟩)) rfl ?_; intro bm w1 hbm hB1 hu1; clear _t tok2_0) | (have _t := tok2_1; refine wp_boxw rfl 69 _ rfl (.pointer (some ⟨g, 0, none⟩)) rfl ?_; intro bc w2 hbc hB2 hu2; clear _t tok2_1) | (have _t := tok2_2; refine wp_allocw rfl 123 rfl _ fn_zero ?_; intro bw w3 hbw hB3 hu3; clear _t tok2_2) | (have _t := tok2_3; refine wp_store1 rfl 123 _ _ rfl bw rfl (.func (.func 84) #[] #[.pointer (some ⟨bc, 0, none⟩), .pointer (some ⟨bm, 0, none⟩)]) rfl rfl _ _ hB3 fn_size rfl rfl ?_; intro w4 hB4 hu4; have U4 := hu3.fresh1 hu4 hbw; clear _t tok2_3) | (have _t := tok2_4; refine wp_allocw rfl 4 rfl _ bool_zero ?_; intro ba w5 hba hB5 hu5; clear _t tok2_4) | (have _t := tok2_5; refine wp_store1 rfl 4 _ _ rfl ba rfl (.bool false) rfl rfl _ _ hB5 bool_size rfl rfl ?_; intro w6 hB6 hu6; have U6 := hu5.fresh1 hu6 hba; have hb4 := U6.blk (by simp) hB4; have V4 := hu2.step (U4.step U6); have hb1 := (U4.step U6).blk (by simp) (hu2.blk (by simp) hB1); have hb2 := (U4.step U6).blk (by simp) hB2; have V := hu1.step V4; have q0 : w6.cell? ⟨bm, 0, none⟩ = some (.pointer (some ⟨gm, 0, none⟩)) := (blk_cell hb1 0).trans rfl; have q1 : w6.cell? ⟨bc, 0, none⟩ = some (.pointer (some ⟨g, 0, none⟩)) := (blk_cell hb2 0).trans rfl; have q2 : w6.cell? ⟨bw, 0, none⟩ = some (.func (.func 84) #[] #[.pointer (some ⟨bc, 0, none⟩), .pointer (some ⟨bm, 0, none⟩)]) := (blk_cell hb4 0).trans rfl; have q3 : w6.cell? ⟨ba, 0, none⟩ = some (.bool false) := (blk_cell hB6 0).trans rfl; have q4 := V.cell (by simp) k0; have z1 := hu1.size; have z2 := hu2.size; have z3 := U4.size; clear _t tok2_5))
    all_goals (go_ret; exact ⟨_, rfl, V, hQ.out _ bw ba bc bm ⟨hc.old V, hm.upd V (by simp), q1, q0, by omega, by omega, by omega, by omega, hm.ne hc, Upd.refl _ _⟩ q2 (by omega) (by omega) (by omega) (by omega) q3⟩)
set_option maxRecDepth 100000 in
set_option maxHeartbeats 2000000 in
theorem regsMk3b {g gm : Nat} {k : Cur} {cs : Array Value} {w : World} {c : Int} {Q : World → Ending → World → Prop} (hcl : c = 23 ∨ c = 23) (hc : CurAt w g k) (hm : MsgB w gm cs) (h0 : cs.getD 0 undef = .int .u8 c)
    (hQ : ∀ W bw ba bc bm (st : RegSt W W bc bm g gm k cs) (hwB : W.cell? ⟨bw, 0, none⟩ = some (.func (.func 84) #[] #[.pointer (some ⟨bc, 0, none⟩), .pointer (some ⟨bm, 0, none⟩)])) (wg : bw ≠ g) (wm : bw ≠ gm) (ag : ba ≠ g) (am : ba ≠ gm) (haB : W.cell? ⟨ba, 0, none⟩ = some (.bool false)),
      Calls Try.prog 87 #[.pointer (some ⟨bc, 0, none⟩), .pointer (some ⟨bm, 0, none⟩)] W (Q W)) :
    Calls Try.prog 61 #[.int .i64 1, .pointer (some ⟨gm, 0, none⟩), .pointer (some ⟨g, 0, none⟩)] w (PMk 87 Q w) := by
  have hlt := hc.lt
  have hml := hm.lt
  replace hQ := Lib.hid hQ
  have k0 := hm.cellv 0 (by decide) h0
  rcases hcl with rfl | rfl
  all_goals
    go_enter Try.func61, Try.ntmps61
    have tok3_0 : True := trivial
    have tok3_1 : True := trivial
    have tok3_2 : True := trivial
    have tok3_3 : True := trivial
    have tok3_4 : True := trivial
    have tok3_5 : True := trivial
    go_wp2_with (first | (have _t := tok3_0; refine wp_boxw rfl 89 _ rfl (.pointer (some ⟨gm, 0, none⟩)) rfl ?_; intro bm w1 hbm hB1 hu1; clear _t tok3_0) | (have _t := tok3_1; refine wp_boxw rfl 69 _ rfl (.pointer (some ⟨g, 0, none⟩)) rfl ?_; intro bc w2 hbc hB2 hu2; clear _t tok3_1) | (have _t := tok3_2; refine wp_allocw rfl 123 rfl _ fn_zero ?_; intro bw w3 hbw hB3 hu3; clear _t tok3_2) | (have _t := tok3_3; refine wp_store1 rfl 123 _ _ rfl bw rfl (.func (.func 84) #[] #[.pointer (some ⟨bc, 0, none⟩), .pointer (some ⟨bm, 0, none⟩)]) rfl rfl _ _ hB3 fn_size rfl rfl ?_; intro w4 hB4 hu4; have U4 := hu3.fresh1 hu4 hbw; clear _t tok3_3) | (have _t := tok3_4; refine wp_allocw rfl 4 rfl _ bool_zero ?_; intro ba w5 hba hB5 hu5; clear _t tok3_4) | (have _t := tok3_5; refine wp_store1 rfl 4 _ _ rfl ba rfl (.bool false) rfl rfl _ _ hB5 bool_size rfl rfl ?_; intro w6 hB6 hu6; have U6 := hu5.fresh1 hu6 hba; have hb4 := U6.blk (by simp) hB4; have V4 := hu2.step (U4.step U6); have hb1 := (U4.step U6).blk (by simp) (hu2.blk (by simp) hB1); have hb2 := (U4.step U6).blk (by simp) hB2; have V := hu1.step V4; have q0 : w6.cell? ⟨bm, 0, none⟩ = some (.pointer (some ⟨gm, 0, none⟩)) := (blk_cell hb1 0).trans rfl; have q1 : w6.cell? ⟨bc, 0, none⟩ = some (.pointer (some ⟨g, 0, none⟩)) := (blk_cell hb2 0).trans rfl; have q2 : w6.cell? ⟨bw, 0, none⟩ = some (.func (.func 84) #[] #[.pointer (some ⟨bc, 0, none⟩), .pointer (some ⟨bm, 0, none⟩)]) := (blk_cell hb4 0).trans rfl; have q3 : w6.cell? ⟨ba, 0, none⟩ = some (.bool false) := (blk_cell hB6 0).trans rfl; have q4 := V.cell (by simp) k0; have z1 := hu1.size; have z2 := hu2.size; have z3 := U4.size; clear _t tok3_5))
    all_goals (go_ret; exact ⟨_, rfl, V, hQ.out _ bw ba bc bm ⟨hc.old V, hm.upd V (by simp), q1, q0, by omega, by omega, by omega, by omega, hm.ne hc, Upd.refl _ _⟩ q2 (by omega) (by omega) (by omega) (by omega) q3⟩)
set_option maxRecDepth 100000 in
set_option maxHeartbeats 2000000 in
theorem regsMk4 {g gm : Nat} {k : Cur} {cs : Array Value} {w : World} {c : Int} {Q : World → Ending → World → Prop} (hcl : c = 6 ∨ c = 6) (hc : CurAt w g k) (hm : MsgB w gm cs) (h0 : cs.getD 0 undef = .int .u8 c)
    (hQ : ∀ W bw ba bc bm (st : RegSt W W bc bm g gm k cs) (hwB : W.cell? ⟨bw, 0, none⟩ = some (.func (.func 84) #[] #[.pointer (some ⟨bc, 0, none⟩), .pointer (some ⟨bm, 0, none⟩)])) (wg : bw ≠ g) (wm : bw ≠ gm) (ag : ba ≠ g) (am : ba ≠ gm) (haB : W.cell? ⟨ba, 0, none⟩ = some (.bool true)),
      Calls Try.prog 88 #[.pointer (some ⟨bc, 0, none⟩), .pointer (some ⟨bm, 0, none⟩)] W (Q W)) :
    Calls Try.prog 61 #[.int .i64 0, .pointer (some ⟨gm, 0, none⟩), .pointer (some ⟨g, 0, none⟩)] w (PMk 88 Q w) := by
  have hlt := hc.lt
  have hml := hm.lt
  replace hQ := Lib.hid hQ
  have k0 := hm.cellv 0 (by decide) h0
  rcases hcl with rfl | rfl
  all_goals
    go_enter Try.func61, Try.ntmps61
    have tok4_0 : True := trivial
    have tok4_1 : True := trivial
    have tok4_2 : True := trivial
    have tok4_3 : True := trivial
    have tok4_4 : True := trivial
    have tok4_5 : True := trivial
    go_wp2_with (first | (have _t := tok4_0; refine wp_boxw rfl 89 _ rfl (.pointer (some ⟨gm, 0, none⟩)) rfl ?_; intro bm w1 hbm hB1 hu1; clear _t tok4_0) | (have _t := tok4_1; refine wp_boxw rfl 69 _ rfl (.pointer (some ⟨g, 0, none⟩)) rfl ?_; intro bc w2 hbc hB2 hu2; clear _t tok4_1) | (have _t := tok4_2; refine wp_allocw rfl 123 rfl _ fn_zero ?_; intro bw w3 hbw hB3 hu3; clear _t tok4_2) | (have _t := tok4_3; refine wp_store1 rfl 123 _ _ rfl bw rfl (.func (.func 84) #[] #[.pointer (some ⟨bc, 0, none⟩), .pointer (some ⟨bm, 0, none⟩)]) rfl rfl _ _ hB3 fn_size rfl rfl ?_; intro w4 hB4 hu4; have U4 := hu3.fresh1 hu4 hbw; clear _t tok4_3) | (have _t := tok4_4; refine wp_allocw rfl 4 rfl _ bool_zero ?_; intro ba w5 hba hB5 hu5; clear _t tok4_4) | (have _t := tok4_5; refine wp_store1 rfl 4 _ _ rfl ba rfl (.bool true) rfl rfl _ _ hB5 bool_size rfl rfl ?_; intro w6 hB6 hu6; have U6 := hu5.fresh1 hu6 hba; have hb4 := U6.blk (by simp) hB4; have V4 := hu2.step (U4.step U6); have hb1 := (U4.step U6).blk (by simp) (hu2.blk (by simp) hB1); have hb2 := (U4.step U6).blk (by simp) hB2; have V := hu1.step V4; have q0 : w6.cell? ⟨bm, 0, none⟩ = some (.pointer (some ⟨gm, 0, none⟩)) := (blk_cell hb1 0).trans rfl; have q1 : w6.cell? ⟨bc, 0, none⟩ = some (.pointer (some ⟨g, 0, none⟩)) := (blk_cell hb2 0).trans rfl; have q2 : w6.cell? ⟨bw, 0, none⟩ = some (.func (.func 84) #[] #[.pointer (some ⟨bc, 0, none⟩), .pointer (some ⟨bm, 0, none⟩)]) := (blk_cell hb4 0).trans rfl; have q3 : w6.cell? ⟨ba, 0, none⟩ = some (.bool true) := (blk_cell hB6 0).trans rfl; have q4 := V.cell (by simp) k0; have z1 := hu1.size; have z2 := hu2.size; have z3 := U4.size; clear _t tok4_5))
    all_goals (go_ret; exact ⟨_, rfl, V, hQ.out _ bw ba bc bm ⟨hc.old V, hm.upd V (by simp), q1, q0, by omega, by omega, by omega, by omega, hm.ne hc, Upd.refl _ _⟩ q2 (by omega) (by omega) (by omega) (by omega) q3⟩)
set_option maxRecDepth 100000 in
set_option maxHeartbeats 2000000 in
theorem regsMk4b {g gm : Nat} {k : Cur} {cs : Array Value} {w : World} {c : Int} {Q : World → Ending → World → Prop} (hcl : c = 6 ∨ c = 6) (hc : CurAt w g k) (hm : MsgB w gm cs) (h0 : cs.getD 0 undef = .int .u8 c)
    (hQ : ∀ W bw ba bc bm (st : RegSt W W bc bm g gm k cs) (hwB : W.cell? ⟨bw, 0, none⟩ = some (.func (.func 84) #[] #[.pointer (some ⟨bc, 0, none⟩), .pointer (some ⟨bm, 0, none⟩)])) (wg : bw ≠ g) (wm : bw ≠ gm) (ag : ba ≠ g) (am : ba ≠ gm) (haB : W.cell? ⟨ba, 0, none⟩ = some (.bool false)),
      Calls Try.prog 88 #[.pointer (some ⟨bc, 0, none⟩), .pointer (some ⟨bm, 0, none⟩)] W (Q W)) :
    Calls Try.prog 61 #[.int .i64 1, .pointer (some ⟨gm, 0, none⟩), .pointer (some ⟨g, 0, none⟩)] w (PMk 88 Q w) := by
  have hlt := hc.lt
  have hml := hm.lt
  replace hQ := Lib.hid hQ
  have k0 := hm.cellv 0 (by decide) h0
  rcases hcl with rfl | rfl
  all_goals
    go_enter Try.func61, Try.ntmps61
    have tok5_0 : True := trivial
    have tok5_1 : True := trivial
    have tok5_2 : True := trivial
    have tok5_3 : True := trivial
    have tok5_4 : True := trivial
    have tok5_5 : True := trivial
    go_wp2_with (first | (have _t := tok5_0; refine wp_boxw rfl 89 _ rfl (.pointer (some ⟨gm, 0, none⟩)) rfl ?_; intro bm w1 hbm hB1 hu1; clear _t tok5_0) | (have _t := tok5_1; refine wp_boxw rfl 69 _ rfl (.pointer (some ⟨g, 0, none⟩)) rfl ?_; intro bc w2 hbc hB2 hu2; clear _t tok5_1) | (have _t := tok5_2; refine wp_allocw rfl 123 rfl _ fn_zero ?_; intro bw w3 hbw hB3 hu3; clear _t tok5_2) | (have _t := tok5_3; refine wp_store1 rfl 123 _ _ rfl bw rfl (.func (.func 84) #[] #[.pointer (some ⟨bc, 0, none⟩), .pointer (some ⟨bm, 0, none⟩)]) rfl rfl _ _ hB3 fn_size rfl rfl ?_; intro w4 hB4 hu4; have U4 := hu3.fresh1 hu4 hbw; clear _t tok5_3) | (have _t := tok5_4; refine wp_allocw rfl 4 rfl _ bool_zero ?_; intro ba w5 hba hB5 hu5; clear _t tok5_4) | (have _t := tok5_5; refine wp_store1 rfl 4 _ _ rfl ba rfl (.bool false) rfl rfl _ _ hB5 bool_size rfl rfl ?_; intro w6 hB6 hu6; have U6 := hu5.fresh1 hu6 hba; have hb4 := U6.blk (by simp) hB4; have V4 := hu2.step (U4.step U6); have hb1 := (U4.step U6).blk (by simp) (hu2.blk (by simp) hB1); have hb2 := (U4.step U6).blk (by simp) hB2; have V := hu1.step V4; have q0 : w6.cell? ⟨bm, 0, none⟩ = some (.pointer (some ⟨gm, 0, none⟩)) := (blk_cell hb1 0).trans rfl; have q1 : w6.cell? ⟨bc, 0, none⟩ = some (.pointer (some ⟨g, 0, none⟩)) := (blk_cell hb2 0).trans rfl; have q2 : w6.cell? ⟨bw, 0, none⟩ = some (.func (.func 84) #[] #[.pointer (some ⟨bc, 0, none⟩), .pointer (some ⟨bm, 0, none⟩)]) := (blk_cell hb4 0).trans rfl; have q3 : w6.cell? ⟨ba, 0, none⟩ = some (.bool false) := (blk_cell hB6 0).trans rfl; have q4 := V.cell (by simp) k0; have z1 := hu1.size; have z2 := hu2.size; have z3 := U4.size; clear _t tok5_5))
    all_goals (go_ret; exact ⟨_, rfl, V, hQ.out _ bw ba bc bm ⟨hc.old V, hm.upd V (by simp), q1, q0, by omega, by omega, by omega, by omega, hm.ne hc, Upd.refl _ _⟩ q2 (by omega) (by omega) (by omega) (by omega) q3⟩)
set_option maxRecDepth 100000 in
set_option maxHeartbeats 2000000 in
theorem regsMk5y {g gm : Nat} {k : Cur} {cs : Array Value} {w : World} {c : Int} {Q : World → Ending → World → Prop} (hcl : c = 16 ∨ c = 16) (hc : CurAt w g k) (hm : MsgB w gm cs) (h0 : cs.getD 0 undef = .int .u8 c)
    (hQ : ∀ W bw ba bc bm (st : RegSt W W bc bm g gm k cs) (hwB : W.cell? ⟨bw, 0, none⟩ = some (.func (.func 84) #[] #[.pointer (some ⟨bc, 0, none⟩), .pointer (some ⟨bm, 0, none⟩)])) (wg : bw ≠ g) (wm : bw ≠ gm) (ag : ba ≠ g) (am : ba ≠ gm) (haB : W.cell? ⟨ba, 0, none⟩ = some (.bool true)),
      Calls Try.prog 89 #[.pointer (some ⟨bw, 0, none⟩), .pointer (some ⟨ba, 0, none⟩), .pointer (some ⟨bc, 0, none⟩), .pointer (some ⟨bm, 0, none⟩)] W (Q W)) :
    Calls Try.prog 61 #[.int .i64 0, .pointer (some ⟨gm, 0, none⟩), .pointer (some ⟨g, 0, none⟩)] w (PMk 89 Q w) := by
  have hlt := hc.lt
  have hml := hm.lt
  replace hQ := Lib.hid hQ
  have k0 := hm.cellv 0 (by decide) h0
  rcases hcl with rfl | rfl
  all_goals
    go_enter Try.func61, Try.ntmps61
    have tok6_0 : True := trivial
    have tok6_1 : True := trivial
    have tok6_2 : True := trivial
    have tok6_3 : True := trivial
    have tok6_4 : True := trivial
    have tok6_5 : True := trivial
    go_wp2_with (first | (have _t := tok6_0; refine wp_boxw rfl 89 _ rfl (.pointer (some ⟨gm, 0, none⟩)) rfl ?_; intro bm w1 hbm hB1 hu1; clear _t tok6_0) | (have _t := tok6_1; refine wp_boxw rfl 69 _ rfl (.pointer (some ⟨g, 0, none⟩)) rfl ?_; intro bc w2 hbc hB2 hu2; clear _t tok6_1) | (have _t := tok6_2; refine wp_allocw rfl 123 rfl _ fn_zero ?_; intro bw w3 hbw hB3 hu3; clear _t tok6_2) | (have _t := tok6_3; refine wp_store1 rfl 123 _ _ rfl bw rfl (.func (.func 84) #[] #[.pointer (some ⟨bc, 0, none⟩), .pointer (some ⟨bm, 0, none⟩)]) rfl rfl _ _ hB3 fn_size rfl rfl ?_; intro w4 hB4 hu4; have U4 := hu3.fresh1 hu4 hbw; clear _t tok6_3) | (have _t := tok6_4; refine wp_allocw rfl 4 rfl _ bool_zero ?_; intro ba w5 hba hB5 hu5; clear _t tok6_4) | (have _t := tok6_5; refine wp_store1 rfl 4 _ _ rfl ba rfl (.bool true) rfl rfl _ _ hB5 bool_size rfl rfl ?_; intro w6 hB6 hu6; have U6 := hu5.fresh1 hu6 hba; have hb4 := U6.blk (by simp) hB4; have V4 := hu2.step (U4.step U6); have hb1 := (U4.step U6).blk (by simp) (hu2.blk (by simp) hB1); have hb2 := (U4.step U6).blk (by simp) hB2; have V := hu1.step V4; have q0 : w6.cell? ⟨bm, 0, none⟩ = some (.pointer (some ⟨gm, 0, none⟩)) := (blk_cell hb1 0).trans rfl; have q1 : w6.cell? ⟨bc, 0, none⟩ = some (.pointer (some ⟨g, 0, none⟩)) := (blk_cell hb2 0).trans rfl; have q2 : w6.cell? ⟨bw, 0, none⟩ = some (.func (.func 84) #[] #[.pointer (some ⟨bc, 0, none⟩), .pointer (some ⟨bm, 0, none⟩)]) := (blk_cell hb4 0).trans rfl; have q3 : w6.cell? ⟨ba, 0, none⟩ = some (.bool true) := (blk_cell hB6 0).trans rfl; have q4 := V.cell (by simp) k0; have z1 := hu1.size; have z2 := hu2.size; have z3 := U4.size; clear _t tok6_5))
    all_goals (go_ret; exact ⟨_, rfl, V, hQ.out _ bw ba bc bm ⟨hc.old V, hm.upd V (by simp), q1, q0, by omega, by omega, by omega, by omega, hm.ne hc, Upd.refl _ _⟩ q2 (by omega) (by omega) (by omega) (by omega) q3⟩)
set_option maxRecDepth 100000 in
set_option maxHeartbeats 2000000 in
theorem regsMk5n {g gm : Nat} {k : Cur} {cs : Array Value} {w : World} {c : Int} {Q : World → Ending → World → Prop} (hcl : c = 16 ∨ c = 16) (hc : CurAt w g k) (hm : MsgB w gm cs) (h0 : cs.getD 0 undef = .int .u8 c)
    (hQ : ∀ W bw ba bc bm (st : RegSt W W bc bm g gm k cs) (hwB : W.cell? ⟨bw, 0, none⟩ = some (.func (.func 84) #[] #[.pointer (some ⟨bc, 0, none⟩), .pointer (some ⟨bm, 0, none⟩)])) (wg : bw ≠ g) (wm : bw ≠ gm) (ag : ba ≠ g) (am : ba ≠ gm) (haB : W.cell? ⟨ba, 0, none⟩ = some (.bool false)),
      Calls Try.prog 89 #[.pointer (some ⟨bw, 0, none⟩), .pointer (some ⟨ba, 0, none⟩), .pointer (some ⟨bc, 0, none⟩), .pointer (some ⟨bm, 0, none⟩)] W (Q W)) :
    Calls Try.prog 61 #[.int .i64 1, .pointer (some ⟨gm, 0, none⟩), .pointer (some ⟨g, 0, none⟩)] w (PMk 89 Q w) := by
  have hlt := hc.lt
  have hml := hm.lt
  replace hQ := Lib.hid hQ
  have k0 := hm.cellv 0 (by decide) h0
  rcases hcl with rfl | rfl
  all_goals
    go_enter Try.func61, Try.ntmps61
    have tok7_0 : True := trivial
    have tok7_1 : True := trivial
    have tok7_2 : True := trivial
    have tok7_3 : True := trivial
    have tok7_4 : True := trivial
    have tok7_5 : True := trivial
    go_wp2_with (first | (have _t := tok7_0; refine wp_boxw rfl 89 _ rfl (.pointer (some ⟨gm, 0, none⟩)) rfl ?_; intro bm w1 hbm hB1 hu1; clear _t tok7_0) | (have _t := tok7_1; refine wp_boxw rfl 69 _ rfl (.pointer (some ⟨g, 0, none⟩)) rfl ?_; intro bc w2 hbc hB2 hu2; clear _t tok7_1) | (have _t := tok7_2; refine wp_allocw rfl 123 rfl _ fn_zero ?_; intro bw w3 hbw hB3 hu3; clear _t tok7_2) | (have _t := tok7_3; refine wp_store1 rfl 123 _ _ rfl bw rfl (.func (.func 84) #[] #[.pointer (some ⟨bc, 0, none⟩), .pointer (some ⟨bm, 0, none⟩)]) rfl rfl _ _ hB3 fn_size rfl rfl ?_; intro w4 hB4 hu4; have U4 := hu3.fresh1 hu4 hbw; clear _t tok7_3) | (have _t := tok7_4; refine wp_allocw rfl 4 rfl _ bool_zero ?_; intro ba w5 hba hB5 hu5; clear _t tok7_4) | (have _t := tok7_5; refine wp_store1 rfl 4 _ _ rfl ba rfl (.bool false) rfl rfl _ _ hB5 bool_size rfl rfl ?_; intro w6 hB6 hu6; have U6 := hu5.fresh1 hu6 hba; have hb4 := U6.blk (by simp) hB4; have V4 := hu2.step (U4.step U6); have hb1 := (U4.step U6).blk (by simp) (hu2.blk (by simp) hB1); have hb2 := (U4.step U6).blk (by simp) hB2; have V := hu1.step V4; have q0 : w6.cell? ⟨bm, 0, none⟩ = some (.pointer (some ⟨gm, 0, none⟩)) := (blk_cell hb1 0).trans rfl; have q1 : w6.cell? ⟨bc, 0, none⟩ = some (.pointer (some ⟨g, 0, none⟩)) := (blk_cell hb2 0).trans rfl; have q2 : w6.cell? ⟨bw, 0, none⟩ = some (.func (.func 84) #[] #[.pointer (some ⟨bc, 0, none⟩), .pointer (some ⟨bm, 0, none⟩)]) := (blk_cell hb4 0).trans rfl; have q3 : w6.cell? ⟨ba, 0, none⟩ = some (.bool false) := (blk_cell hB6 0).trans rfl; have q4 := V.cell (by simp) k0; have z1 := hu1.size; have z2 := hu2.size; have z3 := U4.size; clear _t tok7_5))
    all_goals (go_ret; exact ⟨_, rfl, V, hQ.out _ bw ba bc bm ⟨hc.old V, hm.upd V (by simp), q1, q0, by omega, by omega, by omega, by omega, hm.ne hc, Upd.refl _ _⟩ q2 (by omega) (by omega) (by omega) (by omega) q3⟩)
set_option maxRecDepth 100000 in
set_option maxHeartbeats 2000000 in
theorem regsMk6 {g gm : Nat} {k : Cur} {cs : Array Value} {w : World} {c : Int} {Q : World → Ending → World → Prop} (hcl : c = 22 ∨ c = 22) (hc : CurAt w g k) (hm : MsgB w gm cs) (h0 : cs.getD 0 undef = .int .u8 c)
    (hQ : ∀ W bw ba bc bm (st : RegSt W W bc bm g gm k cs) (hwB : W.cell? ⟨bw, 0, none⟩ = some (.func (.func 84) #[] #[.pointer (some ⟨bc, 0, none⟩), .pointer (some ⟨bm, 0, none⟩)])) (wg : bw ≠ g) (wm : bw ≠ gm) (ag : ba ≠ g) (am : ba ≠ gm) (haB : W.cell? ⟨ba, 0, none⟩ = some (.bool true)),
      Calls Try.prog 91 #[.pointer (some ⟨bc, 0, none⟩), .pointer (some ⟨bm, 0, none⟩)] W (Q W)) :
    Calls Try.prog 61 #[.int .i64 0, .pointer (some ⟨gm, 0, none⟩), .pointer (some ⟨g, 0, none⟩)] w (PMk 91 Q w) := by
  have hlt := hc.lt
  have hml := hm.lt
  replace hQ := Lib.hid hQ
  have k0 := hm.cellv 0 (by decide) h0
  rcases hcl with rfl | rfl
  all_goals
    go_enter Try.func61, Try.ntmps61
    have tok8_0 : True := trivial
    have tok8_1 : True := trivial
    have tok8_2 : True := trivial
    have tok8_3 : True := trivial
    have tok8_4 : True := trivial
    have tok8_5 : True := trivial
    go_wp2_with (first | (have _t := tok8_0; refine wp_boxw rfl 89 _ rfl (.pointer (some ⟨gm, 0, none⟩)) rfl ?_; intro bm w1 hbm hB1 hu1; clear _t tok8_0) | (have _t := tok8_1; refine wp_boxw rfl 69 _ rfl (.pointer (some ⟨g, 0, none⟩)) rfl ?_; intro bc w2 hbc hB2 hu2; clear _t tok8_1) | (have _t := tok8_2; refine wp_allocw rfl 123 rfl _ fn_zero ?_; intro bw w3 hbw hB3 hu3; clear _t tok8_2) | (have _t := tok8_3; refine wp_store1 rfl 123 _ _ rfl bw rfl (.func (.func 84) #[] #[.pointer (some ⟨bc, 0, none⟩), .pointer (some ⟨bm, 0, none⟩)]) rfl rfl _ _ hB3 fn_size rfl rfl ?_; intro w4 hB4 hu4; have U4 := hu3.fresh1 hu4 hbw; clear _t tok8_3) | (have _t := tok8_4; refine wp_allocw rfl 4 rfl _ bool_zero ?_; intro ba w5 hba hB5 hu5; clear _t tok8_4) | (have _t := tok8_5; refine wp_store1 rfl 4 _ _ rfl ba rfl (.bool true) rfl rfl _ _ hB5 bool_size rfl rfl ?_; intro w6 hB6 hu6; have U6 := hu5.fresh1 hu6 hba; have hb4 := U6.blk (by simp) hB4; have V4 := hu2.step (U4.step U6); have hb1 := (U4.step U6).blk (by simp) (hu2.blk (by simp) hB1); have hb2 := (U4.step U6).blk (by simp) hB2; have V := hu1.step V4; have q0 : w6.cell? ⟨bm, 0, none⟩ = some (.pointer (some ⟨gm, 0, none⟩)) := (blk_cell hb1 0).trans rfl; have q1 : w6.cell? ⟨bc, 0, none⟩ = some (.pointer (some ⟨g, 0, none⟩)) := (blk_cell hb2 0).trans rfl; have q2 : w6.cell? ⟨bw, 0, none⟩ = some (.func (.func 84) #[] #[.pointer (some ⟨bc, 0, none⟩), .pointer (some ⟨bm, 0, none⟩)]) := (blk_cell hb4 0).trans rfl; have q3 : w6.cell? ⟨ba, 0, none⟩ = some (.bool true) := (blk_cell hB6 0).trans rfl; have q4 := V.cell (by simp) k0; have z1 := hu1.size; have z2 := hu2.size; have z3 := U4.size; clear _t tok8_5))
    all_goals (go_ret; exact ⟨_, rfl, V, hQ.out _ bw ba bc bm ⟨hc.old V, hm.upd V (by simp), q1, q0, by omega, by omega, by omega, by omega, hm.ne hc, Upd.refl _ _⟩ q2 (by omega) (by omega) (by omega) (by omega) q3⟩)
set_option maxRecDepth 100000 in
set_option maxHeartbeats 2000000 in
theorem regsMk6b {g gm : Nat} {k : Cur} {cs : Array Value} {w : World} {c : Int} {Q : World → Ending → World → Prop} (hcl : c = 22 ∨ c = 22) (hc : CurAt w g k) (hm : MsgB w gm cs) (h0 : cs.getD 0 undef = .int .u8 c)
    (hQ : ∀ W bw ba bc bm (st : RegSt W W bc bm g gm k cs) (hwB : W.cell? ⟨bw, 0, none⟩ = some (.func (.func 84) #[] #[.pointer (some ⟨bc, 0, none⟩), .pointer (some ⟨bm, 0, none⟩)])) (wg : bw ≠ g) (wm : bw ≠ gm) (ag : ba ≠ g) (am : ba ≠ gm) (haB : W.cell? ⟨ba, 0, none⟩ = some (.bool false)),
      Calls Try.prog 91 #[.pointer (some ⟨bc, 0, none⟩), .pointer (some ⟨bm, 0, none⟩)] W (Q W)) :
    Calls Try.prog 61 #[.int .i64 1, .pointer (some ⟨gm, 0, none⟩), .pointer (some ⟨g, 0, none⟩)] w (PMk 91 Q w) := by
  have hlt := hc.lt
  have hml := hm.lt
  replace hQ := Lib.hid hQ
  have k0 := hm.cellv 0 (by decide) h0
  rcases hcl with rfl | rfl
  all_goals
    go_enter Try.func61, Try.ntmps61
    have tok9_0 : True := trivial
    have tok9_1 : True := trivial
    have tok9_2 : True := trivial
    have tok9_3 : True := trivial
    have tok9_4 : True := trivial
    have tok9_5 : True := trivial
    go_wp2_with (first | (have _t := tok9_0; refine wp_boxw rfl 89 _ rfl (.pointer (some ⟨gm, 0, none⟩)) rfl ?_; intro bm w1 hbm hB1 hu1; clear _t tok9_0) | (have _t := tok9_1; refine wp_boxw rfl 69 _ rfl (.pointer (some ⟨g, 0, none⟩)) rfl ?_; intro bc w2 hbc hB2 hu2; clear _t tok9_1) | (have _t := tok9_2; refine wp_allocw rfl 123 rfl _ fn_zero ?_; intro bw w3 hbw hB3 hu3; clear _t tok9_2) | (have _t := tok9_3; refine wp_store1 rfl 123 _ _ rfl bw rfl (.func (.func 84) #[] #[.pointer (some ⟨bc, 0, none⟩), .pointer (some ⟨bm, 0, none⟩)]) rfl rfl _ _ hB3 fn_size rfl rfl ?_; intro w4 hB4 hu4; have U4 := hu3.fresh1 hu4 hbw; clear _t tok9_3) | (have _t := tok9_4; refine wp_allocw rfl 4 rfl _ bool_zero ?_; intro ba w5 hba hB5 hu5; clear _t tok9_4) | (have _t := tok9_5; refine wp_store1 rfl 4 _ _ rfl ba rfl (.bool false) rfl rfl _ _ hB5 bool_size rfl rfl ?_; intro w6 hB6 hu6; have U6 := hu5.fresh1 hu6 hba; have hb4 := U6.blk (by simp) hB4; have V4 := hu2.step (U4.step U6); have hb1 := (U4.step U6).blk (by simp) (hu2.blk (by simp) hB1); have hb2 := (U4.step U6).blk (by simp) hB2; have V := hu1.step V4; have q0 : w6.cell? ⟨bm, 0, none⟩ = some (.pointer (some ⟨gm, 0, none⟩)) := (blk_cell hb1 0).trans rfl; have q1 : w6.cell? ⟨bc, 0, none⟩ = some (.pointer (some ⟨g, 0, none⟩)) := (blk_cell hb2 0).trans rfl; have q2 : w6.cell? ⟨bw, 0, none⟩ = some (.func (.func 84) #[] #[.pointer (some ⟨bc, 0, none⟩), .pointer (some ⟨bm, 0, none⟩)]) := (blk_cell hb4 0).trans rfl; have q3 : w6.cell? ⟨ba, 0, none⟩ = some (.bool false) := (blk_cell hB6 0).trans rfl; have q4 := V.cell (by simp) k0; have z1 := hu1.size; have z2 := hu2.size; have z3 := U4.size; clear _t tok9_5))
    all_goals (go_ret; exact ⟨_, rfl, V, hQ.out _ bw ba bc bm ⟨hc.old V, hm.upd V (by simp), q1, q0, by omega, by omega, by omega, by omega, hm.ne hc, Upd.refl _ _⟩ q2 (by omega) (by omega) (by omega) (by omega) q3⟩)
set_option maxRecDepth 100000 in
set_option maxHeartbeats 2000000 in
theorem regsMk7 {g gm : Nat} {k : Cur} {cs : Array Value} {w : World} {c : Int} {Q : World → Ending → World → Prop} (hcl : c = 23 ∨ c = 23) (hc : CurAt w g k) (hm : MsgB w gm cs) (h0 : cs.getD 0 undef = .int .u8 c)
    (hQ : ∀ W bw ba bc bm (st : RegSt W W bc bm g gm k cs) (hwB : W.cell? ⟨bw, 0, none⟩ = some (.func (.func 84) #[] #[.pointer (some ⟨bc, 0, none⟩), .pointer (some ⟨bm, 0, none⟩)])) (wg : bw ≠ g) (wm : bw ≠ gm) (ag : ba ≠ g) (am : ba ≠ gm) (haB : W.cell? ⟨ba, 0, none⟩ = some (.bool true)),
      Calls Try.prog 92 #[.pointer (some ⟨bw, 0, none⟩), .pointer (some ⟨bc, 0, none⟩), .pointer (some ⟨bm, 0, none⟩)] W (Q W)) :
    Calls Try.prog 61 #[.int .i64 0, .pointer (some ⟨gm, 0, none⟩), .pointer (some ⟨g, 0, none⟩)] w (PMk 92 Q w) := by
  have hlt := hc.lt
  have hml := hm.lt
  replace hQ := Lib.hid hQ
  have k0 := hm.cellv 0 (by decide) h0
  rcases hcl with rfl | rfl
  all_goals
    go_enter Try.func61, Try.ntmps61
    have tok10_0 : True := trivial
    have tok10_1 : True := trivial
    have tok10_2 : True := trivial
    have tok10_3 : True := trivial
    have tok10_4 : True := trivial
    have tok10_5 : True := trivial
    go_wp2_with (first | (have _t := tok10_0; refine wp_boxw rfl 89 _ rfl (.pointer (some ⟨gm, 0, none⟩)) rfl ?_; intro bm w1 hbm hB1 hu1; clear _t tok10_0) | (have _t := tok10_1; refine wp_boxw rfl 69 _ rfl (.pointer (some ⟨g, 0, none⟩)) rfl ?_; intro bc w2 hbc hB2 hu2; clear _t tok10_1) | (have _t := tok10_2; refine wp_allocw rfl 123 rfl _ fn_zero ?_; intro bw w3 hbw hB3 hu3; clear _t tok10_2) | (have _t := tok10_3; refine wp_store1 rfl 123 _ _ rfl bw rfl (.func (.func 84) #[] #[.pointer (some ⟨bc, 0, none⟩), .pointer (some ⟨bm, 0, none⟩)]) rfl rfl _ _ hB3 fn_size rfl rfl ?_; intro w4 hB4 hu4; have U4 := hu3.fresh1 hu4 hbw; clear _t tok10_3) | (have _t := tok10_4; refine wp_allocw rfl 4 rfl _ bool_zero ?_; intro ba w5 hba hB5 hu5; clear _t tok10_4) | (have _t := tok10_5; refine wp_store1 rfl 4 _ _ rfl ba rfl (.bool true) rfl rfl _ _ hB5 bool_size rfl rfl ?_; intro w6 hB6 hu6; have U6 := hu5.fresh1 hu6 hba; have hb4 := U6.blk (by simp) hB4; have V4 := hu2.step (U4.step U6); have hb1 := (U4.step U6).blk (by simp) (hu2.blk (by simp) hB1); have hb2 := (U4.step U6).blk (by simp) hB2; have V := hu1.step V4; have q0 : w6.cell? ⟨bm, 0, none⟩ = some (.pointer (some ⟨gm, 0, none⟩)) := (blk_cell hb1 0).trans rfl; have q1 : w6.cell? ⟨bc, 0, none⟩ = some (.pointer (some ⟨g, 0, none⟩)) := (blk_cell hb2 0).trans rfl; have q2 : w6.cell? ⟨bw, 0, none⟩ = some (.func (.func 84) #[] #[.pointer (some ⟨bc, 0, none⟩), .pointer (some ⟨bm, 0, none⟩)]) := (blk_cell hb4 0).trans rfl; have q3 : w6.cell? ⟨ba, 0, none⟩ = some (.bool true) := (blk_cell hB6 0).trans rfl; have q4 := V.cell (by simp) k0; have z1 := hu1.size; have z2 := hu2.size; have z3 := U4.size; clear _t tok10_5))
    all_goals (go_ret; exact ⟨_, rfl, V, hQ.out _ bw ba bc bm ⟨hc.old V, hm.upd V (by simp), q1, q0, by omega, by omega, by omega, by omega, hm.ne hc, Upd.refl _ _⟩ q2 (by omega) (by omega) (by omega) (by omega) q3⟩)
set_option maxRecDepth 100000 in
set_option maxHeartbeats 2000000 in
theorem regsMk8 {g gm : Nat} {k : Cur} {cs : Array Value} {w : World} {c : Int} {Q : World → Ending → World → Prop} (hcl : c = 24 ∨ c = 24) (hc : CurAt w g k) (hm : MsgB w gm cs) (h0 : cs.getD 0 undef = .int .u8 c)
    (hQ : ∀ W bw ba bc bm (st : RegSt W W bc bm g gm k cs) (hwB : W.cell? ⟨bw, 0, none⟩ = some (.func (.func 84) #[] #[.pointer (some ⟨bc, 0, none⟩), .pointer (some ⟨bm, 0, none⟩)])) (wg : bw ≠ g) (wm : bw ≠ gm) (ag : ba ≠ g) (am : ba ≠ gm) (haB : W.cell? ⟨ba, 0, none⟩ = some (.bool true)),
      Calls Try.prog 93 #[.pointer (some ⟨bc, 0, none⟩), .pointer (some ⟨bm, 0, none⟩)] W (Q W)) :
    Calls Try.prog 61 #[.int .i64 0, .pointer (some ⟨gm, 0, none⟩), .pointer (some ⟨g, 0, none⟩)] w (PMk 93 Q w) := by
  have hlt := hc.lt
  have hml := hm.lt
  replace hQ := Lib.hid hQ
  have k0 := hm.cellv 0 (by decide) h0
  rcases hcl with rfl | rfl
  all_goals
    go_enter Try.func61, Try.ntmps61
    have tok11_0 : True := trivial
    have tok11_1 : True := trivial
    have tok11_2 : True := trivial
    have tok11_3 : True := trivial
    have tok11_4 : True := trivial
    have tok11_5 : True := trivial
    go_wp2_with (first | (have _t := tok11_0; refine wp_boxw rfl 89 _ rfl (.pointer (some ⟨gm, 0, none⟩)) rfl ?_; intro bm w1 hbm hB1 hu1; clear _t tok11_0) | (have _t := tok11_1; refine wp_boxw rfl 69 _ rfl (.pointer (some ⟨g, 0, none⟩)) rfl ?_; intro bc w2 hbc hB2 hu2; clear _t tok11_1) | (have _t := tok11_2; refine wp_allocw rfl 123 rfl _ fn_zero ?_; intro bw w3 hbw hB3 hu3; clear _t tok11_2) | (have _t := tok11_3; refine wp_store1 rfl 123 _ _ rfl bw rfl (.func (.func 84) #[] #[.pointer (some ⟨bc, 0, none⟩), .pointer (some ⟨bm, 0, none⟩)]) rfl rfl _ _ hB3 fn_size rfl rfl ?_; intro w4 hB4 hu4; have U4 := hu3.fresh1 hu4 hbw; clear _t tok11_3) | (have _t := tok11_4; refine wp_allocw rfl 4 rfl _ bool_zero ?_; intro ba w5 hba hB5 hu5; clear _t tok11_4) | (have _t := tok11_5; refine wp_store1 rfl 4 _ _ rfl ba rfl (.bool true) rfl rfl _ _ hB5 bool_size rfl rfl ?_; intro w6 hB6 hu6; have U6 := hu5.fresh1 hu6 hba; have hb4 := U6.blk (by simp) hB4; have V4 := hu2.step (U4.step U6); have hb1 := (U4.step U6).blk (by simp) (hu2.blk (by simp) hB1); have hb2 := (U4.step U6).blk (by simp) hB2; have V := hu1.step V4; have q0 : w6.cell? ⟨bm, 0, none⟩ = some (.pointer (some ⟨gm, 0, none⟩)) := (blk_cell hb1 0).trans rfl; have q1 : w6.cell? ⟨bc, 0, none⟩ = some (.pointer (some ⟨g, 0, none⟩)) := (blk_cell hb2 0).trans rfl; have q2 : w6.cell? ⟨bw, 0, none⟩ = some (.func (.func 84) #[] #[.pointer (some ⟨bc, 0, none⟩), .pointer (some ⟨bm, 0, none⟩)]) := (blk_cell hb4 0).trans rfl; have q3 : w6.cell? ⟨ba, 0, none⟩ = some (.bool true) := (blk_cell hB6 0).trans rfl; have q4 := V.cell (by simp) k0; have z1 := hu1.size; have z2 := hu2.size; have z3 := U4.size; clear _t tok11_5))
    all_goals (go_ret; exact ⟨_, rfl, V, hQ.out _ bw ba bc bm ⟨hc.old V, hm.upd V (by simp), q1, q0, by omega, by omega, by omega, by omega, hm.ne hc, Upd.refl _ _⟩ q2 (by omega) (by omega) (by omega) (by omega) q3⟩)
set_option maxRecDepth 100000 in
set_option maxHeartbeats 2000000 in
theorem regsMk9 {g gm : Nat} {k : Cur} {cs : Array Value} {w : World} {c : Int} {Q : World → Ending → World → Prop} (hcl : c = 24 ∨ c = 24) (hc : CurAt w g k) (hm : MsgB w gm cs) (h0 : cs.getD 0 undef = .int .u8 c)
    (hQ : ∀ W bw ba bc bm (st : RegSt W W bc bm g gm k cs) (hwB : W.cell? ⟨bw, 0, none⟩ = some (.func (.func 84) #[] #[.pointer (some ⟨bc, 0, none⟩), .pointer (some ⟨bm, 0, none⟩)])) (wg : bw ≠ g) (wm : bw ≠ gm) (ag : ba ≠ g) (am : ba ≠ gm) (haB : W.cell? ⟨ba, 0, none⟩ = some (.bool false)),
      Calls Try.prog 94 #[.pointer (some ⟨bc, 0, none⟩), .pointer (some ⟨bm, 0, none⟩)] W (Q W)) :
    Calls Try.prog 61 #[.int .i64 1, .pointer (some ⟨gm, 0, none⟩), .pointer (some ⟨g, 0, none⟩)] w (PMk 94 Q w) := by
  have hlt := hc.lt
  have hml := hm.lt
  replace hQ := Lib.hid hQ
  have k0 := hm.cellv 0 (by decide) h0
  rcases hcl with rfl | rfl
  all_goals
    go_enter Try.func61, Try.ntmps61
    have tok12_0 : True := trivial
    have tok12_1 : True := trivial
    have tok12_2 : True := trivial
    have tok12_3 : True := trivial
    have tok12_4 : True := trivial
    have tok12_5 : True := trivial
    go_wp2_with (first | (have _t := tok12_0; refine wp_boxw rfl 89 _ rfl (.pointer (some ⟨gm, 0, none⟩)) rfl ?_; intro bm w1 hbm hB1 hu1; clear _t tok12_0) | (have _t := tok12_1; refine wp_boxw rfl 69 _ rfl (.pointer (some ⟨g, 0, none⟩)) rfl ?_; intro bc w2 hbc hB2 hu2; clear _t tok12_1) | (have _t := tok12_2; refine wp_allocw rfl 123 rfl _ fn_zero ?_; intro bw w3 hbw hB3 hu3; clear _t tok12_2) | (have _t := tok12_3; refine wp_store1 rfl 123 _ _ rfl bw rfl (.func (.func 84) #[] #[.pointer (some ⟨bc, 0, none⟩), .pointer (some ⟨bm, 0, none⟩)]) rfl rfl _ _ hB3 fn_size rfl rfl ?_; intro w4 hB4 hu4; have U4 := hu3.fresh1 hu4 hbw; clear _t tok12_3) | (have _t := tok12_4; refine wp_allocw rfl 4 rfl _ bool_zero ?_; intro ba w5 hba hB5 hu5; clear _t tok12_4) | (have _t := tok12_5; refine wp_store1 rfl 4 _ _ rfl ba rfl (.bool false) rfl rfl _ _ hB5 bool_size rfl rfl ?_; intro w6 hB6 hu6; have U6 := hu5.fresh1 hu6 hba; have hb4 := U6.blk (by simp) hB4; have V4 := hu2.step (U4.step U6); have hb1 := (U4.step U6).blk (by simp) (hu2.blk (by simp) hB1); have hb2 := (U4.step U6).blk (by simp) hB2; have V := hu1.step V4; have q0 : w6.cell? ⟨bm, 0, none⟩ = some (.pointer (some ⟨gm, 0, none⟩)) := (blk_cell hb1 0).trans rfl; have q1 : w6.cell? ⟨bc, 0, none⟩ = some (.pointer (some ⟨g, 0, none⟩)) := (blk_cell hb2 0).trans rfl; have q2 : w6.cell? ⟨bw, 0, none⟩ = some (.func (.func 84) #[] #[.pointer (some ⟨bc, 0, none⟩), .pointer (some ⟨bm, 0, none⟩)]) := (blk_cell hb4 0).trans rfl; have q3 : w6.cell? ⟨ba, 0, none⟩ = some (.bool false) := (blk_cell hB6 0).trans rfl; have q4 := V.cell (by simp) k0; have z1 := hu1.size; have z2 := hu2.size; have z3 := U4.size; clear _t tok12_5))
    all_goals (go_ret; exact ⟨_, rfl, V, hQ.out _ bw ba bc bm ⟨hc.old V, hm.upd V (by simp), q1, q0, by omega, by omega, by omega, by omega, hm.ne hc, Upd.refl _ _⟩ q2 (by omega) (by omega) (by omega) (by omega) q3⟩)
theorem eql_fn (f : Fn) (x y : Array Value) (w : World) : (binOp .eql 1 (.func f x y) .nilFunc).run Try.prog w = .ok (.bool false) w := by kernel_rfl
set_option maxRecDepth 100000 in
set_option maxHeartbeats 2000000 in
theorem regs_p2_0 {m : Bool} {v : Value} {b : List Int} {w : World} {c : Int} {C : Cur} {M : Msg} (h : RdB m w v b) (hb : b.length ≤ 1048576)
    (hform : ∀ g gm W, CurAt W g ⟨b, false, 0⟩ → MsgB W gm (msgZ.setIfInBounds 0 (.int .u8 c)) → Calls Try.prog 61 #[.int .i64 0, .pointer (some ⟨gm, 0, none⟩), .pointer (some ⟨g, 0, none⟩)] W (PMk 86 (fun W' => PFormG g gm C M W') W)) :
    Calls Try.prog 39 #[.int .i64 0, .int .u8 c, v] w (PMsg (finish M C) w) := by
  have hb0 := build_msg0
  have hb1 := build_msg1 c
  have hnf := eql_fn
  replace hform := Lib.hid hform
  go_enter Try.func39, Try.ntmps39
  have tok1_0 : True := trivial
  have tok1_1 : True := trivial
  have tok1_2 : True := trivial
  have tok1_3 : True := trivial
  have tok1_4 : True := trivial
  have tok1_5 : True := trivial
  have tok1_6 : True := trivial
  have tok1_7 : True := trivial
  go_wp2_with (first | (have _t := tok1_0; refine wp_allocw rfl 29 rfl (.agg msgZ) msgZ_info ?_; intro g6 w1 hg6 hB6 hu1; clear _t tok1_0) | (have _t := tok1_1; refine wp_allocw rfl 29 rfl (.agg msgZ) msgZ_info ?_; intro gm w2 hgm hBm hu2; clear _t tok1_1) | (have _t := tok1_2; refine wp_storew rfl 29 _ _ rfl gm rfl (msgZ.setIfInBounds 0 (.int .u8 c)) rfl msgZ 29 hBm msg_size rfl (by kernel_rfl) ?_; intro w3 hBm3 hu3; have U3 := hu2.fresh1 hu3 hgm; clear _t tok1_2) | (have _t := tok1_3; go_at_call 28; refine (new_any (RdB.old h (hu1.step U3)) (by omega)).mono ?_; rintro e w4 ⟨g, rfl, hg, hc, hu4⟩; have hm4 : MsgB w4 gm _ := MsgB.upd ⟨hBm3, rfl⟩ hu4 (by simp); clear _t tok1_3) | (have _t := tok1_4; go_at_call 61; refine (hform.out g gm _ hc hm4).mono ?_; rintro e w5 ⟨free, rfl, hu5, hcall⟩; replace hcall := Lib.hid hcall; clear _t tok1_4) | (have _t := tok1_5; go_at_call 86; refine hcall.out.mono ?_; rintro e w11 ⟨rfl, hc11, ⟨cs, hm11, hM11⟩, hu11⟩; clear _t tok1_5) | (have _t := tok1_6; go_at_call 58; refine (end_any hc11).mono ?_; rintro e w12 ⟨rfl, hc12, hu12⟩; clear _t tok1_6) | (have _t := tok1_7; go_at_call 59; refine (err_any hc12).mono ?_; rintro e w13 ⟨rfl, rfl⟩; have U10 := (U3.step hu4).step hu5; have hG := U3.size; have hU12 := (U10.fresh2 hu11 (by omega) hgm).fresh1 hu12 (by omega); have hB612 := hU12.blk (by simp) hB6; have hm12 := hm11.upd hu12 (by simpa using (hm11.ne hc11).symm); have hM12 := hM11.upd hu12 (hc11.safe _ (by decide)); generalize hE : C.endC.e = E; have HE := Lib.hid hE; clear hE; clear _t tok1_7) | (refine wpList_load_row rfl 29 _ rfl gm rfl _ _ _ _ hm12.1 Try.underlying29 rfl (by rw [hm12.2]; exact msg_size) ?_) | (refine wp_storew rfl 29 _ _ rfl g6 rfl msgZ rfl msgZ 29 hB612 msg_size rfl (by kernel_rfl) ?_; intro w14 hB614 hu14) | (refine wp_storew rfl 29 _ _ rfl g6 rfl cs rfl msgZ 29 hB612 (by rw [hm12.2]; exact msg_size) hm12.2 hM12.one ?_; intro w14 hB614 hu14))
  · have hne : ¬ E = 0 := by simpa using (show (E != 0) = true by assumption)
    refine ret_cell_tmp rfl rfl g6 _ msgZ _ _ rfl hB614 Try.underlying29 rfl msg_size ?_
    obtain rfl := HE.out
    exact finish_bad hne ((hu1.step hU12).fresh1 hu14 hg6)
  · have h0 : E = 0 := by simpa using (show (E != 0) = false by assumption)
    refine ret_cell_tmp rfl rfl g6 _ cs _ _ rfl hB614 Try.underlying29 rfl (by rw [hm12.2]; exact msg_size) ?_
    exact finish_ok (HE.out.trans h0) (hM12.upd hu14 (Safe.one hB612 (by decide))) ((hu1.step hU12).fresh1 hu14 hg6)
set_option maxRecDepth 100000 in
set_option maxHeartbeats 2000000 in
theorem regs_p3_1 {m : Bool} {v : Value} {b : List Int} {w : World} {c : Int} {C : Cur} {M : Msg} (h : RdB m w v b) (hb : b.length ≤ 1048576)
    (hform : ∀ g gm W, CurAt W g ⟨b, false, 0⟩ → MsgB W gm (msgZ.setIfInBounds 0 (.int .u8 c)) → Calls Try.prog 61 #[.int .i64 1, .pointer (some ⟨gm, 0, none⟩), .pointer (some ⟨g, 0, none⟩)] W (PMk 87 (fun W' => PFormG g gm C M W') W)) :
    Calls Try.prog 39 #[.int .i64 1, .int .u8 c, v] w (PMsg (finish M C) w) := by
  have hb0 := build_msg0
  have hb1 := build_msg1 c
  have hnf := eql_fn
  replace hform := Lib.hid hform
  go_enter Try.func39, Try.ntmps39
  have tok2_0 : True := trivial
  have tok2_1 : True := trivial
  have tok2_2 : True := trivial
  have tok2_3 : True := trivial
  have tok2_4 : True := trivial
  have tok2_5 : True := trivial
  have tok2_6 : True := trivial
  have tok2_7 : True := trivial
  go_wp2_with (first | (have _t := tok2_0; refine wp_allocw rfl 29 rfl (.agg msgZ) msgZ_info ?_; intro g6 w1 hg6 hB6 hu1; clear _t tok2_0) | (have _t := tok2_1; refine wp_allocw rfl 29 rfl (.agg msgZ) msgZ_info ?_; intro gm w2 hgm hBm hu2; clear _t tok2_1) | (have _t := tok2_2; refine wp_storew rfl 29 _ _ rfl gm rfl (msgZ.setIfInBounds 0 (.int .u8 c)) rfl msgZ 29 hBm msg_size rfl (by kernel_rfl) ?_; intro w3 hBm3 hu3; have U3 := hu2.fresh1 hu3 hgm; clear _t tok2_2) | (have _t := tok2_3; go_at_call 28; refine (new_any (RdB.old h (hu1.step U3)) (by omega)).mono ?_; rintro e w4 ⟨g, rfl, hg, hc, hu4⟩; have hm4 : MsgB w4 gm _ := MsgB.upd ⟨hBm3, rfl⟩ hu4 (by simp); clear _t tok2_3) | (have _t := tok2_4; go_at_call 61; refine (hform.out g gm _ hc hm4).mono ?_; rintro e w5 ⟨free, rfl, hu5, hcall⟩; replace hcall := Lib.hid hcall; clear _t tok2_4) | (have _t := tok2_5; go_at_call 87; refine hcall.out.mono ?_; rintro e w11 ⟨rfl, hc11, ⟨cs, hm11, hM11⟩, hu11⟩; clear _t tok2_5) | (have _t := tok2_6; go_at_call 58; refine (end_any hc11).mono ?_; rintro e w12 ⟨rfl, hc12, hu12⟩; clear _t tok2_6) | (have _t := tok2_7; go_at_call 59; refine (err_any hc12).mono ?_; rintro e w13 ⟨rfl, rfl⟩; have U10 := (U3.step hu4).step hu5; have hG := U3.size; have hU12 := (U10.fresh2 hu11 (by omega) hgm).fresh1 hu12 (by omega); have hB612 := hU12.blk (by simp) hB6; have hm12 := hm11.upd hu12 (by simpa using (hm11.ne hc11).symm); have hM12 := hM11.upd hu12 (hc11.safe _ (by decide)); generalize hE : C.endC.e = E; have HE := Lib.hid hE; clear hE; clear _t tok2_7) | (refine wpList_load_row rfl 29 _ rfl gm rfl _ _ _ _ hm12.1 Try.underlying29 rfl (by rw [hm12.2]; exact msg_size) ?_) | (refine wp_storew rfl 29 _ _ rfl g6 rfl msgZ rfl msgZ 29 hB612 msg_size rfl (by kernel_rfl) ?_; intro w14 hB614 hu14) | (refine wp_storew rfl 29 _ _ rfl g6 rfl cs rfl msgZ 29 hB612 (by rw [hm12.2]; exact msg_size) hm12.2 hM12.one ?_; intro w14 hB614 hu14))
  · have hne : ¬ E = 0 := by simpa using (show (E != 0) = true by assumption)
    refine ret_cell_tmp rfl rfl g6 _ msgZ _ _ rfl hB614 Try.underlying29 rfl msg_size ?_
    obtain rfl := HE.out
    exact finish_bad hne ((hu1.step hU12).fresh1 hu14 hg6)
  · have h0 : E = 0 := by simpa using (show (E != 0) = false by assumption)
    refine ret_cell_tmp rfl rfl g6 _ cs _ _ rfl hB614 Try.underlying29 rfl (by rw [hm12.2]; exact msg_size) ?_
    exact finish_ok (HE.out.trans h0) (hM12.upd hu14 (Safe.one hB612 (by decide))) ((hu1.step hU12).fresh1 hu14 hg6)
set_option maxRecDepth 100000 in
set_option maxHeartbeats 2000000 in
theorem regs_p4_0 {m : Bool} {v : Value} {b : List Int} {w : World} {c : Int} {C : Cur} {M : Msg} (h : RdB m w v b) (hb : b.length ≤ 1048576)
    (hform : ∀ g gm W, CurAt W g ⟨b, false, 0⟩ → MsgB W gm (msgZ.setIfInBounds 0 (.int .u8 c)) → Calls Try.prog 61 #[.int .i64 0, .pointer (some ⟨gm, 0, none⟩), .pointer (some ⟨g, 0, none⟩)] W (PMk 88 (fun W' => PFormG g gm C M W') W)) :
    Calls Try.prog 39 #[.int .i64 0, .int .u8 c, v] w (PMsg (finish M C) w) := by
  have hb0 := build_msg0
  have hb1 := build_msg1 c
  have hnf := eql_fn
  replace hform := Lib.hid hform
  go_enter Try.func39, Try.ntmps39
  have tok3_0 : True := trivial
  have tok3_1 : True := trivial
  have tok3_2 : True := trivial
  have tok3_3 : True := trivial
  have tok3_4 : True := trivial
  have tok3_5 : True := trivial
  have tok3_6 : True := trivial
  have tok3_7 : True := trivial
  go_wp2_with (first | (have _t := tok3_0; refine wp_allocw rfl 29 rfl (.agg msgZ) msgZ_info ?_; intro g6 w1 hg6 hB6 hu1; clear _t tok3_0) | (have _t := tok3_1; refine wp_allocw rfl 29 rfl (.agg msgZ) msgZ_info ?_; intro gm w2 hgm hBm hu2; clear _t tok3_1) | (have _t := tok3_2; refine wp_storew rfl 29 _ _ rfl gm rfl (msgZ.setIfInBounds 0 (.int .u8 c)) rfl msgZ 29 hBm msg_size rfl (by kernel_rfl) ?_; intro w3 hBm3 hu3; have U3 := hu2.fresh1 hu3 hgm; clear _t tok3_2) | (have _t := tok3_3; go_at_call 28; refine (new_any (RdB.old h (hu1.step U3)) (by omega)).mono ?_; rintro e w4 ⟨g, rfl, hg, hc, hu4⟩; have hm4 : MsgB w4 gm _ := MsgB.upd ⟨hBm3, rfl⟩ hu4 (by simp); clear _t tok3_3) | (have _t := tok3_4; go_at_call 61; refine (hform.out g gm _ hc hm4).mono ?_; rintro e w5 ⟨free, rfl, hu5, hcall⟩; replace hcall := Lib.hid hcall; clear _t tok3_4) | (have _t := tok3_5; go_at_call 88; refine hcall.out.mono ?_; rintro e w11 ⟨rfl, hc11, ⟨cs, hm11, hM11⟩, hu11⟩; clear _t tok3_5) | (have _t := tok3_6; go_at_call 58; refine (end_any hc11).mono ?_; rintro e w12 ⟨rfl, hc12, hu12⟩; clear _t tok3_6) | (have _t := tok3_7; go_at_call 59; refine (err_any hc12).mono ?_; rintro e w13 ⟨rfl, rfl⟩; have U10 := (U3.step hu4).step hu5; have hG := U3.size; have hU12 := (U10.fresh2 hu11 (by omega) hgm).fresh1 hu12 (by omega); have hB612 := hU12.blk (by simp) hB6; have hm12 := hm11.upd hu12 (by simpa using (hm11.ne hc11).symm); have hM12 := hM11.upd hu12 (hc11.safe _ (by decide)); generalize hE : C.endC.e = E; have HE := Lib.hid hE; clear hE; clear _t tok3_7) | (refine wpList_load_row rfl 29 _ rfl gm rfl _ _ _ _ hm12.1 Try.underlying29 rfl (by rw [hm12.2]; exact msg_size) ?_) | (refine wp_storew rfl 29 _ _ rfl g6 rfl msgZ rfl msgZ 29 hB612 msg_size rfl (by kernel_rfl) ?_; intro w14 hB614 hu14) | (refine wp_storew rfl 29 _ _ rfl g6 rfl cs rfl msgZ 29 hB612 (by rw [hm12.2]; exact msg_size) hm12.2 hM12.one ?_; intro w14 hB614 hu14))
  · have hne : ¬ E = 0 := by simpa using (show (E != 0) = true by assumption)
    refine ret_cell_tmp rfl rfl g6 _ msgZ _ _ rfl hB614 Try.underlying29 rfl msg_size ?_
    obtain rfl := HE.out
    exact finish_bad hne ((hu1.step hU12).fresh1 hu14 hg6)
  · have h0 : E = 0 := by simpa using (show (E != 0) = false by assumption)
    refine ret_cell_tmp rfl rfl g6 _ cs _ _ rfl hB614 Try.underlying29 rfl (by rw [hm12.2]; exact msg_size) ?_
    exact finish_ok (HE.out.trans h0) (hM12.upd hu14 (Safe.one hB612 (by decide))) ((hu1.step hU12).fresh1 hu14 hg6)
set_option maxRecDepth 100000 in
set_option maxHeartbeats 2000000 in
theorem regs_p4_1 {m : Bool} {v : Value} {b : List Int} {w : World} {c : Int} {C : Cur} {M : Msg} (h : RdB m w v b) (hb : b.length ≤ 1048576)
    (hform : ∀ g gm W, CurAt W g ⟨b, false, 0⟩ → MsgB W gm (msgZ.setIfInBounds 0 (.int .u8 c)) → Calls Try.prog 61 #[.int .i64 1, .pointer (some ⟨gm, 0, none⟩), .pointer (some ⟨g, 0, none⟩)] W (PMk 88 (fun W' => PFormG g gm C M W') W)) :
    Calls Try.prog 39 #[.int .i64 1, .int .u8 c, v] w (PMsg (finish M C) w) := by
  have hb0 := build_msg0
  have hb1 := build_msg1 c
  have hnf := eql_fn
  replace hform := Lib.hid hform
  go_enter Try.func39, Try.ntmps39
  have tok4_0 : True := trivial
  have tok4_1 : True := trivial
  have tok4_2 : True := trivial
  have tok4_3 : True := trivial
  have tok4_4 : True := trivial
  have tok4_5 : True := trivial
  have tok4_6 : True := trivial
  have tok4_7 : True := trivial
  go_wp2_with (first | (have _t := tok4_0; refine wp_allocw rfl 29 rfl (.agg msgZ) msgZ_info ?_; intro g6 w1 hg6 hB6 hu1; clear _t tok4_0) | (have _t := tok4_1; refine wp_allocw rfl 29 rfl (.agg msgZ) msgZ_info ?_; intro gm w2 hgm hBm hu2; clear _t tok4_1) | (have _t := tok4_2; refine wp_storew rfl 29 _ _ rfl gm rfl (msgZ.setIfInBounds 0 (.int .u8 c)) rfl msgZ 29 hBm msg_size rfl (by kernel_rfl) ?_; intro w3 hBm3 hu3; have U3 := hu2.fresh1 hu3 hgm; clear _t tok4_2) | (have _t := tok4_3; go_at_call 28; refine (new_any (RdB.old h (hu1.step U3)) (by omega)).mono ?_; rintro e w4 ⟨g, rfl, hg, hc, hu4⟩; have hm4 : MsgB w4 gm _ := MsgB.upd ⟨hBm3, rfl⟩ hu4 (by simp); clear _t tok4_3) | (have _t := tok4_4; go_at_call 61; refine (hform.out g gm _ hc hm4).mono ?_; rintro e w5 ⟨free, rfl, hu5, hcall⟩; replace hcall := Lib.hid hcall; clear _t tok4_4) | (have _t := tok4_5; go_at_call 88; refine hcall.out.mono ?_; rintro e w11 ⟨rfl, hc11, ⟨cs, hm11, hM11⟩, hu11⟩; clear _t tok4_5) | (have _t := tok4_6; go_at_call 58; refine (end_any hc11).mono ?_; rintro e w12 ⟨rfl, hc12, hu12⟩; clear _t tok4_6) | (have _t := tok4_7; go_at_call 59; refine (err_any hc12).mono ?_; rintro e w13 ⟨rfl, rfl⟩; have U10 := (U3.step hu4).step hu5; have hG := U3.size; have hU12 := (U10.fresh2 hu11 (by omega) hgm).fresh1 hu12 (by omega); have hB612 := hU12.blk (by simp) hB6; have hm12 := hm11.upd hu12 (by simpa using (hm11.ne hc11).symm); have hM12 := hM11.upd hu12 (hc11.safe _ (by decide)); generalize hE : C.endC.e = E; have HE := Lib.hid hE; clear hE; clear _t tok4_7) | (refine wpList_load_row rfl 29 _ rfl gm rfl _ _ _ _ hm12.1 Try.underlying29 rfl (by rw [hm12.2]; exact msg_size) ?_) | (refine wp_storew rfl 29 _ _ rfl g6 rfl msgZ rfl msgZ 29 hB612 msg_size rfl (by kernel_rfl) ?_; intro w14 hB614 hu14) | (refine wp_storew rfl 29 _ _ rfl g6 rfl cs rfl msgZ 29 hB612 (by rw [hm12.2]; exact msg_size) hm12.2 hM12.one ?_; intro w14 hB614 hu14))
  · have hne : ¬ E = 0 := by simpa using (show (E != 0) = true by assumption)
    refine ret_cell_tmp rfl rfl g6 _ msgZ _ _ rfl hB614 Try.underlying29 rfl msg_size ?_
    obtain rfl := HE.out
    exact finish_bad hne ((hu1.step hU12).fresh1 hu14 hg6)
  · have h0 : E = 0 := by simpa using (show (E != 0) = false by assumption)
    refine ret_cell_tmp rfl rfl g6 _ cs _ _ rfl hB614 Try.underlying29 rfl (by rw [hm12.2]; exact msg_size) ?_
    exact finish_ok (HE.out.trans h0) (hM12.upd hu14 (Safe.one hB612 (by decide))) ((hu1.step hU12).fresh1 hu14 hg6)
set_option maxRecDepth 100000 in
set_option maxHeartbeats 2000000 in
theorem regs_p5_0 {m : Bool} {v : Value} {b : List Int} {w : World} {c : Int} {C : Cur} {M : Msg} (h : RdB m w v b) (hb : b.length ≤ 1048576)
    (hform : ∀ g gm W, CurAt W g ⟨b, false, 0⟩ → MsgB W gm (msgZ.setIfInBounds 0 (.int .u8 c)) → Calls Try.prog 61 #[.int .i64 0, .pointer (some ⟨gm, 0, none⟩), .pointer (some ⟨g, 0, none⟩)] W (PMk 89 (fun W' => PFormG g gm C M W') W)) :
    Calls Try.prog 39 #[.int .i64 0, .int .u8 c, v] w (PMsg (finish M C) w) := by
  have hb0 := build_msg0
  have hb1 := build_msg1 c
  have hnf := eql_fn
  replace hform := Lib.hid hform
  go_enter Try.func39, Try.ntmps39
  have tok5_0 : True := trivial
  have tok5_1 : True := trivial
  have tok5_2 : True := trivial
  have tok5_3 : True := trivial
  have tok5_4 : True := trivial
  have tok5_5 : True := trivial
  have tok5_6 : True := trivial
  have tok5_7 : True := trivial
  go_wp2_with (first | (have _t := tok5_0; refine wp_allocw rfl 29 rfl (.agg msgZ) msgZ_info ?_; intro g6 w1 hg6 hB6 hu1; clear _t tok5_0) | (have _t := tok5_1; refine wp_allocw rfl 29 rfl (.agg msgZ) msgZ_info ?_; intro gm w2 hgm hBm hu2; clear _t tok5_1) | (have _t := tok5_2; refine wp_storew rfl 29 _ _ rfl gm rfl (msgZ.setIfInBounds 0 (.int .u8 c)) rfl msgZ 29 hBm msg_size rfl (by kernel_rfl) ?_; intro w3 hBm3 hu3; have U3 := hu2.fresh1 hu3 hgm; clear _t tok5_2) | (have _t := tok5_3; go_at_call 28; refine (new_any (RdB.old h (hu1.step U3)) (by omega)).mono ?_; rintro e w4 ⟨g, rfl, hg, hc, hu4⟩; have hm4 : MsgB w4 gm _ := MsgB.upd ⟨hBm3, rfl⟩ hu4 (by simp); clear _t tok5_3) | (have _t := tok5_4; go_at_call 61; refine (hform.out g gm _ hc hm4).mono ?_; rintro e w5 ⟨free, rfl, hu5, hcall⟩; replace hcall := Lib.hid hcall; clear _t tok5_4) | (have _t := tok5_5; go_at_call 89; refine hcall.out.mono ?_; rintro e w11 ⟨rfl, hc11, ⟨cs, hm11, hM11⟩, hu11⟩; clear _t tok5_5) | (have _t := tok5_6; go_at_call 58; refine (end_any hc11).mono ?_; rintro e w12 ⟨rfl, hc12, hu12⟩; clear _t tok5_6) | (have _t := tok5_7; go_at_call 59; refine (err_any hc12).mono ?_; rintro e w13 ⟨rfl, rfl⟩; have U10 := (U3.step hu4).step hu5; have hG := U3.size; have hU12 := (U10.fresh2 hu11 (by omega) hgm).fresh1 hu12 (by omega); have hB612 := hU12.blk (by simp) hB6; have hm12 := hm11.upd hu12 (by simpa using (hm11.ne hc11).symm); have hM12 := hM11.upd hu12 (hc11.safe _ (by decide)); generalize hE : C.endC.e = E; have HE := Lib.hid hE; clear hE; clear _t tok5_7) | (refine wpList_load_row rfl 29 _ rfl gm rfl _ _ _ _ hm12.1 Try.underlying29 rfl (by rw [hm12.2]; exact msg_size) ?_) | (refine wp_storew rfl 29 _ _ rfl g6 rfl msgZ rfl msgZ 29 hB612 msg_size rfl (by kernel_rfl) ?_; intro w14 hB614 hu14) | (refine wp_storew rfl 29 _ _ rfl g6 rfl cs rfl msgZ 29 hB612 (by rw [hm12.2]; exact msg_size) hm12.2 hM12.one ?_; intro w14 hB614 hu14))
  · have hne : ¬ E = 0 := by simpa using (show (E != 0) = true by assumption)
    refine ret_cell_tmp rfl rfl g6 _ msgZ _ _ rfl hB614 Try.underlying29 rfl msg_size ?_
    obtain rfl := HE.out
    exact finish_bad hne ((hu1.step hU12).fresh1 hu14 hg6)
  · have h0 : E = 0 := by simpa using (show (E != 0) = false by assumption)
    refine ret_cell_tmp rfl rfl g6 _ cs _ _ rfl hB614 Try.underlying29 rfl (by rw [hm12.2]; exact msg_size) ?_
    exact finish_ok (HE.out.trans h0) (hM12.upd hu14 (Safe.one hB612 (by decide))) ((hu1.step hU12).fresh1 hu14 hg6)
set_option maxRecDepth 100000 in
set_option maxHeartbeats 2000000 in
theorem regs_p5_1 {m : Bool} {v : Value} {b : List Int} {w : World} {c : Int} {C : Cur} {M : Msg} (h : RdB m w v b) (hb : b.length ≤ 1048576)
    (hform : ∀ g gm W, CurAt W g ⟨b, false, 0⟩ → MsgB W gm (msgZ.setIfInBounds 0 (.int .u8 c)) → Calls Try.prog 61 #[.int .i64 1, .pointer (some ⟨gm, 0, none⟩), .pointer (some ⟨g, 0, none⟩)] W (PMk 89 (fun W' => PFormG g gm C M W') W)) :
    Calls Try.prog 39 #[.int .i64 1, .int .u8 c, v] w (PMsg (finish M C) w) := by
  have hb0 := build_msg0
  have hb1 := build_msg1 c
  have hnf := eql_fn
  replace hform := Lib.hid hform
  go_enter Try.func39, Try.ntmps39
  have tok6_0 : True := trivial
  have tok6_1 : True := trivial
  have tok6_2 : True := trivial
  have tok6_3 : True := trivial
  have tok6_4 : True := trivial
  have tok6_5 : True := trivial
  have tok6_6 : True := trivial
  have tok6_7 : True := trivial
  go_wp2_with (first | (have _t := tok6_0; refine wp_allocw rfl 29 rfl (.agg msgZ) msgZ_info ?_; intro g6 w1 hg6 hB6 hu1; clear _t tok6_0) | (have _t := tok6_1; refine wp_allocw rfl 29 rfl (.agg msgZ) msgZ_info ?_; intro gm w2 hgm hBm hu2; clear _t tok6_1) | (have _t := tok6_2; refine wp_storew rfl 29 _ _ rfl gm rfl (msgZ.setIfInBounds 0 (.int .u8 c)) rfl msgZ 29 hBm msg_size rfl (by kernel_rfl) ?_; intro w3 hBm3 hu3; have U3 := hu2.fresh1 hu3 hgm; clear _t tok6_2) | (have _t := tok6_3; go_at_call 28; refine (new_any (RdB.old h (hu1.step U3)) (by omega)).mono ?_; rintro e w4 ⟨g, rfl, hg, hc, hu4⟩; have hm4 : MsgB w4 gm _ := MsgB.upd ⟨hBm3, rfl⟩ hu4 (by simp); clear _t tok6_3) | (have _t := tok6_4; go_at_call 61; refine (hform.out g gm _ hc hm4).mono ?_; rintro e w5 ⟨free, rfl, hu5, hcall⟩; replace hcall := Lib.hid hcall; clear _t tok6_4) | (have _t := tok6_5; go_at_call 89; refine hcall.out.mono ?_; rintro e w11 ⟨rfl, hc11, ⟨cs, hm11, hM11⟩, hu11⟩; clear _t tok6_5) | (have _t := tok6_6; go_at_call 58; refine (end_any hc11).mono ?_; rintro e w12 ⟨rfl, hc12, hu12⟩; clear _t tok6_6) | (have _t := tok6_7; go_at_call 59; refine (err_any hc12).mono ?_; rintro e w13 ⟨rfl, rfl⟩; have U10 := (U3.step hu4).step hu5; have hG := U3.size; have hU12 := (U10.fresh2 hu11 (by omega) hgm).fresh1 hu12 (by omega); have hB612 := hU12.blk (by simp) hB6; have hm12 := hm11.upd hu12 (by simpa using (hm11.ne hc11).symm); have hM12 := hM11.upd hu12 (hc11.safe _ (by decide)); generalize hE : C.endC.e = E; have HE := Lib.hid hE; clear hE; clear _t tok6_7) | (refine wpList_load_row rfl 29 _ rfl gm rfl _ _ _ _ hm12.1 Try.underlying29 rfl (by rw [hm12.2]; exact msg_size) ?_) | (refine wp_storew rfl 29 _ _ rfl g6 rfl msgZ rfl msgZ 29 hB612 msg_size rfl (by kernel_rfl) ?_; intro w14 hB614 hu14) | (refine wp_storew rfl 29 _ _ rfl g6 rfl cs rfl msgZ 29 hB612 (by rw [hm12.2]; exact msg_size) hm12.2 hM12.one ?_; intro w14 hB614 hu14))
  · have hne : ¬ E = 0 := by simpa using (show (E != 0) = true by assumption)
    refine ret_cell_tmp rfl rfl g6 _ msgZ _ _ rfl hB614 Try.underlying29 rfl msg_size ?_
    obtain rfl := HE.out
    exact finish_bad hne ((hu1.step hU12).fresh1 hu14 hg6)
  · have h0 : E = 0 := by simpa using (show (E != 0) = false by assumption)
    refine ret_cell_tmp rfl rfl g6 _ cs _ _ rfl hB614 Try.underlying29 rfl (by rw [hm12.2]; exact msg_size) ?_
    exact finish_ok (HE.out.trans h0) (hM12.upd hu14 (Safe.one hB612 (by decide))) ((hu1.step hU12).fresh1 hu14 hg6)
set_option maxRecDepth 100000 in
set_option maxHeartbeats 2000000 in
theorem regs_p6_0 {m : Bool} {v : Value} {b : List Int} {w : World} {c : Int} {C : Cur} {M : Msg} (h : RdB m w v b) (hb : b.length ≤ 1048576)
    (hform : ∀ g gm W, CurAt W g ⟨b, false, 0⟩ → MsgB W gm (msgZ.setIfInBounds 0 (.int .u8 c)) → Calls Try.prog 61 #[.int .i64 0, .pointer (some ⟨gm, 0, none⟩), .pointer (some ⟨g, 0, none⟩)] W (PMk 91 (fun W' => PFormG g gm C M W') W)) :
    Calls Try.prog 39 #[.int .i64 0, .int .u8 c, v] w (PMsg (finish M C) w) := by
  have hb0 := build_msg0
  have hb1 := build_msg1 c
  have hnf := eql_fn
  replace hform := Lib.hid hform
  go_enter Try.func39, Try.ntmps39
  have tok7_0 : True := trivial
  have tok7_1 : True := trivial
  have tok7_2 : True := trivial
  have tok7_3 : True := trivial
  have tok7_4 : True := trivial
  have tok7_5 : True := trivial
  have tok7_6 : True := trivial
  have tok7_7 : True := trivial
  go_wp2_with (first | (have _t := tok7_0; refine wp_allocw rfl 29 rfl (.agg msgZ) msgZ_info ?_; intro g6 w1 hg6 hB6 hu1; clear _t tok7_0) | (have _t := tok7_1; refine wp_allocw rfl 29 rfl (.agg msgZ) msgZ_info ?_; intro gm w2 hgm hBm hu2; clear _t tok7_1) | (have _t := tok7_2; refine wp_storew rfl 29 _ _ rfl gm rfl (msgZ.setIfInBounds 0 (.int .u8 c)) rfl msgZ 29 hBm msg_size rfl (by kernel_rfl) ?_; intro w3 hBm3 hu3; have U3 := hu2.fresh1 hu3 hgm; clear _t tok7_2) | (have _t := tok7_3; go_at_call 28; refine (new_any (RdB.old h (hu1.step U3)) (by omega)).mono ?_; rintro e w4 ⟨g, rfl, hg, hc, hu4⟩; have hm4 : MsgB w4 gm _ := MsgB.upd ⟨hBm3, rfl⟩ hu4 (by simp); clear _t tok7_3) | (have _t := tok7_4; go_at_call 61; refine (hform.out g gm _ hc hm4).mono ?_; rintro e w5 ⟨free, rfl, hu5, hcall⟩; replace hcall := Lib.hid hcall; clear _t tok7_4) | (have _t := tok7_5; go_at_call 91; refine hcall.out.mono ?_; rintro e w11 ⟨rfl, hc11, ⟨cs, hm11, hM11⟩, hu11⟩; clear _t tok7_5) | (have _t := tok7_6; go_at_call 58; refine (end_any hc11).mono ?_; rintro e w12 ⟨rfl, hc12, hu12⟩; clear _t tok7_6) | (have _t := tok7_7; go_at_call 59; refine (err_any hc12).mono ?_; rintro e w13 ⟨rfl, rfl⟩; have U10 := (U3.step hu4).step hu5; have hG := U3.size; have hU12 := (U10.fresh2 hu11 (by omega) hgm).fresh1 hu12 (by omega); have hB612 := hU12.blk (by simp) hB6; have hm12 := hm11.upd hu12 (by simpa using (hm11.ne hc11).symm); have hM12 := hM11.upd hu12 (hc11.safe _ (by decide)); generalize hE : C.endC.e = E; have HE := Lib.hid hE; clear hE; clear _t tok7_7) | (refine wpList_load_row rfl 29 _ rfl gm rfl _ _ _ _ hm12.1 Try.underlying29 rfl (by rw [hm12.2]; exact msg_size) ?_) | (refine wp_storew rfl 29 _ _ rfl g6 rfl msgZ rfl msgZ 29 hB612 msg_size rfl (by kernel_rfl) ?_; intro w14 hB614 hu14) | (refine wp_storew rfl 29 _ _ rfl g6 rfl cs rfl msgZ 29 hB612 (by rw [hm12.2]; exact msg_size) hm12.2 hM12.one ?_; intro w14 hB614 hu14))
  · have hne : ¬ E = 0 := by simpa using (show (E != 0) = true by assumption)
    refine ret_cell_tmp rfl rfl g6 _ msgZ _ _ rfl hB614 Try.underlying29 rfl msg_size ?_
    obtain rfl := HE.out
    exact finish_bad hne ((hu1.step hU12).fresh1 hu14 hg6)
  · have h0 : E = 0 := by simpa using (show (E != 0) = false by assumption)
    refine ret_cell_tmp rfl rfl g6 _ cs _ _ rfl hB614 Try.underlying29 rfl (by rw [hm12.2]; exact msg_size) ?_
    exact finish_ok (HE.out.trans h0) (hM12.upd hu14 (Safe.one hB612 (by decide))) ((hu1.step hU12).fresh1 hu14 hg6)
set_option maxRecDepth 100000 in
set_option maxHeartbeats 2000000 in
theorem regs_p6_1 {m : Bool} {v : Value} {b : List Int} {w : World} {c : Int} {C : Cur} {M : Msg} (h : RdB m w v b) (hb : b.length ≤ 1048576)
    (hform : ∀ g gm W, CurAt W g ⟨b, false, 0⟩ → MsgB W gm (msgZ.setIfInBounds 0 (.int .u8 c)) → Calls Try.prog 61 #[.int .i64 1, .pointer (some ⟨gm, 0, none⟩), .pointer (some ⟨g, 0, none⟩)] W (PMk 91 (fun W' => PFormG g gm C M W') W)) :
    Calls Try.prog 39 #[.int .i64 1, .int .u8 c, v] w (PMsg (finish M C) w) := by
  have hb0 := build_msg0
  have hb1 := build_msg1 c
  have hnf := eql_fn
  replace hform := Lib.hid hform
  go_enter Try.func39, Try.ntmps39
  have tok8_0 : True := trivial
  have tok8_1 : True := trivial
  have tok8_2 : True := trivial
  have tok8_3 : True := trivial
  have tok8_4 : True := trivial
  have tok8_5 : True := trivial
  have tok8_6 : True := trivial
  have tok8_7 : True := trivial
  go_wp2_with (first | (have _t := tok8_0; refine wp_allocw rfl 29 rfl (.agg msgZ) msgZ_info ?_; intro g6 w1 hg6 hB6 hu1; clear _t tok8_0) | (have _t := tok8_1; refine wp_allocw rfl 29 rfl (.agg msgZ) msgZ_info ?_; intro gm w2 hgm hBm hu2; clear _t tok8_1) | (have _t := tok8_2; refine wp_storew rfl 29 _ _ rfl gm rfl (msgZ.setIfInBounds 0 (.int .u8 c)) rfl msgZ 29 hBm msg_size rfl (by kernel_rfl) ?_; intro w3 hBm3 hu3; have U3 := hu2.fresh1 hu3 hgm; clear _t tok8_2) | (have _t := tok8_3; go_at_call 28; refine (new_any (RdB.old h (hu1.step U3)) (by omega)).mono ?_; rintro e w4 ⟨g, rfl, hg, hc, hu4⟩; have hm4 : MsgB w4 gm _ := MsgB.upd ⟨hBm3, rfl⟩ hu4 (by simp); clear _t tok8_3) | (have _t := tok8_4; go_at_call 61; refine (hform.out g gm _ hc hm4).mono ?_; rintro e w5 ⟨free, rfl, hu5, hcall⟩; replace hcall := Lib.hid hcall; clear _t tok8_4) | (have _t := tok8_5; go_at_call 91; refine hcall.out.mono ?_; rintro e w11 ⟨rfl, hc11, ⟨cs, hm11, hM11⟩, hu11⟩; clear _t tok8_5) | (have _t := tok8_6; go_at_call 58; refine (end_any hc11).mono ?_; rintro e w12 ⟨rfl, hc12, hu12⟩; clear _t tok8_6) | (have _t := tok8_7; go_at_call 59; refine (err_any hc12).mono ?_; rintro e w13 ⟨rfl, rfl⟩; have U10 := (U3.step hu4).step hu5; have hG := U3.size; have hU12 := (U10.fresh2 hu11 (by omega) hgm).fresh1 hu12 (by omega); have hB612 := hU12.blk (by simp) hB6; have hm12 := hm11.upd hu12 (by simpa using (hm11.ne hc11).symm); have hM12 := hM11.upd hu12 (hc11.safe _ (by decide)); generalize hE : C.endC.e = E; have HE := Lib.hid hE; clear hE; clear _t tok8_7) | (refine wpList_load_row rfl 29 _ rfl gm rfl _ _ _ _ hm12.1 Try.underlying29 rfl (by rw [hm12.2]; exact msg_size) ?_) | (refine wp_storew rfl 29 _ _ rfl g6 rfl msgZ rfl msgZ 29 hB612 msg_size rfl (by kernel_rfl) ?_; intro w14 hB614 hu14) | (refine wp_storew rfl 29 _ _ rfl g6 rfl cs rfl msgZ 29 hB612 (by rw [hm12.2]; exact msg_size) hm12.2 hM12.one ?_; intro w14 hB614 hu14))
  · have hne : ¬ E = 0 := by simpa using (show (E != 0) = true by assumption)
    refine ret_cell_tmp rfl rfl g6 _ msgZ _ _ rfl hB614 Try.underlying29 rfl msg_size ?_
    obtain rfl := HE.out
    exact finish_bad hne ((hu1.step hU12).fresh1 hu14 hg6)
  · have h0 : E = 0 := by simpa using (show (E != 0) = false by assumption)
    refine ret_cell_tmp rfl rfl g6 _ cs _ _ rfl hB614 Try.underlying29 rfl (by rw [hm12.2]; exact msg_size) ?_
    exact finish_ok (HE.out.trans h0) (hM12.upd hu14 (Safe.one hB612 (by decide))) ((hu1.step hU12).fresh1 hu14 hg6)
set_option maxRecDepth 100000 in
set_option maxHeartbeats 2000000 in
theorem regs_p7_0 {m : Bool} {v : Value} {b : List Int} {w : World} {c : Int} {C : Cur} {M : Msg} (h : RdB m w v b) (hb : b.length ≤ 1048576)
    (hform : ∀ g gm W, CurAt W g ⟨b, false, 0⟩ → MsgB W gm (msgZ.setIfInBounds 0 (.int .u8 c)) → Calls Try.prog 61 #[.int .i64 0, .pointer (some ⟨gm, 0, none⟩), .pointer (some ⟨g, 0, none⟩)] W (PMk 92 (fun W' => PFormG g gm C M W') W)) :
    Calls Try.prog 39 #[.int .i64 0, .int .u8 c, v] w (PMsg (finish M C) w) := by
  have hb0 := build_msg0
  have hb1 := build_msg1 c
  have hnf := eql_fn
  replace hform := Lib.hid hform
  go_enter Try.func39, Try.ntmps39
  have tok9_0 : True := trivial
  have tok9_1 : True := trivial
  have tok9_2 : True := trivial
  have tok9_3 : True := trivial
  have tok9_4 : True := trivial
  have tok9_5 : True := trivial
  have tok9_6 : True := trivial
  have tok9_7 : True := trivial
  go_wp2_with (first | (have _t := tok9_0; refine wp_allocw rfl 29 rfl (.agg msgZ) msgZ_info ?_; intro g6 w1 hg6 hB6 hu1; clear _t tok9_0) | (have _t := tok9_1; refine wp_allocw rfl 29 rfl (.agg msgZ) msgZ_info ?_; intro gm w2 hgm hBm hu2; clear _t tok9_1) | (have _t := tok9_2; refine wp_storew rfl 29 _ _ rfl gm rfl (msgZ.setIfInBounds 0 (.int .u8 c)) rfl msgZ 29 hBm msg_size rfl (by kernel_rfl) ?_; intro w3 hBm3 hu3; have U3 := hu2.fresh1 hu3 hgm; clear _t tok9_2) | (have _t := tok9_3; go_at_call 28; refine (new_any (RdB.old h (hu1.step U3)) (by omega)).mono ?_; rintro e w4 ⟨g, rfl, hg, hc, hu4⟩; have hm4 : MsgB w4 gm _ := MsgB.upd ⟨hBm3, rfl⟩ hu4 (by simp); clear _t tok9_3) | (have _t := tok9_4; go_at_call 61; refine (hform.out g gm _ hc hm4).mono ?_; rintro e w5 ⟨free, rfl, hu5, hcall⟩; replace hcall := Lib.hid hcall; clear _t tok9_4) | (have _t := tok9_5; go_at_call 92; refine hcall.out.mono ?_; rintro e w11 ⟨rfl, hc11, ⟨cs, hm11, hM11⟩, hu11⟩; clear _t tok9_5) | (have _t := tok9_6; go_at_call 58; refine (end_any hc11).mono ?_; rintro e w12 ⟨rfl, hc12, hu12⟩; clear _t tok9_6) | (have _t := tok9_7; go_at_call 59; refine (err_any hc12).mono ?_; rintro e w13 ⟨rfl, rfl⟩; have U10 := (U3.step hu4).step hu5; have hG := U3.size; have hU12 := (U10.fresh2 hu11 (by omega) hgm).fresh1 hu12 (by omega); have hB612 := hU12.blk (by simp) hB6; have hm12 := hm11.upd hu12 (by simpa using (hm11.ne hc11).symm); have hM12 := hM11.upd hu12 (hc11.safe _ (by decide)); generalize hE : C.endC.e = E; have HE := Lib.hid hE; clear hE; clear _t tok9_7) | (refine wpList_load_row rfl 29 _ rfl gm rfl _ _ _ _ hm12.1 Try.underlying29 rfl (by rw [hm12.2]; exact msg_size) ?_) | (refine wp_storew rfl 29 _ _ rfl g6 rfl msgZ rfl msgZ 29 hB612 msg_size rfl (by kernel_rfl) ?_; intro w14 hB614 hu14) | (refine wp_storew rfl 29 _ _ rfl g6 rfl cs rfl msgZ 29 hB612 (by rw [hm12.2]; exact msg_size) hm12.2 hM12.one ?_; intro w14 hB614 hu14))
  · have hne : ¬ E = 0 := by simpa using (show (E != 0) = true by assumption)
    refine ret_cell_tmp rfl rfl g6 _ msgZ _ _ rfl hB614 Try.underlying29 rfl msg_size ?_
    obtain rfl := HE.out
    exact finish_bad hne ((hu1.step hU12).fresh1 hu14 hg6)
  · have h0 : E = 0 := by simpa using (show (E != 0) = false by assumption)
    refine ret_cell_tmp rfl rfl g6 _ cs _ _ rfl hB614 Try.underlying29 rfl (by rw [hm12.2]; exact msg_size) ?_
    exact finish_ok (HE.out.trans h0) (hM12.upd hu14 (Safe.one hB612 (by decide))) ((hu1.step hU12).fresh1 hu14 hg6)
set_option maxRecDepth 100000 in
set_option maxHeartbeats 2000000 in
theorem regs_p8_0 {m : Bool} {v : Value} {b : List Int} {w : World} {c : Int} {C : Cur} {M : Msg} (h : RdB m w v b) (hb : b.length ≤ 1048576)
    (hform : ∀ g gm W, CurAt W g ⟨b, false, 0⟩ → MsgB W gm (msgZ.setIfInBounds 0 (.int .u8 c)) → Calls Try.prog 61 #[.int .i64 0, .pointer (some ⟨gm, 0, none⟩), .pointer (some ⟨g, 0, none⟩)] W (PMk 93 (fun W' => PFormG g gm C M W') W)) :
    Calls Try.prog 39 #[.int .i64 0, .int .u8 c, v] w (PMsg (finish M C) w) := by
  have hb0 := build_msg0
  have hb1 := build_msg1 c
  have hnf := eql_fn
  replace hform := Lib.hid hform
  go_enter Try.func39, Try.ntmps39
  have tok10_0 : True := trivial
  have tok10_1 : True := trivial
  have tok10_2 : True := trivial
  have tok10_3 : True := trivial
  have tok10_4 : True := trivial
  have tok10_5 : True := trivial
  have tok10_6 : True := trivial
  have tok10_7 : True := trivial
  go_wp2_with (first | (have _t := tok10_0; refine wp_allocw rfl 29 rfl (.agg msgZ) msgZ_info ?_; intro g6 w1 hg6 hB6 hu1; clear _t tok10_0) | (have _t := tok10_1; refine wp_allocw rfl 29 rfl (.agg msgZ) msgZ_info ?_; intro gm w2 hgm hBm hu2; clear _t tok10_1) | (have _t := tok10_2; refine wp_storew rfl 29 _ _ rfl gm rfl (msgZ.setIfInBounds 0 (.int .u8 c)) rfl msgZ 29 hBm msg_size rfl (by kernel_rfl) ?_; intro w3 hBm3 hu3; have U3 := hu2.fresh1 hu3 hgm; clear _t tok10_2) | (have _t := tok10_3; go_at_call 28; refine (new_any (RdB.old h (hu1.step U3)) (by omega)).mono ?_; rintro e w4 ⟨g, rfl, hg, hc, hu4⟩; have hm4 : MsgB w4 gm _ := MsgB.upd ⟨hBm3, rfl⟩ hu4 (by simp); clear _t tok10_3) | (have _t := tok10_4; go_at_call 61; refine (hform.out g gm _ hc hm4).mono ?_; rintro e w5 ⟨free, rfl, hu5, hcall⟩; replace hcall := Lib.hid hcall; clear _t tok10_4) | (have _t := tok10_5; go_at_call 93; refine hcall.out.mono ?_; rintro e w11 ⟨rfl, hc11, ⟨cs, hm11, hM11⟩, hu11⟩; clear _t tok10_5) | (have _t := tok10_6; go_at_call 58; refine (end_any hc11).mono ?_; rintro e w12 ⟨rfl, hc12, hu12⟩; clear _t tok10_6) | (have _t := tok10_7; go_at_call 59; refine (err_any hc12).mono ?_; rintro e w13 ⟨rfl, rfl⟩; have U10 := (U3.step hu4).step hu5; have hG := U3.size; have hU12 := (U10.fresh2 hu11 (by omega) hgm).fresh1 hu12 (by omega); have hB612 := hU12.blk (by simp) hB6; have hm12 := hm11.upd hu12 (by simpa using (hm11.ne hc11).symm); have hM12 := hM11.upd hu12 (hc11.safe _ (by decide)); generalize hE : C.endC.e = E; have HE := Lib.hid hE; clear hE; clear _t tok10_7) | (refine wpList_load_row rfl 29 _ rfl gm rfl _ _ _ _ hm12.1 Try.underlying29 rfl (by rw [hm12.2]; exact msg_size) ?_) | (refine wp_storew rfl 29 _ _ rfl g6 rfl msgZ rfl msgZ 29 hB612 msg_size rfl (by kernel_rfl) ?_; intro w14 hB614 hu14) | (refine wp_storew rfl 29 _ _ rfl g6 rfl cs rfl msgZ 29 hB612 (by rw [hm12.2]; exact msg_size) hm12.2 hM12.one ?_; intro w14 hB614 hu14))
  · have hne : ¬ E = 0 := by simpa using (show (E != 0) = true by assumption)
    refine ret_cell_tmp rfl rfl g6 _ msgZ _ _ rfl hB614 Try.underlying29 rfl msg_size ?_
    obtain rfl := HE.out
    exact finish_bad hne ((hu1.step hU12).fresh1 hu14 hg6)
  · have h0 : E = 0 := by simpa using (show (E != 0) = false by assumption)
    refine ret_cell_tmp rfl rfl g6 _ cs _ _ rfl hB614 Try.underlying29 rfl (by rw [hm12.2]; exact msg_size) ?_
    exact finish_ok (HE.out.trans h0) (hM12.upd hu14 (Safe.one hB612 (by decide))) ((hu1.step hU12).fresh1 hu14 hg6)
set_option maxRecDepth 100000 in
set_option maxHeartbeats 2000000 in
theorem regs_p9_1 {m : Bool} {v : Value} {b : List Int} {w : World} {c : Int} {C : Cur} {M : Msg} (h : RdB m w v b) (hb : b.length ≤ 1048576)
    (hform : ∀ g gm W, CurAt W g ⟨b, false, 0⟩ → MsgB W gm (msgZ.setIfInBounds 0 (.int .u8 c)) → Calls Try.prog 61 #[.int .i64 1, .pointer (some ⟨gm, 0, none⟩), .pointer (some ⟨g, 0, none⟩)] W (PMk 94 (fun W' => PFormG g gm C M W') W)) :
    Calls Try.prog 39 #[.int .i64 1, .int .u8 c, v] w (PMsg (finish M C) w) := by
  have hb0 := build_msg0
  have hb1 := build_msg1 c
  have hnf := eql_fn
  replace hform := Lib.hid hform
  go_enter Try.func39, Try.ntmps39
  have tok11_0 : True := trivial
  have tok11_1 : True := trivial
  have tok11_2 : True := trivial
  have tok11_3 : True := trivial
  have tok11_4 : True := trivial
  have tok11_5 : True := trivial
  have tok11_6 : True := trivial
  have tok11_7 : True := trivial
  go_wp2_with (first | (have _t := tok11_0; refine wp_allocw rfl 29 rfl (.agg msgZ) msgZ_info ?_; intro g6 w1 hg6 hB6 hu1; clear _t tok11_0) | (have _t := tok11_1; refine wp_allocw rfl 29 rfl (.agg msgZ) msgZ_info ?_; intro gm w2 hgm hBm hu2; clear _t tok11_1) | (have _t := tok11_2; refine wp_storew rfl 29 _ _ rfl gm rfl (msgZ.setIfInBounds 0 (.int .u8 c)) rfl msgZ 29 hBm msg_size rfl (by kernel_rfl) ?_; intro w3 hBm3 hu3; have U3 := hu2.fresh1 hu3 hgm; clear _t tok11_2) | (have _t := tok11_3; go_at_call 28; refine (new_any (RdB.old h (hu1.step U3)) (by omega)).mono ?_; rintro e w4 ⟨g, rfl, hg, hc, hu4⟩; have hm4 : MsgB w4 gm _ := MsgB.upd ⟨hBm3, rfl⟩ hu4 (by simp); clear _t tok11_3) | (have _t := tok11_4; go_at_call 61; refine (hform.out g gm _ hc hm4).mono ?_; rintro e w5 ⟨free, rfl, hu5, hcall⟩; replace hcall := Lib.hid hcall; clear _t tok11_4) | (have _t := tok11_5; go_at_call 94; refine hcall.out.mono ?_; rintro e w11 ⟨rfl, hc11, ⟨cs, hm11, hM11⟩, hu11⟩; clear _t tok11_5) | (have _t := tok11_6; go_at_call 58; refine (end_any hc11).mono ?_; rintro e w12 ⟨rfl, hc12, hu12⟩; clear _t tok11_6) | (have _t := tok11_7; go_at_call 59; refine (err_any hc12).mono ?_; rintro e w13 ⟨rfl, rfl⟩; have U10 := (U3.step hu4).step hu5; have hG := U3.size; have hU12 := (U10.fresh2 hu11 (by omega) hgm).fresh1 hu12 (by omega); have hB612 := hU12.blk (by simp) hB6; have hm12 := hm11.upd hu12 (by simpa using (hm11.ne hc11).symm); have hM12 := hM11.upd hu12 (hc11.safe _ (by decide)); generalize hE : C.endC.e = E; have HE := Lib.hid hE; clear hE; clear _t tok11_7) | (refine wpList_load_row rfl 29 _ rfl gm rfl _ _ _ _ hm12.1 Try.underlying29 rfl (by rw [hm12.2]; exact msg_size) ?_) | (refine wp_storew rfl 29 _ _ rfl g6 rfl msgZ rfl msgZ 29 hB612 msg_size rfl (by kernel_rfl) ?_; intro w14 hB614 hu14) | (refine wp_storew rfl 29 _ _ rfl g6 rfl cs rfl msgZ 29 hB612 (by rw [hm12.2]; exact msg_size) hm12.2 hM12.one ?_; intro w14 hB614 hu14))
  · have hne : ¬ E = 0 := by simpa using (show (E != 0) = true by assumption)
    refine ret_cell_tmp rfl rfl g6 _ msgZ _ _ rfl hB614 Try.underlying29 rfl msg_size ?_
    obtain rfl := HE.out
    exact finish_bad hne ((hu1.step hU12).fresh1 hu14 hg6)
  · have h0 : E = 0 := by simpa using (show (E != 0) = false by assumption)
    refine ret_cell_tmp rfl rfl g6 _ cs _ _ rfl hB614 Try.underlying29 rfl (by rw [hm12.2]; exact msg_size) ?_
    exact finish_ok (HE.out.trans h0) (hM12.upd hu14 (Safe.one hB612 (by decide))) ((hu1.step hU12).fresh1 hu14 hg6)
set_option maxRecDepth 100000 in
set_option maxHeartbeats 2000000 in
theorem regsNil0 {g gm : Nat} {k : Cur} {cs : Array Value} {w : World} {c : Int} (n3 : (c == 3) = false) (n4 : (c == 4) = false) (n6 : (c == 6) = false) (n16 : (c == 16) = false) (n22 : (c == 22) = false) (n23 : (c == 23) = false) (n24 : (c == 24) = false) (hc : CurAt w g k) (hm : MsgB w gm cs) (h0 : cs.getD 0 undef = .int .u8 c) :
    Calls Try.prog 61 #[.int .i64 0, .pointer (some ⟨gm, 0, none⟩), .pointer (some ⟨g, 0, none⟩)] w (PVal .nilFunc w) := by
  have hlt := hc.lt
  have hml := hm.lt
  have k0 := hm.cellv 0 (by decide) h0
  go_enter Try.func61, Try.ntmps61
  have tok1_0 : True := trivial
  have tok1_1 : True := trivial
  have tok1_2 : True := trivial
  have tok1_3 : True := trivial
  have tok1_4 : True := trivial
  have tok1_5 : True := trivial
  go_wp2_with (first | (have _t := tok1_0; refine wp_boxw rfl 89 _ rfl (.pointer (some ⟨gm, 0, none⟩)) rfl ?_; intro bm w1 hbm hB1 hu1; clear _t tok1_0) | (have _t := tok1_1; refine wp_boxw rfl 69 _ rfl (.pointer (some ⟨g, 0, none⟩)) rfl ?_; intro bc w2 hbc hB2 hu2; clear _t tok1_1) | (have _t := tok1_2; refine wp_allocw rfl 123 rfl _ fn_zero ?_; intro bw w3 hbw hB3 hu3; clear _t tok1_2) | (have _t := tok1_3; refine wp_store1 rfl 123 _ _ rfl bw rfl (.func (.func 84) #[] #[.pointer (some ⟨bc, 0, none⟩), .pointer (some ⟨bm, 0, none⟩)]) rfl rfl _ _ hB3 fn_size rfl rfl ?_; intro w4 hB4 hu4; have U4 := hu3.fresh1 hu4 hbw; clear _t tok1_3) | (have _t := tok1_4; refine wp_allocw rfl 4 rfl _ bool_zero ?_; intro ba w5 hba hB5 hu5; clear _t tok1_4) | (have _t := tok1_5; refine wp_store1 rfl 4 _ _ rfl ba rfl (.bool true) rfl rfl _ _ hB5 bool_size rfl rfl ?_; intro w6 hB6 hu6; have U6 := hu5.fresh1 hu6 hba; have hb4 := U6.blk (by simp) hB4; have V4 := hu2.step (U4.step U6); have hb1 := (U4.step U6).blk (by simp) (hu2.blk (by simp) hB1); have hb2 := (U4.step U6).blk (by simp) hB2; have V := hu1.step V4; have q0 : w6.cell? ⟨bm, 0, none⟩ = some (.pointer (some ⟨gm, 0, none⟩)) := (blk_cell hb1 0).trans rfl; have q1 : w6.cell? ⟨bc, 0, none⟩ = some (.pointer (some ⟨g, 0, none⟩)) := (blk_cell hb2 0).trans rfl; have q2 : w6.cell? ⟨bw, 0, none⟩ = some (.func (.func 84) #[] #[.pointer (some ⟨bc, 0, none⟩), .pointer (some ⟨bm, 0, none⟩)]) := (blk_cell hb4 0).trans rfl; have q3 : w6.cell? ⟨ba, 0, none⟩ = some (.bool true) := (blk_cell hB6 0).trans rfl; have q4 := V.cell (by simp) k0; have z1 := hu1.size; have z2 := hu2.size; have z3 := U4.size; clear _t tok1_5))
  go_ret
  exact ⟨rfl, V⟩
set_option maxRecDepth 100000 in
set_option maxHeartbeats 2000000 in
theorem regsNil1 {g gm : Nat} {k : Cur} {cs : Array Value} {w : World} {c : Int} (n3 : (c == 3) = false) (n4 : (c == 4) = false) (n6 : (c == 6) = false) (n16 : (c == 16) = false) (n22 : (c == 22) = false) (n23 : (c == 23) = false) (n24 : (c == 24) = false) (hc : CurAt w g k) (hm : MsgB w gm cs) (h0 : cs.getD 0 undef = .int .u8 c) :
    Calls Try.prog 61 #[.int .i64 1, .pointer (some ⟨gm, 0, none⟩), .pointer (some ⟨g, 0, none⟩)] w (PVal .nilFunc w) := by
  have hlt := hc.lt
  have hml := hm.lt
  have k0 := hm.cellv 0 (by decide) h0
  go_enter Try.func61, Try.ntmps61
  have tok2_0 : True := trivial
  have tok2_1 : True := trivial
  have tok2_2 : True := trivial
  have tok2_3 : True := trivial
  have tok2_4 : True := trivial
  have tok2_5 : True := trivial
  go_wp2_with (first | (have _t := tok2_0; refine wp_boxw rfl 89 _ rfl (.pointer (some ⟨gm, 0, none⟩)) rfl ?_; intro bm w1 hbm hB1 hu1; clear _t tok2_0) | (have _t := tok2_1; refine wp_boxw rfl 69 _ rfl (.pointer (some ⟨g, 0, none⟩)) rfl ?_; intro bc w2 hbc hB2 hu2; clear _t tok2_1) | (have _t := tok2_2; refine wp_allocw rfl 123 rfl _ fn_zero ?_; intro bw w3 hbw hB3 hu3; clear _t tok2_2) | (have _t := tok2_3; refine wp_store1 rfl 123 _ _ rfl bw rfl (.func (.func 84) #[] #[.pointer (some ⟨bc, 0, none⟩), .pointer (some ⟨bm, 0, none⟩)]) rfl rfl _ _ hB3 fn_size rfl rfl ?_; intro w4 hB4 hu4; have U4 := hu3.fresh1 hu4 hbw; clear _t tok2_3) | (have _t := tok2_4; refine wp_allocw rfl 4 rfl _ bool_zero ?_; intro ba w5 hba hB5 hu5; clear _t tok2_4) | (have _t := tok2_5; refine wp_store1 rfl 4 _ _ rfl ba rfl (.bool false) rfl rfl _ _ hB5 bool_size rfl rfl ?_; intro w6 hB6 hu6; have U6 := hu5.fresh1 hu6 hba; have hb4 := U6.blk (by simp) hB4; have V4 := hu2.step (U4.step U6); have hb1 := (U4.step U6).blk (by simp) (hu2.blk (by simp) hB1); have hb2 := (U4.step U6).blk (by simp) hB2; have V := hu1.step V4; have q0 : w6.cell? ⟨bm, 0, none⟩ = some (.pointer (some ⟨gm, 0, none⟩)) := (blk_cell hb1 0).trans rfl; have q1 : w6.cell? ⟨bc, 0, none⟩ = some (.pointer (some ⟨g, 0, none⟩)) := (blk_cell hb2 0).trans rfl; have q2 : w6.cell? ⟨bw, 0, none⟩ = some (.func (.func 84) #[] #[.pointer (some ⟨bc, 0, none⟩), .pointer (some ⟨bm, 0, none⟩)]) := (blk_cell hb4 0).trans rfl; have q3 : w6.cell? ⟨ba, 0, none⟩ = some (.bool false) := (blk_cell hB6 0).trans rfl; have q4 := V.cell (by simp) k0; have z1 := hu1.size; have z2 := hu2.size; have z3 := U4.size; clear _t tok2_5))
  go_ret
  exact ⟨rfl, V⟩
set_option maxRecDepth 100000 in
set_option maxHeartbeats 4000000 in
theorem regs_no_0 {m : Bool} {A : Option Addr} {cp : Nat} {b : List Int} {w : World} {c : Int} (hsl : RdB m w (.slice A b.length cp) b) (hb : b.length ≤ 1048576) (n3 : (c == 3) = false) (n4 : (c == 4) = false) (n6 : (c == 6) = false) (n16 : (c == 16) = false) (n22 : (c == 22) = false) (n23 : (c == 23) = false) (n24 : (c == 24) = false) :
    Calls Try.prog 39 #[.int .i64 0, .int .u8 c, .slice A b.length cp] w (PMsg (Msg.zero, 4) w) := by
 have hln : (b.length : Int) ≤ 1048576 := by omega
 refine en 40 Try.func39 rfl <| sg <| L0 <| Oal mZ fun g10 w11 hg12 B13 hu14 => Pl 1 <| nt <| sq <| sg <| Pl 6 <| nt <| c0 <| ?_
 refine skn <| sg <| Pl 2 <| L0 <| Oal mZ fun g15 w16 hg17 B18 hu19 => L0 <| Osw B18 (mC c) fun w20 B21 hu22 => ng <| Pl 1 <| ?_
 have U23 := ut0 hu14 hu19
 have U24 := u1 U23 hu22 (ni hu14.size hg17)
 have r25 := RdB.old hsl U24
 refine L0 <| Oc <| e3 (new_any r25 (by omega)) fun g27 w26 hg28 hc29 hu30 => Pl 1 <| ng <| Pl 2 <| ?_
 have r33 := ub hu30 B21
 refine L0 <| Oc <| m1 (regsNil0 n3 n4 n6 n16 n22 n23 n24 hc29 ⟨r33, rfl⟩ rfl) fun w31 hu32 => Pl 1 <| nt <| sq <| sg <| Pl 2 <| nt <| c1 <| sg <| Pl 1 <| ?_
 have U34 := u1 hu19 hu22 (nr hg17)
 have U35 := ut0 U34 hu30
 have U36 := ut0 U35 hu32
 have r37 := ub U36 B13
 refine L0 <| Osw r37 mZ fun w38 B39 hu40 => Pl 1 <| nt <| rt <| tr <| rct B39 (.int .i64 4) <| ?_
 have U41 := ut0 U24 hu30
 have U42 := ut0 U41 hu32
 have U43 := u1 U42 hu40 (nr hg12)
 exact bad_res U43
set_option maxRecDepth 100000 in
set_option maxHeartbeats 4000000 in
theorem regs_no_1 {m : Bool} {A : Option Addr} {cp : Nat} {b : List Int} {w : World} {c : Int} (hsl : RdB m w (.slice A b.length cp) b) (hb : b.length ≤ 1048576) (n3 : (c == 3) = false) (n4 : (c == 4) = false) (n6 : (c == 6) = false) (n16 : (c == 16) = false) (n22 : (c == 22) = false) (n23 : (c == 23) = false) (n24 : (c == 24) = false) :
    Calls Try.prog 39 #[.int .i64 1, .int .u8 c, .slice A b.length cp] w (PMsg (Msg.zero, 4) w) := by
 have hln : (b.length : Int) ≤ 1048576 := by omega
 refine en 40 Try.func39 rfl <| sg <| L0 <| Oal mZ fun g10 w11 hg12 B13 hu14 => Pl 1 <| nt <| sq <| sg <| Pl 6 <| nt <| c0 <| ?_
 refine skn <| sg <| Pl 2 <| L0 <| Oal mZ fun g15 w16 hg17 B18 hu19 => L0 <| Osw B18 (mC c) fun w20 B21 hu22 => ng <| Pl 1 <| ?_
 have U23 := ut0 hu14 hu19
 have U24 := u1 U23 hu22 (ni hu14.size hg17)
 have r25 := RdB.old hsl U24
 refine L0 <| Oc <| e3 (new_any r25 (by omega)) fun g27 w26 hg28 hc29 hu30 => Pl 1 <| ng <| Pl 2 <| ?_
 have r33 := ub hu30 B21
 refine L0 <| Oc <| m1 (regsNil1 n3 n4 n6 n16 n22 n23 n24 hc29 ⟨r33, rfl⟩ rfl) fun w31 hu32 => Pl 1 <| nt <| sq <| sg <| Pl 2 <| nt <| c1 <| sg <| Pl 1 <| ?_
 have U34 := u1 hu19 hu22 (nr hg17)
 have U35 := ut0 U34 hu30
 have U36 := ut0 U35 hu32
 have r37 := ub U36 B13
 refine L0 <| Osw r37 mZ fun w38 B39 hu40 => Pl 1 <| nt <| rt <| tr <| rct B39 (.int .i64 4) <| ?_
 have U41 := ut0 U24 hu30
 have U42 := ut0 U41 hu32
 have U43 := u1 U42 hu40 (nr hg12)
 exact bad_res U43
set_option maxRecDepth 100000 in
set_option maxHeartbeats 4000000 in
theorem regs_no_x {m : Bool} {A : Option Addr} {cp : Nat} {b : List Int} {w : World} {dir c : Int} (hsl : RdB m w (.slice A b.length cp) b) (hb : b.length ≤ 1048576) (hd : ¬ (dir = 0 ∨ dir = 1)) :
    Calls Try.prog 39 #[.int .i64 dir, .int .u8 c, .slice A b.length cp] w (PMsg (Msg.zero, 1) w) := by
 have hln : (b.length : Int) ≤ 1048576 := by omega
 have e0 : (dir != 0) = true := by simp; omega
 have e1 : (dir != 1) = true := by simp; omega
 refine en 40 Try.func39 rfl <| sg <| L0 <| Oal mZ fun g10 w11 hg12 B13 hu14 => Pl 1 <| nt <| sq <| sg <| Pl 3 <| sy 14 e0 <| Pl 3 <| nl <| ?_
 refine tn <| ct e1 <| sg <| Pl 1 <| L0 <| Osw B13 mZ fun w15 B16 hu17 => Pl 1 <| nt <| rt <| tr <| rct B16 (.int .i64 1) <| ?_
 have U18 := u1 hu14 hu17 (nr hg12)
 exact bad_res U18
def told3 (C : Cur) : Cur := (C.bytesC 1).need (evenIn C.byteV 250) 5
def both1 (C : Cur) : Cur := (spanC C 125).wordsC 1
def both2 (C : Cur) : Cur := rspanC (both1 C) (spanC C 125).wordV 121
def regsForm (dir c : Int) (C : Cur) : Option (Cur × Msg) :=
  if c = 3 ∨ c = 4 then
    if dir = 0 then some (spanC C 125, { Msg.zero with code := c, addr := C.wordV, count := (C.wordsC 1).wordV })
    else some ((told3 C).wordsC (C.byteV / 2), { Msg.zero with code := c, words := (told3 C).wordsR (C.byteV / 2) })
  else if c = 6 then some ((C.wordsC 1).wordsC 1, { Msg.zero with code := c, addr := C.wordV, value := (C.wordsC 1).wordV })
  else if c = 16 then
    if dir = 0 then some ((countedC1 (spanC C 123) (C.wordsC 1).wordV).wordsC (C.wordsC 1).wordV, { Msg.zero with code := c, addr := C.wordV, count := (C.wordsC 1).wordV, words := (countedC1 (spanC C 123) (C.wordsC 1).wordV).wordsR (C.wordsC 1).wordV })
    else some (spanC C 123, { Msg.zero with code := c, addr := C.wordV, count := (C.wordsC 1).wordV })
  else if c = 22 then some (((C.wordsC 1).wordsC 1).wordsC 1, { Msg.zero with code := c, addr := C.wordV, and_ := (C.wordsC 1).wordV, or_ := ((C.wordsC 1).wordsC 1).wordV })
  else if c = 23 then
    if dir = 0 then some ((countedC1 (both2 C) (both1 C).wordV).wordsC (both1 C).wordV, { Msg.zero with code := c, addr := C.wordV, count := (C.wordsC 1).wordV, addr2 := (spanC C 125).wordV, words := (countedC1 (both2 C) (both1 C).wordV).wordsR (both1 C).wordV })
    else some ((told3 C).wordsC (C.byteV / 2), { Msg.zero with code := c, words := (told3 C).wordsR (C.byteV / 2) })
  else if c = 24 then
    if dir = 0 then some (C.wordsC 1, { Msg.zero with code := c, addr := C.wordV })
    else some ((q2C C).wordsC (q1C C).wordV, { Msg.zero with code := c, words := (q2C C).wordsR (q1C C).wordV })
  else none
theorem spanC_rng {c : Cur} (h : ∀ x, x ∈ c.l → 0 ≤ x ∧ x < 256) (most : Int) : ∀ x, x ∈ (spanC c most).l → 0 ≤ x ∧ x < 256 := by
  unfold spanC spanC1
  rw [need_l, need_l]
  exact wordsC_rng (wordsC_rng h 1) 1
theorem g_words {g gm : Nat} {C' : Cur} {cs : Array Value} {l : List Int} {M : Msg} {F : FuncId} {args : Array Value} {W : World} (hcs : ∀ v, ((cs.setIfInBounds 12 v)).toList = msgCells M v nilS nilS nilS nilS)
    (h1 : M.words = l) (h2 : M.bits = []) (h3 : M.data = []) (h4 : M.recs = []) (h5 : M.objects = []) (hR : MsgRng M) (h : Calls Try.prog F args W (PFormW g gm C' cs l W)) : Calls Try.prog F args W (PFormG g gm C' M W) := by
  refine h.mono ?_
  rintro e w' ⟨v, rfl, p1, p2, p3, p4⟩
  refine ⟨rfl, p1, ⟨_, p2, v, nilS, nilS, nilS, nilS, hcs v, by rw [h1]; exact p3, ?_, ?_, ?_, ?_, hR⟩, p4⟩
  · rw [h2]; exact RdG.nil ..
  · rw [h3]; exact RdG.nil ..
  · rw [h4]; exact RdG.nil ..
  · rw [h5]; exact RdG.nil ..
theorem g_plain {g gm : Nat} {C' : Cur} {cs : Array Value} {M : Msg} {F : FuncId} {args : Array Value} {W : World} (hcs : cs.toList = msgCells M nilS nilS nilS nilS nilS)
    (h1 : M.words = []) (h2 : M.bits = []) (h3 : M.data = []) (h4 : M.recs = []) (h5 : M.objects = []) (hR : MsgRng M) (h : Calls Try.prog F args W (PForm g gm C' cs W)) : Calls Try.prog F args W (PFormG g gm C' M W) := by
  refine h.mono ?_
  rintro e w' ⟨rfl, p1, p2, p3⟩
  exact ⟨rfl, p1, ⟨_, p2, msgRd_of hcs h1 h2 h3 h4 h5 hR⟩, p3⟩
theorem msg0_code (c : Int) : (msgZ.setIfInBounds 0 (.int .u8 c)).getD 0 undef = .int .u8 c := rfl
set_option maxRecDepth 100000 in
set_option maxHeartbeats 4000000 in
theorem regs_parse {m : Bool} {v : Value} {b : List Int} {w : World} {dir c : Int} (hc : B8 c) (h : RdB m w v b) (hb : b.length ≤ 1048576) :
    Calls Try.prog 39 #[.int .i64 dir, .int .u8 c, v] w (PMsg (parseOf regsForm dir c b) w) := by
  unfold parseOf
  by_cases hd : dir = 0 ∨ dir = 1
  case neg =>
    rw [if_neg hd]
    obtain ⟨A, cp, rfl, _, _⟩ := h.shape
    exact regs_no_x h hb hd
  rw [if_pos hd]
  unfold regsForm
  by_cases h1 : c = 3 ∨ c = 4
  · simp only [if_pos h1]
    rcases hd with rfl | rfl
    · rw [if_pos rfl]; exact regs_p2_0 h hb fun g gm W hC hm => regsMk2 h1 hC hm (msg0_code c) fun W' bw ba bc bm st hwB wg wm ag am haB => g_plain (rfl) rfl rfl rfl rfl rfl { rng_with hc with addr := st.hc.wordV, count := wordV_rng (wordsC_rng st.hc.rng 1) } (regs2 st hwB)
    · rw [if_neg (by decide)]; exact regs_p3_1 h hb fun g gm W hC hm => regsMk3 h1 hC hm (msg0_code c) fun W' bw ba bc bm st hwB wg wm ag am haB => g_words (fun _ => rfl) rfl rfl rfl rfl rfl { rng_with hc with code := hc } (regs3 st)
  simp only [if_neg h1]
  by_cases h6 : c = 6
  · simp only [if_pos h6]
    rcases hd with rfl | rfl
    · exact regs_p4_0 h hb fun g gm W hC hm => regsMk4 (.inl h6) hC hm (msg0_code c) fun W' bw ba bc bm st hwB wg wm ag am haB => g_plain (rfl) rfl rfl rfl rfl rfl { rng_with hc with addr := st.hc.wordV, value := wordV_rng (wordsC_rng st.hc.rng 1) } (regs4 st)
    · exact regs_p4_1 h hb fun g gm W hC hm => regsMk4b (.inl h6) hC hm (msg0_code c) fun W' bw ba bc bm st hwB wg wm ag am haB => g_plain (rfl) rfl rfl rfl rfl rfl { rng_with hc with addr := st.hc.wordV, value := wordV_rng (wordsC_rng st.hc.rng 1) } (regs4 st)
  simp only [if_neg h6]
  by_cases h16 : c = 16
  · simp only [if_pos h16]
    rcases hd with rfl | rfl
    · rw [if_pos rfl]; exact regs_p5_0 h hb fun g gm W hC hm => regsMk5y (.inl h16) hC hm (msg0_code c) fun W' bw ba bc bm st hwB wg wm ag am haB => g_words (fun _ => rfl) rfl rfl rfl rfl rfl { rng_with hc with addr := st.hc.wordV, count := wordV_rng (wordsC_rng st.hc.rng 1) } (regs5y st hwB wg wm ag am haB)
    · rw [if_neg (by decide)]; exact regs_p5_1 h hb fun g gm W hC hm => regsMk5n (.inl h16) hC hm (msg0_code c) fun W' bw ba bc bm st hwB wg wm ag am haB => g_plain (rfl) rfl rfl rfl rfl rfl { rng_with hc with addr := st.hc.wordV, count := wordV_rng (wordsC_rng st.hc.rng 1) } (regs5n st hwB wg wm ag am haB)
  simp only [if_neg h16]
  by_cases h22 : c = 22
  · simp only [if_pos h22]
    rcases hd with rfl | rfl
    · exact regs_p6_0 h hb fun g gm W hC hm => regsMk6 (.inl h22) hC hm (msg0_code c) fun W' bw ba bc bm st hwB wg wm ag am haB => g_plain (rfl) rfl rfl rfl rfl rfl { rng_with hc with addr := st.hc.wordV, and_ := wordV_rng (wordsC_rng st.hc.rng 1), or_ := wordV_rng (wordsC_rng (wordsC_rng st.hc.rng 1) 1) } (regs6 st)
    · exact regs_p6_1 h hb fun g gm W hC hm => regsMk6b (.inl h22) hC hm (msg0_code c) fun W' bw ba bc bm st hwB wg wm ag am haB => g_plain (rfl) rfl rfl rfl rfl rfl { rng_with hc with addr := st.hc.wordV, and_ := wordV_rng (wordsC_rng st.hc.rng 1), or_ := wordV_rng (wordsC_rng (wordsC_rng st.hc.rng 1) 1) } (regs6 st)
  simp only [if_neg h22]
  by_cases h23 : c = 23
  · simp only [if_pos h23]
    rcases hd with rfl | rfl
    · rw [if_pos rfl]; exact regs_p7_0 h hb fun g gm W hC hm => regsMk7 (.inl h23) hC hm (msg0_code c) fun W' bw ba bc bm st hwB wg wm ag am haB => g_words (fun _ => rfl) rfl rfl rfl rfl rfl { rng_with hc with addr := st.hc.wordV, count := wordV_rng (wordsC_rng st.hc.rng 1), addr2 := wordV_rng (spanC_rng st.hc.rng _) } (regs7 st hwB)
    · rw [if_neg (by decide)]; exact regs_p3_1 h hb fun g gm W hC hm => regsMk3b (.inl h23) hC hm (msg0_code c) fun W' bw ba bc bm st hwB wg wm ag am haB => g_words (fun _ => rfl) rfl rfl rfl rfl rfl { rng_with hc with code := hc } (regs3 st)
  simp only [if_neg h23]
  by_cases h24 : c = 24
  · simp only [if_pos h24]
    rcases hd with rfl | rfl
    · rw [if_pos rfl]; exact regs_p8_0 h hb fun g gm W hC hm => regsMk8 (.inl h24) hC hm (msg0_code c) fun W' bw ba bc bm st hwB wg wm ag am haB => g_plain (rfl) rfl rfl rfl rfl rfl { rng_with hc with addr := st.hc.wordV } (regs8 st)
    · rw [if_neg (by decide)]; exact regs_p9_1 h hb fun g gm W hC hm => regsMk9 (.inl h24) hC hm (msg0_code c) fun W' bw ba bc bm st hwB wg wm ag am haB => g_words (fun _ => rfl) rfl rfl rfl rfl rfl { rng_with hc with code := hc } (regs9 st)
  simp only [if_neg h24]
  have n3 : (c == 3) = false := by simpa using fun h => h1 (.inl h)
  have n4 : (c == 4) = false := by simpa using fun h => h1 (.inr h)
  have n6 : (c == 6) = false := by simpa using h6
  have n16 : (c == 16) = false := by simpa using h16
  have n22 : (c == 22) = false := by simpa using h22
  have n23 : (c == 23) = false := by simpa using h23
  have n24 : (c == 24) = false := by simpa using h24
  obtain ⟨A, cp, rfl, _, _⟩ := h.shape
  rcases hd with rfl | rfl
  · exact regs_no_0 h hb n3 n4 n6 n16 n22 n23 n24
  · exact regs_no_1 h hb n3 n4 n6 n16 n22 n23 n24
def busyC (c : Cur) : Cur := (c.wordsC 1).need (c.wordV == 0 || c.wordV == 65535) 6
theorem and255 {v : Int} (h : 0 ≤ v ∧ v < 65536) : bits .and .u16 v 255 = v % 256 := by
  rw [u16_and v 255 h.1 h.2 (by decide) (by decide)]
  show ((v.toNat &&& (2 ^ 8 - 1) : Nat) : Int) = _
  rw [Nat.and_two_pow_sub_one_eq_mod]
  omega
def mayB (dir sub v : Int) : Bool := if (sub == 2 || (decide (11 ≤ sub) && decide (sub ≤ 18))) && dir == 1 then true else if sub == 1 then v == 0 || v == 65280 else if sub == 3 then v % 256 == 0 else v == 0
set_option maxRecDepth 100000 in
set_option maxHeartbeats 4000000 in
theorem busy_any {g : Nat} {c : Cur} {w : World} (hc : CurAt w g c) :
    Calls Try.prog 97 #[.pointer (some ⟨g, 0, none⟩)] w (PByte g .u16 65536 c.wordV (busyC c) w) := by
 have hr := hc.wordV
 refine en 15 Try.func97 rfl <| sg <| Pl 1 <| ng <| Pl 1 <| L0 <| Oc <| m3 (word_any hc) fun w10 hc11 hu12 hr13 => Pl 1 <| nt <| sq <| ?_
 refine go <| Pl 4 <| cu 3 [9] 12 (((c.wordV == 0) || (c.wordV == 65535))) (fun K K15 => ?_) ?_
 refine bl 9 ((c.wordV == 0)) (fun q14 => ?_) (fun q14 => ?_)
 have q14p := eq_of_beqi q14
 exact Pl 3 <| ce K15 true (by rw [q14]; rfl)
 have q14p := ne_of_beqi q14
 exact Pl 3 <| ce K15 (c.wordV == 65535) (by rw [q14]; rfl)
 refine L0 <| Oc <| m2 (need_any (((c.wordV == 0) || (c.wordV == 65535))) 6 hc11) fun w16 hc17 hu18 => ?_
 refine ab hc17 fun x19 ex20 hc21 => ?_
 refine ng <| Pl 2 <| nt <| rt <| rr (.int .u16 c.wordV) <| ?_
 subst ex20
 have U22 := u1 hu12 hu18 im
 exact ⟨rfl, hc21, U22, hr⟩
set_option maxRecDepth 100000 in
set_option maxHeartbeats 4000000 in
theorem may2_any {v : Int} {w : World} : Calls Try.prog 111 #[.int .u16 v] w (PVal (.bool (v == 0 || v == 65280)) w) := by
 refine en 9 Try.func111 rfl <| sg <| Pl 1 <| ng <| Pl 3 <| cu 3 [5] 8 (((v == 0) || (v == 65280))) (fun K K11 => ?_) ?_
 refine bl 5 ((v == 0)) (fun q10 => ?_) (fun q10 => ?_)
 have q10p := eq_of_beqi q10
 exact Pl 3 <| ce K11 true (by rw [q10]; rfl)
 have q10p := ne_of_beqi q10
 exact Pl 3 <| ce K11 (v == 65280) (by rw [q10]; rfl)
 refine Pl 1 <| nt <| rt <| rr (.bool ((v == 0) || (v == 65280))) <| ?_
 exact ⟨rfl, (Upd.refl [] _)⟩
set_option maxRecDepth 100000 in
set_option maxHeartbeats 4000000 in
theorem may3_any {v : Int} {w : World} (hv : 0 ≤ v ∧ v < 65536) : Calls Try.prog 112 #[.int .u16 v] w (PVal (.bool (v % 256 == 0)) w) := by
 refine en 6 Try.func112 rfl <| sg <| Pl 1 <| ng <| Pl 1 <| L0 <| Oe (.int .u16 (bits .and .u16 v 255)) (.int .u16 (v % 256)) (congrArg (Value.int .u16) (and255 (by omega))) <| Pl 2 <| nt <| rt <| ?_
 refine rr (.bool ((v % 256) == 0)) <| ?_
 exact ⟨rfl, (Upd.refl [] _)⟩
set_option maxRecDepth 100000 in
set_option maxHeartbeats 4000000 in
theorem may1_any {v x : Int} {gb : Nat} {w : World} (hB : w.heap[gb]? = some (.cells #[.int .u16 v] 23 (0, 0))) : Calls Try.prog 110 #[.int .u16 x, .pointer (some ⟨gb, 0, none⟩)] w (PVal (.bool (v == 0)) w) := by
 refine en 6 Try.func110 rfl <| sg <| Pl 1 <| ng <| L0 <| Olb hB 0 <| Pl 2 <| nt <| rt <| rr (.bool (v == 0)) <| ?_
 exact ⟨rfl, (Upd.refl [] _)⟩
set_option maxRecDepth 100000 in
set_option maxHeartbeats 4000000 in
theorem may_1 {dir v : Int} {w : World} (hv : 0 ≤ v ∧ v < 65536) : Calls Try.prog 96 #[.int .i64 dir, .int .u16 1, .int .u16 v] w (PVal (.bool (mayB dir 1 v)) w) := by
 refine en 42 Try.func96 rfl <| sg <| L0 <| Obx #[.int .u16 v] fun g10 w11 hg12 B13 hu14 => Pl 1 <| ng <| Pl 2 <| ng <| ?_
 refine L0 <| Omk fun g15 w16 hg17 B18 hu19 => L0 <| Oin B18 1 #[⟨.int .u16 1, .func (.func 111) #[] #[], 0⟩] 1 fun w20 B21 hu22 => L0 <| Oin B21 3 #[⟨.int .u16 1, .func (.func 111) #[] #[], 0⟩, ⟨.int .u16 3, .func (.func 112) #[] #[], 1⟩] 2 fun w23 B24 hu25 => Pl 2 <| ng <| Pl 11 <| nt <| sq <| sg <| ?_
 refine Pl 5 <| nt <| c0 <| skn <| sg <| Pl 2 <| L0 <| Olk B24 1 (.nilFunc) (some (0, .func (.func 111) #[] #[])) <| Pl 5 <| nt <| sq <| ?_
 refine sg <| Pl 2 <| nt <| c0 <| skn <| sg <| Pl 1 <| ?_
 have U26 := u1 hu19 hu22 (nr hg17)
 have U27 := u1 U26 hu25 (nr hg17)
 have r28 := ub U27 B13
 refine L0 <| Olb r28 0 <| L0 <| Ocv #[] #[] (args := #[.int .u16 v]) <| m1 (may2_any) fun w29 hu30 => Pl 1 <| nt <| rt <| rr (.bool (v == 0 || v == 65280)) <| ?_
 have hs : mayB dir 1 v = (v == 0 || v == 65280) := by
   unfold mayB
   (try simp only [bs, if_true, if_false, decide_true, decide_false, reduceIte])
   all_goals rfl
 rw [hs]
 have U31 := ut0 hu14 hu19
 have U32 := u1 U31 hu22 (ni hu14.size hg17)
 have U33 := u1 U32 hu25 (ni hu14.size hg17)
 have U34 := ut0 U33 hu30
 exact ⟨rfl, U34⟩
set_option maxRecDepth 100000 in
set_option maxHeartbeats 4000000 in
theorem may_3 {dir v : Int} {w : World} (hv : 0 ≤ v ∧ v < 65536) : Calls Try.prog 96 #[.int .i64 dir, .int .u16 3, .int .u16 v] w (PVal (.bool (mayB dir 3 v)) w) := by
 refine en 42 Try.func96 rfl <| sg <| L0 <| Obx #[.int .u16 v] fun g10 w11 hg12 B13 hu14 => Pl 1 <| ng <| Pl 2 <| ng <| ?_
 refine L0 <| Omk fun g15 w16 hg17 B18 hu19 => L0 <| Oin B18 1 #[⟨.int .u16 1, .func (.func 111) #[] #[], 0⟩] 1 fun w20 B21 hu22 => L0 <| Oin B21 3 #[⟨.int .u16 1, .func (.func 111) #[] #[], 0⟩, ⟨.int .u16 3, .func (.func 112) #[] #[], 1⟩] 2 fun w23 B24 hu25 => Pl 2 <| ng <| Pl 11 <| nt <| sq <| sg <| ?_
 refine Pl 5 <| nt <| c0 <| skn <| sg <| Pl 2 <| L0 <| Olk B24 3 (.nilFunc) (some (1, .func (.func 112) #[] #[])) <| Pl 5 <| nt <| sq <| ?_
 refine sg <| Pl 2 <| nt <| c0 <| skn <| sg <| Pl 1 <| ?_
 have U26 := u1 hu19 hu22 (nr hg17)
 have U27 := u1 U26 hu25 (nr hg17)
 have r28 := ub U27 B13
 refine L0 <| Olb r28 0 <| L0 <| Ocv #[] #[] (args := #[.int .u16 v]) <| m1 (may3_any hv) fun w29 hu30 => Pl 1 <| nt <| rt <| rr (.bool (v % 256 == 0)) <| ?_
 have hs : mayB dir 3 v = (v % 256 == 0) := by
   unfold mayB
   (try simp only [bs, if_true, if_false, decide_true, decide_false, reduceIte])
   all_goals rfl
 rw [hs]
 have U31 := ut0 hu14 hu19
 have U32 := u1 U31 hu22 (ni hu14.size hg17)
 have U33 := u1 U32 hu25 (ni hu14.size hg17)
 have U34 := ut0 U33 hu30
 exact ⟨rfl, U34⟩
set_option maxRecDepth 100000 in
set_option maxHeartbeats 4000000 in
theorem may_no {dir sub v : Int} {w : World} (hv : 0 ≤ v ∧ v < 65536) (h1 : sub ≠ 1) (h3 : sub ≠ 3) : Calls Try.prog 96 #[.int .i64 dir, .int .u16 sub, .int .u16 v] w (PVal (.bool (mayB dir sub v)) w) := by
 have n1 : (sub == 1) = false := by simpa using h1
 have n3 : (sub == 3) = false := by simpa using h3
 refine en 42 Try.func96 rfl <| sg <| L0 <| Obx #[.int .u16 v] fun g10 w11 hg12 B13 hu14 => Pl 1 <| ng <| Pl 2 <| ng <| ?_
 refine L0 <| Omk fun g15 w16 hg17 B18 hu19 => L0 <| Oin B18 1 #[⟨.int .u16 1, .func (.func 111) #[] #[], 0⟩] 1 fun w20 B21 hu22 => L0 <| Oin B21 3 #[⟨.int .u16 1, .func (.func 111) #[] #[], 0⟩, ⟨.int .u16 3, .func (.func 112) #[] #[], 1⟩] 2 fun w23 B24 hu25 => Pl 2 <| ng <| Pl 3 <| cu 7 [17] 24 (((sub == 2) || ((decide (11 ≤ sub)) && (decide (sub ≤ 18))))) (fun K K27 => ?_) ?_
 refine bl 17 ((sub == 2)) (fun q26 => ?_) (fun q26 => ?_)
 have q26p := eq_of_beqi q26
 exact Pl 7 <| ce K27 true (by rw [q26]; rfl)
 have q26p := ne_of_beqi q26
 refine Pl 3 <| cu 3 [20] 23 (((decide (11 ≤ sub)) && (decide (sub ≤ 18)))) (fun K K29 => ?_) ?_
 refine bl 20 ((decide (11 ≤ sub))) (fun q28 => ?_) (fun q28 => ?_)
 have q28p := of_decide_eq_true q28
 exact Pl 3 <| ce K29 (decide (sub ≤ 18)) (by rw [q28]; rfl)
 have q28p := of_decide_eq_false q28
 exact Pl 3 <| ce K29 false (by rw [q28]; rfl)
 exact Pl 1 <| ce K27 ((decide (11 ≤ sub)) && (decide (sub ≤ 18))) (by rw [q26]; rfl)
 refine Pl 1 <| nt <| sq <| sg <| Pl 2 <| cu 3 [26] 29 ((((sub == 2) || ((decide (11 ≤ sub)) && (decide (sub ≤ 18)))) && (dir == 1))) (fun K K31 => ?_) ?_
 refine bl 26 (((sub == 2) || ((decide (11 ≤ sub)) && (decide (sub ≤ 18))))) (fun q30 => ?_) (fun q30 => ?_)
 exact Pl 3 <| ce K31 (dir == 1) (by rw [q30]; rfl)
 have q30a := (or_f q30).1
 have q30b := (or_f q30).2
 have q30ap := ne_of_beqi q30a
 exact Pl 3 <| ce K31 false (by rw [q30]; rfl)
 refine nt <| ?_
 have U32 := ut0 hu14 hu19
 have U33 := u1 U32 hu22 (ni hu14.size hg17)
 have U34 := u1 U33 hu25 (ni hu14.size hg17)
 refine cb ((((sub == 2) || ((decide (11 ≤ sub)) && (decide (sub ≤ 18)))) && (dir == 1))) (fun q35 => ?_) (fun q35 => ?_)
 have q35a := (and_t q35).1
 have q35b := (and_t q35).2
 have q35bp := eq_of_beqi q35b
 refine sg <| Pl 1 <| nt <| rt <| tr <| rr (.bool true) <| ?_
 have hs : mayB dir sub v = true := by
   unfold mayB
   (try simp only [q35, q35a, q35b, bs, if_true, if_false, decide_true, decide_false, n1, n3, reduceIte])
   all_goals rfl
 rw [hs]
 exact ⟨rfl, U34⟩
 refine skn <| sg <| Pl 2 <| L0 <| Olk (hf := (findNow_no _ _ (by intro e he; simp only [List.mem_cons, List.not_mem_nil, or_false] at he; rcases he with rfl | rfl; exact ⟨_, rfl, fun h => h1 h.symm⟩; exact ⟨_, rfl, fun h => h3 h.symm⟩))) B24 sub (.nilFunc) none <| Pl 5 <| nt <| sq <| sg <| Pl 2 <| nl <| ?_
 refine tn <| c1 <| go <| Pl 2 <| ng <| Pl 1 <| ?_
 have U36 := u1 hu19 hu22 (nr hg17)
 have U37 := u1 U36 hu25 (nr hg17)
 have r38 := ub U37 B13
 refine L0 <| Olb r38 0 <| L0 <| Ocv #[] #[.pointer (some ⟨g10, 0, none⟩)] (args := #[.int .u16 v, .pointer (some ⟨g10, 0, none⟩)]) <| m1 (may1_any r38) fun w39 hu40 => Pl 1 <| nt <| rt <| rr (.bool (v == 0)) <| ?_
 have hs : mayB dir sub v = (v == 0) := by
   unfold mayB
   (try simp only [q35, bs, if_true, if_false, decide_true, decide_false, n1, n3, reduceIte])
   all_goals rfl
 rw [hs]
 have U41 := ut0 U34 hu40
 exact ⟨rfl, U41⟩
theorem may_any {dir sub v : Int} {w : World} (hv : 0 ≤ v ∧ v < 65536) : Calls Try.prog 96 #[.int .i64 dir, .int .u16 sub, .int .u16 v] w (PVal (.bool (mayB dir sub v)) w) := by
  by_cases h1 : sub = 1
  · subst h1; exact may_1 hv
  by_cases h3 : sub = 3
  · subst h3; exact may_3 hv
  exact may_no hv h1 h3
def line1 (dir : Int) (C : Cur) : Cur := (C.wordsC 1).need (subB C.wordV && (dir == 0 || C.wordV != 4)) 8
def line2 (C : Cur) : Cur := C.need (((C.l.length : Int) % 2 == 0 && decide (2 ≤ (C.l.length : Int))) && decide ((C.l.length : Int) ≤ 250)) 5
def lineR (dir c : Int) (C : Cur) : Cur × Msg :=
  if C.wordV != 0 then (((line1 dir C).wordsC 1).need ((((line1 dir C).wordsR 1).length : Int) == 1 && mayB dir C.wordV (((line1 dir C).wordsR 1).getD 0 0)) 6, { Msg.zero with code := c, sub := C.wordV, words := (line1 dir C).wordsR 1 })
  else ((line2 (line1 dir C)).wordsC (((line1 dir C).l.length : Int) / 2), { Msg.zero with code := c, sub := C.wordV, words := (line2 (line1 dir C)).wordsR (((line1 dir C).l.length : Int) / 2) })
def ansL (C : Cur) (lo hi : Int) : Cur := (C.bytesC 1).need (decide (lo ≤ C.byteV) && decide (C.byteV ≤ hi)) 5
def ans12 (C : Cur) : Cur := ((busyC (ansL C 6 70)).wordsC 1).wordsC 1
def answerR (c : Int) (C : Cur) : Cur × Msg :=
  if c == 7 then (C.bytesC 1, { Msg.zero with code := c, value := C.byteV })
  else if c == 11 then ((busyC C).wordsC 1, { Msg.zero with code := c, status := C.wordV, events := (busyC C).wordV })
  else if c == 12 then ((ans12 C).bytesC (C.byteV - 6), { Msg.zero with code := c, status := (ansL C 6 70).wordV, events := (busyC (ansL C 6 70)).wordV, messages := ((busyC (ansL C 6 70)).wordsC 1).wordV, data := (ans12 C).bytesR (C.byteV - 6) })
  else if c == 17 then ((ansL C 1 251).bytesC C.byteV, { Msg.zero with code := c, data := (ansL C 1 251).bytesR C.byteV })
  else (C, { Msg.zero with code := c })
set_option maxRecDepth 100000 in
set_option maxHeartbeats 4000000 in
theorem line_any {g gm : Nat} {dir c : Int} {C : Cur} {w : World} (hcode : B8 c) (hC : CurAt w g C) (hm : w.heap[gm]? = some (.cells #[.int .u8 c, .int .u8 0, .int .u16 0, .int .u16 0, .int .u16 0, .int .u16 0, .int .u16 0, .int .u16 0, .int .u16 0, .int .u16 0, .int .u16 0, .int .u16 0, .slice none 0 0, .slice none 0 0, .slice none 0 0, .slice none 0 0, .int .u8 0, .int .u8 0, .int .u8 0, .int .u8 0, .int .u8 0, .slice none 0 0] 29 (0, 0))) (hne : g ≠ gm) :
    Calls Try.prog 63 #[.int .i64 dir, .pointer (some ⟨g, 0, none⟩), .pointer (some ⟨gm, 0, none⟩)] w (PFormG g gm (lineR dir c C).1 (lineR dir c C).2 w) := by
 obtain ⟨hcode1, hcode2⟩ := hcode
 have hlen := hC.len
 refine en 84 Try.func63 rfl <| sg <| Pl 2 <| L0 <| Oc <| m3 (word_any hC) fun w10 hc11 hu12 hr13 => Pl 2 <| ?_
 have r14 := ub1 hu12 (Ne.symm hne) hm
 refine L0 <| Ost r14 8 (mG c 0 0 0 0 0 0 0 C.wordV 0 0 0 nS nS nS nS 0 0 0 0 0 nS) fun w15 B16 hu17 => ng <| Pl 4 <| L0 <| Olb B16 8 <| L0 <| Oc <| m1 (bits_any (x := C.wordV) (w := _)) fun w18 hu19 => Pl 1 <| cu 10 [18] 28 (((subB C.wordV) && ((dir == 0) || (C.wordV != 4)))) (fun K K21 => ?_) ?_
 refine bl 18 ((subB C.wordV)) (fun q20 => ?_) (fun q20 => ?_)
 refine Pl 3 <| cu 6 [21] 27 (((dir == 0) || (C.wordV != 4))) (fun K K23 => ?_) ?_
 refine bl 21 ((dir == 0)) (fun q22 => ?_) (fun q22 => ?_)
 have q22p := eq_of_beqi q22
 exact Pl 6 <| ce K23 true (by rw [q22]; rfl)
 have q22p := ne_of_beqi q22
 refine Pl 3 <| ?_
 have r24 := ub hu19 B16
 exact L1 <| Olb r24 8 <| Pl 2 <| ce K23 (C.wordV != 4) (by rw [q22]; rfl)
 exact Pl 1 <| ce K21 ((dir == 0) || (C.wordV != 4)) (by rw [q20]; rfl)
 exact Pl 10 <| ce K21 false (by rw [q20]; rfl)
 have U25 := ut0 hu17 hu19
 have r26 := CurAt.upd hc11 U25 (not_cons hne not0) (safe_cons (safe1 r14 (by decide)) safe0)
 refine L0 <| Oc <| m2 (need_any (((subB C.wordV) && ((dir == 0) || (C.wordV != 4)))) 8 r26) fun w27 hc28 hu29 => ?_
 refine ab hc28 fun x30 ex31 hc32 => ?_
 refine nt <| sq <| sg <| Pl 3 <| ?_
 have U33 := u1 (Upd.mono (S' := [g]) hu19 all0) hu29 im
 have r34 := ub1 U33 (Ne.symm hne) B16
 refine L0 <| Olb r34 8 <| Pl 1 <| nt <| ?_
 have U35 := u1 (Upd.mono (S' := [g, gm]) hu12 (ac im all0)) hu17 im
 have U36 := ut0 U35 hu19
 have U37 := u1 U36 hu29 im
 refine cb ((C.wordV != 0)) (fun q38 => ?_) (fun q38 => ?_)
 have q38p := ne_of_bnei q38
 refine sg <| Pl 2 <| L0 <| Oc <| so3 (words_any (n := 1) hc32) fun A46 cp47 w39 rd50 hl48 hm49 hc42 hu43 => Pl 2 <| ?_
 have r51 := ub1 hu43 (Ne.symm hne) r34
 refine L0 <| Ost r51 12 (mG c 0 0 0 0 0 0 0 C.wordV 0 0 0 (.slice A46 ((x30.wordsR 1).length) cp47) nS nS nS 0 0 0 0 0 nS) fun w52 B53 hu54 => nt <| sq <| Rg 22 (fun w' => w'.cell? ⟨gm, 12, none⟩ = some (.slice A46 ((x30.wordsR 1).length) cp47) ∧ w'.cell? ⟨gm, 8, none⟩ = some (.int .u16 C.wordV)) fun w78 hu79 => ?_
 have r81 := ub hu79 B53
 refine hld ⟨(blk_at r81 rfl), (blk_at r81 rfl)⟩ fun hS80 => Rt 0 hS80 <| Rt 1 hS80 <| Rt 2 hS80 <| Rt 3 hS80 <| Rl 4 hS80 (fun _ hs => hs.1) <| Rt 5 hS80 <| Rt 6 hS80 <| Rt 7 hS80 <| ?_
 have U82 := u1 U37 hu43 im
 have U83 := u1 U82 hu54 im
 have U84 := ut0 U83 hu79
 refine bla 47 (((((x30.wordsR 1).length : Nat) : Int) == 1)) (fun q85 => ?_) (fun q85 => ?_)
 have q85p := eq_of_beqi q85
 refine Rt 8 hS80 <| Rt 9 hS80 <| Rt 10 hS80 <| Rt 11 hS80 <| Rl 12 hS80 (fun _ hs => hs.2) <| Rt 13 hS80 <| Rt 14 hS80 <| Rt 15 hS80 <| Rl 16 hS80 (fun _ hs => hs.1) <| ?_
 have U86 := ut0 hu54 hu79
 have r87 := own_stay rd50 U86 (fun x hx => (not_cons (fun e => (not_old (blk_lt hm) U37.size rd50) (e ▸ hx)) not0)) (fun _ _ h => h)
 refine x23 (RdW.at_ (r87).rd 0 (by omega)) fun b88 o89 hA90 hl91 hr92 => R0 17 rfl <| Oix ((x30.wordsR 1).length) 0 hA90 (by omega) <| hld ⟨(blk_at r81 rfl), (blk_at r81 rfl)⟩ fun hS93 => R0 18 rfl <| Old (p := ⟨b88, o89 + 0, none⟩) (v := .int .u16 ((x30.wordsR 1).getD 0 0)) hl91 <| hld ⟨(blk_at r81 rfl), (blk_at r81 rfl)⟩ fun hS94 => R0 19 rfl <| Oc <| m1 (may_any (dir := dir) (sub := C.wordV) (v := ((x30.wordsR 1).getD 0 0)) (by omega)) fun w95 hu96 => ?_
 have r98 := ub hu96 r81
 refine hld ⟨(blk_at r98 rfl), (blk_at r98 rfl)⟩ fun hS97 => Rt 20 hS97 <| ?_
 have U99 := ut0 U86 hu96
 have r100 := CurAt.upd hc42 U99 (not_cons hne not0) (safe_cons (safe1 r51 (by decide)) safe0)
 refine R0 21 rfl <| Oc <| m2 (need_any ((mayB dir C.wordV ((x30.wordsR 1).getD 0 0))) 6 r100) fun w101 hc102 hu103 => ?_
 refine ab hc102 fun x104 ex105 hc106 => ?_
 have r108 := ub1 hu103 (Ne.symm hne) r98
 refine hld ⟨(blk_at r108 rfl), (blk_at r108 rfl)⟩ fun hS107 => re <| tn <| rt <| tr <| rr (.tuple #[]) <| ?_
 subst ex105 ex31
 have U109 := u1 (Upd.mono (S' := [g]) hu96 all0) hu103 im
 have r110 := own_stay r87 U109 (fun x hx => (not_cons (fun e => (not_old (CurAt.lt hC) U37.size rd50) (e ▸ hx)) not0)) (fun _ _ h => h)
 have hs : lineR dir c C = (((((C.wordsC 1).need ((subB C.wordV) && ((dir == 0) || (C.wordV != 4))) 8).wordsC 1).need (mayB dir C.wordV ((((C.wordsC 1).need ((subB C.wordV) && ((dir == 0) || (C.wordV != 4))) 8).wordsR 1).getD 0 0)) 6), (Msg.mk c 0 0 0 0 0 0 0 C.wordV 0 0 0 (((C.wordsC 1).need ((subB C.wordV) && ((dir == 0) || (C.wordV != 4))) 8).wordsR 1) [] [] [] 0 0 0 0 0 [])) := by
   unfold lineR line1 line2
   (try simp only [q38, q85, bs, if_true, if_false, decide_true, decide_false, reduceIte])
   all_goals rfl
 rw [hs]
 have U111 := ut0 U84 hu96
 have U112 := u1 U111 hu103 im
 exact ⟨rfl, hc106, ⟨_, ⟨r108, rfl⟩, ⟨_, _, _, _, _, rfl, (r110).rd, RdG.nil .., RdG.nil .., RdG.nil .., RdG.nil .., ⟨(b8 (x := c) (by omega)), (b8 (x := 0) (by omega)), (b16 (x := 0) (by omega)), (b16 (x := 0) (by omega)), (b16 (x := 0) (by omega)), (b16 (x := 0) (by omega)), (b16 (x := 0) (by omega)), (b16 (x := 0) (by omega)), (b16 (x := C.wordV) (by omega)), (b16 (x := 0) (by omega)), (b16 (x := 0) (by omega)), (b16 (x := 0) (by omega)), (b8 (x := 0) (by omega)), (b8 (x := 0) (by omega)), (b8 (x := 0) (by omega)), (b8 (x := 0) (by omega)), (b8 (x := 0) (by omega))⟩⟩⟩, U112⟩
 have q85p := ne_of_beqi q85
 refine Ro 8 hS80 <| Ro 9 hS80 <| Ro 10 hS80 <| Ro 11 hS80 <| Ro 12 hS80 <| Ro 13 hS80 <| Ro 14 hS80 <| Ro 15 hS80 <| Ro 16 hS80 <| Ro 17 hS80 <| Ro 18 hS80 <| Ro 19 hS80 <| Rt 20 hS80 <| ?_
 have U113 := ut0 hu54 hu79
 have r114 := CurAt.upd hc42 U113 (not_cons hne not0) (safe_cons (safe1 r51 (by decide)) safe0)
 refine R0 21 rfl <| Oc <| m2 (need_any (false) 6 r114) fun w115 hc116 hu117 => ?_
 have r119 := ub1 hu117 (Ne.symm hne) r81
 refine hld ⟨(blk_at r119 rfl), (blk_at r119 rfl)⟩ fun hS118 => re <| tn <| rt <| tr <| rr (.tuple #[]) <| ?_
 subst ex31
 have U120 := u1 (Upd.mono (S' := [gm, g]) U113 (ac im all0)) hu117 im
 have r121 := own_stay rd50 U120 (fun x hx => (not_cons (fun e => (not_old (blk_lt hm) U37.size rd50) (e ▸ hx)) (not_cons (fun e => (not_old (CurAt.lt hC) U37.size rd50) (e ▸ hx)) not0))) (fun _ _ h => h)
 have hs : lineR dir c C = (((((C.wordsC 1).need ((subB C.wordV) && ((dir == 0) || (C.wordV != 4))) 8).wordsC 1).need false 6), (Msg.mk c 0 0 0 0 0 0 0 C.wordV 0 0 0 (((C.wordsC 1).need ((subB C.wordV) && ((dir == 0) || (C.wordV != 4))) 8).wordsR 1) [] [] [] 0 0 0 0 0 [])) := by
   unfold lineR line1 line2
   (try simp only [q38, q85, bs, if_true, if_false, decide_true, decide_false, reduceIte])
   all_goals rfl
 rw [hs]
 have U122 := u1 U84 hu117 im
 exact ⟨rfl, hc116, ⟨_, ⟨r119, rfl⟩, ⟨_, _, _, _, _, rfl, (r121).rd, RdG.nil .., RdG.nil .., RdG.nil .., RdG.nil .., ⟨(b8 (x := c) (by omega)), (b8 (x := 0) (by omega)), (b16 (x := 0) (by omega)), (b16 (x := 0) (by omega)), (b16 (x := 0) (by omega)), (b16 (x := 0) (by omega)), (b16 (x := 0) (by omega)), (b16 (x := 0) (by omega)), (b16 (x := C.wordV) (by omega)), (b16 (x := 0) (by omega)), (b16 (x := 0) (by omega)), (b16 (x := 0) (by omega)), (b8 (x := 0) (by omega)), (b8 (x := 0) (by omega)), (b8 (x := 0) (by omega)), (b8 (x := 0) (by omega)), (b8 (x := 0) (by omega))⟩⟩⟩, U122⟩
 have q38p := eq_of_bnei q38
 refine skn <| sg <| Pl 1 <| L0 <| Oc <| mq (left_any hc32) <| ?_
 have hl123 := CurAt.len hc32
 refine Pl 1 <| ng <| Pl 2 <| L0 <| Oe (.int .i64 (Int.tmod ((x30.l.length : Nat) : Int) 2)) (.int .i64 (((x30.l.length : Nat) : Int) % 2)) (congrArg (Value.int .i64) (Int.tmod_eq_emod_of_nonneg (by omega))) <| Pl 2 <| cu 3 [68] 71 ((((((x30.l.length : Nat) : Int) % 2) == 0) && (decide (2 ≤ ((x30.l.length : Nat) : Int))))) (fun K K125 => ?_) ?_
 refine bl 68 (((((x30.l.length : Nat) : Int) % 2) == 0)) (fun q124 => ?_) (fun q124 => ?_)
 have q124p := eq_of_beqi q124
 exact Pl 3 <| ce K125 (decide (2 ≤ ((x30.l.length : Nat) : Int))) (by rw [q124]; rfl)
 have q124p := ne_of_beqi q124
 exact Pl 3 <| ce K125 false (by rw [q124]; rfl)
 refine Pl 1 <| cu 3 [72] 75 (((((((x30.l.length : Nat) : Int) % 2) == 0) && (decide (2 ≤ ((x30.l.length : Nat) : Int)))) && (decide (((x30.l.length : Nat) : Int) ≤ 250)))) (fun K K127 => ?_) ?_
 refine bl 72 ((((((x30.l.length : Nat) : Int) % 2) == 0) && (decide (2 ≤ ((x30.l.length : Nat) : Int))))) (fun q126 => ?_) (fun q126 => ?_)
 have q126a := (and_t q126).1
 have q126b := (and_t q126).2
 have q126ap := eq_of_beqi q126a
 have q126bp := of_decide_eq_true q126b
 exact Pl 3 <| ce K127 (decide (((x30.l.length : Nat) : Int) ≤ 250)) (by rw [q126]; rfl)
 exact Pl 3 <| ce K127 false (by rw [q126]; rfl)
 refine L0 <| Oc <| m2 (need_any (((((((x30.l.length : Nat) : Int) % 2) == 0) && (decide (2 ≤ ((x30.l.length : Nat) : Int)))) && (decide (((x30.l.length : Nat) : Int) ≤ 250)))) 5 hc32) fun w128 hc129 hu130 => ?_
 refine ab hc129 fun x131 ex132 hc133 => ?_
 refine nt <| go <| Pl 3 <| L0 <| Oe (.int .i64 (IntKind.i64.wrap (Int.tdiv ((x30.l.length : Nat) : Int) 2))) (.int .i64 (((x30.l.length : Nat) : Int) / 2)) (congrArg (Value.int .i64) (i64_quo (by omega) (by omega))) <| L0 <| Oc <| so3 (words_any (n := (((x30.l.length : Nat) : Int) / 2)) hc133) fun A144 cp145 w134 rd148 hl146 hm147 hc137 hu138 => ?_
 refine ab hc137 fun x141 ex142 hc143 => ?_
 refine Pl 2 <| ?_
 have U149 := u1 hu130 hu138 im
 have r150 := ub1 U149 (Ne.symm hne) r34
 refine L0 <| Ost r150 12 (mG c 0 0 0 0 0 0 0 C.wordV 0 0 0 (.slice A144 ((x131.wordsR (((x30.l.length : Nat) : Int) / 2)).length) cp145) nS nS nS 0 0 0 0 0 nS) fun w151 B152 hu153 => nl <| rm (.tuple #[]) <| ?_
 subst ex142 ex132 ex31
 have r154 := own_stay rd148 hu153 (fun x hx => (not_cons (fun e => (not_old (blk_lt hm) (le (le (le (le hu12.size hu17.size) hu19.size) hu29.size) hu130.size) rd148) (e ▸ hx)) not0)) (fun _ _ h => h)
 have hs : lineR dir c C = (((((C.wordsC 1).need ((subB C.wordV) && ((dir == 0) || (C.wordV != 4))) 8).need ((((((((C.wordsC 1).need ((subB C.wordV) && ((dir == 0) || (C.wordV != 4))) 8).l.length : Nat) : Int) % 2) == 0) && (decide (2 ≤ ((((C.wordsC 1).need ((subB C.wordV) && ((dir == 0) || (C.wordV != 4))) 8).l.length : Nat) : Int)))) && (decide (((((C.wordsC 1).need ((subB C.wordV) && ((dir == 0) || (C.wordV != 4))) 8).l.length : Nat) : Int) ≤ 250))) 5).wordsC (((((C.wordsC 1).need ((subB C.wordV) && ((dir == 0) || (C.wordV != 4))) 8).l.length : Nat) : Int) / 2)), (Msg.mk c 0 0 0 0 0 0 0 C.wordV 0 0 0 ((((C.wordsC 1).need ((subB C.wordV) && ((dir == 0) || (C.wordV != 4))) 8).need ((((((((C.wordsC 1).need ((subB C.wordV) && ((dir == 0) || (C.wordV != 4))) 8).l.length : Nat) : Int) % 2) == 0) && (decide (2 ≤ ((((C.wordsC 1).need ((subB C.wordV) && ((dir == 0) || (C.wordV != 4))) 8).l.length : Nat) : Int)))) && (decide (((((C.wordsC 1).need ((subB C.wordV) && ((dir == 0) || (C.wordV != 4))) 8).l.length : Nat) : Int) ≤ 250))) 5).wordsR (((((C.wordsC 1).need ((subB C.wordV) && ((dir == 0) || (C.wordV != 4))) 8).l.length : Nat) : Int) / 2)) [] [] [] 0 0 0 0 0 [])) := by
   unfold lineR line1 line2
   (try simp only [q38, bs, if_true, if_false, decide_true, decide_false, reduceIte])
   all_goals rfl
 rw [hs]
 have r155 := CurAt.upd hc143 hu153 (not_cons hne not0) (safe_cons (safe1 r150 (by decide)) safe0)
 have U156 := u1 U37 hu130 im
 have U157 := u1 U156 hu138 im
 have U158 := u1 U157 hu153 im
 exact ⟨rfl, r155, ⟨_, ⟨B152, rfl⟩, ⟨_, _, _, _, _, rfl, (r154).rd, RdG.nil .., RdG.nil .., RdG.nil .., RdG.nil .., ⟨(b8 (x := c) (by omega)), (b8 (x := 0) (by omega)), (b16 (x := 0) (by omega)), (b16 (x := 0) (by omega)), (b16 (x := 0) (by omega)), (b16 (x := 0) (by omega)), (b16 (x := 0) (by omega)), (b16 (x := 0) (by omega)), (b16 (x := C.wordV) (by omega)), (b16 (x := 0) (by omega)), (b16 (x := 0) (by omega)), (b16 (x := 0) (by omega)), (b8 (x := 0) (by omega)), (b8 (x := 0) (by omega)), (b8 (x := 0) (by omega)), (b8 (x := 0) (by omega)), (b8 (x := 0) (by omega))⟩⟩⟩, U158⟩
set_option maxRecDepth 100000 in
set_option maxHeartbeats 4000000 in
theorem answer_any {g gm : Nat} {c : Int} {C : Cur} {w : World} (hcode : B8 c) (hC : CurAt w g C) (hm : w.heap[gm]? = some (.cells #[.int .u8 c, .int .u8 0, .int .u16 0, .int .u16 0, .int .u16 0, .int .u16 0, .int .u16 0, .int .u16 0, .int .u16 0, .int .u16 0, .int .u16 0, .int .u16 0, .slice none 0 0, .slice none 0 0, .slice none 0 0, .slice none 0 0, .int .u8 0, .int .u8 0, .int .u8 0, .int .u8 0, .int .u8 0, .slice none 0 0] 29 (0, 0))) (hne : g ≠ gm) :
    Calls Try.prog 64 #[.pointer (some ⟨g, 0, none⟩), .pointer (some ⟨gm, 0, none⟩)] w (PFormG g gm (answerR c C).1 (answerR c C).2 w) := by
 obtain ⟨hcode1, hcode2⟩ := hcode
 have hlen := hC.len
 refine en 84 Try.func64 rfl <| sg <| Pl 3 <| L0 <| Olb hm 0 <| nt <| bk <| sg <| Pl 2 <| nt <| cb ((c == 7)) (fun q10 => ?_) (fun q10 => ?_)
 have q10p := eq_of_beqi q10
 refine go <| Pl 2 <| L0 <| Oc <| m3 (byte_any hC) fun w11 hc12 hu13 hr14 => L0 <| O16 C.byteV <| Pl 2 <| ?_
 have r15 := ub1 hu13 (Ne.symm hne) hm
 refine L0 <| Ost r15 4 (mG c 0 0 0 C.byteV 0 0 0 0 0 0 0 nS nS nS nS 0 0 0 0 0 nS) fun w16 B17 hu18 => nl <| bn <| rm (.tuple #[]) <| ?_
 have hs : answerR c C = ((C.bytesC 1), (Msg.mk c 0 0 0 C.byteV 0 0 0 0 0 0 0 [] [] [] [] 0 0 0 0 0 [])) := by
   unfold answerR ans12 ansL
   (try simp only [q10, bs, if_true, if_false, decide_true, decide_false, reduceIte])
   all_goals rfl
 rw [hs]
 have r19 := CurAt.upd hc12 hu18 (not_cons hne not0) (safe_cons (safe1 r15 (by decide)) safe0)
 have U20 := u1 (Upd.mono (S' := [g, gm]) hu13 (ac im all0)) hu18 im
 exact ⟨rfl, r19, ⟨_, ⟨B17, rfl⟩, ⟨_, _, _, _, _, rfl, RdG.nil .., RdG.nil .., RdG.nil .., RdG.nil .., RdG.nil .., ⟨(b8 (x := c) (by omega)), (b8 (x := 0) (by omega)), (b16 (x := 0) (by omega)), (b16 (x := 0) (by omega)), (b16 (x := C.byteV) (by omega)), (b16 (x := 0) (by omega)), (b16 (x := 0) (by omega)), (b16 (x := 0) (by omega)), (b16 (x := 0) (by omega)), (b16 (x := 0) (by omega)), (b16 (x := 0) (by omega)), (b16 (x := 0) (by omega)), (b8 (x := 0) (by omega)), (b8 (x := 0) (by omega)), (b8 (x := 0) (by omega)), (b8 (x := 0) (by omega)), (b8 (x := 0) (by omega))⟩⟩⟩, U20⟩
 have q10p := ne_of_beqi q10
 refine sg <| Pl 2 <| nt <| cb ((c == 11)) (fun q21 => ?_) (fun q21 => ?_)
 have q21p := eq_of_beqi q21
 refine sg <| Pl 2 <| L0 <| Oc <| m3 (busy_any hC) fun w22 hc23 hu24 hr25 => Pl 2 <| ?_
 have r26 := ub1 hu24 (Ne.symm hne) hm
 refine L0 <| Ost r26 9 (mG c 0 0 0 0 0 0 0 0 C.wordV 0 0 nS nS nS nS 0 0 0 0 0 nS) fun w27 B28 hu29 => nt <| go <| Pl 2 <| ?_
 have r30 := CurAt.upd hc23 hu29 (not_cons hne not0) (safe_cons (safe1 r26 (by decide)) safe0)
 refine L0 <| Oc <| m3 (word_any r30) fun w31 hc32 hu33 hr34 => Pl 2 <| ?_
 have r35 := ub1 hu33 (Ne.symm hne) B28
 refine L0 <| Ost r35 10 (mG c 0 0 0 0 0 0 0 0 C.wordV ((busyC C).wordV) 0 nS nS nS nS 0 0 0 0 0 nS) fun w36 B37 hu38 => nl <| bn <| rm (.tuple #[]) <| ?_
 have hs : answerR c C = (((busyC C).wordsC 1), (Msg.mk c 0 0 0 0 0 0 0 0 C.wordV ((busyC C).wordV) 0 [] [] [] [] 0 0 0 0 0 [])) := by
   unfold answerR ans12 ansL
   (try simp only [q10, q21, bs, if_true, if_false, decide_true, decide_false, reduceIte])
   all_goals rfl
 rw [hs]
 have r39 := CurAt.upd hc32 hu38 (not_cons hne not0) (safe_cons (safe1 r35 (by decide)) safe0)
 have U40 := u1 (Upd.mono (S' := [g, gm]) hu24 (ac im all0)) hu29 im
 have U41 := u1 U40 hu33 im
 have U42 := u1 U41 hu38 im
 exact ⟨rfl, r39, ⟨_, ⟨B37, rfl⟩, ⟨_, _, _, _, _, rfl, RdG.nil .., RdG.nil .., RdG.nil .., RdG.nil .., RdG.nil .., ⟨(b8 (x := c) (by omega)), (b8 (x := 0) (by omega)), (b16 (x := 0) (by omega)), (b16 (x := 0) (by omega)), (b16 (x := 0) (by omega)), (b16 (x := 0) (by omega)), (b16 (x := 0) (by omega)), (b16 (x := 0) (by omega)), (b16 (x := 0) (by omega)), (b16 (x := C.wordV) (by omega)), (b16 (x := (busyC C).wordV) (by omega)), (b16 (x := 0) (by omega)), (b8 (x := 0) (by omega)), (b8 (x := 0) (by omega)), (b8 (x := 0) (by omega)), (b8 (x := 0) (by omega)), (b8 (x := 0) (by omega))⟩⟩⟩, U42⟩
 have q21p := ne_of_beqi q21
 refine sg <| Pl 2 <| nt <| cb ((c == 12)) (fun q43 => ?_) (fun q43 => ?_)
 have q43p := eq_of_beqi q43
 refine sg <| Pl 1 <| L0 <| Oc <| m3 (byte_any hC) fun w44 hc45 hu46 hr47 => L0 <| Oi C.byteV <| Pl 1 <| ng <| Pl 4 <| cu 3 [38] 41 (((decide (6 ≤ C.byteV)) && (decide (C.byteV ≤ 70)))) (fun K K49 => ?_) ?_
 refine bl 38 ((decide (6 ≤ C.byteV))) (fun q48 => ?_) (fun q48 => ?_)
 have q48p := of_decide_eq_true q48
 exact Pl 3 <| ce K49 (decide (C.byteV ≤ 70)) (by rw [q48]; rfl)
 have q48p := of_decide_eq_false q48
 exact Pl 3 <| ce K49 false (by rw [q48]; rfl)
 refine L0 <| Oc <| m2 (need_any (((decide (6 ≤ C.byteV)) && (decide (C.byteV ≤ 70)))) 5 hc45) fun w50 hc51 hu52 => ?_
 refine ab hc51 fun x53 ex54 hc55 => ?_
 refine ng <| Pl 2 <| L0 <| Oc <| m3 (busy_any hc55) fun w56 hc57 hu58 hr59 => Pl 2 <| ?_
 have U60 := u1 hu46 hu52 im
 have U61 := u1 U60 hu58 im
 have r62 := ub1 U61 (Ne.symm hne) hm
 refine L0 <| Ost r62 9 (mG c 0 0 0 0 0 0 0 0 x53.wordV 0 0 nS nS nS nS 0 0 0 0 0 nS) fun w63 B64 hu65 => ng <| Pl 3 <| ?_
 have r66 := CurAt.upd hc57 hu65 (not_cons hne not0) (safe_cons (safe1 r62 (by decide)) safe0)
 refine L0 <| Oc <| m3 (word_any r66) fun w67 hc68 hu69 hr70 => Pl 1 <| L0 <| Oc <| m3 (word_any hc68) fun w71 hc72 hu73 hr74 => ?_
 refine ab hc72 fun x75 ex76 hc77 => ?_
 refine Pl 2 <| ?_
 have U78 := u1 hu69 hu73 im
 have r79 := ub1 U78 (Ne.symm hne) B64
 refine L0 <| Ost r79 10 (mG c 0 0 0 0 0 0 0 0 x53.wordV ((busyC x53).wordV) 0 nS nS nS nS 0 0 0 0 0 nS) fun w80 B81 hu82 => Pl 2 <| L0 <| Ost B81 11 (mG c 0 0 0 0 0 0 0 0 x53.wordV ((busyC x53).wordV) (((busyC x53).wordsC 1).wordV) nS nS nS nS 0 0 0 0 0 nS) fun w83 B84 hu85 => nt <| go <| Pl 3 <| L0 <| Oi (C.byteV - 6) <| ?_
 have U86 := u1 hu82 hu85 im
 have r87 := CurAt.upd hc77 U86 (not_cons hne not0) (safe_cons (safe1 r79 (by decide)) safe0)
 refine L0 <| Oc <| sr3 (bytes_any (n := (C.byteV - 6)) r87) fun A94 cp95 w88 rd98 hl96 hm97 hc91 hu92 => ?_
 have hlb93 := Nat.le_trans (Cur.bytesR_le x75 (C.byteV - 6)) (CurAt.len r87)
 refine Pl 2 <| ?_
 have r99 := ub1 hu92 (Ne.symm hne) B84
 refine L0 <| Ost r99 14 (mG c 0 0 0 0 0 0 0 0 x53.wordV ((busyC x53).wordV) (((busyC x53).wordsC 1).wordV) nS nS (.slice A94 ((x75.bytesR (C.byteV - 6)).length) cp95) nS 0 0 0 0 0 nS) fun w100 B101 hu102 => nl <| bn <| rm (.tuple #[]) <| ?_
 subst ex76 ex54
 have r103 := RdB.upd' rd98 hu102 (safe_cons (safe1 r99 (by decide)) safe0)
 have hs : answerR c C = (((((busyC ((C.bytesC 1).need ((decide (6 ≤ C.byteV)) && (decide (C.byteV ≤ 70))) 5)).wordsC 1).wordsC 1).bytesC (C.byteV - 6)), (Msg.mk c 0 0 0 0 0 0 0 0 (((C.bytesC 1).need ((decide (6 ≤ C.byteV)) && (decide (C.byteV ≤ 70))) 5).wordV) ((busyC ((C.bytesC 1).need ((decide (6 ≤ C.byteV)) && (decide (C.byteV ≤ 70))) 5)).wordV) (((busyC ((C.bytesC 1).need ((decide (6 ≤ C.byteV)) && (decide (C.byteV ≤ 70))) 5)).wordsC 1).wordV) [] [] ((((busyC ((C.bytesC 1).need ((decide (6 ≤ C.byteV)) && (decide (C.byteV ≤ 70))) 5)).wordsC 1).wordsC 1).bytesR (C.byteV - 6)) [] 0 0 0 0 0 [])) := by
   unfold answerR ans12 ansL
   (try simp only [q10, q21, q43, bs, if_true, if_false, decide_true, decide_false, reduceIte])
   all_goals rfl
 rw [hs]
 have r104 := CurAt.upd hc91 hu102 (not_cons hne not0) (safe_cons (safe1 r99 (by decide)) safe0)
 have U105 := u1 (Upd.mono (S' := [g, gm]) U61 (ac im all0)) hu65 im
 have U106 := u1 U105 hu69 im
 have U107 := u1 U106 hu73 im
 have U108 := u1 U107 hu82 im
 have U109 := u1 U108 hu85 im
 have U110 := u1 U109 hu92 im
 have U111 := u1 U110 hu102 im
 exact ⟨rfl, r104, ⟨_, ⟨B101, rfl⟩, ⟨_, _, _, _, _, rfl, RdG.nil .., RdG.nil .., r103, RdG.nil .., RdG.nil .., ⟨(b8 (x := c) (by omega)), (b8 (x := 0) (by omega)), (b16 (x := 0) (by omega)), (b16 (x := 0) (by omega)), (b16 (x := 0) (by omega)), (b16 (x := 0) (by omega)), (b16 (x := 0) (by omega)), (b16 (x := 0) (by omega)), (b16 (x := 0) (by omega)), (b16 (x := ((C.bytesC 1).need ((decide (6 ≤ C.byteV)) && (decide (C.byteV ≤ 70))) 5).wordV) (by omega)), (b16 (x := (busyC ((C.bytesC 1).need ((decide (6 ≤ C.byteV)) && (decide (C.byteV ≤ 70))) 5)).wordV) (by omega)), (b16 (x := ((busyC ((C.bytesC 1).need ((decide (6 ≤ C.byteV)) && (decide (C.byteV ≤ 70))) 5)).wordsC 1).wordV) (by omega)), (b8 (x := 0) (by omega)), (b8 (x := 0) (by omega)), (b8 (x := 0) (by omega)), (b8 (x := 0) (by omega)), (b8 (x := 0) (by omega))⟩⟩⟩, U111⟩
 have q43p := ne_of_beqi q43
 refine sg <| Pl 2 <| nt <| cb ((c == 17)) (fun q112 => ?_) (fun q112 => ?_)
 have q112p := eq_of_beqi q112
 refine sg <| Pl 1 <| L0 <| Oc <| m3 (byte_any hC) fun w113 hc114 hu115 hr116 => L0 <| Oi C.byteV <| Pl 1 <| ng <| Pl 4 <| cu 3 [73] 76 (((decide (1 ≤ C.byteV)) && (decide (C.byteV ≤ 251)))) (fun K K118 => ?_) ?_
 refine bl 73 ((decide (1 ≤ C.byteV))) (fun q117 => ?_) (fun q117 => ?_)
 have q117p := of_decide_eq_true q117
 exact Pl 3 <| ce K118 (decide (C.byteV ≤ 251)) (by rw [q117]; rfl)
 have q117p := of_decide_eq_false q117
 exact Pl 3 <| ce K118 false (by rw [q117]; rfl)
 refine L0 <| Oc <| m2 (need_any (((decide (1 ≤ C.byteV)) && (decide (C.byteV ≤ 251)))) 5 hc114) fun w119 hc120 hu121 => ?_
 refine ab hc120 fun x122 ex123 hc124 => ?_
 refine nt <| go <| Pl 3 <| L0 <| Oc <| sr3 (bytes_any (n := C.byteV) hc124) fun A131 cp132 w125 rd135 hl133 hm134 hc128 hu129 => ?_
 have hlb130 := Nat.le_trans (Cur.bytesR_le x122 C.byteV) (CurAt.len hc124)
 refine Pl 2 <| ?_
 have U136 := u1 hu115 hu121 im
 have U137 := u1 U136 hu129 im
 have r138 := ub1 U137 (Ne.symm hne) hm
 refine L0 <| Ost r138 14 (mG c 0 0 0 0 0 0 0 0 0 0 0 nS nS (.slice A131 ((x122.bytesR C.byteV).length) cp132) nS 0 0 0 0 0 nS) fun w139 B140 hu141 => nl <| bn <| rm (.tuple #[]) <| ?_
 subst ex123
 have r142 := RdB.upd' rd135 hu141 (safe_cons (safe1 r138 (by decide)) safe0)
 have hs : answerR c C = ((((C.bytesC 1).need ((decide (1 ≤ C.byteV)) && (decide (C.byteV ≤ 251))) 5).bytesC C.byteV), (Msg.mk c 0 0 0 0 0 0 0 0 0 0 0 [] [] (((C.bytesC 1).need ((decide (1 ≤ C.byteV)) && (decide (C.byteV ≤ 251))) 5).bytesR C.byteV) [] 0 0 0 0 0 [])) := by
   unfold answerR ans12 ansL
   (try simp only [q10, q21, q43, q112, bs, if_true, if_false, decide_true, decide_false, reduceIte])
   all_goals rfl
 rw [hs]
 have r143 := CurAt.upd hc128 hu141 (not_cons hne not0) (safe_cons (safe1 r138 (by decide)) safe0)
 have U144 := u1 (Upd.mono (S' := [g, gm]) U137 (ac im all0)) hu141 im
 exact ⟨rfl, r143, ⟨_, ⟨B140, rfl⟩, ⟨_, _, _, _, _, rfl, RdG.nil .., RdG.nil .., r142, RdG.nil .., RdG.nil .., ⟨(b8 (x := c) (by omega)), (b8 (x := 0) (by omega)), (b16 (x := 0) (by omega)), (b16 (x := 0) (by omega)), (b16 (x := 0) (by omega)), (b16 (x := 0) (by omega)), (b16 (x := 0) (by omega)), (b16 (x := 0) (by omega)), (b16 (x := 0) (by omega)), (b16 (x := 0) (by omega)), (b16 (x := 0) (by omega)), (b16 (x := 0) (by omega)), (b8 (x := 0) (by omega)), (b8 (x := 0) (by omega)), (b8 (x := 0) (by omega)), (b8 (x := 0) (by omega)), (b8 (x := 0) (by omega))⟩⟩⟩, U144⟩
 have q112p := ne_of_beqi q112
 refine sk <| bn <| rm (.tuple #[]) <| ?_
 have hs : answerR c C = (C, (Msg.mk c 0 0 0 0 0 0 0 0 0 0 0 [] [] [] [] 0 0 0 0 0 [])) := by
   unfold answerR ans12 ansL
   (try simp only [q10, q21, q43, q112, bs, if_true, if_false, decide_true, decide_false, reduceIte])
   all_goals rfl
 rw [hs]
 exact ⟨rfl, hC, ⟨_, ⟨hm, rfl⟩, ⟨_, _, _, _, _, rfl, RdG.nil .., RdG.nil .., RdG.nil .., RdG.nil .., RdG.nil .., ⟨(b8 (x := c) (by omega)), (b8 (x := 0) (by omega)), (b16 (x := 0) (by omega)), (b16 (x := 0) (by omega)), (b16 (x := 0) (by omega)), (b16 (x := 0) (by omega)), (b16 (x := 0) (by omega)), (b16 (x := 0) (by omega)), (b16 (x := 0) (by omega)), (b16 (x := 0) (by omega)), (b16 (x := 0) (by omega)), (b16 (x := 0) (by omega)), (b8 (x := 0) (by omega)), (b8 (x := 0) (by omega)), (b8 (x := 0) (by omega)), (b8 (x := 0) (by omega)), (b8 (x := 0) (by omega))⟩⟩⟩, (Upd.mono (S' := [g, gm]) (Upd.refl [] _) all0)⟩
def diagForm (dir c : Int) (C : Cur) : Option (Cur × Msg) :=
  if c == 8 then some (lineR dir c C)
  else if c == 7 || c == 11 || c == 12 || c == 17 then (if dir == 1 then some (answerR c C) else some (C, { Msg.zero with code := c }))
  else none
set_option maxRecDepth 100000 in
set_option maxHeartbeats 4000000 in
theorem diag_parse_0 {m : Bool} {A : Option Addr} {cp : Nat} {b : List Int} {w : World} {c : Int} (hcode : B8 c) (hsl : RdB m w (.slice A b.length cp) b) (hb : b.length ≤ 1048576) :
    Calls Try.prog 41 #[.int .i64 0, .int .u8 c, .slice A b.length cp] w (PMsg (parseOf diagForm 0 c b) w) := by
 obtain ⟨hcode1, hcode2⟩ := hcode
 have hln : (b.length : Int) ≤ 1048576 := by omega
 refine en 47 Try.func41 rfl <| sg <| L0 <| Oal mZ fun g10 w11 hg12 B13 hu14 => Pl 1 <| nt <| sq <| sg <| Pl 6 <| nt <| c0 <| ?_
 refine skn <| sg <| Pl 2 <| L0 <| Oal mZ fun g15 w16 hg17 B18 hu19 => L0 <| Osw B18 (mC c) fun w20 B21 hu22 => ng <| Pl 1 <| ?_
 have U23 := ut0 hu14 hu19
 have U24 := u1 U23 hu22 (ni hu14.size hg17)
 have r25 := RdB.old hsl U24
 refine L0 <| Oc <| e3 (new_any r25 (by omega)) fun g27 w26 hg28 hc29 hu30 => Pl 1 <| nt <| sq <| sg <| Pl 1 <| nt <| bk <| sg <| Pl 2 <| nl <| ?_
 refine tn <| ?_
 have U31 := ut0 U24 hu30
 refine cb ((c == 8)) (fun q32 => ?_) (fun q32 => ?_)
 have q32p := eq_of_beqi q32
 refine go <| Pl 2 <| ?_
 have r33 := ub hu30 B21
 have ne40 := nb (blk_lt B18) hu22.size hg28
 refine L0 <| Oc <| m3 (line_any (dir := 0) (c := c) ⟨hcode1, hcode2⟩ hc29 r33 (Ne.symm ne40)) fun w34 hc35 hx44 hu39 => ?_
 obtain ⟨cs36, hm37, hM38⟩ := hx44
 refine ab hc35 fun x41 ex42 hc43 => ?_
 refine nl <| bn <| tn <| sg <| Pl 1 <| L0 <| Oc <| m2 (end_any hc43) fun w45 hc46 hu47 => nt <| sq <| sg <| Pl 1 <| L0 <| Oc <| mq (err_any hc46) <| ?_
 have hl48 := CurAt.len hc46
 refine Pl 1 <| ng <| Pl 2 <| nt <| ?_
 have U49 := ut U31 hu39 (ac (ni U24.size hg28) (ac (ni hu14.size hg17) all0))
 have U50 := u1 U49 hu47 (ni U24.size hg28)
 refine cb ((x41.endC.e != 0)) (fun q51 => ?_) (fun q51 => ?_)
 have q51p := ne_of_bnei q51
 refine sg <| Pl 2 <| ?_
 have U52 := u1 hu19 hu22 (nr hg17)
 have U53 := ut0 U52 hu30
 have U54 := ut U53 hu39 (ac (ni U52.size hg28) (ac (nr hg17) all0))
 have U55 := u1 U54 hu47 (ni U52.size hg28)
 have r56 := ub U55 B13
 refine L0 <| Osw r56 mZ fun w57 B58 hu59 => Pl 1 <| nt <| rt <| tr <| rct B58 (.int .i64 x41.endC.e) <| ?_
 subst ex42
 have U60 := u1 U50 hu59 (nr hg12)
 have hs : parseOf diagForm 0 c b = finish ((lineR 0 c (Cur.mk b false 0)).2) ((lineR 0 c (Cur.mk b false 0)).1) := by
   unfold parseOf diagForm 
   (try simp only [q32, q51, bs, if_true, if_false, decide_true, decide_false, eq_self, true_or, or_true, or_false, false_or, if_true, if_false, i00, i01, i10, i11, reduceIte])
   all_goals rfl
 rw [hs]
 exact finish_bad q51p U60
 have q51p := eq_of_bnei q51
 refine skn <| sg <| ?_
 have r61 := ub1 hu47 ne40 hm37.1
 refine L0 <| Olw (hz := (by rw [hm37.2]; exact msg_size)) r61 <| ?_
 have U62 := u1 hu19 hu22 (nr hg17)
 have U63 := ut0 U62 hu30
 have U64 := ut U63 hu39 (ac (ni U62.size hg28) (ac (nr hg17) all0))
 have U65 := u1 U64 hu47 (ni U62.size hg28)
 have r66 := ub U65 B13
 refine L0 <| Osw (hz := (by rw [hm37.2]; exact msg_size)) (hv := hM38.size) (h1 := hM38.one) r66 (cs36) fun w67 B68 hu69 => Pl 1 <| nt <| rt <| rctx 22 hm37.2 B68 (.int .i64 0) <| ?_
 subst ex42
 have U70 := u1 U50 hu69 (nr hg12)
 have hs : parseOf diagForm 0 c b = finish ((lineR 0 c (Cur.mk b false 0)).2) ((lineR 0 c (Cur.mk b false 0)).1) := by
   unfold parseOf diagForm 
   (try simp only [q32, q51, bs, if_true, if_false, decide_true, decide_false, eq_self, true_or, or_true, or_false, false_or, if_true, if_false, i00, i01, i10, i11, reduceIte])
   all_goals rfl
 rw [hs]
 have U71 := u1 (Upd.mono (S' := [g27, g10]) hu47 (ac im all0)) hu69 im
 have r72 := ub U64 B13
 have r73 := MsgRd.upd hM38 U71 (safe_cons (CurAt.safe hc43 _ (by decide)) (safe_cons (safe1 r72 (by decide)) safe0))
 exact finish_ok q51p r73 U70
 have q32p := ne_of_beqi q32
 refine sq <| sg <| Pl 2 <| nt <| cb ((c == 7)) (fun q74 => ?_) (fun q74 => ?_)
 have q74p := eq_of_beqi q74
 refine skn <| ct q74 <| sg <| Pl 2 <| nt <| c0 <| sk <| bn <| tn <| sg <| ?_
 refine Pl 1 <| L0 <| Oc <| m2 (end_any hc29) fun w75 hc76 hu77 => nt <| sq <| sg <| Pl 1 <| L0 <| Oc <| mq (err_any hc76) <| ?_
 have hl78 := CurAt.len hc76
 refine Pl 1 <| ng <| Pl 2 <| nt <| ?_
 have U79 := u1 U31 hu77 (ni U24.size hg28)
 refine cb (((((Cur.mk b false 0).endC).e) != 0)) (fun q80 => ?_) (fun q80 => ?_)
 have q80p := ne_of_bnei q80
 refine sg <| Pl 2 <| ?_
 have U81 := u1 hu19 hu22 (nr hg17)
 have U82 := ut0 U81 hu30
 have U83 := u1 U82 hu77 (ni U81.size hg28)
 have r84 := ub U83 B13
 refine L0 <| Osw r84 mZ fun w85 B86 hu87 => Pl 1 <| nt <| rt <| tr <| rct B86 (.int .i64 (((Cur.mk b false 0).endC).e)) <| ?_
 have U88 := u1 U79 hu87 (nr hg12)
 have hs : parseOf diagForm 0 c b = finish (Msg.mk c 0 0 0 0 0 0 0 0 0 0 0 [] [] [] [] 0 0 0 0 0 []) (Cur.mk b false 0) := by
   unfold parseOf diagForm 
   (try simp only [q32, q74, q80, bs, if_true, if_false, decide_true, decide_false, eq_self, true_or, or_true, or_false, false_or, if_true, if_false, i00, i01, i10, i11, reduceIte])
   all_goals rfl
 rw [hs]
 exact finish_bad q80p U88
 have q80p := eq_of_bnei q80
 refine skn <| sg <| ?_
 have U89 := u1 hu30 hu77 (nr hg28)
 have r90 := ub U89 B21
 refine L0 <| Olw r90 <| ?_
 have U91 := u1 hu19 hu22 (nr hg17)
 have U92 := ut0 U91 hu30
 have U93 := u1 U92 hu77 (ni U91.size hg28)
 have r94 := ub U93 B13
 refine L0 <| Osw r94 (mC c) fun w95 B96 hu97 => Pl 1 <| nt <| rt <| rct B96 (.int .i64 0) <| ?_
 have U98 := u1 U79 hu97 (nr hg12)
 have hs : parseOf diagForm 0 c b = finish (Msg.mk c 0 0 0 0 0 0 0 0 0 0 0 [] [] [] [] 0 0 0 0 0 []) (Cur.mk b false 0) := by
   unfold parseOf diagForm 
   (try simp only [q32, q74, q80, bs, if_true, if_false, decide_true, decide_false, eq_self, true_or, or_true, or_false, false_or, if_true, if_false, i00, i01, i10, i11, reduceIte])
   all_goals rfl
 rw [hs]
 exact finish_ok q80p ⟨_, _, _, _, _, rfl, RdG.nil .., RdG.nil .., RdG.nil .., RdG.nil .., RdG.nil .., ⟨(b8 (x := c) (by omega)), (b8 (x := 0) (by omega)), (b16 (x := 0) (by omega)), (b16 (x := 0) (by omega)), (b16 (x := 0) (by omega)), (b16 (x := 0) (by omega)), (b16 (x := 0) (by omega)), (b16 (x := 0) (by omega)), (b16 (x := 0) (by omega)), (b16 (x := 0) (by omega)), (b16 (x := 0) (by omega)), (b16 (x := 0) (by omega)), (b8 (x := 0) (by omega)), (b8 (x := 0) (by omega)), (b8 (x := 0) (by omega)), (b8 (x := 0) (by omega)), (b8 (x := 0) (by omega))⟩⟩ U98
 have q74p := ne_of_beqi q74
 refine sg <| Pl 2 <| nt <| cb ((c == 11)) (fun q99 => ?_) (fun q99 => ?_)
 have q99p := eq_of_beqi q99
 refine skn <| ct q99 <| sg <| Pl 2 <| nt <| c0 <| sk <| bn <| tn <| sg <| ?_
 refine Pl 1 <| L0 <| Oc <| m2 (end_any hc29) fun w100 hc101 hu102 => nt <| sq <| sg <| Pl 1 <| L0 <| Oc <| mq (err_any hc101) <| ?_
 have hl103 := CurAt.len hc101
 refine Pl 1 <| ng <| Pl 2 <| nt <| ?_
 have U104 := u1 U31 hu102 (ni U24.size hg28)
 refine cb (((((Cur.mk b false 0).endC).e) != 0)) (fun q105 => ?_) (fun q105 => ?_)
 have q105p := ne_of_bnei q105
 refine sg <| Pl 2 <| ?_
 have U106 := u1 hu19 hu22 (nr hg17)
 have U107 := ut0 U106 hu30
 have U108 := u1 U107 hu102 (ni U106.size hg28)
 have r109 := ub U108 B13
 refine L0 <| Osw r109 mZ fun w110 B111 hu112 => Pl 1 <| nt <| rt <| tr <| rct B111 (.int .i64 (((Cur.mk b false 0).endC).e)) <| ?_
 have U113 := u1 U104 hu112 (nr hg12)
 have hs : parseOf diagForm 0 c b = finish (Msg.mk c 0 0 0 0 0 0 0 0 0 0 0 [] [] [] [] 0 0 0 0 0 []) (Cur.mk b false 0) := by
   unfold parseOf diagForm 
   (try simp only [q32, q74, q99, q105, bs, if_true, if_false, decide_true, decide_false, eq_self, true_or, or_true, or_false, false_or, if_true, if_false, i00, i01, i10, i11, reduceIte])
   all_goals rfl
 rw [hs]
 exact finish_bad q105p U113
 have q105p := eq_of_bnei q105
 refine skn <| sg <| ?_
 have U114 := u1 hu30 hu102 (nr hg28)
 have r115 := ub U114 B21
 refine L0 <| Olw r115 <| ?_
 have U116 := u1 hu19 hu22 (nr hg17)
 have U117 := ut0 U116 hu30
 have U118 := u1 U117 hu102 (ni U116.size hg28)
 have r119 := ub U118 B13
 refine L0 <| Osw r119 (mC c) fun w120 B121 hu122 => Pl 1 <| nt <| rt <| rct B121 (.int .i64 0) <| ?_
 have U123 := u1 U104 hu122 (nr hg12)
 have hs : parseOf diagForm 0 c b = finish (Msg.mk c 0 0 0 0 0 0 0 0 0 0 0 [] [] [] [] 0 0 0 0 0 []) (Cur.mk b false 0) := by
   unfold parseOf diagForm 
   (try simp only [q32, q74, q99, q105, bs, if_true, if_false, decide_true, decide_false, eq_self, true_or, or_true, or_false, false_or, if_true, if_false, i00, i01, i10, i11, reduceIte])
   all_goals rfl
 rw [hs]
 exact finish_ok q105p ⟨_, _, _, _, _, rfl, RdG.nil .., RdG.nil .., RdG.nil .., RdG.nil .., RdG.nil .., ⟨(b8 (x := c) (by omega)), (b8 (x := 0) (by omega)), (b16 (x := 0) (by omega)), (b16 (x := 0) (by omega)), (b16 (x := 0) (by omega)), (b16 (x := 0) (by omega)), (b16 (x := 0) (by omega)), (b16 (x := 0) (by omega)), (b16 (x := 0) (by omega)), (b16 (x := 0) (by omega)), (b16 (x := 0) (by omega)), (b16 (x := 0) (by omega)), (b8 (x := 0) (by omega)), (b8 (x := 0) (by omega)), (b8 (x := 0) (by omega)), (b8 (x := 0) (by omega)), (b8 (x := 0) (by omega))⟩⟩ U123
 have q99p := ne_of_beqi q99
 refine sg <| Pl 2 <| nt <| cb ((c == 12)) (fun q124 => ?_) (fun q124 => ?_)
 have q124p := eq_of_beqi q124
 refine skn <| ct q124 <| sg <| Pl 2 <| nt <| c0 <| sk <| bn <| tn <| sg <| ?_
 refine Pl 1 <| L0 <| Oc <| m2 (end_any hc29) fun w125 hc126 hu127 => nt <| sq <| sg <| Pl 1 <| L0 <| Oc <| mq (err_any hc126) <| ?_
 have hl128 := CurAt.len hc126
 refine Pl 1 <| ng <| Pl 2 <| nt <| ?_
 have U129 := u1 U31 hu127 (ni U24.size hg28)
 refine cb (((((Cur.mk b false 0).endC).e) != 0)) (fun q130 => ?_) (fun q130 => ?_)
 have q130p := ne_of_bnei q130
 refine sg <| Pl 2 <| ?_
 have U131 := u1 hu19 hu22 (nr hg17)
 have U132 := ut0 U131 hu30
 have U133 := u1 U132 hu127 (ni U131.size hg28)
 have r134 := ub U133 B13
 refine L0 <| Osw r134 mZ fun w135 B136 hu137 => Pl 1 <| nt <| rt <| tr <| rct B136 (.int .i64 (((Cur.mk b false 0).endC).e)) <| ?_
 have U138 := u1 U129 hu137 (nr hg12)
 have hs : parseOf diagForm 0 c b = finish (Msg.mk c 0 0 0 0 0 0 0 0 0 0 0 [] [] [] [] 0 0 0 0 0 []) (Cur.mk b false 0) := by
   unfold parseOf diagForm 
   (try simp only [q32, q74, q99, q124, q130, bs, if_true, if_false, decide_true, decide_false, eq_self, true_or, or_true, or_false, false_or, if_true, if_false, i00, i01, i10, i11, reduceIte])
   all_goals rfl
 rw [hs]
 exact finish_bad q130p U138
 have q130p := eq_of_bnei q130
 refine skn <| sg <| ?_
 have U139 := u1 hu30 hu127 (nr hg28)
 have r140 := ub U139 B21
 refine L0 <| Olw r140 <| ?_
 have U141 := u1 hu19 hu22 (nr hg17)
 have U142 := ut0 U141 hu30
 have U143 := u1 U142 hu127 (ni U141.size hg28)
 have r144 := ub U143 B13
 refine L0 <| Osw r144 (mC c) fun w145 B146 hu147 => Pl 1 <| nt <| rt <| rct B146 (.int .i64 0) <| ?_
 have U148 := u1 U129 hu147 (nr hg12)
 have hs : parseOf diagForm 0 c b = finish (Msg.mk c 0 0 0 0 0 0 0 0 0 0 0 [] [] [] [] 0 0 0 0 0 []) (Cur.mk b false 0) := by
   unfold parseOf diagForm 
   (try simp only [q32, q74, q99, q124, q130, bs, if_true, if_false, decide_true, decide_false, eq_self, true_or, or_true, or_false, false_or, if_true, if_false, i00, i01, i10, i11, reduceIte])
   all_goals rfl
 rw [hs]
 exact finish_ok q130p ⟨_, _, _, _, _, rfl, RdG.nil .., RdG.nil .., RdG.nil .., RdG.nil .., RdG.nil .., ⟨(b8 (x := c) (by omega)), (b8 (x := 0) (by omega)), (b16 (x := 0) (by omega)), (b16 (x := 0) (by omega)), (b16 (x := 0) (by omega)), (b16 (x := 0) (by omega)), (b16 (x := 0) (by omega)), (b16 (x := 0) (by omega)), (b16 (x := 0) (by omega)), (b16 (x := 0) (by omega)), (b16 (x := 0) (by omega)), (b16 (x := 0) (by omega)), (b8 (x := 0) (by omega)), (b8 (x := 0) (by omega)), (b8 (x := 0) (by omega)), (b8 (x := 0) (by omega)), (b8 (x := 0) (by omega))⟩⟩ U148
 have q124p := ne_of_beqi q124
 refine go <| Pl 2 <| nt <| cb ((c == 17)) (fun q149 => ?_) (fun q149 => ?_)
 have q149p := eq_of_beqi q149
 refine sg <| Pl 2 <| nt <| c0 <| sk <| bn <| tn <| sg <| Pl 1 <| L0 <| Oc <| m2 (end_any hc29) fun w150 hc151 hu152 => nl <| ?_
 refine tn <| sq <| sg <| Pl 1 <| L0 <| Oc <| mq (err_any hc151) <| ?_
 have hl153 := CurAt.len hc151
 refine Pl 1 <| ng <| Pl 2 <| nt <| ?_
 have U154 := u1 U31 hu152 (ni U24.size hg28)
 refine cb (((((Cur.mk b false 0).endC).e) != 0)) (fun q155 => ?_) (fun q155 => ?_)
 have q155p := ne_of_bnei q155
 refine sg <| Pl 2 <| ?_
 have U156 := u1 hu19 hu22 (nr hg17)
 have U157 := ut0 U156 hu30
 have U158 := u1 U157 hu152 (ni U156.size hg28)
 have r159 := ub U158 B13
 refine L0 <| Osw r159 mZ fun w160 B161 hu162 => Pl 1 <| nt <| rt <| tr <| rct B161 (.int .i64 (((Cur.mk b false 0).endC).e)) <| ?_
 have U163 := u1 U154 hu162 (nr hg12)
 have hs : parseOf diagForm 0 c b = finish (Msg.mk c 0 0 0 0 0 0 0 0 0 0 0 [] [] [] [] 0 0 0 0 0 []) (Cur.mk b false 0) := by
   unfold parseOf diagForm 
   (try simp only [q32, q74, q99, q124, q149, q155, bs, if_true, if_false, decide_true, decide_false, eq_self, true_or, or_true, or_false, false_or, if_true, if_false, i00, i01, i10, i11, reduceIte])
   all_goals rfl
 rw [hs]
 exact finish_bad q155p U163
 have q155p := eq_of_bnei q155
 refine skn <| sg <| ?_
 have U164 := u1 hu30 hu152 (nr hg28)
 have r165 := ub U164 B21
 refine L0 <| Olw r165 <| ?_
 have U166 := u1 hu19 hu22 (nr hg17)
 have U167 := ut0 U166 hu30
 have U168 := u1 U167 hu152 (ni U166.size hg28)
 have r169 := ub U168 B13
 refine L0 <| Osw r169 (mC c) fun w170 B171 hu172 => Pl 1 <| nt <| rt <| rct B171 (.int .i64 0) <| ?_
 have U173 := u1 U154 hu172 (nr hg12)
 have hs : parseOf diagForm 0 c b = finish (Msg.mk c 0 0 0 0 0 0 0 0 0 0 0 [] [] [] [] 0 0 0 0 0 []) (Cur.mk b false 0) := by
   unfold parseOf diagForm 
   (try simp only [q32, q74, q99, q124, q149, q155, bs, if_true, if_false, decide_true, decide_false, eq_self, true_or, or_true, or_false, false_or, if_true, if_false, i00, i01, i10, i11, reduceIte])
   all_goals rfl
 rw [hs]
 exact finish_ok q155p ⟨_, _, _, _, _, rfl, RdG.nil .., RdG.nil .., RdG.nil .., RdG.nil .., RdG.nil .., ⟨(b8 (x := c) (by omega)), (b8 (x := 0) (by omega)), (b16 (x := 0) (by omega)), (b16 (x := 0) (by omega)), (b16 (x := 0) (by omega)), (b16 (x := 0) (by omega)), (b16 (x := 0) (by omega)), (b16 (x := 0) (by omega)), (b16 (x := 0) (by omega)), (b16 (x := 0) (by omega)), (b16 (x := 0) (by omega)), (b16 (x := 0) (by omega)), (b8 (x := 0) (by omega)), (b8 (x := 0) (by omega)), (b8 (x := 0) (by omega)), (b8 (x := 0) (by omega)), (b8 (x := 0) (by omega))⟩⟩ U173
 have q149p := ne_of_beqi q149
 refine sg <| Pl 1 <| ?_
 have U174 := u1 hu19 hu22 (nr hg17)
 have U175 := ut0 U174 hu30
 have r176 := ub U175 B13
 refine L0 <| Osw r176 mZ fun w177 B178 hu179 => Pl 1 <| nt <| rt <| br <| tr <| rct B178 (.int .i64 4) <| ?_
 have U180 := u1 U31 hu179 (nr hg12)
 have hs : parseOf diagForm 0 c b = (Msg.zero, 4) := by
   unfold parseOf diagForm 
   (try simp only [q32, q74, q99, q124, q149, bs, if_true, if_false, decide_true, decide_false, eq_self, true_or, or_true, or_false, false_or, if_true, if_false, i00, i01, i10, i11, reduceIte])
   all_goals rfl
 rw [hs]
 exact bad_res U180
set_option maxRecDepth 100000 in
set_option maxHeartbeats 4000000 in
theorem diag_parse_1 {m : Bool} {A : Option Addr} {cp : Nat} {b : List Int} {w : World} {c : Int} (hcode : B8 c) (hsl : RdB m w (.slice A b.length cp) b) (hb : b.length ≤ 1048576) :
    Calls Try.prog 41 #[.int .i64 1, .int .u8 c, .slice A b.length cp] w (PMsg (parseOf diagForm 1 c b) w) := by
 obtain ⟨hcode1, hcode2⟩ := hcode
 have hln : (b.length : Int) ≤ 1048576 := by omega
 refine en 47 Try.func41 rfl <| sg <| L0 <| Oal mZ fun g10 w11 hg12 B13 hu14 => Pl 1 <| nt <| sq <| sg <| Pl 6 <| nt <| c0 <| ?_
 refine skn <| sg <| Pl 2 <| L0 <| Oal mZ fun g15 w16 hg17 B18 hu19 => L0 <| Osw B18 (mC c) fun w20 B21 hu22 => ng <| Pl 1 <| ?_
 have U23 := ut0 hu14 hu19
 have U24 := u1 U23 hu22 (ni hu14.size hg17)
 have r25 := RdB.old hsl U24
 refine L0 <| Oc <| e3 (new_any r25 (by omega)) fun g27 w26 hg28 hc29 hu30 => Pl 1 <| nt <| sq <| sg <| Pl 1 <| nt <| bk <| sg <| Pl 2 <| nl <| ?_
 refine tn <| ?_
 have U31 := ut0 U24 hu30
 refine cb ((c == 8)) (fun q32 => ?_) (fun q32 => ?_)
 have q32p := eq_of_beqi q32
 refine go <| Pl 2 <| ?_
 have r33 := ub hu30 B21
 have ne40 := nb (blk_lt B18) hu22.size hg28
 refine L0 <| Oc <| m3 (line_any (dir := 1) (c := c) ⟨hcode1, hcode2⟩ hc29 r33 (Ne.symm ne40)) fun w34 hc35 hx44 hu39 => ?_
 obtain ⟨cs36, hm37, hM38⟩ := hx44
 refine ab hc35 fun x41 ex42 hc43 => ?_
 refine nl <| bn <| tn <| sg <| Pl 1 <| L0 <| Oc <| m2 (end_any hc43) fun w45 hc46 hu47 => nt <| sq <| sg <| Pl 1 <| L0 <| Oc <| mq (err_any hc46) <| ?_
 have hl48 := CurAt.len hc46
 refine Pl 1 <| ng <| Pl 2 <| nt <| ?_
 have U49 := ut U31 hu39 (ac (ni U24.size hg28) (ac (ni hu14.size hg17) all0))
 have U50 := u1 U49 hu47 (ni U24.size hg28)
 refine cb ((x41.endC.e != 0)) (fun q51 => ?_) (fun q51 => ?_)
 have q51p := ne_of_bnei q51
 refine sg <| Pl 2 <| ?_
 have U52 := u1 hu19 hu22 (nr hg17)
 have U53 := ut0 U52 hu30
 have U54 := ut U53 hu39 (ac (ni U52.size hg28) (ac (nr hg17) all0))
 have U55 := u1 U54 hu47 (ni U52.size hg28)
 have r56 := ub U55 B13
 refine L0 <| Osw r56 mZ fun w57 B58 hu59 => Pl 1 <| nt <| rt <| tr <| rct B58 (.int .i64 x41.endC.e) <| ?_
 subst ex42
 have U60 := u1 U50 hu59 (nr hg12)
 have hs : parseOf diagForm 1 c b = finish ((lineR 1 c (Cur.mk b false 0)).2) ((lineR 1 c (Cur.mk b false 0)).1) := by
   unfold parseOf diagForm 
   (try simp only [q32, q51, bs, if_true, if_false, decide_true, decide_false, eq_self, true_or, or_true, or_false, false_or, if_true, if_false, i00, i01, i10, i11, reduceIte])
   all_goals rfl
 rw [hs]
 exact finish_bad q51p U60
 have q51p := eq_of_bnei q51
 refine skn <| sg <| ?_
 have r61 := ub1 hu47 ne40 hm37.1
 refine L0 <| Olw (hz := (by rw [hm37.2]; exact msg_size)) r61 <| ?_
 have U62 := u1 hu19 hu22 (nr hg17)
 have U63 := ut0 U62 hu30
 have U64 := ut U63 hu39 (ac (ni U62.size hg28) (ac (nr hg17) all0))
 have U65 := u1 U64 hu47 (ni U62.size hg28)
 have r66 := ub U65 B13
 refine L0 <| Osw (hz := (by rw [hm37.2]; exact msg_size)) (hv := hM38.size) (h1 := hM38.one) r66 (cs36) fun w67 B68 hu69 => Pl 1 <| nt <| rt <| rctx 22 hm37.2 B68 (.int .i64 0) <| ?_
 subst ex42
 have U70 := u1 U50 hu69 (nr hg12)
 have hs : parseOf diagForm 1 c b = finish ((lineR 1 c (Cur.mk b false 0)).2) ((lineR 1 c (Cur.mk b false 0)).1) := by
   unfold parseOf diagForm 
   (try simp only [q32, q51, bs, if_true, if_false, decide_true, decide_false, eq_self, true_or, or_true, or_false, false_or, if_true, if_false, i00, i01, i10, i11, reduceIte])
   all_goals rfl
 rw [hs]
 have U71 := u1 (Upd.mono (S' := [g27, g10]) hu47 (ac im all0)) hu69 im
 have r72 := ub U64 B13
 have r73 := MsgRd.upd hM38 U71 (safe_cons (CurAt.safe hc43 _ (by decide)) (safe_cons (safe1 r72 (by decide)) safe0))
 exact finish_ok q51p r73 U70
 have q32p := ne_of_beqi q32
 refine sq <| sg <| Pl 2 <| nt <| cb ((c == 7)) (fun q74 => ?_) (fun q74 => ?_)
 have q74p := eq_of_beqi q74
 refine skn <| ct q74 <| sg <| Pl 2 <| nt <| c1 <| go <| Pl 1 <| ?_
 have r75 := ub hu30 B21
 have ne82 := nb (blk_lt B18) hu22.size hg28
 refine L0 <| Oc <| m3 (answer_any (c := c) ⟨hcode1, hcode2⟩ hc29 r75 (Ne.symm ne82)) fun w76 hc77 hx86 hu81 => ?_
 obtain ⟨cs78, hm79, hM80⟩ := hx86
 refine ab hc77 fun x83 ex84 hc85 => ?_
 refine nl <| bn <| tn <| sg <| Pl 1 <| L0 <| Oc <| m2 (end_any hc85) fun w87 hc88 hu89 => nt <| sq <| sg <| Pl 1 <| L0 <| Oc <| mq (err_any hc88) <| ?_
 have hl90 := CurAt.len hc88
 refine Pl 1 <| ng <| Pl 2 <| nt <| ?_
 have U91 := ut U31 hu81 (ac (ni U24.size hg28) (ac (ni hu14.size hg17) all0))
 have U92 := u1 U91 hu89 (ni U24.size hg28)
 refine cb ((x83.endC.e != 0)) (fun q93 => ?_) (fun q93 => ?_)
 have q93p := ne_of_bnei q93
 refine sg <| Pl 2 <| ?_
 have U94 := u1 hu19 hu22 (nr hg17)
 have U95 := ut0 U94 hu30
 have U96 := ut U95 hu81 (ac (ni U94.size hg28) (ac (nr hg17) all0))
 have U97 := u1 U96 hu89 (ni U94.size hg28)
 have r98 := ub U97 B13
 refine L0 <| Osw r98 mZ fun w99 B100 hu101 => Pl 1 <| nt <| rt <| tr <| rct B100 (.int .i64 x83.endC.e) <| ?_
 subst ex84
 have U102 := u1 U92 hu101 (nr hg12)
 have hs : parseOf diagForm 1 c b = finish ((answerR c (Cur.mk b false 0)).2) ((answerR c (Cur.mk b false 0)).1) := by
   unfold parseOf diagForm 
   (try simp only [q32, q74, q93, bs, if_true, if_false, decide_true, decide_false, eq_self, true_or, or_true, or_false, false_or, if_true, if_false, i00, i01, i10, i11, reduceIte])
   all_goals rfl
 rw [hs]
 exact finish_bad q93p U102
 have q93p := eq_of_bnei q93
 refine skn <| sg <| ?_
 have r103 := ub1 hu89 ne82 hm79.1
 refine L0 <| Olw (hz := (by rw [hm79.2]; exact msg_size)) r103 <| ?_
 have U104 := u1 hu19 hu22 (nr hg17)
 have U105 := ut0 U104 hu30
 have U106 := ut U105 hu81 (ac (ni U104.size hg28) (ac (nr hg17) all0))
 have U107 := u1 U106 hu89 (ni U104.size hg28)
 have r108 := ub U107 B13
 refine L0 <| Osw (hz := (by rw [hm79.2]; exact msg_size)) (hv := hM80.size) (h1 := hM80.one) r108 (cs78) fun w109 B110 hu111 => Pl 1 <| nt <| rt <| rctx 22 hm79.2 B110 (.int .i64 0) <| ?_
 subst ex84
 have U112 := u1 U92 hu111 (nr hg12)
 have hs : parseOf diagForm 1 c b = finish ((answerR c (Cur.mk b false 0)).2) ((answerR c (Cur.mk b false 0)).1) := by
   unfold parseOf diagForm 
   (try simp only [q32, q74, q93, bs, if_true, if_false, decide_true, decide_false, eq_self, true_or, or_true, or_false, false_or, if_true, if_false, i00, i01, i10, i11, reduceIte])
   all_goals rfl
 rw [hs]
 have U113 := u1 (Upd.mono (S' := [g27, g10]) hu89 (ac im all0)) hu111 im
 have r114 := ub U106 B13
 have r115 := MsgRd.upd hM80 U113 (safe_cons (CurAt.safe hc85 _ (by decide)) (safe_cons (safe1 r114 (by decide)) safe0))
 exact finish_ok q93p r115 U112
 have q74p := ne_of_beqi q74
 refine sg <| Pl 2 <| nt <| cb ((c == 11)) (fun q116 => ?_) (fun q116 => ?_)
 have q116p := eq_of_beqi q116
 refine skn <| ct q116 <| sg <| Pl 2 <| nt <| c1 <| go <| Pl 1 <| ?_
 have r117 := ub hu30 B21
 have ne124 := nb (blk_lt B18) hu22.size hg28
 refine L0 <| Oc <| m3 (answer_any (c := c) ⟨hcode1, hcode2⟩ hc29 r117 (Ne.symm ne124)) fun w118 hc119 hx128 hu123 => ?_
 obtain ⟨cs120, hm121, hM122⟩ := hx128
 refine ab hc119 fun x125 ex126 hc127 => ?_
 refine nl <| bn <| tn <| sg <| Pl 1 <| L0 <| Oc <| m2 (end_any hc127) fun w129 hc130 hu131 => nt <| sq <| sg <| Pl 1 <| L0 <| Oc <| mq (err_any hc130) <| ?_
 have hl132 := CurAt.len hc130
 refine Pl 1 <| ng <| Pl 2 <| nt <| ?_
 have U133 := ut U31 hu123 (ac (ni U24.size hg28) (ac (ni hu14.size hg17) all0))
 have U134 := u1 U133 hu131 (ni U24.size hg28)
 refine cb ((x125.endC.e != 0)) (fun q135 => ?_) (fun q135 => ?_)
 have q135p := ne_of_bnei q135
 refine sg <| Pl 2 <| ?_
 have U136 := u1 hu19 hu22 (nr hg17)
 have U137 := ut0 U136 hu30
 have U138 := ut U137 hu123 (ac (ni U136.size hg28) (ac (nr hg17) all0))
 have U139 := u1 U138 hu131 (ni U136.size hg28)
 have r140 := ub U139 B13
 refine L0 <| Osw r140 mZ fun w141 B142 hu143 => Pl 1 <| nt <| rt <| tr <| rct B142 (.int .i64 x125.endC.e) <| ?_
 subst ex126
 have U144 := u1 U134 hu143 (nr hg12)
 have hs : parseOf diagForm 1 c b = finish ((answerR c (Cur.mk b false 0)).2) ((answerR c (Cur.mk b false 0)).1) := by
   unfold parseOf diagForm 
   (try simp only [q32, q74, q116, q135, bs, if_true, if_false, decide_true, decide_false, eq_self, true_or, or_true, or_false, false_or, if_true, if_false, i00, i01, i10, i11, reduceIte])
   all_goals rfl
 rw [hs]
 exact finish_bad q135p U144
 have q135p := eq_of_bnei q135
 refine skn <| sg <| ?_
 have r145 := ub1 hu131 ne124 hm121.1
 refine L0 <| Olw (hz := (by rw [hm121.2]; exact msg_size)) r145 <| ?_
 have U146 := u1 hu19 hu22 (nr hg17)
 have U147 := ut0 U146 hu30
 have U148 := ut U147 hu123 (ac (ni U146.size hg28) (ac (nr hg17) all0))
 have U149 := u1 U148 hu131 (ni U146.size hg28)
 have r150 := ub U149 B13
 refine L0 <| Osw (hz := (by rw [hm121.2]; exact msg_size)) (hv := hM122.size) (h1 := hM122.one) r150 (cs120) fun w151 B152 hu153 => Pl 1 <| nt <| rt <| rctx 22 hm121.2 B152 (.int .i64 0) <| ?_
 subst ex126
 have U154 := u1 U134 hu153 (nr hg12)
 have hs : parseOf diagForm 1 c b = finish ((answerR c (Cur.mk b false 0)).2) ((answerR c (Cur.mk b false 0)).1) := by
   unfold parseOf diagForm 
   (try simp only [q32, q74, q116, q135, bs, if_true, if_false, decide_true, decide_false, eq_self, true_or, or_true, or_false, false_or, if_true, if_false, i00, i01, i10, i11, reduceIte])
   all_goals rfl
 rw [hs]
 have U155 := u1 (Upd.mono (S' := [g27, g10]) hu131 (ac im all0)) hu153 im
 have r156 := ub U148 B13
 have r157 := MsgRd.upd hM122 U155 (safe_cons (CurAt.safe hc127 _ (by decide)) (safe_cons (safe1 r156 (by decide)) safe0))
 exact finish_ok q135p r157 U154
 have q116p := ne_of_beqi q116
 refine sg <| Pl 2 <| nt <| cb ((c == 12)) (fun q158 => ?_) (fun q158 => ?_)
 have q158p := eq_of_beqi q158
 refine skn <| ct q158 <| sg <| Pl 2 <| nt <| c1 <| go <| Pl 1 <| ?_
 have r159 := ub hu30 B21
 have ne166 := nb (blk_lt B18) hu22.size hg28
 refine L0 <| Oc <| m3 (answer_any (c := c) ⟨hcode1, hcode2⟩ hc29 r159 (Ne.symm ne166)) fun w160 hc161 hx170 hu165 => ?_
 obtain ⟨cs162, hm163, hM164⟩ := hx170
 refine ab hc161 fun x167 ex168 hc169 => ?_
 refine nl <| bn <| tn <| sg <| Pl 1 <| L0 <| Oc <| m2 (end_any hc169) fun w171 hc172 hu173 => nt <| sq <| sg <| Pl 1 <| L0 <| Oc <| mq (err_any hc172) <| ?_
 have hl174 := CurAt.len hc172
 refine Pl 1 <| ng <| Pl 2 <| nt <| ?_
 have U175 := ut U31 hu165 (ac (ni U24.size hg28) (ac (ni hu14.size hg17) all0))
 have U176 := u1 U175 hu173 (ni U24.size hg28)
 refine cb ((x167.endC.e != 0)) (fun q177 => ?_) (fun q177 => ?_)
 have q177p := ne_of_bnei q177
 refine sg <| Pl 2 <| ?_
 have U178 := u1 hu19 hu22 (nr hg17)
 have U179 := ut0 U178 hu30
 have U180 := ut U179 hu165 (ac (ni U178.size hg28) (ac (nr hg17) all0))
 have U181 := u1 U180 hu173 (ni U178.size hg28)
 have r182 := ub U181 B13
 refine L0 <| Osw r182 mZ fun w183 B184 hu185 => Pl 1 <| nt <| rt <| tr <| rct B184 (.int .i64 x167.endC.e) <| ?_
 subst ex168
 have U186 := u1 U176 hu185 (nr hg12)
 have hs : parseOf diagForm 1 c b = finish ((answerR c (Cur.mk b false 0)).2) ((answerR c (Cur.mk b false 0)).1) := by
   unfold parseOf diagForm 
   (try simp only [q32, q74, q116, q158, q177, bs, if_true, if_false, decide_true, decide_false, eq_self, true_or, or_true, or_false, false_or, if_true, if_false, i00, i01, i10, i11, reduceIte])
   all_goals rfl
 rw [hs]
 exact finish_bad q177p U186
 have q177p := eq_of_bnei q177
 refine skn <| sg <| ?_
 have r187 := ub1 hu173 ne166 hm163.1
 refine L0 <| Olw (hz := (by rw [hm163.2]; exact msg_size)) r187 <| ?_
 have U188 := u1 hu19 hu22 (nr hg17)
 have U189 := ut0 U188 hu30
 have U190 := ut U189 hu165 (ac (ni U188.size hg28) (ac (nr hg17) all0))
 have U191 := u1 U190 hu173 (ni U188.size hg28)
 have r192 := ub U191 B13
 refine L0 <| Osw (hz := (by rw [hm163.2]; exact msg_size)) (hv := hM164.size) (h1 := hM164.one) r192 (cs162) fun w193 B194 hu195 => Pl 1 <| nt <| rt <| rctx 22 hm163.2 B194 (.int .i64 0) <| ?_
 subst ex168
 have U196 := u1 U176 hu195 (nr hg12)
 have hs : parseOf diagForm 1 c b = finish ((answerR c (Cur.mk b false 0)).2) ((answerR c (Cur.mk b false 0)).1) := by
   unfold parseOf diagForm 
   (try simp only [q32, q74, q116, q158, q177, bs, if_true, if_false, decide_true, decide_false, eq_self, true_or, or_true, or_false, false_or, if_true, if_false, i00, i01, i10, i11, reduceIte])
   all_goals rfl
 rw [hs]
 have U197 := u1 (Upd.mono (S' := [g27, g10]) hu173 (ac im all0)) hu195 im
 have r198 := ub U190 B13
 have r199 := MsgRd.upd hM164 U197 (safe_cons (CurAt.safe hc169 _ (by decide)) (safe_cons (safe1 r198 (by decide)) safe0))
 exact finish_ok q177p r199 U196
 have q158p := ne_of_beqi q158
 refine go <| Pl 2 <| nt <| cb ((c == 17)) (fun q200 => ?_) (fun q200 => ?_)
 have q200p := eq_of_beqi q200
 refine sg <| Pl 2 <| nt <| c1 <| go <| Pl 1 <| ?_
 have r201 := ub hu30 B21
 have ne208 := nb (blk_lt B18) hu22.size hg28
 refine L0 <| Oc <| m3 (answer_any (c := c) ⟨hcode1, hcode2⟩ hc29 r201 (Ne.symm ne208)) fun w202 hc203 hx212 hu207 => ?_
 obtain ⟨cs204, hm205, hM206⟩ := hx212
 refine ab hc203 fun x209 ex210 hc211 => ?_
 refine nl <| bn <| tn <| sg <| Pl 1 <| L0 <| Oc <| m2 (end_any hc211) fun w213 hc214 hu215 => nt <| sq <| sg <| Pl 1 <| L0 <| Oc <| mq (err_any hc214) <| ?_
 have hl216 := CurAt.len hc214
 refine Pl 1 <| ng <| Pl 2 <| nt <| ?_
 have U217 := ut U31 hu207 (ac (ni U24.size hg28) (ac (ni hu14.size hg17) all0))
 have U218 := u1 U217 hu215 (ni U24.size hg28)
 refine cb ((x209.endC.e != 0)) (fun q219 => ?_) (fun q219 => ?_)
 have q219p := ne_of_bnei q219
 refine sg <| Pl 2 <| ?_
 have U220 := u1 hu19 hu22 (nr hg17)
 have U221 := ut0 U220 hu30
 have U222 := ut U221 hu207 (ac (ni U220.size hg28) (ac (nr hg17) all0))
 have U223 := u1 U222 hu215 (ni U220.size hg28)
 have r224 := ub U223 B13
 refine L0 <| Osw r224 mZ fun w225 B226 hu227 => Pl 1 <| nt <| rt <| tr <| rct B226 (.int .i64 x209.endC.e) <| ?_
 subst ex210
 have U228 := u1 U218 hu227 (nr hg12)
 have hs : parseOf diagForm 1 c b = finish ((answerR c (Cur.mk b false 0)).2) ((answerR c (Cur.mk b false 0)).1) := by
   unfold parseOf diagForm 
   (try simp only [q32, q74, q116, q158, q200, q219, bs, if_true, if_false, decide_true, decide_false, eq_self, true_or, or_true, or_false, false_or, if_true, if_false, i00, i01, i10, i11, reduceIte])
   all_goals rfl
 rw [hs]
 exact finish_bad q219p U228
 have q219p := eq_of_bnei q219
 refine skn <| sg <| ?_
 have r229 := ub1 hu215 ne208 hm205.1
 refine L0 <| Olw (hz := (by rw [hm205.2]; exact msg_size)) r229 <| ?_
 have U230 := u1 hu19 hu22 (nr hg17)
 have U231 := ut0 U230 hu30
 have U232 := ut U231 hu207 (ac (ni U230.size hg28) (ac (nr hg17) all0))
 have U233 := u1 U232 hu215 (ni U230.size hg28)
 have r234 := ub U233 B13
 refine L0 <| Osw (hz := (by rw [hm205.2]; exact msg_size)) (hv := hM206.size) (h1 := hM206.one) r234 (cs204) fun w235 B236 hu237 => Pl 1 <| nt <| rt <| rctx 22 hm205.2 B236 (.int .i64 0) <| ?_
 subst ex210
 have U238 := u1 U218 hu237 (nr hg12)
 have hs : parseOf diagForm 1 c b = finish ((answerR c (Cur.mk b false 0)).2) ((answerR c (Cur.mk b false 0)).1) := by
   unfold parseOf diagForm 
   (try simp only [q32, q74, q116, q158, q200, q219, bs, if_true, if_false, decide_true, decide_false, eq_self, true_or, or_true, or_false, false_or, if_true, if_false, i00, i01, i10, i11, reduceIte])
   all_goals rfl
 rw [hs]
 have U239 := u1 (Upd.mono (S' := [g27, g10]) hu215 (ac im all0)) hu237 im
 have r240 := ub U232 B13
 have r241 := MsgRd.upd hM206 U239 (safe_cons (CurAt.safe hc211 _ (by decide)) (safe_cons (safe1 r240 (by decide)) safe0))
 exact finish_ok q219p r241 U238
 have q200p := ne_of_beqi q200
 refine sg <| Pl 1 <| ?_
 have U242 := u1 hu19 hu22 (nr hg17)
 have U243 := ut0 U242 hu30
 have r244 := ub U243 B13
 refine L0 <| Osw r244 mZ fun w245 B246 hu247 => Pl 1 <| nt <| rt <| br <| tr <| rct B246 (.int .i64 4) <| ?_
 have U248 := u1 U31 hu247 (nr hg12)
 have hs : parseOf diagForm 1 c b = (Msg.zero, 4) := by
   unfold parseOf diagForm 
   (try simp only [q32, q74, q116, q158, q200, bs, if_true, if_false, decide_true, decide_false, eq_self, true_or, or_true, or_false, false_or, if_true, if_false, i00, i01, i10, i11, reduceIte])
   all_goals rfl
 rw [hs]
 exact bad_res U248
set_option maxRecDepth 100000 in
set_option maxHeartbeats 4000000 in
theorem diag_parse_x {m : Bool} {A : Option Addr} {cp : Nat} {b : List Int} {w : World} {dir c : Int} (hcode : B8 c) (hsl : RdB m w (.slice A b.length cp) b) (hb : b.length ≤ 1048576) (hd : ¬ (dir = 0 ∨ dir = 1)) :
    Calls Try.prog 41 #[.int .i64 dir, .int .u8 c, .slice A b.length cp] w (PMsg (parseOf diagForm dir c b) w) := by
 obtain ⟨hcode1, hcode2⟩ := hcode
 have hln : (b.length : Int) ≤ 1048576 := by omega
 have e0 : (dir != 0) = true := by simp; omega
 have e1 : (dir != 1) = true := by simp; omega
 refine en 47 Try.func41 rfl <| sg <| L0 <| Oal mZ fun g10 w11 hg12 B13 hu14 => Pl 1 <| nt <| sq <| sg <| Pl 3 <| sy 13 e0 <| Pl 3 <| nl <| ?_
 refine tn <| ct e1 <| sg <| Pl 1 <| L0 <| Osw B13 mZ fun w15 B16 hu17 => Pl 1 <| nt <| rt <| tr <| rct B16 (.int .i64 1) <| ?_
 have U18 := u1 hu14 hu17 (nr hg12)
 have hs : parseOf diagForm dir c b = (Msg.zero, 1) := by
   unfold parseOf diagForm 
   (try simp only [e0, e1, bs, if_true, if_false, decide_true, decide_false, eq_self, true_or, or_true, or_false, false_or, if_true, if_false, i00, i01, i10, i11, reduceIte, hd])
   all_goals rfl
 rw [hs]
 exact bad_res U18
theorem diag_parse {m : Bool} {v : Value} {b : List Int} {w : World} {dir c : Int} (hc : B8 c) (h : RdB m w v b) (hb : b.length ≤ 1048576) :
    Calls Try.prog 41 #[.int .i64 dir, .int .u8 c, v] w (PMsg (parseOf diagForm dir c b) w) := by
  obtain ⟨A, cp, rfl, _, _⟩ := h.shape
  by_cases h0 : dir = 0
  · subst h0; exact diag_parse_0 hc h hb
  by_cases h1 : dir = 1
  · subst h1; exact diag_parse_1 hc h hb
  exact diag_parse_x hc h hb (by omega)
end Go.Proofs.Ytbaeecmamacphaa
