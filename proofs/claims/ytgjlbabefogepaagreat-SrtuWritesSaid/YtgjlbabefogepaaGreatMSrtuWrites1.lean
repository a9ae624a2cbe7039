/- The statement SrtuWrites holds; no condition of its own. -/
import Derived.Test.YtgjlbabefogepaaGreatKA1
import Derived.Test.YtgjlbabefogepaaGreatKA2
import Derived.Test.YtgjlbabefogepaaGreatKA3
import Derived.Test.YtgjlbabefogepaaGreatKA4
import Derived.Test.YtgjlbabefogepaaGreatKA5
import Derived.Test.YtgjlbabefogepaaGreatKB1
import Derived.Test.YtgjlbabefogepaaGreatRows
import Derived.WalkKit
import Derived.ProofKit
import Derived.OpenShut
import Derived.ShutString
import Derived.ChangeOld
import Derived.Below
set_option linter.unusedVariables false
set_option linter.unusedSimpArgs false
namespace Go.Proofs.YtgjlbabefogepaaGreat
open Go.RowKit
def echoM (M : Msg) : Msg := { Msg.zero with code := M.code, addr := M.addr, count := M.count }
theorem echo_rd {m : Bool} {w : World} {cs : Array Value} {M : Msg} (h : MsgRd m w cs.toList M) (W : World) : MsgRd true W (mG M.code 0 M.addr M.count 0 0 0 0 0 0 0 0 nS nS nS nS 0 0 0 0 0 nS).toList (echoM M) := by
  obtain ⟨vw, vb, vd, vr, vo, h0, hw, hbt, hd, hr, ho, hR⟩ := h
  exact ⟨nilS, nilS, nilS, nilS, nilS, rfl, RdG.nil .., RdG.nil .., RdG.nil .., RdG.nil .., RdG.nil .., { MsgRng.zero with code := hR.code, addr := hR.addr, count := hR.count }⟩
theorem echo_few (M : Msg) : MsgFew (echoM M) := ⟨Nat.zero_le _, Nat.zero_le _, Nat.zero_le _, Nat.zero_le _, (fun r h => nomatch h), Nat.zero_le _, (fun r h => nomatch h)⟩
theorem rng_ac {m : Bool} {w : World} {cs : Array Value} {M : Msg} (h : MsgRd m w cs.toList M) : (0 ≤ M.addr ∧ M.addr < 65536) ∧ (0 ≤ M.count ∧ M.count < 65536) := by
  obtain ⟨vw, vb, vd, vr, vo, h0, hw, hbt, hd, hr, ho, hR⟩ := h
  exact ⟨hR.addr, hR.count⟩
theorem fail0 {M : Msg} {l : List Int} (h : pduW 0 M = some l) : M.fail = 0 := by
  unfold pduW at h
  split at h
  · rename_i hf
    rw [if_pos (by decide)] at h
    cases h
  · rename_i hf
    simpa using hf
theorem pduW_fam {M : Msg} (hf : M.fail = 0) (h : famW (cfam M.code) 0 M = famW (cfam M.code) 1 M) : pduW 0 M = pduW 1 M := by
  unfold pduW
  rw [hf, if_neg (by decide), if_neg (by decide), h]
theorem writeOf_eq {form : Int → Int → Cur → Option (Cur × Msg)} {lay : Int → Msg → List Int} {M : Msg} (h1 : ∀ C, form 0 M.code C = form 1 M.code C) (h2 : lay 0 M = lay 1 M) : writeOf (parseOf form) lay 0 M = writeOf (parseOf form) lay 1 M := by
  have h3 : ∀ b, parseOf form 0 M.code b = parseOf form 1 M.code b := fun b => by
    unfold parseOf
    rw [if_pos (Or.inl rfl), if_pos (Or.inr rfl), h1]
  unfold writeOf
  rw [h2, h3]
theorem filesB_21 : ∀ L, filesB 0 21 L = filesB 1 21 L
  | [] => rfl
  | r :: L => by
    show recB 0 21 r ++ filesB 0 21 L = recB 1 21 r ++ filesB 1 21 L
    rw [filesB_21 L]
    rfl
theorem echo_same {M : Msg} {l : List Int} (hc : M.code = 5 ∨ M.code = 6 ∨ M.code = 21 ∨ M.code = 22) (h : pduW 0 M = some l) : pduW 1 M = some l := by
  rw [← h]
  refine (pduW_fam (fail0 h) ?_).symm
  rcases hc with hc | hc | hc | hc
  · rw [hc]
    refine writeOf_eq (fun C => ?_) ?_
    · rw [hc]; rfl
    · unfold coilsLay; rw [hc]; rfl
  · rw [hc]
    refine writeOf_eq (fun C => ?_) ?_
    · rw [hc]; rfl
    · unfold regsLay; rw [hc]; rfl
  · rw [hc]
    refine writeOf_eq (fun C => ?_) ?_
    · rw [hc]; rfl
    · rw [filesLay_eq, filesLay_eq, hc, filesB_21]
  · rw [hc]
    refine writeOf_eq (fun C => ?_) ?_
    · rw [hc]; rfl
    · unfold regsLay; rw [hc]; rfl
theorem wd1 {a : Int} {r : List Int} (ha : 0 ≤ a ∧ a < 65536) : (Cur.mk (putW [a] ++ r) false 0).wordV = a ∧ (Cur.mk (putW [a] ++ r) false 0).wordsC 1 = ⟨r, false, 0⟩ := by
  have hb : (Cur.mk (putW [a] ++ r) false 0).wbad 1 = false := by
    unfold Cur.wbad
    simp only [putW, List.length_append, List.length_cons, List.length_nil, Bool.or_eq_false_iff, decide_eq_false_iff_not]
    omega
  have hf : (Cur.mk (putW [a] ++ r) false 0).fails (2 * 1) = false := by
    unfold Cur.fails
    simp [putW]
    omega
  constructor
  · unfold Cur.wordV Cur.wordsR Cur.bytesR
    rw [hb, hf]
    show (wordTake [a / 256, a % 256]).getD 0 0 = a
    unfold wordTake
    rw [if_pos (by simp)]
    show a / 256 * 256 + a % 256 = a
    omega
  · unfold Cur.wordsC Cur.bytesC
    rw [hb, hf]
    rfl
theorem need_t (C : Cur) (x : Int) : C.need true x = C := by
  unfold Cur.need
  rw [if_neg (by rintro ⟨_, h⟩; cases h)]
theorem wd2 {a n : Int} (ha : 0 ≤ a ∧ a < 65536) (hn : 0 ≤ n ∧ n < 65536) : (Cur.mk (putW [a, n]) false 0).wordV = a ∧ (Cur.mk (putW [a, n]) false 0).wordsC 1 = ⟨putW [n], false, 0⟩ ∧ (Cur.mk (putW [n]) false 0).wordV = n ∧ (Cur.mk (putW [n]) false 0).wordsC 1 = ⟨[], false, 0⟩ := by
  have h1 := wd1 (r := putW [n]) ha
  have h2 := wd1 (r := []) hn
  rw [List.append_nil] at h2
  exact ⟨h1.1, h1.2, h2.1, h2.2⟩
theorem asks_ok {a n most c : Int} (ha : 0 ≤ a ∧ a < 65536) (hn : 0 ≤ n ∧ n < 65536) (h1 : 1 ≤ n ∧ n ≤ most) (h2 : within a n = true) : asksR most c ⟨putW [a, n], false, 0⟩ = (⟨[], false, 0⟩, { Msg.zero with code := c, addr := a, count := n }) := by
  obtain ⟨e1, e2, e3, e4⟩ := wd2 ha hn
  unfold asksR spanC spanC1
  rw [e2, e1, e3, e4, h2, decide_eq_true h1.1, decide_eq_true h1.2]
  rw [show (true && true) = true from rfl, need_t, need_t]
theorem rasks_ok {a n most c : Int} (ha : 0 ≤ a ∧ a < 65536) (hn : 0 ≤ n ∧ n < 65536) (h1 : 1 ≤ n ∧ n ≤ most) (h2 : within a n = true) : rasksR most c ⟨putW [a, n], false, 0⟩ = (⟨[], false, 0⟩, { Msg.zero with code := c, addr := a, count := n }) := by
  obtain ⟨e1, e2, e3, e4⟩ := wd2 ha hn
  unfold rasksR rspanC
  rw [e2, e1, e3, e4, h2, decide_eq_true h1.1, decide_eq_true h1.2]
  rw [show (true && true) = true from rfl, need_t, need_t]
theorem span_e {C : Cur} {most : Int} (h : (spanC C most).e = 0) : (1 ≤ (C.wordsC 1).wordV ∧ (C.wordsC 1).wordV ≤ most) ∧ within C.wordV (C.wordsC 1).wordV = true := by
  obtain ⟨h1, h2⟩ := nd_ok (by decide) h
  obtain ⟨_, h3⟩ := nd_ok (by decide) h1
  simp only [Bool.and_eq_true, decide_eq_true_eq] at h3
  exact ⟨h3, h2⟩
theorem rspan_e {C : Cur} {a most : Int} (h : (rspanC C a most).e = 0) : (1 ≤ C.wordV ∧ C.wordV ≤ most) ∧ within a C.wordV = true := by
  obtain ⟨h1, h2⟩ := nd_ok (by decide) h
  obtain ⟨_, h3⟩ := nd_ok (by decide) h1
  simp only [Bool.and_eq_true, decide_eq_true_eq] at h3
  exact ⟨h3, h2⟩
theorem parse_fin {form : Int → Int → Cur → Option (Cur × Msg)} {dir c : Int} {b : List Int} {M : Msg} (hd : dir = 0 ∨ dir = 1) (h : parseOf form dir c b = (M, 0)) : ∃ C', form dir c ⟨b, false, 0⟩ = some (C', M) ∧ C'.endC.e = 0 := by
  unfold parseOf at h
  rw [if_pos hd] at h
  split at h
  · cases h
  · rename_i r hr
    unfold finish at h
    split at h
    · rename_i he
      injection h with h
      obtain ⟨C', M'⟩ := r
      have h : M' = M := h
      subst h
      exact ⟨C', hr, he⟩
    · rename_i he
      injection h with _ h
      exact absurd h he
theorem end0 {C : Cur} (h : C.endC.e = 0) : C.e = 0 := (nd_ok (by decide) h).1
theorem wo_e {C : Cur} {n : Int} (h : (C.wordsC n).e = 0) : C.e = 0 := by
  unfold Cur.wordsC at h
  split at h
  · exact (by_ok h).1
  · exact (by_ok h).1
theorem many_ok {M : Msg} {l : List Int} (hc : M.code = 15 ∨ M.code = 16) (h : pduW 0 M = some l) : (∃ r, l = [M.code] ++ (putW [M.addr, M.count] ++ r) ∧ 1 ≤ r.length) ∧ (1 ≤ M.count ∧ (M.code = 15 → M.count ≤ 1968) ∧ (M.code = 16 → M.count ≤ 123)) ∧ within M.addr M.count = true := by
  have hf := fail0 h
  unfold pduW at h
  rw [hf, if_neg (by decide)] at h
  split at h
  · cases h
  rename_i l' hl'
  split at h
  · cases h
  injection h with h
  subst h
  rcases hc with hc | hc
  · rw [hc] at hl' ⊢
    obtain ⟨h1, h2⟩ := writeOf_some (show writeOf parseCoils coilsLay 0 M = some l' from hl')
    rw [hc] at h1
    obtain ⟨C', h3, h4⟩ := parse_fin (Or.inl rfl) h1
    have h3 : some (csmR 15 ⟨l', false, 0⟩) = some (C', M) := h3
    obtain ⟨rfl, rfl⟩ := some_pair h3
    obtain ⟨h6, _⟩ := nd_ok (by decide) (end0 h4)
    obtain ⟨h7, _⟩ := nd_ok (by decide) (by_ok h6).1
    obtain ⟨h8, h9⟩ := span_e (by_ok h7).1
    refine ⟨⟨[((packB (csmR 15 ⟨l', false, 0⟩).2.bits).length : Int) % 256] ++ packB (csmR 15 ⟨l', false, 0⟩).2.bits, ?_, by simp⟩, ⟨h8.1, fun _ => h8.2, fun h => absurd h (by decide)⟩, h9⟩
    rw [← List.append_assoc (putW _)]
    exact congrArg _ h2
  · rw [hc] at hl' ⊢
    obtain ⟨h1, h2⟩ := writeOf_some (show writeOf parseRegs regsLay 0 M = some l' from hl')
    rw [hc] at h1
    obtain ⟨C', h3, h4⟩ := parse_fin (Or.inl rfl) h1
    have h3 : some (rmanyR 16 ⟨l', false, 0⟩) = some (C', M) := h3
    obtain ⟨rfl, rfl⟩ := some_pair h3
    have h6 : (rmanyC ⟨l', false, 0⟩).e = 0 := wo_e (end0 h4)
    obtain ⟨h7, _⟩ := nd_ok (by decide) h6
    obtain ⟨h8, h9⟩ := rspan_e (by_ok h7).1
    refine ⟨⟨[(2 * ((rmanyR 16 ⟨l', false, 0⟩).2.words.length : Int)) % 256] ++ putW (rmanyR 16 ⟨l', false, 0⟩).2.words, ?_, by simp⟩, ⟨h8.1, (fun h => absurd h (by decide)), fun _ => h8.2⟩, h9⟩
    rw [← List.append_assoc (putW _)]
    exact congrArg _ h2
theorem echo_cut {M : Msg} {l : List Int} (hc : M.code = 15 ∨ M.code = 16) (ha : 0 ≤ M.addr ∧ M.addr < 65536) (hn : 0 ≤ M.count ∧ M.count < 65536) (h : pduW 0 M = some l) : 6 ≤ l.length ∧ pduW 1 (echoM M) = some (l.take 5) := by
  obtain ⟨⟨r, rfl, hr⟩, ⟨h1, h2, h3⟩, h4⟩ := many_ok hc h
  refine ⟨by simp [putW]; omega, ?_⟩
  show pduW 1 (echoM M) = some ([M.code] ++ putW [M.addr, M.count])
  have hw : famW (cfam M.code) 1 (echoM M) = some (putW [M.addr, M.count]) := by
    rcases hc with hc | hc
    · rw [hc]
      have h5 := h2 hc
      refine writeOf_ok (parse := parseCoils) (lay := coilsLay) ?_ ?_
      · unfold coilsLay
        rw [show (echoM M).code = 15 from hc]
        rfl
      · show parseOf coilsForm 1 M.code _ = _
        rw [hc]
        unfold parseOf
        rw [if_pos (Or.inr rfl)]
        show finish (asksR 1968 15 ⟨putW [M.addr, M.count], false, 0⟩).2 (asksR 1968 15 ⟨putW [M.addr, M.count], false, 0⟩).1 = _
        rw [asks_ok ha hn ⟨h1, h5⟩ h4]
        show ((_ : Msg), (0 : Int)) = _
        unfold echoM
        rw [hc]
    · rw [hc]
      have h5 := h3 hc
      refine writeOf_ok (parse := parseRegs) (lay := regsLay) ?_ ?_
      · unfold regsLay
        rw [show (echoM M).code = 16 from hc]
        rfl
      · show parseOf regsForm 1 M.code _ = _
        rw [hc]
        unfold parseOf
        rw [if_pos (Or.inr rfl)]
        show finish (rasksR 123 16 ⟨putW [M.addr, M.count], false, 0⟩).2 (rasksR 123 16 ⟨putW [M.addr, M.count], false, 0⟩).1 = _
        rw [rasks_ok ha hn ⟨h1, h5⟩ h4]
        show ((_ : Msg), (0 : Int)) = _
        unfold echoM
        rw [hc]
  unfold pduW
  show (if ((0 : Int) != 0) = true then _ else match famW (cfam M.code) 1 (echoM M) with | none => none | some l => if decide (253 ≤ (l.length : Int)) then none else some ([M.code] ++ l)) = _
  rw [if_neg (by decide), hw]
  rfl
end Go.Proofs.YtgjlbabefogepaaGreat
namespace Go.Proofs.YtgjlbabefogepaaGreat
theorem rtuB_len (u : Int) (l : List Int) : (rtuB u l).length = 3 + l.length := by simp [rtuB, crcTwo]; omega
theorem two_inj {s s' : Int} (hs : 0 ≤ s ∧ s < 65536) (hs' : 0 ≤ s' ∧ s' < 65536) (h : crcTwo s = crcTwo s') : s = s' := by
  unfold crcTwo at h
  injection h with h1 h2
  injection h2 with h2 _
  omega
theorem rtuW_some {dir u t : Int} {M : Msg} {b : List Int} (h : rtuW dir u t M = some b) : t = 0 ∧ ∃ l, pduW dir M = some l ∧ b = rtuB u l ∧ l.length ≤ 253 := by
  unfold rtuW at h
  split at h
  · cases h
  · rename_i l hl
    have hle := pduW_len hl
    split at h
    · cases h
    · rename_i ht
      injection h with h
      exact ⟨by simpa using ht, l, hl, h.symm, hle⟩
theorem rtuW_le {dir u t : Int} {M : Msg} {b : List Int} (hc : 0 ≤ M.code ∧ M.code < 256) (h : rtuW dir u t M = some b) : 4 ≤ b.length ∧ b.length ≤ 256 := by
  obtain ⟨_, l, h1, rfl, h2⟩ := rtuW_some h
  have := pduW_pos hc h1
  rw [rtuB_len]
  omega
theorem rtuW_none {dir u t u' : Int} {M : Msg} (h : rtuW dir u t M = none) : rtuW dir u' t M = none := by
  unfold rtuW at h ⊢
  split at h
  · rfl
  · split at h
    · rename_i h2
      rw [if_pos (by simpa using h2)]
    · cases h
theorem body_take (u : Int) (l : List Int) : (rtuB u l).take ((rtuB u l).length - 2) = [u] ++ l := by
  rw [rtuB_len, show 3 + l.length - 2 = ([u] ++ l).length from by simp; omega]
  exact List.take_left' rfl
theorem body_drop (u : Int) (l : List Int) : (rtuB u l).drop ((rtuB u l).length - 2) = crcTwo (crcT 65535 ([u] ++ l)) := by
  rw [rtuB_len, show 3 + l.length - 2 = ([u] ++ l).length from by simp; omega]
  exact List.drop_left' rfl
theorem rtuB_is (u : Int) (l : List Int) : crcIs (rtuB u l) = true := by
  unfold crcIs
  rw [body_take, body_drop, rtuB_len]
  simp only [decide_true, Bool.and_true, decide_eq_true_eq]
  omega
theorem body_B (u : Int) (l : List Int) : rtuBody (rtuB u l) = l := by
  unfold rtuBody
  rw [body_take]
  rfl
theorem rtuP_B {dir u : Int} {l : List Int} (hd : dir = 0 ∨ dir = 1) (h : 0 < l.length) (h2 : l.length ≤ 253) : rtuP dir (rtuB u l) = frmOf u 0 (pduP dir l) := by
  unfold rtuP
  rw [rtuB_is, body_B]
  rw [if_neg (show ¬ (dir != 0 && dir != 1) = true by rcases hd with rfl | rfl <;> decide), if_neg (by rw [rtuB_len]; simp only [decide_eq_true_eq]; omega), if_neg (by rw [rtuB_len]; simp only [decide_eq_true_eq]; omega), if_neg (by decide)]
  rfl
theorem rtu_rt {dir u t : Int} {M : Msg} {b : List Int} (hd : dir = 0 ∨ dir = 1) (hc : 0 ≤ M.code ∧ M.code < 256) (hf : 0 ≤ M.fail ∧ M.fail < 256) (h : rtuW dir u t M = some b) : rtuP dir b = (⟨u, t, M⟩, 0) := by
  obtain ⟨rfl, l, h1, rfl, h2⟩ := rtuW_some h
  rw [rtuP_B hd (pduW_pos hc h1) h2, pdu_rt hd hc hf h1]
  rfl
theorem is_shape {b : List Int} (hl : 3 ≤ b.length) (h : crcIs b = true) : ∃ u l, b = rtuB u l := by
  unfold crcIs at h
  rw [Bool.and_eq_true, decide_eq_true_eq, decide_eq_true_eq] at h
  obtain ⟨h1, h2⟩ := h
  cases hb : b.take (b.length - 2) with
  | nil =>
    have := congrArg List.length hb
    rw [List.length_take, List.length_nil] at this
    omega
  | cons u l =>
    refine ⟨u, l, ?_⟩
    conv => lhs; rw [← List.take_append_drop (b.length - 2) b, ← h2, hb]
    rfl
theorem rtuP_few {dir : Int} {b : List Int} {F : Frm} {E : Int} (hr : ∀ x, x ∈ b → 0 ≤ x ∧ x < 256) (h : rtuP dir b = (F, E)) : MsgFew F.msg ∧ (E ≠ 0 → F = Frm.zero) := by
  have hz : ∀ k : Int, ((Frm.zero, k) : Frm × Int) = (F, E) → MsgFew F.msg ∧ (E ≠ 0 → F = Frm.zero) := fun k h => by
    injection h with h1 h2
    subst h1
    exact ⟨few_zero, fun _ => rfl⟩
  unfold rtuP at h
  split at h
  · exact hz _ h
  split at h
  · exact hz _ h
  split at h
  · exact hz _ h
  split at h
  · exact hz _ h
  cases hp : pduP dir (rtuBody b) with
  | mk M E' =>
    rw [hp] at h
    obtain ⟨k1, k2⟩ := pduP_few (fun x hx => hr x (List.mem_of_mem_take (List.mem_of_mem_drop hx))) hp
    have h : (if (E' != 0) = true then ((Frm.zero, E') : Frm × Int) else (⟨_, _, M⟩, 0)) = (F, E) := h
    split at h
    · exact hz _ h
    · injection h with h5 h6
      subst h5
      exact ⟨k1, fun hE => absurd h6.symm hE⟩
theorem rtu_back {dir : Int} {b : List Int} {F : Frm} {E : Int} {r : Option (List Int)} (hd : dir = 0 ∨ dir = 1) (hr : ∀ x, x ∈ b → 0 ≤ x ∧ x < 256) (h : rtuP dir b = (F, E)) (hE : (E == 0) = true) (hW : rtuW dir F.unit F.tid F.msg = r) : r = some b ∧ 4 ≤ b.length ∧ b.length ≤ 256 := by
  obtain rfl : E = 0 := by simpa using hE
  unfold rtuP at h
  split at h
  · cases h
  split at h
  · cases h
  split at h
  · cases h
  split at h
  · cases h
  rename_i h1 h2 h3 h4
  simp only [decide_eq_true_eq] at h2 h3
  have h4 : crcIs b = true := by simpa using h4
  obtain ⟨u, l, rfl⟩ := is_shape (by omega) h4
  rw [body_B] at h
  have h : frmOf u 0 (pduP dir l) = (F, 0) := h
  cases hp : pduP dir l with
  | mk M E' =>
    rw [hp] at h
    have h : (if (E' != 0) = true then ((Frm.zero, E') : Frm × Int) else (⟨_, _, M⟩, 0)) = (F, 0) := h
    split at h
    · rename_i h5
      injection h with _ h6
      subst h6
      cases h5
    · rename_i h5
      injection h with h6 _
      subst h6
      obtain rfl : E' = 0 := by simpa using h5
      have h7 := pdu_back hd (fun x hx => hr x (by unfold rtuB; simp [hx])) hp
      rw [← hW]
      refine ⟨?_, by omega, by omega⟩
      show rtuW dir u 0 M = _
      unfold rtuW
      rw [h7]
      simp
theorem xi_ne {a c : Int} (ha : 0 ≤ a) (hc : 0 < c) : xi a c ≠ a := fun h => by
  unfold xi at h
  have h1 : a.toNat ^^^ c.toNat = a.toNat ^^^ 0 := by rw [Nat.xor_zero]; omega
  have := xor_can2 h1
  omega
theorem rtu_one {dir u : Int} {l : List Int} (hd : dir = 0 ∨ dir = 1) (hl : l.length ≤ 253) (hl0 : 0 < l.length) (hr : ∀ x, x ∈ rtuB u l → 0 ≤ x ∧ x < 256) {k : Nat} (hk : k < (rtuB u l).length) {v : Int} (hv : 0 ≤ v ∧ v < 256) (hne : v ≠ (rtuB u l).getD k 0) : rtuP dir ((rtuB u l).set k v) = (Frm.zero, 10) := by
  have hB : ∀ x, x ∈ [u] ++ l → 0 ≤ x ∧ x < 256 := fun x hx => hr x (List.mem_append_left _ hx)
  have hB2 : ∀ x, x ∈ ([u] ++ l).set k v → 0 ≤ x ∧ x < 256 := fun x hx => by
    rcases List.mem_or_eq_of_mem_set hx with h | h
    · exact hB x h
    · rw [h]; exact hv
  have hlen := rtuB_len u l
  have hn : ([u] ++ l).length = 1 + l.length := by simp; omega
  have his : crcIs ((rtuB u l).set k v) = false := by
    cases hi : crcIs ((rtuB u l).set k v) with
    | false => rfl
    | true =>
      exfalso
      unfold crcIs at hi
      rw [Bool.and_eq_true, decide_eq_true_eq, decide_eq_true_eq, List.length_set] at hi
      obtain ⟨_, hi⟩ := hi
      apply hne
      by_cases hk2 : k < 1 + l.length
      · have e1 : ((rtuB u l).set k v).drop ((rtuB u l).length - 2) = crcTwo (crcT 65535 ([u] ++ l)) := by
          rw [List.drop_set_of_lt (by omega), body_drop]
        have e2 : ((rtuB u l).set k v).take ((rtuB u l).length - 2) = ([u] ++ l).set k v := by
          rw [List.take_set, body_take]
        rw [e1, e2] at hi
        have hk3 : k < ([u] ++ l).length := by omega
        have h3 := two_inj (crcT_rng _ (by decide) hB2) (crcT_rng _ (by decide) hB) hi
        have e3 : ([u] ++ l).set k v = ([u] ++ l).take k ++ v :: ([u] ++ l).drop (k + 1) := List.set_eq_take_append_cons_drop.trans (if_pos hk3)
        have e4 : [u] ++ l = ([u] ++ l).take k ++ (([u] ++ l)[k]) :: ([u] ++ l).drop (k + 1) := by
          rw [← List.drop_eq_getElem_cons hk3, List.take_append_drop]
        rw [e3] at h3
        have h4 : crcT 65535 (([u] ++ l).take k ++ v :: ([u] ++ l).drop (k + 1)) = crcT 65535 (([u] ++ l).take k ++ (([u] ++ l)[k]) :: ([u] ++ l).drop (k + 1)) := by rw [← e4]; exact h3
        have h5 := crcT_one (by decide) (fun x hx => hB x (List.mem_of_mem_take hx)) (fun x hx => hB x (List.mem_of_mem_drop hx)) hv (hB _ (List.getElem_mem hk3)) h4
        rw [h5]
        unfold rtuB
        rw [List.getD_eq_getElem?_getD, List.getElem?_append_left hk3, List.getElem?_eq_getElem hk3]
        rfl
      · have e2 : ((rtuB u l).set k v).take ((rtuB u l).length - 2) = [u] ++ l := by
          rw [List.take_set_of_le (by omega), body_take]
        rw [e2, ← body_drop] at hi
        have h6 := congrArg (fun z => z.getD (k - ((rtuB u l).length - 2)) 0) hi
        simp only [List.getD_eq_getElem?_getD, List.getElem?_drop] at h6
        rw [show (rtuB u l).length - 2 + (k - ((rtuB u l).length - 2)) = k by omega, List.getElem?_set_self hk] at h6
        rw [List.getD_eq_getElem?_getD]
        exact h6.symm
  unfold rtuP
  rw [his, List.length_set, if_neg (show ¬ (dir != 0 && dir != 1) = true by rcases hd with rfl | rfl <;> decide), if_neg (by rw [hlen]; simp only [decide_eq_true_eq]; omega), if_neg (by rw [hlen]; simp only [decide_eq_true_eq]; omega), if_pos (by decide)]
theorem rtu_turned {dir u t : Int} {M : Msg} {b : List Int} (hd : dir = 0 ∨ dir = 1) (hc : 0 ≤ M.code ∧ M.code < 256) (h : rtuW dir u t M = some b) (hr : ∀ x, x ∈ b → 0 ≤ x ∧ x < 256) {k : Nat} (hk : k < b.length) {c : Int} (hby : 0 < c ∧ c < 256) {F : Frm} {E : Int} (hP : rtuP dir (b.set k (xi (b.getD k 0) c)) = (F, E)) : F = Frm.zero ∧ E = 10 := by
  obtain ⟨rfl, l, h1, rfl, h2⟩ := rtuW_some h
  have hm : 0 ≤ (rtuB u l).getD k 0 ∧ (rtuB u l).getD k 0 < 256 := by
    rw [List.getD_eq_getElem?_getD, List.getElem?_eq_getElem hk]
    exact hr _ (List.getElem_mem hk)
  rw [rtu_one hd h2 (pduW_pos hc h1) hr hk (xi8 hm (by omega)) (xi_ne hm.1 hby.1)] at hP
  injection hP with h3 h4
  exact ⟨h3.symm, h4.symm⟩
theorem rtu_unit {dir u u' t : Int} {M : Msg} {a b : List Int} (h : rtuW dir u t M = some a) (h' : rtuW dir u' t M = some b) : b.length = a.length ∧ b.getD 0 0 = u' ∧ (a.take (a.length - 2)).drop 1 = (b.take (a.length - 2)).drop 1 ∧ (u = u' → a = b) ∧ (a = b → u = u') := by
  obtain ⟨_, l, h1, rfl, h2⟩ := rtuW_some h
  obtain ⟨_, l', h1', rfl, h2'⟩ := rtuW_some h'
  obtain rfl : l = l' := Option.some.inj (h1.symm.trans h1')
  have hlen : (rtuB u l).length = (rtuB u' l).length := by rw [rtuB_len, rtuB_len]
  refine ⟨hlen.symm, rfl, ?_, fun e => by rw [e], fun e => ?_⟩
  · rw [body_take, hlen, body_take]
    rfl
  · have := congrArg (fun z => z.getD 0 0) e
    exact this
end Go.Proofs.YtgjlbabefogepaaGreat
namespace Go.Proofs.YtgjlbabefogepaaGreat
open Go.RowKit
theorem srtu_reset {d : Int} {h b : List Int} {o : Bool} {S1 S2 : SS} {L1 L2 : List Ev} (h1 : (SS.mk d h o).feed b = (S1, L1)) (h2 : S1.tick = (S2, L2)) : S2 = SS.mk d [] false := by
  have e2 : S2 = SS.mk S1.dir [] false := (congrArg Prod.fst h2).symm
  have e1 : S1 = ((SS.mk d h o).feed b).1 := (congrArg Prod.fst h1).symm
  rw [e2, e1]
  unfold SS.feed
  split
  · rfl
  split
  · rfl
  · rfl
theorem srtu_one {d u t : Int} {M : Msg} {b : List Int} {S1 S2 : SS} {L1 L2 : List Ev} (hd : d = 0 ∨ d = 1) (hM : (0 ≤ M.code ∧ M.code < 256) ∧ (0 ≤ M.fail ∧ M.fail < 256)) (hW : rtuW d u t M = some b) (h1 : (SS.mk d [] false).feed b = (S1, L1)) (h2 : S1.tick = (S2, L2)) : L1 = [] ∧ L2 = [⟨0, ⟨u, t, M⟩⟩] := by
  have hl := rtuW_le hM.1 hW
  have e1 : (SS.mk d [] false).feed b = (SS.mk d b false, []) := by
    unfold SS.feed
    rw [if_neg (by simp), if_pos (by rw [decide_eq_true_eq]; show b.length ≤ 256 - 0; omega)]
    simp
  rw [e1] at h1
  injection h1 with h3 h4
  subst h3
  have e2 : L2 = (SS.tick (SS.mk d b false)).2 := (congrArg Prod.snd h2).symm
  refine ⟨h4.symm, ?_⟩
  rw [e2]
  show (if b.length = 0 then ([] : List Ev) else [⟨(rtuP d b).2, (rtuP d b).1⟩]) = _
  rw [if_neg (by omega), rtu_rt hd hM.1 hM.2 hW]
set_option maxRecDepth 100000 in
set_option maxHeartbeats 4000000 in
theorem lawSrtuWrites {w : World} {ans : Bool} {mA : Bool} {A : Option Addr} {cpA : Nat} {a : List Int} (ha : RdB mA w (.slice A a.length cpA) a) {mF : Bool} {F : Option Addr} {cpF : Nat} {fs : List Frm} (hF : RdF mF w (.slice F fs.length cpF) fs) :
    Calls Tryz.prog 7 #[.bool ans, .slice A a.length cpA, .slice F fs.length cpF] w (PVal (.bool true) w) := by
 have hzF := RdG.len hF
 have hzA := RdG.len ha
 refine en 91 Tryz.func7 rfl <| sg <| Pl 1 <| ng <| L0 <| Oc <| m1 (@awake19 _) fun w10 hu11 => Pl 1 <| nt <| sq <| sq <| ?_
 refine go <| Pl 4 <| cu 4 [20] 24 (((decide (300 < ((a.length : Nat) : Int))) || (decide (30 < ((fs.length : Nat) : Int))))) (fun K K13 => ?_) ?_
 refine bl 20 ((decide (300 < ((a.length : Nat) : Int)))) (fun q12 => ?_) (fun q12 => ?_)
 have q12p := of_decide_eq_true q12
 exact Pl 4 <| ce K13 true (by rw [q12]; rfl)
 have q12p := of_decide_eq_false q12
 exact Pl 4 <| ce K13 (decide (30 < ((fs.length : Nat) : Int))) (by rw [q12]; rfl)
 refine nt <| cb (((decide (300 < ((a.length : Nat) : Int))) || (decide (30 < ((fs.length : Nat) : Int))))) (fun q14 => ?_) (fun q14 => ?_)
 refine sg <| Pl 2 <| nt <| rt <| tr <| rr (.bool true) <| ?_
 exact ⟨rfl, hu11⟩
 have q14a := (or_f q14).1
 have q14b := (or_f q14).2
 have q14ap := of_decide_eq_false q14a
 have q14bp := of_decide_eq_false q14b
 refine skn <| sg <| Pl 1 <| nt <| sq <| sg <| Pl 1 <| nt <| cb (ans) (fun q15 => ?_) (fun q15 => ?_)
 refine go <| Pl 1 <| ng <| Pl 1 <| L0 <| Oc <| e3 srtu_new1 fun g16 w17 hg18 hA19 hu20 => Pl 1 <| nt <| sq <| sg <| ?_
 refine Pl 2 <| nt <| c0 <| skn <| sg <| Pl 2 <| ?_
 have U21 := ut0 hu11 hu20
 have r22 := RdB.old ha U21
 refine pr (SS.feed (SS.mk 1 [] false) a) fun S23 L24 hX25 => ?_
 refine L0 <| Oc <| so3 (srtu_feed_x hX25 hA19 r22 (by omega)) fun A33 cp34 w26 rd37 hl35 hm36 hA29 hu30 => ?_
 have hk31 := SrtuAt.le hA29
 have hk32 := SS.feed_le hX25
 refine ng <| Pl 1 <| ?_
 refine pr (SS.tick S23) fun S38 L39 hX40 => ?_
 refine L0 <| Oc <| so3 (srtu_tick_x hX40 hA29) fun A48 cp49 w41 rd52 hl50 hm51 hA44 hu45 => ?_
 have hk46 := SrtuAt.le hA44
 have hk47 := SS.tick_le hX40
 refine nt <| sq <| sg <| Pl 1 <| nt <| bk <| ?_
 have U53 := u1 U21 hu30 (ni hu11.size hg18)
 have U54 := u1 U53 hu45 (ni hu11.size hg18)
 have hT := hA44
 rw [srtu_reset hX25 hX40] at hT
 refine glp (fun x => [(2, .slice F fs.length cpF), (7, .bool true), (8, .int .i64 1), (9, .pointer (some ⟨g16, 0, none⟩)), (10, .int .i64 ((x : Nat) : Int))]) (fun (x : Nat) w' => Upd [] w w' ∧ w41.heap.size ≤ w'.heap.size ∧ SrtuAt w' g16 (SS.mk 1 [] false) ∧ (x ≤ fs.length)) (fun x => fs.length - x) 0 ⟨U54, lr, hT, (by (try dsimp only); omega)⟩ ?_
 rintro k w55 ⟨hu56, hz59, f57, p58⟩
 refine wkc [(2, .slice F fs.length cpF), (7, .bool true), (8, .int .i64 1), (9, .pointer (some ⟨g16, 0, none⟩)), (10, .int .i64 ((k : Nat) : Int))] ?_
 have f60 : SrtuAt w55 g16 (SS.mk 1 [] false) := f57
 have p61 : k ≤ fs.length := p58
 refine sq <| sg <| Pl 4 <| nt <| ?_
 have U62 := ut0 (Upd.refl [] _) hu56
 refine cb ((decide (((k : Nat) : Int) < ((fs.length : Nat) : Int)))) (fun q63 => ?_) (fun q63 => ?_)
 have q63p := of_decide_eq_true q63
 refine skn <| sq <| bk <| sg <| Pl 2 <| x64 (RdF.elt hF k (by omega) Frm.zero) fun b64 o65 cl66 t67 fr68 s69 hA70 hb71 hv72 hs73 => ?_
 have hw74 := hv72.2
 refine L0 <| Oixs 24 fs.length k hA70 (by omega) <| Pl 1 <| ?_
 have r75 := ub U62 hb71
 refine L0 <| Oel [.int .u8 ((fs.getD k Frm.zero).msg.code), .int .u8 ((fs.getD k Frm.zero).msg.fail), .int .u16 ((fs.getD k Frm.zero).msg.addr), .int .u16 ((fs.getD k Frm.zero).msg.count), .int .u16 ((fs.getD k Frm.zero).msg.value), .int .u16 ((fs.getD k Frm.zero).msg.and_), .int .u16 ((fs.getD k Frm.zero).msg.or_), .int .u16 ((fs.getD k Frm.zero).msg.addr2), .int .u16 ((fs.getD k Frm.zero).msg.sub), .int .u16 ((fs.getD k Frm.zero).msg.status), .int .u16 ((fs.getD k Frm.zero).msg.events), .int .u16 ((fs.getD k Frm.zero).msg.messages), .slice s69.aw ((fs.getD k Frm.zero).msg.words.length) s69.kw, .slice s69.ab ((fs.getD k Frm.zero).msg.bits.length) s69.kb, .slice s69.ad ((fs.getD k Frm.zero).msg.data.length) s69.kd, .slice s69.ar ((fs.getD k Frm.zero).msg.recs.length) s69.kr, .int .u8 ((fs.getD k Frm.zero).msg.mei), .int .u8 ((fs.getD k Frm.zero).msg.kind), .int .u8 ((fs.getD k Frm.zero).msg.level), .int .u8 ((fs.getD k Frm.zero).msg.more), .int .u8 ((fs.getD k Frm.zero).msg.next), .slice s69.ao ((fs.getD k Frm.zero).msg.objects.length) s69.ko] r75 (el_sub (k := 2) (m := 22) hs73 (by kernel_rfl) (by decide)) <| ?_
 have r76 := MsgRd.old (hv72.1) U62
 refine L0 <| Oc <| m1 (few_any r76) fun w77 hu78 => Pl 1 <| nt <| sq <| sg <| Pl 2 <| nt <| ?_
 have U79 := ut0 U62 hu78
 refine cb ((!(fewB (fs.getD k Frm.zero).msg))) (fun q80 => ?_) (fun q80 => ?_)
 have q80n : (fewB (fs.getD k Frm.zero).msg) = false := by simpa using q80
 refine sg <| Pl 2 <| nt <| rt <| tr <| br <| tr <| tr <| br <| tr <| rr (.bool true) <| ?_
 exact ⟨rfl, U79⟩
 have q80n : (fewB (fs.getD k Frm.zero).msg) = true := by simpa using q80
 refine skn <| sg <| Pl 3 <| L0 <| Oixs 24 fs.length k hA70 (by omega) <| ?_
 have r81 := ub hu78 r75
 refine L0 <| Oel [.int .u8 ((fs.getD k Frm.zero).unit), .int .u16 ((fs.getD k Frm.zero).tid), .int .u8 ((fs.getD k Frm.zero).msg.code), .int .u8 ((fs.getD k Frm.zero).msg.fail), .int .u16 ((fs.getD k Frm.zero).msg.addr), .int .u16 ((fs.getD k Frm.zero).msg.count), .int .u16 ((fs.getD k Frm.zero).msg.value), .int .u16 ((fs.getD k Frm.zero).msg.and_), .int .u16 ((fs.getD k Frm.zero).msg.or_), .int .u16 ((fs.getD k Frm.zero).msg.addr2), .int .u16 ((fs.getD k Frm.zero).msg.sub), .int .u16 ((fs.getD k Frm.zero).msg.status), .int .u16 ((fs.getD k Frm.zero).msg.events), .int .u16 ((fs.getD k Frm.zero).msg.messages), .slice s69.aw ((fs.getD k Frm.zero).msg.words.length) s69.kw, .slice s69.ab ((fs.getD k Frm.zero).msg.bits.length) s69.kb, .slice s69.ad ((fs.getD k Frm.zero).msg.data.length) s69.kd, .slice s69.ar ((fs.getD k Frm.zero).msg.recs.length) s69.kr, .int .u8 ((fs.getD k Frm.zero).msg.mei), .int .u8 ((fs.getD k Frm.zero).msg.kind), .int .u8 ((fs.getD k Frm.zero).msg.level), .int .u8 ((fs.getD k Frm.zero).msg.more), .int .u8 ((fs.getD k Frm.zero).msg.next), .slice s69.ao ((fs.getD k Frm.zero).msg.objects.length) s69.ko] r81 hs73 <| ?_
 have r82 := MsgRd.old r76 hu78
 refine wo (rtuW 1 ((fs.getD k Frm.zero).unit) ((fs.getD k Frm.zero).tid) ((fs.getD k Frm.zero).msg)) (fun hX84 => ?_) (fun l83 hX84 => ?_)
 refine L0 <| Oc <| m1 (rtu_write_n hX84 r82 (fewB_few q80n) (by omega) (by omega)) fun w85 hu86 => Pl 5 <| nt <| sq <| sg <| Pl 2 <| nt <| c1 <| xt <| tx <| bx <| ?_
 refine tn <| go <| Pl 1 <| L0 <| Oi (((k : Nat) : Int) + 1) <| Pl 1 <| nl <| ?_
 have U87 := ut0 U79 hu86
 have U88 := ut0 hu78 hu86
 have r89 := SrtuAt.old f60 U88
 exact lpe (k + 1) ⟨U87, (le (le hz59 hu78.size) hu86.size), r89, (by (try dsimp only); omega)⟩ (by omega)
 have hl90 := rtuW_le (r82.rngs).1 hX84
 refine L0 <| Oc <| so2 (rtu_write_s hX84 r82 (fewB_few q80n) (by omega) (by omega)) fun A95 cp96 w91 rd99 hl97 hm98 hu94 => Pl 5 <| nt <| sq <| sg <| Pl 2 <| nt <| c0 <| skn <| sq <| ?_
 refine go <| Pl 2 <| ?_
 have U100 := ut0 hu78 hu94
 have r101 := SrtuAt.old f60 U100
 refine pr (SS.feed (SS.mk 1 [] false) l83) fun S102 L103 hX104 => ?_
 refine L0 <| Oc <| so3 (srtu_feed_x hX104 r101 (rd99).rd (by omega)) fun A112 cp113 w105 rd116 hl114 hm115 hA108 hu109 => ?_
 have hk110 := SrtuAt.le hA108
 have hk111 := SS.feed_le hX104
 refine Pl 1 <| ng <| Pl 1 <| ?_
 refine pr (SS.tick S102) fun S117 L118 hX119 => ?_
 refine L0 <| Oc <| so3 (srtu_tick_x hX119 hA108) fun A127 cp128 w120 rd131 hl129 hm130 hA123 hu124 => ?_
 have hk125 := SrtuAt.le hA123
 have hk126 := SS.tick_le hX119
 refine Pl 1 <| nt <| sq <| sg <| Pl 4 <| cu 4 [70] 74 (((((L103.length : Nat) : Int) != 0) || (((L118.length : Nat) : Int) != 1))) (fun K K133 => ?_) ?_
 refine bl 70 ((((L103.length : Nat) : Int) != 0)) (fun q132 => ?_) (fun q132 => ?_)
 have q132p := ne_of_bnei q132
 exact Pl 4 <| ce K133 true (by rw [q132]; rfl)
 have q132p := eq_of_bnei q132
 exact Pl 4 <| ce K133 (((L118.length : Nat) : Int) != 1) (by rw [q132]; rfl)
 refine nt <| ?_
 have U134 := ut0 U79 hu94
 have U135 := u1 U134 hu109 (ni hu11.size hg18)
 have U136 := u1 U135 hu124 (ni hu11.size hg18)
 refine cb (((((L103.length : Nat) : Int) != 0) || (((L118.length : Nat) : Int) != 1))) (fun q137 => ?_) (fun q137 => ?_)
 refine sg <| Pl 1 <| nt <| rt <| tr <| br <| tr <| tr <| br <| tr <| rr (.bool false) <| ?_
 have U138 := u1 (Upd.mono (S' := [g16]) hu94 all0) hu109 im
 have U139 := u1 U138 hu124 im
 have U140 := u1 (Upd.mono (S' := [g16]) U100 all0) hu109 im
 have U141 := u1 U140 hu124 im
 have r142 := MsgRd.old (hv72.1) U136
 have hs : false = true := by obtain ⟨z1, z2⟩ := srtu_one (by decide) (r142).rngs hX84 hX104 hX119; rw [z1, z2] at q137; simp at q137
 rw [hs]
 exact ⟨rfl, U136⟩
 have q137a := (or_f q137).1
 have q137b := (or_f q137).2
 have q137ap := eq_of_bnei q137a
 have q137bp := eq_of_bnei q137b
 refine skn <| sq <| x64 (RdE.elt (rd131).rd 0 (by omega) (Ev.bad 0)) fun b160 o161 cl162 t163 fr164 s165 hA166 hb167 hv168 hs169 => Rg 10 (fun w' => w'.heap[b160]? = some (.cells cl162 t163 fr164) ∧ w'.heap[b64]? = some (.cells cl66 t67 fr68)) fun w177 hu178 => ?_
 have r180 := ub hu178 hb167
 have U181 := u1 (Upd.mono (S' := [g16]) hu94 all0) hu109 im
 have U182 := u1 U181 hu124 im
 have U183 := ut0 U182 hu178
 have ne184 := nb (blk_lt hb71) hu11.size hg18
 have r185 := ub1 U183 ne184 r81
 refine hld ⟨r180, r185⟩ fun hS179 => Rt 0 hS179 <| Ri 1 hS179 25 L118.length 0 0 rfl hA166 (by omega) <| Rr 2 hS179 (.agg (evl ⟨(L118.getD 0 (Ev.bad 0)).e, (L118.getD 0 (Ev.bad 0)).f⟩ s165)) (fun w' hs => lda_o (g := b160) (off := o161 + 0 * 25) [.int .i64 ((L118.getD 0 (Ev.bad 0)).e), .int .u8 ((L118.getD 0 (Ev.bad 0)).f.unit), .int .u16 ((L118.getD 0 (Ev.bad 0)).f.tid), .int .u8 ((L118.getD 0 (Ev.bad 0)).f.msg.code), .int .u8 ((L118.getD 0 (Ev.bad 0)).f.msg.fail), .int .u16 ((L118.getD 0 (Ev.bad 0)).f.msg.addr), .int .u16 ((L118.getD 0 (Ev.bad 0)).f.msg.count), .int .u16 ((L118.getD 0 (Ev.bad 0)).f.msg.value), .int .u16 ((L118.getD 0 (Ev.bad 0)).f.msg.and_), .int .u16 ((L118.getD 0 (Ev.bad 0)).f.msg.or_), .int .u16 ((L118.getD 0 (Ev.bad 0)).f.msg.addr2), .int .u16 ((L118.getD 0 (Ev.bad 0)).f.msg.sub), .int .u16 ((L118.getD 0 (Ev.bad 0)).f.msg.status), .int .u16 ((L118.getD 0 (Ev.bad 0)).f.msg.events), .int .u16 ((L118.getD 0 (Ev.bad 0)).f.msg.messages), .slice s165.aw ((L118.getD 0 (Ev.bad 0)).f.msg.words.length) s165.kw, .slice s165.ab ((L118.getD 0 (Ev.bad 0)).f.msg.bits.length) s165.kb, .slice s165.ad ((L118.getD 0 (Ev.bad 0)).f.msg.data.length) s165.kd, .slice s165.ar ((L118.getD 0 (Ev.bad 0)).f.msg.recs.length) s165.kr, .int .u8 ((L118.getD 0 (Ev.bad 0)).f.msg.mei), .int .u8 ((L118.getD 0 (Ev.bad 0)).f.msg.kind), .int .u8 ((L118.getD 0 (Ev.bad 0)).f.msg.level), .int .u8 ((L118.getD 0 (Ev.bad 0)).f.msg.more), .int .u8 ((L118.getD 0 (Ev.bad 0)).f.msg.next), .slice s165.ao ((L118.getD 0 (Ev.bad 0)).f.msg.objects.length) s165.ko] rfl (by kernel_rfl) hs.1 (by kernel_rfl) (by kernel_rfl) hs169) <| Rt 3 hS179 <| Rt 4 hS179 <| Ri 5 hS179 24 fs.length k ((k : Nat) : Int) rfl hA70 (by omega) <| Rr 6 hS179 (.agg (fcl ((fs.getD k Frm.zero).unit) ((fs.getD k Frm.zero).tid) ((fs.getD k Frm.zero).msg) s69)) (fun w' hs => lda_o (g := b64) (off := o65 + k * 24) [.int .u8 ((fs.getD k Frm.zero).unit), .int .u16 ((fs.getD k Frm.zero).tid), .int .u8 ((fs.getD k Frm.zero).msg.code), .int .u8 ((fs.getD k Frm.zero).msg.fail), .int .u16 ((fs.getD k Frm.zero).msg.addr), .int .u16 ((fs.getD k Frm.zero).msg.count), .int .u16 ((fs.getD k Frm.zero).msg.value), .int .u16 ((fs.getD k Frm.zero).msg.and_), .int .u16 ((fs.getD k Frm.zero).msg.or_), .int .u16 ((fs.getD k Frm.zero).msg.addr2), .int .u16 ((fs.getD k Frm.zero).msg.sub), .int .u16 ((fs.getD k Frm.zero).msg.status), .int .u16 ((fs.getD k Frm.zero).msg.events), .int .u16 ((fs.getD k Frm.zero).msg.messages), .slice s69.aw ((fs.getD k Frm.zero).msg.words.length) s69.kw, .slice s69.ab ((fs.getD k Frm.zero).msg.bits.length) s69.kb, .slice s69.ad ((fs.getD k Frm.zero).msg.data.length) s69.kd, .slice s69.ar ((fs.getD k Frm.zero).msg.recs.length) s69.kr, .int .u8 ((fs.getD k Frm.zero).msg.mei), .int .u8 ((fs.getD k Frm.zero).msg.kind), .int .u8 ((fs.getD k Frm.zero).msg.level), .int .u8 ((fs.getD k Frm.zero).msg.more), .int .u8 ((fs.getD k Frm.zero).msg.next), .slice s69.ao ((fs.getD k Frm.zero).msg.objects.length) s69.ko] rfl (by kernel_rfl) hs.2 (by kernel_rfl) (by kernel_rfl) hs73) <| Rt 7 hS179 <| ?_
 have r186 := MsgRd.upd (hv168.1) hu178 safe0
 have U187 := u1 (Upd.mono (S' := [g16]) U100 all0) hu109 im
 have U188 := u1 U187 hu124 im
 have U189 := ut0 U188 hu178
 have U190 := ut0 U136 hu178
 have r191 := MsgRd.old (hv72.1) U190
 refine R0 8 rfl <| Oc <| m1 (same19_any (A := (L118.getD 0 (Ev.bad 0))) (B := (Ev.mk 0 (fs.getD k Frm.zero))) r186 r191) fun w192 hu193 => ?_
 have r195 := ub hu193 r180
 have r196 := ub hu193 r185
 refine hld ⟨r195, r196⟩ fun hS194 => Rt 9 hS194 <| re <| tn <| ?_
 have U197 := ut0 U190 hu193
 refine cb ((!(decide ((L118.getD 0 (Ev.bad 0)) = (Ev.mk 0 (fs.getD k Frm.zero)))))) (fun q198 => ?_) (fun q198 => ?_)
 have q198n : (decide ((L118.getD 0 (Ev.bad 0)) = (Ev.mk 0 (fs.getD k Frm.zero)))) = false := by simpa using q198
 have q198np := of_decide_eq_false q198n
 refine sg <| Pl 1 <| nt <| rt <| br <| tr <| tr <| br <| tr <| rr (.bool false) <| ?_
 have r199 := MsgRd.old r191 hu193
 have hs : false = true := by obtain ⟨z1, z2⟩ := srtu_one (by decide) (r199).rngs hX84 hX104 hX119; rw [z2] at q198; simp at q198
 rw [hs]
 exact ⟨rfl, U197⟩
 have q198n : (decide ((L118.getD 0 (Ev.bad 0)) = (Ev.mk 0 (fs.getD k Frm.zero)))) = true := by simpa using q198
 have q198np := of_decide_eq_true q198n
 refine sk <| bn <| tn <| go <| Pl 1 <| L0 <| Oi (((k : Nat) : Int) + 1) <| Pl 1 <| nl <| ?_
 have U200 := ut0 hu178 hu193
 have r201 := SrtuAt.old hA123 U200
 have hT := r201
 rw [srtu_reset hX104 hX119] at hT
 exact lpe (k + 1) ⟨U197, (le (le (le (le (le (le hz59 hu78.size) hu94.size) hu109.size) hu124.size) hu178.size) hu193.size), hT, (by (try dsimp only); omega)⟩ (by omega)
 have q63p := of_decide_eq_false q63
 refine xt <| tx <| tx <| bx <| tn <| sg <| Pl 3 <| L1 <| Oc <| m1 (srtu_held f60) fun w202 hu203 => Pl 3 <| nt <| rt <| rr (.bool ((((SS.mk 1 [] false).held.length : Nat) : Int) == 0)) <| ?_
 have hs : ((((SS.mk 1 [] false).held.length : Nat) : Int) == 0) = true := rfl
 rw [hs]
 have U204 := ut0 U62 hu203
 exact ⟨rfl, U204⟩
 refine skn <| sg <| Pl 1 <| L0 <| Oc <| e3 srtu_new0 fun g205 w206 hg207 hA208 hu209 => Pl 1 <| nt <| sq <| sg <| Pl 2 <| nl <| ?_
 refine tn <| c0 <| skn <| sg <| Pl 2 <| ?_
 have U210 := ut0 hu11 hu209
 have r211 := RdB.old ha U210
 refine pr (SS.feed (SS.mk 0 [] false) a) fun S212 L213 hX214 => ?_
 refine L0 <| Oc <| so3 (srtu_feed_x hX214 hA208 r211 (by omega)) fun A222 cp223 w215 rd226 hl224 hm225 hA218 hu219 => ?_
 have hk220 := SrtuAt.le hA218
 have hk221 := SS.feed_le hX214
 refine ng <| Pl 1 <| ?_
 refine pr (SS.tick S212) fun S227 L228 hX229 => ?_
 refine L0 <| Oc <| so3 (srtu_tick_x hX229 hA218) fun A237 cp238 w230 rd241 hl239 hm240 hA233 hu234 => ?_
 have hk235 := SrtuAt.le hA233
 have hk236 := SS.tick_le hX229
 refine nt <| sq <| sg <| Pl 1 <| nt <| bk <| ?_
 have U242 := u1 U210 hu219 (ni hu11.size hg207)
 have U243 := u1 U242 hu234 (ni hu11.size hg207)
 have hT := hA233
 rw [srtu_reset hX214 hX229] at hT
 refine glp (fun x => [(2, .slice F fs.length cpF), (7, .bool true), (8, .int .i64 0), (9, .pointer (some ⟨g205, 0, none⟩)), (10, .int .i64 ((x : Nat) : Int))]) (fun (x : Nat) w' => Upd [] w w' ∧ w230.heap.size ≤ w'.heap.size ∧ SrtuAt w' g205 (SS.mk 0 [] false) ∧ (x ≤ fs.length)) (fun x => fs.length - x) 0 ⟨U243, lr, hT, (by (try dsimp only); omega)⟩ ?_
 rintro k w244 ⟨hu245, hz248, f246, p247⟩
 refine wkc [(2, .slice F fs.length cpF), (7, .bool true), (8, .int .i64 0), (9, .pointer (some ⟨g205, 0, none⟩)), (10, .int .i64 ((k : Nat) : Int))] ?_
 have f249 : SrtuAt w244 g205 (SS.mk 0 [] false) := f246
 have p250 : k ≤ fs.length := p247
 refine sq <| sg <| Pl 4 <| nt <| ?_
 have U251 := ut0 (Upd.refl [] _) hu245
 refine cb ((decide (((k : Nat) : Int) < ((fs.length : Nat) : Int)))) (fun q252 => ?_) (fun q252 => ?_)
 have q252p := of_decide_eq_true q252
 refine skn <| sq <| bk <| sg <| Pl 2 <| x64 (RdF.elt hF k (by omega) Frm.zero) fun b253 o254 cl255 t256 fr257 s258 hA259 hb260 hv261 hs262 => ?_
 have hw263 := hv261.2
 refine L0 <| Oixs 24 fs.length k hA259 (by omega) <| Pl 1 <| ?_
 have r264 := ub U251 hb260
 refine L0 <| Oel [.int .u8 ((fs.getD k Frm.zero).msg.code), .int .u8 ((fs.getD k Frm.zero).msg.fail), .int .u16 ((fs.getD k Frm.zero).msg.addr), .int .u16 ((fs.getD k Frm.zero).msg.count), .int .u16 ((fs.getD k Frm.zero).msg.value), .int .u16 ((fs.getD k Frm.zero).msg.and_), .int .u16 ((fs.getD k Frm.zero).msg.or_), .int .u16 ((fs.getD k Frm.zero).msg.addr2), .int .u16 ((fs.getD k Frm.zero).msg.sub), .int .u16 ((fs.getD k Frm.zero).msg.status), .int .u16 ((fs.getD k Frm.zero).msg.events), .int .u16 ((fs.getD k Frm.zero).msg.messages), .slice s258.aw ((fs.getD k Frm.zero).msg.words.length) s258.kw, .slice s258.ab ((fs.getD k Frm.zero).msg.bits.length) s258.kb, .slice s258.ad ((fs.getD k Frm.zero).msg.data.length) s258.kd, .slice s258.ar ((fs.getD k Frm.zero).msg.recs.length) s258.kr, .int .u8 ((fs.getD k Frm.zero).msg.mei), .int .u8 ((fs.getD k Frm.zero).msg.kind), .int .u8 ((fs.getD k Frm.zero).msg.level), .int .u8 ((fs.getD k Frm.zero).msg.more), .int .u8 ((fs.getD k Frm.zero).msg.next), .slice s258.ao ((fs.getD k Frm.zero).msg.objects.length) s258.ko] r264 (el_sub (k := 2) (m := 22) hs262 (by kernel_rfl) (by decide)) <| ?_
 have r265 := MsgRd.old (hv261.1) U251
 refine L0 <| Oc <| m1 (few_any r265) fun w266 hu267 => Pl 1 <| nt <| sq <| sg <| Pl 2 <| nt <| ?_
 have U268 := ut0 U251 hu267
 refine cb ((!(fewB (fs.getD k Frm.zero).msg))) (fun q269 => ?_) (fun q269 => ?_)
 have q269n : (fewB (fs.getD k Frm.zero).msg) = false := by simpa using q269
 refine sg <| Pl 2 <| nt <| rt <| tr <| br <| tr <| tr <| br <| tr <| rr (.bool true) <| ?_
 exact ⟨rfl, U268⟩
 have q269n : (fewB (fs.getD k Frm.zero).msg) = true := by simpa using q269
 refine skn <| sg <| Pl 3 <| L0 <| Oixs 24 fs.length k hA259 (by omega) <| ?_
 have r270 := ub hu267 r264
 refine L0 <| Oel [.int .u8 ((fs.getD k Frm.zero).unit), .int .u16 ((fs.getD k Frm.zero).tid), .int .u8 ((fs.getD k Frm.zero).msg.code), .int .u8 ((fs.getD k Frm.zero).msg.fail), .int .u16 ((fs.getD k Frm.zero).msg.addr), .int .u16 ((fs.getD k Frm.zero).msg.count), .int .u16 ((fs.getD k Frm.zero).msg.value), .int .u16 ((fs.getD k Frm.zero).msg.and_), .int .u16 ((fs.getD k Frm.zero).msg.or_), .int .u16 ((fs.getD k Frm.zero).msg.addr2), .int .u16 ((fs.getD k Frm.zero).msg.sub), .int .u16 ((fs.getD k Frm.zero).msg.status), .int .u16 ((fs.getD k Frm.zero).msg.events), .int .u16 ((fs.getD k Frm.zero).msg.messages), .slice s258.aw ((fs.getD k Frm.zero).msg.words.length) s258.kw, .slice s258.ab ((fs.getD k Frm.zero).msg.bits.length) s258.kb, .slice s258.ad ((fs.getD k Frm.zero).msg.data.length) s258.kd, .slice s258.ar ((fs.getD k Frm.zero).msg.recs.length) s258.kr, .int .u8 ((fs.getD k Frm.zero).msg.mei), .int .u8 ((fs.getD k Frm.zero).msg.kind), .int .u8 ((fs.getD k Frm.zero).msg.level), .int .u8 ((fs.getD k Frm.zero).msg.more), .int .u8 ((fs.getD k Frm.zero).msg.next), .slice s258.ao ((fs.getD k Frm.zero).msg.objects.length) s258.ko] r270 hs262 <| ?_
 have r271 := MsgRd.old r265 hu267
 refine wo (rtuW 0 ((fs.getD k Frm.zero).unit) ((fs.getD k Frm.zero).tid) ((fs.getD k Frm.zero).msg)) (fun hX273 => ?_) (fun l272 hX273 => ?_)
 refine L0 <| Oc <| m1 (rtu_write_n hX273 r271 (fewB_few q269n) (by omega) (by omega)) fun w274 hu275 => Pl 5 <| nt <| sq <| sg <| Pl 2 <| nt <| c1 <| xt <| tx <| bx <| ?_
 refine tn <| go <| Pl 1 <| L0 <| Oi (((k : Nat) : Int) + 1) <| Pl 1 <| nl <| ?_
 have U276 := ut0 U268 hu275
 have U277 := ut0 hu267 hu275
 have r278 := SrtuAt.old f249 U277
 exact lpe (k + 1) ⟨U276, (le (le hz248 hu267.size) hu275.size), r278, (by (try dsimp only); omega)⟩ (by omega)
 have hl279 := rtuW_le (r271.rngs).1 hX273
 refine L0 <| Oc <| so2 (rtu_write_s hX273 r271 (fewB_few q269n) (by omega) (by omega)) fun A284 cp285 w280 rd288 hl286 hm287 hu283 => Pl 5 <| nt <| sq <| sg <| Pl 2 <| nt <| c0 <| skn <| sq <| ?_
 refine go <| Pl 2 <| ?_
 have U289 := ut0 hu267 hu283
 have r290 := SrtuAt.old f249 U289
 refine pr (SS.feed (SS.mk 0 [] false) l272) fun S291 L292 hX293 => ?_
 refine L0 <| Oc <| so3 (srtu_feed_x hX293 r290 (rd288).rd (by omega)) fun A301 cp302 w294 rd305 hl303 hm304 hA297 hu298 => ?_
 have hk299 := SrtuAt.le hA297
 have hk300 := SS.feed_le hX293
 refine Pl 1 <| ng <| Pl 1 <| ?_
 refine pr (SS.tick S291) fun S306 L307 hX308 => ?_
 refine L0 <| Oc <| so3 (srtu_tick_x hX308 hA297) fun A316 cp317 w309 rd320 hl318 hm319 hA312 hu313 => ?_
 have hk314 := SrtuAt.le hA312
 have hk315 := SS.tick_le hX308
 refine Pl 1 <| nt <| sq <| sg <| Pl 4 <| cu 4 [70] 74 (((((L292.length : Nat) : Int) != 0) || (((L307.length : Nat) : Int) != 1))) (fun K K322 => ?_) ?_
 refine bl 70 ((((L292.length : Nat) : Int) != 0)) (fun q321 => ?_) (fun q321 => ?_)
 have q321p := ne_of_bnei q321
 exact Pl 4 <| ce K322 true (by rw [q321]; rfl)
 have q321p := eq_of_bnei q321
 exact Pl 4 <| ce K322 (((L307.length : Nat) : Int) != 1) (by rw [q321]; rfl)
 refine nt <| ?_
 have U323 := ut0 U268 hu283
 have U324 := u1 U323 hu298 (ni hu11.size hg207)
 have U325 := u1 U324 hu313 (ni hu11.size hg207)
 refine cb (((((L292.length : Nat) : Int) != 0) || (((L307.length : Nat) : Int) != 1))) (fun q326 => ?_) (fun q326 => ?_)
 refine sg <| Pl 1 <| nt <| rt <| tr <| br <| tr <| tr <| br <| tr <| rr (.bool false) <| ?_
 have U327 := u1 (Upd.mono (S' := [g205]) hu283 all0) hu298 im
 have U328 := u1 U327 hu313 im
 have U329 := u1 (Upd.mono (S' := [g205]) U289 all0) hu298 im
 have U330 := u1 U329 hu313 im
 have r331 := MsgRd.old (hv261.1) U325
 have hs : false = true := by obtain ⟨z1, z2⟩ := srtu_one (by decide) (r331).rngs hX273 hX293 hX308; rw [z1, z2] at q326; simp at q326
 rw [hs]
 exact ⟨rfl, U325⟩
 have q326a := (or_f q326).1
 have q326b := (or_f q326).2
 have q326ap := eq_of_bnei q326a
 have q326bp := eq_of_bnei q326b
 refine skn <| sq <| x64 (RdE.elt (rd320).rd 0 (by omega) (Ev.bad 0)) fun b349 o350 cl351 t352 fr353 s354 hA355 hb356 hv357 hs358 => Rg 10 (fun w' => w'.heap[b349]? = some (.cells cl351 t352 fr353) ∧ w'.heap[b253]? = some (.cells cl255 t256 fr257)) fun w366 hu367 => ?_
 have r369 := ub hu367 hb356
 have U370 := u1 (Upd.mono (S' := [g205]) hu283 all0) hu298 im
 have U371 := u1 U370 hu313 im
 have U372 := ut0 U371 hu367
 have ne373 := nb (blk_lt hb260) hu11.size hg207
 have r374 := ub1 U372 ne373 r270
 refine hld ⟨r369, r374⟩ fun hS368 => Rt 0 hS368 <| Ri 1 hS368 25 L307.length 0 0 rfl hA355 (by omega) <| Rr 2 hS368 (.agg (evl ⟨(L307.getD 0 (Ev.bad 0)).e, (L307.getD 0 (Ev.bad 0)).f⟩ s354)) (fun w' hs => lda_o (g := b349) (off := o350 + 0 * 25) [.int .i64 ((L307.getD 0 (Ev.bad 0)).e), .int .u8 ((L307.getD 0 (Ev.bad 0)).f.unit), .int .u16 ((L307.getD 0 (Ev.bad 0)).f.tid), .int .u8 ((L307.getD 0 (Ev.bad 0)).f.msg.code), .int .u8 ((L307.getD 0 (Ev.bad 0)).f.msg.fail), .int .u16 ((L307.getD 0 (Ev.bad 0)).f.msg.addr), .int .u16 ((L307.getD 0 (Ev.bad 0)).f.msg.count), .int .u16 ((L307.getD 0 (Ev.bad 0)).f.msg.value), .int .u16 ((L307.getD 0 (Ev.bad 0)).f.msg.and_), .int .u16 ((L307.getD 0 (Ev.bad 0)).f.msg.or_), .int .u16 ((L307.getD 0 (Ev.bad 0)).f.msg.addr2), .int .u16 ((L307.getD 0 (Ev.bad 0)).f.msg.sub), .int .u16 ((L307.getD 0 (Ev.bad 0)).f.msg.status), .int .u16 ((L307.getD 0 (Ev.bad 0)).f.msg.events), .int .u16 ((L307.getD 0 (Ev.bad 0)).f.msg.messages), .slice s354.aw ((L307.getD 0 (Ev.bad 0)).f.msg.words.length) s354.kw, .slice s354.ab ((L307.getD 0 (Ev.bad 0)).f.msg.bits.length) s354.kb, .slice s354.ad ((L307.getD 0 (Ev.bad 0)).f.msg.data.length) s354.kd, .slice s354.ar ((L307.getD 0 (Ev.bad 0)).f.msg.recs.length) s354.kr, .int .u8 ((L307.getD 0 (Ev.bad 0)).f.msg.mei), .int .u8 ((L307.getD 0 (Ev.bad 0)).f.msg.kind), .int .u8 ((L307.getD 0 (Ev.bad 0)).f.msg.level), .int .u8 ((L307.getD 0 (Ev.bad 0)).f.msg.more), .int .u8 ((L307.getD 0 (Ev.bad 0)).f.msg.next), .slice s354.ao ((L307.getD 0 (Ev.bad 0)).f.msg.objects.length) s354.ko] rfl (by kernel_rfl) hs.1 (by kernel_rfl) (by kernel_rfl) hs358) <| Rt 3 hS368 <| Rt 4 hS368 <| Ri 5 hS368 24 fs.length k ((k : Nat) : Int) rfl hA259 (by omega) <| Rr 6 hS368 (.agg (fcl ((fs.getD k Frm.zero).unit) ((fs.getD k Frm.zero).tid) ((fs.getD k Frm.zero).msg) s258)) (fun w' hs => lda_o (g := b253) (off := o254 + k * 24) [.int .u8 ((fs.getD k Frm.zero).unit), .int .u16 ((fs.getD k Frm.zero).tid), .int .u8 ((fs.getD k Frm.zero).msg.code), .int .u8 ((fs.getD k Frm.zero).msg.fail), .int .u16 ((fs.getD k Frm.zero).msg.addr), .int .u16 ((fs.getD k Frm.zero).msg.count), .int .u16 ((fs.getD k Frm.zero).msg.value), .int .u16 ((fs.getD k Frm.zero).msg.and_), .int .u16 ((fs.getD k Frm.zero).msg.or_), .int .u16 ((fs.getD k Frm.zero).msg.addr2), .int .u16 ((fs.getD k Frm.zero).msg.sub), .int .u16 ((fs.getD k Frm.zero).msg.status), .int .u16 ((fs.getD k Frm.zero).msg.events), .int .u16 ((fs.getD k Frm.zero).msg.messages), .slice s258.aw ((fs.getD k Frm.zero).msg.words.length) s258.kw, .slice s258.ab ((fs.getD k Frm.zero).msg.bits.length) s258.kb, .slice s258.ad ((fs.getD k Frm.zero).msg.data.length) s258.kd, .slice s258.ar ((fs.getD k Frm.zero).msg.recs.length) s258.kr, .int .u8 ((fs.getD k Frm.zero).msg.mei), .int .u8 ((fs.getD k Frm.zero).msg.kind), .int .u8 ((fs.getD k Frm.zero).msg.level), .int .u8 ((fs.getD k Frm.zero).msg.more), .int .u8 ((fs.getD k Frm.zero).msg.next), .slice s258.ao ((fs.getD k Frm.zero).msg.objects.length) s258.ko] rfl (by kernel_rfl) hs.2 (by kernel_rfl) (by kernel_rfl) hs262) <| Rt 7 hS368 <| ?_
 have r375 := MsgRd.upd (hv357.1) hu367 safe0
 have U376 := u1 (Upd.mono (S' := [g205]) U289 all0) hu298 im
 have U377 := u1 U376 hu313 im
 have U378 := ut0 U377 hu367
 have U379 := ut0 U325 hu367
 have r380 := MsgRd.old (hv261.1) U379
 refine R0 8 rfl <| Oc <| m1 (same19_any (A := (L307.getD 0 (Ev.bad 0))) (B := (Ev.mk 0 (fs.getD k Frm.zero))) r375 r380) fun w381 hu382 => ?_
 have r384 := ub hu382 r369
 have r385 := ub hu382 r374
 refine hld ⟨r384, r385⟩ fun hS383 => Rt 9 hS383 <| re <| tn <| ?_
 have U386 := ut0 U379 hu382
 refine cb ((!(decide ((L307.getD 0 (Ev.bad 0)) = (Ev.mk 0 (fs.getD k Frm.zero)))))) (fun q387 => ?_) (fun q387 => ?_)
 have q387n : (decide ((L307.getD 0 (Ev.bad 0)) = (Ev.mk 0 (fs.getD k Frm.zero)))) = false := by simpa using q387
 have q387np := of_decide_eq_false q387n
 refine sg <| Pl 1 <| nt <| rt <| br <| tr <| tr <| br <| tr <| rr (.bool false) <| ?_
 have r388 := MsgRd.old r380 hu382
 have hs : false = true := by obtain ⟨z1, z2⟩ := srtu_one (by decide) (r388).rngs hX273 hX293 hX308; rw [z2] at q387; simp at q387
 rw [hs]
 exact ⟨rfl, U386⟩
 have q387n : (decide ((L307.getD 0 (Ev.bad 0)) = (Ev.mk 0 (fs.getD k Frm.zero)))) = true := by simpa using q387
 have q387np := of_decide_eq_true q387n
 refine sk <| bn <| tn <| go <| Pl 1 <| L0 <| Oi (((k : Nat) : Int) + 1) <| Pl 1 <| nl <| ?_
 have U389 := ut0 hu367 hu382
 have r390 := SrtuAt.old hA312 U389
 have hT := r390
 rw [srtu_reset hX293 hX308] at hT
 exact lpe (k + 1) ⟨U386, (le (le (le (le (le (le hz248 hu267.size) hu283.size) hu298.size) hu313.size) hu367.size) hu382.size), hT, (by (try dsimp only); omega)⟩ (by omega)
 have q252p := of_decide_eq_false q252
 refine xt <| tx <| tx <| bx <| tn <| sg <| Pl 3 <| L1 <| Oc <| m1 (srtu_held f249) fun w391 hu392 => Pl 3 <| nt <| rt <| rr (.bool ((((SS.mk 0 [] false).held.length : Nat) : Int) == 0)) <| ?_
 have hs : ((((SS.mk 0 [] false).held.length : Nat) : Int) == 0) = true := rfl
 rw [hs]
 have U393 := ut0 U251 hu392
 exact ⟨rfl, U393⟩
theorem lawSrtuWritesV {w : World} {ans : Bool} {mA : Bool} {vA : Value} {a : List Int} (ha : RdB mA w vA a) {mF : Bool} {vF : Value} {fs : List Frm} (hF : RdF mF w vF fs) : Calls Tryz.prog 7 #[.bool ans, vA, vF] w (PVal (.bool true) w) := by
  obtain ⟨AA, cpA, rfl, _, _⟩ := ha.shape
  obtain ⟨A0, cp0, rfl, _, _⟩ := hF.shape
  exact lawSrtuWrites (ans := ans) ha hF
end Go.Proofs.YtgjlbabefogepaaGreat
namespace Go.Proofs.YtgjlbabefogepaaGreat
open Go.WideShapes
section
variable {H : Type} {enc : TypeId × Value → H} {w : World} {base : Nat} {spare : Nat → Bool} {held : Bool} {n : Nat} {y : DataW H × List MemPlace}
theorem fr_el {cs : List Value} (h : DataW.trod enc Tryz.prog w base spare held n 47 cs = some y) : ∃ f, frR false w f cs := by
  obtain ⟨u, t, M, c, e0, hM, hu, ht⟩ := frm_open h
  obtain ⟨x, hx⟩ := mcl_of (cs := c.toArray) (by simpa using hM)
  have hc : c = (mcl M x).toList := by rw [← hx]
  refine ⟨⟨u, t, M⟩, x, ?_, ?_, hu, ht⟩
  · rw [e0, fcl_eq, hc]
    simp
  · rw [← hc]
    exact hM
theorem fs_open {cs : List Value} (h : DataW.trod enc Tryz.prog w base spare held n 58 cs = some y) : ∃ v xs, cs = [v] ∧ RdF false w v xs :=
  rd_open (R := frR false) Tryz.underlying58 (by kernel_rfl) (by decide) (fun _ _ _ _ h => fr_el h) h
end
end Go.Proofs.YtgjlbabefogepaaGreat
namespace Go.Proofs.YtgjlbabefogepaaGreat
open Go.ChangeShapes Go.WideShapes Go.ChangeAt Go.RowKit
theorem own : ownKnob Tryz.prog.godebug = none := by kernel_rfl
theorem laidOut : laidOutB Tryz.prog = true := by kernel_rfl
set_option maxRecDepth 100000 in
theorem lifted (os : Os) (started : os.Started) (H : Type) (enc : TypeId × Value → H) :
    ReturnsInHanded {} Tryz.checked os 7 .any (Rows.srtuWritesSpec.pre6 enc Tryz.prog Tryz.f7 Rows.srtuWritesRow.domain false) (Rows.srtuWritesSpec.post enc Tryz.prog Tryz.f7 false true false false) := by
  refine returnsInHanded_of_change (C := Tryz.checked) own started (by kernel_rfl) Tryz.func7
    (ChangeSpec.witness6 (enc := enc) (C := Tryz.checked) false ⟨#[], #[.bool false, .slice none 0 0, .slice none 0 0], []⟩ 8 (by kernel_rfl) (by kernel_rfl) (by kernel_rfl) (by kernel_rfl)) ?_
  intro W base args ds gs before hval0 hW hcnd _
  have hval : ∀ (j : Nat) t v, Tryz.f7.params[j]? = some t → args[j]? = some v → Value.okWide Tryz.prog W .any base t v := hval0
  have hW' := hW
  obtain ⟨p, q, hA0, hV, rfl, hfz, hnd⟩ := hW
  have hA : DataW.TrodAll enc Tryz.prog W 0 (fun _ => true) true Tryz.f7.params.toList args.toList ds p := hA0
  rw [Tryz.params7] at hA hval
  obtain ⟨v0, vs0, d0, ds0, p0, q0, hargs, rfl, rfl, h0, r0⟩ := trodAll_cons hA
  obtain ⟨v1, vs1, d1, ds1, p1, q1, rfl, rfl, rfl, h1, r1⟩ := trodAll_cons r0
  obtain ⟨v2, vs2, d2, ds2, p2, q2, rfl, rfl, rfl, h2, r2⟩ := trodAll_cons r1
  obtain ⟨rfl, rfl, rfl⟩ := trodAll_nil r2
  obtain rfl : args = #[v0, v1, v2] := by cases args; simp_all
  obtain ⟨rfl, rfl⟩ := trodVars_none hV
  obtain ⟨a0, rfl, rfl, rfl⟩ := open_bool Tryz.underlying4 (hval 0 4 v0 rfl rfl) h0
  have k1 := h1
  have lt1 : ∀ x ∈ p1, x.block < W.heap.size := by obtain ⟨m, hm⟩ := k1; exact DataW.trod_lt m _ _ _ hm
  obtain ⟨s1, len1, cap1, rfl⟩ := okWide_slice Tryz.underlying29 (hval 1 29 v1 rfl rfl)
  obtain ⟨u1, xs1, e1, R1⟩ : ∃ u xs, [Value.slice s1 len1 cap1] = [u] ∧ RdB false W u xs := by
    obtain ⟨fuel, hf⟩ := k1
    exact sl_u8 hf
  obtain rfl : Value.slice s1 len1 cap1 = u1 := by simpa using e1
  have k2 := h2
  have lt2 : ∀ x ∈ p2, x.block < W.heap.size := by obtain ⟨m, hm⟩ := k2; exact DataW.trod_lt m _ _ _ hm
  obtain ⟨s2, len2, cap2, rfl⟩ := okWide_slice Tryz.underlying58 (hval 2 58 v2 rfl rfl)
  obtain ⟨u2, xs2, e2, R2⟩ : ∃ u xs, [Value.slice s2 len2 cap2] = [u] ∧ RdF false W u xs := by
    obtain ⟨fuel, hf⟩ := k2
    exact fs_open hf
  obtain rfl : Value.slice s2 len2 cap2 = u2 := by simpa using e2
  clear hA0 hval0
  refine (lawSrtuWritesV (ans := a0) R1 R2).mono fun e W' ⟨he, hu⟩ => ?_
  have bel := upd_below hu
  subst he
  exact ⟨_, rfl, _, _, _, [], _, [], hW', trodAll_mk1 (shut_bool Tryz.underlying4 _), (trodAll_cons_mk (shut_bool Tryz.underlying4 _) (trodAll_cons_mk (Below.trod laidOut (by kernel_rfl) (of_decide_eq_true (by kernel_rfl)) k1 bel lt1) (trodAll_cons_mk (Below.trod laidOut (by kernel_rfl) (of_decide_eq_true (by kernel_rfl)) k2 bel lt2) trodAll_mk0))), rfl, bel.frame _, fun h => by cases h⟩
theorem over : Rows.srtuWritesRow.holds Tryz.pinned (OpenSpec.ofChange Rows.srtuWritesSpec) :=
  OpenClaim.holds_of_wide 7 Tryz.f7 rfl rfl rfl rfl rfl rfl rfl ⟨rfl, rfl, rfl, rfl, rfl⟩ rfl rfl rfl rfl rfl (by kernel_rfl) Tryz.func7 (by kernel_rfl)
    (of_decide_eq_true (by kernel_rfl)) (by unfold Func.isWrapper; first | (rw [if_pos (by decide +kernel)]; kernel_rfl) | (rw [if_neg (by decide +kernel)]; exact ⟨rfl, rfl⟩))
    (fun os started H enc _ => lifted os started H enc)
theorem proved : Rows.SrtuWritesSaid := over
#print axioms proved
end Go.Proofs.YtgjlbabefogepaaGreat
