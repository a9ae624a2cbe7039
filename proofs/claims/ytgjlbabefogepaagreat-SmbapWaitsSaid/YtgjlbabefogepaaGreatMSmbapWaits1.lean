/- The statement SmbapWaits holds; no condition of its own. -/
import Derived.Test.YtgjlbabefogepaaGreatKA1
import Derived.Test.YtgjlbabefogepaaGreatKA2
import Derived.Test.YtgjlbabefogepaaGreatKA3
import Derived.Test.YtgjlbabefogepaaGreatKA4
import Derived.Test.YtgjlbabefogepaaGreatKA5
import Derived.Test.YtgjlbabefogepaaGreatKB1
import Derived.Test.YtgjlbabefogepaaGreatRows
import Derived.WalkKit
import Derived.ProofKit
import Derived.OpenShut
import Derived.ShutString
import Derived.ChangeOld
import Derived.Below
set_option linter.unusedVariables false
set_option linter.unusedSimpArgs false
namespace Go.Proofs.YtgjlbabefogepaaGreat
open Go.RowKit
def echoM (M : Msg) : Msg := { Msg.zero with code := M.code, addr := M.addr, count := M.count }
theorem echo_rd {m : Bool} {w : World} {cs : Array Value} {M : Msg} (h : MsgRd m w cs.toList M) (W : World) : MsgRd true W (mG M.code 0 M.addr M.count 0 0 0 0 0 0 0 0 nS nS nS nS 0 0 0 0 0 nS).toList (echoM M) := by
  obtain ⟨vw, vb, vd, vr, vo, h0, hw, hbt, hd, hr, ho, hR⟩ := h
  exact ⟨nilS, nilS, nilS, nilS, nilS, rfl, RdG.nil .., RdG.nil .., RdG.nil .., RdG.nil .., RdG.nil .., { MsgRng.zero with code := hR.code, addr := hR.addr, count := hR.count }⟩
theorem echo_few (M : Msg) : MsgFew (echoM M) := ⟨Nat.zero_le _, Nat.zero_le _, Nat.zero_le _, Nat.zero_le _, (fun r h => nomatch h), Nat.zero_le _, (fun r h => nomatch h)⟩
theorem rng_ac {m : Bool} {w : World} {cs : Array Value} {M : Msg} (h : MsgRd m w cs.toList M) : (0 ≤ M.addr ∧ M.addr < 65536) ∧ (0 ≤ M.count ∧ M.count < 65536) := by
  obtain ⟨vw, vb, vd, vr, vo, h0, hw, hbt, hd, hr, ho, hR⟩ := h
  exact ⟨hR.addr, hR.count⟩
theorem fail0 {M : Msg} {l : List Int} (h : pduW 0 M = some l) : M.fail = 0 := by
  unfold pduW at h
  split at h
  · rename_i hf
    rw [if_pos (by decide)] at h
    cases h
  · rename_i hf
    simpa using hf
theorem pduW_fam {M : Msg} (hf : M.fail = 0) (h : famW (cfam M.code) 0 M = famW (cfam M.code) 1 M) : pduW 0 M = pduW 1 M := by
  unfold pduW
  rw [hf, if_neg (by decide), if_neg (by decide), h]
theorem writeOf_eq {form : Int → Int → Cur → Option (Cur × Msg)} {lay : Int → Msg → List Int} {M : Msg} (h1 : ∀ C, form 0 M.code C = form 1 M.code C) (h2 : lay 0 M = lay 1 M) : writeOf (parseOf form) lay 0 M = writeOf (parseOf form) lay 1 M := by
  have h3 : ∀ b, parseOf form 0 M.code b = parseOf form 1 M.code b := fun b => by
    unfold parseOf
    rw [if_pos (Or.inl rfl), if_pos (Or.inr rfl), h1]
  unfold writeOf
  rw [h2, h3]
theorem filesB_21 : ∀ L, filesB 0 21 L = filesB 1 21 L
  | [] => rfl
  | r :: L => by
    show recB 0 21 r ++ filesB 0 21 L = recB 1 21 r ++ filesB 1 21 L
    rw [filesB_21 L]
    rfl
theorem echo_same {M : Msg} {l : List Int} (hc : M.code = 5 ∨ M.code = 6 ∨ M.code = 21 ∨ M.code = 22) (h : pduW 0 M = some l) : pduW 1 M = some l := by
  rw [← h]
  refine (pduW_fam (fail0 h) ?_).symm
  rcases hc with hc | hc | hc | hc
  · rw [hc]
    refine writeOf_eq (fun C => ?_) ?_
    · rw [hc]; rfl
    · unfold coilsLay; rw [hc]; rfl
  · rw [hc]
    refine writeOf_eq (fun C => ?_) ?_
    · rw [hc]; rfl
    · unfold regsLay; rw [hc]; rfl
  · rw [hc]
    refine writeOf_eq (fun C => ?_) ?_
    · rw [hc]; rfl
    · rw [filesLay_eq, filesLay_eq, hc, filesB_21]
  · rw [hc]
    refine writeOf_eq (fun C => ?_) ?_
    · rw [hc]; rfl
    · unfold regsLay; rw [hc]; rfl
theorem wd1 {a : Int} {r : List Int} (ha : 0 ≤ a ∧ a < 65536) : (Cur.mk (putW [a] ++ r) false 0).wordV = a ∧ (Cur.mk (putW [a] ++ r) false 0).wordsC 1 = ⟨r, false, 0⟩ := by
  have hb : (Cur.mk (putW [a] ++ r) false 0).wbad 1 = false := by
    unfold Cur.wbad
    simp only [putW, List.length_append, List.length_cons, List.length_nil, Bool.or_eq_false_iff, decide_eq_false_iff_not]
    omega
  have hf : (Cur.mk (putW [a] ++ r) false 0).fails (2 * 1) = false := by
    unfold Cur.fails
    simp [putW]
    omega
  constructor
  · unfold Cur.wordV Cur.wordsR Cur.bytesR
    rw [hb, hf]
    show (wordTake [a / 256, a % 256]).getD 0 0 = a
    unfold wordTake
    rw [if_pos (by simp)]
    show a / 256 * 256 + a % 256 = a
    omega
  · unfold Cur.wordsC Cur.bytesC
    rw [hb, hf]
    rfl
theorem need_t (C : Cur) (x : Int) : C.need true x = C := by
  unfold Cur.need
  rw [if_neg (by rintro ⟨_, h⟩; cases h)]
theorem wd2 {a n : Int} (ha : 0 ≤ a ∧ a < 65536) (hn : 0 ≤ n ∧ n < 65536) : (Cur.mk (putW [a, n]) false 0).wordV = a ∧ (Cur.mk (putW [a, n]) false 0).wordsC 1 = ⟨putW [n], false, 0⟩ ∧ (Cur.mk (putW [n]) false 0).wordV = n ∧ (Cur.mk (putW [n]) false 0).wordsC 1 = ⟨[], false, 0⟩ := by
  have h1 := wd1 (r := putW [n]) ha
  have h2 := wd1 (r := []) hn
  rw [List.append_nil] at h2
  exact ⟨h1.1, h1.2, h2.1, h2.2⟩
theorem asks_ok {a n most c : Int} (ha : 0 ≤ a ∧ a < 65536) (hn : 0 ≤ n ∧ n < 65536) (h1 : 1 ≤ n ∧ n ≤ most) (h2 : within a n = true) : asksR most c ⟨putW [a, n], false, 0⟩ = (⟨[], false, 0⟩, { Msg.zero with code := c, addr := a, count := n }) := by
  obtain ⟨e1, e2, e3, e4⟩ := wd2 ha hn
  unfold asksR spanC spanC1
  rw [e2, e1, e3, e4, h2, decide_eq_true h1.1, decide_eq_true h1.2]
  rw [show (true && true) = true from rfl, need_t, need_t]
theorem rasks_ok {a n most c : Int} (ha : 0 ≤ a ∧ a < 65536) (hn : 0 ≤ n ∧ n < 65536) (h1 : 1 ≤ n ∧ n ≤ most) (h2 : within a n = true) : rasksR most c ⟨putW [a, n], false, 0⟩ = (⟨[], false, 0⟩, { Msg.zero with code := c, addr := a, count := n }) := by
  obtain ⟨e1, e2, e3, e4⟩ := wd2 ha hn
  unfold rasksR rspanC
  rw [e2, e1, e3, e4, h2, decide_eq_true h1.1, decide_eq_true h1.2]
  rw [show (true && true) = true from rfl, need_t, need_t]
theorem span_e {C : Cur} {most : Int} (h : (spanC C most).e = 0) : (1 ≤ (C.wordsC 1).wordV ∧ (C.wordsC 1).wordV ≤ most) ∧ within C.wordV (C.wordsC 1).wordV = true := by
  obtain ⟨h1, h2⟩ := nd_ok (by decide) h
  obtain ⟨_, h3⟩ := nd_ok (by decide) h1
  simp only [Bool.and_eq_true, decide_eq_true_eq] at h3
  exact ⟨h3, h2⟩
theorem rspan_e {C : Cur} {a most : Int} (h : (rspanC C a most).e = 0) : (1 ≤ C.wordV ∧ C.wordV ≤ most) ∧ within a C.wordV = true := by
  obtain ⟨h1, h2⟩ := nd_ok (by decide) h
  obtain ⟨_, h3⟩ := nd_ok (by decide) h1
  simp only [Bool.and_eq_true, decide_eq_true_eq] at h3
  exact ⟨h3, h2⟩
theorem parse_fin {form : Int → Int → Cur → Option (Cur × Msg)} {dir c : Int} {b : List Int} {M : Msg} (hd : dir = 0 ∨ dir = 1) (h : parseOf form dir c b = (M, 0)) : ∃ C', form dir c ⟨b, false, 0⟩ = some (C', M) ∧ C'.endC.e = 0 := by
  unfold parseOf at h
  rw [if_pos hd] at h
  split at h
  · cases h
  · rename_i r hr
    unfold finish at h
    split at h
    · rename_i he
      injection h with h
      obtain ⟨C', M'⟩ := r
      have h : M' = M := h
      subst h
      exact ⟨C', hr, he⟩
    · rename_i he
      injection h with _ h
      exact absurd h he
theorem end0 {C : Cur} (h : C.endC.e = 0) : C.e = 0 := (nd_ok (by decide) h).1
theorem wo_e {C : Cur} {n : Int} (h : (C.wordsC n).e = 0) : C.e = 0 := by
  unfold Cur.wordsC at h
  split at h
  · exact (by_ok h).1
  · exact (by_ok h).1
theorem many_ok {M : Msg} {l : List Int} (hc : M.code = 15 ∨ M.code = 16) (h : pduW 0 M = some l) : (∃ r, l = [M.code] ++ (putW [M.addr, M.count] ++ r) ∧ 1 ≤ r.length) ∧ (1 ≤ M.count ∧ (M.code = 15 → M.count ≤ 1968) ∧ (M.code = 16 → M.count ≤ 123)) ∧ within M.addr M.count = true := by
  have hf := fail0 h
  unfold pduW at h
  rw [hf, if_neg (by decide)] at h
  split at h
  · cases h
  rename_i l' hl'
  split at h
  · cases h
  injection h with h
  subst h
  rcases hc with hc | hc
  · rw [hc] at hl' ⊢
    obtain ⟨h1, h2⟩ := writeOf_some (show writeOf parseCoils coilsLay 0 M = some l' from hl')
    rw [hc] at h1
    obtain ⟨C', h3, h4⟩ := parse_fin (Or.inl rfl) h1
    have h3 : some (csmR 15 ⟨l', false, 0⟩) = some (C', M) := h3
    obtain ⟨rfl, rfl⟩ := some_pair h3
    obtain ⟨h6, _⟩ := nd_ok (by decide) (end0 h4)
    obtain ⟨h7, _⟩ := nd_ok (by decide) (by_ok h6).1
    obtain ⟨h8, h9⟩ := span_e (by_ok h7).1
    refine ⟨⟨[((packB (csmR 15 ⟨l', false, 0⟩).2.bits).length : Int) % 256] ++ packB (csmR 15 ⟨l', false, 0⟩).2.bits, ?_, by simp⟩, ⟨h8.1, fun _ => h8.2, fun h => absurd h (by decide)⟩, h9⟩
    rw [← List.append_assoc (putW _)]
    exact congrArg _ h2
  · rw [hc] at hl' ⊢
    obtain ⟨h1, h2⟩ := writeOf_some (show writeOf parseRegs regsLay 0 M = some l' from hl')
    rw [hc] at h1
    obtain ⟨C', h3, h4⟩ := parse_fin (Or.inl rfl) h1
    have h3 : some (rmanyR 16 ⟨l', false, 0⟩) = some (C', M) := h3
    obtain ⟨rfl, rfl⟩ := some_pair h3
    have h6 : (rmanyC ⟨l', false, 0⟩).e = 0 := wo_e (end0 h4)
    obtain ⟨h7, _⟩ := nd_ok (by decide) h6
    obtain ⟨h8, h9⟩ := rspan_e (by_ok h7).1
    refine ⟨⟨[(2 * ((rmanyR 16 ⟨l', false, 0⟩).2.words.length : Int)) % 256] ++ putW (rmanyR 16 ⟨l', false, 0⟩).2.words, ?_, by simp⟩, ⟨h8.1, (fun h => absurd h (by decide)), fun _ => h8.2⟩, h9⟩
    rw [← List.append_assoc (putW _)]
    exact congrArg _ h2
theorem echo_cut {M : Msg} {l : List Int} (hc : M.code = 15 ∨ M.code = 16) (ha : 0 ≤ M.addr ∧ M.addr < 65536) (hn : 0 ≤ M.count ∧ M.count < 65536) (h : pduW 0 M = some l) : 6 ≤ l.length ∧ pduW 1 (echoM M) = some (l.take 5) := by
  obtain ⟨⟨r, rfl, hr⟩, ⟨h1, h2, h3⟩, h4⟩ := many_ok hc h
  refine ⟨by simp [putW]; omega, ?_⟩
  show pduW 1 (echoM M) = some ([M.code] ++ putW [M.addr, M.count])
  have hw : famW (cfam M.code) 1 (echoM M) = some (putW [M.addr, M.count]) := by
    rcases hc with hc | hc
    · rw [hc]
      have h5 := h2 hc
      refine writeOf_ok (parse := parseCoils) (lay := coilsLay) ?_ ?_
      · unfold coilsLay
        rw [show (echoM M).code = 15 from hc]
        rfl
      · show parseOf coilsForm 1 M.code _ = _
        rw [hc]
        unfold parseOf
        rw [if_pos (Or.inr rfl)]
        show finish (asksR 1968 15 ⟨putW [M.addr, M.count], false, 0⟩).2 (asksR 1968 15 ⟨putW [M.addr, M.count], false, 0⟩).1 = _
        rw [asks_ok ha hn ⟨h1, h5⟩ h4]
        show ((_ : Msg), (0 : Int)) = _
        unfold echoM
        rw [hc]
    · rw [hc]
      have h5 := h3 hc
      refine writeOf_ok (parse := parseRegs) (lay := regsLay) ?_ ?_
      · unfold regsLay
        rw [show (echoM M).code = 16 from hc]
        rfl
      · show parseOf regsForm 1 M.code _ = _
        rw [hc]
        unfold parseOf
        rw [if_pos (Or.inr rfl)]
        show finish (rasksR 123 16 ⟨putW [M.addr, M.count], false, 0⟩).2 (rasksR 123 16 ⟨putW [M.addr, M.count], false, 0⟩).1 = _
        rw [rasks_ok ha hn ⟨h1, h5⟩ h4]
        show ((_ : Msg), (0 : Int)) = _
        unfold echoM
        rw [hc]
  unfold pduW
  show (if ((0 : Int) != 0) = true then _ else match famW (cfam M.code) 1 (echoM M) with | none => none | some l => if decide (253 ≤ (l.length : Int)) then none else some ([M.code] ++ l)) = _
  rw [if_neg (by decide), hw]
  rfl
end Go.Proofs.YtgjlbabefogepaaGreat
namespace Go.Proofs.YtgjlbabefogepaaGreat
def mbB (t z n u : Int) (l : List Int) : List Int := (putW [t, z, n] ++ [u]) ++ l
theorem mbB_len (t z n u : Int) (l : List Int) : (mbB t z n u l).length = 7 + l.length := by simp [mbB, putW]; omega
theorem by1 (u : Int) (l : List Int) : (Cur.mk ([u] ++ l) false 0).byteV = u ∧ (Cur.mk ([u] ++ l) false 0).bytesC 1 = ⟨l, false, 0⟩ := by
  have hf : (Cur.mk ([u] ++ l) false 0).fails 1 = false := by
    unfold Cur.fails
    simp only [List.length_append, List.length_cons, List.length_nil, Bool.or_eq_false_iff, decide_eq_false_iff_not]
    refine ⟨⟨trivial, ?_⟩, ?_⟩ <;> omega
  constructor
  · unfold Cur.byteV Cur.bytesR
    rw [hf]
    rfl
  · unfold Cur.bytesC
    rw [hf]
    rfl
theorem all_bytes (l : List Int) : (Cur.mk l false 0).bytesR ((l.length : Nat) : Int) = l := by
  have hf : (Cur.mk l false 0).fails ((l.length : Nat) : Int) = false := by
    unfold Cur.fails
    simp only [Bool.or_eq_false_iff, decide_eq_false_iff_not]
    refine ⟨⟨trivial, ?_⟩, ?_⟩ <;> omega
  unfold Cur.bytesR
  rw [hf]
  show l.take (l.length : Int).toNat = l
  rw [Int.toNat_natCast, List.take_length]
theorem mb_parts {t z n u : Int} {l : List Int} (ht : 0 ≤ t ∧ t < 65536) (hz : 0 ≤ z ∧ z < 65536) (hn : 0 ≤ n ∧ n < 65536) :
    (mb0 (mbB t z n u l)).wordV = t ∧ (mb1 (mbB t z n u l)).wordV = z ∧ (mb2 (mbB t z n u l)).wordV = n ∧ (mb3 (mbB t z n u l)).byteV = u ∧ mbBody (mbB t z n u l) = l := by
  have h1 := wd1 (r := putW [z] ++ (putW [n] ++ ([u] ++ l))) ht
  have h2 := wd1 (r := putW [n] ++ ([u] ++ l)) hz
  have h3 := wd1 (r := [u] ++ l) hn
  have h4 := by1 u l
  have e0 : mb0 (mbB t z n u l) = ⟨putW [t] ++ (putW [z] ++ (putW [n] ++ ([u] ++ l))), false, 0⟩ := by simp [mb0, mbB, putW]
  have e1 : mb1 (mbB t z n u l) = ⟨putW [z] ++ (putW [n] ++ ([u] ++ l)), false, 0⟩ := by unfold mb1; rw [e0]; exact h1.2
  have e2 : mb2 (mbB t z n u l) = ⟨putW [n] ++ ([u] ++ l), false, 0⟩ := by unfold mb2; rw [e1]; exact h2.2
  have e3 : mb3 (mbB t z n u l) = ⟨[u] ++ l, false, 0⟩ := by unfold mb3; rw [e2]; exact h3.2
  have e4 : mb4 (mbB t z n u l) = ⟨l, false, 0⟩ := by unfold mb4; rw [e3]; exact h4.2
  refine ⟨by rw [e0]; exact h1.1, by rw [e1]; exact h2.1, by rw [e2]; exact h3.1, by rw [e3]; exact h4.1, ?_⟩
  unfold mbBody
  rw [e4]
  exact all_bytes l
theorem mbapP_B {dir t z n u : Int} {l : List Int} (hd : dir = 0 ∨ dir = 1) (ht : 0 ≤ t ∧ t < 65536) (hz : 0 ≤ z ∧ z < 65536) (hn : 0 ≤ n ∧ n < 65536) :
    mbapP dir (mbB t z n u l) = if decide ((7 + l.length : Int) < 8) then (Frm.zero, 2) else if decide (260 < (7 + l.length : Int)) then (Frm.zero, 3) else if z != 0 then (Frm.zero, 13) else if n != (l.length : Int) + 1 then (Frm.zero, 5) else frmOf u t (pduP dir l) := by
  obtain ⟨h0, h1, h2, h3, h4⟩ := mb_parts (u := u) (l := l) ht hz hn
  unfold mbapP
  rw [h0, h1, h2, h3, h4, mbB_len]
  rw [if_neg (show ¬ (dir != 0 && dir != 1) = true by rcases hd with rfl | rfl <;> decide)]
  rw [show ((7 + l.length : Nat) : Int) = 7 + (l.length : Int) by omega, show (7 + (l.length : Int)) - 6 = (l.length : Int) + 1 by omega]
theorem mbapW_some {dir u t : Int} {M : Msg} {b : List Int} (h : mbapW dir u t M = some b) : ∃ l, pduW dir M = some l ∧ b = mbB t 0 ((l.length : Int) + 1) u l ∧ l.length ≤ 253 := by
  unfold mbapW at h
  split at h
  · cases h
  · rename_i l hl
    have hle := pduW_len hl
    injection h with h
    refine ⟨l, hl, ?_, hle⟩
    rw [← h, Int.emod_eq_of_lt (by omega) (by omega)]
    rfl
theorem mbapW_le {dir u t : Int} {M : Msg} {b : List Int} (hc : 0 ≤ M.code ∧ M.code < 256) (h : mbapW dir u t M = some b) : 8 ≤ b.length ∧ b.length ≤ 260 := by
  obtain ⟨l, h1, rfl, h2⟩ := mbapW_some h
  have := pduW_pos hc h1
  rw [mbB_len]
  omega
theorem mbapW_none {dir u t u' t' : Int} {M : Msg} (h : mbapW dir u t M = none) : mbapW dir u' t' M = none := by
  unfold mbapW at h ⊢
  split at h
  · rename_i h1
    rfl
  · cases h
theorem mbap_rt {dir u t : Int} {M : Msg} {b : List Int} (hd : dir = 0 ∨ dir = 1) (hc : 0 ≤ M.code ∧ M.code < 256) (hf : 0 ≤ M.fail ∧ M.fail < 256) (ht : 0 ≤ t ∧ t < 65536) (h : mbapW dir u t M = some b) : mbapP dir b = (⟨u, t, M⟩, 0) := by
  obtain ⟨l, h1, rfl, h2⟩ := mbapW_some h
  have h3 := pduW_pos hc h1
  rw [mbapP_B hd ht (by decide) (by omega), pdu_rt hd hc hf h1]
  rw [if_neg (by simp only [decide_eq_true_eq]; omega), if_neg (by simp only [decide_eq_true_eq]; omega), if_neg (by decide), if_neg (by simp)]
  rfl
theorem putW3 {a b c d e f : Int} (ha : 0 ≤ a ∧ a < 256) (hb : 0 ≤ b ∧ b < 256) (hc : 0 ≤ c ∧ c < 256) (hd : 0 ≤ d ∧ d < 256) (he : 0 ≤ e ∧ e < 256) (hf : 0 ≤ f ∧ f < 256) : putW [a * 256 + b, c * 256 + d, e * 256 + f] = [a, b, c, d, e, f] := by
  simp only [putW]
  congr 1
  · omega
  congr 1
  · omega
  congr 1
  · omega
  congr 1
  · omega
  congr 1
  · omega
  congr 1
  omega
theorem mb_shape {b : List Int} (hr : ∀ x, x ∈ b → 0 ≤ x ∧ x < 256) (hl : 8 ≤ b.length) : ∃ t z n u l, b = mbB t z n u l ∧ (0 ≤ t ∧ t < 65536) ∧ (0 ≤ z ∧ z < 65536) ∧ (0 ≤ n ∧ n < 65536) ∧ ∀ x, x ∈ l → 0 ≤ x ∧ x < 256 := by
  match b, hr, hl with
  | a0 :: a1 :: a2 :: a3 :: a4 :: a5 :: u :: l, hr, _ =>
    have h0 := hr a0 (by simp)
    have h1 := hr a1 (by simp)
    have h2 := hr a2 (by simp)
    have h3 := hr a3 (by simp)
    have h4 := hr a4 (by simp)
    have h5 := hr a5 (by simp)
    refine ⟨a0 * 256 + a1, a2 * 256 + a3, a4 * 256 + a5, u, l, ?_, by omega, by omega, by omega, fun x hx => hr x (by simp [hx])⟩
    unfold mbB
    rw [putW3 h0 h1 h2 h3 h4 h5]
    rfl
theorem mbapP_few {dir : Int} {b : List Int} {F : Frm} {E : Int} (hr : ∀ x, x ∈ b → 0 ≤ x ∧ x < 256) (h : mbapP dir b = (F, E)) : MsgFew F.msg ∧ (E ≠ 0 → F = Frm.zero) := by
  have hz : ∀ k : Int, ((Frm.zero, k) : Frm × Int) = (F, E) → MsgFew F.msg ∧ (E ≠ 0 → F = Frm.zero) := fun k h => by
    injection h with h1 h2
    subst h1
    exact ⟨few_zero, fun _ => rfl⟩
  unfold mbapP at h
  split at h
  · exact hz _ h
  split at h
  · exact hz _ h
  split at h
  · exact hz _ h
  split at h
  · exact hz _ h
  split at h
  · exact hz _ h
  rename_i _ h8 _ _ _
  simp only [decide_eq_true_eq] at h8
  obtain ⟨t, z, n, u, l, rfl, ht, hz', hn, hl⟩ := mb_shape hr (by omega)
  obtain ⟨h0, h1, h2, h3, h4⟩ := mb_parts (u := u) (l := l) ht hz' hn
  rw [h4] at h
  cases hp : pduP dir l with
  | mk M E' =>
    rw [hp] at h
    obtain ⟨k1, k2⟩ := pduP_few hl hp
    have h : (if (E' != 0) = true then ((Frm.zero, E') : Frm × Int) else (⟨_, _, M⟩, 0)) = (F, E) := h
    split at h
    · exact hz _ h
    · injection h with h5 h6
      subst h5
      exact ⟨k1, fun hE => absurd h6.symm hE⟩
theorem mbap_back {dir : Int} {b : List Int} {F : Frm} {E : Int} {r : Option (List Int)} (hd : dir = 0 ∨ dir = 1) (hr : ∀ x, x ∈ b → 0 ≤ x ∧ x < 256) (h : mbapP dir b = (F, E)) (hE : (E == 0) = true) (hW : mbapW dir F.unit F.tid F.msg = r) : r = some b ∧ 8 ≤ b.length ∧ b.length ≤ 260 := by
  obtain rfl : E = 0 := by simpa using hE
  by_cases h8 : 8 ≤ b.length
  · obtain ⟨t, z, n, u, l, rfl, ht, hz', hn, hl⟩ := mb_shape hr h8
    rw [mbapP_B hd ht hz' hn] at h
    split at h
    · cases h
    split at h
    · cases h
    split at h
    · cases h
    split at h
    · cases h
    rename_i h1 h2 h3 h4
    simp only [decide_eq_true_eq] at h1 h2
    simp only [bne_iff_ne, ne_eq, Decidable.not_not] at h3 h4
    cases hp : pduP dir l with
    | mk M E' =>
      rw [hp] at h
      have h : (if (E' != 0) = true then ((Frm.zero, E') : Frm × Int) else (⟨_, _, M⟩, 0)) = (F, 0) := h
      split at h
      · rename_i h5
        injection h with _ h6
        subst h6
        cases h5
      · rename_i h5
        injection h with h6 _
        subst h6
        obtain rfl : E' = 0 := by simpa using h5
        have h7 := pdu_back hd hl hp
        rw [← hW]
        refine ⟨?_, h8, by rw [mbB_len]; omega⟩
        show mbapW dir u t M = _
        unfold mbapW
        rw [h7]
        show some ((putW [t, 0, ((l.length : Int) + 1) % 65536] ++ [u]) ++ l) = _
        rw [h3, h4, Int.emod_eq_of_lt (by omega) (by omega)]
        rfl
  · exfalso
    unfold mbapP at h
    split at h
    · cases h
    rw [if_pos (by simp only [decide_eq_true_eq]; omega)] at h
    cases h
theorem mbap_cut {dir u t : Int} {M : Msg} {b : List Int} (hd : dir = 0 ∨ dir = 1) (ht : 0 ≤ t ∧ t < 65536) (h : mbapW dir u t M = some b) {k : Nat} (hk : k < b.length) {F : Frm} {E : Int} (hP : mbapP dir (b.take k) = (F, E)) : E = 2 ∨ E = 5 := by
  obtain ⟨l, h1, rfl, h2⟩ := mbapW_some h
  rw [mbB_len] at hk
  by_cases h8 : k < 8
  · left
    unfold mbapP at hP
    rw [if_neg (show ¬ (dir != 0 && dir != 1) = true by rcases hd with rfl | rfl <;> decide)] at hP
    rw [if_pos (by simp only [decide_eq_true_eq, List.length_take]; omega)] at hP
    injection hP with _ h3
    exact h3.symm
  · right
    have h3 : (mbB t 0 ((l.length : Int) + 1) u l).take k = mbB t 0 ((l.length : Int) + 1) u (l.take (k - 7)) := by
      unfold mbB
      rw [List.take_append]
      have : (putW [t, 0, (l.length : Int) + 1] ++ [u]).length = 7 := rfl
      rw [this, List.take_of_length_le (by rw [this]; omega)]
    rw [h3, mbapP_B hd ht (by decide) (by omega)] at hP
    have h4 : (l.take (k - 7)).length = k - 7 := by rw [List.length_take]; omega
    rw [h4] at hP
    rw [if_neg (by simp only [decide_eq_true_eq]; omega), if_neg (by simp only [decide_eq_true_eq]; omega), if_neg (by decide), if_pos (by simp only [bne_iff_ne, ne_eq]; omega)] at hP
    injection hP with _ h5
    exact h5.symm
theorem mbap_more {dir u t : Int} {M : Msg} {b m : List Int} (hd : dir = 0 ∨ dir = 1) (hc : 0 ≤ M.code ∧ M.code < 256) (ht : 0 ≤ t ∧ t < 65536) (h : mbapW dir u t M = some b) (hm : 0 < m.length) {F : Frm} {E : Int} (hP : mbapP dir (b ++ m) = (F, E)) : E = 5 ∨ E = 3 := by
  obtain ⟨l, h1, rfl, h2⟩ := mbapW_some h
  have h0 := pduW_pos hc h1
  have h3 : mbB t 0 ((l.length : Int) + 1) u l ++ m = mbB t 0 ((l.length : Int) + 1) u (l ++ m) := by simp [mbB]
  rw [h3, mbapP_B hd ht (by decide) (by omega), List.length_append] at hP
  rw [if_neg (by simp only [decide_eq_true_eq]; omega)] at hP
  split at hP
  · injection hP with _ h5
    exact Or.inr h5.symm
  · rw [if_neg (by decide), if_pos (by simp only [bne_iff_ne, ne_eq]; omega)] at hP
    injection hP with _ h5
    exact Or.inl h5.symm
theorem mbap_tid {dir u t t' : Int} {M : Msg} {b b' : List Int} (h : mbapW dir u t M = some b) (h' : mbapW dir u t' M = some b') : b'.length = b.length ∧ b.drop 2 = b'.drop 2 ∧ b'.getD 0 0 = t' / 256 ∧ b'.getD 1 0 = t' % 256 := by
  obtain ⟨l, h1, rfl, h2⟩ := mbapW_some h
  obtain ⟨l', h1', rfl, h2'⟩ := mbapW_some h'
  obtain rfl : l = l' := Option.some.inj (h1.symm.trans h1')
  exact ⟨rfl, rfl, rfl, rfl⟩
theorem mbap_proto {dir u t p : Int} {M : Msg} {b : List Int} (hd : dir = 0 ∨ dir = 1) (hc : 0 ≤ M.code ∧ M.code < 256) (ht : 0 ≤ t ∧ t < 65536) (hp : 0 < p ∧ p < 256) (h : mbapW dir u t M = some b) {F : Frm} {E : Int} (hP : mbapP dir (b.set 3 p) = (F, E)) : (E == 13) = true := by
  obtain ⟨l, h1, rfl, h2⟩ := mbapW_some h
  have h0 := pduW_pos hc h1
  have h3 : (mbB t 0 ((l.length : Int) + 1) u l).set 3 p = mbB t p ((l.length : Int) + 1) u l := by
    show [t / 256, t % 256, 0, p, _, _, u] ++ l = [t / 256, t % 256, p / 256, p % 256, _, _, u] ++ l
    rw [show p / 256 = 0 by omega, show p % 256 = p by omega]
  rw [h3, mbapP_B hd ht (by omega) (by omega)] at hP
  rw [if_neg (by simp only [decide_eq_true_eq]; omega), if_neg (by simp only [decide_eq_true_eq]; omega), if_pos (by simp only [bne_iff_ne, ne_eq]; omega)] at hP
  injection hP with _ h5
  subst h5
  rfl
theorem mbap_unit {dir u t : Int} {M : Msg} {b : List Int} (hc : 0 ≤ M.code ∧ M.code < 256) (h : mbapW dir u t M = some b) : b.getD 6 0 = u ∧ b.getD 2 0 = 0 ∧ b.getD 3 0 = 0 ∧ 256 * b.getD 4 0 + b.getD 5 0 = (b.length : Int) - 6 ∧ ((M.fail != 0) = false → b.getD 7 0 = M.code) := by
  obtain ⟨l, h1, rfl, h2⟩ := mbapW_some h
  refine ⟨rfl, rfl, rfl, ?_, fun hf => ?_⟩
  · rw [mbB_len]
    show 256 * (((l.length : Int) + 1) / 256) + ((l.length : Int) + 1) % 256 = _
    omega
  · have := first_ok hc h1 hf
    have h3 := pduW_pos hc h1
    cases l with
    | nil => simp at h3
    | cons a r => exact this
end Go.Proofs.YtgjlbabefogepaaGreat
namespace Go.Proofs.YtgjlbabefogepaaGreat
theorem take_one {b : List Int} {k : Nat} (hk : k < b.length) : b.take k ++ [b.getD k 0] = b.take (k + 1) := by
  rw [List.take_succ_eq_append_getElem hk, List.getD_eq_getElem?_getD, List.getElem?_eq_getElem hk]
  rfl
theorem getD_take2 {b : List Int} {i k : Nat} (h : i < k) : (b.take k).getD i 0 = b.getD i 0 := by
  rw [List.getD_eq_getElem?_getD, List.getD_eq_getElem?_getD, List.getElem?_take, if_pos h]
theorem smb_size {d s : Int} {b : List Int} {k : Nat} (h : 6 ≤ k) : (SM.mk d (b.take k) s).size = b.getD 4 0 * 256 + b.getD 5 0 := by
  unfold SM.size
  rw [getD_take2 (by omega), getD_take2 (by omega)]
theorem smb_step {d : Int} {b : List Int} {k : Nat} (hl : (b.length : Int) = 6 + (b.getD 4 0 * 256 + b.getD 5 0)) (h1 : 2 ≤ b.getD 4 0 * 256 + b.getD 5 0) (h2 : b.getD 4 0 * 256 + b.getD 5 0 ≤ 254) (hk : k + 1 < b.length) :
    (SM.mk d (b.take k) 0).byte (b.getD k 0) = (SM.mk d (b.take (k + 1)) 0, []) := by
  have e := byte_0 (T := SM.mk d (b.take k) 0) (c := b.getD k 0) (show ¬ (0 : Int) < 0 by omega)
  simp only [take_one (show k < b.length by omega)] at e
  refine e ?_
  have hlen : (b.take (k + 1)).length = k + 1 := by rw [List.length_take]; omega
  unfold SM.nx
  by_cases h6 : k + 1 < 6
  · rw [if_pos (by show (b.take (k + 1)).length < 6; omega)]
  · rw [if_neg (by show ¬ (b.take (k + 1)).length < 6; omega), smb_size (by omega), if_neg (by omega), if_neg (by omega), if_neg (by show ¬ ((b.take (k + 1)).length : Int) = _; omega)]
theorem smb_pre {d : Int} {b : List Int} (hl : (b.length : Int) = 6 + (b.getD 4 0 * 256 + b.getD 5 0)) (h1 : 2 ≤ b.getD 4 0 * 256 + b.getD 5 0) (h2 : b.getD 4 0 * 256 + b.getD 5 0 ≤ 254) :
    ∀ k, k < b.length → (SM.mk d (b.take k) 0, []) = (SM.mk d [] 0).feed (b.take k)
  | 0, _ => rfl
  | k + 1, hk => by
    have ih := smb_pre (d := d) hl h1 h2 k (by omega)
    exact sm_snoc0 (by omega) ih (smb_step hl h1 h2 hk)
theorem smb_whole {d : Int} {b : List Int} {F : Frm} {E : Int} (hl : (b.length : Int) = 6 + (b.getD 4 0 * 256 + b.getD 5 0)) (h1 : 2 ≤ b.getD 4 0 * 256 + b.getD 5 0) (h2 : b.getD 4 0 * 256 + b.getD 5 0 ≤ 254) (hP : mbapP d b = (F, E)) :
    (SM.mk d [] 0).feed b = (SM.mk d [] 0, [⟨E, F⟩]) := by
  obtain ⟨k, hk⟩ : ∃ k, b.length = k + 1 := ⟨b.length - 1, by omega⟩
  have ih := smb_pre (d := d) hl h1 h2 k (by omega)
  have ht : b.take (k + 1) = b := List.take_of_length_le (by omega)
  have hx : (SM.mk d (b.take k) 0).byte (b.getD k 0) = (SM.mk d [] 0, [⟨E, F⟩]) := by
    have e := byte_3 (T := SM.mk d (b.take k) 0) (c := b.getD k 0) (F := F) (E := E) (show ¬ (0 : Int) < 0 by omega)
    simp only [take_one (show k < b.length by omega)] at e
    refine e ?_ (by rw [ht]; exact hP)
    unfold SM.nx
    rw [if_neg (by show ¬ (b.take (k + 1)).length < 6; rw [ht]; omega), smb_size (by omega), if_neg (by omega), if_neg (by omega), if_pos (by show ((b.take (k + 1)).length : Int) = _; rw [ht]; omega)]
  have q := sm_snoc (by omega) ih hx
  rw [ht] at q
  exact q.symm
theorem smb_app2 {S S2 S3 : SM} {a b : List Int} {L L2 : List Ev} (h : S.feed a = (S2, L)) (hX : S2.feed b = (S3, L2)) : S.feed (a ++ b) = (S3, L ++ L2) := by
  have gen : ∀ (b : List Int) (T : SM) (K : List Ev), b.foldl (fun (p : SM × List Ev) c => ((p.1.byte c).1, p.2 ++ (p.1.byte c).2)) (T, K) = ((T.feed b).1, K ++ (T.feed b).2) := by
    intro b
    induction b with
    | nil => intro T K; simp [SM.feed]
    | cons c t ih =>
      intro T K
      unfold SM.feed
      rw [List.foldl_cons, List.foldl_cons, ih, ih]
      simp
  unfold SM.feed at h ⊢
  rw [List.foldl_append, h, gen, hX]
theorem smb_frame {dir u t : Int} {M : Msg} {b : List Int} (hd : dir = 0 ∨ dir = 1) (hM : (0 ≤ M.code ∧ M.code < 256) ∧ (0 ≤ M.fail ∧ M.fail < 256)) (ht : 0 ≤ t ∧ t < 65536) (h : mbapW dir u t M = some b) : (SM.mk dir [] 0).feed b = (SM.mk dir [] 0, [⟨0, ⟨u, t, M⟩⟩]) := by
  obtain ⟨_, _, _, h4, _⟩ := mbap_unit hM.1 h
  have h5 := mbapW_le hM.1 h
  exact smb_whole (by omega) (by omega) (by omega) (mbap_rt hd hM.1 hM.2 ht h)
theorem smb_proto {dir u t p : Int} {M : Msg} {b : List Int} {S2 : SM} {L : List Ev} (hd : dir = 0 ∨ dir = 1) (hM : (0 ≤ M.code ∧ M.code < 256) ∧ (0 ≤ M.fail ∧ M.fail < 256)) (ht : 0 ≤ t ∧ t < 65536) (hp : 0 < p ∧ p < 65536) (h : mbapW dir u t M = some b)
    (hX : (SM.mk dir [] 0).feed (((b.set 2 (p / 256)).set 3 (p % 256)) ++ b) = (S2, L)) : S2 = SM.mk dir [] 0 ∧ L = [⟨13, Frm.zero⟩, ⟨0, ⟨u, t, M⟩⟩] := by
  have hb := smb_frame hd hM ht h
  have h5 := mbapW_le hM.1 h
  obtain ⟨_, _, _, h4, _⟩ := mbap_unit hM.1 h
  obtain ⟨l, h1, e, h2⟩ := mbapW_some h
  have h0 := pduW_pos hM.1 h1
  have hq : mbapP dir ((b.set 2 (p / 256)).set 3 (p % 256)) = (Frm.zero, 13) := by
    have h3 : ((mbB t 0 ((l.length : Int) + 1) u l).set 2 (p / 256)).set 3 (p % 256) = mbB t p ((l.length : Int) + 1) u l := rfl
    rw [e, h3, mbapP_B hd ht (by omega) (by omega), if_neg (by simp only [decide_eq_true_eq]; omega), if_neg (by simp only [decide_eq_true_eq]; omega), if_pos (by simp only [bne_iff_ne, ne_eq]; omega)]
  have g4 : ((b.set 2 (p / 256)).set 3 (p % 256)).getD 4 0 = b.getD 4 0 := by
    simp only [List.getD_eq_getElem?_getD]
    rw [List.getElem?_set_ne (by decide), List.getElem?_set_ne (by decide)]
  have g5 : ((b.set 2 (p / 256)).set 3 (p % 256)).getD 5 0 = b.getD 5 0 := by
    simp only [List.getD_eq_getElem?_getD]
    rw [List.getElem?_set_ne (by decide), List.getElem?_set_ne (by decide)]
  have hw := smb_whole (d := dir) (b := (b.set 2 (p / 256)).set 3 (p % 256)) (F := Frm.zero) (E := 13) (by rw [g4, g5, List.length_set, List.length_set]; omega) (by rw [g4, g5]; omega) (by rw [g4, g5]; omega) hq
  rw [smb_app2 hw hb] at hX
  injection hX with e1 e2
  exact ⟨e1.symm, e2.symm⟩
theorem cut_one {b : List Int} {k : Nat} (hk : k < b.length) : (b.take (k + 1)).drop k = [b.getD k 0] := by
  rw [← take_one hk, List.drop_append, List.drop_of_length_le (by rw [List.length_take]; omega), List.length_take]
  rw [show k - min k b.length = 0 by omega]
  rfl
theorem feed_one {S : SM} {c : Int} : S.feed [c] = S.byte c := by
  unfold SM.feed
  simp
theorem smb_wait {d u t : Int} {M : Msg} {l : List Int} {S S2 : SM} {L : List Ev} {k : Nat} (hd : d = 0 ∨ d = 1) (hM : (0 ≤ M.code ∧ M.code < 256) ∧ (0 ≤ M.fail ∧ M.fail < 256)) (ht : 0 ≤ t ∧ t < 65536) (h : mbapW d u t M = some l) (hk : k < l.length)
    (hS : (k < l.length → S = SM.mk d (l.take k) 0) ∧ (k = l.length → S = SM.mk d [] 0)) (hX : S.feed ((l.take (k + 1)).drop k) = (S2, L)) :
    (k + 1 < l.length → S2 = SM.mk d (l.take (k + 1)) 0 ∧ L = []) ∧ (k + 1 = l.length → S2 = SM.mk d [] 0 ∧ L = [⟨0, ⟨u, t, M⟩⟩]) := by
  obtain ⟨_, _, _, h4, _⟩ := mbap_unit hM.1 h
  have h5 := mbapW_le hM.1 h
  rw [hS.1 hk, cut_one hk, feed_one] at hX
  constructor
  · intro hk2
    rw [smb_step (by omega) (by omega) (by omega) hk2] at hX
    injection hX with e1 e2
    exact ⟨e1.symm, e2.symm⟩
  · intro hk2
    have hb := smb_frame hd hM ht h
    have ih := smb_pre (d := d) (b := l) (by omega) (by omega) (by omega) k hk
    have q := sm_snoc hk ih hX
    rw [hk2, List.take_of_length_le (Nat.le_refl _), hb] at q
    injection q with e1 e2
    exact ⟨e1, by simpa using e2⟩
theorem smb_skip {d : Int} : ∀ (k : Nat) (l : List Int), l.length = k → (SM.mk d [] (k : Int)).feed l = (SM.mk d [] 0, [])
  | 0, [], _ => rfl
  | 0, _ :: _, h => by simp at h
  | k + 1, [], h => by simp at h
  | k + 1, c :: t, h => by
    have e : (SM.mk d [] ((k + 1 : Nat) : Int)).feed [c] = (SM.mk d [] (k : Int), []) := by
      rw [feed_one, byte_skip (by show (0 : Int) < ((k + 1 : Nat) : Int); omega)]
      show (SM.mk d [] (((k + 1 : Nat) : Int) - 1), _) = _
      rw [show (((k + 1 : Nat) : Int) - 1) = (k : Int) by omega]
    have q := smb_app2 e (smb_skip k t (by simpa using h))
    simpa using q
theorem smb_head {d a b n : Int} (ha : a * 256 + b = n) (hn : 254 < n) : (SM.mk d [] 0).feed [7, 7, 0, 0, a, b] = (SM.mk d [] n, [Ev.bad 3]) := by
  have h5 : ∀ (l : List Int) (c : Int), l.length < 5 → (SM.mk d l 0).byte c = (SM.mk d (l ++ [c]) 0, []) := fun l c hl =>
    byte_0 (T := SM.mk d l 0) (c := c) (show ¬ (0 : Int) < 0 by omega) (by unfold SM.nx; rw [if_pos (by show (l ++ [c]).length < 6; rw [List.length_append, List.length_cons, List.length_nil]; omega)])
  have h6 : (SM.mk d [7, 7, 0, 0, a] 0).byte b = (SM.mk d [] n, [Ev.bad 3]) := by
    have e := byte_1 (T := SM.mk d [7, 7, 0, 0, a] 0) (c := b) (show ¬ (0 : Int) < 0 by omega)
    have hs : (SM.mk d ([7, 7, 0, 0, a] ++ [b]) 0).size = n := by
      unfold SM.size
      show a * 256 + b = n
      exact ha
    have e2 := e (by
      unfold SM.nx
      rw [hs, if_neg (by show ¬ ([7, 7, 0, 0, a] ++ [b]).length < 6; simp), if_pos hn])
    rw [e2]
    show (SM.mk d [] (SM.mk d ([7, 7, 0, 0, a] ++ [b]) 0).size, _) = _
    rw [hs]
  unfold SM.feed
  simp only [List.foldl_cons, List.foldl_nil]
  rw [h5 [] 7 (by simp)]
  simp only [List.nil_append]
  rw [h5 [7] 7 (by simp)]
  simp only [List.cons_append, List.nil_append]
  rw [h5 [7, 7] 0 (by simp)]
  simp only [List.cons_append, List.nil_append]
  rw [h5 [7, 7, 0] 0 (by simp)]
  simp only [List.cons_append, List.nil_append]
  rw [h5 [7, 7, 0, 0] a (by simp)]
  simp only [List.cons_append, List.nil_append, h6]
theorem smb_writes {dir u t a c n : Int} {k : Nat} {M : Msg} {b : List Int} {S2 : SM} {L : List Ev} (hd : dir = 0 ∨ dir = 1) (hM : (0 ≤ M.code ∧ M.code < 256) ∧ (0 ≤ M.fail ∧ M.fail < 256)) (ht : 0 ≤ t ∧ t < 65536) (h : mbapW dir u t M = some b) (ha : a * 256 + c = n) (hn : 254 < n) (hk : n = (k : Int))
    (hX : (SM.mk dir [] 0).feed (([7, 7, 0, 0, a, c] ++ List.replicate k 0) ++ b) = (S2, L)) : S2 = SM.mk dir [] 0 ∧ L = [Ev.bad 3, ⟨0, ⟨u, t, M⟩⟩] := by
  subst hk
  rw [smb_app2 (smb_app2 (smb_head ha hn) (smb_skip k (List.replicate k 0) (by simp))) (smb_frame hd hM ht h)] at hX
  injection hX with e1 e2
  exact ⟨e1.symm, e2.symm⟩
end Go.Proofs.YtgjlbabefogepaaGreat
namespace Go.Proofs.YtgjlbabefogepaaGreat
open Go.RowKit
set_option maxRecDepth 100000 in
set_option maxHeartbeats 4000000 in
theorem lawSmbapWaits {w : World} {ans : Bool} {u t : Int} {M : Msg} {xM : SL} {mM : Bool} (hM : MsgRd mM w (mcl M xM).toList M) (hbu : 0 ≤ u ∧ u < 256) (hbt : 0 ≤ t ∧ t < 65536) :
    Calls Tryz.prog 9 #[.bool ans, .agg (fcl u t M xM)] w (PVal (.bool true) w) := by
 have hRM := hM.rngs
 obtain ⟨hcM, hdM⟩ := hRM
 refine en 96 Tryz.func9 rfl <| sg <| L0 <| Obx (fcl u t M xM) fun g10 w11 hg12 B13 hu14 => Pl 1 <| ng <| L0 <| Oc <| m1 (@awake21 _) fun w15 hu16 => Pl 1 <| nt <| sq <| ?_
 refine go <| Pl 1 <| ?_
 have r17 := ub hu16 B13
 refine L0 <| Ola r17 2 22 <| ?_
 have U18 := ut0 hu14 hu16
 have r19 := MsgRd.old hM U18
 refine L0 <| Oc <| m1 (few_any r19) fun w20 hu21 => Pl 1 <| nt <| sq <| sg <| Pl 2 <| nt <| ?_
 have U22 := ut0 U18 hu21
 refine cb ((!(fewB M))) (fun q23 => ?_) (fun q23 => ?_)
 have q23n : (fewB M) = false := by simpa using q23
 refine sg <| Pl 2 <| nt <| rt <| tr <| rr (.bool true) <| ?_
 exact ⟨rfl, U22⟩
 have q23n : (fewB M) = true := by simpa using q23
 refine skn <| sg <| Pl 1 <| nt <| sq <| sg <| Pl 1 <| nt <| cb (ans) (fun q24 => ?_) (fun q24 => ?_)
 refine go <| Pl 1 <| ng <| Pl 1 <| ?_
 have r25 := ub hu21 r17
 refine L0 <| Olw r25 <| ?_
 have r26 := MsgRd.old r19 hu21
 refine wo (mbapW 1 u t M) (fun hX28 => ?_) (fun l27 hX28 => ?_)
 refine L0 <| Oc <| m1 (mbap_write_n hX28 r26 (fewB_few q23n) (by omega) (by omega)) fun w29 hu30 => Pl 5 <| ng <| Pl 1 <| L0 <| Oc <| e3 (smb_new 1 smbap_new1) fun g31 w32 hg33 hA34 hu35 => Pl 1 <| nt <| sq <| sg <| ?_
 refine Pl 6 <| nt <| c1 <| sg <| Pl 6 <| nt <| rt <| tr <| rr (.bool true) <| ?_
 have U36 := ut0 U22 hu30
 have U37 := ut0 U36 hu35
 exact ⟨rfl, U37⟩
 have hl38 := mbapW_le (r26.rngs).1 hX28
 refine L0 <| Oc <| so2 (mbap_write_s hX28 r26 (fewB_few q23n) (by omega) (by omega)) fun A43 cp44 w39 rd47 hl45 hm46 hu42 => Pl 5 <| ng <| Pl 1 <| L0 <| Oc <| e3 (smb_new 1 smbap_new1) fun g48 w49 hg50 hA51 hu52 => Pl 1 <| nt <| sq <| sg <| ?_
 refine Pl 6 <| nt <| c0 <| skn <| sq <| sg <| Pl 1 <| nt <| bk <| ?_
 have U53 := ut0 U22 hu42
 have U54 := ut0 U53 hu52
 have r55 := own_stay rd47 hu52 (fun x hx => not0) (fun _ _ h => h)
 have U56 := ut0 hu42 hu52
 have r57 := ub U56 r25
 refine glp (fun x => [(3, .pointer (some ⟨g10, 0, none⟩)), (5, .bool true), (8, .slice A43 l27.length cp44), (10, .pointer (some ⟨g48, 0, none⟩)), (11, .int .i64 ((x.1 : Nat) : Int))]) (fun (x : Nat × SM × Option Addr × Nat × Nat) w' => Upd [] w w' ∧ w49.heap.size ≤ w'.heap.size ∧ SmbAt x.2.2.2.2 w39.heap.size w' g48 x.2.2.1 x.2.2.2.1 x.2.1 ∧ OwnB w20.heap.size w' (.slice A43 l27.length cp44) l27 ∧ w'.heap[g10]? = some (.cells (fcl u t M xM) 47 (0, 0)) ∧ (x.1 ≤ l27.length) ∧ ((x.1 < l27.length → x.2.1 = SM.mk 1 (l27.take x.1) 0) ∧ (x.1 = l27.length → x.2.1 = SM.mk 1 [] 0))) (fun x => l27.length - x.1) (0, (SM.mk 1 [] 0), none, 0, w39.heap.size) ⟨U54, lr, hA51, r55, r57, (by (try dsimp only); omega), (by (try dsimp only); exact ⟨fun _ => rfl, fun _ => rfl⟩)⟩ ?_
 rintro ⟨k, S, Ah, ch, n⟩ w58 ⟨hu59, hz65, f60, f61, f62, p63, p64⟩
 refine wkc [(3, .pointer (some ⟨g10, 0, none⟩)), (5, .bool true), (8, .slice A43 l27.length cp44), (10, .pointer (some ⟨g48, 0, none⟩)), (11, .int .i64 ((k : Nat) : Int))] ?_
 have f66 : SmbAt n w39.heap.size w58 g48 Ah ch S := f60
 have f67 : OwnB w20.heap.size w58 (.slice A43 l27.length cp44) l27 := f61
 have f68 : w58.heap[g10]? = some (.cells (fcl u t M xM) 47 (0, 0)) := f62
 have p69 : k ≤ l27.length := p63
 have p70 : (k < l27.length → S = SM.mk 1 (l27.take k) 0) ∧ (k = l27.length → S = SM.mk 1 [] 0) := p64
 refine sq <| sg <| Pl 4 <| nt <| ?_
 have U71 := ut0 (Upd.refl [] _) hu59
 refine cb ((decide (((k : Nat) : Int) < ((l27.length : Nat) : Int)))) (fun q72 => ?_) (fun q72 => ?_)
 have q72p := of_decide_eq_true q72
 refine skn <| sq <| bk <| sg <| Pl 4 <| L0 <| Oi (((k : Nat) : Int) + 1) <| x12 (cut_lhI (P := Tryz.prog) 29 5 1 Tryz.underlying29 rfl rfl A43 l27.length cp44 (lo := ((k : Nat) : Int)) (up := (((k : Nat) : Int) + 1)) ((((k : Nat) : Int)).toNat) (((((k : Nat) : Int) + 1)).toNat) (by omega) (by omega) (by omega) (by omega) (by omega)) fun A73 hrun74 hrd75 => L0 <| Or_ (.slice A73 ((((((k : Nat) : Int) + 1)).toNat) - ((((k : Nat) : Int)).toNat)) (cp44 - ((((k : Nat) : Int)).toNat))) (run_cutlh (kl := .i64) (kh := .i64) (lo := ((k : Nat) : Int)) (hi := (((k : Nat) : Int) + 1)) (A := A43) (n := l27.length) (c := cp44) rfl Tryz.underlying29 (by kernel_rfl) (by kernel_rfl) (by kernel_rfl) (hrun74 _ _ _)) <| ?_
 refine pr (SM.feed S ((l27.take (((((k : Nat) : Int) + 1)).toNat)).drop ((((k : Nat) : Int)).toNat))) fun S76 L77 hX78 => ?_
 have hk89 := SM.feed_le f66.2.2.1 (RdB.range (hrd75 _ _ _ _ _ (f67).rd)) hX78
 refine L0 <| Oc (args := #[.pointer (some ⟨g48, 0, none⟩), .slice A73 ((((((k : Nat) : Int) + 1)).toNat) - ((((k : Nat) : Int)).toNat)) (cp44 - ((((k : Nat) : Int)).toNat))]) <| ?_
 refine (smb_feed_x hX78 f66 (hrd75 _ _ _ _ _ (f67).rd) (far_made (RdG.low ((hrd75 _ _ _ _ _ (rd47).rd))) hg50) (far_own (RdG.low ((hrd75 _ _ _ _ _ (rd47).rd))) (SmbAt.row f66) lr) (by rw [List.length_drop, List.length_take]; omega)).mono ?_
 rintro _ w83 ⟨v79, A80, cp81, n82, rfl, ho84, hA85, hat86, hn87, hu88⟩
 refine ⟨_, rfl, ?_⟩
 have hk90 := SmbAt.le hA85
 have rd95 := ho84
 obtain ⟨A91, cp92, rfl, hl93, hm94⟩ := RdG.shape rd95.rd
 refine Pl 1 <| ng <| Pl 3 <| L0 <| Oi (((l27.length : Nat) : Int) - 1) <| Pl 2 <| nt <| sq <| sg <| Pl 6 <| ?_
 have U96 := ut U71 hu88 (ac (ni U53.size hg50) (all_app (ob_new (SmbAt.row f66) U53.size) all0))
 refine bl 64 (((((k : Nat) : Int) == (((l27.length : Nat) : Int) - 1)) != (((L77.length : Nat) : Int) == 1))) (fun q97 => ?_) (fun q97 => ?_)
 refine Pl 15 <| nt <| c1 <| sg <| Pl 1 <| nt <| rt <| tr <| br <| tr <| tr <| ?_
 refine br <| tr <| rr (.bool false) <| ?_
 have hs : false = true := by have z := smb_wait (k := k) (S2 := S76) (L := L77) (by decide) ⟨hcM, hdM⟩ hbt hX28 (by omega) p70 (by have q := hX78; rw [show (((((k : Nat) : Int) + 1)).toNat) = k + 1 from by omega, show ((((k : Nat) : Int)).toNat) = k from by omega] at q; exact q); rcases (show k + 1 < l27.length ∨ k + 1 = l27.length from by omega) with c | c; (obtain ⟨z1, z2⟩ := z.1 c; have y : (((k : Nat) : Int) == (((l27.length : Nat) : Int) - 1)) = false := (by rw [beq_eq_false_iff_ne]; omega); have q := q97; rw [y, z2] at q; simp at q); (obtain ⟨z1, z2⟩ := z.2 c; have y : (((k : Nat) : Int) == (((l27.length : Nat) : Int) - 1)) = true := (by rw [beq_iff_eq]; omega); have q := q97; rw [y, z2] at q; simp at q)
 rw [hs]
 exact ⟨rfl, U96⟩
 refine Pl 3 <| bl 67 ((!(((k : Nat) : Int) == (((l27.length : Nat) : Int) - 1)))) (fun q98 => ?_) (fun q98 => ?_)
 have q98n : (((k : Nat) : Int) == (((l27.length : Nat) : Int) - 1)) = false := by simpa using q98
 have q98np := ne_of_beqi q98n
 refine Pl 4 <| bl 71 ((((L77.length : Nat) : Int) != 0)) (fun q99 => ?_) (fun q99 => ?_)
 have q99p := ne_of_bnei q99
 refine Pl 8 <| nt <| c1 <| sg <| Pl 1 <| nt <| rt <| tr <| br <| tr <| tr <| ?_
 refine br <| tr <| rr (.bool false) <| ?_
 have hs : false = true := by have z := smb_wait (k := k) (S2 := S76) (L := L77) (by decide) ⟨hcM, hdM⟩ hbt hX28 (by omega) p70 (by have q := hX78; rw [show (((((k : Nat) : Int) + 1)).toNat) = k + 1 from by omega, show ((((k : Nat) : Int)).toNat) = k from by omega] at q; exact q); obtain ⟨z1, z2⟩ := z.1 (by have y := ne_of_beqi q98n; omega); have q := q99; rw [z2] at q; simp at q
 rw [hs]
 exact ⟨rfl, U96⟩
 have q99p := eq_of_bnei q99
 refine Pl 1 <| L1 <| Oc <| m1 (smb_held hA85) fun w100 hu101 => Pl 1 <| L1 <| Oi (((k : Nat) : Int) + 1) <| Pl 4 <| nt <| ?_
 have U102 := ut0 U96 hu101
 refine cb ((((S76.held.length : Nat) : Int) != (((k : Nat) : Int) + 1))) (fun q103 => ?_) (fun q103 => ?_)
 have q103p := ne_of_bnei q103
 refine sg <| Pl 1 <| nt <| rt <| tr <| br <| tr <| tr <| br <| tr <| rr (.bool false) <| ?_
 have hs : false = true := by have z := smb_wait (k := k) (S2 := S76) (L := L77) (by decide) ⟨hcM, hdM⟩ hbt hX28 (by omega) p70 (by have q := hX78; rw [show (((((k : Nat) : Int) + 1)).toNat) = k + 1 from by omega, show ((((k : Nat) : Int)).toNat) = k from by omega] at q; exact q); obtain ⟨z1, z2⟩ := z.1 (by have y := ne_of_beqi q98n; omega); have q := ne_of_bnei q103; rw [z1] at q; exact absurd (show (((l27.take (k + 1)).length : Nat) : Int) = ((k : Nat) : Int) + 1 from by rw [List.length_take]; omega) q
 rw [hs]
 exact ⟨rfl, U102⟩
 have q103p := eq_of_bnei q103
 refine skn <| sq <| Rg 10 (fun w' => True) fun w104 hu105 => hld trivial fun hS106 => Rt 0 hS106 <| Rt 1 hS106 <| sya 81 q98n <| Ro 2 hS106 <| Ro 3 hS106 <| Ro 4 hS106 <| Ro 5 hS106 <| Ro 6 hS106 <| Ro 7 hS106 <| ?_
 refine Ro 8 hS106 <| Rt 9 hS106 <| re <| tn <| c0 <| sk <| bn <| tn <| go <| Pl 1 <| L0 <| Oi (((k : Nat) : Int) + 1) <| Pl 1 <| nl <| ?_
 have U107 := ut0 U102 hu105
 have U108 := ut0 hu101 hu105
 have r109 := SmbAt.upd hA85 U108 not0 (fun x hx => not0)
 have U110 := ut0 hu88 hu101
 have U111 := ut0 U110 hu105
 have r112 := own_stay f67 U111 (fun x hx => (not_cons (fun e => (not_young rd47 lr hg50) (e ▸ hx)) (not_app ((rows_old rd47 lr (SmbAt.row f66)) x hx) not0))) (fun _ _ h => h)
 have ne113 := nb (blk_lt B13) (le (le hu16.size hu21.size) hu42.size) hg50
 have r114 := Upd.blk U111 (not_cons ne113 (not_app (not_old (blk_lt B13) (le (le hu16.size hu21.size) hu42.size) (SmbAt.row f66)) not0)) f68
 have hz115 := smb_wait (k := k) (S2 := S76) (L := L77) (by decide) ⟨hcM, hdM⟩ hbt hX28 (by omega) p70 (by have q := hX78; rw [show (((((k : Nat) : Int) + 1)).toNat) = k + 1 from by omega, show ((((k : Nat) : Int)).toNat) = k from by omega] at q; exact q)
 exact lpe ((k + 1), S76, A80, cp81, n82) ⟨U107, (le (le (le hz65 hu88.size) hu101.size) hu105.size), r109, r112, r114, (by (try dsimp only); omega), (by (try dsimp only); exact ⟨fun h => (hz115.1 h).1, fun h => (hz115.2 h).1⟩)⟩ (by omega)
 have q98n : (((k : Nat) : Int) == (((l27.length : Nat) : Int) - 1)) = true := by simpa using q98
 have q98np := eq_of_beqi q98n
 refine Pl 12 <| nt <| c0 <| skn <| sq <| Rg 10 (fun w' => w'.heap[g10]? = some (.cells (fcl u t M xM) 47 (0, 0))) fun w130 hu131 => ?_
 have U133 := ut0 hu88 hu131
 have ne134 := nb (blk_lt B13) (le (le hu16.size hu21.size) hu42.size) hg50
 have r135 := Upd.blk U133 (not_cons ne134 (not_app (not_old (blk_lt B13) (le (le hu16.size hu21.size) hu42.size) (SmbAt.row f66)) not0)) f68
 refine hld r135 fun hS132 => Rt 0 hS132 <| Rt 1 hS132 <| sya 81 q98n <| Rt 2 hS132 <| Rr 5 hS132 (.agg (fcl u t M xM)) (fun w' hs => lda_o (g := g10) (off := 0) [.int .u8 u, .int .u16 t, .int .u8 M.code, .int .u8 M.fail, .int .u16 M.addr, .int .u16 M.count, .int .u16 M.value, .int .u16 M.and_, .int .u16 M.or_, .int .u16 M.addr2, .int .u16 M.sub, .int .u16 M.status, .int .u16 M.events, .int .u16 M.messages, .slice xM.aw M.words.length xM.kw, .slice xM.ab M.bits.length xM.kb, .slice xM.ad M.data.length xM.kd, .slice xM.ar M.recs.length xM.kr, .int .u8 M.mei, .int .u8 M.kind, .int .u8 M.level, .int .u8 M.more, .int .u8 M.next, .slice xM.ao M.objects.length xM.ko] rfl (by kernel_rfl) hs (by kernel_rfl) (by kernel_rfl) rfl) <| Rt 6 hS132 <| ?_
 have hz136 : L77.length = 1 := by have q := q97; rw [q98n] at q; have q2 : ((L77.length : Nat) : Int) = 1 := (by simpa using q); omega
 have r137 := own_stay rd95 hu131 (fun x hx => not0) (fun x cs q => evLow.upd hu131 apt_nil q)
 refine x64 (RdE.elt (OwnV.own r137).rd 0 (by omega) (Ev.bad 0)) fun b138 o139 cl140 t141 fr142 s143 hA144 hb145 hv146 hs147 => R0 3 rfl <| Oixs 25 L77.length 0 hA144 (by omega) <| hld r135 fun hS148 => R0 4 rfl <| Oel [.int .i64 ((L77.getD 0 (Ev.bad 0)).e), .int .u8 ((L77.getD 0 (Ev.bad 0)).f.unit), .int .u16 ((L77.getD 0 (Ev.bad 0)).f.tid), .int .u8 ((L77.getD 0 (Ev.bad 0)).f.msg.code), .int .u8 ((L77.getD 0 (Ev.bad 0)).f.msg.fail), .int .u16 ((L77.getD 0 (Ev.bad 0)).f.msg.addr), .int .u16 ((L77.getD 0 (Ev.bad 0)).f.msg.count), .int .u16 ((L77.getD 0 (Ev.bad 0)).f.msg.value), .int .u16 ((L77.getD 0 (Ev.bad 0)).f.msg.and_), .int .u16 ((L77.getD 0 (Ev.bad 0)).f.msg.or_), .int .u16 ((L77.getD 0 (Ev.bad 0)).f.msg.addr2), .int .u16 ((L77.getD 0 (Ev.bad 0)).f.msg.sub), .int .u16 ((L77.getD 0 (Ev.bad 0)).f.msg.status), .int .u16 ((L77.getD 0 (Ev.bad 0)).f.msg.events), .int .u16 ((L77.getD 0 (Ev.bad 0)).f.msg.messages), .slice s143.aw ((L77.getD 0 (Ev.bad 0)).f.msg.words.length) s143.kw, .slice s143.ab ((L77.getD 0 (Ev.bad 0)).f.msg.bits.length) s143.kb, .slice s143.ad ((L77.getD 0 (Ev.bad 0)).f.msg.data.length) s143.kd, .slice s143.ar ((L77.getD 0 (Ev.bad 0)).f.msg.recs.length) s143.kr, .int .u8 ((L77.getD 0 (Ev.bad 0)).f.msg.mei), .int .u8 ((L77.getD 0 (Ev.bad 0)).f.msg.kind), .int .u8 ((L77.getD 0 (Ev.bad 0)).f.msg.level), .int .u8 ((L77.getD 0 (Ev.bad 0)).f.msg.more), .int .u8 ((L77.getD 0 (Ev.bad 0)).f.msg.next), .slice s143.ao ((L77.getD 0 (Ev.bad 0)).f.msg.objects.length) s143.ko] hb145 hs147 <| hld r135 fun hS149 => ?_
 have U150 := ut0 U96 hu131
 have r151 := MsgRd.old hM U150
 refine R0 7 rfl <| Oc <| m1 (same19_any (A := (L77.getD 0 (Ev.bad 0))) (B := (Ev.mk 0 ⟨u, t, M⟩)) (hv146.1) r151) fun w152 hu153 => ?_
 have r155 := ub hu153 r135
 refine hld r155 fun hS154 => Rt 8 hS154 <| Rt 9 hS154 <| re <| tn <| ?_
 have U156 := ut0 U150 hu153
 refine cb ((!(decide ((L77.getD 0 (Ev.bad 0)) = (Ev.mk 0 ⟨u, t, M⟩))))) (fun q157 => ?_) (fun q157 => ?_)
 have q157n : (decide ((L77.getD 0 (Ev.bad 0)) = (Ev.mk 0 ⟨u, t, M⟩))) = false := by simpa using q157
 have q157np := of_decide_eq_false q157n
 refine sg <| Pl 1 <| nt <| rt <| br <| tr <| tr <| br <| tr <| rr (.bool false) <| ?_
 have hs : false = true := by have z := smb_wait (k := k) (S2 := S76) (L := L77) (by decide) ⟨hcM, hdM⟩ hbt hX28 (by omega) p70 (by have q := hX78; rw [show (((((k : Nat) : Int) + 1)).toNat) = k + 1 from by omega, show ((((k : Nat) : Int)).toNat) = k from by omega] at q; exact q); obtain ⟨z1, z2⟩ := z.2 (by have y := eq_of_beqi q98n; omega); have q := q157n; rw [z2] at q; simp at q
 rw [hs]
 exact ⟨rfl, U156⟩
 have q157n : (decide ((L77.getD 0 (Ev.bad 0)) = (Ev.mk 0 ⟨u, t, M⟩))) = true := by simpa using q157
 have q157np := of_decide_eq_true q157n
 refine sk <| bn <| tn <| go <| Pl 1 <| L0 <| Oi (((k : Nat) : Int) + 1) <| Pl 1 <| nl <| ?_
 have U158 := ut0 hu131 hu153
 have r159 := SmbAt.upd hA85 U158 not0 (fun x hx => not0)
 have U160 := ut0 U133 hu153
 have r161 := own_stay f67 U160 (fun x hx => (not_cons (fun e => (not_young rd47 lr hg50) (e ▸ hx)) (not_app ((rows_old rd47 lr (SmbAt.row f66)) x hx) not0))) (fun _ _ h => h)
 have hz162 := smb_wait (k := k) (S2 := S76) (L := L77) (by decide) ⟨hcM, hdM⟩ hbt hX28 (by omega) p70 (by have q := hX78; rw [show (((((k : Nat) : Int) + 1)).toNat) = k + 1 from by omega, show ((((k : Nat) : Int)).toNat) = k from by omega] at q; exact q)
 exact lpe ((k + 1), S76, A80, cp81, n82) ⟨U156, (le (le (le hz65 hu88.size) hu131.size) hu153.size), r159, r161, r155, (by (try dsimp only); omega), (by (try dsimp only); exact ⟨fun h => (hz162.1 h).1, fun h => (hz162.2 h).1⟩)⟩ (by omega)
 have q72p := of_decide_eq_false q72
 refine xt <| tx <| tx <| bx <| tn <| sg <| Pl 3 <| L1 <| Oc <| m1 (smb_held f66) fun w163 hu164 => Pl 3 <| nt <| rt <| rr (.bool (((S.held.length : Nat) : Int) == 0)) <| ?_
 have hs : (((S.held.length : Nat) : Int) == 0) = true := by have z := p70.2 (by omega); rw [z]; rfl
 rw [hs]
 have U165 := ut0 U71 hu164
 exact ⟨rfl, U165⟩
 refine skn <| sg <| Pl 1 <| ?_
 have r166 := ub hu21 r17
 refine L0 <| Olw r166 <| ?_
 have r167 := MsgRd.old r19 hu21
 refine wo (mbapW 0 u t M) (fun hX169 => ?_) (fun l168 hX169 => ?_)
 refine L0 <| Oc <| m1 (mbap_write_n hX169 r167 (fewB_few q23n) (by omega) (by omega)) fun w170 hu171 => Pl 5 <| ng <| Pl 1 <| L0 <| Oc <| e3 (smb_new 0 smbap_new0) fun g172 w173 hg174 hA175 hu176 => Pl 1 <| nt <| sq <| sg <| ?_
 refine Pl 6 <| nt <| c1 <| sg <| Pl 6 <| nt <| rt <| tr <| rr (.bool true) <| ?_
 have U177 := ut0 U22 hu171
 have U178 := ut0 U177 hu176
 exact ⟨rfl, U178⟩
 have hl179 := mbapW_le (r167.rngs).1 hX169
 refine L0 <| Oc <| so2 (mbap_write_s hX169 r167 (fewB_few q23n) (by omega) (by omega)) fun A184 cp185 w180 rd188 hl186 hm187 hu183 => Pl 5 <| ng <| Pl 1 <| L0 <| Oc <| e3 (smb_new 0 smbap_new0) fun g189 w190 hg191 hA192 hu193 => Pl 1 <| nt <| sq <| sg <| ?_
 refine Pl 6 <| nt <| c0 <| skn <| sq <| sg <| Pl 1 <| nt <| bk <| ?_
 have U194 := ut0 U22 hu183
 have U195 := ut0 U194 hu193
 have r196 := own_stay rd188 hu193 (fun x hx => not0) (fun _ _ h => h)
 have U197 := ut0 hu183 hu193
 have r198 := ub U197 r166
 refine glp (fun x => [(3, .pointer (some ⟨g10, 0, none⟩)), (5, .bool true), (8, .slice A184 l168.length cp185), (10, .pointer (some ⟨g189, 0, none⟩)), (11, .int .i64 ((x.1 : Nat) : Int))]) (fun (x : Nat × SM × Option Addr × Nat × Nat) w' => Upd [] w w' ∧ w190.heap.size ≤ w'.heap.size ∧ SmbAt x.2.2.2.2 w180.heap.size w' g189 x.2.2.1 x.2.2.2.1 x.2.1 ∧ OwnB w20.heap.size w' (.slice A184 l168.length cp185) l168 ∧ w'.heap[g10]? = some (.cells (fcl u t M xM) 47 (0, 0)) ∧ (x.1 ≤ l168.length) ∧ ((x.1 < l168.length → x.2.1 = SM.mk 0 (l168.take x.1) 0) ∧ (x.1 = l168.length → x.2.1 = SM.mk 0 [] 0))) (fun x => l168.length - x.1) (0, (SM.mk 0 [] 0), none, 0, w180.heap.size) ⟨U195, lr, hA192, r196, r198, (by (try dsimp only); omega), (by (try dsimp only); exact ⟨fun _ => rfl, fun _ => rfl⟩)⟩ ?_
 rintro ⟨k, S, Ah, ch, n⟩ w199 ⟨hu200, hz206, f201, f202, f203, p204, p205⟩
 refine wkc [(3, .pointer (some ⟨g10, 0, none⟩)), (5, .bool true), (8, .slice A184 l168.length cp185), (10, .pointer (some ⟨g189, 0, none⟩)), (11, .int .i64 ((k : Nat) : Int))] ?_
 have f207 : SmbAt n w180.heap.size w199 g189 Ah ch S := f201
 have f208 : OwnB w20.heap.size w199 (.slice A184 l168.length cp185) l168 := f202
 have f209 : w199.heap[g10]? = some (.cells (fcl u t M xM) 47 (0, 0)) := f203
 have p210 : k ≤ l168.length := p204
 have p211 : (k < l168.length → S = SM.mk 0 (l168.take k) 0) ∧ (k = l168.length → S = SM.mk 0 [] 0) := p205
 refine sq <| sg <| Pl 4 <| nt <| ?_
 have U212 := ut0 (Upd.refl [] _) hu200
 refine cb ((decide (((k : Nat) : Int) < ((l168.length : Nat) : Int)))) (fun q213 => ?_) (fun q213 => ?_)
 have q213p := of_decide_eq_true q213
 refine skn <| sq <| bk <| sg <| Pl 4 <| L0 <| Oi (((k : Nat) : Int) + 1) <| x12 (cut_lhI (P := Tryz.prog) 29 5 1 Tryz.underlying29 rfl rfl A184 l168.length cp185 (lo := ((k : Nat) : Int)) (up := (((k : Nat) : Int) + 1)) ((((k : Nat) : Int)).toNat) (((((k : Nat) : Int) + 1)).toNat) (by omega) (by omega) (by omega) (by omega) (by omega)) fun A214 hrun215 hrd216 => L0 <| Or_ (.slice A214 ((((((k : Nat) : Int) + 1)).toNat) - ((((k : Nat) : Int)).toNat)) (cp185 - ((((k : Nat) : Int)).toNat))) (run_cutlh (kl := .i64) (kh := .i64) (lo := ((k : Nat) : Int)) (hi := (((k : Nat) : Int) + 1)) (A := A184) (n := l168.length) (c := cp185) rfl Tryz.underlying29 (by kernel_rfl) (by kernel_rfl) (by kernel_rfl) (hrun215 _ _ _)) <| ?_
 refine pr (SM.feed S ((l168.take (((((k : Nat) : Int) + 1)).toNat)).drop ((((k : Nat) : Int)).toNat))) fun S217 L218 hX219 => ?_
 have hk230 := SM.feed_le f207.2.2.1 (RdB.range (hrd216 _ _ _ _ _ (f208).rd)) hX219
 refine L0 <| Oc (args := #[.pointer (some ⟨g189, 0, none⟩), .slice A214 ((((((k : Nat) : Int) + 1)).toNat) - ((((k : Nat) : Int)).toNat)) (cp185 - ((((k : Nat) : Int)).toNat))]) <| ?_
 refine (smb_feed_x hX219 f207 (hrd216 _ _ _ _ _ (f208).rd) (far_made (RdG.low ((hrd216 _ _ _ _ _ (rd188).rd))) hg191) (far_own (RdG.low ((hrd216 _ _ _ _ _ (rd188).rd))) (SmbAt.row f207) lr) (by rw [List.length_drop, List.length_take]; omega)).mono ?_
 rintro _ w224 ⟨v220, A221, cp222, n223, rfl, ho225, hA226, hat227, hn228, hu229⟩
 refine ⟨_, rfl, ?_⟩
 have hk231 := SmbAt.le hA226
 have rd236 := ho225
 obtain ⟨A232, cp233, rfl, hl234, hm235⟩ := RdG.shape rd236.rd
 refine Pl 1 <| ng <| Pl 3 <| L0 <| Oi (((l168.length : Nat) : Int) - 1) <| Pl 2 <| nt <| sq <| sg <| Pl 6 <| ?_
 have U237 := ut U212 hu229 (ac (ni U194.size hg191) (all_app (ob_new (SmbAt.row f207) U194.size) all0))
 refine bl 64 (((((k : Nat) : Int) == (((l168.length : Nat) : Int) - 1)) != (((L218.length : Nat) : Int) == 1))) (fun q238 => ?_) (fun q238 => ?_)
 refine Pl 15 <| nt <| c1 <| sg <| Pl 1 <| nt <| rt <| tr <| br <| tr <| tr <| ?_
 refine br <| tr <| rr (.bool false) <| ?_
 have hs : false = true := by have z := smb_wait (k := k) (S2 := S217) (L := L218) (by decide) ⟨hcM, hdM⟩ hbt hX169 (by omega) p211 (by have q := hX219; rw [show (((((k : Nat) : Int) + 1)).toNat) = k + 1 from by omega, show ((((k : Nat) : Int)).toNat) = k from by omega] at q; exact q); rcases (show k + 1 < l168.length ∨ k + 1 = l168.length from by omega) with c | c; (obtain ⟨z1, z2⟩ := z.1 c; have y : (((k : Nat) : Int) == (((l168.length : Nat) : Int) - 1)) = false := (by rw [beq_eq_false_iff_ne]; omega); have q := q238; rw [y, z2] at q; simp at q); (obtain ⟨z1, z2⟩ := z.2 c; have y : (((k : Nat) : Int) == (((l168.length : Nat) : Int) - 1)) = true := (by rw [beq_iff_eq]; omega); have q := q238; rw [y, z2] at q; simp at q)
 rw [hs]
 exact ⟨rfl, U237⟩
 refine Pl 3 <| bl 67 ((!(((k : Nat) : Int) == (((l168.length : Nat) : Int) - 1)))) (fun q239 => ?_) (fun q239 => ?_)
 have q239n : (((k : Nat) : Int) == (((l168.length : Nat) : Int) - 1)) = false := by simpa using q239
 have q239np := ne_of_beqi q239n
 refine Pl 4 <| bl 71 ((((L218.length : Nat) : Int) != 0)) (fun q240 => ?_) (fun q240 => ?_)
 have q240p := ne_of_bnei q240
 refine Pl 8 <| nt <| c1 <| sg <| Pl 1 <| nt <| rt <| tr <| br <| tr <| tr <| ?_
 refine br <| tr <| rr (.bool false) <| ?_
 have hs : false = true := by have z := smb_wait (k := k) (S2 := S217) (L := L218) (by decide) ⟨hcM, hdM⟩ hbt hX169 (by omega) p211 (by have q := hX219; rw [show (((((k : Nat) : Int) + 1)).toNat) = k + 1 from by omega, show ((((k : Nat) : Int)).toNat) = k from by omega] at q; exact q); obtain ⟨z1, z2⟩ := z.1 (by have y := ne_of_beqi q239n; omega); have q := q240; rw [z2] at q; simp at q
 rw [hs]
 exact ⟨rfl, U237⟩
 have q240p := eq_of_bnei q240
 refine Pl 1 <| L1 <| Oc <| m1 (smb_held hA226) fun w241 hu242 => Pl 1 <| L1 <| Oi (((k : Nat) : Int) + 1) <| Pl 4 <| nt <| ?_
 have U243 := ut0 U237 hu242
 refine cb ((((S217.held.length : Nat) : Int) != (((k : Nat) : Int) + 1))) (fun q244 => ?_) (fun q244 => ?_)
 have q244p := ne_of_bnei q244
 refine sg <| Pl 1 <| nt <| rt <| tr <| br <| tr <| tr <| br <| tr <| rr (.bool false) <| ?_
 have hs : false = true := by have z := smb_wait (k := k) (S2 := S217) (L := L218) (by decide) ⟨hcM, hdM⟩ hbt hX169 (by omega) p211 (by have q := hX219; rw [show (((((k : Nat) : Int) + 1)).toNat) = k + 1 from by omega, show ((((k : Nat) : Int)).toNat) = k from by omega] at q; exact q); obtain ⟨z1, z2⟩ := z.1 (by have y := ne_of_beqi q239n; omega); have q := ne_of_bnei q244; rw [z1] at q; exact absurd (show (((l168.take (k + 1)).length : Nat) : Int) = ((k : Nat) : Int) + 1 from by rw [List.length_take]; omega) q
 rw [hs]
 exact ⟨rfl, U243⟩
 have q244p := eq_of_bnei q244
 refine skn <| sq <| Rg 10 (fun w' => True) fun w245 hu246 => hld trivial fun hS247 => Rt 0 hS247 <| Rt 1 hS247 <| sya 81 q239n <| Ro 2 hS247 <| Ro 3 hS247 <| Ro 4 hS247 <| Ro 5 hS247 <| Ro 6 hS247 <| Ro 7 hS247 <| ?_
 refine Ro 8 hS247 <| Rt 9 hS247 <| re <| tn <| c0 <| sk <| bn <| tn <| go <| Pl 1 <| L0 <| Oi (((k : Nat) : Int) + 1) <| Pl 1 <| nl <| ?_
 have U248 := ut0 U243 hu246
 have U249 := ut0 hu242 hu246
 have r250 := SmbAt.upd hA226 U249 not0 (fun x hx => not0)
 have U251 := ut0 hu229 hu242
 have U252 := ut0 U251 hu246
 have r253 := own_stay f208 U252 (fun x hx => (not_cons (fun e => (not_young rd188 lr hg191) (e ▸ hx)) (not_app ((rows_old rd188 lr (SmbAt.row f207)) x hx) not0))) (fun _ _ h => h)
 have ne254 := nb (blk_lt B13) (le (le hu16.size hu21.size) hu183.size) hg191
 have r255 := Upd.blk U252 (not_cons ne254 (not_app (not_old (blk_lt B13) (le (le hu16.size hu21.size) hu183.size) (SmbAt.row f207)) not0)) f209
 have hz256 := smb_wait (k := k) (S2 := S217) (L := L218) (by decide) ⟨hcM, hdM⟩ hbt hX169 (by omega) p211 (by have q := hX219; rw [show (((((k : Nat) : Int) + 1)).toNat) = k + 1 from by omega, show ((((k : Nat) : Int)).toNat) = k from by omega] at q; exact q)
 exact lpe ((k + 1), S217, A221, cp222, n223) ⟨U248, (le (le (le hz206 hu229.size) hu242.size) hu246.size), r250, r253, r255, (by (try dsimp only); omega), (by (try dsimp only); exact ⟨fun h => (hz256.1 h).1, fun h => (hz256.2 h).1⟩)⟩ (by omega)
 have q239n : (((k : Nat) : Int) == (((l168.length : Nat) : Int) - 1)) = true := by simpa using q239
 have q239np := eq_of_beqi q239n
 refine Pl 12 <| nt <| c0 <| skn <| sq <| Rg 10 (fun w' => w'.heap[g10]? = some (.cells (fcl u t M xM) 47 (0, 0))) fun w271 hu272 => ?_
 have U274 := ut0 hu229 hu272
 have ne275 := nb (blk_lt B13) (le (le hu16.size hu21.size) hu183.size) hg191
 have r276 := Upd.blk U274 (not_cons ne275 (not_app (not_old (blk_lt B13) (le (le hu16.size hu21.size) hu183.size) (SmbAt.row f207)) not0)) f209
 refine hld r276 fun hS273 => Rt 0 hS273 <| Rt 1 hS273 <| sya 81 q239n <| Rt 2 hS273 <| Rr 5 hS273 (.agg (fcl u t M xM)) (fun w' hs => lda_o (g := g10) (off := 0) [.int .u8 u, .int .u16 t, .int .u8 M.code, .int .u8 M.fail, .int .u16 M.addr, .int .u16 M.count, .int .u16 M.value, .int .u16 M.and_, .int .u16 M.or_, .int .u16 M.addr2, .int .u16 M.sub, .int .u16 M.status, .int .u16 M.events, .int .u16 M.messages, .slice xM.aw M.words.length xM.kw, .slice xM.ab M.bits.length xM.kb, .slice xM.ad M.data.length xM.kd, .slice xM.ar M.recs.length xM.kr, .int .u8 M.mei, .int .u8 M.kind, .int .u8 M.level, .int .u8 M.more, .int .u8 M.next, .slice xM.ao M.objects.length xM.ko] rfl (by kernel_rfl) hs (by kernel_rfl) (by kernel_rfl) rfl) <| Rt 6 hS273 <| ?_
 have hz277 : L218.length = 1 := by have q := q238; rw [q239n] at q; have q2 : ((L218.length : Nat) : Int) = 1 := (by simpa using q); omega
 have r278 := own_stay rd236 hu272 (fun x hx => not0) (fun x cs q => evLow.upd hu272 apt_nil q)
 refine x64 (RdE.elt (OwnV.own r278).rd 0 (by omega) (Ev.bad 0)) fun b279 o280 cl281 t282 fr283 s284 hA285 hb286 hv287 hs288 => R0 3 rfl <| Oixs 25 L218.length 0 hA285 (by omega) <| hld r276 fun hS289 => R0 4 rfl <| Oel [.int .i64 ((L218.getD 0 (Ev.bad 0)).e), .int .u8 ((L218.getD 0 (Ev.bad 0)).f.unit), .int .u16 ((L218.getD 0 (Ev.bad 0)).f.tid), .int .u8 ((L218.getD 0 (Ev.bad 0)).f.msg.code), .int .u8 ((L218.getD 0 (Ev.bad 0)).f.msg.fail), .int .u16 ((L218.getD 0 (Ev.bad 0)).f.msg.addr), .int .u16 ((L218.getD 0 (Ev.bad 0)).f.msg.count), .int .u16 ((L218.getD 0 (Ev.bad 0)).f.msg.value), .int .u16 ((L218.getD 0 (Ev.bad 0)).f.msg.and_), .int .u16 ((L218.getD 0 (Ev.bad 0)).f.msg.or_), .int .u16 ((L218.getD 0 (Ev.bad 0)).f.msg.addr2), .int .u16 ((L218.getD 0 (Ev.bad 0)).f.msg.sub), .int .u16 ((L218.getD 0 (Ev.bad 0)).f.msg.status), .int .u16 ((L218.getD 0 (Ev.bad 0)).f.msg.events), .int .u16 ((L218.getD 0 (Ev.bad 0)).f.msg.messages), .slice s284.aw ((L218.getD 0 (Ev.bad 0)).f.msg.words.length) s284.kw, .slice s284.ab ((L218.getD 0 (Ev.bad 0)).f.msg.bits.length) s284.kb, .slice s284.ad ((L218.getD 0 (Ev.bad 0)).f.msg.data.length) s284.kd, .slice s284.ar ((L218.getD 0 (Ev.bad 0)).f.msg.recs.length) s284.kr, .int .u8 ((L218.getD 0 (Ev.bad 0)).f.msg.mei), .int .u8 ((L218.getD 0 (Ev.bad 0)).f.msg.kind), .int .u8 ((L218.getD 0 (Ev.bad 0)).f.msg.level), .int .u8 ((L218.getD 0 (Ev.bad 0)).f.msg.more), .int .u8 ((L218.getD 0 (Ev.bad 0)).f.msg.next), .slice s284.ao ((L218.getD 0 (Ev.bad 0)).f.msg.objects.length) s284.ko] hb286 hs288 <| hld r276 fun hS290 => ?_
 have U291 := ut0 U237 hu272
 have r292 := MsgRd.old hM U291
 refine R0 7 rfl <| Oc <| m1 (same19_any (A := (L218.getD 0 (Ev.bad 0))) (B := (Ev.mk 0 ⟨u, t, M⟩)) (hv287.1) r292) fun w293 hu294 => ?_
 have r296 := ub hu294 r276
 refine hld r296 fun hS295 => Rt 8 hS295 <| Rt 9 hS295 <| re <| tn <| ?_
 have U297 := ut0 U291 hu294
 refine cb ((!(decide ((L218.getD 0 (Ev.bad 0)) = (Ev.mk 0 ⟨u, t, M⟩))))) (fun q298 => ?_) (fun q298 => ?_)
 have q298n : (decide ((L218.getD 0 (Ev.bad 0)) = (Ev.mk 0 ⟨u, t, M⟩))) = false := by simpa using q298
 have q298np := of_decide_eq_false q298n
 refine sg <| Pl 1 <| nt <| rt <| br <| tr <| tr <| br <| tr <| rr (.bool false) <| ?_
 have hs : false = true := by have z := smb_wait (k := k) (S2 := S217) (L := L218) (by decide) ⟨hcM, hdM⟩ hbt hX169 (by omega) p211 (by have q := hX219; rw [show (((((k : Nat) : Int) + 1)).toNat) = k + 1 from by omega, show ((((k : Nat) : Int)).toNat) = k from by omega] at q; exact q); obtain ⟨z1, z2⟩ := z.2 (by have y := eq_of_beqi q239n; omega); have q := q298n; rw [z2] at q; simp at q
 rw [hs]
 exact ⟨rfl, U297⟩
 have q298n : (decide ((L218.getD 0 (Ev.bad 0)) = (Ev.mk 0 ⟨u, t, M⟩))) = true := by simpa using q298
 have q298np := of_decide_eq_true q298n
 refine sk <| bn <| tn <| go <| Pl 1 <| L0 <| Oi (((k : Nat) : Int) + 1) <| Pl 1 <| nl <| ?_
 have U299 := ut0 hu272 hu294
 have r300 := SmbAt.upd hA226 U299 not0 (fun x hx => not0)
 have U301 := ut0 U274 hu294
 have r302 := own_stay f208 U301 (fun x hx => (not_cons (fun e => (not_young rd188 lr hg191) (e ▸ hx)) (not_app ((rows_old rd188 lr (SmbAt.row f207)) x hx) not0))) (fun _ _ h => h)
 have hz303 := smb_wait (k := k) (S2 := S217) (L := L218) (by decide) ⟨hcM, hdM⟩ hbt hX169 (by omega) p211 (by have q := hX219; rw [show (((((k : Nat) : Int) + 1)).toNat) = k + 1 from by omega, show ((((k : Nat) : Int)).toNat) = k from by omega] at q; exact q)
 exact lpe ((k + 1), S217, A221, cp222, n223) ⟨U297, (le (le (le hz206 hu229.size) hu272.size) hu294.size), r300, r302, r296, (by (try dsimp only); omega), (by (try dsimp only); exact ⟨fun h => (hz303.1 h).1, fun h => (hz303.2 h).1⟩)⟩ (by omega)
 have q213p := of_decide_eq_false q213
 refine xt <| tx <| tx <| bx <| tn <| sg <| Pl 3 <| L1 <| Oc <| m1 (smb_held f207) fun w304 hu305 => Pl 3 <| nt <| rt <| rr (.bool (((S.held.length : Nat) : Int) == 0)) <| ?_
 have hs : (((S.held.length : Nat) : Int) == 0) = true := by have z := p211.2 (by omega); rw [z]; rfl
 rw [hs]
 have U306 := ut0 U212 hu305
 exact ⟨rfl, U306⟩
end Go.Proofs.YtgjlbabefogepaaGreat
namespace Go.Proofs.YtgjlbabefogepaaGreat
open Go.ChangeShapes Go.WideShapes Go.ChangeAt Go.RowKit
theorem own : ownKnob Tryz.prog.godebug = none := by kernel_rfl
theorem laidOut : laidOutB Tryz.prog = true := by kernel_rfl
set_option maxRecDepth 100000 in
theorem lifted (os : Os) (started : os.Started) (H : Type) (enc : TypeId × Value → H) :
    ReturnsInHanded {} Tryz.checked os 9 .any (Rows.smbapWaitsSpec.pre6 enc Tryz.prog Tryz.f9 Rows.smbapWaitsRow.domain false) (Rows.smbapWaitsSpec.post enc Tryz.prog Tryz.f9 false true false false) := by
  refine returnsInHanded_of_change (C := Tryz.checked) own started (by kernel_rfl) Tryz.func9
    (ChangeSpec.witness6 (enc := enc) (C := Tryz.checked) false ⟨#[], #[.bool false, .agg #[.int .u8 0, .int .u16 0, .int .u8 0, .int .u8 0, .int .u16 0, .int .u16 0, .int .u16 0, .int .u16 0, .int .u16 0, .int .u16 0, .int .u16 0, .int .u16 0, .int .u16 0, .int .u16 0, .slice none 0 0, .slice none 0 0, .slice none 0 0, .slice none 0 0, .int .u8 0, .int .u8 0, .int .u8 0, .int .u8 0, .int .u8 0, .slice none 0 0]], []⟩ 8 (by kernel_rfl) (by kernel_rfl) (by kernel_rfl) (by kernel_rfl)) ?_
  intro W base args ds gs before hval0 hW hcnd _
  have hval : ∀ (j : Nat) t v, Tryz.f9.params[j]? = some t → args[j]? = some v → Value.okWide Tryz.prog W .any base t v := hval0
  have hW' := hW
  obtain ⟨p, q, hA0, hV, rfl, hfz, hnd⟩ := hW
  have hA : DataW.TrodAll enc Tryz.prog W 0 (fun _ => true) true Tryz.f9.params.toList args.toList ds p := hA0
  rw [Tryz.params9] at hA hval
  obtain ⟨v0, vs0, d0, ds0, p0, q0, hargs, rfl, rfl, h0, r0⟩ := trodAll_cons hA
  obtain ⟨v1, vs1, d1, ds1, p1, q1, rfl, rfl, rfl, h1, r1⟩ := trodAll_cons r0
  obtain ⟨rfl, rfl, rfl⟩ := trodAll_nil r1
  obtain rfl : args = #[v0, v1] := by cases args; simp_all
  obtain ⟨rfl, rfl⟩ := trodVars_none hV
  obtain ⟨a0, rfl, rfl, rfl⟩ := open_bool Tryz.underlying4 (hval 0 4 v0 rfl rfl) h0
  have k1 := h1
  have lt1 : ∀ x ∈ p1, x.block < W.heap.size := by obtain ⟨m, hm⟩ := k1; exact DataW.trod_lt m _ _ _ hm
  obtain ⟨u1, t1, M1, x1, rfl, R1, bu1, bt1⟩ := frm_arg ⟨_, hval 1 47 v1 rfl rfl⟩ h1
  clear hA0 hval0
  refine (lawSmbapWaits (ans := a0) R1 bu1 bt1).mono fun e W' ⟨he, hu⟩ => ?_
  have bel := upd_below hu
  subst he
  exact ⟨_, rfl, _, _, _, [], _, [], hW', trodAll_mk1 (shut_bool Tryz.underlying4 _), (trodAll_cons_mk (shut_bool Tryz.underlying4 _) (trodAll_cons_mk (Below.trod laidOut (by kernel_rfl) (of_decide_eq_true (by kernel_rfl)) k1 bel lt1) trodAll_mk0)), rfl, bel.frame _, fun h => by cases h⟩
theorem over : Rows.smbapWaitsRow.holds Tryz.pinned (OpenSpec.ofChange Rows.smbapWaitsSpec) :=
  OpenClaim.holds_of_wide 9 Tryz.f9 rfl rfl rfl rfl rfl rfl rfl ⟨rfl, rfl, rfl, rfl, rfl⟩ rfl rfl rfl rfl rfl (by kernel_rfl) Tryz.func9 (by kernel_rfl)
    (of_decide_eq_true (by kernel_rfl)) (by unfold Func.isWrapper; first | (rw [if_pos (by decide +kernel)]; kernel_rfl) | (rw [if_neg (by decide +kernel)]; exact ⟨rfl, rfl⟩))
    (fun os started H enc _ => lifted os started H enc)
theorem proved : Rows.SmbapWaitsSaid := over
#print axioms proved
end Go.Proofs.YtgjlbabefogepaaGreat
