/- The statement SmbapProto holds; no condition of its own. -/
import Derived.Test.YtgjlbabefogepaaGreatKA1
import Derived.Test.YtgjlbabefogepaaGreatKA2
import Derived.Test.YtgjlbabefogepaaGreatKA3
import Derived.Test.YtgjlbabefogepaaGreatKA4
import Derived.Test.YtgjlbabefogepaaGreatKA5
import Derived.Test.YtgjlbabefogepaaGreatKB1
import Derived.Test.YtgjlbabefogepaaGreatRows
import Derived.WalkKit
import Derived.ProofKit
import Derived.OpenShut
import Derived.ShutString
import Derived.ChangeOld
import Derived.Below
set_option linter.unusedVariables false
set_option linter.unusedSimpArgs false
namespace Go.Proofs.YtgjlbabefogepaaGreat
open Go.RowKit
def echoM (M : Msg) : Msg := { Msg.zero with code := M.code, addr := M.addr, count := M.count }
theorem echo_rd {m : Bool} {w : World} {cs : Array Value} {M : Msg} (h : MsgRd m w cs.toList M) (W : World) : MsgRd true W (mG M.code 0 M.addr M.count 0 0 0 0 0 0 0 0 nS nS nS nS 0 0 0 0 0 nS).toList (echoM M) := by
  obtain ⟨vw, vb, vd, vr, vo, h0, hw, hbt, hd, hr, ho, hR⟩ := h
  exact ⟨nilS, nilS, nilS, nilS, nilS, rfl, RdG.nil .., RdG.nil .., RdG.nil .., RdG.nil .., RdG.nil .., { MsgRng.zero with code := hR.code, addr := hR.addr, count := hR.count }⟩
theorem echo_few (M : Msg) : MsgFew (echoM M) := ⟨Nat.zero_le _, Nat.zero_le _, Nat.zero_le _, Nat.zero_le _, (fun r h => nomatch h), Nat.zero_le _, (fun r h => nomatch h)⟩
theorem rng_ac {m : Bool} {w : World} {cs : Array Value} {M : Msg} (h : MsgRd m w cs.toList M) : (0 ≤ M.addr ∧ M.addr < 65536) ∧ (0 ≤ M.count ∧ M.count < 65536) := by
  obtain ⟨vw, vb, vd, vr, vo, h0, hw, hbt, hd, hr, ho, hR⟩ := h
  exact ⟨hR.addr, hR.count⟩
theorem fail0 {M : Msg} {l : List Int} (h : pduW 0 M = some l) : M.fail = 0 := by
  unfold pduW at h
  split at h
  · rename_i hf
    rw [if_pos (by decide)] at h
    cases h
  · rename_i hf
    simpa using hf
theorem pduW_fam {M : Msg} (hf : M.fail = 0) (h : famW (cfam M.code) 0 M = famW (cfam M.code) 1 M) : pduW 0 M = pduW 1 M := by
  unfold pduW
  rw [hf, if_neg (by decide), if_neg (by decide), h]
theorem writeOf_eq {form : Int → Int → Cur → Option (Cur × Msg)} {lay : Int → Msg → List Int} {M : Msg} (h1 : ∀ C, form 0 M.code C = form 1 M.code C) (h2 : lay 0 M = lay 1 M) : writeOf (parseOf form) lay 0 M = writeOf (parseOf form) lay 1 M := by
  have h3 : ∀ b, parseOf form 0 M.code b = parseOf form 1 M.code b := fun b => by
    unfold parseOf
    rw [if_pos (Or.inl rfl), if_pos (Or.inr rfl), h1]
  unfold writeOf
  rw [h2, h3]
theorem filesB_21 : ∀ L, filesB 0 21 L = filesB 1 21 L
  | [] => rfl
  | r :: L => by
    show recB 0 21 r ++ filesB 0 21 L = recB 1 21 r ++ filesB 1 21 L
    rw [filesB_21 L]
    rfl
theorem echo_same {M : Msg} {l : List Int} (hc : M.code = 5 ∨ M.code = 6 ∨ M.code = 21 ∨ M.code = 22) (h : pduW 0 M = some l) : pduW 1 M = some l := by
  rw [← h]
  refine (pduW_fam (fail0 h) ?_).symm
  rcases hc with hc | hc | hc | hc
  · rw [hc]
    refine writeOf_eq (fun C => ?_) ?_
    · rw [hc]; rfl
    · unfold coilsLay; rw [hc]; rfl
  · rw [hc]
    refine writeOf_eq (fun C => ?_) ?_
    · rw [hc]; rfl
    · unfold regsLay; rw [hc]; rfl
  · rw [hc]
    refine writeOf_eq (fun C => ?_) ?_
    · rw [hc]; rfl
    · rw [filesLay_eq, filesLay_eq, hc, filesB_21]
  · rw [hc]
    refine writeOf_eq (fun C => ?_) ?_
    · rw [hc]; rfl
    · unfold regsLay; rw [hc]; rfl
theorem wd1 {a : Int} {r : List Int} (ha : 0 ≤ a ∧ a < 65536) : (Cur.mk (putW [a] ++ r) false 0).wordV = a ∧ (Cur.mk (putW [a] ++ r) false 0).wordsC 1 = ⟨r, false, 0⟩ := by
  have hb : (Cur.mk (putW [a] ++ r) false 0).wbad 1 = false := by
    unfold Cur.wbad
    simp only [putW, List.length_append, List.length_cons, List.length_nil, Bool.or_eq_false_iff, decide_eq_false_iff_not]
    omega
  have hf : (Cur.mk (putW [a] ++ r) false 0).fails (2 * 1) = false := by
    unfold Cur.fails
    simp [putW]
    omega
  constructor
  · unfold Cur.wordV Cur.wordsR Cur.bytesR
    rw [hb, hf]
    show (wordTake [a / 256, a % 256]).getD 0 0 = a
    unfold wordTake
    rw [if_pos (by simp)]
    show a / 256 * 256 + a % 256 = a
    omega
  · unfold Cur.wordsC Cur.bytesC
    rw [hb, hf]
    rfl
theorem need_t (C : Cur) (x : Int) : C.need true x = C := by
  unfold Cur.need
  rw [if_neg (by rintro ⟨_, h⟩; cases h)]
theorem wd2 {a n : Int} (ha : 0 ≤ a ∧ a < 65536) (hn : 0 ≤ n ∧ n < 65536) : (Cur.mk (putW [a, n]) false 0).wordV = a ∧ (Cur.mk (putW [a, n]) false 0).wordsC 1 = ⟨putW [n], false, 0⟩ ∧ (Cur.mk (putW [n]) false 0).wordV = n ∧ (Cur.mk (putW [n]) false 0).wordsC 1 = ⟨[], false, 0⟩ := by
  have h1 := wd1 (r := putW [n]) ha
  have h2 := wd1 (r := []) hn
  rw [List.append_nil] at h2
  exact ⟨h1.1, h1.2, h2.1, h2.2⟩
theorem asks_ok {a n most c : Int} (ha : 0 ≤ a ∧ a < 65536) (hn : 0 ≤ n ∧ n < 65536) (h1 : 1 ≤ n ∧ n ≤ most) (h2 : within a n = true) : asksR most c ⟨putW [a, n], false, 0⟩ = (⟨[], false, 0⟩, { Msg.zero with code := c, addr := a, count := n }) := by
  obtain ⟨e1, e2, e3, e4⟩ := wd2 ha hn
  unfold asksR spanC spanC1
  rw [e2, e1, e3, e4, h2, decide_eq_true h1.1, decide_eq_true h1.2]
  rw [show (true && true) = true from rfl, need_t, need_t]
theorem rasks_ok {a n most c : Int} (ha : 0 ≤ a ∧ a < 65536) (hn : 0 ≤ n ∧ n < 65536) (h1 : 1 ≤ n ∧ n ≤ most) (h2 : within a n = true) : rasksR most c ⟨putW [a, n], false, 0⟩ = (⟨[], false, 0⟩, { Msg.zero with code := c, addr := a, count := n }) := by
  obtain ⟨e1, e2, e3, e4⟩ := wd2 ha hn
  unfold rasksR rspanC
  rw [e2, e1, e3, e4, h2, decide_eq_true h1.1, decide_eq_true h1.2]
  rw [show (true && true) = true from rfl, need_t, need_t]
theorem span_e {C : Cur} {most : Int} (h : (spanC C most).e = 0) : (1 ≤ (C.wordsC 1).wordV ∧ (C.wordsC 1).wordV ≤ most) ∧ within C.wordV (C.wordsC 1).wordV = true := by
  obtain ⟨h1, h2⟩ := nd_ok (by decide) h
  obtain ⟨_, h3⟩ := nd_ok (by decide) h1
  simp only [Bool.and_eq_true, decide_eq_true_eq] at h3
  exact ⟨h3, h2⟩
theorem rspan_e {C : Cur} {a most : Int} (h : (rspanC C a most).e = 0) : (1 ≤ C.wordV ∧ C.wordV ≤ most) ∧ within a C.wordV = true := by
  obtain ⟨h1, h2⟩ := nd_ok (by decide) h
  obtain ⟨_, h3⟩ := nd_ok (by decide) h1
  simp only [Bool.and_eq_true, decide_eq_true_eq] at h3
  exact ⟨h3, h2⟩
theorem parse_fin {form : Int → Int → Cur → Option (Cur × Msg)} {dir c : Int} {b : List Int} {M : Msg} (hd : dir = 0 ∨ dir = 1) (h : parseOf form dir c b = (M, 0)) : ∃ C', form dir c ⟨b, false, 0⟩ = some (C', M) ∧ C'.endC.e = 0 := by
  unfold parseOf at h
  rw [if_pos hd] at h
  split at h
  · cases h
  · rename_i r hr
    unfold finish at h
    split at h
    · rename_i he
      injection h with h
      obtain ⟨C', M'⟩ := r
      have h : M' = M := h
      subst h
      exact ⟨C', hr, he⟩
    · rename_i he
      injection h with _ h
      exact absurd h he
theorem end0 {C : Cur} (h : C.endC.e = 0) : C.e = 0 := (nd_ok (by decide) h).1
theorem wo_e {C : Cur} {n : Int} (h : (C.wordsC n).e = 0) : C.e = 0 := by
  unfold Cur.wordsC at h
  split at h
  · exact (by_ok h).1
  · exact (by_ok h).1
theorem many_ok {M : Msg} {l : List Int} (hc : M.code = 15 ∨ M.code = 16) (h : pduW 0 M = some l) : (∃ r, l = [M.code] ++ (putW [M.addr, M.count] ++ r) ∧ 1 ≤ r.length) ∧ (1 ≤ M.count ∧ (M.code = 15 → M.count ≤ 1968) ∧ (M.code = 16 → M.count ≤ 123)) ∧ within M.addr M.count = true := by
  have hf := fail0 h
  unfold pduW at h
  rw [hf, if_neg (by decide)] at h
  split at h
  · cases h
  rename_i l' hl'
  split at h
  · cases h
  injection h with h
  subst h
  rcases hc with hc | hc
  · rw [hc] at hl' ⊢
    obtain ⟨h1, h2⟩ := writeOf_some (show writeOf parseCoils coilsLay 0 M = some l' from hl')
    rw [hc] at h1
    obtain ⟨C', h3, h4⟩ := parse_fin (Or.inl rfl) h1
    have h3 : some (csmR 15 ⟨l', false, 0⟩) = some (C', M) := h3
    obtain ⟨rfl, rfl⟩ := some_pair h3
    obtain ⟨h6, _⟩ := nd_ok (by decide) (end0 h4)
    obtain ⟨h7, _⟩ := nd_ok (by decide) (by_ok h6).1
    obtain ⟨h8, h9⟩ := span_e (by_ok h7).1
    refine ⟨⟨[((packB (csmR 15 ⟨l', false, 0⟩).2.bits).length : Int) % 256] ++ packB (csmR 15 ⟨l', false, 0⟩).2.bits, ?_, by simp⟩, ⟨h8.1, fun _ => h8.2, fun h => absurd h (by decide)⟩, h9⟩
    rw [← List.append_assoc (putW _)]
    exact congrArg _ h2
  · rw [hc] at hl' ⊢
    obtain ⟨h1, h2⟩ := writeOf_some (show writeOf parseRegs regsLay 0 M = some l' from hl')
    rw [hc] at h1
    obtain ⟨C', h3, h4⟩ := parse_fin (Or.inl rfl) h1
    have h3 : some (rmanyR 16 ⟨l', false, 0⟩) = some (C', M) := h3
    obtain ⟨rfl, rfl⟩ := some_pair h3
    have h6 : (rmanyC ⟨l', false, 0⟩).e = 0 := wo_e (end0 h4)
    obtain ⟨h7, _⟩ := nd_ok (by decide) h6
    obtain ⟨h8, h9⟩ := rspan_e (by_ok h7).1
    refine ⟨⟨[(2 * ((rmanyR 16 ⟨l', false, 0⟩).2.words.length : Int)) % 256] ++ putW (rmanyR 16 ⟨l', false, 0⟩).2.words, ?_, by simp⟩, ⟨h8.1, (fun h => absurd h (by decide)), fun _ => h8.2⟩, h9⟩
    rw [← List.append_assoc (putW _)]
    exact congrArg _ h2
theorem echo_cut {M : Msg} {l : List Int} (hc : M.code = 15 ∨ M.code = 16) (ha : 0 ≤ M.addr ∧ M.addr < 65536) (hn : 0 ≤ M.count ∧ M.count < 65536) (h : pduW 0 M = some l) : 6 ≤ l.length ∧ pduW 1 (echoM M) = some (l.take 5) := by
  obtain ⟨⟨r, rfl, hr⟩, ⟨h1, h2, h3⟩, h4⟩ := many_ok hc h
  refine ⟨by simp [putW]; omega, ?_⟩
  show pduW 1 (echoM M) = some ([M.code] ++ putW [M.addr, M.count])
  have hw : famW (cfam M.code) 1 (echoM M) = some (putW [M.addr, M.count]) := by
    rcases hc with hc | hc
    · rw [hc]
      have h5 := h2 hc
      refine writeOf_ok (parse := parseCoils) (lay := coilsLay) ?_ ?_
      · unfold coilsLay
        rw [show (echoM M).code = 15 from hc]
        rfl
      · show parseOf coilsForm 1 M.code _ = _
        rw [hc]
        unfold parseOf
        rw [if_pos (Or.inr rfl)]
        show finish (asksR 1968 15 ⟨putW [M.addr, M.count], false, 0⟩).2 (asksR 1968 15 ⟨putW [M.addr, M.count], false, 0⟩).1 = _
        rw [asks_ok ha hn ⟨h1, h5⟩ h4]
        show ((_ : Msg), (0 : Int)) = _
        unfold echoM
        rw [hc]
    · rw [hc]
      have h5 := h3 hc
      refine writeOf_ok (parse := parseRegs) (lay := regsLay) ?_ ?_
      · unfold regsLay
        rw [show (echoM M).code = 16 from hc]
        rfl
      · show parseOf regsForm 1 M.code _ = _
        rw [hc]
        unfold parseOf
        rw [if_pos (Or.inr rfl)]
        show finish (rasksR 123 16 ⟨putW [M.addr, M.count], false, 0⟩).2 (rasksR 123 16 ⟨putW [M.addr, M.count], false, 0⟩).1 = _
        rw [rasks_ok ha hn ⟨h1, h5⟩ h4]
        show ((_ : Msg), (0 : Int)) = _
        unfold echoM
        rw [hc]
  unfold pduW
  show (if ((0 : Int) != 0) = true then _ else match famW (cfam M.code) 1 (echoM M) with | none => none | some l => if decide (253 ≤ (l.length : Int)) then none else some ([M.code] ++ l)) = _
  rw [if_neg (by decide), hw]
  rfl
end Go.Proofs.YtgjlbabefogepaaGreat
namespace Go.Proofs.YtgjlbabefogepaaGreat
def mbB (t z n u : Int) (l : List Int) : List Int := (putW [t, z, n] ++ [u]) ++ l
theorem mbB_len (t z n u : Int) (l : List Int) : (mbB t z n u l).length = 7 + l.length := by simp [mbB, putW]; omega
theorem by1 (u : Int) (l : List Int) : (Cur.mk ([u] ++ l) false 0).byteV = u ∧ (Cur.mk ([u] ++ l) false 0).bytesC 1 = ⟨l, false, 0⟩ := by
  have hf : (Cur.mk ([u] ++ l) false 0).fails 1 = false := by
    unfold Cur.fails
    simp only [List.length_append, List.length_cons, List.length_nil, Bool.or_eq_false_iff, decide_eq_false_iff_not]
    refine ⟨⟨trivial, ?_⟩, ?_⟩ <;> omega
  constructor
  · unfold Cur.byteV Cur.bytesR
    rw [hf]
    rfl
  · unfold Cur.bytesC
    rw [hf]
    rfl
theorem all_bytes (l : List Int) : (Cur.mk l false 0).bytesR ((l.length : Nat) : Int) = l := by
  have hf : (Cur.mk l false 0).fails ((l.length : Nat) : Int) = false := by
    unfold Cur.fails
    simp only [Bool.or_eq_false_iff, decide_eq_false_iff_not]
    refine ⟨⟨trivial, ?_⟩, ?_⟩ <;> omega
  unfold Cur.bytesR
  rw [hf]
  show l.take (l.length : Int).toNat = l
  rw [Int.toNat_natCast, List.take_length]
theorem mb_parts {t z n u : Int} {l : List Int} (ht : 0 ≤ t ∧ t < 65536) (hz : 0 ≤ z ∧ z < 65536) (hn : 0 ≤ n ∧ n < 65536) :
    (mb0 (mbB t z n u l)).wordV = t ∧ (mb1 (mbB t z n u l)).wordV = z ∧ (mb2 (mbB t z n u l)).wordV = n ∧ (mb3 (mbB t z n u l)).byteV = u ∧ mbBody (mbB t z n u l) = l := by
  have h1 := wd1 (r := putW [z] ++ (putW [n] ++ ([u] ++ l))) ht
  have h2 := wd1 (r := putW [n] ++ ([u] ++ l)) hz
  have h3 := wd1 (r := [u] ++ l) hn
  have h4 := by1 u l
  have e0 : mb0 (mbB t z n u l) = ⟨putW [t] ++ (putW [z] ++ (putW [n] ++ ([u] ++ l))), false, 0⟩ := by simp [mb0, mbB, putW]
  have e1 : mb1 (mbB t z n u l) = ⟨putW [z] ++ (putW [n] ++ ([u] ++ l)), false, 0⟩ := by unfold mb1; rw [e0]; exact h1.2
  have e2 : mb2 (mbB t z n u l) = ⟨putW [n] ++ ([u] ++ l), false, 0⟩ := by unfold mb2; rw [e1]; exact h2.2
  have e3 : mb3 (mbB t z n u l) = ⟨[u] ++ l, false, 0⟩ := by unfold mb3; rw [e2]; exact h3.2
  have e4 : mb4 (mbB t z n u l) = ⟨l, false, 0⟩ := by unfold mb4; rw [e3]; exact h4.2
  refine ⟨by rw [e0]; exact h1.1, by rw [e1]; exact h2.1, by rw [e2]; exact h3.1, by rw [e3]; exact h4.1, ?_⟩
  unfold mbBody
  rw [e4]
  exact all_bytes l
theorem mbapP_B {dir t z n u : Int} {l : List Int} (hd : dir = 0 ∨ dir = 1) (ht : 0 ≤ t ∧ t < 65536) (hz : 0 ≤ z ∧ z < 65536) (hn : 0 ≤ n ∧ n < 65536) :
    mbapP dir (mbB t z n u l) = if decide ((7 + l.length : Int) < 8) then (Frm.zero, 2) else if decide (260 < (7 + l.length : Int)) then (Frm.zero, 3) else if z != 0 then (Frm.zero, 13) else if n != (l.length : Int) + 1 then (Frm.zero, 5) else frmOf u t (pduP dir l) := by
  obtain ⟨h0, h1, h2, h3, h4⟩ := mb_parts (u := u) (l := l) ht hz hn
  unfold mbapP
  rw [h0, h1, h2, h3, h4, mbB_len]
  rw [if_neg (show ¬ (dir != 0 && dir != 1) = true by rcases hd with rfl | rfl <;> decide)]
  rw [show ((7 + l.length : Nat) : Int) = 7 + (l.length : Int) by omega, show (7 + (l.length : Int)) - 6 = (l.length : Int) + 1 by omega]
theorem mbapW_some {dir u t : Int} {M : Msg} {b : List Int} (h : mbapW dir u t M = some b) : ∃ l, pduW dir M = some l ∧ b = mbB t 0 ((l.length : Int) + 1) u l ∧ l.length ≤ 253 := by
  unfold mbapW at h
  split at h
  · cases h
  · rename_i l hl
    have hle := pduW_len hl
    injection h with h
    refine ⟨l, hl, ?_, hle⟩
    rw [← h, Int.emod_eq_of_lt (by omega) (by omega)]
    rfl
theorem mbapW_le {dir u t : Int} {M : Msg} {b : List Int} (hc : 0 ≤ M.code ∧ M.code < 256) (h : mbapW dir u t M = some b) : 8 ≤ b.length ∧ b.length ≤ 260 := by
  obtain ⟨l, h1, rfl, h2⟩ := mbapW_some h
  have := pduW_pos hc h1
  rw [mbB_len]
  omega
theorem mbapW_none {dir u t u' t' : Int} {M : Msg} (h : mbapW dir u t M = none) : mbapW dir u' t' M = none := by
  unfold mbapW at h ⊢
  split at h
  · rename_i h1
    rfl
  · cases h
theorem mbap_rt {dir u t : Int} {M : Msg} {b : List Int} (hd : dir = 0 ∨ dir = 1) (hc : 0 ≤ M.code ∧ M.code < 256) (hf : 0 ≤ M.fail ∧ M.fail < 256) (ht : 0 ≤ t ∧ t < 65536) (h : mbapW dir u t M = some b) : mbapP dir b = (⟨u, t, M⟩, 0) := by
  obtain ⟨l, h1, rfl, h2⟩ := mbapW_some h
  have h3 := pduW_pos hc h1
  rw [mbapP_B hd ht (by decide) (by omega), pdu_rt hd hc hf h1]
  rw [if_neg (by simp only [decide_eq_true_eq]; omega), if_neg (by simp only [decide_eq_true_eq]; omega), if_neg (by decide), if_neg (by simp)]
  rfl
theorem putW3 {a b c d e f : Int} (ha : 0 ≤ a ∧ a < 256) (hb : 0 ≤ b ∧ b < 256) (hc : 0 ≤ c ∧ c < 256) (hd : 0 ≤ d ∧ d < 256) (he : 0 ≤ e ∧ e < 256) (hf : 0 ≤ f ∧ f < 256) : putW [a * 256 + b, c * 256 + d, e * 256 + f] = [a, b, c, d, e, f] := by
  simp only [putW]
  congr 1
  · omega
  congr 1
  · omega
  congr 1
  · omega
  congr 1
  · omega
  congr 1
  · omega
  congr 1
  omega
theorem mb_shape {b : List Int} (hr : ∀ x, x ∈ b → 0 ≤ x ∧ x < 256) (hl : 8 ≤ b.length) : ∃ t z n u l, b = mbB t z n u l ∧ (0 ≤ t ∧ t < 65536) ∧ (0 ≤ z ∧ z < 65536) ∧ (0 ≤ n ∧ n < 65536) ∧ ∀ x, x ∈ l → 0 ≤ x ∧ x < 256 := by
  match b, hr, hl with
  | a0 :: a1 :: a2 :: a3 :: a4 :: a5 :: u :: l, hr, _ =>
    have h0 := hr a0 (by simp)
    have h1 := hr a1 (by simp)
    have h2 := hr a2 (by simp)
    have h3 := hr a3 (by simp)
    have h4 := hr a4 (by simp)
    have h5 := hr a5 (by simp)
    refine ⟨a0 * 256 + a1, a2 * 256 + a3, a4 * 256 + a5, u, l, ?_, by omega, by omega, by omega, fun x hx => hr x (by simp [hx])⟩
    unfold mbB
    rw [putW3 h0 h1 h2 h3 h4 h5]
    rfl
theorem mbapP_few {dir : Int} {b : List Int} {F : Frm} {E : Int} (hr : ∀ x, x ∈ b → 0 ≤ x ∧ x < 256) (h : mbapP dir b = (F, E)) : MsgFew F.msg ∧ (E ≠ 0 → F = Frm.zero) := by
  have hz : ∀ k : Int, ((Frm.zero, k) : Frm × Int) = (F, E) → MsgFew F.msg ∧ (E ≠ 0 → F = Frm.zero) := fun k h => by
    injection h with h1 h2
    subst h1
    exact ⟨few_zero, fun _ => rfl⟩
  unfold mbapP at h
  split at h
  · exact hz _ h
  split at h
  · exact hz _ h
  split at h
  · exact hz _ h
  split at h
  · exact hz _ h
  split at h
  · exact hz _ h
  rename_i _ h8 _ _ _
  simp only [decide_eq_true_eq] at h8
  obtain ⟨t, z, n, u, l, rfl, ht, hz', hn, hl⟩ := mb_shape hr (by omega)
  obtain ⟨h0, h1, h2, h3, h4⟩ := mb_parts (u := u) (l := l) ht hz' hn
  rw [h4] at h
  cases hp : pduP dir l with
  | mk M E' =>
    rw [hp] at h
    obtain ⟨k1, k2⟩ := pduP_few hl hp
    have h : (if (E' != 0) = true then ((Frm.zero, E') : Frm × Int) else (⟨_, _, M⟩, 0)) = (F, E) := h
    split at h
    · exact hz _ h
    · injection h with h5 h6
      subst h5
      exact ⟨k1, fun hE => absurd h6.symm hE⟩
theorem mbap_back {dir : Int} {b : List Int} {F : Frm} {E : Int} {r : Option (List Int)} (hd : dir = 0 ∨ dir = 1) (hr : ∀ x, x ∈ b → 0 ≤ x ∧ x < 256) (h : mbapP dir b = (F, E)) (hE : (E == 0) = true) (hW : mbapW dir F.unit F.tid F.msg = r) : r = some b ∧ 8 ≤ b.length ∧ b.length ≤ 260 := by
  obtain rfl : E = 0 := by simpa using hE
  by_cases h8 : 8 ≤ b.length
  · obtain ⟨t, z, n, u, l, rfl, ht, hz', hn, hl⟩ := mb_shape hr h8
    rw [mbapP_B hd ht hz' hn] at h
    split at h
    · cases h
    split at h
    · cases h
    split at h
    · cases h
    split at h
    · cases h
    rename_i h1 h2 h3 h4
    simp only [decide_eq_true_eq] at h1 h2
    simp only [bne_iff_ne, ne_eq, Decidable.not_not] at h3 h4
    cases hp : pduP dir l with
    | mk M E' =>
      rw [hp] at h
      have h : (if (E' != 0) = true then ((Frm.zero, E') : Frm × Int) else (⟨_, _, M⟩, 0)) = (F, 0) := h
      split at h
      · rename_i h5
        injection h with _ h6
        subst h6
        cases h5
      · rename_i h5
        injection h with h6 _
        subst h6
        obtain rfl : E' = 0 := by simpa using h5
        have h7 := pdu_back hd hl hp
        rw [← hW]
        refine ⟨?_, h8, by rw [mbB_len]; omega⟩
        show mbapW dir u t M = _
        unfold mbapW
        rw [h7]
        show some ((putW [t, 0, ((l.length : Int) + 1) % 65536] ++ [u]) ++ l) = _
        rw [h3, h4, Int.emod_eq_of_lt (by omega) (by omega)]
        rfl
  · exfalso
    unfold mbapP at h
    split at h
    · cases h
    rw [if_pos (by simp only [decide_eq_true_eq]; omega)] at h
    cases h
theorem mbap_cut {dir u t : Int} {M : Msg} {b : List Int} (hd : dir = 0 ∨ dir = 1) (ht : 0 ≤ t ∧ t < 65536) (h : mbapW dir u t M = some b) {k : Nat} (hk : k < b.length) {F : Frm} {E : Int} (hP : mbapP dir (b.take k) = (F, E)) : E = 2 ∨ E = 5 := by
  obtain ⟨l, h1, rfl, h2⟩ := mbapW_some h
  rw [mbB_len] at hk
  by_cases h8 : k < 8
  · left
    unfold mbapP at hP
    rw [if_neg (show ¬ (dir != 0 && dir != 1) = true by rcases hd with rfl | rfl <;> decide)] at hP
    rw [if_pos (by simp only [decide_eq_true_eq, List.length_take]; omega)] at hP
    injection hP with _ h3
    exact h3.symm
  · right
    have h3 : (mbB t 0 ((l.length : Int) + 1) u l).take k = mbB t 0 ((l.length : Int) + 1) u (l.take (k - 7)) := by
      unfold mbB
      rw [List.take_append]
      have : (putW [t, 0, (l.length : Int) + 1] ++ [u]).length = 7 := rfl
      rw [this, List.take_of_length_le (by rw [this]; omega)]
    rw [h3, mbapP_B hd ht (by decide) (by omega)] at hP
    have h4 : (l.take (k - 7)).length = k - 7 := by rw [List.length_take]; omega
    rw [h4] at hP
    rw [if_neg (by simp only [decide_eq_true_eq]; omega), if_neg (by simp only [decide_eq_true_eq]; omega), if_neg (by decide), if_pos (by simp only [bne_iff_ne, ne_eq]; omega)] at hP
    injection hP with _ h5
    exact h5.symm
theorem mbap_more {dir u t : Int} {M : Msg} {b m : List Int} (hd : dir = 0 ∨ dir = 1) (hc : 0 ≤ M.code ∧ M.code < 256) (ht : 0 ≤ t ∧ t < 65536) (h : mbapW dir u t M = some b) (hm : 0 < m.length) {F : Frm} {E : Int} (hP : mbapP dir (b ++ m) = (F, E)) : E = 5 ∨ E = 3 := by
  obtain ⟨l, h1, rfl, h2⟩ := mbapW_some h
  have h0 := pduW_pos hc h1
  have h3 : mbB t 0 ((l.length : Int) + 1) u l ++ m = mbB t 0 ((l.length : Int) + 1) u (l ++ m) := by simp [mbB]
  rw [h3, mbapP_B hd ht (by decide) (by omega), List.length_append] at hP
  rw [if_neg (by simp only [decide_eq_true_eq]; omega)] at hP
  split at hP
  · injection hP with _ h5
    exact Or.inr h5.symm
  · rw [if_neg (by decide), if_pos (by simp only [bne_iff_ne, ne_eq]; omega)] at hP
    injection hP with _ h5
    exact Or.inl h5.symm
theorem mbap_tid {dir u t t' : Int} {M : Msg} {b b' : List Int} (h : mbapW dir u t M = some b) (h' : mbapW dir u t' M = some b') : b'.length = b.length ∧ b.drop 2 = b'.drop 2 ∧ b'.getD 0 0 = t' / 256 ∧ b'.getD 1 0 = t' % 256 := by
  obtain ⟨l, h1, rfl, h2⟩ := mbapW_some h
  obtain ⟨l', h1', rfl, h2'⟩ := mbapW_some h'
  obtain rfl : l = l' := Option.some.inj (h1.symm.trans h1')
  exact ⟨rfl, rfl, rfl, rfl⟩
theorem mbap_proto {dir u t p : Int} {M : Msg} {b : List Int} (hd : dir = 0 ∨ dir = 1) (hc : 0 ≤ M.code ∧ M.code < 256) (ht : 0 ≤ t ∧ t < 65536) (hp : 0 < p ∧ p < 256) (h : mbapW dir u t M = some b) {F : Frm} {E : Int} (hP : mbapP dir (b.set 3 p) = (F, E)) : (E == 13) = true := by
  obtain ⟨l, h1, rfl, h2⟩ := mbapW_some h
  have h0 := pduW_pos hc h1
  have h3 : (mbB t 0 ((l.length : Int) + 1) u l).set 3 p = mbB t p ((l.length : Int) + 1) u l := by
    show [t / 256, t % 256, 0, p, _, _, u] ++ l = [t / 256, t % 256, p / 256, p % 256, _, _, u] ++ l
    rw [show p / 256 = 0 by omega, show p % 256 = p by omega]
  rw [h3, mbapP_B hd ht (by omega) (by omega)] at hP
  rw [if_neg (by simp only [decide_eq_true_eq]; omega), if_neg (by simp only [decide_eq_true_eq]; omega), if_pos (by simp only [bne_iff_ne, ne_eq]; omega)] at hP
  injection hP with _ h5
  subst h5
  rfl
theorem mbap_unit {dir u t : Int} {M : Msg} {b : List Int} (hc : 0 ≤ M.code ∧ M.code < 256) (h : mbapW dir u t M = some b) : b.getD 6 0 = u ∧ b.getD 2 0 = 0 ∧ b.getD 3 0 = 0 ∧ 256 * b.getD 4 0 + b.getD 5 0 = (b.length : Int) - 6 ∧ ((M.fail != 0) = false → b.getD 7 0 = M.code) := by
  obtain ⟨l, h1, rfl, h2⟩ := mbapW_some h
  refine ⟨rfl, rfl, rfl, ?_, fun hf => ?_⟩
  · rw [mbB_len]
    show 256 * (((l.length : Int) + 1) / 256) + ((l.length : Int) + 1) % 256 = _
    omega
  · have := first_ok hc h1 hf
    have h3 := pduW_pos hc h1
    cases l with
    | nil => simp at h3
    | cons a r => exact this
end Go.Proofs.YtgjlbabefogepaaGreat
namespace Go.Proofs.YtgjlbabefogepaaGreat
theorem take_one {b : List Int} {k : Nat} (hk : k < b.length) : b.take k ++ [b.getD k 0] = b.take (k + 1) := by
  rw [List.take_succ_eq_append_getElem hk, List.getD_eq_getElem?_getD, List.getElem?_eq_getElem hk]
  rfl
theorem getD_take2 {b : List Int} {i k : Nat} (h : i < k) : (b.take k).getD i 0 = b.getD i 0 := by
  rw [List.getD_eq_getElem?_getD, List.getD_eq_getElem?_getD, List.getElem?_take, if_pos h]
theorem smb_size {d s : Int} {b : List Int} {k : Nat} (h : 6 ≤ k) : (SM.mk d (b.take k) s).size = b.getD 4 0 * 256 + b.getD 5 0 := by
  unfold SM.size
  rw [getD_take2 (by omega), getD_take2 (by omega)]
theorem smb_step {d : Int} {b : List Int} {k : Nat} (hl : (b.length : Int) = 6 + (b.getD 4 0 * 256 + b.getD 5 0)) (h1 : 2 ≤ b.getD 4 0 * 256 + b.getD 5 0) (h2 : b.getD 4 0 * 256 + b.getD 5 0 ≤ 254) (hk : k + 1 < b.length) :
    (SM.mk d (b.take k) 0).byte (b.getD k 0) = (SM.mk d (b.take (k + 1)) 0, []) := by
  have e := byte_0 (T := SM.mk d (b.take k) 0) (c := b.getD k 0) (show ¬ (0 : Int) < 0 by omega)
  simp only [take_one (show k < b.length by omega)] at e
  refine e ?_
  have hlen : (b.take (k + 1)).length = k + 1 := by rw [List.length_take]; omega
  unfold SM.nx
  by_cases h6 : k + 1 < 6
  · rw [if_pos (by show (b.take (k + 1)).length < 6; omega)]
  · rw [if_neg (by show ¬ (b.take (k + 1)).length < 6; omega), smb_size (by omega), if_neg (by omega), if_neg (by omega), if_neg (by show ¬ ((b.take (k + 1)).length : Int) = _; omega)]
theorem smb_pre {d : Int} {b : List Int} (hl : (b.length : Int) = 6 + (b.getD 4 0 * 256 + b.getD 5 0)) (h1 : 2 ≤ b.getD 4 0 * 256 + b.getD 5 0) (h2 : b.getD 4 0 * 256 + b.getD 5 0 ≤ 254) :
    ∀ k, k < b.length → (SM.mk d (b.take k) 0, []) = (SM.mk d [] 0).feed (b.take k)
  | 0, _ => rfl
  | k + 1, hk => by
    have ih := smb_pre (d := d) hl h1 h2 k (by omega)
    exact sm_snoc0 (by omega) ih (smb_step hl h1 h2 hk)
theorem smb_whole {d : Int} {b : List Int} {F : Frm} {E : Int} (hl : (b.length : Int) = 6 + (b.getD 4 0 * 256 + b.getD 5 0)) (h1 : 2 ≤ b.getD 4 0 * 256 + b.getD 5 0) (h2 : b.getD 4 0 * 256 + b.getD 5 0 ≤ 254) (hP : mbapP d b = (F, E)) :
    (SM.mk d [] 0).feed b = (SM.mk d [] 0, [⟨E, F⟩]) := by
  obtain ⟨k, hk⟩ : ∃ k, b.length = k + 1 := ⟨b.length - 1, by omega⟩
  have ih := smb_pre (d := d) hl h1 h2 k (by omega)
  have ht : b.take (k + 1) = b := List.take_of_length_le (by omega)
  have hx : (SM.mk d (b.take k) 0).byte (b.getD k 0) = (SM.mk d [] 0, [⟨E, F⟩]) := by
    have e := byte_3 (T := SM.mk d (b.take k) 0) (c := b.getD k 0) (F := F) (E := E) (show ¬ (0 : Int) < 0 by omega)
    simp only [take_one (show k < b.length by omega)] at e
    refine e ?_ (by rw [ht]; exact hP)
    unfold SM.nx
    rw [if_neg (by show ¬ (b.take (k + 1)).length < 6; rw [ht]; omega), smb_size (by omega), if_neg (by omega), if_neg (by omega), if_pos (by show ((b.take (k + 1)).length : Int) = _; rw [ht]; omega)]
  have q := sm_snoc (by omega) ih hx
  rw [ht] at q
  exact q.symm
theorem smb_app2 {S S2 S3 : SM} {a b : List Int} {L L2 : List Ev} (h : S.feed a = (S2, L)) (hX : S2.feed b = (S3, L2)) : S.feed (a ++ b) = (S3, L ++ L2) := by
  have gen : ∀ (b : List Int) (T : SM) (K : List Ev), b.foldl (fun (p : SM × List Ev) c => ((p.1.byte c).1, p.2 ++ (p.1.byte c).2)) (T, K) = ((T.feed b).1, K ++ (T.feed b).2) := by
    intro b
    induction b with
    | nil => intro T K; simp [SM.feed]
    | cons c t ih =>
      intro T K
      unfold SM.feed
      rw [List.foldl_cons, List.foldl_cons, ih, ih]
      simp
  unfold SM.feed at h ⊢
  rw [List.foldl_append, h, gen, hX]
theorem smb_frame {dir u t : Int} {M : Msg} {b : List Int} (hd : dir = 0 ∨ dir = 1) (hM : (0 ≤ M.code ∧ M.code < 256) ∧ (0 ≤ M.fail ∧ M.fail < 256)) (ht : 0 ≤ t ∧ t < 65536) (h : mbapW dir u t M = some b) : (SM.mk dir [] 0).feed b = (SM.mk dir [] 0, [⟨0, ⟨u, t, M⟩⟩]) := by
  obtain ⟨_, _, _, h4, _⟩ := mbap_unit hM.1 h
  have h5 := mbapW_le hM.1 h
  exact smb_whole (by omega) (by omega) (by omega) (mbap_rt hd hM.1 hM.2 ht h)
theorem smb_proto {dir u t p : Int} {M : Msg} {b : List Int} {S2 : SM} {L : List Ev} (hd : dir = 0 ∨ dir = 1) (hM : (0 ≤ M.code ∧ M.code < 256) ∧ (0 ≤ M.fail ∧ M.fail < 256)) (ht : 0 ≤ t ∧ t < 65536) (hp : 0 < p ∧ p < 65536) (h : mbapW dir u t M = some b)
    (hX : (SM.mk dir [] 0).feed (((b.set 2 (p / 256)).set 3 (p % 256)) ++ b) = (S2, L)) : S2 = SM.mk dir [] 0 ∧ L = [⟨13, Frm.zero⟩, ⟨0, ⟨u, t, M⟩⟩] := by
  have hb := smb_frame hd hM ht h
  have h5 := mbapW_le hM.1 h
  obtain ⟨_, _, _, h4, _⟩ := mbap_unit hM.1 h
  obtain ⟨l, h1, e, h2⟩ := mbapW_some h
  have h0 := pduW_pos hM.1 h1
  have hq : mbapP dir ((b.set 2 (p / 256)).set 3 (p % 256)) = (Frm.zero, 13) := by
    have h3 : ((mbB t 0 ((l.length : Int) + 1) u l).set 2 (p / 256)).set 3 (p % 256) = mbB t p ((l.length : Int) + 1) u l := rfl
    rw [e, h3, mbapP_B hd ht (by omega) (by omega), if_neg (by simp only [decide_eq_true_eq]; omega), if_neg (by simp only [decide_eq_true_eq]; omega), if_pos (by simp only [bne_iff_ne, ne_eq]; omega)]
  have g4 : ((b.set 2 (p / 256)).set 3 (p % 256)).getD 4 0 = b.getD 4 0 := by
    simp only [List.getD_eq_getElem?_getD]
    rw [List.getElem?_set_ne (by decide), List.getElem?_set_ne (by decide)]
  have g5 : ((b.set 2 (p / 256)).set 3 (p % 256)).getD 5 0 = b.getD 5 0 := by
    simp only [List.getD_eq_getElem?_getD]
    rw [List.getElem?_set_ne (by decide), List.getElem?_set_ne (by decide)]
  have hw := smb_whole (d := dir) (b := (b.set 2 (p / 256)).set 3 (p % 256)) (F := Frm.zero) (E := 13) (by rw [g4, g5, List.length_set, List.length_set]; omega) (by rw [g4, g5]; omega) (by rw [g4, g5]; omega) hq
  rw [smb_app2 hw hb] at hX
  injection hX with e1 e2
  exact ⟨e1.symm, e2.symm⟩
end Go.Proofs.YtgjlbabefogepaaGreat
namespace Go.Proofs.YtgjlbabefogepaaGreat
open Go.RowKit
set_option maxRecDepth 100000 in
set_option maxHeartbeats 4000000 in
theorem lawSmbapProto {w : World} {ans : Bool} {p : Int} (hp : 0 ≤ p ∧ p < 65536) {u t : Int} {M : Msg} {xM : SL} {mM : Bool} (hM : MsgRd mM w (mcl M xM).toList M) (hbu : 0 ≤ u ∧ u < 256) (hbt : 0 ≤ t ∧ t < 65536) :
    Calls Tryz.prog 10 #[.bool ans, .agg (fcl u t M xM), .int .u16 p] w (PVal (.bool true) w) := by
 have hRM := hM.rngs
 obtain ⟨hcM, hdM⟩ := hRM
 refine en 97 Tryz.func10 rfl <| sg <| L0 <| Obx (fcl u t M xM) fun g10 w11 hg12 B13 hu14 => Pl 1 <| ng <| L0 <| Oc <| m1 (@awake21 _) fun w15 hu16 => Pl 1 <| nt <| sq <| ?_
 refine go <| Pl 1 <| ?_
 have r17 := ub hu16 B13
 refine L0 <| Ola r17 2 22 <| ?_
 have U18 := ut0 hu14 hu16
 have r19 := MsgRd.old hM U18
 refine L0 <| Oc <| m1 (few_any r19) fun w20 hu21 => Pl 1 <| nt <| sq <| sg <| Pl 3 <| cu 3 [21] 24 (((!(fewB M)) || (p == 0))) (fun K K23 => ?_) ?_
 refine bl 21 ((!(fewB M))) (fun q22 => ?_) (fun q22 => ?_)
 have q22n : (fewB M) = false := by simpa using q22
 exact Pl 3 <| ce K23 true (by rw [q22]; rfl)
 have q22n : (fewB M) = true := by simpa using q22
 exact Pl 3 <| ce K23 (p == 0) (by rw [q22]; rfl)
 refine nt <| ?_
 have U24 := ut0 U18 hu21
 refine cb (((!(fewB M)) || (p == 0))) (fun q25 => ?_) (fun q25 => ?_)
 refine sg <| Pl 2 <| nt <| rt <| tr <| rr (.bool true) <| ?_
 exact ⟨rfl, U24⟩
 have q25a := (or_f q25).1
 have q25b := (or_f q25).2
 have q25an : (fewB M) = true := by simpa using q25a
 have q25bp := ne_of_beqi q25b
 refine skn <| sg <| Pl 1 <| nt <| sq <| sg <| Pl 1 <| nt <| cb (ans) (fun q26 => ?_) (fun q26 => ?_)
 refine go <| Pl 1 <| ng <| Pl 1 <| ?_
 have r27 := ub hu21 r17
 refine L0 <| Olw r27 <| ?_
 have r28 := MsgRd.old r19 hu21
 refine wo (mbapW 1 u t M) (fun hX30 => ?_) (fun l29 hX30 => ?_)
 refine L0 <| Oc <| m1 (mbap_write_n hX30 r28 (fewB_few q25an) (by omega) (by omega)) fun w31 hu32 => Pl 5 <| ng <| Pl 1 <| L0 <| Oc <| e3 (smb_new 1 smbap_new1) fun g33 w34 hg35 hA36 hu37 => Pl 1 <| nt <| sq <| sg <| ?_
 refine Pl 11 <| nt <| c1 <| sg <| Pl 10 <| nt <| rt <| tr <| rr (.bool true) <| ?_
 have U38 := ut0 U24 hu32
 have U39 := ut0 U38 hu37
 exact ⟨rfl, U39⟩
 have hl40 := mbapW_le (r28.rngs).1 hX30
 refine L0 <| Oc <| so2 (mbap_write_s hX30 r28 (fewB_few q25an) (by omega) (by omega)) fun A45 cp46 w41 rd49 hl47 hm48 hu44 => Pl 5 <| ng <| Pl 1 <| L0 <| Oc <| e3 (smb_new 1 smbap_new1) fun g50 w51 hg52 hA53 hu54 => Pl 1 <| nt <| sq <| sg <| ?_
 refine Pl 11 <| nt <| ?_
 have U55 := ut0 U24 hu44
 have U56 := ut0 U55 hu54
 refine cb ((decide (((l29.length : Nat) : Int) < 8))) (fun q57 => ?_) (fun q57 => ?_)
 have q57p := of_decide_eq_true q57
 refine sg <| Pl 10 <| nt <| rt <| tr <| rr (.bool false) <| ?_
 have hs : false = true := by have y := mbapW_le hcM hX30; omega
 rw [hs]
 exact ⟨rfl, U56⟩
 have q57p := of_decide_eq_false q57
 refine skn <| sg <| L0 <| Olt (m := 0) (e := 5) #[] fun g58 w59 hg60 B61 hu62 => ?_
 have ow63 := litB hg60 (xs := []) (by as_aux_lemma => kernel_rfl) rng_nil (by (try simp only [List.length_cons, List.length_nil]); omega) B61
 refine Pl 1 <| ?_
 have U64 := ut0 hu54 hu62
 have r65 := own_stay rd49 U64 (fun x hx => not0) (fun _ _ h => h)
 refine L0 <| Oapp one_u8 (xs := ([])) (ys := l29) (.int .u8 0) 1 ow63 (r65).rd (by (try simp only [List.length_set, List.length_append, List.length_cons, List.length_nil, putW_length]); omega) hu62.size fun A66 cp67 w68 ho69 hu70 => ?_
 have ho71 : OwnB w51.heap.size w68 (.slice A66 l29.length cp67) l29 := ho69
 refine Pl 1 <| ng <| Pl 2 <| L0 <| Oe (.int .u16 (IntKind.u16.wrap (Int.tdiv p 256))) (.int .u16 (p / 256)) (congrArg (Value.int .u16) (u16_quo (by omega) (by omega))) <| Pl 1 <| x23 (RdB.at_ (ho71).rd 2 (by (try simp only [List.length_set, List.length_append]); omega)) fun b72 o73 hA74 hl75 hr76 => L0 <| Oix l29.length 2 hA74 (by (try simp only [List.length_set, List.length_append]); omega) <| L0 <| Orow one_u8 (j := 2) ho71 hA74 (by (try simp only [List.length_set, List.length_append]); omega) ((p / 256) % 256) (fun _ => ⟨rfl, by omega⟩) fun w77 ho78 hu79 => nt <| sq <| ?_
 refine go <| Pl 2 <| L0 <| Oe (.int .u16 (Int.tmod p 256)) (.int .u16 (p % 256)) (congrArg (Value.int .u16) (Int.tmod_eq_emod_of_nonneg (by omega))) <| Pl 1 <| x23 (RdB.at_ (ho78).rd 3 (by (try simp only [List.length_set, List.length_append]); omega)) fun b80 o81 hA82 hl83 hr84 => L0 <| Oix l29.length 3 hA82 (by (try simp only [List.length_set, List.length_append]); omega) <| L0 <| Orow one_u8 (j := 3) ho78 hA82 (by (try simp only [List.length_set, List.length_append]); omega) ((p % 256) % 256) (fun _ => ⟨rfl, by omega⟩) fun w85 ho86 hu87 => ng <| Pl 3 <| ?_
 have U88 := ut (Upd.mono (S' := (ob (some ⟨g58, 0, none⟩) ++ (ob A66 ++ []))) hu70 (all_app (fun x hx => Or.inl (by simp [hx])) all0)) hu79 (all_app (fun x hx => Or.inl (by simp [hx])) all0)
 have U89 := ut U88 hu87 (all_app (fun x hx => Or.inl (by simp [hx])) all0)
 have r90 := own_stay r65 U89 (fun x hx => (not_app ((rows_old rd49 hu54.size ow63) x hx) (not_app ((rows_old rd49 hu54.size ho71) x hx) not0))) (fun _ _ h => h)
 refine L0 <| Oapp one_u8 (xs := ((l29.set 2 ((p / 256) % 256)).set 3 ((p % 256) % 256))) (ys := l29) (.int .u8 0) 1 ho86 (r90).rd (by (try simp only [List.length_set, List.length_append, List.length_cons, List.length_nil, putW_length]); omega) (le (le (le hu62.size hu70.size) hu79.size) hu87.size) fun A91 cp92 w93 ho94 hu95 => ?_
 have U96 := ut hu62 hu70 (all_app (ob_new ow63 lr) all0)
 have U97 := ut U96 hu79 (all_app (ob_new ho71 lr) all0)
 have U98 := ut U97 hu87 (all_app (ob_new ho71 lr) all0)
 have U99 := ut U98 hu95 (all_app (ob_new ho71 lr) all0)
 have r100 := SmbAt.upd hA53 U99 not0 ob_none_not
 refine pr (SM.feed (SM.mk 1 [] 0) (((l29.set 2 ((p / 256) % 256)).set 3 ((p % 256) % 256)) ++ l29)) fun S101 L102 hX103 => ?_
 have hk114 := SM.feed_le r100.2.2.1 (RdB.range (ho94).rd) hX103
 refine L0 <| Oc (args := #[.pointer (some ⟨g50, 0, none⟩), .slice A91 ((((l29.set 2 ((p / 256) % 256)).set 3 ((p % 256) % 256)) ++ l29).length) cp92]) <| ?_
 refine (smb_feed_x hX103 r100 (ho94).rd (far_ne (not_old (SmbAt.lt hA53) lr ho94)) far_none (by simp only [List.length_set, List.length_append]; omega)).mono ?_
 rintro _ w108 ⟨v104, A105, cp106, n107, rfl, ho109, hA110, hat111, hn112, hu113⟩
 refine ⟨_, rfl, ?_⟩
 have hu115 : Upd [g50] w93 w108 := hu113
 have hk116 := SmbAt.le hA110
 have rd121 := ho109
 obtain ⟨A117, cp118, rfl, hl119, hm120⟩ := RdG.shape rd121.rd
 refine Pl 1 <| nt <| sq <| sg <| Pl 3 <| nt <| ?_
 have U122 := ut0 U56 hu62
 have U123 := ut U122 hu70 (all_app (ob_new ow63 U56.size) all0)
 have U124 := ut U123 hu79 (all_app (ob_new ho71 U56.size) all0)
 have U125 := ut U124 hu87 (all_app (ob_new ho71 U56.size) all0)
 have U126 := ut U125 hu95 (all_app (ob_new ho71 U56.size) all0)
 have U127 := u1 U126 hu115 (ni U55.size hg52)
 refine cb ((((L102.length : Nat) : Int) != 2)) (fun q128 => ?_) (fun q128 => ?_)
 have q128p := ne_of_bnei q128
 refine sg <| Pl 1 <| nt <| rt <| tr <| rr (.bool false) <| ?_
 have hs : false = true := by have hX := hX103; rw [show (p / 256) % 256 = p / 256 from by omega, show (p % 256) % 256 = p % 256 from by omega] at hX; obtain ⟨z1, z2⟩ := smb_proto (by decide) ⟨hcM, hdM⟩ hbt (by omega) hX30 hX; rw [z2] at q128; simp at q128
 rw [hs]
 exact ⟨rfl, U127⟩
 have q128p := eq_of_bnei q128
 refine skn <| sq <| Rg 22 (fun w' => w'.heap[g10]? = some (.cells (fcl u t M xM) 47 (0, 0))) fun w165 hu166 => ?_
 have U168 := ut0 hu44 hu54
 have U169 := ut0 U168 hu62
 have U170 := ut U169 hu70 (all_app (ob_new ow63 U168.size) all0)
 have U171 := ut U170 hu79 (all_app (ob_new ho71 U168.size) all0)
 have U172 := ut U171 hu87 (all_app (ob_new ho71 U168.size) all0)
 have U173 := ut U172 hu95 (all_app (ob_new ho71 U168.size) all0)
 have U174 := u1 U173 hu115 (ni hu44.size hg52)
 have U175 := ut0 U174 hu166
 have r176 := ub U175 r27
 refine hld r176 fun hS167 => Rt 0 hS167 <| Rt 1 hS167 <| Rt 2 hS167 <| ?_
 have r177 := own_stay rd121 hu166 (fun x hx => not0) (fun x cs q => evLow.upd hu166 apt_nil q)
 refine x64 (RdE.elt (OwnV.own r177).rd 0 (by (try simp only [List.length_set, List.length_append]); omega) (Ev.bad 0)) fun b178 o179 cl180 t181 fr182 s183 hA184 hb185 hv186 hs187 => R0 3 rfl <| Oixs 25 L102.length 0 hA184 (by (try simp only [List.length_set, List.length_append]); omega) <| hld r176 fun hS188 => Rt 4 hS188 <| R0 5 rfl <| Old (p := ⟨b178, o179 + 0 * 25 + 0, none⟩) (v := .int .i64 ((L102.getD 0 (Ev.bad 0)).e)) (el_at hb185 hs187 0 (by kernel_rfl) (by decide)) <| hld r176 fun hS189 => Rt 6 hS189 <| Rt 7 hS189 <| Rt 8 hS189 <| ?_
 have U190 := ut0 U127 hu166
 refine bla 84 ((((L102.getD 0 (Ev.bad 0)).e) == 13)) (fun q191 => ?_) (fun q191 => ?_)
 have q191p := eq_of_beqi q191
 refine Rt 9 hS189 <| Rr 12 hS189 (.agg (fcl u t M xM)) (fun w' hs => lda_o (g := g10) (off := 0) [.int .u8 u, .int .u16 t, .int .u8 M.code, .int .u8 M.fail, .int .u16 M.addr, .int .u16 M.count, .int .u16 M.value, .int .u16 M.and_, .int .u16 M.or_, .int .u16 M.addr2, .int .u16 M.sub, .int .u16 M.status, .int .u16 M.events, .int .u16 M.messages, .slice xM.aw M.words.length xM.kw, .slice xM.ab M.bits.length xM.kb, .slice xM.ad M.data.length xM.kd, .slice xM.ar M.recs.length xM.kr, .int .u8 M.mei, .int .u8 M.kind, .int .u8 M.level, .int .u8 M.more, .int .u8 M.next, .slice xM.ao M.objects.length xM.ko] rfl (by kernel_rfl) hs (by kernel_rfl) (by kernel_rfl) rfl) <| Rt 13 hS189 <| x64 (RdE.elt (OwnV.own r177).rd 1 (by (try simp only [List.length_set, List.length_append]); omega) (Ev.bad 0)) fun b192 o193 cl194 t195 fr196 s197 hA198 hb199 hv200 hs201 => R0 10 rfl <| Oixs 25 L102.length 1 hA198 (by (try simp only [List.length_set, List.length_append]); omega) <| hld r176 fun hS202 => R0 11 rfl <| Oel [.int .i64 ((L102.getD 1 (Ev.bad 0)).e), .int .u8 ((L102.getD 1 (Ev.bad 0)).f.unit), .int .u16 ((L102.getD 1 (Ev.bad 0)).f.tid), .int .u8 ((L102.getD 1 (Ev.bad 0)).f.msg.code), .int .u8 ((L102.getD 1 (Ev.bad 0)).f.msg.fail), .int .u16 ((L102.getD 1 (Ev.bad 0)).f.msg.addr), .int .u16 ((L102.getD 1 (Ev.bad 0)).f.msg.count), .int .u16 ((L102.getD 1 (Ev.bad 0)).f.msg.value), .int .u16 ((L102.getD 1 (Ev.bad 0)).f.msg.and_), .int .u16 ((L102.getD 1 (Ev.bad 0)).f.msg.or_), .int .u16 ((L102.getD 1 (Ev.bad 0)).f.msg.addr2), .int .u16 ((L102.getD 1 (Ev.bad 0)).f.msg.sub), .int .u16 ((L102.getD 1 (Ev.bad 0)).f.msg.status), .int .u16 ((L102.getD 1 (Ev.bad 0)).f.msg.events), .int .u16 ((L102.getD 1 (Ev.bad 0)).f.msg.messages), .slice s197.aw ((L102.getD 1 (Ev.bad 0)).f.msg.words.length) s197.kw, .slice s197.ab ((L102.getD 1 (Ev.bad 0)).f.msg.bits.length) s197.kb, .slice s197.ad ((L102.getD 1 (Ev.bad 0)).f.msg.data.length) s197.kd, .slice s197.ar ((L102.getD 1 (Ev.bad 0)).f.msg.recs.length) s197.kr, .int .u8 ((L102.getD 1 (Ev.bad 0)).f.msg.mei), .int .u8 ((L102.getD 1 (Ev.bad 0)).f.msg.kind), .int .u8 ((L102.getD 1 (Ev.bad 0)).f.msg.level), .int .u8 ((L102.getD 1 (Ev.bad 0)).f.msg.more), .int .u8 ((L102.getD 1 (Ev.bad 0)).f.msg.next), .slice s197.ao ((L102.getD 1 (Ev.bad 0)).f.msg.objects.length) s197.ko] hb199 hs201 <| hld r176 fun hS203 => ?_
 have r204 := MsgRd.old r28 U175
 refine R0 14 rfl <| Oc <| m1 (same19_any (A := (L102.getD 1 (Ev.bad 0))) (B := (Ev.mk 0 ⟨u, t, M⟩)) (hv200.1) r204) fun w205 hu206 => ?_
 have r208 := ub hu206 r176
 refine hld r208 fun hS207 => Rt 15 hS207 <| Rt 16 hS207 <| ?_
 have U209 := ut0 U190 hu206
 refine bla 92 ((decide ((L102.getD 1 (Ev.bad 0)) = (Ev.mk 0 ⟨u, t, M⟩)))) (fun q210 => ?_) (fun q210 => ?_)
 have q210p := of_decide_eq_true q210
 refine Rt 17 hS207 <| ?_
 have U213 := ut0 hu166 hu206
 have r214 := SmbAt.upd hA110 U213 not0 (fun x hx => not0)
 refine R0 18 rfl <| Oc <| m1 (smb_held r214) fun w211 hu212 => ?_
 have r216 := ub hu212 r208
 refine hld r216 fun hS215 => Rt 19 hS215 <| Rt 20 hS215 <| Rt 21 hS215 <| re <| tn <| rt <| rr (.bool (((S101.held.length : Nat) : Int) == 0)) <| ?_
 have hs : (((S101.held.length : Nat) : Int) == 0) = true := by have hX := hX103; rw [show (p / 256) % 256 = p / 256 from by omega, show (p % 256) % 256 = p % 256 from by omega] at hX; obtain ⟨z1, z2⟩ := smb_proto (by decide) ⟨hcM, hdM⟩ hbt (by omega) hX30 hX; subst z1; subst z2; first | rfl | simp | decide
 rw [hs]
 have U217 := ut0 U209 hu212
 exact ⟨rfl, U217⟩
 have q210p := of_decide_eq_false q210
 refine Ro 17 hS207 <| Ro 18 hS207 <| Ro 19 hS207 <| Rt 20 hS207 <| Rt 21 hS207 <| re <| tn <| rt <| rr (.bool false) <| ?_
 have hs : false = true := by have hX := hX103; rw [show (p / 256) % 256 = p / 256 from by omega, show (p % 256) % 256 = p % 256 from by omega] at hX; obtain ⟨z1, z2⟩ := smb_proto (by decide) ⟨hcM, hdM⟩ hbt (by omega) hX30 hX; rw [z2] at q210; simp at q210
 rw [hs]
 exact ⟨rfl, U209⟩
 have q191p := ne_of_beqi q191
 refine Ro 9 hS189 <| Ro 10 hS189 <| Ro 11 hS189 <| Ro 12 hS189 <| Ro 13 hS189 <| Ro 14 hS189 <| Rt 15 hS189 <| Rt 16 hS189 <| Ro 17 hS189 <| Ro 18 hS189 <| Ro 19 hS189 <| Rt 20 hS189 <| Rt 21 hS189 <| re <| ?_
 refine tn <| rt <| rr (.bool false) <| ?_
 have hs : false = true := by have hX := hX103; rw [show (p / 256) % 256 = p / 256 from by omega, show (p % 256) % 256 = p % 256 from by omega] at hX; obtain ⟨z1, z2⟩ := smb_proto (by decide) ⟨hcM, hdM⟩ hbt (by omega) hX30 hX; rw [z2] at q191; simp at q191
 rw [hs]
 exact ⟨rfl, U190⟩
 refine skn <| sg <| Pl 1 <| ?_
 have r218 := ub hu21 r17
 refine L0 <| Olw r218 <| ?_
 have r219 := MsgRd.old r19 hu21
 refine wo (mbapW 0 u t M) (fun hX221 => ?_) (fun l220 hX221 => ?_)
 refine L0 <| Oc <| m1 (mbap_write_n hX221 r219 (fewB_few q25an) (by omega) (by omega)) fun w222 hu223 => Pl 5 <| ng <| Pl 1 <| L0 <| Oc <| e3 (smb_new 0 smbap_new0) fun g224 w225 hg226 hA227 hu228 => Pl 1 <| nt <| sq <| sg <| ?_
 refine Pl 11 <| nt <| c1 <| sg <| Pl 10 <| nt <| rt <| tr <| rr (.bool true) <| ?_
 have U229 := ut0 U24 hu223
 have U230 := ut0 U229 hu228
 exact ⟨rfl, U230⟩
 have hl231 := mbapW_le (r219.rngs).1 hX221
 refine L0 <| Oc <| so2 (mbap_write_s hX221 r219 (fewB_few q25an) (by omega) (by omega)) fun A236 cp237 w232 rd240 hl238 hm239 hu235 => Pl 5 <| ng <| Pl 1 <| L0 <| Oc <| e3 (smb_new 0 smbap_new0) fun g241 w242 hg243 hA244 hu245 => Pl 1 <| nt <| sq <| sg <| ?_
 refine Pl 11 <| nt <| ?_
 have U246 := ut0 U24 hu235
 have U247 := ut0 U246 hu245
 refine cb ((decide (((l220.length : Nat) : Int) < 8))) (fun q248 => ?_) (fun q248 => ?_)
 have q248p := of_decide_eq_true q248
 refine sg <| Pl 10 <| nt <| rt <| tr <| rr (.bool false) <| ?_
 have hs : false = true := by have y := mbapW_le hcM hX221; omega
 rw [hs]
 exact ⟨rfl, U247⟩
 have q248p := of_decide_eq_false q248
 refine skn <| sg <| L0 <| Olt (m := 0) (e := 5) #[] fun g249 w250 hg251 B252 hu253 => ?_
 have ow254 := litB hg251 (xs := []) (by as_aux_lemma => kernel_rfl) rng_nil (by (try simp only [List.length_cons, List.length_nil]); omega) B252
 refine Pl 1 <| ?_
 have U255 := ut0 hu245 hu253
 have r256 := own_stay rd240 U255 (fun x hx => not0) (fun _ _ h => h)
 refine L0 <| Oapp one_u8 (xs := ([])) (ys := l220) (.int .u8 0) 1 ow254 (r256).rd (by (try simp only [List.length_set, List.length_append, List.length_cons, List.length_nil, putW_length]); omega) hu253.size fun A257 cp258 w259 ho260 hu261 => ?_
 have ho262 : OwnB w242.heap.size w259 (.slice A257 l220.length cp258) l220 := ho260
 refine Pl 1 <| ng <| Pl 2 <| L0 <| Oe (.int .u16 (IntKind.u16.wrap (Int.tdiv p 256))) (.int .u16 (p / 256)) (congrArg (Value.int .u16) (u16_quo (by omega) (by omega))) <| Pl 1 <| x23 (RdB.at_ (ho262).rd 2 (by (try simp only [List.length_set, List.length_append]); omega)) fun b263 o264 hA265 hl266 hr267 => L0 <| Oix l220.length 2 hA265 (by (try simp only [List.length_set, List.length_append]); omega) <| L0 <| Orow one_u8 (j := 2) ho262 hA265 (by (try simp only [List.length_set, List.length_append]); omega) ((p / 256) % 256) (fun _ => ⟨rfl, by omega⟩) fun w268 ho269 hu270 => nt <| sq <| ?_
 refine go <| Pl 2 <| L0 <| Oe (.int .u16 (Int.tmod p 256)) (.int .u16 (p % 256)) (congrArg (Value.int .u16) (Int.tmod_eq_emod_of_nonneg (by omega))) <| Pl 1 <| x23 (RdB.at_ (ho269).rd 3 (by (try simp only [List.length_set, List.length_append]); omega)) fun b271 o272 hA273 hl274 hr275 => L0 <| Oix l220.length 3 hA273 (by (try simp only [List.length_set, List.length_append]); omega) <| L0 <| Orow one_u8 (j := 3) ho269 hA273 (by (try simp only [List.length_set, List.length_append]); omega) ((p % 256) % 256) (fun _ => ⟨rfl, by omega⟩) fun w276 ho277 hu278 => ng <| Pl 3 <| ?_
 have U279 := ut (Upd.mono (S' := (ob (some ⟨g249, 0, none⟩) ++ (ob A257 ++ []))) hu261 (all_app (fun x hx => Or.inl (by simp [hx])) all0)) hu270 (all_app (fun x hx => Or.inl (by simp [hx])) all0)
 have U280 := ut U279 hu278 (all_app (fun x hx => Or.inl (by simp [hx])) all0)
 have r281 := own_stay r256 U280 (fun x hx => (not_app ((rows_old rd240 hu245.size ow254) x hx) (not_app ((rows_old rd240 hu245.size ho262) x hx) not0))) (fun _ _ h => h)
 refine L0 <| Oapp one_u8 (xs := ((l220.set 2 ((p / 256) % 256)).set 3 ((p % 256) % 256))) (ys := l220) (.int .u8 0) 1 ho277 (r281).rd (by (try simp only [List.length_set, List.length_append, List.length_cons, List.length_nil, putW_length]); omega) (le (le (le hu253.size hu261.size) hu270.size) hu278.size) fun A282 cp283 w284 ho285 hu286 => ?_
 have U287 := ut hu253 hu261 (all_app (ob_new ow254 lr) all0)
 have U288 := ut U287 hu270 (all_app (ob_new ho262 lr) all0)
 have U289 := ut U288 hu278 (all_app (ob_new ho262 lr) all0)
 have U290 := ut U289 hu286 (all_app (ob_new ho262 lr) all0)
 have r291 := SmbAt.upd hA244 U290 not0 ob_none_not
 refine pr (SM.feed (SM.mk 0 [] 0) (((l220.set 2 ((p / 256) % 256)).set 3 ((p % 256) % 256)) ++ l220)) fun S292 L293 hX294 => ?_
 have hk305 := SM.feed_le r291.2.2.1 (RdB.range (ho285).rd) hX294
 refine L0 <| Oc (args := #[.pointer (some ⟨g241, 0, none⟩), .slice A282 ((((l220.set 2 ((p / 256) % 256)).set 3 ((p % 256) % 256)) ++ l220).length) cp283]) <| ?_
 refine (smb_feed_x hX294 r291 (ho285).rd (far_ne (not_old (SmbAt.lt hA244) lr ho285)) far_none (by simp only [List.length_set, List.length_append]; omega)).mono ?_
 rintro _ w299 ⟨v295, A296, cp297, n298, rfl, ho300, hA301, hat302, hn303, hu304⟩
 refine ⟨_, rfl, ?_⟩
 have hu306 : Upd [g241] w284 w299 := hu304
 have hk307 := SmbAt.le hA301
 have rd312 := ho300
 obtain ⟨A308, cp309, rfl, hl310, hm311⟩ := RdG.shape rd312.rd
 refine Pl 1 <| nt <| sq <| sg <| Pl 3 <| nt <| ?_
 have U313 := ut0 U247 hu253
 have U314 := ut U313 hu261 (all_app (ob_new ow254 U247.size) all0)
 have U315 := ut U314 hu270 (all_app (ob_new ho262 U247.size) all0)
 have U316 := ut U315 hu278 (all_app (ob_new ho262 U247.size) all0)
 have U317 := ut U316 hu286 (all_app (ob_new ho262 U247.size) all0)
 have U318 := u1 U317 hu306 (ni U246.size hg243)
 refine cb ((((L293.length : Nat) : Int) != 2)) (fun q319 => ?_) (fun q319 => ?_)
 have q319p := ne_of_bnei q319
 refine sg <| Pl 1 <| nt <| rt <| tr <| rr (.bool false) <| ?_
 have hs : false = true := by have hX := hX294; rw [show (p / 256) % 256 = p / 256 from by omega, show (p % 256) % 256 = p % 256 from by omega] at hX; obtain ⟨z1, z2⟩ := smb_proto (by decide) ⟨hcM, hdM⟩ hbt (by omega) hX221 hX; rw [z2] at q319; simp at q319
 rw [hs]
 exact ⟨rfl, U318⟩
 have q319p := eq_of_bnei q319
 refine skn <| sq <| Rg 22 (fun w' => w'.heap[g10]? = some (.cells (fcl u t M xM) 47 (0, 0))) fun w356 hu357 => ?_
 have U359 := ut0 hu235 hu245
 have U360 := ut0 U359 hu253
 have U361 := ut U360 hu261 (all_app (ob_new ow254 U359.size) all0)
 have U362 := ut U361 hu270 (all_app (ob_new ho262 U359.size) all0)
 have U363 := ut U362 hu278 (all_app (ob_new ho262 U359.size) all0)
 have U364 := ut U363 hu286 (all_app (ob_new ho262 U359.size) all0)
 have U365 := u1 U364 hu306 (ni hu235.size hg243)
 have U366 := ut0 U365 hu357
 have r367 := ub U366 r218
 refine hld r367 fun hS358 => Rt 0 hS358 <| Rt 1 hS358 <| Rt 2 hS358 <| ?_
 have r368 := own_stay rd312 hu357 (fun x hx => not0) (fun x cs q => evLow.upd hu357 apt_nil q)
 refine x64 (RdE.elt (OwnV.own r368).rd 0 (by (try simp only [List.length_set, List.length_append]); omega) (Ev.bad 0)) fun b369 o370 cl371 t372 fr373 s374 hA375 hb376 hv377 hs378 => R0 3 rfl <| Oixs 25 L293.length 0 hA375 (by (try simp only [List.length_set, List.length_append]); omega) <| hld r367 fun hS379 => Rt 4 hS379 <| R0 5 rfl <| Old (p := ⟨b369, o370 + 0 * 25 + 0, none⟩) (v := .int .i64 ((L293.getD 0 (Ev.bad 0)).e)) (el_at hb376 hs378 0 (by kernel_rfl) (by decide)) <| hld r367 fun hS380 => Rt 6 hS380 <| Rt 7 hS380 <| Rt 8 hS380 <| ?_
 have U381 := ut0 U318 hu357
 refine bla 84 ((((L293.getD 0 (Ev.bad 0)).e) == 13)) (fun q382 => ?_) (fun q382 => ?_)
 have q382p := eq_of_beqi q382
 refine Rt 9 hS380 <| Rr 12 hS380 (.agg (fcl u t M xM)) (fun w' hs => lda_o (g := g10) (off := 0) [.int .u8 u, .int .u16 t, .int .u8 M.code, .int .u8 M.fail, .int .u16 M.addr, .int .u16 M.count, .int .u16 M.value, .int .u16 M.and_, .int .u16 M.or_, .int .u16 M.addr2, .int .u16 M.sub, .int .u16 M.status, .int .u16 M.events, .int .u16 M.messages, .slice xM.aw M.words.length xM.kw, .slice xM.ab M.bits.length xM.kb, .slice xM.ad M.data.length xM.kd, .slice xM.ar M.recs.length xM.kr, .int .u8 M.mei, .int .u8 M.kind, .int .u8 M.level, .int .u8 M.more, .int .u8 M.next, .slice xM.ao M.objects.length xM.ko] rfl (by kernel_rfl) hs (by kernel_rfl) (by kernel_rfl) rfl) <| Rt 13 hS380 <| x64 (RdE.elt (OwnV.own r368).rd 1 (by (try simp only [List.length_set, List.length_append]); omega) (Ev.bad 0)) fun b383 o384 cl385 t386 fr387 s388 hA389 hb390 hv391 hs392 => R0 10 rfl <| Oixs 25 L293.length 1 hA389 (by (try simp only [List.length_set, List.length_append]); omega) <| hld r367 fun hS393 => R0 11 rfl <| Oel [.int .i64 ((L293.getD 1 (Ev.bad 0)).e), .int .u8 ((L293.getD 1 (Ev.bad 0)).f.unit), .int .u16 ((L293.getD 1 (Ev.bad 0)).f.tid), .int .u8 ((L293.getD 1 (Ev.bad 0)).f.msg.code), .int .u8 ((L293.getD 1 (Ev.bad 0)).f.msg.fail), .int .u16 ((L293.getD 1 (Ev.bad 0)).f.msg.addr), .int .u16 ((L293.getD 1 (Ev.bad 0)).f.msg.count), .int .u16 ((L293.getD 1 (Ev.bad 0)).f.msg.value), .int .u16 ((L293.getD 1 (Ev.bad 0)).f.msg.and_), .int .u16 ((L293.getD 1 (Ev.bad 0)).f.msg.or_), .int .u16 ((L293.getD 1 (Ev.bad 0)).f.msg.addr2), .int .u16 ((L293.getD 1 (Ev.bad 0)).f.msg.sub), .int .u16 ((L293.getD 1 (Ev.bad 0)).f.msg.status), .int .u16 ((L293.getD 1 (Ev.bad 0)).f.msg.events), .int .u16 ((L293.getD 1 (Ev.bad 0)).f.msg.messages), .slice s388.aw ((L293.getD 1 (Ev.bad 0)).f.msg.words.length) s388.kw, .slice s388.ab ((L293.getD 1 (Ev.bad 0)).f.msg.bits.length) s388.kb, .slice s388.ad ((L293.getD 1 (Ev.bad 0)).f.msg.data.length) s388.kd, .slice s388.ar ((L293.getD 1 (Ev.bad 0)).f.msg.recs.length) s388.kr, .int .u8 ((L293.getD 1 (Ev.bad 0)).f.msg.mei), .int .u8 ((L293.getD 1 (Ev.bad 0)).f.msg.kind), .int .u8 ((L293.getD 1 (Ev.bad 0)).f.msg.level), .int .u8 ((L293.getD 1 (Ev.bad 0)).f.msg.more), .int .u8 ((L293.getD 1 (Ev.bad 0)).f.msg.next), .slice s388.ao ((L293.getD 1 (Ev.bad 0)).f.msg.objects.length) s388.ko] hb390 hs392 <| hld r367 fun hS394 => ?_
 have r395 := MsgRd.old r219 U366
 refine R0 14 rfl <| Oc <| m1 (same19_any (A := (L293.getD 1 (Ev.bad 0))) (B := (Ev.mk 0 ⟨u, t, M⟩)) (hv391.1) r395) fun w396 hu397 => ?_
 have r399 := ub hu397 r367
 refine hld r399 fun hS398 => Rt 15 hS398 <| Rt 16 hS398 <| ?_
 have U400 := ut0 U381 hu397
 refine bla 92 ((decide ((L293.getD 1 (Ev.bad 0)) = (Ev.mk 0 ⟨u, t, M⟩)))) (fun q401 => ?_) (fun q401 => ?_)
 have q401p := of_decide_eq_true q401
 refine Rt 17 hS398 <| ?_
 have U404 := ut0 hu357 hu397
 have r405 := SmbAt.upd hA301 U404 not0 (fun x hx => not0)
 refine R0 18 rfl <| Oc <| m1 (smb_held r405) fun w402 hu403 => ?_
 have r407 := ub hu403 r399
 refine hld r407 fun hS406 => Rt 19 hS406 <| Rt 20 hS406 <| Rt 21 hS406 <| re <| tn <| rt <| rr (.bool (((S292.held.length : Nat) : Int) == 0)) <| ?_
 have hs : (((S292.held.length : Nat) : Int) == 0) = true := by have hX := hX294; rw [show (p / 256) % 256 = p / 256 from by omega, show (p % 256) % 256 = p % 256 from by omega] at hX; obtain ⟨z1, z2⟩ := smb_proto (by decide) ⟨hcM, hdM⟩ hbt (by omega) hX221 hX; subst z1; subst z2; first | rfl | simp | decide
 rw [hs]
 have U408 := ut0 U400 hu403
 exact ⟨rfl, U408⟩
 have q401p := of_decide_eq_false q401
 refine Ro 17 hS398 <| Ro 18 hS398 <| Ro 19 hS398 <| Rt 20 hS398 <| Rt 21 hS398 <| re <| tn <| rt <| rr (.bool false) <| ?_
 have hs : false = true := by have hX := hX294; rw [show (p / 256) % 256 = p / 256 from by omega, show (p % 256) % 256 = p % 256 from by omega] at hX; obtain ⟨z1, z2⟩ := smb_proto (by decide) ⟨hcM, hdM⟩ hbt (by omega) hX221 hX; rw [z2] at q401; simp at q401
 rw [hs]
 exact ⟨rfl, U400⟩
 have q382p := ne_of_beqi q382
 refine Ro 9 hS380 <| Ro 10 hS380 <| Ro 11 hS380 <| Ro 12 hS380 <| Ro 13 hS380 <| Ro 14 hS380 <| Rt 15 hS380 <| Rt 16 hS380 <| Ro 17 hS380 <| Ro 18 hS380 <| Ro 19 hS380 <| Rt 20 hS380 <| Rt 21 hS380 <| re <| ?_
 refine tn <| rt <| rr (.bool false) <| ?_
 have hs : false = true := by have hX := hX294; rw [show (p / 256) % 256 = p / 256 from by omega, show (p % 256) % 256 = p % 256 from by omega] at hX; obtain ⟨z1, z2⟩ := smb_proto (by decide) ⟨hcM, hdM⟩ hbt (by omega) hX221 hX; rw [z2] at q382; simp at q382
 rw [hs]
 exact ⟨rfl, U381⟩
end Go.Proofs.YtgjlbabefogepaaGreat
namespace Go.Proofs.YtgjlbabefogepaaGreat
open Go.ChangeShapes Go.WideShapes Go.ChangeAt Go.RowKit
theorem own : ownKnob Tryz.prog.godebug = none := by kernel_rfl
theorem laidOut : laidOutB Tryz.prog = true := by kernel_rfl
set_option maxRecDepth 100000 in
theorem lifted (os : Os) (started : os.Started) (H : Type) (enc : TypeId × Value → H) :
    ReturnsInHanded {} Tryz.checked os 10 .any (Rows.smbapProtoSpec.pre6 enc Tryz.prog Tryz.f10 Rows.smbapProtoRow.domain false) (Rows.smbapProtoSpec.post enc Tryz.prog Tryz.f10 false true false false) := by
  refine returnsInHanded_of_change (C := Tryz.checked) own started (by kernel_rfl) Tryz.func10
    (ChangeSpec.witness6 (enc := enc) (C := Tryz.checked) false ⟨#[], #[.bool false, .agg #[.int .u8 0, .int .u16 0, .int .u8 0, .int .u8 0, .int .u16 0, .int .u16 0, .int .u16 0, .int .u16 0, .int .u16 0, .int .u16 0, .int .u16 0, .int .u16 0, .int .u16 0, .int .u16 0, .slice none 0 0, .slice none 0 0, .slice none 0 0, .slice none 0 0, .int .u8 0, .int .u8 0, .int .u8 0, .int .u8 0, .int .u8 0, .slice none 0 0], .int .u16 0], []⟩ 8 (by kernel_rfl) (by kernel_rfl) (by kernel_rfl) (by kernel_rfl)) ?_
  intro W base args ds gs before hval0 hW hcnd _
  have hval : ∀ (j : Nat) t v, Tryz.f10.params[j]? = some t → args[j]? = some v → Value.okWide Tryz.prog W .any base t v := hval0
  have hW' := hW
  obtain ⟨p, q, hA0, hV, rfl, hfz, hnd⟩ := hW
  have hA : DataW.TrodAll enc Tryz.prog W 0 (fun _ => true) true Tryz.f10.params.toList args.toList ds p := hA0
  rw [Tryz.params10] at hA hval
  obtain ⟨v0, vs0, d0, ds0, p0, q0, hargs, rfl, rfl, h0, r0⟩ := trodAll_cons hA
  obtain ⟨v1, vs1, d1, ds1, p1, q1, rfl, rfl, rfl, h1, r1⟩ := trodAll_cons r0
  obtain ⟨v2, vs2, d2, ds2, p2, q2, rfl, rfl, rfl, h2, r2⟩ := trodAll_cons r1
  obtain ⟨rfl, rfl, rfl⟩ := trodAll_nil r2
  obtain rfl : args = #[v0, v1, v2] := by cases args; simp_all
  obtain ⟨rfl, rfl⟩ := trodVars_none hV
  obtain ⟨a0, rfl, rfl, rfl⟩ := open_bool Tryz.underlying4 (hval 0 4 v0 rfl rfl) h0
  have k1 := h1
  have lt1 : ∀ x ∈ p1, x.block < W.heap.size := by obtain ⟨m, hm⟩ := k1; exact DataW.trod_lt m _ _ _ hm
  obtain ⟨u1, t1, M1, x1, rfl, R1, bu1, bt1⟩ := frm_arg ⟨_, hval 1 47 v1 rfl rfl⟩ h1
  obtain ⟨a2, rfl, rfl, rfl, w2⟩ := open_int Tryz.underlying37 (hval 2 37 v2 rfl rfl) h2
  have b2 := bounds_u16 w2
  clear hA0 hval0
  refine (lawSmbapProto (ans := a0) (hp := (by omega)) R1 bu1 bt1).mono fun e W' ⟨he, hu⟩ => ?_
  have bel := upd_below hu
  subst he
  exact ⟨_, rfl, _, _, _, [], _, [], hW', trodAll_mk1 (shut_bool Tryz.underlying4 _), (trodAll_cons_mk (shut_bool Tryz.underlying4 _) (trodAll_cons_mk (Below.trod laidOut (by kernel_rfl) (of_decide_eq_true (by kernel_rfl)) k1 bel lt1) (trodAll_cons_mk (shut_int Tryz.underlying37 w2) trodAll_mk0))), rfl, bel.frame _, fun h => by cases h⟩
theorem over : Rows.smbapProtoRow.holds Tryz.pinned (OpenSpec.ofChange Rows.smbapProtoSpec) :=
  OpenClaim.holds_of_wide 10 Tryz.f10 rfl rfl rfl rfl rfl rfl rfl ⟨rfl, rfl, rfl, rfl, rfl⟩ rfl rfl rfl rfl rfl (by kernel_rfl) Tryz.func10 (by kernel_rfl)
    (of_decide_eq_true (by kernel_rfl)) (by unfold Func.isWrapper; first | (rw [if_pos (by decide +kernel)]; kernel_rfl) | (rw [if_neg (by decide +kernel)]; exact ⟨rfl, rfl⟩))
    (fun os started H enc _ => lifted os started H enc)
theorem proved : Rows.SmbapProtoSaid := over
#print axioms proved
end Go.Proofs.YtgjlbabefogepaaGreat
