/- The statement SmbapWrites holds; no condition of its own. -/
import Derived.Test.YtgjlbabefogepaaGreatKA1
import Derived.Test.YtgjlbabefogepaaGreatKA2
import Derived.Test.YtgjlbabefogepaaGreatKA3
import Derived.Test.YtgjlbabefogepaaGreatKA4
import Derived.Test.YtgjlbabefogepaaGreatKA5
import Derived.Test.YtgjlbabefogepaaGreatKB1
import Derived.Lib.AppendZeros
import Derived.Lib.AppendZerosOnto
import Derived.Laws.AppendOwn
import Derived.Test.YtgjlbabefogepaaGreatRows
import Derived.WalkKit
import Derived.ProofKit
import Derived.OpenShut
import Derived.ShutString
import Derived.ChangeOld
import Derived.Below
set_option linter.unusedVariables false
set_option linter.unusedSimpArgs false
namespace Go.Proofs.YtgjlbabefogepaaGreat
open Go.RowKit
def echoM (M : Msg) : Msg := { Msg.zero with code := M.code, addr := M.addr, count := M.count }
theorem echo_rd {m : Bool} {w : World} {cs : Array Value} {M : Msg} (h : MsgRd m w cs.toList M) (W : World) : MsgRd true W (mG M.code 0 M.addr M.count 0 0 0 0 0 0 0 0 nS nS nS nS 0 0 0 0 0 nS).toList (echoM M) := by
  obtain ⟨vw, vb, vd, vr, vo, h0, hw, hbt, hd, hr, ho, hR⟩ := h
  exact ⟨nilS, nilS, nilS, nilS, nilS, rfl, RdG.nil .., RdG.nil .., RdG.nil .., RdG.nil .., RdG.nil .., { MsgRng.zero with code := hR.code, addr := hR.addr, count := hR.count }⟩
theorem echo_few (M : Msg) : MsgFew (echoM M) := ⟨Nat.zero_le _, Nat.zero_le _, Nat.zero_le _, Nat.zero_le _, (fun r h => nomatch h), Nat.zero_le _, (fun r h => nomatch h)⟩
theorem rng_ac {m : Bool} {w : World} {cs : Array Value} {M : Msg} (h : MsgRd m w cs.toList M) : (0 ≤ M.addr ∧ M.addr < 65536) ∧ (0 ≤ M.count ∧ M.count < 65536) := by
  obtain ⟨vw, vb, vd, vr, vo, h0, hw, hbt, hd, hr, ho, hR⟩ := h
  exact ⟨hR.addr, hR.count⟩
theorem fail0 {M : Msg} {l : List Int} (h : pduW 0 M = some l) : M.fail = 0 := by
  unfold pduW at h
  split at h
  · rename_i hf
    rw [if_pos (by decide)] at h
    cases h
  · rename_i hf
    simpa using hf
theorem pduW_fam {M : Msg} (hf : M.fail = 0) (h : famW (cfam M.code) 0 M = famW (cfam M.code) 1 M) : pduW 0 M = pduW 1 M := by
  unfold pduW
  rw [hf, if_neg (by decide), if_neg (by decide), h]
theorem writeOf_eq {form : Int → Int → Cur → Option (Cur × Msg)} {lay : Int → Msg → List Int} {M : Msg} (h1 : ∀ C, form 0 M.code C = form 1 M.code C) (h2 : lay 0 M = lay 1 M) : writeOf (parseOf form) lay 0 M = writeOf (parseOf form) lay 1 M := by
  have h3 : ∀ b, parseOf form 0 M.code b = parseOf form 1 M.code b := fun b => by
    unfold parseOf
    rw [if_pos (Or.inl rfl), if_pos (Or.inr rfl), h1]
  unfold writeOf
  rw [h2, h3]
theorem filesB_21 : ∀ L, filesB 0 21 L = filesB 1 21 L
  | [] => rfl
  | r :: L => by
    show recB 0 21 r ++ filesB 0 21 L = recB 1 21 r ++ filesB 1 21 L
    rw [filesB_21 L]
    rfl
theorem echo_same {M : Msg} {l : List Int} (hc : M.code = 5 ∨ M.code = 6 ∨ M.code = 21 ∨ M.code = 22) (h : pduW 0 M = some l) : pduW 1 M = some l := by
  rw [← h]
  refine (pduW_fam (fail0 h) ?_).symm
  rcases hc with hc | hc | hc | hc
  · rw [hc]
    refine writeOf_eq (fun C => ?_) ?_
    · rw [hc]; rfl
    · unfold coilsLay; rw [hc]; rfl
  · rw [hc]
    refine writeOf_eq (fun C => ?_) ?_
    · rw [hc]; rfl
    · unfold regsLay; rw [hc]; rfl
  · rw [hc]
    refine writeOf_eq (fun C => ?_) ?_
    · rw [hc]; rfl
    · rw [filesLay_eq, filesLay_eq, hc, filesB_21]
  · rw [hc]
    refine writeOf_eq (fun C => ?_) ?_
    · rw [hc]; rfl
    · unfold regsLay; rw [hc]; rfl
theorem wd1 {a : Int} {r : List Int} (ha : 0 ≤ a ∧ a < 65536) : (Cur.mk (putW [a] ++ r) false 0).wordV = a ∧ (Cur.mk (putW [a] ++ r) false 0).wordsC 1 = ⟨r, false, 0⟩ := by
  have hb : (Cur.mk (putW [a] ++ r) false 0).wbad 1 = false := by
    unfold Cur.wbad
    simp only [putW, List.length_append, List.length_cons, List.length_nil, Bool.or_eq_false_iff, decide_eq_false_iff_not]
    omega
  have hf : (Cur.mk (putW [a] ++ r) false 0).fails (2 * 1) = false := by
    unfold Cur.fails
    simp [putW]
    omega
  constructor
  · unfold Cur.wordV Cur.wordsR Cur.bytesR
    rw [hb, hf]
    show (wordTake [a / 256, a % 256]).getD 0 0 = a
    unfold wordTake
    rw [if_pos (by simp)]
    show a / 256 * 256 + a % 256 = a
    omega
  · unfold Cur.wordsC Cur.bytesC
    rw [hb, hf]
    rfl
theorem need_t (C : Cur) (x : Int) : C.need true x = C := by
  unfold Cur.need
  rw [if_neg (by rintro ⟨_, h⟩; cases h)]
theorem wd2 {a n : Int} (ha : 0 ≤ a ∧ a < 65536) (hn : 0 ≤ n ∧ n < 65536) : (Cur.mk (putW [a, n]) false 0).wordV = a ∧ (Cur.mk (putW [a, n]) false 0).wordsC 1 = ⟨putW [n], false, 0⟩ ∧ (Cur.mk (putW [n]) false 0).wordV = n ∧ (Cur.mk (putW [n]) false 0).wordsC 1 = ⟨[], false, 0⟩ := by
  have h1 := wd1 (r := putW [n]) ha
  have h2 := wd1 (r := []) hn
  rw [List.append_nil] at h2
  exact ⟨h1.1, h1.2, h2.1, h2.2⟩
theorem asks_ok {a n most c : Int} (ha : 0 ≤ a ∧ a < 65536) (hn : 0 ≤ n ∧ n < 65536) (h1 : 1 ≤ n ∧ n ≤ most) (h2 : within a n = true) : asksR most c ⟨putW [a, n], false, 0⟩ = (⟨[], false, 0⟩, { Msg.zero with code := c, addr := a, count := n }) := by
  obtain ⟨e1, e2, e3, e4⟩ := wd2 ha hn
  unfold asksR spanC spanC1
  rw [e2, e1, e3, e4, h2, decide_eq_true h1.1, decide_eq_true h1.2]
  rw [show (true && true) = true from rfl, need_t, need_t]
theorem rasks_ok {a n most c : Int} (ha : 0 ≤ a ∧ a < 65536) (hn : 0 ≤ n ∧ n < 65536) (h1 : 1 ≤ n ∧ n ≤ most) (h2 : within a n = true) : rasksR most c ⟨putW [a, n], false, 0⟩ = (⟨[], false, 0⟩, { Msg.zero with code := c, addr := a, count := n }) := by
  obtain ⟨e1, e2, e3, e4⟩ := wd2 ha hn
  unfold rasksR rspanC
  rw [e2, e1, e3, e4, h2, decide_eq_true h1.1, decide_eq_true h1.2]
  rw [show (true && true) = true from rfl, need_t, need_t]
theorem span_e {C : Cur} {most : Int} (h : (spanC C most).e = 0) : (1 ≤ (C.wordsC 1).wordV ∧ (C.wordsC 1).wordV ≤ most) ∧ within C.wordV (C.wordsC 1).wordV = true := by
  obtain ⟨h1, h2⟩ := nd_ok (by decide) h
  obtain ⟨_, h3⟩ := nd_ok (by decide) h1
  simp only [Bool.and_eq_true, decide_eq_true_eq] at h3
  exact ⟨h3, h2⟩
theorem rspan_e {C : Cur} {a most : Int} (h : (rspanC C a most).e = 0) : (1 ≤ C.wordV ∧ C.wordV ≤ most) ∧ within a C.wordV = true := by
  obtain ⟨h1, h2⟩ := nd_ok (by decide) h
  obtain ⟨_, h3⟩ := nd_ok (by decide) h1
  simp only [Bool.and_eq_true, decide_eq_true_eq] at h3
  exact ⟨h3, h2⟩
theorem parse_fin {form : Int → Int → Cur → Option (Cur × Msg)} {dir c : Int} {b : List Int} {M : Msg} (hd : dir = 0 ∨ dir = 1) (h : parseOf form dir c b = (M, 0)) : ∃ C', form dir c ⟨b, false, 0⟩ = some (C', M) ∧ C'.endC.e = 0 := by
  unfold parseOf at h
  rw [if_pos hd] at h
  split at h
  · cases h
  · rename_i r hr
    unfold finish at h
    split at h
    · rename_i he
      injection h with h
      obtain ⟨C', M'⟩ := r
      have h : M' = M := h
      subst h
      exact ⟨C', hr, he⟩
    · rename_i he
      injection h with _ h
      exact absurd h he
theorem end0 {C : Cur} (h : C.endC.e = 0) : C.e = 0 := (nd_ok (by decide) h).1
theorem wo_e {C : Cur} {n : Int} (h : (C.wordsC n).e = 0) : C.e = 0 := by
  unfold Cur.wordsC at h
  split at h
  · exact (by_ok h).1
  · exact (by_ok h).1
theorem many_ok {M : Msg} {l : List Int} (hc : M.code = 15 ∨ M.code = 16) (h : pduW 0 M = some l) : (∃ r, l = [M.code] ++ (putW [M.addr, M.count] ++ r) ∧ 1 ≤ r.length) ∧ (1 ≤ M.count ∧ (M.code = 15 → M.count ≤ 1968) ∧ (M.code = 16 → M.count ≤ 123)) ∧ within M.addr M.count = true := by
  have hf := fail0 h
  unfold pduW at h
  rw [hf, if_neg (by decide)] at h
  split at h
  · cases h
  rename_i l' hl'
  split at h
  · cases h
  injection h with h
  subst h
  rcases hc with hc | hc
  · rw [hc] at hl' ⊢
    obtain ⟨h1, h2⟩ := writeOf_some (show writeOf parseCoils coilsLay 0 M = some l' from hl')
    rw [hc] at h1
    obtain ⟨C', h3, h4⟩ := parse_fin (Or.inl rfl) h1
    have h3 : some (csmR 15 ⟨l', false, 0⟩) = some (C', M) := h3
    obtain ⟨rfl, rfl⟩ := some_pair h3
    obtain ⟨h6, _⟩ := nd_ok (by decide) (end0 h4)
    obtain ⟨h7, _⟩ := nd_ok (by decide) (by_ok h6).1
    obtain ⟨h8, h9⟩ := span_e (by_ok h7).1
    refine ⟨⟨[((packB (csmR 15 ⟨l', false, 0⟩).2.bits).length : Int) % 256] ++ packB (csmR 15 ⟨l', false, 0⟩).2.bits, ?_, by simp⟩, ⟨h8.1, fun _ => h8.2, fun h => absurd h (by decide)⟩, h9⟩
    rw [← List.append_assoc (putW _)]
    exact congrArg _ h2
  · rw [hc] at hl' ⊢
    obtain ⟨h1, h2⟩ := writeOf_some (show writeOf parseRegs regsLay 0 M = some l' from hl')
    rw [hc] at h1
    obtain ⟨C', h3, h4⟩ := parse_fin (Or.inl rfl) h1
    have h3 : some (rmanyR 16 ⟨l', false, 0⟩) = some (C', M) := h3
    obtain ⟨rfl, rfl⟩ := some_pair h3
    have h6 : (rmanyC ⟨l', false, 0⟩).e = 0 := wo_e (end0 h4)
    obtain ⟨h7, _⟩ := nd_ok (by decide) h6
    obtain ⟨h8, h9⟩ := rspan_e (by_ok h7).1
    refine ⟨⟨[(2 * ((rmanyR 16 ⟨l', false, 0⟩).2.words.length : Int)) % 256] ++ putW (rmanyR 16 ⟨l', false, 0⟩).2.words, ?_, by simp⟩, ⟨h8.1, (fun h => absurd h (by decide)), fun _ => h8.2⟩, h9⟩
    rw [← List.append_assoc (putW _)]
    exact congrArg _ h2
theorem echo_cut {M : Msg} {l : List Int} (hc : M.code = 15 ∨ M.code = 16) (ha : 0 ≤ M.addr ∧ M.addr < 65536) (hn : 0 ≤ M.count ∧ M.count < 65536) (h : pduW 0 M = some l) : 6 ≤ l.length ∧ pduW 1 (echoM M) = some (l.take 5) := by
  obtain ⟨⟨r, rfl, hr⟩, ⟨h1, h2, h3⟩, h4⟩ := many_ok hc h
  refine ⟨by simp [putW]; omega, ?_⟩
  show pduW 1 (echoM M) = some ([M.code] ++ putW [M.addr, M.count])
  have hw : famW (cfam M.code) 1 (echoM M) = some (putW [M.addr, M.count]) := by
    rcases hc with hc | hc
    · rw [hc]
      have h5 := h2 hc
      refine writeOf_ok (parse := parseCoils) (lay := coilsLay) ?_ ?_
      · unfold coilsLay
        rw [show (echoM M).code = 15 from hc]
        rfl
      · show parseOf coilsForm 1 M.code _ = _
        rw [hc]
        unfold parseOf
        rw [if_pos (Or.inr rfl)]
        show finish (asksR 1968 15 ⟨putW [M.addr, M.count], false, 0⟩).2 (asksR 1968 15 ⟨putW [M.addr, M.count], false, 0⟩).1 = _
        rw [asks_ok ha hn ⟨h1, h5⟩ h4]
        show ((_ : Msg), (0 : Int)) = _
        unfold echoM
        rw [hc]
    · rw [hc]
      have h5 := h3 hc
      refine writeOf_ok (parse := parseRegs) (lay := regsLay) ?_ ?_
      · unfold regsLay
        rw [show (echoM M).code = 16 from hc]
        rfl
      · show parseOf regsForm 1 M.code _ = _
        rw [hc]
        unfold parseOf
        rw [if_pos (Or.inr rfl)]
        show finish (rasksR 123 16 ⟨putW [M.addr, M.count], false, 0⟩).2 (rasksR 123 16 ⟨putW [M.addr, M.count], false, 0⟩).1 = _
        rw [rasks_ok ha hn ⟨h1, h5⟩ h4]
        show ((_ : Msg), (0 : Int)) = _
        unfold echoM
        rw [hc]
  unfold pduW
  show (if ((0 : Int) != 0) = true then _ else match famW (cfam M.code) 1 (echoM M) with | none => none | some l => if decide (253 ≤ (l.length : Int)) then none else some ([M.code] ++ l)) = _
  rw [if_neg (by decide), hw]
  rfl
end Go.Proofs.YtgjlbabefogepaaGreat
namespace Go.Proofs.YtgjlbabefogepaaGreat
def mbB (t z n u : Int) (l : List Int) : List Int := (putW [t, z, n] ++ [u]) ++ l
theorem mbB_len (t z n u : Int) (l : List Int) : (mbB t z n u l).length = 7 + l.length := by simp [mbB, putW]; omega
theorem by1 (u : Int) (l : List Int) : (Cur.mk ([u] ++ l) false 0).byteV = u ∧ (Cur.mk ([u] ++ l) false 0).bytesC 1 = ⟨l, false, 0⟩ := by
  have hf : (Cur.mk ([u] ++ l) false 0).fails 1 = false := by
    unfold Cur.fails
    simp only [List.length_append, List.length_cons, List.length_nil, Bool.or_eq_false_iff, decide_eq_false_iff_not]
    refine ⟨⟨trivial, ?_⟩, ?_⟩ <;> omega
  constructor
  · unfold Cur.byteV Cur.bytesR
    rw [hf]
    rfl
  · unfold Cur.bytesC
    rw [hf]
    rfl
theorem all_bytes (l : List Int) : (Cur.mk l false 0).bytesR ((l.length : Nat) : Int) = l := by
  have hf : (Cur.mk l false 0).fails ((l.length : Nat) : Int) = false := by
    unfold Cur.fails
    simp only [Bool.or_eq_false_iff, decide_eq_false_iff_not]
    refine ⟨⟨trivial, ?_⟩, ?_⟩ <;> omega
  unfold Cur.bytesR
  rw [hf]
  show l.take (l.length : Int).toNat = l
  rw [Int.toNat_natCast, List.take_length]
theorem mb_parts {t z n u : Int} {l : List Int} (ht : 0 ≤ t ∧ t < 65536) (hz : 0 ≤ z ∧ z < 65536) (hn : 0 ≤ n ∧ n < 65536) :
    (mb0 (mbB t z n u l)).wordV = t ∧ (mb1 (mbB t z n u l)).wordV = z ∧ (mb2 (mbB t z n u l)).wordV = n ∧ (mb3 (mbB t z n u l)).byteV = u ∧ mbBody (mbB t z n u l) = l := by
  have h1 := wd1 (r := putW [z] ++ (putW [n] ++ ([u] ++ l))) ht
  have h2 := wd1 (r := putW [n] ++ ([u] ++ l)) hz
  have h3 := wd1 (r := [u] ++ l) hn
  have h4 := by1 u l
  have e0 : mb0 (mbB t z n u l) = ⟨putW [t] ++ (putW [z] ++ (putW [n] ++ ([u] ++ l))), false, 0⟩ := by simp [mb0, mbB, putW]
  have e1 : mb1 (mbB t z n u l) = ⟨putW [z] ++ (putW [n] ++ ([u] ++ l)), false, 0⟩ := by unfold mb1; rw [e0]; exact h1.2
  have e2 : mb2 (mbB t z n u l) = ⟨putW [n] ++ ([u] ++ l), false, 0⟩ := by unfold mb2; rw [e1]; exact h2.2
  have e3 : mb3 (mbB t z n u l) = ⟨[u] ++ l, false, 0⟩ := by unfold mb3; rw [e2]; exact h3.2
  have e4 : mb4 (mbB t z n u l) = ⟨l, false, 0⟩ := by unfold mb4; rw [e3]; exact h4.2
  refine ⟨by rw [e0]; exact h1.1, by rw [e1]; exact h2.1, by rw [e2]; exact h3.1, by rw [e3]; exact h4.1, ?_⟩
  unfold mbBody
  rw [e4]
  exact all_bytes l
theorem mbapP_B {dir t z n u : Int} {l : List Int} (hd : dir = 0 ∨ dir = 1) (ht : 0 ≤ t ∧ t < 65536) (hz : 0 ≤ z ∧ z < 65536) (hn : 0 ≤ n ∧ n < 65536) :
    mbapP dir (mbB t z n u l) = if decide ((7 + l.length : Int) < 8) then (Frm.zero, 2) else if decide (260 < (7 + l.length : Int)) then (Frm.zero, 3) else if z != 0 then (Frm.zero, 13) else if n != (l.length : Int) + 1 then (Frm.zero, 5) else frmOf u t (pduP dir l) := by
  obtain ⟨h0, h1, h2, h3, h4⟩ := mb_parts (u := u) (l := l) ht hz hn
  unfold mbapP
  rw [h0, h1, h2, h3, h4, mbB_len]
  rw [if_neg (show ¬ (dir != 0 && dir != 1) = true by rcases hd with rfl | rfl <;> decide)]
  rw [show ((7 + l.length : Nat) : Int) = 7 + (l.length : Int) by omega, show (7 + (l.length : Int)) - 6 = (l.length : Int) + 1 by omega]
theorem mbapW_some {dir u t : Int} {M : Msg} {b : List Int} (h : mbapW dir u t M = some b) : ∃ l, pduW dir M = some l ∧ b = mbB t 0 ((l.length : Int) + 1) u l ∧ l.length ≤ 253 := by
  unfold mbapW at h
  split at h
  · cases h
  · rename_i l hl
    have hle := pduW_len hl
    injection h with h
    refine ⟨l, hl, ?_, hle⟩
    rw [← h, Int.emod_eq_of_lt (by omega) (by omega)]
    rfl
theorem mbapW_le {dir u t : Int} {M : Msg} {b : List Int} (hc : 0 ≤ M.code ∧ M.code < 256) (h : mbapW dir u t M = some b) : 8 ≤ b.length ∧ b.length ≤ 260 := by
  obtain ⟨l, h1, rfl, h2⟩ := mbapW_some h
  have := pduW_pos hc h1
  rw [mbB_len]
  omega
theorem mbapW_none {dir u t u' t' : Int} {M : Msg} (h : mbapW dir u t M = none) : mbapW dir u' t' M = none := by
  unfold mbapW at h ⊢
  split at h
  · rename_i h1
    rfl
  · cases h
theorem mbap_rt {dir u t : Int} {M : Msg} {b : List Int} (hd : dir = 0 ∨ dir = 1) (hc : 0 ≤ M.code ∧ M.code < 256) (hf : 0 ≤ M.fail ∧ M.fail < 256) (ht : 0 ≤ t ∧ t < 65536) (h : mbapW dir u t M = some b) : mbapP dir b = (⟨u, t, M⟩, 0) := by
  obtain ⟨l, h1, rfl, h2⟩ := mbapW_some h
  have h3 := pduW_pos hc h1
  rw [mbapP_B hd ht (by decide) (by omega), pdu_rt hd hc hf h1]
  rw [if_neg (by simp only [decide_eq_true_eq]; omega), if_neg (by simp only [decide_eq_true_eq]; omega), if_neg (by decide), if_neg (by simp)]
  rfl
theorem putW3 {a b c d e f : Int} (ha : 0 ≤ a ∧ a < 256) (hb : 0 ≤ b ∧ b < 256) (hc : 0 ≤ c ∧ c < 256) (hd : 0 ≤ d ∧ d < 256) (he : 0 ≤ e ∧ e < 256) (hf : 0 ≤ f ∧ f < 256) : putW [a * 256 + b, c * 256 + d, e * 256 + f] = [a, b, c, d, e, f] := by
  simp only [putW]
  congr 1
  · omega
  congr 1
  · omega
  congr 1
  · omega
  congr 1
  · omega
  congr 1
  · omega
  congr 1
  omega
theorem mb_shape {b : List Int} (hr : ∀ x, x ∈ b → 0 ≤ x ∧ x < 256) (hl : 8 ≤ b.length) : ∃ t z n u l, b = mbB t z n u l ∧ (0 ≤ t ∧ t < 65536) ∧ (0 ≤ z ∧ z < 65536) ∧ (0 ≤ n ∧ n < 65536) ∧ ∀ x, x ∈ l → 0 ≤ x ∧ x < 256 := by
  match b, hr, hl with
  | a0 :: a1 :: a2 :: a3 :: a4 :: a5 :: u :: l, hr, _ =>
    have h0 := hr a0 (by simp)
    have h1 := hr a1 (by simp)
    have h2 := hr a2 (by simp)
    have h3 := hr a3 (by simp)
    have h4 := hr a4 (by simp)
    have h5 := hr a5 (by simp)
    refine ⟨a0 * 256 + a1, a2 * 256 + a3, a4 * 256 + a5, u, l, ?_, by omega, by omega, by omega, fun x hx => hr x (by simp [hx])⟩
    unfold mbB
    rw [putW3 h0 h1 h2 h3 h4 h5]
    rfl
theorem mbapP_few {dir : Int} {b : List Int} {F : Frm} {E : Int} (hr : ∀ x, x ∈ b → 0 ≤ x ∧ x < 256) (h : mbapP dir b = (F, E)) : MsgFew F.msg ∧ (E ≠ 0 → F = Frm.zero) := by
  have hz : ∀ k : Int, ((Frm.zero, k) : Frm × Int) = (F, E) → MsgFew F.msg ∧ (E ≠ 0 → F = Frm.zero) := fun k h => by
    injection h with h1 h2
    subst h1
    exact ⟨few_zero, fun _ => rfl⟩
  unfold mbapP at h
  split at h
  · exact hz _ h
  split at h
  · exact hz _ h
  split at h
  · exact hz _ h
  split at h
  · exact hz _ h
  split at h
  · exact hz _ h
  rename_i _ h8 _ _ _
  simp only [decide_eq_true_eq] at h8
  obtain ⟨t, z, n, u, l, rfl, ht, hz', hn, hl⟩ := mb_shape hr (by omega)
  obtain ⟨h0, h1, h2, h3, h4⟩ := mb_parts (u := u) (l := l) ht hz' hn
  rw [h4] at h
  cases hp : pduP dir l with
  | mk M E' =>
    rw [hp] at h
    obtain ⟨k1, k2⟩ := pduP_few hl hp
    have h : (if (E' != 0) = true then ((Frm.zero, E') : Frm × Int) else (⟨_, _, M⟩, 0)) = (F, E) := h
    split at h
    · exact hz _ h
    · injection h with h5 h6
      subst h5
      exact ⟨k1, fun hE => absurd h6.symm hE⟩
theorem mbap_back {dir : Int} {b : List Int} {F : Frm} {E : Int} {r : Option (List Int)} (hd : dir = 0 ∨ dir = 1) (hr : ∀ x, x ∈ b → 0 ≤ x ∧ x < 256) (h : mbapP dir b = (F, E)) (hE : (E == 0) = true) (hW : mbapW dir F.unit F.tid F.msg = r) : r = some b ∧ 8 ≤ b.length ∧ b.length ≤ 260 := by
  obtain rfl : E = 0 := by simpa using hE
  by_cases h8 : 8 ≤ b.length
  · obtain ⟨t, z, n, u, l, rfl, ht, hz', hn, hl⟩ := mb_shape hr h8
    rw [mbapP_B hd ht hz' hn] at h
    split at h
    · cases h
    split at h
    · cases h
    split at h
    · cases h
    split at h
    · cases h
    rename_i h1 h2 h3 h4
    simp only [decide_eq_true_eq] at h1 h2
    simp only [bne_iff_ne, ne_eq, Decidable.not_not] at h3 h4
    cases hp : pduP dir l with
    | mk M E' =>
      rw [hp] at h
      have h : (if (E' != 0) = true then ((Frm.zero, E') : Frm × Int) else (⟨_, _, M⟩, 0)) = (F, 0) := h
      split at h
      · rename_i h5
        injection h with _ h6
        subst h6
        cases h5
      · rename_i h5
        injection h with h6 _
        subst h6
        obtain rfl : E' = 0 := by simpa using h5
        have h7 := pdu_back hd hl hp
        rw [← hW]
        refine ⟨?_, h8, by rw [mbB_len]; omega⟩
        show mbapW dir u t M = _
        unfold mbapW
        rw [h7]
        show some ((putW [t, 0, ((l.length : Int) + 1) % 65536] ++ [u]) ++ l) = _
        rw [h3, h4, Int.emod_eq_of_lt (by omega) (by omega)]
        rfl
  · exfalso
    unfold mbapP at h
    split at h
    · cases h
    rw [if_pos (by simp only [decide_eq_true_eq]; omega)] at h
    cases h
theorem mbap_cut {dir u t : Int} {M : Msg} {b : List Int} (hd : dir = 0 ∨ dir = 1) (ht : 0 ≤ t ∧ t < 65536) (h : mbapW dir u t M = some b) {k : Nat} (hk : k < b.length) {F : Frm} {E : Int} (hP : mbapP dir (b.take k) = (F, E)) : E = 2 ∨ E = 5 := by
  obtain ⟨l, h1, rfl, h2⟩ := mbapW_some h
  rw [mbB_len] at hk
  by_cases h8 : k < 8
  · left
    unfold mbapP at hP
    rw [if_neg (show ¬ (dir != 0 && dir != 1) = true by rcases hd with rfl | rfl <;> decide)] at hP
    rw [if_pos (by simp only [decide_eq_true_eq, List.length_take]; omega)] at hP
    injection hP with _ h3
    exact h3.symm
  · right
    have h3 : (mbB t 0 ((l.length : Int) + 1) u l).take k = mbB t 0 ((l.length : Int) + 1) u (l.take (k - 7)) := by
      unfold mbB
      rw [List.take_append]
      have : (putW [t, 0, (l.length : Int) + 1] ++ [u]).length = 7 := rfl
      rw [this, List.take_of_length_le (by rw [this]; omega)]
    rw [h3, mbapP_B hd ht (by decide) (by omega)] at hP
    have h4 : (l.take (k - 7)).length = k - 7 := by rw [List.length_take]; omega
    rw [h4] at hP
    rw [if_neg (by simp only [decide_eq_true_eq]; omega), if_neg (by simp only [decide_eq_true_eq]; omega), if_neg (by decide), if_pos (by simp only [bne_iff_ne, ne_eq]; omega)] at hP
    injection hP with _ h5
    exact h5.symm
theorem mbap_more {dir u t : Int} {M : Msg} {b m : List Int} (hd : dir = 0 ∨ dir = 1) (hc : 0 ≤ M.code ∧ M.code < 256) (ht : 0 ≤ t ∧ t < 65536) (h : mbapW dir u t M = some b) (hm : 0 < m.length) {F : Frm} {E : Int} (hP : mbapP dir (b ++ m) = (F, E)) : E = 5 ∨ E = 3 := by
  obtain ⟨l, h1, rfl, h2⟩ := mbapW_some h
  have h0 := pduW_pos hc h1
  have h3 : mbB t 0 ((l.length : Int) + 1) u l ++ m = mbB t 0 ((l.length : Int) + 1) u (l ++ m) := by simp [mbB]
  rw [h3, mbapP_B hd ht (by decide) (by omega), List.length_append] at hP
  rw [if_neg (by simp only [decide_eq_true_eq]; omega)] at hP
  split at hP
  · injection hP with _ h5
    exact Or.inr h5.symm
  · rw [if_neg (by decide), if_pos (by simp only [bne_iff_ne, ne_eq]; omega)] at hP
    injection hP with _ h5
    exact Or.inl h5.symm
theorem mbap_tid {dir u t t' : Int} {M : Msg} {b b' : List Int} (h : mbapW dir u t M = some b) (h' : mbapW dir u t' M = some b') : b'.length = b.length ∧ b.drop 2 = b'.drop 2 ∧ b'.getD 0 0 = t' / 256 ∧ b'.getD 1 0 = t' % 256 := by
  obtain ⟨l, h1, rfl, h2⟩ := mbapW_some h
  obtain ⟨l', h1', rfl, h2'⟩ := mbapW_some h'
  obtain rfl : l = l' := Option.some.inj (h1.symm.trans h1')
  exact ⟨rfl, rfl, rfl, rfl⟩
theorem mbap_proto {dir u t p : Int} {M : Msg} {b : List Int} (hd : dir = 0 ∨ dir = 1) (hc : 0 ≤ M.code ∧ M.code < 256) (ht : 0 ≤ t ∧ t < 65536) (hp : 0 < p ∧ p < 256) (h : mbapW dir u t M = some b) {F : Frm} {E : Int} (hP : mbapP dir (b.set 3 p) = (F, E)) : (E == 13) = true := by
  obtain ⟨l, h1, rfl, h2⟩ := mbapW_some h
  have h0 := pduW_pos hc h1
  have h3 : (mbB t 0 ((l.length : Int) + 1) u l).set 3 p = mbB t p ((l.length : Int) + 1) u l := by
    show [t / 256, t % 256, 0, p, _, _, u] ++ l = [t / 256, t % 256, p / 256, p % 256, _, _, u] ++ l
    rw [show p / 256 = 0 by omega, show p % 256 = p by omega]
  rw [h3, mbapP_B hd ht (by omega) (by omega)] at hP
  rw [if_neg (by simp only [decide_eq_true_eq]; omega), if_neg (by simp only [decide_eq_true_eq]; omega), if_pos (by simp only [bne_iff_ne, ne_eq]; omega)] at hP
  injection hP with _ h5
  subst h5
  rfl
theorem mbap_unit {dir u t : Int} {M : Msg} {b : List Int} (hc : 0 ≤ M.code ∧ M.code < 256) (h : mbapW dir u t M = some b) : b.getD 6 0 = u ∧ b.getD 2 0 = 0 ∧ b.getD 3 0 = 0 ∧ 256 * b.getD 4 0 + b.getD 5 0 = (b.length : Int) - 6 ∧ ((M.fail != 0) = false → b.getD 7 0 = M.code) := by
  obtain ⟨l, h1, rfl, h2⟩ := mbapW_some h
  refine ⟨rfl, rfl, rfl, ?_, fun hf => ?_⟩
  · rw [mbB_len]
    show 256 * (((l.length : Int) + 1) / 256) + ((l.length : Int) + 1) % 256 = _
    omega
  · have := first_ok hc h1 hf
    have h3 := pduW_pos hc h1
    cases l with
    | nil => simp at h3
    | cons a r => exact this
end Go.Proofs.YtgjlbabefogepaaGreat
namespace Go.Proofs.YtgjlbabefogepaaGreat
theorem take_one {b : List Int} {k : Nat} (hk : k < b.length) : b.take k ++ [b.getD k 0] = b.take (k + 1) := by
  rw [List.take_succ_eq_append_getElem hk, List.getD_eq_getElem?_getD, List.getElem?_eq_getElem hk]
  rfl
theorem getD_take2 {b : List Int} {i k : Nat} (h : i < k) : (b.take k).getD i 0 = b.getD i 0 := by
  rw [List.getD_eq_getElem?_getD, List.getD_eq_getElem?_getD, List.getElem?_take, if_pos h]
theorem smb_size {d s : Int} {b : List Int} {k : Nat} (h : 6 ≤ k) : (SM.mk d (b.take k) s).size = b.getD 4 0 * 256 + b.getD 5 0 := by
  unfold SM.size
  rw [getD_take2 (by omega), getD_take2 (by omega)]
theorem smb_step {d : Int} {b : List Int} {k : Nat} (hl : (b.length : Int) = 6 + (b.getD 4 0 * 256 + b.getD 5 0)) (h1 : 2 ≤ b.getD 4 0 * 256 + b.getD 5 0) (h2 : b.getD 4 0 * 256 + b.getD 5 0 ≤ 254) (hk : k + 1 < b.length) :
    (SM.mk d (b.take k) 0).byte (b.getD k 0) = (SM.mk d (b.take (k + 1)) 0, []) := by
  have e := byte_0 (T := SM.mk d (b.take k) 0) (c := b.getD k 0) (show ¬ (0 : Int) < 0 by omega)
  simp only [take_one (show k < b.length by omega)] at e
  refine e ?_
  have hlen : (b.take (k + 1)).length = k + 1 := by rw [List.length_take]; omega
  unfold SM.nx
  by_cases h6 : k + 1 < 6
  · rw [if_pos (by show (b.take (k + 1)).length < 6; omega)]
  · rw [if_neg (by show ¬ (b.take (k + 1)).length < 6; omega), smb_size (by omega), if_neg (by omega), if_neg (by omega), if_neg (by show ¬ ((b.take (k + 1)).length : Int) = _; omega)]
theorem smb_pre {d : Int} {b : List Int} (hl : (b.length : Int) = 6 + (b.getD 4 0 * 256 + b.getD 5 0)) (h1 : 2 ≤ b.getD 4 0 * 256 + b.getD 5 0) (h2 : b.getD 4 0 * 256 + b.getD 5 0 ≤ 254) :
    ∀ k, k < b.length → (SM.mk d (b.take k) 0, []) = (SM.mk d [] 0).feed (b.take k)
  | 0, _ => rfl
  | k + 1, hk => by
    have ih := smb_pre (d := d) hl h1 h2 k (by omega)
    exact sm_snoc0 (by omega) ih (smb_step hl h1 h2 hk)
theorem smb_whole {d : Int} {b : List Int} {F : Frm} {E : Int} (hl : (b.length : Int) = 6 + (b.getD 4 0 * 256 + b.getD 5 0)) (h1 : 2 ≤ b.getD 4 0 * 256 + b.getD 5 0) (h2 : b.getD 4 0 * 256 + b.getD 5 0 ≤ 254) (hP : mbapP d b = (F, E)) :
    (SM.mk d [] 0).feed b = (SM.mk d [] 0, [⟨E, F⟩]) := by
  obtain ⟨k, hk⟩ : ∃ k, b.length = k + 1 := ⟨b.length - 1, by omega⟩
  have ih := smb_pre (d := d) hl h1 h2 k (by omega)
  have ht : b.take (k + 1) = b := List.take_of_length_le (by omega)
  have hx : (SM.mk d (b.take k) 0).byte (b.getD k 0) = (SM.mk d [] 0, [⟨E, F⟩]) := by
    have e := byte_3 (T := SM.mk d (b.take k) 0) (c := b.getD k 0) (F := F) (E := E) (show ¬ (0 : Int) < 0 by omega)
    simp only [take_one (show k < b.length by omega)] at e
    refine e ?_ (by rw [ht]; exact hP)
    unfold SM.nx
    rw [if_neg (by show ¬ (b.take (k + 1)).length < 6; rw [ht]; omega), smb_size (by omega), if_neg (by omega), if_neg (by omega), if_pos (by show ((b.take (k + 1)).length : Int) = _; rw [ht]; omega)]
  have q := sm_snoc (by omega) ih hx
  rw [ht] at q
  exact q.symm
theorem smb_app2 {S S2 S3 : SM} {a b : List Int} {L L2 : List Ev} (h : S.feed a = (S2, L)) (hX : S2.feed b = (S3, L2)) : S.feed (a ++ b) = (S3, L ++ L2) := by
  have gen : ∀ (b : List Int) (T : SM) (K : List Ev), b.foldl (fun (p : SM × List Ev) c => ((p.1.byte c).1, p.2 ++ (p.1.byte c).2)) (T, K) = ((T.feed b).1, K ++ (T.feed b).2) := by
    intro b
    induction b with
    | nil => intro T K; simp [SM.feed]
    | cons c t ih =>
      intro T K
      unfold SM.feed
      rw [List.foldl_cons, List.foldl_cons, ih, ih]
      simp
  unfold SM.feed at h ⊢
  rw [List.foldl_append, h, gen, hX]
theorem smb_frame {dir u t : Int} {M : Msg} {b : List Int} (hd : dir = 0 ∨ dir = 1) (hM : (0 ≤ M.code ∧ M.code < 256) ∧ (0 ≤ M.fail ∧ M.fail < 256)) (ht : 0 ≤ t ∧ t < 65536) (h : mbapW dir u t M = some b) : (SM.mk dir [] 0).feed b = (SM.mk dir [] 0, [⟨0, ⟨u, t, M⟩⟩]) := by
  obtain ⟨_, _, _, h4, _⟩ := mbap_unit hM.1 h
  have h5 := mbapW_le hM.1 h
  exact smb_whole (by omega) (by omega) (by omega) (mbap_rt hd hM.1 hM.2 ht h)
theorem smb_proto {dir u t p : Int} {M : Msg} {b : List Int} {S2 : SM} {L : List Ev} (hd : dir = 0 ∨ dir = 1) (hM : (0 ≤ M.code ∧ M.code < 256) ∧ (0 ≤ M.fail ∧ M.fail < 256)) (ht : 0 ≤ t ∧ t < 65536) (hp : 0 < p ∧ p < 65536) (h : mbapW dir u t M = some b)
    (hX : (SM.mk dir [] 0).feed (((b.set 2 (p / 256)).set 3 (p % 256)) ++ b) = (S2, L)) : S2 = SM.mk dir [] 0 ∧ L = [⟨13, Frm.zero⟩, ⟨0, ⟨u, t, M⟩⟩] := by
  have hb := smb_frame hd hM ht h
  have h5 := mbapW_le hM.1 h
  obtain ⟨_, _, _, h4, _⟩ := mbap_unit hM.1 h
  obtain ⟨l, h1, e, h2⟩ := mbapW_some h
  have h0 := pduW_pos hM.1 h1
  have hq : mbapP dir ((b.set 2 (p / 256)).set 3 (p % 256)) = (Frm.zero, 13) := by
    have h3 : ((mbB t 0 ((l.length : Int) + 1) u l).set 2 (p / 256)).set 3 (p % 256) = mbB t p ((l.length : Int) + 1) u l := rfl
    rw [e, h3, mbapP_B hd ht (by omega) (by omega), if_neg (by simp only [decide_eq_true_eq]; omega), if_neg (by simp only [decide_eq_true_eq]; omega), if_pos (by simp only [bne_iff_ne, ne_eq]; omega)]
  have g4 : ((b.set 2 (p / 256)).set 3 (p % 256)).getD 4 0 = b.getD 4 0 := by
    simp only [List.getD_eq_getElem?_getD]
    rw [List.getElem?_set_ne (by decide), List.getElem?_set_ne (by decide)]
  have g5 : ((b.set 2 (p / 256)).set 3 (p % 256)).getD 5 0 = b.getD 5 0 := by
    simp only [List.getD_eq_getElem?_getD]
    rw [List.getElem?_set_ne (by decide), List.getElem?_set_ne (by decide)]
  have hw := smb_whole (d := dir) (b := (b.set 2 (p / 256)).set 3 (p % 256)) (F := Frm.zero) (E := 13) (by rw [g4, g5, List.length_set, List.length_set]; omega) (by rw [g4, g5]; omega) (by rw [g4, g5]; omega) hq
  rw [smb_app2 hw hb] at hX
  injection hX with e1 e2
  exact ⟨e1.symm, e2.symm⟩
theorem cut_one {b : List Int} {k : Nat} (hk : k < b.length) : (b.take (k + 1)).drop k = [b.getD k 0] := by
  rw [← take_one hk, List.drop_append, List.drop_of_length_le (by rw [List.length_take]; omega), List.length_take]
  rw [show k - min k b.length = 0 by omega]
  rfl
theorem feed_one {S : SM} {c : Int} : S.feed [c] = S.byte c := by
  unfold SM.feed
  simp
theorem smb_wait {d u t : Int} {M : Msg} {l : List Int} {S S2 : SM} {L : List Ev} {k : Nat} (hd : d = 0 ∨ d = 1) (hM : (0 ≤ M.code ∧ M.code < 256) ∧ (0 ≤ M.fail ∧ M.fail < 256)) (ht : 0 ≤ t ∧ t < 65536) (h : mbapW d u t M = some l) (hk : k < l.length)
    (hS : (k < l.length → S = SM.mk d (l.take k) 0) ∧ (k = l.length → S = SM.mk d [] 0)) (hX : S.feed ((l.take (k + 1)).drop k) = (S2, L)) :
    (k + 1 < l.length → S2 = SM.mk d (l.take (k + 1)) 0 ∧ L = []) ∧ (k + 1 = l.length → S2 = SM.mk d [] 0 ∧ L = [⟨0, ⟨u, t, M⟩⟩]) := by
  obtain ⟨_, _, _, h4, _⟩ := mbap_unit hM.1 h
  have h5 := mbapW_le hM.1 h
  rw [hS.1 hk, cut_one hk, feed_one] at hX
  constructor
  · intro hk2
    rw [smb_step (by omega) (by omega) (by omega) hk2] at hX
    injection hX with e1 e2
    exact ⟨e1.symm, e2.symm⟩
  · intro hk2
    have hb := smb_frame hd hM ht h
    have ih := smb_pre (d := d) (b := l) (by omega) (by omega) (by omega) k hk
    have q := sm_snoc hk ih hX
    rw [hk2, List.take_of_length_le (Nat.le_refl _), hb] at q
    injection q with e1 e2
    exact ⟨e1, by simpa using e2⟩
theorem smb_skip {d : Int} : ∀ (k : Nat) (l : List Int), l.length = k → (SM.mk d [] (k : Int)).feed l = (SM.mk d [] 0, [])
  | 0, [], _ => rfl
  | 0, _ :: _, h => by simp at h
  | k + 1, [], h => by simp at h
  | k + 1, c :: t, h => by
    have e : (SM.mk d [] ((k + 1 : Nat) : Int)).feed [c] = (SM.mk d [] (k : Int), []) := by
      rw [feed_one, byte_skip (by show (0 : Int) < ((k + 1 : Nat) : Int); omega)]
      show (SM.mk d [] (((k + 1 : Nat) : Int) - 1), _) = _
      rw [show (((k + 1 : Nat) : Int) - 1) = (k : Int) by omega]
    have q := smb_app2 e (smb_skip k t (by simpa using h))
    simpa using q
theorem smb_head {d a b n : Int} (ha : a * 256 + b = n) (hn : 254 < n) : (SM.mk d [] 0).feed [7, 7, 0, 0, a, b] = (SM.mk d [] n, [Ev.bad 3]) := by
  have h5 : ∀ (l : List Int) (c : Int), l.length < 5 → (SM.mk d l 0).byte c = (SM.mk d (l ++ [c]) 0, []) := fun l c hl =>
    byte_0 (T := SM.mk d l 0) (c := c) (show ¬ (0 : Int) < 0 by omega) (by unfold SM.nx; rw [if_pos (by show (l ++ [c]).length < 6; rw [List.length_append, List.length_cons, List.length_nil]; omega)])
  have h6 : (SM.mk d [7, 7, 0, 0, a] 0).byte b = (SM.mk d [] n, [Ev.bad 3]) := by
    have e := byte_1 (T := SM.mk d [7, 7, 0, 0, a] 0) (c := b) (show ¬ (0 : Int) < 0 by omega)
    have hs : (SM.mk d ([7, 7, 0, 0, a] ++ [b]) 0).size = n := by
      unfold SM.size
      show a * 256 + b = n
      exact ha
    have e2 := e (by
      unfold SM.nx
      rw [hs, if_neg (by show ¬ ([7, 7, 0, 0, a] ++ [b]).length < 6; simp), if_pos hn])
    rw [e2]
    show (SM.mk d [] (SM.mk d ([7, 7, 0, 0, a] ++ [b]) 0).size, _) = _
    rw [hs]
  unfold SM.feed
  simp only [List.foldl_cons, List.foldl_nil]
  rw [h5 [] 7 (by simp)]
  simp only [List.nil_append]
  rw [h5 [7] 7 (by simp)]
  simp only [List.cons_append, List.nil_append]
  rw [h5 [7, 7] 0 (by simp)]
  simp only [List.cons_append, List.nil_append]
  rw [h5 [7, 7, 0] 0 (by simp)]
  simp only [List.cons_append, List.nil_append]
  rw [h5 [7, 7, 0, 0] a (by simp)]
  simp only [List.cons_append, List.nil_append, h6]
theorem smb_writes {dir u t a c n : Int} {k : Nat} {M : Msg} {b : List Int} {S2 : SM} {L : List Ev} (hd : dir = 0 ∨ dir = 1) (hM : (0 ≤ M.code ∧ M.code < 256) ∧ (0 ≤ M.fail ∧ M.fail < 256)) (ht : 0 ≤ t ∧ t < 65536) (h : mbapW dir u t M = some b) (ha : a * 256 + c = n) (hn : 254 < n) (hk : n = (k : Int))
    (hX : (SM.mk dir [] 0).feed (([7, 7, 0, 0, a, c] ++ List.replicate k 0) ++ b) = (S2, L)) : S2 = SM.mk dir [] 0 ∧ L = [Ev.bad 3, ⟨0, ⟨u, t, M⟩⟩] := by
  subst hk
  rw [smb_app2 (smb_app2 (smb_head ha hn) (smb_skip k (List.replicate k 0) (by simp))) (smb_frame hd hM ht h)] at hX
  injection hX with e1 e2
  exact ⟨e1.symm, e2.symm⟩
end Go.Proofs.YtgjlbabefogepaaGreat
namespace Go.Proofs.YtgjlbabefogepaaGreat
open Go.RowKit
theorem zc_list {z : Value} (hz : z.cells = #[z]) (k : Nat) : (Builtin.zeroCells z.cells k).toList = List.replicate k z := by
  rw [hz]
  have h : (Builtin.zeroCells #[z] k).toList = List.map (fun i => [z][i % 1]?.getD default) (List.range k) := by simp [Builtin.zeroCells]
  rw [h]
  refine List.eq_replicate_iff.2 ⟨by simp, fun b hb => ?_⟩
  obtain ⟨i, _, rfl⟩ := List.mem_map.1 hb
  simp [Nat.mod_one]
theorem run_append_zeros {P : Program} (w : World) (base : Nat) (t tn ty e : TypeId) (i : TypeInfo) (z : Value) (kq kn : IntKind) (ht : P.underlying t = some (.slice e)) (htn : P.underlying tn = some (.int kn)) (hi : P.info? e = some i) (hz : i.zero = some z)
    (hsize : i.size = 1) (hby : i.bytes ≤ 65536) (hzc : z.cells = #[z]) (hone : z.oneCell' = true) (v : Value) (n : Nat) (xs : List Value) (hown : w.ownsRow base e 1 v n xs) (k : Nat) (h0 : 0 < k) (h63 : n + k ≤ 4194304) (hbase : base ≤ w.heap.size) :
    ∃ v' w', (Builtin.append_ #[t, tn] ty #[v, .int kq (k : Int)]).run P w = .ok v' w' ∧ w'.ownsRow base e 1 v' (n + k) (xs ++ List.replicate k z) ∧ w.grownBy w' v.ownBlock := by
  have hlen : (xs ++ List.replicate k z).length = (n + k) * 1 := by rw [List.length_append, hown.1, List.length_replicate]; omega
  have hmx : n + k ≤ maxLen := by unfold maxLen; omega
  have hmul : (n + k) * i.bytes ≤ 140737488355328 := Nat.le_trans (Nat.mul_le_mul h63 hby) (by decide)
  have hmulk : k * i.bytes ≤ 281474976710656 := Nat.le_trans (Nat.mul_le_mul (show k ≤ 4194304 by omega) hby) (by decide)
  have hzl := zc_list hzc
  have grown : ∀ (old : Nat), old < n + k → ∀ (row : Option Nat),
      (w.drew.alloc (.cells (xs.toArray ++ Builtin.zeroCells z.cells k ++ Builtin.zeroCells z.cells (grownCap w (n + k) old e - (n + k))) e)).ownsRow base e 1
        (.slice (some ⟨w.heap.size, 0, none⟩) (n + k) (grownCap w (n + k) old e)) (n + k) (xs ++ List.replicate k z) ∧
      w.grownBy (w.drew.alloc (.cells (xs.toArray ++ Builtin.zeroCells z.cells k ++ Builtin.zeroCells z.cells (grownCap w (n + k) old e - (n + k))) e)) row := by
    intro old ho row
    have hge := grownCap_ge w (n + k) old e
    have hcm : grownCap w (n + k) old e ≤ maxLen := grownCap_le_maxLen w (n + k) old e hmx
    refine ⟨⟨hlen, .inr ⟨w.heap.size, _, _, rfl, hbase, heap_alloc_new w.drew _, hge, hcm, ?_, ?_⟩⟩, ⟨rfl, rfl, rfl, by simp, fun k hk _ => heap_alloc_old w.drew _ hk⟩⟩
    · simp only [Array.size_append, List.size_toArray, size_zeroCells, hzc, hown.1, List.size_toArray, List.length_cons, List.length_nil]
      omega
    · simp only [Array.toList_append, hzl]
      rw [← hlen]
      exact List.take_left
  rcases hown.2 with ⟨rfl, rfl⟩ | ⟨g, cap, cur, rfl, hbg, hg, hnc, hcm, hcs, htake⟩
  · have hx : xs = [] := List.eq_nil_of_length_eq_zero (by simpa using hown.1)
    subst hx
    have hr := Lib.run_append_nil_zeros (P := P) w t tn ty e i z kq kn ht htn hi hz k h0 (by omega) (by omega) hmulk
    have hgr := grown 0 (by omega) (Value.ownBlock (.slice none 0 0))
    simp only [Nat.zero_add, List.nil_append, Array.empty_append] at hgr ⊢
    exact ⟨_, _, hr, hgr.1, hgr.2⟩
  · by_cases hroom : n + k ≤ cap
    · have hst := run_storeCells_at P g (n * 1) e (List.replicate k z) 0 cur w hg (by rw [List.length_replicate, hcs]; omega) (fun u hu => by rw [(List.mem_replicate.1 hu).2]; exact hone)
      simp only [Nat.add_zero, Nat.mul_one] at hst
      have hw : IntKind.i64.wrap (k : Int) = k := by rw [IntKind.wrap_i64]; omega
      have hneg : ¬ ((k : Int) < 0) := by omega
      have h48i : ¬ (281474976710656 < (k : Int) * (i.bytes : Int)) := by
        rw [← Int.natCast_mul]
        omega
      have hns : ¬ (k = 0) := by omega
      have hr : (Builtin.append_ #[t, tn] ty #[.slice (some ⟨g, 0, none⟩) n cap, .int kq (k : Int)]).run P w = .ok (.slice (some ⟨g, 0, none⟩) (n + k) cap) (w.setRow g (cur.toList.take n ++ List.replicate k z ++ cur.toList.drop (n + (List.replicate k z).length)).toArray) := by
        simp [Builtin.append_, run_underlying ht, run_underlying htn, sizeOf, typeInfo, zeroValue, hi, hz, hsize, asInt, asIntOf, hw, hroom, hneg, hns, h48i, Addr.add_lit, hzl, hst]
        done
      refine ⟨_, _, hr, ⟨hlen, .inr ⟨g, cap, _, rfl, hbg, setRow_heap w g cur _ e _ hg, hroom, hcm, ?_, ?_⟩⟩, ⟨rfl, rfl, rfl, by simp, fun k _ hk => setRow_other w g k _ (fun e => hk (by simp [Value.ownBlock, e]))⟩⟩
      · simp only [List.size_toArray, List.length_append, List.length_take, List.length_drop, Array.length_toList, List.length_replicate]
        omega
      · have h1 : cur.toList.take n = xs := by simpa using htake
        rw [h1, ← hlen]
        exact List.take_left
    · have holds : (Builtin.firstCells i.size n (.slice (some ⟨g, 0, none⟩) n cap)).run P w.drew = .ok xs.toArray w.drew := by
        refine run_firstCells_some (P := P) w.drew i.size n ⟨g, 0, none⟩ n cap xs (by rw [hsize]; exact hown.1) ?_
        intro j u hj
        exact hown.cells (g := g) rfl j u hj
      have hr := Lib.run_append_grow_zeros (P := P) w t tn ty e i z kq kn ht htn hi hz (some ⟨g, 0, none⟩) n cap xs holds k h0 (by omega) (by omega) (by omega) hmulk (growslice_fits (by omega) hmul)
      have hgr := grown cap (by omega) (Value.ownBlock (.slice (some ⟨g, 0, none⟩) n cap))
      exact ⟨_, _, hr, hgr.1, hgr.2⟩
theorem ow_zer {P : Program} {Q : Exit → Act → World → Prop} {a : Act} {w : World} {K : Act → World → Prop} {o : Oper} {N : Option Tmp}
    {s x : Operand} {t tn e : TypeId} {base n c : Nat} {kq kn : IntKind} {A : Option Addr} (bytes : Nat) (hN : o.dst = N) (ho : o.op = .call { callee := .builtin .append, args := #[s, x], argTypes := #[t, tn] })
    (ht : P.underlying t = some (.slice e)) (htn : P.underlying tn = some (.int kn)) (hinfo : (P.info? e).map (fun i => (i.zero, i.size, i.bytes)) = some (some (.int .u8 0), 1, bytes))
    (xs : List Int) (hs : a.eval s = .slice A n c) (HO : OwnG base e 1 u8R w (.slice A n c) xs) (k : Nat) {v : Int} (hv : v = (k : Int)) (hx : a.eval x = .int kq v) (h0 : 0 < k)
    (hl : xs.length + k ≤ 4194304) (hby : bytes ≤ 65536) (hbase : base ≤ w.heap.size)
    (h : ∀ A' c' w', OwnG base e 1 u8R w' (.slice A' (xs ++ List.replicate k 0).length c') (xs ++ List.replicate k 0) → Upd (ob A ++ []) w w' → K (a.put N (.slice A' (xs ++ List.replicate k 0).length c')) w') : OW P o a w K Q := by
  subst hN
  subst hv
  refine ⟨?_⟩
  obtain ⟨i0, hi, hz0, hz1, hz2⟩ := info_parts hinfo
  have hmap : xs.map (Value.int .u8) ++ List.replicate k (.int .u8 0) = (xs ++ List.replicate k 0).map (Value.int .u8) := by simp
  obtain ⟨v', w', hr, h1, hg⟩ := run_append_zeros (P := P) w base t tn o.type e i0 (.int .u8 0) kq kn ht htn hi hz0 hz1 (by omega) rfl rfl _ xs.length (xs.map (Value.int .u8)) (row_of_own one_u8.cell HO) k h0 hl hbase
  have h2 : OwnG base e 1 u8R w' v' (xs ++ List.replicate k 0) := by
    refine own_of_row (enc := Value.int .u8) (fun y hy => ?_) (by rw [← hmap]; simpa using h1)
    rcases List.mem_append.1 hy with hy | hy
    · obtain ⟨cs, h1⟩ := HO.mem y hy
      exact one_u8.any _ _ _ _ h1
    · rw [(List.mem_replicate.1 hy).2]
      exact ⟨rfl, by decide⟩
  have hU : Upd (ob A) w w' := Upd.of_grown hg _ fun k hk => .inl (by
    rcases ob_cases HO with rfl | ⟨g, cells, rfl, _, _⟩
    · simp [Value.ownBlock] at hk
    · simp [Value.ownBlock] at hk
      simp [ob, hk])
  have hn : n = xs.length := by
    obtain ⟨_, _, hv, _⟩ := HO.rd.shape
    injection hv
  have hrun : (execOp a.eval o).run P w = .ok (.value v') w' := by
    subst hn
    unfold execOp
    simp only [ho, resolve, invoke, builtin, Sem.run_bind, Sem.run_pure, Result.andThen_ok, List.map_toArray, List.map_cons, List.map_nil, hs, hx, hr]
  unfold Oper.wp
  rw [hrun]
  obtain ⟨A', c', rfl, _, _⟩ := h2.rd.shape
  exact h _ _ _ h2 (by simpa using hU)
def inK (P : Program) (t : TypeId) : Option IntKind := match P.underlying t with | some (.int k) => some k | _ => none
theorem inK_some {P : Program} {t : TypeId} {k : IntKind} (h : inK P t = some k) : P.underlying t = some (.int k) := by
  unfold inK at h
  split at h
  · rename_i q hq; rw [hq]; simpa using h
  · cases h
section
variable {P : Program} {Q : Exit → Act → World → Prop} {n : Nat} {D : List Deferred} {F : Fr} {w : World} {K : Fr → World → Prop} {d : Option Tmp} {t : TypeId} {s : String} {af : Array Edge} {gu : Option (Nat × Bool)}
theorem Ozer {x y : Operand} {e : TypeId} {base m c : Nat} {A : Option Addr} {xs : List Int} {ty tn : TypeId} {kq : IntKind} {v : Int} (bytes k : Nat) (HO : OwnG base e 1 u8R w (.slice A m c) xs) (hv : v = (k : Int)) (h0 : 0 < k)
    (hl : xs.length + k ≤ 4194304) (hbase : base ≤ w.heap.size) (h : ∀ A' c' w', OwnG base e 1 u8R w' (.slice A' (xs ++ List.replicate k 0).length c') (xs ++ List.replicate k 0) → Upd (ob A ++ []) w w' → K (pt d (.slice A' (xs ++ List.replicate k 0).length c') F) w')
    (hx : evo F x = some (.slice A m c) := by kernel_rfl) (hy : evo F y = some (.int kq v) := by kernel_rfl) (he : slE P ty = some e := by kernel_rfl) (hk : inK P tn = some .i64 := by kernel_rfl) (hs : (infA P ty, dok n d && Nat.ble bytes 65536) = (some (some (.int .u8 0), 1, bytes), true) := by kernel_rfl) : OG P ⟨d, .call { callee := .builtin .append, args := #[x, y], argTypes := #[ty, tn] }, t, s, af, gu⟩ n D F w K Q := by
  simp only [Prod.mk.injEq] at hs
  have h2 := and2 hs.2
  exact ⟨fun a ha K' hK => ow_zer bytes rfl rfl (slE_some he) (inK_some hk) (by have := hs.1; unfold infA at this; rw [he] at this; exact this) xs (ha.ev hx) HO k hv (ha.ev hy) h0 hl (by simpa using h2.2) hbase fun A' c' w' hO hu => hK _ _ _ (h A' c' w' hO hu) (ha.put h2.1)⟩
end
end Go.Proofs.YtgjlbabefogepaaGreat
namespace Go.Proofs.YtgjlbabefogepaaGreat
open Go.RowKit
set_option maxRecDepth 100000 in
set_option maxHeartbeats 4000000 in
theorem lawSmbapWrites {w : World} {ans : Bool} {z : Int} (hz : 0 ≤ z ∧ z < 256) {mF : Bool} {F : Option Addr} {cpF : Nat} {fs : List Frm} (hF : RdF mF w (.slice F fs.length cpF) fs) :
    Calls Tryz.prog 8 #[.bool ans, .slice F fs.length cpF, .int .u8 z] w (PVal (.bool true) w) := by
 have hzF := RdG.len hF
 refine en 96 Tryz.func8 rfl <| sg <| Pl 1 <| ng <| L0 <| Oc <| m1 (@awake21 _) fun w10 hu11 => Pl 1 <| nt <| sq <| sq <| ?_
 refine go <| Pl 3 <| nt <| cb ((decide (30 < ((fs.length : Nat) : Int)))) (fun q12 => ?_) (fun q12 => ?_)
 have q12p := of_decide_eq_true q12
 refine sg <| Pl 2 <| nt <| rt <| tr <| rr (.bool true) <| ?_
 exact ⟨rfl, hu11⟩
 have q12p := of_decide_eq_false q12
 refine skn <| sg <| Pl 1 <| nt <| sq <| sg <| Pl 1 <| nt <| cb (ans) (fun q13 => ?_) (fun q13 => ?_)
 refine go <| Pl 1 <| ng <| Pl 1 <| L0 <| Oc <| e3 (smb_new 1 smbap_new1) fun g14 w15 hg16 hA17 hu18 => Pl 1 <| nt <| sq <| sg <| ?_
 refine Pl 2 <| nt <| c0 <| skn <| sq <| sg <| Pl 1 <| nt <| bk <| ?_
 have U19 := ut0 hu11 hu18
 refine glp (fun x => [(1, .slice F fs.length cpF), (2, .int .u8 z), (7, .bool true), (8, .int .i64 1), (9, .pointer (some ⟨g14, 0, none⟩)), (10, .int .i64 ((x.1 : Nat) : Int))]) (fun (x : Nat × Option Addr × Nat × Nat) w' => Upd [] w w' ∧ w15.heap.size ≤ w'.heap.size ∧ SmbAt x.2.2.2 w10.heap.size w' g14 x.2.1 x.2.2.1 (SM.mk 1 [] 0) ∧ (x.1 ≤ fs.length)) (fun x => fs.length - x.1) (0, none, 0, w10.heap.size) ⟨U19, lr, hA17, (by (try dsimp only); omega)⟩ ?_
 rintro ⟨k, Ah, ch, n⟩ w20 ⟨hu21, hz24, f22, p23⟩
 refine wkc [(1, .slice F fs.length cpF), (2, .int .u8 z), (7, .bool true), (8, .int .i64 1), (9, .pointer (some ⟨g14, 0, none⟩)), (10, .int .i64 ((k : Nat) : Int))] ?_
 have f25 : SmbAt n w10.heap.size w20 g14 Ah ch (SM.mk 1 [] 0) := f22
 have p26 : k ≤ fs.length := p23
 refine sq <| sg <| Pl 4 <| nt <| ?_
 have U27 := ut0 (Upd.refl [] _) hu21
 refine cb ((decide (((k : Nat) : Int) < ((fs.length : Nat) : Int)))) (fun q28 => ?_) (fun q28 => ?_)
 have q28p := of_decide_eq_true q28
 refine skn <| sq <| bk <| sg <| Pl 2 <| x64 (RdF.elt hF k (by (try simp only [List.length_set, List.length_append]); omega) Frm.zero) fun b29 o30 cl31 t32 fr33 s34 hA35 hb36 hv37 hs38 => ?_
 have hw39 := hv37.2
 refine L0 <| Oixs 24 fs.length k hA35 (by (try simp only [List.length_set, List.length_append]); omega) <| Pl 1 <| ?_
 have r40 := ub U27 hb36
 refine L0 <| Oel [.int .u8 ((fs.getD k Frm.zero).msg.code), .int .u8 ((fs.getD k Frm.zero).msg.fail), .int .u16 ((fs.getD k Frm.zero).msg.addr), .int .u16 ((fs.getD k Frm.zero).msg.count), .int .u16 ((fs.getD k Frm.zero).msg.value), .int .u16 ((fs.getD k Frm.zero).msg.and_), .int .u16 ((fs.getD k Frm.zero).msg.or_), .int .u16 ((fs.getD k Frm.zero).msg.addr2), .int .u16 ((fs.getD k Frm.zero).msg.sub), .int .u16 ((fs.getD k Frm.zero).msg.status), .int .u16 ((fs.getD k Frm.zero).msg.events), .int .u16 ((fs.getD k Frm.zero).msg.messages), .slice s34.aw ((fs.getD k Frm.zero).msg.words.length) s34.kw, .slice s34.ab ((fs.getD k Frm.zero).msg.bits.length) s34.kb, .slice s34.ad ((fs.getD k Frm.zero).msg.data.length) s34.kd, .slice s34.ar ((fs.getD k Frm.zero).msg.recs.length) s34.kr, .int .u8 ((fs.getD k Frm.zero).msg.mei), .int .u8 ((fs.getD k Frm.zero).msg.kind), .int .u8 ((fs.getD k Frm.zero).msg.level), .int .u8 ((fs.getD k Frm.zero).msg.more), .int .u8 ((fs.getD k Frm.zero).msg.next), .slice s34.ao ((fs.getD k Frm.zero).msg.objects.length) s34.ko] r40 (el_sub (k := 2) (m := 22) hs38 (by kernel_rfl) (by decide)) <| ?_
 have r41 := MsgRd.old (hv37.1) U27
 refine L0 <| Oc <| m1 (few_any r41) fun w42 hu43 => Pl 1 <| nt <| sq <| sg <| Pl 2 <| nt <| ?_
 have U44 := ut0 U27 hu43
 refine cb ((!(fewB (fs.getD k Frm.zero).msg))) (fun q45 => ?_) (fun q45 => ?_)
 have q45n : (fewB (fs.getD k Frm.zero).msg) = false := by simpa using q45
 refine sg <| Pl 2 <| nt <| rt <| tr <| br <| tr <| tr <| br <| tr <| rr (.bool true) <| ?_
 exact ⟨rfl, U44⟩
 have q45n : (fewB (fs.getD k Frm.zero).msg) = true := by simpa using q45
 refine skn <| sg <| Pl 3 <| L0 <| Oixs 24 fs.length k hA35 (by (try simp only [List.length_set, List.length_append]); omega) <| ?_
 have r46 := ub hu43 r40
 refine L0 <| Oel [.int .u8 ((fs.getD k Frm.zero).unit), .int .u16 ((fs.getD k Frm.zero).tid), .int .u8 ((fs.getD k Frm.zero).msg.code), .int .u8 ((fs.getD k Frm.zero).msg.fail), .int .u16 ((fs.getD k Frm.zero).msg.addr), .int .u16 ((fs.getD k Frm.zero).msg.count), .int .u16 ((fs.getD k Frm.zero).msg.value), .int .u16 ((fs.getD k Frm.zero).msg.and_), .int .u16 ((fs.getD k Frm.zero).msg.or_), .int .u16 ((fs.getD k Frm.zero).msg.addr2), .int .u16 ((fs.getD k Frm.zero).msg.sub), .int .u16 ((fs.getD k Frm.zero).msg.status), .int .u16 ((fs.getD k Frm.zero).msg.events), .int .u16 ((fs.getD k Frm.zero).msg.messages), .slice s34.aw ((fs.getD k Frm.zero).msg.words.length) s34.kw, .slice s34.ab ((fs.getD k Frm.zero).msg.bits.length) s34.kb, .slice s34.ad ((fs.getD k Frm.zero).msg.data.length) s34.kd, .slice s34.ar ((fs.getD k Frm.zero).msg.recs.length) s34.kr, .int .u8 ((fs.getD k Frm.zero).msg.mei), .int .u8 ((fs.getD k Frm.zero).msg.kind), .int .u8 ((fs.getD k Frm.zero).msg.level), .int .u8 ((fs.getD k Frm.zero).msg.more), .int .u8 ((fs.getD k Frm.zero).msg.next), .slice s34.ao ((fs.getD k Frm.zero).msg.objects.length) s34.ko] r46 hs38 <| ?_
 have r47 := MsgRd.old r41 hu43
 refine wo (mbapW 1 ((fs.getD k Frm.zero).unit) ((fs.getD k Frm.zero).tid) ((fs.getD k Frm.zero).msg)) (fun hX49 => ?_) (fun l48 hX49 => ?_)
 refine L0 <| Oc <| m1 (mbap_write_n hX49 r47 (fewB_few q45n) (by omega) (by omega)) fun w50 hu51 => Pl 5 <| nt <| sq <| sg <| Pl 2 <| nt <| c1 <| xt <| tx <| bx <| ?_
 refine tn <| go <| Pl 1 <| L0 <| Oi (((k : Nat) : Int) + 1) <| Pl 1 <| nl <| ?_
 have U52 := ut0 U44 hu51
 have U53 := ut0 hu43 hu51
 have r54 := SmbAt.upd f25 U53 not0 (fun x hx => not0)
 exact lpe ((k + 1), Ah, ch, n) ⟨U52, (le (le hz24 hu43.size) hu51.size), r54, (by (try dsimp only); omega)⟩ (by omega)
 have hl55 := mbapW_le (r47.rngs).1 hX49
 refine L0 <| Oc <| so2 (mbap_write_s hX49 r47 (fewB_few q45n) (by omega) (by omega)) fun A60 cp61 w56 rd64 hl62 hm63 hu59 => Pl 5 <| nt <| sq <| sg <| Pl 2 <| nt <| c0 <| skn <| sq <| ?_
 refine go <| Pl 1 <| L0 <| Oi z <| L0 <| Oi (255 + z) <| Pl 1 <| ng <| Pl 1 <| L0 <| Oe (.int .i64 (IntKind.i64.wrap (Int.tdiv (255 + z) 256))) (.int .i64 ((255 + z) / 256)) (congrArg (Value.int .i64) (i64_quo (by omega) (by omega))) <| Pl 2 <| L0 <| Oe (.int .i64 (Int.tmod (255 + z) 256)) (.int .i64 ((255 + z) % 256)) (congrArg (Value.int .i64) (Int.tmod_eq_emod_of_nonneg (by omega))) <| Pl 1 <| L0 <| Olt (m := 6) (e := 5) #[.int .u8 7, .int .u8 7, .int .u8 0, .int .u8 0, .int .u8 (((255 + z) / 256) % 256), .int .u8 (((255 + z) % 256) % 256)] fun g65 w66 hg67 B68 hu69 => ?_
 have ow70 := litB hg67 (xs := [7, 7, 0, 0, (((255 + z) / 256) % 256), (((255 + z) % 256) % 256)]) (by as_aux_lemma => kernel_rfl) (rng_cons (by omega) (rng_cons (by omega) (rng_cons (by omega) (rng_cons (by omega) (rng_cons (by omega) (rng_cons (by omega) rng_nil)))))) (by (try simp only [List.length_cons, List.length_nil]); omega) B68
 refine Pl 1 <| L0 <| Ozer (xs := ([7, 7, 0, 0, (((255 + z) / 256) % 256), (((255 + z) % 256) % 256)])) (kq := .i64) (v := (255 + z)) 1 (((255 + z)).toNat) ow70 (by omega) (by omega) (by (try simp only [List.length_append, List.length_cons, List.length_nil]); omega) hu69.size fun A71 cp72 w73 ho74 hu75 => Pl 1 <| ng <| Pl 3 <| ?_
 have U76 := ut hu69 hu75 (all_app (ob_new ow70 lr) all0)
 have r77 := own_stay rd64 U76 (fun x hx => not0) (fun _ _ h => h)
 refine L0 <| Oapp one_u8 (xs := ([7, 7, 0, 0, (((255 + z) / 256) % 256), (((255 + z) % 256) % 256)] ++ List.replicate (((255 + z)).toNat) 0)) (ys := l48) (.int .u8 0) 1 ho74 (r77).rd (by (try simp only [List.length_set, List.length_replicate, List.length_append, List.length_cons, List.length_nil, putW_length]); omega) U76.size fun A78 cp79 w80 ho81 hu82 => ?_
 have U83 := ut0 hu43 hu59
 have U84 := ut0 U83 hu69
 have U85 := ut U84 hu75 (all_app (ob_new ow70 U83.size) all0)
 have U86 := ut U85 hu82 (all_app (ob_new ho74 U83.size) all0)
 have r87 := SmbAt.upd f25 U86 not0 (fun x hx => not0)
 refine pr (SM.feed (SM.mk 1 [] 0) (([7, 7, 0, 0, (((255 + z) / 256) % 256), (((255 + z) % 256) % 256)] ++ List.replicate (((255 + z)).toNat) 0) ++ l48)) fun S88 L89 hX90 => ?_
 have hk101 := SM.feed_le r87.2.2.1 (RdB.range (ho81).rd) hX90
 refine L0 <| Oc (args := #[.pointer (some ⟨g14, 0, none⟩), .slice A78 ((([7, 7, 0, 0, (((255 + z) / 256) % 256), (((255 + z) % 256) % 256)] ++ List.replicate (((255 + z)).toNat) 0) ++ l48).length) cp79]) <| ?_
 refine (smb_feed_x hX90 r87 (ho81).rd (far_ne (not_old (SmbAt.lt hA17) (le (le hz24 hu43.size) hu59.size) ho81)) (far_rows (rows_young ho81 (SmbAt.row f25) U83.size)) (by simp only [List.length_append, List.length_cons, List.length_nil, List.length_replicate]; omega)).mono ?_
 rintro _ w95 ⟨v91, A92, cp93, n94, rfl, ho96, hA97, hat98, hn99, hu100⟩
 refine ⟨_, rfl, ?_⟩
 have hk102 := SmbAt.le hA97
 have rd107 := ho96
 obtain ⟨A103, cp104, rfl, hl105, hm106⟩ := RdG.shape rd107.rd
 refine Pl 1 <| nt <| sq <| sg <| Pl 3 <| nt <| ?_
 have U108 := ut0 U44 hu59
 have U109 := ut0 U108 hu69
 have U110 := ut U109 hu75 (all_app (ob_new ow70 U108.size) all0)
 have U111 := ut U110 hu82 (all_app (ob_new ho74 U108.size) all0)
 have U112 := ut U111 hu100 (ac (ni hu11.size hg16) (all_app (ob_new (SmbAt.row f25) hu11.size) all0))
 refine cb ((((L89.length : Nat) : Int) != 2)) (fun q113 => ?_) (fun q113 => ?_)
 have q113p := ne_of_bnei q113
 refine sg <| Pl 1 <| nt <| rt <| tr <| br <| tr <| tr <| br <| tr <| rr (.bool false) <| ?_
 have U114 := ut0 hu59 hu69
 have U115 := ut U114 hu75 (all_app (ob_new ow70 hu59.size) all0)
 have U116 := ut U115 hu82 (all_app (ob_new ho74 hu59.size) all0)
 have U117 := ut (Upd.mono (S' := (g14 :: (ob Ah ++ []))) U116 all0) hu100 (ac im (all_app (fun x hx => Or.inl (by simp [hx])) all0))
 have U118 := ut (Upd.mono (S' := (g14 :: (ob Ah ++ []))) U86 all0) hu100 (ac im (all_app (fun x hx => Or.inl (by simp [hx])) all0))
 have r119 := MsgRd.old (hv37.1) U112
 have hs : false = true := by obtain ⟨z1, z3⟩ := smb_writes (by decide) (r119).rngs (hv37.2.2) hX49 (n := 255 + z) (by omega) (by omega) (by omega) hX90; have z2 : L89 = [Ev.bad 3, ⟨0, fs.getD k Frm.zero⟩] := z3; rw [z2] at q113; simp [Ev.bad] at q113
 rw [hs]
 exact ⟨rfl, U112⟩
 have q113p := eq_of_bnei q113
 refine skn <| sq <| x64 (RdE.elt (OwnV.own rd107).rd 0 (by (try simp only [List.length_set, List.length_append]); omega) (Ev.bad 0)) fun b154 o155 cl156 t157 fr158 s159 hA160 hb161 hv162 hs163 => Rg 22 (fun w' => w'.cell? ⟨b154, o155 + 0 * 25 + 0, none⟩ = some (.int .i64 ((L89.getD 0 (Ev.bad 0)).e)) ∧ w'.heap[b29]? = some (.cells cl31 t32 fr33)) fun w188 hu189 => ?_
 have r191 := ub hu189 hb161
 have U192 := ut0 hu59 hu69
 have U193 := ut U192 hu75 (all_app (ob_new ow70 hu59.size) all0)
 have U194 := ut U193 hu82 (all_app (ob_new ho74 hu59.size) all0)
 have U195 := ut (Upd.mono (S' := (g14 :: (ob Ah ++ []))) U194 all0) hu100 (ac im (all_app (fun x hx => Or.inl (by simp [hx])) all0))
 have U196 := ut0 U195 hu189
 have ne197 := nb (blk_lt hb36) hu11.size hg16
 have r198 := Upd.blk U196 (not_cons ne197 (not_app (not_old (blk_lt hb36) hu11.size (SmbAt.row f25)) not0)) r46
 refine hld ⟨(el_at r191 hs163 0 (by kernel_rfl) (by decide)), r198⟩ fun hS190 => Rt 0 hS190 <| Ri 1 hS190 25 L89.length 0 0 rfl hA160 (by (try simp only [List.length_set, List.length_append]); omega) <| Rt 2 hS190 <| Rl 3 hS190 (fun _ hs => hs.1) <| Rt 4 hS190 <| Rt 5 hS190 <| ?_
 have U199 := ut0 U112 hu189
 refine bla 78 ((((L89.getD 0 (Ev.bad 0)).e) != 3)) (fun q200 => ?_) (fun q200 => ?_)
 have q200p := ne_of_bnei q200
 refine Ro 6 hS190 <| Ro 7 hS190 <| Ro 8 hS190 <| Ro 9 hS190 <| Ro 10 hS190 <| Ro 11 hS190 <| Ro 12 hS190 <| Ro 13 hS190 <| Ro 14 hS190 <| Ro 15 hS190 <| Rt 16 hS190 <| Rt 17 hS190 <| Ro 18 hS190 <| Ro 19 hS190 <| ?_
 refine Ro 20 hS190 <| Rt 21 hS190 <| re <| tn <| c1 <| sg <| Pl 1 <| nt <| rt <| br <| tr <| tr <| ?_
 refine br <| tr <| rr (.bool false) <| ?_
 have U201 := ut (Upd.mono (S' := (g14 :: (ob Ah ++ []))) U86 all0) hu100 (ac im (all_app (fun x hx => Or.inl (by simp [hx])) all0))
 have U202 := ut0 U201 hu189
 have r203 := MsgRd.old (hv37.1) U199
 have hs : false = true := by obtain ⟨z1, z3⟩ := smb_writes (by decide) (r203).rngs (hv37.2.2) hX49 (n := 255 + z) (by omega) (by omega) (by omega) hX90; have z2 : L89 = [Ev.bad 3, ⟨0, fs.getD k Frm.zero⟩] := z3; rw [z2] at q200; simp [Ev.bad] at q200
 rw [hs]
 exact ⟨rfl, U199⟩
 have q200p := eq_of_bnei q200
 refine Rt 6 hS190 <| Rt 9 hS190 <| Rt 10 hS190 <| Ri 11 hS190 24 fs.length k ((k : Nat) : Int) rfl hA35 (by (try simp only [List.length_set, List.length_append]); omega) <| Rr 12 hS190 (.agg (fcl ((fs.getD k Frm.zero).unit) ((fs.getD k Frm.zero).tid) ((fs.getD k Frm.zero).msg) s34)) (fun w' hs => lda_o (g := b29) (off := o30 + k * 24) [.int .u8 ((fs.getD k Frm.zero).unit), .int .u16 ((fs.getD k Frm.zero).tid), .int .u8 ((fs.getD k Frm.zero).msg.code), .int .u8 ((fs.getD k Frm.zero).msg.fail), .int .u16 ((fs.getD k Frm.zero).msg.addr), .int .u16 ((fs.getD k Frm.zero).msg.count), .int .u16 ((fs.getD k Frm.zero).msg.value), .int .u16 ((fs.getD k Frm.zero).msg.and_), .int .u16 ((fs.getD k Frm.zero).msg.or_), .int .u16 ((fs.getD k Frm.zero).msg.addr2), .int .u16 ((fs.getD k Frm.zero).msg.sub), .int .u16 ((fs.getD k Frm.zero).msg.status), .int .u16 ((fs.getD k Frm.zero).msg.events), .int .u16 ((fs.getD k Frm.zero).msg.messages), .slice s34.aw ((fs.getD k Frm.zero).msg.words.length) s34.kw, .slice s34.ab ((fs.getD k Frm.zero).msg.bits.length) s34.kb, .slice s34.ad ((fs.getD k Frm.zero).msg.data.length) s34.kd, .slice s34.ar ((fs.getD k Frm.zero).msg.recs.length) s34.kr, .int .u8 ((fs.getD k Frm.zero).msg.mei), .int .u8 ((fs.getD k Frm.zero).msg.kind), .int .u8 ((fs.getD k Frm.zero).msg.level), .int .u8 ((fs.getD k Frm.zero).msg.more), .int .u8 ((fs.getD k Frm.zero).msg.next), .slice s34.ao ((fs.getD k Frm.zero).msg.objects.length) s34.ko] rfl (by kernel_rfl) hs.2 (by kernel_rfl) (by kernel_rfl) hs38) <| Rt 13 hS190 <| ?_
 have r204 := own_stay rd107 hu189 (fun x hx => not0) (fun x cs q => evLow.upd hu189 apt_nil q)
 refine x64 (RdE.elt (OwnV.own r204).rd 1 (by (try simp only [List.length_set, List.length_append]); omega) (Ev.bad 0)) fun b205 o206 cl207 t208 fr209 s210 hA211 hb212 hv213 hs214 => R0 7 rfl <| Oixs 25 L89.length 1 hA211 (by (try simp only [List.length_set, List.length_append]); omega) <| hld ⟨(el_at r191 hs163 0 (by kernel_rfl) (by decide)), r198⟩ fun hS215 => R0 8 rfl <| Oel [.int .i64 ((L89.getD 1 (Ev.bad 0)).e), .int .u8 ((L89.getD 1 (Ev.bad 0)).f.unit), .int .u16 ((L89.getD 1 (Ev.bad 0)).f.tid), .int .u8 ((L89.getD 1 (Ev.bad 0)).f.msg.code), .int .u8 ((L89.getD 1 (Ev.bad 0)).f.msg.fail), .int .u16 ((L89.getD 1 (Ev.bad 0)).f.msg.addr), .int .u16 ((L89.getD 1 (Ev.bad 0)).f.msg.count), .int .u16 ((L89.getD 1 (Ev.bad 0)).f.msg.value), .int .u16 ((L89.getD 1 (Ev.bad 0)).f.msg.and_), .int .u16 ((L89.getD 1 (Ev.bad 0)).f.msg.or_), .int .u16 ((L89.getD 1 (Ev.bad 0)).f.msg.addr2), .int .u16 ((L89.getD 1 (Ev.bad 0)).f.msg.sub), .int .u16 ((L89.getD 1 (Ev.bad 0)).f.msg.status), .int .u16 ((L89.getD 1 (Ev.bad 0)).f.msg.events), .int .u16 ((L89.getD 1 (Ev.bad 0)).f.msg.messages), .slice s210.aw ((L89.getD 1 (Ev.bad 0)).f.msg.words.length) s210.kw, .slice s210.ab ((L89.getD 1 (Ev.bad 0)).f.msg.bits.length) s210.kb, .slice s210.ad ((L89.getD 1 (Ev.bad 0)).f.msg.data.length) s210.kd, .slice s210.ar ((L89.getD 1 (Ev.bad 0)).f.msg.recs.length) s210.kr, .int .u8 ((L89.getD 1 (Ev.bad 0)).f.msg.mei), .int .u8 ((L89.getD 1 (Ev.bad 0)).f.msg.kind), .int .u8 ((L89.getD 1 (Ev.bad 0)).f.msg.level), .int .u8 ((L89.getD 1 (Ev.bad 0)).f.msg.more), .int .u8 ((L89.getD 1 (Ev.bad 0)).f.msg.next), .slice s210.ao ((L89.getD 1 (Ev.bad 0)).f.msg.objects.length) s210.ko] hb212 hs214 <| hld ⟨(el_at r191 hs163 0 (by kernel_rfl) (by decide)), r198⟩ fun hS216 => ?_
 have U217 := ut (Upd.mono (S' := (g14 :: (ob Ah ++ []))) U86 all0) hu100 (ac im (all_app (fun x hx => Or.inl (by simp [hx])) all0))
 have U218 := ut0 U217 hu189
 have r219 := MsgRd.old (hv37.1) U199
 refine R0 14 rfl <| Oc <| m1 (same19_any (A := (L89.getD 1 (Ev.bad 0))) (B := (Ev.mk 0 (fs.getD k Frm.zero))) (hv213.1) r219) fun w220 hu221 => ?_
 have r223 := ub hu221 r191
 have r224 := ub hu221 r198
 refine hld ⟨(el_at r223 hs163 0 (by kernel_rfl) (by decide)), r224⟩ fun hS222 => Rt 15 hS222 <| Rt 16 hS222 <| Rt 17 hS222 <| ?_
 have U225 := ut0 U199 hu221
 refine bla 90 ((!(decide ((L89.getD 1 (Ev.bad 0)) = (Ev.mk 0 (fs.getD k Frm.zero)))))) (fun q226 => ?_) (fun q226 => ?_)
 have q226n : (decide ((L89.getD 1 (Ev.bad 0)) = (Ev.mk 0 (fs.getD k Frm.zero)))) = false := by simpa using q226
 have q226np := of_decide_eq_false q226n
 refine Ro 18 hS222 <| Ro 19 hS222 <| Ro 20 hS222 <| Rt 21 hS222 <| re <| tn <| c1 <| sg <| Pl 1 <| nt <| rt <| br <| ?_
 refine tr <| tr <| br <| tr <| rr (.bool false) <| ?_
 have r227 := MsgRd.old r219 hu221
 have hs : false = true := by obtain ⟨z1, z3⟩ := smb_writes (by decide) (r227).rngs (hv37.2.2) hX49 (n := 255 + z) (by omega) (by omega) (by omega) hX90; have z2 : L89 = [Ev.bad 3, ⟨0, fs.getD k Frm.zero⟩] := z3; rw [z2] at q226n; simp [Ev.bad] at q226n
 rw [hs]
 exact ⟨rfl, U225⟩
 have q226n : (decide ((L89.getD 1 (Ev.bad 0)) = (Ev.mk 0 (fs.getD k Frm.zero)))) = true := by simpa using q226
 have q226np := of_decide_eq_true q226n
 refine Rt 18 hS222 <| ?_
 have U230 := ut0 hu189 hu221
 have r231 := SmbAt.upd hA97 U230 not0 (fun x hx => not0)
 refine R0 19 rfl <| Oc <| m1 (smb_held r231) fun w228 hu229 => ?_
 have r233 := ub hu229 r223
 have r234 := ub hu229 r224
 refine hld ⟨(el_at r233 hs163 0 (by kernel_rfl) (by decide)), r234⟩ fun hS232 => Rt 20 hS232 <| Rt 21 hS232 <| re <| tn <| ?_
 have U235 := ut0 U225 hu229
 refine cb ((((S88.held.length : Nat) : Int) != 0)) (fun q236 => ?_) (fun q236 => ?_)
 have q236p := ne_of_bnei q236
 refine sg <| Pl 1 <| nt <| rt <| br <| tr <| tr <| br <| tr <| rr (.bool false) <| ?_
 have U237 := ut0 hu221 hu229
 have r238 := MsgRd.old r219 U237
 have hs : false = true := by obtain ⟨z1, z3⟩ := smb_writes (by decide) (r238).rngs (hv37.2.2) hX49 (n := 255 + z) (by omega) (by omega) (by omega) hX90; have z2 : L89 = [Ev.bad 3, ⟨0, fs.getD k Frm.zero⟩] := z3; rw [z1] at q236; simp [Ev.bad] at q236
 rw [hs]
 exact ⟨rfl, U235⟩
 have q236p := eq_of_bnei q236
 refine sk <| bn <| tn <| go <| Pl 1 <| L0 <| Oi (((k : Nat) : Int) + 1) <| Pl 1 <| nl <| ?_
 have r239 := SmbAt.upd r231 hu229 not0 (fun x hx => not0)
 have hT := r239
 have U240 := ut0 hu221 hu229
 have r241 := MsgRd.old r219 U240
 rw [(smb_writes (by decide) (r241).rngs (hv37.2.2) hX49 (n := 255 + z) (by omega) (by omega) (by omega) hX90).1] at hT
 exact lpe ((k + 1), A92, cp93, n94) ⟨U235, (le (le (le (le (le (le (le (le (le hz24 hu43.size) hu59.size) hu69.size) hu75.size) hu82.size) hu100.size) hu189.size) hu221.size) hu229.size), hT, (by (try dsimp only); omega)⟩ (by omega)
 have q28p := of_decide_eq_false q28
 refine xt <| tx <| tx <| bx <| tn <| sg <| Pl 2 <| nt <| rt <| rr (.bool true) <| ?_
 exact ⟨rfl, U27⟩
 refine skn <| sg <| Pl 1 <| L0 <| Oc <| e3 (smb_new 0 smbap_new0) fun g242 w243 hg244 hA245 hu246 => Pl 1 <| nt <| sq <| sg <| Pl 2 <| nl <| ?_
 refine tn <| c0 <| skn <| sq <| sg <| Pl 1 <| nt <| bk <| ?_
 have U247 := ut0 hu11 hu246
 refine glp (fun x => [(1, .slice F fs.length cpF), (2, .int .u8 z), (7, .bool true), (8, .int .i64 0), (9, .pointer (some ⟨g242, 0, none⟩)), (10, .int .i64 ((x.1 : Nat) : Int))]) (fun (x : Nat × Option Addr × Nat × Nat) w' => Upd [] w w' ∧ w243.heap.size ≤ w'.heap.size ∧ SmbAt x.2.2.2 w10.heap.size w' g242 x.2.1 x.2.2.1 (SM.mk 0 [] 0) ∧ (x.1 ≤ fs.length)) (fun x => fs.length - x.1) (0, none, 0, w10.heap.size) ⟨U247, lr, hA245, (by (try dsimp only); omega)⟩ ?_
 rintro ⟨k, Ah, ch, n⟩ w248 ⟨hu249, hz252, f250, p251⟩
 refine wkc [(1, .slice F fs.length cpF), (2, .int .u8 z), (7, .bool true), (8, .int .i64 0), (9, .pointer (some ⟨g242, 0, none⟩)), (10, .int .i64 ((k : Nat) : Int))] ?_
 have f253 : SmbAt n w10.heap.size w248 g242 Ah ch (SM.mk 0 [] 0) := f250
 have p254 : k ≤ fs.length := p251
 refine sq <| sg <| Pl 4 <| nt <| ?_
 have U255 := ut0 (Upd.refl [] _) hu249
 refine cb ((decide (((k : Nat) : Int) < ((fs.length : Nat) : Int)))) (fun q256 => ?_) (fun q256 => ?_)
 have q256p := of_decide_eq_true q256
 refine skn <| sq <| bk <| sg <| Pl 2 <| x64 (RdF.elt hF k (by (try simp only [List.length_set, List.length_append]); omega) Frm.zero) fun b257 o258 cl259 t260 fr261 s262 hA263 hb264 hv265 hs266 => ?_
 have hw267 := hv265.2
 refine L0 <| Oixs 24 fs.length k hA263 (by (try simp only [List.length_set, List.length_append]); omega) <| Pl 1 <| ?_
 have r268 := ub U255 hb264
 refine L0 <| Oel [.int .u8 ((fs.getD k Frm.zero).msg.code), .int .u8 ((fs.getD k Frm.zero).msg.fail), .int .u16 ((fs.getD k Frm.zero).msg.addr), .int .u16 ((fs.getD k Frm.zero).msg.count), .int .u16 ((fs.getD k Frm.zero).msg.value), .int .u16 ((fs.getD k Frm.zero).msg.and_), .int .u16 ((fs.getD k Frm.zero).msg.or_), .int .u16 ((fs.getD k Frm.zero).msg.addr2), .int .u16 ((fs.getD k Frm.zero).msg.sub), .int .u16 ((fs.getD k Frm.zero).msg.status), .int .u16 ((fs.getD k Frm.zero).msg.events), .int .u16 ((fs.getD k Frm.zero).msg.messages), .slice s262.aw ((fs.getD k Frm.zero).msg.words.length) s262.kw, .slice s262.ab ((fs.getD k Frm.zero).msg.bits.length) s262.kb, .slice s262.ad ((fs.getD k Frm.zero).msg.data.length) s262.kd, .slice s262.ar ((fs.getD k Frm.zero).msg.recs.length) s262.kr, .int .u8 ((fs.getD k Frm.zero).msg.mei), .int .u8 ((fs.getD k Frm.zero).msg.kind), .int .u8 ((fs.getD k Frm.zero).msg.level), .int .u8 ((fs.getD k Frm.zero).msg.more), .int .u8 ((fs.getD k Frm.zero).msg.next), .slice s262.ao ((fs.getD k Frm.zero).msg.objects.length) s262.ko] r268 (el_sub (k := 2) (m := 22) hs266 (by kernel_rfl) (by decide)) <| ?_
 have r269 := MsgRd.old (hv265.1) U255
 refine L0 <| Oc <| m1 (few_any r269) fun w270 hu271 => Pl 1 <| nt <| sq <| sg <| Pl 2 <| nt <| ?_
 have U272 := ut0 U255 hu271
 refine cb ((!(fewB (fs.getD k Frm.zero).msg))) (fun q273 => ?_) (fun q273 => ?_)
 have q273n : (fewB (fs.getD k Frm.zero).msg) = false := by simpa using q273
 refine sg <| Pl 2 <| nt <| rt <| tr <| br <| tr <| tr <| br <| tr <| rr (.bool true) <| ?_
 exact ⟨rfl, U272⟩
 have q273n : (fewB (fs.getD k Frm.zero).msg) = true := by simpa using q273
 refine skn <| sg <| Pl 3 <| L0 <| Oixs 24 fs.length k hA263 (by (try simp only [List.length_set, List.length_append]); omega) <| ?_
 have r274 := ub hu271 r268
 refine L0 <| Oel [.int .u8 ((fs.getD k Frm.zero).unit), .int .u16 ((fs.getD k Frm.zero).tid), .int .u8 ((fs.getD k Frm.zero).msg.code), .int .u8 ((fs.getD k Frm.zero).msg.fail), .int .u16 ((fs.getD k Frm.zero).msg.addr), .int .u16 ((fs.getD k Frm.zero).msg.count), .int .u16 ((fs.getD k Frm.zero).msg.value), .int .u16 ((fs.getD k Frm.zero).msg.and_), .int .u16 ((fs.getD k Frm.zero).msg.or_), .int .u16 ((fs.getD k Frm.zero).msg.addr2), .int .u16 ((fs.getD k Frm.zero).msg.sub), .int .u16 ((fs.getD k Frm.zero).msg.status), .int .u16 ((fs.getD k Frm.zero).msg.events), .int .u16 ((fs.getD k Frm.zero).msg.messages), .slice s262.aw ((fs.getD k Frm.zero).msg.words.length) s262.kw, .slice s262.ab ((fs.getD k Frm.zero).msg.bits.length) s262.kb, .slice s262.ad ((fs.getD k Frm.zero).msg.data.length) s262.kd, .slice s262.ar ((fs.getD k Frm.zero).msg.recs.length) s262.kr, .int .u8 ((fs.getD k Frm.zero).msg.mei), .int .u8 ((fs.getD k Frm.zero).msg.kind), .int .u8 ((fs.getD k Frm.zero).msg.level), .int .u8 ((fs.getD k Frm.zero).msg.more), .int .u8 ((fs.getD k Frm.zero).msg.next), .slice s262.ao ((fs.getD k Frm.zero).msg.objects.length) s262.ko] r274 hs266 <| ?_
 have r275 := MsgRd.old r269 hu271
 refine wo (mbapW 0 ((fs.getD k Frm.zero).unit) ((fs.getD k Frm.zero).tid) ((fs.getD k Frm.zero).msg)) (fun hX277 => ?_) (fun l276 hX277 => ?_)
 refine L0 <| Oc <| m1 (mbap_write_n hX277 r275 (fewB_few q273n) (by omega) (by omega)) fun w278 hu279 => Pl 5 <| nt <| sq <| sg <| Pl 2 <| nt <| c1 <| xt <| tx <| bx <| ?_
 refine tn <| go <| Pl 1 <| L0 <| Oi (((k : Nat) : Int) + 1) <| Pl 1 <| nl <| ?_
 have U280 := ut0 U272 hu279
 have U281 := ut0 hu271 hu279
 have r282 := SmbAt.upd f253 U281 not0 (fun x hx => not0)
 exact lpe ((k + 1), Ah, ch, n) ⟨U280, (le (le hz252 hu271.size) hu279.size), r282, (by (try dsimp only); omega)⟩ (by omega)
 have hl283 := mbapW_le (r275.rngs).1 hX277
 refine L0 <| Oc <| so2 (mbap_write_s hX277 r275 (fewB_few q273n) (by omega) (by omega)) fun A288 cp289 w284 rd292 hl290 hm291 hu287 => Pl 5 <| nt <| sq <| sg <| Pl 2 <| nt <| c0 <| skn <| sq <| ?_
 refine go <| Pl 1 <| L0 <| Oi z <| L0 <| Oi (255 + z) <| Pl 1 <| ng <| Pl 1 <| L0 <| Oe (.int .i64 (IntKind.i64.wrap (Int.tdiv (255 + z) 256))) (.int .i64 ((255 + z) / 256)) (congrArg (Value.int .i64) (i64_quo (by omega) (by omega))) <| Pl 2 <| L0 <| Oe (.int .i64 (Int.tmod (255 + z) 256)) (.int .i64 ((255 + z) % 256)) (congrArg (Value.int .i64) (Int.tmod_eq_emod_of_nonneg (by omega))) <| Pl 1 <| L0 <| Olt (m := 6) (e := 5) #[.int .u8 7, .int .u8 7, .int .u8 0, .int .u8 0, .int .u8 (((255 + z) / 256) % 256), .int .u8 (((255 + z) % 256) % 256)] fun g293 w294 hg295 B296 hu297 => ?_
 have ow298 := litB hg295 (xs := [7, 7, 0, 0, (((255 + z) / 256) % 256), (((255 + z) % 256) % 256)]) (by as_aux_lemma => kernel_rfl) (rng_cons (by omega) (rng_cons (by omega) (rng_cons (by omega) (rng_cons (by omega) (rng_cons (by omega) (rng_cons (by omega) rng_nil)))))) (by (try simp only [List.length_cons, List.length_nil]); omega) B296
 refine Pl 1 <| L0 <| Ozer (xs := ([7, 7, 0, 0, (((255 + z) / 256) % 256), (((255 + z) % 256) % 256)])) (kq := .i64) (v := (255 + z)) 1 (((255 + z)).toNat) ow298 (by omega) (by omega) (by (try simp only [List.length_append, List.length_cons, List.length_nil]); omega) hu297.size fun A299 cp300 w301 ho302 hu303 => Pl 1 <| ng <| Pl 3 <| ?_
 have U304 := ut hu297 hu303 (all_app (ob_new ow298 lr) all0)
 have r305 := own_stay rd292 U304 (fun x hx => not0) (fun _ _ h => h)
 refine L0 <| Oapp one_u8 (xs := ([7, 7, 0, 0, (((255 + z) / 256) % 256), (((255 + z) % 256) % 256)] ++ List.replicate (((255 + z)).toNat) 0)) (ys := l276) (.int .u8 0) 1 ho302 (r305).rd (by (try simp only [List.length_set, List.length_replicate, List.length_append, List.length_cons, List.length_nil, putW_length]); omega) U304.size fun A306 cp307 w308 ho309 hu310 => ?_
 have U311 := ut0 hu271 hu287
 have U312 := ut0 U311 hu297
 have U313 := ut U312 hu303 (all_app (ob_new ow298 U311.size) all0)
 have U314 := ut U313 hu310 (all_app (ob_new ho302 U311.size) all0)
 have r315 := SmbAt.upd f253 U314 not0 (fun x hx => not0)
 refine pr (SM.feed (SM.mk 0 [] 0) (([7, 7, 0, 0, (((255 + z) / 256) % 256), (((255 + z) % 256) % 256)] ++ List.replicate (((255 + z)).toNat) 0) ++ l276)) fun S316 L317 hX318 => ?_
 have hk329 := SM.feed_le r315.2.2.1 (RdB.range (ho309).rd) hX318
 refine L0 <| Oc (args := #[.pointer (some ⟨g242, 0, none⟩), .slice A306 ((([7, 7, 0, 0, (((255 + z) / 256) % 256), (((255 + z) % 256) % 256)] ++ List.replicate (((255 + z)).toNat) 0) ++ l276).length) cp307]) <| ?_
 refine (smb_feed_x hX318 r315 (ho309).rd (far_ne (not_old (SmbAt.lt hA245) (le (le hz252 hu271.size) hu287.size) ho309)) (far_rows (rows_young ho309 (SmbAt.row f253) U311.size)) (by simp only [List.length_append, List.length_cons, List.length_nil, List.length_replicate]; omega)).mono ?_
 rintro _ w323 ⟨v319, A320, cp321, n322, rfl, ho324, hA325, hat326, hn327, hu328⟩
 refine ⟨_, rfl, ?_⟩
 have hk330 := SmbAt.le hA325
 have rd335 := ho324
 obtain ⟨A331, cp332, rfl, hl333, hm334⟩ := RdG.shape rd335.rd
 refine Pl 1 <| nt <| sq <| sg <| Pl 3 <| nt <| ?_
 have U336 := ut0 U272 hu287
 have U337 := ut0 U336 hu297
 have U338 := ut U337 hu303 (all_app (ob_new ow298 U336.size) all0)
 have U339 := ut U338 hu310 (all_app (ob_new ho302 U336.size) all0)
 have U340 := ut U339 hu328 (ac (ni hu11.size hg244) (all_app (ob_new (SmbAt.row f253) hu11.size) all0))
 refine cb ((((L317.length : Nat) : Int) != 2)) (fun q341 => ?_) (fun q341 => ?_)
 have q341p := ne_of_bnei q341
 refine sg <| Pl 1 <| nt <| rt <| tr <| br <| tr <| tr <| br <| tr <| rr (.bool false) <| ?_
 have U342 := ut0 hu287 hu297
 have U343 := ut U342 hu303 (all_app (ob_new ow298 hu287.size) all0)
 have U344 := ut U343 hu310 (all_app (ob_new ho302 hu287.size) all0)
 have U345 := ut (Upd.mono (S' := (g242 :: (ob Ah ++ []))) U344 all0) hu328 (ac im (all_app (fun x hx => Or.inl (by simp [hx])) all0))
 have U346 := ut (Upd.mono (S' := (g242 :: (ob Ah ++ []))) U314 all0) hu328 (ac im (all_app (fun x hx => Or.inl (by simp [hx])) all0))
 have r347 := MsgRd.old (hv265.1) U340
 have hs : false = true := by obtain ⟨z1, z3⟩ := smb_writes (by decide) (r347).rngs (hv265.2.2) hX277 (n := 255 + z) (by omega) (by omega) (by omega) hX318; have z2 : L317 = [Ev.bad 3, ⟨0, fs.getD k Frm.zero⟩] := z3; rw [z2] at q341; simp [Ev.bad] at q341
 rw [hs]
 exact ⟨rfl, U340⟩
 have q341p := eq_of_bnei q341
 refine skn <| sq <| x64 (RdE.elt (OwnV.own rd335).rd 0 (by (try simp only [List.length_set, List.length_append]); omega) (Ev.bad 0)) fun b382 o383 cl384 t385 fr386 s387 hA388 hb389 hv390 hs391 => Rg 22 (fun w' => w'.cell? ⟨b382, o383 + 0 * 25 + 0, none⟩ = some (.int .i64 ((L317.getD 0 (Ev.bad 0)).e)) ∧ w'.heap[b257]? = some (.cells cl259 t260 fr261)) fun w416 hu417 => ?_
 have r419 := ub hu417 hb389
 have U420 := ut0 hu287 hu297
 have U421 := ut U420 hu303 (all_app (ob_new ow298 hu287.size) all0)
 have U422 := ut U421 hu310 (all_app (ob_new ho302 hu287.size) all0)
 have U423 := ut (Upd.mono (S' := (g242 :: (ob Ah ++ []))) U422 all0) hu328 (ac im (all_app (fun x hx => Or.inl (by simp [hx])) all0))
 have U424 := ut0 U423 hu417
 have ne425 := nb (blk_lt hb264) hu11.size hg244
 have r426 := Upd.blk U424 (not_cons ne425 (not_app (not_old (blk_lt hb264) hu11.size (SmbAt.row f253)) not0)) r274
 refine hld ⟨(el_at r419 hs391 0 (by kernel_rfl) (by decide)), r426⟩ fun hS418 => Rt 0 hS418 <| Ri 1 hS418 25 L317.length 0 0 rfl hA388 (by (try simp only [List.length_set, List.length_append]); omega) <| Rt 2 hS418 <| Rl 3 hS418 (fun _ hs => hs.1) <| Rt 4 hS418 <| Rt 5 hS418 <| ?_
 have U427 := ut0 U340 hu417
 refine bla 78 ((((L317.getD 0 (Ev.bad 0)).e) != 3)) (fun q428 => ?_) (fun q428 => ?_)
 have q428p := ne_of_bnei q428
 refine Ro 6 hS418 <| Ro 7 hS418 <| Ro 8 hS418 <| Ro 9 hS418 <| Ro 10 hS418 <| Ro 11 hS418 <| Ro 12 hS418 <| Ro 13 hS418 <| Ro 14 hS418 <| Ro 15 hS418 <| Rt 16 hS418 <| Rt 17 hS418 <| Ro 18 hS418 <| Ro 19 hS418 <| ?_
 refine Ro 20 hS418 <| Rt 21 hS418 <| re <| tn <| c1 <| sg <| Pl 1 <| nt <| rt <| br <| tr <| tr <| ?_
 refine br <| tr <| rr (.bool false) <| ?_
 have U429 := ut (Upd.mono (S' := (g242 :: (ob Ah ++ []))) U314 all0) hu328 (ac im (all_app (fun x hx => Or.inl (by simp [hx])) all0))
 have U430 := ut0 U429 hu417
 have r431 := MsgRd.old (hv265.1) U427
 have hs : false = true := by obtain ⟨z1, z3⟩ := smb_writes (by decide) (r431).rngs (hv265.2.2) hX277 (n := 255 + z) (by omega) (by omega) (by omega) hX318; have z2 : L317 = [Ev.bad 3, ⟨0, fs.getD k Frm.zero⟩] := z3; rw [z2] at q428; simp [Ev.bad] at q428
 rw [hs]
 exact ⟨rfl, U427⟩
 have q428p := eq_of_bnei q428
 refine Rt 6 hS418 <| Rt 9 hS418 <| Rt 10 hS418 <| Ri 11 hS418 24 fs.length k ((k : Nat) : Int) rfl hA263 (by (try simp only [List.length_set, List.length_append]); omega) <| Rr 12 hS418 (.agg (fcl ((fs.getD k Frm.zero).unit) ((fs.getD k Frm.zero).tid) ((fs.getD k Frm.zero).msg) s262)) (fun w' hs => lda_o (g := b257) (off := o258 + k * 24) [.int .u8 ((fs.getD k Frm.zero).unit), .int .u16 ((fs.getD k Frm.zero).tid), .int .u8 ((fs.getD k Frm.zero).msg.code), .int .u8 ((fs.getD k Frm.zero).msg.fail), .int .u16 ((fs.getD k Frm.zero).msg.addr), .int .u16 ((fs.getD k Frm.zero).msg.count), .int .u16 ((fs.getD k Frm.zero).msg.value), .int .u16 ((fs.getD k Frm.zero).msg.and_), .int .u16 ((fs.getD k Frm.zero).msg.or_), .int .u16 ((fs.getD k Frm.zero).msg.addr2), .int .u16 ((fs.getD k Frm.zero).msg.sub), .int .u16 ((fs.getD k Frm.zero).msg.status), .int .u16 ((fs.getD k Frm.zero).msg.events), .int .u16 ((fs.getD k Frm.zero).msg.messages), .slice s262.aw ((fs.getD k Frm.zero).msg.words.length) s262.kw, .slice s262.ab ((fs.getD k Frm.zero).msg.bits.length) s262.kb, .slice s262.ad ((fs.getD k Frm.zero).msg.data.length) s262.kd, .slice s262.ar ((fs.getD k Frm.zero).msg.recs.length) s262.kr, .int .u8 ((fs.getD k Frm.zero).msg.mei), .int .u8 ((fs.getD k Frm.zero).msg.kind), .int .u8 ((fs.getD k Frm.zero).msg.level), .int .u8 ((fs.getD k Frm.zero).msg.more), .int .u8 ((fs.getD k Frm.zero).msg.next), .slice s262.ao ((fs.getD k Frm.zero).msg.objects.length) s262.ko] rfl (by kernel_rfl) hs.2 (by kernel_rfl) (by kernel_rfl) hs266) <| Rt 13 hS418 <| ?_
 have r432 := own_stay rd335 hu417 (fun x hx => not0) (fun x cs q => evLow.upd hu417 apt_nil q)
 refine x64 (RdE.elt (OwnV.own r432).rd 1 (by (try simp only [List.length_set, List.length_append]); omega) (Ev.bad 0)) fun b433 o434 cl435 t436 fr437 s438 hA439 hb440 hv441 hs442 => R0 7 rfl <| Oixs 25 L317.length 1 hA439 (by (try simp only [List.length_set, List.length_append]); omega) <| hld ⟨(el_at r419 hs391 0 (by kernel_rfl) (by decide)), r426⟩ fun hS443 => R0 8 rfl <| Oel [.int .i64 ((L317.getD 1 (Ev.bad 0)).e), .int .u8 ((L317.getD 1 (Ev.bad 0)).f.unit), .int .u16 ((L317.getD 1 (Ev.bad 0)).f.tid), .int .u8 ((L317.getD 1 (Ev.bad 0)).f.msg.code), .int .u8 ((L317.getD 1 (Ev.bad 0)).f.msg.fail), .int .u16 ((L317.getD 1 (Ev.bad 0)).f.msg.addr), .int .u16 ((L317.getD 1 (Ev.bad 0)).f.msg.count), .int .u16 ((L317.getD 1 (Ev.bad 0)).f.msg.value), .int .u16 ((L317.getD 1 (Ev.bad 0)).f.msg.and_), .int .u16 ((L317.getD 1 (Ev.bad 0)).f.msg.or_), .int .u16 ((L317.getD 1 (Ev.bad 0)).f.msg.addr2), .int .u16 ((L317.getD 1 (Ev.bad 0)).f.msg.sub), .int .u16 ((L317.getD 1 (Ev.bad 0)).f.msg.status), .int .u16 ((L317.getD 1 (Ev.bad 0)).f.msg.events), .int .u16 ((L317.getD 1 (Ev.bad 0)).f.msg.messages), .slice s438.aw ((L317.getD 1 (Ev.bad 0)).f.msg.words.length) s438.kw, .slice s438.ab ((L317.getD 1 (Ev.bad 0)).f.msg.bits.length) s438.kb, .slice s438.ad ((L317.getD 1 (Ev.bad 0)).f.msg.data.length) s438.kd, .slice s438.ar ((L317.getD 1 (Ev.bad 0)).f.msg.recs.length) s438.kr, .int .u8 ((L317.getD 1 (Ev.bad 0)).f.msg.mei), .int .u8 ((L317.getD 1 (Ev.bad 0)).f.msg.kind), .int .u8 ((L317.getD 1 (Ev.bad 0)).f.msg.level), .int .u8 ((L317.getD 1 (Ev.bad 0)).f.msg.more), .int .u8 ((L317.getD 1 (Ev.bad 0)).f.msg.next), .slice s438.ao ((L317.getD 1 (Ev.bad 0)).f.msg.objects.length) s438.ko] hb440 hs442 <| hld ⟨(el_at r419 hs391 0 (by kernel_rfl) (by decide)), r426⟩ fun hS444 => ?_
 have U445 := ut (Upd.mono (S' := (g242 :: (ob Ah ++ []))) U314 all0) hu328 (ac im (all_app (fun x hx => Or.inl (by simp [hx])) all0))
 have U446 := ut0 U445 hu417
 have r447 := MsgRd.old (hv265.1) U427
 refine R0 14 rfl <| Oc <| m1 (same19_any (A := (L317.getD 1 (Ev.bad 0))) (B := (Ev.mk 0 (fs.getD k Frm.zero))) (hv441.1) r447) fun w448 hu449 => ?_
 have r451 := ub hu449 r419
 have r452 := ub hu449 r426
 refine hld ⟨(el_at r451 hs391 0 (by kernel_rfl) (by decide)), r452⟩ fun hS450 => Rt 15 hS450 <| Rt 16 hS450 <| Rt 17 hS450 <| ?_
 have U453 := ut0 U427 hu449
 refine bla 90 ((!(decide ((L317.getD 1 (Ev.bad 0)) = (Ev.mk 0 (fs.getD k Frm.zero)))))) (fun q454 => ?_) (fun q454 => ?_)
 have q454n : (decide ((L317.getD 1 (Ev.bad 0)) = (Ev.mk 0 (fs.getD k Frm.zero)))) = false := by simpa using q454
 have q454np := of_decide_eq_false q454n
 refine Ro 18 hS450 <| Ro 19 hS450 <| Ro 20 hS450 <| Rt 21 hS450 <| re <| tn <| c1 <| sg <| Pl 1 <| nt <| rt <| br <| ?_
 refine tr <| tr <| br <| tr <| rr (.bool false) <| ?_
 have r455 := MsgRd.old r447 hu449
 have hs : false = true := by obtain ⟨z1, z3⟩ := smb_writes (by decide) (r455).rngs (hv265.2.2) hX277 (n := 255 + z) (by omega) (by omega) (by omega) hX318; have z2 : L317 = [Ev.bad 3, ⟨0, fs.getD k Frm.zero⟩] := z3; rw [z2] at q454n; simp [Ev.bad] at q454n
 rw [hs]
 exact ⟨rfl, U453⟩
 have q454n : (decide ((L317.getD 1 (Ev.bad 0)) = (Ev.mk 0 (fs.getD k Frm.zero)))) = true := by simpa using q454
 have q454np := of_decide_eq_true q454n
 refine Rt 18 hS450 <| ?_
 have U458 := ut0 hu417 hu449
 have r459 := SmbAt.upd hA325 U458 not0 (fun x hx => not0)
 refine R0 19 rfl <| Oc <| m1 (smb_held r459) fun w456 hu457 => ?_
 have r461 := ub hu457 r451
 have r462 := ub hu457 r452
 refine hld ⟨(el_at r461 hs391 0 (by kernel_rfl) (by decide)), r462⟩ fun hS460 => Rt 20 hS460 <| Rt 21 hS460 <| re <| tn <| ?_
 have U463 := ut0 U453 hu457
 refine cb ((((S316.held.length : Nat) : Int) != 0)) (fun q464 => ?_) (fun q464 => ?_)
 have q464p := ne_of_bnei q464
 refine sg <| Pl 1 <| nt <| rt <| br <| tr <| tr <| br <| tr <| rr (.bool false) <| ?_
 have U465 := ut0 hu449 hu457
 have r466 := MsgRd.old r447 U465
 have hs : false = true := by obtain ⟨z1, z3⟩ := smb_writes (by decide) (r466).rngs (hv265.2.2) hX277 (n := 255 + z) (by omega) (by omega) (by omega) hX318; have z2 : L317 = [Ev.bad 3, ⟨0, fs.getD k Frm.zero⟩] := z3; rw [z1] at q464; simp [Ev.bad] at q464
 rw [hs]
 exact ⟨rfl, U463⟩
 have q464p := eq_of_bnei q464
 refine sk <| bn <| tn <| go <| Pl 1 <| L0 <| Oi (((k : Nat) : Int) + 1) <| Pl 1 <| nl <| ?_
 have r467 := SmbAt.upd r459 hu457 not0 (fun x hx => not0)
 have hT := r467
 have U468 := ut0 hu449 hu457
 have r469 := MsgRd.old r447 U468
 rw [(smb_writes (by decide) (r469).rngs (hv265.2.2) hX277 (n := 255 + z) (by omega) (by omega) (by omega) hX318).1] at hT
 exact lpe ((k + 1), A320, cp321, n322) ⟨U463, (le (le (le (le (le (le (le (le (le hz252 hu271.size) hu287.size) hu297.size) hu303.size) hu310.size) hu328.size) hu417.size) hu449.size) hu457.size), hT, (by (try dsimp only); omega)⟩ (by omega)
 have q256p := of_decide_eq_false q256
 refine xt <| tx <| tx <| bx <| tn <| sg <| Pl 2 <| nt <| rt <| rr (.bool true) <| ?_
 exact ⟨rfl, U255⟩
theorem lawSmbapWritesV {w : World} {ans : Bool} {z : Int} (hz : 0 ≤ z ∧ z < 256) {mF : Bool} {vF : Value} {fs : List Frm} (hF : RdF mF w vF fs) : Calls Tryz.prog 8 #[.bool ans, vF, .int .u8 z] w (PVal (.bool true) w) := by
  obtain ⟨A0, cp0, rfl, _, _⟩ := hF.shape
  exact lawSmbapWrites (ans := ans) (z := z) (hz := hz)  hF
end Go.Proofs.YtgjlbabefogepaaGreat
namespace Go.Proofs.YtgjlbabefogepaaGreat
open Go.ChangeShapes Go.WideShapes Go.ChangeAt Go.RowKit
theorem own : ownKnob Tryz.prog.godebug = none := by kernel_rfl
theorem laidOut : laidOutB Tryz.prog = true := by kernel_rfl
set_option maxRecDepth 100000 in
theorem lifted (os : Os) (started : os.Started) (H : Type) (enc : TypeId × Value → H) :
    ReturnsInHanded {} Tryz.checked os 8 .any (Rows.smbapWritesSpec.pre6 enc Tryz.prog Tryz.f8 Rows.smbapWritesRow.domain false) (Rows.smbapWritesSpec.post enc Tryz.prog Tryz.f8 false true false false) := by
  refine returnsInHanded_of_change (C := Tryz.checked) own started (by kernel_rfl) Tryz.func8
    (ChangeSpec.witness6 (enc := enc) (C := Tryz.checked) false ⟨#[], #[.bool false, .slice none 0 0, .int .u8 0], []⟩ 8 (by kernel_rfl) (by kernel_rfl) (by kernel_rfl) (by kernel_rfl)) ?_
  intro W base args ds gs before hval0 hW hcnd _
  have hval : ∀ (j : Nat) t v, Tryz.f8.params[j]? = some t → args[j]? = some v → Value.okWide Tryz.prog W .any base t v := hval0
  have hW' := hW
  obtain ⟨p, q, hA0, hV, rfl, hfz, hnd⟩ := hW
  have hA : DataW.TrodAll enc Tryz.prog W 0 (fun _ => true) true Tryz.f8.params.toList args.toList ds p := hA0
  rw [Tryz.params8] at hA hval
  obtain ⟨v0, vs0, d0, ds0, p0, q0, hargs, rfl, rfl, h0, r0⟩ := trodAll_cons hA
  obtain ⟨v1, vs1, d1, ds1, p1, q1, rfl, rfl, rfl, h1, r1⟩ := trodAll_cons r0
  obtain ⟨v2, vs2, d2, ds2, p2, q2, rfl, rfl, rfl, h2, r2⟩ := trodAll_cons r1
  obtain ⟨rfl, rfl, rfl⟩ := trodAll_nil r2
  obtain rfl : args = #[v0, v1, v2] := by cases args; simp_all
  obtain ⟨rfl, rfl⟩ := trodVars_none hV
  obtain ⟨a0, rfl, rfl, rfl⟩ := open_bool Tryz.underlying4 (hval 0 4 v0 rfl rfl) h0
  have k1 := h1
  have lt1 : ∀ x ∈ p1, x.block < W.heap.size := by obtain ⟨m, hm⟩ := k1; exact DataW.trod_lt m _ _ _ hm
  obtain ⟨s1, len1, cap1, rfl⟩ := okWide_slice Tryz.underlying58 (hval 1 58 v1 rfl rfl)
  obtain ⟨u1, xs1, e1, R1⟩ : ∃ u xs, [Value.slice s1 len1 cap1] = [u] ∧ RdF false W u xs := by
    obtain ⟨fuel, hf⟩ := k1
    exact fs_open hf
  obtain rfl : Value.slice s1 len1 cap1 = u1 := by simpa using e1
  obtain ⟨a2, rfl, rfl, rfl, w2⟩ := open_int Tryz.underlying5 (hval 2 5 v2 rfl rfl) h2
  have b2 := bounds_u8 w2
  clear hA0 hval0
  refine (lawSmbapWritesV (ans := a0) (hz := (by omega)) R1).mono fun e W' ⟨he, hu⟩ => ?_
  have bel := upd_below hu
  subst he
  exact ⟨_, rfl, _, _, _, [], _, [], hW', trodAll_mk1 (shut_bool Tryz.underlying4 _), (trodAll_cons_mk (shut_bool Tryz.underlying4 _) (trodAll_cons_mk (Below.trod laidOut (by kernel_rfl) (of_decide_eq_true (by kernel_rfl)) k1 bel lt1) (trodAll_cons_mk (shut_int Tryz.underlying5 w2) trodAll_mk0))), rfl, bel.frame _, fun h => by cases h⟩
theorem over : Rows.smbapWritesRow.holds Tryz.pinned (OpenSpec.ofChange Rows.smbapWritesSpec) :=
  OpenClaim.holds_of_wide 8 Tryz.f8 rfl rfl rfl rfl rfl rfl rfl ⟨rfl, rfl, rfl, rfl, rfl⟩ rfl rfl rfl rfl rfl (by kernel_rfl) Tryz.func8 (by kernel_rfl)
    (of_decide_eq_true (by kernel_rfl)) (by unfold Func.isWrapper; first | (rw [if_pos (by decide +kernel)]; kernel_rfl) | (rw [if_neg (by decide +kernel)]; exact ⟨rfl, rfl⟩))
    (fun os started H enc _ => lifted os started H enc)
theorem proved : Rows.SmbapWritesSaid := over
#print axioms proved
end Go.Proofs.YtgjlbabefogepaaGreat
