/- The statement PduCuts holds; no condition of its own. -/
import Derived.Test.YtbaeecmamacphaaKA1
import Derived.Test.YtbaeecmamacphaaKA2
import Derived.Test.YtbaeecmamacphaaKA3
import Derived.Test.YtbaeecmamacphaaKA4
import Derived.Test.YtbaeecmamacphaaKA5
import Derived.Test.YtbaeecmamacphaaRows
import Derived.WalkKit
import Derived.ProofKit
import Derived.OpenShut
import Derived.ShutString
import Derived.ChangeOld
import Derived.Below
set_option linter.unusedVariables false
set_option linter.unusedSimpArgs false
namespace Go.Proofs.Ytbaeecmamacphaa
def Byt (C : Cur) : Prop := ∀ x, x ∈ C.l → 0 ≤ x ∧ x < 256
theorem nd_ok {C : Cur} {ok : Bool} {x : Int} (hx : x ≠ 0) (h : (C.need ok x).e = 0) : C.e = 0 ∧ ok = true := by
  unfold Cur.need at h
  split at h
  · exact absurd h hx
  · rename_i hh
    refine ⟨h, ?_⟩
    cases ok
    · exact absurd ⟨h, rfl⟩ hh
    · rfl
theorem by_ok {C : Cur} {n : Int} (h : (C.bytesC n).e = 0) : C.e = 0 ∧ C.l = C.bytesR n ++ (C.bytesC n).l ∧ ((C.bytesR n).length : Int) = n := by
  unfold Cur.bytesC at h ⊢
  unfold Cur.bytesR
  split at h
  · exfalso
    unfold Cur.need at h
    split at h
    · cases h
    · rename_i hh
      exact hh ⟨h, rfl⟩
  · rename_i hf
    rw [if_neg hf, if_neg hf]
    refine ⟨h, (List.take_append_drop _ _).symm, ?_⟩
    unfold Cur.fails at hf
    simp only [Bool.or_eq_true, decide_eq_true_eq, not_or] at hf
    rw [List.length_take]
    omega
theorem putW_takeW : ∀ (l : List Int), l.length % 2 = 0 → (∀ x, x ∈ l → 0 ≤ x ∧ x < 256) → putW (takeW l) = l
  | [], _, _ => rfl
  | [_], h, _ => by simp at h
  | a :: b :: r, h, hr => by
    have ha := hr a (by simp)
    have hb := hr b (by simp)
    simp only [takeW, putW]
    rw [putW_takeW r (by simp at h; omega) (fun x hx => hr x (by simp [hx]))]
    congr 1
    · omega
    · congr 1
      omega
theorem wo_ok {C : Cur} {n : Int} (hr : Byt C) (h : (C.wordsC n).e = 0) : C.e = 0 ∧ C.l = putW (C.wordsR n) ++ (C.wordsC n).l ∧ ((C.wordsR n).length : Int) = n := by
  unfold Cur.wordsC at h ⊢
  unfold Cur.wordsR
  split at h
  · obtain ⟨_, _, h3⟩ := by_ok h
    omega
  · rename_i hb
    rw [if_neg hb, if_neg hb]
    obtain ⟨h1, h2, h3⟩ := by_ok h
    have h4 : (C.bytesR (2 * n)).length % 2 = 0 := by omega
    have h5 : ∀ x, x ∈ C.bytesR (2 * n) → 0 ≤ x ∧ x < 256 := fun x hx => hr x (by rw [h2]; exact List.mem_append_left _ hx)
    unfold wordTake
    rw [if_pos h4]
    refine ⟨h1, by rw [putW_takeW _ h4 h5]; exact h2, ?_⟩
    rw [takeW_length]
    omega
def Eat (C : Cur) (l : List Int) (C' : Cur) : Prop := Byt C → Byt C' ∧ (C'.e = 0 → C.e = 0 ∧ C.l = l ++ C'.l)
theorem Eat.trans {A B C : Cur} {l m : List Int} (h : Eat A l B) (k : Eat B m C) : Eat A (l ++ m) C := fun hr => by
  obtain ⟨h1, h2⟩ := h hr
  obtain ⟨k1, k2⟩ := k h1
  refine ⟨k1, fun he => ?_⟩
  obtain ⟨k3, k4⟩ := k2 he
  obtain ⟨h3, h4⟩ := h2 k3
  exact ⟨h3, by rw [h4, k4, List.append_assoc]⟩
theorem Eat.refl (C : Cur) : Eat C [] C := fun hr => ⟨hr, fun he => ⟨he, rfl⟩⟩
theorem Eat.need {A C : Cur} {l : List Int} {ok : Bool} {x : Int} (h : Eat A l C) (hx : x ≠ 0 := by decide) : Eat A l (C.need ok x) := fun hr => by
  obtain ⟨h1, h2⟩ := h hr
  refine ⟨fun y hy => h1 y (by rwa [need_l] at hy), fun he => ?_⟩
  rw [need_l]
  exact h2 (nd_ok hx he).1
theorem Eat.bytes {A C : Cur} {l : List Int} (h : Eat A l C) (n : Int) : Eat A (l ++ C.bytesR n) (C.bytesC n) := h.trans fun hr => ⟨bytesC_rng hr n, fun he => ⟨(by_ok he).1, (by_ok he).2.1⟩⟩
theorem Eat.words {A C : Cur} {l : List Int} (h : Eat A l C) (n : Int) : Eat A (l ++ putW (C.wordsR n)) (C.wordsC n) := h.trans fun hr => ⟨wordsC_rng hr n, fun he => ⟨(wo_ok hr he).1, (wo_ok hr he).2.1⟩⟩
theorem one_of {l : List Int} (h : (l.length : Int) = 1) : l = [l.getD 0 0] := by
  match l, h with
  | [a], _ => rfl
  | [], h => simp at h
  | _ :: _ :: _, h => simp at h; omega
theorem Eat.byte {A C : Cur} {l : List Int} (h : Eat A l C) : Eat A (l ++ [C.byteV]) (C.bytesC 1) := h.trans fun hr => ⟨bytesC_rng hr 1, fun he => by
  obtain ⟨h1, h2, h3⟩ := by_ok he
  refine ⟨h1, ?_⟩
  have := one_of h3
  show C.l = [(C.bytesR 1).getD 0 0] ++ _
  rw [← this]
  exact h2⟩
theorem Eat.word {A C : Cur} {l : List Int} (h : Eat A l C) : Eat A (l ++ putW [C.wordV]) (C.wordsC 1) := h.trans fun hr => ⟨wordsC_rng hr 1, fun he => by
  obtain ⟨h1, h2, h3⟩ := wo_ok hr he
  refine ⟨h1, ?_⟩
  have := one_of h3
  show C.l = putW [(C.wordsR 1).getD 0 0] ++ _
  rw [← this]
  exact h2⟩
theorem Eat.fin {A C : Cur} {l : List Int} (h : Eat A l C) (hr : Byt A) (he : C.endC.e = 0) : C.e = 0 ∧ A.l = l := by
  unfold Cur.endC at he
  obtain ⟨h1, h2⟩ := nd_ok (by decide) he
  obtain ⟨_, h3⟩ := (h hr).2 h1
  have : C.l = [] := by
    simp only [beq_iff_eq] at h2
    exact List.eq_nil_of_length_eq_zero (by omega)
  exact ⟨h1, by rw [h3, this, List.append_nil]⟩
theorem byteV_rng' {C : Cur} (hr : Byt C) : 0 ≤ C.byteV ∧ C.byteV < 256 := by
  unfold Cur.byteV
  rw [List.getD_eq_getElem?_getD]
  cases h : (C.bytesR 1)[0]? with
  | none => simp
  | some x =>
    have hm : x ∈ C.bytesR 1 := List.mem_of_getElem? h
    have : x ∈ C.l := by
      unfold Cur.bytesR at hm
      split at hm
      · cases hm
      · exact List.mem_of_mem_take hm
    exact hr x this
theorem eat_span (C : Cur) (most : Int) : Eat C (putW [C.wordV, (C.wordsC 1).wordV]) (spanC C most) := by
  have := (((Eat.refl C).word).word)
  exact (this.need).need
theorem bits256 : ∀ n : Nat, n < 256 → (((if ((n : Int) / 2 ^ 0 % 2 == 1) then 1 else 0) + (if ((n : Int) / 2 ^ 1 % 2 == 1) then 2 else 0) + (if ((n : Int) / 2 ^ 2 % 2 == 1) then 4 else 0) + (if ((n : Int) / 2 ^ 3 % 2 == 1) then 8 else 0) + (if ((n : Int) / 2 ^ 4 % 2 == 1) then 16 else 0) + (if ((n : Int) / 2 ^ 5 % 2 == 1) then 32 else 0) + (if ((n : Int) / 2 ^ 6 % 2 == 1) then 64 else 0) + (if ((n : Int) / 2 ^ 7 % 2 == 1) then 128 else 0) : Nat) : Int) = n := by decide +kernel
theorem byteOf_unpack {x : Int} (hx : 0 ≤ x ∧ x < 256) (f : Nat → Bool) (hf : ∀ i, i < 8 → f i = (x / 2 ^ i % 2 == 1)) :
    (((if f 0 then 1 else 0) + (if f 1 then 2 else 0) + (if f 2 then 4 else 0) + (if f 3 then 8 else 0) + (if f 4 then 16 else 0) + (if f 5 then 32 else 0) + (if f 6 then 64 else 0) + (if f 7 then 128 else 0) : Nat) : Int) = x := by
  rw [hf 0 (by decide), hf 1 (by decide), hf 2 (by decide), hf 3 (by decide), hf 4 (by decide), hf 5 (by decide), hf 6 (by decide), hf 7 (by decide)]
  obtain ⟨n, rfl⟩ := Int.eq_ofNat_of_zero_le hx.1
  exact bits256 n (by omega)
theorem pack_unpack {b : List Int} {n : Int} {l : List Bool} (hr : ∀ x, x ∈ b → 0 ≤ x ∧ x < 256) (h : unpackB b n = some l) : packB l = b := by
  unfold unpackB at h
  split at h
  · rename_i hc
    split at h
    · rename_i hall
      injection h with h
      subst h
      have hlen : ((List.range n.toNat).map (bitAt b)).length = n.toNat := by simp
      have hm : ((List.range n.toNat).map (bitAt b)).length = n := by rw [hlen]; omega
      unfold packB
      rw [hm, ← hc.2]
      apply List.ext_getElem
      · simp
      intro j h1 h2
      simp only [List.getElem_map, List.getElem_range]
      have hj : j < b.length := h2
      have hget : ∀ i, i < 8 * b.length → ((List.range n.toNat).map (bitAt b)).getD i false = bitAt b i := fun i hi => by
        rw [List.getD_eq_getElem?_getD, List.getElem?_map]
        by_cases hin : i < n.toNat
        · rw [List.getElem?_range hin]; rfl
        · rw [List.getElem?_eq_none (by simpa using hin)]
          rw [List.all_eq_true] at hall
          have := hall i (by simpa using hi)
          simp only [Bool.or_eq_true, decide_eq_true_eq, Bool.not_eq_true'] at this
          rcases this with h3 | h3
          · omega
          · simp [h3]
      have hx : ∀ k, k < 8 → bitAt b (8 * j + k) = (b[j] / 2 ^ k % 2 == 1) := fun k hk => by
        unfold bitAt
        rw [show (8 * j + k) / 8 = j from by omega, show (8 * j + k) % 8 = k from by omega, List.getD_eq_getElem?_getD, List.getElem?_eq_getElem hj]
        rfl
      unfold byteOf
      rw [show (8 * j : Nat) = 8 * j + 0 from rfl]
      simp only [hget _ (show 8 * j + 0 < 8 * b.length by omega), hget _ (show 8 * j + 0 + 1 < 8 * b.length by omega), hget _ (show 8 * j + 0 + 2 < 8 * b.length by omega), hget _ (show 8 * j + 0 + 3 < 8 * b.length by omega), hget _ (show 8 * j + 0 + 4 < 8 * b.length by omega), hget _ (show 8 * j + 0 + 5 < 8 * b.length by omega), hget _ (show 8 * j + 0 + 6 < 8 * b.length by omega), hget _ (show 8 * j + 0 + 7 < 8 * b.length by omega)]
      exact byteOf_unpack (hr _ (List.getElem_mem hj)) (fun k => bitAt b (8 * j + k)) hx
    · cases h
  · cases h
end Go.Proofs.Ytbaeecmamacphaa
namespace Go.Proofs.Ytbaeecmamacphaa
theorem some_pair {α β : Type} {p : α × β} {a : α} {b : β} (h : some p = some (a, b)) : p.1 = a ∧ p.2 = b := by
  injection h with h
  rw [h]
  exact ⟨rfl, rfl⟩
theorem asks_lb {C : Cur} {most c : Int} (hr : Byt C) (he : (asksR most c C).1.endC.e = 0) : putW [C.wordV, (C.wordsC 1).wordV] = C.l := ((eat_span C most).fin hr he).2.symm
theorem ctold_lb {C : Cur} {c : Int} (hr : Byt C) (he : (ctoldR c C).1.endC.e = 0) : [(((toldC2 C).bytesR C.byteV).length : Int) % 256] ++ (toldC2 C).bytesR C.byteV = C.l := by
  have hbv := byteV_rng' hr
  have hE : Eat C ([] ++ [C.byteV] ++ (toldC2 C).bytesR C.byteV) ((toldC2 C).bytesC C.byteV) := (((Eat.refl C).byte).need).bytes _
  obtain ⟨h1, h2⟩ := hE.fin hr he
  obtain ⟨_, _, h3⟩ := by_ok h1
  rw [h2, h3, Int.emod_eq_of_lt hbv.1 hbv.2]
  rfl
theorem csets_lb {C : Cur} {c : Int} (hr : Byt C) (he : (csetsR c C).1.endC.e = 0) : putW [C.wordV, (C.wordsC 1).wordV] = C.l := by
  have hE : Eat C ([] ++ putW [C.wordV] ++ putW [(C.wordsC 1).wordV]) (setsC C) := (((Eat.refl C).word).word).need
  rw [(hE.fin hr he).2]
  rfl
theorem csm_lb {C : Cur} {c : Int} (hr : Byt C) (he : (csmR c C).1.endC.e = 0) : (putW [C.wordV, (C.wordsC 1).wordV] ++ [((packB ((smU C).getD [])).length : Int) % 256]) ++ packB ((smU C).getD []) = C.l := by
  have hE : Eat C (putW [C.wordV, (C.wordsC 1).wordV] ++ [(spanC C 1968).byteV] ++ (smC2 C).bytesR (smK C)) (smC C) := (((((eat_span C 1968).byte).need).bytes _).need)
  obtain ⟨h1, h2⟩ := hE.fin hr he
  obtain ⟨h3, h4⟩ := nd_ok (by decide) h1
  obtain ⟨_, _, h5⟩ := by_ok h3
  obtain ⟨l, hl⟩ := Option.isSome_iff_exists.1 h4
  have hB : ∀ x, x ∈ (smC2 C).bytesR (smK C) → 0 ≤ x ∧ x < 256 := fun x hx => hr x (by rw [h2]; exact List.mem_append_right _ hx)
  have h6 : packB l = (smC2 C).bytesR (smK C) := pack_unpack hB hl
  have hk : 0 ≤ smK C ∧ smK C < 256 := byteV_rng' ((eat_span C 1968) hr).1
  rw [hl]
  show (putW [C.wordV, (C.wordsC 1).wordV] ++ [((packB l).length : Int) % 256]) ++ packB l = C.l
  rw [h6, h2, h5, Int.emod_eq_of_lt hk.1 hk.2]
  rfl
theorem coils_lb {dir c : Int} {C C' : Cur} {M : Msg} (hd : dir = 0 ∨ dir = 1) (hr : Byt C) (h : coilsForm dir c C = some (C', M)) (he : C'.endC.e = 0) : coilsLay dir M = C.l := by
  unfold coilsForm at h
  split at h
  · rename_i hc
    simp only [Bool.or_eq_true, beq_iff_eq] at hc
    rcases hd with rfl | rfl
    · have h : some (asksR 2000 c C) = some (C', M) := h
      obtain ⟨rfl, rfl⟩ := some_pair h
      rcases hc with rfl | rfl <;> exact asks_lb hr he
    · have h : some (ctoldR c C) = some (C', M) := h
      obtain ⟨rfl, rfl⟩ := some_pair h
      rcases hc with rfl | rfl <;> exact ctold_lb hr he
  split at h
  · rename_i hc
    obtain rfl : c = 5 := by simpa using hc
    obtain ⟨rfl, rfl⟩ := some_pair h
    exact csets_lb hr he
  split at h
  · rename_i hc
    obtain rfl : c = 15 := by simpa using hc
    rcases hd with rfl | rfl
    · have h : some (csmR 15 C) = some (C', M) := h
      obtain ⟨rfl, rfl⟩ := some_pair h
      exact csm_lb hr he
    · have h : some (asksR 1968 15 C) = some (C', M) := h
      obtain ⟨rfl, rfl⟩ := some_pair h
      exact asks_lb hr he
  · cases h
theorem eat_rspan {A C : Cur} {l : List Int} (h : Eat A l C) (a most : Int) : Eat A (l ++ putW [C.wordV]) (rspanC C a most) := ((h.word).need).need
theorem even2 {n hi : Int} (h : evenIn n hi = true) : n % 2 = 0 ∧ 2 ≤ n ∧ n ≤ hi := by
  unfold evenIn at h
  simp only [Bool.and_eq_true, decide_eq_true_eq, beq_iff_eq] at h
  exact ⟨h.1.1, h.1.2, h.2⟩
theorem rtold_lb {c : Int} {C : Cur} (hr : Byt C) (he : (rtoldR c C).1.endC.e = 0) : [(2 * (((told3 C).wordsR (C.byteV / 2)).length : Int)) % 256] ++ putW ((told3 C).wordsR (C.byteV / 2)) = C.l := by
  have hbv := byteV_rng' hr
  have hE0 : Eat C ([] ++ [C.byteV]) (told3 C) := ((Eat.refl C).byte).need
  have hE := hE0.words (C.byteV / 2)
  obtain ⟨h1, h2⟩ := hE.fin hr he
  obtain ⟨h3, _, h5⟩ := wo_ok (hE0 hr).1 h1
  obtain ⟨h6, h7, h8⟩ := even2 (nd_ok (by decide) h3).2
  rw [h2, h5, show (2 * (C.byteV / 2)) % 256 = C.byteV from by omega]
  rfl
theorem rasks_lb {most c : Int} {C : Cur} (hr : Byt C) (he : (rasksR most c C).1.endC.e = 0) : putW [C.wordV, (C.wordsC 1).wordV] = C.l := by
  rw [((eat_rspan (Eat.refl C).word C.wordV most).fin hr he).2]
  rfl
theorem rone_lb {c : Int} {C : Cur} (hr : Byt C) (he : (roneR c C).1.endC.e = 0) : putW [C.wordV, (C.wordsC 1).wordV] = C.l := by
  rw [(((Eat.refl C).word).word.fin hr he).2]
  rfl
theorem eat_counted {A C : Cur} {l : List Int} (h : Eat A l C) (n : Int) : Eat A (l ++ [C.byteV]) (countedC1 C n) := (h.byte).need
theorem rmany_lb {c : Int} {C : Cur} (hr : Byt C) (he : (rmanyR c C).1.endC.e = 0) : (putW [C.wordV, (C.wordsC 1).wordV] ++ [(2 * (((rmanyC C).wordsR (C.wordsC 1).wordV).length : Int)) % 256]) ++ putW ((rmanyC C).wordsR (C.wordsC 1).wordV) = C.l := by
  have hE0 : Eat C _ (rspanC (C.wordsC 1) C.wordV 123) := eat_rspan (Eat.refl C).word C.wordV 123
  have hE1 : Eat C _ (rmanyC C) := eat_counted hE0 (C.wordsC 1).wordV
  have hbv := byteV_rng' (hE0 hr).1
  obtain ⟨h1, h2⟩ := (hE1.words (C.wordsC 1).wordV).fin hr he
  obtain ⟨h3, _, h5⟩ := wo_ok (hE1 hr).1 h1
  have h6 := (nd_ok (by decide) h3).2
  simp only [beq_iff_eq] at h6
  rw [h5, ← h6, Int.emod_eq_of_lt hbv.1 hbv.2, h2]
  rfl
theorem rmask_lb {c : Int} {C : Cur} (hr : Byt C) (he : (rmaskR c C).1.endC.e = 0) : putW [C.wordV, (C.wordsC 1).wordV, ((C.wordsC 1).wordsC 1).wordV] = C.l := by
  rw [(((Eat.refl C).word).word.word.fin hr he).2]
  rfl
theorem rboth_lb {c : Int} {C : Cur} (hr : Byt C) (he : (rbothR c C).1.endC.e = 0) : (putW [C.wordV, (C.wordsC 1).wordV, (rspanC (C.wordsC 1) C.wordV 125).wordV, (((rbothC C).wordsR (both1 C).wordV).length : Int) % 65536] ++ [(2 * (((rbothC C).wordsR (both1 C).wordV).length : Int)) % 256]) ++ putW ((rbothC C).wordsR (both1 C).wordV) = C.l := by
  have hE0 : Eat C _ (both1 C) := (eat_rspan (Eat.refl C).word C.wordV 125).word
  have hE1 : Eat C _ (both2 C) := eat_rspan hE0 (rspanC (C.wordsC 1) C.wordV 125).wordV 121
  have hE2 : Eat C _ (rbothC C) := eat_counted hE1 (both1 C).wordV
  have hbv := byteV_rng' (hE1 hr).1
  have hwv : 0 ≤ (both1 C).wordV ∧ (both1 C).wordV < 65536 := wordV_rng (hE0 hr).1
  obtain ⟨h1, h2⟩ := (hE2.words (both1 C).wordV).fin hr he
  obtain ⟨h3, _, h5⟩ := wo_ok (hE2 hr).1 h1
  have h6 := (nd_ok (by decide) h3).2
  simp only [beq_iff_eq] at h6
  rw [h5, Int.emod_eq_of_lt hwv.1 hwv.2, ← h6, Int.emod_eq_of_lt hbv.1 hbv.2, h2]
  rfl
theorem raskq_lb {c : Int} {C : Cur} (hr : Byt C) (he : (raskqR c C).1.endC.e = 0) : putW [C.wordV] = C.l := by
  rw [((Eat.refl C).word.fin hr he).2]
  rfl
theorem rq_lb {c : Int} {C : Cur} (hr : Byt C) (he : (rqR c C).1.endC.e = 0) : putW [(2 + 2 * (((q2C C).wordsR (q1C C).wordV).length : Int)) % 65536, (((q2C C).wordsR (q1C C).wordV).length : Int) % 65536] ++ putW ((q2C C).wordsR (q1C C).wordV) = C.l := by
  have hE0 : Eat C _ (q1C C) := ((Eat.refl C).word).need
  have hE1 : Eat C _ (q2C C) := (hE0.word).need
  have hwc : 0 ≤ C.wordV ∧ C.wordV < 65536 := wordV_rng hr
  have hwv : 0 ≤ (q1C C).wordV ∧ (q1C C).wordV < 65536 := wordV_rng (hE0 hr).1
  obtain ⟨h1, h2⟩ := (hE1.words (q1C C).wordV).fin hr he
  obtain ⟨h3, _, h5⟩ := wo_ok (hE1 hr).1 h1
  have h6 := (nd_ok (by decide) h3).2
  simp only [beq_iff_eq] at h6
  rw [h5, h6, Int.emod_eq_of_lt hwv.1 hwv.2, Int.emod_eq_of_lt hwc.1 hwc.2, h2]
  rfl
theorem regs_lb {dir c : Int} {C C' : Cur} {M : Msg} (hd : dir = 0 ∨ dir = 1) (hr : Byt C) (h : regsForm dir c C = some (C', M)) (he : C'.endC.e = 0) : regsLay dir M = C.l := by
  unfold regsForm at h
  split at h
  · rename_i hc
    simp only [Bool.or_eq_true, beq_iff_eq] at hc
    rcases hd with rfl | rfl
    · have h : some (rasksR 125 c C) = some (C', M) := h
      obtain ⟨rfl, rfl⟩ := some_pair h
      rcases hc with rfl | rfl <;> exact rasks_lb hr he
    · have h : some (rtoldR c C) = some (C', M) := h
      obtain ⟨rfl, rfl⟩ := some_pair h
      rcases hc with rfl | rfl <;> exact rtold_lb hr he
  split at h
  · rename_i hc
    obtain rfl : c = 6 := by simpa using hc
    obtain ⟨rfl, rfl⟩ := some_pair h
    rcases hd with rfl | rfl <;> exact rone_lb hr he
  split at h
  · rename_i hc
    obtain rfl : c = 16 := by simpa using hc
    rcases hd with rfl | rfl
    · have h : some (rmanyR 16 C) = some (C', M) := h
      obtain ⟨rfl, rfl⟩ := some_pair h
      exact rmany_lb hr he
    · have h : some (rasksR 123 16 C) = some (C', M) := h
      obtain ⟨rfl, rfl⟩ := some_pair h
      exact rasks_lb hr he
  split at h
  · rename_i hc
    obtain rfl : c = 22 := by simpa using hc
    obtain ⟨rfl, rfl⟩ := some_pair h
    rcases hd with rfl | rfl <;> exact rmask_lb hr he
  split at h
  · rename_i hc
    obtain rfl : c = 23 := by simpa using hc
    rcases hd with rfl | rfl
    · have h : some (rbothR 23 C) = some (C', M) := h
      obtain ⟨rfl, rfl⟩ := some_pair h
      exact rboth_lb hr he
    · have h : some (rtoldR 23 C) = some (C', M) := h
      obtain ⟨rfl, rfl⟩ := some_pair h
      exact rtold_lb hr he
  split at h
  · rename_i hc
    obtain rfl : c = 24 := by simpa using hc
    rcases hd with rfl | rfl
    · have h : some (raskqR 24 C) = some (C', M) := h
      obtain ⟨rfl, rfl⟩ := some_pair h
      exact raskq_lb hr he
    · have h : some (rqR 24 C) = some (C', M) := h
      obtain ⟨rfl, rfl⟩ := some_pair h
      exact rq_lb hr he
  · cases h
end Go.Proofs.Ytbaeecmamacphaa
namespace Go.Proofs.Ytbaeecmamacphaa
theorem Eat.conv {A C : Cur} {l l' : List Int} (h : Eat A l C) (k : Byt A → Byt C → C.e = 0 → l = l') : Eat A l' C := fun hr => by
  obtain ⟨h1, h2⟩ := h hr
  refine ⟨h1, fun he => ?_⟩
  rw [← k hr h1 he]
  exact h2 he
theorem line_lb {dir c : Int} {C : Cur} (hr : Byt C) (he : (lineR dir c C).1.endC.e = 0) : putW [(lineR dir c C).2.sub] ++ putW (lineR dir c C).2.words = C.l := by
  have hE0 : Eat C ([] ++ putW [C.wordV]) (line1 dir C) := ((Eat.refl C).word).need
  unfold lineR at he ⊢
  split at he
  · rename_i hw
    rw [if_pos hw]
    exact (((hE0.words 1).need).fin hr he).2.symm
  · rename_i hw
    rw [if_neg hw]
    exact (((hE0.need).words _).fin hr he).2.symm
theorem eat_ansL (C : Cur) (lo hi : Int) : Eat C ([] ++ [C.byteV]) (ansL C lo hi) := ((Eat.refl C).byte).need
theorem eat_busy {A C : Cur} {l : List Int} (h : Eat A l C) : Eat A (l ++ putW [C.wordV]) (busyC C) := (h.word).need
theorem ans_lb {c : Int} {C : Cur} (hc : c = 7 ∨ c = 11 ∨ c = 12 ∨ c = 17) (hr : Byt C) (he : (answerR c C).1.endC.e = 0) : diagLay 1 (answerR c C).2 = C.l := by
  have hbv := byteV_rng' hr
  rcases hc with rfl | rfl | rfl | rfl
  · have he : (C.bytesC 1).endC.e = 0 := he
    show [C.byteV % 256] = C.l
    rw [Int.emod_eq_of_lt hbv.1 hbv.2, ((Eat.refl C).byte.fin hr he).2]
    rfl
  · have he : ((busyC C).wordsC 1).endC.e = 0 := he
    show putW [C.wordV, (busyC C).wordV] = C.l
    rw [((eat_busy (Eat.refl C)).word.fin hr he).2]
    rfl
  · have he : ((ans12 C).bytesC (C.byteV - 6)).endC.e = 0 := he
    have hE := (((eat_busy (eat_ansL C 6 70)).word).word).bytes (C.byteV - 6)
    obtain ⟨h1, h2⟩ := hE.fin hr he
    obtain ⟨_, _, h3⟩ := by_ok h1
    show ([(6 + (((ans12 C).bytesR (C.byteV - 6)).length : Int)) % 256] ++ putW [(ansL C 6 70).wordV, (busyC (ansL C 6 70)).wordV, ((busyC (ansL C 6 70)).wordsC 1).wordV]) ++ (ans12 C).bytesR (C.byteV - 6) = C.l
    have h4 : (((ans12 C).bytesR (C.byteV - 6)).length : Int) = C.byteV - 6 := h3
    rw [h4, show (6 + (C.byteV - 6)) % 256 = C.byteV from by omega, h2]
    rfl
  · have he : ((ansL C 1 251).bytesC C.byteV).endC.e = 0 := he
    have hE := (eat_ansL C 1 251).bytes C.byteV
    obtain ⟨h1, h2⟩ := hE.fin hr he
    obtain ⟨_, _, h3⟩ := by_ok h1
    show [(((ansL C 1 251).bytesR C.byteV).length : Int) % 256] ++ (ansL C 1 251).bytesR C.byteV = C.l
    rw [h3, Int.emod_eq_of_lt hbv.1 hbv.2, h2]
    rfl
theorem ask_lb {c : Int} {C : Cur} (hc : c = 7 ∨ c = 11 ∨ c = 12 ∨ c = 17) (hr : Byt C) (he : C.endC.e = 0) : diagLay 0 { Msg.zero with code := c } = C.l := by
  have h := ((Eat.refl C).fin hr he).2
  rcases hc with rfl | rfl | rfl | rfl <;> exact h.symm
theorem diag_lb {dir c : Int} {C C' : Cur} {M : Msg} (hd : dir = 0 ∨ dir = 1) (hr : Byt C) (h : diagForm dir c C = some (C', M)) (he : C'.endC.e = 0) : diagLay dir M = C.l := by
  unfold diagForm at h
  split at h
  · rename_i hc
    obtain rfl : c = 8 := by simpa using hc
    obtain ⟨rfl, rfl⟩ := some_pair h
    have hco : (lineR dir 8 C).2.code = 8 := by unfold lineR; split <;> rfl
    unfold diagLay
    rw [hco, if_pos (by rfl)]
    exact line_lb hr he
  split at h
  · rename_i hc
    simp only [Bool.or_eq_true, beq_iff_eq] at hc
    have hc : c = 7 ∨ c = 11 ∨ c = 12 ∨ c = 17 := by omega
    rcases hd with rfl | rfl
    · have h : some (C, ({ Msg.zero with code := c } : Msg)) = some (C', M) := h
      obtain ⟨rfl, rfl⟩ := some_pair h
      exact ask_lb hc hr he
    · have h : some (answerR c C) = some (C', M) := h
      obtain ⟨rfl, rfl⟩ := some_pair h
      exact ans_lb hc hr he
  · cases h
theorem objs_eat : ∀ (n : Nat) (C : Cur) (L : List Obj), ∃ L', (objsR n C L).2 = L ++ L' ∧ L'.length = n ∧ Eat C (objB L') (objsR n C L).1
  | 0, C, L => ⟨[], by simp [objsR], rfl, Eat.refl C⟩
  | n + 1, C, L => by
    obtain ⟨L', h1, h2, h3⟩ := objs_eat n (((C.bytesC 1).bytesC 1).bytesC (C.bytesC 1).byteV) (L ++ [⟨C.byteV, ((C.bytesC 1).bytesC 1).bytesR (C.bytesC 1).byteV⟩])
    refine ⟨⟨C.byteV, ((C.bytesC 1).bytesC 1).bytesR (C.bytesC 1).byteV⟩ :: L', ?_, by simp [h2], ?_⟩
    · show (objsR n _ _).2 = _
      rw [h1]
      simp
    · have hE0 : Eat C _ ((C.bytesC 1).bytesC 1) := (Eat.refl C).byte.byte
      have hE1 : Eat C (([C.byteV, ((((C.bytesC 1).bytesC 1).bytesR (C.bytesC 1).byteV).length : Int) % 256]) ++ ((C.bytesC 1).bytesC 1).bytesR (C.bytesC 1).byteV) (((C.bytesC 1).bytesC 1).bytesC (C.bytesC 1).byteV) := (hE0.bytes _).conv fun hr _ he => by
        have hb := byteV_rng' ((Eat.refl C).byte hr).1
        rw [(by_ok he).2.2, Int.emod_eq_of_lt hb.1 hb.2]
        rfl
      exact hE1.trans h3
theorem mei_objs {c : Int} {C : Cur} (hr : Byt C) (he : (meiObjs (meiA C).byteV (meiD C)).1.endC.e = 0) : [C.byteV, (meiA C).byteV, (meiD C).byteV, (mei1 (meiD C)).byteV, (mei2 (meiD C)).byteV, ((meiObjs (meiA C).byteV (meiD C)).2.length : Int) % 256] ++ objB (meiObjs (meiA C).byteV (meiD C)).2 = C.l := by
  have hE0 : Eat C _ (meiA C) := (Eat.refl C).byte.need
  have hE1 : Eat C _ (meiD C) := hE0.byte.need
  have hE2 : Eat C _ (mei1 (meiD C)) := hE1.byte.need
  have hE3 : Eat C _ (mei2 (meiD C)) := hE2.byte.need
  have hE4 : Eat C _ (mei3 (meiD C)) := hE3.byte.need
  have hE5 : Eat C _ (mei4 (meiA C).byteV (meiD C)) := hE4.byte.need
  obtain ⟨L', h1, h2, h3⟩ := objs_eat (mei3 (meiD C)).byteV.toNat (mei4 (meiA C).byteV (meiD C)) []
  have hb := byteV_rng' (hE4 hr).1
  have h4 : (meiObjs (meiA C).byteV (meiD C)).2 = L' := by unfold meiObjs; rw [h1]; rfl
  obtain ⟨_, h5⟩ := (hE5.trans h3).fin hr he
  rw [h4, h2, show (((mei3 (meiD C)).byteV.toNat : Nat) : Int) % 256 = (mei3 (meiD C)).byteV from by omega, h5]
  rfl
theorem mei_lb {dir c : Int} {C C' : Cur} {M : Msg} (hd : dir = 0 ∨ dir = 1) (hr : Byt C) (h : meiForm dir c C = some (C', M)) (he : C'.endC.e = 0) : meiLay dir M = C.l := by
  have hE0 : Eat C _ (meiA C) := (Eat.refl C).byte.need
  unfold meiForm at h
  split at h
  · cases h
  split at h
  · rename_i hm
    obtain ⟨rfl, rfl⟩ := some_pair h
    have hE1 := (hE0.need (ok := decide (((meiA C).l.length : Int) ≤ 251)) (x := 5)).bytes ((meiB C).l.length : Int)
    obtain ⟨_, h5⟩ := hE1.fin hr he
    unfold meiLay
    rw [if_pos (show (C.byteV == 13) = true from hm), h5]
    rfl
  rename_i hm
  split at h
  · rename_i hc
    obtain rfl : dir = 1 := by simpa using hc
    obtain ⟨rfl, rfl⟩ := some_pair h
    unfold meiLay
    rw [if_neg (show ¬ (C.byteV == 13) = true from hm), if_neg (by decide)]
    exact mei_objs (c := c) hr he
  · rename_i hc
    obtain rfl : dir = 0 := by
      rcases hd with rfl | rfl
      · rfl
      · exact absurd rfl hc
    obtain ⟨rfl, rfl⟩ := some_pair h
    have hE1 : Eat C _ (meiD C) := hE0.byte.need
    obtain ⟨_, h5⟩ := hE1.byte.fin hr he
    unfold meiLay
    rw [if_neg (show ¬ (C.byteV == 13) = true from hm), if_pos (by rfl), h5]
    rfl
theorem recs_eat {one : Int → Cur → Int × Cur × Rec} {dir code : Int} (hl : ∀ s C, 0 < C.l.length → (one s C).2.1.l.length < C.l.length) (hE : ∀ s C, Eat C (recB dir code (one s C).2.2) (one s C).2.1) :
    ∀ (n : Nat) (s : Int) (C : Cur) (L : List Rec), C.l.length ≤ n → Byt C → (recsR one n s C L).1.e = 0 → ∃ L', (recsR one n s C L).2 = L ++ L' ∧ C.l = filesB dir code L'
  | 0, s, C, L, h, _, _ => ⟨[], by simp [recsR], by simpa [filesB] using h⟩
  | n + 1, s, C, L, h, hr, he => by
    unfold recsR at he ⊢
    split at he
    · rename_i hc
      rw [if_pos hc]
      simp only [Bool.and_eq_true, decide_eq_true_eq, beq_iff_eq] at hc
      have h1 := hl s C (by omega)
      obtain ⟨h2, h3⟩ := hE s C hr
      split at he
      · rename_i hn
        rw [he] at hn
        cases hn
      · rename_i hn
        rw [if_neg hn]
        have h4 : (one s C).2.1.e = 0 := by simpa using hn
        obtain ⟨L', h5, h6⟩ := recs_eat hl hE n (one s C).1 (one s C).2.1 (L ++ [(one s C).2.2]) (by omega) h2 he
        refine ⟨(one s C).2.2 :: L', by rw [h5]; simp, ?_⟩
        rw [(h3 h4).2, h6]
        rfl
    · rename_i hc
      rw [if_neg hc]
      have he : C.e = 0 := he
      refine ⟨[], by simp, ?_⟩
      have : C.l = [] := by
        apply List.eq_nil_of_length_eq_zero
        simp only [he, Bool.and_eq_true, decide_eq_true_eq, beq_self_eq_true, and_true] at hc
        omega
      rw [this]
      rfl
theorem eat_hd1 (C : Cur) : Eat C [6] (hd1 C) := ((Eat.refl C).byte.need).conv fun hr _ he => by
  have h := (nd_ok (by decide) he).2
  simp only [beq_iff_eq] at h
  rw [h]
  rfl
theorem eat_head (C : Cur) : Eat C ([6] ++ putW [(headM C).file, (headM C).record, (headM C).count]) (headC C) := by
  have hE1 : Eat C _ (hd2 C) := (eat_hd1 C).word.need
  have hE2 : Eat C _ (hd3 C) := hE1.word.need
  have hE3 : Eat C _ (headC C) := hE2.word.need
  exact hE3
theorem eat_ask (s : Int) (C : Cur) : Eat C (recB 0 20 (askO s C).2.2) (askO s C).2.1 := by
  have h : Eat C _ (askedC s C) := (eat_head C).need
  exact h.conv fun _ _ _ => rfl
theorem eat_wrt (dir s : Int) (C : Cur) : Eat C (recB dir 21 (wrtO s C).2.2) (wrtO s C).2.1 := by
  have h : Eat C _ (wrt1 C) := (eat_head C).need
  exact (h.words (hd3 C).wordV).conv fun _ _ _ => rfl
theorem eat_tld (s : Int) (C : Cur) : Eat C (recB 1 20 (toldO s C).2.2) (toldO s C).2.1 := by
  have hE1 : Eat C _ (told1 C) := (Eat.refl C).byte.need
  have hE2 : Eat C _ (told2 C) := hE1.byte.need
  refine (hE2.words (Int.tdiv (C.byteV - 1) 2)).conv fun hr _ he => ?_
  obtain ⟨h1, _, h2⟩ := wo_ok (hE2 hr).1 he
  obtain ⟨h3, h4⟩ := nd_ok (by decide) h1
  obtain ⟨h5, h6⟩ := nd_ok (by decide) (by_ok h3).1
  have hb := byteV_rng' hr
  simp only [Bool.and_eq_true, decide_eq_true_eq, beq_iff_eq] at h4 h6
  have h7 : (1 + 2 * (((told2 C).wordsR (Int.tdiv (C.byteV - 1) 2)).length : Int)) % 256 = C.byteV := by
    rw [h2, Int.tdiv_eq_ediv_of_nonneg (by omega)]
    omega
  show _ = [(1 + 2 * (((told2 C).wordsR (Int.tdiv (C.byteV - 1) 2)).length : Int)) % 256, 6] ++ putW ((told2 C).wordsR (Int.tdiv (C.byteV - 1) 2))
  rw [h7, h4]
  rfl
theorem filesR_lb {one : Int → Cur → Int × Cur × Rec} {dir code : Int} (hl : ∀ s C, 0 < C.l.length → (one s C).2.1.l.length < C.l.length) (hE : ∀ s C, Eat C (recB dir code (one s C).2.2) (one s C).2.1) {may : Int → Bool} {c : Int} {C : Cur} (hr : Byt C)
    (he : (filesR one may c C).1.endC.e = 0) : [((filesB dir code (flR one may C).2).length : Int) % 256] ++ filesB dir code (flR one may C).2 = C.l := by
  have hE0 : Eat C _ (fl1 may C) := (Eat.refl C).byte.need
  have hE1 := hE0.bytes C.byteV
  have hb := byteV_rng' hr
  unfold Cur.endC at he
  obtain ⟨h0, h00⟩ := nd_ok (by decide) he
  unfold filesR at h0 h00
  have hw : withinE (flR one may C).1.e ≠ 0 ∨ (flR one may C).1.e = 0 := by
    by_cases hz : (flR one may C).1.e = 0
    · exact Or.inr hz
    · left
      unfold withinE
      split
      · decide
      · exact hz
  have h1 : ((fl1 may C).bytesC C.byteV).e = 0 ∧ (flR one may C).1.e = 0 := by
    rcases hw with hw | hw
    · obtain ⟨h2, h3⟩ := nd_ok hw h0
      exact ⟨h2, by simpa using h3⟩
    · rw [hw] at h0
      refine ⟨?_, hw⟩
      unfold Cur.need at h0
      rw [if_neg (by rintro ⟨_, hx⟩; cases hx)] at h0
      exact h0
  obtain ⟨h2, h3, h4⟩ := by_ok h1.1
  have h5 : ((fl1 may C).bytesC C.byteV).l = [] := by
    rw [need_l] at h00
    simp only [beq_iff_eq] at h00
    exact List.eq_nil_of_length_eq_zero (by omega)
  have h6 : C.l = [C.byteV] ++ (fl1 may C).bytesR C.byteV := by
    rw [((hE1 hr).2 h1.1).2, h5]
    simp
  have hB : Byt (flB may C) := fun x hx => hr x (by rw [h6]; exact List.mem_append_right _ hx)
  obtain ⟨L', h7, h8⟩ := recs_eat hl hE (flB may C).l.length 0 (flB may C) [] (Nat.le_refl _) hB h1.2
  have h9 : (flR one may C).2 = L' := by unfold flR; rw [h7]; rfl
  have h10 : filesB dir code L' = (fl1 may C).bytesR C.byteV := h8.symm
  rw [h9, h10, h4, Int.emod_eq_of_lt hb.1 hb.2, h6]
theorem filesLay_eq (dir : Int) (M : Msg) : filesLay dir M = [((filesB dir M.code M.recs).length : Int) % 256] ++ filesB dir M.code M.recs := by
  unfold filesLay
  simp
theorem files_lb {dir c : Int} {C C' : Cur} {M : Msg} (hd : dir = 0 ∨ dir = 1) (hr : Byt C) (h : filesForm dir c C = some (C', M)) (he : C'.endC.e = 0) : filesLay dir M = C.l := by
  rw [filesLay_eq]
  unfold filesForm at h
  split at h
  · rename_i hc
    obtain rfl : c = 20 := by simpa using hc
    rcases hd with rfl | rfl
    · have h : some (filesR askO mayA 20 C) = some (C', M) := h
      obtain ⟨rfl, rfl⟩ := some_pair h
      exact filesR_lb askO_lt eat_ask hr he
    · have h : some (filesR toldO mayT 20 C) = some (C', M) := h
      obtain ⟨rfl, rfl⟩ := some_pair h
      exact filesR_lb toldO_lt eat_tld hr he
  split at h
  · rename_i hc
    obtain rfl : c = 21 := by simpa using hc
    obtain ⟨rfl, rfl⟩ := some_pair h
    exact filesR_lb wrtO_lt (eat_wrt dir) hr he
  · cases h
theorem parseOf_lb {form : Int → Int → Cur → Option (Cur × Msg)} {lay : Int → Msg → List Int} (hf : ∀ {dir c : Int} {C C' : Cur} {M : Msg}, (dir = 0 ∨ dir = 1) → Byt C → form dir c C = some (C', M) → C'.endC.e = 0 → lay dir M = C.l)
    {dir c : Int} {b : List Int} {M : Msg} (hd : dir = 0 ∨ dir = 1) (hr : ∀ x, x ∈ b → 0 ≤ x ∧ x < 256) (h : parseOf form dir c b = (M, 0)) : lay dir M = b := by
  unfold parseOf at h
  rw [if_pos hd] at h
  split at h
  · cases h
  · rename_i r hr'
    unfold finish at h
    split at h
    · rename_i he
      injection h with h
      obtain ⟨C', M'⟩ := r
      have h : M' = M := h
      subst h
      exact hf (C := ⟨b, false, 0⟩) hd hr hr' he
    · rename_i he
      injection h with _ h
      exact absurd h he
theorem writeOf_ok {parse : Int → Int → List Int → Msg × Int} {lay : Int → Msg → List Int} {dir : Int} {M : Msg} {l : List Int} (h1 : lay dir M = l) (h2 : parse dir M.code l = (M, 0)) : writeOf parse lay dir M = some l := by
  unfold writeOf
  rw [h1, if_pos h2]
theorem famW_ok {k : Nat} {dir : Int} {b : List Int} {M : Msg} (hd : dir = 0 ∨ dir = 1) (hr : ∀ x, x ∈ b → 0 ≤ x ∧ x < 256) (h : famP k dir b = (M, 0)) (hc : M.code = b.getD 0 0) : famW k dir M = some (b.drop 1) := by
  have hr' : ∀ x, x ∈ b.drop 1 → 0 ≤ x ∧ x < 256 := fun x hx => hr x (List.mem_of_mem_drop hx)
  unfold famP at h
  split at h
  · exact writeOf_ok (parseOf_lb coils_lb hd hr' h) (by rw [hc]; exact h)
  · exact writeOf_ok (parseOf_lb regs_lb hd hr' h) (by rw [hc]; exact h)
  · exact writeOf_ok (parseOf_lb diag_lb hd hr' h) (by rw [hc]; exact h)
  · exact writeOf_ok (parseOf_lb files_lb hd hr' h) (by rw [hc]; exact h)
  · exact writeOf_ok (parseOf_lb mei_lb hd hr' h) (by rw [hc]; exact h)
  · cases h
theorem fail_rng {x : Int} (h : failureB x = true) : (x != 0) = true := by
  unfold failureB at h
  simp only [decide_eq_true_eq, List.mem_cons, List.not_mem_nil, or_false] at h
  simp only [bne_iff_ne]
  omega
theorem pub_small {x : Int} (h : publicB x = true) : 0 < x ∧ x < 128 := by
  unfold publicB at h
  simp only [decide_eq_true_eq, List.mem_cons, List.not_mem_nil, or_false] at h
  omega
theorem pdu_back {dir : Int} {b : List Int} {M : Msg} (hd : dir = 0 ∨ dir = 1) (hr : ∀ x, x ∈ b → 0 ≤ x ∧ x < 256) (h : pduP dir b = (M, 0)) : pduW dir M = some b := by
  unfold pduP at h
  split at h
  · cases h
  split at h
  · cases h
  split at h
  · cases h
  rename_i h1 h2 h3
  simp only [beq_iff_eq] at h2
  simp only [decide_eq_true_eq] at h3
  obtain ⟨x, t, rfl⟩ : ∃ x t, b = x :: t := by
    cases b with
    | nil => exact absurd rfl h2
    | cons x t => exact ⟨x, t, rfl⟩
  have hx := hr x (by simp)
  split at h
  · rename_i hq
    simp only [Bool.and_eq_true, decide_eq_true_eq, beq_iff_eq] at hq
    obtain ⟨rfl, k1, k2, k3, k4⟩ := refP_ok h
    have k5 := pub_small k2
    unfold pduW
    rw [if_pos (show ((refM _ ((x :: t).getD 1 0)).fail != 0) = true from fail_rng k3)]
    rw [if_neg (by rw [hq.2]; decide)]
    unfold refW
    have k6 : pairB (refM (((x :: t).getD 0 0 - 128) % 256) ((x :: t).getD 1 0)).code (refM (((x :: t).getD 0 0 - 128) % 256) ((x :: t).getD 1 0)).fail = true := by
      show pairB (((x :: t).getD 0 0 - 128) % 256) ((x :: t).getD 1 0) = true
      unfold pairB
      rw [k2, k3]
      have : (((x :: t).getD 0 0 - 128) % 256 != 0) = true := by simp only [bne_iff_ne]; omega
      rw [this]
      rfl
    rw [k6]
    have k7 : decide (refM (((x :: t).getD 0 0 - 128) % 256) ((x :: t).getD 1 0) = refM (refM (((x :: t).getD 0 0 - 128) % 256) ((x :: t).getD 1 0)).code (refM (((x :: t).getD 0 0 - 128) % 256) ((x :: t).getD 1 0)).fail) = true := decide_eq_true rfl
    rw [k7]
    show some [(((x - 128) % 256) + 128) % 256, (x :: t).getD 1 0] = some (x :: t)
    match t, k4 with
    | [y], _ =>
      rw [show (((x - 128) % 256) + 128) % 256 = x from by omega]
      rfl
  · obtain ⟨_, k1⟩ := famP_good hd h
    obtain ⟨k2, k3⟩ := k1 rfl
    have k4 := famW_ok hd hr h k2
    unfold pduW
    rw [if_neg (by rw [k3]; decide), k2, k4]
    show (if decide (253 ≤ (t.length : Int)) = true then none else some ([x] ++ t)) = some (x :: t)
    rw [if_neg (by simp only [decide_eq_true_eq]; simp only [List.length_cons] at h3; omega)]
    rfl
end Go.Proofs.Ytbaeecmamacphaa
namespace Go.Proofs.Ytbaeecmamacphaa
theorem bytesR_le2 (C : Cur) (n : Int) : (C.bytesR n).length ≤ C.l.length := by
  unfold Cur.bytesR
  split
  · simp
  · rw [List.length_take]; omega
theorem wordsR_le (C : Cur) (n : Int) : (C.wordsR n).length ≤ C.l.length := by
  have h := bytesR_le2 C (2 * n)
  unfold Cur.wordsR
  split
  · simp
  · unfold wordTake
    split
    · rw [takeW_length]; omega
    · simp
def Sh (C C' : Cur) : Prop := C'.l.length ≤ C.l.length
theorem Sh.refl (C : Cur) : Sh C C := Nat.le_refl _
theorem Sh.bytes {A C : Cur} (h : Sh A C) {n : Int} : Sh A (C.bytesC n) := Nat.le_trans (bytesC_len C n) h
theorem Sh.words {A C : Cur} (h : Sh A C) {n : Int} : Sh A (C.wordsC n) := Nat.le_trans (wordsC_len C n) h
theorem Sh.need {A C : Cur} (h : Sh A C) {b : Bool} {e : Int} : Sh A (C.need b e) := by unfold Sh; rw [need_len]; exact h
theorem Sh.bR {A C : Cur} (h : Sh A C) (n : Int) {k : Nat} (hk : A.l.length ≤ k) : (C.bytesR n).length ≤ k := Nat.le_trans (bytesR_le2 C n) (Nat.le_trans h hk)
theorem Sh.wR {A C : Cur} (h : Sh A C) (n : Int) {k : Nat} (hk : A.l.length ≤ k) : (C.wordsR n).length ≤ k := Nat.le_trans (wordsR_le C n) (Nat.le_trans h hk)
theorem few_of {M : Msg} (h1 : M.words.length ≤ 252) (h2 : M.bits.length ≤ 2016) (h3 : M.data.length ≤ 252) (h4 : M.recs = []) (h5 : M.objects = []) : MsgFew M :=
  ⟨by omega, by omega, by omega, by rw [h4]; decide, (by rw [h4]; exact fun r h => nomatch h), by rw [h5]; decide, (by rw [h5]; exact fun r h => nomatch h)⟩
theorem few_nil (M : Msg) (h1 : M.words = []) (h2 : M.bits = []) (h3 : M.data = []) (h4 : M.recs = []) (h5 : M.objects = []) : MsgFew M := few_of (by rw [h1]; decide) (by rw [h2]; decide) (by rw [h3]; decide) h4 h5
theorem sh_span (C : Cur) (m : Int) : Sh C (spanC C m) := ((Sh.refl C).words.words.need).need
theorem sh_rspan {A C : Cur} (h : Sh A C) (a m : Int) : Sh A (rspanC C a m) := (h.words.need).need
theorem unpack_len {b : List Int} {n : Int} {l : List Bool} (h : unpackB b n = some l) : l.length ≤ 8 * b.length := by
  unfold unpackB at h
  split at h
  · rename_i hc
    split at h
    · injection h with h
      subst h
      have := hc.2
      rw [List.length_map, List.length_range]
      unfold many at this
      split at this <;> omega
    · cases h
  · cases h
theorem coils_few {dir c : Int} {C C' : Cur} {M : Msg} (hl : C.l.length ≤ 252) (h : coilsForm dir c C = some (C', M)) : MsgFew M := by
  unfold coilsForm at h
  repeat' split at h
  all_goals first | (cases h; done) | obtain ⟨rfl, rfl⟩ := some_pair h
  · exact few_nil _ rfl rfl rfl rfl rfl
  · exact few_of (Nat.zero_le _) (Nat.zero_le _) (((Sh.refl C).bytes.need).bR _ hl) rfl rfl
  · exact few_nil _ rfl rfl rfl rfl rfl
  · refine few_of (Nat.zero_le _) ?_ (Nat.zero_le _) rfl rfl
    show ((smU C).getD []).length ≤ 2016
    cases hu : smU C with
    | none => simp
    | some l =>
      have h1 := unpack_len hu
      have h2 : ((smC2 C).bytesR (smK C)).length ≤ 252 := ((sh_span C 1968).bytes.need).bR _ hl
      simp only [Option.getD_some]
      omega
  · exact few_nil _ rfl rfl rfl rfl rfl
theorem regs_few {dir c : Int} {C C' : Cur} {M : Msg} (hl : C.l.length ≤ 252) (h : regsForm dir c C = some (C', M)) : MsgFew M := by
  unfold regsForm at h
  repeat' split at h
  all_goals first | (cases h; done) | obtain ⟨rfl, rfl⟩ := some_pair h
  · exact few_nil _ rfl rfl rfl rfl rfl
  · exact few_of (((Sh.refl C).bytes.need).wR _ hl) (Nat.zero_le _) (Nat.zero_le _) rfl rfl
  · exact few_nil _ rfl rfl rfl rfl rfl
  · exact few_of (((sh_rspan (Sh.refl C).words _ _).bytes.need).wR _ hl) (Nat.zero_le _) (Nat.zero_le _) rfl rfl
  · exact few_nil _ rfl rfl rfl rfl rfl
  · exact few_nil _ rfl rfl rfl rfl rfl
  · exact few_of (((sh_rspan (sh_rspan (Sh.refl C).words _ _).words _ _).bytes.need).wR _ hl) (Nat.zero_le _) (Nat.zero_le _) rfl rfl
  · exact few_of (((Sh.refl C).bytes.need).wR _ hl) (Nat.zero_le _) (Nat.zero_le _) rfl rfl
  · exact few_nil _ rfl rfl rfl rfl rfl
  · exact few_of ((((Sh.refl C).words.need).words.need).wR _ hl) (Nat.zero_le _) (Nat.zero_le _) rfl rfl
theorem diag_few {dir c : Int} {C C' : Cur} {M : Msg} (hl : C.l.length ≤ 252) (h : diagForm dir c C = some (C', M)) : MsgFew M := by
  unfold diagForm at h
  repeat' split at h
  all_goals first | (cases h; done) | obtain ⟨rfl, rfl⟩ := some_pair h
  · unfold lineR
    split
    · exact few_of (((Sh.refl C).words.need).wR _ hl) (Nat.zero_le _) (Nat.zero_le _) rfl rfl
    · exact few_of (((Sh.refl C).words.need.need).wR _ hl) (Nat.zero_le _) (Nat.zero_le _) rfl rfl
  · unfold answerR
    have h1 : Sh C (ansL C 6 70) := (Sh.refl C).bytes.need
    have h2 : Sh C (busyC (ansL C 6 70)) := h1.words.need
    repeat' split
    · exact few_nil _ rfl rfl rfl rfl rfl
    · exact few_nil _ rfl rfl rfl rfl rfl
    · exact few_of (Nat.zero_le _) (Nat.zero_le _) (h2.words.words.bR _ hl) rfl rfl
    · exact few_of (Nat.zero_le _) (Nat.zero_le _) (Sh.bR (C := ansL C 1 251) ((Sh.refl C).bytes.need) _ hl) rfl rfl
    · exact few_nil _ rfl rfl rfl rfl rfl
  · exact few_nil _ rfl rfl rfl rfl rfl
theorem objB_few : ∀ (L : List Obj), 2 * L.length ≤ (objB L).length ∧ ∀ o, o ∈ L → o.value.length ≤ (objB L).length
  | [] => ⟨by simp [objB], fun o h => nomatch h⟩
  | x :: L => by
    obtain ⟨h1, h2⟩ := objB_few L
    have h3 : (objB (x :: L)).length = 2 + x.value.length + (objB L).length := by simp [objB]; omega
    refine ⟨by rw [h3, List.length_cons]; omega, fun o ho => ?_⟩
    rcases List.mem_cons.1 ho with rfl | ho
    · omega
    · have := h2 o ho
      omega
theorem mei_few {dir c : Int} {C C' : Cur} {M : Msg} (hd : dir = 0 ∨ dir = 1) (hr : Byt C) (hl : C.l.length ≤ 252) (h : meiForm dir c C = some (C', M)) (he : C'.endC.e = 0) : MsgFew M := by
  have hb := mei_lb hd hr h he
  have hA : Sh C (meiA C) := (Sh.refl C).bytes.need
  unfold meiForm at h
  repeat' split at h
  all_goals first | (cases h; done) | obtain ⟨rfl, rfl⟩ := some_pair h
  · exact few_of (Nat.zero_le _) (Nat.zero_le _) (Sh.bR (C := meiB C) hA.need _ hl) rfl rfl
  · rename_i hm hc
    obtain rfl : dir = 1 := by simpa using hc
    unfold meiLay at hb
    rw [if_neg (show ¬ (C.byteV == 13) = true from hm), if_neg (by decide)] at hb
    have h1 := congrArg List.length hb
    rw [List.length_append] at h1
    obtain ⟨h2, h3⟩ := objB_few (meiObjs (meiA C).byteV (meiD C)).2
    have h1 : 6 + (objB (meiObjs (meiA C).byteV (meiD C)).2).length = C.l.length := h1
    refine ⟨Nat.zero_le _, Nat.zero_le _, Nat.zero_le _, Nat.zero_le _, (fun r h => nomatch h), ?_, ?_⟩
    · show (meiObjs (meiA C).byteV (meiD C)).2.length ≤ 128
      omega
    · intro o ho
      have := h3 o ho
      omega
  · exact few_nil _ rfl rfl rfl rfl rfl
theorem filesB_few {dir code : Int} : ∀ (L : List Rec), (∀ r, r ∈ L → 4 ≤ (recB dir code r).length) → 4 * L.length ≤ (filesB dir code L).length ∧ ∀ r, r ∈ L → r.words.length ≤ (filesB dir code L).length
  | [], _ => ⟨by simp [filesB], fun o h => nomatch h⟩
  | x :: L, h => by
    obtain ⟨h1, h2⟩ := filesB_few L fun r hr => h r (by simp [hr])
    have h3 : (filesB dir code (x :: L)).length = (recB dir code x).length + (filesB dir code L).length := by simp [filesB]
    have h4 := h x (by simp)
    have h5 : x.words.length ≤ (recB dir code x).length := by
      have := putW_length x.words
      unfold recB
      rw [List.length_append]
      omega
    refine ⟨by rw [h3, List.length_cons]; omega, fun o ho => ?_⟩
    rcases List.mem_cons.1 ho with rfl | ho
    · omega
    · have := h2 o ho
      omega
theorem recs_all {one : Int → Cur → Int × Cur × Rec} {P : Rec → Prop} {dir code : Int} (hE : ∀ s C, Eat C (recB dir code (one s C).2.2) (one s C).2.1) (hP : ∀ s C, Byt C → (one s C).2.1.e = 0 → P (one s C).2.2) :
    ∀ (n : Nat) (s : Int) (C : Cur) (L : List Rec), Byt C → (recsR one n s C L).1.e = 0 → (∀ r, r ∈ L → P r) → ∀ r, r ∈ (recsR one n s C L).2 → P r
  | 0, s, C, L, _, _, h => h
  | n + 1, s, C, L, hr, he, h => by
    unfold recsR at he ⊢
    split at he
    · rename_i hc
      rw [if_pos hc]
      split at he
      · rename_i hn
        rw [he] at hn
        cases hn
      · rename_i hn
        rw [if_neg hn]
        have h4 : (one s C).2.1.e = 0 := by simpa using hn
        exact recs_all hE hP n _ _ _ ((hE s C) hr).1 he fun r hr' => by
          rcases List.mem_append.1 hr' with h5 | h5
          · exact h r h5
          · rw [List.mem_singleton.1 h5]
            exact hP s C hr h4
    · rename_i hc
      rw [if_neg hc]
      exact h
theorem tld_ne (s : Int) (C : Cur) (hr : Byt C) (he : (toldO s C).2.1.e = 0) : 4 ≤ (recB 1 20 (toldO s C).2.2).length := by
  have hE1 : Eat C _ (told1 C) := (Eat.refl C).byte.need
  have hE2 : Eat C _ (told2 C) := hE1.byte.need
  obtain ⟨h1, _, h2⟩ := wo_ok (hE2 hr).1 (show ((told2 C).wordsC (Int.tdiv (C.byteV - 1) 2)).e = 0 from he)
  obtain ⟨h3, _⟩ := nd_ok (by decide) h1
  obtain ⟨_, h6⟩ := nd_ok (by decide) (by_ok h3).1
  simp only [Bool.and_eq_true, decide_eq_true_eq, beq_iff_eq] at h6
  rw [Int.tdiv_eq_ediv_of_nonneg (by omega)] at h2
  have h7 := putW_length ((told2 C).wordsR (Int.tdiv (C.byteV - 1) 2))
  show 4 ≤ ([_, 6] ++ putW ((told2 C).wordsR (Int.tdiv (C.byteV - 1) 2))).length
  rw [List.length_append, h7, Int.tdiv_eq_ediv_of_nonneg (by omega)]
  simp only [List.length_cons, List.length_nil]
  omega
theorem ask_ne (dir code : Int) (r : Rec) (h : (code == 20 && dir == 1) = false) : 4 ≤ (recB dir code r).length := by
  unfold recB
  rw [h]
  simp [putW]
theorem filesR_few {one : Int → Cur → Int × Cur × Rec} {dir code : Int} (hl : ∀ s C, 0 < C.l.length → (one s C).2.1.l.length < C.l.length) (hE : ∀ s C, Eat C (recB dir code (one s C).2.2) (one s C).2.1)
    (hP : ∀ s C, Byt C → (one s C).2.1.e = 0 → 4 ≤ (recB dir code (one s C).2.2).length) {may : Int → Bool} {c : Int} {C : Cur} (hr : Byt C) (hl' : C.l.length ≤ 252)
    (he : (filesR one may c C).1.endC.e = 0) : MsgFew (filesR one may c C).2 := by
  have hb := filesR_lb hl hE hr he
  have h1 := congrArg List.length hb
  rw [List.length_append] at h1
  have h1 : 1 + (filesB dir code (flR one may C).2).length = C.l.length := h1
  have h2 : (flR one may C).1.e = 0 := by
    unfold Cur.endC at he
    obtain ⟨h0, _⟩ := nd_ok (by decide) he
    unfold filesR at h0
    by_cases hz : (flR one may C).1.e = 0
    · exact hz
    · have hw : withinE (flR one may C).1.e ≠ 0 := by
        unfold withinE
        split
        · decide
        · exact hz
      simpa using (nd_ok hw h0).2
  have hB : Byt (flB may C) := fun x hx => hr x (by
    have h5 : x ∈ (fl1 may C).l := by
      have : x ∈ (fl1 may C).bytesR C.byteV := hx
      unfold Cur.bytesR at this
      split at this
      · cases this
      · exact List.mem_of_mem_take this
    have h6 : x ∈ (C.bytesC 1).l := by unfold fl1 at h5; rwa [need_l] at h5
    unfold Cur.bytesC at h6
    split at h6
    · rw [need_l] at h6
      cases h6
    · exact List.mem_of_mem_drop h6)
  have h3 := recs_all (P := fun r => 4 ≤ (recB dir code r).length) hE hP (flB may C).l.length 0 (flB may C) [] hB h2 (fun r h => nomatch h)
  obtain ⟨h4, h5⟩ := filesB_few (dir := dir) (code := code) (flR one may C).2 h3
  refine ⟨Nat.zero_le _, Nat.zero_le _, Nat.zero_le _, ?_, ?_, Nat.zero_le _, (fun r h => nomatch h)⟩
  · show (flR one may C).2.length ≤ 64
    omega
  · intro r hr'
    have := h5 r hr'
    omega
theorem files_few {dir c : Int} {C C' : Cur} {M : Msg} (hd : dir = 0 ∨ dir = 1) (hr : Byt C) (hl : C.l.length ≤ 252) (h : filesForm dir c C = some (C', M)) (he : C'.endC.e = 0) : MsgFew M := by
  unfold filesForm at h
  split at h
  · rename_i hc
    obtain rfl : c = 20 := by simpa using hc
    rcases hd with rfl | rfl
    · have h : some (filesR askO mayA 20 C) = some (C', M) := h
      obtain ⟨rfl, rfl⟩ := some_pair h
      exact filesR_few askO_lt eat_ask (fun _ _ _ _ => ask_ne _ _ _ rfl) hr hl he
    · have h : some (filesR toldO mayT 20 C) = some (C', M) := h
      obtain ⟨rfl, rfl⟩ := some_pair h
      exact filesR_few toldO_lt eat_tld tld_ne hr hl he
  split at h
  · rename_i hc
    obtain rfl : c = 21 := by simpa using hc
    obtain ⟨rfl, rfl⟩ := some_pair h
    exact filesR_few wrtO_lt (eat_wrt dir) (fun _ _ _ _ => ask_ne _ _ _ rfl) hr hl he
  · cases h
theorem few_zero : MsgFew Msg.zero := few_nil _ rfl rfl rfl rfl rfl
theorem parse_few1 {form : Int → Int → Cur → Option (Cur × Msg)} (hf : ∀ {dir c : Int} {C C' : Cur} {M : Msg}, (dir = 0 ∨ dir = 1) → Byt C → C.l.length ≤ 252 → form dir c C = some (C', M) → C'.endC.e = 0 → MsgFew M)
    {dir c : Int} {b : List Int} {M : Msg} {E : Int} (hr : ∀ x, x ∈ b → 0 ≤ x ∧ x < 256) (hl : b.length ≤ 252) (h : parseOf form dir c b = (M, E)) : MsgFew M ∧ (E ≠ 0 → M = Msg.zero) := by
  unfold parseOf at h
  split at h
  · rename_i hd
    split at h
    · injection h with h1 h2
      subst h1 h2
      exact ⟨few_zero, fun _ => rfl⟩
    · rename_i r hr'
      unfold finish at h
      split at h
      · rename_i he
        injection h with h1 h2
        obtain ⟨C', M'⟩ := r
        have h1 : M' = M := h1
        subst h1
        exact ⟨hf (C := ⟨b, false, 0⟩) hd hr hl hr' he, fun hE => absurd h2.symm hE⟩
      · injection h with h1 h2
        subst h1
        exact ⟨few_zero, fun _ => rfl⟩
  · injection h with h1 h2
    subst h1
    exact ⟨few_zero, fun _ => rfl⟩
theorem famP_few {k : Nat} {dir : Int} {b : List Int} {M : Msg} {E : Int} (hr : ∀ x, x ∈ b → 0 ≤ x ∧ x < 256) (hl : b.length ≤ 253) (h : famP k dir b = (M, E)) : MsgFew M ∧ (E ≠ 0 → M = Msg.zero) := by
  have hr' : ∀ x, x ∈ b.drop 1 → 0 ≤ x ∧ x < 256 := fun x hx => hr x (List.mem_of_mem_drop hx)
  have hl' : (b.drop 1).length ≤ 252 := by rw [List.length_drop]; omega
  unfold famP at h
  split at h
  · exact parse_few1 (fun _ _ hl h _ => coils_few hl h) hr' hl' h
  · exact parse_few1 (fun _ _ hl h _ => regs_few hl h) hr' hl' h
  · exact parse_few1 (fun _ _ hl h _ => diag_few hl h) hr' hl' h
  · exact parse_few1 files_few hr' hl' h
  · exact parse_few1 mei_few hr' hl' h
  · injection h with h1 h2
    subst h1
    exact ⟨few_zero, fun _ => rfl⟩
theorem refP_few {b : List Int} {M : Msg} {E : Int} (h : refP b = (M, E)) : MsgFew M ∧ (E ≠ 0 → M = Msg.zero) := by
  unfold refP at h
  repeat' split at h
  all_goals (injection h with h1 h2; subst h1)
  all_goals first | exact ⟨few_zero, fun _ => rfl⟩ | exact ⟨few_nil _ rfl rfl rfl rfl rfl, fun hE => absurd h2.symm hE⟩
theorem pduP_few {dir : Int} {b : List Int} {M : Msg} {E : Int} (hr : ∀ x, x ∈ b → 0 ≤ x ∧ x < 256) (h : pduP dir b = (M, E)) : MsgFew M ∧ (E ≠ 0 → M = Msg.zero) := by
  unfold pduP at h
  split at h
  · injection h with h1 h2; subst h1; exact ⟨few_zero, fun _ => rfl⟩
  split at h
  · injection h with h1 h2; subst h1; exact ⟨few_zero, fun _ => rfl⟩
  split at h
  · injection h with h1 h2; subst h1; exact ⟨few_zero, fun _ => rfl⟩
  rename_i h3
  simp only [decide_eq_true_eq] at h3
  split at h
  · exact refP_few h
  · exact famP_few hr (by omega) h
end Go.Proofs.Ytbaeecmamacphaa
namespace Go.Proofs.Ytbaeecmamacphaa
open Go.RowKit
theorem nil2 {dir : Int} {M : Msg} {E : Int} (h : pduP dir [] = (M, E)) : (E == 2) = true ∨ dir ≠ 0 ∧ dir ≠ 1 := by
  unfold pduP at h
  split at h
  · rename_i hd
    simp only [Bool.and_eq_true, bne_iff_ne] at hd
    exact Or.inr hd
  · have h : (Msg.zero, (2 : Int)) = (M, E) := h
    injection h with h1 h2
    subst h2
    exact Or.inl rfl
theorem cut_ne {dir : Int} {b l : List Int} {M M' : Msg} {E : Int} (hd : dir = 0 ∨ dir = 1) (hr : ∀ x, x ∈ b → 0 ≤ x ∧ x < 256) (h : pduP dir b = (M', E)) (hE : (E != 0) = false) (hW : pduW dir M = some l) (hne : b ≠ l) : decide (M' = M) = false := by
  obtain rfl : E = 0 := by simpa using hE
  refine decide_eq_false fun e => hne ?_
  subst e
  rw [pdu_back hd hr h] at hW
  exact Option.some.inj hW
set_option maxRecDepth 100000 in
set_option maxHeartbeats 4000000 in
theorem lawPduCuts {w : World} {ans : Bool} {at_ c : Int} (hat : 0 ≤ at_ ∧ at_ < 65536) (hc : 0 ≤ c ∧ c < 256) {mM : Bool} {M : Msg} {cM : Array Value} (hM : MsgRd mM w cM.toList M) :
    Calls Try.prog 6 #[.bool ans, .agg cM, .int .u16 at_, .int .u8 c] w (PVal (.bool true) w) := by
 obtain ⟨xM, rfl⟩ := mcl_of hM
 have hRM := hM.rngs
 obtain ⟨hcM, hdM⟩ := hRM
 refine en 98 Try.func6 rfl <| sg <| L0 <| Obx (mcl M xM) fun g10 w11 hg12 B13 hu14 => Pl 1 <| ng <| L0 <| Oc <| m1 (@awake14 _) fun w15 hu16 => Pl 1 <| nt <| sq <| ?_
 refine go <| ?_
 have r17 := ub hu16 B13
 refine L0 <| Olw r17 <| ?_
 have U18 := ut0 hu14 hu16
 have r19 := MsgRd.old hM U18
 refine L0 <| Oc <| m1 (few_any r19) fun w20 hu21 => Pl 1 <| nt <| sq <| sg <| Pl 2 <| nt <| ?_
 have U22 := ut0 U18 hu21
 refine cb ((!(fewB M))) (fun q23 => ?_) (fun q23 => ?_)
 have q23n : (fewB M) = false := by simpa using q23
 refine sg <| Pl 2 <| nt <| rt <| tr <| rr (.bool true) <| ?_
 exact ⟨rfl, U22⟩
 have q23n : (fewB M) = true := by simpa using q23
 refine skn <| sg <| Pl 1 <| nt <| sq <| sg <| Pl 1 <| nt <| cb (ans) (fun q24 => ?_) (fun q24 => ?_)
 refine go <| Pl 1 <| ng <| Pl 1 <| ?_
 have r25 := ub hu21 r17
 refine L0 <| Olw r25 <| ?_
 have r26 := MsgRd.old r19 hu21
 refine wo (pduW 1 M) (fun hX28 => ?_) (fun l27 hX28 => ?_)
 refine L0 <| Oc <| m1 (pdu_write_n hX28 r26 (fewB_few q23n)) fun w29 hu30 => Pl 5 <| nt <| sq <| sg <| Pl 7 <| nt <| c1 <| sg <| Pl 6 <| nl <| ?_
 refine tn <| rt <| tr <| rr (.bool true) <| ?_
 have U31 := ut0 U22 hu30
 exact ⟨rfl, U31⟩
 have hl32 := pduW_le (r26.rngs).1 hX28
 refine L0 <| Oc <| so2 (pdu_write_s hX28 r26 (fewB_few q23n)) fun A37 cp38 w33 rd41 hl39 hm40 hu36 => Pl 5 <| nt <| sq <| sg <| Pl 7 <| nt <| ?_
 have U42 := ut0 U22 hu36
 refine cb ((((l27.length : Nat) : Int) == 0)) (fun q43 => ?_) (fun q43 => ?_)
 have q43p := eq_of_beqi q43
 refine sg <| Pl 6 <| nt <| rt <| tr <| rr (.bool false) <| ?_
 have hs : false = true := by have z := pduW_pos hcM hX28; have q := eq_of_beqi q43; omega
 rw [hs]
 exact ⟨rfl, U42⟩
 have q43p := ne_of_beqi q43
 refine skn <| sg <| Pl 3 <| L0 <| Oi at_ <| Pl 2 <| ?_
 have hm44 := rem_rng (x := at_) (y := ((l27.length : Nat) : Int)) (by omega)
 refine L0 <| Or_ (.int .i64 (at_ % ((l27.length : Nat) : Int))) (run_rem rfl (by kernel_rfl) (by kernel_rfl) (by omega) (by omega)) <| x12 (cut_h (P := Try.prog) 22 5 1 Try.underlying22 rfl rfl A37 l27.length cp38 (k := (at_ % ((l27.length : Nat) : Int))) (((at_ % ((l27.length : Nat) : Int))).toNat) (by omega) (by omega) (by omega)) fun A45 hrun46 hrd47 => L0 <| Or_ (.slice A45 (((at_ % ((l27.length : Nat) : Int))).toNat) cp38) (run_cuth (kl := .i64) (k := (at_ % ((l27.length : Nat) : Int))) (A := A37) (n := l27.length) (c := cp38) rfl Try.underlying22 (by kernel_rfl) (by kernel_rfl) (hrun46 _ _)) <| ?_
 refine pr (pduP 1 (l27.take (((at_ % ((l27.length : Nat) : Int))).toNat))) fun M48 E49 hX50 => ?_
 refine L0 <| Oc <| e2 (pdu_parse_x hX50 (hrd47 _ _ _ _ _ (rd41).rd) (by rw [List.length_take]; omega)) fun x51 w52 hM53 hu54 => Pl 3 <| L0 <| Oal mZ fun g55 w56 hg57 B58 hu59 => L0 <| Osw B58 (mcl M48 x51) fun w60 B61 hu62 => Pl 1 <| ng <| Pl 1 <| L0 <| Olt (m := 0) (e := 5) #[] fun g63 w64 hg65 B66 hu67 => ?_
 have ow68 := litB hg65 (xs := []) (by as_aux_lemma => kernel_rfl) rng_nil (by (try simp only [List.length_cons, List.length_nil]); omega) B66
 refine Pl 1 <| ?_
 have U69 := ut0 hu54 hu59
 have U70 := u1 U69 hu62 (ni hu54.size hg57)
 have U71 := ut0 U70 hu67
 have r72 := own_stay rd41 U71 (fun x hx => not0) (fun _ _ h => h)
 refine L0 <| Oapp one_u8 (xs := ([])) (ys := l27) (.int .u8 0) 1 ow68 (r72).rd (by (try simp only [List.length_append, List.length_cons, List.length_nil, putW_length]); omega) hu67.size fun A73 cp74 w75 ho76 hu77 => Pl 1 <| L0 <| Olt (m := 1) (e := 5) #[.int .u8 c] fun g78 w79 hg80 B81 hu82 => ?_
 have ow83 := litB hg80 (xs := [c]) (by as_aux_lemma => kernel_rfl) (rng_cons (by omega) rng_nil) (by (try simp only [List.length_cons, List.length_nil]); omega) B81
 have r84 := own_stay ho76 hu82 (fun x hx => not0) (fun _ _ h => h)
 refine L0 <| Oapp one_u8 (xs := ([] ++ l27)) (ys := ([c])) (.int .u8 0) 1 r84 (ow83).rd (by (try simp only [List.length_append, List.length_cons, List.length_nil, putW_length]); omega) (le (le hu67.size hu77.size) hu82.size) fun A85 cp86 w87 ho88 hu89 => ?_
 refine pr (pduP 1 (([] ++ l27) ++ [c])) fun M90 E91 hX92 => ?_
 refine L0 <| Oc <| e2 (pdu_parse_x hX92 (ho88).rd (by simp only [List.length_append, List.length_cons, List.length_nil]; omega)) fun x93 w94 hM95 hu96 => Pl 3 <| L0 <| Oal mZ fun g97 w98 hg99 B100 hu101 => L0 <| Osw B100 (mcl M90 x93) fun w102 B103 hu104 => Pl 1 <| ng <| Pl 1 <| ?_
 refine pr (pduP 1 ([])) fun M105 E106 hX107 => ?_
 refine L0 <| Oc <| e2 (pdu_parse_x hX107 (RdG.nil true _ _ _ _) (by decide)) fun x108 w109 hM110 hu111 => Pl 3 <| L0 <| Oal mZ fun g112 w113 hg114 B115 hu116 => L0 <| Osw B115 (mcl M105 x108) fun w117 B118 hu119 => Pl 1 <| ng <| Pl 6 <| ?_
 have U120 := ut0 U42 hu54
 have U121 := ut0 U120 hu59
 have U122 := u1 U121 hu62 (ni U120.size hg57)
 have U123 := ut0 U122 hu67
 have U124 := ut U123 hu77 (all_app (ob_new ow68 U122.size) all0)
 have U125 := ut0 U124 hu82
 have U126 := ut U125 hu89 (all_app (ob_new ho76 U122.size) all0)
 have U127 := ut0 U126 hu96
 have U128 := ut0 U127 hu101
 have U129 := u1 U128 hu104 (ni U127.size hg99)
 have U130 := ut0 U129 hu111
 have U131 := ut0 U130 hu116
 have U132 := u1 U131 hu119 (ni U130.size hg114)
 refine bl 78 ((E106 == 2)) (fun q133 => ?_) (fun q133 => ?_)
 have q133p := eq_of_beqi q133
 refine Pl 3 <| bl 81 ((E49 != 0)) (fun q134 => ?_) (fun q134 => ?_)
 have q134p := ne_of_bnei q134
 refine Pl 10 <| bl 91 ((E91 != 0)) (fun q135 => ?_) (fun q135 => ?_)
 have q135p := ne_of_bnei q135
 refine Pl 7 <| nt <| rt <| rr (.bool true) <| ?_
 exact ⟨rfl, U132⟩
 have q135p := eq_of_bnei q135
 have U136 := ut0 hu111 hu116
 have U137 := u1 U136 hu119 (ni hu111.size hg114)
 have r138 := ub U137 B103
 refine L1 <| Olw r138 <| ?_
 have U139 := ut0 hu36 hu54
 have U140 := ut0 U139 hu59
 have U141 := u1 U140 hu62 (ni U139.size hg57)
 have U142 := ut0 U141 hu67
 have U143 := ut U142 hu77 (all_app (ob_new ow68 U141.size) all0)
 have U144 := ut0 U143 hu82
 have U145 := ut U144 hu89 (all_app (ob_new ho76 U141.size) all0)
 have U146 := ut0 U145 hu96
 have U147 := ut0 U146 hu101
 have U148 := u1 U147 hu104 (ni U146.size hg99)
 have U149 := ut0 U148 hu111
 have U150 := ut0 U149 hu116
 have U151 := u1 U150 hu119 (ni U149.size hg114)
 have r152 := ub U151 r25
 refine L1 <| Olw r152 <| ?_
 have U153 := u1 hu101 hu104 (nr hg99)
 have U154 := ut0 U153 hu111
 have U155 := ut0 U154 hu116
 have U156 := u1 U155 hu119 (ni U154.size hg114)
 have r157 := MsgRd.upd hM95 U156 safe0
 have r158 := MsgRd.old r26 U151
 refine L1 <| Oc <| m1 (same7_any r157 r158) fun w159 hu160 => Pl 4 <| nt <| rt <| rr (.bool (!(decide (M90 = M)))) <| ?_
 have U161 := ut0 hu77 hu82
 have U162 := ut (Upd.mono (S' := (ob (some ⟨g63, 0, none⟩) ++ (ob A73 ++ []))) U161 (all_app (fun x hx => Or.inl (by simp [hx])) all0)) hu89 (all_app (fun x hx => Or.inl (by simp [hx])) all0)
 have U163 := ut0 U162 hu96
 have U164 := ut0 U163 hu101
 have U165 := u1 U164 hu104 (ni U163.size hg99)
 have U166 := ut0 U165 hu111
 have U167 := ut0 U166 hu116
 have U168 := u1 U167 hu119 (ni U166.size hg114)
 have U169 := ut0 U168 hu160
 have r170 := own_stay r72 U169 (fun x hx => (not_app ((rows_old rd41 U70.size ow68) x hx) (not_app ((rows_old rd41 U70.size ho76) x hx) not0))) (fun _ _ h => h)
 have U171 := ut0 hu96 hu101
 have U172 := u1 U171 hu104 (ni hu96.size hg99)
 have U173 := ut0 U172 hu111
 have U174 := ut0 U173 hu116
 have U175 := u1 U174 hu119 (ni U173.size hg114)
 have U176 := ut0 U175 hu160
 have r177 := own_stay ho88 U176 (fun x hx => not0) (fun _ _ h => h)
 have hs : (!(decide (M90 = M))) = true := by have z := cut_ne (by decide) (RdB.range (r177).rd) hX92 q135 hX28 (fun z => by have := congrArg List.length z; simp at this); rw [z]; rfl
 rw [hs]
 have U178 := ut0 U132 hu160
 exact ⟨rfl, U178⟩
 have q134p := eq_of_bnei q134
 have U179 := ut hu67 hu77 (all_app (ob_new ow68 lr) all0)
 have U180 := ut0 U179 hu82
 have U181 := ut U180 hu89 (all_app (ob_new ho76 lr) all0)
 have U182 := ut0 U181 hu96
 have U183 := ut0 U182 hu101
 have U184 := u1 U183 hu104 (ni U182.size hg99)
 have U185 := ut0 U184 hu111
 have U186 := ut0 U185 hu116
 have U187 := u1 U186 hu119 (ni U185.size hg114)
 have r188 := ub U187 B61
 refine L1 <| Olw r188 <| ?_
 have U189 := ut0 hu36 hu54
 have U190 := ut0 U189 hu59
 have U191 := u1 U190 hu62 (ni U189.size hg57)
 have U192 := ut0 U191 hu67
 have U193 := ut U192 hu77 (all_app (ob_new ow68 U191.size) all0)
 have U194 := ut0 U193 hu82
 have U195 := ut U194 hu89 (all_app (ob_new ho76 U191.size) all0)
 have U196 := ut0 U195 hu96
 have U197 := ut0 U196 hu101
 have U198 := u1 U197 hu104 (ni U196.size hg99)
 have U199 := ut0 U198 hu111
 have U200 := ut0 U199 hu116
 have U201 := u1 U200 hu119 (ni U199.size hg114)
 have r202 := ub U201 r25
 refine L1 <| Olw r202 <| ?_
 have U203 := u1 hu59 hu62 (nr hg57)
 have U204 := ut0 U203 hu67
 have U205 := ut U204 hu77 (all_app (ob_new ow68 U203.size) all0)
 have U206 := ut0 U205 hu82
 have U207 := ut U206 hu89 (all_app (ob_new ho76 U203.size) all0)
 have U208 := ut0 U207 hu96
 have U209 := ut0 U208 hu101
 have U210 := u1 U209 hu104 (ni U208.size hg99)
 have U211 := ut0 U210 hu111
 have U212 := ut0 U211 hu116
 have U213 := u1 U212 hu119 (ni U211.size hg114)
 have r214 := MsgRd.upd hM53 U213 safe0
 have r215 := MsgRd.old r26 U201
 refine L1 <| Oc <| m1 (same7_any r214 r215) fun w216 hu217 => Pl 4 <| ?_
 have U218 := ut0 U132 hu217
 refine bl 88 ((!(decide (M48 = M)))) (fun q219 => ?_) (fun q219 => ?_)
 have q219n : (decide (M48 = M)) = false := by simpa using q219
 have q219np := of_decide_eq_false q219n
 refine Pl 3 <| bl 91 ((E91 != 0)) (fun q220 => ?_) (fun q220 => ?_)
 have q220p := ne_of_bnei q220
 refine Pl 7 <| nt <| rt <| rr (.bool true) <| ?_
 exact ⟨rfl, U218⟩
 have q220p := eq_of_bnei q220
 have U221 := ut0 hu111 hu116
 have U222 := u1 U221 hu119 (ni hu111.size hg114)
 have U223 := ut0 U222 hu217
 have r224 := ub U223 B103
 refine L1 <| Olw r224 <| ?_
 have r225 := ub hu217 r202
 refine L1 <| Olw r225 <| ?_
 have U226 := u1 hu101 hu104 (nr hg99)
 have U227 := ut0 U226 hu111
 have U228 := ut0 U227 hu116
 have U229 := u1 U228 hu119 (ni U227.size hg114)
 have U230 := ut0 U229 hu217
 have r231 := MsgRd.upd hM95 U230 safe0
 have r232 := MsgRd.old r215 hu217
 refine L1 <| Oc <| m1 (same7_any r231 r232) fun w233 hu234 => Pl 4 <| nt <| rt <| rr (.bool (!(decide (M90 = M)))) <| ?_
 have U235 := ut0 hu77 hu82
 have U236 := ut (Upd.mono (S' := (ob (some ⟨g63, 0, none⟩) ++ (ob A73 ++ []))) U235 (all_app (fun x hx => Or.inl (by simp [hx])) all0)) hu89 (all_app (fun x hx => Or.inl (by simp [hx])) all0)
 have U237 := ut0 U236 hu96
 have U238 := ut0 U237 hu101
 have U239 := u1 U238 hu104 (ni U237.size hg99)
 have U240 := ut0 U239 hu111
 have U241 := ut0 U240 hu116
 have U242 := u1 U241 hu119 (ni U240.size hg114)
 have U243 := ut0 U242 hu217
 have U244 := ut0 U243 hu234
 have r245 := own_stay r72 U244 (fun x hx => (not_app ((rows_old rd41 U70.size ow68) x hx) (not_app ((rows_old rd41 U70.size ho76) x hx) not0))) (fun _ _ h => h)
 have U246 := ut0 hu96 hu101
 have U247 := u1 U246 hu104 (ni hu96.size hg99)
 have U248 := ut0 U247 hu111
 have U249 := ut0 U248 hu116
 have U250 := u1 U249 hu119 (ni U248.size hg114)
 have U251 := ut0 U250 hu217
 have U252 := ut0 U251 hu234
 have r253 := own_stay ho88 U252 (fun x hx => not0) (fun _ _ h => h)
 have hs : (!(decide (M90 = M))) = true := by have z := cut_ne (by decide) (RdB.range (r253).rd) hX92 q220 hX28 (fun z => by have := congrArg List.length z; simp at this); rw [z]; rfl
 rw [hs]
 have U254 := ut0 U218 hu234
 exact ⟨rfl, U254⟩
 have q219n : (decide (M48 = M)) = true := by simpa using q219
 have q219np := of_decide_eq_true q219n
 refine Pl 10 <| nt <| rt <| rr (.bool false) <| ?_
 have U255 := ut0 hu77 hu82
 have U256 := ut (Upd.mono (S' := (ob (some ⟨g63, 0, none⟩) ++ (ob A73 ++ []))) U255 (all_app (fun x hx => Or.inl (by simp [hx])) all0)) hu89 (all_app (fun x hx => Or.inl (by simp [hx])) all0)
 have U257 := ut0 U256 hu96
 have U258 := ut0 U257 hu101
 have U259 := u1 U258 hu104 (ni U257.size hg99)
 have U260 := ut0 U259 hu111
 have U261 := ut0 U260 hu116
 have U262 := u1 U261 hu119 (ni U260.size hg114)
 have U263 := ut0 U262 hu217
 have r264 := own_stay r72 U263 (fun x hx => (not_app ((rows_old rd41 U70.size ow68) x hx) (not_app ((rows_old rd41 U70.size ho76) x hx) not0))) (fun _ _ h => h)
 have hs : false = true := by have z := cut_ne (by decide) (RdB.range (hrd47 _ _ _ _ _ (r264).rd)) hX50 q134 hX28 (fun z => by have := congrArg List.length z; rw [List.length_take] at this; omega); rw [z] at q219n; exact q219n
 rw [hs]
 exact ⟨rfl, U218⟩
 have q133p := ne_of_beqi q133
 refine Pl 20 <| nt <| rt <| rr (.bool false) <| ?_
 have hs : false = true := by have z := (nil2 hX107).resolve_right (by decide); rw [z] at q133; exact q133.symm
 rw [hs]
 exact ⟨rfl, U132⟩
 refine skn <| sg <| Pl 1 <| ?_
 have r265 := ub hu21 r17
 refine L0 <| Olw r265 <| ?_
 have r266 := MsgRd.old r19 hu21
 refine wo (pduW 0 M) (fun hX268 => ?_) (fun l267 hX268 => ?_)
 refine L0 <| Oc <| m1 (pdu_write_n hX268 r266 (fewB_few q23n)) fun w269 hu270 => Pl 5 <| nt <| sq <| sg <| Pl 7 <| nt <| c1 <| sg <| Pl 6 <| nl <| ?_
 refine tn <| rt <| tr <| rr (.bool true) <| ?_
 have U271 := ut0 U22 hu270
 exact ⟨rfl, U271⟩
 have hl272 := pduW_le (r266.rngs).1 hX268
 refine L0 <| Oc <| so2 (pdu_write_s hX268 r266 (fewB_few q23n)) fun A277 cp278 w273 rd281 hl279 hm280 hu276 => Pl 5 <| nt <| sq <| sg <| Pl 7 <| nt <| ?_
 have U282 := ut0 U22 hu276
 refine cb ((((l267.length : Nat) : Int) == 0)) (fun q283 => ?_) (fun q283 => ?_)
 have q283p := eq_of_beqi q283
 refine sg <| Pl 6 <| nt <| rt <| tr <| rr (.bool false) <| ?_
 have hs : false = true := by have z := pduW_pos hcM hX268; have q := eq_of_beqi q283; omega
 rw [hs]
 exact ⟨rfl, U282⟩
 have q283p := ne_of_beqi q283
 refine skn <| sg <| Pl 3 <| L0 <| Oi at_ <| Pl 2 <| ?_
 have hm284 := rem_rng (x := at_) (y := ((l267.length : Nat) : Int)) (by omega)
 refine L0 <| Or_ (.int .i64 (at_ % ((l267.length : Nat) : Int))) (run_rem rfl (by kernel_rfl) (by kernel_rfl) (by omega) (by omega)) <| x12 (cut_h (P := Try.prog) 22 5 1 Try.underlying22 rfl rfl A277 l267.length cp278 (k := (at_ % ((l267.length : Nat) : Int))) (((at_ % ((l267.length : Nat) : Int))).toNat) (by omega) (by omega) (by omega)) fun A285 hrun286 hrd287 => L0 <| Or_ (.slice A285 (((at_ % ((l267.length : Nat) : Int))).toNat) cp278) (run_cuth (kl := .i64) (k := (at_ % ((l267.length : Nat) : Int))) (A := A277) (n := l267.length) (c := cp278) rfl Try.underlying22 (by kernel_rfl) (by kernel_rfl) (hrun286 _ _)) <| ?_
 refine pr (pduP 0 (l267.take (((at_ % ((l267.length : Nat) : Int))).toNat))) fun M288 E289 hX290 => ?_
 refine L0 <| Oc <| e2 (pdu_parse_x hX290 (hrd287 _ _ _ _ _ (rd281).rd) (by rw [List.length_take]; omega)) fun x291 w292 hM293 hu294 => Pl 3 <| L0 <| Oal mZ fun g295 w296 hg297 B298 hu299 => L0 <| Osw B298 (mcl M288 x291) fun w300 B301 hu302 => Pl 1 <| ng <| Pl 1 <| L0 <| Olt (m := 0) (e := 5) #[] fun g303 w304 hg305 B306 hu307 => ?_
 have ow308 := litB hg305 (xs := []) (by as_aux_lemma => kernel_rfl) rng_nil (by (try simp only [List.length_cons, List.length_nil]); omega) B306
 refine Pl 1 <| ?_
 have U309 := ut0 hu294 hu299
 have U310 := u1 U309 hu302 (ni hu294.size hg297)
 have U311 := ut0 U310 hu307
 have r312 := own_stay rd281 U311 (fun x hx => not0) (fun _ _ h => h)
 refine L0 <| Oapp one_u8 (xs := ([])) (ys := l267) (.int .u8 0) 1 ow308 (r312).rd (by (try simp only [List.length_append, List.length_cons, List.length_nil, putW_length]); omega) hu307.size fun A313 cp314 w315 ho316 hu317 => Pl 1 <| L0 <| Olt (m := 1) (e := 5) #[.int .u8 c] fun g318 w319 hg320 B321 hu322 => ?_
 have ow323 := litB hg320 (xs := [c]) (by as_aux_lemma => kernel_rfl) (rng_cons (by omega) rng_nil) (by (try simp only [List.length_cons, List.length_nil]); omega) B321
 have r324 := own_stay ho316 hu322 (fun x hx => not0) (fun _ _ h => h)
 refine L0 <| Oapp one_u8 (xs := ([] ++ l267)) (ys := ([c])) (.int .u8 0) 1 r324 (ow323).rd (by (try simp only [List.length_append, List.length_cons, List.length_nil, putW_length]); omega) (le (le hu307.size hu317.size) hu322.size) fun A325 cp326 w327 ho328 hu329 => ?_
 refine pr (pduP 0 (([] ++ l267) ++ [c])) fun M330 E331 hX332 => ?_
 refine L0 <| Oc <| e2 (pdu_parse_x hX332 (ho328).rd (by simp only [List.length_append, List.length_cons, List.length_nil]; omega)) fun x333 w334 hM335 hu336 => Pl 3 <| L0 <| Oal mZ fun g337 w338 hg339 B340 hu341 => L0 <| Osw B340 (mcl M330 x333) fun w342 B343 hu344 => Pl 1 <| ng <| Pl 1 <| ?_
 refine pr (pduP 0 ([])) fun M345 E346 hX347 => ?_
 refine L0 <| Oc <| e2 (pdu_parse_x hX347 (RdG.nil true _ _ _ _) (by decide)) fun x348 w349 hM350 hu351 => Pl 3 <| L0 <| Oal mZ fun g352 w353 hg354 B355 hu356 => L0 <| Osw B355 (mcl M345 x348) fun w357 B358 hu359 => Pl 1 <| ng <| Pl 6 <| ?_
 have U360 := ut0 U282 hu294
 have U361 := ut0 U360 hu299
 have U362 := u1 U361 hu302 (ni U360.size hg297)
 have U363 := ut0 U362 hu307
 have U364 := ut U363 hu317 (all_app (ob_new ow308 U362.size) all0)
 have U365 := ut0 U364 hu322
 have U366 := ut U365 hu329 (all_app (ob_new ho316 U362.size) all0)
 have U367 := ut0 U366 hu336
 have U368 := ut0 U367 hu341
 have U369 := u1 U368 hu344 (ni U367.size hg339)
 have U370 := ut0 U369 hu351
 have U371 := ut0 U370 hu356
 have U372 := u1 U371 hu359 (ni U370.size hg354)
 refine bl 78 ((E346 == 2)) (fun q373 => ?_) (fun q373 => ?_)
 have q373p := eq_of_beqi q373
 refine Pl 3 <| bl 81 ((E289 != 0)) (fun q374 => ?_) (fun q374 => ?_)
 have q374p := ne_of_bnei q374
 refine Pl 10 <| bl 91 ((E331 != 0)) (fun q375 => ?_) (fun q375 => ?_)
 have q375p := ne_of_bnei q375
 refine Pl 7 <| nt <| rt <| rr (.bool true) <| ?_
 exact ⟨rfl, U372⟩
 have q375p := eq_of_bnei q375
 have U376 := ut0 hu351 hu356
 have U377 := u1 U376 hu359 (ni hu351.size hg354)
 have r378 := ub U377 B343
 refine L1 <| Olw r378 <| ?_
 have U379 := ut0 hu276 hu294
 have U380 := ut0 U379 hu299
 have U381 := u1 U380 hu302 (ni U379.size hg297)
 have U382 := ut0 U381 hu307
 have U383 := ut U382 hu317 (all_app (ob_new ow308 U381.size) all0)
 have U384 := ut0 U383 hu322
 have U385 := ut U384 hu329 (all_app (ob_new ho316 U381.size) all0)
 have U386 := ut0 U385 hu336
 have U387 := ut0 U386 hu341
 have U388 := u1 U387 hu344 (ni U386.size hg339)
 have U389 := ut0 U388 hu351
 have U390 := ut0 U389 hu356
 have U391 := u1 U390 hu359 (ni U389.size hg354)
 have r392 := ub U391 r265
 refine L1 <| Olw r392 <| ?_
 have U393 := u1 hu341 hu344 (nr hg339)
 have U394 := ut0 U393 hu351
 have U395 := ut0 U394 hu356
 have U396 := u1 U395 hu359 (ni U394.size hg354)
 have r397 := MsgRd.upd hM335 U396 safe0
 have r398 := MsgRd.old r266 U391
 refine L1 <| Oc <| m1 (same7_any r397 r398) fun w399 hu400 => Pl 4 <| nt <| rt <| rr (.bool (!(decide (M330 = M)))) <| ?_
 have U401 := ut0 hu317 hu322
 have U402 := ut (Upd.mono (S' := (ob (some ⟨g303, 0, none⟩) ++ (ob A313 ++ []))) U401 (all_app (fun x hx => Or.inl (by simp [hx])) all0)) hu329 (all_app (fun x hx => Or.inl (by simp [hx])) all0)
 have U403 := ut0 U402 hu336
 have U404 := ut0 U403 hu341
 have U405 := u1 U404 hu344 (ni U403.size hg339)
 have U406 := ut0 U405 hu351
 have U407 := ut0 U406 hu356
 have U408 := u1 U407 hu359 (ni U406.size hg354)
 have U409 := ut0 U408 hu400
 have r410 := own_stay r312 U409 (fun x hx => (not_app ((rows_old rd281 U310.size ow308) x hx) (not_app ((rows_old rd281 U310.size ho316) x hx) not0))) (fun _ _ h => h)
 have U411 := ut0 hu336 hu341
 have U412 := u1 U411 hu344 (ni hu336.size hg339)
 have U413 := ut0 U412 hu351
 have U414 := ut0 U413 hu356
 have U415 := u1 U414 hu359 (ni U413.size hg354)
 have U416 := ut0 U415 hu400
 have r417 := own_stay ho328 U416 (fun x hx => not0) (fun _ _ h => h)
 have hs : (!(decide (M330 = M))) = true := by have z := cut_ne (by decide) (RdB.range (r417).rd) hX332 q375 hX268 (fun z => by have := congrArg List.length z; simp at this); rw [z]; rfl
 rw [hs]
 have U418 := ut0 U372 hu400
 exact ⟨rfl, U418⟩
 have q374p := eq_of_bnei q374
 have U419 := ut hu307 hu317 (all_app (ob_new ow308 lr) all0)
 have U420 := ut0 U419 hu322
 have U421 := ut U420 hu329 (all_app (ob_new ho316 lr) all0)
 have U422 := ut0 U421 hu336
 have U423 := ut0 U422 hu341
 have U424 := u1 U423 hu344 (ni U422.size hg339)
 have U425 := ut0 U424 hu351
 have U426 := ut0 U425 hu356
 have U427 := u1 U426 hu359 (ni U425.size hg354)
 have r428 := ub U427 B301
 refine L1 <| Olw r428 <| ?_
 have U429 := ut0 hu276 hu294
 have U430 := ut0 U429 hu299
 have U431 := u1 U430 hu302 (ni U429.size hg297)
 have U432 := ut0 U431 hu307
 have U433 := ut U432 hu317 (all_app (ob_new ow308 U431.size) all0)
 have U434 := ut0 U433 hu322
 have U435 := ut U434 hu329 (all_app (ob_new ho316 U431.size) all0)
 have U436 := ut0 U435 hu336
 have U437 := ut0 U436 hu341
 have U438 := u1 U437 hu344 (ni U436.size hg339)
 have U439 := ut0 U438 hu351
 have U440 := ut0 U439 hu356
 have U441 := u1 U440 hu359 (ni U439.size hg354)
 have r442 := ub U441 r265
 refine L1 <| Olw r442 <| ?_
 have U443 := u1 hu299 hu302 (nr hg297)
 have U444 := ut0 U443 hu307
 have U445 := ut U444 hu317 (all_app (ob_new ow308 U443.size) all0)
 have U446 := ut0 U445 hu322
 have U447 := ut U446 hu329 (all_app (ob_new ho316 U443.size) all0)
 have U448 := ut0 U447 hu336
 have U449 := ut0 U448 hu341
 have U450 := u1 U449 hu344 (ni U448.size hg339)
 have U451 := ut0 U450 hu351
 have U452 := ut0 U451 hu356
 have U453 := u1 U452 hu359 (ni U451.size hg354)
 have r454 := MsgRd.upd hM293 U453 safe0
 have r455 := MsgRd.old r266 U441
 refine L1 <| Oc <| m1 (same7_any r454 r455) fun w456 hu457 => Pl 4 <| ?_
 have U458 := ut0 U372 hu457
 refine bl 88 ((!(decide (M288 = M)))) (fun q459 => ?_) (fun q459 => ?_)
 have q459n : (decide (M288 = M)) = false := by simpa using q459
 have q459np := of_decide_eq_false q459n
 refine Pl 3 <| bl 91 ((E331 != 0)) (fun q460 => ?_) (fun q460 => ?_)
 have q460p := ne_of_bnei q460
 refine Pl 7 <| nt <| rt <| rr (.bool true) <| ?_
 exact ⟨rfl, U458⟩
 have q460p := eq_of_bnei q460
 have U461 := ut0 hu351 hu356
 have U462 := u1 U461 hu359 (ni hu351.size hg354)
 have U463 := ut0 U462 hu457
 have r464 := ub U463 B343
 refine L1 <| Olw r464 <| ?_
 have r465 := ub hu457 r442
 refine L1 <| Olw r465 <| ?_
 have U466 := u1 hu341 hu344 (nr hg339)
 have U467 := ut0 U466 hu351
 have U468 := ut0 U467 hu356
 have U469 := u1 U468 hu359 (ni U467.size hg354)
 have U470 := ut0 U469 hu457
 have r471 := MsgRd.upd hM335 U470 safe0
 have r472 := MsgRd.old r455 hu457
 refine L1 <| Oc <| m1 (same7_any r471 r472) fun w473 hu474 => Pl 4 <| nt <| rt <| rr (.bool (!(decide (M330 = M)))) <| ?_
 have U475 := ut0 hu317 hu322
 have U476 := ut (Upd.mono (S' := (ob (some ⟨g303, 0, none⟩) ++ (ob A313 ++ []))) U475 (all_app (fun x hx => Or.inl (by simp [hx])) all0)) hu329 (all_app (fun x hx => Or.inl (by simp [hx])) all0)
 have U477 := ut0 U476 hu336
 have U478 := ut0 U477 hu341
 have U479 := u1 U478 hu344 (ni U477.size hg339)
 have U480 := ut0 U479 hu351
 have U481 := ut0 U480 hu356
 have U482 := u1 U481 hu359 (ni U480.size hg354)
 have U483 := ut0 U482 hu457
 have U484 := ut0 U483 hu474
 have r485 := own_stay r312 U484 (fun x hx => (not_app ((rows_old rd281 U310.size ow308) x hx) (not_app ((rows_old rd281 U310.size ho316) x hx) not0))) (fun _ _ h => h)
 have U486 := ut0 hu336 hu341
 have U487 := u1 U486 hu344 (ni hu336.size hg339)
 have U488 := ut0 U487 hu351
 have U489 := ut0 U488 hu356
 have U490 := u1 U489 hu359 (ni U488.size hg354)
 have U491 := ut0 U490 hu457
 have U492 := ut0 U491 hu474
 have r493 := own_stay ho328 U492 (fun x hx => not0) (fun _ _ h => h)
 have hs : (!(decide (M330 = M))) = true := by have z := cut_ne (by decide) (RdB.range (r493).rd) hX332 q460 hX268 (fun z => by have := congrArg List.length z; simp at this); rw [z]; rfl
 rw [hs]
 have U494 := ut0 U458 hu474
 exact ⟨rfl, U494⟩
 have q459n : (decide (M288 = M)) = true := by simpa using q459
 have q459np := of_decide_eq_true q459n
 refine Pl 10 <| nt <| rt <| rr (.bool false) <| ?_
 have U495 := ut0 hu317 hu322
 have U496 := ut (Upd.mono (S' := (ob (some ⟨g303, 0, none⟩) ++ (ob A313 ++ []))) U495 (all_app (fun x hx => Or.inl (by simp [hx])) all0)) hu329 (all_app (fun x hx => Or.inl (by simp [hx])) all0)
 have U497 := ut0 U496 hu336
 have U498 := ut0 U497 hu341
 have U499 := u1 U498 hu344 (ni U497.size hg339)
 have U500 := ut0 U499 hu351
 have U501 := ut0 U500 hu356
 have U502 := u1 U501 hu359 (ni U500.size hg354)
 have U503 := ut0 U502 hu457
 have r504 := own_stay r312 U503 (fun x hx => (not_app ((rows_old rd281 U310.size ow308) x hx) (not_app ((rows_old rd281 U310.size ho316) x hx) not0))) (fun _ _ h => h)
 have hs : false = true := by have z := cut_ne (by decide) (RdB.range (hrd287 _ _ _ _ _ (r504).rd)) hX290 q374 hX268 (fun z => by have := congrArg List.length z; rw [List.length_take] at this; omega); rw [z] at q459n; exact q459n
 rw [hs]
 exact ⟨rfl, U458⟩
 have q373p := ne_of_beqi q373
 refine Pl 20 <| nt <| rt <| rr (.bool false) <| ?_
 have hs : false = true := by have z := (nil2 hX347).resolve_right (by decide); rw [z] at q373; exact q373.symm
 rw [hs]
 exact ⟨rfl, U372⟩
end Go.Proofs.Ytbaeecmamacphaa
namespace Go.Proofs.Ytbaeecmamacphaa
open Go.ChangeShapes Go.WideShapes Go.ChangeAt Go.RowKit
theorem own : ownKnob Try.prog.godebug = none := by kernel_rfl
theorem laidOut : laidOutB Try.prog = true := by kernel_rfl
set_option maxRecDepth 100000 in
theorem lifted (os : Os) (started : os.Started) (H : Type) (enc : TypeId × Value → H) :
    ReturnsInHanded {} Try.checked os 6 .any (Rows.pduCutsSpec.pre6 enc Try.prog Try.f6 Rows.pduCutsRow.domain false) (Rows.pduCutsSpec.post enc Try.prog Try.f6 false true false false) := by
  refine returnsInHanded_of_change (C := Try.checked) own started (by kernel_rfl) Try.func6
    (ChangeSpec.witness6 (enc := enc) (C := Try.checked) false ⟨#[], #[.bool false, .agg mZ, .int .u16 0, .int .u8 0], []⟩ 8 (by kernel_rfl) (by kernel_rfl) (by kernel_rfl) (by kernel_rfl)) ?_
  intro W base args ds gs before hval0 hW hcnd _
  have hval : ∀ (j : Nat) t v, Try.f6.params[j]? = some t → args[j]? = some v → Value.okWide Try.prog W .any base t v := hval0
  have hW' := hW
  obtain ⟨p, q, hA0, hV, rfl, hfz, hnd⟩ := hW
  have hA : DataW.TrodAll enc Try.prog W 0 (fun _ => true) true Try.f6.params.toList args.toList ds p := hA0
  rw [Try.params6] at hA hval
  obtain ⟨v0, vs0, d0, ds0, p0, q0, hargs, rfl, rfl, h0, r0⟩ := trodAll_cons hA
  obtain ⟨v1, vs1, d1, ds1, p1, q1, rfl, rfl, rfl, h1, r1⟩ := trodAll_cons r0
  obtain ⟨v2, vs2, d2, ds2, p2, q2, rfl, rfl, rfl, h2, r2⟩ := trodAll_cons r1
  obtain ⟨v3, vs3, d3, ds3, p3, q3, rfl, rfl, rfl, h3, r3⟩ := trodAll_cons r2
  obtain ⟨rfl, rfl, rfl⟩ := trodAll_nil r3
  obtain rfl : args = #[v0, v1, v2, v3] := by cases args; simp_all
  obtain ⟨rfl, rfl⟩ := trodVars_none hV
  obtain ⟨a0, rfl, rfl, rfl⟩ := open_bool Try.underlying4 (hval 0 4 v0 rfl rfl) h0
  have k1 := h1
  have lt1 : ∀ x ∈ p1, x.block < W.heap.size := by obtain ⟨m, hm⟩ := k1; exact DataW.trod_lt m _ _ _ hm
  obtain ⟨c1, M1, rfl, R1⟩ := msg_arg ⟨_, hval 1 29 v1 rfl rfl⟩ h1
  obtain ⟨a2, rfl, rfl, rfl, w2⟩ := open_int Try.underlying23 (hval 2 23 v2 rfl rfl) h2
  have b2 := bounds_u16 w2
  obtain ⟨a3, rfl, rfl, rfl, w3⟩ := open_int Try.underlying5 (hval 3 5 v3 rfl rfl) h3
  have b3 := bounds_u8 w3
  clear hA0 hval0
  refine (lawPduCuts (ans := a0) (by omega) (by omega) R1).mono fun e W' ⟨he, hu⟩ => ?_
  have bel := upd_below hu
  subst he
  exact ⟨_, rfl, _, _, _, [], _, [], hW', trodAll_mk1 (shut_bool Try.underlying4 _), (trodAll_cons_mk (shut_bool Try.underlying4 _) (trodAll_cons_mk (Below.trod laidOut (by kernel_rfl) (of_decide_eq_true (by kernel_rfl)) k1 bel lt1) (trodAll_cons_mk (shut_int Try.underlying23 w2) (trodAll_cons_mk (shut_int Try.underlying5 w3) trodAll_mk0)))), rfl, bel.frame _, fun h => by cases h⟩
theorem over : Rows.pduCutsRow.holds Try.pinned (OpenSpec.ofChange Rows.pduCutsSpec) :=
  OpenClaim.holds_of_wide 6 Try.f6 rfl rfl rfl rfl rfl rfl rfl ⟨rfl, rfl, rfl, rfl, rfl⟩ rfl rfl rfl rfl rfl (by kernel_rfl) Try.func6 (by kernel_rfl)
    (of_decide_eq_true (by kernel_rfl)) (by unfold Func.isWrapper; first | (rw [if_pos (by decide +kernel)]; kernel_rfl) | (rw [if_neg (by decide +kernel)]; exact ⟨rfl, rfl⟩))
    (fun os started H enc _ => lifted os started H enc)
theorem proved : Rows.PduCutsSaid := over
#print axioms proved
end Go.Proofs.Ytbaeecmamacphaa
