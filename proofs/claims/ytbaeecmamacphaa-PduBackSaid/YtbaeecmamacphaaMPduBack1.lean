/- The statement PduBack holds; no condition of its own. -/
import Derived.Test.YtbaeecmamacphaaKA1
import Derived.Test.YtbaeecmamacphaaKA2
import Derived.Test.YtbaeecmamacphaaKA3
import Derived.Test.YtbaeecmamacphaaKA4
import Derived.Test.YtbaeecmamacphaaKA5
import Derived.Test.YtbaeecmamacphaaRows
import Derived.WalkKit
import Derived.ProofKit
import Derived.OpenShut
import Derived.ShutString
import Derived.ChangeOld
import Derived.Below
set_option linter.unusedVariables false
set_option linter.unusedSimpArgs false
namespace Go.Proofs.Ytbaeecmamacphaa
def Byt (C : Cur) : Prop := ∀ x, x ∈ C.l → 0 ≤ x ∧ x < 256
theorem nd_ok {C : Cur} {ok : Bool} {x : Int} (hx : x ≠ 0) (h : (C.need ok x).e = 0) : C.e = 0 ∧ ok = true := by
  unfold Cur.need at h
  split at h
  · exact absurd h hx
  · rename_i hh
    refine ⟨h, ?_⟩
    cases ok
    · exact absurd ⟨h, rfl⟩ hh
    · rfl
theorem by_ok {C : Cur} {n : Int} (h : (C.bytesC n).e = 0) : C.e = 0 ∧ C.l = C.bytesR n ++ (C.bytesC n).l ∧ ((C.bytesR n).length : Int) = n := by
  unfold Cur.bytesC at h ⊢
  unfold Cur.bytesR
  split at h
  · exfalso
    unfold Cur.need at h
    split at h
    · cases h
    · rename_i hh
      exact hh ⟨h, rfl⟩
  · rename_i hf
    rw [if_neg hf, if_neg hf]
    refine ⟨h, (List.take_append_drop _ _).symm, ?_⟩
    unfold Cur.fails at hf
    simp only [Bool.or_eq_true, decide_eq_true_eq, not_or] at hf
    rw [List.length_take]
    omega
theorem putW_takeW : ∀ (l : List Int), l.length % 2 = 0 → (∀ x, x ∈ l → 0 ≤ x ∧ x < 256) → putW (takeW l) = l
  | [], _, _ => rfl
  | [_], h, _ => by simp at h
  | a :: b :: r, h, hr => by
    have ha := hr a (by simp)
    have hb := hr b (by simp)
    simp only [takeW, putW]
    rw [putW_takeW r (by simp at h; omega) (fun x hx => hr x (by simp [hx]))]
    congr 1
    · omega
    · congr 1
      omega
theorem wo_ok {C : Cur} {n : Int} (hr : Byt C) (h : (C.wordsC n).e = 0) : C.e = 0 ∧ C.l = putW (C.wordsR n) ++ (C.wordsC n).l ∧ ((C.wordsR n).length : Int) = n := by
  unfold Cur.wordsC at h ⊢
  unfold Cur.wordsR
  split at h
  · obtain ⟨_, _, h3⟩ := by_ok h
    omega
  · rename_i hb
    rw [if_neg hb, if_neg hb]
    obtain ⟨h1, h2, h3⟩ := by_ok h
    have h4 : (C.bytesR (2 * n)).length % 2 = 0 := by omega
    have h5 : ∀ x, x ∈ C.bytesR (2 * n) → 0 ≤ x ∧ x < 256 := fun x hx => hr x (by rw [h2]; exact List.mem_append_left _ hx)
    unfold wordTake
    rw [if_pos h4]
    refine ⟨h1, by rw [putW_takeW _ h4 h5]; exact h2, ?_⟩
    rw [takeW_length]
    omega
def Eat (C : Cur) (l : List Int) (C' : Cur) : Prop := Byt C → Byt C' ∧ (C'.e = 0 → C.e = 0 ∧ C.l = l ++ C'.l)
theorem Eat.trans {A B C : Cur} {l m : List Int} (h : Eat A l B) (k : Eat B m C) : Eat A (l ++ m) C := fun hr => by
  obtain ⟨h1, h2⟩ := h hr
  obtain ⟨k1, k2⟩ := k h1
  refine ⟨k1, fun he => ?_⟩
  obtain ⟨k3, k4⟩ := k2 he
  obtain ⟨h3, h4⟩ := h2 k3
  exact ⟨h3, by rw [h4, k4, List.append_assoc]⟩
theorem Eat.refl (C : Cur) : Eat C [] C := fun hr => ⟨hr, fun he => ⟨he, rfl⟩⟩
theorem Eat.need {A C : Cur} {l : List Int} {ok : Bool} {x : Int} (h : Eat A l C) (hx : x ≠ 0 := by decide) : Eat A l (C.need ok x) := fun hr => by
  obtain ⟨h1, h2⟩ := h hr
  refine ⟨fun y hy => h1 y (by rwa [need_l] at hy), fun he => ?_⟩
  rw [need_l]
  exact h2 (nd_ok hx he).1
theorem Eat.bytes {A C : Cur} {l : List Int} (h : Eat A l C) (n : Int) : Eat A (l ++ C.bytesR n) (C.bytesC n) := h.trans fun hr => ⟨bytesC_rng hr n, fun he => ⟨(by_ok he).1, (by_ok he).2.1⟩⟩
theorem Eat.words {A C : Cur} {l : List Int} (h : Eat A l C) (n : Int) : Eat A (l ++ putW (C.wordsR n)) (C.wordsC n) := h.trans fun hr => ⟨wordsC_rng hr n, fun he => ⟨(wo_ok hr he).1, (wo_ok hr he).2.1⟩⟩
theorem one_of {l : List Int} (h : (l.length : Int) = 1) : l = [l.getD 0 0] := by
  match l, h with
  | [a], _ => rfl
  | [], h => simp at h
  | _ :: _ :: _, h => simp at h; omega
theorem Eat.byte {A C : Cur} {l : List Int} (h : Eat A l C) : Eat A (l ++ [C.byteV]) (C.bytesC 1) := h.trans fun hr => ⟨bytesC_rng hr 1, fun he => by
  obtain ⟨h1, h2, h3⟩ := by_ok he
  refine ⟨h1, ?_⟩
  have := one_of h3
  show C.l = [(C.bytesR 1).getD 0 0] ++ _
  rw [← this]
  exact h2⟩
theorem Eat.word {A C : Cur} {l : List Int} (h : Eat A l C) : Eat A (l ++ putW [C.wordV]) (C.wordsC 1) := h.trans fun hr => ⟨wordsC_rng hr 1, fun he => by
  obtain ⟨h1, h2, h3⟩ := wo_ok hr he
  refine ⟨h1, ?_⟩
  have := one_of h3
  show C.l = putW [(C.wordsR 1).getD 0 0] ++ _
  rw [← this]
  exact h2⟩
theorem Eat.fin {A C : Cur} {l : List Int} (h : Eat A l C) (hr : Byt A) (he : C.endC.e = 0) : C.e = 0 ∧ A.l = l := by
  unfold Cur.endC at he
  obtain ⟨h1, h2⟩ := nd_ok (by decide) he
  obtain ⟨_, h3⟩ := (h hr).2 h1
  have : C.l = [] := by
    simp only [beq_iff_eq] at h2
    exact List.eq_nil_of_length_eq_zero (by omega)
  exact ⟨h1, by rw [h3, this, List.append_nil]⟩
theorem byteV_rng' {C : Cur} (hr : Byt C) : 0 ≤ C.byteV ∧ C.byteV < 256 := by
  unfold Cur.byteV
  rw [List.getD_eq_getElem?_getD]
  cases h : (C.bytesR 1)[0]? with
  | none => simp
  | some x =>
    have hm : x ∈ C.bytesR 1 := List.mem_of_getElem? h
    have : x ∈ C.l := by
      unfold Cur.bytesR at hm
      split at hm
      · cases hm
      · exact List.mem_of_mem_take hm
    exact hr x this
theorem eat_span (C : Cur) (most : Int) : Eat C (putW [C.wordV, (C.wordsC 1).wordV]) (spanC C most) := by
  have := (((Eat.refl C).word).word)
  exact (this.need).need
theorem bits256 : ∀ n : Nat, n < 256 → (((if ((n : Int) / 2 ^ 0 % 2 == 1) then 1 else 0) + (if ((n : Int) / 2 ^ 1 % 2 == 1) then 2 else 0) + (if ((n : Int) / 2 ^ 2 % 2 == 1) then 4 else 0) + (if ((n : Int) / 2 ^ 3 % 2 == 1) then 8 else 0) + (if ((n : Int) / 2 ^ 4 % 2 == 1) then 16 else 0) + (if ((n : Int) / 2 ^ 5 % 2 == 1) then 32 else 0) + (if ((n : Int) / 2 ^ 6 % 2 == 1) then 64 else 0) + (if ((n : Int) / 2 ^ 7 % 2 == 1) then 128 else 0) : Nat) : Int) = n := by decide +kernel
theorem byteOf_unpack {x : Int} (hx : 0 ≤ x ∧ x < 256) (f : Nat → Bool) (hf : ∀ i, i < 8 → f i = (x / 2 ^ i % 2 == 1)) :
    (((if f 0 then 1 else 0) + (if f 1 then 2 else 0) + (if f 2 then 4 else 0) + (if f 3 then 8 else 0) + (if f 4 then 16 else 0) + (if f 5 then 32 else 0) + (if f 6 then 64 else 0) + (if f 7 then 128 else 0) : Nat) : Int) = x := by
  rw [hf 0 (by decide), hf 1 (by decide), hf 2 (by decide), hf 3 (by decide), hf 4 (by decide), hf 5 (by decide), hf 6 (by decide), hf 7 (by decide)]
  obtain ⟨n, rfl⟩ := Int.eq_ofNat_of_zero_le hx.1
  exact bits256 n (by omega)
theorem pack_unpack {b : List Int} {n : Int} {l : List Bool} (hr : ∀ x, x ∈ b → 0 ≤ x ∧ x < 256) (h : unpackB b n = some l) : packB l = b := by
  unfold unpackB at h
  split at h
  · rename_i hc
    split at h
    · rename_i hall
      injection h with h
      subst h
      have hlen : ((List.range n.toNat).map (bitAt b)).length = n.toNat := by simp
      have hm : ((List.range n.toNat).map (bitAt b)).length = n := by rw [hlen]; omega
      unfold packB
      rw [hm, ← hc.2]
      apply List.ext_getElem
      · simp
      intro j h1 h2
      simp only [List.getElem_map, List.getElem_range]
      have hj : j < b.length := h2
      have hget : ∀ i, i < 8 * b.length → ((List.range n.toNat).map (bitAt b)).getD i false = bitAt b i := fun i hi => by
        rw [List.getD_eq_getElem?_getD, List.getElem?_map]
        by_cases hin : i < n.toNat
        · rw [List.getElem?_range hin]; rfl
        · rw [List.getElem?_eq_none (by simpa using hin)]
          rw [List.all_eq_true] at hall
          have := hall i (by simpa using hi)
          simp only [Bool.or_eq_true, decide_eq_true_eq, Bool.not_eq_true'] at this
          rcases this with h3 | h3
          · omega
          · simp [h3]
      have hx : ∀ k, k < 8 → bitAt b (8 * j + k) = (b[j] / 2 ^ k % 2 == 1) := fun k hk => by
        unfold bitAt
        rw [show (8 * j + k) / 8 = j from by omega, show (8 * j + k) % 8 = k from by omega, List.getD_eq_getElem?_getD, List.getElem?_eq_getElem hj]
        rfl
      unfold byteOf
      rw [show (8 * j : Nat) = 8 * j + 0 from rfl]
      simp only [hget _ (show 8 * j + 0 < 8 * b.length by omega), hget _ (show 8 * j + 0 + 1 < 8 * b.length by omega), hget _ (show 8 * j + 0 + 2 < 8 * b.length by omega), hget _ (show 8 * j + 0 + 3 < 8 * b.length by omega), hget _ (show 8 * j + 0 + 4 < 8 * b.length by omega), hget _ (show 8 * j + 0 + 5 < 8 * b.length by omega), hget _ (show 8 * j + 0 + 6 < 8 * b.length by omega), hget _ (show 8 * j + 0 + 7 < 8 * b.length by omega)]
      exact byteOf_unpack (hr _ (List.getElem_mem hj)) (fun k => bitAt b (8 * j + k)) hx
    · cases h
  · cases h
end Go.Proofs.Ytbaeecmamacphaa
namespace Go.Proofs.Ytbaeecmamacphaa
theorem some_pair {α β : Type} {p : α × β} {a : α} {b : β} (h : some p = some (a, b)) : p.1 = a ∧ p.2 = b := by
  injection h with h
  rw [h]
  exact ⟨rfl, rfl⟩
theorem asks_lb {C : Cur} {most c : Int} (hr : Byt C) (he : (asksR most c C).1.endC.e = 0) : putW [C.wordV, (C.wordsC 1).wordV] = C.l := ((eat_span C most).fin hr he).2.symm
theorem ctold_lb {C : Cur} {c : Int} (hr : Byt C) (he : (ctoldR c C).1.endC.e = 0) : [(((toldC2 C).bytesR C.byteV).length : Int) % 256] ++ (toldC2 C).bytesR C.byteV = C.l := by
  have hbv := byteV_rng' hr
  have hE : Eat C ([] ++ [C.byteV] ++ (toldC2 C).bytesR C.byteV) ((toldC2 C).bytesC C.byteV) := (((Eat.refl C).byte).need).bytes _
  obtain ⟨h1, h2⟩ := hE.fin hr he
  obtain ⟨_, _, h3⟩ := by_ok h1
  rw [h2, h3, Int.emod_eq_of_lt hbv.1 hbv.2]
  rfl
theorem csets_lb {C : Cur} {c : Int} (hr : Byt C) (he : (csetsR c C).1.endC.e = 0) : putW [C.wordV, (C.wordsC 1).wordV] = C.l := by
  have hE : Eat C ([] ++ putW [C.wordV] ++ putW [(C.wordsC 1).wordV]) (setsC C) := (((Eat.refl C).word).word).need
  rw [(hE.fin hr he).2]
  rfl
theorem csm_lb {C : Cur} {c : Int} (hr : Byt C) (he : (csmR c C).1.endC.e = 0) : (putW [C.wordV, (C.wordsC 1).wordV] ++ [((packB ((smU C).getD [])).length : Int) % 256]) ++ packB ((smU C).getD []) = C.l := by
  have hE : Eat C (putW [C.wordV, (C.wordsC 1).wordV] ++ [(spanC C 1968).byteV] ++ (smC2 C).bytesR (smK C)) (smC C) := (((((eat_span C 1968).byte).need).bytes _).need)
  obtain ⟨h1, h2⟩ := hE.fin hr he
  obtain ⟨h3, h4⟩ := nd_ok (by decide) h1
  obtain ⟨_, _, h5⟩ := by_ok h3
  obtain ⟨l, hl⟩ := Option.isSome_iff_exists.1 h4
  have hB : ∀ x, x ∈ (smC2 C).bytesR (smK C) → 0 ≤ x ∧ x < 256 := fun x hx => hr x (by rw [h2]; exact List.mem_append_right _ hx)
  have h6 : packB l = (smC2 C).bytesR (smK C) := pack_unpack hB hl
  have hk : 0 ≤ smK C ∧ smK C < 256 := byteV_rng' ((eat_span C 1968) hr).1
  rw [hl]
  show (putW [C.wordV, (C.wordsC 1).wordV] ++ [((packB l).length : Int) % 256]) ++ packB l = C.l
  rw [h6, h2, h5, Int.emod_eq_of_lt hk.1 hk.2]
  rfl
theorem coils_lb {dir c : Int} {C C' : Cur} {M : Msg} (hd : dir = 0 ∨ dir = 1) (hr : Byt C) (h : coilsForm dir c C = some (C', M)) (he : C'.endC.e = 0) : coilsLay dir M = C.l := by
  unfold coilsForm at h
  split at h
  · rename_i hc
    simp only [Bool.or_eq_true, beq_iff_eq] at hc
    rcases hd with rfl | rfl
    · have h : some (asksR 2000 c C) = some (C', M) := h
      obtain ⟨rfl, rfl⟩ := some_pair h
      rcases hc with rfl | rfl <;> exact asks_lb hr he
    · have h : some (ctoldR c C) = some (C', M) := h
      obtain ⟨rfl, rfl⟩ := some_pair h
      rcases hc with rfl | rfl <;> exact ctold_lb hr he
  split at h
  · rename_i hc
    obtain rfl : c = 5 := by simpa using hc
    obtain ⟨rfl, rfl⟩ := some_pair h
    exact csets_lb hr he
  split at h
  · rename_i hc
    obtain rfl : c = 15 := by simpa using hc
    rcases hd with rfl | rfl
    · have h : some (csmR 15 C) = some (C', M) := h
      obtain ⟨rfl, rfl⟩ := some_pair h
      exact csm_lb hr he
    · have h : some (asksR 1968 15 C) = some (C', M) := h
      obtain ⟨rfl, rfl⟩ := some_pair h
      exact asks_lb hr he
  · cases h
theorem eat_rspan {A C : Cur} {l : List Int} (h : Eat A l C) (a most : Int) : Eat A (l ++ putW [C.wordV]) (rspanC C a most) := ((h.word).need).need
theorem even2 {n hi : Int} (h : evenIn n hi = true) : n % 2 = 0 ∧ 2 ≤ n ∧ n ≤ hi := by
  unfold evenIn at h
  simp only [Bool.and_eq_true, decide_eq_true_eq, beq_iff_eq] at h
  exact ⟨h.1.1, h.1.2, h.2⟩
theorem rtold_lb {c : Int} {C : Cur} (hr : Byt C) (he : (rtoldR c C).1.endC.e = 0) : [(2 * (((told3 C).wordsR (C.byteV / 2)).length : Int)) % 256] ++ putW ((told3 C).wordsR (C.byteV / 2)) = C.l := by
  have hbv := byteV_rng' hr
  have hE0 : Eat C ([] ++ [C.byteV]) (told3 C) := ((Eat.refl C).byte).need
  have hE := hE0.words (C.byteV / 2)
  obtain ⟨h1, h2⟩ := hE.fin hr he
  obtain ⟨h3, _, h5⟩ := wo_ok (hE0 hr).1 h1
  obtain ⟨h6, h7, h8⟩ := even2 (nd_ok (by decide) h3).2
  rw [h2, h5, show (2 * (C.byteV / 2)) % 256 = C.byteV from by omega]
  rfl
theorem rasks_lb {most c : Int} {C : Cur} (hr : Byt C) (he : (rasksR most c C).1.endC.e = 0) : putW [C.wordV, (C.wordsC 1).wordV] = C.l := by
  rw [((eat_rspan (Eat.refl C).word C.wordV most).fin hr he).2]
  rfl
theorem rone_lb {c : Int} {C : Cur} (hr : Byt C) (he : (roneR c C).1.endC.e = 0) : putW [C.wordV, (C.wordsC 1).wordV] = C.l := by
  rw [(((Eat.refl C).word).word.fin hr he).2]
  rfl
theorem eat_counted {A C : Cur} {l : List Int} (h : Eat A l C) (n : Int) : Eat A (l ++ [C.byteV]) (countedC1 C n) := (h.byte).need
theorem rmany_lb {c : Int} {C : Cur} (hr : Byt C) (he : (rmanyR c C).1.endC.e = 0) : (putW [C.wordV, (C.wordsC 1).wordV] ++ [(2 * (((rmanyC C).wordsR (C.wordsC 1).wordV).length : Int)) % 256]) ++ putW ((rmanyC C).wordsR (C.wordsC 1).wordV) = C.l := by
  have hE0 : Eat C _ (rspanC (C.wordsC 1) C.wordV 123) := eat_rspan (Eat.refl C).word C.wordV 123
  have hE1 : Eat C _ (rmanyC C) := eat_counted hE0 (C.wordsC 1).wordV
  have hbv := byteV_rng' (hE0 hr).1
  obtain ⟨h1, h2⟩ := (hE1.words (C.wordsC 1).wordV).fin hr he
  obtain ⟨h3, _, h5⟩ := wo_ok (hE1 hr).1 h1
  have h6 := (nd_ok (by decide) h3).2
  simp only [beq_iff_eq] at h6
  rw [h5, ← h6, Int.emod_eq_of_lt hbv.1 hbv.2, h2]
  rfl
theorem rmask_lb {c : Int} {C : Cur} (hr : Byt C) (he : (rmaskR c C).1.endC.e = 0) : putW [C.wordV, (C.wordsC 1).wordV, ((C.wordsC 1).wordsC 1).wordV] = C.l := by
  rw [(((Eat.refl C).word).word.word.fin hr he).2]
  rfl
theorem rboth_lb {c : Int} {C : Cur} (hr : Byt C) (he : (rbothR c C).1.endC.e = 0) : (putW [C.wordV, (C.wordsC 1).wordV, (rspanC (C.wordsC 1) C.wordV 125).wordV, (((rbothC C).wordsR (both1 C).wordV).length : Int) % 65536] ++ [(2 * (((rbothC C).wordsR (both1 C).wordV).length : Int)) % 256]) ++ putW ((rbothC C).wordsR (both1 C).wordV) = C.l := by
  have hE0 : Eat C _ (both1 C) := (eat_rspan (Eat.refl C).word C.wordV 125).word
  have hE1 : Eat C _ (both2 C) := eat_rspan hE0 (rspanC (C.wordsC 1) C.wordV 125).wordV 121
  have hE2 : Eat C _ (rbothC C) := eat_counted hE1 (both1 C).wordV
  have hbv := byteV_rng' (hE1 hr).1
  have hwv : 0 ≤ (both1 C).wordV ∧ (both1 C).wordV < 65536 := wordV_rng (hE0 hr).1
  obtain ⟨h1, h2⟩ := (hE2.words (both1 C).wordV).fin hr he
  obtain ⟨h3, _, h5⟩ := wo_ok (hE2 hr).1 h1
  have h6 := (nd_ok (by decide) h3).2
  simp only [beq_iff_eq] at h6
  rw [h5, Int.emod_eq_of_lt hwv.1 hwv.2, ← h6, Int.emod_eq_of_lt hbv.1 hbv.2, h2]
  rfl
theorem raskq_lb {c : Int} {C : Cur} (hr : Byt C) (he : (raskqR c C).1.endC.e = 0) : putW [C.wordV] = C.l := by
  rw [((Eat.refl C).word.fin hr he).2]
  rfl
theorem rq_lb {c : Int} {C : Cur} (hr : Byt C) (he : (rqR c C).1.endC.e = 0) : putW [(2 + 2 * (((q2C C).wordsR (q1C C).wordV).length : Int)) % 65536, (((q2C C).wordsR (q1C C).wordV).length : Int) % 65536] ++ putW ((q2C C).wordsR (q1C C).wordV) = C.l := by
  have hE0 : Eat C _ (q1C C) := ((Eat.refl C).word).need
  have hE1 : Eat C _ (q2C C) := (hE0.word).need
  have hwc : 0 ≤ C.wordV ∧ C.wordV < 65536 := wordV_rng hr
  have hwv : 0 ≤ (q1C C).wordV ∧ (q1C C).wordV < 65536 := wordV_rng (hE0 hr).1
  obtain ⟨h1, h2⟩ := (hE1.words (q1C C).wordV).fin hr he
  obtain ⟨h3, _, h5⟩ := wo_ok (hE1 hr).1 h1
  have h6 := (nd_ok (by decide) h3).2
  simp only [beq_iff_eq] at h6
  rw [h5, h6, Int.emod_eq_of_lt hwv.1 hwv.2, Int.emod_eq_of_lt hwc.1 hwc.2, h2]
  rfl
theorem regs_lb {dir c : Int} {C C' : Cur} {M : Msg} (hd : dir = 0 ∨ dir = 1) (hr : Byt C) (h : regsForm dir c C = some (C', M)) (he : C'.endC.e = 0) : regsLay dir M = C.l := by
  unfold regsForm at h
  split at h
  · rename_i hc
    simp only [Bool.or_eq_true, beq_iff_eq] at hc
    rcases hd with rfl | rfl
    · have h : some (rasksR 125 c C) = some (C', M) := h
      obtain ⟨rfl, rfl⟩ := some_pair h
      rcases hc with rfl | rfl <;> exact rasks_lb hr he
    · have h : some (rtoldR c C) = some (C', M) := h
      obtain ⟨rfl, rfl⟩ := some_pair h
      rcases hc with rfl | rfl <;> exact rtold_lb hr he
  split at h
  · rename_i hc
    obtain rfl : c = 6 := by simpa using hc
    obtain ⟨rfl, rfl⟩ := some_pair h
    rcases hd with rfl | rfl <;> exact rone_lb hr he
  split at h
  · rename_i hc
    obtain rfl : c = 16 := by simpa using hc
    rcases hd with rfl | rfl
    · have h : some (rmanyR 16 C) = some (C', M) := h
      obtain ⟨rfl, rfl⟩ := some_pair h
      exact rmany_lb hr he
    · have h : some (rasksR 123 16 C) = some (C', M) := h
      obtain ⟨rfl, rfl⟩ := some_pair h
      exact rasks_lb hr he
  split at h
  · rename_i hc
    obtain rfl : c = 22 := by simpa using hc
    obtain ⟨rfl, rfl⟩ := some_pair h
    rcases hd with rfl | rfl <;> exact rmask_lb hr he
  split at h
  · rename_i hc
    obtain rfl : c = 23 := by simpa using hc
    rcases hd with rfl | rfl
    · have h : some (rbothR 23 C) = some (C', M) := h
      obtain ⟨rfl, rfl⟩ := some_pair h
      exact rboth_lb hr he
    · have h : some (rtoldR 23 C) = some (C', M) := h
      obtain ⟨rfl, rfl⟩ := some_pair h
      exact rtold_lb hr he
  split at h
  · rename_i hc
    obtain rfl : c = 24 := by simpa using hc
    rcases hd with rfl | rfl
    · have h : some (raskqR 24 C) = some (C', M) := h
      obtain ⟨rfl, rfl⟩ := some_pair h
      exact raskq_lb hr he
    · have h : some (rqR 24 C) = some (C', M) := h
      obtain ⟨rfl, rfl⟩ := some_pair h
      exact rq_lb hr he
  · cases h
end Go.Proofs.Ytbaeecmamacphaa
namespace Go.Proofs.Ytbaeecmamacphaa
theorem Eat.conv {A C : Cur} {l l' : List Int} (h : Eat A l C) (k : Byt A → Byt C → C.e = 0 → l = l') : Eat A l' C := fun hr => by
  obtain ⟨h1, h2⟩ := h hr
  refine ⟨h1, fun he => ?_⟩
  rw [← k hr h1 he]
  exact h2 he
theorem line_lb {dir c : Int} {C : Cur} (hr : Byt C) (he : (lineR dir c C).1.endC.e = 0) : putW [(lineR dir c C).2.sub] ++ putW (lineR dir c C).2.words = C.l := by
  have hE0 : Eat C ([] ++ putW [C.wordV]) (line1 dir C) := ((Eat.refl C).word).need
  unfold lineR at he ⊢
  split at he
  · rename_i hw
    rw [if_pos hw]
    exact (((hE0.words 1).need).fin hr he).2.symm
  · rename_i hw
    rw [if_neg hw]
    exact (((hE0.need).words _).fin hr he).2.symm
theorem eat_ansL (C : Cur) (lo hi : Int) : Eat C ([] ++ [C.byteV]) (ansL C lo hi) := ((Eat.refl C).byte).need
theorem eat_busy {A C : Cur} {l : List Int} (h : Eat A l C) : Eat A (l ++ putW [C.wordV]) (busyC C) := (h.word).need
theorem ans_lb {c : Int} {C : Cur} (hc : c = 7 ∨ c = 11 ∨ c = 12 ∨ c = 17) (hr : Byt C) (he : (answerR c C).1.endC.e = 0) : diagLay 1 (answerR c C).2 = C.l := by
  have hbv := byteV_rng' hr
  rcases hc with rfl | rfl | rfl | rfl
  · have he : (C.bytesC 1).endC.e = 0 := he
    show [C.byteV % 256] = C.l
    rw [Int.emod_eq_of_lt hbv.1 hbv.2, ((Eat.refl C).byte.fin hr he).2]
    rfl
  · have he : ((busyC C).wordsC 1).endC.e = 0 := he
    show putW [C.wordV, (busyC C).wordV] = C.l
    rw [((eat_busy (Eat.refl C)).word.fin hr he).2]
    rfl
  · have he : ((ans12 C).bytesC (C.byteV - 6)).endC.e = 0 := he
    have hE := (((eat_busy (eat_ansL C 6 70)).word).word).bytes (C.byteV - 6)
    obtain ⟨h1, h2⟩ := hE.fin hr he
    obtain ⟨_, _, h3⟩ := by_ok h1
    show ([(6 + (((ans12 C).bytesR (C.byteV - 6)).length : Int)) % 256] ++ putW [(ansL C 6 70).wordV, (busyC (ansL C 6 70)).wordV, ((busyC (ansL C 6 70)).wordsC 1).wordV]) ++ (ans12 C).bytesR (C.byteV - 6) = C.l
    have h4 : (((ans12 C).bytesR (C.byteV - 6)).length : Int) = C.byteV - 6 := h3
    rw [h4, show (6 + (C.byteV - 6)) % 256 = C.byteV from by omega, h2]
    rfl
  · have he : ((ansL C 1 251).bytesC C.byteV).endC.e = 0 := he
    have hE := (eat_ansL C 1 251).bytes C.byteV
    obtain ⟨h1, h2⟩ := hE.fin hr he
    obtain ⟨_, _, h3⟩ := by_ok h1
    show [(((ansL C 1 251).bytesR C.byteV).length : Int) % 256] ++ (ansL C 1 251).bytesR C.byteV = C.l
    rw [h3, Int.emod_eq_of_lt hbv.1 hbv.2, h2]
    rfl
theorem ask_lb {c : Int} {C : Cur} (hc : c = 7 ∨ c = 11 ∨ c = 12 ∨ c = 17) (hr : Byt C) (he : C.endC.e = 0) : diagLay 0 { Msg.zero with code := c } = C.l := by
  have h := ((Eat.refl C).fin hr he).2
  rcases hc with rfl | rfl | rfl | rfl <;> exact h.symm
theorem diag_lb {dir c : Int} {C C' : Cur} {M : Msg} (hd : dir = 0 ∨ dir = 1) (hr : Byt C) (h : diagForm dir c C = some (C', M)) (he : C'.endC.e = 0) : diagLay dir M = C.l := by
  unfold diagForm at h
  split at h
  · rename_i hc
    obtain rfl : c = 8 := by simpa using hc
    obtain ⟨rfl, rfl⟩ := some_pair h
    have hco : (lineR dir 8 C).2.code = 8 := by unfold lineR; split <;> rfl
    unfold diagLay
    rw [hco, if_pos (by rfl)]
    exact line_lb hr he
  split at h
  · rename_i hc
    simp only [Bool.or_eq_true, beq_iff_eq] at hc
    have hc : c = 7 ∨ c = 11 ∨ c = 12 ∨ c = 17 := by omega
    rcases hd with rfl | rfl
    · have h : some (C, ({ Msg.zero with code := c } : Msg)) = some (C', M) := h
      obtain ⟨rfl, rfl⟩ := some_pair h
      exact ask_lb hc hr he
    · have h : some (answerR c C) = some (C', M) := h
      obtain ⟨rfl, rfl⟩ := some_pair h
      exact ans_lb hc hr he
  · cases h
theorem objs_eat : ∀ (n : Nat) (C : Cur) (L : List Obj), ∃ L', (objsR n C L).2 = L ++ L' ∧ L'.length = n ∧ Eat C (objB L') (objsR n C L).1
  | 0, C, L => ⟨[], by simp [objsR], rfl, Eat.refl C⟩
  | n + 1, C, L => by
    obtain ⟨L', h1, h2, h3⟩ := objs_eat n (((C.bytesC 1).bytesC 1).bytesC (C.bytesC 1).byteV) (L ++ [⟨C.byteV, ((C.bytesC 1).bytesC 1).bytesR (C.bytesC 1).byteV⟩])
    refine ⟨⟨C.byteV, ((C.bytesC 1).bytesC 1).bytesR (C.bytesC 1).byteV⟩ :: L', ?_, by simp [h2], ?_⟩
    · show (objsR n _ _).2 = _
      rw [h1]
      simp
    · have hE0 : Eat C _ ((C.bytesC 1).bytesC 1) := (Eat.refl C).byte.byte
      have hE1 : Eat C (([C.byteV, ((((C.bytesC 1).bytesC 1).bytesR (C.bytesC 1).byteV).length : Int) % 256]) ++ ((C.bytesC 1).bytesC 1).bytesR (C.bytesC 1).byteV) (((C.bytesC 1).bytesC 1).bytesC (C.bytesC 1).byteV) := (hE0.bytes _).conv fun hr _ he => by
        have hb := byteV_rng' ((Eat.refl C).byte hr).1
        rw [(by_ok he).2.2, Int.emod_eq_of_lt hb.1 hb.2]
        rfl
      exact hE1.trans h3
theorem mei_objs {c : Int} {C : Cur} (hr : Byt C) (he : (meiObjs (meiA C).byteV (meiD C)).1.endC.e = 0) : [C.byteV, (meiA C).byteV, (meiD C).byteV, (mei1 (meiD C)).byteV, (mei2 (meiD C)).byteV, ((meiObjs (meiA C).byteV (meiD C)).2.length : Int) % 256] ++ objB (meiObjs (meiA C).byteV (meiD C)).2 = C.l := by
  have hE0 : Eat C _ (meiA C) := (Eat.refl C).byte.need
  have hE1 : Eat C _ (meiD C) := hE0.byte.need
  have hE2 : Eat C _ (mei1 (meiD C)) := hE1.byte.need
  have hE3 : Eat C _ (mei2 (meiD C)) := hE2.byte.need
  have hE4 : Eat C _ (mei3 (meiD C)) := hE3.byte.need
  have hE5 : Eat C _ (mei4 (meiA C).byteV (meiD C)) := hE4.byte.need
  obtain ⟨L', h1, h2, h3⟩ := objs_eat (mei3 (meiD C)).byteV.toNat (mei4 (meiA C).byteV (meiD C)) []
  have hb := byteV_rng' (hE4 hr).1
  have h4 : (meiObjs (meiA C).byteV (meiD C)).2 = L' := by unfold meiObjs; rw [h1]; rfl
  obtain ⟨_, h5⟩ := (hE5.trans h3).fin hr he
  rw [h4, h2, show (((mei3 (meiD C)).byteV.toNat : Nat) : Int) % 256 = (mei3 (meiD C)).byteV from by omega, h5]
  rfl
theorem mei_lb {dir c : Int} {C C' : Cur} {M : Msg} (hd : dir = 0 ∨ dir = 1) (hr : Byt C) (h : meiForm dir c C = some (C', M)) (he : C'.endC.e = 0) : meiLay dir M = C.l := by
  have hE0 : Eat C _ (meiA C) := (Eat.refl C).byte.need
  unfold meiForm at h
  split at h
  · cases h
  split at h
  · rename_i hm
    obtain ⟨rfl, rfl⟩ := some_pair h
    have hE1 := (hE0.need (ok := decide (((meiA C).l.length : Int) ≤ 251)) (x := 5)).bytes ((meiB C).l.length : Int)
    obtain ⟨_, h5⟩ := hE1.fin hr he
    unfold meiLay
    rw [if_pos (show (C.byteV == 13) = true from hm), h5]
    rfl
  rename_i hm
  split at h
  · rename_i hc
    obtain rfl : dir = 1 := by simpa using hc
    obtain ⟨rfl, rfl⟩ := some_pair h
    unfold meiLay
    rw [if_neg (show ¬ (C.byteV == 13) = true from hm), if_neg (by decide)]
    exact mei_objs (c := c) hr he
  · rename_i hc
    obtain rfl : dir = 0 := by
      rcases hd with rfl | rfl
      · rfl
      · exact absurd rfl hc
    obtain ⟨rfl, rfl⟩ := some_pair h
    have hE1 : Eat C _ (meiD C) := hE0.byte.need
    obtain ⟨_, h5⟩ := hE1.byte.fin hr he
    unfold meiLay
    rw [if_neg (show ¬ (C.byteV == 13) = true from hm), if_pos (by rfl), h5]
    rfl
theorem recs_eat {one : Int → Cur → Int × Cur × Rec} {dir code : Int} (hl : ∀ s C, 0 < C.l.length → (one s C).2.1.l.length < C.l.length) (hE : ∀ s C, Eat C (recB dir code (one s C).2.2) (one s C).2.1) :
    ∀ (n : Nat) (s : Int) (C : Cur) (L : List Rec), C.l.length ≤ n → Byt C → (recsR one n s C L).1.e = 0 → ∃ L', (recsR one n s C L).2 = L ++ L' ∧ C.l = filesB dir code L'
  | 0, s, C, L, h, _, _ => ⟨[], by simp [recsR], by simpa [filesB] using h⟩
  | n + 1, s, C, L, h, hr, he => by
    unfold recsR at he ⊢
    split at he
    · rename_i hc
      rw [if_pos hc]
      simp only [Bool.and_eq_true, decide_eq_true_eq, beq_iff_eq] at hc
      have h1 := hl s C (by omega)
      obtain ⟨h2, h3⟩ := hE s C hr
      split at he
      · rename_i hn
        rw [he] at hn
        cases hn
      · rename_i hn
        rw [if_neg hn]
        have h4 : (one s C).2.1.e = 0 := by simpa using hn
        obtain ⟨L', h5, h6⟩ := recs_eat hl hE n (one s C).1 (one s C).2.1 (L ++ [(one s C).2.2]) (by omega) h2 he
        refine ⟨(one s C).2.2 :: L', by rw [h5]; simp, ?_⟩
        rw [(h3 h4).2, h6]
        rfl
    · rename_i hc
      rw [if_neg hc]
      have he : C.e = 0 := he
      refine ⟨[], by simp, ?_⟩
      have : C.l = [] := by
        apply List.eq_nil_of_length_eq_zero
        simp only [he, Bool.and_eq_true, decide_eq_true_eq, beq_self_eq_true, and_true] at hc
        omega
      rw [this]
      rfl
theorem eat_hd1 (C : Cur) : Eat C [6] (hd1 C) := ((Eat.refl C).byte.need).conv fun hr _ he => by
  have h := (nd_ok (by decide) he).2
  simp only [beq_iff_eq] at h
  rw [h]
  rfl
theorem eat_head (C : Cur) : Eat C ([6] ++ putW [(headM C).file, (headM C).record, (headM C).count]) (headC C) := by
  have hE1 : Eat C _ (hd2 C) := (eat_hd1 C).word.need
  have hE2 : Eat C _ (hd3 C) := hE1.word.need
  have hE3 : Eat C _ (headC C) := hE2.word.need
  exact hE3
theorem eat_ask (s : Int) (C : Cur) : Eat C (recB 0 20 (askO s C).2.2) (askO s C).2.1 := by
  have h : Eat C _ (askedC s C) := (eat_head C).need
  exact h.conv fun _ _ _ => rfl
theorem eat_wrt (dir s : Int) (C : Cur) : Eat C (recB dir 21 (wrtO s C).2.2) (wrtO s C).2.1 := by
  have h : Eat C _ (wrt1 C) := (eat_head C).need
  exact (h.words (hd3 C).wordV).conv fun _ _ _ => rfl
theorem eat_tld (s : Int) (C : Cur) : Eat C (recB 1 20 (toldO s C).2.2) (toldO s C).2.1 := by
  have hE1 : Eat C _ (told1 C) := (Eat.refl C).byte.need
  have hE2 : Eat C _ (told2 C) := hE1.byte.need
  refine (hE2.words (Int.tdiv (C.byteV - 1) 2)).conv fun hr _ he => ?_
  obtain ⟨h1, _, h2⟩ := wo_ok (hE2 hr).1 he
  obtain ⟨h3, h4⟩ := nd_ok (by decide) h1
  obtain ⟨h5, h6⟩ := nd_ok (by decide) (by_ok h3).1
  have hb := byteV_rng' hr
  simp only [Bool.and_eq_true, decide_eq_true_eq, beq_iff_eq] at h4 h6
  have h7 : (1 + 2 * (((told2 C).wordsR (Int.tdiv (C.byteV - 1) 2)).length : Int)) % 256 = C.byteV := by
    rw [h2, Int.tdiv_eq_ediv_of_nonneg (by omega)]
    omega
  show _ = [(1 + 2 * (((told2 C).wordsR (Int.tdiv (C.byteV - 1) 2)).length : Int)) % 256, 6] ++ putW ((told2 C).wordsR (Int.tdiv (C.byteV - 1) 2))
  rw [h7, h4]
  rfl
theorem filesR_lb {one : Int → Cur → Int × Cur × Rec} {dir code : Int} (hl : ∀ s C, 0 < C.l.length → (one s C).2.1.l.length < C.l.length) (hE : ∀ s C, Eat C (recB dir code (one s C).2.2) (one s C).2.1) {may : Int → Bool} {c : Int} {C : Cur} (hr : Byt C)
    (he : (filesR one may c C).1.endC.e = 0) : [((filesB dir code (flR one may C).2).length : Int) % 256] ++ filesB dir code (flR one may C).2 = C.l := by
  have hE0 : Eat C _ (fl1 may C) := (Eat.refl C).byte.need
  have hE1 := hE0.bytes C.byteV
  have hb := byteV_rng' hr
  unfold Cur.endC at he
  obtain ⟨h0, h00⟩ := nd_ok (by decide) he
  unfold filesR at h0 h00
  have hw : withinE (flR one may C).1.e ≠ 0 ∨ (flR one may C).1.e = 0 := by
    by_cases hz : (flR one may C).1.e = 0
    · exact Or.inr hz
    · left
      unfold withinE
      split
      · decide
      · exact hz
  have h1 : ((fl1 may C).bytesC C.byteV).e = 0 ∧ (flR one may C).1.e = 0 := by
    rcases hw with hw | hw
    · obtain ⟨h2, h3⟩ := nd_ok hw h0
      exact ⟨h2, by simpa using h3⟩
    · rw [hw] at h0
      refine ⟨?_, hw⟩
      unfold Cur.need at h0
      rw [if_neg (by rintro ⟨_, hx⟩; cases hx)] at h0
      exact h0
  obtain ⟨h2, h3, h4⟩ := by_ok h1.1
  have h5 : ((fl1 may C).bytesC C.byteV).l = [] := by
    rw [need_l] at h00
    simp only [beq_iff_eq] at h00
    exact List.eq_nil_of_length_eq_zero (by omega)
  have h6 : C.l = [C.byteV] ++ (fl1 may C).bytesR C.byteV := by
    rw [((hE1 hr).2 h1.1).2, h5]
    simp
  have hB : Byt (flB may C) := fun x hx => hr x (by rw [h6]; exact List.mem_append_right _ hx)
  obtain ⟨L', h7, h8⟩ := recs_eat hl hE (flB may C).l.length 0 (flB may C) [] (Nat.le_refl _) hB h1.2
  have h9 : (flR one may C).2 = L' := by unfold flR; rw [h7]; rfl
  have h10 : filesB dir code L' = (fl1 may C).bytesR C.byteV := h8.symm
  rw [h9, h10, h4, Int.emod_eq_of_lt hb.1 hb.2, h6]
theorem filesLay_eq (dir : Int) (M : Msg) : filesLay dir M = [((filesB dir M.code M.recs).length : Int) % 256] ++ filesB dir M.code M.recs := by
  unfold filesLay
  simp
theorem files_lb {dir c : Int} {C C' : Cur} {M : Msg} (hd : dir = 0 ∨ dir = 1) (hr : Byt C) (h : filesForm dir c C = some (C', M)) (he : C'.endC.e = 0) : filesLay dir M = C.l := by
  rw [filesLay_eq]
  unfold filesForm at h
  split at h
  · rename_i hc
    obtain rfl : c = 20 := by simpa using hc
    rcases hd with rfl | rfl
    · have h : some (filesR askO mayA 20 C) = some (C', M) := h
      obtain ⟨rfl, rfl⟩ := some_pair h
      exact filesR_lb askO_lt eat_ask hr he
    · have h : some (filesR toldO mayT 20 C) = some (C', M) := h
      obtain ⟨rfl, rfl⟩ := some_pair h
      exact filesR_lb toldO_lt eat_tld hr he
  split at h
  · rename_i hc
    obtain rfl : c = 21 := by simpa using hc
    obtain ⟨rfl, rfl⟩ := some_pair h
    exact filesR_lb wrtO_lt (eat_wrt dir) hr he
  · cases h
theorem parseOf_lb {form : Int → Int → Cur → Option (Cur × Msg)} {lay : Int → Msg → List Int} (hf : ∀ {dir c : Int} {C C' : Cur} {M : Msg}, (dir = 0 ∨ dir = 1) → Byt C → form dir c C = some (C', M) → C'.endC.e = 0 → lay dir M = C.l)
    {dir c : Int} {b : List Int} {M : Msg} (hd : dir = 0 ∨ dir = 1) (hr : ∀ x, x ∈ b → 0 ≤ x ∧ x < 256) (h : parseOf form dir c b = (M, 0)) : lay dir M = b := by
  unfold parseOf at h
  rw [if_pos hd] at h
  split at h
  · cases h
  · rename_i r hr'
    unfold finish at h
    split at h
    · rename_i he
      injection h with h
      obtain ⟨C', M'⟩ := r
      have h : M' = M := h
      subst h
      exact hf (C := ⟨b, false, 0⟩) hd hr hr' he
    · rename_i he
      injection h with _ h
      exact absurd h he
theorem writeOf_ok {parse : Int → Int → List Int → Msg × Int} {lay : Int → Msg → List Int} {dir : Int} {M : Msg} {l : List Int} (h1 : lay dir M = l) (h2 : parse dir M.code l = (M, 0)) : writeOf parse lay dir M = some l := by
  unfold writeOf
  rw [h1, if_pos h2]
theorem famW_ok {k : Nat} {dir : Int} {b : List Int} {M : Msg} (hd : dir = 0 ∨ dir = 1) (hr : ∀ x, x ∈ b → 0 ≤ x ∧ x < 256) (h : famP k dir b = (M, 0)) (hc : M.code = b.getD 0 0) : famW k dir M = some (b.drop 1) := by
  have hr' : ∀ x, x ∈ b.drop 1 → 0 ≤ x ∧ x < 256 := fun x hx => hr x (List.mem_of_mem_drop hx)
  unfold famP at h
  split at h
  · exact writeOf_ok (parseOf_lb coils_lb hd hr' h) (by rw [hc]; exact h)
  · exact writeOf_ok (parseOf_lb regs_lb hd hr' h) (by rw [hc]; exact h)
  · exact writeOf_ok (parseOf_lb diag_lb hd hr' h) (by rw [hc]; exact h)
  · exact writeOf_ok (parseOf_lb files_lb hd hr' h) (by rw [hc]; exact h)
  · exact writeOf_ok (parseOf_lb mei_lb hd hr' h) (by rw [hc]; exact h)
  · cases h
theorem fail_rng {x : Int} (h : failureB x = true) : (x != 0) = true := by
  unfold failureB at h
  simp only [decide_eq_true_eq, List.mem_cons, List.not_mem_nil, or_false] at h
  simp only [bne_iff_ne]
  omega
theorem pub_small {x : Int} (h : publicB x = true) : 0 < x ∧ x < 128 := by
  unfold publicB at h
  simp only [decide_eq_true_eq, List.mem_cons, List.not_mem_nil, or_false] at h
  omega
theorem pdu_back {dir : Int} {b : List Int} {M : Msg} (hd : dir = 0 ∨ dir = 1) (hr : ∀ x, x ∈ b → 0 ≤ x ∧ x < 256) (h : pduP dir b = (M, 0)) : pduW dir M = some b := by
  unfold pduP at h
  split at h
  · cases h
  split at h
  · cases h
  split at h
  · cases h
  rename_i h1 h2 h3
  simp only [beq_iff_eq] at h2
  simp only [decide_eq_true_eq] at h3
  obtain ⟨x, t, rfl⟩ : ∃ x t, b = x :: t := by
    cases b with
    | nil => exact absurd rfl h2
    | cons x t => exact ⟨x, t, rfl⟩
  have hx := hr x (by simp)
  split at h
  · rename_i hq
    simp only [Bool.and_eq_true, decide_eq_true_eq, beq_iff_eq] at hq
    obtain ⟨rfl, k1, k2, k3, k4⟩ := refP_ok h
    have k5 := pub_small k2
    unfold pduW
    rw [if_pos (show ((refM _ ((x :: t).getD 1 0)).fail != 0) = true from fail_rng k3)]
    rw [if_neg (by rw [hq.2]; decide)]
    unfold refW
    have k6 : pairB (refM (((x :: t).getD 0 0 - 128) % 256) ((x :: t).getD 1 0)).code (refM (((x :: t).getD 0 0 - 128) % 256) ((x :: t).getD 1 0)).fail = true := by
      show pairB (((x :: t).getD 0 0 - 128) % 256) ((x :: t).getD 1 0) = true
      unfold pairB
      rw [k2, k3]
      have : (((x :: t).getD 0 0 - 128) % 256 != 0) = true := by simp only [bne_iff_ne]; omega
      rw [this]
      rfl
    rw [k6]
    have k7 : decide (refM (((x :: t).getD 0 0 - 128) % 256) ((x :: t).getD 1 0) = refM (refM (((x :: t).getD 0 0 - 128) % 256) ((x :: t).getD 1 0)).code (refM (((x :: t).getD 0 0 - 128) % 256) ((x :: t).getD 1 0)).fail) = true := decide_eq_true rfl
    rw [k7]
    show some [(((x - 128) % 256) + 128) % 256, (x :: t).getD 1 0] = some (x :: t)
    match t, k4 with
    | [y], _ =>
      rw [show (((x - 128) % 256) + 128) % 256 = x from by omega]
      rfl
  · obtain ⟨_, k1⟩ := famP_good hd h
    obtain ⟨k2, k3⟩ := k1 rfl
    have k4 := famW_ok hd hr h k2
    unfold pduW
    rw [if_neg (by rw [k3]; decide), k2, k4]
    show (if decide (253 ≤ (t.length : Int)) = true then none else some ([x] ++ t)) = some (x :: t)
    rw [if_neg (by simp only [decide_eq_true_eq]; simp only [List.length_cons] at h3; omega)]
    rfl
end Go.Proofs.Ytbaeecmamacphaa
namespace Go.Proofs.Ytbaeecmamacphaa
theorem bytesR_le2 (C : Cur) (n : Int) : (C.bytesR n).length ≤ C.l.length := by
  unfold Cur.bytesR
  split
  · simp
  · rw [List.length_take]; omega
theorem wordsR_le (C : Cur) (n : Int) : (C.wordsR n).length ≤ C.l.length := by
  have h := bytesR_le2 C (2 * n)
  unfold Cur.wordsR
  split
  · simp
  · unfold wordTake
    split
    · rw [takeW_length]; omega
    · simp
def Sh (C C' : Cur) : Prop := C'.l.length ≤ C.l.length
theorem Sh.refl (C : Cur) : Sh C C := Nat.le_refl _
theorem Sh.bytes {A C : Cur} (h : Sh A C) {n : Int} : Sh A (C.bytesC n) := Nat.le_trans (bytesC_len C n) h
theorem Sh.words {A C : Cur} (h : Sh A C) {n : Int} : Sh A (C.wordsC n) := Nat.le_trans (wordsC_len C n) h
theorem Sh.need {A C : Cur} (h : Sh A C) {b : Bool} {e : Int} : Sh A (C.need b e) := by unfold Sh; rw [need_len]; exact h
theorem Sh.bR {A C : Cur} (h : Sh A C) (n : Int) {k : Nat} (hk : A.l.length ≤ k) : (C.bytesR n).length ≤ k := Nat.le_trans (bytesR_le2 C n) (Nat.le_trans h hk)
theorem Sh.wR {A C : Cur} (h : Sh A C) (n : Int) {k : Nat} (hk : A.l.length ≤ k) : (C.wordsR n).length ≤ k := Nat.le_trans (wordsR_le C n) (Nat.le_trans h hk)
theorem few_of {M : Msg} (h1 : M.words.length ≤ 252) (h2 : M.bits.length ≤ 2016) (h3 : M.data.length ≤ 252) (h4 : M.recs = []) (h5 : M.objects = []) : MsgFew M :=
  ⟨by omega, by omega, by omega, by rw [h4]; decide, (by rw [h4]; exact fun r h => nomatch h), by rw [h5]; decide, (by rw [h5]; exact fun r h => nomatch h)⟩
theorem few_nil (M : Msg) (h1 : M.words = []) (h2 : M.bits = []) (h3 : M.data = []) (h4 : M.recs = []) (h5 : M.objects = []) : MsgFew M := few_of (by rw [h1]; decide) (by rw [h2]; decide) (by rw [h3]; decide) h4 h5
theorem sh_span (C : Cur) (m : Int) : Sh C (spanC C m) := ((Sh.refl C).words.words.need).need
theorem sh_rspan {A C : Cur} (h : Sh A C) (a m : Int) : Sh A (rspanC C a m) := (h.words.need).need
theorem unpack_len {b : List Int} {n : Int} {l : List Bool} (h : unpackB b n = some l) : l.length ≤ 8 * b.length := by
  unfold unpackB at h
  split at h
  · rename_i hc
    split at h
    · injection h with h
      subst h
      have := hc.2
      rw [List.length_map, List.length_range]
      unfold many at this
      split at this <;> omega
    · cases h
  · cases h
theorem coils_few {dir c : Int} {C C' : Cur} {M : Msg} (hl : C.l.length ≤ 252) (h : coilsForm dir c C = some (C', M)) : MsgFew M := by
  unfold coilsForm at h
  repeat' split at h
  all_goals first | (cases h; done) | obtain ⟨rfl, rfl⟩ := some_pair h
  · exact few_nil _ rfl rfl rfl rfl rfl
  · exact few_of (Nat.zero_le _) (Nat.zero_le _) (((Sh.refl C).bytes.need).bR _ hl) rfl rfl
  · exact few_nil _ rfl rfl rfl rfl rfl
  · refine few_of (Nat.zero_le _) ?_ (Nat.zero_le _) rfl rfl
    show ((smU C).getD []).length ≤ 2016
    cases hu : smU C with
    | none => simp
    | some l =>
      have h1 := unpack_len hu
      have h2 : ((smC2 C).bytesR (smK C)).length ≤ 252 := ((sh_span C 1968).bytes.need).bR _ hl
      simp only [Option.getD_some]
      omega
  · exact few_nil _ rfl rfl rfl rfl rfl
theorem regs_few {dir c : Int} {C C' : Cur} {M : Msg} (hl : C.l.length ≤ 252) (h : regsForm dir c C = some (C', M)) : MsgFew M := by
  unfold regsForm at h
  repeat' split at h
  all_goals first | (cases h; done) | obtain ⟨rfl, rfl⟩ := some_pair h
  · exact few_nil _ rfl rfl rfl rfl rfl
  · exact few_of (((Sh.refl C).bytes.need).wR _ hl) (Nat.zero_le _) (Nat.zero_le _) rfl rfl
  · exact few_nil _ rfl rfl rfl rfl rfl
  · exact few_of (((sh_rspan (Sh.refl C).words _ _).bytes.need).wR _ hl) (Nat.zero_le _) (Nat.zero_le _) rfl rfl
  · exact few_nil _ rfl rfl rfl rfl rfl
  · exact few_nil _ rfl rfl rfl rfl rfl
  · exact few_of (((sh_rspan (sh_rspan (Sh.refl C).words _ _).words _ _).bytes.need).wR _ hl) (Nat.zero_le _) (Nat.zero_le _) rfl rfl
  · exact few_of (((Sh.refl C).bytes.need).wR _ hl) (Nat.zero_le _) (Nat.zero_le _) rfl rfl
  · exact few_nil _ rfl rfl rfl rfl rfl
  · exact few_of ((((Sh.refl C).words.need).words.need).wR _ hl) (Nat.zero_le _) (Nat.zero_le _) rfl rfl
theorem diag_few {dir c : Int} {C C' : Cur} {M : Msg} (hl : C.l.length ≤ 252) (h : diagForm dir c C = some (C', M)) : MsgFew M := by
  unfold diagForm at h
  repeat' split at h
  all_goals first | (cases h; done) | obtain ⟨rfl, rfl⟩ := some_pair h
  · unfold lineR
    split
    · exact few_of (((Sh.refl C).words.need).wR _ hl) (Nat.zero_le _) (Nat.zero_le _) rfl rfl
    · exact few_of (((Sh.refl C).words.need.need).wR _ hl) (Nat.zero_le _) (Nat.zero_le _) rfl rfl
  · unfold answerR
    have h1 : Sh C (ansL C 6 70) := (Sh.refl C).bytes.need
    have h2 : Sh C (busyC (ansL C 6 70)) := h1.words.need
    repeat' split
    · exact few_nil _ rfl rfl rfl rfl rfl
    · exact few_nil _ rfl rfl rfl rfl rfl
    · exact few_of (Nat.zero_le _) (Nat.zero_le _) (h2.words.words.bR _ hl) rfl rfl
    · exact few_of (Nat.zero_le _) (Nat.zero_le _) (Sh.bR (C := ansL C 1 251) ((Sh.refl C).bytes.need) _ hl) rfl rfl
    · exact few_nil _ rfl rfl rfl rfl rfl
  · exact few_nil _ rfl rfl rfl rfl rfl
theorem objB_few : ∀ (L : List Obj), 2 * L.length ≤ (objB L).length ∧ ∀ o, o ∈ L → o.value.length ≤ (objB L).length
  | [] => ⟨by simp [objB], fun o h => nomatch h⟩
  | x :: L => by
    obtain ⟨h1, h2⟩ := objB_few L
    have h3 : (objB (x :: L)).length = 2 + x.value.length + (objB L).length := by simp [objB]; omega
    refine ⟨by rw [h3, List.length_cons]; omega, fun o ho => ?_⟩
    rcases List.mem_cons.1 ho with rfl | ho
    · omega
    · have := h2 o ho
      omega
theorem mei_few {dir c : Int} {C C' : Cur} {M : Msg} (hd : dir = 0 ∨ dir = 1) (hr : Byt C) (hl : C.l.length ≤ 252) (h : meiForm dir c C = some (C', M)) (he : C'.endC.e = 0) : MsgFew M := by
  have hb := mei_lb hd hr h he
  have hA : Sh C (meiA C) := (Sh.refl C).bytes.need
  unfold meiForm at h
  repeat' split at h
  all_goals first | (cases h; done) | obtain ⟨rfl, rfl⟩ := some_pair h
  · exact few_of (Nat.zero_le _) (Nat.zero_le _) (Sh.bR (C := meiB C) hA.need _ hl) rfl rfl
  · rename_i hm hc
    obtain rfl : dir = 1 := by simpa using hc
    unfold meiLay at hb
    rw [if_neg (show ¬ (C.byteV == 13) = true from hm), if_neg (by decide)] at hb
    have h1 := congrArg List.length hb
    rw [List.length_append] at h1
    obtain ⟨h2, h3⟩ := objB_few (meiObjs (meiA C).byteV (meiD C)).2
    have h1 : 6 + (objB (meiObjs (meiA C).byteV (meiD C)).2).length = C.l.length := h1
    refine ⟨Nat.zero_le _, Nat.zero_le _, Nat.zero_le _, Nat.zero_le _, (fun r h => nomatch h), ?_, ?_⟩
    · show (meiObjs (meiA C).byteV (meiD C)).2.length ≤ 128
      omega
    · intro o ho
      have := h3 o ho
      omega
  · exact few_nil _ rfl rfl rfl rfl rfl
theorem filesB_few {dir code : Int} : ∀ (L : List Rec), (∀ r, r ∈ L → 4 ≤ (recB dir code r).length) → 4 * L.length ≤ (filesB dir code L).length ∧ ∀ r, r ∈ L → r.words.length ≤ (filesB dir code L).length
  | [], _ => ⟨by simp [filesB], fun o h => nomatch h⟩
  | x :: L, h => by
    obtain ⟨h1, h2⟩ := filesB_few L fun r hr => h r (by simp [hr])
    have h3 : (filesB dir code (x :: L)).length = (recB dir code x).length + (filesB dir code L).length := by simp [filesB]
    have h4 := h x (by simp)
    have h5 : x.words.length ≤ (recB dir code x).length := by
      have := putW_length x.words
      unfold recB
      rw [List.length_append]
      omega
    refine ⟨by rw [h3, List.length_cons]; omega, fun o ho => ?_⟩
    rcases List.mem_cons.1 ho with rfl | ho
    · omega
    · have := h2 o ho
      omega
theorem recs_all {one : Int → Cur → Int × Cur × Rec} {P : Rec → Prop} {dir code : Int} (hE : ∀ s C, Eat C (recB dir code (one s C).2.2) (one s C).2.1) (hP : ∀ s C, Byt C → (one s C).2.1.e = 0 → P (one s C).2.2) :
    ∀ (n : Nat) (s : Int) (C : Cur) (L : List Rec), Byt C → (recsR one n s C L).1.e = 0 → (∀ r, r ∈ L → P r) → ∀ r, r ∈ (recsR one n s C L).2 → P r
  | 0, s, C, L, _, _, h => h
  | n + 1, s, C, L, hr, he, h => by
    unfold recsR at he ⊢
    split at he
    · rename_i hc
      rw [if_pos hc]
      split at he
      · rename_i hn
        rw [he] at hn
        cases hn
      · rename_i hn
        rw [if_neg hn]
        have h4 : (one s C).2.1.e = 0 := by simpa using hn
        exact recs_all hE hP n _ _ _ ((hE s C) hr).1 he fun r hr' => by
          rcases List.mem_append.1 hr' with h5 | h5
          · exact h r h5
          · rw [List.mem_singleton.1 h5]
            exact hP s C hr h4
    · rename_i hc
      rw [if_neg hc]
      exact h
theorem tld_ne (s : Int) (C : Cur) (hr : Byt C) (he : (toldO s C).2.1.e = 0) : 4 ≤ (recB 1 20 (toldO s C).2.2).length := by
  have hE1 : Eat C _ (told1 C) := (Eat.refl C).byte.need
  have hE2 : Eat C _ (told2 C) := hE1.byte.need
  obtain ⟨h1, _, h2⟩ := wo_ok (hE2 hr).1 (show ((told2 C).wordsC (Int.tdiv (C.byteV - 1) 2)).e = 0 from he)
  obtain ⟨h3, _⟩ := nd_ok (by decide) h1
  obtain ⟨_, h6⟩ := nd_ok (by decide) (by_ok h3).1
  simp only [Bool.and_eq_true, decide_eq_true_eq, beq_iff_eq] at h6
  rw [Int.tdiv_eq_ediv_of_nonneg (by omega)] at h2
  have h7 := putW_length ((told2 C).wordsR (Int.tdiv (C.byteV - 1) 2))
  show 4 ≤ ([_, 6] ++ putW ((told2 C).wordsR (Int.tdiv (C.byteV - 1) 2))).length
  rw [List.length_append, h7, Int.tdiv_eq_ediv_of_nonneg (by omega)]
  simp only [List.length_cons, List.length_nil]
  omega
theorem ask_ne (dir code : Int) (r : Rec) (h : (code == 20 && dir == 1) = false) : 4 ≤ (recB dir code r).length := by
  unfold recB
  rw [h]
  simp [putW]
theorem filesR_few {one : Int → Cur → Int × Cur × Rec} {dir code : Int} (hl : ∀ s C, 0 < C.l.length → (one s C).2.1.l.length < C.l.length) (hE : ∀ s C, Eat C (recB dir code (one s C).2.2) (one s C).2.1)
    (hP : ∀ s C, Byt C → (one s C).2.1.e = 0 → 4 ≤ (recB dir code (one s C).2.2).length) {may : Int → Bool} {c : Int} {C : Cur} (hr : Byt C) (hl' : C.l.length ≤ 252)
    (he : (filesR one may c C).1.endC.e = 0) : MsgFew (filesR one may c C).2 := by
  have hb := filesR_lb hl hE hr he
  have h1 := congrArg List.length hb
  rw [List.length_append] at h1
  have h1 : 1 + (filesB dir code (flR one may C).2).length = C.l.length := h1
  have h2 : (flR one may C).1.e = 0 := by
    unfold Cur.endC at he
    obtain ⟨h0, _⟩ := nd_ok (by decide) he
    unfold filesR at h0
    by_cases hz : (flR one may C).1.e = 0
    · exact hz
    · have hw : withinE (flR one may C).1.e ≠ 0 := by
        unfold withinE
        split
        · decide
        · exact hz
      simpa using (nd_ok hw h0).2
  have hB : Byt (flB may C) := fun x hx => hr x (by
    have h5 : x ∈ (fl1 may C).l := by
      have : x ∈ (fl1 may C).bytesR C.byteV := hx
      unfold Cur.bytesR at this
      split at this
      · cases this
      · exact List.mem_of_mem_take this
    have h6 : x ∈ (C.bytesC 1).l := by unfold fl1 at h5; rwa [need_l] at h5
    unfold Cur.bytesC at h6
    split at h6
    · rw [need_l] at h6
      cases h6
    · exact List.mem_of_mem_drop h6)
  have h3 := recs_all (P := fun r => 4 ≤ (recB dir code r).length) hE hP (flB may C).l.length 0 (flB may C) [] hB h2 (fun r h => nomatch h)
  obtain ⟨h4, h5⟩ := filesB_few (dir := dir) (code := code) (flR one may C).2 h3
  refine ⟨Nat.zero_le _, Nat.zero_le _, Nat.zero_le _, ?_, ?_, Nat.zero_le _, (fun r h => nomatch h)⟩
  · show (flR one may C).2.length ≤ 64
    omega
  · intro r hr'
    have := h5 r hr'
    omega
theorem files_few {dir c : Int} {C C' : Cur} {M : Msg} (hd : dir = 0 ∨ dir = 1) (hr : Byt C) (hl : C.l.length ≤ 252) (h : filesForm dir c C = some (C', M)) (he : C'.endC.e = 0) : MsgFew M := by
  unfold filesForm at h
  split at h
  · rename_i hc
    obtain rfl : c = 20 := by simpa using hc
    rcases hd with rfl | rfl
    · have h : some (filesR askO mayA 20 C) = some (C', M) := h
      obtain ⟨rfl, rfl⟩ := some_pair h
      exact filesR_few askO_lt eat_ask (fun _ _ _ _ => ask_ne _ _ _ rfl) hr hl he
    · have h : some (filesR toldO mayT 20 C) = some (C', M) := h
      obtain ⟨rfl, rfl⟩ := some_pair h
      exact filesR_few toldO_lt eat_tld tld_ne hr hl he
  split at h
  · rename_i hc
    obtain rfl : c = 21 := by simpa using hc
    obtain ⟨rfl, rfl⟩ := some_pair h
    exact filesR_few wrtO_lt (eat_wrt dir) (fun _ _ _ _ => ask_ne _ _ _ rfl) hr hl he
  · cases h
theorem few_zero : MsgFew Msg.zero := few_nil _ rfl rfl rfl rfl rfl
theorem parse_few1 {form : Int → Int → Cur → Option (Cur × Msg)} (hf : ∀ {dir c : Int} {C C' : Cur} {M : Msg}, (dir = 0 ∨ dir = 1) → Byt C → C.l.length ≤ 252 → form dir c C = some (C', M) → C'.endC.e = 0 → MsgFew M)
    {dir c : Int} {b : List Int} {M : Msg} {E : Int} (hr : ∀ x, x ∈ b → 0 ≤ x ∧ x < 256) (hl : b.length ≤ 252) (h : parseOf form dir c b = (M, E)) : MsgFew M ∧ (E ≠ 0 → M = Msg.zero) := by
  unfold parseOf at h
  split at h
  · rename_i hd
    split at h
    · injection h with h1 h2
      subst h1 h2
      exact ⟨few_zero, fun _ => rfl⟩
    · rename_i r hr'
      unfold finish at h
      split at h
      · rename_i he
        injection h with h1 h2
        obtain ⟨C', M'⟩ := r
        have h1 : M' = M := h1
        subst h1
        exact ⟨hf (C := ⟨b, false, 0⟩) hd hr hl hr' he, fun hE => absurd h2.symm hE⟩
      · injection h with h1 h2
        subst h1
        exact ⟨few_zero, fun _ => rfl⟩
  · injection h with h1 h2
    subst h1
    exact ⟨few_zero, fun _ => rfl⟩
theorem famP_few {k : Nat} {dir : Int} {b : List Int} {M : Msg} {E : Int} (hr : ∀ x, x ∈ b → 0 ≤ x ∧ x < 256) (hl : b.length ≤ 253) (h : famP k dir b = (M, E)) : MsgFew M ∧ (E ≠ 0 → M = Msg.zero) := by
  have hr' : ∀ x, x ∈ b.drop 1 → 0 ≤ x ∧ x < 256 := fun x hx => hr x (List.mem_of_mem_drop hx)
  have hl' : (b.drop 1).length ≤ 252 := by rw [List.length_drop]; omega
  unfold famP at h
  split at h
  · exact parse_few1 (fun _ _ hl h _ => coils_few hl h) hr' hl' h
  · exact parse_few1 (fun _ _ hl h _ => regs_few hl h) hr' hl' h
  · exact parse_few1 (fun _ _ hl h _ => diag_few hl h) hr' hl' h
  · exact parse_few1 files_few hr' hl' h
  · exact parse_few1 mei_few hr' hl' h
  · injection h with h1 h2
    subst h1
    exact ⟨few_zero, fun _ => rfl⟩
theorem refP_few {b : List Int} {M : Msg} {E : Int} (h : refP b = (M, E)) : MsgFew M ∧ (E ≠ 0 → M = Msg.zero) := by
  unfold refP at h
  repeat' split at h
  all_goals (injection h with h1 h2; subst h1)
  all_goals first | exact ⟨few_zero, fun _ => rfl⟩ | exact ⟨few_nil _ rfl rfl rfl rfl rfl, fun hE => absurd h2.symm hE⟩
theorem pduP_few {dir : Int} {b : List Int} {M : Msg} {E : Int} (hr : ∀ x, x ∈ b → 0 ≤ x ∧ x < 256) (h : pduP dir b = (M, E)) : MsgFew M ∧ (E ≠ 0 → M = Msg.zero) := by
  unfold pduP at h
  split at h
  · injection h with h1 h2; subst h1; exact ⟨few_zero, fun _ => rfl⟩
  split at h
  · injection h with h1 h2; subst h1; exact ⟨few_zero, fun _ => rfl⟩
  split at h
  · injection h with h1 h2; subst h1; exact ⟨few_zero, fun _ => rfl⟩
  rename_i h3
  simp only [decide_eq_true_eq] at h3
  split at h
  · exact refP_few h
  · exact famP_few hr (by omega) h
end Go.Proofs.Ytbaeecmamacphaa
namespace Go.Proofs.Ytbaeecmamacphaa
open Go.RowKit
theorem back_some {dir : Int} {b : List Int} {M : Msg} {E : Int} {r : Option (List Int)} (hd : dir = 0 ∨ dir = 1) (hr : ∀ x, x ∈ b → 0 ≤ x ∧ x < 256) (h : pduP dir b = (M, E)) (he : (E == 0) = true) (hW : pduW dir M = r) : r = some b := by
  obtain rfl : E = 0 := by simpa using he
  rw [← hW]
  exact pdu_back hd hr h
theorem back_len {dir : Int} {b : List Int} {M : Msg} {E : Int} (h : pduP dir b = (M, E)) (he : (E == 0) = true) : 1 ≤ b.length ∧ b.length ≤ 253 := by
  obtain rfl : E = 0 := by simpa using he
  unfold pduP at h
  split at h
  · cases h
  split at h
  · cases h
  split at h
  · cases h
  rename_i h1 h2 h3
  simp only [beq_iff_eq, decide_eq_true_eq] at h2 h3
  omega
theorem back_no {b l : List Int} (h : l = b) (hl : 1 ≤ b.length ∧ b.length ≤ 253) (q : (((!(decide (l = b))) || (decide (253 < ((b.length : Nat) : Int)))) || (((b.length : Nat) : Int) == 0)) = true) : false = true := by
  rw [decide_eq_true h] at q
  simp only [Bool.not_true, Bool.false_or, Bool.or_eq_true, decide_eq_true_eq, beq_iff_eq] at q
  omega
theorem rt_eq {dir : Int} {M M' : Msg} {E' : Int} {l : List Int} (hd : dir = 0 ∨ dir = 1) (hc : 0 ≤ M.code ∧ M.code < 256) (hf : 0 ≤ M.fail ∧ M.fail < 256) (hW : pduW dir M = some l) (hP : pduP dir l = (M', E')) : M' = M ∧ E' = 0 := by
  have h := pdu_rt hd hc hf hW
  rw [hP] at h
  injection h with h1 h2
  exact ⟨h1, h2⟩
set_option maxRecDepth 100000 in
set_option maxHeartbeats 4000000 in
theorem lawPduBack {w : World} {ans : Bool} {mA : Bool} {A : Option Addr} {cpA : Nat} {b : List Int} (hb : RdB mA w (.slice A b.length cpA) b) {mM : Bool} {M : Msg} {cM : Array Value} (hM : MsgRd mM w cM.toList M) :
    Calls Try.prog 3 #[.bool ans, .slice A b.length cpA, .agg cM] w (PVal (.bool true) w) := by
 obtain ⟨xM, rfl⟩ := mcl_of hM
 have hRM := hM.rngs
 obtain ⟨hcM, hdM⟩ := hRM
 refine en 103 Try.func3 rfl <| sg <| L0 <| Obx (mcl M xM) fun g10 w11 hg12 B13 hu14 => Pl 1 <| ng <| L0 <| Oc <| m1 (@awake14 _) fun w15 hu16 => Pl 1 <| nt <| sq <| ?_
 refine go <| ?_
 have r17 := ub hu16 B13
 refine L0 <| Olw r17 <| ?_
 have U18 := ut0 hu14 hu16
 have r19 := MsgRd.old hM U18
 refine L0 <| Oc <| m1 (few_any r19) fun w20 hu21 => Pl 1 <| nt <| sq <| sg <| Pl 4 <| cu 3 [24] 27 (((decide (400 < ((b.length : Nat) : Int))) || (!(fewB M)))) (fun K K23 => ?_) ?_
 refine bl 24 ((decide (400 < ((b.length : Nat) : Int)))) (fun q22 => ?_) (fun q22 => ?_)
 have q22p := of_decide_eq_true q22
 exact Pl 3 <| ce K23 true (by rw [q22]; rfl)
 have q22p := of_decide_eq_false q22
 exact Pl 3 <| ce K23 (!(fewB M)) (by rw [q22]; rfl)
 refine nt <| ?_
 have U24 := ut0 U18 hu21
 refine cb (((decide (400 < ((b.length : Nat) : Int))) || (!(fewB M)))) (fun q25 => ?_) (fun q25 => ?_)
 refine sg <| Pl 2 <| nt <| rt <| tr <| rr (.bool true) <| ?_
 exact ⟨rfl, U24⟩
 have q25a := (or_f q25).1
 have q25b := (or_f q25).2
 have q25ap := of_decide_eq_false q25a
 have q25bn : (fewB M) = true := by simpa using q25b
 refine skn <| sg <| Pl 1 <| nt <| sq <| sg <| Pl 1 <| nt <| cb (ans) (fun q26 => ?_) (fun q26 => ?_)
 refine go <| Pl 1 <| ng <| Pl 2 <| ?_
 have r27 := RdB.old hb U24
 refine pr (pduP 1 b) fun M28 E29 hX30 => ?_
 refine L0 <| Oc <| e2 (pdu_parse_x hX30 r27 (by omega)) fun x31 w32 hM33 hu34 => Pl 3 <| L0 <| Oal mZ fun g35 w36 hg37 B38 hu39 => L0 <| Osw B38 (mcl M28 x31) fun w40 B41 hu42 => Pl 1 <| nt <| sq <| sg <| Pl 2 <| nt <| ?_
 have U43 := ut0 U24 hu34
 have U44 := ut0 U43 hu39
 have U45 := u1 U44 hu42 (ni U43.size hg37)
 refine cb ((E29 == 0)) (fun q46 => ?_) (fun q46 => ?_)
 have q46p := eq_of_beqi q46
 refine sg <| Pl 1 <| L0 <| Olw B41 <| ?_
 have U47 := u1 hu39 hu42 (nr hg37)
 have r48 := MsgRd.upd hM33 U47 safe0
 refine wo (pduW 1 M28) (fun hX50 => ?_) (fun l49 hX50 => ?_)
 refine L0 <| Oc <| m1 (pdu_write_n hX50 r48 (pduP_few (RdB.range hb) hX30).1) fun w51 hu52 => Pl 5 <| ng <| Pl 18 <| nt <| c1 <| sg <| Pl 1 <| nl <| ?_
 refine tn <| rt <| tr <| rr (.bool false) <| ?_
 have hs : false = true := by have z := back_some (by decide) (RdB.range hb) hX30 q46 hX50; cases z
 rw [hs]
 have U53 := ut0 U45 hu52
 exact ⟨rfl, U53⟩
 have hl54 := pduW_le (r48.rngs).1 hX50
 refine L0 <| Oc <| so2 (pdu_write_s hX50 r48 (pduP_few (RdB.range hb) hX30).1) fun A59 cp60 w55 rd63 hl61 hm62 hu58 => Pl 5 <| ng <| Pl 5 <| ?_
 have U64 := ut0 hu34 hu39
 have U65 := u1 U64 hu42 (ni hu34.size hg37)
 have U66 := ut0 U65 hu58
 have r67 := RdB.old r27 U66
 refine L1 <| Oc (args := #[.slice A59 l49.length cp60, .slice A b.length cpA]) <| m1 (same1_any (xs := l49) (ys := b) (rd63).rd r67) fun w68 hu69 => Pl 3 <| cu 4 [52] 56 (((!(decide (l49 = b))) || (decide (253 < ((b.length : Nat) : Int))))) (fun K K71 => ?_) ?_
 refine bl 52 ((!(decide (l49 = b)))) (fun q70 => ?_) (fun q70 => ?_)
 have q70n : (decide (l49 = b)) = false := by simpa using q70
 have q70np := of_decide_eq_false q70n
 exact Pl 4 <| ce K71 true (by rw [q70]; rfl)
 have q70n : (decide (l49 = b)) = true := by simpa using q70
 have q70np := of_decide_eq_true q70n
 exact Pl 4 <| ce K71 (decide (253 < ((b.length : Nat) : Int))) (by rw [q70]; rfl)
 refine Pl 1 <| cu 4 [57] 61 ((((!(decide (l49 = b))) || (decide (253 < ((b.length : Nat) : Int)))) || (((b.length : Nat) : Int) == 0))) (fun K K73 => ?_) ?_
 refine bl 57 (((!(decide (l49 = b))) || (decide (253 < ((b.length : Nat) : Int))))) (fun q72 => ?_) (fun q72 => ?_)
 exact Pl 4 <| ce K73 true (by rw [q72]; rfl)
 have q72a := (or_f q72).1
 have q72b := (or_f q72).2
 have q72an : (decide (l49 = b)) = true := by simpa using q72a
 have q72anp := of_decide_eq_true q72an
 have q72bp := of_decide_eq_false q72b
 exact Pl 4 <| ce K73 (((b.length : Nat) : Int) == 0) (by rw [q72]; rfl)
 refine nt <| ?_
 have U74 := ut0 U45 hu58
 have U75 := ut0 U74 hu69
 refine cb ((((!(decide (l49 = b))) || (decide (253 < ((b.length : Nat) : Int)))) || (((b.length : Nat) : Int) == 0))) (fun q76 => ?_) (fun q76 => ?_)
 refine sg <| Pl 1 <| nt <| rt <| tr <| rr (.bool false) <| ?_
 have hs : false = true := by have z := back_some (by decide) (RdB.range hb) hX30 q46 hX50; have y := back_len hX30 q46; exact back_no (Option.some.inj z) y q76
 rw [hs]
 exact ⟨rfl, U75⟩
 have q76a := (or_f q76).1
 have q76b := (or_f q76).2
 have q76aa := (or_f q76a).1
 have q76ab := (or_f q76a).2
 have q76aan : (decide (l49 = b)) = true := by simpa using q76aa
 have q76aanp := of_decide_eq_true q76aan
 have q76abp := of_decide_eq_false q76ab
 have q76bp := ne_of_beqi q76b
 refine skn <| sg <| Pl 1 <| ?_
 have U77 := ut0 hu21 hu34
 have U78 := ut0 U77 hu39
 have U79 := u1 U78 hu42 (ni U77.size hg37)
 have U80 := ut0 U79 hu58
 have U81 := ut0 U80 hu69
 have r82 := ub U81 r17
 refine L0 <| Olw r82 <| ?_
 have r83 := MsgRd.old r19 U81
 refine wo (pduW 1 M) (fun hX85 => ?_) (fun l84 hX85 => ?_)
 refine L0 <| Oc <| m1 (pdu_write_n hX85 r83 (fewB_few q25bn)) fun w86 hu87 => Pl 5 <| nt <| sq <| sg <| Pl 2 <| nt <| c0 <| skn <| sq <| ?_
 refine go <| Pl 5 <| sy 88 q46 <| Pl 15 <| nt <| rt <| rr (.bool true) <| ?_
 have U88 := ut0 U75 hu87
 exact ⟨rfl, U88⟩
 have hl89 := pduW_le (r83.rngs).1 hX85
 refine L0 <| Oc <| so2 (pdu_write_s hX85 r83 (fewB_few q25bn)) fun A94 cp95 w90 rd98 hl96 hm97 hu93 => Pl 5 <| nt <| sq <| sg <| Pl 2 <| nt <| c1 <| sg <| Pl 2 <| ?_
 refine pr (pduP 1 l84) fun M99 E100 hX101 => ?_
 refine L0 <| Oc <| e2 (pdu_parse_x hX101 (rd98).rd (by omega)) fun x102 w103 hM104 hu105 => Pl 3 <| L0 <| Oal mZ fun g106 w107 hg108 B109 hu110 => L0 <| Osw B109 (mcl M99 x102) fun w111 B112 hu113 => Pl 1 <| ng <| Pl 3 <| ?_
 have U114 := ut0 U75 hu93
 have U115 := ut0 U114 hu105
 have U116 := ut0 U115 hu110
 have U117 := u1 U116 hu113 (ni U115.size hg108)
 refine bl 78 ((E100 != 0)) (fun q118 => ?_) (fun q118 => ?_)
 have q118p := ne_of_bnei q118
 refine Pl 5 <| nt <| c1 <| sg <| Pl 1 <| nt <| rt <| tr <| rr (.bool false) <| ?_
 have hs : false = true := by have z := (rt_eq (by decide) hcM hdM hX85 hX101); rw [z.2] at q118; exact q118
 rw [hs]
 exact ⟨rfl, U117⟩
 have q118p := eq_of_bnei q118
 refine L1 <| Olw B112 <| ?_
 have U119 := ut0 hu93 hu105
 have U120 := ut0 U119 hu110
 have U121 := u1 U120 hu113 (ni U119.size hg108)
 have r122 := ub U121 r82
 refine L1 <| Olw r122 <| ?_
 have U123 := u1 hu110 hu113 (nr hg108)
 have r124 := MsgRd.upd hM104 U123 safe0
 have r125 := MsgRd.old r83 U121
 refine L1 <| Oc <| m1 (same7_any r124 r125) fun w126 hu127 => Pl 2 <| nt <| ?_
 have U128 := ut0 U117 hu127
 refine cb ((!(decide (M99 = M)))) (fun q129 => ?_) (fun q129 => ?_)
 have q129n : (decide (M99 = M)) = false := by simpa using q129
 have q129np := of_decide_eq_false q129n
 refine sg <| Pl 1 <| nt <| rt <| tr <| rr (.bool false) <| ?_
 have hs : false = true := by have z := (rt_eq (by decide) hcM hdM hX85 hX101); rw [decide_eq_true z.1] at q129; exact q129
 rw [hs]
 exact ⟨rfl, U128⟩
 have q129n : (decide (M99 = M)) = true := by simpa using q129
 have q129np := of_decide_eq_true q129n
 refine skn <| sg <| Pl 5 <| sy 88 q46 <| Pl 15 <| nt <| rt <| rr (.bool true) <| ?_
 exact ⟨rfl, U128⟩
 have q46p := ne_of_beqi q46
 refine skn <| sg <| Pl 1 <| ?_
 have U130 := ut0 hu21 hu34
 have U131 := ut0 U130 hu39
 have U132 := u1 U131 hu42 (ni U130.size hg37)
 have r133 := ub U132 r17
 refine L0 <| Olw r133 <| ?_
 have r134 := MsgRd.old r19 U132
 refine wo (pduW 1 M) (fun hX136 => ?_) (fun l135 hX136 => ?_)
 refine L0 <| Oc <| m1 (pdu_write_n hX136 r134 (fewB_few q25bn)) fun w137 hu138 => Pl 5 <| nt <| sq <| sg <| Pl 2 <| nt <| c0 <| skn <| sq <| ?_
 refine go <| Pl 5 <| sy 88 q46 <| ?_
 have r139 := ub hu138 B41
 refine L1 <| Olw r139 <| Pl 1 <| ?_
 have U140 := u1 hu39 hu42 (nr hg37)
 have U141 := ut0 U140 hu138
 have r142 := MsgRd.upd hM33 U141 safe0
 refine L1 <| Oc <| m1 (same7_any r142 (show MsgRd true _ _ _ from (MsgRd.zero true _))) fun w143 hu144 => Pl 3 <| cu 8 [94] 102 ((decide (M28 = Msg.zero))) (fun K K146 => ?_) ?_
 refine bl 94 ((decide (M28 = Msg.zero))) (fun q145 => ?_) (fun q145 => ?_)
 have q145p := of_decide_eq_true q145
 exact Pl 8 <| ce K146 true q145
 have q145p := of_decide_eq_false q145
 exact Pl 8 <| ce K146 false q145
 refine Pl 1 <| nt <| rt <| rr (.bool (decide (M28 = Msg.zero))) <| ?_
 have hs : (decide (M28 = Msg.zero)) = true := decide_eq_true ((pduP_few (RdB.range hb) hX30).2 (ne_of_beqi q46))
 rw [hs]
 have U147 := ut0 U45 hu138
 have U148 := ut0 U147 hu144
 exact ⟨rfl, U148⟩
 have hl149 := pduW_le (r134.rngs).1 hX136
 refine L0 <| Oc <| so2 (pdu_write_s hX136 r134 (fewB_few q25bn)) fun A154 cp155 w150 rd158 hl156 hm157 hu153 => Pl 5 <| nt <| sq <| sg <| Pl 2 <| nt <| c1 <| sg <| Pl 2 <| ?_
 refine pr (pduP 1 l135) fun M159 E160 hX161 => ?_
 refine L0 <| Oc <| e2 (pdu_parse_x hX161 (rd158).rd (by omega)) fun x162 w163 hM164 hu165 => Pl 3 <| L0 <| Oal mZ fun g166 w167 hg168 B169 hu170 => L0 <| Osw B169 (mcl M159 x162) fun w171 B172 hu173 => Pl 1 <| ng <| Pl 3 <| ?_
 have U174 := ut0 U45 hu153
 have U175 := ut0 U174 hu165
 have U176 := ut0 U175 hu170
 have U177 := u1 U176 hu173 (ni U175.size hg168)
 refine bl 78 ((E160 != 0)) (fun q178 => ?_) (fun q178 => ?_)
 have q178p := ne_of_bnei q178
 refine Pl 5 <| nt <| c1 <| sg <| Pl 1 <| nt <| rt <| tr <| rr (.bool false) <| ?_
 have hs : false = true := by have z := (rt_eq (by decide) hcM hdM hX136 hX161); rw [z.2] at q178; exact q178
 rw [hs]
 exact ⟨rfl, U177⟩
 have q178p := eq_of_bnei q178
 refine L1 <| Olw B172 <| ?_
 have U179 := ut0 hu153 hu165
 have U180 := ut0 U179 hu170
 have U181 := u1 U180 hu173 (ni U179.size hg168)
 have r182 := ub U181 r133
 refine L1 <| Olw r182 <| ?_
 have U183 := u1 hu170 hu173 (nr hg168)
 have r184 := MsgRd.upd hM164 U183 safe0
 have r185 := MsgRd.old r134 U181
 refine L1 <| Oc <| m1 (same7_any r184 r185) fun w186 hu187 => Pl 2 <| nt <| ?_
 have U188 := ut0 U177 hu187
 refine cb ((!(decide (M159 = M)))) (fun q189 => ?_) (fun q189 => ?_)
 have q189n : (decide (M159 = M)) = false := by simpa using q189
 have q189np := of_decide_eq_false q189n
 refine sg <| Pl 1 <| nt <| rt <| tr <| rr (.bool false) <| ?_
 have hs : false = true := by have z := (rt_eq (by decide) hcM hdM hX136 hX161); rw [decide_eq_true z.1] at q189; exact q189
 rw [hs]
 exact ⟨rfl, U188⟩
 have q189n : (decide (M159 = M)) = true := by simpa using q189
 have q189np := of_decide_eq_true q189n
 refine skn <| sg <| Pl 5 <| sy 88 q46 <| ?_
 have U190 := ut0 U181 hu187
 have r191 := ub U190 B41
 refine L1 <| Olw r191 <| Pl 1 <| ?_
 have U192 := u1 hu39 hu42 (nr hg37)
 have U193 := ut0 U192 hu153
 have U194 := ut0 U193 hu165
 have U195 := ut0 U194 hu170
 have U196 := u1 U195 hu173 (ni U194.size hg168)
 have U197 := ut0 U196 hu187
 have r198 := MsgRd.upd hM33 U197 safe0
 refine L1 <| Oc <| m1 (same7_any r198 (show MsgRd true _ _ _ from (MsgRd.zero true _))) fun w199 hu200 => Pl 3 <| cu 8 [94] 102 ((decide (M28 = Msg.zero))) (fun K K202 => ?_) ?_
 refine bl 94 ((decide (M28 = Msg.zero))) (fun q201 => ?_) (fun q201 => ?_)
 have q201p := of_decide_eq_true q201
 exact Pl 8 <| ce K202 true q201
 have q201p := of_decide_eq_false q201
 exact Pl 8 <| ce K202 false q201
 refine Pl 1 <| nt <| rt <| rr (.bool (decide (M28 = Msg.zero))) <| ?_
 have hs : (decide (M28 = Msg.zero)) = true := decide_eq_true ((pduP_few (RdB.range hb) hX30).2 (ne_of_beqi q46))
 rw [hs]
 have U203 := ut0 U188 hu200
 exact ⟨rfl, U203⟩
 refine skn <| sg <| Pl 2 <| ?_
 have r204 := RdB.old hb U24
 refine pr (pduP 0 b) fun M205 E206 hX207 => ?_
 refine L0 <| Oc <| e2 (pdu_parse_x hX207 r204 (by omega)) fun x208 w209 hM210 hu211 => Pl 3 <| L0 <| Oal mZ fun g212 w213 hg214 B215 hu216 => L0 <| Osw B215 (mcl M205 x208) fun w217 B218 hu219 => Pl 1 <| nt <| sq <| sg <| Pl 2 <| nt <| ?_
 have U220 := ut0 U24 hu211
 have U221 := ut0 U220 hu216
 have U222 := u1 U221 hu219 (ni U220.size hg214)
 refine cb ((E206 == 0)) (fun q223 => ?_) (fun q223 => ?_)
 have q223p := eq_of_beqi q223
 refine sg <| Pl 1 <| L0 <| Olw B218 <| ?_
 have U224 := u1 hu216 hu219 (nr hg214)
 have r225 := MsgRd.upd hM210 U224 safe0
 refine wo (pduW 0 M205) (fun hX227 => ?_) (fun l226 hX227 => ?_)
 refine L0 <| Oc <| m1 (pdu_write_n hX227 r225 (pduP_few (RdB.range hb) hX207).1) fun w228 hu229 => Pl 5 <| ng <| Pl 18 <| nt <| c1 <| sg <| Pl 1 <| nl <| ?_
 refine tn <| rt <| tr <| rr (.bool false) <| ?_
 have hs : false = true := by have z := back_some (by decide) (RdB.range hb) hX207 q223 hX227; cases z
 rw [hs]
 have U230 := ut0 U222 hu229
 exact ⟨rfl, U230⟩
 have hl231 := pduW_le (r225.rngs).1 hX227
 refine L0 <| Oc <| so2 (pdu_write_s hX227 r225 (pduP_few (RdB.range hb) hX207).1) fun A236 cp237 w232 rd240 hl238 hm239 hu235 => Pl 5 <| ng <| Pl 5 <| ?_
 have U241 := ut0 hu211 hu216
 have U242 := u1 U241 hu219 (ni hu211.size hg214)
 have U243 := ut0 U242 hu235
 have r244 := RdB.old r204 U243
 refine L1 <| Oc (args := #[.slice A236 l226.length cp237, .slice A b.length cpA]) <| m1 (same1_any (xs := l226) (ys := b) (rd240).rd r244) fun w245 hu246 => Pl 3 <| cu 4 [52] 56 (((!(decide (l226 = b))) || (decide (253 < ((b.length : Nat) : Int))))) (fun K K248 => ?_) ?_
 refine bl 52 ((!(decide (l226 = b)))) (fun q247 => ?_) (fun q247 => ?_)
 have q247n : (decide (l226 = b)) = false := by simpa using q247
 have q247np := of_decide_eq_false q247n
 exact Pl 4 <| ce K248 true (by rw [q247]; rfl)
 have q247n : (decide (l226 = b)) = true := by simpa using q247
 have q247np := of_decide_eq_true q247n
 exact Pl 4 <| ce K248 (decide (253 < ((b.length : Nat) : Int))) (by rw [q247]; rfl)
 refine Pl 1 <| cu 4 [57] 61 ((((!(decide (l226 = b))) || (decide (253 < ((b.length : Nat) : Int)))) || (((b.length : Nat) : Int) == 0))) (fun K K250 => ?_) ?_
 refine bl 57 (((!(decide (l226 = b))) || (decide (253 < ((b.length : Nat) : Int))))) (fun q249 => ?_) (fun q249 => ?_)
 exact Pl 4 <| ce K250 true (by rw [q249]; rfl)
 have q249a := (or_f q249).1
 have q249b := (or_f q249).2
 have q249an : (decide (l226 = b)) = true := by simpa using q249a
 have q249anp := of_decide_eq_true q249an
 have q249bp := of_decide_eq_false q249b
 exact Pl 4 <| ce K250 (((b.length : Nat) : Int) == 0) (by rw [q249]; rfl)
 refine nt <| ?_
 have U251 := ut0 U222 hu235
 have U252 := ut0 U251 hu246
 refine cb ((((!(decide (l226 = b))) || (decide (253 < ((b.length : Nat) : Int)))) || (((b.length : Nat) : Int) == 0))) (fun q253 => ?_) (fun q253 => ?_)
 refine sg <| Pl 1 <| nt <| rt <| tr <| rr (.bool false) <| ?_
 have hs : false = true := by have z := back_some (by decide) (RdB.range hb) hX207 q223 hX227; have y := back_len hX207 q223; exact back_no (Option.some.inj z) y q253
 rw [hs]
 exact ⟨rfl, U252⟩
 have q253a := (or_f q253).1
 have q253b := (or_f q253).2
 have q253aa := (or_f q253a).1
 have q253ab := (or_f q253a).2
 have q253aan : (decide (l226 = b)) = true := by simpa using q253aa
 have q253aanp := of_decide_eq_true q253aan
 have q253abp := of_decide_eq_false q253ab
 have q253bp := ne_of_beqi q253b
 refine skn <| sg <| Pl 1 <| ?_
 have U254 := ut0 hu21 hu211
 have U255 := ut0 U254 hu216
 have U256 := u1 U255 hu219 (ni U254.size hg214)
 have U257 := ut0 U256 hu235
 have U258 := ut0 U257 hu246
 have r259 := ub U258 r17
 refine L0 <| Olw r259 <| ?_
 have r260 := MsgRd.old r19 U258
 refine wo (pduW 0 M) (fun hX262 => ?_) (fun l261 hX262 => ?_)
 refine L0 <| Oc <| m1 (pdu_write_n hX262 r260 (fewB_few q25bn)) fun w263 hu264 => Pl 5 <| nt <| sq <| sg <| Pl 2 <| nt <| c0 <| skn <| sq <| ?_
 refine go <| Pl 5 <| sy 88 q223 <| Pl 15 <| nt <| rt <| rr (.bool true) <| ?_
 have U265 := ut0 U252 hu264
 exact ⟨rfl, U265⟩
 have hl266 := pduW_le (r260.rngs).1 hX262
 refine L0 <| Oc <| so2 (pdu_write_s hX262 r260 (fewB_few q25bn)) fun A271 cp272 w267 rd275 hl273 hm274 hu270 => Pl 5 <| nt <| sq <| sg <| Pl 2 <| nt <| c1 <| sg <| Pl 2 <| ?_
 refine pr (pduP 0 l261) fun M276 E277 hX278 => ?_
 refine L0 <| Oc <| e2 (pdu_parse_x hX278 (rd275).rd (by omega)) fun x279 w280 hM281 hu282 => Pl 3 <| L0 <| Oal mZ fun g283 w284 hg285 B286 hu287 => L0 <| Osw B286 (mcl M276 x279) fun w288 B289 hu290 => Pl 1 <| ng <| Pl 3 <| ?_
 have U291 := ut0 U252 hu270
 have U292 := ut0 U291 hu282
 have U293 := ut0 U292 hu287
 have U294 := u1 U293 hu290 (ni U292.size hg285)
 refine bl 78 ((E277 != 0)) (fun q295 => ?_) (fun q295 => ?_)
 have q295p := ne_of_bnei q295
 refine Pl 5 <| nt <| c1 <| sg <| Pl 1 <| nt <| rt <| tr <| rr (.bool false) <| ?_
 have hs : false = true := by have z := (rt_eq (by decide) hcM hdM hX262 hX278); rw [z.2] at q295; exact q295
 rw [hs]
 exact ⟨rfl, U294⟩
 have q295p := eq_of_bnei q295
 refine L1 <| Olw B289 <| ?_
 have U296 := ut0 hu270 hu282
 have U297 := ut0 U296 hu287
 have U298 := u1 U297 hu290 (ni U296.size hg285)
 have r299 := ub U298 r259
 refine L1 <| Olw r299 <| ?_
 have U300 := u1 hu287 hu290 (nr hg285)
 have r301 := MsgRd.upd hM281 U300 safe0
 have r302 := MsgRd.old r260 U298
 refine L1 <| Oc <| m1 (same7_any r301 r302) fun w303 hu304 => Pl 2 <| nt <| ?_
 have U305 := ut0 U294 hu304
 refine cb ((!(decide (M276 = M)))) (fun q306 => ?_) (fun q306 => ?_)
 have q306n : (decide (M276 = M)) = false := by simpa using q306
 have q306np := of_decide_eq_false q306n
 refine sg <| Pl 1 <| nt <| rt <| tr <| rr (.bool false) <| ?_
 have hs : false = true := by have z := (rt_eq (by decide) hcM hdM hX262 hX278); rw [decide_eq_true z.1] at q306; exact q306
 rw [hs]
 exact ⟨rfl, U305⟩
 have q306n : (decide (M276 = M)) = true := by simpa using q306
 have q306np := of_decide_eq_true q306n
 refine skn <| sg <| Pl 5 <| sy 88 q223 <| Pl 15 <| nt <| rt <| rr (.bool true) <| ?_
 exact ⟨rfl, U305⟩
 have q223p := ne_of_beqi q223
 refine skn <| sg <| Pl 1 <| ?_
 have U307 := ut0 hu21 hu211
 have U308 := ut0 U307 hu216
 have U309 := u1 U308 hu219 (ni U307.size hg214)
 have r310 := ub U309 r17
 refine L0 <| Olw r310 <| ?_
 have r311 := MsgRd.old r19 U309
 refine wo (pduW 0 M) (fun hX313 => ?_) (fun l312 hX313 => ?_)
 refine L0 <| Oc <| m1 (pdu_write_n hX313 r311 (fewB_few q25bn)) fun w314 hu315 => Pl 5 <| nt <| sq <| sg <| Pl 2 <| nt <| c0 <| skn <| sq <| ?_
 refine go <| Pl 5 <| sy 88 q223 <| ?_
 have r316 := ub hu315 B218
 refine L1 <| Olw r316 <| Pl 1 <| ?_
 have U317 := u1 hu216 hu219 (nr hg214)
 have U318 := ut0 U317 hu315
 have r319 := MsgRd.upd hM210 U318 safe0
 refine L1 <| Oc <| m1 (same7_any r319 (show MsgRd true _ _ _ from (MsgRd.zero true _))) fun w320 hu321 => Pl 3 <| cu 8 [94] 102 ((decide (M205 = Msg.zero))) (fun K K323 => ?_) ?_
 refine bl 94 ((decide (M205 = Msg.zero))) (fun q322 => ?_) (fun q322 => ?_)
 have q322p := of_decide_eq_true q322
 exact Pl 8 <| ce K323 true q322
 have q322p := of_decide_eq_false q322
 exact Pl 8 <| ce K323 false q322
 refine Pl 1 <| nt <| rt <| rr (.bool (decide (M205 = Msg.zero))) <| ?_
 have hs : (decide (M205 = Msg.zero)) = true := decide_eq_true ((pduP_few (RdB.range hb) hX207).2 (ne_of_beqi q223))
 rw [hs]
 have U324 := ut0 U222 hu315
 have U325 := ut0 U324 hu321
 exact ⟨rfl, U325⟩
 have hl326 := pduW_le (r311.rngs).1 hX313
 refine L0 <| Oc <| so2 (pdu_write_s hX313 r311 (fewB_few q25bn)) fun A331 cp332 w327 rd335 hl333 hm334 hu330 => Pl 5 <| nt <| sq <| sg <| Pl 2 <| nt <| c1 <| sg <| Pl 2 <| ?_
 refine pr (pduP 0 l312) fun M336 E337 hX338 => ?_
 refine L0 <| Oc <| e2 (pdu_parse_x hX338 (rd335).rd (by omega)) fun x339 w340 hM341 hu342 => Pl 3 <| L0 <| Oal mZ fun g343 w344 hg345 B346 hu347 => L0 <| Osw B346 (mcl M336 x339) fun w348 B349 hu350 => Pl 1 <| ng <| Pl 3 <| ?_
 have U351 := ut0 U222 hu330
 have U352 := ut0 U351 hu342
 have U353 := ut0 U352 hu347
 have U354 := u1 U353 hu350 (ni U352.size hg345)
 refine bl 78 ((E337 != 0)) (fun q355 => ?_) (fun q355 => ?_)
 have q355p := ne_of_bnei q355
 refine Pl 5 <| nt <| c1 <| sg <| Pl 1 <| nt <| rt <| tr <| rr (.bool false) <| ?_
 have hs : false = true := by have z := (rt_eq (by decide) hcM hdM hX313 hX338); rw [z.2] at q355; exact q355
 rw [hs]
 exact ⟨rfl, U354⟩
 have q355p := eq_of_bnei q355
 refine L1 <| Olw B349 <| ?_
 have U356 := ut0 hu330 hu342
 have U357 := ut0 U356 hu347
 have U358 := u1 U357 hu350 (ni U356.size hg345)
 have r359 := ub U358 r310
 refine L1 <| Olw r359 <| ?_
 have U360 := u1 hu347 hu350 (nr hg345)
 have r361 := MsgRd.upd hM341 U360 safe0
 have r362 := MsgRd.old r311 U358
 refine L1 <| Oc <| m1 (same7_any r361 r362) fun w363 hu364 => Pl 2 <| nt <| ?_
 have U365 := ut0 U354 hu364
 refine cb ((!(decide (M336 = M)))) (fun q366 => ?_) (fun q366 => ?_)
 have q366n : (decide (M336 = M)) = false := by simpa using q366
 have q366np := of_decide_eq_false q366n
 refine sg <| Pl 1 <| nt <| rt <| tr <| rr (.bool false) <| ?_
 have hs : false = true := by have z := (rt_eq (by decide) hcM hdM hX313 hX338); rw [decide_eq_true z.1] at q366; exact q366
 rw [hs]
 exact ⟨rfl, U365⟩
 have q366n : (decide (M336 = M)) = true := by simpa using q366
 have q366np := of_decide_eq_true q366n
 refine skn <| sg <| Pl 5 <| sy 88 q223 <| ?_
 have U367 := ut0 U358 hu364
 have r368 := ub U367 B218
 refine L1 <| Olw r368 <| Pl 1 <| ?_
 have U369 := u1 hu216 hu219 (nr hg214)
 have U370 := ut0 U369 hu330
 have U371 := ut0 U370 hu342
 have U372 := ut0 U371 hu347
 have U373 := u1 U372 hu350 (ni U371.size hg345)
 have U374 := ut0 U373 hu364
 have r375 := MsgRd.upd hM210 U374 safe0
 refine L1 <| Oc <| m1 (same7_any r375 (show MsgRd true _ _ _ from (MsgRd.zero true _))) fun w376 hu377 => Pl 3 <| cu 8 [94] 102 ((decide (M205 = Msg.zero))) (fun K K379 => ?_) ?_
 refine bl 94 ((decide (M205 = Msg.zero))) (fun q378 => ?_) (fun q378 => ?_)
 have q378p := of_decide_eq_true q378
 exact Pl 8 <| ce K379 true q378
 have q378p := of_decide_eq_false q378
 exact Pl 8 <| ce K379 false q378
 refine Pl 1 <| nt <| rt <| rr (.bool (decide (M205 = Msg.zero))) <| ?_
 have hs : (decide (M205 = Msg.zero)) = true := decide_eq_true ((pduP_few (RdB.range hb) hX207).2 (ne_of_beqi q223))
 rw [hs]
 have U380 := ut0 U365 hu377
 exact ⟨rfl, U380⟩
theorem lawPduBackV {w : World} {ans : Bool} {mA : Bool} {vA : Value} {b : List Int} (hb : RdB mA w vA b) {mM : Bool} {M : Msg} {cM : Array Value} (hM : MsgRd mM w cM.toList M) : Calls Try.prog 3 #[.bool ans, vA, .agg cM] w (PVal (.bool true) w) := by
  obtain ⟨AA, cpA, rfl, _, _⟩ := hb.shape
  exact lawPduBack (ans := ans) hb hM
end Go.Proofs.Ytbaeecmamacphaa
namespace Go.Proofs.Ytbaeecmamacphaa
open Go.ChangeShapes Go.WideShapes Go.ChangeAt Go.RowKit
theorem own : ownKnob Try.prog.godebug = none := by kernel_rfl
theorem laidOut : laidOutB Try.prog = true := by kernel_rfl
set_option maxRecDepth 100000 in
theorem lifted (os : Os) (started : os.Started) (H : Type) (enc : TypeId × Value → H) :
    ReturnsInHanded {} Try.checked os 3 .any (Rows.pduBackSpec.pre6 enc Try.prog Try.f3 Rows.pduBackRow.domain false) (Rows.pduBackSpec.post enc Try.prog Try.f3 false true false false) := by
  refine returnsInHanded_of_change (C := Try.checked) own started (by kernel_rfl) Try.func3
    (ChangeSpec.witness6 (enc := enc) (C := Try.checked) false ⟨#[], #[.bool false, .slice none 0 0, .agg mZ], []⟩ 8 (by kernel_rfl) (by kernel_rfl) (by kernel_rfl) (by kernel_rfl)) ?_
  intro W base args ds gs before hval0 hW hcnd _
  have hval : ∀ (j : Nat) t v, Try.f3.params[j]? = some t → args[j]? = some v → Value.okWide Try.prog W .any base t v := hval0
  have hW' := hW
  obtain ⟨p, q, hA0, hV, rfl, hfz, hnd⟩ := hW
  have hA : DataW.TrodAll enc Try.prog W 0 (fun _ => true) true Try.f3.params.toList args.toList ds p := hA0
  rw [Try.params3] at hA hval
  obtain ⟨v0, vs0, d0, ds0, p0, q0, hargs, rfl, rfl, h0, r0⟩ := trodAll_cons hA
  obtain ⟨v1, vs1, d1, ds1, p1, q1, rfl, rfl, rfl, h1, r1⟩ := trodAll_cons r0
  obtain ⟨v2, vs2, d2, ds2, p2, q2, rfl, rfl, rfl, h2, r2⟩ := trodAll_cons r1
  obtain ⟨rfl, rfl, rfl⟩ := trodAll_nil r2
  obtain rfl : args = #[v0, v1, v2] := by cases args; simp_all
  obtain ⟨rfl, rfl⟩ := trodVars_none hV
  obtain ⟨a0, rfl, rfl, rfl⟩ := open_bool Try.underlying4 (hval 0 4 v0 rfl rfl) h0
  have k1 := h1
  have lt1 : ∀ x ∈ p1, x.block < W.heap.size := by obtain ⟨m, hm⟩ := k1; exact DataW.trod_lt m _ _ _ hm
  obtain ⟨s1, len1, cap1, rfl⟩ := okWide_slice Try.underlying22 (hval 1 22 v1 rfl rfl)
  obtain ⟨u1, xs1, e1, R1⟩ : ∃ u xs, [Value.slice s1 len1 cap1] = [u] ∧ RdB false W u xs := by
    obtain ⟨fuel, hf⟩ := k1
    exact sl_u8 hf
  obtain rfl : Value.slice s1 len1 cap1 = u1 := by simpa using e1
  have k2 := h2
  have lt2 : ∀ x ∈ p2, x.block < W.heap.size := by obtain ⟨m, hm⟩ := k2; exact DataW.trod_lt m _ _ _ hm
  obtain ⟨c2, M2, rfl, R2⟩ := msg_arg ⟨_, hval 2 29 v2 rfl rfl⟩ h2
  clear hA0 hval0
  refine (lawPduBackV (ans := a0) R1 R2).mono fun e W' ⟨he, hu⟩ => ?_
  have bel := upd_below hu
  subst he
  exact ⟨_, rfl, _, _, _, [], _, [], hW', trodAll_mk1 (shut_bool Try.underlying4 _), (trodAll_cons_mk (shut_bool Try.underlying4 _) (trodAll_cons_mk (Below.trod laidOut (by kernel_rfl) (of_decide_eq_true (by kernel_rfl)) k1 bel lt1) (trodAll_cons_mk (Below.trod laidOut (by kernel_rfl) (of_decide_eq_true (by kernel_rfl)) k2 bel lt2) trodAll_mk0))), rfl, bel.frame _, fun h => by cases h⟩
theorem over : Rows.pduBackRow.holds Try.pinned (OpenSpec.ofChange Rows.pduBackSpec) :=
  OpenClaim.holds_of_wide 3 Try.f3 rfl rfl rfl rfl rfl rfl rfl ⟨rfl, rfl, rfl, rfl, rfl⟩ rfl rfl rfl rfl rfl (by kernel_rfl) Try.func3 (by kernel_rfl)
    (of_decide_eq_true (by kernel_rfl)) (by unfold Func.isWrapper; first | (rw [if_pos (by decide +kernel)]; kernel_rfl) | (rw [if_neg (by decide +kernel)]; exact ⟨rfl, rfl⟩))
    (fun os started H enc _ => lifted os started H enc)
theorem proved : Rows.PduBackSaid := over
#print axioms proved
end Go.Proofs.Ytbaeecmamacphaa
