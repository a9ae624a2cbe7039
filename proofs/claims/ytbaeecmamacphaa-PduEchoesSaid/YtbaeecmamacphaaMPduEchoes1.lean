/- The statement PduEchoes holds; no condition of its own. -/
import Derived.Test.YtbaeecmamacphaaKA1
import Derived.Test.YtbaeecmamacphaaKA2
import Derived.Test.YtbaeecmamacphaaKA3
import Derived.Test.YtbaeecmamacphaaKA4
import Derived.Test.YtbaeecmamacphaaKA5
import Derived.Test.YtbaeecmamacphaaRows
import Derived.WalkKit
import Derived.ProofKit
import Derived.OpenShut
import Derived.ShutString
import Derived.ChangeOld
import Derived.Below
set_option linter.unusedVariables false
set_option linter.unusedSimpArgs false
namespace Go.Proofs.Ytbaeecmamacphaa
def Byt (C : Cur) : Prop := ∀ x, x ∈ C.l → 0 ≤ x ∧ x < 256
theorem nd_ok {C : Cur} {ok : Bool} {x : Int} (hx : x ≠ 0) (h : (C.need ok x).e = 0) : C.e = 0 ∧ ok = true := by
  unfold Cur.need at h
  split at h
  · exact absurd h hx
  · rename_i hh
    refine ⟨h, ?_⟩
    cases ok
    · exact absurd ⟨h, rfl⟩ hh
    · rfl
theorem by_ok {C : Cur} {n : Int} (h : (C.bytesC n).e = 0) : C.e = 0 ∧ C.l = C.bytesR n ++ (C.bytesC n).l ∧ ((C.bytesR n).length : Int) = n := by
  unfold Cur.bytesC at h ⊢
  unfold Cur.bytesR
  split at h
  · exfalso
    unfold Cur.need at h
    split at h
    · cases h
    · rename_i hh
      exact hh ⟨h, rfl⟩
  · rename_i hf
    rw [if_neg hf, if_neg hf]
    refine ⟨h, (List.take_append_drop _ _).symm, ?_⟩
    unfold Cur.fails at hf
    simp only [Bool.or_eq_true, decide_eq_true_eq, not_or] at hf
    rw [List.length_take]
    omega
theorem putW_takeW : ∀ (l : List Int), l.length % 2 = 0 → (∀ x, x ∈ l → 0 ≤ x ∧ x < 256) → putW (takeW l) = l
  | [], _, _ => rfl
  | [_], h, _ => by simp at h
  | a :: b :: r, h, hr => by
    have ha := hr a (by simp)
    have hb := hr b (by simp)
    simp only [takeW, putW]
    rw [putW_takeW r (by simp at h; omega) (fun x hx => hr x (by simp [hx]))]
    congr 1
    · omega
    · congr 1
      omega
theorem wo_ok {C : Cur} {n : Int} (hr : Byt C) (h : (C.wordsC n).e = 0) : C.e = 0 ∧ C.l = putW (C.wordsR n) ++ (C.wordsC n).l ∧ ((C.wordsR n).length : Int) = n := by
  unfold Cur.wordsC at h ⊢
  unfold Cur.wordsR
  split at h
  · obtain ⟨_, _, h3⟩ := by_ok h
    omega
  · rename_i hb
    rw [if_neg hb, if_neg hb]
    obtain ⟨h1, h2, h3⟩ := by_ok h
    have h4 : (C.bytesR (2 * n)).length % 2 = 0 := by omega
    have h5 : ∀ x, x ∈ C.bytesR (2 * n) → 0 ≤ x ∧ x < 256 := fun x hx => hr x (by rw [h2]; exact List.mem_append_left _ hx)
    unfold wordTake
    rw [if_pos h4]
    refine ⟨h1, by rw [putW_takeW _ h4 h5]; exact h2, ?_⟩
    rw [takeW_length]
    omega
def Eat (C : Cur) (l : List Int) (C' : Cur) : Prop := Byt C → Byt C' ∧ (C'.e = 0 → C.e = 0 ∧ C.l = l ++ C'.l)
theorem Eat.trans {A B C : Cur} {l m : List Int} (h : Eat A l B) (k : Eat B m C) : Eat A (l ++ m) C := fun hr => by
  obtain ⟨h1, h2⟩ := h hr
  obtain ⟨k1, k2⟩ := k h1
  refine ⟨k1, fun he => ?_⟩
  obtain ⟨k3, k4⟩ := k2 he
  obtain ⟨h3, h4⟩ := h2 k3
  exact ⟨h3, by rw [h4, k4, List.append_assoc]⟩
theorem Eat.refl (C : Cur) : Eat C [] C := fun hr => ⟨hr, fun he => ⟨he, rfl⟩⟩
theorem Eat.need {A C : Cur} {l : List Int} {ok : Bool} {x : Int} (h : Eat A l C) (hx : x ≠ 0 := by decide) : Eat A l (C.need ok x) := fun hr => by
  obtain ⟨h1, h2⟩ := h hr
  refine ⟨fun y hy => h1 y (by rwa [need_l] at hy), fun he => ?_⟩
  rw [need_l]
  exact h2 (nd_ok hx he).1
theorem Eat.bytes {A C : Cur} {l : List Int} (h : Eat A l C) (n : Int) : Eat A (l ++ C.bytesR n) (C.bytesC n) := h.trans fun hr => ⟨bytesC_rng hr n, fun he => ⟨(by_ok he).1, (by_ok he).2.1⟩⟩
theorem Eat.words {A C : Cur} {l : List Int} (h : Eat A l C) (n : Int) : Eat A (l ++ putW (C.wordsR n)) (C.wordsC n) := h.trans fun hr => ⟨wordsC_rng hr n, fun he => ⟨(wo_ok hr he).1, (wo_ok hr he).2.1⟩⟩
theorem one_of {l : List Int} (h : (l.length : Int) = 1) : l = [l.getD 0 0] := by
  match l, h with
  | [a], _ => rfl
  | [], h => simp at h
  | _ :: _ :: _, h => simp at h; omega
theorem Eat.byte {A C : Cur} {l : List Int} (h : Eat A l C) : Eat A (l ++ [C.byteV]) (C.bytesC 1) := h.trans fun hr => ⟨bytesC_rng hr 1, fun he => by
  obtain ⟨h1, h2, h3⟩ := by_ok he
  refine ⟨h1, ?_⟩
  have := one_of h3
  show C.l = [(C.bytesR 1).getD 0 0] ++ _
  rw [← this]
  exact h2⟩
theorem Eat.word {A C : Cur} {l : List Int} (h : Eat A l C) : Eat A (l ++ putW [C.wordV]) (C.wordsC 1) := h.trans fun hr => ⟨wordsC_rng hr 1, fun he => by
  obtain ⟨h1, h2, h3⟩ := wo_ok hr he
  refine ⟨h1, ?_⟩
  have := one_of h3
  show C.l = putW [(C.wordsR 1).getD 0 0] ++ _
  rw [← this]
  exact h2⟩
theorem Eat.fin {A C : Cur} {l : List Int} (h : Eat A l C) (hr : Byt A) (he : C.endC.e = 0) : C.e = 0 ∧ A.l = l := by
  unfold Cur.endC at he
  obtain ⟨h1, h2⟩ := nd_ok (by decide) he
  obtain ⟨_, h3⟩ := (h hr).2 h1
  have : C.l = [] := by
    simp only [beq_iff_eq] at h2
    exact List.eq_nil_of_length_eq_zero (by omega)
  exact ⟨h1, by rw [h3, this, List.append_nil]⟩
theorem byteV_rng' {C : Cur} (hr : Byt C) : 0 ≤ C.byteV ∧ C.byteV < 256 := by
  unfold Cur.byteV
  rw [List.getD_eq_getElem?_getD]
  cases h : (C.bytesR 1)[0]? with
  | none => simp
  | some x =>
    have hm : x ∈ C.bytesR 1 := List.mem_of_getElem? h
    have : x ∈ C.l := by
      unfold Cur.bytesR at hm
      split at hm
      · cases hm
      · exact List.mem_of_mem_take hm
    exact hr x this
theorem eat_span (C : Cur) (most : Int) : Eat C (putW [C.wordV, (C.wordsC 1).wordV]) (spanC C most) := by
  have := (((Eat.refl C).word).word)
  exact (this.need).need
theorem bits256 : ∀ n : Nat, n < 256 → (((if ((n : Int) / 2 ^ 0 % 2 == 1) then 1 else 0) + (if ((n : Int) / 2 ^ 1 % 2 == 1) then 2 else 0) + (if ((n : Int) / 2 ^ 2 % 2 == 1) then 4 else 0) + (if ((n : Int) / 2 ^ 3 % 2 == 1) then 8 else 0) + (if ((n : Int) / 2 ^ 4 % 2 == 1) then 16 else 0) + (if ((n : Int) / 2 ^ 5 % 2 == 1) then 32 else 0) + (if ((n : Int) / 2 ^ 6 % 2 == 1) then 64 else 0) + (if ((n : Int) / 2 ^ 7 % 2 == 1) then 128 else 0) : Nat) : Int) = n := by decide +kernel
theorem byteOf_unpack {x : Int} (hx : 0 ≤ x ∧ x < 256) (f : Nat → Bool) (hf : ∀ i, i < 8 → f i = (x / 2 ^ i % 2 == 1)) :
    (((if f 0 then 1 else 0) + (if f 1 then 2 else 0) + (if f 2 then 4 else 0) + (if f 3 then 8 else 0) + (if f 4 then 16 else 0) + (if f 5 then 32 else 0) + (if f 6 then 64 else 0) + (if f 7 then 128 else 0) : Nat) : Int) = x := by
  rw [hf 0 (by decide), hf 1 (by decide), hf 2 (by decide), hf 3 (by decide), hf 4 (by decide), hf 5 (by decide), hf 6 (by decide), hf 7 (by decide)]
  obtain ⟨n, rfl⟩ := Int.eq_ofNat_of_zero_le hx.1
  exact bits256 n (by omega)
theorem pack_unpack {b : List Int} {n : Int} {l : List Bool} (hr : ∀ x, x ∈ b → 0 ≤ x ∧ x < 256) (h : unpackB b n = some l) : packB l = b := by
  unfold unpackB at h
  split at h
  · rename_i hc
    split at h
    · rename_i hall
      injection h with h
      subst h
      have hlen : ((List.range n.toNat).map (bitAt b)).length = n.toNat := by simp
      have hm : ((List.range n.toNat).map (bitAt b)).length = n := by rw [hlen]; omega
      unfold packB
      rw [hm, ← hc.2]
      apply List.ext_getElem
      · simp
      intro j h1 h2
      simp only [List.getElem_map, List.getElem_range]
      have hj : j < b.length := h2
      have hget : ∀ i, i < 8 * b.length → ((List.range n.toNat).map (bitAt b)).getD i false = bitAt b i := fun i hi => by
        rw [List.getD_eq_getElem?_getD, List.getElem?_map]
        by_cases hin : i < n.toNat
        · rw [List.getElem?_range hin]; rfl
        · rw [List.getElem?_eq_none (by simpa using hin)]
          rw [List.all_eq_true] at hall
          have := hall i (by simpa using hi)
          simp only [Bool.or_eq_true, decide_eq_true_eq, Bool.not_eq_true'] at this
          rcases this with h3 | h3
          · omega
          · simp [h3]
      have hx : ∀ k, k < 8 → bitAt b (8 * j + k) = (b[j] / 2 ^ k % 2 == 1) := fun k hk => by
        unfold bitAt
        rw [show (8 * j + k) / 8 = j from by omega, show (8 * j + k) % 8 = k from by omega, List.getD_eq_getElem?_getD, List.getElem?_eq_getElem hj]
        rfl
      unfold byteOf
      rw [show (8 * j : Nat) = 8 * j + 0 from rfl]
      simp only [hget _ (show 8 * j + 0 < 8 * b.length by omega), hget _ (show 8 * j + 0 + 1 < 8 * b.length by omega), hget _ (show 8 * j + 0 + 2 < 8 * b.length by omega), hget _ (show 8 * j + 0 + 3 < 8 * b.length by omega), hget _ (show 8 * j + 0 + 4 < 8 * b.length by omega), hget _ (show 8 * j + 0 + 5 < 8 * b.length by omega), hget _ (show 8 * j + 0 + 6 < 8 * b.length by omega), hget _ (show 8 * j + 0 + 7 < 8 * b.length by omega)]
      exact byteOf_unpack (hr _ (List.getElem_mem hj)) (fun k => bitAt b (8 * j + k)) hx
    · cases h
  · cases h
end Go.Proofs.Ytbaeecmamacphaa
namespace Go.Proofs.Ytbaeecmamacphaa
theorem some_pair {α β : Type} {p : α × β} {a : α} {b : β} (h : some p = some (a, b)) : p.1 = a ∧ p.2 = b := by
  injection h with h
  rw [h]
  exact ⟨rfl, rfl⟩
theorem asks_lb {C : Cur} {most c : Int} (hr : Byt C) (he : (asksR most c C).1.endC.e = 0) : putW [C.wordV, (C.wordsC 1).wordV] = C.l := ((eat_span C most).fin hr he).2.symm
theorem ctold_lb {C : Cur} {c : Int} (hr : Byt C) (he : (ctoldR c C).1.endC.e = 0) : [(((toldC2 C).bytesR C.byteV).length : Int) % 256] ++ (toldC2 C).bytesR C.byteV = C.l := by
  have hbv := byteV_rng' hr
  have hE : Eat C ([] ++ [C.byteV] ++ (toldC2 C).bytesR C.byteV) ((toldC2 C).bytesC C.byteV) := (((Eat.refl C).byte).need).bytes _
  obtain ⟨h1, h2⟩ := hE.fin hr he
  obtain ⟨_, _, h3⟩ := by_ok h1
  rw [h2, h3, Int.emod_eq_of_lt hbv.1 hbv.2]
  rfl
theorem csets_lb {C : Cur} {c : Int} (hr : Byt C) (he : (csetsR c C).1.endC.e = 0) : putW [C.wordV, (C.wordsC 1).wordV] = C.l := by
  have hE : Eat C ([] ++ putW [C.wordV] ++ putW [(C.wordsC 1).wordV]) (setsC C) := (((Eat.refl C).word).word).need
  rw [(hE.fin hr he).2]
  rfl
theorem csm_lb {C : Cur} {c : Int} (hr : Byt C) (he : (csmR c C).1.endC.e = 0) : (putW [C.wordV, (C.wordsC 1).wordV] ++ [((packB ((smU C).getD [])).length : Int) % 256]) ++ packB ((smU C).getD []) = C.l := by
  have hE : Eat C (putW [C.wordV, (C.wordsC 1).wordV] ++ [(spanC C 1968).byteV] ++ (smC2 C).bytesR (smK C)) (smC C) := (((((eat_span C 1968).byte).need).bytes _).need)
  obtain ⟨h1, h2⟩ := hE.fin hr he
  obtain ⟨h3, h4⟩ := nd_ok (by decide) h1
  obtain ⟨_, _, h5⟩ := by_ok h3
  obtain ⟨l, hl⟩ := Option.isSome_iff_exists.1 h4
  have hB : ∀ x, x ∈ (smC2 C).bytesR (smK C) → 0 ≤ x ∧ x < 256 := fun x hx => hr x (by rw [h2]; exact List.mem_append_right _ hx)
  have h6 : packB l = (smC2 C).bytesR (smK C) := pack_unpack hB hl
  have hk : 0 ≤ smK C ∧ smK C < 256 := byteV_rng' ((eat_span C 1968) hr).1
  rw [hl]
  show (putW [C.wordV, (C.wordsC 1).wordV] ++ [((packB l).length : Int) % 256]) ++ packB l = C.l
  rw [h6, h2, h5, Int.emod_eq_of_lt hk.1 hk.2]
  rfl
theorem coils_lb {dir c : Int} {C C' : Cur} {M : Msg} (hd : dir = 0 ∨ dir = 1) (hr : Byt C) (h : coilsForm dir c C = some (C', M)) (he : C'.endC.e = 0) : coilsLay dir M = C.l := by
  unfold coilsForm at h
  split at h
  · rename_i hc
    simp only [Bool.or_eq_true, beq_iff_eq] at hc
    rcases hd with rfl | rfl
    · have h : some (asksR 2000 c C) = some (C', M) := h
      obtain ⟨rfl, rfl⟩ := some_pair h
      rcases hc with rfl | rfl <;> exact asks_lb hr he
    · have h : some (ctoldR c C) = some (C', M) := h
      obtain ⟨rfl, rfl⟩ := some_pair h
      rcases hc with rfl | rfl <;> exact ctold_lb hr he
  split at h
  · rename_i hc
    obtain rfl : c = 5 := by simpa using hc
    obtain ⟨rfl, rfl⟩ := some_pair h
    exact csets_lb hr he
  split at h
  · rename_i hc
    obtain rfl : c = 15 := by simpa using hc
    rcases hd with rfl | rfl
    · have h : some (csmR 15 C) = some (C', M) := h
      obtain ⟨rfl, rfl⟩ := some_pair h
      exact csm_lb hr he
    · have h : some (asksR 1968 15 C) = some (C', M) := h
      obtain ⟨rfl, rfl⟩ := some_pair h
      exact asks_lb hr he
  · cases h
theorem eat_rspan {A C : Cur} {l : List Int} (h : Eat A l C) (a most : Int) : Eat A (l ++ putW [C.wordV]) (rspanC C a most) := ((h.word).need).need
theorem even2 {n hi : Int} (h : evenIn n hi = true) : n % 2 = 0 ∧ 2 ≤ n ∧ n ≤ hi := by
  unfold evenIn at h
  simp only [Bool.and_eq_true, decide_eq_true_eq, beq_iff_eq] at h
  exact ⟨h.1.1, h.1.2, h.2⟩
theorem rtold_lb {c : Int} {C : Cur} (hr : Byt C) (he : (rtoldR c C).1.endC.e = 0) : [(2 * (((told3 C).wordsR (C.byteV / 2)).length : Int)) % 256] ++ putW ((told3 C).wordsR (C.byteV / 2)) = C.l := by
  have hbv := byteV_rng' hr
  have hE0 : Eat C ([] ++ [C.byteV]) (told3 C) := ((Eat.refl C).byte).need
  have hE := hE0.words (C.byteV / 2)
  obtain ⟨h1, h2⟩ := hE.fin hr he
  obtain ⟨h3, _, h5⟩ := wo_ok (hE0 hr).1 h1
  obtain ⟨h6, h7, h8⟩ := even2 (nd_ok (by decide) h3).2
  rw [h2, h5, show (2 * (C.byteV / 2)) % 256 = C.byteV from by omega]
  rfl
theorem rasks_lb {most c : Int} {C : Cur} (hr : Byt C) (he : (rasksR most c C).1.endC.e = 0) : putW [C.wordV, (C.wordsC 1).wordV] = C.l := by
  rw [((eat_rspan (Eat.refl C).word C.wordV most).fin hr he).2]
  rfl
theorem rone_lb {c : Int} {C : Cur} (hr : Byt C) (he : (roneR c C).1.endC.e = 0) : putW [C.wordV, (C.wordsC 1).wordV] = C.l := by
  rw [(((Eat.refl C).word).word.fin hr he).2]
  rfl
theorem eat_counted {A C : Cur} {l : List Int} (h : Eat A l C) (n : Int) : Eat A (l ++ [C.byteV]) (countedC1 C n) := (h.byte).need
theorem rmany_lb {c : Int} {C : Cur} (hr : Byt C) (he : (rmanyR c C).1.endC.e = 0) : (putW [C.wordV, (C.wordsC 1).wordV] ++ [(2 * (((rmanyC C).wordsR (C.wordsC 1).wordV).length : Int)) % 256]) ++ putW ((rmanyC C).wordsR (C.wordsC 1).wordV) = C.l := by
  have hE0 : Eat C _ (rspanC (C.wordsC 1) C.wordV 123) := eat_rspan (Eat.refl C).word C.wordV 123
  have hE1 : Eat C _ (rmanyC C) := eat_counted hE0 (C.wordsC 1).wordV
  have hbv := byteV_rng' (hE0 hr).1
  obtain ⟨h1, h2⟩ := (hE1.words (C.wordsC 1).wordV).fin hr he
  obtain ⟨h3, _, h5⟩ := wo_ok (hE1 hr).1 h1
  have h6 := (nd_ok (by decide) h3).2
  simp only [beq_iff_eq] at h6
  rw [h5, ← h6, Int.emod_eq_of_lt hbv.1 hbv.2, h2]
  rfl
theorem rmask_lb {c : Int} {C : Cur} (hr : Byt C) (he : (rmaskR c C).1.endC.e = 0) : putW [C.wordV, (C.wordsC 1).wordV, ((C.wordsC 1).wordsC 1).wordV] = C.l := by
  rw [(((Eat.refl C).word).word.word.fin hr he).2]
  rfl
theorem rboth_lb {c : Int} {C : Cur} (hr : Byt C) (he : (rbothR c C).1.endC.e = 0) : (putW [C.wordV, (C.wordsC 1).wordV, (rspanC (C.wordsC 1) C.wordV 125).wordV, (((rbothC C).wordsR (both1 C).wordV).length : Int) % 65536] ++ [(2 * (((rbothC C).wordsR (both1 C).wordV).length : Int)) % 256]) ++ putW ((rbothC C).wordsR (both1 C).wordV) = C.l := by
  have hE0 : Eat C _ (both1 C) := (eat_rspan (Eat.refl C).word C.wordV 125).word
  have hE1 : Eat C _ (both2 C) := eat_rspan hE0 (rspanC (C.wordsC 1) C.wordV 125).wordV 121
  have hE2 : Eat C _ (rbothC C) := eat_counted hE1 (both1 C).wordV
  have hbv := byteV_rng' (hE1 hr).1
  have hwv : 0 ≤ (both1 C).wordV ∧ (both1 C).wordV < 65536 := wordV_rng (hE0 hr).1
  obtain ⟨h1, h2⟩ := (hE2.words (both1 C).wordV).fin hr he
  obtain ⟨h3, _, h5⟩ := wo_ok (hE2 hr).1 h1
  have h6 := (nd_ok (by decide) h3).2
  simp only [beq_iff_eq] at h6
  rw [h5, Int.emod_eq_of_lt hwv.1 hwv.2, ← h6, Int.emod_eq_of_lt hbv.1 hbv.2, h2]
  rfl
theorem raskq_lb {c : Int} {C : Cur} (hr : Byt C) (he : (raskqR c C).1.endC.e = 0) : putW [C.wordV] = C.l := by
  rw [((Eat.refl C).word.fin hr he).2]
  rfl
theorem rq_lb {c : Int} {C : Cur} (hr : Byt C) (he : (rqR c C).1.endC.e = 0) : putW [(2 + 2 * (((q2C C).wordsR (q1C C).wordV).length : Int)) % 65536, (((q2C C).wordsR (q1C C).wordV).length : Int) % 65536] ++ putW ((q2C C).wordsR (q1C C).wordV) = C.l := by
  have hE0 : Eat C _ (q1C C) := ((Eat.refl C).word).need
  have hE1 : Eat C _ (q2C C) := (hE0.word).need
  have hwc : 0 ≤ C.wordV ∧ C.wordV < 65536 := wordV_rng hr
  have hwv : 0 ≤ (q1C C).wordV ∧ (q1C C).wordV < 65536 := wordV_rng (hE0 hr).1
  obtain ⟨h1, h2⟩ := (hE1.words (q1C C).wordV).fin hr he
  obtain ⟨h3, _, h5⟩ := wo_ok (hE1 hr).1 h1
  have h6 := (nd_ok (by decide) h3).2
  simp only [beq_iff_eq] at h6
  rw [h5, h6, Int.emod_eq_of_lt hwv.1 hwv.2, Int.emod_eq_of_lt hwc.1 hwc.2, h2]
  rfl
theorem regs_lb {dir c : Int} {C C' : Cur} {M : Msg} (hd : dir = 0 ∨ dir = 1) (hr : Byt C) (h : regsForm dir c C = some (C', M)) (he : C'.endC.e = 0) : regsLay dir M = C.l := by
  unfold regsForm at h
  split at h
  · rename_i hc
    simp only [Bool.or_eq_true, beq_iff_eq] at hc
    rcases hd with rfl | rfl
    · have h : some (rasksR 125 c C) = some (C', M) := h
      obtain ⟨rfl, rfl⟩ := some_pair h
      rcases hc with rfl | rfl <;> exact rasks_lb hr he
    · have h : some (rtoldR c C) = some (C', M) := h
      obtain ⟨rfl, rfl⟩ := some_pair h
      rcases hc with rfl | rfl <;> exact rtold_lb hr he
  split at h
  · rename_i hc
    obtain rfl : c = 6 := by simpa using hc
    obtain ⟨rfl, rfl⟩ := some_pair h
    rcases hd with rfl | rfl <;> exact rone_lb hr he
  split at h
  · rename_i hc
    obtain rfl : c = 16 := by simpa using hc
    rcases hd with rfl | rfl
    · have h : some (rmanyR 16 C) = some (C', M) := h
      obtain ⟨rfl, rfl⟩ := some_pair h
      exact rmany_lb hr he
    · have h : some (rasksR 123 16 C) = some (C', M) := h
      obtain ⟨rfl, rfl⟩ := some_pair h
      exact rasks_lb hr he
  split at h
  · rename_i hc
    obtain rfl : c = 22 := by simpa using hc
    obtain ⟨rfl, rfl⟩ := some_pair h
    rcases hd with rfl | rfl <;> exact rmask_lb hr he
  split at h
  · rename_i hc
    obtain rfl : c = 23 := by simpa using hc
    rcases hd with rfl | rfl
    · have h : some (rbothR 23 C) = some (C', M) := h
      obtain ⟨rfl, rfl⟩ := some_pair h
      exact rboth_lb hr he
    · have h : some (rtoldR 23 C) = some (C', M) := h
      obtain ⟨rfl, rfl⟩ := some_pair h
      exact rtold_lb hr he
  split at h
  · rename_i hc
    obtain rfl : c = 24 := by simpa using hc
    rcases hd with rfl | rfl
    · have h : some (raskqR 24 C) = some (C', M) := h
      obtain ⟨rfl, rfl⟩ := some_pair h
      exact raskq_lb hr he
    · have h : some (rqR 24 C) = some (C', M) := h
      obtain ⟨rfl, rfl⟩ := some_pair h
      exact rq_lb hr he
  · cases h
end Go.Proofs.Ytbaeecmamacphaa
namespace Go.Proofs.Ytbaeecmamacphaa
theorem Eat.conv {A C : Cur} {l l' : List Int} (h : Eat A l C) (k : Byt A → Byt C → C.e = 0 → l = l') : Eat A l' C := fun hr => by
  obtain ⟨h1, h2⟩ := h hr
  refine ⟨h1, fun he => ?_⟩
  rw [← k hr h1 he]
  exact h2 he
theorem line_lb {dir c : Int} {C : Cur} (hr : Byt C) (he : (lineR dir c C).1.endC.e = 0) : putW [(lineR dir c C).2.sub] ++ putW (lineR dir c C).2.words = C.l := by
  have hE0 : Eat C ([] ++ putW [C.wordV]) (line1 dir C) := ((Eat.refl C).word).need
  unfold lineR at he ⊢
  split at he
  · rename_i hw
    rw [if_pos hw]
    exact (((hE0.words 1).need).fin hr he).2.symm
  · rename_i hw
    rw [if_neg hw]
    exact (((hE0.need).words _).fin hr he).2.symm
theorem eat_ansL (C : Cur) (lo hi : Int) : Eat C ([] ++ [C.byteV]) (ansL C lo hi) := ((Eat.refl C).byte).need
theorem eat_busy {A C : Cur} {l : List Int} (h : Eat A l C) : Eat A (l ++ putW [C.wordV]) (busyC C) := (h.word).need
theorem ans_lb {c : Int} {C : Cur} (hc : c = 7 ∨ c = 11 ∨ c = 12 ∨ c = 17) (hr : Byt C) (he : (answerR c C).1.endC.e = 0) : diagLay 1 (answerR c C).2 = C.l := by
  have hbv := byteV_rng' hr
  rcases hc with rfl | rfl | rfl | rfl
  · have he : (C.bytesC 1).endC.e = 0 := he
    show [C.byteV % 256] = C.l
    rw [Int.emod_eq_of_lt hbv.1 hbv.2, ((Eat.refl C).byte.fin hr he).2]
    rfl
  · have he : ((busyC C).wordsC 1).endC.e = 0 := he
    show putW [C.wordV, (busyC C).wordV] = C.l
    rw [((eat_busy (Eat.refl C)).word.fin hr he).2]
    rfl
  · have he : ((ans12 C).bytesC (C.byteV - 6)).endC.e = 0 := he
    have hE := (((eat_busy (eat_ansL C 6 70)).word).word).bytes (C.byteV - 6)
    obtain ⟨h1, h2⟩ := hE.fin hr he
    obtain ⟨_, _, h3⟩ := by_ok h1
    show ([(6 + (((ans12 C).bytesR (C.byteV - 6)).length : Int)) % 256] ++ putW [(ansL C 6 70).wordV, (busyC (ansL C 6 70)).wordV, ((busyC (ansL C 6 70)).wordsC 1).wordV]) ++ (ans12 C).bytesR (C.byteV - 6) = C.l
    have h4 : (((ans12 C).bytesR (C.byteV - 6)).length : Int) = C.byteV - 6 := h3
    rw [h4, show (6 + (C.byteV - 6)) % 256 = C.byteV from by omega, h2]
    rfl
  · have he : ((ansL C 1 251).bytesC C.byteV).endC.e = 0 := he
    have hE := (eat_ansL C 1 251).bytes C.byteV
    obtain ⟨h1, h2⟩ := hE.fin hr he
    obtain ⟨_, _, h3⟩ := by_ok h1
    show [(((ansL C 1 251).bytesR C.byteV).length : Int) % 256] ++ (ansL C 1 251).bytesR C.byteV = C.l
    rw [h3, Int.emod_eq_of_lt hbv.1 hbv.2, h2]
    rfl
theorem ask_lb {c : Int} {C : Cur} (hc : c = 7 ∨ c = 11 ∨ c = 12 ∨ c = 17) (hr : Byt C) (he : C.endC.e = 0) : diagLay 0 { Msg.zero with code := c } = C.l := by
  have h := ((Eat.refl C).fin hr he).2
  rcases hc with rfl | rfl | rfl | rfl <;> exact h.symm
theorem diag_lb {dir c : Int} {C C' : Cur} {M : Msg} (hd : dir = 0 ∨ dir = 1) (hr : Byt C) (h : diagForm dir c C = some (C', M)) (he : C'.endC.e = 0) : diagLay dir M = C.l := by
  unfold diagForm at h
  split at h
  · rename_i hc
    obtain rfl : c = 8 := by simpa using hc
    obtain ⟨rfl, rfl⟩ := some_pair h
    have hco : (lineR dir 8 C).2.code = 8 := by unfold lineR; split <;> rfl
    unfold diagLay
    rw [hco, if_pos (by rfl)]
    exact line_lb hr he
  split at h
  · rename_i hc
    simp only [Bool.or_eq_true, beq_iff_eq] at hc
    have hc : c = 7 ∨ c = 11 ∨ c = 12 ∨ c = 17 := by omega
    rcases hd with rfl | rfl
    · have h : some (C, ({ Msg.zero with code := c } : Msg)) = some (C', M) := h
      obtain ⟨rfl, rfl⟩ := some_pair h
      exact ask_lb hc hr he
    · have h : some (answerR c C) = some (C', M) := h
      obtain ⟨rfl, rfl⟩ := some_pair h
      exact ans_lb hc hr he
  · cases h
theorem objs_eat : ∀ (n : Nat) (C : Cur) (L : List Obj), ∃ L', (objsR n C L).2 = L ++ L' ∧ L'.length = n ∧ Eat C (objB L') (objsR n C L).1
  | 0, C, L => ⟨[], by simp [objsR], rfl, Eat.refl C⟩
  | n + 1, C, L => by
    obtain ⟨L', h1, h2, h3⟩ := objs_eat n (((C.bytesC 1).bytesC 1).bytesC (C.bytesC 1).byteV) (L ++ [⟨C.byteV, ((C.bytesC 1).bytesC 1).bytesR (C.bytesC 1).byteV⟩])
    refine ⟨⟨C.byteV, ((C.bytesC 1).bytesC 1).bytesR (C.bytesC 1).byteV⟩ :: L', ?_, by simp [h2], ?_⟩
    · show (objsR n _ _).2 = _
      rw [h1]
      simp
    · have hE0 : Eat C _ ((C.bytesC 1).bytesC 1) := (Eat.refl C).byte.byte
      have hE1 : Eat C (([C.byteV, ((((C.bytesC 1).bytesC 1).bytesR (C.bytesC 1).byteV).length : Int) % 256]) ++ ((C.bytesC 1).bytesC 1).bytesR (C.bytesC 1).byteV) (((C.bytesC 1).bytesC 1).bytesC (C.bytesC 1).byteV) := (hE0.bytes _).conv fun hr _ he => by
        have hb := byteV_rng' ((Eat.refl C).byte hr).1
        rw [(by_ok he).2.2, Int.emod_eq_of_lt hb.1 hb.2]
        rfl
      exact hE1.trans h3
theorem mei_objs {c : Int} {C : Cur} (hr : Byt C) (he : (meiObjs (meiA C).byteV (meiD C)).1.endC.e = 0) : [C.byteV, (meiA C).byteV, (meiD C).byteV, (mei1 (meiD C)).byteV, (mei2 (meiD C)).byteV, ((meiObjs (meiA C).byteV (meiD C)).2.length : Int) % 256] ++ objB (meiObjs (meiA C).byteV (meiD C)).2 = C.l := by
  have hE0 : Eat C _ (meiA C) := (Eat.refl C).byte.need
  have hE1 : Eat C _ (meiD C) := hE0.byte.need
  have hE2 : Eat C _ (mei1 (meiD C)) := hE1.byte.need
  have hE3 : Eat C _ (mei2 (meiD C)) := hE2.byte.need
  have hE4 : Eat C _ (mei3 (meiD C)) := hE3.byte.need
  have hE5 : Eat C _ (mei4 (meiA C).byteV (meiD C)) := hE4.byte.need
  obtain ⟨L', h1, h2, h3⟩ := objs_eat (mei3 (meiD C)).byteV.toNat (mei4 (meiA C).byteV (meiD C)) []
  have hb := byteV_rng' (hE4 hr).1
  have h4 : (meiObjs (meiA C).byteV (meiD C)).2 = L' := by unfold meiObjs; rw [h1]; rfl
  obtain ⟨_, h5⟩ := (hE5.trans h3).fin hr he
  rw [h4, h2, show (((mei3 (meiD C)).byteV.toNat : Nat) : Int) % 256 = (mei3 (meiD C)).byteV from by omega, h5]
  rfl
theorem mei_lb {dir c : Int} {C C' : Cur} {M : Msg} (hd : dir = 0 ∨ dir = 1) (hr : Byt C) (h : meiForm dir c C = some (C', M)) (he : C'.endC.e = 0) : meiLay dir M = C.l := by
  have hE0 : Eat C _ (meiA C) := (Eat.refl C).byte.need
  unfold meiForm at h
  split at h
  · cases h
  split at h
  · rename_i hm
    obtain ⟨rfl, rfl⟩ := some_pair h
    have hE1 := (hE0.need (ok := decide (((meiA C).l.length : Int) ≤ 251)) (x := 5)).bytes ((meiB C).l.length : Int)
    obtain ⟨_, h5⟩ := hE1.fin hr he
    unfold meiLay
    rw [if_pos (show (C.byteV == 13) = true from hm), h5]
    rfl
  rename_i hm
  split at h
  · rename_i hc
    obtain rfl : dir = 1 := by simpa using hc
    obtain ⟨rfl, rfl⟩ := some_pair h
    unfold meiLay
    rw [if_neg (show ¬ (C.byteV == 13) = true from hm), if_neg (by decide)]
    exact mei_objs (c := c) hr he
  · rename_i hc
    obtain rfl : dir = 0 := by
      rcases hd with rfl | rfl
      · rfl
      · exact absurd rfl hc
    obtain ⟨rfl, rfl⟩ := some_pair h
    have hE1 : Eat C _ (meiD C) := hE0.byte.need
    obtain ⟨_, h5⟩ := hE1.byte.fin hr he
    unfold meiLay
    rw [if_neg (show ¬ (C.byteV == 13) = true from hm), if_pos (by rfl), h5]
    rfl
theorem recs_eat {one : Int → Cur → Int × Cur × Rec} {dir code : Int} (hl : ∀ s C, 0 < C.l.length → (one s C).2.1.l.length < C.l.length) (hE : ∀ s C, Eat C (recB dir code (one s C).2.2) (one s C).2.1) :
    ∀ (n : Nat) (s : Int) (C : Cur) (L : List Rec), C.l.length ≤ n → Byt C → (recsR one n s C L).1.e = 0 → ∃ L', (recsR one n s C L).2 = L ++ L' ∧ C.l = filesB dir code L'
  | 0, s, C, L, h, _, _ => ⟨[], by simp [recsR], by simpa [filesB] using h⟩
  | n + 1, s, C, L, h, hr, he => by
    unfold recsR at he ⊢
    split at he
    · rename_i hc
      rw [if_pos hc]
      simp only [Bool.and_eq_true, decide_eq_true_eq, beq_iff_eq] at hc
      have h1 := hl s C (by omega)
      obtain ⟨h2, h3⟩ := hE s C hr
      split at he
      · rename_i hn
        rw [he] at hn
        cases hn
      · rename_i hn
        rw [if_neg hn]
        have h4 : (one s C).2.1.e = 0 := by simpa using hn
        obtain ⟨L', h5, h6⟩ := recs_eat hl hE n (one s C).1 (one s C).2.1 (L ++ [(one s C).2.2]) (by omega) h2 he
        refine ⟨(one s C).2.2 :: L', by rw [h5]; simp, ?_⟩
        rw [(h3 h4).2, h6]
        rfl
    · rename_i hc
      rw [if_neg hc]
      have he : C.e = 0 := he
      refine ⟨[], by simp, ?_⟩
      have : C.l = [] := by
        apply List.eq_nil_of_length_eq_zero
        simp only [he, Bool.and_eq_true, decide_eq_true_eq, beq_self_eq_true, and_true] at hc
        omega
      rw [this]
      rfl
theorem eat_hd1 (C : Cur) : Eat C [6] (hd1 C) := ((Eat.refl C).byte.need).conv fun hr _ he => by
  have h := (nd_ok (by decide) he).2
  simp only [beq_iff_eq] at h
  rw [h]
  rfl
theorem eat_head (C : Cur) : Eat C ([6] ++ putW [(headM C).file, (headM C).record, (headM C).count]) (headC C) := by
  have hE1 : Eat C _ (hd2 C) := (eat_hd1 C).word.need
  have hE2 : Eat C _ (hd3 C) := hE1.word.need
  have hE3 : Eat C _ (headC C) := hE2.word.need
  exact hE3
theorem eat_ask (s : Int) (C : Cur) : Eat C (recB 0 20 (askO s C).2.2) (askO s C).2.1 := by
  have h : Eat C _ (askedC s C) := (eat_head C).need
  exact h.conv fun _ _ _ => rfl
theorem eat_wrt (dir s : Int) (C : Cur) : Eat C (recB dir 21 (wrtO s C).2.2) (wrtO s C).2.1 := by
  have h : Eat C _ (wrt1 C) := (eat_head C).need
  exact (h.words (hd3 C).wordV).conv fun _ _ _ => rfl
theorem eat_tld (s : Int) (C : Cur) : Eat C (recB 1 20 (toldO s C).2.2) (toldO s C).2.1 := by
  have hE1 : Eat C _ (told1 C) := (Eat.refl C).byte.need
  have hE2 : Eat C _ (told2 C) := hE1.byte.need
  refine (hE2.words (Int.tdiv (C.byteV - 1) 2)).conv fun hr _ he => ?_
  obtain ⟨h1, _, h2⟩ := wo_ok (hE2 hr).1 he
  obtain ⟨h3, h4⟩ := nd_ok (by decide) h1
  obtain ⟨h5, h6⟩ := nd_ok (by decide) (by_ok h3).1
  have hb := byteV_rng' hr
  simp only [Bool.and_eq_true, decide_eq_true_eq, beq_iff_eq] at h4 h6
  have h7 : (1 + 2 * (((told2 C).wordsR (Int.tdiv (C.byteV - 1) 2)).length : Int)) % 256 = C.byteV := by
    rw [h2, Int.tdiv_eq_ediv_of_nonneg (by omega)]
    omega
  show _ = [(1 + 2 * (((told2 C).wordsR (Int.tdiv (C.byteV - 1) 2)).length : Int)) % 256, 6] ++ putW ((told2 C).wordsR (Int.tdiv (C.byteV - 1) 2))
  rw [h7, h4]
  rfl
theorem filesR_lb {one : Int → Cur → Int × Cur × Rec} {dir code : Int} (hl : ∀ s C, 0 < C.l.length → (one s C).2.1.l.length < C.l.length) (hE : ∀ s C, Eat C (recB dir code (one s C).2.2) (one s C).2.1) {may : Int → Bool} {c : Int} {C : Cur} (hr : Byt C)
    (he : (filesR one may c C).1.endC.e = 0) : [((filesB dir code (flR one may C).2).length : Int) % 256] ++ filesB dir code (flR one may C).2 = C.l := by
  have hE0 : Eat C _ (fl1 may C) := (Eat.refl C).byte.need
  have hE1 := hE0.bytes C.byteV
  have hb := byteV_rng' hr
  unfold Cur.endC at he
  obtain ⟨h0, h00⟩ := nd_ok (by decide) he
  unfold filesR at h0 h00
  have hw : withinE (flR one may C).1.e ≠ 0 ∨ (flR one may C).1.e = 0 := by
    by_cases hz : (flR one may C).1.e = 0
    · exact Or.inr hz
    · left
      unfold withinE
      split
      · decide
      · exact hz
  have h1 : ((fl1 may C).bytesC C.byteV).e = 0 ∧ (flR one may C).1.e = 0 := by
    rcases hw with hw | hw
    · obtain ⟨h2, h3⟩ := nd_ok hw h0
      exact ⟨h2, by simpa using h3⟩
    · rw [hw] at h0
      refine ⟨?_, hw⟩
      unfold Cur.need at h0
      rw [if_neg (by rintro ⟨_, hx⟩; cases hx)] at h0
      exact h0
  obtain ⟨h2, h3, h4⟩ := by_ok h1.1
  have h5 : ((fl1 may C).bytesC C.byteV).l = [] := by
    rw [need_l] at h00
    simp only [beq_iff_eq] at h00
    exact List.eq_nil_of_length_eq_zero (by omega)
  have h6 : C.l = [C.byteV] ++ (fl1 may C).bytesR C.byteV := by
    rw [((hE1 hr).2 h1.1).2, h5]
    simp
  have hB : Byt (flB may C) := fun x hx => hr x (by rw [h6]; exact List.mem_append_right _ hx)
  obtain ⟨L', h7, h8⟩ := recs_eat hl hE (flB may C).l.length 0 (flB may C) [] (Nat.le_refl _) hB h1.2
  have h9 : (flR one may C).2 = L' := by unfold flR; rw [h7]; rfl
  have h10 : filesB dir code L' = (fl1 may C).bytesR C.byteV := h8.symm
  rw [h9, h10, h4, Int.emod_eq_of_lt hb.1 hb.2, h6]
theorem filesLay_eq (dir : Int) (M : Msg) : filesLay dir M = [((filesB dir M.code M.recs).length : Int) % 256] ++ filesB dir M.code M.recs := by
  unfold filesLay
  simp
theorem files_lb {dir c : Int} {C C' : Cur} {M : Msg} (hd : dir = 0 ∨ dir = 1) (hr : Byt C) (h : filesForm dir c C = some (C', M)) (he : C'.endC.e = 0) : filesLay dir M = C.l := by
  rw [filesLay_eq]
  unfold filesForm at h
  split at h
  · rename_i hc
    obtain rfl : c = 20 := by simpa using hc
    rcases hd with rfl | rfl
    · have h : some (filesR askO mayA 20 C) = some (C', M) := h
      obtain ⟨rfl, rfl⟩ := some_pair h
      exact filesR_lb askO_lt eat_ask hr he
    · have h : some (filesR toldO mayT 20 C) = some (C', M) := h
      obtain ⟨rfl, rfl⟩ := some_pair h
      exact filesR_lb toldO_lt eat_tld hr he
  split at h
  · rename_i hc
    obtain rfl : c = 21 := by simpa using hc
    obtain ⟨rfl, rfl⟩ := some_pair h
    exact filesR_lb wrtO_lt (eat_wrt dir) hr he
  · cases h
theorem parseOf_lb {form : Int → Int → Cur → Option (Cur × Msg)} {lay : Int → Msg → List Int} (hf : ∀ {dir c : Int} {C C' : Cur} {M : Msg}, (dir = 0 ∨ dir = 1) → Byt C → form dir c C = some (C', M) → C'.endC.e = 0 → lay dir M = C.l)
    {dir c : Int} {b : List Int} {M : Msg} (hd : dir = 0 ∨ dir = 1) (hr : ∀ x, x ∈ b → 0 ≤ x ∧ x < 256) (h : parseOf form dir c b = (M, 0)) : lay dir M = b := by
  unfold parseOf at h
  rw [if_pos hd] at h
  split at h
  · cases h
  · rename_i r hr'
    unfold finish at h
    split at h
    · rename_i he
      injection h with h
      obtain ⟨C', M'⟩ := r
      have h : M' = M := h
      subst h
      exact hf (C := ⟨b, false, 0⟩) hd hr hr' he
    · rename_i he
      injection h with _ h
      exact absurd h he
theorem writeOf_ok {parse : Int → Int → List Int → Msg × Int} {lay : Int → Msg → List Int} {dir : Int} {M : Msg} {l : List Int} (h1 : lay dir M = l) (h2 : parse dir M.code l = (M, 0)) : writeOf parse lay dir M = some l := by
  unfold writeOf
  rw [h1, if_pos h2]
theorem famW_ok {k : Nat} {dir : Int} {b : List Int} {M : Msg} (hd : dir = 0 ∨ dir = 1) (hr : ∀ x, x ∈ b → 0 ≤ x ∧ x < 256) (h : famP k dir b = (M, 0)) (hc : M.code = b.getD 0 0) : famW k dir M = some (b.drop 1) := by
  have hr' : ∀ x, x ∈ b.drop 1 → 0 ≤ x ∧ x < 256 := fun x hx => hr x (List.mem_of_mem_drop hx)
  unfold famP at h
  split at h
  · exact writeOf_ok (parseOf_lb coils_lb hd hr' h) (by rw [hc]; exact h)
  · exact writeOf_ok (parseOf_lb regs_lb hd hr' h) (by rw [hc]; exact h)
  · exact writeOf_ok (parseOf_lb diag_lb hd hr' h) (by rw [hc]; exact h)
  · exact writeOf_ok (parseOf_lb files_lb hd hr' h) (by rw [hc]; exact h)
  · exact writeOf_ok (parseOf_lb mei_lb hd hr' h) (by rw [hc]; exact h)
  · cases h
theorem fail_rng {x : Int} (h : failureB x = true) : (x != 0) = true := by
  unfold failureB at h
  simp only [decide_eq_true_eq, List.mem_cons, List.not_mem_nil, or_false] at h
  simp only [bne_iff_ne]
  omega
theorem pub_small {x : Int} (h : publicB x = true) : 0 < x ∧ x < 128 := by
  unfold publicB at h
  simp only [decide_eq_true_eq, List.mem_cons, List.not_mem_nil, or_false] at h
  omega
theorem pdu_back {dir : Int} {b : List Int} {M : Msg} (hd : dir = 0 ∨ dir = 1) (hr : ∀ x, x ∈ b → 0 ≤ x ∧ x < 256) (h : pduP dir b = (M, 0)) : pduW dir M = some b := by
  unfold pduP at h
  split at h
  · cases h
  split at h
  · cases h
  split at h
  · cases h
  rename_i h1 h2 h3
  simp only [beq_iff_eq] at h2
  simp only [decide_eq_true_eq] at h3
  obtain ⟨x, t, rfl⟩ : ∃ x t, b = x :: t := by
    cases b with
    | nil => exact absurd rfl h2
    | cons x t => exact ⟨x, t, rfl⟩
  have hx := hr x (by simp)
  split at h
  · rename_i hq
    simp only [Bool.and_eq_true, decide_eq_true_eq, beq_iff_eq] at hq
    obtain ⟨rfl, k1, k2, k3, k4⟩ := refP_ok h
    have k5 := pub_small k2
    unfold pduW
    rw [if_pos (show ((refM _ ((x :: t).getD 1 0)).fail != 0) = true from fail_rng k3)]
    rw [if_neg (by rw [hq.2]; decide)]
    unfold refW
    have k6 : pairB (refM (((x :: t).getD 0 0 - 128) % 256) ((x :: t).getD 1 0)).code (refM (((x :: t).getD 0 0 - 128) % 256) ((x :: t).getD 1 0)).fail = true := by
      show pairB (((x :: t).getD 0 0 - 128) % 256) ((x :: t).getD 1 0) = true
      unfold pairB
      rw [k2, k3]
      have : (((x :: t).getD 0 0 - 128) % 256 != 0) = true := by simp only [bne_iff_ne]; omega
      rw [this]
      rfl
    rw [k6]
    have k7 : decide (refM (((x :: t).getD 0 0 - 128) % 256) ((x :: t).getD 1 0) = refM (refM (((x :: t).getD 0 0 - 128) % 256) ((x :: t).getD 1 0)).code (refM (((x :: t).getD 0 0 - 128) % 256) ((x :: t).getD 1 0)).fail) = true := decide_eq_true rfl
    rw [k7]
    show some [(((x - 128) % 256) + 128) % 256, (x :: t).getD 1 0] = some (x :: t)
    match t, k4 with
    | [y], _ =>
      rw [show (((x - 128) % 256) + 128) % 256 = x from by omega]
      rfl
  · obtain ⟨_, k1⟩ := famP_good hd h
    obtain ⟨k2, k3⟩ := k1 rfl
    have k4 := famW_ok hd hr h k2
    unfold pduW
    rw [if_neg (by rw [k3]; decide), k2, k4]
    show (if decide (253 ≤ (t.length : Int)) = true then none else some ([x] ++ t)) = some (x :: t)
    rw [if_neg (by simp only [decide_eq_true_eq]; simp only [List.length_cons] at h3; omega)]
    rfl
end Go.Proofs.Ytbaeecmamacphaa
namespace Go.Proofs.Ytbaeecmamacphaa
open Go.RowKit
def echoM (M : Msg) : Msg := { Msg.zero with code := M.code, addr := M.addr, count := M.count }
theorem echo_rd {m : Bool} {w : World} {cs : Array Value} {M : Msg} (h : MsgRd m w cs.toList M) (W : World) : MsgRd true W (mG M.code 0 M.addr M.count 0 0 0 0 0 0 0 0 nS nS nS nS 0 0 0 0 0 nS).toList (echoM M) := by
  obtain ⟨vw, vb, vd, vr, vo, h0, hw, hbt, hd, hr, ho, hR⟩ := h
  exact ⟨nilS, nilS, nilS, nilS, nilS, rfl, RdG.nil .., RdG.nil .., RdG.nil .., RdG.nil .., RdG.nil .., { MsgRng.zero with code := hR.code, addr := hR.addr, count := hR.count }⟩
theorem echo_few (M : Msg) : MsgFew (echoM M) := ⟨Nat.zero_le _, Nat.zero_le _, Nat.zero_le _, Nat.zero_le _, (fun r h => nomatch h), Nat.zero_le _, (fun r h => nomatch h)⟩
theorem rng_ac {m : Bool} {w : World} {cs : Array Value} {M : Msg} (h : MsgRd m w cs.toList M) : (0 ≤ M.addr ∧ M.addr < 65536) ∧ (0 ≤ M.count ∧ M.count < 65536) := by
  obtain ⟨vw, vb, vd, vr, vo, h0, hw, hbt, hd, hr, ho, hR⟩ := h
  exact ⟨hR.addr, hR.count⟩
theorem fail0 {M : Msg} {l : List Int} (h : pduW 0 M = some l) : M.fail = 0 := by
  unfold pduW at h
  split at h
  · rename_i hf
    rw [if_pos (by decide)] at h
    cases h
  · rename_i hf
    simpa using hf
theorem pduW_fam {M : Msg} (hf : M.fail = 0) (h : famW (cfam M.code) 0 M = famW (cfam M.code) 1 M) : pduW 0 M = pduW 1 M := by
  unfold pduW
  rw [hf, if_neg (by decide), if_neg (by decide), h]
theorem writeOf_eq {form : Int → Int → Cur → Option (Cur × Msg)} {lay : Int → Msg → List Int} {M : Msg} (h1 : ∀ C, form 0 M.code C = form 1 M.code C) (h2 : lay 0 M = lay 1 M) : writeOf (parseOf form) lay 0 M = writeOf (parseOf form) lay 1 M := by
  have h3 : ∀ b, parseOf form 0 M.code b = parseOf form 1 M.code b := fun b => by
    unfold parseOf
    rw [if_pos (Or.inl rfl), if_pos (Or.inr rfl), h1]
  unfold writeOf
  rw [h2, h3]
theorem filesB_21 : ∀ L, filesB 0 21 L = filesB 1 21 L
  | [] => rfl
  | r :: L => by
    show recB 0 21 r ++ filesB 0 21 L = recB 1 21 r ++ filesB 1 21 L
    rw [filesB_21 L]
    rfl
theorem echo_same {M : Msg} {l : List Int} (hc : M.code = 5 ∨ M.code = 6 ∨ M.code = 21 ∨ M.code = 22) (h : pduW 0 M = some l) : pduW 1 M = some l := by
  rw [← h]
  refine (pduW_fam (fail0 h) ?_).symm
  rcases hc with hc | hc | hc | hc
  · rw [hc]
    refine writeOf_eq (fun C => ?_) ?_
    · rw [hc]; rfl
    · unfold coilsLay; rw [hc]; rfl
  · rw [hc]
    refine writeOf_eq (fun C => ?_) ?_
    · rw [hc]; rfl
    · unfold regsLay; rw [hc]; rfl
  · rw [hc]
    refine writeOf_eq (fun C => ?_) ?_
    · rw [hc]; rfl
    · rw [filesLay_eq, filesLay_eq, hc, filesB_21]
  · rw [hc]
    refine writeOf_eq (fun C => ?_) ?_
    · rw [hc]; rfl
    · unfold regsLay; rw [hc]; rfl
theorem wd1 {a : Int} {r : List Int} (ha : 0 ≤ a ∧ a < 65536) : (Cur.mk (putW [a] ++ r) false 0).wordV = a ∧ (Cur.mk (putW [a] ++ r) false 0).wordsC 1 = ⟨r, false, 0⟩ := by
  have hb : (Cur.mk (putW [a] ++ r) false 0).wbad 1 = false := by
    unfold Cur.wbad
    simp only [putW, List.length_append, List.length_cons, List.length_nil, Bool.or_eq_false_iff, decide_eq_false_iff_not]
    omega
  have hf : (Cur.mk (putW [a] ++ r) false 0).fails (2 * 1) = false := by
    unfold Cur.fails
    simp [putW]
    omega
  constructor
  · unfold Cur.wordV Cur.wordsR Cur.bytesR
    rw [hb, hf]
    show (wordTake [a / 256, a % 256]).getD 0 0 = a
    unfold wordTake
    rw [if_pos (by simp)]
    show a / 256 * 256 + a % 256 = a
    omega
  · unfold Cur.wordsC Cur.bytesC
    rw [hb, hf]
    rfl
theorem need_t (C : Cur) (x : Int) : C.need true x = C := by
  unfold Cur.need
  rw [if_neg (by rintro ⟨_, h⟩; cases h)]
theorem wd2 {a n : Int} (ha : 0 ≤ a ∧ a < 65536) (hn : 0 ≤ n ∧ n < 65536) : (Cur.mk (putW [a, n]) false 0).wordV = a ∧ (Cur.mk (putW [a, n]) false 0).wordsC 1 = ⟨putW [n], false, 0⟩ ∧ (Cur.mk (putW [n]) false 0).wordV = n ∧ (Cur.mk (putW [n]) false 0).wordsC 1 = ⟨[], false, 0⟩ := by
  have h1 := wd1 (r := putW [n]) ha
  have h2 := wd1 (r := []) hn
  rw [List.append_nil] at h2
  exact ⟨h1.1, h1.2, h2.1, h2.2⟩
theorem asks_ok {a n most c : Int} (ha : 0 ≤ a ∧ a < 65536) (hn : 0 ≤ n ∧ n < 65536) (h1 : 1 ≤ n ∧ n ≤ most) (h2 : within a n = true) : asksR most c ⟨putW [a, n], false, 0⟩ = (⟨[], false, 0⟩, { Msg.zero with code := c, addr := a, count := n }) := by
  obtain ⟨e1, e2, e3, e4⟩ := wd2 ha hn
  unfold asksR spanC spanC1
  rw [e2, e1, e3, e4, h2, decide_eq_true h1.1, decide_eq_true h1.2]
  rw [show (true && true) = true from rfl, need_t, need_t]
theorem rasks_ok {a n most c : Int} (ha : 0 ≤ a ∧ a < 65536) (hn : 0 ≤ n ∧ n < 65536) (h1 : 1 ≤ n ∧ n ≤ most) (h2 : within a n = true) : rasksR most c ⟨putW [a, n], false, 0⟩ = (⟨[], false, 0⟩, { Msg.zero with code := c, addr := a, count := n }) := by
  obtain ⟨e1, e2, e3, e4⟩ := wd2 ha hn
  unfold rasksR rspanC
  rw [e2, e1, e3, e4, h2, decide_eq_true h1.1, decide_eq_true h1.2]
  rw [show (true && true) = true from rfl, need_t, need_t]
theorem span_e {C : Cur} {most : Int} (h : (spanC C most).e = 0) : (1 ≤ (C.wordsC 1).wordV ∧ (C.wordsC 1).wordV ≤ most) ∧ within C.wordV (C.wordsC 1).wordV = true := by
  obtain ⟨h1, h2⟩ := nd_ok (by decide) h
  obtain ⟨_, h3⟩ := nd_ok (by decide) h1
  simp only [Bool.and_eq_true, decide_eq_true_eq] at h3
  exact ⟨h3, h2⟩
theorem rspan_e {C : Cur} {a most : Int} (h : (rspanC C a most).e = 0) : (1 ≤ C.wordV ∧ C.wordV ≤ most) ∧ within a C.wordV = true := by
  obtain ⟨h1, h2⟩ := nd_ok (by decide) h
  obtain ⟨_, h3⟩ := nd_ok (by decide) h1
  simp only [Bool.and_eq_true, decide_eq_true_eq] at h3
  exact ⟨h3, h2⟩
theorem parse_fin {form : Int → Int → Cur → Option (Cur × Msg)} {dir c : Int} {b : List Int} {M : Msg} (hd : dir = 0 ∨ dir = 1) (h : parseOf form dir c b = (M, 0)) : ∃ C', form dir c ⟨b, false, 0⟩ = some (C', M) ∧ C'.endC.e = 0 := by
  unfold parseOf at h
  rw [if_pos hd] at h
  split at h
  · cases h
  · rename_i r hr
    unfold finish at h
    split at h
    · rename_i he
      injection h with h
      obtain ⟨C', M'⟩ := r
      have h : M' = M := h
      subst h
      exact ⟨C', hr, he⟩
    · rename_i he
      injection h with _ h
      exact absurd h he
theorem end0 {C : Cur} (h : C.endC.e = 0) : C.e = 0 := (nd_ok (by decide) h).1
theorem wo_e {C : Cur} {n : Int} (h : (C.wordsC n).e = 0) : C.e = 0 := by
  unfold Cur.wordsC at h
  split at h
  · exact (by_ok h).1
  · exact (by_ok h).1
theorem many_ok {M : Msg} {l : List Int} (hc : M.code = 15 ∨ M.code = 16) (h : pduW 0 M = some l) : (∃ r, l = [M.code] ++ (putW [M.addr, M.count] ++ r) ∧ 1 ≤ r.length) ∧ (1 ≤ M.count ∧ (M.code = 15 → M.count ≤ 1968) ∧ (M.code = 16 → M.count ≤ 123)) ∧ within M.addr M.count = true := by
  have hf := fail0 h
  unfold pduW at h
  rw [hf, if_neg (by decide)] at h
  split at h
  · cases h
  rename_i l' hl'
  split at h
  · cases h
  injection h with h
  subst h
  rcases hc with hc | hc
  · rw [hc] at hl' ⊢
    obtain ⟨h1, h2⟩ := writeOf_some (show writeOf parseCoils coilsLay 0 M = some l' from hl')
    rw [hc] at h1
    obtain ⟨C', h3, h4⟩ := parse_fin (Or.inl rfl) h1
    have h3 : some (csmR 15 ⟨l', false, 0⟩) = some (C', M) := h3
    obtain ⟨rfl, rfl⟩ := some_pair h3
    obtain ⟨h6, _⟩ := nd_ok (by decide) (end0 h4)
    obtain ⟨h7, _⟩ := nd_ok (by decide) (by_ok h6).1
    obtain ⟨h8, h9⟩ := span_e (by_ok h7).1
    refine ⟨⟨[((packB (csmR 15 ⟨l', false, 0⟩).2.bits).length : Int) % 256] ++ packB (csmR 15 ⟨l', false, 0⟩).2.bits, ?_, by simp⟩, ⟨h8.1, fun _ => h8.2, fun h => absurd h (by decide)⟩, h9⟩
    rw [← List.append_assoc (putW _)]
    exact congrArg _ h2
  · rw [hc] at hl' ⊢
    obtain ⟨h1, h2⟩ := writeOf_some (show writeOf parseRegs regsLay 0 M = some l' from hl')
    rw [hc] at h1
    obtain ⟨C', h3, h4⟩ := parse_fin (Or.inl rfl) h1
    have h3 : some (rmanyR 16 ⟨l', false, 0⟩) = some (C', M) := h3
    obtain ⟨rfl, rfl⟩ := some_pair h3
    have h6 : (rmanyC ⟨l', false, 0⟩).e = 0 := wo_e (end0 h4)
    obtain ⟨h7, _⟩ := nd_ok (by decide) h6
    obtain ⟨h8, h9⟩ := rspan_e (by_ok h7).1
    refine ⟨⟨[(2 * ((rmanyR 16 ⟨l', false, 0⟩).2.words.length : Int)) % 256] ++ putW (rmanyR 16 ⟨l', false, 0⟩).2.words, ?_, by simp⟩, ⟨h8.1, (fun h => absurd h (by decide)), fun _ => h8.2⟩, h9⟩
    rw [← List.append_assoc (putW _)]
    exact congrArg _ h2
theorem echo_cut {M : Msg} {l : List Int} (hc : M.code = 15 ∨ M.code = 16) (ha : 0 ≤ M.addr ∧ M.addr < 65536) (hn : 0 ≤ M.count ∧ M.count < 65536) (h : pduW 0 M = some l) : 6 ≤ l.length ∧ pduW 1 (echoM M) = some (l.take 5) := by
  obtain ⟨⟨r, rfl, hr⟩, ⟨h1, h2, h3⟩, h4⟩ := many_ok hc h
  refine ⟨by simp [putW]; omega, ?_⟩
  show pduW 1 (echoM M) = some ([M.code] ++ putW [M.addr, M.count])
  have hw : famW (cfam M.code) 1 (echoM M) = some (putW [M.addr, M.count]) := by
    rcases hc with hc | hc
    · rw [hc]
      have h5 := h2 hc
      refine writeOf_ok (parse := parseCoils) (lay := coilsLay) ?_ ?_
      · unfold coilsLay
        rw [show (echoM M).code = 15 from hc]
        rfl
      · show parseOf coilsForm 1 M.code _ = _
        rw [hc]
        unfold parseOf
        rw [if_pos (Or.inr rfl)]
        show finish (asksR 1968 15 ⟨putW [M.addr, M.count], false, 0⟩).2 (asksR 1968 15 ⟨putW [M.addr, M.count], false, 0⟩).1 = _
        rw [asks_ok ha hn ⟨h1, h5⟩ h4]
        show ((_ : Msg), (0 : Int)) = _
        unfold echoM
        rw [hc]
    · rw [hc]
      have h5 := h3 hc
      refine writeOf_ok (parse := parseRegs) (lay := regsLay) ?_ ?_
      · unfold regsLay
        rw [show (echoM M).code = 16 from hc]
        rfl
      · show parseOf regsForm 1 M.code _ = _
        rw [hc]
        unfold parseOf
        rw [if_pos (Or.inr rfl)]
        show finish (rasksR 123 16 ⟨putW [M.addr, M.count], false, 0⟩).2 (rasksR 123 16 ⟨putW [M.addr, M.count], false, 0⟩).1 = _
        rw [rasks_ok ha hn ⟨h1, h5⟩ h4]
        show ((_ : Msg), (0 : Int)) = _
        unfold echoM
        rw [hc]
  unfold pduW
  show (if ((0 : Int) != 0) = true then _ else match famW (cfam M.code) 1 (echoM M) with | none => none | some l => if decide (253 ≤ (l.length : Int)) then none else some ([M.code] ++ l)) = _
  rw [if_neg (by decide), hw]
  rfl
end Go.Proofs.Ytbaeecmamacphaa
namespace Go.Proofs.Ytbaeecmamacphaa
open Go.RowKit
set_option maxRecDepth 100000 in
set_option maxHeartbeats 4000000 in
theorem lawPduEchoes {w : World} {mM : Bool} {M : Msg} {cM : Array Value} (hM : MsgRd mM w cM.toList M) :
    Calls Try.prog 8 #[.agg cM] w (PVal (.bool true) w) := by
 obtain ⟨xM, rfl⟩ := mcl_of hM
 have hRM := hM.rngs
 obtain ⟨hcM, hdM⟩ := hRM
 refine en 85 Try.func8 rfl <| sg <| L0 <| Obx (mcl M xM) fun g10 w11 hg12 B13 hu14 => Pl 1 <| ng <| L0 <| Oc <| m1 (@awake14 _) fun w15 hu16 => Pl 1 <| nt <| sq <| ?_
 refine go <| ?_
 have r17 := ub hu16 B13
 refine L0 <| Olw r17 <| ?_
 have U18 := ut0 hu14 hu16
 have r19 := MsgRd.old hM U18
 refine L0 <| Oc <| m1 (few_any r19) fun w20 hu21 => Pl 1 <| nt <| sq <| sg <| Pl 2 <| nt <| ?_
 have U22 := ut0 U18 hu21
 refine cb ((!(fewB M))) (fun q23 => ?_) (fun q23 => ?_)
 have q23n : (fewB M) = false := by simpa using q23
 refine sg <| Pl 2 <| nt <| rt <| tr <| rr (.bool true) <| ?_
 exact ⟨rfl, U22⟩
 have q23n : (fewB M) = true := by simpa using q23
 refine skn <| sg <| ?_
 have r24 := ub hu21 r17
 refine L0 <| Olw r24 <| ?_
 have r25 := MsgRd.old r19 hu21
 refine wo (pduW 0 M) (fun hX27 => ?_) (fun l26 hX27 => ?_)
 refine L0 <| Oc <| m1 (pdu_write_n hX27 r25 (fewB_few q23n)) fun w28 hu29 => Pl 5 <| nt <| sq <| sg <| Pl 7 <| nt <| c1 <| sg <| Pl 6 <| nl <| ?_
 refine tn <| rt <| tr <| rr (.bool true) <| ?_
 have U30 := ut0 U22 hu29
 exact ⟨rfl, U30⟩
 have hl31 := pduW_le (r25.rngs).1 hX27
 refine L0 <| Oc <| so2 (pdu_write_s hX27 r25 (fewB_few q23n)) fun A36 cp37 w32 rd40 hl38 hm39 hu35 => Pl 5 <| nt <| sq <| sg <| Pl 7 <| nt <| ?_
 have U41 := ut0 U22 hu35
 refine cb ((((l26.length : Nat) : Int) == 0)) (fun q42 => ?_) (fun q42 => ?_)
 have q42p := eq_of_beqi q42
 refine sg <| Pl 6 <| nt <| rt <| tr <| rr (.bool false) <| ?_
 have hs : false = true := by have z := pduW_pos hcM hX27; have q := eq_of_beqi q42; omega
 rw [hs]
 exact ⟨rfl, U41⟩
 have q42p := ne_of_beqi q42
 refine skn <| sq <| sg <| Pl 1 <| ?_
 have r43 := ub hu35 r24
 refine L0 <| Olb r43 0 <| nt <| bk <| sq <| sg <| Pl 2 <| nt <| cb ((M.code == 5)) (fun q44 => ?_) (fun q44 => ?_)
 have q44p := eq_of_beqi q44
 refine skn <| ct q44 <| sg <| L0 <| Olw r43 <| ?_
 have r45 := MsgRd.old r25 hu35
 refine wo (pduW 1 M) (fun hX47 => ?_) (fun l46 hX47 => ?_)
 refine L0 <| Oc <| m1 (pdu_write_n hX47 r45 (fewB_few q23n)) fun w48 hu49 => Pl 5 <| ng <| Pl 11 <| nt <| rt <| br <| tr <| rr (.bool false) <| ?_
 have hs : false = true := by have z := echo_same (Or.inl (eq_of_beqi q44)) hX27; rw [hX47] at z; cases z
 rw [hs]
 have U50 := ut0 U41 hu49
 exact ⟨rfl, U50⟩
 have hl51 := pduW_le (r45.rngs).1 hX47
 refine L0 <| Oc <| so2 (pdu_write_s hX47 r45 (fewB_few q23n)) fun A56 cp57 w52 rd60 hl58 hm59 hu55 => Pl 5 <| ng <| Pl 8 <| ?_
 have r61 := own_stay rd40 hu55 (fun x hx => not0) (fun _ _ h => h)
 refine L1 <| Oc (args := #[.slice A36 l26.length cp37, .slice A56 l46.length cp57]) <| m1 (same1_any (xs := l26) (ys := l46) (r61).rd (rd60).rd) fun w62 hu63 => Pl 2 <| nt <| rt <| br <| tr <| rr (.bool (decide (l26 = l46))) <| ?_
 have hs : (decide (l26 = l46)) = true := decide_eq_true (Option.some.inj ((echo_same (Or.inl (eq_of_beqi q44)) hX27).symm.trans hX47))
 rw [hs]
 have U64 := ut0 U41 hu55
 have U65 := ut0 U64 hu63
 exact ⟨rfl, U65⟩
 have q44p := ne_of_beqi q44
 refine sg <| Pl 2 <| nt <| cb ((M.code == 6)) (fun q66 => ?_) (fun q66 => ?_)
 have q66p := eq_of_beqi q66
 refine skn <| ct q66 <| sg <| L0 <| Olw r43 <| ?_
 have r67 := MsgRd.old r25 hu35
 refine wo (pduW 1 M) (fun hX69 => ?_) (fun l68 hX69 => ?_)
 refine L0 <| Oc <| m1 (pdu_write_n hX69 r67 (fewB_few q23n)) fun w70 hu71 => Pl 5 <| ng <| Pl 11 <| nt <| rt <| br <| tr <| rr (.bool false) <| ?_
 have hs : false = true := by have z := echo_same (Or.inr (Or.inl (eq_of_beqi q66))) hX27; rw [hX69] at z; cases z
 rw [hs]
 have U72 := ut0 U41 hu71
 exact ⟨rfl, U72⟩
 have hl73 := pduW_le (r67.rngs).1 hX69
 refine L0 <| Oc <| so2 (pdu_write_s hX69 r67 (fewB_few q23n)) fun A78 cp79 w74 rd82 hl80 hm81 hu77 => Pl 5 <| ng <| Pl 8 <| ?_
 have r83 := own_stay rd40 hu77 (fun x hx => not0) (fun _ _ h => h)
 refine L1 <| Oc (args := #[.slice A36 l26.length cp37, .slice A78 l68.length cp79]) <| m1 (same1_any (xs := l26) (ys := l68) (r83).rd (rd82).rd) fun w84 hu85 => Pl 2 <| nt <| rt <| br <| tr <| rr (.bool (decide (l26 = l68))) <| ?_
 have hs : (decide (l26 = l68)) = true := decide_eq_true (Option.some.inj ((echo_same (Or.inr (Or.inl (eq_of_beqi q66))) hX27).symm.trans hX69))
 rw [hs]
 have U86 := ut0 U41 hu77
 have U87 := ut0 U86 hu85
 exact ⟨rfl, U87⟩
 have q66p := ne_of_beqi q66
 refine sg <| Pl 2 <| nt <| cb ((M.code == 21)) (fun q88 => ?_) (fun q88 => ?_)
 have q88p := eq_of_beqi q88
 refine skn <| ct q88 <| sg <| L0 <| Olw r43 <| ?_
 have r89 := MsgRd.old r25 hu35
 refine wo (pduW 1 M) (fun hX91 => ?_) (fun l90 hX91 => ?_)
 refine L0 <| Oc <| m1 (pdu_write_n hX91 r89 (fewB_few q23n)) fun w92 hu93 => Pl 5 <| ng <| Pl 11 <| nt <| rt <| br <| tr <| rr (.bool false) <| ?_
 have hs : false = true := by have z := echo_same (Or.inr (Or.inr (Or.inl (eq_of_beqi q88)))) hX27; rw [hX91] at z; cases z
 rw [hs]
 have U94 := ut0 U41 hu93
 exact ⟨rfl, U94⟩
 have hl95 := pduW_le (r89.rngs).1 hX91
 refine L0 <| Oc <| so2 (pdu_write_s hX91 r89 (fewB_few q23n)) fun A100 cp101 w96 rd104 hl102 hm103 hu99 => Pl 5 <| ng <| Pl 8 <| ?_
 have r105 := own_stay rd40 hu99 (fun x hx => not0) (fun _ _ h => h)
 refine L1 <| Oc (args := #[.slice A36 l26.length cp37, .slice A100 l90.length cp101]) <| m1 (same1_any (xs := l26) (ys := l90) (r105).rd (rd104).rd) fun w106 hu107 => Pl 2 <| nt <| rt <| br <| tr <| rr (.bool (decide (l26 = l90))) <| ?_
 have hs : (decide (l26 = l90)) = true := decide_eq_true (Option.some.inj ((echo_same (Or.inr (Or.inr (Or.inl (eq_of_beqi q88)))) hX27).symm.trans hX91))
 rw [hs]
 have U108 := ut0 U41 hu99
 have U109 := ut0 U108 hu107
 exact ⟨rfl, U109⟩
 have q88p := ne_of_beqi q88
 refine go <| Pl 2 <| nt <| cb ((M.code == 22)) (fun q110 => ?_) (fun q110 => ?_)
 have q110p := eq_of_beqi q110
 refine sg <| L0 <| Olw r43 <| ?_
 have r111 := MsgRd.old r25 hu35
 refine wo (pduW 1 M) (fun hX113 => ?_) (fun l112 hX113 => ?_)
 refine L0 <| Oc <| m1 (pdu_write_n hX113 r111 (fewB_few q23n)) fun w114 hu115 => Pl 5 <| ng <| Pl 11 <| nt <| rt <| br <| tr <| rr (.bool false) <| ?_
 have hs : false = true := by have z := echo_same (Or.inr (Or.inr (Or.inr (eq_of_beqi q110)))) hX27; rw [hX113] at z; cases z
 rw [hs]
 have U116 := ut0 U41 hu115
 exact ⟨rfl, U116⟩
 have hl117 := pduW_le (r111.rngs).1 hX113
 refine L0 <| Oc <| so2 (pdu_write_s hX113 r111 (fewB_few q23n)) fun A122 cp123 w118 rd126 hl124 hm125 hu121 => Pl 5 <| ng <| Pl 8 <| ?_
 have r127 := own_stay rd40 hu121 (fun x hx => not0) (fun _ _ h => h)
 refine L1 <| Oc (args := #[.slice A36 l26.length cp37, .slice A122 l112.length cp123]) <| m1 (same1_any (xs := l26) (ys := l112) (r127).rd (rd126).rd) fun w128 hu129 => Pl 2 <| nt <| rt <| br <| tr <| rr (.bool (decide (l26 = l112))) <| ?_
 have hs : (decide (l26 = l112)) = true := decide_eq_true (Option.some.inj ((echo_same (Or.inr (Or.inr (Or.inr (eq_of_beqi q110)))) hX27).symm.trans hX113))
 rw [hs]
 have U130 := ut0 U41 hu121
 have U131 := ut0 U130 hu129
 exact ⟨rfl, U131⟩
 have q110p := ne_of_beqi q110
 refine sq <| sg <| Pl 2 <| nt <| cb ((M.code == 15)) (fun q132 => ?_) (fun q132 => ?_)
 have q132p := eq_of_beqi q132
 refine skn <| ct q132 <| sg <| Pl 1 <| L0 <| Olb r43 0 <| Pl 1 <| L0 <| Olb r43 2 <| Pl 1 <| L0 <| Olb r43 3 <| Pl 1 <| ?_
 have r133 := MsgRd.old r25 hu35
 refine wo (pduW 1 (echoM M)) (fun hX135 => ?_) (fun l134 hX135 => ?_)
 refine L0 <| Oc <| m1 (pdu_write_n hX135 (echo_rd r133 w32) (echo_few _)) fun w136 hu137 => Pl 5 <| nt <| sq <| sg <| Pl 3 <| nt <| ?_
 have U138 := ut0 U41 hu137
 refine cb ((decide (((l26.length : Nat) : Int) < 6))) (fun q139 => ?_) (fun q139 => ?_)
 have q139p := of_decide_eq_true q139
 refine sg <| Pl 1 <| nt <| rt <| tr <| br <| tr <| rr (.bool false) <| ?_
 have hs : false = true := by have z := (echo_cut (Or.inl (eq_of_beqi q132)) (rng_ac hM).1 (rng_ac hM).2 hX27).2; rw [hX135] at z; cases z
 rw [hs]
 exact ⟨rfl, U138⟩
 have q139p := of_decide_eq_false q139
 refine skn <| sg <| Pl 12 <| nt <| rt <| br <| tr <| rr (.bool false) <| ?_
 have hs : false = true := by have z := (echo_cut (Or.inl (eq_of_beqi q132)) (rng_ac hM).1 (rng_ac hM).2 hX27).2; rw [hX135] at z; cases z
 rw [hs]
 exact ⟨rfl, U138⟩
 have hl140 := pduW_le ((echo_rd r133 w32).rngs).1 hX135
 refine L0 <| Oc <| so2 (pdu_write_s hX135 (echo_rd r133 w32) (echo_few _)) fun A145 cp146 w141 rd149 hl147 hm148 hu144 => Pl 5 <| nt <| sq <| sg <| Pl 3 <| nt <| ?_
 have U150 := ut0 U41 hu144
 refine cb ((decide (((l26.length : Nat) : Int) < 6))) (fun q151 => ?_) (fun q151 => ?_)
 have q151p := of_decide_eq_true q151
 refine sg <| Pl 1 <| nt <| rt <| tr <| br <| tr <| rr (.bool false) <| ?_
 have hs : false = true := by have z := (echo_cut (Or.inl (eq_of_beqi q132)) (rng_ac hM).1 (rng_ac hM).2 hX27).1; have q := of_decide_eq_true q151; omega
 rw [hs]
 exact ⟨rfl, U150⟩
 have q151p := of_decide_eq_false q151
 refine skn <| sg <| Pl 7 <| x12 (cut_h (P := Try.prog) 22 5 1 Try.underlying22 rfl rfl A36 l26.length cp37 (k := 5) 5 (by rfl) (by omega) (by omega)) fun A152 hrun153 hrd154 => L1 <| Or_ (.slice A152 5 cp37) (run_cuth (kl := .i64) (k := 5) (A := A36) (n := l26.length) (c := cp37) rfl Try.underlying22 (by kernel_rfl) (by kernel_rfl) (hrun153 _ _)) <| Pl 1 <| ?_
 have r155 := own_stay rd40 hu144 (fun x hx => not0) (fun _ _ h => h)
 refine L1 <| Oc (args := #[.slice A152 5 cp37, .slice A145 l134.length cp146]) <| m1 (same1_any (xs := (l26.take 5)) (ys := l134) (hrd154 _ _ _ _ _ (r155).rd) (rd149).rd) fun w156 hu157 => Pl 2 <| nt <| rt <| br <| tr <| rr (.bool (decide ((l26.take 5) = l134))) <| ?_
 have hs : (decide ((l26.take 5) = l134)) = true := decide_eq_true (Option.some.inj ((echo_cut (Or.inl (eq_of_beqi q132)) (rng_ac hM).1 (rng_ac hM).2 hX27).2.symm.trans hX135))
 rw [hs]
 have U158 := ut0 U150 hu157
 exact ⟨rfl, U158⟩
 have q132p := ne_of_beqi q132
 refine go <| Pl 2 <| nt <| cb ((M.code == 16)) (fun q159 => ?_) (fun q159 => ?_)
 have q159p := eq_of_beqi q159
 refine sg <| Pl 1 <| L0 <| Olb r43 0 <| Pl 1 <| L0 <| Olb r43 2 <| Pl 1 <| L0 <| Olb r43 3 <| Pl 1 <| ?_
 have r160 := MsgRd.old r25 hu35
 refine wo (pduW 1 (echoM M)) (fun hX162 => ?_) (fun l161 hX162 => ?_)
 refine L0 <| Oc <| m1 (pdu_write_n hX162 (echo_rd r160 w32) (echo_few _)) fun w163 hu164 => Pl 5 <| nt <| sq <| sg <| Pl 3 <| nt <| ?_
 have U165 := ut0 U41 hu164
 refine cb ((decide (((l26.length : Nat) : Int) < 6))) (fun q166 => ?_) (fun q166 => ?_)
 have q166p := of_decide_eq_true q166
 refine sg <| Pl 1 <| nt <| rt <| tr <| br <| tr <| rr (.bool false) <| ?_
 have hs : false = true := by have z := (echo_cut (Or.inr (eq_of_beqi q159)) (rng_ac hM).1 (rng_ac hM).2 hX27).2; rw [hX162] at z; cases z
 rw [hs]
 exact ⟨rfl, U165⟩
 have q166p := of_decide_eq_false q166
 refine skn <| sg <| Pl 12 <| nt <| rt <| br <| tr <| rr (.bool false) <| ?_
 have hs : false = true := by have z := (echo_cut (Or.inr (eq_of_beqi q159)) (rng_ac hM).1 (rng_ac hM).2 hX27).2; rw [hX162] at z; cases z
 rw [hs]
 exact ⟨rfl, U165⟩
 have hl167 := pduW_le ((echo_rd r160 w32).rngs).1 hX162
 refine L0 <| Oc <| so2 (pdu_write_s hX162 (echo_rd r160 w32) (echo_few _)) fun A172 cp173 w168 rd176 hl174 hm175 hu171 => Pl 5 <| nt <| sq <| sg <| Pl 3 <| nt <| ?_
 have U177 := ut0 U41 hu171
 refine cb ((decide (((l26.length : Nat) : Int) < 6))) (fun q178 => ?_) (fun q178 => ?_)
 have q178p := of_decide_eq_true q178
 refine sg <| Pl 1 <| nt <| rt <| tr <| br <| tr <| rr (.bool false) <| ?_
 have hs : false = true := by have z := (echo_cut (Or.inr (eq_of_beqi q159)) (rng_ac hM).1 (rng_ac hM).2 hX27).1; have q := of_decide_eq_true q178; omega
 rw [hs]
 exact ⟨rfl, U177⟩
 have q178p := of_decide_eq_false q178
 refine skn <| sg <| Pl 7 <| x12 (cut_h (P := Try.prog) 22 5 1 Try.underlying22 rfl rfl A36 l26.length cp37 (k := 5) 5 (by rfl) (by omega) (by omega)) fun A179 hrun180 hrd181 => L1 <| Or_ (.slice A179 5 cp37) (run_cuth (kl := .i64) (k := 5) (A := A36) (n := l26.length) (c := cp37) rfl Try.underlying22 (by kernel_rfl) (by kernel_rfl) (hrun180 _ _)) <| Pl 1 <| ?_
 have r182 := own_stay rd40 hu171 (fun x hx => not0) (fun _ _ h => h)
 refine L1 <| Oc (args := #[.slice A179 5 cp37, .slice A172 l161.length cp173]) <| m1 (same1_any (xs := (l26.take 5)) (ys := l161) (hrd181 _ _ _ _ _ (r182).rd) (rd176).rd) fun w183 hu184 => Pl 2 <| nt <| rt <| br <| tr <| rr (.bool (decide ((l26.take 5) = l161))) <| ?_
 have hs : (decide ((l26.take 5) = l161)) = true := decide_eq_true (Option.some.inj ((echo_cut (Or.inr (eq_of_beqi q159)) (rng_ac hM).1 (rng_ac hM).2 hX27).2.symm.trans hX162))
 rw [hs]
 have U185 := ut0 U177 hu184
 exact ⟨rfl, U185⟩
 have q159p := ne_of_beqi q159
 refine sk <| bn <| tn <| sg <| Pl 2 <| nt <| rt <| rr (.bool true) <| ?_
 exact ⟨rfl, U41⟩
end Go.Proofs.Ytbaeecmamacphaa
namespace Go.Proofs.Ytbaeecmamacphaa
open Go.ChangeShapes Go.WideShapes Go.ChangeAt Go.RowKit
theorem own : ownKnob Try.prog.godebug = none := by kernel_rfl
theorem laidOut : laidOutB Try.prog = true := by kernel_rfl
set_option maxRecDepth 100000 in
theorem lifted (os : Os) (started : os.Started) (H : Type) (enc : TypeId × Value → H) :
    ReturnsInHanded {} Try.checked os 8 .any (Rows.pduEchoesSpec.pre6 enc Try.prog Try.f8 Rows.pduEchoesRow.domain false) (Rows.pduEchoesSpec.post enc Try.prog Try.f8 false true false false) := by
  refine returnsInHanded_of_change (C := Try.checked) own started (by kernel_rfl) Try.func8
    (ChangeSpec.witness6 (enc := enc) (C := Try.checked) false ⟨#[], #[.agg mZ], []⟩ 8 (by kernel_rfl) (by kernel_rfl) (by kernel_rfl) (by kernel_rfl)) ?_
  intro W base args ds gs before hval0 hW hcnd _
  have hval : ∀ (j : Nat) t v, Try.f8.params[j]? = some t → args[j]? = some v → Value.okWide Try.prog W .any base t v := hval0
  have hW' := hW
  obtain ⟨p, q, hA0, hV, rfl, hfz, hnd⟩ := hW
  have hA : DataW.TrodAll enc Try.prog W 0 (fun _ => true) true Try.f8.params.toList args.toList ds p := hA0
  rw [Try.params8] at hA hval
  obtain ⟨v0, vs0, d0, ds0, p0, q0, hargs, rfl, rfl, h0, r0⟩ := trodAll_cons hA
  obtain ⟨rfl, rfl, rfl⟩ := trodAll_nil r0
  obtain rfl : args = #[v0] := by cases args; simp_all
  obtain ⟨rfl, rfl⟩ := trodVars_none hV
  have k0 := h0
  have lt0 : ∀ x ∈ p0, x.block < W.heap.size := by obtain ⟨m, hm⟩ := k0; exact DataW.trod_lt m _ _ _ hm
  obtain ⟨c0, M0, rfl, R0⟩ := msg_arg ⟨_, hval 0 29 v0 rfl rfl⟩ h0
  clear hA0 hval0
  refine (lawPduEchoes R0).mono fun e W' ⟨he, hu⟩ => ?_
  have bel := upd_below hu
  subst he
  exact ⟨_, rfl, _, _, _, [], _, [], hW', trodAll_mk1 (shut_bool Try.underlying4 _), (trodAll_cons_mk (Below.trod laidOut (by kernel_rfl) (of_decide_eq_true (by kernel_rfl)) k0 bel lt0) trodAll_mk0), rfl, bel.frame _, fun h => by cases h⟩
theorem over : Rows.pduEchoesRow.holds Try.pinned (OpenSpec.ofChange Rows.pduEchoesSpec) :=
  OpenClaim.holds_of_wide 8 Try.f8 rfl rfl rfl rfl rfl rfl rfl ⟨rfl, rfl, rfl, rfl, rfl⟩ rfl rfl rfl rfl rfl (by kernel_rfl) Try.func8 (by kernel_rfl)
    (of_decide_eq_true (by kernel_rfl)) (by unfold Func.isWrapper; first | (rw [if_pos (by decide +kernel)]; kernel_rfl) | (rw [if_neg (by decide +kernel)]; exact ⟨rfl, rfl⟩))
    (fun os started H enc _ => lifted os started H enc)
theorem proved : Rows.PduEchoesSaid := over
#print axioms proved
end Go.Proofs.Ytbaeecmamacphaa
