/- The statement PduFirst holds; no condition of its own. -/
import Derived.Test.YtbaeecmamacphaaKA1
import Derived.Test.YtbaeecmamacphaaKA2
import Derived.Test.YtbaeecmamacphaaKA3
import Derived.Test.YtbaeecmamacphaaKA4
import Derived.Test.YtbaeecmamacphaaKA5
import Derived.Test.YtbaeecmamacphaaKA6
import Derived.Test.YtbaeecmamacphaaRows
import Derived.WalkKit
import Derived.ProofKit
import Derived.OpenShut
import Derived.ShutString
import Derived.ChangeOld
import Derived.Below
set_option linter.unusedVariables false
set_option linter.unusedSimpArgs false
namespace Go.Proofs.Ytbaeecmamacphaa
open Go.RowKit
set_option maxRecDepth 100000 in
set_option maxHeartbeats 4000000 in
theorem lawPduFirst {w : World} {ans : Bool} {mM : Bool} {M : Msg} {cM : Array Value} (hM : MsgRd mM w cM.toList M) :
    Calls Try.prog 7 #[.bool ans, .agg cM] w (PVal (.bool true) w) := by
 obtain ⟨xM, rfl⟩ := mcl_of hM
 have hRM := hM.rngs
 obtain ⟨hcM, hdM⟩ := hRM
 refine en 85 Try.func7 rfl <| sg <| L0 <| Obx (mcl M xM) fun g10 w11 hg12 B13 hu14 => Pl 1 <| ng <| L0 <| Oc <| m1 (@awake14 _) fun w15 hu16 => Pl 1 <| nt <| sq <| ?_
 refine go <| ?_
 have r17 := ub hu16 B13
 refine L0 <| Olw r17 <| ?_
 have U18 := ut0 hu14 hu16
 have r19 := MsgRd.old hM U18
 refine L0 <| Oc <| m1 (few_any r19) fun w20 hu21 => Pl 1 <| nt <| sq <| sg <| Pl 2 <| nt <| ?_
 have U22 := ut0 U18 hu21
 refine cb ((!(fewB M))) (fun q23 => ?_) (fun q23 => ?_)
 have q23n : (fewB M) = false := by simpa using q23
 refine sg <| Pl 2 <| nt <| rt <| tr <| rr (.bool true) <| ?_
 exact ⟨rfl, U22⟩
 have q23n : (fewB M) = true := by simpa using q23
 refine skn <| sg <| Pl 1 <| nt <| sq <| sg <| Pl 1 <| nt <| cb (ans) (fun q24 => ?_) (fun q24 => ?_)
 refine go <| Pl 1 <| ng <| Pl 1 <| ?_
 have r25 := ub hu21 r17
 refine L0 <| Olw r25 <| ?_
 have r26 := MsgRd.old r19 hu21
 refine wo (pduW 1 M) (fun hX28 => ?_) (fun l27 hX28 => ?_)
 refine L0 <| Oc <| m1 (pdu_write_n hX28 r26 (fewB_few q23n)) fun w29 hu30 => Pl 5 <| nt <| sq <| sg <| Pl 7 <| nt <| c1 <| sg <| Pl 11 <| nl <| ?_
 refine tn <| rt <| tr <| rr (.bool true) <| ?_
 have U31 := ut0 U22 hu30
 exact ⟨rfl, U31⟩
 have hl32 := pduW_le (r26.rngs).1 hX28
 refine L0 <| Oc <| so2 (pdu_write_s hX28 r26 (fewB_few q23n)) fun A37 cp38 w33 rd41 hl39 hm40 hu36 => Pl 5 <| nt <| sq <| sg <| Pl 7 <| nt <| ?_
 have U42 := ut0 U22 hu36
 refine cb ((((l27.length : Nat) : Int) == 0)) (fun q43 => ?_) (fun q43 => ?_)
 have q43p := eq_of_beqi q43
 refine sg <| Pl 11 <| nt <| rt <| tr <| rr (.bool false) <| ?_
 have hs : false = true := by have z := pduW_pos hcM hX28; omega
 rw [hs]
 exact ⟨rfl, U42⟩
 have q43p := ne_of_beqi q43
 refine skn <| sg <| Pl 1 <| ?_
 have r44 := ub hu36 r25
 refine L0 <| Olb r44 0 <| L0 <| Oc <| m1 (pub7_any (x := M.code)) fun w45 hu46 => Pl 1 <| nt <| sq <| sg <| Pl 1 <| ?_
 have r47 := ub hu46 r44
 refine L0 <| Olb r47 1 <| Pl 1 <| nt <| ?_
 have U48 := ut0 U42 hu46
 refine cb ((M.fail != 0)) (fun q49 => ?_) (fun q49 => ?_)
 have q49p := ne_of_bnei q49
 refine sq <| ?_
 have r58 := own_stay rd41 hu46 (fun x hx => not0) (fun _ _ h => h)
 refine x23 (RdB.at_ (r58).rd 0 (by omega)) fun b59 o60 hA61 hl62 hr63 => Rg 22 (fun w' => w'.cell? ⟨b59, o60 + 0, none⟩ = some (.int .u8 (l27.getD 0 0)) ∧ w'.cell? ⟨g10, 0, none⟩ = some (.int .u8 M.code)) fun w66 hu67 => ?_
 have r69 := ub hu67 r47
 refine hld ⟨(uc hu67 hl62), (blk_at r69 rfl)⟩ fun hS68 => Rt 0 hS68 <| Rt 1 hS68 <| Rt 2 hS68 <| Rt 3 hS68 <| Rt 4 hS68 <| ?_
 have U70 := ut0 U48 hu67
 refine bla 51 ((pub7 M.code)) (fun q71 => ?_) (fun q71 => ?_)
 refine Rt 5 hS68 <| Rt 6 hS68 <| Rt 7 hS68 <| sya 54 q24 <| Rt 8 hS68 <| Ri1 9 hS68 l27.length 0 0 rfl hA61 (by omega) <| Rl 10 hS68 (fun _ hs => hs.1) <| Rt 11 hS68 <| Rl 12 hS68 (fun _ hs => hs.2) <| Rt 13 hS68 <| Rt 14 hS68 <| Rt 15 hS68 <| Rt 16 hS68 <| bla 63 (((l27.getD 0 0) == ((M.code + 128) % 256))) (fun q72 => ?_) (fun q72 => ?_)
 have q72p := eq_of_beqi q72
 refine Rt 17 hS68 <| Rt 18 hS68 <| Rt 19 hS68 <| Rt 20 hS68 <| Rt 21 hS68 <| re <| tn <| rt <| tr <| rr (.bool (((l27.length : Nat) : Int) == 2)) <| ?_
 have hs : (((l27.length : Nat) : Int) == 2) = true := by have z := first_fail hcM hX28 q49; simp only [beq_iff_eq]; omega
 rw [hs]
 exact ⟨rfl, U70⟩
 have q72p := ne_of_beqi q72
 refine Ro 17 hS68 <| Ro 18 hS68 <| Ro 19 hS68 <| Rt 20 hS68 <| Rt 21 hS68 <| re <| tn <| rt <| tr <| rr (.bool false) <| ?_
 have hs : false = true := by have z := first_fail hcM hX28 q49; omega
 rw [hs]
 exact ⟨rfl, U70⟩
 refine Ro 5 hS68 <| Rt 6 hS68 <| Rt 7 hS68 <| Ro 8 hS68 <| Ro 9 hS68 <| Ro 10 hS68 <| Ro 11 hS68 <| Ro 12 hS68 <| Ro 13 hS68 <| Ro 14 hS68 <| Rt 15 hS68 <| Rt 16 hS68 <| Ro 17 hS68 <| Ro 18 hS68 <| ?_
 refine Ro 19 hS68 <| Rt 20 hS68 <| Rt 21 hS68 <| re <| tn <| rt <| tr <| rr (.bool false) <| ?_
 have hs : false = true := bft (pub_of hcM hX28) q71
 rw [hs]
 exact ⟨rfl, U70⟩
 have q49p := eq_of_bnei q49
 refine skn <| sq <| ?_
 have r81 := own_stay rd41 hu46 (fun x hx => not0) (fun _ _ h => h)
 refine x23 (RdB.at_ (r81).rd 0 (by omega)) fun b82 o83 hA84 hl85 hr86 => Rg 18 (fun w' => w'.cell? ⟨b82, o83 + 0, none⟩ = some (.int .u8 (l27.getD 0 0)) ∧ w'.cell? ⟨g10, 0, none⟩ = some (.int .u8 M.code)) fun w89 hu90 => ?_
 have r92 := ub hu90 r47
 refine hld ⟨(uc hu90 hl85), (blk_at r92 rfl)⟩ fun hS91 => Rt 0 hS91 <| Rt 1 hS91 <| Rt 2 hS91 <| Rt 3 hS91 <| Rt 4 hS91 <| ?_
 have U93 := ut0 U48 hu90
 refine bla 72 ((pub7 M.code)) (fun q94 => ?_) (fun q94 => ?_)
 refine Rt 5 hS91 <| Ri1 6 hS91 l27.length 0 0 rfl hA84 (by omega) <| Rl 7 hS91 (fun _ hs => hs.1) <| Rt 8 hS91 <| Rl 9 hS91 (fun _ hs => hs.2) <| Rt 10 hS91 <| Rt 11 hS91 <| Rt 12 hS91 <| bla 80 (((l27.getD 0 0) == M.code)) (fun q95 => ?_) (fun q95 => ?_)
 have q95p := eq_of_beqi q95
 refine Rt 13 hS91 <| Rt 14 hS91 <| Rt 15 hS91 <| Rt 16 hS91 <| Rt 17 hS91 <| re <| tn <| rt <| rr (.bool (decide (((l27.length : Nat) : Int) ≤ 253))) <| ?_
 have hs : (decide (((l27.length : Nat) : Int) ≤ 253)) = true := decide_eq_true (by omega)
 rw [hs]
 exact ⟨rfl, U93⟩
 have q95p := ne_of_beqi q95
 refine Ro 13 hS91 <| Ro 14 hS91 <| Ro 15 hS91 <| Rt 16 hS91 <| Rt 17 hS91 <| re <| tn <| rt <| rr (.bool false) <| ?_
 have hs : false = true := by have z := first_ok hcM hX28 q49; omega
 rw [hs]
 exact ⟨rfl, U93⟩
 refine Ro 5 hS91 <| Ro 6 hS91 <| Ro 7 hS91 <| Ro 8 hS91 <| Ro 9 hS91 <| Ro 10 hS91 <| Rt 11 hS91 <| Rt 12 hS91 <| Ro 13 hS91 <| Ro 14 hS91 <| Ro 15 hS91 <| Rt 16 hS91 <| Rt 17 hS91 <| re <| ?_
 refine tn <| rt <| rr (.bool false) <| ?_
 have hs : false = true := bft (pub_of hcM hX28) q94
 rw [hs]
 exact ⟨rfl, U93⟩
 refine skn <| sg <| Pl 1 <| ?_
 have r96 := ub hu21 r17
 refine L0 <| Olw r96 <| ?_
 have r97 := MsgRd.old r19 hu21
 refine wo (pduW 0 M) (fun hX99 => ?_) (fun l98 hX99 => ?_)
 refine L0 <| Oc <| m1 (pdu_write_n hX99 r97 (fewB_few q23n)) fun w100 hu101 => Pl 5 <| nt <| sq <| sg <| Pl 7 <| nt <| c1 <| sg <| Pl 11 <| nl <| ?_
 refine tn <| rt <| tr <| rr (.bool true) <| ?_
 have U102 := ut0 U22 hu101
 exact ⟨rfl, U102⟩
 have hl103 := pduW_le (r97.rngs).1 hX99
 refine L0 <| Oc <| so2 (pdu_write_s hX99 r97 (fewB_few q23n)) fun A108 cp109 w104 rd112 hl110 hm111 hu107 => Pl 5 <| nt <| sq <| sg <| Pl 7 <| nt <| ?_
 have U113 := ut0 U22 hu107
 refine cb ((((l98.length : Nat) : Int) == 0)) (fun q114 => ?_) (fun q114 => ?_)
 have q114p := eq_of_beqi q114
 refine sg <| Pl 11 <| nt <| rt <| tr <| rr (.bool false) <| ?_
 have hs : false = true := by have z := pduW_pos hcM hX99; omega
 rw [hs]
 exact ⟨rfl, U113⟩
 have q114p := ne_of_beqi q114
 refine skn <| sg <| Pl 1 <| ?_
 have r115 := ub hu107 r96
 refine L0 <| Olb r115 0 <| L0 <| Oc <| m1 (pub7_any (x := M.code)) fun w116 hu117 => Pl 1 <| nt <| sq <| sg <| Pl 1 <| ?_
 have r118 := ub hu117 r115
 refine L0 <| Olb r118 1 <| Pl 1 <| nt <| ?_
 have U119 := ut0 U113 hu117
 refine cb ((M.fail != 0)) (fun q120 => ?_) (fun q120 => ?_)
 have q120p := ne_of_bnei q120
 refine sq <| Rg 22 (fun w' => True) fun w122 hu123 => hld trivial fun hS124 => Rt 0 hS124 <| Rt 1 hS124 <| Rt 2 hS124 <| Rt 3 hS124 <| Rt 4 hS124 <| ?_
 have U125 := ut0 U119 hu123
 refine bla 51 ((pub7 M.code)) (fun q126 => ?_) (fun q126 => ?_)
 refine Rt 5 hS124 <| Rt 6 hS124 <| Rt 7 hS124 <| sya 54 q24 <| Ro 8 hS124 <| Ro 9 hS124 <| Ro 10 hS124 <| Ro 11 hS124 <| Ro 12 hS124 <| Ro 13 hS124 <| Ro 14 hS124 <| Rt 15 hS124 <| Rt 16 hS124 <| Ro 17 hS124 <| ?_
 refine Ro 18 hS124 <| Ro 19 hS124 <| Rt 20 hS124 <| Rt 21 hS124 <| re <| tn <| rt <| tr <| rr (.bool false) <| ?_
 have hs : false = true := by have z := first_fail hcM hX99 q120; omega
 rw [hs]
 exact ⟨rfl, U125⟩
 refine Ro 5 hS124 <| Rt 6 hS124 <| Rt 7 hS124 <| Ro 8 hS124 <| Ro 9 hS124 <| Ro 10 hS124 <| Ro 11 hS124 <| Ro 12 hS124 <| Ro 13 hS124 <| Ro 14 hS124 <| Rt 15 hS124 <| Rt 16 hS124 <| Ro 17 hS124 <| Ro 18 hS124 <| ?_
 refine Ro 19 hS124 <| Rt 20 hS124 <| Rt 21 hS124 <| re <| tn <| rt <| tr <| rr (.bool false) <| ?_
 have hs : false = true := bft (pub_of hcM hX99) q126
 rw [hs]
 exact ⟨rfl, U125⟩
 have q120p := eq_of_bnei q120
 refine skn <| sq <| ?_
 have r135 := own_stay rd112 hu117 (fun x hx => not0) (fun _ _ h => h)
 refine x23 (RdB.at_ (r135).rd 0 (by omega)) fun b136 o137 hA138 hl139 hr140 => Rg 18 (fun w' => w'.cell? ⟨b136, o137 + 0, none⟩ = some (.int .u8 (l98.getD 0 0)) ∧ w'.cell? ⟨g10, 0, none⟩ = some (.int .u8 M.code)) fun w143 hu144 => ?_
 have r146 := ub hu144 r118
 refine hld ⟨(uc hu144 hl139), (blk_at r146 rfl)⟩ fun hS145 => Rt 0 hS145 <| Rt 1 hS145 <| Rt 2 hS145 <| Rt 3 hS145 <| Rt 4 hS145 <| ?_
 have U147 := ut0 U119 hu144
 refine bla 72 ((pub7 M.code)) (fun q148 => ?_) (fun q148 => ?_)
 refine Rt 5 hS145 <| Ri1 6 hS145 l98.length 0 0 rfl hA138 (by omega) <| Rl 7 hS145 (fun _ hs => hs.1) <| Rt 8 hS145 <| Rl 9 hS145 (fun _ hs => hs.2) <| Rt 10 hS145 <| Rt 11 hS145 <| Rt 12 hS145 <| bla 80 (((l98.getD 0 0) == M.code)) (fun q149 => ?_) (fun q149 => ?_)
 have q149p := eq_of_beqi q149
 refine Rt 13 hS145 <| Rt 14 hS145 <| Rt 15 hS145 <| Rt 16 hS145 <| Rt 17 hS145 <| re <| tn <| rt <| rr (.bool (decide (((l98.length : Nat) : Int) ≤ 253))) <| ?_
 have hs : (decide (((l98.length : Nat) : Int) ≤ 253)) = true := decide_eq_true (by omega)
 rw [hs]
 exact ⟨rfl, U147⟩
 have q149p := ne_of_beqi q149
 refine Ro 13 hS145 <| Ro 14 hS145 <| Ro 15 hS145 <| Rt 16 hS145 <| Rt 17 hS145 <| re <| tn <| rt <| rr (.bool false) <| ?_
 have hs : false = true := by have z := first_ok hcM hX99 q120; omega
 rw [hs]
 exact ⟨rfl, U147⟩
 refine Ro 5 hS145 <| Ro 6 hS145 <| Ro 7 hS145 <| Ro 8 hS145 <| Ro 9 hS145 <| Ro 10 hS145 <| Rt 11 hS145 <| Rt 12 hS145 <| Ro 13 hS145 <| Ro 14 hS145 <| Ro 15 hS145 <| Rt 16 hS145 <| Rt 17 hS145 <| re <| ?_
 refine tn <| rt <| rr (.bool false) <| ?_
 have hs : false = true := bft (pub_of hcM hX99) q148
 rw [hs]
 exact ⟨rfl, U147⟩
end Go.Proofs.Ytbaeecmamacphaa
namespace Go.Proofs.Ytbaeecmamacphaa
open Go.ChangeShapes Go.WideShapes Go.ChangeAt Go.RowKit
theorem own : ownKnob Try.prog.godebug = none := by kernel_rfl
theorem laidOut : laidOutB Try.prog = true := by kernel_rfl
set_option maxRecDepth 100000 in
theorem lifted (os : Os) (started : os.Started) (H : Type) (enc : TypeId × Value → H) :
    ReturnsInHanded {} Try.checked os 7 .any (Rows.pduFirstSpec.pre6 enc Try.prog Try.f7 Rows.pduFirstRow.domain false) (Rows.pduFirstSpec.post enc Try.prog Try.f7 false true false false) := by
  refine returnsInHanded_of_change (C := Try.checked) own started (by kernel_rfl) Try.func7
    (ChangeSpec.witness6 (enc := enc) (C := Try.checked) false ⟨#[], #[.bool false, .agg mZ], []⟩ 8 (by kernel_rfl) (by kernel_rfl) (by kernel_rfl) (by kernel_rfl)) ?_
  intro W base args ds gs before hval0 hW hcnd _
  have hval : ∀ (j : Nat) t v, Try.f7.params[j]? = some t → args[j]? = some v → Value.okWide Try.prog W .any base t v := hval0
  have hW' := hW
  obtain ⟨p, q, hA0, hV, rfl, hfz, hnd⟩ := hW
  have hA : DataW.TrodAll enc Try.prog W 0 (fun _ => true) true Try.f7.params.toList args.toList ds p := hA0
  rw [Try.params7] at hA hval
  obtain ⟨v0, vs0, d0, ds0, p0, q0, hargs, rfl, rfl, h0, r0⟩ := trodAll_cons hA
  obtain ⟨v1, vs1, d1, ds1, p1, q1, rfl, rfl, rfl, h1, r1⟩ := trodAll_cons r0
  obtain ⟨rfl, rfl, rfl⟩ := trodAll_nil r1
  obtain rfl : args = #[v0, v1] := by cases args; simp_all
  obtain ⟨rfl, rfl⟩ := trodVars_none hV
  obtain ⟨a0, rfl, rfl, rfl⟩ := open_bool Try.underlying4 (hval 0 4 v0 rfl rfl) h0
  have k1 := h1
  have lt1 : ∀ x ∈ p1, x.block < W.heap.size := by obtain ⟨m, hm⟩ := k1; exact DataW.trod_lt m _ _ _ hm
  obtain ⟨c1, M1, rfl, R1⟩ := msg_arg ⟨_, hval 1 29 v1 rfl rfl⟩ h1
  clear hA0 hval0
  refine (lawPduFirst (ans := a0) R1).mono fun e W' ⟨he, hu⟩ => ?_
  have bel := upd_below hu
  subst he
  exact ⟨_, rfl, _, _, _, [], _, [], hW', trodAll_mk1 (shut_bool Try.underlying4 _), (trodAll_cons_mk (shut_bool Try.underlying4 _) (trodAll_cons_mk (Below.trod laidOut (by kernel_rfl) (of_decide_eq_true (by kernel_rfl)) k1 bel lt1) trodAll_mk0)), rfl, bel.frame _, fun h => by cases h⟩
theorem over : Rows.pduFirstRow.holds Try.pinned (OpenSpec.ofChange Rows.pduFirstSpec) :=
  OpenClaim.holds_of_wide 7 Try.f7 rfl rfl rfl rfl rfl rfl rfl ⟨rfl, rfl, rfl, rfl, rfl⟩ rfl rfl rfl rfl rfl (by kernel_rfl) Try.func7 (by kernel_rfl)
    (of_decide_eq_true (by kernel_rfl)) (by unfold Func.isWrapper; first | (rw [if_pos (by decide +kernel)]; kernel_rfl) | (rw [if_neg (by decide +kernel)]; exact ⟨rfl, rfl⟩))
    (fun os started H enc _ => lifted os started H enc)
theorem proved : Rows.PduFirstSaid := over
#print axioms proved
end Go.Proofs.Ytbaeecmamacphaa
