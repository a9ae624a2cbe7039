/- The statement PduFirst holds; no condition of its own. -/
import Derived.Test.YtbaeecmamacphaaKA1
import Derived.Test.YtbaeecmamacphaaKA2
import Derived.Test.YtbaeecmamacphaaKA3
import Derived.Test.YtbaeecmamacphaaKA4
import Derived.Test.YtbaeecmamacphaaKA5
import Derived.Test.YtbaeecmamacphaaRows
import Derived.WalkKit
import Derived.ProofKit
import Derived.OpenShut
import Derived.ShutString
import Derived.ChangeOld
import Derived.Below
set_option linter.unusedVariables false
set_option linter.unusedSimpArgs false
namespace Go.Proofs.Ytbaeecmamacphaa
open Go.RowKit
set_option maxRecDepth 100000 in
set_option maxHeartbeats 4000000 in
theorem lawPduFirst {w : World} {ans : Bool} {mM : Bool} {M : Msg} {cM : Array Value} (hM : MsgRd mM w cM.toList M) :
    Calls Try.prog 7 #[.bool ans, .agg cM] w (PVal (.bool true) w) := by
 obtain ⟨xM, rfl⟩ := mcl_of hM
 have hRM := hM.rngs
 obtain ⟨hcM, hdM⟩ := hRM
 refine en 85 Try.func7 rfl <| sg <| L0 <| Obx (mcl M xM) fun g10 w11 hg12 B13 hu14 => Pl 1 <| ng <| L0 <| Oc <| m1 (@awake14 _) fun w15 hu16 => Pl 1 <| nt <| sq <| ?_
 refine go <| ?_
 have r17 := ub hu16 B13
 refine L0 <| Olw r17 <| ?_
 have U18 := ut0 hu14 hu16
 have r19 := MsgRd.old hM U18
 refine L0 <| Oc <| m1 (few_any r19) fun w20 hu21 => Pl 1 <| nt <| sq <| sg <| Pl 2 <| nt <| ?_
 have U22 := ut0 U18 hu21
 refine cb ((!(fewB M))) (fun q23 => ?_) (fun q23 => ?_)
 have q23n : (fewB M) = false := by simpa using q23
 refine sg <| Pl 2 <| nt <| rt <| tr <| rr (.bool true) <| ?_
 exact ⟨rfl, U22⟩
 have q23n : (fewB M) = true := by simpa using q23
 refine skn <| sg <| Pl 1 <| nt <| sq <| sg <| Pl 1 <| nt <| cb (ans) (fun q24 => ?_) (fun q24 => ?_)
 refine go <| Pl 1 <| ng <| Pl 1 <| ?_
 have r25 := ub hu21 r17
 refine L0 <| Olw r25 <| ?_
 have r26 := MsgRd.old r19 hu21
 refine wo (pduW 1 M) (fun hX28 => ?_) (fun l27 hX28 => ?_)
 refine L0 <| Oc <| m1 (pdu_write_n hX28 r26 (fewB_few q23n)) fun w29 hu30 => Pl 5 <| nt <| sq <| sg <| Pl 7 <| nt <| c1 <| sg <| Pl 11 <| nl <| ?_
 refine tn <| rt <| tr <| rr (.bool true) <| ?_
 have U31 := ut0 U22 hu30
 exact ⟨rfl, U31⟩
 have hl32 := pduW_le (r26.rngs).1 hX28
 refine L0 <| Oc <| so2 (pdu_write_s hX28 r26 (fewB_few q23n)) fun A37 cp38 w33 rd41 hl39 hm40 hu36 => Pl 5 <| nt <| sq <| sg <| Pl 7 <| nt <| ?_
 have U42 := ut0 U22 hu36
 refine cb ((((l27.length : Nat) : Int) == 0)) (fun q43 => ?_) (fun q43 => ?_)
 have q43p := eq_of_beqi q43
 refine sg <| Pl 11 <| nt <| rt <| tr <| rr (.bool false) <| ?_
 have hs : false = true := by have z := pduW_pos hcM hX28; omega
 rw [hs]
 exact ⟨rfl, U42⟩
 have q43p := ne_of_beqi q43
 refine skn <| sg <| Pl 1 <| ?_
 have r44 := ub hu36 r25
 refine L0 <| Olb r44 0 <| L0 <| Oc <| m1 (pub7_any (x := M.code)) fun w45 hu46 => Pl 1 <| nt <| sq <| sg <| Pl 1 <| ?_
 have r47 := ub hu46 r44
 refine L0 <| Olb r47 1 <| Pl 1 <| nt <| ?_
 have U48 := ut0 U42 hu46
 refine cb ((M.fail != 0)) (fun q49 => ?_) (fun q49 => ?_)
 have q49p := ne_of_bnei q49
 refine sq <| Rg 22 (fun w' => w'.cell? ⟨g10, 0, none⟩ = some (.int .u8 M.code)) fun w58 hu59 => ?_
 have r61 := ub hu59 r47
 refine hld (blk_at r61 rfl) fun hS60 => Rt 0 hS60 <| Rt 1 hS60 <| Rt 2 hS60 <| Rt 3 hS60 <| Rt 4 hS60 <| ?_
 have U62 := ut0 U48 hu59
 refine bla 51 ((pub7 M.code)) (fun q63 => ?_) (fun q63 => ?_)
 refine Rt 5 hS60 <| Rt 6 hS60 <| Rt 7 hS60 <| sya 54 q24 <| Rt 8 hS60 <| Rt 11 hS60 <| Rl 12 hS60 (fun _ hs => hs) <| Rt 13 hS60 <| ?_
 have U64 := ut0 hu46 hu59
 have r65 := own_stay rd41 U64 (fun x hx => not0) (fun _ _ h => h)
 refine x23 (RdB.at_ (r65).rd 0 (by omega)) fun b66 o67 hA68 hl69 hr70 => R0 9 rfl <| Oix l27.length 0 hA68 (by omega) <| hld (blk_at r61 rfl) fun hS71 => R0 10 rfl <| Old (p := ⟨b66, o67 + 0, none⟩) (v := .int .u8 (l27.getD 0 0)) hl69 <| hld (blk_at r61 rfl) fun hS72 => Rt 14 hS72 <| Rt 15 hS72 <| Rt 16 hS72 <| bla 63 (((l27.getD 0 0) == ((M.code + 128) % 256))) (fun q73 => ?_) (fun q73 => ?_)
 have q73p := eq_of_beqi q73
 refine Rt 17 hS72 <| Rt 18 hS72 <| Rt 19 hS72 <| Rt 20 hS72 <| Rt 21 hS72 <| re <| tn <| rt <| tr <| rr (.bool (((l27.length : Nat) : Int) == 2)) <| ?_
 have hs : (((l27.length : Nat) : Int) == 2) = true := by have z := first_fail hcM hX28 q49; simp only [beq_iff_eq]; omega
 rw [hs]
 exact ⟨rfl, U62⟩
 have q73p := ne_of_beqi q73
 refine Ro 17 hS72 <| Ro 18 hS72 <| Ro 19 hS72 <| Rt 20 hS72 <| Rt 21 hS72 <| re <| tn <| rt <| tr <| rr (.bool false) <| ?_
 have hs : false = true := by have z := first_fail hcM hX28 q49; omega
 rw [hs]
 exact ⟨rfl, U62⟩
 refine Ro 5 hS60 <| Rt 6 hS60 <| Rt 7 hS60 <| Ro 8 hS60 <| Ro 9 hS60 <| Ro 10 hS60 <| Ro 11 hS60 <| Ro 12 hS60 <| Ro 13 hS60 <| Ro 14 hS60 <| Rt 15 hS60 <| Rt 16 hS60 <| Ro 17 hS60 <| Ro 18 hS60 <| ?_
 refine Ro 19 hS60 <| Rt 20 hS60 <| Rt 21 hS60 <| re <| tn <| rt <| tr <| rr (.bool false) <| ?_
 have hs : false = true := bft (pub_of hcM hX28) q63
 rw [hs]
 exact ⟨rfl, U62⟩
 have q49p := eq_of_bnei q49
 refine skn <| sq <| Rg 18 (fun w' => w'.cell? ⟨g10, 0, none⟩ = some (.int .u8 M.code)) fun w82 hu83 => ?_
 have r85 := ub hu83 r47
 refine hld (blk_at r85 rfl) fun hS84 => Rt 0 hS84 <| Rt 1 hS84 <| Rt 2 hS84 <| Rt 3 hS84 <| Rt 4 hS84 <| ?_
 have U86 := ut0 U48 hu83
 refine bla 72 ((pub7 M.code)) (fun q87 => ?_) (fun q87 => ?_)
 refine Rt 5 hS84 <| Rt 8 hS84 <| Rl 9 hS84 (fun _ hs => hs) <| ?_
 have U88 := ut0 hu46 hu83
 have r89 := own_stay rd41 U88 (fun x hx => not0) (fun _ _ h => h)
 refine x23 (RdB.at_ (r89).rd 0 (by omega)) fun b90 o91 hA92 hl93 hr94 => R0 6 rfl <| Oix l27.length 0 hA92 (by omega) <| hld (blk_at r85 rfl) fun hS95 => R0 7 rfl <| Old (p := ⟨b90, o91 + 0, none⟩) (v := .int .u8 (l27.getD 0 0)) hl93 <| hld (blk_at r85 rfl) fun hS96 => Rt 10 hS96 <| Rt 11 hS96 <| Rt 12 hS96 <| bla 80 (((l27.getD 0 0) == M.code)) (fun q97 => ?_) (fun q97 => ?_)
 have q97p := eq_of_beqi q97
 refine Rt 13 hS96 <| Rt 14 hS96 <| Rt 15 hS96 <| Rt 16 hS96 <| Rt 17 hS96 <| re <| tn <| rt <| rr (.bool (decide (((l27.length : Nat) : Int) ≤ 253))) <| ?_
 have hs : (decide (((l27.length : Nat) : Int) ≤ 253)) = true := decide_eq_true (by omega)
 rw [hs]
 exact ⟨rfl, U86⟩
 have q97p := ne_of_beqi q97
 refine Ro 13 hS96 <| Ro 14 hS96 <| Ro 15 hS96 <| Rt 16 hS96 <| Rt 17 hS96 <| re <| tn <| rt <| rr (.bool false) <| ?_
 have hs : false = true := by have z := first_ok hcM hX28 q49; omega
 rw [hs]
 exact ⟨rfl, U86⟩
 refine Ro 5 hS84 <| Ro 6 hS84 <| Ro 7 hS84 <| Ro 8 hS84 <| Ro 9 hS84 <| Ro 10 hS84 <| Rt 11 hS84 <| Rt 12 hS84 <| Ro 13 hS84 <| Ro 14 hS84 <| Ro 15 hS84 <| Rt 16 hS84 <| Rt 17 hS84 <| re <| ?_
 refine tn <| rt <| rr (.bool false) <| ?_
 have hs : false = true := bft (pub_of hcM hX28) q87
 rw [hs]
 exact ⟨rfl, U86⟩
 refine skn <| sg <| Pl 1 <| ?_
 have r98 := ub hu21 r17
 refine L0 <| Olw r98 <| ?_
 have r99 := MsgRd.old r19 hu21
 refine wo (pduW 0 M) (fun hX101 => ?_) (fun l100 hX101 => ?_)
 refine L0 <| Oc <| m1 (pdu_write_n hX101 r99 (fewB_few q23n)) fun w102 hu103 => Pl 5 <| nt <| sq <| sg <| Pl 7 <| nt <| c1 <| sg <| Pl 11 <| nl <| ?_
 refine tn <| rt <| tr <| rr (.bool true) <| ?_
 have U104 := ut0 U22 hu103
 exact ⟨rfl, U104⟩
 have hl105 := pduW_le (r99.rngs).1 hX101
 refine L0 <| Oc <| so2 (pdu_write_s hX101 r99 (fewB_few q23n)) fun A110 cp111 w106 rd114 hl112 hm113 hu109 => Pl 5 <| nt <| sq <| sg <| Pl 7 <| nt <| ?_
 have U115 := ut0 U22 hu109
 refine cb ((((l100.length : Nat) : Int) == 0)) (fun q116 => ?_) (fun q116 => ?_)
 have q116p := eq_of_beqi q116
 refine sg <| Pl 11 <| nt <| rt <| tr <| rr (.bool false) <| ?_
 have hs : false = true := by have z := pduW_pos hcM hX101; omega
 rw [hs]
 exact ⟨rfl, U115⟩
 have q116p := ne_of_beqi q116
 refine skn <| sg <| Pl 1 <| ?_
 have r117 := ub hu109 r98
 refine L0 <| Olb r117 0 <| L0 <| Oc <| m1 (pub7_any (x := M.code)) fun w118 hu119 => Pl 1 <| nt <| sq <| sg <| Pl 1 <| ?_
 have r120 := ub hu119 r117
 refine L0 <| Olb r120 1 <| Pl 1 <| nt <| ?_
 have U121 := ut0 U115 hu119
 refine cb ((M.fail != 0)) (fun q122 => ?_) (fun q122 => ?_)
 have q122p := ne_of_bnei q122
 refine sq <| Rg 22 (fun w' => True) fun w124 hu125 => hld trivial fun hS126 => Rt 0 hS126 <| Rt 1 hS126 <| Rt 2 hS126 <| Rt 3 hS126 <| Rt 4 hS126 <| ?_
 have U127 := ut0 U121 hu125
 refine bla 51 ((pub7 M.code)) (fun q128 => ?_) (fun q128 => ?_)
 refine Rt 5 hS126 <| Rt 6 hS126 <| Rt 7 hS126 <| sya 54 q24 <| Ro 8 hS126 <| Ro 9 hS126 <| Ro 10 hS126 <| Ro 11 hS126 <| Ro 12 hS126 <| Ro 13 hS126 <| Ro 14 hS126 <| Rt 15 hS126 <| Rt 16 hS126 <| Ro 17 hS126 <| ?_
 refine Ro 18 hS126 <| Ro 19 hS126 <| Rt 20 hS126 <| Rt 21 hS126 <| re <| tn <| rt <| tr <| rr (.bool false) <| ?_
 have hs : false = true := by have z := first_fail hcM hX101 q122; omega
 rw [hs]
 exact ⟨rfl, U127⟩
 refine Ro 5 hS126 <| Rt 6 hS126 <| Rt 7 hS126 <| Ro 8 hS126 <| Ro 9 hS126 <| Ro 10 hS126 <| Ro 11 hS126 <| Ro 12 hS126 <| Ro 13 hS126 <| Ro 14 hS126 <| Rt 15 hS126 <| Rt 16 hS126 <| Ro 17 hS126 <| Ro 18 hS126 <| ?_
 refine Ro 19 hS126 <| Rt 20 hS126 <| Rt 21 hS126 <| re <| tn <| rt <| tr <| rr (.bool false) <| ?_
 have hs : false = true := bft (pub_of hcM hX101) q128
 rw [hs]
 exact ⟨rfl, U127⟩
 have q122p := eq_of_bnei q122
 refine skn <| sq <| Rg 18 (fun w' => w'.cell? ⟨g10, 0, none⟩ = some (.int .u8 M.code)) fun w137 hu138 => ?_
 have r140 := ub hu138 r120
 refine hld (blk_at r140 rfl) fun hS139 => Rt 0 hS139 <| Rt 1 hS139 <| Rt 2 hS139 <| Rt 3 hS139 <| Rt 4 hS139 <| ?_
 have U141 := ut0 U121 hu138
 refine bla 72 ((pub7 M.code)) (fun q142 => ?_) (fun q142 => ?_)
 refine Rt 5 hS139 <| Rt 8 hS139 <| Rl 9 hS139 (fun _ hs => hs) <| ?_
 have U143 := ut0 hu119 hu138
 have r144 := own_stay rd114 U143 (fun x hx => not0) (fun _ _ h => h)
 refine x23 (RdB.at_ (r144).rd 0 (by omega)) fun b145 o146 hA147 hl148 hr149 => R0 6 rfl <| Oix l100.length 0 hA147 (by omega) <| hld (blk_at r140 rfl) fun hS150 => R0 7 rfl <| Old (p := ⟨b145, o146 + 0, none⟩) (v := .int .u8 (l100.getD 0 0)) hl148 <| hld (blk_at r140 rfl) fun hS151 => Rt 10 hS151 <| Rt 11 hS151 <| Rt 12 hS151 <| bla 80 (((l100.getD 0 0) == M.code)) (fun q152 => ?_) (fun q152 => ?_)
 have q152p := eq_of_beqi q152
 refine Rt 13 hS151 <| Rt 14 hS151 <| Rt 15 hS151 <| Rt 16 hS151 <| Rt 17 hS151 <| re <| tn <| rt <| rr (.bool (decide (((l100.length : Nat) : Int) ≤ 253))) <| ?_
 have hs : (decide (((l100.length : Nat) : Int) ≤ 253)) = true := decide_eq_true (by omega)
 rw [hs]
 exact ⟨rfl, U141⟩
 have q152p := ne_of_beqi q152
 refine Ro 13 hS151 <| Ro 14 hS151 <| Ro 15 hS151 <| Rt 16 hS151 <| Rt 17 hS151 <| re <| tn <| rt <| rr (.bool false) <| ?_
 have hs : false = true := by have z := first_ok hcM hX101 q122; omega
 rw [hs]
 exact ⟨rfl, U141⟩
 refine Ro 5 hS139 <| Ro 6 hS139 <| Ro 7 hS139 <| Ro 8 hS139 <| Ro 9 hS139 <| Ro 10 hS139 <| Rt 11 hS139 <| Rt 12 hS139 <| Ro 13 hS139 <| Ro 14 hS139 <| Ro 15 hS139 <| Rt 16 hS139 <| Rt 17 hS139 <| re <| ?_
 refine tn <| rt <| rr (.bool false) <| ?_
 have hs : false = true := bft (pub_of hcM hX101) q142
 rw [hs]
 exact ⟨rfl, U141⟩
end Go.Proofs.Ytbaeecmamacphaa
namespace Go.Proofs.Ytbaeecmamacphaa
open Go.ChangeShapes Go.WideShapes Go.ChangeAt Go.RowKit
theorem own : ownKnob Try.prog.godebug = none := by kernel_rfl
theorem laidOut : laidOutB Try.prog = true := by kernel_rfl
set_option maxRecDepth 100000 in
theorem lifted (os : Os) (started : os.Started) (H : Type) (enc : TypeId × Value → H) :
    ReturnsInHanded {} Try.checked os 7 .any (Rows.pduFirstSpec.pre6 enc Try.prog Try.f7 Rows.pduFirstRow.domain false) (Rows.pduFirstSpec.post enc Try.prog Try.f7 false true false false) := by
  refine returnsInHanded_of_change (C := Try.checked) own started (by kernel_rfl) Try.func7
    (ChangeSpec.witness6 (enc := enc) (C := Try.checked) false ⟨#[], #[.bool false, .agg mZ], []⟩ 8 (by kernel_rfl) (by kernel_rfl) (by kernel_rfl) (by kernel_rfl)) ?_
  intro W base args ds gs before hval0 hW hcnd _
  have hval : ∀ (j : Nat) t v, Try.f7.params[j]? = some t → args[j]? = some v → Value.okWide Try.prog W .any base t v := hval0
  have hW' := hW
  obtain ⟨p, q, hA0, hV, rfl, hfz, hnd⟩ := hW
  have hA : DataW.TrodAll enc Try.prog W 0 (fun _ => true) true Try.f7.params.toList args.toList ds p := hA0
  rw [Try.params7] at hA hval
  obtain ⟨v0, vs0, d0, ds0, p0, q0, hargs, rfl, rfl, h0, r0⟩ := trodAll_cons hA
  obtain ⟨v1, vs1, d1, ds1, p1, q1, rfl, rfl, rfl, h1, r1⟩ := trodAll_cons r0
  obtain ⟨rfl, rfl, rfl⟩ := trodAll_nil r1
  obtain rfl : args = #[v0, v1] := by cases args; simp_all
  obtain ⟨rfl, rfl⟩ := trodVars_none hV
  obtain ⟨a0, rfl, rfl, rfl⟩ := open_bool Try.underlying4 (hval 0 4 v0 rfl rfl) h0
  have k1 := h1
  have lt1 : ∀ x ∈ p1, x.block < W.heap.size := by obtain ⟨m, hm⟩ := k1; exact DataW.trod_lt m _ _ _ hm
  obtain ⟨c1, M1, rfl, R1⟩ := msg_arg ⟨_, hval 1 29 v1 rfl rfl⟩ h1
  clear hA0 hval0
  refine (lawPduFirst (ans := a0) R1).mono fun e W' ⟨he, hu⟩ => ?_
  have bel := upd_below hu
  subst he
  exact ⟨_, rfl, _, _, _, [], _, [], hW', trodAll_mk1 (shut_bool Try.underlying4 _), (trodAll_cons_mk (shut_bool Try.underlying4 _) (trodAll_cons_mk (Below.trod laidOut (by kernel_rfl) (of_decide_eq_true (by kernel_rfl)) k1 bel lt1) trodAll_mk0)), rfl, bel.frame _, fun h => by cases h⟩
theorem over : Rows.pduFirstRow.holds Try.pinned (OpenSpec.ofChange Rows.pduFirstSpec) :=
  OpenClaim.holds_of_wide 7 Try.f7 rfl rfl rfl rfl rfl rfl rfl ⟨rfl, rfl, rfl, rfl, rfl⟩ rfl rfl rfl rfl rfl (by kernel_rfl) Try.func7 (by kernel_rfl)
    (of_decide_eq_true (by kernel_rfl)) (by unfold Func.isWrapper; first | (rw [if_pos (by decide +kernel)]; kernel_rfl) | (rw [if_neg (by decide +kernel)]; exact ⟨rfl, rfl⟩))
    (fun os started H enc _ => lifted os started H enc)
theorem proved : Rows.PduFirstSaid := over
#print axioms proved
end Go.Proofs.Ytbaeecmamacphaa
