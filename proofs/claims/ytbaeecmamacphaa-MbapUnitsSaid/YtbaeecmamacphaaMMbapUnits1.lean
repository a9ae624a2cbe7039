/- The statement MbapUnits holds; no condition of its own. -/
import Derived.Test.YtbaeecmamacphaaKA1
import Derived.Test.YtbaeecmamacphaaKA2
import Derived.Test.YtbaeecmamacphaaKA3
import Derived.Test.YtbaeecmamacphaaKA4
import Derived.Test.YtbaeecmamacphaaKA5
import Derived.Test.YtbaeecmamacphaaKB1
import Derived.Test.YtbaeecmamacphaaRows
import Derived.WalkKit
import Derived.ProofKit
import Derived.OpenShut
import Derived.ShutString
import Derived.ChangeOld
import Derived.Below
set_option linter.unusedVariables false
set_option linter.unusedSimpArgs false
namespace Go.Proofs.Ytbaeecmamacphaa
open Go.RowKit
set_option maxRecDepth 100000 in
set_option maxHeartbeats 4000000 in
theorem lawMbapUnits {w : World} {ans : Bool} {u t : Int} {M : Msg} {xM : SL} {mM : Bool} (hM : MsgRd mM w (mcl M xM).toList M) (hbu : 0 ≤ u ∧ u < 256) (hbt : 0 ≤ t ∧ t < 65536) :
    Calls Try.prog 12 #[.bool ans, .agg (fcl u t M xM)] w (PVal (.bool true) w) := by
 have hRM := hM.rngs
 obtain ⟨hcM, hdM⟩ := hRM
 refine en 94 Try.func12 rfl <| sg <| L0 <| Obx (fcl u t M xM) fun g10 w11 hg12 B13 hu14 => Pl 1 <| ng <| L0 <| Oc <| m1 (@awake17 _) fun w15 hu16 => Pl 1 <| nt <| sq <| ?_
 refine go <| Pl 1 <| ?_
 have r17 := ub hu16 B13
 refine L0 <| Ola r17 2 22 <| ?_
 have U18 := ut0 hu14 hu16
 have r19 := MsgRd.old hM U18
 refine L0 <| Oc <| m1 (few_any r19) fun w20 hu21 => Pl 1 <| nt <| sq <| sg <| Pl 2 <| nt <| ?_
 have U22 := ut0 U18 hu21
 refine cb ((!(fewB M))) (fun q23 => ?_) (fun q23 => ?_)
 have q23n : (fewB M) = false := by simpa using q23
 refine sg <| Pl 2 <| nt <| rt <| tr <| rr (.bool true) <| ?_
 exact ⟨rfl, U22⟩
 have q23n : (fewB M) = true := by simpa using q23
 refine skn <| sg <| Pl 1 <| nt <| sq <| sg <| Pl 1 <| nt <| cb (ans) (fun q24 => ?_) (fun q24 => ?_)
 refine go <| Pl 1 <| ng <| Pl 1 <| ?_
 have r25 := ub hu21 r17
 refine L0 <| Olw r25 <| ?_
 have r26 := MsgRd.old r19 hu21
 refine wo (mbapW 1 u t M) (fun hX28 => ?_) (fun l27 hX28 => ?_)
 refine L0 <| Oc <| m1 (mbap_write_n hX28 r26 (fewB_few q23n) (by omega) (by omega)) fun w29 hu30 => Pl 5 <| nt <| sq <| sg <| Pl 7 <| nt <| c1 <| sg <| Pl 6 <| nl <| ?_
 refine tn <| rt <| tr <| rr (.bool true) <| ?_
 have U31 := ut0 U22 hu30
 exact ⟨rfl, U31⟩
 have hl32 := mbapW_le (r26.rngs).1 hX28
 refine L0 <| Oc <| so2 (mbap_write_s hX28 r26 (fewB_few q23n) (by omega) (by omega)) fun A37 cp38 w33 rd41 hl39 hm40 hu36 => Pl 5 <| nt <| sq <| sg <| Pl 7 <| nt <| ?_
 have U42 := ut0 U22 hu36
 refine cb ((decide (((l27.length : Nat) : Int) < 8))) (fun q43 => ?_) (fun q43 => ?_)
 have q43p := of_decide_eq_true q43
 refine sg <| Pl 6 <| nt <| rt <| tr <| rr (.bool false) <| ?_
 have hs : false = true := by obtain ⟨z1, z2, z3, z4, z5⟩ := mbap_unit hcM hX28; have y := mbapW_le hcM hX28; omega
 rw [hs]
 exact ⟨rfl, U42⟩
 have q43p := of_decide_eq_false q43
 refine skn <| sq <| x23 (RdB.at_ (rd41).rd 6 (by omega)) fun b80 o81 hA82 hl83 hr84 => x23 (RdB.at_ (rd41).rd 2 (by omega)) fun b85 o86 hA87 hl88 hr89 => x23 (RdB.at_ (rd41).rd 3 (by omega)) fun b90 o91 hA92 hl93 hr94 => x23 (RdB.at_ (rd41).rd 4 (by omega)) fun b95 o96 hA97 hl98 hr99 => x23 (RdB.at_ (rd41).rd 5 (by omega)) fun b100 o101 hA102 hl103 hr104 => x23 (RdB.at_ (rd41).rd 7 (by omega)) fun b105 o106 hA107 hl108 hr109 => Rg 59 (fun w' => w'.cell? ⟨b80, o81 + 6, none⟩ = some (.int .u8 (l27.getD 6 0)) ∧ w'.cell? ⟨g10, 0, none⟩ = some (.int .u8 u) ∧ w'.cell? ⟨b85, o86 + 2, none⟩ = some (.int .u8 (l27.getD 2 0)) ∧ w'.cell? ⟨b90, o91 + 3, none⟩ = some (.int .u8 (l27.getD 3 0)) ∧ w'.cell? ⟨b95, o96 + 4, none⟩ = some (.int .u8 (l27.getD 4 0)) ∧ w'.cell? ⟨b100, o101 + 5, none⟩ = some (.int .u8 (l27.getD 5 0)) ∧ w'.cell? ⟨g10, 3, none⟩ = some (.int .u8 M.fail) ∧ w'.cell? ⟨b105, o106 + 7, none⟩ = some (.int .u8 (l27.getD 7 0)) ∧ w'.cell? ⟨g10, 2, none⟩ = some (.int .u8 M.code)) fun w116 hu117 => ?_
 have U119 := ut0 hu36 hu117
 have r120 := ub U119 r25
 refine hld ⟨(uc hu117 hl83), (blk_at r120 rfl), (uc hu117 hl88), (uc hu117 hl93), (uc hu117 hl98), (uc hu117 hl103), (blk_at r120 rfl), (uc hu117 hl108), (blk_at r120 rfl)⟩ fun hS118 => Rt 0 hS118 <| Rt 1 hS118 <| Rt 2 hS118 <| Ri1 3 hS118 l27.length 6 6 rfl hA82 (by omega) <| Rl 4 hS118 (fun _ hs => hs.1) <| Rt 5 hS118 <| Rt 6 hS118 <| Rl 7 hS118 (fun _ hs => hs.2.1) <| Rt 8 hS118 <| Rt 9 hS118 <| Rt 10 hS118 <| ?_
 have U121 := ut0 U42 hu117
 refine bla 46 (((l27.getD 6 0) == u)) (fun q122 => ?_) (fun q122 => ?_)
 have q122p := eq_of_beqi q122
 refine Rt 11 hS118 <| Ri1 12 hS118 l27.length 2 2 rfl hA87 (by omega) <| Rl 13 hS118 (fun _ hs => hs.2.2.1) <| Rt 14 hS118 <| Rt 15 hS118 <| Rt 16 hS118 <| bla 52 (((l27.getD 2 0) == 0)) (fun q123 => ?_) (fun q123 => ?_)
 have q123p := eq_of_beqi q123
 refine Rt 17 hS118 <| Ri1 18 hS118 l27.length 3 3 rfl hA92 (by omega) <| Rl 19 hS118 (fun _ hs => hs.2.2.2.1) <| Rt 20 hS118 <| Rt 21 hS118 <| Rt 22 hS118 <| bla 58 (((l27.getD 3 0) == 0)) (fun q124 => ?_) (fun q124 => ?_)
 have q124p := eq_of_beqi q124
 refine Rt 23 hS118 <| Ri1 24 hS118 l27.length 4 4 rfl hA97 (by omega) <| Rl 25 hS118 (fun _ hs => hs.2.2.2.2.1) <| Rr 26 hS118 (.int .i64 (l27.getD 4 0)) (fun _ _ => run_eqo (.int .i64 (IntKind.i64.wrap (l27.getD 4 0))) (by kernel_rfl) (congrArg (Value.int .i64) (i64_in (by omega)))) <| Rr 27 hS118 (.int .i64 (256 * (l27.getD 4 0))) (fun _ _ => run_eqo (.int .i64 (IntKind.i64.wrap (256 * (l27.getD 4 0)))) (by kernel_rfl) (congrArg (Value.int .i64) (IntWalk.i64_in _ (by omega)))) <| Rt 28 hS118 <| Ri1 29 hS118 l27.length 5 5 rfl hA102 (by omega) <| Rl 30 hS118 (fun _ hs => hs.2.2.2.2.2.1) <| Rr 31 hS118 (.int .i64 (l27.getD 5 0)) (fun _ _ => run_eqo (.int .i64 (IntKind.i64.wrap (l27.getD 5 0))) (by kernel_rfl) (congrArg (Value.int .i64) (i64_in (by omega)))) <| Rr 32 hS118 (.int .i64 ((256 * (l27.getD 4 0)) + (l27.getD 5 0))) (fun _ _ => run_eqo (.int .i64 (IntKind.i64.wrap ((256 * (l27.getD 4 0)) + (l27.getD 5 0)))) (by kernel_rfl) (congrArg (Value.int .i64) (IntWalk.i64_in _ (by omega)))) <| Rt 33 hS118 <| Rt 34 hS118 <| Rr 35 hS118 (.int .i64 (((l27.length : Nat) : Int) - 6)) (fun _ _ => run_eqo (.int .i64 (IntKind.i64.wrap (((l27.length : Nat) : Int) - 6))) (by kernel_rfl) (congrArg (Value.int .i64) (IntWalk.i64_in _ (by omega)))) <| Rt 36 hS118 <| ?_
 refine Rt 37 hS118 <| Rt 38 hS118 <| bla 74 ((((256 * (l27.getD 4 0)) + (l27.getD 5 0)) == (((l27.length : Nat) : Int) - 6))) (fun q125 => ?_) (fun q125 => ?_)
 have q125p := eq_of_beqi q125
 refine Rt 39 hS118 <| Rt 40 hS118 <| Rt 41 hS118 <| Rt 42 hS118 <| Rt 43 hS118 <| bla 79 ((decide (((l27.length : Nat) : Int) ≤ 260))) (fun q126 => ?_) (fun q126 => ?_)
 have q126p := of_decide_eq_true q126
 refine Rt 44 hS118 <| Rt 45 hS118 <| Rl 46 hS118 (fun _ hs => hs.2.2.2.2.2.2.1) <| Rt 47 hS118 <| Rt 48 hS118 <| bla 84 ((M.fail != 0)) (fun q127 => ?_) (fun q127 => ?_)
 have q127p := ne_of_bnei q127
 refine Ro 49 hS118 <| Ro 50 hS118 <| Ro 51 hS118 <| Ro 52 hS118 <| Ro 53 hS118 <| Ro 54 hS118 <| Ro 55 hS118 <| Rt 56 hS118 <| Rt 57 hS118 <| Rt 58 hS118 <| re <| tn <| rt <| rr (.bool true) <| ?_
 exact ⟨rfl, U121⟩
 have q127p := eq_of_bnei q127
 refine Rt 49 hS118 <| Ri1 50 hS118 l27.length 7 7 rfl hA107 (by omega) <| Rl 51 hS118 (fun _ hs => hs.2.2.2.2.2.2.2.1) <| Rt 52 hS118 <| Rt 53 hS118 <| Rl 54 hS118 (fun _ hs => hs.2.2.2.2.2.2.2.2) <| Rt 55 hS118 <| Rt 56 hS118 <| Rt 57 hS118 <| Rt 58 hS118 <| re <| tn <| rt <| rr (.bool ((l27.getD 7 0) == M.code)) <| ?_
 have hs : ((l27.getD 7 0) == M.code) = true := by obtain ⟨z1, z2, z3, z4, z5⟩ := mbap_unit hcM hX28; have y := mbapW_le hcM hX28; simp only [beq_iff_eq]; exact z5 q127
 rw [hs]
 exact ⟨rfl, U121⟩
 have q126p := of_decide_eq_false q126
 refine Ro 44 hS118 <| Ro 45 hS118 <| Ro 46 hS118 <| Ro 47 hS118 <| Ro 48 hS118 <| Ro 49 hS118 <| Ro 50 hS118 <| Ro 51 hS118 <| Ro 52 hS118 <| Ro 53 hS118 <| Ro 54 hS118 <| Ro 55 hS118 <| Ro 56 hS118 <| Rt 57 hS118 <| ?_
 refine Rt 58 hS118 <| re <| tn <| rt <| rr (.bool false) <| ?_
 have hs : false = true := by obtain ⟨z1, z2, z3, z4, z5⟩ := mbap_unit hcM hX28; have y := mbapW_le hcM hX28; omega
 rw [hs]
 exact ⟨rfl, U121⟩
 have q125p := ne_of_beqi q125
 refine Ro 39 hS118 <| Ro 40 hS118 <| Ro 41 hS118 <| Rt 42 hS118 <| Rt 43 hS118 <| Ro 44 hS118 <| Ro 45 hS118 <| Ro 46 hS118 <| Ro 47 hS118 <| Ro 48 hS118 <| Ro 49 hS118 <| Ro 50 hS118 <| Ro 51 hS118 <| Ro 52 hS118 <| ?_
 refine Ro 53 hS118 <| Ro 54 hS118 <| Ro 55 hS118 <| Ro 56 hS118 <| Rt 57 hS118 <| Rt 58 hS118 <| re <| tn <| rt <| rr (.bool false) <| ?_
 have hs : false = true := by obtain ⟨z1, z2, z3, z4, z5⟩ := mbap_unit hcM hX28; have y := mbapW_le hcM hX28; omega
 rw [hs]
 exact ⟨rfl, U121⟩
 have q124p := ne_of_beqi q124
 refine Ro 23 hS118 <| Ro 24 hS118 <| Ro 25 hS118 <| Ro 26 hS118 <| Ro 27 hS118 <| Ro 28 hS118 <| Ro 29 hS118 <| Ro 30 hS118 <| Ro 31 hS118 <| Ro 32 hS118 <| Ro 33 hS118 <| Ro 34 hS118 <| Ro 35 hS118 <| Ro 36 hS118 <| ?_
 refine Rt 37 hS118 <| Rt 38 hS118 <| Ro 39 hS118 <| Ro 40 hS118 <| Ro 41 hS118 <| Rt 42 hS118 <| Rt 43 hS118 <| Ro 44 hS118 <| Ro 45 hS118 <| Ro 46 hS118 <| Ro 47 hS118 <| Ro 48 hS118 <| Ro 49 hS118 <| Ro 50 hS118 <| ?_
 refine Ro 51 hS118 <| Ro 52 hS118 <| Ro 53 hS118 <| Ro 54 hS118 <| Ro 55 hS118 <| Ro 56 hS118 <| Rt 57 hS118 <| Rt 58 hS118 <| re <| tn <| rt <| rr (.bool false) <| ?_
 have hs : false = true := by obtain ⟨z1, z2, z3, z4, z5⟩ := mbap_unit hcM hX28; have y := mbapW_le hcM hX28; omega
 rw [hs]
 exact ⟨rfl, U121⟩
 have q123p := ne_of_beqi q123
 refine Ro 17 hS118 <| Ro 18 hS118 <| Ro 19 hS118 <| Ro 20 hS118 <| Rt 21 hS118 <| Rt 22 hS118 <| Ro 23 hS118 <| Ro 24 hS118 <| Ro 25 hS118 <| Ro 26 hS118 <| Ro 27 hS118 <| Ro 28 hS118 <| Ro 29 hS118 <| Ro 30 hS118 <| ?_
 refine Ro 31 hS118 <| Ro 32 hS118 <| Ro 33 hS118 <| Ro 34 hS118 <| Ro 35 hS118 <| Ro 36 hS118 <| Rt 37 hS118 <| Rt 38 hS118 <| Ro 39 hS118 <| Ro 40 hS118 <| Ro 41 hS118 <| Rt 42 hS118 <| Rt 43 hS118 <| Ro 44 hS118 <| ?_
 refine Ro 45 hS118 <| Ro 46 hS118 <| Ro 47 hS118 <| Ro 48 hS118 <| Ro 49 hS118 <| Ro 50 hS118 <| Ro 51 hS118 <| Ro 52 hS118 <| Ro 53 hS118 <| Ro 54 hS118 <| Ro 55 hS118 <| Ro 56 hS118 <| Rt 57 hS118 <| Rt 58 hS118 <| ?_
 refine re <| tn <| rt <| rr (.bool false) <| ?_
 have hs : false = true := by obtain ⟨z1, z2, z3, z4, z5⟩ := mbap_unit hcM hX28; have y := mbapW_le hcM hX28; omega
 rw [hs]
 exact ⟨rfl, U121⟩
 have q122p := ne_of_beqi q122
 refine Ro 11 hS118 <| Ro 12 hS118 <| Ro 13 hS118 <| Ro 14 hS118 <| Rt 15 hS118 <| Rt 16 hS118 <| Ro 17 hS118 <| Ro 18 hS118 <| Ro 19 hS118 <| Ro 20 hS118 <| Rt 21 hS118 <| Rt 22 hS118 <| Ro 23 hS118 <| Ro 24 hS118 <| ?_
 refine Ro 25 hS118 <| Ro 26 hS118 <| Ro 27 hS118 <| Ro 28 hS118 <| Ro 29 hS118 <| Ro 30 hS118 <| Ro 31 hS118 <| Ro 32 hS118 <| Ro 33 hS118 <| Ro 34 hS118 <| Ro 35 hS118 <| Ro 36 hS118 <| Rt 37 hS118 <| Rt 38 hS118 <| ?_
 refine Ro 39 hS118 <| Ro 40 hS118 <| Ro 41 hS118 <| Rt 42 hS118 <| Rt 43 hS118 <| Ro 44 hS118 <| Ro 45 hS118 <| Ro 46 hS118 <| Ro 47 hS118 <| Ro 48 hS118 <| Ro 49 hS118 <| Ro 50 hS118 <| Ro 51 hS118 <| Ro 52 hS118 <| ?_
 refine Ro 53 hS118 <| Ro 54 hS118 <| Ro 55 hS118 <| Ro 56 hS118 <| Rt 57 hS118 <| Rt 58 hS118 <| re <| tn <| rt <| rr (.bool false) <| ?_
 have hs : false = true := by obtain ⟨z1, z2, z3, z4, z5⟩ := mbap_unit hcM hX28; have y := mbapW_le hcM hX28; omega
 rw [hs]
 exact ⟨rfl, U121⟩
 refine skn <| sg <| Pl 1 <| ?_
 have r128 := ub hu21 r17
 refine L0 <| Olw r128 <| ?_
 have r129 := MsgRd.old r19 hu21
 refine wo (mbapW 0 u t M) (fun hX131 => ?_) (fun l130 hX131 => ?_)
 refine L0 <| Oc <| m1 (mbap_write_n hX131 r129 (fewB_few q23n) (by omega) (by omega)) fun w132 hu133 => Pl 5 <| nt <| sq <| sg <| Pl 7 <| nt <| c1 <| sg <| Pl 6 <| nl <| ?_
 refine tn <| rt <| tr <| rr (.bool true) <| ?_
 have U134 := ut0 U22 hu133
 exact ⟨rfl, U134⟩
 have hl135 := mbapW_le (r129.rngs).1 hX131
 refine L0 <| Oc <| so2 (mbap_write_s hX131 r129 (fewB_few q23n) (by omega) (by omega)) fun A140 cp141 w136 rd144 hl142 hm143 hu139 => Pl 5 <| nt <| sq <| sg <| Pl 7 <| nt <| ?_
 have U145 := ut0 U22 hu139
 refine cb ((decide (((l130.length : Nat) : Int) < 8))) (fun q146 => ?_) (fun q146 => ?_)
 have q146p := of_decide_eq_true q146
 refine sg <| Pl 6 <| nt <| rt <| tr <| rr (.bool false) <| ?_
 have hs : false = true := by obtain ⟨z1, z2, z3, z4, z5⟩ := mbap_unit hcM hX131; have y := mbapW_le hcM hX131; omega
 rw [hs]
 exact ⟨rfl, U145⟩
 have q146p := of_decide_eq_false q146
 refine skn <| sq <| x23 (RdB.at_ (rd144).rd 6 (by omega)) fun b183 o184 hA185 hl186 hr187 => x23 (RdB.at_ (rd144).rd 2 (by omega)) fun b188 o189 hA190 hl191 hr192 => x23 (RdB.at_ (rd144).rd 3 (by omega)) fun b193 o194 hA195 hl196 hr197 => x23 (RdB.at_ (rd144).rd 4 (by omega)) fun b198 o199 hA200 hl201 hr202 => x23 (RdB.at_ (rd144).rd 5 (by omega)) fun b203 o204 hA205 hl206 hr207 => x23 (RdB.at_ (rd144).rd 7 (by omega)) fun b208 o209 hA210 hl211 hr212 => Rg 59 (fun w' => w'.cell? ⟨b183, o184 + 6, none⟩ = some (.int .u8 (l130.getD 6 0)) ∧ w'.cell? ⟨g10, 0, none⟩ = some (.int .u8 u) ∧ w'.cell? ⟨b188, o189 + 2, none⟩ = some (.int .u8 (l130.getD 2 0)) ∧ w'.cell? ⟨b193, o194 + 3, none⟩ = some (.int .u8 (l130.getD 3 0)) ∧ w'.cell? ⟨b198, o199 + 4, none⟩ = some (.int .u8 (l130.getD 4 0)) ∧ w'.cell? ⟨b203, o204 + 5, none⟩ = some (.int .u8 (l130.getD 5 0)) ∧ w'.cell? ⟨g10, 3, none⟩ = some (.int .u8 M.fail) ∧ w'.cell? ⟨b208, o209 + 7, none⟩ = some (.int .u8 (l130.getD 7 0)) ∧ w'.cell? ⟨g10, 2, none⟩ = some (.int .u8 M.code)) fun w219 hu220 => ?_
 have U222 := ut0 hu139 hu220
 have r223 := ub U222 r128
 refine hld ⟨(uc hu220 hl186), (blk_at r223 rfl), (uc hu220 hl191), (uc hu220 hl196), (uc hu220 hl201), (uc hu220 hl206), (blk_at r223 rfl), (uc hu220 hl211), (blk_at r223 rfl)⟩ fun hS221 => Rt 0 hS221 <| Rt 1 hS221 <| Rt 2 hS221 <| Ri1 3 hS221 l130.length 6 6 rfl hA185 (by omega) <| Rl 4 hS221 (fun _ hs => hs.1) <| Rt 5 hS221 <| Rt 6 hS221 <| Rl 7 hS221 (fun _ hs => hs.2.1) <| Rt 8 hS221 <| Rt 9 hS221 <| Rt 10 hS221 <| ?_
 have U224 := ut0 U145 hu220
 refine bla 46 (((l130.getD 6 0) == u)) (fun q225 => ?_) (fun q225 => ?_)
 have q225p := eq_of_beqi q225
 refine Rt 11 hS221 <| Ri1 12 hS221 l130.length 2 2 rfl hA190 (by omega) <| Rl 13 hS221 (fun _ hs => hs.2.2.1) <| Rt 14 hS221 <| Rt 15 hS221 <| Rt 16 hS221 <| bla 52 (((l130.getD 2 0) == 0)) (fun q226 => ?_) (fun q226 => ?_)
 have q226p := eq_of_beqi q226
 refine Rt 17 hS221 <| Ri1 18 hS221 l130.length 3 3 rfl hA195 (by omega) <| Rl 19 hS221 (fun _ hs => hs.2.2.2.1) <| Rt 20 hS221 <| Rt 21 hS221 <| Rt 22 hS221 <| bla 58 (((l130.getD 3 0) == 0)) (fun q227 => ?_) (fun q227 => ?_)
 have q227p := eq_of_beqi q227
 refine Rt 23 hS221 <| Ri1 24 hS221 l130.length 4 4 rfl hA200 (by omega) <| Rl 25 hS221 (fun _ hs => hs.2.2.2.2.1) <| Rr 26 hS221 (.int .i64 (l130.getD 4 0)) (fun _ _ => run_eqo (.int .i64 (IntKind.i64.wrap (l130.getD 4 0))) (by kernel_rfl) (congrArg (Value.int .i64) (i64_in (by omega)))) <| Rr 27 hS221 (.int .i64 (256 * (l130.getD 4 0))) (fun _ _ => run_eqo (.int .i64 (IntKind.i64.wrap (256 * (l130.getD 4 0)))) (by kernel_rfl) (congrArg (Value.int .i64) (IntWalk.i64_in _ (by omega)))) <| Rt 28 hS221 <| Ri1 29 hS221 l130.length 5 5 rfl hA205 (by omega) <| Rl 30 hS221 (fun _ hs => hs.2.2.2.2.2.1) <| Rr 31 hS221 (.int .i64 (l130.getD 5 0)) (fun _ _ => run_eqo (.int .i64 (IntKind.i64.wrap (l130.getD 5 0))) (by kernel_rfl) (congrArg (Value.int .i64) (i64_in (by omega)))) <| Rr 32 hS221 (.int .i64 ((256 * (l130.getD 4 0)) + (l130.getD 5 0))) (fun _ _ => run_eqo (.int .i64 (IntKind.i64.wrap ((256 * (l130.getD 4 0)) + (l130.getD 5 0)))) (by kernel_rfl) (congrArg (Value.int .i64) (IntWalk.i64_in _ (by omega)))) <| Rt 33 hS221 <| Rt 34 hS221 <| Rr 35 hS221 (.int .i64 (((l130.length : Nat) : Int) - 6)) (fun _ _ => run_eqo (.int .i64 (IntKind.i64.wrap (((l130.length : Nat) : Int) - 6))) (by kernel_rfl) (congrArg (Value.int .i64) (IntWalk.i64_in _ (by omega)))) <| Rt 36 hS221 <| ?_
 refine Rt 37 hS221 <| Rt 38 hS221 <| bla 74 ((((256 * (l130.getD 4 0)) + (l130.getD 5 0)) == (((l130.length : Nat) : Int) - 6))) (fun q228 => ?_) (fun q228 => ?_)
 have q228p := eq_of_beqi q228
 refine Rt 39 hS221 <| Rt 40 hS221 <| Rt 41 hS221 <| Rt 42 hS221 <| Rt 43 hS221 <| bla 79 ((decide (((l130.length : Nat) : Int) ≤ 260))) (fun q229 => ?_) (fun q229 => ?_)
 have q229p := of_decide_eq_true q229
 refine Rt 44 hS221 <| Rt 45 hS221 <| Rl 46 hS221 (fun _ hs => hs.2.2.2.2.2.2.1) <| Rt 47 hS221 <| Rt 48 hS221 <| bla 84 ((M.fail != 0)) (fun q230 => ?_) (fun q230 => ?_)
 have q230p := ne_of_bnei q230
 refine Ro 49 hS221 <| Ro 50 hS221 <| Ro 51 hS221 <| Ro 52 hS221 <| Ro 53 hS221 <| Ro 54 hS221 <| Ro 55 hS221 <| Rt 56 hS221 <| Rt 57 hS221 <| Rt 58 hS221 <| re <| tn <| rt <| rr (.bool true) <| ?_
 exact ⟨rfl, U224⟩
 have q230p := eq_of_bnei q230
 refine Rt 49 hS221 <| Ri1 50 hS221 l130.length 7 7 rfl hA210 (by omega) <| Rl 51 hS221 (fun _ hs => hs.2.2.2.2.2.2.2.1) <| Rt 52 hS221 <| Rt 53 hS221 <| Rl 54 hS221 (fun _ hs => hs.2.2.2.2.2.2.2.2) <| Rt 55 hS221 <| Rt 56 hS221 <| Rt 57 hS221 <| Rt 58 hS221 <| re <| tn <| rt <| rr (.bool ((l130.getD 7 0) == M.code)) <| ?_
 have hs : ((l130.getD 7 0) == M.code) = true := by obtain ⟨z1, z2, z3, z4, z5⟩ := mbap_unit hcM hX131; have y := mbapW_le hcM hX131; simp only [beq_iff_eq]; exact z5 q230
 rw [hs]
 exact ⟨rfl, U224⟩
 have q229p := of_decide_eq_false q229
 refine Ro 44 hS221 <| Ro 45 hS221 <| Ro 46 hS221 <| Ro 47 hS221 <| Ro 48 hS221 <| Ro 49 hS221 <| Ro 50 hS221 <| Ro 51 hS221 <| Ro 52 hS221 <| Ro 53 hS221 <| Ro 54 hS221 <| Ro 55 hS221 <| Ro 56 hS221 <| Rt 57 hS221 <| ?_
 refine Rt 58 hS221 <| re <| tn <| rt <| rr (.bool false) <| ?_
 have hs : false = true := by obtain ⟨z1, z2, z3, z4, z5⟩ := mbap_unit hcM hX131; have y := mbapW_le hcM hX131; omega
 rw [hs]
 exact ⟨rfl, U224⟩
 have q228p := ne_of_beqi q228
 refine Ro 39 hS221 <| Ro 40 hS221 <| Ro 41 hS221 <| Rt 42 hS221 <| Rt 43 hS221 <| Ro 44 hS221 <| Ro 45 hS221 <| Ro 46 hS221 <| Ro 47 hS221 <| Ro 48 hS221 <| Ro 49 hS221 <| Ro 50 hS221 <| Ro 51 hS221 <| Ro 52 hS221 <| ?_
 refine Ro 53 hS221 <| Ro 54 hS221 <| Ro 55 hS221 <| Ro 56 hS221 <| Rt 57 hS221 <| Rt 58 hS221 <| re <| tn <| rt <| rr (.bool false) <| ?_
 have hs : false = true := by obtain ⟨z1, z2, z3, z4, z5⟩ := mbap_unit hcM hX131; have y := mbapW_le hcM hX131; omega
 rw [hs]
 exact ⟨rfl, U224⟩
 have q227p := ne_of_beqi q227
 refine Ro 23 hS221 <| Ro 24 hS221 <| Ro 25 hS221 <| Ro 26 hS221 <| Ro 27 hS221 <| Ro 28 hS221 <| Ro 29 hS221 <| Ro 30 hS221 <| Ro 31 hS221 <| Ro 32 hS221 <| Ro 33 hS221 <| Ro 34 hS221 <| Ro 35 hS221 <| Ro 36 hS221 <| ?_
 refine Rt 37 hS221 <| Rt 38 hS221 <| Ro 39 hS221 <| Ro 40 hS221 <| Ro 41 hS221 <| Rt 42 hS221 <| Rt 43 hS221 <| Ro 44 hS221 <| Ro 45 hS221 <| Ro 46 hS221 <| Ro 47 hS221 <| Ro 48 hS221 <| Ro 49 hS221 <| Ro 50 hS221 <| ?_
 refine Ro 51 hS221 <| Ro 52 hS221 <| Ro 53 hS221 <| Ro 54 hS221 <| Ro 55 hS221 <| Ro 56 hS221 <| Rt 57 hS221 <| Rt 58 hS221 <| re <| tn <| rt <| rr (.bool false) <| ?_
 have hs : false = true := by obtain ⟨z1, z2, z3, z4, z5⟩ := mbap_unit hcM hX131; have y := mbapW_le hcM hX131; omega
 rw [hs]
 exact ⟨rfl, U224⟩
 have q226p := ne_of_beqi q226
 refine Ro 17 hS221 <| Ro 18 hS221 <| Ro 19 hS221 <| Ro 20 hS221 <| Rt 21 hS221 <| Rt 22 hS221 <| Ro 23 hS221 <| Ro 24 hS221 <| Ro 25 hS221 <| Ro 26 hS221 <| Ro 27 hS221 <| Ro 28 hS221 <| Ro 29 hS221 <| Ro 30 hS221 <| ?_
 refine Ro 31 hS221 <| Ro 32 hS221 <| Ro 33 hS221 <| Ro 34 hS221 <| Ro 35 hS221 <| Ro 36 hS221 <| Rt 37 hS221 <| Rt 38 hS221 <| Ro 39 hS221 <| Ro 40 hS221 <| Ro 41 hS221 <| Rt 42 hS221 <| Rt 43 hS221 <| Ro 44 hS221 <| ?_
 refine Ro 45 hS221 <| Ro 46 hS221 <| Ro 47 hS221 <| Ro 48 hS221 <| Ro 49 hS221 <| Ro 50 hS221 <| Ro 51 hS221 <| Ro 52 hS221 <| Ro 53 hS221 <| Ro 54 hS221 <| Ro 55 hS221 <| Ro 56 hS221 <| Rt 57 hS221 <| Rt 58 hS221 <| ?_
 refine re <| tn <| rt <| rr (.bool false) <| ?_
 have hs : false = true := by obtain ⟨z1, z2, z3, z4, z5⟩ := mbap_unit hcM hX131; have y := mbapW_le hcM hX131; omega
 rw [hs]
 exact ⟨rfl, U224⟩
 have q225p := ne_of_beqi q225
 refine Ro 11 hS221 <| Ro 12 hS221 <| Ro 13 hS221 <| Ro 14 hS221 <| Rt 15 hS221 <| Rt 16 hS221 <| Ro 17 hS221 <| Ro 18 hS221 <| Ro 19 hS221 <| Ro 20 hS221 <| Rt 21 hS221 <| Rt 22 hS221 <| Ro 23 hS221 <| Ro 24 hS221 <| ?_
 refine Ro 25 hS221 <| Ro 26 hS221 <| Ro 27 hS221 <| Ro 28 hS221 <| Ro 29 hS221 <| Ro 30 hS221 <| Ro 31 hS221 <| Ro 32 hS221 <| Ro 33 hS221 <| Ro 34 hS221 <| Ro 35 hS221 <| Ro 36 hS221 <| Rt 37 hS221 <| Rt 38 hS221 <| ?_
 refine Ro 39 hS221 <| Ro 40 hS221 <| Ro 41 hS221 <| Rt 42 hS221 <| Rt 43 hS221 <| Ro 44 hS221 <| Ro 45 hS221 <| Ro 46 hS221 <| Ro 47 hS221 <| Ro 48 hS221 <| Ro 49 hS221 <| Ro 50 hS221 <| Ro 51 hS221 <| Ro 52 hS221 <| ?_
 refine Ro 53 hS221 <| Ro 54 hS221 <| Ro 55 hS221 <| Ro 56 hS221 <| Rt 57 hS221 <| Rt 58 hS221 <| re <| tn <| rt <| rr (.bool false) <| ?_
 have hs : false = true := by obtain ⟨z1, z2, z3, z4, z5⟩ := mbap_unit hcM hX131; have y := mbapW_le hcM hX131; omega
 rw [hs]
 exact ⟨rfl, U224⟩
end Go.Proofs.Ytbaeecmamacphaa
namespace Go.Proofs.Ytbaeecmamacphaa
open Go.ChangeShapes Go.WideShapes Go.ChangeAt Go.RowKit
theorem own : ownKnob Try.prog.godebug = none := by kernel_rfl
theorem laidOut : laidOutB Try.prog = true := by kernel_rfl
set_option maxRecDepth 100000 in
theorem lifted (os : Os) (started : os.Started) (H : Type) (enc : TypeId × Value → H) :
    ReturnsInHanded {} Try.checked os 12 .any (Rows.mbapUnitsSpec.pre6 enc Try.prog Try.f12 Rows.mbapUnitsRow.domain false) (Rows.mbapUnitsSpec.post enc Try.prog Try.f12 false true false false) := by
  refine returnsInHanded_of_change (C := Try.checked) own started (by kernel_rfl) Try.func12
    (ChangeSpec.witness6 (enc := enc) (C := Try.checked) false ⟨#[], #[.bool false, .agg #[.int .u8 0, .int .u16 0, .int .u8 0, .int .u8 0, .int .u16 0, .int .u16 0, .int .u16 0, .int .u16 0, .int .u16 0, .int .u16 0, .int .u16 0, .int .u16 0, .int .u16 0, .int .u16 0, .slice none 0 0, .slice none 0 0, .slice none 0 0, .slice none 0 0, .int .u8 0, .int .u8 0, .int .u8 0, .int .u8 0, .int .u8 0, .slice none 0 0]], []⟩ 8 (by kernel_rfl) (by kernel_rfl) (by kernel_rfl) (by kernel_rfl)) ?_
  intro W base args ds gs before hval0 hW hcnd _
  have hval : ∀ (j : Nat) t v, Try.f12.params[j]? = some t → args[j]? = some v → Value.okWide Try.prog W .any base t v := hval0
  have hW' := hW
  obtain ⟨p, q, hA0, hV, rfl, hfz, hnd⟩ := hW
  have hA : DataW.TrodAll enc Try.prog W 0 (fun _ => true) true Try.f12.params.toList args.toList ds p := hA0
  rw [Try.params12] at hA hval
  obtain ⟨v0, vs0, d0, ds0, p0, q0, hargs, rfl, rfl, h0, r0⟩ := trodAll_cons hA
  obtain ⟨v1, vs1, d1, ds1, p1, q1, rfl, rfl, rfl, h1, r1⟩ := trodAll_cons r0
  obtain ⟨rfl, rfl, rfl⟩ := trodAll_nil r1
  obtain rfl : args = #[v0, v1] := by cases args; simp_all
  obtain ⟨rfl, rfl⟩ := trodVars_none hV
  obtain ⟨a0, rfl, rfl, rfl⟩ := open_bool Try.underlying4 (hval 0 4 v0 rfl rfl) h0
  have k1 := h1
  have lt1 : ∀ x ∈ p1, x.block < W.heap.size := by obtain ⟨m, hm⟩ := k1; exact DataW.trod_lt m _ _ _ hm
  obtain ⟨u1, t1, M1, x1, rfl, R1, bu1, bt1⟩ := frm_arg ⟨_, hval 1 48 v1 rfl rfl⟩ h1
  clear hA0 hval0
  refine (lawMbapUnits (ans := a0) R1 bu1 bt1).mono fun e W' ⟨he, hu⟩ => ?_
  have bel := upd_below hu
  subst he
  exact ⟨_, rfl, _, _, _, [], _, [], hW', trodAll_mk1 (shut_bool Try.underlying4 _), (trodAll_cons_mk (shut_bool Try.underlying4 _) (trodAll_cons_mk (Below.trod laidOut (by kernel_rfl) (of_decide_eq_true (by kernel_rfl)) k1 bel lt1) trodAll_mk0)), rfl, bel.frame _, fun h => by cases h⟩
theorem over : Rows.mbapUnitsRow.holds Try.pinned (OpenSpec.ofChange Rows.mbapUnitsSpec) :=
  OpenClaim.holds_of_wide 12 Try.f12 rfl rfl rfl rfl rfl rfl rfl ⟨rfl, rfl, rfl, rfl, rfl⟩ rfl rfl rfl rfl rfl (by kernel_rfl) Try.func12 (by kernel_rfl)
    (of_decide_eq_true (by kernel_rfl)) (by unfold Func.isWrapper; first | (rw [if_pos (by decide +kernel)]; kernel_rfl) | (rw [if_neg (by decide +kernel)]; exact ⟨rfl, rfl⟩))
    (fun os started H enc _ => lifted os started H enc)
theorem proved : Rows.MbapUnitsSaid := over
#print axioms proved
end Go.Proofs.Ytbaeecmamacphaa
