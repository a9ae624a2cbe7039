/- The statement RtuUnits holds; no condition of its own. -/
import Derived.Test.YtgjlbabefogepaaGreatKA1
import Derived.Test.YtgjlbabefogepaaGreatKA2
import Derived.Test.YtgjlbabefogepaaGreatKA3
import Derived.Test.YtgjlbabefogepaaGreatKA4
import Derived.Test.YtgjlbabefogepaaGreatKA5
import Derived.Test.YtgjlbabefogepaaGreatKB1
import Derived.Test.YtgjlbabefogepaaGreatRows
import Derived.WalkKit
import Derived.ProofKit
import Derived.OpenShut
import Derived.ShutString
import Derived.ChangeOld
import Derived.Below
set_option linter.unusedVariables false
set_option linter.unusedSimpArgs false
namespace Go.Proofs.YtgjlbabefogepaaGreat
open Go.RowKit
theorem unit_true {a b : List Int} {u v : Int} (h : u = v → a = b) (k : a = b → u = v) : ((decide (a = b)) == (v == u)) = true := by
  by_cases e : u = v
  · rw [decide_eq_true (h e), e]; simp
  · rw [decide_eq_false (fun z => e (k z))]; simp; exact fun z => e z.symm
set_option maxRecDepth 100000 in
set_option maxHeartbeats 4000000 in
theorem lawRtuUnits {w : World} {ans : Bool} {unit : Int} (hunit : 0 ≤ unit ∧ unit < 256) {u t : Int} {M : Msg} {xM : SL} {mM : Bool} (hM : MsgRd mM w (mcl M xM).toList M) (hbu : 0 ≤ u ∧ u < 256) (hbt : 0 ≤ t ∧ t < 65536) :
    Calls Tryz.prog 6 #[.bool ans, .agg (fcl u t M xM), .int .u8 unit] w (PVal (.bool true) w) := by
 have hRM := hM.rngs
 obtain ⟨hcM, hdM⟩ := hRM
 refine en 96 Tryz.func6 rfl <| sg <| L0 <| Obx (fcl u t M xM) fun g10 w11 hg12 B13 hu14 => Pl 1 <| ng <| L0 <| Oc <| m1 (@awake15 _) fun w15 hu16 => Pl 1 <| nt <| sq <| ?_
 refine go <| Pl 1 <| ?_
 have r17 := ub hu16 B13
 refine L0 <| Ola r17 2 22 <| ?_
 have U18 := ut0 hu14 hu16
 have r19 := MsgRd.old hM U18
 refine L0 <| Oc <| m1 (few_any r19) fun w20 hu21 => Pl 1 <| nt <| sq <| sg <| Pl 2 <| nt <| ?_
 have U22 := ut0 U18 hu21
 refine cb ((!(fewB M))) (fun q23 => ?_) (fun q23 => ?_)
 have q23n : (fewB M) = false := by simpa using q23
 refine sg <| Pl 2 <| nt <| rt <| tr <| rr (.bool true) <| ?_
 exact ⟨rfl, U22⟩
 have q23n : (fewB M) = true := by simpa using q23
 refine skn <| sg <| Pl 1 <| nt <| sq <| sg <| Pl 1 <| nt <| cb (ans) (fun q24 => ?_) (fun q24 => ?_)
 refine go <| Pl 1 <| ng <| Pl 1 <| ?_
 have r25 := ub hu21 r17
 refine L0 <| Olw r25 <| ?_
 have r26 := MsgRd.old r19 hu21
 refine wo (rtuW 1 u t M) (fun hX28 => ?_) (fun l27 hX28 => ?_)
 refine L0 <| Oc <| m1 (rtu_write_n hX28 r26 (fewB_few q23n) (by omega) (by omega)) fun w29 hu30 => Pl 5 <| ng <| ?_
 have r31 := ub hu30 r25
 refine L0 <| Olw r31 <| L0 <| Oal #[.int .u8 0, .int .u16 0, .int .u8 0, .int .u8 0, .int .u16 0, .int .u16 0, .int .u16 0, .int .u16 0, .int .u16 0, .int .u16 0, .int .u16 0, .int .u16 0, .int .u16 0, .int .u16 0, .slice none 0 0, .slice none 0 0, .slice none 0 0, .slice none 0 0, .int .u8 0, .int .u8 0, .int .u8 0, .int .u8 0, .int .u8 0, .slice none 0 0] fun g32 w33 hg34 B35 hu36 => L0 <| Osw B35 (fcl u t M xM) fun w37 B38 hu39 => ng <| Pl 3 <| L0 <| Ost B38 0 (fcl unit t M xM) fun w40 B41 hu42 => ng <| Pl 1 <| L0 <| Olw B41 <| ?_
 have U43 := ut0 hu30 hu36
 have U44 := u1 U43 hu39 (ni hu30.size hg34)
 have U45 := u1 U44 hu42 (ni hu30.size hg34)
 have r46 := MsgRd.old r26 U45
 have U49 := ut0 U22 hu30
 have U50 := ut0 U49 hu36
 have U51 := u1 U50 hu39 (ni U49.size hg34)
 have U52 := u1 U51 hu42 (ni U49.size hg34)
 refine wo (rtuW 1 unit t M) (fun hX48 => ?_) (fun l47 hX48 => ?_)
 refine L0 <| Oc <| m1 (rtu_write_n hX48 r46 (fewB_few q23n) (by omega) (by omega)) fun w53 hu54 => Pl 5 <| nt <| sq <| sg <| Pl 7 <| nt <| c1 <| sg <| Pl 10 <| nl <| ?_
 refine tn <| rt <| tr <| rr (.bool true) <| ?_
 have U55 := ut0 U52 hu54
 exact ⟨rfl, U55⟩
 have hl56 := rtuW_le (r46.rngs).1 hX48
 refine L0 <| Oc <| so2 (rtu_write_s hX48 r46 (fewB_few q23n) (by omega) (by omega)) fun A61 cp62 w57 rd65 hl63 hm64 hu60 => Pl 5 <| nt <| sq <| sg <| Pl 7 <| nt <| c1 <| sg <| Pl 10 <| nl <| ?_
 refine tn <| rt <| tr <| rr (.bool false) <| ?_
 have hs : false = true := by have z := rtuW_none (u' := unit) hX28; rw [hX48] at z; cases z
 rw [hs]
 have U66 := ut0 U52 hu60
 exact ⟨rfl, U66⟩
 have hl67 := rtuW_le (r26.rngs).1 hX28
 refine L0 <| Oc <| so2 (rtu_write_s hX28 r26 (fewB_few q23n) (by omega) (by omega)) fun A72 cp73 w68 rd76 hl74 hm75 hu71 => Pl 5 <| ng <| ?_
 have r77 := ub hu71 r25
 refine L0 <| Olw r77 <| L0 <| Oal #[.int .u8 0, .int .u16 0, .int .u8 0, .int .u8 0, .int .u16 0, .int .u16 0, .int .u16 0, .int .u16 0, .int .u16 0, .int .u16 0, .int .u16 0, .int .u16 0, .int .u16 0, .int .u16 0, .slice none 0 0, .slice none 0 0, .slice none 0 0, .slice none 0 0, .int .u8 0, .int .u8 0, .int .u8 0, .int .u8 0, .int .u8 0, .slice none 0 0] fun g78 w79 hg80 B81 hu82 => L0 <| Osw B81 (fcl u t M xM) fun w83 B84 hu85 => ng <| Pl 3 <| L0 <| Ost B84 0 (fcl unit t M xM) fun w86 B87 hu88 => ng <| Pl 1 <| L0 <| Olw B87 <| ?_
 have U89 := ut0 hu71 hu82
 have U90 := u1 U89 hu85 (ni hu71.size hg80)
 have U91 := u1 U90 hu88 (ni hu71.size hg80)
 have r92 := MsgRd.old r26 U91
 have U95 := ut0 U22 hu71
 have U96 := ut0 U95 hu82
 have U97 := u1 U96 hu85 (ni U95.size hg80)
 have U98 := u1 U97 hu88 (ni U95.size hg80)
 refine wo (rtuW 1 unit t M) (fun hX94 => ?_) (fun l93 hX94 => ?_)
 refine L0 <| Oc <| m1 (rtu_write_n hX94 r92 (fewB_few q23n) (by omega) (by omega)) fun w99 hu100 => Pl 5 <| nt <| sq <| sg <| Pl 7 <| nt <| ?_
 have U101 := ut0 U98 hu100
 refine cb ((decide (((l27.length : Nat) : Int) < 4))) (fun q102 => ?_) (fun q102 => ?_)
 have q102p := of_decide_eq_true q102
 refine sg <| Pl 10 <| nt <| rt <| tr <| rr (.bool false) <| ?_
 have hs : false = true := by have z := rtuW_none (u' := u) hX94; rw [hX28] at z; cases z
 rw [hs]
 exact ⟨rfl, U101⟩
 have q102p := of_decide_eq_false q102
 refine skn <| sq <| sg <| Pl 9 <| nt <| c1 <| sg <| Pl 1 <| nt <| ?_
 refine rt <| tr <| rr (.bool false) <| ?_
 have hs : false = true := by have z := rtuW_none (u' := u) hX94; rw [hX28] at z; cases z
 rw [hs]
 exact ⟨rfl, U101⟩
 have hl103 := rtuW_le (r92.rngs).1 hX94
 refine L0 <| Oc <| so2 (rtu_write_s hX94 r92 (fewB_few q23n) (by omega) (by omega)) fun A108 cp109 w104 rd112 hl110 hm111 hu107 => Pl 5 <| nt <| sq <| sg <| Pl 7 <| nt <| ?_
 have U113 := ut0 U98 hu107
 refine cb ((decide (((l27.length : Nat) : Int) < 4))) (fun q114 => ?_) (fun q114 => ?_)
 have q114p := of_decide_eq_true q114
 refine sg <| Pl 10 <| nt <| rt <| tr <| rr (.bool false) <| ?_
 have hs : false = true := by obtain ⟨z1, z2, z3, z4, z5⟩ := rtu_unit hX28 hX94; have y := rtuW_le hcM hX28; omega
 rw [hs]
 exact ⟨rfl, U113⟩
 have q114p := of_decide_eq_false q114
 refine skn <| sq <| sg <| Pl 9 <| nt <| cb ((((l93.length : Nat) : Int) != ((l27.length : Nat) : Int))) (fun q115 => ?_) (fun q115 => ?_)
 have q115p := ne_of_bnei q115
 refine sg <| Pl 1 <| nt <| rt <| tr <| rr (.bool false) <| ?_
 have hs : false = true := by obtain ⟨z1, z2, z3, z4, z5⟩ := rtu_unit hX28 hX94; have y := rtuW_le hcM hX28; omega
 rw [hs]
 exact ⟨rfl, U113⟩
 have q115p := eq_of_bnei q115
 refine skn <| sg <| Pl 2 <| L0 <| Oi (((l27.length : Nat) : Int) - 2) <| Pl 1 <| nt <| sq <| x23 (RdB.at_ (rd112).rd 0 (by omega)) fun b140 o141 hA142 hl143 hr144 => Rg 29 (fun w' => w'.cell? ⟨b140, o141 + 0, none⟩ = some (.int .u8 (l93.getD 0 0)) ∧ w'.cell? ⟨g10, 0, none⟩ = some (.int .u8 u)) fun w164 hu165 => ?_
 have U167 := u1 hu82 hu85 (nr hg80)
 have U168 := u1 U167 hu88 (nr hg80)
 have U169 := ut0 U168 hu107
 have U170 := ut0 U169 hu165
 have r171 := ub U170 r77
 refine hld ⟨(uc hu165 hl143), (blk_at r171 rfl)⟩ fun hS166 => Rt 0 hS166 <| Rt 1 hS166 <| Rt 2 hS166 <| Ri1 3 hS166 l93.length 0 0 rfl hA142 (by omega) <| Rl 4 hS166 (fun _ hs => hs.1) <| Rt 5 hS166 <| Rt 6 hS166 <| Rt 7 hS166 <| Rt 8 hS166 <| ?_
 have U172 := ut0 U113 hu165
 refine bla 76 (((l93.getD 0 0) == unit)) (fun q173 => ?_) (fun q173 => ?_)
 have q173p := eq_of_beqi q173
 refine Rt 9 hS166 <| Rt 10 hS166 <| x12 (cut_lhI (P := Tryz.prog) 29 5 1 Tryz.underlying29 rfl rfl A72 l27.length cp73 (lo := 1) (up := (((l27.length : Nat) : Int) - 2)) 1 (((((l27.length : Nat) : Int) - 2)).toNat) (by omega) (by omega) (by omega) (by omega) (by omega)) fun A174 hrun175 hrd176 => Rr 11 hS166 (.slice A174 ((((((l27.length : Nat) : Int) - 2)).toNat) - 1) (cp73 - 1)) (fun _ _ => run_cutlh (kl := .i64) (kh := .i64) (lo := 1) (hi := (((l27.length : Nat) : Int) - 2)) (A := A72) (n := l27.length) (c := cp73) rfl Tryz.underlying29 (by kernel_rfl) (by kernel_rfl) (by kernel_rfl) (hrun175 _ _ _)) <| Rt 12 hS166 <| Rt 13 hS166 <| x12 (cut_lhI (P := Tryz.prog) 29 5 1 Tryz.underlying29 rfl rfl A108 l93.length cp109 (lo := 1) (up := (((l27.length : Nat) : Int) - 2)) 1 (((((l27.length : Nat) : Int) - 2)).toNat) (by omega) (by omega) (by omega) (by omega) (by omega)) fun A177 hrun178 hrd179 => Rr 14 hS166 (.slice A177 ((((((l27.length : Nat) : Int) - 2)).toNat) - 1) (cp109 - 1)) (fun _ _ => run_cutlh (kl := .i64) (kh := .i64) (lo := 1) (hi := (((l27.length : Nat) : Int) - 2)) (A := A108) (n := l93.length) (c := cp109) rfl Tryz.underlying29 (by kernel_rfl) (by kernel_rfl) (by kernel_rfl) (hrun178 _ _ _)) <| ?_
 have r180 := own_stay rd76 U170 (fun x hx => not0) (fun _ _ h => h)
 have r181 := own_stay rd112 hu165 (fun x hx => not0) (fun _ _ h => h)
 refine R0 15 rfl <| Oc (args := #[.slice A174 ((((((l27.length : Nat) : Int) - 2)).toNat) - 1) (cp73 - 1), .slice A177 ((((((l27.length : Nat) : Int) - 2)).toNat) - 1) (cp109 - 1)]) <| m1 (same1_any (xs := ((l27.take (((((l27.length : Nat) : Int) - 2)).toNat)).drop 1)) (ys := ((l93.take (((((l27.length : Nat) : Int) - 2)).toNat)).drop 1)) (hrd176 _ _ _ _ _ (r180).rd) (hrd179 _ _ _ _ _ (r181).rd)) fun w182 hu183 => ?_
 have U185 := ut0 hu165 hu183
 have r186 := ub hu183 r171
 refine hld ⟨(uc U185 hl143), (blk_at r186 rfl)⟩ fun hS184 => Rt 16 hS184 <| Rt 17 hS184 <| ?_
 have U187 := ut0 U172 hu183
 refine bla 85 ((decide (((l27.take (((((l27.length : Nat) : Int) - 2)).toNat)).drop 1) = ((l93.take (((((l27.length : Nat) : Int) - 2)).toNat)).drop 1)))) (fun q188 => ?_) (fun q188 => ?_)
 have q188p := of_decide_eq_true q188
 refine Rt 18 hS184 <| Rt 19 hS184 <| Rt 21 hS184 <| Rt 22 hS184 <| Rt 23 hS184 <| Rl 24 hS184 (fun _ hs => hs.2) <| Rt 25 hS184 <| ?_
 have r189 := own_stay r180 hu183 (fun x hx => not0) (fun _ _ h => h)
 have r190 := own_stay r181 hu183 (fun x hx => not0) (fun _ _ h => h)
 refine R0 20 rfl <| Oc (args := #[.slice A72 l27.length cp73, .slice A108 l93.length cp109]) <| m1 (same1_any (xs := l27) (ys := l93) (r189).rd (r190).rd) fun w191 hu192 => ?_
 have U194 := ut0 U185 hu192
 have r195 := ub hu192 r186
 refine hld ⟨(uc U194 hl143), (blk_at r195 rfl)⟩ fun hS193 => Rt 26 hS193 <| Rt 27 hS193 <| Rt 28 hS193 <| re <| tn <| rt <| rr (.bool ((decide (l27 = l93)) == (unit == u))) <| ?_
 have hs : ((decide (l27 = l93)) == (unit == u)) = true := by obtain ⟨z1, z2, z3, z4, z5⟩ := rtu_unit hX28 hX94; have y := rtuW_le hcM hX28; exact unit_true z4 z5
 rw [hs]
 have U196 := ut0 U187 hu192
 exact ⟨rfl, U196⟩
 have q188p := of_decide_eq_false q188
 refine Ro 18 hS184 <| Ro 19 hS184 <| Ro 20 hS184 <| Ro 21 hS184 <| Ro 22 hS184 <| Ro 23 hS184 <| Ro 24 hS184 <| Ro 25 hS184 <| Ro 26 hS184 <| Rt 27 hS184 <| Rt 28 hS184 <| re <| tn <| rt <| ?_
 refine rr (.bool false) <| ?_
 have hs : false = true := by obtain ⟨z1, z2, z3, z4, z5⟩ := rtu_unit hX28 hX94; have y := rtuW_le hcM hX28; rw [show (((l27.length : Nat) : Int) - 2).toNat = l27.length - 2 from by omega, decide_eq_true z3] at q188; cases q188
 rw [hs]
 exact ⟨rfl, U187⟩
 have q173p := ne_of_beqi q173
 refine Ro 9 hS166 <| Ro 10 hS166 <| Ro 11 hS166 <| Ro 12 hS166 <| Ro 13 hS166 <| Ro 14 hS166 <| Ro 15 hS166 <| Rt 16 hS166 <| Rt 17 hS166 <| Ro 18 hS166 <| Ro 19 hS166 <| Ro 20 hS166 <| Ro 21 hS166 <| Ro 22 hS166 <| ?_
 refine Ro 23 hS166 <| Ro 24 hS166 <| Ro 25 hS166 <| Ro 26 hS166 <| Rt 27 hS166 <| Rt 28 hS166 <| re <| tn <| rt <| rr (.bool false) <| ?_
 have hs : false = true := by obtain ⟨z1, z2, z3, z4, z5⟩ := rtu_unit hX28 hX94; have y := rtuW_le hcM hX28; rw [z2] at q173; simp at q173
 rw [hs]
 exact ⟨rfl, U172⟩
 refine skn <| sg <| Pl 1 <| ?_
 have r197 := ub hu21 r17
 refine L0 <| Olw r197 <| ?_
 have r198 := MsgRd.old r19 hu21
 refine wo (rtuW 0 u t M) (fun hX200 => ?_) (fun l199 hX200 => ?_)
 refine L0 <| Oc <| m1 (rtu_write_n hX200 r198 (fewB_few q23n) (by omega) (by omega)) fun w201 hu202 => Pl 5 <| ng <| ?_
 have r203 := ub hu202 r197
 refine L0 <| Olw r203 <| L0 <| Oal #[.int .u8 0, .int .u16 0, .int .u8 0, .int .u8 0, .int .u16 0, .int .u16 0, .int .u16 0, .int .u16 0, .int .u16 0, .int .u16 0, .int .u16 0, .int .u16 0, .int .u16 0, .int .u16 0, .slice none 0 0, .slice none 0 0, .slice none 0 0, .slice none 0 0, .int .u8 0, .int .u8 0, .int .u8 0, .int .u8 0, .int .u8 0, .slice none 0 0] fun g204 w205 hg206 B207 hu208 => L0 <| Osw B207 (fcl u t M xM) fun w209 B210 hu211 => ng <| Pl 3 <| L0 <| Ost B210 0 (fcl unit t M xM) fun w212 B213 hu214 => ng <| Pl 1 <| L0 <| Olw B213 <| ?_
 have U215 := ut0 hu202 hu208
 have U216 := u1 U215 hu211 (ni hu202.size hg206)
 have U217 := u1 U216 hu214 (ni hu202.size hg206)
 have r218 := MsgRd.old r198 U217
 have U221 := ut0 U22 hu202
 have U222 := ut0 U221 hu208
 have U223 := u1 U222 hu211 (ni U221.size hg206)
 have U224 := u1 U223 hu214 (ni U221.size hg206)
 refine wo (rtuW 0 unit t M) (fun hX220 => ?_) (fun l219 hX220 => ?_)
 refine L0 <| Oc <| m1 (rtu_write_n hX220 r218 (fewB_few q23n) (by omega) (by omega)) fun w225 hu226 => Pl 5 <| nt <| sq <| sg <| Pl 7 <| nt <| c1 <| sg <| Pl 10 <| nl <| ?_
 refine tn <| rt <| tr <| rr (.bool true) <| ?_
 have U227 := ut0 U224 hu226
 exact ⟨rfl, U227⟩
 have hl228 := rtuW_le (r218.rngs).1 hX220
 refine L0 <| Oc <| so2 (rtu_write_s hX220 r218 (fewB_few q23n) (by omega) (by omega)) fun A233 cp234 w229 rd237 hl235 hm236 hu232 => Pl 5 <| nt <| sq <| sg <| Pl 7 <| nt <| c1 <| sg <| Pl 10 <| nl <| ?_
 refine tn <| rt <| tr <| rr (.bool false) <| ?_
 have hs : false = true := by have z := rtuW_none (u' := unit) hX200; rw [hX220] at z; cases z
 rw [hs]
 have U238 := ut0 U224 hu232
 exact ⟨rfl, U238⟩
 have hl239 := rtuW_le (r198.rngs).1 hX200
 refine L0 <| Oc <| so2 (rtu_write_s hX200 r198 (fewB_few q23n) (by omega) (by omega)) fun A244 cp245 w240 rd248 hl246 hm247 hu243 => Pl 5 <| ng <| ?_
 have r249 := ub hu243 r197
 refine L0 <| Olw r249 <| L0 <| Oal #[.int .u8 0, .int .u16 0, .int .u8 0, .int .u8 0, .int .u16 0, .int .u16 0, .int .u16 0, .int .u16 0, .int .u16 0, .int .u16 0, .int .u16 0, .int .u16 0, .int .u16 0, .int .u16 0, .slice none 0 0, .slice none 0 0, .slice none 0 0, .slice none 0 0, .int .u8 0, .int .u8 0, .int .u8 0, .int .u8 0, .int .u8 0, .slice none 0 0] fun g250 w251 hg252 B253 hu254 => L0 <| Osw B253 (fcl u t M xM) fun w255 B256 hu257 => ng <| Pl 3 <| L0 <| Ost B256 0 (fcl unit t M xM) fun w258 B259 hu260 => ng <| Pl 1 <| L0 <| Olw B259 <| ?_
 have U261 := ut0 hu243 hu254
 have U262 := u1 U261 hu257 (ni hu243.size hg252)
 have U263 := u1 U262 hu260 (ni hu243.size hg252)
 have r264 := MsgRd.old r198 U263
 have U267 := ut0 U22 hu243
 have U268 := ut0 U267 hu254
 have U269 := u1 U268 hu257 (ni U267.size hg252)
 have U270 := u1 U269 hu260 (ni U267.size hg252)
 refine wo (rtuW 0 unit t M) (fun hX266 => ?_) (fun l265 hX266 => ?_)
 refine L0 <| Oc <| m1 (rtu_write_n hX266 r264 (fewB_few q23n) (by omega) (by omega)) fun w271 hu272 => Pl 5 <| nt <| sq <| sg <| Pl 7 <| nt <| ?_
 have U273 := ut0 U270 hu272
 refine cb ((decide (((l199.length : Nat) : Int) < 4))) (fun q274 => ?_) (fun q274 => ?_)
 have q274p := of_decide_eq_true q274
 refine sg <| Pl 10 <| nt <| rt <| tr <| rr (.bool false) <| ?_
 have hs : false = true := by have z := rtuW_none (u' := u) hX266; rw [hX200] at z; cases z
 rw [hs]
 exact ⟨rfl, U273⟩
 have q274p := of_decide_eq_false q274
 refine skn <| sq <| sg <| Pl 9 <| nt <| c1 <| sg <| Pl 1 <| nt <| ?_
 refine rt <| tr <| rr (.bool false) <| ?_
 have hs : false = true := by have z := rtuW_none (u' := u) hX266; rw [hX200] at z; cases z
 rw [hs]
 exact ⟨rfl, U273⟩
 have hl275 := rtuW_le (r264.rngs).1 hX266
 refine L0 <| Oc <| so2 (rtu_write_s hX266 r264 (fewB_few q23n) (by omega) (by omega)) fun A280 cp281 w276 rd284 hl282 hm283 hu279 => Pl 5 <| nt <| sq <| sg <| Pl 7 <| nt <| ?_
 have U285 := ut0 U270 hu279
 refine cb ((decide (((l199.length : Nat) : Int) < 4))) (fun q286 => ?_) (fun q286 => ?_)
 have q286p := of_decide_eq_true q286
 refine sg <| Pl 10 <| nt <| rt <| tr <| rr (.bool false) <| ?_
 have hs : false = true := by obtain ⟨z1, z2, z3, z4, z5⟩ := rtu_unit hX200 hX266; have y := rtuW_le hcM hX200; omega
 rw [hs]
 exact ⟨rfl, U285⟩
 have q286p := of_decide_eq_false q286
 refine skn <| sq <| sg <| Pl 9 <| nt <| cb ((((l265.length : Nat) : Int) != ((l199.length : Nat) : Int))) (fun q287 => ?_) (fun q287 => ?_)
 have q287p := ne_of_bnei q287
 refine sg <| Pl 1 <| nt <| rt <| tr <| rr (.bool false) <| ?_
 have hs : false = true := by obtain ⟨z1, z2, z3, z4, z5⟩ := rtu_unit hX200 hX266; have y := rtuW_le hcM hX200; omega
 rw [hs]
 exact ⟨rfl, U285⟩
 have q287p := eq_of_bnei q287
 refine skn <| sg <| Pl 2 <| L0 <| Oi (((l199.length : Nat) : Int) - 2) <| Pl 1 <| nt <| sq <| x23 (RdB.at_ (rd284).rd 0 (by omega)) fun b312 o313 hA314 hl315 hr316 => Rg 29 (fun w' => w'.cell? ⟨b312, o313 + 0, none⟩ = some (.int .u8 (l265.getD 0 0)) ∧ w'.cell? ⟨g10, 0, none⟩ = some (.int .u8 u)) fun w336 hu337 => ?_
 have U339 := u1 hu254 hu257 (nr hg252)
 have U340 := u1 U339 hu260 (nr hg252)
 have U341 := ut0 U340 hu279
 have U342 := ut0 U341 hu337
 have r343 := ub U342 r249
 refine hld ⟨(uc hu337 hl315), (blk_at r343 rfl)⟩ fun hS338 => Rt 0 hS338 <| Rt 1 hS338 <| Rt 2 hS338 <| Ri1 3 hS338 l265.length 0 0 rfl hA314 (by omega) <| Rl 4 hS338 (fun _ hs => hs.1) <| Rt 5 hS338 <| Rt 6 hS338 <| Rt 7 hS338 <| Rt 8 hS338 <| ?_
 have U344 := ut0 U285 hu337
 refine bla 76 (((l265.getD 0 0) == unit)) (fun q345 => ?_) (fun q345 => ?_)
 have q345p := eq_of_beqi q345
 refine Rt 9 hS338 <| Rt 10 hS338 <| x12 (cut_lhI (P := Tryz.prog) 29 5 1 Tryz.underlying29 rfl rfl A244 l199.length cp245 (lo := 1) (up := (((l199.length : Nat) : Int) - 2)) 1 (((((l199.length : Nat) : Int) - 2)).toNat) (by omega) (by omega) (by omega) (by omega) (by omega)) fun A346 hrun347 hrd348 => Rr 11 hS338 (.slice A346 ((((((l199.length : Nat) : Int) - 2)).toNat) - 1) (cp245 - 1)) (fun _ _ => run_cutlh (kl := .i64) (kh := .i64) (lo := 1) (hi := (((l199.length : Nat) : Int) - 2)) (A := A244) (n := l199.length) (c := cp245) rfl Tryz.underlying29 (by kernel_rfl) (by kernel_rfl) (by kernel_rfl) (hrun347 _ _ _)) <| Rt 12 hS338 <| Rt 13 hS338 <| x12 (cut_lhI (P := Tryz.prog) 29 5 1 Tryz.underlying29 rfl rfl A280 l265.length cp281 (lo := 1) (up := (((l199.length : Nat) : Int) - 2)) 1 (((((l199.length : Nat) : Int) - 2)).toNat) (by omega) (by omega) (by omega) (by omega) (by omega)) fun A349 hrun350 hrd351 => Rr 14 hS338 (.slice A349 ((((((l199.length : Nat) : Int) - 2)).toNat) - 1) (cp281 - 1)) (fun _ _ => run_cutlh (kl := .i64) (kh := .i64) (lo := 1) (hi := (((l199.length : Nat) : Int) - 2)) (A := A280) (n := l265.length) (c := cp281) rfl Tryz.underlying29 (by kernel_rfl) (by kernel_rfl) (by kernel_rfl) (hrun350 _ _ _)) <| ?_
 have r352 := own_stay rd248 U342 (fun x hx => not0) (fun _ _ h => h)
 have r353 := own_stay rd284 hu337 (fun x hx => not0) (fun _ _ h => h)
 refine R0 15 rfl <| Oc (args := #[.slice A346 ((((((l199.length : Nat) : Int) - 2)).toNat) - 1) (cp245 - 1), .slice A349 ((((((l199.length : Nat) : Int) - 2)).toNat) - 1) (cp281 - 1)]) <| m1 (same1_any (xs := ((l199.take (((((l199.length : Nat) : Int) - 2)).toNat)).drop 1)) (ys := ((l265.take (((((l199.length : Nat) : Int) - 2)).toNat)).drop 1)) (hrd348 _ _ _ _ _ (r352).rd) (hrd351 _ _ _ _ _ (r353).rd)) fun w354 hu355 => ?_
 have U357 := ut0 hu337 hu355
 have r358 := ub hu355 r343
 refine hld ⟨(uc U357 hl315), (blk_at r358 rfl)⟩ fun hS356 => Rt 16 hS356 <| Rt 17 hS356 <| ?_
 have U359 := ut0 U344 hu355
 refine bla 85 ((decide (((l199.take (((((l199.length : Nat) : Int) - 2)).toNat)).drop 1) = ((l265.take (((((l199.length : Nat) : Int) - 2)).toNat)).drop 1)))) (fun q360 => ?_) (fun q360 => ?_)
 have q360p := of_decide_eq_true q360
 refine Rt 18 hS356 <| Rt 19 hS356 <| Rt 21 hS356 <| Rt 22 hS356 <| Rt 23 hS356 <| Rl 24 hS356 (fun _ hs => hs.2) <| Rt 25 hS356 <| ?_
 have r361 := own_stay r352 hu355 (fun x hx => not0) (fun _ _ h => h)
 have r362 := own_stay r353 hu355 (fun x hx => not0) (fun _ _ h => h)
 refine R0 20 rfl <| Oc (args := #[.slice A244 l199.length cp245, .slice A280 l265.length cp281]) <| m1 (same1_any (xs := l199) (ys := l265) (r361).rd (r362).rd) fun w363 hu364 => ?_
 have U366 := ut0 U357 hu364
 have r367 := ub hu364 r358
 refine hld ⟨(uc U366 hl315), (blk_at r367 rfl)⟩ fun hS365 => Rt 26 hS365 <| Rt 27 hS365 <| Rt 28 hS365 <| re <| tn <| rt <| rr (.bool ((decide (l199 = l265)) == (unit == u))) <| ?_
 have hs : ((decide (l199 = l265)) == (unit == u)) = true := by obtain ⟨z1, z2, z3, z4, z5⟩ := rtu_unit hX200 hX266; have y := rtuW_le hcM hX200; exact unit_true z4 z5
 rw [hs]
 have U368 := ut0 U359 hu364
 exact ⟨rfl, U368⟩
 have q360p := of_decide_eq_false q360
 refine Ro 18 hS356 <| Ro 19 hS356 <| Ro 20 hS356 <| Ro 21 hS356 <| Ro 22 hS356 <| Ro 23 hS356 <| Ro 24 hS356 <| Ro 25 hS356 <| Ro 26 hS356 <| Rt 27 hS356 <| Rt 28 hS356 <| re <| tn <| rt <| ?_
 refine rr (.bool false) <| ?_
 have hs : false = true := by obtain ⟨z1, z2, z3, z4, z5⟩ := rtu_unit hX200 hX266; have y := rtuW_le hcM hX200; rw [show (((l199.length : Nat) : Int) - 2).toNat = l199.length - 2 from by omega, decide_eq_true z3] at q360; cases q360
 rw [hs]
 exact ⟨rfl, U359⟩
 have q345p := ne_of_beqi q345
 refine Ro 9 hS338 <| Ro 10 hS338 <| Ro 11 hS338 <| Ro 12 hS338 <| Ro 13 hS338 <| Ro 14 hS338 <| Ro 15 hS338 <| Rt 16 hS338 <| Rt 17 hS338 <| Ro 18 hS338 <| Ro 19 hS338 <| Ro 20 hS338 <| Ro 21 hS338 <| Ro 22 hS338 <| ?_
 refine Ro 23 hS338 <| Ro 24 hS338 <| Ro 25 hS338 <| Ro 26 hS338 <| Rt 27 hS338 <| Rt 28 hS338 <| re <| tn <| rt <| rr (.bool false) <| ?_
 have hs : false = true := by obtain ⟨z1, z2, z3, z4, z5⟩ := rtu_unit hX200 hX266; have y := rtuW_le hcM hX200; rw [z2] at q345; simp at q345
 rw [hs]
 exact ⟨rfl, U344⟩
end Go.Proofs.YtgjlbabefogepaaGreat
namespace Go.Proofs.YtgjlbabefogepaaGreat
open Go.ChangeShapes Go.WideShapes Go.ChangeAt Go.RowKit
theorem own : ownKnob Tryz.prog.godebug = none := by kernel_rfl
theorem laidOut : laidOutB Tryz.prog = true := by kernel_rfl
set_option maxRecDepth 100000 in
theorem lifted (os : Os) (started : os.Started) (H : Type) (enc : TypeId × Value → H) :
    ReturnsInHanded {} Tryz.checked os 6 .any (Rows.rtuUnitsSpec.pre6 enc Tryz.prog Tryz.f6 Rows.rtuUnitsRow.domain false) (Rows.rtuUnitsSpec.post enc Tryz.prog Tryz.f6 false true false false) := by
  refine returnsInHanded_of_change (C := Tryz.checked) own started (by kernel_rfl) Tryz.func6
    (ChangeSpec.witness6 (enc := enc) (C := Tryz.checked) false ⟨#[], #[.bool false, .agg #[.int .u8 0, .int .u16 0, .int .u8 0, .int .u8 0, .int .u16 0, .int .u16 0, .int .u16 0, .int .u16 0, .int .u16 0, .int .u16 0, .int .u16 0, .int .u16 0, .int .u16 0, .int .u16 0, .slice none 0 0, .slice none 0 0, .slice none 0 0, .slice none 0 0, .int .u8 0, .int .u8 0, .int .u8 0, .int .u8 0, .int .u8 0, .slice none 0 0], .int .u8 0], []⟩ 8 (by kernel_rfl) (by kernel_rfl) (by kernel_rfl) (by kernel_rfl)) ?_
  intro W base args ds gs before hval0 hW hcnd _
  have hval : ∀ (j : Nat) t v, Tryz.f6.params[j]? = some t → args[j]? = some v → Value.okWide Tryz.prog W .any base t v := hval0
  have hW' := hW
  obtain ⟨p, q, hA0, hV, rfl, hfz, hnd⟩ := hW
  have hA : DataW.TrodAll enc Tryz.prog W 0 (fun _ => true) true Tryz.f6.params.toList args.toList ds p := hA0
  rw [Tryz.params6] at hA hval
  obtain ⟨v0, vs0, d0, ds0, p0, q0, hargs, rfl, rfl, h0, r0⟩ := trodAll_cons hA
  obtain ⟨v1, vs1, d1, ds1, p1, q1, rfl, rfl, rfl, h1, r1⟩ := trodAll_cons r0
  obtain ⟨v2, vs2, d2, ds2, p2, q2, rfl, rfl, rfl, h2, r2⟩ := trodAll_cons r1
  obtain ⟨rfl, rfl, rfl⟩ := trodAll_nil r2
  obtain rfl : args = #[v0, v1, v2] := by cases args; simp_all
  obtain ⟨rfl, rfl⟩ := trodVars_none hV
  obtain ⟨a0, rfl, rfl, rfl⟩ := open_bool Tryz.underlying4 (hval 0 4 v0 rfl rfl) h0
  have k1 := h1
  have lt1 : ∀ x ∈ p1, x.block < W.heap.size := by obtain ⟨m, hm⟩ := k1; exact DataW.trod_lt m _ _ _ hm
  obtain ⟨u1, t1, M1, x1, rfl, R1, bu1, bt1⟩ := frm_arg ⟨_, hval 1 47 v1 rfl rfl⟩ h1
  obtain ⟨a2, rfl, rfl, rfl, w2⟩ := open_int Tryz.underlying5 (hval 2 5 v2 rfl rfl) h2
  have b2 := bounds_u8 w2
  clear hA0 hval0
  refine (lawRtuUnits (ans := a0) (hunit := (by omega)) R1 bu1 bt1).mono fun e W' ⟨he, hu⟩ => ?_
  have bel := upd_below hu
  subst he
  exact ⟨_, rfl, _, _, _, [], _, [], hW', trodAll_mk1 (shut_bool Tryz.underlying4 _), (trodAll_cons_mk (shut_bool Tryz.underlying4 _) (trodAll_cons_mk (Below.trod laidOut (by kernel_rfl) (of_decide_eq_true (by kernel_rfl)) k1 bel lt1) (trodAll_cons_mk (shut_int Tryz.underlying5 w2) trodAll_mk0))), rfl, bel.frame _, fun h => by cases h⟩
theorem over : Rows.rtuUnitsRow.holds Tryz.pinned (OpenSpec.ofChange Rows.rtuUnitsSpec) :=
  OpenClaim.holds_of_wide 6 Tryz.f6 rfl rfl rfl rfl rfl rfl rfl ⟨rfl, rfl, rfl, rfl, rfl⟩ rfl rfl rfl rfl rfl (by kernel_rfl) Tryz.func6 (by kernel_rfl)
    (of_decide_eq_true (by kernel_rfl)) (by unfold Func.isWrapper; first | (rw [if_pos (by decide +kernel)]; kernel_rfl) | (rw [if_neg (by decide +kernel)]; exact ⟨rfl, rfl⟩))
    (fun os started H enc _ => lifted os started H enc)
theorem proved : Rows.RtuUnitsSaid := over
#print axioms proved
end Go.Proofs.YtgjlbabefogepaaGreat
