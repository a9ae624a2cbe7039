/- The statement RtuTurned holds; no condition of its own. -/
import Derived.Test.YtgjlbabefogepaaKA1
import Derived.Test.YtgjlbabefogepaaKA2
import Derived.Test.YtgjlbabefogepaaKA3
import Derived.Test.YtgjlbabefogepaaKA4
import Derived.Test.YtgjlbabefogepaaKA5
import Derived.Test.YtgjlbabefogepaaKB1
import Derived.Test.YtgjlbabefogepaaRows
import Derived.WalkKit
import Derived.ProofKit
import Derived.OpenShut
import Derived.ShutString
import Derived.ChangeOld
import Derived.Below
set_option linter.unusedVariables false
set_option linter.unusedSimpArgs false
namespace Go.Proofs.Ytgjlbabefogepaa
open Go.RowKit
set_option maxRecDepth 100000 in
set_option maxHeartbeats 4000000 in
theorem lawRtuTurned {w : World} {ans : Bool} {at_ by_ : Int} (hat : 0 ≤ at_ ∧ at_ < 65536) (hby : 0 ≤ by_ ∧ by_ < 256) {u t : Int} {M : Msg} {xM : SL} {mM : Bool} (hM : MsgRd mM w (mcl M xM).toList M) (hbu : 0 ≤ u ∧ u < 256) (hbt : 0 ≤ t ∧ t < 65536) :
    Calls Try.prog 4 #[.bool ans, .agg (fcl u t M xM), .int .u16 at_, .int .u8 by_] w (PVal (.bool true) w) := by
 have hRM := hM.rngs
 obtain ⟨hcM, hdM⟩ := hRM
 refine en 78 Try.func4 rfl <| sg <| L0 <| Obx (fcl u t M xM) fun g10 w11 hg12 B13 hu14 => Pl 1 <| ng <| L0 <| Oc <| m1 (@awake15 _) fun w15 hu16 => Pl 1 <| nt <| sq <| ?_
 refine go <| Pl 1 <| ?_
 have r17 := ub hu16 B13
 refine L0 <| Ola r17 2 22 <| ?_
 have U18 := ut0 hu14 hu16
 have r19 := MsgRd.old hM U18
 refine L0 <| Oc <| m1 (few_any r19) fun w20 hu21 => Pl 1 <| nt <| sq <| sg <| Pl 3 <| cu 3 [23] 26 (((!(fewB M)) || (by_ == 0))) (fun K K23 => ?_) ?_
 refine bl 23 ((!(fewB M))) (fun q22 => ?_) (fun q22 => ?_)
 have q22n : (fewB M) = false := by simpa using q22
 exact Pl 3 <| ce K23 true (by rw [q22]; rfl)
 have q22n : (fewB M) = true := by simpa using q22
 exact Pl 3 <| ce K23 (by_ == 0) (by rw [q22]; rfl)
 refine nt <| ?_
 have U24 := ut0 U18 hu21
 refine cb (((!(fewB M)) || (by_ == 0))) (fun q25 => ?_) (fun q25 => ?_)
 refine sg <| Pl 2 <| nt <| rt <| tr <| rr (.bool true) <| ?_
 exact ⟨rfl, U24⟩
 have q25a := (or_f q25).1
 have q25b := (or_f q25).2
 have q25an : (fewB M) = true := by simpa using q25a
 have q25bp := ne_of_beqi q25b
 refine skn <| sg <| Pl 1 <| nt <| sq <| sg <| Pl 1 <| nt <| cb (ans) (fun q26 => ?_) (fun q26 => ?_)
 refine go <| Pl 1 <| ng <| Pl 1 <| ?_
 have r27 := ub hu21 r17
 refine L0 <| Olw r27 <| ?_
 have r28 := MsgRd.old r19 hu21
 refine wo (rtuW 1 u t M) (fun hX30 => ?_) (fun l29 hX30 => ?_)
 refine L0 <| Oc <| m1 (rtu_write_n hX30 r28 (fewB_few q25an) (by omega) (by omega)) fun w31 hu32 => Pl 5 <| nt <| sq <| sg <| Pl 7 <| nt <| c1 <| sg <| Pl 6 <| nl <| ?_
 refine tn <| rt <| tr <| rr (.bool true) <| ?_
 have U33 := ut0 U24 hu32
 exact ⟨rfl, U33⟩
 have hl34 := rtuW_le (r28.rngs).1 hX30
 refine L0 <| Oc <| so2 (rtu_write_s hX30 r28 (fewB_few q25an) (by omega) (by omega)) fun A39 cp40 w35 rd43 hl41 hm42 hu38 => Pl 5 <| nt <| sq <| sg <| Pl 7 <| nt <| ?_
 have U44 := ut0 U24 hu38
 refine cb ((((l29.length : Nat) : Int) == 0)) (fun q45 => ?_) (fun q45 => ?_)
 have q45p := eq_of_beqi q45
 refine sg <| Pl 6 <| nt <| rt <| tr <| rr (.bool false) <| ?_
 have hs : false = true := by have y := rtuW_le hcM hX30; have q := eq_of_beqi q45; omega
 rw [hs]
 exact ⟨rfl, U44⟩
 have q45p := ne_of_beqi q45
 refine skn <| sg <| Pl 1 <| L0 <| Oi at_ <| Pl 2 <| ?_
 have hm46 := rem_rng (x := at_) (y := ((l29.length : Nat) : Int)) (by omega)
 refine L0 <| Or_ (.int .i64 (at_ % ((l29.length : Nat) : Int))) (run_rem rfl (by kernel_rfl) (by kernel_rfl) (by omega) (by omega)) <| Pl 1 <| ng <| Pl 4 <| x23 (RdB.at_ (rd43).rd (((at_ % ((l29.length : Nat) : Int))).toNat) (by omega)) fun b47 o48 hA49 hl50 hr51 => L0 <| Oixj l29.length (((at_ % ((l29.length : Nat) : Int))).toNat) (at_ % ((l29.length : Nat) : Int)) (by omega) hA49 (by omega) <| L0 <| Old (p := ⟨b47, o48 + ((at_ % ((l29.length : Nat) : Int))).toNat, none⟩) (v := .int .u8 (l29.getD (((at_ % ((l29.length : Nat) : Int))).toNat) 0)) hl50 <| Pl 1 <| ?_
 have hx52 := xi8 (a := (l29.getD (((at_ % ((l29.length : Nat) : Int))).toNat) 0)) (b := by_) (by omega) (by omega)
 refine L0 <| Oe (.int .u8 (bits .xor .u8 (l29.getD (((at_ % ((l29.length : Nat) : Int))).toNat) 0) by_)) (.int .u8 (xi (l29.getD (((at_ % ((l29.length : Nat) : Int))).toNat) 0) by_)) (congrArg (Value.int .u8) (xi_u8 (by omega) (by omega))) <| L0 <| Oixj l29.length (((at_ % ((l29.length : Nat) : Int))).toNat) (at_ % ((l29.length : Nat) : Int)) (by omega) hA49 (by omega) <| L0 <| Orow one_u8 (j := ((at_ % ((l29.length : Nat) : Int))).toNat) rd43 hA49 (by omega) (xi (l29.getD (((at_ % ((l29.length : Nat) : Int))).toNat) 0) by_) (fun _ => ⟨rfl, by omega⟩) fun w53 ho54 hu55 => ng <| Pl 2 <| ?_
 refine pr (rtuP 1 (l29.set (((at_ % ((l29.length : Nat) : Int))).toNat) (xi (l29.getD (((at_ % ((l29.length : Nat) : Int))).toNat) 0) by_))) fun F56 E57 hX58 => ?_
 refine L0 <| Oc <| e2 (rtu_parse_x hX58 (ho54).rd (by simp only [List.length_set]; omega)) fun x59 w60 hx65 hu64 => ?_
 obtain ⟨hM61, hF62, hF63⟩ := hx65
 refine Pl 3 <| L0 <| Oal #[.int .u8 0, .int .u16 0, .int .u8 0, .int .u8 0, .int .u16 0, .int .u16 0, .int .u16 0, .int .u16 0, .int .u16 0, .int .u16 0, .int .u16 0, .int .u16 0, .int .u16 0, .int .u16 0, .slice none 0 0, .slice none 0 0, .slice none 0 0, .slice none 0 0, .int .u8 0, .int .u8 0, .int .u8 0, .int .u8 0, .int .u8 0, .slice none 0 0] fun g66 w67 hg68 B69 hu70 => L0 <| Osw B69 (fcl F56.unit F56.tid F56.msg x59) fun w71 B72 hu73 => Pl 1 <| ng <| Pl 6 <| cu 5 [72] 77 (((E57 == 10) && ((F56.unit == 0) && (F56.tid == 0)))) (fun K K75 => ?_) ?_
 refine bl 72 ((E57 == 10)) (fun q74 => ?_) (fun q74 => ?_)
 have q74p := eq_of_beqi q74
 exact Pl 1 <| L1 <| Ola B72 0 2 <| Pl 1 <| L1 <| Or_ (.bool ((F56.unit == 0) && (F56.tid == 0))) (run_headeq F56.unit F56.tid 0 0 rfl (by kernel_rfl) (by kernel_rfl) rfl) <| Pl 1 <| ce K75 ((F56.unit == 0) && (F56.tid == 0)) (by rw [q74]; rfl)
 have q74p := ne_of_beqi q74
 exact Pl 5 <| ce K75 false (by rw [q74]; rfl)
 refine Pl 1 <| nt <| rt <| rr (.bool ((E57 == 10) && ((F56.unit == 0) && (F56.tid == 0)))) <| ?_
 have hs : ((E57 == 10) && ((F56.unit == 0) && (F56.tid == 0))) = true := by have y := rtuW_le hcM hX30; obtain ⟨z1, z2⟩ := rtu_turned (by decide) hcM hX30 (RdB.range (rd43).rd) (by omega) (by omega) hX58; subst z1 z2; rfl
 rw [hs]
 have U76 := ut U44 hu55 (all_app (ob_new rd43 U24.size) all0)
 have U77 := ut0 U76 hu64
 have U78 := ut0 U77 hu70
 have U79 := u1 U78 hu73 (ni U77.size hg68)
 exact ⟨rfl, U79⟩
 refine skn <| sg <| Pl 1 <| ?_
 have r80 := ub hu21 r17
 refine L0 <| Olw r80 <| ?_
 have r81 := MsgRd.old r19 hu21
 refine wo (rtuW 0 u t M) (fun hX83 => ?_) (fun l82 hX83 => ?_)
 refine L0 <| Oc <| m1 (rtu_write_n hX83 r81 (fewB_few q25an) (by omega) (by omega)) fun w84 hu85 => Pl 5 <| nt <| sq <| sg <| Pl 7 <| nt <| c1 <| sg <| Pl 6 <| nl <| ?_
 refine tn <| rt <| tr <| rr (.bool true) <| ?_
 have U86 := ut0 U24 hu85
 exact ⟨rfl, U86⟩
 have hl87 := rtuW_le (r81.rngs).1 hX83
 refine L0 <| Oc <| so2 (rtu_write_s hX83 r81 (fewB_few q25an) (by omega) (by omega)) fun A92 cp93 w88 rd96 hl94 hm95 hu91 => Pl 5 <| nt <| sq <| sg <| Pl 7 <| nt <| ?_
 have U97 := ut0 U24 hu91
 refine cb ((((l82.length : Nat) : Int) == 0)) (fun q98 => ?_) (fun q98 => ?_)
 have q98p := eq_of_beqi q98
 refine sg <| Pl 6 <| nt <| rt <| tr <| rr (.bool false) <| ?_
 have hs : false = true := by have y := rtuW_le hcM hX83; have q := eq_of_beqi q98; omega
 rw [hs]
 exact ⟨rfl, U97⟩
 have q98p := ne_of_beqi q98
 refine skn <| sg <| Pl 1 <| L0 <| Oi at_ <| Pl 2 <| ?_
 have hm99 := rem_rng (x := at_) (y := ((l82.length : Nat) : Int)) (by omega)
 refine L0 <| Or_ (.int .i64 (at_ % ((l82.length : Nat) : Int))) (run_rem rfl (by kernel_rfl) (by kernel_rfl) (by omega) (by omega)) <| Pl 1 <| ng <| Pl 4 <| x23 (RdB.at_ (rd96).rd (((at_ % ((l82.length : Nat) : Int))).toNat) (by omega)) fun b100 o101 hA102 hl103 hr104 => L0 <| Oixj l82.length (((at_ % ((l82.length : Nat) : Int))).toNat) (at_ % ((l82.length : Nat) : Int)) (by omega) hA102 (by omega) <| L0 <| Old (p := ⟨b100, o101 + ((at_ % ((l82.length : Nat) : Int))).toNat, none⟩) (v := .int .u8 (l82.getD (((at_ % ((l82.length : Nat) : Int))).toNat) 0)) hl103 <| Pl 1 <| ?_
 have hx105 := xi8 (a := (l82.getD (((at_ % ((l82.length : Nat) : Int))).toNat) 0)) (b := by_) (by omega) (by omega)
 refine L0 <| Oe (.int .u8 (bits .xor .u8 (l82.getD (((at_ % ((l82.length : Nat) : Int))).toNat) 0) by_)) (.int .u8 (xi (l82.getD (((at_ % ((l82.length : Nat) : Int))).toNat) 0) by_)) (congrArg (Value.int .u8) (xi_u8 (by omega) (by omega))) <| L0 <| Oixj l82.length (((at_ % ((l82.length : Nat) : Int))).toNat) (at_ % ((l82.length : Nat) : Int)) (by omega) hA102 (by omega) <| L0 <| Orow one_u8 (j := ((at_ % ((l82.length : Nat) : Int))).toNat) rd96 hA102 (by omega) (xi (l82.getD (((at_ % ((l82.length : Nat) : Int))).toNat) 0) by_) (fun _ => ⟨rfl, by omega⟩) fun w106 ho107 hu108 => ng <| Pl 2 <| ?_
 refine pr (rtuP 0 (l82.set (((at_ % ((l82.length : Nat) : Int))).toNat) (xi (l82.getD (((at_ % ((l82.length : Nat) : Int))).toNat) 0) by_))) fun F109 E110 hX111 => ?_
 refine L0 <| Oc <| e2 (rtu_parse_x hX111 (ho107).rd (by simp only [List.length_set]; omega)) fun x112 w113 hx118 hu117 => ?_
 obtain ⟨hM114, hF115, hF116⟩ := hx118
 refine Pl 3 <| L0 <| Oal #[.int .u8 0, .int .u16 0, .int .u8 0, .int .u8 0, .int .u16 0, .int .u16 0, .int .u16 0, .int .u16 0, .int .u16 0, .int .u16 0, .int .u16 0, .int .u16 0, .int .u16 0, .int .u16 0, .slice none 0 0, .slice none 0 0, .slice none 0 0, .slice none 0 0, .int .u8 0, .int .u8 0, .int .u8 0, .int .u8 0, .int .u8 0, .slice none 0 0] fun g119 w120 hg121 B122 hu123 => L0 <| Osw B122 (fcl F109.unit F109.tid F109.msg x112) fun w124 B125 hu126 => Pl 1 <| ng <| Pl 6 <| cu 5 [72] 77 (((E110 == 10) && ((F109.unit == 0) && (F109.tid == 0)))) (fun K K128 => ?_) ?_
 refine bl 72 ((E110 == 10)) (fun q127 => ?_) (fun q127 => ?_)
 have q127p := eq_of_beqi q127
 exact Pl 1 <| L1 <| Ola B125 0 2 <| Pl 1 <| L1 <| Or_ (.bool ((F109.unit == 0) && (F109.tid == 0))) (run_headeq F109.unit F109.tid 0 0 rfl (by kernel_rfl) (by kernel_rfl) rfl) <| Pl 1 <| ce K128 ((F109.unit == 0) && (F109.tid == 0)) (by rw [q127]; rfl)
 have q127p := ne_of_beqi q127
 exact Pl 5 <| ce K128 false (by rw [q127]; rfl)
 refine Pl 1 <| nt <| rt <| rr (.bool ((E110 == 10) && ((F109.unit == 0) && (F109.tid == 0)))) <| ?_
 have hs : ((E110 == 10) && ((F109.unit == 0) && (F109.tid == 0))) = true := by have y := rtuW_le hcM hX83; obtain ⟨z1, z2⟩ := rtu_turned (by decide) hcM hX83 (RdB.range (rd96).rd) (by omega) (by omega) hX111; subst z1 z2; rfl
 rw [hs]
 have U129 := ut U97 hu108 (all_app (ob_new rd96 U24.size) all0)
 have U130 := ut0 U129 hu117
 have U131 := ut0 U130 hu123
 have U132 := u1 U131 hu126 (ni U130.size hg121)
 exact ⟨rfl, U132⟩
end Go.Proofs.Ytgjlbabefogepaa
namespace Go.Proofs.Ytgjlbabefogepaa
open Go.ChangeShapes Go.WideShapes Go.ChangeAt Go.RowKit
theorem own : ownKnob Try.prog.godebug = none := by kernel_rfl
theorem laidOut : laidOutB Try.prog = true := by kernel_rfl
set_option maxRecDepth 100000 in
theorem lifted (os : Os) (started : os.Started) (H : Type) (enc : TypeId × Value → H) :
    ReturnsInHanded {} Try.checked os 4 .any (Rows.rtuTurnedSpec.pre6 enc Try.prog Try.f4 Rows.rtuTurnedRow.domain false) (Rows.rtuTurnedSpec.post enc Try.prog Try.f4 false true false false) := by
  refine returnsInHanded_of_change (C := Try.checked) own started (by kernel_rfl) Try.func4
    (ChangeSpec.witness6 (enc := enc) (C := Try.checked) false ⟨#[], #[.bool false, .agg #[.int .u8 0, .int .u16 0, .int .u8 0, .int .u8 0, .int .u16 0, .int .u16 0, .int .u16 0, .int .u16 0, .int .u16 0, .int .u16 0, .int .u16 0, .int .u16 0, .int .u16 0, .int .u16 0, .slice none 0 0, .slice none 0 0, .slice none 0 0, .slice none 0 0, .int .u8 0, .int .u8 0, .int .u8 0, .int .u8 0, .int .u8 0, .slice none 0 0], .int .u16 0, .int .u8 0], []⟩ 8 (by kernel_rfl) (by kernel_rfl) (by kernel_rfl) (by kernel_rfl)) ?_
  intro W base args ds gs before hval0 hW hcnd _
  have hval : ∀ (j : Nat) t v, Try.f4.params[j]? = some t → args[j]? = some v → Value.okWide Try.prog W .any base t v := hval0
  have hW' := hW
  obtain ⟨p, q, hA0, hV, rfl, hfz, hnd⟩ := hW
  have hA : DataW.TrodAll enc Try.prog W 0 (fun _ => true) true Try.f4.params.toList args.toList ds p := hA0
  rw [Try.params4] at hA hval
  obtain ⟨v0, vs0, d0, ds0, p0, q0, hargs, rfl, rfl, h0, r0⟩ := trodAll_cons hA
  obtain ⟨v1, vs1, d1, ds1, p1, q1, rfl, rfl, rfl, h1, r1⟩ := trodAll_cons r0
  obtain ⟨v2, vs2, d2, ds2, p2, q2, rfl, rfl, rfl, h2, r2⟩ := trodAll_cons r1
  obtain ⟨v3, vs3, d3, ds3, p3, q3, rfl, rfl, rfl, h3, r3⟩ := trodAll_cons r2
  obtain ⟨rfl, rfl, rfl⟩ := trodAll_nil r3
  obtain rfl : args = #[v0, v1, v2, v3] := by cases args; simp_all
  obtain ⟨rfl, rfl⟩ := trodVars_none hV
  obtain ⟨a0, rfl, rfl, rfl⟩ := open_bool Try.underlying4 (hval 0 4 v0 rfl rfl) h0
  have k1 := h1
  have lt1 : ∀ x ∈ p1, x.block < W.heap.size := by obtain ⟨m, hm⟩ := k1; exact DataW.trod_lt m _ _ _ hm
  obtain ⟨u1, t1, M1, x1, rfl, R1, bu1, bt1⟩ := frm_arg ⟨_, hval 1 41 v1 rfl rfl⟩ h1
  obtain ⟨a2, rfl, rfl, rfl, w2⟩ := open_int Try.underlying31 (hval 2 31 v2 rfl rfl) h2
  have b2 := bounds_u16 w2
  obtain ⟨a3, rfl, rfl, rfl, w3⟩ := open_int Try.underlying5 (hval 3 5 v3 rfl rfl) h3
  have b3 := bounds_u8 w3
  clear hA0 hval0
  refine (lawRtuTurned (ans := a0) (hat := (by omega)) (hby := (by omega)) R1 bu1 bt1).mono fun e W' ⟨he, hu⟩ => ?_
  have bel := upd_below hu
  subst he
  exact ⟨_, rfl, _, _, _, [], _, [], hW', trodAll_mk1 (shut_bool Try.underlying4 _), (trodAll_cons_mk (shut_bool Try.underlying4 _) (trodAll_cons_mk (Below.trod laidOut (by kernel_rfl) (of_decide_eq_true (by kernel_rfl)) k1 bel lt1) (trodAll_cons_mk (shut_int Try.underlying31 w2) (trodAll_cons_mk (shut_int Try.underlying5 w3) trodAll_mk0)))), rfl, bel.frame _, fun h => by cases h⟩
theorem over : Rows.rtuTurnedRow.holds Try.pinned (OpenSpec.ofChange Rows.rtuTurnedSpec) :=
  OpenClaim.holds_of_wide 4 Try.f4 rfl rfl rfl rfl rfl rfl rfl ⟨rfl, rfl, rfl, rfl, rfl⟩ rfl rfl rfl rfl rfl (by kernel_rfl) Try.func4 (by kernel_rfl)
    (of_decide_eq_true (by kernel_rfl)) (by unfold Func.isWrapper; first | (rw [if_pos (by decide +kernel)]; kernel_rfl) | (rw [if_neg (by decide +kernel)]; exact ⟨rfl, rfl⟩))
    (fun os started H enc _ => lifted os started H enc)
theorem proved : Rows.RtuTurnedSaid := over
#print axioms proved
end Go.Proofs.Ytgjlbabefogepaa
