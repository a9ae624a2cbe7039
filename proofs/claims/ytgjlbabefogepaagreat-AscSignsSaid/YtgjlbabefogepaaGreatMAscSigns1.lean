/- The statement AscSigns holds; no condition of its own. -/
import Derived.Test.YtgjlbabefogepaaGreatKA1
import Derived.Test.YtgjlbabefogepaaGreatKA2
import Derived.Test.YtgjlbabefogepaaGreatKA3
import Derived.Test.YtgjlbabefogepaaGreatKA4
import Derived.Test.YtgjlbabefogepaaGreatKA5
import Derived.Test.YtgjlbabefogepaaGreatKB1
import Derived.Test.YtgjlbabefogepaaGreatRows
import Derived.WalkKit
import Derived.ProofKit
import Derived.OpenShut
import Derived.ShutString
import Derived.ChangeOld
import Derived.Below
set_option linter.unusedVariables false
set_option linter.unusedSimpArgs false
namespace Go.Proofs.YtgjlbabefogepaaGreat
open Go.RowKit
set_option maxRecDepth 100000 in
set_option maxHeartbeats 4000000 in
theorem lawAscSigns {w : World} {ans : Bool} {at_ c : Int} (hat : 0 ≤ at_ ∧ at_ < 65536) (hc : 0 ≤ c ∧ c < 256) {u t : Int} {M : Msg} {xM : SL} {mM : Bool} (hM : MsgRd mM w (mcl M xM).toList M) (hbu : 0 ≤ u ∧ u < 256) (hbt : 0 ≤ t ∧ t < 65536) :
    Calls Tryz.prog 14 #[.bool ans, .agg (fcl u t M xM), .int .u16 at_, .int .u8 c] w (PVal (.bool true) w) := by
 have hRM := hM.rngs
 obtain ⟨hcM, hdM⟩ := hRM
 refine en 90 Tryz.func14 rfl <| sg <| L0 <| Obx (fcl u t M xM) fun g10 w11 hg12 B13 hu14 => Pl 1 <| ng <| L0 <| Oc <| m1 (@awake16 _) fun w15 hu16 => Pl 1 <| nt <| sq <| ?_
 refine go <| Pl 1 <| ?_
 have r17 := ub hu16 B13
 refine L0 <| Ola r17 2 22 <| ?_
 have U18 := ut0 hu14 hu16
 have r19 := MsgRd.old hM U18
 refine L0 <| Oc <| m1 (few_any r19) fun w20 hu21 => Pl 1 <| nt <| sq <| sg <| Pl 2 <| nt <| ?_
 have U22 := ut0 U18 hu21
 refine cb ((!(fewB M))) (fun q23 => ?_) (fun q23 => ?_)
 have q23n : (fewB M) = false := by simpa using q23
 refine sg <| Pl 2 <| nt <| rt <| tr <| rr (.bool true) <| ?_
 exact ⟨rfl, U22⟩
 have q23n : (fewB M) = true := by simpa using q23
 refine skn <| sg <| Pl 1 <| nt <| sq <| sg <| Pl 1 <| nt <| cb (ans) (fun q24 => ?_) (fun q24 => ?_)
 refine go <| Pl 1 <| ng <| Pl 1 <| ?_
 have r25 := ub hu21 r17
 refine L0 <| Olw r25 <| ?_
 have r26 := MsgRd.old r19 hu21
 refine wo (ascW 1 u t M) (fun hX28 => ?_) (fun l27 hX28 => ?_)
 refine L0 <| Oc <| m1 (asc_write_n hX28 r26 (fewB_few q23n) (by omega) (by omega)) fun w29 hu30 => Pl 5 <| nt <| sq <| sg <| Pl 7 <| nt <| c1 <| sg <| Pl 6 <| nl <| ?_
 refine tn <| rt <| tr <| rr (.bool true) <| ?_
 have U31 := ut0 U22 hu30
 exact ⟨rfl, U31⟩
 have hl32 := ascW_le (r26.rngs).1 hX28
 refine L0 <| Oc <| e2 (asc_write_s hX28 r26 (fewB_few q23n) (by omega) (by omega)) fun v34 w33 ho35 hu36 => ?_
 rcases OwnF.shape ho35 with ⟨g37, cp38, rfl⟩
 rcases RdG.shape (ho35).rd with ⟨_, _, e39, hl40, hm41⟩
 injection e39 with _ _ e39
 rw [← e39] at hl40 hm41
 refine Pl 5 <| nt <| sq <| sg <| Pl 7 <| nt <| ?_
 have U42 := ut0 U22 hu36
 refine cb ((((l27.length : Nat) : Int) == 0)) (fun q43 => ?_) (fun q43 => ?_)
 have q43p := eq_of_beqi q43
 refine sg <| Pl 6 <| nt <| rt <| tr <| rr (.bool false) <| ?_
 have hs : false = true := by have y := ascW_le hcM hX28; have q := eq_of_beqi q43; omega
 rw [hs]
 exact ⟨rfl, U42⟩
 have q43p := ne_of_beqi q43
 refine skn <| sg <| Pl 1 <| L0 <| Oi at_ <| Pl 2 <| ?_
 have hm44 := rem_rng (x := at_) (y := ((l27.length : Nat) : Int)) (by omega)
 refine L0 <| Or_ (.int .i64 (at_ % ((l27.length : Nat) : Int))) (run_rem rfl (by kernel_rfl) (by kernel_rfl) (by omega) (by omega)) <| Pl 1 <| ng <| Pl 2 <| x23 (RdB.at_ (ho35).rd (((at_ % ((l27.length : Nat) : Int))).toNat) (by omega)) fun b45 o46 hA47 hl48 hr49 => L0 <| Oixj l27.length (((at_ % ((l27.length : Nat) : Int))).toNat) (at_ % ((l27.length : Nat) : Int)) (by omega) hA47 (by omega) <| L0 <| Old (p := ⟨b45, o46 + ((at_ % ((l27.length : Nat) : Int))).toNat, none⟩) (v := .int .u8 (l27.getD (((at_ % ((l27.length : Nat) : Int))).toNat) 0)) hl48 <| Pl 3 <| nt <| sq <| ?_
 refine go <| Pl 3 <| L0 <| Oixj l27.length (((at_ % ((l27.length : Nat) : Int))).toNat) (at_ % ((l27.length : Nat) : Int)) (by omega) hA47 (by omega) <| L0 <| OstF (j := ((at_ % ((l27.length : Nat) : Int))).toNat) ho35 hA47 (by omega) c (by omega) fun w50 ho51 hu52 => ?_
 have hu53 : Upd [g37] w33 w50 := hu52
 refine ng <| Pl 2 <| ?_
 refine pr (ascP 1 (l27.set (((at_ % ((l27.length : Nat) : Int))).toNat) c)) fun F54 E55 hX56 => ?_
 refine L0 <| Oc <| e2 (asc_parse_x hX56 (ho51).rd (by simp only [List.length_set]; omega)) fun x57 w58 hx63 hu62 => ?_
 obtain ⟨hM59, hF60, hF61⟩ := hx63
 refine Pl 3 <| L0 <| Oal #[.int .u8 0, .int .u16 0, .int .u8 0, .int .u8 0, .int .u16 0, .int .u16 0, .int .u16 0, .int .u16 0, .int .u16 0, .int .u16 0, .int .u16 0, .int .u16 0, .int .u16 0, .int .u16 0, .slice none 0 0, .slice none 0 0, .slice none 0 0, .slice none 0 0, .int .u8 0, .int .u8 0, .int .u8 0, .int .u8 0, .int .u8 0, .slice none 0 0] fun g64 w65 hg66 B67 hu68 => L0 <| Osw B67 (fcl F54.unit F54.tid F54.msg x57) fun w69 B70 hu71 => Pl 1 <| nt <| sq <| sg <| Pl 1 <| nt <| ?_
 have U72 := u1 U42 hu53 (ni U22.size (OwnF.ge ho35))
 have U73 := ut0 U72 hu62
 have U74 := ut0 U73 hu68
 have U75 := u1 U74 hu71 (ni U73.size hg66)
 refine cb (((l27.getD (((at_ % ((l27.length : Nat) : Int))).toNat) 0) == c)) (fun q76 => ?_) (fun q76 => ?_)
 have q76p := eq_of_beqi q76
 refine sg <| Pl 6 <| nt <| rt <| tr <| rr (.bool (E55 == 0)) <| ?_
 have hs : (E55 == 0) = true := by have y := ascW_le hcM hX28; have q := eq_of_beqi q76; have z0 := hX56; rw [← q, set_same (by omega)] at z0; have z := asc_rt2 (by decide) hbu hcM hdM (fun l hz => pduW_byts hM (fewB_few q23n) l hz) hX28 z0; rw [z.2]; rfl
 rw [hs]
 exact ⟨rfl, U75⟩
 have q76p := ne_of_beqi q76
 refine skn <| sg <| Pl 5 <| cu 3 [75] 78 (((E55 == 12) || (E55 == 11))) (fun K K78 => ?_) ?_
 refine bl 75 ((E55 == 12)) (fun q77 => ?_) (fun q77 => ?_)
 have q77p := eq_of_beqi q77
 exact Pl 3 <| ce K78 true (by rw [q77]; rfl)
 have q77p := ne_of_beqi q77
 exact Pl 3 <| ce K78 (E55 == 11) (by rw [q77]; rfl)
 refine Pl 1 <| cu 3 [79] 82 ((((E55 == 12) || (E55 == 11)) || (E55 == 10))) (fun K K80 => ?_) ?_
 refine bl 79 (((E55 == 12) || (E55 == 11))) (fun q79 => ?_) (fun q79 => ?_)
 exact Pl 3 <| ce K80 true (by rw [q79]; rfl)
 have q79a := (or_f q79).1
 have q79b := (or_f q79).2
 have q79ap := ne_of_beqi q79a
 have q79bp := ne_of_beqi q79b
 exact Pl 3 <| ce K80 (E55 == 10) (by rw [q79]; rfl)
 refine Pl 2 <| cu 5 [84] 89 (((((E55 == 12) || (E55 == 11)) || (E55 == 10)) && ((F54.unit == 0) && (F54.tid == 0)))) (fun K K82 => ?_) ?_
 refine bl 84 ((((E55 == 12) || (E55 == 11)) || (E55 == 10))) (fun q81 => ?_) (fun q81 => ?_)
 exact Pl 1 <| L1 <| Ola B70 0 2 <| Pl 1 <| L1 <| Or_ (.bool ((F54.unit == 0) && (F54.tid == 0))) (run_headeq F54.unit F54.tid 0 0 rfl (by kernel_rfl) (by kernel_rfl) rfl) <| Pl 1 <| ce K82 ((F54.unit == 0) && (F54.tid == 0)) (by rw [q81]; rfl)
 have q81a := (or_f q81).1
 have q81b := (or_f q81).2
 have q81aa := (or_f q81a).1
 have q81ab := (or_f q81a).2
 have q81aap := ne_of_beqi q81aa
 have q81abp := ne_of_beqi q81ab
 have q81bp := ne_of_beqi q81b
 exact Pl 5 <| ce K82 false (by rw [q81]; rfl)
 refine Pl 1 <| nt <| rt <| rr (.bool ((((E55 == 12) || (E55 == 11)) || (E55 == 10)) && ((F54.unit == 0) && (F54.tid == 0)))) <| ?_
 have hs : ((((E55 == 12) || (E55 == 11)) || (E55 == 10)) && ((F54.unit == 0) && (F54.tid == 0))) = true := by have y := ascW_le hcM hX28; obtain ⟨z1, z2⟩ := asc_sign (by decide) hbu hcM (fun l hz => pduW_byts hM (fewB_few q23n) l hz) hX28 (by omega) (fun e => ne_of_beqi q76 e.symm) hX56; subst z1; rcases z2 with rfl | rfl | rfl <;> rfl
 rw [hs]
 exact ⟨rfl, U75⟩
 refine skn <| sg <| Pl 1 <| ?_
 have r83 := ub hu21 r17
 refine L0 <| Olw r83 <| ?_
 have r84 := MsgRd.old r19 hu21
 refine wo (ascW 0 u t M) (fun hX86 => ?_) (fun l85 hX86 => ?_)
 refine L0 <| Oc <| m1 (asc_write_n hX86 r84 (fewB_few q23n) (by omega) (by omega)) fun w87 hu88 => Pl 5 <| nt <| sq <| sg <| Pl 7 <| nt <| c1 <| sg <| Pl 6 <| nl <| ?_
 refine tn <| rt <| tr <| rr (.bool true) <| ?_
 have U89 := ut0 U22 hu88
 exact ⟨rfl, U89⟩
 have hl90 := ascW_le (r84.rngs).1 hX86
 refine L0 <| Oc <| e2 (asc_write_s hX86 r84 (fewB_few q23n) (by omega) (by omega)) fun v92 w91 ho93 hu94 => ?_
 rcases OwnF.shape ho93 with ⟨g95, cp96, rfl⟩
 rcases RdG.shape (ho93).rd with ⟨_, _, e97, hl98, hm99⟩
 injection e97 with _ _ e97
 rw [← e97] at hl98 hm99
 refine Pl 5 <| nt <| sq <| sg <| Pl 7 <| nt <| ?_
 have U100 := ut0 U22 hu94
 refine cb ((((l85.length : Nat) : Int) == 0)) (fun q101 => ?_) (fun q101 => ?_)
 have q101p := eq_of_beqi q101
 refine sg <| Pl 6 <| nt <| rt <| tr <| rr (.bool false) <| ?_
 have hs : false = true := by have y := ascW_le hcM hX86; have q := eq_of_beqi q101; omega
 rw [hs]
 exact ⟨rfl, U100⟩
 have q101p := ne_of_beqi q101
 refine skn <| sg <| Pl 1 <| L0 <| Oi at_ <| Pl 2 <| ?_
 have hm102 := rem_rng (x := at_) (y := ((l85.length : Nat) : Int)) (by omega)
 refine L0 <| Or_ (.int .i64 (at_ % ((l85.length : Nat) : Int))) (run_rem rfl (by kernel_rfl) (by kernel_rfl) (by omega) (by omega)) <| Pl 1 <| ng <| Pl 2 <| x23 (RdB.at_ (ho93).rd (((at_ % ((l85.length : Nat) : Int))).toNat) (by omega)) fun b103 o104 hA105 hl106 hr107 => L0 <| Oixj l85.length (((at_ % ((l85.length : Nat) : Int))).toNat) (at_ % ((l85.length : Nat) : Int)) (by omega) hA105 (by omega) <| L0 <| Old (p := ⟨b103, o104 + ((at_ % ((l85.length : Nat) : Int))).toNat, none⟩) (v := .int .u8 (l85.getD (((at_ % ((l85.length : Nat) : Int))).toNat) 0)) hl106 <| Pl 3 <| nt <| sq <| ?_
 refine go <| Pl 3 <| L0 <| Oixj l85.length (((at_ % ((l85.length : Nat) : Int))).toNat) (at_ % ((l85.length : Nat) : Int)) (by omega) hA105 (by omega) <| L0 <| OstF (j := ((at_ % ((l85.length : Nat) : Int))).toNat) ho93 hA105 (by omega) c (by omega) fun w108 ho109 hu110 => ?_
 have hu111 : Upd [g95] w91 w108 := hu110
 refine ng <| Pl 2 <| ?_
 refine pr (ascP 0 (l85.set (((at_ % ((l85.length : Nat) : Int))).toNat) c)) fun F112 E113 hX114 => ?_
 refine L0 <| Oc <| e2 (asc_parse_x hX114 (ho109).rd (by simp only [List.length_set]; omega)) fun x115 w116 hx121 hu120 => ?_
 obtain ⟨hM117, hF118, hF119⟩ := hx121
 refine Pl 3 <| L0 <| Oal #[.int .u8 0, .int .u16 0, .int .u8 0, .int .u8 0, .int .u16 0, .int .u16 0, .int .u16 0, .int .u16 0, .int .u16 0, .int .u16 0, .int .u16 0, .int .u16 0, .int .u16 0, .int .u16 0, .slice none 0 0, .slice none 0 0, .slice none 0 0, .slice none 0 0, .int .u8 0, .int .u8 0, .int .u8 0, .int .u8 0, .int .u8 0, .slice none 0 0] fun g122 w123 hg124 B125 hu126 => L0 <| Osw B125 (fcl F112.unit F112.tid F112.msg x115) fun w127 B128 hu129 => Pl 1 <| nt <| sq <| sg <| Pl 1 <| nt <| ?_
 have U130 := u1 U100 hu111 (ni U22.size (OwnF.ge ho93))
 have U131 := ut0 U130 hu120
 have U132 := ut0 U131 hu126
 have U133 := u1 U132 hu129 (ni U131.size hg124)
 refine cb (((l85.getD (((at_ % ((l85.length : Nat) : Int))).toNat) 0) == c)) (fun q134 => ?_) (fun q134 => ?_)
 have q134p := eq_of_beqi q134
 refine sg <| Pl 6 <| nt <| rt <| tr <| rr (.bool (E113 == 0)) <| ?_
 have hs : (E113 == 0) = true := by have y := ascW_le hcM hX86; have q := eq_of_beqi q134; have z0 := hX114; rw [← q, set_same (by omega)] at z0; have z := asc_rt2 (by decide) hbu hcM hdM (fun l hz => pduW_byts hM (fewB_few q23n) l hz) hX86 z0; rw [z.2]; rfl
 rw [hs]
 exact ⟨rfl, U133⟩
 have q134p := ne_of_beqi q134
 refine skn <| sg <| Pl 5 <| cu 3 [75] 78 (((E113 == 12) || (E113 == 11))) (fun K K136 => ?_) ?_
 refine bl 75 ((E113 == 12)) (fun q135 => ?_) (fun q135 => ?_)
 have q135p := eq_of_beqi q135
 exact Pl 3 <| ce K136 true (by rw [q135]; rfl)
 have q135p := ne_of_beqi q135
 exact Pl 3 <| ce K136 (E113 == 11) (by rw [q135]; rfl)
 refine Pl 1 <| cu 3 [79] 82 ((((E113 == 12) || (E113 == 11)) || (E113 == 10))) (fun K K138 => ?_) ?_
 refine bl 79 (((E113 == 12) || (E113 == 11))) (fun q137 => ?_) (fun q137 => ?_)
 exact Pl 3 <| ce K138 true (by rw [q137]; rfl)
 have q137a := (or_f q137).1
 have q137b := (or_f q137).2
 have q137ap := ne_of_beqi q137a
 have q137bp := ne_of_beqi q137b
 exact Pl 3 <| ce K138 (E113 == 10) (by rw [q137]; rfl)
 refine Pl 2 <| cu 5 [84] 89 (((((E113 == 12) || (E113 == 11)) || (E113 == 10)) && ((F112.unit == 0) && (F112.tid == 0)))) (fun K K140 => ?_) ?_
 refine bl 84 ((((E113 == 12) || (E113 == 11)) || (E113 == 10))) (fun q139 => ?_) (fun q139 => ?_)
 exact Pl 1 <| L1 <| Ola B128 0 2 <| Pl 1 <| L1 <| Or_ (.bool ((F112.unit == 0) && (F112.tid == 0))) (run_headeq F112.unit F112.tid 0 0 rfl (by kernel_rfl) (by kernel_rfl) rfl) <| Pl 1 <| ce K140 ((F112.unit == 0) && (F112.tid == 0)) (by rw [q139]; rfl)
 have q139a := (or_f q139).1
 have q139b := (or_f q139).2
 have q139aa := (or_f q139a).1
 have q139ab := (or_f q139a).2
 have q139aap := ne_of_beqi q139aa
 have q139abp := ne_of_beqi q139ab
 have q139bp := ne_of_beqi q139b
 exact Pl 5 <| ce K140 false (by rw [q139]; rfl)
 refine Pl 1 <| nt <| rt <| rr (.bool ((((E113 == 12) || (E113 == 11)) || (E113 == 10)) && ((F112.unit == 0) && (F112.tid == 0)))) <| ?_
 have hs : ((((E113 == 12) || (E113 == 11)) || (E113 == 10)) && ((F112.unit == 0) && (F112.tid == 0))) = true := by have y := ascW_le hcM hX86; obtain ⟨z1, z2⟩ := asc_sign (by decide) hbu hcM (fun l hz => pduW_byts hM (fewB_few q23n) l hz) hX86 (by omega) (fun e => ne_of_beqi q134 e.symm) hX114; subst z1; rcases z2 with rfl | rfl | rfl <;> rfl
 rw [hs]
 exact ⟨rfl, U133⟩
end Go.Proofs.YtgjlbabefogepaaGreat
namespace Go.Proofs.YtgjlbabefogepaaGreat
open Go.ChangeShapes Go.WideShapes Go.ChangeAt Go.RowKit
theorem own : ownKnob Tryz.prog.godebug = none := by kernel_rfl
theorem laidOut : laidOutB Tryz.prog = true := by kernel_rfl
set_option maxRecDepth 100000 in
theorem lifted (os : Os) (started : os.Started) (H : Type) (enc : TypeId × Value → H) :
    ReturnsInHanded {} Tryz.checked os 14 .any (Rows.ascSignsSpec.pre6 enc Tryz.prog Tryz.f14 Rows.ascSignsRow.domain false) (Rows.ascSignsSpec.post enc Tryz.prog Tryz.f14 false true false false) := by
  refine returnsInHanded_of_change (C := Tryz.checked) own started (by kernel_rfl) Tryz.func14
    (ChangeSpec.witness6 (enc := enc) (C := Tryz.checked) false ⟨#[], #[.bool false, .agg #[.int .u8 0, .int .u16 0, .int .u8 0, .int .u8 0, .int .u16 0, .int .u16 0, .int .u16 0, .int .u16 0, .int .u16 0, .int .u16 0, .int .u16 0, .int .u16 0, .int .u16 0, .int .u16 0, .slice none 0 0, .slice none 0 0, .slice none 0 0, .slice none 0 0, .int .u8 0, .int .u8 0, .int .u8 0, .int .u8 0, .int .u8 0, .slice none 0 0], .int .u16 0, .int .u8 0], []⟩ 8 (by kernel_rfl) (by kernel_rfl) (by kernel_rfl) (by kernel_rfl)) ?_
  intro W base args ds gs before hval0 hW hcnd _
  have hval : ∀ (j : Nat) t v, Tryz.f14.params[j]? = some t → args[j]? = some v → Value.okWide Tryz.prog W .any base t v := hval0
  have hW' := hW
  obtain ⟨p, q, hA0, hV, rfl, hfz, hnd⟩ := hW
  have hA : DataW.TrodAll enc Tryz.prog W 0 (fun _ => true) true Tryz.f14.params.toList args.toList ds p := hA0
  rw [Tryz.params14] at hA hval
  obtain ⟨v0, vs0, d0, ds0, p0, q0, hargs, rfl, rfl, h0, r0⟩ := trodAll_cons hA
  obtain ⟨v1, vs1, d1, ds1, p1, q1, rfl, rfl, rfl, h1, r1⟩ := trodAll_cons r0
  obtain ⟨v2, vs2, d2, ds2, p2, q2, rfl, rfl, rfl, h2, r2⟩ := trodAll_cons r1
  obtain ⟨v3, vs3, d3, ds3, p3, q3, rfl, rfl, rfl, h3, r3⟩ := trodAll_cons r2
  obtain ⟨rfl, rfl, rfl⟩ := trodAll_nil r3
  obtain rfl : args = #[v0, v1, v2, v3] := by cases args; simp_all
  obtain ⟨rfl, rfl⟩ := trodVars_none hV
  obtain ⟨a0, rfl, rfl, rfl⟩ := open_bool Tryz.underlying4 (hval 0 4 v0 rfl rfl) h0
  have k1 := h1
  have lt1 : ∀ x ∈ p1, x.block < W.heap.size := by obtain ⟨m, hm⟩ := k1; exact DataW.trod_lt m _ _ _ hm
  obtain ⟨u1, t1, M1, x1, rfl, R1, bu1, bt1⟩ := frm_arg ⟨_, hval 1 47 v1 rfl rfl⟩ h1
  obtain ⟨a2, rfl, rfl, rfl, w2⟩ := open_int Tryz.underlying37 (hval 2 37 v2 rfl rfl) h2
  have b2 := bounds_u16 w2
  obtain ⟨a3, rfl, rfl, rfl, w3⟩ := open_int Tryz.underlying5 (hval 3 5 v3 rfl rfl) h3
  have b3 := bounds_u8 w3
  clear hA0 hval0
  refine (lawAscSigns (ans := a0) (hat := (by omega)) (hc := (by omega)) R1 bu1 bt1).mono fun e W' ⟨he, hu⟩ => ?_
  have bel := upd_below hu
  subst he
  exact ⟨_, rfl, _, _, _, [], _, [], hW', trodAll_mk1 (shut_bool Tryz.underlying4 _), (trodAll_cons_mk (shut_bool Tryz.underlying4 _) (trodAll_cons_mk (Below.trod laidOut (by kernel_rfl) (of_decide_eq_true (by kernel_rfl)) k1 bel lt1) (trodAll_cons_mk (shut_int Tryz.underlying37 w2) (trodAll_cons_mk (shut_int Tryz.underlying5 w3) trodAll_mk0)))), rfl, bel.frame _, fun h => by cases h⟩
theorem over : Rows.ascSignsRow.holds Tryz.pinned (OpenSpec.ofChange Rows.ascSignsSpec) :=
  OpenClaim.holds_of_wide 14 Tryz.f14 rfl rfl rfl rfl rfl rfl rfl ⟨rfl, rfl, rfl, rfl, rfl⟩ rfl rfl rfl rfl rfl (by kernel_rfl) Tryz.func14 (by kernel_rfl)
    (of_decide_eq_true (by kernel_rfl)) (by unfold Func.isWrapper; first | (rw [if_pos (by decide +kernel)]; kernel_rfl) | (rw [if_neg (by decide +kernel)]; exact ⟨rfl, rfl⟩))
    (fun os started H enc _ => lifted os started H enc)
theorem proved : Rows.AscSignsSaid := over
#print axioms proved
end Go.Proofs.YtgjlbabefogepaaGreat
