/- The statement AscEnds holds; no condition of its own. -/
import Derived.Test.YtgjlbabefogepaaGreatKA1
import Derived.Test.YtgjlbabefogepaaGreatKA2
import Derived.Test.YtgjlbabefogepaaGreatKA3
import Derived.Test.YtgjlbabefogepaaGreatKA4
import Derived.Test.YtgjlbabefogepaaGreatKA5
import Derived.Test.YtgjlbabefogepaaGreatKB1
import Derived.Test.YtgjlbabefogepaaGreatRows
import Derived.WalkKit
import Derived.ProofKit
import Derived.OpenShut
import Derived.ShutString
import Derived.ChangeOld
import Derived.Below
set_option linter.unusedVariables false
set_option linter.unusedSimpArgs false
namespace Go.Proofs.YtgjlbabefogepaaGreat
open Go.RowKit
set_option maxRecDepth 100000 in
set_option maxHeartbeats 4000000 in
theorem lawAscEnds {w : World} {ans : Bool} {u t : Int} {M : Msg} {xM : SL} {mM : Bool} (hM : MsgRd mM w (mcl M xM).toList M) (hbu : 0 ≤ u ∧ u < 256) (hbt : 0 ≤ t ∧ t < 65536) :
    Calls Tryz.prog 15 #[.bool ans, .agg (fcl u t M xM)] w (PVal (.bool true) w) := by
 have hRM := hM.rngs
 obtain ⟨hcM, hdM⟩ := hRM
 refine en 91 Tryz.func15 rfl <| sg <| L0 <| Obx (fcl u t M xM) fun g10 w11 hg12 B13 hu14 => Pl 1 <| ng <| L0 <| Oc <| m1 (@awake16 _) fun w15 hu16 => Pl 1 <| nt <| sq <| ?_
 refine go <| Pl 1 <| ?_
 have r17 := ub hu16 B13
 refine L0 <| Ola r17 2 22 <| ?_
 have U18 := ut0 hu14 hu16
 have r19 := MsgRd.old hM U18
 refine L0 <| Oc <| m1 (few_any r19) fun w20 hu21 => Pl 1 <| nt <| sq <| sg <| Pl 2 <| nt <| ?_
 have U22 := ut0 U18 hu21
 refine cb ((!(fewB M))) (fun q23 => ?_) (fun q23 => ?_)
 have q23n : (fewB M) = false := by simpa using q23
 refine sg <| Pl 2 <| nt <| rt <| tr <| rr (.bool true) <| ?_
 exact ⟨rfl, U22⟩
 have q23n : (fewB M) = true := by simpa using q23
 refine skn <| sg <| Pl 1 <| nt <| sq <| sg <| Pl 1 <| nt <| cb (ans) (fun q24 => ?_) (fun q24 => ?_)
 refine go <| Pl 1 <| ng <| Pl 1 <| ?_
 have r25 := ub hu21 r17
 refine L0 <| Olw r25 <| ?_
 have r26 := MsgRd.old r19 hu21
 refine wo (ascW 1 u t M) (fun hX28 => ?_) (fun l27 hX28 => ?_)
 refine L0 <| Oc <| m1 (asc_write_n hX28 r26 (fewB_few q23n) (by omega) (by omega)) fun w29 hu30 => Pl 5 <| nt <| sq <| sg <| Pl 7 <| nt <| c1 <| sg <| Pl 6 <| nl <| ?_
 refine tn <| rt <| tr <| rr (.bool true) <| ?_
 have U31 := ut0 U22 hu30
 exact ⟨rfl, U31⟩
 have hl32 := ascW_le (r26.rngs).1 hX28
 refine L0 <| Oc <| e2 (asc_write_s hX28 r26 (fewB_few q23n) (by omega) (by omega)) fun v34 w33 ho35 hu36 => ?_
 rcases OwnF.shape ho35 with ⟨g37, cp38, rfl⟩
 rcases RdG.shape (ho35).rd with ⟨_, _, e39, hl40, hm41⟩
 injection e39 with _ _ e39
 rw [← e39] at hl40 hm41
 refine Pl 5 <| nt <| sq <| sg <| Pl 7 <| nt <| ?_
 have U42 := ut0 U22 hu36
 refine cb ((decide (((l27.length : Nat) : Int) < 9))) (fun q43 => ?_) (fun q43 => ?_)
 have q43p := of_decide_eq_true q43
 refine sg <| Pl 6 <| nt <| rt <| tr <| rr (.bool false) <| ?_
 have hs : false = true := by have y := ascW_le hcM hX28; omega
 rw [hs]
 exact ⟨rfl, U42⟩
 have q43p := of_decide_eq_false q43
 refine skn <| sg <| Pl 2 <| x12 (cut_from (P := Tryz.prog) 29 5 1 Tryz.underlying29 rfl rfl (some ⟨g37, 0, none⟩) l27.length cp38 1 (by omega)) fun A44 hrun45 hrd46 => L0 <| Or_ (.slice A44 (l27.length - 1) (cp38 - 1)) (run_cutf (kl := .i64) (k := ((1 : Nat) : Int)) (A := some ⟨g37, 0, none⟩) (n := l27.length) (c := cp38) rfl Tryz.underlying29 (by kernel_rfl) (by kernel_rfl) (hrun45 _ _)) <| ?_
 refine pr (ascP 1 (l27.drop 1)) fun F47 E48 hX49 => ?_
 refine L0 <| Oc <| e2 (asc_parse_x hX49 (hrd46 _ _ _ _ _ (ho35).rd) (by rw [List.length_drop]; omega)) fun x50 w51 hx56 hu55 => ?_
 obtain ⟨hM52, hF53, hF54⟩ := hx56
 refine Pl 3 <| L0 <| Oal #[.int .u8 0, .int .u16 0, .int .u8 0, .int .u8 0, .int .u16 0, .int .u16 0, .int .u16 0, .int .u16 0, .int .u16 0, .int .u16 0, .int .u16 0, .int .u16 0, .int .u16 0, .int .u16 0, .slice none 0 0, .slice none 0 0, .slice none 0 0, .slice none 0 0, .int .u8 0, .int .u8 0, .int .u8 0, .int .u8 0, .int .u8 0, .slice none 0 0] fun g57 w58 hg59 B60 hu61 => L0 <| Osw B60 (fcl F47.unit F47.tid F47.msg x50) fun w62 B63 hu64 => Pl 1 <| ng <| Pl 4 <| L0 <| Oi (((l27.length : Nat) : Int) - 1) <| x12 (cut_h (P := Tryz.prog) 29 5 1 Tryz.underlying29 rfl rfl (some ⟨g37, 0, none⟩) l27.length cp38 (k := (((l27.length : Nat) : Int) - 1)) (((((l27.length : Nat) : Int) - 1)).toNat) (by omega) (by omega) (by omega)) fun A65 hrun66 hrd67 => L0 <| Or_ (.slice A65 (((((l27.length : Nat) : Int) - 1)).toNat) cp38) (run_cuth (kl := .i64) (k := (((l27.length : Nat) : Int) - 1)) (A := some ⟨g37, 0, none⟩) (n := l27.length) (c := cp38) rfl Tryz.underlying29 (by kernel_rfl) (by kernel_rfl) (hrun66 _ _)) <| ?_
 have U68 := ut0 hu55 hu61
 have U69 := u1 U68 hu64 (ni hu55.size hg59)
 have r70 := RdB.upd' (ho35).rd U69 safe0
 refine pr (ascP 1 (l27.take (((((l27.length : Nat) : Int) - 1)).toNat))) fun F71 E72 hX73 => ?_
 refine L0 <| Oc <| e2 (asc_parse_x hX73 (hrd67 _ _ _ _ _ r70) (by rw [List.length_take]; omega)) fun x74 w75 hx80 hu79 => ?_
 obtain ⟨hM76, hF77, hF78⟩ := hx80
 refine Pl 3 <| L0 <| Oal #[.int .u8 0, .int .u16 0, .int .u8 0, .int .u8 0, .int .u16 0, .int .u16 0, .int .u16 0, .int .u16 0, .int .u16 0, .int .u16 0, .int .u16 0, .int .u16 0, .int .u16 0, .int .u16 0, .slice none 0 0, .slice none 0 0, .slice none 0 0, .slice none 0 0, .int .u8 0, .int .u8 0, .int .u8 0, .int .u8 0, .int .u8 0, .slice none 0 0] fun g81 w82 hg83 B84 hu85 => L0 <| Osw B84 (fcl F71.unit F71.tid F71.msg x74) fun w86 B87 hu88 => Pl 1 <| ng <| Pl 4 <| L0 <| Oi (((l27.length : Nat) : Int) - 2) <| x12 (cut_h (P := Tryz.prog) 29 5 1 Tryz.underlying29 rfl rfl (some ⟨g37, 0, none⟩) l27.length cp38 (k := (((l27.length : Nat) : Int) - 2)) (((((l27.length : Nat) : Int) - 2)).toNat) (by omega) (by omega) (by omega)) fun A89 hrun90 hrd91 => L0 <| Or_ (.slice A89 (((((l27.length : Nat) : Int) - 2)).toNat) cp38) (run_cuth (kl := .i64) (k := (((l27.length : Nat) : Int) - 2)) (A := some ⟨g37, 0, none⟩) (n := l27.length) (c := cp38) rfl Tryz.underlying29 (by kernel_rfl) (by kernel_rfl) (hrun90 _ _)) <| ?_
 have U92 := ut0 hu79 hu85
 have U93 := u1 U92 hu88 (ni hu79.size hg83)
 have r94 := RdB.upd' r70 U93 safe0
 refine pr (ascP 1 (l27.take (((((l27.length : Nat) : Int) - 2)).toNat))) fun F95 E96 hX97 => ?_
 refine L0 <| Oc <| e2 (asc_parse_x hX97 (hrd91 _ _ _ _ _ r94) (by rw [List.length_take]; omega)) fun x98 w99 hx104 hu103 => ?_
 obtain ⟨hM100, hF101, hF102⟩ := hx104
 refine Pl 3 <| L0 <| Oal #[.int .u8 0, .int .u16 0, .int .u8 0, .int .u8 0, .int .u16 0, .int .u16 0, .int .u16 0, .int .u16 0, .int .u16 0, .int .u16 0, .int .u16 0, .int .u16 0, .int .u16 0, .int .u16 0, .slice none 0 0, .slice none 0 0, .slice none 0 0, .slice none 0 0, .int .u8 0, .int .u8 0, .int .u8 0, .int .u8 0, .int .u8 0, .slice none 0 0] fun g105 w106 hg107 B108 hu109 => L0 <| Osw B108 (fcl F95.unit F95.tid F95.msg x98) fun w110 B111 hu112 => Pl 1 <| nt <| sq <| sg <| Pl 3 <| cu 3 [71] 74 (((E48 == 0) || (E72 == 0))) (fun K K114 => ?_) ?_
 refine bl 71 ((E48 == 0)) (fun q113 => ?_) (fun q113 => ?_)
 have q113p := eq_of_beqi q113
 exact Pl 3 <| ce K114 true (by rw [q113]; rfl)
 have q113p := ne_of_beqi q113
 exact Pl 3 <| ce K114 (E72 == 0) (by rw [q113]; rfl)
 refine Pl 1 <| cu 3 [75] 78 ((((E48 == 0) || (E72 == 0)) || (E96 == 0))) (fun K K116 => ?_) ?_
 refine bl 75 (((E48 == 0) || (E72 == 0))) (fun q115 => ?_) (fun q115 => ?_)
 exact Pl 3 <| ce K116 true (by rw [q115]; rfl)
 have q115a := (or_f q115).1
 have q115b := (or_f q115).2
 have q115ap := ne_of_beqi q115a
 have q115bp := ne_of_beqi q115b
 exact Pl 3 <| ce K116 (E96 == 0) (by rw [q115]; rfl)
 refine nt <| ?_
 have U117 := ut0 U42 hu55
 have U118 := ut0 U117 hu61
 have U119 := u1 U118 hu64 (ni U117.size hg59)
 have U120 := ut0 U119 hu79
 have U121 := ut0 U120 hu85
 have U122 := u1 U121 hu88 (ni U120.size hg83)
 have U123 := ut0 U122 hu103
 have U124 := ut0 U123 hu109
 have U125 := u1 U124 hu112 (ni U123.size hg107)
 refine cb ((((E48 == 0) || (E72 == 0)) || (E96 == 0))) (fun q126 => ?_) (fun q126 => ?_)
 refine sg <| Pl 1 <| nt <| rt <| tr <| rr (.bool false) <| ?_
 have hs : false = true := by obtain ⟨⟨z1, z2⟩, z3, z4, z5⟩ := asc_ends (by decide) hbu hcM (fun l hz => pduW_byts hM (fewB_few q23n) l hz) hX28; have y1 := hX49; have y2 := hX73; have y3 := hX97; rw [show (((l27.length : Nat) : Int) - 1).toNat = l27.length - 1 from by omega] at y2; rw [show (((l27.length : Nat) : Int) - 2).toNat = l27.length - 2 from by omega] at y3; rw [y1] at z3; rw [y2] at z4; rw [y3] at z5; have q := q126; simp only [Bool.or_eq_true, beq_iff_eq] at q; rcases q with (q | q) | q <;> contradiction
 rw [hs]
 exact ⟨rfl, U125⟩
 have q126a := (or_f q126).1
 have q126b := (or_f q126).2
 have q126aa := (or_f q126a).1
 have q126ab := (or_f q126a).2
 have q126aap := ne_of_beqi q126aa
 have q126abp := ne_of_beqi q126ab
 have q126bp := ne_of_beqi q126b
 refine skn <| sg <| Pl 4 <| L1 <| Oe (.int .i64 (Int.tmod ((l27.length : Nat) : Int) 2)) (.int .i64 (((l27.length : Nat) : Int) % 2)) (congrArg (Value.int .i64) (Int.tmod_eq_emod_of_nonneg (by omega))) <| Pl 3 <| cu 4 [86] 90 ((((((l27.length : Nat) : Int) % 2) == 1) && (decide (((l27.length : Nat) : Int) ≤ 513)))) (fun K K128 => ?_) ?_
 refine bl 86 (((((l27.length : Nat) : Int) % 2) == 1)) (fun q127 => ?_) (fun q127 => ?_)
 have q127p := eq_of_beqi q127
 exact Pl 4 <| ce K128 (decide (((l27.length : Nat) : Int) ≤ 513)) (by rw [q127]; rfl)
 have q127p := ne_of_beqi q127
 exact Pl 4 <| ce K128 false (by rw [q127]; rfl)
 refine Pl 1 <| nt <| rt <| rr (.bool (((((l27.length : Nat) : Int) % 2) == 1) && (decide (((l27.length : Nat) : Int) ≤ 513)))) <| ?_
 have hs : (((((l27.length : Nat) : Int) % 2) == 1) && (decide (((l27.length : Nat) : Int) ≤ 513))) = true := by obtain ⟨⟨z1, z2⟩, z3, z4, z5⟩ := asc_ends (by decide) hbu hcM (fun l hz => pduW_byts hM (fewB_few q23n) l hz) hX28; have y1 := hX49; have y2 := hX73; have y3 := hX97; rw [show (((l27.length : Nat) : Int) - 1).toNat = l27.length - 1 from by omega] at y2; rw [show (((l27.length : Nat) : Int) - 2).toNat = l27.length - 2 from by omega] at y3; rw [y1] at z3; rw [y2] at z4; rw [y3] at z5; simp only [Bool.and_eq_true, beq_iff_eq, decide_eq_true_eq]; exact ⟨z1, z2⟩
 rw [hs]
 exact ⟨rfl, U125⟩
 refine skn <| sg <| Pl 1 <| ?_
 have r129 := ub hu21 r17
 refine L0 <| Olw r129 <| ?_
 have r130 := MsgRd.old r19 hu21
 refine wo (ascW 0 u t M) (fun hX132 => ?_) (fun l131 hX132 => ?_)
 refine L0 <| Oc <| m1 (asc_write_n hX132 r130 (fewB_few q23n) (by omega) (by omega)) fun w133 hu134 => Pl 5 <| nt <| sq <| sg <| Pl 7 <| nt <| c1 <| sg <| Pl 6 <| nl <| ?_
 refine tn <| rt <| tr <| rr (.bool true) <| ?_
 have U135 := ut0 U22 hu134
 exact ⟨rfl, U135⟩
 have hl136 := ascW_le (r130.rngs).1 hX132
 refine L0 <| Oc <| e2 (asc_write_s hX132 r130 (fewB_few q23n) (by omega) (by omega)) fun v138 w137 ho139 hu140 => ?_
 rcases OwnF.shape ho139 with ⟨g141, cp142, rfl⟩
 rcases RdG.shape (ho139).rd with ⟨_, _, e143, hl144, hm145⟩
 injection e143 with _ _ e143
 rw [← e143] at hl144 hm145
 refine Pl 5 <| nt <| sq <| sg <| Pl 7 <| nt <| ?_
 have U146 := ut0 U22 hu140
 refine cb ((decide (((l131.length : Nat) : Int) < 9))) (fun q147 => ?_) (fun q147 => ?_)
 have q147p := of_decide_eq_true q147
 refine sg <| Pl 6 <| nt <| rt <| tr <| rr (.bool false) <| ?_
 have hs : false = true := by have y := ascW_le hcM hX132; omega
 rw [hs]
 exact ⟨rfl, U146⟩
 have q147p := of_decide_eq_false q147
 refine skn <| sg <| Pl 2 <| x12 (cut_from (P := Tryz.prog) 29 5 1 Tryz.underlying29 rfl rfl (some ⟨g141, 0, none⟩) l131.length cp142 1 (by omega)) fun A148 hrun149 hrd150 => L0 <| Or_ (.slice A148 (l131.length - 1) (cp142 - 1)) (run_cutf (kl := .i64) (k := ((1 : Nat) : Int)) (A := some ⟨g141, 0, none⟩) (n := l131.length) (c := cp142) rfl Tryz.underlying29 (by kernel_rfl) (by kernel_rfl) (hrun149 _ _)) <| ?_
 refine pr (ascP 0 (l131.drop 1)) fun F151 E152 hX153 => ?_
 refine L0 <| Oc <| e2 (asc_parse_x hX153 (hrd150 _ _ _ _ _ (ho139).rd) (by rw [List.length_drop]; omega)) fun x154 w155 hx160 hu159 => ?_
 obtain ⟨hM156, hF157, hF158⟩ := hx160
 refine Pl 3 <| L0 <| Oal #[.int .u8 0, .int .u16 0, .int .u8 0, .int .u8 0, .int .u16 0, .int .u16 0, .int .u16 0, .int .u16 0, .int .u16 0, .int .u16 0, .int .u16 0, .int .u16 0, .int .u16 0, .int .u16 0, .slice none 0 0, .slice none 0 0, .slice none 0 0, .slice none 0 0, .int .u8 0, .int .u8 0, .int .u8 0, .int .u8 0, .int .u8 0, .slice none 0 0] fun g161 w162 hg163 B164 hu165 => L0 <| Osw B164 (fcl F151.unit F151.tid F151.msg x154) fun w166 B167 hu168 => Pl 1 <| ng <| Pl 4 <| L0 <| Oi (((l131.length : Nat) : Int) - 1) <| x12 (cut_h (P := Tryz.prog) 29 5 1 Tryz.underlying29 rfl rfl (some ⟨g141, 0, none⟩) l131.length cp142 (k := (((l131.length : Nat) : Int) - 1)) (((((l131.length : Nat) : Int) - 1)).toNat) (by omega) (by omega) (by omega)) fun A169 hrun170 hrd171 => L0 <| Or_ (.slice A169 (((((l131.length : Nat) : Int) - 1)).toNat) cp142) (run_cuth (kl := .i64) (k := (((l131.length : Nat) : Int) - 1)) (A := some ⟨g141, 0, none⟩) (n := l131.length) (c := cp142) rfl Tryz.underlying29 (by kernel_rfl) (by kernel_rfl) (hrun170 _ _)) <| ?_
 have U172 := ut0 hu159 hu165
 have U173 := u1 U172 hu168 (ni hu159.size hg163)
 have r174 := RdB.upd' (ho139).rd U173 safe0
 refine pr (ascP 0 (l131.take (((((l131.length : Nat) : Int) - 1)).toNat))) fun F175 E176 hX177 => ?_
 refine L0 <| Oc <| e2 (asc_parse_x hX177 (hrd171 _ _ _ _ _ r174) (by rw [List.length_take]; omega)) fun x178 w179 hx184 hu183 => ?_
 obtain ⟨hM180, hF181, hF182⟩ := hx184
 refine Pl 3 <| L0 <| Oal #[.int .u8 0, .int .u16 0, .int .u8 0, .int .u8 0, .int .u16 0, .int .u16 0, .int .u16 0, .int .u16 0, .int .u16 0, .int .u16 0, .int .u16 0, .int .u16 0, .int .u16 0, .int .u16 0, .slice none 0 0, .slice none 0 0, .slice none 0 0, .slice none 0 0, .int .u8 0, .int .u8 0, .int .u8 0, .int .u8 0, .int .u8 0, .slice none 0 0] fun g185 w186 hg187 B188 hu189 => L0 <| Osw B188 (fcl F175.unit F175.tid F175.msg x178) fun w190 B191 hu192 => Pl 1 <| ng <| Pl 4 <| L0 <| Oi (((l131.length : Nat) : Int) - 2) <| x12 (cut_h (P := Tryz.prog) 29 5 1 Tryz.underlying29 rfl rfl (some ⟨g141, 0, none⟩) l131.length cp142 (k := (((l131.length : Nat) : Int) - 2)) (((((l131.length : Nat) : Int) - 2)).toNat) (by omega) (by omega) (by omega)) fun A193 hrun194 hrd195 => L0 <| Or_ (.slice A193 (((((l131.length : Nat) : Int) - 2)).toNat) cp142) (run_cuth (kl := .i64) (k := (((l131.length : Nat) : Int) - 2)) (A := some ⟨g141, 0, none⟩) (n := l131.length) (c := cp142) rfl Tryz.underlying29 (by kernel_rfl) (by kernel_rfl) (hrun194 _ _)) <| ?_
 have U196 := ut0 hu183 hu189
 have U197 := u1 U196 hu192 (ni hu183.size hg187)
 have r198 := RdB.upd' r174 U197 safe0
 refine pr (ascP 0 (l131.take (((((l131.length : Nat) : Int) - 2)).toNat))) fun F199 E200 hX201 => ?_
 refine L0 <| Oc <| e2 (asc_parse_x hX201 (hrd195 _ _ _ _ _ r198) (by rw [List.length_take]; omega)) fun x202 w203 hx208 hu207 => ?_
 obtain ⟨hM204, hF205, hF206⟩ := hx208
 refine Pl 3 <| L0 <| Oal #[.int .u8 0, .int .u16 0, .int .u8 0, .int .u8 0, .int .u16 0, .int .u16 0, .int .u16 0, .int .u16 0, .int .u16 0, .int .u16 0, .int .u16 0, .int .u16 0, .int .u16 0, .int .u16 0, .slice none 0 0, .slice none 0 0, .slice none 0 0, .slice none 0 0, .int .u8 0, .int .u8 0, .int .u8 0, .int .u8 0, .int .u8 0, .slice none 0 0] fun g209 w210 hg211 B212 hu213 => L0 <| Osw B212 (fcl F199.unit F199.tid F199.msg x202) fun w214 B215 hu216 => Pl 1 <| nt <| sq <| sg <| Pl 3 <| cu 3 [71] 74 (((E152 == 0) || (E176 == 0))) (fun K K218 => ?_) ?_
 refine bl 71 ((E152 == 0)) (fun q217 => ?_) (fun q217 => ?_)
 have q217p := eq_of_beqi q217
 exact Pl 3 <| ce K218 true (by rw [q217]; rfl)
 have q217p := ne_of_beqi q217
 exact Pl 3 <| ce K218 (E176 == 0) (by rw [q217]; rfl)
 refine Pl 1 <| cu 3 [75] 78 ((((E152 == 0) || (E176 == 0)) || (E200 == 0))) (fun K K220 => ?_) ?_
 refine bl 75 (((E152 == 0) || (E176 == 0))) (fun q219 => ?_) (fun q219 => ?_)
 exact Pl 3 <| ce K220 true (by rw [q219]; rfl)
 have q219a := (or_f q219).1
 have q219b := (or_f q219).2
 have q219ap := ne_of_beqi q219a
 have q219bp := ne_of_beqi q219b
 exact Pl 3 <| ce K220 (E200 == 0) (by rw [q219]; rfl)
 refine nt <| ?_
 have U221 := ut0 U146 hu159
 have U222 := ut0 U221 hu165
 have U223 := u1 U222 hu168 (ni U221.size hg163)
 have U224 := ut0 U223 hu183
 have U225 := ut0 U224 hu189
 have U226 := u1 U225 hu192 (ni U224.size hg187)
 have U227 := ut0 U226 hu207
 have U228 := ut0 U227 hu213
 have U229 := u1 U228 hu216 (ni U227.size hg211)
 refine cb ((((E152 == 0) || (E176 == 0)) || (E200 == 0))) (fun q230 => ?_) (fun q230 => ?_)
 refine sg <| Pl 1 <| nt <| rt <| tr <| rr (.bool false) <| ?_
 have hs : false = true := by obtain ⟨⟨z1, z2⟩, z3, z4, z5⟩ := asc_ends (by decide) hbu hcM (fun l hz => pduW_byts hM (fewB_few q23n) l hz) hX132; have y1 := hX153; have y2 := hX177; have y3 := hX201; rw [show (((l131.length : Nat) : Int) - 1).toNat = l131.length - 1 from by omega] at y2; rw [show (((l131.length : Nat) : Int) - 2).toNat = l131.length - 2 from by omega] at y3; rw [y1] at z3; rw [y2] at z4; rw [y3] at z5; have q := q230; simp only [Bool.or_eq_true, beq_iff_eq] at q; rcases q with (q | q) | q <;> contradiction
 rw [hs]
 exact ⟨rfl, U229⟩
 have q230a := (or_f q230).1
 have q230b := (or_f q230).2
 have q230aa := (or_f q230a).1
 have q230ab := (or_f q230a).2
 have q230aap := ne_of_beqi q230aa
 have q230abp := ne_of_beqi q230ab
 have q230bp := ne_of_beqi q230b
 refine skn <| sg <| Pl 4 <| L1 <| Oe (.int .i64 (Int.tmod ((l131.length : Nat) : Int) 2)) (.int .i64 (((l131.length : Nat) : Int) % 2)) (congrArg (Value.int .i64) (Int.tmod_eq_emod_of_nonneg (by omega))) <| Pl 3 <| cu 4 [86] 90 ((((((l131.length : Nat) : Int) % 2) == 1) && (decide (((l131.length : Nat) : Int) ≤ 513)))) (fun K K232 => ?_) ?_
 refine bl 86 (((((l131.length : Nat) : Int) % 2) == 1)) (fun q231 => ?_) (fun q231 => ?_)
 have q231p := eq_of_beqi q231
 exact Pl 4 <| ce K232 (decide (((l131.length : Nat) : Int) ≤ 513)) (by rw [q231]; rfl)
 have q231p := ne_of_beqi q231
 exact Pl 4 <| ce K232 false (by rw [q231]; rfl)
 refine Pl 1 <| nt <| rt <| rr (.bool (((((l131.length : Nat) : Int) % 2) == 1) && (decide (((l131.length : Nat) : Int) ≤ 513)))) <| ?_
 have hs : (((((l131.length : Nat) : Int) % 2) == 1) && (decide (((l131.length : Nat) : Int) ≤ 513))) = true := by obtain ⟨⟨z1, z2⟩, z3, z4, z5⟩ := asc_ends (by decide) hbu hcM (fun l hz => pduW_byts hM (fewB_few q23n) l hz) hX132; have y1 := hX153; have y2 := hX177; have y3 := hX201; rw [show (((l131.length : Nat) : Int) - 1).toNat = l131.length - 1 from by omega] at y2; rw [show (((l131.length : Nat) : Int) - 2).toNat = l131.length - 2 from by omega] at y3; rw [y1] at z3; rw [y2] at z4; rw [y3] at z5; simp only [Bool.and_eq_true, beq_iff_eq, decide_eq_true_eq]; exact ⟨z1, z2⟩
 rw [hs]
 exact ⟨rfl, U229⟩
end Go.Proofs.YtgjlbabefogepaaGreat
namespace Go.Proofs.YtgjlbabefogepaaGreat
open Go.ChangeShapes Go.WideShapes Go.ChangeAt Go.RowKit
theorem own : ownKnob Tryz.prog.godebug = none := by kernel_rfl
theorem laidOut : laidOutB Tryz.prog = true := by kernel_rfl
set_option maxRecDepth 100000 in
theorem lifted (os : Os) (started : os.Started) (H : Type) (enc : TypeId × Value → H) :
    ReturnsInHanded {} Tryz.checked os 15 .any (Rows.ascEndsSpec.pre6 enc Tryz.prog Tryz.f15 Rows.ascEndsRow.domain false) (Rows.ascEndsSpec.post enc Tryz.prog Tryz.f15 false true false false) := by
  refine returnsInHanded_of_change (C := Tryz.checked) own started (by kernel_rfl) Tryz.func15
    (ChangeSpec.witness6 (enc := enc) (C := Tryz.checked) false ⟨#[], #[.bool false, .agg #[.int .u8 0, .int .u16 0, .int .u8 0, .int .u8 0, .int .u16 0, .int .u16 0, .int .u16 0, .int .u16 0, .int .u16 0, .int .u16 0, .int .u16 0, .int .u16 0, .int .u16 0, .int .u16 0, .slice none 0 0, .slice none 0 0, .slice none 0 0, .slice none 0 0, .int .u8 0, .int .u8 0, .int .u8 0, .int .u8 0, .int .u8 0, .slice none 0 0]], []⟩ 8 (by kernel_rfl) (by kernel_rfl) (by kernel_rfl) (by kernel_rfl)) ?_
  intro W base args ds gs before hval0 hW hcnd _
  have hval : ∀ (j : Nat) t v, Tryz.f15.params[j]? = some t → args[j]? = some v → Value.okWide Tryz.prog W .any base t v := hval0
  have hW' := hW
  obtain ⟨p, q, hA0, hV, rfl, hfz, hnd⟩ := hW
  have hA : DataW.TrodAll enc Tryz.prog W 0 (fun _ => true) true Tryz.f15.params.toList args.toList ds p := hA0
  rw [Tryz.params15] at hA hval
  obtain ⟨v0, vs0, d0, ds0, p0, q0, hargs, rfl, rfl, h0, r0⟩ := trodAll_cons hA
  obtain ⟨v1, vs1, d1, ds1, p1, q1, rfl, rfl, rfl, h1, r1⟩ := trodAll_cons r0
  obtain ⟨rfl, rfl, rfl⟩ := trodAll_nil r1
  obtain rfl : args = #[v0, v1] := by cases args; simp_all
  obtain ⟨rfl, rfl⟩ := trodVars_none hV
  obtain ⟨a0, rfl, rfl, rfl⟩ := open_bool Tryz.underlying4 (hval 0 4 v0 rfl rfl) h0
  have k1 := h1
  have lt1 : ∀ x ∈ p1, x.block < W.heap.size := by obtain ⟨m, hm⟩ := k1; exact DataW.trod_lt m _ _ _ hm
  obtain ⟨u1, t1, M1, x1, rfl, R1, bu1, bt1⟩ := frm_arg ⟨_, hval 1 47 v1 rfl rfl⟩ h1
  clear hA0 hval0
  refine (lawAscEnds (ans := a0) R1 bu1 bt1).mono fun e W' ⟨he, hu⟩ => ?_
  have bel := upd_below hu
  subst he
  exact ⟨_, rfl, _, _, _, [], _, [], hW', trodAll_mk1 (shut_bool Tryz.underlying4 _), (trodAll_cons_mk (shut_bool Tryz.underlying4 _) (trodAll_cons_mk (Below.trod laidOut (by kernel_rfl) (of_decide_eq_true (by kernel_rfl)) k1 bel lt1) trodAll_mk0)), rfl, bel.frame _, fun h => by cases h⟩
theorem over : Rows.ascEndsRow.holds Tryz.pinned (OpenSpec.ofChange Rows.ascEndsSpec) :=
  OpenClaim.holds_of_wide 15 Tryz.f15 rfl rfl rfl rfl rfl rfl rfl ⟨rfl, rfl, rfl, rfl, rfl⟩ rfl rfl rfl rfl rfl (by kernel_rfl) Tryz.func15 (by kernel_rfl)
    (of_decide_eq_true (by kernel_rfl)) (by unfold Func.isWrapper; first | (rw [if_pos (by decide +kernel)]; kernel_rfl) | (rw [if_neg (by decide +kernel)]; exact ⟨rfl, rfl⟩))
    (fun os started H enc _ => lifted os started H enc)
theorem proved : Rows.AscEndsSaid := over
#print axioms proved
end Go.Proofs.YtgjlbabefogepaaGreat
