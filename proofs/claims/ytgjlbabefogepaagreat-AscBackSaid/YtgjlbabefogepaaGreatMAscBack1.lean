/- The statement AscBack holds; no condition of its own. -/
import Derived.Test.YtgjlbabefogepaaGreatKA1
import Derived.Test.YtgjlbabefogepaaGreatKA2
import Derived.Test.YtgjlbabefogepaaGreatKA3
import Derived.Test.YtgjlbabefogepaaGreatKA4
import Derived.Test.YtgjlbabefogepaaGreatKA5
import Derived.Test.YtgjlbabefogepaaGreatKB1
import Derived.Test.YtgjlbabefogepaaGreatRows
import Derived.WalkKit
import Derived.ProofKit
import Derived.OpenShut
import Derived.ShutString
import Derived.ChangeOld
import Derived.Below
set_option linter.unusedVariables false
set_option linter.unusedSimpArgs false
namespace Go.Proofs.YtgjlbabefogepaaGreat
open Go.RowKit
set_option maxRecDepth 100000 in
set_option maxHeartbeats 4000000 in
theorem lawAscBack {w : World} {ans : Bool} {mA : Bool} {A : Option Addr} {cpA : Nat} {b : List Int} (hb : RdB mA w (.slice A b.length cpA) b) {u t : Int} {M : Msg} {xM : SL} {mM : Bool} (hM : MsgRd mM w (mcl M xM).toList M) (hbu : 0 ≤ u ∧ u < 256) (hbt : 0 ≤ t ∧ t < 65536) :
    Calls Tryz.prog 13 #[.bool ans, .slice A b.length cpA, .agg (fcl u t M xM)] w (PVal (.bool true) w) := by
 have hRM := hM.rngs
 obtain ⟨hcM, hdM⟩ := hRM
 refine en 115 Tryz.func13 rfl <| sg <| L0 <| Obx (fcl u t M xM) fun g10 w11 hg12 B13 hu14 => Pl 1 <| ng <| L0 <| Oc <| m1 (@awake16 _) fun w15 hu16 => Pl 1 <| nt <| sq <| ?_
 refine go <| Pl 1 <| ?_
 have r17 := ub hu16 B13
 refine L0 <| Ola r17 2 22 <| ?_
 have U18 := ut0 hu14 hu16
 have r19 := MsgRd.old hM U18
 refine L0 <| Oc <| m1 (few_any r19) fun w20 hu21 => Pl 1 <| nt <| sq <| sg <| Pl 4 <| cu 3 [25] 28 (((decide (700 < ((b.length : Nat) : Int))) || (!(fewB M)))) (fun K K23 => ?_) ?_
 refine bl 25 ((decide (700 < ((b.length : Nat) : Int)))) (fun q22 => ?_) (fun q22 => ?_)
 have q22p := of_decide_eq_true q22
 exact Pl 3 <| ce K23 true (by rw [q22]; rfl)
 have q22p := of_decide_eq_false q22
 exact Pl 3 <| ce K23 (!(fewB M)) (by rw [q22]; rfl)
 refine nt <| ?_
 have U24 := ut0 U18 hu21
 refine cb (((decide (700 < ((b.length : Nat) : Int))) || (!(fewB M)))) (fun q25 => ?_) (fun q25 => ?_)
 refine sg <| Pl 2 <| nt <| rt <| tr <| rr (.bool true) <| ?_
 exact ⟨rfl, U24⟩
 have q25a := (or_f q25).1
 have q25b := (or_f q25).2
 have q25ap := of_decide_eq_false q25a
 have q25bn : (fewB M) = true := by simpa using q25b
 refine skn <| sg <| Pl 1 <| nt <| sq <| sg <| Pl 1 <| nt <| cb (ans) (fun q26 => ?_) (fun q26 => ?_)
 refine go <| Pl 1 <| ng <| Pl 2 <| ?_
 have r27 := RdB.old hb U24
 refine pr (ascP 1 b) fun F28 E29 hX30 => ?_
 refine L0 <| Oc <| e2 (asc_parse_x hX30 r27 (by omega)) fun x31 w32 hx37 hu36 => ?_
 obtain ⟨hM33, hF34, hF35⟩ := hx37
 refine Pl 3 <| L0 <| Oal #[.int .u8 0, .int .u16 0, .int .u8 0, .int .u8 0, .int .u16 0, .int .u16 0, .int .u16 0, .int .u16 0, .int .u16 0, .int .u16 0, .int .u16 0, .int .u16 0, .int .u16 0, .int .u16 0, .slice none 0 0, .slice none 0 0, .slice none 0 0, .slice none 0 0, .int .u8 0, .int .u8 0, .int .u8 0, .int .u8 0, .int .u8 0, .slice none 0 0] fun g38 w39 hg40 B41 hu42 => L0 <| Osw B41 (fcl F28.unit F28.tid F28.msg x31) fun w43 B44 hu45 => Pl 1 <| nt <| sq <| sg <| Pl 2 <| nt <| ?_
 have U46 := ut0 U24 hu36
 have U47 := ut0 U46 hu42
 have U48 := u1 U47 hu45 (ni U46.size hg40)
 refine cb ((E29 == 0)) (fun q49 => ?_) (fun q49 => ?_)
 have q49p := eq_of_beqi q49
 refine sg <| Pl 1 <| L0 <| Olw B44 <| ?_
 have U50 := u1 hu42 hu45 (nr hg40)
 have r51 := MsgRd.upd hM33 U50 safe0
 refine wo (ascW 1 F28.unit F28.tid F28.msg) (fun hX53 => ?_) (fun l52 hX53 => ?_)
 refine L0 <| Oc <| m1 (asc_write_n hX53 r51 (ascP_few hX30).1 (by omega) (by omega)) fun w54 hu55 => Pl 5 <| ng <| Pl 13 <| nt <| c1 <| sg <| Pl 1 <| nl <| ?_
 refine tn <| rt <| tr <| rr (.bool false) <| ?_
 have hs : false = true := by obtain ⟨z1, z2, z3⟩ := asc_back (by decide) hX30 q49 hX53; cases z1
 rw [hs]
 have U56 := ut0 U48 hu55
 exact ⟨rfl, U56⟩
 have hl57 := ascW_le (r51.rngs).1 hX53
 refine L0 <| Oc <| e2 (asc_write_s hX53 r51 (ascP_few hX30).1 (by omega) (by omega)) fun v59 w58 ho60 hu61 => ?_
 rcases OwnF.shape ho60 with ⟨g62, cp63, rfl⟩
 rcases RdG.shape (ho60).rd with ⟨_, _, e64, hl65, hm66⟩
 injection e64 with _ _ e64
 rw [← e64] at hl65 hm66
 refine Pl 5 <| ng <| Pl 5 <| ?_
 have U67 := ut0 hu36 hu42
 have U68 := u1 U67 hu45 (ni hu36.size hg40)
 have U69 := ut0 U68 hu61
 have r70 := RdB.old r27 U69
 refine L1 <| Oc (args := #[.slice (some ⟨g62, 0, none⟩) l52.length cp63, .slice A b.length cpA]) <| m1 (same1_any (xs := l52) (ys := b) (ho60).rd r70) fun w71 hu72 => Pl 3 <| cu 4 [53] 57 (((!(decide (l52 = b))) || (decide (513 < ((b.length : Nat) : Int))))) (fun K K74 => ?_) ?_
 refine bl 53 ((!(decide (l52 = b)))) (fun q73 => ?_) (fun q73 => ?_)
 have q73n : (decide (l52 = b)) = false := by simpa using q73
 have q73np := of_decide_eq_false q73n
 exact Pl 4 <| ce K74 true (by rw [q73]; rfl)
 have q73n : (decide (l52 = b)) = true := by simpa using q73
 have q73np := of_decide_eq_true q73n
 exact Pl 4 <| ce K74 (decide (513 < ((b.length : Nat) : Int))) (by rw [q73]; rfl)
 refine nt <| ?_
 have U75 := ut0 U48 hu61
 have U76 := ut0 U75 hu72
 refine cb (((!(decide (l52 = b))) || (decide (513 < ((b.length : Nat) : Int))))) (fun q77 => ?_) (fun q77 => ?_)
 refine sg <| Pl 1 <| nt <| rt <| tr <| rr (.bool false) <| ?_
 have hs : false = true := by obtain ⟨z1, z2, z3⟩ := asc_back (by decide) hX30 q49 hX53; rw [decide_eq_true (Option.some.inj z1)] at q77; simp only [Bool.not_true, Bool.false_or, decide_eq_true_eq] at q77; omega
 rw [hs]
 exact ⟨rfl, U76⟩
 have q77a := (or_f q77).1
 have q77b := (or_f q77).2
 have q77an : (decide (l52 = b)) = true := by simpa using q77a
 have q77anp := of_decide_eq_true q77an
 have q77bp := of_decide_eq_false q77b
 refine skn <| sg <| Pl 1 <| ?_
 have U78 := ut0 hu21 hu36
 have U79 := ut0 U78 hu42
 have U80 := u1 U79 hu45 (ni U78.size hg40)
 have U81 := ut0 U80 hu61
 have U82 := ut0 U81 hu72
 have r83 := ub U82 r17
 refine L0 <| Olw r83 <| ?_
 have r84 := MsgRd.old r19 U82
 refine wo (ascW 1 u t M) (fun hX86 => ?_) (fun l85 hX86 => ?_)
 refine L0 <| Oc <| m1 (asc_write_n hX86 r84 (fewB_few q25bn) (by omega) (by omega)) fun w87 hu88 => Pl 5 <| nt <| sq <| sg <| Pl 2 <| nt <| c0 <| skn <| sq <| ?_
 refine go <| Pl 5 <| sy 93 q49 <| Pl 22 <| nt <| rt <| rr (.bool true) <| ?_
 have U89 := ut0 U76 hu88
 exact ⟨rfl, U89⟩
 have hl90 := ascW_le (r84.rngs).1 hX86
 refine L0 <| Oc <| e2 (asc_write_s hX86 r84 (fewB_few q25bn) (by omega) (by omega)) fun v92 w91 ho93 hu94 => ?_
 rcases OwnF.shape ho93 with ⟨g95, cp96, rfl⟩
 rcases RdG.shape (ho93).rd with ⟨_, _, e97, hl98, hm99⟩
 injection e97 with _ _ e97
 rw [← e97] at hl98 hm99
 refine Pl 5 <| nt <| sq <| sg <| Pl 2 <| nt <| c1 <| sg <| Pl 2 <| ?_
 refine pr (ascP 1 l85) fun F100 E101 hX102 => ?_
 refine L0 <| Oc <| e2 (asc_parse_x hX102 (ho93).rd (by omega)) fun x103 w104 hx109 hu108 => ?_
 obtain ⟨hM105, hF106, hF107⟩ := hx109
 refine Pl 3 <| L0 <| Oal #[.int .u8 0, .int .u16 0, .int .u8 0, .int .u8 0, .int .u16 0, .int .u16 0, .int .u16 0, .int .u16 0, .int .u16 0, .int .u16 0, .int .u16 0, .int .u16 0, .int .u16 0, .int .u16 0, .slice none 0 0, .slice none 0 0, .slice none 0 0, .slice none 0 0, .int .u8 0, .int .u8 0, .int .u8 0, .int .u8 0, .int .u8 0, .slice none 0 0] fun g110 w111 hg112 B113 hu114 => L0 <| Osw B113 (fcl F100.unit F100.tid F100.msg x103) fun w115 B116 hu117 => Pl 1 <| ng <| Pl 3 <| cu 6 [74] 80 (((E101 != 0) || (!((F100.unit == u) && (F100.tid == t))))) (fun K K119 => ?_) ?_
 refine bl 74 ((E101 != 0)) (fun q118 => ?_) (fun q118 => ?_)
 have q118p := ne_of_bnei q118
 exact Pl 6 <| ce K119 true (by rw [q118]; rfl)
 have q118p := eq_of_bnei q118
 refine Pl 1 <| L1 <| Ola B116 0 2 <| Pl 1 <| ?_
 have U120 := ut0 hu94 hu108
 have U121 := ut0 U120 hu114
 have U122 := u1 U121 hu117 (ni U120.size hg112)
 have r123 := ub U122 r83
 exact L1 <| Ola r123 0 2 <| L1 <| Or_ (.bool (!((F100.unit == u) && (F100.tid == t)))) (run_headne F100.unit F100.tid u t rfl (by kernel_rfl) (by kernel_rfl) rfl) <| Pl 1 <| ce K119 (!((F100.unit == u) && (F100.tid == t))) (by rw [q118]; rfl)
 refine Pl 1 <| ?_
 have U124 := ut0 U76 hu94
 have U125 := ut0 U124 hu108
 have U126 := ut0 U125 hu114
 have U127 := u1 U126 hu117 (ni U125.size hg112)
 refine bl 81 (((E101 != 0) || (!((F100.unit == u) && (F100.tid == t))))) (fun q128 => ?_) (fun q128 => ?_)
 refine Pl 7 <| nt <| c1 <| sg <| Pl 1 <| nt <| rt <| tr <| rr (.bool false) <| ?_
 have hs : false = true := by have z := asc_rt2 (by decide) hbu hcM hdM (fun l hz => pduW_byts hM (fewB_few q25bn) l hz) hX86 hX102; rw [z.1, z.2] at q128; simp at q128
 rw [hs]
 exact ⟨rfl, U127⟩
 have q128a := (or_f q128).1
 have q128b := (or_f q128).2
 have q128ap := eq_of_bnei q128a
 have q128bn : ((F100.unit == u) && (F100.tid == t)) = true := by simpa using q128b
 have q128bna := (and_t q128bn).1
 have q128bnb := (and_t q128bn).2
 have q128bnap := eq_of_beqi q128bna
 have q128bnbp := eq_of_beqi q128bnb
 refine Pl 1 <| L1 <| Ola B116 2 22 <| Pl 1 <| ?_
 have U129 := ut0 hu94 hu108
 have U130 := ut0 U129 hu114
 have U131 := u1 U130 hu117 (ni U129.size hg112)
 have r132 := ub U131 r83
 refine L1 <| Ola r132 2 22 <| ?_
 have U133 := u1 hu114 hu117 (nr hg112)
 have r134 := MsgRd.upd hM105 U133 safe0
 have r135 := MsgRd.old r84 U131
 refine L1 <| Oc <| m1 (same7_any r134 r135) fun w136 hu137 => Pl 2 <| nt <| ?_
 have U138 := ut0 U127 hu137
 refine cb ((!(decide (F100.msg = M)))) (fun q139 => ?_) (fun q139 => ?_)
 have q139n : (decide (F100.msg = M)) = false := by simpa using q139
 have q139np := of_decide_eq_false q139n
 refine sg <| Pl 1 <| nt <| rt <| tr <| rr (.bool false) <| ?_
 have hs : false = true := by have z := asc_rt2 (by decide) hbu hcM hdM (fun l hz => pduW_byts hM (fewB_few q25bn) l hz) hX86 hX102; rw [z.1] at q139; simp at q139
 rw [hs]
 exact ⟨rfl, U138⟩
 have q139n : (decide (F100.msg = M)) = true := by simpa using q139
 have q139np := of_decide_eq_true q139n
 refine skn <| sg <| Pl 5 <| sy 93 q49 <| Pl 22 <| nt <| rt <| rr (.bool true) <| ?_
 exact ⟨rfl, U138⟩
 have q49p := ne_of_beqi q49
 refine skn <| sg <| Pl 1 <| ?_
 have U140 := ut0 hu21 hu36
 have U141 := ut0 U140 hu42
 have U142 := u1 U141 hu45 (ni U140.size hg40)
 have r143 := ub U142 r17
 refine L0 <| Olw r143 <| ?_
 have r144 := MsgRd.old r19 U142
 refine wo (ascW 1 u t M) (fun hX146 => ?_) (fun l145 hX146 => ?_)
 refine L0 <| Oc <| m1 (asc_write_n hX146 r144 (fewB_few q25bn) (by omega) (by omega)) fun w147 hu148 => Pl 5 <| nt <| sq <| sg <| Pl 2 <| nt <| c0 <| skn <| sq <| ?_
 refine go <| Pl 5 <| sy 93 q49 <| Pl 1 <| ?_
 have r149 := ub hu148 B44
 refine L1 <| Ola r149 0 2 <| Pl 1 <| L1 <| Or_ (.bool ((F28.unit == 0) && (F28.tid == 0))) (run_headeq F28.unit F28.tid 0 0 rfl (by kernel_rfl) (by kernel_rfl) rfl) <| Pl 1 <| ?_
 have U150 := ut0 U48 hu148
 refine bl 98 (((F28.unit == 0) && (F28.tid == 0))) (fun q151 => ?_) (fun q151 => ?_)
 have q151a := (and_t q151).1
 have q151b := (and_t q151).2
 have q151ap := eq_of_beqi q151a
 have q151bp := eq_of_beqi q151b
 refine Pl 1 <| L1 <| Ola r149 2 22 <| Pl 1 <| ?_
 have U152 := u1 hu42 hu45 (nr hg40)
 have U153 := ut0 U152 hu148
 have r154 := MsgRd.upd hM33 U153 safe0
 refine L1 <| Oc <| m1 (same7_any r154 (show MsgRd true _ _ _ from (MsgRd.zero true _))) fun w155 hu156 => Pl 4 <| cu 8 [106] 114 ((decide (F28.msg = Msg.zero))) (fun K K158 => ?_) ?_
 refine bl 106 ((decide (F28.msg = Msg.zero))) (fun q157 => ?_) (fun q157 => ?_)
 have q157p := of_decide_eq_true q157
 exact Pl 8 <| ce K158 true q157
 have q157p := of_decide_eq_false q157
 exact Pl 8 <| ce K158 false q157
 refine Pl 1 <| nt <| rt <| rr (.bool (decide (F28.msg = Msg.zero))) <| ?_
 have hs : (decide (F28.msg = Msg.zero)) = true := by have z := ((ascP_few hX30).2 (ne_of_beqi q49)); rw [z]; exact decide_eq_true rfl
 rw [hs]
 have U159 := ut0 U150 hu156
 exact ⟨rfl, U159⟩
 refine Pl 17 <| nt <| rt <| rr (.bool false) <| ?_
 have hs : false = true := by have z := ((ascP_few hX30).2 (ne_of_beqi q49)); rw [z] at q151; exact q151.symm
 rw [hs]
 exact ⟨rfl, U150⟩
 have hl160 := ascW_le (r144.rngs).1 hX146
 refine L0 <| Oc <| e2 (asc_write_s hX146 r144 (fewB_few q25bn) (by omega) (by omega)) fun v162 w161 ho163 hu164 => ?_
 rcases OwnF.shape ho163 with ⟨g165, cp166, rfl⟩
 rcases RdG.shape (ho163).rd with ⟨_, _, e167, hl168, hm169⟩
 injection e167 with _ _ e167
 rw [← e167] at hl168 hm169
 refine Pl 5 <| nt <| sq <| sg <| Pl 2 <| nt <| c1 <| sg <| Pl 2 <| ?_
 refine pr (ascP 1 l145) fun F170 E171 hX172 => ?_
 refine L0 <| Oc <| e2 (asc_parse_x hX172 (ho163).rd (by omega)) fun x173 w174 hx179 hu178 => ?_
 obtain ⟨hM175, hF176, hF177⟩ := hx179
 refine Pl 3 <| L0 <| Oal #[.int .u8 0, .int .u16 0, .int .u8 0, .int .u8 0, .int .u16 0, .int .u16 0, .int .u16 0, .int .u16 0, .int .u16 0, .int .u16 0, .int .u16 0, .int .u16 0, .int .u16 0, .int .u16 0, .slice none 0 0, .slice none 0 0, .slice none 0 0, .slice none 0 0, .int .u8 0, .int .u8 0, .int .u8 0, .int .u8 0, .int .u8 0, .slice none 0 0] fun g180 w181 hg182 B183 hu184 => L0 <| Osw B183 (fcl F170.unit F170.tid F170.msg x173) fun w185 B186 hu187 => Pl 1 <| ng <| Pl 3 <| cu 6 [74] 80 (((E171 != 0) || (!((F170.unit == u) && (F170.tid == t))))) (fun K K189 => ?_) ?_
 refine bl 74 ((E171 != 0)) (fun q188 => ?_) (fun q188 => ?_)
 have q188p := ne_of_bnei q188
 exact Pl 6 <| ce K189 true (by rw [q188]; rfl)
 have q188p := eq_of_bnei q188
 refine Pl 1 <| L1 <| Ola B186 0 2 <| Pl 1 <| ?_
 have U190 := ut0 hu164 hu178
 have U191 := ut0 U190 hu184
 have U192 := u1 U191 hu187 (ni U190.size hg182)
 have r193 := ub U192 r143
 exact L1 <| Ola r193 0 2 <| L1 <| Or_ (.bool (!((F170.unit == u) && (F170.tid == t)))) (run_headne F170.unit F170.tid u t rfl (by kernel_rfl) (by kernel_rfl) rfl) <| Pl 1 <| ce K189 (!((F170.unit == u) && (F170.tid == t))) (by rw [q188]; rfl)
 refine Pl 1 <| ?_
 have U194 := ut0 U48 hu164
 have U195 := ut0 U194 hu178
 have U196 := ut0 U195 hu184
 have U197 := u1 U196 hu187 (ni U195.size hg182)
 refine bl 81 (((E171 != 0) || (!((F170.unit == u) && (F170.tid == t))))) (fun q198 => ?_) (fun q198 => ?_)
 refine Pl 7 <| nt <| c1 <| sg <| Pl 1 <| nt <| rt <| tr <| rr (.bool false) <| ?_
 have hs : false = true := by have z := asc_rt2 (by decide) hbu hcM hdM (fun l hz => pduW_byts hM (fewB_few q25bn) l hz) hX146 hX172; rw [z.1, z.2] at q198; simp at q198
 rw [hs]
 exact ⟨rfl, U197⟩
 have q198a := (or_f q198).1
 have q198b := (or_f q198).2
 have q198ap := eq_of_bnei q198a
 have q198bn : ((F170.unit == u) && (F170.tid == t)) = true := by simpa using q198b
 have q198bna := (and_t q198bn).1
 have q198bnb := (and_t q198bn).2
 have q198bnap := eq_of_beqi q198bna
 have q198bnbp := eq_of_beqi q198bnb
 refine Pl 1 <| L1 <| Ola B186 2 22 <| Pl 1 <| ?_
 have U199 := ut0 hu164 hu178
 have U200 := ut0 U199 hu184
 have U201 := u1 U200 hu187 (ni U199.size hg182)
 have r202 := ub U201 r143
 refine L1 <| Ola r202 2 22 <| ?_
 have U203 := u1 hu184 hu187 (nr hg182)
 have r204 := MsgRd.upd hM175 U203 safe0
 have r205 := MsgRd.old r144 U201
 refine L1 <| Oc <| m1 (same7_any r204 r205) fun w206 hu207 => Pl 2 <| nt <| ?_
 have U208 := ut0 U197 hu207
 refine cb ((!(decide (F170.msg = M)))) (fun q209 => ?_) (fun q209 => ?_)
 have q209n : (decide (F170.msg = M)) = false := by simpa using q209
 have q209np := of_decide_eq_false q209n
 refine sg <| Pl 1 <| nt <| rt <| tr <| rr (.bool false) <| ?_
 have hs : false = true := by have z := asc_rt2 (by decide) hbu hcM hdM (fun l hz => pduW_byts hM (fewB_few q25bn) l hz) hX146 hX172; rw [z.1] at q209; simp at q209
 rw [hs]
 exact ⟨rfl, U208⟩
 have q209n : (decide (F170.msg = M)) = true := by simpa using q209
 have q209np := of_decide_eq_true q209n
 refine skn <| sg <| Pl 5 <| sy 93 q49 <| Pl 1 <| ?_
 have U210 := ut0 U201 hu207
 have r211 := ub U210 B44
 refine L1 <| Ola r211 0 2 <| Pl 1 <| L1 <| Or_ (.bool ((F28.unit == 0) && (F28.tid == 0))) (run_headeq F28.unit F28.tid 0 0 rfl (by kernel_rfl) (by kernel_rfl) rfl) <| Pl 1 <| bl 98 (((F28.unit == 0) && (F28.tid == 0))) (fun q212 => ?_) (fun q212 => ?_)
 have q212a := (and_t q212).1
 have q212b := (and_t q212).2
 have q212ap := eq_of_beqi q212a
 have q212bp := eq_of_beqi q212b
 refine Pl 1 <| L1 <| Ola r211 2 22 <| Pl 1 <| ?_
 have U213 := u1 hu42 hu45 (nr hg40)
 have U214 := ut0 U213 hu164
 have U215 := ut0 U214 hu178
 have U216 := ut0 U215 hu184
 have U217 := u1 U216 hu187 (ni U215.size hg182)
 have U218 := ut0 U217 hu207
 have r219 := MsgRd.upd hM33 U218 safe0
 refine L1 <| Oc <| m1 (same7_any r219 (show MsgRd true _ _ _ from (MsgRd.zero true _))) fun w220 hu221 => Pl 4 <| cu 8 [106] 114 ((decide (F28.msg = Msg.zero))) (fun K K223 => ?_) ?_
 refine bl 106 ((decide (F28.msg = Msg.zero))) (fun q222 => ?_) (fun q222 => ?_)
 have q222p := of_decide_eq_true q222
 exact Pl 8 <| ce K223 true q222
 have q222p := of_decide_eq_false q222
 exact Pl 8 <| ce K223 false q222
 refine Pl 1 <| nt <| rt <| rr (.bool (decide (F28.msg = Msg.zero))) <| ?_
 have hs : (decide (F28.msg = Msg.zero)) = true := by have z := ((ascP_few hX30).2 (ne_of_beqi q49)); rw [z]; exact decide_eq_true rfl
 rw [hs]
 have U224 := ut0 U208 hu221
 exact ⟨rfl, U224⟩
 refine Pl 17 <| nt <| rt <| rr (.bool false) <| ?_
 have hs : false = true := by have z := ((ascP_few hX30).2 (ne_of_beqi q49)); rw [z] at q212; exact q212.symm
 rw [hs]
 exact ⟨rfl, U208⟩
 refine skn <| sg <| Pl 2 <| ?_
 have r225 := RdB.old hb U24
 refine pr (ascP 0 b) fun F226 E227 hX228 => ?_
 refine L0 <| Oc <| e2 (asc_parse_x hX228 r225 (by omega)) fun x229 w230 hx235 hu234 => ?_
 obtain ⟨hM231, hF232, hF233⟩ := hx235
 refine Pl 3 <| L0 <| Oal #[.int .u8 0, .int .u16 0, .int .u8 0, .int .u8 0, .int .u16 0, .int .u16 0, .int .u16 0, .int .u16 0, .int .u16 0, .int .u16 0, .int .u16 0, .int .u16 0, .int .u16 0, .int .u16 0, .slice none 0 0, .slice none 0 0, .slice none 0 0, .slice none 0 0, .int .u8 0, .int .u8 0, .int .u8 0, .int .u8 0, .int .u8 0, .slice none 0 0] fun g236 w237 hg238 B239 hu240 => L0 <| Osw B239 (fcl F226.unit F226.tid F226.msg x229) fun w241 B242 hu243 => Pl 1 <| nt <| sq <| sg <| Pl 2 <| nt <| ?_
 have U244 := ut0 U24 hu234
 have U245 := ut0 U244 hu240
 have U246 := u1 U245 hu243 (ni U244.size hg238)
 refine cb ((E227 == 0)) (fun q247 => ?_) (fun q247 => ?_)
 have q247p := eq_of_beqi q247
 refine sg <| Pl 1 <| L0 <| Olw B242 <| ?_
 have U248 := u1 hu240 hu243 (nr hg238)
 have r249 := MsgRd.upd hM231 U248 safe0
 refine wo (ascW 0 F226.unit F226.tid F226.msg) (fun hX251 => ?_) (fun l250 hX251 => ?_)
 refine L0 <| Oc <| m1 (asc_write_n hX251 r249 (ascP_few hX228).1 (by omega) (by omega)) fun w252 hu253 => Pl 5 <| ng <| Pl 13 <| nt <| c1 <| sg <| Pl 1 <| nl <| ?_
 refine tn <| rt <| tr <| rr (.bool false) <| ?_
 have hs : false = true := by obtain ⟨z1, z2, z3⟩ := asc_back (by decide) hX228 q247 hX251; cases z1
 rw [hs]
 have U254 := ut0 U246 hu253
 exact ⟨rfl, U254⟩
 have hl255 := ascW_le (r249.rngs).1 hX251
 refine L0 <| Oc <| e2 (asc_write_s hX251 r249 (ascP_few hX228).1 (by omega) (by omega)) fun v257 w256 ho258 hu259 => ?_
 rcases OwnF.shape ho258 with ⟨g260, cp261, rfl⟩
 rcases RdG.shape (ho258).rd with ⟨_, _, e262, hl263, hm264⟩
 injection e262 with _ _ e262
 rw [← e262] at hl263 hm264
 refine Pl 5 <| ng <| Pl 5 <| ?_
 have U265 := ut0 hu234 hu240
 have U266 := u1 U265 hu243 (ni hu234.size hg238)
 have U267 := ut0 U266 hu259
 have r268 := RdB.old r225 U267
 refine L1 <| Oc (args := #[.slice (some ⟨g260, 0, none⟩) l250.length cp261, .slice A b.length cpA]) <| m1 (same1_any (xs := l250) (ys := b) (ho258).rd r268) fun w269 hu270 => Pl 3 <| cu 4 [53] 57 (((!(decide (l250 = b))) || (decide (513 < ((b.length : Nat) : Int))))) (fun K K272 => ?_) ?_
 refine bl 53 ((!(decide (l250 = b)))) (fun q271 => ?_) (fun q271 => ?_)
 have q271n : (decide (l250 = b)) = false := by simpa using q271
 have q271np := of_decide_eq_false q271n
 exact Pl 4 <| ce K272 true (by rw [q271]; rfl)
 have q271n : (decide (l250 = b)) = true := by simpa using q271
 have q271np := of_decide_eq_true q271n
 exact Pl 4 <| ce K272 (decide (513 < ((b.length : Nat) : Int))) (by rw [q271]; rfl)
 refine nt <| ?_
 have U273 := ut0 U246 hu259
 have U274 := ut0 U273 hu270
 refine cb (((!(decide (l250 = b))) || (decide (513 < ((b.length : Nat) : Int))))) (fun q275 => ?_) (fun q275 => ?_)
 refine sg <| Pl 1 <| nt <| rt <| tr <| rr (.bool false) <| ?_
 have hs : false = true := by obtain ⟨z1, z2, z3⟩ := asc_back (by decide) hX228 q247 hX251; rw [decide_eq_true (Option.some.inj z1)] at q275; simp only [Bool.not_true, Bool.false_or, decide_eq_true_eq] at q275; omega
 rw [hs]
 exact ⟨rfl, U274⟩
 have q275a := (or_f q275).1
 have q275b := (or_f q275).2
 have q275an : (decide (l250 = b)) = true := by simpa using q275a
 have q275anp := of_decide_eq_true q275an
 have q275bp := of_decide_eq_false q275b
 refine skn <| sg <| Pl 1 <| ?_
 have U276 := ut0 hu21 hu234
 have U277 := ut0 U276 hu240
 have U278 := u1 U277 hu243 (ni U276.size hg238)
 have U279 := ut0 U278 hu259
 have U280 := ut0 U279 hu270
 have r281 := ub U280 r17
 refine L0 <| Olw r281 <| ?_
 have r282 := MsgRd.old r19 U280
 refine wo (ascW 0 u t M) (fun hX284 => ?_) (fun l283 hX284 => ?_)
 refine L0 <| Oc <| m1 (asc_write_n hX284 r282 (fewB_few q25bn) (by omega) (by omega)) fun w285 hu286 => Pl 5 <| nt <| sq <| sg <| Pl 2 <| nt <| c0 <| skn <| sq <| ?_
 refine go <| Pl 5 <| sy 93 q247 <| Pl 22 <| nt <| rt <| rr (.bool true) <| ?_
 have U287 := ut0 U274 hu286
 exact ⟨rfl, U287⟩
 have hl288 := ascW_le (r282.rngs).1 hX284
 refine L0 <| Oc <| e2 (asc_write_s hX284 r282 (fewB_few q25bn) (by omega) (by omega)) fun v290 w289 ho291 hu292 => ?_
 rcases OwnF.shape ho291 with ⟨g293, cp294, rfl⟩
 rcases RdG.shape (ho291).rd with ⟨_, _, e295, hl296, hm297⟩
 injection e295 with _ _ e295
 rw [← e295] at hl296 hm297
 refine Pl 5 <| nt <| sq <| sg <| Pl 2 <| nt <| c1 <| sg <| Pl 2 <| ?_
 refine pr (ascP 0 l283) fun F298 E299 hX300 => ?_
 refine L0 <| Oc <| e2 (asc_parse_x hX300 (ho291).rd (by omega)) fun x301 w302 hx307 hu306 => ?_
 obtain ⟨hM303, hF304, hF305⟩ := hx307
 refine Pl 3 <| L0 <| Oal #[.int .u8 0, .int .u16 0, .int .u8 0, .int .u8 0, .int .u16 0, .int .u16 0, .int .u16 0, .int .u16 0, .int .u16 0, .int .u16 0, .int .u16 0, .int .u16 0, .int .u16 0, .int .u16 0, .slice none 0 0, .slice none 0 0, .slice none 0 0, .slice none 0 0, .int .u8 0, .int .u8 0, .int .u8 0, .int .u8 0, .int .u8 0, .slice none 0 0] fun g308 w309 hg310 B311 hu312 => L0 <| Osw B311 (fcl F298.unit F298.tid F298.msg x301) fun w313 B314 hu315 => Pl 1 <| ng <| Pl 3 <| cu 6 [74] 80 (((E299 != 0) || (!((F298.unit == u) && (F298.tid == t))))) (fun K K317 => ?_) ?_
 refine bl 74 ((E299 != 0)) (fun q316 => ?_) (fun q316 => ?_)
 have q316p := ne_of_bnei q316
 exact Pl 6 <| ce K317 true (by rw [q316]; rfl)
 have q316p := eq_of_bnei q316
 refine Pl 1 <| L1 <| Ola B314 0 2 <| Pl 1 <| ?_
 have U318 := ut0 hu292 hu306
 have U319 := ut0 U318 hu312
 have U320 := u1 U319 hu315 (ni U318.size hg310)
 have r321 := ub U320 r281
 exact L1 <| Ola r321 0 2 <| L1 <| Or_ (.bool (!((F298.unit == u) && (F298.tid == t)))) (run_headne F298.unit F298.tid u t rfl (by kernel_rfl) (by kernel_rfl) rfl) <| Pl 1 <| ce K317 (!((F298.unit == u) && (F298.tid == t))) (by rw [q316]; rfl)
 refine Pl 1 <| ?_
 have U322 := ut0 U274 hu292
 have U323 := ut0 U322 hu306
 have U324 := ut0 U323 hu312
 have U325 := u1 U324 hu315 (ni U323.size hg310)
 refine bl 81 (((E299 != 0) || (!((F298.unit == u) && (F298.tid == t))))) (fun q326 => ?_) (fun q326 => ?_)
 refine Pl 7 <| nt <| c1 <| sg <| Pl 1 <| nt <| rt <| tr <| rr (.bool false) <| ?_
 have hs : false = true := by have z := asc_rt2 (by decide) hbu hcM hdM (fun l hz => pduW_byts hM (fewB_few q25bn) l hz) hX284 hX300; rw [z.1, z.2] at q326; simp at q326
 rw [hs]
 exact ⟨rfl, U325⟩
 have q326a := (or_f q326).1
 have q326b := (or_f q326).2
 have q326ap := eq_of_bnei q326a
 have q326bn : ((F298.unit == u) && (F298.tid == t)) = true := by simpa using q326b
 have q326bna := (and_t q326bn).1
 have q326bnb := (and_t q326bn).2
 have q326bnap := eq_of_beqi q326bna
 have q326bnbp := eq_of_beqi q326bnb
 refine Pl 1 <| L1 <| Ola B314 2 22 <| Pl 1 <| ?_
 have U327 := ut0 hu292 hu306
 have U328 := ut0 U327 hu312
 have U329 := u1 U328 hu315 (ni U327.size hg310)
 have r330 := ub U329 r281
 refine L1 <| Ola r330 2 22 <| ?_
 have U331 := u1 hu312 hu315 (nr hg310)
 have r332 := MsgRd.upd hM303 U331 safe0
 have r333 := MsgRd.old r282 U329
 refine L1 <| Oc <| m1 (same7_any r332 r333) fun w334 hu335 => Pl 2 <| nt <| ?_
 have U336 := ut0 U325 hu335
 refine cb ((!(decide (F298.msg = M)))) (fun q337 => ?_) (fun q337 => ?_)
 have q337n : (decide (F298.msg = M)) = false := by simpa using q337
 have q337np := of_decide_eq_false q337n
 refine sg <| Pl 1 <| nt <| rt <| tr <| rr (.bool false) <| ?_
 have hs : false = true := by have z := asc_rt2 (by decide) hbu hcM hdM (fun l hz => pduW_byts hM (fewB_few q25bn) l hz) hX284 hX300; rw [z.1] at q337; simp at q337
 rw [hs]
 exact ⟨rfl, U336⟩
 have q337n : (decide (F298.msg = M)) = true := by simpa using q337
 have q337np := of_decide_eq_true q337n
 refine skn <| sg <| Pl 5 <| sy 93 q247 <| Pl 22 <| nt <| rt <| rr (.bool true) <| ?_
 exact ⟨rfl, U336⟩
 have q247p := ne_of_beqi q247
 refine skn <| sg <| Pl 1 <| ?_
 have U338 := ut0 hu21 hu234
 have U339 := ut0 U338 hu240
 have U340 := u1 U339 hu243 (ni U338.size hg238)
 have r341 := ub U340 r17
 refine L0 <| Olw r341 <| ?_
 have r342 := MsgRd.old r19 U340
 refine wo (ascW 0 u t M) (fun hX344 => ?_) (fun l343 hX344 => ?_)
 refine L0 <| Oc <| m1 (asc_write_n hX344 r342 (fewB_few q25bn) (by omega) (by omega)) fun w345 hu346 => Pl 5 <| nt <| sq <| sg <| Pl 2 <| nt <| c0 <| skn <| sq <| ?_
 refine go <| Pl 5 <| sy 93 q247 <| Pl 1 <| ?_
 have r347 := ub hu346 B242
 refine L1 <| Ola r347 0 2 <| Pl 1 <| L1 <| Or_ (.bool ((F226.unit == 0) && (F226.tid == 0))) (run_headeq F226.unit F226.tid 0 0 rfl (by kernel_rfl) (by kernel_rfl) rfl) <| Pl 1 <| ?_
 have U348 := ut0 U246 hu346
 refine bl 98 (((F226.unit == 0) && (F226.tid == 0))) (fun q349 => ?_) (fun q349 => ?_)
 have q349a := (and_t q349).1
 have q349b := (and_t q349).2
 have q349ap := eq_of_beqi q349a
 have q349bp := eq_of_beqi q349b
 refine Pl 1 <| L1 <| Ola r347 2 22 <| Pl 1 <| ?_
 have U350 := u1 hu240 hu243 (nr hg238)
 have U351 := ut0 U350 hu346
 have r352 := MsgRd.upd hM231 U351 safe0
 refine L1 <| Oc <| m1 (same7_any r352 (show MsgRd true _ _ _ from (MsgRd.zero true _))) fun w353 hu354 => Pl 4 <| cu 8 [106] 114 ((decide (F226.msg = Msg.zero))) (fun K K356 => ?_) ?_
 refine bl 106 ((decide (F226.msg = Msg.zero))) (fun q355 => ?_) (fun q355 => ?_)
 have q355p := of_decide_eq_true q355
 exact Pl 8 <| ce K356 true q355
 have q355p := of_decide_eq_false q355
 exact Pl 8 <| ce K356 false q355
 refine Pl 1 <| nt <| rt <| rr (.bool (decide (F226.msg = Msg.zero))) <| ?_
 have hs : (decide (F226.msg = Msg.zero)) = true := by have z := ((ascP_few hX228).2 (ne_of_beqi q247)); rw [z]; exact decide_eq_true rfl
 rw [hs]
 have U357 := ut0 U348 hu354
 exact ⟨rfl, U357⟩
 refine Pl 17 <| nt <| rt <| rr (.bool false) <| ?_
 have hs : false = true := by have z := ((ascP_few hX228).2 (ne_of_beqi q247)); rw [z] at q349; exact q349.symm
 rw [hs]
 exact ⟨rfl, U348⟩
 have hl358 := ascW_le (r342.rngs).1 hX344
 refine L0 <| Oc <| e2 (asc_write_s hX344 r342 (fewB_few q25bn) (by omega) (by omega)) fun v360 w359 ho361 hu362 => ?_
 rcases OwnF.shape ho361 with ⟨g363, cp364, rfl⟩
 rcases RdG.shape (ho361).rd with ⟨_, _, e365, hl366, hm367⟩
 injection e365 with _ _ e365
 rw [← e365] at hl366 hm367
 refine Pl 5 <| nt <| sq <| sg <| Pl 2 <| nt <| c1 <| sg <| Pl 2 <| ?_
 refine pr (ascP 0 l343) fun F368 E369 hX370 => ?_
 refine L0 <| Oc <| e2 (asc_parse_x hX370 (ho361).rd (by omega)) fun x371 w372 hx377 hu376 => ?_
 obtain ⟨hM373, hF374, hF375⟩ := hx377
 refine Pl 3 <| L0 <| Oal #[.int .u8 0, .int .u16 0, .int .u8 0, .int .u8 0, .int .u16 0, .int .u16 0, .int .u16 0, .int .u16 0, .int .u16 0, .int .u16 0, .int .u16 0, .int .u16 0, .int .u16 0, .int .u16 0, .slice none 0 0, .slice none 0 0, .slice none 0 0, .slice none 0 0, .int .u8 0, .int .u8 0, .int .u8 0, .int .u8 0, .int .u8 0, .slice none 0 0] fun g378 w379 hg380 B381 hu382 => L0 <| Osw B381 (fcl F368.unit F368.tid F368.msg x371) fun w383 B384 hu385 => Pl 1 <| ng <| Pl 3 <| cu 6 [74] 80 (((E369 != 0) || (!((F368.unit == u) && (F368.tid == t))))) (fun K K387 => ?_) ?_
 refine bl 74 ((E369 != 0)) (fun q386 => ?_) (fun q386 => ?_)
 have q386p := ne_of_bnei q386
 exact Pl 6 <| ce K387 true (by rw [q386]; rfl)
 have q386p := eq_of_bnei q386
 refine Pl 1 <| L1 <| Ola B384 0 2 <| Pl 1 <| ?_
 have U388 := ut0 hu362 hu376
 have U389 := ut0 U388 hu382
 have U390 := u1 U389 hu385 (ni U388.size hg380)
 have r391 := ub U390 r341
 exact L1 <| Ola r391 0 2 <| L1 <| Or_ (.bool (!((F368.unit == u) && (F368.tid == t)))) (run_headne F368.unit F368.tid u t rfl (by kernel_rfl) (by kernel_rfl) rfl) <| Pl 1 <| ce K387 (!((F368.unit == u) && (F368.tid == t))) (by rw [q386]; rfl)
 refine Pl 1 <| ?_
 have U392 := ut0 U246 hu362
 have U393 := ut0 U392 hu376
 have U394 := ut0 U393 hu382
 have U395 := u1 U394 hu385 (ni U393.size hg380)
 refine bl 81 (((E369 != 0) || (!((F368.unit == u) && (F368.tid == t))))) (fun q396 => ?_) (fun q396 => ?_)
 refine Pl 7 <| nt <| c1 <| sg <| Pl 1 <| nt <| rt <| tr <| rr (.bool false) <| ?_
 have hs : false = true := by have z := asc_rt2 (by decide) hbu hcM hdM (fun l hz => pduW_byts hM (fewB_few q25bn) l hz) hX344 hX370; rw [z.1, z.2] at q396; simp at q396
 rw [hs]
 exact ⟨rfl, U395⟩
 have q396a := (or_f q396).1
 have q396b := (or_f q396).2
 have q396ap := eq_of_bnei q396a
 have q396bn : ((F368.unit == u) && (F368.tid == t)) = true := by simpa using q396b
 have q396bna := (and_t q396bn).1
 have q396bnb := (and_t q396bn).2
 have q396bnap := eq_of_beqi q396bna
 have q396bnbp := eq_of_beqi q396bnb
 refine Pl 1 <| L1 <| Ola B384 2 22 <| Pl 1 <| ?_
 have U397 := ut0 hu362 hu376
 have U398 := ut0 U397 hu382
 have U399 := u1 U398 hu385 (ni U397.size hg380)
 have r400 := ub U399 r341
 refine L1 <| Ola r400 2 22 <| ?_
 have U401 := u1 hu382 hu385 (nr hg380)
 have r402 := MsgRd.upd hM373 U401 safe0
 have r403 := MsgRd.old r342 U399
 refine L1 <| Oc <| m1 (same7_any r402 r403) fun w404 hu405 => Pl 2 <| nt <| ?_
 have U406 := ut0 U395 hu405
 refine cb ((!(decide (F368.msg = M)))) (fun q407 => ?_) (fun q407 => ?_)
 have q407n : (decide (F368.msg = M)) = false := by simpa using q407
 have q407np := of_decide_eq_false q407n
 refine sg <| Pl 1 <| nt <| rt <| tr <| rr (.bool false) <| ?_
 have hs : false = true := by have z := asc_rt2 (by decide) hbu hcM hdM (fun l hz => pduW_byts hM (fewB_few q25bn) l hz) hX344 hX370; rw [z.1] at q407; simp at q407
 rw [hs]
 exact ⟨rfl, U406⟩
 have q407n : (decide (F368.msg = M)) = true := by simpa using q407
 have q407np := of_decide_eq_true q407n
 refine skn <| sg <| Pl 5 <| sy 93 q247 <| Pl 1 <| ?_
 have U408 := ut0 U399 hu405
 have r409 := ub U408 B242
 refine L1 <| Ola r409 0 2 <| Pl 1 <| L1 <| Or_ (.bool ((F226.unit == 0) && (F226.tid == 0))) (run_headeq F226.unit F226.tid 0 0 rfl (by kernel_rfl) (by kernel_rfl) rfl) <| Pl 1 <| bl 98 (((F226.unit == 0) && (F226.tid == 0))) (fun q410 => ?_) (fun q410 => ?_)
 have q410a := (and_t q410).1
 have q410b := (and_t q410).2
 have q410ap := eq_of_beqi q410a
 have q410bp := eq_of_beqi q410b
 refine Pl 1 <| L1 <| Ola r409 2 22 <| Pl 1 <| ?_
 have U411 := u1 hu240 hu243 (nr hg238)
 have U412 := ut0 U411 hu362
 have U413 := ut0 U412 hu376
 have U414 := ut0 U413 hu382
 have U415 := u1 U414 hu385 (ni U413.size hg380)
 have U416 := ut0 U415 hu405
 have r417 := MsgRd.upd hM231 U416 safe0
 refine L1 <| Oc <| m1 (same7_any r417 (show MsgRd true _ _ _ from (MsgRd.zero true _))) fun w418 hu419 => Pl 4 <| cu 8 [106] 114 ((decide (F226.msg = Msg.zero))) (fun K K421 => ?_) ?_
 refine bl 106 ((decide (F226.msg = Msg.zero))) (fun q420 => ?_) (fun q420 => ?_)
 have q420p := of_decide_eq_true q420
 exact Pl 8 <| ce K421 true q420
 have q420p := of_decide_eq_false q420
 exact Pl 8 <| ce K421 false q420
 refine Pl 1 <| nt <| rt <| rr (.bool (decide (F226.msg = Msg.zero))) <| ?_
 have hs : (decide (F226.msg = Msg.zero)) = true := by have z := ((ascP_few hX228).2 (ne_of_beqi q247)); rw [z]; exact decide_eq_true rfl
 rw [hs]
 have U422 := ut0 U406 hu419
 exact ⟨rfl, U422⟩
 refine Pl 17 <| nt <| rt <| rr (.bool false) <| ?_
 have hs : false = true := by have z := ((ascP_few hX228).2 (ne_of_beqi q247)); rw [z] at q410; exact q410.symm
 rw [hs]
 exact ⟨rfl, U406⟩
theorem lawAscBackV {w : World} {ans : Bool} {mA : Bool} {vA : Value} {b : List Int} (hb : RdB mA w vA b) {u t : Int} {M : Msg} {xM : SL} {mM : Bool} (hM : MsgRd mM w (mcl M xM).toList M) (hbu : 0 ≤ u ∧ u < 256) (hbt : 0 ≤ t ∧ t < 65536) : Calls Tryz.prog 13 #[.bool ans, vA, .agg (fcl u t M xM)] w (PVal (.bool true) w) := by
  obtain ⟨AA, cpA, rfl, _, _⟩ := hb.shape
  exact lawAscBack (ans := ans) hb hM hbu hbt
end Go.Proofs.YtgjlbabefogepaaGreat
namespace Go.Proofs.YtgjlbabefogepaaGreat
open Go.ChangeShapes Go.WideShapes Go.ChangeAt Go.RowKit
theorem own : ownKnob Tryz.prog.godebug = none := by kernel_rfl
theorem laidOut : laidOutB Tryz.prog = true := by kernel_rfl
set_option maxRecDepth 100000 in
theorem lifted (os : Os) (started : os.Started) (H : Type) (enc : TypeId × Value → H) :
    ReturnsInHanded {} Tryz.checked os 13 .any (Rows.ascBackSpec.pre6 enc Tryz.prog Tryz.f13 Rows.ascBackRow.domain false) (Rows.ascBackSpec.post enc Tryz.prog Tryz.f13 false true false false) := by
  refine returnsInHanded_of_change (C := Tryz.checked) own started (by kernel_rfl) Tryz.func13
    (ChangeSpec.witness6 (enc := enc) (C := Tryz.checked) false ⟨#[], #[.bool false, .slice none 0 0, .agg #[.int .u8 0, .int .u16 0, .int .u8 0, .int .u8 0, .int .u16 0, .int .u16 0, .int .u16 0, .int .u16 0, .int .u16 0, .int .u16 0, .int .u16 0, .int .u16 0, .int .u16 0, .int .u16 0, .slice none 0 0, .slice none 0 0, .slice none 0 0, .slice none 0 0, .int .u8 0, .int .u8 0, .int .u8 0, .int .u8 0, .int .u8 0, .slice none 0 0]], []⟩ 8 (by kernel_rfl) (by kernel_rfl) (by kernel_rfl) (by kernel_rfl)) ?_
  intro W base args ds gs before hval0 hW hcnd _
  have hval : ∀ (j : Nat) t v, Tryz.f13.params[j]? = some t → args[j]? = some v → Value.okWide Tryz.prog W .any base t v := hval0
  have hW' := hW
  obtain ⟨p, q, hA0, hV, rfl, hfz, hnd⟩ := hW
  have hA : DataW.TrodAll enc Tryz.prog W 0 (fun _ => true) true Tryz.f13.params.toList args.toList ds p := hA0
  rw [Tryz.params13] at hA hval
  obtain ⟨v0, vs0, d0, ds0, p0, q0, hargs, rfl, rfl, h0, r0⟩ := trodAll_cons hA
  obtain ⟨v1, vs1, d1, ds1, p1, q1, rfl, rfl, rfl, h1, r1⟩ := trodAll_cons r0
  obtain ⟨v2, vs2, d2, ds2, p2, q2, rfl, rfl, rfl, h2, r2⟩ := trodAll_cons r1
  obtain ⟨rfl, rfl, rfl⟩ := trodAll_nil r2
  obtain rfl : args = #[v0, v1, v2] := by cases args; simp_all
  obtain ⟨rfl, rfl⟩ := trodVars_none hV
  obtain ⟨a0, rfl, rfl, rfl⟩ := open_bool Tryz.underlying4 (hval 0 4 v0 rfl rfl) h0
  have k1 := h1
  have lt1 : ∀ x ∈ p1, x.block < W.heap.size := by obtain ⟨m, hm⟩ := k1; exact DataW.trod_lt m _ _ _ hm
  obtain ⟨s1, len1, cap1, rfl⟩ := okWide_slice Tryz.underlying29 (hval 1 29 v1 rfl rfl)
  obtain ⟨u1, xs1, e1, R1⟩ : ∃ u xs, [Value.slice s1 len1 cap1] = [u] ∧ RdB false W u xs := by
    obtain ⟨fuel, hf⟩ := k1
    exact sl_u8 hf
  obtain rfl : Value.slice s1 len1 cap1 = u1 := by simpa using e1
  have k2 := h2
  have lt2 : ∀ x ∈ p2, x.block < W.heap.size := by obtain ⟨m, hm⟩ := k2; exact DataW.trod_lt m _ _ _ hm
  obtain ⟨u2, t2, M2, x2, rfl, R2, bu2, bt2⟩ := frm_arg ⟨_, hval 2 47 v2 rfl rfl⟩ h2
  clear hA0 hval0
  refine (lawAscBackV (ans := a0) R1 R2 bu2 bt2).mono fun e W' ⟨he, hu⟩ => ?_
  have bel := upd_below hu
  subst he
  exact ⟨_, rfl, _, _, _, [], _, [], hW', trodAll_mk1 (shut_bool Tryz.underlying4 _), (trodAll_cons_mk (shut_bool Tryz.underlying4 _) (trodAll_cons_mk (Below.trod laidOut (by kernel_rfl) (of_decide_eq_true (by kernel_rfl)) k1 bel lt1) (trodAll_cons_mk (Below.trod laidOut (by kernel_rfl) (of_decide_eq_true (by kernel_rfl)) k2 bel lt2) trodAll_mk0))), rfl, bel.frame _, fun h => by cases h⟩
theorem over : Rows.ascBackRow.holds Tryz.pinned (OpenSpec.ofChange Rows.ascBackSpec) :=
  OpenClaim.holds_of_wide 13 Tryz.f13 rfl rfl rfl rfl rfl rfl rfl ⟨rfl, rfl, rfl, rfl, rfl⟩ rfl rfl rfl rfl rfl (by kernel_rfl) Tryz.func13 (by kernel_rfl)
    (of_decide_eq_true (by kernel_rfl)) (by unfold Func.isWrapper; first | (rw [if_pos (by decide +kernel)]; kernel_rfl) | (rw [if_neg (by decide +kernel)]; exact ⟨rfl, rfl⟩))
    (fun os started H enc _ => lifted os started H enc)
theorem proved : Rows.AscBackSaid := over
#print axioms proved
end Go.Proofs.YtgjlbabefogepaaGreat
