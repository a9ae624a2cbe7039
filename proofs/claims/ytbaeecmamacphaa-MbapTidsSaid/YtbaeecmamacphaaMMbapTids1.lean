/- The statement MbapTids holds; no condition of its own. -/
import Derived.Test.YtbaeecmamacphaaKA1
import Derived.Test.YtbaeecmamacphaaKA2
import Derived.Test.YtbaeecmamacphaaKA3
import Derived.Test.YtbaeecmamacphaaKA4
import Derived.Test.YtbaeecmamacphaaKA5
import Derived.Test.YtbaeecmamacphaaKB1
import Derived.Test.YtbaeecmamacphaaRows
import Derived.WalkKit
import Derived.ProofKit
import Derived.OpenShut
import Derived.ShutString
import Derived.ChangeOld
import Derived.Below
set_option linter.unusedVariables false
set_option linter.unusedSimpArgs false
namespace Go.Proofs.Ytbaeecmamacphaa
open Go.RowKit
set_option maxRecDepth 100000 in
set_option maxHeartbeats 4000000 in
theorem lawMbapTids {w : World} {ans : Bool} {tid : Int} (htid : 0 ≤ tid ∧ tid < 65536) {u t : Int} {M : Msg} {xM : SL} {mM : Bool} (hM : MsgRd mM w (mcl M xM).toList M) (hbu : 0 ≤ u ∧ u < 256) (hbt : 0 ≤ t ∧ t < 65536) :
    Calls Try.prog 11 #[.bool ans, .agg (fcl u t M xM), .int .u16 tid] w (PVal (.bool true) w) := by
 have hRM := hM.rngs
 obtain ⟨hcM, hdM⟩ := hRM
 refine en 110 Try.func11 rfl <| sg <| L0 <| Obx (fcl u t M xM) fun g10 w11 hg12 B13 hu14 => Pl 1 <| ng <| L0 <| Oc <| m1 (@awake17 _) fun w15 hu16 => Pl 1 <| nt <| sq <| ?_
 refine go <| Pl 1 <| ?_
 have r17 := ub hu16 B13
 refine L0 <| Ola r17 2 22 <| ?_
 have U18 := ut0 hu14 hu16
 have r19 := MsgRd.old hM U18
 refine L0 <| Oc <| m1 (few_any r19) fun w20 hu21 => Pl 1 <| nt <| sq <| sg <| Pl 2 <| nt <| ?_
 have U22 := ut0 U18 hu21
 refine cb ((!(fewB M))) (fun q23 => ?_) (fun q23 => ?_)
 have q23n : (fewB M) = false := by simpa using q23
 refine sg <| Pl 2 <| nt <| rt <| tr <| rr (.bool true) <| ?_
 exact ⟨rfl, U22⟩
 have q23n : (fewB M) = true := by simpa using q23
 refine skn <| sg <| Pl 1 <| nt <| sq <| sg <| Pl 1 <| nt <| cb (ans) (fun q24 => ?_) (fun q24 => ?_)
 refine go <| Pl 1 <| ng <| Pl 1 <| ?_
 have r25 := ub hu21 r17
 refine L0 <| Olw r25 <| ?_
 have r26 := MsgRd.old r19 hu21
 refine wo (mbapW 1 u t M) (fun hX28 => ?_) (fun l27 hX28 => ?_)
 refine L0 <| Oc <| m1 (mbap_write_n hX28 r26 (fewB_few q23n) (by omega) (by omega)) fun w29 hu30 => Pl 5 <| ng <| ?_
 have r31 := ub hu30 r25
 refine L0 <| Olw r31 <| L0 <| Oal #[.int .u8 0, .int .u16 0, .int .u8 0, .int .u8 0, .int .u16 0, .int .u16 0, .int .u16 0, .int .u16 0, .int .u16 0, .int .u16 0, .int .u16 0, .int .u16 0, .int .u16 0, .int .u16 0, .slice none 0 0, .slice none 0 0, .slice none 0 0, .slice none 0 0, .int .u8 0, .int .u8 0, .int .u8 0, .int .u8 0, .int .u8 0, .slice none 0 0] fun g32 w33 hg34 B35 hu36 => L0 <| Osw B35 (fcl u t M xM) fun w37 B38 hu39 => ng <| Pl 3 <| L0 <| Ost B38 1 (fcl u tid M xM) fun w40 B41 hu42 => ng <| Pl 1 <| L0 <| Olw B41 <| ?_
 have U43 := ut0 hu30 hu36
 have U44 := u1 U43 hu39 (ni hu30.size hg34)
 have U45 := u1 U44 hu42 (ni hu30.size hg34)
 have r46 := MsgRd.old r26 U45
 have U49 := ut0 U22 hu30
 have U50 := ut0 U49 hu36
 have U51 := u1 U50 hu39 (ni U49.size hg34)
 have U52 := u1 U51 hu42 (ni U49.size hg34)
 refine wo (mbapW 1 u tid M) (fun hX48 => ?_) (fun l47 hX48 => ?_)
 refine L0 <| Oc <| m1 (mbap_write_n hX48 r46 (fewB_few q23n) (by omega) (by omega)) fun w53 hu54 => Pl 5 <| nt <| sq <| sg <| Pl 7 <| nt <| c1 <| sg <| Pl 10 <| nl <| ?_
 refine tn <| rt <| tr <| rr (.bool true) <| ?_
 have U55 := ut0 U52 hu54
 exact ⟨rfl, U55⟩
 have hl56 := mbapW_le (r46.rngs).1 hX48
 refine L0 <| Oc <| so2 (mbap_write_s hX48 r46 (fewB_few q23n) (by omega) (by omega)) fun A61 cp62 w57 rd65 hl63 hm64 hu60 => Pl 5 <| nt <| sq <| sg <| Pl 7 <| nt <| c1 <| sg <| Pl 10 <| nl <| ?_
 refine tn <| rt <| tr <| rr (.bool false) <| ?_
 have hs : false = true := by have z := mbapW_none (u' := u) (t' := tid) hX28; rw [hX48] at z; cases z
 rw [hs]
 have U66 := ut0 U52 hu60
 exact ⟨rfl, U66⟩
 have hl67 := mbapW_le (r26.rngs).1 hX28
 refine L0 <| Oc <| so2 (mbap_write_s hX28 r26 (fewB_few q23n) (by omega) (by omega)) fun A72 cp73 w68 rd76 hl74 hm75 hu71 => Pl 5 <| ng <| ?_
 have r77 := ub hu71 r25
 refine L0 <| Olw r77 <| L0 <| Oal #[.int .u8 0, .int .u16 0, .int .u8 0, .int .u8 0, .int .u16 0, .int .u16 0, .int .u16 0, .int .u16 0, .int .u16 0, .int .u16 0, .int .u16 0, .int .u16 0, .int .u16 0, .int .u16 0, .slice none 0 0, .slice none 0 0, .slice none 0 0, .slice none 0 0, .int .u8 0, .int .u8 0, .int .u8 0, .int .u8 0, .int .u8 0, .slice none 0 0] fun g78 w79 hg80 B81 hu82 => L0 <| Osw B81 (fcl u t M xM) fun w83 B84 hu85 => ng <| Pl 3 <| L0 <| Ost B84 1 (fcl u tid M xM) fun w86 B87 hu88 => ng <| Pl 1 <| L0 <| Olw B87 <| ?_
 have U89 := ut0 hu71 hu82
 have U90 := u1 U89 hu85 (ni hu71.size hg80)
 have U91 := u1 U90 hu88 (ni hu71.size hg80)
 have r92 := MsgRd.old r26 U91
 have U95 := ut0 U22 hu71
 have U96 := ut0 U95 hu82
 have U97 := u1 U96 hu85 (ni U95.size hg80)
 have U98 := u1 U97 hu88 (ni U95.size hg80)
 refine wo (mbapW 1 u tid M) (fun hX94 => ?_) (fun l93 hX94 => ?_)
 refine L0 <| Oc <| m1 (mbap_write_n hX94 r92 (fewB_few q23n) (by omega) (by omega)) fun w99 hu100 => Pl 5 <| nt <| sq <| sg <| Pl 7 <| nt <| ?_
 have U101 := ut0 U98 hu100
 refine cb ((decide (((l27.length : Nat) : Int) < 8))) (fun q102 => ?_) (fun q102 => ?_)
 have q102p := of_decide_eq_true q102
 refine sg <| Pl 10 <| nt <| rt <| tr <| rr (.bool false) <| ?_
 have hs : false = true := by have z := mbapW_none (u' := u) (t' := t) hX94; rw [hX28] at z; cases z
 rw [hs]
 exact ⟨rfl, U101⟩
 have q102p := of_decide_eq_false q102
 refine skn <| sq <| sg <| Pl 9 <| nt <| c1 <| sg <| Pl 1 <| nt <| ?_
 refine rt <| tr <| rr (.bool false) <| ?_
 have hs : false = true := by have z := mbapW_none (u' := u) (t' := t) hX94; rw [hX28] at z; cases z
 rw [hs]
 exact ⟨rfl, U101⟩
 have hl103 := mbapW_le (r92.rngs).1 hX94
 refine L0 <| Oc <| so2 (mbap_write_s hX94 r92 (fewB_few q23n) (by omega) (by omega)) fun A108 cp109 w104 rd112 hl110 hm111 hu107 => Pl 5 <| nt <| sq <| sg <| Pl 7 <| nt <| ?_
 have U113 := ut0 U98 hu107
 refine cb ((decide (((l27.length : Nat) : Int) < 8))) (fun q114 => ?_) (fun q114 => ?_)
 have q114p := of_decide_eq_true q114
 refine sg <| Pl 10 <| nt <| rt <| tr <| rr (.bool false) <| ?_
 have hs : false = true := by obtain ⟨z1, z2, z3, z4⟩ := mbap_tid hX28 hX94; have y := mbapW_le hcM hX28; omega
 rw [hs]
 exact ⟨rfl, U113⟩
 have q114p := of_decide_eq_false q114
 refine skn <| sq <| sg <| Pl 9 <| nt <| cb ((((l93.length : Nat) : Int) != ((l27.length : Nat) : Int))) (fun q115 => ?_) (fun q115 => ?_)
 have q115p := ne_of_bnei q115
 refine sg <| Pl 1 <| nt <| rt <| tr <| rr (.bool false) <| ?_
 have hs : false = true := by obtain ⟨z1, z2, z3, z4⟩ := mbap_tid hX28 hX94; have y := mbapW_le hcM hX28; omega
 rw [hs]
 exact ⟨rfl, U113⟩
 have q115p := eq_of_bnei q115
 refine skn <| sq <| Rg 24 (fun w' => True) fun w142 hu143 => hld trivial fun hS144 => Rt 0 hS144 <| x12 (cut_from (P := Try.prog) 22 5 1 Try.underlying22 rfl rfl A72 l27.length cp73 2 (by omega)) fun A145 hrun146 hrd147 => Rr 1 hS144 (.slice A145 (l27.length - 2) (cp73 - 2)) (fun _ _ => run_cutf (kl := .i64) (k := ((2 : Nat) : Int)) (A := A72) (n := l27.length) (c := cp73) rfl Try.underlying22 (by kernel_rfl) (by kernel_rfl) (hrun146 _ _)) <| Rt 2 hS144 <| x12 (cut_from (P := Try.prog) 22 5 1 Try.underlying22 rfl rfl A108 l93.length cp109 2 (by omega)) fun A148 hrun149 hrd150 => Rr 3 hS144 (.slice A148 (l93.length - 2) (cp109 - 2)) (fun _ _ => run_cutf (kl := .i64) (k := ((2 : Nat) : Int)) (A := A108) (n := l93.length) (c := cp109) rfl Try.underlying22 (by kernel_rfl) (by kernel_rfl) (hrun149 _ _)) <| ?_
 have U151 := u1 hu82 hu85 (nr hg80)
 have U152 := u1 U151 hu88 (nr hg80)
 have U153 := ut0 U152 hu107
 have U154 := ut0 U153 hu143
 have r155 := own_stay rd76 U154 (fun x hx => not0) (fun _ _ h => h)
 have r156 := own_stay rd112 hu143 (fun x hx => not0) (fun _ _ h => h)
 refine R0 4 rfl <| Oc (args := #[.slice A145 (l27.length - 2) (cp73 - 2), .slice A148 (l93.length - 2) (cp109 - 2)]) <| m1 (same1_any (xs := (l27.drop 2)) (ys := (l93.drop 2)) (hrd147 _ _ _ _ _ (r155).rd) (hrd150 _ _ _ _ _ (r156).rd)) fun w157 hu158 => hld trivial fun hS159 => Rt 5 hS159 <| ?_
 have U160 := ut0 U113 hu143
 have U161 := ut0 U160 hu158
 refine bla 72 ((decide ((l27.drop 2) = (l93.drop 2)))) (fun q162 => ?_) (fun q162 => ?_)
 have q162p := of_decide_eq_true q162
 refine Rt 6 hS159 <| Rt 9 hS159 <| Rr 10 hS159 (.int .u16 (tid / 256)) (fun _ _ => run_eqo (.int .u16 (IntKind.u16.wrap (Int.tdiv tid 256))) (by kernel_rfl) (congrArg (Value.int .u16) (u16_quo (by omega) (by omega)))) <| Rt 11 hS159 <| ?_
 have r163 := own_stay r156 hu158 (fun x hx => not0) (fun _ _ h => h)
 refine x23 (RdB.at_ (r163).rd 0 (by omega)) fun b164 o165 hA166 hl167 hr168 => R0 7 rfl <| Oix l93.length 0 hA166 (by omega) <| hld trivial fun hS169 => R0 8 rfl <| Old (p := ⟨b164, o165 + 0, none⟩) (v := .int .u8 (l93.getD 0 0)) hl167 <| hld trivial fun hS170 => Rt 12 hS170 <| Rt 13 hS170 <| Rt 14 hS170 <| bla 81 (((l93.getD 0 0) == ((tid / 256) % 256))) (fun q171 => ?_) (fun q171 => ?_)
 have q171p := eq_of_beqi q171
 refine Rt 15 hS170 <| Rt 18 hS170 <| Rr 19 hS170 (.int .u16 (tid % 256)) (fun _ _ => run_eqo (.int .u16 (Int.tmod tid 256)) (by kernel_rfl) (congrArg (Value.int .u16) (Int.tmod_eq_emod_of_nonneg (by omega)))) <| Rt 20 hS170 <| x23 (RdB.at_ (r163).rd 1 (by omega)) fun b172 o173 hA174 hl175 hr176 => R0 16 rfl <| Oix l93.length 1 hA174 (by omega) <| hld trivial fun hS177 => R0 17 rfl <| Old (p := ⟨b172, o173 + 1, none⟩) (v := .int .u8 (l93.getD 1 0)) hl175 <| hld trivial fun hS178 => Rt 21 hS178 <| Rt 22 hS178 <| Rt 23 hS178 <| re <| tn <| ?_
 refine sg <| Pl 2 <| L0 <| Oe (.int .u16 (Int.tmod tid 9)) (.int .u16 (tid % 9)) (congrArg (Value.int .u16) (Int.tmod_eq_emod_of_nonneg (by omega))) <| Pl 2 <| x23 (RdB.at_ (r163).rd 3 (by omega)) fun b179 o180 hA181 hl182 hr183 => L0 <| Oix l93.length 3 hA181 (by omega) <| L0 <| Orow one_u8 (j := 3) r163 hA181 (by omega) (((1 + (tid % 9)) % 65536) % 256) (fun _ => ⟨rfl, by omega⟩) fun w184 ho185 hu186 => ng <| Pl 2 <| ?_
 refine pr (mbapP 1 (l93.set 3 (((1 + (tid % 9)) % 65536) % 256))) fun F187 E188 hX189 => ?_
 refine L0 <| Oc <| e2 (mbap_parse_x hX189 (ho185).rd (by simp only [List.length_set]; omega)) fun x190 w191 hx196 hu195 => ?_
 obtain ⟨hM192, hF193, hF194⟩ := hx196
 refine Pl 3 <| L0 <| Oal #[.int .u8 0, .int .u16 0, .int .u8 0, .int .u8 0, .int .u16 0, .int .u16 0, .int .u16 0, .int .u16 0, .int .u16 0, .int .u16 0, .int .u16 0, .int .u16 0, .int .u16 0, .int .u16 0, .slice none 0 0, .slice none 0 0, .slice none 0 0, .slice none 0 0, .int .u8 0, .int .u8 0, .int .u8 0, .int .u8 0, .int .u8 0, .slice none 0 0] fun g197 w198 hg199 B200 hu201 => L0 <| Osw B200 (fcl F187.unit F187.tid F187.msg x190) fun w202 B203 hu204 => Pl 1 <| ng <| Pl 5 <| cu 3 [106] 109 ((((l93.getD 1 0) == ((tid % 256) % 256)) && (E188 == 13))) (fun K K206 => ?_) ?_
 refine bl 106 (((l93.getD 1 0) == ((tid % 256) % 256))) (fun q205 => ?_) (fun q205 => ?_)
 have q205p := eq_of_beqi q205
 exact Pl 3 <| ce K206 (E188 == 13) (by rw [q205]; rfl)
 have q205p := ne_of_beqi q205
 exact Pl 3 <| ce K206 false (by rw [q205]; rfl)
 refine Pl 1 <| nt <| rt <| rr (.bool (((l93.getD 1 0) == ((tid % 256) % 256)) && (E188 == 13))) <| ?_
 have hs : (((l93.getD 1 0) == ((tid % 256) % 256)) && (E188 == 13)) = true := by obtain ⟨z1, z2, z3, z4⟩ := mbap_tid hX28 hX94; have y := mbapW_le hcM hX28; rw [mbap_proto (by decide) hcM htid (by omega) hX94 hX189, z4]; simp only [Bool.and_true, beq_iff_eq]; omega
 rw [hs]
 have U207 := ut U161 hu186 (all_app (ob_new rd112 U98.size) all0)
 have U208 := ut0 U207 hu195
 have U209 := ut0 U208 hu201
 have U210 := u1 U209 hu204 (ni U208.size hg199)
 exact ⟨rfl, U210⟩
 have q171p := ne_of_beqi q171
 refine Ro 15 hS170 <| Ro 16 hS170 <| Ro 17 hS170 <| Ro 18 hS170 <| Ro 19 hS170 <| Ro 20 hS170 <| Ro 21 hS170 <| Rt 22 hS170 <| Rt 23 hS170 <| re <| tn <| sg <| Pl 2 <| L0 <| Oe (.int .u16 (Int.tmod tid 9)) (.int .u16 (tid % 9)) (congrArg (Value.int .u16) (Int.tmod_eq_emod_of_nonneg (by omega))) <| ?_
 refine Pl 2 <| x23 (RdB.at_ (r163).rd 3 (by omega)) fun b211 o212 hA213 hl214 hr215 => L0 <| Oix l93.length 3 hA213 (by omega) <| L0 <| Orow one_u8 (j := 3) r163 hA213 (by omega) (((1 + (tid % 9)) % 65536) % 256) (fun _ => ⟨rfl, by omega⟩) fun w216 ho217 hu218 => ng <| Pl 2 <| ?_
 refine pr (mbapP 1 (l93.set 3 (((1 + (tid % 9)) % 65536) % 256))) fun F219 E220 hX221 => ?_
 refine L0 <| Oc <| e2 (mbap_parse_x hX221 (ho217).rd (by simp only [List.length_set]; omega)) fun x222 w223 hx228 hu227 => ?_
 obtain ⟨hM224, hF225, hF226⟩ := hx228
 refine Pl 3 <| L0 <| Oal #[.int .u8 0, .int .u16 0, .int .u8 0, .int .u8 0, .int .u16 0, .int .u16 0, .int .u16 0, .int .u16 0, .int .u16 0, .int .u16 0, .int .u16 0, .int .u16 0, .int .u16 0, .int .u16 0, .slice none 0 0, .slice none 0 0, .slice none 0 0, .slice none 0 0, .int .u8 0, .int .u8 0, .int .u8 0, .int .u8 0, .int .u8 0, .slice none 0 0] fun g229 w230 hg231 B232 hu233 => L0 <| Osw B232 (fcl F219.unit F219.tid F219.msg x222) fun w234 B235 hu236 => Pl 1 <| ng <| Pl 9 <| nt <| rt <| rr (.bool false) <| ?_
 have hs : false = true := by obtain ⟨z1, z2, z3, z4⟩ := mbap_tid hX28 hX94; have y := mbapW_le hcM hX28; omega
 rw [hs]
 have U237 := ut U161 hu218 (all_app (ob_new rd112 U98.size) all0)
 have U238 := ut0 U237 hu227
 have U239 := ut0 U238 hu233
 have U240 := u1 U239 hu236 (ni U238.size hg231)
 exact ⟨rfl, U240⟩
 have q162p := of_decide_eq_false q162
 refine Ro 6 hS159 <| Ro 7 hS159 <| Ro 8 hS159 <| Ro 9 hS159 <| Ro 10 hS159 <| Ro 11 hS159 <| Ro 12 hS159 <| Rt 13 hS159 <| Rt 14 hS159 <| Ro 15 hS159 <| Ro 16 hS159 <| Ro 17 hS159 <| Ro 18 hS159 <| Ro 19 hS159 <| ?_
 refine Ro 20 hS159 <| Ro 21 hS159 <| Rt 22 hS159 <| Rt 23 hS159 <| re <| tn <| sg <| Pl 2 <| L0 <| Oe (.int .u16 (Int.tmod tid 9)) (.int .u16 (tid % 9)) (congrArg (Value.int .u16) (Int.tmod_eq_emod_of_nonneg (by omega))) <| Pl 2 <| ?_
 have r241 := own_stay r156 hu158 (fun x hx => not0) (fun _ _ h => h)
 refine x23 (RdB.at_ (r241).rd 3 (by omega)) fun b242 o243 hA244 hl245 hr246 => L0 <| Oix l93.length 3 hA244 (by omega) <| L0 <| Orow one_u8 (j := 3) r241 hA244 (by omega) (((1 + (tid % 9)) % 65536) % 256) (fun _ => ⟨rfl, by omega⟩) fun w247 ho248 hu249 => ng <| Pl 2 <| ?_
 refine pr (mbapP 1 (l93.set 3 (((1 + (tid % 9)) % 65536) % 256))) fun F250 E251 hX252 => ?_
 refine L0 <| Oc <| e2 (mbap_parse_x hX252 (ho248).rd (by simp only [List.length_set]; omega)) fun x253 w254 hx259 hu258 => ?_
 obtain ⟨hM255, hF256, hF257⟩ := hx259
 refine Pl 3 <| L0 <| Oal #[.int .u8 0, .int .u16 0, .int .u8 0, .int .u8 0, .int .u16 0, .int .u16 0, .int .u16 0, .int .u16 0, .int .u16 0, .int .u16 0, .int .u16 0, .int .u16 0, .int .u16 0, .int .u16 0, .slice none 0 0, .slice none 0 0, .slice none 0 0, .slice none 0 0, .int .u8 0, .int .u8 0, .int .u8 0, .int .u8 0, .int .u8 0, .slice none 0 0] fun g260 w261 hg262 B263 hu264 => L0 <| Osw B263 (fcl F250.unit F250.tid F250.msg x253) fun w265 B266 hu267 => Pl 1 <| ng <| Pl 9 <| nt <| rt <| rr (.bool false) <| ?_
 have hs : false = true := by obtain ⟨z1, z2, z3, z4⟩ := mbap_tid hX28 hX94; have y := mbapW_le hcM hX28; rw [decide_eq_true z2] at q162; exact q162.symm
 rw [hs]
 have U268 := ut U161 hu249 (all_app (ob_new rd112 U98.size) all0)
 have U269 := ut0 U268 hu258
 have U270 := ut0 U269 hu264
 have U271 := u1 U270 hu267 (ni U269.size hg262)
 exact ⟨rfl, U271⟩
 refine skn <| sg <| Pl 1 <| ?_
 have r272 := ub hu21 r17
 refine L0 <| Olw r272 <| ?_
 have r273 := MsgRd.old r19 hu21
 refine wo (mbapW 0 u t M) (fun hX275 => ?_) (fun l274 hX275 => ?_)
 refine L0 <| Oc <| m1 (mbap_write_n hX275 r273 (fewB_few q23n) (by omega) (by omega)) fun w276 hu277 => Pl 5 <| ng <| ?_
 have r278 := ub hu277 r272
 refine L0 <| Olw r278 <| L0 <| Oal #[.int .u8 0, .int .u16 0, .int .u8 0, .int .u8 0, .int .u16 0, .int .u16 0, .int .u16 0, .int .u16 0, .int .u16 0, .int .u16 0, .int .u16 0, .int .u16 0, .int .u16 0, .int .u16 0, .slice none 0 0, .slice none 0 0, .slice none 0 0, .slice none 0 0, .int .u8 0, .int .u8 0, .int .u8 0, .int .u8 0, .int .u8 0, .slice none 0 0] fun g279 w280 hg281 B282 hu283 => L0 <| Osw B282 (fcl u t M xM) fun w284 B285 hu286 => ng <| Pl 3 <| L0 <| Ost B285 1 (fcl u tid M xM) fun w287 B288 hu289 => ng <| Pl 1 <| L0 <| Olw B288 <| ?_
 have U290 := ut0 hu277 hu283
 have U291 := u1 U290 hu286 (ni hu277.size hg281)
 have U292 := u1 U291 hu289 (ni hu277.size hg281)
 have r293 := MsgRd.old r273 U292
 have U296 := ut0 U22 hu277
 have U297 := ut0 U296 hu283
 have U298 := u1 U297 hu286 (ni U296.size hg281)
 have U299 := u1 U298 hu289 (ni U296.size hg281)
 refine wo (mbapW 0 u tid M) (fun hX295 => ?_) (fun l294 hX295 => ?_)
 refine L0 <| Oc <| m1 (mbap_write_n hX295 r293 (fewB_few q23n) (by omega) (by omega)) fun w300 hu301 => Pl 5 <| nt <| sq <| sg <| Pl 7 <| nt <| c1 <| sg <| Pl 10 <| nl <| ?_
 refine tn <| rt <| tr <| rr (.bool true) <| ?_
 have U302 := ut0 U299 hu301
 exact ⟨rfl, U302⟩
 have hl303 := mbapW_le (r293.rngs).1 hX295
 refine L0 <| Oc <| so2 (mbap_write_s hX295 r293 (fewB_few q23n) (by omega) (by omega)) fun A308 cp309 w304 rd312 hl310 hm311 hu307 => Pl 5 <| nt <| sq <| sg <| Pl 7 <| nt <| c1 <| sg <| Pl 10 <| nl <| ?_
 refine tn <| rt <| tr <| rr (.bool false) <| ?_
 have hs : false = true := by have z := mbapW_none (u' := u) (t' := tid) hX275; rw [hX295] at z; cases z
 rw [hs]
 have U313 := ut0 U299 hu307
 exact ⟨rfl, U313⟩
 have hl314 := mbapW_le (r273.rngs).1 hX275
 refine L0 <| Oc <| so2 (mbap_write_s hX275 r273 (fewB_few q23n) (by omega) (by omega)) fun A319 cp320 w315 rd323 hl321 hm322 hu318 => Pl 5 <| ng <| ?_
 have r324 := ub hu318 r272
 refine L0 <| Olw r324 <| L0 <| Oal #[.int .u8 0, .int .u16 0, .int .u8 0, .int .u8 0, .int .u16 0, .int .u16 0, .int .u16 0, .int .u16 0, .int .u16 0, .int .u16 0, .int .u16 0, .int .u16 0, .int .u16 0, .int .u16 0, .slice none 0 0, .slice none 0 0, .slice none 0 0, .slice none 0 0, .int .u8 0, .int .u8 0, .int .u8 0, .int .u8 0, .int .u8 0, .slice none 0 0] fun g325 w326 hg327 B328 hu329 => L0 <| Osw B328 (fcl u t M xM) fun w330 B331 hu332 => ng <| Pl 3 <| L0 <| Ost B331 1 (fcl u tid M xM) fun w333 B334 hu335 => ng <| Pl 1 <| L0 <| Olw B334 <| ?_
 have U336 := ut0 hu318 hu329
 have U337 := u1 U336 hu332 (ni hu318.size hg327)
 have U338 := u1 U337 hu335 (ni hu318.size hg327)
 have r339 := MsgRd.old r273 U338
 have U342 := ut0 U22 hu318
 have U343 := ut0 U342 hu329
 have U344 := u1 U343 hu332 (ni U342.size hg327)
 have U345 := u1 U344 hu335 (ni U342.size hg327)
 refine wo (mbapW 0 u tid M) (fun hX341 => ?_) (fun l340 hX341 => ?_)
 refine L0 <| Oc <| m1 (mbap_write_n hX341 r339 (fewB_few q23n) (by omega) (by omega)) fun w346 hu347 => Pl 5 <| nt <| sq <| sg <| Pl 7 <| nt <| ?_
 have U348 := ut0 U345 hu347
 refine cb ((decide (((l274.length : Nat) : Int) < 8))) (fun q349 => ?_) (fun q349 => ?_)
 have q349p := of_decide_eq_true q349
 refine sg <| Pl 10 <| nt <| rt <| tr <| rr (.bool false) <| ?_
 have hs : false = true := by have z := mbapW_none (u' := u) (t' := t) hX341; rw [hX275] at z; cases z
 rw [hs]
 exact ⟨rfl, U348⟩
 have q349p := of_decide_eq_false q349
 refine skn <| sq <| sg <| Pl 9 <| nt <| c1 <| sg <| Pl 1 <| nt <| ?_
 refine rt <| tr <| rr (.bool false) <| ?_
 have hs : false = true := by have z := mbapW_none (u' := u) (t' := t) hX341; rw [hX275] at z; cases z
 rw [hs]
 exact ⟨rfl, U348⟩
 have hl350 := mbapW_le (r339.rngs).1 hX341
 refine L0 <| Oc <| so2 (mbap_write_s hX341 r339 (fewB_few q23n) (by omega) (by omega)) fun A355 cp356 w351 rd359 hl357 hm358 hu354 => Pl 5 <| nt <| sq <| sg <| Pl 7 <| nt <| ?_
 have U360 := ut0 U345 hu354
 refine cb ((decide (((l274.length : Nat) : Int) < 8))) (fun q361 => ?_) (fun q361 => ?_)
 have q361p := of_decide_eq_true q361
 refine sg <| Pl 10 <| nt <| rt <| tr <| rr (.bool false) <| ?_
 have hs : false = true := by obtain ⟨z1, z2, z3, z4⟩ := mbap_tid hX275 hX341; have y := mbapW_le hcM hX275; omega
 rw [hs]
 exact ⟨rfl, U360⟩
 have q361p := of_decide_eq_false q361
 refine skn <| sq <| sg <| Pl 9 <| nt <| cb ((((l340.length : Nat) : Int) != ((l274.length : Nat) : Int))) (fun q362 => ?_) (fun q362 => ?_)
 have q362p := ne_of_bnei q362
 refine sg <| Pl 1 <| nt <| rt <| tr <| rr (.bool false) <| ?_
 have hs : false = true := by obtain ⟨z1, z2, z3, z4⟩ := mbap_tid hX275 hX341; have y := mbapW_le hcM hX275; omega
 rw [hs]
 exact ⟨rfl, U360⟩
 have q362p := eq_of_bnei q362
 refine skn <| sq <| Rg 24 (fun w' => True) fun w389 hu390 => hld trivial fun hS391 => Rt 0 hS391 <| x12 (cut_from (P := Try.prog) 22 5 1 Try.underlying22 rfl rfl A319 l274.length cp320 2 (by omega)) fun A392 hrun393 hrd394 => Rr 1 hS391 (.slice A392 (l274.length - 2) (cp320 - 2)) (fun _ _ => run_cutf (kl := .i64) (k := ((2 : Nat) : Int)) (A := A319) (n := l274.length) (c := cp320) rfl Try.underlying22 (by kernel_rfl) (by kernel_rfl) (hrun393 _ _)) <| Rt 2 hS391 <| x12 (cut_from (P := Try.prog) 22 5 1 Try.underlying22 rfl rfl A355 l340.length cp356 2 (by omega)) fun A395 hrun396 hrd397 => Rr 3 hS391 (.slice A395 (l340.length - 2) (cp356 - 2)) (fun _ _ => run_cutf (kl := .i64) (k := ((2 : Nat) : Int)) (A := A355) (n := l340.length) (c := cp356) rfl Try.underlying22 (by kernel_rfl) (by kernel_rfl) (hrun396 _ _)) <| ?_
 have U398 := u1 hu329 hu332 (nr hg327)
 have U399 := u1 U398 hu335 (nr hg327)
 have U400 := ut0 U399 hu354
 have U401 := ut0 U400 hu390
 have r402 := own_stay rd323 U401 (fun x hx => not0) (fun _ _ h => h)
 have r403 := own_stay rd359 hu390 (fun x hx => not0) (fun _ _ h => h)
 refine R0 4 rfl <| Oc (args := #[.slice A392 (l274.length - 2) (cp320 - 2), .slice A395 (l340.length - 2) (cp356 - 2)]) <| m1 (same1_any (xs := (l274.drop 2)) (ys := (l340.drop 2)) (hrd394 _ _ _ _ _ (r402).rd) (hrd397 _ _ _ _ _ (r403).rd)) fun w404 hu405 => hld trivial fun hS406 => Rt 5 hS406 <| ?_
 have U407 := ut0 U360 hu390
 have U408 := ut0 U407 hu405
 refine bla 72 ((decide ((l274.drop 2) = (l340.drop 2)))) (fun q409 => ?_) (fun q409 => ?_)
 have q409p := of_decide_eq_true q409
 refine Rt 6 hS406 <| Rt 9 hS406 <| Rr 10 hS406 (.int .u16 (tid / 256)) (fun _ _ => run_eqo (.int .u16 (IntKind.u16.wrap (Int.tdiv tid 256))) (by kernel_rfl) (congrArg (Value.int .u16) (u16_quo (by omega) (by omega)))) <| Rt 11 hS406 <| ?_
 have r410 := own_stay r403 hu405 (fun x hx => not0) (fun _ _ h => h)
 refine x23 (RdB.at_ (r410).rd 0 (by omega)) fun b411 o412 hA413 hl414 hr415 => R0 7 rfl <| Oix l340.length 0 hA413 (by omega) <| hld trivial fun hS416 => R0 8 rfl <| Old (p := ⟨b411, o412 + 0, none⟩) (v := .int .u8 (l340.getD 0 0)) hl414 <| hld trivial fun hS417 => Rt 12 hS417 <| Rt 13 hS417 <| Rt 14 hS417 <| bla 81 (((l340.getD 0 0) == ((tid / 256) % 256))) (fun q418 => ?_) (fun q418 => ?_)
 have q418p := eq_of_beqi q418
 refine Rt 15 hS417 <| Rt 18 hS417 <| Rr 19 hS417 (.int .u16 (tid % 256)) (fun _ _ => run_eqo (.int .u16 (Int.tmod tid 256)) (by kernel_rfl) (congrArg (Value.int .u16) (Int.tmod_eq_emod_of_nonneg (by omega)))) <| Rt 20 hS417 <| x23 (RdB.at_ (r410).rd 1 (by omega)) fun b419 o420 hA421 hl422 hr423 => R0 16 rfl <| Oix l340.length 1 hA421 (by omega) <| hld trivial fun hS424 => R0 17 rfl <| Old (p := ⟨b419, o420 + 1, none⟩) (v := .int .u8 (l340.getD 1 0)) hl422 <| hld trivial fun hS425 => Rt 21 hS425 <| Rt 22 hS425 <| Rt 23 hS425 <| re <| tn <| ?_
 refine sg <| Pl 2 <| L0 <| Oe (.int .u16 (Int.tmod tid 9)) (.int .u16 (tid % 9)) (congrArg (Value.int .u16) (Int.tmod_eq_emod_of_nonneg (by omega))) <| Pl 2 <| x23 (RdB.at_ (r410).rd 3 (by omega)) fun b426 o427 hA428 hl429 hr430 => L0 <| Oix l340.length 3 hA428 (by omega) <| L0 <| Orow one_u8 (j := 3) r410 hA428 (by omega) (((1 + (tid % 9)) % 65536) % 256) (fun _ => ⟨rfl, by omega⟩) fun w431 ho432 hu433 => ng <| Pl 2 <| ?_
 refine pr (mbapP 0 (l340.set 3 (((1 + (tid % 9)) % 65536) % 256))) fun F434 E435 hX436 => ?_
 refine L0 <| Oc <| e2 (mbap_parse_x hX436 (ho432).rd (by simp only [List.length_set]; omega)) fun x437 w438 hx443 hu442 => ?_
 obtain ⟨hM439, hF440, hF441⟩ := hx443
 refine Pl 3 <| L0 <| Oal #[.int .u8 0, .int .u16 0, .int .u8 0, .int .u8 0, .int .u16 0, .int .u16 0, .int .u16 0, .int .u16 0, .int .u16 0, .int .u16 0, .int .u16 0, .int .u16 0, .int .u16 0, .int .u16 0, .slice none 0 0, .slice none 0 0, .slice none 0 0, .slice none 0 0, .int .u8 0, .int .u8 0, .int .u8 0, .int .u8 0, .int .u8 0, .slice none 0 0] fun g444 w445 hg446 B447 hu448 => L0 <| Osw B447 (fcl F434.unit F434.tid F434.msg x437) fun w449 B450 hu451 => Pl 1 <| ng <| Pl 5 <| cu 3 [106] 109 ((((l340.getD 1 0) == ((tid % 256) % 256)) && (E435 == 13))) (fun K K453 => ?_) ?_
 refine bl 106 (((l340.getD 1 0) == ((tid % 256) % 256))) (fun q452 => ?_) (fun q452 => ?_)
 have q452p := eq_of_beqi q452
 exact Pl 3 <| ce K453 (E435 == 13) (by rw [q452]; rfl)
 have q452p := ne_of_beqi q452
 exact Pl 3 <| ce K453 false (by rw [q452]; rfl)
 refine Pl 1 <| nt <| rt <| rr (.bool (((l340.getD 1 0) == ((tid % 256) % 256)) && (E435 == 13))) <| ?_
 have hs : (((l340.getD 1 0) == ((tid % 256) % 256)) && (E435 == 13)) = true := by obtain ⟨z1, z2, z3, z4⟩ := mbap_tid hX275 hX341; have y := mbapW_le hcM hX275; rw [mbap_proto (by decide) hcM htid (by omega) hX341 hX436, z4]; simp only [Bool.and_true, beq_iff_eq]; omega
 rw [hs]
 have U454 := ut U408 hu433 (all_app (ob_new rd359 U345.size) all0)
 have U455 := ut0 U454 hu442
 have U456 := ut0 U455 hu448
 have U457 := u1 U456 hu451 (ni U455.size hg446)
 exact ⟨rfl, U457⟩
 have q418p := ne_of_beqi q418
 refine Ro 15 hS417 <| Ro 16 hS417 <| Ro 17 hS417 <| Ro 18 hS417 <| Ro 19 hS417 <| Ro 20 hS417 <| Ro 21 hS417 <| Rt 22 hS417 <| Rt 23 hS417 <| re <| tn <| sg <| Pl 2 <| L0 <| Oe (.int .u16 (Int.tmod tid 9)) (.int .u16 (tid % 9)) (congrArg (Value.int .u16) (Int.tmod_eq_emod_of_nonneg (by omega))) <| ?_
 refine Pl 2 <| x23 (RdB.at_ (r410).rd 3 (by omega)) fun b458 o459 hA460 hl461 hr462 => L0 <| Oix l340.length 3 hA460 (by omega) <| L0 <| Orow one_u8 (j := 3) r410 hA460 (by omega) (((1 + (tid % 9)) % 65536) % 256) (fun _ => ⟨rfl, by omega⟩) fun w463 ho464 hu465 => ng <| Pl 2 <| ?_
 refine pr (mbapP 0 (l340.set 3 (((1 + (tid % 9)) % 65536) % 256))) fun F466 E467 hX468 => ?_
 refine L0 <| Oc <| e2 (mbap_parse_x hX468 (ho464).rd (by simp only [List.length_set]; omega)) fun x469 w470 hx475 hu474 => ?_
 obtain ⟨hM471, hF472, hF473⟩ := hx475
 refine Pl 3 <| L0 <| Oal #[.int .u8 0, .int .u16 0, .int .u8 0, .int .u8 0, .int .u16 0, .int .u16 0, .int .u16 0, .int .u16 0, .int .u16 0, .int .u16 0, .int .u16 0, .int .u16 0, .int .u16 0, .int .u16 0, .slice none 0 0, .slice none 0 0, .slice none 0 0, .slice none 0 0, .int .u8 0, .int .u8 0, .int .u8 0, .int .u8 0, .int .u8 0, .slice none 0 0] fun g476 w477 hg478 B479 hu480 => L0 <| Osw B479 (fcl F466.unit F466.tid F466.msg x469) fun w481 B482 hu483 => Pl 1 <| ng <| Pl 9 <| nt <| rt <| rr (.bool false) <| ?_
 have hs : false = true := by obtain ⟨z1, z2, z3, z4⟩ := mbap_tid hX275 hX341; have y := mbapW_le hcM hX275; omega
 rw [hs]
 have U484 := ut U408 hu465 (all_app (ob_new rd359 U345.size) all0)
 have U485 := ut0 U484 hu474
 have U486 := ut0 U485 hu480
 have U487 := u1 U486 hu483 (ni U485.size hg478)
 exact ⟨rfl, U487⟩
 have q409p := of_decide_eq_false q409
 refine Ro 6 hS406 <| Ro 7 hS406 <| Ro 8 hS406 <| Ro 9 hS406 <| Ro 10 hS406 <| Ro 11 hS406 <| Ro 12 hS406 <| Rt 13 hS406 <| Rt 14 hS406 <| Ro 15 hS406 <| Ro 16 hS406 <| Ro 17 hS406 <| Ro 18 hS406 <| Ro 19 hS406 <| ?_
 refine Ro 20 hS406 <| Ro 21 hS406 <| Rt 22 hS406 <| Rt 23 hS406 <| re <| tn <| sg <| Pl 2 <| L0 <| Oe (.int .u16 (Int.tmod tid 9)) (.int .u16 (tid % 9)) (congrArg (Value.int .u16) (Int.tmod_eq_emod_of_nonneg (by omega))) <| Pl 2 <| ?_
 have r488 := own_stay r403 hu405 (fun x hx => not0) (fun _ _ h => h)
 refine x23 (RdB.at_ (r488).rd 3 (by omega)) fun b489 o490 hA491 hl492 hr493 => L0 <| Oix l340.length 3 hA491 (by omega) <| L0 <| Orow one_u8 (j := 3) r488 hA491 (by omega) (((1 + (tid % 9)) % 65536) % 256) (fun _ => ⟨rfl, by omega⟩) fun w494 ho495 hu496 => ng <| Pl 2 <| ?_
 refine pr (mbapP 0 (l340.set 3 (((1 + (tid % 9)) % 65536) % 256))) fun F497 E498 hX499 => ?_
 refine L0 <| Oc <| e2 (mbap_parse_x hX499 (ho495).rd (by simp only [List.length_set]; omega)) fun x500 w501 hx506 hu505 => ?_
 obtain ⟨hM502, hF503, hF504⟩ := hx506
 refine Pl 3 <| L0 <| Oal #[.int .u8 0, .int .u16 0, .int .u8 0, .int .u8 0, .int .u16 0, .int .u16 0, .int .u16 0, .int .u16 0, .int .u16 0, .int .u16 0, .int .u16 0, .int .u16 0, .int .u16 0, .int .u16 0, .slice none 0 0, .slice none 0 0, .slice none 0 0, .slice none 0 0, .int .u8 0, .int .u8 0, .int .u8 0, .int .u8 0, .int .u8 0, .slice none 0 0] fun g507 w508 hg509 B510 hu511 => L0 <| Osw B510 (fcl F497.unit F497.tid F497.msg x500) fun w512 B513 hu514 => Pl 1 <| ng <| Pl 9 <| nt <| rt <| rr (.bool false) <| ?_
 have hs : false = true := by obtain ⟨z1, z2, z3, z4⟩ := mbap_tid hX275 hX341; have y := mbapW_le hcM hX275; rw [decide_eq_true z2] at q409; exact q409.symm
 rw [hs]
 have U515 := ut U408 hu496 (all_app (ob_new rd359 U345.size) all0)
 have U516 := ut0 U515 hu505
 have U517 := ut0 U516 hu511
 have U518 := u1 U517 hu514 (ni U516.size hg509)
 exact ⟨rfl, U518⟩
end Go.Proofs.Ytbaeecmamacphaa
namespace Go.Proofs.Ytbaeecmamacphaa
open Go.ChangeShapes Go.WideShapes Go.ChangeAt Go.RowKit
theorem own : ownKnob Try.prog.godebug = none := by kernel_rfl
theorem laidOut : laidOutB Try.prog = true := by kernel_rfl
set_option maxRecDepth 100000 in
theorem lifted (os : Os) (started : os.Started) (H : Type) (enc : TypeId × Value → H) :
    ReturnsInHanded {} Try.checked os 11 .any (Rows.mbapTidsSpec.pre6 enc Try.prog Try.f11 Rows.mbapTidsRow.domain false) (Rows.mbapTidsSpec.post enc Try.prog Try.f11 false true false false) := by
  refine returnsInHanded_of_change (C := Try.checked) own started (by kernel_rfl) Try.func11
    (ChangeSpec.witness6 (enc := enc) (C := Try.checked) false ⟨#[], #[.bool false, .agg #[.int .u8 0, .int .u16 0, .int .u8 0, .int .u8 0, .int .u16 0, .int .u16 0, .int .u16 0, .int .u16 0, .int .u16 0, .int .u16 0, .int .u16 0, .int .u16 0, .int .u16 0, .int .u16 0, .slice none 0 0, .slice none 0 0, .slice none 0 0, .slice none 0 0, .int .u8 0, .int .u8 0, .int .u8 0, .int .u8 0, .int .u8 0, .slice none 0 0], .int .u16 0], []⟩ 8 (by kernel_rfl) (by kernel_rfl) (by kernel_rfl) (by kernel_rfl)) ?_
  intro W base args ds gs before hval0 hW hcnd _
  have hval : ∀ (j : Nat) t v, Try.f11.params[j]? = some t → args[j]? = some v → Value.okWide Try.prog W .any base t v := hval0
  have hW' := hW
  obtain ⟨p, q, hA0, hV, rfl, hfz, hnd⟩ := hW
  have hA : DataW.TrodAll enc Try.prog W 0 (fun _ => true) true Try.f11.params.toList args.toList ds p := hA0
  rw [Try.params11] at hA hval
  obtain ⟨v0, vs0, d0, ds0, p0, q0, hargs, rfl, rfl, h0, r0⟩ := trodAll_cons hA
  obtain ⟨v1, vs1, d1, ds1, p1, q1, rfl, rfl, rfl, h1, r1⟩ := trodAll_cons r0
  obtain ⟨v2, vs2, d2, ds2, p2, q2, rfl, rfl, rfl, h2, r2⟩ := trodAll_cons r1
  obtain ⟨rfl, rfl, rfl⟩ := trodAll_nil r2
  obtain rfl : args = #[v0, v1, v2] := by cases args; simp_all
  obtain ⟨rfl, rfl⟩ := trodVars_none hV
  obtain ⟨a0, rfl, rfl, rfl⟩ := open_bool Try.underlying4 (hval 0 4 v0 rfl rfl) h0
  have k1 := h1
  have lt1 : ∀ x ∈ p1, x.block < W.heap.size := by obtain ⟨m, hm⟩ := k1; exact DataW.trod_lt m _ _ _ hm
  obtain ⟨u1, t1, M1, x1, rfl, R1, bu1, bt1⟩ := frm_arg ⟨_, hval 1 48 v1 rfl rfl⟩ h1
  obtain ⟨a2, rfl, rfl, rfl, w2⟩ := open_int Try.underlying23 (hval 2 23 v2 rfl rfl) h2
  have b2 := bounds_u16 w2
  clear hA0 hval0
  refine (lawMbapTids (ans := a0) (by omega) R1 bu1 bt1).mono fun e W' ⟨he, hu⟩ => ?_
  have bel := upd_below hu
  subst he
  exact ⟨_, rfl, _, _, _, [], _, [], hW', trodAll_mk1 (shut_bool Try.underlying4 _), (trodAll_cons_mk (shut_bool Try.underlying4 _) (trodAll_cons_mk (Below.trod laidOut (by kernel_rfl) (of_decide_eq_true (by kernel_rfl)) k1 bel lt1) (trodAll_cons_mk (shut_int Try.underlying23 w2) trodAll_mk0))), rfl, bel.frame _, fun h => by cases h⟩
theorem over : Rows.mbapTidsRow.holds Try.pinned (OpenSpec.ofChange Rows.mbapTidsSpec) :=
  OpenClaim.holds_of_wide 11 Try.f11 rfl rfl rfl rfl rfl rfl rfl ⟨rfl, rfl, rfl, rfl, rfl⟩ rfl rfl rfl rfl rfl (by kernel_rfl) Try.func11 (by kernel_rfl)
    (of_decide_eq_true (by kernel_rfl)) (by unfold Func.isWrapper; first | (rw [if_pos (by decide +kernel)]; kernel_rfl) | (rw [if_neg (by decide +kernel)]; exact ⟨rfl, rfl⟩))
    (fun os started H enc _ => lifted os started H enc)
theorem proved : Rows.MbapTidsSaid := over
#print axioms proved
end Go.Proofs.Ytbaeecmamacphaa
