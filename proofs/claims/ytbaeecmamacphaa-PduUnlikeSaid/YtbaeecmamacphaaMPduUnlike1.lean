/- The statement PduUnlike holds; no condition of its own. -/
import Derived.Test.YtbaeecmamacphaaKA1
import Derived.Test.YtbaeecmamacphaaKA2
import Derived.Test.YtbaeecmamacphaaKA3
import Derived.Test.YtbaeecmamacphaaKA4
import Derived.Test.YtbaeecmamacphaaKA5
import Derived.Test.YtbaeecmamacphaaRows
import Derived.WalkKit
import Derived.ProofKit
import Derived.OpenShut
import Derived.ShutString
import Derived.ChangeOld
import Derived.Below
set_option linter.unusedVariables false
set_option linter.unusedSimpArgs false
namespace Go.Proofs.Ytbaeecmamacphaa
open Go.RowKit
set_option maxRecDepth 100000 in
set_option maxHeartbeats 4000000 in
theorem lawPduUnlike {w : World} {ans : Bool} {mA : Bool} {A : Msg} {cA : Array Value} (hA : MsgRd mA w cA.toList A) {mB : Bool} {B : Msg} {cB : Array Value} (hB : MsgRd mB w cB.toList B) :
    Calls Try.prog 4 #[.bool ans, .agg cA, .agg cB] w (PVal (.bool true) w) := by
 obtain ⟨xA, rfl⟩ := mcl_of hA
 have hRA := hA.rngs
 obtain ⟨xB, rfl⟩ := mcl_of hB
 have hRB := hB.rngs
 obtain ⟨hcA, hdA⟩ := hRA
 obtain ⟨hcB, hdB⟩ := hRB
 refine en 57 Try.func4 rfl <| sg <| L0 <| Obx (mcl A xA) fun g10 w11 hg12 B13 hu14 => L0 <| Obx (mcl B xB) fun g15 w16 hg17 B18 hu19 => Pl 1 <| ng <| L0 <| Oc <| m1 (@awake14 _) fun w20 hu21 => Pl 1 <| nt <| ?_
 refine sg <| ?_
 have U22 := ut0 hu19 hu21
 have r23 := ub U22 B13
 refine L0 <| Olw r23 <| ?_
 have U24 := ut0 hu14 hu19
 have U25 := ut0 U24 hu21
 have r26 := MsgRd.old hA U25
 refine L0 <| Oc <| m1 (few_any r26) fun w27 hu28 => Pl 1 <| ng <| ?_
 have U29 := ut0 hu21 hu28
 have r30 := ub U29 B18
 refine L0 <| Olw r30 <| ?_
 have U31 := ut0 U25 hu28
 have r32 := MsgRd.old hB U31
 refine L0 <| Oc <| m1 (few_any r32) fun w33 hu34 => Pl 1 <| nt <| sq <| sg <| Pl 3 <| cu 3 [22] 25 (((!(fewB A)) || (!(fewB B)))) (fun K K36 => ?_) ?_
 refine bl 22 ((!(fewB A))) (fun q35 => ?_) (fun q35 => ?_)
 have q35n : (fewB A) = false := by simpa using q35
 exact Pl 3 <| ce K36 true (by rw [q35]; rfl)
 have q35n : (fewB A) = true := by simpa using q35
 exact Pl 3 <| ce K36 (!(fewB B)) (by rw [q35]; rfl)
 refine nt <| ?_
 have U37 := ut0 U31 hu34
 refine cb (((!(fewB A)) || (!(fewB B)))) (fun q38 => ?_) (fun q38 => ?_)
 refine sg <| Pl 2 <| nt <| rt <| tr <| rr (.bool true) <| ?_
 exact ⟨rfl, U37⟩
 have q38a := (or_f q38).1
 have q38b := (or_f q38).2
 have q38an : (fewB A) = true := by simpa using q38a
 have q38bn : (fewB B) = true := by simpa using q38b
 refine skn <| sg <| Pl 1 <| nt <| sq <| sg <| Pl 1 <| nt <| cb (ans) (fun q39 => ?_) (fun q39 => ?_)
 refine go <| Pl 1 <| ng <| Pl 1 <| ?_
 have U40 := ut0 hu28 hu34
 have r41 := ub U40 r23
 refine L0 <| Olw r41 <| ?_
 have r42 := MsgRd.old r26 U40
 refine wo (pduW 1 A) (fun hX44 => ?_) (fun l43 hX44 => ?_)
 refine L0 <| Oc <| m1 (pdu_write_n hX44 r42 (fewB_few q38an)) fun w45 hu46 => Pl 5 <| ng <| Pl 1 <| ?_
 have U47 := ut0 hu34 hu46
 have r48 := ub U47 r30
 refine L0 <| Olw r48 <| ?_
 have r49 := MsgRd.old r32 U47
 have U52 := ut0 U37 hu46
 refine wo (pduW 1 B) (fun hX51 => ?_) (fun l50 hX51 => ?_)
 refine L0 <| Oc <| m1 (pdu_write_n hX51 r49 (fewB_few q38bn)) fun w53 hu54 => Pl 5 <| nt <| sq <| sg <| Pl 6 <| nt <| c1 <| sg <| Pl 2 <| nl <| ?_
 refine tn <| rt <| tr <| rr (.bool true) <| ?_
 have U55 := ut0 U52 hu54
 exact ⟨rfl, U55⟩
 have hl56 := pduW_le (r49.rngs).1 hX51
 refine L0 <| Oc <| so2 (pdu_write_s hX51 r49 (fewB_few q38bn)) fun A61 cp62 w57 rd65 hl63 hm64 hu60 => Pl 5 <| nt <| sq <| sg <| Pl 6 <| nt <| c1 <| sg <| Pl 2 <| nl <| ?_
 refine tn <| rt <| tr <| rr (.bool true) <| ?_
 have U66 := ut0 U52 hu60
 exact ⟨rfl, U66⟩
 have hl67 := pduW_le (r42.rngs).1 hX44
 refine L0 <| Oc <| so2 (pdu_write_s hX44 r42 (fewB_few q38an)) fun A72 cp73 w68 rd76 hl74 hm75 hu71 => Pl 5 <| ng <| Pl 1 <| ?_
 have U77 := ut0 hu34 hu71
 have r78 := ub U77 r30
 refine L0 <| Olw r78 <| ?_
 have r79 := MsgRd.old r32 U77
 have U82 := ut0 U37 hu71
 refine wo (pduW 1 B) (fun hX81 => ?_) (fun l80 hX81 => ?_)
 refine L0 <| Oc <| m1 (pdu_write_n hX81 r79 (fewB_few q38bn)) fun w83 hu84 => Pl 5 <| nt <| sq <| sg <| Pl 6 <| nt <| c1 <| sg <| Pl 2 <| nl <| ?_
 refine tn <| rt <| tr <| rr (.bool true) <| ?_
 have U85 := ut0 U82 hu84
 exact ⟨rfl, U85⟩
 have hl86 := pduW_le (r79.rngs).1 hX81
 refine L0 <| Oc <| so2 (pdu_write_s hX81 r79 (fewB_few q38bn)) fun A91 cp92 w87 rd95 hl93 hm94 hu90 => Pl 5 <| nt <| sq <| sg <| Pl 6 <| nt <| c0 <| skn <| sq <| ?_
 refine Rg 11 (fun w' => w'.heap[g10]? = some (.cells (mcl A xA) 29 (0, 0)) ∧ w'.heap[g15]? = some (.cells (mcl B xB) 29 (0, 0))) fun w106 hu107 => ?_
 have U109 := ut0 hu71 hu90
 have U110 := ut0 U109 hu107
 have r111 := ub U110 r41
 have U112 := ut0 hu90 hu107
 have r113 := ub U112 r78
 refine hld ⟨r111, r113⟩ fun hS108 => Rt 0 hS108 <| Rt 1 hS108 <| Rt 2 hS108 <| Rt 3 hS108 <| Rr 5 hS108 (.agg (mcl A xA)) (fun w' hs => lda_o (g := g10) (off := 0) [.int .u8 A.code, .int .u8 A.fail, .int .u16 A.addr, .int .u16 A.count, .int .u16 A.value, .int .u16 A.and_, .int .u16 A.or_, .int .u16 A.addr2, .int .u16 A.sub, .int .u16 A.status, .int .u16 A.events, .int .u16 A.messages, .slice xA.aw A.words.length xA.kw, .slice xA.ab A.bits.length xA.kb, .slice xA.ad A.data.length xA.kd, .slice xA.ar A.recs.length xA.kr, .int .u8 A.mei, .int .u8 A.kind, .int .u8 A.level, .int .u8 A.more, .int .u8 A.next, .slice xA.ao A.objects.length xA.ko] rfl (by kernel_rfl) hs.1 (by kernel_rfl) (by kernel_rfl) rfl) <| Rr 6 hS108 (.agg (mcl B xB)) (fun w' hs => lda_o (g := g15) (off := 0) [.int .u8 B.code, .int .u8 B.fail, .int .u16 B.addr, .int .u16 B.count, .int .u16 B.value, .int .u16 B.and_, .int .u16 B.or_, .int .u16 B.addr2, .int .u16 B.sub, .int .u16 B.status, .int .u16 B.events, .int .u16 B.messages, .slice xB.aw B.words.length xB.kw, .slice xB.ab B.bits.length xB.kb, .slice xB.ad B.data.length xB.kd, .slice xB.ar B.recs.length xB.kr, .int .u8 B.mei, .int .u8 B.kind, .int .u8 B.level, .int .u8 B.more, .int .u8 B.next, .slice xB.ao B.objects.length xB.ko] rfl (by kernel_rfl) hs.2 (by kernel_rfl) (by kernel_rfl) rfl) <| ?_
 have r114 := own_stay rd76 U112 (fun x hx => not0) (fun _ _ h => h)
 have r115 := own_stay rd95 hu107 (fun x hx => not0) (fun _ _ h => h)
 refine R0 4 rfl <| Oc (args := #[.slice A72 l43.length cp73, .slice A91 l80.length cp92]) <| m1 (same1_any (xs := l43) (ys := l80) (r114).rd (r115).rd) fun w116 hu117 => ?_
 have r119 := ub hu117 r111
 have r120 := ub hu117 r113
 refine hld ⟨r119, r120⟩ fun hS118 => ?_
 have U121 := ut0 U110 hu117
 have r122 := MsgRd.old r42 U121
 have U123 := ut0 U112 hu117
 have r124 := MsgRd.old r79 U123
 refine R0 7 rfl <| Oc <| m1 (same7_any r122 r124) fun w125 hu126 => ?_
 have r128 := ub hu126 r119
 have r129 := ub hu126 r120
 refine hld ⟨r128, r129⟩ fun hS127 => Rt 8 hS127 <| Rt 9 hS127 <| Rt 10 hS127 <| re <| tn <| rt <| rr (.bool ((decide (l43 = l80)) == (decide (A = B)))) <| ?_
 have hs : ((decide (l43 = l80)) == (decide (A = B))) = true := pduW_inj (by decide) hcA hdA hcB hdB hX44 hX81
 rw [hs]
 have U130 := ut0 U82 hu90
 have U131 := ut0 U130 hu107
 have U132 := ut0 U131 hu117
 have U133 := ut0 U132 hu126
 exact ⟨rfl, U133⟩
 refine skn <| sg <| Pl 1 <| ?_
 have U134 := ut0 hu28 hu34
 have r135 := ub U134 r23
 refine L0 <| Olw r135 <| ?_
 have r136 := MsgRd.old r26 U134
 refine wo (pduW 0 A) (fun hX138 => ?_) (fun l137 hX138 => ?_)
 refine L0 <| Oc <| m1 (pdu_write_n hX138 r136 (fewB_few q38an)) fun w139 hu140 => Pl 5 <| ng <| Pl 1 <| ?_
 have U141 := ut0 hu34 hu140
 have r142 := ub U141 r30
 refine L0 <| Olw r142 <| ?_
 have r143 := MsgRd.old r32 U141
 have U146 := ut0 U37 hu140
 refine wo (pduW 0 B) (fun hX145 => ?_) (fun l144 hX145 => ?_)
 refine L0 <| Oc <| m1 (pdu_write_n hX145 r143 (fewB_few q38bn)) fun w147 hu148 => Pl 5 <| nt <| sq <| sg <| Pl 6 <| nt <| c1 <| sg <| Pl 2 <| nl <| ?_
 refine tn <| rt <| tr <| rr (.bool true) <| ?_
 have U149 := ut0 U146 hu148
 exact ⟨rfl, U149⟩
 have hl150 := pduW_le (r143.rngs).1 hX145
 refine L0 <| Oc <| so2 (pdu_write_s hX145 r143 (fewB_few q38bn)) fun A155 cp156 w151 rd159 hl157 hm158 hu154 => Pl 5 <| nt <| sq <| sg <| Pl 6 <| nt <| c1 <| sg <| Pl 2 <| nl <| ?_
 refine tn <| rt <| tr <| rr (.bool true) <| ?_
 have U160 := ut0 U146 hu154
 exact ⟨rfl, U160⟩
 have hl161 := pduW_le (r136.rngs).1 hX138
 refine L0 <| Oc <| so2 (pdu_write_s hX138 r136 (fewB_few q38an)) fun A166 cp167 w162 rd170 hl168 hm169 hu165 => Pl 5 <| ng <| Pl 1 <| ?_
 have U171 := ut0 hu34 hu165
 have r172 := ub U171 r30
 refine L0 <| Olw r172 <| ?_
 have r173 := MsgRd.old r32 U171
 have U176 := ut0 U37 hu165
 refine wo (pduW 0 B) (fun hX175 => ?_) (fun l174 hX175 => ?_)
 refine L0 <| Oc <| m1 (pdu_write_n hX175 r173 (fewB_few q38bn)) fun w177 hu178 => Pl 5 <| nt <| sq <| sg <| Pl 6 <| nt <| c1 <| sg <| Pl 2 <| nl <| ?_
 refine tn <| rt <| tr <| rr (.bool true) <| ?_
 have U179 := ut0 U176 hu178
 exact ⟨rfl, U179⟩
 have hl180 := pduW_le (r173.rngs).1 hX175
 refine L0 <| Oc <| so2 (pdu_write_s hX175 r173 (fewB_few q38bn)) fun A185 cp186 w181 rd189 hl187 hm188 hu184 => Pl 5 <| nt <| sq <| sg <| Pl 6 <| nt <| c0 <| skn <| sq <| ?_
 refine Rg 11 (fun w' => w'.heap[g10]? = some (.cells (mcl A xA) 29 (0, 0)) ∧ w'.heap[g15]? = some (.cells (mcl B xB) 29 (0, 0))) fun w200 hu201 => ?_
 have U203 := ut0 hu165 hu184
 have U204 := ut0 U203 hu201
 have r205 := ub U204 r135
 have U206 := ut0 hu184 hu201
 have r207 := ub U206 r172
 refine hld ⟨r205, r207⟩ fun hS202 => Rt 0 hS202 <| Rt 1 hS202 <| Rt 2 hS202 <| Rt 3 hS202 <| Rr 5 hS202 (.agg (mcl A xA)) (fun w' hs => lda_o (g := g10) (off := 0) [.int .u8 A.code, .int .u8 A.fail, .int .u16 A.addr, .int .u16 A.count, .int .u16 A.value, .int .u16 A.and_, .int .u16 A.or_, .int .u16 A.addr2, .int .u16 A.sub, .int .u16 A.status, .int .u16 A.events, .int .u16 A.messages, .slice xA.aw A.words.length xA.kw, .slice xA.ab A.bits.length xA.kb, .slice xA.ad A.data.length xA.kd, .slice xA.ar A.recs.length xA.kr, .int .u8 A.mei, .int .u8 A.kind, .int .u8 A.level, .int .u8 A.more, .int .u8 A.next, .slice xA.ao A.objects.length xA.ko] rfl (by kernel_rfl) hs.1 (by kernel_rfl) (by kernel_rfl) rfl) <| Rr 6 hS202 (.agg (mcl B xB)) (fun w' hs => lda_o (g := g15) (off := 0) [.int .u8 B.code, .int .u8 B.fail, .int .u16 B.addr, .int .u16 B.count, .int .u16 B.value, .int .u16 B.and_, .int .u16 B.or_, .int .u16 B.addr2, .int .u16 B.sub, .int .u16 B.status, .int .u16 B.events, .int .u16 B.messages, .slice xB.aw B.words.length xB.kw, .slice xB.ab B.bits.length xB.kb, .slice xB.ad B.data.length xB.kd, .slice xB.ar B.recs.length xB.kr, .int .u8 B.mei, .int .u8 B.kind, .int .u8 B.level, .int .u8 B.more, .int .u8 B.next, .slice xB.ao B.objects.length xB.ko] rfl (by kernel_rfl) hs.2 (by kernel_rfl) (by kernel_rfl) rfl) <| ?_
 have r208 := own_stay rd170 U206 (fun x hx => not0) (fun _ _ h => h)
 have r209 := own_stay rd189 hu201 (fun x hx => not0) (fun _ _ h => h)
 refine R0 4 rfl <| Oc (args := #[.slice A166 l137.length cp167, .slice A185 l174.length cp186]) <| m1 (same1_any (xs := l137) (ys := l174) (r208).rd (r209).rd) fun w210 hu211 => ?_
 have r213 := ub hu211 r205
 have r214 := ub hu211 r207
 refine hld ⟨r213, r214⟩ fun hS212 => ?_
 have U215 := ut0 U204 hu211
 have r216 := MsgRd.old r136 U215
 have U217 := ut0 U206 hu211
 have r218 := MsgRd.old r173 U217
 refine R0 7 rfl <| Oc <| m1 (same7_any r216 r218) fun w219 hu220 => ?_
 have r222 := ub hu220 r213
 have r223 := ub hu220 r214
 refine hld ⟨r222, r223⟩ fun hS221 => Rt 8 hS221 <| Rt 9 hS221 <| Rt 10 hS221 <| re <| tn <| rt <| rr (.bool ((decide (l137 = l174)) == (decide (A = B)))) <| ?_
 have hs : ((decide (l137 = l174)) == (decide (A = B))) = true := pduW_inj (by decide) hcA hdA hcB hdB hX138 hX175
 rw [hs]
 have U224 := ut0 U176 hu184
 have U225 := ut0 U224 hu201
 have U226 := ut0 U225 hu211
 have U227 := ut0 U226 hu220
 exact ⟨rfl, U227⟩
end Go.Proofs.Ytbaeecmamacphaa
namespace Go.Proofs.Ytbaeecmamacphaa
open Go.ChangeShapes Go.WideShapes Go.ChangeAt Go.RowKit
theorem own : ownKnob Try.prog.godebug = none := by kernel_rfl
theorem laidOut : laidOutB Try.prog = true := by kernel_rfl
set_option maxRecDepth 100000 in
theorem lifted (os : Os) (started : os.Started) (H : Type) (enc : TypeId × Value → H) :
    ReturnsInHanded {} Try.checked os 4 .any (Rows.pduUnlikeSpec.pre6 enc Try.prog Try.f4 Rows.pduUnlikeRow.domain false) (Rows.pduUnlikeSpec.post enc Try.prog Try.f4 false true false false) := by
  refine returnsInHanded_of_change (C := Try.checked) own started (by kernel_rfl) Try.func4
    (ChangeSpec.witness6 (enc := enc) (C := Try.checked) false ⟨#[], #[.bool false, .agg mZ, .agg mZ], []⟩ 8 (by kernel_rfl) (by kernel_rfl) (by kernel_rfl) (by kernel_rfl)) ?_
  intro W base args ds gs before hval0 hW hcnd _
  have hval : ∀ (j : Nat) t v, Try.f4.params[j]? = some t → args[j]? = some v → Value.okWide Try.prog W .any base t v := hval0
  have hW' := hW
  obtain ⟨p, q, hA0, hV, rfl, hfz, hnd⟩ := hW
  have hA : DataW.TrodAll enc Try.prog W 0 (fun _ => true) true Try.f4.params.toList args.toList ds p := hA0
  rw [Try.params4] at hA hval
  obtain ⟨v0, vs0, d0, ds0, p0, q0, hargs, rfl, rfl, h0, r0⟩ := trodAll_cons hA
  obtain ⟨v1, vs1, d1, ds1, p1, q1, rfl, rfl, rfl, h1, r1⟩ := trodAll_cons r0
  obtain ⟨v2, vs2, d2, ds2, p2, q2, rfl, rfl, rfl, h2, r2⟩ := trodAll_cons r1
  obtain ⟨rfl, rfl, rfl⟩ := trodAll_nil r2
  obtain rfl : args = #[v0, v1, v2] := by cases args; simp_all
  obtain ⟨rfl, rfl⟩ := trodVars_none hV
  obtain ⟨a0, rfl, rfl, rfl⟩ := open_bool Try.underlying4 (hval 0 4 v0 rfl rfl) h0
  have k1 := h1
  have lt1 : ∀ x ∈ p1, x.block < W.heap.size := by obtain ⟨m, hm⟩ := k1; exact DataW.trod_lt m _ _ _ hm
  obtain ⟨c1, M1, rfl, R1⟩ := msg_arg ⟨_, hval 1 29 v1 rfl rfl⟩ h1
  have k2 := h2
  have lt2 : ∀ x ∈ p2, x.block < W.heap.size := by obtain ⟨m, hm⟩ := k2; exact DataW.trod_lt m _ _ _ hm
  obtain ⟨c2, M2, rfl, R2⟩ := msg_arg ⟨_, hval 2 29 v2 rfl rfl⟩ h2
  clear hA0 hval0
  refine (lawPduUnlike (ans := a0) R1 R2).mono fun e W' ⟨he, hu⟩ => ?_
  have bel := upd_below hu
  subst he
  exact ⟨_, rfl, _, _, _, [], _, [], hW', trodAll_mk1 (shut_bool Try.underlying4 _), (trodAll_cons_mk (shut_bool Try.underlying4 _) (trodAll_cons_mk (Below.trod laidOut (by kernel_rfl) (of_decide_eq_true (by kernel_rfl)) k1 bel lt1) (trodAll_cons_mk (Below.trod laidOut (by kernel_rfl) (of_decide_eq_true (by kernel_rfl)) k2 bel lt2) trodAll_mk0))), rfl, bel.frame _, fun h => by cases h⟩
theorem over : Rows.pduUnlikeRow.holds Try.pinned (OpenSpec.ofChange Rows.pduUnlikeSpec) :=
  OpenClaim.holds_of_wide 4 Try.f4 rfl rfl rfl rfl rfl rfl rfl ⟨rfl, rfl, rfl, rfl, rfl⟩ rfl rfl rfl rfl rfl (by kernel_rfl) Try.func4 (by kernel_rfl)
    (of_decide_eq_true (by kernel_rfl)) (by unfold Func.isWrapper; first | (rw [if_pos (by decide +kernel)]; kernel_rfl) | (rw [if_neg (by decide +kernel)]; exact ⟨rfl, rfl⟩))
    (fun os started H enc _ => lifted os started H enc)
theorem proved : Rows.PduUnlikeSaid := over
#print axioms proved
end Go.Proofs.Ytbaeecmamacphaa
