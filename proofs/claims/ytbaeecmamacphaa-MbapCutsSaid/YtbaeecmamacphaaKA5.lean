/- Contracts of functions, part KA5. -/
import Derived.Test.YtbaeecmamacphaaKA1
import Derived.Test.YtbaeecmamacphaaKA2
import Derived.Test.YtbaeecmamacphaaKA3
import Derived.Test.YtbaeecmamacphaaKA4
import Derived.OpenShut
import Derived.Below
import Derived.Deep.Slices
import Derived.ChangeArms
import Derived.WideShapes
set_option linter.unusedVariables false
set_option linter.unusedSimpArgs false
namespace Go.Proofs.Ytbaeecmamacphaa
open Go.RowKit
def diagLay (dir : Int) (M : Msg) : List Int :=
  if M.code == 8 then putW [M.sub] ++ putW M.words
  else if dir == 0 then []
  else if M.code == 7 then [M.value % 256]
  else if M.code == 11 then putW [M.status, M.events]
  else if M.code == 12 then (([(6 + (M.data.length : Int)) % 256] ++ putW [M.status, M.events, M.messages]) ++ M.data)
  else [(M.data.length : Int) % 256] ++ M.data
set_option maxRecDepth 100000 in
set_option maxHeartbeats 4000000 in
theorem diag_lay_t {m : Bool} {cs : Array Value} {M : Msg} {w : World} {dir : Int} (h : MsgRd m w cs.toList M) (hf : MsgFew M) (hd0 : (dir == 0) = true) : Calls Try.prog 65 #[.int .i64 dir, .agg cs] w (PLay (diagLay dir M) w) := by
 obtain ⟨vw, vb, vd, vr, vo, h0, hw, hbt, hd, hr, ho, hR⟩ := h
 obtain rfl : cs = (msgCells M vw vb vd vr vo).toArray := by apply Array.toList_inj.1; simpa using h0
 clear h0
 obtain ⟨Aw, kw, rfl, _, _⟩ := hw.shape
 obtain ⟨Ab, kb, rfl, _, _⟩ := hbt.shape
 obtain ⟨Ad, kd, rfl, _, _⟩ := hd.shape
 obtain ⟨Ar, kr, rfl, _, _⟩ := hr.shape
 obtain ⟨Ao, ko, rfl, _, _⟩ := ho.shape
 obtain ⟨q0, q1, q2, q3, q4, q5, q6, q7, q8, q9, q10, q11, q16, q17, q18, q19, q20⟩ := hR
 simp only [B8, B16] at q0 q1 q2 q3 q4 q5 q6 q7 q8 q9 q10 q11 q16 q17 q18 q19 q20
 have hf1 := hf.words
 have hf2 := hf.bits
 have hf3 := hf.data
 have hf4 := hf.recs
 have hf5 := hf.objects
 refine en 70 Try.func65 rfl <| sg <| L0 <| Obx (mG M.code M.fail M.addr M.count M.value M.and_ M.or_ M.addr2 M.sub M.status M.events M.messages (.slice Aw M.words.length kw) (.slice Ab M.bits.length kb) (.slice Ad M.data.length kd) (.slice Ar M.recs.length kr) M.mei M.kind M.level M.more M.next (.slice Ao M.objects.length ko)) fun g10 w11 hg12 B13 hu14 => Pl 1 <| nt <| sq <| bk <| sg <| Pl 1 <| L0 <| Olb B13 0 <| Pl 2 <| nl <| ?_
 refine tn <| cb ((M.code == 8)) (fun q15 => ?_) (fun q15 => ?_)
 have q15p := eq_of_beqi q15
 refine sq <| Rg 9 (fun w' => w'.cell? ⟨g10, 8, none⟩ = some (.int .u16 M.sub) ∧ w'.cell? ⟨g10, 12, none⟩ = some (.slice Aw M.words.length kw)) fun w49 hu50 => ?_
 have r52 := ub hu50 B13
 refine hld ⟨(blk_at r52 rfl), (blk_at r52 rfl)⟩ fun hS51 => Rt 0 hS51 <| Rl 1 hS51 (fun _ hs => hs.1) <| Rt 4 hS51 <| Rl 5 hS51 (fun _ hs => hs.2) <| R0 2 rfl <| Olt (m := 1) (e := 23) #[.int .u16 M.sub] fun g53 w54 hg55 B56 hu57 => ?_
 have ow58 := litW hg55 (xs := [M.sub]) (by as_aux_lemma => kernel_rfl) (rng_cons (by omega) rng_nil) (by (try simp only [List.length_cons, List.length_nil]); omega) B56
 have r60 := ub hu57 r52
 refine hld ⟨(blk_at r60 rfl), (blk_at r60 rfl)⟩ fun hS59 => R0 3 rfl <| Oc <| so2 (put_any (xs := [M.sub]) (ow58).rd (by (try simp only [List.length_cons, List.length_nil]); omega)) fun A65 cp66 w61 rd69 hl67 hm68 hu64 => ?_
 have r71 := ub hu64 r60
 refine hld ⟨(blk_at r71 rfl), (blk_at r71 rfl)⟩ fun hS70 => ?_
 have U72 := ut0 hu14 hu50
 have U73 := ut0 U72 hu57
 have U74 := ut0 U73 hu64
 have r75 := RdW.old hw U74
 refine R0 6 rfl <| Oc <| so2 (put_any (xs := M.words) r75 (by (try simp only [List.length_cons, List.length_nil]); omega)) fun A80 cp81 w76 rd84 hl82 hm83 hu79 => ?_
 have r86 := ub hu79 r71
 refine hld ⟨(blk_at r86 rfl), (blk_at r86 rfl)⟩ fun hS85 => ?_
 have r87 := own_stay rd69 hu79 (fun x hx => not0) (fun _ _ h => h)
 refine R0 7 rfl <| Oapp one_u8 (xs := (putW ([M.sub]))) (ys := (putW M.words)) (.int .u8 0) 1 r87 (rd84).rd (by (try simp only [List.length_append, List.length_cons, List.length_nil, putW_length]); omega) (le hu64.size hu79.size) fun A88 cp89 w90 ho91 hu92 => ?_
 have r94 := Upd.blk hu92 (not_app (not_old (blk_lt B13) (le hu50.size hu57.size) rd69) not0) r86
 refine hld ⟨(blk_at r94 rfl), (blk_at r94 rfl)⟩ fun hS93 => Rt 8 hS93 <| re <| tn <| rt <| br <| tr <| rr (.slice A88 (((putW ([M.sub])) ++ (putW M.words)).length) cp89) <| ?_
 have hs : diagLay dir M = ((putW ([M.sub])) ++ (putW M.words)) := by
   unfold diagLay 
   (try simp only [hd0, q15, bs, if_true, if_false, decide_true, decide_false, reduceIte])
   all_goals rfl
 rw [hs]
 have U95 := ut0 U74 hu79
 have U96 := ut U95 hu92 (all_app (ob_new rd69 U73.size) all0)
 exact ⟨_, rfl, (OwnG.weaken ho91 U73.size), U96⟩
 have q15p := ne_of_beqi q15
 refine sg <| Pl 3 <| nt <| ct hd0 <| sg <| Pl 1 <| nt <| rt <| br <| tr <| ?_
 refine rr (.slice none 0 0) <| ?_
 have hs : diagLay dir M = [] := by
   unfold diagLay 
   (try simp only [hd0, q15, bs, if_true, if_false, decide_true, decide_false, reduceIte])
   all_goals rfl
 rw [hs]
 exact ⟨_, rfl, (OwnG.nil ..), hu14⟩
set_option maxRecDepth 100000 in
set_option maxHeartbeats 4000000 in
theorem diag_lay_f {m : Bool} {cs : Array Value} {M : Msg} {w : World} {dir : Int} (h : MsgRd m w cs.toList M) (hf : MsgFew M) (hd0 : (dir == 0) = false) : Calls Try.prog 65 #[.int .i64 dir, .agg cs] w (PLay (diagLay dir M) w) := by
 obtain ⟨vw, vb, vd, vr, vo, h0, hw, hbt, hd, hr, ho, hR⟩ := h
 obtain rfl : cs = (msgCells M vw vb vd vr vo).toArray := by apply Array.toList_inj.1; simpa using h0
 clear h0
 obtain ⟨Aw, kw, rfl, _, _⟩ := hw.shape
 obtain ⟨Ab, kb, rfl, _, _⟩ := hbt.shape
 obtain ⟨Ad, kd, rfl, _, _⟩ := hd.shape
 obtain ⟨Ar, kr, rfl, _, _⟩ := hr.shape
 obtain ⟨Ao, ko, rfl, _, _⟩ := ho.shape
 obtain ⟨q0, q1, q2, q3, q4, q5, q6, q7, q8, q9, q10, q11, q16, q17, q18, q19, q20⟩ := hR
 simp only [B8, B16] at q0 q1 q2 q3 q4 q5 q6 q7 q8 q9 q10 q11 q16 q17 q18 q19 q20
 have hf1 := hf.words
 have hf2 := hf.bits
 have hf3 := hf.data
 have hf4 := hf.recs
 have hf5 := hf.objects
 refine en 70 Try.func65 rfl <| sg <| L0 <| Obx (mG M.code M.fail M.addr M.count M.value M.and_ M.or_ M.addr2 M.sub M.status M.events M.messages (.slice Aw M.words.length kw) (.slice Ab M.bits.length kb) (.slice Ad M.data.length kd) (.slice Ar M.recs.length kr) M.mei M.kind M.level M.more M.next (.slice Ao M.objects.length ko)) fun g10 w11 hg12 B13 hu14 => Pl 1 <| nt <| sq <| bk <| sg <| Pl 1 <| L0 <| Olb B13 0 <| Pl 2 <| nl <| ?_
 refine tn <| cb ((M.code == 8)) (fun q15 => ?_) (fun q15 => ?_)
 have q15p := eq_of_beqi q15
 refine sq <| Rg 9 (fun w' => w'.cell? ⟨g10, 8, none⟩ = some (.int .u16 M.sub) ∧ w'.cell? ⟨g10, 12, none⟩ = some (.slice Aw M.words.length kw)) fun w49 hu50 => ?_
 have r52 := ub hu50 B13
 refine hld ⟨(blk_at r52 rfl), (blk_at r52 rfl)⟩ fun hS51 => Rt 0 hS51 <| Rl 1 hS51 (fun _ hs => hs.1) <| Rt 4 hS51 <| Rl 5 hS51 (fun _ hs => hs.2) <| R0 2 rfl <| Olt (m := 1) (e := 23) #[.int .u16 M.sub] fun g53 w54 hg55 B56 hu57 => ?_
 have ow58 := litW hg55 (xs := [M.sub]) (by as_aux_lemma => kernel_rfl) (rng_cons (by omega) rng_nil) (by (try simp only [List.length_cons, List.length_nil]); omega) B56
 have r60 := ub hu57 r52
 refine hld ⟨(blk_at r60 rfl), (blk_at r60 rfl)⟩ fun hS59 => R0 3 rfl <| Oc <| so2 (put_any (xs := [M.sub]) (ow58).rd (by (try simp only [List.length_cons, List.length_nil]); omega)) fun A65 cp66 w61 rd69 hl67 hm68 hu64 => ?_
 have r71 := ub hu64 r60
 refine hld ⟨(blk_at r71 rfl), (blk_at r71 rfl)⟩ fun hS70 => ?_
 have U72 := ut0 hu14 hu50
 have U73 := ut0 U72 hu57
 have U74 := ut0 U73 hu64
 have r75 := RdW.old hw U74
 refine R0 6 rfl <| Oc <| so2 (put_any (xs := M.words) r75 (by (try simp only [List.length_cons, List.length_nil]); omega)) fun A80 cp81 w76 rd84 hl82 hm83 hu79 => ?_
 have r86 := ub hu79 r71
 refine hld ⟨(blk_at r86 rfl), (blk_at r86 rfl)⟩ fun hS85 => ?_
 have r87 := own_stay rd69 hu79 (fun x hx => not0) (fun _ _ h => h)
 refine R0 7 rfl <| Oapp one_u8 (xs := (putW ([M.sub]))) (ys := (putW M.words)) (.int .u8 0) 1 r87 (rd84).rd (by (try simp only [List.length_append, List.length_cons, List.length_nil, putW_length]); omega) (le hu64.size hu79.size) fun A88 cp89 w90 ho91 hu92 => ?_
 have r94 := Upd.blk hu92 (not_app (not_old (blk_lt B13) (le hu50.size hu57.size) rd69) not0) r86
 refine hld ⟨(blk_at r94 rfl), (blk_at r94 rfl)⟩ fun hS93 => Rt 8 hS93 <| re <| tn <| rt <| br <| tr <| rr (.slice A88 (((putW ([M.sub])) ++ (putW M.words)).length) cp89) <| ?_
 have hs : diagLay dir M = ((putW ([M.sub])) ++ (putW M.words)) := by
   unfold diagLay 
   (try simp only [hd0, q15, bs, if_true, if_false, decide_true, decide_false, reduceIte])
   all_goals rfl
 rw [hs]
 have U95 := ut0 U74 hu79
 have U96 := ut U95 hu92 (all_app (ob_new rd69 U73.size) all0)
 exact ⟨_, rfl, (OwnG.weaken ho91 U73.size), U96⟩
 have q15p := ne_of_beqi q15
 refine sg <| Pl 3 <| nt <| cf hd0 <| sg <| Pl 1 <| L0 <| Olb B13 0 <| Pl 2 <| nt <| cb ((M.code == 7)) (fun q97 => ?_) (fun q97 => ?_)
 have q97p := eq_of_beqi q97
 refine sg <| Pl 1 <| L0 <| Olb B13 4 <| Pl 1 <| L0 <| Olt (m := 1) (e := 5) #[.int .u8 (M.value % 256)] fun g98 w99 hg100 B101 hu102 => ?_
 have ow103 := litB hg100 (xs := [(M.value % 256)]) (by as_aux_lemma => kernel_rfl) (rng_cons (by omega) rng_nil) (by (try simp only [List.length_cons, List.length_nil]); omega) B101
 refine Pl 1 <| nt <| rt <| br <| tr <| rr (.slice (some ⟨g98, 0, none⟩) 1 1) <| ?_
 have hs : diagLay dir M = [(M.value % 256)] := by
   unfold diagLay 
   (try simp only [hd0, q15, q97, bs, if_true, if_false, decide_true, decide_false, reduceIte])
   all_goals rfl
 rw [hs]
 have U104 := ut0 hu14 hu102
 exact ⟨_, rfl, (OwnG.weaken ow103 hu14.size), U104⟩
 have q97p := ne_of_beqi q97
 refine sg <| Pl 1 <| L0 <| Olb B13 0 <| Pl 2 <| nt <| cb ((M.code == 11)) (fun q105 => ?_) (fun q105 => ?_)
 have q105p := eq_of_beqi q105
 refine sg <| Pl 1 <| L0 <| Olb B13 9 <| Pl 1 <| L0 <| Olb B13 10 <| L0 <| Olt (m := 2) (e := 23) #[.int .u16 M.status, .int .u16 M.events] fun g106 w107 hg108 B109 hu110 => ?_
 have ow111 := litW hg108 (xs := [M.status, M.events]) (by as_aux_lemma => kernel_rfl) (rng_cons (by omega) (rng_cons (by omega) rng_nil)) (by (try simp only [List.length_cons, List.length_nil]); omega) B109
 refine L0 <| Oc <| so2 (put_any (xs := [M.status, M.events]) (ow111).rd (by (try simp only [List.length_cons, List.length_nil]); omega)) fun A116 cp117 w112 rd120 hl118 hm119 hu115 => Pl 1 <| nt <| rt <| br <| tr <| rr (.slice A116 ((putW ([M.status, M.events])).length) cp117) <| ?_
 have hs : diagLay dir M = (putW ([M.status, M.events])) := by
   unfold diagLay 
   (try simp only [hd0, q15, q97, q105, bs, if_true, if_false, decide_true, decide_false, reduceIte])
   all_goals rfl
 rw [hs]
 have U121 := ut0 hu14 hu110
 have U122 := ut0 U121 hu115
 exact ⟨_, rfl, (OwnG.weaken rd120 (le hu14.size hu110.size)), U122⟩
 have q105p := ne_of_beqi q105
 refine sg <| Pl 1 <| L0 <| Olb B13 0 <| Pl 2 <| nt <| cb ((M.code == 12)) (fun q123 => ?_) (fun q123 => ?_)
 have q123p := eq_of_beqi q123
 refine sq <| Rg 16 (fun w' => w'.cell? ⟨g10, 14, none⟩ = some (.slice Ad M.data.length kd) ∧ w'.cell? ⟨g10, 9, none⟩ = some (.int .u16 M.status) ∧ w'.cell? ⟨g10, 10, none⟩ = some (.int .u16 M.events) ∧ w'.cell? ⟨g10, 11, none⟩ = some (.int .u16 M.messages)) fun w201 hu202 => ?_
 have r204 := ub hu202 B13
 refine hld ⟨(blk_at r204 rfl), (blk_at r204 rfl), (blk_at r204 rfl), (blk_at r204 rfl)⟩ fun hS203 => Rt 0 hS203 <| Rl 1 hS203 (fun _ hs => hs.1) <| Rt 2 hS203 <| Rr 3 hS203 (.int .i64 (6 + ((M.data.length : Nat) : Int))) (fun _ _ => run_eqo (.int .i64 (IntKind.i64.wrap (6 + ((M.data.length : Nat) : Int)))) (by kernel_rfl) (congrArg (Value.int .i64) (IntWalk.i64_in _ (by omega)))) <| Rt 4 hS203 <| Rt 6 hS203 <| Rl 7 hS203 (fun _ hs => hs.2.1) <| Rt 8 hS203 <| Rl 9 hS203 (fun _ hs => hs.2.2.1) <| Rt 10 hS203 <| Rl 11 hS203 (fun _ hs => hs.2.2.2) <| ?_
 refine R2 5 12 rfl rfl ?_ ?_
 refine  Olt (m := 1) (e := 5) #[.int .u8 ((6 + ((M.data.length : Nat) : Int)) % 256)] fun g205 w206 hg207 B208 hu209 => ?_
 have ow210 := litB hg207 (xs := [((6 + ((M.data.length : Nat) : Int)) % 256)]) (by as_aux_lemma => kernel_rfl) (rng_cons (by omega) rng_nil) (by (try simp only [List.length_cons, List.length_nil]); omega) B208
 have r212 := ub hu209 r204
 refine hld ⟨(blk_at r212 rfl), (blk_at r212 rfl), (blk_at r212 rfl), (blk_at r212 rfl)⟩ fun hS211 => R0 12 rfl <| Olt (m := 3) (e := 23) #[.int .u16 M.status, .int .u16 M.events, .int .u16 M.messages] fun g213 w214 hg215 B216 hu217 => ?_
 have ow218 := litW hg215 (xs := [M.status, M.events, M.messages]) (by as_aux_lemma => kernel_rfl) (rng_cons (by omega) (rng_cons (by omega) (rng_cons (by omega) rng_nil))) (by (try simp only [List.length_cons, List.length_nil]); omega) B216
 have r220 := ub hu217 r212
 refine hld ⟨(blk_at r220 rfl), (blk_at r220 rfl), (blk_at r220 rfl), (blk_at r220 rfl)⟩ fun hS219 => R0 13 rfl <| Oc <| so2 (put_any (xs := [M.status, M.events, M.messages]) (ow218).rd (by (try simp only [List.length_cons, List.length_nil]); omega)) fun A225 cp226 w221 rd229 hl227 hm228 hu224 => ?_
 have r231 := ub hu224 r220
 refine hld ⟨(blk_at r231 rfl), (blk_at r231 rfl), (blk_at r231 rfl), (blk_at r231 rfl)⟩ fun hS230 => ?_
 have U232 := ut0 hu217 hu224
 have r233 := own_stay ow210 U232 (fun x hx => not0) (fun _ _ h => h)
 refine R0 14 rfl <| Oapp one_u8 (xs := ([((6 + ((M.data.length : Nat) : Int)) % 256)])) (ys := (putW ([M.status, M.events, M.messages]))) (.int .u8 0) 1 r233 (rd229).rd (by (try simp only [List.length_append, List.length_cons, List.length_nil, putW_length]); omega) (le (le hu209.size hu217.size) hu224.size) fun A234 cp235 w236 ho237 hu238 => ?_
 have r240 := Upd.blk hu238 (not_app (not_old (blk_lt B13) hu202.size ow210) not0) r231
 refine hld ⟨(blk_at r240 rfl), (blk_at r240 rfl), (blk_at r240 rfl), (blk_at r240 rfl)⟩ fun hS239 => Rt 15 hS239 <| re <| tn <| sg <| Pl 2 <| L0 <| Olb r240 14 <| ?_
 have U241 := ut0 hu14 hu202
 have U242 := ut0 U241 hu209
 have U243 := ut0 U242 hu217
 have U244 := ut0 U243 hu224
 have U245 := ut U244 hu238 (all_app (ob_new ow210 U241.size) all0)
 have r246 := RdB.old hd U245
 refine L0 <| Oapp one_u8 (xs := ([((6 + ((M.data.length : Nat) : Int)) % 256)] ++ (putW ([M.status, M.events, M.messages])))) (ys := M.data) (.int .u8 0) 1 ho237 r246 (by (try simp only [List.length_append, List.length_cons, List.length_nil, putW_length]); omega) (le (le (le hu209.size hu217.size) hu224.size) hu238.size) fun A247 cp248 w249 ho250 hu251 => Pl 1 <| nt <| rt <| br <| tr <| rr (.slice A247 ((([((6 + ((M.data.length : Nat) : Int)) % 256)] ++ (putW ([M.status, M.events, M.messages]))) ++ M.data).length) cp248) <| ?_
 have hs : diagLay dir M = (([((6 + ((M.data.length : Nat) : Int)) % 256)] ++ (putW ([M.status, M.events, M.messages]))) ++ M.data) := by
   unfold diagLay 
   (try simp only [hd0, q15, q97, q105, q123, bs, if_true, if_false, decide_true, decide_false, reduceIte])
   all_goals rfl
 rw [hs]
 have U252 := ut U245 hu251 (all_app (ob_new ho237 U241.size) all0)
 exact ⟨_, rfl, (OwnG.weaken ho250 U241.size), U252⟩
 refine  Olt (m := 3) (e := 23) #[.int .u16 M.status, .int .u16 M.events, .int .u16 M.messages] fun g253 w254 hg255 B256 hu257 => ?_
 have ow258 := litW hg255 (xs := [M.status, M.events, M.messages]) (by as_aux_lemma => kernel_rfl) (rng_cons (by omega) (rng_cons (by omega) (rng_cons (by omega) rng_nil))) (by (try simp only [List.length_cons, List.length_nil]); omega) B256
 have r260 := ub hu257 r204
 refine hld ⟨(blk_at r260 rfl), (blk_at r260 rfl), (blk_at r260 rfl), (blk_at r260 rfl)⟩ fun hS259 => ?_
 refine R2 5 13 rfl rfl ?_ ?_
 refine  Olt (m := 1) (e := 5) #[.int .u8 ((6 + ((M.data.length : Nat) : Int)) % 256)] fun g261 w262 hg263 B264 hu265 => ?_
 have ow266 := litB hg263 (xs := [((6 + ((M.data.length : Nat) : Int)) % 256)]) (by as_aux_lemma => kernel_rfl) (rng_cons (by omega) rng_nil) (by (try simp only [List.length_cons, List.length_nil]); omega) B264
 have r268 := ub hu265 r260
 refine hld ⟨(blk_at r268 rfl), (blk_at r268 rfl), (blk_at r268 rfl), (blk_at r268 rfl)⟩ fun hS267 => ?_
 have r269 := own_stay ow258 hu265 (fun x hx => not0) (fun _ _ h => h)
 refine R0 13 rfl <| Oc <| so2 (put_any (xs := [M.status, M.events, M.messages]) (r269).rd (by (try simp only [List.length_cons, List.length_nil]); omega)) fun A274 cp275 w270 rd278 hl276 hm277 hu273 => ?_
 have r280 := ub hu273 r268
 refine hld ⟨(blk_at r280 rfl), (blk_at r280 rfl), (blk_at r280 rfl), (blk_at r280 rfl)⟩ fun hS279 => ?_
 have r281 := own_stay ow266 hu273 (fun x hx => not0) (fun _ _ h => h)
 refine R0 14 rfl <| Oapp one_u8 (xs := ([((6 + ((M.data.length : Nat) : Int)) % 256)])) (ys := (putW ([M.status, M.events, M.messages]))) (.int .u8 0) 1 r281 (rd278).rd (by (try simp only [List.length_append, List.length_cons, List.length_nil, putW_length]); omega) (le hu265.size hu273.size) fun A282 cp283 w284 ho285 hu286 => ?_
 have r288 := Upd.blk hu286 (not_app (not_old (blk_lt B13) (le hu202.size hu257.size) ow266) not0) r280
 refine hld ⟨(blk_at r288 rfl), (blk_at r288 rfl), (blk_at r288 rfl), (blk_at r288 rfl)⟩ fun hS287 => Rt 15 hS287 <| re <| tn <| sg <| Pl 2 <| L0 <| Olb r288 14 <| ?_
 have U289 := ut0 hu14 hu202
 have U290 := ut0 U289 hu257
 have U291 := ut0 U290 hu265
 have U292 := ut0 U291 hu273
 have U293 := ut U292 hu286 (all_app (ob_new ow266 U290.size) all0)
 have r294 := RdB.old hd U293
 refine L0 <| Oapp one_u8 (xs := ([((6 + ((M.data.length : Nat) : Int)) % 256)] ++ (putW ([M.status, M.events, M.messages])))) (ys := M.data) (.int .u8 0) 1 ho285 r294 (by (try simp only [List.length_append, List.length_cons, List.length_nil, putW_length]); omega) (le (le hu265.size hu273.size) hu286.size) fun A295 cp296 w297 ho298 hu299 => Pl 1 <| nt <| rt <| br <| tr <| rr (.slice A295 ((([((6 + ((M.data.length : Nat) : Int)) % 256)] ++ (putW ([M.status, M.events, M.messages]))) ++ M.data).length) cp296) <| ?_
 have hs : diagLay dir M = (([((6 + ((M.data.length : Nat) : Int)) % 256)] ++ (putW ([M.status, M.events, M.messages]))) ++ M.data) := by
   unfold diagLay 
   (try simp only [hd0, q15, q97, q105, q123, bs, if_true, if_false, decide_true, decide_false, reduceIte])
   all_goals rfl
 rw [hs]
 have U300 := ut U293 hu299 (all_app (ob_new ho285 U290.size) all0)
 exact ⟨_, rfl, (OwnG.weaken ho298 U290.size), U300⟩
 refine  Oc <| so2 (put_any (xs := [M.status, M.events, M.messages]) (ow258).rd (by (try simp only [List.length_cons, List.length_nil]); omega)) fun A305 cp306 w301 rd309 hl307 hm308 hu304 => ?_
 have r311 := ub hu304 r260
 refine hld ⟨(blk_at r311 rfl), (blk_at r311 rfl), (blk_at r311 rfl), (blk_at r311 rfl)⟩ fun hS310 => R0 5 rfl <| Olt (m := 1) (e := 5) #[.int .u8 ((6 + ((M.data.length : Nat) : Int)) % 256)] fun g312 w313 hg314 B315 hu316 => ?_
 have ow317 := litB hg314 (xs := [((6 + ((M.data.length : Nat) : Int)) % 256)]) (by as_aux_lemma => kernel_rfl) (rng_cons (by omega) rng_nil) (by (try simp only [List.length_cons, List.length_nil]); omega) B315
 have r319 := ub hu316 r311
 refine hld ⟨(blk_at r319 rfl), (blk_at r319 rfl), (blk_at r319 rfl), (blk_at r319 rfl)⟩ fun hS318 => ?_
 have r320 := own_stay rd309 hu316 (fun x hx => not0) (fun _ _ h => h)
 refine R0 14 rfl <| Oapp one_u8 (xs := ([((6 + ((M.data.length : Nat) : Int)) % 256)])) (ys := (putW ([M.status, M.events, M.messages]))) (.int .u8 0) 1 ow317 (r320).rd (by (try simp only [List.length_append, List.length_cons, List.length_nil, putW_length]); omega) hu316.size fun A321 cp322 w323 ho324 hu325 => ?_
 have r327 := Upd.blk hu325 (not_app (not_old (blk_lt B13) (le (le hu202.size hu257.size) hu304.size) ow317) not0) r319
 refine hld ⟨(blk_at r327 rfl), (blk_at r327 rfl), (blk_at r327 rfl), (blk_at r327 rfl)⟩ fun hS326 => Rt 15 hS326 <| re <| tn <| sg <| Pl 2 <| L0 <| Olb r327 14 <| ?_
 have U328 := ut0 hu14 hu202
 have U329 := ut0 U328 hu257
 have U330 := ut0 U329 hu304
 have U331 := ut0 U330 hu316
 have U332 := ut U331 hu325 (all_app (ob_new ow317 U330.size) all0)
 have r333 := RdB.old hd U332
 refine L0 <| Oapp one_u8 (xs := ([((6 + ((M.data.length : Nat) : Int)) % 256)] ++ (putW ([M.status, M.events, M.messages])))) (ys := M.data) (.int .u8 0) 1 ho324 r333 (by (try simp only [List.length_append, List.length_cons, List.length_nil, putW_length]); omega) (le hu316.size hu325.size) fun A334 cp335 w336 ho337 hu338 => Pl 1 <| nt <| rt <| br <| tr <| rr (.slice A334 ((([((6 + ((M.data.length : Nat) : Int)) % 256)] ++ (putW ([M.status, M.events, M.messages]))) ++ M.data).length) cp335) <| ?_
 have hs : diagLay dir M = (([((6 + ((M.data.length : Nat) : Int)) % 256)] ++ (putW ([M.status, M.events, M.messages]))) ++ M.data) := by
   unfold diagLay 
   (try simp only [hd0, q15, q97, q105, q123, bs, if_true, if_false, decide_true, decide_false, reduceIte])
   all_goals rfl
 rw [hs]
 have U339 := ut U332 hu338 (all_app (ob_new ho324 U330.size) all0)
 exact ⟨_, rfl, (OwnG.weaken ho337 U330.size), U339⟩
 have q123p := ne_of_beqi q123
 refine sk <| bn <| tn <| sg <| Pl 1 <| L0 <| Olb B13 14 <| Pl 2 <| L0 <| Olt (m := 1) (e := 5) #[.int .u8 (((M.data.length : Nat) : Int) % 256)] fun g340 w341 hg342 B343 hu344 => ?_
 have ow345 := litB hg342 (xs := [(((M.data.length : Nat) : Int) % 256)]) (by as_aux_lemma => kernel_rfl) (rng_cons (by omega) rng_nil) (by (try simp only [List.length_cons, List.length_nil]); omega) B343
 refine Pl 1 <| ?_
 have r346 := ub hu344 B13
 refine L0 <| Olb r346 14 <| ?_
 have U347 := ut0 hu14 hu344
 have r348 := RdB.old hd U347
 refine L0 <| Oapp one_u8 (xs := ([(((M.data.length : Nat) : Int) % 256)])) (ys := M.data) (.int .u8 0) 1 ow345 r348 (by (try simp only [List.length_append, List.length_cons, List.length_nil, putW_length]); omega) hu344.size fun A349 cp350 w351 ho352 hu353 => Pl 1 <| nt <| rt <| rr (.slice A349 (([(((M.data.length : Nat) : Int) % 256)] ++ M.data).length) cp350) <| ?_
 have hs : diagLay dir M = ([(((M.data.length : Nat) : Int) % 256)] ++ M.data) := by
   unfold diagLay 
   (try simp only [hd0, q15, q97, q105, q123, bs, if_true, if_false, decide_true, decide_false, reduceIte])
   all_goals rfl
 rw [hs]
 have U354 := ut U347 hu353 (all_app (ob_new ow345 hu14.size) all0)
 exact ⟨_, rfl, (OwnG.weaken ho352 hu14.size), U354⟩
theorem diag_lay {m : Bool} {cs : Array Value} {M : Msg} {w : World} {dir : Int} (h : MsgRd m w cs.toList M) (hf : MsgFew M) : Calls Try.prog 65 #[.int .i64 dir, .agg cs] w (PLay (diagLay dir M) w) := by
  rcases bool_dich (dir == 0) with h0 | h0
  · exact diag_lay_t h hf h0
  · exact diag_lay_f h hf h0
open Go.RowKit
theorem getD_mem {α : Type} (d : α) (xs : List α) (k : Nat) (h : k < xs.length) : xs.getD k d ∈ xs := by
  simp [List.getD_eq_getElem?_getD, List.getElem?_eq_getElem h]
def objB : List Obj → List Int
  | [] => []
  | o :: r => ([o.id, (o.value.length : Int) % 256] ++ o.value) ++ objB r
theorem objB_drop (xs : List Obj) (k : Nat) (h : k < xs.length) : objB (xs.drop k) = ([(xs.getD k ⟨0, []⟩).id, ((xs.getD k ⟨0, []⟩).value.length : Int) % 256] ++ (xs.getD k ⟨0, []⟩).value) ++ objB (xs.drop (k + 1)) := by
  rw [List.drop_eq_getElem_cons h]
  simp [objB, List.getD_eq_getElem?_getD, List.getElem?_eq_getElem h]
def meiLay (dir : Int) (M : Msg) : List Int :=
  if M.mei == 13 then [M.mei] ++ M.data
  else if dir == 0 then [M.mei, M.kind, M.next]
  else [M.mei, M.kind, M.level, M.more, M.next, (M.objects.length : Int) % 256] ++ objB M.objects
set_option maxRecDepth 100000 in
set_option maxHeartbeats 4000000 in
theorem mei_lay_t {m : Bool} {cs : Array Value} {M : Msg} {w : World} {dir : Int} (h : MsgRd m w cs.toList M) (hf : MsgFew M) (hd0 : (dir == 0) = true) : Calls Try.prog 71 #[.int .i64 dir, .agg cs] w (PLay (meiLay dir M) w) := by
 obtain ⟨vw, vb, vd, vr, vo, h0, hw, hbt, hd, hr, ho, hR⟩ := h
 obtain rfl : cs = (msgCells M vw vb vd vr vo).toArray := by apply Array.toList_inj.1; simpa using h0
 clear h0
 obtain ⟨Aw, kw, rfl, _, _⟩ := hw.shape
 obtain ⟨Ab, kb, rfl, _, _⟩ := hbt.shape
 obtain ⟨Ad, kd, rfl, _, _⟩ := hd.shape
 obtain ⟨Ar, kr, rfl, _, _⟩ := hr.shape
 obtain ⟨Ao, ko, rfl, _, _⟩ := ho.shape
 obtain ⟨q0, q1, q2, q3, q4, q5, q6, q7, q8, q9, q10, q11, q16, q17, q18, q19, q20⟩ := hR
 simp only [B8, B16] at q0 q1 q2 q3 q4 q5 q6 q7 q8 q9 q10 q11 q16 q17 q18 q19 q20
 have hf1 := hf.words
 have hf2 := hf.bits
 have hf3 := hf.data
 have hf4 := hf.recs
 have hf5 := hf.objects
 refine en 64 Try.func71 rfl <| sg <| L0 <| Obx (mG M.code M.fail M.addr M.count M.value M.and_ M.or_ M.addr2 M.sub M.status M.events M.messages (.slice Aw M.words.length kw) (.slice Ab M.bits.length kb) (.slice Ad M.data.length kd) (.slice Ar M.recs.length kr) M.mei M.kind M.level M.more M.next (.slice Ao M.objects.length ko)) fun g10 w11 hg12 B13 hu14 => Pl 1 <| nt <| sq <| bk <| sg <| Pl 1 <| L0 <| Olb B13 16 <| Pl 2 <| nl <| ?_
 refine tn <| cb ((M.mei == 13)) (fun q15 => ?_) (fun q15 => ?_)
 have q15p := eq_of_beqi q15
 refine sg <| Pl 1 <| L0 <| Olb B13 16 <| L0 <| Olt (m := 1) (e := 5) #[.int .u8 M.mei] fun g16 w17 hg18 B19 hu20 => ?_
 have ow21 := litB hg18 (xs := [M.mei]) (by as_aux_lemma => kernel_rfl) (rng_cons (by omega) rng_nil) (by (try simp only [List.length_cons, List.length_nil]); omega) B19
 refine Pl 1 <| ?_
 have r22 := ub hu20 B13
 refine L0 <| Olb r22 14 <| ?_
 have U23 := ut0 hu14 hu20
 have r24 := RdB.old hd U23
 refine L0 <| Oapp one_u8 (xs := ([M.mei])) (ys := M.data) (.int .u8 0) 1 ow21 r24 (by (try simp only [List.length_append, List.length_cons, List.length_nil, putW_length]); omega) hu20.size fun A25 cp26 w27 ho28 hu29 => Pl 1 <| nt <| rt <| br <| tr <| rr (.slice A25 (([M.mei] ++ M.data).length) cp26) <| ?_
 have hs : meiLay dir M = ([M.mei] ++ M.data) := by
   unfold meiLay 
   (try simp only [hd0, q15, bs, if_true, if_false, decide_true, decide_false, reduceIte])
   all_goals rfl
 rw [hs]
 have U30 := ut U23 hu29 (all_app (ob_new ow21 hu14.size) all0)
 exact ⟨_, rfl, (OwnG.weaken ho28 hu14.size), U30⟩
 have q15p := ne_of_beqi q15
 refine sg <| Pl 3 <| nt <| ct hd0 <| sg <| Pl 1 <| L0 <| Olb B13 16 <| Pl 1 <| L0 <| Olb B13 17 <| Pl 1 <| L0 <| Olb B13 20 <| ?_
 refine L0 <| Olt (m := 3) (e := 5) #[.int .u8 M.mei, .int .u8 M.kind, .int .u8 M.next] fun g31 w32 hg33 B34 hu35 => ?_
 have ow36 := litB hg33 (xs := [M.mei, M.kind, M.next]) (by as_aux_lemma => kernel_rfl) (rng_cons (by omega) (rng_cons (by omega) (rng_cons (by omega) rng_nil))) (by (try simp only [List.length_cons, List.length_nil]); omega) B34
 refine Pl 1 <| nt <| rt <| br <| tr <| rr (.slice (some ⟨g31, 0, none⟩) 3 3) <| ?_
 have hs : meiLay dir M = [M.mei, M.kind, M.next] := by
   unfold meiLay 
   (try simp only [hd0, q15, bs, if_true, if_false, decide_true, decide_false, reduceIte])
   all_goals rfl
 rw [hs]
 have U37 := ut0 hu14 hu35
 exact ⟨_, rfl, (OwnG.weaken ow36 hu14.size), U37⟩
set_option maxRecDepth 100000 in
set_option maxHeartbeats 4000000 in
theorem mei_lay_f {m : Bool} {cs : Array Value} {M : Msg} {w : World} {dir : Int} (h : MsgRd m w cs.toList M) (hf : MsgFew M) (hd0 : (dir == 0) = false) : Calls Try.prog 71 #[.int .i64 dir, .agg cs] w (PLay (meiLay dir M) w) := by
 obtain ⟨vw, vb, vd, vr, vo, h0, hw, hbt, hd, hr, ho, hR⟩ := h
 obtain rfl : cs = (msgCells M vw vb vd vr vo).toArray := by apply Array.toList_inj.1; simpa using h0
 clear h0
 obtain ⟨Aw, kw, rfl, _, _⟩ := hw.shape
 obtain ⟨Ab, kb, rfl, _, _⟩ := hbt.shape
 obtain ⟨Ad, kd, rfl, _, _⟩ := hd.shape
 obtain ⟨Ar, kr, rfl, _, _⟩ := hr.shape
 obtain ⟨Ao, ko, rfl, _, _⟩ := ho.shape
 obtain ⟨q0, q1, q2, q3, q4, q5, q6, q7, q8, q9, q10, q11, q16, q17, q18, q19, q20⟩ := hR
 simp only [B8, B16] at q0 q1 q2 q3 q4 q5 q6 q7 q8 q9 q10 q11 q16 q17 q18 q19 q20
 have hf1 := hf.words
 have hf2 := hf.bits
 have hf3 := hf.data
 have hf4 := hf.recs
 have hf5 := hf.objects
 refine en 64 Try.func71 rfl <| sg <| L0 <| Obx (mG M.code M.fail M.addr M.count M.value M.and_ M.or_ M.addr2 M.sub M.status M.events M.messages (.slice Aw M.words.length kw) (.slice Ab M.bits.length kb) (.slice Ad M.data.length kd) (.slice Ar M.recs.length kr) M.mei M.kind M.level M.more M.next (.slice Ao M.objects.length ko)) fun g10 w11 hg12 B13 hu14 => Pl 1 <| nt <| sq <| bk <| sg <| Pl 1 <| L0 <| Olb B13 16 <| Pl 2 <| nl <| ?_
 refine tn <| cb ((M.mei == 13)) (fun q15 => ?_) (fun q15 => ?_)
 have q15p := eq_of_beqi q15
 refine sg <| Pl 1 <| L0 <| Olb B13 16 <| L0 <| Olt (m := 1) (e := 5) #[.int .u8 M.mei] fun g16 w17 hg18 B19 hu20 => ?_
 have ow21 := litB hg18 (xs := [M.mei]) (by as_aux_lemma => kernel_rfl) (rng_cons (by omega) rng_nil) (by (try simp only [List.length_cons, List.length_nil]); omega) B19
 refine Pl 1 <| ?_
 have r22 := ub hu20 B13
 refine L0 <| Olb r22 14 <| ?_
 have U23 := ut0 hu14 hu20
 have r24 := RdB.old hd U23
 refine L0 <| Oapp one_u8 (xs := ([M.mei])) (ys := M.data) (.int .u8 0) 1 ow21 r24 (by (try simp only [List.length_append, List.length_cons, List.length_nil, putW_length]); omega) hu20.size fun A25 cp26 w27 ho28 hu29 => Pl 1 <| nt <| rt <| br <| tr <| rr (.slice A25 (([M.mei] ++ M.data).length) cp26) <| ?_
 have hs : meiLay dir M = ([M.mei] ++ M.data) := by
   unfold meiLay 
   (try simp only [hd0, q15, bs, if_true, if_false, decide_true, decide_false, reduceIte])
   all_goals rfl
 rw [hs]
 have U30 := ut U23 hu29 (all_app (ob_new ow21 hu14.size) all0)
 exact ⟨_, rfl, (OwnG.weaken ho28 hu14.size), U30⟩
 have q15p := ne_of_beqi q15
 refine sg <| Pl 3 <| nt <| cf hd0 <| sk <| bn <| tn <| sg <| Pl 1 <| L0 <| Olb B13 16 <| Pl 1 <| L0 <| Olb B13 17 <| ?_
 refine Pl 1 <| L0 <| Olb B13 18 <| Pl 1 <| L0 <| Olb B13 19 <| Pl 1 <| L0 <| Olb B13 20 <| Pl 1 <| L0 <| Olb B13 21 <| Pl 2 <| L0 <| Olt (m := 6) (e := 5) #[.int .u8 M.mei, .int .u8 M.kind, .int .u8 M.level, .int .u8 M.more, .int .u8 M.next, .int .u8 (((M.objects.length : Nat) : Int) % 256)] fun g31 w32 hg33 B34 hu35 => ?_
 have ow36 := litB hg33 (xs := [M.mei, M.kind, M.level, M.more, M.next, (((M.objects.length : Nat) : Int) % 256)]) (by as_aux_lemma => kernel_rfl) (rng_cons (by omega) (rng_cons (by omega) (rng_cons (by omega) (rng_cons (by omega) (rng_cons (by omega) (rng_cons (by omega) rng_nil)))))) (by (try simp only [List.length_cons, List.length_nil]); omega) B34
 refine Pl 1 <| nt <| sq <| sg <| Pl 1 <| ?_
 have r37 := ub hu35 B13
 refine L0 <| Olb r37 21 <| Pl 2 <| nt <| bk <| ?_
 refine glp (fun x => [(4, .slice none 0 0), (5, .slice x.2.2.1 x.2.1.length x.2.2.2), (44, .slice Ao M.objects.length ko), (45, .int .i64 ((M.objects.length : Nat) : Int)), (46, .int .i64 ((x.1 : Nat) : Int))]) (fun (x : Nat × List Int × Option Addr × Nat) w' => Upd [] w11 w' ∧ w32.heap.size ≤ w'.heap.size ∧ OwnB w11.heap.size w' (.slice x.2.2.1 x.2.1.length x.2.2.2) x.2.1 ∧ (x.1 ≤ M.objects.length) ∧ (x.2.1 ++ objB (M.objects.drop x.1) = ([M.mei, M.kind, M.level, M.more, M.next, (((M.objects.length : Nat) : Int) % 256)]) ++ objB M.objects) ∧ (x.2.1.length ≤ 16 + x.1 * 1026) ∧ (6 ≤ x.2.1.length)) (fun x => M.objects.length - x.1) (0, [M.mei, M.kind, M.level, M.more, M.next, (((M.objects.length : Nat) : Int) % 256)], some ⟨g31, 0, none⟩, 6) ⟨hu35, lr, ow36, (by (try dsimp only); omega), rfl, (by (try dsimp only); (try simp only [List.length_cons, List.length_nil]); omega), (by (try dsimp only); (try simp only [List.length_cons, List.length_nil]); omega)⟩ ?_
 rintro ⟨k, L, A, cp⟩ w38 ⟨hu39, hz45, f40, p41, p42, p43, p44⟩
 refine wkc [(4, .slice none 0 0), (5, .slice A L.length cp), (44, .slice Ao M.objects.length ko), (45, .int .i64 ((M.objects.length : Nat) : Int)), (46, .int .i64 ((k : Nat) : Int))] ?_
 have f46 : OwnB w11.heap.size w38 (.slice A L.length cp) L := f40
 have p47 : k ≤ M.objects.length := p41
 have p48 : L ++ objB (M.objects.drop k) = ([M.mei, M.kind, M.level, M.more, M.next, (((M.objects.length : Nat) : Int) % 256)]) ++ objB M.objects := p42
 have p49 : L.length ≤ 16 + k * 1026 := p43
 have p50 : 6 ≤ L.length := p44
 have hL : L ++ objB (M.objects.drop k) = ([M.mei, M.kind, M.level, M.more, M.next, (((M.objects.length : Nat) : Int) % 256)]) ++ objB M.objects := by assumption
 have hv0 := fun (h : k < M.objects.length) => hf.objv _ (getD_mem ⟨0, []⟩ M.objects k h)
 refine sg <| Pl 1 <| nt <| sq <| ?_
 have U51 := ut0 hu14 hu39
 refine cb ((decide (((k : Nat) : Int) < ((M.objects.length : Nat) : Int)))) (fun q52 => ?_) (fun q52 => ?_)
 have q52p := of_decide_eq_true q52
 refine skn <| sq <| bk <| sg <| x75 (RdO.elt ho k (by omega)) fun b53 o54 cl55 t56 fr57 A58 cp59 hA60 hb61 hv62 hr63 hs64 => L0 <| Oixs 2 M.objects.length k hA60 (by omega) <| ?_
 have r65 := ub U51 hb61
 refine L0 <| Oel [.int .u8 ((M.objects.getD k ⟨0, []⟩).id), .slice A58 ((M.objects.getD k ⟨0, []⟩).value.length) cp59] r65 hs64 <| L0 <| Oal #[.int .u8 0, .slice none 0 0] fun g66 w67 hg68 B69 hu70 => L0 <| Osw B69 #[.int .u8 ((M.objects.getD k ⟨0, []⟩).id), .slice A58 ((M.objects.getD k ⟨0, []⟩).value.length) cp59] fun w71 B72 hu73 => nt <| Rg 13 (fun w' => w'.cell? ⟨g66, 0, none⟩ = some (.int .u8 ((M.objects.getD k ⟨0, []⟩).id)) ∧ w'.cell? ⟨g66, 1, none⟩ = some (.slice A58 ((M.objects.getD k ⟨0, []⟩).value.length) cp59)) fun w98 hu99 => ?_
 have r101 := ub hu99 B72
 refine hld ⟨(blk_at r101 rfl), (blk_at r101 rfl)⟩ fun hS100 => Rt 0 hS100 <| Rt 1 hS100 <| Rl 2 hS100 (fun _ hs => hs.1) <| Rt 3 hS100 <| Rl 4 hS100 (fun _ hs => hs.2) <| Rt 5 hS100 <| Rt 6 hS100 <| Rt 9 hS100 <| Rl 10 hS100 (fun _ hs => hs.2) <| R0 7 rfl <| Olt (m := 2) (e := 5) #[.int .u8 ((M.objects.getD k ⟨0, []⟩).id), .int .u8 ((((M.objects.getD k ⟨0, []⟩).value.length : Nat) : Int) % 256)] fun g102 w103 hg104 B105 hu106 => ?_
 have ow107 := litB hg104 (xs := [(M.objects.getD k ⟨0, []⟩).id, ((((M.objects.getD k ⟨0, []⟩).value.length : Nat) : Int) % 256)]) (by as_aux_lemma => kernel_rfl) (rng_cons (by omega) (rng_cons (by omega) rng_nil)) (by (try simp only [List.length_cons, List.length_nil]); omega) B105
 have r109 := ub hu106 r101
 refine hld ⟨(blk_at r109 rfl), (blk_at r109 rfl)⟩ fun hS108 => ?_
 have U110 := u1 hu70 hu73 (nr hg68)
 have U111 := ut0 U110 hu99
 have U112 := ut0 U111 hu106
 have r113 := own_stay f46 U112 (fun x hx => not0) (fun _ _ h => h)
 refine R0 8 rfl <| Oapp one_u8 (xs := L) (ys := ([(M.objects.getD k ⟨0, []⟩).id, ((((M.objects.getD k ⟨0, []⟩).value.length : Nat) : Int) % 256)])) (.int .u8 0) 1 r113 (ow107).rd (by (try simp only [List.length_append, List.length_cons, List.length_nil, putW_length]); omega) (le (le (le (le (le hu35.size hz45) hu70.size) hu73.size) hu99.size) hu106.size) fun A114 cp115 w116 ho117 hu118 => ?_
 have r120 := Upd.blk hu118 (not_app (not_young f46 lr hg68) not0) r109
 refine hld ⟨(blk_at r120 rfl), (blk_at r120 rfl)⟩ fun hS119 => ?_
 have U121 := ut0 U51 hu70
 have U122 := u1 U121 hu73 (ni U51.size hg68)
 have U123 := ut0 U122 hu99
 have U124 := ut0 U123 hu106
 have U125 := ut U124 hu118 (all_app (ob_new f46 hu14.size) all0)
 have r126 := RdB.old hv62 U125
 refine R0 11 rfl <| Oapp one_u8 (xs := (L ++ [(M.objects.getD k ⟨0, []⟩).id, ((((M.objects.getD k ⟨0, []⟩).value.length : Nat) : Int) % 256)])) (ys := ((M.objects.getD k ⟨0, []⟩).value)) (.int .u8 0) 1 ho117 r126 (by (try simp only [List.length_append, List.length_cons, List.length_nil, putW_length]); omega) (le (le (le (le (le (le hu35.size hz45) hu70.size) hu73.size) hu99.size) hu106.size) hu118.size) fun A127 cp128 w129 ho130 hu131 => ?_
 have r133 := Upd.blk hu131 (not_app (not_type r120 ho117 (by decide)) not0) r120
 refine hld ⟨(blk_at r133 rfl), (blk_at r133 rfl)⟩ fun hS132 => Rt 12 hS132 <| re <| bn <| tn <| go <| L0 <| Oi (((k : Nat) : Int) + 1) <| Pl 1 <| nl <| ?_
 have U134 := ut0 (Upd.refl [] _) hu39
 have U135 := ut0 U134 hu70
 have U136 := u1 U135 hu73 (ni U134.size hg68)
 have U137 := ut0 U136 hu99
 have U138 := ut0 U137 hu106
 have U139 := ut U138 hu118 (all_app (ob_new f46 lr) all0)
 have U140 := ut U139 hu131 (all_app (ob_new ho117 lr) all0)
 exact lpe ((k + 1), ((L ++ [(M.objects.getD k ⟨0, []⟩).id, ((((M.objects.getD k ⟨0, []⟩).value.length : Nat) : Int) % 256)]) ++ (M.objects.getD k ⟨0, []⟩).value), A127, cp128) ⟨U140, (le (le (le (le (le (le hz45 hu70.size) hu73.size) hu99.size) hu106.size) hu118.size) hu131.size), ho130, (by (try dsimp only); omega), (by (try dsimp only); rw [← hL, objB_drop  M.objects k (by omega)]; simp only [List.append_assoc]), (by (try dsimp only); have hv := hf.objv _ (getD_mem ⟨0, []⟩ M.objects k (by omega)); (try simp only [List.length_append, List.length_cons, List.length_nil, putW_length]); omega), (by (try dsimp only); (try simp only [List.length_append, List.length_cons, List.length_nil]); omega)⟩ (by omega)
 have q52p := of_decide_eq_false q52
 refine xt <| tx <| tx <| bx <| tn <| sg <| Pl 2 <| nt <| rt <| rr (.slice A L.length cp) <| ?_
 have hk : k = M.objects.length := by omega
 rw [hk, List.drop_length] at hL
 have hL2 : L = ([M.mei, M.kind, M.level, M.more, M.next, (((M.objects.length : Nat) : Int) % 256)]) ++ objB M.objects := by rw [← hL]; simp [objB]
 have hs : meiLay dir M = L := by
   rw [hL2]
   unfold meiLay
   (try simp only [hd0, q15, q52, bs, if_true, if_false, decide_true, decide_false, reduceIte])
   all_goals rfl
 rw [hs]
 exact ⟨_, rfl, (OwnG.weaken f46 hu14.size), U51⟩
theorem mei_lay {m : Bool} {cs : Array Value} {M : Msg} {w : World} {dir : Int} (h : MsgRd m w cs.toList M) (hf : MsgFew M) : Calls Try.prog 71 #[.int .i64 dir, .agg cs] w (PLay (meiLay dir M) w) := by
  rcases bool_dich (dir == 0) with h0 | h0
  · exact mei_lay_t h hf h0
  · exact mei_lay_f h hf h0
open Go.RowKit
def recB (dir code : Int) (r : Rec) : List Int := (if code == 20 && dir == 1 then [(1 + 2 * (r.words.length : Int)) % 256, 6] else [6] ++ putW [r.file, r.record, r.count]) ++ putW r.words
def filesB (dir code : Int) : List Rec → List Int
  | [] => []
  | r :: rs => recB dir code r ++ filesB dir code rs
theorem filesB_drop (dir code : Int) (xs : List Rec) (k : Nat) (h : k < xs.length) : filesB dir code (xs.drop k) = recB dir code (xs.getD k ⟨0, 0, 0, []⟩) ++ filesB dir code (xs.drop (k + 1)) := by
  rw [List.drop_eq_getElem_cons h]
  simp [filesB, List.getD_eq_getElem?_getD, List.getElem?_eq_getElem h]
def filesLay (dir : Int) (M : Msg) : List Int := ([0] ++ filesB dir M.code M.recs).set 0 (((([0] ++ filesB dir M.code M.recs).length : Int) - 1) % 256)
set_option maxRecDepth 100000 in
set_option maxHeartbeats 4000000 in
theorem files_lay_t {m : Bool} {cs : Array Value} {M : Msg} {w : World} {dir : Int} (h : MsgRd m w cs.toList M) (hf : MsgFew M) (hd0 : (dir == 0) = true) : Calls Try.prog 69 #[.int .i64 dir, .agg cs] w (PLay (filesLay dir M) w) := by
 obtain ⟨vw, vb, vd, vr, vo, h0, hw, hbt, hd, hr, ho, hR⟩ := h
 obtain rfl : cs = (msgCells M vw vb vd vr vo).toArray := by apply Array.toList_inj.1; simpa using h0
 clear h0
 obtain ⟨Aw, kw, rfl, _, _⟩ := hw.shape
 obtain ⟨Ab, kb, rfl, _, _⟩ := hbt.shape
 obtain ⟨Ad, kd, rfl, _, _⟩ := hd.shape
 obtain ⟨Ar, kr, rfl, _, _⟩ := hr.shape
 obtain ⟨Ao, ko, rfl, _, _⟩ := ho.shape
 obtain ⟨q0, q1, q2, q3, q4, q5, q6, q7, q8, q9, q10, q11, q16, q17, q18, q19, q20⟩ := hR
 simp only [B8, B16] at q0 q1 q2 q3 q4 q5 q6 q7 q8 q9 q10 q11 q16 q17 q18 q19 q20
 have hf1 := hf.words
 have hf2 := hf.bits
 have hf3 := hf.data
 have hf4 := hf.recs
 have hf5 := hf.objects
 refine en 58 Try.func69 rfl <| sg <| L0 <| Obx (mG M.code M.fail M.addr M.count M.value M.and_ M.or_ M.addr2 M.sub M.status M.events M.messages (.slice Aw M.words.length kw) (.slice Ab M.bits.length kb) (.slice Ad M.data.length kd) (.slice Ar M.recs.length kr) M.mei M.kind M.level M.more M.next (.slice Ao M.objects.length ko)) fun g10 w11 hg12 B13 hu14 => Pl 1 <| ng <| L0 <| Olt (m := 1) (e := 5) #[.int .u8 0] fun g15 w16 hg17 B18 hu19 => ?_
 have ow20 := litB hg17 (xs := [0]) (by as_aux_lemma => kernel_rfl) (rng_cons (by omega) rng_nil) (by (try simp only [List.length_cons, List.length_nil]); omega) B18
 refine Pl 1 <| nt <| sq <| sg <| Pl 1 <| ?_
 have r21 := ub hu19 B13
 refine L0 <| Olb r21 15 <| Pl 2 <| nt <| bk <| ?_
 refine glp (fun x => [(0, .int .i64 dir), (3, .pointer (some ⟨g10, 0, none⟩)), (4, .slice none 0 0), (5, .slice x.2.2.1 x.2.1.length x.2.2.2), (10, .slice Ar M.recs.length kr), (11, .int .i64 ((M.recs.length : Nat) : Int)), (12, .int .i64 ((x.1 : Nat) : Int))]) (fun (x : Nat × List Int × Option Addr × Nat) w' => Upd [] w11 w' ∧ w16.heap.size ≤ w'.heap.size ∧ OwnB w11.heap.size w' (.slice x.2.2.1 x.2.1.length x.2.2.2) x.2.1 ∧ (x.1 ≤ M.recs.length) ∧ (x.2.1 ++ filesB dir M.code (M.recs.drop x.1) = ([0]) ++ filesB dir M.code M.recs) ∧ (x.2.1.length ≤ 16 + x.1 * 2060) ∧ (1 ≤ x.2.1.length)) (fun x => M.recs.length - x.1) (0, [0], some ⟨g15, 0, none⟩, 1) ⟨hu19, lr, ow20, (by (try dsimp only); omega), rfl, (by (try dsimp only); (try simp only [List.length_cons, List.length_nil]); omega), (by (try dsimp only); (try simp only [List.length_cons, List.length_nil]); omega)⟩ ?_
 rintro ⟨k, L, A, cp⟩ w22 ⟨hu23, hz29, f24, p25, p26, p27, p28⟩
 refine wkc [(0, .int .i64 dir), (3, .pointer (some ⟨g10, 0, none⟩)), (4, .slice none 0 0), (5, .slice A L.length cp), (10, .slice Ar M.recs.length kr), (11, .int .i64 ((M.recs.length : Nat) : Int)), (12, .int .i64 ((k : Nat) : Int))] ?_
 have f30 : OwnB w11.heap.size w22 (.slice A L.length cp) L := f24
 have p31 : k ≤ M.recs.length := p25
 have p32 : L ++ filesB dir M.code (M.recs.drop k) = ([0]) ++ filesB dir M.code M.recs := p26
 have p33 : L.length ≤ 16 + k * 2060 := p27
 have p34 : 1 ≤ L.length := p28
 have hL : L ++ filesB dir M.code (M.recs.drop k) = ([0]) ++ filesB dir M.code M.recs := by assumption
 have hv0 := fun (h : k < M.recs.length) => hf.recw _ (getD_mem ⟨0, 0, 0, []⟩ M.recs k h)
 refine sg <| Pl 1 <| nt <| sq <| ?_
 have U35 := ut0 hu14 hu23
 refine cb ((decide (((k : Nat) : Int) < ((M.recs.length : Nat) : Int)))) (fun q36 => ?_) (fun q36 => ?_)
 have q36p := of_decide_eq_true q36
 refine skn <| sq <| bk <| sg <| x75 (RdR.elt hr k (by omega)) fun b37 o38 cl39 t40 fr41 A42 cp43 hA44 hb45 hv46 hr47 hs48 => L0 <| Oixs 4 M.recs.length k hA44 (by omega) <| ?_
 have r49 := ub U35 hb45
 refine L0 <| Oel [.int .u16 ((M.recs.getD k ⟨0, 0, 0, []⟩).file), .int .u16 ((M.recs.getD k ⟨0, 0, 0, []⟩).record), .int .u16 ((M.recs.getD k ⟨0, 0, 0, []⟩).count), .slice A42 ((M.recs.getD k ⟨0, 0, 0, []⟩).words.length) cp43] r49 hs48 <| L0 <| Oal #[.int .u16 0, .int .u16 0, .int .u16 0, .slice none 0 0] fun g50 w51 hg52 B53 hu54 => L0 <| Osw B53 #[.int .u16 ((M.recs.getD k ⟨0, 0, 0, []⟩).file), .int .u16 ((M.recs.getD k ⟨0, 0, 0, []⟩).record), .int .u16 ((M.recs.getD k ⟨0, 0, 0, []⟩).count), .slice A42 ((M.recs.getD k ⟨0, 0, 0, []⟩).words.length) cp43] fun w55 B56 hu57 => nt <| sq <| bk <| sg <| Pl 1 <| ?_
 have U58 := ut0 (Upd.refl [] _) hu23
 have U59 := ut0 U58 hu54
 have U60 := u1 U59 hu57 (ni U58.size hg52)
 have r61 := ub U60 B13
 refine L0 <| Olb r61 0 <| Pl 2 <| cu 3 [32] 35 (((M.code == 20) && (dir == 1))) (fun K K63 => ?_) ?_
 refine bl 32 ((M.code == 20)) (fun q62 => ?_) (fun q62 => ?_)
 have q62p := eq_of_beqi q62
 exact Pl 3 <| ce K63 (dir == 1) (by rw [q62]; rfl)
 have q62p := ne_of_beqi q62
 exact Pl 3 <| ce K63 false (by rw [q62]; rfl)
 refine Pl 1 <| nt <| ?_
 have U64 := ut0 U35 hu54
 have U65 := u1 U64 hu57 (ni U35.size hg52)
 refine cb (((M.code == 20) && (dir == 1))) (fun q66 => ?_) (fun q66 => ?_)
 have q66a := (and_t q66).1
 have q66b := (and_t q66).2
 have q66ap := eq_of_beqi q66a
 have q66bp := eq_of_beqi q66b
 refine go <| Pl 2 <| L0 <| Olb B56 3 <| Pl 1 <| L0 <| Oi (2 * (((M.recs.getD k ⟨0, 0, 0, []⟩).words.length : Nat) : Int)) <| L0 <| Oi (1 + (2 * (((M.recs.getD k ⟨0, 0, 0, []⟩).words.length : Nat) : Int))) <| Pl 1 <| L0 <| Olt (m := 2) (e := 5) #[.int .u8 ((1 + (2 * (((M.recs.getD k ⟨0, 0, 0, []⟩).words.length : Nat) : Int))) % 256), .int .u8 6] fun g67 w68 hg69 B70 hu71 => ?_
 have ow72 := litB hg69 (xs := [((1 + (2 * (((M.recs.getD k ⟨0, 0, 0, []⟩).words.length : Nat) : Int))) % 256), 6]) (by as_aux_lemma => kernel_rfl) (rng_cons (by omega) (rng_cons (by omega) rng_nil)) (by (try simp only [List.length_cons, List.length_nil]); omega) B70
 have U73 := u1 hu54 hu57 (nr hg52)
 have U74 := ut0 U73 hu71
 have r75 := own_stay f30 U74 (fun x hx => not0) (fun _ _ h => h)
 refine L0 <| Oapp one_u8 (xs := L) (ys := ([((1 + (2 * (((M.recs.getD k ⟨0, 0, 0, []⟩).words.length : Nat) : Int))) % 256), 6])) (.int .u8 0) 1 r75 (ow72).rd (by (try simp only [List.length_append, List.length_cons, List.length_nil, putW_length]); omega) (le (le (le (le hu19.size hz29) hu54.size) hu57.size) hu71.size) fun A76 cp77 w78 ho79 hu80 => Pl 1 <| nl <| bn <| tn <| go <| Pl 2 <| ?_
 have U81 := ut (Upd.mono (S' := (ob A ++ [])) hu71 all0) hu80 (all_app (fun x hx => Or.inl (by simp [hx])) all0)
 have r82 := Upd.blk U81 (not_app (not_young f30 lr hg52) not0) B56
 refine L0 <| Olb r82 3 <| ?_
 have U83 := ut0 U65 hu71
 have U84 := ut U83 hu80 (all_app (ob_new f30 hu14.size) all0)
 have r85 := RdW.old hv46 U84
 refine L0 <| Oc <| so2 (put_any (xs := (M.recs.getD k ⟨0, 0, 0, []⟩).words) r85 (by (try simp only [List.length_cons, List.length_nil]); omega)) fun A90 cp91 w86 rd94 hl92 hm93 hu89 => ?_
 have r95 := own_stay ho79 hu89 (fun x hx => not0) (fun _ _ h => h)
 refine L0 <| Oapp one_u8 (xs := (L ++ [((1 + (2 * (((M.recs.getD k ⟨0, 0, 0, []⟩).words.length : Nat) : Int))) % 256), 6])) (ys := (putW ((M.recs.getD k ⟨0, 0, 0, []⟩).words))) (.int .u8 0) 1 r95 (rd94).rd (by (try simp only [List.length_append, List.length_cons, List.length_nil, putW_length]); omega) (le (le (le (le (le (le hu19.size hz29) hu54.size) hu57.size) hu71.size) hu80.size) hu89.size) fun A96 cp97 w98 ho99 hu100 => Pl 1 <| nl <| bn <| tn <| go <| L0 <| Oi (((k : Nat) : Int) + 1) <| Pl 1 <| nl <| ?_
 have U101 := ut0 U60 hu71
 have U102 := ut U101 hu80 (all_app (ob_new f30 lr) all0)
 have U103 := ut0 U102 hu89
 have U104 := ut U103 hu100 (all_app (ob_new ho79 lr) all0)
 exact lpe ((k + 1), ((L ++ [((1 + (2 * (((M.recs.getD k ⟨0, 0, 0, []⟩).words.length : Nat) : Int))) % 256), 6]) ++ (putW ((M.recs.getD k ⟨0, 0, 0, []⟩).words))), A96, cp97) ⟨U104, (le (le (le (le (le (le hz29 hu54.size) hu57.size) hu71.size) hu80.size) hu89.size) hu100.size), ho99, (by (try dsimp only); omega), (by (try dsimp only); rw [← hL, filesB_drop dir M.code M.recs k (by omega)]; simp only [recB, hd0, q36, q66, q66a, q66b, bs, if_true, if_false, decide_true, decide_false, List.append_assoc]), (by (try dsimp only); have hv := hf.recw _ (getD_mem ⟨0, 0, 0, []⟩ M.recs k (by omega)); (try simp only [List.length_append, List.length_cons, List.length_nil, putW_length]); omega), (by (try dsimp only); (try simp only [List.length_append, List.length_cons, List.length_nil]); omega)⟩ (by omega)
 refine Rg 13 (fun w' => w'.cell? ⟨g50, 0, none⟩ = some (.int .u16 ((M.recs.getD k ⟨0, 0, 0, []⟩).file)) ∧ w'.cell? ⟨g50, 1, none⟩ = some (.int .u16 ((M.recs.getD k ⟨0, 0, 0, []⟩).record)) ∧ w'.cell? ⟨g50, 2, none⟩ = some (.int .u16 ((M.recs.getD k ⟨0, 0, 0, []⟩).count))) fun w211 hu212 => ?_
 have r214 := ub hu212 B56
 refine hld ⟨(blk_at r214 rfl), (blk_at r214 rfl), (blk_at r214 rfl)⟩ fun hS213 => Rt 0 hS213 <| Rt 3 hS213 <| Rl 4 hS213 (fun _ hs => hs.1) <| Rt 5 hS213 <| Rl 6 hS213 (fun _ hs => hs.2.1) <| Rt 7 hS213 <| Rl 8 hS213 (fun _ hs => hs.2.2) <| ?_
 refine R2 1 9 rfl rfl ?_ ?_
 refine  Olt (m := 1) (e := 5) #[.int .u8 6] fun g215 w216 hg217 B218 hu219 => ?_
 have ow220 := litB hg217 (xs := [6]) (by as_aux_lemma => kernel_rfl) (rng_cons (by omega) rng_nil) (by (try simp only [List.length_cons, List.length_nil]); omega) B218
 have r222 := ub hu219 r214
 refine hld ⟨(blk_at r222 rfl), (blk_at r222 rfl), (blk_at r222 rfl)⟩ fun hS221 => ?_
 refine R2 2 9 rfl rfl ?_ ?_
 have U223 := u1 hu54 hu57 (nr hg52)
 have U224 := ut0 U223 hu212
 have U225 := ut0 U224 hu219
 have r226 := own_stay f30 U225 (fun x hx => not0) (fun _ _ h => h)
 refine  Oapp one_u8 (xs := L) (ys := ([6])) (.int .u8 0) 1 r226 (ow220).rd (by (try simp only [List.length_append, List.length_cons, List.length_nil, putW_length]); omega) (le (le (le (le (le hu19.size hz29) hu54.size) hu57.size) hu212.size) hu219.size) fun A227 cp228 w229 ho230 hu231 => ?_
 have r233 := Upd.blk hu231 (not_app (not_young f30 lr hg52) not0) r222
 refine hld ⟨(blk_at r233 rfl), (blk_at r233 rfl), (blk_at r233 rfl)⟩ fun hS232 => R0 9 rfl <| Olt (m := 3) (e := 23) #[.int .u16 ((M.recs.getD k ⟨0, 0, 0, []⟩).file), .int .u16 ((M.recs.getD k ⟨0, 0, 0, []⟩).record), .int .u16 ((M.recs.getD k ⟨0, 0, 0, []⟩).count)] fun g234 w235 hg236 B237 hu238 => ?_
 have ow239 := litW hg236 (xs := [(M.recs.getD k ⟨0, 0, 0, []⟩).file, (M.recs.getD k ⟨0, 0, 0, []⟩).record, (M.recs.getD k ⟨0, 0, 0, []⟩).count]) (by as_aux_lemma => kernel_rfl) (rng_cons (by omega) (rng_cons (by omega) (rng_cons (by omega) rng_nil))) (by (try simp only [List.length_cons, List.length_nil]); omega) B237
 have r241 := ub hu238 r233
 refine hld ⟨(blk_at r241 rfl), (blk_at r241 rfl), (blk_at r241 rfl)⟩ fun hS240 => R0 10 rfl <| Oc <| so2 (put_any (xs := [(M.recs.getD k ⟨0, 0, 0, []⟩).file, (M.recs.getD k ⟨0, 0, 0, []⟩).record, (M.recs.getD k ⟨0, 0, 0, []⟩).count]) (ow239).rd (by (try simp only [List.length_cons, List.length_nil]); omega)) fun A246 cp247 w242 rd250 hl248 hm249 hu245 => ?_
 have r252 := ub hu245 r241
 refine hld ⟨(blk_at r252 rfl), (blk_at r252 rfl), (blk_at r252 rfl)⟩ fun hS251 => ?_
 have U253 := ut0 hu238 hu245
 have r254 := own_stay ho230 U253 (fun x hx => not0) (fun _ _ h => h)
 refine R0 11 rfl <| Oapp one_u8 (xs := (L ++ [6])) (ys := (putW ([(M.recs.getD k ⟨0, 0, 0, []⟩).file, (M.recs.getD k ⟨0, 0, 0, []⟩).record, (M.recs.getD k ⟨0, 0, 0, []⟩).count]))) (.int .u8 0) 1 r254 (rd250).rd (by (try simp only [List.length_append, List.length_cons, List.length_nil, putW_length]); omega) (le (le (le (le (le (le (le (le hu19.size hz29) hu54.size) hu57.size) hu212.size) hu219.size) hu231.size) hu238.size) hu245.size) fun A255 cp256 w257 ho258 hu259 => ?_
 have r261 := Upd.blk hu259 (not_app (not_type r252 r254 (by decide)) not0) r252
 refine hld ⟨(blk_at r261 rfl), (blk_at r261 rfl), (blk_at r261 rfl)⟩ fun hS260 => Rt 12 hS260 <| re <| bn <| tn <| go <| Pl 2 <| L0 <| Olb r261 3 <| ?_
 have U262 := ut0 U65 hu212
 have U263 := ut0 U262 hu219
 have U264 := ut U263 hu231 (all_app (ob_new f30 hu14.size) all0)
 have U265 := ut0 U264 hu238
 have U266 := ut0 U265 hu245
 have U267 := ut U266 hu259 (all_app (ob_new ho230 hu14.size) all0)
 have r268 := RdW.old hv46 U267
 refine L0 <| Oc <| so2 (put_any (xs := (M.recs.getD k ⟨0, 0, 0, []⟩).words) r268 (by (try simp only [List.length_cons, List.length_nil]); omega)) fun A273 cp274 w269 rd277 hl275 hm276 hu272 => ?_
 have r278 := own_stay ho258 hu272 (fun x hx => not0) (fun _ _ h => h)
 refine L0 <| Oapp one_u8 (xs := ((L ++ [6]) ++ (putW ([(M.recs.getD k ⟨0, 0, 0, []⟩).file, (M.recs.getD k ⟨0, 0, 0, []⟩).record, (M.recs.getD k ⟨0, 0, 0, []⟩).count])))) (ys := (putW ((M.recs.getD k ⟨0, 0, 0, []⟩).words))) (.int .u8 0) 1 r278 (rd277).rd (by (try simp only [List.length_append, List.length_cons, List.length_nil, putW_length]); omega) (le (le (le (le (le (le (le (le (le (le hu19.size hz29) hu54.size) hu57.size) hu212.size) hu219.size) hu231.size) hu238.size) hu245.size) hu259.size) hu272.size) fun A279 cp280 w281 ho282 hu283 => Pl 1 <| nl <| bn <| tn <| go <| L0 <| Oi (((k : Nat) : Int) + 1) <| Pl 1 <| nl <| ?_
 have U284 := ut0 U60 hu212
 have U285 := ut0 U284 hu219
 have U286 := ut U285 hu231 (all_app (ob_new f30 lr) all0)
 have U287 := ut0 U286 hu238
 have U288 := ut0 U287 hu245
 have U289 := ut U288 hu259 (all_app (ob_new ho230 lr) all0)
 have U290 := ut0 U289 hu272
 have U291 := ut U290 hu283 (all_app (ob_new ho258 lr) all0)
 exact lpe ((k + 1), (((L ++ [6]) ++ (putW ([(M.recs.getD k ⟨0, 0, 0, []⟩).file, (M.recs.getD k ⟨0, 0, 0, []⟩).record, (M.recs.getD k ⟨0, 0, 0, []⟩).count]))) ++ (putW ((M.recs.getD k ⟨0, 0, 0, []⟩).words))), A279, cp280) ⟨U291, (le (le (le (le (le (le (le (le (le (le hz29 hu54.size) hu57.size) hu212.size) hu219.size) hu231.size) hu238.size) hu245.size) hu259.size) hu272.size) hu283.size), ho282, (by (try dsimp only); omega), (by (try dsimp only); rw [← hL, filesB_drop dir M.code M.recs k (by omega)]; simp only [recB, hd0, q36, q66, bs, if_true, if_false, decide_true, decide_false, List.append_assoc]), (by (try dsimp only); have hv := hf.recw _ (getD_mem ⟨0, 0, 0, []⟩ M.recs k (by omega)); (try simp only [List.length_append, List.length_cons, List.length_nil, putW_length]); omega), (by (try dsimp only); (try simp only [List.length_append, List.length_cons, List.length_nil]); omega)⟩ (by omega)
 refine  Olt (m := 3) (e := 23) #[.int .u16 ((M.recs.getD k ⟨0, 0, 0, []⟩).file), .int .u16 ((M.recs.getD k ⟨0, 0, 0, []⟩).record), .int .u16 ((M.recs.getD k ⟨0, 0, 0, []⟩).count)] fun g292 w293 hg294 B295 hu296 => ?_
 have ow297 := litW hg294 (xs := [(M.recs.getD k ⟨0, 0, 0, []⟩).file, (M.recs.getD k ⟨0, 0, 0, []⟩).record, (M.recs.getD k ⟨0, 0, 0, []⟩).count]) (by as_aux_lemma => kernel_rfl) (rng_cons (by omega) (rng_cons (by omega) (rng_cons (by omega) rng_nil))) (by (try simp only [List.length_cons, List.length_nil]); omega) B295
 have r299 := ub hu296 r222
 refine hld ⟨(blk_at r299 rfl), (blk_at r299 rfl), (blk_at r299 rfl)⟩ fun hS298 => ?_
 have U300 := u1 hu54 hu57 (nr hg52)
 have U301 := ut0 U300 hu212
 have U302 := ut0 U301 hu219
 have U303 := ut0 U302 hu296
 have r304 := own_stay f30 U303 (fun x hx => not0) (fun _ _ h => h)
 have r305 := own_stay ow220 hu296 (fun x hx => not0) (fun _ _ h => h)
 refine R0 2 rfl <| Oapp one_u8 (xs := L) (ys := ([6])) (.int .u8 0) 1 r304 (r305).rd (by (try simp only [List.length_append, List.length_cons, List.length_nil, putW_length]); omega) (le (le (le (le (le (le hu19.size hz29) hu54.size) hu57.size) hu212.size) hu219.size) hu296.size) fun A306 cp307 w308 ho309 hu310 => ?_
 have r312 := Upd.blk hu310 (not_app (not_young f30 lr hg52) not0) r299
 refine hld ⟨(blk_at r312 rfl), (blk_at r312 rfl), (blk_at r312 rfl)⟩ fun hS311 => ?_
 have r313 := own_stay ow297 hu310 (fun x hx => (not_app ((rows_young ow297 f30 U302.size) x hx) not0)) (fun _ _ h => h)
 refine R0 10 rfl <| Oc <| so2 (put_any (xs := [(M.recs.getD k ⟨0, 0, 0, []⟩).file, (M.recs.getD k ⟨0, 0, 0, []⟩).record, (M.recs.getD k ⟨0, 0, 0, []⟩).count]) (r313).rd (by (try simp only [List.length_cons, List.length_nil]); omega)) fun A318 cp319 w314 rd322 hl320 hm321 hu317 => ?_
 have r324 := ub hu317 r312
 refine hld ⟨(blk_at r324 rfl), (blk_at r324 rfl), (blk_at r324 rfl)⟩ fun hS323 => ?_
 have r325 := own_stay ho309 hu317 (fun x hx => not0) (fun _ _ h => h)
 refine R0 11 rfl <| Oapp one_u8 (xs := (L ++ [6])) (ys := (putW ([(M.recs.getD k ⟨0, 0, 0, []⟩).file, (M.recs.getD k ⟨0, 0, 0, []⟩).record, (M.recs.getD k ⟨0, 0, 0, []⟩).count]))) (.int .u8 0) 1 r325 (rd322).rd (by (try simp only [List.length_append, List.length_cons, List.length_nil, putW_length]); omega) (le (le (le (le (le (le (le (le hu19.size hz29) hu54.size) hu57.size) hu212.size) hu219.size) hu296.size) hu310.size) hu317.size) fun A326 cp327 w328 ho329 hu330 => ?_
 have r332 := Upd.blk hu330 (not_app (not_type r324 r325 (by decide)) not0) r324
 refine hld ⟨(blk_at r332 rfl), (blk_at r332 rfl), (blk_at r332 rfl)⟩ fun hS331 => Rt 12 hS331 <| re <| bn <| tn <| go <| Pl 2 <| L0 <| Olb r332 3 <| ?_
 have U333 := ut0 U65 hu212
 have U334 := ut0 U333 hu219
 have U335 := ut0 U334 hu296
 have U336 := ut U335 hu310 (all_app (ob_new f30 hu14.size) all0)
 have U337 := ut0 U336 hu317
 have U338 := ut U337 hu330 (all_app (ob_new ho309 hu14.size) all0)
 have r339 := RdW.old hv46 U338
 refine L0 <| Oc <| so2 (put_any (xs := (M.recs.getD k ⟨0, 0, 0, []⟩).words) r339 (by (try simp only [List.length_cons, List.length_nil]); omega)) fun A344 cp345 w340 rd348 hl346 hm347 hu343 => ?_
 have r349 := own_stay ho329 hu343 (fun x hx => not0) (fun _ _ h => h)
 refine L0 <| Oapp one_u8 (xs := ((L ++ [6]) ++ (putW ([(M.recs.getD k ⟨0, 0, 0, []⟩).file, (M.recs.getD k ⟨0, 0, 0, []⟩).record, (M.recs.getD k ⟨0, 0, 0, []⟩).count])))) (ys := (putW ((M.recs.getD k ⟨0, 0, 0, []⟩).words))) (.int .u8 0) 1 r349 (rd348).rd (by (try simp only [List.length_append, List.length_cons, List.length_nil, putW_length]); omega) (le (le (le (le (le (le (le (le (le (le hu19.size hz29) hu54.size) hu57.size) hu212.size) hu219.size) hu296.size) hu310.size) hu317.size) hu330.size) hu343.size) fun A350 cp351 w352 ho353 hu354 => Pl 1 <| nl <| bn <| tn <| go <| L0 <| Oi (((k : Nat) : Int) + 1) <| Pl 1 <| nl <| ?_
 have U355 := ut0 U60 hu212
 have U356 := ut0 U355 hu219
 have U357 := ut0 U356 hu296
 have U358 := ut U357 hu310 (all_app (ob_new f30 lr) all0)
 have U359 := ut0 U358 hu317
 have U360 := ut U359 hu330 (all_app (ob_new ho309 lr) all0)
 have U361 := ut0 U360 hu343
 have U362 := ut U361 hu354 (all_app (ob_new ho329 lr) all0)
 exact lpe ((k + 1), (((L ++ [6]) ++ (putW ([(M.recs.getD k ⟨0, 0, 0, []⟩).file, (M.recs.getD k ⟨0, 0, 0, []⟩).record, (M.recs.getD k ⟨0, 0, 0, []⟩).count]))) ++ (putW ((M.recs.getD k ⟨0, 0, 0, []⟩).words))), A350, cp351) ⟨U362, (le (le (le (le (le (le (le (le (le (le hz29 hu54.size) hu57.size) hu212.size) hu219.size) hu296.size) hu310.size) hu317.size) hu330.size) hu343.size) hu354.size), ho353, (by (try dsimp only); omega), (by (try dsimp only); rw [← hL, filesB_drop dir M.code M.recs k (by omega)]; simp only [recB, hd0, q36, q66, bs, if_true, if_false, decide_true, decide_false, List.append_assoc]), (by (try dsimp only); have hv := hf.recw _ (getD_mem ⟨0, 0, 0, []⟩ M.recs k (by omega)); (try simp only [List.length_append, List.length_cons, List.length_nil, putW_length]); omega), (by (try dsimp only); (try simp only [List.length_append, List.length_cons, List.length_nil]); omega)⟩ (by omega)
 refine  Olt (m := 3) (e := 23) #[.int .u16 ((M.recs.getD k ⟨0, 0, 0, []⟩).file), .int .u16 ((M.recs.getD k ⟨0, 0, 0, []⟩).record), .int .u16 ((M.recs.getD k ⟨0, 0, 0, []⟩).count)] fun g363 w364 hg365 B366 hu367 => ?_
 have ow368 := litW hg365 (xs := [(M.recs.getD k ⟨0, 0, 0, []⟩).file, (M.recs.getD k ⟨0, 0, 0, []⟩).record, (M.recs.getD k ⟨0, 0, 0, []⟩).count]) (by as_aux_lemma => kernel_rfl) (rng_cons (by omega) (rng_cons (by omega) (rng_cons (by omega) rng_nil))) (by (try simp only [List.length_cons, List.length_nil]); omega) B366
 have r370 := ub hu367 r214
 refine hld ⟨(blk_at r370 rfl), (blk_at r370 rfl), (blk_at r370 rfl)⟩ fun hS369 => R0 1 rfl <| Olt (m := 1) (e := 5) #[.int .u8 6] fun g371 w372 hg373 B374 hu375 => ?_
 have ow376 := litB hg373 (xs := [6]) (by as_aux_lemma => kernel_rfl) (rng_cons (by omega) rng_nil) (by (try simp only [List.length_cons, List.length_nil]); omega) B374
 have r378 := ub hu375 r370
 refine hld ⟨(blk_at r378 rfl), (blk_at r378 rfl), (blk_at r378 rfl)⟩ fun hS377 => ?_
 have U379 := u1 hu54 hu57 (nr hg52)
 have U380 := ut0 U379 hu212
 have U381 := ut0 U380 hu367
 have U382 := ut0 U381 hu375
 have r383 := own_stay f30 U382 (fun x hx => not0) (fun _ _ h => h)
 refine R0 2 rfl <| Oapp one_u8 (xs := L) (ys := ([6])) (.int .u8 0) 1 r383 (ow376).rd (by (try simp only [List.length_append, List.length_cons, List.length_nil, putW_length]); omega) (le (le (le (le (le (le hu19.size hz29) hu54.size) hu57.size) hu212.size) hu367.size) hu375.size) fun A384 cp385 w386 ho387 hu388 => ?_
 have r390 := Upd.blk hu388 (not_app (not_young f30 lr hg52) not0) r378
 refine hld ⟨(blk_at r390 rfl), (blk_at r390 rfl), (blk_at r390 rfl)⟩ fun hS389 => ?_
 have U391 := ut (Upd.mono (S' := (ob A ++ [])) hu375 all0) hu388 (all_app (fun x hx => Or.inl (by simp [hx])) all0)
 have r392 := own_stay ow368 U391 (fun x hx => (not_app ((rows_young ow368 f30 U380.size) x hx) not0)) (fun _ _ h => h)
 refine R0 10 rfl <| Oc <| so2 (put_any (xs := [(M.recs.getD k ⟨0, 0, 0, []⟩).file, (M.recs.getD k ⟨0, 0, 0, []⟩).record, (M.recs.getD k ⟨0, 0, 0, []⟩).count]) (r392).rd (by (try simp only [List.length_cons, List.length_nil]); omega)) fun A397 cp398 w393 rd401 hl399 hm400 hu396 => ?_
 have r403 := ub hu396 r390
 refine hld ⟨(blk_at r403 rfl), (blk_at r403 rfl), (blk_at r403 rfl)⟩ fun hS402 => ?_
 have r404 := own_stay ho387 hu396 (fun x hx => not0) (fun _ _ h => h)
 refine R0 11 rfl <| Oapp one_u8 (xs := (L ++ [6])) (ys := (putW ([(M.recs.getD k ⟨0, 0, 0, []⟩).file, (M.recs.getD k ⟨0, 0, 0, []⟩).record, (M.recs.getD k ⟨0, 0, 0, []⟩).count]))) (.int .u8 0) 1 r404 (rd401).rd (by (try simp only [List.length_append, List.length_cons, List.length_nil, putW_length]); omega) (le (le (le (le (le (le (le (le hu19.size hz29) hu54.size) hu57.size) hu212.size) hu367.size) hu375.size) hu388.size) hu396.size) fun A405 cp406 w407 ho408 hu409 => ?_
 have r411 := Upd.blk hu409 (not_app (not_type r403 r404 (by decide)) not0) r403
 refine hld ⟨(blk_at r411 rfl), (blk_at r411 rfl), (blk_at r411 rfl)⟩ fun hS410 => Rt 12 hS410 <| re <| bn <| tn <| go <| Pl 2 <| L0 <| Olb r411 3 <| ?_
 have U412 := ut0 U65 hu212
 have U413 := ut0 U412 hu367
 have U414 := ut0 U413 hu375
 have U415 := ut U414 hu388 (all_app (ob_new f30 hu14.size) all0)
 have U416 := ut0 U415 hu396
 have U417 := ut U416 hu409 (all_app (ob_new ho387 hu14.size) all0)
 have r418 := RdW.old hv46 U417
 refine L0 <| Oc <| so2 (put_any (xs := (M.recs.getD k ⟨0, 0, 0, []⟩).words) r418 (by (try simp only [List.length_cons, List.length_nil]); omega)) fun A423 cp424 w419 rd427 hl425 hm426 hu422 => ?_
 have r428 := own_stay ho408 hu422 (fun x hx => not0) (fun _ _ h => h)
 refine L0 <| Oapp one_u8 (xs := ((L ++ [6]) ++ (putW ([(M.recs.getD k ⟨0, 0, 0, []⟩).file, (M.recs.getD k ⟨0, 0, 0, []⟩).record, (M.recs.getD k ⟨0, 0, 0, []⟩).count])))) (ys := (putW ((M.recs.getD k ⟨0, 0, 0, []⟩).words))) (.int .u8 0) 1 r428 (rd427).rd (by (try simp only [List.length_append, List.length_cons, List.length_nil, putW_length]); omega) (le (le (le (le (le (le (le (le (le (le hu19.size hz29) hu54.size) hu57.size) hu212.size) hu367.size) hu375.size) hu388.size) hu396.size) hu409.size) hu422.size) fun A429 cp430 w431 ho432 hu433 => Pl 1 <| nl <| bn <| tn <| go <| L0 <| Oi (((k : Nat) : Int) + 1) <| Pl 1 <| nl <| ?_
 have U434 := ut0 U60 hu212
 have U435 := ut0 U434 hu367
 have U436 := ut0 U435 hu375
 have U437 := ut U436 hu388 (all_app (ob_new f30 lr) all0)
 have U438 := ut0 U437 hu396
 have U439 := ut U438 hu409 (all_app (ob_new ho387 lr) all0)
 have U440 := ut0 U439 hu422
 have U441 := ut U440 hu433 (all_app (ob_new ho408 lr) all0)
 exact lpe ((k + 1), (((L ++ [6]) ++ (putW ([(M.recs.getD k ⟨0, 0, 0, []⟩).file, (M.recs.getD k ⟨0, 0, 0, []⟩).record, (M.recs.getD k ⟨0, 0, 0, []⟩).count]))) ++ (putW ((M.recs.getD k ⟨0, 0, 0, []⟩).words))), A429, cp430) ⟨U441, (le (le (le (le (le (le (le (le (le (le hz29 hu54.size) hu57.size) hu212.size) hu367.size) hu375.size) hu388.size) hu396.size) hu409.size) hu422.size) hu433.size), ho432, (by (try dsimp only); omega), (by (try dsimp only); rw [← hL, filesB_drop dir M.code M.recs k (by omega)]; simp only [recB, hd0, q36, q66, bs, if_true, if_false, decide_true, decide_false, List.append_assoc]), (by (try dsimp only); have hv := hf.recw _ (getD_mem ⟨0, 0, 0, []⟩ M.recs k (by omega)); (try simp only [List.length_append, List.length_cons, List.length_nil, putW_length]); omega), (by (try dsimp only); (try simp only [List.length_append, List.length_cons, List.length_nil]); omega)⟩ (by omega)
 have q36p := of_decide_eq_false q36
 refine xt <| tx <| tx <| bx <| tn <| sg <| Pl 3 <| L0 <| Oi (((L.length : Nat) : Int) - 1) <| Pl 1 <| x23 (RdB.at_ (f30).rd 0 (by omega)) fun b442 o443 hA444 hl445 hr446 => L0 <| Oix L.length 0 hA444 (by omega) <| L0 <| Orow one_u8 (j := 0) f30 hA444 (by omega) ((((L.length : Nat) : Int) - 1) % 256) (fun _ => ⟨rfl, by omega⟩) fun w447 ho448 hu449 => nl <| ?_
 refine tn <| sg <| Pl 2 <| nt <| rt <| rr (.slice A L.length cp) <| ?_
 have hk : k = M.recs.length := by omega
 rw [hk, List.drop_length] at hL
 have hL2 : [0] ++ filesB dir M.code M.recs = L := by rw [← hL]; simp [filesB]
 have hs : filesLay dir M = (L.set 0 ((((L.length : Nat) : Int) - 1) % 256)) := by unfold filesLay; rw [hL2]
 rw [hs]
 have U450 := ut U35 hu449 (all_app (ob_new f30 hu14.size) all0)
 exact ⟨_, rfl, (OwnG.weaken ho448 hu14.size), U450⟩
set_option maxRecDepth 100000 in
set_option maxHeartbeats 4000000 in
theorem files_lay_f {m : Bool} {cs : Array Value} {M : Msg} {w : World} {dir : Int} (h : MsgRd m w cs.toList M) (hf : MsgFew M) (hd0 : (dir == 0) = false) : Calls Try.prog 69 #[.int .i64 dir, .agg cs] w (PLay (filesLay dir M) w) := by
 obtain ⟨vw, vb, vd, vr, vo, h0, hw, hbt, hd, hr, ho, hR⟩ := h
 obtain rfl : cs = (msgCells M vw vb vd vr vo).toArray := by apply Array.toList_inj.1; simpa using h0
 clear h0
 obtain ⟨Aw, kw, rfl, _, _⟩ := hw.shape
 obtain ⟨Ab, kb, rfl, _, _⟩ := hbt.shape
 obtain ⟨Ad, kd, rfl, _, _⟩ := hd.shape
 obtain ⟨Ar, kr, rfl, _, _⟩ := hr.shape
 obtain ⟨Ao, ko, rfl, _, _⟩ := ho.shape
 obtain ⟨q0, q1, q2, q3, q4, q5, q6, q7, q8, q9, q10, q11, q16, q17, q18, q19, q20⟩ := hR
 simp only [B8, B16] at q0 q1 q2 q3 q4 q5 q6 q7 q8 q9 q10 q11 q16 q17 q18 q19 q20
 have hf1 := hf.words
 have hf2 := hf.bits
 have hf3 := hf.data
 have hf4 := hf.recs
 have hf5 := hf.objects
 refine en 58 Try.func69 rfl <| sg <| L0 <| Obx (mG M.code M.fail M.addr M.count M.value M.and_ M.or_ M.addr2 M.sub M.status M.events M.messages (.slice Aw M.words.length kw) (.slice Ab M.bits.length kb) (.slice Ad M.data.length kd) (.slice Ar M.recs.length kr) M.mei M.kind M.level M.more M.next (.slice Ao M.objects.length ko)) fun g10 w11 hg12 B13 hu14 => Pl 1 <| ng <| L0 <| Olt (m := 1) (e := 5) #[.int .u8 0] fun g15 w16 hg17 B18 hu19 => ?_
 have ow20 := litB hg17 (xs := [0]) (by as_aux_lemma => kernel_rfl) (rng_cons (by omega) rng_nil) (by (try simp only [List.length_cons, List.length_nil]); omega) B18
 refine Pl 1 <| nt <| sq <| sg <| Pl 1 <| ?_
 have r21 := ub hu19 B13
 refine L0 <| Olb r21 15 <| Pl 2 <| nt <| bk <| ?_
 refine glp (fun x => [(0, .int .i64 dir), (3, .pointer (some ⟨g10, 0, none⟩)), (4, .slice none 0 0), (5, .slice x.2.2.1 x.2.1.length x.2.2.2), (10, .slice Ar M.recs.length kr), (11, .int .i64 ((M.recs.length : Nat) : Int)), (12, .int .i64 ((x.1 : Nat) : Int))]) (fun (x : Nat × List Int × Option Addr × Nat) w' => Upd [] w11 w' ∧ w16.heap.size ≤ w'.heap.size ∧ OwnB w11.heap.size w' (.slice x.2.2.1 x.2.1.length x.2.2.2) x.2.1 ∧ (x.1 ≤ M.recs.length) ∧ (x.2.1 ++ filesB dir M.code (M.recs.drop x.1) = ([0]) ++ filesB dir M.code M.recs) ∧ (x.2.1.length ≤ 16 + x.1 * 2060) ∧ (1 ≤ x.2.1.length)) (fun x => M.recs.length - x.1) (0, [0], some ⟨g15, 0, none⟩, 1) ⟨hu19, lr, ow20, (by (try dsimp only); omega), rfl, (by (try dsimp only); (try simp only [List.length_cons, List.length_nil]); omega), (by (try dsimp only); (try simp only [List.length_cons, List.length_nil]); omega)⟩ ?_
 rintro ⟨k, L, A, cp⟩ w22 ⟨hu23, hz29, f24, p25, p26, p27, p28⟩
 refine wkc [(0, .int .i64 dir), (3, .pointer (some ⟨g10, 0, none⟩)), (4, .slice none 0 0), (5, .slice A L.length cp), (10, .slice Ar M.recs.length kr), (11, .int .i64 ((M.recs.length : Nat) : Int)), (12, .int .i64 ((k : Nat) : Int))] ?_
 have f30 : OwnB w11.heap.size w22 (.slice A L.length cp) L := f24
 have p31 : k ≤ M.recs.length := p25
 have p32 : L ++ filesB dir M.code (M.recs.drop k) = ([0]) ++ filesB dir M.code M.recs := p26
 have p33 : L.length ≤ 16 + k * 2060 := p27
 have p34 : 1 ≤ L.length := p28
 have hL : L ++ filesB dir M.code (M.recs.drop k) = ([0]) ++ filesB dir M.code M.recs := by assumption
 have hv0 := fun (h : k < M.recs.length) => hf.recw _ (getD_mem ⟨0, 0, 0, []⟩ M.recs k h)
 refine sg <| Pl 1 <| nt <| sq <| ?_
 have U35 := ut0 hu14 hu23
 refine cb ((decide (((k : Nat) : Int) < ((M.recs.length : Nat) : Int)))) (fun q36 => ?_) (fun q36 => ?_)
 have q36p := of_decide_eq_true q36
 refine skn <| sq <| bk <| sg <| x75 (RdR.elt hr k (by omega)) fun b37 o38 cl39 t40 fr41 A42 cp43 hA44 hb45 hv46 hr47 hs48 => L0 <| Oixs 4 M.recs.length k hA44 (by omega) <| ?_
 have r49 := ub U35 hb45
 refine L0 <| Oel [.int .u16 ((M.recs.getD k ⟨0, 0, 0, []⟩).file), .int .u16 ((M.recs.getD k ⟨0, 0, 0, []⟩).record), .int .u16 ((M.recs.getD k ⟨0, 0, 0, []⟩).count), .slice A42 ((M.recs.getD k ⟨0, 0, 0, []⟩).words.length) cp43] r49 hs48 <| L0 <| Oal #[.int .u16 0, .int .u16 0, .int .u16 0, .slice none 0 0] fun g50 w51 hg52 B53 hu54 => L0 <| Osw B53 #[.int .u16 ((M.recs.getD k ⟨0, 0, 0, []⟩).file), .int .u16 ((M.recs.getD k ⟨0, 0, 0, []⟩).record), .int .u16 ((M.recs.getD k ⟨0, 0, 0, []⟩).count), .slice A42 ((M.recs.getD k ⟨0, 0, 0, []⟩).words.length) cp43] fun w55 B56 hu57 => nt <| sq <| bk <| sg <| Pl 1 <| ?_
 have U58 := ut0 (Upd.refl [] _) hu23
 have U59 := ut0 U58 hu54
 have U60 := u1 U59 hu57 (ni U58.size hg52)
 have r61 := ub U60 B13
 refine L0 <| Olb r61 0 <| Pl 2 <| cu 3 [32] 35 (((M.code == 20) && (dir == 1))) (fun K K63 => ?_) ?_
 refine bl 32 ((M.code == 20)) (fun q62 => ?_) (fun q62 => ?_)
 have q62p := eq_of_beqi q62
 exact Pl 3 <| ce K63 (dir == 1) (by rw [q62]; rfl)
 have q62p := ne_of_beqi q62
 exact Pl 3 <| ce K63 false (by rw [q62]; rfl)
 refine Pl 1 <| nt <| ?_
 have U64 := ut0 U35 hu54
 have U65 := u1 U64 hu57 (ni U35.size hg52)
 refine cb (((M.code == 20) && (dir == 1))) (fun q66 => ?_) (fun q66 => ?_)
 have q66a := (and_t q66).1
 have q66b := (and_t q66).2
 have q66ap := eq_of_beqi q66a
 have q66bp := eq_of_beqi q66b
 refine go <| Pl 2 <| L0 <| Olb B56 3 <| Pl 1 <| L0 <| Oi (2 * (((M.recs.getD k ⟨0, 0, 0, []⟩).words.length : Nat) : Int)) <| L0 <| Oi (1 + (2 * (((M.recs.getD k ⟨0, 0, 0, []⟩).words.length : Nat) : Int))) <| Pl 1 <| L0 <| Olt (m := 2) (e := 5) #[.int .u8 ((1 + (2 * (((M.recs.getD k ⟨0, 0, 0, []⟩).words.length : Nat) : Int))) % 256), .int .u8 6] fun g67 w68 hg69 B70 hu71 => ?_
 have ow72 := litB hg69 (xs := [((1 + (2 * (((M.recs.getD k ⟨0, 0, 0, []⟩).words.length : Nat) : Int))) % 256), 6]) (by as_aux_lemma => kernel_rfl) (rng_cons (by omega) (rng_cons (by omega) rng_nil)) (by (try simp only [List.length_cons, List.length_nil]); omega) B70
 have U73 := u1 hu54 hu57 (nr hg52)
 have U74 := ut0 U73 hu71
 have r75 := own_stay f30 U74 (fun x hx => not0) (fun _ _ h => h)
 refine L0 <| Oapp one_u8 (xs := L) (ys := ([((1 + (2 * (((M.recs.getD k ⟨0, 0, 0, []⟩).words.length : Nat) : Int))) % 256), 6])) (.int .u8 0) 1 r75 (ow72).rd (by (try simp only [List.length_append, List.length_cons, List.length_nil, putW_length]); omega) (le (le (le (le hu19.size hz29) hu54.size) hu57.size) hu71.size) fun A76 cp77 w78 ho79 hu80 => Pl 1 <| nl <| bn <| tn <| go <| Pl 2 <| ?_
 have U81 := ut (Upd.mono (S' := (ob A ++ [])) hu71 all0) hu80 (all_app (fun x hx => Or.inl (by simp [hx])) all0)
 have r82 := Upd.blk U81 (not_app (not_young f30 lr hg52) not0) B56
 refine L0 <| Olb r82 3 <| ?_
 have U83 := ut0 U65 hu71
 have U84 := ut U83 hu80 (all_app (ob_new f30 hu14.size) all0)
 have r85 := RdW.old hv46 U84
 refine L0 <| Oc <| so2 (put_any (xs := (M.recs.getD k ⟨0, 0, 0, []⟩).words) r85 (by (try simp only [List.length_cons, List.length_nil]); omega)) fun A90 cp91 w86 rd94 hl92 hm93 hu89 => ?_
 have r95 := own_stay ho79 hu89 (fun x hx => not0) (fun _ _ h => h)
 refine L0 <| Oapp one_u8 (xs := (L ++ [((1 + (2 * (((M.recs.getD k ⟨0, 0, 0, []⟩).words.length : Nat) : Int))) % 256), 6])) (ys := (putW ((M.recs.getD k ⟨0, 0, 0, []⟩).words))) (.int .u8 0) 1 r95 (rd94).rd (by (try simp only [List.length_append, List.length_cons, List.length_nil, putW_length]); omega) (le (le (le (le (le (le hu19.size hz29) hu54.size) hu57.size) hu71.size) hu80.size) hu89.size) fun A96 cp97 w98 ho99 hu100 => Pl 1 <| nl <| bn <| tn <| go <| L0 <| Oi (((k : Nat) : Int) + 1) <| Pl 1 <| nl <| ?_
 have U101 := ut0 U60 hu71
 have U102 := ut U101 hu80 (all_app (ob_new f30 lr) all0)
 have U103 := ut0 U102 hu89
 have U104 := ut U103 hu100 (all_app (ob_new ho79 lr) all0)
 exact lpe ((k + 1), ((L ++ [((1 + (2 * (((M.recs.getD k ⟨0, 0, 0, []⟩).words.length : Nat) : Int))) % 256), 6]) ++ (putW ((M.recs.getD k ⟨0, 0, 0, []⟩).words))), A96, cp97) ⟨U104, (le (le (le (le (le (le hz29 hu54.size) hu57.size) hu71.size) hu80.size) hu89.size) hu100.size), ho99, (by (try dsimp only); omega), (by (try dsimp only); rw [← hL, filesB_drop dir M.code M.recs k (by omega)]; simp only [recB, hd0, q36, q66, q66a, q66b, bs, if_true, if_false, decide_true, decide_false, List.append_assoc]), (by (try dsimp only); have hv := hf.recw _ (getD_mem ⟨0, 0, 0, []⟩ M.recs k (by omega)); (try simp only [List.length_append, List.length_cons, List.length_nil, putW_length]); omega), (by (try dsimp only); (try simp only [List.length_append, List.length_cons, List.length_nil]); omega)⟩ (by omega)
 refine Rg 13 (fun w' => w'.cell? ⟨g50, 0, none⟩ = some (.int .u16 ((M.recs.getD k ⟨0, 0, 0, []⟩).file)) ∧ w'.cell? ⟨g50, 1, none⟩ = some (.int .u16 ((M.recs.getD k ⟨0, 0, 0, []⟩).record)) ∧ w'.cell? ⟨g50, 2, none⟩ = some (.int .u16 ((M.recs.getD k ⟨0, 0, 0, []⟩).count))) fun w211 hu212 => ?_
 have r214 := ub hu212 B56
 refine hld ⟨(blk_at r214 rfl), (blk_at r214 rfl), (blk_at r214 rfl)⟩ fun hS213 => Rt 0 hS213 <| Rt 3 hS213 <| Rl 4 hS213 (fun _ hs => hs.1) <| Rt 5 hS213 <| Rl 6 hS213 (fun _ hs => hs.2.1) <| Rt 7 hS213 <| Rl 8 hS213 (fun _ hs => hs.2.2) <| ?_
 refine R2 1 9 rfl rfl ?_ ?_
 refine  Olt (m := 1) (e := 5) #[.int .u8 6] fun g215 w216 hg217 B218 hu219 => ?_
 have ow220 := litB hg217 (xs := [6]) (by as_aux_lemma => kernel_rfl) (rng_cons (by omega) rng_nil) (by (try simp only [List.length_cons, List.length_nil]); omega) B218
 have r222 := ub hu219 r214
 refine hld ⟨(blk_at r222 rfl), (blk_at r222 rfl), (blk_at r222 rfl)⟩ fun hS221 => ?_
 refine R2 2 9 rfl rfl ?_ ?_
 have U223 := u1 hu54 hu57 (nr hg52)
 have U224 := ut0 U223 hu212
 have U225 := ut0 U224 hu219
 have r226 := own_stay f30 U225 (fun x hx => not0) (fun _ _ h => h)
 refine  Oapp one_u8 (xs := L) (ys := ([6])) (.int .u8 0) 1 r226 (ow220).rd (by (try simp only [List.length_append, List.length_cons, List.length_nil, putW_length]); omega) (le (le (le (le (le hu19.size hz29) hu54.size) hu57.size) hu212.size) hu219.size) fun A227 cp228 w229 ho230 hu231 => ?_
 have r233 := Upd.blk hu231 (not_app (not_young f30 lr hg52) not0) r222
 refine hld ⟨(blk_at r233 rfl), (blk_at r233 rfl), (blk_at r233 rfl)⟩ fun hS232 => R0 9 rfl <| Olt (m := 3) (e := 23) #[.int .u16 ((M.recs.getD k ⟨0, 0, 0, []⟩).file), .int .u16 ((M.recs.getD k ⟨0, 0, 0, []⟩).record), .int .u16 ((M.recs.getD k ⟨0, 0, 0, []⟩).count)] fun g234 w235 hg236 B237 hu238 => ?_
 have ow239 := litW hg236 (xs := [(M.recs.getD k ⟨0, 0, 0, []⟩).file, (M.recs.getD k ⟨0, 0, 0, []⟩).record, (M.recs.getD k ⟨0, 0, 0, []⟩).count]) (by as_aux_lemma => kernel_rfl) (rng_cons (by omega) (rng_cons (by omega) (rng_cons (by omega) rng_nil))) (by (try simp only [List.length_cons, List.length_nil]); omega) B237
 have r241 := ub hu238 r233
 refine hld ⟨(blk_at r241 rfl), (blk_at r241 rfl), (blk_at r241 rfl)⟩ fun hS240 => R0 10 rfl <| Oc <| so2 (put_any (xs := [(M.recs.getD k ⟨0, 0, 0, []⟩).file, (M.recs.getD k ⟨0, 0, 0, []⟩).record, (M.recs.getD k ⟨0, 0, 0, []⟩).count]) (ow239).rd (by (try simp only [List.length_cons, List.length_nil]); omega)) fun A246 cp247 w242 rd250 hl248 hm249 hu245 => ?_
 have r252 := ub hu245 r241
 refine hld ⟨(blk_at r252 rfl), (blk_at r252 rfl), (blk_at r252 rfl)⟩ fun hS251 => ?_
 have U253 := ut0 hu238 hu245
 have r254 := own_stay ho230 U253 (fun x hx => not0) (fun _ _ h => h)
 refine R0 11 rfl <| Oapp one_u8 (xs := (L ++ [6])) (ys := (putW ([(M.recs.getD k ⟨0, 0, 0, []⟩).file, (M.recs.getD k ⟨0, 0, 0, []⟩).record, (M.recs.getD k ⟨0, 0, 0, []⟩).count]))) (.int .u8 0) 1 r254 (rd250).rd (by (try simp only [List.length_append, List.length_cons, List.length_nil, putW_length]); omega) (le (le (le (le (le (le (le (le hu19.size hz29) hu54.size) hu57.size) hu212.size) hu219.size) hu231.size) hu238.size) hu245.size) fun A255 cp256 w257 ho258 hu259 => ?_
 have r261 := Upd.blk hu259 (not_app (not_type r252 r254 (by decide)) not0) r252
 refine hld ⟨(blk_at r261 rfl), (blk_at r261 rfl), (blk_at r261 rfl)⟩ fun hS260 => Rt 12 hS260 <| re <| bn <| tn <| go <| Pl 2 <| L0 <| Olb r261 3 <| ?_
 have U262 := ut0 U65 hu212
 have U263 := ut0 U262 hu219
 have U264 := ut U263 hu231 (all_app (ob_new f30 hu14.size) all0)
 have U265 := ut0 U264 hu238
 have U266 := ut0 U265 hu245
 have U267 := ut U266 hu259 (all_app (ob_new ho230 hu14.size) all0)
 have r268 := RdW.old hv46 U267
 refine L0 <| Oc <| so2 (put_any (xs := (M.recs.getD k ⟨0, 0, 0, []⟩).words) r268 (by (try simp only [List.length_cons, List.length_nil]); omega)) fun A273 cp274 w269 rd277 hl275 hm276 hu272 => ?_
 have r278 := own_stay ho258 hu272 (fun x hx => not0) (fun _ _ h => h)
 refine L0 <| Oapp one_u8 (xs := ((L ++ [6]) ++ (putW ([(M.recs.getD k ⟨0, 0, 0, []⟩).file, (M.recs.getD k ⟨0, 0, 0, []⟩).record, (M.recs.getD k ⟨0, 0, 0, []⟩).count])))) (ys := (putW ((M.recs.getD k ⟨0, 0, 0, []⟩).words))) (.int .u8 0) 1 r278 (rd277).rd (by (try simp only [List.length_append, List.length_cons, List.length_nil, putW_length]); omega) (le (le (le (le (le (le (le (le (le (le hu19.size hz29) hu54.size) hu57.size) hu212.size) hu219.size) hu231.size) hu238.size) hu245.size) hu259.size) hu272.size) fun A279 cp280 w281 ho282 hu283 => Pl 1 <| nl <| bn <| tn <| go <| L0 <| Oi (((k : Nat) : Int) + 1) <| Pl 1 <| nl <| ?_
 have U284 := ut0 U60 hu212
 have U285 := ut0 U284 hu219
 have U286 := ut U285 hu231 (all_app (ob_new f30 lr) all0)
 have U287 := ut0 U286 hu238
 have U288 := ut0 U287 hu245
 have U289 := ut U288 hu259 (all_app (ob_new ho230 lr) all0)
 have U290 := ut0 U289 hu272
 have U291 := ut U290 hu283 (all_app (ob_new ho258 lr) all0)
 exact lpe ((k + 1), (((L ++ [6]) ++ (putW ([(M.recs.getD k ⟨0, 0, 0, []⟩).file, (M.recs.getD k ⟨0, 0, 0, []⟩).record, (M.recs.getD k ⟨0, 0, 0, []⟩).count]))) ++ (putW ((M.recs.getD k ⟨0, 0, 0, []⟩).words))), A279, cp280) ⟨U291, (le (le (le (le (le (le (le (le (le (le hz29 hu54.size) hu57.size) hu212.size) hu219.size) hu231.size) hu238.size) hu245.size) hu259.size) hu272.size) hu283.size), ho282, (by (try dsimp only); omega), (by (try dsimp only); rw [← hL, filesB_drop dir M.code M.recs k (by omega)]; simp only [recB, hd0, q36, q66, bs, if_true, if_false, decide_true, decide_false, List.append_assoc]), (by (try dsimp only); have hv := hf.recw _ (getD_mem ⟨0, 0, 0, []⟩ M.recs k (by omega)); (try simp only [List.length_append, List.length_cons, List.length_nil, putW_length]); omega), (by (try dsimp only); (try simp only [List.length_append, List.length_cons, List.length_nil]); omega)⟩ (by omega)
 refine  Olt (m := 3) (e := 23) #[.int .u16 ((M.recs.getD k ⟨0, 0, 0, []⟩).file), .int .u16 ((M.recs.getD k ⟨0, 0, 0, []⟩).record), .int .u16 ((M.recs.getD k ⟨0, 0, 0, []⟩).count)] fun g292 w293 hg294 B295 hu296 => ?_
 have ow297 := litW hg294 (xs := [(M.recs.getD k ⟨0, 0, 0, []⟩).file, (M.recs.getD k ⟨0, 0, 0, []⟩).record, (M.recs.getD k ⟨0, 0, 0, []⟩).count]) (by as_aux_lemma => kernel_rfl) (rng_cons (by omega) (rng_cons (by omega) (rng_cons (by omega) rng_nil))) (by (try simp only [List.length_cons, List.length_nil]); omega) B295
 have r299 := ub hu296 r222
 refine hld ⟨(blk_at r299 rfl), (blk_at r299 rfl), (blk_at r299 rfl)⟩ fun hS298 => ?_
 have U300 := u1 hu54 hu57 (nr hg52)
 have U301 := ut0 U300 hu212
 have U302 := ut0 U301 hu219
 have U303 := ut0 U302 hu296
 have r304 := own_stay f30 U303 (fun x hx => not0) (fun _ _ h => h)
 have r305 := own_stay ow220 hu296 (fun x hx => not0) (fun _ _ h => h)
 refine R0 2 rfl <| Oapp one_u8 (xs := L) (ys := ([6])) (.int .u8 0) 1 r304 (r305).rd (by (try simp only [List.length_append, List.length_cons, List.length_nil, putW_length]); omega) (le (le (le (le (le (le hu19.size hz29) hu54.size) hu57.size) hu212.size) hu219.size) hu296.size) fun A306 cp307 w308 ho309 hu310 => ?_
 have r312 := Upd.blk hu310 (not_app (not_young f30 lr hg52) not0) r299
 refine hld ⟨(blk_at r312 rfl), (blk_at r312 rfl), (blk_at r312 rfl)⟩ fun hS311 => ?_
 have r313 := own_stay ow297 hu310 (fun x hx => (not_app ((rows_young ow297 f30 U302.size) x hx) not0)) (fun _ _ h => h)
 refine R0 10 rfl <| Oc <| so2 (put_any (xs := [(M.recs.getD k ⟨0, 0, 0, []⟩).file, (M.recs.getD k ⟨0, 0, 0, []⟩).record, (M.recs.getD k ⟨0, 0, 0, []⟩).count]) (r313).rd (by (try simp only [List.length_cons, List.length_nil]); omega)) fun A318 cp319 w314 rd322 hl320 hm321 hu317 => ?_
 have r324 := ub hu317 r312
 refine hld ⟨(blk_at r324 rfl), (blk_at r324 rfl), (blk_at r324 rfl)⟩ fun hS323 => ?_
 have r325 := own_stay ho309 hu317 (fun x hx => not0) (fun _ _ h => h)
 refine R0 11 rfl <| Oapp one_u8 (xs := (L ++ [6])) (ys := (putW ([(M.recs.getD k ⟨0, 0, 0, []⟩).file, (M.recs.getD k ⟨0, 0, 0, []⟩).record, (M.recs.getD k ⟨0, 0, 0, []⟩).count]))) (.int .u8 0) 1 r325 (rd322).rd (by (try simp only [List.length_append, List.length_cons, List.length_nil, putW_length]); omega) (le (le (le (le (le (le (le (le hu19.size hz29) hu54.size) hu57.size) hu212.size) hu219.size) hu296.size) hu310.size) hu317.size) fun A326 cp327 w328 ho329 hu330 => ?_
 have r332 := Upd.blk hu330 (not_app (not_type r324 r325 (by decide)) not0) r324
 refine hld ⟨(blk_at r332 rfl), (blk_at r332 rfl), (blk_at r332 rfl)⟩ fun hS331 => Rt 12 hS331 <| re <| bn <| tn <| go <| Pl 2 <| L0 <| Olb r332 3 <| ?_
 have U333 := ut0 U65 hu212
 have U334 := ut0 U333 hu219
 have U335 := ut0 U334 hu296
 have U336 := ut U335 hu310 (all_app (ob_new f30 hu14.size) all0)
 have U337 := ut0 U336 hu317
 have U338 := ut U337 hu330 (all_app (ob_new ho309 hu14.size) all0)
 have r339 := RdW.old hv46 U338
 refine L0 <| Oc <| so2 (put_any (xs := (M.recs.getD k ⟨0, 0, 0, []⟩).words) r339 (by (try simp only [List.length_cons, List.length_nil]); omega)) fun A344 cp345 w340 rd348 hl346 hm347 hu343 => ?_
 have r349 := own_stay ho329 hu343 (fun x hx => not0) (fun _ _ h => h)
 refine L0 <| Oapp one_u8 (xs := ((L ++ [6]) ++ (putW ([(M.recs.getD k ⟨0, 0, 0, []⟩).file, (M.recs.getD k ⟨0, 0, 0, []⟩).record, (M.recs.getD k ⟨0, 0, 0, []⟩).count])))) (ys := (putW ((M.recs.getD k ⟨0, 0, 0, []⟩).words))) (.int .u8 0) 1 r349 (rd348).rd (by (try simp only [List.length_append, List.length_cons, List.length_nil, putW_length]); omega) (le (le (le (le (le (le (le (le (le (le hu19.size hz29) hu54.size) hu57.size) hu212.size) hu219.size) hu296.size) hu310.size) hu317.size) hu330.size) hu343.size) fun A350 cp351 w352 ho353 hu354 => Pl 1 <| nl <| bn <| tn <| go <| L0 <| Oi (((k : Nat) : Int) + 1) <| Pl 1 <| nl <| ?_
 have U355 := ut0 U60 hu212
 have U356 := ut0 U355 hu219
 have U357 := ut0 U356 hu296
 have U358 := ut U357 hu310 (all_app (ob_new f30 lr) all0)
 have U359 := ut0 U358 hu317
 have U360 := ut U359 hu330 (all_app (ob_new ho309 lr) all0)
 have U361 := ut0 U360 hu343
 have U362 := ut U361 hu354 (all_app (ob_new ho329 lr) all0)
 exact lpe ((k + 1), (((L ++ [6]) ++ (putW ([(M.recs.getD k ⟨0, 0, 0, []⟩).file, (M.recs.getD k ⟨0, 0, 0, []⟩).record, (M.recs.getD k ⟨0, 0, 0, []⟩).count]))) ++ (putW ((M.recs.getD k ⟨0, 0, 0, []⟩).words))), A350, cp351) ⟨U362, (le (le (le (le (le (le (le (le (le (le hz29 hu54.size) hu57.size) hu212.size) hu219.size) hu296.size) hu310.size) hu317.size) hu330.size) hu343.size) hu354.size), ho353, (by (try dsimp only); omega), (by (try dsimp only); rw [← hL, filesB_drop dir M.code M.recs k (by omega)]; simp only [recB, hd0, q36, q66, bs, if_true, if_false, decide_true, decide_false, List.append_assoc]), (by (try dsimp only); have hv := hf.recw _ (getD_mem ⟨0, 0, 0, []⟩ M.recs k (by omega)); (try simp only [List.length_append, List.length_cons, List.length_nil, putW_length]); omega), (by (try dsimp only); (try simp only [List.length_append, List.length_cons, List.length_nil]); omega)⟩ (by omega)
 refine  Olt (m := 3) (e := 23) #[.int .u16 ((M.recs.getD k ⟨0, 0, 0, []⟩).file), .int .u16 ((M.recs.getD k ⟨0, 0, 0, []⟩).record), .int .u16 ((M.recs.getD k ⟨0, 0, 0, []⟩).count)] fun g363 w364 hg365 B366 hu367 => ?_
 have ow368 := litW hg365 (xs := [(M.recs.getD k ⟨0, 0, 0, []⟩).file, (M.recs.getD k ⟨0, 0, 0, []⟩).record, (M.recs.getD k ⟨0, 0, 0, []⟩).count]) (by as_aux_lemma => kernel_rfl) (rng_cons (by omega) (rng_cons (by omega) (rng_cons (by omega) rng_nil))) (by (try simp only [List.length_cons, List.length_nil]); omega) B366
 have r370 := ub hu367 r214
 refine hld ⟨(blk_at r370 rfl), (blk_at r370 rfl), (blk_at r370 rfl)⟩ fun hS369 => R0 1 rfl <| Olt (m := 1) (e := 5) #[.int .u8 6] fun g371 w372 hg373 B374 hu375 => ?_
 have ow376 := litB hg373 (xs := [6]) (by as_aux_lemma => kernel_rfl) (rng_cons (by omega) rng_nil) (by (try simp only [List.length_cons, List.length_nil]); omega) B374
 have r378 := ub hu375 r370
 refine hld ⟨(blk_at r378 rfl), (blk_at r378 rfl), (blk_at r378 rfl)⟩ fun hS377 => ?_
 have U379 := u1 hu54 hu57 (nr hg52)
 have U380 := ut0 U379 hu212
 have U381 := ut0 U380 hu367
 have U382 := ut0 U381 hu375
 have r383 := own_stay f30 U382 (fun x hx => not0) (fun _ _ h => h)
 refine R0 2 rfl <| Oapp one_u8 (xs := L) (ys := ([6])) (.int .u8 0) 1 r383 (ow376).rd (by (try simp only [List.length_append, List.length_cons, List.length_nil, putW_length]); omega) (le (le (le (le (le (le hu19.size hz29) hu54.size) hu57.size) hu212.size) hu367.size) hu375.size) fun A384 cp385 w386 ho387 hu388 => ?_
 have r390 := Upd.blk hu388 (not_app (not_young f30 lr hg52) not0) r378
 refine hld ⟨(blk_at r390 rfl), (blk_at r390 rfl), (blk_at r390 rfl)⟩ fun hS389 => ?_
 have U391 := ut (Upd.mono (S' := (ob A ++ [])) hu375 all0) hu388 (all_app (fun x hx => Or.inl (by simp [hx])) all0)
 have r392 := own_stay ow368 U391 (fun x hx => (not_app ((rows_young ow368 f30 U380.size) x hx) not0)) (fun _ _ h => h)
 refine R0 10 rfl <| Oc <| so2 (put_any (xs := [(M.recs.getD k ⟨0, 0, 0, []⟩).file, (M.recs.getD k ⟨0, 0, 0, []⟩).record, (M.recs.getD k ⟨0, 0, 0, []⟩).count]) (r392).rd (by (try simp only [List.length_cons, List.length_nil]); omega)) fun A397 cp398 w393 rd401 hl399 hm400 hu396 => ?_
 have r403 := ub hu396 r390
 refine hld ⟨(blk_at r403 rfl), (blk_at r403 rfl), (blk_at r403 rfl)⟩ fun hS402 => ?_
 have r404 := own_stay ho387 hu396 (fun x hx => not0) (fun _ _ h => h)
 refine R0 11 rfl <| Oapp one_u8 (xs := (L ++ [6])) (ys := (putW ([(M.recs.getD k ⟨0, 0, 0, []⟩).file, (M.recs.getD k ⟨0, 0, 0, []⟩).record, (M.recs.getD k ⟨0, 0, 0, []⟩).count]))) (.int .u8 0) 1 r404 (rd401).rd (by (try simp only [List.length_append, List.length_cons, List.length_nil, putW_length]); omega) (le (le (le (le (le (le (le (le hu19.size hz29) hu54.size) hu57.size) hu212.size) hu367.size) hu375.size) hu388.size) hu396.size) fun A405 cp406 w407 ho408 hu409 => ?_
 have r411 := Upd.blk hu409 (not_app (not_type r403 r404 (by decide)) not0) r403
 refine hld ⟨(blk_at r411 rfl), (blk_at r411 rfl), (blk_at r411 rfl)⟩ fun hS410 => Rt 12 hS410 <| re <| bn <| tn <| go <| Pl 2 <| L0 <| Olb r411 3 <| ?_
 have U412 := ut0 U65 hu212
 have U413 := ut0 U412 hu367
 have U414 := ut0 U413 hu375
 have U415 := ut U414 hu388 (all_app (ob_new f30 hu14.size) all0)
 have U416 := ut0 U415 hu396
 have U417 := ut U416 hu409 (all_app (ob_new ho387 hu14.size) all0)
 have r418 := RdW.old hv46 U417
 refine L0 <| Oc <| so2 (put_any (xs := (M.recs.getD k ⟨0, 0, 0, []⟩).words) r418 (by (try simp only [List.length_cons, List.length_nil]); omega)) fun A423 cp424 w419 rd427 hl425 hm426 hu422 => ?_
 have r428 := own_stay ho408 hu422 (fun x hx => not0) (fun _ _ h => h)
 refine L0 <| Oapp one_u8 (xs := ((L ++ [6]) ++ (putW ([(M.recs.getD k ⟨0, 0, 0, []⟩).file, (M.recs.getD k ⟨0, 0, 0, []⟩).record, (M.recs.getD k ⟨0, 0, 0, []⟩).count])))) (ys := (putW ((M.recs.getD k ⟨0, 0, 0, []⟩).words))) (.int .u8 0) 1 r428 (rd427).rd (by (try simp only [List.length_append, List.length_cons, List.length_nil, putW_length]); omega) (le (le (le (le (le (le (le (le (le (le hu19.size hz29) hu54.size) hu57.size) hu212.size) hu367.size) hu375.size) hu388.size) hu396.size) hu409.size) hu422.size) fun A429 cp430 w431 ho432 hu433 => Pl 1 <| nl <| bn <| tn <| go <| L0 <| Oi (((k : Nat) : Int) + 1) <| Pl 1 <| nl <| ?_
 have U434 := ut0 U60 hu212
 have U435 := ut0 U434 hu367
 have U436 := ut0 U435 hu375
 have U437 := ut U436 hu388 (all_app (ob_new f30 lr) all0)
 have U438 := ut0 U437 hu396
 have U439 := ut U438 hu409 (all_app (ob_new ho387 lr) all0)
 have U440 := ut0 U439 hu422
 have U441 := ut U440 hu433 (all_app (ob_new ho408 lr) all0)
 exact lpe ((k + 1), (((L ++ [6]) ++ (putW ([(M.recs.getD k ⟨0, 0, 0, []⟩).file, (M.recs.getD k ⟨0, 0, 0, []⟩).record, (M.recs.getD k ⟨0, 0, 0, []⟩).count]))) ++ (putW ((M.recs.getD k ⟨0, 0, 0, []⟩).words))), A429, cp430) ⟨U441, (le (le (le (le (le (le (le (le (le (le hz29 hu54.size) hu57.size) hu212.size) hu367.size) hu375.size) hu388.size) hu396.size) hu409.size) hu422.size) hu433.size), ho432, (by (try dsimp only); omega), (by (try dsimp only); rw [← hL, filesB_drop dir M.code M.recs k (by omega)]; simp only [recB, hd0, q36, q66, bs, if_true, if_false, decide_true, decide_false, List.append_assoc]), (by (try dsimp only); have hv := hf.recw _ (getD_mem ⟨0, 0, 0, []⟩ M.recs k (by omega)); (try simp only [List.length_append, List.length_cons, List.length_nil, putW_length]); omega), (by (try dsimp only); (try simp only [List.length_append, List.length_cons, List.length_nil]); omega)⟩ (by omega)
 have q36p := of_decide_eq_false q36
 refine xt <| tx <| tx <| bx <| tn <| sg <| Pl 3 <| L0 <| Oi (((L.length : Nat) : Int) - 1) <| Pl 1 <| x23 (RdB.at_ (f30).rd 0 (by omega)) fun b442 o443 hA444 hl445 hr446 => L0 <| Oix L.length 0 hA444 (by omega) <| L0 <| Orow one_u8 (j := 0) f30 hA444 (by omega) ((((L.length : Nat) : Int) - 1) % 256) (fun _ => ⟨rfl, by omega⟩) fun w447 ho448 hu449 => nl <| ?_
 refine tn <| sg <| Pl 2 <| nt <| rt <| rr (.slice A L.length cp) <| ?_
 have hk : k = M.recs.length := by omega
 rw [hk, List.drop_length] at hL
 have hL2 : [0] ++ filesB dir M.code M.recs = L := by rw [← hL]; simp [filesB]
 have hs : filesLay dir M = (L.set 0 ((((L.length : Nat) : Int) - 1) % 256)) := by unfold filesLay; rw [hL2]
 rw [hs]
 have U450 := ut U35 hu449 (all_app (ob_new f30 hu14.size) all0)
 exact ⟨_, rfl, (OwnG.weaken ho448 hu14.size), U450⟩
theorem files_lay {m : Bool} {cs : Array Value} {M : Msg} {w : World} {dir : Int} (h : MsgRd m w cs.toList M) (hf : MsgFew M) : Calls Try.prog 69 #[.int .i64 dir, .agg cs] w (PLay (filesLay dir M) w) := by
  rcases bool_dich (dir == 0) with h0 | h0
  · exact files_lay_t h hf h0
  · exact files_lay_f h hf h0
open Go.RowKit
theorem wr_bad1 {parse : Int → Int → List Int → Msg × Int} {lay : Int → Msg → List Int} {dir E : Int} {M X : Msg} (hX : parse dir M.code (lay dir M) = (X, E)) (hE : (E != 0) = true) : writeOf parse lay dir M = none := by
  unfold writeOf
  rw [hX, if_neg]
  intro h
  injection h with h1 h2
  rw [h2] at hE
  cases hE
theorem wr_bad2 {parse : Int → Int → List Int → Msg × Int} {lay : Int → Msg → List Int} {dir E : Int} {M X : Msg} (hX : parse dir M.code (lay dir M) = (X, E)) (hE : decide (X = M) = false) : writeOf parse lay dir M = none := by
  unfold writeOf
  rw [hX, if_neg]
  intro h
  injection h with h1 h2
  rw [h1] at hE
  simp at hE
theorem wr_ok {parse : Int → Int → List Int → Msg × Int} {lay : Int → Msg → List Int} {dir E : Int} {M X : Msg} (hX : parse dir M.code (lay dir M) = (X, E)) (hE : (E != 0) = false) (h : decide (X = M) = true) : writeOf parse lay dir M = some (lay dir M) := by
  unfold writeOf
  have h1 : X = M := by simpa using h
  have h2 : E = 0 := by simpa using hE
  rw [hX, h1, h2, if_pos rfl]
theorem ws_eq {x y : Option (List Int)} (h : x = y) {w : World} {e : Ending} {w' : World} (k : PWrite y w e w') : PWrite x w e w' := by rw [h]; exact k
set_option maxRecDepth 100000 in
set_option maxHeartbeats 4000000 in
theorem coils_write {m : Bool} {cs : Array Value} {M : Msg} {w : World} {dir : Int} (h : MsgRd m w cs.toList M) (hf : MsgFew M) (hlen : (coilsLay dir M).length ≤ 1048576) : Calls Try.prog 38 #[.int .i64 dir, .agg cs] w (PWrite (writeOf parseCoils coilsLay dir M) w) := by
 have hM := h
 obtain ⟨vw, vb, vd, vr, vo, h0, hw, hbt, hd, hr, ho, hR⟩ := h
 obtain rfl : cs = (msgCells M vw vb vd vr vo).toArray := by apply Array.toList_inj.1; simpa using h0
 clear h0
 obtain ⟨Aw, kw, rfl, _, _⟩ := hw.shape
 obtain ⟨Ab, kb, rfl, _, _⟩ := hbt.shape
 obtain ⟨Ad, kd, rfl, _, _⟩ := hd.shape
 obtain ⟨Ar, kr, rfl, _, _⟩ := hr.shape
 obtain ⟨Ao, ko, rfl, _, _⟩ := ho.shape
 obtain ⟨q0, q1, q2, q3, q4, q5, q6, q7, q8, q9, q10, q11, q16, q17, q18, q19, q20⟩ := hR
 simp only [B8, B16] at q0 q1 q2 q3 q4 q5 q6 q7 q8 q9 q10 q11 q16 q17 q18 q19 q20
 refine en 29 Try.func38 rfl <| sg <| L0 <| Obx (mG M.code M.fail M.addr M.count M.value M.and_ M.or_ M.addr2 M.sub M.status M.events M.messages (.slice Aw M.words.length kw) (.slice Ab M.bits.length kb) (.slice Ad M.data.length kd) (.slice Ar M.recs.length kr) M.mei M.kind M.level M.more M.next (.slice Ao M.objects.length ko)) fun g10 w11 hg12 B13 hu14 => Pl 2 <| ng <| Pl 1 <| L0 <| Olw B13 <| ?_
 have r19 := MsgRd.old hM hu14
 refine L0 <| Oc <| so2 (coils_lay (dir := dir) r19 hf) fun A20 cp21 w15 rd24 hl22 hm23 hu18 => Pl 1 <| ng <| Pl 2 <| ?_
 have r25 := ub hu18 B13
 refine L0 <| Olb r25 0 <| Pl 1 <| ?_
 refine pr (parseCoils dir M.code (coilsLay dir M)) fun X26 E27 hX28 => ?_
 have hp33 : Calls _ _ _ _ (PMsg (parseCoils dir M.code (coilsLay dir M)) w15) := coils_parse (dir := dir) (c := M.code) q0 (rd24).rd hlen
 rw [hX28] at hp33
 refine L0 <| Oc <| e2 (hp33) fun cs30 w29 hM31 hu32 => Pl 3 <| L0 <| Oal mZ fun g34 w35 hg36 B37 hu38 => L0 <| Osw (hz := (by rw [hM31.size]; exact msg_size)) (hv := hM31.size) (h1 := hM31.one) B37 (cs30) fun w39 B40 hu41 => Pl 1 <| nt <| sq <| sg <| Pl 3 <| ?_
 have U42 := ut0 hu14 hu18
 have U43 := ut0 U42 hu32
 have U44 := ut0 U43 hu38
 have U45 := u1 U44 hu41 (ni U43.size hg36)
 refine bl 22 ((E27 != 0)) (fun q46 => ?_) (fun q46 => ?_)
 have q46p := ne_of_bnei q46
 refine Pl 5 <| nt <| c1 <| sg <| Pl 2 <| nt <| rt <| tr <| rr (.tuple #[.slice none 0 0, .int .i64 1]) <| ?_
 refine ws_eq (wr_bad1 hX28 q46) ?_
 exact ⟨rfl, U45⟩
 have q46p := eq_of_bnei q46
 refine L1 <| Olw (hz := (by rw [hM31.size]; exact msg_size)) B40 <| ?_
 have U47 := ut0 hu32 hu38
 have U48 := u1 U47 hu41 (ni hu32.size hg36)
 have r49 := ub U48 r25
 refine L1 <| Olw r49 <| ?_
 have U52 := u1 hu38 hu41 (nr hg36)
 have r53 := MsgRd.upd hM31 U52 safe0
 have U54 := ut0 hu18 hu32
 have U55 := ut0 U54 hu38
 have U56 := u1 U55 hu41 (ni U54.size hg36)
 have r57 := MsgRd.old r19 U56
 refine L1 <| Oc <| m1 (same_any (A := X26) (B := M) r53 r57) fun w50 hu51 => Pl 2 <| nt <| ?_
 have U58 := ut0 U45 hu51
 refine cb ((!(decide (X26 = M)))) (fun q59 => ?_) (fun q59 => ?_)
 have q59n : (decide (X26 = M)) = false := by simpa using q59
 have q59np := of_decide_eq_false q59n
 refine sg <| Pl 2 <| nt <| rt <| tr <| rr (.tuple #[.slice none 0 0, .int .i64 1]) <| ?_
 refine ws_eq (wr_bad2 hX28 q59n) ?_
 exact ⟨rfl, U58⟩
 have q59n : (decide (X26 = M)) = true := by simpa using q59
 have q59np := of_decide_eq_true q59n
 refine skn <| sg <| Pl 3 <| nt <| rt <| rr (.tuple #[.slice A20 ((coilsLay dir M).length) cp21, .int .i64 0]) <| ?_
 have U60 := ut0 U48 hu51
 have r61 := own_stay rd24 U60 (fun x hx => not0) (fun _ _ h => h)
 refine ws_eq (wr_ok hX28 q46 q59n) ?_
 exact ⟨_, rfl, (OwnG.weaken r61 hu14.size), U58⟩
set_option maxRecDepth 100000 in
set_option maxHeartbeats 4000000 in
theorem regs_write {m : Bool} {cs : Array Value} {M : Msg} {w : World} {dir : Int} (h : MsgRd m w cs.toList M) (hf : MsgFew M) (hlen : (regsLay dir M).length ≤ 1048576) : Calls Try.prog 40 #[.int .i64 dir, .agg cs] w (PWrite (writeOf parseRegs regsLay dir M) w) := by
 have hM := h
 obtain ⟨vw, vb, vd, vr, vo, h0, hw, hbt, hd, hr, ho, hR⟩ := h
 obtain rfl : cs = (msgCells M vw vb vd vr vo).toArray := by apply Array.toList_inj.1; simpa using h0
 clear h0
 obtain ⟨Aw, kw, rfl, _, _⟩ := hw.shape
 obtain ⟨Ab, kb, rfl, _, _⟩ := hbt.shape
 obtain ⟨Ad, kd, rfl, _, _⟩ := hd.shape
 obtain ⟨Ar, kr, rfl, _, _⟩ := hr.shape
 obtain ⟨Ao, ko, rfl, _, _⟩ := ho.shape
 obtain ⟨q0, q1, q2, q3, q4, q5, q6, q7, q8, q9, q10, q11, q16, q17, q18, q19, q20⟩ := hR
 simp only [B8, B16] at q0 q1 q2 q3 q4 q5 q6 q7 q8 q9 q10 q11 q16 q17 q18 q19 q20
 refine en 29 Try.func40 rfl <| sg <| L0 <| Obx (mG M.code M.fail M.addr M.count M.value M.and_ M.or_ M.addr2 M.sub M.status M.events M.messages (.slice Aw M.words.length kw) (.slice Ab M.bits.length kb) (.slice Ad M.data.length kd) (.slice Ar M.recs.length kr) M.mei M.kind M.level M.more M.next (.slice Ao M.objects.length ko)) fun g10 w11 hg12 B13 hu14 => Pl 2 <| ng <| Pl 1 <| L0 <| Olw B13 <| ?_
 have r19 := MsgRd.old hM hu14
 refine L0 <| Oc <| so2 (regs_lay (dir := dir) r19 hf) fun A20 cp21 w15 rd24 hl22 hm23 hu18 => Pl 1 <| ng <| Pl 2 <| ?_
 have r25 := ub hu18 B13
 refine L0 <| Olb r25 0 <| Pl 1 <| ?_
 refine pr (parseRegs dir M.code (regsLay dir M)) fun X26 E27 hX28 => ?_
 have hp33 : Calls _ _ _ _ (PMsg (parseRegs dir M.code (regsLay dir M)) w15) := regs_parse (dir := dir) (c := M.code) q0 (rd24).rd hlen
 rw [hX28] at hp33
 refine L0 <| Oc <| e2 (hp33) fun cs30 w29 hM31 hu32 => Pl 3 <| L0 <| Oal mZ fun g34 w35 hg36 B37 hu38 => L0 <| Osw (hz := (by rw [hM31.size]; exact msg_size)) (hv := hM31.size) (h1 := hM31.one) B37 (cs30) fun w39 B40 hu41 => Pl 1 <| nt <| sq <| sg <| Pl 3 <| ?_
 have U42 := ut0 hu14 hu18
 have U43 := ut0 U42 hu32
 have U44 := ut0 U43 hu38
 have U45 := u1 U44 hu41 (ni U43.size hg36)
 refine bl 22 ((E27 != 0)) (fun q46 => ?_) (fun q46 => ?_)
 have q46p := ne_of_bnei q46
 refine Pl 5 <| nt <| c1 <| sg <| Pl 2 <| nt <| rt <| tr <| rr (.tuple #[.slice none 0 0, .int .i64 1]) <| ?_
 refine ws_eq (wr_bad1 hX28 q46) ?_
 exact ⟨rfl, U45⟩
 have q46p := eq_of_bnei q46
 refine L1 <| Olw (hz := (by rw [hM31.size]; exact msg_size)) B40 <| ?_
 have U47 := ut0 hu32 hu38
 have U48 := u1 U47 hu41 (ni hu32.size hg36)
 have r49 := ub U48 r25
 refine L1 <| Olw r49 <| ?_
 have U52 := u1 hu38 hu41 (nr hg36)
 have r53 := MsgRd.upd hM31 U52 safe0
 have U54 := ut0 hu18 hu32
 have U55 := ut0 U54 hu38
 have U56 := u1 U55 hu41 (ni U54.size hg36)
 have r57 := MsgRd.old r19 U56
 refine L1 <| Oc <| m1 (same_any (A := X26) (B := M) r53 r57) fun w50 hu51 => Pl 2 <| nt <| ?_
 have U58 := ut0 U45 hu51
 refine cb ((!(decide (X26 = M)))) (fun q59 => ?_) (fun q59 => ?_)
 have q59n : (decide (X26 = M)) = false := by simpa using q59
 have q59np := of_decide_eq_false q59n
 refine sg <| Pl 2 <| nt <| rt <| tr <| rr (.tuple #[.slice none 0 0, .int .i64 1]) <| ?_
 refine ws_eq (wr_bad2 hX28 q59n) ?_
 exact ⟨rfl, U58⟩
 have q59n : (decide (X26 = M)) = true := by simpa using q59
 have q59np := of_decide_eq_true q59n
 refine skn <| sg <| Pl 3 <| nt <| rt <| rr (.tuple #[.slice A20 ((regsLay dir M).length) cp21, .int .i64 0]) <| ?_
 have U60 := ut0 U48 hu51
 have r61 := own_stay rd24 U60 (fun x hx => not0) (fun _ _ h => h)
 refine ws_eq (wr_ok hX28 q46 q59n) ?_
 exact ⟨_, rfl, (OwnG.weaken r61 hu14.size), U58⟩
set_option maxRecDepth 100000 in
set_option maxHeartbeats 4000000 in
theorem diag_write {m : Bool} {cs : Array Value} {M : Msg} {w : World} {dir : Int} (h : MsgRd m w cs.toList M) (hf : MsgFew M) (hlen : (diagLay dir M).length ≤ 1048576) : Calls Try.prog 42 #[.int .i64 dir, .agg cs] w (PWrite (writeOf parseDiag diagLay dir M) w) := by
 have hM := h
 obtain ⟨vw, vb, vd, vr, vo, h0, hw, hbt, hd, hr, ho, hR⟩ := h
 obtain rfl : cs = (msgCells M vw vb vd vr vo).toArray := by apply Array.toList_inj.1; simpa using h0
 clear h0
 obtain ⟨Aw, kw, rfl, _, _⟩ := hw.shape
 obtain ⟨Ab, kb, rfl, _, _⟩ := hbt.shape
 obtain ⟨Ad, kd, rfl, _, _⟩ := hd.shape
 obtain ⟨Ar, kr, rfl, _, _⟩ := hr.shape
 obtain ⟨Ao, ko, rfl, _, _⟩ := ho.shape
 obtain ⟨q0, q1, q2, q3, q4, q5, q6, q7, q8, q9, q10, q11, q16, q17, q18, q19, q20⟩ := hR
 simp only [B8, B16] at q0 q1 q2 q3 q4 q5 q6 q7 q8 q9 q10 q11 q16 q17 q18 q19 q20
 refine en 29 Try.func42 rfl <| sg <| L0 <| Obx (mG M.code M.fail M.addr M.count M.value M.and_ M.or_ M.addr2 M.sub M.status M.events M.messages (.slice Aw M.words.length kw) (.slice Ab M.bits.length kb) (.slice Ad M.data.length kd) (.slice Ar M.recs.length kr) M.mei M.kind M.level M.more M.next (.slice Ao M.objects.length ko)) fun g10 w11 hg12 B13 hu14 => Pl 2 <| ng <| Pl 1 <| L0 <| Olw B13 <| ?_
 have r19 := MsgRd.old hM hu14
 refine L0 <| Oc <| so2 (diag_lay (dir := dir) r19 hf) fun A20 cp21 w15 rd24 hl22 hm23 hu18 => Pl 1 <| ng <| Pl 2 <| ?_
 have r25 := ub hu18 B13
 refine L0 <| Olb r25 0 <| Pl 1 <| ?_
 refine pr (parseDiag dir M.code (diagLay dir M)) fun X26 E27 hX28 => ?_
 have hp33 : Calls _ _ _ _ (PMsg (parseDiag dir M.code (diagLay dir M)) w15) := diag_parse (dir := dir) (c := M.code) q0 (rd24).rd hlen
 rw [hX28] at hp33
 refine L0 <| Oc <| e2 (hp33) fun cs30 w29 hM31 hu32 => Pl 3 <| L0 <| Oal mZ fun g34 w35 hg36 B37 hu38 => L0 <| Osw (hz := (by rw [hM31.size]; exact msg_size)) (hv := hM31.size) (h1 := hM31.one) B37 (cs30) fun w39 B40 hu41 => Pl 1 <| nt <| sq <| sg <| Pl 3 <| ?_
 have U42 := ut0 hu14 hu18
 have U43 := ut0 U42 hu32
 have U44 := ut0 U43 hu38
 have U45 := u1 U44 hu41 (ni U43.size hg36)
 refine bl 22 ((E27 != 0)) (fun q46 => ?_) (fun q46 => ?_)
 have q46p := ne_of_bnei q46
 refine Pl 5 <| nt <| c1 <| sg <| Pl 2 <| nt <| rt <| tr <| rr (.tuple #[.slice none 0 0, .int .i64 1]) <| ?_
 refine ws_eq (wr_bad1 hX28 q46) ?_
 exact ⟨rfl, U45⟩
 have q46p := eq_of_bnei q46
 refine L1 <| Olw (hz := (by rw [hM31.size]; exact msg_size)) B40 <| ?_
 have U47 := ut0 hu32 hu38
 have U48 := u1 U47 hu41 (ni hu32.size hg36)
 have r49 := ub U48 r25
 refine L1 <| Olw r49 <| ?_
 have U52 := u1 hu38 hu41 (nr hg36)
 have r53 := MsgRd.upd hM31 U52 safe0
 have U54 := ut0 hu18 hu32
 have U55 := ut0 U54 hu38
 have U56 := u1 U55 hu41 (ni U54.size hg36)
 have r57 := MsgRd.old r19 U56
 refine L1 <| Oc <| m1 (same_any (A := X26) (B := M) r53 r57) fun w50 hu51 => Pl 2 <| nt <| ?_
 have U58 := ut0 U45 hu51
 refine cb ((!(decide (X26 = M)))) (fun q59 => ?_) (fun q59 => ?_)
 have q59n : (decide (X26 = M)) = false := by simpa using q59
 have q59np := of_decide_eq_false q59n
 refine sg <| Pl 2 <| nt <| rt <| tr <| rr (.tuple #[.slice none 0 0, .int .i64 1]) <| ?_
 refine ws_eq (wr_bad2 hX28 q59n) ?_
 exact ⟨rfl, U58⟩
 have q59n : (decide (X26 = M)) = true := by simpa using q59
 have q59np := of_decide_eq_true q59n
 refine skn <| sg <| Pl 3 <| nt <| rt <| rr (.tuple #[.slice A20 ((diagLay dir M).length) cp21, .int .i64 0]) <| ?_
 have U60 := ut0 U48 hu51
 have r61 := own_stay rd24 U60 (fun x hx => not0) (fun _ _ h => h)
 refine ws_eq (wr_ok hX28 q46 q59n) ?_
 exact ⟨_, rfl, (OwnG.weaken r61 hu14.size), U58⟩
set_option maxRecDepth 100000 in
set_option maxHeartbeats 4000000 in
theorem mei_write {m : Bool} {cs : Array Value} {M : Msg} {w : World} {dir : Int} (h : MsgRd m w cs.toList M) (hf : MsgFew M) (hlen : (meiLay dir M).length ≤ 1048576) : Calls Try.prog 46 #[.int .i64 dir, .agg cs] w (PWrite (writeOf parseMei meiLay dir M) w) := by
 have hM := h
 obtain ⟨vw, vb, vd, vr, vo, h0, hw, hbt, hd, hr, ho, hR⟩ := h
 obtain rfl : cs = (msgCells M vw vb vd vr vo).toArray := by apply Array.toList_inj.1; simpa using h0
 clear h0
 obtain ⟨Aw, kw, rfl, _, _⟩ := hw.shape
 obtain ⟨Ab, kb, rfl, _, _⟩ := hbt.shape
 obtain ⟨Ad, kd, rfl, _, _⟩ := hd.shape
 obtain ⟨Ar, kr, rfl, _, _⟩ := hr.shape
 obtain ⟨Ao, ko, rfl, _, _⟩ := ho.shape
 obtain ⟨q0, q1, q2, q3, q4, q5, q6, q7, q8, q9, q10, q11, q16, q17, q18, q19, q20⟩ := hR
 simp only [B8, B16] at q0 q1 q2 q3 q4 q5 q6 q7 q8 q9 q10 q11 q16 q17 q18 q19 q20
 refine en 29 Try.func46 rfl <| sg <| L0 <| Obx (mG M.code M.fail M.addr M.count M.value M.and_ M.or_ M.addr2 M.sub M.status M.events M.messages (.slice Aw M.words.length kw) (.slice Ab M.bits.length kb) (.slice Ad M.data.length kd) (.slice Ar M.recs.length kr) M.mei M.kind M.level M.more M.next (.slice Ao M.objects.length ko)) fun g10 w11 hg12 B13 hu14 => Pl 2 <| ng <| Pl 1 <| L0 <| Olw B13 <| ?_
 have r19 := MsgRd.old hM hu14
 refine L0 <| Oc <| so2 (mei_lay (dir := dir) r19 hf) fun A20 cp21 w15 rd24 hl22 hm23 hu18 => Pl 1 <| ng <| Pl 2 <| ?_
 have r25 := ub hu18 B13
 refine L0 <| Olb r25 0 <| Pl 1 <| ?_
 refine pr (parseMei dir M.code (meiLay dir M)) fun X26 E27 hX28 => ?_
 have hp33 : Calls _ _ _ _ (PMsg (parseMei dir M.code (meiLay dir M)) w15) := mei_parse (dir := dir) (c := M.code) q0 (rd24).rd hlen
 rw [hX28] at hp33
 refine L0 <| Oc <| e2 (hp33) fun cs30 w29 hM31 hu32 => Pl 3 <| L0 <| Oal mZ fun g34 w35 hg36 B37 hu38 => L0 <| Osw (hz := (by rw [hM31.size]; exact msg_size)) (hv := hM31.size) (h1 := hM31.one) B37 (cs30) fun w39 B40 hu41 => Pl 1 <| nt <| sq <| sg <| Pl 3 <| ?_
 have U42 := ut0 hu14 hu18
 have U43 := ut0 U42 hu32
 have U44 := ut0 U43 hu38
 have U45 := u1 U44 hu41 (ni U43.size hg36)
 refine bl 22 ((E27 != 0)) (fun q46 => ?_) (fun q46 => ?_)
 have q46p := ne_of_bnei q46
 refine Pl 5 <| nt <| c1 <| sg <| Pl 2 <| nt <| rt <| tr <| rr (.tuple #[.slice none 0 0, .int .i64 1]) <| ?_
 refine ws_eq (wr_bad1 hX28 q46) ?_
 exact ⟨rfl, U45⟩
 have q46p := eq_of_bnei q46
 refine L1 <| Olw (hz := (by rw [hM31.size]; exact msg_size)) B40 <| ?_
 have U47 := ut0 hu32 hu38
 have U48 := u1 U47 hu41 (ni hu32.size hg36)
 have r49 := ub U48 r25
 refine L1 <| Olw r49 <| ?_
 have U52 := u1 hu38 hu41 (nr hg36)
 have r53 := MsgRd.upd hM31 U52 safe0
 have U54 := ut0 hu18 hu32
 have U55 := ut0 U54 hu38
 have U56 := u1 U55 hu41 (ni U54.size hg36)
 have r57 := MsgRd.old r19 U56
 refine L1 <| Oc <| m1 (same_any (A := X26) (B := M) r53 r57) fun w50 hu51 => Pl 2 <| nt <| ?_
 have U58 := ut0 U45 hu51
 refine cb ((!(decide (X26 = M)))) (fun q59 => ?_) (fun q59 => ?_)
 have q59n : (decide (X26 = M)) = false := by simpa using q59
 have q59np := of_decide_eq_false q59n
 refine sg <| Pl 2 <| nt <| rt <| tr <| rr (.tuple #[.slice none 0 0, .int .i64 1]) <| ?_
 refine ws_eq (wr_bad2 hX28 q59n) ?_
 exact ⟨rfl, U58⟩
 have q59n : (decide (X26 = M)) = true := by simpa using q59
 have q59np := of_decide_eq_true q59n
 refine skn <| sg <| Pl 3 <| nt <| rt <| rr (.tuple #[.slice A20 ((meiLay dir M).length) cp21, .int .i64 0]) <| ?_
 have U60 := ut0 U48 hu51
 have r61 := own_stay rd24 U60 (fun x hx => not0) (fun _ _ h => h)
 refine ws_eq (wr_ok hX28 q46 q59n) ?_
 exact ⟨_, rfl, (OwnG.weaken r61 hu14.size), U58⟩
set_option maxRecDepth 100000 in
set_option maxHeartbeats 4000000 in
theorem files_write {m : Bool} {cs : Array Value} {M : Msg} {w : World} {dir : Int} (h : MsgRd m w cs.toList M) (hf : MsgFew M) (hlen : (filesLay dir M).length ≤ 1048576) : Calls Try.prog 44 #[.int .i64 dir, .agg cs] w (PWrite (writeOf parseFiles filesLay dir M) w) := by
 have hM := h
 obtain ⟨vw, vb, vd, vr, vo, h0, hw, hbt, hd, hr, ho, hR⟩ := h
 obtain rfl : cs = (msgCells M vw vb vd vr vo).toArray := by apply Array.toList_inj.1; simpa using h0
 clear h0
 obtain ⟨Aw, kw, rfl, _, _⟩ := hw.shape
 obtain ⟨Ab, kb, rfl, _, _⟩ := hbt.shape
 obtain ⟨Ad, kd, rfl, _, _⟩ := hd.shape
 obtain ⟨Ar, kr, rfl, _, _⟩ := hr.shape
 obtain ⟨Ao, ko, rfl, _, _⟩ := ho.shape
 obtain ⟨q0, q1, q2, q3, q4, q5, q6, q7, q8, q9, q10, q11, q16, q17, q18, q19, q20⟩ := hR
 simp only [B8, B16] at q0 q1 q2 q3 q4 q5 q6 q7 q8 q9 q10 q11 q16 q17 q18 q19 q20
 refine en 29 Try.func44 rfl <| sg <| L0 <| Obx (mG M.code M.fail M.addr M.count M.value M.and_ M.or_ M.addr2 M.sub M.status M.events M.messages (.slice Aw M.words.length kw) (.slice Ab M.bits.length kb) (.slice Ad M.data.length kd) (.slice Ar M.recs.length kr) M.mei M.kind M.level M.more M.next (.slice Ao M.objects.length ko)) fun g10 w11 hg12 B13 hu14 => Pl 2 <| ng <| Pl 1 <| L0 <| Olw B13 <| ?_
 have r19 := MsgRd.old hM hu14
 refine L0 <| Oc <| so2 (files_lay (dir := dir) r19 hf) fun A20 cp21 w15 rd24 hl22 hm23 hu18 => Pl 1 <| ng <| Pl 2 <| ?_
 have r25 := ub hu18 B13
 refine L0 <| Olb r25 0 <| Pl 1 <| ?_
 refine pr (parseFiles dir M.code (filesLay dir M)) fun X26 E27 hX28 => ?_
 have hp33 : Calls _ _ _ _ (PMsg (parseFiles dir M.code (filesLay dir M)) w15) := files_parse (dir := dir) (c := M.code) q0 (rd24).rd hlen
 rw [hX28] at hp33
 refine L0 <| Oc <| e2 (hp33) fun cs30 w29 hM31 hu32 => Pl 3 <| L0 <| Oal mZ fun g34 w35 hg36 B37 hu38 => L0 <| Osw (hz := (by rw [hM31.size]; exact msg_size)) (hv := hM31.size) (h1 := hM31.one) B37 (cs30) fun w39 B40 hu41 => Pl 1 <| nt <| sq <| sg <| Pl 3 <| ?_
 have U42 := ut0 hu14 hu18
 have U43 := ut0 U42 hu32
 have U44 := ut0 U43 hu38
 have U45 := u1 U44 hu41 (ni U43.size hg36)
 refine bl 22 ((E27 != 0)) (fun q46 => ?_) (fun q46 => ?_)
 have q46p := ne_of_bnei q46
 refine Pl 5 <| nt <| c1 <| sg <| Pl 2 <| nt <| rt <| tr <| rr (.tuple #[.slice none 0 0, .int .i64 1]) <| ?_
 refine ws_eq (wr_bad1 hX28 q46) ?_
 exact ⟨rfl, U45⟩
 have q46p := eq_of_bnei q46
 refine L1 <| Olw (hz := (by rw [hM31.size]; exact msg_size)) B40 <| ?_
 have U47 := ut0 hu32 hu38
 have U48 := u1 U47 hu41 (ni hu32.size hg36)
 have r49 := ub U48 r25
 refine L1 <| Olw r49 <| ?_
 have U52 := u1 hu38 hu41 (nr hg36)
 have r53 := MsgRd.upd hM31 U52 safe0
 have U54 := ut0 hu18 hu32
 have U55 := ut0 U54 hu38
 have U56 := u1 U55 hu41 (ni U54.size hg36)
 have r57 := MsgRd.old r19 U56
 refine L1 <| Oc <| m1 (same_any (A := X26) (B := M) r53 r57) fun w50 hu51 => Pl 2 <| nt <| ?_
 have U58 := ut0 U45 hu51
 refine cb ((!(decide (X26 = M)))) (fun q59 => ?_) (fun q59 => ?_)
 have q59n : (decide (X26 = M)) = false := by simpa using q59
 have q59np := of_decide_eq_false q59n
 refine sg <| Pl 2 <| nt <| rt <| tr <| rr (.tuple #[.slice none 0 0, .int .i64 1]) <| ?_
 refine ws_eq (wr_bad2 hX28 q59n) ?_
 exact ⟨rfl, U58⟩
 have q59n : (decide (X26 = M)) = true := by simpa using q59
 have q59np := of_decide_eq_true q59n
 refine skn <| sg <| Pl 3 <| nt <| rt <| rr (.tuple #[.slice A20 ((filesLay dir M).length) cp21, .int .i64 0]) <| ?_
 have U60 := ut0 U48 hu51
 have r61 := own_stay rd24 U60 (fun x hx => not0) (fun _ _ h => h)
 refine ws_eq (wr_ok hX28 q46 q59n) ?_
 exact ⟨_, rfl, (OwnG.weaken r61 hu14.size), U58⟩
open Go.RowKit
def famW : Nat → Int → Msg → Option (List Int)
  | 1, dir, M => writeOf parseCoils coilsLay dir M
  | 2, dir, M => writeOf parseRegs regsLay dir M
  | 3, dir, M => writeOf parseDiag diagLay dir M
  | 4, dir, M => writeOf parseFiles filesLay dir M
  | 5, dir, M => writeOf parseMei meiLay dir M
  | _, _, _ => none
def pduW (dir : Int) (M : Msg) : Option (List Int) :=
  if M.fail != 0 then (if dir != 1 then none else refW M)
  else match famW (cfam M.code) dir M with
    | none => none
    | some l => if decide (253 ≤ (l.length : Int)) then none else some ([M.code] ++ l)
theorem objB_len : ∀ (L : List Obj), (∀ r, r ∈ L → r.value.length ≤ 1024) → (objB L).length ≤ 1026 * L.length
  | [], _ => by simp [objB]
  | r :: L, h => by
    have h1 := h r (by simp)
    have h2 := objB_len L fun x hx => h x (by simp [hx])
    simp only [objB, List.length_append, List.length_cons, List.length_nil]
    omega
theorem filesB_len (dir c : Int) : ∀ (L : List Rec), (∀ r, r ∈ L → r.words.length ≤ 1024) → (filesB dir c L).length ≤ 2064 * L.length
  | [], _ => by simp [filesB]
  | r :: L, h => by
    have h1 := h r (by simp)
    have h2 := filesB_len dir c L fun x hx => h x (by simp [hx])
    simp only [filesB, recB]
    repeat' split
    all_goals simp only [List.length_append, List.length_cons, List.length_nil, putW_length]
    all_goals omega
theorem fam_len {M : Msg} (hf : MsgFew M) (dir : Int) : (coilsLay dir M).length ≤ 1048576 ∧ (regsLay dir M).length ≤ 1048576 ∧ (diagLay dir M).length ≤ 1048576 ∧ (meiLay dir M).length ≤ 1048576 ∧ (filesLay dir M).length ≤ 1048576 := by
  have hp : (packB M.bits).length ≤ 1024 := by
    have := hf.bits
    simp only [packB, List.length_map, List.length_range, many]
    omega
  have h1 := hf.words
  have h2 := hf.data
  have h3 := hf.objects
  have h4 := objB_len M.objects hf.objv
  have h5 := filesB_len dir M.code M.recs hf.recw
  have h6 := hf.recs
  refine ⟨?_, ?_, ?_, ?_, ?_⟩
  · unfold coilsLay
    repeat' split
    all_goals simp only [List.length_append, List.length_cons, List.length_nil, putW_length]
    all_goals omega
  · unfold regsLay
    repeat' split
    all_goals simp only [List.length_append, List.length_cons, List.length_nil, putW_length]
    all_goals omega
  · unfold diagLay
    repeat' split
    all_goals simp only [List.length_append, List.length_cons, List.length_nil, putW_length]
    all_goals omega
  · unfold meiLay
    repeat' split
    all_goals simp only [List.length_append, List.length_cons, List.length_nil]
    all_goals omega
  · unfold filesLay
    simp only [List.length_set, List.length_append, List.length_cons, List.length_nil]
    omega
set_option maxRecDepth 100000 in
set_option maxHeartbeats 4000000 in
theorem pdu_write {m : Bool} {cs : Array Value} {M : Msg} {w : World} {dir : Int} (h : MsgRd m w cs.toList M) (hf : MsgFew M) : Calls Try.prog 16 #[.int .i64 dir, .agg cs] w (PWrite (pduW dir M) w) := by
 have hM := h
 obtain ⟨vw, vb, vd, vr, vo, h0, hw, hbt, hd, hr, ho, hR⟩ := h
 obtain rfl : cs = (msgCells M vw vb vd vr vo).toArray := by apply Array.toList_inj.1; simpa using h0
 clear h0
 obtain ⟨Aw, kw, rfl, _, _⟩ := hw.shape
 obtain ⟨Ab, kb, rfl, _, _⟩ := hbt.shape
 obtain ⟨Ad, kd, rfl, _, _⟩ := hd.shape
 obtain ⟨Ar, kr, rfl, _, _⟩ := hr.shape
 obtain ⟨Ao, ko, rfl, _, _⟩ := ho.shape
 obtain ⟨q0, q1, q2, q3, q4, q5, q6, q7, q8, q9, q10, q11, q16, q17, q18, q19, q20⟩ := hR
 simp only [B8, B16] at q0 q1 q2 q3 q4 q5 q6 q7 q8 q9 q10 q11 q16 q17 q18 q19 q20
 refine en 47 Try.func16 rfl <| sg <| L0 <| Obx (mG M.code M.fail M.addr M.count M.value M.and_ M.or_ M.addr2 M.sub M.status M.events M.messages (.slice Aw M.words.length kw) (.slice Ab M.bits.length kb) (.slice Ad M.data.length kd) (.slice Ar M.recs.length kr) M.mei M.kind M.level M.more M.next (.slice Ao M.objects.length ko)) fun g10 w11 hg12 B13 hu14 => Pl 2 <| nt <| sq <| sg <| Pl 1 <| L0 <| Olb B13 1 <| Pl 1 <| nl <| ?_
 refine tn <| cb ((M.fail != 0)) (fun q15 => ?_) (fun q15 => ?_)
 have q15p := ne_of_bnei q15
 refine sq <| sg <| Pl 2 <| nt <| cb ((dir != 1)) (fun q16 => ?_) (fun q16 => ?_)
 have q16p := ne_of_bnei q16
 refine sg <| Pl 2 <| nt <| rt <| tr <| tr <| rr (.tuple #[.slice none 0 0, .int .i64 1]) <| ?_
 have hs : pduW dir M = none := by
   unfold pduW
   (try simp only [q15, q16, bs, if_true, if_false, decide_true, decide_false, reduceIte])
   all_goals rfl
 refine ns_eq hs ?_
 exact ⟨rfl, hu14⟩
 have q16p := eq_of_bnei q16
 refine skn <| sg <| L0 <| Olw B13 <| ?_
 rcases hwr : refW M with _ | lw
 have r20 := MsgRd.old hM hu14
 have hw17 := ref_write r20
 rw [hwr] at hw17
 refine L0 <| Oc <| m1 hw17 fun w18 hu19 => Pl 4 <| nt <| rt <| tr <| rr (.tuple #[.slice none 0 0, .int .i64 1]) <| ?_
 have hs : pduW dir M = none := by
   unfold pduW
   (try simp only [q15, q16, bs, if_true, if_false, decide_true, decide_false, hwr, reduceIte])
   all_goals rfl
 refine ns_eq hs ?_
 have U21 := ut0 hu14 hu19
 exact ⟨rfl, U21⟩
 have r25 := MsgRd.old hM hu14
 have hw22 := ref_write r25
 rw [hwr] at hw22
 refine L0 <| Oc <| so2 hw22 fun A28 cp29 w23 rd32 hl30 hm31 hu24 => Pl 4 <| nt <| rt <| tr <| rr (.tuple #[.slice A28 lw.length cp29, .int .i64 0]) <| ?_
 have hs : pduW dir M = (some lw) := by
   unfold pduW
   (try simp only [q15, q16, bs, if_true, if_false, decide_true, decide_false, hwr, reduceIte])
   all_goals rfl
 refine ns_eq hs ?_
 have U33 := ut0 hu14 hu24
 exact ⟨_, rfl, (OwnG.weaken rd32 hu14.size), U33⟩
 have q15p := eq_of_bnei q15
 refine skn <| sg <| Pl 1 <| L0 <| Olb B13 0 <| ?_
 rcases cfam_dich M.code with ⟨hk, hkf⟩ | ⟨hk, hkf⟩ | ⟨hk, hkf⟩ | ⟨hk, hkf⟩ | ⟨hk, hkf⟩ | ⟨hk, hkf⟩
 have ho34 := of_any (x := M.code) (w := w11)
 rw [hkf] at ho34
 refine L0 <| Oc <| m1 ho34 fun w35 hu36 => Pl 3 <| L0 <| Oal #[.nilFunc, .nilFunc] fun g37 w38 hg39 B40 hu41 => L0 <| Osw B40 #[.func (.func 37) #[] #[], .func (.func 38) #[] #[]] fun w42 B43 hu44 => Pl 1 <| nt <| sq <| sg <| Pl 2 <| nt <| c0 <| ?_
 refine skn <| sg <| Pl 1 <| L0 <| Olb B43 1 <| Pl 1 <| ?_
 have U45 := ut0 hu36 hu41
 have U46 := u1 U45 hu44 (ni hu36.size hg39)
 have r47 := ub U46 B13
 refine L0 <| Olw r47 <| ?_
 have U48 := ut0 hu14 hu36
 have U49 := ut0 U48 hu41
 have U50 := u1 U49 hu44 (ni U48.size hg39)
 rcases hwr : writeOf parseCoils coilsLay dir M with _ | lw
 have r54 := MsgRd.old hM U50
 have hw51 := coils_write (dir := dir) r54 hf (fam_len hf dir).1
 rw [hwr] at hw51
 refine L0 <| Ocv #[] #[] (args := #[.int .i64 dir, .agg (mG M.code M.fail M.addr M.count M.value M.and_ M.or_ M.addr2 M.sub M.status M.events M.messages (.slice Aw M.words.length kw) (.slice Ab M.bits.length kb) (.slice Ad M.data.length kd) (.slice Ar M.recs.length kr) M.mei M.kind M.level M.more M.next (.slice Ao M.objects.length ko))]) <| m1 hw51 fun w52 hu53 => Pl 5 <| nt <| sq <| sg <| Pl 7 <| nt <| c1 <| sg <| Pl 2 <| nl <| ?_
 refine tn <| rt <| tr <| rr (.tuple #[.slice none 0 0, .int .i64 1]) <| ?_
 have hs : pduW dir M = none := by
   unfold pduW
   (try simp only [q15, bs, if_true, if_false, decide_true, decide_false, hkf, famW, hwr, reduceIte])
   all_goals rfl
 refine ns_eq hs ?_
 have U55 := ut0 U50 hu53
 exact ⟨rfl, U55⟩
 have r59 := MsgRd.old hM U50
 have hw56 := coils_write (dir := dir) r59 hf (fam_len hf dir).1
 rw [hwr] at hw56
 refine L0 <| Ocv #[] #[] (args := #[.int .i64 dir, .agg (mG M.code M.fail M.addr M.count M.value M.and_ M.or_ M.addr2 M.sub M.status M.events M.messages (.slice Aw M.words.length kw) (.slice Ab M.bits.length kb) (.slice Ad M.data.length kd) (.slice Ar M.recs.length kr) M.mei M.kind M.level M.more M.next (.slice Ao M.objects.length ko))]) <| so2 hw56 fun A62 cp63 w57 rd66 hl64 hm65 hu58 => Pl 5 <| nt <| sq <| sg <| Pl 7 <| nt <| ?_
 have U67 := ut0 U50 hu58
 refine cb ((decide (253 ≤ ((lw.length : Nat) : Int)))) (fun q68 => ?_) (fun q68 => ?_)
 have q68p := of_decide_eq_true q68
 refine sg <| Pl 2 <| nt <| rt <| tr <| rr (.tuple #[.slice none 0 0, .int .i64 1]) <| ?_
 have hs : pduW dir M = none := by
   unfold pduW
   (try simp only [q15, q68, bs, if_true, if_false, decide_true, decide_false, hkf, famW, hwr, reduceIte])
   all_goals rfl
 refine ns_eq hs ?_
 exact ⟨rfl, U67⟩
 have q68p := of_decide_eq_false q68
 refine skn <| sg <| Pl 1 <| ?_
 have r69 := ub hu58 r47
 refine L0 <| Olb r69 0 <| L0 <| Olt (m := 1) (e := 5) #[.int .u8 M.code] fun g70 w71 hg72 B73 hu74 => ?_
 have ow75 := litB hg72 (xs := [M.code]) (by as_aux_lemma => kernel_rfl) (rng_cons (by omega) rng_nil) (by (try simp only [List.length_cons, List.length_nil]); omega) B73
 refine Pl 1 <| ?_
 have r76 := own_stay rd66 hu74 (fun x hx => not0) (fun _ _ h => h)
 refine L0 <| Oapp one_u8 (xs := ([M.code])) (ys := lw) (.int .u8 0) 1 ow75 (r76).rd (by (try simp only [List.length_append, List.length_cons, List.length_nil, putW_length]); omega) hu74.size fun A77 cp78 w79 ho80 hu81 => Pl 2 <| nt <| rt <| rr (.tuple #[.slice A77 (([M.code] ++ lw).length) cp78, .int .i64 0]) <| ?_
 have hs : pduW dir M = (some ([M.code] ++ lw)) := by
   unfold pduW
   (try simp only [q15, q68, bs, if_true, if_false, decide_true, decide_false, hkf, famW, hwr, reduceIte])
   all_goals rfl
 refine ns_eq hs ?_
 have U82 := ut0 U67 hu74
 have U83 := ut U82 hu81 (all_app (ob_new ow75 U67.size) all0)
 exact ⟨_, rfl, (OwnG.weaken ho80 U67.size), U83⟩
 have ho84 := of_any (x := M.code) (w := w11)
 rw [hkf] at ho84
 refine L0 <| Oc <| m1 ho84 fun w85 hu86 => Pl 3 <| L0 <| Oal #[.nilFunc, .nilFunc] fun g87 w88 hg89 B90 hu91 => L0 <| Osw B90 #[.func (.func 39) #[] #[], .func (.func 40) #[] #[]] fun w92 B93 hu94 => Pl 1 <| nt <| sq <| sg <| Pl 2 <| nt <| c0 <| ?_
 refine skn <| sg <| Pl 1 <| L0 <| Olb B93 1 <| Pl 1 <| ?_
 have U95 := ut0 hu86 hu91
 have U96 := u1 U95 hu94 (ni hu86.size hg89)
 have r97 := ub U96 B13
 refine L0 <| Olw r97 <| ?_
 have U98 := ut0 hu14 hu86
 have U99 := ut0 U98 hu91
 have U100 := u1 U99 hu94 (ni U98.size hg89)
 rcases hwr : writeOf parseRegs regsLay dir M with _ | lw
 have r104 := MsgRd.old hM U100
 have hw101 := regs_write (dir := dir) r104 hf (fam_len hf dir).2.1
 rw [hwr] at hw101
 refine L0 <| Ocv #[] #[] (args := #[.int .i64 dir, .agg (mG M.code M.fail M.addr M.count M.value M.and_ M.or_ M.addr2 M.sub M.status M.events M.messages (.slice Aw M.words.length kw) (.slice Ab M.bits.length kb) (.slice Ad M.data.length kd) (.slice Ar M.recs.length kr) M.mei M.kind M.level M.more M.next (.slice Ao M.objects.length ko))]) <| m1 hw101 fun w102 hu103 => Pl 5 <| nt <| sq <| sg <| Pl 7 <| nt <| c1 <| sg <| Pl 2 <| nl <| ?_
 refine tn <| rt <| tr <| rr (.tuple #[.slice none 0 0, .int .i64 1]) <| ?_
 have hs : pduW dir M = none := by
   unfold pduW
   (try simp only [q15, bs, if_true, if_false, decide_true, decide_false, hkf, famW, hwr, reduceIte])
   all_goals rfl
 refine ns_eq hs ?_
 have U105 := ut0 U100 hu103
 exact ⟨rfl, U105⟩
 have r109 := MsgRd.old hM U100
 have hw106 := regs_write (dir := dir) r109 hf (fam_len hf dir).2.1
 rw [hwr] at hw106
 refine L0 <| Ocv #[] #[] (args := #[.int .i64 dir, .agg (mG M.code M.fail M.addr M.count M.value M.and_ M.or_ M.addr2 M.sub M.status M.events M.messages (.slice Aw M.words.length kw) (.slice Ab M.bits.length kb) (.slice Ad M.data.length kd) (.slice Ar M.recs.length kr) M.mei M.kind M.level M.more M.next (.slice Ao M.objects.length ko))]) <| so2 hw106 fun A112 cp113 w107 rd116 hl114 hm115 hu108 => Pl 5 <| nt <| sq <| sg <| Pl 7 <| nt <| ?_
 have U117 := ut0 U100 hu108
 refine cb ((decide (253 ≤ ((lw.length : Nat) : Int)))) (fun q118 => ?_) (fun q118 => ?_)
 have q118p := of_decide_eq_true q118
 refine sg <| Pl 2 <| nt <| rt <| tr <| rr (.tuple #[.slice none 0 0, .int .i64 1]) <| ?_
 have hs : pduW dir M = none := by
   unfold pduW
   (try simp only [q15, q118, bs, if_true, if_false, decide_true, decide_false, hkf, famW, hwr, reduceIte])
   all_goals rfl
 refine ns_eq hs ?_
 exact ⟨rfl, U117⟩
 have q118p := of_decide_eq_false q118
 refine skn <| sg <| Pl 1 <| ?_
 have r119 := ub hu108 r97
 refine L0 <| Olb r119 0 <| L0 <| Olt (m := 1) (e := 5) #[.int .u8 M.code] fun g120 w121 hg122 B123 hu124 => ?_
 have ow125 := litB hg122 (xs := [M.code]) (by as_aux_lemma => kernel_rfl) (rng_cons (by omega) rng_nil) (by (try simp only [List.length_cons, List.length_nil]); omega) B123
 refine Pl 1 <| ?_
 have r126 := own_stay rd116 hu124 (fun x hx => not0) (fun _ _ h => h)
 refine L0 <| Oapp one_u8 (xs := ([M.code])) (ys := lw) (.int .u8 0) 1 ow125 (r126).rd (by (try simp only [List.length_append, List.length_cons, List.length_nil, putW_length]); omega) hu124.size fun A127 cp128 w129 ho130 hu131 => Pl 2 <| nt <| rt <| rr (.tuple #[.slice A127 (([M.code] ++ lw).length) cp128, .int .i64 0]) <| ?_
 have hs : pduW dir M = (some ([M.code] ++ lw)) := by
   unfold pduW
   (try simp only [q15, q118, bs, if_true, if_false, decide_true, decide_false, hkf, famW, hwr, reduceIte])
   all_goals rfl
 refine ns_eq hs ?_
 have U132 := ut0 U117 hu124
 have U133 := ut U132 hu131 (all_app (ob_new ow125 U117.size) all0)
 exact ⟨_, rfl, (OwnG.weaken ho130 U117.size), U133⟩
 have ho134 := of_any (x := M.code) (w := w11)
 rw [hkf] at ho134
 refine L0 <| Oc <| m1 ho134 fun w135 hu136 => Pl 3 <| L0 <| Oal #[.nilFunc, .nilFunc] fun g137 w138 hg139 B140 hu141 => L0 <| Osw B140 #[.func (.func 41) #[] #[], .func (.func 42) #[] #[]] fun w142 B143 hu144 => Pl 1 <| nt <| sq <| sg <| Pl 2 <| nt <| c0 <| ?_
 refine skn <| sg <| Pl 1 <| L0 <| Olb B143 1 <| Pl 1 <| ?_
 have U145 := ut0 hu136 hu141
 have U146 := u1 U145 hu144 (ni hu136.size hg139)
 have r147 := ub U146 B13
 refine L0 <| Olw r147 <| ?_
 have U148 := ut0 hu14 hu136
 have U149 := ut0 U148 hu141
 have U150 := u1 U149 hu144 (ni U148.size hg139)
 rcases hwr : writeOf parseDiag diagLay dir M with _ | lw
 have r154 := MsgRd.old hM U150
 have hw151 := diag_write (dir := dir) r154 hf (fam_len hf dir).2.2.1
 rw [hwr] at hw151
 refine L0 <| Ocv #[] #[] (args := #[.int .i64 dir, .agg (mG M.code M.fail M.addr M.count M.value M.and_ M.or_ M.addr2 M.sub M.status M.events M.messages (.slice Aw M.words.length kw) (.slice Ab M.bits.length kb) (.slice Ad M.data.length kd) (.slice Ar M.recs.length kr) M.mei M.kind M.level M.more M.next (.slice Ao M.objects.length ko))]) <| m1 hw151 fun w152 hu153 => Pl 5 <| nt <| sq <| sg <| Pl 7 <| nt <| c1 <| sg <| Pl 2 <| nl <| ?_
 refine tn <| rt <| tr <| rr (.tuple #[.slice none 0 0, .int .i64 1]) <| ?_
 have hs : pduW dir M = none := by
   unfold pduW
   (try simp only [q15, bs, if_true, if_false, decide_true, decide_false, hkf, famW, hwr, reduceIte])
   all_goals rfl
 refine ns_eq hs ?_
 have U155 := ut0 U150 hu153
 exact ⟨rfl, U155⟩
 have r159 := MsgRd.old hM U150
 have hw156 := diag_write (dir := dir) r159 hf (fam_len hf dir).2.2.1
 rw [hwr] at hw156
 refine L0 <| Ocv #[] #[] (args := #[.int .i64 dir, .agg (mG M.code M.fail M.addr M.count M.value M.and_ M.or_ M.addr2 M.sub M.status M.events M.messages (.slice Aw M.words.length kw) (.slice Ab M.bits.length kb) (.slice Ad M.data.length kd) (.slice Ar M.recs.length kr) M.mei M.kind M.level M.more M.next (.slice Ao M.objects.length ko))]) <| so2 hw156 fun A162 cp163 w157 rd166 hl164 hm165 hu158 => Pl 5 <| nt <| sq <| sg <| Pl 7 <| nt <| ?_
 have U167 := ut0 U150 hu158
 refine cb ((decide (253 ≤ ((lw.length : Nat) : Int)))) (fun q168 => ?_) (fun q168 => ?_)
 have q168p := of_decide_eq_true q168
 refine sg <| Pl 2 <| nt <| rt <| tr <| rr (.tuple #[.slice none 0 0, .int .i64 1]) <| ?_
 have hs : pduW dir M = none := by
   unfold pduW
   (try simp only [q15, q168, bs, if_true, if_false, decide_true, decide_false, hkf, famW, hwr, reduceIte])
   all_goals rfl
 refine ns_eq hs ?_
 exact ⟨rfl, U167⟩
 have q168p := of_decide_eq_false q168
 refine skn <| sg <| Pl 1 <| ?_
 have r169 := ub hu158 r147
 refine L0 <| Olb r169 0 <| L0 <| Olt (m := 1) (e := 5) #[.int .u8 M.code] fun g170 w171 hg172 B173 hu174 => ?_
 have ow175 := litB hg172 (xs := [M.code]) (by as_aux_lemma => kernel_rfl) (rng_cons (by omega) rng_nil) (by (try simp only [List.length_cons, List.length_nil]); omega) B173
 refine Pl 1 <| ?_
 have r176 := own_stay rd166 hu174 (fun x hx => not0) (fun _ _ h => h)
 refine L0 <| Oapp one_u8 (xs := ([M.code])) (ys := lw) (.int .u8 0) 1 ow175 (r176).rd (by (try simp only [List.length_append, List.length_cons, List.length_nil, putW_length]); omega) hu174.size fun A177 cp178 w179 ho180 hu181 => Pl 2 <| nt <| rt <| rr (.tuple #[.slice A177 (([M.code] ++ lw).length) cp178, .int .i64 0]) <| ?_
 have hs : pduW dir M = (some ([M.code] ++ lw)) := by
   unfold pduW
   (try simp only [q15, q168, bs, if_true, if_false, decide_true, decide_false, hkf, famW, hwr, reduceIte])
   all_goals rfl
 refine ns_eq hs ?_
 have U182 := ut0 U167 hu174
 have U183 := ut U182 hu181 (all_app (ob_new ow175 U167.size) all0)
 exact ⟨_, rfl, (OwnG.weaken ho180 U167.size), U183⟩
 have ho184 := of_any (x := M.code) (w := w11)
 rw [hkf] at ho184
 refine L0 <| Oc <| m1 ho184 fun w185 hu186 => Pl 3 <| L0 <| Oal #[.nilFunc, .nilFunc] fun g187 w188 hg189 B190 hu191 => L0 <| Osw B190 #[.func (.func 43) #[] #[], .func (.func 44) #[] #[]] fun w192 B193 hu194 => Pl 1 <| nt <| sq <| sg <| Pl 2 <| nt <| c0 <| ?_
 refine skn <| sg <| Pl 1 <| L0 <| Olb B193 1 <| Pl 1 <| ?_
 have U195 := ut0 hu186 hu191
 have U196 := u1 U195 hu194 (ni hu186.size hg189)
 have r197 := ub U196 B13
 refine L0 <| Olw r197 <| ?_
 have U198 := ut0 hu14 hu186
 have U199 := ut0 U198 hu191
 have U200 := u1 U199 hu194 (ni U198.size hg189)
 rcases hwr : writeOf parseFiles filesLay dir M with _ | lw
 have r204 := MsgRd.old hM U200
 have hw201 := files_write (dir := dir) r204 hf (fam_len hf dir).2.2.2.2
 rw [hwr] at hw201
 refine L0 <| Ocv #[] #[] (args := #[.int .i64 dir, .agg (mG M.code M.fail M.addr M.count M.value M.and_ M.or_ M.addr2 M.sub M.status M.events M.messages (.slice Aw M.words.length kw) (.slice Ab M.bits.length kb) (.slice Ad M.data.length kd) (.slice Ar M.recs.length kr) M.mei M.kind M.level M.more M.next (.slice Ao M.objects.length ko))]) <| m1 hw201 fun w202 hu203 => Pl 5 <| nt <| sq <| sg <| Pl 7 <| nt <| c1 <| sg <| Pl 2 <| nl <| ?_
 refine tn <| rt <| tr <| rr (.tuple #[.slice none 0 0, .int .i64 1]) <| ?_
 have hs : pduW dir M = none := by
   unfold pduW
   (try simp only [q15, bs, if_true, if_false, decide_true, decide_false, hkf, famW, hwr, reduceIte])
   all_goals rfl
 refine ns_eq hs ?_
 have U205 := ut0 U200 hu203
 exact ⟨rfl, U205⟩
 have r209 := MsgRd.old hM U200
 have hw206 := files_write (dir := dir) r209 hf (fam_len hf dir).2.2.2.2
 rw [hwr] at hw206
 refine L0 <| Ocv #[] #[] (args := #[.int .i64 dir, .agg (mG M.code M.fail M.addr M.count M.value M.and_ M.or_ M.addr2 M.sub M.status M.events M.messages (.slice Aw M.words.length kw) (.slice Ab M.bits.length kb) (.slice Ad M.data.length kd) (.slice Ar M.recs.length kr) M.mei M.kind M.level M.more M.next (.slice Ao M.objects.length ko))]) <| so2 hw206 fun A212 cp213 w207 rd216 hl214 hm215 hu208 => Pl 5 <| nt <| sq <| sg <| Pl 7 <| nt <| ?_
 have U217 := ut0 U200 hu208
 refine cb ((decide (253 ≤ ((lw.length : Nat) : Int)))) (fun q218 => ?_) (fun q218 => ?_)
 have q218p := of_decide_eq_true q218
 refine sg <| Pl 2 <| nt <| rt <| tr <| rr (.tuple #[.slice none 0 0, .int .i64 1]) <| ?_
 have hs : pduW dir M = none := by
   unfold pduW
   (try simp only [q15, q218, bs, if_true, if_false, decide_true, decide_false, hkf, famW, hwr, reduceIte])
   all_goals rfl
 refine ns_eq hs ?_
 exact ⟨rfl, U217⟩
 have q218p := of_decide_eq_false q218
 refine skn <| sg <| Pl 1 <| ?_
 have r219 := ub hu208 r197
 refine L0 <| Olb r219 0 <| L0 <| Olt (m := 1) (e := 5) #[.int .u8 M.code] fun g220 w221 hg222 B223 hu224 => ?_
 have ow225 := litB hg222 (xs := [M.code]) (by as_aux_lemma => kernel_rfl) (rng_cons (by omega) rng_nil) (by (try simp only [List.length_cons, List.length_nil]); omega) B223
 refine Pl 1 <| ?_
 have r226 := own_stay rd216 hu224 (fun x hx => not0) (fun _ _ h => h)
 refine L0 <| Oapp one_u8 (xs := ([M.code])) (ys := lw) (.int .u8 0) 1 ow225 (r226).rd (by (try simp only [List.length_append, List.length_cons, List.length_nil, putW_length]); omega) hu224.size fun A227 cp228 w229 ho230 hu231 => Pl 2 <| nt <| rt <| rr (.tuple #[.slice A227 (([M.code] ++ lw).length) cp228, .int .i64 0]) <| ?_
 have hs : pduW dir M = (some ([M.code] ++ lw)) := by
   unfold pduW
   (try simp only [q15, q218, bs, if_true, if_false, decide_true, decide_false, hkf, famW, hwr, reduceIte])
   all_goals rfl
 refine ns_eq hs ?_
 have U232 := ut0 U217 hu224
 have U233 := ut U232 hu231 (all_app (ob_new ow225 U217.size) all0)
 exact ⟨_, rfl, (OwnG.weaken ho230 U217.size), U233⟩
 have ho234 := of_any (x := M.code) (w := w11)
 rw [hkf] at ho234
 refine L0 <| Oc <| m1 ho234 fun w235 hu236 => Pl 3 <| L0 <| Oal #[.nilFunc, .nilFunc] fun g237 w238 hg239 B240 hu241 => L0 <| Osw B240 #[.func (.func 45) #[] #[], .func (.func 46) #[] #[]] fun w242 B243 hu244 => Pl 1 <| nt <| sq <| sg <| Pl 2 <| nt <| c0 <| ?_
 refine skn <| sg <| Pl 1 <| L0 <| Olb B243 1 <| Pl 1 <| ?_
 have U245 := ut0 hu236 hu241
 have U246 := u1 U245 hu244 (ni hu236.size hg239)
 have r247 := ub U246 B13
 refine L0 <| Olw r247 <| ?_
 have U248 := ut0 hu14 hu236
 have U249 := ut0 U248 hu241
 have U250 := u1 U249 hu244 (ni U248.size hg239)
 rcases hwr : writeOf parseMei meiLay dir M with _ | lw
 have r254 := MsgRd.old hM U250
 have hw251 := mei_write (dir := dir) r254 hf (fam_len hf dir).2.2.2.1
 rw [hwr] at hw251
 refine L0 <| Ocv #[] #[] (args := #[.int .i64 dir, .agg (mG M.code M.fail M.addr M.count M.value M.and_ M.or_ M.addr2 M.sub M.status M.events M.messages (.slice Aw M.words.length kw) (.slice Ab M.bits.length kb) (.slice Ad M.data.length kd) (.slice Ar M.recs.length kr) M.mei M.kind M.level M.more M.next (.slice Ao M.objects.length ko))]) <| m1 hw251 fun w252 hu253 => Pl 5 <| nt <| sq <| sg <| Pl 7 <| nt <| c1 <| sg <| Pl 2 <| nl <| ?_
 refine tn <| rt <| tr <| rr (.tuple #[.slice none 0 0, .int .i64 1]) <| ?_
 have hs : pduW dir M = none := by
   unfold pduW
   (try simp only [q15, bs, if_true, if_false, decide_true, decide_false, hkf, famW, hwr, reduceIte])
   all_goals rfl
 refine ns_eq hs ?_
 have U255 := ut0 U250 hu253
 exact ⟨rfl, U255⟩
 have r259 := MsgRd.old hM U250
 have hw256 := mei_write (dir := dir) r259 hf (fam_len hf dir).2.2.2.1
 rw [hwr] at hw256
 refine L0 <| Ocv #[] #[] (args := #[.int .i64 dir, .agg (mG M.code M.fail M.addr M.count M.value M.and_ M.or_ M.addr2 M.sub M.status M.events M.messages (.slice Aw M.words.length kw) (.slice Ab M.bits.length kb) (.slice Ad M.data.length kd) (.slice Ar M.recs.length kr) M.mei M.kind M.level M.more M.next (.slice Ao M.objects.length ko))]) <| so2 hw256 fun A262 cp263 w257 rd266 hl264 hm265 hu258 => Pl 5 <| nt <| sq <| sg <| Pl 7 <| nt <| ?_
 have U267 := ut0 U250 hu258
 refine cb ((decide (253 ≤ ((lw.length : Nat) : Int)))) (fun q268 => ?_) (fun q268 => ?_)
 have q268p := of_decide_eq_true q268
 refine sg <| Pl 2 <| nt <| rt <| tr <| rr (.tuple #[.slice none 0 0, .int .i64 1]) <| ?_
 have hs : pduW dir M = none := by
   unfold pduW
   (try simp only [q15, q268, bs, if_true, if_false, decide_true, decide_false, hkf, famW, hwr, reduceIte])
   all_goals rfl
 refine ns_eq hs ?_
 exact ⟨rfl, U267⟩
 have q268p := of_decide_eq_false q268
 refine skn <| sg <| Pl 1 <| ?_
 have r269 := ub hu258 r247
 refine L0 <| Olb r269 0 <| L0 <| Olt (m := 1) (e := 5) #[.int .u8 M.code] fun g270 w271 hg272 B273 hu274 => ?_
 have ow275 := litB hg272 (xs := [M.code]) (by as_aux_lemma => kernel_rfl) (rng_cons (by omega) rng_nil) (by (try simp only [List.length_cons, List.length_nil]); omega) B273
 refine Pl 1 <| ?_
 have r276 := own_stay rd266 hu274 (fun x hx => not0) (fun _ _ h => h)
 refine L0 <| Oapp one_u8 (xs := ([M.code])) (ys := lw) (.int .u8 0) 1 ow275 (r276).rd (by (try simp only [List.length_append, List.length_cons, List.length_nil, putW_length]); omega) hu274.size fun A277 cp278 w279 ho280 hu281 => Pl 2 <| nt <| rt <| rr (.tuple #[.slice A277 (([M.code] ++ lw).length) cp278, .int .i64 0]) <| ?_
 have hs : pduW dir M = (some ([M.code] ++ lw)) := by
   unfold pduW
   (try simp only [q15, q268, bs, if_true, if_false, decide_true, decide_false, hkf, famW, hwr, reduceIte])
   all_goals rfl
 refine ns_eq hs ?_
 have U282 := ut0 U267 hu274
 have U283 := ut U282 hu281 (all_app (ob_new ow275 U267.size) all0)
 exact ⟨_, rfl, (OwnG.weaken ho280 U267.size), U283⟩
 have ho284 := of_any (x := M.code) (w := w11)
 rw [hkf] at ho284
 refine L0 <| Oc <| m1 ho284 fun w285 hu286 => Pl 3 <| L0 <| Oal #[.nilFunc, .nilFunc] fun g287 w288 hg289 B290 hu291 => L0 <| Osw B290 #[.nilFunc, .nilFunc] fun w292 B293 hu294 => Pl 1 <| nt <| sq <| sg <| Pl 2 <| nt <| c1 <| ?_
 refine sg <| Pl 2 <| nt <| rt <| tr <| rr (.tuple #[.slice none 0 0, .int .i64 1]) <| ?_
 have hs : pduW dir M = none := by
   unfold pduW
   (try simp only [q15, bs, if_true, if_false, decide_true, decide_false, hkf, famW, reduceIte])
   all_goals rfl
 refine ns_eq hs ?_
 have U295 := ut0 hu14 hu286
 have U296 := ut0 U295 hu291
 have U297 := u1 U296 hu294 (ni U295.size hg289)
 exact ⟨rfl, U297⟩
open Go.RowKit
def awM1 : Msg := { Msg.zero with code := 3, addr := 107, count := 3 }
def awM2 : Msg := { Msg.zero with code := 3, fail := 2 }
theorem aw1 : pduP 0 [3, 0, 107, 0, 3] = (awM1, 0) := by decide +kernel
theorem aw2 : pduP 1 [131, 2] = (awM2, 0) := by decide +kernel
theorem aw3 : pduW 0 awM1 = some [3, 0, 107, 0, 3] := by decide +kernel
theorem awFew : MsgFew awM1 := ⟨by decide, by decide, by decide, by decide, (fun r h => nomatch h), by decide, (fun r h => nomatch h)⟩
set_option maxRecDepth 100000 in
set_option maxHeartbeats 4000000 in
theorem awake14 {w : World} : Calls Try.prog 13 #[] w (PVal (.bool true) w) := by
 refine en 62 Try.func13 rfl <| sg <| Pl 1 <| ng <| L0 <| Olt (m := 5) (e := 5) #[.int .u8 3, .int .u8 0, .int .u8 107, .int .u8 0, .int .u8 3] fun g10 w11 hg12 B13 hu14 => ?_
 have ow15 := litB hg12 (xs := [3, 0, 107, 0, 3]) (by as_aux_lemma => kernel_rfl) (rng_cons (by omega) (rng_cons (by omega) (rng_cons (by omega) (rng_cons (by omega) (rng_cons (by omega) rng_nil))))) (by (try simp only [List.length_cons, List.length_nil]); omega) B13
 have hp16 := pdu_parse (dir := 0) (w := w11) (ow15).rd (by decide)
 rw [aw1] at hp16
 refine L0 <| Oc <| e2 hp16 fun cs18 w17 hM19 hu21 => ?_
 have hM20 := hM19
 obtain ⟨v24, v25, v26, v27, v28, h22, h29, h30, h31, h32, h33, hR23⟩ := hM20
 obtain rfl : cs18 = (msgCells awM1 v24 v25 v26 v27 v28).toArray := by apply Array.toList_inj.1; simpa using h22
 obtain ⟨A34, k35, rfl, _, _⟩ := h29.shape
 obtain ⟨A36, k37, rfl, _, _⟩ := h30.shape
 obtain ⟨A38, k39, rfl, _, _⟩ := h31.shape
 obtain ⟨A40, k41, rfl, _, _⟩ := h32.shape
 obtain ⟨A42, k43, rfl, _, _⟩ := h33.shape
 refine Pl 3 <| L0 <| Oal mZ fun g44 w45 hg46 B47 hu48 => L0 <| Osw B47 (mG 3 0 107 3 0 0 0 0 0 0 0 0 (.slice A34 awM1.words.length k35) (.slice A36 awM1.bits.length k37) (.slice A38 awM1.data.length k39) (.slice A40 awM1.recs.length k41) 0 0 0 0 0 (.slice A42 awM1.objects.length k43)) fun w49 B50 hu51 => Pl 1 <| ng <| L0 <| Olt (m := 2) (e := 5) #[.int .u8 131, .int .u8 2] fun g52 w53 hg54 B55 hu56 => ?_
 have ow57 := litB hg54 (xs := [131, 2]) (by as_aux_lemma => kernel_rfl) (rng_cons (by omega) (rng_cons (by omega) rng_nil)) (by (try simp only [List.length_cons, List.length_nil]); omega) B55
 have hp58 := pdu_parse (dir := 1) (w := w53) (ow57).rd (by decide)
 rw [aw2] at hp58
 refine L0 <| Oc <| e2 hp58 fun cs60 w59 hM61 hu63 => ?_
 have hM62 := hM61
 obtain ⟨v66, v67, v68, v69, v70, h64, h71, h72, h73, h74, h75, hR65⟩ := hM62
 obtain rfl : cs60 = (msgCells awM2 v66 v67 v68 v69 v70).toArray := by apply Array.toList_inj.1; simpa using h64
 obtain ⟨A76, k77, rfl, _, _⟩ := h71.shape
 obtain ⟨A78, k79, rfl, _, _⟩ := h72.shape
 obtain ⟨A80, k81, rfl, _, _⟩ := h73.shape
 obtain ⟨A82, k83, rfl, _, _⟩ := h74.shape
 obtain ⟨A84, k85, rfl, _, _⟩ := h75.shape
 refine Pl 3 <| L0 <| Oal mZ fun g86 w87 hg88 B89 hu90 => L0 <| Osw B89 (mG 3 2 0 0 0 0 0 0 0 0 0 0 (.slice A76 awM2.words.length k77) (.slice A78 awM2.bits.length k79) (.slice A80 awM2.data.length k81) (.slice A82 awM2.recs.length k83) 0 0 0 0 0 (.slice A84 awM2.objects.length k85)) fun w91 B92 hu93 => Pl 1 <| ng <| ?_
 have U94 := ut0 hu56 hu63
 have U95 := ut0 U94 hu90
 have U96 := u1 U95 hu93 (ni U94.size hg88)
 have r97 := ub U96 B50
 refine L0 <| Olw r97 <| ?_
 have U103 := u1 hu48 hu51 (nr hg46)
 have U104 := ut0 U103 hu56
 have U105 := ut0 U104 hu63
 have U106 := ut0 U105 hu90
 have U107 := u1 U106 hu93 (ni U105.size hg88)
 have r108 := MsgRd.upd hM19 U107 safe0
 have hw98 := pdu_write (dir := 0) r108 awFew
 rw [aw3] at hw98
 refine L0 <| Oc <| so2 hw98 fun A109 cp110 w99 rd113 hl111 hm112 hu102 => Pl 5 <| ng <| Pl 4 <| ?_
 have r114 := ub hu102 r97
 refine L1 <| Olb r114 0 <| Pl 4 <| L1 <| Olb r114 2 <| Pl 4 <| L1 <| Olb r114 3 <| Pl 8 <| ?_
 have r115 := ub hu102 B92
 refine L1 <| Olb r115 0 <| Pl 4 <| L1 <| Olb r115 1 <| Pl 8 <| L1 <| Or_ (.string (strOfNums ([3, 0, 107, 0, 3]))) (run_convB (A := A109) (n := [3, 0, 107, 0, 3].length) (c := cp110) rfl (by kernel_rfl) Try.underlying22 Try.underlying5 Try.underlying9 (rd113).rd) <| L1 <| Or_ (.bool true) (run_strq (a := (strOfNums ([3, 0, 107, 0, 3]))) (b := ⟨#[3, 0, 107, 0, 3]⟩) rfl (by kernel_rfl) (by kernel_rfl) (str_lit rfl (by decide))) <| Pl 2 <| nt <| rt <| rr (.bool true) <| ?_
 have U116 := ut0 hu14 hu21
 have U117 := ut0 U116 hu48
 have U118 := u1 U117 hu51 (ni U116.size hg46)
 have U119 := ut0 U118 hu56
 have U120 := ut0 U119 hu63
 have U121 := ut0 U120 hu90
 have U122 := u1 U121 hu93 (ni U120.size hg88)
 have U123 := ut0 U122 hu102
 exact ⟨rfl, U123⟩
end Go.Proofs.Ytbaeecmamacphaa
namespace Go.Proofs.Ytbaeecmamacphaa
def N1 (C : Cur) : Prop := C.e ≠ 1
theorem N1.need {C : Cur} {b : Bool} {x : Int} (hx : x ≠ 1) (h : N1 C) : N1 (C.need b x) := by
  unfold N1 Cur.need at *
  split
  · exact hx
  · exact h
theorem N1.bytesC {C : Cur} {n : Int} (h : N1 C) : N1 (C.bytesC n) := by
  unfold Cur.bytesC
  split
  · exact N1.need (by decide) h
  · exact h
theorem N1.wordsC {C : Cur} {n : Int} (h : N1 C) : N1 (C.wordsC n) := by
  unfold Cur.wordsC
  split <;> exact N1.bytesC h
theorem N1.recs {one : Int → Cur → Int × Cur × Rec} (ho : ∀ s C, N1 C → N1 (one s C).2.1) : ∀ (n : Nat) (s : Int) (C : Cur) (L : List Rec), N1 C → N1 (recsR one n s C L).1
  | 0, _, _, _, h => h
  | n + 1, s, C, L, h => by
    unfold recsR
    split
    · split
      · exact ho s C h
      · exact N1.recs ho n _ _ _ (ho s C h)
    · exact h
theorem N1.objs : ∀ (n : Nat) (C : Cur) (L : List Obj), N1 C → N1 (objsR n C L).1
  | 0, _, _, h => h
  | n + 1, C, L, h => N1.objs n _ _ (N1.bytesC (N1.bytesC (N1.bytesC h)))
theorem within_ne {x : Int} (h : x ≠ 1) : withinE x ≠ 1 := by
  unfold withinE
  split
  · decide
  · exact h
def Good (c : Int) (r : Cur × Msg) : Prop := N1 r.1 ∧ r.2.code = c ∧ r.2.fail = 0
theorem coils_good {dir c : Int} {C : Cur} {r : Cur × Msg} (hC : N1 C) (h : coilsForm dir c C = some r) : Good c r := by
  unfold coilsForm at h
  repeat' split at h
  all_goals first | cases h | skip
  all_goals refine ⟨?_, rfl, rfl⟩
  all_goals simp only [asksR, ctoldR, csetsR, csmR, spanC, spanC1, setsC, toldC2, smC, smC2]
  all_goals repeat' first | with_reducible exact hC | with_reducible apply N1.bytesC | with_reducible apply N1.wordsC | (with_reducible refine N1.need (by decide) ?_)
theorem regs_good {dir c : Int} {C : Cur} {r : Cur × Msg} (hC : N1 C) (h : regsForm dir c C = some r) : Good c r := by
  unfold regsForm at h
  repeat' split at h
  all_goals first | cases h | skip
  all_goals refine ⟨?_, rfl, rfl⟩
  all_goals simp only [rasksR, rtoldR, roneR, rmanyR, rmaskR, rbothR, raskqR, rqR, rmanyC, rbothC, rspanC, told3, countedC1, both1, both2, q2C, q1C]
  all_goals repeat' first | with_reducible exact hC | with_reducible apply N1.bytesC | with_reducible apply N1.wordsC | (with_reducible refine N1.need (by decide) ?_)
theorem diag_good {dir c : Int} {C : Cur} {r : Cur × Msg} (hC : N1 C) (h : diagForm dir c C = some r) : Good c r := by
  unfold diagForm lineR answerR at h
  repeat' split at h
  all_goals first | cases h | skip
  all_goals refine ⟨?_, rfl, rfl⟩
  all_goals simp only [line1, line2, ansL, ans12, busyC]
  all_goals repeat' first | with_reducible exact hC | with_reducible apply N1.bytesC | with_reducible apply N1.wordsC | (with_reducible refine N1.need (by decide) ?_)
theorem mei_good {dir c : Int} {C : Cur} {r : Cur × Msg} (hC : N1 C) (h : meiForm dir c C = some r) : Good c r := by
  unfold meiForm at h
  repeat' split at h
  all_goals first | cases h | skip
  all_goals refine ⟨?_, rfl, rfl⟩
  all_goals simp only [meiA, meiB, meiD, meiObjs, mei1, mei2, mei3, mei4]
  all_goals repeat' first | with_reducible exact hC | with_reducible apply N1.bytesC | with_reducible apply N1.wordsC | with_reducible apply N1.objs | (with_reducible refine N1.need (by decide) ?_)
theorem askO_n1 (s : Int) (C : Cur) (h : N1 C) : N1 (askO s C).2.1 := by
  simp only [askO, askedC, headC, hd1, hd2, hd3]
  repeat' first | with_reducible exact h | with_reducible apply N1.bytesC | with_reducible apply N1.wordsC | (with_reducible refine N1.need (by decide) ?_)
theorem toldO_n1 (s : Int) (C : Cur) (h : N1 C) : N1 (toldO s C).2.1 := by
  simp only [toldO, toldC, told1, told2]
  repeat' first | with_reducible exact h | with_reducible apply N1.bytesC | with_reducible apply N1.wordsC | (with_reducible refine N1.need (by decide) ?_)
theorem wrtO_n1 (s : Int) (C : Cur) (h : N1 C) : N1 (wrtO s C).2.1 := by
  simp only [wrtO, wrtC, wrt1, headC, hd1, hd2, hd3]
  repeat' first | with_reducible exact h | with_reducible apply N1.bytesC | with_reducible apply N1.wordsC | (with_reducible refine N1.need (by decide) ?_)
theorem filesR_n1 {one : Int → Cur → Int × Cur × Rec} (ho : ∀ s C, N1 C → N1 (one s C).2.1) (may : Int → Bool) (c : Int) {C : Cur} (hC : N1 C) : N1 (filesR one may c C).1 := by
  unfold filesR fl1
  refine N1.need (within_ne (N1.recs ho _ _ _ _ ?_)) (N1.bytesC (N1.need (by decide) (N1.bytesC hC)))
  show (0 : Int) ≠ 1
  decide
theorem files_good {dir c : Int} {C : Cur} {r : Cur × Msg} (hC : N1 C) (h : filesForm dir c C = some r) : Good c r := by
  unfold filesForm at h
  repeat' split at h
  all_goals first | cases h | skip
  · exact ⟨filesR_n1 askO_n1 _ _ hC, rfl, rfl⟩
  · exact ⟨filesR_n1 toldO_n1 _ _ hC, rfl, rfl⟩
  · exact ⟨filesR_n1 wrtO_n1 _ _ hC, rfl, rfl⟩
theorem N1.endC {C : Cur} (h : N1 C) : N1 C.endC := by
  unfold Cur.endC
  exact N1.need (by decide) h
theorem parse_good {form : Int → Int → Cur → Option (Cur × Msg)} (hg : ∀ {dir c : Int} {C : Cur} {r : Cur × Msg}, N1 C → form dir c C = some r → Good c r) {dir c : Int} {b : List Int} (hd : dir = 0 ∨ dir = 1) {M : Msg} {E : Int} (h : parseOf form dir c b = (M, E)) :
    E ≠ 1 ∧ (E = 0 → M.code = c ∧ M.fail = 0) := by
  unfold parseOf at h
  rw [if_pos hd] at h
  have h0 : N1 ⟨b, false, 0⟩ := by show (0 : Int) ≠ 1; decide
  split at h
  · injection h with h1 h2
    subst h1 h2
    exact ⟨by decide, fun h => by cases h⟩
  · rename_i r hr
    obtain ⟨g1, g2, g3⟩ := hg h0 hr
    unfold finish at h
    split at h
    · injection h with h1 h2
      subst h1 h2
      exact ⟨by decide, fun _ => ⟨g2, g3⟩⟩
    · rename_i hne
      injection h with h1 h2
      subst h1 h2
      exact ⟨N1.endC g1, fun h => absurd h hne⟩
end Go.Proofs.Ytbaeecmamacphaa
namespace Go.Proofs.Ytbaeecmamacphaa
theorem code_tab : ∀ n : Nat, n < 256 → (publicB (n : Int) = pub7 (n : Int)) ∧ (pub7 (n : Int) = false → cfam (n : Int) = 0) ∧ (128 ≤ n → pub7 (n : Int) = false) := by decide +kernel
theorem code_tabI {x : Int} (h : 0 ≤ x ∧ x < 256) : publicB x = pub7 x ∧ (pub7 x = false → cfam x = 0) ∧ (128 ≤ x → pub7 x = false) := by
  obtain ⟨n, rfl⟩ := Int.eq_ofNat_of_zero_le h.1
  obtain ⟨a, b, c⟩ := code_tab n (by omega)
  exact ⟨a, b, fun h => c (by omega)⟩
theorem famP_good {dir : Int} {b : List Int} (hd : dir = 0 ∨ dir = 1) {k : Nat} {M : Msg} {E : Int} (h : famP k dir b = (M, E)) : E ≠ 1 ∧ (E = 0 → M.code = b.getD 0 0 ∧ M.fail = 0) := by
  unfold famP at h
  split at h
  · exact parse_good (fun hC h => coils_good hC h) hd h
  · exact parse_good (fun hC h => regs_good hC h) hd h
  · exact parse_good (fun hC h => diag_good hC h) hd h
  · exact parse_good (fun hC h => files_good hC h) hd h
  · exact parse_good (fun hC h => mei_good hC h) hd h
  · injection h with h1 h2
    subst h1 h2
    exact ⟨by decide, fun h => by cases h⟩
theorem refP_ne1 {b : List Int} {M : Msg} {E : Int} (h : refP b = (M, E)) : E ≠ 1 := by
  unfold refP at h
  repeat' split at h
  all_goals (injection h with h1 h2; subst h2; decide)
theorem fail_ne : failureB 0 = false := by decide +kernel
theorem refP_ok {b : List Int} {M : Msg} (h : refP b = (M, 0)) : M = refM ((b.getD 0 0 - 128) % 256) (b.getD 1 0) ∧ 128 ≤ b.getD 0 0 ∧ publicB ((b.getD 0 0 - 128) % 256) = true ∧ failureB (b.getD 1 0) = true ∧ b.length = 2 := by
  unfold refP at h
  split at h
  · cases h
  split at h
  · cases h
  split at h
  · cases h
  split at h
  · cases h
  split at h
  · cases h
  split at h
  · cases h
  injection h with h1 h2
  simp only [decide_eq_true_eq, Bool.not_eq_true', Bool.not_eq_true, beq_iff_eq, Bool.not_eq_false'] at *
  refine ⟨h1.symm, by omega, by simp_all, by simp_all, by omega⟩
theorem pdu_ne1 {dir : Int} {b : List Int} (hd : dir = 0 ∨ dir = 1) {M : Msg} {E : Int} (h : pduP dir b = (M, E)) : E ≠ 1 := by
  unfold pduP at h
  split at h
  · rename_i hh; simp only [Bool.and_eq_true, bne_iff_ne, ne_eq] at hh; omega
  split at h
  · injection h with h1 h2; subst h2; decide
  split at h
  · injection h with h1 h2; subst h2; decide
  split at h
  · exact refP_ne1 h
  · exact (famP_good hd h).1
theorem codes1 {dir : Int} {b : List Int} (hd : dir = 0 ∨ dir = 1) {M : Msg} {E : Int} (h : pduP dir b = (M, E)) : (E != 1) = true := by simpa using pdu_ne1 hd h
theorem codes4 {dir c : Int} {b : List Int} (hr : 0 ≤ b.getD 0 0 ∧ b.getD 0 0 < 256) (hc : dir = 0 ∧ c = b.getD 0 0 ∨ dir = 1 ∧ c = b.getD 0 0 % 128) (hp : pub7 c = false) (h0 : (b.length : Int) ≠ 0) (hl : (b.length : Int) ≤ 253) {M : Msg} {E : Int} (h : pduP dir b = (M, E)) : (E == 4) = true := by
  obtain ⟨t1, t2, t3⟩ := code_tabI hr
  unfold pduP at h
  split at h
  · rename_i hh; simp only [Bool.and_eq_true, bne_iff_ne, ne_eq] at hh; omega
  split at h
  · rename_i hh; simp only [beq_iff_eq] at hh; omega
  split at h
  · rename_i hh; simp only [decide_eq_true_eq] at hh; omega
  split at h
  · rename_i hh
    simp only [Bool.and_eq_true, decide_eq_true_eq, beq_iff_eq] at hh
    have hx : (b.getD 0 0 - 128) % 256 = c := by omega
    obtain ⟨u1, _, _⟩ := code_tabI (x := c) (by omega)
    unfold refP at h
    rw [hx, u1, hp] at h
    split at h
    · rename_i hh; simp only [beq_iff_eq] at hh; omega
    split at h
    · injection h with h1 h2; subst h2; rfl
    · simp only [Bool.not_false, if_true] at h
      injection h with h1 h2; subst h2; rfl
  · rename_i hh
    simp only [Bool.and_eq_true, decide_eq_true_eq, beq_iff_eq, not_and] at hh
    have hf : cfam (b.getD 0 0) = 0 := by
      apply t2
      by_cases h8 : 128 ≤ b.getD 0 0
      · exact t3 h8
      · have : c = b.getD 0 0 := by omega
        rw [← this]; exact hp
    rw [hf] at h
    injection h with h1 h2; subst h2; rfl
theorem codes0 {dir c : Int} {b : List Int} (hr : 0 ≤ b.getD 0 0 ∧ b.getD 0 0 < 256) (hc : dir = 0 ∧ c = b.getD 0 0 ∨ dir = 1 ∧ c = b.getD 0 0 % 128) {M : Msg} {E : Int} (h : pduP dir b = (M, E)) (hE : (E != 0) = false) : (M.code == c) = true ∧ ((M.fail != 0) == decide (128 ≤ b.getD 0 0)) = true := by
  have hE0 : E = 0 := by simpa using hE
  subst hE0
  obtain ⟨t1, t2, t3⟩ := code_tabI hr
  unfold pduP at h
  split at h
  · cases h
  split at h
  · cases h
  split at h
  · cases h
  split at h
  · rename_i hh
    simp only [Bool.and_eq_true, decide_eq_true_eq, beq_iff_eq] at hh
    obtain ⟨rfl, h1, h2, h3, h4⟩ := refP_ok h
    have hf : b.getD 1 0 ≠ 0 := fun e => by rw [e, fail_ne] at h3; cases h3
    refine ⟨?_, ?_⟩
    · show ((b.getD 0 0 - 128) % 256 == c) = true
      simp only [beq_iff_eq]; omega
    · show ((b.getD 1 0 != 0) == decide (128 ≤ b.getD 0 0)) = true
      rw [decide_eq_true h1, show (b.getD 1 0 != 0) = true from by simpa using hf]
      rfl
  · rename_i hh
    simp only [Bool.and_eq_true, decide_eq_true_eq, beq_iff_eq, not_and] at hh
    have hlt : ¬ 128 ≤ b.getD 0 0 := fun h8 => by
      rw [t2 (t3 h8)] at h
      cases h
    have hd : dir = 0 ∨ dir = 1 := by omega
    obtain ⟨h1, h2⟩ := (famP_good hd h).2 rfl
    refine ⟨by simp only [beq_iff_eq]; omega, ?_⟩
    rw [h2, decide_eq_false hlt]
    rfl
theorem b0_rng {m : Bool} {w : World} {v : Value} {b : List Int} (h : RdB m w v b) (h0 : (b.length : Int) ≠ 0) : 0 ≤ b.getD 0 0 ∧ b.getD 0 0 < 256 := by
  cases b with
  | nil => simp at h0
  | cons a r => exact h.range a (by simp)
end Go.Proofs.Ytbaeecmamacphaa
namespace Go.Proofs.Ytbaeecmamacphaa
theorem writeOf_some {parse : Int → Int → List Int → Msg × Int} {lay : Int → Msg → List Int} {dir : Int} {M : Msg} {l : List Int} (h : writeOf parse lay dir M = some l) : parse dir M.code l = (M, 0) ∧ l = lay dir M := by
  unfold writeOf at h
  split at h
  · rename_i hh
    injection h with h
    subst h
    exact ⟨hh, rfl⟩
  · cases h
theorem famW_some {k : Nat} {dir : Int} {M : Msg} {l : List Int} (h : famW k dir M = some l) : k ≠ 0 ∧ famP k dir ([M.code] ++ l) = (M, 0) := by
  unfold famW at h
  split at h
  · exact ⟨by decide, (writeOf_some h).1⟩
  · exact ⟨by decide, (writeOf_some h).1⟩
  · exact ⟨by decide, (writeOf_some h).1⟩
  · exact ⟨by decide, (writeOf_some h).1⟩
  · exact ⟨by decide, (writeOf_some h).1⟩
  · cases h
theorem refW_some {M : Msg} {l : List Int} (h : refW M = some l) : publicB M.code = true ∧ failureB M.fail = true ∧ M = refM M.code M.fail ∧ l = [(M.code + 128) % 256, M.fail] := by
  unfold refW at h
  split at h
  · cases h
  split at h
  · cases h
  rename_i h1 h2
  injection h with h
  subst h
  have h3 : pairB M.code M.fail = true := by
    cases hp : pairB M.code M.fail
    · rw [hp] at h1; exact absurd rfl h1
    · rfl
  have h4 : M = refM M.code M.fail := by
    by_cases hm : M = refM M.code M.fail
    · exact hm
    · rw [decide_eq_false hm] at h2; exact absurd rfl h2
  unfold pairB at h3
  obtain ⟨h5, h6⟩ := and2 h3
  exact ⟨(and2 h5).2, h6, h4, rfl⟩
theorem pduW_some {dir : Int} {M : Msg} {l : List Int} (hc : 0 ≤ M.code ∧ M.code < 256) (h : pduW dir M = some l) :
    (M.fail ≠ 0 ∧ dir = 1 ∧ publicB M.code = true ∧ failureB M.fail = true ∧ M = refM M.code M.fail ∧ l = [M.code + 128, M.fail] ∧ M.code < 128) ∨
    (M.fail = 0 ∧ cfam M.code ≠ 0 ∧ M.code < 128 ∧ ∃ l', famW (cfam M.code) dir M = some l' ∧ l'.length < 253 ∧ l = [M.code] ++ l') := by
  obtain ⟨t1, t2, t3⟩ := code_tabI hc
  unfold pduW at h
  split at h
  · rename_i hf
    split at h
    · cases h
    · rename_i hd
      obtain ⟨h1, h2, h3, h4⟩ := refW_some h
      have h5 : M.code < 128 := by
        by_cases h6 : 128 ≤ M.code
        · have := t3 h6
          rw [← t1, h1] at this
          cases this
        · omega
      refine .inl ⟨by simpa using hf, by simpa using hd, h1, h2, h3, ?_, h5⟩
      rw [h4]
      congr 1
      omega
  · rename_i hf
    split at h
    · cases h
    · rename_i l' hl
      split at h
      · cases h
      · rename_i hn
        injection h with h
        have hk := (famW_some hl).1
        have h5 : M.code < 128 := by
          by_cases h6 : 128 ≤ M.code
          · exact absurd (t2 (t3 h6)) hk
          · omega
        simp only [decide_eq_true_eq] at hn
        exact .inr ⟨by simpa using hf, hk, h5, l', hl, by omega, h.symm⟩
theorem pdu_rt {dir : Int} {M : Msg} {l : List Int} (hd : dir = 0 ∨ dir = 1) (hc : 0 ≤ M.code ∧ M.code < 256) (hf : 0 ≤ M.fail ∧ M.fail < 256) (h : pduW dir M = some l) : pduP dir l = (M, 0) := by
  have hdd : (dir != 0 && dir != 1) = false := by rcases hd with rfl | rfl <;> rfl
  rcases pduW_some hc h with ⟨h1, rfl, h2, h3, h4, rfl, h5⟩ | ⟨h1, h2, h3, l', h4, h5, rfl⟩
  · have ha : decide (128 ≤ M.code + 128) = true := by simp; omega
    have hb : (M.code + 128 - 128) % 256 = M.code := by omega
    have hd1 : decide (M.code + 128 < 128) = false := by simp; omega
    unfold pduP
    simp only [List.length_cons, List.length_nil, List.getD_cons_zero, ha]
    show refP [M.code + 128, M.fail] = (M, 0)
    unfold refP
    simp only [List.length_cons, List.length_nil, List.getD_cons_zero, List.getD_cons_succ, hb, hd1, h2, h3]
    show (refM M.code M.fail, (0 : Int)) = (M, 0)
    rw [← h4]
  · have ha : (decide (128 ≤ M.code) && dir == 1) = false := by
      have : decide (128 ≤ M.code) = false := by simp; omega
      rw [this]; rfl
    have hl0 : (((([M.code] ++ l').length : Nat) : Int) == 0) = false := by
      simp only [List.length_append, List.length_cons, List.length_nil, beq_eq_false_iff_ne, ne_eq]; omega
    have hl1 : decide (253 < ((([M.code] ++ l').length : Nat) : Int)) = false := by
      simp only [List.length_append, List.length_cons, List.length_nil, decide_eq_false_iff_not]; omega
    have hg : ([M.code] ++ l').getD 0 0 = M.code := rfl
    unfold pduP
    rw [hdd, hl0, hl1, hg, ha]
    exact (famW_some h4).2
theorem pduW_inj {dir : Int} {A B : Msg} {l l' : List Int} (hd : dir = 0 ∨ dir = 1) (ha : 0 ≤ A.code ∧ A.code < 256) (ha2 : 0 ≤ A.fail ∧ A.fail < 256) (hb : 0 ≤ B.code ∧ B.code < 256) (hb2 : 0 ≤ B.fail ∧ B.fail < 256)
    (h : pduW dir A = some l) (h' : pduW dir B = some l') : (decide (l = l') == decide (A = B)) = true := by
  have h1 := pdu_rt hd ha ha2 h
  have h2 := pdu_rt hd hb hb2 h'
  by_cases e : l = l'
  · subst e
    rw [h1] at h2
    have : A = B := by injection h2
    simp [this]
  · have : A ≠ B := fun e2 => by
      subst e2
      rw [h] at h'
      exact e (by injection h')
    simp [e, this]
theorem pduW_pos {dir : Int} {M : Msg} {l : List Int} (hc : 0 ≤ M.code ∧ M.code < 256) (h : pduW dir M = some l) : 0 < l.length := by
  rcases pduW_some hc h with ⟨_, _, _, _, _, rfl, _⟩ | ⟨_, _, _, l', _, _, rfl⟩ <;> simp
theorem pduW_le {dir : Int} {M : Msg} {l : List Int} (hc : 0 ≤ M.code ∧ M.code < 256) (h : pduW dir M = some l) : l.length ≤ 253 := by
  rcases pduW_some hc h with ⟨_, _, _, _, _, rfl, _⟩ | ⟨_, _, _, l', _, h2, rfl⟩
  · simp
  · simp only [List.length_append, List.length_cons, List.length_nil]; omega
theorem pub_of {dir : Int} {M : Msg} {l : List Int} (hc : 0 ≤ M.code ∧ M.code < 256) (h : pduW dir M = some l) : pub7 M.code = true := by
  obtain ⟨t1, t2, t3⟩ := code_tabI hc
  rcases pduW_some hc h with ⟨_, _, h1, _⟩ | ⟨_, h1, _⟩
  · rw [← t1, h1]
  · cases hp : pub7 M.code
    · exact absurd (t2 hp) h1
    · rfl
theorem first_fail {dir : Int} {M : Msg} {l : List Int} (hc : 0 ≤ M.code ∧ M.code < 256) (h : pduW dir M = some l) (hf : (M.fail != 0) = true) : dir = 1 ∧ l.getD 0 0 = (M.code + 128) % 256 ∧ l.length = 2 := by
  rcases pduW_some hc h with ⟨_, h1, _, _, _, rfl, h5⟩ | ⟨h1, _⟩
  · refine ⟨h1, ?_, rfl⟩
    show M.code + 128 = _
    omega
  · simp [h1] at hf
theorem first_ok {dir : Int} {M : Msg} {l : List Int} (hc : 0 ≤ M.code ∧ M.code < 256) (h : pduW dir M = some l) (hf : (M.fail != 0) = false) : l.getD 0 0 = M.code := by
  rcases pduW_some hc h with ⟨h1, _⟩ | ⟨_, _, _, l', _, _, rfl⟩
  · simp at hf; omega
  · rfl
open Go.RowKit
theorem upd_below {w w' : World} (h : Upd [] w w') : Below w.heap.size w w' := ⟨h.os, h.tape, h.output, h.size, fun k hk => h.block k hk (by simp)⟩
theorem wf_u8_rng {n : Int} (h : (Lit.int .u8 n).wf = true) : 0 ≤ n ∧ n < 256 := by
  have := bounds_u8 h
  omega
theorem rd_of_row {w : World} {a : Option Addr} {len cap : Nat} {zs : List Int} (h : (a = none ∧ len = 0 ∧ cap = 0 ∧ zs = []) ∨
    ∃ x, a = some x ∧ len ≤ cap ∧ cap ≤ maxLen ∧ zs.length = cap ∧ (∀ i, i < zs.length → w.cell? (x.add i) = some (.int .u8 (zs.getD i 0))) ∧ ∀ n ∈ zs, (Lit.int .u8 n).wf = true) : RdB false w (.slice a len cap) (zs.take len) := by
  rcases h with ⟨rfl, rfl, rfl, rfl⟩ | ⟨x, rfl, h1, h2, h3, h4, h5⟩
  · exact RdG.nil ..
  · have hl : (zs.take len).length = len := by simp; omega
    refine ⟨some x, cap, by rw [hl], by omega, h2, (fun h => by cases h), fun hp => ?_⟩
    obtain ⟨b, off, rfl, hc⟩ := ints_at h4 (by omega)
    have h0 := hc 0 (by omega)
    unfold World.cell? at h0
    split at h0
    · rename_i cs t fr hb
      refine ⟨b, off, cs, t, fr, rfl, hb, fun h => (by cases h), fun j y hj => ?_⟩
      have hj2 : j < len := by
        have := (List.getElem?_eq_some_iff.1 hj).1
        omega
      have hy : zs.getD j 0 = y := by
        rw [List.getElem?_take] at hj
        rw [if_pos hj2] at hj
        simp [List.getD_eq_getElem?_getD, hj]
      have hm : y ∈ zs := by
        rw [← hy, List.getD_eq_getElem?_getD, List.getElem?_eq_getElem (by omega)]
        simp
      refine ⟨[.int .u8 y], rfl, ⟨rfl, wf_u8_rng (h5 y hm)⟩, fun i u hi => ?_⟩
      have hi0 : i = 0 := by
        have := (List.getElem?_eq_some_iff.1 hi).1
        simp at this
        exact this
      subst hi0
      simp at hi
      subst hi
      have := hc j (by omega)
      rw [blk_cell hb, hy] at this
      simpa using this
    · cases h0
open Go.RowKit
structure SL where
  aw : Option Addr
  kw : Nat
  ab : Option Addr
  kb : Nat
  ad : Option Addr
  kd : Nat
  ar : Option Addr
  kr : Nat
  ao : Option Addr
  ko : Nat
def mcl (M : Msg) (x : SL) : Array Value := mG M.code M.fail M.addr M.count M.value M.and_ M.or_ M.addr2 M.sub M.status M.events M.messages (.slice x.aw M.words.length x.kw) (.slice x.ab M.bits.length x.kb) (.slice x.ad M.data.length x.kd) (.slice x.ar M.recs.length x.kr) M.mei M.kind M.level M.more M.next (.slice x.ao M.objects.length x.ko)
theorem mcl_of {m : Bool} {w : World} {cs : Array Value} {M : Msg} (h : MsgRd m w cs.toList M) : ∃ x, cs = mcl M x := by
  obtain ⟨vw, vb, vd, vr, vo, h0, hw, hb, hd, hr, ho, hR⟩ := h
  obtain ⟨aw, kw, rfl, _, _⟩ := hw.shape
  obtain ⟨ab, kb, rfl, _, _⟩ := hb.shape
  obtain ⟨ad, kd, rfl, _, _⟩ := hd.shape
  obtain ⟨ar, kr, rfl, _, _⟩ := hr.shape
  obtain ⟨ao, ko, rfl, _, _⟩ := ho.shape
  refine ⟨⟨aw, kw, ab, kb, ad, kd, ar, kr, ao, ko⟩, ?_⟩
  apply Array.toList_inj.1
  rw [h0]
  rfl
theorem MsgRd.rngs {m : Bool} {w : World} {cs : Array Value} {M : Msg} (h : MsgRd m w cs.toList M) : (0 ≤ M.code ∧ M.code < 256) ∧ (0 ≤ M.fail ∧ M.fail < 256) := by
  obtain ⟨vw, vb, vd, vr, vo, h0, hw, hb, hd, hr, ho, hR⟩ := h
  exact ⟨hR.code, hR.fail⟩
theorem pdu_parse_x {m : Bool} {v : Value} {b : List Int} {w : World} {dir : Int} {M : Msg} {E : Int} (hX : pduP dir b = (M, E)) (h : RdB m w v b) (hb : b.length ≤ 1048576) : Calls Try.prog 15 #[.int .i64 dir, v] w (fun e w' => ∃ x, e = .returned (.tuple #[.agg (mcl M x), .int .i64 E]) ∧ MsgRd true w' (mcl M x).toList M ∧ Upd [] w w') := by
  refine (pdu_parse h hb).mono ?_
  rintro e w' ⟨cs, rfl, h1, h2⟩
  rw [hX] at h1 ⊢
  obtain ⟨x, rfl⟩ := mcl_of h1
  exact ⟨x, rfl, h1, h2⟩
theorem pdu_write_n {m : Bool} {cs : Array Value} {M : Msg} {w : World} {dir : Int} (hX : pduW dir M = none) (h : MsgRd m w cs.toList M) (hf : MsgFew M) : Calls Try.prog 16 #[.int .i64 dir, .agg cs] w (fun e w' => e = .returned (.tuple #[.slice none 0 0, .int .i64 1]) ∧ Upd [] w w') := by
  have := pdu_write (dir := dir) h hf
  rw [hX] at this
  exact this
theorem pdu_write_s {m : Bool} {cs : Array Value} {M : Msg} {w : World} {dir : Int} {l : List Int} (hX : pduW dir M = some l) (h : MsgRd m w cs.toList M) (hf : MsgFew M) : Calls Try.prog 16 #[.int .i64 dir, .agg cs] w (fun e w' => ∃ v, e = .returned (.tuple #[v, .int .i64 0]) ∧ OwnB w.heap.size w' v l ∧ Upd [] w w') := by
  have := pdu_write (dir := dir) h hf
  rw [hX] at this
  exact this
open Go.RowKit
section
variable {H : Type} {enc : TypeId × Value → H} {P : Program} {w : World} {base : Nat} {spare : Nat → Bool} {held : Bool}
theorem add_none (b off : Nat) (sp : Option Nat) (n : Nat) (h : sp = none) : (⟨b, off, sp⟩ : Addr).add n = ⟨b, off + n, none⟩ := add_mk b off n sp h
theorem cell_spot {b off : Nat} {sp : Option Nat} {v : Value} (h : w.cell? ⟨b, off, sp⟩ = some v) : sp = none := by
  cases sp with
  | none => rfl
  | some s =>
    unfold World.cell? at h
    simp at h
    split at h <;> cases h
theorem rd_open {α : Type} {R : World → α → List Value → Prop} {t e : TypeId} {sz fuel : Nat} {cs : List Value} {x : DataW H × List MemPlace} (ht : P.underlying t = some (.slice e)) (hsz : P.cellsOf e = sz) (hp : 0 < sz)
    (hel : ∀ n cs' y, cs'.length = sz → DataW.trod enc P w base spare held n e cs' = some y → ∃ x, R w x cs') (h : DataW.trod enc P w base spare held fuel t cs = some x) : ∃ v xs, cs = [v] ∧ RdG false e sz R w v xs := by
  rcases Go.Deep.open_slice ht h with ⟨rfl, _⟩ | ⟨a, len, cap, m, n, D, Pl, rfl, _, hl, hm, hmm, _, hx⟩
  · exact ⟨_, [], rfl, RdG.nil ..⟩
  have hlm : len ≤ m := by rw [hmm]; split <;> omega
  have key : ∀ i : Fin len, ∃ y : α × List Value, w.cells? base (a.add (i * sz)) sz = some y.2 ∧ y.2.length = sz ∧ R w y.1 y.2 := fun i => by
    obtain ⟨cs', h1, h2⟩ := hx i (by omega)
    rw [hsz] at h1
    obtain ⟨_, hlen, _⟩ := World.cells?_some h1
    obtain ⟨y, hy⟩ := hel n cs' _ hlen h2
    exact ⟨(y, cs'), h1, hlen, hy⟩
  obtain ⟨f, hf⟩ := Classical.axiomOfChoice key
  refine ⟨_, List.ofFn fun i => (f i).1, rfl, some a, cap, by simp, by simpa using hl, hm, (fun h => by cases h), fun hpos => ?_⟩
  have hpos' : 0 < len := by simpa using hpos
  obtain ⟨b, off, sp⟩ := a
  have hsp : sp = none := by
    obtain ⟨h1, h2, _⟩ := hf ⟨0, hpos'⟩
    obtain ⟨_, _, h3⟩ := World.cells?_some h1
    have h4 := h3 0 hp
    rw [List.getElem?_eq_getElem (by omega)] at h4
    cases sp with
    | none => rfl
    | some s =>
      simp [Addr.add] at h4
      exact cell_spot h4
  subst hsp
  have hc : ∀ i : Fin len, ∀ k u, (f i).2[k]? = some u → w.cell? ⟨b, off + i * sz + k, none⟩ = some u := fun i k u hu => by
    obtain ⟨h1, h2, _⟩ := hf i
    obtain ⟨_, _, h3⟩ := World.cells?_some h1
    have hk : k < sz := by have := (List.getElem?_eq_some_iff.1 hu).1; omega
    have h4 := h3 k hk
    rw [add_none _ _ _ _ rfl, add_none _ _ _ _ rfl] at h4
    rw [h4, hu]
  have h0 : ∃ u, w.cell? ⟨b, off + 0 * sz + 0, none⟩ = some u := by
    obtain ⟨_, h2, _⟩ := hf ⟨0, hpos'⟩
    exact ⟨_, hc ⟨0, hpos'⟩ 0 _ (List.getElem?_eq_getElem (by omega))⟩
  obtain ⟨u, hu⟩ := h0
  unfold World.cell? at hu
  split at hu
  · rename_i cells t' fr hb
    refine ⟨b, off, cells, t', fr, rfl, hb, fun h => (by cases h), fun j y hj => ?_⟩
    have hjl : j < len := by have := (List.getElem?_eq_some_iff.1 hj).1; simpa using this
    have hy : (f ⟨j, hjl⟩).1 = y := by
      rw [List.getElem?_ofFn] at hj
      simpa [hjl] using hj
    obtain ⟨_, h2, h3⟩ := hf ⟨j, hjl⟩
    refine ⟨(f ⟨j, hjl⟩).2, h2, by rw [← hy]; exact h3, fun i u hi => ?_⟩
    have := hc ⟨j, hjl⟩ i u hi
    rw [blk_cell hb] at this
    exact this
  · cases hu
end
section
variable {H : Type} {enc : TypeId × Value → H} {w : World} {base : Nat} {spare : Nat → Bool} {held : Bool} {n : Nat} {y : DataW H × List MemPlace}
theorem wf_u16_rng {n : Int} (h : (Lit.int .u16 n).wf = true) : 0 ≤ n ∧ n < 65536 := by
  have := bounds_u16 h
  omega
theorem el_u8 {cs : List Value} (h : DataW.trod enc Try.prog w base spare held n 5 cs = some y) : ∃ x, u8R w x cs := by
  obtain ⟨k, rfl, _, hw⟩ := DataW.trod_int Try.underlying5 h
  exact ⟨k, rfl, wf_u8_rng hw⟩
theorem el_u16 {cs : List Value} (h : DataW.trod enc Try.prog w base spare held n 23 cs = some y) : ∃ x, u16R w x cs := by
  obtain ⟨k, rfl, _, hw⟩ := DataW.trod_int Try.underlying23 h
  exact ⟨k, rfl, wf_u16_rng hw⟩
theorem el_bool {cs : List Value} (h : DataW.trod enc Try.prog w base spare held n 4 cs = some y) : ∃ x, boolR w x cs := by
  obtain ⟨k, rfl, _⟩ := DataW.trod_bool Try.underlying4 h
  exact ⟨k, rfl⟩
theorem sl_u8 {cs : List Value} (h : DataW.trod enc Try.prog w base spare held n 22 cs = some y) : ∃ v xs, cs = [v] ∧ RdB false w v xs := rd_open Try.underlying22 (by kernel_rfl) (by decide) (fun _ _ _ _ h => el_u8 h) h
theorem sl_u16 {cs : List Value} (h : DataW.trod enc Try.prog w base spare held n 24 cs = some y) : ∃ v xs, cs = [v] ∧ RdW false w v xs := rd_open Try.underlying24 (by kernel_rfl) (by decide) (fun _ _ _ _ h => el_u16 h) h
theorem sl_bool {cs : List Value} (h : DataW.trod enc Try.prog w base spare held n 25 cs = some y) : ∃ v xs, cs = [v] ∧ RdL false w v xs := rd_open Try.underlying25 (by kernel_rfl) (by decide) (fun _ _ _ _ h => el_bool h) h
end
open Go.RowKit
theorem peel {cs : List Value} {o : Nat} {v : Value} (h : (cs.drop o).take 1 = [v]) : cs.drop o = v :: cs.drop (o + 1) := by
  cases hd : cs.drop o with
  | nil => rw [hd] at h; cases h
  | cons a l =>
    rw [hd] at h
    have h1 : a = v := by simpa using h
    rw [h1, ← List.drop_drop, hd]
    rfl
theorem drop_all {cs : List Value} {n : Nat} (h : cs.length = n) : cs.drop n = [] := by rw [← h]; simp
section
variable {H : Type} {enc : TypeId × Value → H} {w : World} {base : Nat} {spare : Nat → Bool} {held : Bool} {n : Nat} {y : DataW H × List MemPlace}
theorem el_rec {cs : List Value} (h : DataW.trod enc Try.prog w base spare held n 57 cs = some y) : ∃ x, recR false w x cs := by
  obtain ⟨xs, m, rfl, _, hlen, hxs, hf⟩ := DataW.trod_struct Try.underlying57 h
  rw [show Try.prog.cellsOf 57 = 4 from by kernel_rfl] at hlen
  replace hxs : xs.length = 4 := hxs.trans (by kernel_rfl)
  obtain ⟨y0, g0⟩ : ∃ y, xs[0]? = some y := ⟨_, List.getElem?_eq_getElem (show 0 < xs.length by omega)⟩
  have f0 : DataW.trod enc Try.prog w base spare held m 23 ((cs.drop 0).take (Try.prog.cellsOf 23)) = xs[0]? := hf 0 _ rfl
  rw [g0] at f0
  rw [show Try.prog.cellsOf 23 = 1 from by kernel_rfl] at f0
  obtain ⟨x0, e0, r0⟩ := el_u16 f0
  obtain ⟨y1, g1⟩ : ∃ y, xs[1]? = some y := ⟨_, List.getElem?_eq_getElem (show 1 < xs.length by omega)⟩
  have f1 : DataW.trod enc Try.prog w base spare held m 23 ((cs.drop 1).take (Try.prog.cellsOf 23)) = xs[1]? := hf 1 _ rfl
  rw [g1] at f1
  rw [show Try.prog.cellsOf 23 = 1 from by kernel_rfl] at f1
  obtain ⟨x1, e1, r1⟩ := el_u16 f1
  obtain ⟨y2, g2⟩ : ∃ y, xs[2]? = some y := ⟨_, List.getElem?_eq_getElem (show 2 < xs.length by omega)⟩
  have f2 : DataW.trod enc Try.prog w base spare held m 23 ((cs.drop 2).take (Try.prog.cellsOf 23)) = xs[2]? := hf 2 _ rfl
  rw [g2] at f2
  rw [show Try.prog.cellsOf 23 = 1 from by kernel_rfl] at f2
  obtain ⟨x2, e2, r2⟩ := el_u16 f2
  obtain ⟨y3, g3⟩ : ∃ y, xs[3]? = some y := ⟨_, List.getElem?_eq_getElem (show 3 < xs.length by omega)⟩
  have f3 : DataW.trod enc Try.prog w base spare held m 24 ((cs.drop 3).take (Try.prog.cellsOf 24)) = xs[3]? := hf 3 _ rfl
  rw [g3] at f3
  rw [show Try.prog.cellsOf 24 = 1 from by kernel_rfl] at f3
  obtain ⟨v3, l3, e3, r3⟩ := sl_u16 f3
  have hcs : cs = [.int .u16 x0, .int .u16 x1, .int .u16 x2, v3] := by
    show cs.drop 0 = _
    rw [peel e0, peel e1, peel e2, peel e3, drop_all hlen]
  subst hcs
  exact ⟨⟨x0, x1, x2, l3⟩, _, rfl, r3, r0, r1, r2⟩
theorem sl_rec {cs : List Value} (h : DataW.trod enc Try.prog w base spare held n 26 cs = some y) : ∃ v xs, cs = [v] ∧ RdR false w v xs := rd_open Try.underlying26 (by kernel_rfl) (by decide) (fun _ _ _ _ h => el_rec h) h
theorem el_obj {cs : List Value} (h : DataW.trod enc Try.prog w base spare held n 59 cs = some y) : ∃ x, objR false w x cs := by
  obtain ⟨xs, m, rfl, _, hlen, hxs, hf⟩ := DataW.trod_struct Try.underlying59 h
  rw [show Try.prog.cellsOf 59 = 2 from by kernel_rfl] at hlen
  replace hxs : xs.length = 2 := hxs.trans (by kernel_rfl)
  obtain ⟨y0, g0⟩ : ∃ y, xs[0]? = some y := ⟨_, List.getElem?_eq_getElem (show 0 < xs.length by omega)⟩
  have f0 : DataW.trod enc Try.prog w base spare held m 5 ((cs.drop 0).take (Try.prog.cellsOf 5)) = xs[0]? := hf 0 _ rfl
  rw [g0] at f0
  rw [show Try.prog.cellsOf 5 = 1 from by kernel_rfl] at f0
  obtain ⟨x0, e0, r0⟩ := el_u8 f0
  obtain ⟨y1, g1⟩ : ∃ y, xs[1]? = some y := ⟨_, List.getElem?_eq_getElem (show 1 < xs.length by omega)⟩
  have f1 : DataW.trod enc Try.prog w base spare held m 22 ((cs.drop 1).take (Try.prog.cellsOf 22)) = xs[1]? := hf 1 _ rfl
  rw [g1] at f1
  rw [show Try.prog.cellsOf 22 = 1 from by kernel_rfl] at f1
  obtain ⟨v1, l1, e1, r1⟩ := sl_u8 f1
  have hcs : cs = [.int .u8 x0, v1] := by
    show cs.drop 0 = _
    rw [peel e0, peel e1, drop_all hlen]
  subst hcs
  exact ⟨⟨x0, l1⟩, _, rfl, r1, r0⟩
theorem sl_obj {cs : List Value} (h : DataW.trod enc Try.prog w base spare held n 27 cs = some y) : ∃ v xs, cs = [v] ∧ RdO false w v xs := rd_open Try.underlying27 (by kernel_rfl) (by decide) (fun _ _ _ _ h => el_obj h) h
set_option maxRecDepth 20000 in
theorem msg_open {cs : List Value} (h : DataW.trod enc Try.prog w base spare held n 29 cs = some y) : ∃ M, MsgRd false w cs M := by
  obtain ⟨xs, m, rfl, _, hlen, hxs, hf⟩ := DataW.trod_struct Try.underlying29 h
  rw [show Try.prog.cellsOf 29 = 22 from by kernel_rfl] at hlen
  replace hxs : xs.length = 22 := hxs.trans (by kernel_rfl)
  obtain ⟨y0, g0⟩ : ∃ y, xs[0]? = some y := ⟨_, List.getElem?_eq_getElem (show 0 < xs.length by omega)⟩
  have f0 : DataW.trod enc Try.prog w base spare held m 5 ((cs.drop 0).take (Try.prog.cellsOf 5)) = xs[0]? := hf 0 _ rfl
  rw [g0] at f0
  rw [show Try.prog.cellsOf 5 = 1 from by kernel_rfl] at f0
  obtain ⟨x0, e0, r0⟩ := el_u8 f0
  obtain ⟨y1, g1⟩ : ∃ y, xs[1]? = some y := ⟨_, List.getElem?_eq_getElem (show 1 < xs.length by omega)⟩
  have f1 : DataW.trod enc Try.prog w base spare held m 5 ((cs.drop 1).take (Try.prog.cellsOf 5)) = xs[1]? := hf 1 _ rfl
  rw [g1] at f1
  rw [show Try.prog.cellsOf 5 = 1 from by kernel_rfl] at f1
  obtain ⟨x1, e1, r1⟩ := el_u8 f1
  obtain ⟨y2, g2⟩ : ∃ y, xs[2]? = some y := ⟨_, List.getElem?_eq_getElem (show 2 < xs.length by omega)⟩
  have f2 : DataW.trod enc Try.prog w base spare held m 23 ((cs.drop 2).take (Try.prog.cellsOf 23)) = xs[2]? := hf 2 _ rfl
  rw [g2] at f2
  rw [show Try.prog.cellsOf 23 = 1 from by kernel_rfl] at f2
  obtain ⟨x2, e2, r2⟩ := el_u16 f2
  obtain ⟨y3, g3⟩ : ∃ y, xs[3]? = some y := ⟨_, List.getElem?_eq_getElem (show 3 < xs.length by omega)⟩
  have f3 : DataW.trod enc Try.prog w base spare held m 23 ((cs.drop 3).take (Try.prog.cellsOf 23)) = xs[3]? := hf 3 _ rfl
  rw [g3] at f3
  rw [show Try.prog.cellsOf 23 = 1 from by kernel_rfl] at f3
  obtain ⟨x3, e3, r3⟩ := el_u16 f3
  obtain ⟨y4, g4⟩ : ∃ y, xs[4]? = some y := ⟨_, List.getElem?_eq_getElem (show 4 < xs.length by omega)⟩
  have f4 : DataW.trod enc Try.prog w base spare held m 23 ((cs.drop 4).take (Try.prog.cellsOf 23)) = xs[4]? := hf 4 _ rfl
  rw [g4] at f4
  rw [show Try.prog.cellsOf 23 = 1 from by kernel_rfl] at f4
  obtain ⟨x4, e4, r4⟩ := el_u16 f4
  obtain ⟨y5, g5⟩ : ∃ y, xs[5]? = some y := ⟨_, List.getElem?_eq_getElem (show 5 < xs.length by omega)⟩
  have f5 : DataW.trod enc Try.prog w base spare held m 23 ((cs.drop 5).take (Try.prog.cellsOf 23)) = xs[5]? := hf 5 _ rfl
  rw [g5] at f5
  rw [show Try.prog.cellsOf 23 = 1 from by kernel_rfl] at f5
  obtain ⟨x5, e5, r5⟩ := el_u16 f5
  obtain ⟨y6, g6⟩ : ∃ y, xs[6]? = some y := ⟨_, List.getElem?_eq_getElem (show 6 < xs.length by omega)⟩
  have f6 : DataW.trod enc Try.prog w base spare held m 23 ((cs.drop 6).take (Try.prog.cellsOf 23)) = xs[6]? := hf 6 _ rfl
  rw [g6] at f6
  rw [show Try.prog.cellsOf 23 = 1 from by kernel_rfl] at f6
  obtain ⟨x6, e6, r6⟩ := el_u16 f6
  obtain ⟨y7, g7⟩ : ∃ y, xs[7]? = some y := ⟨_, List.getElem?_eq_getElem (show 7 < xs.length by omega)⟩
  have f7 : DataW.trod enc Try.prog w base spare held m 23 ((cs.drop 7).take (Try.prog.cellsOf 23)) = xs[7]? := hf 7 _ rfl
  rw [g7] at f7
  rw [show Try.prog.cellsOf 23 = 1 from by kernel_rfl] at f7
  obtain ⟨x7, e7, r7⟩ := el_u16 f7
  obtain ⟨y8, g8⟩ : ∃ y, xs[8]? = some y := ⟨_, List.getElem?_eq_getElem (show 8 < xs.length by omega)⟩
  have f8 : DataW.trod enc Try.prog w base spare held m 23 ((cs.drop 8).take (Try.prog.cellsOf 23)) = xs[8]? := hf 8 _ rfl
  rw [g8] at f8
  rw [show Try.prog.cellsOf 23 = 1 from by kernel_rfl] at f8
  obtain ⟨x8, e8, r8⟩ := el_u16 f8
  obtain ⟨y9, g9⟩ : ∃ y, xs[9]? = some y := ⟨_, List.getElem?_eq_getElem (show 9 < xs.length by omega)⟩
  have f9 : DataW.trod enc Try.prog w base spare held m 23 ((cs.drop 9).take (Try.prog.cellsOf 23)) = xs[9]? := hf 9 _ rfl
  rw [g9] at f9
  rw [show Try.prog.cellsOf 23 = 1 from by kernel_rfl] at f9
  obtain ⟨x9, e9, r9⟩ := el_u16 f9
  obtain ⟨y10, g10⟩ : ∃ y, xs[10]? = some y := ⟨_, List.getElem?_eq_getElem (show 10 < xs.length by omega)⟩
  have f10 : DataW.trod enc Try.prog w base spare held m 23 ((cs.drop 10).take (Try.prog.cellsOf 23)) = xs[10]? := hf 10 _ rfl
  rw [g10] at f10
  rw [show Try.prog.cellsOf 23 = 1 from by kernel_rfl] at f10
  obtain ⟨x10, e10, r10⟩ := el_u16 f10
  obtain ⟨y11, g11⟩ : ∃ y, xs[11]? = some y := ⟨_, List.getElem?_eq_getElem (show 11 < xs.length by omega)⟩
  have f11 : DataW.trod enc Try.prog w base spare held m 23 ((cs.drop 11).take (Try.prog.cellsOf 23)) = xs[11]? := hf 11 _ rfl
  rw [g11] at f11
  rw [show Try.prog.cellsOf 23 = 1 from by kernel_rfl] at f11
  obtain ⟨x11, e11, r11⟩ := el_u16 f11
  obtain ⟨y12, g12⟩ : ∃ y, xs[12]? = some y := ⟨_, List.getElem?_eq_getElem (show 12 < xs.length by omega)⟩
  have f12 : DataW.trod enc Try.prog w base spare held m 24 ((cs.drop 12).take (Try.prog.cellsOf 24)) = xs[12]? := hf 12 _ rfl
  rw [g12] at f12
  rw [show Try.prog.cellsOf 24 = 1 from by kernel_rfl] at f12
  obtain ⟨v12, l12, e12, r12⟩ := sl_u16 f12
  obtain ⟨y13, g13⟩ : ∃ y, xs[13]? = some y := ⟨_, List.getElem?_eq_getElem (show 13 < xs.length by omega)⟩
  have f13 : DataW.trod enc Try.prog w base spare held m 25 ((cs.drop 13).take (Try.prog.cellsOf 25)) = xs[13]? := hf 13 _ rfl
  rw [g13] at f13
  rw [show Try.prog.cellsOf 25 = 1 from by kernel_rfl] at f13
  obtain ⟨v13, l13, e13, r13⟩ := sl_bool f13
  obtain ⟨y14, g14⟩ : ∃ y, xs[14]? = some y := ⟨_, List.getElem?_eq_getElem (show 14 < xs.length by omega)⟩
  have f14 : DataW.trod enc Try.prog w base spare held m 22 ((cs.drop 14).take (Try.prog.cellsOf 22)) = xs[14]? := hf 14 _ rfl
  rw [g14] at f14
  rw [show Try.prog.cellsOf 22 = 1 from by kernel_rfl] at f14
  obtain ⟨v14, l14, e14, r14⟩ := sl_u8 f14
  obtain ⟨y15, g15⟩ : ∃ y, xs[15]? = some y := ⟨_, List.getElem?_eq_getElem (show 15 < xs.length by omega)⟩
  have f15 : DataW.trod enc Try.prog w base spare held m 26 ((cs.drop 15).take (Try.prog.cellsOf 26)) = xs[15]? := hf 15 _ rfl
  rw [g15] at f15
  rw [show Try.prog.cellsOf 26 = 1 from by kernel_rfl] at f15
  obtain ⟨v15, l15, e15, r15⟩ := sl_rec f15
  obtain ⟨y16, g16⟩ : ∃ y, xs[16]? = some y := ⟨_, List.getElem?_eq_getElem (show 16 < xs.length by omega)⟩
  have f16 : DataW.trod enc Try.prog w base spare held m 5 ((cs.drop 16).take (Try.prog.cellsOf 5)) = xs[16]? := hf 16 _ rfl
  rw [g16] at f16
  rw [show Try.prog.cellsOf 5 = 1 from by kernel_rfl] at f16
  obtain ⟨x16, e16, r16⟩ := el_u8 f16
  obtain ⟨y17, g17⟩ : ∃ y, xs[17]? = some y := ⟨_, List.getElem?_eq_getElem (show 17 < xs.length by omega)⟩
  have f17 : DataW.trod enc Try.prog w base spare held m 5 ((cs.drop 17).take (Try.prog.cellsOf 5)) = xs[17]? := hf 17 _ rfl
  rw [g17] at f17
  rw [show Try.prog.cellsOf 5 = 1 from by kernel_rfl] at f17
  obtain ⟨x17, e17, r17⟩ := el_u8 f17
  obtain ⟨y18, g18⟩ : ∃ y, xs[18]? = some y := ⟨_, List.getElem?_eq_getElem (show 18 < xs.length by omega)⟩
  have f18 : DataW.trod enc Try.prog w base spare held m 5 ((cs.drop 18).take (Try.prog.cellsOf 5)) = xs[18]? := hf 18 _ rfl
  rw [g18] at f18
  rw [show Try.prog.cellsOf 5 = 1 from by kernel_rfl] at f18
  obtain ⟨x18, e18, r18⟩ := el_u8 f18
  obtain ⟨y19, g19⟩ : ∃ y, xs[19]? = some y := ⟨_, List.getElem?_eq_getElem (show 19 < xs.length by omega)⟩
  have f19 : DataW.trod enc Try.prog w base spare held m 5 ((cs.drop 19).take (Try.prog.cellsOf 5)) = xs[19]? := hf 19 _ rfl
  rw [g19] at f19
  rw [show Try.prog.cellsOf 5 = 1 from by kernel_rfl] at f19
  obtain ⟨x19, e19, r19⟩ := el_u8 f19
  obtain ⟨y20, g20⟩ : ∃ y, xs[20]? = some y := ⟨_, List.getElem?_eq_getElem (show 20 < xs.length by omega)⟩
  have f20 : DataW.trod enc Try.prog w base spare held m 5 ((cs.drop 20).take (Try.prog.cellsOf 5)) = xs[20]? := hf 20 _ rfl
  rw [g20] at f20
  rw [show Try.prog.cellsOf 5 = 1 from by kernel_rfl] at f20
  obtain ⟨x20, e20, r20⟩ := el_u8 f20
  obtain ⟨y21, g21⟩ : ∃ y, xs[21]? = some y := ⟨_, List.getElem?_eq_getElem (show 21 < xs.length by omega)⟩
  have f21 : DataW.trod enc Try.prog w base spare held m 27 ((cs.drop 21).take (Try.prog.cellsOf 27)) = xs[21]? := hf 21 _ rfl
  rw [g21] at f21
  rw [show Try.prog.cellsOf 27 = 1 from by kernel_rfl] at f21
  obtain ⟨v21, l21, e21, r21⟩ := sl_obj f21
  have hcs : cs = [.int .u8 x0, .int .u8 x1, .int .u16 x2, .int .u16 x3, .int .u16 x4, .int .u16 x5, .int .u16 x6, .int .u16 x7, .int .u16 x8, .int .u16 x9, .int .u16 x10, .int .u16 x11, v12, v13, v14, v15, .int .u8 x16, .int .u8 x17, .int .u8 x18, .int .u8 x19, .int .u8 x20, v21] := by
    show cs.drop 0 = _
    rw [peel e0, peel e1, peel e2, peel e3, peel e4, peel e5, peel e6, peel e7, peel e8, peel e9, peel e10, peel e11, peel e12, peel e13, peel e14, peel e15, peel e16, peel e17, peel e18, peel e19, peel e20, peel e21, drop_all hlen]
  subst hcs
  exact ⟨⟨x0, x1, x2, x3, x4, x5, x6, x7, x8, x9, x10, x11, l12, l13, l14, l15, x16, x17, x18, x19, x20, l21⟩, v12, v13, v14, v15, v21, rfl, r12, r13, r14, r15, r21, ⟨r0, r1, r2, r3, r4, r5, r6, r7, r8, r9, r10, r11, r16, r17, r18, r19, r20⟩⟩
set_option maxRecDepth 20000 in
open Go.WideShapes in
theorem msg_arg {v : Value} {d : DataW H} {p : List MemPlace} (hv : ∃ b0, Value.okWide Try.prog w .any b0 29 v) (h : DataW.Trod enc Try.prog w base spare held 29 v d p) : ∃ cs M, v = .agg cs ∧ MsgRd false w cs.toList M := by
  obtain ⟨b0, hv⟩ := hv
  obtain ⟨cs, rfl, hsz⟩ := okWide_struct Try.underlying29 hv
  obtain ⟨fuel, hf⟩ := h
  obtain ⟨M, hM⟩ := msg_open hf
  exact ⟨cs, M, rfl, hM⟩
end
open Go.RowKit
theorem run_rem {P : Program} {w : World} {ev : Operand → Value} {o : Oper} {x y : Operand} {t t' : TypeId} {k : IntKind} {a b : Int} (ho : o.op = .binOp .rem t x y t') (hx : ev x = .int k a) (hy : ev y = .int k b) (h0 : 0 ≤ a) (hb : 0 < b) : (execOp ev o).run P w = .ok (.value (.int k (a % b))) w := by
  have hg : eqGuard .rem t x y (.int k a) (.int k b) = pure () := rfl
  have hz : (b == 0) = false := by simpa using Int.ne_of_gt hb
  unfold execOp
  simp only [ho, hx, hy, hg, binOp_rem, Sem.run_bind, Sem.run_pure, Result.andThen, Op.intDiv]
  simp [hz, Int.ne_of_gt hb, Int.tmod_eq_emod_of_nonneg h0, Result.andThen]
theorem rem_rng {x y : Int} (hy : 0 < y) : 0 ≤ x % y ∧ x % y < y := ⟨Int.emod_nonneg _ (Int.ne_of_gt hy), Int.emod_lt_of_pos _ hy⟩
theorem cut_h {P : Program} (t e : TypeId) (sz : Nat) {i : TypeInfo} (ht : P.underlying t = some (.slice e)) (hi : P.info? e = some i) (hsz : i.size = sz) (A : Option Addr) (n c : Nat) {k : Int} (h : Nat) (hk : k = (h : Int)) (hh : h ≤ n) (hc : n ≤ c) :
    ∃ A' : Option Addr, (∀ (kh : IntKind) (W : World), (Instr.slice t (.slice A n c) none (some (.int kh k)) none).run P W = .ok (.slice A' h c) W) ∧
      ∀ {α : Type} (m : Bool) (e' : TypeId) (R : World → α → List Value → Prop) (w : World) (xs : List α), RdG m e' sz R w (.slice A n c) xs → RdG m e' sz R w (.slice A' h c) (xs.take h) := by
  subst hk
  obtain ⟨A', h1, h2⟩ := cut_lh (P := P) t e sz ht hi hsz A n c 0 h (Nat.zero_le _) hh hc
  refine ⟨A', fun kh W => ?_, fun m e' R w xs hr => by simpa using h2 m e' R w xs hr⟩
  have h3 := h1 .i64 kh W
  have hel : P.elem t = e := by simp [Program.elem, ht]
  have hu : P.underlying t = some (.slice (P.elem t)) := by rw [hel]; exact ht
  rw [run_slice_h W t A n c hu kh (h : Int) (Int.natCast_nonneg _) (by omega)]
  rw [run_slice_lh W t A n c hu .i64 kh (((0 : Nat) : Int)) (h : Int) (Int.natCast_nonneg _) (by omega) (by omega)] at h3
  simpa using h3
theorem run_cuth {o : Oper} {ev : Operand → Value} {P : Program} {w : World} {t : TypeId} {x y : Operand} {A : Option Addr} {n c : Nat} {kl : IntKind} {k : Int} {v : Value} {e : TypeId} (ho : o.op = .slice t x none (some y) none) (ht : P.underlying t = some (.slice e)) (hx : ev x = .slice A n c) (hy : ev y = .int kl k)
    (hr : (Instr.slice t (.slice A n c) none (some (.int kl k)) none).run P w = .ok v w) : (execOp ev o).run P w = .ok (.value v) w := by
  have hu : (underlying t).run P w = .ok (.slice e) w := run_underlying ht w
  unfold execOp
  simp only [ho, Option.map_some, Option.map_none, hx, hy, Instr.sliceAt, Sem.run_bind, hu, hr, Result.andThen, Sem.run_pure]
end Go.Proofs.Ytbaeecmamacphaa
