/- The statement SascCuts holds; no condition of its own. -/
import Derived.Test.YtgjlbabefogepaaGreatKA1
import Derived.Test.YtgjlbabefogepaaGreatKA2
import Derived.Test.YtgjlbabefogepaaGreatKA3
import Derived.Test.YtgjlbabefogepaaGreatKA4
import Derived.Test.YtgjlbabefogepaaGreatKA5
import Derived.Test.YtgjlbabefogepaaGreatKB1
import Derived.Test.YtgjlbabefogepaaGreatRows
import Derived.WalkKit
import Derived.ProofKit
import Derived.OpenShut
import Derived.ShutString
import Derived.ChangeOld
import Derived.Below
import Derived.SizedLaws
set_option linter.unusedVariables false
set_option linter.unusedSimpArgs false
namespace Go.Proofs.YtgjlbabefogepaaGreat
open Go.RowKit
theorem sas_app {S S2 S3 : SA} {a b : List Int} {L L2 : List Ev} (h : S.feed a = (S2, L)) (hX : S2.feed b = (S3, L2)) : S.feed (a ++ b) = (S3, L ++ L2) := by
  have gen : ∀ (b : List Int) (T : SA) (K : List Ev), b.foldl (fun (p : SA × List Ev) c => ((p.1.byte c).1, p.2 ++ (p.1.byte c).2)) (T, K) = ((T.feed b).1, K ++ (T.feed b).2) := by
    intro b
    induction b with
    | nil => intro T K; simp [SA.feed]
    | cons c t ih =>
      intro T K
      unfold SA.feed
      rw [List.foldl_cons, List.foldl_cons, ih, ih]
      simp
  unfold SA.feed at h ⊢
  rw [List.foldl_append, h, gen, hX]
theorem sas_flat {S0 S S2 : SA} {ls : List (List Int)} {L L2 : List Ev} {k : Nat} (hk : k < ls.length) (h : (S, L) = SA.feed S0 (ls.take k).flatten) (hX : S.feed (ls.getD k []) = (S2, L2)) : (S2, L ++ L2) = SA.feed S0 (ls.take (k + 1)).flatten := by
  rw [take_snoc hk, List.flatten_append]
  simpa using (sas_app h.symm hX).symm
theorem sas_cuts {S0 S T : SA} {ls : List (List Int)} {L LT : List Ev} {k : Nat} (hk : k = ls.length) (h : (S, L) = SA.feed S0 (ls.take k).flatten) (hF : S0.feed ls.flatten = (T, LT)) : S = T ∧ L = LT := by
  subst hk
  rw [List.take_length, hF] at h
  injection h with h1 h2
  exact ⟨h1, h2⟩
set_option maxRecDepth 100000 in
set_option maxHeartbeats 4000000 in
theorem lawSascCuts {w : World} {ans : Bool} {mA : Bool} {A : Option Addr} {cpA : Nat} {ls : List (List Int)} (hA : RdBs mA w (.slice A ls.length cpA) ls) (hbb : ∀ x, x ∈ ls → x.length ≤ 140737488355328) :
    Calls Tryz.prog 11 #[.bool ans, .slice A ls.length cpA] w (PVal (.bool true) w) := by
 have hzA := RdG.len hA
 refine en 69 Tryz.func11 rfl <| sg <| Pl 1 <| ng <| L0 <| Oc <| m1 (@awake20 _) fun w10 hu11 => Pl 1 <| ng <| ?_
 refine Pl 1 <| ?_
 have r12 := RdBs.old hA hu11
 refine L0 <| Oc <| m1 (few19_any r12 hbb) fun w13 hu14 => Pl 1 <| nt <| sq <| sg <| Pl 2 <| nt <| ?_
 have U15 := ut0 hu11 hu14
 refine cb ((!(few19 ls))) (fun q16 => ?_) (fun q16 => ?_)
 have q16n : (few19 ls) = false := by simpa using q16
 refine sg <| Pl 2 <| nt <| rt <| tr <| rr (.bool true) <| ?_
 exact ⟨rfl, U15⟩
 have q16n : (few19 ls) = true := by simpa using q16
 refine skn <| sg <| Pl 1 <| nt <| sq <| sg <| Pl 1 <| nt <| cb (ans) (fun q17 => ?_) (fun q17 => ?_)
 refine go <| Pl 1 <| ng <| Pl 1 <| L0 <| Oc <| e3 (sas_new 1 sasc_new1) fun g18 w19 hg20 hA21 hu22 => Pl 1 <| ng <| Pl 1 <| L0 <| Oc <| e3 (sas_new 1 sasc_new1) fun g23 w24 hg25 hA26 hu27 => ?_
 refine Pl 1 <| nt <| sq <| sg <| Pl 6 <| nt <| c0 <| skn <| sg <| ?_
 refine Pl 1 <| nt <| sq <| sg <| Pl 1 <| nt <| bk <| ?_
 obtain ⟨hf1, hf2⟩ := few19_le q16n
 have U28 := ut0 U15 hu22
 have U29 := ut0 U28 hu27
 have r30 := SasAt.upd hA21 hu27 not0 ob_none_not
 refine glp (fun x => [(1, .slice A ls.length cpA), (5, .bool true), (8, .pointer (some ⟨g18, 0, none⟩)), (9, .pointer (some ⟨g23, 0, none⟩)), (10, .slice x.2.2.2.2.2.1 x.2.2.1.length x.2.2.2.2.2.2.1), (11, .int .i64 ((x.1 : Nat) : Int))]) (fun (x : Nat × SA × List Ev × Option Addr × Nat × Option Addr × Nat × Nat) w' => Upd [] w w' ∧ w24.heap.size ≤ w'.heap.size ∧ SasAt x.2.2.2.2.2.2.2 w13.heap.size w' g18 x.2.2.2.1 x.2.2.2.2.1 x.2.1 ∧ SasAt w19.heap.size w19.heap.size w' g23 none 0 (SA.mk 1 []) ∧ OwnV x.2.2.2.2.2.2.2 w.heap.size w' (.slice x.2.2.2.2.2.1 x.2.2.1.length x.2.2.2.2.2.2.1) x.2.2.1 ∧ (x.1 ≤ ls.length) ∧ ((x.2.1, x.2.2.1) = SA.feed (SA.mk 1 []) (ls.take x.1).flatten) ∧ (x.2.2.1.length ≤ sumL (ls.take x.1))) (fun x => ls.length - x.1) (0, (SA.mk 1 []), [], none, 0, none, 0, w13.heap.size) ⟨U29, lr, r30, hA26, (OwnG.nil w.heap.size _ _ (evLow w13.heap.size) _), (by (try dsimp only); omega), rfl, (by (try dsimp only); exact Nat.zero_le _)⟩ ?_
 rintro ⟨k, S, L, Ah, ch, Bq, cq, n⟩ w31 ⟨hu32, hz39, f33, f34, f35, p36, p37, p38⟩
 refine wkc [(1, .slice A ls.length cpA), (5, .bool true), (8, .pointer (some ⟨g18, 0, none⟩)), (9, .pointer (some ⟨g23, 0, none⟩)), (10, .slice Bq L.length cq), (11, .int .i64 ((k : Nat) : Int))] ?_
 have f40 : SasAt n w13.heap.size w31 g18 Ah ch S := f33
 have f41 : SasAt w19.heap.size w19.heap.size w31 g23 none 0 (SA.mk 1 []) := f34
 have f42 : OwnV n w.heap.size w31 (.slice Bq L.length cq) L := f35
 have p43 : k ≤ ls.length := p36
 have p44 : (S, L) = SA.feed (SA.mk 1 []) (ls.take k).flatten := p37
 have p45 : L.length ≤ sumL (ls.take k) := p38
 refine sq <| sg <| Pl 4 <| nt <| ?_
 have U46 := ut0 (Upd.refl [] _) hu32
 refine cb ((decide (((k : Nat) : Int) < ((ls.length : Nat) : Int)))) (fun q47 => ?_) (fun q47 => ?_)
 have q47p := of_decide_eq_true q47
 refine skn <| sq <| bk <| sg <| Pl 4 <| x45 (RdBs.elt hA k (by omega)) fun b48 o49 A50 cp51 hA52 hl53 hr54 hc55 hm56 => L0 <| Oix ls.length k hA52 (by omega) <| L0 <| Old (p := ⟨b48, o49 + k, none⟩) (v := .slice A50 ((ls.getD k []).length) cp51) (uc U46 hl53) <| ?_
 have hpart := sumL_part (ls := ls) (k := k) (by omega)
 have r57 := RdB.old hr54 U46
 refine pr (SA.feed S (ls.getD k [])) fun S58 L59 hX60 => ?_
 have hk71 := SA.feed_le f40.2.2.1 (RdB.range r57) hX60
 refine L0 <| Oc (args := #[.pointer (some ⟨g18, 0, none⟩), .slice A50 ((ls.getD k []).length) cp51]) <| ?_
 refine (sas_feed_x hX60 f40 r57 (far_made (RdG.low hr54) (Nat.le_trans U15.size hg20)) (far_own (RdG.low hr54) (SasAt.row f40) U15.size) (by have y := sumL_part (ls := ls) (k := k) (by omega); omega)).mono ?_
 rintro _ w65 ⟨v61, A62, cp63, n64, rfl, ho66, hA67, hat68, hn69, hu70⟩
 refine ⟨_, rfl, ?_⟩
 have hk72 := SasAt.le hA67
 have rd77 := ho66
 obtain ⟨A73, cp74, rfl, hl75, hm76⟩ := RdG.shape rd77.rd
 have r78 := own_stay f42 hu70 (fun x hx => (not_cons (fun e => (not_typeX (SasAt.cells f40) f42 (by decide)) (e ▸ hx)) (not_app ((rows_type f42 (SasAt.row f40) (by decide)) x hx) not0))) (fun x cs q => evLow.upd hu70 (apt_s (SasAt.cells f40) (by decide) (apt_n (low_le (Nat.le_refl _) (SasAt.low f40)) apt_nil)) q)
 refine L0 <| Oape (R := evLow n64) (xs := L) (ys := L59) (.agg #[.int .i64 0, .int .u8 0, .int .u16 0, .int .u8 0, .int .u8 0, .int .u16 0, .int .u16 0, .int .u16 0, .int .u16 0, .int .u16 0, .int .u16 0, .int .u16 0, .int .u16 0, .int .u16 0, .int .u16 0, .slice none 0 0, .slice none 0 0, .slice none 0 0, .slice none 0 0, .int .u8 0, .int .u8 0, .int .u8 0, .int .u8 0, .int .u8 0, .slice none 0 0]) 25 168 (OwnV.up hn69 (SasAt.nle hA67) r78) (rd77).rd evLow.ones (fun w' hv x cs q => evLow.upd hv (apt_o r78 (by decide) apt_nil) q) (by (try simp only [List.length_append, List.length_cons, List.length_nil, putW_length]); omega) (le (le (le (le (le hu11.size hu14.size) hu22.size) hu27.size) hz39) hu70.size) fun A79 cp80 w81 ho82 hu83 hat84 => Pl 1 <| ng <| Pl 1 <| ?_
 have r87 := SasAt.upd hA67 hu83 (not_app (not_typeX (SasAt.cells hA67) r78 (by decide)) not0) (fun x hx => (not_app ((rows_type (SasAt.row hA67) r78 (by decide)) x hx) not0))
 refine L0 <| Oc <| m1 (sas_held r87) fun w85 hu86 => Pl 2 <| ?_
 have U88 := ut U46 hu70 (ac (ni U15.size hg20) (all_app (ob_new (SasAt.row f40) U15.size) all0))
 have U89 := ut U88 hu83 (all_app (ob_new f42 lr) all0)
 have U90 := ut0 U89 hu86
 refine bl 47 ((decide (513 < ((S58.held.length : Nat) : Int)))) (fun q91 => ?_) (fun q91 => ?_)
 have q91p := of_decide_eq_true q91
 refine Pl 4 <| nt <| c1 <| sg <| Pl 1 <| nt <| rt <| br <| tr <| tr <| br <| ?_
 refine tr <| rr (.bool false) <| ?_
 have hs : false = true := by have y := of_decide_eq_true q91; omega
 rw [hs]
 exact ⟨rfl, U90⟩
 have q91p := of_decide_eq_false q91
 refine Pl 1 <| ?_
 have r94 := SasAt.upd r87 hu86 not0 (fun x hx => not0)
 refine L1 <| Oc <| m1 (sas_held r94) fun w92 hu93 => Pl 2 <| nt <| ?_
 have U95 := ut0 U90 hu93
 refine cb ((decide (((S58.held.length : Nat) : Int) < 0))) (fun q96 => ?_) (fun q96 => ?_)
 have q96p := of_decide_eq_true q96
 refine sg <| Pl 1 <| nt <| rt <| br <| tr <| tr <| br <| tr <| rr (.bool false) <| ?_
 have hs : false = true := by have y := of_decide_eq_true q96; omega
 rw [hs]
 exact ⟨rfl, U95⟩
 have q96p := of_decide_eq_false q96
 refine sk <| bn <| tn <| go <| Pl 1 <| L0 <| Oi (((k : Nat) : Int) + 1) <| Pl 1 <| nl <| ?_
 have r97 := SasAt.upd r94 hu93 not0 (fun x hx => not0)
 have U98 := ut (Upd.mono (S' := (g18 :: (ob Ah ++ (ob Bq ++ [])))) hu70 (ac im (all_app (fun x hx => Or.inl (by simp [hx])) all0))) hu83 (all_app (fun x hx => Or.inl (by simp [hx])) all0)
 have U99 := ut0 U98 hu86
 have U100 := ut0 U99 hu93
 have ne101 := nb (SasAt.lt hA21) lr hg25
 have r102 := SasAt.upd f41 U100 (not_cons (Ne.symm ne101) (not_app (not_typeX (SasAt.cells f41) (SasAt.row f40) (by decide)) (not_app (not_typeX (SasAt.cells f41) f42 (by decide)) not0))) ob_none_not
 have U103 := ut0 hu86 hu93
 have r104 := own_stay ho82 U103 (fun x hx => not0) (fun x cs q => evLow.upd U103 apt_nil q)
 exact lpe ((k + 1), S58, (L ++ L59), A62, cp63, A79, cp80, n64) ⟨U95, (le (le (le (le hz39 hu70.size) hu83.size) hu86.size) hu93.size), r97, r102, r104, (by (try dsimp only); omega), (by (try dsimp only); exact sas_flat (by omega) p44 hX60), (by (try dsimp only); have y := sumL_snoc (ls := ls) (k := k) (by omega); simp only [List.length_append]; omega)⟩ (by omega)
 have q47p := of_decide_eq_false q47
 refine xt <| tx <| tx <| bx <| tn <| sg <| Pl 2 <| ?_
 have r109 := RdBs.old hA U46
 refine L0 <| Oc <| so2 (join19_any r109 (few19_le q16n).2) fun A110 cp111 w105 rd114 hl112 hm113 hu108 => ?_
 have r115 := SasAt.upd f41 hu108 not0 ob_none_not
 refine pr (SA.feed (SA.mk 1 []) ls.flatten) fun S116 L117 hX118 => ?_
 have hk129 := SA.feed_le r115.2.2.1 (RdB.range (rd114).rd) hX118
 refine L0 <| Oc (args := #[.pointer (some ⟨g23, 0, none⟩), .slice A110 ls.flatten.length cp111]) <| ?_
 refine (sas_feed_x hX118 r115 (rd114).rd (far_ne (not_old (SasAt.lt hA26) hz39 rd114)) far_none (by rw [sumL_flat]; omega)).mono ?_
 rintro _ w123 ⟨v119, A120, cp121, n122, rfl, ho124, hA125, hat126, hn127, hu128⟩
 refine ⟨_, rfl, ?_⟩
 have hu130 : Upd [g23] w105 w123 := hu128
 have hk131 := SasAt.le hA125
 have rd136 := ho124
 obtain ⟨A132, cp133, rfl, hl134, hm135⟩ := RdG.shape rd136.rd
 refine Pl 1 <| ng <| Pl 4 <| ?_
 have U137 := u1 (Upd.mono (S' := [g23]) hu108 all0) hu130 im
 have r138 := own_stay f42 U137 (fun x hx => (not_cons (fun e => (not_typeX (SasAt.cells f41) f42 (by decide)) (e ▸ hx)) not0)) (fun x cs q => evLow.upd U137 (apt_s (SasAt.cells f41) (by decide) apt_nil) q)
 refine L1 <| Oc <| m1 (all19_any (xs := L) (ys := L117) (OwnV.own r138).rd (OwnV.own rd136).rd) fun w139 hu140 => Pl 2 <| ?_
 have U141 := ut0 U46 hu108
 have U142 := u1 U141 hu130 (ni U28.size hg25)
 have U143 := ut0 U142 hu140
 refine bl 62 ((decide (L = L117))) (fun q144 => ?_) (fun q144 => ?_)
 have q144p := of_decide_eq_true q144
 refine Pl 1 <| ?_
 have U147 := ut0 U137 hu140
 have ne148 := nb (SasAt.lt hA21) lr hg25
 have r149 := SasAt.upd f40 U147 (not_cons ne148 not0) (fun x hx => (not_cons (fun e => (not_typeX (SasAt.cells f41) (SasAt.row f40) (by decide)) (e ▸ hx)) not0))
 refine L1 <| Oc <| m1 (sas_held r149) fun w145 hu146 => Pl 1 <| ?_
 have U152 := ut0 hu140 hu146
 have r153 := SasAt.upd hA125 U152 not0 (fun x hx => not0)
 refine L1 <| Oc <| m1 (sas_held r153) fun w150 hu151 => Pl 3 <| nt <| rt <| rr (.bool (((S.held.length : Nat) : Int) == ((S116.held.length : Nat) : Int))) <| ?_
 have hs : (((S.held.length : Nat) : Int) == ((S116.held.length : Nat) : Int)) = true := by obtain ⟨z1, z2⟩ := sas_cuts (by omega) p44 hX118; rw [z1]; simp
 rw [hs]
 have U154 := ut0 U143 hu146
 have U155 := ut0 U154 hu151
 exact ⟨rfl, U155⟩
 have q144p := of_decide_eq_false q144
 refine Pl 7 <| nt <| rt <| rr (.bool false) <| ?_
 have hs : false = true := by obtain ⟨z1, z2⟩ := sas_cuts (by omega) p44 hX118; rw [decide_eq_true z2] at q144; cases q144
 rw [hs]
 exact ⟨rfl, U143⟩
 refine skn <| sg <| Pl 1 <| L0 <| Oc <| e3 (sas_new 0 sasc_new0) fun g156 w157 hg158 hA159 hu160 => Pl 1 <| ng <| Pl 1 <| L0 <| Oc <| e3 (sas_new 0 sasc_new0) fun g161 w162 hg163 hA164 hu165 => Pl 1 <| nl <| ?_
 refine tn <| sq <| sg <| Pl 6 <| nt <| c0 <| skn <| sg <| Pl 1 <| nl <| ?_
 refine tn <| sq <| sg <| Pl 1 <| nt <| bk <| ?_
 obtain ⟨hf1, hf2⟩ := few19_le q16n
 have U166 := ut0 U15 hu160
 have U167 := ut0 U166 hu165
 have r168 := SasAt.upd hA159 hu165 not0 ob_none_not
 refine glp (fun x => [(1, .slice A ls.length cpA), (5, .bool true), (8, .pointer (some ⟨g156, 0, none⟩)), (9, .pointer (some ⟨g161, 0, none⟩)), (10, .slice x.2.2.2.2.2.1 x.2.2.1.length x.2.2.2.2.2.2.1), (11, .int .i64 ((x.1 : Nat) : Int))]) (fun (x : Nat × SA × List Ev × Option Addr × Nat × Option Addr × Nat × Nat) w' => Upd [] w w' ∧ w162.heap.size ≤ w'.heap.size ∧ SasAt x.2.2.2.2.2.2.2 w13.heap.size w' g156 x.2.2.2.1 x.2.2.2.2.1 x.2.1 ∧ SasAt w157.heap.size w157.heap.size w' g161 none 0 (SA.mk 0 []) ∧ OwnV x.2.2.2.2.2.2.2 w.heap.size w' (.slice x.2.2.2.2.2.1 x.2.2.1.length x.2.2.2.2.2.2.1) x.2.2.1 ∧ (x.1 ≤ ls.length) ∧ ((x.2.1, x.2.2.1) = SA.feed (SA.mk 0 []) (ls.take x.1).flatten) ∧ (x.2.2.1.length ≤ sumL (ls.take x.1))) (fun x => ls.length - x.1) (0, (SA.mk 0 []), [], none, 0, none, 0, w13.heap.size) ⟨U167, lr, r168, hA164, (OwnG.nil w.heap.size _ _ (evLow w13.heap.size) _), (by (try dsimp only); omega), rfl, (by (try dsimp only); exact Nat.zero_le _)⟩ ?_
 rintro ⟨k, S, L, Ah, ch, Bq, cq, n⟩ w169 ⟨hu170, hz177, f171, f172, f173, p174, p175, p176⟩
 refine wkc [(1, .slice A ls.length cpA), (5, .bool true), (8, .pointer (some ⟨g156, 0, none⟩)), (9, .pointer (some ⟨g161, 0, none⟩)), (10, .slice Bq L.length cq), (11, .int .i64 ((k : Nat) : Int))] ?_
 have f178 : SasAt n w13.heap.size w169 g156 Ah ch S := f171
 have f179 : SasAt w157.heap.size w157.heap.size w169 g161 none 0 (SA.mk 0 []) := f172
 have f180 : OwnV n w.heap.size w169 (.slice Bq L.length cq) L := f173
 have p181 : k ≤ ls.length := p174
 have p182 : (S, L) = SA.feed (SA.mk 0 []) (ls.take k).flatten := p175
 have p183 : L.length ≤ sumL (ls.take k) := p176
 refine sq <| sg <| Pl 4 <| nt <| ?_
 have U184 := ut0 (Upd.refl [] _) hu170
 refine cb ((decide (((k : Nat) : Int) < ((ls.length : Nat) : Int)))) (fun q185 => ?_) (fun q185 => ?_)
 have q185p := of_decide_eq_true q185
 refine skn <| sq <| bk <| sg <| Pl 4 <| x45 (RdBs.elt hA k (by omega)) fun b186 o187 A188 cp189 hA190 hl191 hr192 hc193 hm194 => L0 <| Oix ls.length k hA190 (by omega) <| L0 <| Old (p := ⟨b186, o187 + k, none⟩) (v := .slice A188 ((ls.getD k []).length) cp189) (uc U184 hl191) <| ?_
 have hpart := sumL_part (ls := ls) (k := k) (by omega)
 have r195 := RdB.old hr192 U184
 refine pr (SA.feed S (ls.getD k [])) fun S196 L197 hX198 => ?_
 have hk209 := SA.feed_le f178.2.2.1 (RdB.range r195) hX198
 refine L0 <| Oc (args := #[.pointer (some ⟨g156, 0, none⟩), .slice A188 ((ls.getD k []).length) cp189]) <| ?_
 refine (sas_feed_x hX198 f178 r195 (far_made (RdG.low hr192) (Nat.le_trans U15.size hg158)) (far_own (RdG.low hr192) (SasAt.row f178) U15.size) (by have y := sumL_part (ls := ls) (k := k) (by omega); omega)).mono ?_
 rintro _ w203 ⟨v199, A200, cp201, n202, rfl, ho204, hA205, hat206, hn207, hu208⟩
 refine ⟨_, rfl, ?_⟩
 have hk210 := SasAt.le hA205
 have rd215 := ho204
 obtain ⟨A211, cp212, rfl, hl213, hm214⟩ := RdG.shape rd215.rd
 have r216 := own_stay f180 hu208 (fun x hx => (not_cons (fun e => (not_typeX (SasAt.cells f178) f180 (by decide)) (e ▸ hx)) (not_app ((rows_type f180 (SasAt.row f178) (by decide)) x hx) not0))) (fun x cs q => evLow.upd hu208 (apt_s (SasAt.cells f178) (by decide) (apt_n (low_le (Nat.le_refl _) (SasAt.low f178)) apt_nil)) q)
 refine L0 <| Oape (R := evLow n202) (xs := L) (ys := L197) (.agg #[.int .i64 0, .int .u8 0, .int .u16 0, .int .u8 0, .int .u8 0, .int .u16 0, .int .u16 0, .int .u16 0, .int .u16 0, .int .u16 0, .int .u16 0, .int .u16 0, .int .u16 0, .int .u16 0, .int .u16 0, .slice none 0 0, .slice none 0 0, .slice none 0 0, .slice none 0 0, .int .u8 0, .int .u8 0, .int .u8 0, .int .u8 0, .int .u8 0, .slice none 0 0]) 25 168 (OwnV.up hn207 (SasAt.nle hA205) r216) (rd215).rd evLow.ones (fun w' hv x cs q => evLow.upd hv (apt_o r216 (by decide) apt_nil) q) (by (try simp only [List.length_append, List.length_cons, List.length_nil, putW_length]); omega) (le (le (le (le (le hu11.size hu14.size) hu160.size) hu165.size) hz177) hu208.size) fun A217 cp218 w219 ho220 hu221 hat222 => Pl 1 <| ng <| Pl 1 <| ?_
 have r225 := SasAt.upd hA205 hu221 (not_app (not_typeX (SasAt.cells hA205) r216 (by decide)) not0) (fun x hx => (not_app ((rows_type (SasAt.row hA205) r216 (by decide)) x hx) not0))
 refine L0 <| Oc <| m1 (sas_held r225) fun w223 hu224 => Pl 2 <| ?_
 have U226 := ut U184 hu208 (ac (ni U15.size hg158) (all_app (ob_new (SasAt.row f178) U15.size) all0))
 have U227 := ut U226 hu221 (all_app (ob_new f180 lr) all0)
 have U228 := ut0 U227 hu224
 refine bl 47 ((decide (513 < ((S196.held.length : Nat) : Int)))) (fun q229 => ?_) (fun q229 => ?_)
 have q229p := of_decide_eq_true q229
 refine Pl 4 <| nt <| c1 <| sg <| Pl 1 <| nt <| rt <| br <| tr <| tr <| br <| ?_
 refine tr <| rr (.bool false) <| ?_
 have hs : false = true := by have y := of_decide_eq_true q229; omega
 rw [hs]
 exact ⟨rfl, U228⟩
 have q229p := of_decide_eq_false q229
 refine Pl 1 <| ?_
 have r232 := SasAt.upd r225 hu224 not0 (fun x hx => not0)
 refine L1 <| Oc <| m1 (sas_held r232) fun w230 hu231 => Pl 2 <| nt <| ?_
 have U233 := ut0 U228 hu231
 refine cb ((decide (((S196.held.length : Nat) : Int) < 0))) (fun q234 => ?_) (fun q234 => ?_)
 have q234p := of_decide_eq_true q234
 refine sg <| Pl 1 <| nt <| rt <| br <| tr <| tr <| br <| tr <| rr (.bool false) <| ?_
 have hs : false = true := by have y := of_decide_eq_true q234; omega
 rw [hs]
 exact ⟨rfl, U233⟩
 have q234p := of_decide_eq_false q234
 refine sk <| bn <| tn <| go <| Pl 1 <| L0 <| Oi (((k : Nat) : Int) + 1) <| Pl 1 <| nl <| ?_
 have r235 := SasAt.upd r232 hu231 not0 (fun x hx => not0)
 have U236 := ut (Upd.mono (S' := (g156 :: (ob Ah ++ (ob Bq ++ [])))) hu208 (ac im (all_app (fun x hx => Or.inl (by simp [hx])) all0))) hu221 (all_app (fun x hx => Or.inl (by simp [hx])) all0)
 have U237 := ut0 U236 hu224
 have U238 := ut0 U237 hu231
 have ne239 := nb (SasAt.lt hA159) lr hg163
 have r240 := SasAt.upd f179 U238 (not_cons (Ne.symm ne239) (not_app (not_typeX (SasAt.cells f179) (SasAt.row f178) (by decide)) (not_app (not_typeX (SasAt.cells f179) f180 (by decide)) not0))) ob_none_not
 have U241 := ut0 hu224 hu231
 have r242 := own_stay ho220 U241 (fun x hx => not0) (fun x cs q => evLow.upd U241 apt_nil q)
 exact lpe ((k + 1), S196, (L ++ L197), A200, cp201, A217, cp218, n202) ⟨U233, (le (le (le (le hz177 hu208.size) hu221.size) hu224.size) hu231.size), r235, r240, r242, (by (try dsimp only); omega), (by (try dsimp only); exact sas_flat (by omega) p182 hX198), (by (try dsimp only); have y := sumL_snoc (ls := ls) (k := k) (by omega); simp only [List.length_append]; omega)⟩ (by omega)
 have q185p := of_decide_eq_false q185
 refine xt <| tx <| tx <| bx <| tn <| sg <| Pl 2 <| ?_
 have r247 := RdBs.old hA U184
 refine L0 <| Oc <| so2 (join19_any r247 (few19_le q16n).2) fun A248 cp249 w243 rd252 hl250 hm251 hu246 => ?_
 have r253 := SasAt.upd f179 hu246 not0 ob_none_not
 refine pr (SA.feed (SA.mk 0 []) ls.flatten) fun S254 L255 hX256 => ?_
 have hk267 := SA.feed_le r253.2.2.1 (RdB.range (rd252).rd) hX256
 refine L0 <| Oc (args := #[.pointer (some ⟨g161, 0, none⟩), .slice A248 ls.flatten.length cp249]) <| ?_
 refine (sas_feed_x hX256 r253 (rd252).rd (far_ne (not_old (SasAt.lt hA164) hz177 rd252)) far_none (by rw [sumL_flat]; omega)).mono ?_
 rintro _ w261 ⟨v257, A258, cp259, n260, rfl, ho262, hA263, hat264, hn265, hu266⟩
 refine ⟨_, rfl, ?_⟩
 have hu268 : Upd [g161] w243 w261 := hu266
 have hk269 := SasAt.le hA263
 have rd274 := ho262
 obtain ⟨A270, cp271, rfl, hl272, hm273⟩ := RdG.shape rd274.rd
 refine Pl 1 <| ng <| Pl 4 <| ?_
 have U275 := u1 (Upd.mono (S' := [g161]) hu246 all0) hu268 im
 have r276 := own_stay f180 U275 (fun x hx => (not_cons (fun e => (not_typeX (SasAt.cells f179) f180 (by decide)) (e ▸ hx)) not0)) (fun x cs q => evLow.upd U275 (apt_s (SasAt.cells f179) (by decide) apt_nil) q)
 refine L1 <| Oc <| m1 (all19_any (xs := L) (ys := L255) (OwnV.own r276).rd (OwnV.own rd274).rd) fun w277 hu278 => Pl 2 <| ?_
 have U279 := ut0 U184 hu246
 have U280 := u1 U279 hu268 (ni U166.size hg163)
 have U281 := ut0 U280 hu278
 refine bl 62 ((decide (L = L255))) (fun q282 => ?_) (fun q282 => ?_)
 have q282p := of_decide_eq_true q282
 refine Pl 1 <| ?_
 have U285 := ut0 U275 hu278
 have ne286 := nb (SasAt.lt hA159) lr hg163
 have r287 := SasAt.upd f178 U285 (not_cons ne286 not0) (fun x hx => (not_cons (fun e => (not_typeX (SasAt.cells f179) (SasAt.row f178) (by decide)) (e ▸ hx)) not0))
 refine L1 <| Oc <| m1 (sas_held r287) fun w283 hu284 => Pl 1 <| ?_
 have U290 := ut0 hu278 hu284
 have r291 := SasAt.upd hA263 U290 not0 (fun x hx => not0)
 refine L1 <| Oc <| m1 (sas_held r291) fun w288 hu289 => Pl 3 <| nt <| rt <| rr (.bool (((S.held.length : Nat) : Int) == ((S254.held.length : Nat) : Int))) <| ?_
 have hs : (((S.held.length : Nat) : Int) == ((S254.held.length : Nat) : Int)) = true := by obtain ⟨z1, z2⟩ := sas_cuts (by omega) p182 hX256; rw [z1]; simp
 rw [hs]
 have U292 := ut0 U281 hu284
 have U293 := ut0 U292 hu289
 exact ⟨rfl, U293⟩
 have q282p := of_decide_eq_false q282
 refine Pl 7 <| nt <| rt <| rr (.bool false) <| ?_
 have hs : false = true := by obtain ⟨z1, z2⟩ := sas_cuts (by omega) p182 hX256; rw [decide_eq_true z2] at q282; cases q282
 rw [hs]
 exact ⟨rfl, U281⟩
theorem lawSascCutsV {w : World} {ans : Bool} {mA : Bool} {v : Value} {ls : List (List Int)} (hA : RdBs mA w v ls) (hbb : ∀ x, x ∈ ls → x.length ≤ 140737488355328) : Calls Tryz.prog 11 #[.bool ans, v] w (PVal (.bool true) w) := by
  obtain ⟨A0, cp0, rfl, _, _⟩ := hA.shape
  exact lawSascCuts (ans := ans) hA hbb
end Go.Proofs.YtgjlbabefogepaaGreat
namespace Go.Proofs.YtgjlbabefogepaaGreat
open Go.ChangeShapes Go.WideShapes Go.ChangeAt Go.RowKit
theorem own : ownKnob Tryz.prog.godebug = none := by kernel_rfl
theorem laidOut : laidOutB Tryz.prog = true := by kernel_rfl
set_option maxRecDepth 100000 in
theorem lifted (os : Os) (started : os.Started) (H : Type) (enc : TypeId × Value → H) :
    ReturnsInHanded {} Tryz.checked os 11 .any (Rows.sascCutsSpec.pre6 enc Tryz.prog Tryz.f11 Rows.sascCutsRow.domain false) (Rows.sascCutsSpec.post enc Tryz.prog Tryz.f11 false true false false) := by
  refine returnsInHanded_of_change_sized (C := Tryz.checked) own started (by kernel_rfl) Tryz.func11
    (ChangeSpec.witness6 (enc := enc) (C := Tryz.checked) false ⟨#[], #[.bool false, .slice none 0 0], []⟩ 8 (by kernel_rfl) (by kernel_rfl) (by kernel_rfl) (by kernel_rfl)) ?_
  intro W base args ds gs before hval0 hW hcnd hsz0 _
  have hval : ∀ (j : Nat) t v, Tryz.f11.params[j]? = some t → args[j]? = some v → Value.okWide Tryz.prog W .any base t v := hval0
  have hW' := hW
  obtain ⟨p, q, hA0, hV, rfl, hfz, hnd⟩ := hW
  have hA : DataW.TrodAll enc Tryz.prog W 0 (fun _ => true) true Tryz.f11.params.toList args.toList ds p := hA0
  rw [Tryz.params11] at hA hval
  obtain ⟨v0, vs0, d0, ds0, p0, q0, hargs, rfl, rfl, h0, r0⟩ := trodAll_cons hA
  obtain ⟨v1, vs1, d1, ds1, p1, q1, rfl, rfl, rfl, h1, r1⟩ := trodAll_cons r0
  obtain ⟨rfl, rfl, rfl⟩ := trodAll_nil r1
  obtain rfl : args = #[v0, v1] := by cases args; simp_all
  obtain ⟨rfl, rfl⟩ := trodVars_none hV
  obtain ⟨a0, rfl, rfl, rfl⟩ := open_bool Tryz.underlying4 (hval 0 4 v0 rfl rfl) h0
  have k1 := h1
  have lt1 : ∀ x ∈ p1, x.block < W.heap.size := by obtain ⟨m, hm⟩ := k1; exact DataW.trod_lt m _ _ _ hm
  obtain ⟨s1, len1, cap1, rfl⟩ := okWide_slice Tryz.underlying22 (hval 1 22 v1 rfl rfl)
  obtain ⟨u1, xs1, e1, R1, L1⟩ : ∃ u xs, [Value.slice s1 len1 cap1] = [u] ∧ RdBs false W u xs ∧ ∀ x, x ∈ xs → x.length ≤ 140737488355328 := by
    obtain ⟨fuel, hf⟩ := k1
    exact bb_open hf (bb_size hsz0 (j := 1) rfl rfl)
  obtain rfl : Value.slice s1 len1 cap1 = u1 := by simpa using e1
  clear hA0 hval0
  refine (lawSascCutsV (ans := a0) R1 L1).mono fun e W' ⟨he, hu⟩ => ?_
  have bel := upd_below hu
  subst he
  exact ⟨_, rfl, _, _, _, [], _, [], hW', trodAll_mk1 (shut_bool Tryz.underlying4 _), (trodAll_cons_mk (shut_bool Tryz.underlying4 _) (trodAll_cons_mk (Below.trod laidOut (by kernel_rfl) (of_decide_eq_true (by kernel_rfl)) k1 bel lt1) trodAll_mk0)), rfl, bel.frame _, fun h => by cases h⟩
theorem over : Rows.sascCutsRow.holds Tryz.pinned (OpenSpec.ofChange Rows.sascCutsSpec) :=
  OpenClaim.holds_of_wide 11 Tryz.f11 rfl rfl rfl rfl rfl rfl rfl ⟨rfl, rfl, rfl, rfl, rfl⟩ rfl rfl rfl rfl rfl (by kernel_rfl) Tryz.func11 (by kernel_rfl)
    (of_decide_eq_true (by kernel_rfl)) (by unfold Func.isWrapper; first | (rw [if_pos (by decide +kernel)]; kernel_rfl) | (rw [if_neg (by decide +kernel)]; exact ⟨rfl, rfl⟩))
    (fun os started H enc _ => lifted os started H enc)
theorem proved : Rows.SascCutsSaid := over
#print axioms proved
end Go.Proofs.YtgjlbabefogepaaGreat
