/- The statement SrtuCuts holds; no condition of its own. -/
import Derived.Test.YtgjlbabefogepaaGreatKA1
import Derived.Test.YtgjlbabefogepaaGreatKA2
import Derived.Test.YtgjlbabefogepaaGreatKA3
import Derived.Test.YtgjlbabefogepaaGreatKA4
import Derived.Test.YtgjlbabefogepaaGreatKA5
import Derived.Test.YtgjlbabefogepaaGreatKB1
import Derived.Test.YtgjlbabefogepaaGreatRows
import Derived.WalkKit
import Derived.ProofKit
import Derived.OpenShut
import Derived.ShutString
import Derived.ChangeOld
import Derived.Below
import Derived.SizedLaws
set_option linter.unusedVariables false
set_option linter.unusedSimpArgs false
namespace Go.Proofs.YtgjlbabefogepaaGreat
def srtu_feeds (S : SS) (ls : List (List Int)) : SS × List Ev := ls.foldl (fun p b => ((p.1.feed b).1, p.2 ++ (p.1.feed b).2)) (S, [])
theorem srtu_snoc {ls : List (List Int)} {S0 S S2 : SS} {L L2 : List Ev} {k : Nat} (hk : k < ls.length) (h : (S, L) = srtu_feeds S0 (ls.take k)) (hX : S.feed (ls.getD k []) = (S2, L2)) : (S2, L ++ L2) = srtu_feeds S0 (ls.take (k + 1)) := by
  rw [List.take_succ_eq_append_getElem hk]
  unfold srtu_feeds at h ⊢
  rw [List.foldl_append, ← h]
  rw [List.getD_eq_getElem?_getD, List.getElem?_eq_getElem hk] at hX
  simp only [Option.getD_some] at hX
  simp only [List.foldl_cons, List.foldl_nil, hX]
theorem srtu_fold_off {d : Int} {hl : List Int} (ls : List (List Int)) (L : List Ev) : ls.foldl (fun (p : SS × List Ev) b => ((p.1.feed b).1, p.2 ++ (p.1.feed b).2)) (⟨d, hl, true⟩, L) = (⟨d, hl, true⟩, L) := by
  induction ls with
  | nil => rfl
  | cons x t ih => simpa [SS.feed] using ih
theorem srtu_fold {d : Int} : ∀ (ls : List (List Int)) (hl : List Int) (L : List Ev), hl.length ≤ 256 → ls.foldl (fun (p : SS × List Ev) b => ((p.1.feed b).1, p.2 ++ (p.1.feed b).2)) (⟨d, hl, false⟩, L) = (((SS.mk d hl false).feed ls.flatten).1, L ++ ((SS.mk d hl false).feed ls.flatten).2)
  | [], hl, L, h => by simp [SS.feed]
  | x :: t, hl, L, h => by
    rw [List.foldl_cons, List.flatten_cons]
    by_cases hx : x.length ≤ 256 - hl.length
    · have e1 : (SS.mk d hl false).feed x = (⟨d, hl ++ x, false⟩, []) := by simp [SS.feed, hx]
      rw [e1]
      simp only [List.append_nil]
      rw [srtu_fold t (hl ++ x) L (by rw [List.length_append]; omega)]
      have e2 : (SS.mk d (hl ++ x) false).feed t.flatten = (SS.mk d hl false).feed (x ++ t.flatten) := by
        unfold SS.feed
        simp only [Bool.false_eq_true, if_false, decide_eq_true_eq]
        by_cases ht : t.flatten.length ≤ 256 - (hl ++ x).length
        · rw [if_pos ht, if_pos (by simp only [List.length_append] at ht ⊢; omega), List.append_assoc]
        · rw [if_neg ht, if_neg (by simp only [List.length_append] at ht ⊢; omega)]
      rw [e2]
    · have e1 : (SS.mk d hl false).feed x = (⟨d, [], true⟩, [Ev.bad 3]) := by simp [SS.feed, hx]
      have e2 : (SS.mk d hl false).feed (x ++ t.flatten) = (⟨d, [], true⟩, [Ev.bad 3]) := by
        unfold SS.feed
        simp only [Bool.false_eq_true, if_false, decide_eq_true_eq]
        rw [if_neg (by rw [List.length_append]; omega)]
      rw [e1, e2]
      exact srtu_fold_off _ _
theorem srtu_cuts {d : Int} {ls : List (List Int)} {k : Nat} {S T S3 T3 : SS} {L LT L3 LT3 : List Ev} (hk : k = ls.length) (h : (S, L) = srtu_feeds (SS.mk d [] false) (ls.take k)) (hF : (SS.mk d [] false).feed ls.flatten = (T, LT)) (h3 : S.tick = (S3, L3)) (h4 : T.tick = (T3, LT3)) :
    S = T ∧ L ++ L3 = LT ++ LT3 ∧ (L ++ L3).length ≤ 1 := by
  subst hk
  rw [List.take_length] at h
  unfold srtu_feeds at h
  rw [srtu_fold ls [] [] (by simp), hF] at h
  simp only [List.nil_append, Prod.mk.injEq] at h
  obtain ⟨rfl, rfl⟩ := h
  rw [h3] at h4
  injection h4 with h5 h6
  subst h6
  refine ⟨rfl, rfl, ?_⟩
  have k3 : L3 = S.tick.2 := (congrArg Prod.snd h3).symm
  rw [k3]
  unfold SS.feed at hF
  simp only [Bool.false_eq_true, if_false] at hF
  split at hF
  · injection hF with e1 e2
    subst e2
    unfold SS.tick
    simp only [List.nil_append]
    split
    · exact Nat.zero_le _
    · exact Nat.le_refl _
  · injection hF with e1 e2
    subst e1 e2
    exact Nat.le_refl _
end Go.Proofs.YtgjlbabefogepaaGreat
namespace Go.Proofs.YtgjlbabefogepaaGreat
open Go.RowKit
set_option maxRecDepth 100000 in
set_option maxHeartbeats 4000000 in
theorem lawSrtuCuts {w : World} {ans : Bool} {mA : Bool} {A : Option Addr} {cpA : Nat} {ls : List (List Int)} (hA : RdBs mA w (.slice A ls.length cpA) ls) (hbb : ∀ x, x ∈ ls → x.length ≤ 140737488355328) :
    Calls Tryz.prog 3 #[.bool ans, .slice A ls.length cpA] w (PVal (.bool true) w) := by
 have hzA := RdG.len hA
 refine en 84 Tryz.func3 rfl <| sg <| Pl 1 <| ng <| L0 <| Oc <| m1 (@awake19 _) fun w10 hu11 => Pl 1 <| ng <| ?_
 refine Pl 1 <| ?_
 have r12 := RdBs.old hA hu11
 refine L0 <| Oc <| m1 (few19_any r12 hbb) fun w13 hu14 => Pl 1 <| nt <| sq <| sg <| Pl 2 <| nt <| ?_
 have U15 := ut0 hu11 hu14
 refine cb ((!(few19 ls))) (fun q16 => ?_) (fun q16 => ?_)
 have q16n : (few19 ls) = false := by simpa using q16
 refine sg <| Pl 2 <| nt <| rt <| tr <| rr (.bool true) <| ?_
 exact ⟨rfl, U15⟩
 have q16n : (few19 ls) = true := by simpa using q16
 refine skn <| sg <| Pl 1 <| nt <| sq <| sg <| Pl 1 <| nt <| cb (ans) (fun q17 => ?_) (fun q17 => ?_)
 refine go <| Pl 1 <| ng <| Pl 1 <| L0 <| Oc <| e3 srtu_new1 fun g18 w19 hg20 hA21 hu22 => Pl 1 <| ng <| Pl 1 <| L0 <| Oc <| e3 srtu_new1 fun g23 w24 hg25 hA26 hu27 => ?_
 refine Pl 1 <| nt <| sq <| sg <| Pl 6 <| nt <| c0 <| skn <| sg <| ?_
 refine Pl 1 <| nt <| sq <| sg <| Pl 1 <| nt <| bk <| ?_
 obtain ⟨hf1, hf2⟩ := few19_le q16n
 have U28 := ut0 U15 hu22
 have U29 := ut0 U28 hu27
 have r30 := SrtuAt.old hA21 hu27
 refine glp (fun x => [(1, .slice A ls.length cpA), (5, .bool true), (8, .pointer (some ⟨g18, 0, none⟩)), (9, .pointer (some ⟨g23, 0, none⟩)), (10, .slice x.2.2.2.1 x.2.2.1.length x.2.2.2.2), (11, .int .i64 ((x.1 : Nat) : Int))]) (fun (x : Nat × SS × List Ev × Option Addr × Nat) w' => Upd [] w w' ∧ w24.heap.size ≤ w'.heap.size ∧ OwnE w.heap.size w' (.slice x.2.2.2.1 x.2.2.1.length x.2.2.2.2) x.2.2.1 ∧ SrtuAt w' g18 x.2.1 ∧ SrtuAt w' g23 (SS.mk 1 [] false) ∧ (x.1 ≤ ls.length) ∧ ((x.2.1, x.2.2.1) = srtu_feeds (SS.mk 1 [] false) (ls.take x.1)) ∧ (x.2.2.1.length ≤ x.1)) (fun x => ls.length - x.1) (0, (SS.mk 1 [] false), [], none, 0) ⟨U29, lr, (OwnG.nil w.heap.size _ _ (evR true) _), r30, hA26, (by (try dsimp only); omega), rfl, (by (try dsimp only); exact Nat.le_refl _)⟩ ?_
 rintro ⟨k, S, L, B, cq⟩ w31 ⟨hu32, hz39, f33, f34, f35, p36, p37, p38⟩
 refine wkc [(1, .slice A ls.length cpA), (5, .bool true), (8, .pointer (some ⟨g18, 0, none⟩)), (9, .pointer (some ⟨g23, 0, none⟩)), (10, .slice B L.length cq), (11, .int .i64 ((k : Nat) : Int))] ?_
 have f40 : OwnE w.heap.size w31 (.slice B L.length cq) L := f33
 have f41 : SrtuAt w31 g18 S := f34
 have f42 : SrtuAt w31 g23 (SS.mk 1 [] false) := f35
 have p43 : k ≤ ls.length := p36
 have p44 : (S, L) = srtu_feeds (SS.mk 1 [] false) (ls.take k) := p37
 have p45 : L.length ≤ k := p38
 refine sq <| sg <| Pl 4 <| nt <| ?_
 have U46 := ut0 (Upd.refl [] _) hu32
 refine cb ((decide (((k : Nat) : Int) < ((ls.length : Nat) : Int)))) (fun q47 => ?_) (fun q47 => ?_)
 have q47p := of_decide_eq_true q47
 refine skn <| sq <| bk <| sg <| Pl 4 <| x45 (RdBs.elt hA k (by omega)) fun b48 o49 A50 cp51 hA52 hl53 hr54 hc55 hm56 => L0 <| Oix ls.length k hA52 (by omega) <| L0 <| Old (p := ⟨b48, o49 + k, none⟩) (v := .slice A50 ((ls.getD k []).length) cp51) (uc U46 hl53) <| ?_
 have r57 := RdB.old hr54 U46
 refine pr (SS.feed S (ls.getD k [])) fun S58 L59 hX60 => ?_
 refine L0 <| Oc <| so3 (srtu_feed_x hX60 f41 r57 (by have y := sumL_part (ls := ls) (k := k) (by omega); omega)) fun A68 cp69 w61 rd72 hl70 hm71 hA64 hu65 => ?_
 have hk66 := SrtuAt.le hA64
 have hk67 := SS.feed_le hX60
 have r73 := own_stay f40 hu65 (fun x hx => (not_cons (fun e => (not_typeX (SrtuAt.cells f41) f40 (by decide)) (e ▸ hx)) not0)) (evR.upd hu65 (safe_cons (SrtuAt.safe f41 _ (by decide)) safe0))
 refine L0 <| Oape (xs := L) (ys := L59) (.agg #[.int .i64 0, .int .u8 0, .int .u16 0, .int .u8 0, .int .u8 0, .int .u16 0, .int .u16 0, .int .u16 0, .int .u16 0, .int .u16 0, .int .u16 0, .int .u16 0, .int .u16 0, .int .u16 0, .int .u16 0, .slice none 0 0, .slice none 0 0, .slice none 0 0, .slice none 0 0, .int .u8 0, .int .u8 0, .int .u8 0, .int .u8 0, .int .u8 0, .slice none 0 0]) 25 168 r73 (rd72).rd evR.ones (fun w' hv => evR.upd hv (safe_app (ob_safe _ r73 (by decide)) safe0)) (by (try simp only [List.length_append, List.length_cons, List.length_nil, putW_length]); omega) (le (le (le (le (le hu11.size hu14.size) hu22.size) hu27.size) hz39) hu65.size) fun A74 cp75 w76 ho77 hu78 hat79 => Pl 1 <| ng <| Pl 1 <| ?_
 have r82 := SrtuAt.upd hA64 hu78 (not_app (not_typeX (SrtuAt.cells hA64) r73 (by decide)) not0) (safe_app (ob_safe _ r73 (by decide)) safe0)
 refine L0 <| Oc <| m1 (srtu_held r82) fun w80 hu81 => Pl 2 <| ?_
 have U83 := u1 U46 hu65 (ni U15.size hg20)
 have U84 := ut U83 hu78 (all_app (ob_new f40 lr) all0)
 have U85 := ut0 U84 hu81
 refine bl 48 ((decide (256 < ((S58.held.length : Nat) : Int)))) (fun q86 => ?_) (fun q86 => ?_)
 have q86p := of_decide_eq_true q86
 refine Pl 4 <| nt <| c1 <| sg <| Pl 1 <| nt <| rt <| br <| tr <| tr <| br <| ?_
 refine tr <| rr (.bool false) <| ?_
 have hs : false = true := by have y := of_decide_eq_true q86; omega
 rw [hs]
 exact ⟨rfl, U85⟩
 have q86p := of_decide_eq_false q86
 refine Pl 1 <| ?_
 have r89 := SrtuAt.old r82 hu81
 refine L1 <| Oc <| m1 (srtu_held r89) fun w87 hu88 => Pl 2 <| nt <| ?_
 have U90 := ut0 U85 hu88
 refine cb ((decide (((S58.held.length : Nat) : Int) < 0))) (fun q91 => ?_) (fun q91 => ?_)
 have q91p := of_decide_eq_true q91
 refine sg <| Pl 1 <| nt <| rt <| br <| tr <| tr <| br <| tr <| rr (.bool false) <| ?_
 have hs : false = true := by have y := of_decide_eq_true q91; omega
 rw [hs]
 exact ⟨rfl, U90⟩
 have q91p := of_decide_eq_false q91
 refine sk <| bn <| tn <| go <| Pl 1 <| L0 <| Oi (((k : Nat) : Int) + 1) <| Pl 1 <| nl <| ?_
 have U92 := ut0 hu81 hu88
 have r93 := own_stay ho77 U92 (fun x hx => not0) (evR.upd U92 safe0)
 have r94 := SrtuAt.old r89 hu88
 have U95 := ut (Upd.mono (S' := (g18 :: (ob B ++ []))) hu65 (ac im all0)) hu78 (all_app (fun x hx => Or.inl (by simp [hx])) all0)
 have U96 := ut0 U95 hu81
 have U97 := ut0 U96 hu88
 have ne98 := nb (SrtuAt.lt hA21) lr hg25
 have r99 := SrtuAt.upd f42 U97 (not_cons (Ne.symm ne98) (not_app (not_typeX (SrtuAt.cells f42) f40 (by decide)) not0)) (safe_cons (SrtuAt.safe f41 _ (by decide)) (safe_app (ob_safe _ f40 (by decide)) safe0))
 exact lpe ((k + 1), S58, (L ++ L59), A74, cp75) ⟨U90, (le (le (le (le hz39 hu65.size) hu78.size) hu81.size) hu88.size), r93, r94, r99, (by (try dsimp only); omega), (by (try dsimp only); exact srtu_snoc (by omega) p44 hX60), (by (try dsimp only); simp only [List.length_append]; omega)⟩ (by omega)
 have q47p := of_decide_eq_false q47
 refine xt <| tx <| tx <| bx <| tn <| sg <| Pl 2 <| ?_
 have r104 := RdBs.old hA U46
 refine L0 <| Oc <| so2 (join19_any r104 (few19_le q16n).2) fun A105 cp106 w100 rd109 hl107 hm108 hu103 => ?_
 have r110 := SrtuAt.old f42 hu103
 refine pr (SS.feed (SS.mk 1 [] false) ls.flatten) fun S111 L112 hX113 => ?_
 refine L0 <| Oc <| so3 (srtu_feed_x hX113 r110 (rd109).rd (by rw [sumL_flat]; omega)) fun A121 cp122 w114 rd125 hl123 hm124 hA117 hu118 => ?_
 have hk119 := SrtuAt.le hA117
 have hk120 := SS.feed_le hX113
 refine Pl 1 <| ng <| Pl 1 <| ?_
 have U128 := u1 (Upd.mono (S' := [g23]) hu103 all0) hu118 im
 have ne129 := nb (SrtuAt.lt hA21) lr hg25
 have r130 := SrtuAt.upd f41 U128 (not_cons ne129 not0) (safe_cons (SrtuAt.safe f42 _ (by decide)) safe0)
 refine L0 <| Oc <| m1 (srtu_held r130) fun w126 hu127 => Pl 1 <| ?_
 have r133 := SrtuAt.old hA117 hu127
 refine L0 <| Oc <| m1 (srtu_held r133) fun w131 hu132 => Pl 2 <| ng <| Pl 2 <| ?_
 have U134 := ut0 hu127 hu132
 have r135 := SrtuAt.old r130 U134
 refine pr (SS.tick S) fun S136 L137 hX138 => ?_
 refine L0 <| Oc <| so3 (srtu_tick_x hX138 r135) fun A146 cp147 w139 rd150 hl148 hm149 hA142 hu143 => ?_
 have hk144 := SrtuAt.le hA142
 have hk145 := SS.tick_le hX138
 have U151 := ut0 U128 hu127
 have U152 := ut0 U151 hu132
 have U153 := u1 (Upd.mono (S' := [g23, g18]) U152 (ac im all0)) hu143 im
 have r154 := own_stay f40 U153 (fun x hx => (not_cons (fun e => (not_typeX (SrtuAt.cells f42) f40 (by decide)) (e ▸ hx)) (not_cons (fun e => (not_typeX (SrtuAt.cells f41) f40 (by decide)) (e ▸ hx)) not0))) (evR.upd U153 (safe_cons (SrtuAt.safe f42 _ (by decide)) (safe_cons (SrtuAt.safe f41 _ (by decide)) safe0)))
 refine L0 <| Oape (xs := L) (ys := L137) (.agg #[.int .i64 0, .int .u8 0, .int .u16 0, .int .u8 0, .int .u8 0, .int .u16 0, .int .u16 0, .int .u16 0, .int .u16 0, .int .u16 0, .int .u16 0, .int .u16 0, .int .u16 0, .int .u16 0, .int .u16 0, .slice none 0 0, .slice none 0 0, .slice none 0 0, .slice none 0 0, .int .u8 0, .int .u8 0, .int .u8 0, .int .u8 0, .int .u8 0, .slice none 0 0]) 25 168 r154 (rd150).rd evR.ones (fun w' hv => evR.upd hv (safe_app (ob_safe _ r154 (by decide)) safe0)) (by (try simp only [List.length_append, List.length_cons, List.length_nil, putW_length]); omega) (le (le (le (le (le (le (le (le (le hu11.size hu14.size) hu22.size) hu27.size) hz39) hu103.size) hu118.size) hu127.size) hu132.size) hu143.size) fun A155 cp156 w157 ho158 hu159 hat160 => Pl 1 <| ng <| Pl 2 <| ?_
 have U161 := u1 (Upd.mono (S' := [g18]) hu132 all0) hu143 im
 have U162 := ut (Upd.mono (S' := (g18 :: (ob B ++ []))) U161 (ac im all0)) hu159 (all_app (fun x hx => Or.inl (by simp [hx])) all0)
 have r163 := own_stay f40 U151 (fun x hx => (not_cons (fun e => (not_typeX (SrtuAt.cells f42) f40 (by decide)) (e ▸ hx)) not0)) (evR.upd U151 (safe_cons (SrtuAt.safe f42 _ (by decide)) safe0))
 have r164 := SrtuAt.old r130 hu127
 have r165 := SrtuAt.upd r133 U162 (not_cons (Ne.symm ne129) (not_app (not_typeX (SrtuAt.cells r133) r163 (by decide)) not0)) (safe_cons (SrtuAt.safe r164 _ (by decide)) (safe_app (ob_safe _ r163 (by decide)) safe0))
 refine pr (SS.tick S111) fun S166 L167 hX168 => ?_
 refine L0 <| Oc <| so3 (srtu_tick_x hX168 r165) fun A176 cp177 w169 rd180 hl178 hm179 hA172 hu173 => ?_
 have hk174 := SrtuAt.le hA172
 have hk175 := SS.tick_le hX168
 have U181 := u1 (Upd.mono (S' := [g18]) U134 all0) hu143 im
 have U182 := ut (Upd.mono (S' := (g18 :: (ob B ++ []))) U181 (ac im all0)) hu159 (all_app (fun x hx => Or.inl (by simp [hx])) all0)
 have U183 := u1 (Upd.mono (S' := (g18 :: (ob B ++ (g23 :: [])))) U182 (ac im (all_app (fun x hx => Or.inl (by simp [hx])) all0))) hu173 im
 have r184 := own_stay f40 U128 (fun x hx => (not_cons (fun e => (not_typeX (SrtuAt.cells f42) f40 (by decide)) (e ▸ hx)) not0)) (evR.upd U128 (safe_cons (SrtuAt.safe f42 _ (by decide)) safe0))
 have r185 := own_stay rd125 U183 (fun x hx => (not_cons (fun e => (not_old (SrtuAt.lt hA21) (le (le hu27.size hz39) hu103.size) rd125) (e ▸ hx)) (not_app ((rows_young rd125 f40 hu103.size) x hx) (not_cons (fun e => (not_old (SrtuAt.lt hA26) (le hz39 hu103.size) rd125) (e ▸ hx)) not0)))) (evR.upd U183 (safe_cons (SrtuAt.safe r130 _ (by decide)) (safe_app (ob_safe _ r184 (by decide)) (safe_cons (SrtuAt.safe hA117 _ (by decide)) safe0))))
 refine L0 <| Oape (xs := L112) (ys := L167) (.agg #[.int .i64 0, .int .u8 0, .int .u16 0, .int .u8 0, .int .u8 0, .int .u16 0, .int .u16 0, .int .u16 0, .int .u16 0, .int .u16 0, .int .u16 0, .int .u16 0, .int .u16 0, .int .u16 0, .int .u16 0, .slice none 0 0, .slice none 0 0, .slice none 0 0, .slice none 0 0, .int .u8 0, .int .u8 0, .int .u8 0, .int .u8 0, .int .u8 0, .slice none 0 0]) 25 168 r185 (rd180).rd evR.ones (fun w' hv => evR.upd hv (safe_app (ob_safe _ r185 (by decide)) safe0)) (by (try simp only [List.length_append, List.length_cons, List.length_nil, putW_length]); omega) (le (le (le (le (le hu118.size hu127.size) hu132.size) hu143.size) hu159.size) hu173.size) fun A186 cp187 w188 ho189 hu190 hat191 => Pl 1 <| ng <| Pl 5 <| ?_
 have U192 := ut0 U46 hu103
 have U193 := u1 U192 hu118 (ni U28.size hg25)
 have U194 := ut0 U193 hu127
 have U195 := ut0 U194 hu132
 have U196 := u1 U195 hu143 (ni U15.size hg20)
 have U197 := ut U196 hu159 (all_app (ob_new f40 lr) all0)
 have U198 := u1 U197 hu173 (ni U28.size hg25)
 have U199 := ut U198 hu190 (all_app (ob_new rd125 U192.size) all0)
 refine bl 74 ((((S.held.length : Nat) : Int) == ((S111.held.length : Nat) : Int))) (fun q200 => ?_) (fun q200 => ?_)
 have q200p := eq_of_beqi q200
 refine Pl 2 <| ?_
 have U201 := ut (Upd.mono (S' := (g23 :: (ob A121 ++ []))) hu173 (ac im all0)) hu190 (all_app (fun x hx => Or.inl (by simp [hx])) all0)
 have r202 := own_stay rd125 U182 (fun x hx => (not_cons (fun e => (not_old (SrtuAt.lt hA21) (le (le hu27.size hz39) hu103.size) rd125) (e ▸ hx)) (not_app ((rows_young rd125 f40 hu103.size) x hx) not0))) (evR.upd U182 (safe_cons (SrtuAt.safe r130 _ (by decide)) (safe_app (ob_safe _ r184 (by decide)) safe0)))
 have r203 := own_stay ho158 U201 (fun x hx => (not_cons (fun e => (not_typeX (SrtuAt.cells r165) ho158 (by decide)) (e ▸ hx)) (not_app ((rows_from hat160 (rows_old f40 hu103.size rd125) rd125 U181.size) x hx) not0))) (evR.upd U201 (safe_cons (SrtuAt.safe r165 _ (by decide)) (safe_app (ob_safe _ r202 (by decide)) safe0)))
 refine L1 <| Oc <| m1 (all19_any (xs := (L ++ L137)) (ys := (L112 ++ L167)) (r203).rd (ho189).rd) fun w204 hu205 => Pl 2 <| cu 4 [79] 83 (((decide ((L ++ L137) = (L112 ++ L167))) && (decide ((((L ++ L137).length : Nat) : Int) ≤ 1)))) (fun K K207 => ?_) ?_
 refine bl 79 ((decide ((L ++ L137) = (L112 ++ L167)))) (fun q206 => ?_) (fun q206 => ?_)
 have q206p := of_decide_eq_true q206
 exact Pl 4 <| ce K207 (decide ((((L ++ L137).length : Nat) : Int) ≤ 1)) (by rw [q206]; rfl)
 have q206p := of_decide_eq_false q206
 exact Pl 4 <| ce K207 false (by rw [q206]; rfl)
 refine Pl 1 <| nt <| rt <| rr (.bool ((decide ((L ++ L137) = (L112 ++ L167))) && (decide ((((L ++ L137).length : Nat) : Int) ≤ 1)))) <| ?_
 have hs : ((decide ((L ++ L137) = (L112 ++ L167))) && (decide ((((L ++ L137).length : Nat) : Int) ≤ 1))) = true := by obtain ⟨z1, z2, z3⟩ := srtu_cuts (by omega) p44 hX113 hX138 hX168; rw [Bool.and_eq_true]; exact ⟨decide_eq_true z2, decide_eq_true (by omega)⟩
 rw [hs]
 have U208 := ut0 U199 hu205
 exact ⟨rfl, U208⟩
 have q200p := ne_of_beqi q200
 refine Pl 10 <| nt <| rt <| rr (.bool false) <| ?_
 have hs : false = true := by obtain ⟨z1, z2, z3⟩ := srtu_cuts (by omega) p44 hX113 hX138 hX168; rw [z1] at q200; simp at q200
 rw [hs]
 exact ⟨rfl, U199⟩
 refine skn <| sg <| Pl 1 <| L0 <| Oc <| e3 srtu_new0 fun g209 w210 hg211 hA212 hu213 => Pl 1 <| ng <| Pl 1 <| L0 <| Oc <| e3 srtu_new0 fun g214 w215 hg216 hA217 hu218 => Pl 1 <| nl <| ?_
 refine tn <| sq <| sg <| Pl 6 <| nt <| c0 <| skn <| sg <| Pl 1 <| nl <| ?_
 refine tn <| sq <| sg <| Pl 1 <| nt <| bk <| ?_
 obtain ⟨hf1, hf2⟩ := few19_le q16n
 have U219 := ut0 U15 hu213
 have U220 := ut0 U219 hu218
 have r221 := SrtuAt.old hA212 hu218
 refine glp (fun x => [(1, .slice A ls.length cpA), (5, .bool true), (8, .pointer (some ⟨g209, 0, none⟩)), (9, .pointer (some ⟨g214, 0, none⟩)), (10, .slice x.2.2.2.1 x.2.2.1.length x.2.2.2.2), (11, .int .i64 ((x.1 : Nat) : Int))]) (fun (x : Nat × SS × List Ev × Option Addr × Nat) w' => Upd [] w w' ∧ w215.heap.size ≤ w'.heap.size ∧ OwnE w.heap.size w' (.slice x.2.2.2.1 x.2.2.1.length x.2.2.2.2) x.2.2.1 ∧ SrtuAt w' g209 x.2.1 ∧ SrtuAt w' g214 (SS.mk 0 [] false) ∧ (x.1 ≤ ls.length) ∧ ((x.2.1, x.2.2.1) = srtu_feeds (SS.mk 0 [] false) (ls.take x.1)) ∧ (x.2.2.1.length ≤ x.1)) (fun x => ls.length - x.1) (0, (SS.mk 0 [] false), [], none, 0) ⟨U220, lr, (OwnG.nil w.heap.size _ _ (evR true) _), r221, hA217, (by (try dsimp only); omega), rfl, (by (try dsimp only); exact Nat.le_refl _)⟩ ?_
 rintro ⟨k, S, L, B, cq⟩ w222 ⟨hu223, hz230, f224, f225, f226, p227, p228, p229⟩
 refine wkc [(1, .slice A ls.length cpA), (5, .bool true), (8, .pointer (some ⟨g209, 0, none⟩)), (9, .pointer (some ⟨g214, 0, none⟩)), (10, .slice B L.length cq), (11, .int .i64 ((k : Nat) : Int))] ?_
 have f231 : OwnE w.heap.size w222 (.slice B L.length cq) L := f224
 have f232 : SrtuAt w222 g209 S := f225
 have f233 : SrtuAt w222 g214 (SS.mk 0 [] false) := f226
 have p234 : k ≤ ls.length := p227
 have p235 : (S, L) = srtu_feeds (SS.mk 0 [] false) (ls.take k) := p228
 have p236 : L.length ≤ k := p229
 refine sq <| sg <| Pl 4 <| nt <| ?_
 have U237 := ut0 (Upd.refl [] _) hu223
 refine cb ((decide (((k : Nat) : Int) < ((ls.length : Nat) : Int)))) (fun q238 => ?_) (fun q238 => ?_)
 have q238p := of_decide_eq_true q238
 refine skn <| sq <| bk <| sg <| Pl 4 <| x45 (RdBs.elt hA k (by omega)) fun b239 o240 A241 cp242 hA243 hl244 hr245 hc246 hm247 => L0 <| Oix ls.length k hA243 (by omega) <| L0 <| Old (p := ⟨b239, o240 + k, none⟩) (v := .slice A241 ((ls.getD k []).length) cp242) (uc U237 hl244) <| ?_
 have r248 := RdB.old hr245 U237
 refine pr (SS.feed S (ls.getD k [])) fun S249 L250 hX251 => ?_
 refine L0 <| Oc <| so3 (srtu_feed_x hX251 f232 r248 (by have y := sumL_part (ls := ls) (k := k) (by omega); omega)) fun A259 cp260 w252 rd263 hl261 hm262 hA255 hu256 => ?_
 have hk257 := SrtuAt.le hA255
 have hk258 := SS.feed_le hX251
 have r264 := own_stay f231 hu256 (fun x hx => (not_cons (fun e => (not_typeX (SrtuAt.cells f232) f231 (by decide)) (e ▸ hx)) not0)) (evR.upd hu256 (safe_cons (SrtuAt.safe f232 _ (by decide)) safe0))
 refine L0 <| Oape (xs := L) (ys := L250) (.agg #[.int .i64 0, .int .u8 0, .int .u16 0, .int .u8 0, .int .u8 0, .int .u16 0, .int .u16 0, .int .u16 0, .int .u16 0, .int .u16 0, .int .u16 0, .int .u16 0, .int .u16 0, .int .u16 0, .int .u16 0, .slice none 0 0, .slice none 0 0, .slice none 0 0, .slice none 0 0, .int .u8 0, .int .u8 0, .int .u8 0, .int .u8 0, .int .u8 0, .slice none 0 0]) 25 168 r264 (rd263).rd evR.ones (fun w' hv => evR.upd hv (safe_app (ob_safe _ r264 (by decide)) safe0)) (by (try simp only [List.length_append, List.length_cons, List.length_nil, putW_length]); omega) (le (le (le (le (le hu11.size hu14.size) hu213.size) hu218.size) hz230) hu256.size) fun A265 cp266 w267 ho268 hu269 hat270 => Pl 1 <| ng <| Pl 1 <| ?_
 have r273 := SrtuAt.upd hA255 hu269 (not_app (not_typeX (SrtuAt.cells hA255) r264 (by decide)) not0) (safe_app (ob_safe _ r264 (by decide)) safe0)
 refine L0 <| Oc <| m1 (srtu_held r273) fun w271 hu272 => Pl 2 <| ?_
 have U274 := u1 U237 hu256 (ni U15.size hg211)
 have U275 := ut U274 hu269 (all_app (ob_new f231 lr) all0)
 have U276 := ut0 U275 hu272
 refine bl 48 ((decide (256 < ((S249.held.length : Nat) : Int)))) (fun q277 => ?_) (fun q277 => ?_)
 have q277p := of_decide_eq_true q277
 refine Pl 4 <| nt <| c1 <| sg <| Pl 1 <| nt <| rt <| br <| tr <| tr <| br <| ?_
 refine tr <| rr (.bool false) <| ?_
 have hs : false = true := by have y := of_decide_eq_true q277; omega
 rw [hs]
 exact ⟨rfl, U276⟩
 have q277p := of_decide_eq_false q277
 refine Pl 1 <| ?_
 have r280 := SrtuAt.old r273 hu272
 refine L1 <| Oc <| m1 (srtu_held r280) fun w278 hu279 => Pl 2 <| nt <| ?_
 have U281 := ut0 U276 hu279
 refine cb ((decide (((S249.held.length : Nat) : Int) < 0))) (fun q282 => ?_) (fun q282 => ?_)
 have q282p := of_decide_eq_true q282
 refine sg <| Pl 1 <| nt <| rt <| br <| tr <| tr <| br <| tr <| rr (.bool false) <| ?_
 have hs : false = true := by have y := of_decide_eq_true q282; omega
 rw [hs]
 exact ⟨rfl, U281⟩
 have q282p := of_decide_eq_false q282
 refine sk <| bn <| tn <| go <| Pl 1 <| L0 <| Oi (((k : Nat) : Int) + 1) <| Pl 1 <| nl <| ?_
 have U283 := ut0 hu272 hu279
 have r284 := own_stay ho268 U283 (fun x hx => not0) (evR.upd U283 safe0)
 have r285 := SrtuAt.old r280 hu279
 have U286 := ut (Upd.mono (S' := (g209 :: (ob B ++ []))) hu256 (ac im all0)) hu269 (all_app (fun x hx => Or.inl (by simp [hx])) all0)
 have U287 := ut0 U286 hu272
 have U288 := ut0 U287 hu279
 have ne289 := nb (SrtuAt.lt hA212) lr hg216
 have r290 := SrtuAt.upd f233 U288 (not_cons (Ne.symm ne289) (not_app (not_typeX (SrtuAt.cells f233) f231 (by decide)) not0)) (safe_cons (SrtuAt.safe f232 _ (by decide)) (safe_app (ob_safe _ f231 (by decide)) safe0))
 exact lpe ((k + 1), S249, (L ++ L250), A265, cp266) ⟨U281, (le (le (le (le hz230 hu256.size) hu269.size) hu272.size) hu279.size), r284, r285, r290, (by (try dsimp only); omega), (by (try dsimp only); exact srtu_snoc (by omega) p235 hX251), (by (try dsimp only); simp only [List.length_append]; omega)⟩ (by omega)
 have q238p := of_decide_eq_false q238
 refine xt <| tx <| tx <| bx <| tn <| sg <| Pl 2 <| ?_
 have r295 := RdBs.old hA U237
 refine L0 <| Oc <| so2 (join19_any r295 (few19_le q16n).2) fun A296 cp297 w291 rd300 hl298 hm299 hu294 => ?_
 have r301 := SrtuAt.old f233 hu294
 refine pr (SS.feed (SS.mk 0 [] false) ls.flatten) fun S302 L303 hX304 => ?_
 refine L0 <| Oc <| so3 (srtu_feed_x hX304 r301 (rd300).rd (by rw [sumL_flat]; omega)) fun A312 cp313 w305 rd316 hl314 hm315 hA308 hu309 => ?_
 have hk310 := SrtuAt.le hA308
 have hk311 := SS.feed_le hX304
 refine Pl 1 <| ng <| Pl 1 <| ?_
 have U319 := u1 (Upd.mono (S' := [g214]) hu294 all0) hu309 im
 have ne320 := nb (SrtuAt.lt hA212) lr hg216
 have r321 := SrtuAt.upd f232 U319 (not_cons ne320 not0) (safe_cons (SrtuAt.safe f233 _ (by decide)) safe0)
 refine L0 <| Oc <| m1 (srtu_held r321) fun w317 hu318 => Pl 1 <| ?_
 have r324 := SrtuAt.old hA308 hu318
 refine L0 <| Oc <| m1 (srtu_held r324) fun w322 hu323 => Pl 2 <| ng <| Pl 2 <| ?_
 have U325 := ut0 hu318 hu323
 have r326 := SrtuAt.old r321 U325
 refine pr (SS.tick S) fun S327 L328 hX329 => ?_
 refine L0 <| Oc <| so3 (srtu_tick_x hX329 r326) fun A337 cp338 w330 rd341 hl339 hm340 hA333 hu334 => ?_
 have hk335 := SrtuAt.le hA333
 have hk336 := SS.tick_le hX329
 have U342 := ut0 U319 hu318
 have U343 := ut0 U342 hu323
 have U344 := u1 (Upd.mono (S' := [g214, g209]) U343 (ac im all0)) hu334 im
 have r345 := own_stay f231 U344 (fun x hx => (not_cons (fun e => (not_typeX (SrtuAt.cells f233) f231 (by decide)) (e ▸ hx)) (not_cons (fun e => (not_typeX (SrtuAt.cells f232) f231 (by decide)) (e ▸ hx)) not0))) (evR.upd U344 (safe_cons (SrtuAt.safe f233 _ (by decide)) (safe_cons (SrtuAt.safe f232 _ (by decide)) safe0)))
 refine L0 <| Oape (xs := L) (ys := L328) (.agg #[.int .i64 0, .int .u8 0, .int .u16 0, .int .u8 0, .int .u8 0, .int .u16 0, .int .u16 0, .int .u16 0, .int .u16 0, .int .u16 0, .int .u16 0, .int .u16 0, .int .u16 0, .int .u16 0, .int .u16 0, .slice none 0 0, .slice none 0 0, .slice none 0 0, .slice none 0 0, .int .u8 0, .int .u8 0, .int .u8 0, .int .u8 0, .int .u8 0, .slice none 0 0]) 25 168 r345 (rd341).rd evR.ones (fun w' hv => evR.upd hv (safe_app (ob_safe _ r345 (by decide)) safe0)) (by (try simp only [List.length_append, List.length_cons, List.length_nil, putW_length]); omega) (le (le (le (le (le (le (le (le (le hu11.size hu14.size) hu213.size) hu218.size) hz230) hu294.size) hu309.size) hu318.size) hu323.size) hu334.size) fun A346 cp347 w348 ho349 hu350 hat351 => Pl 1 <| ng <| Pl 2 <| ?_
 have U352 := u1 (Upd.mono (S' := [g209]) hu323 all0) hu334 im
 have U353 := ut (Upd.mono (S' := (g209 :: (ob B ++ []))) U352 (ac im all0)) hu350 (all_app (fun x hx => Or.inl (by simp [hx])) all0)
 have r354 := own_stay f231 U342 (fun x hx => (not_cons (fun e => (not_typeX (SrtuAt.cells f233) f231 (by decide)) (e ▸ hx)) not0)) (evR.upd U342 (safe_cons (SrtuAt.safe f233 _ (by decide)) safe0))
 have r355 := SrtuAt.old r321 hu318
 have r356 := SrtuAt.upd r324 U353 (not_cons (Ne.symm ne320) (not_app (not_typeX (SrtuAt.cells r324) r354 (by decide)) not0)) (safe_cons (SrtuAt.safe r355 _ (by decide)) (safe_app (ob_safe _ r354 (by decide)) safe0))
 refine pr (SS.tick S302) fun S357 L358 hX359 => ?_
 refine L0 <| Oc <| so3 (srtu_tick_x hX359 r356) fun A367 cp368 w360 rd371 hl369 hm370 hA363 hu364 => ?_
 have hk365 := SrtuAt.le hA363
 have hk366 := SS.tick_le hX359
 have U372 := u1 (Upd.mono (S' := [g209]) U325 all0) hu334 im
 have U373 := ut (Upd.mono (S' := (g209 :: (ob B ++ []))) U372 (ac im all0)) hu350 (all_app (fun x hx => Or.inl (by simp [hx])) all0)
 have U374 := u1 (Upd.mono (S' := (g209 :: (ob B ++ (g214 :: [])))) U373 (ac im (all_app (fun x hx => Or.inl (by simp [hx])) all0))) hu364 im
 have r375 := own_stay f231 U319 (fun x hx => (not_cons (fun e => (not_typeX (SrtuAt.cells f233) f231 (by decide)) (e ▸ hx)) not0)) (evR.upd U319 (safe_cons (SrtuAt.safe f233 _ (by decide)) safe0))
 have r376 := own_stay rd316 U374 (fun x hx => (not_cons (fun e => (not_old (SrtuAt.lt hA212) (le (le hu218.size hz230) hu294.size) rd316) (e ▸ hx)) (not_app ((rows_young rd316 f231 hu294.size) x hx) (not_cons (fun e => (not_old (SrtuAt.lt hA217) (le hz230 hu294.size) rd316) (e ▸ hx)) not0)))) (evR.upd U374 (safe_cons (SrtuAt.safe r321 _ (by decide)) (safe_app (ob_safe _ r375 (by decide)) (safe_cons (SrtuAt.safe hA308 _ (by decide)) safe0))))
 refine L0 <| Oape (xs := L303) (ys := L358) (.agg #[.int .i64 0, .int .u8 0, .int .u16 0, .int .u8 0, .int .u8 0, .int .u16 0, .int .u16 0, .int .u16 0, .int .u16 0, .int .u16 0, .int .u16 0, .int .u16 0, .int .u16 0, .int .u16 0, .int .u16 0, .slice none 0 0, .slice none 0 0, .slice none 0 0, .slice none 0 0, .int .u8 0, .int .u8 0, .int .u8 0, .int .u8 0, .int .u8 0, .slice none 0 0]) 25 168 r376 (rd371).rd evR.ones (fun w' hv => evR.upd hv (safe_app (ob_safe _ r376 (by decide)) safe0)) (by (try simp only [List.length_append, List.length_cons, List.length_nil, putW_length]); omega) (le (le (le (le (le hu309.size hu318.size) hu323.size) hu334.size) hu350.size) hu364.size) fun A377 cp378 w379 ho380 hu381 hat382 => Pl 1 <| ng <| Pl 5 <| ?_
 have U383 := ut0 U237 hu294
 have U384 := u1 U383 hu309 (ni U219.size hg216)
 have U385 := ut0 U384 hu318
 have U386 := ut0 U385 hu323
 have U387 := u1 U386 hu334 (ni U15.size hg211)
 have U388 := ut U387 hu350 (all_app (ob_new f231 lr) all0)
 have U389 := u1 U388 hu364 (ni U219.size hg216)
 have U390 := ut U389 hu381 (all_app (ob_new rd316 U383.size) all0)
 refine bl 74 ((((S.held.length : Nat) : Int) == ((S302.held.length : Nat) : Int))) (fun q391 => ?_) (fun q391 => ?_)
 have q391p := eq_of_beqi q391
 refine Pl 2 <| ?_
 have U392 := ut (Upd.mono (S' := (g214 :: (ob A312 ++ []))) hu364 (ac im all0)) hu381 (all_app (fun x hx => Or.inl (by simp [hx])) all0)
 have r393 := own_stay rd316 U373 (fun x hx => (not_cons (fun e => (not_old (SrtuAt.lt hA212) (le (le hu218.size hz230) hu294.size) rd316) (e ▸ hx)) (not_app ((rows_young rd316 f231 hu294.size) x hx) not0))) (evR.upd U373 (safe_cons (SrtuAt.safe r321 _ (by decide)) (safe_app (ob_safe _ r375 (by decide)) safe0)))
 have r394 := own_stay ho349 U392 (fun x hx => (not_cons (fun e => (not_typeX (SrtuAt.cells r356) ho349 (by decide)) (e ▸ hx)) (not_app ((rows_from hat351 (rows_old f231 hu294.size rd316) rd316 U372.size) x hx) not0))) (evR.upd U392 (safe_cons (SrtuAt.safe r356 _ (by decide)) (safe_app (ob_safe _ r393 (by decide)) safe0)))
 refine L1 <| Oc <| m1 (all19_any (xs := (L ++ L328)) (ys := (L303 ++ L358)) (r394).rd (ho380).rd) fun w395 hu396 => Pl 2 <| cu 4 [79] 83 (((decide ((L ++ L328) = (L303 ++ L358))) && (decide ((((L ++ L328).length : Nat) : Int) ≤ 1)))) (fun K K398 => ?_) ?_
 refine bl 79 ((decide ((L ++ L328) = (L303 ++ L358)))) (fun q397 => ?_) (fun q397 => ?_)
 have q397p := of_decide_eq_true q397
 exact Pl 4 <| ce K398 (decide ((((L ++ L328).length : Nat) : Int) ≤ 1)) (by rw [q397]; rfl)
 have q397p := of_decide_eq_false q397
 exact Pl 4 <| ce K398 false (by rw [q397]; rfl)
 refine Pl 1 <| nt <| rt <| rr (.bool ((decide ((L ++ L328) = (L303 ++ L358))) && (decide ((((L ++ L328).length : Nat) : Int) ≤ 1)))) <| ?_
 have hs : ((decide ((L ++ L328) = (L303 ++ L358))) && (decide ((((L ++ L328).length : Nat) : Int) ≤ 1))) = true := by obtain ⟨z1, z2, z3⟩ := srtu_cuts (by omega) p235 hX304 hX329 hX359; rw [Bool.and_eq_true]; exact ⟨decide_eq_true z2, decide_eq_true (by omega)⟩
 rw [hs]
 have U399 := ut0 U390 hu396
 exact ⟨rfl, U399⟩
 have q391p := ne_of_beqi q391
 refine Pl 10 <| nt <| rt <| rr (.bool false) <| ?_
 have hs : false = true := by obtain ⟨z1, z2, z3⟩ := srtu_cuts (by omega) p235 hX304 hX329 hX359; rw [z1] at q391; simp at q391
 rw [hs]
 exact ⟨rfl, U390⟩
theorem lawSrtuCutsV {w : World} {ans : Bool} {mA : Bool} {v : Value} {ls : List (List Int)} (hA : RdBs mA w v ls) (hbb : ∀ x, x ∈ ls → x.length ≤ 140737488355328) : Calls Tryz.prog 3 #[.bool ans, v] w (PVal (.bool true) w) := by
  obtain ⟨A0, cp0, rfl, _, _⟩ := hA.shape
  exact lawSrtuCuts (ans := ans) hA hbb
end Go.Proofs.YtgjlbabefogepaaGreat
namespace Go.Proofs.YtgjlbabefogepaaGreat
open Go.ChangeShapes Go.WideShapes Go.ChangeAt Go.RowKit
theorem own : ownKnob Tryz.prog.godebug = none := by kernel_rfl
theorem laidOut : laidOutB Tryz.prog = true := by kernel_rfl
set_option maxRecDepth 100000 in
theorem lifted (os : Os) (started : os.Started) (H : Type) (enc : TypeId × Value → H) :
    ReturnsInHanded {} Tryz.checked os 3 .any (Rows.srtuCutsSpec.pre6 enc Tryz.prog Tryz.f3 Rows.srtuCutsRow.domain false) (Rows.srtuCutsSpec.post enc Tryz.prog Tryz.f3 false true false false) := by
  refine returnsInHanded_of_change_sized (C := Tryz.checked) own started (by kernel_rfl) Tryz.func3
    (ChangeSpec.witness6 (enc := enc) (C := Tryz.checked) false ⟨#[], #[.bool false, .slice none 0 0], []⟩ 8 (by kernel_rfl) (by kernel_rfl) (by kernel_rfl) (by kernel_rfl)) ?_
  intro W base args ds gs before hval0 hW hcnd hsz0 _
  have hval : ∀ (j : Nat) t v, Tryz.f3.params[j]? = some t → args[j]? = some v → Value.okWide Tryz.prog W .any base t v := hval0
  have hW' := hW
  obtain ⟨p, q, hA0, hV, rfl, hfz, hnd⟩ := hW
  have hA : DataW.TrodAll enc Tryz.prog W 0 (fun _ => true) true Tryz.f3.params.toList args.toList ds p := hA0
  rw [Tryz.params3] at hA hval
  obtain ⟨v0, vs0, d0, ds0, p0, q0, hargs, rfl, rfl, h0, r0⟩ := trodAll_cons hA
  obtain ⟨v1, vs1, d1, ds1, p1, q1, rfl, rfl, rfl, h1, r1⟩ := trodAll_cons r0
  obtain ⟨rfl, rfl, rfl⟩ := trodAll_nil r1
  obtain rfl : args = #[v0, v1] := by cases args; simp_all
  obtain ⟨rfl, rfl⟩ := trodVars_none hV
  obtain ⟨a0, rfl, rfl, rfl⟩ := open_bool Tryz.underlying4 (hval 0 4 v0 rfl rfl) h0
  have k1 := h1
  have lt1 : ∀ x ∈ p1, x.block < W.heap.size := by obtain ⟨m, hm⟩ := k1; exact DataW.trod_lt m _ _ _ hm
  obtain ⟨s1, len1, cap1, rfl⟩ := okWide_slice Tryz.underlying22 (hval 1 22 v1 rfl rfl)
  obtain ⟨u1, xs1, e1, R1, L1⟩ : ∃ u xs, [Value.slice s1 len1 cap1] = [u] ∧ RdBs false W u xs ∧ ∀ x, x ∈ xs → x.length ≤ 140737488355328 := by
    obtain ⟨fuel, hf⟩ := k1
    exact bb_open hf (bb_size hsz0 (j := 1) rfl rfl)
  obtain rfl : Value.slice s1 len1 cap1 = u1 := by simpa using e1
  clear hA0 hval0
  refine (lawSrtuCutsV (ans := a0) R1 L1).mono fun e W' ⟨he, hu⟩ => ?_
  have bel := upd_below hu
  subst he
  exact ⟨_, rfl, _, _, _, [], _, [], hW', trodAll_mk1 (shut_bool Tryz.underlying4 _), (trodAll_cons_mk (shut_bool Tryz.underlying4 _) (trodAll_cons_mk (Below.trod laidOut (by kernel_rfl) (of_decide_eq_true (by kernel_rfl)) k1 bel lt1) trodAll_mk0)), rfl, bel.frame _, fun h => by cases h⟩
theorem over : Rows.srtuCutsRow.holds Tryz.pinned (OpenSpec.ofChange Rows.srtuCutsSpec) :=
  OpenClaim.holds_of_wide 3 Tryz.f3 rfl rfl rfl rfl rfl rfl rfl ⟨rfl, rfl, rfl, rfl, rfl⟩ rfl rfl rfl rfl rfl (by kernel_rfl) Tryz.func3 (by kernel_rfl)
    (of_decide_eq_true (by kernel_rfl)) (by unfold Func.isWrapper; first | (rw [if_pos (by decide +kernel)]; kernel_rfl) | (rw [if_neg (by decide +kernel)]; exact ⟨rfl, rfl⟩))
    (fun os started H enc _ => lifted os started H enc)
theorem proved : Rows.SrtuCutsSaid := over
#print axioms proved
end Go.Proofs.YtgjlbabefogepaaGreat
