/- The statement SrtuNoise holds; no condition of its own. -/
import Derived.Test.YtgjlbabefogepaaKA1
import Derived.Test.YtgjlbabefogepaaKA2
import Derived.Test.YtgjlbabefogepaaKA3
import Derived.Test.YtgjlbabefogepaaKA4
import Derived.Test.YtgjlbabefogepaaKA5
import Derived.Test.YtgjlbabefogepaaKB1
import Derived.Test.YtgjlbabefogepaaRows
import Derived.WalkKit
import Derived.ProofKit
import Derived.OpenShut
import Derived.ShutString
import Derived.ChangeOld
import Derived.Below
set_option linter.unusedVariables false
set_option linter.unusedSimpArgs false
namespace Go.Proofs.Ytgjlbabefogepaa
open Go.RowKit
theorem srtu_noise {d : Int} {a b : List Int} {S1 S2 S3 S4 : SS} {L1 L2 L3 L4 : List Ev} (h1 : (SS.mk d [] false).feed a = (S1, L1)) (h2 : S1.feed b = (S2, L2)) (h3 : S2.tick = (S3, L3)) (h4 : S3.tick = (S4, L4)) :
    L1.length + L2.length + L3.length = (if a.length + b.length = 0 then 0 else 1) ∧ L4.length = 0 ∧ S4.held.length = 0 := by
  obtain ⟨rfl, rfl⟩ : S3 = ⟨S2.dir, [], false⟩ ∧ L3 = S2.tick.2 := by
    have := congrArg Prod.fst h3
    have k := congrArg Prod.snd h3
    exact ⟨this.symm, k.symm⟩
  obtain ⟨rfl, rfl⟩ : S4 = ⟨S2.dir, [], false⟩ ∧ L4 = [] := by
    have := congrArg Prod.fst h4
    have k := congrArg Prod.snd h4
    exact ⟨this.symm, k.symm⟩
  refine ⟨?_, rfl, rfl⟩
  unfold SS.feed at h1
  rw [if_neg (by simp)] at h1
  by_cases ha : a.length ≤ 256
  · rw [if_pos (by simpa using ha)] at h1
    simp only [Prod.mk.injEq] at h1
    obtain ⟨rfl, rfl⟩ := h1
    unfold SS.feed at h2
    rw [if_neg (by simp)] at h2
    by_cases hb : b.length ≤ 256 - a.length
    · rw [if_pos (by simpa using hb)] at h2
      simp only [Prod.mk.injEq] at h2
      obtain ⟨rfl, rfl⟩ := h2
      unfold SS.tick
      simp only [List.nil_append, List.length_append]
      split <;> rfl
    · rw [if_neg (by simpa using hb)] at h2
      simp only [Prod.mk.injEq] at h2
      obtain ⟨rfl, rfl⟩ := h2
      rw [if_neg (by omega)]
      rfl
  · rw [if_neg (by simpa using ha)] at h1
    simp only [Prod.mk.injEq] at h1
    obtain ⟨rfl, rfl⟩ := h1
    have k : (S2, L2) = (_, _) := h2.symm
    simp only [SS.feed, if_true, Prod.mk.injEq] at k
    obtain ⟨rfl, rfl⟩ := k
    rw [if_neg (by omega)]
    rfl
set_option maxRecDepth 100000 in
set_option maxHeartbeats 4000000 in
theorem lawSrtuNoise {w : World} {ans : Bool} {mA : Bool} {A : Option Addr} {cpA : Nat} {a : List Int} (ha : RdB mA w (.slice A a.length cpA) a) {mB : Bool} {B : Option Addr} {cpB : Nat} {b : List Int} (hb : RdB mB w (.slice B b.length cpB) b) :
    Calls Try.prog 3 #[.bool ans, .slice A a.length cpA, .slice B b.length cpB] w (PVal (.bool true) w) := by
 refine en 65 Try.func3 rfl <| sg <| Pl 1 <| ng <| L0 <| Oc <| m1 (@awake19 _) fun w10 hu11 => Pl 1 <| nt <| sq <| sq <| ?_
 refine go <| Pl 4 <| cu 4 [17] 21 (((decide (300 < ((a.length : Nat) : Int))) || (decide (300 < ((b.length : Nat) : Int))))) (fun K K13 => ?_) ?_
 refine bl 17 ((decide (300 < ((a.length : Nat) : Int)))) (fun q12 => ?_) (fun q12 => ?_)
 have q12p := of_decide_eq_true q12
 exact Pl 4 <| ce K13 true (by rw [q12]; rfl)
 have q12p := of_decide_eq_false q12
 exact Pl 4 <| ce K13 (decide (300 < ((b.length : Nat) : Int))) (by rw [q12]; rfl)
 refine nt <| cb (((decide (300 < ((a.length : Nat) : Int))) || (decide (300 < ((b.length : Nat) : Int))))) (fun q14 => ?_) (fun q14 => ?_)
 refine sg <| Pl 2 <| nt <| rt <| tr <| rr (.bool true) <| ?_
 exact ⟨rfl, hu11⟩
 have q14a := (or_f q14).1
 have q14b := (or_f q14).2
 have q14ap := of_decide_eq_false q14a
 have q14bp := of_decide_eq_false q14b
 refine skn <| sg <| Pl 1 <| nt <| sq <| sg <| Pl 1 <| nt <| cb (ans) (fun q15 => ?_) (fun q15 => ?_)
 refine go <| Pl 1 <| ng <| Pl 1 <| L0 <| Oc <| e3 srtu_new1 fun g16 w17 hg18 hA19 hu20 => Pl 1 <| nt <| sq <| sg <| ?_
 refine Pl 2 <| nt <| c0 <| skn <| sg <| Pl 2 <| ?_
 have U21 := ut0 hu11 hu20
 have r22 := RdB.old ha U21
 refine pr (SS.feed (SS.mk 1 [] false) a) fun S23 L24 hX25 => ?_
 refine L0 <| Oc <| so3 (srtu_feed_x hX25 hA19 r22 (by omega)) fun A32 cp33 w26 rd36 hl34 hm35 hA29 hu30 => ?_
 have hk31 := SS.feed_le hX25
 refine Pl 3 <| ?_
 have U37 := u1 U21 hu30 (ni hu11.size hg18)
 have r38 := RdB.old hb U37
 refine pr (SS.feed S23 b) fun S39 L40 hX41 => ?_
 refine L0 <| Oc <| so3 (srtu_feed_x hX41 hA29 r38 (by omega)) fun A48 cp49 w42 rd52 hl50 hm51 hA45 hu46 => ?_
 have hk47 := SS.feed_le hX41
 refine Pl 1 <| L0 <| Oi (((L24.length : Nat) : Int) + ((L40.length : Nat) : Int)) <| Pl 1 <| ?_
 refine pr (SS.tick S39) fun S53 L54 hX55 => ?_
 refine L0 <| Oc <| so3 (srtu_tick_x hX55 hA45) fun A62 cp63 w56 rd66 hl64 hm65 hA59 hu60 => ?_
 have hk61 := SS.tick_le hX55
 refine Pl 1 <| L0 <| Oi ((((L24.length : Nat) : Int) + ((L40.length : Nat) : Int)) + ((L54.length : Nat) : Int)) <| Pl 1 <| ng <| Pl 1 <| ?_
 refine pr (SS.tick S53) fun S67 L68 hX69 => ?_
 refine L0 <| Oc <| so3 (srtu_tick_x hX69 hA59) fun A76 cp77 w70 rd80 hl78 hm79 hA73 hu74 => ?_
 have hk75 := SS.tick_le hX69
 refine Pl 2 <| ng <| Pl 1 <| nt <| sq <| sg <| Pl 4 <| L0 <| Oi (((a.length : Nat) : Int) + ((b.length : Nat) : Int)) <| Pl 1 <| nl <| ?_
 refine tn <| ?_
 have U81 := u1 U37 hu46 (ni hu11.size hg18)
 have U82 := u1 U81 hu60 (ni hu11.size hg18)
 have U83 := u1 U82 hu74 (ni hu11.size hg18)
 refine cb (((((a.length : Nat) : Int) + ((b.length : Nat) : Int)) == 0)) (fun q84 => ?_) (fun q84 => ?_)
 have q84p := eq_of_beqi q84
 refine go <| Pl 1 <| ng <| Pl 7 <| cu 3 [56] 59 (((((((L24.length : Nat) : Int) + ((L40.length : Nat) : Int)) + ((L54.length : Nat) : Int)) == 0) && (((L68.length : Nat) : Int) == 0))) (fun K K86 => ?_) ?_
 refine bl 56 ((((((L24.length : Nat) : Int) + ((L40.length : Nat) : Int)) + ((L54.length : Nat) : Int)) == 0)) (fun q85 => ?_) (fun q85 => ?_)
 have q85p := eq_of_beqi q85
 exact Pl 3 <| ce K86 (((L68.length : Nat) : Int) == 0) (by rw [q85]; rfl)
 have q85p := ne_of_beqi q85
 exact Pl 3 <| ce K86 false (by rw [q85]; rfl)
 refine Pl 1 <| bl 60 (((((((L24.length : Nat) : Int) + ((L40.length : Nat) : Int)) + ((L54.length : Nat) : Int)) == 0) && (((L68.length : Nat) : Int) == 0))) (fun q87 => ?_) (fun q87 => ?_)
 have q87a := (and_t q87).1
 have q87b := (and_t q87).2
 have q87ap := eq_of_beqi q87a
 have q87bp := eq_of_beqi q87b
 refine Pl 1 <| L1 <| Oc <| m1 (srtu_held hA73) fun w88 hu89 => Pl 3 <| nt <| rt <| rr (.bool (((S67.held.length : Nat) : Int) == 0)) <| ?_
 have hs : (((S67.held.length : Nat) : Int) == 0) = true := by obtain ⟨z1, z2, z3⟩ := srtu_noise (d := 1) hX25 hX41 hX55 hX69; have y := eq_of_beqi q84; rw [if_pos (by omega)] at z1; rw [beq_iff_eq]; omega
 rw [hs]
 have U90 := ut0 U83 hu89
 exact ⟨rfl, U90⟩
 refine Pl 5 <| nt <| rt <| rr (.bool false) <| ?_
 have hs : false = true := by obtain ⟨z1, z2, z3⟩ := srtu_noise (d := 1) hX25 hX41 hX55 hX69; have y := eq_of_beqi q84; rw [if_pos (by omega)] at z1; exact absurd q87 (by rw [Bool.not_eq_false, Bool.and_eq_true, beq_iff_eq, beq_iff_eq]; omega)
 rw [hs]
 exact ⟨rfl, U83⟩
 have q84p := ne_of_beqi q84
 refine skn <| sg <| Pl 7 <| cu 3 [56] 59 (((((((L24.length : Nat) : Int) + ((L40.length : Nat) : Int)) + ((L54.length : Nat) : Int)) == 1) && (((L68.length : Nat) : Int) == 0))) (fun K K92 => ?_) ?_
 refine bl 56 ((((((L24.length : Nat) : Int) + ((L40.length : Nat) : Int)) + ((L54.length : Nat) : Int)) == 1)) (fun q91 => ?_) (fun q91 => ?_)
 have q91p := eq_of_beqi q91
 exact Pl 3 <| ce K92 (((L68.length : Nat) : Int) == 0) (by rw [q91]; rfl)
 have q91p := ne_of_beqi q91
 exact Pl 3 <| ce K92 false (by rw [q91]; rfl)
 refine Pl 1 <| bl 60 (((((((L24.length : Nat) : Int) + ((L40.length : Nat) : Int)) + ((L54.length : Nat) : Int)) == 1) && (((L68.length : Nat) : Int) == 0))) (fun q93 => ?_) (fun q93 => ?_)
 have q93a := (and_t q93).1
 have q93b := (and_t q93).2
 have q93ap := eq_of_beqi q93a
 have q93bp := eq_of_beqi q93b
 refine Pl 1 <| L1 <| Oc <| m1 (srtu_held hA73) fun w94 hu95 => Pl 3 <| nt <| rt <| rr (.bool (((S67.held.length : Nat) : Int) == 0)) <| ?_
 have hs : (((S67.held.length : Nat) : Int) == 0) = true := by obtain ⟨z1, z2, z3⟩ := srtu_noise (d := 1) hX25 hX41 hX55 hX69; have y := ne_of_beqi q84; rw [if_neg (by omega)] at z1; rw [beq_iff_eq]; omega
 rw [hs]
 have U96 := ut0 U83 hu95
 exact ⟨rfl, U96⟩
 refine Pl 5 <| nt <| rt <| rr (.bool false) <| ?_
 have hs : false = true := by obtain ⟨z1, z2, z3⟩ := srtu_noise (d := 1) hX25 hX41 hX55 hX69; have y := ne_of_beqi q84; rw [if_neg (by omega)] at z1; exact absurd q93 (by rw [Bool.not_eq_false, Bool.and_eq_true, beq_iff_eq, beq_iff_eq]; omega)
 rw [hs]
 exact ⟨rfl, U83⟩
 refine skn <| sg <| Pl 1 <| L0 <| Oc <| e3 srtu_new0 fun g97 w98 hg99 hA100 hu101 => Pl 1 <| nt <| sq <| sg <| Pl 2 <| nl <| ?_
 refine tn <| c0 <| skn <| sg <| Pl 2 <| ?_
 have U102 := ut0 hu11 hu101
 have r103 := RdB.old ha U102
 refine pr (SS.feed (SS.mk 0 [] false) a) fun S104 L105 hX106 => ?_
 refine L0 <| Oc <| so3 (srtu_feed_x hX106 hA100 r103 (by omega)) fun A113 cp114 w107 rd117 hl115 hm116 hA110 hu111 => ?_
 have hk112 := SS.feed_le hX106
 refine Pl 3 <| ?_
 have U118 := u1 U102 hu111 (ni hu11.size hg99)
 have r119 := RdB.old hb U118
 refine pr (SS.feed S104 b) fun S120 L121 hX122 => ?_
 refine L0 <| Oc <| so3 (srtu_feed_x hX122 hA110 r119 (by omega)) fun A129 cp130 w123 rd133 hl131 hm132 hA126 hu127 => ?_
 have hk128 := SS.feed_le hX122
 refine Pl 1 <| L0 <| Oi (((L105.length : Nat) : Int) + ((L121.length : Nat) : Int)) <| Pl 1 <| ?_
 refine pr (SS.tick S120) fun S134 L135 hX136 => ?_
 refine L0 <| Oc <| so3 (srtu_tick_x hX136 hA126) fun A143 cp144 w137 rd147 hl145 hm146 hA140 hu141 => ?_
 have hk142 := SS.tick_le hX136
 refine Pl 1 <| L0 <| Oi ((((L105.length : Nat) : Int) + ((L121.length : Nat) : Int)) + ((L135.length : Nat) : Int)) <| Pl 1 <| ng <| Pl 1 <| ?_
 refine pr (SS.tick S134) fun S148 L149 hX150 => ?_
 refine L0 <| Oc <| so3 (srtu_tick_x hX150 hA140) fun A157 cp158 w151 rd161 hl159 hm160 hA154 hu155 => ?_
 have hk156 := SS.tick_le hX150
 refine Pl 2 <| ng <| Pl 1 <| nt <| sq <| sg <| Pl 4 <| L0 <| Oi (((a.length : Nat) : Int) + ((b.length : Nat) : Int)) <| Pl 1 <| nl <| ?_
 refine tn <| ?_
 have U162 := u1 U118 hu127 (ni hu11.size hg99)
 have U163 := u1 U162 hu141 (ni hu11.size hg99)
 have U164 := u1 U163 hu155 (ni hu11.size hg99)
 refine cb (((((a.length : Nat) : Int) + ((b.length : Nat) : Int)) == 0)) (fun q165 => ?_) (fun q165 => ?_)
 have q165p := eq_of_beqi q165
 refine go <| Pl 1 <| ng <| Pl 7 <| cu 3 [56] 59 (((((((L105.length : Nat) : Int) + ((L121.length : Nat) : Int)) + ((L135.length : Nat) : Int)) == 0) && (((L149.length : Nat) : Int) == 0))) (fun K K167 => ?_) ?_
 refine bl 56 ((((((L105.length : Nat) : Int) + ((L121.length : Nat) : Int)) + ((L135.length : Nat) : Int)) == 0)) (fun q166 => ?_) (fun q166 => ?_)
 have q166p := eq_of_beqi q166
 exact Pl 3 <| ce K167 (((L149.length : Nat) : Int) == 0) (by rw [q166]; rfl)
 have q166p := ne_of_beqi q166
 exact Pl 3 <| ce K167 false (by rw [q166]; rfl)
 refine Pl 1 <| bl 60 (((((((L105.length : Nat) : Int) + ((L121.length : Nat) : Int)) + ((L135.length : Nat) : Int)) == 0) && (((L149.length : Nat) : Int) == 0))) (fun q168 => ?_) (fun q168 => ?_)
 have q168a := (and_t q168).1
 have q168b := (and_t q168).2
 have q168ap := eq_of_beqi q168a
 have q168bp := eq_of_beqi q168b
 refine Pl 1 <| L1 <| Oc <| m1 (srtu_held hA154) fun w169 hu170 => Pl 3 <| nt <| rt <| rr (.bool (((S148.held.length : Nat) : Int) == 0)) <| ?_
 have hs : (((S148.held.length : Nat) : Int) == 0) = true := by obtain ⟨z1, z2, z3⟩ := srtu_noise (d := 0) hX106 hX122 hX136 hX150; have y := eq_of_beqi q165; rw [if_pos (by omega)] at z1; rw [beq_iff_eq]; omega
 rw [hs]
 have U171 := ut0 U164 hu170
 exact ⟨rfl, U171⟩
 refine Pl 5 <| nt <| rt <| rr (.bool false) <| ?_
 have hs : false = true := by obtain ⟨z1, z2, z3⟩ := srtu_noise (d := 0) hX106 hX122 hX136 hX150; have y := eq_of_beqi q165; rw [if_pos (by omega)] at z1; exact absurd q168 (by rw [Bool.not_eq_false, Bool.and_eq_true, beq_iff_eq, beq_iff_eq]; omega)
 rw [hs]
 exact ⟨rfl, U164⟩
 have q165p := ne_of_beqi q165
 refine skn <| sg <| Pl 7 <| cu 3 [56] 59 (((((((L105.length : Nat) : Int) + ((L121.length : Nat) : Int)) + ((L135.length : Nat) : Int)) == 1) && (((L149.length : Nat) : Int) == 0))) (fun K K173 => ?_) ?_
 refine bl 56 ((((((L105.length : Nat) : Int) + ((L121.length : Nat) : Int)) + ((L135.length : Nat) : Int)) == 1)) (fun q172 => ?_) (fun q172 => ?_)
 have q172p := eq_of_beqi q172
 exact Pl 3 <| ce K173 (((L149.length : Nat) : Int) == 0) (by rw [q172]; rfl)
 have q172p := ne_of_beqi q172
 exact Pl 3 <| ce K173 false (by rw [q172]; rfl)
 refine Pl 1 <| bl 60 (((((((L105.length : Nat) : Int) + ((L121.length : Nat) : Int)) + ((L135.length : Nat) : Int)) == 1) && (((L149.length : Nat) : Int) == 0))) (fun q174 => ?_) (fun q174 => ?_)
 have q174a := (and_t q174).1
 have q174b := (and_t q174).2
 have q174ap := eq_of_beqi q174a
 have q174bp := eq_of_beqi q174b
 refine Pl 1 <| L1 <| Oc <| m1 (srtu_held hA154) fun w175 hu176 => Pl 3 <| nt <| rt <| rr (.bool (((S148.held.length : Nat) : Int) == 0)) <| ?_
 have hs : (((S148.held.length : Nat) : Int) == 0) = true := by obtain ⟨z1, z2, z3⟩ := srtu_noise (d := 0) hX106 hX122 hX136 hX150; have y := ne_of_beqi q165; rw [if_neg (by omega)] at z1; rw [beq_iff_eq]; omega
 rw [hs]
 have U177 := ut0 U164 hu176
 exact ⟨rfl, U177⟩
 refine Pl 5 <| nt <| rt <| rr (.bool false) <| ?_
 have hs : false = true := by obtain ⟨z1, z2, z3⟩ := srtu_noise (d := 0) hX106 hX122 hX136 hX150; have y := ne_of_beqi q165; rw [if_neg (by omega)] at z1; exact absurd q174 (by rw [Bool.not_eq_false, Bool.and_eq_true, beq_iff_eq, beq_iff_eq]; omega)
 rw [hs]
 exact ⟨rfl, U164⟩
theorem lawSrtuNoiseV {w : World} {ans : Bool} {mA : Bool} {vA : Value} {a : List Int} (ha : RdB mA w vA a) {mB : Bool} {vB : Value} {b : List Int} (hb : RdB mB w vB b) : Calls Try.prog 3 #[.bool ans, vA, vB] w (PVal (.bool true) w) := by
  obtain ⟨AA, cpA, rfl, _, _⟩ := ha.shape
  obtain ⟨AB, cpB, rfl, _, _⟩ := hb.shape
  exact lawSrtuNoise (ans := ans) ha hb 
end Go.Proofs.Ytgjlbabefogepaa
namespace Go.Proofs.Ytgjlbabefogepaa
open Go.ChangeShapes Go.WideShapes Go.ChangeAt Go.RowKit
theorem own : ownKnob Try.prog.godebug = none := by kernel_rfl
theorem laidOut : laidOutB Try.prog = true := by kernel_rfl
set_option maxRecDepth 100000 in
theorem lifted (os : Os) (started : os.Started) (H : Type) (enc : TypeId × Value → H) :
    ReturnsInHanded {} Try.checked os 3 .any (Rows.srtuNoiseSpec.pre6 enc Try.prog Try.f3 Rows.srtuNoiseRow.domain false) (Rows.srtuNoiseSpec.post enc Try.prog Try.f3 false true false false) := by
  refine returnsInHanded_of_change (C := Try.checked) own started (by kernel_rfl) Try.func3
    (ChangeSpec.witness6 (enc := enc) (C := Try.checked) false ⟨#[], #[.bool false, .slice none 0 0, .slice none 0 0], []⟩ 8 (by kernel_rfl) (by kernel_rfl) (by kernel_rfl) (by kernel_rfl)) ?_
  intro W base args ds gs before hval0 hW hcnd _
  have hval : ∀ (j : Nat) t v, Try.f3.params[j]? = some t → args[j]? = some v → Value.okWide Try.prog W .any base t v := hval0
  have hW' := hW
  obtain ⟨p, q, hA0, hV, rfl, hfz, hnd⟩ := hW
  have hA : DataW.TrodAll enc Try.prog W 0 (fun _ => true) true Try.f3.params.toList args.toList ds p := hA0
  rw [Try.params3] at hA hval
  obtain ⟨v0, vs0, d0, ds0, p0, q0, hargs, rfl, rfl, h0, r0⟩ := trodAll_cons hA
  obtain ⟨v1, vs1, d1, ds1, p1, q1, rfl, rfl, rfl, h1, r1⟩ := trodAll_cons r0
  obtain ⟨v2, vs2, d2, ds2, p2, q2, rfl, rfl, rfl, h2, r2⟩ := trodAll_cons r1
  obtain ⟨rfl, rfl, rfl⟩ := trodAll_nil r2
  obtain rfl : args = #[v0, v1, v2] := by cases args; simp_all
  obtain ⟨rfl, rfl⟩ := trodVars_none hV
  obtain ⟨a0, rfl, rfl, rfl⟩ := open_bool Try.underlying4 (hval 0 4 v0 rfl rfl) h0
  have k1 := h1
  have lt1 : ∀ x ∈ p1, x.block < W.heap.size := by obtain ⟨m, hm⟩ := k1; exact DataW.trod_lt m _ _ _ hm
  obtain ⟨s1, len1, cap1, rfl⟩ := okWide_slice Try.underlying22 (hval 1 22 v1 rfl rfl)
  obtain ⟨u1, xs1, e1, R1⟩ : ∃ u xs, [Value.slice s1 len1 cap1] = [u] ∧ RdB false W u xs := by
    obtain ⟨fuel, hf⟩ := k1
    exact sl_u8 hf
  obtain rfl : Value.slice s1 len1 cap1 = u1 := by simpa using e1
  have k2 := h2
  have lt2 : ∀ x ∈ p2, x.block < W.heap.size := by obtain ⟨m, hm⟩ := k2; exact DataW.trod_lt m _ _ _ hm
  obtain ⟨s2, len2, cap2, rfl⟩ := okWide_slice Try.underlying22 (hval 2 22 v2 rfl rfl)
  obtain ⟨u2, xs2, e2, R2⟩ : ∃ u xs, [Value.slice s2 len2 cap2] = [u] ∧ RdB false W u xs := by
    obtain ⟨fuel, hf⟩ := k2
    exact sl_u8 hf
  obtain rfl : Value.slice s2 len2 cap2 = u2 := by simpa using e2
  clear hA0 hval0
  refine (lawSrtuNoiseV (ans := a0) R1 R2).mono fun e W' ⟨he, hu⟩ => ?_
  have bel := upd_below hu
  subst he
  exact ⟨_, rfl, _, _, _, [], _, [], hW', trodAll_mk1 (shut_bool Try.underlying4 _), (trodAll_cons_mk (shut_bool Try.underlying4 _) (trodAll_cons_mk (Below.trod laidOut (by kernel_rfl) (of_decide_eq_true (by kernel_rfl)) k1 bel lt1) (trodAll_cons_mk (Below.trod laidOut (by kernel_rfl) (of_decide_eq_true (by kernel_rfl)) k2 bel lt2) trodAll_mk0))), rfl, bel.frame _, fun h => by cases h⟩
theorem over : Rows.srtuNoiseRow.holds Try.pinned (OpenSpec.ofChange Rows.srtuNoiseSpec) :=
  OpenClaim.holds_of_wide 3 Try.f3 rfl rfl rfl rfl rfl rfl rfl ⟨rfl, rfl, rfl, rfl, rfl⟩ rfl rfl rfl rfl rfl (by kernel_rfl) Try.func3 (by kernel_rfl)
    (of_decide_eq_true (by kernel_rfl)) (by unfold Func.isWrapper; first | (rw [if_pos (by decide +kernel)]; kernel_rfl) | (rw [if_neg (by decide +kernel)]; exact ⟨rfl, rfl⟩))
    (fun os started H enc _ => lifted os started H enc)
theorem proved : Rows.SrtuNoiseSaid := over
#print axioms proved
end Go.Proofs.Ytgjlbabefogepaa
