/- The statement SascNoise holds; no condition of its own. -/
import Derived.Test.YtgjlbabefogepaaGreatKA1
import Derived.Test.YtgjlbabefogepaaGreatKA2
import Derived.Test.YtgjlbabefogepaaGreatKA3
import Derived.Test.YtgjlbabefogepaaGreatKA4
import Derived.Test.YtgjlbabefogepaaGreatKA5
import Derived.Test.YtgjlbabefogepaaGreatKB1
import Derived.Test.YtgjlbabefogepaaGreatRows
import Derived.WalkKit
import Derived.ProofKit
import Derived.OpenShut
import Derived.ShutString
import Derived.ChangeOld
import Derived.Below
set_option linter.unusedVariables false
set_option linter.unusedSimpArgs false
namespace Go.Proofs.YtgjlbabefogepaaGreat
open Go.RowKit
theorem sas_app {S S2 S3 : SA} {a b : List Int} {L L2 : List Ev} (h : S.feed a = (S2, L)) (hX : S2.feed b = (S3, L2)) : S.feed (a ++ b) = (S3, L ++ L2) := by
  have gen : ∀ (b : List Int) (T : SA) (K : List Ev), b.foldl (fun (p : SA × List Ev) c => ((p.1.byte c).1, p.2 ++ (p.1.byte c).2)) (T, K) = ((T.feed b).1, K ++ (T.feed b).2) := by
    intro b
    induction b with
    | nil => intro T K; simp [SA.feed]
    | cons c t ih =>
      intro T K
      unfold SA.feed
      rw [List.foldl_cons, List.foldl_cons, ih, ih]
      simp
  unfold SA.feed at h ⊢
  rw [List.foldl_append, h, gen, hX]
theorem sas_quiet {d : Int} : ∀ (l : List Int), (∀ x, x ∈ l → x ≠ 58) → (SA.mk d []).feed l = (SA.mk d [], [])
  | [], _ => rfl
  | c :: t, h => by
    have e : (SA.mk d []).feed [c] = (SA.mk d [], []) := by
      unfold SA.feed
      rw [List.foldl_cons, List.foldl_nil, sab_2 (by simp) (by simpa using h c (List.mem_cons_self ..))]
      rfl
    have q := sas_app e (sas_quiet t fun x hx => h x (List.mem_cons_of_mem _ hx))
    simpa using q
theorem sas_colon {d : Int} : (SA.mk d []).feed [58] = (SA.mk d [58], []) := by
  unfold SA.feed
  rw [List.foldl_cons, List.foldl_nil, sab_5 (by simp) (by simp) (by simp) (by simp [endsB])]
  rfl
theorem sas_noise {d : Int} {l : List Int} {S2 S3 : SA} {L2 L3 : List Ev} (hl : ∀ x, x ∈ l → x ≠ 58) (h2 : (SA.mk d []).feed l = (S2, L2)) (h3 : S2.feed [58] = (S3, L3)) : S2 = SA.mk d [] ∧ L2 = [] ∧ S3 = SA.mk d [58] ∧ L3 = [] := by
  rw [sas_quiet l hl] at h2
  injection h2 with e1 e2
  subst e1 e2
  rw [sas_colon] at h3
  injection h3 with e3 e4
  exact ⟨rfl, rfl, e3.symm, e4.symm⟩
set_option maxRecDepth 100000 in
set_option maxHeartbeats 4000000 in
theorem lawSascNoise {w : World} {ans : Bool} {mA : Bool} {A : Option Addr} {cpA : Nat} {b : List Int} (hb : RdB mA w (.slice A b.length cpA) b) :
    Calls Tryz.prog 12 #[.bool ans, .slice A b.length cpA] w (PVal (.bool true) w) := by
 refine en 67 Tryz.func12 rfl <| sg <| Pl 1 <| ng <| L0 <| Oc <| m1 (@awake20 _) fun w10 hu11 => Pl 1 <| nt <| sq <| sq <| ?_
 refine go <| Pl 3 <| nt <| cb ((decide (300 < ((b.length : Nat) : Int)))) (fun q12 => ?_) (fun q12 => ?_)
 have q12p := of_decide_eq_true q12
 refine sg <| Pl 2 <| nt <| rt <| tr <| rr (.bool true) <| ?_
 exact ⟨rfl, hu11⟩
 have q12p := of_decide_eq_false q12
 refine skn <| sg <| Pl 1 <| nt <| sq <| sg <| Pl 1 <| nt <| cb (ans) (fun q13 => ?_) (fun q13 => ?_)
 refine go <| Pl 1 <| ng <| Pl 1 <| L0 <| Oc <| e3 (sas_new 1 sasc_new1) fun g14 w15 hg16 hA17 hu18 => Pl 1 <| nt <| sq <| sg <| ?_
 refine Pl 2 <| nt <| c0 <| skn <| sg <| Pl 1 <| nt <| sq <| sg <| ?_
 refine Pl 1 <| nt <| bk <| ?_
 have U19 := ut0 hu11 hu18
 refine glp (fun x => [(1, .slice A b.length cpA), (4, .bool false), (5, .bool true), (7, .pointer (some ⟨g14, 0, none⟩)), (8, .slice x.2.2.1 x.2.1.length x.2.2.2), (9, .int .i64 ((x.1 : Nat) : Int))]) (fun (x : Nat × List Int × Option Addr × Nat) w' => Upd [] w w' ∧ w15.heap.size ≤ w'.heap.size ∧ SasAt w10.heap.size w10.heap.size w' g14 none 0 (SA.mk 1 []) ∧ OwnB w.heap.size w' (.slice x.2.2.1 x.2.1.length x.2.2.2) x.2.1 ∧ (x.1 ≤ b.length) ∧ (x.2.1.length ≤ x.1) ∧ (∀ y, y ∈ x.2.1 → y ≠ 58)) (fun x => b.length - x.1) (0, [], none, 0) ⟨U19, lr, hA17, (OwnG.nil w.heap.size _ _ u8R _), (by (try dsimp only); omega), (by (try dsimp only); exact Nat.le_refl _), (by (try dsimp only); intro x hx; cases hx)⟩ ?_
 rintro ⟨k, L, Bl, cq⟩ w20 ⟨hu21, hz27, f22, f23, p24, p25, p26⟩
 refine wkc [(1, .slice A b.length cpA), (4, .bool false), (5, .bool true), (7, .pointer (some ⟨g14, 0, none⟩)), (8, .slice Bl L.length cq), (9, .int .i64 ((k : Nat) : Int))] ?_
 have f28 : SasAt w10.heap.size w10.heap.size w20 g14 none 0 (SA.mk 1 []) := f22
 have f29 : OwnB w.heap.size w20 (.slice Bl L.length cq) L := f23
 have p30 : k ≤ b.length := p24
 have p31 : L.length ≤ k := p25
 have p32 : ∀ y, y ∈ L → y ≠ 58 := p26
 refine sq <| sg <| Pl 4 <| nt <| ?_
 have U33 := ut0 (Upd.refl [] _) hu21
 refine cb ((decide (((k : Nat) : Int) < ((b.length : Nat) : Int)))) (fun q34 => ?_) (fun q34 => ?_)
 have q34p := of_decide_eq_true q34
 refine skn <| sq <| bk <| sg <| Pl 2 <| ?_
 have r35 := RdB.old hb U33
 refine x23 (RdB.at_ r35 k (by omega)) fun b36 o37 hA38 hl39 hr40 => L0 <| Oix b.length k hA38 (by omega) <| L0 <| Old (p := ⟨b36, o37 + k, none⟩) (v := .int .u8 (b.getD k 0)) hl39 <| Pl 1 <| nt <| cb (((b.getD k 0) != 58)) (fun q41 => ?_) (fun q41 => ?_)
 have q41p := ne_of_bnei q41
 refine go <| Pl 3 <| L0 <| Oix b.length k hA38 (by omega) <| L0 <| Old (p := ⟨b36, o37 + k, none⟩) (v := .int .u8 (b.getD k 0)) hl39 <| L0 <| Olt (m := 1) (e := 5) #[.int .u8 (b.getD k 0)] fun g42 w43 hg44 B45 hu46 => ?_
 have ow47 := litB hg44 (xs := [(b.getD k 0)]) (by as_aux_lemma => kernel_rfl) (rng_cons (by omega) rng_nil) (by (try simp only [List.length_cons, List.length_nil]); omega) B45
 have r48 := own_stay f29 hu46 (fun x hx => not0) (fun _ _ h => h)
 refine L0 <| Oapp one_u8 (xs := L) (ys := ([(b.getD k 0)])) (.int .u8 0) 1 r48 (ow47).rd (by (try simp only [List.length_append, List.length_cons, List.length_nil, putW_length]); omega) (le (le (le hu11.size hu18.size) hz27) hu46.size) fun A49 cp50 w51 ho52 hu53 => Pl 1 <| nl <| bn <| tn <| go <| Pl 1 <| L0 <| Oi (((k : Nat) : Int) + 1) <| Pl 1 <| nl <| ?_
 have U54 := ut0 U33 hu46
 have U55 := ut U54 hu53 (all_app (ob_new f29 lr) all0)
 have U56 := ut (Upd.mono (S' := (ob Bl ++ [])) hu46 all0) hu53 (all_app (fun x hx => Or.inl (by simp [hx])) all0)
 have r57 := SasAt.upd f28 U56 (not_app (not_typeX (SasAt.cells f28) f29 (by decide)) not0) ob_none_not
 exact lpe ((k + 1), (L ++ [(b.getD k 0)]), A49, cp50) ⟨U55, (le (le hz27 hu46.size) hu53.size), r57, ho52, (by (try dsimp only); omega), (by (try dsimp only); simp only [List.length_append, List.length_cons, List.length_nil]; omega), (by (try dsimp only); exact fun x hx => (List.mem_append.1 hx).elim (p32 x) (fun hx => by rw [List.mem_singleton] at hx; rw [hx]; exact q41p))⟩ (by omega)
 have q41p := eq_of_bnei q41
 exact sk <| bn <| tn <| go <| Pl 1 <| L0 <| Oi (((k : Nat) : Int) + 1) <| Pl 1 <| nl <| lpe ((k + 1), L, Bl, cq) ⟨U33, hz27, f28, f29, (by (try dsimp only); omega), (by (try dsimp only); omega), (by (try dsimp only); exact p32)⟩ (by omega)
 have q34p := of_decide_eq_false q34
 refine xt <| tx <| tx <| bx <| tn <| sg <| Pl 2 <| ?_
 refine pr (SA.feed (SA.mk 1 []) L) fun S58 L59 hX60 => ?_
 have hk71 := SA.feed_le f28.2.2.1 (RdB.range (f29).rd) hX60
 refine L0 <| Oc (args := #[.pointer (some ⟨g14, 0, none⟩), .slice Bl L.length cq]) <| ?_
 refine (sas_feed_x hX60 f28 (f29).rd (far_ne (not_typeX (SasAt.cells f28) f29 (by decide))) far_none (by omega)).mono ?_
 rintro _ w65 ⟨v61, A62, cp63, n64, rfl, ho66, hA67, hat68, hn69, hu70⟩
 refine ⟨_, rfl, ?_⟩
 have hu72 : Upd [g14] w20 w65 := hu70
 have hk73 := SasAt.le hA67
 have rd78 := ho66
 obtain ⟨A74, cp75, rfl, hl76, hm77⟩ := RdG.shape rd78.rd
 refine Pl 1 <| ng <| Pl 1 <| L0 <| Oc <| m1 (sas_held hA67) fun w79 hu80 => Pl 1 <| ng <| Pl 1 <| L0 <| Olt (m := 1) (e := 5) #[.int .u8 58] fun g81 w82 hg83 B84 hu85 => ?_
 have ow86 := litB hg83 (xs := [58]) (by as_aux_lemma => kernel_rfl) (rng_cons (by omega) rng_nil) (by (try simp only [List.length_cons, List.length_nil]); omega) B84
 have U87 := ut0 hu80 hu85
 have r88 := SasAt.upd hA67 U87 not0 (fun x hx => not0)
 refine pr (SA.feed S58 ([58])) fun S89 L90 hX91 => ?_
 have hz102 : ([58] : List Int).length = 1 := rfl
 have hk103 := SA.feed_le r88.2.2.1 (RdB.range (ow86).rd) hX91
 refine L0 <| Oc (args := #[.pointer (some ⟨g14, 0, none⟩), .slice (some ⟨g81, 0, none⟩) 1 1]) <| ?_
 refine (sas_feed_x hX91 r88 (ow86).rd (far_ne (not_old (SasAt.lt hA17) (le (le hz27 hu72.size) hu80.size) ow86)) (far_rows (rows_young ow86 (SasAt.row hA67) hu80.size)) (by decide)).mono ?_
 rintro _ w96 ⟨v92, A93, cp94, n95, rfl, ho97, hA98, hat99, hn100, hu101⟩
 refine ⟨_, rfl, ?_⟩
 have hk104 := SasAt.le hA98
 have rd109 := ho97
 obtain ⟨A105, cp106, rfl, hl107, hm108⟩ := RdG.shape rd109.rd
 refine Pl 1 <| ng <| Pl 6 <| L1 <| Oi (((L59.length : Nat) : Int) + ((L90.length : Nat) : Int)) <| Pl 3 <| cu 3 [58] 61 ((((((L59.length : Nat) : Int) + ((L90.length : Nat) : Int)) == 0) && (((S58.held.length : Nat) : Int) == 0))) (fun K K111 => ?_) ?_
 refine bl 58 (((((L59.length : Nat) : Int) + ((L90.length : Nat) : Int)) == 0)) (fun q110 => ?_) (fun q110 => ?_)
 have q110p := eq_of_beqi q110
 exact Pl 3 <| ce K111 (((S58.held.length : Nat) : Int) == 0) (by rw [q110]; rfl)
 have q110p := ne_of_beqi q110
 exact Pl 3 <| ce K111 false (by rw [q110]; rfl)
 refine Pl 1 <| ?_
 have U112 := u1 U33 hu72 (ni hu11.size hg16)
 have U113 := ut0 U112 hu80
 have U114 := ut0 U113 hu85
 have U115 := ut U114 hu101 (ac (ni hu11.size hg16) (all_app (ob_new (SasAt.row hA67) hu11.size) all0))
 refine bl 62 ((((((L59.length : Nat) : Int) + ((L90.length : Nat) : Int)) == 0) && (((S58.held.length : Nat) : Int) == 0))) (fun q116 => ?_) (fun q116 => ?_)
 have q116a := (and_t q116).1
 have q116b := (and_t q116).2
 have q116ap := eq_of_beqi q116a
 have q116bp := eq_of_beqi q116b
 refine Pl 1 <| L1 <| Oc <| m1 (sas_held hA98) fun w117 hu118 => Pl 3 <| nt <| rt <| rr (.bool (((S89.held.length : Nat) : Int) == 1)) <| ?_
 have hs : (((S89.held.length : Nat) : Int) == 1) = true := by obtain ⟨z1, z2, z3, z4⟩ := sas_noise p32 hX60 hX91; subst z1; subst z2; subst z3; subst z4; rfl
 rw [hs]
 have U119 := ut0 U115 hu118
 exact ⟨rfl, U119⟩
 refine Pl 5 <| nt <| rt <| rr (.bool false) <| ?_
 have hs : false = true := by obtain ⟨z1, z2, z3, z4⟩ := sas_noise p32 hX60 hX91; subst z1; subst z2; subst z3; subst z4; first | (have q := q116; simp at q) | (exfalso; have q := q116; revert q; decide)
 rw [hs]
 exact ⟨rfl, U115⟩
 refine skn <| sg <| Pl 1 <| L0 <| Oc <| e3 (sas_new 0 sasc_new0) fun g120 w121 hg122 hA123 hu124 => Pl 1 <| nt <| sq <| sg <| Pl 2 <| nl <| ?_
 refine tn <| c0 <| skn <| sg <| Pl 1 <| nt <| sq <| sg <| Pl 1 <| nl <| ?_
 refine tn <| bk <| ?_
 have U125 := ut0 hu11 hu124
 refine glp (fun x => [(1, .slice A b.length cpA), (4, .bool false), (5, .bool true), (7, .pointer (some ⟨g120, 0, none⟩)), (8, .slice x.2.2.1 x.2.1.length x.2.2.2), (9, .int .i64 ((x.1 : Nat) : Int))]) (fun (x : Nat × List Int × Option Addr × Nat) w' => Upd [] w w' ∧ w121.heap.size ≤ w'.heap.size ∧ SasAt w10.heap.size w10.heap.size w' g120 none 0 (SA.mk 0 []) ∧ OwnB w.heap.size w' (.slice x.2.2.1 x.2.1.length x.2.2.2) x.2.1 ∧ (x.1 ≤ b.length) ∧ (x.2.1.length ≤ x.1) ∧ (∀ y, y ∈ x.2.1 → y ≠ 58)) (fun x => b.length - x.1) (0, [], none, 0) ⟨U125, lr, hA123, (OwnG.nil w.heap.size _ _ u8R _), (by (try dsimp only); omega), (by (try dsimp only); exact Nat.le_refl _), (by (try dsimp only); intro x hx; cases hx)⟩ ?_
 rintro ⟨k, L, Bl, cq⟩ w126 ⟨hu127, hz133, f128, f129, p130, p131, p132⟩
 refine wkc [(1, .slice A b.length cpA), (4, .bool false), (5, .bool true), (7, .pointer (some ⟨g120, 0, none⟩)), (8, .slice Bl L.length cq), (9, .int .i64 ((k : Nat) : Int))] ?_
 have f134 : SasAt w10.heap.size w10.heap.size w126 g120 none 0 (SA.mk 0 []) := f128
 have f135 : OwnB w.heap.size w126 (.slice Bl L.length cq) L := f129
 have p136 : k ≤ b.length := p130
 have p137 : L.length ≤ k := p131
 have p138 : ∀ y, y ∈ L → y ≠ 58 := p132
 refine sq <| sg <| Pl 4 <| nt <| ?_
 have U139 := ut0 (Upd.refl [] _) hu127
 refine cb ((decide (((k : Nat) : Int) < ((b.length : Nat) : Int)))) (fun q140 => ?_) (fun q140 => ?_)
 have q140p := of_decide_eq_true q140
 refine skn <| sq <| bk <| sg <| Pl 2 <| ?_
 have r141 := RdB.old hb U139
 refine x23 (RdB.at_ r141 k (by omega)) fun b142 o143 hA144 hl145 hr146 => L0 <| Oix b.length k hA144 (by omega) <| L0 <| Old (p := ⟨b142, o143 + k, none⟩) (v := .int .u8 (b.getD k 0)) hl145 <| Pl 1 <| nt <| cb (((b.getD k 0) != 58)) (fun q147 => ?_) (fun q147 => ?_)
 have q147p := ne_of_bnei q147
 refine go <| Pl 3 <| L0 <| Oix b.length k hA144 (by omega) <| L0 <| Old (p := ⟨b142, o143 + k, none⟩) (v := .int .u8 (b.getD k 0)) hl145 <| L0 <| Olt (m := 1) (e := 5) #[.int .u8 (b.getD k 0)] fun g148 w149 hg150 B151 hu152 => ?_
 have ow153 := litB hg150 (xs := [(b.getD k 0)]) (by as_aux_lemma => kernel_rfl) (rng_cons (by omega) rng_nil) (by (try simp only [List.length_cons, List.length_nil]); omega) B151
 have r154 := own_stay f135 hu152 (fun x hx => not0) (fun _ _ h => h)
 refine L0 <| Oapp one_u8 (xs := L) (ys := ([(b.getD k 0)])) (.int .u8 0) 1 r154 (ow153).rd (by (try simp only [List.length_append, List.length_cons, List.length_nil, putW_length]); omega) (le (le (le hu11.size hu124.size) hz133) hu152.size) fun A155 cp156 w157 ho158 hu159 => Pl 1 <| nl <| bn <| tn <| go <| Pl 1 <| L0 <| Oi (((k : Nat) : Int) + 1) <| Pl 1 <| nl <| ?_
 have U160 := ut0 U139 hu152
 have U161 := ut U160 hu159 (all_app (ob_new f135 lr) all0)
 have U162 := ut (Upd.mono (S' := (ob Bl ++ [])) hu152 all0) hu159 (all_app (fun x hx => Or.inl (by simp [hx])) all0)
 have r163 := SasAt.upd f134 U162 (not_app (not_typeX (SasAt.cells f134) f135 (by decide)) not0) ob_none_not
 exact lpe ((k + 1), (L ++ [(b.getD k 0)]), A155, cp156) ⟨U161, (le (le hz133 hu152.size) hu159.size), r163, ho158, (by (try dsimp only); omega), (by (try dsimp only); simp only [List.length_append, List.length_cons, List.length_nil]; omega), (by (try dsimp only); exact fun x hx => (List.mem_append.1 hx).elim (p138 x) (fun hx => by rw [List.mem_singleton] at hx; rw [hx]; exact q147p))⟩ (by omega)
 have q147p := eq_of_bnei q147
 exact sk <| bn <| tn <| go <| Pl 1 <| L0 <| Oi (((k : Nat) : Int) + 1) <| Pl 1 <| nl <| lpe ((k + 1), L, Bl, cq) ⟨U139, hz133, f134, f135, (by (try dsimp only); omega), (by (try dsimp only); omega), (by (try dsimp only); exact p138)⟩ (by omega)
 have q140p := of_decide_eq_false q140
 refine xt <| tx <| tx <| bx <| tn <| sg <| Pl 2 <| ?_
 refine pr (SA.feed (SA.mk 0 []) L) fun S164 L165 hX166 => ?_
 have hk177 := SA.feed_le f134.2.2.1 (RdB.range (f135).rd) hX166
 refine L0 <| Oc (args := #[.pointer (some ⟨g120, 0, none⟩), .slice Bl L.length cq]) <| ?_
 refine (sas_feed_x hX166 f134 (f135).rd (far_ne (not_typeX (SasAt.cells f134) f135 (by decide))) far_none (by omega)).mono ?_
 rintro _ w171 ⟨v167, A168, cp169, n170, rfl, ho172, hA173, hat174, hn175, hu176⟩
 refine ⟨_, rfl, ?_⟩
 have hu178 : Upd [g120] w126 w171 := hu176
 have hk179 := SasAt.le hA173
 have rd184 := ho172
 obtain ⟨A180, cp181, rfl, hl182, hm183⟩ := RdG.shape rd184.rd
 refine Pl 1 <| ng <| Pl 1 <| L0 <| Oc <| m1 (sas_held hA173) fun w185 hu186 => Pl 1 <| ng <| Pl 1 <| L0 <| Olt (m := 1) (e := 5) #[.int .u8 58] fun g187 w188 hg189 B190 hu191 => ?_
 have ow192 := litB hg189 (xs := [58]) (by as_aux_lemma => kernel_rfl) (rng_cons (by omega) rng_nil) (by (try simp only [List.length_cons, List.length_nil]); omega) B190
 have U193 := ut0 hu186 hu191
 have r194 := SasAt.upd hA173 U193 not0 (fun x hx => not0)
 refine pr (SA.feed S164 ([58])) fun S195 L196 hX197 => ?_
 have hz208 : ([58] : List Int).length = 1 := rfl
 have hk209 := SA.feed_le r194.2.2.1 (RdB.range (ow192).rd) hX197
 refine L0 <| Oc (args := #[.pointer (some ⟨g120, 0, none⟩), .slice (some ⟨g187, 0, none⟩) 1 1]) <| ?_
 refine (sas_feed_x hX197 r194 (ow192).rd (far_ne (not_old (SasAt.lt hA123) (le (le hz133 hu178.size) hu186.size) ow192)) (far_rows (rows_young ow192 (SasAt.row hA173) hu186.size)) (by decide)).mono ?_
 rintro _ w202 ⟨v198, A199, cp200, n201, rfl, ho203, hA204, hat205, hn206, hu207⟩
 refine ⟨_, rfl, ?_⟩
 have hk210 := SasAt.le hA204
 have rd215 := ho203
 obtain ⟨A211, cp212, rfl, hl213, hm214⟩ := RdG.shape rd215.rd
 refine Pl 1 <| ng <| Pl 6 <| L1 <| Oi (((L165.length : Nat) : Int) + ((L196.length : Nat) : Int)) <| Pl 3 <| cu 3 [58] 61 ((((((L165.length : Nat) : Int) + ((L196.length : Nat) : Int)) == 0) && (((S164.held.length : Nat) : Int) == 0))) (fun K K217 => ?_) ?_
 refine bl 58 (((((L165.length : Nat) : Int) + ((L196.length : Nat) : Int)) == 0)) (fun q216 => ?_) (fun q216 => ?_)
 have q216p := eq_of_beqi q216
 exact Pl 3 <| ce K217 (((S164.held.length : Nat) : Int) == 0) (by rw [q216]; rfl)
 have q216p := ne_of_beqi q216
 exact Pl 3 <| ce K217 false (by rw [q216]; rfl)
 refine Pl 1 <| ?_
 have U218 := u1 U139 hu178 (ni hu11.size hg122)
 have U219 := ut0 U218 hu186
 have U220 := ut0 U219 hu191
 have U221 := ut U220 hu207 (ac (ni hu11.size hg122) (all_app (ob_new (SasAt.row hA173) hu11.size) all0))
 refine bl 62 ((((((L165.length : Nat) : Int) + ((L196.length : Nat) : Int)) == 0) && (((S164.held.length : Nat) : Int) == 0))) (fun q222 => ?_) (fun q222 => ?_)
 have q222a := (and_t q222).1
 have q222b := (and_t q222).2
 have q222ap := eq_of_beqi q222a
 have q222bp := eq_of_beqi q222b
 refine Pl 1 <| L1 <| Oc <| m1 (sas_held hA204) fun w223 hu224 => Pl 3 <| nt <| rt <| rr (.bool (((S195.held.length : Nat) : Int) == 1)) <| ?_
 have hs : (((S195.held.length : Nat) : Int) == 1) = true := by obtain ⟨z1, z2, z3, z4⟩ := sas_noise p138 hX166 hX197; subst z1; subst z2; subst z3; subst z4; rfl
 rw [hs]
 have U225 := ut0 U221 hu224
 exact ⟨rfl, U225⟩
 refine Pl 5 <| nt <| rt <| rr (.bool false) <| ?_
 have hs : false = true := by obtain ⟨z1, z2, z3, z4⟩ := sas_noise p138 hX166 hX197; subst z1; subst z2; subst z3; subst z4; first | (have q := q222; simp at q) | (exfalso; have q := q222; revert q; decide)
 rw [hs]
 exact ⟨rfl, U221⟩
theorem lawSascNoiseV {w : World} {ans : Bool} {mA : Bool} {vA : Value} {b : List Int} (hb : RdB mA w vA b) : Calls Tryz.prog 12 #[.bool ans, vA] w (PVal (.bool true) w) := by
  obtain ⟨AA, cpA, rfl, _, _⟩ := hb.shape
  exact lawSascNoise (ans := ans) hb 
end Go.Proofs.YtgjlbabefogepaaGreat
namespace Go.Proofs.YtgjlbabefogepaaGreat
open Go.ChangeShapes Go.WideShapes Go.ChangeAt Go.RowKit
theorem own : ownKnob Tryz.prog.godebug = none := by kernel_rfl
theorem laidOut : laidOutB Tryz.prog = true := by kernel_rfl
set_option maxRecDepth 100000 in
theorem lifted (os : Os) (started : os.Started) (H : Type) (enc : TypeId × Value → H) :
    ReturnsInHanded {} Tryz.checked os 12 .any (Rows.sascNoiseSpec.pre6 enc Tryz.prog Tryz.f12 Rows.sascNoiseRow.domain false) (Rows.sascNoiseSpec.post enc Tryz.prog Tryz.f12 false true false false) := by
  refine returnsInHanded_of_change (C := Tryz.checked) own started (by kernel_rfl) Tryz.func12
    (ChangeSpec.witness6 (enc := enc) (C := Tryz.checked) false ⟨#[], #[.bool false, .slice none 0 0], []⟩ 8 (by kernel_rfl) (by kernel_rfl) (by kernel_rfl) (by kernel_rfl)) ?_
  intro W base args ds gs before hval0 hW hcnd _
  have hval : ∀ (j : Nat) t v, Tryz.f12.params[j]? = some t → args[j]? = some v → Value.okWide Tryz.prog W .any base t v := hval0
  have hW' := hW
  obtain ⟨p, q, hA0, hV, rfl, hfz, hnd⟩ := hW
  have hA : DataW.TrodAll enc Tryz.prog W 0 (fun _ => true) true Tryz.f12.params.toList args.toList ds p := hA0
  rw [Tryz.params12] at hA hval
  obtain ⟨v0, vs0, d0, ds0, p0, q0, hargs, rfl, rfl, h0, r0⟩ := trodAll_cons hA
  obtain ⟨v1, vs1, d1, ds1, p1, q1, rfl, rfl, rfl, h1, r1⟩ := trodAll_cons r0
  obtain ⟨rfl, rfl, rfl⟩ := trodAll_nil r1
  obtain rfl : args = #[v0, v1] := by cases args; simp_all
  obtain ⟨rfl, rfl⟩ := trodVars_none hV
  obtain ⟨a0, rfl, rfl, rfl⟩ := open_bool Tryz.underlying4 (hval 0 4 v0 rfl rfl) h0
  have k1 := h1
  have lt1 : ∀ x ∈ p1, x.block < W.heap.size := by obtain ⟨m, hm⟩ := k1; exact DataW.trod_lt m _ _ _ hm
  obtain ⟨s1, len1, cap1, rfl⟩ := okWide_slice Tryz.underlying29 (hval 1 29 v1 rfl rfl)
  obtain ⟨u1, xs1, e1, R1⟩ : ∃ u xs, [Value.slice s1 len1 cap1] = [u] ∧ RdB false W u xs := by
    obtain ⟨fuel, hf⟩ := k1
    exact sl_u8 hf
  obtain rfl : Value.slice s1 len1 cap1 = u1 := by simpa using e1
  clear hA0 hval0
  refine (lawSascNoiseV (ans := a0) R1).mono fun e W' ⟨he, hu⟩ => ?_
  have bel := upd_below hu
  subst he
  exact ⟨_, rfl, _, _, _, [], _, [], hW', trodAll_mk1 (shut_bool Tryz.underlying4 _), (trodAll_cons_mk (shut_bool Tryz.underlying4 _) (trodAll_cons_mk (Below.trod laidOut (by kernel_rfl) (of_decide_eq_true (by kernel_rfl)) k1 bel lt1) trodAll_mk0)), rfl, bel.frame _, fun h => by cases h⟩
theorem over : Rows.sascNoiseRow.holds Tryz.pinned (OpenSpec.ofChange Rows.sascNoiseSpec) :=
  OpenClaim.holds_of_wide 12 Tryz.f12 rfl rfl rfl rfl rfl rfl rfl ⟨rfl, rfl, rfl, rfl, rfl⟩ rfl rfl rfl rfl rfl (by kernel_rfl) Tryz.func12 (by kernel_rfl)
    (of_decide_eq_true (by kernel_rfl)) (by unfold Func.isWrapper; first | (rw [if_pos (by decide +kernel)]; kernel_rfl) | (rw [if_neg (by decide +kernel)]; exact ⟨rfl, rfl⟩))
    (fun os started H enc _ => lifted os started H enc)
theorem proved : Rows.SascNoiseSaid := over
#print axioms proved
end Go.Proofs.YtgjlbabefogepaaGreat
