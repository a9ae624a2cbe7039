/- Contracts of functions, part KA4. -/
import Derived.Test.YtbaeecmamacphaaKA1
import Derived.Test.YtbaeecmamacphaaKA2
import Derived.Test.YtbaeecmamacphaaKA3
import Derived.RangeFuncRecord
import Derived.RangeFuncLeaves
import Derived.RangeFuncCalls
set_option linter.unusedVariables false
set_option linter.unusedSimpArgs false
namespace Go.Proofs.Ytbaeecmamacphaa
open Go.RowKit
def hd1 (C : Cur) : Cur := (C.bytesC 1).need (C.byteV == 6) 9
def hd2 (C : Cur) : Cur := ((hd1 C).wordsC 1).need ((hd1 C).wordV != 0) 6
def hd3 (C : Cur) : Cur := ((hd2 C).wordsC 1).need (decide ((hd2 C).wordV ≤ 9999)) 7
def headC (C : Cur) : Cur := ((hd3 C).wordsC 1).need ((hd3 C).wordV != 0) 5
def headM (C : Cur) : Rec := ⟨(hd1 C).wordV, (hd2 C).wordV, (hd3 C).wordV, []⟩
def askedS (s : Int) (C : Cur) : Int := s + (2 + 2 * (hd3 C).wordV)
def askedC (s : Int) (C : Cur) : Cur := (headC C).need (decide (askedS s C ≤ 245)) 5
def told1 (C : Cur) : Cur := (C.bytesC 1).need ((C.byteV % 2 == 1 && decide (3 ≤ C.byteV)) && decide (C.byteV ≤ ((C.bytesC 1).l.length : Int))) 5
def told2 (C : Cur) : Cur := ((told1 C).bytesC 1).need ((told1 C).byteV == 6) 9
def toldC (C : Cur) : Cur := (told2 C).wordsC (Int.tdiv (C.byteV - 1) 2)
def toldM (C : Cur) : Rec := ⟨0, 0, 0, (told2 C).wordsR (Int.tdiv (C.byteV - 1) 2)⟩
def wrt1 (C : Cur) : Cur := (headC C).need (decide (2 * (hd3 C).wordV ≤ ((headC C).l.length : Int))) 5
def wrtC (C : Cur) : Cur := (wrt1 C).wordsC (hd3 C).wordV
def wrtM (C : Cur) : Rec := ⟨(hd1 C).wordV, (hd2 C).wordV, (hd3 C).wordV, (wrt1 C).wordsR (hd3 C).wordV⟩
def PRec (g : Nat) (C' : Cur) (r : Rec) (w : World) (e : Ending) (w' : World) : Prop := ∃ A c, e = .returned (.agg #[.int .u16 r.file, .int .u16 r.record, .int .u16 r.count, .slice A r.words.length c]) ∧ RdW true w' (.slice A r.words.length c) r.words ∧ B16 r.file ∧ B16 r.record ∧ B16 r.count ∧ CurAt w' g C' ∧ Upd [g] w w'
def PAsk (g gs : Nat) (s' : Int) (C' : Cur) (r : Rec) (w : World) (e : Ending) (w' : World) : Prop := e = .returned (.agg #[.int .u16 r.file, .int .u16 r.record, .int .u16 r.count, .slice none 0 0]) ∧ B16 r.file ∧ B16 r.record ∧ B16 r.count ∧ CurAt w' g C' ∧ w'.heap[gs]? = some (.cells #[.int .i64 s'] 3 (0, 0)) ∧ Upd [g, gs] w w' 
set_option maxRecDepth 100000 in
set_option maxHeartbeats 4000000 in
theorem head_any {g : Nat} {C : Cur} {w : World} (hC : CurAt w g C) : Calls Try.prog 99 #[.pointer (some ⟨g, 0, none⟩)] w (PRec g (headC C) (headM C) w) := by
 have hlen := hC.len
 refine en 34 Try.func99 rfl <| sg <| L0 <| Oal #[.int .u16 0, .int .u16 0, .int .u16 0, .slice none 0 0] fun g10 w11 hg12 B13 hu14 => ng <| Pl 2 <| ?_
 have r15 := CurAt.old hC hu14
 refine L0 <| Oc <| m3 (byte_any r15) fun w16 hc17 hu18 hr19 => Pl 1 <| L0 <| Oc <| m2 (need_any ((C.byteV == 6)) 9 hc17) fun w20 hc21 hu22 => ?_
 refine ab hc21 fun x23 ex24 hc25 => ?_
 refine ng <| L0 <| Oal #[.int .u16 0, .int .u16 0, .int .u16 0, .slice none 0 0] fun g26 w27 hg28 B29 hu30 => ng <| Pl 1 <| ?_
 have r31 := CurAt.old hc25 hu30
 refine L0 <| Oc <| m3 (word_any r31) fun w32 hc33 hu34 hr35 => Pl 1 <| ?_
 have ne36 := nb (CurAt.lt hC) (le (le hu14.size hu18.size) hu22.size) hg28
 have r37 := ub1 hu34 (Ne.symm ne36) B29
 refine L0 <| Ost r37 0 #[.int .u16 x23.wordV, .int .u16 0, .int .u16 0, .slice none 0 0] fun w38 B39 hu40 => ng <| Pl 2 <| L0 <| Olb B39 0 <| Pl 1 <| ?_
 have r41 := CurAt.upd hc33 hu40 (not_cons ne36 not0) (safe_cons (safe1 r37 (by decide)) safe0)
 refine L0 <| Oc <| m2 (need_any ((x23.wordV != 0)) 6 r41) fun w42 hc43 hu44 => ?_
 refine ab hc43 fun x45 ex46 hc47 => ?_
 refine ng <| Pl 1 <| L0 <| Oc <| m3 (word_any hc47) fun w48 hc49 hu50 hr51 => Pl 1 <| ?_
 have U52 := u1 hu44 hu50 im
 have r53 := ub1 U52 (Ne.symm ne36) B39
 refine L0 <| Ost r53 1 #[.int .u16 x23.wordV, .int .u16 x45.wordV, .int .u16 0, .slice none 0 0] fun w54 B55 hu56 => ng <| Pl 2 <| L0 <| Olb B55 1 <| Pl 1 <| ?_
 have r57 := CurAt.upd hc49 hu56 (not_cons ne36 not0) (safe_cons (safe1 r53 (by decide)) safe0)
 refine L0 <| Oc <| m2 (need_any ((decide (x45.wordV ≤ 9999))) 7 r57) fun w58 hc59 hu60 => ?_
 refine ab hc59 fun x61 ex62 hc63 => ?_
 refine ng <| Pl 1 <| L0 <| Oc <| m3 (word_any hc63) fun w64 hc65 hu66 hr67 => Pl 1 <| ?_
 have U68 := u1 hu60 hu66 im
 have r69 := ub1 U68 (Ne.symm ne36) B55
 refine L0 <| Ost r69 2 #[.int .u16 x23.wordV, .int .u16 x45.wordV, .int .u16 x61.wordV, .slice none 0 0] fun w70 B71 hu72 => ng <| Pl 2 <| L0 <| Olb B71 2 <| Pl 1 <| ?_
 have r73 := CurAt.upd hc65 hu72 (not_cons ne36 not0) (safe_cons (safe1 r69 (by decide)) safe0)
 refine L0 <| Oc <| m2 (need_any ((x61.wordV != 0)) 5 r73) fun w74 hc75 hu76 => ?_
 refine ab hc75 fun x77 ex78 hc79 => ?_
 refine ng <| ?_
 have r80 := ub1 hu76 (Ne.symm ne36) B71
 refine L0 <| Olw r80 <| ?_
 have U81 := u1 hu18 hu22 im
 have U82 := ut0 U81 hu30
 have U83 := u1 U82 hu34 im
 have U84 := u1 U83 hu40 (ni U81.size hg28)
 have U85 := u1 U84 hu44 im
 have U86 := u1 U85 hu50 im
 have U87 := u1 U86 hu56 (ni U81.size hg28)
 have U88 := u1 U87 hu60 im
 have U89 := u1 U88 hu66 im
 have U90 := u1 U89 hu72 (ni U81.size hg28)
 have U91 := u1 U90 hu76 im
 have ne92 := nb (CurAt.lt hC) lr hg12
 have r93 := ub1 U91 (Ne.symm ne92) B13
 refine L0 <| Osw r93 #[.int .u16 x23.wordV, .int .u16 x45.wordV, .int .u16 x61.wordV, .slice none 0 0] fun w94 B95 hu96 => nt <| rt <| rc1 B95 <| ?_
 subst ex78 ex62 ex46 ex24
 have r97 := CurAt.upd hc79 hu96 (not_cons ne92 not0) (safe_cons (safe1 r93 (by decide)) safe0)
 have U98 := u1 (Upd.mono (S' := [g]) hu14 all0) hu18 im
 have U99 := u1 U98 hu22 im
 have U100 := ut0 U99 hu30
 have U101 := u1 U100 hu34 im
 have U102 := u1 U101 hu40 (ni U99.size hg28)
 have U103 := u1 U102 hu44 im
 have U104 := u1 U103 hu50 im
 have U105 := u1 U104 hu56 (ni U99.size hg28)
 have U106 := u1 U105 hu60 im
 have U107 := u1 U106 hu66 im
 have U108 := u1 U107 hu72 (ni U99.size hg28)
 have U109 := u1 U108 hu76 im
 have U110 := u1 U109 hu96 (nr hg12)
 exact ⟨_, _, rfl, RdG.nil .., b16 (x := ((C.bytesC 1).need (C.byteV == 6) 9).wordV) (by omega), b16 (x := ((((C.bytesC 1).need (C.byteV == 6) 9).wordsC 1).need (((C.bytesC 1).need (C.byteV == 6) 9).wordV != 0) 6).wordV) (by omega), b16 (x := ((((((C.bytesC 1).need (C.byteV == 6) 9).wordsC 1).need (((C.bytesC 1).need (C.byteV == 6) 9).wordV != 0) 6).wordsC 1).need (decide (((((C.bytesC 1).need (C.byteV == 6) 9).wordsC 1).need (((C.bytesC 1).need (C.byteV == 6) 9).wordV != 0) 6).wordV ≤ 9999)) 7).wordV) (by omega), r97, U110⟩
set_option maxRecDepth 100000 in
set_option maxHeartbeats 4000000 in
theorem ftold_any {g : Nat} {C : Cur} {w : World} (hC : CurAt w g C) : Calls Try.prog 102 #[.pointer (some ⟨g, 0, none⟩)] w (PRec g (toldC C) (toldM C) w) := by
 have hlen := hC.len
 refine en 33 Try.func102 rfl <| sg <| L0 <| Oal #[.int .u16 0, .int .u16 0, .int .u16 0, .slice none 0 0] fun g10 w11 hg12 B13 hu14 => ng <| Pl 1 <| ?_
 have r15 := CurAt.old hC hu14
 refine L0 <| Oc <| m3 (byte_any r15) fun w16 hc17 hu18 hr19 => L0 <| Oi C.byteV <| Pl 1 <| ng <| Pl 2 <| L0 <| Oe (.int .i64 (Int.tmod C.byteV 2)) (.int .i64 (C.byteV % 2)) (congrArg (Value.int .i64) (Int.tmod_eq_emod_of_nonneg (by omega))) <| Pl 2 <| cu 3 [11] 14 ((((C.byteV % 2) == 1) && (decide (3 ≤ C.byteV)))) (fun K K21 => ?_) ?_
 refine bl 11 (((C.byteV % 2) == 1)) (fun q20 => ?_) (fun q20 => ?_)
 have q20p := eq_of_beqi q20
 exact Pl 3 <| ce K21 (decide (3 ≤ C.byteV)) (by rw [q20]; rfl)
 have q20p := ne_of_beqi q20
 exact Pl 3 <| ce K21 false (by rw [q20]; rfl)
 refine Pl 1 <| cu 5 [15] 20 (((((C.byteV % 2) == 1) && (decide (3 ≤ C.byteV))) && (decide (C.byteV ≤ (((C.bytesC 1).l.length : Nat) : Int))))) (fun K K23 => ?_) ?_
 refine bl 15 ((((C.byteV % 2) == 1) && (decide (3 ≤ C.byteV)))) (fun q22 => ?_) (fun q22 => ?_)
 have q22a := (and_t q22).1
 have q22b := (and_t q22).2
 have q22ap := eq_of_beqi q22a
 have q22bp := of_decide_eq_true q22b
 refine Pl 2 <| L1 <| Oc <| mq (left_any hc17) <| ?_
 have hl24 := CurAt.len hc17
 exact Pl 2 <| ce K23 (decide (C.byteV ≤ (((C.bytesC 1).l.length : Nat) : Int))) (by rw [q22]; rfl)
 exact Pl 5 <| ce K23 false (by rw [q22]; rfl)
 refine L0 <| Oc <| m2 (need_any (((((C.byteV % 2) == 1) && (decide (3 ≤ C.byteV))) && (decide (C.byteV ≤ (((C.bytesC 1).l.length : Nat) : Int))))) 5 hc17) fun w25 hc26 hu27 => ?_
 refine ab hc26 fun x28 ex29 hc30 => ?_
 refine ng <| Pl 2 <| L0 <| Oc <| m3 (byte_any hc30) fun w31 hc32 hu33 hr34 => Pl 1 <| L0 <| Oc <| m2 (need_any ((x28.byteV == 6)) 9 hc32) fun w35 hc36 hu37 => ?_
 refine ab hc36 fun x38 ex39 hc40 => ?_
 refine ng <| Pl 2 <| L0 <| Oi (C.byteV - 1) <| L0 <| Oe (.int .i64 (IntKind.i64.wrap (Int.tdiv (C.byteV - 1) 2))) (.int .i64 (Int.tdiv (C.byteV - 1) 2)) (congrArg (Value.int .i64) (i64_tdiv (by omega) (by omega))) <| L0 <| Oc <| so3 (words_any (n := (Int.tdiv (C.byteV - 1) 2)) hc40) fun A51 cp52 w41 rd55 hl53 hm54 hc44 hu45 => ?_
 refine ab hc44 fun x48 ex49 hc50 => ?_
 refine Pl 1 <| ?_
 have U56 := u1 hu18 hu27 im
 have U57 := u1 U56 hu33 im
 have U58 := u1 U57 hu37 im
 have U59 := u1 U58 hu45 im
 have ne60 := nb (CurAt.lt hC) lr hg12
 have r61 := ub1 U59 (Ne.symm ne60) B13
 refine L0 <| Osw r61 #[.int .u16 0, .int .u16 0, .int .u16 0, .slice A51 ((x38.wordsR (Int.tdiv (C.byteV - 1) 2)).length) cp52] fun w62 B63 hu64 => nt <| rt <| rc1 B63 <| ?_
 subst ex49 ex39 ex29
 have r65 := own_stay rd55 hu64 (fun x hx => (not_cons (fun e => (not_old (blk_lt B13) U58.size rd55) (e ▸ hx)) not0)) (fun _ _ h => h)
 have r66 := CurAt.upd hc50 hu64 (not_cons ne60 not0) (safe_cons (safe1 r61 (by decide)) safe0)
 have U67 := u1 (Upd.mono (S' := [g]) hu14 all0) hu18 im
 have U68 := u1 U67 hu27 im
 have U69 := u1 U68 hu33 im
 have U70 := u1 U69 hu37 im
 have U71 := u1 U70 hu45 im
 have U72 := u1 U71 hu64 (nr hg12)
 exact ⟨_, _, rfl, (r65).rd, b16 (x := 0) (by omega), b16 (x := 0) (by omega), b16 (x := 0) (by omega), r66, U72⟩
set_option maxRecDepth 100000 in
set_option maxHeartbeats 4000000 in
theorem wrt_any {g : Nat} {C : Cur} {w : World} (hC : CurAt w g C) : Calls Try.prog 104 #[.pointer (some ⟨g, 0, none⟩)] w (PRec g (wrtC C) (wrtM C) w) := by
 have hlen := hC.len
 refine en 22 Try.func104 rfl <| sg <| L0 <| Oal #[.int .u16 0, .int .u16 0, .int .u16 0, .slice none 0 0] fun g10 w11 hg12 B13 hu14 => ng <| Pl 1 <| ?_
 have r15 := CurAt.old hC hu14
 refine L0 <| Oc <| ee6 (head_any r15) fun A17 cp18 w16 rd19 hb20 hb21 hb22 hc23 hu24 => ?_
 obtain ⟨hb20a, hb20b⟩ := hb20
 obtain ⟨hb21a, hb21b⟩ := hb21
 obtain ⟨hb22a, hb22b⟩ := hb22
 refine L0 <| Oal #[.int .u16 0, .int .u16 0, .int .u16 0, .slice none 0 0] fun g25 w26 hg27 B28 hu29 => L0 <| Osw B28 #[.int .u16 ((headM C).file), .int .u16 ((headM C).record), .int .u16 ((headM C).count), .slice A17 ((headM C).words.length) cp18] fun w30 B31 hu32 => nt <| sq <| Rg 9 (fun w' => w'.cell? ⟨g25, 2, none⟩ = some (.int .u16 ((headM C).count))) fun w42 hu43 => ?_
 have r45 := ub hu43 B31
 refine hld (blk_at r45 rfl) fun hS44 => Rt 0 hS44 <| Rt 1 hS44 <| Rl 2 hS44 (fun _ hs => hs) <| Rr 3 hS44 (.int .i64 ((headM C).count)) (fun _ _ => run_eqo (.int .i64 (IntKind.i64.wrap ((headM C).count))) (by kernel_rfl) (congrArg (Value.int .i64) (i64_in (by omega)))) <| Rr 4 hS44 (.int .i64 (2 * ((headM C).count))) (fun _ _ => run_eqo (.int .i64 (IntKind.i64.wrap (2 * ((headM C).count)))) (by kernel_rfl) (congrArg (Value.int .i64) (IntWalk.i64_in _ (by omega)))) <| Rt 5 hS44 <| ?_
 have U46 := u1 hu29 hu32 (nr hg27)
 have U47 := ut0 U46 hu43
 have r48 := CurAt.old hc23 U47
 refine R0 6 rfl <| Oc <| mq (left_any r48) <| ?_
 have hl49 := CurAt.len r48
 refine hld (blk_at r45 rfl) fun hS50 => Rt 7 hS50 <| R0 8 rfl <| Oc <| m2 (need_any ((decide ((2 * ((headM C).count)) ≤ (((headC C).l.length : Nat) : Int)))) 5 r48) fun w51 hc52 hu53 => ?_
 refine ab hc52 fun x54 ex55 hc56 => ?_
 have ne58 := nb (CurAt.lt hC) (le hu14.size hu24.size) hg27
 have r59 := ub1 hu53 (Ne.symm ne58) r45
 refine hld (blk_at r59 rfl) fun hS57 => re <| tn <| sg <| Pl 2 <| L0 <| Olb r59 2 <| L0 <| Oi ((headM C).count) <| L0 <| Oc <| so3 (words_any (n := (headM C).count) hc56) fun A67 cp68 w60 rd71 hl69 hm70 hc63 hu64 => Pl 1 <| ?_
 have r72 := ub1 hu64 (Ne.symm ne58) r59
 refine L0 <| Ost r72 3 #[.int .u16 ((headM C).file), .int .u16 ((headM C).record), .int .u16 ((headM C).count), .slice A67 ((x54.wordsR ((headM C).count)).length) cp68] fun w73 B74 hu75 => ng <| L0 <| Olw B74 <| ?_
 have U76 := ut0 hu24 hu29
 have U77 := u1 U76 hu32 (ni hu24.size hg27)
 have U78 := ut0 U77 hu43
 have U79 := u1 U78 hu53 im
 have U80 := u1 U79 hu64 im
 have U81 := u1 U80 hu75 (ni hu24.size hg27)
 have ne82 := nb (CurAt.lt hC) lr hg12
 have r83 := ub1 U81 (Ne.symm ne82) B13
 refine L0 <| Osw r83 #[.int .u16 ((headM C).file), .int .u16 ((headM C).record), .int .u16 ((headM C).count), .slice A67 ((x54.wordsR ((headM C).count)).length) cp68] fun w84 B85 hu86 => nt <| rt <| rc1 B85 <| ?_
 subst ex55
 have U87 := u1 (Upd.mono (S' := [g25, g10]) hu75 (ac im all0)) hu86 im
 have r88 := own_stay rd71 U87 (fun x hx => (not_cons (fun e => (not_old (blk_lt B28) (le (le hu32.size hu43.size) hu53.size) rd71) (e ▸ hx)) (not_cons (fun e => (not_old (blk_lt B13) U79.size rd71) (e ▸ hx)) not0))) (fun _ _ h => h)
 have r89 := ub1 U80 (Ne.symm ne82) B13
 have r90 := CurAt.upd hc63 U87 (not_cons ne58 (not_cons ne82 not0)) (safe_cons (safe1 r72 (by decide)) (safe_cons (safe1 r89 (by decide)) safe0))
 have U91 := u1 (Upd.mono (S' := [g]) hu14 all0) hu24 im
 have U92 := ut0 U91 hu29
 have U93 := u1 U92 hu32 (ni U91.size hg27)
 have U94 := ut0 U93 hu43
 have U95 := u1 U94 hu53 im
 have U96 := u1 U95 hu64 im
 have U97 := u1 U96 hu75 (ni U91.size hg27)
 have U98 := u1 U97 hu86 (nr hg12)
 exact ⟨_, _, rfl, (r88).rd, b16 (x := (headM C).file) (by omega), b16 (x := (headM C).record) (by omega), b16 (x := (headM C).count) (by omega), r90, U98⟩
set_option maxRecDepth 100000 in
set_option maxHeartbeats 4000000 in
theorem frule2_any {n : Int} {w : World} (hn : 0 ≤ n ∧ n < 256) : Calls Try.prog 100 #[.int .i64 n] w (PVal (.bool ((decide (7 ≤ n) && decide (n ≤ 245)) && n % 7 == 0)) w) := by
 refine en 14 Try.func100 rfl <| sg <| Pl 1 <| ng <| Pl 3 <| cu 3 [5] 8 (((decide (7 ≤ n)) && (decide (n ≤ 245)))) (fun K K11 => ?_) ?_
 refine bl 5 ((decide (7 ≤ n))) (fun q10 => ?_) (fun q10 => ?_)
 have q10p := of_decide_eq_true q10
 exact Pl 3 <| ce K11 (decide (n ≤ 245)) (by rw [q10]; rfl)
 have q10p := of_decide_eq_false q10
 exact Pl 3 <| ce K11 false (by rw [q10]; rfl)
 refine Pl 1 <| cu 4 [9] 13 ((((decide (7 ≤ n)) && (decide (n ≤ 245))) && ((n % 7) == 0))) (fun K K13 => ?_) ?_
 refine bl 9 (((decide (7 ≤ n)) && (decide (n ≤ 245)))) (fun q12 => ?_) (fun q12 => ?_)
 have q12a := (and_t q12).1
 have q12b := (and_t q12).2
 have q12ap := of_decide_eq_true q12a
 have q12bp := of_decide_eq_true q12b
 exact Pl 1 <| L1 <| Oe (.int .i64 (Int.tmod n 7)) (.int .i64 (n % 7)) (congrArg (Value.int .i64) (Int.tmod_eq_emod_of_nonneg (by omega))) <| Pl 2 <| ce K13 ((n % 7) == 0) (by rw [q12]; rfl)
 exact Pl 4 <| ce K13 false (by rw [q12]; rfl)
 refine Pl 1 <| nt <| rt <| rr (.bool (((decide (7 ≤ n)) && (decide (n ≤ 245))) && ((n % 7) == 0))) <| ?_
 exact ⟨rfl, (Upd.refl [] _)⟩
set_option maxRecDepth 100000 in
set_option maxHeartbeats 4000000 in
theorem frule3_any {n : Int} {w : World} (hn : 0 ≤ n ∧ n < 256) : Calls Try.prog 101 #[.int .i64 n] w (PVal (.bool (decide (4 ≤ n) && decide (n ≤ 245))) w) := by
 refine en 9 Try.func101 rfl <| sg <| Pl 1 <| ng <| Pl 3 <| cu 3 [5] 8 (((decide (4 ≤ n)) && (decide (n ≤ 245)))) (fun K K11 => ?_) ?_
 refine bl 5 ((decide (4 ≤ n))) (fun q10 => ?_) (fun q10 => ?_)
 have q10p := of_decide_eq_true q10
 exact Pl 3 <| ce K11 (decide (n ≤ 245)) (by rw [q10]; rfl)
 have q10p := of_decide_eq_false q10
 exact Pl 3 <| ce K11 false (by rw [q10]; rfl)
 refine Pl 1 <| nt <| rt <| rr (.bool ((decide (4 ≤ n)) && (decide (n ≤ 245)))) <| ?_
 exact ⟨rfl, (Upd.refl [] _)⟩
set_option maxRecDepth 100000 in
set_option maxHeartbeats 4000000 in
theorem frule4_any {n : Int} {w : World} (hn : 0 ≤ n ∧ n < 256) : Calls Try.prog 103 #[.int .i64 n] w (PVal (.bool (decide (9 ≤ n) && decide (n ≤ 251))) w) := by
 refine en 9 Try.func103 rfl <| sg <| Pl 1 <| ng <| Pl 3 <| cu 3 [5] 8 (((decide (9 ≤ n)) && (decide (n ≤ 251)))) (fun K K11 => ?_) ?_
 refine bl 5 ((decide (9 ≤ n))) (fun q10 => ?_) (fun q10 => ?_)
 have q10p := of_decide_eq_true q10
 exact Pl 3 <| ce K11 (decide (n ≤ 251)) (by rw [q10]; rfl)
 have q10p := of_decide_eq_false q10
 exact Pl 3 <| ce K11 false (by rw [q10]; rfl)
 refine Pl 1 <| nt <| rt <| rr (.bool ((decide (9 ≤ n)) && (decide (n ≤ 251)))) <| ?_
 exact ⟨rfl, (Upd.refl [] _)⟩
set_option maxRecDepth 100000 in
set_option maxHeartbeats 4000000 in
theorem within_err {e : Int} {w : World} : Calls Try.prog 68 #[.int .i64 e] w (PVal (.int .i64 (if e == 2 then 5 else e)) w) := by
 refine en 6 Try.func68 rfl <| sg <| Pl 1 <| nt <| sq <| sg <| Pl 2 <| nt <| cb ((e == 2)) (fun q10 => ?_) (fun q10 => ?_)
 have q10p := eq_of_beqi q10
 refine sg <| Pl 1 <| nt <| rt <| tr <| rr (.int .i64 5) <| ?_
 have hs : (if e == 2 then (5 : Int) else e) = 5 := by simp only [q10, bs, if_true, if_false, decide_true, decide_false, reduceIte]
 rw [hs]
 exact ⟨rfl, (Upd.refl [] _)⟩
 have q10p := ne_of_beqi q10
 refine skn <| sg <| Pl 2 <| nt <| rt <| rr (.int .i64 e) <| ?_
 have hs : (if e == 2 then (5 : Int) else e) = e := by simp only [q10, bs, if_true, if_false, decide_true, decide_false, reduceIte]
 rw [hs]
 exact ⟨rfl, (Upd.refl [] _)⟩
structure WF (F : Fence) (n : Nat) (P : Program) (ops : Array Oper) (Q : Exit → Act → World → Prop) (l : List Oper) (a : Act) (w : World) : Prop where
  out : wpListIn F n P ops Q l a w
def plainF (F : Fence) : Prop := F = Fence.wide ∨ ∃ l, F = Fence.wide.inRound l
theorem plain_wide : plainF Fence.wide := .inl rfl
theorem plain_round (l : Nat) : plainF (Fence.wide.inRound l) := .inr ⟨l, rfl⟩
theorem plainF.fn {F : Fence} (h : plainF F) (f : FuncId) : F.fn f := by
  rcases h with rfl | ⟨l, rfl⟩ <;> trivial
theorem plainF.depth {F : Fence} (h : plainF F) : F.depth = none := by
  rcases h with rfl | ⟨l, rfl⟩ <;> rfl
section
variable {F : Fence} {n : Nat} {P : Program} {Q : Exit → Act → World → Prop} {a : Act} {w : World} {K : Act → World → Prop} {ops : Array Oper} {rest : List Oper} {o : Oper} {N : Option Tmp}
theorem callsF {f : FuncId} {args : Array Value} {R : Ending → World → Prop} (hF : plainF F) (h : Calls P f args w R) : CallsIn F n P f args w R := by
  rcases hF with rfl | ⟨l, rfl⟩
  · exact callsIn_wide.2 h
  · exact CallsIn.inRound l (callsIn_wide.2 h)
theorem rowsF {row : String} {args : Array Value} {R : Value → World → Prop} (hF : plainF F) (h : Rows P row args w R) : RowsIn F n P row args w R := by
  have h0 : RowsIn Fence.wide n P row args w R := fun c cs _ => let ⟨v, w', r, s⟩ := h c cs; ⟨v, w', r, stepsIn_wide.2 s⟩
  rcases hF with rfl | ⟨l, rfl⟩
  · exact h0
  · exact h0
def noDefer : Op → Bool
  | .defer _ => false
  | _ => true
theorem opF (hF : plainF F) (hd : noDefer o.op = true) (h : o.wp P a w K Q) : o.wpIn F n P a w K Q := by
  refine ⟨fun f _ => hF.fn f, ?_⟩
  rw [Oper.semAt_eq _ _ _ (fun c hc => by rw [hc] at hd; cases hd)]
  unfold Oper.wp at h
  have hdep : ∀ {p : Prop}, F.depth.isSome = true → p := fun h => by rw [hF.depth] at h; cases h
  generalize (execOp a.eval o).run P w = r at h ⊢
  cases r with
  | ok x w' =>
    cases x <;> simp only [Oper.upon, Oper.uponIn] at h ⊢
    case value u => exact h
    case skip => exact h
    case defer d => exact h
    case enter f args => exact ⟨hdep, callsF hF h⟩
    case row row args => exact ⟨hdep, rowsF hF h⟩
  | halt x w' =>
    cases x <;> simp only [Oper.upon, Oper.uponIn] at h ⊢
    case panic u => exact h
theorem Fgo {id : Nat} {l : List Oper} (n : Nat) (h : WF Fence.wide n P l.toArray Q l a w) : (Code.region id l.toArray false).wp P Q a w := wpIn_wide.1 (wpIn_region_lit h.out)
theorem FgoR {id : Nat} {l : List Oper} (h : WF F n P l.toArray Q l a w) : (Code.region id l.toArray false).wpIn F n P Q a w := wpIn_region_lit h.out
theorem Fnil (h : Q .normal a w) : WF F n P ops Q [] a w := ⟨h⟩
theorem fg_f {l : List Oper} {L : List Value} {D : List Deferred} (G : (Nat → Value) → List Value) (h : L = G (fun i => L.getD i undef)) (k : ∀ d, WF F n P ops Q l ⟨(G d).toArray, D⟩ w) : WF F n P ops Q l ⟨L.toArray, D⟩ w := by
  have h2 := k (fun i => L.getD i undef)
  rw [← h] at h2
  exact h2
theorem fp_f {l : List Oper} {L : List Value} {D : List Deferred} {N : Option Tmp} {v : Value} (k : WF F n P ops Q l ⟨(fput L N v).toArray, D⟩ w) : WF F n P ops Q l (Act.put ⟨L.toArray, D⟩ N v) w := by rw [put_fput]; exact k
theorem fr_f {l : List Oper} (a' : Act) (h : a = a') (k : WF F n P ops Q l a' w) : WF F n P ops Q l a w := by subst h; exact k
theorem fr_ci {c : Code} (a' : Act) (h : a = a') (k : c.wpIn F n P Q a' w) : c.wpIn F n P Q a w := by subst h; exact k
theorem Fst (hF : plainF F) (hd : noDefer o.op = true) (hw : Region.wanted o (yielded ops a.tmps) = true) (h : OW P o a w (WF F n P ops Q rest) Q) : WF F n P ops Q (o :: rest) a w := by
  refine ⟨?_⟩
  unfold wpListIn
  rw [if_pos hw]
  exact opF hF hd (ow_next h fun _ _ h => h.out)
theorem Fst0 (hF : plainF F) (hd : noDefer o.op = true) (hg : o.guard = none) (h : OW P o a w (WF F n P ops Q rest) Q) : WF F n P ops Q (o :: rest) a w := Fst hF hd (by simp [Region.wanted, hg]) h
theorem Foff (hF : plainF F) (hw : Region.wanted o (yielded ops a.tmps) = false) (hN : o.dst = N) (h : WF F n P ops Q rest (a.put N undef) w) : WF F n P ops Q (o :: rest) a w := by
  subst hN
  refine ⟨?_⟩
  unfold wpListIn
  rw [if_neg (by simp [hw])]
  exact ⟨fun f _ => hF.fn f, h.out⟩
theorem Fyield {x : Operand} {opds : Array Operand} {ts : Array TypeId} {l : Nat} {r : Loop} (args : Array Value) (hw : Region.wanted o (yielded ops a.tmps) = true) (hN : o.dst = N) (hop : o.op = .call { callee := .value x, args := opds, argTypes := ts })
    (hx : a.eval x = .func (.yield l) #[] #[]) (hargs : opds.map a.eval = args) (hl : w.heap[l]? = some (.loop r)) (hs : args.size = r.params.size)
    (h : RoundIn Fence.wide (n - 1) P l r.fn ((r.params.zip args).foldl (fun tmps (t, a) => tmps.setIfInBounds t a) r.tmps) r.assign r.body w (fun e w' => ∃ v, e = .returned v ∧ WF Fence.wide n P ops Q rest (a.put N v) w')) : WF Fence.wide n P ops Q (o :: rest) a w := by
  subst hN
  refine ⟨?_⟩
  unfold wpListIn
  rw [if_pos hw]
  refine ⟨fun f _ => trivial, ?_⟩
  have hrun : (o.semAt Fence.wide.round a.eval).run P w = .ok (.round l r.fn ((r.params.zip args).foldl (fun tmps (t, a) => tmps.setIfInBounds t a) r.tmps) r.assign r.body) w := by
    show (execOp a.eval o).run P w = _
    unfold execOp
    simp only [hop, resolve, hx, Deferred.ofValue, Sem.run_bind, Sem.run_pure, Result.andThen_ok, invoke, hargs]
    have := run_yield (P := P) (args := args) hl hs
    simpa using this
  rw [hrun, Oper.uponIn_round]
  refine ⟨(by simp [Fence.wide]), h.mono fun e w' hh => ?_⟩
  obtain ⟨v, rfl, h2⟩ := hh
  exact h2.out
end
theorem Fyield1 {P : Program} {n : Nat} {ops : Array Oper} {Q : Exit → Act → World → Prop} {rest : List Oper} {o : Oper} {a : Act} {w : World} {N : Option Tmp} {x : Operand} {opds : Array Operand} {ts : Array TypeId} {l : Nat} {r : Loop} (v : Value) (p : Tmp) (hw : Region.wanted o (yielded ops a.tmps) = true) (hN : o.dst = N) (hop : o.op = .call { callee := .value x, args := opds, argTypes := ts })
    (hx : a.eval x = .func (.yield l) #[] #[]) (hargs : opds.map a.eval = #[v]) (hl : w.heap[l]? = some (.loop r)) (hp : r.params = #[p])
    (h : RoundIn Fence.wide (n - 1) P l r.fn (r.tmps.setIfInBounds p v) r.assign r.body w (fun e w' => ∃ u, e = .returned u ∧ WF Fence.wide n P ops Q rest (a.put N u) w')) : WF Fence.wide n P ops Q (o :: rest) a w := by
  refine Fyield #[v] hw hN hop hx hargs hl (by rw [hp]; rfl) ?_
  have : ((r.params.zip #[v]).foldl (fun tmps (t, a) => tmps.setIfInBounds t a) r.tmps) = r.tmps.setIfInBounds p v := by rw [hp]; simp
  rw [this]
  exact h
theorem upd_putObj {w : World} {l : Nat} (o : Go.Obj) : Upd [l] w (w.putObj l o) :=
  ⟨rfl, rfl, rfl, by simp [World.putObj], fun k hk hn => World.putObj_heap_other (by simpa using hn)⟩
theorem blk_putObj {w : World} {l : Nat} {o : Go.Obj} (o' : Go.Obj) (h : w.heap[l]? = some o) : (w.putObj l o').heap[l]? = some o' := World.putObj_heap_same (blk_lt h)
def noCells : Go.Obj → Bool
  | .cells .. => false
  | _ => true
theorem RdG.updl {α : Type} {m : Bool} {e : TypeId} {sz : Nat} {R : World → α → List Value → Prop} {w w' : World} {v : Value} {xs : List α} {l : Nat} {o : Go.Obj}
    (h : RdG m e sz R w v xs) (hu : Upd [l] w w') (hl : w.heap[l]? = some o) (ho : noCells o = true) (hR : ∀ x cs, R w x cs → R w' x cs) : RdG m e sz R w' v xs := by
  obtain ⟨A, c, rfl, h1, h2, h0, h3⟩ := h
  refine ⟨A, c, rfl, h1, h2, h0, fun hp => ?_⟩
  obtain ⟨b, off, cells, t, fr, rfl, hb, ht, hx⟩ := h3 hp
  refine ⟨b, off, cells, t, fr, rfl, ?_, ht, fun j x hj => ?_⟩
  · refine hu.blk (fun hbs => ?_) hb
    simp at hbs
    subst hbs
    rw [hl] at hb
    injection hb with hb
    subst hb
    cases ho
  · obtain ⟨cs, hl, hr, hc⟩ := hx j x hj
    exact ⟨cs, hl, hR _ _ hr, hc⟩
theorem RdB.updl {m : Bool} {w w' : World} {v : Value} {xs : List Int} {l : Nat} {o : Go.Obj} (h : RdB m w v xs) (hu : Upd [l] w w') (hl : w.heap[l]? = some o) (ho : noCells o = true) : RdB m w' v xs := RdG.updl h hu hl ho fun _ _ h => h
theorem RdW.updl {m : Bool} {w w' : World} {v : Value} {xs : List Int} {l : Nat} {o : Go.Obj} (h : RdW m w v xs) (hu : Upd [l] w w') (hl : w.heap[l]? = some o) (ho : noCells o = true) : RdW m w' v xs := RdG.updl h hu hl ho fun _ _ h => h
theorem recR.updl {m : Bool} {w w' : World} {l : Nat} {o : Go.Obj} (hu : Upd [l] w w') (hl : w.heap[l]? = some o) (ho : noCells o = true) (r : Rec) (cs : List Value) (h : recR m w r cs) : recR m w' r cs := by
  obtain ⟨v, h1, h2, h3⟩ := h
  exact ⟨v, h1, RdW.updl h2 hu hl ho, h3⟩
theorem CurAt.updl {w w' : World} {g : Nat} {c : Cur} {l : Nat} {o : Go.Obj} (h : CurAt w g c) (hu : Upd [l] w w') (hg : g ∉ [l]) (hl : w.heap[l]? = some o) (ho : noCells o = true) : CurAt w' g c := by
  obtain ⟨v, hb, hr, hn⟩ := h
  exact ⟨v, hu.blk hg hb, hr.updl hu hl ho, hn⟩
theorem round_of {n : Nat} {P : Program} {l : Nat} {f : FuncId} {tmps : Array Value} {assign body : Code} {w : World} {r : Loop} {R : Ending → World → Prop}
    (h : assign.wpIn (Fence.wide.inRound l) n P (Exit.then (fun a₁ w₁ => w₁.heap[l]? = some (.loop r) ∧ r.state = .ready ∧ ∀ w₂, w₂.heap[l]? = some (.loop { r with state := .busy }) → Upd [l] w₁ w₂ →
      body.wpIn (Fence.wide.inRound l) n P (Exit.then (fun _ w₃ => ∃ r', w₃.heap[l]? = some (.loop r') ∧ ∀ w₄, w₄.heap[l]? = some (.loop { r' with state := .ready, pending := none }) → Upd [l] w₃ w₄ → R (.returned (.bool true)) w₄) (fun _ _ _ => False)) a₁ w₂) (fun _ _ _ => False)) { tmps := tmps, defers := [] } w) :
    RoundIn Fence.wide n P l f tmps assign body w R := by
  refine roundIn_of_wpIn trivial (Code.wpIn_mono (fun e a w q => ?_) h)
  cases e with
  | normal =>
    obtain ⟨h1, h2, h3⟩ := q
    refine ⟨_, run_beginRound h1 h2, Code.wpIn_mono (fun e a w q => ?_) (h3 _ (blk_putObj _ h1) (upd_putObj _))⟩
    cases e with
    | normal =>
      obtain ⟨r', h4, h5⟩ := q
      exact ⟨_, _, run_endRound none h4, h5 _ (blk_putObj _ h4) (upd_putObj _)⟩
    | _ => exact q.elim
  | _ => exact q.elim
theorem round_at {n : Nat} {P : Program} {l : Nat} {f : FuncId} {tmps : Array Value} {assign body : Code} {w : World} {r : Loop} {R : Ending → World → Prop}
    (hl : w.heap[l]? = some (.loop r))
    (h : assign.wpIn (Fence.wide.inRound l) n P (Exit.then (fun a₁ w₁ => w₁.heap[l]? = some (.loop r) ∧ r.state = .ready ∧ ∀ w₂, w₂.heap[l]? = some (.loop { r with state := .busy }) → Upd [l] w₁ w₂ →
      body.wpIn (Fence.wide.inRound l) n P (Exit.then (fun _ w₃ => ∃ r', w₃.heap[l]? = some (.loop r') ∧ ∀ w₄, w₄.heap[l]? = some (.loop { r' with state := .ready, pending := none }) → Upd [l] w₃ w₄ → R (.returned (.bool true)) w₄) (fun _ _ _ => False)) a₁ w₂) (fun _ _ _ => False)) { tmps := tmps, defers := [] } w) :
    RoundIn Fence.wide n P l f tmps assign body w R := round_of h
theorem wp_range {P : Program} {Q : Exit → Act → World → Prop} {a : Act} {w : World} {g : Operand} {ps : Array Tmp} {assign body : Code} {f : FuncId} {fn : Func} (cap : Array Value)
    (hx : a.eval g = .func (.func f) #[] cap) (hf : P.funcs[f]? = some fn) (hname : (fn.name == "runtime.NumGoroutine") = false) (hb : fn.body.isSome = true)
    (h : ∀ fn0 D l w₂, w.heap.size ≤ D → w.heap.size ≤ l → D ≠ l → w₂.heap[D]? = some (.deferred (some [])) → w₂.heap[l]? = some (.loop { state := .ready, pending := none, fn := fn0, tmps := a.tmps, params := ps, assign := assign, body := body, defers := D }) → Upd [] w w₂ →
      Calls P f (#[.func (.yield l) #[] #[]] ++ cap) w₂ (fun e w₃ => ∃ v r', e = .returned v ∧ w₃.heap[l]? = some (.loop r') ∧ r'.state ≠ .busy ∧ r'.pending = none ∧ ∀ w₄, Upd [l] w₃ w₄ → Q .normal { a with defers := { target := .collected D, args := #[] } :: a.defers } w₄)) :
    (Code.rangeFunc g ps assign body).wp P Q a w := by
  refine (wpIn_wide (n := 9)).1 (wpIn_rangeFunc fun fn0 _ => ?_)
  have h1 : fn.name ≠ "runtime.NumGoroutine" := by simpa using hname
  obtain ⟨cd, hcd⟩ := Option.isSome_iff_exists.1 hb
  refine ⟨w.heap.size + 1, [{ target := .collected w.heap.size, args := #[] }], ((w.alloc (.deferred (some []))).alloc (.loop { state := .ready, pending := none, fn := fn0, tmps := a.tmps, params := ps, assign := assign, body := body, defers := w.heap.size })),
    { target := .fn (.func f) cap, args := #[] ++ #[.func (.yield (w.heap.size + 1)) #[] #[]] }, ((w.alloc (.deferred (some []))).alloc (.loop { state := .ready, pending := none, fn := fn0, tmps := a.tmps, params := ps, assign := assign, body := body, defers := w.heap.size })),
    f, #[.func (.yield (w.heap.size + 1)) #[] #[]] ++ cap, ((w.alloc (.deferred (some []))).alloc (.loop { state := .ready, pending := none, fn := fn0, tmps := a.tmps, params := ps, assign := assign, body := body, defers := w.heap.size })), run_enterLoop_outer fn0 a.tmps ps assign body, ?_, fun _ _ => trivial, ?_, by simp [Fence.wide], ?_⟩
  · unfold resolve
    simp only [rangeCall, hx, Deferred.ofValue, Sem.run_pure, List.map_toArray, List.map_cons, List.map_nil]
    rfl
  · simp [invoke, callFunc, hf, h1, hcd]
  · have hD : ((w.alloc (.deferred (some []))).alloc (.loop { state := .ready, pending := none, fn := fn0, tmps := a.tmps, params := ps, assign := assign, body := body, defers := w.heap.size })).heap[w.heap.size]? = some (.deferred (some [])) := blk_old (blk_new w _) _
    have hl : ((w.alloc (.deferred (some []))).alloc (.loop { state := .ready, pending := none, fn := fn0, tmps := a.tmps, params := ps, assign := assign, body := body, defers := w.heap.size })).heap[w.heap.size + 1]? = some (.loop { state := .ready, pending := none, fn := fn0, tmps := a.tmps, params := ps, assign := assign, body := body, defers := w.heap.size }) := by
      have := blk_new (w.alloc (.deferred (some []))) (.loop { state := .ready, pending := none, fn := fn0, tmps := a.tmps, params := ps, assign := assign, body := body, defers := w.heap.size })
      simpa using this
    refine callsIn_wide.2 ((h fn0 w.heap.size (w.heap.size + 1) _ (Nat.le_refl _) (by omega) (by omega) hD hl (((Upd.refl [] w).alloc _).alloc _)).mono ?_)
    rintro e w₃ ⟨v, r', rfl, h3, h4, h5, h6⟩
    refine ⟨_, _, run_endLoop h3 h4, ?_⟩
    rw [h5]
    exact h6 _ (upd_putObj _)
theorem calls_marks {P : Program} {f : FuncId} {fn : Func} {c : Code} {args : Array Value} {w : World} {R : Ending → World → Prop} (hf : P.funcs[f]? = some fn) (hb : fn.body = some c)
    (h : c.wp P (bodyPostM Fence.wide 9 P fn R) { tmps := args ++ Array.replicate (fn.ntmps - args.size) undef, defers := [] } w) : Calls P f args w R :=
  callsIn_wide.1 (callsIn_of_wp_marks hf hb trivial (wpIn_wide.2 h) rfl)
theorem bm_ret {P : Program} {fn : Func} {R : Ending → World → Prop} {a : Act} {w : World} {D : Nat} (hd : a.defers = [{ target := .collected D, args := #[] }]) (hD : w.heap[D]? = some (.deferred (some [])))
    (h : ∀ w', Upd [D] w w' → ∃ v, (results fn a.tmps).run P w' = .ok v w' ∧ R (.returned v) w') : bodyPostM Fence.wide 9 P fn R .ret a w := by
  show LeavesInM Fence.wide 9 P fn a.tmps R a.defers .returning w
  rw [hd]
  exact ⟨by simp, .inl ⟨D, _, rfl, run_takeDeferred hD, h _ (upd_putObj _)⟩⟩
theorem bm_ret0 {P : Program} {fn : Func} {R : Ending → World → Prop} {a : Act} {w : World} (hd : a.defers = []) (h : ∃ v, (results fn a.tmps).run P w = .ok v w ∧ R (.returned v) w) : bodyPostM Fence.wide 9 P fn R .ret a w := by
  show LeavesInM Fence.wide 9 P fn a.tmps R a.defers .returning w
  rw [hd]
  exact h
structure GF (E : Fence) (m : Nat) (P : Program) (ops : Array Oper) (Q : Exit → Act → World → Prop) (l : List Oper) (n : Nat) (D : List Deferred) (F : Fr) (w : World) : Prop where
  out : ∀ a, Ag n D F a → WF E m P ops Q l a w
structure GI (E : Fence) (m : Nat) (P : Program) (c : Code) (Q : Exit → Act → World → Prop) (n : Nat) (D : List Deferred) (F : Fr) (w : World) : Prop where
  out : ∀ a, Ag n D F a → c.wpIn E m P Q a w
section
variable {E : Fence} {m : Nat} {P : Program} {Q : Exit → Act → World → Prop} {n : Nat} {D : List Deferred} {F : Fr} {w : World} {ops : Array Oper} {rest l : List Oper} {d : Option Tmp} {op : Op} {t : TypeId} {s : String} {af : Array Edge} {gu : Option (Nat × Bool)} {x y c : Code} {id : Nat}
theorem fgo (m : Nat) (h : GF Fence.wide m P l.toArray Q l n D F w) : GC P (.region id l.toArray false) Q n D F w := ⟨fun a ha => Fgo m (h.out a ha)⟩
theorem fgr (h : GF E m P l.toArray Q l n D F w) : GI E m P (.region id l.toArray false) Q n D F w := ⟨fun a ha => FgoR (h.out a ha)⟩
theorem fbk (h : GI E m P c (Exit.inBlock id Q) n D F w) : GI E m P (.block id c) Q n D F w := ⟨fun a ha => wpIn_block (h.out a ha)⟩
theorem fsq (h : GI E m P x (Exit.then (y.wpIn E m P Q) Q) n D F w) : GI E m P (.seq x y) Q n D F w := ⟨fun a ha => wpIn_seq (h.out a ha)⟩
theorem ftn (h : GI E m P y Q n D F w) : GQ (Exit.then (y.wpIn E m P Q) Q) .normal n D F w := ⟨fun a ha => h.out a ha⟩
theorem fnl (h : GQ Q .normal n D F w) : GF E m P ops Q [] n D F w := ⟨fun a ha => Fnil (h.out a ha)⟩
theorem F0w (hE : plainF E) (h : OG P ⟨d, op, t, s, af, gu⟩ n D F w (GF E m P ops Q rest n D) Q) (hw : gOn ops F gu = (true, true)) (hd : noDefer op = true) : GF E m P ops Q (⟨d, op, t, s, af, gu⟩ :: rest) n D F w :=
  ⟨fun a ha => Fst hE hd (gOn_w ha hw) (h.out a ha _ fun F' w' a' k ha' => k.out a' ha')⟩
theorem Fp_ (hE : plainF E) {o : Oper} (h : GF E m P ops Q rest n D (st1 P ops w F o) w) (hc : ckL P ops w n 1 (o :: rest) F = exL P ops w 1 (o :: rest) F) (hd : noDefer o.op = true) : GF E m P ops Q (o :: rest) n D F w := by
  simp only [ckL, exL, List.cons.injEq, Prod.mk.injEq, Bool.and_eq_true] at hc
  obtain ⟨⟨⟨h1, h2, h3⟩, h4⟩, h5⟩ := hc
  refine ⟨fun a ha => ?_⟩
  cases hon : (gOn ops F o.guard).2 with
  | true =>
    rw [hon] at h3 h4
    simp only [cond_true] at h3 h4
    have hst : st1 P ops w F o = pt o.dst (vo P w F o) F := by simp [st1, hon]
    rw [hst] at h
    exact Fst hE hd (gOn_w ha (Prod.ext h1 hon)) (ow_val (N := o.dst) (vo P w F o) rfl (by rw [← opIn_ex ha h3]; exact h4) (h.out _ (ha.put h2)))
  | false =>
    have hst : st1 P ops w F o = pt o.dst undef F := by simp [st1, hon]
    rw [hst] at h
    exact Foff (N := o.dst) hE (gOn_w ha (Prod.ext h1 hon)) rfl (h.out _ (ha.put h2))
theorem F0 (h : OG P ⟨d, op, t, s, af, gu⟩ n D F w (GF Fence.wide m P ops Q rest n D) Q) (hw : gOn ops F gu = (true, true) := by kernel_rfl) (hd : noDefer op = true := by kernel_rfl) : GF Fence.wide m P ops Q (⟨d, op, t, s, af, gu⟩ :: rest) n D F w := F0w plain_wide h hw hd
theorem R0f {q : Nat} (h : OG P ⟨d, op, t, s, af, gu⟩ n D F w (GF (Fence.wide.inRound q) m P ops Q rest n D) Q) (hw : gOn ops F gu = (true, true) := by kernel_rfl) (hd : noDefer op = true := by kernel_rfl) : GF (Fence.wide.inRound q) m P ops Q (⟨d, op, t, s, af, gu⟩ :: rest) n D F w := F0w (plain_round _) h hw hd
theorem Fp {o : Oper} (h : GF Fence.wide m P ops Q rest n D (st1 P ops w F o) w) (hc : ckL P ops w n 1 (o :: rest) F = exL P ops w 1 (o :: rest) F := by kernel_rfl) (hd : noDefer o.op = true := by kernel_rfl) : GF Fence.wide m P ops Q (o :: rest) n D F w := Fp_ plain_wide h hc hd
theorem Rpf {q : Nat} {o : Oper} (h : GF (Fence.wide.inRound q) m P ops Q rest n D (st1 P ops w F o) w) (hc : ckL P ops w n 1 (o :: rest) F = exL P ops w 1 (o :: rest) F := by kernel_rfl) (hd : noDefer o.op = true := by kernel_rfl) : GF (Fence.wide.inRound q) m P ops Q (o :: rest) n D F w := Fp_ (plain_round _) h hc hd
theorem blf (j : Nat) (e : Bool) (ht : e = true → GF E m P ops Q l n D ((j, .bool true) :: F) w) (hf : e = false → GF E m P ops Q l n D ((j, .bool false) :: F) w) (hv : lk F j = some (.bool e) := by kernel_rfl) : GF E m P ops Q l n D F w := by
  refine ⟨fun a ha => ?_⟩
  have key : ∀ b, e = b → Ag n D ((j, .bool b) :: F) a := fun b hb => ⟨ha.sz, ha.df, fun i v hi => by
    rcases lk_cons hi with ⟨rfl, rfl⟩ | ⟨_, h2⟩
    · rw [← hb]; exact ha.at_ _ _ hv
    · exact ha.at_ _ _ h2⟩
  rcases bool_dich e with q | q
  · exact (ht q).out a (key _ q)
  · exact (hf q).out a (key _ q)
theorem syf (j : Nat) {e b : Bool} (q : e = b) (h : GF E m P ops Q l n D ((j, .bool b) :: F) w) (hv : lk F j = some (.bool e) := by kernel_rfl) : GF E m P ops Q l n D F w := by
  subst q
  refine ⟨fun a ha => h.out a ⟨ha.sz, ha.df, fun i v hi => ?_⟩⟩
  rcases lk_cons hi with ⟨rfl, rfl⟩ | ⟨_, h2⟩
  · exact ha.at_ _ _ hv
  · exact ha.at_ _ _ h2
theorem Fy {x : Operand} {opds : Array Operand} {ts : Array TypeId} {q : Nat} {r : Loop} (v : Value) (p : Tmp) (hl : w.heap[q]? = some (.loop r)) (hp : r.params = #[p])
    (h : RoundIn Fence.wide (m - 1) P q r.fn (r.tmps.setIfInBounds p v) r.assign r.body w (fun e w' => ∃ u, e = .returned u ∧ GF Fence.wide m P ops Q rest n D (pt d u F) w'))
    (hw : gOn ops F gu = (true, true) := by kernel_rfl) (hx : evo F x = some (.func (.yield q) #[] #[]) := by kernel_rfl) (ha : opds.toList.map (evo F) = [some v] := by kernel_rfl) (hd : dok n d = true := by kernel_rfl) :
    GF Fence.wide m P ops Q (⟨d, .call { callee := .value x, args := opds, argTypes := ts }, t, s, af, gu⟩ :: rest) n D F w :=
  ⟨fun a hag => Fyield1 v p (gOn_w hag hw) rfl rfl (hag.ev hx) (by apply Array.toList_inj.1; rw [Array.toList_map]; exact ag_args (vs := [v]) hag ha) hl hp (h.mono fun e w' hh => by
    obtain ⟨u, rfl, hk⟩ := hh
    exact ⟨u, rfl, hk.out _ (hag.put hd)⟩)⟩
theorem grange {g : Operand} {ps : Array Tmp} {assign body : Code} {f : FuncId} (cap : Array Value)
    (h : ∀ a, Ag n D F a → ∀ fn0 D' q w₂, w.heap.size ≤ D' → w.heap.size ≤ q → D' ≠ q → w₂.heap[D']? = some (.deferred (some [])) → w₂.heap[q]? = some (.loop { state := .ready, pending := none, fn := fn0, tmps := a.tmps, params := ps, assign := assign, body := body, defers := D' }) → Upd [] w w₂ →
      Calls P f (#[.func (.yield q) #[] #[]] ++ cap) w₂ (fun e w₃ => ∃ v r', e = .returned v ∧ w₃.heap[q]? = some (.loop r') ∧ r'.state ≠ .busy ∧ r'.pending = none ∧ ∀ w₄, Upd [q] w₃ w₄ → GQ Q .normal n ({ target := .collected D', args := #[] } :: D) F w₄))
    (hx : evo F g = some (.func (.func f) #[] cap) := by kernel_rfl) (hf : fnO P f = some (false, true) := by kernel_rfl) : GC P (.rangeFunc g ps assign body) Q n D F w := by
  obtain ⟨fn, h1, h2, h3⟩ := fnO_some hf
  refine ⟨fun a ha => wp_range cap (ha.ev hx) h1 h2 h3 fun fn0 D' q w₂ g1 g2 g3 g4 g5 g6 => (h a ha fn0 D' q w₂ g1 g2 g3 g4 g5 g6).mono fun e w₃ hh => ?_⟩
  obtain ⟨v, r', k1, k2, k3, k4, k5⟩ := hh
  exact ⟨v, r', k1, k2, k3, k4, fun w₄ hu => (k5 w₄ hu).out _ ⟨ha.sz, by rw [ha.df], ha.at_⟩⟩
theorem gri {a : Act} (ha : Ag n D F a) (p : Tmp) {v : Value} (h : GI E m P c Q n [] ((p, v) :: F) w) (hp : Nat.blt p n = true := by kernel_rfl) : c.wpIn E m P Q { tmps := a.tmps.setIfInBounds p v, defers := [] } w := by
  have h0 : Ag n [] F { tmps := a.tmps, defers := [] } := ⟨ha.sz, rfl, ha.at_⟩
  exact h.out _ (h0.put (d := some p) hp)
theorem gr1 {r : Loop} {q : Nat} {c : Code} {Qb : Exit → Act → World → Prop} (h1 : w.heap[q]? = some (.loop r)) (h2 : r.state = .ready) (h : ∀ w₂, w₂.heap[q]? = some (.loop { r with state := .busy }) → Upd [q] w w₂ → GI E m P c Qb n D F w₂) :
    GQ (Exit.then (fun a₁ w₁ => w₁.heap[q]? = some (.loop r) ∧ r.state = .ready ∧ ∀ w₂, w₂.heap[q]? = some (.loop { r with state := .busy }) → Upd [q] w₁ w₂ → c.wpIn E m P Qb a₁ w₂) Q) .normal n D F w := ⟨fun a ha => ⟨h1, h2, fun w₂ k1 k2 => (h w₂ k1 k2).out a ha⟩⟩
theorem gr2 {r : Loop} {q : Nat} {Z : World → Prop} (h1 : w.heap[q]? = some (.loop r)) (h : ∀ w₄, w₄.heap[q]? = some (.loop { r with state := .ready, pending := none }) → Upd [q] w w₄ → Z w₄) :
    GQ (Exit.then (fun _ w₃ => ∃ r', w₃.heap[q]? = some (.loop r') ∧ ∀ w₄, w₄.heap[q]? = some (.loop { r' with state := .ready, pending := none }) → Upd [q] w₃ w₄ → Z w₄) Q) .normal n D F w := ⟨fun a ha => ⟨r, h1, h⟩⟩
end
section
variable {P : Program} {n : Nat} {F : Fr} {w : World} {fn : Func} {R : Ending → World → Prop}
theorem enm {f : FuncId} {c : Code} {args : List Value} {w : World} (n : Nat) (hf : P.funcs[f]? = some fn) (hb : fn.body = some c)
    (h : GC P c (bodyPostM Fence.wide 9 P fn R) n [] (zipF 0 args) w) (hn : args.length + (fn.ntmps - args.length) = n := by kernel_rfl) : Calls P f args.toArray w R := by
  subst hn
  exact calls_marks hf hb (by simpa using h.out _ (ag0 (args := args) (m := fn.ntmps - args.length)))
theorem rmd {D : Nat} (hD : w.heap[D]? = some (.deferred (some []))) (h : ∀ w', Upd [D] w w' → GQ (fun _ a w' => ∃ v, (results fn a.tmps).run P w' = .ok v w' ∧ R (.returned v) w') .ret n [{ target := .collected D, args := #[] }] F w') : GQ (bodyPostM Fence.wide 9 P fn R) .ret n [{ target := .collected D, args := #[] }] F w :=
  ⟨fun a ha => bm_ret ha.df hD fun w' hu => (h w' hu).out a ha⟩
theorem rx {D : List Deferred} {g : Nat} {cs : Array Value} {t : TypeId} {fr : Nat × Nat} (B : w.heap[g]? = some (.cells cs t fr)) (u : Value) (h : R (.returned (.tuple #[.agg cs, u])) w) (hc : rcS P fn.results F = some (some (.pointer (some ⟨g, 0, none⟩)), some u, some true, some cs.size) := by kernel_rfl) : GQ (fun _ a w' => ∃ v, (results fn a.tmps).run P w' = .ok v w' ∧ R (.returned v) w') .ret n D F w :=
  ⟨fun a ha => ⟨_, rct_run ha B rfl hc, h⟩⟩
theorem rxx (k : Nat) {D : List Deferred} {g : Nat} {cs : Array Value} {t : TypeId} {fr : Nat × Nat} (hz : cs.size = k) (B : w.heap[g]? = some (.cells cs t fr)) (u : Value) (h : R (.returned (.tuple #[.agg cs, u])) w) (hc : rcS P fn.results F = some (some (.pointer (some ⟨g, 0, none⟩)), some u, some true, some k) := by kernel_rfl) : GQ (fun _ a w' => ∃ v, (results fn a.tmps).run P w' = .ok v w' ∧ R (.returned v) w') .ret n D F w :=
  ⟨fun a ha => ⟨_, rct_run ha B (by rw [hz]) hc, h⟩⟩
theorem ry {g : Nat} {cs : Array Value} {t : TypeId} {fr : Nat × Nat} (B : w.heap[g]? = some (.cells cs t fr)) (u : Value) (h : R (.returned (.tuple #[.agg cs, u])) w) (hc : rcS P fn.results F = some (some (.pointer (some ⟨g, 0, none⟩)), some u, some true, some cs.size) := by kernel_rfl) : GQ (bodyPostM Fence.wide 9 P fn R) .ret n [] F w :=
  ⟨fun a ha => bm_ret0 ha.df ⟨_, rct_run ha B rfl hc, h⟩⟩
theorem ryx (k : Nat) {g : Nat} {cs : Array Value} {t : TypeId} {fr : Nat × Nat} (hz : cs.size = k) (B : w.heap[g]? = some (.cells cs t fr)) (u : Value) (h : R (.returned (.tuple #[.agg cs, u])) w) (hc : rcS P fn.results F = some (some (.pointer (some ⟨g, 0, none⟩)), some u, some true, some k) := by kernel_rfl) : GQ (bodyPostM Fence.wide 9 P fn R) .ret n [] F w :=
  ⟨fun a ha => bm_ret0 ha.df ⟨_, rct_run ha B (by rw [hz]) hc, h⟩⟩
end
def PRul (mk : Nat → Value) (w : World) (e : Ending) (w' : World) : Prop := ∃ gs, e = .returned (.tuple #[mk gs, .bool true]) ∧ w.heap.size ≤ gs ∧ w'.heap[gs]? = some (.cells #[.int .i64 0] 3 (0, 0)) ∧ Upd [] w w'
def rulA (gs : Nat) : Value := .agg #[.func (.func 100) #[] #[], .func (.func 98) #[] #[.pointer (some ⟨gs, 0, none⟩)]]
def rulT (gs : Nat) : Value := .agg #[.func (.func 101) #[] #[], .func (.func 102) #[] #[]]
def rulW (gs : Nat) : Value := .agg #[.func (.func 103) #[] #[], .func (.func 104) #[] #[]]
set_option maxRecDepth 100000 in
set_option maxHeartbeats 4000000 in
theorem rules_A {w : World} : Calls Try.prog 66 #[.int .i64 0, .int .u8 20] w (PRul rulA w) := by
 refine en 27 Try.func66 rfl <| sg <| L0 <| Oal #[.nilFunc, .nilFunc] fun g10 w11 hg12 B13 hu14 => Pl 1 <| ng <| L0 <| Oal #[.int .i64 0] fun g15 w16 hg17 B18 hu19 => L0 <| Ost B18 0 #[.int .i64 0] fun w20 B21 hu22 => nt <| sq <| ?_
 refine go <| Pl 2 <| nt <| sq <| bk <| sg <| Pl 7 <| nt <| c1 <| sg <| ?_
 refine Pl 2 <| ?_
 have U23 := u1 hu19 hu22 (nr hg17)
 have r24 := ub U23 B13
 refine L0 <| Osw r24 #[.func (.func 100) #[] #[], .func (.func 98) #[] #[.pointer (some ⟨g15, 0, none⟩)]] fun w25 B26 hu27 => Pl 1 <| nt <| rt <| br <| tr <| rct B26 (.bool true) <| ?_
 have ne28 := nb (blk_lt B13) lr hg17
 have r29 := ub1 hu27 (Ne.symm ne28) B21
 have U30 := ut0 hu14 hu19
 have U31 := u1 U30 hu22 (ni hu14.size hg17)
 have U32 := u1 U31 hu27 (nr hg12)
 exact ⟨g15, rfl, (Nat.le_trans hu14.size hg17), r29, U32⟩
set_option maxRecDepth 100000 in
set_option maxHeartbeats 4000000 in
theorem rules_T {w : World} : Calls Try.prog 66 #[.int .i64 1, .int .u8 20] w (PRul rulT w) := by
 refine en 27 Try.func66 rfl <| sg <| L0 <| Oal #[.nilFunc, .nilFunc] fun g10 w11 hg12 B13 hu14 => Pl 1 <| ng <| L0 <| Oal #[.int .i64 0] fun g15 w16 hg17 B18 hu19 => L0 <| Ost B18 0 #[.int .i64 0] fun w20 B21 hu22 => nt <| sq <| ?_
 refine go <| Pl 2 <| nt <| sq <| bk <| sg <| Pl 7 <| nt <| c0 <| sg <| ?_
 refine Pl 3 <| nt <| c1 <| sg <| Pl 1 <| ?_
 have U23 := u1 hu19 hu22 (nr hg17)
 have r24 := ub U23 B13
 refine L0 <| Osw r24 #[.func (.func 101) #[] #[], .func (.func 102) #[] #[]] fun w25 B26 hu27 => Pl 1 <| nt <| rt <| br <| tr <| rct B26 (.bool true) <| ?_
 have ne28 := nb (blk_lt B13) lr hg17
 have r29 := ub1 hu27 (Ne.symm ne28) B21
 have U30 := ut0 hu14 hu19
 have U31 := u1 U30 hu22 (ni hu14.size hg17)
 have U32 := u1 U31 hu27 (nr hg12)
 exact ⟨g15, rfl, (Nat.le_trans hu14.size hg17), r29, U32⟩
set_option maxRecDepth 100000 in
set_option maxHeartbeats 4000000 in
theorem rules_W {dir : Int} {w : World} : Calls Try.prog 66 #[.int .i64 dir, .int .u8 21] w (PRul rulW w) := by
 refine en 27 Try.func66 rfl <| sg <| L0 <| Oal #[.nilFunc, .nilFunc] fun g10 w11 hg12 B13 hu14 => Pl 1 <| ng <| L0 <| Oal #[.int .i64 0] fun g15 w16 hg17 B18 hu19 => L0 <| Ost B18 0 #[.int .i64 0] fun w20 B21 hu22 => nt <| sq <| ?_
 refine go <| Pl 2 <| nt <| sq <| bk <| sg <| Pl 7 <| nt <| c0 <| sg <| ?_
 refine Pl 3 <| nt <| c0 <| sg <| Pl 3 <| nt <| c1 <| sg <| Pl 1 <| ?_
 have U23 := u1 hu19 hu22 (nr hg17)
 have r24 := ub U23 B13
 refine L0 <| Osw r24 #[.func (.func 103) #[] #[], .func (.func 104) #[] #[]] fun w25 B26 hu27 => Pl 1 <| nt <| rt <| br <| tr <| rct B26 (.bool true) <| ?_
 have ne28 := nb (blk_lt B13) lr hg17
 have r29 := ub1 hu27 (Ne.symm ne28) B21
 have U30 := ut0 hu14 hu19
 have U31 := u1 U30 hu22 (ni hu14.size hg17)
 have U32 := u1 U31 hu27 (nr hg12)
 exact ⟨g15, rfl, (Nat.le_trans hu14.size hg17), r29, U32⟩
set_option maxRecDepth 100000 in
set_option maxHeartbeats 4000000 in
theorem rules_no {dir x : Int} {w : World} (n1 : (x == 20) = false) (n2 : (x == 21) = false) : Calls Try.prog 66 #[.int .i64 dir, .int .u8 x] w (PVal (.tuple #[.agg #[.nilFunc, .nilFunc], .bool false]) w) := by
 refine en 27 Try.func66 rfl <| sg <| L0 <| Oal #[.nilFunc, .nilFunc] fun g10 w11 hg12 B13 hu14 => Pl 1 <| ng <| L0 <| Oal #[.int .i64 0] fun g15 w16 hg17 B18 hu19 => L0 <| Ost B18 0 #[.int .i64 0] fun w20 B21 hu22 => nt <| sq <| ?_
 refine go <| Pl 2 <| nt <| sq <| bk <| sg <| Pl 3 <| sy 12 n1 <| Pl 4 <| nt <| c0 <| ?_
 refine sg <| Pl 3 <| nt <| cf n1 <| sg <| Pl 3 <| nt <| cf n2 <| sk <| bn <| ?_
 refine tn <| sg <| Pl 1 <| ?_
 have U23 := u1 hu19 hu22 (nr hg17)
 have r24 := ub U23 B13
 refine L0 <| Osw r24 #[.nilFunc, .nilFunc] fun w25 B26 hu27 => Pl 1 <| nt <| rt <| rct B26 (.bool false) <| ?_
 have U28 := ut0 hu14 hu19
 have U29 := u1 U28 hu22 (ni hu14.size hg17)
 have U30 := u1 U29 hu27 (nr hg12)
 exact ⟨rfl, U30⟩
set_option maxRecDepth 100000 in
set_option maxHeartbeats 4000000 in
theorem full_any {gb : Nat} {f : Fn} {x y : Array Value} {w : World} : Calls Try.prog 67 #[.pointer (some ⟨gb, 0, none⟩), .func f x y] w (fun e w' => ∃ b1 b2, e = .returned (.func (.func 105) #[] #[.pointer (some ⟨b1, 0, none⟩), .pointer (some ⟨b2, 0, none⟩)]) ∧ w.heap.size ≤ b1 ∧ w.heap.size ≤ b2 ∧ b1 ≠ b2 ∧
      w'.heap[b1]? = some (.cells #[.pointer (some ⟨gb, 0, none⟩)] 69 (0, 0)) ∧ w'.heap[b2]? = some (.cells #[.func f x y] 101 (0, 0)) ∧ Upd [] w w') := by
 refine en 6 Try.func67 rfl <| sg <| L0 <| Obx #[.pointer (some ⟨gb, 0, none⟩)] fun g10 w11 hg12 B13 hu14 => L0 <| Obx #[.func f x y] fun g15 w16 hg17 B18 hu19 => Pl 1 <| ng <| Pl 2 <| nt <| rt <| ?_
 refine rr (.func (.func 105) #[] #[.pointer (some ⟨g10, 0, none⟩), .pointer (some ⟨g15, 0, none⟩)]) <| ?_
 have ne20 := nb (blk_lt B13) lr hg17
 have r21 := ub hu19 B13
 have U22 := ut0 hu14 hu19
 exact ⟨g10, g15, rfl, hg12, (Nat.le_trans hu14.size hg17), ne20, r21, B18, U22⟩
set_option maxRecDepth 100000 in
set_option maxHeartbeats 4000000 in
theorem asked_any {g gs : Nat} {s : Int} {C : Cur} {w : World} (hC : CurAt w g C) (hS : w.heap[gs]? = some (.cells #[.int .i64 s] 3 (0, 0))) (hne : g ≠ gs) (hs : 0 ≤ s ∧ s ≤ 1000000000000) :
    Calls Try.prog 98 #[.pointer (some ⟨g, 0, none⟩), .pointer (some ⟨gs, 0, none⟩)] w (fun e w' => ∃ A c, e = .returned (.agg #[.int .u16 (headM C).file, .int .u16 (headM C).record, .int .u16 (headM C).count, .slice A (headM C).words.length c]) ∧ RdW true w' (.slice A (headM C).words.length c) (headM C).words ∧ B16 (headM C).file ∧ B16 (headM C).record ∧ B16 (headM C).count ∧ CurAt w' g (askedC s C) ∧ w'.heap[gs]? = some (.cells #[.int .i64 (askedS s C)] 3 (0, 0)) ∧ Upd [g, gs] w w') := by
 refine en 19 Try.func98 rfl <| sg <| L0 <| Oal #[.int .u16 0, .int .u16 0, .int .u16 0, .slice none 0 0] fun g10 w11 hg12 B13 hu14 => ng <| Pl 1 <| ?_
 have r15 := CurAt.old hC hu14
 refine L0 <| Oc <| ee6 (head_any r15) fun A17 cp18 w16 rd19 hb20 hb21 hb22 hc23 hu24 => ?_
 obtain ⟨hb20a, hb20b⟩ := hb20
 obtain ⟨hb21a, hb21b⟩ := hb21
 obtain ⟨hb22a, hb22b⟩ := hb22
 refine L0 <| Oal #[.int .u16 0, .int .u16 0, .int .u16 0, .slice none 0 0] fun g25 w26 hg27 B28 hu29 => L0 <| Osw B28 #[.int .u16 ((headM C).file), .int .u16 ((headM C).record), .int .u16 ((headM C).count), .slice A17 ((headM C).words.length) cp18] fun w30 B31 hu32 => ng <| ?_
 have U33 := u1 (Upd.mono (S' := [g]) hu14 all0) hu24 im
 have U34 := ut0 U33 hu29
 have U35 := u1 U34 hu32 (ni U33.size hg27)
 have r36 := ub1 U35 (Ne.symm hne) hS
 refine L0 <| Olb r36 0 <| Pl 1 <| L0 <| Olb B31 2 <| L0 <| Oi ((headM C).count) <| L0 <| Oi (2 * ((headM C).count)) <| L0 <| Oi (2 + (2 * ((headM C).count))) <| L0 <| Oi (s + (2 + (2 * ((headM C).count)))) <| L0 <| Ost r36 0 #[.int .i64 (s + (2 + (2 * ((headM C).count))))] fun w37 B38 hu39 => ng <| Pl 1 <| L0 <| Olb B38 0 <| ?_
 refine Pl 1 <| ?_
 have U40 := u1 hu29 hu32 (nr hg27)
 have U41 := u1 (Upd.mono (S' := [gs]) U40 all0) hu39 im
 have r42 := ub1 U33 (Ne.symm hne) hS
 have r43 := CurAt.upd hc23 U41 (not_cons hne not0) (safe_cons (safe1 r42 (by decide)) safe0)
 refine L0 <| Oc <| m2 (need_any ((decide ((s + (2 + (2 * ((headM C).count)))) ≤ 245))) 5 r43) fun w44 hc45 hu46 => ?_
 refine ab hc45 fun x47 ex48 hc49 => ?_
 refine ng <| ?_
 have U50 := u1 (Upd.mono (S' := [gs, g]) hu39 (ac im all0)) hu46 im
 have ne51 := nb (CurAt.lt hC) U33.size hg27
 have ne52 := nb (blk_lt hS) U33.size hg27
 have r53 := Upd.blk U50 (not_cons (Ne.symm ne52) (not_cons (Ne.symm ne51) not0)) B31
 refine L0 <| Olw r53 <| ?_
 have U54 := ut0 hu24 hu29
 have U55 := u1 U54 hu32 (ni hu24.size hg27)
 have U56 := u1 (Upd.mono (S' := [g, gs]) U55 (ac im all0)) hu39 im
 have U57 := u1 U56 hu46 im
 have ne58 := nb (blk_lt hS) lr hg12
 have ne59 := nb (CurAt.lt hC) lr hg12
 have r60 := Upd.blk U57 (not_cons (Ne.symm ne59) (not_cons (Ne.symm ne58) not0)) B13
 refine L0 <| Osw r60 #[.int .u16 ((headM C).file), .int .u16 ((headM C).record), .int .u16 ((headM C).count), .slice A17 ((headM C).words.length) cp18] fun w61 B62 hu63 => nt <| rt <| rc1 B62 <| ?_
 subst ex48
 have U64 := u1 (Upd.mono (S' := [gs, g]) U41 (ac im all0)) hu46 im
 have U65 := u1 (Upd.mono (S' := [gs, g, g10]) U64 (ac im (ac im all0))) hu63 im
 have r66 := ub1 hu24 (Ne.symm ne59) B13
 have r67 := RdW.upd' rd19 U65 (safe_cons (safe1 r42 (by decide)) (safe_cons (CurAt.safe hc23 _ (by decide)) (safe_cons (safe1 r66 (by decide)) safe0)))
 have r68 := CurAt.upd hc49 hu63 (not_cons ne59 not0) (safe_cons (safe1 r60 (by decide)) safe0)
 have U69 := u1 (Upd.mono (S' := [g, g10]) hu46 (ac im all0)) hu63 im
 have r70 := Upd.blk U69 (not_cons (Ne.symm hne) (not_cons ne58 not0)) B38
 have U71 := u1 (Upd.mono (S' := [g, gs]) U35 (ac im all0)) hu39 im
 have U72 := u1 U71 hu46 im
 have U73 := u1 U72 hu63 (nr hg12)
 exact ⟨_, _, rfl, r67, b16 (x := (headM C).file) (by omega), b16 (x := (headM C).record) (by omega), b16 (x := (headM C).count) (by omega), r68, r70, U73⟩
def partsC (c : Int) (v : Value) : Array Value := #[.int .u8 c, .int .u8 0, .int .u16 0, .int .u16 0, .int .u16 0, .int .u16 0, .int .u16 0, .int .u16 0, .int .u16 0, .int .u16 0, .int .u16 0, .int .u16 0, nilS, nilS, nilS, v, .int .u8 0, .int .u8 0, .int .u8 0, .int .u8 0, .int .u8 0, nilS]
structure JR (w0 : World) (gb gs gm l : Nat) (c : Int) (r : Loop) (C : Cur) (s : Int) (L : List Rec) (A : Option Addr) (cp : Nat) (W : World) : Prop where
  u : Upd [gb, gs, gm, l] w0 W
  hC : CurAt W gb C
  hS : W.heap[gs]? = some (.cells #[.int .i64 s] 3 (0, 0))
  hm : W.heap[gm]? = some (.cells (partsC c (.slice A L.length cp)) 29 (0, 0))
  ho : OwnG w0.heap.size 57 4 (recR true) W (.slice A L.length cp) L
  hl : W.heap[l]? = some (.loop r)
def askO (s : Int) (C : Cur) : Int × Cur × Rec := (askedS s C, askedC s C, headM C)
def toldO (s : Int) (C : Cur) : Int × Cur × Rec := (s, toldC C, toldM C)
def wrtO (s : Int) (C : Cur) : Int × Cur × Rec := (s, wrtC C, wrtM C)
def recsR (one : Int → Cur → Int × Cur × Rec) : Nat → Int → Cur → List Rec → Cur × List Rec
  | 0, _, C, L => (C, L)
  | n + 1, s, C, L =>
    if decide (0 < (C.l.length : Int)) && C.e == 0 then
      (if (one s C).2.1.e != 0 then ((one s C).2.1, L) else recsR one n (one s C).1 (one s C).2.1 (L ++ [(one s C).2.2]))
    else (C, L)
theorem bytesC_len (C : Cur) (n : Int) : (C.bytesC n).l.length ≤ C.l.length := by
  unfold Cur.bytesC
  split
  · unfold Cur.need
    split <;> simp
  · simp
theorem bytesC1_lt (C : Cur) (h : 0 < C.l.length) : (C.bytesC 1).l.length < C.l.length := by
  unfold Cur.bytesC
  split
  · unfold Cur.need
    split <;> simpa using h
  · simp
    omega
theorem need_len (C : Cur) (b : Bool) (e : Int) : (C.need b e).l.length = C.l.length := by
  unfold Cur.need
  split <;> rfl
theorem wordsC_len (C : Cur) (n : Int) : (C.wordsC n).l.length ≤ C.l.length := by
  unfold Cur.wordsC
  split <;> exact bytesC_len ..
theorem headC_lt (C : Cur) (h : 0 < C.l.length) : (headC C).l.length < C.l.length := by
  have h1 : (hd1 C).l.length < C.l.length := by unfold hd1; rw [need_len]; exact bytesC1_lt C h
  have h2 : (hd2 C).l.length ≤ (hd1 C).l.length := by unfold hd2; rw [need_len]; exact wordsC_len ..
  have h3 : (hd3 C).l.length ≤ (hd2 C).l.length := by unfold hd3; rw [need_len]; exact wordsC_len ..
  have h4 : (headC C).l.length ≤ (hd3 C).l.length := by unfold headC; rw [need_len]; exact wordsC_len ..
  omega
theorem askO_lt (s : Int) (C : Cur) (h : 0 < C.l.length) : (askO s C).2.1.l.length < C.l.length := by
  show (askedC s C).l.length < _
  unfold askedC
  rw [need_len]
  exact headC_lt C h
theorem toldO_lt (s : Int) (C : Cur) (h : 0 < C.l.length) : (toldO s C).2.1.l.length < C.l.length := by
  show (toldC C).l.length < _
  have h1 : (told1 C).l.length < C.l.length := by unfold told1; rw [need_len]; exact bytesC1_lt C h
  have h2 : (told2 C).l.length ≤ (told1 C).l.length := by unfold told2; rw [need_len]; exact bytesC_len ..
  have h3 : (toldC C).l.length ≤ (told2 C).l.length := by unfold toldC; exact wordsC_len ..
  omega
theorem wrtO_lt (s : Int) (C : Cur) (h : 0 < C.l.length) : (wrtO s C).2.1.l.length < C.l.length := by
  show (wrtC C).l.length < _
  have h1 := headC_lt C h
  have h2 : (wrt1 C).l.length = (headC C).l.length := by unfold wrt1; rw [need_len]
  have h3 : (wrtC C).l.length ≤ (wrt1 C).l.length := by unfold wrtC; exact wordsC_len ..
  omega
theorem recsR_stop (one : Int → Cur → Int × Cur × Rec) (n : Nat) (s : Int) (C : Cur) (L : List Rec) (h : (decide (0 < (C.l.length : Int)) && C.e == 0) = false) : recsR one n s C L = (C, L) := by
  cases n with
  | zero => rfl
  | succ n => simp only [recsR, h, Bool.false_eq_true, if_false]
def loopR (fn0 : FuncId) (tm : Array Value) (asg bdy : Code) (D : Nat) : Loop := { state := .ready, pending := none, fn := fn0, tmps := tm, params := #[53], assign := asg, body := bdy, defers := D }
def Rounds (w : World) (gb gs gm l : Nat) (c : Int) (R : Loop) : Prop := ∀ (W : World) (C : Cur) (s : Int) (L : List Rec) (A : Option Addr) (cp : Nat) (x : Rec) (Ax : Option Addr) (cx : Nat), JR w gb gs gm l c R C s L A cp W → RdW true W (.slice Ax x.words.length cx) x.words → B16 x.file → B16 x.record → B16 x.count → L.length ≤ 1048576 →
    RoundIn Fence.wide 8 Try.prog l R.fn (R.tmps.setIfInBounds 53 (.agg #[.int .u16 x.file, .int .u16 x.record, .int .u16 x.count, .slice Ax x.words.length cx])) R.assign R.body W (fun e W' => e = .returned (.bool true) ∧ W.heap.size ≤ W'.heap.size ∧ ∃ A2 c2, JR w gb gs gm l c R C s (L ++ [x]) A2 c2 W')
set_option maxRecDepth 100000 in
set_option maxHeartbeats 4000000 in
theorem full_A {w : World} {gb gs gm l b1 b2 fn0 D : Nat} {tm : Array Value} {asg bdy : Code} {c : Int} {C0 : Cur} (hC : CurAt w gb C0) (hS : w.heap[gs]? = some (.cells #[.int .i64 0] 3 (0, 0))) (hm : w.heap[gm]? = some (.cells (partsC c nilS) 29 (0, 0)))
    (hl : w.heap[l]? = some (.loop (loopR fn0 tm asg bdy D))) (hb1 : w.heap[b1]? = some (.cells #[.pointer (some ⟨gb, 0, none⟩)] 69 (0, 0))) (hb2 : w.heap[b2]? = some (.cells #[.func (.func 98) #[] #[.pointer (some ⟨gs, 0, none⟩)]] 101 (0, 0)))
    (n1 : gb ≠ gs) (n2 : gb ≠ gm) (n3 : gb ≠ l) (n4 : gs ≠ gm) (n5 : gs ≠ l) (n6 : gm ≠ l) (m1 : b1 ≠ gb) (m2 : b1 ≠ gs) (m3 : b1 ≠ gm) (m4 : b1 ≠ l) (k1 : b2 ≠ gb) (k2 : b2 ≠ gs) (k3 : b2 ≠ gm) (k4 : b2 ≠ l) (hround : Rounds w gb gs gm l c (loopR fn0 tm asg bdy D)) :
    Calls Try.prog 105 #[.func (.yield l) #[] #[], .pointer (some ⟨b1, 0, none⟩), .pointer (some ⟨b2, 0, none⟩)] w (fun e W => e = .returned (.tuple #[]) ∧ ∃ s A cp, JR w gb gs gm l c (loopR fn0 tm asg bdy D) (recsR askO C0.l.length 0 C0 []).1 s (recsR askO C0.l.length 0 C0 []).2 A cp W) := by
 have hlen := hC.len
 refine en 25 Try.func105 rfl <| bk <| ?_
 refine glp (fun x => [(0, .func (.yield l) #[] #[]), (1, .pointer (some ⟨b1, 0, none⟩)), (2, .pointer (some ⟨b2, 0, none⟩))]) (fun (x : Nat × Cur × Int × List Rec × Option Addr × Nat) w' => Upd [gb, gs, gm, l] w w' ∧ CurAt w' gb x.2.1 ∧ w'.heap[gs]? = some (.cells #[.int .i64 x.2.2.1] 3 (0, 0)) ∧ w'.heap[gm]? = some (.cells (partsC c (.slice x.2.2.2.2.1 x.2.2.2.1.length x.2.2.2.2.2)) 29 (0, 0)) ∧ w'.heap[l]? = some (.loop (loopR fn0 tm asg bdy D)) ∧ OwnG w.heap.size 57 4 (recR true) w' (.slice x.2.2.2.2.1 x.2.2.2.1.length x.2.2.2.2.2) x.2.2.2.1 ∧ (recsR askO x.1 x.2.2.1 x.2.1 x.2.2.2.1 = recsR askO C0.l.length 0 C0 []) ∧ (x.2.1.l.length ≤ x.1) ∧ (0 ≤ x.2.2.1 ∧ x.2.2.1 ≤ 131074 * (x.2.2.2.1.length : Int)) ∧ (x.2.2.2.1.length + x.1 ≤ C0.l.length)) (fun x => x.1) (C0.l.length, C0, 0, [], none, 0) ⟨Upd.refl _ _, hC, hS, hm, hl, OwnG.nil .., rfl, (Nat.le_refl _), (by (try dsimp only); omega), (by (try dsimp only); (try simp only [List.length_nil]); omega)⟩ ?_
 rintro ⟨n, C, s, L, A, cp⟩ w10 ⟨hu11, f12, f13, f14, f15, f16, p17, p18, p19, p20⟩
 refine wkc [(0, .func (.yield l) #[] #[]), (1, .pointer (some ⟨b1, 0, none⟩)), (2, .pointer (some ⟨b2, 0, none⟩))] ?_
 have f22 : CurAt w10 gb C := f12
 have f23 : w10.heap[gs]? = some (.cells #[.int .i64 s] 3 (0, 0)) := f13
 have f24 : w10.heap[gm]? = some (.cells (partsC c (.slice A L.length cp)) 29 (0, 0)) := f14
 have f25 : w10.heap[l]? = some (.loop (loopR fn0 tm asg bdy D)) := f15
 have f26 : OwnG w.heap.size 57 4 (recR true) w10 (.slice A L.length cp) L := f16
 have p27 : recsR askO n s C L = recsR askO C0.l.length 0 C0 [] := p17
 have p28 : C.l.length ≤ n := p18
 have p29 : 0 ≤ s ∧ s ≤ 131074 * (L.length : Int) := p19
 have p30 : L.length + n ≤ C0.l.length := p20
 have hrec : recsR askO n s C L = recsR askO C0.l.length 0 C0 [] := by assumption
 refine sq <| sg <| ?_
 have r31 := Upd.blk hu11 (not_cons m1 (not_cons m2 (not_cons m3 (not_cons m4 not0)))) hb1
 refine L0 <| Olb r31 0 <| L0 <| Oc <| mq (left_any f22) <| ?_
 have hl32 := CurAt.len f22
 refine Pl 2 <| cu 4 [8] 12 (((decide (0 < ((C.l.length : Nat) : Int))) && (C.e == 0))) (fun K K34 => ?_) ?_
 refine bl 8 ((decide (0 < ((C.l.length : Nat) : Int)))) (fun q33 => ?_) (fun q33 => ?_)
 have q33p := of_decide_eq_true q33
 refine L1 <| Olb r31 0 <| L1 <| Oc <| mq (err_any f22) <| ?_
 have hl35 := CurAt.len f22
 exact Pl 2 <| ce K34 (C.e == 0) (by rw [q33]; rfl)
 have q33p := of_decide_eq_false q33
 exact Pl 4 <| ce K34 false (by rw [q33]; rfl)
 refine nt <| cb (((decide (0 < ((C.l.length : Nat) : Int))) && (C.e == 0))) (fun q36 => ?_) (fun q36 => ?_)
 have q36a := (and_t q36).1
 have q36b := (and_t q36).2
 have q36ap := of_decide_eq_true q36a
 have q36bp := eq_of_beqi q36b
 refine skn <| bk <| sg <| ?_
 have r37 := Upd.blk hu11 (not_cons k1 (not_cons k2 (not_cons k3 (not_cons k4 not0)))) hb2
 refine L0 <| Olb r37 0 <| L0 <| Olb r31 0 <| L0 <| Ocv #[] #[.pointer (some ⟨gs, 0, none⟩)] (args := #[.pointer (some ⟨gb, 0, none⟩), .pointer (some ⟨gs, 0, none⟩)]) <| ee7 (asked_any (s := s) f22 f23 n1 (by omega)) fun A39 cp40 w38 rd41 hb42 hb43 hb44 hc45 hS46 hu47 => ?_
 have hs48 : askedS s C = s + (2 + 2 * (headM C).count) := rfl
 obtain ⟨hb42a, hb42b⟩ := hb42
 obtain ⟨hb43a, hb43b⟩ := hb43
 obtain ⟨hb44a, hb44b⟩ := hb44
 refine L0 <| Oal #[.int .u16 0, .int .u16 0, .int .u16 0, .slice none 0 0] fun g49 w50 hg51 B52 hu53 => L0 <| Osw B52 #[.int .u16 ((headM C).file), .int .u16 ((headM C).record), .int .u16 ((headM C).count), .slice A39 ((headM C).words.length) cp40] fun w54 B55 hu56 => nt <| sq <| fgo 9 <| ?_
 have U57 := ut0 hu47 hu53
 have U58 := u1 U57 hu56 (ni hu47.size hg51)
 have r59 := Upd.blk U58 (not_cons m1 (not_cons m2 not0)) r31
 refine F0 <| Olb r59 0 <| ?_
 have U60 := u1 hu53 hu56 (nr hg51)
 have r61 := CurAt.old hc45 U60
 refine F0 <| Oc <| mq (err_any r61) <| ?_
 have hl62 := CurAt.len r61
 refine Fp <| Fp <| ?_
 have U63 := ut hu11 hu47 (ac im (ac im all0))
 have U64 := ut0 U63 hu53
 have U65 := u1 U64 hu56 (ni U63.size hg51)
 refine blf 19 ((((askedC s C).e) != 0)) (fun q66 => ?_) (fun q66 => ?_)
 have q66p := ne_of_bnei q66
 refine Fp <| Fp <| Fp <| Fp <| Fp <| fnl <| tn <| c1 <| rt <| br <| tr <| br <| rr (.tuple #[]) <| ?_
 have hfin : recsR askO C0.l.length 0 C0 [] = ((askedC s C), L) := by
   rw [← hrec]
   rw [show n = (n - 1) + 1 from by omega]
   simp only [recsR, askO, q36, q36a, q36b, q66, bs, if_true, if_false, decide_true, decide_false, reduceIte]
 refine ⟨rfl, (askedS s C), A, cp, ?_⟩
 rw [hfin]
 have r67 := ub U60 hS46
 have r68 := Upd.blk U58 (not_cons (Ne.symm n2) (not_cons (Ne.symm n4) not0)) f24
 have r69 := own_stay f26 U58 (fun x hx => (not_cons (fun e => (not_old (CurAt.lt hC) lr f26) (e ▸ hx)) (not_cons (fun e => (not_old (blk_lt hS) lr f26) (e ▸ hx)) not0))) (recR.upd16 U58 (safe_cons (CurAt.safe f22 _ (by decide)) (safe_cons (safe1 f23 (by decide)) safe0)))
 have r70 := Upd.blk U58 (not_cons (Ne.symm n3) (not_cons (Ne.symm n5) not0)) f25
 exact ⟨U65, r61, r67, r68, r69, r70⟩
 have q66p := eq_of_bnei q66
 refine Fp <| F0 <| Olw B55 <| ?_
 have r72 := ub U60 hS46
 have r73 := Upd.blk U58 (not_cons (Ne.symm n2) (not_cons (Ne.symm n4) not0)) f24
 have r74 := own_stay f26 U58 (fun x hx => (not_cons (fun e => (not_old (CurAt.lt hC) lr f26) (e ▸ hx)) (not_cons (fun e => (not_old (blk_lt hS) lr f26) (e ▸ hx)) not0))) (recR.upd16 U58 (safe_cons (CurAt.safe f22 _ (by decide)) (safe_cons (safe1 f23 (by decide)) safe0)))
 have r75 := Upd.blk U58 (not_cons (Ne.symm n3) (not_cons (Ne.symm n5) not0)) f25
 have hJ71 : JR w gb gs gm l c (loopR fn0 tm asg bdy D) (askedC s C) (askedS s C) L A cp w54 := ⟨U65, r61, r72, r73, r74, r75⟩
 refine Fy (r := loopR fn0 tm asg bdy D) (.agg #[.int .u16 ((headM C).file), .int .u16 ((headM C).record), .int .u16 ((headM C).count), .slice A39 ((headM C).words.length) cp40]) 53 r75 rfl <| ?_
 have r81 := RdW.upd' rd41 U60 safe0
 refine RoundIn.mono (hround _ _ _ _ _ _ (headM C) _ _ hJ71 r81 (b16 (by omega)) (b16 (by omega)) (b16 (by omega)) (by omega)) ?_
 rintro _ w76 ⟨rfl, hz79, A77, cp78, hJ80⟩
 refine ⟨_, rfl, ?_⟩
 refine Fp <| Fp <| fnl <| tn <| c0 <| sk <| bn <| ?_
 have U82 := ut (Upd.mono (S' := [gb, gs, gm, l]) (Upd.refl [] _) all0) hJ80.u (ac im (ac im (ac im (ac im all0))))
 exact lpe ((n - 1), (askedC s C), (askedS s C), (L ++ [(headM C)]), A77, cp78) ⟨U82, hJ80.hC, hJ80.hS, hJ80.hm, hJ80.hl, hJ80.ho, (by (try dsimp only); rw [← hrec, show n = (n - 1) + 1 from by omega]; simp only [recsR, askO, q36, q36a, q36b, q66, bs, if_true, if_false, decide_true, decide_false, Nat.add_sub_cancel, reduceIte]), (by (try dsimp only); have hd := askO_lt s C (by omega); have hd2 : (askO s C).2.1.l.length = (askedC s C).l.length := rfl; omega), (by (try dsimp only); simp only [List.length_append, List.length_cons, List.length_nil]; omega), (by (try dsimp only); simp only [List.length_append, List.length_cons, List.length_nil]; omega)⟩ (by omega)
 refine xt <| tx <| tx <| bx <| rm (.tuple #[]) <| ?_
 have hfin : recsR askO C0.l.length 0 C0 [] = (C, L) := by
   rw [← hrec]
   exact recsR_stop _ _ _ _ _ (by simp only [q36, bs, if_true, if_false, decide_true, decide_false])
 refine ⟨rfl, s, A, cp, ?_⟩
 rw [hfin]
 exact ⟨hu11, f22, f23, f24, f26, f25⟩
set_option maxRecDepth 100000 in
set_option maxHeartbeats 4000000 in
theorem full_T {w : World} {gb gs gm l b1 b2 fn0 D : Nat} {tm : Array Value} {asg bdy : Code} {c : Int} {C0 : Cur} (hC : CurAt w gb C0) (hS : w.heap[gs]? = some (.cells #[.int .i64 0] 3 (0, 0))) (hm : w.heap[gm]? = some (.cells (partsC c nilS) 29 (0, 0)))
    (hl : w.heap[l]? = some (.loop (loopR fn0 tm asg bdy D))) (hb1 : w.heap[b1]? = some (.cells #[.pointer (some ⟨gb, 0, none⟩)] 69 (0, 0))) (hb2 : w.heap[b2]? = some (.cells #[.func (.func 102) #[] #[]] 101 (0, 0)))
    (n1 : gb ≠ gs) (n2 : gb ≠ gm) (n3 : gb ≠ l) (n4 : gs ≠ gm) (n5 : gs ≠ l) (n6 : gm ≠ l) (m1 : b1 ≠ gb) (m2 : b1 ≠ gs) (m3 : b1 ≠ gm) (m4 : b1 ≠ l) (k1 : b2 ≠ gb) (k2 : b2 ≠ gs) (k3 : b2 ≠ gm) (k4 : b2 ≠ l) (hround : Rounds w gb gs gm l c (loopR fn0 tm asg bdy D)) :
    Calls Try.prog 105 #[.func (.yield l) #[] #[], .pointer (some ⟨b1, 0, none⟩), .pointer (some ⟨b2, 0, none⟩)] w (fun e W => e = .returned (.tuple #[]) ∧ ∃ s A cp, JR w gb gs gm l c (loopR fn0 tm asg bdy D) (recsR toldO C0.l.length 0 C0 []).1 s (recsR toldO C0.l.length 0 C0 []).2 A cp W) := by
 have hlen := hC.len
 refine en 25 Try.func105 rfl <| bk <| ?_
 refine glp (fun x => [(0, .func (.yield l) #[] #[]), (1, .pointer (some ⟨b1, 0, none⟩)), (2, .pointer (some ⟨b2, 0, none⟩))]) (fun (x : Nat × Cur × Int × List Rec × Option Addr × Nat) w' => Upd [gb, gs, gm, l] w w' ∧ CurAt w' gb x.2.1 ∧ w'.heap[gs]? = some (.cells #[.int .i64 x.2.2.1] 3 (0, 0)) ∧ w'.heap[gm]? = some (.cells (partsC c (.slice x.2.2.2.2.1 x.2.2.2.1.length x.2.2.2.2.2)) 29 (0, 0)) ∧ w'.heap[l]? = some (.loop (loopR fn0 tm asg bdy D)) ∧ OwnG w.heap.size 57 4 (recR true) w' (.slice x.2.2.2.2.1 x.2.2.2.1.length x.2.2.2.2.2) x.2.2.2.1 ∧ (recsR toldO x.1 x.2.2.1 x.2.1 x.2.2.2.1 = recsR toldO C0.l.length 0 C0 []) ∧ (x.2.1.l.length ≤ x.1) ∧ (0 ≤ x.2.2.1 ∧ x.2.2.1 ≤ 131074 * (x.2.2.2.1.length : Int)) ∧ (x.2.2.2.1.length + x.1 ≤ C0.l.length)) (fun x => x.1) (C0.l.length, C0, 0, [], none, 0) ⟨Upd.refl _ _, hC, hS, hm, hl, OwnG.nil .., rfl, (Nat.le_refl _), (by (try dsimp only); omega), (by (try dsimp only); (try simp only [List.length_nil]); omega)⟩ ?_
 rintro ⟨n, C, s, L, A, cp⟩ w10 ⟨hu11, f12, f13, f14, f15, f16, p17, p18, p19, p20⟩
 refine wkc [(0, .func (.yield l) #[] #[]), (1, .pointer (some ⟨b1, 0, none⟩)), (2, .pointer (some ⟨b2, 0, none⟩))] ?_
 have f22 : CurAt w10 gb C := f12
 have f23 : w10.heap[gs]? = some (.cells #[.int .i64 s] 3 (0, 0)) := f13
 have f24 : w10.heap[gm]? = some (.cells (partsC c (.slice A L.length cp)) 29 (0, 0)) := f14
 have f25 : w10.heap[l]? = some (.loop (loopR fn0 tm asg bdy D)) := f15
 have f26 : OwnG w.heap.size 57 4 (recR true) w10 (.slice A L.length cp) L := f16
 have p27 : recsR toldO n s C L = recsR toldO C0.l.length 0 C0 [] := p17
 have p28 : C.l.length ≤ n := p18
 have p29 : 0 ≤ s ∧ s ≤ 131074 * (L.length : Int) := p19
 have p30 : L.length + n ≤ C0.l.length := p20
 have hrec : recsR toldO n s C L = recsR toldO C0.l.length 0 C0 [] := by assumption
 refine sq <| sg <| ?_
 have r31 := Upd.blk hu11 (not_cons m1 (not_cons m2 (not_cons m3 (not_cons m4 not0)))) hb1
 refine L0 <| Olb r31 0 <| L0 <| Oc <| mq (left_any f22) <| ?_
 have hl32 := CurAt.len f22
 refine Pl 2 <| cu 4 [8] 12 (((decide (0 < ((C.l.length : Nat) : Int))) && (C.e == 0))) (fun K K34 => ?_) ?_
 refine bl 8 ((decide (0 < ((C.l.length : Nat) : Int)))) (fun q33 => ?_) (fun q33 => ?_)
 have q33p := of_decide_eq_true q33
 refine L1 <| Olb r31 0 <| L1 <| Oc <| mq (err_any f22) <| ?_
 have hl35 := CurAt.len f22
 exact Pl 2 <| ce K34 (C.e == 0) (by rw [q33]; rfl)
 have q33p := of_decide_eq_false q33
 exact Pl 4 <| ce K34 false (by rw [q33]; rfl)
 refine nt <| cb (((decide (0 < ((C.l.length : Nat) : Int))) && (C.e == 0))) (fun q36 => ?_) (fun q36 => ?_)
 have q36a := (and_t q36).1
 have q36b := (and_t q36).2
 have q36ap := of_decide_eq_true q36a
 have q36bp := eq_of_beqi q36b
 refine skn <| bk <| sg <| ?_
 have r37 := Upd.blk hu11 (not_cons k1 (not_cons k2 (not_cons k3 (not_cons k4 not0)))) hb2
 refine L0 <| Olb r37 0 <| L0 <| Olb r31 0 <| L0 <| Ocv #[] #[] (args := #[.pointer (some ⟨gb, 0, none⟩)]) <| ee6 (ftold_any f22) fun A39 cp40 w38 rd41 hb42 hb43 hb44 hc45 hu46 => ?_
 obtain ⟨hb42a, hb42b⟩ := hb42
 obtain ⟨hb43a, hb43b⟩ := hb43
 obtain ⟨hb44a, hb44b⟩ := hb44
 refine L0 <| Oal #[.int .u16 0, .int .u16 0, .int .u16 0, .slice none 0 0] fun g47 w48 hg49 B50 hu51 => L0 <| Osw B50 #[.int .u16 ((toldM C).file), .int .u16 ((toldM C).record), .int .u16 ((toldM C).count), .slice A39 ((toldM C).words.length) cp40] fun w52 B53 hu54 => nt <| sq <| fgo 9 <| ?_
 have U55 := ut0 hu46 hu51
 have U56 := u1 U55 hu54 (ni hu46.size hg49)
 have r57 := ub1 U56 m1 r31
 refine F0 <| Olb r57 0 <| ?_
 have U58 := u1 hu51 hu54 (nr hg49)
 have r59 := CurAt.old hc45 U58
 refine F0 <| Oc <| mq (err_any r59) <| ?_
 have hl60 := CurAt.len r59
 refine Fp <| Fp <| ?_
 have U61 := u1 hu11 hu46 im
 have U62 := ut0 U61 hu51
 have U63 := u1 U62 hu54 (ni U61.size hg49)
 refine blf 19 ((((toldC C).e) != 0)) (fun q64 => ?_) (fun q64 => ?_)
 have q64p := ne_of_bnei q64
 refine Fp <| Fp <| Fp <| Fp <| Fp <| fnl <| tn <| c1 <| rt <| br <| tr <| br <| rr (.tuple #[]) <| ?_
 have hfin : recsR toldO C0.l.length 0 C0 [] = ((toldC C), L) := by
   rw [← hrec]
   rw [show n = (n - 1) + 1 from by omega]
   simp only [recsR, toldO, q36, q36a, q36b, q64, bs, if_true, if_false, decide_true, decide_false, reduceIte]
 refine ⟨rfl, s, A, cp, ?_⟩
 rw [hfin]
 have r65 := ub1 U56 (Ne.symm n1) f23
 have r66 := ub1 U56 (Ne.symm n2) f24
 have r67 := own_stay f26 U56 (fun x hx => (not_cons (fun e => (not_old (CurAt.lt hC) lr f26) (e ▸ hx)) not0)) (recR.upd16 U56 (safe_cons (CurAt.safe f22 _ (by decide)) safe0))
 have r68 := ub1 U56 (Ne.symm n3) f25
 exact ⟨U63, r59, r65, r66, r67, r68⟩
 have q64p := eq_of_bnei q64
 refine Fp <| F0 <| Olw B53 <| ?_
 have r70 := ub1 U56 (Ne.symm n1) f23
 have r71 := ub1 U56 (Ne.symm n2) f24
 have r72 := own_stay f26 U56 (fun x hx => (not_cons (fun e => (not_old (CurAt.lt hC) lr f26) (e ▸ hx)) not0)) (recR.upd16 U56 (safe_cons (CurAt.safe f22 _ (by decide)) safe0))
 have r73 := ub1 U56 (Ne.symm n3) f25
 have hJ69 : JR w gb gs gm l c (loopR fn0 tm asg bdy D) (toldC C) s L A cp w52 := ⟨U63, r59, r70, r71, r72, r73⟩
 refine Fy (r := loopR fn0 tm asg bdy D) (.agg #[.int .u16 ((toldM C).file), .int .u16 ((toldM C).record), .int .u16 ((toldM C).count), .slice A39 ((toldM C).words.length) cp40]) 53 r73 rfl <| ?_
 have r79 := RdW.upd' rd41 U58 safe0
 refine RoundIn.mono (hround _ _ _ _ _ _ (toldM C) _ _ hJ69 r79 (b16 (by omega)) (b16 (by omega)) (b16 (by omega)) (by omega)) ?_
 rintro _ w74 ⟨rfl, hz77, A75, cp76, hJ78⟩
 refine ⟨_, rfl, ?_⟩
 refine Fp <| Fp <| fnl <| tn <| c0 <| sk <| bn <| ?_
 have U80 := ut (Upd.mono (S' := [gb, gs, gm, l]) (Upd.refl [] _) all0) hJ78.u (ac im (ac im (ac im (ac im all0))))
 exact lpe ((n - 1), (toldC C), s, (L ++ [(toldM C)]), A75, cp76) ⟨U80, hJ78.hC, hJ78.hS, hJ78.hm, hJ78.hl, hJ78.ho, (by (try dsimp only); rw [← hrec, show n = (n - 1) + 1 from by omega]; simp only [recsR, toldO, q36, q36a, q36b, q64, bs, if_true, if_false, decide_true, decide_false, Nat.add_sub_cancel, reduceIte]), (by (try dsimp only); have hd := toldO_lt s C (by omega); have hd2 : (toldO s C).2.1.l.length = (toldC C).l.length := rfl; omega), (by (try dsimp only); simp only [List.length_append, List.length_cons, List.length_nil]; omega), (by (try dsimp only); simp only [List.length_append, List.length_cons, List.length_nil]; omega)⟩ (by omega)
 refine xt <| tx <| tx <| bx <| rm (.tuple #[]) <| ?_
 have hfin : recsR toldO C0.l.length 0 C0 [] = (C, L) := by
   rw [← hrec]
   exact recsR_stop _ _ _ _ _ (by simp only [q36, bs, if_true, if_false, decide_true, decide_false])
 refine ⟨rfl, s, A, cp, ?_⟩
 rw [hfin]
 exact ⟨hu11, f22, f23, f24, f26, f25⟩
set_option maxRecDepth 100000 in
set_option maxHeartbeats 4000000 in
theorem full_W {w : World} {gb gs gm l b1 b2 fn0 D : Nat} {tm : Array Value} {asg bdy : Code} {c : Int} {C0 : Cur} (hC : CurAt w gb C0) (hS : w.heap[gs]? = some (.cells #[.int .i64 0] 3 (0, 0))) (hm : w.heap[gm]? = some (.cells (partsC c nilS) 29 (0, 0)))
    (hl : w.heap[l]? = some (.loop (loopR fn0 tm asg bdy D))) (hb1 : w.heap[b1]? = some (.cells #[.pointer (some ⟨gb, 0, none⟩)] 69 (0, 0))) (hb2 : w.heap[b2]? = some (.cells #[.func (.func 104) #[] #[]] 101 (0, 0)))
    (n1 : gb ≠ gs) (n2 : gb ≠ gm) (n3 : gb ≠ l) (n4 : gs ≠ gm) (n5 : gs ≠ l) (n6 : gm ≠ l) (m1 : b1 ≠ gb) (m2 : b1 ≠ gs) (m3 : b1 ≠ gm) (m4 : b1 ≠ l) (k1 : b2 ≠ gb) (k2 : b2 ≠ gs) (k3 : b2 ≠ gm) (k4 : b2 ≠ l) (hround : Rounds w gb gs gm l c (loopR fn0 tm asg bdy D)) :
    Calls Try.prog 105 #[.func (.yield l) #[] #[], .pointer (some ⟨b1, 0, none⟩), .pointer (some ⟨b2, 0, none⟩)] w (fun e W => e = .returned (.tuple #[]) ∧ ∃ s A cp, JR w gb gs gm l c (loopR fn0 tm asg bdy D) (recsR wrtO C0.l.length 0 C0 []).1 s (recsR wrtO C0.l.length 0 C0 []).2 A cp W) := by
 have hlen := hC.len
 refine en 25 Try.func105 rfl <| bk <| ?_
 refine glp (fun x => [(0, .func (.yield l) #[] #[]), (1, .pointer (some ⟨b1, 0, none⟩)), (2, .pointer (some ⟨b2, 0, none⟩))]) (fun (x : Nat × Cur × Int × List Rec × Option Addr × Nat) w' => Upd [gb, gs, gm, l] w w' ∧ CurAt w' gb x.2.1 ∧ w'.heap[gs]? = some (.cells #[.int .i64 x.2.2.1] 3 (0, 0)) ∧ w'.heap[gm]? = some (.cells (partsC c (.slice x.2.2.2.2.1 x.2.2.2.1.length x.2.2.2.2.2)) 29 (0, 0)) ∧ w'.heap[l]? = some (.loop (loopR fn0 tm asg bdy D)) ∧ OwnG w.heap.size 57 4 (recR true) w' (.slice x.2.2.2.2.1 x.2.2.2.1.length x.2.2.2.2.2) x.2.2.2.1 ∧ (recsR wrtO x.1 x.2.2.1 x.2.1 x.2.2.2.1 = recsR wrtO C0.l.length 0 C0 []) ∧ (x.2.1.l.length ≤ x.1) ∧ (0 ≤ x.2.2.1 ∧ x.2.2.1 ≤ 131074 * (x.2.2.2.1.length : Int)) ∧ (x.2.2.2.1.length + x.1 ≤ C0.l.length)) (fun x => x.1) (C0.l.length, C0, 0, [], none, 0) ⟨Upd.refl _ _, hC, hS, hm, hl, OwnG.nil .., rfl, (Nat.le_refl _), (by (try dsimp only); omega), (by (try dsimp only); (try simp only [List.length_nil]); omega)⟩ ?_
 rintro ⟨n, C, s, L, A, cp⟩ w10 ⟨hu11, f12, f13, f14, f15, f16, p17, p18, p19, p20⟩
 refine wkc [(0, .func (.yield l) #[] #[]), (1, .pointer (some ⟨b1, 0, none⟩)), (2, .pointer (some ⟨b2, 0, none⟩))] ?_
 have f22 : CurAt w10 gb C := f12
 have f23 : w10.heap[gs]? = some (.cells #[.int .i64 s] 3 (0, 0)) := f13
 have f24 : w10.heap[gm]? = some (.cells (partsC c (.slice A L.length cp)) 29 (0, 0)) := f14
 have f25 : w10.heap[l]? = some (.loop (loopR fn0 tm asg bdy D)) := f15
 have f26 : OwnG w.heap.size 57 4 (recR true) w10 (.slice A L.length cp) L := f16
 have p27 : recsR wrtO n s C L = recsR wrtO C0.l.length 0 C0 [] := p17
 have p28 : C.l.length ≤ n := p18
 have p29 : 0 ≤ s ∧ s ≤ 131074 * (L.length : Int) := p19
 have p30 : L.length + n ≤ C0.l.length := p20
 have hrec : recsR wrtO n s C L = recsR wrtO C0.l.length 0 C0 [] := by assumption
 refine sq <| sg <| ?_
 have r31 := Upd.blk hu11 (not_cons m1 (not_cons m2 (not_cons m3 (not_cons m4 not0)))) hb1
 refine L0 <| Olb r31 0 <| L0 <| Oc <| mq (left_any f22) <| ?_
 have hl32 := CurAt.len f22
 refine Pl 2 <| cu 4 [8] 12 (((decide (0 < ((C.l.length : Nat) : Int))) && (C.e == 0))) (fun K K34 => ?_) ?_
 refine bl 8 ((decide (0 < ((C.l.length : Nat) : Int)))) (fun q33 => ?_) (fun q33 => ?_)
 have q33p := of_decide_eq_true q33
 refine L1 <| Olb r31 0 <| L1 <| Oc <| mq (err_any f22) <| ?_
 have hl35 := CurAt.len f22
 exact Pl 2 <| ce K34 (C.e == 0) (by rw [q33]; rfl)
 have q33p := of_decide_eq_false q33
 exact Pl 4 <| ce K34 false (by rw [q33]; rfl)
 refine nt <| cb (((decide (0 < ((C.l.length : Nat) : Int))) && (C.e == 0))) (fun q36 => ?_) (fun q36 => ?_)
 have q36a := (and_t q36).1
 have q36b := (and_t q36).2
 have q36ap := of_decide_eq_true q36a
 have q36bp := eq_of_beqi q36b
 refine skn <| bk <| sg <| ?_
 have r37 := Upd.blk hu11 (not_cons k1 (not_cons k2 (not_cons k3 (not_cons k4 not0)))) hb2
 refine L0 <| Olb r37 0 <| L0 <| Olb r31 0 <| L0 <| Ocv #[] #[] (args := #[.pointer (some ⟨gb, 0, none⟩)]) <| ee6 (wrt_any f22) fun A39 cp40 w38 rd41 hb42 hb43 hb44 hc45 hu46 => ?_
 obtain ⟨hb42a, hb42b⟩ := hb42
 obtain ⟨hb43a, hb43b⟩ := hb43
 obtain ⟨hb44a, hb44b⟩ := hb44
 refine L0 <| Oal #[.int .u16 0, .int .u16 0, .int .u16 0, .slice none 0 0] fun g47 w48 hg49 B50 hu51 => L0 <| Osw B50 #[.int .u16 ((wrtM C).file), .int .u16 ((wrtM C).record), .int .u16 ((wrtM C).count), .slice A39 ((wrtM C).words.length) cp40] fun w52 B53 hu54 => nt <| sq <| fgo 9 <| ?_
 have U55 := ut0 hu46 hu51
 have U56 := u1 U55 hu54 (ni hu46.size hg49)
 have r57 := ub1 U56 m1 r31
 refine F0 <| Olb r57 0 <| ?_
 have U58 := u1 hu51 hu54 (nr hg49)
 have r59 := CurAt.old hc45 U58
 refine F0 <| Oc <| mq (err_any r59) <| ?_
 have hl60 := CurAt.len r59
 refine Fp <| Fp <| ?_
 have U61 := u1 hu11 hu46 im
 have U62 := ut0 U61 hu51
 have U63 := u1 U62 hu54 (ni U61.size hg49)
 refine blf 19 ((((wrtC C).e) != 0)) (fun q64 => ?_) (fun q64 => ?_)
 have q64p := ne_of_bnei q64
 refine Fp <| Fp <| Fp <| Fp <| Fp <| fnl <| tn <| c1 <| rt <| br <| tr <| br <| rr (.tuple #[]) <| ?_
 have hfin : recsR wrtO C0.l.length 0 C0 [] = ((wrtC C), L) := by
   rw [← hrec]
   rw [show n = (n - 1) + 1 from by omega]
   simp only [recsR, wrtO, q36, q36a, q36b, q64, bs, if_true, if_false, decide_true, decide_false, reduceIte]
 refine ⟨rfl, s, A, cp, ?_⟩
 rw [hfin]
 have r65 := ub1 U56 (Ne.symm n1) f23
 have r66 := ub1 U56 (Ne.symm n2) f24
 have r67 := own_stay f26 U56 (fun x hx => (not_cons (fun e => (not_old (CurAt.lt hC) lr f26) (e ▸ hx)) not0)) (recR.upd16 U56 (safe_cons (CurAt.safe f22 _ (by decide)) safe0))
 have r68 := ub1 U56 (Ne.symm n3) f25
 exact ⟨U63, r59, r65, r66, r67, r68⟩
 have q64p := eq_of_bnei q64
 refine Fp <| F0 <| Olw B53 <| ?_
 have r70 := ub1 U56 (Ne.symm n1) f23
 have r71 := ub1 U56 (Ne.symm n2) f24
 have r72 := own_stay f26 U56 (fun x hx => (not_cons (fun e => (not_old (CurAt.lt hC) lr f26) (e ▸ hx)) not0)) (recR.upd16 U56 (safe_cons (CurAt.safe f22 _ (by decide)) safe0))
 have r73 := ub1 U56 (Ne.symm n3) f25
 have hJ69 : JR w gb gs gm l c (loopR fn0 tm asg bdy D) (wrtC C) s L A cp w52 := ⟨U63, r59, r70, r71, r72, r73⟩
 refine Fy (r := loopR fn0 tm asg bdy D) (.agg #[.int .u16 ((wrtM C).file), .int .u16 ((wrtM C).record), .int .u16 ((wrtM C).count), .slice A39 ((wrtM C).words.length) cp40]) 53 r73 rfl <| ?_
 have r79 := RdW.upd' rd41 U58 safe0
 refine RoundIn.mono (hround _ _ _ _ _ _ (wrtM C) _ _ hJ69 r79 (b16 (by omega)) (b16 (by omega)) (b16 (by omega)) (by omega)) ?_
 rintro _ w74 ⟨rfl, hz77, A75, cp76, hJ78⟩
 refine ⟨_, rfl, ?_⟩
 refine Fp <| Fp <| fnl <| tn <| c0 <| sk <| bn <| ?_
 have U80 := ut (Upd.mono (S' := [gb, gs, gm, l]) (Upd.refl [] _) all0) hJ78.u (ac im (ac im (ac im (ac im all0))))
 exact lpe ((n - 1), (wrtC C), s, (L ++ [(wrtM C)]), A75, cp76) ⟨U80, hJ78.hC, hJ78.hS, hJ78.hm, hJ78.hl, hJ78.ho, (by (try dsimp only); rw [← hrec, show n = (n - 1) + 1 from by omega]; simp only [recsR, wrtO, q36, q36a, q36b, q64, bs, if_true, if_false, decide_true, decide_false, Nat.add_sub_cancel, reduceIte]), (by (try dsimp only); have hd := wrtO_lt s C (by omega); have hd2 : (wrtO s C).2.1.l.length = (wrtC C).l.length := rfl; omega), (by (try dsimp only); simp only [List.length_append, List.length_cons, List.length_nil]; omega), (by (try dsimp only); simp only [List.length_append, List.length_cons, List.length_nil]; omega)⟩ (by omega)
 refine xt <| tx <| tx <| bx <| rm (.tuple #[]) <| ?_
 have hfin : recsR wrtO C0.l.length 0 C0 [] = (C, L) := by
   rw [← hrec]
   exact recsR_stop _ _ _ _ _ (by simp only [q36, bs, if_true, if_false, decide_true, decide_false])
 refine ⟨rfl, s, A, cp, ?_⟩
 rw [hfin]
 exact ⟨hu11, f22, f23, f24, f26, f25⟩
def mayA (n : Int) : Bool := (decide (7 ≤ n) && decide (n ≤ 245)) && n % 7 == 0
def mayT (n : Int) : Bool := decide (4 ≤ n) && decide (n ≤ 245)
def mayW (n : Int) : Bool := decide (9 ≤ n) && decide (n ≤ 251)
def fl1 (may : Int → Bool) (C : Cur) : Cur := (C.bytesC 1).need (may C.byteV) 5
def flB (may : Int → Bool) (C : Cur) : Cur := ⟨(fl1 may C).bytesR C.byteV, false, 0⟩
def flR (one : Int → Cur → Int × Cur × Rec) (may : Int → Bool) (C : Cur) : Cur × List Rec := recsR one (flB may C).l.length 0 (flB may C) []
def withinE (e : Int) : Int := if e == 2 then 5 else e
def filesR (one : Int → Cur → Int × Cur × Rec) (may : Int → Bool) (c : Int) (C : Cur) : Cur × Msg :=
  (((fl1 may C).bytesC C.byteV).need ((flR one may C).1.e == 0) (withinE (flR one may C).1.e), { Msg.zero with code := c, recs := (flR one may C).2 })
def filesForm (dir c : Int) (C : Cur) : Option (Cur × Msg) :=
  if c == 20 then (if dir == 0 then some (filesR askO mayA c C) else some (filesR toldO mayT c C)) else if c == 21 then some (filesR wrtO mayW c C) else none
theorem i2020 : ((20 : Int) == 20) = true := rfl
theorem i2120 : ((21 : Int) == 20) = false := rfl
theorem i2121 : ((21 : Int) == 21) = true := rfl
set_option maxRecDepth 100000 in
set_option maxHeartbeats 4000000 in
theorem files_p20_0 {m : Bool} {A : Option Addr} {cp : Nat} {b : List Int} {w : World} {dir : Int} (hd : dir = 0 ∨ dir = 1) (hsl : RdB m w (.slice A b.length cp) b) (hb : b.length ≤ 1048576) :
    Calls Try.prog 43 #[.int .i64 0, .int .u8 20, .slice A b.length cp] w (PMsg (parseOf filesForm 0 20 b) w) := by
 have hln : (b.length : Int) ≤ 1048576 := by omega
 have e01 : ((dir != 0) && (dir != 1)) = false := by rcases hd with rfl | rfl <;> rfl
 refine enm 77 Try.func43 rfl <| sg <| L0 <| Oal mZ fun g10 w11 hg12 B13 hu14 => Pl 1 <| nt <| sq <| sg <| Pl 6 <| nt <| c0 <| ?_
 refine skn <| sg <| Pl 2 <| L0 <| Oc (args := #[.int .i64 0, .int .u8 20]) <| e3 rules_A fun gs16 w15 hg17 hB18 hu19 => Pl 3 <| L0 <| Oal #[.nilFunc, .nilFunc] fun g20 w21 hg22 B23 hu24 => L0 <| Osw B23 #[.func (.func 100) #[] #[], .func (.func 98) #[] #[.pointer (some ⟨gs16, 0, none⟩)]] fun w25 B26 hu27 => Pl 1 <| nt <| sq <| sq <| ?_
 refine go <| Pl 2 <| nt <| c0 <| skn <| sg <| Pl 1 <| ?_
 have U28 := ut0 hu14 hu19
 have U29 := ut0 U28 hu24
 have U30 := u1 U29 hu27 (ni U28.size hg22)
 have r31 := RdB.old hsl U30
 refine L0 <| Oc <| e3 (new_any r31 (by omega)) fun g33 w32 hg34 hc35 hu36 => Pl 1 <| ng <| Pl 1 <| L0 <| Oc <| m3 (byte_any hc35) fun w37 hc38 hu39 hr40 => L0 <| Oi ((Cur.mk b false 0).byteV) <| Pl 1 <| ng <| ?_
 refine Pl 2 <| ?_
 have U41 := u1 hu36 hu39 (nr hg34)
 have r42 := ub U41 B26
 refine L0 <| Olb r42 0 <| Pl 1 <| L0 <| Ocv #[] #[] (args := #[.int .i64 ((Cur.mk b false 0).byteV)]) <| m1 (frule2_any (n := (Cur.mk b false 0).byteV) (by omega)) fun w43 hu44 => ?_
 have r45 := CurAt.old hc38 hu44
 refine L0 <| Oc <| m2 (need_any ((mayA ((Cur.mk b false 0).byteV))) 5 r45) fun w46 hc47 hu48 => ?_
 refine ab hc47 fun x49 ex50 hc51 => ?_
 refine ng <| Pl 2 <| L0 <| Oc <| sr3 (bytes_any (n := (Cur.mk b false 0).byteV) hc51) fun A61 cp62 w52 rd65 hl63 hm64 hc55 hu56 => ?_
 have hlb57 := Nat.le_trans (Cur.bytesR_le x49 ((Cur.mk b false 0).byteV)) (CurAt.len hc51)
 refine ab hc55 fun x58 ex59 hc60 => ?_
 refine L0 <| Oc <| e3 (new_any rd65 (by omega)) fun g67 w66 hg68 hc69 hu70 => Pl 1 <| ng <| Pl 2 <| L0 <| Oal mZ fun g71 w72 hg73 B74 hu75 => L0 <| Osw B74 (mC 20) fun w76 B77 hu78 => nt <| sq <| sg <| ?_
 refine Pl 2 <| ?_
 have U79 := u1 (Upd.mono (S' := [g33]) hu44 all0) hu48 im
 have U80 := u1 U79 hu56 im
 have U81 := ut0 U80 hu70
 have U82 := ut0 U81 hu75
 have U83 := u1 U82 hu78 (ni U81.size hg73)
 have ne84 := nb (blk_lt B23) hu27.size hg34
 have r85 := ub1 U83 ne84 r42
 refine L0 <| Olb r85 1 <| L0 <| Oc <| ee6 (full_any (gb := g67) (f := .func 98) (x := #[]) (y := #[.pointer (some ⟨gs16, 0, none⟩)])) fun b87 b88 w86 hg89 hg90 hn91 hB92 hB93 hu94 => nt <| bk <| ?_
 refine grange (f := 105) #[.pointer (some ⟨b87, 0, none⟩), .pointer (some ⟨b88, 0, none⟩)] fun a ha => ?_
 intro fn95 D96 l97 w98 hg99 hg100 hn101 hB102 hB103 hu104
 have ne105 := nb (blk_lt hB18) (le (le (le (le (le (le hu24.size hu27.size) hu36.size) hu39.size) hu44.size) hu48.size) hu56.size) hg68
 have ne106 := nb (CurAt.lt hc69) lr hg73
 have ne107 := nb (CurAt.lt hc69) (le (le hu75.size hu78.size) hu94.size) hg100
 have ne108 := nb (blk_lt hB18) (le (le (le (le (le (le (le hu24.size hu27.size) hu36.size) hu39.size) hu44.size) hu48.size) hu56.size) hu70.size) hg73
 have ne109 := nb (blk_lt hB18) (le (le (le (le (le (le (le (le (le (le hu24.size hu27.size) hu36.size) hu39.size) hu44.size) hu48.size) hu56.size) hu70.size) hu75.size) hu78.size) hu94.size) hg100
 have ne110 := nb (blk_lt B74) (le hu78.size hu94.size) hg100
 have ne111 := nb (CurAt.lt hc69) (le hu75.size hu78.size) hg89
 have ne112 := nb (blk_lt hB18) (le (le (le (le (le (le (le (le (le hu24.size hu27.size) hu36.size) hu39.size) hu44.size) hu48.size) hu56.size) hu70.size) hu75.size) hu78.size) hg89
 have ne113 := nb (blk_lt B74) hu78.size hg89
 have ne114 := nb (blk_lt hB92) lr hg100
 have ne115 := nb (CurAt.lt hc69) (le hu75.size hu78.size) hg90
 have ne116 := nb (blk_lt hB18) (le (le (le (le (le (le (le (le (le hu24.size hu27.size) hu36.size) hu39.size) hu44.size) hu48.size) hu56.size) hu70.size) hu75.size) hu78.size) hg90
 have ne117 := nb (blk_lt B74) hu78.size hg90
 have ne118 := nb (blk_lt hB93) lr hg100
 have U119 := u1 hu75 hu78 (nr hg73)
 have U120 := ut0 U119 hu94
 have U121 := ut0 U120 hu104
 have r122 := CurAt.old hc69 U121
 have U123 := u1 hu24 hu27 (nr hg22)
 have U124 := ut0 U123 hu36
 have U125 := u1 U124 hu39 (ni U123.size hg34)
 have U126 := ut0 U125 hu44
 have U127 := u1 U126 hu48 (ni U123.size hg34)
 have U128 := u1 U127 hu56 (ni U123.size hg34)
 have U129 := ut0 U128 hu70
 have U130 := ut0 U129 hu75
 have U131 := u1 U130 hu78 (ni U129.size hg73)
 have U132 := ut0 U131 hu94
 have U133 := ut0 U132 hu104
 have r134 := ub U133 hB18
 have U135 := ut0 hu94 hu104
 have r136 := ub U135 B77
 have r137 := ub hu104 hB92
 have r138 := ub hu104 hB93
 refine (full_A (c := 20) r122 r134 r136 hB103 r137 r138 (Ne.symm ne105) ne106 ne107 ne108 ne109 ne110 (Ne.symm ne111) (Ne.symm ne112) (Ne.symm ne113) ne114 (Ne.symm ne115) (Ne.symm ne116) (Ne.symm ne117) ne118 ?_).mono ?_
 intro W C s L Ar cr x Ax cx hJ hrd hx1 hx2 hx3 hL
 simp only [B16] at hx1 hx2 hx3
 have hm2 : W.heap[g71]? = some (.cells #[.int .u8 20, .int .u8 0, .int .u16 0, .int .u16 0, .int .u16 0, .int .u16 0, .int .u16 0, .int .u16 0, .int .u16 0, .int .u16 0, .int .u16 0, .int .u16 0, .slice none 0 0, .slice none 0 0, .slice none 0 0, .slice Ar L.length cr, .int .u8 0, .int .u8 0, .int .u8 0, .int .u8 0, .int .u8 0, .slice none 0 0] 29 (0, 0)) := hJ.hm
 refine round_at hJ.hl ?_
 refine gri ha 53 <| fgr <| R0f <| Oal #[.int .u16 0, .int .u16 0, .int .u16 0, .slice none 0 0] fun g139 w140 hg141 B142 hu143 => R0f <| Osw B142 #[.int .u16 x.file, .int .u16 x.record, .int .u16 x.count, .slice Ax x.words.length cx] fun w144 B145 hu146 => fnl <| ?_
 have U150 := u1 hu143 hu146 (nr hg141)
 have r151 := ub U150 hJ.hl
 refine gr1 r151 (by trivial) fun w147 hB148 hu149 => fbk <| fgr <| Rpf <| ?_
 have U152 := u1 (Upd.mono (S' := [l97]) U150 all0) hu149 im
 have r153 := ub1 U152 ne110 hm2
 refine R0f <| Olb r153 15 <| ?_
 have ne154 := nb (blk_lt hB103) hJ.u.size hg141
 have r155 := ub1 hu149 (Ne.symm ne154) B145
 refine R0f <| Olw r155 <| R0f <| Olt (m := 1) (e := 57) #[.int .u16 x.file, .int .u16 x.record, .int .u16 x.count, .slice Ax x.words.length cx] fun g156 w157 hg158 B159 hu160 => ?_
 have U161 := ut0 U152 hu160
 have r162 := RdW.updl hrd U161 hJ.hl rfl
 have ol163 := lit1 (R := recR true) (x := (Rec.mk x.file x.record x.count x.words)) B159 rfl ⟨_, rfl, r162, b16 (by omega), b16 (by omega), b16 (by omega)⟩
 have r164 := own_stay hJ.ho U161 (fun x hx => (not_cons (fun e => (not_old (blk_lt hB103) lr hJ.ho) (e ▸ hx)) not0)) (recR.updl U161 hJ.hl rfl)
 refine R0f <| Oappg (xs := L) (ys := ([(Rec.mk x.file x.record x.count x.words)])) (.agg #[.int .u16 0, .int .u16 0, .int .u16 0, .slice none 0 0]) 4 32 r164 ol163 (by simp) recR.ones (fun w' hv => recR.upd16 hv (safe_app (ob_safe _ r164 (by decide)) safe0)) (by (try simp only [List.length_append, List.length_cons, List.length_nil, putW_length]); omega) (le (le (le (le hJ.u.size hu143.size) hu146.size) hu149.size) hu160.size) fun A165 cp166 w167 ho168 hu169 => Rpf <| ?_
 have U172 := ut (Upd.mono (S' := (ob Ar ++ [])) hu160 all0) hu169 (all_app (fun x hx => Or.inl (by simp [hx])) all0)
 have r173 := Upd.blk U172 (not_app (not_old (blk_lt r136) lr hJ.ho) not0) r153
 refine R0f <| Ost r173 15 (mG 20 0 0 0 0 0 0 0 0 0 0 0 nS nS nS (.slice A165 ((L ++ [(Rec.mk x.file x.record x.count x.words)]).length) cp166) 0 0 0 0 0 nS) fun w174 B175 hu176 => fnl <| bn <| ?_
 have U180 := u1 (Upd.mono (S' := (ob Ar ++ (g71 :: []))) U172 (all_app (fun x hx => Or.inl (by simp [hx])) all0)) hu176 im
 have r181 := Upd.blk U180 (not_app (not_old (blk_lt hB103) lr hJ.ho) (not_cons (Ne.symm ne110) not0)) hB148
 refine gr2 r181 fun w177 hB178 hu179 => ?_
 have U182 := ut (Upd.mono (S' := [g67, gs16, g71, l97]) (Upd.refl [] _) all0) hJ.u (ac im (ac im (ac im (ac im all0))))
 have U183 := ut0 U182 hu143
 have U184 := u1 U183 hu146 (ni U182.size hg141)
 have U185 := u1 U184 hu149 im
 have U186 := ut0 U185 hu160
 have U187 := ut U186 hu169 (all_app (ob_new hJ.ho lr) all0)
 have U188 := u1 U187 hu176 im
 have U189 := u1 U188 hu179 im
 have U190 := ut (Upd.mono (S' := (l97 :: (ob Ar ++ []))) U161 (ac im all0)) hu169 (all_app (fun x hx => Or.inl (by simp [hx])) all0)
 have U191 := u1 (Upd.mono (S' := (l97 :: (ob Ar ++ (g71 :: [])))) U190 (ac im (all_app (fun x hx => Or.inl (by simp [hx])) all0))) hu176 im
 have U192 := u1 U191 hu179 im
 have r193 := CurAt.updl hJ.hC U161 (not_cons ne107 not0) hJ.hl rfl
 have r194 := CurAt.upd r193 hu169 (not_app (not_old (CurAt.lt r122) lr hJ.ho) not0) (safe_app (ob_safe _ r164 (by decide)) safe0)
 have r195 := CurAt.upd r194 hu176 (not_cons ne106 not0) (safe_cons (safe1 r173 (by decide)) safe0)
 have r196 := CurAt.updl r195 hu179 (not_cons ne107 not0) r181 rfl
 have r197 := Upd.blk U192 (not_cons ne109 (not_app (not_old (blk_lt r134) lr hJ.ho) (not_cons ne108 not0))) hJ.hS
 have r198 := ub1 hu179 ne110 B175
 have U199 := u1 (Upd.mono (S' := [g71, l97]) hu176 (ac im all0)) hu179 im
 have r200 := own_stay ho168 hu176 (fun x hx => (not_cons (fun e => (not_old (blk_lt r136) lr ho168) (e ▸ hx)) not0)) (recR.upd16 hu176 (safe_cons (safe1 r173 (by decide)) safe0))
 have r201 := own_stay r200 hu179 (fun x hx => (not_cons (fun e => (not_old (blk_lt hB103) lr ho168) (e ▸ hx)) not0)) (recR.updl hu179 r181 rfl)
 exact ⟨by trivial, (le (le (le (le (le (le hu143.size hu146.size) hu149.size) hu160.size) hu169.size) hu176.size) hu179.size), A165, cp166, ⟨U189, r196, r197, r198, r201, hB178⟩⟩
 rintro _ w202 ⟨rfl, s203, A204, cp205, hJ206⟩
 refine ⟨_, _, rfl, hJ206.hl, by simp [loopR], by trivial, fun w207 hu208 => ?_⟩
 refine ab hJ206.hC fun x209 ex210 hc211 => ?_
 have hm212 : w202.heap[g71]? = some (.cells #[.int .u8 20, .int .u8 0, .int .u16 0, .int .u16 0, .int .u16 0, .int .u16 0, .int .u16 0, .int .u16 0, .int .u16 0, .int .u16 0, .int .u16 0, .int .u16 0, .slice none 0 0, .slice none 0 0, .slice none 0 0, .slice A204 ((recsR askO (Cur.mk (x49.bytesR ((Cur.mk b false 0).byteV)) false 0).l.length 0 (Cur.mk (x49.bytesR ((Cur.mk b false 0).byteV)) false 0) []).2.length) cp205, .int .u8 0, .int .u8 0, .int .u8 0, .int .u8 0, .int .u8 0, .slice none 0 0] 29 (0, 0)) := hJ206.hm
 refine bn <| tn <| sg <| Pl 2 <| ?_
 have r213 := CurAt.updl hc211 hu208 (not_cons ne107 not0) hJ206.hl rfl
 refine L0 <| Oc <| mq (err_any r213) <| ?_
 have hl214 := CurAt.len r213
 refine Pl 2 <| L0 <| Oc <| mq (err_any r213) <| ?_
 have hl215 := CurAt.len r213
 refine L0 <| Oc <| m1 (within_err (e := x209.e)) fun w216 hu217 => ?_
 have U218 := ut0 hu70 hu75
 have U219 := u1 U218 hu78 (ni hu70.size hg73)
 have U220 := ut0 U219 hu94
 have U221 := ut0 U220 hu104
 have U222 := ut (Upd.mono (S' := [gs16]) U221 all0) hJ206.u (ac (nr hg68) (ac im (ac (ni hu70.size hg73) (ac (ni U220.size hg100) all0))))
 have U223 := u1 U222 hu208 (ni U220.size hg100)
 have U224 := ut0 U223 hu217
 have ne225 := nb (blk_lt hB18) U123.size hg34
 have r226 := ub U128 hB18
 have r227 := CurAt.upd hc60 U224 (not_cons (Ne.symm ne225) not0) (safe_cons (safe1 r226 (by decide)) safe0)
 refine L0 <| Oc <| m2 (need_any ((x209.e == 0)) (withinE x209.e) r227) fun w228 hc229 hu230 => ?_
 refine ab hc229 fun x231 ex232 hc233 => ?_
 refine ng <| Pl 1 <| L0 <| Oc <| m2 (end_any hc233) fun w234 hc235 hu236 => nt <| sq <| sg <| Pl 1 <| L0 <| Oc <| mq (err_any hc235) <| ?_
 have hl237 := CurAt.len hc235
 refine Pl 1 <| ng <| Pl 2 <| nt <| ?_
 have U238 := ut0 U30 hu36
 have U239 := u1 U238 hu39 (ni U30.size hg34)
 have U240 := ut0 U239 hu44
 have U241 := u1 U240 hu48 (ni U30.size hg34)
 have U242 := u1 U241 hu56 (ni U30.size hg34)
 have U243 := ut0 U242 hu70
 have U244 := ut0 U243 hu75
 have U245 := u1 U244 hu78 (ni U243.size hg73)
 have U246 := ut0 U245 hu94
 have U247 := ut0 U246 hu104
 have U248 := ut U247 hJ206.u (ac (ni U242.size hg68) (ac (ni hu14.size hg17) (ac (ni U243.size hg73) (ac (ni U246.size hg100) all0))))
 have U249 := u1 U248 hu208 (ni U246.size hg100)
 have U250 := ut0 U249 hu217
 have U251 := u1 U250 hu230 (ni U30.size hg34)
 have U252 := u1 U251 hu236 (ni U30.size hg34)
 refine cb ((x231.endC.e != 0)) (fun q253 => ?_) (fun q253 => ?_)
 have q253p := ne_of_bnei q253
 refine sg <| Pl 2 <| ?_
 have U254 := ut0 hu19 hu24
 have U255 := u1 U254 hu27 (ni hu19.size hg22)
 have U256 := ut0 U255 hu36
 have U257 := u1 U256 hu39 (ni U255.size hg34)
 have U258 := ut0 U257 hu44
 have U259 := u1 U258 hu48 (ni U255.size hg34)
 have U260 := u1 U259 hu56 (ni U255.size hg34)
 have U261 := ut0 U260 hu70
 have U262 := ut0 U261 hu75
 have U263 := u1 U262 hu78 (ni U261.size hg73)
 have U264 := ut0 U263 hu94
 have U265 := ut0 U264 hu104
 have U266 := ut U265 hJ206.u (ac (ni U260.size hg68) (ac (nr hg17) (ac (ni U261.size hg73) (ac (ni U264.size hg100) all0))))
 have U267 := u1 U266 hu208 (ni U264.size hg100)
 have U268 := ut0 U267 hu217
 have U269 := u1 U268 hu230 (ni U255.size hg34)
 have U270 := u1 U269 hu236 (ni U255.size hg34)
 have r271 := ub U270 B13
 refine L0 <| Osw r271 mZ fun w272 B273 hu274 => Pl 1 <| nt <| rt <| tr <| ?_
 have U277 := u1 hJ206.u hu208 im
 have U278 := ut0 U277 hu217
 have U279 := u1 (Upd.mono (S' := [g67, gs16, g71, l97, g33]) U278 (ac im (ac im (ac im (ac im all0))))) hu230 im
 have U280 := u1 U279 hu236 im
 have U281 := u1 (Upd.mono (S' := [g67, gs16, g71, l97, g33, g10]) U280 (ac im (ac im (ac im (ac im (ac im all0)))))) hu274 im
 have ne282 := nb (blk_lt B13) U264.size hg99
 have ne283 := nb (CurAt.lt hc35) (le (le (le (le (le (le (le hu39.size hu44.size) hu48.size) hu56.size) hu70.size) hu75.size) hu78.size) hu94.size) hg99
 have ne284 := nb (blk_lt B74) (le hu78.size hu94.size) hg99
 have ne285 := nb (blk_lt hB18) U132.size hg99
 have ne286 := nb (CurAt.lt hc69) U120.size hg99
 have r287 := Upd.blk U281 (not_cons (Ne.symm ne286) (not_cons (Ne.symm ne285) (not_cons (Ne.symm ne284) (not_cons hn101 (not_cons (Ne.symm ne283) (not_cons (Ne.symm ne282) not0)))))) hB102
 refine rmd r287 fun w275 hu276 => ?_
 have r288 := ub1 hu276 ne282 B273
 refine rx r288 (.int .i64 x231.endC.e) <| ?_
 subst ex232 ex210 ex59 ex50
 have U289 := u1 U252 hu274 (nr hg12)
 have U290 := u1 U289 hu276 (ni U246.size hg99)
 have U291 := ut0 hu208 hu217
 have U292 := u1 (Upd.mono (S' := [l97, g33]) U291 (ac im all0)) hu230 im
 have U293 := u1 U292 hu236 im
 have U294 := u1 (Upd.mono (S' := [l97, g33, g10]) U293 (ac im (ac im all0))) hu274 im
 have U295 := u1 (Upd.mono (S' := [l97, g33, g10, D96]) U294 (ac im (ac im (ac im all0)))) hu276 im
 have r296 := ub U266 B13
 have r297 := CurAt.upd hc60 U222 (not_cons (Ne.symm ne225) not0) (safe_cons (safe1 r226 (by decide)) safe0)
 have r298 := own_stay hJ206.ho U291 (fun x hx => (not_cons (fun e => (not_old (blk_lt hB103) lr hJ206.ho) (e ▸ hx)) not0)) (recR.updl U291 hJ206.hl rfl)
 have r299 := own_stay r298 hu230 (fun x hx => (not_cons (fun e => (not_old (CurAt.lt hc35) (le (le (le (le (le (le (le (le hu39.size hu44.size) hu48.size) hu56.size) hu70.size) hu75.size) hu78.size) hu94.size) hu104.size) hJ206.ho) (e ▸ hx)) not0)) (recR.upd16 hu230 (safe_cons (CurAt.safe r227 _ (by decide)) safe0))
 have r300 := own_stay r299 hu236 (fun x hx => (not_cons (fun e => (not_old (CurAt.lt hc35) (le (le (le (le (le (le (le (le hu39.size hu44.size) hu48.size) hu56.size) hu70.size) hu75.size) hu78.size) hu94.size) hu104.size) hJ206.ho) (e ▸ hx)) not0)) (recR.upd16 hu236 (safe_cons (CurAt.safe hc233 _ (by decide)) safe0))
 have r301 := own_stay r300 hu274 (fun x hx => (not_cons (fun e => (not_old (blk_lt B13) U265.size hJ206.ho) (e ▸ hx)) not0)) (recR.upd16 hu274 (safe_cons (safe1 r271 (by decide)) safe0))
 have r302 := own_stay r301 hu276 (fun x hx => (not_cons (fun e => (not_old (blk_lt hB102) lr hJ206.ho) (e ▸ hx)) not0)) (recR.updl hu276 r287 rfl)
 have hs : parseOf filesForm 0 20 b = finish (Msg.mk 20 0 0 0 0 0 0 0 0 0 0 0 [] [] [] (recsR askO (Cur.mk ((((Cur.mk b false 0).bytesC 1).need (mayA ((Cur.mk b false 0).byteV)) 5).bytesR ((Cur.mk b false 0).byteV)) false 0).l.length 0 (Cur.mk ((((Cur.mk b false 0).bytesC 1).need (mayA ((Cur.mk b false 0).byteV)) 5).bytesR ((Cur.mk b false 0).byteV)) false 0) []).2 0 0 0 0 0 []) (((((Cur.mk b false 0).bytesC 1).need (mayA ((Cur.mk b false 0).byteV)) 5).bytesC ((Cur.mk b false 0).byteV)).need (((recsR askO (Cur.mk ((((Cur.mk b false 0).bytesC 1).need (mayA ((Cur.mk b false 0).byteV)) 5).bytesR ((Cur.mk b false 0).byteV)) false 0).l.length 0 (Cur.mk ((((Cur.mk b false 0).bytesC 1).need (mayA ((Cur.mk b false 0).byteV)) 5).bytesR ((Cur.mk b false 0).byteV)) false 0) []).1).e == 0) (withinE ((recsR askO (Cur.mk ((((Cur.mk b false 0).bytesC 1).need (mayA ((Cur.mk b false 0).byteV)) 5).bytesR ((Cur.mk b false 0).byteV)) false 0).l.length 0 (Cur.mk ((((Cur.mk b false 0).bytesC 1).need (mayA ((Cur.mk b false 0).byteV)) 5).bytesR ((Cur.mk b false 0).byteV)) false 0) []).1).e)) := by
   unfold parseOf filesForm filesR flR flB fl1
   (try simp only [q253, bs, if_true, if_false, decide_true, decide_false, eq_self, true_or, or_true, or_false, false_or, if_true, if_false, i00, i01, i10, i11, reduceIte, i2020, i2120, i2121])
   all_goals rfl
 rw [hs]
 exact finish_bad q253p U290
 have q253p := eq_of_bnei q253
 refine skn <| sg <| ?_
 have U303 := ut0 hu208 hu217
 have U304 := u1 (Upd.mono (S' := [l97, g33]) U303 (ac im all0)) hu230 im
 have U305 := u1 U304 hu236 im
 have ne306 := nb (CurAt.lt hc35) (le (le (le (le hu39.size hu44.size) hu48.size) hu56.size) hu70.size) hg73
 have r307 := Upd.blk U305 (not_cons ne110 (not_cons (Ne.symm ne306) not0)) hm212
 refine L0 <| Olw r307 <| ?_
 have U308 := ut0 hu19 hu24
 have U309 := u1 U308 hu27 (ni hu19.size hg22)
 have U310 := ut0 U309 hu36
 have U311 := u1 U310 hu39 (ni U309.size hg34)
 have U312 := ut0 U311 hu44
 have U313 := u1 U312 hu48 (ni U309.size hg34)
 have U314 := u1 U313 hu56 (ni U309.size hg34)
 have U315 := ut0 U314 hu70
 have U316 := ut0 U315 hu75
 have U317 := u1 U316 hu78 (ni U315.size hg73)
 have U318 := ut0 U317 hu94
 have U319 := ut0 U318 hu104
 have U320 := ut U319 hJ206.u (ac (ni U314.size hg68) (ac (nr hg17) (ac (ni U315.size hg73) (ac (ni U318.size hg100) all0))))
 have U321 := u1 U320 hu208 (ni U318.size hg100)
 have U322 := ut0 U321 hu217
 have U323 := u1 U322 hu230 (ni U309.size hg34)
 have U324 := u1 U323 hu236 (ni U309.size hg34)
 have r325 := ub U324 B13
 refine L0 <| Osw r325 (mG 20 0 0 0 0 0 0 0 0 0 0 0 nS nS nS (.slice A204 ((recsR askO (Cur.mk (x49.bytesR ((Cur.mk b false 0).byteV)) false 0).l.length 0 (Cur.mk (x49.bytesR ((Cur.mk b false 0).byteV)) false 0) []).2.length) cp205) 0 0 0 0 0 nS) fun w326 B327 hu328 => Pl 1 <| nt <| rt <| ?_
 have U331 := u1 hJ206.u hu208 im
 have U332 := ut0 U331 hu217
 have U333 := u1 (Upd.mono (S' := [g67, gs16, g71, l97, g33]) U332 (ac im (ac im (ac im (ac im all0))))) hu230 im
 have U334 := u1 U333 hu236 im
 have U335 := u1 (Upd.mono (S' := [g67, gs16, g71, l97, g33, g10]) U334 (ac im (ac im (ac im (ac im (ac im all0)))))) hu328 im
 have ne336 := nb (blk_lt B13) U318.size hg99
 have ne337 := nb (CurAt.lt hc35) (le (le (le (le (le (le (le hu39.size hu44.size) hu48.size) hu56.size) hu70.size) hu75.size) hu78.size) hu94.size) hg99
 have ne338 := nb (blk_lt B74) (le hu78.size hu94.size) hg99
 have ne339 := nb (blk_lt hB18) U132.size hg99
 have ne340 := nb (CurAt.lt hc69) U120.size hg99
 have r341 := Upd.blk U335 (not_cons (Ne.symm ne340) (not_cons (Ne.symm ne339) (not_cons (Ne.symm ne338) (not_cons hn101 (not_cons (Ne.symm ne337) (not_cons (Ne.symm ne336) not0)))))) hB102
 refine rmd r341 fun w329 hu330 => ?_
 have r342 := ub1 hu330 ne336 B327
 refine rx r342 (.int .i64 0) <| ?_
 subst ex232 ex210 ex59 ex50
 have U343 := u1 U252 hu328 (nr hg12)
 have U344 := u1 U343 hu330 (ni U246.size hg99)
 have U345 := u1 (Upd.mono (S' := [l97, g33, g10]) U305 (ac im (ac im all0))) hu328 im
 have U346 := u1 (Upd.mono (S' := [l97, g33, g10, D96]) U345 (ac im (ac im (ac im all0)))) hu330 im
 have r347 := ub U320 B13
 have r348 := CurAt.upd hc60 U222 (not_cons (Ne.symm ne225) not0) (safe_cons (safe1 r226 (by decide)) safe0)
 have r349 := own_stay hJ206.ho U303 (fun x hx => (not_cons (fun e => (not_old (blk_lt hB103) lr hJ206.ho) (e ▸ hx)) not0)) (recR.updl U303 hJ206.hl rfl)
 have r350 := own_stay r349 hu230 (fun x hx => (not_cons (fun e => (not_old (CurAt.lt hc35) (le (le (le (le (le (le (le (le hu39.size hu44.size) hu48.size) hu56.size) hu70.size) hu75.size) hu78.size) hu94.size) hu104.size) hJ206.ho) (e ▸ hx)) not0)) (recR.upd16 hu230 (safe_cons (CurAt.safe r227 _ (by decide)) safe0))
 have r351 := own_stay r350 hu236 (fun x hx => (not_cons (fun e => (not_old (CurAt.lt hc35) (le (le (le (le (le (le (le (le hu39.size hu44.size) hu48.size) hu56.size) hu70.size) hu75.size) hu78.size) hu94.size) hu104.size) hJ206.ho) (e ▸ hx)) not0)) (recR.upd16 hu236 (safe_cons (CurAt.safe hc233 _ (by decide)) safe0))
 have r352 := own_stay r351 hu328 (fun x hx => (not_cons (fun e => (not_old (blk_lt B13) U319.size hJ206.ho) (e ▸ hx)) not0)) (recR.upd16 hu328 (safe_cons (safe1 r325 (by decide)) safe0))
 have r353 := own_stay r352 hu330 (fun x hx => (not_cons (fun e => (not_old (blk_lt hB102) lr hJ206.ho) (e ▸ hx)) not0)) (recR.updl hu330 r341 rfl)
 have hs : parseOf filesForm 0 20 b = finish (Msg.mk 20 0 0 0 0 0 0 0 0 0 0 0 [] [] [] (recsR askO (Cur.mk ((((Cur.mk b false 0).bytesC 1).need (mayA ((Cur.mk b false 0).byteV)) 5).bytesR ((Cur.mk b false 0).byteV)) false 0).l.length 0 (Cur.mk ((((Cur.mk b false 0).bytesC 1).need (mayA ((Cur.mk b false 0).byteV)) 5).bytesR ((Cur.mk b false 0).byteV)) false 0) []).2 0 0 0 0 0 []) (((((Cur.mk b false 0).bytesC 1).need (mayA ((Cur.mk b false 0).byteV)) 5).bytesC ((Cur.mk b false 0).byteV)).need (((recsR askO (Cur.mk ((((Cur.mk b false 0).bytesC 1).need (mayA ((Cur.mk b false 0).byteV)) 5).bytesR ((Cur.mk b false 0).byteV)) false 0).l.length 0 (Cur.mk ((((Cur.mk b false 0).bytesC 1).need (mayA ((Cur.mk b false 0).byteV)) 5).bytesR ((Cur.mk b false 0).byteV)) false 0) []).1).e == 0) (withinE ((recsR askO (Cur.mk ((((Cur.mk b false 0).bytesC 1).need (mayA ((Cur.mk b false 0).byteV)) 5).bytesR ((Cur.mk b false 0).byteV)) false 0).l.length 0 (Cur.mk ((((Cur.mk b false 0).bytesC 1).need (mayA ((Cur.mk b false 0).byteV)) 5).bytesR ((Cur.mk b false 0).byteV)) false 0) []).1).e)) := by
   unfold parseOf filesForm filesR flR flB fl1
   (try simp only [q253, bs, if_true, if_false, decide_true, decide_false, eq_self, true_or, or_true, or_false, false_or, if_true, if_false, i00, i01, i10, i11, reduceIte, i2020, i2120, i2121])
   all_goals rfl
 rw [hs]
 exact finish_ok q253p ⟨_, _, _, _, _, rfl, RdG.nil .., RdG.nil .., RdG.nil .., (r353).rd, RdG.nil .., ⟨(b8 (x := 20) (by omega)), (b8 (x := 0) (by omega)), (b16 (x := 0) (by omega)), (b16 (x := 0) (by omega)), (b16 (x := 0) (by omega)), (b16 (x := 0) (by omega)), (b16 (x := 0) (by omega)), (b16 (x := 0) (by omega)), (b16 (x := 0) (by omega)), (b16 (x := 0) (by omega)), (b16 (x := 0) (by omega)), (b16 (x := 0) (by omega)), (b8 (x := 0) (by omega)), (b8 (x := 0) (by omega)), (b8 (x := 0) (by omega)), (b8 (x := 0) (by omega)), (b8 (x := 0) (by omega))⟩⟩ U344
set_option maxRecDepth 100000 in
set_option maxHeartbeats 4000000 in
theorem files_p20_1 {m : Bool} {A : Option Addr} {cp : Nat} {b : List Int} {w : World} {dir : Int} (hd : dir = 0 ∨ dir = 1) (hsl : RdB m w (.slice A b.length cp) b) (hb : b.length ≤ 1048576) :
    Calls Try.prog 43 #[.int .i64 1, .int .u8 20, .slice A b.length cp] w (PMsg (parseOf filesForm 1 20 b) w) := by
 have hln : (b.length : Int) ≤ 1048576 := by omega
 have e01 : ((dir != 0) && (dir != 1)) = false := by rcases hd with rfl | rfl <;> rfl
 refine enm 77 Try.func43 rfl <| sg <| L0 <| Oal mZ fun g10 w11 hg12 B13 hu14 => Pl 1 <| nt <| sq <| sg <| Pl 6 <| nt <| c0 <| ?_
 refine skn <| sg <| Pl 2 <| L0 <| Oc (args := #[.int .i64 1, .int .u8 20]) <| e3 rules_T fun gs16 w15 hg17 hB18 hu19 => Pl 3 <| L0 <| Oal #[.nilFunc, .nilFunc] fun g20 w21 hg22 B23 hu24 => L0 <| Osw B23 #[.func (.func 101) #[] #[], .func (.func 102) #[] #[]] fun w25 B26 hu27 => Pl 1 <| nt <| sq <| sq <| ?_
 refine go <| Pl 2 <| nt <| c0 <| skn <| sg <| Pl 1 <| ?_
 have U28 := ut0 hu14 hu19
 have U29 := ut0 U28 hu24
 have U30 := u1 U29 hu27 (ni U28.size hg22)
 have r31 := RdB.old hsl U30
 refine L0 <| Oc <| e3 (new_any r31 (by omega)) fun g33 w32 hg34 hc35 hu36 => Pl 1 <| ng <| Pl 1 <| L0 <| Oc <| m3 (byte_any hc35) fun w37 hc38 hu39 hr40 => L0 <| Oi ((Cur.mk b false 0).byteV) <| Pl 1 <| ng <| ?_
 refine Pl 2 <| ?_
 have U41 := u1 hu36 hu39 (nr hg34)
 have r42 := ub U41 B26
 refine L0 <| Olb r42 0 <| Pl 1 <| L0 <| Ocv #[] #[] (args := #[.int .i64 ((Cur.mk b false 0).byteV)]) <| m1 (frule3_any (n := (Cur.mk b false 0).byteV) (by omega)) fun w43 hu44 => ?_
 have r45 := CurAt.old hc38 hu44
 refine L0 <| Oc <| m2 (need_any ((mayT ((Cur.mk b false 0).byteV))) 5 r45) fun w46 hc47 hu48 => ?_
 refine ab hc47 fun x49 ex50 hc51 => ?_
 refine ng <| Pl 2 <| L0 <| Oc <| sr3 (bytes_any (n := (Cur.mk b false 0).byteV) hc51) fun A61 cp62 w52 rd65 hl63 hm64 hc55 hu56 => ?_
 have hlb57 := Nat.le_trans (Cur.bytesR_le x49 ((Cur.mk b false 0).byteV)) (CurAt.len hc51)
 refine ab hc55 fun x58 ex59 hc60 => ?_
 refine L0 <| Oc <| e3 (new_any rd65 (by omega)) fun g67 w66 hg68 hc69 hu70 => Pl 1 <| ng <| Pl 2 <| L0 <| Oal mZ fun g71 w72 hg73 B74 hu75 => L0 <| Osw B74 (mC 20) fun w76 B77 hu78 => nt <| sq <| sg <| ?_
 refine Pl 2 <| ?_
 have U79 := u1 (Upd.mono (S' := [g33]) hu44 all0) hu48 im
 have U80 := u1 U79 hu56 im
 have U81 := ut0 U80 hu70
 have U82 := ut0 U81 hu75
 have U83 := u1 U82 hu78 (ni U81.size hg73)
 have ne84 := nb (blk_lt B23) hu27.size hg34
 have r85 := ub1 U83 ne84 r42
 refine L0 <| Olb r85 1 <| L0 <| Oc <| ee6 (full_any (gb := g67) (f := .func 102) (x := #[]) (y := #[])) fun b87 b88 w86 hg89 hg90 hn91 hB92 hB93 hu94 => nt <| bk <| ?_
 refine grange (f := 105) #[.pointer (some ⟨b87, 0, none⟩), .pointer (some ⟨b88, 0, none⟩)] fun a ha => ?_
 intro fn95 D96 l97 w98 hg99 hg100 hn101 hB102 hB103 hu104
 have ne105 := nb (blk_lt hB18) (le (le (le (le (le (le hu24.size hu27.size) hu36.size) hu39.size) hu44.size) hu48.size) hu56.size) hg68
 have ne106 := nb (CurAt.lt hc69) lr hg73
 have ne107 := nb (CurAt.lt hc69) (le (le hu75.size hu78.size) hu94.size) hg100
 have ne108 := nb (blk_lt hB18) (le (le (le (le (le (le (le hu24.size hu27.size) hu36.size) hu39.size) hu44.size) hu48.size) hu56.size) hu70.size) hg73
 have ne109 := nb (blk_lt hB18) (le (le (le (le (le (le (le (le (le (le hu24.size hu27.size) hu36.size) hu39.size) hu44.size) hu48.size) hu56.size) hu70.size) hu75.size) hu78.size) hu94.size) hg100
 have ne110 := nb (blk_lt B74) (le hu78.size hu94.size) hg100
 have ne111 := nb (CurAt.lt hc69) (le hu75.size hu78.size) hg89
 have ne112 := nb (blk_lt hB18) (le (le (le (le (le (le (le (le (le hu24.size hu27.size) hu36.size) hu39.size) hu44.size) hu48.size) hu56.size) hu70.size) hu75.size) hu78.size) hg89
 have ne113 := nb (blk_lt B74) hu78.size hg89
 have ne114 := nb (blk_lt hB92) lr hg100
 have ne115 := nb (CurAt.lt hc69) (le hu75.size hu78.size) hg90
 have ne116 := nb (blk_lt hB18) (le (le (le (le (le (le (le (le (le hu24.size hu27.size) hu36.size) hu39.size) hu44.size) hu48.size) hu56.size) hu70.size) hu75.size) hu78.size) hg90
 have ne117 := nb (blk_lt B74) hu78.size hg90
 have ne118 := nb (blk_lt hB93) lr hg100
 have U119 := u1 hu75 hu78 (nr hg73)
 have U120 := ut0 U119 hu94
 have U121 := ut0 U120 hu104
 have r122 := CurAt.old hc69 U121
 have U123 := u1 hu24 hu27 (nr hg22)
 have U124 := ut0 U123 hu36
 have U125 := u1 U124 hu39 (ni U123.size hg34)
 have U126 := ut0 U125 hu44
 have U127 := u1 U126 hu48 (ni U123.size hg34)
 have U128 := u1 U127 hu56 (ni U123.size hg34)
 have U129 := ut0 U128 hu70
 have U130 := ut0 U129 hu75
 have U131 := u1 U130 hu78 (ni U129.size hg73)
 have U132 := ut0 U131 hu94
 have U133 := ut0 U132 hu104
 have r134 := ub U133 hB18
 have U135 := ut0 hu94 hu104
 have r136 := ub U135 B77
 have r137 := ub hu104 hB92
 have r138 := ub hu104 hB93
 refine (full_T (c := 20) r122 r134 r136 hB103 r137 r138 (Ne.symm ne105) ne106 ne107 ne108 ne109 ne110 (Ne.symm ne111) (Ne.symm ne112) (Ne.symm ne113) ne114 (Ne.symm ne115) (Ne.symm ne116) (Ne.symm ne117) ne118 ?_).mono ?_
 intro W C s L Ar cr x Ax cx hJ hrd hx1 hx2 hx3 hL
 simp only [B16] at hx1 hx2 hx3
 have hm2 : W.heap[g71]? = some (.cells #[.int .u8 20, .int .u8 0, .int .u16 0, .int .u16 0, .int .u16 0, .int .u16 0, .int .u16 0, .int .u16 0, .int .u16 0, .int .u16 0, .int .u16 0, .int .u16 0, .slice none 0 0, .slice none 0 0, .slice none 0 0, .slice Ar L.length cr, .int .u8 0, .int .u8 0, .int .u8 0, .int .u8 0, .int .u8 0, .slice none 0 0] 29 (0, 0)) := hJ.hm
 refine round_at hJ.hl ?_
 refine gri ha 53 <| fgr <| R0f <| Oal #[.int .u16 0, .int .u16 0, .int .u16 0, .slice none 0 0] fun g139 w140 hg141 B142 hu143 => R0f <| Osw B142 #[.int .u16 x.file, .int .u16 x.record, .int .u16 x.count, .slice Ax x.words.length cx] fun w144 B145 hu146 => fnl <| ?_
 have U150 := u1 hu143 hu146 (nr hg141)
 have r151 := ub U150 hJ.hl
 refine gr1 r151 (by trivial) fun w147 hB148 hu149 => fbk <| fgr <| Rpf <| ?_
 have U152 := u1 (Upd.mono (S' := [l97]) U150 all0) hu149 im
 have r153 := ub1 U152 ne110 hm2
 refine R0f <| Olb r153 15 <| ?_
 have ne154 := nb (blk_lt hB103) hJ.u.size hg141
 have r155 := ub1 hu149 (Ne.symm ne154) B145
 refine R0f <| Olw r155 <| R0f <| Olt (m := 1) (e := 57) #[.int .u16 x.file, .int .u16 x.record, .int .u16 x.count, .slice Ax x.words.length cx] fun g156 w157 hg158 B159 hu160 => ?_
 have U161 := ut0 U152 hu160
 have r162 := RdW.updl hrd U161 hJ.hl rfl
 have ol163 := lit1 (R := recR true) (x := (Rec.mk x.file x.record x.count x.words)) B159 rfl ⟨_, rfl, r162, b16 (by omega), b16 (by omega), b16 (by omega)⟩
 have r164 := own_stay hJ.ho U161 (fun x hx => (not_cons (fun e => (not_old (blk_lt hB103) lr hJ.ho) (e ▸ hx)) not0)) (recR.updl U161 hJ.hl rfl)
 refine R0f <| Oappg (xs := L) (ys := ([(Rec.mk x.file x.record x.count x.words)])) (.agg #[.int .u16 0, .int .u16 0, .int .u16 0, .slice none 0 0]) 4 32 r164 ol163 (by simp) recR.ones (fun w' hv => recR.upd16 hv (safe_app (ob_safe _ r164 (by decide)) safe0)) (by (try simp only [List.length_append, List.length_cons, List.length_nil, putW_length]); omega) (le (le (le (le hJ.u.size hu143.size) hu146.size) hu149.size) hu160.size) fun A165 cp166 w167 ho168 hu169 => Rpf <| ?_
 have U172 := ut (Upd.mono (S' := (ob Ar ++ [])) hu160 all0) hu169 (all_app (fun x hx => Or.inl (by simp [hx])) all0)
 have r173 := Upd.blk U172 (not_app (not_old (blk_lt r136) lr hJ.ho) not0) r153
 refine R0f <| Ost r173 15 (mG 20 0 0 0 0 0 0 0 0 0 0 0 nS nS nS (.slice A165 ((L ++ [(Rec.mk x.file x.record x.count x.words)]).length) cp166) 0 0 0 0 0 nS) fun w174 B175 hu176 => fnl <| bn <| ?_
 have U180 := u1 (Upd.mono (S' := (ob Ar ++ (g71 :: []))) U172 (all_app (fun x hx => Or.inl (by simp [hx])) all0)) hu176 im
 have r181 := Upd.blk U180 (not_app (not_old (blk_lt hB103) lr hJ.ho) (not_cons (Ne.symm ne110) not0)) hB148
 refine gr2 r181 fun w177 hB178 hu179 => ?_
 have U182 := ut (Upd.mono (S' := [g67, gs16, g71, l97]) (Upd.refl [] _) all0) hJ.u (ac im (ac im (ac im (ac im all0))))
 have U183 := ut0 U182 hu143
 have U184 := u1 U183 hu146 (ni U182.size hg141)
 have U185 := u1 U184 hu149 im
 have U186 := ut0 U185 hu160
 have U187 := ut U186 hu169 (all_app (ob_new hJ.ho lr) all0)
 have U188 := u1 U187 hu176 im
 have U189 := u1 U188 hu179 im
 have U190 := ut (Upd.mono (S' := (l97 :: (ob Ar ++ []))) U161 (ac im all0)) hu169 (all_app (fun x hx => Or.inl (by simp [hx])) all0)
 have U191 := u1 (Upd.mono (S' := (l97 :: (ob Ar ++ (g71 :: [])))) U190 (ac im (all_app (fun x hx => Or.inl (by simp [hx])) all0))) hu176 im
 have U192 := u1 U191 hu179 im
 have r193 := CurAt.updl hJ.hC U161 (not_cons ne107 not0) hJ.hl rfl
 have r194 := CurAt.upd r193 hu169 (not_app (not_old (CurAt.lt r122) lr hJ.ho) not0) (safe_app (ob_safe _ r164 (by decide)) safe0)
 have r195 := CurAt.upd r194 hu176 (not_cons ne106 not0) (safe_cons (safe1 r173 (by decide)) safe0)
 have r196 := CurAt.updl r195 hu179 (not_cons ne107 not0) r181 rfl
 have r197 := Upd.blk U192 (not_cons ne109 (not_app (not_old (blk_lt r134) lr hJ.ho) (not_cons ne108 not0))) hJ.hS
 have r198 := ub1 hu179 ne110 B175
 have U199 := u1 (Upd.mono (S' := [g71, l97]) hu176 (ac im all0)) hu179 im
 have r200 := own_stay ho168 hu176 (fun x hx => (not_cons (fun e => (not_old (blk_lt r136) lr ho168) (e ▸ hx)) not0)) (recR.upd16 hu176 (safe_cons (safe1 r173 (by decide)) safe0))
 have r201 := own_stay r200 hu179 (fun x hx => (not_cons (fun e => (not_old (blk_lt hB103) lr ho168) (e ▸ hx)) not0)) (recR.updl hu179 r181 rfl)
 exact ⟨by trivial, (le (le (le (le (le (le hu143.size hu146.size) hu149.size) hu160.size) hu169.size) hu176.size) hu179.size), A165, cp166, ⟨U189, r196, r197, r198, r201, hB178⟩⟩
 rintro _ w202 ⟨rfl, s203, A204, cp205, hJ206⟩
 refine ⟨_, _, rfl, hJ206.hl, by simp [loopR], by trivial, fun w207 hu208 => ?_⟩
 refine ab hJ206.hC fun x209 ex210 hc211 => ?_
 have hm212 : w202.heap[g71]? = some (.cells #[.int .u8 20, .int .u8 0, .int .u16 0, .int .u16 0, .int .u16 0, .int .u16 0, .int .u16 0, .int .u16 0, .int .u16 0, .int .u16 0, .int .u16 0, .int .u16 0, .slice none 0 0, .slice none 0 0, .slice none 0 0, .slice A204 ((recsR toldO (Cur.mk (x49.bytesR ((Cur.mk b false 0).byteV)) false 0).l.length 0 (Cur.mk (x49.bytesR ((Cur.mk b false 0).byteV)) false 0) []).2.length) cp205, .int .u8 0, .int .u8 0, .int .u8 0, .int .u8 0, .int .u8 0, .slice none 0 0] 29 (0, 0)) := hJ206.hm
 refine bn <| tn <| sg <| Pl 2 <| ?_
 have r213 := CurAt.updl hc211 hu208 (not_cons ne107 not0) hJ206.hl rfl
 refine L0 <| Oc <| mq (err_any r213) <| ?_
 have hl214 := CurAt.len r213
 refine Pl 2 <| L0 <| Oc <| mq (err_any r213) <| ?_
 have hl215 := CurAt.len r213
 refine L0 <| Oc <| m1 (within_err (e := x209.e)) fun w216 hu217 => ?_
 have U218 := ut0 hu70 hu75
 have U219 := u1 U218 hu78 (ni hu70.size hg73)
 have U220 := ut0 U219 hu94
 have U221 := ut0 U220 hu104
 have U222 := ut (Upd.mono (S' := [gs16]) U221 all0) hJ206.u (ac (nr hg68) (ac im (ac (ni hu70.size hg73) (ac (ni U220.size hg100) all0))))
 have U223 := u1 U222 hu208 (ni U220.size hg100)
 have U224 := ut0 U223 hu217
 have ne225 := nb (blk_lt hB18) U123.size hg34
 have r226 := ub U128 hB18
 have r227 := CurAt.upd hc60 U224 (not_cons (Ne.symm ne225) not0) (safe_cons (safe1 r226 (by decide)) safe0)
 refine L0 <| Oc <| m2 (need_any ((x209.e == 0)) (withinE x209.e) r227) fun w228 hc229 hu230 => ?_
 refine ab hc229 fun x231 ex232 hc233 => ?_
 refine ng <| Pl 1 <| L0 <| Oc <| m2 (end_any hc233) fun w234 hc235 hu236 => nt <| sq <| sg <| Pl 1 <| L0 <| Oc <| mq (err_any hc235) <| ?_
 have hl237 := CurAt.len hc235
 refine Pl 1 <| ng <| Pl 2 <| nt <| ?_
 have U238 := ut0 U30 hu36
 have U239 := u1 U238 hu39 (ni U30.size hg34)
 have U240 := ut0 U239 hu44
 have U241 := u1 U240 hu48 (ni U30.size hg34)
 have U242 := u1 U241 hu56 (ni U30.size hg34)
 have U243 := ut0 U242 hu70
 have U244 := ut0 U243 hu75
 have U245 := u1 U244 hu78 (ni U243.size hg73)
 have U246 := ut0 U245 hu94
 have U247 := ut0 U246 hu104
 have U248 := ut U247 hJ206.u (ac (ni U242.size hg68) (ac (ni hu14.size hg17) (ac (ni U243.size hg73) (ac (ni U246.size hg100) all0))))
 have U249 := u1 U248 hu208 (ni U246.size hg100)
 have U250 := ut0 U249 hu217
 have U251 := u1 U250 hu230 (ni U30.size hg34)
 have U252 := u1 U251 hu236 (ni U30.size hg34)
 refine cb ((x231.endC.e != 0)) (fun q253 => ?_) (fun q253 => ?_)
 have q253p := ne_of_bnei q253
 refine sg <| Pl 2 <| ?_
 have U254 := ut0 hu19 hu24
 have U255 := u1 U254 hu27 (ni hu19.size hg22)
 have U256 := ut0 U255 hu36
 have U257 := u1 U256 hu39 (ni U255.size hg34)
 have U258 := ut0 U257 hu44
 have U259 := u1 U258 hu48 (ni U255.size hg34)
 have U260 := u1 U259 hu56 (ni U255.size hg34)
 have U261 := ut0 U260 hu70
 have U262 := ut0 U261 hu75
 have U263 := u1 U262 hu78 (ni U261.size hg73)
 have U264 := ut0 U263 hu94
 have U265 := ut0 U264 hu104
 have U266 := ut U265 hJ206.u (ac (ni U260.size hg68) (ac (nr hg17) (ac (ni U261.size hg73) (ac (ni U264.size hg100) all0))))
 have U267 := u1 U266 hu208 (ni U264.size hg100)
 have U268 := ut0 U267 hu217
 have U269 := u1 U268 hu230 (ni U255.size hg34)
 have U270 := u1 U269 hu236 (ni U255.size hg34)
 have r271 := ub U270 B13
 refine L0 <| Osw r271 mZ fun w272 B273 hu274 => Pl 1 <| nt <| rt <| tr <| ?_
 have U277 := u1 hJ206.u hu208 im
 have U278 := ut0 U277 hu217
 have U279 := u1 (Upd.mono (S' := [g67, gs16, g71, l97, g33]) U278 (ac im (ac im (ac im (ac im all0))))) hu230 im
 have U280 := u1 U279 hu236 im
 have U281 := u1 (Upd.mono (S' := [g67, gs16, g71, l97, g33, g10]) U280 (ac im (ac im (ac im (ac im (ac im all0)))))) hu274 im
 have ne282 := nb (blk_lt B13) U264.size hg99
 have ne283 := nb (CurAt.lt hc35) (le (le (le (le (le (le (le hu39.size hu44.size) hu48.size) hu56.size) hu70.size) hu75.size) hu78.size) hu94.size) hg99
 have ne284 := nb (blk_lt B74) (le hu78.size hu94.size) hg99
 have ne285 := nb (blk_lt hB18) U132.size hg99
 have ne286 := nb (CurAt.lt hc69) U120.size hg99
 have r287 := Upd.blk U281 (not_cons (Ne.symm ne286) (not_cons (Ne.symm ne285) (not_cons (Ne.symm ne284) (not_cons hn101 (not_cons (Ne.symm ne283) (not_cons (Ne.symm ne282) not0)))))) hB102
 refine rmd r287 fun w275 hu276 => ?_
 have r288 := ub1 hu276 ne282 B273
 refine rx r288 (.int .i64 x231.endC.e) <| ?_
 subst ex232 ex210 ex59 ex50
 have U289 := u1 U252 hu274 (nr hg12)
 have U290 := u1 U289 hu276 (ni U246.size hg99)
 have U291 := ut0 hu208 hu217
 have U292 := u1 (Upd.mono (S' := [l97, g33]) U291 (ac im all0)) hu230 im
 have U293 := u1 U292 hu236 im
 have U294 := u1 (Upd.mono (S' := [l97, g33, g10]) U293 (ac im (ac im all0))) hu274 im
 have U295 := u1 (Upd.mono (S' := [l97, g33, g10, D96]) U294 (ac im (ac im (ac im all0)))) hu276 im
 have r296 := ub U266 B13
 have r297 := CurAt.upd hc60 U222 (not_cons (Ne.symm ne225) not0) (safe_cons (safe1 r226 (by decide)) safe0)
 have r298 := own_stay hJ206.ho U291 (fun x hx => (not_cons (fun e => (not_old (blk_lt hB103) lr hJ206.ho) (e ▸ hx)) not0)) (recR.updl U291 hJ206.hl rfl)
 have r299 := own_stay r298 hu230 (fun x hx => (not_cons (fun e => (not_old (CurAt.lt hc35) (le (le (le (le (le (le (le (le hu39.size hu44.size) hu48.size) hu56.size) hu70.size) hu75.size) hu78.size) hu94.size) hu104.size) hJ206.ho) (e ▸ hx)) not0)) (recR.upd16 hu230 (safe_cons (CurAt.safe r227 _ (by decide)) safe0))
 have r300 := own_stay r299 hu236 (fun x hx => (not_cons (fun e => (not_old (CurAt.lt hc35) (le (le (le (le (le (le (le (le hu39.size hu44.size) hu48.size) hu56.size) hu70.size) hu75.size) hu78.size) hu94.size) hu104.size) hJ206.ho) (e ▸ hx)) not0)) (recR.upd16 hu236 (safe_cons (CurAt.safe hc233 _ (by decide)) safe0))
 have r301 := own_stay r300 hu274 (fun x hx => (not_cons (fun e => (not_old (blk_lt B13) U265.size hJ206.ho) (e ▸ hx)) not0)) (recR.upd16 hu274 (safe_cons (safe1 r271 (by decide)) safe0))
 have r302 := own_stay r301 hu276 (fun x hx => (not_cons (fun e => (not_old (blk_lt hB102) lr hJ206.ho) (e ▸ hx)) not0)) (recR.updl hu276 r287 rfl)
 have hs : parseOf filesForm 1 20 b = finish (Msg.mk 20 0 0 0 0 0 0 0 0 0 0 0 [] [] [] (recsR toldO (Cur.mk ((((Cur.mk b false 0).bytesC 1).need (mayT ((Cur.mk b false 0).byteV)) 5).bytesR ((Cur.mk b false 0).byteV)) false 0).l.length 0 (Cur.mk ((((Cur.mk b false 0).bytesC 1).need (mayT ((Cur.mk b false 0).byteV)) 5).bytesR ((Cur.mk b false 0).byteV)) false 0) []).2 0 0 0 0 0 []) (((((Cur.mk b false 0).bytesC 1).need (mayT ((Cur.mk b false 0).byteV)) 5).bytesC ((Cur.mk b false 0).byteV)).need (((recsR toldO (Cur.mk ((((Cur.mk b false 0).bytesC 1).need (mayT ((Cur.mk b false 0).byteV)) 5).bytesR ((Cur.mk b false 0).byteV)) false 0).l.length 0 (Cur.mk ((((Cur.mk b false 0).bytesC 1).need (mayT ((Cur.mk b false 0).byteV)) 5).bytesR ((Cur.mk b false 0).byteV)) false 0) []).1).e == 0) (withinE ((recsR toldO (Cur.mk ((((Cur.mk b false 0).bytesC 1).need (mayT ((Cur.mk b false 0).byteV)) 5).bytesR ((Cur.mk b false 0).byteV)) false 0).l.length 0 (Cur.mk ((((Cur.mk b false 0).bytesC 1).need (mayT ((Cur.mk b false 0).byteV)) 5).bytesR ((Cur.mk b false 0).byteV)) false 0) []).1).e)) := by
   unfold parseOf filesForm filesR flR flB fl1
   (try simp only [q253, bs, if_true, if_false, decide_true, decide_false, eq_self, true_or, or_true, or_false, false_or, if_true, if_false, i00, i01, i10, i11, reduceIte, i2020, i2120, i2121])
   all_goals rfl
 rw [hs]
 exact finish_bad q253p U290
 have q253p := eq_of_bnei q253
 refine skn <| sg <| ?_
 have U303 := ut0 hu208 hu217
 have U304 := u1 (Upd.mono (S' := [l97, g33]) U303 (ac im all0)) hu230 im
 have U305 := u1 U304 hu236 im
 have ne306 := nb (CurAt.lt hc35) (le (le (le (le hu39.size hu44.size) hu48.size) hu56.size) hu70.size) hg73
 have r307 := Upd.blk U305 (not_cons ne110 (not_cons (Ne.symm ne306) not0)) hm212
 refine L0 <| Olw r307 <| ?_
 have U308 := ut0 hu19 hu24
 have U309 := u1 U308 hu27 (ni hu19.size hg22)
 have U310 := ut0 U309 hu36
 have U311 := u1 U310 hu39 (ni U309.size hg34)
 have U312 := ut0 U311 hu44
 have U313 := u1 U312 hu48 (ni U309.size hg34)
 have U314 := u1 U313 hu56 (ni U309.size hg34)
 have U315 := ut0 U314 hu70
 have U316 := ut0 U315 hu75
 have U317 := u1 U316 hu78 (ni U315.size hg73)
 have U318 := ut0 U317 hu94
 have U319 := ut0 U318 hu104
 have U320 := ut U319 hJ206.u (ac (ni U314.size hg68) (ac (nr hg17) (ac (ni U315.size hg73) (ac (ni U318.size hg100) all0))))
 have U321 := u1 U320 hu208 (ni U318.size hg100)
 have U322 := ut0 U321 hu217
 have U323 := u1 U322 hu230 (ni U309.size hg34)
 have U324 := u1 U323 hu236 (ni U309.size hg34)
 have r325 := ub U324 B13
 refine L0 <| Osw r325 (mG 20 0 0 0 0 0 0 0 0 0 0 0 nS nS nS (.slice A204 ((recsR toldO (Cur.mk (x49.bytesR ((Cur.mk b false 0).byteV)) false 0).l.length 0 (Cur.mk (x49.bytesR ((Cur.mk b false 0).byteV)) false 0) []).2.length) cp205) 0 0 0 0 0 nS) fun w326 B327 hu328 => Pl 1 <| nt <| rt <| ?_
 have U331 := u1 hJ206.u hu208 im
 have U332 := ut0 U331 hu217
 have U333 := u1 (Upd.mono (S' := [g67, gs16, g71, l97, g33]) U332 (ac im (ac im (ac im (ac im all0))))) hu230 im
 have U334 := u1 U333 hu236 im
 have U335 := u1 (Upd.mono (S' := [g67, gs16, g71, l97, g33, g10]) U334 (ac im (ac im (ac im (ac im (ac im all0)))))) hu328 im
 have ne336 := nb (blk_lt B13) U318.size hg99
 have ne337 := nb (CurAt.lt hc35) (le (le (le (le (le (le (le hu39.size hu44.size) hu48.size) hu56.size) hu70.size) hu75.size) hu78.size) hu94.size) hg99
 have ne338 := nb (blk_lt B74) (le hu78.size hu94.size) hg99
 have ne339 := nb (blk_lt hB18) U132.size hg99
 have ne340 := nb (CurAt.lt hc69) U120.size hg99
 have r341 := Upd.blk U335 (not_cons (Ne.symm ne340) (not_cons (Ne.symm ne339) (not_cons (Ne.symm ne338) (not_cons hn101 (not_cons (Ne.symm ne337) (not_cons (Ne.symm ne336) not0)))))) hB102
 refine rmd r341 fun w329 hu330 => ?_
 have r342 := ub1 hu330 ne336 B327
 refine rx r342 (.int .i64 0) <| ?_
 subst ex232 ex210 ex59 ex50
 have U343 := u1 U252 hu328 (nr hg12)
 have U344 := u1 U343 hu330 (ni U246.size hg99)
 have U345 := u1 (Upd.mono (S' := [l97, g33, g10]) U305 (ac im (ac im all0))) hu328 im
 have U346 := u1 (Upd.mono (S' := [l97, g33, g10, D96]) U345 (ac im (ac im (ac im all0)))) hu330 im
 have r347 := ub U320 B13
 have r348 := CurAt.upd hc60 U222 (not_cons (Ne.symm ne225) not0) (safe_cons (safe1 r226 (by decide)) safe0)
 have r349 := own_stay hJ206.ho U303 (fun x hx => (not_cons (fun e => (not_old (blk_lt hB103) lr hJ206.ho) (e ▸ hx)) not0)) (recR.updl U303 hJ206.hl rfl)
 have r350 := own_stay r349 hu230 (fun x hx => (not_cons (fun e => (not_old (CurAt.lt hc35) (le (le (le (le (le (le (le (le hu39.size hu44.size) hu48.size) hu56.size) hu70.size) hu75.size) hu78.size) hu94.size) hu104.size) hJ206.ho) (e ▸ hx)) not0)) (recR.upd16 hu230 (safe_cons (CurAt.safe r227 _ (by decide)) safe0))
 have r351 := own_stay r350 hu236 (fun x hx => (not_cons (fun e => (not_old (CurAt.lt hc35) (le (le (le (le (le (le (le (le hu39.size hu44.size) hu48.size) hu56.size) hu70.size) hu75.size) hu78.size) hu94.size) hu104.size) hJ206.ho) (e ▸ hx)) not0)) (recR.upd16 hu236 (safe_cons (CurAt.safe hc233 _ (by decide)) safe0))
 have r352 := own_stay r351 hu328 (fun x hx => (not_cons (fun e => (not_old (blk_lt B13) U319.size hJ206.ho) (e ▸ hx)) not0)) (recR.upd16 hu328 (safe_cons (safe1 r325 (by decide)) safe0))
 have r353 := own_stay r352 hu330 (fun x hx => (not_cons (fun e => (not_old (blk_lt hB102) lr hJ206.ho) (e ▸ hx)) not0)) (recR.updl hu330 r341 rfl)
 have hs : parseOf filesForm 1 20 b = finish (Msg.mk 20 0 0 0 0 0 0 0 0 0 0 0 [] [] [] (recsR toldO (Cur.mk ((((Cur.mk b false 0).bytesC 1).need (mayT ((Cur.mk b false 0).byteV)) 5).bytesR ((Cur.mk b false 0).byteV)) false 0).l.length 0 (Cur.mk ((((Cur.mk b false 0).bytesC 1).need (mayT ((Cur.mk b false 0).byteV)) 5).bytesR ((Cur.mk b false 0).byteV)) false 0) []).2 0 0 0 0 0 []) (((((Cur.mk b false 0).bytesC 1).need (mayT ((Cur.mk b false 0).byteV)) 5).bytesC ((Cur.mk b false 0).byteV)).need (((recsR toldO (Cur.mk ((((Cur.mk b false 0).bytesC 1).need (mayT ((Cur.mk b false 0).byteV)) 5).bytesR ((Cur.mk b false 0).byteV)) false 0).l.length 0 (Cur.mk ((((Cur.mk b false 0).bytesC 1).need (mayT ((Cur.mk b false 0).byteV)) 5).bytesR ((Cur.mk b false 0).byteV)) false 0) []).1).e == 0) (withinE ((recsR toldO (Cur.mk ((((Cur.mk b false 0).bytesC 1).need (mayT ((Cur.mk b false 0).byteV)) 5).bytesR ((Cur.mk b false 0).byteV)) false 0).l.length 0 (Cur.mk ((((Cur.mk b false 0).bytesC 1).need (mayT ((Cur.mk b false 0).byteV)) 5).bytesR ((Cur.mk b false 0).byteV)) false 0) []).1).e)) := by
   unfold parseOf filesForm filesR flR flB fl1
   (try simp only [q253, bs, if_true, if_false, decide_true, decide_false, eq_self, true_or, or_true, or_false, false_or, if_true, if_false, i00, i01, i10, i11, reduceIte, i2020, i2120, i2121])
   all_goals rfl
 rw [hs]
 exact finish_ok q253p ⟨_, _, _, _, _, rfl, RdG.nil .., RdG.nil .., RdG.nil .., (r353).rd, RdG.nil .., ⟨(b8 (x := 20) (by omega)), (b8 (x := 0) (by omega)), (b16 (x := 0) (by omega)), (b16 (x := 0) (by omega)), (b16 (x := 0) (by omega)), (b16 (x := 0) (by omega)), (b16 (x := 0) (by omega)), (b16 (x := 0) (by omega)), (b16 (x := 0) (by omega)), (b16 (x := 0) (by omega)), (b16 (x := 0) (by omega)), (b16 (x := 0) (by omega)), (b8 (x := 0) (by omega)), (b8 (x := 0) (by omega)), (b8 (x := 0) (by omega)), (b8 (x := 0) (by omega)), (b8 (x := 0) (by omega))⟩⟩ U344
set_option maxRecDepth 100000 in
set_option maxHeartbeats 4000000 in
theorem files_p21 {m : Bool} {A : Option Addr} {cp : Nat} {b : List Int} {w : World} {dir : Int} (hd : dir = 0 ∨ dir = 1) (hsl : RdB m w (.slice A b.length cp) b) (hb : b.length ≤ 1048576) :
    Calls Try.prog 43 #[.int .i64 dir, .int .u8 21, .slice A b.length cp] w (PMsg (parseOf filesForm dir 21 b) w) := by
 have hln : (b.length : Int) ≤ 1048576 := by omega
 have e01 : ((dir != 0) && (dir != 1)) = false := by rcases hd with rfl | rfl <;> rfl
 refine enm 77 Try.func43 rfl <| sg <| L0 <| Oal mZ fun g10 w11 hg12 B13 hu14 => Pl 1 <| nt <| sq <| sg <| Pl 3 <| cu 3 [18] 21 (((dir != 0) && (dir != 1))) (fun K K16 => ?_) ?_
 refine bl 18 ((dir != 0)) (fun q15 => ?_) (fun q15 => ?_)
 have q15p := ne_of_bnei q15
 exact Pl 3 <| ce K16 (dir != 1) (by rw [q15]; rfl)
 have q15p := eq_of_bnei q15
 exact Pl 3 <| ce K16 false (by rw [q15]; rfl)
 refine nt <| cf e01 <| skn <| sg <| Pl 2 <| L0 <| Oc (args := #[.int .i64 dir, .int .u8 21]) <| e3 rules_W fun gs18 w17 hg19 hB20 hu21 => Pl 3 <| L0 <| Oal #[.nilFunc, .nilFunc] fun g22 w23 hg24 B25 hu26 => L0 <| Osw B25 #[.func (.func 103) #[] #[], .func (.func 104) #[] #[]] fun w27 B28 hu29 => Pl 1 <| nl <| ?_
 refine tn <| sq <| sg <| Pl 2 <| nt <| c0 <| skn <| sg <| Pl 1 <| ?_
 have U30 := ut0 hu14 hu21
 have U31 := ut0 U30 hu26
 have U32 := u1 U31 hu29 (ni U30.size hg24)
 have r33 := RdB.old hsl U32
 refine L0 <| Oc <| e3 (new_any r33 (by omega)) fun g35 w34 hg36 hc37 hu38 => Pl 1 <| ng <| Pl 1 <| L0 <| Oc <| m3 (byte_any hc37) fun w39 hc40 hu41 hr42 => L0 <| Oi ((Cur.mk b false 0).byteV) <| Pl 1 <| ng <| ?_
 refine Pl 2 <| ?_
 have U43 := u1 hu38 hu41 (nr hg36)
 have r44 := ub U43 B28
 refine L0 <| Olb r44 0 <| Pl 1 <| L0 <| Ocv #[] #[] (args := #[.int .i64 ((Cur.mk b false 0).byteV)]) <| m1 (frule4_any (n := (Cur.mk b false 0).byteV) (by omega)) fun w45 hu46 => ?_
 have r47 := CurAt.old hc40 hu46
 refine L0 <| Oc <| m2 (need_any ((mayW ((Cur.mk b false 0).byteV))) 5 r47) fun w48 hc49 hu50 => ?_
 refine ab hc49 fun x51 ex52 hc53 => ?_
 refine ng <| Pl 2 <| L0 <| Oc <| sr3 (bytes_any (n := (Cur.mk b false 0).byteV) hc53) fun A63 cp64 w54 rd67 hl65 hm66 hc57 hu58 => ?_
 have hlb59 := Nat.le_trans (Cur.bytesR_le x51 ((Cur.mk b false 0).byteV)) (CurAt.len hc53)
 refine ab hc57 fun x60 ex61 hc62 => ?_
 refine L0 <| Oc <| e3 (new_any rd67 (by omega)) fun g69 w68 hg70 hc71 hu72 => Pl 1 <| ng <| Pl 2 <| L0 <| Oal mZ fun g73 w74 hg75 B76 hu77 => L0 <| Osw B76 (mC 21) fun w78 B79 hu80 => nt <| sq <| sg <| ?_
 refine Pl 2 <| ?_
 have U81 := u1 (Upd.mono (S' := [g35]) hu46 all0) hu50 im
 have U82 := u1 U81 hu58 im
 have U83 := ut0 U82 hu72
 have U84 := ut0 U83 hu77
 have U85 := u1 U84 hu80 (ni U83.size hg75)
 have ne86 := nb (blk_lt B25) hu29.size hg36
 have r87 := ub1 U85 ne86 r44
 refine L0 <| Olb r87 1 <| L0 <| Oc <| ee6 (full_any (gb := g69) (f := .func 104) (x := #[]) (y := #[])) fun b89 b90 w88 hg91 hg92 hn93 hB94 hB95 hu96 => nt <| bk <| ?_
 refine grange (f := 105) #[.pointer (some ⟨b89, 0, none⟩), .pointer (some ⟨b90, 0, none⟩)] fun a ha => ?_
 intro fn97 D98 l99 w100 hg101 hg102 hn103 hB104 hB105 hu106
 have ne107 := nb (blk_lt hB20) (le (le (le (le (le (le hu26.size hu29.size) hu38.size) hu41.size) hu46.size) hu50.size) hu58.size) hg70
 have ne108 := nb (CurAt.lt hc71) lr hg75
 have ne109 := nb (CurAt.lt hc71) (le (le hu77.size hu80.size) hu96.size) hg102
 have ne110 := nb (blk_lt hB20) (le (le (le (le (le (le (le hu26.size hu29.size) hu38.size) hu41.size) hu46.size) hu50.size) hu58.size) hu72.size) hg75
 have ne111 := nb (blk_lt hB20) (le (le (le (le (le (le (le (le (le (le hu26.size hu29.size) hu38.size) hu41.size) hu46.size) hu50.size) hu58.size) hu72.size) hu77.size) hu80.size) hu96.size) hg102
 have ne112 := nb (blk_lt B76) (le hu80.size hu96.size) hg102
 have ne113 := nb (CurAt.lt hc71) (le hu77.size hu80.size) hg91
 have ne114 := nb (blk_lt hB20) (le (le (le (le (le (le (le (le (le hu26.size hu29.size) hu38.size) hu41.size) hu46.size) hu50.size) hu58.size) hu72.size) hu77.size) hu80.size) hg91
 have ne115 := nb (blk_lt B76) hu80.size hg91
 have ne116 := nb (blk_lt hB94) lr hg102
 have ne117 := nb (CurAt.lt hc71) (le hu77.size hu80.size) hg92
 have ne118 := nb (blk_lt hB20) (le (le (le (le (le (le (le (le (le hu26.size hu29.size) hu38.size) hu41.size) hu46.size) hu50.size) hu58.size) hu72.size) hu77.size) hu80.size) hg92
 have ne119 := nb (blk_lt B76) hu80.size hg92
 have ne120 := nb (blk_lt hB95) lr hg102
 have U121 := u1 hu77 hu80 (nr hg75)
 have U122 := ut0 U121 hu96
 have U123 := ut0 U122 hu106
 have r124 := CurAt.old hc71 U123
 have U125 := u1 hu26 hu29 (nr hg24)
 have U126 := ut0 U125 hu38
 have U127 := u1 U126 hu41 (ni U125.size hg36)
 have U128 := ut0 U127 hu46
 have U129 := u1 U128 hu50 (ni U125.size hg36)
 have U130 := u1 U129 hu58 (ni U125.size hg36)
 have U131 := ut0 U130 hu72
 have U132 := ut0 U131 hu77
 have U133 := u1 U132 hu80 (ni U131.size hg75)
 have U134 := ut0 U133 hu96
 have U135 := ut0 U134 hu106
 have r136 := ub U135 hB20
 have U137 := ut0 hu96 hu106
 have r138 := ub U137 B79
 have r139 := ub hu106 hB94
 have r140 := ub hu106 hB95
 refine (full_W (c := 21) r124 r136 r138 hB105 r139 r140 (Ne.symm ne107) ne108 ne109 ne110 ne111 ne112 (Ne.symm ne113) (Ne.symm ne114) (Ne.symm ne115) ne116 (Ne.symm ne117) (Ne.symm ne118) (Ne.symm ne119) ne120 ?_).mono ?_
 intro W C s L Ar cr x Ax cx hJ hrd hx1 hx2 hx3 hL
 simp only [B16] at hx1 hx2 hx3
 have hm2 : W.heap[g73]? = some (.cells #[.int .u8 21, .int .u8 0, .int .u16 0, .int .u16 0, .int .u16 0, .int .u16 0, .int .u16 0, .int .u16 0, .int .u16 0, .int .u16 0, .int .u16 0, .int .u16 0, .slice none 0 0, .slice none 0 0, .slice none 0 0, .slice Ar L.length cr, .int .u8 0, .int .u8 0, .int .u8 0, .int .u8 0, .int .u8 0, .slice none 0 0] 29 (0, 0)) := hJ.hm
 refine round_at hJ.hl ?_
 refine gri ha 53 <| fgr <| R0f <| Oal #[.int .u16 0, .int .u16 0, .int .u16 0, .slice none 0 0] fun g141 w142 hg143 B144 hu145 => R0f <| Osw B144 #[.int .u16 x.file, .int .u16 x.record, .int .u16 x.count, .slice Ax x.words.length cx] fun w146 B147 hu148 => fnl <| ?_
 have U152 := u1 hu145 hu148 (nr hg143)
 have r153 := ub U152 hJ.hl
 refine gr1 r153 (by trivial) fun w149 hB150 hu151 => fbk <| fgr <| Rpf <| ?_
 have U154 := u1 (Upd.mono (S' := [l99]) U152 all0) hu151 im
 have r155 := ub1 U154 ne112 hm2
 refine R0f <| Olb r155 15 <| ?_
 have ne156 := nb (blk_lt hB105) hJ.u.size hg143
 have r157 := ub1 hu151 (Ne.symm ne156) B147
 refine R0f <| Olw r157 <| R0f <| Olt (m := 1) (e := 57) #[.int .u16 x.file, .int .u16 x.record, .int .u16 x.count, .slice Ax x.words.length cx] fun g158 w159 hg160 B161 hu162 => ?_
 have U163 := ut0 U154 hu162
 have r164 := RdW.updl hrd U163 hJ.hl rfl
 have ol165 := lit1 (R := recR true) (x := (Rec.mk x.file x.record x.count x.words)) B161 rfl ⟨_, rfl, r164, b16 (by omega), b16 (by omega), b16 (by omega)⟩
 have r166 := own_stay hJ.ho U163 (fun x hx => (not_cons (fun e => (not_old (blk_lt hB105) lr hJ.ho) (e ▸ hx)) not0)) (recR.updl U163 hJ.hl rfl)
 refine R0f <| Oappg (xs := L) (ys := ([(Rec.mk x.file x.record x.count x.words)])) (.agg #[.int .u16 0, .int .u16 0, .int .u16 0, .slice none 0 0]) 4 32 r166 ol165 (by simp) recR.ones (fun w' hv => recR.upd16 hv (safe_app (ob_safe _ r166 (by decide)) safe0)) (by (try simp only [List.length_append, List.length_cons, List.length_nil, putW_length]); omega) (le (le (le (le hJ.u.size hu145.size) hu148.size) hu151.size) hu162.size) fun A167 cp168 w169 ho170 hu171 => Rpf <| ?_
 have U174 := ut (Upd.mono (S' := (ob Ar ++ [])) hu162 all0) hu171 (all_app (fun x hx => Or.inl (by simp [hx])) all0)
 have r175 := Upd.blk U174 (not_app (not_old (blk_lt r138) lr hJ.ho) not0) r155
 refine R0f <| Ost r175 15 (mG 21 0 0 0 0 0 0 0 0 0 0 0 nS nS nS (.slice A167 ((L ++ [(Rec.mk x.file x.record x.count x.words)]).length) cp168) 0 0 0 0 0 nS) fun w176 B177 hu178 => fnl <| bn <| ?_
 have U182 := u1 (Upd.mono (S' := (ob Ar ++ (g73 :: []))) U174 (all_app (fun x hx => Or.inl (by simp [hx])) all0)) hu178 im
 have r183 := Upd.blk U182 (not_app (not_old (blk_lt hB105) lr hJ.ho) (not_cons (Ne.symm ne112) not0)) hB150
 refine gr2 r183 fun w179 hB180 hu181 => ?_
 have U184 := ut (Upd.mono (S' := [g69, gs18, g73, l99]) (Upd.refl [] _) all0) hJ.u (ac im (ac im (ac im (ac im all0))))
 have U185 := ut0 U184 hu145
 have U186 := u1 U185 hu148 (ni U184.size hg143)
 have U187 := u1 U186 hu151 im
 have U188 := ut0 U187 hu162
 have U189 := ut U188 hu171 (all_app (ob_new hJ.ho lr) all0)
 have U190 := u1 U189 hu178 im
 have U191 := u1 U190 hu181 im
 have U192 := ut (Upd.mono (S' := (l99 :: (ob Ar ++ []))) U163 (ac im all0)) hu171 (all_app (fun x hx => Or.inl (by simp [hx])) all0)
 have U193 := u1 (Upd.mono (S' := (l99 :: (ob Ar ++ (g73 :: [])))) U192 (ac im (all_app (fun x hx => Or.inl (by simp [hx])) all0))) hu178 im
 have U194 := u1 U193 hu181 im
 have r195 := CurAt.updl hJ.hC U163 (not_cons ne109 not0) hJ.hl rfl
 have r196 := CurAt.upd r195 hu171 (not_app (not_old (CurAt.lt r124) lr hJ.ho) not0) (safe_app (ob_safe _ r166 (by decide)) safe0)
 have r197 := CurAt.upd r196 hu178 (not_cons ne108 not0) (safe_cons (safe1 r175 (by decide)) safe0)
 have r198 := CurAt.updl r197 hu181 (not_cons ne109 not0) r183 rfl
 have r199 := Upd.blk U194 (not_cons ne111 (not_app (not_old (blk_lt r136) lr hJ.ho) (not_cons ne110 not0))) hJ.hS
 have r200 := ub1 hu181 ne112 B177
 have U201 := u1 (Upd.mono (S' := [g73, l99]) hu178 (ac im all0)) hu181 im
 have r202 := own_stay ho170 hu178 (fun x hx => (not_cons (fun e => (not_old (blk_lt r138) lr ho170) (e ▸ hx)) not0)) (recR.upd16 hu178 (safe_cons (safe1 r175 (by decide)) safe0))
 have r203 := own_stay r202 hu181 (fun x hx => (not_cons (fun e => (not_old (blk_lt hB105) lr ho170) (e ▸ hx)) not0)) (recR.updl hu181 r183 rfl)
 exact ⟨by trivial, (le (le (le (le (le (le hu145.size hu148.size) hu151.size) hu162.size) hu171.size) hu178.size) hu181.size), A167, cp168, ⟨U191, r198, r199, r200, r203, hB180⟩⟩
 rintro _ w204 ⟨rfl, s205, A206, cp207, hJ208⟩
 refine ⟨_, _, rfl, hJ208.hl, by simp [loopR], by trivial, fun w209 hu210 => ?_⟩
 refine ab hJ208.hC fun x211 ex212 hc213 => ?_
 have hm214 : w204.heap[g73]? = some (.cells #[.int .u8 21, .int .u8 0, .int .u16 0, .int .u16 0, .int .u16 0, .int .u16 0, .int .u16 0, .int .u16 0, .int .u16 0, .int .u16 0, .int .u16 0, .int .u16 0, .slice none 0 0, .slice none 0 0, .slice none 0 0, .slice A206 ((recsR wrtO (Cur.mk (x51.bytesR ((Cur.mk b false 0).byteV)) false 0).l.length 0 (Cur.mk (x51.bytesR ((Cur.mk b false 0).byteV)) false 0) []).2.length) cp207, .int .u8 0, .int .u8 0, .int .u8 0, .int .u8 0, .int .u8 0, .slice none 0 0] 29 (0, 0)) := hJ208.hm
 refine bn <| tn <| sg <| Pl 2 <| ?_
 have r215 := CurAt.updl hc213 hu210 (not_cons ne109 not0) hJ208.hl rfl
 refine L0 <| Oc <| mq (err_any r215) <| ?_
 have hl216 := CurAt.len r215
 refine Pl 2 <| L0 <| Oc <| mq (err_any r215) <| ?_
 have hl217 := CurAt.len r215
 refine L0 <| Oc <| m1 (within_err (e := x211.e)) fun w218 hu219 => ?_
 have U220 := ut0 hu72 hu77
 have U221 := u1 U220 hu80 (ni hu72.size hg75)
 have U222 := ut0 U221 hu96
 have U223 := ut0 U222 hu106
 have U224 := ut (Upd.mono (S' := [gs18]) U223 all0) hJ208.u (ac (nr hg70) (ac im (ac (ni hu72.size hg75) (ac (ni U222.size hg102) all0))))
 have U225 := u1 U224 hu210 (ni U222.size hg102)
 have U226 := ut0 U225 hu219
 have ne227 := nb (blk_lt hB20) U125.size hg36
 have r228 := ub U130 hB20
 have r229 := CurAt.upd hc62 U226 (not_cons (Ne.symm ne227) not0) (safe_cons (safe1 r228 (by decide)) safe0)
 refine L0 <| Oc <| m2 (need_any ((x211.e == 0)) (withinE x211.e) r229) fun w230 hc231 hu232 => ?_
 refine ab hc231 fun x233 ex234 hc235 => ?_
 refine ng <| Pl 1 <| L0 <| Oc <| m2 (end_any hc235) fun w236 hc237 hu238 => nt <| sq <| sg <| Pl 1 <| L0 <| Oc <| mq (err_any hc237) <| ?_
 have hl239 := CurAt.len hc237
 refine Pl 1 <| ng <| Pl 2 <| nt <| ?_
 have U240 := ut0 U32 hu38
 have U241 := u1 U240 hu41 (ni U32.size hg36)
 have U242 := ut0 U241 hu46
 have U243 := u1 U242 hu50 (ni U32.size hg36)
 have U244 := u1 U243 hu58 (ni U32.size hg36)
 have U245 := ut0 U244 hu72
 have U246 := ut0 U245 hu77
 have U247 := u1 U246 hu80 (ni U245.size hg75)
 have U248 := ut0 U247 hu96
 have U249 := ut0 U248 hu106
 have U250 := ut U249 hJ208.u (ac (ni U244.size hg70) (ac (ni hu14.size hg19) (ac (ni U245.size hg75) (ac (ni U248.size hg102) all0))))
 have U251 := u1 U250 hu210 (ni U248.size hg102)
 have U252 := ut0 U251 hu219
 have U253 := u1 U252 hu232 (ni U32.size hg36)
 have U254 := u1 U253 hu238 (ni U32.size hg36)
 refine cb ((x233.endC.e != 0)) (fun q255 => ?_) (fun q255 => ?_)
 have q255p := ne_of_bnei q255
 refine sg <| Pl 2 <| ?_
 have U256 := ut0 hu21 hu26
 have U257 := u1 U256 hu29 (ni hu21.size hg24)
 have U258 := ut0 U257 hu38
 have U259 := u1 U258 hu41 (ni U257.size hg36)
 have U260 := ut0 U259 hu46
 have U261 := u1 U260 hu50 (ni U257.size hg36)
 have U262 := u1 U261 hu58 (ni U257.size hg36)
 have U263 := ut0 U262 hu72
 have U264 := ut0 U263 hu77
 have U265 := u1 U264 hu80 (ni U263.size hg75)
 have U266 := ut0 U265 hu96
 have U267 := ut0 U266 hu106
 have U268 := ut U267 hJ208.u (ac (ni U262.size hg70) (ac (nr hg19) (ac (ni U263.size hg75) (ac (ni U266.size hg102) all0))))
 have U269 := u1 U268 hu210 (ni U266.size hg102)
 have U270 := ut0 U269 hu219
 have U271 := u1 U270 hu232 (ni U257.size hg36)
 have U272 := u1 U271 hu238 (ni U257.size hg36)
 have r273 := ub U272 B13
 refine L0 <| Osw r273 mZ fun w274 B275 hu276 => Pl 1 <| nt <| rt <| tr <| ?_
 have U279 := u1 hJ208.u hu210 im
 have U280 := ut0 U279 hu219
 have U281 := u1 (Upd.mono (S' := [g69, gs18, g73, l99, g35]) U280 (ac im (ac im (ac im (ac im all0))))) hu232 im
 have U282 := u1 U281 hu238 im
 have U283 := u1 (Upd.mono (S' := [g69, gs18, g73, l99, g35, g10]) U282 (ac im (ac im (ac im (ac im (ac im all0)))))) hu276 im
 have ne284 := nb (blk_lt B13) U266.size hg101
 have ne285 := nb (CurAt.lt hc37) (le (le (le (le (le (le (le hu41.size hu46.size) hu50.size) hu58.size) hu72.size) hu77.size) hu80.size) hu96.size) hg101
 have ne286 := nb (blk_lt B76) (le hu80.size hu96.size) hg101
 have ne287 := nb (blk_lt hB20) U134.size hg101
 have ne288 := nb (CurAt.lt hc71) U122.size hg101
 have r289 := Upd.blk U283 (not_cons (Ne.symm ne288) (not_cons (Ne.symm ne287) (not_cons (Ne.symm ne286) (not_cons hn103 (not_cons (Ne.symm ne285) (not_cons (Ne.symm ne284) not0)))))) hB104
 refine rmd r289 fun w277 hu278 => ?_
 have r290 := ub1 hu278 ne284 B275
 refine rx r290 (.int .i64 x233.endC.e) <| ?_
 subst ex234 ex212 ex61 ex52
 have U291 := u1 U254 hu276 (nr hg12)
 have U292 := u1 U291 hu278 (ni U248.size hg101)
 have U293 := ut0 hu210 hu219
 have U294 := u1 (Upd.mono (S' := [l99, g35]) U293 (ac im all0)) hu232 im
 have U295 := u1 U294 hu238 im
 have U296 := u1 (Upd.mono (S' := [l99, g35, g10]) U295 (ac im (ac im all0))) hu276 im
 have U297 := u1 (Upd.mono (S' := [l99, g35, g10, D98]) U296 (ac im (ac im (ac im all0)))) hu278 im
 have r298 := ub U268 B13
 have r299 := CurAt.upd hc62 U224 (not_cons (Ne.symm ne227) not0) (safe_cons (safe1 r228 (by decide)) safe0)
 have r300 := own_stay hJ208.ho U293 (fun x hx => (not_cons (fun e => (not_old (blk_lt hB105) lr hJ208.ho) (e ▸ hx)) not0)) (recR.updl U293 hJ208.hl rfl)
 have r301 := own_stay r300 hu232 (fun x hx => (not_cons (fun e => (not_old (CurAt.lt hc37) (le (le (le (le (le (le (le (le hu41.size hu46.size) hu50.size) hu58.size) hu72.size) hu77.size) hu80.size) hu96.size) hu106.size) hJ208.ho) (e ▸ hx)) not0)) (recR.upd16 hu232 (safe_cons (CurAt.safe r229 _ (by decide)) safe0))
 have r302 := own_stay r301 hu238 (fun x hx => (not_cons (fun e => (not_old (CurAt.lt hc37) (le (le (le (le (le (le (le (le hu41.size hu46.size) hu50.size) hu58.size) hu72.size) hu77.size) hu80.size) hu96.size) hu106.size) hJ208.ho) (e ▸ hx)) not0)) (recR.upd16 hu238 (safe_cons (CurAt.safe hc235 _ (by decide)) safe0))
 have r303 := own_stay r302 hu276 (fun x hx => (not_cons (fun e => (not_old (blk_lt B13) U267.size hJ208.ho) (e ▸ hx)) not0)) (recR.upd16 hu276 (safe_cons (safe1 r273 (by decide)) safe0))
 have r304 := own_stay r303 hu278 (fun x hx => (not_cons (fun e => (not_old (blk_lt hB104) lr hJ208.ho) (e ▸ hx)) not0)) (recR.updl hu278 r289 rfl)
 have hs : parseOf filesForm dir 21 b = finish (Msg.mk 21 0 0 0 0 0 0 0 0 0 0 0 [] [] [] (recsR wrtO (Cur.mk ((((Cur.mk b false 0).bytesC 1).need (mayW ((Cur.mk b false 0).byteV)) 5).bytesR ((Cur.mk b false 0).byteV)) false 0).l.length 0 (Cur.mk ((((Cur.mk b false 0).bytesC 1).need (mayW ((Cur.mk b false 0).byteV)) 5).bytesR ((Cur.mk b false 0).byteV)) false 0) []).2 0 0 0 0 0 []) (((((Cur.mk b false 0).bytesC 1).need (mayW ((Cur.mk b false 0).byteV)) 5).bytesC ((Cur.mk b false 0).byteV)).need (((recsR wrtO (Cur.mk ((((Cur.mk b false 0).bytesC 1).need (mayW ((Cur.mk b false 0).byteV)) 5).bytesR ((Cur.mk b false 0).byteV)) false 0).l.length 0 (Cur.mk ((((Cur.mk b false 0).bytesC 1).need (mayW ((Cur.mk b false 0).byteV)) 5).bytesR ((Cur.mk b false 0).byteV)) false 0) []).1).e == 0) (withinE ((recsR wrtO (Cur.mk ((((Cur.mk b false 0).bytesC 1).need (mayW ((Cur.mk b false 0).byteV)) 5).bytesR ((Cur.mk b false 0).byteV)) false 0).l.length 0 (Cur.mk ((((Cur.mk b false 0).bytesC 1).need (mayW ((Cur.mk b false 0).byteV)) 5).bytesR ((Cur.mk b false 0).byteV)) false 0) []).1).e)) := by
   unfold parseOf filesForm filesR flR flB fl1
   (try simp only [e01, q255, bs, if_true, if_false, decide_true, decide_false, eq_self, true_or, or_true, or_false, false_or, if_true, if_false, i00, i01, i10, i11, reduceIte, i2020, i2120, i2121, if_pos hd])
   all_goals rfl
 rw [hs]
 exact finish_bad q255p U292
 have q255p := eq_of_bnei q255
 refine skn <| sg <| ?_
 have U305 := ut0 hu210 hu219
 have U306 := u1 (Upd.mono (S' := [l99, g35]) U305 (ac im all0)) hu232 im
 have U307 := u1 U306 hu238 im
 have ne308 := nb (CurAt.lt hc37) (le (le (le (le hu41.size hu46.size) hu50.size) hu58.size) hu72.size) hg75
 have r309 := Upd.blk U307 (not_cons ne112 (not_cons (Ne.symm ne308) not0)) hm214
 refine L0 <| Olw r309 <| ?_
 have U310 := ut0 hu21 hu26
 have U311 := u1 U310 hu29 (ni hu21.size hg24)
 have U312 := ut0 U311 hu38
 have U313 := u1 U312 hu41 (ni U311.size hg36)
 have U314 := ut0 U313 hu46
 have U315 := u1 U314 hu50 (ni U311.size hg36)
 have U316 := u1 U315 hu58 (ni U311.size hg36)
 have U317 := ut0 U316 hu72
 have U318 := ut0 U317 hu77
 have U319 := u1 U318 hu80 (ni U317.size hg75)
 have U320 := ut0 U319 hu96
 have U321 := ut0 U320 hu106
 have U322 := ut U321 hJ208.u (ac (ni U316.size hg70) (ac (nr hg19) (ac (ni U317.size hg75) (ac (ni U320.size hg102) all0))))
 have U323 := u1 U322 hu210 (ni U320.size hg102)
 have U324 := ut0 U323 hu219
 have U325 := u1 U324 hu232 (ni U311.size hg36)
 have U326 := u1 U325 hu238 (ni U311.size hg36)
 have r327 := ub U326 B13
 refine L0 <| Osw r327 (mG 21 0 0 0 0 0 0 0 0 0 0 0 nS nS nS (.slice A206 ((recsR wrtO (Cur.mk (x51.bytesR ((Cur.mk b false 0).byteV)) false 0).l.length 0 (Cur.mk (x51.bytesR ((Cur.mk b false 0).byteV)) false 0) []).2.length) cp207) 0 0 0 0 0 nS) fun w328 B329 hu330 => Pl 1 <| nt <| rt <| ?_
 have U333 := u1 hJ208.u hu210 im
 have U334 := ut0 U333 hu219
 have U335 := u1 (Upd.mono (S' := [g69, gs18, g73, l99, g35]) U334 (ac im (ac im (ac im (ac im all0))))) hu232 im
 have U336 := u1 U335 hu238 im
 have U337 := u1 (Upd.mono (S' := [g69, gs18, g73, l99, g35, g10]) U336 (ac im (ac im (ac im (ac im (ac im all0)))))) hu330 im
 have ne338 := nb (blk_lt B13) U320.size hg101
 have ne339 := nb (CurAt.lt hc37) (le (le (le (le (le (le (le hu41.size hu46.size) hu50.size) hu58.size) hu72.size) hu77.size) hu80.size) hu96.size) hg101
 have ne340 := nb (blk_lt B76) (le hu80.size hu96.size) hg101
 have ne341 := nb (blk_lt hB20) U134.size hg101
 have ne342 := nb (CurAt.lt hc71) U122.size hg101
 have r343 := Upd.blk U337 (not_cons (Ne.symm ne342) (not_cons (Ne.symm ne341) (not_cons (Ne.symm ne340) (not_cons hn103 (not_cons (Ne.symm ne339) (not_cons (Ne.symm ne338) not0)))))) hB104
 refine rmd r343 fun w331 hu332 => ?_
 have r344 := ub1 hu332 ne338 B329
 refine rx r344 (.int .i64 0) <| ?_
 subst ex234 ex212 ex61 ex52
 have U345 := u1 U254 hu330 (nr hg12)
 have U346 := u1 U345 hu332 (ni U248.size hg101)
 have U347 := u1 (Upd.mono (S' := [l99, g35, g10]) U307 (ac im (ac im all0))) hu330 im
 have U348 := u1 (Upd.mono (S' := [l99, g35, g10, D98]) U347 (ac im (ac im (ac im all0)))) hu332 im
 have r349 := ub U322 B13
 have r350 := CurAt.upd hc62 U224 (not_cons (Ne.symm ne227) not0) (safe_cons (safe1 r228 (by decide)) safe0)
 have r351 := own_stay hJ208.ho U305 (fun x hx => (not_cons (fun e => (not_old (blk_lt hB105) lr hJ208.ho) (e ▸ hx)) not0)) (recR.updl U305 hJ208.hl rfl)
 have r352 := own_stay r351 hu232 (fun x hx => (not_cons (fun e => (not_old (CurAt.lt hc37) (le (le (le (le (le (le (le (le hu41.size hu46.size) hu50.size) hu58.size) hu72.size) hu77.size) hu80.size) hu96.size) hu106.size) hJ208.ho) (e ▸ hx)) not0)) (recR.upd16 hu232 (safe_cons (CurAt.safe r229 _ (by decide)) safe0))
 have r353 := own_stay r352 hu238 (fun x hx => (not_cons (fun e => (not_old (CurAt.lt hc37) (le (le (le (le (le (le (le (le hu41.size hu46.size) hu50.size) hu58.size) hu72.size) hu77.size) hu80.size) hu96.size) hu106.size) hJ208.ho) (e ▸ hx)) not0)) (recR.upd16 hu238 (safe_cons (CurAt.safe hc235 _ (by decide)) safe0))
 have r354 := own_stay r353 hu330 (fun x hx => (not_cons (fun e => (not_old (blk_lt B13) U321.size hJ208.ho) (e ▸ hx)) not0)) (recR.upd16 hu330 (safe_cons (safe1 r327 (by decide)) safe0))
 have r355 := own_stay r354 hu332 (fun x hx => (not_cons (fun e => (not_old (blk_lt hB104) lr hJ208.ho) (e ▸ hx)) not0)) (recR.updl hu332 r343 rfl)
 have hs : parseOf filesForm dir 21 b = finish (Msg.mk 21 0 0 0 0 0 0 0 0 0 0 0 [] [] [] (recsR wrtO (Cur.mk ((((Cur.mk b false 0).bytesC 1).need (mayW ((Cur.mk b false 0).byteV)) 5).bytesR ((Cur.mk b false 0).byteV)) false 0).l.length 0 (Cur.mk ((((Cur.mk b false 0).bytesC 1).need (mayW ((Cur.mk b false 0).byteV)) 5).bytesR ((Cur.mk b false 0).byteV)) false 0) []).2 0 0 0 0 0 []) (((((Cur.mk b false 0).bytesC 1).need (mayW ((Cur.mk b false 0).byteV)) 5).bytesC ((Cur.mk b false 0).byteV)).need (((recsR wrtO (Cur.mk ((((Cur.mk b false 0).bytesC 1).need (mayW ((Cur.mk b false 0).byteV)) 5).bytesR ((Cur.mk b false 0).byteV)) false 0).l.length 0 (Cur.mk ((((Cur.mk b false 0).bytesC 1).need (mayW ((Cur.mk b false 0).byteV)) 5).bytesR ((Cur.mk b false 0).byteV)) false 0) []).1).e == 0) (withinE ((recsR wrtO (Cur.mk ((((Cur.mk b false 0).bytesC 1).need (mayW ((Cur.mk b false 0).byteV)) 5).bytesR ((Cur.mk b false 0).byteV)) false 0).l.length 0 (Cur.mk ((((Cur.mk b false 0).bytesC 1).need (mayW ((Cur.mk b false 0).byteV)) 5).bytesR ((Cur.mk b false 0).byteV)) false 0) []).1).e)) := by
   unfold parseOf filesForm filesR flR flB fl1
   (try simp only [e01, q255, bs, if_true, if_false, decide_true, decide_false, eq_self, true_or, or_true, or_false, false_or, if_true, if_false, i00, i01, i10, i11, reduceIte, i2020, i2120, i2121, if_pos hd])
   all_goals rfl
 rw [hs]
 exact finish_ok q255p ⟨_, _, _, _, _, rfl, RdG.nil .., RdG.nil .., RdG.nil .., (r355).rd, RdG.nil .., ⟨(b8 (x := 21) (by omega)), (b8 (x := 0) (by omega)), (b16 (x := 0) (by omega)), (b16 (x := 0) (by omega)), (b16 (x := 0) (by omega)), (b16 (x := 0) (by omega)), (b16 (x := 0) (by omega)), (b16 (x := 0) (by omega)), (b16 (x := 0) (by omega)), (b16 (x := 0) (by omega)), (b16 (x := 0) (by omega)), (b16 (x := 0) (by omega)), (b8 (x := 0) (by omega)), (b8 (x := 0) (by omega)), (b8 (x := 0) (by omega)), (b8 (x := 0) (by omega)), (b8 (x := 0) (by omega))⟩⟩ U346
set_option maxRecDepth 100000 in
set_option maxHeartbeats 4000000 in
theorem files_pn0 {A : Option Addr} {cp : Nat} {b : List Int} {w : World} {c : Int} (n1 : (c == 20) = false) (n2 : (c == 21) = false) : Calls Try.prog 43 #[.int .i64 0, .int .u8 c, .slice A b.length cp] w (PMsg (parseOf filesForm 0 c b) w) := by
 refine enm 77 Try.func43 rfl <| sg <| L0 <| Oal mZ fun g10 w11 hg12 B13 hu14 => Pl 1 <| nt <| sq <| sg <| Pl 6 <| nt <| c0 <| ?_
 refine skn <| sg <| Pl 2 <| L0 <| Oc (args := #[.int .i64 0, .int .u8 c]) <| m1 (rules_no (dir := 0) (x := c) n1 n2) fun w15 hu16 => Pl 3 <| L0 <| Oal #[.nilFunc, .nilFunc] fun g17 w18 hg19 B20 hu21 => L0 <| Osw B20 #[.nilFunc, .nilFunc] fun w22 B23 hu24 => Pl 1 <| nt <| sq <| sq <| ?_
 refine go <| Pl 2 <| nt <| c1 <| sg <| Pl 1 <| ?_
 have U25 := ut0 hu16 hu21
 have U26 := u1 U25 hu24 (ni hu16.size hg19)
 have r27 := ub U26 B13
 refine L0 <| Osw r27 mZ fun w28 B29 hu30 => Pl 1 <| nt <| rt <| tr <| ry B29 (.int .i64 4) <| ?_
 have U33 := ut0 hu14 hu16
 have U34 := ut0 U33 hu21
 have U35 := u1 U34 hu24 (ni U33.size hg19)
 have U36 := u1 U35 hu30 (nr hg12)
 have hs : parseOf filesForm 0 c b = (Msg.zero, 4) := by
   unfold parseOf filesForm 
   (try simp only [bs, if_true, if_false, decide_true, decide_false, eq_self, true_or, or_true, or_false, false_or, if_true, if_false, i00, i01, i10, i11, reduceIte, n1, n2])
   all_goals rfl
 rw [hs]
 exact bad_res U36
set_option maxRecDepth 100000 in
set_option maxHeartbeats 4000000 in
theorem files_pn1 {A : Option Addr} {cp : Nat} {b : List Int} {w : World} {c : Int} (n1 : (c == 20) = false) (n2 : (c == 21) = false) : Calls Try.prog 43 #[.int .i64 1, .int .u8 c, .slice A b.length cp] w (PMsg (parseOf filesForm 1 c b) w) := by
 refine enm 77 Try.func43 rfl <| sg <| L0 <| Oal mZ fun g10 w11 hg12 B13 hu14 => Pl 1 <| nt <| sq <| sg <| Pl 6 <| nt <| c0 <| ?_
 refine skn <| sg <| Pl 2 <| L0 <| Oc (args := #[.int .i64 1, .int .u8 c]) <| m1 (rules_no (dir := 1) (x := c) n1 n2) fun w15 hu16 => Pl 3 <| L0 <| Oal #[.nilFunc, .nilFunc] fun g17 w18 hg19 B20 hu21 => L0 <| Osw B20 #[.nilFunc, .nilFunc] fun w22 B23 hu24 => Pl 1 <| nt <| sq <| sq <| ?_
 refine go <| Pl 2 <| nt <| c1 <| sg <| Pl 1 <| ?_
 have U25 := ut0 hu16 hu21
 have U26 := u1 U25 hu24 (ni hu16.size hg19)
 have r27 := ub U26 B13
 refine L0 <| Osw r27 mZ fun w28 B29 hu30 => Pl 1 <| nt <| rt <| tr <| ry B29 (.int .i64 4) <| ?_
 have U33 := ut0 hu14 hu16
 have U34 := ut0 U33 hu21
 have U35 := u1 U34 hu24 (ni U33.size hg19)
 have U36 := u1 U35 hu30 (nr hg12)
 have hs : parseOf filesForm 1 c b = (Msg.zero, 4) := by
   unfold parseOf filesForm 
   (try simp only [bs, if_true, if_false, decide_true, decide_false, eq_self, true_or, or_true, or_false, false_or, if_true, if_false, i00, i01, i10, i11, reduceIte, n1, n2])
   all_goals rfl
 rw [hs]
 exact bad_res U36
set_option maxRecDepth 100000 in
set_option maxHeartbeats 4000000 in
theorem files_pnx {A : Option Addr} {cp : Nat} {b : List Int} {w : World} {dir c : Int} (hd : ¬ (dir = 0 ∨ dir = 1)) : Calls Try.prog 43 #[.int .i64 dir, .int .u8 c, .slice A b.length cp] w (PMsg (parseOf filesForm dir c b) w) := by
 have e0 : (dir != 0) = true := by simp; omega
 have e1 : (dir != 1) = true := by simp; omega
 refine enm 77 Try.func43 rfl <| sg <| L0 <| Oal mZ fun g10 w11 hg12 B13 hu14 => Pl 1 <| nt <| sq <| sg <| Pl 3 <| sy 18 e0 <| Pl 3 <| nl <| ?_
 refine tn <| ct e1 <| sg <| Pl 1 <| L0 <| Osw B13 mZ fun w15 B16 hu17 => Pl 1 <| nt <| rt <| tr <| ry B16 (.int .i64 1) <| ?_
 have U20 := u1 hu14 hu17 (nr hg12)
 have hs : parseOf filesForm dir c b = (Msg.zero, 1) := by
   unfold parseOf filesForm 
   (try simp only [e0, e1, bs, if_true, if_false, decide_true, decide_false, eq_self, true_or, or_true, or_false, false_or, if_true, if_false, i00, i01, i10, i11, reduceIte, hd])
   all_goals rfl
 rw [hs]
 exact bad_res U20
theorem files_parse {m : Bool} {v : Value} {b : List Int} {w : World} {dir c : Int} (hc : B8 c) (h : RdB m w v b) (hb : b.length ≤ 1048576) :
    Calls Try.prog 43 #[.int .i64 dir, .int .u8 c, v] w (PMsg (parseOf filesForm dir c b) w) := by
  obtain ⟨A, cp, rfl, _, _⟩ := h.shape
  by_cases h0 : dir = 0
  · subst h0
    by_cases h20 : c = 20
    · subst h20; exact files_p20_0 (Or.inl (rfl : (0 : Int) = 0)) h hb
    by_cases h21 : c = 21
    · subst h21; exact files_p21 (Or.inl rfl) h hb
    exact files_pn0 (by simpa using h20) (by simpa using h21)
  by_cases h1 : dir = 1
  · subst h1
    by_cases h20 : c = 20
    · subst h20; exact files_p20_1 (Or.inl (rfl : (0 : Int) = 0)) h hb
    by_cases h21 : c = 21
    · subst h21; exact files_p21 (Or.inr rfl) h hb
    exact files_pn1 (by simpa using h20) (by simpa using h21)
  exact files_pnx (by omega)
def objsR : Nat → Cur → List Obj → Cur × List Obj
  | 0, C, L => (C, L)
  | n + 1, C, L => objsR n (((C.bytesC 1).bytesC 1).bytesC (C.bytesC 1).byteV) (L ++ [⟨C.byteV, ((C.bytesC 1).bytesC 1).bytesR (C.bytesC 1).byteV⟩])
def mei1 (C : Cur) : Cur := (C.bytesC 1).need (levelB C.byteV) 6
def mei2 (C : Cur) : Cur := ((mei1 C).bytesC 1).need ((mei1 C).byteV == 0 || (mei1 C).byteV == 255) 6
def mei3 (C : Cur) : Cur := ((mei2 C).bytesC 1).need ((mei1 C).byteV != 0 || (mei2 C).byteV == 0) 6
def mei4 (kd : Int) (C : Cur) : Cur := ((mei3 C).bytesC 1).need (kd != 4 || (mei3 C).byteV == 1) 5
def meiObjs (kd : Int) (C : Cur) : Cur × List Obj := objsR (mei3 C).byteV.toNat (mei4 kd C) []
set_option maxRecDepth 100000 in
set_option maxHeartbeats 4000000 in
theorem meians_any {g gm : Nat} {c me kd : Int} {C0 : Cur} {w : World} (hcode : B8 c) (hme : B8 me) (hkd : B8 kd) (hC : CurAt w g C0) (hm : w.heap[gm]? = some (.cells #[.int .u8 c, .int .u8 0, .int .u16 0, .int .u16 0, .int .u16 0, .int .u16 0, .int .u16 0, .int .u16 0, .int .u16 0, .int .u16 0, .int .u16 0, .int .u16 0, .slice none 0 0, .slice none 0 0, .slice none 0 0, .slice none 0 0, .int .u8 me, .int .u8 kd, .int .u8 0, .int .u8 0, .int .u8 0, .slice none 0 0] 29 (0, 0))) (hne : g ≠ gm) :
    Calls Try.prog 70 #[.pointer (some ⟨g, 0, none⟩), .pointer (some ⟨gm, 0, none⟩)] w (PFormG g gm (meiObjs kd C0).1 { Msg.zero with code := c, mei := me, kind := kd, level := C0.byteV, more := (mei1 C0).byteV, next := (mei2 C0).byteV, objects := (meiObjs kd C0).2 } w) := by
 obtain ⟨hcode1, hcode2⟩ := hcode
 obtain ⟨hme1, hme2⟩ := hme
 obtain ⟨hkd1, hkd2⟩ := hkd
 refine en 92 Try.func70 rfl <| sg <| Pl 2 <| L0 <| Oc <| m3 (byte_any hC) fun w10 hc11 hu12 hr13 => Pl 2 <| ?_
 have r14 := ub1 hu12 (Ne.symm hne) hm
 refine L0 <| Ost r14 18 (mG c 0 0 0 0 0 0 0 0 0 0 0 nS nS nS nS me kd C0.byteV 0 0 nS) fun w15 B16 hu17 => ng <| Pl 4 <| L0 <| Olb B16 18 <| L0 <| Oc <| m1 (level_any (x := C0.byteV) (w := _)) fun w18 hu19 => ?_
 have U20 := ut0 hu17 hu19
 have r21 := CurAt.upd hc11 U20 (not_cons hne not0) (safe_cons (safe1 r14 (by decide)) safe0)
 refine L0 <| Oc <| m2 (need_any ((levelB C0.byteV)) 6 r21) fun w22 hc23 hu24 => ?_
 refine ab hc23 fun x25 ex26 hc27 => ?_
 refine ng <| Pl 2 <| L0 <| Oc <| m3 (byte_any hc27) fun w28 hc29 hu30 hr31 => Pl 2 <| ?_
 have U32 := u1 (Upd.mono (S' := [g]) hu19 all0) hu24 im
 have U33 := u1 U32 hu30 im
 have r34 := ub1 U33 (Ne.symm hne) B16
 refine L0 <| Ost r34 19 (mG c 0 0 0 0 0 0 0 0 0 0 0 nS nS nS nS me kd C0.byteV x25.byteV 0 nS) fun w35 B36 hu37 => ng <| Pl 4 <| L0 <| Olb B36 19 <| Pl 2 <| cu 6 [29] 35 (((x25.byteV == 0) || (x25.byteV == 255))) (fun K K39 => ?_) ?_
 refine bl 29 ((x25.byteV == 0)) (fun q38 => ?_) (fun q38 => ?_)
 have q38p := eq_of_beqi q38
 exact Pl 6 <| ce K39 true (by rw [q38]; rfl)
 have q38p := ne_of_beqi q38
 exact Pl 3 <| L1 <| Olb B36 19 <| Pl 2 <| ce K39 (x25.byteV == 255) (by rw [q38]; rfl)
 have r40 := CurAt.upd hc29 hu37 (not_cons hne not0) (safe_cons (safe1 r34 (by decide)) safe0)
 refine L0 <| Oc <| m2 (need_any (((x25.byteV == 0) || (x25.byteV == 255))) 6 r40) fun w41 hc42 hu43 => ?_
 refine ab hc42 fun x44 ex45 hc46 => ?_
 refine ng <| Pl 2 <| L0 <| Oc <| m3 (byte_any hc46) fun w47 hc48 hu49 hr50 => Pl 2 <| ?_
 have U51 := u1 hu43 hu49 im
 have r52 := ub1 U51 (Ne.symm hne) B36
 refine L0 <| Ost r52 20 (mG c 0 0 0 0 0 0 0 0 0 0 0 nS nS nS nS me kd C0.byteV x25.byteV x44.byteV nS) fun w53 B54 hu55 => ng <| Pl 4 <| L0 <| Olb B54 19 <| Pl 2 <| cu 6 [48] 54 (((x25.byteV != 0) || (x44.byteV == 0))) (fun K K57 => ?_) ?_
 refine bl 48 ((x25.byteV != 0)) (fun q56 => ?_) (fun q56 => ?_)
 have q56p := ne_of_bnei q56
 exact Pl 6 <| ce K57 true (by rw [q56]; rfl)
 have q56p := eq_of_bnei q56
 exact Pl 3 <| L1 <| Olb B54 20 <| Pl 2 <| ce K57 (x44.byteV == 0) (by rw [q56]; rfl)
 have r58 := CurAt.upd hc48 hu55 (not_cons hne not0) (safe_cons (safe1 r52 (by decide)) safe0)
 refine L0 <| Oc <| m2 (need_any (((x25.byteV != 0) || (x44.byteV == 0))) 6 r58) fun w59 hc60 hu61 => ?_
 refine ab hc60 fun x62 ex63 hc64 => ?_
 refine ng <| Pl 1 <| L0 <| Oc <| m3 (byte_any hc64) fun w65 hc66 hu67 hr68 => L0 <| Oi x62.byteV <| Pl 1 <| ng <| Pl 4 <| ?_
 have U69 := u1 hu61 hu67 im
 have r70 := ub1 U69 (Ne.symm hne) B54
 refine L0 <| Olb r70 17 <| Pl 2 <| cu 3 [65] 68 (((kd != 4) || (x62.byteV == 1))) (fun K K72 => ?_) ?_
 refine bl 65 ((kd != 4)) (fun q71 => ?_) (fun q71 => ?_)
 have q71p := ne_of_bnei q71
 exact Pl 3 <| ce K72 true (by rw [q71]; rfl)
 have q71p := eq_of_bnei q71
 exact Pl 3 <| ce K72 (x62.byteV == 1) (by rw [q71]; rfl)
 refine L0 <| Oc <| m2 (need_any (((kd != 4) || (x62.byteV == 1))) 5 hc66) fun w73 hc74 hu75 => ?_
 refine ab hc74 fun x76 ex77 hc78 => ?_
 refine ng <| Pl 2 <| nt <| bk <| ?_
 have r79 := ub1 hu75 (Ne.symm hne) r70
 refine glp (fun x => [(0, .pointer (some ⟨g, 0, none⟩)), (1, .pointer (some ⟨gm, 0, none⟩)), (70, .int .i64 x62.byteV), (71, .int .i64 ((x.1 : Nat) : Int))]) (fun (x : Nat × Cur × List Obj × Option Addr × Nat) w' => Upd [g, gm] w73 w' ∧ CurAt w' g x.2.1 ∧ w'.heap[gm]? = some (.cells #[.int .u8 c, .int .u8 0, .int .u16 0, .int .u16 0, .int .u16 0, .int .u16 0, .int .u16 0, .int .u16 0, .int .u16 0, .int .u16 0, .int .u16 0, .int .u16 0, .slice none 0 0, .slice none 0 0, .slice none 0 0, .slice none 0 0, .int .u8 me, .int .u8 kd, .int .u8 C0.byteV, .int .u8 x25.byteV, .int .u8 x44.byteV, .slice x.2.2.2.1 x.2.2.1.length x.2.2.2.2] 29 (0, 0)) ∧ OwnG w73.heap.size 59 2 (objR true) w' (.slice x.2.2.2.1 x.2.2.1.length x.2.2.2.2) x.2.2.1 ∧ (x.1 ≤ x62.byteV.toNat) ∧ (objsR (x62.byteV.toNat - x.1) x.2.1 x.2.2.1 = objsR x62.byteV.toNat x76 []) ∧ (x.2.2.1.length ≤ x.1)) (fun x => x62.byteV.toNat - x.1) (0, x76, [], none, 0) ⟨Upd.refl _ _, hc78, r79, OwnG.nil .., (by (try dsimp only); omega), (by (try dsimp only); rw [Nat.sub_zero]), (by (try dsimp only); (try simp only [List.length_append, List.length_cons, List.length_nil]); omega)⟩ ?_
 rintro ⟨k, C, L, A, cp⟩ w80 ⟨hu81, f82, f83, f84, p85, p86, p87⟩
 refine wkc [(0, .pointer (some ⟨g, 0, none⟩)), (1, .pointer (some ⟨gm, 0, none⟩)), (70, .int .i64 x62.byteV), (71, .int .i64 ((k : Nat) : Int))] ?_
 have f89 : CurAt w80 g C := f82
 have f90 : w80.heap[gm]? = some (.cells #[.int .u8 c, .int .u8 0, .int .u16 0, .int .u16 0, .int .u16 0, .int .u16 0, .int .u16 0, .int .u16 0, .int .u16 0, .int .u16 0, .int .u16 0, .int .u16 0, .slice none 0 0, .slice none 0 0, .slice none 0 0, .slice none 0 0, .int .u8 me, .int .u8 kd, .int .u8 C0.byteV, .int .u8 x25.byteV, .int .u8 x44.byteV, .slice A L.length cp] 29 (0, 0)) := f83
 have f91 : OwnG w73.heap.size 59 2 (objR true) w80 (.slice A L.length cp) L := f84
 have p92 : k ≤ x62.byteV.toNat := p85
 have p93 : objsR (x62.byteV.toNat - k) C L = objsR x62.byteV.toNat x76 [] := p86
 have p94 : L.length ≤ k := p87
 have hobj : objsR (x62.byteV.toNat - k) C L = objsR x62.byteV.toNat x76 [] := by assumption
 refine sg <| Pl 1 <| nt <| sq <| ?_
 have U95 := u1 (Upd.mono (S' := [g, gm]) hu12 (ac im all0)) hu17 im
 have U96 := ut0 U95 hu19
 have U97 := u1 U96 hu24 im
 have U98 := u1 U97 hu30 im
 have U99 := u1 U98 hu37 im
 have U100 := u1 U99 hu43 im
 have U101 := u1 U100 hu49 im
 have U102 := u1 U101 hu55 im
 have U103 := u1 U102 hu61 im
 have U104 := u1 U103 hu67 im
 have U105 := u1 U104 hu75 im
 have U106 := ut U105 hu81 (ac im (ac im all0))
 refine cb ((decide (((k : Nat) : Int) < x62.byteV))) (fun q107 => ?_) (fun q107 => ?_)
 have q107p := of_decide_eq_true q107
 refine skn <| sq <| bk <| sg <| Pl 1 <| L0 <| Oc <| m3 (byte_any f89) fun w108 hc109 hu110 hr111 => Pl 1 <| nt <| Rg 17 (fun w' => True) fun w301 hu302 => hld trivial fun hS303 => Rt 0 hS303 <| ?_
 refine Rt 1 hS303 <| Rt 2 hS303 <| Rt 3 hS303 <| Rt 5 hS303 <| Rt 6 hS303 <| Rt 7 hS303 <| ?_
 refine R2 4 8 rfl rfl ?_ ?_
 have U304 := ut0 hu110 hu302
 have r305 := ub1 U304 (Ne.symm hne) f90
 refine  Olb r305 21 <| hld trivial fun hS306 => ?_
 have r307 := CurAt.old hc109 hu302
 refine R0 8 rfl <| Oc <| m3 (byte_any r307) fun w308 hc309 hu310 hr311 => hld trivial fun hS312 => Rr 9 hS312 (.int .i64 ((C.bytesC 1).byteV)) (fun _ _ => run_eqo (.int .i64 (IntKind.i64.wrap ((C.bytesC 1).byteV))) (by kernel_rfl) (congrArg (Value.int .i64) (i64_in (by omega)))) <| R0 10 rfl <| Oc <| sr3 (bytes_any (n := (C.bytesC 1).byteV) hc309) fun A322 cp323 w313 rd326 hl324 hm325 hc316 hu317 => ?_
 have hlb318 := Nat.le_trans (Cur.bytesR_le ((C.bytesC 1).bytesC 1) ((C.bytesC 1).byteV)) (CurAt.len hc309)
 refine ab hc316 fun x319 ex320 hc321 => ?_
 refine hld trivial fun hS327 => Rt 11 hS327 <| R0 12 rfl <| Olt (m := 1) (e := 59) #[.int .u8 C.byteV, .slice A322 ((((C.bytesC 1).bytesC 1).bytesR ((C.bytesC 1).byteV)).length) cp323] fun g328 w329 hg330 B331 hu332 => ?_
 have r333 := RdB.upd' rd326 hu332 safe0
 have ol334 := lit1 (R := objR true) (x := (Obj.mk C.byteV (((C.bytesC 1).bytesC 1).bytesR ((C.bytesC 1).byteV)))) B331 rfl ⟨_, rfl, r333, b8 (by omega)⟩
 refine hld trivial fun hS335 => ?_
 have U336 := u1 U304 hu310 im
 have U337 := u1 U336 hu317 im
 have U338 := ut0 U337 hu332
 have r339 := own_stay f91 U338 (fun x hx => (not_cons (fun e => (not_old (CurAt.lt hC) U105.size f91) (e ▸ hx)) not0)) (objR.upd8 U338 (safe_cons (CurAt.safe f89 _ (by decide)) safe0))
 refine R0 13 rfl <| Oappg (xs := L) (ys := ([(Obj.mk C.byteV (((C.bytesC 1).bytesC 1).bytesR ((C.bytesC 1).byteV)))])) (.agg #[.int .u8 0, .slice none 0 0]) 2 32 r339 ol334 (by simp) objR.ones (fun w' hv => objR.upd8 hv (safe_app (ob_safe _ r339 (by decide)) safe0)) (by (try simp only [List.length_append, List.length_cons, List.length_nil, putW_length]); omega) (le (le (le (le (le hu81.size hu110.size) hu302.size) hu310.size) hu317.size) hu332.size) fun A340 cp341 w342 ho343 hu344 => hld trivial fun hS347 => Rt 14 hS347 <| Rt 15 hS347 <| ?_
 have U348 := u1 hu310 hu317 im
 have U349 := ut0 U348 hu332
 have U350 := ut (Upd.mono (S' := (g :: (ob A ++ []))) U349 (ac im all0)) hu344 (all_app (fun x hx => Or.inl (by simp [hx])) all0)
 have r351 := Upd.blk U350 (not_cons (Ne.symm hne) (not_app (not_old (blk_lt hm) U105.size f91) not0)) r305
 refine R0 16 rfl <| Ost r351 21 (mG c 0 0 0 0 0 0 0 0 0 0 0 nS nS nS nS me kd C0.byteV x25.byteV x44.byteV (.slice A340 ((L ++ [(Obj.mk C.byteV (((C.bytesC 1).bytesC 1).bytesR ((C.bytesC 1).byteV)))]).length) cp341)) fun w352 B353 hu354 => hld trivial fun hS355 => re <| bn <| tn <| go <| L0 <| Oi (((k : Nat) : Int) + 1) <| Pl 1 <| nl <| ?_
 subst ex320
 have U356 := u1 hu81 hu110 im
 have U357 := ut0 U356 hu302
 have U358 := u1 U357 hu310 im
 have U359 := u1 U358 hu317 im
 have U360 := ut0 U359 hu332
 have U361 := ut U360 hu344 (all_app (ob_new f91 lr) all0)
 have U362 := u1 U361 hu354 im
 have U363 := ut (Upd.mono (S' := (ob A ++ [])) hu332 all0) hu344 (all_app (fun x hx => Or.inl (by simp [hx])) all0)
 have U364 := u1 (Upd.mono (S' := (ob A ++ (gm :: []))) U363 (all_app (fun x hx => Or.inl (by simp [hx])) all0)) hu354 im
 have r365 := ub1 U348 (Ne.symm hne) r305
 have r366 := own_stay f91 U337 (fun x hx => (not_cons (fun e => (not_old (CurAt.lt hC) U105.size f91) (e ▸ hx)) not0)) (objR.upd8 U337 (safe_cons (CurAt.safe f89 _ (by decide)) safe0))
 have r367 := CurAt.upd hc321 U364 (not_app (not_old (CurAt.lt hC) U105.size f91) (not_cons hne not0)) (safe_app (ob_safe _ r366 (by decide)) (safe_cons (safe1 r365 (by decide)) safe0))
 have r368 := own_stay ho343 hu354 (fun x hx => (not_cons (fun e => (not_old (blk_lt hm) U105.size ho343) (e ▸ hx)) not0)) (objR.upd8 hu354 (safe_cons (safe1 r351 (by decide)) safe0))
 exact lpe ((k + 1), (((C.bytesC 1).bytesC 1).bytesC ((C.bytesC 1).byteV)), (L ++ [(Obj.mk C.byteV (((C.bytesC 1).bytesC 1).bytesR ((C.bytesC 1).byteV)))]), A340, cp341) ⟨U362, r367, B353, r368, (by (try dsimp only); omega), (by (try dsimp only); rw [← hobj, show x62.byteV.toNat - k = (x62.byteV.toNat - (k + 1)) + 1 from by omega]; rfl), (by (try dsimp only); (try simp only [List.length_append, List.length_cons, List.length_nil]); omega)⟩ (by omega)
 have r369 := CurAt.old hc109 hu302
 refine  Oc <| m3 (byte_any r369) fun w370 hc371 hu372 hr373 => hld trivial fun hS374 => Rr 9 hS374 (.int .i64 ((C.bytesC 1).byteV)) (fun _ _ => run_eqo (.int .i64 (IntKind.i64.wrap ((C.bytesC 1).byteV))) (by kernel_rfl) (congrArg (Value.int .i64) (i64_in (by omega)))) <| ?_
 refine R2 4 10 rfl rfl ?_ ?_
 have U375 := ut0 hu110 hu302
 have U376 := u1 U375 hu372 im
 have r377 := ub1 U376 (Ne.symm hne) f90
 refine  Olb r377 21 <| hld trivial fun hS378 => R0 10 rfl <| Oc <| sr3 (bytes_any (n := (C.bytesC 1).byteV) hc371) fun A388 cp389 w379 rd392 hl390 hm391 hc382 hu383 => ?_
 have hlb384 := Nat.le_trans (Cur.bytesR_le ((C.bytesC 1).bytesC 1) ((C.bytesC 1).byteV)) (CurAt.len hc371)
 refine ab hc382 fun x385 ex386 hc387 => ?_
 refine hld trivial fun hS393 => Rt 11 hS393 <| R0 12 rfl <| Olt (m := 1) (e := 59) #[.int .u8 C.byteV, .slice A388 ((((C.bytesC 1).bytesC 1).bytesR ((C.bytesC 1).byteV)).length) cp389] fun g394 w395 hg396 B397 hu398 => ?_
 have r399 := RdB.upd' rd392 hu398 safe0
 have ol400 := lit1 (R := objR true) (x := (Obj.mk C.byteV (((C.bytesC 1).bytesC 1).bytesR ((C.bytesC 1).byteV)))) B397 rfl ⟨_, rfl, r399, b8 (by omega)⟩
 refine hld trivial fun hS401 => ?_
 have U402 := u1 U376 hu383 im
 have U403 := ut0 U402 hu398
 have r404 := own_stay f91 U403 (fun x hx => (not_cons (fun e => (not_old (CurAt.lt hC) U105.size f91) (e ▸ hx)) not0)) (objR.upd8 U403 (safe_cons (CurAt.safe f89 _ (by decide)) safe0))
 refine R0 13 rfl <| Oappg (xs := L) (ys := ([(Obj.mk C.byteV (((C.bytesC 1).bytesC 1).bytesR ((C.bytesC 1).byteV)))])) (.agg #[.int .u8 0, .slice none 0 0]) 2 32 r404 ol400 (by simp) objR.ones (fun w' hv => objR.upd8 hv (safe_app (ob_safe _ r404 (by decide)) safe0)) (by (try simp only [List.length_append, List.length_cons, List.length_nil, putW_length]); omega) (le (le (le (le (le hu81.size hu110.size) hu302.size) hu372.size) hu383.size) hu398.size) fun A405 cp406 w407 ho408 hu409 => hld trivial fun hS412 => Rt 14 hS412 <| Rt 15 hS412 <| ?_
 have U413 := ut0 hu383 hu398
 have U414 := ut (Upd.mono (S' := (g :: (ob A ++ []))) U413 (ac im all0)) hu409 (all_app (fun x hx => Or.inl (by simp [hx])) all0)
 have r415 := Upd.blk U414 (not_cons (Ne.symm hne) (not_app (not_old (blk_lt hm) U105.size f91) not0)) r377
 refine R0 16 rfl <| Ost r415 21 (mG c 0 0 0 0 0 0 0 0 0 0 0 nS nS nS nS me kd C0.byteV x25.byteV x44.byteV (.slice A405 ((L ++ [(Obj.mk C.byteV (((C.bytesC 1).bytesC 1).bytesR ((C.bytesC 1).byteV)))]).length) cp406)) fun w416 B417 hu418 => hld trivial fun hS419 => re <| bn <| tn <| go <| L0 <| Oi (((k : Nat) : Int) + 1) <| Pl 1 <| nl <| ?_
 subst ex386
 have U420 := u1 hu81 hu110 im
 have U421 := ut0 U420 hu302
 have U422 := u1 U421 hu372 im
 have U423 := u1 U422 hu383 im
 have U424 := ut0 U423 hu398
 have U425 := ut U424 hu409 (all_app (ob_new f91 lr) all0)
 have U426 := u1 U425 hu418 im
 have U427 := ut (Upd.mono (S' := (ob A ++ [])) hu398 all0) hu409 (all_app (fun x hx => Or.inl (by simp [hx])) all0)
 have U428 := u1 (Upd.mono (S' := (ob A ++ (gm :: []))) U427 (all_app (fun x hx => Or.inl (by simp [hx])) all0)) hu418 im
 have r429 := ub1 hu383 (Ne.symm hne) r377
 have r430 := own_stay f91 U402 (fun x hx => (not_cons (fun e => (not_old (CurAt.lt hC) U105.size f91) (e ▸ hx)) not0)) (objR.upd8 U402 (safe_cons (CurAt.safe f89 _ (by decide)) safe0))
 have r431 := CurAt.upd hc387 U428 (not_app (not_old (CurAt.lt hC) U105.size f91) (not_cons hne not0)) (safe_app (ob_safe _ r430 (by decide)) (safe_cons (safe1 r429 (by decide)) safe0))
 have r432 := own_stay ho408 hu418 (fun x hx => (not_cons (fun e => (not_old (blk_lt hm) U105.size ho408) (e ▸ hx)) not0)) (objR.upd8 hu418 (safe_cons (safe1 r415 (by decide)) safe0))
 exact lpe ((k + 1), (((C.bytesC 1).bytesC 1).bytesC ((C.bytesC 1).byteV)), (L ++ [(Obj.mk C.byteV (((C.bytesC 1).bytesC 1).bytesR ((C.bytesC 1).byteV)))]), A405, cp406) ⟨U426, r431, B417, r432, (by (try dsimp only); omega), (by (try dsimp only); rw [← hobj, show x62.byteV.toNat - k = (x62.byteV.toNat - (k + 1)) + 1 from by omega]; rfl), (by (try dsimp only); (try simp only [List.length_append, List.length_cons, List.length_nil]); omega)⟩ (by omega)
 refine  Oc <| sr3 (bytes_any (n := (C.bytesC 1).byteV) hc371) fun A442 cp443 w433 rd446 hl444 hm445 hc436 hu437 => ?_
 have hlb438 := Nat.le_trans (Cur.bytesR_le ((C.bytesC 1).bytesC 1) ((C.bytesC 1).byteV)) (CurAt.len hc371)
 refine ab hc436 fun x439 ex440 hc441 => ?_
 refine hld trivial fun hS447 => Rt 11 hS447 <| ?_
 refine R2 4 12 rfl rfl ?_ ?_
 have U448 := ut0 hu110 hu302
 have U449 := u1 U448 hu372 im
 have U450 := u1 U449 hu437 im
 have r451 := ub1 U450 (Ne.symm hne) f90
 refine  Olb r451 21 <| hld trivial fun hS452 => R0 12 rfl <| Olt (m := 1) (e := 59) #[.int .u8 C.byteV, .slice A442 ((((C.bytesC 1).bytesC 1).bytesR ((C.bytesC 1).byteV)).length) cp443] fun g453 w454 hg455 B456 hu457 => ?_
 have r458 := RdB.upd' rd446 hu457 safe0
 have ol459 := lit1 (R := objR true) (x := (Obj.mk C.byteV (((C.bytesC 1).bytesC 1).bytesR ((C.bytesC 1).byteV)))) B456 rfl ⟨_, rfl, r458, b8 (by omega)⟩
 refine hld trivial fun hS460 => ?_
 have U461 := ut0 U450 hu457
 have r462 := own_stay f91 U461 (fun x hx => (not_cons (fun e => (not_old (CurAt.lt hC) U105.size f91) (e ▸ hx)) not0)) (objR.upd8 U461 (safe_cons (CurAt.safe f89 _ (by decide)) safe0))
 refine R0 13 rfl <| Oappg (xs := L) (ys := ([(Obj.mk C.byteV (((C.bytesC 1).bytesC 1).bytesR ((C.bytesC 1).byteV)))])) (.agg #[.int .u8 0, .slice none 0 0]) 2 32 r462 ol459 (by simp) objR.ones (fun w' hv => objR.upd8 hv (safe_app (ob_safe _ r462 (by decide)) safe0)) (by (try simp only [List.length_append, List.length_cons, List.length_nil, putW_length]); omega) (le (le (le (le (le hu81.size hu110.size) hu302.size) hu372.size) hu437.size) hu457.size) fun A463 cp464 w465 ho466 hu467 => hld trivial fun hS470 => Rt 14 hS470 <| Rt 15 hS470 <| ?_
 have U471 := ut (Upd.mono (S' := (ob A ++ [])) hu457 all0) hu467 (all_app (fun x hx => Or.inl (by simp [hx])) all0)
 have r472 := Upd.blk U471 (not_app (not_old (blk_lt hm) U105.size f91) not0) r451
 refine R0 16 rfl <| Ost r472 21 (mG c 0 0 0 0 0 0 0 0 0 0 0 nS nS nS nS me kd C0.byteV x25.byteV x44.byteV (.slice A463 ((L ++ [(Obj.mk C.byteV (((C.bytesC 1).bytesC 1).bytesR ((C.bytesC 1).byteV)))]).length) cp464)) fun w473 B474 hu475 => hld trivial fun hS476 => re <| bn <| tn <| go <| L0 <| Oi (((k : Nat) : Int) + 1) <| Pl 1 <| nl <| ?_
 subst ex440
 have U477 := u1 hu81 hu110 im
 have U478 := ut0 U477 hu302
 have U479 := u1 U478 hu372 im
 have U480 := u1 U479 hu437 im
 have U481 := ut0 U480 hu457
 have U482 := ut U481 hu467 (all_app (ob_new f91 lr) all0)
 have U483 := u1 U482 hu475 im
 have U484 := u1 (Upd.mono (S' := (ob A ++ (gm :: []))) U471 (all_app (fun x hx => Or.inl (by simp [hx])) all0)) hu475 im
 have r485 := own_stay f91 U450 (fun x hx => (not_cons (fun e => (not_old (CurAt.lt hC) U105.size f91) (e ▸ hx)) not0)) (objR.upd8 U450 (safe_cons (CurAt.safe f89 _ (by decide)) safe0))
 have r486 := CurAt.upd hc441 U484 (not_app (not_old (CurAt.lt hC) U105.size f91) (not_cons hne not0)) (safe_app (ob_safe _ r485 (by decide)) (safe_cons (safe1 r451 (by decide)) safe0))
 have r487 := own_stay ho466 hu475 (fun x hx => (not_cons (fun e => (not_old (blk_lt hm) U105.size ho466) (e ▸ hx)) not0)) (objR.upd8 hu475 (safe_cons (safe1 r472 (by decide)) safe0))
 exact lpe ((k + 1), (((C.bytesC 1).bytesC 1).bytesC ((C.bytesC 1).byteV)), (L ++ [(Obj.mk C.byteV (((C.bytesC 1).bytesC 1).bytesR ((C.bytesC 1).byteV)))]), A463, cp464) ⟨U483, r486, B474, r487, (by (try dsimp only); omega), (by (try dsimp only); rw [← hobj, show x62.byteV.toNat - k = (x62.byteV.toNat - (k + 1)) + 1 from by omega]; rfl), (by (try dsimp only); (try simp only [List.length_append, List.length_cons, List.length_nil]); omega)⟩ (by omega)
 refine  Olt (m := 1) (e := 59) #[.int .u8 C.byteV, .slice A442 ((((C.bytesC 1).bytesC 1).bytesR ((C.bytesC 1).byteV)).length) cp443] fun g488 w489 hg490 B491 hu492 => ?_
 have r493 := RdB.upd' rd446 hu492 safe0
 have ol494 := lit1 (R := objR true) (x := (Obj.mk C.byteV (((C.bytesC 1).bytesC 1).bytesR ((C.bytesC 1).byteV)))) B491 rfl ⟨_, rfl, r493, b8 (by omega)⟩
 refine hld trivial fun hS495 => ?_
 have U496 := ut0 hu110 hu302
 have U497 := u1 U496 hu372 im
 have U498 := u1 U497 hu437 im
 have U499 := ut0 U498 hu492
 have r500 := ub1 U499 (Ne.symm hne) f90
 refine R0 4 rfl <| Olb r500 21 <| hld trivial fun hS501 => ?_
 have r502 := own_stay f91 U499 (fun x hx => (not_cons (fun e => (not_old (CurAt.lt hC) U105.size f91) (e ▸ hx)) not0)) (objR.upd8 U499 (safe_cons (CurAt.safe f89 _ (by decide)) safe0))
 refine R0 13 rfl <| Oappg (xs := L) (ys := ([(Obj.mk C.byteV (((C.bytesC 1).bytesC 1).bytesR ((C.bytesC 1).byteV)))])) (.agg #[.int .u8 0, .slice none 0 0]) 2 32 r502 ol494 (by simp) objR.ones (fun w' hv => objR.upd8 hv (safe_app (ob_safe _ r502 (by decide)) safe0)) (by (try simp only [List.length_append, List.length_cons, List.length_nil, putW_length]); omega) (le (le (le (le (le hu81.size hu110.size) hu302.size) hu372.size) hu437.size) hu492.size) fun A503 cp504 w505 ho506 hu507 => hld trivial fun hS510 => Rt 14 hS510 <| Rt 15 hS510 <| ?_
 have r511 := Upd.blk hu507 (not_app (not_old (blk_lt hm) U105.size f91) not0) r500
 refine R0 16 rfl <| Ost r511 21 (mG c 0 0 0 0 0 0 0 0 0 0 0 nS nS nS nS me kd C0.byteV x25.byteV x44.byteV (.slice A503 ((L ++ [(Obj.mk C.byteV (((C.bytesC 1).bytesC 1).bytesR ((C.bytesC 1).byteV)))]).length) cp504)) fun w512 B513 hu514 => hld trivial fun hS515 => re <| bn <| tn <| go <| L0 <| Oi (((k : Nat) : Int) + 1) <| Pl 1 <| nl <| ?_
 subst ex440
 have U516 := u1 hu81 hu110 im
 have U517 := ut0 U516 hu302
 have U518 := u1 U517 hu372 im
 have U519 := u1 U518 hu437 im
 have U520 := ut0 U519 hu492
 have U521 := ut U520 hu507 (all_app (ob_new f91 lr) all0)
 have U522 := u1 U521 hu514 im
 have U523 := ut (Upd.mono (S' := (ob A ++ [])) hu492 all0) hu507 (all_app (fun x hx => Or.inl (by simp [hx])) all0)
 have U524 := u1 (Upd.mono (S' := (ob A ++ (gm :: []))) U523 (all_app (fun x hx => Or.inl (by simp [hx])) all0)) hu514 im
 have r525 := ub1 U498 (Ne.symm hne) f90
 have r526 := own_stay f91 U498 (fun x hx => (not_cons (fun e => (not_old (CurAt.lt hC) U105.size f91) (e ▸ hx)) not0)) (objR.upd8 U498 (safe_cons (CurAt.safe f89 _ (by decide)) safe0))
 have r527 := CurAt.upd hc441 U524 (not_app (not_old (CurAt.lt hC) U105.size f91) (not_cons hne not0)) (safe_app (ob_safe _ r526 (by decide)) (safe_cons (safe1 r525 (by decide)) safe0))
 have r528 := own_stay ho506 hu514 (fun x hx => (not_cons (fun e => (not_old (blk_lt hm) U105.size ho506) (e ▸ hx)) not0)) (objR.upd8 hu514 (safe_cons (safe1 r511 (by decide)) safe0))
 exact lpe ((k + 1), (((C.bytesC 1).bytesC 1).bytesC ((C.bytesC 1).byteV)), (L ++ [(Obj.mk C.byteV (((C.bytesC 1).bytesC 1).bytesR ((C.bytesC 1).byteV)))]), A503, cp504) ⟨U522, r527, B513, r528, (by (try dsimp only); omega), (by (try dsimp only); rw [← hobj, show x62.byteV.toNat - k = (x62.byteV.toNat - (k + 1)) + 1 from by omega]; rfl), (by (try dsimp only); (try simp only [List.length_append, List.length_cons, List.length_nil]); omega)⟩ (by omega)
 have q107p := of_decide_eq_false q107
 refine xt <| tx <| tx <| bx <| rm (.tuple #[]) <| ?_
 subst ex77 ex63 ex45 ex26
 have hf : meiObjs kd C0 = (C, L) := by
   have h1 : objsR ((((((C0.bytesC 1).need (levelB C0.byteV) 6).bytesC 1).need ((((C0.bytesC 1).need (levelB C0.byteV) 6).byteV == 0) || (((C0.bytesC 1).need (levelB C0.byteV) 6).byteV == 255)) 6).bytesC 1).need ((((C0.bytesC 1).need (levelB C0.byteV) 6).byteV != 0) || (((((C0.bytesC 1).need (levelB C0.byteV) 6).bytesC 1).need ((((C0.bytesC 1).need (levelB C0.byteV) 6).byteV == 0) || (((C0.bytesC 1).need (levelB C0.byteV) 6).byteV == 255)) 6).byteV == 0)) 6).byteV.toNat ((((((((C0.bytesC 1).need (levelB C0.byteV) 6).bytesC 1).need ((((C0.bytesC 1).need (levelB C0.byteV) 6).byteV == 0) || (((C0.bytesC 1).need (levelB C0.byteV) 6).byteV == 255)) 6).bytesC 1).need ((((C0.bytesC 1).need (levelB C0.byteV) 6).byteV != 0) || (((((C0.bytesC 1).need (levelB C0.byteV) 6).bytesC 1).need ((((C0.bytesC 1).need (levelB C0.byteV) 6).byteV == 0) || (((C0.bytesC 1).need (levelB C0.byteV) 6).byteV == 255)) 6).byteV == 0)) 6).bytesC 1).need ((kd != 4) || (((((((C0.bytesC 1).need (levelB C0.byteV) 6).bytesC 1).need ((((C0.bytesC 1).need (levelB C0.byteV) 6).byteV == 0) || (((C0.bytesC 1).need (levelB C0.byteV) 6).byteV == 255)) 6).bytesC 1).need ((((C0.bytesC 1).need (levelB C0.byteV) 6).byteV != 0) || (((((C0.bytesC 1).need (levelB C0.byteV) 6).bytesC 1).need ((((C0.bytesC 1).need (levelB C0.byteV) 6).byteV == 0) || (((C0.bytesC 1).need (levelB C0.byteV) 6).byteV == 255)) 6).byteV == 0)) 6).byteV == 1)) 5) [] = (C, L) := by
     rw [← hobj, show ((((((C0.bytesC 1).need (levelB C0.byteV) 6).bytesC 1).need ((((C0.bytesC 1).need (levelB C0.byteV) 6).byteV == 0) || (((C0.bytesC 1).need (levelB C0.byteV) 6).byteV == 255)) 6).bytesC 1).need ((((C0.bytesC 1).need (levelB C0.byteV) 6).byteV != 0) || (((((C0.bytesC 1).need (levelB C0.byteV) 6).bytesC 1).need ((((C0.bytesC 1).need (levelB C0.byteV) 6).byteV == 0) || (((C0.bytesC 1).need (levelB C0.byteV) 6).byteV == 255)) 6).byteV == 0)) 6).byteV.toNat - k = 0 from by omega]
     rfl
   exact h1
 rw [hf]
 exact ⟨rfl, f89, ⟨_, ⟨f90, rfl⟩, ⟨_, _, _, _, _, rfl, RdG.nil .., RdG.nil .., RdG.nil .., RdG.nil .., (f91).rd, ⟨(b8 (x := c) (by omega)), (b8 (x := 0) (by omega)), (b16 (x := 0) (by omega)), (b16 (x := 0) (by omega)), (b16 (x := 0) (by omega)), (b16 (x := 0) (by omega)), (b16 (x := 0) (by omega)), (b16 (x := 0) (by omega)), (b16 (x := 0) (by omega)), (b16 (x := 0) (by omega)), (b16 (x := 0) (by omega)), (b16 (x := 0) (by omega)), (b8 (x := me) (by omega)), (b8 (x := kd) (by omega)), (b8 (x := C0.byteV) (by omega)), (b8 (x := ((C0.bytesC 1).need (levelB C0.byteV) 6).byteV) (by omega)), (b8 (x := ((((C0.bytesC 1).need (levelB C0.byteV) 6).bytesC 1).need ((((C0.bytesC 1).need (levelB C0.byteV) 6).byteV == 0) || (((C0.bytesC 1).need (levelB C0.byteV) 6).byteV == 255)) 6).byteV) (by omega))⟩⟩⟩, U106⟩
def meiA (C : Cur) : Cur := (C.bytesC 1).need (C.byteV == 13 || C.byteV == 14) 8
def meiB (C : Cur) : Cur := (meiA C).need (decide (((meiA C).l.length : Int) ≤ 251)) 5
def meiD (C : Cur) : Cur := ((meiA C).bytesC 1).need (decide (1 ≤ (meiA C).byteV) && decide ((meiA C).byteV ≤ 4)) 6
def meiForm (dir c : Int) (C : Cur) : Option (Cur × Msg) :=
  if c != 43 then none
  else if C.byteV == 13 then some ((meiB C).bytesC ((meiB C).l.length : Int), { Msg.zero with code := c, mei := C.byteV, data := (meiB C).bytesR ((meiB C).l.length : Int) })
  else if dir == 1 then some ((meiObjs (meiA C).byteV (meiD C)).1, { Msg.zero with code := c, mei := C.byteV, kind := (meiA C).byteV, level := (meiD C).byteV, more := (mei1 (meiD C)).byteV, next := (mei2 (meiD C)).byteV, objects := (meiObjs (meiA C).byteV (meiD C)).2 })
  else some ((meiD C).bytesC 1, { Msg.zero with code := c, mei := C.byteV, kind := (meiA C).byteV, next := (meiD C).byteV })
set_option maxRecDepth 100000 in
set_option maxHeartbeats 4000000 in
theorem mei_parse_0 {m : Bool} {A : Option Addr} {cp : Nat} {b : List Int} {w : World} {c : Int} (hcode : B8 c) (hsl : RdB m w (.slice A b.length cp) b) (hb : b.length ≤ 1048576) :
    Calls Try.prog 45 #[.int .i64 0, .int .u8 c, .slice A b.length cp] w (PMsg (parseOf meiForm 0 c b) w) := by
 obtain ⟨hcode1, hcode2⟩ := hcode
 have hln : (b.length : Int) ≤ 1048576 := by omega
 refine en 81 Try.func45 rfl <| sg <| L0 <| Oal mZ fun g10 w11 hg12 B13 hu14 => Pl 1 <| nt <| sq <| bk <| sg <| Pl 7 <| nt <| ?_
 refine c0 <| sg <| Pl 3 <| nt <| cb ((c != 43)) (fun q15 => ?_) (fun q15 => ?_)
 have q15p := ne_of_bnei q15
 refine sg <| Pl 1 <| L0 <| Osw B13 mZ fun w16 B17 hu18 => Pl 1 <| nt <| rt <| br <| tr <| rct B17 (.int .i64 4) <| ?_
 have U19 := u1 hu14 hu18 (nr hg12)
 have hs : parseOf meiForm 0 c b = (Msg.zero, 4) := by
   unfold parseOf meiForm meiB meiD meiA
   (try simp only [q15, bs, if_true, if_false, decide_true, decide_false, eq_self, true_or, or_true, or_false, false_or, if_true, if_false, i00, i01, i10, i11, reduceIte])
   all_goals rfl
 rw [hs]
 exact bad_res U19
 have q15p := eq_of_bnei q15
 refine sk <| bn <| tn <| sg <| Pl 1 <| ?_
 have r20 := RdB.old hsl hu14
 refine L0 <| Oc <| e3 (new_any r20 (by omega)) fun g22 w21 hg23 hc24 hu25 => Pl 1 <| ng <| Pl 2 <| L0 <| Oc <| m3 (byte_any hc24) fun w26 hc27 hu28 hr29 => Pl 1 <| L0 <| Oal mZ fun g30 w31 hg32 B33 hu34 => L0 <| Osw B33 (mG c 0 0 0 0 0 0 0 0 0 0 0 nS nS nS nS ((Cur.mk b false 0).byteV) 0 0 0 0 nS) fun w35 B36 hu37 => nt <| sq <| ?_
 refine go <| Pl 2 <| L0 <| Olb B36 16 <| Pl 2 <| cu 4 [33] 37 (((((Cur.mk b false 0).byteV) == 13) || (((Cur.mk b false 0).byteV) == 14))) (fun K K39 => ?_) ?_
 refine bl 33 ((((Cur.mk b false 0).byteV) == 13)) (fun q38 => ?_) (fun q38 => ?_)
 have q38p := eq_of_beqi q38
 exact Pl 4 <| ce K39 true (by rw [q38]; rfl)
 have q38p := ne_of_beqi q38
 exact Pl 1 <| L1 <| Olb B36 16 <| Pl 2 <| ce K39 (((Cur.mk b false 0).byteV) == 14) (by rw [q38]; rfl)
 have U40 := u1 hu34 hu37 (nr hg32)
 have r41 := CurAt.old hc27 U40
 refine L0 <| Oc <| m2 (need_any (((((Cur.mk b false 0).byteV) == 13) || (((Cur.mk b false 0).byteV) == 14))) 8 r41) fun w42 hc43 hu44 => ?_
 refine ab hc43 fun x45 ex46 hc47 => ?_
 refine nt <| sq <| sg <| Pl 1 <| ?_
 have ne48 := nb (CurAt.lt hc24) hu28.size hg32
 have r49 := ub1 hu44 (Ne.symm ne48) B36
 refine L0 <| Olb r49 16 <| Pl 1 <| nt <| ?_
 have U50 := ut0 hu14 hu25
 have U51 := u1 U50 hu28 (ni hu14.size hg23)
 have U52 := ut0 U51 hu34
 have U53 := u1 U52 hu37 (ni U51.size hg32)
 have U54 := u1 U53 hu44 (ni hu14.size hg23)
 refine cb ((((Cur.mk b false 0).byteV) == 13)) (fun q55 => ?_) (fun q55 => ?_)
 have q55p := eq_of_beqi q55
 refine sg <| Pl 2 <| L0 <| Oc <| mq (left_any hc47) <| ?_
 have hl56 := CurAt.len hc47
 refine Pl 1 <| L0 <| Oc <| m2 (need_any ((decide (((x45.l.length : Nat) : Int) ≤ 251))) 5 hc47) fun w57 hc58 hu59 => ?_
 refine ab hc58 fun x60 ex61 hc62 => ?_
 refine nt <| go <| Pl 2 <| L0 <| Oc <| mq (left_any hc62) <| ?_
 have hl63 := CurAt.len hc62
 refine L0 <| Oc <| sr3 (bytes_any (n := ((x60.l.length : Nat) : Int)) hc62) fun A73 cp74 w64 rd77 hl75 hm76 hc67 hu68 => ?_
 have hlb69 := Nat.le_trans (Cur.bytesR_le x60 ((x60.l.length : Nat) : Int)) (CurAt.len hc62)
 refine ab hc67 fun x70 ex71 hc72 => ?_
 refine Pl 1 <| ?_
 have U78 := u1 hu59 hu68 im
 have r79 := ub1 U78 (Ne.symm ne48) r49
 refine L0 <| Ost r79 14 (mG c 0 0 0 0 0 0 0 0 0 0 0 nS nS (.slice A73 ((x60.bytesR ((x60.l.length : Nat) : Int)).length) cp74) nS ((Cur.mk b false 0).byteV) 0 0 0 0 nS) fun w80 B81 hu82 => ng <| Pl 1 <| ?_
 have r83 := CurAt.upd hc72 hu82 (not_cons ne48 not0) (safe_cons (safe1 r79 (by decide)) safe0)
 refine L0 <| Oc <| m2 (end_any r83) fun w84 hc85 hu86 => nt <| sq <| sg <| Pl 1 <| L0 <| Oc <| mq (err_any hc85) <| ?_
 have hl87 := CurAt.len hc85
 refine Pl 1 <| ng <| Pl 2 <| nt <| ?_
 have U88 := u1 U54 hu59 (ni hu14.size hg23)
 have U89 := u1 U88 hu68 (ni hu14.size hg23)
 have U90 := u1 U89 hu82 (ni U51.size hg32)
 have U91 := u1 U90 hu86 (ni hu14.size hg23)
 refine cb ((x70.endC.e != 0)) (fun q92 => ?_) (fun q92 => ?_)
 have q92p := ne_of_bnei q92
 refine sg <| Pl 2 <| ?_
 have U93 := u1 hu25 hu28 (nr hg23)
 have U94 := ut0 U93 hu34
 have U95 := u1 U94 hu37 (ni U93.size hg32)
 have U96 := u1 U95 hu44 (nr hg23)
 have U97 := u1 U96 hu59 (nr hg23)
 have U98 := u1 U97 hu68 (nr hg23)
 have U99 := u1 U98 hu82 (ni U93.size hg32)
 have U100 := u1 U99 hu86 (nr hg23)
 have r101 := ub U100 B13
 refine L0 <| Osw r101 mZ fun w102 B103 hu104 => Pl 1 <| nt <| rt <| tr <| rct B103 (.int .i64 x70.endC.e) <| ?_
 subst ex71 ex61 ex46
 have U105 := u1 U91 hu104 (nr hg12)
 have U106 := u1 (Upd.mono (S' := [g30, g22]) hu82 (ac im all0)) hu86 im
 have U107 := u1 (Upd.mono (S' := [g30, g22, g10]) U106 (ac im (ac im all0))) hu104 im
 have r108 := ub U98 B13
 have r109 := RdB.upd' rd77 U107 (safe_cons (safe1 r79 (by decide)) (safe_cons (CurAt.safe hc72 _ (by decide)) (safe_cons (safe1 r108 (by decide)) safe0)))
 have hs : parseOf meiForm 0 c b = finish (Msg.mk c 0 0 0 0 0 0 0 0 0 0 0 [] [] (((((Cur.mk b false 0).bytesC 1).need ((((Cur.mk b false 0).byteV) == 13) || (((Cur.mk b false 0).byteV) == 14)) 8).need (decide ((((((Cur.mk b false 0).bytesC 1).need ((((Cur.mk b false 0).byteV) == 13) || (((Cur.mk b false 0).byteV) == 14)) 8).l.length : Nat) : Int) ≤ 251)) 5).bytesR ((((((Cur.mk b false 0).bytesC 1).need ((((Cur.mk b false 0).byteV) == 13) || (((Cur.mk b false 0).byteV) == 14)) 8).need (decide ((((((Cur.mk b false 0).bytesC 1).need ((((Cur.mk b false 0).byteV) == 13) || (((Cur.mk b false 0).byteV) == 14)) 8).l.length : Nat) : Int) ≤ 251)) 5).l.length : Nat) : Int)) [] ((Cur.mk b false 0).byteV) 0 0 0 0 []) (((((Cur.mk b false 0).bytesC 1).need ((((Cur.mk b false 0).byteV) == 13) || (((Cur.mk b false 0).byteV) == 14)) 8).need (decide ((((((Cur.mk b false 0).bytesC 1).need ((((Cur.mk b false 0).byteV) == 13) || (((Cur.mk b false 0).byteV) == 14)) 8).l.length : Nat) : Int) ≤ 251)) 5).bytesC ((((((Cur.mk b false 0).bytesC 1).need ((((Cur.mk b false 0).byteV) == 13) || (((Cur.mk b false 0).byteV) == 14)) 8).need (decide ((((((Cur.mk b false 0).bytesC 1).need ((((Cur.mk b false 0).byteV) == 13) || (((Cur.mk b false 0).byteV) == 14)) 8).l.length : Nat) : Int) ≤ 251)) 5).l.length : Nat) : Int)) := by
   unfold parseOf meiForm meiB meiD meiA
   (try simp only [q15, q55, q92, bs, if_true, if_false, decide_true, decide_false, eq_self, true_or, or_true, or_false, false_or, if_true, if_false, i00, i01, i10, i11, reduceIte])
   all_goals rfl
 rw [hs]
 exact finish_bad q92p U105
 have q92p := eq_of_bnei q92
 refine skn <| sg <| ?_
 have r110 := ub1 hu86 (Ne.symm ne48) B81
 refine L0 <| Olw r110 <| ?_
 have U111 := u1 hu25 hu28 (nr hg23)
 have U112 := ut0 U111 hu34
 have U113 := u1 U112 hu37 (ni U111.size hg32)
 have U114 := u1 U113 hu44 (nr hg23)
 have U115 := u1 U114 hu59 (nr hg23)
 have U116 := u1 U115 hu68 (nr hg23)
 have U117 := u1 U116 hu82 (ni U111.size hg32)
 have U118 := u1 U117 hu86 (nr hg23)
 have r119 := ub U118 B13
 refine L0 <| Osw r119 (mG c 0 0 0 0 0 0 0 0 0 0 0 nS nS (.slice A73 ((x60.bytesR ((x60.l.length : Nat) : Int)).length) cp74) nS ((Cur.mk b false 0).byteV) 0 0 0 0 nS) fun w120 B121 hu122 => Pl 1 <| nt <| rt <| rct B121 (.int .i64 0) <| ?_
 subst ex71 ex61 ex46
 have U123 := u1 U91 hu122 (nr hg12)
 have U124 := u1 (Upd.mono (S' := [g30, g22]) hu82 (ac im all0)) hu86 im
 have U125 := u1 (Upd.mono (S' := [g30, g22, g10]) U124 (ac im (ac im all0))) hu122 im
 have r126 := ub U116 B13
 have r127 := RdB.upd' rd77 U125 (safe_cons (safe1 r79 (by decide)) (safe_cons (CurAt.safe hc72 _ (by decide)) (safe_cons (safe1 r126 (by decide)) safe0)))
 have hs : parseOf meiForm 0 c b = finish (Msg.mk c 0 0 0 0 0 0 0 0 0 0 0 [] [] (((((Cur.mk b false 0).bytesC 1).need ((((Cur.mk b false 0).byteV) == 13) || (((Cur.mk b false 0).byteV) == 14)) 8).need (decide ((((((Cur.mk b false 0).bytesC 1).need ((((Cur.mk b false 0).byteV) == 13) || (((Cur.mk b false 0).byteV) == 14)) 8).l.length : Nat) : Int) ≤ 251)) 5).bytesR ((((((Cur.mk b false 0).bytesC 1).need ((((Cur.mk b false 0).byteV) == 13) || (((Cur.mk b false 0).byteV) == 14)) 8).need (decide ((((((Cur.mk b false 0).bytesC 1).need ((((Cur.mk b false 0).byteV) == 13) || (((Cur.mk b false 0).byteV) == 14)) 8).l.length : Nat) : Int) ≤ 251)) 5).l.length : Nat) : Int)) [] ((Cur.mk b false 0).byteV) 0 0 0 0 []) (((((Cur.mk b false 0).bytesC 1).need ((((Cur.mk b false 0).byteV) == 13) || (((Cur.mk b false 0).byteV) == 14)) 8).need (decide ((((((Cur.mk b false 0).bytesC 1).need ((((Cur.mk b false 0).byteV) == 13) || (((Cur.mk b false 0).byteV) == 14)) 8).l.length : Nat) : Int) ≤ 251)) 5).bytesC ((((((Cur.mk b false 0).bytesC 1).need ((((Cur.mk b false 0).byteV) == 13) || (((Cur.mk b false 0).byteV) == 14)) 8).need (decide ((((((Cur.mk b false 0).bytesC 1).need ((((Cur.mk b false 0).byteV) == 13) || (((Cur.mk b false 0).byteV) == 14)) 8).l.length : Nat) : Int) ≤ 251)) 5).l.length : Nat) : Int)) := by
   unfold parseOf meiForm meiB meiD meiA
   (try simp only [q15, q55, q92, bs, if_true, if_false, decide_true, decide_false, eq_self, true_or, or_true, or_false, false_or, if_true, if_false, i00, i01, i10, i11, reduceIte])
   all_goals rfl
 rw [hs]
 exact finish_ok q92p ⟨_, _, _, _, _, rfl, RdG.nil .., RdG.nil .., r127, RdG.nil .., RdG.nil .., ⟨(b8 (x := c) (by omega)), (b8 (x := 0) (by omega)), (b16 (x := 0) (by omega)), (b16 (x := 0) (by omega)), (b16 (x := 0) (by omega)), (b16 (x := 0) (by omega)), (b16 (x := 0) (by omega)), (b16 (x := 0) (by omega)), (b16 (x := 0) (by omega)), (b16 (x := 0) (by omega)), (b16 (x := 0) (by omega)), (b16 (x := 0) (by omega)), (b8 (x := (Cur.mk b false 0).byteV) (by omega)), (b8 (x := 0) (by omega)), (b8 (x := 0) (by omega)), (b8 (x := 0) (by omega)), (b8 (x := 0) (by omega))⟩⟩ U123
 have q55p := ne_of_beqi q55
 refine sg <| Pl 1 <| L0 <| Oc <| m3 (byte_any hc47) fun w128 hc129 hu130 hr131 => Pl 1 <| ?_
 have r132 := ub1 hu130 (Ne.symm ne48) r49
 refine L0 <| Ost r132 17 (mG c 0 0 0 0 0 0 0 0 0 0 0 nS nS nS nS ((Cur.mk b false 0).byteV) x45.byteV 0 0 0 nS) fun w133 B134 hu135 => ng <| Pl 2 <| L0 <| Olb B134 17 <| Pl 2 <| cu 4 [59] 63 (((decide (1 ≤ x45.byteV)) && (decide (x45.byteV ≤ 4)))) (fun K K137 => ?_) ?_
 refine bl 59 ((decide (1 ≤ x45.byteV))) (fun q136 => ?_) (fun q136 => ?_)
 have q136p := of_decide_eq_true q136
 exact Pl 1 <| L1 <| Olb B134 17 <| Pl 2 <| ce K137 (decide (x45.byteV ≤ 4)) (by rw [q136]; rfl)
 have q136p := of_decide_eq_false q136
 exact Pl 4 <| ce K137 false (by rw [q136]; rfl)
 have r138 := CurAt.upd hc129 hu135 (not_cons ne48 not0) (safe_cons (safe1 r132 (by decide)) safe0)
 refine L0 <| Oc <| m2 (need_any (((decide (1 ≤ x45.byteV)) && (decide (x45.byteV ≤ 4)))) 6 r138) fun w139 hc140 hu141 => ?_
 refine ab hc140 fun x142 ex143 hc144 => ?_
 refine ng <| Pl 2 <| nt <| c0 <| go <| Pl 1 <| L0 <| Oc <| m3 (byte_any hc144) fun w145 hc146 hu147 hr148 => Pl 1 <| ?_
 have U149 := u1 hu141 hu147 im
 have r150 := ub1 U149 (Ne.symm ne48) B134
 refine L0 <| Ost r150 20 (mG c 0 0 0 0 0 0 0 0 0 0 0 nS nS nS nS ((Cur.mk b false 0).byteV) x45.byteV 0 0 x142.byteV nS) fun w151 B152 hu153 => ng <| Pl 1 <| ?_
 have r154 := CurAt.upd hc146 hu153 (not_cons ne48 not0) (safe_cons (safe1 r150 (by decide)) safe0)
 refine L0 <| Oc <| m2 (end_any r154) fun w155 hc156 hu157 => nt <| sq <| sg <| Pl 1 <| L0 <| Oc <| mq (err_any hc156) <| ?_
 have hl158 := CurAt.len hc156
 refine Pl 1 <| ng <| Pl 2 <| nt <| ?_
 have U159 := u1 U54 hu130 (ni hu14.size hg23)
 have U160 := u1 U159 hu135 (ni U51.size hg32)
 have U161 := u1 U160 hu141 (ni hu14.size hg23)
 have U162 := u1 U161 hu147 (ni hu14.size hg23)
 have U163 := u1 U162 hu153 (ni U51.size hg32)
 have U164 := u1 U163 hu157 (ni hu14.size hg23)
 refine cb (((((x142.bytesC 1).endC).e) != 0)) (fun q165 => ?_) (fun q165 => ?_)
 have q165p := ne_of_bnei q165
 refine sg <| Pl 2 <| ?_
 have U166 := u1 hu25 hu28 (nr hg23)
 have U167 := ut0 U166 hu34
 have U168 := u1 U167 hu37 (ni U166.size hg32)
 have U169 := u1 U168 hu44 (nr hg23)
 have U170 := u1 U169 hu130 (nr hg23)
 have U171 := u1 U170 hu135 (ni U166.size hg32)
 have U172 := u1 U171 hu141 (nr hg23)
 have U173 := u1 U172 hu147 (nr hg23)
 have U174 := u1 U173 hu153 (ni U166.size hg32)
 have U175 := u1 U174 hu157 (nr hg23)
 have r176 := ub U175 B13
 refine L0 <| Osw r176 mZ fun w177 B178 hu179 => Pl 1 <| nt <| rt <| tr <| rct B178 (.int .i64 (((x142.bytesC 1).endC).e)) <| ?_
 subst ex143 ex46
 have U180 := u1 U164 hu179 (nr hg12)
 have hs : parseOf meiForm 0 c b = finish (Msg.mk c 0 0 0 0 0 0 0 0 0 0 0 [] [] [] [] ((Cur.mk b false 0).byteV) ((((Cur.mk b false 0).bytesC 1).need ((((Cur.mk b false 0).byteV) == 13) || (((Cur.mk b false 0).byteV) == 14)) 8).byteV) 0 0 ((((((Cur.mk b false 0).bytesC 1).need ((((Cur.mk b false 0).byteV) == 13) || (((Cur.mk b false 0).byteV) == 14)) 8).bytesC 1).need ((decide (1 ≤ (((Cur.mk b false 0).bytesC 1).need ((((Cur.mk b false 0).byteV) == 13) || (((Cur.mk b false 0).byteV) == 14)) 8).byteV)) && (decide ((((Cur.mk b false 0).bytesC 1).need ((((Cur.mk b false 0).byteV) == 13) || (((Cur.mk b false 0).byteV) == 14)) 8).byteV ≤ 4))) 6).byteV) []) ((((((Cur.mk b false 0).bytesC 1).need ((((Cur.mk b false 0).byteV) == 13) || (((Cur.mk b false 0).byteV) == 14)) 8).bytesC 1).need ((decide (1 ≤ (((Cur.mk b false 0).bytesC 1).need ((((Cur.mk b false 0).byteV) == 13) || (((Cur.mk b false 0).byteV) == 14)) 8).byteV)) && (decide ((((Cur.mk b false 0).bytesC 1).need ((((Cur.mk b false 0).byteV) == 13) || (((Cur.mk b false 0).byteV) == 14)) 8).byteV ≤ 4))) 6).bytesC 1) := by
   unfold parseOf meiForm meiB meiD meiA
   (try simp only [q15, q55, q165, bs, if_true, if_false, decide_true, decide_false, eq_self, true_or, or_true, or_false, false_or, if_true, if_false, i00, i01, i10, i11, reduceIte])
   all_goals rfl
 rw [hs]
 exact finish_bad q165p U180
 have q165p := eq_of_bnei q165
 refine skn <| sg <| ?_
 have r181 := ub1 hu157 (Ne.symm ne48) B152
 refine L0 <| Olw r181 <| ?_
 have U182 := u1 hu25 hu28 (nr hg23)
 have U183 := ut0 U182 hu34
 have U184 := u1 U183 hu37 (ni U182.size hg32)
 have U185 := u1 U184 hu44 (nr hg23)
 have U186 := u1 U185 hu130 (nr hg23)
 have U187 := u1 U186 hu135 (ni U182.size hg32)
 have U188 := u1 U187 hu141 (nr hg23)
 have U189 := u1 U188 hu147 (nr hg23)
 have U190 := u1 U189 hu153 (ni U182.size hg32)
 have U191 := u1 U190 hu157 (nr hg23)
 have r192 := ub U191 B13
 refine L0 <| Osw r192 (mG c 0 0 0 0 0 0 0 0 0 0 0 nS nS nS nS ((Cur.mk b false 0).byteV) x45.byteV 0 0 x142.byteV nS) fun w193 B194 hu195 => Pl 1 <| nt <| rt <| rct B194 (.int .i64 0) <| ?_
 subst ex143 ex46
 have U196 := u1 U164 hu195 (nr hg12)
 have hs : parseOf meiForm 0 c b = finish (Msg.mk c 0 0 0 0 0 0 0 0 0 0 0 [] [] [] [] ((Cur.mk b false 0).byteV) ((((Cur.mk b false 0).bytesC 1).need ((((Cur.mk b false 0).byteV) == 13) || (((Cur.mk b false 0).byteV) == 14)) 8).byteV) 0 0 ((((((Cur.mk b false 0).bytesC 1).need ((((Cur.mk b false 0).byteV) == 13) || (((Cur.mk b false 0).byteV) == 14)) 8).bytesC 1).need ((decide (1 ≤ (((Cur.mk b false 0).bytesC 1).need ((((Cur.mk b false 0).byteV) == 13) || (((Cur.mk b false 0).byteV) == 14)) 8).byteV)) && (decide ((((Cur.mk b false 0).bytesC 1).need ((((Cur.mk b false 0).byteV) == 13) || (((Cur.mk b false 0).byteV) == 14)) 8).byteV ≤ 4))) 6).byteV) []) ((((((Cur.mk b false 0).bytesC 1).need ((((Cur.mk b false 0).byteV) == 13) || (((Cur.mk b false 0).byteV) == 14)) 8).bytesC 1).need ((decide (1 ≤ (((Cur.mk b false 0).bytesC 1).need ((((Cur.mk b false 0).byteV) == 13) || (((Cur.mk b false 0).byteV) == 14)) 8).byteV)) && (decide ((((Cur.mk b false 0).bytesC 1).need ((((Cur.mk b false 0).byteV) == 13) || (((Cur.mk b false 0).byteV) == 14)) 8).byteV ≤ 4))) 6).bytesC 1) := by
   unfold parseOf meiForm meiB meiD meiA
   (try simp only [q15, q55, q165, bs, if_true, if_false, decide_true, decide_false, eq_self, true_or, or_true, or_false, false_or, if_true, if_false, i00, i01, i10, i11, reduceIte])
   all_goals rfl
 rw [hs]
 exact finish_ok q165p ⟨_, _, _, _, _, rfl, RdG.nil .., RdG.nil .., RdG.nil .., RdG.nil .., RdG.nil .., ⟨(b8 (x := c) (by omega)), (b8 (x := 0) (by omega)), (b16 (x := 0) (by omega)), (b16 (x := 0) (by omega)), (b16 (x := 0) (by omega)), (b16 (x := 0) (by omega)), (b16 (x := 0) (by omega)), (b16 (x := 0) (by omega)), (b16 (x := 0) (by omega)), (b16 (x := 0) (by omega)), (b16 (x := 0) (by omega)), (b16 (x := 0) (by omega)), (b8 (x := (Cur.mk b false 0).byteV) (by omega)), (b8 (x := (((Cur.mk b false 0).bytesC 1).need ((((Cur.mk b false 0).byteV) == 13) || (((Cur.mk b false 0).byteV) == 14)) 8).byteV) (by omega)), (b8 (x := 0) (by omega)), (b8 (x := 0) (by omega)), (b8 (x := (((((Cur.mk b false 0).bytesC 1).need ((((Cur.mk b false 0).byteV) == 13) || (((Cur.mk b false 0).byteV) == 14)) 8).bytesC 1).need ((decide (1 ≤ (((Cur.mk b false 0).bytesC 1).need ((((Cur.mk b false 0).byteV) == 13) || (((Cur.mk b false 0).byteV) == 14)) 8).byteV)) && (decide ((((Cur.mk b false 0).bytesC 1).need ((((Cur.mk b false 0).byteV) == 13) || (((Cur.mk b false 0).byteV) == 14)) 8).byteV ≤ 4))) 6).byteV) (by omega))⟩⟩ U196
set_option maxRecDepth 100000 in
set_option maxHeartbeats 4000000 in
theorem mei_parse_1 {m : Bool} {A : Option Addr} {cp : Nat} {b : List Int} {w : World} {c : Int} (hcode : B8 c) (hsl : RdB m w (.slice A b.length cp) b) (hb : b.length ≤ 1048576) :
    Calls Try.prog 45 #[.int .i64 1, .int .u8 c, .slice A b.length cp] w (PMsg (parseOf meiForm 1 c b) w) := by
 obtain ⟨hcode1, hcode2⟩ := hcode
 have hln : (b.length : Int) ≤ 1048576 := by omega
 refine en 81 Try.func45 rfl <| sg <| L0 <| Oal mZ fun g10 w11 hg12 B13 hu14 => Pl 1 <| nt <| sq <| bk <| sg <| Pl 7 <| nt <| ?_
 refine c0 <| sg <| Pl 3 <| nt <| cb ((c != 43)) (fun q15 => ?_) (fun q15 => ?_)
 have q15p := ne_of_bnei q15
 refine sg <| Pl 1 <| L0 <| Osw B13 mZ fun w16 B17 hu18 => Pl 1 <| nt <| rt <| br <| tr <| rct B17 (.int .i64 4) <| ?_
 have U19 := u1 hu14 hu18 (nr hg12)
 have hs : parseOf meiForm 1 c b = (Msg.zero, 4) := by
   unfold parseOf meiForm meiB meiD meiA
   (try simp only [q15, bs, if_true, if_false, decide_true, decide_false, eq_self, true_or, or_true, or_false, false_or, if_true, if_false, i00, i01, i10, i11, reduceIte])
   all_goals rfl
 rw [hs]
 exact bad_res U19
 have q15p := eq_of_bnei q15
 refine sk <| bn <| tn <| sg <| Pl 1 <| ?_
 have r20 := RdB.old hsl hu14
 refine L0 <| Oc <| e3 (new_any r20 (by omega)) fun g22 w21 hg23 hc24 hu25 => Pl 1 <| ng <| Pl 2 <| L0 <| Oc <| m3 (byte_any hc24) fun w26 hc27 hu28 hr29 => Pl 1 <| L0 <| Oal mZ fun g30 w31 hg32 B33 hu34 => L0 <| Osw B33 (mG c 0 0 0 0 0 0 0 0 0 0 0 nS nS nS nS ((Cur.mk b false 0).byteV) 0 0 0 0 nS) fun w35 B36 hu37 => nt <| sq <| ?_
 refine go <| Pl 2 <| L0 <| Olb B36 16 <| Pl 2 <| cu 4 [33] 37 (((((Cur.mk b false 0).byteV) == 13) || (((Cur.mk b false 0).byteV) == 14))) (fun K K39 => ?_) ?_
 refine bl 33 ((((Cur.mk b false 0).byteV) == 13)) (fun q38 => ?_) (fun q38 => ?_)
 have q38p := eq_of_beqi q38
 exact Pl 4 <| ce K39 true (by rw [q38]; rfl)
 have q38p := ne_of_beqi q38
 exact Pl 1 <| L1 <| Olb B36 16 <| Pl 2 <| ce K39 (((Cur.mk b false 0).byteV) == 14) (by rw [q38]; rfl)
 have U40 := u1 hu34 hu37 (nr hg32)
 have r41 := CurAt.old hc27 U40
 refine L0 <| Oc <| m2 (need_any (((((Cur.mk b false 0).byteV) == 13) || (((Cur.mk b false 0).byteV) == 14))) 8 r41) fun w42 hc43 hu44 => ?_
 refine ab hc43 fun x45 ex46 hc47 => ?_
 refine nt <| sq <| sg <| Pl 1 <| ?_
 have ne48 := nb (CurAt.lt hc24) hu28.size hg32
 have r49 := ub1 hu44 (Ne.symm ne48) B36
 refine L0 <| Olb r49 16 <| Pl 1 <| nt <| ?_
 have U50 := ut0 hu14 hu25
 have U51 := u1 U50 hu28 (ni hu14.size hg23)
 have U52 := ut0 U51 hu34
 have U53 := u1 U52 hu37 (ni U51.size hg32)
 have U54 := u1 U53 hu44 (ni hu14.size hg23)
 refine cb ((((Cur.mk b false 0).byteV) == 13)) (fun q55 => ?_) (fun q55 => ?_)
 have q55p := eq_of_beqi q55
 refine sg <| Pl 2 <| L0 <| Oc <| mq (left_any hc47) <| ?_
 have hl56 := CurAt.len hc47
 refine Pl 1 <| L0 <| Oc <| m2 (need_any ((decide (((x45.l.length : Nat) : Int) ≤ 251))) 5 hc47) fun w57 hc58 hu59 => ?_
 refine ab hc58 fun x60 ex61 hc62 => ?_
 refine nt <| go <| Pl 2 <| L0 <| Oc <| mq (left_any hc62) <| ?_
 have hl63 := CurAt.len hc62
 refine L0 <| Oc <| sr3 (bytes_any (n := ((x60.l.length : Nat) : Int)) hc62) fun A73 cp74 w64 rd77 hl75 hm76 hc67 hu68 => ?_
 have hlb69 := Nat.le_trans (Cur.bytesR_le x60 ((x60.l.length : Nat) : Int)) (CurAt.len hc62)
 refine ab hc67 fun x70 ex71 hc72 => ?_
 refine Pl 1 <| ?_
 have U78 := u1 hu59 hu68 im
 have r79 := ub1 U78 (Ne.symm ne48) r49
 refine L0 <| Ost r79 14 (mG c 0 0 0 0 0 0 0 0 0 0 0 nS nS (.slice A73 ((x60.bytesR ((x60.l.length : Nat) : Int)).length) cp74) nS ((Cur.mk b false 0).byteV) 0 0 0 0 nS) fun w80 B81 hu82 => ng <| Pl 1 <| ?_
 have r83 := CurAt.upd hc72 hu82 (not_cons ne48 not0) (safe_cons (safe1 r79 (by decide)) safe0)
 refine L0 <| Oc <| m2 (end_any r83) fun w84 hc85 hu86 => nt <| sq <| sg <| Pl 1 <| L0 <| Oc <| mq (err_any hc85) <| ?_
 have hl87 := CurAt.len hc85
 refine Pl 1 <| ng <| Pl 2 <| nt <| ?_
 have U88 := u1 U54 hu59 (ni hu14.size hg23)
 have U89 := u1 U88 hu68 (ni hu14.size hg23)
 have U90 := u1 U89 hu82 (ni U51.size hg32)
 have U91 := u1 U90 hu86 (ni hu14.size hg23)
 refine cb ((x70.endC.e != 0)) (fun q92 => ?_) (fun q92 => ?_)
 have q92p := ne_of_bnei q92
 refine sg <| Pl 2 <| ?_
 have U93 := u1 hu25 hu28 (nr hg23)
 have U94 := ut0 U93 hu34
 have U95 := u1 U94 hu37 (ni U93.size hg32)
 have U96 := u1 U95 hu44 (nr hg23)
 have U97 := u1 U96 hu59 (nr hg23)
 have U98 := u1 U97 hu68 (nr hg23)
 have U99 := u1 U98 hu82 (ni U93.size hg32)
 have U100 := u1 U99 hu86 (nr hg23)
 have r101 := ub U100 B13
 refine L0 <| Osw r101 mZ fun w102 B103 hu104 => Pl 1 <| nt <| rt <| tr <| rct B103 (.int .i64 x70.endC.e) <| ?_
 subst ex71 ex61 ex46
 have U105 := u1 U91 hu104 (nr hg12)
 have U106 := u1 (Upd.mono (S' := [g30, g22]) hu82 (ac im all0)) hu86 im
 have U107 := u1 (Upd.mono (S' := [g30, g22, g10]) U106 (ac im (ac im all0))) hu104 im
 have r108 := ub U98 B13
 have r109 := RdB.upd' rd77 U107 (safe_cons (safe1 r79 (by decide)) (safe_cons (CurAt.safe hc72 _ (by decide)) (safe_cons (safe1 r108 (by decide)) safe0)))
 have hs : parseOf meiForm 1 c b = finish (Msg.mk c 0 0 0 0 0 0 0 0 0 0 0 [] [] (((((Cur.mk b false 0).bytesC 1).need ((((Cur.mk b false 0).byteV) == 13) || (((Cur.mk b false 0).byteV) == 14)) 8).need (decide ((((((Cur.mk b false 0).bytesC 1).need ((((Cur.mk b false 0).byteV) == 13) || (((Cur.mk b false 0).byteV) == 14)) 8).l.length : Nat) : Int) ≤ 251)) 5).bytesR ((((((Cur.mk b false 0).bytesC 1).need ((((Cur.mk b false 0).byteV) == 13) || (((Cur.mk b false 0).byteV) == 14)) 8).need (decide ((((((Cur.mk b false 0).bytesC 1).need ((((Cur.mk b false 0).byteV) == 13) || (((Cur.mk b false 0).byteV) == 14)) 8).l.length : Nat) : Int) ≤ 251)) 5).l.length : Nat) : Int)) [] ((Cur.mk b false 0).byteV) 0 0 0 0 []) (((((Cur.mk b false 0).bytesC 1).need ((((Cur.mk b false 0).byteV) == 13) || (((Cur.mk b false 0).byteV) == 14)) 8).need (decide ((((((Cur.mk b false 0).bytesC 1).need ((((Cur.mk b false 0).byteV) == 13) || (((Cur.mk b false 0).byteV) == 14)) 8).l.length : Nat) : Int) ≤ 251)) 5).bytesC ((((((Cur.mk b false 0).bytesC 1).need ((((Cur.mk b false 0).byteV) == 13) || (((Cur.mk b false 0).byteV) == 14)) 8).need (decide ((((((Cur.mk b false 0).bytesC 1).need ((((Cur.mk b false 0).byteV) == 13) || (((Cur.mk b false 0).byteV) == 14)) 8).l.length : Nat) : Int) ≤ 251)) 5).l.length : Nat) : Int)) := by
   unfold parseOf meiForm meiB meiD meiA
   (try simp only [q15, q55, q92, bs, if_true, if_false, decide_true, decide_false, eq_self, true_or, or_true, or_false, false_or, if_true, if_false, i00, i01, i10, i11, reduceIte])
   all_goals rfl
 rw [hs]
 exact finish_bad q92p U105
 have q92p := eq_of_bnei q92
 refine skn <| sg <| ?_
 have r110 := ub1 hu86 (Ne.symm ne48) B81
 refine L0 <| Olw r110 <| ?_
 have U111 := u1 hu25 hu28 (nr hg23)
 have U112 := ut0 U111 hu34
 have U113 := u1 U112 hu37 (ni U111.size hg32)
 have U114 := u1 U113 hu44 (nr hg23)
 have U115 := u1 U114 hu59 (nr hg23)
 have U116 := u1 U115 hu68 (nr hg23)
 have U117 := u1 U116 hu82 (ni U111.size hg32)
 have U118 := u1 U117 hu86 (nr hg23)
 have r119 := ub U118 B13
 refine L0 <| Osw r119 (mG c 0 0 0 0 0 0 0 0 0 0 0 nS nS (.slice A73 ((x60.bytesR ((x60.l.length : Nat) : Int)).length) cp74) nS ((Cur.mk b false 0).byteV) 0 0 0 0 nS) fun w120 B121 hu122 => Pl 1 <| nt <| rt <| rct B121 (.int .i64 0) <| ?_
 subst ex71 ex61 ex46
 have U123 := u1 U91 hu122 (nr hg12)
 have U124 := u1 (Upd.mono (S' := [g30, g22]) hu82 (ac im all0)) hu86 im
 have U125 := u1 (Upd.mono (S' := [g30, g22, g10]) U124 (ac im (ac im all0))) hu122 im
 have r126 := ub U116 B13
 have r127 := RdB.upd' rd77 U125 (safe_cons (safe1 r79 (by decide)) (safe_cons (CurAt.safe hc72 _ (by decide)) (safe_cons (safe1 r126 (by decide)) safe0)))
 have hs : parseOf meiForm 1 c b = finish (Msg.mk c 0 0 0 0 0 0 0 0 0 0 0 [] [] (((((Cur.mk b false 0).bytesC 1).need ((((Cur.mk b false 0).byteV) == 13) || (((Cur.mk b false 0).byteV) == 14)) 8).need (decide ((((((Cur.mk b false 0).bytesC 1).need ((((Cur.mk b false 0).byteV) == 13) || (((Cur.mk b false 0).byteV) == 14)) 8).l.length : Nat) : Int) ≤ 251)) 5).bytesR ((((((Cur.mk b false 0).bytesC 1).need ((((Cur.mk b false 0).byteV) == 13) || (((Cur.mk b false 0).byteV) == 14)) 8).need (decide ((((((Cur.mk b false 0).bytesC 1).need ((((Cur.mk b false 0).byteV) == 13) || (((Cur.mk b false 0).byteV) == 14)) 8).l.length : Nat) : Int) ≤ 251)) 5).l.length : Nat) : Int)) [] ((Cur.mk b false 0).byteV) 0 0 0 0 []) (((((Cur.mk b false 0).bytesC 1).need ((((Cur.mk b false 0).byteV) == 13) || (((Cur.mk b false 0).byteV) == 14)) 8).need (decide ((((((Cur.mk b false 0).bytesC 1).need ((((Cur.mk b false 0).byteV) == 13) || (((Cur.mk b false 0).byteV) == 14)) 8).l.length : Nat) : Int) ≤ 251)) 5).bytesC ((((((Cur.mk b false 0).bytesC 1).need ((((Cur.mk b false 0).byteV) == 13) || (((Cur.mk b false 0).byteV) == 14)) 8).need (decide ((((((Cur.mk b false 0).bytesC 1).need ((((Cur.mk b false 0).byteV) == 13) || (((Cur.mk b false 0).byteV) == 14)) 8).l.length : Nat) : Int) ≤ 251)) 5).l.length : Nat) : Int)) := by
   unfold parseOf meiForm meiB meiD meiA
   (try simp only [q15, q55, q92, bs, if_true, if_false, decide_true, decide_false, eq_self, true_or, or_true, or_false, false_or, if_true, if_false, i00, i01, i10, i11, reduceIte])
   all_goals rfl
 rw [hs]
 exact finish_ok q92p ⟨_, _, _, _, _, rfl, RdG.nil .., RdG.nil .., r127, RdG.nil .., RdG.nil .., ⟨(b8 (x := c) (by omega)), (b8 (x := 0) (by omega)), (b16 (x := 0) (by omega)), (b16 (x := 0) (by omega)), (b16 (x := 0) (by omega)), (b16 (x := 0) (by omega)), (b16 (x := 0) (by omega)), (b16 (x := 0) (by omega)), (b16 (x := 0) (by omega)), (b16 (x := 0) (by omega)), (b16 (x := 0) (by omega)), (b16 (x := 0) (by omega)), (b8 (x := (Cur.mk b false 0).byteV) (by omega)), (b8 (x := 0) (by omega)), (b8 (x := 0) (by omega)), (b8 (x := 0) (by omega)), (b8 (x := 0) (by omega))⟩⟩ U123
 have q55p := ne_of_beqi q55
 refine sg <| Pl 1 <| L0 <| Oc <| m3 (byte_any hc47) fun w128 hc129 hu130 hr131 => Pl 1 <| ?_
 have r132 := ub1 hu130 (Ne.symm ne48) r49
 refine L0 <| Ost r132 17 (mG c 0 0 0 0 0 0 0 0 0 0 0 nS nS nS nS ((Cur.mk b false 0).byteV) x45.byteV 0 0 0 nS) fun w133 B134 hu135 => ng <| Pl 2 <| L0 <| Olb B134 17 <| Pl 2 <| cu 4 [59] 63 (((decide (1 ≤ x45.byteV)) && (decide (x45.byteV ≤ 4)))) (fun K K137 => ?_) ?_
 refine bl 59 ((decide (1 ≤ x45.byteV))) (fun q136 => ?_) (fun q136 => ?_)
 have q136p := of_decide_eq_true q136
 exact Pl 1 <| L1 <| Olb B134 17 <| Pl 2 <| ce K137 (decide (x45.byteV ≤ 4)) (by rw [q136]; rfl)
 have q136p := of_decide_eq_false q136
 exact Pl 4 <| ce K137 false (by rw [q136]; rfl)
 have r138 := CurAt.upd hc129 hu135 (not_cons ne48 not0) (safe_cons (safe1 r132 (by decide)) safe0)
 refine L0 <| Oc <| m2 (need_any (((decide (1 ≤ x45.byteV)) && (decide (x45.byteV ≤ 4)))) 6 r138) fun w139 hc140 hu141 => ?_
 refine ab hc140 fun x142 ex143 hc144 => ?_
 refine ng <| Pl 2 <| nt <| c1 <| go <| Pl 1 <| ?_
 have r145 := ub1 hu141 (Ne.symm ne48) B134
 refine L0 <| Oc <| m3 (meians_any (c := c) (me := (Cur.mk b false 0).byteV) (kd := x45.byteV) ⟨hcode1, hcode2⟩ (b8 (by omega)) (b8 (by omega)) hc144 r145 ne48) fun w146 hc147 hx152 hu151 => ?_
 obtain ⟨cs148, hm149, hM150⟩ := hx152
 refine ng <| Pl 1 <| L0 <| Oc <| m2 (end_any hc147) fun w153 hc154 hu155 => ?_
 refine ab hc154 fun x156 ex157 hc158 => ?_
 refine nt <| sq <| sg <| Pl 1 <| L0 <| Oc <| mq (err_any hc158) <| ?_
 have hl159 := CurAt.len hc158
 refine Pl 1 <| ng <| Pl 2 <| nt <| ?_
 have U160 := u1 U54 hu130 (ni hu14.size hg23)
 have U161 := u1 U160 hu135 (ni U51.size hg32)
 have U162 := u1 U161 hu141 (ni hu14.size hg23)
 have U163 := ut U162 hu151 (ac (ni hu14.size hg23) (ac (ni U51.size hg32) all0))
 have U164 := u1 U163 hu155 (ni hu14.size hg23)
 refine cb ((x156.e != 0)) (fun q165 => ?_) (fun q165 => ?_)
 have q165p := ne_of_bnei q165
 refine sg <| Pl 2 <| ?_
 have U166 := u1 hu25 hu28 (nr hg23)
 have U167 := ut0 U166 hu34
 have U168 := u1 U167 hu37 (ni U166.size hg32)
 have U169 := u1 U168 hu44 (nr hg23)
 have U170 := u1 U169 hu130 (nr hg23)
 have U171 := u1 U170 hu135 (ni U166.size hg32)
 have U172 := u1 U171 hu141 (nr hg23)
 have U173 := ut U172 hu151 (ac (nr hg23) (ac (ni U166.size hg32) all0))
 have U174 := u1 U173 hu155 (nr hg23)
 have r175 := ub U174 B13
 refine L0 <| Osw r175 mZ fun w176 B177 hu178 => Pl 1 <| nt <| rt <| tr <| rct B177 (.int .i64 x156.e) <| ?_
 subst ex157 ex143 ex46
 have U179 := u1 U164 hu178 (nr hg12)
 have hs : parseOf meiForm 1 c b = finish ({ Msg.zero with code := c, mei := (Cur.mk b false 0).byteV, kind := (((Cur.mk b false 0).bytesC 1).need ((((Cur.mk b false 0).byteV) == 13) || (((Cur.mk b false 0).byteV) == 14)) 8).byteV, level := (((((Cur.mk b false 0).bytesC 1).need ((((Cur.mk b false 0).byteV) == 13) || (((Cur.mk b false 0).byteV) == 14)) 8).bytesC 1).need ((decide (1 ≤ (((Cur.mk b false 0).bytesC 1).need ((((Cur.mk b false 0).byteV) == 13) || (((Cur.mk b false 0).byteV) == 14)) 8).byteV)) && (decide ((((Cur.mk b false 0).bytesC 1).need ((((Cur.mk b false 0).byteV) == 13) || (((Cur.mk b false 0).byteV) == 14)) 8).byteV ≤ 4))) 6).byteV, more := (mei1 (((((Cur.mk b false 0).bytesC 1).need ((((Cur.mk b false 0).byteV) == 13) || (((Cur.mk b false 0).byteV) == 14)) 8).bytesC 1).need ((decide (1 ≤ (((Cur.mk b false 0).bytesC 1).need ((((Cur.mk b false 0).byteV) == 13) || (((Cur.mk b false 0).byteV) == 14)) 8).byteV)) && (decide ((((Cur.mk b false 0).bytesC 1).need ((((Cur.mk b false 0).byteV) == 13) || (((Cur.mk b false 0).byteV) == 14)) 8).byteV ≤ 4))) 6)).byteV, next := (mei2 (((((Cur.mk b false 0).bytesC 1).need ((((Cur.mk b false 0).byteV) == 13) || (((Cur.mk b false 0).byteV) == 14)) 8).bytesC 1).need ((decide (1 ≤ (((Cur.mk b false 0).bytesC 1).need ((((Cur.mk b false 0).byteV) == 13) || (((Cur.mk b false 0).byteV) == 14)) 8).byteV)) && (decide ((((Cur.mk b false 0).bytesC 1).need ((((Cur.mk b false 0).byteV) == 13) || (((Cur.mk b false 0).byteV) == 14)) 8).byteV ≤ 4))) 6)).byteV, objects := (meiObjs (((Cur.mk b false 0).bytesC 1).need ((((Cur.mk b false 0).byteV) == 13) || (((Cur.mk b false 0).byteV) == 14)) 8).byteV (((((Cur.mk b false 0).bytesC 1).need ((((Cur.mk b false 0).byteV) == 13) || (((Cur.mk b false 0).byteV) == 14)) 8).bytesC 1).need ((decide (1 ≤ (((Cur.mk b false 0).bytesC 1).need ((((Cur.mk b false 0).byteV) == 13) || (((Cur.mk b false 0).byteV) == 14)) 8).byteV)) && (decide ((((Cur.mk b false 0).bytesC 1).need ((((Cur.mk b false 0).byteV) == 13) || (((Cur.mk b false 0).byteV) == 14)) 8).byteV ≤ 4))) 6)).2 }) ((meiObjs (((Cur.mk b false 0).bytesC 1).need ((((Cur.mk b false 0).byteV) == 13) || (((Cur.mk b false 0).byteV) == 14)) 8).byteV (((((Cur.mk b false 0).bytesC 1).need ((((Cur.mk b false 0).byteV) == 13) || (((Cur.mk b false 0).byteV) == 14)) 8).bytesC 1).need ((decide (1 ≤ (((Cur.mk b false 0).bytesC 1).need ((((Cur.mk b false 0).byteV) == 13) || (((Cur.mk b false 0).byteV) == 14)) 8).byteV)) && (decide ((((Cur.mk b false 0).bytesC 1).need ((((Cur.mk b false 0).byteV) == 13) || (((Cur.mk b false 0).byteV) == 14)) 8).byteV ≤ 4))) 6)).1) := by
   unfold parseOf meiForm meiB meiD meiA
   (try simp only [q15, q55, q165, bs, if_true, if_false, decide_true, decide_false, eq_self, true_or, or_true, or_false, false_or, if_true, if_false, i00, i01, i10, i11, reduceIte])
   all_goals rfl
 rw [hs]
 exact finish_bad q165p U179
 have q165p := eq_of_bnei q165
 refine skn <| sg <| ?_
 have r180 := ub1 hu155 (Ne.symm ne48) hm149.1
 refine L0 <| Olw (hz := (by rw [hm149.2]; exact msg_size)) r180 <| ?_
 have U181 := u1 hu25 hu28 (nr hg23)
 have U182 := ut0 U181 hu34
 have U183 := u1 U182 hu37 (ni U181.size hg32)
 have U184 := u1 U183 hu44 (nr hg23)
 have U185 := u1 U184 hu130 (nr hg23)
 have U186 := u1 U185 hu135 (ni U181.size hg32)
 have U187 := u1 U186 hu141 (nr hg23)
 have U188 := ut U187 hu151 (ac (nr hg23) (ac (ni U181.size hg32) all0))
 have U189 := u1 U188 hu155 (nr hg23)
 have r190 := ub U189 B13
 refine L0 <| Osw (hz := (by rw [hm149.2]; exact msg_size)) (hv := hM150.size) (h1 := hM150.one) r190 (cs148) fun w191 B192 hu193 => Pl 1 <| nt <| rt <| rctx 22 hm149.2 B192 (.int .i64 0) <| ?_
 subst ex157 ex143 ex46
 have U194 := u1 U164 hu193 (nr hg12)
 have hs : parseOf meiForm 1 c b = finish ({ Msg.zero with code := c, mei := (Cur.mk b false 0).byteV, kind := (((Cur.mk b false 0).bytesC 1).need ((((Cur.mk b false 0).byteV) == 13) || (((Cur.mk b false 0).byteV) == 14)) 8).byteV, level := (((((Cur.mk b false 0).bytesC 1).need ((((Cur.mk b false 0).byteV) == 13) || (((Cur.mk b false 0).byteV) == 14)) 8).bytesC 1).need ((decide (1 ≤ (((Cur.mk b false 0).bytesC 1).need ((((Cur.mk b false 0).byteV) == 13) || (((Cur.mk b false 0).byteV) == 14)) 8).byteV)) && (decide ((((Cur.mk b false 0).bytesC 1).need ((((Cur.mk b false 0).byteV) == 13) || (((Cur.mk b false 0).byteV) == 14)) 8).byteV ≤ 4))) 6).byteV, more := (mei1 (((((Cur.mk b false 0).bytesC 1).need ((((Cur.mk b false 0).byteV) == 13) || (((Cur.mk b false 0).byteV) == 14)) 8).bytesC 1).need ((decide (1 ≤ (((Cur.mk b false 0).bytesC 1).need ((((Cur.mk b false 0).byteV) == 13) || (((Cur.mk b false 0).byteV) == 14)) 8).byteV)) && (decide ((((Cur.mk b false 0).bytesC 1).need ((((Cur.mk b false 0).byteV) == 13) || (((Cur.mk b false 0).byteV) == 14)) 8).byteV ≤ 4))) 6)).byteV, next := (mei2 (((((Cur.mk b false 0).bytesC 1).need ((((Cur.mk b false 0).byteV) == 13) || (((Cur.mk b false 0).byteV) == 14)) 8).bytesC 1).need ((decide (1 ≤ (((Cur.mk b false 0).bytesC 1).need ((((Cur.mk b false 0).byteV) == 13) || (((Cur.mk b false 0).byteV) == 14)) 8).byteV)) && (decide ((((Cur.mk b false 0).bytesC 1).need ((((Cur.mk b false 0).byteV) == 13) || (((Cur.mk b false 0).byteV) == 14)) 8).byteV ≤ 4))) 6)).byteV, objects := (meiObjs (((Cur.mk b false 0).bytesC 1).need ((((Cur.mk b false 0).byteV) == 13) || (((Cur.mk b false 0).byteV) == 14)) 8).byteV (((((Cur.mk b false 0).bytesC 1).need ((((Cur.mk b false 0).byteV) == 13) || (((Cur.mk b false 0).byteV) == 14)) 8).bytesC 1).need ((decide (1 ≤ (((Cur.mk b false 0).bytesC 1).need ((((Cur.mk b false 0).byteV) == 13) || (((Cur.mk b false 0).byteV) == 14)) 8).byteV)) && (decide ((((Cur.mk b false 0).bytesC 1).need ((((Cur.mk b false 0).byteV) == 13) || (((Cur.mk b false 0).byteV) == 14)) 8).byteV ≤ 4))) 6)).2 }) ((meiObjs (((Cur.mk b false 0).bytesC 1).need ((((Cur.mk b false 0).byteV) == 13) || (((Cur.mk b false 0).byteV) == 14)) 8).byteV (((((Cur.mk b false 0).bytesC 1).need ((((Cur.mk b false 0).byteV) == 13) || (((Cur.mk b false 0).byteV) == 14)) 8).bytesC 1).need ((decide (1 ≤ (((Cur.mk b false 0).bytesC 1).need ((((Cur.mk b false 0).byteV) == 13) || (((Cur.mk b false 0).byteV) == 14)) 8).byteV)) && (decide ((((Cur.mk b false 0).bytesC 1).need ((((Cur.mk b false 0).byteV) == 13) || (((Cur.mk b false 0).byteV) == 14)) 8).byteV ≤ 4))) 6)).1) := by
   unfold parseOf meiForm meiB meiD meiA
   (try simp only [q15, q55, q165, bs, if_true, if_false, decide_true, decide_false, eq_self, true_or, or_true, or_false, false_or, if_true, if_false, i00, i01, i10, i11, reduceIte])
   all_goals rfl
 rw [hs]
 have U195 := u1 (Upd.mono (S' := [g22, g10]) hu155 (ac im all0)) hu193 im
 have r196 := ub U188 B13
 have r197 := MsgRd.upd hM150 U195 (safe_cons (CurAt.safe hc147 _ (by decide)) (safe_cons (safe1 r196 (by decide)) safe0))
 exact finish_ok q165p r197 U194
set_option maxRecDepth 100000 in
set_option maxHeartbeats 4000000 in
theorem mei_parse_x {m : Bool} {A : Option Addr} {cp : Nat} {b : List Int} {w : World} {dir c : Int} (hcode : B8 c) (hsl : RdB m w (.slice A b.length cp) b) (hb : b.length ≤ 1048576) (hd : ¬ (dir = 0 ∨ dir = 1)) :
    Calls Try.prog 45 #[.int .i64 dir, .int .u8 c, .slice A b.length cp] w (PMsg (parseOf meiForm dir c b) w) := by
 obtain ⟨hcode1, hcode2⟩ := hcode
 have hln : (b.length : Int) ≤ 1048576 := by omega
 have e0 : (dir != 0) = true := by simp; omega
 have e1 : (dir != 1) = true := by simp; omega
 refine en 81 Try.func45 rfl <| sg <| L0 <| Oal mZ fun g10 w11 hg12 B13 hu14 => Pl 1 <| nt <| sq <| bk <| sg <| Pl 3 <| sy 14 e0 <| Pl 4 <| nl <| ?_
 refine tn <| ct e1 <| sg <| Pl 1 <| L0 <| Osw B13 mZ fun w15 B16 hu17 => Pl 1 <| nt <| rt <| br <| tr <| rct B16 (.int .i64 1) <| ?_
 have U18 := u1 hu14 hu17 (nr hg12)
 have hs : parseOf meiForm dir c b = (Msg.zero, 1) := by
   unfold parseOf meiForm meiB meiD meiA
   (try simp only [e0, e1, bs, if_true, if_false, decide_true, decide_false, eq_self, true_or, or_true, or_false, false_or, if_true, if_false, i00, i01, i10, i11, reduceIte, hd])
   all_goals rfl
 rw [hs]
 exact bad_res U18
theorem mei_parse {m : Bool} {v : Value} {b : List Int} {w : World} {dir c : Int} (hc : B8 c) (h : RdB m w v b) (hb : b.length ≤ 1048576) :
    Calls Try.prog 45 #[.int .i64 dir, .int .u8 c, v] w (PMsg (parseOf meiForm dir c b) w) := by
  obtain ⟨A, cp, rfl, _, _⟩ := h.shape
  by_cases h0 : dir = 0
  · subst h0; exact mei_parse_0 hc h hb
  by_cases h1 : dir = 1
  · subst h1; exact mei_parse_1 hc h hb
  exact mei_parse_x hc h hb (by omega)
theorem pm_eq {x y : Msg × Int} (h : x = y) {w : World} {e : Ending} {w' : World} (k : PMsg y w e w') : PMsg x w e w' := by rw [h]; exact k
def famP : Nat → Int → List Int → Msg × Int
  | 1, dir, b => parseOf coilsForm dir (b.getD 0 0) (b.drop 1)
  | 2, dir, b => parseOf regsForm dir (b.getD 0 0) (b.drop 1)
  | 3, dir, b => parseOf diagForm dir (b.getD 0 0) (b.drop 1)
  | 4, dir, b => parseOf filesForm dir (b.getD 0 0) (b.drop 1)
  | 5, dir, b => parseOf meiForm dir (b.getD 0 0) (b.drop 1)
  | _, _, _ => (Msg.zero, 4)
def pduP (dir : Int) (b : List Int) : Msg × Int :=
  if dir != 0 && dir != 1 then (Msg.zero, 1)
  else if (b.length : Int) == 0 then (Msg.zero, 2)
  else if decide (253 < (b.length : Int)) then (Msg.zero, 3)
  else if decide (128 ≤ b.getD 0 0) && dir == 1 then refP b
  else famP (cfam (b.getD 0 0)) dir b
set_option maxRecDepth 100000 in
set_option maxHeartbeats 4000000 in
theorem pdu_parse0 {m : Bool} {A : Option Addr} {cp : Nat} {b : List Int} {w : World} {dir : Int} (hsl : RdB m w (.slice A b.length cp) b) (hb : b.length ≤ 1048576) :
    Calls Try.prog 15 #[.int .i64 dir, .slice A b.length cp] w (PMsg (pduP dir b) w) := by
 have hln : (b.length : Int) ≤ 1048576 := by omega
 refine en 60 Try.func15 rfl <| sg <| L0 <| Oal mZ fun g10 w11 hg12 B13 hu14 => Pl 1 <| nt <| sq <| bk <| sg <| Pl 3 <| cu 3 [11] 14 (((dir != 0) && (dir != 1))) (fun K K16 => ?_) ?_
 refine bl 11 ((dir != 0)) (fun q15 => ?_) (fun q15 => ?_)
 have q15p := ne_of_bnei q15
 exact Pl 3 <| ce K16 (dir != 1) (by rw [q15]; rfl)
 have q15p := eq_of_bnei q15
 exact Pl 3 <| ce K16 false (by rw [q15]; rfl)
 refine Pl 1 <| nt <| cb (((dir != 0) && (dir != 1))) (fun q17 => ?_) (fun q17 => ?_)
 have q17a := (and_t q17).1
 have q17b := (and_t q17).2
 have q17ap := ne_of_bnei q17a
 have q17bp := ne_of_bnei q17b
 refine sg <| Pl 1 <| L0 <| Osw B13 mZ fun w18 B19 hu20 => Pl 1 <| nt <| rt <| br <| tr <| rct B19 (.int .i64 1) <| ?_
 have hs : pduP dir b = (Msg.zero, 1) := by
   unfold pduP
   (try simp only [q17, q17a, q17b, bs, if_true, if_false, decide_true, decide_false, famP, reduceIte])
   all_goals rfl
 refine pm_eq hs ?_
 have U21 := u1 hu14 hu20 (nr hg12)
 exact bad_res U21
 refine sg <| Pl 4 <| nt <| cb ((((b.length : Nat) : Int) == 0)) (fun q22 => ?_) (fun q22 => ?_)
 have q22p := eq_of_beqi q22
 refine sg <| Pl 1 <| L0 <| Osw B13 mZ fun w23 B24 hu25 => Pl 1 <| nt <| rt <| br <| tr <| rct B24 (.int .i64 2) <| ?_
 have hs : pduP dir b = (Msg.zero, 2) := by
   unfold pduP
   (try simp only [q17, q22, bs, if_true, if_false, decide_true, decide_false, famP, reduceIte])
   all_goals rfl
 refine pm_eq hs ?_
 have U26 := u1 hu14 hu25 (nr hg12)
 exact bad_res U26
 have q22p := ne_of_beqi q22
 refine sg <| Pl 4 <| nt <| cb ((decide (253 < ((b.length : Nat) : Int)))) (fun q27 => ?_) (fun q27 => ?_)
 have q27p := of_decide_eq_true q27
 refine sg <| Pl 1 <| L0 <| Osw B13 mZ fun w28 B29 hu30 => Pl 1 <| nt <| rt <| br <| tr <| rct B29 (.int .i64 3) <| ?_
 have hs : pduP dir b = (Msg.zero, 3) := by
   unfold pduP
   (try simp only [q17, q22, q27, bs, if_true, if_false, decide_true, decide_false, famP, reduceIte])
   all_goals rfl
 refine pm_eq hs ?_
 have U31 := u1 hu14 hu30 (nr hg12)
 exact bad_res U31
 have q27p := of_decide_eq_false q27
 refine sg <| Pl 1 <| ?_
 have r32 := RdB.old hsl hu14
 refine x23 (RdB.at_ r32 0 (by omega)) fun b33 o34 hA35 hl36 hr37 => L0 <| Oix b.length 0 hA35 (by omega) <| L0 <| Old (p := ⟨b33, o34 + 0, none⟩) (v := .int .u8 (b.getD 0 0)) hl36 <| Pl 2 <| cu 3 [31] 34 (((decide (128 ≤ (b.getD 0 0))) && (dir == 1))) (fun K K39 => ?_) ?_
 refine bl 31 ((decide (128 ≤ (b.getD 0 0)))) (fun q38 => ?_) (fun q38 => ?_)
 have q38p := of_decide_eq_true q38
 exact Pl 3 <| ce K39 (dir == 1) (by rw [q38]; rfl)
 have q38p := of_decide_eq_false q38
 exact Pl 3 <| ce K39 false (by rw [q38]; rfl)
 refine Pl 1 <| nt <| cb (((decide (128 ≤ (b.getD 0 0))) && (dir == 1))) (fun q40 => ?_) (fun q40 => ?_)
 have q40a := (and_t q40).1
 have q40b := (and_t q40).2
 have q40ap := of_decide_eq_true q40a
 have q40bp := eq_of_beqi q40b
 refine sg <| Pl 1 <| L0 <| Oc <| e2 (ref_parse r32 (by omega)) fun cs42 w41 hM43 hu44 => Pl 2 <| ?_
 have r45 := ub hu44 B13
 refine L0 <| Osw (hz := (by rw [hM43.size]; exact msg_size)) (hv := hM43.size) (h1 := hM43.one) r45 (cs42) fun w46 B47 hu48 => Pl 1 <| nt <| rt <| br <| tr <| rctx 22 hM43.size B47 (.int .i64 (((refP b)).2)) <| ?_
 have hs : pduP dir b = (refP b) := by
   unfold pduP
   (try simp only [q17, q22, q27, q40, q40a, q40b, bs, if_true, if_false, decide_true, decide_false, famP, reduceIte])
   all_goals rfl
 refine pm_eq hs ?_
 have r49 := MsgRd.upd hM43 hu48 (safe_cons (safe1 r45 (by decide)) safe0)
 have U50 := ut0 hu14 hu44
 have U51 := u1 U50 hu48 (nr hg12)
 exact ⟨_, rfl, r49, U51⟩
 refine sk <| bn <| tn <| sg <| Pl 1 <| x23 (RdB.at_ r32 0 (by omega)) fun b52 o53 hA54 hl55 hr56 => L0 <| Oix b.length 0 hA54 (by omega) <| L0 <| Old (p := ⟨b52, o53 + 0, none⟩) (v := .int .u8 (b.getD 0 0)) hl55 <| ?_
 rcases cfam_dich (b.getD 0 0) with ⟨hk, hkf⟩ | ⟨hk, hkf⟩ | ⟨hk, hkf⟩ | ⟨hk, hkf⟩ | ⟨hk, hkf⟩ | ⟨hk, hkf⟩
 have ho57 := of_any (x := (b.getD 0 0)) (w := w11)
 rw [hkf] at ho57
 refine L0 <| Oc <| m1 ho57 fun w58 hu59 => Pl 3 <| L0 <| Oal #[.nilFunc, .nilFunc] fun g60 w61 hg62 B63 hu64 => L0 <| Osw B63 #[.func (.func 37) #[] #[], .func (.func 38) #[] #[]] fun w65 B66 hu67 => Pl 1 <| nt <| sq <| sg <| Pl 2 <| nt <| c0 <| ?_
 refine skn <| sq <| Rg 13 (fun w' => w'.cell? ⟨g60, 0, none⟩ = some (.func (.func 37) #[] #[])) fun w88 hu89 => ?_
 have r91 := ub hu89 B66
 refine hld (blk_at r91 rfl) fun hS90 => Rt 0 hS90 <| Rl 1 hS90 (fun _ hs => hs) <| Rt 2 hS90 <| Rt 3 hS90 <| Rt 6 hS90 <| x12 (cut_from (P := Try.prog) 22 5 1 Try.underlying22 rfl rfl A b.length cp 1 (by omega)) fun A92 hrun93 hrd94 => ?_
 have U95 := ut0 hu59 hu64
 have U96 := u1 U95 hu67 (ni hu59.size hg62)
 have U97 := ut0 U96 hu89
 have r98 := RdB.old r32 U97
 refine Rr 7 hS90 (.slice A92 (b.length - 1) (cp - 1)) (fun _ _ => run_cutf (kl := .i64) (k := ((1 : Nat) : Int)) (A := A) (n := b.length) (c := cp) rfl Try.underlying22 (by kernel_rfl) (by kernel_rfl) (hrun93 _ _)) <| x23 (RdB.at_ r98 0 (by omega)) fun b99 o100 hA101 hl102 hr103 => R0 4 rfl <| Oix b.length 0 hA101 (by omega) <| hld (blk_at r91 rfl) fun hS104 => R0 5 rfl <| Old (p := ⟨b99, o100 + 0, none⟩) (v := .int .u8 (b.getD 0 0)) hl102 <| hld (blk_at r91 rfl) fun hS105 => R0 8 rfl <| Ocv #[] #[] (args := #[.int .i64 dir, .int .u8 (b.getD 0 0), .slice A92 (b.length - 1) (cp - 1)]) <| e2 (coils_parse (dir := dir) (c := (b.getD 0 0)) (b8 (by omega)) (hrd94 _ _ _ _ _ r98) (by (try simp only [List.length_drop]); omega)) fun cs107 w106 hM108 hu109 => ?_
 have r111 := ub hu109 r91
 refine hld (blk_at r111 rfl) fun hS110 => Rt 9 hS110 <| Rt 10 hS110 <| ?_
 have U112 := ut0 U97 hu109
 have r113 := ub U112 B13
 refine R0 11 rfl <| Osw (hz := (by rw [hM108.size]; exact msg_size)) (hv := hM108.size) (h1 := hM108.one) r113 (cs107) fun w114 B115 hu116 => ?_
 have ne118 := nb (blk_lt B13) hu59.size hg62
 have r119 := ub1 hu116 (Ne.symm ne118) r111
 refine hld (blk_at r119 rfl) fun hS117 => Rt 12 hS117 <| re <| tn <| rt <| rctx 22 hM108.size B115 (.int .i64 (((parseOf coilsForm dir (b.getD 0 0) (b.drop 1))).2)) <| ?_
 have hs : pduP dir b = (parseOf coilsForm dir (b.getD 0 0) (b.drop 1)) := by
   unfold pduP
   (try simp only [q17, q22, q27, q40, bs, if_true, if_false, decide_true, decide_false, hkf, famP, reduceIte])
   all_goals rfl
 refine pm_eq hs ?_
 have r120 := MsgRd.upd hM108 hu116 (safe_cons (safe1 r113 (by decide)) safe0)
 have U121 := ut0 hu14 hu59
 have U122 := ut0 U121 hu64
 have U123 := u1 U122 hu67 (ni U121.size hg62)
 have U124 := ut0 U123 hu89
 have U125 := ut0 U124 hu109
 have U126 := u1 U125 hu116 (nr hg12)
 exact ⟨_, rfl, r120, U126⟩
 have ho127 := of_any (x := (b.getD 0 0)) (w := w11)
 rw [hkf] at ho127
 refine L0 <| Oc <| m1 ho127 fun w128 hu129 => Pl 3 <| L0 <| Oal #[.nilFunc, .nilFunc] fun g130 w131 hg132 B133 hu134 => L0 <| Osw B133 #[.func (.func 39) #[] #[], .func (.func 40) #[] #[]] fun w135 B136 hu137 => Pl 1 <| nt <| sq <| sg <| Pl 2 <| nt <| c0 <| ?_
 refine skn <| sq <| Rg 13 (fun w' => w'.cell? ⟨g130, 0, none⟩ = some (.func (.func 39) #[] #[])) fun w158 hu159 => ?_
 have r161 := ub hu159 B136
 refine hld (blk_at r161 rfl) fun hS160 => Rt 0 hS160 <| Rl 1 hS160 (fun _ hs => hs) <| Rt 2 hS160 <| Rt 3 hS160 <| Rt 6 hS160 <| x12 (cut_from (P := Try.prog) 22 5 1 Try.underlying22 rfl rfl A b.length cp 1 (by omega)) fun A162 hrun163 hrd164 => ?_
 have U165 := ut0 hu129 hu134
 have U166 := u1 U165 hu137 (ni hu129.size hg132)
 have U167 := ut0 U166 hu159
 have r168 := RdB.old r32 U167
 refine Rr 7 hS160 (.slice A162 (b.length - 1) (cp - 1)) (fun _ _ => run_cutf (kl := .i64) (k := ((1 : Nat) : Int)) (A := A) (n := b.length) (c := cp) rfl Try.underlying22 (by kernel_rfl) (by kernel_rfl) (hrun163 _ _)) <| x23 (RdB.at_ r168 0 (by omega)) fun b169 o170 hA171 hl172 hr173 => R0 4 rfl <| Oix b.length 0 hA171 (by omega) <| hld (blk_at r161 rfl) fun hS174 => R0 5 rfl <| Old (p := ⟨b169, o170 + 0, none⟩) (v := .int .u8 (b.getD 0 0)) hl172 <| hld (blk_at r161 rfl) fun hS175 => R0 8 rfl <| Ocv #[] #[] (args := #[.int .i64 dir, .int .u8 (b.getD 0 0), .slice A162 (b.length - 1) (cp - 1)]) <| e2 (regs_parse (dir := dir) (c := (b.getD 0 0)) (b8 (by omega)) (hrd164 _ _ _ _ _ r168) (by (try simp only [List.length_drop]); omega)) fun cs177 w176 hM178 hu179 => ?_
 have r181 := ub hu179 r161
 refine hld (blk_at r181 rfl) fun hS180 => Rt 9 hS180 <| Rt 10 hS180 <| ?_
 have U182 := ut0 U167 hu179
 have r183 := ub U182 B13
 refine R0 11 rfl <| Osw (hz := (by rw [hM178.size]; exact msg_size)) (hv := hM178.size) (h1 := hM178.one) r183 (cs177) fun w184 B185 hu186 => ?_
 have ne188 := nb (blk_lt B13) hu129.size hg132
 have r189 := ub1 hu186 (Ne.symm ne188) r181
 refine hld (blk_at r189 rfl) fun hS187 => Rt 12 hS187 <| re <| tn <| rt <| rctx 22 hM178.size B185 (.int .i64 (((parseOf regsForm dir (b.getD 0 0) (b.drop 1))).2)) <| ?_
 have hs : pduP dir b = (parseOf regsForm dir (b.getD 0 0) (b.drop 1)) := by
   unfold pduP
   (try simp only [q17, q22, q27, q40, bs, if_true, if_false, decide_true, decide_false, hkf, famP, reduceIte])
   all_goals rfl
 refine pm_eq hs ?_
 have r190 := MsgRd.upd hM178 hu186 (safe_cons (safe1 r183 (by decide)) safe0)
 have U191 := ut0 hu14 hu129
 have U192 := ut0 U191 hu134
 have U193 := u1 U192 hu137 (ni U191.size hg132)
 have U194 := ut0 U193 hu159
 have U195 := ut0 U194 hu179
 have U196 := u1 U195 hu186 (nr hg12)
 exact ⟨_, rfl, r190, U196⟩
 have ho197 := of_any (x := (b.getD 0 0)) (w := w11)
 rw [hkf] at ho197
 refine L0 <| Oc <| m1 ho197 fun w198 hu199 => Pl 3 <| L0 <| Oal #[.nilFunc, .nilFunc] fun g200 w201 hg202 B203 hu204 => L0 <| Osw B203 #[.func (.func 41) #[] #[], .func (.func 42) #[] #[]] fun w205 B206 hu207 => Pl 1 <| nt <| sq <| sg <| Pl 2 <| nt <| c0 <| ?_
 refine skn <| sq <| Rg 13 (fun w' => w'.cell? ⟨g200, 0, none⟩ = some (.func (.func 41) #[] #[])) fun w228 hu229 => ?_
 have r231 := ub hu229 B206
 refine hld (blk_at r231 rfl) fun hS230 => Rt 0 hS230 <| Rl 1 hS230 (fun _ hs => hs) <| Rt 2 hS230 <| Rt 3 hS230 <| Rt 6 hS230 <| x12 (cut_from (P := Try.prog) 22 5 1 Try.underlying22 rfl rfl A b.length cp 1 (by omega)) fun A232 hrun233 hrd234 => ?_
 have U235 := ut0 hu199 hu204
 have U236 := u1 U235 hu207 (ni hu199.size hg202)
 have U237 := ut0 U236 hu229
 have r238 := RdB.old r32 U237
 refine Rr 7 hS230 (.slice A232 (b.length - 1) (cp - 1)) (fun _ _ => run_cutf (kl := .i64) (k := ((1 : Nat) : Int)) (A := A) (n := b.length) (c := cp) rfl Try.underlying22 (by kernel_rfl) (by kernel_rfl) (hrun233 _ _)) <| x23 (RdB.at_ r238 0 (by omega)) fun b239 o240 hA241 hl242 hr243 => R0 4 rfl <| Oix b.length 0 hA241 (by omega) <| hld (blk_at r231 rfl) fun hS244 => R0 5 rfl <| Old (p := ⟨b239, o240 + 0, none⟩) (v := .int .u8 (b.getD 0 0)) hl242 <| hld (blk_at r231 rfl) fun hS245 => R0 8 rfl <| Ocv #[] #[] (args := #[.int .i64 dir, .int .u8 (b.getD 0 0), .slice A232 (b.length - 1) (cp - 1)]) <| e2 (diag_parse (dir := dir) (c := (b.getD 0 0)) (b8 (by omega)) (hrd234 _ _ _ _ _ r238) (by (try simp only [List.length_drop]); omega)) fun cs247 w246 hM248 hu249 => ?_
 have r251 := ub hu249 r231
 refine hld (blk_at r251 rfl) fun hS250 => Rt 9 hS250 <| Rt 10 hS250 <| ?_
 have U252 := ut0 U237 hu249
 have r253 := ub U252 B13
 refine R0 11 rfl <| Osw (hz := (by rw [hM248.size]; exact msg_size)) (hv := hM248.size) (h1 := hM248.one) r253 (cs247) fun w254 B255 hu256 => ?_
 have ne258 := nb (blk_lt B13) hu199.size hg202
 have r259 := ub1 hu256 (Ne.symm ne258) r251
 refine hld (blk_at r259 rfl) fun hS257 => Rt 12 hS257 <| re <| tn <| rt <| rctx 22 hM248.size B255 (.int .i64 (((parseOf diagForm dir (b.getD 0 0) (b.drop 1))).2)) <| ?_
 have hs : pduP dir b = (parseOf diagForm dir (b.getD 0 0) (b.drop 1)) := by
   unfold pduP
   (try simp only [q17, q22, q27, q40, bs, if_true, if_false, decide_true, decide_false, hkf, famP, reduceIte])
   all_goals rfl
 refine pm_eq hs ?_
 have r260 := MsgRd.upd hM248 hu256 (safe_cons (safe1 r253 (by decide)) safe0)
 have U261 := ut0 hu14 hu199
 have U262 := ut0 U261 hu204
 have U263 := u1 U262 hu207 (ni U261.size hg202)
 have U264 := ut0 U263 hu229
 have U265 := ut0 U264 hu249
 have U266 := u1 U265 hu256 (nr hg12)
 exact ⟨_, rfl, r260, U266⟩
 have ho267 := of_any (x := (b.getD 0 0)) (w := w11)
 rw [hkf] at ho267
 refine L0 <| Oc <| m1 ho267 fun w268 hu269 => Pl 3 <| L0 <| Oal #[.nilFunc, .nilFunc] fun g270 w271 hg272 B273 hu274 => L0 <| Osw B273 #[.func (.func 43) #[] #[], .func (.func 44) #[] #[]] fun w275 B276 hu277 => Pl 1 <| nt <| sq <| sg <| Pl 2 <| nt <| c0 <| ?_
 refine skn <| sq <| Rg 13 (fun w' => w'.cell? ⟨g270, 0, none⟩ = some (.func (.func 43) #[] #[])) fun w298 hu299 => ?_
 have r301 := ub hu299 B276
 refine hld (blk_at r301 rfl) fun hS300 => Rt 0 hS300 <| Rl 1 hS300 (fun _ hs => hs) <| Rt 2 hS300 <| Rt 3 hS300 <| Rt 6 hS300 <| x12 (cut_from (P := Try.prog) 22 5 1 Try.underlying22 rfl rfl A b.length cp 1 (by omega)) fun A302 hrun303 hrd304 => ?_
 have U305 := ut0 hu269 hu274
 have U306 := u1 U305 hu277 (ni hu269.size hg272)
 have U307 := ut0 U306 hu299
 have r308 := RdB.old r32 U307
 refine Rr 7 hS300 (.slice A302 (b.length - 1) (cp - 1)) (fun _ _ => run_cutf (kl := .i64) (k := ((1 : Nat) : Int)) (A := A) (n := b.length) (c := cp) rfl Try.underlying22 (by kernel_rfl) (by kernel_rfl) (hrun303 _ _)) <| x23 (RdB.at_ r308 0 (by omega)) fun b309 o310 hA311 hl312 hr313 => R0 4 rfl <| Oix b.length 0 hA311 (by omega) <| hld (blk_at r301 rfl) fun hS314 => R0 5 rfl <| Old (p := ⟨b309, o310 + 0, none⟩) (v := .int .u8 (b.getD 0 0)) hl312 <| hld (blk_at r301 rfl) fun hS315 => R0 8 rfl <| Ocv #[] #[] (args := #[.int .i64 dir, .int .u8 (b.getD 0 0), .slice A302 (b.length - 1) (cp - 1)]) <| e2 (files_parse (dir := dir) (c := (b.getD 0 0)) (b8 (by omega)) (hrd304 _ _ _ _ _ r308) (by (try simp only [List.length_drop]); omega)) fun cs317 w316 hM318 hu319 => ?_
 have r321 := ub hu319 r301
 refine hld (blk_at r321 rfl) fun hS320 => Rt 9 hS320 <| Rt 10 hS320 <| ?_
 have U322 := ut0 U307 hu319
 have r323 := ub U322 B13
 refine R0 11 rfl <| Osw (hz := (by rw [hM318.size]; exact msg_size)) (hv := hM318.size) (h1 := hM318.one) r323 (cs317) fun w324 B325 hu326 => ?_
 have ne328 := nb (blk_lt B13) hu269.size hg272
 have r329 := ub1 hu326 (Ne.symm ne328) r321
 refine hld (blk_at r329 rfl) fun hS327 => Rt 12 hS327 <| re <| tn <| rt <| rctx 22 hM318.size B325 (.int .i64 (((parseOf filesForm dir (b.getD 0 0) (b.drop 1))).2)) <| ?_
 have hs : pduP dir b = (parseOf filesForm dir (b.getD 0 0) (b.drop 1)) := by
   unfold pduP
   (try simp only [q17, q22, q27, q40, bs, if_true, if_false, decide_true, decide_false, hkf, famP, reduceIte])
   all_goals rfl
 refine pm_eq hs ?_
 have r330 := MsgRd.upd hM318 hu326 (safe_cons (safe1 r323 (by decide)) safe0)
 have U331 := ut0 hu14 hu269
 have U332 := ut0 U331 hu274
 have U333 := u1 U332 hu277 (ni U331.size hg272)
 have U334 := ut0 U333 hu299
 have U335 := ut0 U334 hu319
 have U336 := u1 U335 hu326 (nr hg12)
 exact ⟨_, rfl, r330, U336⟩
 have ho337 := of_any (x := (b.getD 0 0)) (w := w11)
 rw [hkf] at ho337
 refine L0 <| Oc <| m1 ho337 fun w338 hu339 => Pl 3 <| L0 <| Oal #[.nilFunc, .nilFunc] fun g340 w341 hg342 B343 hu344 => L0 <| Osw B343 #[.func (.func 45) #[] #[], .func (.func 46) #[] #[]] fun w345 B346 hu347 => Pl 1 <| nt <| sq <| sg <| Pl 2 <| nt <| c0 <| ?_
 refine skn <| sq <| Rg 13 (fun w' => w'.cell? ⟨g340, 0, none⟩ = some (.func (.func 45) #[] #[])) fun w368 hu369 => ?_
 have r371 := ub hu369 B346
 refine hld (blk_at r371 rfl) fun hS370 => Rt 0 hS370 <| Rl 1 hS370 (fun _ hs => hs) <| Rt 2 hS370 <| Rt 3 hS370 <| Rt 6 hS370 <| x12 (cut_from (P := Try.prog) 22 5 1 Try.underlying22 rfl rfl A b.length cp 1 (by omega)) fun A372 hrun373 hrd374 => ?_
 have U375 := ut0 hu339 hu344
 have U376 := u1 U375 hu347 (ni hu339.size hg342)
 have U377 := ut0 U376 hu369
 have r378 := RdB.old r32 U377
 refine Rr 7 hS370 (.slice A372 (b.length - 1) (cp - 1)) (fun _ _ => run_cutf (kl := .i64) (k := ((1 : Nat) : Int)) (A := A) (n := b.length) (c := cp) rfl Try.underlying22 (by kernel_rfl) (by kernel_rfl) (hrun373 _ _)) <| x23 (RdB.at_ r378 0 (by omega)) fun b379 o380 hA381 hl382 hr383 => R0 4 rfl <| Oix b.length 0 hA381 (by omega) <| hld (blk_at r371 rfl) fun hS384 => R0 5 rfl <| Old (p := ⟨b379, o380 + 0, none⟩) (v := .int .u8 (b.getD 0 0)) hl382 <| hld (blk_at r371 rfl) fun hS385 => R0 8 rfl <| Ocv #[] #[] (args := #[.int .i64 dir, .int .u8 (b.getD 0 0), .slice A372 (b.length - 1) (cp - 1)]) <| e2 (mei_parse (dir := dir) (c := (b.getD 0 0)) (b8 (by omega)) (hrd374 _ _ _ _ _ r378) (by (try simp only [List.length_drop]); omega)) fun cs387 w386 hM388 hu389 => ?_
 have r391 := ub hu389 r371
 refine hld (blk_at r391 rfl) fun hS390 => Rt 9 hS390 <| Rt 10 hS390 <| ?_
 have U392 := ut0 U377 hu389
 have r393 := ub U392 B13
 refine R0 11 rfl <| Osw (hz := (by rw [hM388.size]; exact msg_size)) (hv := hM388.size) (h1 := hM388.one) r393 (cs387) fun w394 B395 hu396 => ?_
 have ne398 := nb (blk_lt B13) hu339.size hg342
 have r399 := ub1 hu396 (Ne.symm ne398) r391
 refine hld (blk_at r399 rfl) fun hS397 => Rt 12 hS397 <| re <| tn <| rt <| rctx 22 hM388.size B395 (.int .i64 (((parseOf meiForm dir (b.getD 0 0) (b.drop 1))).2)) <| ?_
 have hs : pduP dir b = (parseOf meiForm dir (b.getD 0 0) (b.drop 1)) := by
   unfold pduP
   (try simp only [q17, q22, q27, q40, bs, if_true, if_false, decide_true, decide_false, hkf, famP, reduceIte])
   all_goals rfl
 refine pm_eq hs ?_
 have r400 := MsgRd.upd hM388 hu396 (safe_cons (safe1 r393 (by decide)) safe0)
 have U401 := ut0 hu14 hu339
 have U402 := ut0 U401 hu344
 have U403 := u1 U402 hu347 (ni U401.size hg342)
 have U404 := ut0 U403 hu369
 have U405 := ut0 U404 hu389
 have U406 := u1 U405 hu396 (nr hg12)
 exact ⟨_, rfl, r400, U406⟩
 have ho407 := of_any (x := (b.getD 0 0)) (w := w11)
 rw [hkf] at ho407
 refine L0 <| Oc <| m1 ho407 fun w408 hu409 => Pl 3 <| L0 <| Oal #[.nilFunc, .nilFunc] fun g410 w411 hg412 B413 hu414 => L0 <| Osw B413 #[.nilFunc, .nilFunc] fun w415 B416 hu417 => Pl 1 <| nt <| sq <| sg <| Pl 2 <| nt <| c1 <| ?_
 refine sg <| Pl 1 <| ?_
 have U418 := ut0 hu409 hu414
 have U419 := u1 U418 hu417 (ni hu409.size hg412)
 have r420 := ub U419 B13
 refine L0 <| Osw r420 mZ fun w421 B422 hu423 => Pl 1 <| nt <| rt <| tr <| rct B422 (.int .i64 4) <| ?_
 have hs : pduP dir b = (Msg.zero, 4) := by
   unfold pduP
   (try simp only [q17, q22, q27, q40, bs, if_true, if_false, decide_true, decide_false, hkf, famP, reduceIte])
   all_goals rfl
 refine pm_eq hs ?_
 have U424 := ut0 hu14 hu409
 have U425 := ut0 U424 hu414
 have U426 := u1 U425 hu417 (ni U424.size hg412)
 have U427 := u1 U426 hu423 (nr hg12)
 exact bad_res U427
theorem pdu_parse {m : Bool} {v : Value} {b : List Int} {w : World} {dir : Int} (h : RdB m w v b) (hb : b.length ≤ 1048576) : Calls Try.prog 15 #[.int .i64 dir, v] w (PMsg (pduP dir b) w) := by
  obtain ⟨A, cp, rfl, _, _⟩ := h.shape
  exact pdu_parse0 h hb
theorem all_range_int : ∀ (xs ys : List Int), xs.length = ys.length → ((List.range xs.length).all fun i => xs.getD i 0 == ys.getD i 0) = (xs == ys)
  | [], [], _ => rfl
  | x :: xs, y :: ys, h => by
    have ih := all_range_int xs ys (by simpa using h)
    rw [List.length_cons, List.range_succ_eq_map, List.all_cons, List.all_map]
    simp only [List.getD_cons_zero, Function.comp_def, List.getD_cons_succ, ih]
    simp [List.cons_beq_cons]
  | [], _ :: _, h => by simp at h
  | _ :: _, [], h => by simp at h
theorem run_eql_ints {P : Program} (w : World) (t e : TypeId) (k : IntKind) (n : Nat) (ht : P.underlying t = some (.array n e)) (he : P.underlying e = some (.int k)) (hsz : ∀ w, (sizeOf e).run P w = .ok 1 w)
    (xs ys : List Int) (hx : xs.length = n) (hy : ys.length = n) :
    (binOp .eql t (.agg (xs.map (Value.int k)).toArray) (.agg (ys.map (Value.int k)).toArray)).run P w = .ok (.bool (xs == ys)) w := by
  rw [run_eql_struct]
  suffices h : (Op.equalIn 10000 t (.agg (xs.map (Value.int k)).toArray) (.agg (ys.map (Value.int k)).toArray)).run P w = .ok (xs == ys) w by
    rw [h]
    rfl
  rw [show (10000 : Nat) = 9998 + 2 from rfl]
  rw [← all_range_int xs ys (hx.trans hy.symm), hx, List.range_eq_range', Op.equalIn]
  simp only [Sem.run_bind, run_underlying ht, Result.andThen_ok, hsz, Std.Legacy.Range.forIn_eq_forIn_range', Std.Legacy.Range.size, Nat.sub_zero, Nat.add_sub_cancel, Nat.div_one]
  have hl : ∀ i ∈ List.range' 0 n 1, i < n := fun i hi => by simpa using (List.mem_range'_1.1 hi).2
  generalize List.range' 0 n 1 = l at hl ⊢
  induction l with
  | nil => simp
  | cons i l ih =>
    have hi : i < n := hl i (by simp)
    have px : (part e (xs.map (Value.int k)).toArray (i * 1)).run P w = .ok (Value.int k (xs.getD i 0)) w := by
      simp [part, isAgg, run_underlying he, List.getD, List.getElem?_eq_getElem (show i < xs.length by omega)]
    have py : (part e (ys.map (Value.int k)).toArray (i * 1)).run P w = .ok (Value.int k (ys.getD i 0)) w := by
      simp [part, isAgg, run_underlying he, List.getD, List.getElem?_eq_getElem (show i < ys.length by omega)]
    have pe : (Op.equalIn (9998 + 1) e (Value.int k (xs.getD i 0)) (Value.int k (ys.getD i 0))).run P w = .ok (xs.getD i 0 == ys.getD i 0) w := run_equalIn_int w 9998 e k k _ _ he
    simp only [List.forIn_cons, Sem.run_bind, px, py, pe, Result.andThen_ok, List.all_cons]
    cases hb : (xs.getD i 0 == ys.getD i 0)
    · simp
    · simp only [Bool.not_true, Bool.false_eq_true, if_false, Sem.run_pure, Result.andThen_ok, Bool.true_and]
      exact ih fun j hj => hl j (by simp [hj])
theorem plain_eq {A B : Msg} (ha : MsgRng A) (hb : MsgRng B) : plainL A = plainL B ↔ A = { B with words := A.words, bits := A.bits, data := A.data, recs := A.recs, objects := A.objects } := by
  obtain ⟨_, _, _, _, _, _, _, _, _, _, _, _, a1, a2, a3, a4, _⟩ := ha
  obtain ⟨_, _, _, _, _, _, _, _, _, _, _, _, b1, b2, b3, b4, _⟩ := hb
  cases A; cases B
  simp only [B8] at a1 a2 a3 a4 b1 b2 b3 b4
  simp only [plainL, List.cons.injEq, and_true, Msg.mk.injEq, true_and]
  constructor
  · rintro ⟨h1, h2, h3, h4, h5, h6, h7, h8, h9, h10, h11, h12, h13, h14, h15⟩
    refine ⟨h1, h2, h3, h4, h5, h6, h7, h8, h9, h10, h11, h12, ?_, ?_, ?_, ?_, h15⟩ <;> omega
  · rintro ⟨h1, h2, h3, h4, h5, h6, h7, h8, h9, h10, h11, h12, h13, h14, h15, h16, h17⟩
    refine ⟨h1, h2, h3, h4, h5, h6, h7, h8, h9, h10, h11, h12, ?_, ?_, h17⟩ <;> omega
theorem msg_eq {A B : Msg} (ha : MsgRng A) (hb : MsgRng B) : A = B ↔ plainL A = plainL B ∧ A.words = B.words ∧ A.bits = B.bits ∧ A.data = B.data ∧ A.recs = B.recs ∧ A.objects = B.objects := by
  rw [plain_eq ha hb]
  constructor
  · rintro rfl
    exact ⟨rfl, rfl, rfl, rfl, rfl, rfl⟩
  · rintro ⟨h1, h2, h3, h4, h5, h6⟩
    rw [h1, h2, h3, h4, h5, h6]
theorem msg_cells {m : Bool} {w : World} {cs : Array Value} {M : Msg} (h : MsgRd m w cs.toList M) : ∃ vw vb vd vr vo, cs[12]? = some vw ∧ cs[13]? = some vb ∧ cs[14]? = some vd ∧ cs[15]? = some vr ∧ cs[21]? = some vo ∧
    RdW m w vw M.words ∧ RdL m w vb M.bits ∧ RdB m w vd M.data ∧ RdR m w vr M.recs ∧ RdO m w vo M.objects ∧ MsgRng M := by
  obtain ⟨vw, vb, vd, vr, vo, h0, h1⟩ := h
  refine ⟨vw, vb, vd, vr, vo, ?_, ?_, ?_, ?_, ?_, h1⟩ <;> (rw [← Array.getElem?_toList, h0]; rfl)
theorem run_eqplain {ev : Operand → Value} {o : Oper} {x y : Operand} {t : TypeId} {A B : Msg} {w : World} (ho : o.op = .binOp .eql 110 x y t) (hx : ev x = .agg (plainA A)) (hy : ev y = .agg (plainA B)) :
    (execOp ev o).run Try.prog w = .ok (.value (.bool (plainL A == plainL B))) w := by
  have hg : (eqGuard .eql 110 x y (.agg (plainA A)) (.agg (plainA B))).run Try.prog w = .ok () w := run_eqGuard_agg w .eql _ x y _ _ (by kernel_rfl)
  have he : (binOp .eql 110 (.agg (plainA A)) (.agg (plainA B))).run Try.prog w = .ok (.bool (plainL A == plainL B)) w := run_eql_ints (P := Try.prog) w 110 23 .u16 15 Try.underlying110 Try.underlying23 (fun w => by kernel_rfl) (plainL A) (plainL B) rfl rfl
  unfold execOp
  simp only [ho, hx, hy, Sem.run_bind, hg, he, Sem.run_pure, Result.andThen]
theorem same_dec {A B : Msg} (ha : MsgRng A) (hb : MsgRng B) : decide (A = B) = (plainL A == plainL B && (decide (A.words = B.words) && (decide (A.bits = B.bits) && (decide (A.data = B.data) && (decide (A.recs = B.recs) && decide (A.objects = B.objects)))))) := by
  rw [Bool.eq_iff_iff]
  simp only [Bool.and_eq_true, decide_eq_true_eq, beq_iff_eq]
  exact msg_eq ha hb
set_option maxRecDepth 100000 in
set_option maxHeartbeats 4000000 in
theorem same_any {m m' : Bool} {pc qc : Array Value} {A B : Msg} {w : World} (ha : MsgRd m w pc.toList A) (hb : MsgRd m' w qc.toList B) :
    Calls Try.prog 48 #[.agg pc, .agg qc] w (PBool (decide (A = B)) w) := by
 have pM := ha
 obtain ⟨pvw, pvb, pvd, pvr, pvo, ph0, phw, phb, phd, phr, pho, pR⟩ := ha
 obtain rfl : pc = (msgCells A pvw pvb pvd pvr pvo).toArray := by apply Array.toList_inj.1; simpa using ph0
 clear ph0
 obtain ⟨pw, pkw, rfl, _, _⟩ := phw.shape
 obtain ⟨pb, pkb, rfl, _, _⟩ := phb.shape
 obtain ⟨pd, pkd, rfl, _, _⟩ := phd.shape
 obtain ⟨pr, pkr, rfl, _, _⟩ := phr.shape
 obtain ⟨po, pko, rfl, _, _⟩ := pho.shape
 have qM := hb
 obtain ⟨qvw, qvb, qvd, qvr, qvo, qh0, qhw, qhb, qhd, qhr, qho, qR⟩ := hb
 obtain rfl : qc = (msgCells B qvw qvb qvd qvr qvo).toArray := by apply Array.toList_inj.1; simpa using qh0
 clear qh0
 obtain ⟨qw, qkw, rfl, _, _⟩ := qhw.shape
 obtain ⟨qb, qkb, rfl, _, _⟩ := qhb.shape
 obtain ⟨qd, qkd, rfl, _, _⟩ := qhd.shape
 obtain ⟨qr, qkr, rfl, _, _⟩ := qhr.shape
 obtain ⟨qo, qko, rfl, _, _⟩ := qho.shape
 refine en 47 Try.func48 rfl <| sg <| L0 <| Obx (mG A.code A.fail A.addr A.count A.value A.and_ A.or_ A.addr2 A.sub A.status A.events A.messages (.slice pw A.words.length pkw) (.slice pb A.bits.length pkb) (.slice pd A.data.length pkd) (.slice pr A.recs.length pkr) A.mei A.kind A.level A.more A.next (.slice po A.objects.length pko)) fun g10 w11 hg12 B13 hu14 => L0 <| Obx (mG B.code B.fail B.addr B.count B.value B.and_ B.or_ B.addr2 B.sub B.status B.events B.messages (.slice qw B.words.length qkw) (.slice qb B.bits.length qkb) (.slice qd B.data.length qkd) (.slice qr B.recs.length qkr) B.mei B.kind B.level B.more B.next (.slice qo B.objects.length qko)) fun g15 w16 hg17 B18 hu19 => Pl 1 <| nt <| sq <| Rg 43 (fun w' => w'.heap[g10]? = some (.cells (mG A.code A.fail A.addr A.count A.value A.and_ A.or_ A.addr2 A.sub A.status A.events A.messages (.slice pw A.words.length pkw) (.slice pb A.bits.length pkb) (.slice pd A.data.length pkd) (.slice pr A.recs.length pkr) A.mei A.kind A.level A.more A.next (.slice po A.objects.length pko)) 29 (0, 0)) ∧ w'.heap[g15]? = some (.cells (mG B.code B.fail B.addr B.count B.value B.and_ B.or_ B.addr2 B.sub B.status B.events B.messages (.slice qw B.words.length qkw) (.slice qb B.bits.length qkb) (.slice qd B.data.length qkd) (.slice qr B.recs.length qkr) B.mei B.kind B.level B.more B.next (.slice qo B.objects.length qko)) 29 (0, 0)) ∧ w'.cell? ⟨g10, 12, none⟩ = some (.slice pw A.words.length pkw) ∧ w'.cell? ⟨g15, 12, none⟩ = some (.slice qw B.words.length qkw) ∧ w'.cell? ⟨g10, 13, none⟩ = some (.slice pb A.bits.length pkb) ∧ w'.cell? ⟨g15, 13, none⟩ = some (.slice qb B.bits.length qkb) ∧ w'.cell? ⟨g10, 14, none⟩ = some (.slice pd A.data.length pkd) ∧ RdB false w' (.slice pd A.data.length pkd) A.data ∧ w'.cell? ⟨g15, 14, none⟩ = some (.slice qd B.data.length qkd) ∧ RdB false w' (.slice qd B.data.length qkd) B.data ∧ w'.cell? ⟨g10, 15, none⟩ = some (.slice pr A.recs.length pkr) ∧ w'.cell? ⟨g15, 15, none⟩ = some (.slice qr B.recs.length qkr) ∧ w'.cell? ⟨g10, 21, none⟩ = some (.slice po A.objects.length pko) ∧ w'.cell? ⟨g15, 21, none⟩ = some (.slice qo B.objects.length qko)) fun w55 hu56 => ?_
 have U58 := ut0 hu19 hu56
 have r59 := ub U58 B13
 have r60 := ub hu56 B18
 have U61 := ut0 hu14 hu19
 have U62 := ut0 U61 hu56
 have r63 := RdB.old phd U62
 have r64 := RdB.old qhd U62
 refine hld ⟨r59, r60, (blk_at r59 rfl), (blk_at r60 rfl), (blk_at r59 rfl), (blk_at r60 rfl), (blk_at r59 rfl), (RdG.any r63 (fun _ _ h => h)), (blk_at r60 rfl), (RdG.any r64 (fun _ _ h => h)), (blk_at r59 rfl), (blk_at r60 rfl), (blk_at r59 rfl), (blk_at r60 rfl)⟩ fun hS57 => Rr 0 hS57 (.agg (mG A.code A.fail A.addr A.count A.value A.and_ A.or_ A.addr2 A.sub A.status A.events A.messages (.slice pw A.words.length pkw) (.slice pb A.bits.length pkb) (.slice pd A.data.length pkd) (.slice pr A.recs.length pkr) A.mei A.kind A.level A.more A.next (.slice po A.objects.length pko))) (fun w' hs => lda_o (g := g10) (off := 0) [.int .u8 A.code, .int .u8 A.fail, .int .u16 A.addr, .int .u16 A.count, .int .u16 A.value, .int .u16 A.and_, .int .u16 A.or_, .int .u16 A.addr2, .int .u16 A.sub, .int .u16 A.status, .int .u16 A.events, .int .u16 A.messages, .slice pw A.words.length pkw, .slice pb A.bits.length pkb, .slice pd A.data.length pkd, .slice pr A.recs.length pkr, .int .u8 A.mei, .int .u8 A.kind, .int .u8 A.level, .int .u8 A.more, .int .u8 A.next, .slice po A.objects.length pko] rfl (by kernel_rfl) hs.1 (by kernel_rfl) (by kernel_rfl) rfl) <| Rr 2 hS57 (.agg (mG B.code B.fail B.addr B.count B.value B.and_ B.or_ B.addr2 B.sub B.status B.events B.messages (.slice qw B.words.length qkw) (.slice qb B.bits.length qkb) (.slice qd B.data.length qkd) (.slice qr B.recs.length qkr) B.mei B.kind B.level B.more B.next (.slice qo B.objects.length qko))) (fun w' hs => lda_o (g := g15) (off := 0) [.int .u8 B.code, .int .u8 B.fail, .int .u16 B.addr, .int .u16 B.count, .int .u16 B.value, .int .u16 B.and_, .int .u16 B.or_, .int .u16 B.addr2, .int .u16 B.sub, .int .u16 B.status, .int .u16 B.events, .int .u16 B.messages, .slice qw B.words.length qkw, .slice qb B.bits.length qkb, .slice qd B.data.length qkd, .slice qr B.recs.length qkr, .int .u8 B.mei, .int .u8 B.kind, .int .u8 B.level, .int .u8 B.more, .int .u8 B.next, .slice qo B.objects.length qko] rfl (by kernel_rfl) hs.2.1 (by kernel_rfl) (by kernel_rfl) rfl) <| ?_
 have r67 := MsgRd.old pM U62
 refine R0 1 rfl <| Oc <| m1 (plain_any r67) fun w65 hu66 => ?_
 have r69 := ub hu66 r59
 have r70 := ub hu66 r60
 have r71 := RdB.old r63 hu66
 have r72 := RdB.old r64 hu66
 refine hld ⟨r69, r70, (blk_at r69 rfl), (blk_at r70 rfl), (blk_at r69 rfl), (blk_at r70 rfl), (blk_at r69 rfl), (RdG.any r71 (fun _ _ h => h)), (blk_at r70 rfl), (RdG.any r72 (fun _ _ h => h)), (blk_at r69 rfl), (blk_at r70 rfl), (blk_at r69 rfl), (blk_at r70 rfl)⟩ fun hS68 => ?_
 have U75 := ut0 U62 hu66
 have r76 := MsgRd.old qM U75
 refine R0 3 rfl <| Oc <| m1 (plain_any r76) fun w73 hu74 => ?_
 have r78 := ub hu74 r69
 have r79 := ub hu74 r70
 have r80 := RdB.old r71 hu74
 have r81 := RdB.old r72 hu74
 refine hld ⟨r78, r79, (blk_at r78 rfl), (blk_at r79 rfl), (blk_at r78 rfl), (blk_at r79 rfl), (blk_at r78 rfl), (RdG.any r80 (fun _ _ h => h)), (blk_at r79 rfl), (RdG.any r81 (fun _ _ h => h)), (blk_at r78 rfl), (blk_at r79 rfl), (blk_at r78 rfl), (blk_at r79 rfl)⟩ fun hS77 => Rr 4 hS77 (.bool (plainL A == plainL B)) (fun _ _ => run_eqplain rfl (by kernel_rfl) (by kernel_rfl)) <| Rt 5 hS77 <| ?_
 have U82 := ut0 U75 hu74
 refine bla 10 ((plainL A == plainL B)) (fun q83 => ?_) (fun q83 => ?_)
 refine Rt 6 hS77 <| Rl 7 hS77 (fun _ hs => hs.2.2.1) <| Rt 8 hS77 <| Rl 9 hS77 (fun _ hs => hs.2.2.2.1) <| ?_
 have r86 := RdW.old phw U82
 have r87 := RdW.old qhw U82
 refine R0 10 rfl <| Oc <| m1 (eqW_any r86 r87) fun w84 hu85 => ?_
 have r89 := ub hu85 r78
 have r90 := ub hu85 r79
 have r91 := RdB.old r80 hu85
 have r92 := RdB.old r81 hu85
 refine hld ⟨r89, r90, (blk_at r89 rfl), (blk_at r90 rfl), (blk_at r89 rfl), (blk_at r90 rfl), (blk_at r89 rfl), (RdG.any r91 (fun _ _ h => h)), (blk_at r90 rfl), (RdG.any r92 (fun _ _ h => h)), (blk_at r89 rfl), (blk_at r90 rfl), (blk_at r89 rfl), (blk_at r90 rfl)⟩ fun hS88 => Rt 11 hS88 <| Rt 12 hS88 <| ?_
 have U93 := ut0 U82 hu85
 refine bla 17 ((decide (A.words = B.words))) (fun q94 => ?_) (fun q94 => ?_)
 have q94p := of_decide_eq_true q94
 refine Rt 13 hS88 <| Rl 14 hS88 (fun _ hs => hs.2.2.2.2.1) <| Rt 15 hS88 <| Rl 16 hS88 (fun _ hs => hs.2.2.2.2.2.1) <| ?_
 have r97 := RdL.old phb U93
 have r98 := RdL.old qhb U93
 refine R0 17 rfl <| Oc <| m1 (eqL_any r97 r98) fun w95 hu96 => ?_
 have r100 := ub hu96 r89
 have r101 := ub hu96 r90
 have r102 := RdB.old r91 hu96
 have r103 := RdB.old r92 hu96
 refine hld ⟨r100, r101, (blk_at r100 rfl), (blk_at r101 rfl), (blk_at r100 rfl), (blk_at r101 rfl), (blk_at r100 rfl), (RdG.any r102 (fun _ _ h => h)), (blk_at r101 rfl), (RdG.any r103 (fun _ _ h => h)), (blk_at r100 rfl), (blk_at r101 rfl), (blk_at r100 rfl), (blk_at r101 rfl)⟩ fun hS99 => Rt 18 hS99 <| Rt 19 hS99 <| ?_
 have U104 := ut0 U93 hu96
 refine bla 24 ((decide (A.bits = B.bits))) (fun q105 => ?_) (fun q105 => ?_)
 have q105p := of_decide_eq_true q105
 refine Rt 20 hS99 <| Rl 21 hS99 (fun _ hs => hs.2.2.2.2.2.2.1) <| Rr 22 hS99 (.string (strOfNums A.data)) (fun _ hs => run_convB (A := pd) (n := A.data.length) (c := pkd) rfl (by kernel_rfl) Try.underlying22 Try.underlying5 Try.underlying9 hs.2.2.2.2.2.2.2.1) <| Rt 23 hS99 <| Rl 24 hS99 (fun _ hs => hs.2.2.2.2.2.2.2.2.1) <| Rr 25 hS99 (.string (strOfNums B.data)) (fun _ hs => run_convB (A := qd) (n := B.data.length) (c := qkd) rfl (by kernel_rfl) Try.underlying22 Try.underlying5 Try.underlying9 hs.2.2.2.2.2.2.2.2.2.1) <| Rr 26 hS99 (.bool (decide (A.data = B.data))) (fun _ _ => run_strq (a := (strOfNums A.data)) (b := (strOfNums B.data)) rfl (by kernel_rfl) (by kernel_rfl) (str_eq r102 r103)) <| Rt 27 hS99 <| Rt 28 hS99 <| bla 33 ((decide (A.data = B.data))) (fun q106 => ?_) (fun q106 => ?_)
 have q106p := of_decide_eq_true q106
 refine Rt 29 hS99 <| Rl 30 hS99 (fun _ hs => hs.2.2.2.2.2.2.2.2.2.2.1) <| Rt 31 hS99 <| Rl 32 hS99 (fun _ hs => hs.2.2.2.2.2.2.2.2.2.2.2.1) <| ?_
 have r109 := RdR.old phr U104
 have r110 := RdR.old qhr U104
 refine R0 33 rfl <| Oc <| m1 (eqR_any r109 r110) fun w107 hu108 => ?_
 have r112 := ub hu108 r100
 have r113 := ub hu108 r101
 have r114 := RdB.old r102 hu108
 have r115 := RdB.old r103 hu108
 refine hld ⟨r112, r113, (blk_at r112 rfl), (blk_at r113 rfl), (blk_at r112 rfl), (blk_at r113 rfl), (blk_at r112 rfl), (RdG.any r114 (fun _ _ h => h)), (blk_at r113 rfl), (RdG.any r115 (fun _ _ h => h)), (blk_at r112 rfl), (blk_at r113 rfl), (blk_at r112 rfl), (blk_at r113 rfl)⟩ fun hS111 => Rt 34 hS111 <| Rt 35 hS111 <| ?_
 have U116 := ut0 U104 hu108
 refine bla 40 ((decide (A.recs = B.recs))) (fun q117 => ?_) (fun q117 => ?_)
 have q117p := of_decide_eq_true q117
 refine Rt 36 hS111 <| Rl 37 hS111 (fun _ hs => hs.2.2.2.2.2.2.2.2.2.2.2.2.1) <| Rt 38 hS111 <| Rl 39 hS111 (fun _ hs => hs.2.2.2.2.2.2.2.2.2.2.2.2.2) <| ?_
 have r120 := RdO.old pho U116
 have r121 := RdO.old qho U116
 refine R0 40 rfl <| Oc <| m1 (eqO_any r120 r121) fun w118 hu119 => ?_
 have r123 := ub hu119 r112
 have r124 := ub hu119 r113
 have r125 := RdB.old r114 hu119
 have r126 := RdB.old r115 hu119
 refine hld ⟨r123, r124, (blk_at r123 rfl), (blk_at r124 rfl), (blk_at r123 rfl), (blk_at r124 rfl), (blk_at r123 rfl), (RdG.any r125 (fun _ _ h => h)), (blk_at r124 rfl), (RdG.any r126 (fun _ _ h => h)), (blk_at r123 rfl), (blk_at r124 rfl), (blk_at r123 rfl), (blk_at r124 rfl)⟩ fun hS122 => Rt 41 hS122 <| Rt 42 hS122 <| re <| tn <| rt <| rr (.bool (decide (A.objects = B.objects))) <| ?_
 have hs : decide (A = B) = (decide (A.objects = B.objects)) := by
   rw [same_dec pR qR]
   (try simp only [q83, q94, q105, q106, q117, bs, if_true, if_false, decide_true, decide_false])
 rw [hs]
 have U127 := ut0 U116 hu119
 exact ⟨rfl, U127⟩
 have q117p := of_decide_eq_false q117
 refine Ro 36 hS111 <| Ro 37 hS111 <| Ro 38 hS111 <| Ro 39 hS111 <| Ro 40 hS111 <| Rt 41 hS111 <| Rt 42 hS111 <| re <| tn <| rt <| rr (.bool false) <| ?_
 have hs : decide (A = B) = false := by
   rw [same_dec pR qR]
   (try simp only [q83, q94, q105, q106, q117, bs, if_true, if_false, decide_true, decide_false])
 rw [hs]
 exact ⟨rfl, U116⟩
 have q106p := of_decide_eq_false q106
 refine Ro 29 hS99 <| Ro 30 hS99 <| Ro 31 hS99 <| Ro 32 hS99 <| Ro 33 hS99 <| Rt 34 hS99 <| Rt 35 hS99 <| Ro 36 hS99 <| Ro 37 hS99 <| Ro 38 hS99 <| Ro 39 hS99 <| Ro 40 hS99 <| Rt 41 hS99 <| Rt 42 hS99 <| ?_
 refine re <| tn <| rt <| rr (.bool false) <| ?_
 have hs : decide (A = B) = false := by
   rw [same_dec pR qR]
   (try simp only [q83, q94, q105, q106, bs, if_true, if_false, decide_true, decide_false])
 rw [hs]
 exact ⟨rfl, U104⟩
 have q105p := of_decide_eq_false q105
 refine Ro 20 hS99 <| Ro 21 hS99 <| Ro 22 hS99 <| Ro 23 hS99 <| Ro 24 hS99 <| Ro 25 hS99 <| Ro 26 hS99 <| Rt 27 hS99 <| Rt 28 hS99 <| Ro 29 hS99 <| Ro 30 hS99 <| Ro 31 hS99 <| Ro 32 hS99 <| Ro 33 hS99 <| ?_
 refine Rt 34 hS99 <| Rt 35 hS99 <| Ro 36 hS99 <| Ro 37 hS99 <| Ro 38 hS99 <| Ro 39 hS99 <| Ro 40 hS99 <| Rt 41 hS99 <| Rt 42 hS99 <| re <| tn <| rt <| rr (.bool false) <| ?_
 have hs : decide (A = B) = false := by
   rw [same_dec pR qR]
   (try simp only [q83, q94, q105, bs, if_true, if_false, decide_true, decide_false])
 rw [hs]
 exact ⟨rfl, U104⟩
 have q94p := of_decide_eq_false q94
 refine Ro 13 hS88 <| Ro 14 hS88 <| Ro 15 hS88 <| Ro 16 hS88 <| Ro 17 hS88 <| Rt 18 hS88 <| Rt 19 hS88 <| Ro 20 hS88 <| Ro 21 hS88 <| Ro 22 hS88 <| Ro 23 hS88 <| Ro 24 hS88 <| Ro 25 hS88 <| Ro 26 hS88 <| ?_
 refine Rt 27 hS88 <| Rt 28 hS88 <| Ro 29 hS88 <| Ro 30 hS88 <| Ro 31 hS88 <| Ro 32 hS88 <| Ro 33 hS88 <| Rt 34 hS88 <| Rt 35 hS88 <| Ro 36 hS88 <| Ro 37 hS88 <| Ro 38 hS88 <| Ro 39 hS88 <| Ro 40 hS88 <| ?_
 refine Rt 41 hS88 <| Rt 42 hS88 <| re <| tn <| rt <| rr (.bool false) <| ?_
 have hs : decide (A = B) = false := by
   rw [same_dec pR qR]
   (try simp only [q83, q94, bs, if_true, if_false, decide_true, decide_false])
 rw [hs]
 exact ⟨rfl, U93⟩
 refine Ro 6 hS77 <| Ro 7 hS77 <| Ro 8 hS77 <| Ro 9 hS77 <| Ro 10 hS77 <| Rt 11 hS77 <| Rt 12 hS77 <| Ro 13 hS77 <| Ro 14 hS77 <| Ro 15 hS77 <| Ro 16 hS77 <| Ro 17 hS77 <| Rt 18 hS77 <| Rt 19 hS77 <| ?_
 refine Ro 20 hS77 <| Ro 21 hS77 <| Ro 22 hS77 <| Ro 23 hS77 <| Ro 24 hS77 <| Ro 25 hS77 <| Ro 26 hS77 <| Rt 27 hS77 <| Rt 28 hS77 <| Ro 29 hS77 <| Ro 30 hS77 <| Ro 31 hS77 <| Ro 32 hS77 <| Ro 33 hS77 <| ?_
 refine Rt 34 hS77 <| Rt 35 hS77 <| Ro 36 hS77 <| Ro 37 hS77 <| Ro 38 hS77 <| Ro 39 hS77 <| Ro 40 hS77 <| Rt 41 hS77 <| Rt 42 hS77 <| re <| tn <| rt <| rr (.bool false) <| ?_
 have hs : decide (A = B) = false := by
   rw [same_dec pR qR]
   (try simp only [q83, bs, if_true, if_false, decide_true, decide_false])
 rw [hs]
 exact ⟨rfl, U82⟩
def PWrite (res : Option (List Int)) (w : World) (e : Ending) (w' : World) : Prop :=
  match res with
  | some l => ∃ v, e = .returned (.tuple #[v, .int .i64 0]) ∧ OwnB w.heap.size w' v l ∧ Upd [] w w'
  | none => e = .returned (.tuple #[.slice none 0 0, .int .i64 1]) ∧ Upd [] w w'
def writeOf (parse : Int → Int → List Int → Msg × Int) (lay : Int → Msg → List Int) (dir : Int) (M : Msg) : Option (List Int) :=
  if parse dir M.code (lay dir M) = (M, 0) then some (lay dir M) else none
theorem MsgRd.rng {m : Bool} {w : World} {cs : List Value} {M : Msg} (h : MsgRd m w cs M) : MsgRng M := by
  obtain ⟨_, _, _, _, _, _, _, _, _, _, _, h⟩ := h
  exact h
section
variable {P : Program} {w : World} {ops : Array Oper} {rest : List Oper} {o : Oper} {a : Act} {Q : Exit → Act → World → Prop}
theorem wp_load_rowg (hw : Region.wanted o (yielded ops a.tmps) = true) (ty : TypeId) (x : Operand) (ho : o.op = .load ty x) (g : Nat) (hx : a.eval x = .pointer (some ⟨g, 0, none⟩)) (cs : Array Value) (t : TypeId) (fr : Nat × Nat) (d : TypeDesc)
    (hb : w.heap[g]? = some (.cells cs t fr)) (hu : P.underlying ty = some d) (hd : d.isRow = true) (hi : (P.info? ty).map (·.size) = some cs.size)
    (h : wpList P ops Q rest (a.put o.dst (.agg cs)) w) : wpList P ops Q (o :: rest) a w := by
  refine wpList_step fun K hK => ?_
  rw [if_pos hw]
  have := wp_load_mid (P := P) (op := o) (a := a) (w := w) (K := K) (Q := Q) ty x ho g 0 hx cs.toList d (fun j v hj => by rw [Nat.zero_add, blk_cell hb]; simpa using hj) hu hd (by simpa using hi)
  exact this (hK _ _ (by simpa using h))
theorem wp_load_row2 (hg : o.guard = none) (ty : TypeId) (x : Operand) (ho : o.op = .load ty x) (g : Nat) (hx : a.eval x = .pointer (some ⟨g, 0, none⟩)) (cs : Array Value) (t : TypeId) (fr : Nat × Nat) (d : TypeDesc)
    (hb : w.heap[g]? = some (.cells cs t fr)) (hu : P.underlying ty = some d) (hd : d.isRow = true) (hi : (P.info? ty).map (·.size) = some cs.size)
    (h : wpList P ops Q rest (a.put o.dst (.agg cs)) w) : wpList P ops Q (o :: rest) a w :=
  wp_load_rowg (by simp [Region.wanted, hg]) ty x ho g hx cs t fr d hb hu hd hi h
end
theorem putW_len2 (a b : Int) : (putW [a, b]).length = 4 := rfl
theorem coilsLay_len {M : Msg} (dir : Int) (hf : MsgFew M) : (coilsLay dir M).length ≤ 1048576 := by
  have h1 := packB_length M.bits
  have h2 : many M.bits.length ≤ 4096 := by have := hf.bits; unfold many; split <;> omega
  have h3 := hf.data
  unfold coilsLay
  split
  · simp [putW]
  split
  · simp only [List.length_append, putW_len2, List.length_singleton]; omega
  split
  · simp only [List.length_append, List.length_singleton]; omega
  · simp [putW]
def parseCoils := parseOf coilsForm
end Go.Proofs.Ytbaeecmamacphaa
