/- The statement MbapCuts holds; no condition of its own. -/
import Derived.Test.YtbaeecmamacphaaKA1
import Derived.Test.YtbaeecmamacphaaKA2
import Derived.Test.YtbaeecmamacphaaKA3
import Derived.Test.YtbaeecmamacphaaKA4
import Derived.Test.YtbaeecmamacphaaKA5
import Derived.Test.YtbaeecmamacphaaKB1
import Derived.Lib.AppendZeros
import Derived.Lib.AppendZerosOnto
import Derived.Laws.AppendOwn
import Derived.Test.YtbaeecmamacphaaRows
import Derived.WalkKit
import Derived.ProofKit
import Derived.OpenShut
import Derived.ShutString
import Derived.ChangeOld
import Derived.Below
set_option linter.unusedVariables false
set_option linter.unusedSimpArgs false
namespace Go.Proofs.Ytbaeecmamacphaa
open Go.RowKit
theorem zc_list {z : Value} (hz : z.cells = #[z]) (k : Nat) : (Builtin.zeroCells z.cells k).toList = List.replicate k z := by
  rw [hz]
  have h : (Builtin.zeroCells #[z] k).toList = List.map (fun i => [z][i % 1]?.getD default) (List.range k) := by simp [Builtin.zeroCells]
  rw [h]
  refine List.eq_replicate_iff.2 ⟨by simp, fun b hb => ?_⟩
  obtain ⟨i, _, rfl⟩ := List.mem_map.1 hb
  simp [Nat.mod_one]
theorem run_append_zeros {P : Program} (w : World) (base : Nat) (t tn ty e : TypeId) (i : TypeInfo) (z : Value) (kq kn : IntKind) (ht : P.underlying t = some (.slice e)) (htn : P.underlying tn = some (.int kn)) (hi : P.info? e = some i) (hz : i.zero = some z)
    (hsize : i.size = 1) (hby : i.bytes ≤ 65536) (hzc : z.cells = #[z]) (hone : z.oneCell' = true) (v : Value) (n : Nat) (xs : List Value) (hown : w.ownsRow base e 1 v n xs) (k : Nat) (h0 : 0 < k) (h63 : n + k ≤ 4194304) (hbase : base ≤ w.heap.size) :
    ∃ v' w', (Builtin.append_ #[t, tn] ty #[v, .int kq (k : Int)]).run P w = .ok v' w' ∧ w'.ownsRow base e 1 v' (n + k) (xs ++ List.replicate k z) ∧ w.grownBy w' v.ownBlock := by
  have hlen : (xs ++ List.replicate k z).length = (n + k) * 1 := by rw [List.length_append, hown.1, List.length_replicate]; omega
  have hmx : n + k ≤ maxLen := by unfold maxLen; omega
  have hmul : (n + k) * i.bytes ≤ 140737488355328 := Nat.le_trans (Nat.mul_le_mul h63 hby) (by decide)
  have hmulk : k * i.bytes ≤ 281474976710656 := Nat.le_trans (Nat.mul_le_mul (show k ≤ 4194304 by omega) hby) (by decide)
  have hzl := zc_list hzc
  have grown : ∀ (old : Nat), old < n + k → ∀ (row : Option Nat),
      (w.drew.alloc (.cells (xs.toArray ++ Builtin.zeroCells z.cells k ++ Builtin.zeroCells z.cells (grownCap w (n + k) old e - (n + k))) e)).ownsRow base e 1
        (.slice (some ⟨w.heap.size, 0, none⟩) (n + k) (grownCap w (n + k) old e)) (n + k) (xs ++ List.replicate k z) ∧
      w.grownBy (w.drew.alloc (.cells (xs.toArray ++ Builtin.zeroCells z.cells k ++ Builtin.zeroCells z.cells (grownCap w (n + k) old e - (n + k))) e)) row := by
    intro old ho row
    have hge := grownCap_ge w (n + k) old e
    have hcm : grownCap w (n + k) old e ≤ maxLen := grownCap_le_maxLen w (n + k) old e hmx
    refine ⟨⟨hlen, .inr ⟨w.heap.size, _, _, rfl, hbase, heap_alloc_new w.drew _, hge, hcm, ?_, ?_⟩⟩, ⟨rfl, rfl, rfl, by simp, fun k hk _ => heap_alloc_old w.drew _ hk⟩⟩
    · simp only [Array.size_append, List.size_toArray, size_zeroCells, hzc, hown.1, List.size_toArray, List.length_cons, List.length_nil]
      omega
    · simp only [Array.toList_append, hzl]
      rw [← hlen]
      exact List.take_left
  rcases hown.2 with ⟨rfl, rfl⟩ | ⟨g, cap, cur, rfl, hbg, hg, hnc, hcm, hcs, htake⟩
  · have hx : xs = [] := List.eq_nil_of_length_eq_zero (by simpa using hown.1)
    subst hx
    have hr := Lib.run_append_nil_zeros (P := P) w t tn ty e i z kq kn ht htn hi hz k h0 (by omega) (by omega) hmulk
    have hgr := grown 0 (by omega) (Value.ownBlock (.slice none 0 0))
    simp only [Nat.zero_add, List.nil_append, Array.empty_append] at hgr ⊢
    exact ⟨_, _, hr, hgr.1, hgr.2⟩
  · by_cases hroom : n + k ≤ cap
    · have hst := run_storeCells_at P g (n * 1) e (List.replicate k z) 0 cur w hg (by rw [List.length_replicate, hcs]; omega) (fun u hu => by rw [(List.mem_replicate.1 hu).2]; exact hone)
      simp only [Nat.add_zero, Nat.mul_one] at hst
      have hw : IntKind.i64.wrap (k : Int) = k := by rw [IntKind.wrap_i64]; omega
      have hneg : ¬ ((k : Int) < 0) := by omega
      have h48i : ¬ (281474976710656 < (k : Int) * (i.bytes : Int)) := by
        rw [← Int.natCast_mul]
        omega
      have hns : ¬ (k = 0) := by omega
      have hr : (Builtin.append_ #[t, tn] ty #[.slice (some ⟨g, 0, none⟩) n cap, .int kq (k : Int)]).run P w = .ok (.slice (some ⟨g, 0, none⟩) (n + k) cap) (w.setRow g (cur.toList.take n ++ List.replicate k z ++ cur.toList.drop (n + (List.replicate k z).length)).toArray) := by
        simp [Builtin.append_, run_underlying ht, run_underlying htn, sizeOf, typeInfo, zeroValue, hi, hz, hsize, asInt, asIntOf, hw, hroom, hneg, hns, h48i, Addr.add_lit, hzl, hst]
        done
      refine ⟨_, _, hr, ⟨hlen, .inr ⟨g, cap, _, rfl, hbg, setRow_heap w g cur _ e _ hg, hroom, hcm, ?_, ?_⟩⟩, ⟨rfl, rfl, rfl, by simp, fun k _ hk => setRow_other w g k _ (fun e => hk (by simp [Value.ownBlock, e]))⟩⟩
      · simp only [List.size_toArray, List.length_append, List.length_take, List.length_drop, Array.length_toList, List.length_replicate]
        omega
      · have h1 : cur.toList.take n = xs := by simpa using htake
        rw [h1, ← hlen]
        exact List.take_left
    · have holds : (Builtin.firstCells i.size n (.slice (some ⟨g, 0, none⟩) n cap)).run P w.drew = .ok xs.toArray w.drew := by
        refine run_firstCells_some (P := P) w.drew i.size n ⟨g, 0, none⟩ n cap xs (by rw [hsize]; exact hown.1) ?_
        intro j u hj
        exact hown.cells (g := g) rfl j u hj
      have hr := Lib.run_append_grow_zeros (P := P) w t tn ty e i z kq kn ht htn hi hz (some ⟨g, 0, none⟩) n cap xs holds k h0 (by omega) (by omega) (by omega) hmulk (growslice_fits (by omega) hmul)
      have hgr := grown cap (by omega) (Value.ownBlock (.slice (some ⟨g, 0, none⟩) n cap))
      exact ⟨_, _, hr, hgr.1, hgr.2⟩
theorem ow_zer {P : Program} {Q : Exit → Act → World → Prop} {a : Act} {w : World} {K : Act → World → Prop} {o : Oper} {N : Option Tmp}
    {s x : Operand} {t tn e : TypeId} {base n c : Nat} {kq kn : IntKind} {A : Option Addr} (bytes : Nat) (hN : o.dst = N) (ho : o.op = .call { callee := .builtin .append, args := #[s, x], argTypes := #[t, tn] })
    (ht : P.underlying t = some (.slice e)) (htn : P.underlying tn = some (.int kn)) (hinfo : (P.info? e).map (fun i => (i.zero, i.size, i.bytes)) = some (some (.int .u8 0), 1, bytes))
    (xs : List Int) (hs : a.eval s = .slice A n c) (HO : OwnG base e 1 u8R w (.slice A n c) xs) (k : Nat) {v : Int} (hv : v = (k : Int)) (hx : a.eval x = .int kq v) (h0 : 0 < k)
    (hl : xs.length + k ≤ 4194304) (hby : bytes ≤ 65536) (hbase : base ≤ w.heap.size)
    (h : ∀ A' c' w', OwnG base e 1 u8R w' (.slice A' (xs ++ List.replicate k 0).length c') (xs ++ List.replicate k 0) → Upd (ob A ++ []) w w' → K (a.put N (.slice A' (xs ++ List.replicate k 0).length c')) w') : OW P o a w K Q := by
  subst hN
  subst hv
  refine ⟨?_⟩
  obtain ⟨i0, hi, hz0, hz1, hz2⟩ := info_parts hinfo
  have hmap : xs.map (Value.int .u8) ++ List.replicate k (.int .u8 0) = (xs ++ List.replicate k 0).map (Value.int .u8) := by simp
  obtain ⟨v', w', hr, h1, hg⟩ := run_append_zeros (P := P) w base t tn o.type e i0 (.int .u8 0) kq kn ht htn hi hz0 hz1 (by omega) rfl rfl _ xs.length (xs.map (Value.int .u8)) (row_of_own one_u8.cell HO) k h0 hl hbase
  have h2 : OwnG base e 1 u8R w' v' (xs ++ List.replicate k 0) := by
    refine own_of_row (enc := Value.int .u8) (fun y hy => ?_) (by rw [← hmap]; simpa using h1)
    rcases List.mem_append.1 hy with hy | hy
    · obtain ⟨cs, h1⟩ := HO.mem y hy
      exact one_u8.any _ _ _ _ h1
    · rw [(List.mem_replicate.1 hy).2]
      exact ⟨rfl, by decide⟩
  have hU : Upd (ob A) w w' := Upd.of_grown hg _ fun k hk => .inl (by
    rcases ob_cases HO with rfl | ⟨g, cells, rfl, _, _⟩
    · simp [Value.ownBlock] at hk
    · simp [Value.ownBlock] at hk
      simp [ob, hk])
  have hn : n = xs.length := by
    obtain ⟨_, _, hv, _⟩ := HO.rd.shape
    injection hv
  have hrun : (execOp a.eval o).run P w = .ok (.value v') w' := by
    subst hn
    unfold execOp
    simp only [ho, resolve, invoke, builtin, Sem.run_bind, Sem.run_pure, Result.andThen_ok, List.map_toArray, List.map_cons, List.map_nil, hs, hx, hr]
  unfold Oper.wp
  rw [hrun]
  obtain ⟨A', c', rfl, _, _⟩ := h2.rd.shape
  exact h _ _ _ h2 (by simpa using hU)
def inK (P : Program) (t : TypeId) : Option IntKind := match P.underlying t with | some (.int k) => some k | _ => none
theorem inK_some {P : Program} {t : TypeId} {k : IntKind} (h : inK P t = some k) : P.underlying t = some (.int k) := by
  unfold inK at h
  split at h
  · rename_i q hq; rw [hq]; simpa using h
  · cases h
section
variable {P : Program} {Q : Exit → Act → World → Prop} {n : Nat} {D : List Deferred} {F : Fr} {w : World} {K : Fr → World → Prop} {d : Option Tmp} {t : TypeId} {s : String} {af : Array Edge} {gu : Option (Nat × Bool)}
theorem Ozer {x y : Operand} {e : TypeId} {base m c : Nat} {A : Option Addr} {xs : List Int} {ty tn : TypeId} {kq : IntKind} {v : Int} (bytes k : Nat) (HO : OwnG base e 1 u8R w (.slice A m c) xs) (hv : v = (k : Int)) (h0 : 0 < k)
    (hl : xs.length + k ≤ 4194304) (hbase : base ≤ w.heap.size) (h : ∀ A' c' w', OwnG base e 1 u8R w' (.slice A' (xs ++ List.replicate k 0).length c') (xs ++ List.replicate k 0) → Upd (ob A ++ []) w w' → K (pt d (.slice A' (xs ++ List.replicate k 0).length c') F) w')
    (hx : evo F x = some (.slice A m c) := by kernel_rfl) (hy : evo F y = some (.int kq v) := by kernel_rfl) (he : slE P ty = some e := by kernel_rfl) (hk : inK P tn = some .i64 := by kernel_rfl) (hs : (infA P ty, dok n d && Nat.ble bytes 65536) = (some (some (.int .u8 0), 1, bytes), true) := by kernel_rfl) : OG P ⟨d, .call { callee := .builtin .append, args := #[x, y], argTypes := #[ty, tn] }, t, s, af, gu⟩ n D F w K Q := by
  simp only [Prod.mk.injEq] at hs
  have h2 := and2 hs.2
  exact ⟨fun a ha K' hK => ow_zer bytes rfl rfl (slE_some he) (inK_some hk) (by have := hs.1; unfold infA at this; rw [he] at this; exact this) xs (ha.ev hx) HO k hv (ha.ev hy) h0 hl (by simpa using h2.2) hbase fun A' c' w' hO hu => hK _ _ _ (h A' c' w' hO hu) (ha.put h2.1)⟩
end
end Go.Proofs.Ytbaeecmamacphaa
namespace Go.Proofs.Ytbaeecmamacphaa
open Go.RowKit
theorem cuts_true {a b : Int} (h : a = 2 ∨ a = 5) (h2 : b = 5 ∨ b = 3) : (((a == 2) || (a == 5)) && ((b == 5) || (b == 3))) = true := by
  rcases h with rfl | rfl <;> rcases h2 with rfl | rfl <;> rfl
set_option maxRecDepth 100000 in
set_option maxHeartbeats 4000000 in
theorem lawMbapCuts {w : World} {ans : Bool} {at_ mo : Int} (hat : 0 ≤ at_ ∧ at_ < 65536) (hmo : 0 ≤ mo ∧ mo < 256) {u t : Int} {M : Msg} {xM : SL} {mM : Bool} (hM : MsgRd mM w (mcl M xM).toList M) (hbu : 0 ≤ u ∧ u < 256) (hbt : 0 ≤ t ∧ t < 65536) :
    Calls Try.prog 10 #[.bool ans, .agg (fcl u t M xM), .int .u16 at_, .int .u8 mo] w (PVal (.bool true) w) := by
 have hRM := hM.rngs
 obtain ⟨hcM, hdM⟩ := hRM
 refine en 88 Try.func10 rfl <| sg <| L0 <| Obx (fcl u t M xM) fun g10 w11 hg12 B13 hu14 => Pl 1 <| ng <| L0 <| Oc <| m1 (@awake17 _) fun w15 hu16 => Pl 1 <| nt <| sq <| ?_
 refine go <| Pl 1 <| ?_
 have r17 := ub hu16 B13
 refine L0 <| Ola r17 2 22 <| ?_
 have U18 := ut0 hu14 hu16
 have r19 := MsgRd.old hM U18
 refine L0 <| Oc <| m1 (few_any r19) fun w20 hu21 => Pl 1 <| nt <| sq <| sg <| Pl 2 <| nt <| ?_
 have U22 := ut0 U18 hu21
 refine cb ((!(fewB M))) (fun q23 => ?_) (fun q23 => ?_)
 have q23n : (fewB M) = false := by simpa using q23
 refine sg <| Pl 2 <| nt <| rt <| tr <| rr (.bool true) <| ?_
 exact ⟨rfl, U22⟩
 have q23n : (fewB M) = true := by simpa using q23
 refine skn <| sg <| Pl 1 <| nt <| sq <| sg <| Pl 1 <| nt <| cb (ans) (fun q24 => ?_) (fun q24 => ?_)
 refine go <| Pl 1 <| ng <| Pl 1 <| ?_
 have r25 := ub hu21 r17
 refine L0 <| Olw r25 <| ?_
 have r26 := MsgRd.old r19 hu21
 refine wo (mbapW 1 u t M) (fun hX28 => ?_) (fun l27 hX28 => ?_)
 refine L0 <| Oc <| m1 (mbap_write_n hX28 r26 (fewB_few q23n) (by omega) (by omega)) fun w29 hu30 => Pl 5 <| nt <| sq <| sg <| Pl 7 <| nt <| c1 <| sg <| Pl 6 <| nl <| ?_
 refine tn <| rt <| tr <| rr (.bool true) <| ?_
 have U31 := ut0 U22 hu30
 exact ⟨rfl, U31⟩
 have hl32 := mbapW_le (r26.rngs).1 hX28
 refine L0 <| Oc <| so2 (mbap_write_s hX28 r26 (fewB_few q23n) (by omega) (by omega)) fun A37 cp38 w33 rd41 hl39 hm40 hu36 => Pl 5 <| nt <| sq <| sg <| Pl 7 <| nt <| ?_
 have U42 := ut0 U22 hu36
 refine cb ((((l27.length : Nat) : Int) == 0)) (fun q43 => ?_) (fun q43 => ?_)
 have q43p := eq_of_beqi q43
 refine sg <| Pl 6 <| nt <| rt <| tr <| rr (.bool false) <| ?_
 have hs : false = true := by have y := mbapW_le hcM hX28; have q := eq_of_beqi q43; omega
 rw [hs]
 exact ⟨rfl, U42⟩
 have q43p := ne_of_beqi q43
 refine skn <| sg <| Pl 1 <| L0 <| Oi at_ <| Pl 2 <| ?_
 have hm44 := rem_rng (x := at_) (y := ((l27.length : Nat) : Int)) (by omega)
 refine L0 <| Or_ (.int .i64 (at_ % ((l27.length : Nat) : Int))) (run_rem rfl (by kernel_rfl) (by kernel_rfl) (by omega) (by omega)) <| Pl 1 <| ng <| Pl 3 <| x12 (cut_h (P := Try.prog) 22 5 1 Try.underlying22 rfl rfl A37 l27.length cp38 (k := (at_ % ((l27.length : Nat) : Int))) (((at_ % ((l27.length : Nat) : Int))).toNat) (by omega) (by omega) (by omega)) fun A45 hrun46 hrd47 => L0 <| Or_ (.slice A45 (((at_ % ((l27.length : Nat) : Int))).toNat) cp38) (run_cuth (kl := .i64) (k := (at_ % ((l27.length : Nat) : Int))) (A := A37) (n := l27.length) (c := cp38) rfl Try.underlying22 (by kernel_rfl) (by kernel_rfl) (hrun46 _ _)) <| ?_
 refine pr (mbapP 1 (l27.take (((at_ % ((l27.length : Nat) : Int))).toNat))) fun F48 E49 hX50 => ?_
 refine L0 <| Oc <| e2 (mbap_parse_x hX50 (hrd47 _ _ _ _ _ (rd41).rd) (by rw [List.length_take]; omega)) fun x51 w52 hx57 hu56 => ?_
 obtain ⟨hM53, hF54, hF55⟩ := hx57
 refine Pl 3 <| L0 <| Oal #[.int .u8 0, .int .u16 0, .int .u8 0, .int .u8 0, .int .u16 0, .int .u16 0, .int .u16 0, .int .u16 0, .int .u16 0, .int .u16 0, .int .u16 0, .int .u16 0, .int .u16 0, .int .u16 0, .slice none 0 0, .slice none 0 0, .slice none 0 0, .slice none 0 0, .int .u8 0, .int .u8 0, .int .u8 0, .int .u8 0, .int .u8 0, .slice none 0 0] fun g58 w59 hg60 B61 hu62 => L0 <| Osw B61 (fcl F48.unit F48.tid F48.msg x51) fun w63 B64 hu65 => Pl 1 <| ng <| Pl 1 <| L0 <| Olt (m := 0) (e := 5) #[] fun g66 w67 hg68 B69 hu70 => ?_
 have ow71 := litB hg68 (xs := []) (by as_aux_lemma => kernel_rfl) rng_nil (by (try simp only [List.length_cons, List.length_nil]); omega) B69
 refine Pl 1 <| ?_
 have U72 := ut0 hu56 hu62
 have U73 := u1 U72 hu65 (ni hu56.size hg60)
 have U74 := ut0 U73 hu70
 have r75 := own_stay rd41 U74 (fun x hx => not0) (fun _ _ h => h)
 refine L0 <| Oapp one_u8 (xs := ([])) (ys := l27) (.int .u8 0) 1 ow71 (r75).rd (by (try simp only [List.length_append, List.length_cons, List.length_nil, putW_length]); omega) hu70.size fun A76 cp77 w78 ho79 hu80 => Pl 1 <| L0 <| Oe (.int .u8 (Int.tmod mo 9)) (.int .u8 (mo % 9)) (congrArg (Value.int .u8) (Int.tmod_eq_emod_of_nonneg (by omega))) <| L0 <| Oi (mo % 9) <| L0 <| Oi (1 + (mo % 9)) <| L0 <| Ozer (xs := ([] ++ l27)) (kq := .i64) (v := (1 + (mo % 9))) 1 (((1 + (mo % 9))).toNat) ho79 (by omega) (by omega) (by (try simp only [List.length_append, List.length_cons, List.length_nil]); omega) (le hu70.size hu80.size) fun A81 cp82 w83 ho84 hu85 => ?_
 refine pr (mbapP 1 (([] ++ l27) ++ List.replicate (((1 + (mo % 9))).toNat) 0)) fun F86 E87 hX88 => ?_
 refine L0 <| Oc <| e2 (mbap_parse_x hX88 (ho84).rd (by simp only [List.length_append, List.length_cons, List.length_nil, List.length_replicate]; omega)) fun x89 w90 hx95 hu94 => ?_
 obtain ⟨hM91, hF92, hF93⟩ := hx95
 refine Pl 3 <| L0 <| Oal #[.int .u8 0, .int .u16 0, .int .u8 0, .int .u8 0, .int .u16 0, .int .u16 0, .int .u16 0, .int .u16 0, .int .u16 0, .int .u16 0, .int .u16 0, .int .u16 0, .int .u16 0, .int .u16 0, .slice none 0 0, .slice none 0 0, .slice none 0 0, .slice none 0 0, .int .u8 0, .int .u8 0, .int .u8 0, .int .u8 0, .int .u8 0, .slice none 0 0] fun g96 w97 hg98 B99 hu100 => L0 <| Osw B99 (fcl F86.unit F86.tid F86.msg x89) fun w101 B102 hu103 => Pl 1 <| ng <| Pl 5 <| cu 3 [75] 78 (((E49 == 2) || (E49 == 5))) (fun K K105 => ?_) ?_
 refine bl 75 ((E49 == 2)) (fun q104 => ?_) (fun q104 => ?_)
 have q104p := eq_of_beqi q104
 exact Pl 3 <| ce K105 true (by rw [q104]; rfl)
 have q104p := ne_of_beqi q104
 exact Pl 3 <| ce K105 (E49 == 5) (by rw [q104]; rfl)
 refine Pl 2 <| cu 7 [80] 87 ((((E49 == 2) || (E49 == 5)) && ((E87 == 5) || (E87 == 3)))) (fun K K107 => ?_) ?_
 refine bl 80 (((E49 == 2) || (E49 == 5))) (fun q106 => ?_) (fun q106 => ?_)
 refine Pl 3 <| cu 3 [83] 86 (((E87 == 5) || (E87 == 3))) (fun K K109 => ?_) ?_
 refine bl 83 ((E87 == 5)) (fun q108 => ?_) (fun q108 => ?_)
 have q108p := eq_of_beqi q108
 exact Pl 3 <| ce K109 true (by rw [q108]; rfl)
 have q108p := ne_of_beqi q108
 exact Pl 3 <| ce K109 (E87 == 3) (by rw [q108]; rfl)
 exact Pl 1 <| ce K107 ((E87 == 5) || (E87 == 3)) (by rw [q106]; rfl)
 have q106a := (or_f q106).1
 have q106b := (or_f q106).2
 have q106ap := ne_of_beqi q106a
 have q106bp := ne_of_beqi q106b
 exact Pl 7 <| ce K107 false (by rw [q106]; rfl)
 refine Pl 1 <| nt <| rt <| rr (.bool (((E49 == 2) || (E49 == 5)) && ((E87 == 5) || (E87 == 3)))) <| ?_
 have hs : (((E49 == 2) || (E49 == 5)) && ((E87 == 5) || (E87 == 3))) = true := cuts_true (mbap_cut (by decide) hbt hX28 (by omega) hX50) (mbap_more (by decide) hcM hbt hX28 (by rw [List.length_replicate]; omega) hX88)
 rw [hs]
 have U110 := ut0 U42 hu56
 have U111 := ut0 U110 hu62
 have U112 := u1 U111 hu65 (ni U110.size hg60)
 have U113 := ut0 U112 hu70
 have U114 := ut U113 hu80 (all_app (ob_new ow71 U112.size) all0)
 have U115 := ut U114 hu85 (all_app (ob_new ho79 U112.size) all0)
 have U116 := ut0 U115 hu94
 have U117 := ut0 U116 hu100
 have U118 := u1 U117 hu103 (ni U116.size hg98)
 exact ⟨rfl, U118⟩
 refine skn <| sg <| Pl 1 <| ?_
 have r119 := ub hu21 r17
 refine L0 <| Olw r119 <| ?_
 have r120 := MsgRd.old r19 hu21
 refine wo (mbapW 0 u t M) (fun hX122 => ?_) (fun l121 hX122 => ?_)
 refine L0 <| Oc <| m1 (mbap_write_n hX122 r120 (fewB_few q23n) (by omega) (by omega)) fun w123 hu124 => Pl 5 <| nt <| sq <| sg <| Pl 7 <| nt <| c1 <| sg <| Pl 6 <| nl <| ?_
 refine tn <| rt <| tr <| rr (.bool true) <| ?_
 have U125 := ut0 U22 hu124
 exact ⟨rfl, U125⟩
 have hl126 := mbapW_le (r120.rngs).1 hX122
 refine L0 <| Oc <| so2 (mbap_write_s hX122 r120 (fewB_few q23n) (by omega) (by omega)) fun A131 cp132 w127 rd135 hl133 hm134 hu130 => Pl 5 <| nt <| sq <| sg <| Pl 7 <| nt <| ?_
 have U136 := ut0 U22 hu130
 refine cb ((((l121.length : Nat) : Int) == 0)) (fun q137 => ?_) (fun q137 => ?_)
 have q137p := eq_of_beqi q137
 refine sg <| Pl 6 <| nt <| rt <| tr <| rr (.bool false) <| ?_
 have hs : false = true := by have y := mbapW_le hcM hX122; have q := eq_of_beqi q137; omega
 rw [hs]
 exact ⟨rfl, U136⟩
 have q137p := ne_of_beqi q137
 refine skn <| sg <| Pl 1 <| L0 <| Oi at_ <| Pl 2 <| ?_
 have hm138 := rem_rng (x := at_) (y := ((l121.length : Nat) : Int)) (by omega)
 refine L0 <| Or_ (.int .i64 (at_ % ((l121.length : Nat) : Int))) (run_rem rfl (by kernel_rfl) (by kernel_rfl) (by omega) (by omega)) <| Pl 1 <| ng <| Pl 3 <| x12 (cut_h (P := Try.prog) 22 5 1 Try.underlying22 rfl rfl A131 l121.length cp132 (k := (at_ % ((l121.length : Nat) : Int))) (((at_ % ((l121.length : Nat) : Int))).toNat) (by omega) (by omega) (by omega)) fun A139 hrun140 hrd141 => L0 <| Or_ (.slice A139 (((at_ % ((l121.length : Nat) : Int))).toNat) cp132) (run_cuth (kl := .i64) (k := (at_ % ((l121.length : Nat) : Int))) (A := A131) (n := l121.length) (c := cp132) rfl Try.underlying22 (by kernel_rfl) (by kernel_rfl) (hrun140 _ _)) <| ?_
 refine pr (mbapP 0 (l121.take (((at_ % ((l121.length : Nat) : Int))).toNat))) fun F142 E143 hX144 => ?_
 refine L0 <| Oc <| e2 (mbap_parse_x hX144 (hrd141 _ _ _ _ _ (rd135).rd) (by rw [List.length_take]; omega)) fun x145 w146 hx151 hu150 => ?_
 obtain ⟨hM147, hF148, hF149⟩ := hx151
 refine Pl 3 <| L0 <| Oal #[.int .u8 0, .int .u16 0, .int .u8 0, .int .u8 0, .int .u16 0, .int .u16 0, .int .u16 0, .int .u16 0, .int .u16 0, .int .u16 0, .int .u16 0, .int .u16 0, .int .u16 0, .int .u16 0, .slice none 0 0, .slice none 0 0, .slice none 0 0, .slice none 0 0, .int .u8 0, .int .u8 0, .int .u8 0, .int .u8 0, .int .u8 0, .slice none 0 0] fun g152 w153 hg154 B155 hu156 => L0 <| Osw B155 (fcl F142.unit F142.tid F142.msg x145) fun w157 B158 hu159 => Pl 1 <| ng <| Pl 1 <| L0 <| Olt (m := 0) (e := 5) #[] fun g160 w161 hg162 B163 hu164 => ?_
 have ow165 := litB hg162 (xs := []) (by as_aux_lemma => kernel_rfl) rng_nil (by (try simp only [List.length_cons, List.length_nil]); omega) B163
 refine Pl 1 <| ?_
 have U166 := ut0 hu150 hu156
 have U167 := u1 U166 hu159 (ni hu150.size hg154)
 have U168 := ut0 U167 hu164
 have r169 := own_stay rd135 U168 (fun x hx => not0) (fun _ _ h => h)
 refine L0 <| Oapp one_u8 (xs := ([])) (ys := l121) (.int .u8 0) 1 ow165 (r169).rd (by (try simp only [List.length_append, List.length_cons, List.length_nil, putW_length]); omega) hu164.size fun A170 cp171 w172 ho173 hu174 => Pl 1 <| L0 <| Oe (.int .u8 (Int.tmod mo 9)) (.int .u8 (mo % 9)) (congrArg (Value.int .u8) (Int.tmod_eq_emod_of_nonneg (by omega))) <| L0 <| Oi (mo % 9) <| L0 <| Oi (1 + (mo % 9)) <| L0 <| Ozer (xs := ([] ++ l121)) (kq := .i64) (v := (1 + (mo % 9))) 1 (((1 + (mo % 9))).toNat) ho173 (by omega) (by omega) (by (try simp only [List.length_append, List.length_cons, List.length_nil]); omega) (le hu164.size hu174.size) fun A175 cp176 w177 ho178 hu179 => ?_
 refine pr (mbapP 0 (([] ++ l121) ++ List.replicate (((1 + (mo % 9))).toNat) 0)) fun F180 E181 hX182 => ?_
 refine L0 <| Oc <| e2 (mbap_parse_x hX182 (ho178).rd (by simp only [List.length_append, List.length_cons, List.length_nil, List.length_replicate]; omega)) fun x183 w184 hx189 hu188 => ?_
 obtain ⟨hM185, hF186, hF187⟩ := hx189
 refine Pl 3 <| L0 <| Oal #[.int .u8 0, .int .u16 0, .int .u8 0, .int .u8 0, .int .u16 0, .int .u16 0, .int .u16 0, .int .u16 0, .int .u16 0, .int .u16 0, .int .u16 0, .int .u16 0, .int .u16 0, .int .u16 0, .slice none 0 0, .slice none 0 0, .slice none 0 0, .slice none 0 0, .int .u8 0, .int .u8 0, .int .u8 0, .int .u8 0, .int .u8 0, .slice none 0 0] fun g190 w191 hg192 B193 hu194 => L0 <| Osw B193 (fcl F180.unit F180.tid F180.msg x183) fun w195 B196 hu197 => Pl 1 <| ng <| Pl 5 <| cu 3 [75] 78 (((E143 == 2) || (E143 == 5))) (fun K K199 => ?_) ?_
 refine bl 75 ((E143 == 2)) (fun q198 => ?_) (fun q198 => ?_)
 have q198p := eq_of_beqi q198
 exact Pl 3 <| ce K199 true (by rw [q198]; rfl)
 have q198p := ne_of_beqi q198
 exact Pl 3 <| ce K199 (E143 == 5) (by rw [q198]; rfl)
 refine Pl 2 <| cu 7 [80] 87 ((((E143 == 2) || (E143 == 5)) && ((E181 == 5) || (E181 == 3)))) (fun K K201 => ?_) ?_
 refine bl 80 (((E143 == 2) || (E143 == 5))) (fun q200 => ?_) (fun q200 => ?_)
 refine Pl 3 <| cu 3 [83] 86 (((E181 == 5) || (E181 == 3))) (fun K K203 => ?_) ?_
 refine bl 83 ((E181 == 5)) (fun q202 => ?_) (fun q202 => ?_)
 have q202p := eq_of_beqi q202
 exact Pl 3 <| ce K203 true (by rw [q202]; rfl)
 have q202p := ne_of_beqi q202
 exact Pl 3 <| ce K203 (E181 == 3) (by rw [q202]; rfl)
 exact Pl 1 <| ce K201 ((E181 == 5) || (E181 == 3)) (by rw [q200]; rfl)
 have q200a := (or_f q200).1
 have q200b := (or_f q200).2
 have q200ap := ne_of_beqi q200a
 have q200bp := ne_of_beqi q200b
 exact Pl 7 <| ce K201 false (by rw [q200]; rfl)
 refine Pl 1 <| nt <| rt <| rr (.bool (((E143 == 2) || (E143 == 5)) && ((E181 == 5) || (E181 == 3)))) <| ?_
 have hs : (((E143 == 2) || (E143 == 5)) && ((E181 == 5) || (E181 == 3))) = true := cuts_true (mbap_cut (by decide) hbt hX122 (by omega) hX144) (mbap_more (by decide) hcM hbt hX122 (by rw [List.length_replicate]; omega) hX182)
 rw [hs]
 have U204 := ut0 U136 hu150
 have U205 := ut0 U204 hu156
 have U206 := u1 U205 hu159 (ni U204.size hg154)
 have U207 := ut0 U206 hu164
 have U208 := ut U207 hu174 (all_app (ob_new ow165 U206.size) all0)
 have U209 := ut U208 hu179 (all_app (ob_new ho173 U206.size) all0)
 have U210 := ut0 U209 hu188
 have U211 := ut0 U210 hu194
 have U212 := u1 U211 hu197 (ni U210.size hg192)
 exact ⟨rfl, U212⟩
end Go.Proofs.Ytbaeecmamacphaa
namespace Go.Proofs.Ytbaeecmamacphaa
open Go.ChangeShapes Go.WideShapes Go.ChangeAt Go.RowKit
theorem own : ownKnob Try.prog.godebug = none := by kernel_rfl
theorem laidOut : laidOutB Try.prog = true := by kernel_rfl
set_option maxRecDepth 100000 in
theorem lifted (os : Os) (started : os.Started) (H : Type) (enc : TypeId × Value → H) :
    ReturnsInHanded {} Try.checked os 10 .any (Rows.mbapCutsSpec.pre6 enc Try.prog Try.f10 Rows.mbapCutsRow.domain false) (Rows.mbapCutsSpec.post enc Try.prog Try.f10 false true false false) := by
  refine returnsInHanded_of_change (C := Try.checked) own started (by kernel_rfl) Try.func10
    (ChangeSpec.witness6 (enc := enc) (C := Try.checked) false ⟨#[], #[.bool false, .agg #[.int .u8 0, .int .u16 0, .int .u8 0, .int .u8 0, .int .u16 0, .int .u16 0, .int .u16 0, .int .u16 0, .int .u16 0, .int .u16 0, .int .u16 0, .int .u16 0, .int .u16 0, .int .u16 0, .slice none 0 0, .slice none 0 0, .slice none 0 0, .slice none 0 0, .int .u8 0, .int .u8 0, .int .u8 0, .int .u8 0, .int .u8 0, .slice none 0 0], .int .u16 0, .int .u8 0], []⟩ 8 (by kernel_rfl) (by kernel_rfl) (by kernel_rfl) (by kernel_rfl)) ?_
  intro W base args ds gs before hval0 hW hcnd _
  have hval : ∀ (j : Nat) t v, Try.f10.params[j]? = some t → args[j]? = some v → Value.okWide Try.prog W .any base t v := hval0
  have hW' := hW
  obtain ⟨p, q, hA0, hV, rfl, hfz, hnd⟩ := hW
  have hA : DataW.TrodAll enc Try.prog W 0 (fun _ => true) true Try.f10.params.toList args.toList ds p := hA0
  rw [Try.params10] at hA hval
  obtain ⟨v0, vs0, d0, ds0, p0, q0, hargs, rfl, rfl, h0, r0⟩ := trodAll_cons hA
  obtain ⟨v1, vs1, d1, ds1, p1, q1, rfl, rfl, rfl, h1, r1⟩ := trodAll_cons r0
  obtain ⟨v2, vs2, d2, ds2, p2, q2, rfl, rfl, rfl, h2, r2⟩ := trodAll_cons r1
  obtain ⟨v3, vs3, d3, ds3, p3, q3, rfl, rfl, rfl, h3, r3⟩ := trodAll_cons r2
  obtain ⟨rfl, rfl, rfl⟩ := trodAll_nil r3
  obtain rfl : args = #[v0, v1, v2, v3] := by cases args; simp_all
  obtain ⟨rfl, rfl⟩ := trodVars_none hV
  obtain ⟨a0, rfl, rfl, rfl⟩ := open_bool Try.underlying4 (hval 0 4 v0 rfl rfl) h0
  have k1 := h1
  have lt1 : ∀ x ∈ p1, x.block < W.heap.size := by obtain ⟨m, hm⟩ := k1; exact DataW.trod_lt m _ _ _ hm
  obtain ⟨u1, t1, M1, x1, rfl, R1, bu1, bt1⟩ := frm_arg ⟨_, hval 1 48 v1 rfl rfl⟩ h1
  obtain ⟨a2, rfl, rfl, rfl, w2⟩ := open_int Try.underlying23 (hval 2 23 v2 rfl rfl) h2
  have b2 := bounds_u16 w2
  obtain ⟨a3, rfl, rfl, rfl, w3⟩ := open_int Try.underlying5 (hval 3 5 v3 rfl rfl) h3
  have b3 := bounds_u8 w3
  clear hA0 hval0
  refine (lawMbapCuts (ans := a0) (by omega) (by omega) R1 bu1 bt1).mono fun e W' ⟨he, hu⟩ => ?_
  have bel := upd_below hu
  subst he
  exact ⟨_, rfl, _, _, _, [], _, [], hW', trodAll_mk1 (shut_bool Try.underlying4 _), (trodAll_cons_mk (shut_bool Try.underlying4 _) (trodAll_cons_mk (Below.trod laidOut (by kernel_rfl) (of_decide_eq_true (by kernel_rfl)) k1 bel lt1) (trodAll_cons_mk (shut_int Try.underlying23 w2) (trodAll_cons_mk (shut_int Try.underlying5 w3) trodAll_mk0)))), rfl, bel.frame _, fun h => by cases h⟩
theorem over : Rows.mbapCutsRow.holds Try.pinned (OpenSpec.ofChange Rows.mbapCutsSpec) :=
  OpenClaim.holds_of_wide 10 Try.f10 rfl rfl rfl rfl rfl rfl rfl ⟨rfl, rfl, rfl, rfl, rfl⟩ rfl rfl rfl rfl rfl (by kernel_rfl) Try.func10 (by kernel_rfl)
    (of_decide_eq_true (by kernel_rfl)) (by unfold Func.isWrapper; first | (rw [if_pos (by decide +kernel)]; kernel_rfl) | (rw [if_neg (by decide +kernel)]; exact ⟨rfl, rfl⟩))
    (fun os started H enc _ => lifted os started H enc)
theorem proved : Rows.MbapCutsSaid := over
#print axioms proved
end Go.Proofs.Ytbaeecmamacphaa
