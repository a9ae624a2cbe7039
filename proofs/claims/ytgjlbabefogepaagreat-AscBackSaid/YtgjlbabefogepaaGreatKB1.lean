/- Contracts of functions, part KB1. -/
import Derived.Test.YtgjlbabefogepaaGreatKA1
import Derived.Test.YtgjlbabefogepaaGreatKA2
import Derived.Test.YtgjlbabefogepaaGreatKA3
import Derived.Test.YtgjlbabefogepaaGreatKA4
import Derived.Test.YtgjlbabefogepaaGreatKA5
import Derived.Lib.ConvBytes
import Derived.Lib.OthersKept
import Derived.Laws.BitsAllLaws
import Derived.Shelf.Strings.Builder1
import Derived.Laws.StructEq
set_option linter.unusedVariables false
set_option linter.unusedSimpArgs false
namespace Go.Proofs.YtgjlbabefogepaaGreat
open Go.RowKit
structure Frm where
  unit : Int
  tid : Int
  msg : Msg
def Frm.zero : Frm := ⟨0, 0, Msg.zero⟩
def FrmRd (m : Bool) (w : World) (cs : Array Value) (F : Frm) : Prop := ∃ c : Array Value, cs = #[.int .u8 F.unit, .int .u16 F.tid] ++ c ∧ MsgRd m w c.toList F.msg ∧ B8 F.unit ∧ B16 F.tid
def PFrm (res : Frm × Int) (w : World) (e : Ending) (w' : World) : Prop := ∃ cs, e = .returned (.tuple #[.agg cs, .int .i64 res.2]) ∧ FrmRd true w' cs res.1 ∧ Upd [] w w'
theorem pf_eq {x y : Frm × Int} (h : x = y) {w : World} {e : Ending} {w' : World} (k : PFrm y w e w') : PFrm x w e w' := by rw [h]; exact k
def frmZ : Array Value := #[.int .u8 0, .int .u16 0, .int .u8 0, .int .u8 0, .int .u16 0, .int .u16 0, .int .u16 0, .int .u16 0, .int .u16 0, .int .u16 0, .int .u16 0, .int .u16 0, .int .u16 0, .int .u16 0, .slice none 0 0, .slice none 0 0, .slice none 0 0, .slice none 0 0, .int .u8 0, .int .u8 0, .int .u8 0, .int .u8 0, .int .u8 0, .slice none 0 0]
theorem bad_frm {x : Int} {w W : World} (hu : Upd [] w W) : PFrm (Frm.zero, x) w (.returned (.tuple #[.agg frmZ, .int .i64 x])) W := ⟨_, rfl, ⟨msgZ, (by kernel_rfl), MsgRd.zero .., (show (0 : Int) ≤ 0 ∧ (0 : Int) < 256 from by decide), (show (0 : Int) ≤ 0 ∧ (0 : Int) < 65536 from by decide)⟩, hu⟩
def frmOf (u t : Int) : Msg × Int → Frm × Int
  | (M, E) => if E != 0 then (Frm.zero, E) else (⟨u, t, M⟩, 0)
theorem pduW_len {dir : Int} {M : Msg} {l : List Int} (h : pduW dir M = some l) : l.length ≤ 253 := by
  unfold pduW at h
  split at h
  · split at h
    · cases h
    · unfold refW at h
      split at h
      · cases h
      · split at h
        · cases h
        · injection h with h
          subst h
          simp only [List.length_cons, List.length_nil]
          omega
  · split at h
    · cases h
    · split at h
      · cases h
      · rename_i hl
        injection h with h
        subst h
        simp only [decide_eq_true_eq] at hl
        simp only [List.length_append, List.length_cons, List.length_nil]
        omega
open Go.RowKit
deriving instance DecidableEq for Frm
def fcl (u t : Int) (M : Msg) (x : SL) : Array Value := #[.int .u8 u, .int .u16 t, .int .u8 M.code, .int .u8 M.fail, .int .u16 M.addr, .int .u16 M.count, .int .u16 M.value, .int .u16 M.and_, .int .u16 M.or_, .int .u16 M.addr2, .int .u16 M.sub, .int .u16 M.status, .int .u16 M.events, .int .u16 M.messages, .slice x.aw M.words.length x.kw, .slice x.ab M.bits.length x.kb, .slice x.ad M.data.length x.kd, .slice x.ar M.recs.length x.kr, .int .u8 M.mei, .int .u8 M.kind, .int .u8 M.level, .int .u8 M.more, .int .u8 M.next, .slice x.ao M.objects.length x.ko]
theorem fcl_eq (u t : Int) (M : Msg) (x : SL) : fcl u t M x = #[.int .u8 u, .int .u16 t] ++ mcl M x := by kernel_rfl
end Go.Proofs.YtgjlbabefogepaaGreat
namespace Go.Proofs.YtgjlbabefogepaaGreat
def lrcP (b : List Int) : Nat → Int
  | 0 => 0
  | k + 1 => (lrcP b k + b.getD k 0) % 256
def lrcS (b : List Int) : Int := lrcP b b.length
def lrcOf (b : List Int) : Int := (0 - lrcS b) % 256
def lrcIs (b : List Int) : Bool := decide (0 < ((b.length : Nat) : Int)) && (lrcOf b == 0)
theorem lrcP_rng (b : List Int) : ∀ k, 0 ≤ lrcP b k ∧ lrcP b k < 256
  | 0 => by unfold lrcP; omega
  | k + 1 => by unfold lrcP; omega
def hexD (n : Int) : Int := if n < 10 then 48 + n else 55 + n
def digV (c : Int) : Int := if 48 ≤ c ∧ c ≤ 57 then c - 48 else if 65 ≤ c ∧ c ≤ 70 then c - 55 else -1
def putH : List Int → List Int
  | [] => []
  | c :: b => hexD (c / 16) :: hexD (c % 16) :: putH b
def takeH : List Int → Option (List Int)
  | [] => some []
  | [_] => none
  | a :: b :: r => if digV a < 0 ∨ digV b < 0 then none else (takeH r).map fun l => (16 * digV a + digV b) % 256 :: l
theorem hexD_rng {n : Int} (h : 0 ≤ n ∧ n < 16) : 48 ≤ hexD n ∧ hexD n ≤ 70 := by unfold hexD; split <;> omega
theorem digV_hexD {n : Int} (h : 0 ≤ n ∧ n < 16) : digV (hexD n) = n := by
  unfold hexD
  split <;> unfold digV
  · rw [if_pos (by omega)]; omega
  · rw [if_neg (by omega), if_pos (by omega)]; omega
theorem hexD_digV {c : Int} (h : 0 ≤ digV c) : hexD (digV c) = c ∧ digV c < 16 := by
  unfold digV at h ⊢
  split at h
  · rename_i h1
    rw [if_pos h1]
    unfold hexD
    rw [if_pos (by omega)]
    omega
  · rename_i h1
    split at h
    · rename_i h2
      rw [if_neg h1, if_pos h2]
      unfold hexD
      rw [if_neg (by omega)]
      omega
    · omega
theorem digV_lt (c : Int) : digV c < 16 ∧ -1 ≤ digV c := by unfold digV; split; omega; split <;> omega
theorem putH_len : ∀ b : List Int, (putH b).length = 2 * b.length
  | [] => rfl
  | c :: b => by simp only [putH, List.length_cons, putH_len b]; omega
theorem putH_app : ∀ a b : List Int, putH (a ++ b) = putH a ++ putH b
  | [], b => rfl
  | c :: a, b => by simp only [List.cons_append, putH, putH_app a b]
theorem takeH_put : ∀ b : List Int, (∀ x, x ∈ b → 0 ≤ x ∧ x < 256) → takeH (putH b) = some b
  | [], _ => rfl
  | c :: b, h => by
    have hc := h c (List.mem_cons_self ..)
    have h1 := digV_hexD (n := c / 16) (by omega)
    have h2 := digV_hexD (n := c % 16) (by omega)
    simp only [putH, takeH]
    rw [h1, h2, if_neg (by omega), takeH_put b fun x hx => h x (List.mem_cons_of_mem _ hx), show (16 * (c / 16) + c % 16) % 256 = c from by omega]
    rfl
theorem takeH_some : ∀ {s x : List Int}, takeH s = some x → s = putH x ∧ ∀ y, y ∈ x → 0 ≤ y ∧ y < 256
  | [], x, h => by
    injection h with h
    subst h
    exact ⟨rfl, fun y hy => by cases hy⟩
  | [_], x, h => by cases h
  | a :: b :: r, x, h => by
    simp only [takeH] at h
    split at h
    · cases h
    · rename_i hd
      cases hr : takeH r with
      | none => rw [hr] at h; cases h
      | some l =>
        rw [hr] at h
        injection h with h
        obtain ⟨h1, h2⟩ := takeH_some hr
        have ha := hexD_digV (c := a) (by omega)
        have hb := hexD_digV (c := b) (by omega)
        subst h
        refine ⟨?_, fun y hy => ?_⟩
        · simp only [putH]
          rw [show (16 * digV a + digV b) % 256 / 16 = digV a from by omega, show (16 * digV a + digV b) % 256 % 16 = digV b from by omega, ha.1, hb.1, ← h1]
        · rcases List.mem_cons.1 hy with rfl | hy
          · omega
          · exact h2 y hy
theorem takeH_step {xs : List Int} {k : Nat} (h : 2 * k + 1 < xs.length) (ha : ¬ digV (xs.getD (2 * k) 0) < 0) (hb : ¬ digV (xs.getD (2 * k + 1) 0) < 0) : takeH (xs.drop (2 * k)) = (takeH (xs.drop (2 * (k + 1)))).map fun l => [(16 * digV (xs.getD (2 * k) 0) + digV (xs.getD (2 * k + 1) 0)) % 256] ++ l := by
  have e1 : xs.getD (2 * k) 0 = xs[2 * k] := by rw [List.getD_eq_getElem?_getD, List.getElem?_eq_getElem (by omega)]; rfl
  have e2 : xs.getD (2 * k + 1) 0 = xs[2 * k + 1] := by rw [List.getD_eq_getElem?_getD, List.getElem?_eq_getElem h]; rfl
  rw [List.drop_eq_getElem_cons (show 2 * k < xs.length by omega), List.drop_eq_getElem_cons h, ← e1, ← e2]
  simp only [takeH]
  rw [if_neg (by omega), show 2 * k + 1 + 1 = 2 * (k + 1) by omega]
  rfl
theorem takeH_bad {xs : List Int} {k : Nat} (h : 2 * k + 1 < xs.length) (hd : digV (xs.getD (2 * k) 0) < 0 ∨ digV (xs.getD (2 * k + 1) 0) < 0) : takeH (xs.drop (2 * k)) = none := by
  have e1 : xs.getD (2 * k) 0 = xs[2 * k] := by rw [List.getD_eq_getElem?_getD, List.getElem?_eq_getElem (by omega)]; rfl
  have e2 : xs.getD (2 * k + 1) 0 = xs[2 * k + 1] := by rw [List.getD_eq_getElem?_getD, List.getElem?_eq_getElem h]; rfl
  rw [List.drop_eq_getElem_cons (show 2 * k < xs.length by omega), List.drop_eq_getElem_cons h, ← e1, ← e2]
  simp only [takeH]
  rw [if_pos hd]
theorem takeH_odd : ∀ {xs : List Int}, xs.length % 2 ≠ 0 → takeH xs = none
  | [], h => by simp at h
  | [_], _ => rfl
  | a :: b :: r, h => by
    simp only [takeH]
    split
    · rfl
    · rw [takeH_odd (by simp only [List.length_cons] at h; omega)]
      rfl
theorem takeH_len {s x : List Int} (h : takeH s = some x) : s.length = 2 * x.length := by
  obtain ⟨h1, _⟩ := takeH_some h
  rw [h1, putH_len]
theorem takeH_end {xs L : List Int} {k : Nat} (h : takeH xs = (takeH (xs.drop (2 * k))).map fun l => L ++ l) (h1 : ¬ 2 * k < xs.length) : takeH xs = some L := by
  rw [List.drop_eq_nil_of_le (by omega)] at h
  rw [h]
  simp [takeH]
theorem takeH_next {xs L : List Int} {k : Nat} (h : takeH xs = (takeH (xs.drop (2 * k))).map fun l => L ++ l) (h2 : 2 * k + 1 < xs.length) (ha : ¬ digV (xs.getD (2 * k) 0) < 0) (hb : ¬ digV (xs.getD (2 * k + 1) 0) < 0) : takeH xs = (takeH (xs.drop (2 * (k + 1)))).map fun l => (L ++ [(16 * digV (xs.getD (2 * k) 0) + digV (xs.getD (2 * k + 1) 0)) % 256]) ++ l := by
  rw [h, takeH_step h2 ha hb]
  cases takeH (xs.drop (2 * (k + 1))) with
  | none => rfl
  | some l => simp
theorem takeH_no {xs L : List Int} {k : Nat} (h : takeH xs = (takeH (xs.drop (2 * k))).map fun l => L ++ l) (h2 : 2 * k + 1 < xs.length) (hd : digV (xs.getD (2 * k) 0) < 0 ∨ digV (xs.getD (2 * k + 1) 0) < 0) : takeH xs = none := by
  rw [h, takeH_bad h2 hd]
  rfl
theorem putH_snoc (b : List Int) (k : Nat) (h : k < b.length) : putH (b.take (k + 1)) = (putH (b.take k) ++ [hexD (b.getD k 0 / 16)]) ++ [hexD (b.getD k 0 % 16)] := by
  rw [List.take_succ_eq_append_getElem h, putH_app, List.getD_eq_getElem?_getD, List.getElem?_eq_getElem h]
  simp [putH]
open Go.RowKit
abbrev Byts (xs : List Int) : Prop := ∀ x, x ∈ xs → 0 ≤ x ∧ x < 256
theorem u8_back {x : Int} (h : 0 ≤ x ∧ x < 256) : ((UInt8.ofNat x.toNat).toNat : Int) = x := by
  simp only [UInt8.toNat_ofNat']
  omega
theorem strOfNums_get {xs : List Int} {j : Nat} (hj : j < xs.length) (hs : j < (strOfNums xs).size) : (strOfNums xs)[j] = UInt8.ofNat (xs.getD j 0).toNat := by
  show (strOfNums xs).data[j] = _
  simp [strOfNums, List.getD_eq_getElem?_getD, List.getElem?_eq_getElem hj]
theorem run_idxs {P : Program} {w : World} {ev : Operand → Value} {o : Oper} {x ix : Operand} {t : TypeId} {xs : List Int} {k : IntKind} {i : Int} (j : Nat) (ho : o.op = .index t x ix) (ht : P.underlying t = some .string) (hx : ev x = .string (strOfNums xs)) (hi : ev ix = .int k i) (hr : Byts xs) (hj : i = (j : Int)) (hlt : j < xs.length) : (execOp ev o).run P w = .ok (.value (.int .u8 (xs.getD j 0))) w := by
  subst hj
  have hs : j < (strOfNums xs).size := by rw [strOfNums_size]; exact hlt
  have h := run_index_string (P := P) w t (strOfNums xs) k (j : Int) ht
  rw [dif_pos (by omega)] at h
  have hg : xs.getD j 0 ∈ xs := by
    rw [List.getD_eq_getElem?_getD, List.getElem?_eq_getElem hlt]
    exact List.getElem_mem hlt
  unfold execOp
  simp only [ho, hx, hi, Sem.run_bind, h, Result.andThen, Sem.run_pure]
  have e : ((strOfNums xs)[((j : Nat) : Int).toNat]'(by simpa using hs)) = UInt8.ofNat (xs.getD j 0).toNat := by
    simp only [Int.toNat_natCast]
    exact strOfNums_get hlt hs
  rw [e, u8_back (hr _ hg)]
theorem strOfNums_extract (xs : List Int) (a b : Nat) (hb : b ≤ xs.length) : (strOfNums xs).extract a b = strOfNums ((xs.take b).drop a) := by
  apply ByteArray.ext
  rw [ByteArray.data_extract]
  apply Array.toList_inj.1
  rw [Array.toList_extract]
  simp [strOfNums, List.extract, List.map_drop, List.map_take, List.drop_take]
theorem run_cutsF {P : Program} {w : World} {ev : Operand → Value} {o : Oper} {x y : Operand} {t : TypeId} {xs : List Int} {k : IntKind} {i : Int} (j : Nat) (ho : o.op = .slice t x (some y) none none) (ht : P.underlying t = some .string) (hx : ev x = .string (strOfNums xs)) (hy : ev y = .int k i) (hj : i = (j : Int)) (hlt : j ≤ xs.length) : (execOp ev o).run P w = .ok (.value (.string (strOfNums (xs.drop j)))) w := by
  subst hj
  have hu : (underlying t).run P w = .ok .string w := run_underlying ht w
  have h := run_slice_string_l (P := P) w t (strOfNums xs) ht k (j : Int) (by omega) (by rw [strOfNums_size]; omega)
  rw [strOfNums_size, strOfNums_extract _ _ _ (Nat.le_refl _), List.take_length, Int.toNat_natCast] at h
  unfold execOp
  simp only [ho, Option.map_some, Option.map_none, hx, hy, Instr.sliceAt, Sem.run_bind, hu, h, Result.andThen, Sem.run_pure]
theorem run_cutsT {P : Program} {w : World} {ev : Operand → Value} {o : Oper} {x y : Operand} {t : TypeId} {xs : List Int} {k : IntKind} {i : Int} (j : Nat) (ho : o.op = .slice t x none (some y) none) (ht : P.underlying t = some .string) (hx : ev x = .string (strOfNums xs)) (hy : ev y = .int k i) (hj : i = (j : Int)) (hlt : j ≤ xs.length) : (execOp ev o).run P w = .ok (.value (.string (strOfNums (xs.take j)))) w := by
  subst hj
  have hu : (underlying t).run P w = .ok .string w := run_underlying ht w
  have h := run_slice_string_h (P := P) w t (strOfNums xs) ht k (j : Int) (by omega) (by rw [strOfNums_size]; omega)
  rw [Int.toNat_natCast, strOfNums_extract _ _ _ hlt, List.drop_zero] at h
  unfold execOp
  simp only [ho, Option.map_some, Option.map_none, hx, hy, Instr.sliceAt, Sem.run_bind, hu, h, Result.andThen, Sem.run_pure]
theorem strOfNums_app (xs ys : List Int) : strOfNums xs ++ strOfNums ys = strOfNums (xs ++ ys) := by
  apply ByteArray.ext
  simp [strOfNums, ByteArray.data_append]
theorem run_adds {P : Program} {w : World} {ev : Operand → Value} {o : Oper} {x y : Operand} {t t' : TypeId} {a b : ByteArray} {xs ys : List Int} (ho : o.op = .binOp .add t x y t') (hx : ev x = .string a) (hy : ev y = .string b) (ha : a = strOfNums xs) (hb : b = strOfNums ys) (hl : xs.length + ys.length ≤ 1048576) : (execOp ev o).run P w = .ok (.value (.string (strOfNums (xs ++ ys)))) w := by
  subst ha hb
  have hg : eqGuard .add t x y (.string (strOfNums xs)) (.string (strOfNums ys)) = pure () := rfl
  unfold execOp
  simp only [ho, hx, hy, hg, Sem.run_bind, Sem.run_pure, Result.andThen]
  have h : (binOp .add t (.string (strOfNums xs)) (.string (strOfNums ys))).run P w = .ok (.string (strOfNums (xs ++ ys))) w := by
    show (Op.stringOp .add _ _).run P w = _
    unfold Op.stringOp
    rw [← strOfNums_app]
    have : ¬ ((((strOfNums xs).size + (strOfNums ys).size : Nat) : Int) > IntKind.i64.max) := by
      rw [strOfNums_size, strOfNums_size]
      show ¬ (((xs.length + ys.length : Nat) : Int) > 9223372036854775807)
      omega
    dsimp only
    rw [if_neg this]
    rfl
  rw [h]
theorem byts_app {xs ys : List Int} (h : Byts xs) (k : Byts ys) : Byts (xs ++ ys) := fun x hx => by
  rcases List.mem_append.1 hx with h1 | h1
  · exact h x h1
  · exact k x h1
theorem byts_drop {xs : List Int} (h : Byts xs) (j : Nat) : Byts (xs.drop j) := fun x hx => h x (List.mem_of_mem_drop hx)
theorem byts_take {xs : List Int} (h : Byts xs) (j : Nat) : Byts (xs.take j) := fun x hx => h x (List.mem_of_mem_take hx)
theorem str_eqx {xs ys : List Int} (hx : Byts xs) (hy : Byts ys) : ((strOfNums xs).toList == (strOfNums ys).toList) = decide (xs = ys) := by
  have e : ∀ zs : List Int, (strOfNums zs).toList = zs.map fun n => UInt8.ofNat n.toNat := fun zs => by
    rw [ByteArray.toList_eq]
    rfl
  rw [e, e]
  by_cases h : xs = ys
  · subst h; simp
  · rw [decide_eq_false h, beq_eq_false_iff_ne]
    exact fun k => h (strOf_inj xs ys hx hy k)
def OwnF (base : Nat) (w : World) (v : Value) (xs : List Int) : Prop := ∃ g cap cur n, v = .slice (some ⟨g, 0, none⟩) xs.length cap ∧ base ≤ g ∧ w.heap[g]? = some (.cells cur 5 (n, n + 1)) ∧ xs.length ≤ n ∧ xs.length ≤ cap ∧ cap ≤ maxLen ∧ cur.toList.take xs.length = xs.map (Value.int .u8) ∧ Byts xs
theorem OwnF.rd {base : Nat} {w : World} {v : Value} {xs : List Int} (h : OwnF base w v xs) : RdB true w v xs := by
  obtain ⟨g, cap, cur, n, rfl, hb, hh, h1, h2, h3, h4, h5⟩ := h
  refine ⟨_, _, rfl, h2, h3, (fun hA => by cases hA), fun hp => ⟨g, 0, cur, _, _, rfl, hh, fun _ => rfl, fun j x hj => ?_⟩⟩
  refine ⟨[.int .u8 x], rfl, ⟨rfl, h5 x (List.mem_of_getElem? hj)⟩, fun i u hi => ?_⟩
  cases i with
  | succ i => simp at hi
  | zero =>
    have hi : Value.int .u8 x = u := by simpa using hi
    subst hi
    have h6 : (xs.map (Value.int .u8))[j]? = some (.int .u8 x) := by rw [List.getElem?_map, hj]; rfl
    rw [← h4, List.getElem?_take] at h6
    split at h6
    · simpa using h6
    · cases h6
theorem OwnF.ge {base g m c : Nat} {w : World} {xs : List Int} (h : OwnF base w (.slice (some ⟨g, 0, none⟩) m c) xs) : base ≤ g := by
  obtain ⟨g', cap, cur, n, hv, hb, _⟩ := h
  injection hv with e1 _ _
  injection e1 with e1
  injection e1 with e1 _
  rw [e1]
  exact hb
theorem OwnF.shape {base : Nat} {w : World} {v : Value} {xs : List Int} (h : OwnF base w v xs) : ∃ g cp, v = .slice (some ⟨g, 0, none⟩) xs.length cp := by
  obtain ⟨g, cap, cur, n, hv, _⟩ := h
  exact ⟨g, cap, hv⟩
theorem run_strconv {P : Program} {w : World} {src dst e : TypeId} {xs : List Int} (hs : P.underlying src = some .string) (hd : P.underlying dst = some (.slice e)) (he : P.underlying e = some (.int .u8)) (hte : e = 5) (hr : Byts xs) (hl : xs.length ≤ 1048576) :
    ∃ cp w', (convert src dst (.string (strOfNums xs))).run P w = .ok (.slice (some ⟨w.heap.size, 0, none⟩) xs.length cp) w' ∧ OwnF w.heap.size w' (.slice (some ⟨w.heap.size, 0, none⟩) xs.length cp) xs ∧ Upd [] w w' := by
  subst hte
  have h := Lib.run_convert_string_bytes (P := P) w src dst _ (strOfNums xs) hs hd he
  rw [strOfNums_size] at h
  refine ⟨_, _, h, ⟨_, _, _, _, rfl, Nat.le_refl _, Lib.bytesWorld_at_new w _ (strOfNums xs), ?_, ?_, ?_, ?_, hr⟩, ?_⟩
  · simp [Lib.bytesCells, strOfNums]
  · exact grownCap_ge ..
  · exact grownCap_le_maxLen _ _ _ _ (by unfold maxLen; omega)
  · simp only [Lib.bytesCells]
    rw [Array.toList_append, List.take_append_of_le_length (by simp [strOfNums])]
    rw [List.take_of_length_le (by simp [strOfNums])]
    simp only [strOfNums, Array.toList_map, List.map_map]
    apply List.map_congr_left
    intro x hx
    show Value.int .u8 _ = _
    rw [u8_back (hr x hx)]
  · exact ⟨rfl, rfl, rfl, by rw [Lib.bytesWorld_size]; omega, fun k hk _ => Lib.bytesWorld_at_old w _ _ k hk⟩
section
variable {P : Program} {n : Nat} {D : List Deferred} {F : Fr} {w : World} {K : Fr → World → Prop} {Q : Exit → Act → World → Prop} {d : Option Tmp} {t : TypeId} {s : String} {af : Array Edge} {gu : Option (Nat × Bool)}
theorem ow_valw {a : Act} {o : Oper} {N : Option Tmp} {K : Act → World → Prop} {w1 : World} (v : Value) (hN : o.dst = N) (hr : (execOp a.eval o).run P w = .ok (.value v) w1) (h : K (a.put N v) w1) : OW P o a w K Q := by
  refine OW.mk ?_
  subst hN
  unfold Oper.wp
  rw [hr]
  exact h
theorem Ocs {src dst : TypeId} {x : Operand} {xs : List Int} (hs : P.underlying src = some .string) (hd : P.underlying dst = some (.slice 5)) (he : P.underlying 5 = some (.int .u8)) (hr : Byts xs) (hl : xs.length ≤ 1048576)
    (h : ∀ A cp w', OwnF w.heap.size w' (.slice A xs.length cp) xs → Upd [] w w' → K (pt d (.slice A xs.length cp) F) w') (hx : evo F x = some (.string (strOfNums xs)) := by kernel_rfl) (hk : dok n d = true := by kernel_rfl) : OG P ⟨d, .convert src dst x, t, s, af, gu⟩ n D F w K Q := by
  obtain ⟨cp, w', h1, h2, h3⟩ := run_strconv (P := P) (w := w) hs hd he rfl hr hl
  refine ⟨fun a ha K' hK => ow_valw _ rfl (w1 := w') ?_ (hK _ _ _ (h _ _ _ h2 h3) (ha.put hk))⟩
  have hx' := ha.ev hx
  unfold execOp
  simp only [hx', Sem.run_bind, h1, Result.andThen, Sem.run_pure]
theorem Orng {ty : TypeId} {x : Operand} {sv : ByteArray} (hs : P.underlying ty = some .string) (h : ∀ g w', w.heap.size ≤ g → w'.heap[g]? = some (.stringIter sv 0) → Upd [] w w' → K (pt d (.pointer (some ⟨g, 0, none⟩)) F) w')
    (hx : evo F x = some (.string sv) := by kernel_rfl) (hk : dok n d = true := by kernel_rfl) : OG P ⟨d, .range ty x, t, s, af, gu⟩ n D F w K Q := by
  refine ⟨fun a ha K' hK => ow_valw (.pointer (some ⟨w.heap.size, 0, none⟩)) rfl (w1 := w.alloc (.stringIter sv 0)) ?_ (hK _ _ _ (h _ _ (Nat.le_refl _) (blk_new _ _) ((Upd.refl _ _).alloc _)) (ha.put hk))⟩
  have hx' := ha.ev hx
  unfold execOp
  simp only [hx', Sem.run_bind, run_range_string w ty sv hs, Result.andThen, Sem.run_pure]
  rfl
theorem decode_58 {xs : List Int} (hr : Byts xs) (h0 : 0 < xs.length) : ((((Utf8.decode (strOfNums xs) 0).1 : Nat) : Int) = 58 ↔ xs.getD 0 0 = 58) := by
  have hs : 0 < (strOfNums xs).size := by rw [strOfNums_size]; exact h0
  have hm : xs.getD 0 0 ∈ xs := by
    rw [List.getD_eq_getElem?_getD, List.getElem?_eq_getElem h0]
    exact List.getElem_mem h0
  have hb := hr _ hm
  have h1 : ((strOfNums xs).get! 0).toNat = (xs.getD 0 0).toNat := by
    have e : (strOfNums xs).get! 0 = (strOfNums xs)[0] := by
      show (strOfNums xs).data[0]! = _
      rw [getElem!_pos (strOfNums xs).data 0 hs]
      rfl
    rw [e, strOfNums_get h0 hs]
    simp only [UInt8.toNat_ofNat']
    omega
  unfold Utf8.decode
  simp only [Nat.zero_add, h1, Utf8.runeError]
  split
  · omega
  · split
    · split
      · rename_i h2 h3 h4; simp only; omega
      · simp only; omega
    · split
      · split
        · rename_i h2 h3 h4 h5; simp only [Bool.and_eq_true, decide_eq_true_eq] at h5; simp only; omega
        · simp only; omega
      · split
        · split
          · rename_i h2 h3 h4 h5 h6; simp only [Bool.and_eq_true, decide_eq_true_eq] at h6; simp only; omega
          · simp only; omega
        · simp only; omega
theorem Onx {x : Operand} {xs : List Int} {r : Nat} (hr : Byts xs) (h0 : 0 < xs.length) (B : w.heap[r]? = some (.stringIter (strOfNums xs) 0)) (h : ∀ c w', (c = 58 ↔ xs.getD 0 0 = 58) → Upd [r] w w' → K (pt d (.tuple #[.bool true, .int .i64 0, .int .i32 c]) F) w')
    (hx : evo F x = some (.pointer (some ⟨r, 0, none⟩)) := by kernel_rfl) (hk : dok n d = true := by kernel_rfl) : OG P ⟨d, .next x true, t, s, af, gu⟩ n D F w K Q := by
  have hlt := blk_lt B
  have hrun := Lib.run_next_any_at (P := P) w r (strOfNums xs) 0 t B (by rw [strOfNums_size]; exact h0)
  refine ⟨fun a ha K' hK => ow_valw _ rfl (w1 := w.iterAt r (strOfNums xs) (0 + (Utf8.decode (strOfNums xs) 0).2)) ?_ (hK _ _ _ (h (((Utf8.decode (strOfNums xs) 0).1 : Nat) : Int) _ (decode_58 hr h0) ?_) (ha.put hk))⟩
  · have hx' := ha.ev hx
    unfold execOp
    simp only [hx', Sem.run_bind, hrun, Result.andThen, Sem.run_pure]
    rfl
  · refine ⟨rfl, rfl, rfl, ?_, fun k hk hn => ?_⟩
    · simp [World.iterAt]
    · have : r ≠ k := fun e => hn (by simp [e])
      simp [World.iterAt, Array.getElem?_setIfInBounds, this]
end
end Go.Proofs.YtgjlbabefogepaaGreat
namespace Go.Proofs.YtgjlbabefogepaaGreat
def crc1 (x : Nat) : Nat := (x / 2) ^^^ (x % 2 * 40961)
def crcK : Nat → Nat → Nat
  | 0, x => x
  | k + 1, x => crc1 (crcK k x)
def tabN (i : Nat) : Nat := crcK 8 i
def unc1 (y : Nat) : Nat := if y < 32768 then y * 2 else (y ^^^ 40961) * 2 + 1
def uncK : Nat → Nat → Nat
  | 0, x => x
  | k + 1, x => unc1 (uncK k x) % 65536
def invT (h : Nat) : Nat := uncK 8 (h * 256) % 256
theorem crc1_lt {x : Nat} (h : x < 65536) : crc1 x < 65536 := by
  unfold crc1
  exact Nat.xor_lt_two_pow (n := 16) (by omega) (by omega)
theorem crcK_lt {x : Nat} (h : x < 65536) : ∀ k, crcK k x < 65536
  | 0 => h
  | k + 1 => crc1_lt (crcK_lt h k)
theorem tabN_lt {i : Nat} (h : i < 256) : tabN i < 65536 := crcK_lt (by omega) 8
theorem inv_tab : ∀ i, i < 256 → invT (tabN i / 256) = i := by decide +kernel
def stepN (s c : Nat) : Nat := (s / 256) ^^^ tabN ((s % 256) ^^^ c)
theorem xor_lt8 {a b : Nat} (ha : a < 256) (hb : b < 256) : a ^^^ b < 256 := Nat.xor_lt_two_pow (n := 8) ha hb
theorem xor_lt16 {a b : Nat} (ha : a < 65536) (hb : b < 65536) : a ^^^ b < 65536 := Nat.xor_lt_two_pow (n := 16) ha hb
theorem stepN_lt {s c : Nat} (hs : s < 65536) (hc : c < 256) : stepN s c < 65536 := xor_lt16 (by omega) (tabN_lt (xor_lt8 (by omega) hc))
theorem xor_can {a b c : Nat} (h : a ^^^ c = b ^^^ c) : a = b := by
  have := congrArg (· ^^^ c) h
  simpa only [Nat.xor_assoc, Nat.xor_self, Nat.xor_zero] using this
theorem xor_can2 {a b c : Nat} (h : c ^^^ a = c ^^^ b) : a = b := xor_can (c := c) (by rw [Nat.xor_comm a, Nat.xor_comm b, h])
theorem xor_hi {a t : Nat} (ha : a < 256) : (a ^^^ t) / 256 = t / 256 := by
  rw [← Nat.shiftRight_eq_div_pow (a ^^^ t) 8, Nat.shiftRight_xor_distrib, Nat.shiftRight_eq_div_pow, Nat.shiftRight_eq_div_pow, show a / 2 ^ 8 = 0 from by omega, Nat.zero_xor]
theorem step_one {s s' c c' : Nat} (hs : s < 65536) (hs' : s' < 65536) (hc : c < 256) (hc' : c' < 256) (h : stepN s c = stepN s' c') : (s % 256) ^^^ c = (s' % 256) ^^^ c' ∧ s / 256 = s' / 256 := by
  unfold stepN at h
  have h1 := xor_hi (a := s / 256) (t := tabN ((s % 256) ^^^ c)) (by omega)
  have h2 := xor_hi (a := s' / 256) (t := tabN ((s' % 256) ^^^ c')) (by omega)
  have h3 : (s % 256) ^^^ c = (s' % 256) ^^^ c' := by
    rw [← inv_tab _ (xor_lt8 (by omega : s % 256 < 256) hc), ← inv_tab _ (xor_lt8 (by omega : s' % 256 < 256) hc'), ← h1, ← h2, h]
  rw [h3] at h
  exact ⟨h3, xor_can h⟩
theorem step_injS {s s' c : Nat} (hs : s < 65536) (hs' : s' < 65536) (hc : c < 256) (h : stepN s c = stepN s' c) : s = s' := by
  obtain ⟨h1, h2⟩ := step_one hs hs' hc hc h
  have := xor_can h1
  omega
theorem step_injC {s c c' : Nat} (hs : s < 65536) (hc : c < 256) (hc' : c' < 256) (h : stepN s c = stepN s c') : c = c' := xor_can2 (step_one hs hs hc hc' h).1
def xi (a b : Int) : Int := ((a.toNat ^^^ b.toNat : Nat) : Int)
theorem xi8 {a b : Int} (ha : 0 ≤ a ∧ a < 256) (hb : 0 ≤ b ∧ b < 256) : 0 ≤ xi a b ∧ xi a b < 256 := by
  have := xor_lt8 (a := a.toNat) (b := b.toNat) (by omega) (by omega)
  unfold xi
  omega
theorem crc1_xi (n : Nat) : xi (((n : Nat) : Int) / 2) ((((n : Nat) : Int) % 2) * 40961 % 65536) = ((crc1 n : Nat) : Int) := by
  unfold xi crc1
  rw [show (((n : Nat) : Int) / 2).toNat = n / 2 from by omega, show ((((n : Nat) : Int) % 2) * 40961 % 65536).toNat = n % 2 * 40961 from by omega]
def tabI (i : Int) : Int := ((tabN i.toNat : Nat) : Int)
theorem tabI_rng {i : Int} (h : 0 ≤ i ∧ i < 256) : 0 ≤ tabI i ∧ tabI i < 65536 := by
  have := tabN_lt (i := i.toNat) (by omega)
  unfold tabI
  omega
def crcS (s c : Int) : Int := xi (s / 256) (tabI (xi (s % 256) c))
theorem crcS_nat {s c : Int} (hs : 0 ≤ s ∧ s < 65536) (hc : 0 ≤ c ∧ c < 256) : crcS s c = ((stepN s.toNat c.toNat : Nat) : Int) := by
  unfold crcS tabI xi stepN
  rw [show (s / 256).toNat = s.toNat / 256 from by omega, show (s % 256).toNat = s.toNat % 256 from by omega]
  simp only [Int.toNat_natCast]
theorem crcS_rng {s c : Int} (hs : 0 ≤ s ∧ s < 65536) (hc : 0 ≤ c ∧ c < 256) : 0 ≤ crcS s c ∧ crcS s c < 65536 := by
  have := stepN_lt (s := s.toNat) (c := c.toNat) (by omega) (by omega)
  rw [crcS_nat hs hc]
  omega
def crcT (s : Int) (b : List Int) : Int := b.foldl crcS s
theorem crcT_rng : ∀ (b : List Int) {s : Int}, (0 ≤ s ∧ s < 65536) → (∀ x, x ∈ b → 0 ≤ x ∧ x < 256) → 0 ≤ crcT s b ∧ crcT s b < 65536
  | [], s, hs, _ => hs
  | c :: b, s, hs, hb => crcT_rng b (crcS_rng hs (hb c (List.mem_cons_self ..))) fun x hx => hb x (List.mem_cons_of_mem _ hx)
theorem crcS_injS {s s' c : Int} (hs : 0 ≤ s ∧ s < 65536) (hs' : 0 ≤ s' ∧ s' < 65536) (hc : 0 ≤ c ∧ c < 256) (h : crcS s c = crcS s' c) : s = s' := by
  rw [crcS_nat hs hc, crcS_nat hs' hc] at h
  have := step_injS (s := s.toNat) (s' := s'.toNat) (c := c.toNat) (by omega) (by omega) (by omega) (by omega)
  omega
theorem crcS_injC {s c c' : Int} (hs : 0 ≤ s ∧ s < 65536) (hc : 0 ≤ c ∧ c < 256) (hc' : 0 ≤ c' ∧ c' < 256) (h : crcS s c = crcS s c') : c = c' := by
  rw [crcS_nat hs hc, crcS_nat hs hc'] at h
  have := step_injC (s := s.toNat) (c := c.toNat) (c' := c'.toNat) (by omega) (by omega) (by omega) (by omega)
  omega
theorem crcT_injS : ∀ (b : List Int) {s s' : Int}, (0 ≤ s ∧ s < 65536) → (0 ≤ s' ∧ s' < 65536) → (∀ x, x ∈ b → 0 ≤ x ∧ x < 256) → crcT s b = crcT s' b → s = s'
  | [], s, s', _, _, _, h => h
  | c :: b, s, s', hs, hs', hb, h =>
    have hc := hb c (List.mem_cons_self ..)
    crcS_injS hs hs' hc (crcT_injS b (crcS_rng hs hc) (crcS_rng hs' hc) (fun x hx => hb x (List.mem_cons_of_mem _ hx)) h)
theorem crcT_app (s : Int) (a b : List Int) : crcT s (a ++ b) = crcT (crcT s a) b := by unfold crcT; rw [List.foldl_append]
theorem crcT_one {s c c' : Int} {a d : List Int} (hs : 0 ≤ s ∧ s < 65536) (ha : ∀ x, x ∈ a → 0 ≤ x ∧ x < 256) (hd : ∀ x, x ∈ d → 0 ≤ x ∧ x < 256) (hc : 0 ≤ c ∧ c < 256) (hc' : 0 ≤ c' ∧ c' < 256) (h : crcT s (a ++ c :: d) = crcT s (a ++ c' :: d)) : c = c' := by
  rw [crcT_app, crcT_app] at h
  have hr := crcT_rng a hs ha
  exact crcS_injC hr hc hc' (crcT_injS d (crcS_rng hr hc) (crcS_rng hr hc') hd h)
def crcTwo (s : Int) : List Int := [s % 256, s / 256 % 256]
theorem crcTwo_length (s : Int) : (crcTwo s).length = 2 := rfl
def crcIs (b : List Int) : Bool := decide (2 ≤ b.length) && decide (crcTwo (crcT 65535 (b.take (b.length - 2))) = b.drop (b.length - 2))
open Go.RowKit
def arE (P : Program) (ty : TypeId) : Option (Nat × TypeId) := match P.underlying ty with | some (.array m e) => some (m, e) | _ => none
theorem arE_some {P : Program} {ty e : TypeId} {m : Nat} (h : arE P ty = some (m, e)) : P.underlying ty = some (.array m e) := by
  unfold arE at h
  split at h
  · injection h with h
    injection h with h1 h2
    subst h1 h2
    assumption
  · cases h
theorem run_ixarr {P : Program} {w : World} {ev : Operand → Value} {o : Oper} {t e : TypeId} {x ix : Operand} {b off j m : Nat} {k : IntKind} {i : Int} (ho : o.op = .indexAddr t x ix) (ht : P.underlying t = some (.array m e)) (hi : (P.info? e).map (·.size) = some 1)
    (hx : ev x = .pointer (some ⟨b, off, none⟩)) (hix : ev ix = .int k i) (hj : i = j) (hlt : j < m) : (execOp ev o).run P w = .ok (.value (.pointer (some ⟨b, off + j, none⟩))) w := by
  subst hj
  obtain ⟨i0, hi0, hs⟩ := Option.map_eq_some_iff.1 hi
  unfold execOp
  have h2 : (0 : Int) ≤ (j : Int) ∧ (j : Int) < (m : Int) := by omega
  simp [ho, hx, hix, Instr.indexAt, Instr.sureAddr, asIntOf, run_underlying ht, Result.andThen, h2, sizeOf, typeInfo, hi0, hs, add_mk, hlt]
section
variable {P : Program} {n : Nat} {D : List Deferred} {F : Fr} {w : World} {K : Fr → World → Prop} {Q : Exit → Act → World → Prop} {d : Option Tmp} {t : TypeId} {s : String} {af : Array Edge} {gu : Option (Nat × Bool)}
theorem Oia {ty : TypeId} {x ix : Operand} {b off : Nat} (m j : Nat) (i : Int) (hj : i = j) (hlt : j < m) (h : K (pt d (.pointer (some ⟨b, off + j, none⟩)) F) w)
    (hx : evo F x = some (.pointer (some ⟨b, off, none⟩)) := by kernel_rfl) (hi : ixA F ix = some i := by kernel_rfl) (hs : ((arE P ty).bind fun p => (P.info? p.2).map fun q => (p.1, q.size), dok n d) = (some (m, 1), true) := by kernel_rfl) : OG P ⟨d, .indexAddr ty x ix, t, s, af, gu⟩ n D F w K Q := by
  simp only [Prod.mk.injEq] at hs
  obtain ⟨hs, hd⟩ := hs
  obtain ⟨k, hi⟩ := ixA_some hi
  cases he : arE P ty with
  | none => rw [he] at hs; simp at hs
  | some p =>
    obtain ⟨m', e⟩ := p
    rw [he] at hs
    obtain ⟨q, hq, h3⟩ := Option.map_eq_some_iff.1 (show (P.info? e).map (fun q => (m', q.size)) = some (m, 1) from hs)
    injection h3 with h4 h5
    subst h4
    exact ⟨fun a ha K' hK => ow_val _ rfl (run_ixarr rfl (arE_some he) (by rw [hq]; simp [h5]) (ha.ev hx) (ha.ev hi) hj hlt) (hK _ _ _ h (ha.put hd))⟩
end
theorem xi_u8 {a b : Int} (ha : 0 ≤ a ∧ a < 256) (hb : 0 ≤ b ∧ b < 256) : bits .xor .u8 a b = xi a b := u8_xor a b ha.1 ha.2 hb.1 hb.2
theorem xi_u16 {a b : Int} (ha : 0 ≤ a ∧ a < 65536) (hb : 0 ≤ b ∧ b < 65536) : bits .xor .u16 a b = xi a b := u16_xor a b ha.1 ha.2 hb.1 hb.2
theorem and1_u16 {a : Int} (ha : 0 ≤ a ∧ a < 65536) : bits .and .u16 a 1 = a % 2 := by
  rw [u16_and a 1 ha.1 ha.2 (by omega) (by omega)]
  show ((a.toNat &&& 1 : Nat) : Int) = _
  rw [Nat.and_one_is_mod]
  omega
def tabA (k : Nat) : Array Value := ((List.range 256).map fun i => if i < k then Value.int .u16 (tabI i) else Value.int .u16 0).toArray
theorem tabA_size (k : Nat) : (tabA k).size = 256 := by simp [tabA]
theorem tabA_one (k : Nat) : (tabA k).all (·.oneCell') = true := by
  unfold tabA
  rw [List.all_toArray, List.all_eq_true]
  intro v hv
  rw [List.mem_map] at hv
  obtain ⟨i, _, rfl⟩ := hv
  split <;> rfl
theorem tabA_set {i k : Nat} (hk : k = 8) (hi : i < 256) : (tabA i).setIfInBounds i (.int .u16 ((crcK k i : Nat) : Int)) = tabA (i + 1) := by
  subst hk
  unfold tabA
  rw [List.setIfInBounds_toArray]
  congr 1
  apply List.ext_getElem?
  intro j
  rw [List.getElem?_set]
  by_cases hj : j < 256
  · by_cases hij : i = j
    · subst hij
      simp [hi, tabI, tabN]
    · simp [hij, hj]
      congr 1
      simp only [eq_iff_iff]
      omega
  · rw [if_neg (by omega)]
    simp [hj]
theorem tabA_at {i : Nat} (h : i < 256) : (tabA 256)[i]? = some (.int .u16 (tabI i)) := by simp [tabA, h]
def crcP (s : Int) (b : List Int) : Nat → Int
  | 0 => s
  | k + 1 => crcS (crcP s b k) (b.getD k 0)
theorem crcP_take (s : Int) (b : List Int) : ∀ k, k ≤ b.length → crcP s b k = crcT s (b.take k)
  | 0, _ => by simp [crcP, crcT]
  | k + 1, h => by
    rw [List.take_succ_eq_append_getElem (by omega), crcT_app, ← crcP_take s b k (by omega)]
    show crcS _ (b.getD k 0) = _
    rw [List.getD_eq_getElem?_getD, List.getElem?_eq_getElem (by omega)]
    rfl
theorem crcP_all {s : Int} {b : List Int} {k : Nat} (h : k = b.length) : crcP s b k = crcT s b := by
  subst h
  rw [crcP_take _ _ _ (Nat.le_refl _), List.take_length]
theorem crcP_rng {s : Int} {b : List Int} (hs : 0 ≤ s ∧ s < 65536) (hb : ∀ x, x ∈ b → 0 ≤ x ∧ x < 256) : ∀ k, 0 ≤ crcP s b k ∧ crcP s b k < 65536
  | 0 => hs
  | k + 1 => crcS_rng (crcP_rng hs hb k) (getD_rng (by omega) hb k)
theorem tabI_nat {i : Int} (h : 0 ≤ i) : tabI ((i.toNat : Nat) : Int) = tabI i := by rw [Int.toNat_of_nonneg h]
open Go.RowKit
set_option maxRecDepth 100000 in
set_option maxHeartbeats 4000000 in
theorem lrc_one {w : World} {g : Nat} {c s : Int} (hg : w.heap[g]? = some (.cells #[.int .u8 s] 5 (0, 0))) : Calls Tryz.prog 74 #[.int .u8 c, .pointer (some ⟨g, 0, none⟩)] w (fun e w' => e = .returned (.tuple #[]) ∧ w'.heap[g]? = some (.cells #[.int .u8 ((s + c) % 256)] 5 (0, 0)) ∧ Upd [g] w w') := by
 refine en 6 Tryz.func74 rfl <| go <| L0 <| Olb hg 0 <| Pl 2 <| L0 <| Ost hg 0 #[.int .u8 ((s + c) % 256)] fun w10 B11 hu12 => nl <| rm (.tuple #[]) <| ?_
 exact ⟨rfl, B11, hu12⟩
set_option maxRecDepth 100000 in
set_option maxHeartbeats 4000000 in
theorem each_any0 {m : Bool} {A : Option Addr} {cp : Nat} {b : List Int} {w0 w : World} {g : Nat} (hu0 : Upd [] w0 w) (hg0 : w0.heap.size ≤ g) (hsl : RdB m w0 (.slice A b.length cp) b) (hg : w.heap[g]? = some (.cells #[.int .u8 (lrcP b 0)] 5 (0, 0))) :
    Calls Tryz.prog 73 #[.slice A b.length cp, .func (.func 74) #[] #[.pointer (some ⟨g, 0, none⟩)]] w (fun e w' => e = .returned (.tuple #[]) ∧ w'.heap[g]? = some (.cells #[.int .u8 (lrcS b)] 5 (0, 0)) ∧ Upd [] w0 w' ∧ w.heap.size ≤ w'.heap.size) := by
 have hln := RdG.len hsl
 refine en 16 Tryz.func73 rfl <| sg <| Pl 3 <| nt <| bk <| ?_
 refine glp (fun x => [(1, .func (.func 74) #[] #[.pointer (some ⟨g, 0, none⟩)]), (6, .slice A b.length cp), (7, .int .i64 ((b.length : Nat) : Int)), (8, .int .i64 ((x : Nat) : Int))]) (fun (x : Nat) w' => Upd [] w0 w' ∧ w.heap.size ≤ w'.heap.size ∧ w'.heap[g]? = some (.cells #[.int .u8 (lrcP b x)] 5 (0, 0)) ∧ (x ≤ b.length)) (fun x => b.length - x) 0 ⟨hu0, lr, hg, (by (try dsimp only); omega)⟩ ?_
 rintro k w10 ⟨hu11, hz14, f12, p13⟩
 refine wkc [(1, .func (.func 74) #[] #[.pointer (some ⟨g, 0, none⟩)]), (6, .slice A b.length cp), (7, .int .i64 ((b.length : Nat) : Int)), (8, .int .i64 ((k : Nat) : Int))] ?_
 have f15 : w10.heap[g]? = some (.cells #[.int .u8 (lrcP b k)] 5 (0, 0)) := f12
 have p16 : k ≤ b.length := p13
 refine sg <| Pl 1 <| nt <| sq <| cb ((decide (((k : Nat) : Int) < ((b.length : Nat) : Int)))) (fun q17 => ?_) (fun q17 => ?_)
 have q17p := of_decide_eq_true q17
 refine skn <| sq <| bk <| sg <| ?_
 have U18 := ut0 (Upd.refl [] _) hu11
 have r19 := RdB.old hsl U18
 refine x23 (RdB.at_ r19 k (by omega)) fun b20 o21 hA22 hl23 hr24 => L0 <| Oix b.length k hA22 (by omega) <| L0 <| Old (p := ⟨b20, o21 + k, none⟩) (v := .int .u8 (b.getD k 0)) hl23 <| Pl 1 <| nt <| go <| Pl 2 <| L0 <| Ocv #[] #[.pointer (some ⟨g, 0, none⟩)] (args := #[.int .u8 (b.getD k 0), .pointer (some ⟨g, 0, none⟩)]) <| m2 (lrc_one (c := (b.getD k 0)) f15) fun w25 B26 hu27 => nl <| bn <| tn <| go <| L0 <| Oi (((k : Nat) : Int) + 1) <| ?_
 refine Pl 1 <| nl <| ?_
 have U28 := u1 U18 hu27 (nr hg0)
 exact lpe (k + 1) ⟨U28, (le hz14 hu27.size), B26, (by (try dsimp only); omega)⟩ (by omega)
 have q17p := of_decide_eq_false q17
 refine xt <| tx <| tx <| bx <| rm (.tuple #[]) <| ?_
 have hk : k = b.length := by omega
 subst hk
 have U29 := ut0 (Upd.refl [] _) hu11
 exact ⟨rfl, f15, U29, hz14⟩
set_option maxRecDepth 100000 in
set_option maxHeartbeats 4000000 in
theorem lrcof_any0 {m : Bool} {A : Option Addr} {cp : Nat} {b : List Int} {w : World} (hsl : RdB m w (.slice A b.length cp) b) :
    Calls Tryz.prog 58 #[.slice A b.length cp] w (PVal (.int .u8 (lrcOf b)) w) := by
 refine en 9 Tryz.func58 rfl <| sg <| Pl 1 <| ng <| L0 <| Oal #[.int .u8 0] fun g10 w11 hg12 B13 hu14 => L0 <| Ost B13 0 #[.int .u8 0] fun w15 B16 hu17 => ng <| ?_
 refine Pl 2 <| ?_
 have U18 := u1 hu14 hu17 (nr hg12)
 refine L0 <| Oc <| m3 (each_any0 U18 hg12 hsl B16) fun w19 B20 hj21 hz22 => ng <| L0 <| Olb B20 0 <| Pl 2 <| nt <| rt <| rr (.int .u8 ((0 - (lrcS b)) % 256)) <| ?_
 have U23 := ut0 (Upd.refl [] _) hj21
 exact ⟨rfl, U23⟩
theorem lrcof_any {m : Bool} {v : Value} {b : List Int} {w : World} (h : RdB m w v b) : Calls Tryz.prog 58 #[v] w (PVal (.int .u8 (lrcOf b)) w) := by
  obtain ⟨A, cp, rfl, _, _⟩ := h.shape
  exact lrcof_any0 h
set_option maxRecDepth 100000 in
set_option maxHeartbeats 4000000 in
theorem lrcis_any0 {m : Bool} {A : Option Addr} {cp : Nat} {b : List Int} {w : World} (hsl : RdB m w (.slice A b.length cp) b) :
    Calls Tryz.prog 56 #[.slice A b.length cp] w (PVal (.bool (lrcIs b)) w) := by
 refine en 11 Tryz.func56 rfl <| sg <| Pl 1 <| ng <| Pl 4 <| bl 6 ((decide (0 < ((b.length : Nat) : Int)))) (fun q10 => ?_) (fun q10 => ?_)
 have q10p := of_decide_eq_true q10
 refine Pl 1 <| L1 <| Oc (args := #[.slice A b.length cp]) <| m1 (lrcof_any hsl) fun w11 hu12 => Pl 3 <| nt <| rt <| rr (.bool ((lrcOf b) == 0)) <| ?_
 have hs : lrcIs b = ((lrcOf b) == 0) := by unfold lrcIs; (try simp only [q10, bs, if_true, if_false, decide_true, decide_false]); all_goals rfl
 rw [hs]
 exact ⟨rfl, hu12⟩
 have q10p := of_decide_eq_false q10
 refine Pl 5 <| nt <| rt <| rr (.bool false) <| ?_
 have hs : lrcIs b = false := by unfold lrcIs; (try simp only [q10, bs, if_true, if_false, decide_true, decide_false]); all_goals rfl
 rw [hs]
 exact ⟨rfl, (Upd.refl [] _)⟩
theorem lrcis_any {m : Bool} {v : Value} {b : List Int} {w : World} (h : RdB m w v b) : Calls Tryz.prog 56 #[v] w (PVal (.bool (lrcIs b)) w) := by
  obtain ⟨A, cp, rfl, _, _⟩ := h.shape
  exact lrcis_any0 h
open Go.RowKit
theorem bld_info : ∃ j, Tryz.prog.info? 109 = some j ∧ j.size = 2 := Option.map_eq_some_iff.1 (show (Tryz.prog.info? 109).map (·.size) = some 2 by kernel_rfl)
set_option maxHeartbeats 1000000 in
set_option maxRecDepth 100000 in
theorem copyck_fresh (b : Nat) (w : World) (h0 : w.cell? ⟨b, 0, none⟩ = some (.pointer none)) (hsh : w.shape? b = some (109, 2)) (hfz : w.frozen? ⟨b, 0, none⟩ = false) :
    Calls Tryz.prog 94 #[.pointer (some ⟨b, 0, none⟩)] w fun e w' => e = .returned (.tuple #[]) ∧ w' = w.setCell ⟨b, 0, none⟩ (.pointer (some ⟨b, 0, none⟩)) := by
  obtain ⟨j, hj, hjs⟩ := bld_info
  go_enter Tryz.func94, Tryz.ntmps94
  go_wp2
  rw [Lib.run_to_unsafe w ⟨b, 0, none⟩ Tryz.underlying107 Tryz.underlying164 hj (by rw [hjs]; decide) hsh (Nat.zero_lt_succ 1)]
  simp only [Result.andThen]
  rw [Oper.upon_value]
  go_wp2
  rw [run_callFunc_extern Tryz.func129 (by kernel_rfl) (by kernel_rfl) (by kernel_rfl) (e := Extern.AbiNoEscape.same) (by kernel_rfl)]
  rw [Lib.run_noEscape]
  simp only [Result.andThen]
  rw [Oper.upon_value]
  go_wp2
  rw [Lib.run_from_unsafe w ⟨b, 0, none⟩ Tryz.underlying164 Tryz.underlying107 hj hsh (by kernel_rfl)]
  simp only [Result.andThen]
  rw [Oper.upon_value]
  go_wp2
  go_end0
  exact ⟨rfl, rfl⟩
set_option maxHeartbeats 1000000 in
set_option maxRecDepth 100000 in
theorem copyck_used (b : Nat) (w : World) (h0 : w.cell? ⟨b, 0, none⟩ = some (.pointer (some ⟨b, 0, none⟩))) :
    Calls Tryz.prog 94 #[.pointer (some ⟨b, 0, none⟩)] w fun e w' => e = .returned (.tuple #[]) ∧ w' = w := by
  obtain ⟨j, hj, _⟩ := bld_info
  go_enter Tryz.func94, Tryz.ntmps94
  go_wp2
  rw [Lib.run_neq_ptr_same w _ Tryz.underlying107 hj]
  go_wp2
  go_end0
  exact ⟨rfl, rfl⟩
theorem copyck_any {w : World} {b : Nat} {p v : Value} (hp : p = .pointer none ∨ p = .pointer (some ⟨b, 0, none⟩)) (hb : w.heap[b]? = some (.cells #[p, v] 109 (0, 0))) :
    Calls Tryz.prog 94 #[.pointer (some ⟨b, 0, none⟩)] w fun e w' => e = .returned (.tuple #[]) ∧ w'.heap[b]? = some (.cells #[.pointer (some ⟨b, 0, none⟩), v] 109 (0, 0)) ∧ Upd [b] w w' := by
  have h0 : w.cell? ⟨b, 0, none⟩ = some p := (blk_cell hb 0).trans rfl
  rcases hp with rfl | rfl
  · refine (copyck_fresh b w h0 (by simp [World.shape?, hb]) (blk_frozen hb 0)).mono ?_
    rintro e w' ⟨rfl, rfl⟩
    exact ⟨rfl, (blk_set hb 0 _).trans rfl, (Upd.refl _ _).setCell (Or.inl (by simp)) _⟩
  · refine (copyck_used b w h0).mono ?_
    rintro e w' ⟨rfl, rfl⟩
    exact ⟨rfl, hb, Upd.refl _ _⟩
def hexA : Array Value := #[.int .u8 48, .int .u8 49, .int .u8 50, .int .u8 51, .int .u8 52, .int .u8 53, .int .u8 54, .int .u8 55, .int .u8 56, .int .u8 57, .int .u8 65, .int .u8 66, .int .u8 67, .int .u8 68, .int .u8 69, .int .u8 70]
theorem hexA_at : ∀ {j : Nat}, j < 16 → hexA[j]? = some (.int .u8 (hexD (j : Int)))
  | 0, _ | 1, _ | 2, _ | 3, _ | 4, _ | 5, _ | 6, _ | 7, _ | 8, _ | 9, _ | 10, _ | 11, _ | 12, _ | 13, _ | 14, _ | 15, _ => rfl
  | n + 16, h => by omega
theorem hexA_nat {i : Int} (h : 0 ≤ i ∧ i < 16) : hexA[i.toNat]? = some (.int .u8 (hexD i)) := by
  rw [hexA_at (by omega), Int.toNat_of_nonneg h.1]
theorem run_idxh {P : Program} {w : World} {ev : Operand → Value} {o : Oper} {x ix : Operand} {t e : TypeId} {k : IntKind} {i : Int} (j : Nat) (ho : o.op = .index t x ix) (ht : P.underlying t = some (.array 16 e)) (hi : (P.info? e).map (·.size) = some 1) (hr : ∀ w, (isAgg e).run P w = .ok false w) (hx : ev x = .agg hexA) (hy : ev ix = .int k i) (hj : i = (j : Int)) (hlt : j < 16) : (execOp ev o).run P w = .ok (.value (.int .u8 (hexD (j : Int)))) w := by
  subst hj
  obtain ⟨i0, hi0, hs⟩ := Option.map_eq_some_iff.1 hi
  have h := hexA_at hlt
  unfold execOp
  have h2 : (0 : Int) ≤ (j : Int) ∧ (j : Int) < 16 := by omega
  simp [ho, hx, hy, Instr.index, asIntOf, run_underlying ht, Result.andThen, h2, sizeOf, typeInfo, hi0, hs, part, h, hr, hlt]
def Bld (B b : Nat) (L : List Int) (w : World) : Prop := ∃ p A cp, w.heap[b]? = some (.cells #[p, .slice A L.length cp] 109 (0, 0)) ∧ (p = .pointer none ∨ p = .pointer (some ⟨b, 0, none⟩)) ∧ OwnB B w (.slice A L.length cp) L
theorem Bld.new {B b : Nat} {w : World} (hb : w.heap[b]? = some (.cells #[.pointer none, .slice none 0 0] 109 (0, 0))) : Bld B b [] w := ⟨_, _, _, hb, .inl rfl, OwnG.nil ..⟩
def bren : Go.Shelf.Ren := ⟨fun | 169 => 72 | n => n, fun | 70 => 107 | 9 => 9 | 0 => 0 | 72 => 109 | 37 => 29 | 127 => 126 | 3 => 3 | 5 => 5 | n => n, fun | n => n⟩
theorem blays : Go.Proofs.Lays.n169 Tryz.prog bren := {
  mixed := by kernel_rfl
  f169 := Tryz.func72.trans (congrArg some (by kernel_rfl))
  t0 := Tryz.underlying0
  a0 := Tryz.isAgg0
  z0 := Tryz.sizeOf0
  v0 := Tryz.zeroValue0
  t3 := Tryz.underlying3
  a3 := Tryz.isAgg3
  z3 := Tryz.sizeOf3
  v3 := Tryz.zeroValue3
  t9 := Tryz.underlying9
  a9 := Tryz.isAgg9
  z9 := Tryz.sizeOf9
  v9 := Tryz.zeroValue9
  t37 := Tryz.underlying29
  a37 := Tryz.isAgg29
  z37 := Tryz.sizeOf29
  v37 := Tryz.zeroValue29
  t70 := Tryz.underlying107
  a70 := Tryz.isAgg107
  z70 := Tryz.sizeOf107
  v70 := Tryz.zeroValue107
  t72 := Tryz.underlying109
  a72 := Tryz.isAgg109
  z72 := Tryz.sizeOf109
  v72 := Tryz.zeroValue109
  t127 := Tryz.underlying126
  a127 := Tryz.isAgg126
  z127 := Tryz.sizeOf126
  v127 := Tryz.zeroValue126 }
theorem bextra : Builder.Extra Tryz.prog bren := {
  sizeBuilder := by kernel_rfl
  liesBuilder := by kernel_rfl
  t5 := Tryz.underlying5
  a5 := Tryz.isAgg5
  z5 := Tryz.sizeOf5
  v5 := Tryz.zeroValue5
  infoByte := by kernel_rfl
  cellsByte := by kernel_rfl
  sizeByte := by kernel_rfl
  neB5 := by decide }
theorem bytecells {L : List Int} (h : Byts L) : Lib.byteCells (L.map fun n => UInt8.ofNat n.toNat) = L.map (Value.int .u8) := by
  unfold Lib.byteCells
  rw [List.map_map]
  apply List.map_congr_left
  intro x hx
  show Value.int .u8 _ = _
  rw [u8_back (h x hx)]
theorem bld_string {w0 w : World} {b : Nat} {L : List Int} (hu : Upd [] w0 w) (hg : w0.heap.size ≤ b) (h : Bld w0.heap.size b L w) (hr : Byts L) :
    Calls Tryz.prog 72 #[.pointer (some ⟨b, 0, none⟩)] w fun e w' => e = .returned (.string (strOfNums L)) ∧ Upd [] w0 w' := by
  obtain ⟨p, A, cp, hb, hp, ho⟩ := h
  have h1 := row_of_own (enc := Value.int .u8) (fun _ _ _ h => h.1) ho
  have h2 : Lib.BuilderAt 109 5 w0.heap.size b p (Lib.byteCells (L.map fun n => UInt8.ofNat n.toNat)) w := by
    rw [bytecells hr]
    refine ⟨hg, _, hb, by rw [List.length_map]; exact h1, fun hq => ?_⟩
    rcases h1.2 with ⟨hv, _⟩ | ⟨g', cap, cur, hv, _, hh, _⟩
    · rw [hv] at hq; cases hq
    · rw [hv] at hq
      have e : g' = b := by simpa [Value.ownBlock] using hq
      subst e
      rw [hb] at hh
      injection hh with hh
      injection hh with _ h5 _
      exact absurd h5 (by decide)
  have h3 : Lib.IsBuilder (bren.t 72) (bren.t 5) w0.heap.size b (Lib.byteCells (L.map fun n => UInt8.ofNat n.toNat)) w := by
    rcases hp with rfl | rfl
    · exact Or.inl h2
    · exact Or.inr h2
  refine (Any.Builder_String_any blays bextra _ _ _ _ h3 hu.size).mono ?_
  rintro e w' ⟨rfl, hbel⟩
  exact ⟨rfl, hu.os ▸ hbel.os, hu.tape ▸ hbel.tape, hu.output ▸ hbel.output, Nat.le_trans hu.size hbel.size, fun k hk hn => (hbel.block k hk).trans (hu.block k hk hn)⟩
open Go.RowKit
set_option maxRecDepth 100000 in
set_option maxHeartbeats 4000000 in
theorem digits_any {w : World} : Calls Tryz.prog 70 #[] w (PVal (.agg hexA) w) := by
 refine en 2 Tryz.func70 rfl <| sg <| L0 <| Oal #[.int .u8 0, .int .u8 0, .int .u8 0, .int .u8 0, .int .u8 0, .int .u8 0, .int .u8 0, .int .u8 0, .int .u8 0, .int .u8 0, .int .u8 0, .int .u8 0, .int .u8 0, .int .u8 0, .int .u8 0, .int .u8 0] fun g10 w11 hg12 B13 hu14 => ng <| Pl 1 <| L0 <| Osw B13 #[.int .u8 48, .int .u8 49, .int .u8 50, .int .u8 51, .int .u8 52, .int .u8 53, .int .u8 54, .int .u8 55, .int .u8 56, .int .u8 57, .int .u8 65, .int .u8 66, .int .u8 67, .int .u8 68, .int .u8 69, .int .u8 70] fun w15 B16 hu17 => nt <| rt <| rc1 B16 <| ?_
 have U18 := u1 hu14 hu17 (nr hg12)
 exact ⟨rfl, U18⟩
theorem dig_next {c : Int} {n : Nat} (h : ∀ j : Nat, j < n → hexD (j : Int) ≠ c) (q : (hexD ((n : Nat) : Int) == c) = false) : ∀ j : Nat, j < n + 1 → hexD (j : Int) ≠ c := fun j hj => by
  by_cases e : j = n
  · subst e; simpa using q
  · exact h j (by omega)
theorem dig_at {c : Int} {n : Nat} (hn : n < 16) (q : (hexD ((n : Nat) : Int) == c) = true) : digV c = ((n : Nat) : Int) := by
  have e : hexD ((n : Nat) : Int) = c := by simpa using q
  rw [← e]
  exact digV_hexD (by omega)
theorem dig_none {c : Int} {n : Nat} (hn : n = 16) (h : ∀ j : Nat, j < n → hexD (j : Int) ≠ c) : digV c = -1 := by
  by_cases e : 0 ≤ digV c
  · have h1 := hexD_digV e
    exact absurd (by rw [Int.toNat_of_nonneg e]; exact h1.1) (h (digV c).toNat (by omega))
  · have := digV_lt c
    omega
set_option maxRecDepth 100000 in
set_option maxHeartbeats 4000000 in
theorem digit_any {w : World} {c : Int} (hc : 0 ≤ c ∧ c < 256) : Calls Tryz.prog 69 #[.int .u8 c] w (PVal (.int .i64 (digV c)) w) := by
 refine en 15 Tryz.func69 rfl <| sg <| Pl 1 <| nt <| sq <| sg <| L0 <| Oc <| m1 (@digits_any w) fun w10 hu11 => Pl 1 <| nt <| bk <| ?_
 refine glp (fun x => [(0, .int .u8 c), (5, .agg hexA), (6, .int .i64 ((x : Nat) : Int))]) (fun (x : Nat) w' => Upd [] w10 w' ∧ (x ≤ 16) ∧ (∀ j : Nat, j < x → hexD (j : Int) ≠ c)) (fun x => 16 - x) 0 ⟨Upd.refl _ _, (by (try dsimp only); omega), (fun j hj => by omega)⟩ ?_
 rintro n w12 ⟨hu13, p14, p15⟩
 refine wkc [(0, .int .u8 c), (5, .agg hexA), (6, .int .i64 ((n : Nat) : Int))] ?_
 have p17 : n ≤ 16 := p14
 have p18 : ∀ j : Nat, j < n → hexD (j : Int) ≠ c := p15
 refine sg <| Pl 1 <| nt <| sq <| ?_
 have U19 := ut0 hu11 hu13
 refine cb ((decide (((n : Nat) : Int) < 16))) (fun q20 => ?_) (fun q20 => ?_)
 have q20p := of_decide_eq_true q20
 refine skn <| sq <| bk <| sg <| Pl 1 <| L0 <| Or_ (.int .u8 (hexD ((n : Nat) : Int))) (run_idxh (k := .i64) (i := ((n : Nat) : Int)) n rfl Tryz.underlying110 (by kernel_rfl) Tryz.isAgg5 (by kernel_rfl) (by kernel_rfl) rfl (by omega)) <| Pl 2 <| ng <| Pl 3 <| nl <| ?_
 refine tn <| cb (((hexD ((n : Nat) : Int)) == c)) (fun q21 => ?_) (fun q21 => ?_)
 have q21p := eq_of_beqi q21
 refine sg <| Pl 2 <| nt <| rt <| br <| tr <| tr <| br <| tr <| rr (.int .i64 ((n : Nat) : Int)) <| ?_
 have hs : digV c = ((n : Nat) : Int) := dig_at (by omega) q21
 rw [hs]
 exact ⟨rfl, U19⟩
 have q21p := ne_of_beqi q21
 exact sk <| bn <| tn <| go <| L0 <| Oi (((n : Nat) : Int) + 1) <| Pl 1 <| nl <| lpe (n + 1) ⟨hu13, (by (try dsimp only); omega), (dig_next p18 q21)⟩ (by omega)
 have q20p := of_decide_eq_false q20
 refine xt <| tx <| tx <| bx <| tn <| sg <| Pl 1 <| nt <| rt <| rr (.int .i64 (-1)) <| ?_
 have hs : digV c = -1 := dig_none (n := n) (by omega) p18
 rw [hs]
 exact ⟨rfl, U19⟩
set_option maxRecDepth 100000 in
set_option maxHeartbeats 4000000 in
theorem bld_write {w0 w : World} {b gd : Nat} {L : List Int} {c : Int} (hu0 : Upd [] w0 w) (hg0 : w0.heap.size ≤ b) (hg1 : w0.heap.size ≤ gd) (h : Bld w0.heap.size b L w) (hd : w.heap[gd]? = some (.cells hexA 110 (0, 0))) (hne : gd ≠ b) (hc : 0 ≤ c ∧ c < 256) (hl : L.length ≤ 1048576) :
    Calls Tryz.prog 71 #[.pointer (some ⟨b, 0, none⟩), .int .u8 c] w (fun e w' => e = .returned .nilIface ∧ Bld w0.heap.size b (L ++ [c]) w' ∧ w'.heap[gd]? = some (.cells hexA 110 (0, 0)) ∧ Upd [] w0 w' ∧ w.heap.size ≤ w'.heap.size) := by
 obtain ⟨p, A, cp, hb, hp, ho⟩ := h
 refine en 17 Tryz.func71 rfl <| sg <| Pl 1 <| ng <| Pl 1 <| L0 <| Oc <| m2 (copyck_any hp hb) fun w10 B11 hu12 => ng <| ?_
 refine Pl 4 <| L0 <| Olb B11 1 <| Pl 1 <| L0 <| Olt (m := 1) (e := 5) #[.int .u8 c] fun g13 w14 hg15 B16 hu17 => ?_
 have ow18 := litB hg15 (xs := [c]) (by as_aux_lemma => kernel_rfl) (rng_cons (by omega) rng_nil) (by (try simp only [List.length_cons, List.length_nil]); omega) B16
 have U19 := ut0 hu12 hu17
 have r20 := own_stay ho U19 (fun x hx => (not_cons (fun e => (not_type hb ho (by decide)) (e ▸ hx)) not0)) (fun _ _ h => h)
 refine L0 <| Oapp one_u8 (xs := L) (ys := ([c])) (.int .u8 0) 1 r20 (ow18).rd (by (try simp only [List.length_append, List.length_cons, List.length_nil, putW_length]); omega) (le (le hu0.size hu12.size) hu17.size) fun A21 cp22 w23 ho24 hu25 => Pl 2 <| ?_
 have U26 := ut (Upd.mono (S' := (ob A ++ [])) hu17 all0) hu25 (all_app (fun x hx => Or.inl (by simp [hx])) all0)
 have r27 := own_stay ho hu12 (fun x hx => (not_cons (fun e => (not_type hb ho (by decide)) (e ▸ hx)) not0)) (fun _ _ h => h)
 have r28 := Upd.blk U26 (not_app (not_type B11 r27 (by decide)) not0) B11
 refine L0 <| Ost r28 1 #[.pointer (some ⟨b, 0, none⟩), .slice A21 ((L ++ [c]).length) cp22] fun w29 B30 hu31 => ng <| Pl 1 <| nt <| rt <| rr (.nilIface) <| ?_
 have r32 := own_stay ho24 hu31 (fun x hx => (not_cons (fun e => (not_type r28 ho24 (by decide)) (e ▸ hx)) not0)) (fun _ _ h => h)
 have U33 := ut (Upd.mono (S' := (b :: (ob A ++ []))) U19 (ac im all0)) hu25 (all_app (fun x hx => Or.inl (by simp [hx])) all0)
 have U34 := u1 U33 hu31 im
 have r35 := Upd.blk U34 (not_cons hne (not_app (not_type hd ho (by decide)) not0)) hd
 have U36 := u1 hu0 hu12 (nr hg0)
 have U37 := ut0 U36 hu17
 have U38 := ut U37 hu25 (all_app (ob_new ho lr) all0)
 have U39 := u1 U38 hu31 (nr hg0)
 exact ⟨rfl, ⟨_, A21, cp22, B30, .inr rfl, r32⟩, r35, U39, U34.size⟩
open Go.RowKit
theorem putH_byts {b : List Int} (h : Byts b) : Byts (putH b) := by
  induction b with
  | nil => exact h
  | cons c b ih =>
    have hc := h c (List.mem_cons_self ..)
    have h1 := hexD_rng (n := c / 16) (by omega)
    have h2 := hexD_rng (n := c % 16) (by omega)
    intro x hx
    rcases List.mem_cons.1 hx with rfl | hx
    · omega
    rcases List.mem_cons.1 hx with rfl | hx
    · omega
    · exact ih (fun y hy => h y (List.mem_cons_of_mem _ hy)) x hx
set_option maxRecDepth 100000 in
set_option maxHeartbeats 4000000 in
theorem hput_any0 {m : Bool} {A : Option Addr} {cp : Nat} {b : List Int} {w : World} (hsl : RdB m w (.slice A b.length cp) b) (hl : b.length ≤ 1024) :
    Calls Tryz.prog 57 #[.slice A b.length cp] w (PVal (.string (strOfNums (putH b))) w) := by
 have hb := RdB.range hsl
 refine en 26 Tryz.func57 rfl <| sg <| Pl 1 <| ng <| L0 <| Oal #[.pointer none, .slice none 0 0] fun g10 w11 hg12 B13 hu14 => ng <| L0 <| Oc <| m1 (@digits_any w11) fun w15 hu16 => ?_
 refine L0 <| Oal #[.int .u8 0, .int .u8 0, .int .u8 0, .int .u8 0, .int .u8 0, .int .u8 0, .int .u8 0, .int .u8 0, .int .u8 0, .int .u8 0, .int .u8 0, .int .u8 0, .int .u8 0, .int .u8 0, .int .u8 0, .int .u8 0] fun g17 w18 hg19 B20 hu21 => L0 <| Osw (hz := (by kernel_rfl)) (hv := rfl) (h1 := (by kernel_rfl)) B20 (hexA) fun w22 B23 hu24 => nt <| sq <| sg <| Pl 3 <| nt <| bk <| ?_
 have U25 := ut0 hu16 hu21
 have U26 := u1 U25 hu24 (ni hu16.size hg19)
 have r27 := ub U26 B13
 have ne28 := nb (blk_lt B13) hu16.size hg19
 have U29 := ut0 hu14 hu16
 have U30 := ut0 U29 hu21
 have U31 := u1 U30 hu24 (ni U29.size hg19)
 refine glp (fun x => [(2, .string ⟨#[]⟩), (3, .pointer (some ⟨g10, 0, none⟩)), (4, .pointer (some ⟨g17, 0, none⟩)), (8, .slice A b.length cp), (9, .int .i64 ((b.length : Nat) : Int)), (10, .int .i64 ((x : Nat) : Int))]) (fun (x : Nat) w' => Upd [] w w' ∧ w22.heap.size ≤ w'.heap.size ∧ Bld w.heap.size g10 (putH (b.take x)) w' ∧ w'.heap[g17]? = some (.cells hexA 110 (0, 0)) ∧ (x ≤ b.length)) (fun x => b.length - x) 0 ⟨U31, lr, (by simpa [putH] using Bld.new r27), B23, (by (try dsimp only); omega)⟩ ?_
 rintro k w32 ⟨hu33, hz37, f34, f35, p36⟩
 refine wkc [(2, .string ⟨#[]⟩), (3, .pointer (some ⟨g10, 0, none⟩)), (4, .pointer (some ⟨g17, 0, none⟩)), (8, .slice A b.length cp), (9, .int .i64 ((b.length : Nat) : Int)), (10, .int .i64 ((k : Nat) : Int))] ?_
 have f38 : Bld w.heap.size g10 (putH (b.take k)) w32 := f34
 have f39 : w32.heap[g17]? = some (.cells hexA 110 (0, 0)) := f35
 have p40 : k ≤ b.length := p36
 refine sg <| Pl 1 <| nt <| sq <| ?_
 have U41 := ut0 (Upd.refl [] _) hu33
 refine cb ((decide (((k : Nat) : Int) < ((b.length : Nat) : Int)))) (fun q42 => ?_) (fun q42 => ?_)
 have q42p := of_decide_eq_true q42
 refine skn <| sq <| bk <| sg <| ?_
 have r43 := RdB.old hsl U41
 refine x23 (RdB.at_ r43 k (by omega)) fun b44 o45 hA46 hl47 hr48 => L0 <| Oix b.length k hA46 (by omega) <| L0 <| Old (p := ⟨b44, o45 + k, none⟩) (v := .int .u8 (b.getD k 0)) hl47 <| Pl 1 <| ng <| Pl 1 <| L0 <| Oe (.int .u8 (Int.fdiv (b.getD k 0) (2 ^ 4))) (.int .u8 ((b.getD k 0) / 16)) (congrArg (Value.int .u8) (shr_lit _ _ _ (by decide))) <| L0 <| Oia (b := g17) (off := 0) 16 ((((b.getD k 0) / 16)).toNat) ((b.getD k 0) / 16) (by omega) (by omega) <| ?_
 have hl49 := hexD_rng (n := ((b.getD k 0) / 16)) (by omega)
 refine L0 <| Old (p := ⟨g17, 0 + (((b.getD k 0) / 16)).toNat, none⟩) (v := .int .u8 (hexD (((b.getD k 0) / 16)))) (blk_at f39 (by rw [Nat.zero_add, hexA_nat (by omega)])) <| L0 <| Oc <| m4 (bld_write (c := (hexD ((b.getD k 0) / 16))) U41 hg12 (Nat.le_trans (le hu14.size hu16.size) hg19) f38 f39 (Ne.symm ne28) (by omega) (by rw [putH_len, List.length_take]; omega)) fun w50 hb51 B52 hj53 hz54 => nt <| go <| Pl 1 <| L0 <| Oe (.int .u8 (Int.tmod (b.getD k 0) 16)) (.int .u8 ((b.getD k 0) % 16)) (congrArg (Value.int .u8) (Int.tmod_eq_emod_of_nonneg (by omega))) <| L0 <| Oia (b := g17) (off := 0) 16 ((((b.getD k 0) % 16)).toNat) ((b.getD k 0) % 16) (by omega) (by omega) <| ?_
 have hl55 := hexD_rng (n := ((b.getD k 0) % 16)) (by omega)
 refine L0 <| Old (p := ⟨g17, 0 + (((b.getD k 0) % 16)).toNat, none⟩) (v := .int .u8 (hexD (((b.getD k 0) % 16)))) (blk_at B52 (by rw [Nat.zero_add, hexA_nat (by omega)])) <| ?_
 have U56 := ut0 (Upd.refl [] _) hj53
 refine L0 <| Oc <| m4 (bld_write (c := (hexD ((b.getD k 0) % 16))) U56 hg12 (Nat.le_trans (le hu14.size hu16.size) hg19) hb51 B52 (Ne.symm ne28) (by omega) (by rw [List.length_append, putH_len, List.length_take]; simp only [List.length_cons, List.length_nil]; omega)) fun w57 hb58 B59 hj60 hz61 => nl <| bn <| tn <| go <| L0 <| Oi (((k : Nat) : Int) + 1) <| Pl 1 <| nl <| ?_
 have U62 := ut0 (Upd.refl [] _) hj60
 exact lpe (k + 1) ⟨U62, (le (le hz37 hz54) hz61), (by rw [putH_snoc _ _ (by omega)]; exact hb58), B59, (by (try dsimp only); omega)⟩ (by omega)
 have q42p := of_decide_eq_false q42
 refine xt <| tx <| tx <| bx <| tn <| sg <| ?_
 have hk63 : k = b.length := by omega
 have hbl := f38
 rw [hk63, List.take_length] at hbl
 have hbr : Byts (putH b) := putH_byts hb
 refine L0 <| Oc <| m1 (bld_string U41 hg12 hbl hbr) fun w64 hj65 => Pl 1 <| nt <| rt <| rr (.string (strOfNums (putH b))) <| ?_
 have U66 := ut0 (Upd.refl [] _) hj65
 exact ⟨rfl, U66⟩
theorem hput_any {m : Bool} {v : Value} {b : List Int} {w : World} (h : RdB m w v b) (hl : b.length ≤ 1024) : Calls Tryz.prog 57 #[v] w (PVal (.string (strOfNums (putH b))) w) := by
  obtain ⟨A, cp, rfl, _, _⟩ := h.shape
  exact hput_any0 h hl
def PTakeH (xs : List Int) (w : World) (e : Ending) (w' : World) : Prop := match takeH xs with
  | some l => ∃ v, e = .returned (.tuple #[v, .int .i64 0]) ∧ OwnB w.heap.size w' v l ∧ Upd [] w w'
  | none => e = .returned (.tuple #[.slice none 0 0, .int .i64 11]) ∧ Upd [] w w'
theorem htake_s {xs l : List Int} {w w' : World} {e : Ending} (h : takeH xs = some l) (k : ∃ v, e = .returned (.tuple #[v, .int .i64 0]) ∧ OwnB w.heap.size w' v l ∧ Upd [] w w') : PTakeH xs w e w' := by
  unfold PTakeH
  rw [h]
  exact k
theorem htake_n {xs : List Int} {w w' : World} {e : Ending} (h : takeH xs = none) (k : e = .returned (.tuple #[.slice none 0 0, .int .i64 11]) ∧ Upd [] w w') : PTakeH xs w e w' := by
  unfold PTakeH
  rw [h]
  exact k
set_option maxRecDepth 100000 in
set_option maxHeartbeats 4000000 in
theorem htake_any {xs : List Int} {w : World} (hr : Byts xs) (hl : xs.length ≤ 1048576) :
    Calls Tryz.prog 55 #[.string (strOfNums xs)] w (PTakeH xs w) := by
 refine en 42 Tryz.func55 rfl <| sg <| Pl 2 <| nt <| sq <| sg <| Pl 1 <| L0 <| Oe (.int .i64 (((strOfNums xs).size : Nat) : Int)) (.int .i64 ((xs.length : Nat) : Int)) (by rw [strOfNums_size]) <| L0 <| Oe (.int .i64 (Int.tmod ((xs.length : Nat) : Int) 2)) (.int .i64 (((xs.length : Nat) : Int) % 2)) (congrArg (Value.int .i64) (Int.tmod_eq_emod_of_nonneg (by omega))) <| Pl 1 <| nl <| ?_
 refine tn <| cb (((((xs.length : Nat) : Int) % 2) != 0)) (fun q10 => ?_) (fun q10 => ?_)
 have q10p := ne_of_bnei q10
 refine sg <| Pl 2 <| nt <| rt <| tr <| rr (.tuple #[.slice none 0 0, .int .i64 11]) <| ?_
 have hs : takeH xs = none := takeH_odd (by omega)
 exact htake_n hs ⟨rfl, (Upd.refl [] _)⟩
 have q10p := eq_of_bnei q10
 refine skn <| sg <| Pl 1 <| nt <| sq <| sg <| Pl 1 <| nt <| bk <| ?_
 refine glp (fun x => [(0, .string (strOfNums xs)), (4, .slice x.2.2.1 x.2.1.length x.2.2.2), (5, .int .i64 ((2 * x.1 : Nat) : Int))]) (fun (x : Nat × List Int × Option Addr × Nat) w' => Upd [] w w' ∧ OwnB w.heap.size w' (.slice x.2.2.1 x.2.1.length x.2.2.2) x.2.1 ∧ (2 * x.1 ≤ xs.length) ∧ (takeH xs = (takeH (xs.drop (2 * x.1))).map fun l => x.2.1 ++ l) ∧ (x.2.1.length = x.1)) (fun x => xs.length - 2 * x.1) (0, [], none, 0) ⟨Upd.refl _ _, (OwnG.nil w.heap.size _ _ u8R _), (by (try dsimp only); omega), (by (try dsimp only); simp), (by (try dsimp only); rfl)⟩ ?_
 rintro ⟨k, L, B, cq⟩ w11 ⟨hu12, f13, p14, p15, p16⟩
 refine wkc [(0, .string (strOfNums xs)), (4, .slice B L.length cq), (5, .int .i64 ((2 * k : Nat) : Int))] ?_
 have f18 : OwnB w.heap.size w11 (.slice B L.length cq) L := f13
 have p19 : 2 * k ≤ xs.length := p14
 have p20 : takeH xs = (takeH (xs.drop (2 * k))).map fun l => L ++ l := p15
 have p21 : L.length = k := p16
 have hL : takeH xs = (takeH (xs.drop (2 * k))).map fun l => L ++ l := by assumption
 refine sq <| sg <| Pl 2 <| L0 <| Oe (.int .i64 (((strOfNums xs).size : Nat) : Int)) (.int .i64 ((xs.length : Nat) : Int)) (by rw [strOfNums_size]) <| Pl 1 <| nt <| cb ((decide (((2 * k : Nat) : Int) < ((xs.length : Nat) : Int)))) (fun q22 => ?_) (fun q22 => ?_)
 have q22p := of_decide_eq_true q22
 refine skn <| sq <| bk <| sq <| Rg 11 (fun w' => True) fun w29 hu30 => hld trivial fun hS31 => Rt 0 hS31 <| Rt 1 hS31 <| Rr 2 hS31 (.int .u8 (xs.getD (2 * k) 0)) (fun _ _ => run_idxs (xs := xs) (k := .i64) (i := ((2 * k : Nat) : Int)) (2 * k) rfl Tryz.underlying9 (by kernel_rfl) (by kernel_rfl) hr rfl (by omega)) <| Rt 4 hS31 <| Rt 5 hS31 <| Rr 6 hS31 (.int .i64 (((2 * k : Nat) : Int) + 1)) (fun _ _ => run_eqo (.int .i64 (IntKind.i64.wrap (((2 * k : Nat) : Int) + 1))) (by kernel_rfl) (congrArg (Value.int .i64) (IntWalk.i64_in _ (by omega)))) <| Rr 7 hS31 (.int .u8 (xs.getD ((((2 * k : Nat) : Int) + 1)).toNat 0)) (fun _ _ => run_idxs (xs := xs) (k := .i64) (i := (((2 * k : Nat) : Int) + 1)) ((((2 * k : Nat) : Int) + 1)).toNat rfl Tryz.underlying9 (by kernel_rfl) (by kernel_rfl) hr (by omega) (by omega)) <| ?_
 have hd32 := digV_lt (xs.getD (2 * k) 0)
 refine R0 3 rfl <| Oc <| m1 (digit_any (c := (xs.getD (2 * k) 0)) (w := _) (getD_rng (by omega) hr _)) fun w33 hu34 => hld trivial fun hS35 => ?_
 have hd36 := digV_lt (xs.getD ((((2 * k : Nat) : Int) + 1)).toNat 0)
 refine R0 8 rfl <| Oc <| m1 (digit_any (c := (xs.getD ((((2 * k : Nat) : Int) + 1)).toNat 0)) (w := _) (getD_rng (by omega) hr _)) fun w37 hu38 => hld trivial fun hS39 => Rt 9 hS39 <| Rt 10 hS39 <| re <| tn <| sq <| sg <| Pl 3 <| cu 3 [29] 32 (((decide ((digV (xs.getD (2 * k) 0)) < 0)) || (decide ((digV (xs.getD ((((2 * k : Nat) : Int) + 1)).toNat 0)) < 0)))) (fun K K41 => ?_) ?_
 refine bl 29 ((decide ((digV (xs.getD (2 * k) 0)) < 0))) (fun q40 => ?_) (fun q40 => ?_)
 have q40p := of_decide_eq_true q40
 exact Pl 3 <| ce K41 true (by rw [q40]; rfl)
 have q40p := of_decide_eq_false q40
 exact Pl 3 <| ce K41 (decide ((digV (xs.getD ((((2 * k : Nat) : Int) + 1)).toNat 0)) < 0)) (by rw [q40]; rfl)
 refine nt <| ?_
 have U42 := ut0 hu12 hu30
 have U43 := ut0 U42 hu34
 have U44 := ut0 U43 hu38
 refine cb (((decide ((digV (xs.getD (2 * k) 0)) < 0)) || (decide ((digV (xs.getD ((((2 * k : Nat) : Int) + 1)).toNat 0)) < 0)))) (fun q45 => ?_) (fun q45 => ?_)
 refine sg <| Pl 2 <| nt <| rt <| tr <| br <| tr <| tr <| br <| tr <| rr (.tuple #[.slice none 0 0, .int .i64 11]) <| ?_
 have hs : takeH xs = none := takeH_no (k := k) hL (by omega) (by have q := q45; simp only [Bool.or_eq_true, decide_eq_true_eq] at q; rw [show 2 * k + 1 = (((2 * k : Nat) : Int) + 1).toNat from by omega]; exact q)
 exact htake_n hs ⟨rfl, U44⟩
 have q45a := (or_f q45).1
 have q45b := (or_f q45).2
 have q45ap := of_decide_eq_false q45a
 have q45bp := of_decide_eq_false q45b
 refine skn <| go <| Pl 2 <| L0 <| Oi (16 * (digV (xs.getD (2 * k) 0))) <| Pl 1 <| L0 <| Oi ((16 * (digV (xs.getD (2 * k) 0))) + (digV (xs.getD ((((2 * k : Nat) : Int) + 1)).toNat 0))) <| Pl 1 <| L0 <| Olt (m := 1) (e := 5) #[.int .u8 (((16 * (digV (xs.getD (2 * k) 0))) + (digV (xs.getD ((((2 * k : Nat) : Int) + 1)).toNat 0))) % 256)] fun g46 w47 hg48 B49 hu50 => ?_
 have ow51 := litB hg48 (xs := [(((16 * (digV (xs.getD (2 * k) 0))) + (digV (xs.getD ((((2 * k : Nat) : Int) + 1)).toNat 0))) % 256)]) (by as_aux_lemma => kernel_rfl) (rng_cons (by omega) rng_nil) (by (try simp only [List.length_cons, List.length_nil]); omega) B49
 have U52 := ut0 hu30 hu34
 have U53 := ut0 U52 hu38
 have U54 := ut0 U53 hu50
 have r55 := own_stay f18 U54 (fun x hx => not0) (fun _ _ h => h)
 refine L0 <| Oapp one_u8 (xs := L) (ys := ([(((16 * (digV (xs.getD (2 * k) 0))) + (digV (xs.getD ((((2 * k : Nat) : Int) + 1)).toNat 0))) % 256)])) (.int .u8 0) 1 r55 (ow51).rd (by (try simp only [List.length_append, List.length_cons, List.length_nil, putW_length]); omega) (le (le (le (le hu12.size hu30.size) hu34.size) hu38.size) hu50.size) fun A56 cp57 w58 ho59 hu60 => Pl 1 <| nl <| bn <| tn <| go <| Pl 1 <| L0 <| Oi (((2 * k : Nat) : Int) + 2) <| Pl 1 <| nl <| ?_
 have U61 := ut0 U44 hu50
 have U62 := ut U61 hu60 (all_app (ob_new f18 lr) all0)
 have hq63 := takeH_next (k := k) hL (by omega) (by omega) (by rw [show 2 * k + 1 = (((2 * k : Nat) : Int) + 1).toNat from by omega]; omega)
 rw [show 2 * k + 1 = (((2 * k : Nat) : Int) + 1).toNat from by omega] at hq63
 exact lpe ((k + 1), (L ++ [(((16 * (digV (xs.getD (2 * k) 0))) + (digV (xs.getD ((((2 * k : Nat) : Int) + 1)).toNat 0))) % 256)]), A56, cp57) ⟨U62, ho59, (by (try dsimp only); omega), hq63, (by (try dsimp only); simp only [List.length_append, List.length_cons, List.length_nil]; omega)⟩ (by omega)
 have q22p := of_decide_eq_false q22
 refine xt <| tx <| tx <| bx <| tn <| sg <| Pl 3 <| nt <| rt <| rr (.tuple #[.slice B L.length cq, .int .i64 0]) <| ?_
 have hs : takeH xs = some L := takeH_end hL (by omega)
 exact htake_s hs ⟨_, rfl, f18, hu12⟩
open Go.RowKit
def sufB (xs : List Int) : Bool := decide (2 ≤ ((xs.length : Nat) : Int)) && decide (xs.drop (((xs.length : Nat) : Int) - 2).toNat = [13, 10])
def digS (b : List Int) : Option (List Int) := if b.getD 0 0 = 58 ∧ sufB (b.drop 1) = true then some ((b.drop 1).take (b.length - 3)) else none
theorem sufB_len {xs : List Int} (h : sufB xs = true) : 2 ≤ xs.length := by
  unfold sufB at h
  simp only [Bool.and_eq_true, decide_eq_true_eq] at h
  omega
theorem digS_some {b s : List Int} (h : digS b = some s) : b.getD 0 0 = 58 ∧ sufB (b.drop 1) = true ∧ s = (b.drop 1).take (b.length - 3) ∧ 3 ≤ b.length := by
  unfold digS at h
  split at h
  · rename_i hc
    injection h with h
    have := sufB_len hc.2
    rw [List.length_drop] at this
    exact ⟨hc.1, hc.2, h.symm, by omega⟩
  · cases h
theorem digS_len {b s : List Int} (h : digS b = some s) : s.length = b.length - 3 := by
  obtain ⟨_, _, rfl, h3⟩ := digS_some h
  rw [List.length_take, List.length_drop]
  omega
def PDig (xs : List Int) (w : World) (e : Ending) (w' : World) : Prop := match digS xs with
  | some l => e = .returned (.tuple #[.string (strOfNums l), .bool true]) ∧ Upd [] w w'
  | none => ∃ s, e = .returned (.tuple #[.string s, .bool false]) ∧ Upd [] w w'
set_option maxRecDepth 100000 in
set_option maxHeartbeats 4000000 in
theorem hassuf_any {xs : List Int} {w : World} (hr : Byts xs) (hl : xs.length ≤ 1048576) : Calls Tryz.prog 128 #[.string (strOfNums xs), .string ⟨#[13, 10]⟩] w (PVal (.bool (sufB xs)) w) := by
 refine en 21 Tryz.func128 rfl <| sg <| Pl 1 <| ng <| Pl 1 <| L0 <| Oe (.int .i64 (((strOfNums xs).size : Nat) : Int)) (.int .i64 ((xs.length : Nat) : Int)) (by rw [strOfNums_size]) <| Pl 4 <| bl 10 ((decide (2 ≤ ((xs.length : Nat) : Int)))) (fun q10 => ?_) (fun q10 => ?_)
 have q10p := of_decide_eq_true q10
 refine Pl 2 <| L1 <| Oe (.int .i64 (((strOfNums xs).size : Nat) : Int)) (.int .i64 ((xs.length : Nat) : Int)) (by rw [strOfNums_size]) <| Pl 2 <| L1 <| Oi (((xs.length : Nat) : Int) - 2) <| ?_
 have hz11 : Byts (xs.drop ((((xs.length : Nat) : Int) - 2)).toNat) := byts_drop hr ((((xs.length : Nat) : Int) - 2)).toNat
 refine L1 <| Or_ (.string (strOfNums (xs.drop ((((xs.length : Nat) : Int) - 2)).toNat))) (run_cutsF (xs := xs) (k := .i64) (i := (((xs.length : Nat) : Int) - 2)) ((((xs.length : Nat) : Int) - 2)).toNat rfl Tryz.underlying9 (by kernel_rfl) (by kernel_rfl) (by omega) (by omega)) <| Pl 1 <| L1 <| Or_ (.bool (decide ((xs.drop ((((xs.length : Nat) : Int) - 2)).toNat) = [13, 10]))) (run_strq (a := (strOfNums (xs.drop ((((xs.length : Nat) : Int) - 2)).toNat))) (b := ⟨#[13, 10]⟩) rfl (by kernel_rfl) (by kernel_rfl) (str_eqx (ys := [13, 10]) hz11 (by decide))) <| Pl 2 <| nt <| rt <| rr (.bool (decide ((xs.drop ((((xs.length : Nat) : Int) - 2)).toNat) = [13, 10]))) <| ?_
 have hs : sufB xs = (decide ((xs.drop ((((xs.length : Nat) : Int) - 2)).toNat) = [13, 10])) := by unfold sufB; (try simp only [q10, bs, if_true, if_false, decide_true, decide_false]); all_goals rfl
 rw [hs]
 exact ⟨rfl, (Upd.refl [] _)⟩
 have q10p := of_decide_eq_false q10
 refine Pl 11 <| nt <| rt <| rr (.bool false) <| ?_
 have hs : sufB xs = false := by unfold sufB; (try simp only [q10, bs, if_true, if_false, decide_true, decide_false]); all_goals rfl
 rw [hs]
 exact ⟨rfl, (Upd.refl [] _)⟩
set_option maxRecDepth 100000 in
set_option maxHeartbeats 4000000 in
theorem cutsuf_t0 {xs : List Int} {w : World} (hr : Byts xs) (hl : xs.length ≤ 1048576) (hq : sufB xs = true) : Calls Tryz.prog 93 #[.string (strOfNums xs), .string ⟨#[13, 10]⟩] w (PVal (.tuple #[.string (strOfNums (xs.take (((xs.length : Nat) : Int) - 2).toNat)), .bool true]) w) := by
 have hq2 := sufB_len hq
 refine en 18 Tryz.func93 rfl <| sg <| Pl 2 <| nt <| sq <| sg <| Pl 2 <| L0 <| Oc <| m1 (hassuf_any (xs := xs) (w := _) hr (by omega)) fun w10 hu11 => Pl 1 <| nt <| ?_
 have k12 : (!(sufB xs)) = false := by simp only [hq, Bool.not_true, Bool.not_false]
 refine cf k12 <| skn <| sg <| Pl 2 <| L0 <| Oe (.int .i64 (((strOfNums xs).size : Nat) : Int)) (.int .i64 ((xs.length : Nat) : Int)) (by rw [strOfNums_size]) <| Pl 2 <| L0 <| Oi (((xs.length : Nat) : Int) - 2) <| ?_
 have hz13 : Byts (xs.take ((((xs.length : Nat) : Int) - 2)).toNat) := byts_take hr ((((xs.length : Nat) : Int) - 2)).toNat
 refine L0 <| Or_ (.string (strOfNums (xs.take ((((xs.length : Nat) : Int) - 2)).toNat))) (run_cutsT (xs := xs) (k := .i64) (i := (((xs.length : Nat) : Int) - 2)) ((((xs.length : Nat) : Int) - 2)).toNat rfl Tryz.underlying9 (by kernel_rfl) (by kernel_rfl) (by omega) (by omega)) <| Pl 2 <| nt <| rt <| rr (.tuple #[.string (strOfNums (xs.take ((((xs.length : Nat) : Int) - 2)).toNat)), .bool true]) <| ?_
 exact ⟨rfl, hu11⟩
set_option maxRecDepth 100000 in
set_option maxHeartbeats 4000000 in
theorem cutsuf_t {xs : List Int} {w : World} (hr : Byts xs) (hl : xs.length ≤ 1048576) (hq : sufB xs = true) : Calls Tryz.prog 68 #[.string (strOfNums xs), .string ⟨#[13, 10]⟩] w (PVal (.tuple #[.string (strOfNums (xs.take (((xs.length : Nat) : Int) - 2).toNat)), .bool true]) w) := by
 refine en 11 Tryz.func68 rfl <| sg <| Pl 2 <| ng <| Pl 2 <| L0 <| Oc <| m1 (cutsuf_t0 (xs := xs) (w := _) hr hl hq) fun w10 hu11 => Pl 4 <| nt <| rt <| ?_
 refine rr (.tuple #[.string (strOfNums (xs.take (((xs.length : Nat) : Int) - 2).toNat)), .bool true]) <| ?_
 exact ⟨rfl, hu11⟩
set_option maxRecDepth 100000 in
set_option maxHeartbeats 4000000 in
theorem cutsuf_f0 {xs : List Int} {w : World} (hr : Byts xs) (hl : xs.length ≤ 1048576) (hq : sufB xs = false) : Calls Tryz.prog 93 #[.string (strOfNums xs), .string ⟨#[13, 10]⟩] w (PVal (.tuple #[.string (strOfNums xs), .bool false]) w) := by
 refine en 18 Tryz.func93 rfl <| sg <| Pl 2 <| nt <| sq <| sg <| Pl 2 <| L0 <| Oc <| m1 (hassuf_any (xs := xs) (w := _) hr (by omega)) fun w10 hu11 => Pl 1 <| nt <| ?_
 have k12 : (!(sufB xs)) = true := by simp only [hq, Bool.not_true, Bool.not_false]
 refine ct k12 <| sg <| Pl 3 <| nt <| rt <| tr <| rr (.tuple #[.string (strOfNums xs), .bool false]) <| ?_
 exact ⟨rfl, hu11⟩
set_option maxRecDepth 100000 in
set_option maxHeartbeats 4000000 in
theorem cutsuf_f {xs : List Int} {w : World} (hr : Byts xs) (hl : xs.length ≤ 1048576) (hq : sufB xs = false) : Calls Tryz.prog 68 #[.string (strOfNums xs), .string ⟨#[13, 10]⟩] w (PVal (.tuple #[.string (strOfNums xs), .bool false]) w) := by
 refine en 11 Tryz.func68 rfl <| sg <| Pl 2 <| ng <| Pl 2 <| L0 <| Oc <| m1 (cutsuf_f0 (xs := xs) (w := _) hr hl hq) fun w10 hu11 => Pl 4 <| nt <| rt <| ?_
 refine rr (.tuple #[.string (strOfNums xs), .bool false]) <| ?_
 exact ⟨rfl, hu11⟩
theorem digS_t {b : List Int} (h : b.getD 0 0 = 58) (k : sufB (b.drop 1) = true) : digS b = some ((b.drop 1).take (b.length - 3)) := if_pos ⟨h, k⟩
theorem digS_f1 {b : List Int} (h : ¬ b.getD 0 0 = 58) : digS b = none := if_neg fun k => h k.1
theorem digS_f2 {b : List Int} (k : sufB (b.drop 1) = false) : digS b = none := if_neg fun h => by rw [k] at h; cases h.2
theorem pdig_s {b l : List Int} {w w' : World} {e : Ending} (h : digS b = some l) (k : e = .returned (.tuple #[.string (strOfNums l), .bool true]) ∧ Upd [] w w') : PDig b w e w' := by
  unfold PDig
  rw [h]
  exact k
theorem pdig_n {b : List Int} {w w' : World} {e : Ending} (h : digS b = none) (k : ∃ s, e = .returned (.tuple #[.string s, .bool false]) ∧ Upd [] w w') : PDig b w e w' := by
  unfold PDig
  rw [h]
  exact k
set_option maxRecDepth 100000 in
set_option maxHeartbeats 4000000 in
theorem ascdig_any {b : List Int} {w : World} (hr : Byts b) (hl : b.length ≤ 1048576) (h0 : 0 < b.length) : Calls Tryz.prog 54 #[.string (strOfNums b)] w (PDig b w) := by
 refine en 18 Tryz.func54 rfl <| sg <| Pl 2 <| nt <| sq <| sg <| Pl 1 <| L0 <| Orng (sv := strOfNums b) Tryz.underlying9 fun g10 w11 hg12 B13 hu14 => nt <| bk <| ?_
 refine glp (fun x => [(0, .string (strOfNums b)), (7, .pointer (some ⟨g10, 0, none⟩))]) (fun (x : Unit) w' => Upd [] w11 w' ∧ (0 ≤ 0)) (fun x => 0) () ⟨Upd.refl _ _, (by (try dsimp only); omega)⟩ ?_
 rintro z w15 ⟨hu16, p17⟩
 refine wkc [(0, .string (strOfNums b)), (7, .pointer (some ⟨g10, 0, none⟩))] ?_
 have p19 : 0 ≤ 0 := p17
 refine sg <| ?_
 have r24 := ub hu16 B13
 refine L0 <| Onx hr (by omega) r24 fun c20 w21 hc22 hu23 => Pl 1 <| nt <| sq <| c1 <| skn <| bk <| sg <| Pl 2 <| nt <| ?_
 refine sq <| sg <| Pl 2 <| nt <| ?_
 have U25 := ut0 hu14 hu16
 have U26 := u1 U25 hu23 (nr hg12)
 refine cb ((c20 != 58)) (fun q27 => ?_) (fun q27 => ?_)
 have q27p := ne_of_bnei q27
 refine sg <| Pl 2 <| nt <| rt <| tr <| br <| tr <| br <| tr <| rr (.tuple #[.string ⟨#[]⟩, .bool false]) <| ?_
 exact pdig_n (digS_f1 fun e => q27p (hc22.2 e)) ⟨_, rfl, U26⟩
 have q27p := eq_of_bnei q27
 refine skn <| xt <| by_ <| tx <| bx <| tn <| sg <| Pl 1 <| ?_
 have hz28 : Byts (b.drop 1) := byts_drop hr 1
 refine L0 <| Or_ (.string (strOfNums (b.drop 1))) (run_cutsF (xs := b) (k := .i64) (i := 1) 1 rfl Tryz.underlying9 (by kernel_rfl) (by kernel_rfl) rfl (by omega)) <| ?_
 rcases bool_dich (sufB (b.drop 1)) with hq | hq
 refine L0 <| Oc <| m1 (cutsuf_t (xs := (b.drop 1)) (w := _) hz28 (by rw [List.length_drop]; omega) hq) fun w29 hu30 => Pl 4 <| nt <| rt <| rr (.tuple #[.string (strOfNums ((b.drop 1).take ((((b.drop 1).length : Nat) : Int) - 2).toNat)), .bool true]) <| ?_
 have U31 := ut0 U26 hu30
 exact pdig_s (l := (b.drop 1).take (b.length - 3)) (digS_t (hc22.1 q27p) hq) ⟨by rw [show b.length - 3 = ((((b.drop 1).length : Nat) : Int) - 2).toNat from by rw [List.length_drop]; omega], U31⟩
 refine L0 <| Oc <| m1 (cutsuf_f (xs := (b.drop 1)) (w := _) hz28 (by rw [List.length_drop]; omega) hq) fun w32 hu33 => Pl 4 <| nt <| rt <| rr (.tuple #[.string (strOfNums (b.drop 1)), .bool false]) <| ?_
 have U34 := ut0 U26 hu33
 exact pdig_n (digS_f2 hq) ⟨_, rfl, U34⟩
open Go.RowKit
theorem digS_byts {b s : List Int} (hr : Byts b) (h : digS b = some s) : Byts s := by
  obtain ⟨_, _, rfl, _⟩ := digS_some h
  exact byts_take (byts_drop hr 1) _
theorem pdig_s2 {b l : List Int} {w : World} (h : digS b = some l) (e : Ending) (w' : World) (k : PDig b w e w') : e = .returned (.tuple #[.string (strOfNums l), .bool true]) ∧ Upd [] w w' := by
  unfold PDig at k
  rw [h] at k
  exact k
theorem pdig_n2 {b : List Int} {w : World} (h : digS b = none) (e : Ending) (w' : World) (k : PDig b w e w') : ∃ s, e = .returned (.tuple #[.string s, .bool false]) ∧ Upd [] w w' := by
  unfold PDig at k
  rw [h] at k
  exact k
theorem ptake_s2 {b l : List Int} {w : World} (h : takeH b = some l) (e : Ending) (w' : World) (k : PTakeH b w e w') : ∃ v, e = .returned (.tuple #[v, .int .i64 0]) ∧ OwnB w.heap.size w' v l ∧ Upd [] w w' := by
  unfold PTakeH at k
  rw [h] at k
  exact k
theorem ptake_n2 {b : List Int} {w : World} (h : takeH b = none) (e : Ending) (w' : World) (k : PTakeH b w e w') : e = .returned (.tuple #[.slice none 0 0, .int .i64 11]) ∧ Upd [] w w' := by
  unfold PTakeH at k
  rw [h] at k
  exact k
def ascBody (x : List Int) : List Int := (x.take (x.length - 1)).drop 1
theorem ascBody_eq (x : List Int) : ascBody x = (x.take (((x.length : Nat) : Int) - 1).toNat).drop 1 := by
  unfold ascBody
  rw [show (((x.length : Nat) : Int) - 1).toNat = x.length - 1 from by omega]
def ascP (dir : Int) (b : List Int) : Frm × Int :=
  if dir != 0 && dir != 1 then (Frm.zero, 1)
  else if decide ((b.length : Int) < 9) then (Frm.zero, 2)
  else if decide (513 < (b.length : Int)) then (Frm.zero, 3)
  else match digS b with
    | none => (Frm.zero, 12)
    | some s => match takeH s with
      | none => (Frm.zero, 11)
      | some x => if !(lrcIs x) then (Frm.zero, 10) else frmOf (x.getD 0 0) 0 (pduP dir (ascBody x))
set_option maxRecDepth 100000 in
set_option maxHeartbeats 4000000 in
theorem asc_parse0 {m : Bool} {A : Option Addr} {cp : Nat} {b : List Int} {w : World} {dir : Int} (hsl0 : RdB m w (.slice A b.length cp) b) (hb : b.length ≤ 1048576) :
    Calls Tryz.prog 42 #[.int .i64 dir, .slice A b.length cp] w (PFrm (ascP dir b) w) := by
 have hln : (b.length : Int) ≤ 1048576 := by omega
 have hr : Byts b := RdB.range hsl0
 refine en 71 Tryz.func42 rfl <| sg <| L0 <| Oal #[.int .u8 0, .int .u16 0, .int .u8 0, .int .u8 0, .int .u16 0, .int .u16 0, .int .u16 0, .int .u16 0, .int .u16 0, .int .u16 0, .int .u16 0, .int .u16 0, .int .u16 0, .int .u16 0, .slice none 0 0, .slice none 0 0, .slice none 0 0, .slice none 0 0, .int .u8 0, .int .u8 0, .int .u8 0, .int .u8 0, .int .u8 0, .slice none 0 0] fun g10 w11 hg12 B13 hu14 => Pl 1 <| nt <| sq <| bk <| sg <| Pl 3 <| cu 3 [14] 17 (((dir != 0) && (dir != 1))) (fun K K16 => ?_) ?_
 refine bl 14 ((dir != 0)) (fun q15 => ?_) (fun q15 => ?_)
 have q15p := ne_of_bnei q15
 exact Pl 3 <| ce K16 (dir != 1) (by rw [q15]; rfl)
 have q15p := eq_of_bnei q15
 exact Pl 3 <| ce K16 false (by rw [q15]; rfl)
 refine Pl 1 <| nt <| cb (((dir != 0) && (dir != 1))) (fun q17 => ?_) (fun q17 => ?_)
 have q17a := (and_t q17).1
 have q17b := (and_t q17).2
 have q17ap := ne_of_bnei q17a
 have q17bp := ne_of_bnei q17b
 refine sg <| Pl 1 <| L0 <| Osw B13 #[.int .u8 0, .int .u16 0, .int .u8 0, .int .u8 0, .int .u16 0, .int .u16 0, .int .u16 0, .int .u16 0, .int .u16 0, .int .u16 0, .int .u16 0, .int .u16 0, .int .u16 0, .int .u16 0, .slice none 0 0, .slice none 0 0, .slice none 0 0, .slice none 0 0, .int .u8 0, .int .u8 0, .int .u8 0, .int .u8 0, .int .u8 0, .slice none 0 0] fun w18 B19 hu20 => Pl 1 <| nt <| rt <| br <| tr <| rct B19 (.int .i64 1) <| ?_
 have hs : ascP dir b = (Frm.zero, 1) := by
   unfold ascP
   (try simp only [q17, q17a, q17b, bs, if_true, if_false, decide_true, decide_false, frmOf, reduceIte])
   all_goals rfl
 refine pf_eq hs ?_
 have U21 := u1 hu14 hu20 (nr hg12)
 exact bad_frm U21
 refine sg <| Pl 4 <| nt <| cb ((decide (((b.length : Nat) : Int) < 9))) (fun q22 => ?_) (fun q22 => ?_)
 have q22p := of_decide_eq_true q22
 refine sg <| Pl 1 <| L0 <| Osw B13 #[.int .u8 0, .int .u16 0, .int .u8 0, .int .u8 0, .int .u16 0, .int .u16 0, .int .u16 0, .int .u16 0, .int .u16 0, .int .u16 0, .int .u16 0, .int .u16 0, .int .u16 0, .int .u16 0, .slice none 0 0, .slice none 0 0, .slice none 0 0, .slice none 0 0, .int .u8 0, .int .u8 0, .int .u8 0, .int .u8 0, .int .u8 0, .slice none 0 0] fun w23 B24 hu25 => Pl 1 <| nt <| rt <| br <| tr <| rct B24 (.int .i64 2) <| ?_
 have hs : ascP dir b = (Frm.zero, 2) := by
   unfold ascP
   (try simp only [q17, q22, bs, if_true, if_false, decide_true, decide_false, frmOf, reduceIte])
   all_goals rfl
 refine pf_eq hs ?_
 have U26 := u1 hu14 hu25 (nr hg12)
 exact bad_frm U26
 have q22p := of_decide_eq_false q22
 refine sg <| Pl 4 <| nt <| cb ((decide (513 < ((b.length : Nat) : Int)))) (fun q27 => ?_) (fun q27 => ?_)
 have q27p := of_decide_eq_true q27
 refine sg <| Pl 1 <| L0 <| Osw B13 #[.int .u8 0, .int .u16 0, .int .u8 0, .int .u8 0, .int .u16 0, .int .u16 0, .int .u16 0, .int .u16 0, .int .u16 0, .int .u16 0, .int .u16 0, .int .u16 0, .int .u16 0, .int .u16 0, .slice none 0 0, .slice none 0 0, .slice none 0 0, .slice none 0 0, .int .u8 0, .int .u8 0, .int .u8 0, .int .u8 0, .int .u8 0, .slice none 0 0] fun w28 B29 hu30 => Pl 1 <| nt <| rt <| br <| tr <| rct B29 (.int .i64 3) <| ?_
 have hs : ascP dir b = (Frm.zero, 3) := by
   unfold ascP
   (try simp only [q17, q22, q27, bs, if_true, if_false, decide_true, decide_false, frmOf, reduceIte])
   all_goals rfl
 refine pf_eq hs ?_
 have U31 := u1 hu14 hu30 (nr hg12)
 exact bad_frm U31
 have q27p := of_decide_eq_false q27
 refine sk <| bn <| tn <| sg <| Pl 1 <| ?_
 have r32 := RdB.old hsl0 hu14
 refine L0 <| Or_ (.string (strOfNums b)) (run_convB (A := A) (n := b.length) (c := cp) rfl (by kernel_rfl) Tryz.underlying29 Tryz.underlying5 Tryz.underlying9 r32) <| ?_
 rcases hds : digS b with _ | sd
 have hd33 := ascdig_any (w := w11) (RdB.range r32) hb (by omega)
 have hd33x := hd33.mono (pdig_n2 hds)
 refine L0 <| Oc (args := #[.string (strOfNums b)]) <| e1 hd33x fun s36 w34 hu35 => Pl 5 <| nt <| sq <| sg <| Pl 2 <| nt <| c1 <| sg <| Pl 1 <| ?_
 have r37 := ub hu35 B13
 refine L0 <| Osw r37 #[.int .u8 0, .int .u16 0, .int .u8 0, .int .u8 0, .int .u16 0, .int .u16 0, .int .u16 0, .int .u16 0, .int .u16 0, .int .u16 0, .int .u16 0, .int .u16 0, .int .u16 0, .int .u16 0, .slice none 0 0, .slice none 0 0, .slice none 0 0, .slice none 0 0, .int .u8 0, .int .u8 0, .int .u8 0, .int .u8 0, .int .u8 0, .slice none 0 0] fun w38 B39 hu40 => Pl 1 <| nt <| rt <| tr <| rct B39 (.int .i64 12) <| ?_
 have hs : ascP dir b = (Frm.zero, 12) := by
   unfold ascP
   (try simp only [q17, q22, q27, bs, if_true, if_false, decide_true, decide_false, frmOf, hds, reduceIte])
   all_goals rfl
 refine pf_eq hs ?_
 have U41 := ut0 hu14 hu35
 have U42 := u1 U41 hu40 (nr hg12)
 exact bad_frm U42
 have hsl := digS_len hds
 have hsd : Byts sd := digS_byts hr hds
 have hd43 := ascdig_any (w := w11) (RdB.range r32) hb (by omega)
 have hd43x := hd43.mono (pdig_s2 hds)
 refine L0 <| Oc (args := #[.string (strOfNums b)]) <| m1 hd43x fun w44 hu45 => Pl 5 <| nt <| sq <| sg <| Pl 2 <| nt <| c0 <| skn <| sq <| ?_
 refine go <| Pl 1 <| ?_
 have U46 := ut0 hu14 hu45
 rcases hth : takeH sd with _ | x
 have hd47 := (htake_any (w := w44) hsd (by omega)).mono (ptake_n2 hth)
 refine L0 <| Oc <| m1 hd47 fun w48 hu49 => Pl 5 <| nt <| sq <| sg <| Pl 2 <| nt <| c1 <| sg <| Pl 2 <| ?_
 have U50 := ut0 hu45 hu49
 have r51 := ub U50 B13
 refine L0 <| Osw r51 #[.int .u8 0, .int .u16 0, .int .u8 0, .int .u8 0, .int .u16 0, .int .u16 0, .int .u16 0, .int .u16 0, .int .u16 0, .int .u16 0, .int .u16 0, .int .u16 0, .int .u16 0, .int .u16 0, .slice none 0 0, .slice none 0 0, .slice none 0 0, .slice none 0 0, .int .u8 0, .int .u8 0, .int .u8 0, .int .u8 0, .int .u8 0, .slice none 0 0] fun w52 B53 hu54 => Pl 1 <| nt <| rt <| tr <| rct B53 (.int .i64 11) <| ?_
 have hs : ascP dir b = (Frm.zero, 11) := by
   unfold ascP
   (try simp only [q17, q22, q27, bs, if_true, if_false, decide_true, decide_false, frmOf, hds, hth, reduceIte])
   all_goals rfl
 refine pf_eq hs ?_
 have U55 := ut0 U46 hu49
 have U56 := u1 U55 hu54 (nr hg12)
 exact bad_frm U56
 have hxl := takeH_len hth
 have hd57 := (htake_any (w := w44) hsd (by omega)).mono (ptake_s2 hth)
 refine L0 <| Oc <| so2 hd57 fun A62 cp63 w58 rd66 hl64 hm65 hu59 => Pl 5 <| nt <| sq <| sg <| Pl 2 <| nt <| c0 <| skn <| sq <| ?_
 refine sg <| Pl 1 <| L0 <| Oc (args := #[.slice A62 x.length cp63]) <| m1 (lrcis_any (rd66).rd) fun w67 hu68 => Pl 1 <| nt <| ?_
 have U69 := ut0 U46 hu59
 have U70 := ut0 U69 hu68
 refine cb ((!(lrcIs x))) (fun q71 => ?_) (fun q71 => ?_)
 have q71n : (lrcIs x) = false := by simpa using q71
 refine sg <| Pl 1 <| ?_
 have U72 := ut0 hu45 hu59
 have U73 := ut0 U72 hu68
 have r74 := ub U73 B13
 refine L0 <| Osw r74 #[.int .u8 0, .int .u16 0, .int .u8 0, .int .u8 0, .int .u16 0, .int .u16 0, .int .u16 0, .int .u16 0, .int .u16 0, .int .u16 0, .int .u16 0, .int .u16 0, .int .u16 0, .int .u16 0, .slice none 0 0, .slice none 0 0, .slice none 0 0, .slice none 0 0, .int .u8 0, .int .u8 0, .int .u8 0, .int .u8 0, .int .u8 0, .slice none 0 0] fun w75 B76 hu77 => Pl 1 <| nt <| rt <| tr <| rct B76 (.int .i64 10) <| ?_
 have hs : ascP dir b = (Frm.zero, 10) := by
   unfold ascP
   (try simp only [q17, q22, q27, q71, q71n, bs, if_true, if_false, decide_true, decide_false, frmOf, hds, hth, reduceIte])
   all_goals rfl
 refine pf_eq hs ?_
 have U78 := u1 U70 hu77 (nr hg12)
 exact bad_frm U78
 have q71n : (lrcIs x) = true := by simpa using q71
 refine skn <| sg <| Pl 4 <| L0 <| Oi (((x.length : Nat) : Int) - 1) <| x12 (cut_lhI (P := Tryz.prog) 29 5 1 Tryz.underlying29 rfl rfl A62 x.length cp63 (lo := 1) (up := (((x.length : Nat) : Int) - 1)) 1 (((((x.length : Nat) : Int) - 1)).toNat) (by omega) (by omega) (by omega) (by omega) (by omega)) fun A79 hrun80 hrd81 => L0 <| Or_ (.slice A79 ((((((x.length : Nat) : Int) - 1)).toNat) - 1) (cp63 - 1)) (run_cutlh (kl := .i64) (kh := .i64) (lo := 1) (hi := (((x.length : Nat) : Int) - 1)) (A := A62) (n := x.length) (c := cp63) rfl Tryz.underlying29 (by kernel_rfl) (by kernel_rfl) (by kernel_rfl) (hrun80 _ _ _)) <| ?_
 obtain ⟨M82, E83, hX84⟩ : ∃ M E, pduP dir ((x.take (((((x.length : Nat) : Int) - 1)).toNat)).drop 1) = (M, E) := ⟨_, _, rfl⟩
 have r103 := own_stay rd66 hu68 (fun x hx => not0) (fun _ _ h => h)
 have hp85 := pdu_parse (dir := dir) (w := w67) (hrd81 _ _ _ _ _ (r103).rd) (by rw [List.length_drop, List.length_take]; omega)
 rw [hX84] at hp85
 refine L0 <| Oc <| e2 hp85 fun cs87 w86 hM88 hu90 => ?_
 have hM89 := hM88
 obtain ⟨v93, v94, v95, v96, v97, h91, h98, h99, h100, h101, h102, hR92⟩ := hM89
 obtain rfl : cs87 = (msgCells M82 v93 v94 v95 v96 v97).toArray := by apply Array.toList_inj.1; simpa using h91
 obtain ⟨A104, k105, rfl, _, _⟩ := h98.shape
 obtain ⟨A106, k107, rfl, _, _⟩ := h99.shape
 obtain ⟨A108, k109, rfl, _, _⟩ := h100.shape
 obtain ⟨A110, k111, rfl, _, _⟩ := h101.shape
 obtain ⟨A112, k113, rfl, _, _⟩ := h102.shape
 refine Pl 3 <| L0 <| Oal mZ fun g114 w115 hg116 B117 hu118 => L0 <| Osw B117 (mG M82.code M82.fail M82.addr M82.count M82.value M82.and_ M82.or_ M82.addr2 M82.sub M82.status M82.events M82.messages (.slice A104 M82.words.length k105) (.slice A106 M82.bits.length k107) (.slice A108 M82.data.length k109) (.slice A110 M82.recs.length k111) M82.mei M82.kind M82.level M82.more M82.next (.slice A112 M82.objects.length k113)) fun w119 B120 hu121 => Pl 1 <| nt <| sq <| sg <| Pl 2 <| nt <| ?_
 have U122 := ut0 U70 hu90
 have U123 := ut0 U122 hu118
 have U124 := u1 U123 hu121 (ni U122.size hg116)
 refine cb ((E83 != 0)) (fun q125 => ?_) (fun q125 => ?_)
 have q125p := ne_of_bnei q125
 refine sg <| Pl 2 <| ?_
 have U126 := ut0 hu45 hu59
 have U127 := ut0 U126 hu68
 have U128 := ut0 U127 hu90
 have U129 := ut0 U128 hu118
 have U130 := u1 U129 hu121 (ni U128.size hg116)
 have r131 := ub U130 B13
 refine L0 <| Osw r131 #[.int .u8 0, .int .u16 0, .int .u8 0, .int .u8 0, .int .u16 0, .int .u16 0, .int .u16 0, .int .u16 0, .int .u16 0, .int .u16 0, .int .u16 0, .int .u16 0, .int .u16 0, .int .u16 0, .slice none 0 0, .slice none 0 0, .slice none 0 0, .slice none 0 0, .int .u8 0, .int .u8 0, .int .u8 0, .int .u8 0, .int .u8 0, .slice none 0 0] fun w132 B133 hu134 => Pl 1 <| nt <| rt <| tr <| rct B133 (.int .i64 E83) <| ?_
 have hX2 : pduP dir (ascBody x) = (M82, E83) := (congrArg (pduP dir) (ascBody_eq x)).trans hX84
 have hs : ascP dir b = (Frm.zero, E83) := by
   unfold ascP
   (try simp only [q17, q22, q27, q71, q71n, q125, bs, if_true, if_false, decide_true, decide_false, frmOf, hds, hth, hX2, reduceIte])
   all_goals rfl
 refine pf_eq hs ?_
 have U135 := u1 U124 hu134 (nr hg12)
 exact bad_frm U135
 have q125p := eq_of_bnei q125
 refine skn <| sq <| ?_
 have U153 := ut0 hu90 hu118
 have U154 := u1 U153 hu121 (ni hu90.size hg116)
 have r155 := own_stay r103 U154 (fun x hx => not0) (fun _ _ h => h)
 refine x23 (RdB.at_ (r155).rd 0 (by omega)) fun b156 o157 hA158 hl159 hr160 => Rg 8 (fun w' => w'.cell? ⟨b156, o157 + 0, none⟩ = some (.int .u8 (x.getD 0 0)) ∧ w'.heap[g114]? = some (.cells (mG M82.code M82.fail M82.addr M82.count M82.value M82.and_ M82.or_ M82.addr2 M82.sub M82.status M82.events M82.messages (.slice A104 M82.words.length k105) (.slice A106 M82.bits.length k107) (.slice A108 M82.data.length k109) (.slice A110 M82.recs.length k111) M82.mei M82.kind M82.level M82.more M82.next (.slice A112 M82.objects.length k113)) 45 (0, 0))) fun w170 hu171 => ?_
 have r173 := ub hu171 B120
 refine hld ⟨(uc hu171 hl159), r173⟩ fun hS172 => Rt 0 hS172 <| Ri1 1 hS172 x.length 0 0 rfl hA158 (by omega) <| Rl 2 hS172 (fun _ hs => hs.1) <| Rt 3 hS172 <| Rr 4 hS172 (.agg (mG M82.code M82.fail M82.addr M82.count M82.value M82.and_ M82.or_ M82.addr2 M82.sub M82.status M82.events M82.messages (.slice A104 M82.words.length k105) (.slice A106 M82.bits.length k107) (.slice A108 M82.data.length k109) (.slice A110 M82.recs.length k111) M82.mei M82.kind M82.level M82.more M82.next (.slice A112 M82.objects.length k113))) (fun w' hs => lda_o (g := g114) (off := 0) [.int .u8 M82.code, .int .u8 M82.fail, .int .u16 M82.addr, .int .u16 M82.count, .int .u16 M82.value, .int .u16 M82.and_, .int .u16 M82.or_, .int .u16 M82.addr2, .int .u16 M82.sub, .int .u16 M82.status, .int .u16 M82.events, .int .u16 M82.messages, .slice A104 M82.words.length k105, .slice A106 M82.bits.length k107, .slice A108 M82.data.length k109, .slice A110 M82.recs.length k111, .int .u8 M82.mei, .int .u8 M82.kind, .int .u8 M82.level, .int .u8 M82.more, .int .u8 M82.next, .slice A112 M82.objects.length k113] rfl (by kernel_rfl) hs.2 (by kernel_rfl) (by kernel_rfl) rfl) <| Rt 5 hS172 <| ?_
 have U174 := ut0 hu45 hu59
 have U175 := ut0 U174 hu68
 have U176 := ut0 U175 hu90
 have U177 := ut0 U176 hu118
 have U178 := u1 U177 hu121 (ni U176.size hg116)
 have U179 := ut0 U178 hu171
 have r180 := ub U179 B13
 refine R0 6 rfl <| Osw r180 #[.int .u8 (x.getD 0 0), .int .u16 0, .int .u8 M82.code, .int .u8 M82.fail, .int .u16 M82.addr, .int .u16 M82.count, .int .u16 M82.value, .int .u16 M82.and_, .int .u16 M82.or_, .int .u16 M82.addr2, .int .u16 M82.sub, .int .u16 M82.status, .int .u16 M82.events, .int .u16 M82.messages, .slice A104 M82.words.length k105, .slice A106 M82.bits.length k107, .slice A108 M82.data.length k109, .slice A110 M82.recs.length k111, .int .u8 M82.mei, .int .u8 M82.kind, .int .u8 M82.level, .int .u8 M82.more, .int .u8 M82.next, .slice A112 M82.objects.length k113] fun w181 B182 hu183 => ?_
 have U185 := u1 (Upd.mono (S' := [g10]) hu171 all0) hu183 im
 have r186 := own_stay r155 U185 (fun x hx => (not_cons (fun e => (not_old (blk_lt B13) hu45.size rd66) (e ▸ hx)) not0)) (fun _ _ h => h)
 have ne187 := nb (blk_lt B13) U176.size hg116
 have r188 := ub1 hu183 (Ne.symm ne187) r173
 refine hld ⟨(cB (r186).rd hA158 0 (by omega)), r188⟩ fun hS184 => Rt 7 hS184 <| re <| tn <| rt <| rct B182 (.int .i64 0) <| ?_
 have hX2 : pduP dir (ascBody x) = (M82, E83) := (congrArg (pduP dir) (ascBody_eq x)).trans hX84
 have hs : ascP dir b = (⟨(x.getD 0 0), 0, M82⟩, 0) := by
   unfold ascP
   (try simp only [q17, q22, q27, q71, q71n, q125, bs, if_true, if_false, decide_true, decide_false, frmOf, hds, hth, hX2, reduceIte])
   all_goals rfl
 refine pf_eq hs ?_
 have U189 := u1 hu118 hu121 (nr hg116)
 have U190 := ut0 U189 hu171
 have U191 := u1 (Upd.mono (S' := [g10]) U190 all0) hu183 im
 have r192 := ub U176 B13
 have r193 := MsgRd.upd hM88 U191 (safe_cons (safe1 r192 (by decide)) safe0)
 have U194 := ut0 U124 hu171
 have U195 := u1 U194 hu183 (nr hg12)
 exact ⟨_, rfl, ⟨#[.int .u8 M82.code, .int .u8 M82.fail, .int .u16 M82.addr, .int .u16 M82.count, .int .u16 M82.value, .int .u16 M82.and_, .int .u16 M82.or_, .int .u16 M82.addr2, .int .u16 M82.sub, .int .u16 M82.status, .int .u16 M82.events, .int .u16 M82.messages, .slice A104 M82.words.length k105, .slice A106 M82.bits.length k107, .slice A108 M82.data.length k109, .slice A110 M82.recs.length k111, .int .u8 M82.mei, .int .u8 M82.kind, .int .u8 M82.level, .int .u8 M82.more, .int .u8 M82.next, .slice A112 M82.objects.length k113], (by as_aux_lemma => kernel_rfl), r193, b8 (x := (x.getD 0 0)) (by omega), b16 (x := 0) (by omega)⟩, U195⟩
theorem asc_parse {m : Bool} {v : Value} {b : List Int} {w : World} {dir : Int} (h : RdB m w v b) (hb : b.length ≤ 1048576) : Calls Tryz.prog 42 #[.int .i64 dir, v] w (PFrm (ascP dir b) w) := by
  obtain ⟨A, cp, rfl, _, _⟩ := h.shape
  exact asc_parse0 h hb
open Go.RowKit
def ascB (u : Int) (l : List Int) : List Int := ([58] ++ putH (([u] ++ l) ++ [lrcOf ([u] ++ l)])) ++ [13, 10]
def ascW (dir u t : Int) (M : Msg) : Option (List Int) :=
  match pduW dir M with
  | none => none
  | some l => if t != 0 then none else some (ascB u l)
def PWriteF (res : Option (List Int)) (w : World) (e : Ending) (w' : World) : Prop :=
  match res with
  | some l => ∃ v, e = .returned (.tuple #[v, .int .i64 0]) ∧ OwnF w.heap.size w' v l ∧ Upd [] w w'
  | none => e = .returned (.tuple #[.slice none 0 0, .int .i64 1]) ∧ Upd [] w w'
theorem nsF_eq {x y : Option (List Int)} (h : x = y) {w : World} {e : Ending} {w' : World} (k : PWriteF y w e w') : PWriteF x w e w' := by rw [h]; exact k
theorem OwnF.weaken {base base' : Nat} {w : World} {v : Value} {xs : List Int} (h : OwnF base w v xs) (k : base' ≤ base) : OwnF base' w v xs := by
  obtain ⟨g, cap, cur, n, h1, h2, h3⟩ := h
  exact ⟨g, cap, cur, n, h1, Nat.le_trans k h2, h3⟩
theorem lrcOf_rng (b : List Int) : 0 ≤ lrcOf b ∧ lrcOf b < 256 := by unfold lrcOf; omega
set_option maxRecDepth 100000 in
set_option maxHeartbeats 4000000 in
theorem asc_write {m : Bool} {cs : Array Value} {M : Msg} {w : World} {dir u t : Int} (h : MsgRd m w cs.toList M) (hf : MsgFew M) (hu : B8 u) (ht : B16 t) : Calls Tryz.prog 43 #[.int .i64 dir, .agg (#[.int .u8 u, .int .u16 t] ++ cs)] w (PWriteF (ascW dir u t M) w) := by
 have hM := h
 obtain ⟨hu1, hu2⟩ := hu
 obtain ⟨ht1, ht2⟩ := ht
 obtain ⟨vw, vb, vd, vr, vo, h0, hw, hbt, hd, hr, ho, hR⟩ := h
 obtain rfl : cs = (msgCells M vw vb vd vr vo).toArray := by apply Array.toList_inj.1; simpa using h0
 clear h0
 obtain ⟨Aw, kw, rfl, _, _⟩ := hw.shape
 obtain ⟨Ab, kb, rfl, _, _⟩ := hbt.shape
 obtain ⟨Ad, kd, rfl, _, _⟩ := hd.shape
 obtain ⟨Ar, kr, rfl, _, _⟩ := hr.shape
 obtain ⟨Ao, ko, rfl, _, _⟩ := ho.shape
 obtain ⟨q0, q1, q2, q3, q4, q5, q6, q7, q8, q9, q10, q11, q16, q17, q18, q19, q20⟩ := hR
 simp only [B8, B16] at q0 q1 q2 q3 q4 q5 q6 q7 q8 q9 q10 q11 q16 q17 q18 q19 q20
 refine en 39 Tryz.func43 rfl <| sg <| L0 <| Obx #[.int .u8 u, .int .u16 t, .int .u8 M.code, .int .u8 M.fail, .int .u16 M.addr, .int .u16 M.count, .int .u16 M.value, .int .u16 M.and_, .int .u16 M.or_, .int .u16 M.addr2, .int .u16 M.sub, .int .u16 M.status, .int .u16 M.events, .int .u16 M.messages, .slice Aw M.words.length kw, .slice Ab M.bits.length kb, .slice Ad M.data.length kd, .slice Ar M.recs.length kr, .int .u8 M.mei, .int .u8 M.kind, .int .u8 M.level, .int .u8 M.more, .int .u8 M.next, .slice Ao M.objects.length ko] fun g10 w11 hg12 B13 hu14 => Pl 2 <| ng <| Pl 2 <| L0 <| Ola B13 2 22 <| ?_
 rcases hwr : pduW dir M with _ | lw
 have r18 := MsgRd.old hM hu14
 have hw15 := pdu_write (dir := dir) r18 hf
 rw [hwr] at hw15
 refine L0 <| Oc <| m1 hw15 fun w16 hu17 => Pl 5 <| nt <| sq <| sg <| Pl 8 <| nt <| c1 <| sg <| Pl 2 <| nl <| ?_
 refine tn <| rt <| tr <| rr (.tuple #[.slice none 0 0, .int .i64 1]) <| ?_
 have hs : ascW dir u t M = none := by
   unfold ascW
   (try simp only [hwr, bs, if_true, if_false, decide_true, decide_false, reduceIte])
   all_goals rfl
 refine nsF_eq hs ?_
 have U19 := ut0 hu14 hu17
 exact ⟨rfl, U19⟩
 have hlw := pduW_len hwr
 have r23 := MsgRd.old hM hu14
 have hw20 := pdu_write (dir := dir) r23 hf
 rw [hwr] at hw20
 refine L0 <| Oc <| so2 hw20 fun A26 cp27 w21 rd30 hl28 hm29 hu22 => Pl 5 <| nt <| sq <| sg <| Pl 5 <| ?_
 have r31 := ub hu22 B13
 refine L1 <| Olb r31 1 <| Pl 2 <| nt <| ?_
 have U32 := ut0 hu14 hu22
 refine cb ((t != 0)) (fun q33 => ?_) (fun q33 => ?_)
 have q33p := ne_of_bnei q33
 refine sg <| Pl 2 <| nt <| rt <| tr <| rr (.tuple #[.slice none 0 0, .int .i64 1]) <| ?_
 have hs : ascW dir u t M = none := by
   unfold ascW
   (try simp only [hwr, q33, bs, if_true, if_false, decide_true, decide_false, reduceIte])
   all_goals rfl
 refine nsF_eq hs ?_
 exact ⟨rfl, U32⟩
 have q33p := eq_of_bnei q33
 refine skn <| sg <| Pl 2 <| L0 <| Olb r31 0 <| L0 <| Olt (m := 1) (e := 5) #[.int .u8 u] fun g34 w35 hg36 B37 hu38 => ?_
 have ow39 := litB hg36 (xs := [u]) (by as_aux_lemma => kernel_rfl) (rng_cons (by omega) rng_nil) (by (try simp only [List.length_cons, List.length_nil]); omega) B37
 refine Pl 1 <| ?_
 have r40 := own_stay rd30 hu38 (fun x hx => not0) (fun _ _ h => h)
 refine L0 <| Oapp one_u8 (xs := ([u])) (ys := lw) (.int .u8 0) 1 ow39 (r40).rd (by (try simp only [List.length_append, List.length_cons, List.length_nil, putW_length]); omega) hu38.size fun A41 cp42 w43 ho44 hu45 => Pl 1 <| ng <| Pl 2 <| L0 <| Oc (args := #[.slice A41 (([u] ++ lw).length) cp42]) <| m1 (lrcof_any (ho44).rd) fun w46 hu47 => ?_
 have r49 := own_stay ho44 hu47 (fun x hx => not0) (fun _ _ h => h)
 have hl48 := lrcOf_rng ([u] ++ lw)
 refine L0 <| Olt (m := 1) (e := 5) #[.int .u8 (lrcOf ([u] ++ lw))] fun g50 w51 hg52 B53 hu54 => ?_
 have ow55 := litB hg52 (xs := [(lrcOf ([u] ++ lw))]) (by as_aux_lemma => kernel_rfl) (rng_cons (by omega) rng_nil) (by (try simp only [List.length_cons, List.length_nil]); omega) B53
 have r56 := own_stay r49 hu54 (fun x hx => not0) (fun _ _ h => h)
 refine L0 <| Oapp one_u8 (xs := ([u] ++ lw)) (ys := ([(lrcOf ([u] ++ lw))])) (.int .u8 0) 1 r56 (ow55).rd (by (try simp only [List.length_append, List.length_cons, List.length_nil, putW_length]); omega) (le (le (le hu38.size hu45.size) hu47.size) hu54.size) fun A57 cp58 w59 ho60 hu61 => L0 <| Oc (args := #[.slice A57 ((([u] ++ lw) ++ [(lrcOf ([u] ++ lw))]).length) cp58]) <| m1 (hput_any (ho60).rd (by simp only [List.length_append, List.length_cons, List.length_nil]; omega)) fun w62 hu63 => ?_
 have hp64 : Byts (putH (([u] ++ lw) ++ [(lrcOf ([u] ++ lw))])) := putH_byts (RdB.range (ho60).rd)
 have hz65 : Byts ([58] ++ (putH (([u] ++ lw) ++ [(lrcOf ([u] ++ lw))]))) := byts_app (by decide) hp64
 refine L0 <| Or_ (.string (strOfNums ([58] ++ (putH (([u] ++ lw) ++ [(lrcOf ([u] ++ lw))]))))) (run_adds (a := ⟨#[58]⟩) (b := (strOfNums (putH (([u] ++ lw) ++ [(lrcOf ([u] ++ lw))])))) (xs := ([58])) (ys := (putH (([u] ++ lw) ++ [(lrcOf ([u] ++ lw))]))) rfl (by kernel_rfl) (by kernel_rfl) rfl rfl (by simp only [putH_len, List.length_append, List.length_cons, List.length_nil]; omega)) <| ?_
 have hz66 : Byts (([58] ++ (putH (([u] ++ lw) ++ [(lrcOf ([u] ++ lw))]))) ++ [13, 10]) := byts_app hz65 (by decide)
 refine L0 <| Or_ (.string (strOfNums (([58] ++ (putH (([u] ++ lw) ++ [(lrcOf ([u] ++ lw))]))) ++ [13, 10]))) (run_adds (a := (strOfNums ([58] ++ (putH (([u] ++ lw) ++ [(lrcOf ([u] ++ lw))]))))) (b := ⟨#[13, 10]⟩) (xs := ([58] ++ (putH (([u] ++ lw) ++ [(lrcOf ([u] ++ lw))])))) (ys := ([13, 10])) rfl (by kernel_rfl) (by kernel_rfl) rfl rfl (by simp only [putH_len, List.length_append, List.length_cons, List.length_nil]; omega)) <| L0 <| Ocs (xs := (([58] ++ (putH (([u] ++ lw) ++ [(lrcOf ([u] ++ lw))]))) ++ [13, 10])) Tryz.underlying9 Tryz.underlying29 Tryz.underlying5 hz66 (by simp only [putH_len, List.length_append, List.length_cons, List.length_nil]; omega) fun A67 cp68 w69 ho70 hu71 => Pl 2 <| nt <| rt <| rr (.tuple #[.slice A67 ((([58] ++ (putH (([u] ++ lw) ++ [(lrcOf ([u] ++ lw))]))) ++ [13, 10]).length) cp68, .int .i64 0]) <| ?_
 have hs : ascW dir u t M = (some (([58] ++ (putH (([u] ++ lw) ++ [(lrcOf ([u] ++ lw))]))) ++ [13, 10])) := by
   unfold ascW
   (try simp only [hwr, q33, bs, if_true, if_false, decide_true, decide_false, reduceIte])
   all_goals rfl
 refine nsF_eq hs ?_
 have U72 := ut0 U32 hu38
 have U73 := ut U72 hu45 (all_app (ob_new ow39 U32.size) all0)
 have U74 := ut0 U73 hu47
 have U75 := ut0 U74 hu54
 have U76 := ut U75 hu61 (all_app (ob_new ho44 U32.size) all0)
 have U77 := ut0 U76 hu63
 have U78 := ut0 U77 hu71
 exact ⟨_, rfl, ho70.weaken (le (le (le (le (le (le (le hu14.size hu22.size) hu38.size) hu45.size) hu47.size) hu54.size) hu61.size) hu63.size), U78⟩
open Go.RowKit
theorem asc_parse_x {m : Bool} {v : Value} {b : List Int} {w : World} {dir : Int} {F : Frm} {E : Int} (hX : ascP dir b = (F, E)) (h : RdB m w v b) (hb : b.length ≤ 1048576) : Calls Tryz.prog 42 #[.int .i64 dir, v] w (fun e w' => ∃ x, e = .returned (.tuple #[.agg (fcl F.unit F.tid F.msg x), .int .i64 E]) ∧ (MsgRd true w' (mcl F.msg x).toList F.msg ∧ (0 ≤ F.unit ∧ F.unit < 256) ∧ (0 ≤ F.tid ∧ F.tid < 65536)) ∧ Upd [] w w') := by
  refine (asc_parse h hb).mono ?_
  rintro e w' ⟨cs, rfl, h1, h2⟩
  rw [hX] at h1 ⊢
  obtain ⟨c, rfl, h3, h4, h5⟩ := h1
  obtain ⟨x, rfl⟩ := mcl_of h3
  exact ⟨x, by rw [fcl_eq], ⟨h3, h4, h5⟩, h2⟩
theorem asc_write_n {m : Bool} {x : SL} {M : Msg} {w : World} {dir u t : Int} (hX : ascW dir u t M = none) (h : MsgRd m w (mcl M x).toList M) (hf : MsgFew M) (hu : 0 ≤ u ∧ u < 256) (ht : 0 ≤ t ∧ t < 65536) : Calls Tryz.prog 43 #[.int .i64 dir, .agg (fcl u t M x)] w (fun e w' => e = .returned (.tuple #[.slice none 0 0, .int .i64 1]) ∧ Upd [] w w') := by
  have := asc_write (dir := dir) h hf hu ht
  rw [hX] at this
  rw [fcl_eq]
  exact this
theorem asc_write_s {m : Bool} {x : SL} {M : Msg} {w : World} {dir u t : Int} {l : List Int} (hX : ascW dir u t M = some l) (h : MsgRd m w (mcl M x).toList M) (hf : MsgFew M) (hu : 0 ≤ u ∧ u < 256) (ht : 0 ≤ t ∧ t < 65536) : Calls Tryz.prog 43 #[.int .i64 dir, .agg (fcl u t M x)] w (fun e w' => ∃ v, e = .returned (.tuple #[v, .int .i64 0]) ∧ OwnF w.heap.size w' v l ∧ Upd [] w w') := by
  have := asc_write (dir := dir) h hf hu ht
  rw [hX] at this
  rw [fcl_eq]
  exact this
open Go.RowKit
section
variable {H : Type} {enc : TypeId × Value → H} {w : World} {base : Nat} {spare : Nat → Bool} {held : Bool} {n : Nat} {y : DataW H × List MemPlace}
theorem head_open {cs : List Value} (h : DataW.trod enc Tryz.prog w base spare held n 39 cs = some y) : ∃ u t, cs = [.int .u8 u, .int .u16 t] ∧ (0 ≤ u ∧ u < 256) ∧ (0 ≤ t ∧ t < 65536) := by
  obtain ⟨xs, m, rfl, _, hlen, hxs, hf⟩ := DataW.trod_struct Tryz.underlying39 h
  rw [show Tryz.prog.cellsOf 39 = 2 from by kernel_rfl] at hlen
  replace hxs : xs.length = 2 := hxs.trans (by kernel_rfl)
  obtain ⟨y0, g0⟩ : ∃ y, xs[0]? = some y := ⟨_, List.getElem?_eq_getElem (show 0 < xs.length by omega)⟩
  have f0 : DataW.trod enc Tryz.prog w base spare held m 5 ((cs.drop 0).take (Tryz.prog.cellsOf 5)) = xs[0]? := hf 0 _ rfl
  rw [g0] at f0
  rw [show Tryz.prog.cellsOf 5 = 1 from by kernel_rfl] at f0
  obtain ⟨x0, e0, r0⟩ := el_u8 f0
  obtain ⟨y1, g1⟩ : ∃ y, xs[1]? = some y := ⟨_, List.getElem?_eq_getElem (show 1 < xs.length by omega)⟩
  have f1 : DataW.trod enc Tryz.prog w base spare held m 37 ((cs.drop 1).take (Tryz.prog.cellsOf 37)) = xs[1]? := hf 1 _ rfl
  rw [g1] at f1
  rw [show Tryz.prog.cellsOf 37 = 1 from by kernel_rfl] at f1
  obtain ⟨x1, e1, r1⟩ := el_u16 f1
  have hcs : cs = [.int .u8 x0, .int .u16 x1] := by
    show cs.drop 0 = _
    rw [peel e0, peel e1, drop_all hlen]
  exact ⟨x0, x1, hcs, r0, r1⟩
set_option maxRecDepth 20000 in
theorem frm_open {cs : List Value} (h : DataW.trod enc Tryz.prog w base spare held n 47 cs = some y) : ∃ u t M c, cs = [.int .u8 u, .int .u16 t] ++ c ∧ MsgRd false w c M ∧ (0 ≤ u ∧ u < 256) ∧ (0 ≤ t ∧ t < 65536) := by
  obtain ⟨xs, m, rfl, _, hlen, hxs, hf⟩ := DataW.trod_struct Tryz.underlying47 h
  rw [show Tryz.prog.cellsOf 47 = 24 from by kernel_rfl] at hlen
  replace hxs : xs.length = 2 := hxs.trans (by kernel_rfl)
  obtain ⟨y0, g0⟩ : ∃ y, xs[0]? = some y := ⟨_, List.getElem?_eq_getElem (show 0 < xs.length by omega)⟩
  have f0 : DataW.trod enc Tryz.prog w base spare held m 39 ((cs.drop 0).take (Tryz.prog.cellsOf 39)) = xs[0]? := hf 0 _ rfl
  rw [g0] at f0
  rw [show Tryz.prog.cellsOf 39 = 2 from by kernel_rfl] at f0
  obtain ⟨u, t, e0, hu, ht⟩ := head_open f0
  obtain ⟨y1, g1⟩ : ∃ y, xs[1]? = some y := ⟨_, List.getElem?_eq_getElem (show 1 < xs.length by omega)⟩
  have f1 : DataW.trod enc Tryz.prog w base spare held m 45 ((cs.drop 2).take (Tryz.prog.cellsOf 45)) = xs[1]? := hf 1 _ rfl
  rw [g1] at f1
  rw [show Tryz.prog.cellsOf 45 = 22 from by kernel_rfl] at f1
  obtain ⟨M, hM⟩ := msg_open f1
  refine ⟨u, t, M, (cs.drop 2).take 22, ?_, hM, hu, ht⟩
  rw [← e0, List.take_of_length_le (show (cs.drop 2).length ≤ 22 by rw [List.length_drop]; omega)]
  exact (List.take_append_drop 2 cs).symm
set_option maxRecDepth 20000 in
open Go.WideShapes in
theorem frm_arg {v : Value} {d : DataW H} {p : List MemPlace} (hv : ∃ b0, Value.okWide Tryz.prog w .any b0 47 v) (h : DataW.Trod enc Tryz.prog w base spare held 47 v d p) : ∃ u t M x, v = .agg (fcl u t M x) ∧ MsgRd false w (mcl M x).toList M ∧ (0 ≤ u ∧ u < 256) ∧ (0 ≤ t ∧ t < 65536) := by
  obtain ⟨b0, hv⟩ := hv
  obtain ⟨cs, rfl, hsz⟩ := okWide_struct Tryz.underlying47 hv
  obtain ⟨fuel, hf⟩ := h
  obtain ⟨u, t, M, c, e0, hM, hu, ht⟩ := frm_open hf
  obtain ⟨x, hx⟩ := mcl_of (cs := c.toArray) (by simpa using hM)
  refine ⟨u, t, M, x, ?_, ?_, hu, ht⟩
  · rw [fcl_eq, ← hx]
    congr 1
    apply Array.toList_inj.1
    rw [show cs.toList = _ from e0]
    simp
  · rw [← hx]
    simpa using hM
end
open Go.RowKit
def awM7 : Msg := { Msg.zero with code := 7 }
theorem aw7rd (w : World) : MsgRd true w (mC 7).toList awM7 := ⟨nilS, nilS, nilS, nilS, nilS, rfl, RdG.nil .., RdG.nil .., RdG.nil .., RdG.nil .., RdG.nil .., { MsgRng.zero with code := (by decide : (0 : Int) ≤ 7 ∧ (7 : Int) < 256) }⟩
theorem aw7few : MsgFew awM7 := ⟨by decide, by decide, by decide, by decide, (fun r h => nomatch h), by decide, (fun r h => nomatch h)⟩
open Go.RowKit
theorem eqn_head (a b c d : Int) (w : World) : (Op.equalIn 10000 39 (.agg #[.int .u8 a, .int .u16 b]) (.agg #[.int .u8 c, .int .u16 d])).run Tryz.prog w = .ok ((a == c) && (b == d)) w := by
  have hS : Tryz.prog.underlying 39 = some (.struct (Tryz.prog.fieldsOf 39)) := by kernel_rfl
  have hp : Tryz.prog.stoodInHeld 39 = false := by kernel_rfl
  rw [show (10000 : Nat) = 9998 + 1 + 1 from rfl, run_equalIn_agg w (9998 + 1) 39 _ _ hS hp]
  simp only [Program.fieldsOf, Tryz.underlying39]
  have p0 : ∀ v : Int, (part 5 #[.int .u8 v, .int .u16 b] 0).run Tryz.prog w = .ok (.int .u8 v) w := fun v => by simp [part, isAgg, run_underlying Tryz.underlying5, Result.andThen]
  have p0' : ∀ v : Int, (part 5 #[.int .u8 v, .int .u16 d] 0).run Tryz.prog w = .ok (.int .u8 v) w := fun v => by simp [part, isAgg, run_underlying Tryz.underlying5, Result.andThen]
  have p1 : ∀ v u : Int, (part 37 #[.int .u8 u, .int .u16 v] 1).run Tryz.prog w = .ok (.int .u16 v) w := fun v u => by simp [part, isAgg, run_underlying Tryz.underlying37, Result.andThen]
  have e0 := run_equalIn_int (P := Tryz.prog) w 9998 5 .u8 _ a c Tryz.underlying5
  have e1 := run_equalIn_int (P := Tryz.prog) w 9998 37 .u16 _ b d Tryz.underlying37
  simp only [Op.eqFields, Sem.run_bind, p0, p0', p1, e0, e1, Result.andThen_ok, ne_eq, String.reduceEq, not_false_eq_true, if_true, Sem.run_ite]
  cases (a == c) <;> cases (b == d) <;> simp
theorem run_headeq {ev : Operand → Value} {o : Oper} {x y : Operand} {t : TypeId} (a b c d : Int) {v : Bool} {w : World} (ho : o.op = .binOp .eql 39 x y t)
    (hx : ev x = .agg #[.int .u8 a, .int .u16 b]) (hy : ev y = .agg #[.int .u8 c, .int .u16 d]) (hv : ((a == c) && (b == d)) = v) : (execOp ev o).run Tryz.prog w = .ok (.value (.bool v)) w := by
  subst hv
  have hg : (eqGuard .eql 39 x y (.agg #[.int .u8 a, .int .u16 b]) (.agg #[.int .u8 c, .int .u16 d])).run Tryz.prog w = .ok () w := run_eqGuard_agg w _ _ _ _ _ _ (by kernel_rfl)
  unfold execOp
  simp only [ho, hx, hy, Sem.run_bind, hg, Result.andThen_ok, run_eql_struct, eqn_head, Sem.run_pure]
theorem run_headne {ev : Operand → Value} {o : Oper} {x y : Operand} {t : TypeId} (a b c d : Int) {v : Bool} {w : World} (ho : o.op = .binOp .neq 39 x y t)
    (hx : ev x = .agg #[.int .u8 a, .int .u16 b]) (hy : ev y = .agg #[.int .u8 c, .int .u16 d]) (hv : (!((a == c) && (b == d))) = v) : (execOp ev o).run Tryz.prog w = .ok (.value (.bool v)) w := by
  subst hv
  have hg : (eqGuard .neq 39 x y (.agg #[.int .u8 a, .int .u16 b]) (.agg #[.int .u8 c, .int .u16 d])).run Tryz.prog w = .ok () w := run_eqGuard_agg w _ _ _ _ _ _ (by kernel_rfl)
  unfold execOp
  simp only [ho, hx, hy, Sem.run_bind, hg, Result.andThen_ok, run_neq_struct, eqn_head, Sem.run_pure]
open Go.RowKit
theorem aw16w : ascW 0 1 0 awM7 = some [58, 48, 49, 48, 55, 70, 56, 13, 10] := by decide +kernel
theorem aw16p : ascP 0 [58, 48, 49, 48, 55, 70, 56, 13, 10] = (⟨1, 0, awM7⟩, 0) := by decide +kernel
theorem aw16W {w : World} : Calls Tryz.prog 43 #[.int .i64 0, .agg #[.int .u8 1, .int .u16 0, .int .u8 7, .int .u8 0, .int .u16 0, .int .u16 0, .int .u16 0, .int .u16 0, .int .u16 0, .int .u16 0, .int .u16 0, .int .u16 0, .int .u16 0, .int .u16 0, .slice none 0 0, .slice none 0 0, .slice none 0 0, .slice none 0 0, .int .u8 0, .int .u8 0, .int .u8 0, .int .u8 0, .int .u8 0, .slice none 0 0]] w (fun e w' => ∃ v, e = .returned (.tuple #[v, .int .i64 0]) ∧ OwnF w.heap.size w' v [58, 48, 49, 48, 55, 70, 56, 13, 10] ∧ Upd [] w w') := by
  have h := asc_write (dir := 0) (u := 1) (t := 0) (aw7rd w) aw7few (show (0 : Int) ≤ 1 ∧ (1 : Int) < 256 from by decide) (show (0 : Int) ≤ 0 ∧ (0 : Int) < 65536 from by decide)
  rw [aw16w] at h
  rw [show #[.int .u8 1, .int .u16 0, .int .u8 7, .int .u8 0, .int .u16 0, .int .u16 0, .int .u16 0, .int .u16 0, .int .u16 0, .int .u16 0, .int .u16 0, .int .u16 0, .int .u16 0, .int .u16 0, .slice none 0 0, .slice none 0 0, .slice none 0 0, .slice none 0 0, .int .u8 0, .int .u8 0, .int .u8 0, .int .u8 0, .int .u8 0, .slice none 0 0] = #[.int .u8 1, .int .u16 0] ++ mC 7 from by kernel_rfl]
  exact h
set_option maxRecDepth 100000 in
set_option maxHeartbeats 4000000 in
theorem awake16 {w : World} : Calls Tryz.prog 41 #[] w (PVal (.bool true) w) := by
 refine en 40 Tryz.func41 rfl <| sg <| Pl 1 <| ng <| Pl 3 <| L0 <| Oc <| e2 (@aw16W w) fun v11 w10 ho12 hu13 => ?_
 rcases OwnF.shape ho12 with ⟨g14, cp15, rfl⟩
 rcases RdG.shape (ho12).rd with ⟨_, _, e16, hl17, hm18⟩
 injection e16 with _ _ e16
 rw [← e16] at hl17 hm18
 refine Pl 5 <| ng <| Pl 1 <| L0 <| Oc <| e2 (asc_parse_x aw16p (ho12).rd (by decide)) fun x19 w20 hx25 hu24 => ?_
 obtain ⟨hM21, hF22, hF23⟩ := hx25
 refine Pl 3 <| L0 <| Oal #[.int .u8 0, .int .u16 0, .int .u8 0, .int .u8 0, .int .u16 0, .int .u16 0, .int .u16 0, .int .u16 0, .int .u16 0, .int .u16 0, .int .u16 0, .int .u16 0, .int .u16 0, .int .u16 0, .slice none 0 0, .slice none 0 0, .slice none 0 0, .slice none 0 0, .int .u8 0, .int .u8 0, .int .u8 0, .int .u8 0, .int .u8 0, .slice none 0 0] fun g26 w27 hg28 B29 hu30 => L0 <| Osw B29 #[.int .u8 1, .int .u16 0, .int .u8 7, .int .u8 0, .int .u16 0, .int .u16 0, .int .u16 0, .int .u16 0, .int .u16 0, .int .u16 0, .int .u16 0, .int .u16 0, .int .u16 0, .int .u16 0, .slice x19.aw awM7.words.length x19.kw, .slice x19.ab awM7.bits.length x19.kb, .slice x19.ad awM7.data.length x19.kd, .slice x19.ar awM7.recs.length x19.kr, .int .u8 0, .int .u8 0, .int .u8 0, .int .u8 0, .int .u8 0, .slice x19.ao awM7.objects.length x19.ko] fun w31 B32 hu33 => Pl 1 <| ng <| Pl 8 <| ?_
 have U34 := ut0 hu24 hu30
 have U35 := u1 U34 hu33 (ni hu24.size hg28)
 have r36 := RdB.upd' (ho12).rd U35 safe0
 refine L1 <| Or_ (.string (strOfNums ([58, 48, 49, 48, 55, 70, 56, 13, 10]))) (run_convB (A := some ⟨g14, 0, none⟩) (n := ([58, 48, 49, 48, 55, 70, 56, 13, 10]).length) (c := cp15) rfl (by kernel_rfl) Tryz.underlying29 Tryz.underlying5 Tryz.underlying9 r36) <| L1 <| Or_ (.bool true) (run_strq (a := (strOfNums ([58, 48, 49, 48, 55, 70, 56, 13, 10]))) (b := ⟨#[58, 48, 49, 48, 55, 70, 56, 13, 10]⟩) rfl (by kernel_rfl) (by kernel_rfl) (str_lit rfl (by decide))) <| Pl 4 <| L1 <| Olb B32 0 <| Pl 5 <| L1 <| Olb B32 2 <| Pl 3 <| nt <| rt <| rr (.bool true) <| ?_
 have U37 := ut0 hu13 hu24
 have U38 := ut0 U37 hu30
 have U39 := u1 U38 hu33 (ni U37.size hg28)
 exact ⟨rfl, U39⟩
open Go.RowKit
open Go.RowKit
theorem pduW_byts {m : Bool} {cs : Array Value} {M : Msg} {w : World} {dir : Int} (h : MsgRd m w cs.toList M) (hf : MsgFew M) (l : List Int) (hX : pduW dir M = some l) : Byts l := by
  obtain ⟨e, w', _, hR, _⟩ := pdu_write (dir := dir) h hf []
  rw [hX] at hR
  obtain ⟨v, _, ho, _⟩ := hR
  exact RdB.range ho.rd
def ascX (u : Int) (l : List Int) : List Int := ([u] ++ l) ++ [lrcOf ([u] ++ l)]
theorem ascX_len (u : Int) (l : List Int) : (ascX u l).length = l.length + 2 := by simp [ascX]
theorem ascB_X (u : Int) (l : List Int) : ascB u l = ([58] ++ putH (ascX u l)) ++ [13, 10] := rfl
theorem ascB_len (u : Int) (l : List Int) : (ascB u l).length = 2 * l.length + 7 := by
  rw [ascB_X]
  simp only [List.length_append, List.length_cons, List.length_nil, putH_len, ascX_len]
  omega
theorem ascX_byts {u : Int} {l : List Int} (hu : 0 ≤ u ∧ u < 256) (hl : Byts l) : Byts (ascX u l) := by
  refine byts_app (byts_app ?_ hl) ?_
  · intro x hx; rw [List.mem_singleton] at hx; rw [hx]; exact hu
  · intro x hx; rw [List.mem_singleton] at hx; rw [hx]; exact lrcOf_rng _
theorem ascW_some {dir u t : Int} {M : Msg} {b : List Int} (h : ascW dir u t M = some b) : t = 0 ∧ ∃ l, pduW dir M = some l ∧ b = ascB u l ∧ l.length ≤ 253 := by
  unfold ascW at h
  split at h
  · cases h
  · rename_i l hl
    have hle := pduW_len hl
    split at h
    · cases h
    · rename_i ht
      injection h with h
      exact ⟨by simpa using ht, l, hl, h.symm, hle⟩
theorem ascW_le {dir u t : Int} {M : Msg} {b : List Int} (hc : 0 ≤ M.code ∧ M.code < 256) (h : ascW dir u t M = some b) : 9 ≤ b.length ∧ b.length ≤ 513 := by
  obtain ⟨_, l, h1, rfl, h2⟩ := ascW_some h
  have := pduW_pos hc h1
  rw [ascB_len]
  omega
theorem ascB_cut (s : List Int) : (([58] ++ s) ++ [13, 10]).drop 1 = s ++ [13, 10] := rfl
theorem suf_app (s : List Int) : sufB (s ++ [13, 10]) = true := by
  unfold sufB
  have e : (((s ++ [13, 10]).length : Nat) : Int) = (s.length : Int) + 2 := by simp
  have e2 : ((s.length : Int) + 2 - 2).toNat = s.length := by omega
  rw [e, e2, List.drop_left' rfl]
  simp
  omega
theorem digS_app (s : List Int) : digS (([58] ++ s) ++ [13, 10]) = some s := by
  rw [digS_t rfl (by rw [ascB_cut]; exact suf_app s), ascB_cut]
  have e : (([58] ++ s) ++ [13, 10]).length - 3 = s.length := by simp
  rw [e, List.take_left' rfl]
theorem digS_inv {b s : List Int} (h : digS b = some s) : b = ([58] ++ s) ++ [13, 10] := by
  obtain ⟨h1, h2, rfl, h3⟩ := digS_some h
  cases b with
  | nil => simp at h3
  | cons a r =>
    have ha : a = 58 := h1
    subst ha
    have h2 : sufB r = true := h2
    have h4 := sufB_len h2
    unfold sufB at h2
    simp only [Bool.and_eq_true, decide_eq_true_eq] at h2
    have h5 := h2.2
    rw [show (((r.length : Nat) : Int) - 2).toNat = r.length - 2 from by omega] at h5
    show 58 :: r = 58 :: (r.take ((58 :: r).length - 3) ++ [13, 10])
    rw [show (58 :: r).length - 3 = r.length - 2 from by simp only [List.length_cons]; omega, ← h5, List.take_append_drop]
theorem lrcP_app (a b : List Int) : ∀ k, k ≤ a.length → lrcP (a ++ b) k = lrcP a k
  | 0, _ => rfl
  | k + 1, h => by
    unfold lrcP
    rw [lrcP_app a b k (by omega), List.getD_eq_getElem?_getD, List.getD_eq_getElem?_getD, List.getElem?_append_left (by omega)]
theorem lrcS_snoc (a : List Int) (c : Int) : lrcS (a ++ [c]) = (lrcS a + c) % 256 := by
  unfold lrcS
  have e : (a ++ [c]).length = a.length + 1 := by simp
  rw [e]
  show (lrcP (a ++ [c]) a.length + (a ++ [c]).getD a.length 0) % 256 = _
  rw [lrcP_app a [c] _ (Nat.le_refl _)]
  simp
theorem lrcIs_snoc {a : List Int} {c : Int} (hc : 0 ≤ c ∧ c < 256) : lrcIs (a ++ [c]) = true ↔ c = lrcOf a := by
  have h := lrcP_rng a a.length
  unfold lrcIs lrcOf
  rw [lrcS_snoc]
  have hs : lrcS a = lrcP a a.length := rfl
  simp only [Bool.and_eq_true, decide_eq_true_eq, beq_iff_eq, List.length_append, List.length_cons, List.length_nil]
  constructor
  · intro k; omega
  · intro k; omega
theorem lrcIs_X (u : Int) (l : List Int) : lrcIs (ascX u l) = true := (lrcIs_snoc (lrcOf_rng _)).2 rfl
theorem body_X (u : Int) (l : List Int) : ascBody (ascX u l) = l := by
  unfold ascBody
  rw [ascX_len, show l.length + 2 - 1 = ([u] ++ l).length from by simp]
  unfold ascX
  rw [List.take_left' rfl]
  rfl
theorem ascP_S {dir : Int} {s : List Int} (hd : dir = 0 ∨ dir = 1) (h : 6 ≤ s.length) (h2 : s.length ≤ 510) : ascP dir (([58] ++ s) ++ [13, 10]) = match takeH s with
      | none => (Frm.zero, 11)
      | some x => if !(lrcIs x) then (Frm.zero, 10) else frmOf (x.getD 0 0) 0 (pduP dir (ascBody x)) := by
  have hl : ((([58] ++ s) ++ [13, 10]).length : Int) = (s.length : Int) + 3 := by simp; omega
  unfold ascP
  rw [digS_app, hl]
  rw [if_neg (show ¬ (dir != 0 && dir != 1) = true by rcases hd with rfl | rfl <;> decide), if_neg (by simp only [decide_eq_true_eq]; omega), if_neg (by simp only [decide_eq_true_eq]; omega)]
  all_goals rfl
theorem ascP_B {dir u : Int} {l : List Int} (hd : dir = 0 ∨ dir = 1) (hu : 0 ≤ u ∧ u < 256) (hb : Byts l) (h : 0 < l.length) (h2 : l.length ≤ 253) : ascP dir (ascB u l) = frmOf u 0 (pduP dir l) := by
  rw [ascB_X, ascP_S hd (by rw [putH_len, ascX_len]; omega) (by rw [putH_len, ascX_len]; omega), takeH_put _ (ascX_byts hu hb)]
  show (if !(lrcIs (ascX u l)) then _ else _) = _
  rw [lrcIs_X, body_X]
  rfl
theorem asc_rt {dir u t : Int} {M : Msg} {b : List Int} (hd : dir = 0 ∨ dir = 1) (hu : 0 ≤ u ∧ u < 256) (hc : 0 ≤ M.code ∧ M.code < 256) (hf : 0 ≤ M.fail ∧ M.fail < 256) (hb : ∀ l, pduW dir M = some l → Byts l) (h : ascW dir u t M = some b) : ascP dir b = (⟨u, t, M⟩, 0) := by
  obtain ⟨rfl, l, h1, rfl, h2⟩ := ascW_some h
  rw [ascP_B hd hu (hb l h1) (pduW_pos hc h1) h2, pdu_rt hd hc hf h1]
  rfl
theorem x_shape {x : List Int} (h : 2 ≤ x.length) (hb : Byts x) (k : lrcIs x = true) : x = ascX (x.getD 0 0) (ascBody x) := by
  have hne : x ≠ [] := fun e => by rw [e] at h; simp at h
  obtain ⟨y, c, rfl⟩ : ∃ y c, x = y ++ [c] := ⟨x.dropLast, x.getLast hne, (List.dropLast_concat_getLast hne).symm⟩
  have hc := hb c (by simp)
  have h1 := (lrcIs_snoc hc).1 k
  cases y with
  | nil => simp at h
  | cons u l =>
    have e : ascBody ((u :: l) ++ [c]) = l := by
      unfold ascBody
      rw [show ((u :: l) ++ [c]).length - 1 = (u :: l).length from by simp, List.take_left' rfl]
      rfl
    rw [e]
    show (u :: l) ++ [c] = ([u] ++ l) ++ [lrcOf ([u] ++ l)]
    rw [h1]
    rfl
theorem ascP_few {dir : Int} {b : List Int} {F : Frm} {E : Int} (h : ascP dir b = (F, E)) : MsgFew F.msg ∧ (E ≠ 0 → F = Frm.zero) := by
  have hz : ∀ k : Int, ((Frm.zero, k) : Frm × Int) = (F, E) → MsgFew F.msg ∧ (E ≠ 0 → F = Frm.zero) := fun k h => by
    injection h with h1 h2
    subst h1
    exact ⟨few_zero, fun _ => rfl⟩
  unfold ascP at h
  split at h
  · exact hz _ h
  split at h
  · exact hz _ h
  split at h
  · exact hz _ h
  split at h
  · exact hz _ h
  split at h
  · exact hz _ h
  rename_i s _ x hx
  split at h
  · exact hz _ h
  cases hp : pduP dir (ascBody x) with
  | mk M E' =>
    rw [hp] at h
    obtain ⟨k1, k2⟩ := pduP_few (fun y hy => (takeH_some hx).2 y (List.mem_of_mem_take (List.mem_of_mem_drop hy))) hp
    have h : (if (E' != 0) = true then ((Frm.zero, E') : Frm × Int) else (⟨_, _, M⟩, 0)) = (F, E) := h
    split at h
    · exact hz _ h
    · injection h with h5 h6
      subst h5
      exact ⟨k1, fun hE => absurd h6.symm hE⟩
theorem asc_back {dir : Int} {b : List Int} {F : Frm} {E : Int} {r : Option (List Int)} (hd : dir = 0 ∨ dir = 1) (h : ascP dir b = (F, E)) (hE : (E == 0) = true) (hW : ascW dir F.unit F.tid F.msg = r) : r = some b ∧ 9 ≤ b.length ∧ b.length ≤ 513 := by
  obtain rfl : E = 0 := by simpa using hE
  unfold ascP at h
  split at h
  · cases h
  split at h
  · cases h
  rename_i h2
  split at h
  · cases h
  rename_i h3
  simp only [decide_eq_true_eq] at h2 h3
  cases hs : digS b with
  | none => rw [hs] at h; cases h
  | some s =>
  rw [hs] at h
  cases hx : takeH s with
  | none => dsimp only at h; rw [hx] at h; cases h
  | some x =>
  dsimp only at h
  rw [hx] at h
  dsimp only at h
  split at h
  · cases h
  rename_i h4
  have h4 : lrcIs x = true := by simpa using h4
  have hl := digS_len hs
  have hxl := takeH_len hx
  obtain ⟨e1, e2⟩ := takeH_some hx
  have hsh := x_shape (by omega) e2 h4
  cases hp : pduP dir (ascBody x) with
  | mk M E' =>
    rw [hp] at h
    have h : (if (E' != 0) = true then ((Frm.zero, E') : Frm × Int) else (⟨_, _, M⟩, 0)) = (F, 0) := h
    split at h
    · rename_i h5
      injection h with _ h6
      subst h6
      cases h5
    · rename_i h5
      injection h with h6 _
      subst h6
      obtain rfl : E' = 0 := by simpa using h5
      have h7 : pduW dir M = some (ascBody x) := pdu_back hd (fun y hy => e2 y (List.mem_of_mem_take (List.mem_of_mem_drop hy))) hp
      rw [← hW]
      refine ⟨?_, by omega, by omega⟩
      show ascW dir (x.getD 0 0) 0 M = _
      unfold ascW
      rw [h7]
      show some (ascB _ _) = _
      rw [ascB_X, ← hsh, ← e1, ← digS_inv hs]
theorem lrcP_set {x : List Int} {i : Nat} {v : Int} (hb : Byts x) (hi : i < x.length) (hv : 0 ≤ v ∧ v < 256) : ∀ k, lrcP (x.set i v) k = if i < k then (lrcP x k - x.getD i 0 + v) % 256 else lrcP x k
  | 0 => by simp [lrcP]
  | k + 1 => by
    have hk := lrcP_set hb hi hv k
    have hr := lrcP_rng x k
    unfold lrcP
    rw [hk]
    by_cases e : i = k
    · subst e
      rw [if_neg (by omega), if_pos (by omega)]
      rw [List.getD_eq_getElem?_getD, List.getElem?_set_self hi]
      show (lrcP x i + v) % 256 = _
      omega
    · have e2 : (x.set i v).getD k 0 = x.getD k 0 := by rw [List.getD_eq_getElem?_getD, List.getElem?_set_ne e, ← List.getD_eq_getElem?_getD]
      rw [e2]
      split
      · rw [if_pos (by omega)]; omega
      · rw [if_neg (by omega)]
theorem lrc_set {x : List Int} {i : Nat} {v : Int} (hb : Byts x) (hi : i < x.length) (hv : 0 ≤ v ∧ v < 256) (hne : v ≠ x.getD i 0) (h : lrcIs x = true) : lrcIs (x.set i v) = false := by
  have hg : 0 ≤ x.getD i 0 ∧ x.getD i 0 < 256 := by
    rw [List.getD_eq_getElem?_getD, List.getElem?_eq_getElem hi]
    exact hb _ (List.getElem_mem hi)
  have h1 := lrcP_set hb hi hv x.length
  rw [if_pos hi] at h1
  have h2 := lrcP_rng x x.length
  cases e : lrcIs (x.set i v) with
  | false => rfl
  | true =>
    unfold lrcIs lrcOf lrcS at h e
    rw [List.length_set, h1] at e
    simp only [Bool.and_eq_true, decide_eq_true_eq, beq_iff_eq] at h e
    omega
theorem putH_get (x : List Int) : ∀ (i : Nat), i < x.length → (putH x).getD (2 * i) 0 = hexD (x.getD i 0 / 16) ∧ (putH x).getD (2 * i + 1) 0 = hexD (x.getD i 0 % 16) := by
  induction x with
  | nil => intro i hi; simp at hi
  | cons c x ih =>
    intro i hi
    cases i with
    | zero => exact ⟨rfl, rfl⟩
    | succ i =>
      have := ih i (by simpa using hi)
      simpa [putH, Nat.mul_add] using this
theorem takeH_set {x : List Int} (hb : Byts x) : ∀ {j : Nat} {c : Int}, j < 2 * x.length → c ≠ (putH x).getD j 0 → takeH ((putH x).set j c) = none ∨ ∃ v, takeH ((putH x).set j c) = some (x.set (j / 2) v) ∧ (0 ≤ v ∧ v < 256) ∧ v ≠ x.getD (j / 2) 0 := by
  induction x with
  | nil => intro j c hj; simp at hj
  | cons a x ih =>
    intro j c hj hc
    have ha := hb a (List.mem_cons_self ..)
    have h1 := digV_hexD (n := a / 16) (by omega)
    have h2 := digV_hexD (n := a % 16) (by omega)
    have hx : Byts x := fun y hy => hb y (List.mem_cons_of_mem _ hy)
    match j, hj, hc with
    | 0, _, hc =>
      have hc : c ≠ hexD (a / 16) := hc
      show takeH (c :: hexD (a % 16) :: putH x) = none ∨ ∃ v, takeH (c :: hexD (a % 16) :: putH x) = some (v :: x) ∧ _ ∧ v ≠ a
      simp only [takeH]
      rw [h2, takeH_put x hx]
      by_cases hd : digV c < 0
      · left; rw [if_pos (Or.inl hd)]
      · right
        have h3 := hexD_digV (c := c) (by omega)
        rw [if_neg (by omega)]
        refine ⟨_, rfl, by omega, fun e => hc ?_⟩
        rw [← h3.1, show digV c = a / 16 from by omega]
    | 1, _, hc =>
      have hc : c ≠ hexD (a % 16) := hc
      show takeH (hexD (a / 16) :: c :: putH x) = none ∨ ∃ v, takeH (hexD (a / 16) :: c :: putH x) = some (v :: x) ∧ _ ∧ v ≠ a
      simp only [takeH]
      rw [h1, takeH_put x hx]
      by_cases hd : digV c < 0
      · left; rw [if_pos (Or.inr hd)]
      · right
        have h3 := hexD_digV (c := c) (by omega)
        rw [if_neg (by omega)]
        refine ⟨_, rfl, by omega, fun e => hc ?_⟩
        rw [← h3.1, show digV c = a % 16 from by omega]
    | j + 2, hj, hc =>
      have hc : c ≠ (putH x).getD j 0 := hc
      have := ih hx (j := j) (c := c) (by simp only [List.length_cons] at hj; omega) hc
      show takeH (hexD (a / 16) :: hexD (a % 16) :: (putH x).set j c) = none ∨ ∃ v, takeH (hexD (a / 16) :: hexD (a % 16) :: (putH x).set j c) = some ((a :: x).set ((j + 2) / 2) v) ∧ _ ∧ v ≠ (a :: x).getD ((j + 2) / 2) 0
      simp only [takeH]
      rw [h1, h2, if_neg (by omega)]
      rcases this with h | ⟨v, h, hv, hne⟩
      · left; rw [h]; rfl
      · right
        rw [h, show (j + 2) / 2 = j / 2 + 1 from by omega]
        exact ⟨v, by rw [show (16 * (a / 16) + a % 16) % 256 = a from by omega]; rfl, hv, hne⟩
theorem asc_sign {dir u t : Int} {M : Msg} {b : List Int} (hd : dir = 0 ∨ dir = 1) (hu : 0 ≤ u ∧ u < 256) (hc : 0 ≤ M.code ∧ M.code < 256) (hb : ∀ l, pduW dir M = some l → Byts l) (h : ascW dir u t M = some b) {k : Nat} (hk : k < b.length) {c : Int} (hne : c ≠ b.getD k 0) {F : Frm} {E : Int} (hP : ascP dir (b.set k c) = (F, E)) : F = Frm.zero ∧ (E = 12 ∨ E = 11 ∨ E = 10) := by
  obtain ⟨rfl, l, h1, rfl, h2⟩ := ascW_some h
  have hl0 := pduW_pos hc h1
  have hlen := ascB_len u l
  have hX := ascX_byts hu (hb l h1)
  have hsl : (putH (ascX u l)).length = 2 * (l.length + 2) := by rw [putH_len, ascX_len]
  have h12 : digS ((ascB u l).set k c) = none → F = Frm.zero ∧ (E = 12 ∨ E = 11 ∨ E = 10) := fun hn => by
    unfold ascP at hP
    rw [hn, List.length_set, hlen, if_neg (show ¬ (dir != 0 && dir != 1) = true by rcases hd with rfl | rfl <;> decide), if_neg (by simp only [decide_eq_true_eq]; omega), if_neg (by simp only [decide_eq_true_eq]; omega)] at hP
    injection hP with e1 e2
    exact ⟨e1.symm, Or.inl e2.symm⟩
  by_cases hk0 : k = 0
  · subst hk0
    refine h12 (digS_f1 fun e => hne ?_)
    rw [List.getD_eq_getElem?_getD, List.getElem?_set_self hk] at e
    exact e
  by_cases hk2 : k < 1 + (putH (ascX u l)).length
  · obtain ⟨j, rfl⟩ : ∃ j, k = j + 1 := ⟨k - 1, by omega⟩
    have e1 : (ascB u l).set (j + 1) c = ([58] ++ (putH (ascX u l)).set j c) ++ [13, 10] := by
      rw [ascB_X]
      show 58 :: ((putH (ascX u l) ++ [13, 10]).set j c) = 58 :: ((putH (ascX u l)).set j c ++ [13, 10])
      rw [List.set_append_left _ _ (by omega)]
    have e2 : (ascB u l).getD (j + 1) 0 = (putH (ascX u l)).getD j 0 := by
      rw [ascB_X]
      show (putH (ascX u l) ++ [13, 10]).getD j 0 = _
      rw [List.getD_eq_getElem?_getD, List.getElem?_append_left (by omega), ← List.getD_eq_getElem?_getD]
    rw [e1, ascP_S hd (by rw [List.length_set]; omega) (by rw [List.length_set]; omega)] at hP
    rw [e2] at hne
    rcases takeH_set hX (j := j) (c := c) (by rw [ascX_len]; omega) hne with h3 | ⟨v, h3, hv, hvn⟩
    · rw [h3] at hP
      injection hP with e3 e4
      exact ⟨e3.symm, Or.inr (Or.inl e4.symm)⟩
    · rw [h3] at hP
      have h4 := lrc_set hX (i := j / 2) (by rw [ascX_len]; omega) hv hvn (lrcIs_X u l)
      have hP : (if !(lrcIs ((ascX u l).set (j / 2) v)) then ((Frm.zero, 10) : Frm × Int) else _) = (F, E) := hP
      rw [h4] at hP
      injection hP with e3 e4
      exact ⟨e3.symm, Or.inr (Or.inr e4.symm)⟩
  · refine h12 (digS_f2 ?_)
    have e1 : ((ascB u l).set k c).drop 1 = putH (ascX u l) ++ [13, 10].set (k - 1 - (putH (ascX u l)).length) c := by
      obtain ⟨j, rfl⟩ : ∃ j, k = j + 1 := ⟨k - 1, by omega⟩
      rw [ascB_X]
      show (putH (ascX u l) ++ [13, 10]).set j c = _
      rw [List.set_append_right _ _ (by omega)]
      rfl
    have e2 : (ascB u l).getD k 0 = [13, 10].getD (k - 1 - (putH (ascX u l)).length) 0 := by
      obtain ⟨j, rfl⟩ : ∃ j, k = j + 1 := ⟨k - 1, by omega⟩
      rw [ascB_X]
      show (putH (ascX u l) ++ [13, 10]).getD j 0 = _
      rw [List.getD_eq_getElem?_getD, List.getElem?_append_right (by omega), ← List.getD_eq_getElem?_getD]
      rfl
    rw [e2] at hne
    unfold sufB
    rw [e1]
    have e5 : (((putH (ascX u l) ++ [13, 10].set (k - 1 - (putH (ascX u l)).length) c).length : Nat) : Int) - 2 = ((putH (ascX u l)).length : Int) := by simp only [List.length_append, List.length_set, List.length_cons, List.length_nil]; omega
    rw [e5, Int.toNat_natCast, List.drop_left' rfl]
    rw [Bool.and_eq_false_iff]
    right
    rw [decide_eq_false_iff_not]
    intro e
    generalize hq : k - 1 - (putH (ascX u l)).length = q at e hne
    have hq2 : q < 2 := by omega
    match q, hq2 with
    | 0, _ => injection e with e _; exact hne e
    | 1, _ => injection e with _ e; injection e with e _; exact hne e
theorem asc_ends {dir u t : Int} {M : Msg} {b : List Int} (hd : dir = 0 ∨ dir = 1) (hu : 0 ≤ u ∧ u < 256) (hc : 0 ≤ M.code ∧ M.code < 256) (hb : ∀ l, pduW dir M = some l → Byts l) (h : ascW dir u t M = some b) :
    ((b.length : Int) % 2 = 1 ∧ (b.length : Int) ≤ 513) ∧ (ascP dir (b.drop 1)).2 ≠ 0 ∧ (ascP dir (b.take (b.length - 1))).2 ≠ 0 ∧ (ascP dir (b.take (b.length - 2))).2 ≠ 0 := by
  obtain ⟨rfl, l, h1, rfl, h2⟩ := ascW_some h
  have hlen := ascB_len u l
  have hX := ascX_byts hu (hb l h1)
  have hsl : (putH (ascX u l)).length = 2 * (l.length + 2) := by rw [putH_len, ascX_len]
  have hno : ∀ z : List Int, digS z = none → (ascP dir z).2 ≠ 0 := fun z hz => by
    unfold ascP
    rw [hz]
    dsimp only
    rw [if_neg (show ¬ (dir != 0 && dir != 1) = true by rcases hd with rfl | rfl <;> decide)]
    split
    · decide
    split
    · decide
    · decide
  have h58 : ∀ n : Int, 0 ≤ n ∧ n < 16 → 48 ≤ hexD n ∧ hexD n ≠ 58 := fun n hn => by unfold hexD; split <;> omega
  have hg : ∀ i, i < (putH (ascX u l)).length → 48 ≤ (putH (ascX u l)).getD i 0 ∧ (putH (ascX u l)).getD i 0 ≠ 58 := fun i hi => by
    have h3 := putH_get (ascX u l) (i / 2) (by rw [ascX_len]; omega)
    have h4 : 0 ≤ (ascX u l).getD (i / 2) 0 ∧ (ascX u l).getD (i / 2) 0 < 256 := by
      have hi2 : i / 2 < (ascX u l).length := by rw [ascX_len]; omega
      rw [List.getD_eq_getElem?_getD, List.getElem?_eq_getElem hi2]
      exact hX _ (List.getElem_mem hi2)
    have h5 := h58 ((ascX u l).getD (i / 2) 0 / 16) (by omega)
    have h6 := h58 ((ascX u l).getD (i / 2) 0 % 16) (by omega)
    rcases Nat.mod_two_eq_zero_or_one i with e | e
    · rw [show 2 * (i / 2) = i from by omega] at h3; rw [h3.1]; exact h5
    · rw [show 2 * (i / 2) + 1 = i from by omega] at h3; rw [h3.2]; exact h6
  have hno2 : ∀ z : List Int, (∀ s, z ≠ ([58] ++ s) ++ [13, 10]) → (ascP dir z).2 ≠ 0 := fun z hz => hno z (by
    cases e : digS z with
    | none => rfl
    | some s => exact absurd (digS_inv e) (hz s))
  have hlast : ∀ (z : List Int) (n : Nat) (v : Int), z.length = n + 1 → z.getD n 0 = v → v ≠ 10 → ∀ s, z ≠ ([58] ++ s) ++ [13, 10] := fun z n v hn hv h10 s e => by
    apply h10
    rw [← hv, e]
    have : (([58] ++ s) ++ [13, 10]).length = n + 1 := by rw [← e]; exact hn
    have hn2 : n = ([58] ++ s).length + 1 := by simp at this ⊢; omega
    rw [hn2, List.getD_eq_getElem?_getD, List.getElem?_append_right (by omega)]
    simp
  refine ⟨by rw [hlen]; omega, ?_, ?_, ?_⟩
  · refine hno _ (digS_f1 ?_)
    rw [ascB_X, ascB_cut]
    have h7 := hg 0 (by omega)
    rw [List.getD_eq_getElem?_getD, List.getElem?_append_left (by omega), ← List.getD_eq_getElem?_getD]
    exact h7.2
  · refine hno2 _ (hlast _ ((ascB u l).length - 2) 13 (by rw [List.length_take]; omega) ?_ (by decide))
    rw [hlen, ascB_X, List.getD_eq_getElem?_getD, List.getElem?_take, if_pos (by omega), List.getElem?_append_right (by simp; omega)]
    have e : 2 * l.length + 7 - 2 - ([58] ++ putH (ascX u l)).length = 0 := by simp only [List.length_append, List.length_cons, List.length_nil]; omega
    rw [e]
    rfl
  · have h7 := hg ((putH (ascX u l)).length - 1) (by omega)
    refine hno2 _ (hlast _ ((ascB u l).length - 3) ((putH (ascX u l)).getD ((putH (ascX u l)).length - 1) 0) (by rw [List.length_take]; omega) ?_ (by omega))
    rw [hlen, ascB_X, List.getD_eq_getElem?_getD, List.getElem?_take, if_pos (by omega), List.getElem?_append_left (by simp; omega)]
    rw [show 2 * l.length + 7 - 3 = ((putH (ascX u l)).length - 1) + 1 from by omega]
    show ((putH (ascX u l))[(putH (ascX u l)).length - 1]?).getD 0 = _
    rw [List.getD_eq_getElem?_getD]
open Go.RowKit
theorem asc_rt2 {dir u t : Int} {M : Msg} {b : List Int} {F : Frm} {E : Int} (hd : dir = 0 ∨ dir = 1) (hu : 0 ≤ u ∧ u < 256) (hc : 0 ≤ M.code ∧ M.code < 256) (hf : 0 ≤ M.fail ∧ M.fail < 256) (hb : ∀ l, pduW dir M = some l → Byts l) (h : ascW dir u t M = some b) (hP : ascP dir b = (F, E)) : F = ⟨u, t, M⟩ ∧ E = 0 := by
  rw [asc_rt hd hu hc hf hb h] at hP
  injection hP with h1 h2
  exact ⟨h1.symm, h2.symm⟩
theorem set_same {l : List Int} {k : Nat} (h : k < l.length) : l.set k (l.getD k 0) = l := by
  apply List.ext_getElem?
  intro i
  by_cases e : k = i
  · subst e
    rw [List.getElem?_set_self h, List.getD_eq_getElem?_getD, List.getElem?_eq_getElem h]
    rfl
  · rw [List.getElem?_set_ne e]
open Go.RowKit
theorem OwnF.old {base : Nat} {w w' : World} {v : Value} {xs : List Int} (h : OwnF base w v xs) (hu : Upd [] w w') : OwnF base w' v xs := by
  obtain ⟨g, cap, cur, n, h1, h2, h3, h4⟩ := h
  exact ⟨g, cap, cur, n, h1, h2, hu.blk (by simp) h3, h4⟩
section
variable {P : Program} {n : Nat} {D : List Deferred} {F : Fr} {w : World} {K : Fr → World → Prop} {Q : Exit → Act → World → Prop} {d : Option Tmp} {t : TypeId} {s : String} {af : Array Edge} {gu : Option (Nat × Bool)}
theorem OstF {ty : TypeId} {x y : Operand} {base m c b off j : Nat} {A : Option Addr} {xs : List Int} (HO : OwnF base w (.slice A m c) xs) (hA : A = some ⟨b, off, none⟩) (hj : j < xs.length) (v : Int) (hv : 0 ≤ v ∧ v < 256)
    (h : ∀ w', OwnF base w' (.slice A m c) (xs.set j v) → Upd (ob A ++ []) w w' → K (pt d undef F) w') (hx : evo F x = some (.pointer (some ⟨b, off + j, none⟩)) := by kernel_rfl) (hy : evo F y = some (.int .u8 v) := by kernel_rfl) (hs : ((P.info? ty).map (·.size), dok n d) = (some 1, true) := by kernel_rfl) : OG P ⟨d, .store ty x y, t, s, af, gu⟩ n D F w K Q := by
  simp only [Prod.mk.injEq] at hs
  subst hA
  obtain ⟨g, cap, cur, n', hv', hb, hh, h1, h2, h3, h4, h5⟩ := HO
  injection hv' with e1 e2 e3
  injection e1 with e1
  injection e1 with e4 e5
  subst e4 e5 e2 e3
  obtain ⟨i, hi1, hi2⟩ := Option.map_eq_some_iff.1 hs.1
  have hlen : xs.length ≤ cur.size := by
    have := congrArg List.length h4
    simp at this
    omega
  have hlt : j < cur.size := by omega
  have hcell : w.cell? ⟨b, 0 + j, none⟩ = some cur[j] := by rw [blk_cell hh, Nat.zero_add]; simp [hlt]
  have hfr : w.frozen? ⟨b, 0 + j, none⟩ = false := by
    simp [World.frozen?, hh]
    omega
  refine ⟨fun a ha K' hK => OW.mk ?_⟩
  have hx' := ha.ev hx
  have hy' := ha.ev hy
  have hrun : (execOp a.eval ⟨d, .store ty x y, t, s, af, gu⟩).run P w = .ok .skip (w.setCell ⟨b, 0 + j, none⟩ (.int .u8 v)) := by
    unfold execOp
    simp only [hx', hy', Instr.storeAt, Instr.sureAddr, Sem.run_bind, Sem.run_pure, Result.andThen_ok, storeVar, sizeOf, typeInfo]
    simp_all [Value.oneCell', Value.cells, Sem.run, Result.andThen, storeCells, store, Addr.add, program]
  unfold Oper.wp
  rw [hrun]
  refine hK _ _ _ (h _ ?_ ?_) (ha.put hs.2)
  · refine ⟨b, c, _, n', by simp, hb, blk_set hh (0 + j) _, by simpa using h1, by simpa using h2, h3, ?_, fun y hy => ?_⟩
    · rw [List.length_set, List.map_set, ← h4, Nat.zero_add]
      simp [List.take_set]
    · rcases List.mem_or_eq_of_mem_set hy with hy | rfl
      · exact h5 y hy
      · exact hv
  · refine (Upd.refl _ w).setCell (p := ⟨b, 0 + j, none⟩) (.inl ?_) _
    simp [ob]
end
end Go.Proofs.YtgjlbabefogepaaGreat
