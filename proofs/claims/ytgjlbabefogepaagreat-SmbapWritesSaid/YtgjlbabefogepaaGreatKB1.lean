/- Contracts of functions, part KB1. -/
import Derived.Test.YtgjlbabefogepaaGreatKA1
import Derived.Test.YtgjlbabefogepaaGreatKA2
import Derived.Test.YtgjlbabefogepaaGreatKA3
import Derived.Test.YtgjlbabefogepaaGreatKA4
import Derived.Test.YtgjlbabefogepaaGreatKA5
import Derived.Deep.Upon
import Derived.SizedLaws
import Derived.Laws.StructEq
set_option linter.unusedVariables false
set_option linter.unusedSimpArgs false
namespace Go.Proofs.YtgjlbabefogepaaGreat
open Go.RowKit
structure Frm where
  unit : Int
  tid : Int
  msg : Msg
def Frm.zero : Frm := ⟨0, 0, Msg.zero⟩
def FrmRd (m : Bool) (w : World) (cs : Array Value) (F : Frm) : Prop := ∃ c : Array Value, cs = #[.int .u8 F.unit, .int .u16 F.tid] ++ c ∧ MsgRd m w c.toList F.msg ∧ B8 F.unit ∧ B16 F.tid
def PFrm (res : Frm × Int) (w : World) (e : Ending) (w' : World) : Prop := ∃ cs, e = .returned (.tuple #[.agg cs, .int .i64 res.2]) ∧ FrmRd true w' cs res.1 ∧ Upd [] w w'
theorem pf_eq {x y : Frm × Int} (h : x = y) {w : World} {e : Ending} {w' : World} (k : PFrm y w e w') : PFrm x w e w' := by rw [h]; exact k
def frmZ : Array Value := #[.int .u8 0, .int .u16 0, .int .u8 0, .int .u8 0, .int .u16 0, .int .u16 0, .int .u16 0, .int .u16 0, .int .u16 0, .int .u16 0, .int .u16 0, .int .u16 0, .int .u16 0, .int .u16 0, .slice none 0 0, .slice none 0 0, .slice none 0 0, .slice none 0 0, .int .u8 0, .int .u8 0, .int .u8 0, .int .u8 0, .int .u8 0, .slice none 0 0]
theorem bad_frm {x : Int} {w W : World} (hu : Upd [] w W) : PFrm (Frm.zero, x) w (.returned (.tuple #[.agg frmZ, .int .i64 x])) W := ⟨_, rfl, ⟨msgZ, (by kernel_rfl), MsgRd.zero .., (show (0 : Int) ≤ 0 ∧ (0 : Int) < 256 from by decide), (show (0 : Int) ≤ 0 ∧ (0 : Int) < 65536 from by decide)⟩, hu⟩
def frmOf (u t : Int) : Msg × Int → Frm × Int
  | (M, E) => if E != 0 then (Frm.zero, E) else (⟨u, t, M⟩, 0)
theorem pduW_len {dir : Int} {M : Msg} {l : List Int} (h : pduW dir M = some l) : l.length ≤ 253 := by
  unfold pduW at h
  split at h
  · split at h
    · cases h
    · unfold refW at h
      split at h
      · cases h
      · split at h
        · cases h
        · injection h with h
          subst h
          simp only [List.length_cons, List.length_nil]
          omega
  · split at h
    · cases h
    · split at h
      · cases h
      · rename_i hl
        injection h with h
        subst h
        simp only [decide_eq_true_eq] at hl
        simp only [List.length_append, List.length_cons, List.length_nil]
        omega
open Go.RowKit
deriving instance DecidableEq for Frm
def fcl (u t : Int) (M : Msg) (x : SL) : Array Value := #[.int .u8 u, .int .u16 t, .int .u8 M.code, .int .u8 M.fail, .int .u16 M.addr, .int .u16 M.count, .int .u16 M.value, .int .u16 M.and_, .int .u16 M.or_, .int .u16 M.addr2, .int .u16 M.sub, .int .u16 M.status, .int .u16 M.events, .int .u16 M.messages, .slice x.aw M.words.length x.kw, .slice x.ab M.bits.length x.kb, .slice x.ad M.data.length x.kd, .slice x.ar M.recs.length x.kr, .int .u8 M.mei, .int .u8 M.kind, .int .u8 M.level, .int .u8 M.more, .int .u8 M.next, .slice x.ao M.objects.length x.ko]
theorem fcl_eq (u t : Int) (M : Msg) (x : SL) : fcl u t M x = #[.int .u8 u, .int .u16 t] ++ mcl M x := by kernel_rfl
open Go.RowKit
structure Ev where
  e : Int
  f : Frm
def Ev.bad (e : Int) : Ev := ⟨e, Frm.zero⟩
def evl (x : Ev) (s : SL) : Array Value := #[.int .i64 x.e, .int .u8 x.f.unit, .int .u16 x.f.tid, .int .u8 x.f.msg.code, .int .u8 x.f.msg.fail, .int .u16 x.f.msg.addr, .int .u16 x.f.msg.count, .int .u16 x.f.msg.value, .int .u16 x.f.msg.and_, .int .u16 x.f.msg.or_, .int .u16 x.f.msg.addr2, .int .u16 x.f.msg.sub, .int .u16 x.f.msg.status, .int .u16 x.f.msg.events, .int .u16 x.f.msg.messages, .slice s.aw x.f.msg.words.length s.kw, .slice s.ab x.f.msg.bits.length s.kb, .slice s.ad x.f.msg.data.length s.kd, .slice s.ar x.f.msg.recs.length s.kr, .int .u8 x.f.msg.mei, .int .u8 x.f.msg.kind, .int .u8 x.f.msg.level, .int .u8 x.f.msg.more, .int .u8 x.f.msg.next, .slice s.ao x.f.msg.objects.length s.ko]
theorem evl_eq (x : Ev) (s : SL) : evl x s = #[.int .i64 x.e] ++ fcl x.f.unit x.f.tid x.f.msg s := by kernel_rfl
def evR (m : Bool) (w : World) (x : Ev) (cs : List Value) : Prop := ∃ s, cs = (evl x s).toList ∧ MsgRd m w (mcl x.f.msg s).toList x.f.msg ∧ (0 ≤ x.f.unit ∧ x.f.unit < 256) ∧ (0 ≤ x.f.tid ∧ x.f.tid < 65536)
def frR (m : Bool) (w : World) (f : Frm) (cs : List Value) : Prop := ∃ s, cs = (fcl f.unit f.tid f.msg s).toList ∧ MsgRd m w (mcl f.msg s).toList f.msg ∧ (0 ≤ f.unit ∧ f.unit < 256) ∧ (0 ≤ f.tid ∧ f.tid < 65536)
def byR (m : Bool) (w : World) (b : List Int) (cs : List Value) : Prop := ∃ v, cs = [v] ∧ RdB m w v b
abbrev RdE (m : Bool) (w : World) (v : Value) (xs : List Ev) : Prop := RdG m 61 25 (evR m) w v xs
abbrev OwnE (base : Nat) (w : World) (v : Value) (xs : List Ev) : Prop := OwnG base 61 25 (evR true) w v xs
theorem evR.upd {m : Bool} {w w' : World} {S : List Nat} (hu : Upd S w w') (hs : Safe m dataT S w) (x : Ev) (cs : List Value) (h : evR m w x cs) : evR m w' x cs := by
  obtain ⟨s, h1, h2, h3⟩ := h
  exact ⟨s, h1, h2.upd hu hs, h3⟩
theorem RdE.upd' {m : Bool} {w w' : World} {v : Value} {xs : List Ev} {S : List Nat} (h : RdE m w v xs) (hu : Upd S w w') (hs : Safe m (61 :: dataT) S w) : RdE m w' v xs := RdG.upd h hu (hs.sub fun t ht => by rw [List.mem_singleton] at ht; rw [ht]; exact List.mem_cons_self ..) (evR.upd hu (hs.sub fun t ht => List.mem_cons_of_mem _ ht))
theorem RdE.old {m : Bool} {w w' : World} {v : Value} {xs : List Ev} (h : RdE m w v xs) (hu : Upd [] w w') : RdE m w' v xs := h.upd' hu (Safe.nil _ _ _)
theorem evl_size (x : Ev) (s : SL) : (evl x s).toList.length = 25 := by kernel_rfl
theorem SL_nil {w : World} : MsgRd true w (mcl Msg.zero ⟨none, 0, none, 0, none, 0, none, 0, none, 0⟩).toList Msg.zero := MsgRd.zero ..
theorem litE {w0 w : World} {g : Nat} {cs : Array Value} {x : Ev} (hg : w0.heap.size ≤ g) (hb : w.heap[g]? = some (.cells cs 61 (0, 0))) (h : evR true w x cs.toList) : OwnE w0.heap.size w (.slice (some ⟨g, 0, none⟩) 1 1) [x] := by
  have hh := h
  obtain ⟨s, h1, h2⟩ := hh
  have hl : cs.toList.length = 25 := by rw [h1]; exact evl_size x s
  clear h1
  refine ⟨cs.toList, ⟨hl, .inr ⟨g, 1, cs, rfl, hg, hb, Nat.le_refl _, by unfold maxLen; omega, by simpa using hl, by rw [List.take_of_length_le]; exact Nat.le_of_eq hl⟩⟩, fun j y hj => ?_⟩
  cases j with
  | succ j => simp at hj
  | zero =>
    have hj : x = y := by simpa using hj
    subst hj
    exact ⟨cs.toList, hl, h, fun i u hi => by simpa using hi⟩
theorem x64 {α β γ δ ε ζ : Sort _} {C : Prop} {P1 P2 P3 P4 : α → β → γ → δ → ε → ζ → Prop} (h : ∃ a b c d e f, P1 a b c d e f ∧ P2 a b c d e f ∧ P3 a b c d e f ∧ P4 a b c d e f) (k : ∀ a b c d e f, P1 a b c d e f → P2 a b c d e f → P3 a b c d e f → P4 a b c d e f → C) : C :=
  let ⟨a, b, c, d, e, f, h1, h2, h3, h4⟩ := h; k a b c d e f h1 h2 h3 h4
theorem x45 {α β γ δ : Sort _} {C : Prop} {P1 P2 P3 P4 P5 : α → β → γ → δ → Prop} (h : ∃ a b c d, P1 a b c d ∧ P2 a b c d ∧ P3 a b c d ∧ P4 a b c d ∧ P5 a b c d) (k : ∀ a b c d, P1 a b c d → P2 a b c d → P3 a b c d → P4 a b c d → P5 a b c d → C) : C :=
  let ⟨a, b, c, d, h1, h2, h3, h4, h5⟩ := h; k a b c d h1 h2 h3 h4 h5
theorem el_sub {cs : Array Value} {o n k m : Nat} {sub sub2 : List Value} (hs : (cs.toList.drop o).take n = sub) (hv : (sub.drop k).take m = sub2) (hk : k + m ≤ n) : (cs.toList.drop (o + k)).take m = sub2 := by
  rw [← hv, ← hs, List.drop_take, List.take_take, List.drop_drop, Nat.min_eq_left (by omega)]
theorem evR.ones {m : Bool} {w : World} (x : Ev) (cs : List Value) (h : evR m w x cs) : ∀ v, v ∈ cs → v.oneCell' = true := by
  obtain ⟨s, h1, h2, _⟩ := h
  have h3 := h2.one
  intro v hv
  rw [h1, evl_eq, fcl_eq, Array.toList_append, Array.toList_append, List.mem_append, List.mem_append] at hv
  clear h1
  rw [Array.all_eq_true'] at h3
  rcases hv with hv | hv | hv
  · simp at hv; subst hv; rfl
  · simp at hv; rcases hv with rfl | rfl <;> rfl
  · exact h3 v (by simpa using hv)
theorem RdE.elt {m : Bool} {w : World} {A : Option Addr} {n c : Nat} {xs : List Ev} (h : RdE m w (.slice A n c) xs) (j : Nat) (hj : j < xs.length) (d : Ev) :
    ∃ b off cells t fr s, A = some ⟨b, off, none⟩ ∧ w.heap[b]? = some (.cells cells t fr) ∧ (MsgRd m w (mcl (xs.getD j d).f.msg s).toList (xs.getD j d).f.msg ∧ (0 ≤ (xs.getD j d).f.unit ∧ (xs.getD j d).f.unit < 256) ∧ (0 ≤ (xs.getD j d).f.tid ∧ (xs.getD j d).f.tid < 65536)) ∧ (cells.toList.drop (off + j * 25)).take 25 = (evl (xs.getD j d) s).toList := by
  obtain ⟨b, off, cells, t, fr, cs, h1, h2, h3, ⟨s, h4, h5⟩, h6⟩ := RdG.elt h d j hj
  exact ⟨b, off, cells, t, fr, s, h1, h2, h5, h6.trans h4⟩
abbrev RdF (m : Bool) (w : World) (v : Value) (xs : List Frm) : Prop := RdG m 47 24 (frR m) w v xs
abbrev RdBs (m : Bool) (w : World) (v : Value) (xs : List (List Int)) : Prop := RdG m 29 1 (byR m) w v xs
theorem frR.upd {m : Bool} {w w' : World} {S : List Nat} (hu : Upd S w w') (hs : Safe m dataT S w) (x : Frm) (cs : List Value) (h : frR m w x cs) : frR m w' x cs := by
  obtain ⟨s, h1, h2, h3⟩ := h
  exact ⟨s, h1, h2.upd hu hs, h3⟩
theorem RdF.old {m : Bool} {w w' : World} {v : Value} {xs : List Frm} (h : RdF m w v xs) (hu : Upd [] w w') : RdF m w' v xs := RdG.upd h hu (Safe.nil _ _ _) (frR.upd hu (Safe.nil _ _ _))
theorem RdF.elt {m : Bool} {w : World} {A : Option Addr} {n c : Nat} {xs : List Frm} (h : RdF m w (.slice A n c) xs) (j : Nat) (hj : j < xs.length) (d : Frm) :
    ∃ b off cells t fr s, A = some ⟨b, off, none⟩ ∧ w.heap[b]? = some (.cells cells t fr) ∧ (MsgRd m w (mcl (xs.getD j d).msg s).toList (xs.getD j d).msg ∧ (0 ≤ (xs.getD j d).unit ∧ (xs.getD j d).unit < 256) ∧ (0 ≤ (xs.getD j d).tid ∧ (xs.getD j d).tid < 65536)) ∧ (cells.toList.drop (off + j * 24)).take 24 = (fcl (xs.getD j d).unit (xs.getD j d).tid (xs.getD j d).msg s).toList := by
  obtain ⟨b, off, cells, t, fr, cs, h1, h2, h3, ⟨s, h4, h5⟩, h6⟩ := RdG.elt h d j hj
  exact ⟨b, off, cells, t, fr, s, h1, h2, h5, h6.trans h4⟩
theorem RdBs.old {m : Bool} {w w' : World} {v : Value} {xs : List (List Int)} (h : RdBs m w v xs) (hu : Upd [] w w') : RdBs m w' v xs := RdG.upd h hu (Safe.nil _ _ _) fun x cs ⟨v, h1, h2⟩ => ⟨v, h1, h2.old hu⟩
theorem RdBs.elt {m : Bool} {w : World} {A : Option Addr} {n c : Nat} {xs : List (List Int)} (h : RdBs m w (.slice A n c) xs) (j : Nat) (hj : j < xs.length) :
    ∃ b off A' c', A = some ⟨b, off, none⟩ ∧ w.cell? ⟨b, off + j, none⟩ = some (.slice A' (xs.getD j []).length c') ∧ RdB m w (.slice A' (xs.getD j []).length c') (xs.getD j []) ∧ (xs.getD j []).length ≤ c' ∧ c' ≤ maxLen := by
  obtain ⟨b, off, cells, t, fr, cs, h1, h2, h3, ⟨v, h4, h5⟩, h6⟩ := RdG.elt h [] j hj
  obtain ⟨A', c', rfl, h7, h8⟩ := h5.shape
  refine ⟨b, off, A', c', h1, ?_, h5, h7, h8⟩
  rw [blk_cell h2]
  rw [h4] at h6
  have h9 := congrArg (fun z => z[0]?) h6
  simpa using h9
open Go.RowKit
theorem run_min {P : Program} {w : World} {ev : Operand → Value} {o : Oper} {x y : Operand} {ts : Array TypeId} {k : IntKind} {a b : Int} (ho : o.op = .call { callee := .builtin .min, args := #[x, y], argTypes := ts }) (hx : ev x = .int k a) (hy : ev y = .int k b) : (execOp ev o).run P w = .ok (.value (.int k (min a b))) w := by
  have h : (Builtin.min_ ts o.type #[.int k a, .int k b]).run P w = .ok (.int k (min a b)) w := by
    simp [Builtin.min_, Builtin.min2]
    split <;> simp [Int.min_def] <;> omega
  unfold execOp
  simp only [ho, resolve, invoke, builtin, Sem.run_bind, Sem.run_pure, Result.andThen_ok, List.map_toArray, List.map_cons, List.map_nil, hx, hy, h]
theorem RdG.adr {α : Type} {m : Bool} {e : TypeId} {sz : Nat} {R : World → α → List Value → Prop} {w : World} {A : Option Addr} {n c : Nat} {xs : List α} (h : RdG m e sz R w (.slice A n c) xs) : 0 < n → ∃ b off, A = some ⟨b, off, none⟩ := fun hn => by
  obtain ⟨A', c', hv, hc1, hc2, h0, h3⟩ := h
  injection hv with e1 e2 e3
  subst e1 e2 e3
  obtain ⟨b, off, cells, t, fr, hA, _⟩ := h3 hn
  exact ⟨b, off, hA⟩
theorem RdG.cap {α : Type} {m : Bool} {e : TypeId} {sz : Nat} {R : World → α → List Value → Prop} {w : World} {A : Option Addr} {n c : Nat} {xs : List α} (h : RdG m e sz R w (.slice A n c) xs) : n ≤ c := by
  obtain ⟨A', c', hv, h1, _⟩ := h
  injection hv with _ e2 e3
  subst e2 e3
  exact h1
theorem run_full {P : Program} {w : World} {ev : Operand → Value} {o : Oper} {x y z : Operand} {t e : TypeId} {A : Option Addr} {n c : Nat} {k1 k2 : IntKind} {i1 i2 : Int} (ho : o.op = .slice t x none (some y) (some z)) (ht : P.underlying t = some (.slice e)) (hi : (P.info? e).map (·.size) = some 1)
    (hx : ev x = .slice A n c) (hy : ev y = .int k1 i1) (hz : ev z = .int k2 i2) (h1 : i1 = (n : Int)) (h2 : i2 = (n : Int)) (hc1 : n ≤ c) (hA : 0 < n → ∃ b off, A = some ⟨b, off, none⟩) : (execOp ev o).run P w = .ok (.value (.slice A n n)) w := by
  subst h1 h2
  obtain ⟨i0, hi0, hs⟩ := Option.map_eq_some_iff.1 hi
  have hel : P.elem t = e := by simp [Program.elem, ht]
  have hu : P.underlying t = some (.slice (P.elem t)) := by rw [hel]; exact ht
  have hr := run_slice_hm (P := P) w t A n c hu k1 k2 ((n : Nat) : Int) ((n : Nat) : Int) (by omega) (Int.le_refl _) (by omega)
  have hA : (if n = 0 then A else A.map (·.add 0)) = A := by
    split
    · rfl
    · rename_i hne
      obtain ⟨b, off, rfl⟩ := hA (by omega)
      rfl
  have hr2 : (Instr.slice t (.slice A n c) none (some (.int k1 ((n : Nat) : Int))) (some (.int k2 ((n : Nat) : Int)))).run P w = .ok (.slice A n n) w := by
    rw [hr, hel]
    simp [sizeOf, typeInfo, hi0, hs, sliced, Result.andThen]
    simpa using hA
  have hu2 : (underlying t).run P w = .ok (.slice e) w := run_underlying ht w
  unfold execOp
  simp only [ho, Option.map_some, Option.map_none, hx, hy, hz, Instr.sliceAt, Sem.run_bind, hu2, hr2, Result.andThen, Sem.run_pure]
theorem RdB.full {m : Bool} {w : World} {A : Option Addr} {n c : Nat} {xs : List Int} (h : RdB m w (.slice A n c) xs) : RdB m w (.slice A n n) xs := by
  obtain ⟨A', c', hv, hc1, hc2, h0, h3⟩ := h
  injection hv with e1 e2 e3
  subst e1 e2 e3
  refine ⟨A, xs.length, rfl, Nat.le_refl _, Nat.le_trans hc1 hc2, fun hA => ?_, h3⟩
  have := h0 hA
  omega
theorem src_none {P : Program} {A : Option Addr} {c : Nat} (w : World) : (Builtin.firstCells 1 0 (.slice A 0 c)).run P w = .ok #[] w := by
  cases A with
  | none => simp [Builtin.firstCells]
  | some a =>
    have := run_loadCells_list (P := P) w a [] (fun j v hj => by simp at hj)
    simpa [Builtin.firstCells] using this
theorem src_rd {P : Program} {m : Bool} {w : World} {t e : TypeId} {A : Option Addr} {n c : Nat} {ys : List Int} (ht : P.underlying t = some (.slice e)) (h : RdB m w (.slice A n c) ys) (h0 : ys = []) : Src P 1 t (.slice A n c) 0 [] w := by
  subst h0
  obtain ⟨A', c', hv, hc1, hc2, h0, h3⟩ := h
  injection hv with e1 e2 e3
  subst e1 e2 e3
  exact ⟨.inl ⟨e, ht⟩, fun w' => by simp [Builtin.lenOf], src_none w, src_none w.drew, rfl, fun u hu => by cases hu⟩
theorem run_append_full {P : Program} {m : Bool} {w : World} (t ty e : TypeId) (ht : P.underlying t = some (.slice e)) (hte : e = 5) (hinfo : (P.info? e).map (fun i => (i.zero, i.size, i.bytes)) = some (some (.int .u8 0), 1, 1))
    {A : Option Addr} {xs ys : List Int} (HX : RdB true w (.slice A xs.length xs.length) xs) {u : Value} (HY : RdB m w u ys) (hl : xs.length + ys.length ≤ 4194304) :
    ∃ v w', (Builtin.append_ #[t, t] ty #[.slice A xs.length xs.length, u]).run P w = .ok v w' ∧ RdB true w' v (xs ++ ys) ∧ Upd [] w w' := by
  subst hte
  obtain ⟨i0, hi, hz0, hz1, hz2⟩ := info_parts hinfo
  obtain ⟨B, c, rfl, hc1, hc2⟩ := HY.shape
  by_cases hy : ys = []
  · have hs := src_rd (P := P) ht HY hy
    subst hy
    rw [← hz1] at hs
    exact ⟨_, w, run_append_nothing w t t ty _ i0 ht hi A xs.length xs.length (Nat.le_refl _) _ hs, by simpa using HX, Upd.refl _ _⟩
  have hyl : 0 < ys.length := by
    cases ys with
    | nil => exact absurd rfl hy
    | cons a r => simp
  cases B with
  | none =>
    obtain ⟨B, c', hv, _, _, h0, h3⟩ := HY
    injection hv with e1 e2 e3
    subst e1 e3
    obtain ⟨b, off, cells, t, fr, hh, _⟩ := h3 hyl
    cases hh
  | some ad =>
    obtain ⟨_, hnews⟩ := cell_news one_u8.cell HY
    have hby : ∀ x, x ∈ xs ++ ys → 0 ≤ x ∧ x < 256 := fun x hx => by
      rcases List.mem_append.1 hx with h | h
      · exact HX.rng x h
      · exact HY.rng x h
    have fin : ∀ (cp : Nat) (w' : World) (zs : Array Value), xs.length + ys.length ≤ cp → cp ≤ maxLen → w'.heap[w.heap.size]? = some (.cells (((xs ++ ys).map (Value.int .u8)).toArray ++ zs) 5 (0, 0)) → RdB true w' (.slice (some ⟨w.heap.size, 0, none⟩) (xs.length + ys.length) cp) (xs ++ ys) := fun cp w' zs h1 h2 h3 => by
      refine ⟨_, cp, by rw [List.length_append], by rw [List.length_append]; exact h1, h2, (fun hA => by cases hA), fun hp => ⟨w.heap.size, 0, _, _, _, rfl, h3, fun _ => rfl, fun j x hj => ?_⟩⟩
      refine ⟨[.int .u8 x], rfl, ⟨rfl, hby x (List.mem_of_getElem? hj)⟩, fun i u hi => ?_⟩
      cases i with
      | succ i => simp at hi
      | zero =>
        have hi : Value.int .u8 x = u := by simpa using hi
        subst hi
        have hlt := (List.getElem?_eq_some_iff.1 hj).1
        rw [Array.getElem?_append_left (by simp; simpa using hlt)]
        simp only [Nat.zero_add, Nat.mul_one, Nat.add_zero]
        rw [List.getElem?_toArray, List.getElem?_map, hj]
        rfl
    cases A with
    | none =>
      have hx0 : xs = [] := by
        obtain ⟨B, c', hv, _, _, h0, h3⟩ := HX
        injection hv with e1 e2 e3
        subst e1
        have := h0 rfl
        exact List.eq_nil_of_length_eq_zero (by omega)
      subst hx0
      have hr := run_append_nil (P := P) w t ty _ i0 (.int .u8 0) ht hi hz0 ad ys.length c (ys.map (Value.int .u8)) (by rw [hz1]; simp) hnews hyl (by omega) (by rw [hz2]; omega)
      refine ⟨_, _, hr, ?_, ((Upd.refl _ _).drew).alloc _⟩
      have := fin (grownCap w ys.length 0 5) (w.drew.alloc (.cells ((ys.map (Value.int .u8)).toArray ++ Builtin.zeroCells (Value.int .u8 0).cells (grownCap w ys.length 0 5 - ys.length)) 5)) (Builtin.zeroCells (Value.int .u8 0).cells (grownCap w ys.length 0 5 - ys.length)) (by simpa using grownCap_ge w ys.length 0 _) (grownCap_le_maxLen _ _ _ _ (by unfold maxLen; omega)) (by simpa using blk_new w.drew _)
      simpa using this
    | some bd =>
      obtain ⟨_, holds⟩ := cell_news one_u8.cell HX
      have hr := run_append_grow (P := P) w t ty _ i0 (.int .u8 0) ht hi hz0 bd xs.length xs.length (xs.map (Value.int .u8)) (by rw [hz1]; simp) holds ad ys.length c (ys.map (Value.int .u8)) (by rw [hz1]; simp) hnews (by omega) (by omega) (by
        rw [hz2]
        have := nextslicecap_le (need := xs.length + ys.length) (old := xs.length) (by omega)
        omega)
      refine ⟨_, _, hr, ?_, ((Upd.refl _ _).drew).alloc _⟩
      refine fin (grownCap w (xs.length + ys.length) xs.length 5) _ (Builtin.zeroCells (Value.int .u8 0).cells (grownCap w (xs.length + ys.length) xs.length 5 - (xs.length + ys.length))) (grownCap_ge w _ _ _) (grownCap_le_maxLen _ _ _ _ (by unfold maxLen; omega)) ?_
      simpa using blk_new w.drew _
section
variable {P : Program} {n : Nat} {D : List Deferred} {F : Fr} {w : World} {K : Fr → World → Prop} {Q : Exit → Act → World → Prop} {d : Option Tmp} {t : TypeId} {s : String} {af : Array Edge} {gu : Option (Nat × Bool)}
theorem Oapc {ty : TypeId} {x y : Operand} {m : Bool} {A : Option Addr} {xs ys : List Int} {u : Value} (HX : RdB true w (.slice A xs.length xs.length) xs) (HY : RdB m w u ys) (hl : xs.length + ys.length ≤ 4194304)
    (h : ∀ A' cp w', RdB true w' (.slice A' (xs ++ ys).length cp) (xs ++ ys) → Upd [] w w' → K (pt d (.slice A' (xs ++ ys).length cp) F) w') (hx : evo F x = some (.slice A xs.length xs.length) := by kernel_rfl) (hy : evo F y = some u := by kernel_rfl)
    (hs : (slE P ty, (P.info? 5).map (fun i => (i.zero, i.size, i.bytes)), dok n d) = (some 5, some (some (.int .u8 0), 1, 1), true) := by kernel_rfl) : OG P ⟨d, .call { callee := .builtin .append, args := #[x, y], argTypes := #[ty, ty] }, t, s, af, gu⟩ n D F w K Q := by
  simp only [Prod.mk.injEq] at hs
  obtain ⟨h1, h2, h3⟩ := hs
  obtain ⟨v, w', hr, hv, hu⟩ := run_append_full (P := P) (w := w) ty t _ (slE_some h1) rfl h2 HX HY hl
  obtain ⟨A', cp, rfl, _, _⟩ := hv.shape
  refine ⟨fun a ha K' hK => OW.mk ?_⟩
  have hx' := ha.ev hx
  have hy' := ha.ev hy
  unfold Oper.wp execOp
  simp only [resolve, invoke, builtin, Sem.run_bind, Sem.run_pure, Result.andThen_ok, List.map_toArray, List.map_cons, List.map_nil, hx', hy', hr]
  exact hK _ _ _ (h A' cp w' hv hu) (ha.put h3)
end
open Go.RowKit
theorem src_none' {P : Program} {sz : Nat} {A : Option Addr} {c : Nat} (w : World) : (Builtin.firstCells sz 0 (.slice A 0 c)).run P w = .ok #[] w := by
  cases A with
  | none => simp [Builtin.firstCells]
  | some a =>
    have := run_loadCells_list (P := P) w a [] (fun j v hj => by simp at hj)
    simpa [Builtin.firstCells] using this
theorem not_typeX {α : Type} {base sz : Nat} {e t : TypeId} {R : World → α → List Value → Prop} {w : World} {A : Option Addr} {n c g : Nat} {xs : List α} (hb : ∃ cs fr, w.heap[g]? = some (.cells cs t fr)) (h : OwnG base e sz R w (.slice A n c) xs) (ht : (t == e) = false) : g ∉ ob A := by
  obtain ⟨cs, fr, hb⟩ := hb
  exact not_type hb h ht
theorem rows_from {β : Type} {base2 sz2 : Nat} {e2 : TypeId} {R2 : World → β → List Value → Prop} {A A2 B : Option Addr} {w wY : World} {n c : Nat} {ys : List β} (hat : ∀ g, g ∈ ob A2 → g ∈ ob A ∨ w.heap.size ≤ g) (h1 : ∀ x, x ∈ ob A → x ∉ ob B) (hY : OwnG base2 e2 sz2 R2 wY (.slice B n c) ys) (hs : wY.heap.size ≤ w.heap.size) : ∀ x, x ∈ ob A2 → x ∉ ob B := fun x hx => by
  rcases hat x hx with h | h
  · exact h1 x h
  · exact fun hb => by have := ob_lt hY x hb; omega
section
variable {P : Program} {n : Nat} {D : List Deferred} {F : Fr} {w : World} {K : Fr → World → Prop} {Q : Exit → Act → World → Prop} {d : Option Tmp} {t : TypeId} {s : String} {af : Array Edge} {gu : Option (Nat × Bool)}
theorem Oape {α : Type} {R : World → α → List Value → Prop} {x y : Operand} {e : TypeId} {base m c : Nat} {A : Option Addr} {xs ys : List α} {mm : Bool} {e' ty : TypeId} {u : Value} (z : Value) (sz bytes : Nat) (HO : OwnG base e sz R w (.slice A m c) xs) (HY : RdG mm e' sz R w u ys)
    (hone : ∀ x cs, R w x cs → ∀ v, v ∈ cs → v.oneCell' = true) (hRU : ∀ w', Upd (ob A ++ []) w w' → ∀ x cs, R w x cs → R w' x cs)
    (hl : xs.length + ys.length ≤ 4194304) (hbase : base ≤ w.heap.size) (h : ∀ A' c' w', OwnG base e sz R w' (.slice A' (xs ++ ys).length c') (xs ++ ys) → Upd (ob A ++ []) w w' → (∀ g, g ∈ ob A' → g ∈ ob A ∨ w.heap.size ≤ g) → K (pt d (.slice A' (xs ++ ys).length c') F) w')
    (hx : evo F x = some (.slice A m c) := by kernel_rfl) (hy' : evo F y = some u := by kernel_rfl) (he : slE P ty = some e := by kernel_rfl) (hs : (infA P ty, z.cells.size, (dok n d && Nat.ble bytes 65536) && Nat.blt 0 sz) = (some (some z, sz, bytes), sz, true) := by kernel_rfl) : OG P ⟨d, .call { callee := .builtin .append, args := #[x, y], argTypes := #[ty, ty] }, t, s, af, gu⟩ n D F w K Q := by
  by_cases hne : ys = []
  · subst hne
    simp only [Prod.mk.injEq] at hs
    have h3 := and2 (and2 hs.2.2).1
    obtain ⟨A0, c0, e0, hc1, _⟩ := HO.rd.shape
    have e0 := e0.symm
    injection e0 with e1 e2 e3
    subst e2
    subst e1 e3
    obtain ⟨B, cB, rfl, _, _⟩ := HY.shape
    have hinf : (P.info? e).map (fun i => (i.zero, i.size, i.bytes)) = some (some z, sz, bytes) := by have := hs.1; unfold infA at this; rw [he] at this; exact this
    obtain ⟨i0, hi, hz0, hz1, hz2⟩ := info_parts hinf
    have hsr : Src P i0.size ty (.slice B 0 cB) 0 [] w := ⟨.inl ⟨e, slE_some he⟩, fun w' => by simp [Builtin.lenOf], src_none' w, src_none' w.drew, by simp, fun u hu => by cases hu⟩
    have hr := run_append_nothing w ty ty t _ i0 (slE_some he) hi A0 xs.length c0 hc1 _ hsr
    refine ⟨fun a ha K' hK => OW.mk ?_⟩
    have hx' := ha.ev hx
    have hy2 := ha.ev hy'
    simp only [List.length_nil] at hy2
    unfold Oper.wp execOp
    simp only [resolve, invoke, builtin, Sem.run_bind, Sem.run_pure, Result.andThen_ok, List.map_toArray, List.map_cons, List.map_nil, hx', hy2, hr]
    refine hK _ _ _ (h A0 c0 w (by rw [List.append_nil]; exact HO) (Upd.mono (S' := ob A0 ++ []) (Upd.refl [] w) (fun x hx => by cases hx)) (fun g hg => .inl hg)) ?_
    rw [List.append_nil]
    exact ha.put h3.1
  · have hy : 0 < ys.length := by
      cases ys with
      | nil => exact absurd rfl hne
      | cons a r => simp
    simp only [Prod.mk.injEq] at hs
    have h2 := and2 hs.2.2
    have h3 := and2 h2.1
    exact ⟨fun a ha K' hK => ow_appg2 z sz bytes rfl rfl (slE_some he) (by have := hs.1; unfold infA at this; rw [he] at this; exact this) hs.2.1 (by simpa using h2.2) xs (ha.ev hx) HO u ys (ha.ev hy') HY hy hone hRU hl (by simpa using h3.2) hbase fun A' c' w' hO hu hat => hK _ _ _ (h A' c' w' hO hu hat) (ha.put h3.1)⟩
end
open Go.RowKit
def mb0 (b : List Int) : Cur := ⟨b, false, 0⟩
def mb1 (b : List Int) : Cur := (mb0 b).wordsC 1
def mb2 (b : List Int) : Cur := (mb1 b).wordsC 1
def mb3 (b : List Int) : Cur := (mb2 b).wordsC 1
def mb4 (b : List Int) : Cur := (mb3 b).bytesC 1
def mbBody (b : List Int) : List Int := (mb4 b).bytesR (((mb4 b).l.length : Nat) : Int)
def mbapP (dir : Int) (b : List Int) : Frm × Int :=
  if dir != 0 && dir != 1 then (Frm.zero, 1)
  else if decide ((b.length : Int) < 8) then (Frm.zero, 2)
  else if decide (260 < (b.length : Int)) then (Frm.zero, 3)
  else if (mb1 b).wordV != 0 then (Frm.zero, 13)
  else if (mb2 b).wordV != (b.length : Int) - 6 then (Frm.zero, 5)
  else frmOf (mb3 b).byteV (mb0 b).wordV (pduP dir (mbBody b))
set_option maxRecDepth 100000 in
set_option maxHeartbeats 4000000 in
theorem mbap_parse0 {m : Bool} {A : Option Addr} {cp : Nat} {b : List Int} {w : World} {dir : Int} (hsl : RdB m w (.slice A b.length cp) b) (hb : b.length ≤ 1048576) :
    Calls Tryz.prog 76 #[.int .i64 dir, .slice A b.length cp] w (PFrm (mbapP dir b) w) := by
 have hln : (b.length : Int) ≤ 1048576 := by omega
 refine en 75 Tryz.func76 rfl <| sg <| L0 <| Oal #[.int .u8 0, .int .u16 0, .int .u8 0, .int .u8 0, .int .u16 0, .int .u16 0, .int .u16 0, .int .u16 0, .int .u16 0, .int .u16 0, .int .u16 0, .int .u16 0, .int .u16 0, .int .u16 0, .slice none 0 0, .slice none 0 0, .slice none 0 0, .slice none 0 0, .int .u8 0, .int .u8 0, .int .u8 0, .int .u8 0, .int .u8 0, .slice none 0 0] fun g10 w11 hg12 B13 hu14 => Pl 1 <| nt <| sq <| bk <| sg <| Pl 3 <| cu 3 [17] 20 (((dir != 0) && (dir != 1))) (fun K K16 => ?_) ?_
 refine bl 17 ((dir != 0)) (fun q15 => ?_) (fun q15 => ?_)
 have q15p := ne_of_bnei q15
 exact Pl 3 <| ce K16 (dir != 1) (by rw [q15]; rfl)
 have q15p := eq_of_bnei q15
 exact Pl 3 <| ce K16 false (by rw [q15]; rfl)
 refine Pl 1 <| nt <| cb (((dir != 0) && (dir != 1))) (fun q17 => ?_) (fun q17 => ?_)
 have q17a := (and_t q17).1
 have q17b := (and_t q17).2
 have q17ap := ne_of_bnei q17a
 have q17bp := ne_of_bnei q17b
 refine sg <| Pl 1 <| L0 <| Osw B13 #[.int .u8 0, .int .u16 0, .int .u8 0, .int .u8 0, .int .u16 0, .int .u16 0, .int .u16 0, .int .u16 0, .int .u16 0, .int .u16 0, .int .u16 0, .int .u16 0, .int .u16 0, .int .u16 0, .slice none 0 0, .slice none 0 0, .slice none 0 0, .slice none 0 0, .int .u8 0, .int .u8 0, .int .u8 0, .int .u8 0, .int .u8 0, .slice none 0 0] fun w18 B19 hu20 => Pl 1 <| nt <| rt <| br <| tr <| rct B19 (.int .i64 1) <| ?_
 have hs : mbapP dir b = (Frm.zero, 1) := by
   unfold mbapP
   (try simp only [q17, q17a, q17b, bs, if_true, if_false, decide_true, decide_false, frmOf, mb4, mb3, mb2, mb1, mb0, reduceIte])
   all_goals rfl
 refine pf_eq hs ?_
 have U21 := u1 hu14 hu20 (nr hg12)
 exact bad_frm U21
 refine sg <| Pl 4 <| nt <| cb ((decide (((b.length : Nat) : Int) < 8))) (fun q22 => ?_) (fun q22 => ?_)
 have q22p := of_decide_eq_true q22
 refine sg <| Pl 1 <| L0 <| Osw B13 #[.int .u8 0, .int .u16 0, .int .u8 0, .int .u8 0, .int .u16 0, .int .u16 0, .int .u16 0, .int .u16 0, .int .u16 0, .int .u16 0, .int .u16 0, .int .u16 0, .int .u16 0, .int .u16 0, .slice none 0 0, .slice none 0 0, .slice none 0 0, .slice none 0 0, .int .u8 0, .int .u8 0, .int .u8 0, .int .u8 0, .int .u8 0, .slice none 0 0] fun w23 B24 hu25 => Pl 1 <| nt <| rt <| br <| tr <| rct B24 (.int .i64 2) <| ?_
 have hs : mbapP dir b = (Frm.zero, 2) := by
   unfold mbapP
   (try simp only [q17, q22, bs, if_true, if_false, decide_true, decide_false, frmOf, mb4, mb3, mb2, mb1, mb0, reduceIte])
   all_goals rfl
 refine pf_eq hs ?_
 have U26 := u1 hu14 hu25 (nr hg12)
 exact bad_frm U26
 have q22p := of_decide_eq_false q22
 refine sg <| Pl 4 <| nt <| cb ((decide (260 < ((b.length : Nat) : Int)))) (fun q27 => ?_) (fun q27 => ?_)
 have q27p := of_decide_eq_true q27
 refine sg <| Pl 1 <| L0 <| Osw B13 #[.int .u8 0, .int .u16 0, .int .u8 0, .int .u8 0, .int .u16 0, .int .u16 0, .int .u16 0, .int .u16 0, .int .u16 0, .int .u16 0, .int .u16 0, .int .u16 0, .int .u16 0, .int .u16 0, .slice none 0 0, .slice none 0 0, .slice none 0 0, .slice none 0 0, .int .u8 0, .int .u8 0, .int .u8 0, .int .u8 0, .int .u8 0, .slice none 0 0] fun w28 B29 hu30 => Pl 1 <| nt <| rt <| br <| tr <| rct B29 (.int .i64 3) <| ?_
 have hs : mbapP dir b = (Frm.zero, 3) := by
   unfold mbapP
   (try simp only [q17, q22, q27, bs, if_true, if_false, decide_true, decide_false, frmOf, mb4, mb3, mb2, mb1, mb0, reduceIte])
   all_goals rfl
 refine pf_eq hs ?_
 have U31 := u1 hu14 hu30 (nr hg12)
 exact bad_frm U31
 have q27p := of_decide_eq_false q27
 refine sk <| bn <| tn <| sg <| Pl 1 <| ?_
 have r32 := RdB.old hsl hu14
 refine L0 <| Oc <| e3 (new_any r32 (by omega)) fun g34 w33 hg35 hc36 hu37 => Pl 1 <| ng <| Pl 1 <| ng <| Pl 2 <| L0 <| Ocv #[] #[] (args := #[.pointer (some ⟨g34, 0, none⟩)]) <| m3 (word_any hc36) fun w38 hc39 hu40 hr41 => Pl 2 <| L0 <| Ocv #[] #[] (args := #[.pointer (some ⟨g34, 0, none⟩)]) <| m3 (word_any hc39) fun w42 hc43 hu44 hr45 => ?_
 refine ab hc43 fun x46 ex47 hc48 => ?_
 refine Pl 2 <| L0 <| Ocv #[] #[] (args := #[.pointer (some ⟨g34, 0, none⟩)]) <| m3 (word_any hc48) fun w49 hc50 hu51 hr52 => Pl 3 <| nt <| sq <| bk <| sg <| Pl 3 <| nt <| ?_
 have U53 := ut0 hu14 hu37
 have U54 := u1 U53 hu40 (ni hu14.size hg35)
 have U55 := u1 U54 hu44 (ni hu14.size hg35)
 have U56 := u1 U55 hu51 (ni hu14.size hg35)
 refine cb (((((Cur.mk b false 0).wordsC 1).wordV) != 0)) (fun q57 => ?_) (fun q57 => ?_)
 have q57p := ne_of_bnei q57
 refine sg <| Pl 1 <| ?_
 have U58 := u1 hu37 hu40 (nr hg35)
 have U59 := u1 U58 hu44 (nr hg35)
 have U60 := u1 U59 hu51 (nr hg35)
 have r61 := ub U60 B13
 refine L0 <| Osw r61 #[.int .u8 0, .int .u16 0, .int .u8 0, .int .u8 0, .int .u16 0, .int .u16 0, .int .u16 0, .int .u16 0, .int .u16 0, .int .u16 0, .int .u16 0, .int .u16 0, .int .u16 0, .int .u16 0, .slice none 0 0, .slice none 0 0, .slice none 0 0, .slice none 0 0, .int .u8 0, .int .u8 0, .int .u8 0, .int .u8 0, .int .u8 0, .slice none 0 0] fun w62 B63 hu64 => Pl 1 <| nt <| rt <| br <| tr <| rct B63 (.int .i64 13) <| ?_
 subst ex47
 have hs : mbapP dir b = (Frm.zero, 13) := by
   unfold mbapP
   (try simp only [q17, q22, q27, q57, bs, if_true, if_false, decide_true, decide_false, frmOf, mb4, mb3, mb2, mb1, mb0, reduceIte])
   all_goals rfl
 refine pf_eq hs ?_
 have U65 := u1 U56 hu64 (nr hg12)
 exact bad_frm U65
 have q57p := eq_of_bnei q57
 refine sg <| Pl 1 <| L0 <| Oi x46.wordV <| Pl 2 <| L0 <| Oi (((b.length : Nat) : Int) - 6) <| Pl 2 <| nt <| cb ((x46.wordV != (((b.length : Nat) : Int) - 6))) (fun q66 => ?_) (fun q66 => ?_)
 have q66p := ne_of_bnei q66
 refine sg <| Pl 1 <| ?_
 have U67 := u1 hu37 hu40 (nr hg35)
 have U68 := u1 U67 hu44 (nr hg35)
 have U69 := u1 U68 hu51 (nr hg35)
 have r70 := ub U69 B13
 refine L0 <| Osw r70 #[.int .u8 0, .int .u16 0, .int .u8 0, .int .u8 0, .int .u16 0, .int .u16 0, .int .u16 0, .int .u16 0, .int .u16 0, .int .u16 0, .int .u16 0, .int .u16 0, .int .u16 0, .int .u16 0, .slice none 0 0, .slice none 0 0, .slice none 0 0, .slice none 0 0, .int .u8 0, .int .u8 0, .int .u8 0, .int .u8 0, .int .u8 0, .slice none 0 0] fun w71 B72 hu73 => Pl 1 <| nt <| rt <| br <| tr <| rct B72 (.int .i64 5) <| ?_
 subst ex47
 have hs : mbapP dir b = (Frm.zero, 5) := by
   unfold mbapP
   (try simp only [q17, q22, q27, q57, q66, bs, if_true, if_false, decide_true, decide_false, frmOf, mb4, mb3, mb2, mb1, mb0, reduceIte])
   all_goals rfl
 refine pf_eq hs ?_
 have U74 := u1 U56 hu73 (nr hg12)
 exact bad_frm U74
 have q66p := eq_of_bnei q66
 refine sk <| bn <| tn <| sg <| Pl 1 <| L0 <| Oc <| m3 (byte_any hc50) fun w75 hc76 hu77 hr78 => Pl 1 <| ng <| Pl 3 <| L0 <| Oc <| mq (left_any hc76) <| ?_
 have hl79 := CurAt.len hc76
 refine L0 <| Oc <| sr3 (bytes_any (n := ((((x46.wordsC 1).bytesC 1).l.length : Nat) : Int)) hc76) fun A89 cp90 w80 rd93 hl91 hm92 hc83 hu84 => ?_
 have hlb85 := Nat.le_trans (Cur.bytesR_le ((x46.wordsC 1).bytesC 1) ((((x46.wordsC 1).bytesC 1).l.length : Nat) : Int)) (CurAt.len hc76)
 refine ab hc83 fun x86 ex87 hc88 => ?_
 obtain ⟨M94, E95, hX96⟩ : ∃ M E, pduP dir (((x46.wordsC 1).bytesC 1).bytesR ((((x46.wordsC 1).bytesC 1).l.length : Nat) : Int)) = (M, E) := ⟨_, _, rfl⟩
 have hp97 := pdu_parse (dir := dir) (w := w80) rd93 (by omega)
 rw [hX96] at hp97
 refine L0 <| Oc <| e2 hp97 fun cs99 w98 hM100 hu102 => ?_
 have hM101 := hM100
 obtain ⟨v105, v106, v107, v108, v109, h103, h110, h111, h112, h113, h114, hR104⟩ := hM101
 obtain rfl : cs99 = (msgCells M94 v105 v106 v107 v108 v109).toArray := by apply Array.toList_inj.1; simpa using h103
 obtain ⟨A115, k116, rfl, _, _⟩ := h110.shape
 obtain ⟨A117, k118, rfl, _, _⟩ := h111.shape
 obtain ⟨A119, k120, rfl, _, _⟩ := h112.shape
 obtain ⟨A121, k122, rfl, _, _⟩ := h113.shape
 obtain ⟨A123, k124, rfl, _, _⟩ := h114.shape
 refine Pl 3 <| L0 <| Oal mZ fun g125 w126 hg127 B128 hu129 => L0 <| Osw B128 (mG M94.code M94.fail M94.addr M94.count M94.value M94.and_ M94.or_ M94.addr2 M94.sub M94.status M94.events M94.messages (.slice A115 M94.words.length k116) (.slice A117 M94.bits.length k118) (.slice A119 M94.data.length k120) (.slice A121 M94.recs.length k122) M94.mei M94.kind M94.level M94.more M94.next (.slice A123 M94.objects.length k124)) fun w130 B131 hu132 => Pl 1 <| nt <| sq <| sg <| Pl 2 <| nt <| ?_
 have U133 := u1 U56 hu77 (ni hu14.size hg35)
 have U134 := u1 U133 hu84 (ni hu14.size hg35)
 have U135 := ut0 U134 hu102
 have U136 := ut0 U135 hu129
 have U137 := u1 U136 hu132 (ni U135.size hg127)
 refine cb ((E95 != 0)) (fun q138 => ?_) (fun q138 => ?_)
 have q138p := ne_of_bnei q138
 refine sg <| Pl 2 <| ?_
 have U139 := u1 hu37 hu40 (nr hg35)
 have U140 := u1 U139 hu44 (nr hg35)
 have U141 := u1 U140 hu51 (nr hg35)
 have U142 := u1 U141 hu77 (nr hg35)
 have U143 := u1 U142 hu84 (nr hg35)
 have U144 := ut0 U143 hu102
 have U145 := ut0 U144 hu129
 have U146 := u1 U145 hu132 (ni U144.size hg127)
 have r147 := ub U146 B13
 refine L0 <| Osw r147 #[.int .u8 0, .int .u16 0, .int .u8 0, .int .u8 0, .int .u16 0, .int .u16 0, .int .u16 0, .int .u16 0, .int .u16 0, .int .u16 0, .int .u16 0, .int .u16 0, .int .u16 0, .int .u16 0, .slice none 0 0, .slice none 0 0, .slice none 0 0, .slice none 0 0, .int .u8 0, .int .u8 0, .int .u8 0, .int .u8 0, .int .u8 0, .slice none 0 0] fun w148 B149 hu150 => Pl 1 <| nt <| rt <| tr <| rct B149 (.int .i64 E95) <| ?_
 subst ex87 ex47
 have hX2 : pduP dir (mbBody b) = (M94, E95) := hX96
 have hs : mbapP dir b = (Frm.zero, E95) := by
   unfold mbapP
   (try simp only [q17, q22, q27, q57, q66, q138, bs, if_true, if_false, decide_true, decide_false, frmOf, mb4, mb3, mb2, mb1, mb0, hX2, reduceIte])
   all_goals rfl
 refine pf_eq hs ?_
 have U151 := u1 U137 hu150 (nr hg12)
 exact bad_frm U151
 have q138p := eq_of_bnei q138
 refine skn <| sg <| Pl 3 <| L0 <| Olw B131 <| Pl 1 <| ?_
 have U152 := u1 hu37 hu40 (nr hg35)
 have U153 := u1 U152 hu44 (nr hg35)
 have U154 := u1 U153 hu51 (nr hg35)
 have U155 := u1 U154 hu77 (nr hg35)
 have U156 := u1 U155 hu84 (nr hg35)
 have U157 := ut0 U156 hu102
 have U158 := ut0 U157 hu129
 have U159 := u1 U158 hu132 (ni U157.size hg127)
 have r160 := ub U159 B13
 refine L0 <| Osw r160 #[.int .u8 ((x46.wordsC 1).byteV), .int .u16 ((Cur.mk b false 0).wordV), .int .u8 M94.code, .int .u8 M94.fail, .int .u16 M94.addr, .int .u16 M94.count, .int .u16 M94.value, .int .u16 M94.and_, .int .u16 M94.or_, .int .u16 M94.addr2, .int .u16 M94.sub, .int .u16 M94.status, .int .u16 M94.events, .int .u16 M94.messages, .slice A115 M94.words.length k116, .slice A117 M94.bits.length k118, .slice A119 M94.data.length k120, .slice A121 M94.recs.length k122, .int .u8 M94.mei, .int .u8 M94.kind, .int .u8 M94.level, .int .u8 M94.more, .int .u8 M94.next, .slice A123 M94.objects.length k124] fun w161 B162 hu163 => Pl 1 <| nt <| rt <| rct B162 (.int .i64 0) <| ?_
 subst ex87 ex47
 have hX2 : pduP dir (mbBody b) = (M94, E95) := hX96
 have hs : mbapP dir b = (⟨((((Cur.mk b false 0).wordsC 1).wordsC 1).wordsC 1).byteV, (Cur.mk b false 0).wordV, M94⟩, 0) := by
   unfold mbapP
   (try simp only [q17, q22, q27, q57, q66, q138, bs, if_true, if_false, decide_true, decide_false, frmOf, mb4, mb3, mb2, mb1, mb0, hX2, reduceIte])
   all_goals rfl
 refine pf_eq hs ?_
 have U164 := u1 hu129 hu132 (nr hg127)
 have U165 := u1 (Upd.mono (S' := [g10]) U164 all0) hu163 im
 have r166 := ub U157 B13
 have r167 := MsgRd.upd hM100 U165 (safe_cons (safe1 r166 (by decide)) safe0)
 have U168 := u1 U137 hu163 (nr hg12)
 exact ⟨_, rfl, ⟨#[.int .u8 M94.code, .int .u8 M94.fail, .int .u16 M94.addr, .int .u16 M94.count, .int .u16 M94.value, .int .u16 M94.and_, .int .u16 M94.or_, .int .u16 M94.addr2, .int .u16 M94.sub, .int .u16 M94.status, .int .u16 M94.events, .int .u16 M94.messages, .slice A115 M94.words.length k116, .slice A117 M94.bits.length k118, .slice A119 M94.data.length k120, .slice A121 M94.recs.length k122, .int .u8 M94.mei, .int .u8 M94.kind, .int .u8 M94.level, .int .u8 M94.more, .int .u8 M94.next, .slice A123 M94.objects.length k124], (by as_aux_lemma => kernel_rfl), r167, b8 (by omega), b16 (by omega)⟩, U168⟩
theorem mbap_parse {m : Bool} {v : Value} {b : List Int} {w : World} {dir : Int} (h : RdB m w v b) (hb : b.length ≤ 1048576) : Calls Tryz.prog 76 #[.int .i64 dir, v] w (PFrm (mbapP dir b) w) := by
  obtain ⟨A, cp, rfl, _, _⟩ := h.shape
  exact mbap_parse0 h hb
open Go.RowKit
def mbapW (dir u t : Int) (M : Msg) : Option (List Int) :=
  match pduW dir M with
  | none => none
  | some l => some ((putW [t, 0, ((l.length : Int) + 1) % 65536] ++ [u]) ++ l)
set_option maxRecDepth 100000 in
set_option maxHeartbeats 4000000 in
theorem mbap_write {m : Bool} {cs : Array Value} {M : Msg} {w : World} {dir u t : Int} (h : MsgRd m w cs.toList M) (hf : MsgFew M) (hu : B8 u) (ht : B16 t) : Calls Tryz.prog 36 #[.int .i64 dir, .agg (#[.int .u8 u, .int .u16 t] ++ cs)] w (PWrite (mbapW dir u t M) w) := by
 have hM := h
 obtain ⟨hu1, hu2⟩ := hu
 obtain ⟨ht1, ht2⟩ := ht
 obtain ⟨vw, vb, vd, vr, vo, h0, hw, hbt, hd, hr, ho, hR⟩ := h
 obtain rfl : cs = (msgCells M vw vb vd vr vo).toArray := by apply Array.toList_inj.1; simpa using h0
 clear h0
 obtain ⟨Aw, kw, rfl, _, _⟩ := hw.shape
 obtain ⟨Ab, kb, rfl, _, _⟩ := hbt.shape
 obtain ⟨Ad, kd, rfl, _, _⟩ := hd.shape
 obtain ⟨Ar, kr, rfl, _, _⟩ := hr.shape
 obtain ⟨Ao, ko, rfl, _, _⟩ := ho.shape
 obtain ⟨q0, q1, q2, q3, q4, q5, q6, q7, q8, q9, q10, q11, q16, q17, q18, q19, q20⟩ := hR
 simp only [B8, B16] at q0 q1 q2 q3 q4 q5 q6 q7 q8 q9 q10 q11 q16 q17 q18 q19 q20
 refine en 35 Tryz.func36 rfl <| sg <| L0 <| Obx #[.int .u8 u, .int .u16 t, .int .u8 M.code, .int .u8 M.fail, .int .u16 M.addr, .int .u16 M.count, .int .u16 M.value, .int .u16 M.and_, .int .u16 M.or_, .int .u16 M.addr2, .int .u16 M.sub, .int .u16 M.status, .int .u16 M.events, .int .u16 M.messages, .slice Aw M.words.length kw, .slice Ab M.bits.length kb, .slice Ad M.data.length kd, .slice Ar M.recs.length kr, .int .u8 M.mei, .int .u8 M.kind, .int .u8 M.level, .int .u8 M.more, .int .u8 M.next, .slice Ao M.objects.length ko] fun g10 w11 hg12 B13 hu14 => Pl 2 <| ng <| Pl 2 <| L0 <| Ola B13 2 22 <| ?_
 rcases hwr : pduW dir M with _ | lw
 have r18 := MsgRd.old hM hu14
 have hw15 := pdu_write (dir := dir) r18 hf
 rw [hwr] at hw15
 refine L0 <| Oc <| m1 hw15 fun w16 hu17 => Pl 5 <| nt <| sq <| sg <| Pl 2 <| nt <| c1 <| sg <| Pl 2 <| nl <| ?_
 refine tn <| rt <| tr <| rr (.tuple #[.slice none 0 0, .int .i64 1]) <| ?_
 have hs : mbapW dir u t M = none := by
   unfold mbapW
   (try simp only [hwr])
   all_goals rfl
 refine ns_eq hs ?_
 have U19 := ut0 hu14 hu17
 exact ⟨rfl, U19⟩
 have hlw := pduW_len hwr
 have r23 := MsgRd.old hM hu14
 have hw20 := pdu_write (dir := dir) r23 hf
 rw [hwr] at hw20
 refine L0 <| Oc <| so2 hw20 fun A26 cp27 w21 rd30 hl28 hm29 hu22 => Pl 5 <| nt <| sq <| sg <| Pl 2 <| nt <| c0 <| skn <| sq <| ?_
 refine go <| Pl 2 <| ?_
 have r31 := ub hu22 B13
 refine L0 <| Olb r31 1 <| Pl 2 <| L0 <| Oi (((lw.length : Nat) : Int) + 1) <| Pl 1 <| L0 <| Olt (m := 3) (e := 37) #[.int .u16 t, .int .u16 0, .int .u16 ((((lw.length : Nat) : Int) + 1) % 65536)] fun g32 w33 hg34 B35 hu36 => ?_
 have ow37 := litW hg34 (xs := [t, 0, ((((lw.length : Nat) : Int) + 1) % 65536)]) (by as_aux_lemma => kernel_rfl) (rng_cons (by omega) (rng_cons (by omega) (rng_cons (by omega) rng_nil))) (by (try simp only [List.length_cons, List.length_nil]); omega) B35
 refine L0 <| Oc <| so2 (put_any (xs := [t, 0, ((((lw.length : Nat) : Int) + 1) % 65536)]) (ow37).rd (by (try simp only [List.length_cons, List.length_nil]); omega)) fun A42 cp43 w38 rd46 hl44 hm45 hu41 => Pl 1 <| ng <| Pl 3 <| ?_
 have U47 := ut0 hu36 hu41
 have r48 := ub U47 r31
 refine L0 <| Olb r48 0 <| L0 <| Olt (m := 1) (e := 5) #[.int .u8 u] fun g49 w50 hg51 B52 hu53 => ?_
 have ow54 := litB hg51 (xs := [u]) (by as_aux_lemma => kernel_rfl) (rng_cons (by omega) rng_nil) (by (try simp only [List.length_cons, List.length_nil]); omega) B52
 have r55 := own_stay rd46 hu53 (fun x hx => not0) (fun _ _ h => h)
 refine L0 <| Oapp one_u8 (xs := (putW ([t, 0, ((((lw.length : Nat) : Int) + 1) % 65536)]))) (ys := ([u])) (.int .u8 0) 1 r55 (ow54).rd (by (try simp only [List.length_append, List.length_cons, List.length_nil, putW_length]); omega) (le hu41.size hu53.size) fun A56 cp57 w58 ho59 hu60 => Pl 1 <| ?_
 have U61 := ut0 U47 hu53
 have U62 := ut U61 hu60 (all_app (ob_new rd46 hu36.size) all0)
 have r63 := own_stay rd30 U62 (fun x hx => not0) (fun _ _ h => h)
 refine L0 <| Oapp one_u8 (xs := ((putW ([t, 0, ((((lw.length : Nat) : Int) + 1) % 65536)])) ++ [u])) (ys := lw) (.int .u8 0) 1 ho59 (r63).rd (by (try simp only [List.length_append, List.length_cons, List.length_nil, putW_length]); omega) (le (le hu41.size hu53.size) hu60.size) fun A64 cp65 w66 ho67 hu68 => Pl 2 <| nt <| rt <| rr (.tuple #[.slice A64 ((((putW ([t, 0, ((((lw.length : Nat) : Int) + 1) % 65536)])) ++ [u]) ++ lw).length) cp65, .int .i64 0]) <| ?_
 have hs : mbapW dir u t M = (some (((putW ([t, 0, ((((lw.length : Nat) : Int) + 1) % 65536)])) ++ [u]) ++ lw)) := by
   unfold mbapW
   (try simp only [hwr])
   all_goals rfl
 refine ns_eq hs ?_
 have U69 := ut0 hu14 hu22
 have U70 := ut0 U69 hu36
 have U71 := ut0 U70 hu41
 have U72 := ut0 U71 hu53
 have U73 := ut U72 hu60 (all_app (ob_new rd46 U70.size) all0)
 have U74 := ut U73 hu68 (all_app (ob_new ho59 U70.size) all0)
 exact ⟨_, rfl, (OwnG.weaken ho67 (le (le hu14.size hu22.size) hu36.size)), U74⟩
open Go.RowKit
theorem mbap_parse_x {m : Bool} {v : Value} {b : List Int} {w : World} {dir : Int} {F : Frm} {E : Int} (hX : mbapP dir b = (F, E)) (h : RdB m w v b) (hb : b.length ≤ 1048576) : Calls Tryz.prog 76 #[.int .i64 dir, v] w (fun e w' => ∃ x, e = .returned (.tuple #[.agg (fcl F.unit F.tid F.msg x), .int .i64 E]) ∧ (MsgRd true w' (mcl F.msg x).toList F.msg ∧ (0 ≤ F.unit ∧ F.unit < 256) ∧ (0 ≤ F.tid ∧ F.tid < 65536)) ∧ Upd [] w w') := by
  refine (mbap_parse h hb).mono ?_
  rintro e w' ⟨cs, rfl, h1, h2⟩
  rw [hX] at h1 ⊢
  obtain ⟨c, rfl, h3, h4, h5⟩ := h1
  obtain ⟨x, rfl⟩ := mcl_of h3
  exact ⟨x, by rw [fcl_eq], ⟨h3, h4, h5⟩, h2⟩
theorem mbap_write_n {m : Bool} {x : SL} {M : Msg} {w : World} {dir u t : Int} (hX : mbapW dir u t M = none) (h : MsgRd m w (mcl M x).toList M) (hf : MsgFew M) (hu : 0 ≤ u ∧ u < 256) (ht : 0 ≤ t ∧ t < 65536) : Calls Tryz.prog 36 #[.int .i64 dir, .agg (fcl u t M x)] w (fun e w' => e = .returned (.tuple #[.slice none 0 0, .int .i64 1]) ∧ Upd [] w w') := by
  have := mbap_write (dir := dir) h hf hu ht
  rw [hX] at this
  rw [fcl_eq]
  exact this
theorem mbap_write_s {m : Bool} {x : SL} {M : Msg} {w : World} {dir u t : Int} {l : List Int} (hX : mbapW dir u t M = some l) (h : MsgRd m w (mcl M x).toList M) (hf : MsgFew M) (hu : 0 ≤ u ∧ u < 256) (ht : 0 ≤ t ∧ t < 65536) : Calls Tryz.prog 36 #[.int .i64 dir, .agg (fcl u t M x)] w (fun e w' => ∃ v, e = .returned (.tuple #[v, .int .i64 0]) ∧ OwnB w.heap.size w' v l ∧ Upd [] w w') := by
  have := mbap_write (dir := dir) h hf hu ht
  rw [hX] at this
  rw [fcl_eq]
  exact this
open Go.RowKit
structure SM where
  dir : Int
  held : List Int
  skip : Int
theorem i64_or8 {a b : Int} (ha : 0 ≤ a ∧ a < 256) (hb : 0 ≤ b ∧ b < 256) : bits .or .i64 (a * 256) b = a * 256 + b := by
  obtain ⟨A, rfl⟩ := Int.eq_ofNat_of_zero_le ha.1
  obtain ⟨B, rfl⟩ := Int.eq_ofNat_of_zero_le hb.1
  have e : ((A : Int) * 256) = ((A * 256 : Nat) : Int) := by omega
  rw [e]
  show IntKind.i64.wrap ((BitVec.ofInt 64 ((A * 256 : Nat) : Int) ||| BitVec.ofInt 64 (B : Int)).toNat : Int) = _
  rw [BitVec.toNat_or, BitVec.ofInt_natCast, BitVec.ofInt_natCast, BitVec.toNat_ofNat, BitVec.toNat_ofNat, Nat.mod_eq_of_lt (by omega), Nat.mod_eq_of_lt (by omega)]
  have h := Nat.shiftLeft_add_eq_or_of_lt (i := 8) (b := B) (by omega) A
  rw [Nat.shiftLeft_eq] at h
  rw [← h, i64_in (by omega)]
  omega
def SM.size (S : SM) : Int := S.held.getD 4 0 * 256 + S.held.getD 5 0
def SM.nx (S : SM) : Nat := if S.held.length < 6 then 0 else if 254 < S.size then 1 else if S.size < 2 then 2 else if (S.held.length : Int) = 6 + S.size then 3 else 0
def SM.does (S : SM) : SM × List Ev := match S.nx with
  | 1 => (⟨S.dir, [], S.size⟩, [Ev.bad 3])
  | 2 => (⟨S.dir, [], S.size⟩, [Ev.bad 5])
  | 3 => (⟨S.dir, [], S.skip⟩, [⟨(mbapP S.dir S.held).2, (mbapP S.dir S.held).1⟩])
  | _ => (S, [])
def SM.byte (S : SM) (c : Int) : SM × List Ev := if 0 < S.skip then (⟨S.dir, S.held, S.skip - 1⟩, []) else (SM.mk S.dir (S.held ++ [c]) S.skip).does
def SM.feed (S : SM) (b : List Int) : SM × List Ev := b.foldl (fun p c => ((p.1.byte c).1, p.2 ++ (p.1.byte c).2)) (S, [])
abbrev sbC (S : SM) (A : Option Addr) (cp : Nat) : Array Value := #[.int .i64 S.dir, .slice A S.held.length cp, .int .i64 S.skip]
abbrev SmB (w : World) (g : Nat) (S : SM) (A : Option Addr) (cp : Nat) : Prop := w.heap[g]? = some (.cells (sbC S A cp) 74 (0, 0))
theorem SM.size_rng {S : SM} (h : ∀ x, x ∈ S.held → 0 ≤ x ∧ x < 256) : 0 ≤ S.size ∧ S.size < 65536 := by
  have hd : ∀ j, 0 ≤ S.held.getD j 0 ∧ S.held.getD j 0 < 256 := fun j => by
    rw [List.getD_eq_getElem?_getD]
    cases hj : S.held[j]? with
    | none => simp
    | some x => exact h x (List.mem_of_getElem? hj)
  have h4 := hd 4
  have h5 := hd 5
  unfold SM.size
  omega
def PDo (S : SM) (L : List Ev) (g : Nat) (w : World) (e : Ending) (w' : World) : Prop := ∃ v, e = .returned v ∧ OwnE w.heap.size w' v L ∧ SmB w' g S none 0 ∧ Upd [g] w w'
set_option maxRecDepth 100000 in
set_option maxHeartbeats 4000000 in
theorem smbap_new0 {w : World} : Calls Tryz.prog 26 #[.int .i64 0] w (fun e w' => ∃ g, e = .returned (.pointer (some ⟨g, 0, none⟩)) ∧ w.heap.size ≤ g ∧ SmB w' g ⟨0, [], 0⟩ none 0 ∧ Upd [] w w') := by
 refine en 12 Tryz.func26 rfl <| sg <| Pl 1 <| nt <| sq <| sg <| Pl 6 <| nt <| c0 <| sk <| ?_
 refine tn <| sg <| Pl 2 <| L0 <| Obx #[.int .i64 0, .slice none 0 0, .int .i64 0] fun g10 w11 hg12 B13 hu14 => Pl 1 <| nt <| rt <| rr (.pointer (some ⟨g10, 0, none⟩)) <| ?_
 exact ⟨g10, rfl, hg12, B13, hu14⟩
set_option maxRecDepth 100000 in
set_option maxHeartbeats 4000000 in
theorem smbap_new1 {w : World} : Calls Tryz.prog 26 #[.int .i64 1] w (fun e w' => ∃ g, e = .returned (.pointer (some ⟨g, 0, none⟩)) ∧ w.heap.size ≤ g ∧ SmB w' g ⟨1, [], 0⟩ none 0 ∧ Upd [] w w') := by
 refine en 12 Tryz.func26 rfl <| sg <| Pl 1 <| nt <| sq <| sg <| Pl 6 <| nt <| c0 <| sk <| ?_
 refine tn <| sg <| Pl 2 <| L0 <| Obx #[.int .i64 1, .slice none 0 0, .int .i64 0] fun g10 w11 hg12 B13 hu14 => Pl 1 <| nt <| rt <| rr (.pointer (some ⟨g10, 0, none⟩)) <| ?_
 exact ⟨g10, rfl, hg12, B13, hu14⟩
set_option maxRecDepth 100000 in
set_option maxHeartbeats 4000000 in
theorem smbap_held {w : World} {g : Nat} {S : SM} {A : Option Addr} {cp : Nat} (hb : SmB w g S A cp) (hr : RdB true w (.slice A S.held.length cp) S.held) : Calls Tryz.prog 28 #[.pointer (some ⟨g, 0, none⟩)] w (PVal (.int .i64 ((S.held.length : Nat) : Int)) w) := by
 have hcm := RdG.len hr
 have hrg := SM.size_rng (RdB.range hr)
 have hru := RdB.range hr
 refine en 8 Tryz.func28 rfl <| sg <| Pl 1 <| ng <| Pl 3 <| L0 <| Olb hb 1 <| Pl 2 <| nt <| rt <| ?_
 refine rr (.int .i64 ((S.held.length : Nat) : Int)) <| ?_
 exact ⟨rfl, (Upd.refl [] _)⟩
set_option maxRecDepth 100000 in
set_option maxHeartbeats 4000000 in
theorem smbap_size {w : World} {g : Nat} {S : SM} {A : Option Addr} {cp : Nat} (hb : SmB w g S A cp) (hr : RdB true w (.slice A S.held.length cp) S.held) (h6 : 6 ≤ S.held.length) : Calls Tryz.prog 59 #[.pointer (some ⟨g, 0, none⟩)] w (PVal (.int .i64 S.size) w) := by
 have hcm := RdG.len hr
 have hrg := SM.size_rng (RdB.range hr)
 have hru := RdB.range hr
 refine en 19 Tryz.func59 rfl <| sg <| Pl 1 <| nt <| sq <| x23 (RdB.at_ hr 4 (by omega)) fun b20 o21 hA22 hl23 hr24 => x23 (RdB.at_ hr 5 (by omega)) fun b25 o26 hA27 hl28 hr29 => Rg 17 (fun w' => w'.cell? ⟨g, 1, none⟩ = some (.slice A S.held.length cp) ∧ w'.cell? ⟨b20, o21 + 4, none⟩ = some (.int .u8 (S.held.getD 4 0)) ∧ w'.cell? ⟨b25, o26 + 5, none⟩ = some (.int .u8 (S.held.getD 5 0))) fun w30 hu31 => ?_
 have r33 := ub hu31 hb
 refine hld ⟨(blk_at r33 rfl), (uc hu31 hl23), (uc hu31 hl28)⟩ fun hS32 => Rt 0 hS32 <| Rt 1 hS32 <| Rt 2 hS32 <| Rl 3 hS32 (fun _ hs => hs.1) <| Ri1 4 hS32 S.held.length 4 4 rfl hA22 (by omega) <| Rl 5 hS32 (fun _ hs => hs.2.1) <| Rr 6 hS32 (.int .i64 (S.held.getD 4 0)) (fun _ _ => run_eqo (.int .i64 (IntKind.i64.wrap (S.held.getD 4 0))) (by kernel_rfl) (congrArg (Value.int .i64) (i64_in (by omega)))) <| Rr 7 hS32 (.int .i64 ((S.held.getD 4 0) * 256)) (fun _ _ => run_eqo (.int .i64 (IntKind.i64.wrap ((S.held.getD 4 0) * 256))) (by kernel_rfl) (congrArg (Value.int .i64) (i64_in (by omega)))) <| Rt 8 hS32 <| Rt 9 hS32 <| Rt 10 hS32 <| Rl 11 hS32 (fun _ hs => hs.1) <| Ri1 12 hS32 S.held.length 5 5 rfl hA27 (by omega) <| ?_
 refine Rl 13 hS32 (fun _ hs => hs.2.2) <| Rr 14 hS32 (.int .i64 (S.held.getD 5 0)) (fun _ _ => run_eqo (.int .i64 (IntKind.i64.wrap (S.held.getD 5 0))) (by kernel_rfl) (congrArg (Value.int .i64) (i64_in (by omega)))) <| Rr 15 hS32 (.int .i64 (((S.held.getD 4 0) * 256) + (S.held.getD 5 0))) (fun _ _ => run_eqo (.int .i64 (bits .or .i64 ((S.held.getD 4 0) * 256) (S.held.getD 5 0))) (by kernel_rfl) (congrArg (Value.int .i64) (i64_or8 (by omega) (by omega)))) <| Rt 16 hS32 <| re <| tn <| rt <| rr (.int .i64 (((S.held.getD 4 0) * 256) + (S.held.getD 5 0))) <| ?_
 exact ⟨rfl, hu31⟩
def SM.fn (S : SM) (g : Nat) : Value := match S.nx with
  | 1 => .func (.func 60) #[.pointer (some ⟨g, 0, none⟩)] #[]
  | 2 => .func (.func 61) #[.pointer (some ⟨g, 0, none⟩)] #[]
  | 3 => .func (.func 62) #[.pointer (some ⟨g, 0, none⟩)] #[]
  | _ => .nilFunc
set_option maxRecDepth 100000 in
set_option maxHeartbeats 4000000 in
theorem smbap_next {w : World} {g : Nat} {S : SM} {A : Option Addr} {cp : Nat} (hb : SmB w g S A cp) (hr : RdB true w (.slice A S.held.length cp) S.held) : Calls Tryz.prog 44 #[.pointer (some ⟨g, 0, none⟩)] w (PVal (S.fn g) w) := by
 have hcm := RdG.len hr
 have hrg := SM.size_rng (RdB.range hr)
 have hru := RdB.range hr
 refine en 34 Tryz.func44 rfl <| sg <| Pl 1 <| nt <| sq <| bk <| sg <| Pl 3 <| L0 <| Olb hb 1 <| Pl 3 <| nl <| ?_
 refine tn <| cb ((decide (((S.held.length : Nat) : Int) < 6))) (fun q10 => ?_) (fun q10 => ?_)
 have q10p := of_decide_eq_true q10
 refine sg <| Pl 1 <| nt <| rt <| br <| tr <| rr (.nilFunc) <| ?_
 have hs : S.nx = 0 := by unfold SM.nx; (repeat' split) <;> first | rfl | omega
 have hf : S.fn g = .nilFunc := by unfold SM.fn; rw [hs]; rfl
 exact ⟨by rw [hf], (Upd.refl [] _)⟩
 have q10p := of_decide_eq_false q10
 refine sg <| Pl 1 <| L0 <| Oc <| m1 (smbap_size (S := S) hb hr (by omega)) fun w11 hu12 => Pl 2 <| nt <| cb ((decide (254 < S.size))) (fun q13 => ?_) (fun q13 => ?_)
 have q13p := of_decide_eq_true q13
 refine sg <| Pl 3 <| nt <| rt <| br <| tr <| rr (.func (.func 60) #[.pointer (some ⟨g, 0, none⟩)] #[]) <| ?_
 have hs : S.nx = 1 := by unfold SM.nx; (repeat' split) <;> first | rfl | omega
 have hf : S.fn g = .func (.func 60) #[.pointer (some ⟨g, 0, none⟩)] #[] := by unfold SM.fn; rw [hs]; rfl
 exact ⟨by rw [hf], hu12⟩
 have q13p := of_decide_eq_false q13
 refine sg <| Pl 1 <| ?_
 have r16 := ub hu12 hb
 have r17 := RdB.upd' hr hu12 safe0
 refine L0 <| Oc <| m1 (smbap_size (S := S) r16 r17 (by omega)) fun w14 hu15 => Pl 2 <| nt <| ?_
 have U18 := ut0 hu12 hu15
 refine cb ((decide (S.size < 2))) (fun q19 => ?_) (fun q19 => ?_)
 have q19p := of_decide_eq_true q19
 refine sg <| Pl 3 <| nt <| rt <| br <| tr <| rr (.func (.func 61) #[.pointer (some ⟨g, 0, none⟩)] #[]) <| ?_
 have hs : S.nx = 2 := by unfold SM.nx; (repeat' split) <;> first | rfl | omega
 have hf : S.fn g = .func (.func 61) #[.pointer (some ⟨g, 0, none⟩)] #[] := by unfold SM.fn; rw [hs]; rfl
 exact ⟨by rw [hf], U18⟩
 have q19p := of_decide_eq_false q19
 refine sq <| Rg 10 (fun w' => w'.cell? ⟨g, 1, none⟩ = some (.slice A S.held.length cp)) fun w24 hu25 => ?_
 have U27 := ut0 hu15 hu25
 have r28 := ub U27 r16
 refine hld (blk_at r28 rfl) fun hS26 => Rt 0 hS26 <| Rt 1 hS26 <| Rt 2 hS26 <| Rl 3 hS26 (fun _ hs => hs) <| Rt 4 hS26 <| Rt 5 hS26 <| ?_
 have r31 := RdB.upd' r17 U27 safe0
 refine R0 6 rfl <| Oc <| m1 (smbap_size (S := S) r28 r31 (by omega)) fun w29 hu30 => ?_
 have r33 := ub hu30 r28
 refine hld (blk_at r33 rfl) fun hS32 => Rr 7 hS32 (.int .i64 (6 + S.size)) (fun _ _ => run_eqo (.int .i64 (IntKind.i64.wrap (6 + S.size))) (by kernel_rfl) (congrArg (Value.int .i64) (IntWalk.i64_in _ (by omega)))) <| Rt 8 hS32 <| Rt 9 hS32 <| re <| tn <| ?_
 have U34 := ut0 U18 hu25
 have U35 := ut0 U34 hu30
 refine cb ((((S.held.length : Nat) : Int) == (6 + S.size))) (fun q36 => ?_) (fun q36 => ?_)
 have q36p := eq_of_beqi q36
 refine sg <| Pl 3 <| nt <| rt <| br <| tr <| rr (.func (.func 62) #[.pointer (some ⟨g, 0, none⟩)] #[]) <| ?_
 have hs : S.nx = 3 := by unfold SM.nx; (repeat' split) <;> first | rfl | omega
 have hf : S.fn g = .func (.func 62) #[.pointer (some ⟨g, 0, none⟩)] #[] := by unfold SM.fn; rw [hs]; rfl
 exact ⟨by rw [hf], U35⟩
 have q36p := ne_of_beqi q36
 refine sk <| bn <| tn <| sg <| Pl 1 <| nt <| rt <| rr (.nilFunc) <| ?_
 have hs : S.nx = 0 := by unfold SM.nx; (repeat' split) <;> first | rfl | omega
 have hf : S.fn g = .nilFunc := by unfold SM.fn; rw [hs]; rfl
 exact ⟨by rw [hf], U35⟩
set_option maxRecDepth 100000 in
set_option maxHeartbeats 4000000 in
theorem smbap_refuse {w : World} {g : Nat} {S : SM} {A : Option Addr} {cp : Nat} (hb : SmB w g S A cp) (hr : RdB true w (.slice A S.held.length cp) S.held) (h6 : 6 ≤ S.held.length) {e : Int} : Calls Tryz.prog 75 #[.pointer (some ⟨g, 0, none⟩), .int .i64 e] w (PDo ⟨S.dir, [], S.size⟩ [Ev.bad e] g w) := by
 have hcm := RdG.len hr
 have hrg := SM.size_rng (RdB.range hr)
 have hru := RdB.range hr
 refine en 16 Tryz.func75 rfl <| sg <| Pl 1 <| ng <| Pl 2 <| L0 <| Oc <| m1 (smbap_size (S := S) hb hr (by omega)) fun w10 hu11 => Pl 2 <| ?_
 have r12 := ub hu11 hb
 refine L0 <| Ost r12 2 #[.int .i64 S.dir, .slice A S.held.length cp, .int .i64 S.size] fun w13 B14 hu15 => ng <| Pl 3 <| L0 <| Ost B14 1 #[.int .i64 S.dir, .slice none 0 0, .int .i64 S.size] fun w16 B17 hu18 => ng <| Pl 2 <| L0 <| Olt (m := 1) (e := 61) #[.int .i64 e, .int .u8 0, .int .u16 0, .int .u8 0, .int .u8 0, .int .u16 0, .int .u16 0, .int .u16 0, .int .u16 0, .int .u16 0, .int .u16 0, .int .u16 0, .int .u16 0, .int .u16 0, .int .u16 0, .slice none 0 0, .slice none 0 0, .slice none 0 0, .slice none 0 0, .int .u8 0, .int .u8 0, .int .u8 0, .int .u8 0, .int .u8 0, .slice none 0 0] fun g19 w20 hg21 B22 hu23 => Pl 1 <| nl <| ?_
 refine tn <| rt <| rr (.slice (some ⟨g19, 0, none⟩) 1 1) <| ?_
 have hE := litE (w0 := w) (x := Ev.bad e) (Nat.le_trans (le (le hu11.size hu15.size) hu18.size) hg21) B22 ⟨⟨none, 0, none, 0, none, 0, none, 0, none, 0⟩, by kernel_rfl, SL_nil, (show (0 : Int) ≤ 0 ∧ (0 : Int) < 256 from by decide), (show (0 : Int) ≤ 0 ∧ (0 : Int) < 65536 from by decide)⟩
 have r24 := ub hu23 B17
 have U25 := u1 (Upd.mono (S' := [g]) hu11 all0) hu15 im
 have U26 := u1 U25 hu18 im
 have U27 := ut0 U26 hu23
 exact ⟨_, rfl, hE, r24, U27⟩
set_option maxRecDepth 100000 in
set_option maxHeartbeats 4000000 in
theorem smbap_long {w : World} {g : Nat} {S : SM} {A : Option Addr} {cp : Nat} (hb : SmB w g S A cp) (hr : RdB true w (.slice A S.held.length cp) S.held) (h6 : 6 ≤ S.held.length) : Calls Tryz.prog 60 #[.pointer (some ⟨g, 0, none⟩)] w (PDo ⟨S.dir, [], S.size⟩ [Ev.bad 3] g w) := by
 have hcm := RdG.len hr
 have hrg := SM.size_rng (RdB.range hr)
 have hru := RdB.range hr
 refine en 5 Tryz.func60 rfl <| sg <| Pl 1 <| ng <| Pl 1 <| L0 <| Oc <| so3 (smbap_refuse (S := S) (e := 3) hb hr h6) fun A15 cp16 w10 rd19 hl17 hm18 B13 hu14 => Pl 1 <| nt <| rt <| ?_
 refine rr (.slice A15 1 cp16) <| ?_
 exact ⟨_, rfl, rd19, B13, hu14⟩
set_option maxRecDepth 100000 in
set_option maxHeartbeats 4000000 in
theorem smbap_small {w : World} {g : Nat} {S : SM} {A : Option Addr} {cp : Nat} (hb : SmB w g S A cp) (hr : RdB true w (.slice A S.held.length cp) S.held) (h6 : 6 ≤ S.held.length) : Calls Tryz.prog 61 #[.pointer (some ⟨g, 0, none⟩)] w (PDo ⟨S.dir, [], S.size⟩ [Ev.bad 5] g w) := by
 have hcm := RdG.len hr
 have hrg := SM.size_rng (RdB.range hr)
 have hru := RdB.range hr
 refine en 5 Tryz.func61 rfl <| sg <| Pl 1 <| ng <| Pl 1 <| L0 <| Oc <| so3 (smbap_refuse (S := S) (e := 5) hb hr h6) fun A15 cp16 w10 rd19 hl17 hm18 B13 hu14 => Pl 1 <| nt <| rt <| ?_
 refine rr (.slice A15 1 cp16) <| ?_
 exact ⟨_, rfl, rd19, B13, hu14⟩
set_option maxRecDepth 100000 in
set_option maxHeartbeats 4000000 in
theorem smbap_whole {w : World} {g : Nat} {S : SM} {A : Option Addr} {cp : Nat} (hb : SmB w g S A cp) (hr : RdB true w (.slice A S.held.length cp) S.held) (hl : S.held.length ≤ 1048576) : Calls Tryz.prog 62 #[.pointer (some ⟨g, 0, none⟩)] w (PDo ⟨S.dir, [], S.skip⟩ [⟨(mbapP S.dir S.held).2, (mbapP S.dir S.held).1⟩] g w) := by
 have hcm := RdG.len hr
 have hrg := SM.size_rng (RdB.range hr)
 have hru := RdB.range hr
 refine en 24 Tryz.func62 rfl <| sg <| Pl 1 <| nt <| sq <| Rg 15 (fun w' => w'.cell? ⟨g, 0, none⟩ = some (.int .i64 S.dir) ∧ w'.cell? ⟨g, 1, none⟩ = some (.slice A S.held.length cp)) fun w48 hu49 => ?_
 have r51 := ub hu49 hb
 refine hld ⟨(blk_at r51 rfl), (blk_at r51 rfl)⟩ fun hS50 => Rt 0 hS50 <| Rt 1 hS50 <| Rt 2 hS50 <| Rl 3 hS50 (fun _ hs => hs.1) <| Rt 4 hS50 <| Rt 5 hS50 <| Rt 6 hS50 <| Rl 7 hS50 (fun _ hs => hs.2) <| ?_
 refine R2 8 12 rfl rfl ?_ ?_
 have r52 := RdB.upd' hr hu49 safe0
 refine pr (mbapP S.dir S.held) fun F53 E54 hX55 => ?_
 refine  Oc <| e2 (mbap_parse_x hX55 r52 (by omega)) fun x56 w57 hx62 hu61 => ?_
 obtain ⟨hM58, hF59, hF60⟩ := hx62
 have r64 := ub hu61 r51
 refine hld ⟨(blk_at r64 rfl), (blk_at r64 rfl)⟩ fun hS63 => Rt 9 hS63 <| Rt 10 hS63 <| Rt 11 hS63 <| R0 12 rfl <| Oal #[.int .u8 0, .int .u16 0, .int .u8 0, .int .u8 0, .int .u16 0, .int .u16 0, .int .u16 0, .int .u16 0, .int .u16 0, .int .u16 0, .int .u16 0, .int .u16 0, .int .u16 0, .int .u16 0, .slice none 0 0, .slice none 0 0, .slice none 0 0, .slice none 0 0, .int .u8 0, .int .u8 0, .int .u8 0, .int .u8 0, .int .u8 0, .slice none 0 0] fun g65 w66 hg67 B68 hu69 => ?_
 have r71 := ub hu69 r64
 refine hld ⟨(blk_at r71 rfl), (blk_at r71 rfl)⟩ fun hS70 => R0 13 rfl <| Osw B68 (fcl F53.unit F53.tid F53.msg x56) fun w72 B73 hu74 => ?_
 have ne76 := nb (blk_lt hb) (le hu49.size hu61.size) hg67
 have r77 := ub1 hu74 ne76 r71
 refine hld ⟨(blk_at r77 rfl), (blk_at r77 rfl)⟩ fun hS75 => Rt 14 hS75 <| re <| tn <| sg <| Pl 3 <| L0 <| Ost r77 1 #[.int .i64 S.dir, .slice none 0 0, .int .i64 S.skip] fun w78 B79 hu80 => ng <| Pl 1 <| ?_
 have r81 := ub1 hu80 (Ne.symm ne76) B73
 refine L0 <| Olw r81 <| Pl 1 <| L0 <| Olt (m := 1) (e := 61) (evl ⟨E54, F53⟩ x56) fun g82 w83 hg84 B85 hu86 => Pl 1 <| nt <| rt <| rr (.slice (some ⟨g82, 0, none⟩) 1 1) <| ?_
 have U87 := u1 hu69 hu74 (nr hg67)
 have U88 := u1 (Upd.mono (S' := [g]) U87 all0) hu80 im
 have U89 := ut0 U88 hu86
 have r90 := MsgRd.upd hM58 U89 (safe_cons (safe1 r64 (by decide)) safe0)
 have hE := litE (w0 := w) (x := ⟨E54, F53⟩) (Nat.le_trans (le (le (le (le hu49.size hu61.size) hu69.size) hu74.size) hu80.size) hg84) B85 ⟨x56, rfl, r90, hF59, hF60⟩
 have r91 := ub hu86 B79
 have U92 := ut0 hu49 hu61
 have U93 := ut0 U92 hu69
 have U94 := u1 U93 hu74 (ni U92.size hg67)
 have U95 := u1 (Upd.mono (S' := [g]) U94 all0) hu80 im
 have U96 := ut0 U95 hu86
 exact ⟨_, rfl, by rw [hX55]; exact hE, r91, U96⟩
 refine  Oal #[.int .u8 0, .int .u16 0, .int .u8 0, .int .u8 0, .int .u16 0, .int .u16 0, .int .u16 0, .int .u16 0, .int .u16 0, .int .u16 0, .int .u16 0, .int .u16 0, .int .u16 0, .int .u16 0, .slice none 0 0, .slice none 0 0, .slice none 0 0, .slice none 0 0, .int .u8 0, .int .u8 0, .int .u8 0, .int .u8 0, .int .u8 0, .slice none 0 0] fun g97 w98 hg99 B100 hu101 => ?_
 have r103 := ub hu101 r51
 refine hld ⟨(blk_at r103 rfl), (blk_at r103 rfl)⟩ fun hS102 => ?_
 have U104 := ut0 hu49 hu101
 have r105 := RdB.upd' hr U104 safe0
 refine pr (mbapP S.dir S.held) fun F106 E107 hX108 => ?_
 refine R0 8 rfl <| Oc <| e2 (mbap_parse_x hX108 r105 (by omega)) fun x109 w110 hx115 hu114 => ?_
 obtain ⟨hM111, hF112, hF113⟩ := hx115
 have r117 := ub hu114 r103
 refine hld ⟨(blk_at r117 rfl), (blk_at r117 rfl)⟩ fun hS116 => Rt 9 hS116 <| Rt 10 hS116 <| Rt 11 hS116 <| ?_
 have r118 := ub hu114 B100
 refine R0 13 rfl <| Osw r118 (fcl F106.unit F106.tid F106.msg x109) fun w119 B120 hu121 => ?_
 have ne123 := nb (blk_lt hb) hu49.size hg99
 have r124 := ub1 hu121 ne123 r117
 refine hld ⟨(blk_at r124 rfl), (blk_at r124 rfl)⟩ fun hS122 => Rt 14 hS122 <| re <| tn <| sg <| Pl 3 <| L0 <| Ost r124 1 #[.int .i64 S.dir, .slice none 0 0, .int .i64 S.skip] fun w125 B126 hu127 => ng <| Pl 1 <| ?_
 have r128 := ub1 hu127 (Ne.symm ne123) B120
 refine L0 <| Olw r128 <| Pl 1 <| L0 <| Olt (m := 1) (e := 61) (evl ⟨E107, F106⟩ x109) fun g129 w130 hg131 B132 hu133 => Pl 1 <| nt <| rt <| rr (.slice (some ⟨g129, 0, none⟩) 1 1) <| ?_
 have U134 := u1 (Upd.mono (S' := [g97, g]) hu121 (ac im all0)) hu127 im
 have U135 := ut0 U134 hu133
 have r136 := MsgRd.upd hM111 U135 (safe_cons (safe1 r118 (by decide)) (safe_cons (safe1 r117 (by decide)) safe0))
 have hE := litE (w0 := w) (x := ⟨E107, F106⟩) (Nat.le_trans (le (le (le (le hu49.size hu101.size) hu114.size) hu121.size) hu127.size) hg131) B132 ⟨x109, rfl, r136, hF112, hF113⟩
 have r137 := ub hu133 B126
 have U138 := ut0 U104 hu114
 have U139 := u1 U138 hu121 (ni hu49.size hg99)
 have U140 := u1 (Upd.mono (S' := [g]) U139 all0) hu127 im
 have U141 := ut0 U140 hu133
 exact ⟨_, rfl, by rw [hX108]; exact hE, r137, U141⟩
open Go.RowKit
theorem rows_type {α β : Type} {base sz base2 sz2 : Nat} {e e2 : TypeId} {R : World → α → List Value → Prop} {R2 : World → β → List Value → Prop} {w : World} {A A2 : Option Addr} {n c n2 c2 : Nat} {xs : List α} {ys : List β} (h : OwnG base e sz R w (.slice A n c) xs) (h2 : OwnG base2 e2 sz2 R2 w (.slice A2 n2 c2) ys) (ht : (e == e2) = false) : ∀ x, x ∈ ob A → x ∉ ob A2 := fun x hx hx2 => by
  rcases ob_cases h with rfl | ⟨g, cells, rfl, _, h1⟩
  · simp [ob] at hx
  rcases ob_cases h2 with rfl | ⟨g2, cells2, rfl, _, h3⟩
  · simp [ob] at hx2
  simp [ob] at hx hx2
  subst hx
  subst hx2
  rw [h1] at h3
  injection h3 with h3
  injection h3 with _ h3 _
  subst h3
  simp at ht
theorem ob_from {A A0 : Option Addr} {w w0 : World} {S : List Nat} (hat : ∀ x, x ∈ ob A → x ∈ ob A0 ∨ w.heap.size ≤ x) (h : ∀ x, x ∈ ob A0 → x ∈ S ∨ w0.heap.size ≤ x) (hs : w0.heap.size ≤ w.heap.size) : ∀ x, x ∈ ob A → x ∈ S ∨ w0.heap.size ≤ x := fun x hx => by
  rcases hat x hx with k | k
  · exact h x k
  · exact .inr (Nat.le_trans hs k)
theorem hat_trans {A A1 A0 : Option Addr} {w w0 : World} (hat : ∀ x, x ∈ ob A → x ∈ ob A1 ∨ w.heap.size ≤ x) (h : ∀ x, x ∈ ob A1 → x ∈ ob A0 ∨ w0.heap.size ≤ x) (hs : w0.heap.size ≤ w.heap.size) : ∀ x, x ∈ ob A → x ∈ ob A0 ∨ w0.heap.size ≤ x := ob_from hat h hs
theorem hat_none {A0 : Option Addr} {w : World} : ∀ x, x ∈ ob none → x ∈ ob A0 ∨ w.heap.size ≤ x := fun x hx => by simp [ob] at hx
theorem hat_self {A0 : Option Addr} {w : World} : ∀ x, x ∈ ob A0 → x ∈ ob A0 ∨ w.heap.size ≤ x := fun x hx => .inl hx
theorem u8_ones {w : World} : ∀ x cs, u8R w x cs → ∀ v, v ∈ cs → v.oneCell' = true := fun x cs h v hv => by
  rw [h.1] at hv
  simp at hv
  subst hv
  rfl
section
variable {n : Nat} {B : Option Addr}
def Far (n : Nat) (B : Option Addr) (X : List Nat) : Prop := 0 < n → ∀ x, x ∈ ob B → x ∉ X
theorem far_nil : Far n B [] := fun _ x _ => by simp
theorem far_cons {g : Nat} {X : List Nat} (h : 0 < n → ∀ x, x ∈ ob B → x ≠ g) (k : Far n B X) : Far n B (g :: X) := fun hn x hx => by
  rw [List.mem_cons]
  rintro (e | e)
  · exact h hn x hx e
  · exact k hn x hx e
theorem far_app {A : Option Addr} {X : List Nat} (h : Far n B (ob A)) (k : Far n B X) : Far n B (ob A ++ X) := fun hn x hx => by
  rw [List.mem_append]
  rintro (e | e)
  · exact h hn x hx e
  · exact k hn x hx e
theorem far_frm {A A0 : Option Addr} {w : World} (h : Far n B (ob A0)) (hl : 0 < n → ∀ x, x ∈ ob B → x < w.heap.size) (hat : ∀ x, x ∈ ob A → x ∈ ob A0 ∨ w.heap.size ≤ x) : Far n B (ob A) := fun hn x hx hx2 => by
  rcases hat x hx2 with k | k
  · exact h hn x hx k
  · have := hl hn x hx; omega
theorem far_own {α : Type} {base sz : Nat} {e : TypeId} {R : World → α → List Value → Prop} {w w' : World} {A : Option Addr} {m c : Nat} {xs : List α} (hl : 0 < n → ∀ x, x ∈ ob B → x < w.heap.size) (h : OwnG base e sz R w' (.slice A m c) xs) (hs : w.heap.size ≤ base) : Far n B (ob A) := fun hn x hx hx2 => by
  have := hl hn x hx
  have := ob_ge h x hx2
  omega
theorem RdG.low {α : Type} {m : Bool} {e : TypeId} {sz c : Nat} {R : World → α → List Value → Prop} {w : World} {xs : List α} (h : RdG m e sz R w (.slice B n c) xs) : 0 < n → ∀ x, x ∈ ob B → x < w.heap.size := fun hn x hx => by
  obtain ⟨A', c', hv, _, _, _, h3⟩ := h
  injection hv with e1 e2 e3
  subst e1 e2 e3
  obtain ⟨b, off, cells, t, fr, rfl, hh, _⟩ := h3 hn
  simp [ob] at hx
  subst hx
  exact blk_lt hh
theorem RdB.far {m : Bool} {c : Nat} {w w' : World} {xs : List Int} {X : List Nat} (h : RdB m w (.slice B n c) xs) (hu : Upd X w w') (hd : Far n B X) : RdB m w' (.slice B n c) xs := by
  obtain ⟨A', c', hv, h1, h2, h0, h3⟩ := h
  injection hv with e1 e2 e3
  subst e1 e2 e3
  refine ⟨_, _, rfl, h1, h2, h0, fun hp => ?_⟩
  obtain ⟨b, off, cells, t, fr, rfl, hh, h4, h5⟩ := h3 hp
  exact ⟨b, off, cells, t, fr, rfl, hu.blk (hd hp b (by simp [ob])) hh, h4, h5⟩
end
open Go.RowKit
def Apt (n : Nat) (X : List Nat) (w : World) : Prop := ∀ y, y ∈ X → n ≤ y ∨ ∃ cells t fr, w.heap[y]? = some (.cells cells t fr) ∧ t ∉ dataT
def evLow (n : Nat) (w : World) (x : Ev) (cs : List Value) : Prop := n ≤ w.heap.size ∧ ∀ (w' : World) (X : List Nat), Upd X w w' → Apt n X w → evR true w' x cs
theorem evLow.mk {w : World} {x : Ev} {cs : List Value} (h : evR true w x cs) : evLow w.heap.size w x cs := ⟨Nat.le_refl _, fun w' X hu ha => evR.upd hu (fun y hy => by
  rcases ha y hy with k | k
  · exact .inl k
  · exact .inr ⟨rfl, k⟩) x cs h⟩
theorem evLow.ev {n : Nat} {w : World} {x : Ev} {cs : List Value} (h : evLow n w x cs) : evR true w x cs := h.2 w [] (Upd.refl _ _) (fun y hy => by cases hy)
theorem evLow.mono {n n' : Nat} {w : World} {x : Ev} {cs : List Value} (hn : n ≤ n') (hs : n' ≤ w.heap.size) (h : evLow n w x cs) : evLow n' w x cs := ⟨hs, fun w' X hu ha => h.2 w' X hu fun y hy => by
  rcases ha y hy with k | k
  · exact .inl (Nat.le_trans hn k)
  · exact .inr k⟩
theorem evLow.upd {n : Nat} {w w' : World} {X : List Nat} {x : Ev} {cs : List Value} (hu : Upd X w w') (ha : Apt n X w) (h : evLow n w x cs) : evLow n w' x cs := by
  refine ⟨Nat.le_trans h.1 hu.size, fun w2 X2 hu2 ha2 => h.2 w2 (X ++ X2) ?_ ?_⟩
  · exact Upd.trans' (Upd.mono hu (fun y hy => .inl (List.mem_append_left _ hy))) hu2 (fun y hy => .inl (List.mem_append_right _ hy))
  · intro y hy
    rcases List.mem_append.1 hy with hy | hy
    · exact ha y hy
    · rcases ha2 y hy with k | ⟨cells, t, fr, k1, k2⟩
      · exact .inl k
      · by_cases hl : y < w.heap.size
        · by_cases hX : y ∈ X
          · exact ha y hX
          · exact .inr ⟨cells, t, fr, by rw [← hu.block y hl hX]; exact k1, k2⟩
        · exact .inl (Nat.le_trans h.1 (by omega))
theorem evLow.ones {n : Nat} {w : World} : ∀ (x : Ev) (cs : List Value), evLow n w x cs → ∀ v, v ∈ cs → v.oneCell' = true := fun x cs h => evR.ones x cs h.ev
abbrev OwnV (n base : Nat) (w : World) (v : Value) (xs : List Ev) : Prop := OwnG base 61 25 (evLow n) w v xs
theorem OwnG.map {α : Type} {base sz : Nat} {e : TypeId} {R R' : World → α → List Value → Prop} {w : World} {v : Value} {xs : List α} (h : OwnG base e sz R w v xs) (k : ∀ x cs, R w x cs → R' w x cs) : OwnG base e sz R' w v xs := by
  obtain ⟨cells, ho, hx⟩ := h
  refine ⟨cells, ho, fun j x hj => ?_⟩
  obtain ⟨cs, h1, h2, h3⟩ := hx j x hj
  exact ⟨cs, h1, k _ _ h2, h3⟩
theorem OwnE.low {base : Nat} {w : World} {v : Value} {xs : List Ev} (h : OwnE base w v xs) : OwnV w.heap.size base w v xs := OwnG.map h fun _ _ => evLow.mk
theorem OwnV.own {n base : Nat} {w : World} {v : Value} {xs : List Ev} (h : OwnV n base w v xs) : OwnE base w v xs := OwnG.map h fun _ _ q => q.ev
theorem OwnV.up {n n' base : Nat} {w : World} {v : Value} {xs : List Ev} (hn : n ≤ n') (hs : n' ≤ w.heap.size) (h : OwnV n base w v xs) : OwnV n' base w v xs := OwnG.map h fun _ _ q => q.mono hn hs
theorem apt_nil {n : Nat} {w : World} : Apt n [] w := fun y hy => by cases hy
theorem apt_b {n g : Nat} {w : World} {cs : Array Value} {t : TypeId} {fr : Nat × Nat} {X : List Nat} (hb : w.heap[g]? = some (.cells cs t fr)) (ht : dataT.contains t = false) (k : Apt n X w) : Apt n (g :: X) w := fun y hy => by
  rcases List.mem_cons.1 hy with rfl | hy
  · exact .inr ⟨cs, t, fr, hb, by simpa using ht⟩
  · exact k y hy
theorem apt_n {n : Nat} {w : World} {A : Option Addr} {X : List Nat} (h : ∀ x, x ∈ ob A → n ≤ x) (k : Apt n X w) : Apt n (ob A ++ X) w := fun y hy => by
  rcases List.mem_append.1 hy with hy | hy
  · exact .inl (h y hy)
  · exact k y hy
theorem apt_o {α : Type} {n base sz m c : Nat} {e : TypeId} {R : World → α → List Value → Prop} {w : World} {A : Option Addr} {xs : List α} {X : List Nat} (h : OwnG base e sz R w (.slice A m c) xs) (ht : dataT.contains e = false) (k : Apt n X w) : Apt n (ob A ++ X) w := fun y hy => by
  rcases List.mem_append.1 hy with hy | hy
  · rcases ob_cases h with rfl | ⟨g, cells, rfl, _, h1⟩
    · simp [ob] at hy
    · simp [ob] at hy
      subst hy
      exact .inr ⟨_, _, _, h1, by simpa using ht⟩
  · exact k y hy
theorem low_none {n : Nat} : ∀ x, x ∈ ob none → n ≤ x := fun x hx => by simp [ob] at hx
theorem low_frm {n : Nat} {A A0 : Option Addr} {w : World} (hat : ∀ x, x ∈ ob A → x ∈ ob A0 ∨ w.heap.size ≤ x) (h : ∀ x, x ∈ ob A0 → n ≤ x) (hs : n ≤ w.heap.size) : ∀ x, x ∈ ob A → n ≤ x := fun x hx => by
  rcases hat x hx with k | k
  · exact h x k
  · exact Nat.le_trans hs k
section
variable {n base g cp : Nat} {w w' : World} {A : Option Addr} {X : List Nat}
theorem ob_none_not : ∀ x, x ∈ ob none → x ∉ X := fun x hx => by simp [ob] at hx
theorem apt_s {t : TypeId} (hb : ∃ cs fr, w.heap[g]? = some (.cells cs t fr)) (ht : dataT.contains t = false) (k : Apt n X w) : Apt n (g :: X) w := by
  obtain ⟨cs, fr, hb⟩ := hb
  exact apt_b hb ht k
theorem low_le {n' : Nat} (hn : n ≤ n') (h : ∀ x, x ∈ ob A → n' ≤ x) : ∀ x, x ∈ ob A → n ≤ x := fun x hx => Nat.le_trans hn (h x hx)
theorem far_made {k : Nat} {B : Option Addr} (hl : 0 < k → ∀ x, x ∈ ob B → x < w.heap.size) (hg : w.heap.size ≤ g) : 0 < k → ∀ x, x ∈ ob B → x ≠ g := fun hk x hx e => by
  have := hl hk x hx
  omega
theorem far_ne {k : Nat} {B : Option Addr} (h : g ∉ ob B) : 0 < k → ∀ x, x ∈ ob B → x ≠ g := fun _ x hx e => h (e ▸ hx)
theorem far_none {k : Nat} {B : Option Addr} : Far k B (ob none) := fun _ x _ hx => by simp [ob] at hx
theorem far_rows {k : Nat} {B : Option Addr} (h : ∀ x, x ∈ ob B → x ∉ ob A) : Far k B (ob A) := fun _ x hx => h x hx
end
open Go.RowKit
theorem nx4 {C : Prop} (S : SM) (h0 : S.nx = 0 → C) (h1 : S.nx = 1 → C) (h2 : S.nx = 2 → C) (h3 : S.nx = 3 → C) : C := by
  have h : S.nx = 0 ∨ S.nx = 1 ∨ S.nx = 2 ∨ S.nx = 3 := by
    unfold SM.nx
    (repeat' split) <;> simp
  rcases h with h | h | h | h
  · exact h0 h
  · exact h1 h
  · exact h2 h
  · exact h3 h
theorem nx_6 {S : SM} (h : S.nx ≠ 0) : 6 ≤ S.held.length := by
  unfold SM.nx at h
  split at h
  · exact absurd rfl h
  · omega
theorem smbap_next0 {w : World} {g : Nat} {S : SM} {A : Option Addr} {cp : Nat} (hb : SmB w g S A cp) (hr : RdB true w (.slice A S.held.length cp) S.held) (h : S.nx = 0) : Calls Tryz.prog 44 #[.pointer (some ⟨g, 0, none⟩)] w (PVal (.nilFunc) w) := by
  have k := smbap_next hb hr
  unfold SM.fn at k
  rw [h] at k
  exact k
theorem smbap_next1 {w : World} {g : Nat} {S : SM} {A : Option Addr} {cp : Nat} (hb : SmB w g S A cp) (hr : RdB true w (.slice A S.held.length cp) S.held) (h : S.nx = 1) : Calls Tryz.prog 44 #[.pointer (some ⟨g, 0, none⟩)] w (PVal (.func (.func 60) #[.pointer (some ⟨g, 0, none⟩)] #[]) w) := by
  have k := smbap_next hb hr
  unfold SM.fn at k
  rw [h] at k
  exact k
theorem smbap_next2 {w : World} {g : Nat} {S : SM} {A : Option Addr} {cp : Nat} (hb : SmB w g S A cp) (hr : RdB true w (.slice A S.held.length cp) S.held) (h : S.nx = 2) : Calls Tryz.prog 44 #[.pointer (some ⟨g, 0, none⟩)] w (PVal (.func (.func 61) #[.pointer (some ⟨g, 0, none⟩)] #[]) w) := by
  have k := smbap_next hb hr
  unfold SM.fn at k
  rw [h] at k
  exact k
theorem smbap_next3 {w : World} {g : Nat} {S : SM} {A : Option Addr} {cp : Nat} (hb : SmB w g S A cp) (hr : RdB true w (.slice A S.held.length cp) S.held) (h : S.nx = 3) : Calls Tryz.prog 44 #[.pointer (some ⟨g, 0, none⟩)] w (PVal (.func (.func 62) #[.pointer (some ⟨g, 0, none⟩)] #[]) w) := by
  have k := smbap_next hb hr
  unfold SM.fn at k
  rw [h] at k
  exact k
def SM.ok (S : SM) : Prop := (0 ≤ S.skip ∧ S.skip < 65536) ∧ (∀ x, x ∈ S.held → 0 ≤ x ∧ x < 256) ∧ (S.held.length < 6 ∨ 2 ≤ S.size ∧ S.size ≤ 254 ∧ (S.held.length : Int) < 6 + S.size)
theorem SM.ok_le {S : SM} (h : S.ok) : S.held.length ≤ 259 := by
  obtain ⟨_, _, h | h⟩ := h
  · omega
  · omega
theorem SM.size_app {S : SM} {c : Int} (h : 6 ≤ S.held.length) : (SM.mk S.dir (S.held ++ [c]) S.skip).size = S.size := by
  unfold SM.size
  simp only [List.getD_eq_getElem?_getD]
  rw [List.getElem?_append_left (by omega), List.getElem?_append_left (by omega)]
theorem SM.byte_ok {S S2 : SM} {c : Int} {L2 : List Ev} (h : S.ok) (hc : 0 ≤ c ∧ c < 256) (hx : S.byte c = (S2, L2)) : S2.ok ∧ L2.length ≤ 1 := by
  obtain ⟨h1, h2, h3⟩ := h
  unfold SM.byte at hx
  split at hx
  · injection hx with e1 e2
    subst e1 e2
    exact ⟨⟨⟨by show 0 ≤ S.skip - 1; omega, by show S.skip - 1 < 65536; omega⟩, h2, h3⟩, Nat.zero_le _⟩
  have hr : ∀ x, x ∈ (SM.mk S.dir (S.held ++ [c]) S.skip).held → 0 ≤ x ∧ x < 256 := fun x hx => by
    rcases List.mem_append.1 hx with h | h
    · exact h2 x h
    · rw [List.mem_singleton] at h; rw [h]; exact hc
  have hz := SM.size_rng hr
  have hn : ∀ d k, (0 ≤ k ∧ k < 65536) → (SM.mk d [] k).ok := fun d k hk => ⟨hk, fun x hx => (by cases hx), .inl (show 0 < 6 by omega)⟩
  unfold SM.does at hx
  have hnx : ∀ i, (SM.mk S.dir (S.held ++ [c]) S.skip).nx = i → i = 0 ∨ i = 1 ∨ i = 2 ∨ i = 3 := by
    intro i hi
    subst hi
    unfold SM.nx
    (repeat' split) <;> simp
  rcases hnx _ rfl with e | e | e | e <;> rw [e] at hx <;> injection hx with e1 e2 <;> subst e1 e2
  · refine ⟨⟨h1, hr, ?_⟩, Nat.zero_le _⟩
    unfold SM.nx at e
    by_cases h6 : (SM.mk S.dir (S.held ++ [c]) S.skip).held.length < 6
    · exact .inl h6
    rw [if_neg h6] at e
    split at e
    · cases e
    split at e
    · cases e
    split at e
    · cases e
    rename_i k1 k2 k3
    refine .inr ⟨by omega, by omega, ?_⟩
    have hl : (SM.mk S.dir (S.held ++ [c]) S.skip).held.length = S.held.length + 1 := by simp
    rcases h3 with h3 | ⟨h4, h5, h7⟩
    · omega
    · by_cases h8 : 6 ≤ S.held.length
      · rw [SM.size_app h8] at k1 k2 k3 ⊢
        omega
      · omega
  · exact ⟨hn _ _ hz, Nat.le_refl _⟩
  · exact ⟨hn _ _ hz, Nat.le_refl _⟩
  · exact ⟨hn _ _ h1, Nat.le_refl _⟩
theorem sm_snoc {S0 T T2 : SM} {L L2 : List Ev} {b : List Int} {k : Nat} (hk : k < b.length) (h : (T, L) = S0.feed (b.take k)) (hx : T.byte (b.getD k 0) = (T2, L2)) : (T2, L ++ L2) = S0.feed (b.take (k + 1)) := by
  rw [List.take_succ_eq_append_getElem hk]
  unfold SM.feed at h ⊢
  rw [List.foldl_append, ← h]
  rw [List.getD_eq_getElem?_getD, List.getElem?_eq_getElem hk] at hx
  simp only [Option.getD_some] at hx
  simp only [List.foldl_cons, List.foldl_nil, hx]
theorem sm_snoc0 {S0 T T2 : SM} {L : List Ev} {b : List Int} {k : Nat} (hk : k < b.length) (h : (T, L) = S0.feed (b.take k)) (hx : T.byte (b.getD k 0) = (T2, [])) : (T2, L) = S0.feed (b.take (k + 1)) := by
  have := sm_snoc hk h hx
  rwa [List.append_nil] at this
theorem byte_skip {T : SM} {c : Int} (h : 0 < T.skip) : T.byte c = (⟨T.dir, T.held, T.skip - 1⟩, []) := by unfold SM.byte; rw [if_pos h]
theorem byte_0 {T : SM} {c : Int} (h : ¬ 0 < T.skip) (e : (SM.mk T.dir (T.held ++ [c]) T.skip).nx = 0) : T.byte c = (⟨T.dir, T.held ++ [c], T.skip⟩, []) := by unfold SM.byte; rw [if_neg h]; unfold SM.does; rw [e]; rfl
theorem byte_1 {T : SM} {c : Int} (h : ¬ 0 < T.skip) (e : (SM.mk T.dir (T.held ++ [c]) T.skip).nx = 1) : T.byte c = (⟨T.dir, [], (SM.mk T.dir (T.held ++ [c]) T.skip).size⟩, [Ev.bad 3]) := by unfold SM.byte; rw [if_neg h]; unfold SM.does; rw [e]; rfl
theorem byte_2 {T : SM} {c : Int} (h : ¬ 0 < T.skip) (e : (SM.mk T.dir (T.held ++ [c]) T.skip).nx = 2) : T.byte c = (⟨T.dir, [], (SM.mk T.dir (T.held ++ [c]) T.skip).size⟩, [Ev.bad 5]) := by unfold SM.byte; rw [if_neg h]; unfold SM.does; rw [e]; rfl
theorem byte_3 {T : SM} {c : Int} {F : Frm} {E : Int} (h : ¬ 0 < T.skip) (e : (SM.mk T.dir (T.held ++ [c]) T.skip).nx = 3) (hX : mbapP T.dir (T.held ++ [c]) = (F, E)) : T.byte c = (⟨T.dir, [], T.skip⟩, [⟨E, F⟩]) := by
  unfold SM.byte
  rw [if_neg h]
  unfold SM.does
  rw [e]
  show (SM.mk T.dir [] T.skip, [Ev.mk (mbapP T.dir (T.held ++ [c])).2 (mbapP T.dir (T.held ++ [c])).1]) = _
  rw [hX]
theorem smbap_whole_x {w : World} {g : Nat} {d k : Int} {h : List Int} {A : Option Addr} {cp : Nat} {F : Frm} {E : Int} (hX : mbapP d h = (F, E)) (hb : SmB w g ⟨d, h, k⟩ A cp) (hr : RdB true w (.slice A h.length cp) h) (hl : h.length ≤ 1048576) : Calls Tryz.prog 62 #[.pointer (some ⟨g, 0, none⟩)] w (PDo ⟨d, [], k⟩ [⟨E, F⟩] g w) := by
  have q := smbap_whole (S := ⟨d, h, k⟩) hb hr hl
  rw [hX] at q
  exact q
def PFd (base n0 : Nat) (S2 : SM) (L : List Ev) (g : Nat) (A : Option Addr) (w : World) (e : Ending) (w' : World) : Prop := ∃ v A2 cp2 n2, e = .returned v ∧ OwnV n2 w.heap.size w' v L ∧ SmB w' g S2 A2 cp2 ∧ OwnB base w' (.slice A2 S2.held.length cp2) S2.held ∧ (∀ x, x ∈ ob A2 → x ∈ ob A ∨ w.heap.size ≤ x) ∧ (n0 ≤ n2 ∧ n2 ≤ w'.heap.size) ∧ (∀ x, x ∈ ob A2 → n2 ≤ x) ∧ Upd (g :: (ob A ++ [])) w w'
theorem getDrg {b : List Int} (h : ∀ x, x ∈ b → 0 ≤ x ∧ x < 256) (k : Nat) : 0 ≤ b.getD k 0 ∧ b.getD k 0 < 256 := by
  rw [List.getD_eq_getElem?_getD]
  cases hj : b[k]? with
  | none => simp
  | some x => exact h x (List.mem_of_getElem? hj)
set_option maxRecDepth 100000 in
set_option maxHeartbeats 4000000 in
theorem smbap_feed0 {w : World} {g base : Nat} {S : SM} {A : Option Addr} {cp : Nat} {m : Bool} {B : Option Addr} {cpb : Nat} {b : List Int} (hb : SmB w g S A cp) (ho : OwnB base w (.slice A S.held.length cp) S.held) (hbs : base ≤ w.heap.size) (hok0 : S.ok) {n0 : Nat} (hn0 : n0 ≤ w.heap.size) (hlo : ∀ x, x ∈ ob A → n0 ≤ x) (hsl : RdB m w (.slice B b.length cpb) b) (hdg : 0 < b.length → ∀ x, x ∈ ob B → x ≠ g) (hda : Far b.length B (ob A)) (hbl : b.length ≤ 1048576) :
    Calls Tryz.prog 27 #[.pointer (some ⟨g, 0, none⟩), .slice B b.length cpb] w (PFd base n0 (S.feed b).1 (S.feed b).2 g A w) := by
 have hdl := RdG.low hsl
 have hok0l := SM.ok_le hok0
 have hrb := RdB.range hsl
 refine en 47 Tryz.func27 rfl <| sg <| Pl 1 <| ng <| Pl 1 <| nt <| sq <| sg <| ?_
 refine Pl 3 <| nt <| bk <| ?_
 refine glp (fun x => [(0, .pointer (some ⟨g, 0, none⟩)), (4, .slice none 0 0), (5, .slice x.2.2.2.2.2.1 x.2.2.1.length x.2.2.2.2.2.2.1), (9, .slice B b.length cpb), (10, .int .i64 ((b.length : Nat) : Int)), (11, .int .i64 ((x.1 : Nat) : Int))]) (fun (x : Nat × SM × List Ev × Option Addr × Nat × Option Addr × Nat × Nat) w' => Upd (g :: (ob A ++ [])) w w' ∧ SmB w' g x.2.1 x.2.2.2.1 x.2.2.2.2.1 ∧ OwnB base w' (.slice x.2.2.2.1 x.2.1.held.length x.2.2.2.2.1) x.2.1.held ∧ OwnV x.2.2.2.2.2.2.2 w.heap.size w' (.slice x.2.2.2.2.2.1 x.2.2.1.length x.2.2.2.2.2.2.1) x.2.2.1 ∧ x.2.2.2.2.2.2.2 ≤ w'.heap.size ∧ RdB m w' (.slice B b.length cpb) b ∧ ((x.2.1, x.2.2.1) = S.feed (b.take x.1)) ∧ (x.2.1.ok) ∧ (x.2.1.held.length ≤ 259) ∧ (x.1 ≤ b.length) ∧ (x.2.2.1.length ≤ x.1) ∧ (∀ y, y ∈ ob x.2.2.2.1 → y ∈ ob A ∨ w.heap.size ≤ y) ∧ (n0 ≤ x.2.2.2.2.2.2.2) ∧ (∀ y, y ∈ ob x.2.2.2.1 → x.2.2.2.2.2.2.2 ≤ y)) (fun x => b.length - x.1) (0, S, [], A, cp, none, 0, n0) ⟨Upd.refl _ _, hb, ho, (OwnG.nil w.heap.size _ _ (evLow n0) _), (Nat.le_trans hn0 lr), hsl, rfl, hok0, hok0l, (by (try dsimp only); exact Nat.zero_le _), (by (try dsimp only); exact Nat.zero_le _), hat_self, (by (try dsimp only); exact Nat.le_refl _), hlo⟩ ?_
 rintro ⟨k, T, L, Ah, ch, Bq, cq, n⟩ w10 ⟨hu11, f12, f13, f14, f15, f16, p17, p18, p19, p20, p21, p22, p23, p24⟩
 refine wkc [(0, .pointer (some ⟨g, 0, none⟩)), (4, .slice none 0 0), (5, .slice Bq L.length cq), (9, .slice B b.length cpb), (10, .int .i64 ((b.length : Nat) : Int)), (11, .int .i64 ((k : Nat) : Int))] ?_
 have f26 : SmB w10 g T Ah ch := f12
 have f27 : OwnB base w10 (.slice Ah T.held.length ch) T.held := f13
 have f28 : OwnV n w.heap.size w10 (.slice Bq L.length cq) L := f14
 have f29 : n ≤ w10.heap.size := f15
 have hnl := f29
 have f30 : RdB m w10 (.slice B b.length cpb) b := f16
 have p31 : (T, L) = S.feed (b.take k) := p17
 have p32 : T.ok := p18
 have p33 : T.held.length ≤ 259 := p19
 have p34 : k ≤ b.length := p20
 have p35 : L.length ≤ k := p21
 have p36 : ∀ y, y ∈ ob Ah → y ∈ ob A ∨ w.heap.size ≤ y := p22
 have p37 : n0 ≤ n := p23
 have p38 : ∀ y, y ∈ ob Ah → n ≤ y := p24
 have hlow := p38
 have hn0l := p37
 have hat0 := p36
 have hok := p32
 have hpj := p31
 have hle := SM.ok_le hok
 have hsk := hok.1
 refine sg <| Pl 1 <| nt <| sq <| cb ((decide (((k : Nat) : Int) < ((b.length : Nat) : Int)))) (fun q39 => ?_) (fun q39 => ?_)
 have q39p := of_decide_eq_true q39
 refine skn <| sq <| bk <| sg <| x23 (RdB.at_ f30 k (by omega)) fun b40 o41 hA42 hl43 hr44 => L0 <| Oix b.length k hA42 (by omega) <| L0 <| Old (p := ⟨b40, o41 + k, none⟩) (v := .int .u8 (b.getD k 0)) hl43 <| Pl 1 <| nt <| sq <| sq <| ?_
 refine go <| Pl 3 <| L0 <| Olb f26 2 <| Pl 1 <| nt <| cb ((decide (0 < T.skip))) (fun q45 => ?_) (fun q45 => ?_)
 have q45p := of_decide_eq_true q45
 refine sg <| Pl 3 <| L0 <| Olb f26 2 <| L0 <| Oi (T.skip - 1) <| Pl 2 <| L0 <| Ost f26 2 #[.int .i64 T.dir, .slice Ah T.held.length ch, .int .i64 (T.skip - 1)] fun w46 B47 hu48 => nt <| xt <| tx <| bx <| tn <| go <| ?_
 refine L0 <| Oi (((k : Nat) : Int) + 1) <| Pl 1 <| nl <| ?_
 have U49 := u1 hu11 hu48 im
 have r50 := own_stay f27 hu48 (fun x hx => (not_cons (fun e => (not_type f26 f27 (by decide)) (e ▸ hx)) not0)) (fun _ _ h => h)
 have r51 := own_stay f28 hu48 (fun x hx => (not_cons (fun e => (not_old (blk_lt hb) lr f28) (e ▸ hx)) not0)) (fun x cs q => evLow.upd hu48 (apt_b f26 (by decide) apt_nil) q)
 have r52 := RdB.far f30 hu48 (far_cons hdg far_nil)
 have hx53 := byte_skip (T := T) (c := (b.getD k 0)) q45p
 have ho54 := SM.byte_ok hok (getDrg hrb k) hx53
 exact lpe ((k + 1), (SM.mk T.dir T.held (T.skip - 1)), L, Ah, ch, Bq, cq, n) ⟨U49, B47, r50, r51, (Nat.le_trans hnl hu48.size), r52, (by (try dsimp only); exact sm_snoc0 (by omega) hpj hx53), (by (try dsimp only); exact ho54.1), (by (try dsimp only); have q := SM.ok_le ho54.1; exact q), (by (try dsimp only); omega), (by (try dsimp only); (try simp only [List.length_append, List.length_cons, List.length_nil]); omega), (by (try dsimp only); exact hat0), (by (try dsimp only); exact hn0l), (by (try dsimp only); exact hlow)⟩ (by omega)
 have q45p := of_decide_eq_false q45
 refine skn <| sg <| Pl 4 <| L0 <| Olb f26 1 <| Pl 1 <| L0 <| Olt (m := 1) (e := 5) #[.int .u8 (b.getD k 0)] fun g55 w56 hg57 B58 hu59 => ?_
 have ow60 := litB hg57 (xs := [(b.getD k 0)]) (by as_aux_lemma => kernel_rfl) (rng_cons (by omega) rng_nil) (by (try simp only [List.length_cons, List.length_nil]); omega) B58
 have r61 := own_stay f27 hu59 (fun x hx => not0) (fun _ _ h => h)
 refine L0 <| Oape (R := u8R) (xs := T.held) (ys := ([(b.getD k 0)])) (.int .u8 0) 1 1 r61 (ow60).rd u8_ones (fun _ _ _ _ h => h) (by (try simp only [List.length_append, List.length_cons, List.length_nil, putW_length]); omega) (Nat.le_trans hbs (le hu11.size hu59.size)) fun A62 cp63 w64 ho65 hu66 hat67 => Pl 2 <| ?_
 have U68 := ut (Upd.mono (S' := (ob Ah ++ [])) hu59 all0) hu66 (all_app (fun x hx => Or.inl (by simp [hx])) all0)
 have r69 := Upd.blk U68 (not_app (not_type f26 f27 (by decide)) not0) f26
 refine L0 <| Ost r69 1 #[.int .i64 T.dir, .slice A62 ((T.held ++ [(b.getD k 0)]).length) cp63, .int .i64 T.skip] fun w70 B71 hu72 => ng <| Pl 1 <| ?_
 have U74 := ut0 hu11 hu59
 have U75 := ut U74 hu66 (all_app (ob_from hat0 (fun x hx => Or.inl (by simp [hx])) lr) all0)
 have U76 := u1 U75 hu72 im
 refine nx4 (SM.mk T.dir (T.held ++ [(b.getD k 0)]) T.skip) (fun hn73 => ?_) (fun hn73 => ?_) (fun hn73 => ?_) (fun hn73 => ?_)
 have r79 := own_stay ho65 hu72 (fun x hx => (not_cons (fun e => (not_type r69 ho65 (by decide)) (e ▸ hx)) not0)) (fun _ _ h => h)
 refine L0 <| Oc <| m1 (smbap_next0 (S := (SM.mk T.dir (T.held ++ [(b.getD k 0)]) T.skip)) B71 (r79).rd hn73) fun w77 hu78 => Pl 1 <| ng <| Pl 2 <| nt <| c0 <| sk <| bn <| tn <| go <| ?_
 refine L0 <| Oi (((k : Nat) : Int) + 1) <| Pl 1 <| nl <| ?_
 have U80 := ut0 U76 hu78
 have r81 := ub hu78 B71
 have r82 := own_stay r79 hu78 (fun x hx => not0) (fun _ _ h => h)
 have U83 := u1 (Upd.mono (S' := (ob Ah ++ (g :: []))) U68 (all_app (fun x hx => Or.inl (by simp [hx])) all0)) hu72 im
 have U84 := ut0 U83 hu78
 have r85 := own_stay f28 U84 (fun x hx => (not_app ((rows_type f28 f27 (by decide)) x hx) (not_cons (fun e => (not_old (blk_lt hb) lr f28) (e ▸ hx)) not0))) (fun x cs q => evLow.upd U84 (apt_n hlow (apt_b f26 (by decide) apt_nil)) q)
 have r86 := RdB.far f30 U84 (far_app (far_frm hda hdl hat0) (far_cons hdg far_nil))
 have hx87 := byte_0 (T := T) (c := (b.getD k 0)) q45p hn73
 have ho88 := SM.byte_ok hok (getDrg hrb k) hx87
 exact lpe ((k + 1), (SM.mk T.dir (T.held ++ [(b.getD k 0)]) T.skip), L, A62, cp63, Bq, cq, n) ⟨U80, r81, r82, r85, (Nat.le_trans hnl U84.size), r86, (by (try dsimp only); exact sm_snoc0 (by omega) hpj hx87), (by (try dsimp only); exact ho88.1), (by (try dsimp only); have q := SM.ok_le ho88.1; exact q), (by (try dsimp only); omega), (by (try dsimp only); (try simp only [List.length_append, List.length_cons, List.length_nil]); omega), (by (try dsimp only); exact (hat_trans hat67 hat0 U74.size)), (by (try dsimp only); exact hn0l), (by (try dsimp only); exact (low_frm hat67 hlow (Nat.le_trans hnl hu59.size)))⟩ (by omega)
 have r91 := own_stay ho65 hu72 (fun x hx => (not_cons (fun e => (not_type r69 ho65 (by decide)) (e ▸ hx)) not0)) (fun _ _ h => h)
 refine L0 <| Oc <| m1 (smbap_next1 (S := (SM.mk T.dir (T.held ++ [(b.getD k 0)]) T.skip)) B71 (r91).rd hn73) fun w89 hu90 => Pl 1 <| ng <| Pl 2 <| nt <| c1 <| go <| Pl 2 <| ?_
 have r97 := ub hu90 B71
 have r98 := own_stay r91 hu90 (fun x hx => not0) (fun _ _ h => h)
 refine L0 <| Ocv #[.pointer (some ⟨g, 0, none⟩)] #[] (args := #[.pointer (some ⟨g, 0, none⟩)]) <| so3 (smbap_long (S := (SM.mk T.dir (T.held ++ [(b.getD k 0)]) T.skip)) r97 (r98).rd (nx_6 (by rw [hn73]; decide))) fun A99 cp100 w92 rd103 hl101 hm102 B95 hu96 => ?_
 have U104 := u1 (Upd.mono (S' := (ob Ah ++ (g :: []))) U68 (all_app (fun x hx => Or.inl (by simp [hx])) all0)) hu72 im
 have U105 := ut0 U104 hu90
 have U106 := u1 U105 hu96 im
 have r107 := own_stay f28 U106 (fun x hx => (not_app ((rows_type f28 f27 (by decide)) x hx) (not_cons (fun e => (not_old (blk_lt hb) lr f28) (e ▸ hx)) not0))) (fun x cs q => evLow.upd U106 (apt_n hlow (apt_b f26 (by decide) apt_nil)) q)
 have hl114 : n ≤ w92.heap.size := Nat.le_trans hnl U106.size
 refine L0 <| Oape (R := evLow w92.heap.size) (xs := L) (ys := ([Ev.bad 3])) (.agg #[.int .i64 0, .int .u8 0, .int .u16 0, .int .u8 0, .int .u8 0, .int .u16 0, .int .u16 0, .int .u16 0, .int .u16 0, .int .u16 0, .int .u16 0, .int .u16 0, .int .u16 0, .int .u16 0, .int .u16 0, .slice none 0 0, .slice none 0 0, .slice none 0 0, .slice none 0 0, .int .u8 0, .int .u8 0, .int .u8 0, .int .u8 0, .int .u8 0, .slice none 0 0]) 25 168 (OwnV.up hl114 (Nat.le_refl _) r107) (OwnE.low rd103).rd evLow.ones (fun w' hv x cs q => evLow.upd hv (apt_o r107 (by decide) apt_nil) q) (by (try simp only [List.length_append, List.length_cons, List.length_nil, putW_length]); omega) (le (le (le (le (le hu11.size hu59.size) hu66.size) hu72.size) hu90.size) hu96.size) fun A108 cp109 w110 ho111 hu112 hat113 => Pl 1 <| nl <| bn <| tn <| go <| L0 <| Oi (((k : Nat) : Int) + 1) <| Pl 1 <| nl <| ?_
 have U115 := ut0 U76 hu90
 have U116 := u1 U115 hu96 im
 have U117 := ut U116 hu112 (all_app (ob_new f28 lr) all0)
 have r118 := Upd.blk hu112 (not_app (not_old (blk_lt hb) lr f28) not0) B95
 have U119 := ut (Upd.mono (S' := (ob Ah ++ (g :: (ob Bq ++ [])))) U106 (all_app (fun x hx => Or.inl (by simp [hx])) (ac im all0))) hu112 (all_app (fun x hx => Or.inl (by simp [hx])) all0)
 have r120 := RdB.far f30 U119 (far_app (far_frm hda hdl hat0) (far_cons hdg (far_app (far_own hdl f28 (Nat.le_refl _)) far_nil)))
 have hx121 := byte_1 (T := T) (c := (b.getD k 0)) q45p hn73
 have ho122 := SM.byte_ok hok (getDrg hrb k) hx121
 exact lpe ((k + 1), (SM.mk T.dir [] (SM.mk T.dir (T.held ++ [(b.getD k 0)]) T.skip).size), (L ++ [Ev.bad 3]), none, 0, A108, cp109, w92.heap.size) ⟨U117, r118, (OwnG.nil base _ _ u8R _), ho111, hu112.size, r120, (by (try dsimp only); exact sm_snoc (by omega) hpj hx121), (by (try dsimp only); exact ho122.1), (by (try dsimp only); have q := SM.ok_le ho122.1; exact q), (by (try dsimp only); omega), (by (try dsimp only); (try simp only [List.length_append, List.length_cons, List.length_nil]); omega), (by (try dsimp only); exact hat_none), (by (try dsimp only); exact Nat.le_trans hn0l (Nat.le_trans hnl U106.size)), (by (try dsimp only); exact low_none)⟩ (by omega)
 have r125 := own_stay ho65 hu72 (fun x hx => (not_cons (fun e => (not_type r69 ho65 (by decide)) (e ▸ hx)) not0)) (fun _ _ h => h)
 refine L0 <| Oc <| m1 (smbap_next2 (S := (SM.mk T.dir (T.held ++ [(b.getD k 0)]) T.skip)) B71 (r125).rd hn73) fun w123 hu124 => Pl 1 <| ng <| Pl 2 <| nt <| c1 <| go <| Pl 2 <| ?_
 have r131 := ub hu124 B71
 have r132 := own_stay r125 hu124 (fun x hx => not0) (fun _ _ h => h)
 refine L0 <| Ocv #[.pointer (some ⟨g, 0, none⟩)] #[] (args := #[.pointer (some ⟨g, 0, none⟩)]) <| so3 (smbap_small (S := (SM.mk T.dir (T.held ++ [(b.getD k 0)]) T.skip)) r131 (r132).rd (nx_6 (by rw [hn73]; decide))) fun A133 cp134 w126 rd137 hl135 hm136 B129 hu130 => ?_
 have U138 := u1 (Upd.mono (S' := (ob Ah ++ (g :: []))) U68 (all_app (fun x hx => Or.inl (by simp [hx])) all0)) hu72 im
 have U139 := ut0 U138 hu124
 have U140 := u1 U139 hu130 im
 have r141 := own_stay f28 U140 (fun x hx => (not_app ((rows_type f28 f27 (by decide)) x hx) (not_cons (fun e => (not_old (blk_lt hb) lr f28) (e ▸ hx)) not0))) (fun x cs q => evLow.upd U140 (apt_n hlow (apt_b f26 (by decide) apt_nil)) q)
 have hl148 : n ≤ w126.heap.size := Nat.le_trans hnl U140.size
 refine L0 <| Oape (R := evLow w126.heap.size) (xs := L) (ys := ([Ev.bad 5])) (.agg #[.int .i64 0, .int .u8 0, .int .u16 0, .int .u8 0, .int .u8 0, .int .u16 0, .int .u16 0, .int .u16 0, .int .u16 0, .int .u16 0, .int .u16 0, .int .u16 0, .int .u16 0, .int .u16 0, .int .u16 0, .slice none 0 0, .slice none 0 0, .slice none 0 0, .slice none 0 0, .int .u8 0, .int .u8 0, .int .u8 0, .int .u8 0, .int .u8 0, .slice none 0 0]) 25 168 (OwnV.up hl148 (Nat.le_refl _) r141) (OwnE.low rd137).rd evLow.ones (fun w' hv x cs q => evLow.upd hv (apt_o r141 (by decide) apt_nil) q) (by (try simp only [List.length_append, List.length_cons, List.length_nil, putW_length]); omega) (le (le (le (le (le hu11.size hu59.size) hu66.size) hu72.size) hu124.size) hu130.size) fun A142 cp143 w144 ho145 hu146 hat147 => Pl 1 <| nl <| bn <| tn <| go <| L0 <| Oi (((k : Nat) : Int) + 1) <| Pl 1 <| nl <| ?_
 have U149 := ut0 U76 hu124
 have U150 := u1 U149 hu130 im
 have U151 := ut U150 hu146 (all_app (ob_new f28 lr) all0)
 have r152 := Upd.blk hu146 (not_app (not_old (blk_lt hb) lr f28) not0) B129
 have U153 := ut (Upd.mono (S' := (ob Ah ++ (g :: (ob Bq ++ [])))) U140 (all_app (fun x hx => Or.inl (by simp [hx])) (ac im all0))) hu146 (all_app (fun x hx => Or.inl (by simp [hx])) all0)
 have r154 := RdB.far f30 U153 (far_app (far_frm hda hdl hat0) (far_cons hdg (far_app (far_own hdl f28 (Nat.le_refl _)) far_nil)))
 have hx155 := byte_2 (T := T) (c := (b.getD k 0)) q45p hn73
 have ho156 := SM.byte_ok hok (getDrg hrb k) hx155
 exact lpe ((k + 1), (SM.mk T.dir [] (SM.mk T.dir (T.held ++ [(b.getD k 0)]) T.skip).size), (L ++ [Ev.bad 5]), none, 0, A142, cp143, w126.heap.size) ⟨U151, r152, (OwnG.nil base _ _ u8R _), ho145, hu146.size, r154, (by (try dsimp only); exact sm_snoc (by omega) hpj hx155), (by (try dsimp only); exact ho156.1), (by (try dsimp only); have q := SM.ok_le ho156.1; exact q), (by (try dsimp only); omega), (by (try dsimp only); (try simp only [List.length_append, List.length_cons, List.length_nil]); omega), (by (try dsimp only); exact hat_none), (by (try dsimp only); exact Nat.le_trans hn0l (Nat.le_trans hnl U140.size)), (by (try dsimp only); exact low_none)⟩ (by omega)
 have r159 := own_stay ho65 hu72 (fun x hx => (not_cons (fun e => (not_type r69 ho65 (by decide)) (e ▸ hx)) not0)) (fun _ _ h => h)
 refine L0 <| Oc <| m1 (smbap_next3 (S := (SM.mk T.dir (T.held ++ [(b.getD k 0)]) T.skip)) B71 (r159).rd hn73) fun w157 hu158 => Pl 1 <| ng <| Pl 2 <| nt <| c1 <| go <| Pl 2 <| ?_
 refine pr (mbapP T.dir (T.held ++ [(b.getD k 0)])) fun F165 E166 hX167 => ?_
 have r168 := ub hu158 B71
 have r169 := own_stay r159 hu158 (fun x hx => not0) (fun _ _ h => h)
 refine L0 <| Ocv #[.pointer (some ⟨g, 0, none⟩)] #[] (args := #[.pointer (some ⟨g, 0, none⟩)]) <| so3 (smbap_whole_x (d := T.dir) (h := T.held ++ [(b.getD k 0)]) (k := T.skip) hX167 r168 (r169).rd (by simp only [List.length_append, List.length_cons, List.length_nil]; omega)) fun A170 cp171 w160 rd174 hl172 hm173 B163 hu164 => ?_
 have U175 := u1 (Upd.mono (S' := (ob Ah ++ (g :: []))) U68 (all_app (fun x hx => Or.inl (by simp [hx])) all0)) hu72 im
 have U176 := ut0 U175 hu158
 have U177 := u1 U176 hu164 im
 have r178 := own_stay f28 U177 (fun x hx => (not_app ((rows_type f28 f27 (by decide)) x hx) (not_cons (fun e => (not_old (blk_lt hb) lr f28) (e ▸ hx)) not0))) (fun x cs q => evLow.upd U177 (apt_n hlow (apt_b f26 (by decide) apt_nil)) q)
 have hl185 : n ≤ w160.heap.size := Nat.le_trans hnl U177.size
 refine L0 <| Oape (R := evLow w160.heap.size) (xs := L) (ys := ([Ev.mk E166 F165])) (.agg #[.int .i64 0, .int .u8 0, .int .u16 0, .int .u8 0, .int .u8 0, .int .u16 0, .int .u16 0, .int .u16 0, .int .u16 0, .int .u16 0, .int .u16 0, .int .u16 0, .int .u16 0, .int .u16 0, .int .u16 0, .slice none 0 0, .slice none 0 0, .slice none 0 0, .slice none 0 0, .int .u8 0, .int .u8 0, .int .u8 0, .int .u8 0, .int .u8 0, .slice none 0 0]) 25 168 (OwnV.up hl185 (Nat.le_refl _) r178) (OwnE.low rd174).rd evLow.ones (fun w' hv x cs q => evLow.upd hv (apt_o r178 (by decide) apt_nil) q) (by (try simp only [List.length_append, List.length_cons, List.length_nil, putW_length]); omega) (le (le (le (le (le hu11.size hu59.size) hu66.size) hu72.size) hu158.size) hu164.size) fun A179 cp180 w181 ho182 hu183 hat184 => Pl 1 <| nl <| bn <| tn <| go <| L0 <| Oi (((k : Nat) : Int) + 1) <| Pl 1 <| nl <| ?_
 have U186 := ut0 U76 hu158
 have U187 := u1 U186 hu164 im
 have U188 := ut U187 hu183 (all_app (ob_new f28 lr) all0)
 have r189 := Upd.blk hu183 (not_app (not_old (blk_lt hb) lr f28) not0) B163
 have U190 := ut (Upd.mono (S' := (ob Ah ++ (g :: (ob Bq ++ [])))) U177 (all_app (fun x hx => Or.inl (by simp [hx])) (ac im all0))) hu183 (all_app (fun x hx => Or.inl (by simp [hx])) all0)
 have r191 := RdB.far f30 U190 (far_app (far_frm hda hdl hat0) (far_cons hdg (far_app (far_own hdl f28 (Nat.le_refl _)) far_nil)))
 have hx192 := byte_3 (T := T) (c := (b.getD k 0)) q45p hn73 hX167
 have ho193 := SM.byte_ok hok (getDrg hrb k) hx192
 exact lpe ((k + 1), (SM.mk T.dir [] T.skip), (L ++ [Ev.mk E166 F165]), none, 0, A179, cp180, w160.heap.size) ⟨U188, r189, (OwnG.nil base _ _ u8R _), ho182, hu183.size, r191, (by (try dsimp only); exact sm_snoc (by omega) hpj hx192), (by (try dsimp only); exact ho193.1), (by (try dsimp only); have q := SM.ok_le ho193.1; exact q), (by (try dsimp only); omega), (by (try dsimp only); (try simp only [List.length_append, List.length_cons, List.length_nil]); omega), (by (try dsimp only); exact hat_none), (by (try dsimp only); exact Nat.le_trans hn0l (Nat.le_trans hnl U177.size)), (by (try dsimp only); exact low_none)⟩ (by omega)
 have q39p := of_decide_eq_false q39
 refine xt <| tx <| tx <| bx <| tn <| sg <| Pl 2 <| nt <| rt <| rr (.slice Bq L.length cq) <| ?_
 have hs : S.feed b = (T, L) := by rw [hpj, List.take_of_length_le (by omega)]
 rw [hs]
 exact ⟨_, Ah, ch, n, rfl, f28, f26, f27, hat0, ⟨hn0l, Nat.le_trans hnl lr⟩, hlow, hu11⟩
open Go.RowKit
def SmbAt (n base : Nat) (w : World) (g : Nat) (A : Option Addr) (cp : Nat) (S : SM) : Prop := SmB w g S A cp ∧ OwnB base w (.slice A S.held.length cp) S.held ∧ S.ok ∧ n ≤ w.heap.size ∧ (∀ x, x ∈ ob A → n ≤ x) ∧ base ≤ w.heap.size
section
variable {n base g cp : Nat} {w w' : World} {A : Option Addr} {S : SM} {X : List Nat}
theorem SmbAt.row (h : SmbAt n base w g A cp S) : OwnB base w (.slice A S.held.length cp) S.held := h.2.1
theorem SmbAt.low (h : SmbAt n base w g A cp S) : ∀ x, x ∈ ob A → n ≤ x := h.2.2.2.2.1
theorem SmbAt.nle (h : SmbAt n base w g A cp S) : n ≤ w.heap.size := h.2.2.2.1
theorem SmbAt.le (h : SmbAt n base w g A cp S) : S.held.length ≤ 259 := SM.ok_le h.2.2.1
theorem SmbAt.lt (h : SmbAt n base w g A cp S) : g < w.heap.size := blk_lt h.1
theorem SmbAt.cells (h : SmbAt n base w g A cp S) : ∃ cs fr, w.heap[g]? = some (.cells cs 74 fr) := ⟨_, _, h.1⟩
theorem SmbAt.upd (h : SmbAt n base w g A cp S) (hu : Upd X w w') (hg : g ∉ X) (hr : ∀ x, x ∈ ob A → x ∉ X) : SmbAt n base w' g A cp S :=
  ⟨hu.blk hg h.1, own_stay h.2.1 hu hr (fun _ _ q => q), h.2.2.1, Nat.le_trans h.2.2.2.1 hu.size, h.2.2.2.2.1, Nat.le_trans h.2.2.2.2.2 hu.size⟩
end
theorem SM.feed_ok : ∀ (b : List Int) (S : SM) (L : List Ev), S.ok → (∀ x, x ∈ b → 0 ≤ x ∧ x < 256) → (b.foldl (fun (p : SM × List Ev) c => ((p.1.byte c).1, p.2 ++ (p.1.byte c).2)) (S, L)).1.ok ∧ (b.foldl (fun (p : SM × List Ev) c => ((p.1.byte c).1, p.2 ++ (p.1.byte c).2)) (S, L)).2.length ≤ L.length + b.length
  | [], S, L, h, _ => ⟨h, Nat.le_refl _⟩
  | c :: t, S, L, h, hb => by
    have k := SM.byte_ok (S2 := (S.byte c).1) (L2 := (S.byte c).2) h (hb c (List.mem_cons_self ..)) rfl
    have q := SM.feed_ok t (S.byte c).1 (L ++ (S.byte c).2) k.1 (fun x hx => hb x (List.mem_cons_of_mem _ hx))
    refine ⟨q.1, Nat.le_trans q.2 ?_⟩
    rw [List.length_append, List.length_cons]
    omega
theorem SM.feed_le {S S2 : SM} {b : List Int} {L : List Ev} (h : S.ok) (hb : ∀ x, x ∈ b → 0 ≤ x ∧ x < 256) (hX : S.feed b = (S2, L)) : L.length ≤ b.length := by
  have q := (SM.feed_ok b S [] h hb).2
  have e : L = (S.feed b).2 := (congrArg Prod.snd hX).symm
  rw [e]
  rw [List.length_nil, Nat.zero_add] at q
  exact q
def PSf (n base : Nat) (S2 : SM) (L : List Ev) (g : Nat) (A : Option Addr) (w : World) (e : Ending) (w' : World) : Prop := ∃ v A2 cp2 n2, e = .returned v ∧ OwnV n2 w.heap.size w' v L ∧ SmbAt n2 base w' g A2 cp2 S2 ∧ (∀ x, x ∈ ob A2 → x ∈ ob A ∨ w.heap.size ≤ x) ∧ n ≤ n2 ∧ Upd (g :: (ob A ++ [])) w w'
theorem smb_feed_x {w : World} {n base g cp cpb nb : Nat} {S S2 : SM} {L : List Ev} {A B : Option Addr} {m : Bool} {b : List Int} (hX : S.feed b = (S2, L)) (h : SmbAt n base w g A cp S) (hsl : RdB m w (.slice B nb cpb) b) (hdg : 0 < nb → ∀ x, x ∈ ob B → x ≠ g) (hda : Far nb B (ob A)) (hbl : b.length ≤ 1048576) :
    Calls Tryz.prog 27 #[.pointer (some ⟨g, 0, none⟩), .slice B nb cpb] w (PSf n base S2 L g A w) := by
  obtain ⟨h1, h2, h3, h4, h5, h6⟩ := h
  obtain rfl : nb = b.length := by
    obtain ⟨_, _, e, _⟩ := hsl.shape
    injection e
  refine (smbap_feed0 h1 h2 h6 h3 h4 h5 hsl hdg hda hbl).mono ?_
  rintro e w' ⟨v, A2, cp2, n2, he, k1, k2, k3, k4, ⟨k5, k6⟩, k7, k8⟩
  have hok := (SM.feed_ok b S [] h3 (RdB.range hsl)).1
  rw [hX] at k1 k2 k3
  have e2 : S2 = (S.feed b).1 := (congrArg Prod.fst hX).symm
  exact ⟨v, A2, cp2, n2, he, k1, ⟨k2, k3, by rw [e2]; exact hok, k6, k7, Nat.le_trans h6 k8.size⟩, k4, k5, k8⟩
theorem smb_new (d : Int) {w : World} (hq : Calls Tryz.prog 26 #[.int .i64 d] w (fun e w' => ∃ g, e = .returned (.pointer (some ⟨g, 0, none⟩)) ∧ w.heap.size ≤ g ∧ SmB w' g ⟨d, [], 0⟩ none 0 ∧ Upd [] w w')) :
    Calls Tryz.prog 26 #[.int .i64 d] w (fun e w' => ∃ g, e = .returned (.pointer (some ⟨g, 0, none⟩)) ∧ w.heap.size ≤ g ∧ SmbAt w.heap.size w.heap.size w' g none 0 ⟨d, [], 0⟩ ∧ Upd [] w w') := by
  refine hq.mono ?_
  rintro e w' ⟨g, he, h1, h2, h3⟩
  exact ⟨g, he, h1, ⟨h2, OwnG.nil .., ⟨⟨(show (0 : Int) ≤ 0 from by decide), (show (0 : Int) < 65536 from by decide)⟩, (fun x hx => by cases hx), .inl (show 0 < 6 from by decide)⟩, h3.size, low_none, h3.size⟩, h3⟩
theorem smb_held {w : World} {n base g cp : Nat} {S : SM} {A : Option Addr} (h : SmbAt n base w g A cp S) : Calls Tryz.prog 28 #[.pointer (some ⟨g, 0, none⟩)] w (PVal (.int .i64 ((S.held.length : Nat) : Int)) w) := smbap_held h.1 h.2.1.rd
end Go.Proofs.YtgjlbabefogepaaGreat
namespace Go.Proofs.YtgjlbabefogepaaGreat
open Go.WideShapes
def byB (w : World) (b : List Int) (cs : List Value) : Prop := ∃ v, cs = [v] ∧ RdB false w v b ∧ b.length ≤ 140737488355328
section
variable {H : Type} {enc : TypeId × Value → H} {w : World} {base : Nat} {spare : Nat → Bool} {held : Bool} {n : Nat} {y : DataW H × List MemPlace}
theorem sl_len {cs : List Value} (h : DataW.trod enc Tryz.prog w base spare held n 29 cs = some y) (hp : ∀ e2 s2, y.1 = .slice e2 s2 → e2.length ≤ 140737488355328) : ∃ b, byB w b cs := by
  obtain ⟨v, xs, hc, hr⟩ := sl_u8 h
  refine ⟨xs, v, hc, hr, ?_⟩
  obtain ⟨A, c, hv, _, _⟩ := hr.shape
  rcases DataW.trod_slice Tryz.underlying29 h with ⟨h1, _⟩ | ⟨a, len, cap, elems, rest, m, _, h1, h2, _, _, _, h3, _⟩
  · rw [hc] at h1
    simp only [List.cons.injEq, and_true] at h1
    rw [h1] at hv
    injection hv with _ h4 _
    omega
  · rw [hc] at h1
    simp only [List.cons.injEq, and_true] at h1
    rw [h1] at hv
    injection hv with _ h4 _
    have := hp _ _ (by rw [h2])
    rw [List.length_map] at this
    omega
theorem bb_open {cs : List Value} (h : DataW.trod enc Tryz.prog w base spare held n 22 cs = some y) (hp : ∀ elems sp, y.1 = .slice elems sp → ∀ d, d ∈ elems → ∀ e2 s2, d = .slice e2 s2 → e2.length ≤ 140737488355328) :
    ∃ v xs, cs = [v] ∧ RdBs false w v xs ∧ ∀ x, x ∈ xs → x.length ≤ 140737488355328 := by
  obtain ⟨v, xs, hc, hr⟩ := rd_openP (R := byB) (sz := 1) (Pd := fun d => ∀ e2 s2, d = .slice e2 s2 → e2.length ≤ 140737488355328) Tryz.underlying22 (by kernel_rfl) (by decide) (fun _ _ _ _ h hp => sl_len h hp) hp h
  refine ⟨v, xs, hc, RdG.any hr (fun _ _ ⟨v, h1, h2, _⟩ => ⟨v, h1, h2⟩), fun x hx => ?_⟩
  obtain ⟨A, c, rfl, _, _⟩ := hr.shape
  obtain ⟨j, hj⟩ := List.getElem?_of_mem hx
  have hl := (List.getElem?_eq_some_iff.1 hj).1
  obtain ⟨_, _, _, _, _, _, _, _, _, ⟨_, _, _, h4⟩, _⟩ := RdG.elt hr [] j hl
  rw [List.getD_eq_getElem?_getD, hj] at h4
  exact h4
end
theorem mem_weightsAll {H : Type} {P : Program} {e : TypeId} {d : DataW H} {k : Nat} (hk : k ∈ d.weights P e) : ∀ {l : List (DataW H)}, d ∈ l → k ∈ DataW.weightsAll P e l
  | [], h => by cases h
  | x :: r, h => by
    simp only [DataW.weightsAll, List.mem_append]
    rcases List.mem_cons.1 h with rfl | h
    · exact .inl hk
    · exact .inr (mem_weightsAll hk h)
theorem bb_size {H : Type} {ts : List TypeId} {ds : List (DataW H)} (h : (DataW.weightsEach Tryz.prog ts ds).all (· ≤ reachBytes) = true) {j : Nat} {d : DataW H} (ht : ts[j]? = some 22) (hd : ds[j]? = some d) :
    ∀ elems sp, d = .slice elems sp → ∀ d2, d2 ∈ elems → ∀ e2 s2, d2 = .slice e2 s2 → e2.length ≤ 140737488355328 := by
  rintro elems sp rfl d2 hm e2 s2 rfl
  have hw : (e2.length + s2.length) * Tryz.prog.bytesOf 5 ∈ (DataW.slice elems sp).weights Tryz.prog 22 := by
    simp only [DataW.weights, Tryz.underlying22, List.mem_cons, List.mem_append]
    refine .inr (.inl (mem_weightsAll ?_ hm))
    simp only [DataW.weights, Tryz.underlying29, List.mem_cons]
    exact .inl trivial
  have h2 := List.all_eq_true.1 h _ (DataW.weights_mem_each ht hd _ hw)
  have h3 : (e2.length + s2.length) * Tryz.prog.bytesOf 5 ≤ reachBytes := by simpa using h2
  rw [show Tryz.prog.bytesOf 5 = 1 from by kernel_rfl] at h3
  have h4 : reachBytes < 2 ^ 47 := reachBytes_lt
  omega
open Go.RowKit
section
variable {H : Type} {enc : TypeId × Value → H} {w : World} {base : Nat} {spare : Nat → Bool} {held : Bool} {n : Nat} {y : DataW H × List MemPlace}
theorem head_open {cs : List Value} (h : DataW.trod enc Tryz.prog w base spare held n 39 cs = some y) : ∃ u t, cs = [.int .u8 u, .int .u16 t] ∧ (0 ≤ u ∧ u < 256) ∧ (0 ≤ t ∧ t < 65536) := by
  obtain ⟨xs, m, rfl, _, hlen, hxs, hf⟩ := DataW.trod_struct Tryz.underlying39 h
  rw [show Tryz.prog.cellsOf 39 = 2 from by kernel_rfl] at hlen
  replace hxs : xs.length = 2 := hxs.trans (by kernel_rfl)
  obtain ⟨y0, g0⟩ : ∃ y, xs[0]? = some y := ⟨_, List.getElem?_eq_getElem (show 0 < xs.length by omega)⟩
  have f0 : DataW.trod enc Tryz.prog w base spare held m 5 ((cs.drop 0).take (Tryz.prog.cellsOf 5)) = xs[0]? := hf 0 _ rfl
  rw [g0] at f0
  rw [show Tryz.prog.cellsOf 5 = 1 from by kernel_rfl] at f0
  obtain ⟨x0, e0, r0⟩ := el_u8 f0
  obtain ⟨y1, g1⟩ : ∃ y, xs[1]? = some y := ⟨_, List.getElem?_eq_getElem (show 1 < xs.length by omega)⟩
  have f1 : DataW.trod enc Tryz.prog w base spare held m 37 ((cs.drop 1).take (Tryz.prog.cellsOf 37)) = xs[1]? := hf 1 _ rfl
  rw [g1] at f1
  rw [show Tryz.prog.cellsOf 37 = 1 from by kernel_rfl] at f1
  obtain ⟨x1, e1, r1⟩ := el_u16 f1
  have hcs : cs = [.int .u8 x0, .int .u16 x1] := by
    show cs.drop 0 = _
    rw [peel e0, peel e1, drop_all hlen]
  exact ⟨x0, x1, hcs, r0, r1⟩
set_option maxRecDepth 20000 in
theorem frm_open {cs : List Value} (h : DataW.trod enc Tryz.prog w base spare held n 47 cs = some y) : ∃ u t M c, cs = [.int .u8 u, .int .u16 t] ++ c ∧ MsgRd false w c M ∧ (0 ≤ u ∧ u < 256) ∧ (0 ≤ t ∧ t < 65536) := by
  obtain ⟨xs, m, rfl, _, hlen, hxs, hf⟩ := DataW.trod_struct Tryz.underlying47 h
  rw [show Tryz.prog.cellsOf 47 = 24 from by kernel_rfl] at hlen
  replace hxs : xs.length = 2 := hxs.trans (by kernel_rfl)
  obtain ⟨y0, g0⟩ : ∃ y, xs[0]? = some y := ⟨_, List.getElem?_eq_getElem (show 0 < xs.length by omega)⟩
  have f0 : DataW.trod enc Tryz.prog w base spare held m 39 ((cs.drop 0).take (Tryz.prog.cellsOf 39)) = xs[0]? := hf 0 _ rfl
  rw [g0] at f0
  rw [show Tryz.prog.cellsOf 39 = 2 from by kernel_rfl] at f0
  obtain ⟨u, t, e0, hu, ht⟩ := head_open f0
  obtain ⟨y1, g1⟩ : ∃ y, xs[1]? = some y := ⟨_, List.getElem?_eq_getElem (show 1 < xs.length by omega)⟩
  have f1 : DataW.trod enc Tryz.prog w base spare held m 45 ((cs.drop 2).take (Tryz.prog.cellsOf 45)) = xs[1]? := hf 1 _ rfl
  rw [g1] at f1
  rw [show Tryz.prog.cellsOf 45 = 22 from by kernel_rfl] at f1
  obtain ⟨M, hM⟩ := msg_open f1
  refine ⟨u, t, M, (cs.drop 2).take 22, ?_, hM, hu, ht⟩
  rw [← e0, List.take_of_length_le (show (cs.drop 2).length ≤ 22 by rw [List.length_drop]; omega)]
  exact (List.take_append_drop 2 cs).symm
set_option maxRecDepth 20000 in
open Go.WideShapes in
theorem frm_arg {v : Value} {d : DataW H} {p : List MemPlace} (hv : ∃ b0, Value.okWide Tryz.prog w .any b0 47 v) (h : DataW.Trod enc Tryz.prog w base spare held 47 v d p) : ∃ u t M x, v = .agg (fcl u t M x) ∧ MsgRd false w (mcl M x).toList M ∧ (0 ≤ u ∧ u < 256) ∧ (0 ≤ t ∧ t < 65536) := by
  obtain ⟨b0, hv⟩ := hv
  obtain ⟨cs, rfl, hsz⟩ := okWide_struct Tryz.underlying47 hv
  obtain ⟨fuel, hf⟩ := h
  obtain ⟨u, t, M, c, e0, hM, hu, ht⟩ := frm_open hf
  obtain ⟨x, hx⟩ := mcl_of (cs := c.toArray) (by simpa using hM)
  refine ⟨u, t, M, x, ?_, ?_, hu, ht⟩
  · rw [fcl_eq, ← hx]
    congr 1
    apply Array.toList_inj.1
    rw [show cs.toList = _ from e0]
    simp
  · rw [← hx]
    simpa using hM
end
end Go.Proofs.YtgjlbabefogepaaGreat
namespace Go.Proofs.YtgjlbabefogepaaGreat
open Go.WideShapes
section
variable {H : Type} {enc : TypeId × Value → H} {w : World} {base : Nat} {spare : Nat → Bool} {held : Bool} {n : Nat} {y : DataW H × List MemPlace}
theorem fr_el {cs : List Value} (h : DataW.trod enc Tryz.prog w base spare held n 47 cs = some y) : ∃ f, frR false w f cs := by
  obtain ⟨u, t, M, c, e0, hM, hu, ht⟩ := frm_open h
  obtain ⟨x, hx⟩ := mcl_of (cs := c.toArray) (by simpa using hM)
  have hc : c = (mcl M x).toList := by rw [← hx]
  refine ⟨⟨u, t, M⟩, x, ?_, ?_, hu, ht⟩
  · rw [e0, fcl_eq, hc]
    simp
  · rw [← hc]
    exact hM
theorem fs_open {cs : List Value} (h : DataW.trod enc Tryz.prog w base spare held n 58 cs = some y) : ∃ v xs, cs = [v] ∧ RdF false w v xs :=
  rd_open (R := frR false) Tryz.underlying58 (by kernel_rfl) (by decide) (fun _ _ _ _ h => fr_el h) h
end
open Go.RowKit
def sumL : List (List Int) → Nat
  | [] => 0
  | x :: t => x.length + sumL t
def few19 (ls : List (List Int)) : Bool := decide (ls.length ≤ 60) && decide (sumL ls ≤ 3000)
theorem sumL_app (a b : List (List Int)) : sumL (a ++ b) = sumL a + sumL b := by
  induction a with
  | nil => simp [sumL]
  | cons x t ih => simp only [List.cons_append, sumL, ih]; omega
theorem sumL_flat (a : List (List Int)) : a.flatten.length = sumL a := by
  induction a with
  | nil => rfl
  | cons x t ih => simp only [List.flatten_cons, List.length_append, sumL, ih]
theorem take_snoc {ls : List (List Int)} {k : Nat} (hk : k < ls.length) : ls.take (k + 1) = ls.take k ++ [ls.getD k []] := by
  rw [List.take_succ_eq_append_getElem hk, List.getD_eq_getElem?_getD, List.getElem?_eq_getElem hk]
  rfl
theorem sumL_snoc {ls : List (List Int)} {k : Nat} (hk : k < ls.length) : sumL (ls.take (k + 1)) = sumL (ls.take k) + (ls.getD k []).length := by
  rw [take_snoc hk, sumL_app]
  rfl
theorem sumL_le {ls : List (List Int)} (hb : ∀ x, x ∈ ls → x.length ≤ 140737488355328) : ∀ k, k ≤ ls.length → sumL (ls.take k) ≤ k * 140737488355328
  | 0, _ => by simp [sumL]
  | k + 1, h => by
    rw [sumL_snoc (by omega)]
    have h1 := sumL_le hb k (by omega)
    have h2 : (ls.getD k []).length ≤ 140737488355328 := by
      rw [List.getD_eq_getElem?_getD, List.getElem?_eq_getElem (by omega)]
      exact hb _ (List.getElem_mem _)
    rw [Nat.succ_mul]
    omega
theorem sumL_part {ls : List (List Int)} {k : Nat} (hk : k < ls.length) : sumL (ls.take k) + (ls.getD k []).length ≤ sumL ls := by
  rw [← sumL_snoc hk]
  have := sumL_app (ls.take (k + 1)) (ls.drop (k + 1))
  rw [List.take_append_drop] at this
  omega
theorem few19_step {ls : List (List Int)} {k : Nat} {n : Int} (hb : ∀ x, x ∈ ls → x.length ≤ 140737488355328) (h : k ≤ 60 → n = (sumL (ls.take k) : Nat)) (hk : k < ls.length) : k + 1 ≤ 60 → IntKind.i64.wrap (n + (((ls.getD k []).length : Nat) : Int)) = (sumL (ls.take (k + 1)) : Nat) := by
  intro h60
  have h1 := sumL_le hb (k + 1) hk
  have h2 := sumL_snoc hk
  rw [h (by omega), i64_in]
  · rw [h2]; omega
  · omega
theorem few19_end {ls : List (List Int)} {k : Nat} {n : Int} (h : k ≤ 60 → n = (sumL (ls.take k) : Nat)) (hk : k = ls.length) : (decide ((ls.length : Int) ≤ 60) && decide (n ≤ 3000)) = few19 ls := by
  subst hk
  rw [List.take_length] at h
  unfold few19
  by_cases h60 : ls.length ≤ 60
  · rw [h h60]
    congr 1
    · rw [decide_eq_decide]; omega
    · rw [decide_eq_decide]; omega
  · rw [decide_eq_false h60, decide_eq_false (by omega)]; rfl
theorem few19_le {ls : List (List Int)} (h : few19 ls = true) : ls.length ≤ 60 ∧ sumL ls ≤ 3000 := by
  unfold few19 at h
  simpa using h
set_option maxRecDepth 100000 in
set_option maxHeartbeats 4000000 in
theorem few19_any {m : Bool} {A : Option Addr} {cp : Nat} {ls : List (List Int)} {w : World} (h : RdBs m w (.slice A ls.length cp) ls) (hbb : ∀ x, x ∈ ls → x.length ≤ 140737488355328) : Calls Tryz.prog 18 #[.slice A ls.length cp] w (PVal (.bool (few19 ls)) w) := by
 have hz := RdG.len h
 refine en 25 Tryz.func18 rfl <| sg <| Pl 1 <| ng <| Pl 1 <| nt <| sq <| sg <| ?_
 refine Pl 1 <| nt <| bk <| ?_
 refine glp (fun x => [(0, .slice A ls.length cp), (2, .bool false), (3, .int .i64 x.2), (4, .int .i64 ((x.1 : Nat) : Int))]) (fun (x : Nat × Int) w' => Upd [] w w' ∧ (x.1 ≤ ls.length) ∧ (x.1 ≤ 60 → x.2 = (sumL (ls.take x.1) : Nat))) (fun x => ls.length - x.1) (0, 0) ⟨Upd.refl _ _, (by (try dsimp only); omega), (by (try dsimp only); intro _; rfl)⟩ ?_
 rintro ⟨k, n⟩ w10 ⟨hu11, p12, p13⟩
 refine wkc [(0, .slice A ls.length cp), (2, .bool false), (3, .int .i64 n), (4, .int .i64 ((k : Nat) : Int))] ?_
 have p15 : k ≤ ls.length := p12
 have p16 : k ≤ 60 → n = (sumL (ls.take k) : Nat) := p13
 refine sq <| sg <| Pl 4 <| nt <| cb ((decide (((k : Nat) : Int) < ((ls.length : Nat) : Int)))) (fun q17 => ?_) (fun q17 => ?_)
 have q17p := of_decide_eq_true q17
 refine skn <| sq <| bk <| go <| Pl 3 <| x45 (RdBs.elt h k (by omega)) fun b18 o19 A20 cp21 hA22 hl23 hr24 hc25 hm26 => L0 <| Oix ls.length k hA22 (by omega) <| L0 <| Old (p := ⟨b18, o19 + k, none⟩) (v := .slice A20 ((ls.getD k []).length) cp21) (uc hu11 hl23) <| Pl 3 <| nl <| bn <| tn <| go <| ?_
 exact Pl 1 <| L0 <| Oi (((k : Nat) : Int) + 1) <| Pl 1 <| nl <| lpe ((k + 1), (IntKind.i64.wrap (n + (((ls.getD k []).length : Nat) : Int)))) ⟨hu11, (by (try dsimp only); omega), (few19_step hbb p16 (by omega))⟩ (by omega)
 have q17p := of_decide_eq_false q17
 refine xt <| tx <| tx <| bx <| tn <| sg <| Pl 4 <| cu 3 [21] 24 (((decide (((ls.length : Nat) : Int) ≤ 60)) && (decide (n ≤ 3000)))) (fun K K28 => ?_) ?_
 refine bl 21 ((decide (((ls.length : Nat) : Int) ≤ 60))) (fun q27 => ?_) (fun q27 => ?_)
 have q27p := of_decide_eq_true q27
 exact Pl 3 <| ce K28 (decide (n ≤ 3000)) (by rw [q27]; rfl)
 have q27p := of_decide_eq_false q27
 exact Pl 3 <| ce K28 false (by rw [q27]; rfl)
 refine Pl 1 <| nt <| rt <| rr (.bool ((decide (((ls.length : Nat) : Int) ≤ 60)) && (decide (n ≤ 3000)))) <| ?_
 have hs : ((decide (((ls.length : Nat) : Int) ≤ 60)) && (decide (n ≤ 3000))) = few19 ls := by first | exact few19_end p16 (by omega) | (rw [← few19_end p16 (by omega)]; simp only [q17, bs, if_true, if_false, decide_true, decide_false, Bool.true_and, Bool.false_and])
 rw [hs]
 exact ⟨rfl, hu11⟩
theorem join_len {ls : List (List Int)} {L : List Int} (h : sumL ls ≤ 3000) (k : Nat) (hL : L = (ls.take k).flatten) : L.length + (ls.getD k []).length ≤ 3000 ∨ ls.length ≤ k := by
  rcases Nat.lt_or_ge k ls.length with hk | hk
  · have := sumL_part hk
    rw [hL, sumL_flat]
    exact .inl (by omega)
  · exact .inr hk
theorem join_snoc {ls : List (List Int)} {L : List Int} {k : Nat} (hL : L = (ls.take k).flatten) (hk : k < ls.length) : L ++ ls.getD k [] = (ls.take (k + 1)).flatten := by
  rw [take_snoc hk, List.flatten_append, hL]
  simp
def PJoin (ls : List (List Int)) (w : World) (e : Ending) (w' : World) : Prop := ∃ v, e = .returned v ∧ OwnB w.heap.size w' v ls.flatten ∧ Upd [] w w'
set_option maxRecDepth 100000 in
set_option maxHeartbeats 4000000 in
theorem join19_any {m : Bool} {A : Option Addr} {cp : Nat} {ls : List (List Int)} {w : World} (h : RdBs m w (.slice A ls.length cp) ls) (hs3 : sumL ls ≤ 3000) : Calls Tryz.prog 22 #[.slice A ls.length cp] w (PJoin ls w) := by
 have hz := RdG.len h
 refine en 18 Tryz.func22 rfl <| sg <| Pl 1 <| ng <| Pl 1 <| nt <| sq <| sg <| ?_
 refine Pl 1 <| nt <| bk <| ?_
 refine glp (fun x => [(0, .slice A ls.length cp), (2, .slice none 0 0), (3, .slice x.2.2.1 x.2.1.length x.2.2.2), (4, .int .i64 ((x.1 : Nat) : Int))]) (fun (x : Nat × List Int × Option Addr × Nat) w' => Upd [] w w' ∧ OwnB w.heap.size w' (.slice x.2.2.1 x.2.1.length x.2.2.2) x.2.1 ∧ (x.1 ≤ ls.length) ∧ (x.2.1 = (ls.take x.1).flatten) ∧ (x.2.1.length + (ls.getD x.1 []).length ≤ 3000 ∨ ls.length ≤ x.1)) (fun x => ls.length - x.1) (0, [], none, 0) ⟨Upd.refl _ _, (OwnG.nil w.heap.size _ _ u8R _), (by (try dsimp only); omega), rfl, (by (try dsimp only); exact join_len hs3 0 rfl)⟩ ?_
 rintro ⟨k, L, B, cq⟩ w10 ⟨hu11, f12, p13, p14, p15⟩
 refine wkc [(0, .slice A ls.length cp), (2, .slice none 0 0), (3, .slice B L.length cq), (4, .int .i64 ((k : Nat) : Int))] ?_
 have f17 : OwnB w.heap.size w10 (.slice B L.length cq) L := f12
 have p18 : k ≤ ls.length := p13
 have p19 : L = (ls.take k).flatten := p14
 have p20 : L.length + (ls.getD k []).length ≤ 3000 ∨ ls.length ≤ k := p15
 refine sq <| sg <| Pl 4 <| nt <| cb ((decide (((k : Nat) : Int) < ((ls.length : Nat) : Int)))) (fun q21 => ?_) (fun q21 => ?_)
 have q21p := of_decide_eq_true q21
 refine skn <| sq <| bk <| go <| Pl 3 <| x45 (RdBs.elt h k (by omega)) fun b22 o23 A24 cp25 hA26 hl27 hr28 hc29 hm30 => L0 <| Oix ls.length k hA26 (by omega) <| L0 <| Old (p := ⟨b22, o23 + k, none⟩) (v := .slice A24 ((ls.getD k []).length) cp25) (uc hu11 hl27) <| ?_
 have r31 := RdB.old hr28 hu11
 refine L0 <| Oapp one_u8 (xs := L) (ys := (ls.getD k [])) (.int .u8 0) 1 f17 r31 (by (try simp only [List.length_append, List.length_cons, List.length_nil, putW_length]); omega) hu11.size fun A32 cp33 w34 ho35 hu36 => Pl 1 <| nl <| bn <| tn <| go <| Pl 1 <| L0 <| Oi (((k : Nat) : Int) + 1) <| Pl 1 <| nl <| ?_
 have U37 := ut hu11 hu36 (all_app (ob_new f17 lr) all0)
 exact lpe ((k + 1), (L ++ (ls.getD k [])), A32, cp33) ⟨U37, ho35, (by (try dsimp only); omega), (by (try dsimp only); exact join_snoc p19 (by omega)), (by (try dsimp only); exact join_len hs3 _ (join_snoc p19 (by omega)))⟩ (by omega)
 have q21p := of_decide_eq_false q21
 refine xt <| tx <| tx <| bx <| tn <| sg <| Pl 2 <| nt <| rt <| rr (.slice B L.length cq) <| ?_
 have hs : L = ls.flatten := by rw [p19, List.take_of_length_le (by omega)]
 exact ⟨_, rfl, by rw [← hs]; exact f17, hu11⟩
open Go.RowKit
theorem eqn_head (a b c d : Int) (w : World) : (Op.equalIn 10000 39 (.agg #[.int .u8 a, .int .u16 b]) (.agg #[.int .u8 c, .int .u16 d])).run Tryz.prog w = .ok ((a == c) && (b == d)) w := by
  have hS : Tryz.prog.underlying 39 = some (.struct (Tryz.prog.fieldsOf 39)) := by kernel_rfl
  have hp : Tryz.prog.stoodInHeld 39 = false := by kernel_rfl
  rw [show (10000 : Nat) = 9998 + 1 + 1 from rfl, run_equalIn_agg w (9998 + 1) 39 _ _ hS hp]
  simp only [Program.fieldsOf, Tryz.underlying39]
  have p0 : ∀ v : Int, (part 5 #[.int .u8 v, .int .u16 b] 0).run Tryz.prog w = .ok (.int .u8 v) w := fun v => by simp [part, isAgg, run_underlying Tryz.underlying5, Result.andThen]
  have p0' : ∀ v : Int, (part 5 #[.int .u8 v, .int .u16 d] 0).run Tryz.prog w = .ok (.int .u8 v) w := fun v => by simp [part, isAgg, run_underlying Tryz.underlying5, Result.andThen]
  have p1 : ∀ v u : Int, (part 37 #[.int .u8 u, .int .u16 v] 1).run Tryz.prog w = .ok (.int .u16 v) w := fun v u => by simp [part, isAgg, run_underlying Tryz.underlying37, Result.andThen]
  have e0 := run_equalIn_int (P := Tryz.prog) w 9998 5 .u8 _ a c Tryz.underlying5
  have e1 := run_equalIn_int (P := Tryz.prog) w 9998 37 .u16 _ b d Tryz.underlying37
  simp only [Op.eqFields, Sem.run_bind, p0, p0', p1, e0, e1, Result.andThen_ok, ne_eq, String.reduceEq, not_false_eq_true, if_true, Sem.run_ite]
  cases (a == c) <;> cases (b == d) <;> simp
theorem run_headeq {ev : Operand → Value} {o : Oper} {x y : Operand} {t : TypeId} (a b c d : Int) {v : Bool} {w : World} (ho : o.op = .binOp .eql 39 x y t)
    (hx : ev x = .agg #[.int .u8 a, .int .u16 b]) (hy : ev y = .agg #[.int .u8 c, .int .u16 d]) (hv : ((a == c) && (b == d)) = v) : (execOp ev o).run Tryz.prog w = .ok (.value (.bool v)) w := by
  subst hv
  have hg : (eqGuard .eql 39 x y (.agg #[.int .u8 a, .int .u16 b]) (.agg #[.int .u8 c, .int .u16 d])).run Tryz.prog w = .ok () w := run_eqGuard_agg w _ _ _ _ _ _ (by kernel_rfl)
  unfold execOp
  simp only [ho, hx, hy, Sem.run_bind, hg, Result.andThen_ok, run_eql_struct, eqn_head, Sem.run_pure]
theorem run_headne {ev : Operand → Value} {o : Oper} {x y : Operand} {t : TypeId} (a b c d : Int) {v : Bool} {w : World} (ho : o.op = .binOp .neq 39 x y t)
    (hx : ev x = .agg #[.int .u8 a, .int .u16 b]) (hy : ev y = .agg #[.int .u8 c, .int .u16 d]) (hv : (!((a == c) && (b == d))) = v) : (execOp ev o).run Tryz.prog w = .ok (.value (.bool v)) w := by
  subst hv
  have hg : (eqGuard .neq 39 x y (.agg #[.int .u8 a, .int .u16 b]) (.agg #[.int .u8 c, .int .u16 d])).run Tryz.prog w = .ok () w := run_eqGuard_agg w _ _ _ _ _ _ (by kernel_rfl)
  unfold execOp
  simp only [ho, hx, hy, Sem.run_bind, hg, Result.andThen_ok, run_neq_struct, eqn_head, Sem.run_pure]
open Go.RowKit
deriving instance DecidableEq for Ev
theorem same19_eq (A B : Ev) : (((A.e == B.e) && ((A.f.unit == B.f.unit) && (A.f.tid == B.f.tid))) && decide (A.f.msg = B.f.msg)) = decide (A = B) := by
  rw [Bool.eq_iff_iff]
  simp only [Bool.and_eq_true, beq_iff_eq, decide_eq_true_eq]
  obtain ⟨e, u, t, M⟩ := A
  obtain ⟨e2, u2, t2, M2⟩ := B
  simp only [Ev.mk.injEq, Frm.mk.injEq]
  constructor
  · rintro ⟨⟨h1, h2, h3⟩, h4⟩; exact ⟨h1, h2, h3, h4⟩
  · rintro ⟨h1, h2, h3, h4⟩; exact ⟨⟨h1, h2, h3⟩, h4⟩
theorem ev_pre {xs ys : List Ev} {k : Nat} (hk : k < xs.length) (hl : xs.length = ys.length) (h : xs.take k = ys.take k) (he : xs.getD k (Ev.bad 0) = ys.getD k (Ev.bad 0)) : xs.take (k + 1) = ys.take (k + 1) := by
  exact eqPre hl hk h he
theorem ev_all {xs ys : List Ev} {k : Nat} (h : xs.take k = ys.take k) (h1 : k = xs.length) (h2 : xs.length = ys.length) : decide (xs = ys) = true := by
  rw [List.take_of_length_le (by omega), List.take_of_length_le (by omega)] at h
  exact decide_eq_true h
theorem ev_no {xs ys : List Ev} (k : Nat) (h : decide (xs.getD k (Ev.bad 0) = ys.getD k (Ev.bad 0)) = false) : decide (xs = ys) = false := by
  rw [decide_eq_false_iff_not] at h ⊢
  exact fun e => h (by rw [e])
set_option maxRecDepth 100000 in
set_option maxHeartbeats 4000000 in
theorem same19_any {m m' : Bool} {A B : Ev} {sA sB : SL} {w : World} (hA : MsgRd m w (mcl A.f.msg sA).toList A.f.msg) (hB : MsgRd m' w (mcl B.f.msg sB).toList B.f.msg) : Calls Tryz.prog 35 #[.agg (evl A sA), .agg (evl B sB)] w (PVal (.bool (decide (A = B))) w) := by
 refine en 28 Tryz.func35 rfl <| sg <| L0 <| Obx (evl ⟨A.e, A.f⟩ sA) fun g10 w11 hg12 B13 hu14 => L0 <| Obx (evl ⟨B.e, B.f⟩ sB) fun g15 w16 hg17 B18 hu19 => Pl 1 <| ng <| Pl 1 <| ?_
 have r20 := ub hu19 B13
 refine L0 <| Olb r20 0 <| Pl 1 <| L0 <| Olb B18 0 <| Pl 2 <| cu 8 [10] 18 (((A.e == B.e) && ((A.f.unit == B.f.unit) && (A.f.tid == B.f.tid)))) (fun K K22 => ?_) ?_
 refine bl 10 ((A.e == B.e)) (fun q21 => ?_) (fun q21 => ?_)
 have q21p := eq_of_beqi q21
 exact Pl 2 <| L1 <| Ola r20 1 2 <| Pl 2 <| L1 <| Ola B18 1 2 <| L1 <| Or_ (.bool ((A.f.unit == B.f.unit) && (A.f.tid == B.f.tid))) (run_headeq A.f.unit A.f.tid B.f.unit B.f.tid rfl (by kernel_rfl) (by kernel_rfl) rfl) <| Pl 1 <| ce K22 ((A.f.unit == B.f.unit) && (A.f.tid == B.f.tid)) (by rw [q21]; rfl)
 have q21p := ne_of_beqi q21
 exact Pl 8 <| ce K22 false (by rw [q21]; rfl)
 refine Pl 1 <| ?_
 have U23 := ut0 hu14 hu19
 refine bl 19 (((A.e == B.e) && ((A.f.unit == B.f.unit) && (A.f.tid == B.f.tid)))) (fun q24 => ?_) (fun q24 => ?_)
 have q24a := (and_t q24).1
 have q24b := (and_t q24).2
 have q24ap := eq_of_beqi q24a
 have q24ba := (and_t q24b).1
 have q24bb := (and_t q24b).2
 have q24bap := eq_of_beqi q24ba
 have q24bbp := eq_of_beqi q24bb
 refine Pl 2 <| L1 <| Ola r20 3 22 <| Pl 2 <| L1 <| Ola B18 3 22 <| ?_
 have r25 := MsgRd.old hA U23
 have r26 := MsgRd.old hB U23
 refine L1 <| Oc <| m1 (same7_any r25 r26) fun w27 hu28 => Pl 2 <| nt <| rt <| rr (.bool (decide (A.f.msg = B.f.msg))) <| ?_
 have hs : (decide (A.f.msg = B.f.msg)) = decide (A = B) := by rw [← same19_eq]; simp only [q24, q24a, q24b, q24ba, q24bb, bs, if_true, if_false, decide_true, decide_false, Bool.true_and, Bool.false_and, Bool.and_true, Bool.and_false]
 rw [hs]
 have U29 := ut0 U23 hu28
 exact ⟨rfl, U29⟩
 refine Pl 9 <| nt <| rt <| rr (.bool false) <| ?_
 have hs : false = decide (A = B) := by rw [← same19_eq]; simp only [q24, bs, if_true, if_false, decide_true, decide_false, Bool.true_and, Bool.false_and, Bool.and_true, Bool.and_false]
 rw [hs]
 exact ⟨rfl, U23⟩
set_option maxRecDepth 100000 in
set_option maxHeartbeats 4000000 in
theorem all19_any {m m' : Bool} {A B : Option Addr} {c d : Nat} {xs ys : List Ev} {w : World} (h1 : RdE m w (.slice A xs.length c) xs) (h2 : RdE m' w (.slice B ys.length d) ys) : Calls Tryz.prog 24 #[.slice A xs.length c, .slice B ys.length d] w (PVal (.bool (decide (xs = ys))) w) := by
 have hz1 := RdG.len h1
 have hz2 := RdG.len h2
 refine en 27 Tryz.func24 rfl <| sg <| Pl 1 <| nt <| sq <| sg <| Pl 5 <| nt <| cb ((((xs.length : Nat) : Int) != ((ys.length : Nat) : Int))) (fun q10 => ?_) (fun q10 => ?_)
 have q10p := ne_of_bnei q10
 refine sg <| Pl 1 <| nt <| rt <| tr <| rr (.bool false) <| ?_
 have hs : decide (xs = ys) = false := decide_eq_false (fun e => by rw [e] at q10p; omega)
 rw [hs]
 exact ⟨rfl, (Upd.refl [] _)⟩
 have q10p := eq_of_bnei q10
 refine skn <| sq <| sg <| Pl 1 <| nt <| bk <| ?_
 refine glp (fun x => [(0, .slice A xs.length c), (1, .slice B ys.length d), (5, .int .i64 ((x : Nat) : Int))]) (fun (x : Nat) w' => Upd [] w w' ∧ (xs.take x = ys.take x) ∧ (x ≤ xs.length)) (fun x => xs.length - x) 0 ⟨Upd.refl _ _, rfl, (by (try dsimp only); omega)⟩ ?_
 rintro k w11 ⟨hu12, p13, p14⟩
 refine wkc [(0, .slice A xs.length c), (1, .slice B ys.length d), (5, .int .i64 ((k : Nat) : Int))] ?_
 have p16 : xs.take k = ys.take k := p13
 have p17 : k ≤ xs.length := p14
 refine sq <| sg <| Pl 4 <| nt <| cb ((decide (((k : Nat) : Int) < ((xs.length : Nat) : Int)))) (fun q18 => ?_) (fun q18 => ?_)
 have q18p := of_decide_eq_true q18
 refine skn <| sq <| bk <| sq <| x64 (RdE.elt h1 k (by omega) (Ev.bad 0)) fun b43 o44 cl45 t46 fr47 s48 hA49 hb50 hv51 hs52 => x64 (RdE.elt h2 k (by omega) (Ev.bad 0)) fun b53 o54 cl55 t56 fr57 s58 hA59 hb60 hv61 hs62 => Rg 10 (fun w' => w'.heap[b43]? = some (.cells cl45 t46 fr47) ∧ w'.heap[b53]? = some (.cells cl55 t56 fr57)) fun w67 hu68 => ?_
 have U70 := ut0 hu12 hu68
 have r71 := ub U70 hb50
 have r72 := ub U70 hb60
 refine hld ⟨r71, r72⟩ fun hS69 => Rt 0 hS69 <| Rt 1 hS69 <| Ri 2 hS69 25 xs.length k ((k : Nat) : Int) rfl hA49 (by omega) <| Rr 3 hS69 (.agg (evl ⟨(xs.getD k (Ev.bad 0)).e, (xs.getD k (Ev.bad 0)).f⟩ s48)) (fun w' hs => lda_o (g := b43) (off := o44 + k * 25) [.int .i64 ((xs.getD k (Ev.bad 0)).e), .int .u8 ((xs.getD k (Ev.bad 0)).f.unit), .int .u16 ((xs.getD k (Ev.bad 0)).f.tid), .int .u8 ((xs.getD k (Ev.bad 0)).f.msg.code), .int .u8 ((xs.getD k (Ev.bad 0)).f.msg.fail), .int .u16 ((xs.getD k (Ev.bad 0)).f.msg.addr), .int .u16 ((xs.getD k (Ev.bad 0)).f.msg.count), .int .u16 ((xs.getD k (Ev.bad 0)).f.msg.value), .int .u16 ((xs.getD k (Ev.bad 0)).f.msg.and_), .int .u16 ((xs.getD k (Ev.bad 0)).f.msg.or_), .int .u16 ((xs.getD k (Ev.bad 0)).f.msg.addr2), .int .u16 ((xs.getD k (Ev.bad 0)).f.msg.sub), .int .u16 ((xs.getD k (Ev.bad 0)).f.msg.status), .int .u16 ((xs.getD k (Ev.bad 0)).f.msg.events), .int .u16 ((xs.getD k (Ev.bad 0)).f.msg.messages), .slice s48.aw ((xs.getD k (Ev.bad 0)).f.msg.words.length) s48.kw, .slice s48.ab ((xs.getD k (Ev.bad 0)).f.msg.bits.length) s48.kb, .slice s48.ad ((xs.getD k (Ev.bad 0)).f.msg.data.length) s48.kd, .slice s48.ar ((xs.getD k (Ev.bad 0)).f.msg.recs.length) s48.kr, .int .u8 ((xs.getD k (Ev.bad 0)).f.msg.mei), .int .u8 ((xs.getD k (Ev.bad 0)).f.msg.kind), .int .u8 ((xs.getD k (Ev.bad 0)).f.msg.level), .int .u8 ((xs.getD k (Ev.bad 0)).f.msg.more), .int .u8 ((xs.getD k (Ev.bad 0)).f.msg.next), .slice s48.ao ((xs.getD k (Ev.bad 0)).f.msg.objects.length) s48.ko] rfl (by kernel_rfl) hs.1 (by kernel_rfl) (by kernel_rfl) hs52) <| Rt 4 hS69 <| Rt 5 hS69 <| Ri 6 hS69 25 ys.length k ((k : Nat) : Int) rfl hA59 (by omega) <| Rr 7 hS69 (.agg (evl ⟨(ys.getD k (Ev.bad 0)).e, (ys.getD k (Ev.bad 0)).f⟩ s58)) (fun w' hs => lda_o (g := b53) (off := o54 + k * 25) [.int .i64 ((ys.getD k (Ev.bad 0)).e), .int .u8 ((ys.getD k (Ev.bad 0)).f.unit), .int .u16 ((ys.getD k (Ev.bad 0)).f.tid), .int .u8 ((ys.getD k (Ev.bad 0)).f.msg.code), .int .u8 ((ys.getD k (Ev.bad 0)).f.msg.fail), .int .u16 ((ys.getD k (Ev.bad 0)).f.msg.addr), .int .u16 ((ys.getD k (Ev.bad 0)).f.msg.count), .int .u16 ((ys.getD k (Ev.bad 0)).f.msg.value), .int .u16 ((ys.getD k (Ev.bad 0)).f.msg.and_), .int .u16 ((ys.getD k (Ev.bad 0)).f.msg.or_), .int .u16 ((ys.getD k (Ev.bad 0)).f.msg.addr2), .int .u16 ((ys.getD k (Ev.bad 0)).f.msg.sub), .int .u16 ((ys.getD k (Ev.bad 0)).f.msg.status), .int .u16 ((ys.getD k (Ev.bad 0)).f.msg.events), .int .u16 ((ys.getD k (Ev.bad 0)).f.msg.messages), .slice s58.aw ((ys.getD k (Ev.bad 0)).f.msg.words.length) s58.kw, .slice s58.ab ((ys.getD k (Ev.bad 0)).f.msg.bits.length) s58.kb, .slice s58.ad ((ys.getD k (Ev.bad 0)).f.msg.data.length) s58.kd, .slice s58.ar ((ys.getD k (Ev.bad 0)).f.msg.recs.length) s58.kr, .int .u8 ((ys.getD k (Ev.bad 0)).f.msg.mei), .int .u8 ((ys.getD k (Ev.bad 0)).f.msg.kind), .int .u8 ((ys.getD k (Ev.bad 0)).f.msg.level), .int .u8 ((ys.getD k (Ev.bad 0)).f.msg.more), .int .u8 ((ys.getD k (Ev.bad 0)).f.msg.next), .slice s58.ao ((ys.getD k (Ev.bad 0)).f.msg.objects.length) s58.ko] rfl (by kernel_rfl) hs.2 (by kernel_rfl) (by kernel_rfl) hs62) <| ?_
 have r73 := MsgRd.old (hv51.1) U70
 have r74 := MsgRd.old (hv61.1) U70
 refine R0 8 rfl <| Oc <| m1 (same19_any (A := (xs.getD k (Ev.bad 0))) (B := (ys.getD k (Ev.bad 0))) r73 r74) fun w75 hu76 => ?_
 have r78 := ub hu76 r71
 have r79 := ub hu76 r72
 refine hld ⟨r78, r79⟩ fun hS77 => Rt 9 hS77 <| re <| tn <| ?_
 have U80 := ut0 U70 hu76
 refine cb ((!(decide ((xs.getD k (Ev.bad 0)) = (ys.getD k (Ev.bad 0)))))) (fun q81 => ?_) (fun q81 => ?_)
 have q81n : (decide ((xs.getD k (Ev.bad 0)) = (ys.getD k (Ev.bad 0)))) = false := by simpa using q81
 have q81np := of_decide_eq_false q81n
 refine sg <| Pl 1 <| nt <| rt <| br <| tr <| tr <| br <| tr <| rr (.bool false) <| ?_
 have hs : decide (xs = ys) = false := ev_no k q81n
 rw [hs]
 exact ⟨rfl, U80⟩
 have q81n : (decide ((xs.getD k (Ev.bad 0)) = (ys.getD k (Ev.bad 0)))) = true := by simpa using q81
 have q81np := of_decide_eq_true q81n
 exact sk <| bn <| tn <| go <| Pl 1 <| L0 <| Oi (((k : Nat) : Int) + 1) <| Pl 1 <| nl <| lpe (k + 1) ⟨U80, (ev_pre (by omega) (by omega) p16 (of_decide_eq_true q81n)), (by (try dsimp only); omega)⟩ (by omega)
 have q18p := of_decide_eq_false q18
 refine xt <| tx <| tx <| bx <| tn <| sg <| Pl 1 <| nt <| rt <| rr (.bool true) <| ?_
 have hs : decide (xs = ys) = true := ev_all p16 (by omega) (by omega)
 rw [hs]
 exact ⟨rfl, hu12⟩
open Go.RowKit
def awM7 : Msg := { Msg.zero with code := 7 }
theorem aw7rd (w : World) : MsgRd true w (mC 7).toList awM7 := ⟨nilS, nilS, nilS, nilS, nilS, rfl, RdG.nil .., RdG.nil .., RdG.nil .., RdG.nil .., RdG.nil .., { MsgRng.zero with code := (by decide : (0 : Int) ≤ 7 ∧ (7 : Int) < 256) }⟩
theorem aw7few : MsgFew awM7 := ⟨by decide, by decide, by decide, by decide, (fun r h => nomatch h), by decide, (fun r h => nomatch h)⟩
open Go.RowKit
section
variable {P : Program} {n : Nat} {D : List Deferred} {F : Fr} {w : World} {K : Fr → World → Prop} {Q : Exit → Act → World → Prop} {d : Option Tmp} {t : TypeId} {s : String} {af : Array Edge} {gu : Option (Nat × Bool)}
theorem Omsl {ty : TypeId} {x y : Operand} (m : Nat) (hm : m ≤ 4194304) (h : ∀ g w', OwnB w.heap.size w' (.slice (some ⟨g, 0, none⟩) (List.replicate m (0 : Int)).length (List.replicate m (0 : Int)).length) (List.replicate m 0) → Upd [] w w' → K (pt d (.slice (some ⟨g, 0, none⟩) m m) F) w')
    (hx : evo F x = some (.int .i64 (m : Int)) := by kernel_rfl) (hy : evo F y = some (.int .i64 (m : Int)) := by kernel_rfl) (hs : (slE P ty, (P.info? 5).map (fun i => (i.zero, i.size, i.bytes)), dok n d) = (some 5, some (some (.int .u8 0), 1, 1), true) := by kernel_rfl) : OG P ⟨d, .makeSlice ty x y, t, s, af, gu⟩ n D F w K Q := by
  simp only [Prod.mk.injEq] at hs
  obtain ⟨h1, h2, h3⟩ := hs
  have hr := run_made (P := P) (Value.int .u8) (0 : Int) ty _ 1 (slE_some h1) h2 rfl m hm (by decide) w
  refine ⟨fun a ha K' hK => OW.mk ?_⟩
  have hx' := ha.ev hx
  have hy' := ha.ev hy
  unfold Oper.wp execOp
  simp only [hx', hy', Sem.run_bind, Sem.run_pure, hr, Result.andThen_ok]
  refine hK _ _ _ (h w.heap.size _ ?_ ((Upd.refl _ _).alloc _)) (ha.put h3)
  exact litB (Nat.le_refl _) rfl (fun x hx => by rw [List.eq_of_mem_replicate hx]; decide) (by rw [List.length_replicate]; exact hm) (blk_new _ _)
end
open Go.RowKit
theorem aw21a : SM.feed (SM.mk 0 [] 0) [0, 9, 0, 0, 0, 2] = ((SM.mk 0 [0, 9, 0, 0, 0, 2] 0), []) := by kernel_rfl
theorem aw21b : SM.feed (SM.mk 0 [0, 9, 0, 0, 0, 2] 0) [1, 7] = ((SM.mk 0 [] 0), [⟨0, ⟨1, 9, awM7⟩⟩]) := by kernel_rfl
theorem aw21c : SM.feed (SM.mk 0 [] 0) [0, 9, 0, 0, 1, 0] = ((SM.mk 0 [] 256), [Ev.bad 3]) := by kernel_rfl
theorem aw21d : SM.feed (SM.mk 0 [] 256) (List.replicate 256 0) = ((SM.mk 0 [] 0), []) := by kernel_rfl
set_option maxRecDepth 100000 in
set_option maxHeartbeats 4000000 in
theorem awake21 {w : World} : Calls Tryz.prog 25 #[] w (PVal (.bool true) w) := by
 refine en 79 Tryz.func25 rfl <| sg <| Pl 1 <| ng <| L0 <| Oc <| e3 (smb_new 0 smbap_new0) fun g10 w11 hg12 hA13 hu14 => Pl 1 <| nt <| sq <| sq <| ?_
 refine go <| Pl 2 <| nt <| c0 <| skn <| sg <| Pl 1 <| L0 <| Olt (m := 6) (e := 5) #[.int .u8 0, .int .u8 9, .int .u8 0, .int .u8 0, .int .u8 0, .int .u8 2] fun g15 w16 hg17 B18 hu19 => ?_
 have ow20 := litB hg17 (xs := [0, 9, 0, 0, 0, 2]) (by as_aux_lemma => kernel_rfl) (rng_cons (by omega) (rng_cons (by omega) (rng_cons (by omega) (rng_cons (by omega) (rng_cons (by omega) (rng_cons (by omega) rng_nil)))))) (by (try simp only [List.length_cons, List.length_nil]); omega) B18
 have r21 := SmbAt.upd hA13 hu19 not0 ob_none_not
 refine L0 <| Oc (args := #[.pointer (some ⟨g10, 0, none⟩), .slice (some ⟨g15, 0, none⟩) 6 6]) <| ?_
 refine (smb_feed_x aw21a r21 (ow20).rd (far_ne (not_old (SmbAt.lt hA13) lr ow20)) far_none (by decide)).mono ?_
 rintro _ w29 ⟨v25, A26, cp27, n28, rfl, ho30, hA31, hat32, hn33, hu34⟩
 refine ⟨_, rfl, ?_⟩
 have hu35 : Upd [g10] w16 w29 := hu34
 have rd40 := ho30
 obtain ⟨A36, cp37, rfl, hl38, hm39⟩ := RdG.shape rd40.rd
 refine Pl 1 <| ng <| Pl 1 <| L0 <| Oc <| m1 (smb_held hA31) fun w41 hu42 => Pl 1 <| ng <| Pl 1 <| L0 <| Olt (m := 2) (e := 5) #[.int .u8 1, .int .u8 7] fun g43 w44 hg45 B46 hu47 => ?_
 have ow48 := litB hg45 (xs := [1, 7]) (by as_aux_lemma => kernel_rfl) (rng_cons (by omega) (rng_cons (by omega) rng_nil)) (by (try simp only [List.length_cons, List.length_nil]); omega) B46
 have U49 := ut0 hu42 hu47
 have r50 := SmbAt.upd hA31 U49 not0 (fun x hx => not0)
 refine L0 <| Oc (args := #[.pointer (some ⟨g10, 0, none⟩), .slice (some ⟨g43, 0, none⟩) 2 2]) <| ?_
 refine (smb_feed_x aw21b r50 (ow48).rd (far_ne (not_old (SmbAt.lt hA13) (le (le hu19.size hu35.size) hu42.size) ow48)) (far_rows (rows_young ow48 (SmbAt.row hA31) hu42.size)) (by decide)).mono ?_
 rintro _ w58 ⟨v54, A55, cp56, n57, rfl, ho59, hA60, hat61, hn62, hu63⟩
 refine ⟨_, rfl, ?_⟩
 have rd68 := ho59
 obtain ⟨A64, cp65, rfl, hl66, hm67⟩ := RdG.shape rd68.rd
 refine Pl 1 <| ng <| Pl 1 <| L0 <| Olt (m := 6) (e := 5) #[.int .u8 0, .int .u8 9, .int .u8 0, .int .u8 0, .int .u8 1, .int .u8 0] fun g69 w70 hg71 B72 hu73 => ?_
 have ow74 := litB hg71 (xs := [0, 9, 0, 0, 1, 0]) (by as_aux_lemma => kernel_rfl) (rng_cons (by omega) (rng_cons (by omega) (rng_cons (by omega) (rng_cons (by omega) (rng_cons (by omega) (rng_cons (by omega) rng_nil)))))) (by (try simp only [List.length_cons, List.length_nil]); omega) B72
 have r75 := SmbAt.upd hA60 hu73 not0 (fun x hx => not0)
 refine L0 <| Oc (args := #[.pointer (some ⟨g10, 0, none⟩), .slice (some ⟨g69, 0, none⟩) 6 6]) <| ?_
 refine (smb_feed_x aw21c r75 (ow74).rd (far_ne (not_old (SmbAt.lt hA13) (le (le (le (le hu19.size hu35.size) hu42.size) hu47.size) hu63.size) ow74)) (far_rows (rows_young ow74 (SmbAt.row hA60) lr)) (by decide)).mono ?_
 rintro _ w83 ⟨v79, A80, cp81, n82, rfl, ho84, hA85, hat86, hn87, hu88⟩
 refine ⟨_, rfl, ?_⟩
 have rd93 := ho84
 obtain ⟨A89, cp90, rfl, hl91, hm92⟩ := RdG.shape rd93.rd
 refine Pl 1 <| ng <| Pl 1 <| L0 <| Omsl 256 (by decide) fun g94 w95 ho96 hu97 => ?_
 have r98 := SmbAt.upd hA85 hu97 not0 (fun x hx => not0)
 refine L0 <| Oc (args := #[.pointer (some ⟨g10, 0, none⟩), .slice (some ⟨g94, 0, none⟩) 256 256]) <| ?_
 refine (smb_feed_x aw21d r98 (ho96).rd (far_ne (not_old (SmbAt.lt hA13) (le (le (le (le (le (le hu19.size hu35.size) hu42.size) hu47.size) hu63.size) hu73.size) hu88.size) ho96)) (far_rows (rows_young ho96 (SmbAt.row hA85) lr)) (by rw [List.length_replicate]; decide)).mono ?_
 rintro _ w106 ⟨v102, A103, cp104, n105, rfl, ho107, hA108, hat109, hn110, hu111⟩
 refine ⟨_, rfl, ?_⟩
 have rd116 := ho107
 obtain ⟨A112, cp113, rfl, hl114, hm115⟩ := RdG.shape rd116.rd
 refine Pl 1 <| nt <| sq <| sg <| Pl 8 <| nt <| c0 <| skn <| sg <| ?_
 refine Pl 12 <| ?_
 have U117 := ut (Upd.mono (S' := (g10 :: (ob A55 ++ []))) hu73 all0) hu88 (ac im (all_app (fun x hx => Or.inl (by simp [hx])) all0))
 have U118 := ut0 U117 hu97
 have U119 := ut U118 hu111 (ac im (all_app (ob_from hat86 (fun x hx => Or.inl (by simp [hx])) hu73.size) all0))
 have r120 := own_stay rd68 U119 (fun x hx => (not_cons (fun e => (not_old (SmbAt.lt hA13) (le (le (le hu19.size hu35.size) hu42.size) hu47.size) rd68) (e ▸ hx)) (not_app ((rows_type rd68 (SmbAt.row hA60) (by decide)) x hx) not0))) (fun x cs q => evLow.upd U119 (apt_s (SmbAt.cells hA60) (by decide) (apt_n (low_le (Nat.le_refl _) (SmbAt.low hA60)) apt_nil)) q)
 refine x64 (RdE.elt (OwnV.own r120).rd 0 (by decide) (Ev.bad 0)) fun b121 o122 cl123 t124 fr125 s126 hA127 hb128 hv129 hs130 => L1 <| Oixs 25 1 0 hA127 (by omega) <| Pl 1 <| L1 <| Old (p := ⟨b121, o122 + 0 * 25 + 0, none⟩) (v := .int .i64 0) (el_at hb128 hs130 0 (by kernel_rfl) (by decide)) <| Pl 4 <| L1 <| Oixs 25 1 0 hA127 (by omega) <| Pl 3 <| L1 <| Old (p := ⟨b121, o122 + 0 * 25 + 1 + 0 + 1, none⟩) (v := .int .u16 9) (el_at hb128 hs130 2 (by kernel_rfl) (by decide)) <| Pl 4 <| L1 <| Oixs 25 1 0 hA127 (by omega) <| Pl 3 <| L1 <| Old (p := ⟨b121, o122 + 0 * 25 + 1 + 2 + 0, none⟩) (v := .int .u8 7) (el_at hb128 hs130 3 (by kernel_rfl) (by decide)) <| Pl 4 <| ?_
 have U131 := ut (Upd.mono (S' := (g10 :: (ob A80 ++ []))) hu97 all0) hu111 (ac im (all_app (fun x hx => Or.inl (by simp [hx])) all0))
 have r132 := own_stay rd93 U131 (fun x hx => (not_cons (fun e => (not_old (SmbAt.lt hA13) (le (le (le (le (le hu19.size hu35.size) hu42.size) hu47.size) hu63.size) hu73.size) rd93) (e ▸ hx)) (not_app ((rows_type rd93 (SmbAt.row hA85) (by decide)) x hx) not0))) (fun x cs q => evLow.upd U131 (apt_s (SmbAt.cells hA85) (by decide) (apt_n (low_le (Nat.le_refl _) (SmbAt.low hA85)) apt_nil)) q)
 refine x64 (RdE.elt (OwnV.own r132).rd 0 (by decide) (Ev.bad 0)) fun b133 o134 cl135 t136 fr137 s138 hA139 hb140 hv141 hs142 => L1 <| Oixs 25 1 0 hA139 (by omega) <| Pl 1 <| L1 <| Old (p := ⟨b133, o134 + 0 * 25 + 0, none⟩) (v := .int .i64 3) (el_at hb140 hs142 0 (by kernel_rfl) (by decide)) <| Pl 4 <| L1 <| Oc <| m1 (smb_held hA108) fun w143 hu144 => Pl 3 <| nt <| rt <| rr (.bool true) <| ?_
 have U145 := ut0 hu14 hu19
 have U146 := u1 U145 hu35 (nr hg12)
 have U147 := ut0 U146 hu42
 have U148 := ut0 U147 hu47
 have U149 := ut U148 hu63 (ac (nr hg12) (all_app (ob_new (SmbAt.row hA31) lr) all0))
 have U150 := ut0 U149 hu73
 have U151 := ut U150 hu88 (ac (nr hg12) (all_app (ob_new (SmbAt.row hA60) lr) all0))
 have U152 := ut0 U151 hu97
 have U153 := ut U152 hu111 (ac (nr hg12) (all_app (ob_new (SmbAt.row hA85) lr) all0))
 have U154 := ut0 U153 hu144
 exact ⟨rfl, U154⟩
end Go.Proofs.YtgjlbabefogepaaGreat
