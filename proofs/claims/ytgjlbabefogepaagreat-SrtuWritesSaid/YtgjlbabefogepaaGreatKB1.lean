/- Contracts of functions, part KB1. -/
import Derived.Test.YtgjlbabefogepaaGreatKA1
import Derived.Test.YtgjlbabefogepaaGreatKA2
import Derived.Test.YtgjlbabefogepaaGreatKA3
import Derived.Test.YtgjlbabefogepaaGreatKA4
import Derived.Test.YtgjlbabefogepaaGreatKA5
import Derived.Deep.Upon
import Derived.Laws.BitsAllLaws
import Derived.Laws.StructEq
import Derived.SizedLaws
set_option linter.unusedVariables false
set_option linter.unusedSimpArgs false
namespace Go.Proofs.YtgjlbabefogepaaGreat
open Go.RowKit
structure Frm where
  unit : Int
  tid : Int
  msg : Msg
def Frm.zero : Frm := ⟨0, 0, Msg.zero⟩
def FrmRd (m : Bool) (w : World) (cs : Array Value) (F : Frm) : Prop := ∃ c : Array Value, cs = #[.int .u8 F.unit, .int .u16 F.tid] ++ c ∧ MsgRd m w c.toList F.msg ∧ B8 F.unit ∧ B16 F.tid
def PFrm (res : Frm × Int) (w : World) (e : Ending) (w' : World) : Prop := ∃ cs, e = .returned (.tuple #[.agg cs, .int .i64 res.2]) ∧ FrmRd true w' cs res.1 ∧ Upd [] w w'
theorem pf_eq {x y : Frm × Int} (h : x = y) {w : World} {e : Ending} {w' : World} (k : PFrm y w e w') : PFrm x w e w' := by rw [h]; exact k
def frmZ : Array Value := #[.int .u8 0, .int .u16 0, .int .u8 0, .int .u8 0, .int .u16 0, .int .u16 0, .int .u16 0, .int .u16 0, .int .u16 0, .int .u16 0, .int .u16 0, .int .u16 0, .int .u16 0, .int .u16 0, .slice none 0 0, .slice none 0 0, .slice none 0 0, .slice none 0 0, .int .u8 0, .int .u8 0, .int .u8 0, .int .u8 0, .int .u8 0, .slice none 0 0]
theorem bad_frm {x : Int} {w W : World} (hu : Upd [] w W) : PFrm (Frm.zero, x) w (.returned (.tuple #[.agg frmZ, .int .i64 x])) W := ⟨_, rfl, ⟨msgZ, (by kernel_rfl), MsgRd.zero .., (show (0 : Int) ≤ 0 ∧ (0 : Int) < 256 from by decide), (show (0 : Int) ≤ 0 ∧ (0 : Int) < 65536 from by decide)⟩, hu⟩
def frmOf (u t : Int) : Msg × Int → Frm × Int
  | (M, E) => if E != 0 then (Frm.zero, E) else (⟨u, t, M⟩, 0)
theorem pduW_len {dir : Int} {M : Msg} {l : List Int} (h : pduW dir M = some l) : l.length ≤ 253 := by
  unfold pduW at h
  split at h
  · split at h
    · cases h
    · unfold refW at h
      split at h
      · cases h
      · split at h
        · cases h
        · injection h with h
          subst h
          simp only [List.length_cons, List.length_nil]
          omega
  · split at h
    · cases h
    · split at h
      · cases h
      · rename_i hl
        injection h with h
        subst h
        simp only [decide_eq_true_eq] at hl
        simp only [List.length_append, List.length_cons, List.length_nil]
        omega
open Go.RowKit
deriving instance DecidableEq for Frm
def fcl (u t : Int) (M : Msg) (x : SL) : Array Value := #[.int .u8 u, .int .u16 t, .int .u8 M.code, .int .u8 M.fail, .int .u16 M.addr, .int .u16 M.count, .int .u16 M.value, .int .u16 M.and_, .int .u16 M.or_, .int .u16 M.addr2, .int .u16 M.sub, .int .u16 M.status, .int .u16 M.events, .int .u16 M.messages, .slice x.aw M.words.length x.kw, .slice x.ab M.bits.length x.kb, .slice x.ad M.data.length x.kd, .slice x.ar M.recs.length x.kr, .int .u8 M.mei, .int .u8 M.kind, .int .u8 M.level, .int .u8 M.more, .int .u8 M.next, .slice x.ao M.objects.length x.ko]
theorem fcl_eq (u t : Int) (M : Msg) (x : SL) : fcl u t M x = #[.int .u8 u, .int .u16 t] ++ mcl M x := by kernel_rfl
open Go.RowKit
structure Ev where
  e : Int
  f : Frm
def Ev.bad (e : Int) : Ev := ⟨e, Frm.zero⟩
def evl (x : Ev) (s : SL) : Array Value := #[.int .i64 x.e, .int .u8 x.f.unit, .int .u16 x.f.tid, .int .u8 x.f.msg.code, .int .u8 x.f.msg.fail, .int .u16 x.f.msg.addr, .int .u16 x.f.msg.count, .int .u16 x.f.msg.value, .int .u16 x.f.msg.and_, .int .u16 x.f.msg.or_, .int .u16 x.f.msg.addr2, .int .u16 x.f.msg.sub, .int .u16 x.f.msg.status, .int .u16 x.f.msg.events, .int .u16 x.f.msg.messages, .slice s.aw x.f.msg.words.length s.kw, .slice s.ab x.f.msg.bits.length s.kb, .slice s.ad x.f.msg.data.length s.kd, .slice s.ar x.f.msg.recs.length s.kr, .int .u8 x.f.msg.mei, .int .u8 x.f.msg.kind, .int .u8 x.f.msg.level, .int .u8 x.f.msg.more, .int .u8 x.f.msg.next, .slice s.ao x.f.msg.objects.length s.ko]
theorem evl_eq (x : Ev) (s : SL) : evl x s = #[.int .i64 x.e] ++ fcl x.f.unit x.f.tid x.f.msg s := by kernel_rfl
def evR (m : Bool) (w : World) (x : Ev) (cs : List Value) : Prop := ∃ s, cs = (evl x s).toList ∧ MsgRd m w (mcl x.f.msg s).toList x.f.msg ∧ (0 ≤ x.f.unit ∧ x.f.unit < 256) ∧ (0 ≤ x.f.tid ∧ x.f.tid < 65536)
def frR (m : Bool) (w : World) (f : Frm) (cs : List Value) : Prop := ∃ s, cs = (fcl f.unit f.tid f.msg s).toList ∧ MsgRd m w (mcl f.msg s).toList f.msg ∧ (0 ≤ f.unit ∧ f.unit < 256) ∧ (0 ≤ f.tid ∧ f.tid < 65536)
def byR (m : Bool) (w : World) (b : List Int) (cs : List Value) : Prop := ∃ v, cs = [v] ∧ RdB m w v b
abbrev RdE (m : Bool) (w : World) (v : Value) (xs : List Ev) : Prop := RdG m 61 25 (evR m) w v xs
abbrev OwnE (base : Nat) (w : World) (v : Value) (xs : List Ev) : Prop := OwnG base 61 25 (evR true) w v xs
theorem evR.upd {m : Bool} {w w' : World} {S : List Nat} (hu : Upd S w w') (hs : Safe m dataT S w) (x : Ev) (cs : List Value) (h : evR m w x cs) : evR m w' x cs := by
  obtain ⟨s, h1, h2, h3⟩ := h
  exact ⟨s, h1, h2.upd hu hs, h3⟩
theorem RdE.upd' {m : Bool} {w w' : World} {v : Value} {xs : List Ev} {S : List Nat} (h : RdE m w v xs) (hu : Upd S w w') (hs : Safe m (61 :: dataT) S w) : RdE m w' v xs := RdG.upd h hu (hs.sub fun t ht => by rw [List.mem_singleton] at ht; rw [ht]; exact List.mem_cons_self ..) (evR.upd hu (hs.sub fun t ht => List.mem_cons_of_mem _ ht))
theorem RdE.old {m : Bool} {w w' : World} {v : Value} {xs : List Ev} (h : RdE m w v xs) (hu : Upd [] w w') : RdE m w' v xs := h.upd' hu (Safe.nil _ _ _)
theorem evl_size (x : Ev) (s : SL) : (evl x s).toList.length = 25 := by kernel_rfl
theorem SL_nil {w : World} : MsgRd true w (mcl Msg.zero ⟨none, 0, none, 0, none, 0, none, 0, none, 0⟩).toList Msg.zero := MsgRd.zero ..
theorem litE {w0 w : World} {g : Nat} {cs : Array Value} {x : Ev} (hg : w0.heap.size ≤ g) (hb : w.heap[g]? = some (.cells cs 61 (0, 0))) (h : evR true w x cs.toList) : OwnE w0.heap.size w (.slice (some ⟨g, 0, none⟩) 1 1) [x] := by
  have hh := h
  obtain ⟨s, h1, h2⟩ := hh
  have hl : cs.toList.length = 25 := by rw [h1]; exact evl_size x s
  clear h1
  refine ⟨cs.toList, ⟨hl, .inr ⟨g, 1, cs, rfl, hg, hb, Nat.le_refl _, by unfold maxLen; omega, by simpa using hl, by rw [List.take_of_length_le]; exact Nat.le_of_eq hl⟩⟩, fun j y hj => ?_⟩
  cases j with
  | succ j => simp at hj
  | zero =>
    have hj : x = y := by simpa using hj
    subst hj
    exact ⟨cs.toList, hl, h, fun i u hi => by simpa using hi⟩
theorem x64 {α β γ δ ε ζ : Sort _} {C : Prop} {P1 P2 P3 P4 : α → β → γ → δ → ε → ζ → Prop} (h : ∃ a b c d e f, P1 a b c d e f ∧ P2 a b c d e f ∧ P3 a b c d e f ∧ P4 a b c d e f) (k : ∀ a b c d e f, P1 a b c d e f → P2 a b c d e f → P3 a b c d e f → P4 a b c d e f → C) : C :=
  let ⟨a, b, c, d, e, f, h1, h2, h3, h4⟩ := h; k a b c d e f h1 h2 h3 h4
theorem x45 {α β γ δ : Sort _} {C : Prop} {P1 P2 P3 P4 P5 : α → β → γ → δ → Prop} (h : ∃ a b c d, P1 a b c d ∧ P2 a b c d ∧ P3 a b c d ∧ P4 a b c d ∧ P5 a b c d) (k : ∀ a b c d, P1 a b c d → P2 a b c d → P3 a b c d → P4 a b c d → P5 a b c d → C) : C :=
  let ⟨a, b, c, d, h1, h2, h3, h4, h5⟩ := h; k a b c d h1 h2 h3 h4 h5
theorem el_sub {cs : Array Value} {o n k m : Nat} {sub sub2 : List Value} (hs : (cs.toList.drop o).take n = sub) (hv : (sub.drop k).take m = sub2) (hk : k + m ≤ n) : (cs.toList.drop (o + k)).take m = sub2 := by
  rw [← hv, ← hs, List.drop_take, List.take_take, List.drop_drop, Nat.min_eq_left (by omega)]
theorem evR.ones {m : Bool} {w : World} (x : Ev) (cs : List Value) (h : evR m w x cs) : ∀ v, v ∈ cs → v.oneCell' = true := by
  obtain ⟨s, h1, h2, _⟩ := h
  have h3 := h2.one
  intro v hv
  rw [h1, evl_eq, fcl_eq, Array.toList_append, Array.toList_append, List.mem_append, List.mem_append] at hv
  clear h1
  rw [Array.all_eq_true'] at h3
  rcases hv with hv | hv | hv
  · simp at hv; subst hv; rfl
  · simp at hv; rcases hv with rfl | rfl <;> rfl
  · exact h3 v (by simpa using hv)
theorem RdE.elt {m : Bool} {w : World} {A : Option Addr} {n c : Nat} {xs : List Ev} (h : RdE m w (.slice A n c) xs) (j : Nat) (hj : j < xs.length) (d : Ev) :
    ∃ b off cells t fr s, A = some ⟨b, off, none⟩ ∧ w.heap[b]? = some (.cells cells t fr) ∧ (MsgRd m w (mcl (xs.getD j d).f.msg s).toList (xs.getD j d).f.msg ∧ (0 ≤ (xs.getD j d).f.unit ∧ (xs.getD j d).f.unit < 256) ∧ (0 ≤ (xs.getD j d).f.tid ∧ (xs.getD j d).f.tid < 65536)) ∧ (cells.toList.drop (off + j * 25)).take 25 = (evl (xs.getD j d) s).toList := by
  obtain ⟨b, off, cells, t, fr, cs, h1, h2, h3, ⟨s, h4, h5⟩, h6⟩ := RdG.elt h d j hj
  exact ⟨b, off, cells, t, fr, s, h1, h2, h5, h6.trans h4⟩
abbrev RdF (m : Bool) (w : World) (v : Value) (xs : List Frm) : Prop := RdG m 47 24 (frR m) w v xs
abbrev RdBs (m : Bool) (w : World) (v : Value) (xs : List (List Int)) : Prop := RdG m 29 1 (byR m) w v xs
theorem frR.upd {m : Bool} {w w' : World} {S : List Nat} (hu : Upd S w w') (hs : Safe m dataT S w) (x : Frm) (cs : List Value) (h : frR m w x cs) : frR m w' x cs := by
  obtain ⟨s, h1, h2, h3⟩ := h
  exact ⟨s, h1, h2.upd hu hs, h3⟩
theorem RdF.old {m : Bool} {w w' : World} {v : Value} {xs : List Frm} (h : RdF m w v xs) (hu : Upd [] w w') : RdF m w' v xs := RdG.upd h hu (Safe.nil _ _ _) (frR.upd hu (Safe.nil _ _ _))
theorem RdF.elt {m : Bool} {w : World} {A : Option Addr} {n c : Nat} {xs : List Frm} (h : RdF m w (.slice A n c) xs) (j : Nat) (hj : j < xs.length) (d : Frm) :
    ∃ b off cells t fr s, A = some ⟨b, off, none⟩ ∧ w.heap[b]? = some (.cells cells t fr) ∧ (MsgRd m w (mcl (xs.getD j d).msg s).toList (xs.getD j d).msg ∧ (0 ≤ (xs.getD j d).unit ∧ (xs.getD j d).unit < 256) ∧ (0 ≤ (xs.getD j d).tid ∧ (xs.getD j d).tid < 65536)) ∧ (cells.toList.drop (off + j * 24)).take 24 = (fcl (xs.getD j d).unit (xs.getD j d).tid (xs.getD j d).msg s).toList := by
  obtain ⟨b, off, cells, t, fr, cs, h1, h2, h3, ⟨s, h4, h5⟩, h6⟩ := RdG.elt h d j hj
  exact ⟨b, off, cells, t, fr, s, h1, h2, h5, h6.trans h4⟩
theorem RdBs.old {m : Bool} {w w' : World} {v : Value} {xs : List (List Int)} (h : RdBs m w v xs) (hu : Upd [] w w') : RdBs m w' v xs := RdG.upd h hu (Safe.nil _ _ _) fun x cs ⟨v, h1, h2⟩ => ⟨v, h1, h2.old hu⟩
theorem RdBs.elt {m : Bool} {w : World} {A : Option Addr} {n c : Nat} {xs : List (List Int)} (h : RdBs m w (.slice A n c) xs) (j : Nat) (hj : j < xs.length) :
    ∃ b off A' c', A = some ⟨b, off, none⟩ ∧ w.cell? ⟨b, off + j, none⟩ = some (.slice A' (xs.getD j []).length c') ∧ RdB m w (.slice A' (xs.getD j []).length c') (xs.getD j []) ∧ (xs.getD j []).length ≤ c' ∧ c' ≤ maxLen := by
  obtain ⟨b, off, cells, t, fr, cs, h1, h2, h3, ⟨v, h4, h5⟩, h6⟩ := RdG.elt h [] j hj
  obtain ⟨A', c', rfl, h7, h8⟩ := h5.shape
  refine ⟨b, off, A', c', h1, ?_, h5, h7, h8⟩
  rw [blk_cell h2]
  rw [h4] at h6
  have h9 := congrArg (fun z => z[0]?) h6
  simpa using h9
open Go.RowKit
theorem run_min {P : Program} {w : World} {ev : Operand → Value} {o : Oper} {x y : Operand} {ts : Array TypeId} {k : IntKind} {a b : Int} (ho : o.op = .call { callee := .builtin .min, args := #[x, y], argTypes := ts }) (hx : ev x = .int k a) (hy : ev y = .int k b) : (execOp ev o).run P w = .ok (.value (.int k (min a b))) w := by
  have h : (Builtin.min_ ts o.type #[.int k a, .int k b]).run P w = .ok (.int k (min a b)) w := by
    simp [Builtin.min_, Builtin.min2]
    split <;> simp [Int.min_def] <;> omega
  unfold execOp
  simp only [ho, resolve, invoke, builtin, Sem.run_bind, Sem.run_pure, Result.andThen_ok, List.map_toArray, List.map_cons, List.map_nil, hx, hy, h]
theorem RdG.adr {α : Type} {m : Bool} {e : TypeId} {sz : Nat} {R : World → α → List Value → Prop} {w : World} {A : Option Addr} {n c : Nat} {xs : List α} (h : RdG m e sz R w (.slice A n c) xs) : 0 < n → ∃ b off, A = some ⟨b, off, none⟩ := fun hn => by
  obtain ⟨A', c', hv, hc1, hc2, h0, h3⟩ := h
  injection hv with e1 e2 e3
  subst e1 e2 e3
  obtain ⟨b, off, cells, t, fr, hA, _⟩ := h3 hn
  exact ⟨b, off, hA⟩
theorem RdG.cap {α : Type} {m : Bool} {e : TypeId} {sz : Nat} {R : World → α → List Value → Prop} {w : World} {A : Option Addr} {n c : Nat} {xs : List α} (h : RdG m e sz R w (.slice A n c) xs) : n ≤ c := by
  obtain ⟨A', c', hv, h1, _⟩ := h
  injection hv with _ e2 e3
  subst e2 e3
  exact h1
theorem run_full {P : Program} {w : World} {ev : Operand → Value} {o : Oper} {x y z : Operand} {t e : TypeId} {A : Option Addr} {n c : Nat} {k1 k2 : IntKind} {i1 i2 : Int} (ho : o.op = .slice t x none (some y) (some z)) (ht : P.underlying t = some (.slice e)) (hi : (P.info? e).map (·.size) = some 1)
    (hx : ev x = .slice A n c) (hy : ev y = .int k1 i1) (hz : ev z = .int k2 i2) (h1 : i1 = (n : Int)) (h2 : i2 = (n : Int)) (hc1 : n ≤ c) (hA : 0 < n → ∃ b off, A = some ⟨b, off, none⟩) : (execOp ev o).run P w = .ok (.value (.slice A n n)) w := by
  subst h1 h2
  obtain ⟨i0, hi0, hs⟩ := Option.map_eq_some_iff.1 hi
  have hel : P.elem t = e := by simp [Program.elem, ht]
  have hu : P.underlying t = some (.slice (P.elem t)) := by rw [hel]; exact ht
  have hr := run_slice_hm (P := P) w t A n c hu k1 k2 ((n : Nat) : Int) ((n : Nat) : Int) (by omega) (Int.le_refl _) (by omega)
  have hA : (if n = 0 then A else A.map (·.add 0)) = A := by
    split
    · rfl
    · rename_i hne
      obtain ⟨b, off, rfl⟩ := hA (by omega)
      rfl
  have hr2 : (Instr.slice t (.slice A n c) none (some (.int k1 ((n : Nat) : Int))) (some (.int k2 ((n : Nat) : Int)))).run P w = .ok (.slice A n n) w := by
    rw [hr, hel]
    simp [sizeOf, typeInfo, hi0, hs, sliced, Result.andThen]
    simpa using hA
  have hu2 : (underlying t).run P w = .ok (.slice e) w := run_underlying ht w
  unfold execOp
  simp only [ho, Option.map_some, Option.map_none, hx, hy, hz, Instr.sliceAt, Sem.run_bind, hu2, hr2, Result.andThen, Sem.run_pure]
theorem RdB.full {m : Bool} {w : World} {A : Option Addr} {n c : Nat} {xs : List Int} (h : RdB m w (.slice A n c) xs) : RdB m w (.slice A n n) xs := by
  obtain ⟨A', c', hv, hc1, hc2, h0, h3⟩ := h
  injection hv with e1 e2 e3
  subst e1 e2 e3
  refine ⟨A, xs.length, rfl, Nat.le_refl _, Nat.le_trans hc1 hc2, fun hA => ?_, h3⟩
  have := h0 hA
  omega
theorem src_none {P : Program} {A : Option Addr} {c : Nat} (w : World) : (Builtin.firstCells 1 0 (.slice A 0 c)).run P w = .ok #[] w := by
  cases A with
  | none => simp [Builtin.firstCells]
  | some a =>
    have := run_loadCells_list (P := P) w a [] (fun j v hj => by simp at hj)
    simpa [Builtin.firstCells] using this
theorem src_rd {P : Program} {m : Bool} {w : World} {t e : TypeId} {A : Option Addr} {n c : Nat} {ys : List Int} (ht : P.underlying t = some (.slice e)) (h : RdB m w (.slice A n c) ys) (h0 : ys = []) : Src P 1 t (.slice A n c) 0 [] w := by
  subst h0
  obtain ⟨A', c', hv, hc1, hc2, h0, h3⟩ := h
  injection hv with e1 e2 e3
  subst e1 e2 e3
  exact ⟨.inl ⟨e, ht⟩, fun w' => by simp [Builtin.lenOf], src_none w, src_none w.drew, rfl, fun u hu => by cases hu⟩
theorem run_append_full {P : Program} {m : Bool} {w : World} (t ty e : TypeId) (ht : P.underlying t = some (.slice e)) (hte : e = 5) (hinfo : (P.info? e).map (fun i => (i.zero, i.size, i.bytes)) = some (some (.int .u8 0), 1, 1))
    {A : Option Addr} {xs ys : List Int} (HX : RdB true w (.slice A xs.length xs.length) xs) {u : Value} (HY : RdB m w u ys) (hl : xs.length + ys.length ≤ 4194304) :
    ∃ v w', (Builtin.append_ #[t, t] ty #[.slice A xs.length xs.length, u]).run P w = .ok v w' ∧ RdB true w' v (xs ++ ys) ∧ Upd [] w w' := by
  subst hte
  obtain ⟨i0, hi, hz0, hz1, hz2⟩ := info_parts hinfo
  obtain ⟨B, c, rfl, hc1, hc2⟩ := HY.shape
  by_cases hy : ys = []
  · have hs := src_rd (P := P) ht HY hy
    subst hy
    rw [← hz1] at hs
    exact ⟨_, w, run_append_nothing w t t ty _ i0 ht hi A xs.length xs.length (Nat.le_refl _) _ hs, by simpa using HX, Upd.refl _ _⟩
  have hyl : 0 < ys.length := by
    cases ys with
    | nil => exact absurd rfl hy
    | cons a r => simp
  cases B with
  | none =>
    obtain ⟨B, c', hv, _, _, h0, h3⟩ := HY
    injection hv with e1 e2 e3
    subst e1 e3
    obtain ⟨b, off, cells, t, fr, hh, _⟩ := h3 hyl
    cases hh
  | some ad =>
    obtain ⟨_, hnews⟩ := cell_news one_u8.cell HY
    have hby : ∀ x, x ∈ xs ++ ys → 0 ≤ x ∧ x < 256 := fun x hx => by
      rcases List.mem_append.1 hx with h | h
      · exact HX.rng x h
      · exact HY.rng x h
    have fin : ∀ (cp : Nat) (w' : World) (zs : Array Value), xs.length + ys.length ≤ cp → cp ≤ maxLen → w'.heap[w.heap.size]? = some (.cells (((xs ++ ys).map (Value.int .u8)).toArray ++ zs) 5 (0, 0)) → RdB true w' (.slice (some ⟨w.heap.size, 0, none⟩) (xs.length + ys.length) cp) (xs ++ ys) := fun cp w' zs h1 h2 h3 => by
      refine ⟨_, cp, by rw [List.length_append], by rw [List.length_append]; exact h1, h2, (fun hA => by cases hA), fun hp => ⟨w.heap.size, 0, _, _, _, rfl, h3, fun _ => rfl, fun j x hj => ?_⟩⟩
      refine ⟨[.int .u8 x], rfl, ⟨rfl, hby x (List.mem_of_getElem? hj)⟩, fun i u hi => ?_⟩
      cases i with
      | succ i => simp at hi
      | zero =>
        have hi : Value.int .u8 x = u := by simpa using hi
        subst hi
        have hlt := (List.getElem?_eq_some_iff.1 hj).1
        rw [Array.getElem?_append_left (by simp; simpa using hlt)]
        simp only [Nat.zero_add, Nat.mul_one, Nat.add_zero]
        rw [List.getElem?_toArray, List.getElem?_map, hj]
        rfl
    cases A with
    | none =>
      have hx0 : xs = [] := by
        obtain ⟨B, c', hv, _, _, h0, h3⟩ := HX
        injection hv with e1 e2 e3
        subst e1
        have := h0 rfl
        exact List.eq_nil_of_length_eq_zero (by omega)
      subst hx0
      have hr := run_append_nil (P := P) w t ty _ i0 (.int .u8 0) ht hi hz0 ad ys.length c (ys.map (Value.int .u8)) (by rw [hz1]; simp) hnews hyl (by omega) (by rw [hz2]; omega)
      refine ⟨_, _, hr, ?_, ((Upd.refl _ _).drew).alloc _⟩
      have := fin (grownCap w ys.length 0 5) (w.drew.alloc (.cells ((ys.map (Value.int .u8)).toArray ++ Builtin.zeroCells (Value.int .u8 0).cells (grownCap w ys.length 0 5 - ys.length)) 5)) (Builtin.zeroCells (Value.int .u8 0).cells (grownCap w ys.length 0 5 - ys.length)) (by simpa using grownCap_ge w ys.length 0 _) (grownCap_le_maxLen _ _ _ _ (by unfold maxLen; omega)) (by simpa using blk_new w.drew _)
      simpa using this
    | some bd =>
      obtain ⟨_, holds⟩ := cell_news one_u8.cell HX
      have hr := run_append_grow (P := P) w t ty _ i0 (.int .u8 0) ht hi hz0 bd xs.length xs.length (xs.map (Value.int .u8)) (by rw [hz1]; simp) holds ad ys.length c (ys.map (Value.int .u8)) (by rw [hz1]; simp) hnews (by omega) (by omega) (by
        rw [hz2]
        have := nextslicecap_le (need := xs.length + ys.length) (old := xs.length) (by omega)
        omega)
      refine ⟨_, _, hr, ?_, ((Upd.refl _ _).drew).alloc _⟩
      refine fin (grownCap w (xs.length + ys.length) xs.length 5) _ (Builtin.zeroCells (Value.int .u8 0).cells (grownCap w (xs.length + ys.length) xs.length 5 - (xs.length + ys.length))) (grownCap_ge w _ _ _) (grownCap_le_maxLen _ _ _ _ (by unfold maxLen; omega)) ?_
      simpa using blk_new w.drew _
section
variable {P : Program} {n : Nat} {D : List Deferred} {F : Fr} {w : World} {K : Fr → World → Prop} {Q : Exit → Act → World → Prop} {d : Option Tmp} {t : TypeId} {s : String} {af : Array Edge} {gu : Option (Nat × Bool)}
theorem Oapc {ty : TypeId} {x y : Operand} {m : Bool} {A : Option Addr} {xs ys : List Int} {u : Value} (HX : RdB true w (.slice A xs.length xs.length) xs) (HY : RdB m w u ys) (hl : xs.length + ys.length ≤ 4194304)
    (h : ∀ A' cp w', RdB true w' (.slice A' (xs ++ ys).length cp) (xs ++ ys) → Upd [] w w' → K (pt d (.slice A' (xs ++ ys).length cp) F) w') (hx : evo F x = some (.slice A xs.length xs.length) := by kernel_rfl) (hy : evo F y = some u := by kernel_rfl)
    (hs : (slE P ty, (P.info? 5).map (fun i => (i.zero, i.size, i.bytes)), dok n d) = (some 5, some (some (.int .u8 0), 1, 1), true) := by kernel_rfl) : OG P ⟨d, .call { callee := .builtin .append, args := #[x, y], argTypes := #[ty, ty] }, t, s, af, gu⟩ n D F w K Q := by
  simp only [Prod.mk.injEq] at hs
  obtain ⟨h1, h2, h3⟩ := hs
  obtain ⟨v, w', hr, hv, hu⟩ := run_append_full (P := P) (w := w) ty t _ (slE_some h1) rfl h2 HX HY hl
  obtain ⟨A', cp, rfl, _, _⟩ := hv.shape
  refine ⟨fun a ha K' hK => OW.mk ?_⟩
  have hx' := ha.ev hx
  have hy' := ha.ev hy
  unfold Oper.wp execOp
  simp only [resolve, invoke, builtin, Sem.run_bind, Sem.run_pure, Result.andThen_ok, List.map_toArray, List.map_cons, List.map_nil, hx', hy', hr]
  exact hK _ _ _ (h A' cp w' hv hu) (ha.put h3)
end
end Go.Proofs.YtgjlbabefogepaaGreat
namespace Go.Proofs.YtgjlbabefogepaaGreat
def crc1 (x : Nat) : Nat := (x / 2) ^^^ (x % 2 * 40961)
def crcK : Nat → Nat → Nat
  | 0, x => x
  | k + 1, x => crc1 (crcK k x)
def tabN (i : Nat) : Nat := crcK 8 i
def unc1 (y : Nat) : Nat := if y < 32768 then y * 2 else (y ^^^ 40961) * 2 + 1
def uncK : Nat → Nat → Nat
  | 0, x => x
  | k + 1, x => unc1 (uncK k x) % 65536
def invT (h : Nat) : Nat := uncK 8 (h * 256) % 256
theorem crc1_lt {x : Nat} (h : x < 65536) : crc1 x < 65536 := by
  unfold crc1
  exact Nat.xor_lt_two_pow (n := 16) (by omega) (by omega)
theorem crcK_lt {x : Nat} (h : x < 65536) : ∀ k, crcK k x < 65536
  | 0 => h
  | k + 1 => crc1_lt (crcK_lt h k)
theorem tabN_lt {i : Nat} (h : i < 256) : tabN i < 65536 := crcK_lt (by omega) 8
theorem inv_tab : ∀ i, i < 256 → invT (tabN i / 256) = i := by decide +kernel
def stepN (s c : Nat) : Nat := (s / 256) ^^^ tabN ((s % 256) ^^^ c)
theorem xor_lt8 {a b : Nat} (ha : a < 256) (hb : b < 256) : a ^^^ b < 256 := Nat.xor_lt_two_pow (n := 8) ha hb
theorem xor_lt16 {a b : Nat} (ha : a < 65536) (hb : b < 65536) : a ^^^ b < 65536 := Nat.xor_lt_two_pow (n := 16) ha hb
theorem stepN_lt {s c : Nat} (hs : s < 65536) (hc : c < 256) : stepN s c < 65536 := xor_lt16 (by omega) (tabN_lt (xor_lt8 (by omega) hc))
theorem xor_can {a b c : Nat} (h : a ^^^ c = b ^^^ c) : a = b := by
  have := congrArg (· ^^^ c) h
  simpa only [Nat.xor_assoc, Nat.xor_self, Nat.xor_zero] using this
theorem xor_can2 {a b c : Nat} (h : c ^^^ a = c ^^^ b) : a = b := xor_can (c := c) (by rw [Nat.xor_comm a, Nat.xor_comm b, h])
theorem xor_hi {a t : Nat} (ha : a < 256) : (a ^^^ t) / 256 = t / 256 := by
  rw [← Nat.shiftRight_eq_div_pow (a ^^^ t) 8, Nat.shiftRight_xor_distrib, Nat.shiftRight_eq_div_pow, Nat.shiftRight_eq_div_pow, show a / 2 ^ 8 = 0 from by omega, Nat.zero_xor]
theorem step_one {s s' c c' : Nat} (hs : s < 65536) (hs' : s' < 65536) (hc : c < 256) (hc' : c' < 256) (h : stepN s c = stepN s' c') : (s % 256) ^^^ c = (s' % 256) ^^^ c' ∧ s / 256 = s' / 256 := by
  unfold stepN at h
  have h1 := xor_hi (a := s / 256) (t := tabN ((s % 256) ^^^ c)) (by omega)
  have h2 := xor_hi (a := s' / 256) (t := tabN ((s' % 256) ^^^ c')) (by omega)
  have h3 : (s % 256) ^^^ c = (s' % 256) ^^^ c' := by
    rw [← inv_tab _ (xor_lt8 (by omega : s % 256 < 256) hc), ← inv_tab _ (xor_lt8 (by omega : s' % 256 < 256) hc'), ← h1, ← h2, h]
  rw [h3] at h
  exact ⟨h3, xor_can h⟩
theorem step_injS {s s' c : Nat} (hs : s < 65536) (hs' : s' < 65536) (hc : c < 256) (h : stepN s c = stepN s' c) : s = s' := by
  obtain ⟨h1, h2⟩ := step_one hs hs' hc hc h
  have := xor_can h1
  omega
theorem step_injC {s c c' : Nat} (hs : s < 65536) (hc : c < 256) (hc' : c' < 256) (h : stepN s c = stepN s c') : c = c' := xor_can2 (step_one hs hs hc hc' h).1
def xi (a b : Int) : Int := ((a.toNat ^^^ b.toNat : Nat) : Int)
theorem xi8 {a b : Int} (ha : 0 ≤ a ∧ a < 256) (hb : 0 ≤ b ∧ b < 256) : 0 ≤ xi a b ∧ xi a b < 256 := by
  have := xor_lt8 (a := a.toNat) (b := b.toNat) (by omega) (by omega)
  unfold xi
  omega
theorem crc1_xi (n : Nat) : xi (((n : Nat) : Int) / 2) ((((n : Nat) : Int) % 2) * 40961 % 65536) = ((crc1 n : Nat) : Int) := by
  unfold xi crc1
  rw [show (((n : Nat) : Int) / 2).toNat = n / 2 from by omega, show ((((n : Nat) : Int) % 2) * 40961 % 65536).toNat = n % 2 * 40961 from by omega]
def tabI (i : Int) : Int := ((tabN i.toNat : Nat) : Int)
theorem tabI_rng {i : Int} (h : 0 ≤ i ∧ i < 256) : 0 ≤ tabI i ∧ tabI i < 65536 := by
  have := tabN_lt (i := i.toNat) (by omega)
  unfold tabI
  omega
def crcS (s c : Int) : Int := xi (s / 256) (tabI (xi (s % 256) c))
theorem crcS_nat {s c : Int} (hs : 0 ≤ s ∧ s < 65536) (hc : 0 ≤ c ∧ c < 256) : crcS s c = ((stepN s.toNat c.toNat : Nat) : Int) := by
  unfold crcS tabI xi stepN
  rw [show (s / 256).toNat = s.toNat / 256 from by omega, show (s % 256).toNat = s.toNat % 256 from by omega]
  simp only [Int.toNat_natCast]
theorem crcS_rng {s c : Int} (hs : 0 ≤ s ∧ s < 65536) (hc : 0 ≤ c ∧ c < 256) : 0 ≤ crcS s c ∧ crcS s c < 65536 := by
  have := stepN_lt (s := s.toNat) (c := c.toNat) (by omega) (by omega)
  rw [crcS_nat hs hc]
  omega
def crcT (s : Int) (b : List Int) : Int := b.foldl crcS s
theorem crcT_rng : ∀ (b : List Int) {s : Int}, (0 ≤ s ∧ s < 65536) → (∀ x, x ∈ b → 0 ≤ x ∧ x < 256) → 0 ≤ crcT s b ∧ crcT s b < 65536
  | [], s, hs, _ => hs
  | c :: b, s, hs, hb => crcT_rng b (crcS_rng hs (hb c (List.mem_cons_self ..))) fun x hx => hb x (List.mem_cons_of_mem _ hx)
theorem crcS_injS {s s' c : Int} (hs : 0 ≤ s ∧ s < 65536) (hs' : 0 ≤ s' ∧ s' < 65536) (hc : 0 ≤ c ∧ c < 256) (h : crcS s c = crcS s' c) : s = s' := by
  rw [crcS_nat hs hc, crcS_nat hs' hc] at h
  have := step_injS (s := s.toNat) (s' := s'.toNat) (c := c.toNat) (by omega) (by omega) (by omega) (by omega)
  omega
theorem crcS_injC {s c c' : Int} (hs : 0 ≤ s ∧ s < 65536) (hc : 0 ≤ c ∧ c < 256) (hc' : 0 ≤ c' ∧ c' < 256) (h : crcS s c = crcS s c') : c = c' := by
  rw [crcS_nat hs hc, crcS_nat hs hc'] at h
  have := step_injC (s := s.toNat) (c := c.toNat) (c' := c'.toNat) (by omega) (by omega) (by omega) (by omega)
  omega
theorem crcT_injS : ∀ (b : List Int) {s s' : Int}, (0 ≤ s ∧ s < 65536) → (0 ≤ s' ∧ s' < 65536) → (∀ x, x ∈ b → 0 ≤ x ∧ x < 256) → crcT s b = crcT s' b → s = s'
  | [], s, s', _, _, _, h => h
  | c :: b, s, s', hs, hs', hb, h =>
    have hc := hb c (List.mem_cons_self ..)
    crcS_injS hs hs' hc (crcT_injS b (crcS_rng hs hc) (crcS_rng hs' hc) (fun x hx => hb x (List.mem_cons_of_mem _ hx)) h)
theorem crcT_app (s : Int) (a b : List Int) : crcT s (a ++ b) = crcT (crcT s a) b := by unfold crcT; rw [List.foldl_append]
theorem crcT_one {s c c' : Int} {a d : List Int} (hs : 0 ≤ s ∧ s < 65536) (ha : ∀ x, x ∈ a → 0 ≤ x ∧ x < 256) (hd : ∀ x, x ∈ d → 0 ≤ x ∧ x < 256) (hc : 0 ≤ c ∧ c < 256) (hc' : 0 ≤ c' ∧ c' < 256) (h : crcT s (a ++ c :: d) = crcT s (a ++ c' :: d)) : c = c' := by
  rw [crcT_app, crcT_app] at h
  have hr := crcT_rng a hs ha
  exact crcS_injC hr hc hc' (crcT_injS d (crcS_rng hr hc) (crcS_rng hr hc') hd h)
def crcTwo (s : Int) : List Int := [s % 256, s / 256 % 256]
theorem crcTwo_length (s : Int) : (crcTwo s).length = 2 := rfl
def crcIs (b : List Int) : Bool := decide (2 ≤ b.length) && decide (crcTwo (crcT 65535 (b.take (b.length - 2))) = b.drop (b.length - 2))
open Go.RowKit
def arE (P : Program) (ty : TypeId) : Option (Nat × TypeId) := match P.underlying ty with | some (.array m e) => some (m, e) | _ => none
theorem arE_some {P : Program} {ty e : TypeId} {m : Nat} (h : arE P ty = some (m, e)) : P.underlying ty = some (.array m e) := by
  unfold arE at h
  split at h
  · injection h with h
    injection h with h1 h2
    subst h1 h2
    assumption
  · cases h
theorem run_ixarr {P : Program} {w : World} {ev : Operand → Value} {o : Oper} {t e : TypeId} {x ix : Operand} {b off j m : Nat} {k : IntKind} {i : Int} (ho : o.op = .indexAddr t x ix) (ht : P.underlying t = some (.array m e)) (hi : (P.info? e).map (·.size) = some 1)
    (hx : ev x = .pointer (some ⟨b, off, none⟩)) (hix : ev ix = .int k i) (hj : i = j) (hlt : j < m) : (execOp ev o).run P w = .ok (.value (.pointer (some ⟨b, off + j, none⟩))) w := by
  subst hj
  obtain ⟨i0, hi0, hs⟩ := Option.map_eq_some_iff.1 hi
  unfold execOp
  have h2 : (0 : Int) ≤ (j : Int) ∧ (j : Int) < (m : Int) := by omega
  simp [ho, hx, hix, Instr.indexAt, Instr.sureAddr, asIntOf, run_underlying ht, Result.andThen, h2, sizeOf, typeInfo, hi0, hs, add_mk, hlt]
section
variable {P : Program} {n : Nat} {D : List Deferred} {F : Fr} {w : World} {K : Fr → World → Prop} {Q : Exit → Act → World → Prop} {d : Option Tmp} {t : TypeId} {s : String} {af : Array Edge} {gu : Option (Nat × Bool)}
theorem Oia {ty : TypeId} {x ix : Operand} {b off : Nat} (m j : Nat) (i : Int) (hj : i = j) (hlt : j < m) (h : K (pt d (.pointer (some ⟨b, off + j, none⟩)) F) w)
    (hx : evo F x = some (.pointer (some ⟨b, off, none⟩)) := by kernel_rfl) (hi : ixA F ix = some i := by kernel_rfl) (hs : ((arE P ty).bind fun p => (P.info? p.2).map fun q => (p.1, q.size), dok n d) = (some (m, 1), true) := by kernel_rfl) : OG P ⟨d, .indexAddr ty x ix, t, s, af, gu⟩ n D F w K Q := by
  simp only [Prod.mk.injEq] at hs
  obtain ⟨hs, hd⟩ := hs
  obtain ⟨k, hi⟩ := ixA_some hi
  cases he : arE P ty with
  | none => rw [he] at hs; simp at hs
  | some p =>
    obtain ⟨m', e⟩ := p
    rw [he] at hs
    obtain ⟨q, hq, h3⟩ := Option.map_eq_some_iff.1 (show (P.info? e).map (fun q => (m', q.size)) = some (m, 1) from hs)
    injection h3 with h4 h5
    subst h4
    exact ⟨fun a ha K' hK => ow_val _ rfl (run_ixarr rfl (arE_some he) (by rw [hq]; simp [h5]) (ha.ev hx) (ha.ev hi) hj hlt) (hK _ _ _ h (ha.put hd))⟩
end
theorem xi_u8 {a b : Int} (ha : 0 ≤ a ∧ a < 256) (hb : 0 ≤ b ∧ b < 256) : bits .xor .u8 a b = xi a b := u8_xor a b ha.1 ha.2 hb.1 hb.2
theorem xi_u16 {a b : Int} (ha : 0 ≤ a ∧ a < 65536) (hb : 0 ≤ b ∧ b < 65536) : bits .xor .u16 a b = xi a b := u16_xor a b ha.1 ha.2 hb.1 hb.2
theorem and1_u16 {a : Int} (ha : 0 ≤ a ∧ a < 65536) : bits .and .u16 a 1 = a % 2 := by
  rw [u16_and a 1 ha.1 ha.2 (by omega) (by omega)]
  show ((a.toNat &&& 1 : Nat) : Int) = _
  rw [Nat.and_one_is_mod]
  omega
def tabA (k : Nat) : Array Value := ((List.range 256).map fun i => if i < k then Value.int .u16 (tabI i) else Value.int .u16 0).toArray
theorem tabA_size (k : Nat) : (tabA k).size = 256 := by simp [tabA]
theorem tabA_one (k : Nat) : (tabA k).all (·.oneCell') = true := by
  unfold tabA
  rw [List.all_toArray, List.all_eq_true]
  intro v hv
  rw [List.mem_map] at hv
  obtain ⟨i, _, rfl⟩ := hv
  split <;> rfl
theorem tabA_set {i k : Nat} (hk : k = 8) (hi : i < 256) : (tabA i).setIfInBounds i (.int .u16 ((crcK k i : Nat) : Int)) = tabA (i + 1) := by
  subst hk
  unfold tabA
  rw [List.setIfInBounds_toArray]
  congr 1
  apply List.ext_getElem?
  intro j
  rw [List.getElem?_set]
  by_cases hj : j < 256
  · by_cases hij : i = j
    · subst hij
      simp [hi, tabI, tabN]
    · simp [hij, hj]
      congr 1
      simp only [eq_iff_iff]
      omega
  · rw [if_neg (by omega)]
    simp [hj]
theorem tabA_at {i : Nat} (h : i < 256) : (tabA 256)[i]? = some (.int .u16 (tabI i)) := by simp [tabA, h]
def crcP (s : Int) (b : List Int) : Nat → Int
  | 0 => s
  | k + 1 => crcS (crcP s b k) (b.getD k 0)
theorem crcP_take (s : Int) (b : List Int) : ∀ k, k ≤ b.length → crcP s b k = crcT s (b.take k)
  | 0, _ => by simp [crcP, crcT]
  | k + 1, h => by
    rw [List.take_succ_eq_append_getElem (by omega), crcT_app, ← crcP_take s b k (by omega)]
    show crcS _ (b.getD k 0) = _
    rw [List.getD_eq_getElem?_getD, List.getElem?_eq_getElem (by omega)]
    rfl
theorem crcP_all {s : Int} {b : List Int} {k : Nat} (h : k = b.length) : crcP s b k = crcT s b := by
  subst h
  rw [crcP_take _ _ _ (Nat.le_refl _), List.take_length]
theorem crcP_rng {s : Int} {b : List Int} (hs : 0 ≤ s ∧ s < 65536) (hb : ∀ x, x ∈ b → 0 ≤ x ∧ x < 256) : ∀ k, 0 ≤ crcP s b k ∧ crcP s b k < 65536
  | 0 => hs
  | k + 1 => crcS_rng (crcP_rng hs hb k) (getD_rng (by omega) hb k)
theorem tabI_nat {i : Int} (h : 0 ≤ i) : tabI ((i.toNat : Nat) : Int) = tabI i := by rw [Int.toNat_of_nonneg h]
open Go.RowKit
set_option maxRecDepth 100000 in
set_option maxHeartbeats 4000000 in
theorem crctable_any {w : World} : Calls Tryz.prog 92 #[] w (PVal (.agg (tabA 256)) w) := by
 refine en 23 Tryz.func92 rfl <| sg <| L0 <| Oal (tabA 0) fun g10 w11 hg12 B13 hu14 => ng <| L0 <| Oal (tabA 0) fun g15 w16 hg17 B18 hu19 => nt <| sq <| sg <| ?_
 refine Pl 1 <| nt <| bk <| ?_
 refine glp (fun x => [(0, .pointer (some ⟨g10, 0, none⟩)), (1, .pointer (some ⟨g15, 0, none⟩)), (4, .int .i64 ((x : Nat) : Int))]) (fun (x : Nat) w' => Upd [g15] w16 w' ∧ w'.heap[g15]? = some (.cells (tabA x) 124 (0, 0)) ∧ (x ≤ 256)) (fun x => 256 - x) 0 ⟨Upd.refl _ _, B18, (by (try dsimp only); omega)⟩ ?_
 rintro i w20 ⟨hu21, f22, p23⟩
 refine wkc [(0, .pointer (some ⟨g10, 0, none⟩)), (1, .pointer (some ⟨g15, 0, none⟩)), (4, .int .i64 ((i : Nat) : Int))] ?_
 have f25 : w20.heap[g15]? = some (.cells (tabA i) 124 (0, 0)) := f22
 have p26 : i ≤ 256 := p23
 refine sg <| Pl 1 <| nt <| sq <| ?_
 have U27 := ut0 hu14 hu19
 have U28 := u1 U27 hu21 (ni hu14.size hg17)
 refine cb ((decide (((i : Nat) : Int) < 256))) (fun q29 => ?_) (fun q29 => ?_)
 have q29p := of_decide_eq_true q29
 refine skn <| sq <| bk <| sg <| Pl 2 <| ng <| Pl 1 <| L0 <| Oe (.int .u16 (IntKind.u16.wrap ((i : Nat) : Int))) (.int .u16 ((crcK 0 i : Nat) : Int)) (congrArg (Value.int .u16) (u16_in (x := ((i : Nat) : Int)) (by omega))) <| Pl 1 <| nl <| ?_
 refine tn <| sq <| sg <| Pl 1 <| nt <| bk <| ?_
 refine glp (fun x => [(0, .pointer (some ⟨g10, 0, none⟩)), (1, .pointer (some ⟨g15, 0, none⟩)), (2, .int .i64 ((i : Nat) : Int)), (3, .int .u16 ((crcK x i : Nat) : Int)), (4, .int .i64 ((i : Nat) : Int)), (5, .bool (decide (((i : Nat) : Int) < 256))), (6, .int .i64 ((i : Nat) : Int)), (7, .int .i64 ((i : Nat) : Int)), (8, .int .u16 ((crcK 0 i : Nat) : Int)), (9, .int .i64 ((x : Nat) : Int))]) (fun (x : Nat) w' => Upd [] w20 w' ∧ (x ≤ 8)) (fun x => 8 - x) 0 ⟨Upd.refl _ _, (by (try dsimp only); omega)⟩ ?_
 rintro k w30 ⟨hu31, p32⟩
 refine wkc [(0, .pointer (some ⟨g10, 0, none⟩)), (1, .pointer (some ⟨g15, 0, none⟩)), (2, .int .i64 ((i : Nat) : Int)), (3, .int .u16 ((crcK k i : Nat) : Int)), (4, .int .i64 ((i : Nat) : Int)), (5, .bool (decide (((i : Nat) : Int) < 256))), (6, .int .i64 ((i : Nat) : Int)), (7, .int .i64 ((i : Nat) : Int)), (8, .int .u16 ((crcK 0 i : Nat) : Int)), (9, .int .i64 ((k : Nat) : Int))] ?_
 have p34 : k ≤ 8 := p32
 have hk35 := crcK_lt (x := i) (by omega) k
 refine sg <| Pl 1 <| nt <| sq <| ?_
 have U36 := ut0 U28 hu31
 refine cb ((decide (((k : Nat) : Int) < 8))) (fun q37 => ?_) (fun q37 => ?_)
 have q37p := of_decide_eq_true q37
 refine skn <| sq <| bk <| go <| Pl 1 <| L0 <| Oe (.int .u16 (Int.fdiv ((crcK k i : Nat) : Int) (2 ^ 1))) (.int .u16 (((crcK k i : Nat) : Int) / 2)) (congrArg (Value.int .u16) (shr_lit _ _ _ (by decide))) <| Pl 1 <| L0 <| Oe (.int .u16 (bits .and .u16 ((crcK k i : Nat) : Int) 1)) (.int .u16 (((crcK k i : Nat) : Int) % 2)) (congrArg (Value.int .u16) (and1_u16 (by omega))) <| Pl 1 <| L0 <| Oe (.int .u16 (bits .xor .u16 (((crcK k i : Nat) : Int) / 2) (((((crcK k i : Nat) : Int) % 2) * 40961) % 65536))) (.int .u16 ((crcK (k + 1) i : Nat) : Int)) (congrArg (Value.int .u16) ((xi_u16 (by omega) (by omega)).trans (crc1_xi _))) <| Pl 1 <| nl <| bn <| ?_
 exact tn <| go <| L0 <| Oi (((k : Nat) : Int) + 1) <| Pl 1 <| nl <| lpe (k + 1) ⟨hu31, (by (try dsimp only); omega)⟩ (by omega)
 have q37p := of_decide_eq_false q37
 refine xt <| tx <| tx <| bx <| tn <| go <| Pl 2 <| L0 <| Oia (b := g15) (off := 0) 256 i ((i : Nat) : Int) rfl (by omega) <| ?_
 have r38 := ub hu31 f25
 refine L0 <| Ost (hl := (by rw [tabA_size]; simp; omega)) r38 (0 + i) ((tabA i).setIfInBounds (0 + i) (.int .u16 ((crcK k i : Nat) : Int))) fun w39 B40 hu41 => ?_
 have B42 := B40
 rw [Nat.zero_add, tabA_set (by omega) (by omega)] at B42
 refine nl <| bn <| tn <| go <| L0 <| Oi (((i : Nat) : Int) + 1) <| Pl 1 <| nl <| ?_
 have U43 := ut0 hu21 hu31
 have U44 := u1 U43 hu41 im
 exact lpe (i + 1) ⟨U44, B42, (by (try dsimp only); omega)⟩ (by omega)
 have q29p := of_decide_eq_false q29
 refine xt <| tx <| tx <| bx <| tn <| sg <| L0 <| Olw (hz := (by rw [tabA_size]; kernel_rfl)) f25 <| ?_
 have U45 := u1 hu19 hu21 (nr hg17)
 have r46 := ub U45 B13
 refine L0 <| Osw (hz := (by rw [tabA_size]; kernel_rfl)) (hv := (by rw [tabA_size, tabA_size])) (h1 := (tabA_one _)) r46 ((tabA i)) fun w47 B48 hu49 => nt <| rt <| rc1x 256 (tabA_size _) B48 <| ?_
 have hi : i = 256 := by omega
 subst hi
 have U50 := u1 U28 hu49 (nr hg12)
 exact ⟨rfl, U50⟩
set_option maxRecDepth 100000 in
set_option maxHeartbeats 4000000 in
theorem crcthen_any0 {m : Bool} {A : Option Addr} {cp : Nat} {b : List Int} {w : World} {s : Int} (hsl : RdB m w (.slice A b.length cp) b) (hs : 0 ≤ s ∧ s < 65536) :
    Calls Tryz.prog 66 #[.int .u16 s, .slice A b.length cp] w (PVal (.int .u16 (crcT s b)) w) := by
 have hln := RdG.len hsl
 have hb := RdB.range hsl
 refine en 26 Tryz.func66 rfl <| sg <| Pl 1 <| ng <| L0 <| Oc <| m1 (@crctable_any w) fun w10 hu11 => L0 <| Oal (tabA 0) fun g12 w13 hg14 B15 hu16 => L0 <| Osw (hz := (by rw [tabA_size]; kernel_rfl)) (hv := (by rw [tabA_size, tabA_size])) (h1 := (tabA_one _)) B15 ((tabA 256)) fun w17 B18 hu19 => nt <| sq <| ?_
 refine sg <| Pl 3 <| nt <| bk <| ?_
 refine glp (fun x => [(0, .int .u16 (crcP s b x)), (4, .int .u16 0), (5, .pointer (some ⟨g12, 0, none⟩)), (9, .slice A b.length cp), (10, .int .i64 ((b.length : Nat) : Int)), (11, .int .i64 ((x : Nat) : Int))]) (fun (x : Nat) w' => Upd [] w17 w' ∧ (x ≤ b.length) ∧ (0 ≤ crcP s b x ∧ crcP s b x < 65536)) (fun x => b.length - x) 0 ⟨Upd.refl _ _, (by (try dsimp only); omega), hs⟩ ?_
 rintro k w20 ⟨hu21, p22, p23⟩
 refine wkc [(0, .int .u16 (crcP s b k)), (4, .int .u16 0), (5, .pointer (some ⟨g12, 0, none⟩)), (9, .slice A b.length cp), (10, .int .i64 ((b.length : Nat) : Int)), (11, .int .i64 ((k : Nat) : Int))] ?_
 have p25 : k ≤ b.length := p22
 have p26 : 0 ≤ crcP s b k ∧ crcP s b k < 65536 := p23
 refine sg <| Pl 1 <| nt <| sq <| ?_
 have U27 := ut0 hu11 hu16
 have U28 := u1 U27 hu19 (ni hu11.size hg14)
 have U29 := ut0 U28 hu21
 refine cb ((decide (((k : Nat) : Int) < ((b.length : Nat) : Int)))) (fun q30 => ?_) (fun q30 => ?_)
 have q30p := of_decide_eq_true q30
 refine skn <| sq <| bk <| sg <| ?_
 have r31 := RdB.old hsl U29
 refine x23 (RdB.at_ r31 k (by omega)) fun b32 o33 hA34 hl35 hr36 => L0 <| Oix b.length k hA34 (by omega) <| L0 <| Old (p := ⟨b32, o33 + k, none⟩) (v := .int .u8 (b.getD k 0)) hl35 <| Pl 1 <| nt <| go <| Pl 1 <| L0 <| Oe (.int .u16 (Int.fdiv (crcP s b k) (2 ^ 8))) (.int .u16 ((crcP s b k) / 256)) (congrArg (Value.int .u16) (shr_lit _ _ _ (by decide))) <| Pl 3 <| ?_
 have hx37 := xi8 (a := ((crcP s b k) % 256)) (b := (b.getD k 0)) (by omega) (by omega)
 refine L0 <| Oe (.int .u8 (bits .xor .u8 ((crcP s b k) % 256) (b.getD k 0))) (.int .u8 (xi ((crcP s b k) % 256) (b.getD k 0))) (congrArg (Value.int .u8) (xi_u8 (by omega) (by omega))) <| L0 <| Oia (b := g12) (off := 0) 256 (((xi ((crcP s b k) % 256) (b.getD k 0))).toNat) (xi ((crcP s b k) % 256) (b.getD k 0)) (by omega) (by omega) <| ?_
 have hl38 := tabI_rng (i := (xi ((crcP s b k) % 256) (b.getD k 0))) (by omega)
 have r39 := ub hu21 B18
 exact L0 <| Old (p := ⟨g12, 0 + ((xi ((crcP s b k) % 256) (b.getD k 0))).toNat, none⟩) (v := .int .u16 (tabI ((xi ((crcP s b k) % 256) (b.getD k 0))))) (blk_at r39 (by rw [Nat.zero_add, tabA_at (by omega), tabI_nat (by omega)])) <| L0 <| Oe (.int .u16 (bits .xor .u16 ((crcP s b k) / 256) (tabI (xi ((crcP s b k) % 256) (b.getD k 0))))) (.int .u16 (crcP s b (k + 1))) (congrArg (Value.int .u16) (xi_u16 (by omega) (tabI_rng (by omega)))) <| Pl 1 <| nl <| bn <| tn <| go <| L0 <| Oi (((k : Nat) : Int) + 1) <| Pl 1 <| nl <| lpe (k + 1) ⟨hu21, (by (try dsimp only); omega), (crcP_rng hs hb _)⟩ (by omega)
 have q30p := of_decide_eq_false q30
 refine xt <| tx <| tx <| bx <| tn <| sg <| Pl 2 <| nt <| rt <| rr (.int .u16 (crcP s b k)) <| ?_
 have hk : crcP s b k = crcT s b := crcP_all (by omega)
 rw [hk]
 exact ⟨rfl, U29⟩
theorem crcthen_any {m : Bool} {v : Value} {b : List Int} {w : World} (h : RdB m w v b) : Calls Tryz.prog 66 #[.int .u16 65535, v] w (PVal (.int .u16 (crcT 65535 b)) w) := by
  obtain ⟨A, cp, rfl, _, _⟩ := h.shape
  exact crcthen_any0 h (by decide)
set_option maxRecDepth 100000 in
set_option maxHeartbeats 4000000 in
theorem crcof_any0 {m : Bool} {A : Option Addr} {cp : Nat} {b : List Int} {w : World} (hsl : RdB m w (.slice A b.length cp) b) :
    Calls Tryz.prog 49 #[.slice A b.length cp] w (PVal (.int .u16 (crcT 65535 b)) w) := by
 refine en 5 Tryz.func49 rfl <| sg <| Pl 1 <| ng <| Pl 1 <| L0 <| Oc <| m1 (crcthen_any hsl) fun w10 hu11 => Pl 1 <| nt <| rt <| ?_
 refine rr (.int .u16 (crcT 65535 b)) <| ?_
 exact ⟨rfl, hu11⟩
theorem crcof_any {m : Bool} {v : Value} {b : List Int} {w : World} (h : RdB m w v b) : Calls Tryz.prog 49 #[v] w (PVal (.int .u16 (crcT 65535 b)) w) := by
  obtain ⟨A, cp, rfl, _, _⟩ := h.shape
  exact crcof_any0 h
set_option maxRecDepth 100000 in
set_option maxHeartbeats 4000000 in
theorem crctwo_any {w : World} {s : Int} (hs : 0 ≤ s ∧ s < 65536) : Calls Tryz.prog 48 #[.int .u16 s] w (fun e w' => ∃ v, e = .returned v ∧ OwnB w.heap.size w' v (crcTwo s) ∧ Upd [] w w') := by
 refine en 9 Tryz.func48 rfl <| sg <| Pl 1 <| ng <| Pl 3 <| L0 <| Oe (.int .u16 (Int.fdiv s (2 ^ 8))) (.int .u16 (s / 256)) (congrArg (Value.int .u16) (shr_lit _ _ _ (by decide))) <| Pl 1 <| L0 <| Olt (m := 2) (e := 5) #[.int .u8 (s % 256), .int .u8 ((s / 256) % 256)] fun g10 w11 hg12 B13 hu14 => ?_
 have ow15 := litB hg12 (xs := [(s % 256), ((s / 256) % 256)]) (by as_aux_lemma => kernel_rfl) (rng_cons (by omega) (rng_cons (by omega) rng_nil)) (by (try simp only [List.length_cons, List.length_nil]); omega) B13
 refine Pl 1 <| nt <| rt <| rr (.slice (some ⟨g10, 0, none⟩) 2 2) <| ?_
 exact ⟨_, rfl, ow15, hu14⟩
theorem crcis_t {b : List Int} {n : Nat} (h : 2 ≤ b.length) (hn : n = b.length - 2) : crcIs b = decide (crcTwo (crcT 65535 (b.take n)) = b.drop n) := by
  subst hn
  unfold crcIs
  simp [h]
theorem crcis_f {b : List Int} (h : b.length < 2) : crcIs b = false := by
  unfold crcIs
  simp
  omega
set_option maxRecDepth 100000 in
set_option maxHeartbeats 4000000 in
theorem crcis_any0 {m : Bool} {A : Option Addr} {cp : Nat} {b : List Int} {w : World} (hsl : RdB m w (.slice A b.length cp) b) (hb : b.length ≤ 1048576) (hcp : b.length ≤ cp) :
    Calls Tryz.prog 45 #[.slice A b.length cp] w (PVal (.bool (crcIs b)) w) := by
 have hc := RdG.len hsl
 refine en 22 Tryz.func45 rfl <| sg <| Pl 1 <| ng <| Pl 2 <| L0 <| Oi (((b.length : Nat) : Int) - 2) <| Pl 1 <| nt <| sq <| ?_
 refine Rg 16 (fun w' => True) fun w55 hu56 => hld trivial fun hS57 => Rt 0 hS57 <| Rt 1 hS57 <| Rt 2 hS57 <| bla 9 ((decide (0 ≤ (((b.length : Nat) : Int) - 2)))) (fun q58 => ?_) (fun q58 => ?_)
 have q58p := of_decide_eq_true q58
 refine Rt 3 hS57 <| Rt 4 hS57 <| x12 (cut_h (P := Tryz.prog) 29 5 1 Tryz.underlying29 rfl rfl A b.length cp (k := (((b.length : Nat) : Int) - 2)) (((((b.length : Nat) : Int) - 2)).toNat) (by omega) (by omega) (by omega)) fun A59 hrun60 hrd61 => Rr 5 hS57 (.slice A59 (((((b.length : Nat) : Int) - 2)).toNat) cp) (fun _ _ => run_cuth (kl := .i64) (k := (((b.length : Nat) : Int) - 2)) (A := A) (n := b.length) (c := cp) rfl Tryz.underlying29 (by kernel_rfl) (by kernel_rfl) (hrun60 _ _)) <| Rt 9 hS57 <| Rt 10 hS57 <| x12 (cut_fromI (P := Tryz.prog) 29 5 1 Tryz.underlying29 rfl rfl A b.length cp (lo := (((b.length : Nat) : Int) - 2)) (((((b.length : Nat) : Int) - 2)).toNat) (by omega) (by omega)) fun A62 hrun63 hrd64 => Rr 11 hS57 (.slice A62 (b.length - (((((b.length : Nat) : Int) - 2)).toNat)) (cp - (((((b.length : Nat) : Int) - 2)).toNat))) (fun _ _ => run_cutf (kl := .i64) (k := (((b.length : Nat) : Int) - 2)) (A := A) (n := b.length) (c := cp) rfl Tryz.underlying29 (by kernel_rfl) (by kernel_rfl) (hrun63 _ _)) <| ?_
 refine R2 6 12 rfl rfl ?_ ?_
 have r65 := RdB.old hsl hu56
 refine  Oc (args := #[.slice A59 (((((b.length : Nat) : Int) - 2)).toNat) cp]) <| m1 (crcof_any (hrd61 _ _ _ _ _ r65)) fun w66 hu67 => ?_
 have hr68 := crcT_rng (b.take (((((b.length : Nat) : Int) - 2)).toNat)) (s := 65535) (by decide) (RdB.range (hrd61 _ _ _ _ _ r65))
 refine hld trivial fun hS69 => ?_
 refine R2 7 12 rfl rfl ?_ ?_
 refine  Oc <| so2 (crctwo_any (s := (crcT 65535 (b.take (((((b.length : Nat) : Int) - 2)).toNat)))) (by omega)) fun A74 cp75 w70 rd78 hl76 hm77 hu73 => hld trivial fun hS79 => ?_
 refine R2 8 12 rfl rfl ?_ ?_
 refine  Or_ (.string (strOfNums (crcTwo (crcT 65535 (b.take (((((b.length : Nat) : Int) - 2)).toNat)))))) (run_convB (A := A74) (n := (crcTwo (crcT 65535 (b.take (((((b.length : Nat) : Int) - 2)).toNat)))).length) (c := cp75) rfl (by kernel_rfl) Tryz.underlying29 Tryz.underlying5 Tryz.underlying9 (rd78).rd) <| hld trivial fun hS80 => ?_
 have U81 := ut0 hu67 hu73
 have r82 := RdB.old r65 U81
 refine R0 12 rfl <| Or_ (.string (strOfNums (b.drop (((((b.length : Nat) : Int) - 2)).toNat)))) (run_convB (A := A62) (n := (b.length - (((((b.length : Nat) : Int) - 2)).toNat))) (c := (cp - (((((b.length : Nat) : Int) - 2)).toNat))) rfl (by kernel_rfl) Tryz.underlying29 Tryz.underlying5 Tryz.underlying9 (hrd64 _ _ _ _ _ r82)) <| hld trivial fun hS83 => Rr 13 hS83 (.bool (decide ((crcTwo (crcT 65535 (b.take (((((b.length : Nat) : Int) - 2)).toNat)))) = (b.drop (((((b.length : Nat) : Int) - 2)).toNat))))) (fun _ _ => run_strq (a := (strOfNums (crcTwo (crcT 65535 (b.take (((((b.length : Nat) : Int) - 2)).toNat)))))) (b := (strOfNums (b.drop (((((b.length : Nat) : Int) - 2)).toNat)))) rfl (by kernel_rfl) (by kernel_rfl) (str_eq (rd78).rd (hrd64 _ _ _ _ _ r82))) <| Rt 14 hS83 <| Rt 15 hS83 <| re <| tn <| rt <| rr (.bool (decide ((crcTwo (crcT 65535 (b.take (((((b.length : Nat) : Int) - 2)).toNat)))) = (b.drop (((((b.length : Nat) : Int) - 2)).toNat))))) <| ?_
 have hs : crcIs b = (decide ((crcTwo (crcT 65535 (b.take (((((b.length : Nat) : Int) - 2)).toNat)))) = (b.drop (((((b.length : Nat) : Int) - 2)).toNat)))) := (crcis_t (by omega) (by omega))
 rw [hs]
 have U84 := ut0 hu56 hu67
 have U85 := ut0 U84 hu73
 exact ⟨rfl, U85⟩
 have U86 := ut0 hu67 hu73
 have r87 := RdB.old r65 U86
 refine  Or_ (.string (strOfNums (b.drop (((((b.length : Nat) : Int) - 2)).toNat)))) (run_convB (A := A62) (n := (b.length - (((((b.length : Nat) : Int) - 2)).toNat))) (c := (cp - (((((b.length : Nat) : Int) - 2)).toNat))) rfl (by kernel_rfl) Tryz.underlying29 Tryz.underlying5 Tryz.underlying9 (hrd64 _ _ _ _ _ r87)) <| hld trivial fun hS88 => R0 8 rfl <| Or_ (.string (strOfNums (crcTwo (crcT 65535 (b.take (((((b.length : Nat) : Int) - 2)).toNat)))))) (run_convB (A := A74) (n := (crcTwo (crcT 65535 (b.take (((((b.length : Nat) : Int) - 2)).toNat)))).length) (c := cp75) rfl (by kernel_rfl) Tryz.underlying29 Tryz.underlying5 Tryz.underlying9 (rd78).rd) <| hld trivial fun hS89 => Rr 13 hS89 (.bool (decide ((crcTwo (crcT 65535 (b.take (((((b.length : Nat) : Int) - 2)).toNat)))) = (b.drop (((((b.length : Nat) : Int) - 2)).toNat))))) (fun _ _ => run_strq (a := (strOfNums (crcTwo (crcT 65535 (b.take (((((b.length : Nat) : Int) - 2)).toNat)))))) (b := (strOfNums (b.drop (((((b.length : Nat) : Int) - 2)).toNat)))) rfl (by kernel_rfl) (by kernel_rfl) (str_eq (rd78).rd (hrd64 _ _ _ _ _ r87))) <| Rt 14 hS89 <| Rt 15 hS89 <| re <| tn <| rt <| rr (.bool (decide ((crcTwo (crcT 65535 (b.take (((((b.length : Nat) : Int) - 2)).toNat)))) = (b.drop (((((b.length : Nat) : Int) - 2)).toNat))))) <| ?_
 have hs : crcIs b = (decide ((crcTwo (crcT 65535 (b.take (((((b.length : Nat) : Int) - 2)).toNat)))) = (b.drop (((((b.length : Nat) : Int) - 2)).toNat)))) := (crcis_t (by omega) (by omega))
 rw [hs]
 have U90 := ut0 hu56 hu67
 have U91 := ut0 U90 hu73
 exact ⟨rfl, U91⟩
 have r92 := RdB.old r65 hu67
 refine  Or_ (.string (strOfNums (b.drop (((((b.length : Nat) : Int) - 2)).toNat)))) (run_convB (A := A62) (n := (b.length - (((((b.length : Nat) : Int) - 2)).toNat))) (c := (cp - (((((b.length : Nat) : Int) - 2)).toNat))) rfl (by kernel_rfl) Tryz.underlying29 Tryz.underlying5 Tryz.underlying9 (hrd64 _ _ _ _ _ r92)) <| hld trivial fun hS93 => R0 7 rfl <| Oc <| so2 (crctwo_any (s := (crcT 65535 (b.take (((((b.length : Nat) : Int) - 2)).toNat)))) (by omega)) fun A98 cp99 w94 rd102 hl100 hm101 hu97 => hld trivial fun hS103 => R0 8 rfl <| Or_ (.string (strOfNums (crcTwo (crcT 65535 (b.take (((((b.length : Nat) : Int) - 2)).toNat)))))) (run_convB (A := A98) (n := (crcTwo (crcT 65535 (b.take (((((b.length : Nat) : Int) - 2)).toNat)))).length) (c := cp99) rfl (by kernel_rfl) Tryz.underlying29 Tryz.underlying5 Tryz.underlying9 (rd102).rd) <| hld trivial fun hS104 => Rr 13 hS104 (.bool (decide ((crcTwo (crcT 65535 (b.take (((((b.length : Nat) : Int) - 2)).toNat)))) = (b.drop (((((b.length : Nat) : Int) - 2)).toNat))))) (fun _ _ => run_strq (a := (strOfNums (crcTwo (crcT 65535 (b.take (((((b.length : Nat) : Int) - 2)).toNat)))))) (b := (strOfNums (b.drop (((((b.length : Nat) : Int) - 2)).toNat)))) rfl (by kernel_rfl) (by kernel_rfl) (str_eq (rd102).rd (hrd64 _ _ _ _ _ r92))) <| Rt 14 hS104 <| Rt 15 hS104 <| re <| tn <| rt <| rr (.bool (decide ((crcTwo (crcT 65535 (b.take (((((b.length : Nat) : Int) - 2)).toNat)))) = (b.drop (((((b.length : Nat) : Int) - 2)).toNat))))) <| ?_
 have hs : crcIs b = (decide ((crcTwo (crcT 65535 (b.take (((((b.length : Nat) : Int) - 2)).toNat)))) = (b.drop (((((b.length : Nat) : Int) - 2)).toNat)))) := (crcis_t (by omega) (by omega))
 rw [hs]
 have U105 := ut0 hu56 hu67
 have U106 := ut0 U105 hu97
 exact ⟨rfl, U106⟩
 have r107 := RdB.old hsl hu56
 refine  Or_ (.string (strOfNums (b.drop (((((b.length : Nat) : Int) - 2)).toNat)))) (run_convB (A := A62) (n := (b.length - (((((b.length : Nat) : Int) - 2)).toNat))) (c := (cp - (((((b.length : Nat) : Int) - 2)).toNat))) rfl (by kernel_rfl) Tryz.underlying29 Tryz.underlying5 Tryz.underlying9 (hrd64 _ _ _ _ _ r107)) <| hld trivial fun hS108 => R0 6 rfl <| Oc (args := #[.slice A59 (((((b.length : Nat) : Int) - 2)).toNat) cp]) <| m1 (crcof_any (hrd61 _ _ _ _ _ r107)) fun w109 hu110 => ?_
 have hr111 := crcT_rng (b.take (((((b.length : Nat) : Int) - 2)).toNat)) (s := 65535) (by decide) (RdB.range (hrd61 _ _ _ _ _ r107))
 refine hld trivial fun hS112 => R0 7 rfl <| Oc <| so2 (crctwo_any (s := (crcT 65535 (b.take (((((b.length : Nat) : Int) - 2)).toNat)))) (by omega)) fun A117 cp118 w113 rd121 hl119 hm120 hu116 => hld trivial fun hS122 => R0 8 rfl <| Or_ (.string (strOfNums (crcTwo (crcT 65535 (b.take (((((b.length : Nat) : Int) - 2)).toNat)))))) (run_convB (A := A117) (n := (crcTwo (crcT 65535 (b.take (((((b.length : Nat) : Int) - 2)).toNat)))).length) (c := cp118) rfl (by kernel_rfl) Tryz.underlying29 Tryz.underlying5 Tryz.underlying9 (rd121).rd) <| hld trivial fun hS123 => Rr 13 hS123 (.bool (decide ((crcTwo (crcT 65535 (b.take (((((b.length : Nat) : Int) - 2)).toNat)))) = (b.drop (((((b.length : Nat) : Int) - 2)).toNat))))) (fun _ _ => run_strq (a := (strOfNums (crcTwo (crcT 65535 (b.take (((((b.length : Nat) : Int) - 2)).toNat)))))) (b := (strOfNums (b.drop (((((b.length : Nat) : Int) - 2)).toNat)))) rfl (by kernel_rfl) (by kernel_rfl) (str_eq (rd121).rd (hrd64 _ _ _ _ _ r107))) <| Rt 14 hS123 <| Rt 15 hS123 <| re <| tn <| rt <| rr (.bool (decide ((crcTwo (crcT 65535 (b.take (((((b.length : Nat) : Int) - 2)).toNat)))) = (b.drop (((((b.length : Nat) : Int) - 2)).toNat))))) <| ?_
 have hs : crcIs b = (decide ((crcTwo (crcT 65535 (b.take (((((b.length : Nat) : Int) - 2)).toNat)))) = (b.drop (((((b.length : Nat) : Int) - 2)).toNat)))) := (crcis_t (by omega) (by omega))
 rw [hs]
 have U124 := ut0 hu56 hu110
 have U125 := ut0 U124 hu116
 exact ⟨rfl, U125⟩
 have q58p := of_decide_eq_false q58
 refine Ro 3 hS57 <| Ro 4 hS57 <| Ro 5 hS57 <| Ro 6 hS57 <| Ro 7 hS57 <| Ro 8 hS57 <| Ro 9 hS57 <| Ro 10 hS57 <| Ro 11 hS57 <| Ro 12 hS57 <| Ro 13 hS57 <| Rt 14 hS57 <| Rt 15 hS57 <| re <| ?_
 refine tn <| rt <| rr (.bool false) <| ?_
 have hs : crcIs b = false := (crcis_f (by omega))
 rw [hs]
 exact ⟨rfl, hu56⟩
theorem crcis_any {m : Bool} {v : Value} {b : List Int} {w : World} (h : RdB m w v b) (hb : b.length ≤ 1048576) : Calls Tryz.prog 45 #[v] w (PVal (.bool (crcIs b)) w) := by
  obtain ⟨A, cp, rfl, hc, _⟩ := h.shape
  exact crcis_any0 h hb hc
open Go.RowKit
def rtuBody (b : List Int) : List Int := (b.take (b.length - 2)).drop 1
theorem rtuBody_eq (b : List Int) : rtuBody b = (b.take (((b.length : Nat) : Int) - 2).toNat).drop 1 := by
  unfold rtuBody
  rw [show (((b.length : Nat) : Int) - 2).toNat = b.length - 2 from by omega]
def rtuP (dir : Int) (b : List Int) : Frm × Int :=
  if dir != 0 && dir != 1 then (Frm.zero, 1)
  else if decide ((b.length : Int) < 4) then (Frm.zero, 2)
  else if decide (256 < (b.length : Int)) then (Frm.zero, 3)
  else if !(crcIs b) then (Frm.zero, 10)
  else frmOf (b.getD 0 0) 0 (pduP dir (rtuBody b))
set_option maxRecDepth 100000 in
set_option maxHeartbeats 4000000 in
theorem rtu_parse0 {m : Bool} {A : Option Addr} {cp : Nat} {b : List Int} {w : World} {dir : Int} (hsl : RdB m w (.slice A b.length cp) b) (hb : b.length ≤ 1048576) (hcp : b.length ≤ cp) :
    Calls Tryz.prog 31 #[.int .i64 dir, .slice A b.length cp] w (PFrm (rtuP dir b) w) := by
 have hln : (b.length : Int) ≤ 1048576 := by omega
 refine en 51 Tryz.func31 rfl <| sg <| L0 <| Oal #[.int .u8 0, .int .u16 0, .int .u8 0, .int .u8 0, .int .u16 0, .int .u16 0, .int .u16 0, .int .u16 0, .int .u16 0, .int .u16 0, .int .u16 0, .int .u16 0, .int .u16 0, .int .u16 0, .slice none 0 0, .slice none 0 0, .slice none 0 0, .slice none 0 0, .int .u8 0, .int .u8 0, .int .u8 0, .int .u8 0, .int .u8 0, .slice none 0 0] fun g10 w11 hg12 B13 hu14 => Pl 1 <| nt <| sq <| bk <| sg <| Pl 3 <| cu 3 [11] 14 (((dir != 0) && (dir != 1))) (fun K K16 => ?_) ?_
 refine bl 11 ((dir != 0)) (fun q15 => ?_) (fun q15 => ?_)
 have q15p := ne_of_bnei q15
 exact Pl 3 <| ce K16 (dir != 1) (by rw [q15]; rfl)
 have q15p := eq_of_bnei q15
 exact Pl 3 <| ce K16 false (by rw [q15]; rfl)
 refine Pl 1 <| nt <| cb (((dir != 0) && (dir != 1))) (fun q17 => ?_) (fun q17 => ?_)
 have q17a := (and_t q17).1
 have q17b := (and_t q17).2
 have q17ap := ne_of_bnei q17a
 have q17bp := ne_of_bnei q17b
 refine sg <| Pl 1 <| L0 <| Osw B13 #[.int .u8 0, .int .u16 0, .int .u8 0, .int .u8 0, .int .u16 0, .int .u16 0, .int .u16 0, .int .u16 0, .int .u16 0, .int .u16 0, .int .u16 0, .int .u16 0, .int .u16 0, .int .u16 0, .slice none 0 0, .slice none 0 0, .slice none 0 0, .slice none 0 0, .int .u8 0, .int .u8 0, .int .u8 0, .int .u8 0, .int .u8 0, .slice none 0 0] fun w18 B19 hu20 => Pl 1 <| nt <| rt <| br <| tr <| rct B19 (.int .i64 1) <| ?_
 have hs : rtuP dir b = (Frm.zero, 1) := by
   unfold rtuP
   (try simp only [q17, q17a, q17b, bs, if_true, if_false, decide_true, decide_false, frmOf, reduceIte])
   all_goals rfl
 refine pf_eq hs ?_
 have U21 := u1 hu14 hu20 (nr hg12)
 exact bad_frm U21
 refine sg <| Pl 4 <| nt <| cb ((decide (((b.length : Nat) : Int) < 4))) (fun q22 => ?_) (fun q22 => ?_)
 have q22p := of_decide_eq_true q22
 refine sg <| Pl 1 <| L0 <| Osw B13 #[.int .u8 0, .int .u16 0, .int .u8 0, .int .u8 0, .int .u16 0, .int .u16 0, .int .u16 0, .int .u16 0, .int .u16 0, .int .u16 0, .int .u16 0, .int .u16 0, .int .u16 0, .int .u16 0, .slice none 0 0, .slice none 0 0, .slice none 0 0, .slice none 0 0, .int .u8 0, .int .u8 0, .int .u8 0, .int .u8 0, .int .u8 0, .slice none 0 0] fun w23 B24 hu25 => Pl 1 <| nt <| rt <| br <| tr <| rct B24 (.int .i64 2) <| ?_
 have hs : rtuP dir b = (Frm.zero, 2) := by
   unfold rtuP
   (try simp only [q17, q22, bs, if_true, if_false, decide_true, decide_false, frmOf, reduceIte])
   all_goals rfl
 refine pf_eq hs ?_
 have U26 := u1 hu14 hu25 (nr hg12)
 exact bad_frm U26
 have q22p := of_decide_eq_false q22
 refine sg <| Pl 4 <| nt <| cb ((decide (256 < ((b.length : Nat) : Int)))) (fun q27 => ?_) (fun q27 => ?_)
 have q27p := of_decide_eq_true q27
 refine sg <| Pl 1 <| L0 <| Osw B13 #[.int .u8 0, .int .u16 0, .int .u8 0, .int .u8 0, .int .u16 0, .int .u16 0, .int .u16 0, .int .u16 0, .int .u16 0, .int .u16 0, .int .u16 0, .int .u16 0, .int .u16 0, .int .u16 0, .slice none 0 0, .slice none 0 0, .slice none 0 0, .slice none 0 0, .int .u8 0, .int .u8 0, .int .u8 0, .int .u8 0, .int .u8 0, .slice none 0 0] fun w28 B29 hu30 => Pl 1 <| nt <| rt <| br <| tr <| rct B29 (.int .i64 3) <| ?_
 have hs : rtuP dir b = (Frm.zero, 3) := by
   unfold rtuP
   (try simp only [q17, q22, q27, bs, if_true, if_false, decide_true, decide_false, frmOf, reduceIte])
   all_goals rfl
 refine pf_eq hs ?_
 have U31 := u1 hu14 hu30 (nr hg12)
 exact bad_frm U31
 have q27p := of_decide_eq_false q27
 refine sg <| Pl 1 <| ?_
 have r34 := RdB.old hsl hu14
 refine L0 <| Oc (args := #[.slice A b.length cp]) <| m1 (crcis_any r34 (by omega)) fun w32 hu33 => Pl 2 <| nt <| ?_
 have U35 := ut0 hu14 hu33
 refine cb ((!(crcIs b))) (fun q36 => ?_) (fun q36 => ?_)
 have q36n : (crcIs b) = false := by simpa using q36
 refine sg <| Pl 1 <| ?_
 have r37 := ub hu33 B13
 refine L0 <| Osw r37 #[.int .u8 0, .int .u16 0, .int .u8 0, .int .u8 0, .int .u16 0, .int .u16 0, .int .u16 0, .int .u16 0, .int .u16 0, .int .u16 0, .int .u16 0, .int .u16 0, .int .u16 0, .int .u16 0, .slice none 0 0, .slice none 0 0, .slice none 0 0, .slice none 0 0, .int .u8 0, .int .u8 0, .int .u8 0, .int .u8 0, .int .u8 0, .slice none 0 0] fun w38 B39 hu40 => Pl 1 <| nt <| rt <| br <| tr <| rct B39 (.int .i64 10) <| ?_
 have hs : rtuP dir b = (Frm.zero, 10) := by
   unfold rtuP
   (try simp only [q17, q22, q27, q36, q36n, bs, if_true, if_false, decide_true, decide_false, frmOf, reduceIte])
   all_goals rfl
 refine pf_eq hs ?_
 have U41 := u1 U35 hu40 (nr hg12)
 exact bad_frm U41
 have q36n : (crcIs b) = true := by simpa using q36
 refine sk <| bn <| tn <| sg <| Pl 4 <| L0 <| Oi (((b.length : Nat) : Int) - 2) <| x12 (cut_lhI (P := Tryz.prog) 29 5 1 Tryz.underlying29 rfl rfl A b.length cp (lo := 1) (up := (((b.length : Nat) : Int) - 2)) 1 (((((b.length : Nat) : Int) - 2)).toNat) (by omega) (by omega) (by omega) (by omega) (by omega)) fun A42 hrun43 hrd44 => L0 <| Or_ (.slice A42 ((((((b.length : Nat) : Int) - 2)).toNat) - 1) (cp - 1)) (run_cutlh (kl := .i64) (kh := .i64) (lo := 1) (hi := (((b.length : Nat) : Int) - 2)) (A := A) (n := b.length) (c := cp) rfl Tryz.underlying29 (by kernel_rfl) (by kernel_rfl) (by kernel_rfl) (hrun43 _ _ _)) <| ?_
 obtain ⟨M45, E46, hX47⟩ : ∃ M E, pduP dir ((b.take (((((b.length : Nat) : Int) - 2)).toNat)).drop 1) = (M, E) := ⟨_, _, rfl⟩
 have r66 := RdB.old r34 hu33
 have hp48 := pdu_parse (dir := dir) (w := w32) (hrd44 _ _ _ _ _ r66) (by rw [List.length_drop, List.length_take]; omega)
 rw [hX47] at hp48
 refine L0 <| Oc <| e2 hp48 fun cs50 w49 hM51 hu53 => ?_
 have hM52 := hM51
 obtain ⟨v56, v57, v58, v59, v60, h54, h61, h62, h63, h64, h65, hR55⟩ := hM52
 obtain rfl : cs50 = (msgCells M45 v56 v57 v58 v59 v60).toArray := by apply Array.toList_inj.1; simpa using h54
 obtain ⟨A67, k68, rfl, _, _⟩ := h61.shape
 obtain ⟨A69, k70, rfl, _, _⟩ := h62.shape
 obtain ⟨A71, k72, rfl, _, _⟩ := h63.shape
 obtain ⟨A73, k74, rfl, _, _⟩ := h64.shape
 obtain ⟨A75, k76, rfl, _, _⟩ := h65.shape
 refine Pl 3 <| L0 <| Oal mZ fun g77 w78 hg79 B80 hu81 => L0 <| Osw B80 (mG M45.code M45.fail M45.addr M45.count M45.value M45.and_ M45.or_ M45.addr2 M45.sub M45.status M45.events M45.messages (.slice A67 M45.words.length k68) (.slice A69 M45.bits.length k70) (.slice A71 M45.data.length k72) (.slice A73 M45.recs.length k74) M45.mei M45.kind M45.level M45.more M45.next (.slice A75 M45.objects.length k76)) fun w82 B83 hu84 => Pl 1 <| nt <| sq <| sg <| Pl 2 <| nt <| ?_
 have U85 := ut0 U35 hu53
 have U86 := ut0 U85 hu81
 have U87 := u1 U86 hu84 (ni U85.size hg79)
 refine cb ((E46 != 0)) (fun q88 => ?_) (fun q88 => ?_)
 have q88p := ne_of_bnei q88
 refine sg <| Pl 2 <| ?_
 have U89 := ut0 hu33 hu53
 have U90 := ut0 U89 hu81
 have U91 := u1 U90 hu84 (ni U89.size hg79)
 have r92 := ub U91 B13
 refine L0 <| Osw r92 #[.int .u8 0, .int .u16 0, .int .u8 0, .int .u8 0, .int .u16 0, .int .u16 0, .int .u16 0, .int .u16 0, .int .u16 0, .int .u16 0, .int .u16 0, .int .u16 0, .int .u16 0, .int .u16 0, .slice none 0 0, .slice none 0 0, .slice none 0 0, .slice none 0 0, .int .u8 0, .int .u8 0, .int .u8 0, .int .u8 0, .int .u8 0, .slice none 0 0] fun w93 B94 hu95 => Pl 1 <| nt <| rt <| tr <| rct B94 (.int .i64 E46) <| ?_
 have hX2 : pduP dir (rtuBody b) = (M45, E46) := (congrArg (pduP dir) (rtuBody_eq b)).trans hX47
 have hs : rtuP dir b = (Frm.zero, E46) := by
   unfold rtuP
   (try simp only [q17, q22, q27, q36, q36n, q88, bs, if_true, if_false, decide_true, decide_false, frmOf, hX2, reduceIte])
   all_goals rfl
 refine pf_eq hs ?_
 have U96 := u1 U87 hu95 (nr hg12)
 exact bad_frm U96
 have q88p := eq_of_bnei q88
 refine skn <| sq <| ?_
 have U112 := ut0 hu53 hu81
 have U113 := u1 U112 hu84 (ni hu53.size hg79)
 have r114 := RdB.old r66 U113
 refine x23 (RdB.at_ r114 0 (by omega)) fun b115 o116 hA117 hl118 hr119 => Rg 8 (fun w' => w'.cell? ⟨b115, o116 + 0, none⟩ = some (.int .u8 (b.getD 0 0)) ∧ w'.heap[g77]? = some (.cells (mG M45.code M45.fail M45.addr M45.count M45.value M45.and_ M45.or_ M45.addr2 M45.sub M45.status M45.events M45.messages (.slice A67 M45.words.length k68) (.slice A69 M45.bits.length k70) (.slice A71 M45.data.length k72) (.slice A73 M45.recs.length k74) M45.mei M45.kind M45.level M45.more M45.next (.slice A75 M45.objects.length k76)) 45 (0, 0))) fun w127 hu128 => ?_
 have r130 := ub hu128 B83
 refine hld ⟨(uc hu128 hl118), r130⟩ fun hS129 => Rt 0 hS129 <| Ri1 1 hS129 b.length 0 0 rfl hA117 (by omega) <| Rl 2 hS129 (fun _ hs => hs.1) <| Rt 3 hS129 <| Rr 4 hS129 (.agg (mG M45.code M45.fail M45.addr M45.count M45.value M45.and_ M45.or_ M45.addr2 M45.sub M45.status M45.events M45.messages (.slice A67 M45.words.length k68) (.slice A69 M45.bits.length k70) (.slice A71 M45.data.length k72) (.slice A73 M45.recs.length k74) M45.mei M45.kind M45.level M45.more M45.next (.slice A75 M45.objects.length k76))) (fun w' hs => lda_o (g := g77) (off := 0) [.int .u8 M45.code, .int .u8 M45.fail, .int .u16 M45.addr, .int .u16 M45.count, .int .u16 M45.value, .int .u16 M45.and_, .int .u16 M45.or_, .int .u16 M45.addr2, .int .u16 M45.sub, .int .u16 M45.status, .int .u16 M45.events, .int .u16 M45.messages, .slice A67 M45.words.length k68, .slice A69 M45.bits.length k70, .slice A71 M45.data.length k72, .slice A73 M45.recs.length k74, .int .u8 M45.mei, .int .u8 M45.kind, .int .u8 M45.level, .int .u8 M45.more, .int .u8 M45.next, .slice A75 M45.objects.length k76] rfl (by kernel_rfl) hs.2 (by kernel_rfl) (by kernel_rfl) rfl) <| Rt 5 hS129 <| ?_
 have U131 := ut0 hu33 hu53
 have U132 := ut0 U131 hu81
 have U133 := u1 U132 hu84 (ni U131.size hg79)
 have U134 := ut0 U133 hu128
 have r135 := ub U134 B13
 refine R0 6 rfl <| Osw r135 #[.int .u8 (b.getD 0 0), .int .u16 0, .int .u8 M45.code, .int .u8 M45.fail, .int .u16 M45.addr, .int .u16 M45.count, .int .u16 M45.value, .int .u16 M45.and_, .int .u16 M45.or_, .int .u16 M45.addr2, .int .u16 M45.sub, .int .u16 M45.status, .int .u16 M45.events, .int .u16 M45.messages, .slice A67 M45.words.length k68, .slice A69 M45.bits.length k70, .slice A71 M45.data.length k72, .slice A73 M45.recs.length k74, .int .u8 M45.mei, .int .u8 M45.kind, .int .u8 M45.level, .int .u8 M45.more, .int .u8 M45.next, .slice A75 M45.objects.length k76] fun w136 B137 hu138 => ?_
 have U140 := u1 (Upd.mono (S' := [g10]) hu128 all0) hu138 im
 have U141 := ut0 U113 hu128
 have U142 := u1 (Upd.mono (S' := [g10]) U141 all0) hu138 im
 have U143 := u1 (Upd.mono (S' := [g10]) U134 all0) hu138 im
 have U144 := ut0 U87 hu128
 have U145 := u1 U144 hu138 (nr hg12)
 have r146 := RdB.old hsl U145
 have ne147 := nb (blk_lt B13) U131.size hg79
 have r148 := ub1 hu138 (Ne.symm ne147) r130
 refine hld ⟨(cB r146 hA117 0 (by omega)), r148⟩ fun hS139 => Rt 7 hS139 <| re <| tn <| rt <| rct B137 (.int .i64 0) <| ?_
 have hX2 : pduP dir (rtuBody b) = (M45, E46) := (congrArg (pduP dir) (rtuBody_eq b)).trans hX47
 have hs : rtuP dir b = (⟨(b.getD 0 0), 0, M45⟩, 0) := by
   unfold rtuP
   (try simp only [q17, q22, q27, q36, q36n, q88, bs, if_true, if_false, decide_true, decide_false, frmOf, hX2, reduceIte])
   all_goals rfl
 refine pf_eq hs ?_
 have U149 := u1 hu81 hu84 (nr hg79)
 have U150 := ut0 U149 hu128
 have U151 := u1 (Upd.mono (S' := [g10]) U150 all0) hu138 im
 have r152 := ub U131 B13
 have r153 := MsgRd.upd hM51 U151 (safe_cons (safe1 r152 (by decide)) safe0)
 exact ⟨_, rfl, ⟨#[.int .u8 M45.code, .int .u8 M45.fail, .int .u16 M45.addr, .int .u16 M45.count, .int .u16 M45.value, .int .u16 M45.and_, .int .u16 M45.or_, .int .u16 M45.addr2, .int .u16 M45.sub, .int .u16 M45.status, .int .u16 M45.events, .int .u16 M45.messages, .slice A67 M45.words.length k68, .slice A69 M45.bits.length k70, .slice A71 M45.data.length k72, .slice A73 M45.recs.length k74, .int .u8 M45.mei, .int .u8 M45.kind, .int .u8 M45.level, .int .u8 M45.more, .int .u8 M45.next, .slice A75 M45.objects.length k76], (by as_aux_lemma => kernel_rfl), r153, b8 (x := (b.getD 0 0)) (by omega), b16 (x := 0) (by omega)⟩, U145⟩
theorem rtu_parse {m : Bool} {v : Value} {b : List Int} {w : World} {dir : Int} (h : RdB m w v b) (hb : b.length ≤ 1048576) : Calls Tryz.prog 31 #[.int .i64 dir, v] w (PFrm (rtuP dir b) w) := by
  obtain ⟨A, cp, rfl, hc, _⟩ := h.shape
  exact rtu_parse0 h hb hc
open Go.RowKit
theorem eqn_head (a b c d : Int) (w : World) : (Op.equalIn 10000 39 (.agg #[.int .u8 a, .int .u16 b]) (.agg #[.int .u8 c, .int .u16 d])).run Tryz.prog w = .ok ((a == c) && (b == d)) w := by
  have hS : Tryz.prog.underlying 39 = some (.struct (Tryz.prog.fieldsOf 39)) := by kernel_rfl
  have hp : Tryz.prog.stoodInHeld 39 = false := by kernel_rfl
  rw [show (10000 : Nat) = 9998 + 1 + 1 from rfl, run_equalIn_agg w (9998 + 1) 39 _ _ hS hp]
  simp only [Program.fieldsOf, Tryz.underlying39]
  have p0 : ∀ v : Int, (part 5 #[.int .u8 v, .int .u16 b] 0).run Tryz.prog w = .ok (.int .u8 v) w := fun v => by simp [part, isAgg, run_underlying Tryz.underlying5, Result.andThen]
  have p0' : ∀ v : Int, (part 5 #[.int .u8 v, .int .u16 d] 0).run Tryz.prog w = .ok (.int .u8 v) w := fun v => by simp [part, isAgg, run_underlying Tryz.underlying5, Result.andThen]
  have p1 : ∀ v u : Int, (part 37 #[.int .u8 u, .int .u16 v] 1).run Tryz.prog w = .ok (.int .u16 v) w := fun v u => by simp [part, isAgg, run_underlying Tryz.underlying37, Result.andThen]
  have e0 := run_equalIn_int (P := Tryz.prog) w 9998 5 .u8 _ a c Tryz.underlying5
  have e1 := run_equalIn_int (P := Tryz.prog) w 9998 37 .u16 _ b d Tryz.underlying37
  simp only [Op.eqFields, Sem.run_bind, p0, p0', p1, e0, e1, Result.andThen_ok, ne_eq, String.reduceEq, not_false_eq_true, if_true, Sem.run_ite]
  cases (a == c) <;> cases (b == d) <;> simp
theorem run_headeq {ev : Operand → Value} {o : Oper} {x y : Operand} {t : TypeId} (a b c d : Int) {v : Bool} {w : World} (ho : o.op = .binOp .eql 39 x y t)
    (hx : ev x = .agg #[.int .u8 a, .int .u16 b]) (hy : ev y = .agg #[.int .u8 c, .int .u16 d]) (hv : ((a == c) && (b == d)) = v) : (execOp ev o).run Tryz.prog w = .ok (.value (.bool v)) w := by
  subst hv
  have hg : (eqGuard .eql 39 x y (.agg #[.int .u8 a, .int .u16 b]) (.agg #[.int .u8 c, .int .u16 d])).run Tryz.prog w = .ok () w := run_eqGuard_agg w _ _ _ _ _ _ (by kernel_rfl)
  unfold execOp
  simp only [ho, hx, hy, Sem.run_bind, hg, Result.andThen_ok, run_eql_struct, eqn_head, Sem.run_pure]
theorem run_headne {ev : Operand → Value} {o : Oper} {x y : Operand} {t : TypeId} (a b c d : Int) {v : Bool} {w : World} (ho : o.op = .binOp .neq 39 x y t)
    (hx : ev x = .agg #[.int .u8 a, .int .u16 b]) (hy : ev y = .agg #[.int .u8 c, .int .u16 d]) (hv : (!((a == c) && (b == d))) = v) : (execOp ev o).run Tryz.prog w = .ok (.value (.bool v)) w := by
  subst hv
  have hg : (eqGuard .neq 39 x y (.agg #[.int .u8 a, .int .u16 b]) (.agg #[.int .u8 c, .int .u16 d])).run Tryz.prog w = .ok () w := run_eqGuard_agg w _ _ _ _ _ _ (by kernel_rfl)
  unfold execOp
  simp only [ho, hx, hy, Sem.run_bind, hg, Result.andThen_ok, run_neq_struct, eqn_head, Sem.run_pure]
open Go.RowKit
def rtuB (u : Int) (l : List Int) : List Int := ([u] ++ l) ++ crcTwo (crcT 65535 ([u] ++ l))
def rtuW (dir u t : Int) (M : Msg) : Option (List Int) :=
  match pduW dir M with
  | none => none
  | some l => if !((u == u) && (t == 0)) then none else some (rtuB u l)
set_option maxRecDepth 100000 in
set_option maxHeartbeats 4000000 in
theorem rtu_write {m : Bool} {cs : Array Value} {M : Msg} {w : World} {dir u t : Int} (h : MsgRd m w cs.toList M) (hf : MsgFew M) (hu : B8 u) (ht : B16 t) : Calls Tryz.prog 32 #[.int .i64 dir, .agg (#[.int .u8 u, .int .u16 t] ++ cs)] w (PWrite (rtuW dir u t M) w) := by
 have hM := h
 obtain ⟨hu1, hu2⟩ := hu
 obtain ⟨ht1, ht2⟩ := ht
 obtain ⟨vw, vb, vd, vr, vo, h0, hw, hbt, hd, hr, ho, hR⟩ := h
 obtain rfl : cs = (msgCells M vw vb vd vr vo).toArray := by apply Array.toList_inj.1; simpa using h0
 clear h0
 obtain ⟨Aw, kw, rfl, _, _⟩ := hw.shape
 obtain ⟨Ab, kb, rfl, _, _⟩ := hbt.shape
 obtain ⟨Ad, kd, rfl, _, _⟩ := hd.shape
 obtain ⟨Ar, kr, rfl, _, _⟩ := hr.shape
 obtain ⟨Ao, ko, rfl, _, _⟩ := ho.shape
 obtain ⟨q0, q1, q2, q3, q4, q5, q6, q7, q8, q9, q10, q11, q16, q17, q18, q19, q20⟩ := hR
 simp only [B8, B16] at q0 q1 q2 q3 q4 q5 q6 q7 q8 q9 q10 q11 q16 q17 q18 q19 q20
 refine en 38 Tryz.func32 rfl <| sg <| L0 <| Obx #[.int .u8 u, .int .u16 t, .int .u8 M.code, .int .u8 M.fail, .int .u16 M.addr, .int .u16 M.count, .int .u16 M.value, .int .u16 M.and_, .int .u16 M.or_, .int .u16 M.addr2, .int .u16 M.sub, .int .u16 M.status, .int .u16 M.events, .int .u16 M.messages, .slice Aw M.words.length kw, .slice Ab M.bits.length kb, .slice Ad M.data.length kd, .slice Ar M.recs.length kr, .int .u8 M.mei, .int .u8 M.kind, .int .u8 M.level, .int .u8 M.more, .int .u8 M.next, .slice Ao M.objects.length ko] fun g10 w11 hg12 B13 hu14 => Pl 2 <| ng <| Pl 2 <| L0 <| Ola B13 2 22 <| ?_
 rcases hwr : pduW dir M with _ | lw
 have r18 := MsgRd.old hM hu14
 have hw15 := pdu_write (dir := dir) r18 hf
 rw [hwr] at hw15
 refine L0 <| Oc <| m1 hw15 fun w16 hu17 => Pl 5 <| nt <| sq <| sg <| Pl 11 <| nt <| c1 <| sg <| Pl 2 <| nl <| ?_
 refine tn <| rt <| tr <| rr (.tuple #[.slice none 0 0, .int .i64 1]) <| ?_
 have hs : rtuW dir u t M = none := by
   unfold rtuW
   (try simp only [hwr, bs, if_true, if_false, decide_true, decide_false, reduceIte])
   all_goals rfl
 refine ns_eq hs ?_
 have U19 := ut0 hu14 hu17
 exact ⟨rfl, U19⟩
 have hlw := pduW_len hwr
 have r23 := MsgRd.old hM hu14
 have hw20 := pdu_write (dir := dir) r23 hf
 rw [hwr] at hw20
 refine L0 <| Oc <| so2 hw20 fun A26 cp27 w21 rd30 hl28 hm29 hu22 => Pl 5 <| nt <| sq <| sg <| Pl 4 <| ?_
 have r31 := ub hu22 B13
 refine L1 <| Ola r31 0 2 <| Pl 2 <| L1 <| Olb r31 0 <| Pl 1 <| L1 <| Or_ (.bool (!((u == u) && (t == 0)))) (run_headne u t u 0 rfl (by kernel_rfl) (by kernel_rfl) rfl) <| Pl 1 <| nt <| ?_
 have U32 := ut0 hu14 hu22
 refine cb ((!((u == u) && (t == 0)))) (fun q33 => ?_) (fun q33 => ?_)
 have q33n : ((u == u) && (t == 0)) = false := by simpa using q33
 refine sg <| Pl 2 <| nt <| rt <| tr <| rr (.tuple #[.slice none 0 0, .int .i64 1]) <| ?_
 have hs : rtuW dir u t M = none := by
   unfold rtuW
   (try simp only [hwr, q33, q33n, bs, if_true, if_false, decide_true, decide_false, reduceIte])
   all_goals rfl
 refine ns_eq hs ?_
 exact ⟨rfl, U32⟩
 have q33n : ((u == u) && (t == 0)) = true := by simpa using q33
 have q33na := (and_t q33n).1
 have q33nb := (and_t q33n).2
 have q33nap := eq_of_beqi q33na
 have q33nbp := eq_of_beqi q33nb
 refine skn <| sg <| Pl 2 <| L0 <| Olb r31 0 <| L0 <| Olt (m := 1) (e := 5) #[.int .u8 u] fun g34 w35 hg36 B37 hu38 => ?_
 have ow39 := litB hg36 (xs := [u]) (by as_aux_lemma => kernel_rfl) (rng_cons (by omega) rng_nil) (by (try simp only [List.length_cons, List.length_nil]); omega) B37
 refine Pl 1 <| ?_
 have r40 := own_stay rd30 hu38 (fun x hx => not0) (fun _ _ h => h)
 refine L0 <| Oapp one_u8 (xs := ([u])) (ys := lw) (.int .u8 0) 1 ow39 (r40).rd (by (try simp only [List.length_append, List.length_cons, List.length_nil, putW_length, crcTwo_length]); omega) hu38.size fun A41 cp42 w43 ho44 hu45 => Pl 1 <| ng <| Pl 2 <| L0 <| Oc (args := #[.slice A41 (([u] ++ lw).length) cp42]) <| m1 (crcof_any (ho44).rd) fun w46 hu47 => ?_
 have hr48 := crcT_rng ([u] ++ lw) (s := 65535) (by decide) (RdB.range (ho44).rd)
 refine L0 <| Oc <| so2 (crctwo_any (s := (crcT 65535 ([u] ++ lw))) (by omega)) fun A53 cp54 w49 rd57 hl55 hm56 hu52 => ?_
 have U58 := ut0 hu47 hu52
 have r59 := own_stay ho44 U58 (fun x hx => not0) (fun _ _ h => h)
 refine L0 <| Oapp one_u8 (xs := ([u] ++ lw)) (ys := (crcTwo (crcT 65535 ([u] ++ lw)))) (.int .u8 0) 1 r59 (rd57).rd (by (try simp only [List.length_append, List.length_cons, List.length_nil, putW_length, crcTwo_length]); omega) (le (le (le hu38.size hu45.size) hu47.size) hu52.size) fun A60 cp61 w62 ho63 hu64 => Pl 2 <| nt <| rt <| rr (.tuple #[.slice A60 ((([u] ++ lw) ++ (crcTwo (crcT 65535 ([u] ++ lw)))).length) cp61, .int .i64 0]) <| ?_
 have hs : rtuW dir u t M = (some (([u] ++ lw) ++ (crcTwo (crcT 65535 ([u] ++ lw))))) := by
   unfold rtuW
   (try simp only [hwr, q33, q33n, q33na, q33nb, bs, if_true, if_false, decide_true, decide_false, reduceIte])
   all_goals rfl
 refine ns_eq hs ?_
 have U65 := ut0 U32 hu38
 have U66 := ut U65 hu45 (all_app (ob_new ow39 U32.size) all0)
 have U67 := ut0 U66 hu47
 have U68 := ut0 U67 hu52
 have U69 := ut U68 hu64 (all_app (ob_new ho44 U32.size) all0)
 exact ⟨_, rfl, (OwnG.weaken ho63 U32.size), U69⟩
open Go.RowKit
theorem rtu_parse_x {m : Bool} {v : Value} {b : List Int} {w : World} {dir : Int} {F : Frm} {E : Int} (hX : rtuP dir b = (F, E)) (h : RdB m w v b) (hb : b.length ≤ 1048576) : Calls Tryz.prog 31 #[.int .i64 dir, v] w (fun e w' => ∃ x, e = .returned (.tuple #[.agg (fcl F.unit F.tid F.msg x), .int .i64 E]) ∧ (MsgRd true w' (mcl F.msg x).toList F.msg ∧ (0 ≤ F.unit ∧ F.unit < 256) ∧ (0 ≤ F.tid ∧ F.tid < 65536)) ∧ Upd [] w w') := by
  refine (rtu_parse h hb).mono ?_
  rintro e w' ⟨cs, rfl, h1, h2⟩
  rw [hX] at h1 ⊢
  obtain ⟨c, rfl, h3, h4, h5⟩ := h1
  obtain ⟨x, rfl⟩ := mcl_of h3
  exact ⟨x, by rw [fcl_eq], ⟨h3, h4, h5⟩, h2⟩
theorem rtu_write_n {m : Bool} {x : SL} {M : Msg} {w : World} {dir u t : Int} (hX : rtuW dir u t M = none) (h : MsgRd m w (mcl M x).toList M) (hf : MsgFew M) (hu : 0 ≤ u ∧ u < 256) (ht : 0 ≤ t ∧ t < 65536) : Calls Tryz.prog 32 #[.int .i64 dir, .agg (fcl u t M x)] w (fun e w' => e = .returned (.tuple #[.slice none 0 0, .int .i64 1]) ∧ Upd [] w w') := by
  have := rtu_write (dir := dir) h hf hu ht
  rw [hX] at this
  rw [fcl_eq]
  exact this
theorem rtu_write_s {m : Bool} {x : SL} {M : Msg} {w : World} {dir u t : Int} {l : List Int} (hX : rtuW dir u t M = some l) (h : MsgRd m w (mcl M x).toList M) (hf : MsgFew M) (hu : 0 ≤ u ∧ u < 256) (ht : 0 ≤ t ∧ t < 65536) : Calls Tryz.prog 32 #[.int .i64 dir, .agg (fcl u t M x)] w (fun e w' => ∃ v, e = .returned (.tuple #[v, .int .i64 0]) ∧ OwnB w.heap.size w' v l ∧ Upd [] w w') := by
  have := rtu_write (dir := dir) h hf hu ht
  rw [hX] at this
  rw [fcl_eq]
  exact this
open Go.RowKit
structure SS where
  dir : Int
  held : List Int
  off : Bool
def SrtuAt (w : World) (g : Nat) (S : SS) : Prop := ∃ A cp, w.heap[g]? = some (.cells #[.int .i64 S.dir, .slice A S.held.length cp, .bool S.off] 72 (0, 0)) ∧ RdB true w (.slice A S.held.length cp) S.held ∧ S.held.length ≤ 256 ∧ S.held.length ≤ cp
def SS.feed (S : SS) (b : List Int) : SS × List Ev :=
  if S.off then (S, []) else if decide (b.length ≤ 256 - S.held.length) then (⟨S.dir, S.held ++ b, false⟩, []) else (⟨S.dir, [], true⟩, [Ev.bad 3])
def SS.tick (S : SS) : SS × List Ev := (⟨S.dir, [], false⟩, if S.held.length = 0 then [] else [⟨(rtuP S.dir S.held).2, (rtuP S.dir S.held).1⟩])
theorem SrtuAt.lt {w : World} {g : Nat} {S : SS} (h : SrtuAt w g S) : g < w.heap.size := by
  obtain ⟨A, cp, h1, _⟩ := h
  exact blk_lt h1
theorem SrtuAt.upd {w w' : World} {g : Nat} {S : SS} {X : List Nat} (h : SrtuAt w g S) (hu : Upd X w w') (hg : g ∉ X) (hs : Safe true [5] X w) : SrtuAt w' g S := by
  obtain ⟨A, cp, h1, h2, h3⟩ := h
  exact ⟨A, cp, hu.blk hg h1, h2.upd' hu hs, h3⟩
theorem SrtuAt.old {w w' : World} {g : Nat} {S : SS} (h : SrtuAt w g S) (hu : Upd [] w w') : SrtuAt w' g S := h.upd hu (by simp) (Safe.nil _ _ _)
theorem SrtuAt.cells {w : World} {g : Nat} {S : SS} (h : SrtuAt w g S) : ∃ cs fr, w.heap[g]? = some (.cells cs 72 fr) := by
  obtain ⟨A, cp, h1, _⟩ := h
  exact ⟨_, _, h1⟩
theorem SrtuAt.le {w : World} {g : Nat} {S : SS} (h : SrtuAt w g S) : S.held.length ≤ 256 := by
  obtain ⟨A, cp, _, _, h1, _⟩ := h
  exact h1
theorem SrtuAt.safe {w : World} {g : Nat} {S : SS} (h : SrtuAt w g S) (D : List TypeId) (hD : D.contains 72 = false) : Safe true D [g] w := by
  obtain ⟨A, cp, h1, _⟩ := h
  exact safe1 h1 hD
def PStr (At : World → Prop) (L : List Ev) (g : Nat) (w : World) (e : Ending) (w' : World) : Prop := ∃ v, e = .returned v ∧ OwnE w.heap.size w' v L ∧ At w' ∧ Upd [g] w w'
set_option maxRecDepth 100000 in
set_option maxHeartbeats 4000000 in
theorem srtu_new0 {w : World} : Calls Tryz.prog 19 #[.int .i64 0] w (fun e w' => ∃ g, e = .returned (.pointer (some ⟨g, 0, none⟩)) ∧ w.heap.size ≤ g ∧ SrtuAt w' g ⟨0, [], false⟩ ∧ Upd [] w w') := by
 refine en 12 Tryz.func19 rfl <| sg <| Pl 1 <| nt <| sq <| sg <| Pl 6 <| nt <| c0 <| sk <| ?_
 refine tn <| sg <| Pl 2 <| L0 <| Obx #[.int .i64 0, .slice none 0 0, .bool false] fun g10 w11 hg12 B13 hu14 => Pl 1 <| nt <| rt <| rr (.pointer (some ⟨g10, 0, none⟩)) <| ?_
 exact ⟨g10, rfl, hg12, ⟨none, 0, B13, RdG.nil .., by decide, by decide⟩, hu14⟩
set_option maxRecDepth 100000 in
set_option maxHeartbeats 4000000 in
theorem srtu_new1 {w : World} : Calls Tryz.prog 19 #[.int .i64 1] w (fun e w' => ∃ g, e = .returned (.pointer (some ⟨g, 0, none⟩)) ∧ w.heap.size ≤ g ∧ SrtuAt w' g ⟨1, [], false⟩ ∧ Upd [] w w') := by
 refine en 12 Tryz.func19 rfl <| sg <| Pl 1 <| nt <| sq <| sg <| Pl 6 <| nt <| c0 <| sk <| ?_
 refine tn <| sg <| Pl 2 <| L0 <| Obx #[.int .i64 1, .slice none 0 0, .bool false] fun g10 w11 hg12 B13 hu14 => Pl 1 <| nt <| rt <| rr (.pointer (some ⟨g10, 0, none⟩)) <| ?_
 exact ⟨g10, rfl, hg12, ⟨none, 0, B13, RdG.nil .., by decide, by decide⟩, hu14⟩
set_option maxRecDepth 100000 in
set_option maxHeartbeats 4000000 in
theorem srtu_held {w : World} {g : Nat} {S : SS} (h : SrtuAt w g S) : Calls Tryz.prog 21 #[.pointer (some ⟨g, 0, none⟩)] w (PVal (.int .i64 ((S.held.length : Nat) : Int)) w) := by
 obtain ⟨A, cp, hb, hr, hl, hcp⟩ := h
 have hcm := RdG.len hr
 refine en 8 Tryz.func21 rfl <| sg <| Pl 1 <| ng <| Pl 3 <| L0 <| Olb hb 1 <| Pl 2 <| nt <| rt <| ?_
 refine rr (.int .i64 ((S.held.length : Nat) : Int)) <| ?_
 exact ⟨rfl, (Upd.refl [] _)⟩
set_option maxRecDepth 100000 in
set_option maxHeartbeats 4000000 in
theorem srtu_feed0 {w : World} {g : Nat} {S : SS} {m : Bool} {B : Option Addr} {cpb : Nat} {b : List Int} (h : SrtuAt w g S) (hsl : RdB m w (.slice B b.length cpb) b) (hbl : b.length ≤ 1048576) (hcb : b.length ≤ cpb) :
    Calls Tryz.prog 20 #[.pointer (some ⟨g, 0, none⟩), .slice B b.length cpb] w (PStr (fun W => SrtuAt W g (S.feed b).1) (S.feed b).2 g w) := by
 obtain ⟨A, cp, hb, hr, hl, hcp⟩ := h
 have hcm := RdG.len hr
 have hbm := RdG.len hsl
 refine en 53 Tryz.func20 rfl <| sg <| Pl 1 <| nt <| sq <| sg <| Pl 3 <| L0 <| Olb hb 2 <| nt <| cb (S.off) (fun q10 => ?_) (fun q10 => ?_)
 refine sg <| Pl 1 <| nt <| rt <| tr <| rr (.slice none 0 0) <| ?_
 have hs : S.feed b = (S, []) := by unfold SS.feed; rw [q10]; rfl
 rw [hs]
 exact ⟨_, rfl, OwnG.nil .., ⟨A, cp, hb, hr, hl, hcp⟩, (Upd.mono (S' := [g]) (Upd.refl [] _) all0)⟩
 refine skn <| sg <| Pl 5 <| L0 <| Olb hb 1 <| Pl 1 <| L0 <| Oi (256 - ((S.held.length : Nat) : Int)) <| L0 <| Or_ (.int .i64 (min ((b.length : Nat) : Int) (256 - ((S.held.length : Nat) : Int)))) (run_min (a := ((b.length : Nat) : Int)) (b := (256 - ((S.held.length : Nat) : Int))) rfl (by kernel_rfl) (by kernel_rfl)) <| Pl 1 <| nt <| sq <| Rg 23 (fun w' => w'.cell? ⟨g, 1, none⟩ = some (.slice A S.held.length cp)) fun w23 hu24 => ?_
 have r26 := ub hu24 hb
 refine hld (blk_at r26 rfl) fun hS25 => Rt 0 hS25 <| Rt 1 hS25 <| Rt 2 hS25 <| Rt 3 hS25 <| Rl 4 hS25 (fun _ hs => hs) <| Rt 5 hS25 <| Rt 6 hS25 <| Rt 7 hS25 <| Rl 8 hS25 (fun _ hs => hs) <| Rt 9 hS25 <| Rt 10 hS25 <| Rt 11 hS25 <| Rt 12 hS25 <| ?_
 refine Rl 13 hS25 (fun _ hs => hs) <| Rt 14 hS25 <| ?_
 have r27 := RdB.upd' hr hu24 safe0
 refine Rr 15 hS25 (.slice A S.held.length S.held.length) (fun _ _ => run_full (k1 := .i64) (k2 := .i64) (i1 := ((S.held.length : Nat) : Int)) (i2 := ((S.held.length : Nat) : Int)) (A := A) (n := S.held.length) (c := cp) rfl Tryz.underlying29 (by kernel_rfl) (by kernel_rfl) (by kernel_rfl) (by kernel_rfl) rfl rfl (RdG.cap r27) (RdG.adr r27)) <| Rt 16 hS25 <| Rt 17 hS25 <| x12 (cut_h (P := Tryz.prog) 29 5 1 Tryz.underlying29 rfl rfl B b.length cpb (k := (min ((b.length : Nat) : Int) (256 - ((S.held.length : Nat) : Int)))) (((min ((b.length : Nat) : Int) (256 - ((S.held.length : Nat) : Int)))).toNat) (by omega) (by omega) (by omega)) fun A28 hrun29 hrd30 => Rr 18 hS25 (.slice A28 (((min ((b.length : Nat) : Int) (256 - ((S.held.length : Nat) : Int)))).toNat) cpb) (fun _ _ => run_cuth (kl := .i64) (k := (min ((b.length : Nat) : Int) (256 - ((S.held.length : Nat) : Int)))) (A := B) (n := b.length) (c := cpb) rfl Tryz.underlying29 (by kernel_rfl) (by kernel_rfl) (hrun29 _ _)) <| ?_
 have r31 := RdB.upd' hsl hu24 safe0
 refine R0 19 rfl <| Oapc (xs := S.held) (ys := (b.take (((min ((b.length : Nat) : Int) (256 - ((S.held.length : Nat) : Int)))).toNat))) (r27).full (hrd30 _ _ _ _ _ r31) (by (try simp only [List.length_take]); omega) fun A32 cp33 w34 hr35 hu36 => ?_
 have r38 := ub hu36 r26
 refine hld (blk_at r38 rfl) fun hS37 => Rt 20 hS37 <| Rt 21 hS37 <| R0z 22 rfl <| Ost r38 1 #[.int .i64 S.dir, .slice A32 ((S.held ++ (b.take (((min ((b.length : Nat) : Int) (256 - ((S.held.length : Nat) : Int)))).toNat))).length) cp33, .bool S.off] fun w39 B40 hu41 => re <| tn <| sq <| sg <| Pl 4 <| nt <| ?_
 have U42 := ut0 hu24 hu36
 have U43 := u1 (Upd.mono (S' := [g]) U42 all0) hu41 im
 refine cb (((min ((b.length : Nat) : Int) (256 - ((S.held.length : Nat) : Int))) == ((b.length : Nat) : Int))) (fun q44 => ?_) (fun q44 => ?_)
 have q44p := eq_of_beqi q44
 refine sg <| Pl 1 <| nt <| rt <| tr <| rr (.slice none 0 0) <| ?_
 have hle : b.length ≤ 256 - S.held.length := by omega
 have hs : S.feed b = (⟨S.dir, S.held ++ b, false⟩, []) := by unfold SS.feed; rw [q10, decide_eq_true hle]; rfl
 rw [hs]
 have hz : (b.take (((min ((b.length : Nat) : Int) (256 - ((S.held.length : Nat) : Int)))).toNat)) = b := List.take_of_length_le (by omega)
 have hB := B40
 have r45 := RdB.upd' hr35 hu41 (safe_cons (safe1 r38 (by decide)) safe0)
 have hR := r45
 rw [hz] at hB hR
 have hsh := hR.cap
 exact ⟨_, rfl, OwnG.nil .., ⟨A32, cp33, by rw [← q10]; exact hB, hR, by rw [List.length_append]; omega, hsh⟩, U43⟩
 have q44p := ne_of_beqi q44
 refine skn <| sg <| Pl 4 <| L0 <| Ost B40 1 #[.int .i64 S.dir, .slice none 0 0, .bool S.off] fun w46 B47 hu48 => Pl 2 <| L0 <| Ost B47 2 #[.int .i64 S.dir, .slice none 0 0, .bool true] fun w49 B50 hu51 => ng <| Pl 1 <| L0 <| Olt (m := 1) (e := 61) #[.int .i64 3, .int .u8 0, .int .u16 0, .int .u8 0, .int .u8 0, .int .u16 0, .int .u16 0, .int .u16 0, .int .u16 0, .int .u16 0, .int .u16 0, .int .u16 0, .int .u16 0, .int .u16 0, .int .u16 0, .slice none 0 0, .slice none 0 0, .slice none 0 0, .slice none 0 0, .int .u8 0, .int .u8 0, .int .u8 0, .int .u8 0, .int .u8 0, .slice none 0 0] fun g52 w53 hg54 B55 hu56 => ?_
 refine Pl 1 <| nt <| rt <| rr (.slice (some ⟨g52, 0, none⟩) 1 1) <| ?_
 have hle : ¬ b.length ≤ 256 - S.held.length := by omega
 have hs : S.feed b = (⟨S.dir, [], true⟩, [Ev.bad 3]) := by unfold SS.feed; rw [q10, decide_eq_false hle]; rfl
 rw [hs]
 have hE := litE (w0 := w) (x := Ev.bad 3) (Nat.le_trans (le (le (le (le hu24.size hu36.size) hu41.size) hu48.size) hu51.size) hg54) B55 ⟨⟨none, 0, none, 0, none, 0, none, 0, none, 0⟩, by kernel_rfl, SL_nil, by decide, by decide⟩
 have r57 := ub hu56 B50
 have U58 := u1 U43 hu48 im
 have U59 := u1 U58 hu51 im
 have U60 := ut0 U59 hu56
 exact ⟨_, rfl, hE, ⟨none, 0, r57, RdG.nil .., (Nat.zero_le _), (Nat.zero_le _)⟩, U60⟩
theorem srtu_feed {w : World} {g : Nat} {S : SS} {m : Bool} {v : Value} {b : List Int} (h : SrtuAt w g S) (hsl : RdB m w v b) (hbl : b.length ≤ 1048576) :
    Calls Tryz.prog 20 #[.pointer (some ⟨g, 0, none⟩), v] w (PStr (fun W => SrtuAt W g (S.feed b).1) (S.feed b).2 g w) := by
  obtain ⟨B, cb, rfl, hc, _⟩ := hsl.shape
  exact srtu_feed0 h hsl hbl hc
set_option maxRecDepth 100000 in
set_option maxHeartbeats 4000000 in
theorem srtu_tick {w : World} {g : Nat} {S : SS} (h : SrtuAt w g S) : Calls Tryz.prog 23 #[.pointer (some ⟨g, 0, none⟩)] w (PStr (fun W => SrtuAt W g S.tick.1) S.tick.2 g w) := by
 obtain ⟨A, cp, hb, hr, hl, hcp⟩ := h
 have hcm := RdG.len hr
 refine en 32 Tryz.func23 rfl <| sg <| Pl 1 <| ng <| Pl 3 <| L0 <| Olb hb 1 <| Pl 1 <| nt <| sq <| ?_
 refine go <| Pl 4 <| L0 <| Ost hb 1 #[.int .i64 S.dir, .slice none 0 0, .bool S.off] fun w10 B11 hu12 => Pl 2 <| L0 <| Ost B11 2 #[.int .i64 S.dir, .slice none 0 0, .bool false] fun w13 B14 hu15 => nt <| sq <| sg <| Pl 3 <| nt <| ?_
 have U16 := u1 hu12 hu15 im
 refine cb ((((S.held.length : Nat) : Int) == 0)) (fun q17 => ?_) (fun q17 => ?_)
 have q17p := eq_of_beqi q17
 refine sg <| Pl 1 <| nt <| rt <| tr <| rr (.slice none 0 0) <| ?_
 have hs : S.tick = (⟨S.dir, [], false⟩, []) := by unfold SS.tick; rw [if_pos (by omega)]
 rw [hs]
 exact ⟨_, rfl, OwnG.nil .., ⟨none, 0, B14, RdG.nil .., (Nat.zero_le _), (Nat.zero_le _)⟩, U16⟩
 have q17p := ne_of_beqi q17
 refine skn <| sg <| Pl 3 <| L0 <| Olb B14 0 <| Pl 1 <| ?_
 have r18 := RdB.upd' hr U16 (safe_cons (safe1 hb (by decide)) safe0)
 refine pr (rtuP S.dir S.held) fun F19 E20 hX21 => ?_
 refine L0 <| Oc <| e2 (rtu_parse_x hX21 r18 (by omega)) fun x22 w23 hx28 hu27 => ?_
 obtain ⟨hM24, hF25, hF26⟩ := hx28
 refine Pl 3 <| L0 <| Oal #[.int .u8 0, .int .u16 0, .int .u8 0, .int .u8 0, .int .u16 0, .int .u16 0, .int .u16 0, .int .u16 0, .int .u16 0, .int .u16 0, .int .u16 0, .int .u16 0, .int .u16 0, .int .u16 0, .slice none 0 0, .slice none 0 0, .slice none 0 0, .slice none 0 0, .int .u8 0, .int .u8 0, .int .u8 0, .int .u8 0, .int .u8 0, .slice none 0 0] fun g29 w30 hg31 B32 hu33 => L0 <| Osw B32 (fcl F19.unit F19.tid F19.msg x22) fun w34 B35 hu36 => Pl 1 <| ng <| Pl 1 <| L0 <| Olw B35 <| Pl 1 <| L0 <| Olt (m := 1) (e := 61) (evl ⟨E20, F19⟩ x22) fun g37 w38 hg39 B40 hu41 => Pl 1 <| nl <| ?_
 refine tn <| rt <| rr (.slice (some ⟨g37, 0, none⟩) 1 1) <| ?_
 have hs : S.tick = (⟨S.dir, [], false⟩, [⟨E20, F19⟩]) := by unfold SS.tick; rw [if_neg (by omega), hX21]
 rw [hs]
 have U42 := u1 hu33 hu36 (nr hg31)
 have U43 := ut0 U42 hu41
 have r44 := MsgRd.upd hM24 U43 safe0
 have hE := litE (w0 := w) (x := ⟨E20, F19⟩) (Nat.le_trans (le (le (le (le hu12.size hu15.size) hu27.size) hu33.size) hu36.size) hg39) B40 ⟨x22, rfl, r44, hF25, hF26⟩
 have U45 := ut0 hu27 hu33
 have U46 := u1 U45 hu36 (ni hu27.size hg31)
 have U47 := ut0 U46 hu41
 have r48 := ub U47 B14
 have U49 := ut0 U16 hu27
 have U50 := ut0 U49 hu33
 have U51 := u1 U50 hu36 (ni U49.size hg31)
 have U52 := ut0 U51 hu41
 exact ⟨_, rfl, hE, ⟨none, 0, r48, RdG.nil .., (Nat.zero_le _), (Nat.zero_le _)⟩, U52⟩
theorem SS.feed_le {S S2 : SS} {b : List Int} {L : List Ev} (h : S.feed b = (S2, L)) : L.length ≤ 1 := by
  have k := congrArg Prod.snd h
  rw [show L = (S.feed b).2 from k.symm]
  unfold SS.feed
  split
  · exact Nat.zero_le _
  split
  · exact Nat.zero_le _
  · exact Nat.le_refl _
theorem SS.tick_le {S S2 : SS} {L : List Ev} (h : S.tick = (S2, L)) : L.length ≤ 1 := by
  have k := congrArg Prod.snd h
  rw [show L = S.tick.2 from k.symm]
  unfold SS.tick
  dsimp only
  split
  · exact Nat.zero_le _
  · exact Nat.le_refl _
theorem srtu_feed_x {w : World} {g : Nat} {S S2 : SS} {L : List Ev} {m : Bool} {v : Value} {b : List Int} (hX : S.feed b = (S2, L)) (h : SrtuAt w g S) (hsl : RdB m w v b) (hbl : b.length ≤ 1048576) :
    Calls Tryz.prog 20 #[.pointer (some ⟨g, 0, none⟩), v] w (PStr (fun W => SrtuAt W g S2) L g w) := by
  have k := srtu_feed h hsl hbl
  rw [hX] at k
  exact k
theorem srtu_tick_x {w : World} {g : Nat} {S S2 : SS} {L : List Ev} (hX : S.tick = (S2, L)) (h : SrtuAt w g S) : Calls Tryz.prog 23 #[.pointer (some ⟨g, 0, none⟩)] w (PStr (fun W => SrtuAt W g S2) L g w) := by
  have k := srtu_tick h
  rw [hX] at k
  exact k
end Go.Proofs.YtgjlbabefogepaaGreat
namespace Go.Proofs.YtgjlbabefogepaaGreat
open Go.WideShapes
def byB (w : World) (b : List Int) (cs : List Value) : Prop := ∃ v, cs = [v] ∧ RdB false w v b ∧ b.length ≤ 140737488355328
section
variable {H : Type} {enc : TypeId × Value → H} {w : World} {base : Nat} {spare : Nat → Bool} {held : Bool} {n : Nat} {y : DataW H × List MemPlace}
theorem sl_len {cs : List Value} (h : DataW.trod enc Tryz.prog w base spare held n 29 cs = some y) (hp : ∀ e2 s2, y.1 = .slice e2 s2 → e2.length ≤ 140737488355328) : ∃ b, byB w b cs := by
  obtain ⟨v, xs, hc, hr⟩ := sl_u8 h
  refine ⟨xs, v, hc, hr, ?_⟩
  obtain ⟨A, c, hv, _, _⟩ := hr.shape
  rcases DataW.trod_slice Tryz.underlying29 h with ⟨h1, _⟩ | ⟨a, len, cap, elems, rest, m, _, h1, h2, _, _, _, h3, _⟩
  · rw [hc] at h1
    simp only [List.cons.injEq, and_true] at h1
    rw [h1] at hv
    injection hv with _ h4 _
    omega
  · rw [hc] at h1
    simp only [List.cons.injEq, and_true] at h1
    rw [h1] at hv
    injection hv with _ h4 _
    have := hp _ _ (by rw [h2])
    rw [List.length_map] at this
    omega
theorem bb_open {cs : List Value} (h : DataW.trod enc Tryz.prog w base spare held n 22 cs = some y) (hp : ∀ elems sp, y.1 = .slice elems sp → ∀ d, d ∈ elems → ∀ e2 s2, d = .slice e2 s2 → e2.length ≤ 140737488355328) :
    ∃ v xs, cs = [v] ∧ RdBs false w v xs ∧ ∀ x, x ∈ xs → x.length ≤ 140737488355328 := by
  obtain ⟨v, xs, hc, hr⟩ := rd_openP (R := byB) (sz := 1) (Pd := fun d => ∀ e2 s2, d = .slice e2 s2 → e2.length ≤ 140737488355328) Tryz.underlying22 (by kernel_rfl) (by decide) (fun _ _ _ _ h hp => sl_len h hp) hp h
  refine ⟨v, xs, hc, RdG.any hr (fun _ _ ⟨v, h1, h2, _⟩ => ⟨v, h1, h2⟩), fun x hx => ?_⟩
  obtain ⟨A, c, rfl, _, _⟩ := hr.shape
  obtain ⟨j, hj⟩ := List.getElem?_of_mem hx
  have hl := (List.getElem?_eq_some_iff.1 hj).1
  obtain ⟨_, _, _, _, _, _, _, _, _, ⟨_, _, _, h4⟩, _⟩ := RdG.elt hr [] j hl
  rw [List.getD_eq_getElem?_getD, hj] at h4
  exact h4
end
theorem mem_weightsAll {H : Type} {P : Program} {e : TypeId} {d : DataW H} {k : Nat} (hk : k ∈ d.weights P e) : ∀ {l : List (DataW H)}, d ∈ l → k ∈ DataW.weightsAll P e l
  | [], h => by cases h
  | x :: r, h => by
    simp only [DataW.weightsAll, List.mem_append]
    rcases List.mem_cons.1 h with rfl | h
    · exact .inl hk
    · exact .inr (mem_weightsAll hk h)
theorem bb_size {H : Type} {ts : List TypeId} {ds : List (DataW H)} (h : (DataW.weightsEach Tryz.prog ts ds).all (· ≤ reachBytes) = true) {j : Nat} {d : DataW H} (ht : ts[j]? = some 22) (hd : ds[j]? = some d) :
    ∀ elems sp, d = .slice elems sp → ∀ d2, d2 ∈ elems → ∀ e2 s2, d2 = .slice e2 s2 → e2.length ≤ 140737488355328 := by
  rintro elems sp rfl d2 hm e2 s2 rfl
  have hw : (e2.length + s2.length) * Tryz.prog.bytesOf 5 ∈ (DataW.slice elems sp).weights Tryz.prog 22 := by
    simp only [DataW.weights, Tryz.underlying22, List.mem_cons, List.mem_append]
    refine .inr (.inl (mem_weightsAll ?_ hm))
    simp only [DataW.weights, Tryz.underlying29, List.mem_cons]
    exact .inl trivial
  have h2 := List.all_eq_true.1 h _ (DataW.weights_mem_each ht hd _ hw)
  have h3 : (e2.length + s2.length) * Tryz.prog.bytesOf 5 ≤ reachBytes := by simpa using h2
  rw [show Tryz.prog.bytesOf 5 = 1 from by kernel_rfl] at h3
  have h4 : reachBytes < 2 ^ 47 := reachBytes_lt
  omega
open Go.RowKit
section
variable {H : Type} {enc : TypeId × Value → H} {w : World} {base : Nat} {spare : Nat → Bool} {held : Bool} {n : Nat} {y : DataW H × List MemPlace}
theorem head_open {cs : List Value} (h : DataW.trod enc Tryz.prog w base spare held n 39 cs = some y) : ∃ u t, cs = [.int .u8 u, .int .u16 t] ∧ (0 ≤ u ∧ u < 256) ∧ (0 ≤ t ∧ t < 65536) := by
  obtain ⟨xs, m, rfl, _, hlen, hxs, hf⟩ := DataW.trod_struct Tryz.underlying39 h
  rw [show Tryz.prog.cellsOf 39 = 2 from by kernel_rfl] at hlen
  replace hxs : xs.length = 2 := hxs.trans (by kernel_rfl)
  obtain ⟨y0, g0⟩ : ∃ y, xs[0]? = some y := ⟨_, List.getElem?_eq_getElem (show 0 < xs.length by omega)⟩
  have f0 : DataW.trod enc Tryz.prog w base spare held m 5 ((cs.drop 0).take (Tryz.prog.cellsOf 5)) = xs[0]? := hf 0 _ rfl
  rw [g0] at f0
  rw [show Tryz.prog.cellsOf 5 = 1 from by kernel_rfl] at f0
  obtain ⟨x0, e0, r0⟩ := el_u8 f0
  obtain ⟨y1, g1⟩ : ∃ y, xs[1]? = some y := ⟨_, List.getElem?_eq_getElem (show 1 < xs.length by omega)⟩
  have f1 : DataW.trod enc Tryz.prog w base spare held m 37 ((cs.drop 1).take (Tryz.prog.cellsOf 37)) = xs[1]? := hf 1 _ rfl
  rw [g1] at f1
  rw [show Tryz.prog.cellsOf 37 = 1 from by kernel_rfl] at f1
  obtain ⟨x1, e1, r1⟩ := el_u16 f1
  have hcs : cs = [.int .u8 x0, .int .u16 x1] := by
    show cs.drop 0 = _
    rw [peel e0, peel e1, drop_all hlen]
  exact ⟨x0, x1, hcs, r0, r1⟩
set_option maxRecDepth 20000 in
theorem frm_open {cs : List Value} (h : DataW.trod enc Tryz.prog w base spare held n 47 cs = some y) : ∃ u t M c, cs = [.int .u8 u, .int .u16 t] ++ c ∧ MsgRd false w c M ∧ (0 ≤ u ∧ u < 256) ∧ (0 ≤ t ∧ t < 65536) := by
  obtain ⟨xs, m, rfl, _, hlen, hxs, hf⟩ := DataW.trod_struct Tryz.underlying47 h
  rw [show Tryz.prog.cellsOf 47 = 24 from by kernel_rfl] at hlen
  replace hxs : xs.length = 2 := hxs.trans (by kernel_rfl)
  obtain ⟨y0, g0⟩ : ∃ y, xs[0]? = some y := ⟨_, List.getElem?_eq_getElem (show 0 < xs.length by omega)⟩
  have f0 : DataW.trod enc Tryz.prog w base spare held m 39 ((cs.drop 0).take (Tryz.prog.cellsOf 39)) = xs[0]? := hf 0 _ rfl
  rw [g0] at f0
  rw [show Tryz.prog.cellsOf 39 = 2 from by kernel_rfl] at f0
  obtain ⟨u, t, e0, hu, ht⟩ := head_open f0
  obtain ⟨y1, g1⟩ : ∃ y, xs[1]? = some y := ⟨_, List.getElem?_eq_getElem (show 1 < xs.length by omega)⟩
  have f1 : DataW.trod enc Tryz.prog w base spare held m 45 ((cs.drop 2).take (Tryz.prog.cellsOf 45)) = xs[1]? := hf 1 _ rfl
  rw [g1] at f1
  rw [show Tryz.prog.cellsOf 45 = 22 from by kernel_rfl] at f1
  obtain ⟨M, hM⟩ := msg_open f1
  refine ⟨u, t, M, (cs.drop 2).take 22, ?_, hM, hu, ht⟩
  rw [← e0, List.take_of_length_le (show (cs.drop 2).length ≤ 22 by rw [List.length_drop]; omega)]
  exact (List.take_append_drop 2 cs).symm
set_option maxRecDepth 20000 in
open Go.WideShapes in
theorem frm_arg {v : Value} {d : DataW H} {p : List MemPlace} (hv : ∃ b0, Value.okWide Tryz.prog w .any b0 47 v) (h : DataW.Trod enc Tryz.prog w base spare held 47 v d p) : ∃ u t M x, v = .agg (fcl u t M x) ∧ MsgRd false w (mcl M x).toList M ∧ (0 ≤ u ∧ u < 256) ∧ (0 ≤ t ∧ t < 65536) := by
  obtain ⟨b0, hv⟩ := hv
  obtain ⟨cs, rfl, hsz⟩ := okWide_struct Tryz.underlying47 hv
  obtain ⟨fuel, hf⟩ := h
  obtain ⟨u, t, M, c, e0, hM, hu, ht⟩ := frm_open hf
  obtain ⟨x, hx⟩ := mcl_of (cs := c.toArray) (by simpa using hM)
  refine ⟨u, t, M, x, ?_, ?_, hu, ht⟩
  · rw [fcl_eq, ← hx]
    congr 1
    apply Array.toList_inj.1
    rw [show cs.toList = _ from e0]
    simp
  · rw [← hx]
    simpa using hM
end
open Go.RowKit
def sumL : List (List Int) → Nat
  | [] => 0
  | x :: t => x.length + sumL t
def few19 (ls : List (List Int)) : Bool := decide (ls.length ≤ 60) && decide (sumL ls ≤ 3000)
theorem sumL_app (a b : List (List Int)) : sumL (a ++ b) = sumL a + sumL b := by
  induction a with
  | nil => simp [sumL]
  | cons x t ih => simp only [List.cons_append, sumL, ih]; omega
theorem sumL_flat (a : List (List Int)) : a.flatten.length = sumL a := by
  induction a with
  | nil => rfl
  | cons x t ih => simp only [List.flatten_cons, List.length_append, sumL, ih]
theorem take_snoc {ls : List (List Int)} {k : Nat} (hk : k < ls.length) : ls.take (k + 1) = ls.take k ++ [ls.getD k []] := by
  rw [List.take_succ_eq_append_getElem hk, List.getD_eq_getElem?_getD, List.getElem?_eq_getElem hk]
  rfl
theorem sumL_snoc {ls : List (List Int)} {k : Nat} (hk : k < ls.length) : sumL (ls.take (k + 1)) = sumL (ls.take k) + (ls.getD k []).length := by
  rw [take_snoc hk, sumL_app]
  rfl
theorem sumL_le {ls : List (List Int)} (hb : ∀ x, x ∈ ls → x.length ≤ 140737488355328) : ∀ k, k ≤ ls.length → sumL (ls.take k) ≤ k * 140737488355328
  | 0, _ => by simp [sumL]
  | k + 1, h => by
    rw [sumL_snoc (by omega)]
    have h1 := sumL_le hb k (by omega)
    have h2 : (ls.getD k []).length ≤ 140737488355328 := by
      rw [List.getD_eq_getElem?_getD, List.getElem?_eq_getElem (by omega)]
      exact hb _ (List.getElem_mem _)
    rw [Nat.succ_mul]
    omega
theorem sumL_part {ls : List (List Int)} {k : Nat} (hk : k < ls.length) : sumL (ls.take k) + (ls.getD k []).length ≤ sumL ls := by
  rw [← sumL_snoc hk]
  have := sumL_app (ls.take (k + 1)) (ls.drop (k + 1))
  rw [List.take_append_drop] at this
  omega
theorem few19_step {ls : List (List Int)} {k : Nat} {n : Int} (hb : ∀ x, x ∈ ls → x.length ≤ 140737488355328) (h : k ≤ 60 → n = (sumL (ls.take k) : Nat)) (hk : k < ls.length) : k + 1 ≤ 60 → IntKind.i64.wrap (n + (((ls.getD k []).length : Nat) : Int)) = (sumL (ls.take (k + 1)) : Nat) := by
  intro h60
  have h1 := sumL_le hb (k + 1) hk
  have h2 := sumL_snoc hk
  rw [h (by omega), i64_in]
  · rw [h2]; omega
  · omega
theorem few19_end {ls : List (List Int)} {k : Nat} {n : Int} (h : k ≤ 60 → n = (sumL (ls.take k) : Nat)) (hk : k = ls.length) : (decide ((ls.length : Int) ≤ 60) && decide (n ≤ 3000)) = few19 ls := by
  subst hk
  rw [List.take_length] at h
  unfold few19
  by_cases h60 : ls.length ≤ 60
  · rw [h h60]
    congr 1
    · rw [decide_eq_decide]; omega
    · rw [decide_eq_decide]; omega
  · rw [decide_eq_false h60, decide_eq_false (by omega)]; rfl
theorem few19_le {ls : List (List Int)} (h : few19 ls = true) : ls.length ≤ 60 ∧ sumL ls ≤ 3000 := by
  unfold few19 at h
  simpa using h
set_option maxRecDepth 100000 in
set_option maxHeartbeats 4000000 in
theorem few19_any {m : Bool} {A : Option Addr} {cp : Nat} {ls : List (List Int)} {w : World} (h : RdBs m w (.slice A ls.length cp) ls) (hbb : ∀ x, x ∈ ls → x.length ≤ 140737488355328) : Calls Tryz.prog 18 #[.slice A ls.length cp] w (PVal (.bool (few19 ls)) w) := by
 have hz := RdG.len h
 refine en 25 Tryz.func18 rfl <| sg <| Pl 1 <| ng <| Pl 1 <| nt <| sq <| sg <| ?_
 refine Pl 1 <| nt <| bk <| ?_
 refine glp (fun x => [(0, .slice A ls.length cp), (2, .bool false), (3, .int .i64 x.2), (4, .int .i64 ((x.1 : Nat) : Int))]) (fun (x : Nat × Int) w' => Upd [] w w' ∧ (x.1 ≤ ls.length) ∧ (x.1 ≤ 60 → x.2 = (sumL (ls.take x.1) : Nat))) (fun x => ls.length - x.1) (0, 0) ⟨Upd.refl _ _, (by (try dsimp only); omega), (by (try dsimp only); intro _; rfl)⟩ ?_
 rintro ⟨k, n⟩ w10 ⟨hu11, p12, p13⟩
 refine wkc [(0, .slice A ls.length cp), (2, .bool false), (3, .int .i64 n), (4, .int .i64 ((k : Nat) : Int))] ?_
 have p15 : k ≤ ls.length := p12
 have p16 : k ≤ 60 → n = (sumL (ls.take k) : Nat) := p13
 refine sq <| sg <| Pl 4 <| nt <| cb ((decide (((k : Nat) : Int) < ((ls.length : Nat) : Int)))) (fun q17 => ?_) (fun q17 => ?_)
 have q17p := of_decide_eq_true q17
 refine skn <| sq <| bk <| go <| Pl 3 <| x45 (RdBs.elt h k (by omega)) fun b18 o19 A20 cp21 hA22 hl23 hr24 hc25 hm26 => L0 <| Oix ls.length k hA22 (by omega) <| L0 <| Old (p := ⟨b18, o19 + k, none⟩) (v := .slice A20 ((ls.getD k []).length) cp21) (uc hu11 hl23) <| Pl 3 <| nl <| bn <| tn <| go <| ?_
 exact Pl 1 <| L0 <| Oi (((k : Nat) : Int) + 1) <| Pl 1 <| nl <| lpe ((k + 1), (IntKind.i64.wrap (n + (((ls.getD k []).length : Nat) : Int)))) ⟨hu11, (by (try dsimp only); omega), (few19_step hbb p16 (by omega))⟩ (by omega)
 have q17p := of_decide_eq_false q17
 refine xt <| tx <| tx <| bx <| tn <| sg <| Pl 4 <| cu 3 [21] 24 (((decide (((ls.length : Nat) : Int) ≤ 60)) && (decide (n ≤ 3000)))) (fun K K28 => ?_) ?_
 refine bl 21 ((decide (((ls.length : Nat) : Int) ≤ 60))) (fun q27 => ?_) (fun q27 => ?_)
 have q27p := of_decide_eq_true q27
 exact Pl 3 <| ce K28 (decide (n ≤ 3000)) (by rw [q27]; rfl)
 have q27p := of_decide_eq_false q27
 exact Pl 3 <| ce K28 false (by rw [q27]; rfl)
 refine Pl 1 <| nt <| rt <| rr (.bool ((decide (((ls.length : Nat) : Int) ≤ 60)) && (decide (n ≤ 3000)))) <| ?_
 have hs : ((decide (((ls.length : Nat) : Int) ≤ 60)) && (decide (n ≤ 3000))) = few19 ls := by first | exact few19_end p16 (by omega) | (rw [← few19_end p16 (by omega)]; simp only [q17, bs, if_true, if_false, decide_true, decide_false, Bool.true_and, Bool.false_and])
 rw [hs]
 exact ⟨rfl, hu11⟩
theorem join_len {ls : List (List Int)} {L : List Int} (h : sumL ls ≤ 3000) (k : Nat) (hL : L = (ls.take k).flatten) : L.length + (ls.getD k []).length ≤ 3000 ∨ ls.length ≤ k := by
  rcases Nat.lt_or_ge k ls.length with hk | hk
  · have := sumL_part hk
    rw [hL, sumL_flat]
    exact .inl (by omega)
  · exact .inr hk
theorem join_snoc {ls : List (List Int)} {L : List Int} {k : Nat} (hL : L = (ls.take k).flatten) (hk : k < ls.length) : L ++ ls.getD k [] = (ls.take (k + 1)).flatten := by
  rw [take_snoc hk, List.flatten_append, hL]
  simp
def PJoin (ls : List (List Int)) (w : World) (e : Ending) (w' : World) : Prop := ∃ v, e = .returned v ∧ OwnB w.heap.size w' v ls.flatten ∧ Upd [] w w'
set_option maxRecDepth 100000 in
set_option maxHeartbeats 4000000 in
theorem join19_any {m : Bool} {A : Option Addr} {cp : Nat} {ls : List (List Int)} {w : World} (h : RdBs m w (.slice A ls.length cp) ls) (hs3 : sumL ls ≤ 3000) : Calls Tryz.prog 22 #[.slice A ls.length cp] w (PJoin ls w) := by
 have hz := RdG.len h
 refine en 18 Tryz.func22 rfl <| sg <| Pl 1 <| ng <| Pl 1 <| nt <| sq <| sg <| ?_
 refine Pl 1 <| nt <| bk <| ?_
 refine glp (fun x => [(0, .slice A ls.length cp), (2, .slice none 0 0), (3, .slice x.2.2.1 x.2.1.length x.2.2.2), (4, .int .i64 ((x.1 : Nat) : Int))]) (fun (x : Nat × List Int × Option Addr × Nat) w' => Upd [] w w' ∧ OwnB w.heap.size w' (.slice x.2.2.1 x.2.1.length x.2.2.2) x.2.1 ∧ (x.1 ≤ ls.length) ∧ (x.2.1 = (ls.take x.1).flatten) ∧ (x.2.1.length + (ls.getD x.1 []).length ≤ 3000 ∨ ls.length ≤ x.1)) (fun x => ls.length - x.1) (0, [], none, 0) ⟨Upd.refl _ _, (OwnG.nil w.heap.size _ _ u8R _), (by (try dsimp only); omega), rfl, (by (try dsimp only); exact join_len hs3 0 rfl)⟩ ?_
 rintro ⟨k, L, B, cq⟩ w10 ⟨hu11, f12, p13, p14, p15⟩
 refine wkc [(0, .slice A ls.length cp), (2, .slice none 0 0), (3, .slice B L.length cq), (4, .int .i64 ((k : Nat) : Int))] ?_
 have f17 : OwnB w.heap.size w10 (.slice B L.length cq) L := f12
 have p18 : k ≤ ls.length := p13
 have p19 : L = (ls.take k).flatten := p14
 have p20 : L.length + (ls.getD k []).length ≤ 3000 ∨ ls.length ≤ k := p15
 refine sq <| sg <| Pl 4 <| nt <| cb ((decide (((k : Nat) : Int) < ((ls.length : Nat) : Int)))) (fun q21 => ?_) (fun q21 => ?_)
 have q21p := of_decide_eq_true q21
 refine skn <| sq <| bk <| go <| Pl 3 <| x45 (RdBs.elt h k (by omega)) fun b22 o23 A24 cp25 hA26 hl27 hr28 hc29 hm30 => L0 <| Oix ls.length k hA26 (by omega) <| L0 <| Old (p := ⟨b22, o23 + k, none⟩) (v := .slice A24 ((ls.getD k []).length) cp25) (uc hu11 hl27) <| ?_
 have r31 := RdB.old hr28 hu11
 refine L0 <| Oapp one_u8 (xs := L) (ys := (ls.getD k [])) (.int .u8 0) 1 f17 r31 (by (try simp only [List.length_append, List.length_cons, List.length_nil, putW_length]); omega) hu11.size fun A32 cp33 w34 ho35 hu36 => Pl 1 <| nl <| bn <| tn <| go <| Pl 1 <| L0 <| Oi (((k : Nat) : Int) + 1) <| Pl 1 <| nl <| ?_
 have U37 := ut hu11 hu36 (all_app (ob_new f17 lr) all0)
 exact lpe ((k + 1), (L ++ (ls.getD k [])), A32, cp33) ⟨U37, ho35, (by (try dsimp only); omega), (by (try dsimp only); exact join_snoc p19 (by omega)), (by (try dsimp only); exact join_len hs3 _ (join_snoc p19 (by omega)))⟩ (by omega)
 have q21p := of_decide_eq_false q21
 refine xt <| tx <| tx <| bx <| tn <| sg <| Pl 2 <| nt <| rt <| rr (.slice B L.length cq) <| ?_
 have hs : L = ls.flatten := by rw [p19, List.take_of_length_le (by omega)]
 exact ⟨_, rfl, by rw [← hs]; exact f17, hu11⟩
open Go.RowKit
deriving instance DecidableEq for Ev
theorem same19_eq (A B : Ev) : (((A.e == B.e) && ((A.f.unit == B.f.unit) && (A.f.tid == B.f.tid))) && decide (A.f.msg = B.f.msg)) = decide (A = B) := by
  rw [Bool.eq_iff_iff]
  simp only [Bool.and_eq_true, beq_iff_eq, decide_eq_true_eq]
  obtain ⟨e, u, t, M⟩ := A
  obtain ⟨e2, u2, t2, M2⟩ := B
  simp only [Ev.mk.injEq, Frm.mk.injEq]
  constructor
  · rintro ⟨⟨h1, h2, h3⟩, h4⟩; exact ⟨h1, h2, h3, h4⟩
  · rintro ⟨h1, h2, h3, h4⟩; exact ⟨⟨h1, h2, h3⟩, h4⟩
theorem ev_pre {xs ys : List Ev} {k : Nat} (hk : k < xs.length) (hl : xs.length = ys.length) (h : xs.take k = ys.take k) (he : xs.getD k (Ev.bad 0) = ys.getD k (Ev.bad 0)) : xs.take (k + 1) = ys.take (k + 1) := by
  exact eqPre hl hk h he
theorem ev_all {xs ys : List Ev} {k : Nat} (h : xs.take k = ys.take k) (h1 : k = xs.length) (h2 : xs.length = ys.length) : decide (xs = ys) = true := by
  rw [List.take_of_length_le (by omega), List.take_of_length_le (by omega)] at h
  exact decide_eq_true h
theorem ev_no {xs ys : List Ev} (k : Nat) (h : decide (xs.getD k (Ev.bad 0) = ys.getD k (Ev.bad 0)) = false) : decide (xs = ys) = false := by
  rw [decide_eq_false_iff_not] at h ⊢
  exact fun e => h (by rw [e])
set_option maxRecDepth 100000 in
set_option maxHeartbeats 4000000 in
theorem same19_any {m m' : Bool} {A B : Ev} {sA sB : SL} {w : World} (hA : MsgRd m w (mcl A.f.msg sA).toList A.f.msg) (hB : MsgRd m' w (mcl B.f.msg sB).toList B.f.msg) : Calls Tryz.prog 35 #[.agg (evl A sA), .agg (evl B sB)] w (PVal (.bool (decide (A = B))) w) := by
 refine en 28 Tryz.func35 rfl <| sg <| L0 <| Obx (evl ⟨A.e, A.f⟩ sA) fun g10 w11 hg12 B13 hu14 => L0 <| Obx (evl ⟨B.e, B.f⟩ sB) fun g15 w16 hg17 B18 hu19 => Pl 1 <| ng <| Pl 1 <| ?_
 have r20 := ub hu19 B13
 refine L0 <| Olb r20 0 <| Pl 1 <| L0 <| Olb B18 0 <| Pl 2 <| cu 8 [10] 18 (((A.e == B.e) && ((A.f.unit == B.f.unit) && (A.f.tid == B.f.tid)))) (fun K K22 => ?_) ?_
 refine bl 10 ((A.e == B.e)) (fun q21 => ?_) (fun q21 => ?_)
 have q21p := eq_of_beqi q21
 exact Pl 2 <| L1 <| Ola r20 1 2 <| Pl 2 <| L1 <| Ola B18 1 2 <| L1 <| Or_ (.bool ((A.f.unit == B.f.unit) && (A.f.tid == B.f.tid))) (run_headeq A.f.unit A.f.tid B.f.unit B.f.tid rfl (by kernel_rfl) (by kernel_rfl) rfl) <| Pl 1 <| ce K22 ((A.f.unit == B.f.unit) && (A.f.tid == B.f.tid)) (by rw [q21]; rfl)
 have q21p := ne_of_beqi q21
 exact Pl 8 <| ce K22 false (by rw [q21]; rfl)
 refine Pl 1 <| ?_
 have U23 := ut0 hu14 hu19
 refine bl 19 (((A.e == B.e) && ((A.f.unit == B.f.unit) && (A.f.tid == B.f.tid)))) (fun q24 => ?_) (fun q24 => ?_)
 have q24a := (and_t q24).1
 have q24b := (and_t q24).2
 have q24ap := eq_of_beqi q24a
 have q24ba := (and_t q24b).1
 have q24bb := (and_t q24b).2
 have q24bap := eq_of_beqi q24ba
 have q24bbp := eq_of_beqi q24bb
 refine Pl 2 <| L1 <| Ola r20 3 22 <| Pl 2 <| L1 <| Ola B18 3 22 <| ?_
 have r25 := MsgRd.old hA U23
 have r26 := MsgRd.old hB U23
 refine L1 <| Oc <| m1 (same7_any r25 r26) fun w27 hu28 => Pl 2 <| nt <| rt <| rr (.bool (decide (A.f.msg = B.f.msg))) <| ?_
 have hs : (decide (A.f.msg = B.f.msg)) = decide (A = B) := by rw [← same19_eq]; simp only [q24, q24a, q24b, q24ba, q24bb, bs, if_true, if_false, decide_true, decide_false, Bool.true_and, Bool.false_and, Bool.and_true, Bool.and_false]
 rw [hs]
 have U29 := ut0 U23 hu28
 exact ⟨rfl, U29⟩
 refine Pl 9 <| nt <| rt <| rr (.bool false) <| ?_
 have hs : false = decide (A = B) := by rw [← same19_eq]; simp only [q24, bs, if_true, if_false, decide_true, decide_false, Bool.true_and, Bool.false_and, Bool.and_true, Bool.and_false]
 rw [hs]
 exact ⟨rfl, U23⟩
set_option maxRecDepth 100000 in
set_option maxHeartbeats 4000000 in
theorem all19_any {m m' : Bool} {A B : Option Addr} {c d : Nat} {xs ys : List Ev} {w : World} (h1 : RdE m w (.slice A xs.length c) xs) (h2 : RdE m' w (.slice B ys.length d) ys) : Calls Tryz.prog 24 #[.slice A xs.length c, .slice B ys.length d] w (PVal (.bool (decide (xs = ys))) w) := by
 have hz1 := RdG.len h1
 have hz2 := RdG.len h2
 refine en 27 Tryz.func24 rfl <| sg <| Pl 1 <| nt <| sq <| sg <| Pl 5 <| nt <| cb ((((xs.length : Nat) : Int) != ((ys.length : Nat) : Int))) (fun q10 => ?_) (fun q10 => ?_)
 have q10p := ne_of_bnei q10
 refine sg <| Pl 1 <| nt <| rt <| tr <| rr (.bool false) <| ?_
 have hs : decide (xs = ys) = false := decide_eq_false (fun e => by rw [e] at q10p; omega)
 rw [hs]
 exact ⟨rfl, (Upd.refl [] _)⟩
 have q10p := eq_of_bnei q10
 refine skn <| sq <| sg <| Pl 1 <| nt <| bk <| ?_
 refine glp (fun x => [(0, .slice A xs.length c), (1, .slice B ys.length d), (5, .int .i64 ((x : Nat) : Int))]) (fun (x : Nat) w' => Upd [] w w' ∧ (xs.take x = ys.take x) ∧ (x ≤ xs.length)) (fun x => xs.length - x) 0 ⟨Upd.refl _ _, rfl, (by (try dsimp only); omega)⟩ ?_
 rintro k w11 ⟨hu12, p13, p14⟩
 refine wkc [(0, .slice A xs.length c), (1, .slice B ys.length d), (5, .int .i64 ((k : Nat) : Int))] ?_
 have p16 : xs.take k = ys.take k := p13
 have p17 : k ≤ xs.length := p14
 refine sq <| sg <| Pl 4 <| nt <| cb ((decide (((k : Nat) : Int) < ((xs.length : Nat) : Int)))) (fun q18 => ?_) (fun q18 => ?_)
 have q18p := of_decide_eq_true q18
 refine skn <| sq <| bk <| sq <| x64 (RdE.elt h1 k (by omega) (Ev.bad 0)) fun b43 o44 cl45 t46 fr47 s48 hA49 hb50 hv51 hs52 => x64 (RdE.elt h2 k (by omega) (Ev.bad 0)) fun b53 o54 cl55 t56 fr57 s58 hA59 hb60 hv61 hs62 => Rg 10 (fun w' => w'.heap[b43]? = some (.cells cl45 t46 fr47) ∧ w'.heap[b53]? = some (.cells cl55 t56 fr57)) fun w67 hu68 => ?_
 have U70 := ut0 hu12 hu68
 have r71 := ub U70 hb50
 have r72 := ub U70 hb60
 refine hld ⟨r71, r72⟩ fun hS69 => Rt 0 hS69 <| Rt 1 hS69 <| Ri 2 hS69 25 xs.length k ((k : Nat) : Int) rfl hA49 (by omega) <| Rr 3 hS69 (.agg (evl ⟨(xs.getD k (Ev.bad 0)).e, (xs.getD k (Ev.bad 0)).f⟩ s48)) (fun w' hs => lda_o (g := b43) (off := o44 + k * 25) [.int .i64 ((xs.getD k (Ev.bad 0)).e), .int .u8 ((xs.getD k (Ev.bad 0)).f.unit), .int .u16 ((xs.getD k (Ev.bad 0)).f.tid), .int .u8 ((xs.getD k (Ev.bad 0)).f.msg.code), .int .u8 ((xs.getD k (Ev.bad 0)).f.msg.fail), .int .u16 ((xs.getD k (Ev.bad 0)).f.msg.addr), .int .u16 ((xs.getD k (Ev.bad 0)).f.msg.count), .int .u16 ((xs.getD k (Ev.bad 0)).f.msg.value), .int .u16 ((xs.getD k (Ev.bad 0)).f.msg.and_), .int .u16 ((xs.getD k (Ev.bad 0)).f.msg.or_), .int .u16 ((xs.getD k (Ev.bad 0)).f.msg.addr2), .int .u16 ((xs.getD k (Ev.bad 0)).f.msg.sub), .int .u16 ((xs.getD k (Ev.bad 0)).f.msg.status), .int .u16 ((xs.getD k (Ev.bad 0)).f.msg.events), .int .u16 ((xs.getD k (Ev.bad 0)).f.msg.messages), .slice s48.aw ((xs.getD k (Ev.bad 0)).f.msg.words.length) s48.kw, .slice s48.ab ((xs.getD k (Ev.bad 0)).f.msg.bits.length) s48.kb, .slice s48.ad ((xs.getD k (Ev.bad 0)).f.msg.data.length) s48.kd, .slice s48.ar ((xs.getD k (Ev.bad 0)).f.msg.recs.length) s48.kr, .int .u8 ((xs.getD k (Ev.bad 0)).f.msg.mei), .int .u8 ((xs.getD k (Ev.bad 0)).f.msg.kind), .int .u8 ((xs.getD k (Ev.bad 0)).f.msg.level), .int .u8 ((xs.getD k (Ev.bad 0)).f.msg.more), .int .u8 ((xs.getD k (Ev.bad 0)).f.msg.next), .slice s48.ao ((xs.getD k (Ev.bad 0)).f.msg.objects.length) s48.ko] rfl (by kernel_rfl) hs.1 (by kernel_rfl) (by kernel_rfl) hs52) <| Rt 4 hS69 <| Rt 5 hS69 <| Ri 6 hS69 25 ys.length k ((k : Nat) : Int) rfl hA59 (by omega) <| Rr 7 hS69 (.agg (evl ⟨(ys.getD k (Ev.bad 0)).e, (ys.getD k (Ev.bad 0)).f⟩ s58)) (fun w' hs => lda_o (g := b53) (off := o54 + k * 25) [.int .i64 ((ys.getD k (Ev.bad 0)).e), .int .u8 ((ys.getD k (Ev.bad 0)).f.unit), .int .u16 ((ys.getD k (Ev.bad 0)).f.tid), .int .u8 ((ys.getD k (Ev.bad 0)).f.msg.code), .int .u8 ((ys.getD k (Ev.bad 0)).f.msg.fail), .int .u16 ((ys.getD k (Ev.bad 0)).f.msg.addr), .int .u16 ((ys.getD k (Ev.bad 0)).f.msg.count), .int .u16 ((ys.getD k (Ev.bad 0)).f.msg.value), .int .u16 ((ys.getD k (Ev.bad 0)).f.msg.and_), .int .u16 ((ys.getD k (Ev.bad 0)).f.msg.or_), .int .u16 ((ys.getD k (Ev.bad 0)).f.msg.addr2), .int .u16 ((ys.getD k (Ev.bad 0)).f.msg.sub), .int .u16 ((ys.getD k (Ev.bad 0)).f.msg.status), .int .u16 ((ys.getD k (Ev.bad 0)).f.msg.events), .int .u16 ((ys.getD k (Ev.bad 0)).f.msg.messages), .slice s58.aw ((ys.getD k (Ev.bad 0)).f.msg.words.length) s58.kw, .slice s58.ab ((ys.getD k (Ev.bad 0)).f.msg.bits.length) s58.kb, .slice s58.ad ((ys.getD k (Ev.bad 0)).f.msg.data.length) s58.kd, .slice s58.ar ((ys.getD k (Ev.bad 0)).f.msg.recs.length) s58.kr, .int .u8 ((ys.getD k (Ev.bad 0)).f.msg.mei), .int .u8 ((ys.getD k (Ev.bad 0)).f.msg.kind), .int .u8 ((ys.getD k (Ev.bad 0)).f.msg.level), .int .u8 ((ys.getD k (Ev.bad 0)).f.msg.more), .int .u8 ((ys.getD k (Ev.bad 0)).f.msg.next), .slice s58.ao ((ys.getD k (Ev.bad 0)).f.msg.objects.length) s58.ko] rfl (by kernel_rfl) hs.2 (by kernel_rfl) (by kernel_rfl) hs62) <| ?_
 have r73 := MsgRd.old (hv51.1) U70
 have r74 := MsgRd.old (hv61.1) U70
 refine R0 8 rfl <| Oc <| m1 (same19_any (A := (xs.getD k (Ev.bad 0))) (B := (ys.getD k (Ev.bad 0))) r73 r74) fun w75 hu76 => ?_
 have r78 := ub hu76 r71
 have r79 := ub hu76 r72
 refine hld ⟨r78, r79⟩ fun hS77 => Rt 9 hS77 <| re <| tn <| ?_
 have U80 := ut0 U70 hu76
 refine cb ((!(decide ((xs.getD k (Ev.bad 0)) = (ys.getD k (Ev.bad 0)))))) (fun q81 => ?_) (fun q81 => ?_)
 have q81n : (decide ((xs.getD k (Ev.bad 0)) = (ys.getD k (Ev.bad 0)))) = false := by simpa using q81
 have q81np := of_decide_eq_false q81n
 refine sg <| Pl 1 <| nt <| rt <| br <| tr <| tr <| br <| tr <| rr (.bool false) <| ?_
 have hs : decide (xs = ys) = false := ev_no k q81n
 rw [hs]
 exact ⟨rfl, U80⟩
 have q81n : (decide ((xs.getD k (Ev.bad 0)) = (ys.getD k (Ev.bad 0)))) = true := by simpa using q81
 have q81np := of_decide_eq_true q81n
 exact sk <| bn <| tn <| go <| Pl 1 <| L0 <| Oi (((k : Nat) : Int) + 1) <| Pl 1 <| nl <| lpe (k + 1) ⟨U80, (ev_pre (by omega) (by omega) p16 (of_decide_eq_true q81n)), (by (try dsimp only); omega)⟩ (by omega)
 have q18p := of_decide_eq_false q18
 refine xt <| tx <| tx <| bx <| tn <| sg <| Pl 1 <| nt <| rt <| rr (.bool true) <| ?_
 have hs : decide (xs = ys) = true := ev_all p16 (by omega) (by omega)
 rw [hs]
 exact ⟨rfl, hu12⟩
open Go.RowKit
theorem src_none' {P : Program} {sz : Nat} {A : Option Addr} {c : Nat} (w : World) : (Builtin.firstCells sz 0 (.slice A 0 c)).run P w = .ok #[] w := by
  cases A with
  | none => simp [Builtin.firstCells]
  | some a =>
    have := run_loadCells_list (P := P) w a [] (fun j v hj => by simp at hj)
    simpa [Builtin.firstCells] using this
theorem not_typeX {α : Type} {base sz : Nat} {e t : TypeId} {R : World → α → List Value → Prop} {w : World} {A : Option Addr} {n c g : Nat} {xs : List α} (hb : ∃ cs fr, w.heap[g]? = some (.cells cs t fr)) (h : OwnG base e sz R w (.slice A n c) xs) (ht : (t == e) = false) : g ∉ ob A := by
  obtain ⟨cs, fr, hb⟩ := hb
  exact not_type hb h ht
theorem rows_from {β : Type} {base2 sz2 : Nat} {e2 : TypeId} {R2 : World → β → List Value → Prop} {A A2 B : Option Addr} {w wY : World} {n c : Nat} {ys : List β} (hat : ∀ g, g ∈ ob A2 → g ∈ ob A ∨ w.heap.size ≤ g) (h1 : ∀ x, x ∈ ob A → x ∉ ob B) (hY : OwnG base2 e2 sz2 R2 wY (.slice B n c) ys) (hs : wY.heap.size ≤ w.heap.size) : ∀ x, x ∈ ob A2 → x ∉ ob B := fun x hx => by
  rcases hat x hx with h | h
  · exact h1 x h
  · exact fun hb => by have := ob_lt hY x hb; omega
section
variable {P : Program} {n : Nat} {D : List Deferred} {F : Fr} {w : World} {K : Fr → World → Prop} {Q : Exit → Act → World → Prop} {d : Option Tmp} {t : TypeId} {s : String} {af : Array Edge} {gu : Option (Nat × Bool)}
theorem Oape {α : Type} {R : World → α → List Value → Prop} {x y : Operand} {e : TypeId} {base m c : Nat} {A : Option Addr} {xs ys : List α} {mm : Bool} {e' ty : TypeId} {u : Value} (z : Value) (sz bytes : Nat) (HO : OwnG base e sz R w (.slice A m c) xs) (HY : RdG mm e' sz R w u ys)
    (hone : ∀ x cs, R w x cs → ∀ v, v ∈ cs → v.oneCell' = true) (hRU : ∀ w', Upd (ob A ++ []) w w' → ∀ x cs, R w x cs → R w' x cs)
    (hl : xs.length + ys.length ≤ 4194304) (hbase : base ≤ w.heap.size) (h : ∀ A' c' w', OwnG base e sz R w' (.slice A' (xs ++ ys).length c') (xs ++ ys) → Upd (ob A ++ []) w w' → (∀ g, g ∈ ob A' → g ∈ ob A ∨ w.heap.size ≤ g) → K (pt d (.slice A' (xs ++ ys).length c') F) w')
    (hx : evo F x = some (.slice A m c) := by kernel_rfl) (hy' : evo F y = some u := by kernel_rfl) (he : slE P ty = some e := by kernel_rfl) (hs : (infA P ty, z.cells.size, (dok n d && Nat.ble bytes 65536) && Nat.blt 0 sz) = (some (some z, sz, bytes), sz, true) := by kernel_rfl) : OG P ⟨d, .call { callee := .builtin .append, args := #[x, y], argTypes := #[ty, ty] }, t, s, af, gu⟩ n D F w K Q := by
  by_cases hne : ys = []
  · subst hne
    simp only [Prod.mk.injEq] at hs
    have h3 := and2 (and2 hs.2.2).1
    obtain ⟨A0, c0, e0, hc1, _⟩ := HO.rd.shape
    have e0 := e0.symm
    injection e0 with e1 e2 e3
    subst e2
    subst e1 e3
    obtain ⟨B, cB, rfl, _, _⟩ := HY.shape
    have hinf : (P.info? e).map (fun i => (i.zero, i.size, i.bytes)) = some (some z, sz, bytes) := by have := hs.1; unfold infA at this; rw [he] at this; exact this
    obtain ⟨i0, hi, hz0, hz1, hz2⟩ := info_parts hinf
    have hsr : Src P i0.size ty (.slice B 0 cB) 0 [] w := ⟨.inl ⟨e, slE_some he⟩, fun w' => by simp [Builtin.lenOf], src_none' w, src_none' w.drew, by simp, fun u hu => by cases hu⟩
    have hr := run_append_nothing w ty ty t _ i0 (slE_some he) hi A0 xs.length c0 hc1 _ hsr
    refine ⟨fun a ha K' hK => OW.mk ?_⟩
    have hx' := ha.ev hx
    have hy2 := ha.ev hy'
    simp only [List.length_nil] at hy2
    unfold Oper.wp execOp
    simp only [resolve, invoke, builtin, Sem.run_bind, Sem.run_pure, Result.andThen_ok, List.map_toArray, List.map_cons, List.map_nil, hx', hy2, hr]
    refine hK _ _ _ (h A0 c0 w (by rw [List.append_nil]; exact HO) (Upd.mono (S' := ob A0 ++ []) (Upd.refl [] w) (fun x hx => by cases hx)) (fun g hg => .inl hg)) ?_
    rw [List.append_nil]
    exact ha.put h3.1
  · have hy : 0 < ys.length := by
      cases ys with
      | nil => exact absurd rfl hne
      | cons a r => simp
    simp only [Prod.mk.injEq] at hs
    have h2 := and2 hs.2.2
    have h3 := and2 h2.1
    exact ⟨fun a ha K' hK => ow_appg2 z sz bytes rfl rfl (slE_some he) (by have := hs.1; unfold infA at this; rw [he] at this; exact this) hs.2.1 (by simpa using h2.2) xs (ha.ev hx) HO u ys (ha.ev hy') HY hy hone hRU hl (by simpa using h3.2) hbase fun A' c' w' hO hu hat => hK _ _ _ (h A' c' w' hO hu hat) (ha.put h3.1)⟩
end
open Go.RowKit
def awM7 : Msg := { Msg.zero with code := 7 }
theorem aw7rd (w : World) : MsgRd true w (mC 7).toList awM7 := ⟨nilS, nilS, nilS, nilS, nilS, rfl, RdG.nil .., RdG.nil .., RdG.nil .., RdG.nil .., RdG.nil .., { MsgRng.zero with code := (by decide : (0 : Int) ≤ 7 ∧ (7 : Int) < 256) }⟩
theorem aw7few : MsgFew awM7 := ⟨by decide, by decide, by decide, by decide, (fun r h => nomatch h), by decide, (fun r h => nomatch h)⟩
open Go.RowKit
theorem aw19a : SS.feed (SS.mk 0 [] false) [1, 7] = ((SS.mk 0 [1, 7] false), []) := rfl
theorem aw19b : SS.feed (SS.mk 0 [1, 7] false) [65, 226] = ((SS.mk 0 [1, 7, 65, 226] false), []) := rfl
theorem aw19p : rtuP 0 [1, 7, 65, 226] = (⟨1, 0, awM7⟩, 0) := by decide +kernel
theorem aw19c : SS.tick (SS.mk 0 [1, 7, 65, 226] false) = ((SS.mk 0 [] false), [⟨0, ⟨1, 0, awM7⟩⟩]) := by
  unfold SS.tick
  rw [if_neg (by decide), aw19p]
set_option maxRecDepth 100000 in
set_option maxHeartbeats 4000000 in
theorem awake19 {w : World} : Calls Tryz.prog 17 #[] w (PVal (.bool true) w) := by
 refine en 62 Tryz.func17 rfl <| sg <| Pl 1 <| ng <| L0 <| Oc <| e3 srtu_new0 fun g10 w11 hg12 hA13 hu14 => Pl 1 <| nt <| sq <| sq <| ?_
 refine go <| Pl 2 <| nt <| c0 <| skn <| sg <| Pl 1 <| L0 <| Olt (m := 2) (e := 5) #[.int .u8 1, .int .u8 7] fun g15 w16 hg17 B18 hu19 => ?_
 have ow20 := litB hg17 (xs := [1, 7]) (by as_aux_lemma => kernel_rfl) (rng_cons (by omega) (rng_cons (by omega) rng_nil)) (by (try simp only [List.length_cons, List.length_nil]); omega) B18
 have r21 := SrtuAt.old hA13 hu19
 refine L0 <| Oc <| so3 (srtu_feed_x aw19a r21 (ow20).rd (by decide)) fun A30 cp31 w25 rd34 hl32 hm33 hA28 hu29 => Pl 1 <| ng <| Pl 1 <| L0 <| Olt (m := 2) (e := 5) #[.int .u8 65, .int .u8 226] fun g35 w36 hg37 B38 hu39 => ?_
 have ow40 := litB hg37 (xs := [65, 226]) (by as_aux_lemma => kernel_rfl) (rng_cons (by omega) (rng_cons (by omega) rng_nil)) (by (try simp only [List.length_cons, List.length_nil]); omega) B38
 have r41 := SrtuAt.old hA28 hu39
 refine L0 <| Oc <| so3 (srtu_feed_x aw19b r41 (ow40).rd (by decide)) fun A50 cp51 w45 rd54 hl52 hm53 hA48 hu49 => Pl 1 <| ng <| Pl 1 <| L0 <| Oc <| m1 (srtu_held hA48) fun w55 hu56 => Pl 1 <| ng <| Pl 1 <| ?_
 have r57 := SrtuAt.old hA48 hu56
 refine L0 <| Oc <| so3 (srtu_tick_x aw19c r57) fun A66 cp67 w61 rd70 hl68 hm69 hA64 hu65 => Pl 1 <| nt <| sq <| sg <| Pl 3 <| nt <| c0 <| skn <| sq <| ?_
 refine go <| Pl 12 <| x64 (RdE.elt (rd70).rd 0 (by decide) (Ev.bad 0)) fun b71 o72 cl73 t74 fr75 s76 hA77 hb78 hv79 hs80 => L1 <| Oixs 25 1 0 hA77 (by omega) <| Pl 1 <| L1 <| Old (p := ⟨b71, o72 + 0 * 25 + 0, none⟩) (v := .int .i64 0) (el_at hb78 hs80 0 (by kernel_rfl) (by decide)) <| Pl 4 <| L1 <| Oixs 25 1 0 hA77 (by omega) <| Pl 3 <| L1 <| Old (p := ⟨b71, o72 + 0 * 25 + 1 + 0 + 0, none⟩) (v := .int .u8 1) (el_at hb78 hs80 1 (by kernel_rfl) (by decide)) <| Pl 4 <| L1 <| Oixs 25 1 0 hA77 (by omega) <| Pl 3 <| L1 <| Old (p := ⟨b71, o72 + 0 * 25 + 1 + 2 + 0, none⟩) (v := .int .u8 7) (el_at hb78 hs80 3 (by kernel_rfl) (by decide)) <| ?_
 refine Pl 4 <| L1 <| Oc <| m1 (srtu_held hA64) fun w81 hu82 => Pl 3 <| nt <| rt <| rr (.bool true) <| ?_
 have U83 := ut0 hu14 hu19
 have U84 := u1 U83 hu29 (nr hg12)
 have U85 := ut0 U84 hu39
 have U86 := u1 U85 hu49 (nr hg12)
 have U87 := ut0 U86 hu56
 have U88 := u1 U87 hu65 (nr hg12)
 have U89 := ut0 U88 hu82
 exact ⟨rfl, U89⟩
end Go.Proofs.YtgjlbabefogepaaGreat
