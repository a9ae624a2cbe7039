/- Contracts of functions, part KB1. -/
import Derived.Test.YtbaeecmamacphaaKA1
import Derived.Test.YtbaeecmamacphaaKA2
import Derived.Test.YtbaeecmamacphaaKA3
import Derived.Test.YtbaeecmamacphaaKA4
import Derived.Test.YtbaeecmamacphaaKA5
import Derived.Laws.StructEq
set_option linter.unusedVariables false
set_option linter.unusedSimpArgs false
namespace Go.Proofs.Ytbaeecmamacphaa
open Go.RowKit
structure Frm where
  unit : Int
  tid : Int
  msg : Msg
def Frm.zero : Frm := ⟨0, 0, Msg.zero⟩
def FrmRd (m : Bool) (w : World) (cs : Array Value) (F : Frm) : Prop := ∃ c : Array Value, cs = #[.int .u8 F.unit, .int .u16 F.tid] ++ c ∧ MsgRd m w c.toList F.msg ∧ B8 F.unit ∧ B16 F.tid
def PFrm (res : Frm × Int) (w : World) (e : Ending) (w' : World) : Prop := ∃ cs, e = .returned (.tuple #[.agg cs, .int .i64 res.2]) ∧ FrmRd true w' cs res.1 ∧ Upd [] w w'
theorem pf_eq {x y : Frm × Int} (h : x = y) {w : World} {e : Ending} {w' : World} (k : PFrm y w e w') : PFrm x w e w' := by rw [h]; exact k
def frmZ : Array Value := #[.int .u8 0, .int .u16 0, .int .u8 0, .int .u8 0, .int .u16 0, .int .u16 0, .int .u16 0, .int .u16 0, .int .u16 0, .int .u16 0, .int .u16 0, .int .u16 0, .int .u16 0, .int .u16 0, .slice none 0 0, .slice none 0 0, .slice none 0 0, .slice none 0 0, .int .u8 0, .int .u8 0, .int .u8 0, .int .u8 0, .int .u8 0, .slice none 0 0]
theorem bad_frm {x : Int} {w W : World} (hu : Upd [] w W) : PFrm (Frm.zero, x) w (.returned (.tuple #[.agg frmZ, .int .i64 x])) W := ⟨_, rfl, ⟨msgZ, (by kernel_rfl), MsgRd.zero .., (show (0 : Int) ≤ 0 ∧ (0 : Int) < 256 from by decide), (show (0 : Int) ≤ 0 ∧ (0 : Int) < 65536 from by decide)⟩, hu⟩
def mb0 (b : List Int) : Cur := ⟨b, false, 0⟩
def mb1 (b : List Int) : Cur := (mb0 b).wordsC 1
def mb2 (b : List Int) : Cur := (mb1 b).wordsC 1
def mb3 (b : List Int) : Cur := (mb2 b).wordsC 1
def mb4 (b : List Int) : Cur := (mb3 b).bytesC 1
def mbBody (b : List Int) : List Int := (mb4 b).bytesR (((mb4 b).l.length : Nat) : Int)
def frmOf (u t : Int) : Msg × Int → Frm × Int
  | (M, E) => if E != 0 then (Frm.zero, E) else (⟨u, t, M⟩, 0)
def mbapP (dir : Int) (b : List Int) : Frm × Int :=
  if dir != 0 && dir != 1 then (Frm.zero, 1)
  else if decide ((b.length : Int) < 8) then (Frm.zero, 2)
  else if decide (260 < (b.length : Int)) then (Frm.zero, 3)
  else if (mb1 b).wordV != 0 then (Frm.zero, 13)
  else if (mb2 b).wordV != (b.length : Int) - 6 then (Frm.zero, 5)
  else frmOf (mb3 b).byteV (mb0 b).wordV (pduP dir (mbBody b))
set_option maxRecDepth 100000 in
set_option maxHeartbeats 4000000 in
theorem mbap_parse0 {m : Bool} {A : Option Addr} {cp : Nat} {b : List Int} {w : World} {dir : Int} (hsl : RdB m w (.slice A b.length cp) b) (hb : b.length ≤ 1048576) :
    Calls Try.prog 21 #[.int .i64 dir, .slice A b.length cp] w (PFrm (mbapP dir b) w) := by
 have hln : (b.length : Int) ≤ 1048576 := by omega
 refine en 75 Try.func21 rfl <| sg <| L0 <| Oal #[.int .u8 0, .int .u16 0, .int .u8 0, .int .u8 0, .int .u16 0, .int .u16 0, .int .u16 0, .int .u16 0, .int .u16 0, .int .u16 0, .int .u16 0, .int .u16 0, .int .u16 0, .int .u16 0, .slice none 0 0, .slice none 0 0, .slice none 0 0, .slice none 0 0, .int .u8 0, .int .u8 0, .int .u8 0, .int .u8 0, .int .u8 0, .slice none 0 0] fun g10 w11 hg12 B13 hu14 => Pl 1 <| nt <| sq <| bk <| sg <| Pl 3 <| cu 3 [17] 20 (((dir != 0) && (dir != 1))) (fun K K16 => ?_) ?_
 refine bl 17 ((dir != 0)) (fun q15 => ?_) (fun q15 => ?_)
 have q15p := ne_of_bnei q15
 exact Pl 3 <| ce K16 (dir != 1) (by rw [q15]; rfl)
 have q15p := eq_of_bnei q15
 exact Pl 3 <| ce K16 false (by rw [q15]; rfl)
 refine Pl 1 <| nt <| cb (((dir != 0) && (dir != 1))) (fun q17 => ?_) (fun q17 => ?_)
 have q17a := (and_t q17).1
 have q17b := (and_t q17).2
 have q17ap := ne_of_bnei q17a
 have q17bp := ne_of_bnei q17b
 refine sg <| Pl 1 <| L0 <| Osw B13 #[.int .u8 0, .int .u16 0, .int .u8 0, .int .u8 0, .int .u16 0, .int .u16 0, .int .u16 0, .int .u16 0, .int .u16 0, .int .u16 0, .int .u16 0, .int .u16 0, .int .u16 0, .int .u16 0, .slice none 0 0, .slice none 0 0, .slice none 0 0, .slice none 0 0, .int .u8 0, .int .u8 0, .int .u8 0, .int .u8 0, .int .u8 0, .slice none 0 0] fun w18 B19 hu20 => Pl 1 <| nt <| rt <| br <| tr <| rct B19 (.int .i64 1) <| ?_
 have hs : mbapP dir b = (Frm.zero, 1) := by
   unfold mbapP
   (try simp only [q17, q17a, q17b, bs, if_true, if_false, decide_true, decide_false, frmOf, mb4, mb3, mb2, mb1, mb0, reduceIte])
   all_goals rfl
 refine pf_eq hs ?_
 have U21 := u1 hu14 hu20 (nr hg12)
 exact bad_frm U21
 refine sg <| Pl 4 <| nt <| cb ((decide (((b.length : Nat) : Int) < 8))) (fun q22 => ?_) (fun q22 => ?_)
 have q22p := of_decide_eq_true q22
 refine sg <| Pl 1 <| L0 <| Osw B13 #[.int .u8 0, .int .u16 0, .int .u8 0, .int .u8 0, .int .u16 0, .int .u16 0, .int .u16 0, .int .u16 0, .int .u16 0, .int .u16 0, .int .u16 0, .int .u16 0, .int .u16 0, .int .u16 0, .slice none 0 0, .slice none 0 0, .slice none 0 0, .slice none 0 0, .int .u8 0, .int .u8 0, .int .u8 0, .int .u8 0, .int .u8 0, .slice none 0 0] fun w23 B24 hu25 => Pl 1 <| nt <| rt <| br <| tr <| rct B24 (.int .i64 2) <| ?_
 have hs : mbapP dir b = (Frm.zero, 2) := by
   unfold mbapP
   (try simp only [q17, q22, bs, if_true, if_false, decide_true, decide_false, frmOf, mb4, mb3, mb2, mb1, mb0, reduceIte])
   all_goals rfl
 refine pf_eq hs ?_
 have U26 := u1 hu14 hu25 (nr hg12)
 exact bad_frm U26
 have q22p := of_decide_eq_false q22
 refine sg <| Pl 4 <| nt <| cb ((decide (260 < ((b.length : Nat) : Int)))) (fun q27 => ?_) (fun q27 => ?_)
 have q27p := of_decide_eq_true q27
 refine sg <| Pl 1 <| L0 <| Osw B13 #[.int .u8 0, .int .u16 0, .int .u8 0, .int .u8 0, .int .u16 0, .int .u16 0, .int .u16 0, .int .u16 0, .int .u16 0, .int .u16 0, .int .u16 0, .int .u16 0, .int .u16 0, .int .u16 0, .slice none 0 0, .slice none 0 0, .slice none 0 0, .slice none 0 0, .int .u8 0, .int .u8 0, .int .u8 0, .int .u8 0, .int .u8 0, .slice none 0 0] fun w28 B29 hu30 => Pl 1 <| nt <| rt <| br <| tr <| rct B29 (.int .i64 3) <| ?_
 have hs : mbapP dir b = (Frm.zero, 3) := by
   unfold mbapP
   (try simp only [q17, q22, q27, bs, if_true, if_false, decide_true, decide_false, frmOf, mb4, mb3, mb2, mb1, mb0, reduceIte])
   all_goals rfl
 refine pf_eq hs ?_
 have U31 := u1 hu14 hu30 (nr hg12)
 exact bad_frm U31
 have q27p := of_decide_eq_false q27
 refine sk <| bn <| tn <| sg <| Pl 1 <| ?_
 have r32 := RdB.old hsl hu14
 refine L0 <| Oc <| e3 (new_any r32 (by omega)) fun g34 w33 hg35 hc36 hu37 => Pl 1 <| ng <| Pl 1 <| ng <| Pl 2 <| L0 <| Ocv #[] #[] (args := #[.pointer (some ⟨g34, 0, none⟩)]) <| m3 (word_any hc36) fun w38 hc39 hu40 hr41 => Pl 2 <| L0 <| Ocv #[] #[] (args := #[.pointer (some ⟨g34, 0, none⟩)]) <| m3 (word_any hc39) fun w42 hc43 hu44 hr45 => ?_
 refine ab hc43 fun x46 ex47 hc48 => ?_
 refine Pl 2 <| L0 <| Ocv #[] #[] (args := #[.pointer (some ⟨g34, 0, none⟩)]) <| m3 (word_any hc48) fun w49 hc50 hu51 hr52 => Pl 3 <| nt <| sq <| bk <| sg <| Pl 3 <| nt <| ?_
 have U53 := ut0 hu14 hu37
 have U54 := u1 U53 hu40 (ni hu14.size hg35)
 have U55 := u1 U54 hu44 (ni hu14.size hg35)
 have U56 := u1 U55 hu51 (ni hu14.size hg35)
 refine cb (((((Cur.mk b false 0).wordsC 1).wordV) != 0)) (fun q57 => ?_) (fun q57 => ?_)
 have q57p := ne_of_bnei q57
 refine sg <| Pl 1 <| ?_
 have U58 := u1 hu37 hu40 (nr hg35)
 have U59 := u1 U58 hu44 (nr hg35)
 have U60 := u1 U59 hu51 (nr hg35)
 have r61 := ub U60 B13
 refine L0 <| Osw r61 #[.int .u8 0, .int .u16 0, .int .u8 0, .int .u8 0, .int .u16 0, .int .u16 0, .int .u16 0, .int .u16 0, .int .u16 0, .int .u16 0, .int .u16 0, .int .u16 0, .int .u16 0, .int .u16 0, .slice none 0 0, .slice none 0 0, .slice none 0 0, .slice none 0 0, .int .u8 0, .int .u8 0, .int .u8 0, .int .u8 0, .int .u8 0, .slice none 0 0] fun w62 B63 hu64 => Pl 1 <| nt <| rt <| br <| tr <| rct B63 (.int .i64 13) <| ?_
 subst ex47
 have hs : mbapP dir b = (Frm.zero, 13) := by
   unfold mbapP
   (try simp only [q17, q22, q27, q57, bs, if_true, if_false, decide_true, decide_false, frmOf, mb4, mb3, mb2, mb1, mb0, reduceIte])
   all_goals rfl
 refine pf_eq hs ?_
 have U65 := u1 U56 hu64 (nr hg12)
 exact bad_frm U65
 have q57p := eq_of_bnei q57
 refine sg <| Pl 1 <| L0 <| Oi x46.wordV <| Pl 2 <| L0 <| Oi (((b.length : Nat) : Int) - 6) <| Pl 2 <| nt <| cb ((x46.wordV != (((b.length : Nat) : Int) - 6))) (fun q66 => ?_) (fun q66 => ?_)
 have q66p := ne_of_bnei q66
 refine sg <| Pl 1 <| ?_
 have U67 := u1 hu37 hu40 (nr hg35)
 have U68 := u1 U67 hu44 (nr hg35)
 have U69 := u1 U68 hu51 (nr hg35)
 have r70 := ub U69 B13
 refine L0 <| Osw r70 #[.int .u8 0, .int .u16 0, .int .u8 0, .int .u8 0, .int .u16 0, .int .u16 0, .int .u16 0, .int .u16 0, .int .u16 0, .int .u16 0, .int .u16 0, .int .u16 0, .int .u16 0, .int .u16 0, .slice none 0 0, .slice none 0 0, .slice none 0 0, .slice none 0 0, .int .u8 0, .int .u8 0, .int .u8 0, .int .u8 0, .int .u8 0, .slice none 0 0] fun w71 B72 hu73 => Pl 1 <| nt <| rt <| br <| tr <| rct B72 (.int .i64 5) <| ?_
 subst ex47
 have hs : mbapP dir b = (Frm.zero, 5) := by
   unfold mbapP
   (try simp only [q17, q22, q27, q57, q66, bs, if_true, if_false, decide_true, decide_false, frmOf, mb4, mb3, mb2, mb1, mb0, reduceIte])
   all_goals rfl
 refine pf_eq hs ?_
 have U74 := u1 U56 hu73 (nr hg12)
 exact bad_frm U74
 have q66p := eq_of_bnei q66
 refine sk <| bn <| tn <| sg <| Pl 1 <| L0 <| Oc <| m3 (byte_any hc50) fun w75 hc76 hu77 hr78 => Pl 1 <| ng <| Pl 3 <| L0 <| Oc <| mq (left_any hc76) <| ?_
 have hl79 := CurAt.len hc76
 refine L0 <| Oc <| sr3 (bytes_any (n := ((((x46.wordsC 1).bytesC 1).l.length : Nat) : Int)) hc76) fun A89 cp90 w80 rd93 hl91 hm92 hc83 hu84 => ?_
 have hlb85 := Nat.le_trans (Cur.bytesR_le ((x46.wordsC 1).bytesC 1) ((((x46.wordsC 1).bytesC 1).l.length : Nat) : Int)) (CurAt.len hc76)
 refine ab hc83 fun x86 ex87 hc88 => ?_
 obtain ⟨M94, E95, hX96⟩ : ∃ M E, pduP dir (((x46.wordsC 1).bytesC 1).bytesR ((((x46.wordsC 1).bytesC 1).l.length : Nat) : Int)) = (M, E) := ⟨_, _, rfl⟩
 have hp97 := pdu_parse (dir := dir) (w := w80) rd93 (by omega)
 rw [hX96] at hp97
 refine L0 <| Oc <| e2 hp97 fun cs99 w98 hM100 hu102 => ?_
 have hM101 := hM100
 obtain ⟨v105, v106, v107, v108, v109, h103, h110, h111, h112, h113, h114, hR104⟩ := hM101
 obtain rfl : cs99 = (msgCells M94 v105 v106 v107 v108 v109).toArray := by apply Array.toList_inj.1; simpa using h103
 obtain ⟨A115, k116, rfl, _, _⟩ := h110.shape
 obtain ⟨A117, k118, rfl, _, _⟩ := h111.shape
 obtain ⟨A119, k120, rfl, _, _⟩ := h112.shape
 obtain ⟨A121, k122, rfl, _, _⟩ := h113.shape
 obtain ⟨A123, k124, rfl, _, _⟩ := h114.shape
 refine Pl 3 <| L0 <| Oal mZ fun g125 w126 hg127 B128 hu129 => L0 <| Osw B128 (mG M94.code M94.fail M94.addr M94.count M94.value M94.and_ M94.or_ M94.addr2 M94.sub M94.status M94.events M94.messages (.slice A115 M94.words.length k116) (.slice A117 M94.bits.length k118) (.slice A119 M94.data.length k120) (.slice A121 M94.recs.length k122) M94.mei M94.kind M94.level M94.more M94.next (.slice A123 M94.objects.length k124)) fun w130 B131 hu132 => Pl 1 <| nt <| sq <| sg <| Pl 2 <| nt <| ?_
 have U133 := u1 U56 hu77 (ni hu14.size hg35)
 have U134 := u1 U133 hu84 (ni hu14.size hg35)
 have U135 := ut0 U134 hu102
 have U136 := ut0 U135 hu129
 have U137 := u1 U136 hu132 (ni U135.size hg127)
 refine cb ((E95 != 0)) (fun q138 => ?_) (fun q138 => ?_)
 have q138p := ne_of_bnei q138
 refine sg <| Pl 2 <| ?_
 have U139 := u1 hu37 hu40 (nr hg35)
 have U140 := u1 U139 hu44 (nr hg35)
 have U141 := u1 U140 hu51 (nr hg35)
 have U142 := u1 U141 hu77 (nr hg35)
 have U143 := u1 U142 hu84 (nr hg35)
 have U144 := ut0 U143 hu102
 have U145 := ut0 U144 hu129
 have U146 := u1 U145 hu132 (ni U144.size hg127)
 have r147 := ub U146 B13
 refine L0 <| Osw r147 #[.int .u8 0, .int .u16 0, .int .u8 0, .int .u8 0, .int .u16 0, .int .u16 0, .int .u16 0, .int .u16 0, .int .u16 0, .int .u16 0, .int .u16 0, .int .u16 0, .int .u16 0, .int .u16 0, .slice none 0 0, .slice none 0 0, .slice none 0 0, .slice none 0 0, .int .u8 0, .int .u8 0, .int .u8 0, .int .u8 0, .int .u8 0, .slice none 0 0] fun w148 B149 hu150 => Pl 1 <| nt <| rt <| tr <| rct B149 (.int .i64 E95) <| ?_
 subst ex87 ex47
 have hX2 : pduP dir (mbBody b) = (M94, E95) := hX96
 have hs : mbapP dir b = (Frm.zero, E95) := by
   unfold mbapP
   (try simp only [q17, q22, q27, q57, q66, q138, bs, if_true, if_false, decide_true, decide_false, frmOf, mb4, mb3, mb2, mb1, mb0, hX2, reduceIte])
   all_goals rfl
 refine pf_eq hs ?_
 have U151 := u1 U137 hu150 (nr hg12)
 exact bad_frm U151
 have q138p := eq_of_bnei q138
 refine skn <| sg <| Pl 3 <| L0 <| Olw B131 <| Pl 1 <| ?_
 have U152 := u1 hu37 hu40 (nr hg35)
 have U153 := u1 U152 hu44 (nr hg35)
 have U154 := u1 U153 hu51 (nr hg35)
 have U155 := u1 U154 hu77 (nr hg35)
 have U156 := u1 U155 hu84 (nr hg35)
 have U157 := ut0 U156 hu102
 have U158 := ut0 U157 hu129
 have U159 := u1 U158 hu132 (ni U157.size hg127)
 have r160 := ub U159 B13
 refine L0 <| Osw r160 #[.int .u8 ((x46.wordsC 1).byteV), .int .u16 ((Cur.mk b false 0).wordV), .int .u8 M94.code, .int .u8 M94.fail, .int .u16 M94.addr, .int .u16 M94.count, .int .u16 M94.value, .int .u16 M94.and_, .int .u16 M94.or_, .int .u16 M94.addr2, .int .u16 M94.sub, .int .u16 M94.status, .int .u16 M94.events, .int .u16 M94.messages, .slice A115 M94.words.length k116, .slice A117 M94.bits.length k118, .slice A119 M94.data.length k120, .slice A121 M94.recs.length k122, .int .u8 M94.mei, .int .u8 M94.kind, .int .u8 M94.level, .int .u8 M94.more, .int .u8 M94.next, .slice A123 M94.objects.length k124] fun w161 B162 hu163 => Pl 1 <| nt <| rt <| rct B162 (.int .i64 0) <| ?_
 subst ex87 ex47
 have hX2 : pduP dir (mbBody b) = (M94, E95) := hX96
 have hs : mbapP dir b = (⟨((((Cur.mk b false 0).wordsC 1).wordsC 1).wordsC 1).byteV, (Cur.mk b false 0).wordV, M94⟩, 0) := by
   unfold mbapP
   (try simp only [q17, q22, q27, q57, q66, q138, bs, if_true, if_false, decide_true, decide_false, frmOf, mb4, mb3, mb2, mb1, mb0, hX2, reduceIte])
   all_goals rfl
 refine pf_eq hs ?_
 have U164 := u1 hu129 hu132 (nr hg127)
 have U165 := u1 (Upd.mono (S' := [g10]) U164 all0) hu163 im
 have r166 := ub U157 B13
 have r167 := MsgRd.upd hM100 U165 (safe_cons (safe1 r166 (by decide)) safe0)
 have U168 := u1 U137 hu163 (nr hg12)
 exact ⟨_, rfl, ⟨#[.int .u8 M94.code, .int .u8 M94.fail, .int .u16 M94.addr, .int .u16 M94.count, .int .u16 M94.value, .int .u16 M94.and_, .int .u16 M94.or_, .int .u16 M94.addr2, .int .u16 M94.sub, .int .u16 M94.status, .int .u16 M94.events, .int .u16 M94.messages, .slice A115 M94.words.length k116, .slice A117 M94.bits.length k118, .slice A119 M94.data.length k120, .slice A121 M94.recs.length k122, .int .u8 M94.mei, .int .u8 M94.kind, .int .u8 M94.level, .int .u8 M94.more, .int .u8 M94.next, .slice A123 M94.objects.length k124], (by as_aux_lemma => kernel_rfl), r167, b8 (by omega), b16 (by omega)⟩, U168⟩
theorem mbap_parse {m : Bool} {v : Value} {b : List Int} {w : World} {dir : Int} (h : RdB m w v b) (hb : b.length ≤ 1048576) : Calls Try.prog 21 #[.int .i64 dir, v] w (PFrm (mbapP dir b) w) := by
  obtain ⟨A, cp, rfl, _, _⟩ := h.shape
  exact mbap_parse0 h hb
open Go.RowKit
def mbapW (dir u t : Int) (M : Msg) : Option (List Int) :=
  match pduW dir M with
  | none => none
  | some l => some ((putW [t, 0, ((l.length : Int) + 1) % 65536] ++ [u]) ++ l)
theorem pduW_len {dir : Int} {M : Msg} {l : List Int} (h : pduW dir M = some l) : l.length ≤ 253 := by
  unfold pduW at h
  split at h
  · split at h
    · cases h
    · unfold refW at h
      split at h
      · cases h
      · split at h
        · cases h
        · injection h with h
          subst h
          simp only [List.length_cons, List.length_nil]
          omega
  · split at h
    · cases h
    · split at h
      · cases h
      · rename_i hl
        injection h with h
        subst h
        simp only [decide_eq_true_eq] at hl
        simp only [List.length_append, List.length_cons, List.length_nil]
        omega
set_option maxRecDepth 100000 in
set_option maxHeartbeats 4000000 in
theorem mbap_write {m : Bool} {cs : Array Value} {M : Msg} {w : World} {dir u t : Int} (h : MsgRd m w cs.toList M) (hf : MsgFew M) (hu : B8 u) (ht : B16 t) : Calls Try.prog 22 #[.int .i64 dir, .agg (#[.int .u8 u, .int .u16 t] ++ cs)] w (PWrite (mbapW dir u t M) w) := by
 have hM := h
 obtain ⟨hu1, hu2⟩ := hu
 obtain ⟨ht1, ht2⟩ := ht
 obtain ⟨vw, vb, vd, vr, vo, h0, hw, hbt, hd, hr, ho, hR⟩ := h
 obtain rfl : cs = (msgCells M vw vb vd vr vo).toArray := by apply Array.toList_inj.1; simpa using h0
 clear h0
 obtain ⟨Aw, kw, rfl, _, _⟩ := hw.shape
 obtain ⟨Ab, kb, rfl, _, _⟩ := hbt.shape
 obtain ⟨Ad, kd, rfl, _, _⟩ := hd.shape
 obtain ⟨Ar, kr, rfl, _, _⟩ := hr.shape
 obtain ⟨Ao, ko, rfl, _, _⟩ := ho.shape
 obtain ⟨q0, q1, q2, q3, q4, q5, q6, q7, q8, q9, q10, q11, q16, q17, q18, q19, q20⟩ := hR
 simp only [B8, B16] at q0 q1 q2 q3 q4 q5 q6 q7 q8 q9 q10 q11 q16 q17 q18 q19 q20
 refine en 35 Try.func22 rfl <| sg <| L0 <| Obx #[.int .u8 u, .int .u16 t, .int .u8 M.code, .int .u8 M.fail, .int .u16 M.addr, .int .u16 M.count, .int .u16 M.value, .int .u16 M.and_, .int .u16 M.or_, .int .u16 M.addr2, .int .u16 M.sub, .int .u16 M.status, .int .u16 M.events, .int .u16 M.messages, .slice Aw M.words.length kw, .slice Ab M.bits.length kb, .slice Ad M.data.length kd, .slice Ar M.recs.length kr, .int .u8 M.mei, .int .u8 M.kind, .int .u8 M.level, .int .u8 M.more, .int .u8 M.next, .slice Ao M.objects.length ko] fun g10 w11 hg12 B13 hu14 => Pl 2 <| ng <| Pl 2 <| L0 <| Ola B13 2 22 <| ?_
 rcases hwr : pduW dir M with _ | lw
 have r18 := MsgRd.old hM hu14
 have hw15 := pdu_write (dir := dir) r18 hf
 rw [hwr] at hw15
 refine L0 <| Oc <| m1 hw15 fun w16 hu17 => Pl 5 <| nt <| sq <| sg <| Pl 2 <| nt <| c1 <| sg <| Pl 2 <| nl <| ?_
 refine tn <| rt <| tr <| rr (.tuple #[.slice none 0 0, .int .i64 1]) <| ?_
 have hs : mbapW dir u t M = none := by
   unfold mbapW
   (try simp only [hwr])
   all_goals rfl
 refine ns_eq hs ?_
 have U19 := ut0 hu14 hu17
 exact ⟨rfl, U19⟩
 have hlw := pduW_len hwr
 have r23 := MsgRd.old hM hu14
 have hw20 := pdu_write (dir := dir) r23 hf
 rw [hwr] at hw20
 refine L0 <| Oc <| so2 hw20 fun A26 cp27 w21 rd30 hl28 hm29 hu22 => Pl 5 <| nt <| sq <| sg <| Pl 2 <| nt <| c0 <| skn <| sq <| ?_
 refine go <| Pl 2 <| ?_
 have r31 := ub hu22 B13
 refine L0 <| Olb r31 1 <| Pl 2 <| L0 <| Oi (((lw.length : Nat) : Int) + 1) <| Pl 1 <| L0 <| Olt (m := 3) (e := 23) #[.int .u16 t, .int .u16 0, .int .u16 ((((lw.length : Nat) : Int) + 1) % 65536)] fun g32 w33 hg34 B35 hu36 => ?_
 have ow37 := litW hg34 (xs := [t, 0, ((((lw.length : Nat) : Int) + 1) % 65536)]) (by as_aux_lemma => kernel_rfl) (rng_cons (by omega) (rng_cons (by omega) (rng_cons (by omega) rng_nil))) (by (try simp only [List.length_cons, List.length_nil]); omega) B35
 refine L0 <| Oc <| so2 (put_any (xs := [t, 0, ((((lw.length : Nat) : Int) + 1) % 65536)]) (ow37).rd (by (try simp only [List.length_cons, List.length_nil]); omega)) fun A42 cp43 w38 rd46 hl44 hm45 hu41 => Pl 1 <| ng <| Pl 3 <| ?_
 have U47 := ut0 hu36 hu41
 have r48 := ub U47 r31
 refine L0 <| Olb r48 0 <| L0 <| Olt (m := 1) (e := 5) #[.int .u8 u] fun g49 w50 hg51 B52 hu53 => ?_
 have ow54 := litB hg51 (xs := [u]) (by as_aux_lemma => kernel_rfl) (rng_cons (by omega) rng_nil) (by (try simp only [List.length_cons, List.length_nil]); omega) B52
 have r55 := own_stay rd46 hu53 (fun x hx => not0) (fun _ _ h => h)
 refine L0 <| Oapp one_u8 (xs := (putW ([t, 0, ((((lw.length : Nat) : Int) + 1) % 65536)]))) (ys := ([u])) (.int .u8 0) 1 r55 (ow54).rd (by (try simp only [List.length_append, List.length_cons, List.length_nil, putW_length]); omega) (le hu41.size hu53.size) fun A56 cp57 w58 ho59 hu60 => Pl 1 <| ?_
 have U61 := ut0 U47 hu53
 have U62 := ut U61 hu60 (all_app (ob_new rd46 hu36.size) all0)
 have r63 := own_stay rd30 U62 (fun x hx => not0) (fun _ _ h => h)
 refine L0 <| Oapp one_u8 (xs := ((putW ([t, 0, ((((lw.length : Nat) : Int) + 1) % 65536)])) ++ [u])) (ys := lw) (.int .u8 0) 1 ho59 (r63).rd (by (try simp only [List.length_append, List.length_cons, List.length_nil, putW_length]); omega) (le (le hu41.size hu53.size) hu60.size) fun A64 cp65 w66 ho67 hu68 => Pl 2 <| nt <| rt <| rr (.tuple #[.slice A64 ((((putW ([t, 0, ((((lw.length : Nat) : Int) + 1) % 65536)])) ++ [u]) ++ lw).length) cp65, .int .i64 0]) <| ?_
 have hs : mbapW dir u t M = (some (((putW ([t, 0, ((((lw.length : Nat) : Int) + 1) % 65536)])) ++ [u]) ++ lw)) := by
   unfold mbapW
   (try simp only [hwr])
   all_goals rfl
 refine ns_eq hs ?_
 have U69 := ut0 hu14 hu22
 have U70 := ut0 U69 hu36
 have U71 := ut0 U70 hu41
 have U72 := ut0 U71 hu53
 have U73 := ut U72 hu60 (all_app (ob_new rd46 U70.size) all0)
 have U74 := ut U73 hu68 (all_app (ob_new ho59 U70.size) all0)
 exact ⟨_, rfl, (OwnG.weaken ho67 (le (le hu14.size hu22.size) hu36.size)), U74⟩
open Go.RowKit
deriving instance DecidableEq for Frm
def fcl (u t : Int) (M : Msg) (x : SL) : Array Value := #[.int .u8 u, .int .u16 t, .int .u8 M.code, .int .u8 M.fail, .int .u16 M.addr, .int .u16 M.count, .int .u16 M.value, .int .u16 M.and_, .int .u16 M.or_, .int .u16 M.addr2, .int .u16 M.sub, .int .u16 M.status, .int .u16 M.events, .int .u16 M.messages, .slice x.aw M.words.length x.kw, .slice x.ab M.bits.length x.kb, .slice x.ad M.data.length x.kd, .slice x.ar M.recs.length x.kr, .int .u8 M.mei, .int .u8 M.kind, .int .u8 M.level, .int .u8 M.more, .int .u8 M.next, .slice x.ao M.objects.length x.ko]
theorem fcl_eq (u t : Int) (M : Msg) (x : SL) : fcl u t M x = #[.int .u8 u, .int .u16 t] ++ mcl M x := by kernel_rfl
theorem mbap_parse_x {m : Bool} {v : Value} {b : List Int} {w : World} {dir : Int} {F : Frm} {E : Int} (hX : mbapP dir b = (F, E)) (h : RdB m w v b) (hb : b.length ≤ 1048576) : Calls Try.prog 21 #[.int .i64 dir, v] w (fun e w' => ∃ x, e = .returned (.tuple #[.agg (fcl F.unit F.tid F.msg x), .int .i64 E]) ∧ (MsgRd true w' (mcl F.msg x).toList F.msg ∧ (0 ≤ F.unit ∧ F.unit < 256) ∧ (0 ≤ F.tid ∧ F.tid < 65536)) ∧ Upd [] w w') := by
  refine (mbap_parse h hb).mono ?_
  rintro e w' ⟨cs, rfl, h1, h2⟩
  rw [hX] at h1 ⊢
  obtain ⟨c, rfl, h3, h4, h5⟩ := h1
  obtain ⟨x, rfl⟩ := mcl_of h3
  exact ⟨x, by rw [fcl_eq], ⟨h3, h4, h5⟩, h2⟩
theorem mbap_write_n {m : Bool} {x : SL} {M : Msg} {w : World} {dir u t : Int} (hX : mbapW dir u t M = none) (h : MsgRd m w (mcl M x).toList M) (hf : MsgFew M) (hu : 0 ≤ u ∧ u < 256) (ht : 0 ≤ t ∧ t < 65536) : Calls Try.prog 22 #[.int .i64 dir, .agg (fcl u t M x)] w (fun e w' => e = .returned (.tuple #[.slice none 0 0, .int .i64 1]) ∧ Upd [] w w') := by
  have := mbap_write (dir := dir) h hf hu ht
  rw [hX] at this
  rw [fcl_eq]
  exact this
theorem mbap_write_s {m : Bool} {x : SL} {M : Msg} {w : World} {dir u t : Int} {l : List Int} (hX : mbapW dir u t M = some l) (h : MsgRd m w (mcl M x).toList M) (hf : MsgFew M) (hu : 0 ≤ u ∧ u < 256) (ht : 0 ≤ t ∧ t < 65536) : Calls Try.prog 22 #[.int .i64 dir, .agg (fcl u t M x)] w (fun e w' => ∃ v, e = .returned (.tuple #[v, .int .i64 0]) ∧ OwnB w.heap.size w' v l ∧ Upd [] w w') := by
  have := mbap_write (dir := dir) h hf hu ht
  rw [hX] at this
  rw [fcl_eq]
  exact this
open Go.RowKit
theorem eqn_head (a b c d : Int) (w : World) : (Op.equalIn 10000 46 (.agg #[.int .u8 a, .int .u16 b]) (.agg #[.int .u8 c, .int .u16 d])).run Try.prog w = .ok ((a == c) && (b == d)) w := by
  have hS : Try.prog.underlying 46 = some (.struct (Try.prog.fieldsOf 46)) := by kernel_rfl
  have hp : Try.prog.stoodInHeld 46 = false := by kernel_rfl
  rw [show (10000 : Nat) = 9998 + 1 + 1 from rfl, run_equalIn_agg w (9998 + 1) 46 _ _ hS hp]
  simp only [Program.fieldsOf, Try.underlying46]
  have p0 : ∀ v : Int, (part 5 #[.int .u8 v, .int .u16 b] 0).run Try.prog w = .ok (.int .u8 v) w := fun v => by simp [part, isAgg, run_underlying Try.underlying5, Result.andThen]
  have p0' : ∀ v : Int, (part 5 #[.int .u8 v, .int .u16 d] 0).run Try.prog w = .ok (.int .u8 v) w := fun v => by simp [part, isAgg, run_underlying Try.underlying5, Result.andThen]
  have p1 : ∀ v u : Int, (part 23 #[.int .u8 u, .int .u16 v] 1).run Try.prog w = .ok (.int .u16 v) w := fun v u => by simp [part, isAgg, run_underlying Try.underlying23, Result.andThen]
  have e0 := run_equalIn_int (P := Try.prog) w 9998 5 .u8 _ a c Try.underlying5
  have e1 := run_equalIn_int (P := Try.prog) w 9998 23 .u16 _ b d Try.underlying23
  simp only [Op.eqFields, Sem.run_bind, p0, p0', p1, e0, e1, Result.andThen_ok, ne_eq, String.reduceEq, not_false_eq_true, if_true, Sem.run_ite]
  cases (a == c) <;> cases (b == d) <;> simp
theorem run_headeq {ev : Operand → Value} {o : Oper} {x y : Operand} {t : TypeId} (a b c d : Int) {v : Bool} {w : World} (ho : o.op = .binOp .eql 46 x y t)
    (hx : ev x = .agg #[.int .u8 a, .int .u16 b]) (hy : ev y = .agg #[.int .u8 c, .int .u16 d]) (hv : ((a == c) && (b == d)) = v) : (execOp ev o).run Try.prog w = .ok (.value (.bool v)) w := by
  subst hv
  have hg : (eqGuard .eql 46 x y (.agg #[.int .u8 a, .int .u16 b]) (.agg #[.int .u8 c, .int .u16 d])).run Try.prog w = .ok () w := run_eqGuard_agg w _ _ _ _ _ _ (by kernel_rfl)
  unfold execOp
  simp only [ho, hx, hy, Sem.run_bind, hg, Result.andThen_ok, run_eql_struct, eqn_head, Sem.run_pure]
theorem run_headne {ev : Operand → Value} {o : Oper} {x y : Operand} {t : TypeId} (a b c d : Int) {v : Bool} {w : World} (ho : o.op = .binOp .neq 46 x y t)
    (hx : ev x = .agg #[.int .u8 a, .int .u16 b]) (hy : ev y = .agg #[.int .u8 c, .int .u16 d]) (hv : (!((a == c) && (b == d))) = v) : (execOp ev o).run Try.prog w = .ok (.value (.bool v)) w := by
  subst hv
  have hg : (eqGuard .neq 46 x y (.agg #[.int .u8 a, .int .u16 b]) (.agg #[.int .u8 c, .int .u16 d])).run Try.prog w = .ok () w := run_eqGuard_agg w _ _ _ _ _ _ (by kernel_rfl)
  unfold execOp
  simp only [ho, hx, hy, Sem.run_bind, hg, Result.andThen_ok, run_neq_struct, eqn_head, Sem.run_pure]
open Go.RowKit
def awM7 : Msg := { Msg.zero with code := 7 }
theorem aw7rd (w : World) : MsgRd true w (mC 7).toList awM7 := ⟨nilS, nilS, nilS, nilS, nilS, rfl, RdG.nil .., RdG.nil .., RdG.nil .., RdG.nil .., RdG.nil .., { MsgRng.zero with code := (by decide : (0 : Int) ≤ 7 ∧ (7 : Int) < 256) }⟩
theorem aw7few : MsgFew awM7 := ⟨by decide, by decide, by decide, by decide, (fun r h => nomatch h), by decide, (fun r h => nomatch h)⟩
theorem aw17w : mbapW 0 1 9 awM7 = some [0, 9, 0, 0, 0, 2, 1, 7] := by decide +kernel
theorem aw17p : mbapP 0 [0, 9, 0, 0, 0, 2, 1, 7] = (⟨1, 9, awM7⟩, 0) := by decide +kernel
theorem aw17W {w : World} : Calls Try.prog 22 #[.int .i64 0, .agg #[.int .u8 1, .int .u16 9, .int .u8 7, .int .u8 0, .int .u16 0, .int .u16 0, .int .u16 0, .int .u16 0, .int .u16 0, .int .u16 0, .int .u16 0, .int .u16 0, .int .u16 0, .int .u16 0, .slice none 0 0, .slice none 0 0, .slice none 0 0, .slice none 0 0, .int .u8 0, .int .u8 0, .int .u8 0, .int .u8 0, .int .u8 0, .slice none 0 0]] w (fun e w' => ∃ v, e = .returned (.tuple #[v, .int .i64 0]) ∧ OwnB w.heap.size w' v [0, 9, 0, 0, 0, 2, 1, 7] ∧ Upd [] w w') := by
  have h := mbap_write (dir := 0) (u := 1) (t := 9) (aw7rd w) aw7few (show (0 : Int) ≤ 1 ∧ (1 : Int) < 256 from by decide) (show (0 : Int) ≤ 9 ∧ (9 : Int) < 65536 from by decide)
  rw [aw17w] at h
  rw [show #[.int .u8 1, .int .u16 9, .int .u8 7, .int .u8 0, .int .u16 0, .int .u16 0, .int .u16 0, .int .u16 0, .int .u16 0, .int .u16 0, .int .u16 0, .int .u16 0, .int .u16 0, .int .u16 0, .slice none 0 0, .slice none 0 0, .slice none 0 0, .slice none 0 0, .int .u8 0, .int .u8 0, .int .u8 0, .int .u8 0, .int .u8 0, .slice none 0 0] = #[.int .u8 1, .int .u16 9] ++ mC 7 from by kernel_rfl]
  exact h
set_option maxRecDepth 100000 in
set_option maxHeartbeats 4000000 in
theorem awake17 {w : World} : Calls Try.prog 20 #[] w (PVal (.bool true) w) := by
 refine en 40 Try.func20 rfl <| sg <| Pl 1 <| ng <| Pl 3 <| L0 <| Oc <| so2 (@aw17W w) fun A14 cp15 w10 rd18 hl16 hm17 hu13 => Pl 5 <| nt <| sq <| ?_
 refine go <| Pl 1 <| L0 <| Oc <| e2 (mbap_parse_x aw17p (rd18).rd (by decide)) fun x19 w20 hx25 hu24 => ?_
 obtain ⟨hM21, hF22, hF23⟩ := hx25
 refine Pl 3 <| L0 <| Oal #[.int .u8 0, .int .u16 0, .int .u8 0, .int .u8 0, .int .u16 0, .int .u16 0, .int .u16 0, .int .u16 0, .int .u16 0, .int .u16 0, .int .u16 0, .int .u16 0, .int .u16 0, .int .u16 0, .slice none 0 0, .slice none 0 0, .slice none 0 0, .slice none 0 0, .int .u8 0, .int .u8 0, .int .u8 0, .int .u8 0, .int .u8 0, .slice none 0 0] fun g26 w27 hg28 B29 hu30 => L0 <| Osw B29 #[.int .u8 1, .int .u16 9, .int .u8 7, .int .u8 0, .int .u16 0, .int .u16 0, .int .u16 0, .int .u16 0, .int .u16 0, .int .u16 0, .int .u16 0, .int .u16 0, .int .u16 0, .int .u16 0, .slice x19.aw awM7.words.length x19.kw, .slice x19.ab awM7.bits.length x19.kb, .slice x19.ad awM7.data.length x19.kd, .slice x19.ar awM7.recs.length x19.kr, .int .u8 0, .int .u8 0, .int .u8 0, .int .u8 0, .int .u8 0, .slice x19.ao awM7.objects.length x19.ko] fun w31 B32 hu33 => Pl 1 <| ng <| Pl 8 <| ?_
 have U34 := ut0 hu24 hu30
 have U35 := u1 U34 hu33 (ni hu24.size hg28)
 have r36 := own_stay rd18 U35 (fun x hx => not0) (fun _ _ h => h)
 refine L1 <| Or_ (.string (strOfNums ([0, 9, 0, 0, 0, 2, 1, 7]))) (run_convB (A := A14) (n := [0, 9, 0, 0, 0, 2, 1, 7].length) (c := cp15) rfl (by kernel_rfl) Try.underlying22 Try.underlying5 Try.underlying9 (r36).rd) <| L1 <| Or_ (.bool true) (run_strq (a := (strOfNums ([0, 9, 0, 0, 0, 2, 1, 7]))) (b := ⟨#[0, 9, 0, 0, 0, 2, 1, 7]⟩) rfl (by kernel_rfl) (by kernel_rfl) (str_lit rfl (by decide))) <| Pl 3 <| L1 <| Ola B32 0 2 <| Pl 1 <| L1 <| Or_ (.bool true) (run_headeq 1 9 1 9 rfl (by kernel_rfl) (by kernel_rfl) (by decide)) <| Pl 4 <| L1 <| Olb B32 2 <| Pl 3 <| nt <| rt <| rr (.bool true) <| ?_
 have U37 := ut0 hu13 hu24
 have U38 := ut0 U37 hu30
 have U39 := u1 U38 hu33 (ni U37.size hg28)
 exact ⟨rfl, U39⟩
end Go.Proofs.Ytbaeecmamacphaa
namespace Go.Proofs.Ytbaeecmamacphaa
def Byt (C : Cur) : Prop := ∀ x, x ∈ C.l → 0 ≤ x ∧ x < 256
theorem nd_ok {C : Cur} {ok : Bool} {x : Int} (hx : x ≠ 0) (h : (C.need ok x).e = 0) : C.e = 0 ∧ ok = true := by
  unfold Cur.need at h
  split at h
  · exact absurd h hx
  · rename_i hh
    refine ⟨h, ?_⟩
    cases ok
    · exact absurd ⟨h, rfl⟩ hh
    · rfl
theorem by_ok {C : Cur} {n : Int} (h : (C.bytesC n).e = 0) : C.e = 0 ∧ C.l = C.bytesR n ++ (C.bytesC n).l ∧ ((C.bytesR n).length : Int) = n := by
  unfold Cur.bytesC at h ⊢
  unfold Cur.bytesR
  split at h
  · exfalso
    unfold Cur.need at h
    split at h
    · cases h
    · rename_i hh
      exact hh ⟨h, rfl⟩
  · rename_i hf
    rw [if_neg hf, if_neg hf]
    refine ⟨h, (List.take_append_drop _ _).symm, ?_⟩
    unfold Cur.fails at hf
    simp only [Bool.or_eq_true, decide_eq_true_eq, not_or] at hf
    rw [List.length_take]
    omega
theorem putW_takeW : ∀ (l : List Int), l.length % 2 = 0 → (∀ x, x ∈ l → 0 ≤ x ∧ x < 256) → putW (takeW l) = l
  | [], _, _ => rfl
  | [_], h, _ => by simp at h
  | a :: b :: r, h, hr => by
    have ha := hr a (by simp)
    have hb := hr b (by simp)
    simp only [takeW, putW]
    rw [putW_takeW r (by simp at h; omega) (fun x hx => hr x (by simp [hx]))]
    congr 1
    · omega
    · congr 1
      omega
theorem wo_ok {C : Cur} {n : Int} (hr : Byt C) (h : (C.wordsC n).e = 0) : C.e = 0 ∧ C.l = putW (C.wordsR n) ++ (C.wordsC n).l ∧ ((C.wordsR n).length : Int) = n := by
  unfold Cur.wordsC at h ⊢
  unfold Cur.wordsR
  split at h
  · obtain ⟨_, _, h3⟩ := by_ok h
    omega
  · rename_i hb
    rw [if_neg hb, if_neg hb]
    obtain ⟨h1, h2, h3⟩ := by_ok h
    have h4 : (C.bytesR (2 * n)).length % 2 = 0 := by omega
    have h5 : ∀ x, x ∈ C.bytesR (2 * n) → 0 ≤ x ∧ x < 256 := fun x hx => hr x (by rw [h2]; exact List.mem_append_left _ hx)
    unfold wordTake
    rw [if_pos h4]
    refine ⟨h1, by rw [putW_takeW _ h4 h5]; exact h2, ?_⟩
    rw [takeW_length]
    omega
def Eat (C : Cur) (l : List Int) (C' : Cur) : Prop := Byt C → Byt C' ∧ (C'.e = 0 → C.e = 0 ∧ C.l = l ++ C'.l)
theorem Eat.trans {A B C : Cur} {l m : List Int} (h : Eat A l B) (k : Eat B m C) : Eat A (l ++ m) C := fun hr => by
  obtain ⟨h1, h2⟩ := h hr
  obtain ⟨k1, k2⟩ := k h1
  refine ⟨k1, fun he => ?_⟩
  obtain ⟨k3, k4⟩ := k2 he
  obtain ⟨h3, h4⟩ := h2 k3
  exact ⟨h3, by rw [h4, k4, List.append_assoc]⟩
theorem Eat.refl (C : Cur) : Eat C [] C := fun hr => ⟨hr, fun he => ⟨he, rfl⟩⟩
theorem Eat.need {A C : Cur} {l : List Int} {ok : Bool} {x : Int} (h : Eat A l C) (hx : x ≠ 0 := by decide) : Eat A l (C.need ok x) := fun hr => by
  obtain ⟨h1, h2⟩ := h hr
  refine ⟨fun y hy => h1 y (by rwa [need_l] at hy), fun he => ?_⟩
  rw [need_l]
  exact h2 (nd_ok hx he).1
theorem Eat.bytes {A C : Cur} {l : List Int} (h : Eat A l C) (n : Int) : Eat A (l ++ C.bytesR n) (C.bytesC n) := h.trans fun hr => ⟨bytesC_rng hr n, fun he => ⟨(by_ok he).1, (by_ok he).2.1⟩⟩
theorem Eat.words {A C : Cur} {l : List Int} (h : Eat A l C) (n : Int) : Eat A (l ++ putW (C.wordsR n)) (C.wordsC n) := h.trans fun hr => ⟨wordsC_rng hr n, fun he => ⟨(wo_ok hr he).1, (wo_ok hr he).2.1⟩⟩
theorem one_of {l : List Int} (h : (l.length : Int) = 1) : l = [l.getD 0 0] := by
  match l, h with
  | [a], _ => rfl
  | [], h => simp at h
  | _ :: _ :: _, h => simp at h; omega
theorem Eat.byte {A C : Cur} {l : List Int} (h : Eat A l C) : Eat A (l ++ [C.byteV]) (C.bytesC 1) := h.trans fun hr => ⟨bytesC_rng hr 1, fun he => by
  obtain ⟨h1, h2, h3⟩ := by_ok he
  refine ⟨h1, ?_⟩
  have := one_of h3
  show C.l = [(C.bytesR 1).getD 0 0] ++ _
  rw [← this]
  exact h2⟩
theorem Eat.word {A C : Cur} {l : List Int} (h : Eat A l C) : Eat A (l ++ putW [C.wordV]) (C.wordsC 1) := h.trans fun hr => ⟨wordsC_rng hr 1, fun he => by
  obtain ⟨h1, h2, h3⟩ := wo_ok hr he
  refine ⟨h1, ?_⟩
  have := one_of h3
  show C.l = putW [(C.wordsR 1).getD 0 0] ++ _
  rw [← this]
  exact h2⟩
theorem Eat.fin {A C : Cur} {l : List Int} (h : Eat A l C) (hr : Byt A) (he : C.endC.e = 0) : C.e = 0 ∧ A.l = l := by
  unfold Cur.endC at he
  obtain ⟨h1, h2⟩ := nd_ok (by decide) he
  obtain ⟨_, h3⟩ := (h hr).2 h1
  have : C.l = [] := by
    simp only [beq_iff_eq] at h2
    exact List.eq_nil_of_length_eq_zero (by omega)
  exact ⟨h1, by rw [h3, this, List.append_nil]⟩
theorem byteV_rng' {C : Cur} (hr : Byt C) : 0 ≤ C.byteV ∧ C.byteV < 256 := by
  unfold Cur.byteV
  rw [List.getD_eq_getElem?_getD]
  cases h : (C.bytesR 1)[0]? with
  | none => simp
  | some x =>
    have hm : x ∈ C.bytesR 1 := List.mem_of_getElem? h
    have : x ∈ C.l := by
      unfold Cur.bytesR at hm
      split at hm
      · cases hm
      · exact List.mem_of_mem_take hm
    exact hr x this
theorem eat_span (C : Cur) (most : Int) : Eat C (putW [C.wordV, (C.wordsC 1).wordV]) (spanC C most) := by
  have := (((Eat.refl C).word).word)
  exact (this.need).need
theorem bits256 : ∀ n : Nat, n < 256 → (((if ((n : Int) / 2 ^ 0 % 2 == 1) then 1 else 0) + (if ((n : Int) / 2 ^ 1 % 2 == 1) then 2 else 0) + (if ((n : Int) / 2 ^ 2 % 2 == 1) then 4 else 0) + (if ((n : Int) / 2 ^ 3 % 2 == 1) then 8 else 0) + (if ((n : Int) / 2 ^ 4 % 2 == 1) then 16 else 0) + (if ((n : Int) / 2 ^ 5 % 2 == 1) then 32 else 0) + (if ((n : Int) / 2 ^ 6 % 2 == 1) then 64 else 0) + (if ((n : Int) / 2 ^ 7 % 2 == 1) then 128 else 0) : Nat) : Int) = n := by decide +kernel
theorem byteOf_unpack {x : Int} (hx : 0 ≤ x ∧ x < 256) (f : Nat → Bool) (hf : ∀ i, i < 8 → f i = (x / 2 ^ i % 2 == 1)) :
    (((if f 0 then 1 else 0) + (if f 1 then 2 else 0) + (if f 2 then 4 else 0) + (if f 3 then 8 else 0) + (if f 4 then 16 else 0) + (if f 5 then 32 else 0) + (if f 6 then 64 else 0) + (if f 7 then 128 else 0) : Nat) : Int) = x := by
  rw [hf 0 (by decide), hf 1 (by decide), hf 2 (by decide), hf 3 (by decide), hf 4 (by decide), hf 5 (by decide), hf 6 (by decide), hf 7 (by decide)]
  obtain ⟨n, rfl⟩ := Int.eq_ofNat_of_zero_le hx.1
  exact bits256 n (by omega)
theorem pack_unpack {b : List Int} {n : Int} {l : List Bool} (hr : ∀ x, x ∈ b → 0 ≤ x ∧ x < 256) (h : unpackB b n = some l) : packB l = b := by
  unfold unpackB at h
  split at h
  · rename_i hc
    split at h
    · rename_i hall
      injection h with h
      subst h
      have hlen : ((List.range n.toNat).map (bitAt b)).length = n.toNat := by simp
      have hm : ((List.range n.toNat).map (bitAt b)).length = n := by rw [hlen]; omega
      unfold packB
      rw [hm, ← hc.2]
      apply List.ext_getElem
      · simp
      intro j h1 h2
      simp only [List.getElem_map, List.getElem_range]
      have hj : j < b.length := h2
      have hget : ∀ i, i < 8 * b.length → ((List.range n.toNat).map (bitAt b)).getD i false = bitAt b i := fun i hi => by
        rw [List.getD_eq_getElem?_getD, List.getElem?_map]
        by_cases hin : i < n.toNat
        · rw [List.getElem?_range hin]; rfl
        · rw [List.getElem?_eq_none (by simpa using hin)]
          rw [List.all_eq_true] at hall
          have := hall i (by simpa using hi)
          simp only [Bool.or_eq_true, decide_eq_true_eq, Bool.not_eq_true'] at this
          rcases this with h3 | h3
          · omega
          · simp [h3]
      have hx : ∀ k, k < 8 → bitAt b (8 * j + k) = (b[j] / 2 ^ k % 2 == 1) := fun k hk => by
        unfold bitAt
        rw [show (8 * j + k) / 8 = j from by omega, show (8 * j + k) % 8 = k from by omega, List.getD_eq_getElem?_getD, List.getElem?_eq_getElem hj]
        rfl
      unfold byteOf
      rw [show (8 * j : Nat) = 8 * j + 0 from rfl]
      simp only [hget _ (show 8 * j + 0 < 8 * b.length by omega), hget _ (show 8 * j + 0 + 1 < 8 * b.length by omega), hget _ (show 8 * j + 0 + 2 < 8 * b.length by omega), hget _ (show 8 * j + 0 + 3 < 8 * b.length by omega), hget _ (show 8 * j + 0 + 4 < 8 * b.length by omega), hget _ (show 8 * j + 0 + 5 < 8 * b.length by omega), hget _ (show 8 * j + 0 + 6 < 8 * b.length by omega), hget _ (show 8 * j + 0 + 7 < 8 * b.length by omega)]
      exact byteOf_unpack (hr _ (List.getElem_mem hj)) (fun k => bitAt b (8 * j + k)) hx
    · cases h
  · cases h
end Go.Proofs.Ytbaeecmamacphaa
namespace Go.Proofs.Ytbaeecmamacphaa
theorem some_pair {α β : Type} {p : α × β} {a : α} {b : β} (h : some p = some (a, b)) : p.1 = a ∧ p.2 = b := by
  injection h with h
  rw [h]
  exact ⟨rfl, rfl⟩
theorem asks_lb {C : Cur} {most c : Int} (hr : Byt C) (he : (asksR most c C).1.endC.e = 0) : putW [C.wordV, (C.wordsC 1).wordV] = C.l := ((eat_span C most).fin hr he).2.symm
theorem ctold_lb {C : Cur} {c : Int} (hr : Byt C) (he : (ctoldR c C).1.endC.e = 0) : [(((toldC2 C).bytesR C.byteV).length : Int) % 256] ++ (toldC2 C).bytesR C.byteV = C.l := by
  have hbv := byteV_rng' hr
  have hE : Eat C ([] ++ [C.byteV] ++ (toldC2 C).bytesR C.byteV) ((toldC2 C).bytesC C.byteV) := (((Eat.refl C).byte).need).bytes _
  obtain ⟨h1, h2⟩ := hE.fin hr he
  obtain ⟨_, _, h3⟩ := by_ok h1
  rw [h2, h3, Int.emod_eq_of_lt hbv.1 hbv.2]
  rfl
theorem csets_lb {C : Cur} {c : Int} (hr : Byt C) (he : (csetsR c C).1.endC.e = 0) : putW [C.wordV, (C.wordsC 1).wordV] = C.l := by
  have hE : Eat C ([] ++ putW [C.wordV] ++ putW [(C.wordsC 1).wordV]) (setsC C) := (((Eat.refl C).word).word).need
  rw [(hE.fin hr he).2]
  rfl
theorem csm_lb {C : Cur} {c : Int} (hr : Byt C) (he : (csmR c C).1.endC.e = 0) : (putW [C.wordV, (C.wordsC 1).wordV] ++ [((packB ((smU C).getD [])).length : Int) % 256]) ++ packB ((smU C).getD []) = C.l := by
  have hE : Eat C (putW [C.wordV, (C.wordsC 1).wordV] ++ [(spanC C 1968).byteV] ++ (smC2 C).bytesR (smK C)) (smC C) := (((((eat_span C 1968).byte).need).bytes _).need)
  obtain ⟨h1, h2⟩ := hE.fin hr he
  obtain ⟨h3, h4⟩ := nd_ok (by decide) h1
  obtain ⟨_, _, h5⟩ := by_ok h3
  obtain ⟨l, hl⟩ := Option.isSome_iff_exists.1 h4
  have hB : ∀ x, x ∈ (smC2 C).bytesR (smK C) → 0 ≤ x ∧ x < 256 := fun x hx => hr x (by rw [h2]; exact List.mem_append_right _ hx)
  have h6 : packB l = (smC2 C).bytesR (smK C) := pack_unpack hB hl
  have hk : 0 ≤ smK C ∧ smK C < 256 := byteV_rng' ((eat_span C 1968) hr).1
  rw [hl]
  show (putW [C.wordV, (C.wordsC 1).wordV] ++ [((packB l).length : Int) % 256]) ++ packB l = C.l
  rw [h6, h2, h5, Int.emod_eq_of_lt hk.1 hk.2]
  rfl
theorem coils_lb {dir c : Int} {C C' : Cur} {M : Msg} (hd : dir = 0 ∨ dir = 1) (hr : Byt C) (h : coilsForm dir c C = some (C', M)) (he : C'.endC.e = 0) : coilsLay dir M = C.l := by
  unfold coilsForm at h
  split at h
  · rename_i hc
    simp only [Bool.or_eq_true, beq_iff_eq] at hc
    rcases hd with rfl | rfl
    · have h : some (asksR 2000 c C) = some (C', M) := h
      obtain ⟨rfl, rfl⟩ := some_pair h
      rcases hc with rfl | rfl <;> exact asks_lb hr he
    · have h : some (ctoldR c C) = some (C', M) := h
      obtain ⟨rfl, rfl⟩ := some_pair h
      rcases hc with rfl | rfl <;> exact ctold_lb hr he
  split at h
  · rename_i hc
    obtain rfl : c = 5 := by simpa using hc
    obtain ⟨rfl, rfl⟩ := some_pair h
    exact csets_lb hr he
  split at h
  · rename_i hc
    obtain rfl : c = 15 := by simpa using hc
    rcases hd with rfl | rfl
    · have h : some (csmR 15 C) = some (C', M) := h
      obtain ⟨rfl, rfl⟩ := some_pair h
      exact csm_lb hr he
    · have h : some (asksR 1968 15 C) = some (C', M) := h
      obtain ⟨rfl, rfl⟩ := some_pair h
      exact asks_lb hr he
  · cases h
theorem eat_rspan {A C : Cur} {l : List Int} (h : Eat A l C) (a most : Int) : Eat A (l ++ putW [C.wordV]) (rspanC C a most) := ((h.word).need).need
theorem even2 {n hi : Int} (h : evenIn n hi = true) : n % 2 = 0 ∧ 2 ≤ n ∧ n ≤ hi := by
  unfold evenIn at h
  simp only [Bool.and_eq_true, decide_eq_true_eq, beq_iff_eq] at h
  exact ⟨h.1.1, h.1.2, h.2⟩
theorem rtold_lb {c : Int} {C : Cur} (hr : Byt C) (he : (rtoldR c C).1.endC.e = 0) : [(2 * (((told3 C).wordsR (C.byteV / 2)).length : Int)) % 256] ++ putW ((told3 C).wordsR (C.byteV / 2)) = C.l := by
  have hbv := byteV_rng' hr
  have hE0 : Eat C ([] ++ [C.byteV]) (told3 C) := ((Eat.refl C).byte).need
  have hE := hE0.words (C.byteV / 2)
  obtain ⟨h1, h2⟩ := hE.fin hr he
  obtain ⟨h3, _, h5⟩ := wo_ok (hE0 hr).1 h1
  obtain ⟨h6, h7, h8⟩ := even2 (nd_ok (by decide) h3).2
  rw [h2, h5, show (2 * (C.byteV / 2)) % 256 = C.byteV from by omega]
  rfl
theorem rasks_lb {most c : Int} {C : Cur} (hr : Byt C) (he : (rasksR most c C).1.endC.e = 0) : putW [C.wordV, (C.wordsC 1).wordV] = C.l := by
  rw [((eat_rspan (Eat.refl C).word C.wordV most).fin hr he).2]
  rfl
theorem rone_lb {c : Int} {C : Cur} (hr : Byt C) (he : (roneR c C).1.endC.e = 0) : putW [C.wordV, (C.wordsC 1).wordV] = C.l := by
  rw [(((Eat.refl C).word).word.fin hr he).2]
  rfl
theorem eat_counted {A C : Cur} {l : List Int} (h : Eat A l C) (n : Int) : Eat A (l ++ [C.byteV]) (countedC1 C n) := (h.byte).need
theorem rmany_lb {c : Int} {C : Cur} (hr : Byt C) (he : (rmanyR c C).1.endC.e = 0) : (putW [C.wordV, (C.wordsC 1).wordV] ++ [(2 * (((rmanyC C).wordsR (C.wordsC 1).wordV).length : Int)) % 256]) ++ putW ((rmanyC C).wordsR (C.wordsC 1).wordV) = C.l := by
  have hE0 : Eat C _ (rspanC (C.wordsC 1) C.wordV 123) := eat_rspan (Eat.refl C).word C.wordV 123
  have hE1 : Eat C _ (rmanyC C) := eat_counted hE0 (C.wordsC 1).wordV
  have hbv := byteV_rng' (hE0 hr).1
  obtain ⟨h1, h2⟩ := (hE1.words (C.wordsC 1).wordV).fin hr he
  obtain ⟨h3, _, h5⟩ := wo_ok (hE1 hr).1 h1
  have h6 := (nd_ok (by decide) h3).2
  simp only [beq_iff_eq] at h6
  rw [h5, ← h6, Int.emod_eq_of_lt hbv.1 hbv.2, h2]
  rfl
theorem rmask_lb {c : Int} {C : Cur} (hr : Byt C) (he : (rmaskR c C).1.endC.e = 0) : putW [C.wordV, (C.wordsC 1).wordV, ((C.wordsC 1).wordsC 1).wordV] = C.l := by
  rw [(((Eat.refl C).word).word.word.fin hr he).2]
  rfl
theorem rboth_lb {c : Int} {C : Cur} (hr : Byt C) (he : (rbothR c C).1.endC.e = 0) : (putW [C.wordV, (C.wordsC 1).wordV, (rspanC (C.wordsC 1) C.wordV 125).wordV, (((rbothC C).wordsR (both1 C).wordV).length : Int) % 65536] ++ [(2 * (((rbothC C).wordsR (both1 C).wordV).length : Int)) % 256]) ++ putW ((rbothC C).wordsR (both1 C).wordV) = C.l := by
  have hE0 : Eat C _ (both1 C) := (eat_rspan (Eat.refl C).word C.wordV 125).word
  have hE1 : Eat C _ (both2 C) := eat_rspan hE0 (rspanC (C.wordsC 1) C.wordV 125).wordV 121
  have hE2 : Eat C _ (rbothC C) := eat_counted hE1 (both1 C).wordV
  have hbv := byteV_rng' (hE1 hr).1
  have hwv : 0 ≤ (both1 C).wordV ∧ (both1 C).wordV < 65536 := wordV_rng (hE0 hr).1
  obtain ⟨h1, h2⟩ := (hE2.words (both1 C).wordV).fin hr he
  obtain ⟨h3, _, h5⟩ := wo_ok (hE2 hr).1 h1
  have h6 := (nd_ok (by decide) h3).2
  simp only [beq_iff_eq] at h6
  rw [h5, Int.emod_eq_of_lt hwv.1 hwv.2, ← h6, Int.emod_eq_of_lt hbv.1 hbv.2, h2]
  rfl
theorem raskq_lb {c : Int} {C : Cur} (hr : Byt C) (he : (raskqR c C).1.endC.e = 0) : putW [C.wordV] = C.l := by
  rw [((Eat.refl C).word.fin hr he).2]
  rfl
theorem rq_lb {c : Int} {C : Cur} (hr : Byt C) (he : (rqR c C).1.endC.e = 0) : putW [(2 + 2 * (((q2C C).wordsR (q1C C).wordV).length : Int)) % 65536, (((q2C C).wordsR (q1C C).wordV).length : Int) % 65536] ++ putW ((q2C C).wordsR (q1C C).wordV) = C.l := by
  have hE0 : Eat C _ (q1C C) := ((Eat.refl C).word).need
  have hE1 : Eat C _ (q2C C) := (hE0.word).need
  have hwc : 0 ≤ C.wordV ∧ C.wordV < 65536 := wordV_rng hr
  have hwv : 0 ≤ (q1C C).wordV ∧ (q1C C).wordV < 65536 := wordV_rng (hE0 hr).1
  obtain ⟨h1, h2⟩ := (hE1.words (q1C C).wordV).fin hr he
  obtain ⟨h3, _, h5⟩ := wo_ok (hE1 hr).1 h1
  have h6 := (nd_ok (by decide) h3).2
  simp only [beq_iff_eq] at h6
  rw [h5, h6, Int.emod_eq_of_lt hwv.1 hwv.2, Int.emod_eq_of_lt hwc.1 hwc.2, h2]
  rfl
theorem regs_lb {dir c : Int} {C C' : Cur} {M : Msg} (hd : dir = 0 ∨ dir = 1) (hr : Byt C) (h : regsForm dir c C = some (C', M)) (he : C'.endC.e = 0) : regsLay dir M = C.l := by
  unfold regsForm at h
  split at h
  · rename_i hc
    simp only [Bool.or_eq_true, beq_iff_eq] at hc
    rcases hd with rfl | rfl
    · have h : some (rasksR 125 c C) = some (C', M) := h
      obtain ⟨rfl, rfl⟩ := some_pair h
      rcases hc with rfl | rfl <;> exact rasks_lb hr he
    · have h : some (rtoldR c C) = some (C', M) := h
      obtain ⟨rfl, rfl⟩ := some_pair h
      rcases hc with rfl | rfl <;> exact rtold_lb hr he
  split at h
  · rename_i hc
    obtain rfl : c = 6 := by simpa using hc
    obtain ⟨rfl, rfl⟩ := some_pair h
    rcases hd with rfl | rfl <;> exact rone_lb hr he
  split at h
  · rename_i hc
    obtain rfl : c = 16 := by simpa using hc
    rcases hd with rfl | rfl
    · have h : some (rmanyR 16 C) = some (C', M) := h
      obtain ⟨rfl, rfl⟩ := some_pair h
      exact rmany_lb hr he
    · have h : some (rasksR 123 16 C) = some (C', M) := h
      obtain ⟨rfl, rfl⟩ := some_pair h
      exact rasks_lb hr he
  split at h
  · rename_i hc
    obtain rfl : c = 22 := by simpa using hc
    obtain ⟨rfl, rfl⟩ := some_pair h
    rcases hd with rfl | rfl <;> exact rmask_lb hr he
  split at h
  · rename_i hc
    obtain rfl : c = 23 := by simpa using hc
    rcases hd with rfl | rfl
    · have h : some (rbothR 23 C) = some (C', M) := h
      obtain ⟨rfl, rfl⟩ := some_pair h
      exact rboth_lb hr he
    · have h : some (rtoldR 23 C) = some (C', M) := h
      obtain ⟨rfl, rfl⟩ := some_pair h
      exact rtold_lb hr he
  split at h
  · rename_i hc
    obtain rfl : c = 24 := by simpa using hc
    rcases hd with rfl | rfl
    · have h : some (raskqR 24 C) = some (C', M) := h
      obtain ⟨rfl, rfl⟩ := some_pair h
      exact raskq_lb hr he
    · have h : some (rqR 24 C) = some (C', M) := h
      obtain ⟨rfl, rfl⟩ := some_pair h
      exact rq_lb hr he
  · cases h
end Go.Proofs.Ytbaeecmamacphaa
namespace Go.Proofs.Ytbaeecmamacphaa
theorem Eat.conv {A C : Cur} {l l' : List Int} (h : Eat A l C) (k : Byt A → Byt C → C.e = 0 → l = l') : Eat A l' C := fun hr => by
  obtain ⟨h1, h2⟩ := h hr
  refine ⟨h1, fun he => ?_⟩
  rw [← k hr h1 he]
  exact h2 he
theorem line_lb {dir c : Int} {C : Cur} (hr : Byt C) (he : (lineR dir c C).1.endC.e = 0) : putW [(lineR dir c C).2.sub] ++ putW (lineR dir c C).2.words = C.l := by
  have hE0 : Eat C ([] ++ putW [C.wordV]) (line1 dir C) := ((Eat.refl C).word).need
  unfold lineR at he ⊢
  split at he
  · rename_i hw
    rw [if_pos hw]
    exact (((hE0.words 1).need).fin hr he).2.symm
  · rename_i hw
    rw [if_neg hw]
    exact (((hE0.need).words _).fin hr he).2.symm
theorem eat_ansL (C : Cur) (lo hi : Int) : Eat C ([] ++ [C.byteV]) (ansL C lo hi) := ((Eat.refl C).byte).need
theorem eat_busy {A C : Cur} {l : List Int} (h : Eat A l C) : Eat A (l ++ putW [C.wordV]) (busyC C) := (h.word).need
theorem ans_lb {c : Int} {C : Cur} (hc : c = 7 ∨ c = 11 ∨ c = 12 ∨ c = 17) (hr : Byt C) (he : (answerR c C).1.endC.e = 0) : diagLay 1 (answerR c C).2 = C.l := by
  have hbv := byteV_rng' hr
  rcases hc with rfl | rfl | rfl | rfl
  · have he : (C.bytesC 1).endC.e = 0 := he
    show [C.byteV % 256] = C.l
    rw [Int.emod_eq_of_lt hbv.1 hbv.2, ((Eat.refl C).byte.fin hr he).2]
    rfl
  · have he : ((busyC C).wordsC 1).endC.e = 0 := he
    show putW [C.wordV, (busyC C).wordV] = C.l
    rw [((eat_busy (Eat.refl C)).word.fin hr he).2]
    rfl
  · have he : ((ans12 C).bytesC (C.byteV - 6)).endC.e = 0 := he
    have hE := (((eat_busy (eat_ansL C 6 70)).word).word).bytes (C.byteV - 6)
    obtain ⟨h1, h2⟩ := hE.fin hr he
    obtain ⟨_, _, h3⟩ := by_ok h1
    show ([(6 + (((ans12 C).bytesR (C.byteV - 6)).length : Int)) % 256] ++ putW [(ansL C 6 70).wordV, (busyC (ansL C 6 70)).wordV, ((busyC (ansL C 6 70)).wordsC 1).wordV]) ++ (ans12 C).bytesR (C.byteV - 6) = C.l
    have h4 : (((ans12 C).bytesR (C.byteV - 6)).length : Int) = C.byteV - 6 := h3
    rw [h4, show (6 + (C.byteV - 6)) % 256 = C.byteV from by omega, h2]
    rfl
  · have he : ((ansL C 1 251).bytesC C.byteV).endC.e = 0 := he
    have hE := (eat_ansL C 1 251).bytes C.byteV
    obtain ⟨h1, h2⟩ := hE.fin hr he
    obtain ⟨_, _, h3⟩ := by_ok h1
    show [(((ansL C 1 251).bytesR C.byteV).length : Int) % 256] ++ (ansL C 1 251).bytesR C.byteV = C.l
    rw [h3, Int.emod_eq_of_lt hbv.1 hbv.2, h2]
    rfl
theorem ask_lb {c : Int} {C : Cur} (hc : c = 7 ∨ c = 11 ∨ c = 12 ∨ c = 17) (hr : Byt C) (he : C.endC.e = 0) : diagLay 0 { Msg.zero with code := c } = C.l := by
  have h := ((Eat.refl C).fin hr he).2
  rcases hc with rfl | rfl | rfl | rfl <;> exact h.symm
theorem diag_lb {dir c : Int} {C C' : Cur} {M : Msg} (hd : dir = 0 ∨ dir = 1) (hr : Byt C) (h : diagForm dir c C = some (C', M)) (he : C'.endC.e = 0) : diagLay dir M = C.l := by
  unfold diagForm at h
  split at h
  · rename_i hc
    obtain rfl : c = 8 := by simpa using hc
    obtain ⟨rfl, rfl⟩ := some_pair h
    have hco : (lineR dir 8 C).2.code = 8 := by unfold lineR; split <;> rfl
    unfold diagLay
    rw [hco, if_pos (by rfl)]
    exact line_lb hr he
  split at h
  · rename_i hc
    simp only [Bool.or_eq_true, beq_iff_eq] at hc
    have hc : c = 7 ∨ c = 11 ∨ c = 12 ∨ c = 17 := by omega
    rcases hd with rfl | rfl
    · have h : some (C, ({ Msg.zero with code := c } : Msg)) = some (C', M) := h
      obtain ⟨rfl, rfl⟩ := some_pair h
      exact ask_lb hc hr he
    · have h : some (answerR c C) = some (C', M) := h
      obtain ⟨rfl, rfl⟩ := some_pair h
      exact ans_lb hc hr he
  · cases h
theorem objs_eat : ∀ (n : Nat) (C : Cur) (L : List Obj), ∃ L', (objsR n C L).2 = L ++ L' ∧ L'.length = n ∧ Eat C (objB L') (objsR n C L).1
  | 0, C, L => ⟨[], by simp [objsR], rfl, Eat.refl C⟩
  | n + 1, C, L => by
    obtain ⟨L', h1, h2, h3⟩ := objs_eat n (((C.bytesC 1).bytesC 1).bytesC (C.bytesC 1).byteV) (L ++ [⟨C.byteV, ((C.bytesC 1).bytesC 1).bytesR (C.bytesC 1).byteV⟩])
    refine ⟨⟨C.byteV, ((C.bytesC 1).bytesC 1).bytesR (C.bytesC 1).byteV⟩ :: L', ?_, by simp [h2], ?_⟩
    · show (objsR n _ _).2 = _
      rw [h1]
      simp
    · have hE0 : Eat C _ ((C.bytesC 1).bytesC 1) := (Eat.refl C).byte.byte
      have hE1 : Eat C (([C.byteV, ((((C.bytesC 1).bytesC 1).bytesR (C.bytesC 1).byteV).length : Int) % 256]) ++ ((C.bytesC 1).bytesC 1).bytesR (C.bytesC 1).byteV) (((C.bytesC 1).bytesC 1).bytesC (C.bytesC 1).byteV) := (hE0.bytes _).conv fun hr _ he => by
        have hb := byteV_rng' ((Eat.refl C).byte hr).1
        rw [(by_ok he).2.2, Int.emod_eq_of_lt hb.1 hb.2]
        rfl
      exact hE1.trans h3
theorem mei_objs {c : Int} {C : Cur} (hr : Byt C) (he : (meiObjs (meiA C).byteV (meiD C)).1.endC.e = 0) : [C.byteV, (meiA C).byteV, (meiD C).byteV, (mei1 (meiD C)).byteV, (mei2 (meiD C)).byteV, ((meiObjs (meiA C).byteV (meiD C)).2.length : Int) % 256] ++ objB (meiObjs (meiA C).byteV (meiD C)).2 = C.l := by
  have hE0 : Eat C _ (meiA C) := (Eat.refl C).byte.need
  have hE1 : Eat C _ (meiD C) := hE0.byte.need
  have hE2 : Eat C _ (mei1 (meiD C)) := hE1.byte.need
  have hE3 : Eat C _ (mei2 (meiD C)) := hE2.byte.need
  have hE4 : Eat C _ (mei3 (meiD C)) := hE3.byte.need
  have hE5 : Eat C _ (mei4 (meiA C).byteV (meiD C)) := hE4.byte.need
  obtain ⟨L', h1, h2, h3⟩ := objs_eat (mei3 (meiD C)).byteV.toNat (mei4 (meiA C).byteV (meiD C)) []
  have hb := byteV_rng' (hE4 hr).1
  have h4 : (meiObjs (meiA C).byteV (meiD C)).2 = L' := by unfold meiObjs; rw [h1]; rfl
  obtain ⟨_, h5⟩ := (hE5.trans h3).fin hr he
  rw [h4, h2, show (((mei3 (meiD C)).byteV.toNat : Nat) : Int) % 256 = (mei3 (meiD C)).byteV from by omega, h5]
  rfl
theorem mei_lb {dir c : Int} {C C' : Cur} {M : Msg} (hd : dir = 0 ∨ dir = 1) (hr : Byt C) (h : meiForm dir c C = some (C', M)) (he : C'.endC.e = 0) : meiLay dir M = C.l := by
  have hE0 : Eat C _ (meiA C) := (Eat.refl C).byte.need
  unfold meiForm at h
  split at h
  · cases h
  split at h
  · rename_i hm
    obtain ⟨rfl, rfl⟩ := some_pair h
    have hE1 := (hE0.need (ok := decide (((meiA C).l.length : Int) ≤ 251)) (x := 5)).bytes ((meiB C).l.length : Int)
    obtain ⟨_, h5⟩ := hE1.fin hr he
    unfold meiLay
    rw [if_pos (show (C.byteV == 13) = true from hm), h5]
    rfl
  rename_i hm
  split at h
  · rename_i hc
    obtain rfl : dir = 1 := by simpa using hc
    obtain ⟨rfl, rfl⟩ := some_pair h
    unfold meiLay
    rw [if_neg (show ¬ (C.byteV == 13) = true from hm), if_neg (by decide)]
    exact mei_objs (c := c) hr he
  · rename_i hc
    obtain rfl : dir = 0 := by
      rcases hd with rfl | rfl
      · rfl
      · exact absurd rfl hc
    obtain ⟨rfl, rfl⟩ := some_pair h
    have hE1 : Eat C _ (meiD C) := hE0.byte.need
    obtain ⟨_, h5⟩ := hE1.byte.fin hr he
    unfold meiLay
    rw [if_neg (show ¬ (C.byteV == 13) = true from hm), if_pos (by rfl), h5]
    rfl
theorem recs_eat {one : Int → Cur → Int × Cur × Rec} {dir code : Int} (hl : ∀ s C, 0 < C.l.length → (one s C).2.1.l.length < C.l.length) (hE : ∀ s C, Eat C (recB dir code (one s C).2.2) (one s C).2.1) :
    ∀ (n : Nat) (s : Int) (C : Cur) (L : List Rec), C.l.length ≤ n → Byt C → (recsR one n s C L).1.e = 0 → ∃ L', (recsR one n s C L).2 = L ++ L' ∧ C.l = filesB dir code L'
  | 0, s, C, L, h, _, _ => ⟨[], by simp [recsR], by simpa [filesB] using h⟩
  | n + 1, s, C, L, h, hr, he => by
    unfold recsR at he ⊢
    split at he
    · rename_i hc
      rw [if_pos hc]
      simp only [Bool.and_eq_true, decide_eq_true_eq, beq_iff_eq] at hc
      have h1 := hl s C (by omega)
      obtain ⟨h2, h3⟩ := hE s C hr
      split at he
      · rename_i hn
        rw [he] at hn
        cases hn
      · rename_i hn
        rw [if_neg hn]
        have h4 : (one s C).2.1.e = 0 := by simpa using hn
        obtain ⟨L', h5, h6⟩ := recs_eat hl hE n (one s C).1 (one s C).2.1 (L ++ [(one s C).2.2]) (by omega) h2 he
        refine ⟨(one s C).2.2 :: L', by rw [h5]; simp, ?_⟩
        rw [(h3 h4).2, h6]
        rfl
    · rename_i hc
      rw [if_neg hc]
      have he : C.e = 0 := he
      refine ⟨[], by simp, ?_⟩
      have : C.l = [] := by
        apply List.eq_nil_of_length_eq_zero
        simp only [he, Bool.and_eq_true, decide_eq_true_eq, beq_self_eq_true, and_true] at hc
        omega
      rw [this]
      rfl
theorem eat_hd1 (C : Cur) : Eat C [6] (hd1 C) := ((Eat.refl C).byte.need).conv fun hr _ he => by
  have h := (nd_ok (by decide) he).2
  simp only [beq_iff_eq] at h
  rw [h]
  rfl
theorem eat_head (C : Cur) : Eat C ([6] ++ putW [(headM C).file, (headM C).record, (headM C).count]) (headC C) := by
  have hE1 : Eat C _ (hd2 C) := (eat_hd1 C).word.need
  have hE2 : Eat C _ (hd3 C) := hE1.word.need
  have hE3 : Eat C _ (headC C) := hE2.word.need
  exact hE3
theorem eat_ask (s : Int) (C : Cur) : Eat C (recB 0 20 (askO s C).2.2) (askO s C).2.1 := by
  have h : Eat C _ (askedC s C) := (eat_head C).need
  exact h.conv fun _ _ _ => rfl
theorem eat_wrt (dir s : Int) (C : Cur) : Eat C (recB dir 21 (wrtO s C).2.2) (wrtO s C).2.1 := by
  have h : Eat C _ (wrt1 C) := (eat_head C).need
  exact (h.words (hd3 C).wordV).conv fun _ _ _ => rfl
theorem eat_tld (s : Int) (C : Cur) : Eat C (recB 1 20 (toldO s C).2.2) (toldO s C).2.1 := by
  have hE1 : Eat C _ (told1 C) := (Eat.refl C).byte.need
  have hE2 : Eat C _ (told2 C) := hE1.byte.need
  refine (hE2.words (Int.tdiv (C.byteV - 1) 2)).conv fun hr _ he => ?_
  obtain ⟨h1, _, h2⟩ := wo_ok (hE2 hr).1 he
  obtain ⟨h3, h4⟩ := nd_ok (by decide) h1
  obtain ⟨h5, h6⟩ := nd_ok (by decide) (by_ok h3).1
  have hb := byteV_rng' hr
  simp only [Bool.and_eq_true, decide_eq_true_eq, beq_iff_eq] at h4 h6
  have h7 : (1 + 2 * (((told2 C).wordsR (Int.tdiv (C.byteV - 1) 2)).length : Int)) % 256 = C.byteV := by
    rw [h2, Int.tdiv_eq_ediv_of_nonneg (by omega)]
    omega
  show _ = [(1 + 2 * (((told2 C).wordsR (Int.tdiv (C.byteV - 1) 2)).length : Int)) % 256, 6] ++ putW ((told2 C).wordsR (Int.tdiv (C.byteV - 1) 2))
  rw [h7, h4]
  rfl
theorem filesR_lb {one : Int → Cur → Int × Cur × Rec} {dir code : Int} (hl : ∀ s C, 0 < C.l.length → (one s C).2.1.l.length < C.l.length) (hE : ∀ s C, Eat C (recB dir code (one s C).2.2) (one s C).2.1) {may : Int → Bool} {c : Int} {C : Cur} (hr : Byt C)
    (he : (filesR one may c C).1.endC.e = 0) : [((filesB dir code (flR one may C).2).length : Int) % 256] ++ filesB dir code (flR one may C).2 = C.l := by
  have hE0 : Eat C _ (fl1 may C) := (Eat.refl C).byte.need
  have hE1 := hE0.bytes C.byteV
  have hb := byteV_rng' hr
  unfold Cur.endC at he
  obtain ⟨h0, h00⟩ := nd_ok (by decide) he
  unfold filesR at h0 h00
  have hw : withinE (flR one may C).1.e ≠ 0 ∨ (flR one may C).1.e = 0 := by
    by_cases hz : (flR one may C).1.e = 0
    · exact Or.inr hz
    · left
      unfold withinE
      split
      · decide
      · exact hz
  have h1 : ((fl1 may C).bytesC C.byteV).e = 0 ∧ (flR one may C).1.e = 0 := by
    rcases hw with hw | hw
    · obtain ⟨h2, h3⟩ := nd_ok hw h0
      exact ⟨h2, by simpa using h3⟩
    · rw [hw] at h0
      refine ⟨?_, hw⟩
      unfold Cur.need at h0
      rw [if_neg (by rintro ⟨_, hx⟩; cases hx)] at h0
      exact h0
  obtain ⟨h2, h3, h4⟩ := by_ok h1.1
  have h5 : ((fl1 may C).bytesC C.byteV).l = [] := by
    rw [need_l] at h00
    simp only [beq_iff_eq] at h00
    exact List.eq_nil_of_length_eq_zero (by omega)
  have h6 : C.l = [C.byteV] ++ (fl1 may C).bytesR C.byteV := by
    rw [((hE1 hr).2 h1.1).2, h5]
    simp
  have hB : Byt (flB may C) := fun x hx => hr x (by rw [h6]; exact List.mem_append_right _ hx)
  obtain ⟨L', h7, h8⟩ := recs_eat hl hE (flB may C).l.length 0 (flB may C) [] (Nat.le_refl _) hB h1.2
  have h9 : (flR one may C).2 = L' := by unfold flR; rw [h7]; rfl
  have h10 : filesB dir code L' = (fl1 may C).bytesR C.byteV := h8.symm
  rw [h9, h10, h4, Int.emod_eq_of_lt hb.1 hb.2, h6]
theorem filesLay_eq (dir : Int) (M : Msg) : filesLay dir M = [((filesB dir M.code M.recs).length : Int) % 256] ++ filesB dir M.code M.recs := by
  unfold filesLay
  simp
theorem files_lb {dir c : Int} {C C' : Cur} {M : Msg} (hd : dir = 0 ∨ dir = 1) (hr : Byt C) (h : filesForm dir c C = some (C', M)) (he : C'.endC.e = 0) : filesLay dir M = C.l := by
  rw [filesLay_eq]
  unfold filesForm at h
  split at h
  · rename_i hc
    obtain rfl : c = 20 := by simpa using hc
    rcases hd with rfl | rfl
    · have h : some (filesR askO mayA 20 C) = some (C', M) := h
      obtain ⟨rfl, rfl⟩ := some_pair h
      exact filesR_lb askO_lt eat_ask hr he
    · have h : some (filesR toldO mayT 20 C) = some (C', M) := h
      obtain ⟨rfl, rfl⟩ := some_pair h
      exact filesR_lb toldO_lt eat_tld hr he
  split at h
  · rename_i hc
    obtain rfl : c = 21 := by simpa using hc
    obtain ⟨rfl, rfl⟩ := some_pair h
    exact filesR_lb wrtO_lt (eat_wrt dir) hr he
  · cases h
theorem parseOf_lb {form : Int → Int → Cur → Option (Cur × Msg)} {lay : Int → Msg → List Int} (hf : ∀ {dir c : Int} {C C' : Cur} {M : Msg}, (dir = 0 ∨ dir = 1) → Byt C → form dir c C = some (C', M) → C'.endC.e = 0 → lay dir M = C.l)
    {dir c : Int} {b : List Int} {M : Msg} (hd : dir = 0 ∨ dir = 1) (hr : ∀ x, x ∈ b → 0 ≤ x ∧ x < 256) (h : parseOf form dir c b = (M, 0)) : lay dir M = b := by
  unfold parseOf at h
  rw [if_pos hd] at h
  split at h
  · cases h
  · rename_i r hr'
    unfold finish at h
    split at h
    · rename_i he
      injection h with h
      obtain ⟨C', M'⟩ := r
      have h : M' = M := h
      subst h
      exact hf (C := ⟨b, false, 0⟩) hd hr hr' he
    · rename_i he
      injection h with _ h
      exact absurd h he
theorem writeOf_ok {parse : Int → Int → List Int → Msg × Int} {lay : Int → Msg → List Int} {dir : Int} {M : Msg} {l : List Int} (h1 : lay dir M = l) (h2 : parse dir M.code l = (M, 0)) : writeOf parse lay dir M = some l := by
  unfold writeOf
  rw [h1, if_pos h2]
theorem famW_ok {k : Nat} {dir : Int} {b : List Int} {M : Msg} (hd : dir = 0 ∨ dir = 1) (hr : ∀ x, x ∈ b → 0 ≤ x ∧ x < 256) (h : famP k dir b = (M, 0)) (hc : M.code = b.getD 0 0) : famW k dir M = some (b.drop 1) := by
  have hr' : ∀ x, x ∈ b.drop 1 → 0 ≤ x ∧ x < 256 := fun x hx => hr x (List.mem_of_mem_drop hx)
  unfold famP at h
  split at h
  · exact writeOf_ok (parseOf_lb coils_lb hd hr' h) (by rw [hc]; exact h)
  · exact writeOf_ok (parseOf_lb regs_lb hd hr' h) (by rw [hc]; exact h)
  · exact writeOf_ok (parseOf_lb diag_lb hd hr' h) (by rw [hc]; exact h)
  · exact writeOf_ok (parseOf_lb files_lb hd hr' h) (by rw [hc]; exact h)
  · exact writeOf_ok (parseOf_lb mei_lb hd hr' h) (by rw [hc]; exact h)
  · cases h
theorem fail_rng {x : Int} (h : failureB x = true) : (x != 0) = true := by
  unfold failureB at h
  simp only [decide_eq_true_eq, List.mem_cons, List.not_mem_nil, or_false] at h
  simp only [bne_iff_ne]
  omega
theorem pub_small {x : Int} (h : publicB x = true) : 0 < x ∧ x < 128 := by
  unfold publicB at h
  simp only [decide_eq_true_eq, List.mem_cons, List.not_mem_nil, or_false] at h
  omega
theorem pdu_back {dir : Int} {b : List Int} {M : Msg} (hd : dir = 0 ∨ dir = 1) (hr : ∀ x, x ∈ b → 0 ≤ x ∧ x < 256) (h : pduP dir b = (M, 0)) : pduW dir M = some b := by
  unfold pduP at h
  split at h
  · cases h
  split at h
  · cases h
  split at h
  · cases h
  rename_i h1 h2 h3
  simp only [beq_iff_eq] at h2
  simp only [decide_eq_true_eq] at h3
  obtain ⟨x, t, rfl⟩ : ∃ x t, b = x :: t := by
    cases b with
    | nil => exact absurd rfl h2
    | cons x t => exact ⟨x, t, rfl⟩
  have hx := hr x (by simp)
  split at h
  · rename_i hq
    simp only [Bool.and_eq_true, decide_eq_true_eq, beq_iff_eq] at hq
    obtain ⟨rfl, k1, k2, k3, k4⟩ := refP_ok h
    have k5 := pub_small k2
    unfold pduW
    rw [if_pos (show ((refM _ ((x :: t).getD 1 0)).fail != 0) = true from fail_rng k3)]
    rw [if_neg (by rw [hq.2]; decide)]
    unfold refW
    have k6 : pairB (refM (((x :: t).getD 0 0 - 128) % 256) ((x :: t).getD 1 0)).code (refM (((x :: t).getD 0 0 - 128) % 256) ((x :: t).getD 1 0)).fail = true := by
      show pairB (((x :: t).getD 0 0 - 128) % 256) ((x :: t).getD 1 0) = true
      unfold pairB
      rw [k2, k3]
      have : (((x :: t).getD 0 0 - 128) % 256 != 0) = true := by simp only [bne_iff_ne]; omega
      rw [this]
      rfl
    rw [k6]
    have k7 : decide (refM (((x :: t).getD 0 0 - 128) % 256) ((x :: t).getD 1 0) = refM (refM (((x :: t).getD 0 0 - 128) % 256) ((x :: t).getD 1 0)).code (refM (((x :: t).getD 0 0 - 128) % 256) ((x :: t).getD 1 0)).fail) = true := decide_eq_true rfl
    rw [k7]
    show some [(((x - 128) % 256) + 128) % 256, (x :: t).getD 1 0] = some (x :: t)
    match t, k4 with
    | [y], _ =>
      rw [show (((x - 128) % 256) + 128) % 256 = x from by omega]
      rfl
  · obtain ⟨_, k1⟩ := famP_good hd h
    obtain ⟨k2, k3⟩ := k1 rfl
    have k4 := famW_ok hd hr h k2
    unfold pduW
    rw [if_neg (by rw [k3]; decide), k2, k4]
    show (if decide (253 ≤ (t.length : Int)) = true then none else some ([x] ++ t)) = some (x :: t)
    rw [if_neg (by simp only [decide_eq_true_eq]; simp only [List.length_cons] at h3; omega)]
    rfl
end Go.Proofs.Ytbaeecmamacphaa
namespace Go.Proofs.Ytbaeecmamacphaa
theorem bytesR_le2 (C : Cur) (n : Int) : (C.bytesR n).length ≤ C.l.length := by
  unfold Cur.bytesR
  split
  · simp
  · rw [List.length_take]; omega
theorem wordsR_le (C : Cur) (n : Int) : (C.wordsR n).length ≤ C.l.length := by
  have h := bytesR_le2 C (2 * n)
  unfold Cur.wordsR
  split
  · simp
  · unfold wordTake
    split
    · rw [takeW_length]; omega
    · simp
def Sh (C C' : Cur) : Prop := C'.l.length ≤ C.l.length
theorem Sh.refl (C : Cur) : Sh C C := Nat.le_refl _
theorem Sh.bytes {A C : Cur} (h : Sh A C) {n : Int} : Sh A (C.bytesC n) := Nat.le_trans (bytesC_len C n) h
theorem Sh.words {A C : Cur} (h : Sh A C) {n : Int} : Sh A (C.wordsC n) := Nat.le_trans (wordsC_len C n) h
theorem Sh.need {A C : Cur} (h : Sh A C) {b : Bool} {e : Int} : Sh A (C.need b e) := by unfold Sh; rw [need_len]; exact h
theorem Sh.bR {A C : Cur} (h : Sh A C) (n : Int) {k : Nat} (hk : A.l.length ≤ k) : (C.bytesR n).length ≤ k := Nat.le_trans (bytesR_le2 C n) (Nat.le_trans h hk)
theorem Sh.wR {A C : Cur} (h : Sh A C) (n : Int) {k : Nat} (hk : A.l.length ≤ k) : (C.wordsR n).length ≤ k := Nat.le_trans (wordsR_le C n) (Nat.le_trans h hk)
theorem few_of {M : Msg} (h1 : M.words.length ≤ 252) (h2 : M.bits.length ≤ 2016) (h3 : M.data.length ≤ 252) (h4 : M.recs = []) (h5 : M.objects = []) : MsgFew M :=
  ⟨by omega, by omega, by omega, by rw [h4]; decide, (by rw [h4]; exact fun r h => nomatch h), by rw [h5]; decide, (by rw [h5]; exact fun r h => nomatch h)⟩
theorem few_nil (M : Msg) (h1 : M.words = []) (h2 : M.bits = []) (h3 : M.data = []) (h4 : M.recs = []) (h5 : M.objects = []) : MsgFew M := few_of (by rw [h1]; decide) (by rw [h2]; decide) (by rw [h3]; decide) h4 h5
theorem sh_span (C : Cur) (m : Int) : Sh C (spanC C m) := ((Sh.refl C).words.words.need).need
theorem sh_rspan {A C : Cur} (h : Sh A C) (a m : Int) : Sh A (rspanC C a m) := (h.words.need).need
theorem unpack_len {b : List Int} {n : Int} {l : List Bool} (h : unpackB b n = some l) : l.length ≤ 8 * b.length := by
  unfold unpackB at h
  split at h
  · rename_i hc
    split at h
    · injection h with h
      subst h
      have := hc.2
      rw [List.length_map, List.length_range]
      unfold many at this
      split at this <;> omega
    · cases h
  · cases h
theorem coils_few {dir c : Int} {C C' : Cur} {M : Msg} (hl : C.l.length ≤ 252) (h : coilsForm dir c C = some (C', M)) : MsgFew M := by
  unfold coilsForm at h
  repeat' split at h
  all_goals first | (cases h; done) | obtain ⟨rfl, rfl⟩ := some_pair h
  · exact few_nil _ rfl rfl rfl rfl rfl
  · exact few_of (Nat.zero_le _) (Nat.zero_le _) (((Sh.refl C).bytes.need).bR _ hl) rfl rfl
  · exact few_nil _ rfl rfl rfl rfl rfl
  · refine few_of (Nat.zero_le _) ?_ (Nat.zero_le _) rfl rfl
    show ((smU C).getD []).length ≤ 2016
    cases hu : smU C with
    | none => simp
    | some l =>
      have h1 := unpack_len hu
      have h2 : ((smC2 C).bytesR (smK C)).length ≤ 252 := ((sh_span C 1968).bytes.need).bR _ hl
      simp only [Option.getD_some]
      omega
  · exact few_nil _ rfl rfl rfl rfl rfl
theorem regs_few {dir c : Int} {C C' : Cur} {M : Msg} (hl : C.l.length ≤ 252) (h : regsForm dir c C = some (C', M)) : MsgFew M := by
  unfold regsForm at h
  repeat' split at h
  all_goals first | (cases h; done) | obtain ⟨rfl, rfl⟩ := some_pair h
  · exact few_nil _ rfl rfl rfl rfl rfl
  · exact few_of (((Sh.refl C).bytes.need).wR _ hl) (Nat.zero_le _) (Nat.zero_le _) rfl rfl
  · exact few_nil _ rfl rfl rfl rfl rfl
  · exact few_of (((sh_rspan (Sh.refl C).words _ _).bytes.need).wR _ hl) (Nat.zero_le _) (Nat.zero_le _) rfl rfl
  · exact few_nil _ rfl rfl rfl rfl rfl
  · exact few_nil _ rfl rfl rfl rfl rfl
  · exact few_of (((sh_rspan (sh_rspan (Sh.refl C).words _ _).words _ _).bytes.need).wR _ hl) (Nat.zero_le _) (Nat.zero_le _) rfl rfl
  · exact few_of (((Sh.refl C).bytes.need).wR _ hl) (Nat.zero_le _) (Nat.zero_le _) rfl rfl
  · exact few_nil _ rfl rfl rfl rfl rfl
  · exact few_of ((((Sh.refl C).words.need).words.need).wR _ hl) (Nat.zero_le _) (Nat.zero_le _) rfl rfl
theorem diag_few {dir c : Int} {C C' : Cur} {M : Msg} (hl : C.l.length ≤ 252) (h : diagForm dir c C = some (C', M)) : MsgFew M := by
  unfold diagForm at h
  repeat' split at h
  all_goals first | (cases h; done) | obtain ⟨rfl, rfl⟩ := some_pair h
  · unfold lineR
    split
    · exact few_of (((Sh.refl C).words.need).wR _ hl) (Nat.zero_le _) (Nat.zero_le _) rfl rfl
    · exact few_of (((Sh.refl C).words.need.need).wR _ hl) (Nat.zero_le _) (Nat.zero_le _) rfl rfl
  · unfold answerR
    have h1 : Sh C (ansL C 6 70) := (Sh.refl C).bytes.need
    have h2 : Sh C (busyC (ansL C 6 70)) := h1.words.need
    repeat' split
    · exact few_nil _ rfl rfl rfl rfl rfl
    · exact few_nil _ rfl rfl rfl rfl rfl
    · exact few_of (Nat.zero_le _) (Nat.zero_le _) (h2.words.words.bR _ hl) rfl rfl
    · exact few_of (Nat.zero_le _) (Nat.zero_le _) (Sh.bR (C := ansL C 1 251) ((Sh.refl C).bytes.need) _ hl) rfl rfl
    · exact few_nil _ rfl rfl rfl rfl rfl
  · exact few_nil _ rfl rfl rfl rfl rfl
theorem objB_few : ∀ (L : List Obj), 2 * L.length ≤ (objB L).length ∧ ∀ o, o ∈ L → o.value.length ≤ (objB L).length
  | [] => ⟨by simp [objB], fun o h => nomatch h⟩
  | x :: L => by
    obtain ⟨h1, h2⟩ := objB_few L
    have h3 : (objB (x :: L)).length = 2 + x.value.length + (objB L).length := by simp [objB]; omega
    refine ⟨by rw [h3, List.length_cons]; omega, fun o ho => ?_⟩
    rcases List.mem_cons.1 ho with rfl | ho
    · omega
    · have := h2 o ho
      omega
theorem mei_few {dir c : Int} {C C' : Cur} {M : Msg} (hd : dir = 0 ∨ dir = 1) (hr : Byt C) (hl : C.l.length ≤ 252) (h : meiForm dir c C = some (C', M)) (he : C'.endC.e = 0) : MsgFew M := by
  have hb := mei_lb hd hr h he
  have hA : Sh C (meiA C) := (Sh.refl C).bytes.need
  unfold meiForm at h
  repeat' split at h
  all_goals first | (cases h; done) | obtain ⟨rfl, rfl⟩ := some_pair h
  · exact few_of (Nat.zero_le _) (Nat.zero_le _) (Sh.bR (C := meiB C) hA.need _ hl) rfl rfl
  · rename_i hm hc
    obtain rfl : dir = 1 := by simpa using hc
    unfold meiLay at hb
    rw [if_neg (show ¬ (C.byteV == 13) = true from hm), if_neg (by decide)] at hb
    have h1 := congrArg List.length hb
    rw [List.length_append] at h1
    obtain ⟨h2, h3⟩ := objB_few (meiObjs (meiA C).byteV (meiD C)).2
    have h1 : 6 + (objB (meiObjs (meiA C).byteV (meiD C)).2).length = C.l.length := h1
    refine ⟨Nat.zero_le _, Nat.zero_le _, Nat.zero_le _, Nat.zero_le _, (fun r h => nomatch h), ?_, ?_⟩
    · show (meiObjs (meiA C).byteV (meiD C)).2.length ≤ 128
      omega
    · intro o ho
      have := h3 o ho
      omega
  · exact few_nil _ rfl rfl rfl rfl rfl
theorem filesB_few {dir code : Int} : ∀ (L : List Rec), (∀ r, r ∈ L → 4 ≤ (recB dir code r).length) → 4 * L.length ≤ (filesB dir code L).length ∧ ∀ r, r ∈ L → r.words.length ≤ (filesB dir code L).length
  | [], _ => ⟨by simp [filesB], fun o h => nomatch h⟩
  | x :: L, h => by
    obtain ⟨h1, h2⟩ := filesB_few L fun r hr => h r (by simp [hr])
    have h3 : (filesB dir code (x :: L)).length = (recB dir code x).length + (filesB dir code L).length := by simp [filesB]
    have h4 := h x (by simp)
    have h5 : x.words.length ≤ (recB dir code x).length := by
      have := putW_length x.words
      unfold recB
      rw [List.length_append]
      omega
    refine ⟨by rw [h3, List.length_cons]; omega, fun o ho => ?_⟩
    rcases List.mem_cons.1 ho with rfl | ho
    · omega
    · have := h2 o ho
      omega
theorem recs_all {one : Int → Cur → Int × Cur × Rec} {P : Rec → Prop} {dir code : Int} (hE : ∀ s C, Eat C (recB dir code (one s C).2.2) (one s C).2.1) (hP : ∀ s C, Byt C → (one s C).2.1.e = 0 → P (one s C).2.2) :
    ∀ (n : Nat) (s : Int) (C : Cur) (L : List Rec), Byt C → (recsR one n s C L).1.e = 0 → (∀ r, r ∈ L → P r) → ∀ r, r ∈ (recsR one n s C L).2 → P r
  | 0, s, C, L, _, _, h => h
  | n + 1, s, C, L, hr, he, h => by
    unfold recsR at he ⊢
    split at he
    · rename_i hc
      rw [if_pos hc]
      split at he
      · rename_i hn
        rw [he] at hn
        cases hn
      · rename_i hn
        rw [if_neg hn]
        have h4 : (one s C).2.1.e = 0 := by simpa using hn
        exact recs_all hE hP n _ _ _ ((hE s C) hr).1 he fun r hr' => by
          rcases List.mem_append.1 hr' with h5 | h5
          · exact h r h5
          · rw [List.mem_singleton.1 h5]
            exact hP s C hr h4
    · rename_i hc
      rw [if_neg hc]
      exact h
theorem tld_ne (s : Int) (C : Cur) (hr : Byt C) (he : (toldO s C).2.1.e = 0) : 4 ≤ (recB 1 20 (toldO s C).2.2).length := by
  have hE1 : Eat C _ (told1 C) := (Eat.refl C).byte.need
  have hE2 : Eat C _ (told2 C) := hE1.byte.need
  obtain ⟨h1, _, h2⟩ := wo_ok (hE2 hr).1 (show ((told2 C).wordsC (Int.tdiv (C.byteV - 1) 2)).e = 0 from he)
  obtain ⟨h3, _⟩ := nd_ok (by decide) h1
  obtain ⟨_, h6⟩ := nd_ok (by decide) (by_ok h3).1
  simp only [Bool.and_eq_true, decide_eq_true_eq, beq_iff_eq] at h6
  rw [Int.tdiv_eq_ediv_of_nonneg (by omega)] at h2
  have h7 := putW_length ((told2 C).wordsR (Int.tdiv (C.byteV - 1) 2))
  show 4 ≤ ([_, 6] ++ putW ((told2 C).wordsR (Int.tdiv (C.byteV - 1) 2))).length
  rw [List.length_append, h7, Int.tdiv_eq_ediv_of_nonneg (by omega)]
  simp only [List.length_cons, List.length_nil]
  omega
theorem ask_ne (dir code : Int) (r : Rec) (h : (code == 20 && dir == 1) = false) : 4 ≤ (recB dir code r).length := by
  unfold recB
  rw [h]
  simp [putW]
theorem filesR_few {one : Int → Cur → Int × Cur × Rec} {dir code : Int} (hl : ∀ s C, 0 < C.l.length → (one s C).2.1.l.length < C.l.length) (hE : ∀ s C, Eat C (recB dir code (one s C).2.2) (one s C).2.1)
    (hP : ∀ s C, Byt C → (one s C).2.1.e = 0 → 4 ≤ (recB dir code (one s C).2.2).length) {may : Int → Bool} {c : Int} {C : Cur} (hr : Byt C) (hl' : C.l.length ≤ 252)
    (he : (filesR one may c C).1.endC.e = 0) : MsgFew (filesR one may c C).2 := by
  have hb := filesR_lb hl hE hr he
  have h1 := congrArg List.length hb
  rw [List.length_append] at h1
  have h1 : 1 + (filesB dir code (flR one may C).2).length = C.l.length := h1
  have h2 : (flR one may C).1.e = 0 := by
    unfold Cur.endC at he
    obtain ⟨h0, _⟩ := nd_ok (by decide) he
    unfold filesR at h0
    by_cases hz : (flR one may C).1.e = 0
    · exact hz
    · have hw : withinE (flR one may C).1.e ≠ 0 := by
        unfold withinE
        split
        · decide
        · exact hz
      simpa using (nd_ok hw h0).2
  have hB : Byt (flB may C) := fun x hx => hr x (by
    have h5 : x ∈ (fl1 may C).l := by
      have : x ∈ (fl1 may C).bytesR C.byteV := hx
      unfold Cur.bytesR at this
      split at this
      · cases this
      · exact List.mem_of_mem_take this
    have h6 : x ∈ (C.bytesC 1).l := by unfold fl1 at h5; rwa [need_l] at h5
    unfold Cur.bytesC at h6
    split at h6
    · rw [need_l] at h6
      cases h6
    · exact List.mem_of_mem_drop h6)
  have h3 := recs_all (P := fun r => 4 ≤ (recB dir code r).length) hE hP (flB may C).l.length 0 (flB may C) [] hB h2 (fun r h => nomatch h)
  obtain ⟨h4, h5⟩ := filesB_few (dir := dir) (code := code) (flR one may C).2 h3
  refine ⟨Nat.zero_le _, Nat.zero_le _, Nat.zero_le _, ?_, ?_, Nat.zero_le _, (fun r h => nomatch h)⟩
  · show (flR one may C).2.length ≤ 64
    omega
  · intro r hr'
    have := h5 r hr'
    omega
theorem files_few {dir c : Int} {C C' : Cur} {M : Msg} (hd : dir = 0 ∨ dir = 1) (hr : Byt C) (hl : C.l.length ≤ 252) (h : filesForm dir c C = some (C', M)) (he : C'.endC.e = 0) : MsgFew M := by
  unfold filesForm at h
  split at h
  · rename_i hc
    obtain rfl : c = 20 := by simpa using hc
    rcases hd with rfl | rfl
    · have h : some (filesR askO mayA 20 C) = some (C', M) := h
      obtain ⟨rfl, rfl⟩ := some_pair h
      exact filesR_few askO_lt eat_ask (fun _ _ _ _ => ask_ne _ _ _ rfl) hr hl he
    · have h : some (filesR toldO mayT 20 C) = some (C', M) := h
      obtain ⟨rfl, rfl⟩ := some_pair h
      exact filesR_few toldO_lt eat_tld tld_ne hr hl he
  split at h
  · rename_i hc
    obtain rfl : c = 21 := by simpa using hc
    obtain ⟨rfl, rfl⟩ := some_pair h
    exact filesR_few wrtO_lt (eat_wrt dir) (fun _ _ _ _ => ask_ne _ _ _ rfl) hr hl he
  · cases h
theorem few_zero : MsgFew Msg.zero := few_nil _ rfl rfl rfl rfl rfl
theorem parse_few1 {form : Int → Int → Cur → Option (Cur × Msg)} (hf : ∀ {dir c : Int} {C C' : Cur} {M : Msg}, (dir = 0 ∨ dir = 1) → Byt C → C.l.length ≤ 252 → form dir c C = some (C', M) → C'.endC.e = 0 → MsgFew M)
    {dir c : Int} {b : List Int} {M : Msg} {E : Int} (hr : ∀ x, x ∈ b → 0 ≤ x ∧ x < 256) (hl : b.length ≤ 252) (h : parseOf form dir c b = (M, E)) : MsgFew M ∧ (E ≠ 0 → M = Msg.zero) := by
  unfold parseOf at h
  split at h
  · rename_i hd
    split at h
    · injection h with h1 h2
      subst h1 h2
      exact ⟨few_zero, fun _ => rfl⟩
    · rename_i r hr'
      unfold finish at h
      split at h
      · rename_i he
        injection h with h1 h2
        obtain ⟨C', M'⟩ := r
        have h1 : M' = M := h1
        subst h1
        exact ⟨hf (C := ⟨b, false, 0⟩) hd hr hl hr' he, fun hE => absurd h2.symm hE⟩
      · injection h with h1 h2
        subst h1
        exact ⟨few_zero, fun _ => rfl⟩
  · injection h with h1 h2
    subst h1
    exact ⟨few_zero, fun _ => rfl⟩
theorem famP_few {k : Nat} {dir : Int} {b : List Int} {M : Msg} {E : Int} (hr : ∀ x, x ∈ b → 0 ≤ x ∧ x < 256) (hl : b.length ≤ 253) (h : famP k dir b = (M, E)) : MsgFew M ∧ (E ≠ 0 → M = Msg.zero) := by
  have hr' : ∀ x, x ∈ b.drop 1 → 0 ≤ x ∧ x < 256 := fun x hx => hr x (List.mem_of_mem_drop hx)
  have hl' : (b.drop 1).length ≤ 252 := by rw [List.length_drop]; omega
  unfold famP at h
  split at h
  · exact parse_few1 (fun _ _ hl h _ => coils_few hl h) hr' hl' h
  · exact parse_few1 (fun _ _ hl h _ => regs_few hl h) hr' hl' h
  · exact parse_few1 (fun _ _ hl h _ => diag_few hl h) hr' hl' h
  · exact parse_few1 files_few hr' hl' h
  · exact parse_few1 mei_few hr' hl' h
  · injection h with h1 h2
    subst h1
    exact ⟨few_zero, fun _ => rfl⟩
theorem refP_few {b : List Int} {M : Msg} {E : Int} (h : refP b = (M, E)) : MsgFew M ∧ (E ≠ 0 → M = Msg.zero) := by
  unfold refP at h
  repeat' split at h
  all_goals (injection h with h1 h2; subst h1)
  all_goals first | exact ⟨few_zero, fun _ => rfl⟩ | exact ⟨few_nil _ rfl rfl rfl rfl rfl, fun hE => absurd h2.symm hE⟩
theorem pduP_few {dir : Int} {b : List Int} {M : Msg} {E : Int} (hr : ∀ x, x ∈ b → 0 ≤ x ∧ x < 256) (h : pduP dir b = (M, E)) : MsgFew M ∧ (E ≠ 0 → M = Msg.zero) := by
  unfold pduP at h
  split at h
  · injection h with h1 h2; subst h1; exact ⟨few_zero, fun _ => rfl⟩
  split at h
  · injection h with h1 h2; subst h1; exact ⟨few_zero, fun _ => rfl⟩
  split at h
  · injection h with h1 h2; subst h1; exact ⟨few_zero, fun _ => rfl⟩
  rename_i h3
  simp only [decide_eq_true_eq] at h3
  split at h
  · exact refP_few h
  · exact famP_few hr (by omega) h
open Go.RowKit
def echoM (M : Msg) : Msg := { Msg.zero with code := M.code, addr := M.addr, count := M.count }
theorem echo_rd {m : Bool} {w : World} {cs : Array Value} {M : Msg} (h : MsgRd m w cs.toList M) (W : World) : MsgRd true W (mG M.code 0 M.addr M.count 0 0 0 0 0 0 0 0 nS nS nS nS 0 0 0 0 0 nS).toList (echoM M) := by
  obtain ⟨vw, vb, vd, vr, vo, h0, hw, hbt, hd, hr, ho, hR⟩ := h
  exact ⟨nilS, nilS, nilS, nilS, nilS, rfl, RdG.nil .., RdG.nil .., RdG.nil .., RdG.nil .., RdG.nil .., { MsgRng.zero with code := hR.code, addr := hR.addr, count := hR.count }⟩
theorem echo_few (M : Msg) : MsgFew (echoM M) := ⟨Nat.zero_le _, Nat.zero_le _, Nat.zero_le _, Nat.zero_le _, (fun r h => nomatch h), Nat.zero_le _, (fun r h => nomatch h)⟩
theorem rng_ac {m : Bool} {w : World} {cs : Array Value} {M : Msg} (h : MsgRd m w cs.toList M) : (0 ≤ M.addr ∧ M.addr < 65536) ∧ (0 ≤ M.count ∧ M.count < 65536) := by
  obtain ⟨vw, vb, vd, vr, vo, h0, hw, hbt, hd, hr, ho, hR⟩ := h
  exact ⟨hR.addr, hR.count⟩
theorem fail0 {M : Msg} {l : List Int} (h : pduW 0 M = some l) : M.fail = 0 := by
  unfold pduW at h
  split at h
  · rename_i hf
    rw [if_pos (by decide)] at h
    cases h
  · rename_i hf
    simpa using hf
theorem pduW_fam {M : Msg} (hf : M.fail = 0) (h : famW (cfam M.code) 0 M = famW (cfam M.code) 1 M) : pduW 0 M = pduW 1 M := by
  unfold pduW
  rw [hf, if_neg (by decide), if_neg (by decide), h]
theorem writeOf_eq {form : Int → Int → Cur → Option (Cur × Msg)} {lay : Int → Msg → List Int} {M : Msg} (h1 : ∀ C, form 0 M.code C = form 1 M.code C) (h2 : lay 0 M = lay 1 M) : writeOf (parseOf form) lay 0 M = writeOf (parseOf form) lay 1 M := by
  have h3 : ∀ b, parseOf form 0 M.code b = parseOf form 1 M.code b := fun b => by
    unfold parseOf
    rw [if_pos (Or.inl rfl), if_pos (Or.inr rfl), h1]
  unfold writeOf
  rw [h2, h3]
theorem filesB_21 : ∀ L, filesB 0 21 L = filesB 1 21 L
  | [] => rfl
  | r :: L => by
    show recB 0 21 r ++ filesB 0 21 L = recB 1 21 r ++ filesB 1 21 L
    rw [filesB_21 L]
    rfl
theorem echo_same {M : Msg} {l : List Int} (hc : M.code = 5 ∨ M.code = 6 ∨ M.code = 21 ∨ M.code = 22) (h : pduW 0 M = some l) : pduW 1 M = some l := by
  rw [← h]
  refine (pduW_fam (fail0 h) ?_).symm
  rcases hc with hc | hc | hc | hc
  · rw [hc]
    refine writeOf_eq (fun C => ?_) ?_
    · rw [hc]; rfl
    · unfold coilsLay; rw [hc]; rfl
  · rw [hc]
    refine writeOf_eq (fun C => ?_) ?_
    · rw [hc]; rfl
    · unfold regsLay; rw [hc]; rfl
  · rw [hc]
    refine writeOf_eq (fun C => ?_) ?_
    · rw [hc]; rfl
    · rw [filesLay_eq, filesLay_eq, hc, filesB_21]
  · rw [hc]
    refine writeOf_eq (fun C => ?_) ?_
    · rw [hc]; rfl
    · unfold regsLay; rw [hc]; rfl
theorem wd1 {a : Int} {r : List Int} (ha : 0 ≤ a ∧ a < 65536) : (Cur.mk (putW [a] ++ r) false 0).wordV = a ∧ (Cur.mk (putW [a] ++ r) false 0).wordsC 1 = ⟨r, false, 0⟩ := by
  have hb : (Cur.mk (putW [a] ++ r) false 0).wbad 1 = false := by
    unfold Cur.wbad
    simp only [putW, List.length_append, List.length_cons, List.length_nil, Bool.or_eq_false_iff, decide_eq_false_iff_not]
    omega
  have hf : (Cur.mk (putW [a] ++ r) false 0).fails (2 * 1) = false := by
    unfold Cur.fails
    simp [putW]
    omega
  constructor
  · unfold Cur.wordV Cur.wordsR Cur.bytesR
    rw [hb, hf]
    show (wordTake [a / 256, a % 256]).getD 0 0 = a
    unfold wordTake
    rw [if_pos (by simp)]
    show a / 256 * 256 + a % 256 = a
    omega
  · unfold Cur.wordsC Cur.bytesC
    rw [hb, hf]
    rfl
theorem need_t (C : Cur) (x : Int) : C.need true x = C := by
  unfold Cur.need
  rw [if_neg (by rintro ⟨_, h⟩; cases h)]
theorem wd2 {a n : Int} (ha : 0 ≤ a ∧ a < 65536) (hn : 0 ≤ n ∧ n < 65536) : (Cur.mk (putW [a, n]) false 0).wordV = a ∧ (Cur.mk (putW [a, n]) false 0).wordsC 1 = ⟨putW [n], false, 0⟩ ∧ (Cur.mk (putW [n]) false 0).wordV = n ∧ (Cur.mk (putW [n]) false 0).wordsC 1 = ⟨[], false, 0⟩ := by
  have h1 := wd1 (r := putW [n]) ha
  have h2 := wd1 (r := []) hn
  rw [List.append_nil] at h2
  exact ⟨h1.1, h1.2, h2.1, h2.2⟩
theorem asks_ok {a n most c : Int} (ha : 0 ≤ a ∧ a < 65536) (hn : 0 ≤ n ∧ n < 65536) (h1 : 1 ≤ n ∧ n ≤ most) (h2 : within a n = true) : asksR most c ⟨putW [a, n], false, 0⟩ = (⟨[], false, 0⟩, { Msg.zero with code := c, addr := a, count := n }) := by
  obtain ⟨e1, e2, e3, e4⟩ := wd2 ha hn
  unfold asksR spanC spanC1
  rw [e2, e1, e3, e4, h2, decide_eq_true h1.1, decide_eq_true h1.2]
  rw [show (true && true) = true from rfl, need_t, need_t]
theorem rasks_ok {a n most c : Int} (ha : 0 ≤ a ∧ a < 65536) (hn : 0 ≤ n ∧ n < 65536) (h1 : 1 ≤ n ∧ n ≤ most) (h2 : within a n = true) : rasksR most c ⟨putW [a, n], false, 0⟩ = (⟨[], false, 0⟩, { Msg.zero with code := c, addr := a, count := n }) := by
  obtain ⟨e1, e2, e3, e4⟩ := wd2 ha hn
  unfold rasksR rspanC
  rw [e2, e1, e3, e4, h2, decide_eq_true h1.1, decide_eq_true h1.2]
  rw [show (true && true) = true from rfl, need_t, need_t]
theorem span_e {C : Cur} {most : Int} (h : (spanC C most).e = 0) : (1 ≤ (C.wordsC 1).wordV ∧ (C.wordsC 1).wordV ≤ most) ∧ within C.wordV (C.wordsC 1).wordV = true := by
  obtain ⟨h1, h2⟩ := nd_ok (by decide) h
  obtain ⟨_, h3⟩ := nd_ok (by decide) h1
  simp only [Bool.and_eq_true, decide_eq_true_eq] at h3
  exact ⟨h3, h2⟩
theorem rspan_e {C : Cur} {a most : Int} (h : (rspanC C a most).e = 0) : (1 ≤ C.wordV ∧ C.wordV ≤ most) ∧ within a C.wordV = true := by
  obtain ⟨h1, h2⟩ := nd_ok (by decide) h
  obtain ⟨_, h3⟩ := nd_ok (by decide) h1
  simp only [Bool.and_eq_true, decide_eq_true_eq] at h3
  exact ⟨h3, h2⟩
theorem parse_fin {form : Int → Int → Cur → Option (Cur × Msg)} {dir c : Int} {b : List Int} {M : Msg} (hd : dir = 0 ∨ dir = 1) (h : parseOf form dir c b = (M, 0)) : ∃ C', form dir c ⟨b, false, 0⟩ = some (C', M) ∧ C'.endC.e = 0 := by
  unfold parseOf at h
  rw [if_pos hd] at h
  split at h
  · cases h
  · rename_i r hr
    unfold finish at h
    split at h
    · rename_i he
      injection h with h
      obtain ⟨C', M'⟩ := r
      have h : M' = M := h
      subst h
      exact ⟨C', hr, he⟩
    · rename_i he
      injection h with _ h
      exact absurd h he
theorem end0 {C : Cur} (h : C.endC.e = 0) : C.e = 0 := (nd_ok (by decide) h).1
theorem wo_e {C : Cur} {n : Int} (h : (C.wordsC n).e = 0) : C.e = 0 := by
  unfold Cur.wordsC at h
  split at h
  · exact (by_ok h).1
  · exact (by_ok h).1
theorem many_ok {M : Msg} {l : List Int} (hc : M.code = 15 ∨ M.code = 16) (h : pduW 0 M = some l) : (∃ r, l = [M.code] ++ (putW [M.addr, M.count] ++ r) ∧ 1 ≤ r.length) ∧ (1 ≤ M.count ∧ (M.code = 15 → M.count ≤ 1968) ∧ (M.code = 16 → M.count ≤ 123)) ∧ within M.addr M.count = true := by
  have hf := fail0 h
  unfold pduW at h
  rw [hf, if_neg (by decide)] at h
  split at h
  · cases h
  rename_i l' hl'
  split at h
  · cases h
  injection h with h
  subst h
  rcases hc with hc | hc
  · rw [hc] at hl' ⊢
    obtain ⟨h1, h2⟩ := writeOf_some (show writeOf parseCoils coilsLay 0 M = some l' from hl')
    rw [hc] at h1
    obtain ⟨C', h3, h4⟩ := parse_fin (Or.inl rfl) h1
    have h3 : some (csmR 15 ⟨l', false, 0⟩) = some (C', M) := h3
    obtain ⟨rfl, rfl⟩ := some_pair h3
    obtain ⟨h6, _⟩ := nd_ok (by decide) (end0 h4)
    obtain ⟨h7, _⟩ := nd_ok (by decide) (by_ok h6).1
    obtain ⟨h8, h9⟩ := span_e (by_ok h7).1
    refine ⟨⟨[((packB (csmR 15 ⟨l', false, 0⟩).2.bits).length : Int) % 256] ++ packB (csmR 15 ⟨l', false, 0⟩).2.bits, ?_, by simp⟩, ⟨h8.1, fun _ => h8.2, fun h => absurd h (by decide)⟩, h9⟩
    rw [← List.append_assoc (putW _)]
    exact congrArg _ h2
  · rw [hc] at hl' ⊢
    obtain ⟨h1, h2⟩ := writeOf_some (show writeOf parseRegs regsLay 0 M = some l' from hl')
    rw [hc] at h1
    obtain ⟨C', h3, h4⟩ := parse_fin (Or.inl rfl) h1
    have h3 : some (rmanyR 16 ⟨l', false, 0⟩) = some (C', M) := h3
    obtain ⟨rfl, rfl⟩ := some_pair h3
    have h6 : (rmanyC ⟨l', false, 0⟩).e = 0 := wo_e (end0 h4)
    obtain ⟨h7, _⟩ := nd_ok (by decide) h6
    obtain ⟨h8, h9⟩ := rspan_e (by_ok h7).1
    refine ⟨⟨[(2 * ((rmanyR 16 ⟨l', false, 0⟩).2.words.length : Int)) % 256] ++ putW (rmanyR 16 ⟨l', false, 0⟩).2.words, ?_, by simp⟩, ⟨h8.1, (fun h => absurd h (by decide)), fun _ => h8.2⟩, h9⟩
    rw [← List.append_assoc (putW _)]
    exact congrArg _ h2
theorem echo_cut {M : Msg} {l : List Int} (hc : M.code = 15 ∨ M.code = 16) (ha : 0 ≤ M.addr ∧ M.addr < 65536) (hn : 0 ≤ M.count ∧ M.count < 65536) (h : pduW 0 M = some l) : 6 ≤ l.length ∧ pduW 1 (echoM M) = some (l.take 5) := by
  obtain ⟨⟨r, rfl, hr⟩, ⟨h1, h2, h3⟩, h4⟩ := many_ok hc h
  refine ⟨by simp [putW]; omega, ?_⟩
  show pduW 1 (echoM M) = some ([M.code] ++ putW [M.addr, M.count])
  have hw : famW (cfam M.code) 1 (echoM M) = some (putW [M.addr, M.count]) := by
    rcases hc with hc | hc
    · rw [hc]
      have h5 := h2 hc
      refine writeOf_ok (parse := parseCoils) (lay := coilsLay) ?_ ?_
      · unfold coilsLay
        rw [show (echoM M).code = 15 from hc]
        rfl
      · show parseOf coilsForm 1 M.code _ = _
        rw [hc]
        unfold parseOf
        rw [if_pos (Or.inr rfl)]
        show finish (asksR 1968 15 ⟨putW [M.addr, M.count], false, 0⟩).2 (asksR 1968 15 ⟨putW [M.addr, M.count], false, 0⟩).1 = _
        rw [asks_ok ha hn ⟨h1, h5⟩ h4]
        show ((_ : Msg), (0 : Int)) = _
        unfold echoM
        rw [hc]
    · rw [hc]
      have h5 := h3 hc
      refine writeOf_ok (parse := parseRegs) (lay := regsLay) ?_ ?_
      · unfold regsLay
        rw [show (echoM M).code = 16 from hc]
        rfl
      · show parseOf regsForm 1 M.code _ = _
        rw [hc]
        unfold parseOf
        rw [if_pos (Or.inr rfl)]
        show finish (rasksR 123 16 ⟨putW [M.addr, M.count], false, 0⟩).2 (rasksR 123 16 ⟨putW [M.addr, M.count], false, 0⟩).1 = _
        rw [rasks_ok ha hn ⟨h1, h5⟩ h4]
        show ((_ : Msg), (0 : Int)) = _
        unfold echoM
        rw [hc]
  unfold pduW
  show (if ((0 : Int) != 0) = true then _ else match famW (cfam M.code) 1 (echoM M) with | none => none | some l => if decide (253 ≤ (l.length : Int)) then none else some ([M.code] ++ l)) = _
  rw [if_neg (by decide), hw]
  rfl
end Go.Proofs.Ytbaeecmamacphaa
namespace Go.Proofs.Ytbaeecmamacphaa
def mbB (t z n u : Int) (l : List Int) : List Int := (putW [t, z, n] ++ [u]) ++ l
theorem mbB_len (t z n u : Int) (l : List Int) : (mbB t z n u l).length = 7 + l.length := by simp [mbB, putW]; omega
theorem by1 (u : Int) (l : List Int) : (Cur.mk ([u] ++ l) false 0).byteV = u ∧ (Cur.mk ([u] ++ l) false 0).bytesC 1 = ⟨l, false, 0⟩ := by
  have hf : (Cur.mk ([u] ++ l) false 0).fails 1 = false := by
    unfold Cur.fails
    simp only [List.length_append, List.length_cons, List.length_nil, Bool.or_eq_false_iff, decide_eq_false_iff_not]
    refine ⟨⟨trivial, ?_⟩, ?_⟩ <;> omega
  constructor
  · unfold Cur.byteV Cur.bytesR
    rw [hf]
    rfl
  · unfold Cur.bytesC
    rw [hf]
    rfl
theorem all_bytes (l : List Int) : (Cur.mk l false 0).bytesR ((l.length : Nat) : Int) = l := by
  have hf : (Cur.mk l false 0).fails ((l.length : Nat) : Int) = false := by
    unfold Cur.fails
    simp only [Bool.or_eq_false_iff, decide_eq_false_iff_not]
    refine ⟨⟨trivial, ?_⟩, ?_⟩ <;> omega
  unfold Cur.bytesR
  rw [hf]
  show l.take (l.length : Int).toNat = l
  rw [Int.toNat_natCast, List.take_length]
theorem mb_parts {t z n u : Int} {l : List Int} (ht : 0 ≤ t ∧ t < 65536) (hz : 0 ≤ z ∧ z < 65536) (hn : 0 ≤ n ∧ n < 65536) :
    (mb0 (mbB t z n u l)).wordV = t ∧ (mb1 (mbB t z n u l)).wordV = z ∧ (mb2 (mbB t z n u l)).wordV = n ∧ (mb3 (mbB t z n u l)).byteV = u ∧ mbBody (mbB t z n u l) = l := by
  have h1 := wd1 (r := putW [z] ++ (putW [n] ++ ([u] ++ l))) ht
  have h2 := wd1 (r := putW [n] ++ ([u] ++ l)) hz
  have h3 := wd1 (r := [u] ++ l) hn
  have h4 := by1 u l
  have e0 : mb0 (mbB t z n u l) = ⟨putW [t] ++ (putW [z] ++ (putW [n] ++ ([u] ++ l))), false, 0⟩ := by simp [mb0, mbB, putW]
  have e1 : mb1 (mbB t z n u l) = ⟨putW [z] ++ (putW [n] ++ ([u] ++ l)), false, 0⟩ := by unfold mb1; rw [e0]; exact h1.2
  have e2 : mb2 (mbB t z n u l) = ⟨putW [n] ++ ([u] ++ l), false, 0⟩ := by unfold mb2; rw [e1]; exact h2.2
  have e3 : mb3 (mbB t z n u l) = ⟨[u] ++ l, false, 0⟩ := by unfold mb3; rw [e2]; exact h3.2
  have e4 : mb4 (mbB t z n u l) = ⟨l, false, 0⟩ := by unfold mb4; rw [e3]; exact h4.2
  refine ⟨by rw [e0]; exact h1.1, by rw [e1]; exact h2.1, by rw [e2]; exact h3.1, by rw [e3]; exact h4.1, ?_⟩
  unfold mbBody
  rw [e4]
  exact all_bytes l
theorem mbapP_B {dir t z n u : Int} {l : List Int} (hd : dir = 0 ∨ dir = 1) (ht : 0 ≤ t ∧ t < 65536) (hz : 0 ≤ z ∧ z < 65536) (hn : 0 ≤ n ∧ n < 65536) :
    mbapP dir (mbB t z n u l) = if decide ((7 + l.length : Int) < 8) then (Frm.zero, 2) else if decide (260 < (7 + l.length : Int)) then (Frm.zero, 3) else if z != 0 then (Frm.zero, 13) else if n != (l.length : Int) + 1 then (Frm.zero, 5) else frmOf u t (pduP dir l) := by
  obtain ⟨h0, h1, h2, h3, h4⟩ := mb_parts (u := u) (l := l) ht hz hn
  unfold mbapP
  rw [h0, h1, h2, h3, h4, mbB_len]
  rw [if_neg (show ¬ (dir != 0 && dir != 1) = true by rcases hd with rfl | rfl <;> decide)]
  rw [show ((7 + l.length : Nat) : Int) = 7 + (l.length : Int) by omega, show (7 + (l.length : Int)) - 6 = (l.length : Int) + 1 by omega]
theorem mbapW_some {dir u t : Int} {M : Msg} {b : List Int} (h : mbapW dir u t M = some b) : ∃ l, pduW dir M = some l ∧ b = mbB t 0 ((l.length : Int) + 1) u l ∧ l.length ≤ 253 := by
  unfold mbapW at h
  split at h
  · cases h
  · rename_i l hl
    have hle := pduW_len hl
    injection h with h
    refine ⟨l, hl, ?_, hle⟩
    rw [← h, Int.emod_eq_of_lt (by omega) (by omega)]
    rfl
theorem mbapW_le {dir u t : Int} {M : Msg} {b : List Int} (hc : 0 ≤ M.code ∧ M.code < 256) (h : mbapW dir u t M = some b) : 8 ≤ b.length ∧ b.length ≤ 260 := by
  obtain ⟨l, h1, rfl, h2⟩ := mbapW_some h
  have := pduW_pos hc h1
  rw [mbB_len]
  omega
theorem mbapW_none {dir u t u' t' : Int} {M : Msg} (h : mbapW dir u t M = none) : mbapW dir u' t' M = none := by
  unfold mbapW at h ⊢
  split at h
  · rename_i h1
    rfl
  · cases h
theorem mbap_rt {dir u t : Int} {M : Msg} {b : List Int} (hd : dir = 0 ∨ dir = 1) (hc : 0 ≤ M.code ∧ M.code < 256) (hf : 0 ≤ M.fail ∧ M.fail < 256) (ht : 0 ≤ t ∧ t < 65536) (h : mbapW dir u t M = some b) : mbapP dir b = (⟨u, t, M⟩, 0) := by
  obtain ⟨l, h1, rfl, h2⟩ := mbapW_some h
  have h3 := pduW_pos hc h1
  rw [mbapP_B hd ht (by decide) (by omega), pdu_rt hd hc hf h1]
  rw [if_neg (by simp only [decide_eq_true_eq]; omega), if_neg (by simp only [decide_eq_true_eq]; omega), if_neg (by decide), if_neg (by simp)]
  rfl
theorem putW3 {a b c d e f : Int} (ha : 0 ≤ a ∧ a < 256) (hb : 0 ≤ b ∧ b < 256) (hc : 0 ≤ c ∧ c < 256) (hd : 0 ≤ d ∧ d < 256) (he : 0 ≤ e ∧ e < 256) (hf : 0 ≤ f ∧ f < 256) : putW [a * 256 + b, c * 256 + d, e * 256 + f] = [a, b, c, d, e, f] := by
  simp only [putW]
  congr 1
  · omega
  congr 1
  · omega
  congr 1
  · omega
  congr 1
  · omega
  congr 1
  · omega
  congr 1
  omega
theorem mb_shape {b : List Int} (hr : ∀ x, x ∈ b → 0 ≤ x ∧ x < 256) (hl : 8 ≤ b.length) : ∃ t z n u l, b = mbB t z n u l ∧ (0 ≤ t ∧ t < 65536) ∧ (0 ≤ z ∧ z < 65536) ∧ (0 ≤ n ∧ n < 65536) ∧ ∀ x, x ∈ l → 0 ≤ x ∧ x < 256 := by
  match b, hr, hl with
  | a0 :: a1 :: a2 :: a3 :: a4 :: a5 :: u :: l, hr, _ =>
    have h0 := hr a0 (by simp)
    have h1 := hr a1 (by simp)
    have h2 := hr a2 (by simp)
    have h3 := hr a3 (by simp)
    have h4 := hr a4 (by simp)
    have h5 := hr a5 (by simp)
    refine ⟨a0 * 256 + a1, a2 * 256 + a3, a4 * 256 + a5, u, l, ?_, by omega, by omega, by omega, fun x hx => hr x (by simp [hx])⟩
    unfold mbB
    rw [putW3 h0 h1 h2 h3 h4 h5]
    rfl
theorem mbapP_few {dir : Int} {b : List Int} {F : Frm} {E : Int} (hr : ∀ x, x ∈ b → 0 ≤ x ∧ x < 256) (h : mbapP dir b = (F, E)) : MsgFew F.msg ∧ (E ≠ 0 → F = Frm.zero) := by
  have hz : ∀ k : Int, ((Frm.zero, k) : Frm × Int) = (F, E) → MsgFew F.msg ∧ (E ≠ 0 → F = Frm.zero) := fun k h => by
    injection h with h1 h2
    subst h1
    exact ⟨few_zero, fun _ => rfl⟩
  unfold mbapP at h
  split at h
  · exact hz _ h
  split at h
  · exact hz _ h
  split at h
  · exact hz _ h
  split at h
  · exact hz _ h
  split at h
  · exact hz _ h
  rename_i _ h8 _ _ _
  simp only [decide_eq_true_eq] at h8
  obtain ⟨t, z, n, u, l, rfl, ht, hz', hn, hl⟩ := mb_shape hr (by omega)
  obtain ⟨h0, h1, h2, h3, h4⟩ := mb_parts (u := u) (l := l) ht hz' hn
  rw [h4] at h
  cases hp : pduP dir l with
  | mk M E' =>
    rw [hp] at h
    obtain ⟨k1, k2⟩ := pduP_few hl hp
    have h : (if (E' != 0) = true then ((Frm.zero, E') : Frm × Int) else (⟨_, _, M⟩, 0)) = (F, E) := h
    split at h
    · exact hz _ h
    · injection h with h5 h6
      subst h5
      exact ⟨k1, fun hE => absurd h6.symm hE⟩
theorem mbap_back {dir : Int} {b : List Int} {F : Frm} {E : Int} {r : Option (List Int)} (hd : dir = 0 ∨ dir = 1) (hr : ∀ x, x ∈ b → 0 ≤ x ∧ x < 256) (h : mbapP dir b = (F, E)) (hE : (E == 0) = true) (hW : mbapW dir F.unit F.tid F.msg = r) : r = some b ∧ 8 ≤ b.length ∧ b.length ≤ 260 := by
  obtain rfl : E = 0 := by simpa using hE
  by_cases h8 : 8 ≤ b.length
  · obtain ⟨t, z, n, u, l, rfl, ht, hz', hn, hl⟩ := mb_shape hr h8
    rw [mbapP_B hd ht hz' hn] at h
    split at h
    · cases h
    split at h
    · cases h
    split at h
    · cases h
    split at h
    · cases h
    rename_i h1 h2 h3 h4
    simp only [decide_eq_true_eq] at h1 h2
    simp only [bne_iff_ne, ne_eq, Decidable.not_not] at h3 h4
    cases hp : pduP dir l with
    | mk M E' =>
      rw [hp] at h
      have h : (if (E' != 0) = true then ((Frm.zero, E') : Frm × Int) else (⟨_, _, M⟩, 0)) = (F, 0) := h
      split at h
      · rename_i h5
        injection h with _ h6
        subst h6
        cases h5
      · rename_i h5
        injection h with h6 _
        subst h6
        obtain rfl : E' = 0 := by simpa using h5
        have h7 := pdu_back hd hl hp
        rw [← hW]
        refine ⟨?_, h8, by rw [mbB_len]; omega⟩
        show mbapW dir u t M = _
        unfold mbapW
        rw [h7]
        show some ((putW [t, 0, ((l.length : Int) + 1) % 65536] ++ [u]) ++ l) = _
        rw [h3, h4, Int.emod_eq_of_lt (by omega) (by omega)]
        rfl
  · exfalso
    unfold mbapP at h
    split at h
    · cases h
    rw [if_pos (by simp only [decide_eq_true_eq]; omega)] at h
    cases h
theorem mbap_cut {dir u t : Int} {M : Msg} {b : List Int} (hd : dir = 0 ∨ dir = 1) (ht : 0 ≤ t ∧ t < 65536) (h : mbapW dir u t M = some b) {k : Nat} (hk : k < b.length) {F : Frm} {E : Int} (hP : mbapP dir (b.take k) = (F, E)) : E = 2 ∨ E = 5 := by
  obtain ⟨l, h1, rfl, h2⟩ := mbapW_some h
  rw [mbB_len] at hk
  by_cases h8 : k < 8
  · left
    unfold mbapP at hP
    rw [if_neg (show ¬ (dir != 0 && dir != 1) = true by rcases hd with rfl | rfl <;> decide)] at hP
    rw [if_pos (by simp only [decide_eq_true_eq, List.length_take]; omega)] at hP
    injection hP with _ h3
    exact h3.symm
  · right
    have h3 : (mbB t 0 ((l.length : Int) + 1) u l).take k = mbB t 0 ((l.length : Int) + 1) u (l.take (k - 7)) := by
      unfold mbB
      rw [List.take_append]
      have : (putW [t, 0, (l.length : Int) + 1] ++ [u]).length = 7 := rfl
      rw [this, List.take_of_length_le (by rw [this]; omega)]
    rw [h3, mbapP_B hd ht (by decide) (by omega)] at hP
    have h4 : (l.take (k - 7)).length = k - 7 := by rw [List.length_take]; omega
    rw [h4] at hP
    rw [if_neg (by simp only [decide_eq_true_eq]; omega), if_neg (by simp only [decide_eq_true_eq]; omega), if_neg (by decide), if_pos (by simp only [bne_iff_ne, ne_eq]; omega)] at hP
    injection hP with _ h5
    exact h5.symm
theorem mbap_more {dir u t : Int} {M : Msg} {b m : List Int} (hd : dir = 0 ∨ dir = 1) (hc : 0 ≤ M.code ∧ M.code < 256) (ht : 0 ≤ t ∧ t < 65536) (h : mbapW dir u t M = some b) (hm : 0 < m.length) {F : Frm} {E : Int} (hP : mbapP dir (b ++ m) = (F, E)) : E = 5 ∨ E = 3 := by
  obtain ⟨l, h1, rfl, h2⟩ := mbapW_some h
  have h0 := pduW_pos hc h1
  have h3 : mbB t 0 ((l.length : Int) + 1) u l ++ m = mbB t 0 ((l.length : Int) + 1) u (l ++ m) := by simp [mbB]
  rw [h3, mbapP_B hd ht (by decide) (by omega), List.length_append] at hP
  rw [if_neg (by simp only [decide_eq_true_eq]; omega)] at hP
  split at hP
  · injection hP with _ h5
    exact Or.inr h5.symm
  · rw [if_neg (by decide), if_pos (by simp only [bne_iff_ne, ne_eq]; omega)] at hP
    injection hP with _ h5
    exact Or.inl h5.symm
theorem mbap_tid {dir u t t' : Int} {M : Msg} {b b' : List Int} (h : mbapW dir u t M = some b) (h' : mbapW dir u t' M = some b') : b'.length = b.length ∧ b.drop 2 = b'.drop 2 ∧ b'.getD 0 0 = t' / 256 ∧ b'.getD 1 0 = t' % 256 := by
  obtain ⟨l, h1, rfl, h2⟩ := mbapW_some h
  obtain ⟨l', h1', rfl, h2'⟩ := mbapW_some h'
  obtain rfl : l = l' := Option.some.inj (h1.symm.trans h1')
  exact ⟨rfl, rfl, rfl, rfl⟩
theorem mbap_proto {dir u t p : Int} {M : Msg} {b : List Int} (hd : dir = 0 ∨ dir = 1) (hc : 0 ≤ M.code ∧ M.code < 256) (ht : 0 ≤ t ∧ t < 65536) (hp : 0 < p ∧ p < 256) (h : mbapW dir u t M = some b) {F : Frm} {E : Int} (hP : mbapP dir (b.set 3 p) = (F, E)) : (E == 13) = true := by
  obtain ⟨l, h1, rfl, h2⟩ := mbapW_some h
  have h0 := pduW_pos hc h1
  have h3 : (mbB t 0 ((l.length : Int) + 1) u l).set 3 p = mbB t p ((l.length : Int) + 1) u l := by
    show [t / 256, t % 256, 0, p, _, _, u] ++ l = [t / 256, t % 256, p / 256, p % 256, _, _, u] ++ l
    rw [show p / 256 = 0 by omega, show p % 256 = p by omega]
  rw [h3, mbapP_B hd ht (by omega) (by omega)] at hP
  rw [if_neg (by simp only [decide_eq_true_eq]; omega), if_neg (by simp only [decide_eq_true_eq]; omega), if_pos (by simp only [bne_iff_ne, ne_eq]; omega)] at hP
  injection hP with _ h5
  subst h5
  rfl
theorem mbap_unit {dir u t : Int} {M : Msg} {b : List Int} (hc : 0 ≤ M.code ∧ M.code < 256) (h : mbapW dir u t M = some b) : b.getD 6 0 = u ∧ b.getD 2 0 = 0 ∧ b.getD 3 0 = 0 ∧ 256 * b.getD 4 0 + b.getD 5 0 = (b.length : Int) - 6 ∧ ((M.fail != 0) = false → b.getD 7 0 = M.code) := by
  obtain ⟨l, h1, rfl, h2⟩ := mbapW_some h
  refine ⟨rfl, rfl, rfl, ?_, fun hf => ?_⟩
  · rw [mbB_len]
    show 256 * (((l.length : Int) + 1) / 256) + ((l.length : Int) + 1) % 256 = _
    omega
  · have := first_ok hc h1 hf
    have h3 := pduW_pos hc h1
    cases l with
    | nil => simp at h3
    | cons a r => exact this
open Go.RowKit
section
variable {H : Type} {enc : TypeId × Value → H} {w : World} {base : Nat} {spare : Nat → Bool} {held : Bool} {n : Nat} {y : DataW H × List MemPlace}
theorem head_open {cs : List Value} (h : DataW.trod enc Try.prog w base spare held n 46 cs = some y) : ∃ u t, cs = [.int .u8 u, .int .u16 t] ∧ (0 ≤ u ∧ u < 256) ∧ (0 ≤ t ∧ t < 65536) := by
  obtain ⟨xs, m, rfl, _, hlen, hxs, hf⟩ := DataW.trod_struct Try.underlying46 h
  rw [show Try.prog.cellsOf 46 = 2 from by kernel_rfl] at hlen
  replace hxs : xs.length = 2 := hxs.trans (by kernel_rfl)
  obtain ⟨y0, g0⟩ : ∃ y, xs[0]? = some y := ⟨_, List.getElem?_eq_getElem (show 0 < xs.length by omega)⟩
  have f0 : DataW.trod enc Try.prog w base spare held m 5 ((cs.drop 0).take (Try.prog.cellsOf 5)) = xs[0]? := hf 0 _ rfl
  rw [g0] at f0
  rw [show Try.prog.cellsOf 5 = 1 from by kernel_rfl] at f0
  obtain ⟨x0, e0, r0⟩ := el_u8 f0
  obtain ⟨y1, g1⟩ : ∃ y, xs[1]? = some y := ⟨_, List.getElem?_eq_getElem (show 1 < xs.length by omega)⟩
  have f1 : DataW.trod enc Try.prog w base spare held m 23 ((cs.drop 1).take (Try.prog.cellsOf 23)) = xs[1]? := hf 1 _ rfl
  rw [g1] at f1
  rw [show Try.prog.cellsOf 23 = 1 from by kernel_rfl] at f1
  obtain ⟨x1, e1, r1⟩ := el_u16 f1
  have hcs : cs = [.int .u8 x0, .int .u16 x1] := by
    show cs.drop 0 = _
    rw [peel e0, peel e1, drop_all hlen]
  exact ⟨x0, x1, hcs, r0, r1⟩
set_option maxRecDepth 20000 in
theorem frm_open {cs : List Value} (h : DataW.trod enc Try.prog w base spare held n 48 cs = some y) : ∃ u t M c, cs = [.int .u8 u, .int .u16 t] ++ c ∧ MsgRd false w c M ∧ (0 ≤ u ∧ u < 256) ∧ (0 ≤ t ∧ t < 65536) := by
  obtain ⟨xs, m, rfl, _, hlen, hxs, hf⟩ := DataW.trod_struct Try.underlying48 h
  rw [show Try.prog.cellsOf 48 = 24 from by kernel_rfl] at hlen
  replace hxs : xs.length = 2 := hxs.trans (by kernel_rfl)
  obtain ⟨y0, g0⟩ : ∃ y, xs[0]? = some y := ⟨_, List.getElem?_eq_getElem (show 0 < xs.length by omega)⟩
  have f0 : DataW.trod enc Try.prog w base spare held m 46 ((cs.drop 0).take (Try.prog.cellsOf 46)) = xs[0]? := hf 0 _ rfl
  rw [g0] at f0
  rw [show Try.prog.cellsOf 46 = 2 from by kernel_rfl] at f0
  obtain ⟨u, t, e0, hu, ht⟩ := head_open f0
  obtain ⟨y1, g1⟩ : ∃ y, xs[1]? = some y := ⟨_, List.getElem?_eq_getElem (show 1 < xs.length by omega)⟩
  have f1 : DataW.trod enc Try.prog w base spare held m 29 ((cs.drop 2).take (Try.prog.cellsOf 29)) = xs[1]? := hf 1 _ rfl
  rw [g1] at f1
  rw [show Try.prog.cellsOf 29 = 22 from by kernel_rfl] at f1
  obtain ⟨M, hM⟩ := msg_open f1
  refine ⟨u, t, M, (cs.drop 2).take 22, ?_, hM, hu, ht⟩
  rw [← e0, List.take_of_length_le (show (cs.drop 2).length ≤ 22 by rw [List.length_drop]; omega)]
  exact (List.take_append_drop 2 cs).symm
set_option maxRecDepth 20000 in
open Go.WideShapes in
theorem frm_arg {v : Value} {d : DataW H} {p : List MemPlace} (hv : ∃ b0, Value.okWide Try.prog w .any b0 48 v) (h : DataW.Trod enc Try.prog w base spare held 48 v d p) : ∃ u t M x, v = .agg (fcl u t M x) ∧ MsgRd false w (mcl M x).toList M ∧ (0 ≤ u ∧ u < 256) ∧ (0 ≤ t ∧ t < 65536) := by
  obtain ⟨b0, hv⟩ := hv
  obtain ⟨cs, rfl, hsz⟩ := okWide_struct Try.underlying48 hv
  obtain ⟨fuel, hf⟩ := h
  obtain ⟨u, t, M, c, e0, hM, hu, ht⟩ := frm_open hf
  obtain ⟨x, hx⟩ := mcl_of (cs := c.toArray) (by simpa using hM)
  refine ⟨u, t, M, x, ?_, ?_, hu, ht⟩
  · rw [fcl_eq, ← hx]
    congr 1
    apply Array.toList_inj.1
    rw [show cs.toList = _ from e0]
    simp
  · rw [← hx]
    simpa using hM
end
end Go.Proofs.Ytbaeecmamacphaa
