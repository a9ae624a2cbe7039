/- Contracts of functions, part KA3. -/
import Derived.Test.YtbaeecmamacphaaKA1
import Derived.Test.YtbaeecmamacphaaKA2
set_option linter.unusedVariables false
set_option linter.unusedSimpArgs false
namespace Go.Proofs.Ytbaeecmamacphaa
open Go.RowKit
set_option maxRecDepth 100000 in
set_option maxHeartbeats 2000000 in
theorem coils_w0 {m : Bool} {v : Value} {b : List Int} {w : World} {c : Int} {C : Cur} {M : Msg} (hcl : c = 1 ∨ c = 2) (h : RdB m w v b) (hb : b.length ≤ 1048576)
    (hform : ∀ g gm W, CurAt W g ⟨b, false, 0⟩ → MsgB W gm (msgZ.setIfInBounds 0 (.int .u8 c)) → Calls Try.prog 53 #[.agg #[.pointer (some ⟨g, 0, none⟩), .pointer (some ⟨gm, 0, none⟩)]] W (PFormG g gm C M W)) :
    Calls Try.prog 37 #[.int .i64 0, .int .u8 c, v] w (PMsg (finish M C) w) := by
  have hb0 := build_msg0
  have hb1 := build_msg1 c
  have hbp := build_pair
  have hbm := build_form
  go_enter Try.func37, Try.ntmps37
  have tok1_0 : True := trivial
  have tok1_1 : True := trivial
  have tok1_2 : True := trivial
  have tok1_3 : True := trivial
  have tok1_4 : True := trivial
  have tok1_5 : True := trivial
  have tok1_6 : True := trivial
  have tok1_9 : True := trivial
  have tok1_10 : True := trivial
  have tok1_11 : True := trivial
  have tok1_12 : True := trivial
  have tok1_13 : True := trivial
  have tok1_14 : True := trivial
  go_wp2_with (first | (have _t := tok1_0; refine wp_allocw rfl 29 rfl (.agg msgZ) msgZ_info ?_; intro g6 w1 hg6 hB6 hu1; clear _t tok1_0) | (have _t := tok1_1; refine wp_allocw rfl 29 rfl (.agg msgZ) msgZ_info ?_; intro gm w2 hgm hBm hu2; clear _t tok1_1) | (have _t := tok1_2; refine wp_storew rfl 29 _ _ rfl gm rfl (msgZ.setIfInBounds 0 (.int .u8 c)) rfl msgZ 29 hBm msg_size rfl (by kernel_rfl) ?_; intro w3 hBm3 hu3; have U3 := hu2.fresh1 hu3 hgm; clear _t tok1_2) | (have _t := tok1_3; go_at_call 28; refine (new_any (RdB.old h (hu1.step U3)) (by omega)).mono ?_; rintro e w4 ⟨g, rfl, hg, hc, hu4⟩; clear _t tok1_3) | (have _t := tok1_4; refine wp_allocw rfl 91 rfl (.agg #[.pointer none, .pointer none]) form_zero ?_; intro bf w5 hbf hBf hu5; clear _t tok1_4) | (have _t := tok1_5; refine wp_storew rfl 91 _ _ rfl bf rfl #[.pointer (some ⟨g, 0, none⟩), .pointer (some ⟨gm, 0, none⟩)] rfl _ _ hBf form_size rfl (by kernel_rfl) ?_; intro w6 hF6 hu6; have V6 := hu5.fresh1 hu6 hbf; clear _t tok1_5) | (have _t := tok1_6; refine wp_makemap rfl 93 rfl ?_; intro r w7 hr hmap hM; have hF := hM.blk (by simp) hF6; clear _t tok1_6) | (refine wpList_load_row rfl 91 _ rfl bf rfl _ _ _ _ hF Try.underlying91 rfl form_size ?_) | (refine wp_insert rfl 93 _ _ _ rfl Try.underlying93 Try.underlying5 r _ _ rfl hmap _ rfl _ rfl (by rfl) hM hr ?_; clear hmap hM hF; intro w8 hmap hM; have hF := hM.blk (by simp) hF6) | (have _t := tok1_9; refine wp_lookup rfl 93 _ _ true rfl Try.underlying93 Try.underlying5 r _ _ rfl hmap _ rfl _ (zero_pair _) (some (if c = 1 then 0 else 1, _)) (by rcases hcl with rfl | rfl <;> rfl) _ rfl ?_; clear _t tok1_9) | (have _t := tok1_10; refine wp_allocw rfl 92 rfl _ pair_zero ?_; intro ba w9 hba hBa hu9; clear _t tok1_10) | (have _t := tok1_11; refine wp_storew rfl 92 _ _ rfl ba rfl _ rfl _ _ hBa pair_size rfl (by kernel_rfl) ?_; intro w10 hBa10 hu10; have X10 := hu9.fresh1 hu10 hba; have V10 := (V6.step hM).step X10; have hc10 := hc.old V10; have hm10 : MsgB w10 gm _ := MsgB.upd ⟨hBm3, rfl⟩ (hu4.step V10) (by simp); have hF10 := X10.blk (by simp) hF; have ka := (blk_cell hBa10 0).trans rfl; clear hF hF6 hmap; clear _t tok1_11) | (have _t := tok1_12; go_at_call 53; refine (hform g gm _ hc10 hm10).mono ?_; rintro e w11 ⟨rfl, hc11, ⟨cs, hm11, hM11⟩, hu11⟩; have hF11 := hu11.blk (by have := hc.lt; have := blk_lt hBm3; have := hu4.size; simp; omega) hF10; have kf := (blk_cell hF11 0).trans rfl; clear hbp hbm hb1 ka; clear _t tok1_12) | (have _t := tok1_13; go_at_call 58; refine (end_any hc11).mono ?_; rintro e w12 ⟨rfl, hc12, hu12⟩; have hF12 := hu12.blk (by have := hc.lt; simp; omega) hF11; have kg := (blk_cell hF12 0).trans rfl; clear kf; clear _t tok1_13) | (have _t := tok1_14; go_at_call 59; refine (err_any hc12).mono ?_; rintro e w13 ⟨rfl, rfl⟩; have U10 := (U3.step hu4).step V10; have hG := U3.size; have hU12 := (U10.fresh2 hu11 (by omega) hgm).fresh1 hu12 (by omega); have hB612 := hU12.blk (by simp) hB6; have hm12 := hm11.upd hu12 (by simpa using (hm11.ne hc11).symm); have hM12 := hM11.upd hu12 (hc11.safe _ (by decide)); clear kg; generalize hE : C.endC.e = E; have HE := Lib.hid hE; clear hE hform; clear _t tok1_14) | (refine wpList_load_row rfl 29 _ rfl gm rfl _ _ _ _ hm12.1 Try.underlying29 rfl (by rw [hm12.2]; exact msg_size) ?_) | (refine wp_storew rfl 29 _ _ rfl g6 rfl msgZ rfl msgZ 29 hB612 msg_size rfl (by kernel_rfl) ?_; intro w14 hB614 hu14) | (refine wp_storew rfl 29 _ _ rfl g6 rfl cs rfl msgZ 29 hB612 (by rw [hm12.2]; exact msg_size) hm12.2 hM12.one ?_; intro w14 hB614 hu14))
  · have hne : ¬ E = 0 := by simpa using (show (E != 0) = true by assumption)
    refine ret_cell_tmp rfl rfl g6 _ msgZ _ _ rfl hB614 Try.underlying29 rfl msg_size ?_
    obtain rfl := HE.out
    exact finish_bad hne ((hu1.step hU12).fresh1 hu14 hg6)
  · have h0 : E = 0 := by simpa using (show (E != 0) = false by assumption)
    refine ret_cell_tmp rfl rfl g6 _ cs _ _ rfl hB614 Try.underlying29 rfl (by rw [hm12.2]; exact msg_size) ?_
    exact finish_ok (HE.out.trans h0) (hM12.upd hu14 (Safe.one hB612 (by decide))) ((hu1.step hU12).fresh1 hu14 hg6)
set_option maxRecDepth 100000 in
set_option maxHeartbeats 2000000 in
theorem coils_w1 {m : Bool} {v : Value} {b : List Int} {w : World} {c : Int} {C : Cur} {M : Msg} (hcl : c = 1 ∨ c = 2) (h : RdB m w v b) (hb : b.length ≤ 1048576)
    (hform : ∀ g gm W, CurAt W g ⟨b, false, 0⟩ → MsgB W gm (msgZ.setIfInBounds 0 (.int .u8 c)) → Calls Try.prog 54 #[.agg #[.pointer (some ⟨g, 0, none⟩), .pointer (some ⟨gm, 0, none⟩)]] W (PFormG g gm C M W)) :
    Calls Try.prog 37 #[.int .i64 1, .int .u8 c, v] w (PMsg (finish M C) w) := by
  have hb0 := build_msg0
  have hb1 := build_msg1 c
  have hbp := build_pair
  have hbm := build_form
  go_enter Try.func37, Try.ntmps37
  have tok2_0 : True := trivial
  have tok2_1 : True := trivial
  have tok2_2 : True := trivial
  have tok2_3 : True := trivial
  have tok2_4 : True := trivial
  have tok2_5 : True := trivial
  have tok2_6 : True := trivial
  have tok2_9 : True := trivial
  have tok2_10 : True := trivial
  have tok2_11 : True := trivial
  have tok2_12 : True := trivial
  have tok2_13 : True := trivial
  have tok2_14 : True := trivial
  go_wp2_with (first | (have _t := tok2_0; refine wp_allocw rfl 29 rfl (.agg msgZ) msgZ_info ?_; intro g6 w1 hg6 hB6 hu1; clear _t tok2_0) | (have _t := tok2_1; refine wp_allocw rfl 29 rfl (.agg msgZ) msgZ_info ?_; intro gm w2 hgm hBm hu2; clear _t tok2_1) | (have _t := tok2_2; refine wp_storew rfl 29 _ _ rfl gm rfl (msgZ.setIfInBounds 0 (.int .u8 c)) rfl msgZ 29 hBm msg_size rfl (by kernel_rfl) ?_; intro w3 hBm3 hu3; have U3 := hu2.fresh1 hu3 hgm; clear _t tok2_2) | (have _t := tok2_3; go_at_call 28; refine (new_any (RdB.old h (hu1.step U3)) (by omega)).mono ?_; rintro e w4 ⟨g, rfl, hg, hc, hu4⟩; clear _t tok2_3) | (have _t := tok2_4; refine wp_allocw rfl 91 rfl (.agg #[.pointer none, .pointer none]) form_zero ?_; intro bf w5 hbf hBf hu5; clear _t tok2_4) | (have _t := tok2_5; refine wp_storew rfl 91 _ _ rfl bf rfl #[.pointer (some ⟨g, 0, none⟩), .pointer (some ⟨gm, 0, none⟩)] rfl _ _ hBf form_size rfl (by kernel_rfl) ?_; intro w6 hF6 hu6; have V6 := hu5.fresh1 hu6 hbf; clear _t tok2_5) | (have _t := tok2_6; refine wp_makemap rfl 93 rfl ?_; intro r w7 hr hmap hM; have hF := hM.blk (by simp) hF6; clear _t tok2_6) | (refine wpList_load_row rfl 91 _ rfl bf rfl _ _ _ _ hF Try.underlying91 rfl form_size ?_) | (refine wp_insert rfl 93 _ _ _ rfl Try.underlying93 Try.underlying5 r _ _ rfl hmap _ rfl _ rfl (by rfl) hM hr ?_; clear hmap hM hF; intro w8 hmap hM; have hF := hM.blk (by simp) hF6) | (have _t := tok2_9; refine wp_lookup rfl 93 _ _ true rfl Try.underlying93 Try.underlying5 r _ _ rfl hmap _ rfl _ (zero_pair _) (some (if c = 1 then 0 else 1, _)) (by rcases hcl with rfl | rfl <;> rfl) _ rfl ?_; clear _t tok2_9) | (have _t := tok2_10; refine wp_allocw rfl 92 rfl _ pair_zero ?_; intro ba w9 hba hBa hu9; clear _t tok2_10) | (have _t := tok2_11; refine wp_storew rfl 92 _ _ rfl ba rfl _ rfl _ _ hBa pair_size rfl (by kernel_rfl) ?_; intro w10 hBa10 hu10; have X10 := hu9.fresh1 hu10 hba; have V10 := (V6.step hM).step X10; have hc10 := hc.old V10; have hm10 : MsgB w10 gm _ := MsgB.upd ⟨hBm3, rfl⟩ (hu4.step V10) (by simp); have hF10 := X10.blk (by simp) hF; have ka := (blk_cell hBa10 1).trans rfl; clear hF hF6 hmap; clear _t tok2_11) | (have _t := tok2_12; go_at_call 54; refine (hform g gm _ hc10 hm10).mono ?_; rintro e w11 ⟨rfl, hc11, ⟨cs, hm11, hM11⟩, hu11⟩; have hF11 := hu11.blk (by have := hc.lt; have := blk_lt hBm3; have := hu4.size; simp; omega) hF10; have kf := (blk_cell hF11 0).trans rfl; clear hbp hbm hb1 ka; clear _t tok2_12) | (have _t := tok2_13; go_at_call 58; refine (end_any hc11).mono ?_; rintro e w12 ⟨rfl, hc12, hu12⟩; have hF12 := hu12.blk (by have := hc.lt; simp; omega) hF11; have kg := (blk_cell hF12 0).trans rfl; clear kf; clear _t tok2_13) | (have _t := tok2_14; go_at_call 59; refine (err_any hc12).mono ?_; rintro e w13 ⟨rfl, rfl⟩; have U10 := (U3.step hu4).step V10; have hG := U3.size; have hU12 := (U10.fresh2 hu11 (by omega) hgm).fresh1 hu12 (by omega); have hB612 := hU12.blk (by simp) hB6; have hm12 := hm11.upd hu12 (by simpa using (hm11.ne hc11).symm); have hM12 := hM11.upd hu12 (hc11.safe _ (by decide)); clear kg; generalize hE : C.endC.e = E; have HE := Lib.hid hE; clear hE hform; clear _t tok2_14) | (refine wpList_load_row rfl 29 _ rfl gm rfl _ _ _ _ hm12.1 Try.underlying29 rfl (by rw [hm12.2]; exact msg_size) ?_) | (refine wp_storew rfl 29 _ _ rfl g6 rfl msgZ rfl msgZ 29 hB612 msg_size rfl (by kernel_rfl) ?_; intro w14 hB614 hu14) | (refine wp_storew rfl 29 _ _ rfl g6 rfl cs rfl msgZ 29 hB612 (by rw [hm12.2]; exact msg_size) hm12.2 hM12.one ?_; intro w14 hB614 hu14))
  · have hne : ¬ E = 0 := by simpa using (show (E != 0) = true by assumption)
    refine ret_cell_tmp rfl rfl g6 _ msgZ _ _ rfl hB614 Try.underlying29 rfl msg_size ?_
    obtain rfl := HE.out
    exact finish_bad hne ((hu1.step hU12).fresh1 hu14 hg6)
  · have h0 : E = 0 := by simpa using (show (E != 0) = false by assumption)
    refine ret_cell_tmp rfl rfl g6 _ cs _ _ rfl hB614 Try.underlying29 rfl (by rw [hm12.2]; exact msg_size) ?_
    exact finish_ok (HE.out.trans h0) (hM12.upd hu14 (Safe.one hB612 (by decide))) ((hu1.step hU12).fresh1 hu14 hg6)
set_option maxRecDepth 100000 in
set_option maxHeartbeats 2000000 in
theorem coils_w2 {m : Bool} {v : Value} {b : List Int} {w : World} {c : Int} {C : Cur} {M : Msg} (hcl : c = 5 ∨ c = 5) (h : RdB m w v b) (hb : b.length ≤ 1048576)
    (hform : ∀ g gm W, CurAt W g ⟨b, false, 0⟩ → MsgB W gm (msgZ.setIfInBounds 0 (.int .u8 c)) → Calls Try.prog 55 #[.agg #[.pointer (some ⟨g, 0, none⟩), .pointer (some ⟨gm, 0, none⟩)]] W (PFormG g gm C M W)) :
    Calls Try.prog 37 #[.int .i64 0, .int .u8 c, v] w (PMsg (finish M C) w) := by
  have hb0 := build_msg0
  have hb1 := build_msg1 c
  have hbp := build_pair
  have hbm := build_form
  go_enter Try.func37, Try.ntmps37
  have tok3_0 : True := trivial
  have tok3_1 : True := trivial
  have tok3_2 : True := trivial
  have tok3_3 : True := trivial
  have tok3_4 : True := trivial
  have tok3_5 : True := trivial
  have tok3_6 : True := trivial
  have tok3_9 : True := trivial
  have tok3_10 : True := trivial
  have tok3_11 : True := trivial
  have tok3_12 : True := trivial
  have tok3_13 : True := trivial
  have tok3_14 : True := trivial
  go_wp2_with (first | (have _t := tok3_0; refine wp_allocw rfl 29 rfl (.agg msgZ) msgZ_info ?_; intro g6 w1 hg6 hB6 hu1; clear _t tok3_0) | (have _t := tok3_1; refine wp_allocw rfl 29 rfl (.agg msgZ) msgZ_info ?_; intro gm w2 hgm hBm hu2; clear _t tok3_1) | (have _t := tok3_2; refine wp_storew rfl 29 _ _ rfl gm rfl (msgZ.setIfInBounds 0 (.int .u8 c)) rfl msgZ 29 hBm msg_size rfl (by kernel_rfl) ?_; intro w3 hBm3 hu3; have U3 := hu2.fresh1 hu3 hgm; clear _t tok3_2) | (have _t := tok3_3; go_at_call 28; refine (new_any (RdB.old h (hu1.step U3)) (by omega)).mono ?_; rintro e w4 ⟨g, rfl, hg, hc, hu4⟩; clear _t tok3_3) | (have _t := tok3_4; refine wp_allocw rfl 91 rfl (.agg #[.pointer none, .pointer none]) form_zero ?_; intro bf w5 hbf hBf hu5; clear _t tok3_4) | (have _t := tok3_5; refine wp_storew rfl 91 _ _ rfl bf rfl #[.pointer (some ⟨g, 0, none⟩), .pointer (some ⟨gm, 0, none⟩)] rfl _ _ hBf form_size rfl (by kernel_rfl) ?_; intro w6 hF6 hu6; have V6 := hu5.fresh1 hu6 hbf; clear _t tok3_5) | (have _t := tok3_6; refine wp_makemap rfl 93 rfl ?_; intro r w7 hr hmap hM; have hF := hM.blk (by simp) hF6; clear _t tok3_6) | (refine wpList_load_row rfl 91 _ rfl bf rfl _ _ _ _ hF Try.underlying91 rfl form_size ?_) | (refine wp_insert rfl 93 _ _ _ rfl Try.underlying93 Try.underlying5 r _ _ rfl hmap _ rfl _ rfl (by rfl) hM hr ?_; clear hmap hM hF; intro w8 hmap hM; have hF := hM.blk (by simp) hF6) | (have _t := tok3_9; refine wp_lookup rfl 93 _ _ true rfl Try.underlying93 Try.underlying5 r _ _ rfl hmap _ rfl _ (zero_pair _) (some (2, _)) (by rcases hcl with rfl | rfl <;> rfl) _ rfl ?_; clear _t tok3_9) | (have _t := tok3_10; refine wp_allocw rfl 92 rfl _ pair_zero ?_; intro ba w9 hba hBa hu9; clear _t tok3_10) | (have _t := tok3_11; refine wp_storew rfl 92 _ _ rfl ba rfl _ rfl _ _ hBa pair_size rfl (by kernel_rfl) ?_; intro w10 hBa10 hu10; have X10 := hu9.fresh1 hu10 hba; have V10 := (V6.step hM).step X10; have hc10 := hc.old V10; have hm10 : MsgB w10 gm _ := MsgB.upd ⟨hBm3, rfl⟩ (hu4.step V10) (by simp); have hF10 := X10.blk (by simp) hF; have ka := (blk_cell hBa10 0).trans rfl; clear hF hF6 hmap; clear _t tok3_11) | (have _t := tok3_12; go_at_call 55; refine (hform g gm _ hc10 hm10).mono ?_; rintro e w11 ⟨rfl, hc11, ⟨cs, hm11, hM11⟩, hu11⟩; have hF11 := hu11.blk (by have := hc.lt; have := blk_lt hBm3; have := hu4.size; simp; omega) hF10; have kf := (blk_cell hF11 0).trans rfl; clear hbp hbm hb1 ka; clear _t tok3_12) | (have _t := tok3_13; go_at_call 58; refine (end_any hc11).mono ?_; rintro e w12 ⟨rfl, hc12, hu12⟩; have hF12 := hu12.blk (by have := hc.lt; simp; omega) hF11; have kg := (blk_cell hF12 0).trans rfl; clear kf; clear _t tok3_13) | (have _t := tok3_14; go_at_call 59; refine (err_any hc12).mono ?_; rintro e w13 ⟨rfl, rfl⟩; have U10 := (U3.step hu4).step V10; have hG := U3.size; have hU12 := (U10.fresh2 hu11 (by omega) hgm).fresh1 hu12 (by omega); have hB612 := hU12.blk (by simp) hB6; have hm12 := hm11.upd hu12 (by simpa using (hm11.ne hc11).symm); have hM12 := hM11.upd hu12 (hc11.safe _ (by decide)); clear kg; generalize hE : C.endC.e = E; have HE := Lib.hid hE; clear hE hform; clear _t tok3_14) | (refine wpList_load_row rfl 29 _ rfl gm rfl _ _ _ _ hm12.1 Try.underlying29 rfl (by rw [hm12.2]; exact msg_size) ?_) | (refine wp_storew rfl 29 _ _ rfl g6 rfl msgZ rfl msgZ 29 hB612 msg_size rfl (by kernel_rfl) ?_; intro w14 hB614 hu14) | (refine wp_storew rfl 29 _ _ rfl g6 rfl cs rfl msgZ 29 hB612 (by rw [hm12.2]; exact msg_size) hm12.2 hM12.one ?_; intro w14 hB614 hu14))
  · have hne : ¬ E = 0 := by simpa using (show (E != 0) = true by assumption)
    refine ret_cell_tmp rfl rfl g6 _ msgZ _ _ rfl hB614 Try.underlying29 rfl msg_size ?_
    obtain rfl := HE.out
    exact finish_bad hne ((hu1.step hU12).fresh1 hu14 hg6)
  · have h0 : E = 0 := by simpa using (show (E != 0) = false by assumption)
    refine ret_cell_tmp rfl rfl g6 _ cs _ _ rfl hB614 Try.underlying29 rfl (by rw [hm12.2]; exact msg_size) ?_
    exact finish_ok (HE.out.trans h0) (hM12.upd hu14 (Safe.one hB612 (by decide))) ((hu1.step hU12).fresh1 hu14 hg6)
set_option maxRecDepth 100000 in
set_option maxHeartbeats 2000000 in
theorem coils_w3 {m : Bool} {v : Value} {b : List Int} {w : World} {c : Int} {C : Cur} {M : Msg} (hcl : c = 5 ∨ c = 5) (h : RdB m w v b) (hb : b.length ≤ 1048576)
    (hform : ∀ g gm W, CurAt W g ⟨b, false, 0⟩ → MsgB W gm (msgZ.setIfInBounds 0 (.int .u8 c)) → Calls Try.prog 55 #[.agg #[.pointer (some ⟨g, 0, none⟩), .pointer (some ⟨gm, 0, none⟩)]] W (PFormG g gm C M W)) :
    Calls Try.prog 37 #[.int .i64 1, .int .u8 c, v] w (PMsg (finish M C) w) := by
  have hb0 := build_msg0
  have hb1 := build_msg1 c
  have hbp := build_pair
  have hbm := build_form
  go_enter Try.func37, Try.ntmps37
  have tok4_0 : True := trivial
  have tok4_1 : True := trivial
  have tok4_2 : True := trivial
  have tok4_3 : True := trivial
  have tok4_4 : True := trivial
  have tok4_5 : True := trivial
  have tok4_6 : True := trivial
  have tok4_9 : True := trivial
  have tok4_10 : True := trivial
  have tok4_11 : True := trivial
  have tok4_12 : True := trivial
  have tok4_13 : True := trivial
  have tok4_14 : True := trivial
  go_wp2_with (first | (have _t := tok4_0; refine wp_allocw rfl 29 rfl (.agg msgZ) msgZ_info ?_; intro g6 w1 hg6 hB6 hu1; clear _t tok4_0) | (have _t := tok4_1; refine wp_allocw rfl 29 rfl (.agg msgZ) msgZ_info ?_; intro gm w2 hgm hBm hu2; clear _t tok4_1) | (have _t := tok4_2; refine wp_storew rfl 29 _ _ rfl gm rfl (msgZ.setIfInBounds 0 (.int .u8 c)) rfl msgZ 29 hBm msg_size rfl (by kernel_rfl) ?_; intro w3 hBm3 hu3; have U3 := hu2.fresh1 hu3 hgm; clear _t tok4_2) | (have _t := tok4_3; go_at_call 28; refine (new_any (RdB.old h (hu1.step U3)) (by omega)).mono ?_; rintro e w4 ⟨g, rfl, hg, hc, hu4⟩; clear _t tok4_3) | (have _t := tok4_4; refine wp_allocw rfl 91 rfl (.agg #[.pointer none, .pointer none]) form_zero ?_; intro bf w5 hbf hBf hu5; clear _t tok4_4) | (have _t := tok4_5; refine wp_storew rfl 91 _ _ rfl bf rfl #[.pointer (some ⟨g, 0, none⟩), .pointer (some ⟨gm, 0, none⟩)] rfl _ _ hBf form_size rfl (by kernel_rfl) ?_; intro w6 hF6 hu6; have V6 := hu5.fresh1 hu6 hbf; clear _t tok4_5) | (have _t := tok4_6; refine wp_makemap rfl 93 rfl ?_; intro r w7 hr hmap hM; have hF := hM.blk (by simp) hF6; clear _t tok4_6) | (refine wpList_load_row rfl 91 _ rfl bf rfl _ _ _ _ hF Try.underlying91 rfl form_size ?_) | (refine wp_insert rfl 93 _ _ _ rfl Try.underlying93 Try.underlying5 r _ _ rfl hmap _ rfl _ rfl (by rfl) hM hr ?_; clear hmap hM hF; intro w8 hmap hM; have hF := hM.blk (by simp) hF6) | (have _t := tok4_9; refine wp_lookup rfl 93 _ _ true rfl Try.underlying93 Try.underlying5 r _ _ rfl hmap _ rfl _ (zero_pair _) (some (2, _)) (by rcases hcl with rfl | rfl <;> rfl) _ rfl ?_; clear _t tok4_9) | (have _t := tok4_10; refine wp_allocw rfl 92 rfl _ pair_zero ?_; intro ba w9 hba hBa hu9; clear _t tok4_10) | (have _t := tok4_11; refine wp_storew rfl 92 _ _ rfl ba rfl _ rfl _ _ hBa pair_size rfl (by kernel_rfl) ?_; intro w10 hBa10 hu10; have X10 := hu9.fresh1 hu10 hba; have V10 := (V6.step hM).step X10; have hc10 := hc.old V10; have hm10 : MsgB w10 gm _ := MsgB.upd ⟨hBm3, rfl⟩ (hu4.step V10) (by simp); have hF10 := X10.blk (by simp) hF; have ka := (blk_cell hBa10 1).trans rfl; clear hF hF6 hmap; clear _t tok4_11) | (have _t := tok4_12; go_at_call 55; refine (hform g gm _ hc10 hm10).mono ?_; rintro e w11 ⟨rfl, hc11, ⟨cs, hm11, hM11⟩, hu11⟩; have hF11 := hu11.blk (by have := hc.lt; have := blk_lt hBm3; have := hu4.size; simp; omega) hF10; have kf := (blk_cell hF11 0).trans rfl; clear hbp hbm hb1 ka; clear _t tok4_12) | (have _t := tok4_13; go_at_call 58; refine (end_any hc11).mono ?_; rintro e w12 ⟨rfl, hc12, hu12⟩; have hF12 := hu12.blk (by have := hc.lt; simp; omega) hF11; have kg := (blk_cell hF12 0).trans rfl; clear kf; clear _t tok4_13) | (have _t := tok4_14; go_at_call 59; refine (err_any hc12).mono ?_; rintro e w13 ⟨rfl, rfl⟩; have U10 := (U3.step hu4).step V10; have hG := U3.size; have hU12 := (U10.fresh2 hu11 (by omega) hgm).fresh1 hu12 (by omega); have hB612 := hU12.blk (by simp) hB6; have hm12 := hm11.upd hu12 (by simpa using (hm11.ne hc11).symm); have hM12 := hM11.upd hu12 (hc11.safe _ (by decide)); clear kg; generalize hE : C.endC.e = E; have HE := Lib.hid hE; clear hE hform; clear _t tok4_14) | (refine wpList_load_row rfl 29 _ rfl gm rfl _ _ _ _ hm12.1 Try.underlying29 rfl (by rw [hm12.2]; exact msg_size) ?_) | (refine wp_storew rfl 29 _ _ rfl g6 rfl msgZ rfl msgZ 29 hB612 msg_size rfl (by kernel_rfl) ?_; intro w14 hB614 hu14) | (refine wp_storew rfl 29 _ _ rfl g6 rfl cs rfl msgZ 29 hB612 (by rw [hm12.2]; exact msg_size) hm12.2 hM12.one ?_; intro w14 hB614 hu14))
  · have hne : ¬ E = 0 := by simpa using (show (E != 0) = true by assumption)
    refine ret_cell_tmp rfl rfl g6 _ msgZ _ _ rfl hB614 Try.underlying29 rfl msg_size ?_
    obtain rfl := HE.out
    exact finish_bad hne ((hu1.step hU12).fresh1 hu14 hg6)
  · have h0 : E = 0 := by simpa using (show (E != 0) = false by assumption)
    refine ret_cell_tmp rfl rfl g6 _ cs _ _ rfl hB614 Try.underlying29 rfl (by rw [hm12.2]; exact msg_size) ?_
    exact finish_ok (HE.out.trans h0) (hM12.upd hu14 (Safe.one hB612 (by decide))) ((hu1.step hU12).fresh1 hu14 hg6)
set_option maxRecDepth 100000 in
set_option maxHeartbeats 2000000 in
theorem coils_w4 {m : Bool} {v : Value} {b : List Int} {w : World} {c : Int} {C : Cur} {M : Msg} (hcl : c = 15 ∨ c = 15) (h : RdB m w v b) (hb : b.length ≤ 1048576)
    (hform : ∀ g gm W, CurAt W g ⟨b, false, 0⟩ → MsgB W gm (msgZ.setIfInBounds 0 (.int .u8 c)) → Calls Try.prog 56 #[.agg #[.pointer (some ⟨g, 0, none⟩), .pointer (some ⟨gm, 0, none⟩)]] W (PFormG g gm C M W)) :
    Calls Try.prog 37 #[.int .i64 0, .int .u8 c, v] w (PMsg (finish M C) w) := by
  have hb0 := build_msg0
  have hb1 := build_msg1 c
  have hbp := build_pair
  have hbm := build_form
  go_enter Try.func37, Try.ntmps37
  have tok5_0 : True := trivial
  have tok5_1 : True := trivial
  have tok5_2 : True := trivial
  have tok5_3 : True := trivial
  have tok5_4 : True := trivial
  have tok5_5 : True := trivial
  have tok5_6 : True := trivial
  have tok5_9 : True := trivial
  have tok5_10 : True := trivial
  have tok5_11 : True := trivial
  have tok5_12 : True := trivial
  have tok5_13 : True := trivial
  have tok5_14 : True := trivial
  go_wp2_with (first | (have _t := tok5_0; refine wp_allocw rfl 29 rfl (.agg msgZ) msgZ_info ?_; intro g6 w1 hg6 hB6 hu1; clear _t tok5_0) | (have _t := tok5_1; refine wp_allocw rfl 29 rfl (.agg msgZ) msgZ_info ?_; intro gm w2 hgm hBm hu2; clear _t tok5_1) | (have _t := tok5_2; refine wp_storew rfl 29 _ _ rfl gm rfl (msgZ.setIfInBounds 0 (.int .u8 c)) rfl msgZ 29 hBm msg_size rfl (by kernel_rfl) ?_; intro w3 hBm3 hu3; have U3 := hu2.fresh1 hu3 hgm; clear _t tok5_2) | (have _t := tok5_3; go_at_call 28; refine (new_any (RdB.old h (hu1.step U3)) (by omega)).mono ?_; rintro e w4 ⟨g, rfl, hg, hc, hu4⟩; clear _t tok5_3) | (have _t := tok5_4; refine wp_allocw rfl 91 rfl (.agg #[.pointer none, .pointer none]) form_zero ?_; intro bf w5 hbf hBf hu5; clear _t tok5_4) | (have _t := tok5_5; refine wp_storew rfl 91 _ _ rfl bf rfl #[.pointer (some ⟨g, 0, none⟩), .pointer (some ⟨gm, 0, none⟩)] rfl _ _ hBf form_size rfl (by kernel_rfl) ?_; intro w6 hF6 hu6; have V6 := hu5.fresh1 hu6 hbf; clear _t tok5_5) | (have _t := tok5_6; refine wp_makemap rfl 93 rfl ?_; intro r w7 hr hmap hM; have hF := hM.blk (by simp) hF6; clear _t tok5_6) | (refine wpList_load_row rfl 91 _ rfl bf rfl _ _ _ _ hF Try.underlying91 rfl form_size ?_) | (refine wp_insert rfl 93 _ _ _ rfl Try.underlying93 Try.underlying5 r _ _ rfl hmap _ rfl _ rfl (by rfl) hM hr ?_; clear hmap hM hF; intro w8 hmap hM; have hF := hM.blk (by simp) hF6) | (have _t := tok5_9; refine wp_lookup rfl 93 _ _ true rfl Try.underlying93 Try.underlying5 r _ _ rfl hmap _ rfl _ (zero_pair _) (some (3, _)) (by rcases hcl with rfl | rfl <;> rfl) _ rfl ?_; clear _t tok5_9) | (have _t := tok5_10; refine wp_allocw rfl 92 rfl _ pair_zero ?_; intro ba w9 hba hBa hu9; clear _t tok5_10) | (have _t := tok5_11; refine wp_storew rfl 92 _ _ rfl ba rfl _ rfl _ _ hBa pair_size rfl (by kernel_rfl) ?_; intro w10 hBa10 hu10; have X10 := hu9.fresh1 hu10 hba; have V10 := (V6.step hM).step X10; have hc10 := hc.old V10; have hm10 : MsgB w10 gm _ := MsgB.upd ⟨hBm3, rfl⟩ (hu4.step V10) (by simp); have hF10 := X10.blk (by simp) hF; have ka := (blk_cell hBa10 0).trans rfl; clear hF hF6 hmap; clear _t tok5_11) | (have _t := tok5_12; go_at_call 56; refine (hform g gm _ hc10 hm10).mono ?_; rintro e w11 ⟨rfl, hc11, ⟨cs, hm11, hM11⟩, hu11⟩; have hF11 := hu11.blk (by have := hc.lt; have := blk_lt hBm3; have := hu4.size; simp; omega) hF10; have kf := (blk_cell hF11 0).trans rfl; clear hbp hbm hb1 ka; clear _t tok5_12) | (have _t := tok5_13; go_at_call 58; refine (end_any hc11).mono ?_; rintro e w12 ⟨rfl, hc12, hu12⟩; have hF12 := hu12.blk (by have := hc.lt; simp; omega) hF11; have kg := (blk_cell hF12 0).trans rfl; clear kf; clear _t tok5_13) | (have _t := tok5_14; go_at_call 59; refine (err_any hc12).mono ?_; rintro e w13 ⟨rfl, rfl⟩; have U10 := (U3.step hu4).step V10; have hG := U3.size; have hU12 := (U10.fresh2 hu11 (by omega) hgm).fresh1 hu12 (by omega); have hB612 := hU12.blk (by simp) hB6; have hm12 := hm11.upd hu12 (by simpa using (hm11.ne hc11).symm); have hM12 := hM11.upd hu12 (hc11.safe _ (by decide)); clear kg; generalize hE : C.endC.e = E; have HE := Lib.hid hE; clear hE hform; clear _t tok5_14) | (refine wpList_load_row rfl 29 _ rfl gm rfl _ _ _ _ hm12.1 Try.underlying29 rfl (by rw [hm12.2]; exact msg_size) ?_) | (refine wp_storew rfl 29 _ _ rfl g6 rfl msgZ rfl msgZ 29 hB612 msg_size rfl (by kernel_rfl) ?_; intro w14 hB614 hu14) | (refine wp_storew rfl 29 _ _ rfl g6 rfl cs rfl msgZ 29 hB612 (by rw [hm12.2]; exact msg_size) hm12.2 hM12.one ?_; intro w14 hB614 hu14))
  · have hne : ¬ E = 0 := by simpa using (show (E != 0) = true by assumption)
    refine ret_cell_tmp rfl rfl g6 _ msgZ _ _ rfl hB614 Try.underlying29 rfl msg_size ?_
    obtain rfl := HE.out
    exact finish_bad hne ((hu1.step hU12).fresh1 hu14 hg6)
  · have h0 : E = 0 := by simpa using (show (E != 0) = false by assumption)
    refine ret_cell_tmp rfl rfl g6 _ cs _ _ rfl hB614 Try.underlying29 rfl (by rw [hm12.2]; exact msg_size) ?_
    exact finish_ok (HE.out.trans h0) (hM12.upd hu14 (Safe.one hB612 (by decide))) ((hu1.step hU12).fresh1 hu14 hg6)
set_option maxRecDepth 100000 in
set_option maxHeartbeats 2000000 in
theorem coils_w5 {m : Bool} {v : Value} {b : List Int} {w : World} {c : Int} {C : Cur} {M : Msg} (hcl : c = 15 ∨ c = 15) (h : RdB m w v b) (hb : b.length ≤ 1048576)
    (hform : ∀ g gm W, CurAt W g ⟨b, false, 0⟩ → MsgB W gm (msgZ.setIfInBounds 0 (.int .u8 c)) → Calls Try.prog 57 #[.agg #[.pointer (some ⟨g, 0, none⟩), .pointer (some ⟨gm, 0, none⟩)]] W (PFormG g gm C M W)) :
    Calls Try.prog 37 #[.int .i64 1, .int .u8 c, v] w (PMsg (finish M C) w) := by
  have hb0 := build_msg0
  have hb1 := build_msg1 c
  have hbp := build_pair
  have hbm := build_form
  go_enter Try.func37, Try.ntmps37
  have tok6_0 : True := trivial
  have tok6_1 : True := trivial
  have tok6_2 : True := trivial
  have tok6_3 : True := trivial
  have tok6_4 : True := trivial
  have tok6_5 : True := trivial
  have tok6_6 : True := trivial
  have tok6_9 : True := trivial
  have tok6_10 : True := trivial
  have tok6_11 : True := trivial
  have tok6_12 : True := trivial
  have tok6_13 : True := trivial
  have tok6_14 : True := trivial
  go_wp2_with (first | (have _t := tok6_0; refine wp_allocw rfl 29 rfl (.agg msgZ) msgZ_info ?_; intro g6 w1 hg6 hB6 hu1; clear _t tok6_0) | (have _t := tok6_1; refine wp_allocw rfl 29 rfl (.agg msgZ) msgZ_info ?_; intro gm w2 hgm hBm hu2; clear _t tok6_1) | (have _t := tok6_2; refine wp_storew rfl 29 _ _ rfl gm rfl (msgZ.setIfInBounds 0 (.int .u8 c)) rfl msgZ 29 hBm msg_size rfl (by kernel_rfl) ?_; intro w3 hBm3 hu3; have U3 := hu2.fresh1 hu3 hgm; clear _t tok6_2) | (have _t := tok6_3; go_at_call 28; refine (new_any (RdB.old h (hu1.step U3)) (by omega)).mono ?_; rintro e w4 ⟨g, rfl, hg, hc, hu4⟩; clear _t tok6_3) | (have _t := tok6_4; refine wp_allocw rfl 91 rfl (.agg #[.pointer none, .pointer none]) form_zero ?_; intro bf w5 hbf hBf hu5; clear _t tok6_4) | (have _t := tok6_5; refine wp_storew rfl 91 _ _ rfl bf rfl #[.pointer (some ⟨g, 0, none⟩), .pointer (some ⟨gm, 0, none⟩)] rfl _ _ hBf form_size rfl (by kernel_rfl) ?_; intro w6 hF6 hu6; have V6 := hu5.fresh1 hu6 hbf; clear _t tok6_5) | (have _t := tok6_6; refine wp_makemap rfl 93 rfl ?_; intro r w7 hr hmap hM; have hF := hM.blk (by simp) hF6; clear _t tok6_6) | (refine wpList_load_row rfl 91 _ rfl bf rfl _ _ _ _ hF Try.underlying91 rfl form_size ?_) | (refine wp_insert rfl 93 _ _ _ rfl Try.underlying93 Try.underlying5 r _ _ rfl hmap _ rfl _ rfl (by rfl) hM hr ?_; clear hmap hM hF; intro w8 hmap hM; have hF := hM.blk (by simp) hF6) | (have _t := tok6_9; refine wp_lookup rfl 93 _ _ true rfl Try.underlying93 Try.underlying5 r _ _ rfl hmap _ rfl _ (zero_pair _) (some (3, _)) (by rcases hcl with rfl | rfl <;> rfl) _ rfl ?_; clear _t tok6_9) | (have _t := tok6_10; refine wp_allocw rfl 92 rfl _ pair_zero ?_; intro ba w9 hba hBa hu9; clear _t tok6_10) | (have _t := tok6_11; refine wp_storew rfl 92 _ _ rfl ba rfl _ rfl _ _ hBa pair_size rfl (by kernel_rfl) ?_; intro w10 hBa10 hu10; have X10 := hu9.fresh1 hu10 hba; have V10 := (V6.step hM).step X10; have hc10 := hc.old V10; have hm10 : MsgB w10 gm _ := MsgB.upd ⟨hBm3, rfl⟩ (hu4.step V10) (by simp); have hF10 := X10.blk (by simp) hF; have ka := (blk_cell hBa10 1).trans rfl; clear hF hF6 hmap; clear _t tok6_11) | (have _t := tok6_12; go_at_call 57; refine (hform g gm _ hc10 hm10).mono ?_; rintro e w11 ⟨rfl, hc11, ⟨cs, hm11, hM11⟩, hu11⟩; have hF11 := hu11.blk (by have := hc.lt; have := blk_lt hBm3; have := hu4.size; simp; omega) hF10; have kf := (blk_cell hF11 0).trans rfl; clear hbp hbm hb1 ka; clear _t tok6_12) | (have _t := tok6_13; go_at_call 58; refine (end_any hc11).mono ?_; rintro e w12 ⟨rfl, hc12, hu12⟩; have hF12 := hu12.blk (by have := hc.lt; simp; omega) hF11; have kg := (blk_cell hF12 0).trans rfl; clear kf; clear _t tok6_13) | (have _t := tok6_14; go_at_call 59; refine (err_any hc12).mono ?_; rintro e w13 ⟨rfl, rfl⟩; have U10 := (U3.step hu4).step V10; have hG := U3.size; have hU12 := (U10.fresh2 hu11 (by omega) hgm).fresh1 hu12 (by omega); have hB612 := hU12.blk (by simp) hB6; have hm12 := hm11.upd hu12 (by simpa using (hm11.ne hc11).symm); have hM12 := hM11.upd hu12 (hc11.safe _ (by decide)); clear kg; generalize hE : C.endC.e = E; have HE := Lib.hid hE; clear hE hform; clear _t tok6_14) | (refine wpList_load_row rfl 29 _ rfl gm rfl _ _ _ _ hm12.1 Try.underlying29 rfl (by rw [hm12.2]; exact msg_size) ?_) | (refine wp_storew rfl 29 _ _ rfl g6 rfl msgZ rfl msgZ 29 hB612 msg_size rfl (by kernel_rfl) ?_; intro w14 hB614 hu14) | (refine wp_storew rfl 29 _ _ rfl g6 rfl cs rfl msgZ 29 hB612 (by rw [hm12.2]; exact msg_size) hm12.2 hM12.one ?_; intro w14 hB614 hu14))
  · have hne : ¬ E = 0 := by simpa using (show (E != 0) = true by assumption)
    refine ret_cell_tmp rfl rfl g6 _ msgZ _ _ rfl hB614 Try.underlying29 rfl msg_size ?_
    obtain rfl := HE.out
    exact finish_bad hne ((hu1.step hU12).fresh1 hu14 hg6)
  · have h0 : E = 0 := by simpa using (show (E != 0) = false by assumption)
    refine ret_cell_tmp rfl rfl g6 _ cs _ _ rfl hB614 Try.underlying29 rfl (by rw [hm12.2]; exact msg_size) ?_
    exact finish_ok (HE.out.trans h0) (hM12.upd hu14 (Safe.one hB612 (by decide))) ((hu1.step hU12).fresh1 hu14 hg6)
theorem msgRd_of {m : Bool} {w : World} {cs : Array Value} {M : Msg} (h : cs.toList = msgCells M nilS nilS nilS nilS nilS) (h1 : M.words = []) (h2 : M.bits = []) (h3 : M.data = []) (h4 : M.recs = []) (h5 : M.objects = []) (hR : MsgRng M) : MsgRd m w cs.toList M := by
  refine ⟨nilS, nilS, nilS, nilS, nilS, h, ?_, ?_, ?_, ?_, ?_, hR⟩
  · rw [h1]; exact RdG.nil ..
  · rw [h2]; exact RdG.nil ..
  · rw [h3]; exact RdG.nil ..
  · rw [h4]; exact RdG.nil ..
  · rw [h5]; exact RdG.nil ..
def coilsForm (dir c : Int) (C : Cur) : Option (Cur × Msg) :=
  if c = 1 ∨ c = 2 then
    if dir = 0 then some (spanC C 2000, { Msg.zero with code := c, addr := C.wordV, count := (C.wordsC 1).wordV })
    else some ((toldC2 C).bytesC C.byteV, { Msg.zero with code := c, data := (toldC2 C).bytesR C.byteV })
  else if c = 5 then some (setsC C, { Msg.zero with code := c, addr := C.wordV, value := (C.wordsC 1).wordV })
  else if c = 15 then
    if dir = 0 then some (smC C, { Msg.zero with code := c, addr := C.wordV, count := smN C, bits := (smU C).getD [] })
    else some (spanC C 1968, { Msg.zero with code := c, addr := C.wordV, count := (C.wordsC 1).wordV })
  else none
def parseOf (form : Int → Int → Cur → Option (Cur × Msg)) (dir c : Int) (b : List Int) : Msg × Int :=
  if dir = 0 ∨ dir = 1 then
    match form dir c ⟨b, false, 0⟩ with
    | none => (Msg.zero, 4)
    | some r => finish r.2 r.1
  else (Msg.zero, 1)
theorem rng_with {c : Int} (hc : B8 c) : MsgRng { Msg.zero with code := c } := ⟨hc, MsgRng.zero.fail, MsgRng.zero.addr, MsgRng.zero.count, MsgRng.zero.value, MsgRng.zero.and_, MsgRng.zero.or_, MsgRng.zero.addr2, MsgRng.zero.sub, MsgRng.zero.status, MsgRng.zero.events, MsgRng.zero.messages, MsgRng.zero.mei, MsgRng.zero.kind, MsgRng.zero.level, MsgRng.zero.more, MsgRng.zero.next⟩
theorem g_span {w : World} {g gm : Nat} {C C' : Cur} {c : Int} {f : FuncId} {args : Array Value} (hc : B8 c) (hC : CurAt w g C)
    (h : Calls Try.prog f args w (PForm g gm C' (((msgZ.setIfInBounds 0 (.int .u8 c)).setIfInBounds 2 (.int .u16 C.wordV)).setIfInBounds 3 (.int .u16 (C.wordsC 1).wordV)) w)) :
    Calls Try.prog f args w (PFormG g gm C' { Msg.zero with code := c, addr := C.wordV, count := (C.wordsC 1).wordV } w) := by
  refine h.mono ?_
  rintro e w' ⟨rfl, h1, h2, h3⟩
  exact ⟨rfl, h1, ⟨_, h2, msgRd_of rfl rfl rfl rfl rfl rfl { rng_with hc with addr := hC.wordV, count := wordV_rng (wordsC_rng hC.rng 1) }⟩, h3⟩
set_option maxRecDepth 100000 in
set_option maxHeartbeats 4000000 in
theorem coils_parse {m : Bool} {v : Value} {b : List Int} {w : World} {dir c : Int} (hc : B8 c) (h : RdB m w v b) (hb : b.length ≤ 1048576) :
    Calls Try.prog 37 #[.int .i64 dir, .int .u8 c, v] w (PMsg (parseOf coilsForm dir c b) w) := by
  unfold parseOf
  by_cases hd : dir = 0 ∨ dir = 1
  case neg =>
    rw [if_neg hd]
    have e0 : (dir != 0) = true := by simp; omega
    have e1 : (dir != 1) = true := by simp; omega
    have hb0 := build_msg0
    go_enter Try.func37, Try.ntmps37
    have tok1_0 : True := trivial
    have tok1_1 : True := trivial
    go_wp2_with (first | (have _t := tok1_0; refine wp_allocw rfl 29 rfl (.agg msgZ) msgZ_info ?_; intro g6 w1 hg6 hB6 hu1; clear _t tok1_0) | (have _t := tok1_1; refine wp_storew rfl 29 _ _ rfl g6 rfl msgZ rfl msgZ 29 hB6 msg_size rfl (by kernel_rfl) ?_; intro w14 hB614 hu14; clear _t tok1_1))
    refine ret_cell_tmp rfl rfl g6 _ msgZ _ _ rfl hB614 Try.underlying29 rfl msg_size ?_
    exact bad_res (hu1.fresh1 hu14 hg6)
  rw [if_pos hd]
  unfold coilsForm
  by_cases h1 : c = 1 ∨ c = 2
  · simp only [if_pos h1]
    rcases hd with rfl | rfl
    · rw [if_pos rfl]
      exact coils_w0 h1 h hb fun g gm W hC hm => g_span hc hC (asksRead_any hC hm)
    · rw [if_neg (by decide)]
      refine coils_w1 h1 h hb fun g gm W hC hm => (told_any hC hm).mono ?_
      rintro e w' ⟨v, rfl, h1, h2, h3, h4⟩
      exact ⟨rfl, h1, ⟨_, h2, nilS, nilS, v, nilS, nilS, rfl, RdG.nil .., RdG.nil .., h3, RdG.nil .., RdG.nil .., { rng_with hc with }⟩, h4⟩
  simp only [if_neg h1]
  by_cases h5 : c = 5
  · simp only [if_pos h5]
    have hf : ∀ g gm W, CurAt W g ⟨b, false, 0⟩ → MsgB W gm (msgZ.setIfInBounds 0 (.int .u8 c)) → Calls Try.prog 55 #[.agg #[.pointer (some ⟨g, 0, none⟩), .pointer (some ⟨gm, 0, none⟩)]] W
        (PFormG g gm (setsC ⟨b, false, 0⟩) { Msg.zero with code := c, addr := Cur.wordV ⟨b, false, 0⟩, value := (Cur.wordsC ⟨b, false, 0⟩ 1).wordV } W) := by
      intro g gm W hC hm
      refine (sets_any hC hm).mono ?_
      rintro e w' ⟨rfl, h1, h2, h3⟩
      exact ⟨rfl, h1, ⟨_, h2, msgRd_of rfl rfl rfl rfl rfl rfl { rng_with hc with addr := hC.wordV, value := wordV_rng (wordsC_rng hC.rng 1) }⟩, h3⟩
    rcases hd with rfl | rfl
    · exact coils_w2 (.inl h5) h hb hf
    · exact coils_w3 (.inl h5) h hb hf
  simp only [if_neg h5]
  by_cases h15 : c = 15
  · simp only [if_pos h15]
    rcases hd with rfl | rfl
    · rw [if_pos rfl]
      refine coils_w4 (.inl h15) h hb fun g gm W hC hm => (setsMany_any hC hm).mono ?_
      rintro e w' ⟨v, rfl, h1, h2, h3, h4⟩
      exact ⟨rfl, h1, ⟨_, h2, nilS, v, nilS, nilS, nilS, rfl, RdG.nil .., h3, RdG.nil .., RdG.nil .., RdG.nil .., { rng_with hc with addr := hC.wordV, count := wordV_rng (wordsC_rng hC.rng 1) }⟩, h4⟩
    · rw [if_neg (by decide)]
      exact coils_w5 (.inl h15) h hb fun g gm W hC hm => g_span hc hC (done_any hC hm)
  simp only [if_neg h15]
  have hb0 := build_msg0
  have hb1 := build_msg1 c
  have hbp := build_pair
  have hbm := build_form
  have hk1 : c ≠ 1 := fun h => h1 (.inl h)
  have hk2 : c ≠ 2 := fun h => h1 (.inr h)
  have hno : ∀ e1 e2 e3 e4, Instr.findNow (.int .u8) (.int .u8 c) [⟨.int .u8 1, e1, 0⟩, ⟨.int .u8 2, e2, 1⟩, ⟨.int .u8 5, e3, 2⟩, ⟨.int .u8 15, e4, 3⟩] 0 = some none := by
    intro e1 e2 e3 e4
    refine findNow_no _ _ fun e he => ?_
    simp at he
    rcases he with rfl | rfl | rfl | rfl
    · exact ⟨_, rfl, fun h => hk1 h.symm⟩
    · exact ⟨_, rfl, fun h => hk2 h.symm⟩
    · exact ⟨_, rfl, fun h => h5 h.symm⟩
    · exact ⟨_, rfl, fun h => h15 h.symm⟩
  have hno := Lib.hid hno
  clear h1 h5 h15 hk1 hk2 hc
  rcases hd with rfl | rfl
  all_goals
    go_enter Try.func37, Try.ntmps37
    have tok2_0 : True := trivial
    have tok2_1 : True := trivial
    have tok2_2 : True := trivial
    have tok2_3 : True := trivial
    have tok2_4 : True := trivial
    have tok2_5 : True := trivial
    have tok2_6 : True := trivial
    have tok2_9 : True := trivial
    have tok2_10 : True := trivial
    have tok2_11 : True := trivial
    have tok2_12 : True := trivial
    go_wp2_with (first | (have _t := tok2_0; refine wp_allocw rfl 29 rfl (.agg msgZ) msgZ_info ?_; intro g6 w1 hg6 hB6 hu1; clear _t tok2_0) | (have _t := tok2_1; refine wp_allocw rfl 29 rfl (.agg msgZ) msgZ_info ?_; intro gm w2 hgm hBm hu2; clear _t tok2_1) | (have _t := tok2_2; refine wp_storew rfl 29 _ _ rfl gm rfl (msgZ.setIfInBounds 0 (.int .u8 c)) rfl msgZ 29 hBm msg_size rfl (by kernel_rfl) ?_; intro w3 hBm3 hu3; have U3 := hu2.fresh1 hu3 hgm; clear _t tok2_2) | (have _t := tok2_3; go_at_call 28; refine (new_any (RdB.old h (hu1.step U3)) (by omega)).mono ?_; rintro e w4 ⟨g, rfl, hg, hc, hu4⟩; clear _t tok2_3) | (have _t := tok2_4; refine wp_allocw rfl 91 rfl (.agg #[.pointer none, .pointer none]) form_zero ?_; intro bf w5 hbf hBf hu5; clear _t tok2_4) | (have _t := tok2_5; refine wp_storew rfl 91 _ _ rfl bf rfl #[.pointer (some ⟨g, 0, none⟩), .pointer (some ⟨gm, 0, none⟩)] rfl _ _ hBf form_size rfl (by kernel_rfl) ?_; intro w6 hF6 hu6; have V6 := hu5.fresh1 hu6 hbf; clear _t tok2_5) | (have _t := tok2_6; refine wp_makemap rfl 93 rfl ?_; intro r w7 hr hmap hM; have hF := hM.blk (by simp) hF6; clear _t tok2_6) | (refine wpList_load_row rfl 91 _ rfl bf rfl _ _ _ _ hF Try.underlying91 rfl form_size ?_) | (refine wp_insert rfl 93 _ _ _ rfl Try.underlying93 Try.underlying5 r _ _ rfl hmap _ rfl _ rfl (by rfl) hM hr ?_; clear hmap hM hF; intro w8 hmap hM; have hF := hM.blk (by simp) hF6) | (have _t := tok2_9; refine wp_lookup rfl 93 _ _ true rfl Try.underlying93 Try.underlying5 r _ _ rfl hmap _ rfl _ (zero_pair _) none (hno.out _ _ _ _) _ rfl ?_; clear _t tok2_9) | (have _t := tok2_10; refine wp_allocw rfl 92 rfl _ pair_zero ?_; intro ba w9 hba hBa hu9; clear _t tok2_10) | (have _t := tok2_11; refine wp_storew rfl 92 _ _ rfl ba rfl _ rfl _ _ hBa pair_size rfl (by kernel_rfl) ?_; intro w10 hBa10 hu10; have X10 := hu9.fresh1 hu10 hba; have U10 := ((U3.step hu4).step (V6.step hM)).step X10; have hB610 := U10.blk (by simp) hB6; clear _t tok2_11) | (have _t := tok2_12; refine wp_storew rfl 29 _ _ rfl g6 rfl msgZ rfl msgZ 29 hB610 msg_size rfl (by kernel_rfl) ?_; intro w14 hB614 hu14; clear _t tok2_12))
    refine ret_cell_tmp rfl rfl g6 _ msgZ _ _ rfl hB614 Try.underlying29 rfl msg_size ?_
    exact bad_res ((hu1.step U10).fresh1 hu14 hg6)
structure MsgFew (M : Msg) : Prop where
  words : M.words.length ≤ 1024
  bits : M.bits.length ≤ 4096
  data : M.data.length ≤ 1024
  recs : M.recs.length ≤ 64
  recw : ∀ r, r ∈ M.recs → r.words.length ≤ 1024
  objects : M.objects.length ≤ 128
  objv : ∀ r, r ∈ M.objects → r.value.length ≤ 1024
def PLay (l : List Int) (w : World) (e : Ending) (w' : World) : Prop := ∃ v, e = .returned v ∧ OwnB w.heap.size w' v l ∧ Upd [] w w'
theorem OwnB.upd0 {base : Nat} {w w' : World} {v : Value} {xs : List Int} (h : OwnB base w v xs) (hu : Upd [] w w') : OwnB base w' v xs := OwnG.upd h hu (Safe.nil _ _ _) fun _ _ h => h
theorem lit_w (W : World) (xs : List Int) (hx : ∀ x, x ∈ xs → 0 ≤ x ∧ x < 65536) (hl : xs.length ≤ 4194304) : RdW true (W.alloc (.cells (xs.map (Value.int .u16)).toArray 23)) (.slice (some ⟨W.heap.size, 0, none⟩) xs.length xs.length) xs :=
  (rd_lit (R := u16R) (enc := Value.int .u16) W 23 xs (fun x h => ⟨rfl, (hx x h).1, (hx x h).2⟩) hl).rd
theorem lit_b (W : World) (xs : List Int) (hx : ∀ x, x ∈ xs → 0 ≤ x ∧ x < 256) (hl : xs.length ≤ 4194304) : OwnB W.heap.size (W.alloc (.cells (xs.map (Value.int .u8)).toArray 5)) (.slice (some ⟨W.heap.size, 0, none⟩) xs.length xs.length) xs :=
  rd_lit (R := u8R) (enc := Value.int .u8) W 5 xs (fun x h => ⟨rfl, (hx x h).1, (hx x h).2⟩) hl
theorem rng2 {h a b : Int} (ha : 0 ≤ a ∧ a < h) (hb : 0 ≤ b ∧ b < h) : ∀ x, x ∈ [a, b] → 0 ≤ x ∧ x < h := by
  intro x hx
  simp at hx
  rcases hx with rfl | rfl
  · exact ha
  · exact hb
theorem rng1 {h a : Int} (ha : 0 ≤ a ∧ a < h) : ∀ x, x ∈ [a] → 0 ≤ x ∧ x < h := by
  intro x hx
  simp at hx
  subst hx
  exact ha
theorem rng3 {h a b c : Int} (ha : 0 ≤ a ∧ a < h) (hb : 0 ≤ b ∧ b < h) (hc : 0 ≤ c ∧ c < h) : ∀ x, x ∈ [a, b, c] → 0 ≤ x ∧ x < h := by
  intro x hx
  simp at hx
  rcases hx with rfl | rfl | rfl
  · exact ha
  · exact hb
  · exact hc
def u8 (n : Int) : Int := n % 256
def u16 (n : Int) : Int := n % 65536
theorem u8_rng (n : Int) : 0 ≤ u8 n ∧ u8 n < 256 := by unfold u8; omega
theorem u16_rng (n : Int) : 0 ≤ u16 n ∧ u16 n < 65536 := by unfold u16; omega
def coilsLay (dir : Int) (M : Msg) : List Int :=
  if M.code = 5 then putW [M.addr, M.value]
  else if M.code = 15 ∧ dir = 0 then putW [M.addr, M.count] ++ [u8 (packB M.bits).length] ++ packB M.bits
  else if dir = 1 ∧ M.code ≠ 15 then [u8 M.data.length] ++ M.data
  else putW [M.addr, M.count]
theorem packB_length (l : List Bool) : ((packB l).length : Int) = many l.length := by
  have h : 0 ≤ many l.length := by unfold many; split <;> omega
  simp only [packB, List.length_map, List.length_range]
  omega
set_option maxRecDepth 100000 in
set_option maxHeartbeats 2000000 in
theorem coils_lay {m : Bool} {cs : Array Value} {M : Msg} {w : World} {dir : Int} (h : MsgRd m w cs.toList M) (hf : MsgFew M) : Calls Try.prog 60 #[.int .i64 dir, .agg cs] w (PLay (coilsLay dir M) w) := by
  obtain ⟨vw, vb, vd, vr, vo, h0, hw, hb, hd, hr, ho, hR⟩ := h
  have hcs : cs = (msgCells M vw vb vd vr vo).toArray := Array.toList_inj.1 h0
  subst hcs
  have f1 := hf.bits
  have f2 := hf.data
  have rA := hR.addr
  have rC := hR.count
  have rV := hR.value
  revert hb hd f1 f2 rA rC rV
  unfold coilsLay
  clear hf hR h0 hw hr ho
  obtain ⟨c0, c1, c2, c3, c4, c5, c6, c7, c8, c9, c10, c11, l1, l2, l3, l4, c16, c17, c18, c19, c20, l5⟩ := M
  simp only [B16]
  intro hb hd f1 f2 rA rC rV
  by_cases h5 : c0 = 5
  · simp only [if_pos h5]
    subst h5
    clear hb hd
    go_enter Try.func60, Try.ntmps60
    have tok1_0 : True := trivial
    have tok1_1 : True := trivial
    go_wp2_with (first | (have _t := tok1_0; refine wp_boxw rfl 29 _ rfl (.agg (msgCells ⟨5, c1, c2, c3, c4, c5, c6, c7, c8, c9, c10, c11, l1, l2, l3, l4, c16, c17, c18, c19, c20, l5⟩ vw vb vd vr vo).toArray) rfl ?_; intro g w1 hg hB hu1; have k0 : w1.cell? ⟨g, 0, none⟩ = some (.int .u8 5) := (blk_cell hB 0).trans rfl; have k2 : w1.cell? ⟨g, 2, none⟩ = some (.int .u16 c2) := (blk_cell hB 2).trans rfl; have k4 : w1.cell? ⟨g, 4, none⟩ = some (.int .u16 c4) := (blk_cell hB 4).trans rfl; clear _t tok1_0) | (have _t := tok1_1; go_at_call 33; refine (put_any (lit_w _ [c2, c4] (rng2 rA rV) (by simp)) (by simp)).mono ?_; rintro e w2 ⟨v, rfl, hO, hu2⟩; have hu2 := (hu1.alloc _).step hu2; have hO2 := OwnG.weaken hO (hu1.alloc _).size; clear _t tok1_1))
    go_ret
    exact ⟨_, rfl, hO2, hu2⟩
  simp only [if_neg h5]
  have q5 : (c0 == 5) = false := by simpa using h5
  by_cases h15 : c0 = 15 ∧ dir = 0
  · simp only [if_pos h15]
    obtain ⟨rfl, rfl⟩ := h15
    have hl := packB_length l2
    have hm : many l2.length ≤ 512 ∧ 0 ≤ many l2.length := by unfold many; split <;> omega
    have hpl : (packB l2).length ≤ 512 := by omega
    replace hl := Lib.hid hl
    clear hd h5 hm
    go_enter Try.func60, Try.ntmps60
    have tok2_0 : True := trivial
    have tok2_1 : True := trivial
    have tok2_2 : True := trivial
    have tok2_3 : True := trivial
    have tok2_4 : True := trivial
    go_wp2_with (first | (have _t := tok2_0; refine wp_boxw rfl 29 _ rfl (.agg (msgCells ⟨15, c1, c2, c3, c4, c5, c6, c7, c8, c9, c10, c11, l1, l2, l3, l4, c16, c17, c18, c19, c20, l5⟩ vw vb vd vr vo).toArray) rfl ?_; intro g w1 hg hB hu1; have k0 : w1.cell? ⟨g, 0, none⟩ = some (.int .u8 15) := (blk_cell hB 0).trans rfl; have k2 : w1.cell? ⟨g, 2, none⟩ = some (.int .u16 c2) := (blk_cell hB 2).trans rfl; have k3 : w1.cell? ⟨g, 3, none⟩ = some (.int .u16 c3) := (blk_cell hB 3).trans rfl; have k13 : w1.cell? ⟨g, 13, none⟩ = some vb := (blk_cell hB 13).trans rfl; clear _t tok2_0) | (have _t := tok2_1; go_at_call 83; refine (pack_any (hb.old hu1) (by omega)).mono ?_; rintro e w2 ⟨v2, rfl, hO2, hu2⟩; replace k2 := hu2.cell (by simp) k2; replace k3 := hu2.cell (by simp) k3; replace hu2 := hu1.step hu2; clear k0 k13; have hO := OwnG.weaken hO2 hu1.size; clear hO2; obtain ⟨A, cp, rfl, hA1, hA2⟩ := RdG.shape hO.rd; have hO2' := hO; clear _t tok2_1) | (have _t := tok2_2; go_at_call 33; refine (put_any (lit_w _ [c2, c3] (rng2 rA rC) (by simp)) (by simp)).mono ?_; rintro e w3 ⟨v3, rfl, hO3, hu3⟩; replace hu3 := ((Upd.refl [] w2).alloc _).step hu3; replace hO3 := OwnG.weaken hO3 ((Upd.refl [] w2).alloc _).size; replace hO := OwnB.upd0 hO hu3; clear k2 k3; clear _t tok2_2) | (have _t := tok2_3; at_builtin; go_loud (refine wp_append one_u8 w2.heap.size rfl _ _ 22 5 (.int .u8 0) 1 rfl Try.underlying22 u8_info rfl _ _ rfl (OwnB.upd0 hO3 ((Upd.refl [] w3).alloc _)) _ _ rfl (lit_b w3 [u8 (packB l2).length] (rng1 (u8_rng _)) (by simp)).rd (by rw [putW_length]; simp) (by decide) (hu3.alloc _).size ?_; intro v4 w4 hO4 hu4; replace hu4 := hu4 [] w2 (hu3.alloc _) (Nat.le_refl _); replace hO := OwnB.upd0 hO2' hu4; clear hO3); clear _t tok2_3) | (have _t := tok2_4; at_builtin; go_loud (refine wp_append one_u8 w2.heap.size rfl _ _ 22 5 (.int .u8 0) 1 rfl Try.underlying22 u8_info rfl _ _ rfl hO4 _ _ rfl hO.rd (by simp only [List.length_append, putW_length]; simp; omega) (by decide) hu4.size ?_; intro v5 w5 hO5 hu5; replace hu5 := hu5 [] w2 hu4 (Nat.le_refl _)); clear _t tok2_4))
    go_ret
    exact ⟨_, rfl, OwnG.weaken hO5 hu2.size, hu2.step hu5⟩
  simp only [if_neg h15]
  by_cases h1 : dir = 1 ∧ c0 ≠ 15
  · simp only [if_pos h1]
    obtain ⟨rfl, h15'⟩ := h1
    have q15 : (c0 == 15) = false := by simpa using h15'
    have q15' : (c0 != 15) = true := by simpa using h15'
    obtain ⟨A, cp, rfl, hA1, hA2⟩ := RdG.shape hd
    clear hb h5 h15 h15'
    go_enter Try.func60, Try.ntmps60
    have tok3_0 : True := trivial
    have tok3_1 : True := trivial
    go_wp2_with (first | (have _t := tok3_0; refine wp_boxw rfl 29 _ rfl (.agg (msgCells ⟨c0, c1, c2, c3, c4, c5, c6, c7, c8, c9, c10, c11, l1, l2, l3, l4, c16, c17, c18, c19, c20, l5⟩ vw vb (.slice A l3.length cp) vr vo).toArray) rfl ?_; intro g w1 hg hB hu1; have k0 : w1.cell? ⟨g, 0, none⟩ = some (.int .u8 c0) := (blk_cell hB 0).trans rfl; have k14 : w1.cell? ⟨g, 14, none⟩ = some (.slice A l3.length cp) := (blk_cell hB 14).trans rfl; have j14 : ∀ o, (w1.alloc o).cell? ⟨g, 14, none⟩ = some (.slice A l3.length cp) := fun o => ((Upd.refl [] w1).alloc o).cell (by simp) k14; clear _t tok3_0) | (have _t := tok3_1; at_builtin; go_loud (refine wp_append one_u8 w1.heap.size rfl _ _ 22 5 (.int .u8 0) 1 rfl Try.underlying22 u8_info rfl _ _ rfl (lit_b w1 [u8 l3.length] (rng1 (u8_rng _)) (by simp)) _ _ rfl (RdB.old hd (hu1.alloc _)) (by simp; omega) (by decide) ((Upd.refl [] w1).alloc _).size ?_; intro v4 w4 hO4 hu4; replace hu4 := hu4 [] w1 ((Upd.refl [] w1).alloc _) (Nat.le_refl _)); clear _t tok3_1))
    go_ret
    exact ⟨_, rfl, OwnG.weaken hO4 hu1.size, hu1.step hu4⟩
  simp only [if_neg h1]
  clear hb hd
  by_cases hc : c0 = 15
  · subst hc
    have q1 : (dir == 0) = false := by simpa using h15
    clear h5 h15 h1
    go_enter Try.func60, Try.ntmps60
    have tok4_0 : True := trivial
    go_wp2_with (first | (have _t := tok4_0; refine wp_boxw rfl 29 _ rfl (.agg (msgCells ⟨15, c1, c2, c3, c4, c5, c6, c7, c8, c9, c10, c11, l1, l2, l3, l4, c16, c17, c18, c19, c20, l5⟩ vw vb vd vr vo).toArray) rfl ?_; intro g w1 hg hB hu1; have k0 : w1.cell? ⟨g, 0, none⟩ = some (.int .u8 15) := (blk_cell hB 0).trans rfl; have k2 : w1.cell? ⟨g, 2, none⟩ = some (.int .u16 c2) := (blk_cell hB 2).trans rfl; have k3 : w1.cell? ⟨g, 3, none⟩ = some (.int .u16 c3) := (blk_cell hB 3).trans rfl; clear _t tok4_0) | (go_at_call 33; refine (put_any (lit_w _ [c2, c3] (rng2 rA rC) (by simp)) (by simp)).mono ?_; rintro e w2 ⟨v, rfl, hO, hu2⟩; have hu2 := (hu1.alloc _).step hu2; have hO2 := OwnG.weaken hO (hu1.alloc _).size))
    all_goals (go_ret; exact ⟨_, rfl, hO2, hu2⟩)
  · have q1 : (c0 == 15) = false := by simpa using hc
    have q2 : (dir == 1) = false := by simp [hc] at h1; simpa using h1
    clear h5 h15 h1 hc
    go_enter Try.func60, Try.ntmps60
    have tok5_0 : True := trivial
    go_wp2_with (first | (have _t := tok5_0; refine wp_boxw rfl 29 _ rfl (.agg (msgCells ⟨c0, c1, c2, c3, c4, c5, c6, c7, c8, c9, c10, c11, l1, l2, l3, l4, c16, c17, c18, c19, c20, l5⟩ vw vb vd vr vo).toArray) rfl ?_; intro g w1 hg hB hu1; have k0 : w1.cell? ⟨g, 0, none⟩ = some (.int .u8 c0) := (blk_cell hB 0).trans rfl; have k2 : w1.cell? ⟨g, 2, none⟩ = some (.int .u16 c2) := (blk_cell hB 2).trans rfl; have k3 : w1.cell? ⟨g, 3, none⟩ = some (.int .u16 c3) := (blk_cell hB 3).trans rfl; clear _t tok5_0) | (go_at_call 33; refine (put_any (lit_w _ [c2, c3] (rng2 rA rC) (by simp)) (by simp)).mono ?_; rintro e w2 ⟨v, rfl, hO, hu2⟩; have hu2 := (hu1.alloc _).step hu2; have hO2 := OwnG.weaken hO (hu1.alloc _).size))
    all_goals (go_ret; exact ⟨_, rfl, hO2, hu2⟩)
def fewB (M : Msg) : Bool := (((((decide (M.words.length ≤ 300) && decide (M.bits.length ≤ 2500)) && decide (M.data.length ≤ 300)) && decide (M.recs.length ≤ 50)) && decide (M.objects.length ≤ 100)) && M.recs.all fun r => decide (r.words.length ≤ 200)) && M.objects.all fun r => decide (r.value.length ≤ 300)
theorem fewB_few {M : Msg} (h : fewB M = true) : MsgFew M := by
  unfold fewB at h
  simp only [Bool.and_eq_true, decide_eq_true_eq, List.all_eq_true] at h
  obtain ⟨⟨⟨⟨⟨⟨h1, h2⟩, h3⟩, h4⟩, h5⟩, h6⟩, h7⟩ := h
  exact ⟨by omega, by omega, by omega, by omega, fun r hr => by have := h6 r hr; omega, by omega, fun r hr => by have := h7 r hr; omega⟩
def few1 (M : Msg) : Bool := (((((decide (300 < ((M.words.length : Nat) : Int))) || (decide (2500 < ((M.bits.length : Nat) : Int)))) || (decide (300 < ((M.data.length : Nat) : Int)))) || (decide (50 < ((M.recs.length : Nat) : Int)))) || (decide (100 < ((M.objects.length : Nat) : Int))))
theorem few1_t {M : Msg} (h : few1 M = true) : fewB M = false := by
  cases h2 : fewB M
  · rfl
  unfold few1 at h
  unfold fewB at h2
  simp only [Bool.and_eq_true, Bool.or_eq_true, decide_eq_true_eq] at h h2
  omega
theorem all_pre {α : Type} {p : α → Bool} {d : α} {xs : List α} {k : Nat} (h : (xs.take k).all p = true) (hk : k < xs.length) (hp : p (xs.getD k d) = true) : (xs.take (k + 1)).all p = true := by
  rw [List.take_succ_eq_append_getElem hk, List.all_append]
  rw [List.getD_eq_getElem?_getD, List.getElem?_eq_getElem hk] at hp
  simpa [h] using hp
theorem all_no {α : Type} {p : α → Bool} {d : α} {xs : List α} {k : Nat} (hk : k < xs.length) (hp : p (xs.getD k d) = false) : xs.all p = false := by
  rw [List.getD_eq_getElem?_getD, List.getElem?_eq_getElem hk] at hp
  rw [Bool.eq_false_iff]
  intro h
  rw [List.all_eq_true] at h
  have := h xs[k] (List.getElem_mem hk)
  simp only [Option.getD_some] at hp
  rw [hp] at this
  cases this
theorem few_r {M : Msg} {k : Nat} (hk : k < M.recs.length) (h : decide (200 < (((M.recs.getD k ⟨0, 0, 0, []⟩).words.length : Nat) : Int)) = true) : fewB M = false := by
  unfold fewB
  rw [all_no (d := ⟨0, 0, 0, []⟩) (xs := M.recs) hk (by simp only [decide_eq_true_eq] at h; simp only [decide_eq_false_iff_not]; omega)]
  simp
theorem few_o {M : Msg} {k : Nat} (hk : k < M.objects.length) (h : decide (300 < (((M.objects.getD k ⟨0, []⟩).value.length : Nat) : Int)) = true) : fewB M = false := by
  unfold fewB
  rw [all_no (d := ⟨0, []⟩) (xs := M.objects) hk (by simp only [decide_eq_true_eq] at h; simp only [decide_eq_false_iff_not]; omega)]
  simp
theorem few_t {M : Msg} {j k : Nat} (h1 : few1 M = false) (hj : j = M.recs.length) (hr : (M.recs.take j).all (fun r => decide (r.words.length ≤ 200)) = true) (hk : k = M.objects.length) (ho : (M.objects.take k).all (fun r => decide (r.value.length ≤ 300)) = true) : fewB M = true := by
  subst hj hk
  rw [List.take_length] at hr ho
  unfold few1 at h1
  simp only [Bool.or_eq_false_iff, decide_eq_false_iff_not] at h1
  unfold fewB
  rw [hr, ho]
  simp only [Bool.and_true, Bool.and_eq_true, decide_eq_true_eq]
  omega
set_option maxRecDepth 100000 in
set_option maxHeartbeats 4000000 in
theorem few_any {m : Bool} {cs : Array Value} {M : Msg} {w : World} (h : MsgRd m w cs.toList M) : Calls Try.prog 14 #[.agg cs] w (PVal (.bool (fewB M)) w) := by
 obtain ⟨vw, vb, vd, vr, vo, h0, hw, hbt, hd, hr, ho, hR⟩ := h
 obtain rfl : cs = (msgCells M vw vb vd vr vo).toArray := by apply Array.toList_inj.1; simpa using h0
 clear h0
 obtain ⟨Aw, kw, rfl, _, _⟩ := hw.shape
 obtain ⟨Ab, kb, rfl, _, _⟩ := hbt.shape
 obtain ⟨Ad, kd, rfl, _, _⟩ := hd.shape
 obtain ⟨Ar, kr, rfl, _, _⟩ := hr.shape
 obtain ⟨Ao, ko, rfl, _, _⟩ := ho.shape
 obtain ⟨q0, q1, q2, q3, q4, q5, q6, q7, q8, q9, q10, q11, q16, q17, q18, q19, q20⟩ := hR
 simp only [B8, B16] at q0 q1 q2 q3 q4 q5 q6 q7 q8 q9 q10 q11 q16 q17 q18 q19 q20
 refine en 63 Try.func14 rfl <| sg <| L0 <| Obx (mG M.code M.fail M.addr M.count M.value M.and_ M.or_ M.addr2 M.sub M.status M.events M.messages (.slice Aw M.words.length kw) (.slice Ab M.bits.length kb) (.slice Ad M.data.length kd) (.slice Ar M.recs.length kr) M.mei M.kind M.level M.more M.next (.slice Ao M.objects.length ko)) fun g10 w11 hg12 B13 hu14 => Pl 1 <| nt <| sq <| sg <| Pl 1 <| L0 <| Olb B13 12 <| Pl 3 <| cu 5 [9] 14 (((decide (300 < ((M.words.length : Nat) : Int))) || (decide (2500 < ((M.bits.length : Nat) : Int))))) (fun K K16 => ?_) ?_
 refine bl 9 ((decide (300 < ((M.words.length : Nat) : Int)))) (fun q15 => ?_) (fun q15 => ?_)
 have q15p := of_decide_eq_true q15
 exact Pl 5 <| ce K16 true (by rw [q15]; rfl)
 have q15p := of_decide_eq_false q15
 exact Pl 1 <| L1 <| Olb B13 13 <| Pl 3 <| ce K16 (decide (2500 < ((M.bits.length : Nat) : Int))) (by rw [q15]; rfl)
 refine Pl 1 <| cu 5 [15] 20 ((((decide (300 < ((M.words.length : Nat) : Int))) || (decide (2500 < ((M.bits.length : Nat) : Int)))) || (decide (300 < ((M.data.length : Nat) : Int))))) (fun K K18 => ?_) ?_
 refine bl 15 (((decide (300 < ((M.words.length : Nat) : Int))) || (decide (2500 < ((M.bits.length : Nat) : Int))))) (fun q17 => ?_) (fun q17 => ?_)
 exact Pl 5 <| ce K18 true (by rw [q17]; rfl)
 have q17a := (or_f q17).1
 have q17b := (or_f q17).2
 have q17ap := of_decide_eq_false q17a
 have q17bp := of_decide_eq_false q17b
 exact Pl 1 <| L1 <| Olb B13 14 <| Pl 3 <| ce K18 (decide (300 < ((M.data.length : Nat) : Int))) (by rw [q17]; rfl)
 refine Pl 1 <| cu 5 [21] 26 (((((decide (300 < ((M.words.length : Nat) : Int))) || (decide (2500 < ((M.bits.length : Nat) : Int)))) || (decide (300 < ((M.data.length : Nat) : Int)))) || (decide (50 < ((M.recs.length : Nat) : Int))))) (fun K K20 => ?_) ?_
 refine bl 21 ((((decide (300 < ((M.words.length : Nat) : Int))) || (decide (2500 < ((M.bits.length : Nat) : Int)))) || (decide (300 < ((M.data.length : Nat) : Int))))) (fun q19 => ?_) (fun q19 => ?_)
 exact Pl 5 <| ce K20 true (by rw [q19]; rfl)
 have q19a := (or_f q19).1
 have q19b := (or_f q19).2
 have q19aa := (or_f q19a).1
 have q19ab := (or_f q19a).2
 have q19aap := of_decide_eq_false q19aa
 have q19abp := of_decide_eq_false q19ab
 have q19bp := of_decide_eq_false q19b
 exact Pl 1 <| L1 <| Olb B13 15 <| Pl 3 <| ce K20 (decide (50 < ((M.recs.length : Nat) : Int))) (by rw [q19]; rfl)
 refine Pl 1 <| cu 5 [27] 32 ((((((decide (300 < ((M.words.length : Nat) : Int))) || (decide (2500 < ((M.bits.length : Nat) : Int)))) || (decide (300 < ((M.data.length : Nat) : Int)))) || (decide (50 < ((M.recs.length : Nat) : Int)))) || (decide (100 < ((M.objects.length : Nat) : Int))))) (fun K K22 => ?_) ?_
 refine bl 27 (((((decide (300 < ((M.words.length : Nat) : Int))) || (decide (2500 < ((M.bits.length : Nat) : Int)))) || (decide (300 < ((M.data.length : Nat) : Int)))) || (decide (50 < ((M.recs.length : Nat) : Int))))) (fun q21 => ?_) (fun q21 => ?_)
 exact Pl 5 <| ce K22 true (by rw [q21]; rfl)
 have q21a := (or_f q21).1
 have q21b := (or_f q21).2
 have q21aa := (or_f q21a).1
 have q21ab := (or_f q21a).2
 have q21aaa := (or_f q21aa).1
 have q21aab := (or_f q21aa).2
 have q21aaap := of_decide_eq_false q21aaa
 have q21aabp := of_decide_eq_false q21aab
 have q21abp := of_decide_eq_false q21ab
 have q21bp := of_decide_eq_false q21b
 exact Pl 1 <| L1 <| Olb B13 21 <| Pl 3 <| ce K22 (decide (100 < ((M.objects.length : Nat) : Int))) (by rw [q21]; rfl)
 refine nt <| cb ((((((decide (300 < ((M.words.length : Nat) : Int))) || (decide (2500 < ((M.bits.length : Nat) : Int)))) || (decide (300 < ((M.data.length : Nat) : Int)))) || (decide (50 < ((M.recs.length : Nat) : Int)))) || (decide (100 < ((M.objects.length : Nat) : Int))))) (fun q23 => ?_) (fun q23 => ?_)
 refine sg <| Pl 1 <| nt <| rt <| tr <| rr (.bool false) <| ?_
 have hs : fewB M = false := few1_t q23
 rw [hs]
 exact ⟨rfl, hu14⟩
 have q23a := (or_f q23).1
 have q23b := (or_f q23).2
 have q23aa := (or_f q23a).1
 have q23ab := (or_f q23a).2
 have q23aaa := (or_f q23aa).1
 have q23aab := (or_f q23aa).2
 have q23aaaa := (or_f q23aaa).1
 have q23aaab := (or_f q23aaa).2
 have q23aaaap := of_decide_eq_false q23aaaa
 have q23aaabp := of_decide_eq_false q23aaab
 have q23aabp := of_decide_eq_false q23aab
 have q23abp := of_decide_eq_false q23ab
 have q23bp := of_decide_eq_false q23b
 refine skn <| sq <| sg <| Pl 1 <| nt <| bk <| ?_
 refine glp (fun x => [(1, .pointer (some ⟨g10, 0, none⟩)), (3, .int .i64 ((x : Nat) : Int))]) (fun (x : Nat) w' => Upd [] w11 w' ∧ ((M.recs.take x).all (fun r : Rec => decide (r.words.length ≤ 200)) = true) ∧ (x ≤ M.recs.length)) (fun x => M.recs.length - x) 0 ⟨Upd.refl _ _, (by (try dsimp only); simp), (by (try dsimp only); omega)⟩ ?_
 rintro j w24 ⟨hu25, p26, p27⟩
 refine wkc [(1, .pointer (some ⟨g10, 0, none⟩)), (3, .int .i64 ((j : Nat) : Int))] ?_
 have p29 : (M.recs.take j).all (fun r : Rec => decide (r.words.length ≤ 200)) = true := p26
 have p30 : j ≤ M.recs.length := p27
 refine sq <| sg <| Pl 2 <| ?_
 have r31 := ub hu25 B13
 refine L0 <| Olb r31 15 <| Pl 2 <| nt <| ?_
 have U32 := ut0 hu14 hu25
 refine cb ((decide (((j : Nat) : Int) < ((M.recs.length : Nat) : Int)))) (fun q33 => ?_) (fun q33 => ?_)
 have q33p := of_decide_eq_true q33
 refine skn <| sq <| bk <| sg <| Pl 1 <| L0 <| Olb r31 15 <| Pl 1 <| x75 (RdR.elt hr j (by omega)) fun b34 o35 cl36 t37 fr38 A39 cp40 hA41 hb42 hv43 hr44 hs45 => L0 <| Oixs 4 M.recs.length j hA41 (by omega) <| Pl 1 <| ?_
 have r46 := ub U32 hb42
 refine L0 <| Old (p := ⟨b34, o35 + j * 4 + 3, none⟩) (v := .slice A39 ((M.recs.getD j ⟨0, 0, 0, []⟩).words.length) cp40) (el_at r46 hs45 3 rfl (by decide)) <| Pl 2 <| nt <| cb ((decide (200 < (((M.recs.getD j ⟨0, 0, 0, []⟩).words.length : Nat) : Int)))) (fun q47 => ?_) (fun q47 => ?_)
 have q47p := of_decide_eq_true q47
 refine sg <| Pl 1 <| nt <| rt <| br <| tr <| tr <| br <| tr <| rr (.bool false) <| ?_
 have hs : fewB M = false := few_r (by omega) q47
 rw [hs]
 exact ⟨rfl, U32⟩
 have q47p := of_decide_eq_false q47
 exact sk <| bn <| tn <| go <| Pl 1 <| L0 <| Oi (((j : Nat) : Int) + 1) <| Pl 1 <| nl <| lpe (j + 1) ⟨hu25, (all_pre (d := ⟨0, 0, 0, []⟩) p29 (by omega) (by simp only [decide_eq_true_eq]; omega)), (by (try dsimp only); omega)⟩ (by omega)
 have q33p := of_decide_eq_false q33
 refine xt <| tx <| tx <| bx <| tn <| sq <| sg <| Pl 1 <| nt <| bk <| ?_
 refine glp (fun x => [(1, .pointer (some ⟨g10, 0, none⟩)), (4, .int .i64 ((x : Nat) : Int))]) (fun (x : Nat) w' => Upd [] w24 w' ∧ ((M.objects.take x).all (fun r : Obj => decide (r.value.length ≤ 300)) = true) ∧ (x ≤ M.objects.length)) (fun x => M.objects.length - x) 0 ⟨Upd.refl _ _, (by (try dsimp only); simp), (by (try dsimp only); omega)⟩ ?_
 rintro k w48 ⟨hu49, p50, p51⟩
 refine wkc [(1, .pointer (some ⟨g10, 0, none⟩)), (4, .int .i64 ((k : Nat) : Int))] ?_
 have p53 : (M.objects.take k).all (fun r : Obj => decide (r.value.length ≤ 300)) = true := p50
 have p54 : k ≤ M.objects.length := p51
 refine sq <| sg <| Pl 2 <| ?_
 have r55 := ub hu49 r31
 refine L0 <| Olb r55 21 <| Pl 2 <| nt <| ?_
 have U56 := ut0 U32 hu49
 refine cb ((decide (((k : Nat) : Int) < ((M.objects.length : Nat) : Int)))) (fun q57 => ?_) (fun q57 => ?_)
 have q57p := of_decide_eq_true q57
 refine skn <| sq <| bk <| sg <| Pl 1 <| L0 <| Olb r55 21 <| Pl 1 <| x75 (RdO.elt ho k (by omega)) fun b58 o59 cl60 t61 fr62 A63 cp64 hA65 hb66 hv67 hr68 hs69 => L0 <| Oixs 2 M.objects.length k hA65 (by omega) <| Pl 1 <| ?_
 have r70 := ub U56 hb66
 refine L0 <| Old (p := ⟨b58, o59 + k * 2 + 1, none⟩) (v := .slice A63 ((M.objects.getD k ⟨0, []⟩).value.length) cp64) (el_at r70 hs69 1 rfl (by decide)) <| Pl 2 <| nt <| cb ((decide (300 < (((M.objects.getD k ⟨0, []⟩).value.length : Nat) : Int)))) (fun q71 => ?_) (fun q71 => ?_)
 have q71p := of_decide_eq_true q71
 refine sg <| Pl 1 <| nt <| rt <| br <| tr <| tr <| br <| tr <| rr (.bool false) <| ?_
 have hs : fewB M = false := few_o (by omega) q71
 rw [hs]
 exact ⟨rfl, U56⟩
 have q71p := of_decide_eq_false q71
 exact sk <| bn <| tn <| go <| Pl 1 <| L0 <| Oi (((k : Nat) : Int) + 1) <| Pl 1 <| nl <| lpe (k + 1) ⟨hu49, (all_pre (d := ⟨0, []⟩) p53 (by omega) (by simp only [decide_eq_true_eq]; omega)), (by (try dsimp only); omega)⟩ (by omega)
 have q57p := of_decide_eq_false q57
 refine xt <| tx <| tx <| bx <| tn <| sg <| Pl 1 <| nt <| rt <| rr (.bool true) <| ?_
 have hs : fewB M = true := few_t (j := j) (k := k) q23 (by omega) p29 (by omega) p53
 rw [hs]
 exact ⟨rfl, U56⟩
theorem eq_of_take {α : Type} {xs ys : List α} {k : Nat} (h : xs.take k = ys.take k) (h1 : k = xs.length) (h2 : xs.length = ys.length) : xs = ys := by
  rw [List.take_of_length_le (by omega), List.take_of_length_le (by omega)] at h
  exact h
set_option maxRecDepth 100000 in
set_option maxHeartbeats 4000000 in
theorem refWords_any0 {m m' : Bool} {A B : Option Addr} {c d : Nat} {xs ys : List Int} {w : World} (h1 : RdW m w (.slice A xs.length c) xs) (h2 : RdW m' w (.slice B ys.length d) ys) :
    Calls Try.prog 26 #[.slice A xs.length c, .slice B ys.length d] w (PVal (.bool (decide (xs = ys))) w) := by
 have hz1 := RdG.len h1
 have hz2 := RdG.len h2
 refine en 26 Try.func26 rfl <| sg <| Pl 1 <| nt <| sq <| sg <| Pl 5 <| nt <| cb ((((xs.length : Nat) : Int) != ((ys.length : Nat) : Int))) (fun q10 => ?_) (fun q10 => ?_)
 have q10p := ne_of_bnei q10
 refine sg <| Pl 1 <| nt <| rt <| tr <| rr (.bool false) <| ?_
 have hs : decide (xs = ys) = false := decide_eq_false (fun e => by rw [e] at q10p; omega)
 rw [hs]
 exact ⟨rfl, (Upd.refl [] _)⟩
 have q10p := eq_of_bnei q10
 refine skn <| sq <| sg <| Pl 1 <| nt <| bk <| ?_
 refine glp (fun x => [(0, .slice A xs.length c), (1, .slice B ys.length d), (5, .int .i64 ((x : Nat) : Int))]) (fun (x : Nat) w' => Upd [] w w' ∧ (xs.take x = ys.take x) ∧ (x ≤ xs.length)) (fun x => xs.length - x) 0 ⟨Upd.refl _ _, (by (try dsimp only); simp), (by (try dsimp only); omega)⟩ ?_
 rintro k w11 ⟨hu12, p13, p14⟩
 refine wkc [(0, .slice A xs.length c), (1, .slice B ys.length d), (5, .int .i64 ((k : Nat) : Int))] ?_
 have p16 : xs.take k = ys.take k := p13
 have p17 : k ≤ xs.length := p14
 refine sq <| sg <| Pl 4 <| nt <| cb ((decide (((k : Nat) : Int) < ((xs.length : Nat) : Int)))) (fun q18 => ?_) (fun q18 => ?_)
 have q18p := of_decide_eq_true q18
 refine skn <| sq <| bk <| sq <| ?_
 have r31 := RdW.old h1 hu12
 refine x23 (RdW.at_ r31 k (by omega)) fun b32 o33 hA34 hl35 hr36 => ?_
 have r37 := RdW.old h2 hu12
 refine x23 (RdW.at_ r37 k (by omega)) fun b38 o39 hA40 hl41 hr42 => Rg 9 (fun w' => w'.cell? ⟨b32, o33 + k, none⟩ = some (.int .u16 (xs.getD k 0)) ∧ w'.cell? ⟨b38, o39 + k, none⟩ = some (.int .u16 (ys.getD k 0))) fun w43 hu44 => hld ⟨(uc hu44 hl35), (uc hu44 hl41)⟩ fun hS45 => Rt 0 hS45 <| Rt 1 hS45 <| Ri1 2 hS45 xs.length k ((k : Nat) : Int) rfl hA34 (by omega) <| Rl 3 hS45 (fun _ hs => hs.1) <| Rt 4 hS45 <| Rt 5 hS45 <| Ri1 6 hS45 ys.length k ((k : Nat) : Int) rfl hA40 (by omega) <| Rl 7 hS45 (fun _ hs => hs.2) <| Rt 8 hS45 <| re <| tn <| ?_
 have U46 := ut0 hu12 hu44
 refine cb (((xs.getD k 0) != (ys.getD k 0))) (fun q47 => ?_) (fun q47 => ?_)
 have q47p := ne_of_bnei q47
 refine sg <| Pl 1 <| nt <| rt <| br <| tr <| tr <| br <| tr <| rr (.bool false) <| ?_
 have hs : decide (xs = ys) = false := decide_eq_false (eqNo (d := 0) k (by simpa using q47))
 rw [hs]
 exact ⟨rfl, U46⟩
 have q47p := eq_of_bnei q47
 exact sk <| bn <| tn <| go <| Pl 1 <| L0 <| Oi (((k : Nat) : Int) + 1) <| Pl 1 <| nl <| lpe (k + 1) ⟨U46, (eqPre (d := 0) (by omega) (by omega) p16 q47p), (by (try dsimp only); omega)⟩ (by omega)
 have q18p := of_decide_eq_false q18
 refine xt <| tx <| tx <| bx <| tn <| sg <| Pl 1 <| nt <| rt <| rr (.bool true) <| ?_
 have hs : decide (xs = ys) = true := decide_eq_true (eq_of_take p16 (by omega) (by omega))
 rw [hs]
 exact ⟨rfl, hu12⟩
theorem refWords_any {m m' : Bool} {a b : Value} {xs ys : List Int} {w : World} (h1 : RdW m w a xs) (h2 : RdW m' w b ys) : Calls Try.prog 26 #[a, b] w (PVal (.bool (decide (xs = ys))) w) := by
  obtain ⟨A, c, rfl, _, _⟩ := h1.shape
  obtain ⟨B, d, rfl, _, _⟩ := h2.shape
  exact refWords_any0 h1 h2
set_option maxRecDepth 100000 in
set_option maxHeartbeats 4000000 in
theorem refBools_any0 {m m' : Bool} {A B : Option Addr} {c d : Nat} {xs ys : List Bool} {w : World} (h1 : RdL m w (.slice A xs.length c) xs) (h2 : RdL m' w (.slice B ys.length d) ys) :
    Calls Try.prog 27 #[.slice A xs.length c, .slice B ys.length d] w (PVal (.bool (decide (xs = ys))) w) := by
 have hz1 := RdG.len h1
 have hz2 := RdG.len h2
 refine en 26 Try.func27 rfl <| sg <| Pl 1 <| nt <| sq <| sg <| Pl 5 <| nt <| cb ((((xs.length : Nat) : Int) != ((ys.length : Nat) : Int))) (fun q10 => ?_) (fun q10 => ?_)
 have q10p := ne_of_bnei q10
 refine sg <| Pl 1 <| nt <| rt <| tr <| rr (.bool false) <| ?_
 have hs : decide (xs = ys) = false := decide_eq_false (fun e => by rw [e] at q10p; omega)
 rw [hs]
 exact ⟨rfl, (Upd.refl [] _)⟩
 have q10p := eq_of_bnei q10
 refine skn <| sq <| sg <| Pl 1 <| nt <| bk <| ?_
 refine glp (fun x => [(0, .slice A xs.length c), (1, .slice B ys.length d), (5, .int .i64 ((x : Nat) : Int))]) (fun (x : Nat) w' => Upd [] w w' ∧ (xs.take x = ys.take x) ∧ (x ≤ xs.length)) (fun x => xs.length - x) 0 ⟨Upd.refl _ _, (by (try dsimp only); simp), (by (try dsimp only); omega)⟩ ?_
 rintro k w11 ⟨hu12, p13, p14⟩
 refine wkc [(0, .slice A xs.length c), (1, .slice B ys.length d), (5, .int .i64 ((k : Nat) : Int))] ?_
 have p16 : xs.take k = ys.take k := p13
 have p17 : k ≤ xs.length := p14
 refine sq <| sg <| Pl 4 <| nt <| cb ((decide (((k : Nat) : Int) < ((xs.length : Nat) : Int)))) (fun q18 => ?_) (fun q18 => ?_)
 have q18p := of_decide_eq_true q18
 refine skn <| sq <| bk <| sq <| ?_
 have r31 := RdL.old h1 hu12
 refine x22 (RdL.at_ r31 k (by omega)) fun b32 o33 hA34 hl35 => ?_
 have r37 := RdL.old h2 hu12
 refine x22 (RdL.at_ r37 k (by omega)) fun b38 o39 hA40 hl41 => Rg 9 (fun w' => w'.cell? ⟨b32, o33 + k, none⟩ = some (.bool (xs.getD k false)) ∧ w'.cell? ⟨b38, o39 + k, none⟩ = some (.bool (ys.getD k false))) fun w43 hu44 => hld ⟨(uc hu44 hl35), (uc hu44 hl41)⟩ fun hS45 => Rt 0 hS45 <| Rt 1 hS45 <| Ri1 2 hS45 xs.length k ((k : Nat) : Int) rfl hA34 (by omega) <| Rl 3 hS45 (fun _ hs => hs.1) <| Rt 4 hS45 <| Rt 5 hS45 <| Ri1 6 hS45 ys.length k ((k : Nat) : Int) rfl hA40 (by omega) <| Rl 7 hS45 (fun _ hs => hs.2) <| Rt 8 hS45 <| re <| tn <| ?_
 have U46 := ut0 hu12 hu44
 refine cb (((xs.getD k false) != (ys.getD k false))) (fun q47 => ?_) (fun q47 => ?_)
 refine sg <| Pl 1 <| nt <| rt <| br <| tr <| tr <| br <| tr <| rr (.bool false) <| ?_
 have hs : decide (xs = ys) = false := decide_eq_false (eqNo (d := false) k (by simpa using q47))
 rw [hs]
 exact ⟨rfl, U46⟩
 exact sk <| bn <| tn <| go <| Pl 1 <| L0 <| Oi (((k : Nat) : Int) + 1) <| Pl 1 <| nl <| lpe (k + 1) ⟨U46, (eqPre (d := false) (by omega) (by omega) p16 (by simpa using q47)), (by (try dsimp only); omega)⟩ (by omega)
 have q18p := of_decide_eq_false q18
 refine xt <| tx <| tx <| bx <| tn <| sg <| Pl 1 <| nt <| rt <| rr (.bool true) <| ?_
 have hs : decide (xs = ys) = true := decide_eq_true (eq_of_take p16 (by omega) (by omega))
 rw [hs]
 exact ⟨rfl, hu12⟩
theorem refBools_any {m m' : Bool} {a b : Value} {xs ys : List Bool} {w : World} (h1 : RdL m w a xs) (h2 : RdL m' w b ys) : Calls Try.prog 27 #[a, b] w (PVal (.bool (decide (xs = ys))) w) := by
  obtain ⟨A, c, rfl, _, _⟩ := h1.shape
  obtain ⟨B, d, rfl, _, _⟩ := h2.shape
  exact refBools_any0 h1 h2
theorem take_eq {α : Type} {xs ys : List α} {d : α} {k : Nat} (h : xs.take k = ys.take k) (hk : k < xs.length) (hl : xs.length = ys.length) (he : xs.getD k d = ys.getD k d) : xs.take (k + 1) = ys.take (k + 1) := by
  have hk2 : k < ys.length := by omega
  rw [List.take_succ_eq_append_getElem hk, List.take_succ_eq_append_getElem hk2, h]
  rw [List.getD_eq_getElem?_getD, List.getElem?_eq_getElem hk, List.getD_eq_getElem?_getD, List.getElem?_eq_getElem (by omega)] at he
  simp only [Option.getD_some] at he
  rw [he]
theorem rec_eq {a b : Rec} (h : ((((!(decide (a.words = b.words))) || (a.file != b.file)) || (a.record != b.record)) || (a.count != b.count)) = false) : a = b := by
  cases a
  cases b
  simp at h
  simp [h]
theorem obj_eq {a b : Obj} (h : ((!(decide (a.value = b.value))) || (a.id != b.id)) = false) : a = b := by
  cases a
  cases b
  simp at h
  simp [h]
theorem obj_eq2 {a b : Obj} (h : (!(decide (a.value = b.value))) = false) (h2 : (a.id != b.id) = false) : a = b := obj_eq (by rw [h, h2]; rfl)
theorem ne_by {A B : Msg} {f : Msg → Msg → Bool} (h : f A B = true) (hf : ∀ M, f M M = false) : decide (A = B) = false := decide_eq_false fun e => by rw [e, hf] at h; cases h
theorem same7_t {A B : Msg} (h1 : ((((((((((((A.code != B.code) || (A.fail != B.fail)) || (A.addr != B.addr)) || (A.count != B.count)) || (A.value != B.value)) || (A.and_ != B.and_)) || (A.or_ != B.or_)) || (A.addr2 != B.addr2)) || (A.sub != B.sub)) || (A.status != B.status)) || (A.events != B.events)) || (A.messages != B.messages)) = false) (h2 : (((((A.mei != B.mei) || (A.kind != B.kind)) || (A.level != B.level)) || (A.more != B.more)) || (A.next != B.next)) = false) (h3 : (((((!(decide (A.words = B.words))) || (!(decide (A.bits = B.bits)))) || (!(decide (A.data = B.data)))) || (((A.recs.length : Nat) : Int) != ((B.recs.length : Nat) : Int))) || (((A.objects.length : Nat) : Int) != ((B.objects.length : Nat) : Int))) = false) (hr : A.recs.length = B.recs.length → A.recs = B.recs) (ho : A.objects.length = B.objects.length → A.objects = B.objects) : A = B := by
  cases A
  cases B
  simp only [Bool.or_eq_false_iff, bne_eq_false_iff_eq, Bool.not_eq_false', decide_eq_true_eq] at h1 h2 h3
  simp only at hr ho
  obtain ⟨⟨⟨⟨⟨⟨⟨⟨⟨⟨⟨a1, a2⟩, a3⟩, a4⟩, a5⟩, a6⟩, a7⟩, a8⟩, a9⟩, a10⟩, a11⟩, a12⟩ := h1
  obtain ⟨⟨⟨⟨b1, b2⟩, b3⟩, b4⟩, b5⟩ := h2
  obtain ⟨⟨⟨⟨d1, d2⟩, d3⟩, d4⟩, d5⟩ := h3
  have d4 := hr (by omega)
  have d5 := ho (by omega)
  subst a1 a2 a3 a4 a5 a6 a7 a8 a9 a10 a11 a12 b1 b2 b3 b4 b5 d1 d2 d3 d4 d5
  rfl
set_option maxRecDepth 100000 in
set_option maxHeartbeats 4000000 in
theorem same7_any {m m' : Bool} {pc qc : Array Value} {A B : Msg} {w : World} (ha : MsgRd m w pc.toList A) (hb : MsgRd m' w qc.toList B) :
    Calls Try.prog 18 #[.agg pc, .agg qc] w (PVal (.bool (decide (A = B))) w) := by
 have pM := ha
 obtain ⟨pvw, pvb, pvd, pvr, pvo, ph0, phw, phb, phd, phr, pho, pR⟩ := ha
 obtain rfl : pc = (msgCells A pvw pvb pvd pvr pvo).toArray := by apply Array.toList_inj.1; simpa using ph0
 clear ph0
 obtain ⟨pw, pkw, rfl, _, _⟩ := phw.shape
 obtain ⟨pb, pkb, rfl, _, _⟩ := phb.shape
 obtain ⟨pd, pkd, rfl, _, _⟩ := phd.shape
 obtain ⟨pr, pkr, rfl, _, _⟩ := phr.shape
 obtain ⟨po, pko, rfl, _, _⟩ := pho.shape
 have qM := hb
 obtain ⟨qvw, qvb, qvd, qvr, qvo, qh0, qhw, qhb, qhd, qhr, qho, qR⟩ := hb
 obtain rfl : qc = (msgCells B qvw qvb qvd qvr qvo).toArray := by apply Array.toList_inj.1; simpa using qh0
 clear qh0
 obtain ⟨qw, qkw, rfl, _, _⟩ := qhw.shape
 obtain ⟨qb, qkb, rfl, _, _⟩ := qhb.shape
 obtain ⟨qd, qkd, rfl, _, _⟩ := qhd.shape
 obtain ⟨qr, qkr, rfl, _, _⟩ := qhr.shape
 obtain ⟨qo, qko, rfl, _, _⟩ := qho.shape
 have hz1 := RdG.len phr
 have hz2 := RdG.len pho
 refine en 254 Try.func18 rfl <| sg <| L0 <| Obx (mG A.code A.fail A.addr A.count A.value A.and_ A.or_ A.addr2 A.sub A.status A.events A.messages (.slice pw A.words.length pkw) (.slice pb A.bits.length pkb) (.slice pd A.data.length pkd) (.slice pr A.recs.length pkr) A.mei A.kind A.level A.more A.next (.slice po A.objects.length pko)) fun g10 w11 hg12 B13 hu14 => L0 <| Obx (mG B.code B.fail B.addr B.count B.value B.and_ B.or_ B.addr2 B.sub B.status B.events B.messages (.slice qw B.words.length qkw) (.slice qb B.bits.length qkb) (.slice qd B.data.length qkd) (.slice qr B.recs.length qkr) B.mei B.kind B.level B.more B.next (.slice qo B.objects.length qko)) fun g15 w16 hg17 B18 hu19 => Pl 1 <| nt <| sq <| sg <| Pl 1 <| ?_
 have r20 := ub hu19 B13
 refine L0 <| Olb r20 0 <| Pl 1 <| L0 <| Olb B18 0 <| Pl 2 <| cu 6 [19] 25 (((A.code != B.code) || (A.fail != B.fail))) (fun K K22 => ?_) ?_
 refine bl 19 ((A.code != B.code)) (fun q21 => ?_) (fun q21 => ?_)
 have q21p := ne_of_bnei q21
 exact Pl 6 <| ce K22 true (by rw [q21]; rfl)
 have q21p := eq_of_bnei q21
 exact Pl 1 <| L1 <| Olb r20 1 <| Pl 1 <| L1 <| Olb B18 1 <| Pl 2 <| ce K22 (A.fail != B.fail) (by rw [q21]; rfl)
 refine Pl 1 <| cu 6 [26] 32 ((((A.code != B.code) || (A.fail != B.fail)) || (A.addr != B.addr))) (fun K K24 => ?_) ?_
 refine bl 26 (((A.code != B.code) || (A.fail != B.fail))) (fun q23 => ?_) (fun q23 => ?_)
 exact Pl 6 <| ce K24 true (by rw [q23]; rfl)
 have q23a := (or_f q23).1
 have q23b := (or_f q23).2
 have q23ap := eq_of_bnei q23a
 have q23bp := eq_of_bnei q23b
 exact Pl 1 <| L1 <| Olb r20 2 <| Pl 1 <| L1 <| Olb B18 2 <| Pl 2 <| ce K24 (A.addr != B.addr) (by rw [q23]; rfl)
 refine Pl 1 <| cu 6 [33] 39 (((((A.code != B.code) || (A.fail != B.fail)) || (A.addr != B.addr)) || (A.count != B.count))) (fun K K26 => ?_) ?_
 refine bl 33 ((((A.code != B.code) || (A.fail != B.fail)) || (A.addr != B.addr))) (fun q25 => ?_) (fun q25 => ?_)
 exact Pl 6 <| ce K26 true (by rw [q25]; rfl)
 have q25a := (or_f q25).1
 have q25b := (or_f q25).2
 have q25aa := (or_f q25a).1
 have q25ab := (or_f q25a).2
 have q25aap := eq_of_bnei q25aa
 have q25abp := eq_of_bnei q25ab
 have q25bp := eq_of_bnei q25b
 exact Pl 1 <| L1 <| Olb r20 3 <| Pl 1 <| L1 <| Olb B18 3 <| Pl 2 <| ce K26 (A.count != B.count) (by rw [q25]; rfl)
 refine Pl 1 <| cu 6 [40] 46 ((((((A.code != B.code) || (A.fail != B.fail)) || (A.addr != B.addr)) || (A.count != B.count)) || (A.value != B.value))) (fun K K28 => ?_) ?_
 refine bl 40 (((((A.code != B.code) || (A.fail != B.fail)) || (A.addr != B.addr)) || (A.count != B.count))) (fun q27 => ?_) (fun q27 => ?_)
 exact Pl 6 <| ce K28 true (by rw [q27]; rfl)
 have q27a := (or_f q27).1
 have q27b := (or_f q27).2
 have q27aa := (or_f q27a).1
 have q27ab := (or_f q27a).2
 have q27aaa := (or_f q27aa).1
 have q27aab := (or_f q27aa).2
 have q27aaap := eq_of_bnei q27aaa
 have q27aabp := eq_of_bnei q27aab
 have q27abp := eq_of_bnei q27ab
 have q27bp := eq_of_bnei q27b
 exact Pl 1 <| L1 <| Olb r20 4 <| Pl 1 <| L1 <| Olb B18 4 <| Pl 2 <| ce K28 (A.value != B.value) (by rw [q27]; rfl)
 refine Pl 1 <| cu 6 [47] 53 (((((((A.code != B.code) || (A.fail != B.fail)) || (A.addr != B.addr)) || (A.count != B.count)) || (A.value != B.value)) || (A.and_ != B.and_))) (fun K K30 => ?_) ?_
 refine bl 47 ((((((A.code != B.code) || (A.fail != B.fail)) || (A.addr != B.addr)) || (A.count != B.count)) || (A.value != B.value))) (fun q29 => ?_) (fun q29 => ?_)
 exact Pl 6 <| ce K30 true (by rw [q29]; rfl)
 have q29a := (or_f q29).1
 have q29b := (or_f q29).2
 have q29aa := (or_f q29a).1
 have q29ab := (or_f q29a).2
 have q29aaa := (or_f q29aa).1
 have q29aab := (or_f q29aa).2
 have q29aaaa := (or_f q29aaa).1
 have q29aaab := (or_f q29aaa).2
 have q29aaaap := eq_of_bnei q29aaaa
 have q29aaabp := eq_of_bnei q29aaab
 have q29aabp := eq_of_bnei q29aab
 have q29abp := eq_of_bnei q29ab
 have q29bp := eq_of_bnei q29b
 exact Pl 1 <| L1 <| Olb r20 5 <| Pl 1 <| L1 <| Olb B18 5 <| Pl 2 <| ce K30 (A.and_ != B.and_) (by rw [q29]; rfl)
 refine Pl 1 <| cu 6 [54] 60 ((((((((A.code != B.code) || (A.fail != B.fail)) || (A.addr != B.addr)) || (A.count != B.count)) || (A.value != B.value)) || (A.and_ != B.and_)) || (A.or_ != B.or_))) (fun K K32 => ?_) ?_
 refine bl 54 (((((((A.code != B.code) || (A.fail != B.fail)) || (A.addr != B.addr)) || (A.count != B.count)) || (A.value != B.value)) || (A.and_ != B.and_))) (fun q31 => ?_) (fun q31 => ?_)
 exact Pl 6 <| ce K32 true (by rw [q31]; rfl)
 have q31a := (or_f q31).1
 have q31b := (or_f q31).2
 have q31aa := (or_f q31a).1
 have q31ab := (or_f q31a).2
 have q31aaa := (or_f q31aa).1
 have q31aab := (or_f q31aa).2
 have q31aaaa := (or_f q31aaa).1
 have q31aaab := (or_f q31aaa).2
 have q31aaaaa := (or_f q31aaaa).1
 have q31aaaab := (or_f q31aaaa).2
 have q31aaaaap := eq_of_bnei q31aaaaa
 have q31aaaabp := eq_of_bnei q31aaaab
 have q31aaabp := eq_of_bnei q31aaab
 have q31aabp := eq_of_bnei q31aab
 have q31abp := eq_of_bnei q31ab
 have q31bp := eq_of_bnei q31b
 exact Pl 1 <| L1 <| Olb r20 6 <| Pl 1 <| L1 <| Olb B18 6 <| Pl 2 <| ce K32 (A.or_ != B.or_) (by rw [q31]; rfl)
 refine Pl 1 <| cu 6 [61] 67 (((((((((A.code != B.code) || (A.fail != B.fail)) || (A.addr != B.addr)) || (A.count != B.count)) || (A.value != B.value)) || (A.and_ != B.and_)) || (A.or_ != B.or_)) || (A.addr2 != B.addr2))) (fun K K34 => ?_) ?_
 refine bl 61 ((((((((A.code != B.code) || (A.fail != B.fail)) || (A.addr != B.addr)) || (A.count != B.count)) || (A.value != B.value)) || (A.and_ != B.and_)) || (A.or_ != B.or_))) (fun q33 => ?_) (fun q33 => ?_)
 exact Pl 6 <| ce K34 true (by rw [q33]; rfl)
 have q33a := (or_f q33).1
 have q33b := (or_f q33).2
 have q33aa := (or_f q33a).1
 have q33ab := (or_f q33a).2
 have q33aaa := (or_f q33aa).1
 have q33aab := (or_f q33aa).2
 have q33aaaa := (or_f q33aaa).1
 have q33aaab := (or_f q33aaa).2
 have q33aaaaa := (or_f q33aaaa).1
 have q33aaaab := (or_f q33aaaa).2
 have q33aaaaaa := (or_f q33aaaaa).1
 have q33aaaaab := (or_f q33aaaaa).2
 have q33aaaaaap := eq_of_bnei q33aaaaaa
 have q33aaaaabp := eq_of_bnei q33aaaaab
 have q33aaaabp := eq_of_bnei q33aaaab
 have q33aaabp := eq_of_bnei q33aaab
 have q33aabp := eq_of_bnei q33aab
 have q33abp := eq_of_bnei q33ab
 have q33bp := eq_of_bnei q33b
 exact Pl 1 <| L1 <| Olb r20 7 <| Pl 1 <| L1 <| Olb B18 7 <| Pl 2 <| ce K34 (A.addr2 != B.addr2) (by rw [q33]; rfl)
 refine Pl 1 <| cu 6 [68] 74 ((((((((((A.code != B.code) || (A.fail != B.fail)) || (A.addr != B.addr)) || (A.count != B.count)) || (A.value != B.value)) || (A.and_ != B.and_)) || (A.or_ != B.or_)) || (A.addr2 != B.addr2)) || (A.sub != B.sub))) (fun K K36 => ?_) ?_
 refine bl 68 (((((((((A.code != B.code) || (A.fail != B.fail)) || (A.addr != B.addr)) || (A.count != B.count)) || (A.value != B.value)) || (A.and_ != B.and_)) || (A.or_ != B.or_)) || (A.addr2 != B.addr2))) (fun q35 => ?_) (fun q35 => ?_)
 exact Pl 6 <| ce K36 true (by rw [q35]; rfl)
 have q35a := (or_f q35).1
 have q35b := (or_f q35).2
 have q35aa := (or_f q35a).1
 have q35ab := (or_f q35a).2
 have q35aaa := (or_f q35aa).1
 have q35aab := (or_f q35aa).2
 have q35aaaa := (or_f q35aaa).1
 have q35aaab := (or_f q35aaa).2
 have q35aaaaa := (or_f q35aaaa).1
 have q35aaaab := (or_f q35aaaa).2
 have q35aaaaaa := (or_f q35aaaaa).1
 have q35aaaaab := (or_f q35aaaaa).2
 have q35aaaaaaa := (or_f q35aaaaaa).1
 have q35aaaaaab := (or_f q35aaaaaa).2
 have q35aaaaaaap := eq_of_bnei q35aaaaaaa
 have q35aaaaaabp := eq_of_bnei q35aaaaaab
 have q35aaaaabp := eq_of_bnei q35aaaaab
 have q35aaaabp := eq_of_bnei q35aaaab
 have q35aaabp := eq_of_bnei q35aaab
 have q35aabp := eq_of_bnei q35aab
 have q35abp := eq_of_bnei q35ab
 have q35bp := eq_of_bnei q35b
 exact Pl 1 <| L1 <| Olb r20 8 <| Pl 1 <| L1 <| Olb B18 8 <| Pl 2 <| ce K36 (A.sub != B.sub) (by rw [q35]; rfl)
 refine Pl 1 <| cu 6 [75] 81 (((((((((((A.code != B.code) || (A.fail != B.fail)) || (A.addr != B.addr)) || (A.count != B.count)) || (A.value != B.value)) || (A.and_ != B.and_)) || (A.or_ != B.or_)) || (A.addr2 != B.addr2)) || (A.sub != B.sub)) || (A.status != B.status))) (fun K K38 => ?_) ?_
 refine bl 75 ((((((((((A.code != B.code) || (A.fail != B.fail)) || (A.addr != B.addr)) || (A.count != B.count)) || (A.value != B.value)) || (A.and_ != B.and_)) || (A.or_ != B.or_)) || (A.addr2 != B.addr2)) || (A.sub != B.sub))) (fun q37 => ?_) (fun q37 => ?_)
 exact Pl 6 <| ce K38 true (by rw [q37]; rfl)
 have q37a := (or_f q37).1
 have q37b := (or_f q37).2
 have q37aa := (or_f q37a).1
 have q37ab := (or_f q37a).2
 have q37aaa := (or_f q37aa).1
 have q37aab := (or_f q37aa).2
 have q37aaaa := (or_f q37aaa).1
 have q37aaab := (or_f q37aaa).2
 have q37aaaaa := (or_f q37aaaa).1
 have q37aaaab := (or_f q37aaaa).2
 have q37aaaaaa := (or_f q37aaaaa).1
 have q37aaaaab := (or_f q37aaaaa).2
 have q37aaaaaaa := (or_f q37aaaaaa).1
 have q37aaaaaab := (or_f q37aaaaaa).2
 have q37aaaaaaaa := (or_f q37aaaaaaa).1
 have q37aaaaaaab := (or_f q37aaaaaaa).2
 have q37aaaaaaaap := eq_of_bnei q37aaaaaaaa
 have q37aaaaaaabp := eq_of_bnei q37aaaaaaab
 have q37aaaaaabp := eq_of_bnei q37aaaaaab
 have q37aaaaabp := eq_of_bnei q37aaaaab
 have q37aaaabp := eq_of_bnei q37aaaab
 have q37aaabp := eq_of_bnei q37aaab
 have q37aabp := eq_of_bnei q37aab
 have q37abp := eq_of_bnei q37ab
 have q37bp := eq_of_bnei q37b
 exact Pl 1 <| L1 <| Olb r20 9 <| Pl 1 <| L1 <| Olb B18 9 <| Pl 2 <| ce K38 (A.status != B.status) (by rw [q37]; rfl)
 refine Pl 1 <| cu 6 [82] 88 ((((((((((((A.code != B.code) || (A.fail != B.fail)) || (A.addr != B.addr)) || (A.count != B.count)) || (A.value != B.value)) || (A.and_ != B.and_)) || (A.or_ != B.or_)) || (A.addr2 != B.addr2)) || (A.sub != B.sub)) || (A.status != B.status)) || (A.events != B.events))) (fun K K40 => ?_) ?_
 refine bl 82 (((((((((((A.code != B.code) || (A.fail != B.fail)) || (A.addr != B.addr)) || (A.count != B.count)) || (A.value != B.value)) || (A.and_ != B.and_)) || (A.or_ != B.or_)) || (A.addr2 != B.addr2)) || (A.sub != B.sub)) || (A.status != B.status))) (fun q39 => ?_) (fun q39 => ?_)
 exact Pl 6 <| ce K40 true (by rw [q39]; rfl)
 have q39a := (or_f q39).1
 have q39b := (or_f q39).2
 have q39aa := (or_f q39a).1
 have q39ab := (or_f q39a).2
 have q39aaa := (or_f q39aa).1
 have q39aab := (or_f q39aa).2
 have q39aaaa := (or_f q39aaa).1
 have q39aaab := (or_f q39aaa).2
 have q39aaaaa := (or_f q39aaaa).1
 have q39aaaab := (or_f q39aaaa).2
 have q39aaaaaa := (or_f q39aaaaa).1
 have q39aaaaab := (or_f q39aaaaa).2
 have q39aaaaaaa := (or_f q39aaaaaa).1
 have q39aaaaaab := (or_f q39aaaaaa).2
 have q39aaaaaaaa := (or_f q39aaaaaaa).1
 have q39aaaaaaab := (or_f q39aaaaaaa).2
 have q39aaaaaaaaa := (or_f q39aaaaaaaa).1
 have q39aaaaaaaab := (or_f q39aaaaaaaa).2
 have q39aaaaaaaaap := eq_of_bnei q39aaaaaaaaa
 have q39aaaaaaaabp := eq_of_bnei q39aaaaaaaab
 have q39aaaaaaabp := eq_of_bnei q39aaaaaaab
 have q39aaaaaabp := eq_of_bnei q39aaaaaab
 have q39aaaaabp := eq_of_bnei q39aaaaab
 have q39aaaabp := eq_of_bnei q39aaaab
 have q39aaabp := eq_of_bnei q39aaab
 have q39aabp := eq_of_bnei q39aab
 have q39abp := eq_of_bnei q39ab
 have q39bp := eq_of_bnei q39b
 exact Pl 1 <| L1 <| Olb r20 10 <| Pl 1 <| L1 <| Olb B18 10 <| Pl 2 <| ce K40 (A.events != B.events) (by rw [q39]; rfl)
 refine Pl 1 <| cu 6 [89] 95 (((((((((((((A.code != B.code) || (A.fail != B.fail)) || (A.addr != B.addr)) || (A.count != B.count)) || (A.value != B.value)) || (A.and_ != B.and_)) || (A.or_ != B.or_)) || (A.addr2 != B.addr2)) || (A.sub != B.sub)) || (A.status != B.status)) || (A.events != B.events)) || (A.messages != B.messages))) (fun K K42 => ?_) ?_
 refine bl 89 ((((((((((((A.code != B.code) || (A.fail != B.fail)) || (A.addr != B.addr)) || (A.count != B.count)) || (A.value != B.value)) || (A.and_ != B.and_)) || (A.or_ != B.or_)) || (A.addr2 != B.addr2)) || (A.sub != B.sub)) || (A.status != B.status)) || (A.events != B.events))) (fun q41 => ?_) (fun q41 => ?_)
 exact Pl 6 <| ce K42 true (by rw [q41]; rfl)
 have q41a := (or_f q41).1
 have q41b := (or_f q41).2
 have q41aa := (or_f q41a).1
 have q41ab := (or_f q41a).2
 have q41aaa := (or_f q41aa).1
 have q41aab := (or_f q41aa).2
 have q41aaaa := (or_f q41aaa).1
 have q41aaab := (or_f q41aaa).2
 have q41aaaaa := (or_f q41aaaa).1
 have q41aaaab := (or_f q41aaaa).2
 have q41aaaaaa := (or_f q41aaaaa).1
 have q41aaaaab := (or_f q41aaaaa).2
 have q41aaaaaaa := (or_f q41aaaaaa).1
 have q41aaaaaab := (or_f q41aaaaaa).2
 have q41aaaaaaaa := (or_f q41aaaaaaa).1
 have q41aaaaaaab := (or_f q41aaaaaaa).2
 have q41aaaaaaaaa := (or_f q41aaaaaaaa).1
 have q41aaaaaaaab := (or_f q41aaaaaaaa).2
 have q41aaaaaaaaaa := (or_f q41aaaaaaaaa).1
 have q41aaaaaaaaab := (or_f q41aaaaaaaaa).2
 have q41aaaaaaaaaap := eq_of_bnei q41aaaaaaaaaa
 have q41aaaaaaaaabp := eq_of_bnei q41aaaaaaaaab
 have q41aaaaaaaabp := eq_of_bnei q41aaaaaaaab
 have q41aaaaaaabp := eq_of_bnei q41aaaaaaab
 have q41aaaaaabp := eq_of_bnei q41aaaaaab
 have q41aaaaabp := eq_of_bnei q41aaaaab
 have q41aaaabp := eq_of_bnei q41aaaab
 have q41aaabp := eq_of_bnei q41aaab
 have q41aabp := eq_of_bnei q41aab
 have q41abp := eq_of_bnei q41ab
 have q41bp := eq_of_bnei q41b
 exact Pl 1 <| L1 <| Olb r20 11 <| Pl 1 <| L1 <| Olb B18 11 <| Pl 2 <| ce K42 (A.messages != B.messages) (by rw [q41]; rfl)
 refine nt <| ?_
 have U43 := ut0 hu14 hu19
 refine cb (((((((((((((A.code != B.code) || (A.fail != B.fail)) || (A.addr != B.addr)) || (A.count != B.count)) || (A.value != B.value)) || (A.and_ != B.and_)) || (A.or_ != B.or_)) || (A.addr2 != B.addr2)) || (A.sub != B.sub)) || (A.status != B.status)) || (A.events != B.events)) || (A.messages != B.messages))) (fun q44 => ?_) (fun q44 => ?_)
 refine sg <| Pl 1 <| nt <| rt <| tr <| rr (.bool false) <| ?_
 have hs : decide (A = B) = false := ne_by (f := fun x y => ((((((((((((x.code != y.code) || (x.fail != y.fail)) || (x.addr != y.addr)) || (x.count != y.count)) || (x.value != y.value)) || (x.and_ != y.and_)) || (x.or_ != y.or_)) || (x.addr2 != y.addr2)) || (x.sub != y.sub)) || (x.status != y.status)) || (x.events != y.events)) || (x.messages != y.messages))) q44 (fun M => by simp)
 rw [hs]
 exact ⟨rfl, U43⟩
 have q44a := (or_f q44).1
 have q44b := (or_f q44).2
 have q44aa := (or_f q44a).1
 have q44ab := (or_f q44a).2
 have q44aaa := (or_f q44aa).1
 have q44aab := (or_f q44aa).2
 have q44aaaa := (or_f q44aaa).1
 have q44aaab := (or_f q44aaa).2
 have q44aaaaa := (or_f q44aaaa).1
 have q44aaaab := (or_f q44aaaa).2
 have q44aaaaaa := (or_f q44aaaaa).1
 have q44aaaaab := (or_f q44aaaaa).2
 have q44aaaaaaa := (or_f q44aaaaaa).1
 have q44aaaaaab := (or_f q44aaaaaa).2
 have q44aaaaaaaa := (or_f q44aaaaaaa).1
 have q44aaaaaaab := (or_f q44aaaaaaa).2
 have q44aaaaaaaaa := (or_f q44aaaaaaaa).1
 have q44aaaaaaaab := (or_f q44aaaaaaaa).2
 have q44aaaaaaaaaa := (or_f q44aaaaaaaaa).1
 have q44aaaaaaaaab := (or_f q44aaaaaaaaa).2
 have q44aaaaaaaaaaa := (or_f q44aaaaaaaaaa).1
 have q44aaaaaaaaaab := (or_f q44aaaaaaaaaa).2
 have q44aaaaaaaaaaap := eq_of_bnei q44aaaaaaaaaaa
 have q44aaaaaaaaaabp := eq_of_bnei q44aaaaaaaaaab
 have q44aaaaaaaaabp := eq_of_bnei q44aaaaaaaaab
 have q44aaaaaaaabp := eq_of_bnei q44aaaaaaaab
 have q44aaaaaaabp := eq_of_bnei q44aaaaaaab
 have q44aaaaaabp := eq_of_bnei q44aaaaaab
 have q44aaaaabp := eq_of_bnei q44aaaaab
 have q44aaaabp := eq_of_bnei q44aaaab
 have q44aaabp := eq_of_bnei q44aaab
 have q44aabp := eq_of_bnei q44aab
 have q44abp := eq_of_bnei q44ab
 have q44bp := eq_of_bnei q44b
 refine skn <| sq <| sg <| Pl 1 <| L0 <| Olb r20 16 <| Pl 1 <| L0 <| Olb B18 16 <| Pl 2 <| cu 6 [101] 107 (((A.mei != B.mei) || (A.kind != B.kind))) (fun K K46 => ?_) ?_
 refine bl 101 ((A.mei != B.mei)) (fun q45 => ?_) (fun q45 => ?_)
 have q45p := ne_of_bnei q45
 exact Pl 6 <| ce K46 true (by rw [q45]; rfl)
 have q45p := eq_of_bnei q45
 exact Pl 1 <| L1 <| Olb r20 17 <| Pl 1 <| L1 <| Olb B18 17 <| Pl 2 <| ce K46 (A.kind != B.kind) (by rw [q45]; rfl)
 refine Pl 1 <| cu 6 [108] 114 ((((A.mei != B.mei) || (A.kind != B.kind)) || (A.level != B.level))) (fun K K48 => ?_) ?_
 refine bl 108 (((A.mei != B.mei) || (A.kind != B.kind))) (fun q47 => ?_) (fun q47 => ?_)
 exact Pl 6 <| ce K48 true (by rw [q47]; rfl)
 have q47a := (or_f q47).1
 have q47b := (or_f q47).2
 have q47ap := eq_of_bnei q47a
 have q47bp := eq_of_bnei q47b
 exact Pl 1 <| L1 <| Olb r20 18 <| Pl 1 <| L1 <| Olb B18 18 <| Pl 2 <| ce K48 (A.level != B.level) (by rw [q47]; rfl)
 refine Pl 1 <| cu 6 [115] 121 (((((A.mei != B.mei) || (A.kind != B.kind)) || (A.level != B.level)) || (A.more != B.more))) (fun K K50 => ?_) ?_
 refine bl 115 ((((A.mei != B.mei) || (A.kind != B.kind)) || (A.level != B.level))) (fun q49 => ?_) (fun q49 => ?_)
 exact Pl 6 <| ce K50 true (by rw [q49]; rfl)
 have q49a := (or_f q49).1
 have q49b := (or_f q49).2
 have q49aa := (or_f q49a).1
 have q49ab := (or_f q49a).2
 have q49aap := eq_of_bnei q49aa
 have q49abp := eq_of_bnei q49ab
 have q49bp := eq_of_bnei q49b
 exact Pl 1 <| L1 <| Olb r20 19 <| Pl 1 <| L1 <| Olb B18 19 <| Pl 2 <| ce K50 (A.more != B.more) (by rw [q49]; rfl)
 refine Pl 1 <| cu 6 [122] 128 ((((((A.mei != B.mei) || (A.kind != B.kind)) || (A.level != B.level)) || (A.more != B.more)) || (A.next != B.next))) (fun K K52 => ?_) ?_
 refine bl 122 (((((A.mei != B.mei) || (A.kind != B.kind)) || (A.level != B.level)) || (A.more != B.more))) (fun q51 => ?_) (fun q51 => ?_)
 exact Pl 6 <| ce K52 true (by rw [q51]; rfl)
 have q51a := (or_f q51).1
 have q51b := (or_f q51).2
 have q51aa := (or_f q51a).1
 have q51ab := (or_f q51a).2
 have q51aaa := (or_f q51aa).1
 have q51aab := (or_f q51aa).2
 have q51aaap := eq_of_bnei q51aaa
 have q51aabp := eq_of_bnei q51aab
 have q51abp := eq_of_bnei q51ab
 have q51bp := eq_of_bnei q51b
 exact Pl 1 <| L1 <| Olb r20 20 <| Pl 1 <| L1 <| Olb B18 20 <| Pl 2 <| ce K52 (A.next != B.next) (by rw [q51]; rfl)
 refine nt <| cb ((((((A.mei != B.mei) || (A.kind != B.kind)) || (A.level != B.level)) || (A.more != B.more)) || (A.next != B.next))) (fun q53 => ?_) (fun q53 => ?_)
 refine sg <| Pl 1 <| nt <| rt <| tr <| rr (.bool false) <| ?_
 have hs : decide (A = B) = false := ne_by (f := fun x y => (((((x.mei != y.mei) || (x.kind != y.kind)) || (x.level != y.level)) || (x.more != y.more)) || (x.next != y.next))) q53 (fun M => by simp)
 rw [hs]
 exact ⟨rfl, U43⟩
 have q53a := (or_f q53).1
 have q53b := (or_f q53).2
 have q53aa := (or_f q53a).1
 have q53ab := (or_f q53a).2
 have q53aaa := (or_f q53aa).1
 have q53aab := (or_f q53aa).2
 have q53aaaa := (or_f q53aaa).1
 have q53aaab := (or_f q53aaa).2
 have q53aaaap := eq_of_bnei q53aaaa
 have q53aaabp := eq_of_bnei q53aaab
 have q53aabp := eq_of_bnei q53aab
 have q53abp := eq_of_bnei q53ab
 have q53bp := eq_of_bnei q53b
 refine skn <| sg <| Pl 1 <| L0 <| Olb r20 12 <| Pl 1 <| L0 <| Olb B18 12 <| ?_
 have r56 := RdW.old phw U43
 have r57 := RdW.old qhw U43
 refine L0 <| Oc <| m1 (refWords_any r56 r57) fun w54 hu55 => Pl 1 <| ng <| Pl 1 <| ?_
 have r58 := ub hu55 r20
 refine L0 <| Olb r58 13 <| Pl 1 <| ?_
 have r59 := ub hu55 B18
 refine L0 <| Olb r59 13 <| ?_
 have U62 := ut0 U43 hu55
 have r63 := RdL.old phb U62
 have r64 := RdL.old qhb U62
 refine L0 <| Oc <| m1 (refBools_any r63 r64) fun w60 hu61 => Pl 1 <| ng <| Pl 1 <| ?_
 have r65 := ub hu61 r58
 refine L0 <| Olb r65 14 <| Pl 1 <| ?_
 have r66 := ub hu61 r59
 refine L0 <| Olb r66 14 <| ?_
 have U69 := ut0 U62 hu61
 have r70 := RdB.old phd U69
 have r71 := RdB.old qhd U69
 refine L0 <| Oc <| m1 (same1_any r70 r71) fun w67 hu68 => Pl 1 <| nt <| sq <| sg <| Pl 3 <| cu 3 [146] 149 (((!(decide (A.words = B.words))) || (!(decide (A.bits = B.bits))))) (fun K K73 => ?_) ?_
 refine bl 146 ((!(decide (A.words = B.words)))) (fun q72 => ?_) (fun q72 => ?_)
 have q72n : (decide (A.words = B.words)) = false := by simpa using q72
 have q72np := of_decide_eq_false q72n
 exact Pl 3 <| ce K73 true (by rw [q72]; rfl)
 have q72n : (decide (A.words = B.words)) = true := by simpa using q72
 have q72np := of_decide_eq_true q72n
 exact Pl 3 <| ce K73 (!(decide (A.bits = B.bits))) (by rw [q72]; rfl)
 refine Pl 1 <| cu 3 [150] 153 ((((!(decide (A.words = B.words))) || (!(decide (A.bits = B.bits)))) || (!(decide (A.data = B.data))))) (fun K K75 => ?_) ?_
 refine bl 150 (((!(decide (A.words = B.words))) || (!(decide (A.bits = B.bits))))) (fun q74 => ?_) (fun q74 => ?_)
 exact Pl 3 <| ce K75 true (by rw [q74]; rfl)
 have q74a := (or_f q74).1
 have q74b := (or_f q74).2
 have q74an : (decide (A.words = B.words)) = true := by simpa using q74a
 have q74anp := of_decide_eq_true q74an
 have q74bn : (decide (A.bits = B.bits)) = true := by simpa using q74b
 have q74bnp := of_decide_eq_true q74bn
 exact Pl 3 <| ce K75 (!(decide (A.data = B.data))) (by rw [q74]; rfl)
 refine Pl 1 <| cu 8 [154] 162 (((((!(decide (A.words = B.words))) || (!(decide (A.bits = B.bits)))) || (!(decide (A.data = B.data)))) || (((A.recs.length : Nat) : Int) != ((B.recs.length : Nat) : Int)))) (fun K K77 => ?_) ?_
 refine bl 154 ((((!(decide (A.words = B.words))) || (!(decide (A.bits = B.bits)))) || (!(decide (A.data = B.data))))) (fun q76 => ?_) (fun q76 => ?_)
 exact Pl 8 <| ce K77 true (by rw [q76]; rfl)
 have q76a := (or_f q76).1
 have q76b := (or_f q76).2
 have q76aa := (or_f q76a).1
 have q76ab := (or_f q76a).2
 have q76aan : (decide (A.words = B.words)) = true := by simpa using q76aa
 have q76aanp := of_decide_eq_true q76aan
 have q76abn : (decide (A.bits = B.bits)) = true := by simpa using q76ab
 have q76abnp := of_decide_eq_true q76abn
 have q76bn : (decide (A.data = B.data)) = true := by simpa using q76b
 have q76bnp := of_decide_eq_true q76bn
 refine Pl 1 <| ?_
 have r78 := ub hu68 r65
 refine L1 <| Olb r78 15 <| Pl 2 <| ?_
 have r79 := ub hu68 r66
 exact L1 <| Olb r79 15 <| Pl 3 <| ce K77 (((A.recs.length : Nat) : Int) != ((B.recs.length : Nat) : Int)) (by rw [q76]; rfl)
 refine Pl 1 <| cu 8 [163] 171 ((((((!(decide (A.words = B.words))) || (!(decide (A.bits = B.bits)))) || (!(decide (A.data = B.data)))) || (((A.recs.length : Nat) : Int) != ((B.recs.length : Nat) : Int))) || (((A.objects.length : Nat) : Int) != ((B.objects.length : Nat) : Int)))) (fun K K81 => ?_) ?_
 refine bl 163 (((((!(decide (A.words = B.words))) || (!(decide (A.bits = B.bits)))) || (!(decide (A.data = B.data)))) || (((A.recs.length : Nat) : Int) != ((B.recs.length : Nat) : Int)))) (fun q80 => ?_) (fun q80 => ?_)
 exact Pl 8 <| ce K81 true (by rw [q80]; rfl)
 have q80a := (or_f q80).1
 have q80b := (or_f q80).2
 have q80aa := (or_f q80a).1
 have q80ab := (or_f q80a).2
 have q80aaa := (or_f q80aa).1
 have q80aab := (or_f q80aa).2
 have q80aaan : (decide (A.words = B.words)) = true := by simpa using q80aaa
 have q80aaanp := of_decide_eq_true q80aaan
 have q80aabn : (decide (A.bits = B.bits)) = true := by simpa using q80aab
 have q80aabnp := of_decide_eq_true q80aabn
 have q80abn : (decide (A.data = B.data)) = true := by simpa using q80ab
 have q80abnp := of_decide_eq_true q80abn
 have q80bp := eq_of_bnei q80b
 refine Pl 1 <| ?_
 have r82 := ub hu68 r65
 refine L1 <| Olb r82 21 <| Pl 2 <| ?_
 have r83 := ub hu68 r66
 exact L1 <| Olb r83 21 <| Pl 3 <| ce K81 (((A.objects.length : Nat) : Int) != ((B.objects.length : Nat) : Int)) (by rw [q80]; rfl)
 refine nt <| ?_
 have U84 := ut0 U69 hu68
 refine cb ((((((!(decide (A.words = B.words))) || (!(decide (A.bits = B.bits)))) || (!(decide (A.data = B.data)))) || (((A.recs.length : Nat) : Int) != ((B.recs.length : Nat) : Int))) || (((A.objects.length : Nat) : Int) != ((B.objects.length : Nat) : Int)))) (fun q85 => ?_) (fun q85 => ?_)
 refine sg <| Pl 1 <| nt <| rt <| tr <| rr (.bool false) <| ?_
 have hs : decide (A = B) = false := ne_by (f := fun x y => (((((!(decide (x.words = y.words))) || (!(decide (x.bits = y.bits)))) || (!(decide (x.data = y.data)))) || (((x.recs.length : Nat) : Int) != ((y.recs.length : Nat) : Int))) || (((x.objects.length : Nat) : Int) != ((y.objects.length : Nat) : Int)))) q85 (fun M => by simp)
 rw [hs]
 exact ⟨rfl, U84⟩
 have q85a := (or_f q85).1
 have q85b := (or_f q85).2
 have q85aa := (or_f q85a).1
 have q85ab := (or_f q85a).2
 have q85aaa := (or_f q85aa).1
 have q85aab := (or_f q85aa).2
 have q85aaaa := (or_f q85aaa).1
 have q85aaab := (or_f q85aaa).2
 have q85aaaan : (decide (A.words = B.words)) = true := by simpa using q85aaaa
 have q85aaaanp := of_decide_eq_true q85aaaan
 have q85aaabn : (decide (A.bits = B.bits)) = true := by simpa using q85aaab
 have q85aaabnp := of_decide_eq_true q85aaabn
 have q85aabn : (decide (A.data = B.data)) = true := by simpa using q85aab
 have q85aabnp := of_decide_eq_true q85aabn
 have q85abp := eq_of_bnei q85ab
 have q85bp := eq_of_bnei q85b
 refine skn <| sq <| sg <| Pl 1 <| nt <| bk <| ?_
 refine glp (fun x => [(2, .pointer (some ⟨g10, 0, none⟩)), (3, .pointer (some ⟨g15, 0, none⟩)), (8, .int .i64 ((x : Nat) : Int))]) (fun (x : Nat) w' => Upd [] w67 w' ∧ (A.recs.take x = B.recs.take x) ∧ (x ≤ A.recs.length)) (fun x => A.recs.length - x) 0 ⟨Upd.refl _ _, (by (try dsimp only); simp), (by (try dsimp only); omega)⟩ ?_
 rintro j w86 ⟨hu87, p88, p89⟩
 refine wkc [(2, .pointer (some ⟨g10, 0, none⟩)), (3, .pointer (some ⟨g15, 0, none⟩)), (8, .int .i64 ((j : Nat) : Int))] ?_
 have p91 : A.recs.take j = B.recs.take j := p88
 have p92 : j ≤ A.recs.length := p89
 refine sq <| sg <| Pl 2 <| ?_
 have U93 := ut0 hu68 hu87
 have r94 := ub U93 r65
 refine L0 <| Olb r94 15 <| Pl 2 <| nt <| ?_
 have U95 := ut0 U84 hu87
 refine cb ((decide (((j : Nat) : Int) < ((A.recs.length : Nat) : Int)))) (fun q96 => ?_) (fun q96 => ?_)
 have q96p := of_decide_eq_true q96
 refine skn <| sq <| bk <| sg <| Pl 1 <| L0 <| Olb r94 15 <| Pl 1 <| x75 (RdR.elt phr j (by omega)) fun b97 o98 cl99 t100 fr101 A102 cp103 hA104 hb105 hv106 hr107 hs108 => L0 <| Oixs 4 A.recs.length j hA104 (by omega) <| ?_
 have r109 := ub U95 hb105
 refine L0 <| Oel [.int .u16 ((A.recs.getD j ⟨0, 0, 0, []⟩).file), .int .u16 ((A.recs.getD j ⟨0, 0, 0, []⟩).record), .int .u16 ((A.recs.getD j ⟨0, 0, 0, []⟩).count), .slice A102 ((A.recs.getD j ⟨0, 0, 0, []⟩).words.length) cp103] r109 hs108 <| L0 <| Oal #[.int .u16 0, .int .u16 0, .int .u16 0, .slice none 0 0] fun g110 w111 hg112 B113 hu114 => L0 <| Osw B113 #[.int .u16 ((A.recs.getD j ⟨0, 0, 0, []⟩).file), .int .u16 ((A.recs.getD j ⟨0, 0, 0, []⟩).record), .int .u16 ((A.recs.getD j ⟨0, 0, 0, []⟩).count), .slice A102 ((A.recs.getD j ⟨0, 0, 0, []⟩).words.length) cp103] fun w115 B116 hu117 => ng <| Pl 1 <| ?_
 have U118 := ut0 U93 hu114
 have U119 := u1 U118 hu117 (ni U93.size hg112)
 have r120 := ub U119 r66
 refine L0 <| Olb r120 15 <| Pl 1 <| x75 (RdR.elt qhr j (by omega)) fun b121 o122 cl123 t124 fr125 A126 cp127 hA128 hb129 hv130 hr131 hs132 => L0 <| Oixs 4 B.recs.length j hA128 (by omega) <| ?_
 have U133 := ut0 U95 hu114
 have U134 := u1 U133 hu117 (ni U95.size hg112)
 have r135 := ub U134 hb129
 refine L0 <| Oel [.int .u16 ((B.recs.getD j ⟨0, 0, 0, []⟩).file), .int .u16 ((B.recs.getD j ⟨0, 0, 0, []⟩).record), .int .u16 ((B.recs.getD j ⟨0, 0, 0, []⟩).count), .slice A126 ((B.recs.getD j ⟨0, 0, 0, []⟩).words.length) cp127] r135 hs132 <| L0 <| Oal #[.int .u16 0, .int .u16 0, .int .u16 0, .slice none 0 0] fun g136 w137 hg138 B139 hu140 => L0 <| Osw B139 #[.int .u16 ((B.recs.getD j ⟨0, 0, 0, []⟩).file), .int .u16 ((B.recs.getD j ⟨0, 0, 0, []⟩).record), .int .u16 ((B.recs.getD j ⟨0, 0, 0, []⟩).count), .slice A126 ((B.recs.getD j ⟨0, 0, 0, []⟩).words.length) cp127] fun w141 B142 hu143 => ng <| Pl 1 <| ?_
 have U144 := u1 hu140 hu143 (nr hg138)
 have r145 := ub U144 B116
 refine L0 <| Olb r145 3 <| Pl 1 <| L0 <| Olb B142 3 <| ?_
 have U148 := ut0 U134 hu140
 have U149 := u1 U148 hu143 (ni U134.size hg138)
 have r150 := RdW.old hv106 U149
 have r151 := RdW.old hv130 U149
 refine L0 <| Oc <| m1 (refWords_any r150 r151) fun w146 hu147 => Pl 1 <| ng <| Pl 3 <| cu 6 [196] 202 (((!(decide ((A.recs.getD j ⟨0, 0, 0, []⟩).words = (B.recs.getD j ⟨0, 0, 0, []⟩).words))) || (((A.recs.getD j ⟨0, 0, 0, []⟩).file) != ((B.recs.getD j ⟨0, 0, 0, []⟩).file)))) (fun K K153 => ?_) ?_
 refine bl 196 ((!(decide ((A.recs.getD j ⟨0, 0, 0, []⟩).words = (B.recs.getD j ⟨0, 0, 0, []⟩).words)))) (fun q152 => ?_) (fun q152 => ?_)
 have q152n : (decide ((A.recs.getD j ⟨0, 0, 0, []⟩).words = (B.recs.getD j ⟨0, 0, 0, []⟩).words)) = false := by simpa using q152
 have q152np := of_decide_eq_false q152n
 exact Pl 6 <| ce K153 true (by rw [q152]; rfl)
 have q152n : (decide ((A.recs.getD j ⟨0, 0, 0, []⟩).words = (B.recs.getD j ⟨0, 0, 0, []⟩).words)) = true := by simpa using q152
 have q152np := of_decide_eq_true q152n
 refine Pl 1 <| ?_
 have r154 := ub hu147 r145
 refine L1 <| Olb r154 0 <| Pl 1 <| ?_
 have r155 := ub hu147 B142
 exact L1 <| Olb r155 0 <| Pl 2 <| ce K153 (((A.recs.getD j ⟨0, 0, 0, []⟩).file) != ((B.recs.getD j ⟨0, 0, 0, []⟩).file)) (by rw [q152]; rfl)
 refine Pl 1 <| cu 6 [203] 209 ((((!(decide ((A.recs.getD j ⟨0, 0, 0, []⟩).words = (B.recs.getD j ⟨0, 0, 0, []⟩).words))) || (((A.recs.getD j ⟨0, 0, 0, []⟩).file) != ((B.recs.getD j ⟨0, 0, 0, []⟩).file))) || (((A.recs.getD j ⟨0, 0, 0, []⟩).record) != ((B.recs.getD j ⟨0, 0, 0, []⟩).record)))) (fun K K157 => ?_) ?_
 refine bl 203 (((!(decide ((A.recs.getD j ⟨0, 0, 0, []⟩).words = (B.recs.getD j ⟨0, 0, 0, []⟩).words))) || (((A.recs.getD j ⟨0, 0, 0, []⟩).file) != ((B.recs.getD j ⟨0, 0, 0, []⟩).file)))) (fun q156 => ?_) (fun q156 => ?_)
 exact Pl 6 <| ce K157 true (by rw [q156]; rfl)
 have q156a := (or_f q156).1
 have q156b := (or_f q156).2
 have q156an : (decide ((A.recs.getD j ⟨0, 0, 0, []⟩).words = (B.recs.getD j ⟨0, 0, 0, []⟩).words)) = true := by simpa using q156a
 have q156anp := of_decide_eq_true q156an
 have q156bp := eq_of_bnei q156b
 refine Pl 1 <| ?_
 have r158 := ub hu147 r145
 refine L1 <| Olb r158 1 <| Pl 1 <| ?_
 have r159 := ub hu147 B142
 exact L1 <| Olb r159 1 <| Pl 2 <| ce K157 (((A.recs.getD j ⟨0, 0, 0, []⟩).record) != ((B.recs.getD j ⟨0, 0, 0, []⟩).record)) (by rw [q156]; rfl)
 refine Pl 1 <| cu 6 [210] 216 (((((!(decide ((A.recs.getD j ⟨0, 0, 0, []⟩).words = (B.recs.getD j ⟨0, 0, 0, []⟩).words))) || (((A.recs.getD j ⟨0, 0, 0, []⟩).file) != ((B.recs.getD j ⟨0, 0, 0, []⟩).file))) || (((A.recs.getD j ⟨0, 0, 0, []⟩).record) != ((B.recs.getD j ⟨0, 0, 0, []⟩).record))) || (((A.recs.getD j ⟨0, 0, 0, []⟩).count) != ((B.recs.getD j ⟨0, 0, 0, []⟩).count)))) (fun K K161 => ?_) ?_
 refine bl 210 ((((!(decide ((A.recs.getD j ⟨0, 0, 0, []⟩).words = (B.recs.getD j ⟨0, 0, 0, []⟩).words))) || (((A.recs.getD j ⟨0, 0, 0, []⟩).file) != ((B.recs.getD j ⟨0, 0, 0, []⟩).file))) || (((A.recs.getD j ⟨0, 0, 0, []⟩).record) != ((B.recs.getD j ⟨0, 0, 0, []⟩).record)))) (fun q160 => ?_) (fun q160 => ?_)
 exact Pl 6 <| ce K161 true (by rw [q160]; rfl)
 have q160a := (or_f q160).1
 have q160b := (or_f q160).2
 have q160aa := (or_f q160a).1
 have q160ab := (or_f q160a).2
 have q160aan : (decide ((A.recs.getD j ⟨0, 0, 0, []⟩).words = (B.recs.getD j ⟨0, 0, 0, []⟩).words)) = true := by simpa using q160aa
 have q160aanp := of_decide_eq_true q160aan
 have q160abp := eq_of_bnei q160ab
 have q160bp := eq_of_bnei q160b
 refine Pl 1 <| ?_
 have r162 := ub hu147 r145
 refine L1 <| Olb r162 2 <| Pl 1 <| ?_
 have r163 := ub hu147 B142
 exact L1 <| Olb r163 2 <| Pl 2 <| ce K161 (((A.recs.getD j ⟨0, 0, 0, []⟩).count) != ((B.recs.getD j ⟨0, 0, 0, []⟩).count)) (by rw [q160]; rfl)
 refine nt <| ?_
 have U164 := ut0 U149 hu147
 refine cb (((((!(decide ((A.recs.getD j ⟨0, 0, 0, []⟩).words = (B.recs.getD j ⟨0, 0, 0, []⟩).words))) || (((A.recs.getD j ⟨0, 0, 0, []⟩).file) != ((B.recs.getD j ⟨0, 0, 0, []⟩).file))) || (((A.recs.getD j ⟨0, 0, 0, []⟩).record) != ((B.recs.getD j ⟨0, 0, 0, []⟩).record))) || (((A.recs.getD j ⟨0, 0, 0, []⟩).count) != ((B.recs.getD j ⟨0, 0, 0, []⟩).count)))) (fun q165 => ?_) (fun q165 => ?_)
 refine sg <| Pl 1 <| nt <| rt <| br <| tr <| tr <| br <| tr <| rr (.bool false) <| ?_
 have hs : decide (A = B) = false := ne_by (f := fun x y => ((((!(decide ((x.recs.getD j ⟨0, 0, 0, []⟩).words = (y.recs.getD j ⟨0, 0, 0, []⟩).words))) || (((x.recs.getD j ⟨0, 0, 0, []⟩).file) != ((y.recs.getD j ⟨0, 0, 0, []⟩).file))) || (((x.recs.getD j ⟨0, 0, 0, []⟩).record) != ((y.recs.getD j ⟨0, 0, 0, []⟩).record))) || (((x.recs.getD j ⟨0, 0, 0, []⟩).count) != ((y.recs.getD j ⟨0, 0, 0, []⟩).count)))) q165 (fun M => by simp)
 rw [hs]
 exact ⟨rfl, U164⟩
 have q165a := (or_f q165).1
 have q165b := (or_f q165).2
 have q165aa := (or_f q165a).1
 have q165ab := (or_f q165a).2
 have q165aaa := (or_f q165aa).1
 have q165aab := (or_f q165aa).2
 have q165aaan : (decide ((A.recs.getD j ⟨0, 0, 0, []⟩).words = (B.recs.getD j ⟨0, 0, 0, []⟩).words)) = true := by simpa using q165aaa
 have q165aaanp := of_decide_eq_true q165aaan
 have q165aabp := eq_of_bnei q165aab
 have q165abp := eq_of_bnei q165ab
 have q165bp := eq_of_bnei q165b
 refine sk <| bn <| tn <| go <| Pl 1 <| L0 <| Oi (((j : Nat) : Int) + 1) <| Pl 1 <| nl <| ?_
 have U166 := ut0 hu87 hu114
 have U167 := u1 U166 hu117 (ni hu87.size hg112)
 have U168 := ut0 U167 hu140
 have U169 := u1 U168 hu143 (ni U167.size hg138)
 have U170 := ut0 U169 hu147
 exact lpe (j + 1) ⟨U170, (take_eq (d := ⟨0, 0, 0, []⟩) p91 (by omega) (by omega) (rec_eq q165)), (by (try dsimp only); omega)⟩ (by omega)
 have q96p := of_decide_eq_false q96
 refine xt <| tx <| tx <| bx <| tn <| sq <| sg <| Pl 1 <| nt <| bk <| ?_
 refine glp (fun x => [(2, .pointer (some ⟨g10, 0, none⟩)), (3, .pointer (some ⟨g15, 0, none⟩)), (12, .int .i64 ((x : Nat) : Int))]) (fun (x : Nat) w' => Upd [] w86 w' ∧ (A.objects.take x = B.objects.take x) ∧ (x ≤ A.objects.length)) (fun x => A.objects.length - x) 0 ⟨Upd.refl _ _, (by (try dsimp only); simp), (by (try dsimp only); omega)⟩ ?_
 rintro k w171 ⟨hu172, p173, p174⟩
 refine wkc [(2, .pointer (some ⟨g10, 0, none⟩)), (3, .pointer (some ⟨g15, 0, none⟩)), (12, .int .i64 ((k : Nat) : Int))] ?_
 have p176 : A.objects.take k = B.objects.take k := p173
 have p177 : k ≤ A.objects.length := p174
 refine sq <| sg <| Pl 2 <| ?_
 have r178 := ub hu172 r94
 refine L0 <| Olb r178 21 <| Pl 2 <| nt <| ?_
 have U179 := ut0 U95 hu172
 refine cb ((decide (((k : Nat) : Int) < ((A.objects.length : Nat) : Int)))) (fun q180 => ?_) (fun q180 => ?_)
 have q180p := of_decide_eq_true q180
 refine skn <| sq <| bk <| sq <| x75 (RdO.elt pho k (by omega)) fun b209 o210 cl211 t212 fr213 A214 cp215 hA216 hb217 hv218 hr219 hs220 => x75 (RdO.elt qho k (by omega)) fun b221 o222 cl223 t224 fr225 A226 cp227 hA228 hb229 hv230 hr231 hs232 => Rg 14 (fun w' => w'.cell? ⟨g10, 21, none⟩ = some (.slice po A.objects.length pko) ∧ w'.cell? ⟨b209, o210 + k * 2 + 1, none⟩ = some (.slice A214 ((A.objects.getD k ⟨0, []⟩).value.length) cp215) ∧ w'.cell? ⟨g15, 21, none⟩ = some (.slice qo B.objects.length qko) ∧ w'.cell? ⟨b221, o222 + k * 2 + 1, none⟩ = some (.slice A226 ((B.objects.getD k ⟨0, []⟩).value.length) cp227)) fun w237 hu238 => ?_
 have r240 := ub hu238 r178
 have U241 := ut0 U179 hu238
 have r242 := ub U241 hb217
 have U243 := ut0 U93 hu172
 have U244 := ut0 U243 hu238
 have r245 := ub U244 r66
 have r246 := ub U241 hb229
 refine hld ⟨(blk_at r240 rfl), (el_at r242 hs220 1 rfl (by decide)), (blk_at r245 rfl), (el_at r246 hs232 1 rfl (by decide))⟩ fun hS239 => Rt 0 hS239 <| Rl 1 hS239 (fun _ hs => hs.1) <| Rt 2 hS239 <| Ri 3 hS239 2 A.objects.length k ((k : Nat) : Int) rfl hA216 (by omega) <| Rt 4 hS239 <| Rl 5 hS239 (fun _ hs => hs.2.1) <| Rt 6 hS239 <| Rl 7 hS239 (fun _ hs => hs.2.2.1) <| Rt 8 hS239 <| Ri 9 hS239 2 B.objects.length k ((k : Nat) : Int) rfl hA228 (by omega) <| Rt 10 hS239 <| Rl 11 hS239 (fun _ hs => hs.2.2.2) <| ?_
 have r249 := RdB.old hv218 U241
 have r250 := RdB.old hv230 U241
 refine R0 12 rfl <| Oc <| m1 (same1_any r249 r250) fun w247 hu248 => ?_
 have r252 := ub hu248 r240
 have r253 := ub hu248 r242
 have r254 := ub hu248 r245
 have r255 := ub hu248 r246
 refine hld ⟨(blk_at r252 rfl), (el_at r253 hs220 1 rfl (by decide)), (blk_at r254 rfl), (el_at r255 hs232 1 rfl (by decide))⟩ fun hS251 => Rt 13 hS251 <| re <| tn <| sq <| Rg 17 (fun w' => w'.cell? ⟨g10, 21, none⟩ = some (.slice po A.objects.length pko) ∧ w'.cell? ⟨b209, o210 + k * 2 + 0, none⟩ = some (.int .u8 ((A.objects.getD k ⟨0, []⟩).id)) ∧ w'.cell? ⟨g15, 21, none⟩ = some (.slice qo B.objects.length qko) ∧ w'.cell? ⟨b221, o222 + k * 2 + 0, none⟩ = some (.int .u8 ((B.objects.getD k ⟨0, []⟩).id))) fun w260 hu261 => ?_
 have r263 := ub hu261 r252
 have r264 := ub hu261 r253
 have r265 := ub hu261 r254
 have r266 := ub hu261 r255
 refine hld ⟨(blk_at r263 rfl), (el_at r264 hs220 0 rfl (by decide)), (blk_at r265 rfl), (el_at r266 hs232 0 rfl (by decide))⟩ fun hS262 => Rt 0 hS262 <| Rt 1 hS262 <| Rt 2 hS262 <| ?_
 have U267 := ut0 U241 hu248
 have U268 := ut0 U267 hu261
 refine bla 239 ((!(decide ((A.objects.getD k ⟨0, []⟩).value = (B.objects.getD k ⟨0, []⟩).value)))) (fun q269 => ?_) (fun q269 => ?_)
 have q269n : (decide ((A.objects.getD k ⟨0, []⟩).value = (B.objects.getD k ⟨0, []⟩).value)) = false := by simpa using q269
 have q269np := of_decide_eq_false q269n
 refine Ro 3 hS262 <| Ro 4 hS262 <| Ro 5 hS262 <| Ro 6 hS262 <| Ro 7 hS262 <| Ro 8 hS262 <| Ro 9 hS262 <| Ro 10 hS262 <| Ro 11 hS262 <| Ro 12 hS262 <| Ro 13 hS262 <| Ro 14 hS262 <| Ro 15 hS262 <| Rt 16 hS262 <| ?_
 refine re <| tn <| c1 <| sg <| Pl 1 <| nt <| rt <| br <| tr <| tr <| br <| tr <| ?_
 refine rr (.bool false) <| ?_
 have hs : decide (A = B) = false := ne_by (f := fun x y => (!(decide ((x.objects.getD k ⟨0, []⟩).value = (y.objects.getD k ⟨0, []⟩).value)))) q269 (fun M => by simp)
 rw [hs]
 exact ⟨rfl, U268⟩
 have q269n : (decide ((A.objects.getD k ⟨0, []⟩).value = (B.objects.getD k ⟨0, []⟩).value)) = true := by simpa using q269
 have q269np := of_decide_eq_true q269n
 refine Rt 3 hS262 <| Rl 4 hS262 (fun _ hs => hs.1) <| Rt 5 hS262 <| Ri 6 hS262 2 A.objects.length k ((k : Nat) : Int) rfl hA216 (by omega) <| Rt 7 hS262 <| Rl 8 hS262 (fun _ hs => hs.2.1) <| Rt 9 hS262 <| Rl 10 hS262 (fun _ hs => hs.2.2.1) <| Rt 11 hS262 <| Ri 12 hS262 2 B.objects.length k ((k : Nat) : Int) rfl hA228 (by omega) <| Rt 13 hS262 <| Rl 14 hS262 (fun _ hs => hs.2.2.2) <| Rt 15 hS262 <| Rt 16 hS262 <| ?_
 refine re <| tn <| cb ((((A.objects.getD k ⟨0, []⟩).id) != ((B.objects.getD k ⟨0, []⟩).id))) (fun q270 => ?_) (fun q270 => ?_)
 have q270p := ne_of_bnei q270
 refine sg <| Pl 1 <| nt <| rt <| br <| tr <| tr <| br <| tr <| rr (.bool false) <| ?_
 have hs : decide (A = B) = false := ne_by (f := fun x y => (((x.objects.getD k ⟨0, []⟩).id) != ((y.objects.getD k ⟨0, []⟩).id))) q270 (fun M => by simp)
 rw [hs]
 exact ⟨rfl, U268⟩
 have q270p := eq_of_bnei q270
 refine sk <| bn <| tn <| go <| Pl 1 <| L0 <| Oi (((k : Nat) : Int) + 1) <| Pl 1 <| nl <| ?_
 have U271 := ut0 hu172 hu238
 have U272 := ut0 U271 hu248
 have U273 := ut0 U272 hu261
 exact lpe (k + 1) ⟨U273, (take_eq (d := ⟨0, []⟩) p176 (by omega) (by omega) (obj_eq2 q269 q270)), (by (try dsimp only); omega)⟩ (by omega)
 have q180p := of_decide_eq_false q180
 refine xt <| tx <| tx <| bx <| tn <| sg <| Pl 1 <| nt <| rt <| rr (.bool true) <| ?_
 have hs : decide (A = B) = true := decide_eq_true (same7_t q44 q53 q85 (fun e => eq_of_take p91 (by omega) e) (fun e => eq_of_take p176 (by omega) e))
 rw [hs]
 exact ⟨rfl, U179⟩
def cfam (x : Int) : Nat := if x = 1 ∨ x = 2 ∨ x = 5 ∨ x = 15 then 1 else if x = 3 ∨ x = 4 ∨ x = 6 ∨ x = 16 ∨ x = 22 ∨ x = 23 ∨ x = 24 then 2 else if x = 7 ∨ x = 8 ∨ x = 11 ∨ x = 12 ∨ x = 17 then 3 else if x = 20 ∨ x = 21 then 4 else if x = 43 then 5 else 0
def codecV : Nat → Value
  | 1 => .tuple #[.agg #[.func (.func 37) #[] #[], .func (.func 38) #[] #[]], .bool true]
  | 2 => .tuple #[.agg #[.func (.func 39) #[] #[], .func (.func 40) #[] #[]], .bool true]
  | 3 => .tuple #[.agg #[.func (.func 41) #[] #[], .func (.func 42) #[] #[]], .bool true]
  | 4 => .tuple #[.agg #[.func (.func 43) #[] #[], .func (.func 44) #[] #[]], .bool true]
  | 5 => .tuple #[.agg #[.func (.func 45) #[] #[], .func (.func 46) #[] #[]], .bool true]
  | _ => .tuple #[.agg #[.nilFunc, .nilFunc], .bool false]
theorem cfam_dich (x : Int) : ((x = 1 ∨ x = 2 ∨ x = 5 ∨ x = 15) ∧ cfam x = 1) ∨ ((x = 3 ∨ x = 4 ∨ x = 6 ∨ x = 16 ∨ x = 22 ∨ x = 23 ∨ x = 24) ∧ cfam x = 2) ∨ ((x = 7 ∨ x = 8 ∨ x = 11 ∨ x = 12 ∨ x = 17) ∧ cfam x = 3) ∨ ((x = 20 ∨ x = 21) ∧ cfam x = 4) ∨ ((x = 43) ∧ cfam x = 5) ∨ ((¬ x = 1 ∧ ¬ x = 2 ∧ ¬ x = 5 ∧ ¬ x = 15 ∧ ¬ x = 3 ∧ ¬ x = 4 ∧ ¬ x = 6 ∧ ¬ x = 16 ∧ ¬ x = 22 ∧ ¬ x = 23 ∧ ¬ x = 24 ∧ ¬ x = 7 ∧ ¬ x = 8 ∧ ¬ x = 11 ∧ ¬ x = 12 ∧ ¬ x = 17 ∧ ¬ x = 20 ∧ ¬ x = 21 ∧ ¬ x = 43) ∧ cfam x = 0) := by
  unfold cfam
  repeat
    split
    · simp_all
  simp_all
set_option maxRecDepth 100000 in
set_option maxHeartbeats 4000000 in
theorem of_any {x : Int} {w : World} : Calls Try.prog 24 #[.int .u8 x] w (PVal (codecV (cfam x)) w) := by
 refine en 44 Try.func24 rfl <| sg <| L0 <| Oal #[.nilFunc, .nilFunc] fun g10 w11 hg12 B13 hu14 => Pl 1 <| ng <| Pl 2 <| L0 <| Oal #[.nilFunc, .nilFunc] fun g15 w16 hg17 B18 hu19 => L0 <| Oal #[.nilFunc, .nilFunc] fun g20 w21 hg22 B23 hu24 => ?_
 have r25 := ub hu24 B18
 refine L0 <| Osw r25 #[.func (.func 37) #[] #[], .func (.func 38) #[] #[]] fun w26 B27 hu28 => ?_
 have ne29 := nb (blk_lt B18) lr hg22
 have r30 := ub1 hu28 (Ne.symm ne29) B23
 refine L0 <| Osw r30 #[.func (.func 39) #[] #[], .func (.func 40) #[] #[]] fun w31 B32 hu33 => ng <| Pl 2 <| L0 <| Oal #[.nilFunc, .nilFunc] fun g34 w35 hg36 B37 hu38 => L0 <| Oal #[.nilFunc, .nilFunc] fun g39 w40 hg41 B42 hu43 => ?_
 have r44 := ub hu43 B37
 refine L0 <| Osw r44 #[.func (.func 41) #[] #[], .func (.func 42) #[] #[]] fun w45 B46 hu47 => ?_
 have ne48 := nb (blk_lt B37) lr hg41
 have r49 := ub1 hu47 (Ne.symm ne48) B42
 refine L0 <| Osw r49 #[.func (.func 43) #[] #[], .func (.func 44) #[] #[]] fun w50 B51 hu52 => ng <| L0 <| Omk fun g53 w54 hg55 B56 hu57 => ?_
 have U58 := ut0 hu33 hu38
 have U59 := ut0 U58 hu43
 have U60 := u1 U59 hu47 (ni hu33.size hg36)
 have U61 := u1 U60 hu52 (ni U58.size hg41)
 have U62 := ut0 U61 hu57
 have r63 := ub1 U62 ne29 B27
 refine L0 <| Olw r63 <| L0 <| Oin B56 1 #[⟨.int .u8 1, .agg #[.func (.func 37) #[] #[], .func (.func 38) #[] #[]], 0⟩] 1 fun w64 B65 hu66 => ?_
 have ne67 := nb (blk_lt B18) (le (le (le (le (le (le hu24.size hu28.size) hu33.size) hu38.size) hu43.size) hu47.size) hu52.size) hg55
 have r68 := ub1 hu66 ne67 r63
 refine L0 <| Olw r68 <| L0 <| Oin B65 2 #[⟨.int .u8 1, .agg #[.func (.func 37) #[] #[], .func (.func 38) #[] #[]], 0⟩, ⟨.int .u8 2, .agg #[.func (.func 37) #[] #[], .func (.func 38) #[] #[]], 1⟩] 2 fun w69 B70 hu71 => ?_
 have r72 := ub1 hu71 ne67 r68
 refine L0 <| Olw r72 <| L0 <| Oin B70 5 #[⟨.int .u8 1, .agg #[.func (.func 37) #[] #[], .func (.func 38) #[] #[]], 0⟩, ⟨.int .u8 2, .agg #[.func (.func 37) #[] #[], .func (.func 38) #[] #[]], 1⟩, ⟨.int .u8 5, .agg #[.func (.func 37) #[] #[], .func (.func 38) #[] #[]], 2⟩] 3 fun w73 B74 hu75 => ?_
 have r76 := ub1 hu75 ne67 r72
 refine L0 <| Olw r76 <| L0 <| Oin B74 15 #[⟨.int .u8 1, .agg #[.func (.func 37) #[] #[], .func (.func 38) #[] #[]], 0⟩, ⟨.int .u8 2, .agg #[.func (.func 37) #[] #[], .func (.func 38) #[] #[]], 1⟩, ⟨.int .u8 5, .agg #[.func (.func 37) #[] #[], .func (.func 38) #[] #[]], 2⟩, ⟨.int .u8 15, .agg #[.func (.func 37) #[] #[], .func (.func 38) #[] #[]], 3⟩] 4 fun w77 B78 hu79 => ?_
 have U80 := ut0 hu38 hu43
 have U81 := u1 U80 hu47 (nr hg36)
 have U82 := u1 U81 hu52 (ni hu38.size hg41)
 have U83 := ut0 U82 hu57
 have U84 := u1 U83 hu66 (ni U82.size hg55)
 have U85 := u1 U84 hu71 (ni U82.size hg55)
 have U86 := u1 U85 hu75 (ni U82.size hg55)
 have U87 := u1 U86 hu79 (ni U82.size hg55)
 have r88 := ub U87 B32
 refine L0 <| Olw r88 <| L0 <| Oin B78 3 #[⟨.int .u8 1, .agg #[.func (.func 37) #[] #[], .func (.func 38) #[] #[]], 0⟩, ⟨.int .u8 2, .agg #[.func (.func 37) #[] #[], .func (.func 38) #[] #[]], 1⟩, ⟨.int .u8 5, .agg #[.func (.func 37) #[] #[], .func (.func 38) #[] #[]], 2⟩, ⟨.int .u8 15, .agg #[.func (.func 37) #[] #[], .func (.func 38) #[] #[]], 3⟩, ⟨.int .u8 3, .agg #[.func (.func 39) #[] #[], .func (.func 40) #[] #[]], 4⟩] 5 fun w89 B90 hu91 => ?_
 have ne92 := nb (blk_lt B23) (le (le (le (le (le hu28.size hu33.size) hu38.size) hu43.size) hu47.size) hu52.size) hg55
 have r93 := ub1 hu91 ne92 r88
 refine L0 <| Olw r93 <| L0 <| Oin B90 4 #[⟨.int .u8 1, .agg #[.func (.func 37) #[] #[], .func (.func 38) #[] #[]], 0⟩, ⟨.int .u8 2, .agg #[.func (.func 37) #[] #[], .func (.func 38) #[] #[]], 1⟩, ⟨.int .u8 5, .agg #[.func (.func 37) #[] #[], .func (.func 38) #[] #[]], 2⟩, ⟨.int .u8 15, .agg #[.func (.func 37) #[] #[], .func (.func 38) #[] #[]], 3⟩, ⟨.int .u8 3, .agg #[.func (.func 39) #[] #[], .func (.func 40) #[] #[]], 4⟩, ⟨.int .u8 4, .agg #[.func (.func 39) #[] #[], .func (.func 40) #[] #[]], 5⟩] 6 fun w94 B95 hu96 => ?_
 have r97 := ub1 hu96 ne92 r93
 refine L0 <| Olw r97 <| L0 <| Oin B95 6 #[⟨.int .u8 1, .agg #[.func (.func 37) #[] #[], .func (.func 38) #[] #[]], 0⟩, ⟨.int .u8 2, .agg #[.func (.func 37) #[] #[], .func (.func 38) #[] #[]], 1⟩, ⟨.int .u8 5, .agg #[.func (.func 37) #[] #[], .func (.func 38) #[] #[]], 2⟩, ⟨.int .u8 15, .agg #[.func (.func 37) #[] #[], .func (.func 38) #[] #[]], 3⟩, ⟨.int .u8 3, .agg #[.func (.func 39) #[] #[], .func (.func 40) #[] #[]], 4⟩, ⟨.int .u8 4, .agg #[.func (.func 39) #[] #[], .func (.func 40) #[] #[]], 5⟩, ⟨.int .u8 6, .agg #[.func (.func 39) #[] #[], .func (.func 40) #[] #[]], 6⟩] 7 fun w98 B99 hu100 => ?_
 have r101 := ub1 hu100 ne92 r97
 refine L0 <| Olw r101 <| L0 <| Oin B99 16 #[⟨.int .u8 1, .agg #[.func (.func 37) #[] #[], .func (.func 38) #[] #[]], 0⟩, ⟨.int .u8 2, .agg #[.func (.func 37) #[] #[], .func (.func 38) #[] #[]], 1⟩, ⟨.int .u8 5, .agg #[.func (.func 37) #[] #[], .func (.func 38) #[] #[]], 2⟩, ⟨.int .u8 15, .agg #[.func (.func 37) #[] #[], .func (.func 38) #[] #[]], 3⟩, ⟨.int .u8 3, .agg #[.func (.func 39) #[] #[], .func (.func 40) #[] #[]], 4⟩, ⟨.int .u8 4, .agg #[.func (.func 39) #[] #[], .func (.func 40) #[] #[]], 5⟩, ⟨.int .u8 6, .agg #[.func (.func 39) #[] #[], .func (.func 40) #[] #[]], 6⟩, ⟨.int .u8 16, .agg #[.func (.func 39) #[] #[], .func (.func 40) #[] #[]], 7⟩] 8 fun w102 B103 hu104 => ?_
 have r105 := ub1 hu104 ne92 r101
 refine L0 <| Olw r105 <| L0 <| Oin B103 22 #[⟨.int .u8 1, .agg #[.func (.func 37) #[] #[], .func (.func 38) #[] #[]], 0⟩, ⟨.int .u8 2, .agg #[.func (.func 37) #[] #[], .func (.func 38) #[] #[]], 1⟩, ⟨.int .u8 5, .agg #[.func (.func 37) #[] #[], .func (.func 38) #[] #[]], 2⟩, ⟨.int .u8 15, .agg #[.func (.func 37) #[] #[], .func (.func 38) #[] #[]], 3⟩, ⟨.int .u8 3, .agg #[.func (.func 39) #[] #[], .func (.func 40) #[] #[]], 4⟩, ⟨.int .u8 4, .agg #[.func (.func 39) #[] #[], .func (.func 40) #[] #[]], 5⟩, ⟨.int .u8 6, .agg #[.func (.func 39) #[] #[], .func (.func 40) #[] #[]], 6⟩, ⟨.int .u8 16, .agg #[.func (.func 39) #[] #[], .func (.func 40) #[] #[]], 7⟩, ⟨.int .u8 22, .agg #[.func (.func 39) #[] #[], .func (.func 40) #[] #[]], 8⟩] 9 fun w106 B107 hu108 => ?_
 have r109 := ub1 hu108 ne92 r105
 refine L0 <| Olw r109 <| L0 <| Oin B107 23 #[⟨.int .u8 1, .agg #[.func (.func 37) #[] #[], .func (.func 38) #[] #[]], 0⟩, ⟨.int .u8 2, .agg #[.func (.func 37) #[] #[], .func (.func 38) #[] #[]], 1⟩, ⟨.int .u8 5, .agg #[.func (.func 37) #[] #[], .func (.func 38) #[] #[]], 2⟩, ⟨.int .u8 15, .agg #[.func (.func 37) #[] #[], .func (.func 38) #[] #[]], 3⟩, ⟨.int .u8 3, .agg #[.func (.func 39) #[] #[], .func (.func 40) #[] #[]], 4⟩, ⟨.int .u8 4, .agg #[.func (.func 39) #[] #[], .func (.func 40) #[] #[]], 5⟩, ⟨.int .u8 6, .agg #[.func (.func 39) #[] #[], .func (.func 40) #[] #[]], 6⟩, ⟨.int .u8 16, .agg #[.func (.func 39) #[] #[], .func (.func 40) #[] #[]], 7⟩, ⟨.int .u8 22, .agg #[.func (.func 39) #[] #[], .func (.func 40) #[] #[]], 8⟩, ⟨.int .u8 23, .agg #[.func (.func 39) #[] #[], .func (.func 40) #[] #[]], 9⟩] 10 fun w110 B111 hu112 => ?_
 have r113 := ub1 hu112 ne92 r109
 refine L0 <| Olw r113 <| L0 <| Oin B111 24 #[⟨.int .u8 1, .agg #[.func (.func 37) #[] #[], .func (.func 38) #[] #[]], 0⟩, ⟨.int .u8 2, .agg #[.func (.func 37) #[] #[], .func (.func 38) #[] #[]], 1⟩, ⟨.int .u8 5, .agg #[.func (.func 37) #[] #[], .func (.func 38) #[] #[]], 2⟩, ⟨.int .u8 15, .agg #[.func (.func 37) #[] #[], .func (.func 38) #[] #[]], 3⟩, ⟨.int .u8 3, .agg #[.func (.func 39) #[] #[], .func (.func 40) #[] #[]], 4⟩, ⟨.int .u8 4, .agg #[.func (.func 39) #[] #[], .func (.func 40) #[] #[]], 5⟩, ⟨.int .u8 6, .agg #[.func (.func 39) #[] #[], .func (.func 40) #[] #[]], 6⟩, ⟨.int .u8 16, .agg #[.func (.func 39) #[] #[], .func (.func 40) #[] #[]], 7⟩, ⟨.int .u8 22, .agg #[.func (.func 39) #[] #[], .func (.func 40) #[] #[]], 8⟩, ⟨.int .u8 23, .agg #[.func (.func 39) #[] #[], .func (.func 40) #[] #[]], 9⟩, ⟨.int .u8 24, .agg #[.func (.func 39) #[] #[], .func (.func 40) #[] #[]], 10⟩] 11 fun w114 B115 hu116 => ?_
 have U117 := ut0 hu52 hu57
 have U118 := u1 U117 hu66 (ni hu52.size hg55)
 have U119 := u1 U118 hu71 (ni hu52.size hg55)
 have U120 := u1 U119 hu75 (ni hu52.size hg55)
 have U121 := u1 U120 hu79 (ni hu52.size hg55)
 have U122 := u1 U121 hu91 (ni hu52.size hg55)
 have U123 := u1 U122 hu96 (ni hu52.size hg55)
 have U124 := u1 U123 hu100 (ni hu52.size hg55)
 have U125 := u1 U124 hu104 (ni hu52.size hg55)
 have U126 := u1 U125 hu108 (ni hu52.size hg55)
 have U127 := u1 U126 hu112 (ni hu52.size hg55)
 have U128 := u1 U127 hu116 (ni hu52.size hg55)
 have r129 := ub1 U128 ne48 B46
 refine L0 <| Olw r129 <| L0 <| Oin B115 7 #[⟨.int .u8 1, .agg #[.func (.func 37) #[] #[], .func (.func 38) #[] #[]], 0⟩, ⟨.int .u8 2, .agg #[.func (.func 37) #[] #[], .func (.func 38) #[] #[]], 1⟩, ⟨.int .u8 5, .agg #[.func (.func 37) #[] #[], .func (.func 38) #[] #[]], 2⟩, ⟨.int .u8 15, .agg #[.func (.func 37) #[] #[], .func (.func 38) #[] #[]], 3⟩, ⟨.int .u8 3, .agg #[.func (.func 39) #[] #[], .func (.func 40) #[] #[]], 4⟩, ⟨.int .u8 4, .agg #[.func (.func 39) #[] #[], .func (.func 40) #[] #[]], 5⟩, ⟨.int .u8 6, .agg #[.func (.func 39) #[] #[], .func (.func 40) #[] #[]], 6⟩, ⟨.int .u8 16, .agg #[.func (.func 39) #[] #[], .func (.func 40) #[] #[]], 7⟩, ⟨.int .u8 22, .agg #[.func (.func 39) #[] #[], .func (.func 40) #[] #[]], 8⟩, ⟨.int .u8 23, .agg #[.func (.func 39) #[] #[], .func (.func 40) #[] #[]], 9⟩, ⟨.int .u8 24, .agg #[.func (.func 39) #[] #[], .func (.func 40) #[] #[]], 10⟩, ⟨.int .u8 7, .agg #[.func (.func 41) #[] #[], .func (.func 42) #[] #[]], 11⟩] 12 fun w130 B131 hu132 => ?_
 have ne133 := nb (blk_lt B37) (le (le hu43.size hu47.size) hu52.size) hg55
 have r134 := ub1 hu132 ne133 r129
 refine L0 <| Olw r134 <| L0 <| Oin B131 8 #[⟨.int .u8 1, .agg #[.func (.func 37) #[] #[], .func (.func 38) #[] #[]], 0⟩, ⟨.int .u8 2, .agg #[.func (.func 37) #[] #[], .func (.func 38) #[] #[]], 1⟩, ⟨.int .u8 5, .agg #[.func (.func 37) #[] #[], .func (.func 38) #[] #[]], 2⟩, ⟨.int .u8 15, .agg #[.func (.func 37) #[] #[], .func (.func 38) #[] #[]], 3⟩, ⟨.int .u8 3, .agg #[.func (.func 39) #[] #[], .func (.func 40) #[] #[]], 4⟩, ⟨.int .u8 4, .agg #[.func (.func 39) #[] #[], .func (.func 40) #[] #[]], 5⟩, ⟨.int .u8 6, .agg #[.func (.func 39) #[] #[], .func (.func 40) #[] #[]], 6⟩, ⟨.int .u8 16, .agg #[.func (.func 39) #[] #[], .func (.func 40) #[] #[]], 7⟩, ⟨.int .u8 22, .agg #[.func (.func 39) #[] #[], .func (.func 40) #[] #[]], 8⟩, ⟨.int .u8 23, .agg #[.func (.func 39) #[] #[], .func (.func 40) #[] #[]], 9⟩, ⟨.int .u8 24, .agg #[.func (.func 39) #[] #[], .func (.func 40) #[] #[]], 10⟩, ⟨.int .u8 7, .agg #[.func (.func 41) #[] #[], .func (.func 42) #[] #[]], 11⟩, ⟨.int .u8 8, .agg #[.func (.func 41) #[] #[], .func (.func 42) #[] #[]], 12⟩] 13 fun w135 B136 hu137 => ?_
 have r138 := ub1 hu137 ne133 r134
 refine L0 <| Olw r138 <| L0 <| Oin B136 11 #[⟨.int .u8 1, .agg #[.func (.func 37) #[] #[], .func (.func 38) #[] #[]], 0⟩, ⟨.int .u8 2, .agg #[.func (.func 37) #[] #[], .func (.func 38) #[] #[]], 1⟩, ⟨.int .u8 5, .agg #[.func (.func 37) #[] #[], .func (.func 38) #[] #[]], 2⟩, ⟨.int .u8 15, .agg #[.func (.func 37) #[] #[], .func (.func 38) #[] #[]], 3⟩, ⟨.int .u8 3, .agg #[.func (.func 39) #[] #[], .func (.func 40) #[] #[]], 4⟩, ⟨.int .u8 4, .agg #[.func (.func 39) #[] #[], .func (.func 40) #[] #[]], 5⟩, ⟨.int .u8 6, .agg #[.func (.func 39) #[] #[], .func (.func 40) #[] #[]], 6⟩, ⟨.int .u8 16, .agg #[.func (.func 39) #[] #[], .func (.func 40) #[] #[]], 7⟩, ⟨.int .u8 22, .agg #[.func (.func 39) #[] #[], .func (.func 40) #[] #[]], 8⟩, ⟨.int .u8 23, .agg #[.func (.func 39) #[] #[], .func (.func 40) #[] #[]], 9⟩, ⟨.int .u8 24, .agg #[.func (.func 39) #[] #[], .func (.func 40) #[] #[]], 10⟩, ⟨.int .u8 7, .agg #[.func (.func 41) #[] #[], .func (.func 42) #[] #[]], 11⟩, ⟨.int .u8 8, .agg #[.func (.func 41) #[] #[], .func (.func 42) #[] #[]], 12⟩, ⟨.int .u8 11, .agg #[.func (.func 41) #[] #[], .func (.func 42) #[] #[]], 13⟩] 14 fun w139 B140 hu141 => ?_
 have r142 := ub1 hu141 ne133 r138
 refine L0 <| Olw r142 <| L0 <| Oin B140 12 #[⟨.int .u8 1, .agg #[.func (.func 37) #[] #[], .func (.func 38) #[] #[]], 0⟩, ⟨.int .u8 2, .agg #[.func (.func 37) #[] #[], .func (.func 38) #[] #[]], 1⟩, ⟨.int .u8 5, .agg #[.func (.func 37) #[] #[], .func (.func 38) #[] #[]], 2⟩, ⟨.int .u8 15, .agg #[.func (.func 37) #[] #[], .func (.func 38) #[] #[]], 3⟩, ⟨.int .u8 3, .agg #[.func (.func 39) #[] #[], .func (.func 40) #[] #[]], 4⟩, ⟨.int .u8 4, .agg #[.func (.func 39) #[] #[], .func (.func 40) #[] #[]], 5⟩, ⟨.int .u8 6, .agg #[.func (.func 39) #[] #[], .func (.func 40) #[] #[]], 6⟩, ⟨.int .u8 16, .agg #[.func (.func 39) #[] #[], .func (.func 40) #[] #[]], 7⟩, ⟨.int .u8 22, .agg #[.func (.func 39) #[] #[], .func (.func 40) #[] #[]], 8⟩, ⟨.int .u8 23, .agg #[.func (.func 39) #[] #[], .func (.func 40) #[] #[]], 9⟩, ⟨.int .u8 24, .agg #[.func (.func 39) #[] #[], .func (.func 40) #[] #[]], 10⟩, ⟨.int .u8 7, .agg #[.func (.func 41) #[] #[], .func (.func 42) #[] #[]], 11⟩, ⟨.int .u8 8, .agg #[.func (.func 41) #[] #[], .func (.func 42) #[] #[]], 12⟩, ⟨.int .u8 11, .agg #[.func (.func 41) #[] #[], .func (.func 42) #[] #[]], 13⟩, ⟨.int .u8 12, .agg #[.func (.func 41) #[] #[], .func (.func 42) #[] #[]], 14⟩] 15 fun w143 B144 hu145 => ?_
 have r146 := ub1 hu145 ne133 r142
 refine L0 <| Olw r146 <| L0 <| Oin B144 17 #[⟨.int .u8 1, .agg #[.func (.func 37) #[] #[], .func (.func 38) #[] #[]], 0⟩, ⟨.int .u8 2, .agg #[.func (.func 37) #[] #[], .func (.func 38) #[] #[]], 1⟩, ⟨.int .u8 5, .agg #[.func (.func 37) #[] #[], .func (.func 38) #[] #[]], 2⟩, ⟨.int .u8 15, .agg #[.func (.func 37) #[] #[], .func (.func 38) #[] #[]], 3⟩, ⟨.int .u8 3, .agg #[.func (.func 39) #[] #[], .func (.func 40) #[] #[]], 4⟩, ⟨.int .u8 4, .agg #[.func (.func 39) #[] #[], .func (.func 40) #[] #[]], 5⟩, ⟨.int .u8 6, .agg #[.func (.func 39) #[] #[], .func (.func 40) #[] #[]], 6⟩, ⟨.int .u8 16, .agg #[.func (.func 39) #[] #[], .func (.func 40) #[] #[]], 7⟩, ⟨.int .u8 22, .agg #[.func (.func 39) #[] #[], .func (.func 40) #[] #[]], 8⟩, ⟨.int .u8 23, .agg #[.func (.func 39) #[] #[], .func (.func 40) #[] #[]], 9⟩, ⟨.int .u8 24, .agg #[.func (.func 39) #[] #[], .func (.func 40) #[] #[]], 10⟩, ⟨.int .u8 7, .agg #[.func (.func 41) #[] #[], .func (.func 42) #[] #[]], 11⟩, ⟨.int .u8 8, .agg #[.func (.func 41) #[] #[], .func (.func 42) #[] #[]], 12⟩, ⟨.int .u8 11, .agg #[.func (.func 41) #[] #[], .func (.func 42) #[] #[]], 13⟩, ⟨.int .u8 12, .agg #[.func (.func 41) #[] #[], .func (.func 42) #[] #[]], 14⟩, ⟨.int .u8 17, .agg #[.func (.func 41) #[] #[], .func (.func 42) #[] #[]], 15⟩] 16 fun w147 B148 hu149 => ?_
 have U150 := u1 hu57 hu66 (nr hg55)
 have U151 := u1 U150 hu71 (nr hg55)
 have U152 := u1 U151 hu75 (nr hg55)
 have U153 := u1 U152 hu79 (nr hg55)
 have U154 := u1 U153 hu91 (nr hg55)
 have U155 := u1 U154 hu96 (nr hg55)
 have U156 := u1 U155 hu100 (nr hg55)
 have U157 := u1 U156 hu104 (nr hg55)
 have U158 := u1 U157 hu108 (nr hg55)
 have U159 := u1 U158 hu112 (nr hg55)
 have U160 := u1 U159 hu116 (nr hg55)
 have U161 := u1 U160 hu132 (nr hg55)
 have U162 := u1 U161 hu137 (nr hg55)
 have U163 := u1 U162 hu141 (nr hg55)
 have U164 := u1 U163 hu145 (nr hg55)
 have U165 := u1 U164 hu149 (nr hg55)
 have r166 := ub U165 B51
 refine L0 <| Olw r166 <| L0 <| Oin B148 20 #[⟨.int .u8 1, .agg #[.func (.func 37) #[] #[], .func (.func 38) #[] #[]], 0⟩, ⟨.int .u8 2, .agg #[.func (.func 37) #[] #[], .func (.func 38) #[] #[]], 1⟩, ⟨.int .u8 5, .agg #[.func (.func 37) #[] #[], .func (.func 38) #[] #[]], 2⟩, ⟨.int .u8 15, .agg #[.func (.func 37) #[] #[], .func (.func 38) #[] #[]], 3⟩, ⟨.int .u8 3, .agg #[.func (.func 39) #[] #[], .func (.func 40) #[] #[]], 4⟩, ⟨.int .u8 4, .agg #[.func (.func 39) #[] #[], .func (.func 40) #[] #[]], 5⟩, ⟨.int .u8 6, .agg #[.func (.func 39) #[] #[], .func (.func 40) #[] #[]], 6⟩, ⟨.int .u8 16, .agg #[.func (.func 39) #[] #[], .func (.func 40) #[] #[]], 7⟩, ⟨.int .u8 22, .agg #[.func (.func 39) #[] #[], .func (.func 40) #[] #[]], 8⟩, ⟨.int .u8 23, .agg #[.func (.func 39) #[] #[], .func (.func 40) #[] #[]], 9⟩, ⟨.int .u8 24, .agg #[.func (.func 39) #[] #[], .func (.func 40) #[] #[]], 10⟩, ⟨.int .u8 7, .agg #[.func (.func 41) #[] #[], .func (.func 42) #[] #[]], 11⟩, ⟨.int .u8 8, .agg #[.func (.func 41) #[] #[], .func (.func 42) #[] #[]], 12⟩, ⟨.int .u8 11, .agg #[.func (.func 41) #[] #[], .func (.func 42) #[] #[]], 13⟩, ⟨.int .u8 12, .agg #[.func (.func 41) #[] #[], .func (.func 42) #[] #[]], 14⟩, ⟨.int .u8 17, .agg #[.func (.func 41) #[] #[], .func (.func 42) #[] #[]], 15⟩, ⟨.int .u8 20, .agg #[.func (.func 43) #[] #[], .func (.func 44) #[] #[]], 16⟩] 17 fun w167 B168 hu169 => ?_
 have ne170 := nb (blk_lt B42) (le hu47.size hu52.size) hg55
 have r171 := ub1 hu169 ne170 r166
 refine L0 <| Olw r171 <| L0 <| Oin B168 21 #[⟨.int .u8 1, .agg #[.func (.func 37) #[] #[], .func (.func 38) #[] #[]], 0⟩, ⟨.int .u8 2, .agg #[.func (.func 37) #[] #[], .func (.func 38) #[] #[]], 1⟩, ⟨.int .u8 5, .agg #[.func (.func 37) #[] #[], .func (.func 38) #[] #[]], 2⟩, ⟨.int .u8 15, .agg #[.func (.func 37) #[] #[], .func (.func 38) #[] #[]], 3⟩, ⟨.int .u8 3, .agg #[.func (.func 39) #[] #[], .func (.func 40) #[] #[]], 4⟩, ⟨.int .u8 4, .agg #[.func (.func 39) #[] #[], .func (.func 40) #[] #[]], 5⟩, ⟨.int .u8 6, .agg #[.func (.func 39) #[] #[], .func (.func 40) #[] #[]], 6⟩, ⟨.int .u8 16, .agg #[.func (.func 39) #[] #[], .func (.func 40) #[] #[]], 7⟩, ⟨.int .u8 22, .agg #[.func (.func 39) #[] #[], .func (.func 40) #[] #[]], 8⟩, ⟨.int .u8 23, .agg #[.func (.func 39) #[] #[], .func (.func 40) #[] #[]], 9⟩, ⟨.int .u8 24, .agg #[.func (.func 39) #[] #[], .func (.func 40) #[] #[]], 10⟩, ⟨.int .u8 7, .agg #[.func (.func 41) #[] #[], .func (.func 42) #[] #[]], 11⟩, ⟨.int .u8 8, .agg #[.func (.func 41) #[] #[], .func (.func 42) #[] #[]], 12⟩, ⟨.int .u8 11, .agg #[.func (.func 41) #[] #[], .func (.func 42) #[] #[]], 13⟩, ⟨.int .u8 12, .agg #[.func (.func 41) #[] #[], .func (.func 42) #[] #[]], 14⟩, ⟨.int .u8 17, .agg #[.func (.func 41) #[] #[], .func (.func 42) #[] #[]], 15⟩, ⟨.int .u8 20, .agg #[.func (.func 43) #[] #[], .func (.func 44) #[] #[]], 16⟩, ⟨.int .u8 21, .agg #[.func (.func 43) #[] #[], .func (.func 44) #[] #[]], 17⟩] 18 fun w172 B173 hu174 => Pl 1 <| L0 <| Oin B173 43 #[⟨.int .u8 1, .agg #[.func (.func 37) #[] #[], .func (.func 38) #[] #[]], 0⟩, ⟨.int .u8 2, .agg #[.func (.func 37) #[] #[], .func (.func 38) #[] #[]], 1⟩, ⟨.int .u8 5, .agg #[.func (.func 37) #[] #[], .func (.func 38) #[] #[]], 2⟩, ⟨.int .u8 15, .agg #[.func (.func 37) #[] #[], .func (.func 38) #[] #[]], 3⟩, ⟨.int .u8 3, .agg #[.func (.func 39) #[] #[], .func (.func 40) #[] #[]], 4⟩, ⟨.int .u8 4, .agg #[.func (.func 39) #[] #[], .func (.func 40) #[] #[]], 5⟩, ⟨.int .u8 6, .agg #[.func (.func 39) #[] #[], .func (.func 40) #[] #[]], 6⟩, ⟨.int .u8 16, .agg #[.func (.func 39) #[] #[], .func (.func 40) #[] #[]], 7⟩, ⟨.int .u8 22, .agg #[.func (.func 39) #[] #[], .func (.func 40) #[] #[]], 8⟩, ⟨.int .u8 23, .agg #[.func (.func 39) #[] #[], .func (.func 40) #[] #[]], 9⟩, ⟨.int .u8 24, .agg #[.func (.func 39) #[] #[], .func (.func 40) #[] #[]], 10⟩, ⟨.int .u8 7, .agg #[.func (.func 41) #[] #[], .func (.func 42) #[] #[]], 11⟩, ⟨.int .u8 8, .agg #[.func (.func 41) #[] #[], .func (.func 42) #[] #[]], 12⟩, ⟨.int .u8 11, .agg #[.func (.func 41) #[] #[], .func (.func 42) #[] #[]], 13⟩, ⟨.int .u8 12, .agg #[.func (.func 41) #[] #[], .func (.func 42) #[] #[]], 14⟩, ⟨.int .u8 17, .agg #[.func (.func 41) #[] #[], .func (.func 42) #[] #[]], 15⟩, ⟨.int .u8 20, .agg #[.func (.func 43) #[] #[], .func (.func 44) #[] #[]], 16⟩, ⟨.int .u8 21, .agg #[.func (.func 43) #[] #[], .func (.func 44) #[] #[]], 17⟩, ⟨.int .u8 43, .agg #[.func (.func 45) #[] #[], .func (.func 46) #[] #[]], 18⟩] 19 fun w175 B176 hu177 => Pl 2 <| ng <| Pl 2 <| ?_
 have U178 := ut0 hu14 hu19
 have U179 := ut0 U178 hu24
 have U180 := u1 U179 hu28 (ni hu14.size hg17)
 have U181 := u1 U180 hu33 (ni U178.size hg22)
 have U182 := ut0 U181 hu38
 have U183 := ut0 U182 hu43
 have U184 := u1 U183 hu47 (ni U181.size hg36)
 have U185 := u1 U184 hu52 (ni U182.size hg41)
 have U186 := ut0 U185 hu57
 have U187 := u1 U186 hu66 (ni U185.size hg55)
 have U188 := u1 U187 hu71 (ni U185.size hg55)
 have U189 := u1 U188 hu75 (ni U185.size hg55)
 have U190 := u1 U189 hu79 (ni U185.size hg55)
 have U191 := u1 U190 hu91 (ni U185.size hg55)
 have U192 := u1 U191 hu96 (ni U185.size hg55)
 have U193 := u1 U192 hu100 (ni U185.size hg55)
 have U194 := u1 U193 hu104 (ni U185.size hg55)
 have U195 := u1 U194 hu108 (ni U185.size hg55)
 have U196 := u1 U195 hu112 (ni U185.size hg55)
 have U197 := u1 U196 hu116 (ni U185.size hg55)
 have U198 := u1 U197 hu132 (ni U185.size hg55)
 have U199 := u1 U198 hu137 (ni U185.size hg55)
 have U200 := u1 U199 hu141 (ni U185.size hg55)
 have U201 := u1 U200 hu145 (ni U185.size hg55)
 have U202 := u1 U201 hu149 (ni U185.size hg55)
 have U203 := u1 U202 hu169 (ni U185.size hg55)
 have U204 := u1 U203 hu174 (ni U185.size hg55)
 have U205 := u1 U204 hu177 (ni U185.size hg55)
 rcases cfam_dich x with ⟨hk, hkf⟩ | ⟨hk, hkf⟩ | ⟨hk, hkf⟩ | ⟨hk, hkf⟩ | ⟨hk, hkf⟩ | ⟨hk, hkf⟩
 obtain ⟨ix, hix⟩ : ∃ i, Instr.findNow (.int .u8) (.int .u8 x) (#[⟨.int .u8 1, .agg #[.func (.func 37) #[] #[], .func (.func 38) #[] #[]], 0⟩, ⟨.int .u8 2, .agg #[.func (.func 37) #[] #[], .func (.func 38) #[] #[]], 1⟩, ⟨.int .u8 5, .agg #[.func (.func 37) #[] #[], .func (.func 38) #[] #[]], 2⟩, ⟨.int .u8 15, .agg #[.func (.func 37) #[] #[], .func (.func 38) #[] #[]], 3⟩, ⟨.int .u8 3, .agg #[.func (.func 39) #[] #[], .func (.func 40) #[] #[]], 4⟩, ⟨.int .u8 4, .agg #[.func (.func 39) #[] #[], .func (.func 40) #[] #[]], 5⟩, ⟨.int .u8 6, .agg #[.func (.func 39) #[] #[], .func (.func 40) #[] #[]], 6⟩, ⟨.int .u8 16, .agg #[.func (.func 39) #[] #[], .func (.func 40) #[] #[]], 7⟩, ⟨.int .u8 22, .agg #[.func (.func 39) #[] #[], .func (.func 40) #[] #[]], 8⟩, ⟨.int .u8 23, .agg #[.func (.func 39) #[] #[], .func (.func 40) #[] #[]], 9⟩, ⟨.int .u8 24, .agg #[.func (.func 39) #[] #[], .func (.func 40) #[] #[]], 10⟩, ⟨.int .u8 7, .agg #[.func (.func 41) #[] #[], .func (.func 42) #[] #[]], 11⟩, ⟨.int .u8 8, .agg #[.func (.func 41) #[] #[], .func (.func 42) #[] #[]], 12⟩, ⟨.int .u8 11, .agg #[.func (.func 41) #[] #[], .func (.func 42) #[] #[]], 13⟩, ⟨.int .u8 12, .agg #[.func (.func 41) #[] #[], .func (.func 42) #[] #[]], 14⟩, ⟨.int .u8 17, .agg #[.func (.func 41) #[] #[], .func (.func 42) #[] #[]], 15⟩, ⟨.int .u8 20, .agg #[.func (.func 43) #[] #[], .func (.func 44) #[] #[]], 16⟩, ⟨.int .u8 21, .agg #[.func (.func 43) #[] #[], .func (.func 44) #[] #[]], 17⟩, ⟨.int .u8 43, .agg #[.func (.func 45) #[] #[], .func (.func 46) #[] #[]], 18⟩] : Array MapEntry).toList 0 = some (some (i, .agg #[.func (.func 37) #[] #[], .func (.func 38) #[] #[]])) := by
   rcases hk with rfl | rfl | rfl | rfl
   · exact ⟨0, by kernel_rfl⟩
   · exact ⟨1, by kernel_rfl⟩
   · exact ⟨2, by kernel_rfl⟩
   · exact ⟨3, by kernel_rfl⟩
 refine L0 <| Olk (hf := hix) B176 x (.agg #[.nilFunc, .nilFunc]) (some (ix, .agg #[.func (.func 37) #[] #[], .func (.func 38) #[] #[]])) <| Pl 3 <| L0 <| Oal #[.nilFunc, .nilFunc] fun g206 w207 hg208 B209 hu210 => L0 <| Osw B209 #[.func (.func 37) #[] #[], .func (.func 38) #[] #[]] fun w211 B212 hu213 => Pl 1 <| ng <| L0 <| Olw B212 <| Pl 1 <| ?_
 have U214 := ut0 hu19 hu24
 have U215 := u1 U214 hu28 (nr hg17)
 have U216 := u1 U215 hu33 (ni hu19.size hg22)
 have U217 := ut0 U216 hu38
 have U218 := ut0 U217 hu43
 have U219 := u1 U218 hu47 (ni U216.size hg36)
 have U220 := u1 U219 hu52 (ni U217.size hg41)
 have U221 := ut0 U220 hu57
 have U222 := u1 U221 hu66 (ni U220.size hg55)
 have U223 := u1 U222 hu71 (ni U220.size hg55)
 have U224 := u1 U223 hu75 (ni U220.size hg55)
 have U225 := u1 U224 hu79 (ni U220.size hg55)
 have U226 := u1 U225 hu91 (ni U220.size hg55)
 have U227 := u1 U226 hu96 (ni U220.size hg55)
 have U228 := u1 U227 hu100 (ni U220.size hg55)
 have U229 := u1 U228 hu104 (ni U220.size hg55)
 have U230 := u1 U229 hu108 (ni U220.size hg55)
 have U231 := u1 U230 hu112 (ni U220.size hg55)
 have U232 := u1 U231 hu116 (ni U220.size hg55)
 have U233 := u1 U232 hu132 (ni U220.size hg55)
 have U234 := u1 U233 hu137 (ni U220.size hg55)
 have U235 := u1 U234 hu141 (ni U220.size hg55)
 have U236 := u1 U235 hu145 (ni U220.size hg55)
 have U237 := u1 U236 hu149 (ni U220.size hg55)
 have U238 := u1 U237 hu169 (ni U220.size hg55)
 have U239 := u1 U238 hu174 (ni U220.size hg55)
 have U240 := u1 U239 hu177 (ni U220.size hg55)
 have U241 := ut0 U240 hu210
 have U242 := u1 U241 hu213 (ni U240.size hg208)
 have r243 := ub U242 B13
 refine L0 <| Osw r243 #[.func (.func 37) #[] #[], .func (.func 38) #[] #[]] fun w244 B245 hu246 => Pl 1 <| nt <| rt <| rct B245 (.bool true) <| ?_
 rw [hkf]
 have U247 := ut0 U205 hu210
 have U248 := u1 U247 hu213 (ni U205.size hg208)
 have U249 := u1 U248 hu246 (nr hg12)
 exact ⟨rfl, U249⟩
 obtain ⟨ix, hix⟩ : ∃ i, Instr.findNow (.int .u8) (.int .u8 x) (#[⟨.int .u8 1, .agg #[.func (.func 37) #[] #[], .func (.func 38) #[] #[]], 0⟩, ⟨.int .u8 2, .agg #[.func (.func 37) #[] #[], .func (.func 38) #[] #[]], 1⟩, ⟨.int .u8 5, .agg #[.func (.func 37) #[] #[], .func (.func 38) #[] #[]], 2⟩, ⟨.int .u8 15, .agg #[.func (.func 37) #[] #[], .func (.func 38) #[] #[]], 3⟩, ⟨.int .u8 3, .agg #[.func (.func 39) #[] #[], .func (.func 40) #[] #[]], 4⟩, ⟨.int .u8 4, .agg #[.func (.func 39) #[] #[], .func (.func 40) #[] #[]], 5⟩, ⟨.int .u8 6, .agg #[.func (.func 39) #[] #[], .func (.func 40) #[] #[]], 6⟩, ⟨.int .u8 16, .agg #[.func (.func 39) #[] #[], .func (.func 40) #[] #[]], 7⟩, ⟨.int .u8 22, .agg #[.func (.func 39) #[] #[], .func (.func 40) #[] #[]], 8⟩, ⟨.int .u8 23, .agg #[.func (.func 39) #[] #[], .func (.func 40) #[] #[]], 9⟩, ⟨.int .u8 24, .agg #[.func (.func 39) #[] #[], .func (.func 40) #[] #[]], 10⟩, ⟨.int .u8 7, .agg #[.func (.func 41) #[] #[], .func (.func 42) #[] #[]], 11⟩, ⟨.int .u8 8, .agg #[.func (.func 41) #[] #[], .func (.func 42) #[] #[]], 12⟩, ⟨.int .u8 11, .agg #[.func (.func 41) #[] #[], .func (.func 42) #[] #[]], 13⟩, ⟨.int .u8 12, .agg #[.func (.func 41) #[] #[], .func (.func 42) #[] #[]], 14⟩, ⟨.int .u8 17, .agg #[.func (.func 41) #[] #[], .func (.func 42) #[] #[]], 15⟩, ⟨.int .u8 20, .agg #[.func (.func 43) #[] #[], .func (.func 44) #[] #[]], 16⟩, ⟨.int .u8 21, .agg #[.func (.func 43) #[] #[], .func (.func 44) #[] #[]], 17⟩, ⟨.int .u8 43, .agg #[.func (.func 45) #[] #[], .func (.func 46) #[] #[]], 18⟩] : Array MapEntry).toList 0 = some (some (i, .agg #[.func (.func 39) #[] #[], .func (.func 40) #[] #[]])) := by
   rcases hk with rfl | rfl | rfl | rfl | rfl | rfl | rfl
   · exact ⟨4, by kernel_rfl⟩
   · exact ⟨5, by kernel_rfl⟩
   · exact ⟨6, by kernel_rfl⟩
   · exact ⟨7, by kernel_rfl⟩
   · exact ⟨8, by kernel_rfl⟩
   · exact ⟨9, by kernel_rfl⟩
   · exact ⟨10, by kernel_rfl⟩
 refine L0 <| Olk (hf := hix) B176 x (.agg #[.nilFunc, .nilFunc]) (some (ix, .agg #[.func (.func 39) #[] #[], .func (.func 40) #[] #[]])) <| Pl 3 <| L0 <| Oal #[.nilFunc, .nilFunc] fun g250 w251 hg252 B253 hu254 => L0 <| Osw B253 #[.func (.func 39) #[] #[], .func (.func 40) #[] #[]] fun w255 B256 hu257 => Pl 1 <| ng <| L0 <| Olw B256 <| Pl 1 <| ?_
 have U258 := ut0 hu19 hu24
 have U259 := u1 U258 hu28 (nr hg17)
 have U260 := u1 U259 hu33 (ni hu19.size hg22)
 have U261 := ut0 U260 hu38
 have U262 := ut0 U261 hu43
 have U263 := u1 U262 hu47 (ni U260.size hg36)
 have U264 := u1 U263 hu52 (ni U261.size hg41)
 have U265 := ut0 U264 hu57
 have U266 := u1 U265 hu66 (ni U264.size hg55)
 have U267 := u1 U266 hu71 (ni U264.size hg55)
 have U268 := u1 U267 hu75 (ni U264.size hg55)
 have U269 := u1 U268 hu79 (ni U264.size hg55)
 have U270 := u1 U269 hu91 (ni U264.size hg55)
 have U271 := u1 U270 hu96 (ni U264.size hg55)
 have U272 := u1 U271 hu100 (ni U264.size hg55)
 have U273 := u1 U272 hu104 (ni U264.size hg55)
 have U274 := u1 U273 hu108 (ni U264.size hg55)
 have U275 := u1 U274 hu112 (ni U264.size hg55)
 have U276 := u1 U275 hu116 (ni U264.size hg55)
 have U277 := u1 U276 hu132 (ni U264.size hg55)
 have U278 := u1 U277 hu137 (ni U264.size hg55)
 have U279 := u1 U278 hu141 (ni U264.size hg55)
 have U280 := u1 U279 hu145 (ni U264.size hg55)
 have U281 := u1 U280 hu149 (ni U264.size hg55)
 have U282 := u1 U281 hu169 (ni U264.size hg55)
 have U283 := u1 U282 hu174 (ni U264.size hg55)
 have U284 := u1 U283 hu177 (ni U264.size hg55)
 have U285 := ut0 U284 hu254
 have U286 := u1 U285 hu257 (ni U284.size hg252)
 have r287 := ub U286 B13
 refine L0 <| Osw r287 #[.func (.func 39) #[] #[], .func (.func 40) #[] #[]] fun w288 B289 hu290 => Pl 1 <| nt <| rt <| rct B289 (.bool true) <| ?_
 rw [hkf]
 have U291 := ut0 U205 hu254
 have U292 := u1 U291 hu257 (ni U205.size hg252)
 have U293 := u1 U292 hu290 (nr hg12)
 exact ⟨rfl, U293⟩
 obtain ⟨ix, hix⟩ : ∃ i, Instr.findNow (.int .u8) (.int .u8 x) (#[⟨.int .u8 1, .agg #[.func (.func 37) #[] #[], .func (.func 38) #[] #[]], 0⟩, ⟨.int .u8 2, .agg #[.func (.func 37) #[] #[], .func (.func 38) #[] #[]], 1⟩, ⟨.int .u8 5, .agg #[.func (.func 37) #[] #[], .func (.func 38) #[] #[]], 2⟩, ⟨.int .u8 15, .agg #[.func (.func 37) #[] #[], .func (.func 38) #[] #[]], 3⟩, ⟨.int .u8 3, .agg #[.func (.func 39) #[] #[], .func (.func 40) #[] #[]], 4⟩, ⟨.int .u8 4, .agg #[.func (.func 39) #[] #[], .func (.func 40) #[] #[]], 5⟩, ⟨.int .u8 6, .agg #[.func (.func 39) #[] #[], .func (.func 40) #[] #[]], 6⟩, ⟨.int .u8 16, .agg #[.func (.func 39) #[] #[], .func (.func 40) #[] #[]], 7⟩, ⟨.int .u8 22, .agg #[.func (.func 39) #[] #[], .func (.func 40) #[] #[]], 8⟩, ⟨.int .u8 23, .agg #[.func (.func 39) #[] #[], .func (.func 40) #[] #[]], 9⟩, ⟨.int .u8 24, .agg #[.func (.func 39) #[] #[], .func (.func 40) #[] #[]], 10⟩, ⟨.int .u8 7, .agg #[.func (.func 41) #[] #[], .func (.func 42) #[] #[]], 11⟩, ⟨.int .u8 8, .agg #[.func (.func 41) #[] #[], .func (.func 42) #[] #[]], 12⟩, ⟨.int .u8 11, .agg #[.func (.func 41) #[] #[], .func (.func 42) #[] #[]], 13⟩, ⟨.int .u8 12, .agg #[.func (.func 41) #[] #[], .func (.func 42) #[] #[]], 14⟩, ⟨.int .u8 17, .agg #[.func (.func 41) #[] #[], .func (.func 42) #[] #[]], 15⟩, ⟨.int .u8 20, .agg #[.func (.func 43) #[] #[], .func (.func 44) #[] #[]], 16⟩, ⟨.int .u8 21, .agg #[.func (.func 43) #[] #[], .func (.func 44) #[] #[]], 17⟩, ⟨.int .u8 43, .agg #[.func (.func 45) #[] #[], .func (.func 46) #[] #[]], 18⟩] : Array MapEntry).toList 0 = some (some (i, .agg #[.func (.func 41) #[] #[], .func (.func 42) #[] #[]])) := by
   rcases hk with rfl | rfl | rfl | rfl | rfl
   · exact ⟨11, by kernel_rfl⟩
   · exact ⟨12, by kernel_rfl⟩
   · exact ⟨13, by kernel_rfl⟩
   · exact ⟨14, by kernel_rfl⟩
   · exact ⟨15, by kernel_rfl⟩
 refine L0 <| Olk (hf := hix) B176 x (.agg #[.nilFunc, .nilFunc]) (some (ix, .agg #[.func (.func 41) #[] #[], .func (.func 42) #[] #[]])) <| Pl 3 <| L0 <| Oal #[.nilFunc, .nilFunc] fun g294 w295 hg296 B297 hu298 => L0 <| Osw B297 #[.func (.func 41) #[] #[], .func (.func 42) #[] #[]] fun w299 B300 hu301 => Pl 1 <| ng <| L0 <| Olw B300 <| Pl 1 <| ?_
 have U302 := ut0 hu19 hu24
 have U303 := u1 U302 hu28 (nr hg17)
 have U304 := u1 U303 hu33 (ni hu19.size hg22)
 have U305 := ut0 U304 hu38
 have U306 := ut0 U305 hu43
 have U307 := u1 U306 hu47 (ni U304.size hg36)
 have U308 := u1 U307 hu52 (ni U305.size hg41)
 have U309 := ut0 U308 hu57
 have U310 := u1 U309 hu66 (ni U308.size hg55)
 have U311 := u1 U310 hu71 (ni U308.size hg55)
 have U312 := u1 U311 hu75 (ni U308.size hg55)
 have U313 := u1 U312 hu79 (ni U308.size hg55)
 have U314 := u1 U313 hu91 (ni U308.size hg55)
 have U315 := u1 U314 hu96 (ni U308.size hg55)
 have U316 := u1 U315 hu100 (ni U308.size hg55)
 have U317 := u1 U316 hu104 (ni U308.size hg55)
 have U318 := u1 U317 hu108 (ni U308.size hg55)
 have U319 := u1 U318 hu112 (ni U308.size hg55)
 have U320 := u1 U319 hu116 (ni U308.size hg55)
 have U321 := u1 U320 hu132 (ni U308.size hg55)
 have U322 := u1 U321 hu137 (ni U308.size hg55)
 have U323 := u1 U322 hu141 (ni U308.size hg55)
 have U324 := u1 U323 hu145 (ni U308.size hg55)
 have U325 := u1 U324 hu149 (ni U308.size hg55)
 have U326 := u1 U325 hu169 (ni U308.size hg55)
 have U327 := u1 U326 hu174 (ni U308.size hg55)
 have U328 := u1 U327 hu177 (ni U308.size hg55)
 have U329 := ut0 U328 hu298
 have U330 := u1 U329 hu301 (ni U328.size hg296)
 have r331 := ub U330 B13
 refine L0 <| Osw r331 #[.func (.func 41) #[] #[], .func (.func 42) #[] #[]] fun w332 B333 hu334 => Pl 1 <| nt <| rt <| rct B333 (.bool true) <| ?_
 rw [hkf]
 have U335 := ut0 U205 hu298
 have U336 := u1 U335 hu301 (ni U205.size hg296)
 have U337 := u1 U336 hu334 (nr hg12)
 exact ⟨rfl, U337⟩
 obtain ⟨ix, hix⟩ : ∃ i, Instr.findNow (.int .u8) (.int .u8 x) (#[⟨.int .u8 1, .agg #[.func (.func 37) #[] #[], .func (.func 38) #[] #[]], 0⟩, ⟨.int .u8 2, .agg #[.func (.func 37) #[] #[], .func (.func 38) #[] #[]], 1⟩, ⟨.int .u8 5, .agg #[.func (.func 37) #[] #[], .func (.func 38) #[] #[]], 2⟩, ⟨.int .u8 15, .agg #[.func (.func 37) #[] #[], .func (.func 38) #[] #[]], 3⟩, ⟨.int .u8 3, .agg #[.func (.func 39) #[] #[], .func (.func 40) #[] #[]], 4⟩, ⟨.int .u8 4, .agg #[.func (.func 39) #[] #[], .func (.func 40) #[] #[]], 5⟩, ⟨.int .u8 6, .agg #[.func (.func 39) #[] #[], .func (.func 40) #[] #[]], 6⟩, ⟨.int .u8 16, .agg #[.func (.func 39) #[] #[], .func (.func 40) #[] #[]], 7⟩, ⟨.int .u8 22, .agg #[.func (.func 39) #[] #[], .func (.func 40) #[] #[]], 8⟩, ⟨.int .u8 23, .agg #[.func (.func 39) #[] #[], .func (.func 40) #[] #[]], 9⟩, ⟨.int .u8 24, .agg #[.func (.func 39) #[] #[], .func (.func 40) #[] #[]], 10⟩, ⟨.int .u8 7, .agg #[.func (.func 41) #[] #[], .func (.func 42) #[] #[]], 11⟩, ⟨.int .u8 8, .agg #[.func (.func 41) #[] #[], .func (.func 42) #[] #[]], 12⟩, ⟨.int .u8 11, .agg #[.func (.func 41) #[] #[], .func (.func 42) #[] #[]], 13⟩, ⟨.int .u8 12, .agg #[.func (.func 41) #[] #[], .func (.func 42) #[] #[]], 14⟩, ⟨.int .u8 17, .agg #[.func (.func 41) #[] #[], .func (.func 42) #[] #[]], 15⟩, ⟨.int .u8 20, .agg #[.func (.func 43) #[] #[], .func (.func 44) #[] #[]], 16⟩, ⟨.int .u8 21, .agg #[.func (.func 43) #[] #[], .func (.func 44) #[] #[]], 17⟩, ⟨.int .u8 43, .agg #[.func (.func 45) #[] #[], .func (.func 46) #[] #[]], 18⟩] : Array MapEntry).toList 0 = some (some (i, .agg #[.func (.func 43) #[] #[], .func (.func 44) #[] #[]])) := by
   rcases hk with rfl | rfl
   · exact ⟨16, by kernel_rfl⟩
   · exact ⟨17, by kernel_rfl⟩
 refine L0 <| Olk (hf := hix) B176 x (.agg #[.nilFunc, .nilFunc]) (some (ix, .agg #[.func (.func 43) #[] #[], .func (.func 44) #[] #[]])) <| Pl 3 <| L0 <| Oal #[.nilFunc, .nilFunc] fun g338 w339 hg340 B341 hu342 => L0 <| Osw B341 #[.func (.func 43) #[] #[], .func (.func 44) #[] #[]] fun w343 B344 hu345 => Pl 1 <| ng <| L0 <| Olw B344 <| Pl 1 <| ?_
 have U346 := ut0 hu19 hu24
 have U347 := u1 U346 hu28 (nr hg17)
 have U348 := u1 U347 hu33 (ni hu19.size hg22)
 have U349 := ut0 U348 hu38
 have U350 := ut0 U349 hu43
 have U351 := u1 U350 hu47 (ni U348.size hg36)
 have U352 := u1 U351 hu52 (ni U349.size hg41)
 have U353 := ut0 U352 hu57
 have U354 := u1 U353 hu66 (ni U352.size hg55)
 have U355 := u1 U354 hu71 (ni U352.size hg55)
 have U356 := u1 U355 hu75 (ni U352.size hg55)
 have U357 := u1 U356 hu79 (ni U352.size hg55)
 have U358 := u1 U357 hu91 (ni U352.size hg55)
 have U359 := u1 U358 hu96 (ni U352.size hg55)
 have U360 := u1 U359 hu100 (ni U352.size hg55)
 have U361 := u1 U360 hu104 (ni U352.size hg55)
 have U362 := u1 U361 hu108 (ni U352.size hg55)
 have U363 := u1 U362 hu112 (ni U352.size hg55)
 have U364 := u1 U363 hu116 (ni U352.size hg55)
 have U365 := u1 U364 hu132 (ni U352.size hg55)
 have U366 := u1 U365 hu137 (ni U352.size hg55)
 have U367 := u1 U366 hu141 (ni U352.size hg55)
 have U368 := u1 U367 hu145 (ni U352.size hg55)
 have U369 := u1 U368 hu149 (ni U352.size hg55)
 have U370 := u1 U369 hu169 (ni U352.size hg55)
 have U371 := u1 U370 hu174 (ni U352.size hg55)
 have U372 := u1 U371 hu177 (ni U352.size hg55)
 have U373 := ut0 U372 hu342
 have U374 := u1 U373 hu345 (ni U372.size hg340)
 have r375 := ub U374 B13
 refine L0 <| Osw r375 #[.func (.func 43) #[] #[], .func (.func 44) #[] #[]] fun w376 B377 hu378 => Pl 1 <| nt <| rt <| rct B377 (.bool true) <| ?_
 rw [hkf]
 have U379 := ut0 U205 hu342
 have U380 := u1 U379 hu345 (ni U205.size hg340)
 have U381 := u1 U380 hu378 (nr hg12)
 exact ⟨rfl, U381⟩
 obtain ⟨ix, hix⟩ : ∃ i, Instr.findNow (.int .u8) (.int .u8 x) (#[⟨.int .u8 1, .agg #[.func (.func 37) #[] #[], .func (.func 38) #[] #[]], 0⟩, ⟨.int .u8 2, .agg #[.func (.func 37) #[] #[], .func (.func 38) #[] #[]], 1⟩, ⟨.int .u8 5, .agg #[.func (.func 37) #[] #[], .func (.func 38) #[] #[]], 2⟩, ⟨.int .u8 15, .agg #[.func (.func 37) #[] #[], .func (.func 38) #[] #[]], 3⟩, ⟨.int .u8 3, .agg #[.func (.func 39) #[] #[], .func (.func 40) #[] #[]], 4⟩, ⟨.int .u8 4, .agg #[.func (.func 39) #[] #[], .func (.func 40) #[] #[]], 5⟩, ⟨.int .u8 6, .agg #[.func (.func 39) #[] #[], .func (.func 40) #[] #[]], 6⟩, ⟨.int .u8 16, .agg #[.func (.func 39) #[] #[], .func (.func 40) #[] #[]], 7⟩, ⟨.int .u8 22, .agg #[.func (.func 39) #[] #[], .func (.func 40) #[] #[]], 8⟩, ⟨.int .u8 23, .agg #[.func (.func 39) #[] #[], .func (.func 40) #[] #[]], 9⟩, ⟨.int .u8 24, .agg #[.func (.func 39) #[] #[], .func (.func 40) #[] #[]], 10⟩, ⟨.int .u8 7, .agg #[.func (.func 41) #[] #[], .func (.func 42) #[] #[]], 11⟩, ⟨.int .u8 8, .agg #[.func (.func 41) #[] #[], .func (.func 42) #[] #[]], 12⟩, ⟨.int .u8 11, .agg #[.func (.func 41) #[] #[], .func (.func 42) #[] #[]], 13⟩, ⟨.int .u8 12, .agg #[.func (.func 41) #[] #[], .func (.func 42) #[] #[]], 14⟩, ⟨.int .u8 17, .agg #[.func (.func 41) #[] #[], .func (.func 42) #[] #[]], 15⟩, ⟨.int .u8 20, .agg #[.func (.func 43) #[] #[], .func (.func 44) #[] #[]], 16⟩, ⟨.int .u8 21, .agg #[.func (.func 43) #[] #[], .func (.func 44) #[] #[]], 17⟩, ⟨.int .u8 43, .agg #[.func (.func 45) #[] #[], .func (.func 46) #[] #[]], 18⟩] : Array MapEntry).toList 0 = some (some (i, .agg #[.func (.func 45) #[] #[], .func (.func 46) #[] #[]])) := by
   rcases hk with rfl
   · exact ⟨18, by kernel_rfl⟩
 refine L0 <| Olk (hf := hix) B176 x (.agg #[.nilFunc, .nilFunc]) (some (ix, .agg #[.func (.func 45) #[] #[], .func (.func 46) #[] #[]])) <| Pl 3 <| L0 <| Oal #[.nilFunc, .nilFunc] fun g382 w383 hg384 B385 hu386 => L0 <| Osw B385 #[.func (.func 45) #[] #[], .func (.func 46) #[] #[]] fun w387 B388 hu389 => Pl 1 <| ng <| L0 <| Olw B388 <| Pl 1 <| ?_
 have U390 := ut0 hu19 hu24
 have U391 := u1 U390 hu28 (nr hg17)
 have U392 := u1 U391 hu33 (ni hu19.size hg22)
 have U393 := ut0 U392 hu38
 have U394 := ut0 U393 hu43
 have U395 := u1 U394 hu47 (ni U392.size hg36)
 have U396 := u1 U395 hu52 (ni U393.size hg41)
 have U397 := ut0 U396 hu57
 have U398 := u1 U397 hu66 (ni U396.size hg55)
 have U399 := u1 U398 hu71 (ni U396.size hg55)
 have U400 := u1 U399 hu75 (ni U396.size hg55)
 have U401 := u1 U400 hu79 (ni U396.size hg55)
 have U402 := u1 U401 hu91 (ni U396.size hg55)
 have U403 := u1 U402 hu96 (ni U396.size hg55)
 have U404 := u1 U403 hu100 (ni U396.size hg55)
 have U405 := u1 U404 hu104 (ni U396.size hg55)
 have U406 := u1 U405 hu108 (ni U396.size hg55)
 have U407 := u1 U406 hu112 (ni U396.size hg55)
 have U408 := u1 U407 hu116 (ni U396.size hg55)
 have U409 := u1 U408 hu132 (ni U396.size hg55)
 have U410 := u1 U409 hu137 (ni U396.size hg55)
 have U411 := u1 U410 hu141 (ni U396.size hg55)
 have U412 := u1 U411 hu145 (ni U396.size hg55)
 have U413 := u1 U412 hu149 (ni U396.size hg55)
 have U414 := u1 U413 hu169 (ni U396.size hg55)
 have U415 := u1 U414 hu174 (ni U396.size hg55)
 have U416 := u1 U415 hu177 (ni U396.size hg55)
 have U417 := ut0 U416 hu386
 have U418 := u1 U417 hu389 (ni U416.size hg384)
 have r419 := ub U418 B13
 refine L0 <| Osw r419 #[.func (.func 45) #[] #[], .func (.func 46) #[] #[]] fun w420 B421 hu422 => Pl 1 <| nt <| rt <| rct B421 (.bool true) <| ?_
 rw [hkf]
 have U423 := ut0 U205 hu386
 have U424 := u1 U423 hu389 (ni U205.size hg384)
 have U425 := u1 U424 hu422 (nr hg12)
 exact ⟨rfl, U425⟩
 refine L0 <| Olk (hf := (findNow_no _ _ (by intro e he; simp only [List.mem_cons, List.not_mem_nil, or_false] at he; obtain ⟨z1, z2, z5, z15, z3, z4, z6, z16, z22, z23, z24, z7, z8, z11, z12, z17, z20, z21, z43⟩ := hk; rcases he with rfl | rfl | rfl | rfl | rfl | rfl | rfl | rfl | rfl | rfl | rfl | rfl | rfl | rfl | rfl | rfl | rfl | rfl | rfl <;> exact ⟨_, rfl, fun h => by omega⟩))) B176 x (.agg #[.nilFunc, .nilFunc]) none <| Pl 3 <| L0 <| Oal #[.nilFunc, .nilFunc] fun g426 w427 hg428 B429 hu430 => L0 <| Osw B429 #[.nilFunc, .nilFunc] fun w431 B432 hu433 => Pl 1 <| ng <| L0 <| Olw B432 <| Pl 1 <| ?_
 have U434 := ut0 hu19 hu24
 have U435 := u1 U434 hu28 (nr hg17)
 have U436 := u1 U435 hu33 (ni hu19.size hg22)
 have U437 := ut0 U436 hu38
 have U438 := ut0 U437 hu43
 have U439 := u1 U438 hu47 (ni U436.size hg36)
 have U440 := u1 U439 hu52 (ni U437.size hg41)
 have U441 := ut0 U440 hu57
 have U442 := u1 U441 hu66 (ni U440.size hg55)
 have U443 := u1 U442 hu71 (ni U440.size hg55)
 have U444 := u1 U443 hu75 (ni U440.size hg55)
 have U445 := u1 U444 hu79 (ni U440.size hg55)
 have U446 := u1 U445 hu91 (ni U440.size hg55)
 have U447 := u1 U446 hu96 (ni U440.size hg55)
 have U448 := u1 U447 hu100 (ni U440.size hg55)
 have U449 := u1 U448 hu104 (ni U440.size hg55)
 have U450 := u1 U449 hu108 (ni U440.size hg55)
 have U451 := u1 U450 hu112 (ni U440.size hg55)
 have U452 := u1 U451 hu116 (ni U440.size hg55)
 have U453 := u1 U452 hu132 (ni U440.size hg55)
 have U454 := u1 U453 hu137 (ni U440.size hg55)
 have U455 := u1 U454 hu141 (ni U440.size hg55)
 have U456 := u1 U455 hu145 (ni U440.size hg55)
 have U457 := u1 U456 hu149 (ni U440.size hg55)
 have U458 := u1 U457 hu169 (ni U440.size hg55)
 have U459 := u1 U458 hu174 (ni U440.size hg55)
 have U460 := u1 U459 hu177 (ni U440.size hg55)
 have U461 := ut0 U460 hu430
 have U462 := u1 U461 hu433 (ni U460.size hg428)
 have r463 := ub U462 B13
 refine L0 <| Osw r463 #[.nilFunc, .nilFunc] fun w464 B465 hu466 => Pl 1 <| nt <| rt <| rct B465 (.bool false) <| ?_
 rw [hkf]
 have U467 := ut0 U205 hu430
 have U468 := u1 U467 hu433 (ni U205.size hg428)
 have U469 := u1 U468 hu466 (nr hg12)
 exact ⟨rfl, U469⟩
theorem run_pairneq {ev : Operand → Value} {o : Oper} {x y : Operand} {t : TypeId} {a b : Int} {w : World} (ho : o.op = .binOp .neq 78 x y t)
    (hx : ev x = .agg #[.int .u8 a, .int .u8 b]) (hy : ev y = .agg #[.int .u8 0, .int .u8 0]) : (execOp ev o).run Try.prog w = .ok (.value (.bool ((a != 0) || (b != 0)))) w := by
  unfold execOp
  rw [ho]
  simp only [hx, hy]
  cases a with
  | ofNat a =>
    cases a with
    | zero =>
      cases b with
      | ofNat b =>
        cases b with
        | zero => kernel_rfl
        | succ b => kernel_rfl
      | negSucc b => kernel_rfl
    | succ a => kernel_rfl
  | negSucc a => kernel_rfl
def refM (a b : Int) : Msg := { Msg.zero with code := a, fail := b }
def pairB (a b : Int) : Bool := (((a != 0) || (b != 0)) && publicB a) && failureB b
set_option maxRecDepth 100000 in
set_option maxHeartbeats 4000000 in
theorem pairof_any {a b : Int} {w : World} : Calls Try.prog 36 #[.agg #[.int .u8 a, .int .u8 b]] w (PVal (.agg #[.int .u8 a, .int .u8 b, .int .u16 0, .int .u16 0, .int .u16 0, .int .u16 0, .int .u16 0, .int .u16 0, .int .u16 0, .int .u16 0, .int .u16 0, .int .u16 0, .slice none 0 0, .slice none 0 0, .slice none 0 0, .slice none 0 0, .int .u8 0, .int .u8 0, .int .u8 0, .int .u8 0, .int .u8 0, .slice none 0 0]) w) := by
 refine en 8 Try.func36 rfl <| sg <| L0 <| Obx #[.int .u8 a, .int .u8 b] fun g10 w11 hg12 B13 hu14 => L0 <| Oal mZ fun g15 w16 hg17 B18 hu19 => ng <| Pl 1 <| ?_
 have r20 := ub hu19 B13
 refine L0 <| Olb r20 0 <| Pl 1 <| L0 <| Olb r20 1 <| Pl 1 <| L0 <| Osw B18 (mG a b 0 0 0 0 0 0 0 0 0 0 nS nS nS nS 0 0 0 0 0 nS) fun w21 B22 hu23 => nt <| rt <| rc1 B22 <| ?_
 have U24 := ut0 hu14 hu19
 have U25 := u1 U24 hu23 (ni hu14.size hg17)
 exact ⟨rfl, U25⟩
set_option maxRecDepth 100000 in
set_option maxHeartbeats 4000000 in
theorem right_any {a b : Int} {w : World} : Calls Try.prog 47 #[.agg #[.int .u8 a, .int .u8 b]] w (PVal (.bool (pairB a b)) w) := by
 refine en 16 Try.func47 rfl <| sg <| L0 <| Obx #[.int .u8 a, .int .u8 b] fun g10 w11 hg12 B13 hu14 => Pl 1 <| ng <| L0 <| Olw B13 <| Pl 1 <| L0 <| Or_ (.bool ((a != 0) || (b != 0))) (run_pairneq rfl (by kernel_rfl) (by kernel_rfl)) <| Pl 1 <| bl 6 (((a != 0) || (b != 0))) (fun q15 => ?_) (fun q15 => ?_)
 refine Pl 1 <| L1 <| Olb B13 0 <| L1 <| Oc <| m1 (public_any (x := a) (w := _)) fun w16 hu17 => Pl 2 <| ?_
 have U18 := ut0 hu14 hu17
 refine bl 11 ((publicB a)) (fun q19 => ?_) (fun q19 => ?_)
 refine Pl 1 <| ?_
 have r20 := ub hu17 B13
 refine L1 <| Olb r20 1 <| L1 <| Oc <| m1 (failure_any (x := b) (w := _)) fun w21 hu22 => Pl 2 <| nt <| rt <| rr (.bool (failureB b)) <| ?_
 have hs : pairB a b = (failureB b) := by
   unfold pairB
   (try simp only [q15, q19, bs, if_true, if_false, decide_true, decide_false])
   done
 rw [hs]
 have U23 := ut0 U18 hu22
 exact ⟨rfl, U23⟩
 refine Pl 5 <| nt <| rt <| rr (.bool false) <| ?_
 have hs : pairB a b = false := by
   unfold pairB
   (try simp only [q15, q19, bs, if_true, if_false, decide_true, decide_false])
   done
 rw [hs]
 exact ⟨rfl, U18⟩
 have q15a := (or_f q15).1
 have q15b := (or_f q15).2
 have q15ap := eq_of_bnei q15a
 have q15bp := eq_of_bnei q15b
 refine Pl 10 <| nt <| rt <| rr (.bool false) <| ?_
 have hs : pairB a b = false := by
   unfold pairB
   (try simp only [q15, q15a, q15b, bs, if_true, if_false, decide_true, decide_false])
   done
 rw [hs]
 exact ⟨rfl, hu14⟩
def refP (b : List Int) : Msg × Int :=
  if (b.length : Int) == 0 then (Msg.zero, 2)
  else if decide (b.getD 0 0 < 128) then (Msg.zero, 4)
  else if !(publicB ((b.getD 0 0 - 128) % 256)) then (Msg.zero, 4)
  else if (b.length : Int) == 1 then (Msg.zero, 2)
  else if !(failureB (b.getD 1 0)) then (Msg.zero, 6)
  else if decide (2 < (b.length : Int)) then (Msg.zero, 3)
  else (refM ((b.getD 0 0 - 128) % 256) (b.getD 1 0), 0)
set_option maxRecDepth 100000 in
set_option maxHeartbeats 4000000 in
theorem ref_parse0 {m : Bool} {A : Option Addr} {cp : Nat} {b : List Int} {w : World} (hsl : RdB m w (.slice A b.length cp) b) (hb : b.length ≤ 1048576) :
    Calls Try.prog 23 #[.slice A b.length cp] w (PMsg (refP b) w) := by
 have hln : (b.length : Int) ≤ 1048576 := by omega
 refine en 49 Try.func23 rfl <| sg <| L0 <| Oal mZ fun g10 w11 hg12 B13 hu14 => Pl 1 <| nt <| sq <| bk <| sg <| Pl 4 <| nt <| ?_
 refine cb ((((b.length : Nat) : Int) == 0)) (fun q15 => ?_) (fun q15 => ?_)
 have q15p := eq_of_beqi q15
 refine sg <| Pl 1 <| L0 <| Osw B13 mZ fun w16 B17 hu18 => Pl 1 <| nt <| rt <| br <| tr <| rct B17 (.int .i64 2) <| ?_
 have hs : refP b = (Msg.zero, 2) := by
   unfold refP
   (try simp only [q15, bs, if_true, if_false, decide_true, decide_false, Bool.not_eq_true, reduceIte])
   all_goals rfl
 rw [hs]
 have U19 := u1 hu14 hu18 (nr hg12)
 exact bad_res U19
 have q15p := ne_of_beqi q15
 refine sg <| Pl 1 <| ?_
 have r20 := RdB.old hsl hu14
 refine x23 (RdB.at_ r20 0 (by omega)) fun b21 o22 hA23 hl24 hr25 => L0 <| Oix b.length 0 hA23 (by omega) <| L0 <| Old (p := ⟨b21, o22 + 0, none⟩) (v := .int .u8 (b.getD 0 0)) hl24 <| Pl 2 <| bl 14 ((decide ((b.getD 0 0) < 128))) (fun q26 => ?_) (fun q26 => ?_)
 have q26p := of_decide_eq_true q26
 refine Pl 8 <| nt <| c1 <| sg <| Pl 1 <| L0 <| Osw B13 mZ fun w27 B28 hu29 => Pl 1 <| nt <| rt <| br <| tr <| ?_
 refine rct B28 (.int .i64 4) <| ?_
 have hs : refP b = (Msg.zero, 4) := by
   unfold refP
   (try simp only [q15, q26, bs, if_true, if_false, decide_true, decide_false, Bool.not_eq_true, reduceIte])
   all_goals rfl
 rw [hs]
 have U30 := u1 hu14 hu29 (nr hg12)
 exact bad_res U30
 have q26p := of_decide_eq_false q26
 refine Pl 1 <| x23 (RdB.at_ r20 0 (by omega)) fun b31 o32 hA33 hl34 hr35 => L1 <| Oix b.length 0 hA33 (by omega) <| L1 <| Old (p := ⟨b31, o32 + 0, none⟩) (v := .int .u8 (b.getD 0 0)) hl34 <| Pl 1 <| L1 <| Oc <| m1 (public_any (x := (((b.getD 0 0) - 128) % 256)) (w := _)) fun w36 hu37 => Pl 3 <| nt <| ?_
 have U38 := ut0 hu14 hu37
 refine cb ((!(publicB (((b.getD 0 0) - 128) % 256)))) (fun q39 => ?_) (fun q39 => ?_)
 have q39n : (publicB (((b.getD 0 0) - 128) % 256)) = false := by simpa using q39
 refine sg <| Pl 1 <| ?_
 have r40 := ub hu37 B13
 refine L0 <| Osw r40 mZ fun w41 B42 hu43 => Pl 1 <| nt <| rt <| br <| tr <| rct B42 (.int .i64 4) <| ?_
 have hs : refP b = (Msg.zero, 4) := by
   unfold refP
   (try simp only [q15, q26, q39, q39n, bs, if_true, if_false, decide_true, decide_false, Bool.not_eq_true, reduceIte])
   all_goals rfl
 rw [hs]
 have U44 := u1 U38 hu43 (nr hg12)
 exact bad_res U44
 have q39n : (publicB (((b.getD 0 0) - 128) % 256)) = true := by simpa using q39
 refine sg <| Pl 4 <| nt <| cb ((((b.length : Nat) : Int) == 1)) (fun q45 => ?_) (fun q45 => ?_)
 have q45p := eq_of_beqi q45
 refine sg <| Pl 1 <| ?_
 have r46 := ub hu37 B13
 refine L0 <| Osw r46 mZ fun w47 B48 hu49 => Pl 1 <| nt <| rt <| br <| tr <| rct B48 (.int .i64 2) <| ?_
 have hs : refP b = (Msg.zero, 2) := by
   unfold refP
   (try simp only [q15, q26, q39, q39n, q45, bs, if_true, if_false, decide_true, decide_false, Bool.not_eq_true, reduceIte])
   all_goals rfl
 rw [hs]
 have U50 := u1 U38 hu49 (nr hg12)
 exact bad_res U50
 have q45p := ne_of_beqi q45
 refine sg <| Pl 1 <| ?_
 have r51 := RdB.old r20 hu37
 refine x23 (RdB.at_ r51 1 (by omega)) fun b52 o53 hA54 hl55 hr56 => L0 <| Oix b.length 1 hA54 (by omega) <| L0 <| Old (p := ⟨b52, o53 + 1, none⟩) (v := .int .u8 (b.getD 1 0)) hl55 <| L0 <| Oc <| m1 (failure_any (x := (b.getD 1 0)) (w := _)) fun w57 hu58 => Pl 2 <| nt <| ?_
 have U59 := ut0 U38 hu58
 refine cb ((!(failureB (b.getD 1 0)))) (fun q60 => ?_) (fun q60 => ?_)
 have q60n : (failureB (b.getD 1 0)) = false := by simpa using q60
 refine sg <| Pl 1 <| ?_
 have U61 := ut0 hu37 hu58
 have r62 := ub U61 B13
 refine L0 <| Osw r62 mZ fun w63 B64 hu65 => Pl 1 <| nt <| rt <| br <| tr <| rct B64 (.int .i64 6) <| ?_
 have hs : refP b = (Msg.zero, 6) := by
   unfold refP
   (try simp only [q15, q26, q39, q39n, q45, q60, q60n, bs, if_true, if_false, decide_true, decide_false, Bool.not_eq_true, reduceIte])
   all_goals rfl
 rw [hs]
 have U66 := u1 U59 hu65 (nr hg12)
 exact bad_res U66
 have q60n : (failureB (b.getD 1 0)) = true := by simpa using q60
 refine sg <| Pl 4 <| nt <| cb ((decide (2 < ((b.length : Nat) : Int)))) (fun q67 => ?_) (fun q67 => ?_)
 have q67p := of_decide_eq_true q67
 refine sg <| Pl 1 <| ?_
 have U68 := ut0 hu37 hu58
 have r69 := ub U68 B13
 refine L0 <| Osw r69 mZ fun w70 B71 hu72 => Pl 1 <| nt <| rt <| br <| tr <| rct B71 (.int .i64 3) <| ?_
 have hs : refP b = (Msg.zero, 3) := by
   unfold refP
   (try simp only [q15, q26, q39, q39n, q45, q60, q60n, q67, bs, if_true, if_false, decide_true, decide_false, Bool.not_eq_true, reduceIte])
   all_goals rfl
 rw [hs]
 have U73 := u1 U59 hu72 (nr hg12)
 exact bad_res U73
 have q67p := of_decide_eq_false q67
 refine sk <| bn <| tn <| sq <| Rg 11 (fun w' => True) fun w154 hu155 => hld trivial fun hS156 => Rt 0 hS156 <| Rt 4 hS156 <| ?_
 refine R2 1 5 rfl rfl ?_ ?_
 have U157 := ut0 hu58 hu155
 have r158 := RdB.old r51 U157
 refine x23 (RdB.at_ r158 0 (by omega)) fun b159 o160 hA161 hl162 hr163 =>  Oix b.length 0 hA161 (by omega) <| hld trivial fun hS164 => ?_
 refine R2 2 5 rfl rfl ?_ ?_
 refine  Old (p := ⟨b159, o160 + 0, none⟩) (v := .int .u8 (b.getD 0 0)) hl162 <| hld trivial fun hS165 => Rt 3 hS165 <| x23 (RdB.at_ r158 1 (by omega)) fun b166 o167 hA168 hl169 hr170 => R0 5 rfl <| Oix b.length 1 hA168 (by omega) <| hld trivial fun hS171 => R0 6 rfl <| Old (p := ⟨b166, o167 + 1, none⟩) (v := .int .u8 (b.getD 1 0)) hl169 <| hld trivial fun hS172 => Rt 7 hS172 <| R0 8 rfl <| Oc <| m1 (pairof_any (a := (((b.getD 0 0) - 128) % 256)) (b := (b.getD 1 0)) (w := _)) fun w173 hu174 => hld trivial fun hS175 => ?_
 have U176 := ut0 hu37 hu58
 have U177 := ut0 U176 hu155
 have U178 := ut0 U177 hu174
 have r179 := ub U178 B13
 refine R0 9 rfl <| Osw r179 (mG (((b.getD 0 0) - 128) % 256) (b.getD 1 0) 0 0 0 0 0 0 0 0 0 0 nS nS nS nS 0 0 0 0 0 nS) fun w180 B181 hu182 => hld trivial fun hS183 => Rt 10 hS183 <| re <| tn <| rt <| rct B181 (.int .i64 0) <| ?_
 have hs : refP b = ((Msg.mk (((b.getD 0 0) - 128) % 256) (b.getD 1 0) 0 0 0 0 0 0 0 0 0 0 [] [] [] [] 0 0 0 0 0 []), 0) := by
   unfold refP
   (try simp only [q15, q26, q39, q39n, q45, q60, q60n, q67, bs, if_true, if_false, decide_true, decide_false, Bool.not_eq_true, reduceIte])
   all_goals rfl
 rw [hs]
 have U184 := ut0 U59 hu155
 have U185 := ut0 U184 hu174
 have U186 := u1 U185 hu182 (nr hg12)
 exact ⟨_, rfl, ⟨_, _, _, _, _, rfl, RdG.nil .., RdG.nil .., RdG.nil .., RdG.nil .., RdG.nil .., ⟨(b8 (x := (((b.getD 0 0) - 128) % 256)) (by omega)), (b8 (x := (b.getD 1 0)) (by omega)), (b16 (x := 0) (by omega)), (b16 (x := 0) (by omega)), (b16 (x := 0) (by omega)), (b16 (x := 0) (by omega)), (b16 (x := 0) (by omega)), (b16 (x := 0) (by omega)), (b16 (x := 0) (by omega)), (b16 (x := 0) (by omega)), (b16 (x := 0) (by omega)), (b16 (x := 0) (by omega)), (b8 (x := 0) (by omega)), (b8 (x := 0) (by omega)), (b8 (x := 0) (by omega)), (b8 (x := 0) (by omega)), (b8 (x := 0) (by omega))⟩⟩, U186⟩
 refine x23 (RdB.at_ r158 1 (by omega)) fun b187 o188 hA189 hl190 hr191 =>  Oix b.length 1 hA189 (by omega) <| hld trivial fun hS192 => ?_
 refine R2 2 6 rfl rfl ?_ ?_
 refine  Old (p := ⟨b159, o160 + 0, none⟩) (v := .int .u8 (b.getD 0 0)) hl162 <| hld trivial fun hS193 => Rt 3 hS193 <| R0 6 rfl <| Old (p := ⟨b187, o188 + 1, none⟩) (v := .int .u8 (b.getD 1 0)) hl190 <| hld trivial fun hS194 => Rt 7 hS194 <| R0 8 rfl <| Oc <| m1 (pairof_any (a := (((b.getD 0 0) - 128) % 256)) (b := (b.getD 1 0)) (w := _)) fun w195 hu196 => hld trivial fun hS197 => ?_
 have U198 := ut0 hu37 hu58
 have U199 := ut0 U198 hu155
 have U200 := ut0 U199 hu196
 have r201 := ub U200 B13
 refine R0 9 rfl <| Osw r201 (mG (((b.getD 0 0) - 128) % 256) (b.getD 1 0) 0 0 0 0 0 0 0 0 0 0 nS nS nS nS 0 0 0 0 0 nS) fun w202 B203 hu204 => hld trivial fun hS205 => Rt 10 hS205 <| re <| tn <| rt <| rct B203 (.int .i64 0) <| ?_
 have hs : refP b = ((Msg.mk (((b.getD 0 0) - 128) % 256) (b.getD 1 0) 0 0 0 0 0 0 0 0 0 0 [] [] [] [] 0 0 0 0 0 []), 0) := by
   unfold refP
   (try simp only [q15, q26, q39, q39n, q45, q60, q60n, q67, bs, if_true, if_false, decide_true, decide_false, Bool.not_eq_true, reduceIte])
   all_goals rfl
 rw [hs]
 have U206 := ut0 U59 hu155
 have U207 := ut0 U206 hu196
 have U208 := u1 U207 hu204 (nr hg12)
 exact ⟨_, rfl, ⟨_, _, _, _, _, rfl, RdG.nil .., RdG.nil .., RdG.nil .., RdG.nil .., RdG.nil .., ⟨(b8 (x := (((b.getD 0 0) - 128) % 256)) (by omega)), (b8 (x := (b.getD 1 0)) (by omega)), (b16 (x := 0) (by omega)), (b16 (x := 0) (by omega)), (b16 (x := 0) (by omega)), (b16 (x := 0) (by omega)), (b16 (x := 0) (by omega)), (b16 (x := 0) (by omega)), (b16 (x := 0) (by omega)), (b16 (x := 0) (by omega)), (b16 (x := 0) (by omega)), (b16 (x := 0) (by omega)), (b8 (x := 0) (by omega)), (b8 (x := 0) (by omega)), (b8 (x := 0) (by omega)), (b8 (x := 0) (by omega)), (b8 (x := 0) (by omega))⟩⟩, U208⟩
 refine  Old (p := ⟨b187, o188 + 1, none⟩) (v := .int .u8 (b.getD 1 0)) hl190 <| hld trivial fun hS209 => R0 2 rfl <| Old (p := ⟨b159, o160 + 0, none⟩) (v := .int .u8 (b.getD 0 0)) hl162 <| hld trivial fun hS210 => Rt 3 hS210 <| Rt 7 hS210 <| R0 8 rfl <| Oc <| m1 (pairof_any (a := (((b.getD 0 0) - 128) % 256)) (b := (b.getD 1 0)) (w := _)) fun w211 hu212 => hld trivial fun hS213 => ?_
 have U214 := ut0 hu37 hu58
 have U215 := ut0 U214 hu155
 have U216 := ut0 U215 hu212
 have r217 := ub U216 B13
 refine R0 9 rfl <| Osw r217 (mG (((b.getD 0 0) - 128) % 256) (b.getD 1 0) 0 0 0 0 0 0 0 0 0 0 nS nS nS nS 0 0 0 0 0 nS) fun w218 B219 hu220 => hld trivial fun hS221 => Rt 10 hS221 <| re <| tn <| rt <| rct B219 (.int .i64 0) <| ?_
 have hs : refP b = ((Msg.mk (((b.getD 0 0) - 128) % 256) (b.getD 1 0) 0 0 0 0 0 0 0 0 0 0 [] [] [] [] 0 0 0 0 0 []), 0) := by
   unfold refP
   (try simp only [q15, q26, q39, q39n, q45, q60, q60n, q67, bs, if_true, if_false, decide_true, decide_false, Bool.not_eq_true, reduceIte])
   all_goals rfl
 rw [hs]
 have U222 := ut0 U59 hu155
 have U223 := ut0 U222 hu212
 have U224 := u1 U223 hu220 (nr hg12)
 exact ⟨_, rfl, ⟨_, _, _, _, _, rfl, RdG.nil .., RdG.nil .., RdG.nil .., RdG.nil .., RdG.nil .., ⟨(b8 (x := (((b.getD 0 0) - 128) % 256)) (by omega)), (b8 (x := (b.getD 1 0)) (by omega)), (b16 (x := 0) (by omega)), (b16 (x := 0) (by omega)), (b16 (x := 0) (by omega)), (b16 (x := 0) (by omega)), (b16 (x := 0) (by omega)), (b16 (x := 0) (by omega)), (b16 (x := 0) (by omega)), (b16 (x := 0) (by omega)), (b16 (x := 0) (by omega)), (b16 (x := 0) (by omega)), (b8 (x := 0) (by omega)), (b8 (x := 0) (by omega)), (b8 (x := 0) (by omega)), (b8 (x := 0) (by omega)), (b8 (x := 0) (by omega))⟩⟩, U224⟩
 have U225 := ut0 hu58 hu155
 have r226 := RdB.old r51 U225
 refine x23 (RdB.at_ r226 1 (by omega)) fun b227 o228 hA229 hl230 hr231 =>  Oix b.length 1 hA229 (by omega) <| hld trivial fun hS232 => ?_
 refine R2 1 6 rfl rfl ?_ ?_
 refine x23 (RdB.at_ r226 0 (by omega)) fun b233 o234 hA235 hl236 hr237 =>  Oix b.length 0 hA235 (by omega) <| hld trivial fun hS238 => ?_
 refine R2 2 6 rfl rfl ?_ ?_
 refine  Old (p := ⟨b233, o234 + 0, none⟩) (v := .int .u8 (b.getD 0 0)) hl236 <| hld trivial fun hS239 => Rt 3 hS239 <| R0 6 rfl <| Old (p := ⟨b227, o228 + 1, none⟩) (v := .int .u8 (b.getD 1 0)) hl230 <| hld trivial fun hS240 => Rt 7 hS240 <| R0 8 rfl <| Oc <| m1 (pairof_any (a := (((b.getD 0 0) - 128) % 256)) (b := (b.getD 1 0)) (w := _)) fun w241 hu242 => hld trivial fun hS243 => ?_
 have U244 := ut0 hu37 hu58
 have U245 := ut0 U244 hu155
 have U246 := ut0 U245 hu242
 have r247 := ub U246 B13
 refine R0 9 rfl <| Osw r247 (mG (((b.getD 0 0) - 128) % 256) (b.getD 1 0) 0 0 0 0 0 0 0 0 0 0 nS nS nS nS 0 0 0 0 0 nS) fun w248 B249 hu250 => hld trivial fun hS251 => Rt 10 hS251 <| re <| tn <| rt <| rct B249 (.int .i64 0) <| ?_
 have hs : refP b = ((Msg.mk (((b.getD 0 0) - 128) % 256) (b.getD 1 0) 0 0 0 0 0 0 0 0 0 0 [] [] [] [] 0 0 0 0 0 []), 0) := by
   unfold refP
   (try simp only [q15, q26, q39, q39n, q45, q60, q60n, q67, bs, if_true, if_false, decide_true, decide_false, Bool.not_eq_true, reduceIte])
   all_goals rfl
 rw [hs]
 have U252 := ut0 U59 hu155
 have U253 := ut0 U252 hu242
 have U254 := u1 U253 hu250 (nr hg12)
 exact ⟨_, rfl, ⟨_, _, _, _, _, rfl, RdG.nil .., RdG.nil .., RdG.nil .., RdG.nil .., RdG.nil .., ⟨(b8 (x := (((b.getD 0 0) - 128) % 256)) (by omega)), (b8 (x := (b.getD 1 0)) (by omega)), (b16 (x := 0) (by omega)), (b16 (x := 0) (by omega)), (b16 (x := 0) (by omega)), (b16 (x := 0) (by omega)), (b16 (x := 0) (by omega)), (b16 (x := 0) (by omega)), (b16 (x := 0) (by omega)), (b16 (x := 0) (by omega)), (b16 (x := 0) (by omega)), (b16 (x := 0) (by omega)), (b8 (x := 0) (by omega)), (b8 (x := 0) (by omega)), (b8 (x := 0) (by omega)), (b8 (x := 0) (by omega)), (b8 (x := 0) (by omega))⟩⟩, U254⟩
 refine  Old (p := ⟨b227, o228 + 1, none⟩) (v := .int .u8 (b.getD 1 0)) hl230 <| hld trivial fun hS255 => R0 2 rfl <| Old (p := ⟨b233, o234 + 0, none⟩) (v := .int .u8 (b.getD 0 0)) hl236 <| hld trivial fun hS256 => Rt 3 hS256 <| Rt 7 hS256 <| R0 8 rfl <| Oc <| m1 (pairof_any (a := (((b.getD 0 0) - 128) % 256)) (b := (b.getD 1 0)) (w := _)) fun w257 hu258 => hld trivial fun hS259 => ?_
 have U260 := ut0 hu37 hu58
 have U261 := ut0 U260 hu155
 have U262 := ut0 U261 hu258
 have r263 := ub U262 B13
 refine R0 9 rfl <| Osw r263 (mG (((b.getD 0 0) - 128) % 256) (b.getD 1 0) 0 0 0 0 0 0 0 0 0 0 nS nS nS nS 0 0 0 0 0 nS) fun w264 B265 hu266 => hld trivial fun hS267 => Rt 10 hS267 <| re <| tn <| rt <| rct B265 (.int .i64 0) <| ?_
 have hs : refP b = ((Msg.mk (((b.getD 0 0) - 128) % 256) (b.getD 1 0) 0 0 0 0 0 0 0 0 0 0 [] [] [] [] 0 0 0 0 0 []), 0) := by
   unfold refP
   (try simp only [q15, q26, q39, q39n, q45, q60, q60n, q67, bs, if_true, if_false, decide_true, decide_false, Bool.not_eq_true, reduceIte])
   all_goals rfl
 rw [hs]
 have U268 := ut0 U59 hu155
 have U269 := ut0 U268 hu258
 have U270 := u1 U269 hu266 (nr hg12)
 exact ⟨_, rfl, ⟨_, _, _, _, _, rfl, RdG.nil .., RdG.nil .., RdG.nil .., RdG.nil .., RdG.nil .., ⟨(b8 (x := (((b.getD 0 0) - 128) % 256)) (by omega)), (b8 (x := (b.getD 1 0)) (by omega)), (b16 (x := 0) (by omega)), (b16 (x := 0) (by omega)), (b16 (x := 0) (by omega)), (b16 (x := 0) (by omega)), (b16 (x := 0) (by omega)), (b16 (x := 0) (by omega)), (b16 (x := 0) (by omega)), (b16 (x := 0) (by omega)), (b16 (x := 0) (by omega)), (b16 (x := 0) (by omega)), (b8 (x := 0) (by omega)), (b8 (x := 0) (by omega)), (b8 (x := 0) (by omega)), (b8 (x := 0) (by omega)), (b8 (x := 0) (by omega))⟩⟩, U270⟩
 refine  Old (p := ⟨b227, o228 + 1, none⟩) (v := .int .u8 (b.getD 1 0)) hl230 <| hld trivial fun hS271 => x23 (RdB.at_ r226 0 (by omega)) fun b272 o273 hA274 hl275 hr276 => R0 1 rfl <| Oix b.length 0 hA274 (by omega) <| hld trivial fun hS277 => R0 2 rfl <| Old (p := ⟨b272, o273 + 0, none⟩) (v := .int .u8 (b.getD 0 0)) hl275 <| hld trivial fun hS278 => Rt 3 hS278 <| Rt 7 hS278 <| R0 8 rfl <| Oc <| m1 (pairof_any (a := (((b.getD 0 0) - 128) % 256)) (b := (b.getD 1 0)) (w := _)) fun w279 hu280 => hld trivial fun hS281 => ?_
 have U282 := ut0 hu37 hu58
 have U283 := ut0 U282 hu155
 have U284 := ut0 U283 hu280
 have r285 := ub U284 B13
 refine R0 9 rfl <| Osw r285 (mG (((b.getD 0 0) - 128) % 256) (b.getD 1 0) 0 0 0 0 0 0 0 0 0 0 nS nS nS nS 0 0 0 0 0 nS) fun w286 B287 hu288 => hld trivial fun hS289 => Rt 10 hS289 <| re <| tn <| rt <| rct B287 (.int .i64 0) <| ?_
 have hs : refP b = ((Msg.mk (((b.getD 0 0) - 128) % 256) (b.getD 1 0) 0 0 0 0 0 0 0 0 0 0 [] [] [] [] 0 0 0 0 0 []), 0) := by
   unfold refP
   (try simp only [q15, q26, q39, q39n, q45, q60, q60n, q67, bs, if_true, if_false, decide_true, decide_false, Bool.not_eq_true, reduceIte])
   all_goals rfl
 rw [hs]
 have U290 := ut0 U59 hu155
 have U291 := ut0 U290 hu280
 have U292 := u1 U291 hu288 (nr hg12)
 exact ⟨_, rfl, ⟨_, _, _, _, _, rfl, RdG.nil .., RdG.nil .., RdG.nil .., RdG.nil .., RdG.nil .., ⟨(b8 (x := (((b.getD 0 0) - 128) % 256)) (by omega)), (b8 (x := (b.getD 1 0)) (by omega)), (b16 (x := 0) (by omega)), (b16 (x := 0) (by omega)), (b16 (x := 0) (by omega)), (b16 (x := 0) (by omega)), (b16 (x := 0) (by omega)), (b16 (x := 0) (by omega)), (b16 (x := 0) (by omega)), (b16 (x := 0) (by omega)), (b16 (x := 0) (by omega)), (b16 (x := 0) (by omega)), (b8 (x := 0) (by omega)), (b8 (x := 0) (by omega)), (b8 (x := 0) (by omega)), (b8 (x := 0) (by omega)), (b8 (x := 0) (by omega))⟩⟩, U292⟩
theorem ref_parse {m : Bool} {v : Value} {b : List Int} {w : World} (h : RdB m w v b) (hb : b.length ≤ 1048576) : Calls Try.prog 23 #[v] w (PMsg (refP b) w) := by
  obtain ⟨A, cp, rfl, _, _⟩ := h.shape
  exact ref_parse0 h hb
structure RegSt (w W : World) (bc bm g gm : Nat) (c : Cur) (cs : Array Value) : Prop where
  hc : CurAt W g c
  hm : MsgB W gm cs
  k0 : W.cell? ⟨bc, 0, none⟩ = some (.pointer (some ⟨g, 0, none⟩))
  k1 : W.cell? ⟨bm, 0, none⟩ = some (.pointer (some ⟨gm, 0, none⟩))
  cg : bc ≠ g
  cm : bc ≠ gm
  mg : bm ≠ g
  mm : bm ≠ gm
  ne : g ≠ gm
  u : Upd [g, gm] w W
theorem RegSt.self {w W : World} {bc bm g gm : Nat} {c : Cur} {cs : Array Value} (h : RegSt w W bc bm g gm c cs) : RegSt W W bc bm g gm c cs :=
  ⟨h.hc, h.hm, h.k0, h.k1, h.cg, h.cm, h.mg, h.mm, h.ne, Upd.refl _ _⟩
theorem RegSt.old {w W W' : World} {bc bm g gm : Nat} {c : Cur} {cs : Array Value} (h : RegSt w W bc bm g gm c cs) (hu : Upd [] W W') : RegSt w W' bc bm g gm c cs :=
  ⟨h.hc.old hu, h.hm.upd hu (by simp), hu.cell (by simp) h.k0, hu.cell (by simp) h.k1, h.cg, h.cm, h.mg, h.mm, h.ne, h.u.step hu⟩
theorem RegSt.drew {w W : World} {bc bm g gm : Nat} {c : Cur} {cs : Array Value} (h : RegSt w W bc bm g gm c cs) : RegSt w W.drew bc bm g gm c cs := h.old (Upd.refl [] W).drew
theorem RegSt.call {w W w1 : World} {bc bm g gm : Nat} {c c1 : Cur} {cs : Array Value} (h : RegSt w W bc bm g gm c cs) (hc1 : CurAt w1 g c1) (hu : Upd [g] W w1) : RegSt w w1 bc bm g gm c1 cs :=
  ⟨hc1, h.hm.upd hu (by simpa using h.ne.symm), hu.cell (by simpa using h.cg) h.k0, hu.cell (by simpa using h.mg) h.k1, h.cg, h.cm, h.mg, h.mm, h.ne, h.u.trans' hu fun x hx => by simp at hx; subst hx; simp⟩
theorem RegSt.store {w W : World} {bc bm g gm : Nat} {c : Cur} {cs : Array Value} (h : RegSt w W bc bm g gm c cs) (i : Nat) (u : Value) : RegSt w (W.setCell ⟨gm, i, none⟩ u) bc bm g gm c (cs.setIfInBounds i u) := by
  have hu : Upd [gm] W (W.setCell ⟨gm, i, none⟩ u) := (Upd.refl [gm] W).setCell (p := ⟨gm, i, none⟩) (.inl (by simp)) u
  exact ⟨h.hc.setMsg h.hm i u, h.hm.set i u, hu.cell (by simpa using h.cm) h.k0, hu.cell (by simpa using h.mm) h.k1, h.cg, h.cm, h.mg, h.mm, h.ne, h.u.trans' hu fun x hx => by simp at hx; subst hx; simp⟩
theorem RegSt.both {w W w1 : World} {bc bm g gm : Nat} {c c1 : Cur} {cs cs1 : Array Value} (h : RegSt w W bc bm g gm c cs) (hc1 : CurAt w1 g c1) (hm1 : MsgB w1 gm cs1) (hu : Upd [g, gm] W w1) : RegSt w w1 bc bm g gm c1 cs1 :=
  ⟨hc1, hm1, hu.cell (by simpa using ⟨h.cg, h.cm⟩) h.k0, hu.cell (by simpa using ⟨h.mg, h.mm⟩) h.k1, h.cg, h.cm, h.mg, h.mm, h.ne, h.u.trans hu⟩
theorem RegSt.post {w W : World} {bc bm g gm : Nat} {c : Cur} {cs : Array Value} (h : RegSt w W bc bm g gm c cs) : PForm g gm c cs w (.returned (.tuple #[])) W := ⟨rfl, h.hc, h.hm, h.u⟩
def rspanC (c : Cur) (a most : Int) : Cur := ((c.wordsC 1).need (decide (1 ≤ c.wordV) && decide (c.wordV ≤ most)) 5).need (within a c.wordV) 7
set_option maxRecDepth 100000 in
set_option maxHeartbeats 1000000 in
theorem rspan_any {g : Nat} {c : Cur} {w : World} {a most : Int} (hc : CurAt w g c) (ha : 0 ≤ a ∧ a < 65536) :
    Calls Try.prog 85 #[.pointer (some ⟨g, 0, none⟩), .int .u16 a, .int .i64 most] w (PByte g .i64 65536 c.wordV (rspanC c a most) w) := by
  have hr := hc.wordV
  have hpost : ∀ W, CurAt W g (rspanC c a most) → Upd [g] w W → PByte g .i64 65536 c.wordV (rspanC c a most) w (.returned (.int .i64 c.wordV)) W := fun W h1 h2 => ⟨rfl, h1, h2, hr⟩
  revert hpost
  generalize PByte g .i64 65536 c.wordV (rspanC c a most) w = P
  unfold rspanC
  intro hpost
  have hword := word_any hc
  revert hpost hword hr
  generalize c.wordV = n
  generalize c.wordsC 1 = c1
  intro hr hpost hword
  have hwn : IntKind.i64.wrap n = n := IntWalk.i64_in _ (by omega)
  replace hword := Lib.hid hword
  replace hpost := Lib.hid hpost
  by_cases h1 : 1 ≤ n
  · have hq : (decide (1 ≤ n) && decide (n ≤ most)) = decide (n ≤ most) := by simp [h1]
    rw [hq] at hpost
    clear hq
    go_enter Try.func85, Try.ntmps85
    have tok1_0 : True := trivial
    have tok1_1 : True := trivial
    have tok1_2 : True := trivial
    have tok1_3 : True := trivial
    go_wp2_with (first | (have _t := tok1_0; go_at_call 29; refine hword.out.mono ?_; rintro e w1 ⟨rfl, hc1, hu1, _⟩; clear _t tok1_0) | (have _t := tok1_1; go_at_call 51; refine (need_any _ 5 hc1).mono ?_; rintro e w2 ⟨rfl, hc2, hu2⟩; clear _t tok1_1) | (have _t := tok1_2; go_at_call 108; refine (within_any ha).mono ?_; rintro e w3 ⟨rfl, rfl⟩; clear _t tok1_2) | (have _t := tok1_3; go_at_call 51; refine (need_any _ 7 hc2).mono ?_; rintro e w4 ⟨rfl, hc4, hu4⟩; clear _t tok1_3))
    try go_ret
    exact hpost.out _ hc4 ((hu1.trans hu2).trans hu4)
  · obtain rfl : n = 0 := by omega
    have hq : (decide ((1 : Int) ≤ 0) && decide ((0 : Int) ≤ most)) = false := by simp
    rw [hq] at hpost
    clear hq h1
    go_enter Try.func85, Try.ntmps85
    have tok2_0 : True := trivial
    have tok2_1 : True := trivial
    have tok2_2 : True := trivial
    have tok2_3 : True := trivial
    go_wp2_with (first | (have _t := tok2_0; go_at_call 29; refine hword.out.mono ?_; rintro e w1 ⟨rfl, hc1, hu1, _⟩; clear _t tok2_0) | (have _t := tok2_1; go_at_call 51; refine (need_any _ 5 hc1).mono ?_; rintro e w2 ⟨rfl, hc2, hu2⟩; clear _t tok2_1) | (have _t := tok2_2; go_at_call 108; refine (within_any ha).mono ?_; rintro e w3 ⟨rfl, rfl⟩; clear _t tok2_2) | (have _t := tok2_3; go_at_call 51; refine (need_any _ 7 hc2).mono ?_; rintro e w4 ⟨rfl, hc4, hu4⟩; clear _t tok2_3))
    try go_ret
    exact hpost.out _ hc4 ((hu1.trans hu2).trans hu4)
def countedC1 (c : Cur) (n : Int) : Cur := (c.bytesC 1).need (c.byteV == 2 * n) 5
set_option maxRecDepth 100000 in
set_option maxHeartbeats 1000000 in
theorem counted_any {g : Nat} {c : Cur} {w : World} {n : Int} (hc : CurAt w g c) (hn : 0 ≤ n ∧ n < 65536) :
    Calls Try.prog 90 #[.pointer (some ⟨g, 0, none⟩), .int .i64 n] w (PWords g (countedC1 c n) n w) := by
  have hr := hc.byteV
  have hpost : ∀ W w1 v, CurAt W g ((countedC1 c n).wordsC n) → OwnW w1.heap.size W v ((countedC1 c n).wordsR n) → Upd [g] w w1 → Upd [g] w1 W → PWords g (countedC1 c n) n w (.returned v) W := fun W w1 v h1 h2 h3 h4 => ⟨v, rfl, OwnG.weaken h2 h3.size, h1, h3.trans h4⟩
  revert hpost
  generalize PWords g (countedC1 c n) n w = P
  unfold countedC1
  intro hpost
  have hbyte := byte_any hc
  revert hpost hbyte hr
  generalize c.byteV = k
  generalize c.bytesC 1 = c1
  intro hr hpost hbyte
  have hwk : IntKind.i64.wrap k = k := IntWalk.i64_in _ (by omega)
  have hwn : IntKind.i64.wrap (2 * n) = 2 * n := IntWalk.i64_in _ (by omega)
  replace hbyte := Lib.hid hbyte
  replace hpost := Lib.hid hpost
  go_enter Try.func90, Try.ntmps90
  have tok3_0 : True := trivial
  have tok3_1 : True := trivial
  have tok3_2 : True := trivial
  go_wp2_with (first | (have _t := tok3_0; go_at_call 30; refine hbyte.out.mono ?_; rintro e w1 ⟨rfl, hc1, hu1, _⟩; clear _t tok3_0) | (have _t := tok3_1; go_at_call 51; refine (need_any _ 5 hc1).mono ?_; rintro e w2 ⟨rfl, hc2, hu2⟩; clear _t tok3_1) | (have _t := tok3_2; go_at_call 50; refine (words_any hc2).mono ?_; rintro e w3 ⟨v, rfl, ho3, hc3, hu3⟩; clear _t tok3_2))
  try go_ret
  exact hpost.out _ _ _ hc3 ho3 (hu1.trans hu2) hu3
end Go.Proofs.Ytbaeecmamacphaa
