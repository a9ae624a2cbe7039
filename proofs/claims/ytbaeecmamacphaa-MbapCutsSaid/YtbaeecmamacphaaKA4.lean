/- Contracts of functions, part KA4. -/
import Derived.Test.YtbaeecmamacphaaKA1
import Derived.Test.YtbaeecmamacphaaKA2
import Derived.Test.YtbaeecmamacphaaKA3
set_option linter.unusedVariables false
set_option linter.unusedSimpArgs false
namespace Go.Proofs.Ytbaeecmamacphaa
open Go.RowKit
def mayA (n : Int) : Bool := (decide (7 ≤ n) && decide (n ≤ 245)) && n % 7 == 0
def mayT (n : Int) : Bool := decide (4 ≤ n) && decide (n ≤ 245)
def mayW (n : Int) : Bool := decide (9 ≤ n) && decide (n ≤ 251)
def fl1 (may : Int → Bool) (C : Cur) : Cur := (C.bytesC 1).need (may C.byteV) 5
def flB (may : Int → Bool) (C : Cur) : Cur := ⟨(fl1 may C).bytesR C.byteV, false, 0⟩
def flR (one : Int → Cur → Int × Cur × Rec) (may : Int → Bool) (C : Cur) : Cur × List Rec := recsR one (flB may C).l.length 0 (flB may C) []
def withinE (e : Int) : Int := if e == 2 then 5 else e
def filesR (one : Int → Cur → Int × Cur × Rec) (may : Int → Bool) (c : Int) (C : Cur) : Cur × Msg :=
  (((fl1 may C).bytesC C.byteV).need ((flR one may C).1.e == 0) (withinE (flR one may C).1.e), { Msg.zero with code := c, recs := (flR one may C).2 })
def filesForm (dir c : Int) (C : Cur) : Option (Cur × Msg) :=
  if c == 20 then (if dir == 0 then some (filesR askO mayA c C) else some (filesR toldO mayT c C)) else if c == 21 then some (filesR wrtO mayW c C) else none
theorem i2020 : ((20 : Int) == 20) = true := rfl
theorem i2120 : ((21 : Int) == 20) = false := rfl
theorem i2121 : ((21 : Int) == 21) = true := rfl
set_option maxRecDepth 100000 in
set_option maxHeartbeats 4000000 in
theorem files_p20_0 {m : Bool} {A : Option Addr} {cp : Nat} {b : List Int} {w : World} {dir : Int} (hd : dir = 0 ∨ dir = 1) (hsl : RdB m w (.slice A b.length cp) b) (hb : b.length ≤ 1048576) :
    Calls Try.prog 43 #[.int .i64 0, .int .u8 20, .slice A b.length cp] w (PMsg (parseOf filesForm 0 20 b) w) := by
 have hln : (b.length : Int) ≤ 1048576 := by omega
 have e01 : ((dir != 0) && (dir != 1)) = false := by rcases hd with rfl | rfl <;> rfl
 refine enm 77 Try.func43 rfl <| sg <| L0 <| Oal mZ fun g10 w11 hg12 B13 hu14 => Pl 1 <| nt <| sq <| sg <| Pl 6 <| nt <| c0 <| ?_
 refine skn <| sg <| Pl 2 <| L0 <| Oc (args := #[.int .i64 0, .int .u8 20]) <| e3 rules_A fun gs16 w15 hg17 hB18 hu19 => Pl 3 <| L0 <| Oal #[.nilFunc, .nilFunc] fun g20 w21 hg22 B23 hu24 => L0 <| Osw B23 #[.func (.func 100) #[] #[], .func (.func 98) #[] #[.pointer (some ⟨gs16, 0, none⟩)]] fun w25 B26 hu27 => Pl 1 <| nt <| sq <| sq <| ?_
 refine go <| Pl 2 <| nt <| c0 <| skn <| sg <| Pl 1 <| ?_
 have U28 := ut0 hu14 hu19
 have U29 := ut0 U28 hu24
 have U30 := u1 U29 hu27 (ni U28.size hg22)
 have r31 := RdB.old hsl U30
 refine L0 <| Oc <| e3 (new_any r31 (by omega)) fun g33 w32 hg34 hc35 hu36 => Pl 1 <| ng <| Pl 1 <| L0 <| Oc <| m3 (byte_any hc35) fun w37 hc38 hu39 hr40 => L0 <| Oi ((Cur.mk b false 0).byteV) <| Pl 1 <| ng <| ?_
 refine Pl 2 <| ?_
 have U41 := u1 hu36 hu39 (nr hg34)
 have r42 := ub U41 B26
 refine L0 <| Olb r42 0 <| Pl 1 <| L0 <| Ocv #[] #[] (args := #[.int .i64 ((Cur.mk b false 0).byteV)]) <| m1 (frule2_any (n := (Cur.mk b false 0).byteV) (by omega)) fun w43 hu44 => ?_
 have r45 := CurAt.old hc38 hu44
 refine L0 <| Oc <| m2 (need_any ((mayA ((Cur.mk b false 0).byteV))) 5 r45) fun w46 hc47 hu48 => ?_
 refine ab hc47 fun x49 ex50 hc51 => ?_
 refine ng <| Pl 2 <| L0 <| Oc <| sr3 (bytes_any (n := (Cur.mk b false 0).byteV) hc51) fun A61 cp62 w52 rd65 hl63 hm64 hc55 hu56 => ?_
 have hlb57 := Nat.le_trans (Cur.bytesR_le x49 ((Cur.mk b false 0).byteV)) (CurAt.len hc51)
 refine ab hc55 fun x58 ex59 hc60 => ?_
 refine L0 <| Oc <| e3 (new_any rd65 (by omega)) fun g67 w66 hg68 hc69 hu70 => Pl 1 <| ng <| Pl 2 <| L0 <| Oal mZ fun g71 w72 hg73 B74 hu75 => L0 <| Osw B74 (mC 20) fun w76 B77 hu78 => nt <| sq <| sg <| ?_
 refine Pl 2 <| ?_
 have U79 := u1 (Upd.mono (S' := [g33]) hu44 all0) hu48 im
 have U80 := u1 U79 hu56 im
 have U81 := ut0 U80 hu70
 have U82 := ut0 U81 hu75
 have U83 := u1 U82 hu78 (ni U81.size hg73)
 have ne84 := nb (blk_lt B23) hu27.size hg34
 have r85 := ub1 U83 ne84 r42
 refine L0 <| Olb r85 1 <| L0 <| Oc <| ee6 (full_any (gb := g67) (f := .func 98) (x := #[]) (y := #[.pointer (some ⟨gs16, 0, none⟩)])) fun b87 b88 w86 hg89 hg90 hn91 hB92 hB93 hu94 => nt <| bk <| ?_
 refine grange (f := 105) #[.pointer (some ⟨b87, 0, none⟩), .pointer (some ⟨b88, 0, none⟩)] fun a ha => ?_
 intro fn95 D96 l97 w98 hg99 hg100 hn101 hB102 hB103 hu104
 have ne105 := nb (blk_lt hB18) (le (le (le (le (le (le hu24.size hu27.size) hu36.size) hu39.size) hu44.size) hu48.size) hu56.size) hg68
 have ne106 := nb (CurAt.lt hc69) lr hg73
 have ne107 := nb (CurAt.lt hc69) (le (le hu75.size hu78.size) hu94.size) hg100
 have ne108 := nb (blk_lt hB18) (le (le (le (le (le (le (le hu24.size hu27.size) hu36.size) hu39.size) hu44.size) hu48.size) hu56.size) hu70.size) hg73
 have ne109 := nb (blk_lt hB18) (le (le (le (le (le (le (le (le (le (le hu24.size hu27.size) hu36.size) hu39.size) hu44.size) hu48.size) hu56.size) hu70.size) hu75.size) hu78.size) hu94.size) hg100
 have ne110 := nb (blk_lt B74) (le hu78.size hu94.size) hg100
 have ne111 := nb (CurAt.lt hc69) (le hu75.size hu78.size) hg89
 have ne112 := nb (blk_lt hB18) (le (le (le (le (le (le (le (le (le hu24.size hu27.size) hu36.size) hu39.size) hu44.size) hu48.size) hu56.size) hu70.size) hu75.size) hu78.size) hg89
 have ne113 := nb (blk_lt B74) hu78.size hg89
 have ne114 := nb (blk_lt hB92) lr hg100
 have ne115 := nb (CurAt.lt hc69) (le hu75.size hu78.size) hg90
 have ne116 := nb (blk_lt hB18) (le (le (le (le (le (le (le (le (le hu24.size hu27.size) hu36.size) hu39.size) hu44.size) hu48.size) hu56.size) hu70.size) hu75.size) hu78.size) hg90
 have ne117 := nb (blk_lt B74) hu78.size hg90
 have ne118 := nb (blk_lt hB93) lr hg100
 have U119 := u1 hu75 hu78 (nr hg73)
 have U120 := ut0 U119 hu94
 have U121 := ut0 U120 hu104
 have r122 := CurAt.old hc69 U121
 have U123 := u1 hu24 hu27 (nr hg22)
 have U124 := ut0 U123 hu36
 have U125 := u1 U124 hu39 (ni U123.size hg34)
 have U126 := ut0 U125 hu44
 have U127 := u1 U126 hu48 (ni U123.size hg34)
 have U128 := u1 U127 hu56 (ni U123.size hg34)
 have U129 := ut0 U128 hu70
 have U130 := ut0 U129 hu75
 have U131 := u1 U130 hu78 (ni U129.size hg73)
 have U132 := ut0 U131 hu94
 have U133 := ut0 U132 hu104
 have r134 := ub U133 hB18
 have U135 := ut0 hu94 hu104
 have r136 := ub U135 B77
 have r137 := ub hu104 hB92
 have r138 := ub hu104 hB93
 refine (full_A (c := 20) r122 r134 r136 hB103 r137 r138 (Ne.symm ne105) ne106 ne107 ne108 ne109 ne110 (Ne.symm ne111) (Ne.symm ne112) (Ne.symm ne113) ne114 (Ne.symm ne115) (Ne.symm ne116) (Ne.symm ne117) ne118 ?_).mono ?_
 intro W C s L Ar cr x Ax cx hJ hrd hx1 hx2 hx3 hL
 simp only [B16] at hx1 hx2 hx3
 have hm2 : W.heap[g71]? = some (.cells #[.int .u8 20, .int .u8 0, .int .u16 0, .int .u16 0, .int .u16 0, .int .u16 0, .int .u16 0, .int .u16 0, .int .u16 0, .int .u16 0, .int .u16 0, .int .u16 0, .slice none 0 0, .slice none 0 0, .slice none 0 0, .slice Ar L.length cr, .int .u8 0, .int .u8 0, .int .u8 0, .int .u8 0, .int .u8 0, .slice none 0 0] 29 (0, 0)) := hJ.hm
 refine round_at hJ.hl ?_
 refine gri ha 53 <| fgr <| R0f <| Oal #[.int .u16 0, .int .u16 0, .int .u16 0, .slice none 0 0] fun g139 w140 hg141 B142 hu143 => R0f <| Osw B142 #[.int .u16 x.file, .int .u16 x.record, .int .u16 x.count, .slice Ax x.words.length cx] fun w144 B145 hu146 => fnl <| ?_
 have U150 := u1 hu143 hu146 (nr hg141)
 have r151 := ub U150 hJ.hl
 refine gr1 r151 (by trivial) fun w147 hB148 hu149 => fbk <| fgr <| Rpf <| ?_
 have U152 := u1 (Upd.mono (S' := [l97]) U150 all0) hu149 im
 have r153 := ub1 U152 ne110 hm2
 refine R0f <| Olb r153 15 <| ?_
 have ne154 := nb (blk_lt hB103) hJ.u.size hg141
 have r155 := ub1 hu149 (Ne.symm ne154) B145
 refine R0f <| Olw r155 <| R0f <| Olt (m := 1) (e := 57) #[.int .u16 x.file, .int .u16 x.record, .int .u16 x.count, .slice Ax x.words.length cx] fun g156 w157 hg158 B159 hu160 => ?_
 have U161 := ut0 U152 hu160
 have r162 := RdW.updl hrd U161 hJ.hl rfl
 have ol163 := lit1 (R := recR true) (x := (Rec.mk x.file x.record x.count x.words)) B159 rfl ⟨_, rfl, r162, b16 (by omega), b16 (by omega), b16 (by omega)⟩
 have r164 := own_stay hJ.ho U161 (fun x hx => (not_cons (fun e => (not_old (blk_lt hB103) lr hJ.ho) (e ▸ hx)) not0)) (recR.updl U161 hJ.hl rfl)
 refine R0f <| Oappg (xs := L) (ys := ([(Rec.mk x.file x.record x.count x.words)])) (.agg #[.int .u16 0, .int .u16 0, .int .u16 0, .slice none 0 0]) 4 32 r164 ol163 (by simp) recR.ones (fun w' hv => recR.upd16 hv (safe_app (ob_safe _ r164 (by decide)) safe0)) (by (try simp only [List.length_append, List.length_cons, List.length_nil, putW_length]); omega) (le (le (le (le hJ.u.size hu143.size) hu146.size) hu149.size) hu160.size) fun A165 cp166 w167 ho168 hu169 => Rpf <| ?_
 have U172 := ut (Upd.mono (S' := (ob Ar ++ [])) hu160 all0) hu169 (all_app (fun x hx => Or.inl (by simp [hx])) all0)
 have r173 := Upd.blk U172 (not_app (not_old (blk_lt r136) lr hJ.ho) not0) r153
 refine R0f <| Ost r173 15 (mG 20 0 0 0 0 0 0 0 0 0 0 0 nS nS nS (.slice A165 ((L ++ [(Rec.mk x.file x.record x.count x.words)]).length) cp166) 0 0 0 0 0 nS) fun w174 B175 hu176 => fnl <| bn <| ?_
 have U180 := u1 (Upd.mono (S' := (ob Ar ++ (g71 :: []))) U172 (all_app (fun x hx => Or.inl (by simp [hx])) all0)) hu176 im
 have r181 := Upd.blk U180 (not_app (not_old (blk_lt hB103) lr hJ.ho) (not_cons (Ne.symm ne110) not0)) hB148
 refine gr2 r181 fun w177 hB178 hu179 => ?_
 have U182 := ut (Upd.mono (S' := [g67, gs16, g71, l97]) (Upd.refl [] _) all0) hJ.u (ac im (ac im (ac im (ac im all0))))
 have U183 := ut0 U182 hu143
 have U184 := u1 U183 hu146 (ni U182.size hg141)
 have U185 := u1 U184 hu149 im
 have U186 := ut0 U185 hu160
 have U187 := ut U186 hu169 (all_app (ob_new hJ.ho lr) all0)
 have U188 := u1 U187 hu176 im
 have U189 := u1 U188 hu179 im
 have U190 := ut (Upd.mono (S' := (l97 :: (ob Ar ++ []))) U161 (ac im all0)) hu169 (all_app (fun x hx => Or.inl (by simp [hx])) all0)
 have U191 := u1 (Upd.mono (S' := (l97 :: (ob Ar ++ (g71 :: [])))) U190 (ac im (all_app (fun x hx => Or.inl (by simp [hx])) all0))) hu176 im
 have U192 := u1 U191 hu179 im
 have r193 := CurAt.updl hJ.hC U161 (not_cons ne107 not0) hJ.hl rfl
 have r194 := CurAt.upd r193 hu169 (not_app (not_old (CurAt.lt r122) lr hJ.ho) not0) (safe_app (ob_safe _ r164 (by decide)) safe0)
 have r195 := CurAt.upd r194 hu176 (not_cons ne106 not0) (safe_cons (safe1 r173 (by decide)) safe0)
 have r196 := CurAt.updl r195 hu179 (not_cons ne107 not0) r181 rfl
 have r197 := Upd.blk U192 (not_cons ne109 (not_app (not_old (blk_lt r134) lr hJ.ho) (not_cons ne108 not0))) hJ.hS
 have r198 := ub1 hu179 ne110 B175
 have U199 := u1 (Upd.mono (S' := [g71, l97]) hu176 (ac im all0)) hu179 im
 have r200 := own_stay ho168 hu176 (fun x hx => (not_cons (fun e => (not_old (blk_lt r136) lr ho168) (e ▸ hx)) not0)) (recR.upd16 hu176 (safe_cons (safe1 r173 (by decide)) safe0))
 have r201 := own_stay r200 hu179 (fun x hx => (not_cons (fun e => (not_old (blk_lt hB103) lr ho168) (e ▸ hx)) not0)) (recR.updl hu179 r181 rfl)
 exact ⟨by trivial, (le (le (le (le (le (le hu143.size hu146.size) hu149.size) hu160.size) hu169.size) hu176.size) hu179.size), A165, cp166, ⟨U189, r196, r197, r198, r201, hB178⟩⟩
 rintro _ w202 ⟨rfl, s203, A204, cp205, hJ206⟩
 refine ⟨_, _, rfl, hJ206.hl, by simp [loopR], by trivial, fun w207 hu208 => ?_⟩
 refine ab hJ206.hC fun x209 ex210 hc211 => ?_
 have hm212 : w202.heap[g71]? = some (.cells #[.int .u8 20, .int .u8 0, .int .u16 0, .int .u16 0, .int .u16 0, .int .u16 0, .int .u16 0, .int .u16 0, .int .u16 0, .int .u16 0, .int .u16 0, .int .u16 0, .slice none 0 0, .slice none 0 0, .slice none 0 0, .slice A204 ((recsR askO (Cur.mk (x49.bytesR ((Cur.mk b false 0).byteV)) false 0).l.length 0 (Cur.mk (x49.bytesR ((Cur.mk b false 0).byteV)) false 0) []).2.length) cp205, .int .u8 0, .int .u8 0, .int .u8 0, .int .u8 0, .int .u8 0, .slice none 0 0] 29 (0, 0)) := hJ206.hm
 refine bn <| tn <| sg <| Pl 2 <| ?_
 have r213 := CurAt.updl hc211 hu208 (not_cons ne107 not0) hJ206.hl rfl
 refine L0 <| Oc <| mq (err_any r213) <| ?_
 have hl214 := CurAt.len r213
 refine Pl 2 <| L0 <| Oc <| mq (err_any r213) <| ?_
 have hl215 := CurAt.len r213
 refine L0 <| Oc <| m1 (within_err (e := x209.e)) fun w216 hu217 => ?_
 have U218 := ut0 hu70 hu75
 have U219 := u1 U218 hu78 (ni hu70.size hg73)
 have U220 := ut0 U219 hu94
 have U221 := ut0 U220 hu104
 have U222 := ut (Upd.mono (S' := [gs16]) U221 all0) hJ206.u (ac (nr hg68) (ac im (ac (ni hu70.size hg73) (ac (ni U220.size hg100) all0))))
 have U223 := u1 U222 hu208 (ni U220.size hg100)
 have U224 := ut0 U223 hu217
 have ne225 := nb (blk_lt hB18) U123.size hg34
 have r226 := ub U128 hB18
 have r227 := CurAt.upd hc60 U224 (not_cons (Ne.symm ne225) not0) (safe_cons (safe1 r226 (by decide)) safe0)
 refine L0 <| Oc <| m2 (need_any ((x209.e == 0)) (withinE x209.e) r227) fun w228 hc229 hu230 => ?_
 refine ab hc229 fun x231 ex232 hc233 => ?_
 refine ng <| Pl 1 <| L0 <| Oc <| m2 (end_any hc233) fun w234 hc235 hu236 => nt <| sq <| sg <| Pl 1 <| L0 <| Oc <| mq (err_any hc235) <| ?_
 have hl237 := CurAt.len hc235
 refine Pl 1 <| ng <| Pl 2 <| nt <| ?_
 have U238 := ut0 U30 hu36
 have U239 := u1 U238 hu39 (ni U30.size hg34)
 have U240 := ut0 U239 hu44
 have U241 := u1 U240 hu48 (ni U30.size hg34)
 have U242 := u1 U241 hu56 (ni U30.size hg34)
 have U243 := ut0 U242 hu70
 have U244 := ut0 U243 hu75
 have U245 := u1 U244 hu78 (ni U243.size hg73)
 have U246 := ut0 U245 hu94
 have U247 := ut0 U246 hu104
 have U248 := ut U247 hJ206.u (ac (ni U242.size hg68) (ac (ni hu14.size hg17) (ac (ni U243.size hg73) (ac (ni U246.size hg100) all0))))
 have U249 := u1 U248 hu208 (ni U246.size hg100)
 have U250 := ut0 U249 hu217
 have U251 := u1 U250 hu230 (ni U30.size hg34)
 have U252 := u1 U251 hu236 (ni U30.size hg34)
 refine cb ((x231.endC.e != 0)) (fun q253 => ?_) (fun q253 => ?_)
 have q253p := ne_of_bnei q253
 refine sg <| Pl 2 <| ?_
 have U254 := ut0 hu19 hu24
 have U255 := u1 U254 hu27 (ni hu19.size hg22)
 have U256 := ut0 U255 hu36
 have U257 := u1 U256 hu39 (ni U255.size hg34)
 have U258 := ut0 U257 hu44
 have U259 := u1 U258 hu48 (ni U255.size hg34)
 have U260 := u1 U259 hu56 (ni U255.size hg34)
 have U261 := ut0 U260 hu70
 have U262 := ut0 U261 hu75
 have U263 := u1 U262 hu78 (ni U261.size hg73)
 have U264 := ut0 U263 hu94
 have U265 := ut0 U264 hu104
 have U266 := ut U265 hJ206.u (ac (ni U260.size hg68) (ac (nr hg17) (ac (ni U261.size hg73) (ac (ni U264.size hg100) all0))))
 have U267 := u1 U266 hu208 (ni U264.size hg100)
 have U268 := ut0 U267 hu217
 have U269 := u1 U268 hu230 (ni U255.size hg34)
 have U270 := u1 U269 hu236 (ni U255.size hg34)
 have r271 := ub U270 B13
 refine L0 <| Osw r271 mZ fun w272 B273 hu274 => Pl 1 <| nt <| rt <| tr <| ?_
 have U277 := u1 hJ206.u hu208 im
 have U278 := ut0 U277 hu217
 have U279 := u1 (Upd.mono (S' := [g67, gs16, g71, l97, g33]) U278 (ac im (ac im (ac im (ac im all0))))) hu230 im
 have U280 := u1 U279 hu236 im
 have U281 := u1 (Upd.mono (S' := [g67, gs16, g71, l97, g33, g10]) U280 (ac im (ac im (ac im (ac im (ac im all0)))))) hu274 im
 have ne282 := nb (blk_lt B13) U264.size hg99
 have ne283 := nb (CurAt.lt hc35) (le (le (le (le (le (le (le hu39.size hu44.size) hu48.size) hu56.size) hu70.size) hu75.size) hu78.size) hu94.size) hg99
 have ne284 := nb (blk_lt B74) (le hu78.size hu94.size) hg99
 have ne285 := nb (blk_lt hB18) U132.size hg99
 have ne286 := nb (CurAt.lt hc69) U120.size hg99
 have r287 := Upd.blk U281 (not_cons (Ne.symm ne286) (not_cons (Ne.symm ne285) (not_cons (Ne.symm ne284) (not_cons hn101 (not_cons (Ne.symm ne283) (not_cons (Ne.symm ne282) not0)))))) hB102
 refine rmd r287 fun w275 hu276 => ?_
 have r288 := ub1 hu276 ne282 B273
 refine rx r288 (.int .i64 x231.endC.e) <| ?_
 subst ex232 ex210 ex59 ex50
 have U289 := u1 U252 hu274 (nr hg12)
 have U290 := u1 U289 hu276 (ni U246.size hg99)
 have U291 := ut0 hu208 hu217
 have U292 := u1 (Upd.mono (S' := [l97, g33]) U291 (ac im all0)) hu230 im
 have U293 := u1 U292 hu236 im
 have U294 := u1 (Upd.mono (S' := [l97, g33, g10]) U293 (ac im (ac im all0))) hu274 im
 have U295 := u1 (Upd.mono (S' := [l97, g33, g10, D96]) U294 (ac im (ac im (ac im all0)))) hu276 im
 have r296 := ub U266 B13
 have r297 := CurAt.upd hc60 U222 (not_cons (Ne.symm ne225) not0) (safe_cons (safe1 r226 (by decide)) safe0)
 have r298 := own_stay hJ206.ho U291 (fun x hx => (not_cons (fun e => (not_old (blk_lt hB103) lr hJ206.ho) (e ▸ hx)) not0)) (recR.updl U291 hJ206.hl rfl)
 have r299 := own_stay r298 hu230 (fun x hx => (not_cons (fun e => (not_old (CurAt.lt hc35) (le (le (le (le (le (le (le (le hu39.size hu44.size) hu48.size) hu56.size) hu70.size) hu75.size) hu78.size) hu94.size) hu104.size) hJ206.ho) (e ▸ hx)) not0)) (recR.upd16 hu230 (safe_cons (CurAt.safe r227 _ (by decide)) safe0))
 have r300 := own_stay r299 hu236 (fun x hx => (not_cons (fun e => (not_old (CurAt.lt hc35) (le (le (le (le (le (le (le (le hu39.size hu44.size) hu48.size) hu56.size) hu70.size) hu75.size) hu78.size) hu94.size) hu104.size) hJ206.ho) (e ▸ hx)) not0)) (recR.upd16 hu236 (safe_cons (CurAt.safe hc233 _ (by decide)) safe0))
 have r301 := own_stay r300 hu274 (fun x hx => (not_cons (fun e => (not_old (blk_lt B13) U265.size hJ206.ho) (e ▸ hx)) not0)) (recR.upd16 hu274 (safe_cons (safe1 r271 (by decide)) safe0))
 have r302 := own_stay r301 hu276 (fun x hx => (not_cons (fun e => (not_old (blk_lt hB102) lr hJ206.ho) (e ▸ hx)) not0)) (recR.updl hu276 r287 rfl)
 have hs : parseOf filesForm 0 20 b = finish (Msg.mk 20 0 0 0 0 0 0 0 0 0 0 0 [] [] [] (recsR askO (Cur.mk ((((Cur.mk b false 0).bytesC 1).need (mayA ((Cur.mk b false 0).byteV)) 5).bytesR ((Cur.mk b false 0).byteV)) false 0).l.length 0 (Cur.mk ((((Cur.mk b false 0).bytesC 1).need (mayA ((Cur.mk b false 0).byteV)) 5).bytesR ((Cur.mk b false 0).byteV)) false 0) []).2 0 0 0 0 0 []) (((((Cur.mk b false 0).bytesC 1).need (mayA ((Cur.mk b false 0).byteV)) 5).bytesC ((Cur.mk b false 0).byteV)).need (((recsR askO (Cur.mk ((((Cur.mk b false 0).bytesC 1).need (mayA ((Cur.mk b false 0).byteV)) 5).bytesR ((Cur.mk b false 0).byteV)) false 0).l.length 0 (Cur.mk ((((Cur.mk b false 0).bytesC 1).need (mayA ((Cur.mk b false 0).byteV)) 5).bytesR ((Cur.mk b false 0).byteV)) false 0) []).1).e == 0) (withinE ((recsR askO (Cur.mk ((((Cur.mk b false 0).bytesC 1).need (mayA ((Cur.mk b false 0).byteV)) 5).bytesR ((Cur.mk b false 0).byteV)) false 0).l.length 0 (Cur.mk ((((Cur.mk b false 0).bytesC 1).need (mayA ((Cur.mk b false 0).byteV)) 5).bytesR ((Cur.mk b false 0).byteV)) false 0) []).1).e)) := by
   unfold parseOf filesForm filesR flR flB fl1
   (try simp only [q253, bs, if_true, if_false, decide_true, decide_false, eq_self, true_or, or_true, or_false, false_or, if_true, if_false, i00, i01, i10, i11, reduceIte, i2020, i2120, i2121])
   all_goals rfl
 rw [hs]
 exact finish_bad q253p U290
 have q253p := eq_of_bnei q253
 refine skn <| sg <| ?_
 have U303 := ut0 hu208 hu217
 have U304 := u1 (Upd.mono (S' := [l97, g33]) U303 (ac im all0)) hu230 im
 have U305 := u1 U304 hu236 im
 have ne306 := nb (CurAt.lt hc35) (le (le (le (le hu39.size hu44.size) hu48.size) hu56.size) hu70.size) hg73
 have r307 := Upd.blk U305 (not_cons ne110 (not_cons (Ne.symm ne306) not0)) hm212
 refine L0 <| Olw r307 <| ?_
 have U308 := ut0 hu19 hu24
 have U309 := u1 U308 hu27 (ni hu19.size hg22)
 have U310 := ut0 U309 hu36
 have U311 := u1 U310 hu39 (ni U309.size hg34)
 have U312 := ut0 U311 hu44
 have U313 := u1 U312 hu48 (ni U309.size hg34)
 have U314 := u1 U313 hu56 (ni U309.size hg34)
 have U315 := ut0 U314 hu70
 have U316 := ut0 U315 hu75
 have U317 := u1 U316 hu78 (ni U315.size hg73)
 have U318 := ut0 U317 hu94
 have U319 := ut0 U318 hu104
 have U320 := ut U319 hJ206.u (ac (ni U314.size hg68) (ac (nr hg17) (ac (ni U315.size hg73) (ac (ni U318.size hg100) all0))))
 have U321 := u1 U320 hu208 (ni U318.size hg100)
 have U322 := ut0 U321 hu217
 have U323 := u1 U322 hu230 (ni U309.size hg34)
 have U324 := u1 U323 hu236 (ni U309.size hg34)
 have r325 := ub U324 B13
 refine L0 <| Osw r325 (mG 20 0 0 0 0 0 0 0 0 0 0 0 nS nS nS (.slice A204 ((recsR askO (Cur.mk (x49.bytesR ((Cur.mk b false 0).byteV)) false 0).l.length 0 (Cur.mk (x49.bytesR ((Cur.mk b false 0).byteV)) false 0) []).2.length) cp205) 0 0 0 0 0 nS) fun w326 B327 hu328 => Pl 1 <| nt <| rt <| ?_
 have U331 := u1 hJ206.u hu208 im
 have U332 := ut0 U331 hu217
 have U333 := u1 (Upd.mono (S' := [g67, gs16, g71, l97, g33]) U332 (ac im (ac im (ac im (ac im all0))))) hu230 im
 have U334 := u1 U333 hu236 im
 have U335 := u1 (Upd.mono (S' := [g67, gs16, g71, l97, g33, g10]) U334 (ac im (ac im (ac im (ac im (ac im all0)))))) hu328 im
 have ne336 := nb (blk_lt B13) U318.size hg99
 have ne337 := nb (CurAt.lt hc35) (le (le (le (le (le (le (le hu39.size hu44.size) hu48.size) hu56.size) hu70.size) hu75.size) hu78.size) hu94.size) hg99
 have ne338 := nb (blk_lt B74) (le hu78.size hu94.size) hg99
 have ne339 := nb (blk_lt hB18) U132.size hg99
 have ne340 := nb (CurAt.lt hc69) U120.size hg99
 have r341 := Upd.blk U335 (not_cons (Ne.symm ne340) (not_cons (Ne.symm ne339) (not_cons (Ne.symm ne338) (not_cons hn101 (not_cons (Ne.symm ne337) (not_cons (Ne.symm ne336) not0)))))) hB102
 refine rmd r341 fun w329 hu330 => ?_
 have r342 := ub1 hu330 ne336 B327
 refine rx r342 (.int .i64 0) <| ?_
 subst ex232 ex210 ex59 ex50
 have U343 := u1 U252 hu328 (nr hg12)
 have U344 := u1 U343 hu330 (ni U246.size hg99)
 have U345 := u1 (Upd.mono (S' := [l97, g33, g10]) U305 (ac im (ac im all0))) hu328 im
 have U346 := u1 (Upd.mono (S' := [l97, g33, g10, D96]) U345 (ac im (ac im (ac im all0)))) hu330 im
 have r347 := ub U320 B13
 have r348 := CurAt.upd hc60 U222 (not_cons (Ne.symm ne225) not0) (safe_cons (safe1 r226 (by decide)) safe0)
 have r349 := own_stay hJ206.ho U303 (fun x hx => (not_cons (fun e => (not_old (blk_lt hB103) lr hJ206.ho) (e ▸ hx)) not0)) (recR.updl U303 hJ206.hl rfl)
 have r350 := own_stay r349 hu230 (fun x hx => (not_cons (fun e => (not_old (CurAt.lt hc35) (le (le (le (le (le (le (le (le hu39.size hu44.size) hu48.size) hu56.size) hu70.size) hu75.size) hu78.size) hu94.size) hu104.size) hJ206.ho) (e ▸ hx)) not0)) (recR.upd16 hu230 (safe_cons (CurAt.safe r227 _ (by decide)) safe0))
 have r351 := own_stay r350 hu236 (fun x hx => (not_cons (fun e => (not_old (CurAt.lt hc35) (le (le (le (le (le (le (le (le hu39.size hu44.size) hu48.size) hu56.size) hu70.size) hu75.size) hu78.size) hu94.size) hu104.size) hJ206.ho) (e ▸ hx)) not0)) (recR.upd16 hu236 (safe_cons (CurAt.safe hc233 _ (by decide)) safe0))
 have r352 := own_stay r351 hu328 (fun x hx => (not_cons (fun e => (not_old (blk_lt B13) U319.size hJ206.ho) (e ▸ hx)) not0)) (recR.upd16 hu328 (safe_cons (safe1 r325 (by decide)) safe0))
 have r353 := own_stay r352 hu330 (fun x hx => (not_cons (fun e => (not_old (blk_lt hB102) lr hJ206.ho) (e ▸ hx)) not0)) (recR.updl hu330 r341 rfl)
 have hs : parseOf filesForm 0 20 b = finish (Msg.mk 20 0 0 0 0 0 0 0 0 0 0 0 [] [] [] (recsR askO (Cur.mk ((((Cur.mk b false 0).bytesC 1).need (mayA ((Cur.mk b false 0).byteV)) 5).bytesR ((Cur.mk b false 0).byteV)) false 0).l.length 0 (Cur.mk ((((Cur.mk b false 0).bytesC 1).need (mayA ((Cur.mk b false 0).byteV)) 5).bytesR ((Cur.mk b false 0).byteV)) false 0) []).2 0 0 0 0 0 []) (((((Cur.mk b false 0).bytesC 1).need (mayA ((Cur.mk b false 0).byteV)) 5).bytesC ((Cur.mk b false 0).byteV)).need (((recsR askO (Cur.mk ((((Cur.mk b false 0).bytesC 1).need (mayA ((Cur.mk b false 0).byteV)) 5).bytesR ((Cur.mk b false 0).byteV)) false 0).l.length 0 (Cur.mk ((((Cur.mk b false 0).bytesC 1).need (mayA ((Cur.mk b false 0).byteV)) 5).bytesR ((Cur.mk b false 0).byteV)) false 0) []).1).e == 0) (withinE ((recsR askO (Cur.mk ((((Cur.mk b false 0).bytesC 1).need (mayA ((Cur.mk b false 0).byteV)) 5).bytesR ((Cur.mk b false 0).byteV)) false 0).l.length 0 (Cur.mk ((((Cur.mk b false 0).bytesC 1).need (mayA ((Cur.mk b false 0).byteV)) 5).bytesR ((Cur.mk b false 0).byteV)) false 0) []).1).e)) := by
   unfold parseOf filesForm filesR flR flB fl1
   (try simp only [q253, bs, if_true, if_false, decide_true, decide_false, eq_self, true_or, or_true, or_false, false_or, if_true, if_false, i00, i01, i10, i11, reduceIte, i2020, i2120, i2121])
   all_goals rfl
 rw [hs]
 exact finish_ok q253p ⟨_, _, _, _, _, rfl, RdG.nil .., RdG.nil .., RdG.nil .., (r353).rd, RdG.nil .., ⟨(b8 (x := 20) (by omega)), (b8 (x := 0) (by omega)), (b16 (x := 0) (by omega)), (b16 (x := 0) (by omega)), (b16 (x := 0) (by omega)), (b16 (x := 0) (by omega)), (b16 (x := 0) (by omega)), (b16 (x := 0) (by omega)), (b16 (x := 0) (by omega)), (b16 (x := 0) (by omega)), (b16 (x := 0) (by omega)), (b16 (x := 0) (by omega)), (b8 (x := 0) (by omega)), (b8 (x := 0) (by omega)), (b8 (x := 0) (by omega)), (b8 (x := 0) (by omega)), (b8 (x := 0) (by omega))⟩⟩ U344
set_option maxRecDepth 100000 in
set_option maxHeartbeats 4000000 in
theorem files_p20_1 {m : Bool} {A : Option Addr} {cp : Nat} {b : List Int} {w : World} {dir : Int} (hd : dir = 0 ∨ dir = 1) (hsl : RdB m w (.slice A b.length cp) b) (hb : b.length ≤ 1048576) :
    Calls Try.prog 43 #[.int .i64 1, .int .u8 20, .slice A b.length cp] w (PMsg (parseOf filesForm 1 20 b) w) := by
 have hln : (b.length : Int) ≤ 1048576 := by omega
 have e01 : ((dir != 0) && (dir != 1)) = false := by rcases hd with rfl | rfl <;> rfl
 refine enm 77 Try.func43 rfl <| sg <| L0 <| Oal mZ fun g10 w11 hg12 B13 hu14 => Pl 1 <| nt <| sq <| sg <| Pl 6 <| nt <| c0 <| ?_
 refine skn <| sg <| Pl 2 <| L0 <| Oc (args := #[.int .i64 1, .int .u8 20]) <| e3 rules_T fun gs16 w15 hg17 hB18 hu19 => Pl 3 <| L0 <| Oal #[.nilFunc, .nilFunc] fun g20 w21 hg22 B23 hu24 => L0 <| Osw B23 #[.func (.func 101) #[] #[], .func (.func 102) #[] #[]] fun w25 B26 hu27 => Pl 1 <| nt <| sq <| sq <| ?_
 refine go <| Pl 2 <| nt <| c0 <| skn <| sg <| Pl 1 <| ?_
 have U28 := ut0 hu14 hu19
 have U29 := ut0 U28 hu24
 have U30 := u1 U29 hu27 (ni U28.size hg22)
 have r31 := RdB.old hsl U30
 refine L0 <| Oc <| e3 (new_any r31 (by omega)) fun g33 w32 hg34 hc35 hu36 => Pl 1 <| ng <| Pl 1 <| L0 <| Oc <| m3 (byte_any hc35) fun w37 hc38 hu39 hr40 => L0 <| Oi ((Cur.mk b false 0).byteV) <| Pl 1 <| ng <| ?_
 refine Pl 2 <| ?_
 have U41 := u1 hu36 hu39 (nr hg34)
 have r42 := ub U41 B26
 refine L0 <| Olb r42 0 <| Pl 1 <| L0 <| Ocv #[] #[] (args := #[.int .i64 ((Cur.mk b false 0).byteV)]) <| m1 (frule3_any (n := (Cur.mk b false 0).byteV) (by omega)) fun w43 hu44 => ?_
 have r45 := CurAt.old hc38 hu44
 refine L0 <| Oc <| m2 (need_any ((mayT ((Cur.mk b false 0).byteV))) 5 r45) fun w46 hc47 hu48 => ?_
 refine ab hc47 fun x49 ex50 hc51 => ?_
 refine ng <| Pl 2 <| L0 <| Oc <| sr3 (bytes_any (n := (Cur.mk b false 0).byteV) hc51) fun A61 cp62 w52 rd65 hl63 hm64 hc55 hu56 => ?_
 have hlb57 := Nat.le_trans (Cur.bytesR_le x49 ((Cur.mk b false 0).byteV)) (CurAt.len hc51)
 refine ab hc55 fun x58 ex59 hc60 => ?_
 refine L0 <| Oc <| e3 (new_any rd65 (by omega)) fun g67 w66 hg68 hc69 hu70 => Pl 1 <| ng <| Pl 2 <| L0 <| Oal mZ fun g71 w72 hg73 B74 hu75 => L0 <| Osw B74 (mC 20) fun w76 B77 hu78 => nt <| sq <| sg <| ?_
 refine Pl 2 <| ?_
 have U79 := u1 (Upd.mono (S' := [g33]) hu44 all0) hu48 im
 have U80 := u1 U79 hu56 im
 have U81 := ut0 U80 hu70
 have U82 := ut0 U81 hu75
 have U83 := u1 U82 hu78 (ni U81.size hg73)
 have ne84 := nb (blk_lt B23) hu27.size hg34
 have r85 := ub1 U83 ne84 r42
 refine L0 <| Olb r85 1 <| L0 <| Oc <| ee6 (full_any (gb := g67) (f := .func 102) (x := #[]) (y := #[])) fun b87 b88 w86 hg89 hg90 hn91 hB92 hB93 hu94 => nt <| bk <| ?_
 refine grange (f := 105) #[.pointer (some ⟨b87, 0, none⟩), .pointer (some ⟨b88, 0, none⟩)] fun a ha => ?_
 intro fn95 D96 l97 w98 hg99 hg100 hn101 hB102 hB103 hu104
 have ne105 := nb (blk_lt hB18) (le (le (le (le (le (le hu24.size hu27.size) hu36.size) hu39.size) hu44.size) hu48.size) hu56.size) hg68
 have ne106 := nb (CurAt.lt hc69) lr hg73
 have ne107 := nb (CurAt.lt hc69) (le (le hu75.size hu78.size) hu94.size) hg100
 have ne108 := nb (blk_lt hB18) (le (le (le (le (le (le (le hu24.size hu27.size) hu36.size) hu39.size) hu44.size) hu48.size) hu56.size) hu70.size) hg73
 have ne109 := nb (blk_lt hB18) (le (le (le (le (le (le (le (le (le (le hu24.size hu27.size) hu36.size) hu39.size) hu44.size) hu48.size) hu56.size) hu70.size) hu75.size) hu78.size) hu94.size) hg100
 have ne110 := nb (blk_lt B74) (le hu78.size hu94.size) hg100
 have ne111 := nb (CurAt.lt hc69) (le hu75.size hu78.size) hg89
 have ne112 := nb (blk_lt hB18) (le (le (le (le (le (le (le (le (le hu24.size hu27.size) hu36.size) hu39.size) hu44.size) hu48.size) hu56.size) hu70.size) hu75.size) hu78.size) hg89
 have ne113 := nb (blk_lt B74) hu78.size hg89
 have ne114 := nb (blk_lt hB92) lr hg100
 have ne115 := nb (CurAt.lt hc69) (le hu75.size hu78.size) hg90
 have ne116 := nb (blk_lt hB18) (le (le (le (le (le (le (le (le (le hu24.size hu27.size) hu36.size) hu39.size) hu44.size) hu48.size) hu56.size) hu70.size) hu75.size) hu78.size) hg90
 have ne117 := nb (blk_lt B74) hu78.size hg90
 have ne118 := nb (blk_lt hB93) lr hg100
 have U119 := u1 hu75 hu78 (nr hg73)
 have U120 := ut0 U119 hu94
 have U121 := ut0 U120 hu104
 have r122 := CurAt.old hc69 U121
 have U123 := u1 hu24 hu27 (nr hg22)
 have U124 := ut0 U123 hu36
 have U125 := u1 U124 hu39 (ni U123.size hg34)
 have U126 := ut0 U125 hu44
 have U127 := u1 U126 hu48 (ni U123.size hg34)
 have U128 := u1 U127 hu56 (ni U123.size hg34)
 have U129 := ut0 U128 hu70
 have U130 := ut0 U129 hu75
 have U131 := u1 U130 hu78 (ni U129.size hg73)
 have U132 := ut0 U131 hu94
 have U133 := ut0 U132 hu104
 have r134 := ub U133 hB18
 have U135 := ut0 hu94 hu104
 have r136 := ub U135 B77
 have r137 := ub hu104 hB92
 have r138 := ub hu104 hB93
 refine (full_T (c := 20) r122 r134 r136 hB103 r137 r138 (Ne.symm ne105) ne106 ne107 ne108 ne109 ne110 (Ne.symm ne111) (Ne.symm ne112) (Ne.symm ne113) ne114 (Ne.symm ne115) (Ne.symm ne116) (Ne.symm ne117) ne118 ?_).mono ?_
 intro W C s L Ar cr x Ax cx hJ hrd hx1 hx2 hx3 hL
 simp only [B16] at hx1 hx2 hx3
 have hm2 : W.heap[g71]? = some (.cells #[.int .u8 20, .int .u8 0, .int .u16 0, .int .u16 0, .int .u16 0, .int .u16 0, .int .u16 0, .int .u16 0, .int .u16 0, .int .u16 0, .int .u16 0, .int .u16 0, .slice none 0 0, .slice none 0 0, .slice none 0 0, .slice Ar L.length cr, .int .u8 0, .int .u8 0, .int .u8 0, .int .u8 0, .int .u8 0, .slice none 0 0] 29 (0, 0)) := hJ.hm
 refine round_at hJ.hl ?_
 refine gri ha 53 <| fgr <| R0f <| Oal #[.int .u16 0, .int .u16 0, .int .u16 0, .slice none 0 0] fun g139 w140 hg141 B142 hu143 => R0f <| Osw B142 #[.int .u16 x.file, .int .u16 x.record, .int .u16 x.count, .slice Ax x.words.length cx] fun w144 B145 hu146 => fnl <| ?_
 have U150 := u1 hu143 hu146 (nr hg141)
 have r151 := ub U150 hJ.hl
 refine gr1 r151 (by trivial) fun w147 hB148 hu149 => fbk <| fgr <| Rpf <| ?_
 have U152 := u1 (Upd.mono (S' := [l97]) U150 all0) hu149 im
 have r153 := ub1 U152 ne110 hm2
 refine R0f <| Olb r153 15 <| ?_
 have ne154 := nb (blk_lt hB103) hJ.u.size hg141
 have r155 := ub1 hu149 (Ne.symm ne154) B145
 refine R0f <| Olw r155 <| R0f <| Olt (m := 1) (e := 57) #[.int .u16 x.file, .int .u16 x.record, .int .u16 x.count, .slice Ax x.words.length cx] fun g156 w157 hg158 B159 hu160 => ?_
 have U161 := ut0 U152 hu160
 have r162 := RdW.updl hrd U161 hJ.hl rfl
 have ol163 := lit1 (R := recR true) (x := (Rec.mk x.file x.record x.count x.words)) B159 rfl ⟨_, rfl, r162, b16 (by omega), b16 (by omega), b16 (by omega)⟩
 have r164 := own_stay hJ.ho U161 (fun x hx => (not_cons (fun e => (not_old (blk_lt hB103) lr hJ.ho) (e ▸ hx)) not0)) (recR.updl U161 hJ.hl rfl)
 refine R0f <| Oappg (xs := L) (ys := ([(Rec.mk x.file x.record x.count x.words)])) (.agg #[.int .u16 0, .int .u16 0, .int .u16 0, .slice none 0 0]) 4 32 r164 ol163 (by simp) recR.ones (fun w' hv => recR.upd16 hv (safe_app (ob_safe _ r164 (by decide)) safe0)) (by (try simp only [List.length_append, List.length_cons, List.length_nil, putW_length]); omega) (le (le (le (le hJ.u.size hu143.size) hu146.size) hu149.size) hu160.size) fun A165 cp166 w167 ho168 hu169 => Rpf <| ?_
 have U172 := ut (Upd.mono (S' := (ob Ar ++ [])) hu160 all0) hu169 (all_app (fun x hx => Or.inl (by simp [hx])) all0)
 have r173 := Upd.blk U172 (not_app (not_old (blk_lt r136) lr hJ.ho) not0) r153
 refine R0f <| Ost r173 15 (mG 20 0 0 0 0 0 0 0 0 0 0 0 nS nS nS (.slice A165 ((L ++ [(Rec.mk x.file x.record x.count x.words)]).length) cp166) 0 0 0 0 0 nS) fun w174 B175 hu176 => fnl <| bn <| ?_
 have U180 := u1 (Upd.mono (S' := (ob Ar ++ (g71 :: []))) U172 (all_app (fun x hx => Or.inl (by simp [hx])) all0)) hu176 im
 have r181 := Upd.blk U180 (not_app (not_old (blk_lt hB103) lr hJ.ho) (not_cons (Ne.symm ne110) not0)) hB148
 refine gr2 r181 fun w177 hB178 hu179 => ?_
 have U182 := ut (Upd.mono (S' := [g67, gs16, g71, l97]) (Upd.refl [] _) all0) hJ.u (ac im (ac im (ac im (ac im all0))))
 have U183 := ut0 U182 hu143
 have U184 := u1 U183 hu146 (ni U182.size hg141)
 have U185 := u1 U184 hu149 im
 have U186 := ut0 U185 hu160
 have U187 := ut U186 hu169 (all_app (ob_new hJ.ho lr) all0)
 have U188 := u1 U187 hu176 im
 have U189 := u1 U188 hu179 im
 have U190 := ut (Upd.mono (S' := (l97 :: (ob Ar ++ []))) U161 (ac im all0)) hu169 (all_app (fun x hx => Or.inl (by simp [hx])) all0)
 have U191 := u1 (Upd.mono (S' := (l97 :: (ob Ar ++ (g71 :: [])))) U190 (ac im (all_app (fun x hx => Or.inl (by simp [hx])) all0))) hu176 im
 have U192 := u1 U191 hu179 im
 have r193 := CurAt.updl hJ.hC U161 (not_cons ne107 not0) hJ.hl rfl
 have r194 := CurAt.upd r193 hu169 (not_app (not_old (CurAt.lt r122) lr hJ.ho) not0) (safe_app (ob_safe _ r164 (by decide)) safe0)
 have r195 := CurAt.upd r194 hu176 (not_cons ne106 not0) (safe_cons (safe1 r173 (by decide)) safe0)
 have r196 := CurAt.updl r195 hu179 (not_cons ne107 not0) r181 rfl
 have r197 := Upd.blk U192 (not_cons ne109 (not_app (not_old (blk_lt r134) lr hJ.ho) (not_cons ne108 not0))) hJ.hS
 have r198 := ub1 hu179 ne110 B175
 have U199 := u1 (Upd.mono (S' := [g71, l97]) hu176 (ac im all0)) hu179 im
 have r200 := own_stay ho168 hu176 (fun x hx => (not_cons (fun e => (not_old (blk_lt r136) lr ho168) (e ▸ hx)) not0)) (recR.upd16 hu176 (safe_cons (safe1 r173 (by decide)) safe0))
 have r201 := own_stay r200 hu179 (fun x hx => (not_cons (fun e => (not_old (blk_lt hB103) lr ho168) (e ▸ hx)) not0)) (recR.updl hu179 r181 rfl)
 exact ⟨by trivial, (le (le (le (le (le (le hu143.size hu146.size) hu149.size) hu160.size) hu169.size) hu176.size) hu179.size), A165, cp166, ⟨U189, r196, r197, r198, r201, hB178⟩⟩
 rintro _ w202 ⟨rfl, s203, A204, cp205, hJ206⟩
 refine ⟨_, _, rfl, hJ206.hl, by simp [loopR], by trivial, fun w207 hu208 => ?_⟩
 refine ab hJ206.hC fun x209 ex210 hc211 => ?_
 have hm212 : w202.heap[g71]? = some (.cells #[.int .u8 20, .int .u8 0, .int .u16 0, .int .u16 0, .int .u16 0, .int .u16 0, .int .u16 0, .int .u16 0, .int .u16 0, .int .u16 0, .int .u16 0, .int .u16 0, .slice none 0 0, .slice none 0 0, .slice none 0 0, .slice A204 ((recsR toldO (Cur.mk (x49.bytesR ((Cur.mk b false 0).byteV)) false 0).l.length 0 (Cur.mk (x49.bytesR ((Cur.mk b false 0).byteV)) false 0) []).2.length) cp205, .int .u8 0, .int .u8 0, .int .u8 0, .int .u8 0, .int .u8 0, .slice none 0 0] 29 (0, 0)) := hJ206.hm
 refine bn <| tn <| sg <| Pl 2 <| ?_
 have r213 := CurAt.updl hc211 hu208 (not_cons ne107 not0) hJ206.hl rfl
 refine L0 <| Oc <| mq (err_any r213) <| ?_
 have hl214 := CurAt.len r213
 refine Pl 2 <| L0 <| Oc <| mq (err_any r213) <| ?_
 have hl215 := CurAt.len r213
 refine L0 <| Oc <| m1 (within_err (e := x209.e)) fun w216 hu217 => ?_
 have U218 := ut0 hu70 hu75
 have U219 := u1 U218 hu78 (ni hu70.size hg73)
 have U220 := ut0 U219 hu94
 have U221 := ut0 U220 hu104
 have U222 := ut (Upd.mono (S' := [gs16]) U221 all0) hJ206.u (ac (nr hg68) (ac im (ac (ni hu70.size hg73) (ac (ni U220.size hg100) all0))))
 have U223 := u1 U222 hu208 (ni U220.size hg100)
 have U224 := ut0 U223 hu217
 have ne225 := nb (blk_lt hB18) U123.size hg34
 have r226 := ub U128 hB18
 have r227 := CurAt.upd hc60 U224 (not_cons (Ne.symm ne225) not0) (safe_cons (safe1 r226 (by decide)) safe0)
 refine L0 <| Oc <| m2 (need_any ((x209.e == 0)) (withinE x209.e) r227) fun w228 hc229 hu230 => ?_
 refine ab hc229 fun x231 ex232 hc233 => ?_
 refine ng <| Pl 1 <| L0 <| Oc <| m2 (end_any hc233) fun w234 hc235 hu236 => nt <| sq <| sg <| Pl 1 <| L0 <| Oc <| mq (err_any hc235) <| ?_
 have hl237 := CurAt.len hc235
 refine Pl 1 <| ng <| Pl 2 <| nt <| ?_
 have U238 := ut0 U30 hu36
 have U239 := u1 U238 hu39 (ni U30.size hg34)
 have U240 := ut0 U239 hu44
 have U241 := u1 U240 hu48 (ni U30.size hg34)
 have U242 := u1 U241 hu56 (ni U30.size hg34)
 have U243 := ut0 U242 hu70
 have U244 := ut0 U243 hu75
 have U245 := u1 U244 hu78 (ni U243.size hg73)
 have U246 := ut0 U245 hu94
 have U247 := ut0 U246 hu104
 have U248 := ut U247 hJ206.u (ac (ni U242.size hg68) (ac (ni hu14.size hg17) (ac (ni U243.size hg73) (ac (ni U246.size hg100) all0))))
 have U249 := u1 U248 hu208 (ni U246.size hg100)
 have U250 := ut0 U249 hu217
 have U251 := u1 U250 hu230 (ni U30.size hg34)
 have U252 := u1 U251 hu236 (ni U30.size hg34)
 refine cb ((x231.endC.e != 0)) (fun q253 => ?_) (fun q253 => ?_)
 have q253p := ne_of_bnei q253
 refine sg <| Pl 2 <| ?_
 have U254 := ut0 hu19 hu24
 have U255 := u1 U254 hu27 (ni hu19.size hg22)
 have U256 := ut0 U255 hu36
 have U257 := u1 U256 hu39 (ni U255.size hg34)
 have U258 := ut0 U257 hu44
 have U259 := u1 U258 hu48 (ni U255.size hg34)
 have U260 := u1 U259 hu56 (ni U255.size hg34)
 have U261 := ut0 U260 hu70
 have U262 := ut0 U261 hu75
 have U263 := u1 U262 hu78 (ni U261.size hg73)
 have U264 := ut0 U263 hu94
 have U265 := ut0 U264 hu104
 have U266 := ut U265 hJ206.u (ac (ni U260.size hg68) (ac (nr hg17) (ac (ni U261.size hg73) (ac (ni U264.size hg100) all0))))
 have U267 := u1 U266 hu208 (ni U264.size hg100)
 have U268 := ut0 U267 hu217
 have U269 := u1 U268 hu230 (ni U255.size hg34)
 have U270 := u1 U269 hu236 (ni U255.size hg34)
 have r271 := ub U270 B13
 refine L0 <| Osw r271 mZ fun w272 B273 hu274 => Pl 1 <| nt <| rt <| tr <| ?_
 have U277 := u1 hJ206.u hu208 im
 have U278 := ut0 U277 hu217
 have U279 := u1 (Upd.mono (S' := [g67, gs16, g71, l97, g33]) U278 (ac im (ac im (ac im (ac im all0))))) hu230 im
 have U280 := u1 U279 hu236 im
 have U281 := u1 (Upd.mono (S' := [g67, gs16, g71, l97, g33, g10]) U280 (ac im (ac im (ac im (ac im (ac im all0)))))) hu274 im
 have ne282 := nb (blk_lt B13) U264.size hg99
 have ne283 := nb (CurAt.lt hc35) (le (le (le (le (le (le (le hu39.size hu44.size) hu48.size) hu56.size) hu70.size) hu75.size) hu78.size) hu94.size) hg99
 have ne284 := nb (blk_lt B74) (le hu78.size hu94.size) hg99
 have ne285 := nb (blk_lt hB18) U132.size hg99
 have ne286 := nb (CurAt.lt hc69) U120.size hg99
 have r287 := Upd.blk U281 (not_cons (Ne.symm ne286) (not_cons (Ne.symm ne285) (not_cons (Ne.symm ne284) (not_cons hn101 (not_cons (Ne.symm ne283) (not_cons (Ne.symm ne282) not0)))))) hB102
 refine rmd r287 fun w275 hu276 => ?_
 have r288 := ub1 hu276 ne282 B273
 refine rx r288 (.int .i64 x231.endC.e) <| ?_
 subst ex232 ex210 ex59 ex50
 have U289 := u1 U252 hu274 (nr hg12)
 have U290 := u1 U289 hu276 (ni U246.size hg99)
 have U291 := ut0 hu208 hu217
 have U292 := u1 (Upd.mono (S' := [l97, g33]) U291 (ac im all0)) hu230 im
 have U293 := u1 U292 hu236 im
 have U294 := u1 (Upd.mono (S' := [l97, g33, g10]) U293 (ac im (ac im all0))) hu274 im
 have U295 := u1 (Upd.mono (S' := [l97, g33, g10, D96]) U294 (ac im (ac im (ac im all0)))) hu276 im
 have r296 := ub U266 B13
 have r297 := CurAt.upd hc60 U222 (not_cons (Ne.symm ne225) not0) (safe_cons (safe1 r226 (by decide)) safe0)
 have r298 := own_stay hJ206.ho U291 (fun x hx => (not_cons (fun e => (not_old (blk_lt hB103) lr hJ206.ho) (e ▸ hx)) not0)) (recR.updl U291 hJ206.hl rfl)
 have r299 := own_stay r298 hu230 (fun x hx => (not_cons (fun e => (not_old (CurAt.lt hc35) (le (le (le (le (le (le (le (le hu39.size hu44.size) hu48.size) hu56.size) hu70.size) hu75.size) hu78.size) hu94.size) hu104.size) hJ206.ho) (e ▸ hx)) not0)) (recR.upd16 hu230 (safe_cons (CurAt.safe r227 _ (by decide)) safe0))
 have r300 := own_stay r299 hu236 (fun x hx => (not_cons (fun e => (not_old (CurAt.lt hc35) (le (le (le (le (le (le (le (le hu39.size hu44.size) hu48.size) hu56.size) hu70.size) hu75.size) hu78.size) hu94.size) hu104.size) hJ206.ho) (e ▸ hx)) not0)) (recR.upd16 hu236 (safe_cons (CurAt.safe hc233 _ (by decide)) safe0))
 have r301 := own_stay r300 hu274 (fun x hx => (not_cons (fun e => (not_old (blk_lt B13) U265.size hJ206.ho) (e ▸ hx)) not0)) (recR.upd16 hu274 (safe_cons (safe1 r271 (by decide)) safe0))
 have r302 := own_stay r301 hu276 (fun x hx => (not_cons (fun e => (not_old (blk_lt hB102) lr hJ206.ho) (e ▸ hx)) not0)) (recR.updl hu276 r287 rfl)
 have hs : parseOf filesForm 1 20 b = finish (Msg.mk 20 0 0 0 0 0 0 0 0 0 0 0 [] [] [] (recsR toldO (Cur.mk ((((Cur.mk b false 0).bytesC 1).need (mayT ((Cur.mk b false 0).byteV)) 5).bytesR ((Cur.mk b false 0).byteV)) false 0).l.length 0 (Cur.mk ((((Cur.mk b false 0).bytesC 1).need (mayT ((Cur.mk b false 0).byteV)) 5).bytesR ((Cur.mk b false 0).byteV)) false 0) []).2 0 0 0 0 0 []) (((((Cur.mk b false 0).bytesC 1).need (mayT ((Cur.mk b false 0).byteV)) 5).bytesC ((Cur.mk b false 0).byteV)).need (((recsR toldO (Cur.mk ((((Cur.mk b false 0).bytesC 1).need (mayT ((Cur.mk b false 0).byteV)) 5).bytesR ((Cur.mk b false 0).byteV)) false 0).l.length 0 (Cur.mk ((((Cur.mk b false 0).bytesC 1).need (mayT ((Cur.mk b false 0).byteV)) 5).bytesR ((Cur.mk b false 0).byteV)) false 0) []).1).e == 0) (withinE ((recsR toldO (Cur.mk ((((Cur.mk b false 0).bytesC 1).need (mayT ((Cur.mk b false 0).byteV)) 5).bytesR ((Cur.mk b false 0).byteV)) false 0).l.length 0 (Cur.mk ((((Cur.mk b false 0).bytesC 1).need (mayT ((Cur.mk b false 0).byteV)) 5).bytesR ((Cur.mk b false 0).byteV)) false 0) []).1).e)) := by
   unfold parseOf filesForm filesR flR flB fl1
   (try simp only [q253, bs, if_true, if_false, decide_true, decide_false, eq_self, true_or, or_true, or_false, false_or, if_true, if_false, i00, i01, i10, i11, reduceIte, i2020, i2120, i2121])
   all_goals rfl
 rw [hs]
 exact finish_bad q253p U290
 have q253p := eq_of_bnei q253
 refine skn <| sg <| ?_
 have U303 := ut0 hu208 hu217
 have U304 := u1 (Upd.mono (S' := [l97, g33]) U303 (ac im all0)) hu230 im
 have U305 := u1 U304 hu236 im
 have ne306 := nb (CurAt.lt hc35) (le (le (le (le hu39.size hu44.size) hu48.size) hu56.size) hu70.size) hg73
 have r307 := Upd.blk U305 (not_cons ne110 (not_cons (Ne.symm ne306) not0)) hm212
 refine L0 <| Olw r307 <| ?_
 have U308 := ut0 hu19 hu24
 have U309 := u1 U308 hu27 (ni hu19.size hg22)
 have U310 := ut0 U309 hu36
 have U311 := u1 U310 hu39 (ni U309.size hg34)
 have U312 := ut0 U311 hu44
 have U313 := u1 U312 hu48 (ni U309.size hg34)
 have U314 := u1 U313 hu56 (ni U309.size hg34)
 have U315 := ut0 U314 hu70
 have U316 := ut0 U315 hu75
 have U317 := u1 U316 hu78 (ni U315.size hg73)
 have U318 := ut0 U317 hu94
 have U319 := ut0 U318 hu104
 have U320 := ut U319 hJ206.u (ac (ni U314.size hg68) (ac (nr hg17) (ac (ni U315.size hg73) (ac (ni U318.size hg100) all0))))
 have U321 := u1 U320 hu208 (ni U318.size hg100)
 have U322 := ut0 U321 hu217
 have U323 := u1 U322 hu230 (ni U309.size hg34)
 have U324 := u1 U323 hu236 (ni U309.size hg34)
 have r325 := ub U324 B13
 refine L0 <| Osw r325 (mG 20 0 0 0 0 0 0 0 0 0 0 0 nS nS nS (.slice A204 ((recsR toldO (Cur.mk (x49.bytesR ((Cur.mk b false 0).byteV)) false 0).l.length 0 (Cur.mk (x49.bytesR ((Cur.mk b false 0).byteV)) false 0) []).2.length) cp205) 0 0 0 0 0 nS) fun w326 B327 hu328 => Pl 1 <| nt <| rt <| ?_
 have U331 := u1 hJ206.u hu208 im
 have U332 := ut0 U331 hu217
 have U333 := u1 (Upd.mono (S' := [g67, gs16, g71, l97, g33]) U332 (ac im (ac im (ac im (ac im all0))))) hu230 im
 have U334 := u1 U333 hu236 im
 have U335 := u1 (Upd.mono (S' := [g67, gs16, g71, l97, g33, g10]) U334 (ac im (ac im (ac im (ac im (ac im all0)))))) hu328 im
 have ne336 := nb (blk_lt B13) U318.size hg99
 have ne337 := nb (CurAt.lt hc35) (le (le (le (le (le (le (le hu39.size hu44.size) hu48.size) hu56.size) hu70.size) hu75.size) hu78.size) hu94.size) hg99
 have ne338 := nb (blk_lt B74) (le hu78.size hu94.size) hg99
 have ne339 := nb (blk_lt hB18) U132.size hg99
 have ne340 := nb (CurAt.lt hc69) U120.size hg99
 have r341 := Upd.blk U335 (not_cons (Ne.symm ne340) (not_cons (Ne.symm ne339) (not_cons (Ne.symm ne338) (not_cons hn101 (not_cons (Ne.symm ne337) (not_cons (Ne.symm ne336) not0)))))) hB102
 refine rmd r341 fun w329 hu330 => ?_
 have r342 := ub1 hu330 ne336 B327
 refine rx r342 (.int .i64 0) <| ?_
 subst ex232 ex210 ex59 ex50
 have U343 := u1 U252 hu328 (nr hg12)
 have U344 := u1 U343 hu330 (ni U246.size hg99)
 have U345 := u1 (Upd.mono (S' := [l97, g33, g10]) U305 (ac im (ac im all0))) hu328 im
 have U346 := u1 (Upd.mono (S' := [l97, g33, g10, D96]) U345 (ac im (ac im (ac im all0)))) hu330 im
 have r347 := ub U320 B13
 have r348 := CurAt.upd hc60 U222 (not_cons (Ne.symm ne225) not0) (safe_cons (safe1 r226 (by decide)) safe0)
 have r349 := own_stay hJ206.ho U303 (fun x hx => (not_cons (fun e => (not_old (blk_lt hB103) lr hJ206.ho) (e ▸ hx)) not0)) (recR.updl U303 hJ206.hl rfl)
 have r350 := own_stay r349 hu230 (fun x hx => (not_cons (fun e => (not_old (CurAt.lt hc35) (le (le (le (le (le (le (le (le hu39.size hu44.size) hu48.size) hu56.size) hu70.size) hu75.size) hu78.size) hu94.size) hu104.size) hJ206.ho) (e ▸ hx)) not0)) (recR.upd16 hu230 (safe_cons (CurAt.safe r227 _ (by decide)) safe0))
 have r351 := own_stay r350 hu236 (fun x hx => (not_cons (fun e => (not_old (CurAt.lt hc35) (le (le (le (le (le (le (le (le hu39.size hu44.size) hu48.size) hu56.size) hu70.size) hu75.size) hu78.size) hu94.size) hu104.size) hJ206.ho) (e ▸ hx)) not0)) (recR.upd16 hu236 (safe_cons (CurAt.safe hc233 _ (by decide)) safe0))
 have r352 := own_stay r351 hu328 (fun x hx => (not_cons (fun e => (not_old (blk_lt B13) U319.size hJ206.ho) (e ▸ hx)) not0)) (recR.upd16 hu328 (safe_cons (safe1 r325 (by decide)) safe0))
 have r353 := own_stay r352 hu330 (fun x hx => (not_cons (fun e => (not_old (blk_lt hB102) lr hJ206.ho) (e ▸ hx)) not0)) (recR.updl hu330 r341 rfl)
 have hs : parseOf filesForm 1 20 b = finish (Msg.mk 20 0 0 0 0 0 0 0 0 0 0 0 [] [] [] (recsR toldO (Cur.mk ((((Cur.mk b false 0).bytesC 1).need (mayT ((Cur.mk b false 0).byteV)) 5).bytesR ((Cur.mk b false 0).byteV)) false 0).l.length 0 (Cur.mk ((((Cur.mk b false 0).bytesC 1).need (mayT ((Cur.mk b false 0).byteV)) 5).bytesR ((Cur.mk b false 0).byteV)) false 0) []).2 0 0 0 0 0 []) (((((Cur.mk b false 0).bytesC 1).need (mayT ((Cur.mk b false 0).byteV)) 5).bytesC ((Cur.mk b false 0).byteV)).need (((recsR toldO (Cur.mk ((((Cur.mk b false 0).bytesC 1).need (mayT ((Cur.mk b false 0).byteV)) 5).bytesR ((Cur.mk b false 0).byteV)) false 0).l.length 0 (Cur.mk ((((Cur.mk b false 0).bytesC 1).need (mayT ((Cur.mk b false 0).byteV)) 5).bytesR ((Cur.mk b false 0).byteV)) false 0) []).1).e == 0) (withinE ((recsR toldO (Cur.mk ((((Cur.mk b false 0).bytesC 1).need (mayT ((Cur.mk b false 0).byteV)) 5).bytesR ((Cur.mk b false 0).byteV)) false 0).l.length 0 (Cur.mk ((((Cur.mk b false 0).bytesC 1).need (mayT ((Cur.mk b false 0).byteV)) 5).bytesR ((Cur.mk b false 0).byteV)) false 0) []).1).e)) := by
   unfold parseOf filesForm filesR flR flB fl1
   (try simp only [q253, bs, if_true, if_false, decide_true, decide_false, eq_self, true_or, or_true, or_false, false_or, if_true, if_false, i00, i01, i10, i11, reduceIte, i2020, i2120, i2121])
   all_goals rfl
 rw [hs]
 exact finish_ok q253p ⟨_, _, _, _, _, rfl, RdG.nil .., RdG.nil .., RdG.nil .., (r353).rd, RdG.nil .., ⟨(b8 (x := 20) (by omega)), (b8 (x := 0) (by omega)), (b16 (x := 0) (by omega)), (b16 (x := 0) (by omega)), (b16 (x := 0) (by omega)), (b16 (x := 0) (by omega)), (b16 (x := 0) (by omega)), (b16 (x := 0) (by omega)), (b16 (x := 0) (by omega)), (b16 (x := 0) (by omega)), (b16 (x := 0) (by omega)), (b16 (x := 0) (by omega)), (b8 (x := 0) (by omega)), (b8 (x := 0) (by omega)), (b8 (x := 0) (by omega)), (b8 (x := 0) (by omega)), (b8 (x := 0) (by omega))⟩⟩ U344
set_option maxRecDepth 100000 in
set_option maxHeartbeats 4000000 in
theorem files_p21 {m : Bool} {A : Option Addr} {cp : Nat} {b : List Int} {w : World} {dir : Int} (hd : dir = 0 ∨ dir = 1) (hsl : RdB m w (.slice A b.length cp) b) (hb : b.length ≤ 1048576) :
    Calls Try.prog 43 #[.int .i64 dir, .int .u8 21, .slice A b.length cp] w (PMsg (parseOf filesForm dir 21 b) w) := by
 have hln : (b.length : Int) ≤ 1048576 := by omega
 have e01 : ((dir != 0) && (dir != 1)) = false := by rcases hd with rfl | rfl <;> rfl
 refine enm 77 Try.func43 rfl <| sg <| L0 <| Oal mZ fun g10 w11 hg12 B13 hu14 => Pl 1 <| nt <| sq <| sg <| Pl 3 <| cu 3 [18] 21 (((dir != 0) && (dir != 1))) (fun K K16 => ?_) ?_
 refine bl 18 ((dir != 0)) (fun q15 => ?_) (fun q15 => ?_)
 have q15p := ne_of_bnei q15
 exact Pl 3 <| ce K16 (dir != 1) (by rw [q15]; rfl)
 have q15p := eq_of_bnei q15
 exact Pl 3 <| ce K16 false (by rw [q15]; rfl)
 refine nt <| cf e01 <| skn <| sg <| Pl 2 <| L0 <| Oc (args := #[.int .i64 dir, .int .u8 21]) <| e3 rules_W fun gs18 w17 hg19 hB20 hu21 => Pl 3 <| L0 <| Oal #[.nilFunc, .nilFunc] fun g22 w23 hg24 B25 hu26 => L0 <| Osw B25 #[.func (.func 103) #[] #[], .func (.func 104) #[] #[]] fun w27 B28 hu29 => Pl 1 <| nl <| ?_
 refine tn <| sq <| sg <| Pl 2 <| nt <| c0 <| skn <| sg <| Pl 1 <| ?_
 have U30 := ut0 hu14 hu21
 have U31 := ut0 U30 hu26
 have U32 := u1 U31 hu29 (ni U30.size hg24)
 have r33 := RdB.old hsl U32
 refine L0 <| Oc <| e3 (new_any r33 (by omega)) fun g35 w34 hg36 hc37 hu38 => Pl 1 <| ng <| Pl 1 <| L0 <| Oc <| m3 (byte_any hc37) fun w39 hc40 hu41 hr42 => L0 <| Oi ((Cur.mk b false 0).byteV) <| Pl 1 <| ng <| ?_
 refine Pl 2 <| ?_
 have U43 := u1 hu38 hu41 (nr hg36)
 have r44 := ub U43 B28
 refine L0 <| Olb r44 0 <| Pl 1 <| L0 <| Ocv #[] #[] (args := #[.int .i64 ((Cur.mk b false 0).byteV)]) <| m1 (frule4_any (n := (Cur.mk b false 0).byteV) (by omega)) fun w45 hu46 => ?_
 have r47 := CurAt.old hc40 hu46
 refine L0 <| Oc <| m2 (need_any ((mayW ((Cur.mk b false 0).byteV))) 5 r47) fun w48 hc49 hu50 => ?_
 refine ab hc49 fun x51 ex52 hc53 => ?_
 refine ng <| Pl 2 <| L0 <| Oc <| sr3 (bytes_any (n := (Cur.mk b false 0).byteV) hc53) fun A63 cp64 w54 rd67 hl65 hm66 hc57 hu58 => ?_
 have hlb59 := Nat.le_trans (Cur.bytesR_le x51 ((Cur.mk b false 0).byteV)) (CurAt.len hc53)
 refine ab hc57 fun x60 ex61 hc62 => ?_
 refine L0 <| Oc <| e3 (new_any rd67 (by omega)) fun g69 w68 hg70 hc71 hu72 => Pl 1 <| ng <| Pl 2 <| L0 <| Oal mZ fun g73 w74 hg75 B76 hu77 => L0 <| Osw B76 (mC 21) fun w78 B79 hu80 => nt <| sq <| sg <| ?_
 refine Pl 2 <| ?_
 have U81 := u1 (Upd.mono (S' := [g35]) hu46 all0) hu50 im
 have U82 := u1 U81 hu58 im
 have U83 := ut0 U82 hu72
 have U84 := ut0 U83 hu77
 have U85 := u1 U84 hu80 (ni U83.size hg75)
 have ne86 := nb (blk_lt B25) hu29.size hg36
 have r87 := ub1 U85 ne86 r44
 refine L0 <| Olb r87 1 <| L0 <| Oc <| ee6 (full_any (gb := g69) (f := .func 104) (x := #[]) (y := #[])) fun b89 b90 w88 hg91 hg92 hn93 hB94 hB95 hu96 => nt <| bk <| ?_
 refine grange (f := 105) #[.pointer (some ⟨b89, 0, none⟩), .pointer (some ⟨b90, 0, none⟩)] fun a ha => ?_
 intro fn97 D98 l99 w100 hg101 hg102 hn103 hB104 hB105 hu106
 have ne107 := nb (blk_lt hB20) (le (le (le (le (le (le hu26.size hu29.size) hu38.size) hu41.size) hu46.size) hu50.size) hu58.size) hg70
 have ne108 := nb (CurAt.lt hc71) lr hg75
 have ne109 := nb (CurAt.lt hc71) (le (le hu77.size hu80.size) hu96.size) hg102
 have ne110 := nb (blk_lt hB20) (le (le (le (le (le (le (le hu26.size hu29.size) hu38.size) hu41.size) hu46.size) hu50.size) hu58.size) hu72.size) hg75
 have ne111 := nb (blk_lt hB20) (le (le (le (le (le (le (le (le (le (le hu26.size hu29.size) hu38.size) hu41.size) hu46.size) hu50.size) hu58.size) hu72.size) hu77.size) hu80.size) hu96.size) hg102
 have ne112 := nb (blk_lt B76) (le hu80.size hu96.size) hg102
 have ne113 := nb (CurAt.lt hc71) (le hu77.size hu80.size) hg91
 have ne114 := nb (blk_lt hB20) (le (le (le (le (le (le (le (le (le hu26.size hu29.size) hu38.size) hu41.size) hu46.size) hu50.size) hu58.size) hu72.size) hu77.size) hu80.size) hg91
 have ne115 := nb (blk_lt B76) hu80.size hg91
 have ne116 := nb (blk_lt hB94) lr hg102
 have ne117 := nb (CurAt.lt hc71) (le hu77.size hu80.size) hg92
 have ne118 := nb (blk_lt hB20) (le (le (le (le (le (le (le (le (le hu26.size hu29.size) hu38.size) hu41.size) hu46.size) hu50.size) hu58.size) hu72.size) hu77.size) hu80.size) hg92
 have ne119 := nb (blk_lt B76) hu80.size hg92
 have ne120 := nb (blk_lt hB95) lr hg102
 have U121 := u1 hu77 hu80 (nr hg75)
 have U122 := ut0 U121 hu96
 have U123 := ut0 U122 hu106
 have r124 := CurAt.old hc71 U123
 have U125 := u1 hu26 hu29 (nr hg24)
 have U126 := ut0 U125 hu38
 have U127 := u1 U126 hu41 (ni U125.size hg36)
 have U128 := ut0 U127 hu46
 have U129 := u1 U128 hu50 (ni U125.size hg36)
 have U130 := u1 U129 hu58 (ni U125.size hg36)
 have U131 := ut0 U130 hu72
 have U132 := ut0 U131 hu77
 have U133 := u1 U132 hu80 (ni U131.size hg75)
 have U134 := ut0 U133 hu96
 have U135 := ut0 U134 hu106
 have r136 := ub U135 hB20
 have U137 := ut0 hu96 hu106
 have r138 := ub U137 B79
 have r139 := ub hu106 hB94
 have r140 := ub hu106 hB95
 refine (full_W (c := 21) r124 r136 r138 hB105 r139 r140 (Ne.symm ne107) ne108 ne109 ne110 ne111 ne112 (Ne.symm ne113) (Ne.symm ne114) (Ne.symm ne115) ne116 (Ne.symm ne117) (Ne.symm ne118) (Ne.symm ne119) ne120 ?_).mono ?_
 intro W C s L Ar cr x Ax cx hJ hrd hx1 hx2 hx3 hL
 simp only [B16] at hx1 hx2 hx3
 have hm2 : W.heap[g73]? = some (.cells #[.int .u8 21, .int .u8 0, .int .u16 0, .int .u16 0, .int .u16 0, .int .u16 0, .int .u16 0, .int .u16 0, .int .u16 0, .int .u16 0, .int .u16 0, .int .u16 0, .slice none 0 0, .slice none 0 0, .slice none 0 0, .slice Ar L.length cr, .int .u8 0, .int .u8 0, .int .u8 0, .int .u8 0, .int .u8 0, .slice none 0 0] 29 (0, 0)) := hJ.hm
 refine round_at hJ.hl ?_
 refine gri ha 53 <| fgr <| R0f <| Oal #[.int .u16 0, .int .u16 0, .int .u16 0, .slice none 0 0] fun g141 w142 hg143 B144 hu145 => R0f <| Osw B144 #[.int .u16 x.file, .int .u16 x.record, .int .u16 x.count, .slice Ax x.words.length cx] fun w146 B147 hu148 => fnl <| ?_
 have U152 := u1 hu145 hu148 (nr hg143)
 have r153 := ub U152 hJ.hl
 refine gr1 r153 (by trivial) fun w149 hB150 hu151 => fbk <| fgr <| Rpf <| ?_
 have U154 := u1 (Upd.mono (S' := [l99]) U152 all0) hu151 im
 have r155 := ub1 U154 ne112 hm2
 refine R0f <| Olb r155 15 <| ?_
 have ne156 := nb (blk_lt hB105) hJ.u.size hg143
 have r157 := ub1 hu151 (Ne.symm ne156) B147
 refine R0f <| Olw r157 <| R0f <| Olt (m := 1) (e := 57) #[.int .u16 x.file, .int .u16 x.record, .int .u16 x.count, .slice Ax x.words.length cx] fun g158 w159 hg160 B161 hu162 => ?_
 have U163 := ut0 U154 hu162
 have r164 := RdW.updl hrd U163 hJ.hl rfl
 have ol165 := lit1 (R := recR true) (x := (Rec.mk x.file x.record x.count x.words)) B161 rfl ⟨_, rfl, r164, b16 (by omega), b16 (by omega), b16 (by omega)⟩
 have r166 := own_stay hJ.ho U163 (fun x hx => (not_cons (fun e => (not_old (blk_lt hB105) lr hJ.ho) (e ▸ hx)) not0)) (recR.updl U163 hJ.hl rfl)
 refine R0f <| Oappg (xs := L) (ys := ([(Rec.mk x.file x.record x.count x.words)])) (.agg #[.int .u16 0, .int .u16 0, .int .u16 0, .slice none 0 0]) 4 32 r166 ol165 (by simp) recR.ones (fun w' hv => recR.upd16 hv (safe_app (ob_safe _ r166 (by decide)) safe0)) (by (try simp only [List.length_append, List.length_cons, List.length_nil, putW_length]); omega) (le (le (le (le hJ.u.size hu145.size) hu148.size) hu151.size) hu162.size) fun A167 cp168 w169 ho170 hu171 => Rpf <| ?_
 have U174 := ut (Upd.mono (S' := (ob Ar ++ [])) hu162 all0) hu171 (all_app (fun x hx => Or.inl (by simp [hx])) all0)
 have r175 := Upd.blk U174 (not_app (not_old (blk_lt r138) lr hJ.ho) not0) r155
 refine R0f <| Ost r175 15 (mG 21 0 0 0 0 0 0 0 0 0 0 0 nS nS nS (.slice A167 ((L ++ [(Rec.mk x.file x.record x.count x.words)]).length) cp168) 0 0 0 0 0 nS) fun w176 B177 hu178 => fnl <| bn <| ?_
 have U182 := u1 (Upd.mono (S' := (ob Ar ++ (g73 :: []))) U174 (all_app (fun x hx => Or.inl (by simp [hx])) all0)) hu178 im
 have r183 := Upd.blk U182 (not_app (not_old (blk_lt hB105) lr hJ.ho) (not_cons (Ne.symm ne112) not0)) hB150
 refine gr2 r183 fun w179 hB180 hu181 => ?_
 have U184 := ut (Upd.mono (S' := [g69, gs18, g73, l99]) (Upd.refl [] _) all0) hJ.u (ac im (ac im (ac im (ac im all0))))
 have U185 := ut0 U184 hu145
 have U186 := u1 U185 hu148 (ni U184.size hg143)
 have U187 := u1 U186 hu151 im
 have U188 := ut0 U187 hu162
 have U189 := ut U188 hu171 (all_app (ob_new hJ.ho lr) all0)
 have U190 := u1 U189 hu178 im
 have U191 := u1 U190 hu181 im
 have U192 := ut (Upd.mono (S' := (l99 :: (ob Ar ++ []))) U163 (ac im all0)) hu171 (all_app (fun x hx => Or.inl (by simp [hx])) all0)
 have U193 := u1 (Upd.mono (S' := (l99 :: (ob Ar ++ (g73 :: [])))) U192 (ac im (all_app (fun x hx => Or.inl (by simp [hx])) all0))) hu178 im
 have U194 := u1 U193 hu181 im
 have r195 := CurAt.updl hJ.hC U163 (not_cons ne109 not0) hJ.hl rfl
 have r196 := CurAt.upd r195 hu171 (not_app (not_old (CurAt.lt r124) lr hJ.ho) not0) (safe_app (ob_safe _ r166 (by decide)) safe0)
 have r197 := CurAt.upd r196 hu178 (not_cons ne108 not0) (safe_cons (safe1 r175 (by decide)) safe0)
 have r198 := CurAt.updl r197 hu181 (not_cons ne109 not0) r183 rfl
 have r199 := Upd.blk U194 (not_cons ne111 (not_app (not_old (blk_lt r136) lr hJ.ho) (not_cons ne110 not0))) hJ.hS
 have r200 := ub1 hu181 ne112 B177
 have U201 := u1 (Upd.mono (S' := [g73, l99]) hu178 (ac im all0)) hu181 im
 have r202 := own_stay ho170 hu178 (fun x hx => (not_cons (fun e => (not_old (blk_lt r138) lr ho170) (e ▸ hx)) not0)) (recR.upd16 hu178 (safe_cons (safe1 r175 (by decide)) safe0))
 have r203 := own_stay r202 hu181 (fun x hx => (not_cons (fun e => (not_old (blk_lt hB105) lr ho170) (e ▸ hx)) not0)) (recR.updl hu181 r183 rfl)
 exact ⟨by trivial, (le (le (le (le (le (le hu145.size hu148.size) hu151.size) hu162.size) hu171.size) hu178.size) hu181.size), A167, cp168, ⟨U191, r198, r199, r200, r203, hB180⟩⟩
 rintro _ w204 ⟨rfl, s205, A206, cp207, hJ208⟩
 refine ⟨_, _, rfl, hJ208.hl, by simp [loopR], by trivial, fun w209 hu210 => ?_⟩
 refine ab hJ208.hC fun x211 ex212 hc213 => ?_
 have hm214 : w204.heap[g73]? = some (.cells #[.int .u8 21, .int .u8 0, .int .u16 0, .int .u16 0, .int .u16 0, .int .u16 0, .int .u16 0, .int .u16 0, .int .u16 0, .int .u16 0, .int .u16 0, .int .u16 0, .slice none 0 0, .slice none 0 0, .slice none 0 0, .slice A206 ((recsR wrtO (Cur.mk (x51.bytesR ((Cur.mk b false 0).byteV)) false 0).l.length 0 (Cur.mk (x51.bytesR ((Cur.mk b false 0).byteV)) false 0) []).2.length) cp207, .int .u8 0, .int .u8 0, .int .u8 0, .int .u8 0, .int .u8 0, .slice none 0 0] 29 (0, 0)) := hJ208.hm
 refine bn <| tn <| sg <| Pl 2 <| ?_
 have r215 := CurAt.updl hc213 hu210 (not_cons ne109 not0) hJ208.hl rfl
 refine L0 <| Oc <| mq (err_any r215) <| ?_
 have hl216 := CurAt.len r215
 refine Pl 2 <| L0 <| Oc <| mq (err_any r215) <| ?_
 have hl217 := CurAt.len r215
 refine L0 <| Oc <| m1 (within_err (e := x211.e)) fun w218 hu219 => ?_
 have U220 := ut0 hu72 hu77
 have U221 := u1 U220 hu80 (ni hu72.size hg75)
 have U222 := ut0 U221 hu96
 have U223 := ut0 U222 hu106
 have U224 := ut (Upd.mono (S' := [gs18]) U223 all0) hJ208.u (ac (nr hg70) (ac im (ac (ni hu72.size hg75) (ac (ni U222.size hg102) all0))))
 have U225 := u1 U224 hu210 (ni U222.size hg102)
 have U226 := ut0 U225 hu219
 have ne227 := nb (blk_lt hB20) U125.size hg36
 have r228 := ub U130 hB20
 have r229 := CurAt.upd hc62 U226 (not_cons (Ne.symm ne227) not0) (safe_cons (safe1 r228 (by decide)) safe0)
 refine L0 <| Oc <| m2 (need_any ((x211.e == 0)) (withinE x211.e) r229) fun w230 hc231 hu232 => ?_
 refine ab hc231 fun x233 ex234 hc235 => ?_
 refine ng <| Pl 1 <| L0 <| Oc <| m2 (end_any hc235) fun w236 hc237 hu238 => nt <| sq <| sg <| Pl 1 <| L0 <| Oc <| mq (err_any hc237) <| ?_
 have hl239 := CurAt.len hc237
 refine Pl 1 <| ng <| Pl 2 <| nt <| ?_
 have U240 := ut0 U32 hu38
 have U241 := u1 U240 hu41 (ni U32.size hg36)
 have U242 := ut0 U241 hu46
 have U243 := u1 U242 hu50 (ni U32.size hg36)
 have U244 := u1 U243 hu58 (ni U32.size hg36)
 have U245 := ut0 U244 hu72
 have U246 := ut0 U245 hu77
 have U247 := u1 U246 hu80 (ni U245.size hg75)
 have U248 := ut0 U247 hu96
 have U249 := ut0 U248 hu106
 have U250 := ut U249 hJ208.u (ac (ni U244.size hg70) (ac (ni hu14.size hg19) (ac (ni U245.size hg75) (ac (ni U248.size hg102) all0))))
 have U251 := u1 U250 hu210 (ni U248.size hg102)
 have U252 := ut0 U251 hu219
 have U253 := u1 U252 hu232 (ni U32.size hg36)
 have U254 := u1 U253 hu238 (ni U32.size hg36)
 refine cb ((x233.endC.e != 0)) (fun q255 => ?_) (fun q255 => ?_)
 have q255p := ne_of_bnei q255
 refine sg <| Pl 2 <| ?_
 have U256 := ut0 hu21 hu26
 have U257 := u1 U256 hu29 (ni hu21.size hg24)
 have U258 := ut0 U257 hu38
 have U259 := u1 U258 hu41 (ni U257.size hg36)
 have U260 := ut0 U259 hu46
 have U261 := u1 U260 hu50 (ni U257.size hg36)
 have U262 := u1 U261 hu58 (ni U257.size hg36)
 have U263 := ut0 U262 hu72
 have U264 := ut0 U263 hu77
 have U265 := u1 U264 hu80 (ni U263.size hg75)
 have U266 := ut0 U265 hu96
 have U267 := ut0 U266 hu106
 have U268 := ut U267 hJ208.u (ac (ni U262.size hg70) (ac (nr hg19) (ac (ni U263.size hg75) (ac (ni U266.size hg102) all0))))
 have U269 := u1 U268 hu210 (ni U266.size hg102)
 have U270 := ut0 U269 hu219
 have U271 := u1 U270 hu232 (ni U257.size hg36)
 have U272 := u1 U271 hu238 (ni U257.size hg36)
 have r273 := ub U272 B13
 refine L0 <| Osw r273 mZ fun w274 B275 hu276 => Pl 1 <| nt <| rt <| tr <| ?_
 have U279 := u1 hJ208.u hu210 im
 have U280 := ut0 U279 hu219
 have U281 := u1 (Upd.mono (S' := [g69, gs18, g73, l99, g35]) U280 (ac im (ac im (ac im (ac im all0))))) hu232 im
 have U282 := u1 U281 hu238 im
 have U283 := u1 (Upd.mono (S' := [g69, gs18, g73, l99, g35, g10]) U282 (ac im (ac im (ac im (ac im (ac im all0)))))) hu276 im
 have ne284 := nb (blk_lt B13) U266.size hg101
 have ne285 := nb (CurAt.lt hc37) (le (le (le (le (le (le (le hu41.size hu46.size) hu50.size) hu58.size) hu72.size) hu77.size) hu80.size) hu96.size) hg101
 have ne286 := nb (blk_lt B76) (le hu80.size hu96.size) hg101
 have ne287 := nb (blk_lt hB20) U134.size hg101
 have ne288 := nb (CurAt.lt hc71) U122.size hg101
 have r289 := Upd.blk U283 (not_cons (Ne.symm ne288) (not_cons (Ne.symm ne287) (not_cons (Ne.symm ne286) (not_cons hn103 (not_cons (Ne.symm ne285) (not_cons (Ne.symm ne284) not0)))))) hB104
 refine rmd r289 fun w277 hu278 => ?_
 have r290 := ub1 hu278 ne284 B275
 refine rx r290 (.int .i64 x233.endC.e) <| ?_
 subst ex234 ex212 ex61 ex52
 have U291 := u1 U254 hu276 (nr hg12)
 have U292 := u1 U291 hu278 (ni U248.size hg101)
 have U293 := ut0 hu210 hu219
 have U294 := u1 (Upd.mono (S' := [l99, g35]) U293 (ac im all0)) hu232 im
 have U295 := u1 U294 hu238 im
 have U296 := u1 (Upd.mono (S' := [l99, g35, g10]) U295 (ac im (ac im all0))) hu276 im
 have U297 := u1 (Upd.mono (S' := [l99, g35, g10, D98]) U296 (ac im (ac im (ac im all0)))) hu278 im
 have r298 := ub U268 B13
 have r299 := CurAt.upd hc62 U224 (not_cons (Ne.symm ne227) not0) (safe_cons (safe1 r228 (by decide)) safe0)
 have r300 := own_stay hJ208.ho U293 (fun x hx => (not_cons (fun e => (not_old (blk_lt hB105) lr hJ208.ho) (e ▸ hx)) not0)) (recR.updl U293 hJ208.hl rfl)
 have r301 := own_stay r300 hu232 (fun x hx => (not_cons (fun e => (not_old (CurAt.lt hc37) (le (le (le (le (le (le (le (le hu41.size hu46.size) hu50.size) hu58.size) hu72.size) hu77.size) hu80.size) hu96.size) hu106.size) hJ208.ho) (e ▸ hx)) not0)) (recR.upd16 hu232 (safe_cons (CurAt.safe r229 _ (by decide)) safe0))
 have r302 := own_stay r301 hu238 (fun x hx => (not_cons (fun e => (not_old (CurAt.lt hc37) (le (le (le (le (le (le (le (le hu41.size hu46.size) hu50.size) hu58.size) hu72.size) hu77.size) hu80.size) hu96.size) hu106.size) hJ208.ho) (e ▸ hx)) not0)) (recR.upd16 hu238 (safe_cons (CurAt.safe hc235 _ (by decide)) safe0))
 have r303 := own_stay r302 hu276 (fun x hx => (not_cons (fun e => (not_old (blk_lt B13) U267.size hJ208.ho) (e ▸ hx)) not0)) (recR.upd16 hu276 (safe_cons (safe1 r273 (by decide)) safe0))
 have r304 := own_stay r303 hu278 (fun x hx => (not_cons (fun e => (not_old (blk_lt hB104) lr hJ208.ho) (e ▸ hx)) not0)) (recR.updl hu278 r289 rfl)
 have hs : parseOf filesForm dir 21 b = finish (Msg.mk 21 0 0 0 0 0 0 0 0 0 0 0 [] [] [] (recsR wrtO (Cur.mk ((((Cur.mk b false 0).bytesC 1).need (mayW ((Cur.mk b false 0).byteV)) 5).bytesR ((Cur.mk b false 0).byteV)) false 0).l.length 0 (Cur.mk ((((Cur.mk b false 0).bytesC 1).need (mayW ((Cur.mk b false 0).byteV)) 5).bytesR ((Cur.mk b false 0).byteV)) false 0) []).2 0 0 0 0 0 []) (((((Cur.mk b false 0).bytesC 1).need (mayW ((Cur.mk b false 0).byteV)) 5).bytesC ((Cur.mk b false 0).byteV)).need (((recsR wrtO (Cur.mk ((((Cur.mk b false 0).bytesC 1).need (mayW ((Cur.mk b false 0).byteV)) 5).bytesR ((Cur.mk b false 0).byteV)) false 0).l.length 0 (Cur.mk ((((Cur.mk b false 0).bytesC 1).need (mayW ((Cur.mk b false 0).byteV)) 5).bytesR ((Cur.mk b false 0).byteV)) false 0) []).1).e == 0) (withinE ((recsR wrtO (Cur.mk ((((Cur.mk b false 0).bytesC 1).need (mayW ((Cur.mk b false 0).byteV)) 5).bytesR ((Cur.mk b false 0).byteV)) false 0).l.length 0 (Cur.mk ((((Cur.mk b false 0).bytesC 1).need (mayW ((Cur.mk b false 0).byteV)) 5).bytesR ((Cur.mk b false 0).byteV)) false 0) []).1).e)) := by
   unfold parseOf filesForm filesR flR flB fl1
   (try simp only [e01, q255, bs, if_true, if_false, decide_true, decide_false, eq_self, true_or, or_true, or_false, false_or, if_true, if_false, i00, i01, i10, i11, reduceIte, i2020, i2120, i2121, if_pos hd])
   all_goals rfl
 rw [hs]
 exact finish_bad q255p U292
 have q255p := eq_of_bnei q255
 refine skn <| sg <| ?_
 have U305 := ut0 hu210 hu219
 have U306 := u1 (Upd.mono (S' := [l99, g35]) U305 (ac im all0)) hu232 im
 have U307 := u1 U306 hu238 im
 have ne308 := nb (CurAt.lt hc37) (le (le (le (le hu41.size hu46.size) hu50.size) hu58.size) hu72.size) hg75
 have r309 := Upd.blk U307 (not_cons ne112 (not_cons (Ne.symm ne308) not0)) hm214
 refine L0 <| Olw r309 <| ?_
 have U310 := ut0 hu21 hu26
 have U311 := u1 U310 hu29 (ni hu21.size hg24)
 have U312 := ut0 U311 hu38
 have U313 := u1 U312 hu41 (ni U311.size hg36)
 have U314 := ut0 U313 hu46
 have U315 := u1 U314 hu50 (ni U311.size hg36)
 have U316 := u1 U315 hu58 (ni U311.size hg36)
 have U317 := ut0 U316 hu72
 have U318 := ut0 U317 hu77
 have U319 := u1 U318 hu80 (ni U317.size hg75)
 have U320 := ut0 U319 hu96
 have U321 := ut0 U320 hu106
 have U322 := ut U321 hJ208.u (ac (ni U316.size hg70) (ac (nr hg19) (ac (ni U317.size hg75) (ac (ni U320.size hg102) all0))))
 have U323 := u1 U322 hu210 (ni U320.size hg102)
 have U324 := ut0 U323 hu219
 have U325 := u1 U324 hu232 (ni U311.size hg36)
 have U326 := u1 U325 hu238 (ni U311.size hg36)
 have r327 := ub U326 B13
 refine L0 <| Osw r327 (mG 21 0 0 0 0 0 0 0 0 0 0 0 nS nS nS (.slice A206 ((recsR wrtO (Cur.mk (x51.bytesR ((Cur.mk b false 0).byteV)) false 0).l.length 0 (Cur.mk (x51.bytesR ((Cur.mk b false 0).byteV)) false 0) []).2.length) cp207) 0 0 0 0 0 nS) fun w328 B329 hu330 => Pl 1 <| nt <| rt <| ?_
 have U333 := u1 hJ208.u hu210 im
 have U334 := ut0 U333 hu219
 have U335 := u1 (Upd.mono (S' := [g69, gs18, g73, l99, g35]) U334 (ac im (ac im (ac im (ac im all0))))) hu232 im
 have U336 := u1 U335 hu238 im
 have U337 := u1 (Upd.mono (S' := [g69, gs18, g73, l99, g35, g10]) U336 (ac im (ac im (ac im (ac im (ac im all0)))))) hu330 im
 have ne338 := nb (blk_lt B13) U320.size hg101
 have ne339 := nb (CurAt.lt hc37) (le (le (le (le (le (le (le hu41.size hu46.size) hu50.size) hu58.size) hu72.size) hu77.size) hu80.size) hu96.size) hg101
 have ne340 := nb (blk_lt B76) (le hu80.size hu96.size) hg101
 have ne341 := nb (blk_lt hB20) U134.size hg101
 have ne342 := nb (CurAt.lt hc71) U122.size hg101
 have r343 := Upd.blk U337 (not_cons (Ne.symm ne342) (not_cons (Ne.symm ne341) (not_cons (Ne.symm ne340) (not_cons hn103 (not_cons (Ne.symm ne339) (not_cons (Ne.symm ne338) not0)))))) hB104
 refine rmd r343 fun w331 hu332 => ?_
 have r344 := ub1 hu332 ne338 B329
 refine rx r344 (.int .i64 0) <| ?_
 subst ex234 ex212 ex61 ex52
 have U345 := u1 U254 hu330 (nr hg12)
 have U346 := u1 U345 hu332 (ni U248.size hg101)
 have U347 := u1 (Upd.mono (S' := [l99, g35, g10]) U307 (ac im (ac im all0))) hu330 im
 have U348 := u1 (Upd.mono (S' := [l99, g35, g10, D98]) U347 (ac im (ac im (ac im all0)))) hu332 im
 have r349 := ub U322 B13
 have r350 := CurAt.upd hc62 U224 (not_cons (Ne.symm ne227) not0) (safe_cons (safe1 r228 (by decide)) safe0)
 have r351 := own_stay hJ208.ho U305 (fun x hx => (not_cons (fun e => (not_old (blk_lt hB105) lr hJ208.ho) (e ▸ hx)) not0)) (recR.updl U305 hJ208.hl rfl)
 have r352 := own_stay r351 hu232 (fun x hx => (not_cons (fun e => (not_old (CurAt.lt hc37) (le (le (le (le (le (le (le (le hu41.size hu46.size) hu50.size) hu58.size) hu72.size) hu77.size) hu80.size) hu96.size) hu106.size) hJ208.ho) (e ▸ hx)) not0)) (recR.upd16 hu232 (safe_cons (CurAt.safe r229 _ (by decide)) safe0))
 have r353 := own_stay r352 hu238 (fun x hx => (not_cons (fun e => (not_old (CurAt.lt hc37) (le (le (le (le (le (le (le (le hu41.size hu46.size) hu50.size) hu58.size) hu72.size) hu77.size) hu80.size) hu96.size) hu106.size) hJ208.ho) (e ▸ hx)) not0)) (recR.upd16 hu238 (safe_cons (CurAt.safe hc235 _ (by decide)) safe0))
 have r354 := own_stay r353 hu330 (fun x hx => (not_cons (fun e => (not_old (blk_lt B13) U321.size hJ208.ho) (e ▸ hx)) not0)) (recR.upd16 hu330 (safe_cons (safe1 r327 (by decide)) safe0))
 have r355 := own_stay r354 hu332 (fun x hx => (not_cons (fun e => (not_old (blk_lt hB104) lr hJ208.ho) (e ▸ hx)) not0)) (recR.updl hu332 r343 rfl)
 have hs : parseOf filesForm dir 21 b = finish (Msg.mk 21 0 0 0 0 0 0 0 0 0 0 0 [] [] [] (recsR wrtO (Cur.mk ((((Cur.mk b false 0).bytesC 1).need (mayW ((Cur.mk b false 0).byteV)) 5).bytesR ((Cur.mk b false 0).byteV)) false 0).l.length 0 (Cur.mk ((((Cur.mk b false 0).bytesC 1).need (mayW ((Cur.mk b false 0).byteV)) 5).bytesR ((Cur.mk b false 0).byteV)) false 0) []).2 0 0 0 0 0 []) (((((Cur.mk b false 0).bytesC 1).need (mayW ((Cur.mk b false 0).byteV)) 5).bytesC ((Cur.mk b false 0).byteV)).need (((recsR wrtO (Cur.mk ((((Cur.mk b false 0).bytesC 1).need (mayW ((Cur.mk b false 0).byteV)) 5).bytesR ((Cur.mk b false 0).byteV)) false 0).l.length 0 (Cur.mk ((((Cur.mk b false 0).bytesC 1).need (mayW ((Cur.mk b false 0).byteV)) 5).bytesR ((Cur.mk b false 0).byteV)) false 0) []).1).e == 0) (withinE ((recsR wrtO (Cur.mk ((((Cur.mk b false 0).bytesC 1).need (mayW ((Cur.mk b false 0).byteV)) 5).bytesR ((Cur.mk b false 0).byteV)) false 0).l.length 0 (Cur.mk ((((Cur.mk b false 0).bytesC 1).need (mayW ((Cur.mk b false 0).byteV)) 5).bytesR ((Cur.mk b false 0).byteV)) false 0) []).1).e)) := by
   unfold parseOf filesForm filesR flR flB fl1
   (try simp only [e01, q255, bs, if_true, if_false, decide_true, decide_false, eq_self, true_or, or_true, or_false, false_or, if_true, if_false, i00, i01, i10, i11, reduceIte, i2020, i2120, i2121, if_pos hd])
   all_goals rfl
 rw [hs]
 exact finish_ok q255p ⟨_, _, _, _, _, rfl, RdG.nil .., RdG.nil .., RdG.nil .., (r355).rd, RdG.nil .., ⟨(b8 (x := 21) (by omega)), (b8 (x := 0) (by omega)), (b16 (x := 0) (by omega)), (b16 (x := 0) (by omega)), (b16 (x := 0) (by omega)), (b16 (x := 0) (by omega)), (b16 (x := 0) (by omega)), (b16 (x := 0) (by omega)), (b16 (x := 0) (by omega)), (b16 (x := 0) (by omega)), (b16 (x := 0) (by omega)), (b16 (x := 0) (by omega)), (b8 (x := 0) (by omega)), (b8 (x := 0) (by omega)), (b8 (x := 0) (by omega)), (b8 (x := 0) (by omega)), (b8 (x := 0) (by omega))⟩⟩ U346
set_option maxRecDepth 100000 in
set_option maxHeartbeats 4000000 in
theorem files_pn0 {A : Option Addr} {cp : Nat} {b : List Int} {w : World} {c : Int} (n1 : (c == 20) = false) (n2 : (c == 21) = false) : Calls Try.prog 43 #[.int .i64 0, .int .u8 c, .slice A b.length cp] w (PMsg (parseOf filesForm 0 c b) w) := by
 refine enm 77 Try.func43 rfl <| sg <| L0 <| Oal mZ fun g10 w11 hg12 B13 hu14 => Pl 1 <| nt <| sq <| sg <| Pl 6 <| nt <| c0 <| ?_
 refine skn <| sg <| Pl 2 <| L0 <| Oc (args := #[.int .i64 0, .int .u8 c]) <| m1 (rules_no (dir := 0) (x := c) n1 n2) fun w15 hu16 => Pl 3 <| L0 <| Oal #[.nilFunc, .nilFunc] fun g17 w18 hg19 B20 hu21 => L0 <| Osw B20 #[.nilFunc, .nilFunc] fun w22 B23 hu24 => Pl 1 <| nt <| sq <| sq <| ?_
 refine go <| Pl 2 <| nt <| c1 <| sg <| Pl 1 <| ?_
 have U25 := ut0 hu16 hu21
 have U26 := u1 U25 hu24 (ni hu16.size hg19)
 have r27 := ub U26 B13
 refine L0 <| Osw r27 mZ fun w28 B29 hu30 => Pl 1 <| nt <| rt <| tr <| ry B29 (.int .i64 4) <| ?_
 have U33 := ut0 hu14 hu16
 have U34 := ut0 U33 hu21
 have U35 := u1 U34 hu24 (ni U33.size hg19)
 have U36 := u1 U35 hu30 (nr hg12)
 have hs : parseOf filesForm 0 c b = (Msg.zero, 4) := by
   unfold parseOf filesForm 
   (try simp only [bs, if_true, if_false, decide_true, decide_false, eq_self, true_or, or_true, or_false, false_or, if_true, if_false, i00, i01, i10, i11, reduceIte, n1, n2])
   all_goals rfl
 rw [hs]
 exact bad_res U36
set_option maxRecDepth 100000 in
set_option maxHeartbeats 4000000 in
theorem files_pn1 {A : Option Addr} {cp : Nat} {b : List Int} {w : World} {c : Int} (n1 : (c == 20) = false) (n2 : (c == 21) = false) : Calls Try.prog 43 #[.int .i64 1, .int .u8 c, .slice A b.length cp] w (PMsg (parseOf filesForm 1 c b) w) := by
 refine enm 77 Try.func43 rfl <| sg <| L0 <| Oal mZ fun g10 w11 hg12 B13 hu14 => Pl 1 <| nt <| sq <| sg <| Pl 6 <| nt <| c0 <| ?_
 refine skn <| sg <| Pl 2 <| L0 <| Oc (args := #[.int .i64 1, .int .u8 c]) <| m1 (rules_no (dir := 1) (x := c) n1 n2) fun w15 hu16 => Pl 3 <| L0 <| Oal #[.nilFunc, .nilFunc] fun g17 w18 hg19 B20 hu21 => L0 <| Osw B20 #[.nilFunc, .nilFunc] fun w22 B23 hu24 => Pl 1 <| nt <| sq <| sq <| ?_
 refine go <| Pl 2 <| nt <| c1 <| sg <| Pl 1 <| ?_
 have U25 := ut0 hu16 hu21
 have U26 := u1 U25 hu24 (ni hu16.size hg19)
 have r27 := ub U26 B13
 refine L0 <| Osw r27 mZ fun w28 B29 hu30 => Pl 1 <| nt <| rt <| tr <| ry B29 (.int .i64 4) <| ?_
 have U33 := ut0 hu14 hu16
 have U34 := ut0 U33 hu21
 have U35 := u1 U34 hu24 (ni U33.size hg19)
 have U36 := u1 U35 hu30 (nr hg12)
 have hs : parseOf filesForm 1 c b = (Msg.zero, 4) := by
   unfold parseOf filesForm 
   (try simp only [bs, if_true, if_false, decide_true, decide_false, eq_self, true_or, or_true, or_false, false_or, if_true, if_false, i00, i01, i10, i11, reduceIte, n1, n2])
   all_goals rfl
 rw [hs]
 exact bad_res U36
set_option maxRecDepth 100000 in
set_option maxHeartbeats 4000000 in
theorem files_pnx {A : Option Addr} {cp : Nat} {b : List Int} {w : World} {dir c : Int} (hd : ¬ (dir = 0 ∨ dir = 1)) : Calls Try.prog 43 #[.int .i64 dir, .int .u8 c, .slice A b.length cp] w (PMsg (parseOf filesForm dir c b) w) := by
 have e0 : (dir != 0) = true := by simp; omega
 have e1 : (dir != 1) = true := by simp; omega
 refine enm 77 Try.func43 rfl <| sg <| L0 <| Oal mZ fun g10 w11 hg12 B13 hu14 => Pl 1 <| nt <| sq <| sg <| Pl 3 <| sy 18 e0 <| Pl 3 <| nl <| ?_
 refine tn <| ct e1 <| sg <| Pl 1 <| L0 <| Osw B13 mZ fun w15 B16 hu17 => Pl 1 <| nt <| rt <| tr <| ry B16 (.int .i64 1) <| ?_
 have U20 := u1 hu14 hu17 (nr hg12)
 have hs : parseOf filesForm dir c b = (Msg.zero, 1) := by
   unfold parseOf filesForm 
   (try simp only [e0, e1, bs, if_true, if_false, decide_true, decide_false, eq_self, true_or, or_true, or_false, false_or, if_true, if_false, i00, i01, i10, i11, reduceIte, hd])
   all_goals rfl
 rw [hs]
 exact bad_res U20
theorem files_parse {m : Bool} {v : Value} {b : List Int} {w : World} {dir c : Int} (hc : B8 c) (h : RdB m w v b) (hb : b.length ≤ 1048576) :
    Calls Try.prog 43 #[.int .i64 dir, .int .u8 c, v] w (PMsg (parseOf filesForm dir c b) w) := by
  obtain ⟨A, cp, rfl, _, _⟩ := h.shape
  by_cases h0 : dir = 0
  · subst h0
    by_cases h20 : c = 20
    · subst h20; exact files_p20_0 (Or.inl (rfl : (0 : Int) = 0)) h hb
    by_cases h21 : c = 21
    · subst h21; exact files_p21 (Or.inl rfl) h hb
    exact files_pn0 (by simpa using h20) (by simpa using h21)
  by_cases h1 : dir = 1
  · subst h1
    by_cases h20 : c = 20
    · subst h20; exact files_p20_1 (Or.inl (rfl : (0 : Int) = 0)) h hb
    by_cases h21 : c = 21
    · subst h21; exact files_p21 (Or.inr rfl) h hb
    exact files_pn1 (by simpa using h20) (by simpa using h21)
  exact files_pnx (by omega)
open Go.RowKit
def objsR : Nat → Cur → List Obj → Cur × List Obj
  | 0, C, L => (C, L)
  | n + 1, C, L => objsR n (((C.bytesC 1).bytesC 1).bytesC (C.bytesC 1).byteV) (L ++ [⟨C.byteV, ((C.bytesC 1).bytesC 1).bytesR (C.bytesC 1).byteV⟩])
def mei1 (C : Cur) : Cur := (C.bytesC 1).need (levelB C.byteV) 6
def mei2 (C : Cur) : Cur := ((mei1 C).bytesC 1).need ((mei1 C).byteV == 0 || (mei1 C).byteV == 255) 6
def mei3 (C : Cur) : Cur := ((mei2 C).bytesC 1).need ((mei1 C).byteV != 0 || (mei2 C).byteV == 0) 6
def mei4 (kd : Int) (C : Cur) : Cur := ((mei3 C).bytesC 1).need (kd != 4 || (mei3 C).byteV == 1) 5
def meiObjs (kd : Int) (C : Cur) : Cur × List Obj := objsR (mei3 C).byteV.toNat (mei4 kd C) []
set_option maxRecDepth 100000 in
set_option maxHeartbeats 4000000 in
theorem meians_any {g gm : Nat} {c me kd : Int} {C0 : Cur} {w : World} (hcode : B8 c) (hme : B8 me) (hkd : B8 kd) (hC : CurAt w g C0) (hm : w.heap[gm]? = some (.cells #[.int .u8 c, .int .u8 0, .int .u16 0, .int .u16 0, .int .u16 0, .int .u16 0, .int .u16 0, .int .u16 0, .int .u16 0, .int .u16 0, .int .u16 0, .int .u16 0, .slice none 0 0, .slice none 0 0, .slice none 0 0, .slice none 0 0, .int .u8 me, .int .u8 kd, .int .u8 0, .int .u8 0, .int .u8 0, .slice none 0 0] 29 (0, 0))) (hne : g ≠ gm) :
    Calls Try.prog 70 #[.pointer (some ⟨g, 0, none⟩), .pointer (some ⟨gm, 0, none⟩)] w (PFormG g gm (meiObjs kd C0).1 { Msg.zero with code := c, mei := me, kind := kd, level := C0.byteV, more := (mei1 C0).byteV, next := (mei2 C0).byteV, objects := (meiObjs kd C0).2 } w) := by
 obtain ⟨hcode1, hcode2⟩ := hcode
 obtain ⟨hme1, hme2⟩ := hme
 obtain ⟨hkd1, hkd2⟩ := hkd
 refine en 92 Try.func70 rfl <| sg <| Pl 2 <| L0 <| Oc <| m3 (byte_any hC) fun w10 hc11 hu12 hr13 => Pl 2 <| ?_
 have r14 := ub1 hu12 (Ne.symm hne) hm
 refine L0 <| Ost r14 18 (mG c 0 0 0 0 0 0 0 0 0 0 0 nS nS nS nS me kd C0.byteV 0 0 nS) fun w15 B16 hu17 => ng <| Pl 4 <| L0 <| Olb B16 18 <| L0 <| Oc <| m1 (level_any (x := C0.byteV) (w := _)) fun w18 hu19 => ?_
 have U20 := ut0 hu17 hu19
 have r21 := CurAt.upd hc11 U20 (not_cons hne not0) (safe_cons (safe1 r14 (by decide)) safe0)
 refine L0 <| Oc <| m2 (need_any ((levelB C0.byteV)) 6 r21) fun w22 hc23 hu24 => ?_
 refine ab hc23 fun x25 ex26 hc27 => ?_
 refine ng <| Pl 2 <| L0 <| Oc <| m3 (byte_any hc27) fun w28 hc29 hu30 hr31 => Pl 2 <| ?_
 have U32 := u1 (Upd.mono (S' := [g]) hu19 all0) hu24 im
 have U33 := u1 U32 hu30 im
 have r34 := ub1 U33 (Ne.symm hne) B16
 refine L0 <| Ost r34 19 (mG c 0 0 0 0 0 0 0 0 0 0 0 nS nS nS nS me kd C0.byteV x25.byteV 0 nS) fun w35 B36 hu37 => ng <| Pl 4 <| L0 <| Olb B36 19 <| Pl 2 <| cu 6 [29] 35 (((x25.byteV == 0) || (x25.byteV == 255))) (fun K K39 => ?_) ?_
 refine bl 29 ((x25.byteV == 0)) (fun q38 => ?_) (fun q38 => ?_)
 have q38p := eq_of_beqi q38
 exact Pl 6 <| ce K39 true (by rw [q38]; rfl)
 have q38p := ne_of_beqi q38
 exact Pl 3 <| L1 <| Olb B36 19 <| Pl 2 <| ce K39 (x25.byteV == 255) (by rw [q38]; rfl)
 have r40 := CurAt.upd hc29 hu37 (not_cons hne not0) (safe_cons (safe1 r34 (by decide)) safe0)
 refine L0 <| Oc <| m2 (need_any (((x25.byteV == 0) || (x25.byteV == 255))) 6 r40) fun w41 hc42 hu43 => ?_
 refine ab hc42 fun x44 ex45 hc46 => ?_
 refine ng <| Pl 2 <| L0 <| Oc <| m3 (byte_any hc46) fun w47 hc48 hu49 hr50 => Pl 2 <| ?_
 have U51 := u1 hu43 hu49 im
 have r52 := ub1 U51 (Ne.symm hne) B36
 refine L0 <| Ost r52 20 (mG c 0 0 0 0 0 0 0 0 0 0 0 nS nS nS nS me kd C0.byteV x25.byteV x44.byteV nS) fun w53 B54 hu55 => ng <| Pl 4 <| L0 <| Olb B54 19 <| Pl 2 <| cu 6 [48] 54 (((x25.byteV != 0) || (x44.byteV == 0))) (fun K K57 => ?_) ?_
 refine bl 48 ((x25.byteV != 0)) (fun q56 => ?_) (fun q56 => ?_)
 have q56p := ne_of_bnei q56
 exact Pl 6 <| ce K57 true (by rw [q56]; rfl)
 have q56p := eq_of_bnei q56
 exact Pl 3 <| L1 <| Olb B54 20 <| Pl 2 <| ce K57 (x44.byteV == 0) (by rw [q56]; rfl)
 have r58 := CurAt.upd hc48 hu55 (not_cons hne not0) (safe_cons (safe1 r52 (by decide)) safe0)
 refine L0 <| Oc <| m2 (need_any (((x25.byteV != 0) || (x44.byteV == 0))) 6 r58) fun w59 hc60 hu61 => ?_
 refine ab hc60 fun x62 ex63 hc64 => ?_
 refine ng <| Pl 1 <| L0 <| Oc <| m3 (byte_any hc64) fun w65 hc66 hu67 hr68 => L0 <| Oi x62.byteV <| Pl 1 <| ng <| Pl 4 <| ?_
 have U69 := u1 hu61 hu67 im
 have r70 := ub1 U69 (Ne.symm hne) B54
 refine L0 <| Olb r70 17 <| Pl 2 <| cu 3 [65] 68 (((kd != 4) || (x62.byteV == 1))) (fun K K72 => ?_) ?_
 refine bl 65 ((kd != 4)) (fun q71 => ?_) (fun q71 => ?_)
 have q71p := ne_of_bnei q71
 exact Pl 3 <| ce K72 true (by rw [q71]; rfl)
 have q71p := eq_of_bnei q71
 exact Pl 3 <| ce K72 (x62.byteV == 1) (by rw [q71]; rfl)
 refine L0 <| Oc <| m2 (need_any (((kd != 4) || (x62.byteV == 1))) 5 hc66) fun w73 hc74 hu75 => ?_
 refine ab hc74 fun x76 ex77 hc78 => ?_
 refine ng <| Pl 2 <| nt <| bk <| ?_
 have r79 := ub1 hu75 (Ne.symm hne) r70
 refine glp (fun x => [(0, .pointer (some ⟨g, 0, none⟩)), (1, .pointer (some ⟨gm, 0, none⟩)), (70, .int .i64 x62.byteV), (71, .int .i64 ((x.1 : Nat) : Int))]) (fun (x : Nat × Cur × List Obj × Option Addr × Nat) w' => Upd [g, gm] w73 w' ∧ CurAt w' g x.2.1 ∧ w'.heap[gm]? = some (.cells #[.int .u8 c, .int .u8 0, .int .u16 0, .int .u16 0, .int .u16 0, .int .u16 0, .int .u16 0, .int .u16 0, .int .u16 0, .int .u16 0, .int .u16 0, .int .u16 0, .slice none 0 0, .slice none 0 0, .slice none 0 0, .slice none 0 0, .int .u8 me, .int .u8 kd, .int .u8 C0.byteV, .int .u8 x25.byteV, .int .u8 x44.byteV, .slice x.2.2.2.1 x.2.2.1.length x.2.2.2.2] 29 (0, 0)) ∧ OwnG w73.heap.size 59 2 (objR true) w' (.slice x.2.2.2.1 x.2.2.1.length x.2.2.2.2) x.2.2.1 ∧ (x.1 ≤ x62.byteV.toNat) ∧ (objsR (x62.byteV.toNat - x.1) x.2.1 x.2.2.1 = objsR x62.byteV.toNat x76 []) ∧ (x.2.2.1.length ≤ x.1)) (fun x => x62.byteV.toNat - x.1) (0, x76, [], none, 0) ⟨Upd.refl _ _, hc78, r79, OwnG.nil .., (by (try dsimp only); omega), (by (try dsimp only); rw [Nat.sub_zero]), (by (try dsimp only); (try simp only [List.length_append, List.length_cons, List.length_nil]); omega)⟩ ?_
 rintro ⟨k, C, L, A, cp⟩ w80 ⟨hu81, f82, f83, f84, p85, p86, p87⟩
 refine wkc [(0, .pointer (some ⟨g, 0, none⟩)), (1, .pointer (some ⟨gm, 0, none⟩)), (70, .int .i64 x62.byteV), (71, .int .i64 ((k : Nat) : Int))] ?_
 have f89 : CurAt w80 g C := f82
 have f90 : w80.heap[gm]? = some (.cells #[.int .u8 c, .int .u8 0, .int .u16 0, .int .u16 0, .int .u16 0, .int .u16 0, .int .u16 0, .int .u16 0, .int .u16 0, .int .u16 0, .int .u16 0, .int .u16 0, .slice none 0 0, .slice none 0 0, .slice none 0 0, .slice none 0 0, .int .u8 me, .int .u8 kd, .int .u8 C0.byteV, .int .u8 x25.byteV, .int .u8 x44.byteV, .slice A L.length cp] 29 (0, 0)) := f83
 have f91 : OwnG w73.heap.size 59 2 (objR true) w80 (.slice A L.length cp) L := f84
 have p92 : k ≤ x62.byteV.toNat := p85
 have p93 : objsR (x62.byteV.toNat - k) C L = objsR x62.byteV.toNat x76 [] := p86
 have p94 : L.length ≤ k := p87
 have hobj : objsR (x62.byteV.toNat - k) C L = objsR x62.byteV.toNat x76 [] := by assumption
 refine sg <| Pl 1 <| nt <| sq <| ?_
 have U95 := u1 (Upd.mono (S' := [g, gm]) hu12 (ac im all0)) hu17 im
 have U96 := ut0 U95 hu19
 have U97 := u1 U96 hu24 im
 have U98 := u1 U97 hu30 im
 have U99 := u1 U98 hu37 im
 have U100 := u1 U99 hu43 im
 have U101 := u1 U100 hu49 im
 have U102 := u1 U101 hu55 im
 have U103 := u1 U102 hu61 im
 have U104 := u1 U103 hu67 im
 have U105 := u1 U104 hu75 im
 have U106 := ut U105 hu81 (ac im (ac im all0))
 refine cb ((decide (((k : Nat) : Int) < x62.byteV))) (fun q107 => ?_) (fun q107 => ?_)
 have q107p := of_decide_eq_true q107
 refine skn <| sq <| bk <| sg <| Pl 1 <| L0 <| Oc <| m3 (byte_any f89) fun w108 hc109 hu110 hr111 => Pl 1 <| nt <| Rg 17 (fun w' => True) fun w301 hu302 => hld trivial fun hS303 => Rt 0 hS303 <| ?_
 refine Rt 1 hS303 <| Rt 2 hS303 <| Rt 3 hS303 <| Rt 5 hS303 <| Rt 6 hS303 <| Rt 7 hS303 <| ?_
 refine R2 4 8 rfl rfl ?_ ?_
 have U304 := ut0 hu110 hu302
 have r305 := ub1 U304 (Ne.symm hne) f90
 refine  Olb r305 21 <| hld trivial fun hS306 => ?_
 have r307 := CurAt.old hc109 hu302
 refine R0 8 rfl <| Oc <| m3 (byte_any r307) fun w308 hc309 hu310 hr311 => hld trivial fun hS312 => Rr 9 hS312 (.int .i64 ((C.bytesC 1).byteV)) (fun _ _ => run_eqo (.int .i64 (IntKind.i64.wrap ((C.bytesC 1).byteV))) (by kernel_rfl) (congrArg (Value.int .i64) (i64_in (by omega)))) <| R0 10 rfl <| Oc <| sr3 (bytes_any (n := (C.bytesC 1).byteV) hc309) fun A322 cp323 w313 rd326 hl324 hm325 hc316 hu317 => ?_
 have hlb318 := Nat.le_trans (Cur.bytesR_le ((C.bytesC 1).bytesC 1) ((C.bytesC 1).byteV)) (CurAt.len hc309)
 refine ab hc316 fun x319 ex320 hc321 => ?_
 refine hld trivial fun hS327 => Rt 11 hS327 <| R0 12 rfl <| Olt (m := 1) (e := 59) #[.int .u8 C.byteV, .slice A322 ((((C.bytesC 1).bytesC 1).bytesR ((C.bytesC 1).byteV)).length) cp323] fun g328 w329 hg330 B331 hu332 => ?_
 have r333 := RdB.upd' rd326 hu332 safe0
 have ol334 := lit1 (R := objR true) (x := (Obj.mk C.byteV (((C.bytesC 1).bytesC 1).bytesR ((C.bytesC 1).byteV)))) B331 rfl ⟨_, rfl, r333, b8 (by omega)⟩
 refine hld trivial fun hS335 => ?_
 have U336 := u1 U304 hu310 im
 have U337 := u1 U336 hu317 im
 have U338 := ut0 U337 hu332
 have r339 := own_stay f91 U338 (fun x hx => (not_cons (fun e => (not_old (CurAt.lt hC) U105.size f91) (e ▸ hx)) not0)) (objR.upd8 U338 (safe_cons (CurAt.safe f89 _ (by decide)) safe0))
 refine R0 13 rfl <| Oappg (xs := L) (ys := ([(Obj.mk C.byteV (((C.bytesC 1).bytesC 1).bytesR ((C.bytesC 1).byteV)))])) (.agg #[.int .u8 0, .slice none 0 0]) 2 32 r339 ol334 (by simp) objR.ones (fun w' hv => objR.upd8 hv (safe_app (ob_safe _ r339 (by decide)) safe0)) (by (try simp only [List.length_append, List.length_cons, List.length_nil, putW_length]); omega) (le (le (le (le (le hu81.size hu110.size) hu302.size) hu310.size) hu317.size) hu332.size) fun A340 cp341 w342 ho343 hu344 => hld trivial fun hS347 => Rt 14 hS347 <| Rt 15 hS347 <| ?_
 have U348 := u1 hu310 hu317 im
 have U349 := ut0 U348 hu332
 have U350 := ut (Upd.mono (S' := (g :: (ob A ++ []))) U349 (ac im all0)) hu344 (all_app (fun x hx => Or.inl (by simp [hx])) all0)
 have r351 := Upd.blk U350 (not_cons (Ne.symm hne) (not_app (not_old (blk_lt hm) U105.size f91) not0)) r305
 refine R0 16 rfl <| Ost r351 21 (mG c 0 0 0 0 0 0 0 0 0 0 0 nS nS nS nS me kd C0.byteV x25.byteV x44.byteV (.slice A340 ((L ++ [(Obj.mk C.byteV (((C.bytesC 1).bytesC 1).bytesR ((C.bytesC 1).byteV)))]).length) cp341)) fun w352 B353 hu354 => hld trivial fun hS355 => re <| bn <| tn <| go <| L0 <| Oi (((k : Nat) : Int) + 1) <| Pl 1 <| nl <| ?_
 subst ex320
 have U356 := u1 hu81 hu110 im
 have U357 := ut0 U356 hu302
 have U358 := u1 U357 hu310 im
 have U359 := u1 U358 hu317 im
 have U360 := ut0 U359 hu332
 have U361 := ut U360 hu344 (all_app (ob_new f91 lr) all0)
 have U362 := u1 U361 hu354 im
 have U363 := ut (Upd.mono (S' := (ob A ++ [])) hu332 all0) hu344 (all_app (fun x hx => Or.inl (by simp [hx])) all0)
 have U364 := u1 (Upd.mono (S' := (ob A ++ (gm :: []))) U363 (all_app (fun x hx => Or.inl (by simp [hx])) all0)) hu354 im
 have r365 := ub1 U348 (Ne.symm hne) r305
 have r366 := own_stay f91 U337 (fun x hx => (not_cons (fun e => (not_old (CurAt.lt hC) U105.size f91) (e ▸ hx)) not0)) (objR.upd8 U337 (safe_cons (CurAt.safe f89 _ (by decide)) safe0))
 have r367 := CurAt.upd hc321 U364 (not_app (not_old (CurAt.lt hC) U105.size f91) (not_cons hne not0)) (safe_app (ob_safe _ r366 (by decide)) (safe_cons (safe1 r365 (by decide)) safe0))
 have r368 := own_stay ho343 hu354 (fun x hx => (not_cons (fun e => (not_old (blk_lt hm) U105.size ho343) (e ▸ hx)) not0)) (objR.upd8 hu354 (safe_cons (safe1 r351 (by decide)) safe0))
 exact lpe ((k + 1), (((C.bytesC 1).bytesC 1).bytesC ((C.bytesC 1).byteV)), (L ++ [(Obj.mk C.byteV (((C.bytesC 1).bytesC 1).bytesR ((C.bytesC 1).byteV)))]), A340, cp341) ⟨U362, r367, B353, r368, (by (try dsimp only); omega), (by (try dsimp only); rw [← hobj, show x62.byteV.toNat - k = (x62.byteV.toNat - (k + 1)) + 1 from by omega]; rfl), (by (try dsimp only); (try simp only [List.length_append, List.length_cons, List.length_nil]); omega)⟩ (by omega)
 have r369 := CurAt.old hc109 hu302
 refine  Oc <| m3 (byte_any r369) fun w370 hc371 hu372 hr373 => hld trivial fun hS374 => Rr 9 hS374 (.int .i64 ((C.bytesC 1).byteV)) (fun _ _ => run_eqo (.int .i64 (IntKind.i64.wrap ((C.bytesC 1).byteV))) (by kernel_rfl) (congrArg (Value.int .i64) (i64_in (by omega)))) <| ?_
 refine R2 4 10 rfl rfl ?_ ?_
 have U375 := ut0 hu110 hu302
 have U376 := u1 U375 hu372 im
 have r377 := ub1 U376 (Ne.symm hne) f90
 refine  Olb r377 21 <| hld trivial fun hS378 => R0 10 rfl <| Oc <| sr3 (bytes_any (n := (C.bytesC 1).byteV) hc371) fun A388 cp389 w379 rd392 hl390 hm391 hc382 hu383 => ?_
 have hlb384 := Nat.le_trans (Cur.bytesR_le ((C.bytesC 1).bytesC 1) ((C.bytesC 1).byteV)) (CurAt.len hc371)
 refine ab hc382 fun x385 ex386 hc387 => ?_
 refine hld trivial fun hS393 => Rt 11 hS393 <| R0 12 rfl <| Olt (m := 1) (e := 59) #[.int .u8 C.byteV, .slice A388 ((((C.bytesC 1).bytesC 1).bytesR ((C.bytesC 1).byteV)).length) cp389] fun g394 w395 hg396 B397 hu398 => ?_
 have r399 := RdB.upd' rd392 hu398 safe0
 have ol400 := lit1 (R := objR true) (x := (Obj.mk C.byteV (((C.bytesC 1).bytesC 1).bytesR ((C.bytesC 1).byteV)))) B397 rfl ⟨_, rfl, r399, b8 (by omega)⟩
 refine hld trivial fun hS401 => ?_
 have U402 := u1 U376 hu383 im
 have U403 := ut0 U402 hu398
 have r404 := own_stay f91 U403 (fun x hx => (not_cons (fun e => (not_old (CurAt.lt hC) U105.size f91) (e ▸ hx)) not0)) (objR.upd8 U403 (safe_cons (CurAt.safe f89 _ (by decide)) safe0))
 refine R0 13 rfl <| Oappg (xs := L) (ys := ([(Obj.mk C.byteV (((C.bytesC 1).bytesC 1).bytesR ((C.bytesC 1).byteV)))])) (.agg #[.int .u8 0, .slice none 0 0]) 2 32 r404 ol400 (by simp) objR.ones (fun w' hv => objR.upd8 hv (safe_app (ob_safe _ r404 (by decide)) safe0)) (by (try simp only [List.length_append, List.length_cons, List.length_nil, putW_length]); omega) (le (le (le (le (le hu81.size hu110.size) hu302.size) hu372.size) hu383.size) hu398.size) fun A405 cp406 w407 ho408 hu409 => hld trivial fun hS412 => Rt 14 hS412 <| Rt 15 hS412 <| ?_
 have U413 := ut0 hu383 hu398
 have U414 := ut (Upd.mono (S' := (g :: (ob A ++ []))) U413 (ac im all0)) hu409 (all_app (fun x hx => Or.inl (by simp [hx])) all0)
 have r415 := Upd.blk U414 (not_cons (Ne.symm hne) (not_app (not_old (blk_lt hm) U105.size f91) not0)) r377
 refine R0 16 rfl <| Ost r415 21 (mG c 0 0 0 0 0 0 0 0 0 0 0 nS nS nS nS me kd C0.byteV x25.byteV x44.byteV (.slice A405 ((L ++ [(Obj.mk C.byteV (((C.bytesC 1).bytesC 1).bytesR ((C.bytesC 1).byteV)))]).length) cp406)) fun w416 B417 hu418 => hld trivial fun hS419 => re <| bn <| tn <| go <| L0 <| Oi (((k : Nat) : Int) + 1) <| Pl 1 <| nl <| ?_
 subst ex386
 have U420 := u1 hu81 hu110 im
 have U421 := ut0 U420 hu302
 have U422 := u1 U421 hu372 im
 have U423 := u1 U422 hu383 im
 have U424 := ut0 U423 hu398
 have U425 := ut U424 hu409 (all_app (ob_new f91 lr) all0)
 have U426 := u1 U425 hu418 im
 have U427 := ut (Upd.mono (S' := (ob A ++ [])) hu398 all0) hu409 (all_app (fun x hx => Or.inl (by simp [hx])) all0)
 have U428 := u1 (Upd.mono (S' := (ob A ++ (gm :: []))) U427 (all_app (fun x hx => Or.inl (by simp [hx])) all0)) hu418 im
 have r429 := ub1 hu383 (Ne.symm hne) r377
 have r430 := own_stay f91 U402 (fun x hx => (not_cons (fun e => (not_old (CurAt.lt hC) U105.size f91) (e ▸ hx)) not0)) (objR.upd8 U402 (safe_cons (CurAt.safe f89 _ (by decide)) safe0))
 have r431 := CurAt.upd hc387 U428 (not_app (not_old (CurAt.lt hC) U105.size f91) (not_cons hne not0)) (safe_app (ob_safe _ r430 (by decide)) (safe_cons (safe1 r429 (by decide)) safe0))
 have r432 := own_stay ho408 hu418 (fun x hx => (not_cons (fun e => (not_old (blk_lt hm) U105.size ho408) (e ▸ hx)) not0)) (objR.upd8 hu418 (safe_cons (safe1 r415 (by decide)) safe0))
 exact lpe ((k + 1), (((C.bytesC 1).bytesC 1).bytesC ((C.bytesC 1).byteV)), (L ++ [(Obj.mk C.byteV (((C.bytesC 1).bytesC 1).bytesR ((C.bytesC 1).byteV)))]), A405, cp406) ⟨U426, r431, B417, r432, (by (try dsimp only); omega), (by (try dsimp only); rw [← hobj, show x62.byteV.toNat - k = (x62.byteV.toNat - (k + 1)) + 1 from by omega]; rfl), (by (try dsimp only); (try simp only [List.length_append, List.length_cons, List.length_nil]); omega)⟩ (by omega)
 refine  Oc <| sr3 (bytes_any (n := (C.bytesC 1).byteV) hc371) fun A442 cp443 w433 rd446 hl444 hm445 hc436 hu437 => ?_
 have hlb438 := Nat.le_trans (Cur.bytesR_le ((C.bytesC 1).bytesC 1) ((C.bytesC 1).byteV)) (CurAt.len hc371)
 refine ab hc436 fun x439 ex440 hc441 => ?_
 refine hld trivial fun hS447 => Rt 11 hS447 <| ?_
 refine R2 4 12 rfl rfl ?_ ?_
 have U448 := ut0 hu110 hu302
 have U449 := u1 U448 hu372 im
 have U450 := u1 U449 hu437 im
 have r451 := ub1 U450 (Ne.symm hne) f90
 refine  Olb r451 21 <| hld trivial fun hS452 => R0 12 rfl <| Olt (m := 1) (e := 59) #[.int .u8 C.byteV, .slice A442 ((((C.bytesC 1).bytesC 1).bytesR ((C.bytesC 1).byteV)).length) cp443] fun g453 w454 hg455 B456 hu457 => ?_
 have r458 := RdB.upd' rd446 hu457 safe0
 have ol459 := lit1 (R := objR true) (x := (Obj.mk C.byteV (((C.bytesC 1).bytesC 1).bytesR ((C.bytesC 1).byteV)))) B456 rfl ⟨_, rfl, r458, b8 (by omega)⟩
 refine hld trivial fun hS460 => ?_
 have U461 := ut0 U450 hu457
 have r462 := own_stay f91 U461 (fun x hx => (not_cons (fun e => (not_old (CurAt.lt hC) U105.size f91) (e ▸ hx)) not0)) (objR.upd8 U461 (safe_cons (CurAt.safe f89 _ (by decide)) safe0))
 refine R0 13 rfl <| Oappg (xs := L) (ys := ([(Obj.mk C.byteV (((C.bytesC 1).bytesC 1).bytesR ((C.bytesC 1).byteV)))])) (.agg #[.int .u8 0, .slice none 0 0]) 2 32 r462 ol459 (by simp) objR.ones (fun w' hv => objR.upd8 hv (safe_app (ob_safe _ r462 (by decide)) safe0)) (by (try simp only [List.length_append, List.length_cons, List.length_nil, putW_length]); omega) (le (le (le (le (le hu81.size hu110.size) hu302.size) hu372.size) hu437.size) hu457.size) fun A463 cp464 w465 ho466 hu467 => hld trivial fun hS470 => Rt 14 hS470 <| Rt 15 hS470 <| ?_
 have U471 := ut (Upd.mono (S' := (ob A ++ [])) hu457 all0) hu467 (all_app (fun x hx => Or.inl (by simp [hx])) all0)
 have r472 := Upd.blk U471 (not_app (not_old (blk_lt hm) U105.size f91) not0) r451
 refine R0 16 rfl <| Ost r472 21 (mG c 0 0 0 0 0 0 0 0 0 0 0 nS nS nS nS me kd C0.byteV x25.byteV x44.byteV (.slice A463 ((L ++ [(Obj.mk C.byteV (((C.bytesC 1).bytesC 1).bytesR ((C.bytesC 1).byteV)))]).length) cp464)) fun w473 B474 hu475 => hld trivial fun hS476 => re <| bn <| tn <| go <| L0 <| Oi (((k : Nat) : Int) + 1) <| Pl 1 <| nl <| ?_
 subst ex440
 have U477 := u1 hu81 hu110 im
 have U478 := ut0 U477 hu302
 have U479 := u1 U478 hu372 im
 have U480 := u1 U479 hu437 im
 have U481 := ut0 U480 hu457
 have U482 := ut U481 hu467 (all_app (ob_new f91 lr) all0)
 have U483 := u1 U482 hu475 im
 have U484 := u1 (Upd.mono (S' := (ob A ++ (gm :: []))) U471 (all_app (fun x hx => Or.inl (by simp [hx])) all0)) hu475 im
 have r485 := own_stay f91 U450 (fun x hx => (not_cons (fun e => (not_old (CurAt.lt hC) U105.size f91) (e ▸ hx)) not0)) (objR.upd8 U450 (safe_cons (CurAt.safe f89 _ (by decide)) safe0))
 have r486 := CurAt.upd hc441 U484 (not_app (not_old (CurAt.lt hC) U105.size f91) (not_cons hne not0)) (safe_app (ob_safe _ r485 (by decide)) (safe_cons (safe1 r451 (by decide)) safe0))
 have r487 := own_stay ho466 hu475 (fun x hx => (not_cons (fun e => (not_old (blk_lt hm) U105.size ho466) (e ▸ hx)) not0)) (objR.upd8 hu475 (safe_cons (safe1 r472 (by decide)) safe0))
 exact lpe ((k + 1), (((C.bytesC 1).bytesC 1).bytesC ((C.bytesC 1).byteV)), (L ++ [(Obj.mk C.byteV (((C.bytesC 1).bytesC 1).bytesR ((C.bytesC 1).byteV)))]), A463, cp464) ⟨U483, r486, B474, r487, (by (try dsimp only); omega), (by (try dsimp only); rw [← hobj, show x62.byteV.toNat - k = (x62.byteV.toNat - (k + 1)) + 1 from by omega]; rfl), (by (try dsimp only); (try simp only [List.length_append, List.length_cons, List.length_nil]); omega)⟩ (by omega)
 refine  Olt (m := 1) (e := 59) #[.int .u8 C.byteV, .slice A442 ((((C.bytesC 1).bytesC 1).bytesR ((C.bytesC 1).byteV)).length) cp443] fun g488 w489 hg490 B491 hu492 => ?_
 have r493 := RdB.upd' rd446 hu492 safe0
 have ol494 := lit1 (R := objR true) (x := (Obj.mk C.byteV (((C.bytesC 1).bytesC 1).bytesR ((C.bytesC 1).byteV)))) B491 rfl ⟨_, rfl, r493, b8 (by omega)⟩
 refine hld trivial fun hS495 => ?_
 have U496 := ut0 hu110 hu302
 have U497 := u1 U496 hu372 im
 have U498 := u1 U497 hu437 im
 have U499 := ut0 U498 hu492
 have r500 := ub1 U499 (Ne.symm hne) f90
 refine R0 4 rfl <| Olb r500 21 <| hld trivial fun hS501 => ?_
 have r502 := own_stay f91 U499 (fun x hx => (not_cons (fun e => (not_old (CurAt.lt hC) U105.size f91) (e ▸ hx)) not0)) (objR.upd8 U499 (safe_cons (CurAt.safe f89 _ (by decide)) safe0))
 refine R0 13 rfl <| Oappg (xs := L) (ys := ([(Obj.mk C.byteV (((C.bytesC 1).bytesC 1).bytesR ((C.bytesC 1).byteV)))])) (.agg #[.int .u8 0, .slice none 0 0]) 2 32 r502 ol494 (by simp) objR.ones (fun w' hv => objR.upd8 hv (safe_app (ob_safe _ r502 (by decide)) safe0)) (by (try simp only [List.length_append, List.length_cons, List.length_nil, putW_length]); omega) (le (le (le (le (le hu81.size hu110.size) hu302.size) hu372.size) hu437.size) hu492.size) fun A503 cp504 w505 ho506 hu507 => hld trivial fun hS510 => Rt 14 hS510 <| Rt 15 hS510 <| ?_
 have r511 := Upd.blk hu507 (not_app (not_old (blk_lt hm) U105.size f91) not0) r500
 refine R0 16 rfl <| Ost r511 21 (mG c 0 0 0 0 0 0 0 0 0 0 0 nS nS nS nS me kd C0.byteV x25.byteV x44.byteV (.slice A503 ((L ++ [(Obj.mk C.byteV (((C.bytesC 1).bytesC 1).bytesR ((C.bytesC 1).byteV)))]).length) cp504)) fun w512 B513 hu514 => hld trivial fun hS515 => re <| bn <| tn <| go <| L0 <| Oi (((k : Nat) : Int) + 1) <| Pl 1 <| nl <| ?_
 subst ex440
 have U516 := u1 hu81 hu110 im
 have U517 := ut0 U516 hu302
 have U518 := u1 U517 hu372 im
 have U519 := u1 U518 hu437 im
 have U520 := ut0 U519 hu492
 have U521 := ut U520 hu507 (all_app (ob_new f91 lr) all0)
 have U522 := u1 U521 hu514 im
 have U523 := ut (Upd.mono (S' := (ob A ++ [])) hu492 all0) hu507 (all_app (fun x hx => Or.inl (by simp [hx])) all0)
 have U524 := u1 (Upd.mono (S' := (ob A ++ (gm :: []))) U523 (all_app (fun x hx => Or.inl (by simp [hx])) all0)) hu514 im
 have r525 := ub1 U498 (Ne.symm hne) f90
 have r526 := own_stay f91 U498 (fun x hx => (not_cons (fun e => (not_old (CurAt.lt hC) U105.size f91) (e ▸ hx)) not0)) (objR.upd8 U498 (safe_cons (CurAt.safe f89 _ (by decide)) safe0))
 have r527 := CurAt.upd hc441 U524 (not_app (not_old (CurAt.lt hC) U105.size f91) (not_cons hne not0)) (safe_app (ob_safe _ r526 (by decide)) (safe_cons (safe1 r525 (by decide)) safe0))
 have r528 := own_stay ho506 hu514 (fun x hx => (not_cons (fun e => (not_old (blk_lt hm) U105.size ho506) (e ▸ hx)) not0)) (objR.upd8 hu514 (safe_cons (safe1 r511 (by decide)) safe0))
 exact lpe ((k + 1), (((C.bytesC 1).bytesC 1).bytesC ((C.bytesC 1).byteV)), (L ++ [(Obj.mk C.byteV (((C.bytesC 1).bytesC 1).bytesR ((C.bytesC 1).byteV)))]), A503, cp504) ⟨U522, r527, B513, r528, (by (try dsimp only); omega), (by (try dsimp only); rw [← hobj, show x62.byteV.toNat - k = (x62.byteV.toNat - (k + 1)) + 1 from by omega]; rfl), (by (try dsimp only); (try simp only [List.length_append, List.length_cons, List.length_nil]); omega)⟩ (by omega)
 have q107p := of_decide_eq_false q107
 refine xt <| tx <| tx <| bx <| rm (.tuple #[]) <| ?_
 subst ex77 ex63 ex45 ex26
 have hf : meiObjs kd C0 = (C, L) := by
   have h1 : objsR ((((((C0.bytesC 1).need (levelB C0.byteV) 6).bytesC 1).need ((((C0.bytesC 1).need (levelB C0.byteV) 6).byteV == 0) || (((C0.bytesC 1).need (levelB C0.byteV) 6).byteV == 255)) 6).bytesC 1).need ((((C0.bytesC 1).need (levelB C0.byteV) 6).byteV != 0) || (((((C0.bytesC 1).need (levelB C0.byteV) 6).bytesC 1).need ((((C0.bytesC 1).need (levelB C0.byteV) 6).byteV == 0) || (((C0.bytesC 1).need (levelB C0.byteV) 6).byteV == 255)) 6).byteV == 0)) 6).byteV.toNat ((((((((C0.bytesC 1).need (levelB C0.byteV) 6).bytesC 1).need ((((C0.bytesC 1).need (levelB C0.byteV) 6).byteV == 0) || (((C0.bytesC 1).need (levelB C0.byteV) 6).byteV == 255)) 6).bytesC 1).need ((((C0.bytesC 1).need (levelB C0.byteV) 6).byteV != 0) || (((((C0.bytesC 1).need (levelB C0.byteV) 6).bytesC 1).need ((((C0.bytesC 1).need (levelB C0.byteV) 6).byteV == 0) || (((C0.bytesC 1).need (levelB C0.byteV) 6).byteV == 255)) 6).byteV == 0)) 6).bytesC 1).need ((kd != 4) || (((((((C0.bytesC 1).need (levelB C0.byteV) 6).bytesC 1).need ((((C0.bytesC 1).need (levelB C0.byteV) 6).byteV == 0) || (((C0.bytesC 1).need (levelB C0.byteV) 6).byteV == 255)) 6).bytesC 1).need ((((C0.bytesC 1).need (levelB C0.byteV) 6).byteV != 0) || (((((C0.bytesC 1).need (levelB C0.byteV) 6).bytesC 1).need ((((C0.bytesC 1).need (levelB C0.byteV) 6).byteV == 0) || (((C0.bytesC 1).need (levelB C0.byteV) 6).byteV == 255)) 6).byteV == 0)) 6).byteV == 1)) 5) [] = (C, L) := by
     rw [← hobj, show ((((((C0.bytesC 1).need (levelB C0.byteV) 6).bytesC 1).need ((((C0.bytesC 1).need (levelB C0.byteV) 6).byteV == 0) || (((C0.bytesC 1).need (levelB C0.byteV) 6).byteV == 255)) 6).bytesC 1).need ((((C0.bytesC 1).need (levelB C0.byteV) 6).byteV != 0) || (((((C0.bytesC 1).need (levelB C0.byteV) 6).bytesC 1).need ((((C0.bytesC 1).need (levelB C0.byteV) 6).byteV == 0) || (((C0.bytesC 1).need (levelB C0.byteV) 6).byteV == 255)) 6).byteV == 0)) 6).byteV.toNat - k = 0 from by omega]
     rfl
   exact h1
 rw [hf]
 exact ⟨rfl, f89, ⟨_, ⟨f90, rfl⟩, ⟨_, _, _, _, _, rfl, RdG.nil .., RdG.nil .., RdG.nil .., RdG.nil .., (f91).rd, ⟨(b8 (x := c) (by omega)), (b8 (x := 0) (by omega)), (b16 (x := 0) (by omega)), (b16 (x := 0) (by omega)), (b16 (x := 0) (by omega)), (b16 (x := 0) (by omega)), (b16 (x := 0) (by omega)), (b16 (x := 0) (by omega)), (b16 (x := 0) (by omega)), (b16 (x := 0) (by omega)), (b16 (x := 0) (by omega)), (b16 (x := 0) (by omega)), (b8 (x := me) (by omega)), (b8 (x := kd) (by omega)), (b8 (x := C0.byteV) (by omega)), (b8 (x := ((C0.bytesC 1).need (levelB C0.byteV) 6).byteV) (by omega)), (b8 (x := ((((C0.bytesC 1).need (levelB C0.byteV) 6).bytesC 1).need ((((C0.bytesC 1).need (levelB C0.byteV) 6).byteV == 0) || (((C0.bytesC 1).need (levelB C0.byteV) 6).byteV == 255)) 6).byteV) (by omega))⟩⟩⟩, U106⟩
open Go.RowKit
def meiA (C : Cur) : Cur := (C.bytesC 1).need (C.byteV == 13 || C.byteV == 14) 8
def meiB (C : Cur) : Cur := (meiA C).need (decide (((meiA C).l.length : Int) ≤ 251)) 5
def meiD (C : Cur) : Cur := ((meiA C).bytesC 1).need (decide (1 ≤ (meiA C).byteV) && decide ((meiA C).byteV ≤ 4)) 6
def meiForm (dir c : Int) (C : Cur) : Option (Cur × Msg) :=
  if c != 43 then none
  else if C.byteV == 13 then some ((meiB C).bytesC ((meiB C).l.length : Int), { Msg.zero with code := c, mei := C.byteV, data := (meiB C).bytesR ((meiB C).l.length : Int) })
  else if dir == 1 then some ((meiObjs (meiA C).byteV (meiD C)).1, { Msg.zero with code := c, mei := C.byteV, kind := (meiA C).byteV, level := (meiD C).byteV, more := (mei1 (meiD C)).byteV, next := (mei2 (meiD C)).byteV, objects := (meiObjs (meiA C).byteV (meiD C)).2 })
  else some ((meiD C).bytesC 1, { Msg.zero with code := c, mei := C.byteV, kind := (meiA C).byteV, next := (meiD C).byteV })
set_option maxRecDepth 100000 in
set_option maxHeartbeats 4000000 in
theorem mei_parse_0 {m : Bool} {A : Option Addr} {cp : Nat} {b : List Int} {w : World} {c : Int} (hcode : B8 c) (hsl : RdB m w (.slice A b.length cp) b) (hb : b.length ≤ 1048576) :
    Calls Try.prog 45 #[.int .i64 0, .int .u8 c, .slice A b.length cp] w (PMsg (parseOf meiForm 0 c b) w) := by
 obtain ⟨hcode1, hcode2⟩ := hcode
 have hln : (b.length : Int) ≤ 1048576 := by omega
 refine en 81 Try.func45 rfl <| sg <| L0 <| Oal mZ fun g10 w11 hg12 B13 hu14 => Pl 1 <| nt <| sq <| bk <| sg <| Pl 7 <| nt <| ?_
 refine c0 <| sg <| Pl 3 <| nt <| cb ((c != 43)) (fun q15 => ?_) (fun q15 => ?_)
 have q15p := ne_of_bnei q15
 refine sg <| Pl 1 <| L0 <| Osw B13 mZ fun w16 B17 hu18 => Pl 1 <| nt <| rt <| br <| tr <| rct B17 (.int .i64 4) <| ?_
 have U19 := u1 hu14 hu18 (nr hg12)
 have hs : parseOf meiForm 0 c b = (Msg.zero, 4) := by
   unfold parseOf meiForm meiB meiD meiA
   (try simp only [q15, bs, if_true, if_false, decide_true, decide_false, eq_self, true_or, or_true, or_false, false_or, if_true, if_false, i00, i01, i10, i11, reduceIte])
   all_goals rfl
 rw [hs]
 exact bad_res U19
 have q15p := eq_of_bnei q15
 refine sk <| bn <| tn <| sg <| Pl 1 <| ?_
 have r20 := RdB.old hsl hu14
 refine L0 <| Oc <| e3 (new_any r20 (by omega)) fun g22 w21 hg23 hc24 hu25 => Pl 1 <| ng <| Pl 2 <| L0 <| Oc <| m3 (byte_any hc24) fun w26 hc27 hu28 hr29 => Pl 1 <| L0 <| Oal mZ fun g30 w31 hg32 B33 hu34 => L0 <| Osw B33 (mG c 0 0 0 0 0 0 0 0 0 0 0 nS nS nS nS ((Cur.mk b false 0).byteV) 0 0 0 0 nS) fun w35 B36 hu37 => nt <| sq <| ?_
 refine go <| Pl 2 <| L0 <| Olb B36 16 <| Pl 2 <| cu 4 [33] 37 (((((Cur.mk b false 0).byteV) == 13) || (((Cur.mk b false 0).byteV) == 14))) (fun K K39 => ?_) ?_
 refine bl 33 ((((Cur.mk b false 0).byteV) == 13)) (fun q38 => ?_) (fun q38 => ?_)
 have q38p := eq_of_beqi q38
 exact Pl 4 <| ce K39 true (by rw [q38]; rfl)
 have q38p := ne_of_beqi q38
 exact Pl 1 <| L1 <| Olb B36 16 <| Pl 2 <| ce K39 (((Cur.mk b false 0).byteV) == 14) (by rw [q38]; rfl)
 have U40 := u1 hu34 hu37 (nr hg32)
 have r41 := CurAt.old hc27 U40
 refine L0 <| Oc <| m2 (need_any (((((Cur.mk b false 0).byteV) == 13) || (((Cur.mk b false 0).byteV) == 14))) 8 r41) fun w42 hc43 hu44 => ?_
 refine ab hc43 fun x45 ex46 hc47 => ?_
 refine nt <| sq <| sg <| Pl 1 <| ?_
 have ne48 := nb (CurAt.lt hc24) hu28.size hg32
 have r49 := ub1 hu44 (Ne.symm ne48) B36
 refine L0 <| Olb r49 16 <| Pl 1 <| nt <| ?_
 have U50 := ut0 hu14 hu25
 have U51 := u1 U50 hu28 (ni hu14.size hg23)
 have U52 := ut0 U51 hu34
 have U53 := u1 U52 hu37 (ni U51.size hg32)
 have U54 := u1 U53 hu44 (ni hu14.size hg23)
 refine cb ((((Cur.mk b false 0).byteV) == 13)) (fun q55 => ?_) (fun q55 => ?_)
 have q55p := eq_of_beqi q55
 refine sg <| Pl 2 <| L0 <| Oc <| mq (left_any hc47) <| ?_
 have hl56 := CurAt.len hc47
 refine Pl 1 <| L0 <| Oc <| m2 (need_any ((decide (((x45.l.length : Nat) : Int) ≤ 251))) 5 hc47) fun w57 hc58 hu59 => ?_
 refine ab hc58 fun x60 ex61 hc62 => ?_
 refine nt <| go <| Pl 2 <| L0 <| Oc <| mq (left_any hc62) <| ?_
 have hl63 := CurAt.len hc62
 refine L0 <| Oc <| sr3 (bytes_any (n := ((x60.l.length : Nat) : Int)) hc62) fun A73 cp74 w64 rd77 hl75 hm76 hc67 hu68 => ?_
 have hlb69 := Nat.le_trans (Cur.bytesR_le x60 ((x60.l.length : Nat) : Int)) (CurAt.len hc62)
 refine ab hc67 fun x70 ex71 hc72 => ?_
 refine Pl 1 <| ?_
 have U78 := u1 hu59 hu68 im
 have r79 := ub1 U78 (Ne.symm ne48) r49
 refine L0 <| Ost r79 14 (mG c 0 0 0 0 0 0 0 0 0 0 0 nS nS (.slice A73 ((x60.bytesR ((x60.l.length : Nat) : Int)).length) cp74) nS ((Cur.mk b false 0).byteV) 0 0 0 0 nS) fun w80 B81 hu82 => ng <| Pl 1 <| ?_
 have r83 := CurAt.upd hc72 hu82 (not_cons ne48 not0) (safe_cons (safe1 r79 (by decide)) safe0)
 refine L0 <| Oc <| m2 (end_any r83) fun w84 hc85 hu86 => nt <| sq <| sg <| Pl 1 <| L0 <| Oc <| mq (err_any hc85) <| ?_
 have hl87 := CurAt.len hc85
 refine Pl 1 <| ng <| Pl 2 <| nt <| ?_
 have U88 := u1 U54 hu59 (ni hu14.size hg23)
 have U89 := u1 U88 hu68 (ni hu14.size hg23)
 have U90 := u1 U89 hu82 (ni U51.size hg32)
 have U91 := u1 U90 hu86 (ni hu14.size hg23)
 refine cb ((x70.endC.e != 0)) (fun q92 => ?_) (fun q92 => ?_)
 have q92p := ne_of_bnei q92
 refine sg <| Pl 2 <| ?_
 have U93 := u1 hu25 hu28 (nr hg23)
 have U94 := ut0 U93 hu34
 have U95 := u1 U94 hu37 (ni U93.size hg32)
 have U96 := u1 U95 hu44 (nr hg23)
 have U97 := u1 U96 hu59 (nr hg23)
 have U98 := u1 U97 hu68 (nr hg23)
 have U99 := u1 U98 hu82 (ni U93.size hg32)
 have U100 := u1 U99 hu86 (nr hg23)
 have r101 := ub U100 B13
 refine L0 <| Osw r101 mZ fun w102 B103 hu104 => Pl 1 <| nt <| rt <| tr <| rct B103 (.int .i64 x70.endC.e) <| ?_
 subst ex71 ex61 ex46
 have U105 := u1 U91 hu104 (nr hg12)
 have U106 := u1 (Upd.mono (S' := [g30, g22]) hu82 (ac im all0)) hu86 im
 have U107 := u1 (Upd.mono (S' := [g30, g22, g10]) U106 (ac im (ac im all0))) hu104 im
 have r108 := ub U98 B13
 have r109 := RdB.upd' rd77 U107 (safe_cons (safe1 r79 (by decide)) (safe_cons (CurAt.safe hc72 _ (by decide)) (safe_cons (safe1 r108 (by decide)) safe0)))
 have hs : parseOf meiForm 0 c b = finish (Msg.mk c 0 0 0 0 0 0 0 0 0 0 0 [] [] (((((Cur.mk b false 0).bytesC 1).need ((((Cur.mk b false 0).byteV) == 13) || (((Cur.mk b false 0).byteV) == 14)) 8).need (decide ((((((Cur.mk b false 0).bytesC 1).need ((((Cur.mk b false 0).byteV) == 13) || (((Cur.mk b false 0).byteV) == 14)) 8).l.length : Nat) : Int) ≤ 251)) 5).bytesR ((((((Cur.mk b false 0).bytesC 1).need ((((Cur.mk b false 0).byteV) == 13) || (((Cur.mk b false 0).byteV) == 14)) 8).need (decide ((((((Cur.mk b false 0).bytesC 1).need ((((Cur.mk b false 0).byteV) == 13) || (((Cur.mk b false 0).byteV) == 14)) 8).l.length : Nat) : Int) ≤ 251)) 5).l.length : Nat) : Int)) [] ((Cur.mk b false 0).byteV) 0 0 0 0 []) (((((Cur.mk b false 0).bytesC 1).need ((((Cur.mk b false 0).byteV) == 13) || (((Cur.mk b false 0).byteV) == 14)) 8).need (decide ((((((Cur.mk b false 0).bytesC 1).need ((((Cur.mk b false 0).byteV) == 13) || (((Cur.mk b false 0).byteV) == 14)) 8).l.length : Nat) : Int) ≤ 251)) 5).bytesC ((((((Cur.mk b false 0).bytesC 1).need ((((Cur.mk b false 0).byteV) == 13) || (((Cur.mk b false 0).byteV) == 14)) 8).need (decide ((((((Cur.mk b false 0).bytesC 1).need ((((Cur.mk b false 0).byteV) == 13) || (((Cur.mk b false 0).byteV) == 14)) 8).l.length : Nat) : Int) ≤ 251)) 5).l.length : Nat) : Int)) := by
   unfold parseOf meiForm meiB meiD meiA
   (try simp only [q15, q55, q92, bs, if_true, if_false, decide_true, decide_false, eq_self, true_or, or_true, or_false, false_or, if_true, if_false, i00, i01, i10, i11, reduceIte])
   all_goals rfl
 rw [hs]
 exact finish_bad q92p U105
 have q92p := eq_of_bnei q92
 refine skn <| sg <| ?_
 have r110 := ub1 hu86 (Ne.symm ne48) B81
 refine L0 <| Olw r110 <| ?_
 have U111 := u1 hu25 hu28 (nr hg23)
 have U112 := ut0 U111 hu34
 have U113 := u1 U112 hu37 (ni U111.size hg32)
 have U114 := u1 U113 hu44 (nr hg23)
 have U115 := u1 U114 hu59 (nr hg23)
 have U116 := u1 U115 hu68 (nr hg23)
 have U117 := u1 U116 hu82 (ni U111.size hg32)
 have U118 := u1 U117 hu86 (nr hg23)
 have r119 := ub U118 B13
 refine L0 <| Osw r119 (mG c 0 0 0 0 0 0 0 0 0 0 0 nS nS (.slice A73 ((x60.bytesR ((x60.l.length : Nat) : Int)).length) cp74) nS ((Cur.mk b false 0).byteV) 0 0 0 0 nS) fun w120 B121 hu122 => Pl 1 <| nt <| rt <| rct B121 (.int .i64 0) <| ?_
 subst ex71 ex61 ex46
 have U123 := u1 U91 hu122 (nr hg12)
 have U124 := u1 (Upd.mono (S' := [g30, g22]) hu82 (ac im all0)) hu86 im
 have U125 := u1 (Upd.mono (S' := [g30, g22, g10]) U124 (ac im (ac im all0))) hu122 im
 have r126 := ub U116 B13
 have r127 := RdB.upd' rd77 U125 (safe_cons (safe1 r79 (by decide)) (safe_cons (CurAt.safe hc72 _ (by decide)) (safe_cons (safe1 r126 (by decide)) safe0)))
 have hs : parseOf meiForm 0 c b = finish (Msg.mk c 0 0 0 0 0 0 0 0 0 0 0 [] [] (((((Cur.mk b false 0).bytesC 1).need ((((Cur.mk b false 0).byteV) == 13) || (((Cur.mk b false 0).byteV) == 14)) 8).need (decide ((((((Cur.mk b false 0).bytesC 1).need ((((Cur.mk b false 0).byteV) == 13) || (((Cur.mk b false 0).byteV) == 14)) 8).l.length : Nat) : Int) ≤ 251)) 5).bytesR ((((((Cur.mk b false 0).bytesC 1).need ((((Cur.mk b false 0).byteV) == 13) || (((Cur.mk b false 0).byteV) == 14)) 8).need (decide ((((((Cur.mk b false 0).bytesC 1).need ((((Cur.mk b false 0).byteV) == 13) || (((Cur.mk b false 0).byteV) == 14)) 8).l.length : Nat) : Int) ≤ 251)) 5).l.length : Nat) : Int)) [] ((Cur.mk b false 0).byteV) 0 0 0 0 []) (((((Cur.mk b false 0).bytesC 1).need ((((Cur.mk b false 0).byteV) == 13) || (((Cur.mk b false 0).byteV) == 14)) 8).need (decide ((((((Cur.mk b false 0).bytesC 1).need ((((Cur.mk b false 0).byteV) == 13) || (((Cur.mk b false 0).byteV) == 14)) 8).l.length : Nat) : Int) ≤ 251)) 5).bytesC ((((((Cur.mk b false 0).bytesC 1).need ((((Cur.mk b false 0).byteV) == 13) || (((Cur.mk b false 0).byteV) == 14)) 8).need (decide ((((((Cur.mk b false 0).bytesC 1).need ((((Cur.mk b false 0).byteV) == 13) || (((Cur.mk b false 0).byteV) == 14)) 8).l.length : Nat) : Int) ≤ 251)) 5).l.length : Nat) : Int)) := by
   unfold parseOf meiForm meiB meiD meiA
   (try simp only [q15, q55, q92, bs, if_true, if_false, decide_true, decide_false, eq_self, true_or, or_true, or_false, false_or, if_true, if_false, i00, i01, i10, i11, reduceIte])
   all_goals rfl
 rw [hs]
 exact finish_ok q92p ⟨_, _, _, _, _, rfl, RdG.nil .., RdG.nil .., r127, RdG.nil .., RdG.nil .., ⟨(b8 (x := c) (by omega)), (b8 (x := 0) (by omega)), (b16 (x := 0) (by omega)), (b16 (x := 0) (by omega)), (b16 (x := 0) (by omega)), (b16 (x := 0) (by omega)), (b16 (x := 0) (by omega)), (b16 (x := 0) (by omega)), (b16 (x := 0) (by omega)), (b16 (x := 0) (by omega)), (b16 (x := 0) (by omega)), (b16 (x := 0) (by omega)), (b8 (x := (Cur.mk b false 0).byteV) (by omega)), (b8 (x := 0) (by omega)), (b8 (x := 0) (by omega)), (b8 (x := 0) (by omega)), (b8 (x := 0) (by omega))⟩⟩ U123
 have q55p := ne_of_beqi q55
 refine sg <| Pl 1 <| L0 <| Oc <| m3 (byte_any hc47) fun w128 hc129 hu130 hr131 => Pl 1 <| ?_
 have r132 := ub1 hu130 (Ne.symm ne48) r49
 refine L0 <| Ost r132 17 (mG c 0 0 0 0 0 0 0 0 0 0 0 nS nS nS nS ((Cur.mk b false 0).byteV) x45.byteV 0 0 0 nS) fun w133 B134 hu135 => ng <| Pl 2 <| L0 <| Olb B134 17 <| Pl 2 <| cu 4 [59] 63 (((decide (1 ≤ x45.byteV)) && (decide (x45.byteV ≤ 4)))) (fun K K137 => ?_) ?_
 refine bl 59 ((decide (1 ≤ x45.byteV))) (fun q136 => ?_) (fun q136 => ?_)
 have q136p := of_decide_eq_true q136
 exact Pl 1 <| L1 <| Olb B134 17 <| Pl 2 <| ce K137 (decide (x45.byteV ≤ 4)) (by rw [q136]; rfl)
 have q136p := of_decide_eq_false q136
 exact Pl 4 <| ce K137 false (by rw [q136]; rfl)
 have r138 := CurAt.upd hc129 hu135 (not_cons ne48 not0) (safe_cons (safe1 r132 (by decide)) safe0)
 refine L0 <| Oc <| m2 (need_any (((decide (1 ≤ x45.byteV)) && (decide (x45.byteV ≤ 4)))) 6 r138) fun w139 hc140 hu141 => ?_
 refine ab hc140 fun x142 ex143 hc144 => ?_
 refine ng <| Pl 2 <| nt <| c0 <| go <| Pl 1 <| L0 <| Oc <| m3 (byte_any hc144) fun w145 hc146 hu147 hr148 => Pl 1 <| ?_
 have U149 := u1 hu141 hu147 im
 have r150 := ub1 U149 (Ne.symm ne48) B134
 refine L0 <| Ost r150 20 (mG c 0 0 0 0 0 0 0 0 0 0 0 nS nS nS nS ((Cur.mk b false 0).byteV) x45.byteV 0 0 x142.byteV nS) fun w151 B152 hu153 => ng <| Pl 1 <| ?_
 have r154 := CurAt.upd hc146 hu153 (not_cons ne48 not0) (safe_cons (safe1 r150 (by decide)) safe0)
 refine L0 <| Oc <| m2 (end_any r154) fun w155 hc156 hu157 => nt <| sq <| sg <| Pl 1 <| L0 <| Oc <| mq (err_any hc156) <| ?_
 have hl158 := CurAt.len hc156
 refine Pl 1 <| ng <| Pl 2 <| nt <| ?_
 have U159 := u1 U54 hu130 (ni hu14.size hg23)
 have U160 := u1 U159 hu135 (ni U51.size hg32)
 have U161 := u1 U160 hu141 (ni hu14.size hg23)
 have U162 := u1 U161 hu147 (ni hu14.size hg23)
 have U163 := u1 U162 hu153 (ni U51.size hg32)
 have U164 := u1 U163 hu157 (ni hu14.size hg23)
 refine cb (((((x142.bytesC 1).endC).e) != 0)) (fun q165 => ?_) (fun q165 => ?_)
 have q165p := ne_of_bnei q165
 refine sg <| Pl 2 <| ?_
 have U166 := u1 hu25 hu28 (nr hg23)
 have U167 := ut0 U166 hu34
 have U168 := u1 U167 hu37 (ni U166.size hg32)
 have U169 := u1 U168 hu44 (nr hg23)
 have U170 := u1 U169 hu130 (nr hg23)
 have U171 := u1 U170 hu135 (ni U166.size hg32)
 have U172 := u1 U171 hu141 (nr hg23)
 have U173 := u1 U172 hu147 (nr hg23)
 have U174 := u1 U173 hu153 (ni U166.size hg32)
 have U175 := u1 U174 hu157 (nr hg23)
 have r176 := ub U175 B13
 refine L0 <| Osw r176 mZ fun w177 B178 hu179 => Pl 1 <| nt <| rt <| tr <| rct B178 (.int .i64 (((x142.bytesC 1).endC).e)) <| ?_
 subst ex143 ex46
 have U180 := u1 U164 hu179 (nr hg12)
 have hs : parseOf meiForm 0 c b = finish (Msg.mk c 0 0 0 0 0 0 0 0 0 0 0 [] [] [] [] ((Cur.mk b false 0).byteV) ((((Cur.mk b false 0).bytesC 1).need ((((Cur.mk b false 0).byteV) == 13) || (((Cur.mk b false 0).byteV) == 14)) 8).byteV) 0 0 ((((((Cur.mk b false 0).bytesC 1).need ((((Cur.mk b false 0).byteV) == 13) || (((Cur.mk b false 0).byteV) == 14)) 8).bytesC 1).need ((decide (1 ≤ (((Cur.mk b false 0).bytesC 1).need ((((Cur.mk b false 0).byteV) == 13) || (((Cur.mk b false 0).byteV) == 14)) 8).byteV)) && (decide ((((Cur.mk b false 0).bytesC 1).need ((((Cur.mk b false 0).byteV) == 13) || (((Cur.mk b false 0).byteV) == 14)) 8).byteV ≤ 4))) 6).byteV) []) ((((((Cur.mk b false 0).bytesC 1).need ((((Cur.mk b false 0).byteV) == 13) || (((Cur.mk b false 0).byteV) == 14)) 8).bytesC 1).need ((decide (1 ≤ (((Cur.mk b false 0).bytesC 1).need ((((Cur.mk b false 0).byteV) == 13) || (((Cur.mk b false 0).byteV) == 14)) 8).byteV)) && (decide ((((Cur.mk b false 0).bytesC 1).need ((((Cur.mk b false 0).byteV) == 13) || (((Cur.mk b false 0).byteV) == 14)) 8).byteV ≤ 4))) 6).bytesC 1) := by
   unfold parseOf meiForm meiB meiD meiA
   (try simp only [q15, q55, q165, bs, if_true, if_false, decide_true, decide_false, eq_self, true_or, or_true, or_false, false_or, if_true, if_false, i00, i01, i10, i11, reduceIte])
   all_goals rfl
 rw [hs]
 exact finish_bad q165p U180
 have q165p := eq_of_bnei q165
 refine skn <| sg <| ?_
 have r181 := ub1 hu157 (Ne.symm ne48) B152
 refine L0 <| Olw r181 <| ?_
 have U182 := u1 hu25 hu28 (nr hg23)
 have U183 := ut0 U182 hu34
 have U184 := u1 U183 hu37 (ni U182.size hg32)
 have U185 := u1 U184 hu44 (nr hg23)
 have U186 := u1 U185 hu130 (nr hg23)
 have U187 := u1 U186 hu135 (ni U182.size hg32)
 have U188 := u1 U187 hu141 (nr hg23)
 have U189 := u1 U188 hu147 (nr hg23)
 have U190 := u1 U189 hu153 (ni U182.size hg32)
 have U191 := u1 U190 hu157 (nr hg23)
 have r192 := ub U191 B13
 refine L0 <| Osw r192 (mG c 0 0 0 0 0 0 0 0 0 0 0 nS nS nS nS ((Cur.mk b false 0).byteV) x45.byteV 0 0 x142.byteV nS) fun w193 B194 hu195 => Pl 1 <| nt <| rt <| rct B194 (.int .i64 0) <| ?_
 subst ex143 ex46
 have U196 := u1 U164 hu195 (nr hg12)
 have hs : parseOf meiForm 0 c b = finish (Msg.mk c 0 0 0 0 0 0 0 0 0 0 0 [] [] [] [] ((Cur.mk b false 0).byteV) ((((Cur.mk b false 0).bytesC 1).need ((((Cur.mk b false 0).byteV) == 13) || (((Cur.mk b false 0).byteV) == 14)) 8).byteV) 0 0 ((((((Cur.mk b false 0).bytesC 1).need ((((Cur.mk b false 0).byteV) == 13) || (((Cur.mk b false 0).byteV) == 14)) 8).bytesC 1).need ((decide (1 ≤ (((Cur.mk b false 0).bytesC 1).need ((((Cur.mk b false 0).byteV) == 13) || (((Cur.mk b false 0).byteV) == 14)) 8).byteV)) && (decide ((((Cur.mk b false 0).bytesC 1).need ((((Cur.mk b false 0).byteV) == 13) || (((Cur.mk b false 0).byteV) == 14)) 8).byteV ≤ 4))) 6).byteV) []) ((((((Cur.mk b false 0).bytesC 1).need ((((Cur.mk b false 0).byteV) == 13) || (((Cur.mk b false 0).byteV) == 14)) 8).bytesC 1).need ((decide (1 ≤ (((Cur.mk b false 0).bytesC 1).need ((((Cur.mk b false 0).byteV) == 13) || (((Cur.mk b false 0).byteV) == 14)) 8).byteV)) && (decide ((((Cur.mk b false 0).bytesC 1).need ((((Cur.mk b false 0).byteV) == 13) || (((Cur.mk b false 0).byteV) == 14)) 8).byteV ≤ 4))) 6).bytesC 1) := by
   unfold parseOf meiForm meiB meiD meiA
   (try simp only [q15, q55, q165, bs, if_true, if_false, decide_true, decide_false, eq_self, true_or, or_true, or_false, false_or, if_true, if_false, i00, i01, i10, i11, reduceIte])
   all_goals rfl
 rw [hs]
 exact finish_ok q165p ⟨_, _, _, _, _, rfl, RdG.nil .., RdG.nil .., RdG.nil .., RdG.nil .., RdG.nil .., ⟨(b8 (x := c) (by omega)), (b8 (x := 0) (by omega)), (b16 (x := 0) (by omega)), (b16 (x := 0) (by omega)), (b16 (x := 0) (by omega)), (b16 (x := 0) (by omega)), (b16 (x := 0) (by omega)), (b16 (x := 0) (by omega)), (b16 (x := 0) (by omega)), (b16 (x := 0) (by omega)), (b16 (x := 0) (by omega)), (b16 (x := 0) (by omega)), (b8 (x := (Cur.mk b false 0).byteV) (by omega)), (b8 (x := (((Cur.mk b false 0).bytesC 1).need ((((Cur.mk b false 0).byteV) == 13) || (((Cur.mk b false 0).byteV) == 14)) 8).byteV) (by omega)), (b8 (x := 0) (by omega)), (b8 (x := 0) (by omega)), (b8 (x := (((((Cur.mk b false 0).bytesC 1).need ((((Cur.mk b false 0).byteV) == 13) || (((Cur.mk b false 0).byteV) == 14)) 8).bytesC 1).need ((decide (1 ≤ (((Cur.mk b false 0).bytesC 1).need ((((Cur.mk b false 0).byteV) == 13) || (((Cur.mk b false 0).byteV) == 14)) 8).byteV)) && (decide ((((Cur.mk b false 0).bytesC 1).need ((((Cur.mk b false 0).byteV) == 13) || (((Cur.mk b false 0).byteV) == 14)) 8).byteV ≤ 4))) 6).byteV) (by omega))⟩⟩ U196
set_option maxRecDepth 100000 in
set_option maxHeartbeats 4000000 in
theorem mei_parse_1 {m : Bool} {A : Option Addr} {cp : Nat} {b : List Int} {w : World} {c : Int} (hcode : B8 c) (hsl : RdB m w (.slice A b.length cp) b) (hb : b.length ≤ 1048576) :
    Calls Try.prog 45 #[.int .i64 1, .int .u8 c, .slice A b.length cp] w (PMsg (parseOf meiForm 1 c b) w) := by
 obtain ⟨hcode1, hcode2⟩ := hcode
 have hln : (b.length : Int) ≤ 1048576 := by omega
 refine en 81 Try.func45 rfl <| sg <| L0 <| Oal mZ fun g10 w11 hg12 B13 hu14 => Pl 1 <| nt <| sq <| bk <| sg <| Pl 7 <| nt <| ?_
 refine c0 <| sg <| Pl 3 <| nt <| cb ((c != 43)) (fun q15 => ?_) (fun q15 => ?_)
 have q15p := ne_of_bnei q15
 refine sg <| Pl 1 <| L0 <| Osw B13 mZ fun w16 B17 hu18 => Pl 1 <| nt <| rt <| br <| tr <| rct B17 (.int .i64 4) <| ?_
 have U19 := u1 hu14 hu18 (nr hg12)
 have hs : parseOf meiForm 1 c b = (Msg.zero, 4) := by
   unfold parseOf meiForm meiB meiD meiA
   (try simp only [q15, bs, if_true, if_false, decide_true, decide_false, eq_self, true_or, or_true, or_false, false_or, if_true, if_false, i00, i01, i10, i11, reduceIte])
   all_goals rfl
 rw [hs]
 exact bad_res U19
 have q15p := eq_of_bnei q15
 refine sk <| bn <| tn <| sg <| Pl 1 <| ?_
 have r20 := RdB.old hsl hu14
 refine L0 <| Oc <| e3 (new_any r20 (by omega)) fun g22 w21 hg23 hc24 hu25 => Pl 1 <| ng <| Pl 2 <| L0 <| Oc <| m3 (byte_any hc24) fun w26 hc27 hu28 hr29 => Pl 1 <| L0 <| Oal mZ fun g30 w31 hg32 B33 hu34 => L0 <| Osw B33 (mG c 0 0 0 0 0 0 0 0 0 0 0 nS nS nS nS ((Cur.mk b false 0).byteV) 0 0 0 0 nS) fun w35 B36 hu37 => nt <| sq <| ?_
 refine go <| Pl 2 <| L0 <| Olb B36 16 <| Pl 2 <| cu 4 [33] 37 (((((Cur.mk b false 0).byteV) == 13) || (((Cur.mk b false 0).byteV) == 14))) (fun K K39 => ?_) ?_
 refine bl 33 ((((Cur.mk b false 0).byteV) == 13)) (fun q38 => ?_) (fun q38 => ?_)
 have q38p := eq_of_beqi q38
 exact Pl 4 <| ce K39 true (by rw [q38]; rfl)
 have q38p := ne_of_beqi q38
 exact Pl 1 <| L1 <| Olb B36 16 <| Pl 2 <| ce K39 (((Cur.mk b false 0).byteV) == 14) (by rw [q38]; rfl)
 have U40 := u1 hu34 hu37 (nr hg32)
 have r41 := CurAt.old hc27 U40
 refine L0 <| Oc <| m2 (need_any (((((Cur.mk b false 0).byteV) == 13) || (((Cur.mk b false 0).byteV) == 14))) 8 r41) fun w42 hc43 hu44 => ?_
 refine ab hc43 fun x45 ex46 hc47 => ?_
 refine nt <| sq <| sg <| Pl 1 <| ?_
 have ne48 := nb (CurAt.lt hc24) hu28.size hg32
 have r49 := ub1 hu44 (Ne.symm ne48) B36
 refine L0 <| Olb r49 16 <| Pl 1 <| nt <| ?_
 have U50 := ut0 hu14 hu25
 have U51 := u1 U50 hu28 (ni hu14.size hg23)
 have U52 := ut0 U51 hu34
 have U53 := u1 U52 hu37 (ni U51.size hg32)
 have U54 := u1 U53 hu44 (ni hu14.size hg23)
 refine cb ((((Cur.mk b false 0).byteV) == 13)) (fun q55 => ?_) (fun q55 => ?_)
 have q55p := eq_of_beqi q55
 refine sg <| Pl 2 <| L0 <| Oc <| mq (left_any hc47) <| ?_
 have hl56 := CurAt.len hc47
 refine Pl 1 <| L0 <| Oc <| m2 (need_any ((decide (((x45.l.length : Nat) : Int) ≤ 251))) 5 hc47) fun w57 hc58 hu59 => ?_
 refine ab hc58 fun x60 ex61 hc62 => ?_
 refine nt <| go <| Pl 2 <| L0 <| Oc <| mq (left_any hc62) <| ?_
 have hl63 := CurAt.len hc62
 refine L0 <| Oc <| sr3 (bytes_any (n := ((x60.l.length : Nat) : Int)) hc62) fun A73 cp74 w64 rd77 hl75 hm76 hc67 hu68 => ?_
 have hlb69 := Nat.le_trans (Cur.bytesR_le x60 ((x60.l.length : Nat) : Int)) (CurAt.len hc62)
 refine ab hc67 fun x70 ex71 hc72 => ?_
 refine Pl 1 <| ?_
 have U78 := u1 hu59 hu68 im
 have r79 := ub1 U78 (Ne.symm ne48) r49
 refine L0 <| Ost r79 14 (mG c 0 0 0 0 0 0 0 0 0 0 0 nS nS (.slice A73 ((x60.bytesR ((x60.l.length : Nat) : Int)).length) cp74) nS ((Cur.mk b false 0).byteV) 0 0 0 0 nS) fun w80 B81 hu82 => ng <| Pl 1 <| ?_
 have r83 := CurAt.upd hc72 hu82 (not_cons ne48 not0) (safe_cons (safe1 r79 (by decide)) safe0)
 refine L0 <| Oc <| m2 (end_any r83) fun w84 hc85 hu86 => nt <| sq <| sg <| Pl 1 <| L0 <| Oc <| mq (err_any hc85) <| ?_
 have hl87 := CurAt.len hc85
 refine Pl 1 <| ng <| Pl 2 <| nt <| ?_
 have U88 := u1 U54 hu59 (ni hu14.size hg23)
 have U89 := u1 U88 hu68 (ni hu14.size hg23)
 have U90 := u1 U89 hu82 (ni U51.size hg32)
 have U91 := u1 U90 hu86 (ni hu14.size hg23)
 refine cb ((x70.endC.e != 0)) (fun q92 => ?_) (fun q92 => ?_)
 have q92p := ne_of_bnei q92
 refine sg <| Pl 2 <| ?_
 have U93 := u1 hu25 hu28 (nr hg23)
 have U94 := ut0 U93 hu34
 have U95 := u1 U94 hu37 (ni U93.size hg32)
 have U96 := u1 U95 hu44 (nr hg23)
 have U97 := u1 U96 hu59 (nr hg23)
 have U98 := u1 U97 hu68 (nr hg23)
 have U99 := u1 U98 hu82 (ni U93.size hg32)
 have U100 := u1 U99 hu86 (nr hg23)
 have r101 := ub U100 B13
 refine L0 <| Osw r101 mZ fun w102 B103 hu104 => Pl 1 <| nt <| rt <| tr <| rct B103 (.int .i64 x70.endC.e) <| ?_
 subst ex71 ex61 ex46
 have U105 := u1 U91 hu104 (nr hg12)
 have U106 := u1 (Upd.mono (S' := [g30, g22]) hu82 (ac im all0)) hu86 im
 have U107 := u1 (Upd.mono (S' := [g30, g22, g10]) U106 (ac im (ac im all0))) hu104 im
 have r108 := ub U98 B13
 have r109 := RdB.upd' rd77 U107 (safe_cons (safe1 r79 (by decide)) (safe_cons (CurAt.safe hc72 _ (by decide)) (safe_cons (safe1 r108 (by decide)) safe0)))
 have hs : parseOf meiForm 1 c b = finish (Msg.mk c 0 0 0 0 0 0 0 0 0 0 0 [] [] (((((Cur.mk b false 0).bytesC 1).need ((((Cur.mk b false 0).byteV) == 13) || (((Cur.mk b false 0).byteV) == 14)) 8).need (decide ((((((Cur.mk b false 0).bytesC 1).need ((((Cur.mk b false 0).byteV) == 13) || (((Cur.mk b false 0).byteV) == 14)) 8).l.length : Nat) : Int) ≤ 251)) 5).bytesR ((((((Cur.mk b false 0).bytesC 1).need ((((Cur.mk b false 0).byteV) == 13) || (((Cur.mk b false 0).byteV) == 14)) 8).need (decide ((((((Cur.mk b false 0).bytesC 1).need ((((Cur.mk b false 0).byteV) == 13) || (((Cur.mk b false 0).byteV) == 14)) 8).l.length : Nat) : Int) ≤ 251)) 5).l.length : Nat) : Int)) [] ((Cur.mk b false 0).byteV) 0 0 0 0 []) (((((Cur.mk b false 0).bytesC 1).need ((((Cur.mk b false 0).byteV) == 13) || (((Cur.mk b false 0).byteV) == 14)) 8).need (decide ((((((Cur.mk b false 0).bytesC 1).need ((((Cur.mk b false 0).byteV) == 13) || (((Cur.mk b false 0).byteV) == 14)) 8).l.length : Nat) : Int) ≤ 251)) 5).bytesC ((((((Cur.mk b false 0).bytesC 1).need ((((Cur.mk b false 0).byteV) == 13) || (((Cur.mk b false 0).byteV) == 14)) 8).need (decide ((((((Cur.mk b false 0).bytesC 1).need ((((Cur.mk b false 0).byteV) == 13) || (((Cur.mk b false 0).byteV) == 14)) 8).l.length : Nat) : Int) ≤ 251)) 5).l.length : Nat) : Int)) := by
   unfold parseOf meiForm meiB meiD meiA
   (try simp only [q15, q55, q92, bs, if_true, if_false, decide_true, decide_false, eq_self, true_or, or_true, or_false, false_or, if_true, if_false, i00, i01, i10, i11, reduceIte])
   all_goals rfl
 rw [hs]
 exact finish_bad q92p U105
 have q92p := eq_of_bnei q92
 refine skn <| sg <| ?_
 have r110 := ub1 hu86 (Ne.symm ne48) B81
 refine L0 <| Olw r110 <| ?_
 have U111 := u1 hu25 hu28 (nr hg23)
 have U112 := ut0 U111 hu34
 have U113 := u1 U112 hu37 (ni U111.size hg32)
 have U114 := u1 U113 hu44 (nr hg23)
 have U115 := u1 U114 hu59 (nr hg23)
 have U116 := u1 U115 hu68 (nr hg23)
 have U117 := u1 U116 hu82 (ni U111.size hg32)
 have U118 := u1 U117 hu86 (nr hg23)
 have r119 := ub U118 B13
 refine L0 <| Osw r119 (mG c 0 0 0 0 0 0 0 0 0 0 0 nS nS (.slice A73 ((x60.bytesR ((x60.l.length : Nat) : Int)).length) cp74) nS ((Cur.mk b false 0).byteV) 0 0 0 0 nS) fun w120 B121 hu122 => Pl 1 <| nt <| rt <| rct B121 (.int .i64 0) <| ?_
 subst ex71 ex61 ex46
 have U123 := u1 U91 hu122 (nr hg12)
 have U124 := u1 (Upd.mono (S' := [g30, g22]) hu82 (ac im all0)) hu86 im
 have U125 := u1 (Upd.mono (S' := [g30, g22, g10]) U124 (ac im (ac im all0))) hu122 im
 have r126 := ub U116 B13
 have r127 := RdB.upd' rd77 U125 (safe_cons (safe1 r79 (by decide)) (safe_cons (CurAt.safe hc72 _ (by decide)) (safe_cons (safe1 r126 (by decide)) safe0)))
 have hs : parseOf meiForm 1 c b = finish (Msg.mk c 0 0 0 0 0 0 0 0 0 0 0 [] [] (((((Cur.mk b false 0).bytesC 1).need ((((Cur.mk b false 0).byteV) == 13) || (((Cur.mk b false 0).byteV) == 14)) 8).need (decide ((((((Cur.mk b false 0).bytesC 1).need ((((Cur.mk b false 0).byteV) == 13) || (((Cur.mk b false 0).byteV) == 14)) 8).l.length : Nat) : Int) ≤ 251)) 5).bytesR ((((((Cur.mk b false 0).bytesC 1).need ((((Cur.mk b false 0).byteV) == 13) || (((Cur.mk b false 0).byteV) == 14)) 8).need (decide ((((((Cur.mk b false 0).bytesC 1).need ((((Cur.mk b false 0).byteV) == 13) || (((Cur.mk b false 0).byteV) == 14)) 8).l.length : Nat) : Int) ≤ 251)) 5).l.length : Nat) : Int)) [] ((Cur.mk b false 0).byteV) 0 0 0 0 []) (((((Cur.mk b false 0).bytesC 1).need ((((Cur.mk b false 0).byteV) == 13) || (((Cur.mk b false 0).byteV) == 14)) 8).need (decide ((((((Cur.mk b false 0).bytesC 1).need ((((Cur.mk b false 0).byteV) == 13) || (((Cur.mk b false 0).byteV) == 14)) 8).l.length : Nat) : Int) ≤ 251)) 5).bytesC ((((((Cur.mk b false 0).bytesC 1).need ((((Cur.mk b false 0).byteV) == 13) || (((Cur.mk b false 0).byteV) == 14)) 8).need (decide ((((((Cur.mk b false 0).bytesC 1).need ((((Cur.mk b false 0).byteV) == 13) || (((Cur.mk b false 0).byteV) == 14)) 8).l.length : Nat) : Int) ≤ 251)) 5).l.length : Nat) : Int)) := by
   unfold parseOf meiForm meiB meiD meiA
   (try simp only [q15, q55, q92, bs, if_true, if_false, decide_true, decide_false, eq_self, true_or, or_true, or_false, false_or, if_true, if_false, i00, i01, i10, i11, reduceIte])
   all_goals rfl
 rw [hs]
 exact finish_ok q92p ⟨_, _, _, _, _, rfl, RdG.nil .., RdG.nil .., r127, RdG.nil .., RdG.nil .., ⟨(b8 (x := c) (by omega)), (b8 (x := 0) (by omega)), (b16 (x := 0) (by omega)), (b16 (x := 0) (by omega)), (b16 (x := 0) (by omega)), (b16 (x := 0) (by omega)), (b16 (x := 0) (by omega)), (b16 (x := 0) (by omega)), (b16 (x := 0) (by omega)), (b16 (x := 0) (by omega)), (b16 (x := 0) (by omega)), (b16 (x := 0) (by omega)), (b8 (x := (Cur.mk b false 0).byteV) (by omega)), (b8 (x := 0) (by omega)), (b8 (x := 0) (by omega)), (b8 (x := 0) (by omega)), (b8 (x := 0) (by omega))⟩⟩ U123
 have q55p := ne_of_beqi q55
 refine sg <| Pl 1 <| L0 <| Oc <| m3 (byte_any hc47) fun w128 hc129 hu130 hr131 => Pl 1 <| ?_
 have r132 := ub1 hu130 (Ne.symm ne48) r49
 refine L0 <| Ost r132 17 (mG c 0 0 0 0 0 0 0 0 0 0 0 nS nS nS nS ((Cur.mk b false 0).byteV) x45.byteV 0 0 0 nS) fun w133 B134 hu135 => ng <| Pl 2 <| L0 <| Olb B134 17 <| Pl 2 <| cu 4 [59] 63 (((decide (1 ≤ x45.byteV)) && (decide (x45.byteV ≤ 4)))) (fun K K137 => ?_) ?_
 refine bl 59 ((decide (1 ≤ x45.byteV))) (fun q136 => ?_) (fun q136 => ?_)
 have q136p := of_decide_eq_true q136
 exact Pl 1 <| L1 <| Olb B134 17 <| Pl 2 <| ce K137 (decide (x45.byteV ≤ 4)) (by rw [q136]; rfl)
 have q136p := of_decide_eq_false q136
 exact Pl 4 <| ce K137 false (by rw [q136]; rfl)
 have r138 := CurAt.upd hc129 hu135 (not_cons ne48 not0) (safe_cons (safe1 r132 (by decide)) safe0)
 refine L0 <| Oc <| m2 (need_any (((decide (1 ≤ x45.byteV)) && (decide (x45.byteV ≤ 4)))) 6 r138) fun w139 hc140 hu141 => ?_
 refine ab hc140 fun x142 ex143 hc144 => ?_
 refine ng <| Pl 2 <| nt <| c1 <| go <| Pl 1 <| ?_
 have r145 := ub1 hu141 (Ne.symm ne48) B134
 refine L0 <| Oc <| m3 (meians_any (c := c) (me := (Cur.mk b false 0).byteV) (kd := x45.byteV) ⟨hcode1, hcode2⟩ (b8 (by omega)) (b8 (by omega)) hc144 r145 ne48) fun w146 hc147 hx152 hu151 => ?_
 obtain ⟨cs148, hm149, hM150⟩ := hx152
 refine ng <| Pl 1 <| L0 <| Oc <| m2 (end_any hc147) fun w153 hc154 hu155 => ?_
 refine ab hc154 fun x156 ex157 hc158 => ?_
 refine nt <| sq <| sg <| Pl 1 <| L0 <| Oc <| mq (err_any hc158) <| ?_
 have hl159 := CurAt.len hc158
 refine Pl 1 <| ng <| Pl 2 <| nt <| ?_
 have U160 := u1 U54 hu130 (ni hu14.size hg23)
 have U161 := u1 U160 hu135 (ni U51.size hg32)
 have U162 := u1 U161 hu141 (ni hu14.size hg23)
 have U163 := ut U162 hu151 (ac (ni hu14.size hg23) (ac (ni U51.size hg32) all0))
 have U164 := u1 U163 hu155 (ni hu14.size hg23)
 refine cb ((x156.e != 0)) (fun q165 => ?_) (fun q165 => ?_)
 have q165p := ne_of_bnei q165
 refine sg <| Pl 2 <| ?_
 have U166 := u1 hu25 hu28 (nr hg23)
 have U167 := ut0 U166 hu34
 have U168 := u1 U167 hu37 (ni U166.size hg32)
 have U169 := u1 U168 hu44 (nr hg23)
 have U170 := u1 U169 hu130 (nr hg23)
 have U171 := u1 U170 hu135 (ni U166.size hg32)
 have U172 := u1 U171 hu141 (nr hg23)
 have U173 := ut U172 hu151 (ac (nr hg23) (ac (ni U166.size hg32) all0))
 have U174 := u1 U173 hu155 (nr hg23)
 have r175 := ub U174 B13
 refine L0 <| Osw r175 mZ fun w176 B177 hu178 => Pl 1 <| nt <| rt <| tr <| rct B177 (.int .i64 x156.e) <| ?_
 subst ex157 ex143 ex46
 have U179 := u1 U164 hu178 (nr hg12)
 have hs : parseOf meiForm 1 c b = finish ({ Msg.zero with code := c, mei := (Cur.mk b false 0).byteV, kind := (((Cur.mk b false 0).bytesC 1).need ((((Cur.mk b false 0).byteV) == 13) || (((Cur.mk b false 0).byteV) == 14)) 8).byteV, level := (((((Cur.mk b false 0).bytesC 1).need ((((Cur.mk b false 0).byteV) == 13) || (((Cur.mk b false 0).byteV) == 14)) 8).bytesC 1).need ((decide (1 ≤ (((Cur.mk b false 0).bytesC 1).need ((((Cur.mk b false 0).byteV) == 13) || (((Cur.mk b false 0).byteV) == 14)) 8).byteV)) && (decide ((((Cur.mk b false 0).bytesC 1).need ((((Cur.mk b false 0).byteV) == 13) || (((Cur.mk b false 0).byteV) == 14)) 8).byteV ≤ 4))) 6).byteV, more := (mei1 (((((Cur.mk b false 0).bytesC 1).need ((((Cur.mk b false 0).byteV) == 13) || (((Cur.mk b false 0).byteV) == 14)) 8).bytesC 1).need ((decide (1 ≤ (((Cur.mk b false 0).bytesC 1).need ((((Cur.mk b false 0).byteV) == 13) || (((Cur.mk b false 0).byteV) == 14)) 8).byteV)) && (decide ((((Cur.mk b false 0).bytesC 1).need ((((Cur.mk b false 0).byteV) == 13) || (((Cur.mk b false 0).byteV) == 14)) 8).byteV ≤ 4))) 6)).byteV, next := (mei2 (((((Cur.mk b false 0).bytesC 1).need ((((Cur.mk b false 0).byteV) == 13) || (((Cur.mk b false 0).byteV) == 14)) 8).bytesC 1).need ((decide (1 ≤ (((Cur.mk b false 0).bytesC 1).need ((((Cur.mk b false 0).byteV) == 13) || (((Cur.mk b false 0).byteV) == 14)) 8).byteV)) && (decide ((((Cur.mk b false 0).bytesC 1).need ((((Cur.mk b false 0).byteV) == 13) || (((Cur.mk b false 0).byteV) == 14)) 8).byteV ≤ 4))) 6)).byteV, objects := (meiObjs (((Cur.mk b false 0).bytesC 1).need ((((Cur.mk b false 0).byteV) == 13) || (((Cur.mk b false 0).byteV) == 14)) 8).byteV (((((Cur.mk b false 0).bytesC 1).need ((((Cur.mk b false 0).byteV) == 13) || (((Cur.mk b false 0).byteV) == 14)) 8).bytesC 1).need ((decide (1 ≤ (((Cur.mk b false 0).bytesC 1).need ((((Cur.mk b false 0).byteV) == 13) || (((Cur.mk b false 0).byteV) == 14)) 8).byteV)) && (decide ((((Cur.mk b false 0).bytesC 1).need ((((Cur.mk b false 0).byteV) == 13) || (((Cur.mk b false 0).byteV) == 14)) 8).byteV ≤ 4))) 6)).2 }) ((meiObjs (((Cur.mk b false 0).bytesC 1).need ((((Cur.mk b false 0).byteV) == 13) || (((Cur.mk b false 0).byteV) == 14)) 8).byteV (((((Cur.mk b false 0).bytesC 1).need ((((Cur.mk b false 0).byteV) == 13) || (((Cur.mk b false 0).byteV) == 14)) 8).bytesC 1).need ((decide (1 ≤ (((Cur.mk b false 0).bytesC 1).need ((((Cur.mk b false 0).byteV) == 13) || (((Cur.mk b false 0).byteV) == 14)) 8).byteV)) && (decide ((((Cur.mk b false 0).bytesC 1).need ((((Cur.mk b false 0).byteV) == 13) || (((Cur.mk b false 0).byteV) == 14)) 8).byteV ≤ 4))) 6)).1) := by
   unfold parseOf meiForm meiB meiD meiA
   (try simp only [q15, q55, q165, bs, if_true, if_false, decide_true, decide_false, eq_self, true_or, or_true, or_false, false_or, if_true, if_false, i00, i01, i10, i11, reduceIte])
   all_goals rfl
 rw [hs]
 exact finish_bad q165p U179
 have q165p := eq_of_bnei q165
 refine skn <| sg <| ?_
 have r180 := ub1 hu155 (Ne.symm ne48) hm149.1
 refine L0 <| Olw (hz := (by rw [hm149.2]; exact msg_size)) r180 <| ?_
 have U181 := u1 hu25 hu28 (nr hg23)
 have U182 := ut0 U181 hu34
 have U183 := u1 U182 hu37 (ni U181.size hg32)
 have U184 := u1 U183 hu44 (nr hg23)
 have U185 := u1 U184 hu130 (nr hg23)
 have U186 := u1 U185 hu135 (ni U181.size hg32)
 have U187 := u1 U186 hu141 (nr hg23)
 have U188 := ut U187 hu151 (ac (nr hg23) (ac (ni U181.size hg32) all0))
 have U189 := u1 U188 hu155 (nr hg23)
 have r190 := ub U189 B13
 refine L0 <| Osw (hz := (by rw [hm149.2]; exact msg_size)) (hv := hM150.size) (h1 := hM150.one) r190 (cs148) fun w191 B192 hu193 => Pl 1 <| nt <| rt <| rctx 22 hm149.2 B192 (.int .i64 0) <| ?_
 subst ex157 ex143 ex46
 have U194 := u1 U164 hu193 (nr hg12)
 have hs : parseOf meiForm 1 c b = finish ({ Msg.zero with code := c, mei := (Cur.mk b false 0).byteV, kind := (((Cur.mk b false 0).bytesC 1).need ((((Cur.mk b false 0).byteV) == 13) || (((Cur.mk b false 0).byteV) == 14)) 8).byteV, level := (((((Cur.mk b false 0).bytesC 1).need ((((Cur.mk b false 0).byteV) == 13) || (((Cur.mk b false 0).byteV) == 14)) 8).bytesC 1).need ((decide (1 ≤ (((Cur.mk b false 0).bytesC 1).need ((((Cur.mk b false 0).byteV) == 13) || (((Cur.mk b false 0).byteV) == 14)) 8).byteV)) && (decide ((((Cur.mk b false 0).bytesC 1).need ((((Cur.mk b false 0).byteV) == 13) || (((Cur.mk b false 0).byteV) == 14)) 8).byteV ≤ 4))) 6).byteV, more := (mei1 (((((Cur.mk b false 0).bytesC 1).need ((((Cur.mk b false 0).byteV) == 13) || (((Cur.mk b false 0).byteV) == 14)) 8).bytesC 1).need ((decide (1 ≤ (((Cur.mk b false 0).bytesC 1).need ((((Cur.mk b false 0).byteV) == 13) || (((Cur.mk b false 0).byteV) == 14)) 8).byteV)) && (decide ((((Cur.mk b false 0).bytesC 1).need ((((Cur.mk b false 0).byteV) == 13) || (((Cur.mk b false 0).byteV) == 14)) 8).byteV ≤ 4))) 6)).byteV, next := (mei2 (((((Cur.mk b false 0).bytesC 1).need ((((Cur.mk b false 0).byteV) == 13) || (((Cur.mk b false 0).byteV) == 14)) 8).bytesC 1).need ((decide (1 ≤ (((Cur.mk b false 0).bytesC 1).need ((((Cur.mk b false 0).byteV) == 13) || (((Cur.mk b false 0).byteV) == 14)) 8).byteV)) && (decide ((((Cur.mk b false 0).bytesC 1).need ((((Cur.mk b false 0).byteV) == 13) || (((Cur.mk b false 0).byteV) == 14)) 8).byteV ≤ 4))) 6)).byteV, objects := (meiObjs (((Cur.mk b false 0).bytesC 1).need ((((Cur.mk b false 0).byteV) == 13) || (((Cur.mk b false 0).byteV) == 14)) 8).byteV (((((Cur.mk b false 0).bytesC 1).need ((((Cur.mk b false 0).byteV) == 13) || (((Cur.mk b false 0).byteV) == 14)) 8).bytesC 1).need ((decide (1 ≤ (((Cur.mk b false 0).bytesC 1).need ((((Cur.mk b false 0).byteV) == 13) || (((Cur.mk b false 0).byteV) == 14)) 8).byteV)) && (decide ((((Cur.mk b false 0).bytesC 1).need ((((Cur.mk b false 0).byteV) == 13) || (((Cur.mk b false 0).byteV) == 14)) 8).byteV ≤ 4))) 6)).2 }) ((meiObjs (((Cur.mk b false 0).bytesC 1).need ((((Cur.mk b false 0).byteV) == 13) || (((Cur.mk b false 0).byteV) == 14)) 8).byteV (((((Cur.mk b false 0).bytesC 1).need ((((Cur.mk b false 0).byteV) == 13) || (((Cur.mk b false 0).byteV) == 14)) 8).bytesC 1).need ((decide (1 ≤ (((Cur.mk b false 0).bytesC 1).need ((((Cur.mk b false 0).byteV) == 13) || (((Cur.mk b false 0).byteV) == 14)) 8).byteV)) && (decide ((((Cur.mk b false 0).bytesC 1).need ((((Cur.mk b false 0).byteV) == 13) || (((Cur.mk b false 0).byteV) == 14)) 8).byteV ≤ 4))) 6)).1) := by
   unfold parseOf meiForm meiB meiD meiA
   (try simp only [q15, q55, q165, bs, if_true, if_false, decide_true, decide_false, eq_self, true_or, or_true, or_false, false_or, if_true, if_false, i00, i01, i10, i11, reduceIte])
   all_goals rfl
 rw [hs]
 have U195 := u1 (Upd.mono (S' := [g22, g10]) hu155 (ac im all0)) hu193 im
 have r196 := ub U188 B13
 have r197 := MsgRd.upd hM150 U195 (safe_cons (CurAt.safe hc147 _ (by decide)) (safe_cons (safe1 r196 (by decide)) safe0))
 exact finish_ok q165p r197 U194
set_option maxRecDepth 100000 in
set_option maxHeartbeats 4000000 in
theorem mei_parse_x {m : Bool} {A : Option Addr} {cp : Nat} {b : List Int} {w : World} {dir c : Int} (hcode : B8 c) (hsl : RdB m w (.slice A b.length cp) b) (hb : b.length ≤ 1048576) (hd : ¬ (dir = 0 ∨ dir = 1)) :
    Calls Try.prog 45 #[.int .i64 dir, .int .u8 c, .slice A b.length cp] w (PMsg (parseOf meiForm dir c b) w) := by
 obtain ⟨hcode1, hcode2⟩ := hcode
 have hln : (b.length : Int) ≤ 1048576 := by omega
 have e0 : (dir != 0) = true := by simp; omega
 have e1 : (dir != 1) = true := by simp; omega
 refine en 81 Try.func45 rfl <| sg <| L0 <| Oal mZ fun g10 w11 hg12 B13 hu14 => Pl 1 <| nt <| sq <| bk <| sg <| Pl 3 <| sy 14 e0 <| Pl 4 <| nl <| ?_
 refine tn <| ct e1 <| sg <| Pl 1 <| L0 <| Osw B13 mZ fun w15 B16 hu17 => Pl 1 <| nt <| rt <| br <| tr <| rct B16 (.int .i64 1) <| ?_
 have U18 := u1 hu14 hu17 (nr hg12)
 have hs : parseOf meiForm dir c b = (Msg.zero, 1) := by
   unfold parseOf meiForm meiB meiD meiA
   (try simp only [e0, e1, bs, if_true, if_false, decide_true, decide_false, eq_self, true_or, or_true, or_false, false_or, if_true, if_false, i00, i01, i10, i11, reduceIte, hd])
   all_goals rfl
 rw [hs]
 exact bad_res U18
theorem mei_parse {m : Bool} {v : Value} {b : List Int} {w : World} {dir c : Int} (hc : B8 c) (h : RdB m w v b) (hb : b.length ≤ 1048576) :
    Calls Try.prog 45 #[.int .i64 dir, .int .u8 c, v] w (PMsg (parseOf meiForm dir c b) w) := by
  obtain ⟨A, cp, rfl, _, _⟩ := h.shape
  by_cases h0 : dir = 0
  · subst h0; exact mei_parse_0 hc h hb
  by_cases h1 : dir = 1
  · subst h1; exact mei_parse_1 hc h hb
  exact mei_parse_x hc h hb (by omega)
open Go.RowKit
theorem pm_eq {x y : Msg × Int} (h : x = y) {w : World} {e : Ending} {w' : World} (k : PMsg y w e w') : PMsg x w e w' := by rw [h]; exact k
def famP : Nat → Int → List Int → Msg × Int
  | 1, dir, b => parseOf coilsForm dir (b.getD 0 0) (b.drop 1)
  | 2, dir, b => parseOf regsForm dir (b.getD 0 0) (b.drop 1)
  | 3, dir, b => parseOf diagForm dir (b.getD 0 0) (b.drop 1)
  | 4, dir, b => parseOf filesForm dir (b.getD 0 0) (b.drop 1)
  | 5, dir, b => parseOf meiForm dir (b.getD 0 0) (b.drop 1)
  | _, _, _ => (Msg.zero, 4)
def pduP (dir : Int) (b : List Int) : Msg × Int :=
  if dir != 0 && dir != 1 then (Msg.zero, 1)
  else if (b.length : Int) == 0 then (Msg.zero, 2)
  else if decide (253 < (b.length : Int)) then (Msg.zero, 3)
  else if decide (128 ≤ b.getD 0 0) && dir == 1 then refP b
  else famP (cfam (b.getD 0 0)) dir b
set_option maxRecDepth 100000 in
set_option maxHeartbeats 4000000 in
theorem pdu_parse0 {m : Bool} {A : Option Addr} {cp : Nat} {b : List Int} {w : World} {dir : Int} (hsl : RdB m w (.slice A b.length cp) b) (hb : b.length ≤ 1048576) :
    Calls Try.prog 15 #[.int .i64 dir, .slice A b.length cp] w (PMsg (pduP dir b) w) := by
 have hln : (b.length : Int) ≤ 1048576 := by omega
 refine en 60 Try.func15 rfl <| sg <| L0 <| Oal mZ fun g10 w11 hg12 B13 hu14 => Pl 1 <| nt <| sq <| bk <| sg <| Pl 3 <| cu 3 [11] 14 (((dir != 0) && (dir != 1))) (fun K K16 => ?_) ?_
 refine bl 11 ((dir != 0)) (fun q15 => ?_) (fun q15 => ?_)
 have q15p := ne_of_bnei q15
 exact Pl 3 <| ce K16 (dir != 1) (by rw [q15]; rfl)
 have q15p := eq_of_bnei q15
 exact Pl 3 <| ce K16 false (by rw [q15]; rfl)
 refine Pl 1 <| nt <| cb (((dir != 0) && (dir != 1))) (fun q17 => ?_) (fun q17 => ?_)
 have q17a := (and_t q17).1
 have q17b := (and_t q17).2
 have q17ap := ne_of_bnei q17a
 have q17bp := ne_of_bnei q17b
 refine sg <| Pl 1 <| L0 <| Osw B13 mZ fun w18 B19 hu20 => Pl 1 <| nt <| rt <| br <| tr <| rct B19 (.int .i64 1) <| ?_
 have hs : pduP dir b = (Msg.zero, 1) := by
   unfold pduP
   (try simp only [q17, q17a, q17b, bs, if_true, if_false, decide_true, decide_false, famP, reduceIte])
   all_goals rfl
 refine pm_eq hs ?_
 have U21 := u1 hu14 hu20 (nr hg12)
 exact bad_res U21
 refine sg <| Pl 4 <| nt <| cb ((((b.length : Nat) : Int) == 0)) (fun q22 => ?_) (fun q22 => ?_)
 have q22p := eq_of_beqi q22
 refine sg <| Pl 1 <| L0 <| Osw B13 mZ fun w23 B24 hu25 => Pl 1 <| nt <| rt <| br <| tr <| rct B24 (.int .i64 2) <| ?_
 have hs : pduP dir b = (Msg.zero, 2) := by
   unfold pduP
   (try simp only [q17, q22, bs, if_true, if_false, decide_true, decide_false, famP, reduceIte])
   all_goals rfl
 refine pm_eq hs ?_
 have U26 := u1 hu14 hu25 (nr hg12)
 exact bad_res U26
 have q22p := ne_of_beqi q22
 refine sg <| Pl 4 <| nt <| cb ((decide (253 < ((b.length : Nat) : Int)))) (fun q27 => ?_) (fun q27 => ?_)
 have q27p := of_decide_eq_true q27
 refine sg <| Pl 1 <| L0 <| Osw B13 mZ fun w28 B29 hu30 => Pl 1 <| nt <| rt <| br <| tr <| rct B29 (.int .i64 3) <| ?_
 have hs : pduP dir b = (Msg.zero, 3) := by
   unfold pduP
   (try simp only [q17, q22, q27, bs, if_true, if_false, decide_true, decide_false, famP, reduceIte])
   all_goals rfl
 refine pm_eq hs ?_
 have U31 := u1 hu14 hu30 (nr hg12)
 exact bad_res U31
 have q27p := of_decide_eq_false q27
 refine sg <| Pl 1 <| ?_
 have r32 := RdB.old hsl hu14
 refine x23 (RdB.at_ r32 0 (by omega)) fun b33 o34 hA35 hl36 hr37 => L0 <| Oix b.length 0 hA35 (by omega) <| L0 <| Old (p := ⟨b33, o34 + 0, none⟩) (v := .int .u8 (b.getD 0 0)) hl36 <| Pl 2 <| cu 3 [31] 34 (((decide (128 ≤ (b.getD 0 0))) && (dir == 1))) (fun K K39 => ?_) ?_
 refine bl 31 ((decide (128 ≤ (b.getD 0 0)))) (fun q38 => ?_) (fun q38 => ?_)
 have q38p := of_decide_eq_true q38
 exact Pl 3 <| ce K39 (dir == 1) (by rw [q38]; rfl)
 have q38p := of_decide_eq_false q38
 exact Pl 3 <| ce K39 false (by rw [q38]; rfl)
 refine Pl 1 <| nt <| cb (((decide (128 ≤ (b.getD 0 0))) && (dir == 1))) (fun q40 => ?_) (fun q40 => ?_)
 have q40a := (and_t q40).1
 have q40b := (and_t q40).2
 have q40ap := of_decide_eq_true q40a
 have q40bp := eq_of_beqi q40b
 refine sg <| Pl 1 <| L0 <| Oc <| e2 (ref_parse r32 (by omega)) fun cs42 w41 hM43 hu44 => Pl 2 <| ?_
 have r45 := ub hu44 B13
 refine L0 <| Osw (hz := (by rw [hM43.size]; exact msg_size)) (hv := hM43.size) (h1 := hM43.one) r45 (cs42) fun w46 B47 hu48 => Pl 1 <| nt <| rt <| br <| tr <| rctx 22 hM43.size B47 (.int .i64 (((refP b)).2)) <| ?_
 have hs : pduP dir b = (refP b) := by
   unfold pduP
   (try simp only [q17, q22, q27, q40, q40a, q40b, bs, if_true, if_false, decide_true, decide_false, famP, reduceIte])
   all_goals rfl
 refine pm_eq hs ?_
 have r49 := MsgRd.upd hM43 hu48 (safe_cons (safe1 r45 (by decide)) safe0)
 have U50 := ut0 hu14 hu44
 have U51 := u1 U50 hu48 (nr hg12)
 exact ⟨_, rfl, r49, U51⟩
 refine sk <| bn <| tn <| sg <| Pl 1 <| L0 <| Oix b.length 0 hA35 (by omega) <| L0 <| Old (p := ⟨b33, o34 + 0, none⟩) (v := .int .u8 (b.getD 0 0)) hl36 <| ?_
 rcases cfam_dich (b.getD 0 0) with ⟨hk, hkf⟩ | ⟨hk, hkf⟩ | ⟨hk, hkf⟩ | ⟨hk, hkf⟩ | ⟨hk, hkf⟩ | ⟨hk, hkf⟩
 have ho52 := of_any (x := (b.getD 0 0)) (w := w11)
 rw [hkf] at ho52
 refine L0 <| Oc <| m1 ho52 fun w53 hu54 => Pl 3 <| L0 <| Oal #[.nilFunc, .nilFunc] fun g55 w56 hg57 B58 hu59 => L0 <| Osw B58 #[.func (.func 37) #[] #[], .func (.func 38) #[] #[]] fun w60 B61 hu62 => Pl 1 <| nt <| sq <| sg <| Pl 2 <| nt <| c0 <| ?_
 refine skn <| sq <| ?_
 have U83 := ut0 hu54 hu59
 have U84 := u1 U83 hu62 (ni hu54.size hg57)
 have r85 := RdB.old r32 U84
 refine x23 (RdB.at_ r85 0 (by omega)) fun b86 o87 hA88 hl89 hr90 => Rg 13 (fun w' => w'.cell? ⟨g55, 0, none⟩ = some (.func (.func 37) #[] #[]) ∧ w'.cell? ⟨b86, o87 + 0, none⟩ = some (.int .u8 (b.getD 0 0))) fun w103 hu104 => ?_
 have r106 := ub hu104 B61
 refine hld ⟨(blk_at r106 rfl), (uc hu104 hl89)⟩ fun hS105 => Rt 0 hS105 <| Rl 1 hS105 (fun _ hs => hs.1) <| Rt 2 hS105 <| Rt 3 hS105 <| Ri1 4 hS105 b.length 0 0 rfl hA88 (by omega) <| Rl 5 hS105 (fun _ hs => hs.2) <| Rt 6 hS105 <| x12 (cut_from (P := Try.prog) 22 5 1 Try.underlying22 rfl rfl A b.length cp 1 (by omega)) fun A107 hrun108 hrd109 => ?_
 have r110 := RdB.old r85 hu104
 refine Rr 7 hS105 (.slice A107 (b.length - 1) (cp - 1)) (fun _ _ => run_cutf (kl := .i64) (k := ((1 : Nat) : Int)) (A := A) (n := b.length) (c := cp) rfl Try.underlying22 (by kernel_rfl) (by kernel_rfl) (hrun108 _ _)) <| R0 8 rfl <| Ocv #[] #[] (args := #[.int .i64 dir, .int .u8 (b.getD 0 0), .slice A107 (b.length - 1) (cp - 1)]) <| e2 (coils_parse (dir := dir) (c := (b.getD 0 0)) (b8 (by omega)) (hrd109 _ _ _ _ _ r110) (by (try simp only [List.length_drop]); omega)) fun cs112 w111 hM113 hu114 => ?_
 have r116 := ub hu114 r106
 have U117 := ut0 hu104 hu114
 refine hld ⟨(blk_at r116 rfl), (uc U117 hl89)⟩ fun hS115 => Rt 9 hS115 <| Rt 10 hS115 <| ?_
 have U118 := ut0 U84 hu104
 have U119 := ut0 U118 hu114
 have r120 := ub U119 B13
 refine R0 11 rfl <| Osw (hz := (by rw [hM113.size]; exact msg_size)) (hv := hM113.size) (h1 := hM113.one) r120 (cs112) fun w121 B122 hu123 => ?_
 have ne125 := nb (blk_lt B13) hu54.size hg57
 have r126 := ub1 hu123 (Ne.symm ne125) r116
 have U127 := u1 (Upd.mono (S' := [g10]) U117 all0) hu123 im
 have U128 := u1 (Upd.mono (S' := [g10]) hu114 all0) hu123 im
 have U129 := u1 (Upd.mono (S' := [g10]) U119 all0) hu123 im
 have U130 := ut0 hu14 hu54
 have U131 := ut0 U130 hu59
 have U132 := u1 U131 hu62 (ni U130.size hg57)
 have U133 := ut0 U132 hu104
 have U134 := ut0 U133 hu114
 have U135 := u1 U134 hu123 (nr hg12)
 have r136 := RdB.old hsl U135
 refine hld ⟨(blk_at r126 rfl), (cB r136 hA88 0 (by omega))⟩ fun hS124 => Rt 12 hS124 <| re <| tn <| rt <| rctx 22 hM113.size B122 (.int .i64 (((parseOf coilsForm dir (b.getD 0 0) (b.drop 1))).2)) <| ?_
 have hs : pduP dir b = (parseOf coilsForm dir (b.getD 0 0) (b.drop 1)) := by
   unfold pduP
   (try simp only [q17, q22, q27, q40, bs, if_true, if_false, decide_true, decide_false, hkf, famP, reduceIte])
   all_goals rfl
 refine pm_eq hs ?_
 have r137 := MsgRd.upd hM113 hu123 (safe_cons (safe1 r120 (by decide)) safe0)
 exact ⟨_, rfl, r137, U135⟩
 have ho138 := of_any (x := (b.getD 0 0)) (w := w11)
 rw [hkf] at ho138
 refine L0 <| Oc <| m1 ho138 fun w139 hu140 => Pl 3 <| L0 <| Oal #[.nilFunc, .nilFunc] fun g141 w142 hg143 B144 hu145 => L0 <| Osw B144 #[.func (.func 39) #[] #[], .func (.func 40) #[] #[]] fun w146 B147 hu148 => Pl 1 <| nt <| sq <| sg <| Pl 2 <| nt <| c0 <| ?_
 refine skn <| sq <| ?_
 have U169 := ut0 hu140 hu145
 have U170 := u1 U169 hu148 (ni hu140.size hg143)
 have r171 := RdB.old r32 U170
 refine x23 (RdB.at_ r171 0 (by omega)) fun b172 o173 hA174 hl175 hr176 => Rg 13 (fun w' => w'.cell? ⟨g141, 0, none⟩ = some (.func (.func 39) #[] #[]) ∧ w'.cell? ⟨b172, o173 + 0, none⟩ = some (.int .u8 (b.getD 0 0))) fun w189 hu190 => ?_
 have r192 := ub hu190 B147
 refine hld ⟨(blk_at r192 rfl), (uc hu190 hl175)⟩ fun hS191 => Rt 0 hS191 <| Rl 1 hS191 (fun _ hs => hs.1) <| Rt 2 hS191 <| Rt 3 hS191 <| Ri1 4 hS191 b.length 0 0 rfl hA174 (by omega) <| Rl 5 hS191 (fun _ hs => hs.2) <| Rt 6 hS191 <| x12 (cut_from (P := Try.prog) 22 5 1 Try.underlying22 rfl rfl A b.length cp 1 (by omega)) fun A193 hrun194 hrd195 => ?_
 have r196 := RdB.old r171 hu190
 refine Rr 7 hS191 (.slice A193 (b.length - 1) (cp - 1)) (fun _ _ => run_cutf (kl := .i64) (k := ((1 : Nat) : Int)) (A := A) (n := b.length) (c := cp) rfl Try.underlying22 (by kernel_rfl) (by kernel_rfl) (hrun194 _ _)) <| R0 8 rfl <| Ocv #[] #[] (args := #[.int .i64 dir, .int .u8 (b.getD 0 0), .slice A193 (b.length - 1) (cp - 1)]) <| e2 (regs_parse (dir := dir) (c := (b.getD 0 0)) (b8 (by omega)) (hrd195 _ _ _ _ _ r196) (by (try simp only [List.length_drop]); omega)) fun cs198 w197 hM199 hu200 => ?_
 have r202 := ub hu200 r192
 have U203 := ut0 hu190 hu200
 refine hld ⟨(blk_at r202 rfl), (uc U203 hl175)⟩ fun hS201 => Rt 9 hS201 <| Rt 10 hS201 <| ?_
 have U204 := ut0 U170 hu190
 have U205 := ut0 U204 hu200
 have r206 := ub U205 B13
 refine R0 11 rfl <| Osw (hz := (by rw [hM199.size]; exact msg_size)) (hv := hM199.size) (h1 := hM199.one) r206 (cs198) fun w207 B208 hu209 => ?_
 have ne211 := nb (blk_lt B13) hu140.size hg143
 have r212 := ub1 hu209 (Ne.symm ne211) r202
 have U213 := u1 (Upd.mono (S' := [g10]) U203 all0) hu209 im
 have U214 := u1 (Upd.mono (S' := [g10]) hu200 all0) hu209 im
 have U215 := u1 (Upd.mono (S' := [g10]) U205 all0) hu209 im
 have U216 := ut0 hu14 hu140
 have U217 := ut0 U216 hu145
 have U218 := u1 U217 hu148 (ni U216.size hg143)
 have U219 := ut0 U218 hu190
 have U220 := ut0 U219 hu200
 have U221 := u1 U220 hu209 (nr hg12)
 have r222 := RdB.old hsl U221
 refine hld ⟨(blk_at r212 rfl), (cB r222 hA174 0 (by omega))⟩ fun hS210 => Rt 12 hS210 <| re <| tn <| rt <| rctx 22 hM199.size B208 (.int .i64 (((parseOf regsForm dir (b.getD 0 0) (b.drop 1))).2)) <| ?_
 have hs : pduP dir b = (parseOf regsForm dir (b.getD 0 0) (b.drop 1)) := by
   unfold pduP
   (try simp only [q17, q22, q27, q40, bs, if_true, if_false, decide_true, decide_false, hkf, famP, reduceIte])
   all_goals rfl
 refine pm_eq hs ?_
 have r223 := MsgRd.upd hM199 hu209 (safe_cons (safe1 r206 (by decide)) safe0)
 exact ⟨_, rfl, r223, U221⟩
 have ho224 := of_any (x := (b.getD 0 0)) (w := w11)
 rw [hkf] at ho224
 refine L0 <| Oc <| m1 ho224 fun w225 hu226 => Pl 3 <| L0 <| Oal #[.nilFunc, .nilFunc] fun g227 w228 hg229 B230 hu231 => L0 <| Osw B230 #[.func (.func 41) #[] #[], .func (.func 42) #[] #[]] fun w232 B233 hu234 => Pl 1 <| nt <| sq <| sg <| Pl 2 <| nt <| c0 <| ?_
 refine skn <| sq <| ?_
 have U255 := ut0 hu226 hu231
 have U256 := u1 U255 hu234 (ni hu226.size hg229)
 have r257 := RdB.old r32 U256
 refine x23 (RdB.at_ r257 0 (by omega)) fun b258 o259 hA260 hl261 hr262 => Rg 13 (fun w' => w'.cell? ⟨g227, 0, none⟩ = some (.func (.func 41) #[] #[]) ∧ w'.cell? ⟨b258, o259 + 0, none⟩ = some (.int .u8 (b.getD 0 0))) fun w275 hu276 => ?_
 have r278 := ub hu276 B233
 refine hld ⟨(blk_at r278 rfl), (uc hu276 hl261)⟩ fun hS277 => Rt 0 hS277 <| Rl 1 hS277 (fun _ hs => hs.1) <| Rt 2 hS277 <| Rt 3 hS277 <| Ri1 4 hS277 b.length 0 0 rfl hA260 (by omega) <| Rl 5 hS277 (fun _ hs => hs.2) <| Rt 6 hS277 <| x12 (cut_from (P := Try.prog) 22 5 1 Try.underlying22 rfl rfl A b.length cp 1 (by omega)) fun A279 hrun280 hrd281 => ?_
 have r282 := RdB.old r257 hu276
 refine Rr 7 hS277 (.slice A279 (b.length - 1) (cp - 1)) (fun _ _ => run_cutf (kl := .i64) (k := ((1 : Nat) : Int)) (A := A) (n := b.length) (c := cp) rfl Try.underlying22 (by kernel_rfl) (by kernel_rfl) (hrun280 _ _)) <| R0 8 rfl <| Ocv #[] #[] (args := #[.int .i64 dir, .int .u8 (b.getD 0 0), .slice A279 (b.length - 1) (cp - 1)]) <| e2 (diag_parse (dir := dir) (c := (b.getD 0 0)) (b8 (by omega)) (hrd281 _ _ _ _ _ r282) (by (try simp only [List.length_drop]); omega)) fun cs284 w283 hM285 hu286 => ?_
 have r288 := ub hu286 r278
 have U289 := ut0 hu276 hu286
 refine hld ⟨(blk_at r288 rfl), (uc U289 hl261)⟩ fun hS287 => Rt 9 hS287 <| Rt 10 hS287 <| ?_
 have U290 := ut0 U256 hu276
 have U291 := ut0 U290 hu286
 have r292 := ub U291 B13
 refine R0 11 rfl <| Osw (hz := (by rw [hM285.size]; exact msg_size)) (hv := hM285.size) (h1 := hM285.one) r292 (cs284) fun w293 B294 hu295 => ?_
 have ne297 := nb (blk_lt B13) hu226.size hg229
 have r298 := ub1 hu295 (Ne.symm ne297) r288
 have U299 := u1 (Upd.mono (S' := [g10]) U289 all0) hu295 im
 have U300 := u1 (Upd.mono (S' := [g10]) hu286 all0) hu295 im
 have U301 := u1 (Upd.mono (S' := [g10]) U291 all0) hu295 im
 have U302 := ut0 hu14 hu226
 have U303 := ut0 U302 hu231
 have U304 := u1 U303 hu234 (ni U302.size hg229)
 have U305 := ut0 U304 hu276
 have U306 := ut0 U305 hu286
 have U307 := u1 U306 hu295 (nr hg12)
 have r308 := RdB.old hsl U307
 refine hld ⟨(blk_at r298 rfl), (cB r308 hA260 0 (by omega))⟩ fun hS296 => Rt 12 hS296 <| re <| tn <| rt <| rctx 22 hM285.size B294 (.int .i64 (((parseOf diagForm dir (b.getD 0 0) (b.drop 1))).2)) <| ?_
 have hs : pduP dir b = (parseOf diagForm dir (b.getD 0 0) (b.drop 1)) := by
   unfold pduP
   (try simp only [q17, q22, q27, q40, bs, if_true, if_false, decide_true, decide_false, hkf, famP, reduceIte])
   all_goals rfl
 refine pm_eq hs ?_
 have r309 := MsgRd.upd hM285 hu295 (safe_cons (safe1 r292 (by decide)) safe0)
 exact ⟨_, rfl, r309, U307⟩
 have ho310 := of_any (x := (b.getD 0 0)) (w := w11)
 rw [hkf] at ho310
 refine L0 <| Oc <| m1 ho310 fun w311 hu312 => Pl 3 <| L0 <| Oal #[.nilFunc, .nilFunc] fun g313 w314 hg315 B316 hu317 => L0 <| Osw B316 #[.func (.func 43) #[] #[], .func (.func 44) #[] #[]] fun w318 B319 hu320 => Pl 1 <| nt <| sq <| sg <| Pl 2 <| nt <| c0 <| ?_
 refine skn <| sq <| ?_
 have U341 := ut0 hu312 hu317
 have U342 := u1 U341 hu320 (ni hu312.size hg315)
 have r343 := RdB.old r32 U342
 refine x23 (RdB.at_ r343 0 (by omega)) fun b344 o345 hA346 hl347 hr348 => Rg 13 (fun w' => w'.cell? ⟨g313, 0, none⟩ = some (.func (.func 43) #[] #[]) ∧ w'.cell? ⟨b344, o345 + 0, none⟩ = some (.int .u8 (b.getD 0 0))) fun w361 hu362 => ?_
 have r364 := ub hu362 B319
 refine hld ⟨(blk_at r364 rfl), (uc hu362 hl347)⟩ fun hS363 => Rt 0 hS363 <| Rl 1 hS363 (fun _ hs => hs.1) <| Rt 2 hS363 <| Rt 3 hS363 <| Ri1 4 hS363 b.length 0 0 rfl hA346 (by omega) <| Rl 5 hS363 (fun _ hs => hs.2) <| Rt 6 hS363 <| x12 (cut_from (P := Try.prog) 22 5 1 Try.underlying22 rfl rfl A b.length cp 1 (by omega)) fun A365 hrun366 hrd367 => ?_
 have r368 := RdB.old r343 hu362
 refine Rr 7 hS363 (.slice A365 (b.length - 1) (cp - 1)) (fun _ _ => run_cutf (kl := .i64) (k := ((1 : Nat) : Int)) (A := A) (n := b.length) (c := cp) rfl Try.underlying22 (by kernel_rfl) (by kernel_rfl) (hrun366 _ _)) <| R0 8 rfl <| Ocv #[] #[] (args := #[.int .i64 dir, .int .u8 (b.getD 0 0), .slice A365 (b.length - 1) (cp - 1)]) <| e2 (files_parse (dir := dir) (c := (b.getD 0 0)) (b8 (by omega)) (hrd367 _ _ _ _ _ r368) (by (try simp only [List.length_drop]); omega)) fun cs370 w369 hM371 hu372 => ?_
 have r374 := ub hu372 r364
 have U375 := ut0 hu362 hu372
 refine hld ⟨(blk_at r374 rfl), (uc U375 hl347)⟩ fun hS373 => Rt 9 hS373 <| Rt 10 hS373 <| ?_
 have U376 := ut0 U342 hu362
 have U377 := ut0 U376 hu372
 have r378 := ub U377 B13
 refine R0 11 rfl <| Osw (hz := (by rw [hM371.size]; exact msg_size)) (hv := hM371.size) (h1 := hM371.one) r378 (cs370) fun w379 B380 hu381 => ?_
 have ne383 := nb (blk_lt B13) hu312.size hg315
 have r384 := ub1 hu381 (Ne.symm ne383) r374
 have U385 := u1 (Upd.mono (S' := [g10]) U375 all0) hu381 im
 have U386 := u1 (Upd.mono (S' := [g10]) hu372 all0) hu381 im
 have U387 := u1 (Upd.mono (S' := [g10]) U377 all0) hu381 im
 have U388 := ut0 hu14 hu312
 have U389 := ut0 U388 hu317
 have U390 := u1 U389 hu320 (ni U388.size hg315)
 have U391 := ut0 U390 hu362
 have U392 := ut0 U391 hu372
 have U393 := u1 U392 hu381 (nr hg12)
 have r394 := RdB.old hsl U393
 refine hld ⟨(blk_at r384 rfl), (cB r394 hA346 0 (by omega))⟩ fun hS382 => Rt 12 hS382 <| re <| tn <| rt <| rctx 22 hM371.size B380 (.int .i64 (((parseOf filesForm dir (b.getD 0 0) (b.drop 1))).2)) <| ?_
 have hs : pduP dir b = (parseOf filesForm dir (b.getD 0 0) (b.drop 1)) := by
   unfold pduP
   (try simp only [q17, q22, q27, q40, bs, if_true, if_false, decide_true, decide_false, hkf, famP, reduceIte])
   all_goals rfl
 refine pm_eq hs ?_
 have r395 := MsgRd.upd hM371 hu381 (safe_cons (safe1 r378 (by decide)) safe0)
 exact ⟨_, rfl, r395, U393⟩
 have ho396 := of_any (x := (b.getD 0 0)) (w := w11)
 rw [hkf] at ho396
 refine L0 <| Oc <| m1 ho396 fun w397 hu398 => Pl 3 <| L0 <| Oal #[.nilFunc, .nilFunc] fun g399 w400 hg401 B402 hu403 => L0 <| Osw B402 #[.func (.func 45) #[] #[], .func (.func 46) #[] #[]] fun w404 B405 hu406 => Pl 1 <| nt <| sq <| sg <| Pl 2 <| nt <| c0 <| ?_
 refine skn <| sq <| ?_
 have U427 := ut0 hu398 hu403
 have U428 := u1 U427 hu406 (ni hu398.size hg401)
 have r429 := RdB.old r32 U428
 refine x23 (RdB.at_ r429 0 (by omega)) fun b430 o431 hA432 hl433 hr434 => Rg 13 (fun w' => w'.cell? ⟨g399, 0, none⟩ = some (.func (.func 45) #[] #[]) ∧ w'.cell? ⟨b430, o431 + 0, none⟩ = some (.int .u8 (b.getD 0 0))) fun w447 hu448 => ?_
 have r450 := ub hu448 B405
 refine hld ⟨(blk_at r450 rfl), (uc hu448 hl433)⟩ fun hS449 => Rt 0 hS449 <| Rl 1 hS449 (fun _ hs => hs.1) <| Rt 2 hS449 <| Rt 3 hS449 <| Ri1 4 hS449 b.length 0 0 rfl hA432 (by omega) <| Rl 5 hS449 (fun _ hs => hs.2) <| Rt 6 hS449 <| x12 (cut_from (P := Try.prog) 22 5 1 Try.underlying22 rfl rfl A b.length cp 1 (by omega)) fun A451 hrun452 hrd453 => ?_
 have r454 := RdB.old r429 hu448
 refine Rr 7 hS449 (.slice A451 (b.length - 1) (cp - 1)) (fun _ _ => run_cutf (kl := .i64) (k := ((1 : Nat) : Int)) (A := A) (n := b.length) (c := cp) rfl Try.underlying22 (by kernel_rfl) (by kernel_rfl) (hrun452 _ _)) <| R0 8 rfl <| Ocv #[] #[] (args := #[.int .i64 dir, .int .u8 (b.getD 0 0), .slice A451 (b.length - 1) (cp - 1)]) <| e2 (mei_parse (dir := dir) (c := (b.getD 0 0)) (b8 (by omega)) (hrd453 _ _ _ _ _ r454) (by (try simp only [List.length_drop]); omega)) fun cs456 w455 hM457 hu458 => ?_
 have r460 := ub hu458 r450
 have U461 := ut0 hu448 hu458
 refine hld ⟨(blk_at r460 rfl), (uc U461 hl433)⟩ fun hS459 => Rt 9 hS459 <| Rt 10 hS459 <| ?_
 have U462 := ut0 U428 hu448
 have U463 := ut0 U462 hu458
 have r464 := ub U463 B13
 refine R0 11 rfl <| Osw (hz := (by rw [hM457.size]; exact msg_size)) (hv := hM457.size) (h1 := hM457.one) r464 (cs456) fun w465 B466 hu467 => ?_
 have ne469 := nb (blk_lt B13) hu398.size hg401
 have r470 := ub1 hu467 (Ne.symm ne469) r460
 have U471 := u1 (Upd.mono (S' := [g10]) U461 all0) hu467 im
 have U472 := u1 (Upd.mono (S' := [g10]) hu458 all0) hu467 im
 have U473 := u1 (Upd.mono (S' := [g10]) U463 all0) hu467 im
 have U474 := ut0 hu14 hu398
 have U475 := ut0 U474 hu403
 have U476 := u1 U475 hu406 (ni U474.size hg401)
 have U477 := ut0 U476 hu448
 have U478 := ut0 U477 hu458
 have U479 := u1 U478 hu467 (nr hg12)
 have r480 := RdB.old hsl U479
 refine hld ⟨(blk_at r470 rfl), (cB r480 hA432 0 (by omega))⟩ fun hS468 => Rt 12 hS468 <| re <| tn <| rt <| rctx 22 hM457.size B466 (.int .i64 (((parseOf meiForm dir (b.getD 0 0) (b.drop 1))).2)) <| ?_
 have hs : pduP dir b = (parseOf meiForm dir (b.getD 0 0) (b.drop 1)) := by
   unfold pduP
   (try simp only [q17, q22, q27, q40, bs, if_true, if_false, decide_true, decide_false, hkf, famP, reduceIte])
   all_goals rfl
 refine pm_eq hs ?_
 have r481 := MsgRd.upd hM457 hu467 (safe_cons (safe1 r464 (by decide)) safe0)
 exact ⟨_, rfl, r481, U479⟩
 have ho482 := of_any (x := (b.getD 0 0)) (w := w11)
 rw [hkf] at ho482
 refine L0 <| Oc <| m1 ho482 fun w483 hu484 => Pl 3 <| L0 <| Oal #[.nilFunc, .nilFunc] fun g485 w486 hg487 B488 hu489 => L0 <| Osw B488 #[.nilFunc, .nilFunc] fun w490 B491 hu492 => Pl 1 <| nt <| sq <| sg <| Pl 2 <| nt <| c1 <| ?_
 refine sg <| Pl 1 <| ?_
 have U493 := ut0 hu484 hu489
 have U494 := u1 U493 hu492 (ni hu484.size hg487)
 have r495 := ub U494 B13
 refine L0 <| Osw r495 mZ fun w496 B497 hu498 => Pl 1 <| nt <| rt <| tr <| rct B497 (.int .i64 4) <| ?_
 have hs : pduP dir b = (Msg.zero, 4) := by
   unfold pduP
   (try simp only [q17, q22, q27, q40, bs, if_true, if_false, decide_true, decide_false, hkf, famP, reduceIte])
   all_goals rfl
 refine pm_eq hs ?_
 have U499 := ut0 hu14 hu484
 have U500 := ut0 U499 hu489
 have U501 := u1 U500 hu492 (ni U499.size hg487)
 have U502 := u1 U501 hu498 (nr hg12)
 exact bad_res U502
theorem pdu_parse {m : Bool} {v : Value} {b : List Int} {w : World} {dir : Int} (h : RdB m w v b) (hb : b.length ≤ 1048576) : Calls Try.prog 15 #[.int .i64 dir, v] w (PMsg (pduP dir b) w) := by
  obtain ⟨A, cp, rfl, _, _⟩ := h.shape
  exact pdu_parse0 h hb
open Go.RowKit
def coilsLay (dir : Int) (M : Msg) : List Int :=
  if M.code == 5 then putW [M.addr, M.value]
  else if M.code == 15 && dir == 0 then ((putW [M.addr, M.count] ++ [((packB M.bits).length : Int) % 256]) ++ packB M.bits)
  else if dir == 1 && M.code != 15 then [(M.data.length : Int) % 256] ++ M.data
  else putW [M.addr, M.count]
set_option maxRecDepth 100000 in
set_option maxHeartbeats 4000000 in
theorem coils_lay_t {m : Bool} {cs : Array Value} {M : Msg} {w : World} {dir : Int} (h : MsgRd m w cs.toList M) (hf : MsgFew M) (hd0 : (dir == 0) = true) : Calls Try.prog 60 #[.int .i64 dir, .agg cs] w (PLay (coilsLay dir M) w) := by
 obtain ⟨vw, vb, vd, vr, vo, h0, hw, hbt, hd, hr, ho, hR⟩ := h
 obtain rfl : cs = (msgCells M vw vb vd vr vo).toArray := by apply Array.toList_inj.1; simpa using h0
 clear h0
 obtain ⟨Aw, kw, rfl, _, _⟩ := hw.shape
 obtain ⟨Ab, kb, rfl, _, _⟩ := hbt.shape
 obtain ⟨Ad, kd, rfl, _, _⟩ := hd.shape
 obtain ⟨Ar, kr, rfl, _, _⟩ := hr.shape
 obtain ⟨Ao, ko, rfl, _, _⟩ := ho.shape
 obtain ⟨q0, q1, q2, q3, q4, q5, q6, q7, q8, q9, q10, q11, q16, q17, q18, q19, q20⟩ := hR
 simp only [B8, B16] at q0 q1 q2 q3 q4 q5 q6 q7 q8 q9 q10 q11 q16 q17 q18 q19 q20
 have hf1 := hf.words
 have hf2 := hf.bits
 have hf3 := hf.data
 have hf4 := hf.recs
 have hf5 := hf.objects
 refine en 62 Try.func60 rfl <| sg <| L0 <| Obx (mG M.code M.fail M.addr M.count M.value M.and_ M.or_ M.addr2 M.sub M.status M.events M.messages (.slice Aw M.words.length kw) (.slice Ab M.bits.length kb) (.slice Ad M.data.length kd) (.slice Ar M.recs.length kr) M.mei M.kind M.level M.more M.next (.slice Ao M.objects.length ko)) fun g10 w11 hg12 B13 hu14 => Pl 1 <| nt <| sq <| bk <| sg <| Pl 1 <| L0 <| Olb B13 0 <| Pl 2 <| nl <| ?_
 refine tn <| cb ((M.code == 5)) (fun q15 => ?_) (fun q15 => ?_)
 have q15p := eq_of_beqi q15
 refine sg <| Pl 1 <| L0 <| Olb B13 2 <| Pl 1 <| L0 <| Olb B13 4 <| L0 <| Olt (m := 2) (e := 23) #[.int .u16 M.addr, .int .u16 M.value] fun g16 w17 hg18 B19 hu20 => ?_
 have ow21 := litW hg18 (xs := [M.addr, M.value]) (by as_aux_lemma => kernel_rfl) (rng_cons (by omega) (rng_cons (by omega) rng_nil)) (by (try simp only [List.length_cons, List.length_nil]); omega) B19
 refine L0 <| Oc <| so2 (put_any (xs := [M.addr, M.value]) (ow21).rd (by (try simp only [List.length_cons, List.length_nil]); omega)) fun A26 cp27 w22 rd30 hl28 hm29 hu25 => Pl 1 <| nt <| rt <| br <| tr <| rr (.slice A26 ((putW ([M.addr, M.value])).length) cp27) <| ?_
 have hs : coilsLay dir M = (putW ([M.addr, M.value])) := by
   unfold coilsLay 
   (try simp only [hd0, q15, bs, if_true, if_false, decide_true, decide_false, reduceIte])
   all_goals rfl
 rw [hs]
 have U31 := ut0 hu14 hu20
 have U32 := ut0 U31 hu25
 exact ⟨_, rfl, (OwnG.weaken rd30 (le hu14.size hu20.size)), U32⟩
 have q15p := ne_of_beqi q15
 refine sg <| Pl 1 <| L0 <| Olb B13 0 <| Pl 2 <| cu 3 [20] 23 (((M.code == 15) && (dir == 0))) (fun K K34 => ?_) ?_
 refine bl 20 ((M.code == 15)) (fun q33 => ?_) (fun q33 => ?_)
 have q33p := eq_of_beqi q33
 exact Pl 3 <| ce K34 (dir == 0) (by rw [q33]; rfl)
 have q33p := ne_of_beqi q33
 exact Pl 3 <| ce K34 false (by rw [q33]; rfl)
 refine Pl 1 <| nt <| cb (((M.code == 15) && (dir == 0))) (fun q35 => ?_) (fun q35 => ?_)
 have q35a := (and_t q35).1
 have q35b := (and_t q35).2
 have q35ap := eq_of_beqi q35a
 have q35bp := eq_of_beqi q35b
 refine sg <| Pl 1 <| L0 <| Olb B13 13 <| ?_
 have r36 := RdL.old hbt hu14
 refine L0 <| Oc <| so2 (pack_any (l := M.bits) r36 (by omega)) fun A41 cp42 w37 rd45 hl43 hm44 hu40 => ?_
 have hk46 := packB_le M.bits
 refine Pl 1 <| ng <| Pl 1 <| ?_
 have r47 := ub hu40 B13
 refine L0 <| Olb r47 2 <| Pl 1 <| L0 <| Olb r47 3 <| L0 <| Olt (m := 2) (e := 23) #[.int .u16 M.addr, .int .u16 M.count] fun g48 w49 hg50 B51 hu52 => ?_
 have ow53 := litW hg50 (xs := [M.addr, M.count]) (by as_aux_lemma => kernel_rfl) (rng_cons (by omega) (rng_cons (by omega) rng_nil)) (by (try simp only [List.length_cons, List.length_nil]); omega) B51
 refine L0 <| Oc <| so2 (put_any (xs := [M.addr, M.count]) (ow53).rd (by (try simp only [List.length_cons, List.length_nil]); omega)) fun A58 cp59 w54 rd62 hl60 hm61 hu57 => Pl 3 <| L0 <| Olt (m := 1) (e := 5) #[.int .u8 ((((packB M.bits).length : Nat) : Int) % 256)] fun g63 w64 hg65 B66 hu67 => ?_
 have ow68 := litB hg65 (xs := [((((packB M.bits).length : Nat) : Int) % 256)]) (by as_aux_lemma => kernel_rfl) (rng_cons (by omega) rng_nil) (by (try simp only [List.length_cons, List.length_nil]); omega) B66
 have r69 := own_stay rd62 hu67 (fun x hx => not0) (fun _ _ h => h)
 refine L0 <| Oapp one_u8 (xs := (putW ([M.addr, M.count]))) (ys := ([((((packB M.bits).length : Nat) : Int) % 256)])) (.int .u8 0) 1 r69 (ow68).rd (by (try simp only [List.length_append, List.length_cons, List.length_nil, putW_length]); omega) (le hu57.size hu67.size) fun A70 cp71 w72 ho73 hu74 => Pl 1 <| ?_
 have U75 := ut0 hu52 hu57
 have U76 := ut0 U75 hu67
 have U77 := ut U76 hu74 (all_app (ob_new rd62 hu52.size) all0)
 have r78 := own_stay rd45 U77 (fun x hx => not0) (fun _ _ h => h)
 refine L0 <| Oapp one_u8 (xs := ((putW ([M.addr, M.count])) ++ [((((packB M.bits).length : Nat) : Int) % 256)])) (ys := (packB M.bits)) (.int .u8 0) 1 ho73 (r78).rd (by (try simp only [List.length_append, List.length_cons, List.length_nil, putW_length]); omega) (le (le hu57.size hu67.size) hu74.size) fun A79 cp80 w81 ho82 hu83 => Pl 1 <| nt <| rt <| br <| tr <| rr (.slice A79 ((((putW ([M.addr, M.count])) ++ [((((packB M.bits).length : Nat) : Int) % 256)]) ++ (packB M.bits)).length) cp80) <| ?_
 have hs : coilsLay dir M = (((putW ([M.addr, M.count])) ++ [((((packB M.bits).length : Nat) : Int) % 256)]) ++ (packB M.bits)) := by
   unfold coilsLay 
   (try simp only [q35b, q15, q35, q35a, bs, if_true, if_false, decide_true, decide_false, reduceIte])
   all_goals rfl
 rw [hs]
 have U84 := ut0 hu14 hu40
 have U85 := ut0 U84 hu52
 have U86 := ut0 U85 hu57
 have U87 := ut0 U86 hu67
 have U88 := ut U87 hu74 (all_app (ob_new rd62 U85.size) all0)
 have U89 := ut U88 hu83 (all_app (ob_new ho73 U85.size) all0)
 exact ⟨_, rfl, (OwnG.weaken ho82 (le (le hu14.size hu40.size) hu52.size)), U89⟩
 have q35a : (M.code == 15) = false := by simpa only [hd0, bs] using q35
 have q35ap := ne_of_beqi q35a
 refine sg <| Pl 3 <| cu 4 [43] 47 (((dir == 1) && (M.code != 15))) (fun K K91 => ?_) ?_
 refine bl 43 ((dir == 1)) (fun q90 => ?_) (fun q90 => ?_)
 have q90p := eq_of_beqi q90
 exact Pl 1 <| L1 <| Olb B13 0 <| Pl 2 <| ce K91 (M.code != 15) (by rw [q90]; rfl)
 have q90p := ne_of_beqi q90
 exact Pl 4 <| ce K91 false (by rw [q90]; rfl)
 refine Pl 1 <| nt <| cb (((dir == 1) && (M.code != 15))) (fun q92 => ?_) (fun q92 => ?_)
 have q92a := (and_t q92).1
 have q92b := (and_t q92).2
 have q92ap := eq_of_beqi q92a
 have q92bp := ne_of_bnei q92b
 refine sg <| Pl 1 <| L0 <| Olb B13 14 <| Pl 2 <| L0 <| Olt (m := 1) (e := 5) #[.int .u8 (((M.data.length : Nat) : Int) % 256)] fun g93 w94 hg95 B96 hu97 => ?_
 have ow98 := litB hg95 (xs := [(((M.data.length : Nat) : Int) % 256)]) (by as_aux_lemma => kernel_rfl) (rng_cons (by omega) rng_nil) (by (try simp only [List.length_cons, List.length_nil]); omega) B96
 refine Pl 1 <| ?_
 have r99 := ub hu97 B13
 refine L0 <| Olb r99 14 <| ?_
 have U100 := ut0 hu14 hu97
 have r101 := RdB.old hd U100
 refine L0 <| Oapp one_u8 (xs := ([(((M.data.length : Nat) : Int) % 256)])) (ys := M.data) (.int .u8 0) 1 ow98 r101 (by (try simp only [List.length_append, List.length_cons, List.length_nil, putW_length]); omega) hu97.size fun A102 cp103 w104 ho105 hu106 => Pl 1 <| nt <| rt <| br <| tr <| rr (.slice A102 (([(((M.data.length : Nat) : Int) % 256)] ++ M.data).length) cp103) <| ?_
 have hs : coilsLay dir M = ([(((M.data.length : Nat) : Int) % 256)] ++ M.data) := by
   unfold coilsLay 
   (try simp only [hd0, q15, q35, q35a, q92, q92a, q92b, bs, if_true, if_false, decide_true, decide_false, reduceIte])
   all_goals rfl
 rw [hs]
 have U107 := ut U100 hu106 (all_app (ob_new ow98 hu14.size) all0)
 exact ⟨_, rfl, (OwnG.weaken ho105 hu14.size), U107⟩
 refine sk <| bn <| tn <| sg <| Pl 1 <| L0 <| Olb B13 2 <| Pl 1 <| L0 <| Olb B13 3 <| L0 <| Olt (m := 2) (e := 23) #[.int .u16 M.addr, .int .u16 M.count] fun g108 w109 hg110 B111 hu112 => ?_
 have ow113 := litW hg110 (xs := [M.addr, M.count]) (by as_aux_lemma => kernel_rfl) (rng_cons (by omega) (rng_cons (by omega) rng_nil)) (by (try simp only [List.length_cons, List.length_nil]); omega) B111
 refine L0 <| Oc <| so2 (put_any (xs := [M.addr, M.count]) (ow113).rd (by (try simp only [List.length_cons, List.length_nil]); omega)) fun A118 cp119 w114 rd122 hl120 hm121 hu117 => Pl 1 <| nt <| rt <| rr (.slice A118 ((putW ([M.addr, M.count])).length) cp119) <| ?_
 have hs : coilsLay dir M = (putW ([M.addr, M.count])) := by
   unfold coilsLay 
   (try simp only [hd0, q15, q35, q35a, q92, bs, if_true, if_false, decide_true, decide_false, reduceIte])
   all_goals rfl
 rw [hs]
 have U123 := ut0 hu14 hu112
 have U124 := ut0 U123 hu117
 exact ⟨_, rfl, (OwnG.weaken rd122 (le hu14.size hu112.size)), U124⟩
set_option maxRecDepth 100000 in
set_option maxHeartbeats 4000000 in
theorem coils_lay_f {m : Bool} {cs : Array Value} {M : Msg} {w : World} {dir : Int} (h : MsgRd m w cs.toList M) (hf : MsgFew M) (hd0 : (dir == 0) = false) : Calls Try.prog 60 #[.int .i64 dir, .agg cs] w (PLay (coilsLay dir M) w) := by
 obtain ⟨vw, vb, vd, vr, vo, h0, hw, hbt, hd, hr, ho, hR⟩ := h
 obtain rfl : cs = (msgCells M vw vb vd vr vo).toArray := by apply Array.toList_inj.1; simpa using h0
 clear h0
 obtain ⟨Aw, kw, rfl, _, _⟩ := hw.shape
 obtain ⟨Ab, kb, rfl, _, _⟩ := hbt.shape
 obtain ⟨Ad, kd, rfl, _, _⟩ := hd.shape
 obtain ⟨Ar, kr, rfl, _, _⟩ := hr.shape
 obtain ⟨Ao, ko, rfl, _, _⟩ := ho.shape
 obtain ⟨q0, q1, q2, q3, q4, q5, q6, q7, q8, q9, q10, q11, q16, q17, q18, q19, q20⟩ := hR
 simp only [B8, B16] at q0 q1 q2 q3 q4 q5 q6 q7 q8 q9 q10 q11 q16 q17 q18 q19 q20
 have hf1 := hf.words
 have hf2 := hf.bits
 have hf3 := hf.data
 have hf4 := hf.recs
 have hf5 := hf.objects
 refine en 62 Try.func60 rfl <| sg <| L0 <| Obx (mG M.code M.fail M.addr M.count M.value M.and_ M.or_ M.addr2 M.sub M.status M.events M.messages (.slice Aw M.words.length kw) (.slice Ab M.bits.length kb) (.slice Ad M.data.length kd) (.slice Ar M.recs.length kr) M.mei M.kind M.level M.more M.next (.slice Ao M.objects.length ko)) fun g10 w11 hg12 B13 hu14 => Pl 1 <| nt <| sq <| bk <| sg <| Pl 1 <| L0 <| Olb B13 0 <| Pl 2 <| nl <| ?_
 refine tn <| cb ((M.code == 5)) (fun q15 => ?_) (fun q15 => ?_)
 have q15p := eq_of_beqi q15
 refine sg <| Pl 1 <| L0 <| Olb B13 2 <| Pl 1 <| L0 <| Olb B13 4 <| L0 <| Olt (m := 2) (e := 23) #[.int .u16 M.addr, .int .u16 M.value] fun g16 w17 hg18 B19 hu20 => ?_
 have ow21 := litW hg18 (xs := [M.addr, M.value]) (by as_aux_lemma => kernel_rfl) (rng_cons (by omega) (rng_cons (by omega) rng_nil)) (by (try simp only [List.length_cons, List.length_nil]); omega) B19
 refine L0 <| Oc <| so2 (put_any (xs := [M.addr, M.value]) (ow21).rd (by (try simp only [List.length_cons, List.length_nil]); omega)) fun A26 cp27 w22 rd30 hl28 hm29 hu25 => Pl 1 <| nt <| rt <| br <| tr <| rr (.slice A26 ((putW ([M.addr, M.value])).length) cp27) <| ?_
 have hs : coilsLay dir M = (putW ([M.addr, M.value])) := by
   unfold coilsLay 
   (try simp only [hd0, q15, bs, if_true, if_false, decide_true, decide_false, reduceIte])
   all_goals rfl
 rw [hs]
 have U31 := ut0 hu14 hu20
 have U32 := ut0 U31 hu25
 exact ⟨_, rfl, (OwnG.weaken rd30 (le hu14.size hu20.size)), U32⟩
 have q15p := ne_of_beqi q15
 refine sg <| Pl 1 <| L0 <| Olb B13 0 <| Pl 2 <| cu 3 [20] 23 (((M.code == 15) && (dir == 0))) (fun K K34 => ?_) ?_
 refine bl 20 ((M.code == 15)) (fun q33 => ?_) (fun q33 => ?_)
 have q33p := eq_of_beqi q33
 exact Pl 3 <| ce K34 (dir == 0) (by rw [q33]; rfl)
 have q33p := ne_of_beqi q33
 exact Pl 3 <| ce K34 false (by rw [q33]; rfl)
 refine Pl 1 <| nt <| ?_
 have k35 : ((M.code == 15) && (dir == 0)) = false := by simp only [hd0, bs]
 refine cf k35 <| sg <| Pl 3 <| cu 4 [43] 47 (((dir == 1) && (M.code != 15))) (fun K K37 => ?_) ?_
 refine bl 43 ((dir == 1)) (fun q36 => ?_) (fun q36 => ?_)
 have q36p := eq_of_beqi q36
 exact Pl 1 <| L1 <| Olb B13 0 <| Pl 2 <| ce K37 (M.code != 15) (by rw [q36]; rfl)
 have q36p := ne_of_beqi q36
 exact Pl 4 <| ce K37 false (by rw [q36]; rfl)
 refine Pl 1 <| nt <| cb (((dir == 1) && (M.code != 15))) (fun q38 => ?_) (fun q38 => ?_)
 have q38a := (and_t q38).1
 have q38b := (and_t q38).2
 have q38ap := eq_of_beqi q38a
 have q38bp := ne_of_bnei q38b
 refine sg <| Pl 1 <| L0 <| Olb B13 14 <| Pl 2 <| L0 <| Olt (m := 1) (e := 5) #[.int .u8 (((M.data.length : Nat) : Int) % 256)] fun g39 w40 hg41 B42 hu43 => ?_
 have ow44 := litB hg41 (xs := [(((M.data.length : Nat) : Int) % 256)]) (by as_aux_lemma => kernel_rfl) (rng_cons (by omega) rng_nil) (by (try simp only [List.length_cons, List.length_nil]); omega) B42
 refine Pl 1 <| ?_
 have r45 := ub hu43 B13
 refine L0 <| Olb r45 14 <| ?_
 have U46 := ut0 hu14 hu43
 have r47 := RdB.old hd U46
 refine L0 <| Oapp one_u8 (xs := ([(((M.data.length : Nat) : Int) % 256)])) (ys := M.data) (.int .u8 0) 1 ow44 r47 (by (try simp only [List.length_append, List.length_cons, List.length_nil, putW_length]); omega) hu43.size fun A48 cp49 w50 ho51 hu52 => Pl 1 <| nt <| rt <| br <| tr <| rr (.slice A48 (([(((M.data.length : Nat) : Int) % 256)] ++ M.data).length) cp49) <| ?_
 have hs : coilsLay dir M = ([(((M.data.length : Nat) : Int) % 256)] ++ M.data) := by
   unfold coilsLay 
   (try simp only [hd0, q15, k35, q38, q38a, q38b, bs, if_true, if_false, decide_true, decide_false, reduceIte])
   all_goals rfl
 rw [hs]
 have U53 := ut U46 hu52 (all_app (ob_new ow44 hu14.size) all0)
 exact ⟨_, rfl, (OwnG.weaken ho51 hu14.size), U53⟩
 refine sk <| bn <| tn <| sg <| Pl 1 <| L0 <| Olb B13 2 <| Pl 1 <| L0 <| Olb B13 3 <| L0 <| Olt (m := 2) (e := 23) #[.int .u16 M.addr, .int .u16 M.count] fun g54 w55 hg56 B57 hu58 => ?_
 have ow59 := litW hg56 (xs := [M.addr, M.count]) (by as_aux_lemma => kernel_rfl) (rng_cons (by omega) (rng_cons (by omega) rng_nil)) (by (try simp only [List.length_cons, List.length_nil]); omega) B57
 refine L0 <| Oc <| so2 (put_any (xs := [M.addr, M.count]) (ow59).rd (by (try simp only [List.length_cons, List.length_nil]); omega)) fun A64 cp65 w60 rd68 hl66 hm67 hu63 => Pl 1 <| nt <| rt <| rr (.slice A64 ((putW ([M.addr, M.count])).length) cp65) <| ?_
 have hs : coilsLay dir M = (putW ([M.addr, M.count])) := by
   unfold coilsLay 
   (try simp only [hd0, q15, k35, q38, bs, if_true, if_false, decide_true, decide_false, reduceIte])
   all_goals rfl
 rw [hs]
 have U69 := ut0 hu14 hu58
 have U70 := ut0 U69 hu63
 exact ⟨_, rfl, (OwnG.weaken rd68 (le hu14.size hu58.size)), U70⟩
theorem coils_lay {m : Bool} {cs : Array Value} {M : Msg} {w : World} {dir : Int} (h : MsgRd m w cs.toList M) (hf : MsgFew M) : Calls Try.prog 60 #[.int .i64 dir, .agg cs] w (PLay (coilsLay dir M) w) := by
  rcases bool_dich (dir == 0) with h0 | h0
  · exact coils_lay_t h hf h0
  · exact coils_lay_f h hf h0
open Go.RowKit
theorem RdB.cells {m : Bool} {w : World} {A : Option Addr} {n c : Nat} {xs : List Int} (h : RdB m w (.slice A n c) xs) : (A = none ∧ xs = []) ∨ xs = [] ∨ ∃ b off, A = some ⟨b, off, none⟩ ∧ ∀ i, i < xs.length → w.cell? ⟨b, off + i, none⟩ = some (.int .u8 (xs.getD i 0)) := by
  by_cases h0 : xs = []
  · exact .inr (.inl h0)
  · have hl : 0 < xs.length := List.length_pos_iff.2 h0
    obtain ⟨b, off, rfl, _⟩ := RdB.at_ h 0 hl
    refine .inr (.inr ⟨b, off, rfl, fun i hi => ?_⟩)
    obtain ⟨b', off', hA, hc, _⟩ := RdB.at_ h i hi
    injection hA with hA
    injection hA with h1 h2
    subst h1 h2
    exact hc
theorem run_str {m : Bool} {w : World} {v : Value} {xs : List Int} (h : RdB m w v xs) : (convert 22 9 v).run Try.prog w = .ok (.string (strOfNums xs)) w := by
  have hh := h
  obtain ⟨A, c, rfl, h1, h2, h0, h3⟩ := hh
  rcases Nat.eq_zero_or_pos xs.length with hz | hz
  · obtain rfl : xs = [] := List.eq_nil_of_length_eq_zero hz
    cases A with
    | none => exact run_convert_bytes_nil w _ _ Try.underlying22 Try.underlying5 _ _ _ Try.underlying9
    | some a =>
      rw [run_convert_bytes_string w _ _ _ _ _ _ Try.underlying22 Try.underlying5 Try.underlying9]
      rw [run_bytesToString w a _ c [] (by simp [loadCells, loadCellsFrom, Sem.run_pure])]
      rfl
  · obtain ⟨b, off, cells, t, fr, rfl, hb, ht, hx⟩ := h3 hz
    exact run_convert_bytes_arg w _ _ Try.underlying22 Try.underlying5 b off _ c xs rfl (fun i hi => by
      obtain ⟨b', off', hA, hc, _⟩ := RdB.at_ h i hi
      injection hA with hA
      injection hA with h1 h2
      subst h1 h2
      exact hc) _ Try.underlying9
theorem str_inj : ∀ {xs ys : List Int}, (∀ x, x ∈ xs → 0 ≤ x ∧ x < 256) → (∀ x, x ∈ ys → 0 ≤ x ∧ x < 256) → (xs.map fun n => UInt8.ofNat n.toNat) = (ys.map fun n => UInt8.ofNat n.toNat) → xs = ys
  | [], [], _, _, _ => rfl
  | [], _ :: _, _, _, h => by simp at h
  | _ :: _, [], _, _, h => by simp at h
  | x :: xs, y :: ys, hx, hy, h => by
    simp only [List.map_cons, List.cons.injEq] at h
    have h1 := hx x (by simp)
    have h2 := hy y (by simp)
    have h3 : x = y := by
      have := congrArg UInt8.toNat h.1
      simp at this
      omega
    rw [h3, str_inj (fun z hz => hx z (by simp [hz])) (fun z hz => hy z (by simp [hz])) h.2]
theorem run_streq {m m' : Bool} {w w' W : World} {u v : Value} {xs ys : List Int} (hx : RdB m w u xs) (hy : RdB m' w' v ys) : (binOp .eql 9 (.string (strOfNums xs)) (.string (strOfNums ys))).run Try.prog W = .ok (.bool (decide (xs = ys))) W := by
  have e : ((strOfNums xs).toList == (strOfNums ys).toList) = decide (xs = ys) := by
    by_cases h : xs = ys
    · subst h; simp
    · rw [decide_eq_false h, beq_eq_false_iff_ne]
      intro h2
      rw [ByteArray.toList_eq, ByteArray.toList_eq] at h2
      exact h (str_inj hx.rng hy.rng h2)
  rw [binOp_string_eql, e]
  rfl
theorem rec_dec {A B : Rec} : decide (A = B) = (decide (A.file = B.file) && (decide (A.record = B.record) && (decide (A.count = B.count) && decide (A.words = B.words)))) := by
  rw [Bool.eq_iff_iff]
  cases A; cases B
  simp
set_option maxRecDepth 100000 in
set_option maxHeartbeats 2000000 in
theorem rec_any {m m' : Bool} {ca cb : List Value} {A B : Rec} {w : World} (ha : recR m w A ca) (hb : recR m' w B cb) : Calls Try.prog 76 #[.agg ca.toArray, .agg cb.toArray] w (PBool (decide (A = B)) w) := by
  obtain ⟨va, rfl, hwa, hra⟩ := ha
  obtain ⟨vb, rfl, hwb, hrb⟩ := hb
  rw [rec_dec]
  generalize A.file = f1 at *
  generalize A.record = f2 at *
  generalize A.count = f3 at *
  generalize A.words = f4 at *
  generalize B.file = g1 at *
  generalize B.record = g2 at *
  generalize B.count = g3 at *
  generalize B.words = g4 at *
  clear hra hrb
  have hpost : ∀ W, Upd [] w W → PBool (decide (f1 = g1) && (decide (f2 = g2) && (decide (f3 = g3) && decide (f4 = g4)))) w (.returned (.bool (decide (f1 = g1) && (decide (f2 = g2) && (decide (f3 = g3) && decide (f4 = g4)))))) W := fun W h => ⟨rfl, h⟩
  revert hpost
  generalize PBool (decide (f1 = g1) && (decide (f2 = g2) && (decide (f3 = g3) && decide (f4 = g4)))) w = P
  intro hpost
  by_cases h1 : f1 = g1
  case neg =>
    have e : (decide (f1 = g1) && (decide (f2 = g2) && (decide (f3 = g3) && decide (f4 = g4)))) = false := by simp [h1]
    rw [e] at hpost
    have e1 : (f1 == g1) = false := by simpa using h1
    clear h1 e hwa hwb
    replace hpost := Lib.hid hpost
    go_enter Try.func76, Try.ntmps76
    go_wp2
    exact hpost.out _ (((Upd.refl [] w).alloc _).alloc _)
  subst h1
  by_cases h1 : f2 = g2
  case neg =>
    have e : (decide (f1 = f1) && (decide (f2 = g2) && (decide (f3 = g3) && decide (f4 = g4)))) = false := by simp [h1]
    rw [e] at hpost
    have e1 : (f2 == g2) = false := by simpa using h1
    clear h1 e hwa hwb
    replace hpost := Lib.hid hpost
    go_enter Try.func76, Try.ntmps76
    go_wp2
    exact hpost.out _ (((Upd.refl [] w).alloc _).alloc _)
  subst h1
  by_cases h1 : f3 = g3
  case neg =>
    have e : (decide (f1 = f1) && (decide (f2 = f2) && (decide (f3 = g3) && decide (f4 = g4)))) = false := by simp [h1]
    rw [e] at hpost
    have e1 : (f3 == g3) = false := by simpa using h1
    clear h1 e hwa hwb
    replace hpost := Lib.hid hpost
    go_enter Try.func76, Try.ntmps76
    go_wp2
    exact hpost.out _ (((Upd.refl [] w).alloc _).alloc _)
  subst h1
  have e : (decide (f1 = f1) && (decide (f2 = f2) && (decide (f3 = f3) && decide (f4 = g4)))) = decide (f4 = g4) := by simp
  rw [e] at hpost
  clear e
  have hcall := fun (W : World) (h : Upd [] w W) => eqW_any (hwa.old h) (hwb.old h)
  replace hpost := Lib.hid hpost
  go_enter Try.func76, Try.ntmps76
  go_wp2_with (go_at_call 73; refine (hcall _ (((Upd.refl [] w).alloc _).alloc _)).mono ?_; rintro e w1 ⟨rfl, hu1⟩)
  exact hpost.out _ ((((Upd.refl [] w).alloc _).alloc _).step hu1)
theorem obj_dec {A B : Obj} : decide (A = B) = (decide (A.id = B.id) && decide (A.value = B.value)) := by
  rw [Bool.eq_iff_iff]
  cases A; cases B
  simp
set_option maxRecDepth 100000 in
set_option maxHeartbeats 2000000 in
theorem object_any {m m' : Bool} {ca cb : List Value} {A B : Obj} {w : World} (ha : objR m w A ca) (hb : objR m' w B cb) : Calls Try.prog 78 #[.agg ca.toArray, .agg cb.toArray] w (PBool (decide (A = B)) w) := by
  obtain ⟨va, rfl, hwa, hra⟩ := ha
  obtain ⟨vb, rfl, hwb, hrb⟩ := hb
  rw [obj_dec]
  generalize A.id = f1 at *
  generalize A.value = f4 at *
  generalize B.id = g1 at *
  generalize B.value = g4 at *
  clear hra hrb
  have hpost : ∀ W, Upd [] w W → PBool (decide (f1 = g1) && decide (f4 = g4)) w (.returned (.bool (decide (f1 = g1) && decide (f4 = g4)))) W := fun W h => ⟨rfl, h⟩
  revert hpost
  generalize PBool (decide (f1 = g1) && decide (f4 = g4)) w = P
  intro hpost
  by_cases h1 : f1 = g1
  case neg =>
    have e : (decide (f1 = g1) && decide (f4 = g4)) = false := by simp [h1]
    rw [e] at hpost
    have e1 : (f1 == g1) = false := by simpa using h1
    clear h1 e hwa hwb
    replace hpost := Lib.hid hpost
    go_enter Try.func78, Try.ntmps78
    go_wp2
    exact hpost.out _ (((Upd.refl [] w).alloc _).alloc _)
  subst h1
  have e : (decide (f1 = f1) && decide (f4 = g4)) = decide (f4 = g4) := by simp
  rw [e] at hpost
  have hu0 : Upd [] w ((w.alloc (.cells #[.int .u8 f1, va] 59)).alloc (.cells #[.int .u8 f1, vb] 59)) := ((Upd.refl [] w).alloc _).alloc _
  have c1 := run_str (hwa.old hu0)
  have c2 := run_str (hwb.old hu0)
  have c3 := run_streq (hwa.old hu0) (hwb.old hu0) (W := (w.alloc (.cells #[.int .u8 f1, va] 59)).alloc (.cells #[.int .u8 f1, vb] 59))
  replace hpost := hpost _ hu0
  generalize strOfNums f4 = s1 at *
  generalize strOfNums g4 = s2 at *
  generalize decide (f4 = g4) = D at *
  clear hu0 hwa hwb e
  rw [binOp_string_eql] at c3
  have c4 : (s1.toList == s2.toList) = D := by simpa [Sem.run_pure] using c3
  clear c3
  replace hpost := Lib.hid hpost
  go_enter Try.func78, Try.ntmps78
  go_wp2
  exact hpost.out
open Go.RowKit
theorem RdG.at_ {α : Type} {m : Bool} {e : TypeId} {sz : Nat} {R : World → α → List Value → Prop} {w : World} {A : Option Addr} {n c : Nat} {xs : List α} (h : RdG m e sz R w (.slice A n c) xs) (d : α) (j : Nat) (hj : j < xs.length) :
    ∃ b off cs, A = some ⟨b, off, none⟩ ∧ w.rangeAt b (off + j * sz) cs ∧ R w (xs.getD j d) cs ∧ cs.length = sz := by
  obtain ⟨A', c', hv, h1, h2, h0, h3⟩ := h
  injection hv with e1 e2 e3
  subst e1 e3
  obtain ⟨b, off, cells, t, fr, rfl, hb, ht, hx⟩ := h3 (by omega)
  obtain ⟨cs, h4, h5, h6⟩ := hx j (xs.getD j d) (by simp [List.getD_eq_getElem?_getD, List.getElem?_eq_getElem hj])
  exact ⟨b, off, cs, rfl, fun i u hi => by rw [blk_cell hb]; exact h6 i u hi, h5, h4⟩
theorem recR.upd0 {m : Bool} {w w' : World} (hu : Upd [] w w') {r : Rec} {cs : List Value} (h : recR m w r cs) : recR m w' r cs := recR.upd hu (Safe.nil _ _ _) r cs h
theorem objR.upd0 {m : Bool} {w w' : World} (hu : Upd [] w w') {r : Obj} {cs : List Value} (h : objR m w r cs) : objR m w' r cs := objR.upd hu (Safe.nil _ _ _) r cs h
theorem range_upd {w w' : World} {b o : Nat} {cs : List Value} (h : w.rangeAt b o cs) {S : List Nat} (hu : Upd S w w') (hb : b ∉ S) : w'.rangeAt b o cs := fun j v hj => hu.cell hb (h j v hj)
theorem rec_info : (Try.prog.info? 57).map (·.zero) = some (some (.agg #[.int .u16 0, .int .u16 0, .int .u16 0, .slice none 0 0])) := by kernel_rfl
theorem rec_size : (Try.prog.info? 57).map (·.size) = some 4 := by kernel_rfl
theorem obj_info : (Try.prog.info? 59).map (·.zero) = some (some (.agg #[.int .u8 0, .slice none 0 0])) := by kernel_rfl
theorem obj_size : (Try.prog.info? 59).map (·.size) = some 2 := by kernel_rfl
theorem recR.one {m : Bool} {w : World} {r : Rec} {cs : List Value} (h : recR m w r cs) : cs.toArray.all (·.oneCell') = true ∧ cs.length = 4 := by
  obtain ⟨v, rfl, h1, _⟩ := h
  obtain ⟨A, c, rfl, _⟩ := h1
  exact ⟨by simp [Value.oneCell'], rfl⟩
theorem objR.one {m : Bool} {w : World} {r : Obj} {cs : List Value} (h : objR m w r cs) : cs.toArray.all (·.oneCell') = true ∧ cs.length = 2 := by
  obtain ⟨v, rfl, h1, _⟩ := h
  obtain ⟨A, c, rfl, _⟩ := h1
  exact ⟨by simp [Value.oneCell'], rfl⟩
set_option maxRecDepth 100000 in
set_option maxHeartbeats 2000000 in
theorem eqR_any {m m' : Bool} {u v : Value} {xs ys : List Rec} {w : World} (hx : RdR m w u xs) (hy : RdR m' w v ys) :
    Calls Try.prog 75 #[u, v, .func (.func 76) #[] #[]] w (PBool (decide (xs = ys)) w) := by
  have hhx := hx
  have hhy := hy
  obtain ⟨A, c, rfl, hc1, hc2⟩ := hx.shape
  obtain ⟨B, c', rfl, hd1, hd2⟩ := hy.shape
  have hn : xs.length ≤ 9223372036854775807 := by have := hc2; unfold maxLen at this; omega
  by_cases hl : xs.length = ys.length
  case neg =>
    have hno : ∀ W, Upd [] w W → PBool (decide (xs = ys)) w (.returned (.bool false)) W := by
      intro W hW
      rw [decide_eq_false (fun h => hl (by rw [h]))]
      exact ⟨rfl, hW⟩
    have hli : ((xs.length : Int) != (ys.length : Int)) = true := by simp; omega
    clear hx hy hhx hhy hl
    go_enter Try.func75, Try.ntmps75
    go_wp2
    go_ret
    exact hno _ (Upd.refl _ _)
  have hno : ∀ W k, xs.getD k ⟨0, 0, 0, []⟩ ≠ ys.getD k ⟨0, 0, 0, []⟩ → Upd [] w W → PBool (decide (xs = ys)) w (.returned (.bool false)) W := by
    intro W k hk hW
    rw [decide_eq_false (eqNo k hk)]
    exact ⟨rfl, hW⟩
  have hyes : ∀ W, xs.take xs.length = ys.take xs.length → Upd [] w W → PBool (decide (xs = ys)) w (.returned (.bool true)) W := by
    intro W hk hW
    rw [List.take_length, hl, List.take_length] at hk
    rw [decide_eq_true hk]
    exact ⟨rfl, hW⟩
  revert hno hyes
  generalize PBool (decide (xs = ys)) w = P
  intro hno hyes
  have hli : ((xs.length : Int) != (ys.length : Int)) = false := by simp; omega
  have hL := Lib.hid hl
  clear hx hy hl
  go_enter Try.func75, Try.ntmps75
  go_wp2
  go_loopw [17] (fun i wr => ∃ k : Nat, k ≤ xs.length ∧ i = .int .i64 (k : Int) ∧ xs.take k = ys.take k ∧ Upd [] w wr) (fun i _ => xs.length - (intOf i).toNat)
  case atStart => exact ⟨0, by omega, rfl, by simp, Upd.refl _ _⟩
  case round =>
    obtain ⟨k, hk, rfl, hpre, hu⟩ := hrel
    by_cases hlt : k < xs.length
    · obtain ⟨b, off, ca, rfl, cw0, hr0, hl0⟩ := RdG.at_ hhx ⟨0, 0, 0, []⟩ k hlt
      obtain ⟨b', off', cb, rfl, cw1, hr1, hl1⟩ := RdG.at_ hhy ⟨0, 0, 0, []⟩ k (by have := hL.out; omega)
      have hlt' : k < ys.length := by have := hL.out; omega
      have hstep := fun h => eqPre (d := ⟨0, 0, 0, []⟩) hL.out hlt hpre h
      have hno' := fun W h => hno W k h
      revert hstep hno' hr0 hr1
      generalize xs.getD k ⟨0, 0, 0, []⟩ = x0
      generalize ys.getD k ⟨0, 0, 0, []⟩ = y0
      intro hr0 hr1 hstep hno'
      have hc0 := Lib.hid (range_upd cw0 hu (by simp))
      have hc1 := Lib.hid (range_upd cw1 hu (by simp))
      replace hstep := Lib.hid hstep
      replace hno' := Lib.hid hno'
      have ha := Lib.hid hr0
      have hb := Lib.hid hr1
      clear cw0 cw1 hhx hhy hpre hno hyes hr0 hr1
      have tok1_0 : True := trivial
      have tok1_1 : True := trivial
      have tok1_2 : True := trivial
      have tok1_3 : True := trivial
      have tok1_4 : True := trivial
      have tok1_5 : True := trivial
      have tok1_6 : True := trivial
      have tok1_7 : True := trivial
      have tok1_8 : True := trivial
      go_wp2_with (first | (have _t := tok1_0; refine wpList_load_mid rfl 57 _ rfl b (off + k * 4) rfl ca _ hc0.out Try.underlying57 rfl (by rw [hl0]; exact rec_size) ?_; clear _t tok1_0) | (have _t := tok1_1; refine wp_allocw rfl 57 rfl _ rec_info ?_; intro g1 w1 hg1 hB1 hu1; clear _t tok1_1) | (have _t := tok1_2; refine wp_storew rfl 57 _ _ rfl g1 rfl ca.toArray rfl _ _ hB1 (by simp only [List.size_toArray, hl0]; exact rec_size) (by simp only [List.size_toArray, hl0]; rfl) (recR.one ha.out).1 ?_; intro w2 hB2 hu2; have U2 := hu1.fresh1 hu2 hg1; clear _t tok1_2) | (have _t := tok1_3; refine wpList_load_mid rfl 57 _ rfl b' (off' + k * 4) rfl cb _ (range_upd hc1.out U2 (by simp)) Try.underlying57 rfl (by rw [hl1]; exact rec_size) ?_; clear _t tok1_3) | (have _t := tok1_4; refine wp_allocw rfl 57 rfl _ rec_info ?_; intro g3 w3 hg3 hB3 hu3; clear _t tok1_4) | (have _t := tok1_5; refine wp_storew rfl 57 _ _ rfl g3 rfl cb.toArray rfl _ _ hB3 (by simp only [List.size_toArray, hl1]; exact rec_size) (by simp only [List.size_toArray, hl1]; rfl) (recR.one hb.out).1 ?_; intro w4 hB4 hu4; have U4 := hu3.fresh1 hu4 hg3; have hB24 := U4.blk (by simp) hB2; have V4 := hu.step (U2.step U4); clear _t tok1_5) | (have _t := tok1_6; refine wpList_load_row rfl 57 _ rfl g1 rfl _ _ _ _ hB24 Try.underlying57 rfl (by simp only [List.size_toArray, hl0]; exact rec_size) ?_; clear _t tok1_6) | (have _t := tok1_7; refine wpList_load_row rfl 57 _ rfl g3 rfl _ _ _ _ hB4 Try.underlying57 rfl (by simp only [List.size_toArray, hl1]; exact rec_size) ?_; clear _t tok1_7) | (have _t := tok1_8; go_at_call 76; refine (rec_any (recR.upd0 V4 ha.out) (recR.upd0 V4 hb.out)).mono ?_; rintro e w5 ⟨rfl, hu5⟩; generalize hD : decide (x0 = y0) = D; have HD := Lib.hid hD; clear hD hB24 hB4; clear _t tok1_8))
      · have hD0 : (!D) = true := by assumption
        exact hno'.out _ (by have := HD.out; intro h; rw [← this, h] at hD0; simp at hD0) (V4.step hu5)
      · have hD0 : (!D) = false := by assumption
        have hxy : x0 = y0 := by have := HD.out; rw [← this] at hD0; simpa using hD0
        go_roundw
        case rel => exact ⟨k + 1, by omega, by go_num, hstep.out hxy, V4.step hu5⟩
        case measure => simp [intOf]; omega
    · have hj3 : k = xs.length := by omega
      have H3 := Lib.hid hj3
      rw [hj3] at hpre
      clear hj3 hhx hhy
      go_wp2
      exact hyes _ hpre hu
set_option maxRecDepth 100000 in
set_option maxHeartbeats 2000000 in
theorem eqO_any {m m' : Bool} {u v : Value} {xs ys : List Obj} {w : World} (hx : RdO m w u xs) (hy : RdO m' w v ys) :
    Calls Try.prog 77 #[u, v, .func (.func 78) #[] #[]] w (PBool (decide (xs = ys)) w) := by
  have hhx := hx
  have hhy := hy
  obtain ⟨A, c, rfl, hc1, hc2⟩ := hx.shape
  obtain ⟨B, c', rfl, hd1, hd2⟩ := hy.shape
  have hn : xs.length ≤ 9223372036854775807 := by have := hc2; unfold maxLen at this; omega
  by_cases hl : xs.length = ys.length
  case neg =>
    have hno : ∀ W, Upd [] w W → PBool (decide (xs = ys)) w (.returned (.bool false)) W := by
      intro W hW
      rw [decide_eq_false (fun h => hl (by rw [h]))]
      exact ⟨rfl, hW⟩
    have hli : ((xs.length : Int) != (ys.length : Int)) = true := by simp; omega
    clear hx hy hhx hhy hl
    go_enter Try.func77, Try.ntmps77
    go_wp2
    go_ret
    exact hno _ (Upd.refl _ _)
  have hno : ∀ W k, xs.getD k ⟨0, []⟩ ≠ ys.getD k ⟨0, []⟩ → Upd [] w W → PBool (decide (xs = ys)) w (.returned (.bool false)) W := by
    intro W k hk hW
    rw [decide_eq_false (eqNo k hk)]
    exact ⟨rfl, hW⟩
  have hyes : ∀ W, xs.take xs.length = ys.take xs.length → Upd [] w W → PBool (decide (xs = ys)) w (.returned (.bool true)) W := by
    intro W hk hW
    rw [List.take_length, hl, List.take_length] at hk
    rw [decide_eq_true hk]
    exact ⟨rfl, hW⟩
  revert hno hyes
  generalize PBool (decide (xs = ys)) w = P
  intro hno hyes
  have hli : ((xs.length : Int) != (ys.length : Int)) = false := by simp; omega
  have hL := Lib.hid hl
  clear hx hy hl
  go_enter Try.func77, Try.ntmps77
  go_wp2
  go_loopw [17] (fun i wr => ∃ k : Nat, k ≤ xs.length ∧ i = .int .i64 (k : Int) ∧ xs.take k = ys.take k ∧ Upd [] w wr) (fun i _ => xs.length - (intOf i).toNat)
  case atStart => exact ⟨0, by omega, rfl, by simp, Upd.refl _ _⟩
  case round =>
    obtain ⟨k, hk, rfl, hpre, hu⟩ := hrel
    by_cases hlt : k < xs.length
    · obtain ⟨b, off, ca, rfl, cw0, hr0, hl0⟩ := RdG.at_ hhx ⟨0, []⟩ k hlt
      obtain ⟨b', off', cb, rfl, cw1, hr1, hl1⟩ := RdG.at_ hhy ⟨0, []⟩ k (by have := hL.out; omega)
      have hlt' : k < ys.length := by have := hL.out; omega
      have hstep := fun h => eqPre (d := ⟨0, []⟩) hL.out hlt hpre h
      have hno' := fun W h => hno W k h
      revert hstep hno' hr0 hr1
      generalize xs.getD k ⟨0, []⟩ = x0
      generalize ys.getD k ⟨0, []⟩ = y0
      intro hr0 hr1 hstep hno'
      have hc0 := Lib.hid (range_upd cw0 hu (by simp))
      have hc1 := Lib.hid (range_upd cw1 hu (by simp))
      replace hstep := Lib.hid hstep
      replace hno' := Lib.hid hno'
      have ha := Lib.hid hr0
      have hb := Lib.hid hr1
      clear cw0 cw1 hhx hhy hpre hno hyes hr0 hr1
      have tok2_0 : True := trivial
      have tok2_1 : True := trivial
      have tok2_2 : True := trivial
      have tok2_3 : True := trivial
      have tok2_4 : True := trivial
      have tok2_5 : True := trivial
      have tok2_6 : True := trivial
      have tok2_7 : True := trivial
      have tok2_8 : True := trivial
      go_wp2_with (first | (have _t := tok2_0; refine wpList_load_mid rfl 59 _ rfl b (off + k * 2) rfl ca _ hc0.out Try.underlying59 rfl (by rw [hl0]; exact obj_size) ?_; clear _t tok2_0) | (have _t := tok2_1; refine wp_allocw rfl 59 rfl _ obj_info ?_; intro g1 w1 hg1 hB1 hu1; clear _t tok2_1) | (have _t := tok2_2; refine wp_storew rfl 59 _ _ rfl g1 rfl ca.toArray rfl _ _ hB1 (by simp only [List.size_toArray, hl0]; exact obj_size) (by simp only [List.size_toArray, hl0]; rfl) (objR.one ha.out).1 ?_; intro w2 hB2 hu2; have U2 := hu1.fresh1 hu2 hg1; clear _t tok2_2) | (have _t := tok2_3; refine wpList_load_mid rfl 59 _ rfl b' (off' + k * 2) rfl cb _ (range_upd hc1.out U2 (by simp)) Try.underlying59 rfl (by rw [hl1]; exact obj_size) ?_; clear _t tok2_3) | (have _t := tok2_4; refine wp_allocw rfl 59 rfl _ obj_info ?_; intro g3 w3 hg3 hB3 hu3; clear _t tok2_4) | (have _t := tok2_5; refine wp_storew rfl 59 _ _ rfl g3 rfl cb.toArray rfl _ _ hB3 (by simp only [List.size_toArray, hl1]; exact obj_size) (by simp only [List.size_toArray, hl1]; rfl) (objR.one hb.out).1 ?_; intro w4 hB4 hu4; have U4 := hu3.fresh1 hu4 hg3; have hB24 := U4.blk (by simp) hB2; have V4 := hu.step (U2.step U4); clear _t tok2_5) | (have _t := tok2_6; refine wpList_load_row rfl 59 _ rfl g1 rfl _ _ _ _ hB24 Try.underlying59 rfl (by simp only [List.size_toArray, hl0]; exact obj_size) ?_; clear _t tok2_6) | (have _t := tok2_7; refine wpList_load_row rfl 59 _ rfl g3 rfl _ _ _ _ hB4 Try.underlying59 rfl (by simp only [List.size_toArray, hl1]; exact obj_size) ?_; clear _t tok2_7) | (have _t := tok2_8; go_at_call 78; refine (object_any (objR.upd0 V4 ha.out) (objR.upd0 V4 hb.out)).mono ?_; rintro e w5 ⟨rfl, hu5⟩; generalize hD : decide (x0 = y0) = D; have HD := Lib.hid hD; clear hD hB24 hB4; clear _t tok2_8))
      · have hD0 : (!D) = true := by assumption
        exact hno'.out _ (by have := HD.out; intro h; rw [← this, h] at hD0; simp at hD0) (V4.step hu5)
      · have hD0 : (!D) = false := by assumption
        have hxy : x0 = y0 := by have := HD.out; rw [← this] at hD0; simpa using hD0
        go_roundw
        case rel => exact ⟨k + 1, by omega, by go_num, hstep.out hxy, V4.step hu5⟩
        case measure => simp [intOf]; omega
    · have hj3 : k = xs.length := by omega
      have H3 := Lib.hid hj3
      rw [hj3] at hpre
      clear hj3 hhx hhy
      go_wp2
      exact hyes _ hpre hu
open Go.RowKit
def plainL (M : Msg) : List Int := [M.code, M.fail, M.addr, M.count, M.value, M.and_, M.or_, M.addr2, M.sub, M.status, M.events, M.messages, M.mei * 256 + M.kind, M.level * 256 + M.more, M.next]
def plainA (M : Msg) : Array Value := ((plainL M).map (Value.int .u16)).toArray
theorem plain_zero : (Try.prog.info? 110).map (·.zero) = some (some (.agg ((List.replicate 15 (Value.int .u16 0)).toArray))) := by kernel_rfl
theorem plain_size : (Try.prog.info? 110).map (·.size) = some 15 := by kernel_rfl
theorem build_plain (a0 a1 a2 a3 a4 a5 a6 a7 a8 a9 a10 a11 a12 a13 a14 : Int) (w : World) : (Instr.build 110 #[(0, .int .u16 a0), (1, .int .u16 a1), (2, .int .u16 a2), (3, .int .u16 a3), (4, .int .u16 a4), (5, .int .u16 a5), (6, .int .u16 a6), (7, .int .u16 a7), (8, .int .u16 a8), (9, .int .u16 a9), (10, .int .u16 a10), (11, .int .u16 a11), (12, .int .u16 a12), (13, .int .u16 a13), (14, .int .u16 a14)]).run Try.prog w
    = .ok (.agg #[.int .u16 a0, .int .u16 a1, .int .u16 a2, .int .u16 a3, .int .u16 a4, .int .u16 a5, .int .u16 a6, .int .u16 a7, .int .u16 a8, .int .u16 a9, .int .u16 a10, .int .u16 a11, .int .u16 a12, .int .u16 a13, .int .u16 a14]) w := by kernel_rfl
theorem ret_cell {P : Program} {fn : Func} {p : Tmp} {ty : TypeId} (h : fn.results = #[.cell p ty]) {R : Ending → World → Prop} {a : Act} {w : World} (hd0 : a.defers = []) (g : Nat) (t : TypeId) (cs : Array Value) (fr : Nat × Nat) (d : TypeDesc)
    (hp : a.tmps.getD p undef = .pointer (some ⟨g, 0, none⟩)) (hg : w.heap[g]? = some (.cells cs t fr))
    (hu : P.underlying ty = some d) (hd : (match d with | .struct _ | .array _ _ => true | _ => false) = true) (hi : (P.info? ty).map (·.size) = some cs.size)
    (hR : R (.returned (.agg cs)) w) : bodyPost P fn R .ret a w := by
  have hp' : a.tmps[p]?.getD undef = .pointer (some ⟨g, 0, none⟩) := by simpa using hp
  exact bodyPost_ret (by simp [results, h, hp', asAddr, run_loadVar_row w g t ty cs fr d hg hu hd hi]) hd0 hR
set_option maxRecDepth 100000 in
set_option maxHeartbeats 2000000 in
theorem plain_any {m : Bool} {cs : Array Value} {M : Msg} {w : World} (h : MsgRd m w cs.toList M) : Calls Try.prog 72 #[.agg cs] w (PVal (.agg (plainA M)) w) := by
  obtain ⟨vw, vb, vd, vr, vo, h0, _, _, _, _, _, hR⟩ := h
  obtain ⟨c0, c1, c2, c3, c4, c5, c6, c7, c8, c9, c10, c11, l1, l2, l3, l4, c16, c17, c18, c19, c20, l5⟩ := M
  obtain ⟨r0, r1, r2, r3, r4, r5, r6, r7, r8, r9, r10, r11, r16, r17, r18, r19, r20⟩ := hR
  simp only [B8, B16] at r0 r1 r2 r3 r4 r5 r6 r7 r8 r9 r10 r11 r16 r17 r18 r19 r20
  have hpost : ∀ W, Upd [] w W → PVal (.agg (plainA ⟨c0, c1, c2, c3, c4, c5, c6, c7, c8, c9, c10, c11, l1, l2, l3, l4, c16, c17, c18, c19, c20, l5⟩)) w (.returned (.agg #[.int .u16 c0, .int .u16 c1, .int .u16 c2, .int .u16 c3, .int .u16 c4, .int .u16 c5, .int .u16 c6, .int .u16 c7, .int .u16 c8, .int .u16 c9, .int .u16 c10, .int .u16 c11, .int .u16 (c16 * 256 + c17), .int .u16 (c18 * 256 + c19), .int .u16 c20])) W := fun W hW => ⟨rfl, hW⟩
  revert hpost
  generalize PVal (.agg (plainA ⟨c0, c1, c2, c3, c4, c5, c6, c7, c8, c9, c10, c11, l1, l2, l3, l4, c16, c17, c18, c19, c20, l5⟩)) w = P
  intro hpost
  replace hpost := Lib.hid hpost
  have w0 : IntKind.u16.wrap c0 = c0 := by show c0 % 65536 = c0; omega
  have w1 : IntKind.u16.wrap c1 = c1 := by show c1 % 65536 = c1; omega
  have w16 : IntKind.u16.wrap c16 = c16 := by show c16 % 65536 = c16; omega
  have w17 : IntKind.u16.wrap c17 = c17 := by show c17 % 65536 = c17; omega
  have w18 : IntKind.u16.wrap c18 = c18 := by show c18 % 65536 = c18; omega
  have w19 : IntKind.u16.wrap c19 = c19 := by show c19 % 65536 = c19; omega
  have w20 : IntKind.u16.wrap c20 = c20 := by show c20 % 65536 = c20; omega
  have x1 : IntKind.u16.wrap (c16 * 256) = c16 * 256 := by show (c16 * 256) % 65536 = c16 * 256; omega
  have x2 : IntKind.u16.wrap (c18 * 256) = c18 * 256 := by show (c18 * 256) % 65536 = c18 * 256; omega
  have o1 := or_word r16 r17
  have o2 := or_word r18 r19
  have hcs : cs = #[.int .u8 c0, .int .u8 c1, .int .u16 c2, .int .u16 c3, .int .u16 c4, .int .u16 c5, .int .u16 c6, .int .u16 c7, .int .u16 c8, .int .u16 c9, .int .u16 c10, .int .u16 c11, vw, vb, vd, vr, .int .u8 c16, .int .u8 c17, .int .u8 c18, .int .u8 c19, .int .u8 c20, vo] := by
    apply Array.toList_inj.1
    exact h0
  subst hcs
  have hbp := build_plain
  clear h0 r0 r1 r2 r3 r4 r5 r6 r7 r8 r9 r10 r11 r16 r17 r18 r19 r20
  go_enter Try.func72, Try.ntmps72
  have tok1_0 : True := trivial
  have tok1_1 : True := trivial
  have tok1_2 : True := trivial
  go_wp2_with (first | (have _t := tok1_0; refine wp_boxw rfl 29 _ rfl (.agg #[.int .u8 c0, .int .u8 c1, .int .u16 c2, .int .u16 c3, .int .u16 c4, .int .u16 c5, .int .u16 c6, .int .u16 c7, .int .u16 c8, .int .u16 c9, .int .u16 c10, .int .u16 c11, vw, vb, vd, vr, .int .u8 c16, .int .u8 c17, .int .u8 c18, .int .u8 c19, .int .u8 c20, vo]) rfl ?_; intro g w1 hg hB hu1; clear _t tok1_0) | (have _t := tok1_1; refine wp_allocw rfl 110 rfl _ plain_zero ?_; intro gp w2 hgp hBp hu2; replace hB := hu2.blk (by simp) hB; have k0 : w2.cell? ⟨g, 0, none⟩ = some (.int .u8 c0) := (blk_cell hB 0).trans rfl; have k1 : w2.cell? ⟨g, 1, none⟩ = some (.int .u8 c1) := (blk_cell hB 1).trans rfl; have k2 : w2.cell? ⟨g, 2, none⟩ = some (.int .u16 c2) := (blk_cell hB 2).trans rfl; have k3 : w2.cell? ⟨g, 3, none⟩ = some (.int .u16 c3) := (blk_cell hB 3).trans rfl; have k4 : w2.cell? ⟨g, 4, none⟩ = some (.int .u16 c4) := (blk_cell hB 4).trans rfl; have k5 : w2.cell? ⟨g, 5, none⟩ = some (.int .u16 c5) := (blk_cell hB 5).trans rfl; have k6 : w2.cell? ⟨g, 6, none⟩ = some (.int .u16 c6) := (blk_cell hB 6).trans rfl; have k7 : w2.cell? ⟨g, 7, none⟩ = some (.int .u16 c7) := (blk_cell hB 7).trans rfl; have k8 : w2.cell? ⟨g, 8, none⟩ = some (.int .u16 c8) := (blk_cell hB 8).trans rfl; have k9 : w2.cell? ⟨g, 9, none⟩ = some (.int .u16 c9) := (blk_cell hB 9).trans rfl; have k10 : w2.cell? ⟨g, 10, none⟩ = some (.int .u16 c10) := (blk_cell hB 10).trans rfl; have k11 : w2.cell? ⟨g, 11, none⟩ = some (.int .u16 c11) := (blk_cell hB 11).trans rfl; have k16 : w2.cell? ⟨g, 16, none⟩ = some (.int .u8 c16) := (blk_cell hB 16).trans rfl; have k17 : w2.cell? ⟨g, 17, none⟩ = some (.int .u8 c17) := (blk_cell hB 17).trans rfl; have k18 : w2.cell? ⟨g, 18, none⟩ = some (.int .u8 c18) := (blk_cell hB 18).trans rfl; have k19 : w2.cell? ⟨g, 19, none⟩ = some (.int .u8 c19) := (blk_cell hB 19).trans rfl; have k20 : w2.cell? ⟨g, 20, none⟩ = some (.int .u8 c20) := (blk_cell hB 20).trans rfl; clear hB; clear _t tok1_1) | (have _t := tok1_2; refine wp_storew rfl 110 _ _ rfl gp rfl _ rfl _ _ hBp plain_size rfl (by simp [Value.oneCell']) ?_; intro w3 hB3 hu3; clear _t tok1_2))
  refine ret_cell rfl rfl gp _ _ _ _ rfl hB3 Try.underlying110 rfl plain_size ?_
  exact hpost.out _ (hu1.step (hu2.fresh1 hu3 hgp))
open Go.RowKit
theorem all_range_int : ∀ (xs ys : List Int), xs.length = ys.length → ((List.range xs.length).all fun i => xs.getD i 0 == ys.getD i 0) = (xs == ys)
  | [], [], _ => rfl
  | x :: xs, y :: ys, h => by
    have ih := all_range_int xs ys (by simpa using h)
    rw [List.length_cons, List.range_succ_eq_map, List.all_cons, List.all_map]
    simp only [List.getD_cons_zero, Function.comp_def, List.getD_cons_succ, ih]
    simp [List.cons_beq_cons]
  | [], _ :: _, h => by simp at h
  | _ :: _, [], h => by simp at h
theorem run_eql_ints {P : Program} (w : World) (t e : TypeId) (k : IntKind) (n : Nat) (ht : P.underlying t = some (.array n e)) (he : P.underlying e = some (.int k)) (hsz : ∀ w, (sizeOf e).run P w = .ok 1 w)
    (xs ys : List Int) (hx : xs.length = n) (hy : ys.length = n) :
    (binOp .eql t (.agg (xs.map (Value.int k)).toArray) (.agg (ys.map (Value.int k)).toArray)).run P w = .ok (.bool (xs == ys)) w := by
  rw [run_eql_struct]
  suffices h : (Op.equalIn 10000 t (.agg (xs.map (Value.int k)).toArray) (.agg (ys.map (Value.int k)).toArray)).run P w = .ok (xs == ys) w by
    rw [h]
    rfl
  rw [show (10000 : Nat) = 9998 + 2 from rfl]
  rw [← all_range_int xs ys (hx.trans hy.symm), hx, List.range_eq_range', Op.equalIn]
  simp only [Sem.run_bind, run_underlying ht, Result.andThen_ok, hsz, Std.Legacy.Range.forIn_eq_forIn_range', Std.Legacy.Range.size, Nat.sub_zero, Nat.add_sub_cancel, Nat.div_one]
  have hl : ∀ i ∈ List.range' 0 n 1, i < n := fun i hi => by simpa using (List.mem_range'_1.1 hi).2
  generalize List.range' 0 n 1 = l at hl ⊢
  induction l with
  | nil => simp
  | cons i l ih =>
    have hi : i < n := hl i (by simp)
    have px : (part e (xs.map (Value.int k)).toArray (i * 1)).run P w = .ok (Value.int k (xs.getD i 0)) w := by
      simp [part, isAgg, run_underlying he, List.getD, List.getElem?_eq_getElem (show i < xs.length by omega)]
    have py : (part e (ys.map (Value.int k)).toArray (i * 1)).run P w = .ok (Value.int k (ys.getD i 0)) w := by
      simp [part, isAgg, run_underlying he, List.getD, List.getElem?_eq_getElem (show i < ys.length by omega)]
    have pe : (Op.equalIn (9998 + 1) e (Value.int k (xs.getD i 0)) (Value.int k (ys.getD i 0))).run P w = .ok (xs.getD i 0 == ys.getD i 0) w := run_equalIn_int w 9998 e k k _ _ he
    simp only [List.forIn_cons, Sem.run_bind, px, py, pe, Result.andThen_ok, List.all_cons]
    cases hb : (xs.getD i 0 == ys.getD i 0)
    · simp
    · simp only [Bool.not_true, Bool.false_eq_true, if_false, Sem.run_pure, Result.andThen_ok, Bool.true_and]
      exact ih fun j hj => hl j (by simp [hj])
theorem plain_eq {A B : Msg} (ha : MsgRng A) (hb : MsgRng B) : plainL A = plainL B ↔ A = { B with words := A.words, bits := A.bits, data := A.data, recs := A.recs, objects := A.objects } := by
  obtain ⟨_, _, _, _, _, _, _, _, _, _, _, _, a1, a2, a3, a4, _⟩ := ha
  obtain ⟨_, _, _, _, _, _, _, _, _, _, _, _, b1, b2, b3, b4, _⟩ := hb
  cases A; cases B
  simp only [B8] at a1 a2 a3 a4 b1 b2 b3 b4
  simp only [plainL, List.cons.injEq, and_true, Msg.mk.injEq, true_and]
  constructor
  · rintro ⟨h1, h2, h3, h4, h5, h6, h7, h8, h9, h10, h11, h12, h13, h14, h15⟩
    refine ⟨h1, h2, h3, h4, h5, h6, h7, h8, h9, h10, h11, h12, ?_, ?_, ?_, ?_, h15⟩ <;> omega
  · rintro ⟨h1, h2, h3, h4, h5, h6, h7, h8, h9, h10, h11, h12, h13, h14, h15, h16, h17⟩
    refine ⟨h1, h2, h3, h4, h5, h6, h7, h8, h9, h10, h11, h12, ?_, ?_, h17⟩ <;> omega
theorem msg_eq {A B : Msg} (ha : MsgRng A) (hb : MsgRng B) : A = B ↔ plainL A = plainL B ∧ A.words = B.words ∧ A.bits = B.bits ∧ A.data = B.data ∧ A.recs = B.recs ∧ A.objects = B.objects := by
  rw [plain_eq ha hb]
  constructor
  · rintro rfl
    exact ⟨rfl, rfl, rfl, rfl, rfl, rfl⟩
  · rintro ⟨h1, h2, h3, h4, h5, h6⟩
    rw [h1, h2, h3, h4, h5, h6]
open Go.RowKit
theorem run_eqplain {ev : Operand → Value} {o : Oper} {x y : Operand} {t : TypeId} {A B : Msg} {w : World} (ho : o.op = .binOp .eql 110 x y t) (hx : ev x = .agg (plainA A)) (hy : ev y = .agg (plainA B)) :
    (execOp ev o).run Try.prog w = .ok (.value (.bool (plainL A == plainL B))) w := by
  have hg : (eqGuard .eql 110 x y (.agg (plainA A)) (.agg (plainA B))).run Try.prog w = .ok () w := run_eqGuard_agg w .eql _ x y _ _ (by kernel_rfl)
  have he : (binOp .eql 110 (.agg (plainA A)) (.agg (plainA B))).run Try.prog w = .ok (.bool (plainL A == plainL B)) w := run_eql_ints (P := Try.prog) w 110 23 .u16 15 Try.underlying110 Try.underlying23 (fun w => by kernel_rfl) (plainL A) (plainL B) rfl rfl
  unfold execOp
  simp only [ho, hx, hy, Sem.run_bind, hg, he, Sem.run_pure, Result.andThen]
theorem same_dec {A B : Msg} (ha : MsgRng A) (hb : MsgRng B) : decide (A = B) = (plainL A == plainL B && (decide (A.words = B.words) && (decide (A.bits = B.bits) && (decide (A.data = B.data) && (decide (A.recs = B.recs) && decide (A.objects = B.objects)))))) := by
  rw [Bool.eq_iff_iff]
  simp only [Bool.and_eq_true, decide_eq_true_eq, beq_iff_eq]
  exact msg_eq ha hb
set_option maxRecDepth 100000 in
set_option maxHeartbeats 4000000 in
theorem same_any {m m' : Bool} {pc qc : Array Value} {A B : Msg} {w : World} (ha : MsgRd m w pc.toList A) (hb : MsgRd m' w qc.toList B) :
    Calls Try.prog 48 #[.agg pc, .agg qc] w (PBool (decide (A = B)) w) := by
 have pM := ha
 obtain ⟨pvw, pvb, pvd, pvr, pvo, ph0, phw, phb, phd, phr, pho, pR⟩ := ha
 obtain rfl : pc = (msgCells A pvw pvb pvd pvr pvo).toArray := by apply Array.toList_inj.1; simpa using ph0
 clear ph0
 obtain ⟨pw, pkw, rfl, _, _⟩ := phw.shape
 obtain ⟨pb, pkb, rfl, _, _⟩ := phb.shape
 obtain ⟨pd, pkd, rfl, _, _⟩ := phd.shape
 obtain ⟨pr, pkr, rfl, _, _⟩ := phr.shape
 obtain ⟨po, pko, rfl, _, _⟩ := pho.shape
 have qM := hb
 obtain ⟨qvw, qvb, qvd, qvr, qvo, qh0, qhw, qhb, qhd, qhr, qho, qR⟩ := hb
 obtain rfl : qc = (msgCells B qvw qvb qvd qvr qvo).toArray := by apply Array.toList_inj.1; simpa using qh0
 clear qh0
 obtain ⟨qw, qkw, rfl, _, _⟩ := qhw.shape
 obtain ⟨qb, qkb, rfl, _, _⟩ := qhb.shape
 obtain ⟨qd, qkd, rfl, _, _⟩ := qhd.shape
 obtain ⟨qr, qkr, rfl, _, _⟩ := qhr.shape
 obtain ⟨qo, qko, rfl, _, _⟩ := qho.shape
 refine en 47 Try.func48 rfl <| sg <| L0 <| Obx (mG A.code A.fail A.addr A.count A.value A.and_ A.or_ A.addr2 A.sub A.status A.events A.messages (.slice pw A.words.length pkw) (.slice pb A.bits.length pkb) (.slice pd A.data.length pkd) (.slice pr A.recs.length pkr) A.mei A.kind A.level A.more A.next (.slice po A.objects.length pko)) fun g10 w11 hg12 B13 hu14 => L0 <| Obx (mG B.code B.fail B.addr B.count B.value B.and_ B.or_ B.addr2 B.sub B.status B.events B.messages (.slice qw B.words.length qkw) (.slice qb B.bits.length qkb) (.slice qd B.data.length qkd) (.slice qr B.recs.length qkr) B.mei B.kind B.level B.more B.next (.slice qo B.objects.length qko)) fun g15 w16 hg17 B18 hu19 => Pl 1 <| nt <| sq <| Rg 43 (fun w' => w'.heap[g10]? = some (.cells (mG A.code A.fail A.addr A.count A.value A.and_ A.or_ A.addr2 A.sub A.status A.events A.messages (.slice pw A.words.length pkw) (.slice pb A.bits.length pkb) (.slice pd A.data.length pkd) (.slice pr A.recs.length pkr) A.mei A.kind A.level A.more A.next (.slice po A.objects.length pko)) 29 (0, 0)) ∧ w'.heap[g15]? = some (.cells (mG B.code B.fail B.addr B.count B.value B.and_ B.or_ B.addr2 B.sub B.status B.events B.messages (.slice qw B.words.length qkw) (.slice qb B.bits.length qkb) (.slice qd B.data.length qkd) (.slice qr B.recs.length qkr) B.mei B.kind B.level B.more B.next (.slice qo B.objects.length qko)) 29 (0, 0)) ∧ w'.cell? ⟨g10, 12, none⟩ = some (.slice pw A.words.length pkw) ∧ w'.cell? ⟨g15, 12, none⟩ = some (.slice qw B.words.length qkw) ∧ w'.cell? ⟨g10, 13, none⟩ = some (.slice pb A.bits.length pkb) ∧ w'.cell? ⟨g15, 13, none⟩ = some (.slice qb B.bits.length qkb) ∧ w'.cell? ⟨g10, 14, none⟩ = some (.slice pd A.data.length pkd) ∧ RdB false w' (.slice pd A.data.length pkd) A.data ∧ w'.cell? ⟨g15, 14, none⟩ = some (.slice qd B.data.length qkd) ∧ RdB false w' (.slice qd B.data.length qkd) B.data ∧ w'.cell? ⟨g10, 15, none⟩ = some (.slice pr A.recs.length pkr) ∧ w'.cell? ⟨g15, 15, none⟩ = some (.slice qr B.recs.length qkr) ∧ w'.cell? ⟨g10, 21, none⟩ = some (.slice po A.objects.length pko) ∧ w'.cell? ⟨g15, 21, none⟩ = some (.slice qo B.objects.length qko)) fun w55 hu56 => ?_
 have U58 := ut0 hu19 hu56
 have r59 := ub U58 B13
 have r60 := ub hu56 B18
 have U61 := ut0 hu14 hu19
 have U62 := ut0 U61 hu56
 have r63 := RdB.old phd U62
 have r64 := RdB.old qhd U62
 refine hld ⟨r59, r60, (blk_at r59 rfl), (blk_at r60 rfl), (blk_at r59 rfl), (blk_at r60 rfl), (blk_at r59 rfl), (RdG.any r63 (fun _ _ h => h)), (blk_at r60 rfl), (RdG.any r64 (fun _ _ h => h)), (blk_at r59 rfl), (blk_at r60 rfl), (blk_at r59 rfl), (blk_at r60 rfl)⟩ fun hS57 => Rr 0 hS57 (.agg (mG A.code A.fail A.addr A.count A.value A.and_ A.or_ A.addr2 A.sub A.status A.events A.messages (.slice pw A.words.length pkw) (.slice pb A.bits.length pkb) (.slice pd A.data.length pkd) (.slice pr A.recs.length pkr) A.mei A.kind A.level A.more A.next (.slice po A.objects.length pko))) (fun w' hs => lda_o (g := g10) (off := 0) [.int .u8 A.code, .int .u8 A.fail, .int .u16 A.addr, .int .u16 A.count, .int .u16 A.value, .int .u16 A.and_, .int .u16 A.or_, .int .u16 A.addr2, .int .u16 A.sub, .int .u16 A.status, .int .u16 A.events, .int .u16 A.messages, .slice pw A.words.length pkw, .slice pb A.bits.length pkb, .slice pd A.data.length pkd, .slice pr A.recs.length pkr, .int .u8 A.mei, .int .u8 A.kind, .int .u8 A.level, .int .u8 A.more, .int .u8 A.next, .slice po A.objects.length pko] rfl (by kernel_rfl) hs.1 (by kernel_rfl) (by kernel_rfl) rfl) <| Rr 2 hS57 (.agg (mG B.code B.fail B.addr B.count B.value B.and_ B.or_ B.addr2 B.sub B.status B.events B.messages (.slice qw B.words.length qkw) (.slice qb B.bits.length qkb) (.slice qd B.data.length qkd) (.slice qr B.recs.length qkr) B.mei B.kind B.level B.more B.next (.slice qo B.objects.length qko))) (fun w' hs => lda_o (g := g15) (off := 0) [.int .u8 B.code, .int .u8 B.fail, .int .u16 B.addr, .int .u16 B.count, .int .u16 B.value, .int .u16 B.and_, .int .u16 B.or_, .int .u16 B.addr2, .int .u16 B.sub, .int .u16 B.status, .int .u16 B.events, .int .u16 B.messages, .slice qw B.words.length qkw, .slice qb B.bits.length qkb, .slice qd B.data.length qkd, .slice qr B.recs.length qkr, .int .u8 B.mei, .int .u8 B.kind, .int .u8 B.level, .int .u8 B.more, .int .u8 B.next, .slice qo B.objects.length qko] rfl (by kernel_rfl) hs.2.1 (by kernel_rfl) (by kernel_rfl) rfl) <| ?_
 have r67 := MsgRd.old pM U62
 refine R0 1 rfl <| Oc <| m1 (plain_any r67) fun w65 hu66 => ?_
 have r69 := ub hu66 r59
 have r70 := ub hu66 r60
 have r71 := RdB.old r63 hu66
 have r72 := RdB.old r64 hu66
 refine hld ⟨r69, r70, (blk_at r69 rfl), (blk_at r70 rfl), (blk_at r69 rfl), (blk_at r70 rfl), (blk_at r69 rfl), (RdG.any r71 (fun _ _ h => h)), (blk_at r70 rfl), (RdG.any r72 (fun _ _ h => h)), (blk_at r69 rfl), (blk_at r70 rfl), (blk_at r69 rfl), (blk_at r70 rfl)⟩ fun hS68 => ?_
 have U75 := ut0 U62 hu66
 have r76 := MsgRd.old qM U75
 refine R0 3 rfl <| Oc <| m1 (plain_any r76) fun w73 hu74 => ?_
 have r78 := ub hu74 r69
 have r79 := ub hu74 r70
 have r80 := RdB.old r71 hu74
 have r81 := RdB.old r72 hu74
 refine hld ⟨r78, r79, (blk_at r78 rfl), (blk_at r79 rfl), (blk_at r78 rfl), (blk_at r79 rfl), (blk_at r78 rfl), (RdG.any r80 (fun _ _ h => h)), (blk_at r79 rfl), (RdG.any r81 (fun _ _ h => h)), (blk_at r78 rfl), (blk_at r79 rfl), (blk_at r78 rfl), (blk_at r79 rfl)⟩ fun hS77 => Rr 4 hS77 (.bool (plainL A == plainL B)) (fun _ _ => run_eqplain rfl (by kernel_rfl) (by kernel_rfl)) <| Rt 5 hS77 <| ?_
 have U82 := ut0 U75 hu74
 refine bla 10 ((plainL A == plainL B)) (fun q83 => ?_) (fun q83 => ?_)
 refine Rt 6 hS77 <| Rl 7 hS77 (fun _ hs => hs.2.2.1) <| Rt 8 hS77 <| Rl 9 hS77 (fun _ hs => hs.2.2.2.1) <| ?_
 have r86 := RdW.old phw U82
 have r87 := RdW.old qhw U82
 refine R0 10 rfl <| Oc <| m1 (eqW_any r86 r87) fun w84 hu85 => ?_
 have r89 := ub hu85 r78
 have r90 := ub hu85 r79
 have r91 := RdB.old r80 hu85
 have r92 := RdB.old r81 hu85
 refine hld ⟨r89, r90, (blk_at r89 rfl), (blk_at r90 rfl), (blk_at r89 rfl), (blk_at r90 rfl), (blk_at r89 rfl), (RdG.any r91 (fun _ _ h => h)), (blk_at r90 rfl), (RdG.any r92 (fun _ _ h => h)), (blk_at r89 rfl), (blk_at r90 rfl), (blk_at r89 rfl), (blk_at r90 rfl)⟩ fun hS88 => Rt 11 hS88 <| Rt 12 hS88 <| ?_
 have U93 := ut0 U82 hu85
 refine bla 17 ((decide (A.words = B.words))) (fun q94 => ?_) (fun q94 => ?_)
 have q94p := of_decide_eq_true q94
 refine Rt 13 hS88 <| Rl 14 hS88 (fun _ hs => hs.2.2.2.2.1) <| Rt 15 hS88 <| Rl 16 hS88 (fun _ hs => hs.2.2.2.2.2.1) <| ?_
 have r97 := RdL.old phb U93
 have r98 := RdL.old qhb U93
 refine R0 17 rfl <| Oc <| m1 (eqL_any r97 r98) fun w95 hu96 => ?_
 have r100 := ub hu96 r89
 have r101 := ub hu96 r90
 have r102 := RdB.old r91 hu96
 have r103 := RdB.old r92 hu96
 refine hld ⟨r100, r101, (blk_at r100 rfl), (blk_at r101 rfl), (blk_at r100 rfl), (blk_at r101 rfl), (blk_at r100 rfl), (RdG.any r102 (fun _ _ h => h)), (blk_at r101 rfl), (RdG.any r103 (fun _ _ h => h)), (blk_at r100 rfl), (blk_at r101 rfl), (blk_at r100 rfl), (blk_at r101 rfl)⟩ fun hS99 => Rt 18 hS99 <| Rt 19 hS99 <| ?_
 have U104 := ut0 U93 hu96
 refine bla 24 ((decide (A.bits = B.bits))) (fun q105 => ?_) (fun q105 => ?_)
 have q105p := of_decide_eq_true q105
 refine Rt 20 hS99 <| Rl 21 hS99 (fun _ hs => hs.2.2.2.2.2.2.1) <| Rr 22 hS99 (.string (strOfNums A.data)) (fun _ hs => run_convB (A := pd) (n := A.data.length) (c := pkd) rfl (by kernel_rfl) Try.underlying22 Try.underlying5 Try.underlying9 hs.2.2.2.2.2.2.2.1) <| Rt 23 hS99 <| Rl 24 hS99 (fun _ hs => hs.2.2.2.2.2.2.2.2.1) <| Rr 25 hS99 (.string (strOfNums B.data)) (fun _ hs => run_convB (A := qd) (n := B.data.length) (c := qkd) rfl (by kernel_rfl) Try.underlying22 Try.underlying5 Try.underlying9 hs.2.2.2.2.2.2.2.2.2.1) <| Rr 26 hS99 (.bool (decide (A.data = B.data))) (fun _ _ => run_strq (a := (strOfNums A.data)) (b := (strOfNums B.data)) rfl (by kernel_rfl) (by kernel_rfl) (str_eq r102 r103)) <| Rt 27 hS99 <| Rt 28 hS99 <| bla 33 ((decide (A.data = B.data))) (fun q106 => ?_) (fun q106 => ?_)
 have q106p := of_decide_eq_true q106
 refine Rt 29 hS99 <| Rl 30 hS99 (fun _ hs => hs.2.2.2.2.2.2.2.2.2.2.1) <| Rt 31 hS99 <| Rl 32 hS99 (fun _ hs => hs.2.2.2.2.2.2.2.2.2.2.2.1) <| ?_
 have r109 := RdR.old phr U104
 have r110 := RdR.old qhr U104
 refine R0 33 rfl <| Oc <| m1 (eqR_any r109 r110) fun w107 hu108 => ?_
 have r112 := ub hu108 r100
 have r113 := ub hu108 r101
 have r114 := RdB.old r102 hu108
 have r115 := RdB.old r103 hu108
 refine hld ⟨r112, r113, (blk_at r112 rfl), (blk_at r113 rfl), (blk_at r112 rfl), (blk_at r113 rfl), (blk_at r112 rfl), (RdG.any r114 (fun _ _ h => h)), (blk_at r113 rfl), (RdG.any r115 (fun _ _ h => h)), (blk_at r112 rfl), (blk_at r113 rfl), (blk_at r112 rfl), (blk_at r113 rfl)⟩ fun hS111 => Rt 34 hS111 <| Rt 35 hS111 <| ?_
 have U116 := ut0 U104 hu108
 refine bla 40 ((decide (A.recs = B.recs))) (fun q117 => ?_) (fun q117 => ?_)
 have q117p := of_decide_eq_true q117
 refine Rt 36 hS111 <| Rl 37 hS111 (fun _ hs => hs.2.2.2.2.2.2.2.2.2.2.2.2.1) <| Rt 38 hS111 <| Rl 39 hS111 (fun _ hs => hs.2.2.2.2.2.2.2.2.2.2.2.2.2) <| ?_
 have r120 := RdO.old pho U116
 have r121 := RdO.old qho U116
 refine R0 40 rfl <| Oc <| m1 (eqO_any r120 r121) fun w118 hu119 => ?_
 have r123 := ub hu119 r112
 have r124 := ub hu119 r113
 have r125 := RdB.old r114 hu119
 have r126 := RdB.old r115 hu119
 refine hld ⟨r123, r124, (blk_at r123 rfl), (blk_at r124 rfl), (blk_at r123 rfl), (blk_at r124 rfl), (blk_at r123 rfl), (RdG.any r125 (fun _ _ h => h)), (blk_at r124 rfl), (RdG.any r126 (fun _ _ h => h)), (blk_at r123 rfl), (blk_at r124 rfl), (blk_at r123 rfl), (blk_at r124 rfl)⟩ fun hS122 => Rt 41 hS122 <| Rt 42 hS122 <| re <| tn <| rt <| rr (.bool (decide (A.objects = B.objects))) <| ?_
 have hs : decide (A = B) = (decide (A.objects = B.objects)) := by
   rw [same_dec pR qR]
   (try simp only [q83, q94, q105, q106, q117, bs, if_true, if_false, decide_true, decide_false])
 rw [hs]
 have U127 := ut0 U116 hu119
 exact ⟨rfl, U127⟩
 have q117p := of_decide_eq_false q117
 refine Ro 36 hS111 <| Ro 37 hS111 <| Ro 38 hS111 <| Ro 39 hS111 <| Ro 40 hS111 <| Rt 41 hS111 <| Rt 42 hS111 <| re <| tn <| rt <| rr (.bool false) <| ?_
 have hs : decide (A = B) = false := by
   rw [same_dec pR qR]
   (try simp only [q83, q94, q105, q106, q117, bs, if_true, if_false, decide_true, decide_false])
 rw [hs]
 exact ⟨rfl, U116⟩
 have q106p := of_decide_eq_false q106
 refine Ro 29 hS99 <| Ro 30 hS99 <| Ro 31 hS99 <| Ro 32 hS99 <| Ro 33 hS99 <| Rt 34 hS99 <| Rt 35 hS99 <| Ro 36 hS99 <| Ro 37 hS99 <| Ro 38 hS99 <| Ro 39 hS99 <| Ro 40 hS99 <| Rt 41 hS99 <| Rt 42 hS99 <| ?_
 refine re <| tn <| rt <| rr (.bool false) <| ?_
 have hs : decide (A = B) = false := by
   rw [same_dec pR qR]
   (try simp only [q83, q94, q105, q106, bs, if_true, if_false, decide_true, decide_false])
 rw [hs]
 exact ⟨rfl, U104⟩
 have q105p := of_decide_eq_false q105
 refine Ro 20 hS99 <| Ro 21 hS99 <| Ro 22 hS99 <| Ro 23 hS99 <| Ro 24 hS99 <| Ro 25 hS99 <| Ro 26 hS99 <| Rt 27 hS99 <| Rt 28 hS99 <| Ro 29 hS99 <| Ro 30 hS99 <| Ro 31 hS99 <| Ro 32 hS99 <| Ro 33 hS99 <| ?_
 refine Rt 34 hS99 <| Rt 35 hS99 <| Ro 36 hS99 <| Ro 37 hS99 <| Ro 38 hS99 <| Ro 39 hS99 <| Ro 40 hS99 <| Rt 41 hS99 <| Rt 42 hS99 <| re <| tn <| rt <| rr (.bool false) <| ?_
 have hs : decide (A = B) = false := by
   rw [same_dec pR qR]
   (try simp only [q83, q94, q105, bs, if_true, if_false, decide_true, decide_false])
 rw [hs]
 exact ⟨rfl, U104⟩
 have q94p := of_decide_eq_false q94
 refine Ro 13 hS88 <| Ro 14 hS88 <| Ro 15 hS88 <| Ro 16 hS88 <| Ro 17 hS88 <| Rt 18 hS88 <| Rt 19 hS88 <| Ro 20 hS88 <| Ro 21 hS88 <| Ro 22 hS88 <| Ro 23 hS88 <| Ro 24 hS88 <| Ro 25 hS88 <| Ro 26 hS88 <| ?_
 refine Rt 27 hS88 <| Rt 28 hS88 <| Ro 29 hS88 <| Ro 30 hS88 <| Ro 31 hS88 <| Ro 32 hS88 <| Ro 33 hS88 <| Rt 34 hS88 <| Rt 35 hS88 <| Ro 36 hS88 <| Ro 37 hS88 <| Ro 38 hS88 <| Ro 39 hS88 <| Ro 40 hS88 <| ?_
 refine Rt 41 hS88 <| Rt 42 hS88 <| re <| tn <| rt <| rr (.bool false) <| ?_
 have hs : decide (A = B) = false := by
   rw [same_dec pR qR]
   (try simp only [q83, q94, bs, if_true, if_false, decide_true, decide_false])
 rw [hs]
 exact ⟨rfl, U93⟩
 refine Ro 6 hS77 <| Ro 7 hS77 <| Ro 8 hS77 <| Ro 9 hS77 <| Ro 10 hS77 <| Rt 11 hS77 <| Rt 12 hS77 <| Ro 13 hS77 <| Ro 14 hS77 <| Ro 15 hS77 <| Ro 16 hS77 <| Ro 17 hS77 <| Rt 18 hS77 <| Rt 19 hS77 <| ?_
 refine Ro 20 hS77 <| Ro 21 hS77 <| Ro 22 hS77 <| Ro 23 hS77 <| Ro 24 hS77 <| Ro 25 hS77 <| Ro 26 hS77 <| Rt 27 hS77 <| Rt 28 hS77 <| Ro 29 hS77 <| Ro 30 hS77 <| Ro 31 hS77 <| Ro 32 hS77 <| Ro 33 hS77 <| ?_
 refine Rt 34 hS77 <| Rt 35 hS77 <| Ro 36 hS77 <| Ro 37 hS77 <| Ro 38 hS77 <| Ro 39 hS77 <| Ro 40 hS77 <| Rt 41 hS77 <| Rt 42 hS77 <| re <| tn <| rt <| rr (.bool false) <| ?_
 have hs : decide (A = B) = false := by
   rw [same_dec pR qR]
   (try simp only [q83, bs, if_true, if_false, decide_true, decide_false])
 rw [hs]
 exact ⟨rfl, U82⟩
open Go.RowKit
def PWrite (res : Option (List Int)) (w : World) (e : Ending) (w' : World) : Prop :=
  match res with
  | some l => ∃ v, e = .returned (.tuple #[v, .int .i64 0]) ∧ OwnB w.heap.size w' v l ∧ Upd [] w w'
  | none => e = .returned (.tuple #[.slice none 0 0, .int .i64 1]) ∧ Upd [] w w'
def writeOf (parse : Int → Int → List Int → Msg × Int) (lay : Int → Msg → List Int) (dir : Int) (M : Msg) : Option (List Int) :=
  if parse dir M.code (lay dir M) = (M, 0) then some (lay dir M) else none
def parseCoils := parseOf coilsForm
def parseRegs := parseOf regsForm
def parseDiag := parseOf diagForm
def parseMei := parseOf meiForm
def parseFiles := parseOf filesForm
open Go.RowKit
def refW (M : Msg) : Option (List Int) := if !(pairB M.code M.fail) then none else if !(decide (M = refM M.code M.fail)) then none else some [(M.code + 128) % 256, M.fail]
theorem ns_eq {x y : Option (List Int)} (h : x = y) {w : World} {e : Ending} {w' : World} (k : PWrite y w e w') : PWrite x w e w' := by rw [h]; exact k
set_option maxRecDepth 100000 in
set_option maxHeartbeats 4000000 in
theorem ref_write {m : Bool} {cs : Array Value} {M : Msg} {w : World} (h : MsgRd m w cs.toList M) : Calls Try.prog 25 #[.agg cs] w (PWrite (refW M) w) := by
 have hM := h
 obtain ⟨vw, vb, vd, vr, vo, h0, hw, hbt, hd, hr, ho, hR⟩ := h
 obtain rfl : cs = (msgCells M vw vb vd vr vo).toArray := by apply Array.toList_inj.1; simpa using h0
 clear h0
 obtain ⟨Aw, kw, rfl, _, _⟩ := hw.shape
 obtain ⟨Ab, kb, rfl, _, _⟩ := hbt.shape
 obtain ⟨Ad, kd, rfl, _, _⟩ := hd.shape
 obtain ⟨Ar, kr, rfl, _, _⟩ := hr.shape
 obtain ⟨Ao, ko, rfl, _, _⟩ := ho.shape
 obtain ⟨q0, q1, q2, q3, q4, q5, q6, q7, q8, q9, q10, q11, q16, q17, q18, q19, q20⟩ := hR
 simp only [B8, B16] at q0 q1 q2 q3 q4 q5 q6 q7 q8 q9 q10 q11 q16 q17 q18 q19 q20
 refine en 26 Try.func25 rfl <| sg <| L0 <| Obx (mG M.code M.fail M.addr M.count M.value M.and_ M.or_ M.addr2 M.sub M.status M.events M.messages (.slice Aw M.words.length kw) (.slice Ab M.bits.length kb) (.slice Ad M.data.length kd) (.slice Ar M.recs.length kr) M.mei M.kind M.level M.more M.next (.slice Ao M.objects.length ko)) fun g10 w11 hg12 B13 hu14 => Pl 2 <| ng <| Pl 1 <| L0 <| Olb B13 0 <| Pl 1 <| L0 <| Olb B13 1 <| Pl 1 <| L0 <| Oal #[.int .u8 0, .int .u8 0] fun g15 w16 hg17 B18 hu19 => ?_
 refine L0 <| Osw B18 #[.int .u8 M.code, .int .u8 M.fail] fun w20 B21 hu22 => nt <| sq <| sq <| Rg 10 (fun w' => w'.heap[g15]? = some (.cells #[.int .u8 M.code, .int .u8 M.fail] 78 (0, 0)) ∧ w'.heap[g10]? = some (.cells (mG M.code M.fail M.addr M.count M.value M.and_ M.or_ M.addr2 M.sub M.status M.events M.messages (.slice Aw M.words.length kw) (.slice Ab M.bits.length kb) (.slice Ad M.data.length kd) (.slice Ar M.recs.length kr) M.mei M.kind M.level M.more M.next (.slice Ao M.objects.length ko)) 29 (0, 0))) fun w35 hu36 => ?_
 have r38 := ub hu36 B21
 have U39 := u1 hu19 hu22 (nr hg17)
 have U40 := ut0 U39 hu36
 have r41 := ub U40 B13
 refine hld ⟨r38, r41⟩ fun hS37 => Rr 0 hS37 (.agg #[.int .u8 M.code, .int .u8 M.fail]) (fun w' hs => lda_o (g := g15) (off := 0) [.int .u8 M.code, .int .u8 M.fail] rfl (by kernel_rfl) hs.1 (by kernel_rfl) (by kernel_rfl) rfl) <| R0 1 rfl <| Oc <| m1 (right_any (a := M.code) (b := M.fail) (w := _)) fun w42 hu43 => ?_
 have r45 := ub hu43 r38
 have r46 := ub hu43 r41
 refine hld ⟨r45, r46⟩ fun hS44 => Rt 2 hS44 <| Rt 3 hS44 <| ?_
 have U47 := ut0 hu14 hu19
 have U48 := u1 U47 hu22 (ni hu14.size hg17)
 have U49 := ut0 U48 hu36
 have U50 := ut0 U49 hu43
 refine bla 13 ((!(pairB M.code M.fail))) (fun q51 => ?_) (fun q51 => ?_)
 have q51n : (pairB M.code M.fail) = false := by simpa using q51
 refine Ro 4 hS44 <| Ro 5 hS44 <| Ro 6 hS44 <| Ro 7 hS44 <| Ro 8 hS44 <| Rt 9 hS44 <| re <| tn <| c1 <| sg <| Pl 2 <| nt <| ?_
 refine rt <| tr <| rr (.tuple #[.slice none 0 0, .int .i64 1]) <| ?_
 have hs : refW M = none := by
   unfold refW
   (try simp only [q51, q51n, bs, if_true, if_false, decide_true, decide_false, reduceIte])
   all_goals rfl
 refine ns_eq hs ?_
 exact ⟨rfl, U50⟩
 have q51n : (pairB M.code M.fail) = true := by simpa using q51
 refine Rr 4 hS44 (.agg (mG M.code M.fail M.addr M.count M.value M.and_ M.or_ M.addr2 M.sub M.status M.events M.messages (.slice Aw M.words.length kw) (.slice Ab M.bits.length kb) (.slice Ad M.data.length kd) (.slice Ar M.recs.length kr) M.mei M.kind M.level M.more M.next (.slice Ao M.objects.length ko))) (fun w' hs => lda_o (g := g10) (off := 0) [.int .u8 M.code, .int .u8 M.fail, .int .u16 M.addr, .int .u16 M.count, .int .u16 M.value, .int .u16 M.and_, .int .u16 M.or_, .int .u16 M.addr2, .int .u16 M.sub, .int .u16 M.status, .int .u16 M.events, .int .u16 M.messages, .slice Aw M.words.length kw, .slice Ab M.bits.length kb, .slice Ad M.data.length kd, .slice Ar M.recs.length kr, .int .u8 M.mei, .int .u8 M.kind, .int .u8 M.level, .int .u8 M.more, .int .u8 M.next, .slice Ao M.objects.length ko] rfl (by kernel_rfl) hs.2 (by kernel_rfl) (by kernel_rfl) rfl) <| Rr 5 hS44 (.agg #[.int .u8 M.code, .int .u8 M.fail]) (fun w' hs => lda_o (g := g15) (off := 0) [.int .u8 M.code, .int .u8 M.fail] rfl (by kernel_rfl) hs.1 (by kernel_rfl) (by kernel_rfl) rfl) <| R0 6 rfl <| Oc <| m1 (pairof_any (a := M.code) (b := M.fail) (w := _)) fun w52 hu53 => ?_
 have r55 := ub hu53 r45
 have r56 := ub hu53 r46
 refine hld ⟨r55, r56⟩ fun hS54 => ?_
 have U59 := ut0 U50 hu53
 have r60 := MsgRd.old hM U59
 refine R0 7 rfl <| Oc <| m1 (same_any (A := M) (B := refM M.code M.fail) r60 (show MsgRd true _ _ _ from ⟨_, _, _, _, _, rfl, RdG.nil .., RdG.nil .., RdG.nil .., RdG.nil .., RdG.nil .., ⟨(b8 (x := M.code) (by omega)), (b8 (x := M.fail) (by omega)), (b16 (x := 0) (by omega)), (b16 (x := 0) (by omega)), (b16 (x := 0) (by omega)), (b16 (x := 0) (by omega)), (b16 (x := 0) (by omega)), (b16 (x := 0) (by omega)), (b16 (x := 0) (by omega)), (b16 (x := 0) (by omega)), (b16 (x := 0) (by omega)), (b16 (x := 0) (by omega)), (b8 (x := 0) (by omega)), (b8 (x := 0) (by omega)), (b8 (x := 0) (by omega)), (b8 (x := 0) (by omega)), (b8 (x := 0) (by omega))⟩⟩)) fun w57 hu58 => ?_
 have r62 := ub hu58 r55
 have r63 := ub hu58 r56
 refine hld ⟨r62, r63⟩ fun hS61 => Rt 8 hS61 <| Rt 9 hS61 <| re <| tn <| ?_
 have U64 := ut0 U59 hu58
 refine cb ((!(decide (M = refM M.code M.fail)))) (fun q65 => ?_) (fun q65 => ?_)
 have q65n : (decide (M = refM M.code M.fail)) = false := by simpa using q65
 have q65np := of_decide_eq_false q65n
 refine sg <| Pl 2 <| nt <| rt <| tr <| rr (.tuple #[.slice none 0 0, .int .i64 1]) <| ?_
 have hs : refW M = none := by
   unfold refW
   (try simp only [q51, q51n, q65, q65n, bs, if_true, if_false, decide_true, decide_false, reduceIte])
   all_goals rfl
 refine ns_eq hs ?_
 exact ⟨rfl, U64⟩
 have q65n : (decide (M = refM M.code M.fail)) = true := by simpa using q65
 have q65np := of_decide_eq_true q65n
 refine skn <| sg <| Pl 1 <| L0 <| Olb r63 0 <| Pl 2 <| L0 <| Olb r63 1 <| L0 <| Olt (m := 2) (e := 5) #[.int .u8 ((M.code + 128) % 256), .int .u8 M.fail] fun g66 w67 hg68 B69 hu70 => ?_
 have ow71 := litB hg68 (xs := [((M.code + 128) % 256), M.fail]) (by as_aux_lemma => kernel_rfl) (rng_cons (by omega) (rng_cons (by omega) rng_nil)) (by (try simp only [List.length_cons, List.length_nil]); omega) B69
 refine Pl 2 <| nt <| rt <| rr (.tuple #[.slice (some ⟨g66, 0, none⟩) 2 2, .int .i64 0]) <| ?_
 have hs : refW M = (some [((M.code + 128) % 256), M.fail]) := by
   unfold refW
   (try simp only [q51, q51n, q65, q65n, bs, if_true, if_false, decide_true, decide_false, reduceIte])
   all_goals rfl
 refine ns_eq hs ?_
 have U72 := ut0 U64 hu70
 exact ⟨_, rfl, (OwnG.weaken ow71 U64.size), U72⟩
open Go.RowKit
def regsLay (dir : Int) (M : Msg) : List Int :=
  if (!(dir == 0)) && (M.code == 3 || M.code == 4 || M.code == 23) then [(2 * (M.words.length : Int)) % 256] ++ putW M.words
  else if M.code == 6 then putW [M.addr, M.value]
  else if M.code == 22 then putW [M.addr, M.and_, M.or_]
  else if M.code == 16 && dir == 0 then ((putW [M.addr, M.count] ++ [(2 * (M.words.length : Int)) % 256]) ++ putW M.words)
  else if M.code == 23 then ((putW [M.addr, M.count, M.addr2, (M.words.length : Int) % 65536] ++ [(2 * (M.words.length : Int)) % 256]) ++ putW M.words)
  else if M.code == 24 && dir == 0 then putW [M.addr]
  else if M.code == 24 then putW [(2 + 2 * (M.words.length : Int)) % 65536, (M.words.length : Int) % 65536] ++ putW M.words
  else putW [M.addr, M.count]
set_option maxRecDepth 100000 in
set_option maxHeartbeats 4000000 in
theorem regs_lay_t {m : Bool} {cs : Array Value} {M : Msg} {w : World} {dir : Int} (h : MsgRd m w cs.toList M) (hf : MsgFew M) (hd0 : (dir == 0) = true) : Calls Try.prog 62 #[.int .i64 dir, .agg cs] w (PLay (regsLay dir M) w) := by
 obtain ⟨vw, vb, vd, vr, vo, h0, hw, hbt, hd, hr, ho, hR⟩ := h
 obtain rfl : cs = (msgCells M vw vb vd vr vo).toArray := by apply Array.toList_inj.1; simpa using h0
 clear h0
 obtain ⟨Aw, kw, rfl, _, _⟩ := hw.shape
 obtain ⟨Ab, kb, rfl, _, _⟩ := hbt.shape
 obtain ⟨Ad, kd, rfl, _, _⟩ := hd.shape
 obtain ⟨Ar, kr, rfl, _, _⟩ := hr.shape
 obtain ⟨Ao, ko, rfl, _, _⟩ := ho.shape
 obtain ⟨q0, q1, q2, q3, q4, q5, q6, q7, q8, q9, q10, q11, q16, q17, q18, q19, q20⟩ := hR
 simp only [B8, B16] at q0 q1 q2 q3 q4 q5 q6 q7 q8 q9 q10 q11 q16 q17 q18 q19 q20
 have hf1 := hf.words
 have hf2 := hf.bits
 have hf3 := hf.data
 have hf4 := hf.recs
 have hf5 := hf.objects
 refine en 124 Try.func62 rfl <| sg <| L0 <| Obx (mG M.code M.fail M.addr M.count M.value M.and_ M.or_ M.addr2 M.sub M.status M.events M.messages (.slice Aw M.words.length kw) (.slice Ab M.bits.length kb) (.slice Ad M.data.length kd) (.slice Ar M.recs.length kr) M.mei M.kind M.level M.more M.next (.slice Ao M.objects.length ko)) fun g10 w11 hg12 B13 hu14 => Pl 1 <| ng <| Pl 1 <| L0 <| Olb B13 12 <| Pl 2 <| nt <| ?_
 refine sg <| Pl 1 <| L0 <| Oi (2 * ((M.words.length : Nat) : Int)) <| Pl 1 <| L0 <| Olt (m := 1) (e := 5) #[.int .u8 ((2 * ((M.words.length : Nat) : Int)) % 256)] fun g15 w16 hg17 B18 hu19 => ?_
 have ow20 := litB hg17 (xs := [((2 * ((M.words.length : Nat) : Int)) % 256)]) (by as_aux_lemma => kernel_rfl) (rng_cons (by omega) rng_nil) (by (try simp only [List.length_cons, List.length_nil]); omega) B18
 refine Pl 1 <| ?_
 have r21 := ub hu19 B13
 refine L0 <| Olb r21 12 <| ?_
 have U22 := ut0 hu14 hu19
 have r23 := RdW.old hw U22
 refine L0 <| Oc <| so2 (put_any (xs := M.words) r23 (by (try simp only [List.length_cons, List.length_nil]); omega)) fun A28 cp29 w24 rd32 hl30 hm31 hu27 => Pl 2 <| ng <| Pl 3 <| nt <| sq <| sg <| Pl 1 <| ?_
 have r33 := ub hu27 r21
 refine L0 <| Olb r33 0 <| Pl 1 <| nt <| bk <| sg <| Pl 3 <| ?_
 have k34 : (!(dir == 0)) = false := by simp only [hd0, Bool.not_true, Bool.not_false]
 refine sy 27 k34 <| Pl 12 <| nt <| c0 <| sg <| Pl 3 <| nt <| ?_
 have U35 := ut0 U22 hu27
 refine cb ((M.code == 6)) (fun q36 => ?_) (fun q36 => ?_)
 have q36p := eq_of_beqi q36
 refine sg <| Pl 1 <| L0 <| Olb r33 2 <| Pl 1 <| L0 <| Olb r33 4 <| L0 <| Olt (m := 2) (e := 23) #[.int .u16 M.addr, .int .u16 M.value] fun g37 w38 hg39 B40 hu41 => ?_
 have ow42 := litW hg39 (xs := [M.addr, M.value]) (by as_aux_lemma => kernel_rfl) (rng_cons (by omega) (rng_cons (by omega) rng_nil)) (by (try simp only [List.length_cons, List.length_nil]); omega) B40
 refine L0 <| Oc <| so2 (put_any (xs := [M.addr, M.value]) (ow42).rd (by (try simp only [List.length_cons, List.length_nil]); omega)) fun A47 cp48 w43 rd51 hl49 hm50 hu46 => Pl 1 <| nt <| rt <| br <| tr <| rr (.slice A47 ((putW ([M.addr, M.value])).length) cp48) <| ?_
 have hs : regsLay dir M = (putW ([M.addr, M.value])) := by
   unfold regsLay 
   (try simp only [hd0, k34, q36, bs, if_true, if_false, decide_true, decide_false, reduceIte])
   all_goals rfl
 rw [hs]
 have U52 := ut0 U35 hu41
 have U53 := ut0 U52 hu46
 exact ⟨_, rfl, (OwnG.weaken rd51 (le (le (le hu14.size hu19.size) hu27.size) hu41.size)), U53⟩
 have q36p := ne_of_beqi q36
 refine sg <| Pl 3 <| nt <| cb ((M.code == 22)) (fun q54 => ?_) (fun q54 => ?_)
 have q54p := eq_of_beqi q54
 refine sg <| Pl 1 <| L0 <| Olb r33 2 <| Pl 1 <| L0 <| Olb r33 5 <| Pl 1 <| L0 <| Olb r33 6 <| L0 <| Olt (m := 3) (e := 23) #[.int .u16 M.addr, .int .u16 M.and_, .int .u16 M.or_] fun g55 w56 hg57 B58 hu59 => ?_
 have ow60 := litW hg57 (xs := [M.addr, M.and_, M.or_]) (by as_aux_lemma => kernel_rfl) (rng_cons (by omega) (rng_cons (by omega) (rng_cons (by omega) rng_nil))) (by (try simp only [List.length_cons, List.length_nil]); omega) B58
 refine L0 <| Oc <| so2 (put_any (xs := [M.addr, M.and_, M.or_]) (ow60).rd (by (try simp only [List.length_cons, List.length_nil]); omega)) fun A65 cp66 w61 rd69 hl67 hm68 hu64 => Pl 1 <| nt <| rt <| br <| tr <| rr (.slice A65 ((putW ([M.addr, M.and_, M.or_])).length) cp66) <| ?_
 have hs : regsLay dir M = (putW ([M.addr, M.and_, M.or_])) := by
   unfold regsLay 
   (try simp only [hd0, k34, q36, q54, bs, if_true, if_false, decide_true, decide_false, reduceIte])
   all_goals rfl
 rw [hs]
 have U70 := ut0 U35 hu59
 have U71 := ut0 U70 hu64
 exact ⟨_, rfl, (OwnG.weaken rd69 (le (le (le hu14.size hu19.size) hu27.size) hu59.size)), U71⟩
 have q54p := ne_of_beqi q54
 refine sg <| Pl 3 <| cu 2 [65] 67 (((M.code == 16) && (dir == 0))) (fun K K73 => ?_) ?_
 refine bl 65 ((M.code == 16)) (fun q72 => ?_) (fun q72 => ?_)
 have q72p := eq_of_beqi q72
 exact Pl 2 <| ce K73 (dir == 0) (by rw [q72]; rfl)
 have q72p := ne_of_beqi q72
 exact Pl 2 <| ce K73 false (by rw [q72]; rfl)
 refine Pl 1 <| nt <| cb (((M.code == 16) && (dir == 0))) (fun q74 => ?_) (fun q74 => ?_)
 have q74a := (and_t q74).1
 have q74b := (and_t q74).2
 have q74ap := eq_of_beqi q74a
 have q74bp := eq_of_beqi q74b
 refine sg <| Pl 1 <| L0 <| Olb r33 2 <| Pl 1 <| L0 <| Olb r33 3 <| L0 <| Olt (m := 2) (e := 23) #[.int .u16 M.addr, .int .u16 M.count] fun g75 w76 hg77 B78 hu79 => ?_
 have ow80 := litW hg77 (xs := [M.addr, M.count]) (by as_aux_lemma => kernel_rfl) (rng_cons (by omega) (rng_cons (by omega) rng_nil)) (by (try simp only [List.length_cons, List.length_nil]); omega) B78
 refine L0 <| Oc <| so2 (put_any (xs := [M.addr, M.count]) (ow80).rd (by (try simp only [List.length_cons, List.length_nil]); omega)) fun A85 cp86 w81 rd89 hl87 hm88 hu84 => Pl 1 <| ?_
 have U90 := ut0 hu27 hu79
 have U91 := ut0 U90 hu84
 have r92 := own_stay ow20 U91 (fun x hx => not0) (fun _ _ h => h)
 refine L0 <| Oapp one_u8 (xs := (putW ([M.addr, M.count]))) (ys := ([((2 * ((M.words.length : Nat) : Int)) % 256)])) (.int .u8 0) 1 rd89 (r92).rd (by (try simp only [List.length_append, List.length_cons, List.length_nil, putW_length]); omega) hu84.size fun A93 cp94 w95 ho96 hu97 => Pl 1 <| ?_
 have U98 := ut0 hu79 hu84
 have U99 := ut U98 hu97 (all_app (ob_new rd89 hu79.size) all0)
 have r100 := own_stay rd32 U99 (fun x hx => not0) (fun _ _ h => h)
 refine L0 <| Oapp one_u8 (xs := ((putW ([M.addr, M.count])) ++ [((2 * ((M.words.length : Nat) : Int)) % 256)])) (ys := (putW M.words)) (.int .u8 0) 1 ho96 (r100).rd (by (try simp only [List.length_append, List.length_cons, List.length_nil, putW_length]); omega) (le hu84.size hu97.size) fun A101 cp102 w103 ho104 hu105 => Pl 1 <| nt <| rt <| br <| tr <| rr (.slice A101 ((((putW ([M.addr, M.count])) ++ [((2 * ((M.words.length : Nat) : Int)) % 256)]) ++ (putW M.words)).length) cp102) <| ?_
 have hs : regsLay dir M = (((putW ([M.addr, M.count])) ++ [((2 * ((M.words.length : Nat) : Int)) % 256)]) ++ (putW M.words)) := by
   unfold regsLay 
   (try simp only [q74b, k34, q36, q54, q74, q74a, bs, if_true, if_false, decide_true, decide_false, reduceIte])
   all_goals rfl
 rw [hs]
 have U106 := ut0 U35 hu79
 have U107 := ut0 U106 hu84
 have U108 := ut U107 hu97 (all_app (ob_new rd89 U106.size) all0)
 have U109 := ut U108 hu105 (all_app (ob_new ho96 U106.size) all0)
 exact ⟨_, rfl, (OwnG.weaken ho104 (le (le (le hu14.size hu19.size) hu27.size) hu79.size)), U109⟩
 have q74a : (M.code == 16) = false := by simpa only [hd0, bs] using q74
 have q74ap := ne_of_beqi q74a
 refine sg <| Pl 3 <| nt <| cb ((M.code == 23)) (fun q110 => ?_) (fun q110 => ?_)
 have q110p := eq_of_beqi q110
 refine sg <| Pl 1 <| L0 <| Olb r33 2 <| Pl 1 <| L0 <| Olb r33 3 <| Pl 1 <| L0 <| Olb r33 7 <| Pl 2 <| L0 <| Olt (m := 4) (e := 23) #[.int .u16 M.addr, .int .u16 M.count, .int .u16 M.addr2, .int .u16 (((M.words.length : Nat) : Int) % 65536)] fun g111 w112 hg113 B114 hu115 => ?_
 have ow116 := litW hg113 (xs := [M.addr, M.count, M.addr2, (((M.words.length : Nat) : Int) % 65536)]) (by as_aux_lemma => kernel_rfl) (rng_cons (by omega) (rng_cons (by omega) (rng_cons (by omega) (rng_cons (by omega) rng_nil)))) (by (try simp only [List.length_cons, List.length_nil]); omega) B114
 refine L0 <| Oc <| so2 (put_any (xs := [M.addr, M.count, M.addr2, (((M.words.length : Nat) : Int) % 65536)]) (ow116).rd (by (try simp only [List.length_cons, List.length_nil]); omega)) fun A121 cp122 w117 rd125 hl123 hm124 hu120 => Pl 1 <| ?_
 have U126 := ut0 hu27 hu115
 have U127 := ut0 U126 hu120
 have r128 := own_stay ow20 U127 (fun x hx => not0) (fun _ _ h => h)
 refine L0 <| Oapp one_u8 (xs := (putW ([M.addr, M.count, M.addr2, (((M.words.length : Nat) : Int) % 65536)]))) (ys := ([((2 * ((M.words.length : Nat) : Int)) % 256)])) (.int .u8 0) 1 rd125 (r128).rd (by (try simp only [List.length_append, List.length_cons, List.length_nil, putW_length]); omega) hu120.size fun A129 cp130 w131 ho132 hu133 => Pl 1 <| ?_
 have U134 := ut0 hu115 hu120
 have U135 := ut U134 hu133 (all_app (ob_new rd125 hu115.size) all0)
 have r136 := own_stay rd32 U135 (fun x hx => not0) (fun _ _ h => h)
 refine L0 <| Oapp one_u8 (xs := ((putW ([M.addr, M.count, M.addr2, (((M.words.length : Nat) : Int) % 65536)])) ++ [((2 * ((M.words.length : Nat) : Int)) % 256)])) (ys := (putW M.words)) (.int .u8 0) 1 ho132 (r136).rd (by (try simp only [List.length_append, List.length_cons, List.length_nil, putW_length]); omega) (le hu120.size hu133.size) fun A137 cp138 w139 ho140 hu141 => Pl 1 <| nt <| rt <| br <| tr <| rr (.slice A137 ((((putW ([M.addr, M.count, M.addr2, (((M.words.length : Nat) : Int) % 65536)])) ++ [((2 * ((M.words.length : Nat) : Int)) % 256)]) ++ (putW M.words)).length) cp138) <| ?_
 have hs : regsLay dir M = (((putW ([M.addr, M.count, M.addr2, (((M.words.length : Nat) : Int) % 65536)])) ++ [((2 * ((M.words.length : Nat) : Int)) % 256)]) ++ (putW M.words)) := by
   unfold regsLay 
   (try simp only [hd0, k34, q36, q54, q74, q74a, q110, bs, if_true, if_false, decide_true, decide_false, reduceIte])
   all_goals rfl
 rw [hs]
 have U142 := ut0 U35 hu115
 have U143 := ut0 U142 hu120
 have U144 := ut U143 hu133 (all_app (ob_new rd125 U142.size) all0)
 have U145 := ut U144 hu141 (all_app (ob_new ho132 U142.size) all0)
 exact ⟨_, rfl, (OwnG.weaken ho140 (le (le (le hu14.size hu19.size) hu27.size) hu115.size)), U145⟩
 have q110p := ne_of_beqi q110
 refine sg <| Pl 3 <| cu 2 [98] 100 (((M.code == 24) && (dir == 0))) (fun K K147 => ?_) ?_
 refine bl 98 ((M.code == 24)) (fun q146 => ?_) (fun q146 => ?_)
 have q146p := eq_of_beqi q146
 exact Pl 2 <| ce K147 (dir == 0) (by rw [q146]; rfl)
 have q146p := ne_of_beqi q146
 exact Pl 2 <| ce K147 false (by rw [q146]; rfl)
 refine Pl 1 <| nt <| cb (((M.code == 24) && (dir == 0))) (fun q148 => ?_) (fun q148 => ?_)
 have q148a := (and_t q148).1
 have q148b := (and_t q148).2
 have q148ap := eq_of_beqi q148a
 have q148bp := eq_of_beqi q148b
 refine sg <| Pl 1 <| L0 <| Olb r33 2 <| L0 <| Olt (m := 1) (e := 23) #[.int .u16 M.addr] fun g149 w150 hg151 B152 hu153 => ?_
 have ow154 := litW hg151 (xs := [M.addr]) (by as_aux_lemma => kernel_rfl) (rng_cons (by omega) rng_nil) (by (try simp only [List.length_cons, List.length_nil]); omega) B152
 refine L0 <| Oc <| so2 (put_any (xs := [M.addr]) (ow154).rd (by (try simp only [List.length_cons, List.length_nil]); omega)) fun A159 cp160 w155 rd163 hl161 hm162 hu158 => Pl 1 <| nt <| rt <| br <| tr <| rr (.slice A159 ((putW ([M.addr])).length) cp160) <| ?_
 have hs : regsLay dir M = (putW ([M.addr])) := by
   unfold regsLay 
   (try simp only [q148b, k34, q36, q54, q74, q74a, q110, q148, q148a, bs, if_true, if_false, decide_true, decide_false, reduceIte])
   all_goals rfl
 rw [hs]
 have U164 := ut0 U35 hu153
 have U165 := ut0 U164 hu158
 exact ⟨_, rfl, (OwnG.weaken rd163 (le (le (le hu14.size hu19.size) hu27.size) hu153.size)), U165⟩
 have q148a : (M.code == 24) = false := by simpa only [hd0, bs] using q148
 have q148ap := ne_of_beqi q148a
 refine sg <| Pl 3 <| nt <| cf q148a <| sk <| bn <| tn <| sg <| Pl 1 <| L0 <| Olb r33 2 <| Pl 1 <| L0 <| Olb r33 3 <| ?_
 refine L0 <| Olt (m := 2) (e := 23) #[.int .u16 M.addr, .int .u16 M.count] fun g166 w167 hg168 B169 hu170 => ?_
 have ow171 := litW hg168 (xs := [M.addr, M.count]) (by as_aux_lemma => kernel_rfl) (rng_cons (by omega) (rng_cons (by omega) rng_nil)) (by (try simp only [List.length_cons, List.length_nil]); omega) B169
 refine L0 <| Oc <| so2 (put_any (xs := [M.addr, M.count]) (ow171).rd (by (try simp only [List.length_cons, List.length_nil]); omega)) fun A176 cp177 w172 rd180 hl178 hm179 hu175 => Pl 1 <| nt <| rt <| rr (.slice A176 ((putW ([M.addr, M.count])).length) cp177) <| ?_
 have hs : regsLay dir M = (putW ([M.addr, M.count])) := by
   unfold regsLay 
   (try simp only [hd0, k34, q36, q54, q74, q74a, q110, q148, q148a, bs, if_true, if_false, decide_true, decide_false, reduceIte])
   all_goals rfl
 rw [hs]
 have U181 := ut0 U35 hu170
 have U182 := ut0 U181 hu175
 exact ⟨_, rfl, (OwnG.weaken rd180 (le (le (le hu14.size hu19.size) hu27.size) hu170.size)), U182⟩
set_option maxRecDepth 100000 in
set_option maxHeartbeats 4000000 in
theorem regs_lay_f {m : Bool} {cs : Array Value} {M : Msg} {w : World} {dir : Int} (h : MsgRd m w cs.toList M) (hf : MsgFew M) (hd0 : (dir == 0) = false) : Calls Try.prog 62 #[.int .i64 dir, .agg cs] w (PLay (regsLay dir M) w) := by
 obtain ⟨vw, vb, vd, vr, vo, h0, hw, hbt, hd, hr, ho, hR⟩ := h
 obtain rfl : cs = (msgCells M vw vb vd vr vo).toArray := by apply Array.toList_inj.1; simpa using h0
 clear h0
 obtain ⟨Aw, kw, rfl, _, _⟩ := hw.shape
 obtain ⟨Ab, kb, rfl, _, _⟩ := hbt.shape
 obtain ⟨Ad, kd, rfl, _, _⟩ := hd.shape
 obtain ⟨Ar, kr, rfl, _, _⟩ := hr.shape
 obtain ⟨Ao, ko, rfl, _, _⟩ := ho.shape
 obtain ⟨q0, q1, q2, q3, q4, q5, q6, q7, q8, q9, q10, q11, q16, q17, q18, q19, q20⟩ := hR
 simp only [B8, B16] at q0 q1 q2 q3 q4 q5 q6 q7 q8 q9 q10 q11 q16 q17 q18 q19 q20
 have hf1 := hf.words
 have hf2 := hf.bits
 have hf3 := hf.data
 have hf4 := hf.recs
 have hf5 := hf.objects
 refine en 124 Try.func62 rfl <| sg <| L0 <| Obx (mG M.code M.fail M.addr M.count M.value M.and_ M.or_ M.addr2 M.sub M.status M.events M.messages (.slice Aw M.words.length kw) (.slice Ab M.bits.length kb) (.slice Ad M.data.length kd) (.slice Ar M.recs.length kr) M.mei M.kind M.level M.more M.next (.slice Ao M.objects.length ko)) fun g10 w11 hg12 B13 hu14 => Pl 1 <| ng <| Pl 1 <| L0 <| Olb B13 12 <| Pl 2 <| nt <| ?_
 refine sg <| Pl 1 <| L0 <| Oi (2 * ((M.words.length : Nat) : Int)) <| Pl 1 <| L0 <| Olt (m := 1) (e := 5) #[.int .u8 ((2 * ((M.words.length : Nat) : Int)) % 256)] fun g15 w16 hg17 B18 hu19 => ?_
 have ow20 := litB hg17 (xs := [((2 * ((M.words.length : Nat) : Int)) % 256)]) (by as_aux_lemma => kernel_rfl) (rng_cons (by omega) rng_nil) (by (try simp only [List.length_cons, List.length_nil]); omega) B18
 refine Pl 1 <| ?_
 have r21 := ub hu19 B13
 refine L0 <| Olb r21 12 <| ?_
 have U22 := ut0 hu14 hu19
 have r23 := RdW.old hw U22
 refine L0 <| Oc <| so2 (put_any (xs := M.words) r23 (by (try simp only [List.length_cons, List.length_nil]); omega)) fun A28 cp29 w24 rd32 hl30 hm31 hu27 => Pl 2 <| ng <| Pl 3 <| nt <| sq <| sg <| Pl 1 <| ?_
 have r33 := ub hu27 r21
 refine L0 <| Olb r33 0 <| Pl 1 <| nt <| bk <| sg <| Pl 3 <| ?_
 have k34 : (!(dir == 0)) = true := by simp only [hd0, Bool.not_true, Bool.not_false]
 refine sy 27 k34 <| Pl 3 <| cu 3 [30] 33 (((M.code == 3) || (M.code == 4))) (fun K K36 => ?_) ?_
 refine bl 30 ((M.code == 3)) (fun q35 => ?_) (fun q35 => ?_)
 have q35p := eq_of_beqi q35
 exact Pl 3 <| ce K36 true (by rw [q35]; rfl)
 have q35p := ne_of_beqi q35
 exact Pl 3 <| ce K36 (M.code == 4) (by rw [q35]; rfl)
 refine Pl 1 <| cu 3 [34] 37 ((((M.code == 3) || (M.code == 4)) || (M.code == 23))) (fun K K38 => ?_) ?_
 refine bl 34 (((M.code == 3) || (M.code == 4))) (fun q37 => ?_) (fun q37 => ?_)
 exact Pl 3 <| ce K38 true (by rw [q37]; rfl)
 have q37a := (or_f q37).1
 have q37b := (or_f q37).2
 have q37ap := ne_of_beqi q37a
 have q37bp := ne_of_beqi q37b
 exact Pl 3 <| ce K38 (M.code == 23) (by rw [q37]; rfl)
 refine Pl 2 <| nt <| ?_
 have U39 := ut0 U22 hu27
 refine cb ((((M.code == 3) || (M.code == 4)) || (M.code == 23))) (fun q40 => ?_) (fun q40 => ?_)
 refine sg <| Pl 2 <| ?_
 have r41 := own_stay ow20 hu27 (fun x hx => not0) (fun _ _ h => h)
 refine L0 <| Oapp one_u8 (xs := ([((2 * ((M.words.length : Nat) : Int)) % 256)])) (ys := (putW M.words)) (.int .u8 0) 1 r41 (rd32).rd (by (try simp only [List.length_append, List.length_cons, List.length_nil, putW_length]); omega) (le hu19.size hu27.size) fun A42 cp43 w44 ho45 hu46 => Pl 1 <| nt <| rt <| br <| tr <| rr (.slice A42 (([((2 * ((M.words.length : Nat) : Int)) % 256)] ++ (putW M.words)).length) cp43) <| ?_
 have hs : regsLay dir M = ([((2 * ((M.words.length : Nat) : Int)) % 256)] ++ (putW M.words)) := by
   unfold regsLay 
   (try simp only [hd0, k34, q40, bs, if_true, if_false, decide_true, decide_false, reduceIte])
   all_goals rfl
 rw [hs]
 have U47 := ut U39 hu46 (all_app (ob_new ow20 hu14.size) all0)
 exact ⟨_, rfl, (OwnG.weaken ho45 hu14.size), U47⟩
 have q40a := (or_f q40).1
 have q40b := (or_f q40).2
 have q40aa := (or_f q40a).1
 have q40ab := (or_f q40a).2
 have q40aap := ne_of_beqi q40aa
 have q40abp := ne_of_beqi q40ab
 have q40bp := ne_of_beqi q40b
 refine sg <| Pl 3 <| nt <| cb ((M.code == 6)) (fun q48 => ?_) (fun q48 => ?_)
 have q48p := eq_of_beqi q48
 refine sg <| Pl 1 <| L0 <| Olb r33 2 <| Pl 1 <| L0 <| Olb r33 4 <| L0 <| Olt (m := 2) (e := 23) #[.int .u16 M.addr, .int .u16 M.value] fun g49 w50 hg51 B52 hu53 => ?_
 have ow54 := litW hg51 (xs := [M.addr, M.value]) (by as_aux_lemma => kernel_rfl) (rng_cons (by omega) (rng_cons (by omega) rng_nil)) (by (try simp only [List.length_cons, List.length_nil]); omega) B52
 refine L0 <| Oc <| so2 (put_any (xs := [M.addr, M.value]) (ow54).rd (by (try simp only [List.length_cons, List.length_nil]); omega)) fun A59 cp60 w55 rd63 hl61 hm62 hu58 => Pl 1 <| nt <| rt <| br <| tr <| rr (.slice A59 ((putW ([M.addr, M.value])).length) cp60) <| ?_
 have hs : regsLay dir M = (putW ([M.addr, M.value])) := by
   unfold regsLay 
   (try simp only [hd0, k34, q40, q40a, q40aa, q40ab, q40b, q48, bs, if_true, if_false, decide_true, decide_false, reduceIte])
   all_goals rfl
 rw [hs]
 have U64 := ut0 U39 hu53
 have U65 := ut0 U64 hu58
 exact ⟨_, rfl, (OwnG.weaken rd63 (le (le (le hu14.size hu19.size) hu27.size) hu53.size)), U65⟩
 have q48p := ne_of_beqi q48
 refine sg <| Pl 3 <| nt <| cb ((M.code == 22)) (fun q66 => ?_) (fun q66 => ?_)
 have q66p := eq_of_beqi q66
 refine sg <| Pl 1 <| L0 <| Olb r33 2 <| Pl 1 <| L0 <| Olb r33 5 <| Pl 1 <| L0 <| Olb r33 6 <| L0 <| Olt (m := 3) (e := 23) #[.int .u16 M.addr, .int .u16 M.and_, .int .u16 M.or_] fun g67 w68 hg69 B70 hu71 => ?_
 have ow72 := litW hg69 (xs := [M.addr, M.and_, M.or_]) (by as_aux_lemma => kernel_rfl) (rng_cons (by omega) (rng_cons (by omega) (rng_cons (by omega) rng_nil))) (by (try simp only [List.length_cons, List.length_nil]); omega) B70
 refine L0 <| Oc <| so2 (put_any (xs := [M.addr, M.and_, M.or_]) (ow72).rd (by (try simp only [List.length_cons, List.length_nil]); omega)) fun A77 cp78 w73 rd81 hl79 hm80 hu76 => Pl 1 <| nt <| rt <| br <| tr <| rr (.slice A77 ((putW ([M.addr, M.and_, M.or_])).length) cp78) <| ?_
 have hs : regsLay dir M = (putW ([M.addr, M.and_, M.or_])) := by
   unfold regsLay 
   (try simp only [hd0, k34, q40, q40a, q40aa, q40ab, q40b, q48, q66, bs, if_true, if_false, decide_true, decide_false, reduceIte])
   all_goals rfl
 rw [hs]
 have U82 := ut0 U39 hu71
 have U83 := ut0 U82 hu76
 exact ⟨_, rfl, (OwnG.weaken rd81 (le (le (le hu14.size hu19.size) hu27.size) hu71.size)), U83⟩
 have q66p := ne_of_beqi q66
 refine sg <| Pl 3 <| cu 2 [65] 67 (((M.code == 16) && (dir == 0))) (fun K K85 => ?_) ?_
 refine bl 65 ((M.code == 16)) (fun q84 => ?_) (fun q84 => ?_)
 have q84p := eq_of_beqi q84
 exact Pl 2 <| ce K85 (dir == 0) (by rw [q84]; rfl)
 have q84p := ne_of_beqi q84
 exact Pl 2 <| ce K85 false (by rw [q84]; rfl)
 refine Pl 1 <| nt <| ?_
 have k86 : ((M.code == 16) && (dir == 0)) = false := by simp only [hd0, bs]
 refine cf k86 <| sg <| Pl 3 <| nt <| cf q40b <| sg <| Pl 3 <| cu 2 [98] 100 (((M.code == 24) && (dir == 0))) (fun K K88 => ?_) ?_
 refine bl 98 ((M.code == 24)) (fun q87 => ?_) (fun q87 => ?_)
 have q87p := eq_of_beqi q87
 exact Pl 2 <| ce K88 (dir == 0) (by rw [q87]; rfl)
 have q87p := ne_of_beqi q87
 exact Pl 2 <| ce K88 false (by rw [q87]; rfl)
 refine Pl 1 <| nt <| ?_
 have k89 : ((M.code == 24) && (dir == 0)) = false := by simp only [hd0, bs]
 refine cf k89 <| sg <| Pl 3 <| nt <| cb ((M.code == 24)) (fun q90 => ?_) (fun q90 => ?_)
 have q90p := eq_of_beqi q90
 refine sg <| Pl 1 <| L0 <| Oi (2 * ((M.words.length : Nat) : Int)) <| L0 <| Oi (2 + (2 * ((M.words.length : Nat) : Int))) <| Pl 3 <| L0 <| Olt (m := 2) (e := 23) #[.int .u16 ((2 + (2 * ((M.words.length : Nat) : Int))) % 65536), .int .u16 (((M.words.length : Nat) : Int) % 65536)] fun g91 w92 hg93 B94 hu95 => ?_
 have ow96 := litW hg93 (xs := [((2 + (2 * ((M.words.length : Nat) : Int))) % 65536), (((M.words.length : Nat) : Int) % 65536)]) (by as_aux_lemma => kernel_rfl) (rng_cons (by omega) (rng_cons (by omega) rng_nil)) (by (try simp only [List.length_cons, List.length_nil]); omega) B94
 refine L0 <| Oc <| so2 (put_any (xs := [((2 + (2 * ((M.words.length : Nat) : Int))) % 65536), (((M.words.length : Nat) : Int) % 65536)]) (ow96).rd (by (try simp only [List.length_cons, List.length_nil]); omega)) fun A101 cp102 w97 rd105 hl103 hm104 hu100 => Pl 1 <| ?_
 have U106 := ut0 hu95 hu100
 have r107 := own_stay rd32 U106 (fun x hx => not0) (fun _ _ h => h)
 refine L0 <| Oapp one_u8 (xs := (putW ([((2 + (2 * ((M.words.length : Nat) : Int))) % 65536), (((M.words.length : Nat) : Int) % 65536)]))) (ys := (putW M.words)) (.int .u8 0) 1 rd105 (r107).rd (by (try simp only [List.length_append, List.length_cons, List.length_nil, putW_length]); omega) hu100.size fun A108 cp109 w110 ho111 hu112 => Pl 1 <| nt <| rt <| br <| tr <| rr (.slice A108 (((putW ([((2 + (2 * ((M.words.length : Nat) : Int))) % 65536), (((M.words.length : Nat) : Int) % 65536)])) ++ (putW M.words)).length) cp109) <| ?_
 have hs : regsLay dir M = ((putW ([((2 + (2 * ((M.words.length : Nat) : Int))) % 65536), (((M.words.length : Nat) : Int) % 65536)])) ++ (putW M.words)) := by
   unfold regsLay 
   (try simp only [hd0, k34, q40, q40a, q40aa, q40ab, q40b, q48, q66, k86, k89, q90, bs, if_true, if_false, decide_true, decide_false, reduceIte])
   all_goals rfl
 rw [hs]
 have U113 := ut0 U39 hu95
 have U114 := ut0 U113 hu100
 have U115 := ut U114 hu112 (all_app (ob_new rd105 U113.size) all0)
 exact ⟨_, rfl, (OwnG.weaken ho111 (le (le (le hu14.size hu19.size) hu27.size) hu95.size)), U115⟩
 have q90p := ne_of_beqi q90
 refine sk <| bn <| tn <| sg <| Pl 1 <| L0 <| Olb r33 2 <| Pl 1 <| L0 <| Olb r33 3 <| L0 <| Olt (m := 2) (e := 23) #[.int .u16 M.addr, .int .u16 M.count] fun g116 w117 hg118 B119 hu120 => ?_
 have ow121 := litW hg118 (xs := [M.addr, M.count]) (by as_aux_lemma => kernel_rfl) (rng_cons (by omega) (rng_cons (by omega) rng_nil)) (by (try simp only [List.length_cons, List.length_nil]); omega) B119
 refine L0 <| Oc <| so2 (put_any (xs := [M.addr, M.count]) (ow121).rd (by (try simp only [List.length_cons, List.length_nil]); omega)) fun A126 cp127 w122 rd130 hl128 hm129 hu125 => Pl 1 <| nt <| rt <| rr (.slice A126 ((putW ([M.addr, M.count])).length) cp127) <| ?_
 have hs : regsLay dir M = (putW ([M.addr, M.count])) := by
   unfold regsLay 
   (try simp only [hd0, k34, q40, q40a, q40aa, q40ab, q40b, q48, q66, k86, k89, q90, bs, if_true, if_false, decide_true, decide_false, reduceIte])
   all_goals rfl
 rw [hs]
 have U131 := ut0 U39 hu120
 have U132 := ut0 U131 hu125
 exact ⟨_, rfl, (OwnG.weaken rd130 (le (le (le hu14.size hu19.size) hu27.size) hu120.size)), U132⟩
theorem regs_lay {m : Bool} {cs : Array Value} {M : Msg} {w : World} {dir : Int} (h : MsgRd m w cs.toList M) (hf : MsgFew M) : Calls Try.prog 62 #[.int .i64 dir, .agg cs] w (PLay (regsLay dir M) w) := by
  rcases bool_dich (dir == 0) with h0 | h0
  · exact regs_lay_t h hf h0
  · exact regs_lay_f h hf h0
end Go.Proofs.Ytbaeecmamacphaa
