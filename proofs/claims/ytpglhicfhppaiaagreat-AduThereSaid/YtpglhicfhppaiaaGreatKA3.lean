/- Contracts of functions, part KA3. -/
import Derived.Test.YtpglhicfhppaiaaGreatKA1
import Derived.Test.YtpglhicfhppaiaaGreatKA2
import Derived.Laws.BitsAllLaws
import Derived.RangeFuncRecord
import Derived.RangeFuncLeaves
import Derived.RangeFuncCalls
set_option linter.unusedVariables false
set_option linter.unusedSimpArgs false
namespace Go.Proofs.YtpglhicfhppaiaaGreat
open Go.RowKit
theorem cdich (c:Int) : c=1∨c=2∨c=5∨c=15∨(c ≠ 1∧c ≠ 2∧c ≠ 5∧c ≠ 15):=by omega
set_option maxRecDepth 100000 in
set_option maxHeartbeats 4000000 in
theorem coils_parse_0 {m:Bool} {A:Option Addr} {cp:Nat} {b:List Int} {w:World} {c:Int} (hcode:B8 c) (hsl:RdB m w (.slice A b.length cp) b) (hb:b.length≤1048576) :
    Calls Tryz.prog 58 #[.int .i64 0,.int .u8 c,.slice A b.length cp] w (PMsg (parseOf coilsForm 0 c b) w):=by
 obtain ⟨hcode1,hcode2⟩:=hcode
 have hln:(b.length:Int)≤1048576:=by omega
 refine en 72 Tryz.func58 rfl<|sg<|L0<|Oal mZ fun g10 w11 hg12 B13 hu14=>Pl 1<|nt<|sq<|sg<|Pl 6<|nt<|c0<|?_
 refine skn<|sg<|Pl 2<|L0<|Oal mZ fun g15 w16 hg17 B18 hu19=>L0<|Osw B18 (mC c) fun w20 B21 hu22=>ng<|Pl 1<|?_
 have U23:=ut0 hu14 hu19
 have U24:=u1 U23 hu22 (ni hu14.size hg17)
 have r25:=RdB.old hsl U24
 refine L0<|Oc<|e3 (new_any r25 (by omega)) fun g27 w26 hg28 hc29 hu30=>Pl 1<|L0<|Oal #[.pointer none,.pointer none] fun g31 w32 hg33 B34 hu35=>L0<|Osw B34 #[.pointer (some ⟨g27,0,none⟩),.pointer (some ⟨g15,0,none⟩)] fun w36 B37 hu38=>ng<|L0<|Omk fun g39 w40 hg41 B42 hu43=>?_
 have r44:=ub hu43 B37
 refine L0<|Olw r44<|Pl 1<|L0<|Olw r44<|Pl 2<|L0<|Oin B42 1 fun w45 B46 hu47=>?_
 have ne48:=nb (blk_lt B34) hu38.size hg41
 have r49:=ub1 hu47 ne48 r44
 refine L0<|Olw r49<|Pl 1<|L0<|Olw r49<|Pl 2<|L0<|Oin B46 2 fun w50 B51 hu52=>?_
 have r53:=ub1 hu52 ne48 r49
 refine L0<|Olw r53<|Pl 1<|L0<|Olw r53<|Pl 2<|L0<|Oin B51 5 fun w54 B55 hu56=>?_
 have r57:=ub1 hu56 ne48 r53
 refine L0<|Olw r57<|Pl 1<|L0<|Olw r57<|Pl 2<|L0<|Oin B55 15 fun w58 B59 hu60=>Pl 2<|ng<|Pl 2<|?_
 have U61:=ut0 U24 hu30
 have U62:=ut0 U61 hu35
 have U63:=u1 U62 hu38 (ni U61.size hg33)
 have U64:=ut0 U63 hu43
 have U65:=u1 U64 hu47 (ni U63.size hg41)
 have U66:=u1 U65 hu52 (ni U63.size hg41)
 have U67:=u1 U66 hu56 (ni U63.size hg41)
 have U68:=u1 U67 hu60 (ni U63.size hg41)
 rcases cdich c with hk | hk | hk | hk | hk
 have k1:(c == 1)=true:=by rw [hk]; rfl
 have k2:(c == 2)=false:=by rw [hk]; rfl
 have k5:(c == 5)=false:=by rw [hk]; rfl
 have k15:(c == 15)=false:=by rw [hk]; rfl
 refine L0<|Olk (hf:=(by subst hk; kernel_rfl)) B59 c (.agg #[.nilFunc,.nilFunc]) (some (0,.agg #[.func (.func 78) #[.agg #[.pointer (some ⟨g27,0,none⟩),.pointer (some ⟨g15,0,none⟩)]] #[],.func (.func 79) #[.agg #[.pointer (some ⟨g27,0,none⟩),.pointer (some ⟨g15,0,none⟩)]] #[]]))<|Pl 3<|L0<|Oal #[.nilFunc,.nilFunc] fun g69 w70 hg71 B72 hu73=>L0<|Osw B72 #[.func (.func 78) #[.agg #[.pointer (some ⟨g27,0,none⟩),.pointer (some ⟨g15,0,none⟩)]] #[],.func (.func 79) #[.agg #[.pointer (some ⟨g27,0,none⟩),.pointer (some ⟨g15,0,none⟩)]] #[]] fun w74 B75 hu76=>Pl 1<|nt<|sq<|sg<|Pl 2<|nt<|c0<|?_
 refine skn<|sg<|Pl 2<|L0<|Olb B75 0<|?_
 have U77:=u1 hu35 hu38 (nr hg33)
 have U78:=ut0 U77 hu43
 have U79:=u1 U78 hu47 (ni U77.size hg41)
 have U80:=u1 U79 hu52 (ni U77.size hg41)
 have U81:=u1 U80 hu56 (ni U77.size hg41)
 have U82:=u1 U81 hu60 (ni U77.size hg41)
 have U83:=ut0 U82 hu73
 have U84:=u1 U83 hu76 (ni U82.size hg71)
 have r85:=CurAt.old hc29 U84
 have U86:=ut0 hu30 hu35
 have U87:=u1 U86 hu38 (ni hu30.size hg33)
 have U88:=ut0 U87 hu43
 have U89:=u1 U88 hu47 (ni U87.size hg41)
 have U90:=u1 U89 hu52 (ni U87.size hg41)
 have U91:=u1 U90 hu56 (ni U87.size hg41)
 have U92:=u1 U91 hu60 (ni U87.size hg41)
 have U93:=ut0 U92 hu73
 have U94:=u1 U93 hu76 (ni U92.size hg71)
 have r95:=ub U94 B21
 have ne102:=nb (blk_lt B18) hu22.size hg28
 refine L0<|Ocv #[.agg #[.pointer (some ⟨g27,0,none⟩),.pointer (some ⟨g15,0,none⟩)]] #[] (args:=#[.agg #[.pointer (some ⟨g27,0,none⟩),.pointer (some ⟨g15,0,none⟩)]])<|m3 (asksRead_any (c:=c) ⟨hcode1,hcode2⟩ r85 r95 (Ne.symm ne102)) fun w96 hc97 hx106 hu101=>?_
 obtain ⟨cs98,hm99,hM100⟩:=hx106
 refine ab hc97 fun x103 ex104 hc105=>?_
 refine ng<|Pl 1<|?_
 have U107:=ut0 hu60 hu73
 have U108:=u1 U107 hu76 (ni hu60.size hg71)
 have U109:=ut (Upd.mono (S':=[g39,g27,g15]) U108 (ac im all0)) hu101 (ac im (ac im all0))
 have ne110:=nb (blk_lt B18) (le hu22.size hu30.size) hg33
 have ne111:=nb (CurAt.lt hc29) lr hg33
 have r112:=Upd.blk U109 (not_cons ne48 (not_cons (Ne.symm ne111) (not_cons (Ne.symm ne110) not0))) r57
 refine L0<|Olb r112 0<|L0<|Oc<|m2 (end_any hc105) fun w113 hc114 hu115=>nt<|sq<|sg<|Pl 1<|?_
 have r116:=ub1 hu115 (Ne.symm ne111) r112
 refine L0<|Olb r116 0<|L0<|Oc<|mq (err_any hc114)<|?_
 have hl117:=CurAt.len hc114
 refine Pl 1<|ng<|Pl 2<|nt<|?_
 have U118:=ut0 U68 hu73
 have U119:=u1 U118 hu76 (ni U68.size hg71)
 have U120:=ut U119 hu101 (ac (ni U24.size hg28) (ac (ni hu14.size hg17) all0))
 have U121:=u1 U120 hu115 (ni U24.size hg28)
 refine cb ((x103.endC.e != 0)) (fun q122=>?_) (fun q122=>?_)
 have q122p:=ne_of_bnei q122
 refine sg<|Pl 2<|?_
 have U123:=u1 hu19 hu22 (nr hg17)
 have U124:=ut0 U123 hu30
 have U125:=ut0 U124 hu35
 have U126:=u1 U125 hu38 (ni U124.size hg33)
 have U127:=ut0 U126 hu43
 have U128:=u1 U127 hu47 (ni U126.size hg41)
 have U129:=u1 U128 hu52 (ni U126.size hg41)
 have U130:=u1 U129 hu56 (ni U126.size hg41)
 have U131:=u1 U130 hu60 (ni U126.size hg41)
 have U132:=ut0 U131 hu73
 have U133:=u1 U132 hu76 (ni U131.size hg71)
 have U134:=ut U133 hu101 (ac (ni U123.size hg28) (ac (nr hg17) all0))
 have U135:=u1 U134 hu115 (ni U123.size hg28)
 have r136:=ub U135 B13
 refine L0<|Osw r136 mZ fun w137 B138 hu139=>Pl 1<|nt<|rt<|tr<|rct B138 (.int .i64 x103.endC.e)<|?_
 subst ex104
 have U140:=u1 U121 hu139 (nr hg12)
 have hs:parseOf coilsForm 0 c b=finish ((asksR 2000 c (Cur.mk b false 0)).2) ((asksR 2000 c (Cur.mk b false 0)).1):=by
   unfold parseOf coilsForm 
   (try simp only [q122,bs,if_true,if_false,decide_true,decide_false,eq_self,true_or,or_true,or_false,false_or,if_true,if_false,i00,i01,i10,i11,reduceIte,k1,k2,k5,k15])
   all_goals rfl
 rw [hs]
 exact finish_bad q122p U140
 have q122p:=eq_of_bnei q122
 refine skn<|sg<|?_
 have r141:=ub1 hu115 ne102 hm99.1
 refine L0<|Olw (hz:=(by rw [hm99.2]; exact msg_size)) r141<|?_
 have U142:=u1 hu19 hu22 (nr hg17)
 have U143:=ut0 U142 hu30
 have U144:=ut0 U143 hu35
 have U145:=u1 U144 hu38 (ni U143.size hg33)
 have U146:=ut0 U145 hu43
 have U147:=u1 U146 hu47 (ni U145.size hg41)
 have U148:=u1 U147 hu52 (ni U145.size hg41)
 have U149:=u1 U148 hu56 (ni U145.size hg41)
 have U150:=u1 U149 hu60 (ni U145.size hg41)
 have U151:=ut0 U150 hu73
 have U152:=u1 U151 hu76 (ni U150.size hg71)
 have U153:=ut U152 hu101 (ac (ni U142.size hg28) (ac (nr hg17) all0))
 have U154:=u1 U153 hu115 (ni U142.size hg28)
 have r155:=ub U154 B13
 refine L0<|Osw (hz:=(by rw [hm99.2]; exact msg_size)) (hv:=hM100.size) (h1:=hM100.one) r155 (cs98) fun w156 B157 hu158=>Pl 1<|nt<|rt<|rctx 22 hm99.2 B157 (.int .i64 0)<|?_
 subst ex104
 have U159:=u1 U121 hu158 (nr hg12)
 have hs:parseOf coilsForm 0 c b=finish ((asksR 2000 c (Cur.mk b false 0)).2) ((asksR 2000 c (Cur.mk b false 0)).1):=by
   unfold parseOf coilsForm 
   (try simp only [q122,bs,if_true,if_false,decide_true,decide_false,eq_self,true_or,or_true,or_false,false_or,if_true,if_false,i00,i01,i10,i11,reduceIte,k1,k2,k5,k15])
   all_goals rfl
 rw [hs]
 have U160:=u1 (Upd.mono (S':=[g27,g10]) hu115 (ac im all0)) hu158 im
 have r161:=ub U153 B13
 have r162:=MsgRd.upd hM100 U160 (safe_cons (CurAt.safe hc105 _ (by decide)) (safe_cons (safe1 r161 (by decide)) safe0))
 exact finish_ok q122p r162 U159
 have k1:(c == 1)=false:=by rw [hk]; rfl
 have k2:(c == 2)=true:=by rw [hk]; rfl
 have k5:(c == 5)=false:=by rw [hk]; rfl
 have k15:(c == 15)=false:=by rw [hk]; rfl
 refine L0<|Olk (hf:=(by subst hk; kernel_rfl)) B59 c (.agg #[.nilFunc,.nilFunc]) (some (1,.agg #[.func (.func 78) #[.agg #[.pointer (some ⟨g27,0,none⟩),.pointer (some ⟨g15,0,none⟩)]] #[],.func (.func 79) #[.agg #[.pointer (some ⟨g27,0,none⟩),.pointer (some ⟨g15,0,none⟩)]] #[]]))<|Pl 3<|L0<|Oal #[.nilFunc,.nilFunc] fun g163 w164 hg165 B166 hu167=>L0<|Osw B166 #[.func (.func 78) #[.agg #[.pointer (some ⟨g27,0,none⟩),.pointer (some ⟨g15,0,none⟩)]] #[],.func (.func 79) #[.agg #[.pointer (some ⟨g27,0,none⟩),.pointer (some ⟨g15,0,none⟩)]] #[]] fun w168 B169 hu170=>Pl 1<|nt<|sq<|sg<|Pl 2<|nt<|c0<|?_
 refine skn<|sg<|Pl 2<|L0<|Olb B169 0<|?_
 have U171:=u1 hu35 hu38 (nr hg33)
 have U172:=ut0 U171 hu43
 have U173:=u1 U172 hu47 (ni U171.size hg41)
 have U174:=u1 U173 hu52 (ni U171.size hg41)
 have U175:=u1 U174 hu56 (ni U171.size hg41)
 have U176:=u1 U175 hu60 (ni U171.size hg41)
 have U177:=ut0 U176 hu167
 have U178:=u1 U177 hu170 (ni U176.size hg165)
 have r179:=CurAt.old hc29 U178
 have U180:=ut0 hu30 hu35
 have U181:=u1 U180 hu38 (ni hu30.size hg33)
 have U182:=ut0 U181 hu43
 have U183:=u1 U182 hu47 (ni U181.size hg41)
 have U184:=u1 U183 hu52 (ni U181.size hg41)
 have U185:=u1 U184 hu56 (ni U181.size hg41)
 have U186:=u1 U185 hu60 (ni U181.size hg41)
 have U187:=ut0 U186 hu167
 have U188:=u1 U187 hu170 (ni U186.size hg165)
 have r189:=ub U188 B21
 have ne196:=nb (blk_lt B18) hu22.size hg28
 refine L0<|Ocv #[.agg #[.pointer (some ⟨g27,0,none⟩),.pointer (some ⟨g15,0,none⟩)]] #[] (args:=#[.agg #[.pointer (some ⟨g27,0,none⟩),.pointer (some ⟨g15,0,none⟩)]])<|m3 (asksRead_any (c:=c) ⟨hcode1,hcode2⟩ r179 r189 (Ne.symm ne196)) fun w190 hc191 hx200 hu195=>?_
 obtain ⟨cs192,hm193,hM194⟩:=hx200
 refine ab hc191 fun x197 ex198 hc199=>?_
 refine ng<|Pl 1<|?_
 have U201:=ut0 hu60 hu167
 have U202:=u1 U201 hu170 (ni hu60.size hg165)
 have U203:=ut (Upd.mono (S':=[g39,g27,g15]) U202 (ac im all0)) hu195 (ac im (ac im all0))
 have ne204:=nb (blk_lt B18) (le hu22.size hu30.size) hg33
 have ne205:=nb (CurAt.lt hc29) lr hg33
 have r206:=Upd.blk U203 (not_cons ne48 (not_cons (Ne.symm ne205) (not_cons (Ne.symm ne204) not0))) r57
 refine L0<|Olb r206 0<|L0<|Oc<|m2 (end_any hc199) fun w207 hc208 hu209=>nt<|sq<|sg<|Pl 1<|?_
 have r210:=ub1 hu209 (Ne.symm ne205) r206
 refine L0<|Olb r210 0<|L0<|Oc<|mq (err_any hc208)<|?_
 have hl211:=CurAt.len hc208
 refine Pl 1<|ng<|Pl 2<|nt<|?_
 have U212:=ut0 U68 hu167
 have U213:=u1 U212 hu170 (ni U68.size hg165)
 have U214:=ut U213 hu195 (ac (ni U24.size hg28) (ac (ni hu14.size hg17) all0))
 have U215:=u1 U214 hu209 (ni U24.size hg28)
 refine cb ((x197.endC.e != 0)) (fun q216=>?_) (fun q216=>?_)
 have q216p:=ne_of_bnei q216
 refine sg<|Pl 2<|?_
 have U217:=u1 hu19 hu22 (nr hg17)
 have U218:=ut0 U217 hu30
 have U219:=ut0 U218 hu35
 have U220:=u1 U219 hu38 (ni U218.size hg33)
 have U221:=ut0 U220 hu43
 have U222:=u1 U221 hu47 (ni U220.size hg41)
 have U223:=u1 U222 hu52 (ni U220.size hg41)
 have U224:=u1 U223 hu56 (ni U220.size hg41)
 have U225:=u1 U224 hu60 (ni U220.size hg41)
 have U226:=ut0 U225 hu167
 have U227:=u1 U226 hu170 (ni U225.size hg165)
 have U228:=ut U227 hu195 (ac (ni U217.size hg28) (ac (nr hg17) all0))
 have U229:=u1 U228 hu209 (ni U217.size hg28)
 have r230:=ub U229 B13
 refine L0<|Osw r230 mZ fun w231 B232 hu233=>Pl 1<|nt<|rt<|tr<|rct B232 (.int .i64 x197.endC.e)<|?_
 subst ex198
 have U234:=u1 U215 hu233 (nr hg12)
 have hs:parseOf coilsForm 0 c b=finish ((asksR 2000 c (Cur.mk b false 0)).2) ((asksR 2000 c (Cur.mk b false 0)).1):=by
   unfold parseOf coilsForm 
   (try simp only [q216,bs,if_true,if_false,decide_true,decide_false,eq_self,true_or,or_true,or_false,false_or,if_true,if_false,i00,i01,i10,i11,reduceIte,k1,k2,k5,k15])
   all_goals rfl
 rw [hs]
 exact finish_bad q216p U234
 have q216p:=eq_of_bnei q216
 refine skn<|sg<|?_
 have r235:=ub1 hu209 ne196 hm193.1
 refine L0<|Olw (hz:=(by rw [hm193.2]; exact msg_size)) r235<|?_
 have U236:=u1 hu19 hu22 (nr hg17)
 have U237:=ut0 U236 hu30
 have U238:=ut0 U237 hu35
 have U239:=u1 U238 hu38 (ni U237.size hg33)
 have U240:=ut0 U239 hu43
 have U241:=u1 U240 hu47 (ni U239.size hg41)
 have U242:=u1 U241 hu52 (ni U239.size hg41)
 have U243:=u1 U242 hu56 (ni U239.size hg41)
 have U244:=u1 U243 hu60 (ni U239.size hg41)
 have U245:=ut0 U244 hu167
 have U246:=u1 U245 hu170 (ni U244.size hg165)
 have U247:=ut U246 hu195 (ac (ni U236.size hg28) (ac (nr hg17) all0))
 have U248:=u1 U247 hu209 (ni U236.size hg28)
 have r249:=ub U248 B13
 refine L0<|Osw (hz:=(by rw [hm193.2]; exact msg_size)) (hv:=hM194.size) (h1:=hM194.one) r249 (cs192) fun w250 B251 hu252=>Pl 1<|nt<|rt<|rctx 22 hm193.2 B251 (.int .i64 0)<|?_
 subst ex198
 have U253:=u1 U215 hu252 (nr hg12)
 have hs:parseOf coilsForm 0 c b=finish ((asksR 2000 c (Cur.mk b false 0)).2) ((asksR 2000 c (Cur.mk b false 0)).1):=by
   unfold parseOf coilsForm 
   (try simp only [q216,bs,if_true,if_false,decide_true,decide_false,eq_self,true_or,or_true,or_false,false_or,if_true,if_false,i00,i01,i10,i11,reduceIte,k1,k2,k5,k15])
   all_goals rfl
 rw [hs]
 have U254:=u1 (Upd.mono (S':=[g27,g10]) hu209 (ac im all0)) hu252 im
 have r255:=ub U247 B13
 have r256:=MsgRd.upd hM194 U254 (safe_cons (CurAt.safe hc199 _ (by decide)) (safe_cons (safe1 r255 (by decide)) safe0))
 exact finish_ok q216p r256 U253
 have k1:(c == 1)=false:=by rw [hk]; rfl
 have k2:(c == 2)=false:=by rw [hk]; rfl
 have k5:(c == 5)=true:=by rw [hk]; rfl
 have k15:(c == 15)=false:=by rw [hk]; rfl
 refine L0<|Olk (hf:=(by subst hk; kernel_rfl)) B59 c (.agg #[.nilFunc,.nilFunc]) (some (2,.agg #[.func (.func 80) #[.agg #[.pointer (some ⟨g27,0,none⟩),.pointer (some ⟨g15,0,none⟩)]] #[],.func (.func 80) #[.agg #[.pointer (some ⟨g27,0,none⟩),.pointer (some ⟨g15,0,none⟩)]] #[]]))<|Pl 3<|L0<|Oal #[.nilFunc,.nilFunc] fun g257 w258 hg259 B260 hu261=>L0<|Osw B260 #[.func (.func 80) #[.agg #[.pointer (some ⟨g27,0,none⟩),.pointer (some ⟨g15,0,none⟩)]] #[],.func (.func 80) #[.agg #[.pointer (some ⟨g27,0,none⟩),.pointer (some ⟨g15,0,none⟩)]] #[]] fun w262 B263 hu264=>Pl 1<|nt<|sq<|sg<|Pl 2<|nt<|c0<|?_
 refine skn<|sg<|Pl 2<|L0<|Olb B263 0<|?_
 have U265:=u1 hu35 hu38 (nr hg33)
 have U266:=ut0 U265 hu43
 have U267:=u1 U266 hu47 (ni U265.size hg41)
 have U268:=u1 U267 hu52 (ni U265.size hg41)
 have U269:=u1 U268 hu56 (ni U265.size hg41)
 have U270:=u1 U269 hu60 (ni U265.size hg41)
 have U271:=ut0 U270 hu261
 have U272:=u1 U271 hu264 (ni U270.size hg259)
 have r273:=CurAt.old hc29 U272
 have U274:=ut0 hu30 hu35
 have U275:=u1 U274 hu38 (ni hu30.size hg33)
 have U276:=ut0 U275 hu43
 have U277:=u1 U276 hu47 (ni U275.size hg41)
 have U278:=u1 U277 hu52 (ni U275.size hg41)
 have U279:=u1 U278 hu56 (ni U275.size hg41)
 have U280:=u1 U279 hu60 (ni U275.size hg41)
 have U281:=ut0 U280 hu261
 have U282:=u1 U281 hu264 (ni U280.size hg259)
 have r283:=ub U282 B21
 have ne290:=nb (blk_lt B18) hu22.size hg28
 refine L0<|Ocv #[.agg #[.pointer (some ⟨g27,0,none⟩),.pointer (some ⟨g15,0,none⟩)]] #[] (args:=#[.agg #[.pointer (some ⟨g27,0,none⟩),.pointer (some ⟨g15,0,none⟩)]])<|m3 (csets_any (c:=c) ⟨hcode1,hcode2⟩ r273 r283 (Ne.symm ne290)) fun w284 hc285 hx294 hu289=>?_
 obtain ⟨cs286,hm287,hM288⟩:=hx294
 refine ab hc285 fun x291 ex292 hc293=>?_
 refine ng<|Pl 1<|?_
 have U295:=ut0 hu60 hu261
 have U296:=u1 U295 hu264 (ni hu60.size hg259)
 have U297:=ut (Upd.mono (S':=[g39,g27,g15]) U296 (ac im all0)) hu289 (ac im (ac im all0))
 have ne298:=nb (blk_lt B18) (le hu22.size hu30.size) hg33
 have ne299:=nb (CurAt.lt hc29) lr hg33
 have r300:=Upd.blk U297 (not_cons ne48 (not_cons (Ne.symm ne299) (not_cons (Ne.symm ne298) not0))) r57
 refine L0<|Olb r300 0<|L0<|Oc<|m2 (end_any hc293) fun w301 hc302 hu303=>nt<|sq<|sg<|Pl 1<|?_
 have r304:=ub1 hu303 (Ne.symm ne299) r300
 refine L0<|Olb r304 0<|L0<|Oc<|mq (err_any hc302)<|?_
 have hl305:=CurAt.len hc302
 refine Pl 1<|ng<|Pl 2<|nt<|?_
 have U306:=ut0 U68 hu261
 have U307:=u1 U306 hu264 (ni U68.size hg259)
 have U308:=ut U307 hu289 (ac (ni U24.size hg28) (ac (ni hu14.size hg17) all0))
 have U309:=u1 U308 hu303 (ni U24.size hg28)
 refine cb ((x291.endC.e != 0)) (fun q310=>?_) (fun q310=>?_)
 have q310p:=ne_of_bnei q310
 refine sg<|Pl 2<|?_
 have U311:=u1 hu19 hu22 (nr hg17)
 have U312:=ut0 U311 hu30
 have U313:=ut0 U312 hu35
 have U314:=u1 U313 hu38 (ni U312.size hg33)
 have U315:=ut0 U314 hu43
 have U316:=u1 U315 hu47 (ni U314.size hg41)
 have U317:=u1 U316 hu52 (ni U314.size hg41)
 have U318:=u1 U317 hu56 (ni U314.size hg41)
 have U319:=u1 U318 hu60 (ni U314.size hg41)
 have U320:=ut0 U319 hu261
 have U321:=u1 U320 hu264 (ni U319.size hg259)
 have U322:=ut U321 hu289 (ac (ni U311.size hg28) (ac (nr hg17) all0))
 have U323:=u1 U322 hu303 (ni U311.size hg28)
 have r324:=ub U323 B13
 refine L0<|Osw r324 mZ fun w325 B326 hu327=>Pl 1<|nt<|rt<|tr<|rct B326 (.int .i64 x291.endC.e)<|?_
 subst ex292
 have U328:=u1 U309 hu327 (nr hg12)
 have hs:parseOf coilsForm 0 c b=finish ((csetsR c (Cur.mk b false 0)).2) ((csetsR c (Cur.mk b false 0)).1):=by
   unfold parseOf coilsForm 
   (try simp only [q310,bs,if_true,if_false,decide_true,decide_false,eq_self,true_or,or_true,or_false,false_or,if_true,if_false,i00,i01,i10,i11,reduceIte,k1,k2,k5,k15])
   all_goals rfl
 rw [hs]
 exact finish_bad q310p U328
 have q310p:=eq_of_bnei q310
 refine skn<|sg<|?_
 have r329:=ub1 hu303 ne290 hm287.1
 refine L0<|Olw (hz:=(by rw [hm287.2]; exact msg_size)) r329<|?_
 have U330:=u1 hu19 hu22 (nr hg17)
 have U331:=ut0 U330 hu30
 have U332:=ut0 U331 hu35
 have U333:=u1 U332 hu38 (ni U331.size hg33)
 have U334:=ut0 U333 hu43
 have U335:=u1 U334 hu47 (ni U333.size hg41)
 have U336:=u1 U335 hu52 (ni U333.size hg41)
 have U337:=u1 U336 hu56 (ni U333.size hg41)
 have U338:=u1 U337 hu60 (ni U333.size hg41)
 have U339:=ut0 U338 hu261
 have U340:=u1 U339 hu264 (ni U338.size hg259)
 have U341:=ut U340 hu289 (ac (ni U330.size hg28) (ac (nr hg17) all0))
 have U342:=u1 U341 hu303 (ni U330.size hg28)
 have r343:=ub U342 B13
 refine L0<|Osw (hz:=(by rw [hm287.2]; exact msg_size)) (hv:=hM288.size) (h1:=hM288.one) r343 (cs286) fun w344 B345 hu346=>Pl 1<|nt<|rt<|rctx 22 hm287.2 B345 (.int .i64 0)<|?_
 subst ex292
 have U347:=u1 U309 hu346 (nr hg12)
 have hs:parseOf coilsForm 0 c b=finish ((csetsR c (Cur.mk b false 0)).2) ((csetsR c (Cur.mk b false 0)).1):=by
   unfold parseOf coilsForm 
   (try simp only [q310,bs,if_true,if_false,decide_true,decide_false,eq_self,true_or,or_true,or_false,false_or,if_true,if_false,i00,i01,i10,i11,reduceIte,k1,k2,k5,k15])
   all_goals rfl
 rw [hs]
 have U348:=u1 (Upd.mono (S':=[g27,g10]) hu303 (ac im all0)) hu346 im
 have r349:=ub U341 B13
 have r350:=MsgRd.upd hM288 U348 (safe_cons (CurAt.safe hc293 _ (by decide)) (safe_cons (safe1 r349 (by decide)) safe0))
 exact finish_ok q310p r350 U347
 have k1:(c == 1)=false:=by rw [hk]; rfl
 have k2:(c == 2)=false:=by rw [hk]; rfl
 have k5:(c == 5)=false:=by rw [hk]; rfl
 have k15:(c == 15)=true:=by rw [hk]; rfl
 refine L0<|Olk (hf:=(by subst hk; kernel_rfl)) B59 c (.agg #[.nilFunc,.nilFunc]) (some (3,.agg #[.func (.func 81) #[.agg #[.pointer (some ⟨g27,0,none⟩),.pointer (some ⟨g15,0,none⟩)]] #[],.func (.func 82) #[.agg #[.pointer (some ⟨g27,0,none⟩),.pointer (some ⟨g15,0,none⟩)]] #[]]))<|Pl 3<|L0<|Oal #[.nilFunc,.nilFunc] fun g351 w352 hg353 B354 hu355=>L0<|Osw B354 #[.func (.func 81) #[.agg #[.pointer (some ⟨g27,0,none⟩),.pointer (some ⟨g15,0,none⟩)]] #[],.func (.func 82) #[.agg #[.pointer (some ⟨g27,0,none⟩),.pointer (some ⟨g15,0,none⟩)]] #[]] fun w356 B357 hu358=>Pl 1<|nt<|sq<|sg<|Pl 2<|nt<|c0<|?_
 refine skn<|sg<|Pl 2<|L0<|Olb B357 0<|?_
 have U359:=u1 hu35 hu38 (nr hg33)
 have U360:=ut0 U359 hu43
 have U361:=u1 U360 hu47 (ni U359.size hg41)
 have U362:=u1 U361 hu52 (ni U359.size hg41)
 have U363:=u1 U362 hu56 (ni U359.size hg41)
 have U364:=u1 U363 hu60 (ni U359.size hg41)
 have U365:=ut0 U364 hu355
 have U366:=u1 U365 hu358 (ni U364.size hg353)
 have r367:=CurAt.old hc29 U366
 have U368:=ut0 hu30 hu35
 have U369:=u1 U368 hu38 (ni hu30.size hg33)
 have U370:=ut0 U369 hu43
 have U371:=u1 U370 hu47 (ni U369.size hg41)
 have U372:=u1 U371 hu52 (ni U369.size hg41)
 have U373:=u1 U372 hu56 (ni U369.size hg41)
 have U374:=u1 U373 hu60 (ni U369.size hg41)
 have U375:=ut0 U374 hu355
 have U376:=u1 U375 hu358 (ni U374.size hg353)
 have r377:=ub U376 B21
 have ne384:=nb (blk_lt B18) hu22.size hg28
 refine L0<|Ocv #[.agg #[.pointer (some ⟨g27,0,none⟩),.pointer (some ⟨g15,0,none⟩)]] #[] (args:=#[.agg #[.pointer (some ⟨g27,0,none⟩),.pointer (some ⟨g15,0,none⟩)]])<|m3 (csm_any (c:=c) ⟨hcode1,hcode2⟩ r367 r377 (Ne.symm ne384)) fun w378 hc379 hx385 hu383=>?_
 obtain ⟨cs380,hm381,hM382⟩:=hx385
 refine ng<|Pl 1<|?_
 have U386:=ut0 hu60 hu355
 have U387:=u1 U386 hu358 (ni hu60.size hg353)
 have U388:=ut (Upd.mono (S':=[g39,g27,g15]) U387 (ac im all0)) hu383 (ac im (ac im all0))
 have ne389:=nb (blk_lt B18) (le hu22.size hu30.size) hg33
 have ne390:=nb (CurAt.lt hc29) lr hg33
 have r391:=Upd.blk U388 (not_cons ne48 (not_cons (Ne.symm ne390) (not_cons (Ne.symm ne389) not0))) r57
 refine L0<|Olb r391 0<|L0<|Oc<|m2 (end_any hc379) fun w392 hc393 hu394=>?_
 refine ab hc393 fun x395 ex396 hc397=>?_
 refine nt<|sq<|sg<|Pl 1<|?_
 have r398:=ub1 hu394 (Ne.symm ne390) r391
 refine L0<|Olb r398 0<|L0<|Oc<|mq (err_any hc397)<|?_
 have hl399:=CurAt.len hc397
 refine Pl 1<|ng<|Pl 2<|nt<|?_
 have U400:=ut0 U68 hu355
 have U401:=u1 U400 hu358 (ni U68.size hg353)
 have U402:=ut U401 hu383 (ac (ni U24.size hg28) (ac (ni hu14.size hg17) all0))
 have U403:=u1 U402 hu394 (ni U24.size hg28)
 refine cb ((x395.e != 0)) (fun q404=>?_) (fun q404=>?_)
 have q404p:=ne_of_bnei q404
 refine sg<|Pl 2<|?_
 have U405:=u1 hu19 hu22 (nr hg17)
 have U406:=ut0 U405 hu30
 have U407:=ut0 U406 hu35
 have U408:=u1 U407 hu38 (ni U406.size hg33)
 have U409:=ut0 U408 hu43
 have U410:=u1 U409 hu47 (ni U408.size hg41)
 have U411:=u1 U410 hu52 (ni U408.size hg41)
 have U412:=u1 U411 hu56 (ni U408.size hg41)
 have U413:=u1 U412 hu60 (ni U408.size hg41)
 have U414:=ut0 U413 hu355
 have U415:=u1 U414 hu358 (ni U413.size hg353)
 have U416:=ut U415 hu383 (ac (ni U405.size hg28) (ac (nr hg17) all0))
 have U417:=u1 U416 hu394 (ni U405.size hg28)
 have r418:=ub U417 B13
 refine L0<|Osw r418 mZ fun w419 B420 hu421=>Pl 1<|nt<|rt<|tr<|rct B420 (.int .i64 x395.e)<|?_
 subst ex396
 have U422:=u1 U403 hu421 (nr hg12)
 have hs:parseOf coilsForm 0 c b=finish ((csmR c (Cur.mk b false 0)).2) ((csmR c (Cur.mk b false 0)).1):=by
   unfold parseOf coilsForm 
   (try simp only [q404,bs,if_true,if_false,decide_true,decide_false,eq_self,true_or,or_true,or_false,false_or,if_true,if_false,i00,i01,i10,i11,reduceIte,k1,k2,k5,k15])
   all_goals rfl
 rw [hs]
 exact finish_bad q404p U422
 have q404p:=eq_of_bnei q404
 refine skn<|sg<|?_
 have r423:=ub1 hu394 ne384 hm381.1
 refine L0<|Olw (hz:=(by rw [hm381.2]; exact msg_size)) r423<|?_
 have U424:=u1 hu19 hu22 (nr hg17)
 have U425:=ut0 U424 hu30
 have U426:=ut0 U425 hu35
 have U427:=u1 U426 hu38 (ni U425.size hg33)
 have U428:=ut0 U427 hu43
 have U429:=u1 U428 hu47 (ni U427.size hg41)
 have U430:=u1 U429 hu52 (ni U427.size hg41)
 have U431:=u1 U430 hu56 (ni U427.size hg41)
 have U432:=u1 U431 hu60 (ni U427.size hg41)
 have U433:=ut0 U432 hu355
 have U434:=u1 U433 hu358 (ni U432.size hg353)
 have U435:=ut U434 hu383 (ac (ni U424.size hg28) (ac (nr hg17) all0))
 have U436:=u1 U435 hu394 (ni U424.size hg28)
 have r437:=ub U436 B13
 refine L0<|Osw (hz:=(by rw [hm381.2]; exact msg_size)) (hv:=hM382.size) (h1:=hM382.one) r437 (cs380) fun w438 B439 hu440=>Pl 1<|nt<|rt<|rctx 22 hm381.2 B439 (.int .i64 0)<|?_
 subst ex396
 have U441:=u1 U403 hu440 (nr hg12)
 have hs:parseOf coilsForm 0 c b=finish ((csmR c (Cur.mk b false 0)).2) ((csmR c (Cur.mk b false 0)).1):=by
   unfold parseOf coilsForm 
   (try simp only [q404,bs,if_true,if_false,decide_true,decide_false,eq_self,true_or,or_true,or_false,false_or,if_true,if_false,i00,i01,i10,i11,reduceIte,k1,k2,k5,k15])
   all_goals rfl
 rw [hs]
 have U442:=u1 (Upd.mono (S':=[g27,g10]) hu394 (ac im all0)) hu440 im
 have r443:=ub U435 B13
 have r444:=MsgRd.upd hM382 U442 (safe_cons (CurAt.safe hc379 _ (by decide)) (safe_cons (safe1 r443 (by decide)) safe0))
 exact finish_ok q404p r444 U441
 have k1:(c == 1)=false:=by simpa using hk.1
 have k2:(c == 2)=false:=by simpa using hk.2.1
 have k5:(c == 5)=false:=by simpa using hk.2.2.1
 have k15:(c == 15)=false:=by simpa using hk.2.2.2
 refine L0<|Olk (hf:=(fno (q:=.u8) (x:=c) #[⟨.int .u8 1,.agg #[.func (.func 78) #[.agg #[.pointer (some ⟨g27,0,none⟩),.pointer (some ⟨g15,0,none⟩)]] #[],.func (.func 79) #[.agg #[.pointer (some ⟨g27,0,none⟩),.pointer (some ⟨g15,0,none⟩)]] #[]],0⟩,⟨.int .u8 2,.agg #[.func (.func 78) #[.agg #[.pointer (some ⟨g27,0,none⟩),.pointer (some ⟨g15,0,none⟩)]] #[],.func (.func 79) #[.agg #[.pointer (some ⟨g27,0,none⟩),.pointer (some ⟨g15,0,none⟩)]] #[]],1⟩,⟨.int .u8 5,.agg #[.func (.func 80) #[.agg #[.pointer (some ⟨g27,0,none⟩),.pointer (some ⟨g15,0,none⟩)]] #[],.func (.func 80) #[.agg #[.pointer (some ⟨g27,0,none⟩),.pointer (some ⟨g15,0,none⟩)]] #[]],2⟩,⟨.int .u8 15,.agg #[.func (.func 81) #[.agg #[.pointer (some ⟨g27,0,none⟩),.pointer (some ⟨g15,0,none⟩)]] #[],.func (.func 82) #[.agg #[.pointer (some ⟨g27,0,none⟩),.pointer (some ⟨g15,0,none⟩)]] #[]],3⟩] (findNow_no _ _ (by intro e he; simp only [List.mem_cons,List.not_mem_nil,or_false] at he; obtain ⟨z1,z2,z5,z15⟩:=hk; rcases he with rfl | rfl | rfl | rfl <;> exact ⟨_,rfl,fun h=>by simp_all⟩)))) B59 c (.agg #[.nilFunc,.nilFunc]) none<|Pl 3<|L0<|Oal #[.nilFunc,.nilFunc] fun g445 w446 hg447 B448 hu449=>L0<|Osw B448 #[.nilFunc,.nilFunc] fun w450 B451 hu452=>Pl 1<|nt<|sq<|sg<|Pl 2<|nt<|c1<|?_
 refine sg<|Pl 1<|?_
 have U453:=u1 hu19 hu22 (nr hg17)
 have U454:=ut0 U453 hu30
 have U455:=ut0 U454 hu35
 have U456:=u1 U455 hu38 (ni U454.size hg33)
 have U457:=ut0 U456 hu43
 have U458:=u1 U457 hu47 (ni U456.size hg41)
 have U459:=u1 U458 hu52 (ni U456.size hg41)
 have U460:=u1 U459 hu56 (ni U456.size hg41)
 have U461:=u1 U460 hu60 (ni U456.size hg41)
 have U462:=ut0 U461 hu449
 have U463:=u1 U462 hu452 (ni U461.size hg447)
 have r464:=ub U463 B13
 refine L0<|Osw r464 mZ fun w465 B466 hu467=>Pl 1<|nt<|rt<|tr<|rct B466 (.int .i64 4)<|?_
 have U468:=ut0 U68 hu449
 have U469:=u1 U468 hu452 (ni U68.size hg447)
 have U470:=u1 U469 hu467 (nr hg12)
 have hs:parseOf coilsForm 0 c b=(Msg.zero,4):=by
   unfold parseOf coilsForm 
   (try simp only [bs,if_true,if_false,decide_true,decide_false,eq_self,true_or,or_true,or_false,false_or,if_true,if_false,i00,i01,i10,i11,reduceIte,k1,k2,k5,k15])
   all_goals rfl
 rw [hs]
 exact bad_res U470
set_option maxRecDepth 100000 in
set_option maxHeartbeats 4000000 in
theorem coils_parse_1 {m:Bool} {A:Option Addr} {cp:Nat} {b:List Int} {w:World} {c:Int} (hcode:B8 c) (hsl:RdB m w (.slice A b.length cp) b) (hb:b.length≤1048576) :
    Calls Tryz.prog 58 #[.int .i64 1,.int .u8 c,.slice A b.length cp] w (PMsg (parseOf coilsForm 1 c b) w):=by
 obtain ⟨hcode1,hcode2⟩:=hcode
 have hln:(b.length:Int)≤1048576:=by omega
 refine en 72 Tryz.func58 rfl<|sg<|L0<|Oal mZ fun g10 w11 hg12 B13 hu14=>Pl 1<|nt<|sq<|sg<|Pl 6<|nt<|c0<|?_
 refine skn<|sg<|Pl 2<|L0<|Oal mZ fun g15 w16 hg17 B18 hu19=>L0<|Osw B18 (mC c) fun w20 B21 hu22=>ng<|Pl 1<|?_
 have U23:=ut0 hu14 hu19
 have U24:=u1 U23 hu22 (ni hu14.size hg17)
 have r25:=RdB.old hsl U24
 refine L0<|Oc<|e3 (new_any r25 (by omega)) fun g27 w26 hg28 hc29 hu30=>Pl 1<|L0<|Oal #[.pointer none,.pointer none] fun g31 w32 hg33 B34 hu35=>L0<|Osw B34 #[.pointer (some ⟨g27,0,none⟩),.pointer (some ⟨g15,0,none⟩)] fun w36 B37 hu38=>ng<|L0<|Omk fun g39 w40 hg41 B42 hu43=>?_
 have r44:=ub hu43 B37
 refine L0<|Olw r44<|Pl 1<|L0<|Olw r44<|Pl 2<|L0<|Oin B42 1 fun w45 B46 hu47=>?_
 have ne48:=nb (blk_lt B34) hu38.size hg41
 have r49:=ub1 hu47 ne48 r44
 refine L0<|Olw r49<|Pl 1<|L0<|Olw r49<|Pl 2<|L0<|Oin B46 2 fun w50 B51 hu52=>?_
 have r53:=ub1 hu52 ne48 r49
 refine L0<|Olw r53<|Pl 1<|L0<|Olw r53<|Pl 2<|L0<|Oin B51 5 fun w54 B55 hu56=>?_
 have r57:=ub1 hu56 ne48 r53
 refine L0<|Olw r57<|Pl 1<|L0<|Olw r57<|Pl 2<|L0<|Oin B55 15 fun w58 B59 hu60=>Pl 2<|ng<|Pl 2<|?_
 have U61:=ut0 U24 hu30
 have U62:=ut0 U61 hu35
 have U63:=u1 U62 hu38 (ni U61.size hg33)
 have U64:=ut0 U63 hu43
 have U65:=u1 U64 hu47 (ni U63.size hg41)
 have U66:=u1 U65 hu52 (ni U63.size hg41)
 have U67:=u1 U66 hu56 (ni U63.size hg41)
 have U68:=u1 U67 hu60 (ni U63.size hg41)
 rcases cdich c with hk | hk | hk | hk | hk
 have k1:(c == 1)=true:=by rw [hk]; rfl
 have k2:(c == 2)=false:=by rw [hk]; rfl
 have k5:(c == 5)=false:=by rw [hk]; rfl
 have k15:(c == 15)=false:=by rw [hk]; rfl
 refine L0<|Olk (hf:=(by subst hk; kernel_rfl)) B59 c (.agg #[.nilFunc,.nilFunc]) (some (0,.agg #[.func (.func 78) #[.agg #[.pointer (some ⟨g27,0,none⟩),.pointer (some ⟨g15,0,none⟩)]] #[],.func (.func 79) #[.agg #[.pointer (some ⟨g27,0,none⟩),.pointer (some ⟨g15,0,none⟩)]] #[]]))<|Pl 3<|L0<|Oal #[.nilFunc,.nilFunc] fun g69 w70 hg71 B72 hu73=>L0<|Osw B72 #[.func (.func 78) #[.agg #[.pointer (some ⟨g27,0,none⟩),.pointer (some ⟨g15,0,none⟩)]] #[],.func (.func 79) #[.agg #[.pointer (some ⟨g27,0,none⟩),.pointer (some ⟨g15,0,none⟩)]] #[]] fun w74 B75 hu76=>Pl 1<|nt<|sq<|sg<|Pl 2<|nt<|c0<|?_
 refine skn<|sg<|Pl 2<|L0<|Olb B75 1<|?_
 have U77:=u1 hu35 hu38 (nr hg33)
 have U78:=ut0 U77 hu43
 have U79:=u1 U78 hu47 (ni U77.size hg41)
 have U80:=u1 U79 hu52 (ni U77.size hg41)
 have U81:=u1 U80 hu56 (ni U77.size hg41)
 have U82:=u1 U81 hu60 (ni U77.size hg41)
 have U83:=ut0 U82 hu73
 have U84:=u1 U83 hu76 (ni U82.size hg71)
 have r85:=CurAt.old hc29 U84
 have U86:=ut0 hu30 hu35
 have U87:=u1 U86 hu38 (ni hu30.size hg33)
 have U88:=ut0 U87 hu43
 have U89:=u1 U88 hu47 (ni U87.size hg41)
 have U90:=u1 U89 hu52 (ni U87.size hg41)
 have U91:=u1 U90 hu56 (ni U87.size hg41)
 have U92:=u1 U91 hu60 (ni U87.size hg41)
 have U93:=ut0 U92 hu73
 have U94:=u1 U93 hu76 (ni U92.size hg71)
 have r95:=ub U94 B21
 have ne102:=nb (blk_lt B18) hu22.size hg28
 refine L0<|Ocv #[.agg #[.pointer (some ⟨g27,0,none⟩),.pointer (some ⟨g15,0,none⟩)]] #[] (args:=#[.agg #[.pointer (some ⟨g27,0,none⟩),.pointer (some ⟨g15,0,none⟩)]])<|m3 (ctold_any (c:=c) ⟨hcode1,hcode2⟩ r85 r95 (Ne.symm ne102)) fun w96 hc97 hx106 hu101=>?_
 obtain ⟨cs98,hm99,hM100⟩:=hx106
 refine ab hc97 fun x103 ex104 hc105=>?_
 refine ng<|Pl 1<|?_
 have U107:=ut0 hu60 hu73
 have U108:=u1 U107 hu76 (ni hu60.size hg71)
 have U109:=ut (Upd.mono (S':=[g39,g27,g15]) U108 (ac im all0)) hu101 (ac im (ac im all0))
 have ne110:=nb (blk_lt B18) (le hu22.size hu30.size) hg33
 have ne111:=nb (CurAt.lt hc29) lr hg33
 have r112:=Upd.blk U109 (not_cons ne48 (not_cons (Ne.symm ne111) (not_cons (Ne.symm ne110) not0))) r57
 refine L0<|Olb r112 0<|L0<|Oc<|m2 (end_any hc105) fun w113 hc114 hu115=>nt<|sq<|sg<|Pl 1<|?_
 have r116:=ub1 hu115 (Ne.symm ne111) r112
 refine L0<|Olb r116 0<|L0<|Oc<|mq (err_any hc114)<|?_
 have hl117:=CurAt.len hc114
 refine Pl 1<|ng<|Pl 2<|nt<|?_
 have U118:=ut0 U68 hu73
 have U119:=u1 U118 hu76 (ni U68.size hg71)
 have U120:=ut U119 hu101 (ac (ni U24.size hg28) (ac (ni hu14.size hg17) all0))
 have U121:=u1 U120 hu115 (ni U24.size hg28)
 refine cb ((x103.endC.e != 0)) (fun q122=>?_) (fun q122=>?_)
 have q122p:=ne_of_bnei q122
 refine sg<|Pl 2<|?_
 have U123:=u1 hu19 hu22 (nr hg17)
 have U124:=ut0 U123 hu30
 have U125:=ut0 U124 hu35
 have U126:=u1 U125 hu38 (ni U124.size hg33)
 have U127:=ut0 U126 hu43
 have U128:=u1 U127 hu47 (ni U126.size hg41)
 have U129:=u1 U128 hu52 (ni U126.size hg41)
 have U130:=u1 U129 hu56 (ni U126.size hg41)
 have U131:=u1 U130 hu60 (ni U126.size hg41)
 have U132:=ut0 U131 hu73
 have U133:=u1 U132 hu76 (ni U131.size hg71)
 have U134:=ut U133 hu101 (ac (ni U123.size hg28) (ac (nr hg17) all0))
 have U135:=u1 U134 hu115 (ni U123.size hg28)
 have r136:=ub U135 B13
 refine L0<|Osw r136 mZ fun w137 B138 hu139=>Pl 1<|nt<|rt<|tr<|rct B138 (.int .i64 x103.endC.e)<|?_
 subst ex104
 have U140:=u1 U121 hu139 (nr hg12)
 have hs:parseOf coilsForm 1 c b=finish ((ctoldR c (Cur.mk b false 0)).2) ((ctoldR c (Cur.mk b false 0)).1):=by
   unfold parseOf coilsForm 
   (try simp only [q122,bs,if_true,if_false,decide_true,decide_false,eq_self,true_or,or_true,or_false,false_or,if_true,if_false,i00,i01,i10,i11,reduceIte,k1,k2,k5,k15])
   all_goals rfl
 rw [hs]
 exact finish_bad q122p U140
 have q122p:=eq_of_bnei q122
 refine skn<|sg<|?_
 have r141:=ub1 hu115 ne102 hm99.1
 refine L0<|Olw (hz:=(by rw [hm99.2]; exact msg_size)) r141<|?_
 have U142:=u1 hu19 hu22 (nr hg17)
 have U143:=ut0 U142 hu30
 have U144:=ut0 U143 hu35
 have U145:=u1 U144 hu38 (ni U143.size hg33)
 have U146:=ut0 U145 hu43
 have U147:=u1 U146 hu47 (ni U145.size hg41)
 have U148:=u1 U147 hu52 (ni U145.size hg41)
 have U149:=u1 U148 hu56 (ni U145.size hg41)
 have U150:=u1 U149 hu60 (ni U145.size hg41)
 have U151:=ut0 U150 hu73
 have U152:=u1 U151 hu76 (ni U150.size hg71)
 have U153:=ut U152 hu101 (ac (ni U142.size hg28) (ac (nr hg17) all0))
 have U154:=u1 U153 hu115 (ni U142.size hg28)
 have r155:=ub U154 B13
 refine L0<|Osw (hz:=(by rw [hm99.2]; exact msg_size)) (hv:=hM100.size) (h1:=hM100.one) r155 (cs98) fun w156 B157 hu158=>Pl 1<|nt<|rt<|rctx 22 hm99.2 B157 (.int .i64 0)<|?_
 subst ex104
 have U159:=u1 U121 hu158 (nr hg12)
 have hs:parseOf coilsForm 1 c b=finish ((ctoldR c (Cur.mk b false 0)).2) ((ctoldR c (Cur.mk b false 0)).1):=by
   unfold parseOf coilsForm 
   (try simp only [q122,bs,if_true,if_false,decide_true,decide_false,eq_self,true_or,or_true,or_false,false_or,if_true,if_false,i00,i01,i10,i11,reduceIte,k1,k2,k5,k15])
   all_goals rfl
 rw [hs]
 have U160:=u1 (Upd.mono (S':=[g27,g10]) hu115 (ac im all0)) hu158 im
 have r161:=ub U153 B13
 have r162:=MsgRd.upd hM100 U160 (safe_cons (CurAt.safe hc105 _ (by decide)) (safe_cons (safe1 r161 (by decide)) safe0))
 exact finish_ok q122p r162 U159
 have k1:(c == 1)=false:=by rw [hk]; rfl
 have k2:(c == 2)=true:=by rw [hk]; rfl
 have k5:(c == 5)=false:=by rw [hk]; rfl
 have k15:(c == 15)=false:=by rw [hk]; rfl
 refine L0<|Olk (hf:=(by subst hk; kernel_rfl)) B59 c (.agg #[.nilFunc,.nilFunc]) (some (1,.agg #[.func (.func 78) #[.agg #[.pointer (some ⟨g27,0,none⟩),.pointer (some ⟨g15,0,none⟩)]] #[],.func (.func 79) #[.agg #[.pointer (some ⟨g27,0,none⟩),.pointer (some ⟨g15,0,none⟩)]] #[]]))<|Pl 3<|L0<|Oal #[.nilFunc,.nilFunc] fun g163 w164 hg165 B166 hu167=>L0<|Osw B166 #[.func (.func 78) #[.agg #[.pointer (some ⟨g27,0,none⟩),.pointer (some ⟨g15,0,none⟩)]] #[],.func (.func 79) #[.agg #[.pointer (some ⟨g27,0,none⟩),.pointer (some ⟨g15,0,none⟩)]] #[]] fun w168 B169 hu170=>Pl 1<|nt<|sq<|sg<|Pl 2<|nt<|c0<|?_
 refine skn<|sg<|Pl 2<|L0<|Olb B169 1<|?_
 have U171:=u1 hu35 hu38 (nr hg33)
 have U172:=ut0 U171 hu43
 have U173:=u1 U172 hu47 (ni U171.size hg41)
 have U174:=u1 U173 hu52 (ni U171.size hg41)
 have U175:=u1 U174 hu56 (ni U171.size hg41)
 have U176:=u1 U175 hu60 (ni U171.size hg41)
 have U177:=ut0 U176 hu167
 have U178:=u1 U177 hu170 (ni U176.size hg165)
 have r179:=CurAt.old hc29 U178
 have U180:=ut0 hu30 hu35
 have U181:=u1 U180 hu38 (ni hu30.size hg33)
 have U182:=ut0 U181 hu43
 have U183:=u1 U182 hu47 (ni U181.size hg41)
 have U184:=u1 U183 hu52 (ni U181.size hg41)
 have U185:=u1 U184 hu56 (ni U181.size hg41)
 have U186:=u1 U185 hu60 (ni U181.size hg41)
 have U187:=ut0 U186 hu167
 have U188:=u1 U187 hu170 (ni U186.size hg165)
 have r189:=ub U188 B21
 have ne196:=nb (blk_lt B18) hu22.size hg28
 refine L0<|Ocv #[.agg #[.pointer (some ⟨g27,0,none⟩),.pointer (some ⟨g15,0,none⟩)]] #[] (args:=#[.agg #[.pointer (some ⟨g27,0,none⟩),.pointer (some ⟨g15,0,none⟩)]])<|m3 (ctold_any (c:=c) ⟨hcode1,hcode2⟩ r179 r189 (Ne.symm ne196)) fun w190 hc191 hx200 hu195=>?_
 obtain ⟨cs192,hm193,hM194⟩:=hx200
 refine ab hc191 fun x197 ex198 hc199=>?_
 refine ng<|Pl 1<|?_
 have U201:=ut0 hu60 hu167
 have U202:=u1 U201 hu170 (ni hu60.size hg165)
 have U203:=ut (Upd.mono (S':=[g39,g27,g15]) U202 (ac im all0)) hu195 (ac im (ac im all0))
 have ne204:=nb (blk_lt B18) (le hu22.size hu30.size) hg33
 have ne205:=nb (CurAt.lt hc29) lr hg33
 have r206:=Upd.blk U203 (not_cons ne48 (not_cons (Ne.symm ne205) (not_cons (Ne.symm ne204) not0))) r57
 refine L0<|Olb r206 0<|L0<|Oc<|m2 (end_any hc199) fun w207 hc208 hu209=>nt<|sq<|sg<|Pl 1<|?_
 have r210:=ub1 hu209 (Ne.symm ne205) r206
 refine L0<|Olb r210 0<|L0<|Oc<|mq (err_any hc208)<|?_
 have hl211:=CurAt.len hc208
 refine Pl 1<|ng<|Pl 2<|nt<|?_
 have U212:=ut0 U68 hu167
 have U213:=u1 U212 hu170 (ni U68.size hg165)
 have U214:=ut U213 hu195 (ac (ni U24.size hg28) (ac (ni hu14.size hg17) all0))
 have U215:=u1 U214 hu209 (ni U24.size hg28)
 refine cb ((x197.endC.e != 0)) (fun q216=>?_) (fun q216=>?_)
 have q216p:=ne_of_bnei q216
 refine sg<|Pl 2<|?_
 have U217:=u1 hu19 hu22 (nr hg17)
 have U218:=ut0 U217 hu30
 have U219:=ut0 U218 hu35
 have U220:=u1 U219 hu38 (ni U218.size hg33)
 have U221:=ut0 U220 hu43
 have U222:=u1 U221 hu47 (ni U220.size hg41)
 have U223:=u1 U222 hu52 (ni U220.size hg41)
 have U224:=u1 U223 hu56 (ni U220.size hg41)
 have U225:=u1 U224 hu60 (ni U220.size hg41)
 have U226:=ut0 U225 hu167
 have U227:=u1 U226 hu170 (ni U225.size hg165)
 have U228:=ut U227 hu195 (ac (ni U217.size hg28) (ac (nr hg17) all0))
 have U229:=u1 U228 hu209 (ni U217.size hg28)
 have r230:=ub U229 B13
 refine L0<|Osw r230 mZ fun w231 B232 hu233=>Pl 1<|nt<|rt<|tr<|rct B232 (.int .i64 x197.endC.e)<|?_
 subst ex198
 have U234:=u1 U215 hu233 (nr hg12)
 have hs:parseOf coilsForm 1 c b=finish ((ctoldR c (Cur.mk b false 0)).2) ((ctoldR c (Cur.mk b false 0)).1):=by
   unfold parseOf coilsForm 
   (try simp only [q216,bs,if_true,if_false,decide_true,decide_false,eq_self,true_or,or_true,or_false,false_or,if_true,if_false,i00,i01,i10,i11,reduceIte,k1,k2,k5,k15])
   all_goals rfl
 rw [hs]
 exact finish_bad q216p U234
 have q216p:=eq_of_bnei q216
 refine skn<|sg<|?_
 have r235:=ub1 hu209 ne196 hm193.1
 refine L0<|Olw (hz:=(by rw [hm193.2]; exact msg_size)) r235<|?_
 have U236:=u1 hu19 hu22 (nr hg17)
 have U237:=ut0 U236 hu30
 have U238:=ut0 U237 hu35
 have U239:=u1 U238 hu38 (ni U237.size hg33)
 have U240:=ut0 U239 hu43
 have U241:=u1 U240 hu47 (ni U239.size hg41)
 have U242:=u1 U241 hu52 (ni U239.size hg41)
 have U243:=u1 U242 hu56 (ni U239.size hg41)
 have U244:=u1 U243 hu60 (ni U239.size hg41)
 have U245:=ut0 U244 hu167
 have U246:=u1 U245 hu170 (ni U244.size hg165)
 have U247:=ut U246 hu195 (ac (ni U236.size hg28) (ac (nr hg17) all0))
 have U248:=u1 U247 hu209 (ni U236.size hg28)
 have r249:=ub U248 B13
 refine L0<|Osw (hz:=(by rw [hm193.2]; exact msg_size)) (hv:=hM194.size) (h1:=hM194.one) r249 (cs192) fun w250 B251 hu252=>Pl 1<|nt<|rt<|rctx 22 hm193.2 B251 (.int .i64 0)<|?_
 subst ex198
 have U253:=u1 U215 hu252 (nr hg12)
 have hs:parseOf coilsForm 1 c b=finish ((ctoldR c (Cur.mk b false 0)).2) ((ctoldR c (Cur.mk b false 0)).1):=by
   unfold parseOf coilsForm 
   (try simp only [q216,bs,if_true,if_false,decide_true,decide_false,eq_self,true_or,or_true,or_false,false_or,if_true,if_false,i00,i01,i10,i11,reduceIte,k1,k2,k5,k15])
   all_goals rfl
 rw [hs]
 have U254:=u1 (Upd.mono (S':=[g27,g10]) hu209 (ac im all0)) hu252 im
 have r255:=ub U247 B13
 have r256:=MsgRd.upd hM194 U254 (safe_cons (CurAt.safe hc199 _ (by decide)) (safe_cons (safe1 r255 (by decide)) safe0))
 exact finish_ok q216p r256 U253
 have k1:(c == 1)=false:=by rw [hk]; rfl
 have k2:(c == 2)=false:=by rw [hk]; rfl
 have k5:(c == 5)=true:=by rw [hk]; rfl
 have k15:(c == 15)=false:=by rw [hk]; rfl
 refine L0<|Olk (hf:=(by subst hk; kernel_rfl)) B59 c (.agg #[.nilFunc,.nilFunc]) (some (2,.agg #[.func (.func 80) #[.agg #[.pointer (some ⟨g27,0,none⟩),.pointer (some ⟨g15,0,none⟩)]] #[],.func (.func 80) #[.agg #[.pointer (some ⟨g27,0,none⟩),.pointer (some ⟨g15,0,none⟩)]] #[]]))<|Pl 3<|L0<|Oal #[.nilFunc,.nilFunc] fun g257 w258 hg259 B260 hu261=>L0<|Osw B260 #[.func (.func 80) #[.agg #[.pointer (some ⟨g27,0,none⟩),.pointer (some ⟨g15,0,none⟩)]] #[],.func (.func 80) #[.agg #[.pointer (some ⟨g27,0,none⟩),.pointer (some ⟨g15,0,none⟩)]] #[]] fun w262 B263 hu264=>Pl 1<|nt<|sq<|sg<|Pl 2<|nt<|c0<|?_
 refine skn<|sg<|Pl 2<|L0<|Olb B263 1<|?_
 have U265:=u1 hu35 hu38 (nr hg33)
 have U266:=ut0 U265 hu43
 have U267:=u1 U266 hu47 (ni U265.size hg41)
 have U268:=u1 U267 hu52 (ni U265.size hg41)
 have U269:=u1 U268 hu56 (ni U265.size hg41)
 have U270:=u1 U269 hu60 (ni U265.size hg41)
 have U271:=ut0 U270 hu261
 have U272:=u1 U271 hu264 (ni U270.size hg259)
 have r273:=CurAt.old hc29 U272
 have U274:=ut0 hu30 hu35
 have U275:=u1 U274 hu38 (ni hu30.size hg33)
 have U276:=ut0 U275 hu43
 have U277:=u1 U276 hu47 (ni U275.size hg41)
 have U278:=u1 U277 hu52 (ni U275.size hg41)
 have U279:=u1 U278 hu56 (ni U275.size hg41)
 have U280:=u1 U279 hu60 (ni U275.size hg41)
 have U281:=ut0 U280 hu261
 have U282:=u1 U281 hu264 (ni U280.size hg259)
 have r283:=ub U282 B21
 have ne290:=nb (blk_lt B18) hu22.size hg28
 refine L0<|Ocv #[.agg #[.pointer (some ⟨g27,0,none⟩),.pointer (some ⟨g15,0,none⟩)]] #[] (args:=#[.agg #[.pointer (some ⟨g27,0,none⟩),.pointer (some ⟨g15,0,none⟩)]])<|m3 (csets_any (c:=c) ⟨hcode1,hcode2⟩ r273 r283 (Ne.symm ne290)) fun w284 hc285 hx294 hu289=>?_
 obtain ⟨cs286,hm287,hM288⟩:=hx294
 refine ab hc285 fun x291 ex292 hc293=>?_
 refine ng<|Pl 1<|?_
 have U295:=ut0 hu60 hu261
 have U296:=u1 U295 hu264 (ni hu60.size hg259)
 have U297:=ut (Upd.mono (S':=[g39,g27,g15]) U296 (ac im all0)) hu289 (ac im (ac im all0))
 have ne298:=nb (blk_lt B18) (le hu22.size hu30.size) hg33
 have ne299:=nb (CurAt.lt hc29) lr hg33
 have r300:=Upd.blk U297 (not_cons ne48 (not_cons (Ne.symm ne299) (not_cons (Ne.symm ne298) not0))) r57
 refine L0<|Olb r300 0<|L0<|Oc<|m2 (end_any hc293) fun w301 hc302 hu303=>nt<|sq<|sg<|Pl 1<|?_
 have r304:=ub1 hu303 (Ne.symm ne299) r300
 refine L0<|Olb r304 0<|L0<|Oc<|mq (err_any hc302)<|?_
 have hl305:=CurAt.len hc302
 refine Pl 1<|ng<|Pl 2<|nt<|?_
 have U306:=ut0 U68 hu261
 have U307:=u1 U306 hu264 (ni U68.size hg259)
 have U308:=ut U307 hu289 (ac (ni U24.size hg28) (ac (ni hu14.size hg17) all0))
 have U309:=u1 U308 hu303 (ni U24.size hg28)
 refine cb ((x291.endC.e != 0)) (fun q310=>?_) (fun q310=>?_)
 have q310p:=ne_of_bnei q310
 refine sg<|Pl 2<|?_
 have U311:=u1 hu19 hu22 (nr hg17)
 have U312:=ut0 U311 hu30
 have U313:=ut0 U312 hu35
 have U314:=u1 U313 hu38 (ni U312.size hg33)
 have U315:=ut0 U314 hu43
 have U316:=u1 U315 hu47 (ni U314.size hg41)
 have U317:=u1 U316 hu52 (ni U314.size hg41)
 have U318:=u1 U317 hu56 (ni U314.size hg41)
 have U319:=u1 U318 hu60 (ni U314.size hg41)
 have U320:=ut0 U319 hu261
 have U321:=u1 U320 hu264 (ni U319.size hg259)
 have U322:=ut U321 hu289 (ac (ni U311.size hg28) (ac (nr hg17) all0))
 have U323:=u1 U322 hu303 (ni U311.size hg28)
 have r324:=ub U323 B13
 refine L0<|Osw r324 mZ fun w325 B326 hu327=>Pl 1<|nt<|rt<|tr<|rct B326 (.int .i64 x291.endC.e)<|?_
 subst ex292
 have U328:=u1 U309 hu327 (nr hg12)
 have hs:parseOf coilsForm 1 c b=finish ((csetsR c (Cur.mk b false 0)).2) ((csetsR c (Cur.mk b false 0)).1):=by
   unfold parseOf coilsForm 
   (try simp only [q310,bs,if_true,if_false,decide_true,decide_false,eq_self,true_or,or_true,or_false,false_or,if_true,if_false,i00,i01,i10,i11,reduceIte,k1,k2,k5,k15])
   all_goals rfl
 rw [hs]
 exact finish_bad q310p U328
 have q310p:=eq_of_bnei q310
 refine skn<|sg<|?_
 have r329:=ub1 hu303 ne290 hm287.1
 refine L0<|Olw (hz:=(by rw [hm287.2]; exact msg_size)) r329<|?_
 have U330:=u1 hu19 hu22 (nr hg17)
 have U331:=ut0 U330 hu30
 have U332:=ut0 U331 hu35
 have U333:=u1 U332 hu38 (ni U331.size hg33)
 have U334:=ut0 U333 hu43
 have U335:=u1 U334 hu47 (ni U333.size hg41)
 have U336:=u1 U335 hu52 (ni U333.size hg41)
 have U337:=u1 U336 hu56 (ni U333.size hg41)
 have U338:=u1 U337 hu60 (ni U333.size hg41)
 have U339:=ut0 U338 hu261
 have U340:=u1 U339 hu264 (ni U338.size hg259)
 have U341:=ut U340 hu289 (ac (ni U330.size hg28) (ac (nr hg17) all0))
 have U342:=u1 U341 hu303 (ni U330.size hg28)
 have r343:=ub U342 B13
 refine L0<|Osw (hz:=(by rw [hm287.2]; exact msg_size)) (hv:=hM288.size) (h1:=hM288.one) r343 (cs286) fun w344 B345 hu346=>Pl 1<|nt<|rt<|rctx 22 hm287.2 B345 (.int .i64 0)<|?_
 subst ex292
 have U347:=u1 U309 hu346 (nr hg12)
 have hs:parseOf coilsForm 1 c b=finish ((csetsR c (Cur.mk b false 0)).2) ((csetsR c (Cur.mk b false 0)).1):=by
   unfold parseOf coilsForm 
   (try simp only [q310,bs,if_true,if_false,decide_true,decide_false,eq_self,true_or,or_true,or_false,false_or,if_true,if_false,i00,i01,i10,i11,reduceIte,k1,k2,k5,k15])
   all_goals rfl
 rw [hs]
 have U348:=u1 (Upd.mono (S':=[g27,g10]) hu303 (ac im all0)) hu346 im
 have r349:=ub U341 B13
 have r350:=MsgRd.upd hM288 U348 (safe_cons (CurAt.safe hc293 _ (by decide)) (safe_cons (safe1 r349 (by decide)) safe0))
 exact finish_ok q310p r350 U347
 have k1:(c == 1)=false:=by rw [hk]; rfl
 have k2:(c == 2)=false:=by rw [hk]; rfl
 have k5:(c == 5)=false:=by rw [hk]; rfl
 have k15:(c == 15)=true:=by rw [hk]; rfl
 refine L0<|Olk (hf:=(by subst hk; kernel_rfl)) B59 c (.agg #[.nilFunc,.nilFunc]) (some (3,.agg #[.func (.func 81) #[.agg #[.pointer (some ⟨g27,0,none⟩),.pointer (some ⟨g15,0,none⟩)]] #[],.func (.func 82) #[.agg #[.pointer (some ⟨g27,0,none⟩),.pointer (some ⟨g15,0,none⟩)]] #[]]))<|Pl 3<|L0<|Oal #[.nilFunc,.nilFunc] fun g351 w352 hg353 B354 hu355=>L0<|Osw B354 #[.func (.func 81) #[.agg #[.pointer (some ⟨g27,0,none⟩),.pointer (some ⟨g15,0,none⟩)]] #[],.func (.func 82) #[.agg #[.pointer (some ⟨g27,0,none⟩),.pointer (some ⟨g15,0,none⟩)]] #[]] fun w356 B357 hu358=>Pl 1<|nt<|sq<|sg<|Pl 2<|nt<|c0<|?_
 refine skn<|sg<|Pl 2<|L0<|Olb B357 1<|?_
 have U359:=u1 hu35 hu38 (nr hg33)
 have U360:=ut0 U359 hu43
 have U361:=u1 U360 hu47 (ni U359.size hg41)
 have U362:=u1 U361 hu52 (ni U359.size hg41)
 have U363:=u1 U362 hu56 (ni U359.size hg41)
 have U364:=u1 U363 hu60 (ni U359.size hg41)
 have U365:=ut0 U364 hu355
 have U366:=u1 U365 hu358 (ni U364.size hg353)
 have r367:=CurAt.old hc29 U366
 have U368:=ut0 hu30 hu35
 have U369:=u1 U368 hu38 (ni hu30.size hg33)
 have U370:=ut0 U369 hu43
 have U371:=u1 U370 hu47 (ni U369.size hg41)
 have U372:=u1 U371 hu52 (ni U369.size hg41)
 have U373:=u1 U372 hu56 (ni U369.size hg41)
 have U374:=u1 U373 hu60 (ni U369.size hg41)
 have U375:=ut0 U374 hu355
 have U376:=u1 U375 hu358 (ni U374.size hg353)
 have r377:=ub U376 B21
 have ne384:=nb (blk_lt B18) hu22.size hg28
 refine L0<|Ocv #[.agg #[.pointer (some ⟨g27,0,none⟩),.pointer (some ⟨g15,0,none⟩)]] #[] (args:=#[.agg #[.pointer (some ⟨g27,0,none⟩),.pointer (some ⟨g15,0,none⟩)]])<|m3 (done_any (c:=c) ⟨hcode1,hcode2⟩ r367 r377 (Ne.symm ne384)) fun w378 hc379 hx388 hu383=>?_
 obtain ⟨cs380,hm381,hM382⟩:=hx388
 refine ab hc379 fun x385 ex386 hc387=>?_
 refine ng<|Pl 1<|?_
 have U389:=ut0 hu60 hu355
 have U390:=u1 U389 hu358 (ni hu60.size hg353)
 have U391:=ut (Upd.mono (S':=[g39,g27,g15]) U390 (ac im all0)) hu383 (ac im (ac im all0))
 have ne392:=nb (blk_lt B18) (le hu22.size hu30.size) hg33
 have ne393:=nb (CurAt.lt hc29) lr hg33
 have r394:=Upd.blk U391 (not_cons ne48 (not_cons (Ne.symm ne393) (not_cons (Ne.symm ne392) not0))) r57
 refine L0<|Olb r394 0<|L0<|Oc<|m2 (end_any hc387) fun w395 hc396 hu397=>nt<|sq<|sg<|Pl 1<|?_
 have r398:=ub1 hu397 (Ne.symm ne393) r394
 refine L0<|Olb r398 0<|L0<|Oc<|mq (err_any hc396)<|?_
 have hl399:=CurAt.len hc396
 refine Pl 1<|ng<|Pl 2<|nt<|?_
 have U400:=ut0 U68 hu355
 have U401:=u1 U400 hu358 (ni U68.size hg353)
 have U402:=ut U401 hu383 (ac (ni U24.size hg28) (ac (ni hu14.size hg17) all0))
 have U403:=u1 U402 hu397 (ni U24.size hg28)
 refine cb ((x385.endC.e != 0)) (fun q404=>?_) (fun q404=>?_)
 have q404p:=ne_of_bnei q404
 refine sg<|Pl 2<|?_
 have U405:=u1 hu19 hu22 (nr hg17)
 have U406:=ut0 U405 hu30
 have U407:=ut0 U406 hu35
 have U408:=u1 U407 hu38 (ni U406.size hg33)
 have U409:=ut0 U408 hu43
 have U410:=u1 U409 hu47 (ni U408.size hg41)
 have U411:=u1 U410 hu52 (ni U408.size hg41)
 have U412:=u1 U411 hu56 (ni U408.size hg41)
 have U413:=u1 U412 hu60 (ni U408.size hg41)
 have U414:=ut0 U413 hu355
 have U415:=u1 U414 hu358 (ni U413.size hg353)
 have U416:=ut U415 hu383 (ac (ni U405.size hg28) (ac (nr hg17) all0))
 have U417:=u1 U416 hu397 (ni U405.size hg28)
 have r418:=ub U417 B13
 refine L0<|Osw r418 mZ fun w419 B420 hu421=>Pl 1<|nt<|rt<|tr<|rct B420 (.int .i64 x385.endC.e)<|?_
 subst ex386
 have U422:=u1 U403 hu421 (nr hg12)
 have hs:parseOf coilsForm 1 c b=finish ((asksR 1968 c (Cur.mk b false 0)).2) ((asksR 1968 c (Cur.mk b false 0)).1):=by
   unfold parseOf coilsForm 
   (try simp only [q404,bs,if_true,if_false,decide_true,decide_false,eq_self,true_or,or_true,or_false,false_or,if_true,if_false,i00,i01,i10,i11,reduceIte,k1,k2,k5,k15])
   all_goals rfl
 rw [hs]
 exact finish_bad q404p U422
 have q404p:=eq_of_bnei q404
 refine skn<|sg<|?_
 have r423:=ub1 hu397 ne384 hm381.1
 refine L0<|Olw (hz:=(by rw [hm381.2]; exact msg_size)) r423<|?_
 have U424:=u1 hu19 hu22 (nr hg17)
 have U425:=ut0 U424 hu30
 have U426:=ut0 U425 hu35
 have U427:=u1 U426 hu38 (ni U425.size hg33)
 have U428:=ut0 U427 hu43
 have U429:=u1 U428 hu47 (ni U427.size hg41)
 have U430:=u1 U429 hu52 (ni U427.size hg41)
 have U431:=u1 U430 hu56 (ni U427.size hg41)
 have U432:=u1 U431 hu60 (ni U427.size hg41)
 have U433:=ut0 U432 hu355
 have U434:=u1 U433 hu358 (ni U432.size hg353)
 have U435:=ut U434 hu383 (ac (ni U424.size hg28) (ac (nr hg17) all0))
 have U436:=u1 U435 hu397 (ni U424.size hg28)
 have r437:=ub U436 B13
 refine L0<|Osw (hz:=(by rw [hm381.2]; exact msg_size)) (hv:=hM382.size) (h1:=hM382.one) r437 (cs380) fun w438 B439 hu440=>Pl 1<|nt<|rt<|rctx 22 hm381.2 B439 (.int .i64 0)<|?_
 subst ex386
 have U441:=u1 U403 hu440 (nr hg12)
 have hs:parseOf coilsForm 1 c b=finish ((asksR 1968 c (Cur.mk b false 0)).2) ((asksR 1968 c (Cur.mk b false 0)).1):=by
   unfold parseOf coilsForm 
   (try simp only [q404,bs,if_true,if_false,decide_true,decide_false,eq_self,true_or,or_true,or_false,false_or,if_true,if_false,i00,i01,i10,i11,reduceIte,k1,k2,k5,k15])
   all_goals rfl
 rw [hs]
 have U442:=u1 (Upd.mono (S':=[g27,g10]) hu397 (ac im all0)) hu440 im
 have r443:=ub U435 B13
 have r444:=MsgRd.upd hM382 U442 (safe_cons (CurAt.safe hc387 _ (by decide)) (safe_cons (safe1 r443 (by decide)) safe0))
 exact finish_ok q404p r444 U441
 have k1:(c == 1)=false:=by simpa using hk.1
 have k2:(c == 2)=false:=by simpa using hk.2.1
 have k5:(c == 5)=false:=by simpa using hk.2.2.1
 have k15:(c == 15)=false:=by simpa using hk.2.2.2
 refine L0<|Olk (hf:=(fno (q:=.u8) (x:=c) #[⟨.int .u8 1,.agg #[.func (.func 78) #[.agg #[.pointer (some ⟨g27,0,none⟩),.pointer (some ⟨g15,0,none⟩)]] #[],.func (.func 79) #[.agg #[.pointer (some ⟨g27,0,none⟩),.pointer (some ⟨g15,0,none⟩)]] #[]],0⟩,⟨.int .u8 2,.agg #[.func (.func 78) #[.agg #[.pointer (some ⟨g27,0,none⟩),.pointer (some ⟨g15,0,none⟩)]] #[],.func (.func 79) #[.agg #[.pointer (some ⟨g27,0,none⟩),.pointer (some ⟨g15,0,none⟩)]] #[]],1⟩,⟨.int .u8 5,.agg #[.func (.func 80) #[.agg #[.pointer (some ⟨g27,0,none⟩),.pointer (some ⟨g15,0,none⟩)]] #[],.func (.func 80) #[.agg #[.pointer (some ⟨g27,0,none⟩),.pointer (some ⟨g15,0,none⟩)]] #[]],2⟩,⟨.int .u8 15,.agg #[.func (.func 81) #[.agg #[.pointer (some ⟨g27,0,none⟩),.pointer (some ⟨g15,0,none⟩)]] #[],.func (.func 82) #[.agg #[.pointer (some ⟨g27,0,none⟩),.pointer (some ⟨g15,0,none⟩)]] #[]],3⟩] (findNow_no _ _ (by intro e he; simp only [List.mem_cons,List.not_mem_nil,or_false] at he; obtain ⟨z1,z2,z5,z15⟩:=hk; rcases he with rfl | rfl | rfl | rfl <;> exact ⟨_,rfl,fun h=>by simp_all⟩)))) B59 c (.agg #[.nilFunc,.nilFunc]) none<|Pl 3<|L0<|Oal #[.nilFunc,.nilFunc] fun g445 w446 hg447 B448 hu449=>L0<|Osw B448 #[.nilFunc,.nilFunc] fun w450 B451 hu452=>Pl 1<|nt<|sq<|sg<|Pl 2<|nt<|c1<|?_
 refine sg<|Pl 1<|?_
 have U453:=u1 hu19 hu22 (nr hg17)
 have U454:=ut0 U453 hu30
 have U455:=ut0 U454 hu35
 have U456:=u1 U455 hu38 (ni U454.size hg33)
 have U457:=ut0 U456 hu43
 have U458:=u1 U457 hu47 (ni U456.size hg41)
 have U459:=u1 U458 hu52 (ni U456.size hg41)
 have U460:=u1 U459 hu56 (ni U456.size hg41)
 have U461:=u1 U460 hu60 (ni U456.size hg41)
 have U462:=ut0 U461 hu449
 have U463:=u1 U462 hu452 (ni U461.size hg447)
 have r464:=ub U463 B13
 refine L0<|Osw r464 mZ fun w465 B466 hu467=>Pl 1<|nt<|rt<|tr<|rct B466 (.int .i64 4)<|?_
 have U468:=ut0 U68 hu449
 have U469:=u1 U468 hu452 (ni U68.size hg447)
 have U470:=u1 U469 hu467 (nr hg12)
 have hs:parseOf coilsForm 1 c b=(Msg.zero,4):=by
   unfold parseOf coilsForm 
   (try simp only [bs,if_true,if_false,decide_true,decide_false,eq_self,true_or,or_true,or_false,false_or,if_true,if_false,i00,i01,i10,i11,reduceIte,k1,k2,k5,k15])
   all_goals rfl
 rw [hs]
 exact bad_res U470
set_option maxRecDepth 100000 in
set_option maxHeartbeats 4000000 in
theorem coils_parse_x {m:Bool} {A:Option Addr} {cp:Nat} {b:List Int} {w:World} {dir c:Int} (hcode:B8 c) (hsl:RdB m w (.slice A b.length cp) b) (hb:b.length≤1048576) (hd:¬ (dir=0∨dir=1)) :
    Calls Tryz.prog 58 #[.int .i64 dir,.int .u8 c,.slice A b.length cp] w (PMsg (parseOf coilsForm dir c b) w):=by
 obtain ⟨hcode1,hcode2⟩:=hcode
 have hln:(b.length:Int)≤1048576:=by omega
 have e0:(dir != 0)=true:=by simp; omega
 have e1:(dir != 1)=true:=by simp; omega
 refine en 72 Tryz.func58 rfl<|sg<|L0<|Oal mZ fun g10 w11 hg12 B13 hu14=>Pl 1<|nt<|sq<|sg<|Pl 3<|sy 16 e0<|Pl 3<|nl<|?_
 refine tn<|ct e1<|sg<|Pl 1<|L0<|Osw B13 mZ fun w15 B16 hu17=>Pl 1<|nt<|rt<|tr<|rct B16 (.int .i64 1)<|?_
 have U18:=u1 hu14 hu17 (nr hg12)
 have hs:parseOf coilsForm dir c b=(Msg.zero,1):=by
   unfold parseOf coilsForm 
   (try simp only [e0,e1,bs,if_true,if_false,decide_true,decide_false,eq_self,true_or,or_true,or_false,false_or,if_true,if_false,i00,i01,i10,i11,reduceIte,hd])
   all_goals rfl
 rw [hs]
 exact bad_res U18
theorem coils_parse {m:Bool} {v:Value} {b:List Int} {w:World} {dir c:Int} (hc:B8 c) (h:RdB m w v b) (hb:b.length≤1048576) :
    Calls Tryz.prog 58 #[.int .i64 dir,.int .u8 c,v] w (PMsg (parseOf coilsForm dir c b) w):=by
  obtain ⟨A,cp,rfl,_,_⟩:=h.shape
  by_cases h0:dir=0
  · subst h0; exact coils_parse_0 hc h hb
  by_cases h1:dir=1
  · subst h1; exact coils_parse_1 hc h hb
  exact coils_parse_x hc h hb (by omega)
open Go.RowKit
def busyC (c:Cur) : Cur:=(c.wordsC 1).need (c.wordV == 0 || c.wordV == 65535) 6
theorem and255 {v:Int} (h:0≤v∧v < 65536) : bits .and .u16 v 255=v % 256:=by
  rw [u16_and v 255 h.1 h.2 (by decide) (by decide)]
  show ((v.toNat &&& (2 ^ 8 - 1) : Nat) : Int)=_
  rw [Nat.and_two_pow_sub_one_eq_mod]
  omega
def mayB (dir sub v:Int) : Bool:=if (sub == 2 || (decide (11≤sub) && decide (sub≤18))) && dir == 1 then true else if sub == 1 then v == 0 || v == 65280 else if sub == 3 then v % 256 == 0 else v == 0
set_option maxRecDepth 100000 in
set_option maxHeartbeats 4000000 in
theorem busy_any {g:Nat} {c:Cur} {w:World} (hc:CurAt w g c) :
    Calls Tryz.prog 123 #[.pointer (some ⟨g,0,none⟩)] w (PByte g .u16 65536 c.wordV (busyC c) w):=by
 have hr:=hc.wordV
 refine en 15 Tryz.func123 rfl<|sg<|Pl 1<|ng<|Pl 1<|L0<|Oc<|m3 (word_any hc) fun w10 hc11 hu12 hr13=>Pl 1<|nt<|sq<|?_
 refine go<|Pl 4<|cu 3 [9] 12 (((c.wordV == 0) || (c.wordV == 65535))) (fun K K15=>?_) ?_
 refine bl 9 ((c.wordV == 0)) (fun q14=>?_) (fun q14=>?_)
 have q14p:=eq_of_beqi q14
 exact Pl 3<|ce K15 true (by rw [q14]; rfl)
 have q14p:=ne_of_beqi q14
 exact Pl 3<|ce K15 (c.wordV == 65535) (by rw [q14]; rfl)
 refine L0<|Oc<|m2 (need_any (((c.wordV == 0) || (c.wordV == 65535))) 6 hc11) fun w16 hc17 hu18=>?_
 refine ab hc17 fun x19 ex20 hc21=>?_
 refine ng<|Pl 2<|nt<|rt<|rr (.int .u16 c.wordV)<|?_
 subst ex20
 have U22:=u1 hu12 hu18 im
 exact ⟨rfl,hc21,U22,hr⟩
set_option maxRecDepth 100000 in
set_option maxHeartbeats 4000000 in
theorem may2_any {v:Int} {w:World}:Calls Tryz.prog 137 #[.int .u16 v] w (PVal (.bool (v == 0 || v == 65280)) w):=by
 refine en 9 Tryz.func137 rfl<|sg<|Pl 1<|ng<|Pl 3<|cu 3 [5] 8 (((v == 0) || (v == 65280))) (fun K K11=>?_) ?_
 refine bl 5 ((v == 0)) (fun q10=>?_) (fun q10=>?_)
 have q10p:=eq_of_beqi q10
 exact Pl 3<|ce K11 true (by rw [q10]; rfl)
 have q10p:=ne_of_beqi q10
 exact Pl 3<|ce K11 (v == 65280) (by rw [q10]; rfl)
 refine Pl 1<|nt<|rt<|rr (.bool ((v == 0) || (v == 65280)))<|?_
 exact ⟨rfl,(Upd.refl [] _)⟩
set_option maxRecDepth 100000 in
set_option maxHeartbeats 4000000 in
theorem may3_any {v:Int} {w:World} (hv:0≤v∧v < 65536) : Calls Tryz.prog 138 #[.int .u16 v] w (PVal (.bool (v % 256 == 0)) w):=by
 refine en 6 Tryz.func138 rfl<|sg<|Pl 1<|ng<|Pl 1<|L0<|Oe (.int .u16 (bits .and .u16 v 255)) (.int .u16 (v % 256)) (congrArg (Value.int .u16) (and255 (by omega)))<|Pl 2<|nt<|rt<|?_
 refine rr (.bool ((v % 256) == 0))<|?_
 exact ⟨rfl,(Upd.refl [] _)⟩
set_option maxRecDepth 100000 in
set_option maxHeartbeats 4000000 in
theorem may1_any {v x:Int} {gb:Nat} {w:World} (hB:w.heap[gb]? = some (.cells #[.int .u16 v] 22 (0,0))) : Calls Tryz.prog 136 #[.int .u16 x,.pointer (some ⟨gb,0,none⟩)] w (PVal (.bool (v == 0)) w):=by
 refine en 6 Tryz.func136 rfl<|sg<|Pl 1<|ng<|L0<|Olb hB 0<|Pl 2<|nt<|rt<|rr (.bool (v == 0))<|?_
 exact ⟨rfl,(Upd.refl [] _)⟩
set_option maxRecDepth 100000 in
set_option maxHeartbeats 4000000 in
theorem may_1 {dir v:Int} {w:World} (hv:0≤v∧v < 65536) : Calls Tryz.prog 122 #[.int .i64 dir,.int .u16 1,.int .u16 v] w (PVal (.bool (mayB dir 1 v)) w):=by
 refine en 42 Tryz.func122 rfl<|sg<|L0<|Obx #[.int .u16 v] fun g10 w11 hg12 B13 hu14=>Pl 1<|ng<|Pl 2<|ng<|?_
 refine L0<|Omk fun g15 w16 hg17 B18 hu19=>L0<|Oin B18 1 fun w20 B21 hu22=>L0<|Oin B21 3 fun w23 B24 hu25=>Pl 2<|ng<|Pl 11<|nt<|sq<|sg<|?_
 refine Pl 5<|nt<|c0<|skn<|sg<|Pl 2<|L0<|Olk B24 1 (.nilFunc) (some (0,.func (.func 137) #[] #[]))<|Pl 5<|nt<|sq<|?_
 refine sg<|Pl 2<|nt<|c0<|skn<|sg<|Pl 1<|?_
 have U26:=u1 hu19 hu22 (nr hg17)
 have U27:=u1 U26 hu25 (nr hg17)
 have r28:=ub U27 B13
 refine L0<|Olb r28 0<|L0<|Ocv #[] #[] (args:=#[.int .u16 v])<|m1 (may2_any) fun w29 hu30=>Pl 1<|nt<|rt<|rr (.bool (v == 0 || v == 65280))<|?_
 have hs:mayB dir 1 v=(v == 0 || v == 65280):=by
   unfold mayB
   (try simp only [bs,if_true,if_false,decide_true,decide_false,reduceIte])
   all_goals rfl
 rw [hs]
 have U31:=ut0 hu14 hu19
 have U32:=u1 U31 hu22 (ni hu14.size hg17)
 have U33:=u1 U32 hu25 (ni hu14.size hg17)
 have U34:=ut0 U33 hu30
 exact ⟨rfl,U34⟩
set_option maxRecDepth 100000 in
set_option maxHeartbeats 4000000 in
theorem may_3 {dir v:Int} {w:World} (hv:0≤v∧v < 65536) : Calls Tryz.prog 122 #[.int .i64 dir,.int .u16 3,.int .u16 v] w (PVal (.bool (mayB dir 3 v)) w):=by
 refine en 42 Tryz.func122 rfl<|sg<|L0<|Obx #[.int .u16 v] fun g10 w11 hg12 B13 hu14=>Pl 1<|ng<|Pl 2<|ng<|?_
 refine L0<|Omk fun g15 w16 hg17 B18 hu19=>L0<|Oin B18 1 fun w20 B21 hu22=>L0<|Oin B21 3 fun w23 B24 hu25=>Pl 2<|ng<|Pl 11<|nt<|sq<|sg<|?_
 refine Pl 5<|nt<|c0<|skn<|sg<|Pl 2<|L0<|Olk B24 3 (.nilFunc) (some (1,.func (.func 138) #[] #[]))<|Pl 5<|nt<|sq<|?_
 refine sg<|Pl 2<|nt<|c0<|skn<|sg<|Pl 1<|?_
 have U26:=u1 hu19 hu22 (nr hg17)
 have U27:=u1 U26 hu25 (nr hg17)
 have r28:=ub U27 B13
 refine L0<|Olb r28 0<|L0<|Ocv #[] #[] (args:=#[.int .u16 v])<|m1 (may3_any hv) fun w29 hu30=>Pl 1<|nt<|rt<|rr (.bool (v % 256 == 0))<|?_
 have hs:mayB dir 3 v=(v % 256 == 0):=by
   unfold mayB
   (try simp only [bs,if_true,if_false,decide_true,decide_false,reduceIte])
   all_goals rfl
 rw [hs]
 have U31:=ut0 hu14 hu19
 have U32:=u1 U31 hu22 (ni hu14.size hg17)
 have U33:=u1 U32 hu25 (ni hu14.size hg17)
 have U34:=ut0 U33 hu30
 exact ⟨rfl,U34⟩
set_option maxRecDepth 100000 in
set_option maxHeartbeats 4000000 in
theorem may_no {dir sub v:Int} {w:World} (hv:0≤v∧v < 65536) (h1:sub ≠ 1) (h3:sub ≠ 3) : Calls Tryz.prog 122 #[.int .i64 dir,.int .u16 sub,.int .u16 v] w (PVal (.bool (mayB dir sub v)) w):=by
 have n1:(sub == 1)=false:=by simpa using h1
 have n3:(sub == 3)=false:=by simpa using h3
 refine en 42 Tryz.func122 rfl<|sg<|L0<|Obx #[.int .u16 v] fun g10 w11 hg12 B13 hu14=>Pl 1<|ng<|Pl 2<|ng<|?_
 refine L0<|Omk fun g15 w16 hg17 B18 hu19=>L0<|Oin B18 1 fun w20 B21 hu22=>L0<|Oin B21 3 fun w23 B24 hu25=>Pl 2<|ng<|Pl 3<|cu 7 [17] 24 (((sub == 2) || ((decide (11≤sub)) && (decide (sub≤18))))) (fun K K27=>?_) ?_
 refine bl 17 ((sub == 2)) (fun q26=>?_) (fun q26=>?_)
 have q26p:=eq_of_beqi q26
 exact Pl 7<|ce K27 true (by rw [q26]; rfl)
 have q26p:=ne_of_beqi q26
 refine Pl 3<|cu 3 [20] 23 (((decide (11≤sub)) && (decide (sub≤18)))) (fun K K29=>?_) ?_
 refine bl 20 ((decide (11≤sub))) (fun q28=>?_) (fun q28=>?_)
 have q28p:=of_decide_eq_true q28
 exact Pl 3<|ce K29 (decide (sub≤18)) (by rw [q28]; rfl)
 have q28p:=of_decide_eq_false q28
 exact Pl 3<|ce K29 false (by rw [q28]; rfl)
 exact Pl 1<|ce K27 ((decide (11≤sub)) && (decide (sub≤18))) (by rw [q26]; rfl)
 refine Pl 1<|nt<|sq<|sg<|Pl 2<|cu 3 [26] 29 ((((sub == 2) || ((decide (11≤sub)) && (decide (sub≤18)))) && (dir == 1))) (fun K K31=>?_) ?_
 refine bl 26 (((sub == 2) || ((decide (11≤sub)) && (decide (sub≤18))))) (fun q30=>?_) (fun q30=>?_)
 exact Pl 3<|ce K31 (dir == 1) (by rw [q30]; rfl)
 have q30a:=(or_f q30).1
 have q30b:=(or_f q30).2
 have q30ap:=ne_of_beqi q30a
 exact Pl 3<|ce K31 false (by rw [q30]; rfl)
 refine nt<|?_
 have U32:=ut0 hu14 hu19
 have U33:=u1 U32 hu22 (ni hu14.size hg17)
 have U34:=u1 U33 hu25 (ni hu14.size hg17)
 refine cb ((((sub == 2) || ((decide (11≤sub)) && (decide (sub≤18)))) && (dir == 1))) (fun q35=>?_) (fun q35=>?_)
 have q35a:=(and_t q35).1
 have q35b:=(and_t q35).2
 have q35bp:=eq_of_beqi q35b
 refine sg<|Pl 1<|nt<|rt<|tr<|rr (.bool true)<|?_
 have hs:mayB dir sub v=true:=by
   unfold mayB
   (try simp only [q35,q35a,q35b,bs,if_true,if_false,decide_true,decide_false,n1,n3,reduceIte])
   all_goals rfl
 rw [hs]
 exact ⟨rfl,U34⟩
 refine skn<|sg<|Pl 2<|L0<|Olk (hf:=(fno (q:=.u16) (x:=sub) #[⟨.int .u16 1,.func (.func 137) #[] #[],0⟩,⟨.int .u16 3,.func (.func 138) #[] #[],1⟩] (findNow_no _ _ (by intro e he; simp only [List.mem_cons,List.not_mem_nil,or_false] at he; rcases he with rfl | rfl; exact ⟨_,rfl,fun h=>h1 h.symm⟩; exact ⟨_,rfl,fun h=>h3 h.symm⟩)))) B24 sub (.nilFunc) none<|Pl 5<|nt<|sq<|sg<|Pl 2<|nl<|?_
 refine tn<|c1<|go<|Pl 2<|ng<|Pl 1<|?_
 have U36:=u1 hu19 hu22 (nr hg17)
 have U37:=u1 U36 hu25 (nr hg17)
 have r38:=ub U37 B13
 refine L0<|Olb r38 0<|L0<|Ocv #[] #[.pointer (some ⟨g10,0,none⟩)] (args:=#[.int .u16 v,.pointer (some ⟨g10,0,none⟩)])<|m1 (may1_any r38) fun w39 hu40=>Pl 1<|nt<|rt<|rr (.bool (v == 0))<|?_
 have hs:mayB dir sub v=(v == 0):=by
   unfold mayB
   (try simp only [q35,bs,if_true,if_false,decide_true,decide_false,n1,n3,reduceIte])
   all_goals rfl
 rw [hs]
 have U41:=ut0 U34 hu40
 exact ⟨rfl,U41⟩
theorem may_any {dir sub v:Int} {w:World} (hv:0≤v∧v < 65536) : Calls Tryz.prog 122 #[.int .i64 dir,.int .u16 sub,.int .u16 v] w (PVal (.bool (mayB dir sub v)) w):=by
  by_cases h1:sub=1
  · subst h1; exact may_1 hv
  by_cases h3:sub=3
  · subst h3; exact may_3 hv
  exact may_no hv h1 h3
open Go.RowKit
def line1 (dir:Int) (C:Cur) : Cur:=(C.wordsC 1).need (subB C.wordV && (dir == 0 || C.wordV != 4)) 8
def line2 (C:Cur) : Cur:=C.need (((C.l.length:Int) % 2 == 0 && decide (2≤(C.l.length:Int))) && decide ((C.l.length:Int)≤250)) 5
def lineR (dir c:Int) (C:Cur) : Cur × Msg :=
  if C.wordV != 0 then (((line1 dir C).wordsC 1).need ((((line1 dir C).wordsR 1).length:Int) == 1 && mayB dir C.wordV (((line1 dir C).wordsR 1).getD 0 0)) 6,{ Msg.zero with code:=c,sub:=C.wordV,words:=(line1 dir C).wordsR 1 })
  else ((line2 (line1 dir C)).wordsC (((line1 dir C).l.length:Int) / 2),{ Msg.zero with code:=c,sub:=C.wordV,words:=(line2 (line1 dir C)).wordsR (((line1 dir C).l.length:Int) / 2) })
def ansL (C:Cur) (lo hi:Int) : Cur:=(C.bytesC 1).need (decide (lo≤C.byteV) && decide (C.byteV≤hi)) 5
def ans12 (C:Cur) : Cur:=((busyC (ansL C 6 70)).wordsC 1).wordsC 1
def answerR (c:Int) (C:Cur) : Cur × Msg :=
  if c == 7 then (C.bytesC 1,{ Msg.zero with code:=c,value:=C.byteV })
  else if c == 11 then ((busyC C).wordsC 1,{ Msg.zero with code:=c,status:=C.wordV,events:=(busyC C).wordV })
  else if c == 12 then ((ans12 C).bytesC (C.byteV - 6),{ Msg.zero with code:=c,status:=(ansL C 6 70).wordV,events:=(busyC (ansL C 6 70)).wordV,messages:=((busyC (ansL C 6 70)).wordsC 1).wordV,data:=(ans12 C).bytesR (C.byteV - 6) })
  else if c == 17 then ((ansL C 1 251).bytesC C.byteV,{ Msg.zero with code:=c,data:=(ansL C 1 251).bytesR C.byteV })
  else (C,{ Msg.zero with code:=c })
set_option maxRecDepth 100000 in
set_option maxHeartbeats 4000000 in
theorem line_any {g gm:Nat} {dir c:Int} {C:Cur} {w:World} (hcode:B8 c) (hC:CurAt w g C) (hm:w.heap[gm]? = some (.cells #[.int .u8 c,.int .u8 0,.int .u16 0,.int .u16 0,.int .u16 0,.int .u16 0,.int .u16 0,.int .u16 0,.int .u16 0,.int .u16 0,.int .u16 0,.int .u16 0,.slice none 0 0,.slice none 0 0,.slice none 0 0,.slice none 0 0,.int .u8 0,.int .u8 0,.int .u8 0,.int .u8 0,.int .u8 0,.slice none 0 0] 31 (0,0))) (hne:g ≠ gm) :
    Calls Tryz.prog 88 #[.int .i64 dir,.pointer (some ⟨g,0,none⟩),.pointer (some ⟨gm,0,none⟩)] w (PFormG g gm (lineR dir c C).1 (lineR dir c C).2 w):=by
 obtain ⟨hcode1,hcode2⟩:=hcode
 have hlen:=hC.len
 refine en 84 Tryz.func88 rfl<|sg<|Pl 2<|L0<|Oc<|m3 (word_any hC) fun w10 hc11 hu12 hr13=>Pl 2<|?_
 have r14:=ub1 hu12 (Ne.symm hne) hm
 refine L0<|Ost r14 8 (mG c 0 0 0 0 0 0 0 C.wordV 0 0 0 nS nS nS nS 0 0 0 0 0 nS) fun w15 B16 hu17=>ng<|Pl 4<|L0<|Olb B16 8<|L0<|Oc<|m1 (bits_any (x:=C.wordV) (w:=_)) fun w18 hu19=>Pl 1<|cu 10 [18] 28 (((subB C.wordV) && ((dir == 0) || (C.wordV != 4)))) (fun K K21=>?_) ?_
 refine bl 18 ((subB C.wordV)) (fun q20=>?_) (fun q20=>?_)
 refine Pl 3<|cu 6 [21] 27 (((dir == 0) || (C.wordV != 4))) (fun K K23=>?_) ?_
 refine bl 21 ((dir == 0)) (fun q22=>?_) (fun q22=>?_)
 have q22p:=eq_of_beqi q22
 exact Pl 6<|ce K23 true (by rw [q22]; rfl)
 have q22p:=ne_of_beqi q22
 refine Pl 3<|?_
 have r24:=ub hu19 B16
 exact L1<|Olb r24 8<|Pl 2<|ce K23 (C.wordV != 4) (by rw [q22]; rfl)
 exact Pl 1<|ce K21 ((dir == 0) || (C.wordV != 4)) (by rw [q20]; rfl)
 exact Pl 10<|ce K21 false (by rw [q20]; rfl)
 have U25:=ut0 hu17 hu19
 have r26:=CurAt.upd hc11 U25 (not_cons hne not0) (safe_cons (safe1 r14 (by decide)) safe0)
 refine L0<|Oc<|m2 (need_any (((subB C.wordV) && ((dir == 0) || (C.wordV != 4)))) 8 r26) fun w27 hc28 hu29=>?_
 refine ab hc28 fun x30 ex31 hc32=>?_
 refine nt<|sq<|sg<|Pl 3<|?_
 have U33:=u1 (Upd.mono (S':=[g]) hu19 all0) hu29 im
 have r34:=ub1 U33 (Ne.symm hne) B16
 refine L0<|Olb r34 8<|Pl 1<|nt<|?_
 have U35:=u1 (Upd.mono (S':=[g,gm]) hu12 (ac im all0)) hu17 im
 have U36:=ut0 U35 hu19
 have U37:=u1 U36 hu29 im
 refine cb ((C.wordV != 0)) (fun q38=>?_) (fun q38=>?_)
 have q38p:=ne_of_bnei q38
 refine sg<|Pl 2<|L0<|Oc<|so3 (words_any (n:=1) hc32) fun A46 cp47 w39 rd50 hl48 hm49 hc42 hu43=>Pl 2<|?_
 have r51:=ub1 hu43 (Ne.symm hne) r34
 refine L0<|Ost r51 12 (mG c 0 0 0 0 0 0 0 C.wordV 0 0 0 (.slice A46 ((x30.wordsR 1).length) cp47) nS nS nS 0 0 0 0 0 nS) fun w52 B53 hu54=>nt<|sq<|Rg 22 (fun w'=>w'.cell? ⟨gm,12,none⟩=some (.slice A46 ((x30.wordsR 1).length) cp47)∧w'.cell? ⟨gm,8,none⟩=some (.int .u16 C.wordV)) fun w78 hu79=>?_
 have r81:=ub hu79 B53
 refine hld ⟨(blk_at r81 rfl),(blk_at r81 rfl)⟩ fun hS80=>Rt 0 hS80<|Rt 1 hS80<|Rt 2 hS80<|Rt 3 hS80<|Rl 4 hS80 (fun _ hs=>hs.1)<|Rt 5 hS80<|Rt 6 hS80<|Rt 7 hS80<|?_
 have U82:=u1 U37 hu43 im
 have U83:=u1 U82 hu54 im
 have U84:=ut0 U83 hu79
 refine bla 47 (((((x30.wordsR 1).length:Nat) : Int) == 1)) (fun q85=>?_) (fun q85=>?_)
 have q85p:=eq_of_beqi q85
 refine Rt 8 hS80<|Rt 9 hS80<|Rt 10 hS80<|Rt 11 hS80<|Rl 12 hS80 (fun _ hs=>hs.2)<|Rt 13 hS80<|Rt 14 hS80<|Rt 15 hS80<|Rl 16 hS80 (fun _ hs=>hs.1)<|?_
 have U86:=ut0 hu54 hu79
 have r87:=own_stay rd50 U86 (fun x hx=>(not_cons (fun e=>(not_old (blk_lt hm) U37.size rd50) (e ▸ hx)) not0)) (fun _ _ h=>h)
 refine x23 (RdW.at_ (r87).rd 0 (by omega)) fun b88 o89 hA90 hl91 hr92=>R0 17 rfl<|Oix ((x30.wordsR 1).length) 0 hA90 (by omega)<|hld ⟨(blk_at r81 rfl),(blk_at r81 rfl)⟩ fun hS93=>R0 18 rfl<|Old (p:=⟨b88,o89 + 0,none⟩) (v:=.int .u16 ((x30.wordsR 1).getD 0 0)) hl91<|hld ⟨(blk_at r81 rfl),(blk_at r81 rfl)⟩ fun hS94=>R0 19 rfl<|Oc<|m1 (may_any (dir:=dir) (sub:=C.wordV) (v:=((x30.wordsR 1).getD 0 0)) (by omega)) fun w95 hu96=>?_
 have r98:=ub hu96 r81
 refine hld ⟨(blk_at r98 rfl),(blk_at r98 rfl)⟩ fun hS97=>Rt 20 hS97<|?_
 have U99:=ut0 U86 hu96
 have r100:=CurAt.upd hc42 U99 (not_cons hne not0) (safe_cons (safe1 r51 (by decide)) safe0)
 refine R0 21 rfl<|Oc<|m2 (need_any ((mayB dir C.wordV ((x30.wordsR 1).getD 0 0))) 6 r100) fun w101 hc102 hu103=>?_
 refine ab hc102 fun x104 ex105 hc106=>?_
 have r108:=ub1 hu103 (Ne.symm hne) r98
 refine hld ⟨(blk_at r108 rfl),(blk_at r108 rfl)⟩ fun hS107=>re<|tn<|rt<|tr<|rr (.tuple #[])<|?_
 subst ex105 ex31
 have U109:=u1 (Upd.mono (S':=[g]) hu96 all0) hu103 im
 have r110:=own_stay r87 U109 (fun x hx=>(not_cons (fun e=>(not_old (CurAt.lt hC) U37.size rd50) (e ▸ hx)) not0)) (fun _ _ h=>h)
 have hs:lineR dir c C=(((((C.wordsC 1).need ((subB C.wordV) && ((dir == 0) || (C.wordV != 4))) 8).wordsC 1).need (mayB dir C.wordV ((((C.wordsC 1).need ((subB C.wordV) && ((dir == 0) || (C.wordV != 4))) 8).wordsR 1).getD 0 0)) 6),(Msg.mk c 0 0 0 0 0 0 0 C.wordV 0 0 0 (((C.wordsC 1).need ((subB C.wordV) && ((dir == 0) || (C.wordV != 4))) 8).wordsR 1) [] [] [] 0 0 0 0 0 [])):=by
   unfold lineR line1 line2
   (try simp only [q38,q85,bs,if_true,if_false,decide_true,decide_false,reduceIte])
   all_goals rfl
 rw [hs]
 have U111:=ut0 U84 hu96
 have U112:=u1 U111 hu103 im
 exact ⟨rfl,hc106,⟨_,⟨r108,rfl⟩,⟨_,_,_,_,_,rfl,(r110).rd,RdG.nil ..,RdG.nil ..,RdG.nil ..,RdG.nil ..,⟨(b8 (x:=c) (by omega)),(b8 (x:=0) (by omega)),(b16 (x:=0) (by omega)),(b16 (x:=0) (by omega)),(b16 (x:=0) (by omega)),(b16 (x:=0) (by omega)),(b16 (x:=0) (by omega)),(b16 (x:=0) (by omega)),(b16 (x:=C.wordV) (by omega)),(b16 (x:=0) (by omega)),(b16 (x:=0) (by omega)),(b16 (x:=0) (by omega)),(b8 (x:=0) (by omega)),(b8 (x:=0) (by omega)),(b8 (x:=0) (by omega)),(b8 (x:=0) (by omega)),(b8 (x:=0) (by omega))⟩⟩⟩,U112⟩
 have q85p:=ne_of_beqi q85
 refine Ro 8 hS80<|Ro 9 hS80<|Ro 10 hS80<|Ro 11 hS80<|Ro 12 hS80<|Ro 13 hS80<|Ro 14 hS80<|Ro 15 hS80<|Ro 16 hS80<|Ro 17 hS80<|Ro 18 hS80<|Ro 19 hS80<|Rt 20 hS80<|?_
 have U113:=ut0 hu54 hu79
 have r114:=CurAt.upd hc42 U113 (not_cons hne not0) (safe_cons (safe1 r51 (by decide)) safe0)
 refine R0 21 rfl<|Oc<|m2 (need_any (false) 6 r114) fun w115 hc116 hu117=>?_
 have r119:=ub1 hu117 (Ne.symm hne) r81
 refine hld ⟨(blk_at r119 rfl),(blk_at r119 rfl)⟩ fun hS118=>re<|tn<|rt<|tr<|rr (.tuple #[])<|?_
 subst ex31
 have U120:=u1 (Upd.mono (S':=[gm,g]) U113 (ac im all0)) hu117 im
 have r121:=own_stay rd50 U120 (fun x hx=>(not_cons (fun e=>(not_old (blk_lt hm) U37.size rd50) (e ▸ hx)) (not_cons (fun e=>(not_old (CurAt.lt hC) U37.size rd50) (e ▸ hx)) not0))) (fun _ _ h=>h)
 have hs:lineR dir c C=(((((C.wordsC 1).need ((subB C.wordV) && ((dir == 0) || (C.wordV != 4))) 8).wordsC 1).need false 6),(Msg.mk c 0 0 0 0 0 0 0 C.wordV 0 0 0 (((C.wordsC 1).need ((subB C.wordV) && ((dir == 0) || (C.wordV != 4))) 8).wordsR 1) [] [] [] 0 0 0 0 0 [])):=by
   unfold lineR line1 line2
   (try simp only [q38,q85,bs,if_true,if_false,decide_true,decide_false,reduceIte])
   all_goals rfl
 rw [hs]
 have U122:=u1 U84 hu117 im
 exact ⟨rfl,hc116,⟨_,⟨r119,rfl⟩,⟨_,_,_,_,_,rfl,(r121).rd,RdG.nil ..,RdG.nil ..,RdG.nil ..,RdG.nil ..,⟨(b8 (x:=c) (by omega)),(b8 (x:=0) (by omega)),(b16 (x:=0) (by omega)),(b16 (x:=0) (by omega)),(b16 (x:=0) (by omega)),(b16 (x:=0) (by omega)),(b16 (x:=0) (by omega)),(b16 (x:=0) (by omega)),(b16 (x:=C.wordV) (by omega)),(b16 (x:=0) (by omega)),(b16 (x:=0) (by omega)),(b16 (x:=0) (by omega)),(b8 (x:=0) (by omega)),(b8 (x:=0) (by omega)),(b8 (x:=0) (by omega)),(b8 (x:=0) (by omega)),(b8 (x:=0) (by omega))⟩⟩⟩,U122⟩
 have q38p:=eq_of_bnei q38
 refine skn<|sg<|Pl 1<|L0<|Oc<|mq (left_any hc32)<|?_
 have hl123:=CurAt.len hc32
 refine Pl 1<|ng<|Pl 2<|L0<|Oe (.int .i64 (Int.tmod ((x30.l.length:Nat) : Int) 2)) (.int .i64 (((x30.l.length:Nat) : Int) % 2)) (congrArg (Value.int .i64) (Int.tmod_eq_emod_of_nonneg (by omega)))<|Pl 2<|cu 3 [68] 71 ((((((x30.l.length:Nat) : Int) % 2) == 0) && (decide (2≤((x30.l.length:Nat) : Int))))) (fun K K125=>?_) ?_
 refine bl 68 (((((x30.l.length:Nat) : Int) % 2) == 0)) (fun q124=>?_) (fun q124=>?_)
 have q124p:=eq_of_beqi q124
 exact Pl 3<|ce K125 (decide (2≤((x30.l.length:Nat) : Int))) (by rw [q124]; rfl)
 have q124p:=ne_of_beqi q124
 exact Pl 3<|ce K125 false (by rw [q124]; rfl)
 refine Pl 1<|cu 3 [72] 75 (((((((x30.l.length:Nat) : Int) % 2) == 0) && (decide (2≤((x30.l.length:Nat) : Int)))) && (decide (((x30.l.length:Nat) : Int)≤250)))) (fun K K127=>?_) ?_
 refine bl 72 ((((((x30.l.length:Nat) : Int) % 2) == 0) && (decide (2≤((x30.l.length:Nat) : Int))))) (fun q126=>?_) (fun q126=>?_)
 have q126a:=(and_t q126).1
 have q126b:=(and_t q126).2
 have q126ap:=eq_of_beqi q126a
 have q126bp:=of_decide_eq_true q126b
 exact Pl 3<|ce K127 (decide (((x30.l.length:Nat) : Int)≤250)) (by rw [q126]; rfl)
 exact Pl 3<|ce K127 false (by rw [q126]; rfl)
 refine L0<|Oc<|m2 (need_any (((((((x30.l.length:Nat) : Int) % 2) == 0) && (decide (2≤((x30.l.length:Nat) : Int)))) && (decide (((x30.l.length:Nat) : Int)≤250)))) 5 hc32) fun w128 hc129 hu130=>?_
 refine ab hc129 fun x131 ex132 hc133=>?_
 refine nt<|go<|Pl 3<|L0<|Oe (.int .i64 (IntKind.i64.wrap (Int.tdiv ((x30.l.length:Nat) : Int) 2))) (.int .i64 (((x30.l.length:Nat) : Int) / 2)) (congrArg (Value.int .i64) (i64_quo (by omega) (by omega)))<|L0<|Oc<|so3 (words_any (n:=(((x30.l.length:Nat) : Int) / 2)) hc133) fun A144 cp145 w134 rd148 hl146 hm147 hc137 hu138=>?_
 refine ab hc137 fun x141 ex142 hc143=>?_
 refine Pl 2<|?_
 have U149:=u1 hu130 hu138 im
 have r150:=ub1 U149 (Ne.symm hne) r34
 refine L0<|Ost r150 12 (mG c 0 0 0 0 0 0 0 C.wordV 0 0 0 (.slice A144 ((x131.wordsR (((x30.l.length:Nat) : Int) / 2)).length) cp145) nS nS nS 0 0 0 0 0 nS) fun w151 B152 hu153=>nl<|rm (.tuple #[])<|?_
 subst ex142 ex132 ex31
 have r154:=own_stay rd148 hu153 (fun x hx=>(not_cons (fun e=>(not_old (blk_lt hm) (le (le (le (le hu12.size hu17.size) hu19.size) hu29.size) hu130.size) rd148) (e ▸ hx)) not0)) (fun _ _ h=>h)
 have hs:lineR dir c C=(((((C.wordsC 1).need ((subB C.wordV) && ((dir == 0) || (C.wordV != 4))) 8).need ((((((((C.wordsC 1).need ((subB C.wordV) && ((dir == 0) || (C.wordV != 4))) 8).l.length:Nat) : Int) % 2) == 0) && (decide (2≤((((C.wordsC 1).need ((subB C.wordV) && ((dir == 0) || (C.wordV != 4))) 8).l.length:Nat) : Int)))) && (decide (((((C.wordsC 1).need ((subB C.wordV) && ((dir == 0) || (C.wordV != 4))) 8).l.length:Nat) : Int)≤250))) 5).wordsC (((((C.wordsC 1).need ((subB C.wordV) && ((dir == 0) || (C.wordV != 4))) 8).l.length:Nat) : Int) / 2)),(Msg.mk c 0 0 0 0 0 0 0 C.wordV 0 0 0 ((((C.wordsC 1).need ((subB C.wordV) && ((dir == 0) || (C.wordV != 4))) 8).need ((((((((C.wordsC 1).need ((subB C.wordV) && ((dir == 0) || (C.wordV != 4))) 8).l.length:Nat) : Int) % 2) == 0) && (decide (2≤((((C.wordsC 1).need ((subB C.wordV) && ((dir == 0) || (C.wordV != 4))) 8).l.length:Nat) : Int)))) && (decide (((((C.wordsC 1).need ((subB C.wordV) && ((dir == 0) || (C.wordV != 4))) 8).l.length:Nat) : Int)≤250))) 5).wordsR (((((C.wordsC 1).need ((subB C.wordV) && ((dir == 0) || (C.wordV != 4))) 8).l.length:Nat) : Int) / 2)) [] [] [] 0 0 0 0 0 [])):=by
   unfold lineR line1 line2
   (try simp only [q38,bs,if_true,if_false,decide_true,decide_false,reduceIte])
   all_goals rfl
 rw [hs]
 have r155:=CurAt.upd hc143 hu153 (not_cons hne not0) (safe_cons (safe1 r150 (by decide)) safe0)
 have U156:=u1 U37 hu130 im
 have U157:=u1 U156 hu138 im
 have U158:=u1 U157 hu153 im
 exact ⟨rfl,r155,⟨_,⟨B152,rfl⟩,⟨_,_,_,_,_,rfl,(r154).rd,RdG.nil ..,RdG.nil ..,RdG.nil ..,RdG.nil ..,⟨(b8 (x:=c) (by omega)),(b8 (x:=0) (by omega)),(b16 (x:=0) (by omega)),(b16 (x:=0) (by omega)),(b16 (x:=0) (by omega)),(b16 (x:=0) (by omega)),(b16 (x:=0) (by omega)),(b16 (x:=0) (by omega)),(b16 (x:=C.wordV) (by omega)),(b16 (x:=0) (by omega)),(b16 (x:=0) (by omega)),(b16 (x:=0) (by omega)),(b8 (x:=0) (by omega)),(b8 (x:=0) (by omega)),(b8 (x:=0) (by omega)),(b8 (x:=0) (by omega)),(b8 (x:=0) (by omega))⟩⟩⟩,U158⟩
set_option maxRecDepth 100000 in
set_option maxHeartbeats 4000000 in
theorem answer_any {g gm:Nat} {c:Int} {C:Cur} {w:World} (hcode:B8 c) (hC:CurAt w g C) (hm:w.heap[gm]? = some (.cells #[.int .u8 c,.int .u8 0,.int .u16 0,.int .u16 0,.int .u16 0,.int .u16 0,.int .u16 0,.int .u16 0,.int .u16 0,.int .u16 0,.int .u16 0,.int .u16 0,.slice none 0 0,.slice none 0 0,.slice none 0 0,.slice none 0 0,.int .u8 0,.int .u8 0,.int .u8 0,.int .u8 0,.int .u8 0,.slice none 0 0] 31 (0,0))) (hne:g ≠ gm) :
    Calls Tryz.prog 89 #[.pointer (some ⟨g,0,none⟩),.pointer (some ⟨gm,0,none⟩)] w (PFormG g gm (answerR c C).1 (answerR c C).2 w):=by
 obtain ⟨hcode1,hcode2⟩:=hcode
 have hlen:=hC.len
 refine en 84 Tryz.func89 rfl<|sg<|Pl 3<|L0<|Olb hm 0<|nt<|bk<|sg<|Pl 2<|nt<|cb ((c == 7)) (fun q10=>?_) (fun q10=>?_)
 have q10p:=eq_of_beqi q10
 refine go<|Pl 2<|L0<|Oc<|m3 (byte_any hC) fun w11 hc12 hu13 hr14=>L0<|O16 C.byteV<|Pl 2<|?_
 have r15:=ub1 hu13 (Ne.symm hne) hm
 refine L0<|Ost r15 4 (mG c 0 0 0 C.byteV 0 0 0 0 0 0 0 nS nS nS nS 0 0 0 0 0 nS) fun w16 B17 hu18=>nl<|bn<|rm (.tuple #[])<|?_
 have hs:answerR c C=((C.bytesC 1),(Msg.mk c 0 0 0 C.byteV 0 0 0 0 0 0 0 [] [] [] [] 0 0 0 0 0 [])):=by
   unfold answerR ans12 ansL
   (try simp only [q10,bs,if_true,if_false,decide_true,decide_false,reduceIte])
   all_goals rfl
 rw [hs]
 have r19:=CurAt.upd hc12 hu18 (not_cons hne not0) (safe_cons (safe1 r15 (by decide)) safe0)
 have U20:=u1 (Upd.mono (S':=[g,gm]) hu13 (ac im all0)) hu18 im
 exact ⟨rfl,r19,⟨_,⟨B17,rfl⟩,⟨_,_,_,_,_,rfl,RdG.nil ..,RdG.nil ..,RdG.nil ..,RdG.nil ..,RdG.nil ..,⟨(b8 (x:=c) (by omega)),(b8 (x:=0) (by omega)),(b16 (x:=0) (by omega)),(b16 (x:=0) (by omega)),(b16 (x:=C.byteV) (by omega)),(b16 (x:=0) (by omega)),(b16 (x:=0) (by omega)),(b16 (x:=0) (by omega)),(b16 (x:=0) (by omega)),(b16 (x:=0) (by omega)),(b16 (x:=0) (by omega)),(b16 (x:=0) (by omega)),(b8 (x:=0) (by omega)),(b8 (x:=0) (by omega)),(b8 (x:=0) (by omega)),(b8 (x:=0) (by omega)),(b8 (x:=0) (by omega))⟩⟩⟩,U20⟩
 have q10p:=ne_of_beqi q10
 refine sg<|Pl 2<|nt<|cb ((c == 11)) (fun q21=>?_) (fun q21=>?_)
 have q21p:=eq_of_beqi q21
 refine sg<|Pl 2<|L0<|Oc<|m3 (busy_any hC) fun w22 hc23 hu24 hr25=>Pl 2<|?_
 have r26:=ub1 hu24 (Ne.symm hne) hm
 refine L0<|Ost r26 9 (mG c 0 0 0 0 0 0 0 0 C.wordV 0 0 nS nS nS nS 0 0 0 0 0 nS) fun w27 B28 hu29=>nt<|go<|Pl 2<|?_
 have r30:=CurAt.upd hc23 hu29 (not_cons hne not0) (safe_cons (safe1 r26 (by decide)) safe0)
 refine L0<|Oc<|m3 (word_any r30) fun w31 hc32 hu33 hr34=>Pl 2<|?_
 have r35:=ub1 hu33 (Ne.symm hne) B28
 refine L0<|Ost r35 10 (mG c 0 0 0 0 0 0 0 0 C.wordV ((busyC C).wordV) 0 nS nS nS nS 0 0 0 0 0 nS) fun w36 B37 hu38=>nl<|bn<|rm (.tuple #[])<|?_
 have hs:answerR c C=(((busyC C).wordsC 1),(Msg.mk c 0 0 0 0 0 0 0 0 C.wordV ((busyC C).wordV) 0 [] [] [] [] 0 0 0 0 0 [])):=by
   unfold answerR ans12 ansL
   (try simp only [q10,q21,bs,if_true,if_false,decide_true,decide_false,reduceIte])
   all_goals rfl
 rw [hs]
 have r39:=CurAt.upd hc32 hu38 (not_cons hne not0) (safe_cons (safe1 r35 (by decide)) safe0)
 have U40:=u1 (Upd.mono (S':=[g,gm]) hu24 (ac im all0)) hu29 im
 have U41:=u1 U40 hu33 im
 have U42:=u1 U41 hu38 im
 exact ⟨rfl,r39,⟨_,⟨B37,rfl⟩,⟨_,_,_,_,_,rfl,RdG.nil ..,RdG.nil ..,RdG.nil ..,RdG.nil ..,RdG.nil ..,⟨(b8 (x:=c) (by omega)),(b8 (x:=0) (by omega)),(b16 (x:=0) (by omega)),(b16 (x:=0) (by omega)),(b16 (x:=0) (by omega)),(b16 (x:=0) (by omega)),(b16 (x:=0) (by omega)),(b16 (x:=0) (by omega)),(b16 (x:=0) (by omega)),(b16 (x:=C.wordV) (by omega)),(b16 (x:=(busyC C).wordV) (by omega)),(b16 (x:=0) (by omega)),(b8 (x:=0) (by omega)),(b8 (x:=0) (by omega)),(b8 (x:=0) (by omega)),(b8 (x:=0) (by omega)),(b8 (x:=0) (by omega))⟩⟩⟩,U42⟩
 have q21p:=ne_of_beqi q21
 refine sg<|Pl 2<|nt<|cb ((c == 12)) (fun q43=>?_) (fun q43=>?_)
 have q43p:=eq_of_beqi q43
 refine sg<|Pl 1<|L0<|Oc<|m3 (byte_any hC) fun w44 hc45 hu46 hr47=>L0<|Oi C.byteV<|Pl 1<|ng<|Pl 4<|cu 3 [38] 41 (((decide (6≤C.byteV)) && (decide (C.byteV≤70)))) (fun K K49=>?_) ?_
 refine bl 38 ((decide (6≤C.byteV))) (fun q48=>?_) (fun q48=>?_)
 have q48p:=of_decide_eq_true q48
 exact Pl 3<|ce K49 (decide (C.byteV≤70)) (by rw [q48]; rfl)
 have q48p:=of_decide_eq_false q48
 exact Pl 3<|ce K49 false (by rw [q48]; rfl)
 refine L0<|Oc<|m2 (need_any (((decide (6≤C.byteV)) && (decide (C.byteV≤70)))) 5 hc45) fun w50 hc51 hu52=>?_
 refine ab hc51 fun x53 ex54 hc55=>?_
 refine ng<|Pl 2<|L0<|Oc<|m3 (busy_any hc55) fun w56 hc57 hu58 hr59=>Pl 2<|?_
 have U60:=u1 hu46 hu52 im
 have U61:=u1 U60 hu58 im
 have r62:=ub1 U61 (Ne.symm hne) hm
 refine L0<|Ost r62 9 (mG c 0 0 0 0 0 0 0 0 x53.wordV 0 0 nS nS nS nS 0 0 0 0 0 nS) fun w63 B64 hu65=>ng<|Pl 3<|?_
 have r66:=CurAt.upd hc57 hu65 (not_cons hne not0) (safe_cons (safe1 r62 (by decide)) safe0)
 refine L0<|Oc<|m3 (word_any r66) fun w67 hc68 hu69 hr70=>Pl 1<|L0<|Oc<|m3 (word_any hc68) fun w71 hc72 hu73 hr74=>?_
 refine ab hc72 fun x75 ex76 hc77=>?_
 refine Pl 2<|?_
 have U78:=u1 hu69 hu73 im
 have r79:=ub1 U78 (Ne.symm hne) B64
 refine L0<|Ost r79 10 (mG c 0 0 0 0 0 0 0 0 x53.wordV ((busyC x53).wordV) 0 nS nS nS nS 0 0 0 0 0 nS) fun w80 B81 hu82=>Pl 2<|L0<|Ost B81 11 (mG c 0 0 0 0 0 0 0 0 x53.wordV ((busyC x53).wordV) (((busyC x53).wordsC 1).wordV) nS nS nS nS 0 0 0 0 0 nS) fun w83 B84 hu85=>nt<|go<|Pl 3<|L0<|Oi (C.byteV - 6)<|?_
 have U86:=u1 hu82 hu85 im
 have r87:=CurAt.upd hc77 U86 (not_cons hne not0) (safe_cons (safe1 r79 (by decide)) safe0)
 refine L0<|Oc<|sr3 (bytes_any (n:=(C.byteV - 6)) r87) fun A94 cp95 w88 rd98 hl96 hm97 hc91 hu92=>?_
 have hlb93:=Nat.le_trans (Cur.bytesR_le x75 (C.byteV - 6)) (CurAt.len r87)
 refine Pl 2<|?_
 have r99:=ub1 hu92 (Ne.symm hne) B84
 refine L0<|Ost r99 14 (mG c 0 0 0 0 0 0 0 0 x53.wordV ((busyC x53).wordV) (((busyC x53).wordsC 1).wordV) nS nS (.slice A94 ((x75.bytesR (C.byteV - 6)).length) cp95) nS 0 0 0 0 0 nS) fun w100 B101 hu102=>nl<|bn<|rm (.tuple #[])<|?_
 subst ex76 ex54
 have r103:=RdB.upd' rd98 hu102 (safe_cons (safe1 r99 (by decide)) safe0)
 have hs:answerR c C=(((((busyC ((C.bytesC 1).need ((decide (6≤C.byteV)) && (decide (C.byteV≤70))) 5)).wordsC 1).wordsC 1).bytesC (C.byteV - 6)),(Msg.mk c 0 0 0 0 0 0 0 0 (((C.bytesC 1).need ((decide (6≤C.byteV)) && (decide (C.byteV≤70))) 5).wordV) ((busyC ((C.bytesC 1).need ((decide (6≤C.byteV)) && (decide (C.byteV≤70))) 5)).wordV) (((busyC ((C.bytesC 1).need ((decide (6≤C.byteV)) && (decide (C.byteV≤70))) 5)).wordsC 1).wordV) [] [] ((((busyC ((C.bytesC 1).need ((decide (6≤C.byteV)) && (decide (C.byteV≤70))) 5)).wordsC 1).wordsC 1).bytesR (C.byteV - 6)) [] 0 0 0 0 0 [])):=by
   unfold answerR ans12 ansL
   (try simp only [q10,q21,q43,bs,if_true,if_false,decide_true,decide_false,reduceIte])
   all_goals rfl
 rw [hs]
 have r104:=CurAt.upd hc91 hu102 (not_cons hne not0) (safe_cons (safe1 r99 (by decide)) safe0)
 have U105:=u1 (Upd.mono (S':=[g,gm]) U61 (ac im all0)) hu65 im
 have U106:=u1 U105 hu69 im
 have U107:=u1 U106 hu73 im
 have U108:=u1 U107 hu82 im
 have U109:=u1 U108 hu85 im
 have U110:=u1 U109 hu92 im
 have U111:=u1 U110 hu102 im
 exact ⟨rfl,r104,⟨_,⟨B101,rfl⟩,⟨_,_,_,_,_,rfl,RdG.nil ..,RdG.nil ..,r103,RdG.nil ..,RdG.nil ..,⟨(b8 (x:=c) (by omega)),(b8 (x:=0) (by omega)),(b16 (x:=0) (by omega)),(b16 (x:=0) (by omega)),(b16 (x:=0) (by omega)),(b16 (x:=0) (by omega)),(b16 (x:=0) (by omega)),(b16 (x:=0) (by omega)),(b16 (x:=0) (by omega)),(b16 (x:=((C.bytesC 1).need ((decide (6≤C.byteV)) && (decide (C.byteV≤70))) 5).wordV) (by omega)),(b16 (x:=(busyC ((C.bytesC 1).need ((decide (6≤C.byteV)) && (decide (C.byteV≤70))) 5)).wordV) (by omega)),(b16 (x:=((busyC ((C.bytesC 1).need ((decide (6≤C.byteV)) && (decide (C.byteV≤70))) 5)).wordsC 1).wordV) (by omega)),(b8 (x:=0) (by omega)),(b8 (x:=0) (by omega)),(b8 (x:=0) (by omega)),(b8 (x:=0) (by omega)),(b8 (x:=0) (by omega))⟩⟩⟩,U111⟩
 have q43p:=ne_of_beqi q43
 refine sg<|Pl 2<|nt<|cb ((c == 17)) (fun q112=>?_) (fun q112=>?_)
 have q112p:=eq_of_beqi q112
 refine sg<|Pl 1<|L0<|Oc<|m3 (byte_any hC) fun w113 hc114 hu115 hr116=>L0<|Oi C.byteV<|Pl 1<|ng<|Pl 4<|cu 3 [73] 76 (((decide (1≤C.byteV)) && (decide (C.byteV≤251)))) (fun K K118=>?_) ?_
 refine bl 73 ((decide (1≤C.byteV))) (fun q117=>?_) (fun q117=>?_)
 have q117p:=of_decide_eq_true q117
 exact Pl 3<|ce K118 (decide (C.byteV≤251)) (by rw [q117]; rfl)
 have q117p:=of_decide_eq_false q117
 exact Pl 3<|ce K118 false (by rw [q117]; rfl)
 refine L0<|Oc<|m2 (need_any (((decide (1≤C.byteV)) && (decide (C.byteV≤251)))) 5 hc114) fun w119 hc120 hu121=>?_
 refine ab hc120 fun x122 ex123 hc124=>?_
 refine nt<|go<|Pl 3<|L0<|Oc<|sr3 (bytes_any (n:=C.byteV) hc124) fun A131 cp132 w125 rd135 hl133 hm134 hc128 hu129=>?_
 have hlb130:=Nat.le_trans (Cur.bytesR_le x122 C.byteV) (CurAt.len hc124)
 refine Pl 2<|?_
 have U136:=u1 hu115 hu121 im
 have U137:=u1 U136 hu129 im
 have r138:=ub1 U137 (Ne.symm hne) hm
 refine L0<|Ost r138 14 (mG c 0 0 0 0 0 0 0 0 0 0 0 nS nS (.slice A131 ((x122.bytesR C.byteV).length) cp132) nS 0 0 0 0 0 nS) fun w139 B140 hu141=>nl<|bn<|rm (.tuple #[])<|?_
 subst ex123
 have r142:=RdB.upd' rd135 hu141 (safe_cons (safe1 r138 (by decide)) safe0)
 have hs:answerR c C=((((C.bytesC 1).need ((decide (1≤C.byteV)) && (decide (C.byteV≤251))) 5).bytesC C.byteV),(Msg.mk c 0 0 0 0 0 0 0 0 0 0 0 [] [] (((C.bytesC 1).need ((decide (1≤C.byteV)) && (decide (C.byteV≤251))) 5).bytesR C.byteV) [] 0 0 0 0 0 [])):=by
   unfold answerR ans12 ansL
   (try simp only [q10,q21,q43,q112,bs,if_true,if_false,decide_true,decide_false,reduceIte])
   all_goals rfl
 rw [hs]
 have r143:=CurAt.upd hc128 hu141 (not_cons hne not0) (safe_cons (safe1 r138 (by decide)) safe0)
 have U144:=u1 (Upd.mono (S':=[g,gm]) U137 (ac im all0)) hu141 im
 exact ⟨rfl,r143,⟨_,⟨B140,rfl⟩,⟨_,_,_,_,_,rfl,RdG.nil ..,RdG.nil ..,r142,RdG.nil ..,RdG.nil ..,⟨(b8 (x:=c) (by omega)),(b8 (x:=0) (by omega)),(b16 (x:=0) (by omega)),(b16 (x:=0) (by omega)),(b16 (x:=0) (by omega)),(b16 (x:=0) (by omega)),(b16 (x:=0) (by omega)),(b16 (x:=0) (by omega)),(b16 (x:=0) (by omega)),(b16 (x:=0) (by omega)),(b16 (x:=0) (by omega)),(b16 (x:=0) (by omega)),(b8 (x:=0) (by omega)),(b8 (x:=0) (by omega)),(b8 (x:=0) (by omega)),(b8 (x:=0) (by omega)),(b8 (x:=0) (by omega))⟩⟩⟩,U144⟩
 have q112p:=ne_of_beqi q112
 refine sk<|bn<|rm (.tuple #[])<|?_
 have hs:answerR c C=(C,(Msg.mk c 0 0 0 0 0 0 0 0 0 0 0 [] [] [] [] 0 0 0 0 0 [])):=by
   unfold answerR ans12 ansL
   (try simp only [q10,q21,q43,q112,bs,if_true,if_false,decide_true,decide_false,reduceIte])
   all_goals rfl
 rw [hs]
 exact ⟨rfl,hC,⟨_,⟨hm,rfl⟩,⟨_,_,_,_,_,rfl,RdG.nil ..,RdG.nil ..,RdG.nil ..,RdG.nil ..,RdG.nil ..,⟨(b8 (x:=c) (by omega)),(b8 (x:=0) (by omega)),(b16 (x:=0) (by omega)),(b16 (x:=0) (by omega)),(b16 (x:=0) (by omega)),(b16 (x:=0) (by omega)),(b16 (x:=0) (by omega)),(b16 (x:=0) (by omega)),(b16 (x:=0) (by omega)),(b16 (x:=0) (by omega)),(b16 (x:=0) (by omega)),(b16 (x:=0) (by omega)),(b8 (x:=0) (by omega)),(b8 (x:=0) (by omega)),(b8 (x:=0) (by omega)),(b8 (x:=0) (by omega)),(b8 (x:=0) (by omega))⟩⟩⟩,(Upd.mono (S':=[g,gm]) (Upd.refl [] _) all0)⟩
open Go.RowKit
def diagForm (dir c:Int) (C:Cur) : Option (Cur × Msg) :=
  if c == 8 then some (lineR dir c C)
  else if c == 7 || c == 11 || c == 12 || c == 17 then (if dir == 1 then some (answerR c C) else some (C,{ Msg.zero with code:=c }))
  else none
set_option maxRecDepth 100000 in
set_option maxHeartbeats 4000000 in
theorem diag_parse_0 {m:Bool} {A:Option Addr} {cp:Nat} {b:List Int} {w:World} {c:Int} (hcode:B8 c) (hsl:RdB m w (.slice A b.length cp) b) (hb:b.length≤1048576) :
    Calls Tryz.prog 62 #[.int .i64 0,.int .u8 c,.slice A b.length cp] w (PMsg (parseOf diagForm 0 c b) w):=by
 obtain ⟨hcode1,hcode2⟩:=hcode
 have hln:(b.length:Int)≤1048576:=by omega
 refine en 47 Tryz.func62 rfl<|sg<|L0<|Oal mZ fun g10 w11 hg12 B13 hu14=>Pl 1<|nt<|sq<|sg<|Pl 6<|nt<|c0<|?_
 refine skn<|sg<|Pl 2<|L0<|Oal mZ fun g15 w16 hg17 B18 hu19=>L0<|Osw B18 (mC c) fun w20 B21 hu22=>ng<|Pl 1<|?_
 have U23:=ut0 hu14 hu19
 have U24:=u1 U23 hu22 (ni hu14.size hg17)
 have r25:=RdB.old hsl U24
 refine L0<|Oc<|e3 (new_any r25 (by omega)) fun g27 w26 hg28 hc29 hu30=>Pl 1<|nt<|sq<|sg<|Pl 1<|nt<|bk<|sg<|Pl 2<|nl<|?_
 refine tn<|?_
 have U31:=ut0 U24 hu30
 refine cb ((c == 8)) (fun q32=>?_) (fun q32=>?_)
 have q32p:=eq_of_beqi q32
 refine go<|Pl 2<|?_
 have r33:=ub hu30 B21
 have ne40:=nb (blk_lt B18) hu22.size hg28
 refine L0<|Oc<|m3 (line_any (dir:=0) (c:=c) ⟨hcode1,hcode2⟩ hc29 r33 (Ne.symm ne40)) fun w34 hc35 hx44 hu39=>?_
 obtain ⟨cs36,hm37,hM38⟩:=hx44
 refine ab hc35 fun x41 ex42 hc43=>?_
 refine nl<|bn<|tn<|sg<|Pl 1<|L0<|Oc<|m2 (end_any hc43) fun w45 hc46 hu47=>nt<|sq<|sg<|Pl 1<|L0<|Oc<|mq (err_any hc46)<|?_
 have hl48:=CurAt.len hc46
 refine Pl 1<|ng<|Pl 2<|nt<|?_
 have U49:=ut U31 hu39 (ac (ni U24.size hg28) (ac (ni hu14.size hg17) all0))
 have U50:=u1 U49 hu47 (ni U24.size hg28)
 refine cb ((x41.endC.e != 0)) (fun q51=>?_) (fun q51=>?_)
 have q51p:=ne_of_bnei q51
 refine sg<|Pl 2<|?_
 have U52:=u1 hu19 hu22 (nr hg17)
 have U53:=ut0 U52 hu30
 have U54:=ut U53 hu39 (ac (ni U52.size hg28) (ac (nr hg17) all0))
 have U55:=u1 U54 hu47 (ni U52.size hg28)
 have r56:=ub U55 B13
 refine L0<|Osw r56 mZ fun w57 B58 hu59=>Pl 1<|nt<|rt<|tr<|rct B58 (.int .i64 x41.endC.e)<|?_
 subst ex42
 have U60:=u1 U50 hu59 (nr hg12)
 have hs:parseOf diagForm 0 c b=finish ((lineR 0 c (Cur.mk b false 0)).2) ((lineR 0 c (Cur.mk b false 0)).1):=by
   unfold parseOf diagForm 
   (try simp only [q32,q51,bs,if_true,if_false,decide_true,decide_false,eq_self,true_or,or_true,or_false,false_or,if_true,if_false,i00,i01,i10,i11,reduceIte])
   all_goals rfl
 rw [hs]
 exact finish_bad q51p U60
 have q51p:=eq_of_bnei q51
 refine skn<|sg<|?_
 have r61:=ub1 hu47 ne40 hm37.1
 refine L0<|Olw (hz:=(by rw [hm37.2]; exact msg_size)) r61<|?_
 have U62:=u1 hu19 hu22 (nr hg17)
 have U63:=ut0 U62 hu30
 have U64:=ut U63 hu39 (ac (ni U62.size hg28) (ac (nr hg17) all0))
 have U65:=u1 U64 hu47 (ni U62.size hg28)
 have r66:=ub U65 B13
 refine L0<|Osw (hz:=(by rw [hm37.2]; exact msg_size)) (hv:=hM38.size) (h1:=hM38.one) r66 (cs36) fun w67 B68 hu69=>Pl 1<|nt<|rt<|rctx 22 hm37.2 B68 (.int .i64 0)<|?_
 subst ex42
 have U70:=u1 U50 hu69 (nr hg12)
 have hs:parseOf diagForm 0 c b=finish ((lineR 0 c (Cur.mk b false 0)).2) ((lineR 0 c (Cur.mk b false 0)).1):=by
   unfold parseOf diagForm 
   (try simp only [q32,q51,bs,if_true,if_false,decide_true,decide_false,eq_self,true_or,or_true,or_false,false_or,if_true,if_false,i00,i01,i10,i11,reduceIte])
   all_goals rfl
 rw [hs]
 have U71:=u1 (Upd.mono (S':=[g27,g10]) hu47 (ac im all0)) hu69 im
 have r72:=ub U64 B13
 have r73:=MsgRd.upd hM38 U71 (safe_cons (CurAt.safe hc43 _ (by decide)) (safe_cons (safe1 r72 (by decide)) safe0))
 exact finish_ok q51p r73 U70
 have q32p:=ne_of_beqi q32
 refine sq<|sg<|Pl 2<|nt<|cb ((c == 7)) (fun q74=>?_) (fun q74=>?_)
 have q74p:=eq_of_beqi q74
 refine skn<|ct q74<|sg<|Pl 2<|nt<|c0<|sk<|bn<|tn<|sg<|?_
 refine Pl 1<|L0<|Oc<|m2 (end_any hc29) fun w75 hc76 hu77=>nt<|sq<|sg<|Pl 1<|L0<|Oc<|mq (err_any hc76)<|?_
 have hl78:=CurAt.len hc76
 refine Pl 1<|ng<|Pl 2<|nt<|?_
 have U79:=u1 U31 hu77 (ni U24.size hg28)
 refine cb (((((Cur.mk b false 0).endC).e) != 0)) (fun q80=>?_) (fun q80=>?_)
 have q80p:=ne_of_bnei q80
 refine sg<|Pl 2<|?_
 have U81:=u1 hu19 hu22 (nr hg17)
 have U82:=ut0 U81 hu30
 have U83:=u1 U82 hu77 (ni U81.size hg28)
 have r84:=ub U83 B13
 refine L0<|Osw r84 mZ fun w85 B86 hu87=>Pl 1<|nt<|rt<|tr<|rct B86 (.int .i64 (((Cur.mk b false 0).endC).e))<|?_
 have U88:=u1 U79 hu87 (nr hg12)
 have hs:parseOf diagForm 0 c b=finish (Msg.mk c 0 0 0 0 0 0 0 0 0 0 0 [] [] [] [] 0 0 0 0 0 []) (Cur.mk b false 0):=by
   unfold parseOf diagForm 
   (try simp only [q32,q74,q80,bs,if_true,if_false,decide_true,decide_false,eq_self,true_or,or_true,or_false,false_or,if_true,if_false,i00,i01,i10,i11,reduceIte])
   all_goals rfl
 rw [hs]
 exact finish_bad q80p U88
 have q80p:=eq_of_bnei q80
 refine skn<|sg<|?_
 have U89:=u1 hu30 hu77 (nr hg28)
 have r90:=ub U89 B21
 refine L0<|Olw r90<|?_
 have U91:=u1 hu19 hu22 (nr hg17)
 have U92:=ut0 U91 hu30
 have U93:=u1 U92 hu77 (ni U91.size hg28)
 have r94:=ub U93 B13
 refine L0<|Osw r94 (mC c) fun w95 B96 hu97=>Pl 1<|nt<|rt<|rct B96 (.int .i64 0)<|?_
 have U98:=u1 U79 hu97 (nr hg12)
 have hs:parseOf diagForm 0 c b=finish (Msg.mk c 0 0 0 0 0 0 0 0 0 0 0 [] [] [] [] 0 0 0 0 0 []) (Cur.mk b false 0):=by
   unfold parseOf diagForm 
   (try simp only [q32,q74,q80,bs,if_true,if_false,decide_true,decide_false,eq_self,true_or,or_true,or_false,false_or,if_true,if_false,i00,i01,i10,i11,reduceIte])
   all_goals rfl
 rw [hs]
 exact finish_ok q80p ⟨_,_,_,_,_,rfl,RdG.nil ..,RdG.nil ..,RdG.nil ..,RdG.nil ..,RdG.nil ..,⟨(b8 (x:=c) (by omega)),(b8 (x:=0) (by omega)),(b16 (x:=0) (by omega)),(b16 (x:=0) (by omega)),(b16 (x:=0) (by omega)),(b16 (x:=0) (by omega)),(b16 (x:=0) (by omega)),(b16 (x:=0) (by omega)),(b16 (x:=0) (by omega)),(b16 (x:=0) (by omega)),(b16 (x:=0) (by omega)),(b16 (x:=0) (by omega)),(b8 (x:=0) (by omega)),(b8 (x:=0) (by omega)),(b8 (x:=0) (by omega)),(b8 (x:=0) (by omega)),(b8 (x:=0) (by omega))⟩⟩ U98
 have q74p:=ne_of_beqi q74
 refine sg<|Pl 2<|nt<|cb ((c == 11)) (fun q99=>?_) (fun q99=>?_)
 have q99p:=eq_of_beqi q99
 refine skn<|ct q99<|sg<|Pl 2<|nt<|c0<|sk<|bn<|tn<|sg<|?_
 refine Pl 1<|L0<|Oc<|m2 (end_any hc29) fun w100 hc101 hu102=>nt<|sq<|sg<|Pl 1<|L0<|Oc<|mq (err_any hc101)<|?_
 have hl103:=CurAt.len hc101
 refine Pl 1<|ng<|Pl 2<|nt<|?_
 have U104:=u1 U31 hu102 (ni U24.size hg28)
 refine cb (((((Cur.mk b false 0).endC).e) != 0)) (fun q105=>?_) (fun q105=>?_)
 have q105p:=ne_of_bnei q105
 refine sg<|Pl 2<|?_
 have U106:=u1 hu19 hu22 (nr hg17)
 have U107:=ut0 U106 hu30
 have U108:=u1 U107 hu102 (ni U106.size hg28)
 have r109:=ub U108 B13
 refine L0<|Osw r109 mZ fun w110 B111 hu112=>Pl 1<|nt<|rt<|tr<|rct B111 (.int .i64 (((Cur.mk b false 0).endC).e))<|?_
 have U113:=u1 U104 hu112 (nr hg12)
 have hs:parseOf diagForm 0 c b=finish (Msg.mk c 0 0 0 0 0 0 0 0 0 0 0 [] [] [] [] 0 0 0 0 0 []) (Cur.mk b false 0):=by
   unfold parseOf diagForm 
   (try simp only [q32,q74,q99,q105,bs,if_true,if_false,decide_true,decide_false,eq_self,true_or,or_true,or_false,false_or,if_true,if_false,i00,i01,i10,i11,reduceIte])
   all_goals rfl
 rw [hs]
 exact finish_bad q105p U113
 have q105p:=eq_of_bnei q105
 refine skn<|sg<|?_
 have U114:=u1 hu30 hu102 (nr hg28)
 have r115:=ub U114 B21
 refine L0<|Olw r115<|?_
 have U116:=u1 hu19 hu22 (nr hg17)
 have U117:=ut0 U116 hu30
 have U118:=u1 U117 hu102 (ni U116.size hg28)
 have r119:=ub U118 B13
 refine L0<|Osw r119 (mC c) fun w120 B121 hu122=>Pl 1<|nt<|rt<|rct B121 (.int .i64 0)<|?_
 have U123:=u1 U104 hu122 (nr hg12)
 have hs:parseOf diagForm 0 c b=finish (Msg.mk c 0 0 0 0 0 0 0 0 0 0 0 [] [] [] [] 0 0 0 0 0 []) (Cur.mk b false 0):=by
   unfold parseOf diagForm 
   (try simp only [q32,q74,q99,q105,bs,if_true,if_false,decide_true,decide_false,eq_self,true_or,or_true,or_false,false_or,if_true,if_false,i00,i01,i10,i11,reduceIte])
   all_goals rfl
 rw [hs]
 exact finish_ok q105p ⟨_,_,_,_,_,rfl,RdG.nil ..,RdG.nil ..,RdG.nil ..,RdG.nil ..,RdG.nil ..,⟨(b8 (x:=c) (by omega)),(b8 (x:=0) (by omega)),(b16 (x:=0) (by omega)),(b16 (x:=0) (by omega)),(b16 (x:=0) (by omega)),(b16 (x:=0) (by omega)),(b16 (x:=0) (by omega)),(b16 (x:=0) (by omega)),(b16 (x:=0) (by omega)),(b16 (x:=0) (by omega)),(b16 (x:=0) (by omega)),(b16 (x:=0) (by omega)),(b8 (x:=0) (by omega)),(b8 (x:=0) (by omega)),(b8 (x:=0) (by omega)),(b8 (x:=0) (by omega)),(b8 (x:=0) (by omega))⟩⟩ U123
 have q99p:=ne_of_beqi q99
 refine sg<|Pl 2<|nt<|cb ((c == 12)) (fun q124=>?_) (fun q124=>?_)
 have q124p:=eq_of_beqi q124
 refine skn<|ct q124<|sg<|Pl 2<|nt<|c0<|sk<|bn<|tn<|sg<|?_
 refine Pl 1<|L0<|Oc<|m2 (end_any hc29) fun w125 hc126 hu127=>nt<|sq<|sg<|Pl 1<|L0<|Oc<|mq (err_any hc126)<|?_
 have hl128:=CurAt.len hc126
 refine Pl 1<|ng<|Pl 2<|nt<|?_
 have U129:=u1 U31 hu127 (ni U24.size hg28)
 refine cb (((((Cur.mk b false 0).endC).e) != 0)) (fun q130=>?_) (fun q130=>?_)
 have q130p:=ne_of_bnei q130
 refine sg<|Pl 2<|?_
 have U131:=u1 hu19 hu22 (nr hg17)
 have U132:=ut0 U131 hu30
 have U133:=u1 U132 hu127 (ni U131.size hg28)
 have r134:=ub U133 B13
 refine L0<|Osw r134 mZ fun w135 B136 hu137=>Pl 1<|nt<|rt<|tr<|rct B136 (.int .i64 (((Cur.mk b false 0).endC).e))<|?_
 have U138:=u1 U129 hu137 (nr hg12)
 have hs:parseOf diagForm 0 c b=finish (Msg.mk c 0 0 0 0 0 0 0 0 0 0 0 [] [] [] [] 0 0 0 0 0 []) (Cur.mk b false 0):=by
   unfold parseOf diagForm 
   (try simp only [q32,q74,q99,q124,q130,bs,if_true,if_false,decide_true,decide_false,eq_self,true_or,or_true,or_false,false_or,if_true,if_false,i00,i01,i10,i11,reduceIte])
   all_goals rfl
 rw [hs]
 exact finish_bad q130p U138
 have q130p:=eq_of_bnei q130
 refine skn<|sg<|?_
 have U139:=u1 hu30 hu127 (nr hg28)
 have r140:=ub U139 B21
 refine L0<|Olw r140<|?_
 have U141:=u1 hu19 hu22 (nr hg17)
 have U142:=ut0 U141 hu30
 have U143:=u1 U142 hu127 (ni U141.size hg28)
 have r144:=ub U143 B13
 refine L0<|Osw r144 (mC c) fun w145 B146 hu147=>Pl 1<|nt<|rt<|rct B146 (.int .i64 0)<|?_
 have U148:=u1 U129 hu147 (nr hg12)
 have hs:parseOf diagForm 0 c b=finish (Msg.mk c 0 0 0 0 0 0 0 0 0 0 0 [] [] [] [] 0 0 0 0 0 []) (Cur.mk b false 0):=by
   unfold parseOf diagForm 
   (try simp only [q32,q74,q99,q124,q130,bs,if_true,if_false,decide_true,decide_false,eq_self,true_or,or_true,or_false,false_or,if_true,if_false,i00,i01,i10,i11,reduceIte])
   all_goals rfl
 rw [hs]
 exact finish_ok q130p ⟨_,_,_,_,_,rfl,RdG.nil ..,RdG.nil ..,RdG.nil ..,RdG.nil ..,RdG.nil ..,⟨(b8 (x:=c) (by omega)),(b8 (x:=0) (by omega)),(b16 (x:=0) (by omega)),(b16 (x:=0) (by omega)),(b16 (x:=0) (by omega)),(b16 (x:=0) (by omega)),(b16 (x:=0) (by omega)),(b16 (x:=0) (by omega)),(b16 (x:=0) (by omega)),(b16 (x:=0) (by omega)),(b16 (x:=0) (by omega)),(b16 (x:=0) (by omega)),(b8 (x:=0) (by omega)),(b8 (x:=0) (by omega)),(b8 (x:=0) (by omega)),(b8 (x:=0) (by omega)),(b8 (x:=0) (by omega))⟩⟩ U148
 have q124p:=ne_of_beqi q124
 refine go<|Pl 2<|nt<|cb ((c == 17)) (fun q149=>?_) (fun q149=>?_)
 have q149p:=eq_of_beqi q149
 refine sg<|Pl 2<|nt<|c0<|sk<|bn<|tn<|sg<|Pl 1<|L0<|Oc<|m2 (end_any hc29) fun w150 hc151 hu152=>nl<|?_
 refine tn<|sq<|sg<|Pl 1<|L0<|Oc<|mq (err_any hc151)<|?_
 have hl153:=CurAt.len hc151
 refine Pl 1<|ng<|Pl 2<|nt<|?_
 have U154:=u1 U31 hu152 (ni U24.size hg28)
 refine cb (((((Cur.mk b false 0).endC).e) != 0)) (fun q155=>?_) (fun q155=>?_)
 have q155p:=ne_of_bnei q155
 refine sg<|Pl 2<|?_
 have U156:=u1 hu19 hu22 (nr hg17)
 have U157:=ut0 U156 hu30
 have U158:=u1 U157 hu152 (ni U156.size hg28)
 have r159:=ub U158 B13
 refine L0<|Osw r159 mZ fun w160 B161 hu162=>Pl 1<|nt<|rt<|tr<|rct B161 (.int .i64 (((Cur.mk b false 0).endC).e))<|?_
 have U163:=u1 U154 hu162 (nr hg12)
 have hs:parseOf diagForm 0 c b=finish (Msg.mk c 0 0 0 0 0 0 0 0 0 0 0 [] [] [] [] 0 0 0 0 0 []) (Cur.mk b false 0):=by
   unfold parseOf diagForm 
   (try simp only [q32,q74,q99,q124,q149,q155,bs,if_true,if_false,decide_true,decide_false,eq_self,true_or,or_true,or_false,false_or,if_true,if_false,i00,i01,i10,i11,reduceIte])
   all_goals rfl
 rw [hs]
 exact finish_bad q155p U163
 have q155p:=eq_of_bnei q155
 refine skn<|sg<|?_
 have U164:=u1 hu30 hu152 (nr hg28)
 have r165:=ub U164 B21
 refine L0<|Olw r165<|?_
 have U166:=u1 hu19 hu22 (nr hg17)
 have U167:=ut0 U166 hu30
 have U168:=u1 U167 hu152 (ni U166.size hg28)
 have r169:=ub U168 B13
 refine L0<|Osw r169 (mC c) fun w170 B171 hu172=>Pl 1<|nt<|rt<|rct B171 (.int .i64 0)<|?_
 have U173:=u1 U154 hu172 (nr hg12)
 have hs:parseOf diagForm 0 c b=finish (Msg.mk c 0 0 0 0 0 0 0 0 0 0 0 [] [] [] [] 0 0 0 0 0 []) (Cur.mk b false 0):=by
   unfold parseOf diagForm 
   (try simp only [q32,q74,q99,q124,q149,q155,bs,if_true,if_false,decide_true,decide_false,eq_self,true_or,or_true,or_false,false_or,if_true,if_false,i00,i01,i10,i11,reduceIte])
   all_goals rfl
 rw [hs]
 exact finish_ok q155p ⟨_,_,_,_,_,rfl,RdG.nil ..,RdG.nil ..,RdG.nil ..,RdG.nil ..,RdG.nil ..,⟨(b8 (x:=c) (by omega)),(b8 (x:=0) (by omega)),(b16 (x:=0) (by omega)),(b16 (x:=0) (by omega)),(b16 (x:=0) (by omega)),(b16 (x:=0) (by omega)),(b16 (x:=0) (by omega)),(b16 (x:=0) (by omega)),(b16 (x:=0) (by omega)),(b16 (x:=0) (by omega)),(b16 (x:=0) (by omega)),(b16 (x:=0) (by omega)),(b8 (x:=0) (by omega)),(b8 (x:=0) (by omega)),(b8 (x:=0) (by omega)),(b8 (x:=0) (by omega)),(b8 (x:=0) (by omega))⟩⟩ U173
 have q149p:=ne_of_beqi q149
 refine sg<|Pl 1<|?_
 have U174:=u1 hu19 hu22 (nr hg17)
 have U175:=ut0 U174 hu30
 have r176:=ub U175 B13
 refine L0<|Osw r176 mZ fun w177 B178 hu179=>Pl 1<|nt<|rt<|br<|tr<|rct B178 (.int .i64 4)<|?_
 have U180:=u1 U31 hu179 (nr hg12)
 have hs:parseOf diagForm 0 c b=(Msg.zero,4):=by
   unfold parseOf diagForm 
   (try simp only [q32,q74,q99,q124,q149,bs,if_true,if_false,decide_true,decide_false,eq_self,true_or,or_true,or_false,false_or,if_true,if_false,i00,i01,i10,i11,reduceIte])
   all_goals rfl
 rw [hs]
 exact bad_res U180
set_option maxRecDepth 100000 in
set_option maxHeartbeats 4000000 in
theorem diag_parse_1 {m:Bool} {A:Option Addr} {cp:Nat} {b:List Int} {w:World} {c:Int} (hcode:B8 c) (hsl:RdB m w (.slice A b.length cp) b) (hb:b.length≤1048576) :
    Calls Tryz.prog 62 #[.int .i64 1,.int .u8 c,.slice A b.length cp] w (PMsg (parseOf diagForm 1 c b) w):=by
 obtain ⟨hcode1,hcode2⟩:=hcode
 have hln:(b.length:Int)≤1048576:=by omega
 refine en 47 Tryz.func62 rfl<|sg<|L0<|Oal mZ fun g10 w11 hg12 B13 hu14=>Pl 1<|nt<|sq<|sg<|Pl 6<|nt<|c0<|?_
 refine skn<|sg<|Pl 2<|L0<|Oal mZ fun g15 w16 hg17 B18 hu19=>L0<|Osw B18 (mC c) fun w20 B21 hu22=>ng<|Pl 1<|?_
 have U23:=ut0 hu14 hu19
 have U24:=u1 U23 hu22 (ni hu14.size hg17)
 have r25:=RdB.old hsl U24
 refine L0<|Oc<|e3 (new_any r25 (by omega)) fun g27 w26 hg28 hc29 hu30=>Pl 1<|nt<|sq<|sg<|Pl 1<|nt<|bk<|sg<|Pl 2<|nl<|?_
 refine tn<|?_
 have U31:=ut0 U24 hu30
 refine cb ((c == 8)) (fun q32=>?_) (fun q32=>?_)
 have q32p:=eq_of_beqi q32
 refine go<|Pl 2<|?_
 have r33:=ub hu30 B21
 have ne40:=nb (blk_lt B18) hu22.size hg28
 refine L0<|Oc<|m3 (line_any (dir:=1) (c:=c) ⟨hcode1,hcode2⟩ hc29 r33 (Ne.symm ne40)) fun w34 hc35 hx44 hu39=>?_
 obtain ⟨cs36,hm37,hM38⟩:=hx44
 refine ab hc35 fun x41 ex42 hc43=>?_
 refine nl<|bn<|tn<|sg<|Pl 1<|L0<|Oc<|m2 (end_any hc43) fun w45 hc46 hu47=>nt<|sq<|sg<|Pl 1<|L0<|Oc<|mq (err_any hc46)<|?_
 have hl48:=CurAt.len hc46
 refine Pl 1<|ng<|Pl 2<|nt<|?_
 have U49:=ut U31 hu39 (ac (ni U24.size hg28) (ac (ni hu14.size hg17) all0))
 have U50:=u1 U49 hu47 (ni U24.size hg28)
 refine cb ((x41.endC.e != 0)) (fun q51=>?_) (fun q51=>?_)
 have q51p:=ne_of_bnei q51
 refine sg<|Pl 2<|?_
 have U52:=u1 hu19 hu22 (nr hg17)
 have U53:=ut0 U52 hu30
 have U54:=ut U53 hu39 (ac (ni U52.size hg28) (ac (nr hg17) all0))
 have U55:=u1 U54 hu47 (ni U52.size hg28)
 have r56:=ub U55 B13
 refine L0<|Osw r56 mZ fun w57 B58 hu59=>Pl 1<|nt<|rt<|tr<|rct B58 (.int .i64 x41.endC.e)<|?_
 subst ex42
 have U60:=u1 U50 hu59 (nr hg12)
 have hs:parseOf diagForm 1 c b=finish ((lineR 1 c (Cur.mk b false 0)).2) ((lineR 1 c (Cur.mk b false 0)).1):=by
   unfold parseOf diagForm 
   (try simp only [q32,q51,bs,if_true,if_false,decide_true,decide_false,eq_self,true_or,or_true,or_false,false_or,if_true,if_false,i00,i01,i10,i11,reduceIte])
   all_goals rfl
 rw [hs]
 exact finish_bad q51p U60
 have q51p:=eq_of_bnei q51
 refine skn<|sg<|?_
 have r61:=ub1 hu47 ne40 hm37.1
 refine L0<|Olw (hz:=(by rw [hm37.2]; exact msg_size)) r61<|?_
 have U62:=u1 hu19 hu22 (nr hg17)
 have U63:=ut0 U62 hu30
 have U64:=ut U63 hu39 (ac (ni U62.size hg28) (ac (nr hg17) all0))
 have U65:=u1 U64 hu47 (ni U62.size hg28)
 have r66:=ub U65 B13
 refine L0<|Osw (hz:=(by rw [hm37.2]; exact msg_size)) (hv:=hM38.size) (h1:=hM38.one) r66 (cs36) fun w67 B68 hu69=>Pl 1<|nt<|rt<|rctx 22 hm37.2 B68 (.int .i64 0)<|?_
 subst ex42
 have U70:=u1 U50 hu69 (nr hg12)
 have hs:parseOf diagForm 1 c b=finish ((lineR 1 c (Cur.mk b false 0)).2) ((lineR 1 c (Cur.mk b false 0)).1):=by
   unfold parseOf diagForm 
   (try simp only [q32,q51,bs,if_true,if_false,decide_true,decide_false,eq_self,true_or,or_true,or_false,false_or,if_true,if_false,i00,i01,i10,i11,reduceIte])
   all_goals rfl
 rw [hs]
 have U71:=u1 (Upd.mono (S':=[g27,g10]) hu47 (ac im all0)) hu69 im
 have r72:=ub U64 B13
 have r73:=MsgRd.upd hM38 U71 (safe_cons (CurAt.safe hc43 _ (by decide)) (safe_cons (safe1 r72 (by decide)) safe0))
 exact finish_ok q51p r73 U70
 have q32p:=ne_of_beqi q32
 refine sq<|sg<|Pl 2<|nt<|cb ((c == 7)) (fun q74=>?_) (fun q74=>?_)
 have q74p:=eq_of_beqi q74
 refine skn<|ct q74<|sg<|Pl 2<|nt<|c1<|go<|Pl 1<|?_
 have r75:=ub hu30 B21
 have ne82:=nb (blk_lt B18) hu22.size hg28
 refine L0<|Oc<|m3 (answer_any (c:=c) ⟨hcode1,hcode2⟩ hc29 r75 (Ne.symm ne82)) fun w76 hc77 hx86 hu81=>?_
 obtain ⟨cs78,hm79,hM80⟩:=hx86
 refine ab hc77 fun x83 ex84 hc85=>?_
 refine nl<|bn<|tn<|sg<|Pl 1<|L0<|Oc<|m2 (end_any hc85) fun w87 hc88 hu89=>nt<|sq<|sg<|Pl 1<|L0<|Oc<|mq (err_any hc88)<|?_
 have hl90:=CurAt.len hc88
 refine Pl 1<|ng<|Pl 2<|nt<|?_
 have U91:=ut U31 hu81 (ac (ni U24.size hg28) (ac (ni hu14.size hg17) all0))
 have U92:=u1 U91 hu89 (ni U24.size hg28)
 refine cb ((x83.endC.e != 0)) (fun q93=>?_) (fun q93=>?_)
 have q93p:=ne_of_bnei q93
 refine sg<|Pl 2<|?_
 have U94:=u1 hu19 hu22 (nr hg17)
 have U95:=ut0 U94 hu30
 have U96:=ut U95 hu81 (ac (ni U94.size hg28) (ac (nr hg17) all0))
 have U97:=u1 U96 hu89 (ni U94.size hg28)
 have r98:=ub U97 B13
 refine L0<|Osw r98 mZ fun w99 B100 hu101=>Pl 1<|nt<|rt<|tr<|rct B100 (.int .i64 x83.endC.e)<|?_
 subst ex84
 have U102:=u1 U92 hu101 (nr hg12)
 have hs:parseOf diagForm 1 c b=finish ((answerR c (Cur.mk b false 0)).2) ((answerR c (Cur.mk b false 0)).1):=by
   unfold parseOf diagForm 
   (try simp only [q32,q74,q93,bs,if_true,if_false,decide_true,decide_false,eq_self,true_or,or_true,or_false,false_or,if_true,if_false,i00,i01,i10,i11,reduceIte])
   all_goals rfl
 rw [hs]
 exact finish_bad q93p U102
 have q93p:=eq_of_bnei q93
 refine skn<|sg<|?_
 have r103:=ub1 hu89 ne82 hm79.1
 refine L0<|Olw (hz:=(by rw [hm79.2]; exact msg_size)) r103<|?_
 have U104:=u1 hu19 hu22 (nr hg17)
 have U105:=ut0 U104 hu30
 have U106:=ut U105 hu81 (ac (ni U104.size hg28) (ac (nr hg17) all0))
 have U107:=u1 U106 hu89 (ni U104.size hg28)
 have r108:=ub U107 B13
 refine L0<|Osw (hz:=(by rw [hm79.2]; exact msg_size)) (hv:=hM80.size) (h1:=hM80.one) r108 (cs78) fun w109 B110 hu111=>Pl 1<|nt<|rt<|rctx 22 hm79.2 B110 (.int .i64 0)<|?_
 subst ex84
 have U112:=u1 U92 hu111 (nr hg12)
 have hs:parseOf diagForm 1 c b=finish ((answerR c (Cur.mk b false 0)).2) ((answerR c (Cur.mk b false 0)).1):=by
   unfold parseOf diagForm 
   (try simp only [q32,q74,q93,bs,if_true,if_false,decide_true,decide_false,eq_self,true_or,or_true,or_false,false_or,if_true,if_false,i00,i01,i10,i11,reduceIte])
   all_goals rfl
 rw [hs]
 have U113:=u1 (Upd.mono (S':=[g27,g10]) hu89 (ac im all0)) hu111 im
 have r114:=ub U106 B13
 have r115:=MsgRd.upd hM80 U113 (safe_cons (CurAt.safe hc85 _ (by decide)) (safe_cons (safe1 r114 (by decide)) safe0))
 exact finish_ok q93p r115 U112
 have q74p:=ne_of_beqi q74
 refine sg<|Pl 2<|nt<|cb ((c == 11)) (fun q116=>?_) (fun q116=>?_)
 have q116p:=eq_of_beqi q116
 refine skn<|ct q116<|sg<|Pl 2<|nt<|c1<|go<|Pl 1<|?_
 have r117:=ub hu30 B21
 have ne124:=nb (blk_lt B18) hu22.size hg28
 refine L0<|Oc<|m3 (answer_any (c:=c) ⟨hcode1,hcode2⟩ hc29 r117 (Ne.symm ne124)) fun w118 hc119 hx128 hu123=>?_
 obtain ⟨cs120,hm121,hM122⟩:=hx128
 refine ab hc119 fun x125 ex126 hc127=>?_
 refine nl<|bn<|tn<|sg<|Pl 1<|L0<|Oc<|m2 (end_any hc127) fun w129 hc130 hu131=>nt<|sq<|sg<|Pl 1<|L0<|Oc<|mq (err_any hc130)<|?_
 have hl132:=CurAt.len hc130
 refine Pl 1<|ng<|Pl 2<|nt<|?_
 have U133:=ut U31 hu123 (ac (ni U24.size hg28) (ac (ni hu14.size hg17) all0))
 have U134:=u1 U133 hu131 (ni U24.size hg28)
 refine cb ((x125.endC.e != 0)) (fun q135=>?_) (fun q135=>?_)
 have q135p:=ne_of_bnei q135
 refine sg<|Pl 2<|?_
 have U136:=u1 hu19 hu22 (nr hg17)
 have U137:=ut0 U136 hu30
 have U138:=ut U137 hu123 (ac (ni U136.size hg28) (ac (nr hg17) all0))
 have U139:=u1 U138 hu131 (ni U136.size hg28)
 have r140:=ub U139 B13
 refine L0<|Osw r140 mZ fun w141 B142 hu143=>Pl 1<|nt<|rt<|tr<|rct B142 (.int .i64 x125.endC.e)<|?_
 subst ex126
 have U144:=u1 U134 hu143 (nr hg12)
 have hs:parseOf diagForm 1 c b=finish ((answerR c (Cur.mk b false 0)).2) ((answerR c (Cur.mk b false 0)).1):=by
   unfold parseOf diagForm 
   (try simp only [q32,q74,q116,q135,bs,if_true,if_false,decide_true,decide_false,eq_self,true_or,or_true,or_false,false_or,if_true,if_false,i00,i01,i10,i11,reduceIte])
   all_goals rfl
 rw [hs]
 exact finish_bad q135p U144
 have q135p:=eq_of_bnei q135
 refine skn<|sg<|?_
 have r145:=ub1 hu131 ne124 hm121.1
 refine L0<|Olw (hz:=(by rw [hm121.2]; exact msg_size)) r145<|?_
 have U146:=u1 hu19 hu22 (nr hg17)
 have U147:=ut0 U146 hu30
 have U148:=ut U147 hu123 (ac (ni U146.size hg28) (ac (nr hg17) all0))
 have U149:=u1 U148 hu131 (ni U146.size hg28)
 have r150:=ub U149 B13
 refine L0<|Osw (hz:=(by rw [hm121.2]; exact msg_size)) (hv:=hM122.size) (h1:=hM122.one) r150 (cs120) fun w151 B152 hu153=>Pl 1<|nt<|rt<|rctx 22 hm121.2 B152 (.int .i64 0)<|?_
 subst ex126
 have U154:=u1 U134 hu153 (nr hg12)
 have hs:parseOf diagForm 1 c b=finish ((answerR c (Cur.mk b false 0)).2) ((answerR c (Cur.mk b false 0)).1):=by
   unfold parseOf diagForm 
   (try simp only [q32,q74,q116,q135,bs,if_true,if_false,decide_true,decide_false,eq_self,true_or,or_true,or_false,false_or,if_true,if_false,i00,i01,i10,i11,reduceIte])
   all_goals rfl
 rw [hs]
 have U155:=u1 (Upd.mono (S':=[g27,g10]) hu131 (ac im all0)) hu153 im
 have r156:=ub U148 B13
 have r157:=MsgRd.upd hM122 U155 (safe_cons (CurAt.safe hc127 _ (by decide)) (safe_cons (safe1 r156 (by decide)) safe0))
 exact finish_ok q135p r157 U154
 have q116p:=ne_of_beqi q116
 refine sg<|Pl 2<|nt<|cb ((c == 12)) (fun q158=>?_) (fun q158=>?_)
 have q158p:=eq_of_beqi q158
 refine skn<|ct q158<|sg<|Pl 2<|nt<|c1<|go<|Pl 1<|?_
 have r159:=ub hu30 B21
 have ne166:=nb (blk_lt B18) hu22.size hg28
 refine L0<|Oc<|m3 (answer_any (c:=c) ⟨hcode1,hcode2⟩ hc29 r159 (Ne.symm ne166)) fun w160 hc161 hx170 hu165=>?_
 obtain ⟨cs162,hm163,hM164⟩:=hx170
 refine ab hc161 fun x167 ex168 hc169=>?_
 refine nl<|bn<|tn<|sg<|Pl 1<|L0<|Oc<|m2 (end_any hc169) fun w171 hc172 hu173=>nt<|sq<|sg<|Pl 1<|L0<|Oc<|mq (err_any hc172)<|?_
 have hl174:=CurAt.len hc172
 refine Pl 1<|ng<|Pl 2<|nt<|?_
 have U175:=ut U31 hu165 (ac (ni U24.size hg28) (ac (ni hu14.size hg17) all0))
 have U176:=u1 U175 hu173 (ni U24.size hg28)
 refine cb ((x167.endC.e != 0)) (fun q177=>?_) (fun q177=>?_)
 have q177p:=ne_of_bnei q177
 refine sg<|Pl 2<|?_
 have U178:=u1 hu19 hu22 (nr hg17)
 have U179:=ut0 U178 hu30
 have U180:=ut U179 hu165 (ac (ni U178.size hg28) (ac (nr hg17) all0))
 have U181:=u1 U180 hu173 (ni U178.size hg28)
 have r182:=ub U181 B13
 refine L0<|Osw r182 mZ fun w183 B184 hu185=>Pl 1<|nt<|rt<|tr<|rct B184 (.int .i64 x167.endC.e)<|?_
 subst ex168
 have U186:=u1 U176 hu185 (nr hg12)
 have hs:parseOf diagForm 1 c b=finish ((answerR c (Cur.mk b false 0)).2) ((answerR c (Cur.mk b false 0)).1):=by
   unfold parseOf diagForm 
   (try simp only [q32,q74,q116,q158,q177,bs,if_true,if_false,decide_true,decide_false,eq_self,true_or,or_true,or_false,false_or,if_true,if_false,i00,i01,i10,i11,reduceIte])
   all_goals rfl
 rw [hs]
 exact finish_bad q177p U186
 have q177p:=eq_of_bnei q177
 refine skn<|sg<|?_
 have r187:=ub1 hu173 ne166 hm163.1
 refine L0<|Olw (hz:=(by rw [hm163.2]; exact msg_size)) r187<|?_
 have U188:=u1 hu19 hu22 (nr hg17)
 have U189:=ut0 U188 hu30
 have U190:=ut U189 hu165 (ac (ni U188.size hg28) (ac (nr hg17) all0))
 have U191:=u1 U190 hu173 (ni U188.size hg28)
 have r192:=ub U191 B13
 refine L0<|Osw (hz:=(by rw [hm163.2]; exact msg_size)) (hv:=hM164.size) (h1:=hM164.one) r192 (cs162) fun w193 B194 hu195=>Pl 1<|nt<|rt<|rctx 22 hm163.2 B194 (.int .i64 0)<|?_
 subst ex168
 have U196:=u1 U176 hu195 (nr hg12)
 have hs:parseOf diagForm 1 c b=finish ((answerR c (Cur.mk b false 0)).2) ((answerR c (Cur.mk b false 0)).1):=by
   unfold parseOf diagForm 
   (try simp only [q32,q74,q116,q158,q177,bs,if_true,if_false,decide_true,decide_false,eq_self,true_or,or_true,or_false,false_or,if_true,if_false,i00,i01,i10,i11,reduceIte])
   all_goals rfl
 rw [hs]
 have U197:=u1 (Upd.mono (S':=[g27,g10]) hu173 (ac im all0)) hu195 im
 have r198:=ub U190 B13
 have r199:=MsgRd.upd hM164 U197 (safe_cons (CurAt.safe hc169 _ (by decide)) (safe_cons (safe1 r198 (by decide)) safe0))
 exact finish_ok q177p r199 U196
 have q158p:=ne_of_beqi q158
 refine go<|Pl 2<|nt<|cb ((c == 17)) (fun q200=>?_) (fun q200=>?_)
 have q200p:=eq_of_beqi q200
 refine sg<|Pl 2<|nt<|c1<|go<|Pl 1<|?_
 have r201:=ub hu30 B21
 have ne208:=nb (blk_lt B18) hu22.size hg28
 refine L0<|Oc<|m3 (answer_any (c:=c) ⟨hcode1,hcode2⟩ hc29 r201 (Ne.symm ne208)) fun w202 hc203 hx212 hu207=>?_
 obtain ⟨cs204,hm205,hM206⟩:=hx212
 refine ab hc203 fun x209 ex210 hc211=>?_
 refine nl<|bn<|tn<|sg<|Pl 1<|L0<|Oc<|m2 (end_any hc211) fun w213 hc214 hu215=>nt<|sq<|sg<|Pl 1<|L0<|Oc<|mq (err_any hc214)<|?_
 have hl216:=CurAt.len hc214
 refine Pl 1<|ng<|Pl 2<|nt<|?_
 have U217:=ut U31 hu207 (ac (ni U24.size hg28) (ac (ni hu14.size hg17) all0))
 have U218:=u1 U217 hu215 (ni U24.size hg28)
 refine cb ((x209.endC.e != 0)) (fun q219=>?_) (fun q219=>?_)
 have q219p:=ne_of_bnei q219
 refine sg<|Pl 2<|?_
 have U220:=u1 hu19 hu22 (nr hg17)
 have U221:=ut0 U220 hu30
 have U222:=ut U221 hu207 (ac (ni U220.size hg28) (ac (nr hg17) all0))
 have U223:=u1 U222 hu215 (ni U220.size hg28)
 have r224:=ub U223 B13
 refine L0<|Osw r224 mZ fun w225 B226 hu227=>Pl 1<|nt<|rt<|tr<|rct B226 (.int .i64 x209.endC.e)<|?_
 subst ex210
 have U228:=u1 U218 hu227 (nr hg12)
 have hs:parseOf diagForm 1 c b=finish ((answerR c (Cur.mk b false 0)).2) ((answerR c (Cur.mk b false 0)).1):=by
   unfold parseOf diagForm 
   (try simp only [q32,q74,q116,q158,q200,q219,bs,if_true,if_false,decide_true,decide_false,eq_self,true_or,or_true,or_false,false_or,if_true,if_false,i00,i01,i10,i11,reduceIte])
   all_goals rfl
 rw [hs]
 exact finish_bad q219p U228
 have q219p:=eq_of_bnei q219
 refine skn<|sg<|?_
 have r229:=ub1 hu215 ne208 hm205.1
 refine L0<|Olw (hz:=(by rw [hm205.2]; exact msg_size)) r229<|?_
 have U230:=u1 hu19 hu22 (nr hg17)
 have U231:=ut0 U230 hu30
 have U232:=ut U231 hu207 (ac (ni U230.size hg28) (ac (nr hg17) all0))
 have U233:=u1 U232 hu215 (ni U230.size hg28)
 have r234:=ub U233 B13
 refine L0<|Osw (hz:=(by rw [hm205.2]; exact msg_size)) (hv:=hM206.size) (h1:=hM206.one) r234 (cs204) fun w235 B236 hu237=>Pl 1<|nt<|rt<|rctx 22 hm205.2 B236 (.int .i64 0)<|?_
 subst ex210
 have U238:=u1 U218 hu237 (nr hg12)
 have hs:parseOf diagForm 1 c b=finish ((answerR c (Cur.mk b false 0)).2) ((answerR c (Cur.mk b false 0)).1):=by
   unfold parseOf diagForm 
   (try simp only [q32,q74,q116,q158,q200,q219,bs,if_true,if_false,decide_true,decide_false,eq_self,true_or,or_true,or_false,false_or,if_true,if_false,i00,i01,i10,i11,reduceIte])
   all_goals rfl
 rw [hs]
 have U239:=u1 (Upd.mono (S':=[g27,g10]) hu215 (ac im all0)) hu237 im
 have r240:=ub U232 B13
 have r241:=MsgRd.upd hM206 U239 (safe_cons (CurAt.safe hc211 _ (by decide)) (safe_cons (safe1 r240 (by decide)) safe0))
 exact finish_ok q219p r241 U238
 have q200p:=ne_of_beqi q200
 refine sg<|Pl 1<|?_
 have U242:=u1 hu19 hu22 (nr hg17)
 have U243:=ut0 U242 hu30
 have r244:=ub U243 B13
 refine L0<|Osw r244 mZ fun w245 B246 hu247=>Pl 1<|nt<|rt<|br<|tr<|rct B246 (.int .i64 4)<|?_
 have U248:=u1 U31 hu247 (nr hg12)
 have hs:parseOf diagForm 1 c b=(Msg.zero,4):=by
   unfold parseOf diagForm 
   (try simp only [q32,q74,q116,q158,q200,bs,if_true,if_false,decide_true,decide_false,eq_self,true_or,or_true,or_false,false_or,if_true,if_false,i00,i01,i10,i11,reduceIte])
   all_goals rfl
 rw [hs]
 exact bad_res U248
set_option maxRecDepth 100000 in
set_option maxHeartbeats 4000000 in
theorem diag_parse_x {m:Bool} {A:Option Addr} {cp:Nat} {b:List Int} {w:World} {dir c:Int} (hcode:B8 c) (hsl:RdB m w (.slice A b.length cp) b) (hb:b.length≤1048576) (hd:¬ (dir=0∨dir=1)) :
    Calls Tryz.prog 62 #[.int .i64 dir,.int .u8 c,.slice A b.length cp] w (PMsg (parseOf diagForm dir c b) w):=by
 obtain ⟨hcode1,hcode2⟩:=hcode
 have hln:(b.length:Int)≤1048576:=by omega
 have e0:(dir != 0)=true:=by simp; omega
 have e1:(dir != 1)=true:=by simp; omega
 refine en 47 Tryz.func62 rfl<|sg<|L0<|Oal mZ fun g10 w11 hg12 B13 hu14=>Pl 1<|nt<|sq<|sg<|Pl 3<|sy 13 e0<|Pl 3<|nl<|?_
 refine tn<|ct e1<|sg<|Pl 1<|L0<|Osw B13 mZ fun w15 B16 hu17=>Pl 1<|nt<|rt<|tr<|rct B16 (.int .i64 1)<|?_
 have U18:=u1 hu14 hu17 (nr hg12)
 have hs:parseOf diagForm dir c b=(Msg.zero,1):=by
   unfold parseOf diagForm 
   (try simp only [e0,e1,bs,if_true,if_false,decide_true,decide_false,eq_self,true_or,or_true,or_false,false_or,if_true,if_false,i00,i01,i10,i11,reduceIte,hd])
   all_goals rfl
 rw [hs]
 exact bad_res U18
theorem diag_parse {m:Bool} {v:Value} {b:List Int} {w:World} {dir c:Int} (hc:B8 c) (h:RdB m w v b) (hb:b.length≤1048576) :
    Calls Tryz.prog 62 #[.int .i64 dir,.int .u8 c,v] w (PMsg (parseOf diagForm dir c b) w):=by
  obtain ⟨A,cp,rfl,_,_⟩:=h.shape
  by_cases h0:dir=0
  · subst h0; exact diag_parse_0 hc h hb
  by_cases h1:dir=1
  · subst h1; exact diag_parse_1 hc h hb
  exact diag_parse_x hc h hb (by omega)
open Go.RowKit
def objsR:Nat→Cur→List Obj→Cur × List Obj
  | 0,C,L=>(C,L)
  | n + 1,C,L=>objsR n (((C.bytesC 1).bytesC 1).bytesC (C.bytesC 1).byteV) (L++[⟨C.byteV,((C.bytesC 1).bytesC 1).bytesR (C.bytesC 1).byteV⟩])
def mei1 (C:Cur) : Cur:=(C.bytesC 1).need (levelB C.byteV) 6
def mei2 (C:Cur) : Cur:=((mei1 C).bytesC 1).need ((mei1 C).byteV == 0 || (mei1 C).byteV == 255) 6
def mei3 (C:Cur) : Cur:=((mei2 C).bytesC 1).need ((mei1 C).byteV != 0 || (mei2 C).byteV == 0) 6
def mei4 (kd:Int) (C:Cur) : Cur:=((mei3 C).bytesC 1).need (kd != 4 || (mei3 C).byteV == 1) 5
def meiObjs (kd:Int) (C:Cur) : Cur × List Obj:=objsR (mei3 C).byteV.toNat (mei4 kd C) []
set_option maxRecDepth 100000 in
set_option maxHeartbeats 4000000 in
theorem meians_any {g gm:Nat} {c me kd:Int} {C0:Cur} {w:World} (hcode:B8 c) (hme:B8 me) (hkd:B8 kd) (hC:CurAt w g C0) (hm:w.heap[gm]? = some (.cells #[.int .u8 c,.int .u8 0,.int .u16 0,.int .u16 0,.int .u16 0,.int .u16 0,.int .u16 0,.int .u16 0,.int .u16 0,.int .u16 0,.int .u16 0,.int .u16 0,.slice none 0 0,.slice none 0 0,.slice none 0 0,.slice none 0 0,.int .u8 me,.int .u8 kd,.int .u8 0,.int .u8 0,.int .u8 0,.slice none 0 0] 31 (0,0))) (hne:g ≠ gm) :
    Calls Tryz.prog 99 #[.pointer (some ⟨g,0,none⟩),.pointer (some ⟨gm,0,none⟩)] w (PFormG g gm (meiObjs kd C0).1 { Msg.zero with code:=c,mei:=me,kind:=kd,level:=C0.byteV,more:=(mei1 C0).byteV,next:=(mei2 C0).byteV,objects:=(meiObjs kd C0).2 } w):=by
 obtain ⟨hcode1,hcode2⟩:=hcode
 obtain ⟨hme1,hme2⟩:=hme
 obtain ⟨hkd1,hkd2⟩:=hkd
 refine en 92 Tryz.func99 rfl<|sg<|Pl 2<|L0<|Oc<|m3 (byte_any hC) fun w10 hc11 hu12 hr13=>Pl 2<|?_
 have r14:=ub1 hu12 (Ne.symm hne) hm
 refine L0<|Ost r14 18 (mG c 0 0 0 0 0 0 0 0 0 0 0 nS nS nS nS me kd C0.byteV 0 0 nS) fun w15 B16 hu17=>ng<|Pl 4<|L0<|Olb B16 18<|L0<|Oc<|m1 (level_any (x:=C0.byteV) (w:=_)) fun w18 hu19=>?_
 have U20:=ut0 hu17 hu19
 have r21:=CurAt.upd hc11 U20 (not_cons hne not0) (safe_cons (safe1 r14 (by decide)) safe0)
 refine L0<|Oc<|m2 (need_any ((levelB C0.byteV)) 6 r21) fun w22 hc23 hu24=>?_
 refine ab hc23 fun x25 ex26 hc27=>?_
 refine ng<|Pl 2<|L0<|Oc<|m3 (byte_any hc27) fun w28 hc29 hu30 hr31=>Pl 2<|?_
 have U32:=u1 (Upd.mono (S':=[g]) hu19 all0) hu24 im
 have U33:=u1 U32 hu30 im
 have r34:=ub1 U33 (Ne.symm hne) B16
 refine L0<|Ost r34 19 (mG c 0 0 0 0 0 0 0 0 0 0 0 nS nS nS nS me kd C0.byteV x25.byteV 0 nS) fun w35 B36 hu37=>ng<|Pl 4<|L0<|Olb B36 19<|Pl 2<|cu 6 [29] 35 (((x25.byteV == 0) || (x25.byteV == 255))) (fun K K39=>?_) ?_
 refine bl 29 ((x25.byteV == 0)) (fun q38=>?_) (fun q38=>?_)
 have q38p:=eq_of_beqi q38
 exact Pl 6<|ce K39 true (by rw [q38]; rfl)
 have q38p:=ne_of_beqi q38
 exact Pl 3<|L1<|Olb B36 19<|Pl 2<|ce K39 (x25.byteV == 255) (by rw [q38]; rfl)
 have r40:=CurAt.upd hc29 hu37 (not_cons hne not0) (safe_cons (safe1 r34 (by decide)) safe0)
 refine L0<|Oc<|m2 (need_any (((x25.byteV == 0) || (x25.byteV == 255))) 6 r40) fun w41 hc42 hu43=>?_
 refine ab hc42 fun x44 ex45 hc46=>?_
 refine ng<|Pl 2<|L0<|Oc<|m3 (byte_any hc46) fun w47 hc48 hu49 hr50=>Pl 2<|?_
 have U51:=u1 hu43 hu49 im
 have r52:=ub1 U51 (Ne.symm hne) B36
 refine L0<|Ost r52 20 (mG c 0 0 0 0 0 0 0 0 0 0 0 nS nS nS nS me kd C0.byteV x25.byteV x44.byteV nS) fun w53 B54 hu55=>ng<|Pl 4<|L0<|Olb B54 19<|Pl 2<|cu 6 [48] 54 (((x25.byteV != 0) || (x44.byteV == 0))) (fun K K57=>?_) ?_
 refine bl 48 ((x25.byteV != 0)) (fun q56=>?_) (fun q56=>?_)
 have q56p:=ne_of_bnei q56
 exact Pl 6<|ce K57 true (by rw [q56]; rfl)
 have q56p:=eq_of_bnei q56
 exact Pl 3<|L1<|Olb B54 20<|Pl 2<|ce K57 (x44.byteV == 0) (by rw [q56]; rfl)
 have r58:=CurAt.upd hc48 hu55 (not_cons hne not0) (safe_cons (safe1 r52 (by decide)) safe0)
 refine L0<|Oc<|m2 (need_any (((x25.byteV != 0) || (x44.byteV == 0))) 6 r58) fun w59 hc60 hu61=>?_
 refine ab hc60 fun x62 ex63 hc64=>?_
 refine ng<|Pl 1<|L0<|Oc<|m3 (byte_any hc64) fun w65 hc66 hu67 hr68=>L0<|Oi x62.byteV<|Pl 1<|ng<|Pl 4<|?_
 have U69:=u1 hu61 hu67 im
 have r70:=ub1 U69 (Ne.symm hne) B54
 refine L0<|Olb r70 17<|Pl 2<|cu 3 [65] 68 (((kd != 4) || (x62.byteV == 1))) (fun K K72=>?_) ?_
 refine bl 65 ((kd != 4)) (fun q71=>?_) (fun q71=>?_)
 have q71p:=ne_of_bnei q71
 exact Pl 3<|ce K72 true (by rw [q71]; rfl)
 have q71p:=eq_of_bnei q71
 exact Pl 3<|ce K72 (x62.byteV == 1) (by rw [q71]; rfl)
 refine L0<|Oc<|m2 (need_any (((kd != 4) || (x62.byteV == 1))) 5 hc66) fun w73 hc74 hu75=>?_
 refine ab hc74 fun x76 ex77 hc78=>?_
 refine ng<|Pl 2<|nt<|bk<|?_
 have r79:=ub1 hu75 (Ne.symm hne) r70
 refine glp (fun x=>[(0,.pointer (some ⟨g,0,none⟩)),(1,.pointer (some ⟨gm,0,none⟩)),(70,.int .i64 x62.byteV),(71,.int .i64 ((x.1:Nat) : Int))]) (fun (x:Nat × Cur × List Obj × Option Addr × Nat) w'=>Upd [g,gm] w73 w'∧CurAt w' g x.2.1∧w'.heap[gm]? = some (.cells #[.int .u8 c,.int .u8 0,.int .u16 0,.int .u16 0,.int .u16 0,.int .u16 0,.int .u16 0,.int .u16 0,.int .u16 0,.int .u16 0,.int .u16 0,.int .u16 0,.slice none 0 0,.slice none 0 0,.slice none 0 0,.slice none 0 0,.int .u8 me,.int .u8 kd,.int .u8 C0.byteV,.int .u8 x25.byteV,.int .u8 x44.byteV,.slice x.2.2.2.1 x.2.2.1.length x.2.2.2.2] 31 (0,0))∧OwnG w73.heap.size 85 2 (objR true) w' (.slice x.2.2.2.1 x.2.2.1.length x.2.2.2.2) x.2.2.1∧(x.1≤x62.byteV.toNat)∧(objsR (x62.byteV.toNat - x.1) x.2.1 x.2.2.1=objsR x62.byteV.toNat x76 [])∧(x.2.2.1.length≤x.1)) (fun x=>x62.byteV.toNat - x.1) (0,x76,[],none,0) ⟨Upd.refl _ _,hc78,r79,OwnG.nil ..,(by (try dsimp only); omega),(by (try dsimp only); rw [Nat.sub_zero]),(by (try dsimp only); (try simp only [List.length_append,List.length_cons,List.length_nil]); omega)⟩ ?_
 rintro ⟨k,C,L,A,cp⟩ w80 ⟨hu81,f82,f83,f84,p85,p86,p87⟩
 refine wkc [(0,.pointer (some ⟨g,0,none⟩)),(1,.pointer (some ⟨gm,0,none⟩)),(70,.int .i64 x62.byteV),(71,.int .i64 ((k:Nat) : Int))] ?_
 have f89:CurAt w80 g C:=f82
 have f90:w80.heap[gm]? = some (.cells #[.int .u8 c,.int .u8 0,.int .u16 0,.int .u16 0,.int .u16 0,.int .u16 0,.int .u16 0,.int .u16 0,.int .u16 0,.int .u16 0,.int .u16 0,.int .u16 0,.slice none 0 0,.slice none 0 0,.slice none 0 0,.slice none 0 0,.int .u8 me,.int .u8 kd,.int .u8 C0.byteV,.int .u8 x25.byteV,.int .u8 x44.byteV,.slice A L.length cp] 31 (0,0)):=f83
 have f91:OwnG w73.heap.size 85 2 (objR true) w80 (.slice A L.length cp) L:=f84
 have p92:k≤x62.byteV.toNat:=p85
 have p93:objsR (x62.byteV.toNat - k) C L=objsR x62.byteV.toNat x76 []:=p86
 have p94:L.length≤k:=p87
 have hobj:objsR (x62.byteV.toNat - k) C L=objsR x62.byteV.toNat x76 []:=by assumption
 refine sg<|Pl 1<|nt<|sq<|?_
 have U95:=u1 (Upd.mono (S':=[g,gm]) hu12 (ac im all0)) hu17 im
 have U96:=ut0 U95 hu19
 have U97:=u1 U96 hu24 im
 have U98:=u1 U97 hu30 im
 have U99:=u1 U98 hu37 im
 have U100:=u1 U99 hu43 im
 have U101:=u1 U100 hu49 im
 have U102:=u1 U101 hu55 im
 have U103:=u1 U102 hu61 im
 have U104:=u1 U103 hu67 im
 have U105:=u1 U104 hu75 im
 have U106:=ut U105 hu81 (ac im (ac im all0))
 refine cb ((decide (((k:Nat) : Int) < x62.byteV))) (fun q107=>?_) (fun q107=>?_)
 have q107p:=of_decide_eq_true q107
 refine skn<|sq<|bk<|sg<|Pl 1<|L0<|Oc<|m3 (byte_any f89) fun w108 hc109 hu110 hr111=>Pl 1<|nt<|Rg 17 (fun w'=>True) fun w301 hu302=>hld trivial fun hS303=>Rt 0 hS303<|?_
 refine Rt 1 hS303<|Rt 2 hS303<|Rt 3 hS303<|Rt 5 hS303<|Rt 6 hS303<|Rt 7 hS303<|?_
 refine R2 4 8 rfl rfl ?_ ?_
 have U304:=ut0 hu110 hu302
 have r305:=ub1 U304 (Ne.symm hne) f90
 refine  Olb r305 21<|hld trivial fun hS306=>?_
 have r307:=CurAt.old hc109 hu302
 refine R0 8 rfl<|Oc<|m3 (byte_any r307) fun w308 hc309 hu310 hr311=>hld trivial fun hS312=>Rr 9 hS312 (.int .i64 ((C.bytesC 1).byteV)) (fun _ _=>run_eqo (.int .i64 (IntKind.i64.wrap ((C.bytesC 1).byteV))) (by kernel_rfl) (congrArg (Value.int .i64) (i64_in (by omega))))<|R0 10 rfl<|Oc<|sr3 (bytes_any (n:=(C.bytesC 1).byteV) hc309) fun A322 cp323 w313 rd326 hl324 hm325 hc316 hu317=>?_
 have hlb318:=Nat.le_trans (Cur.bytesR_le ((C.bytesC 1).bytesC 1) ((C.bytesC 1).byteV)) (CurAt.len hc309)
 refine ab hc316 fun x319 ex320 hc321=>?_
 refine hld trivial fun hS327=>Rt 11 hS327<|R0 12 rfl<|Olt (m:=1) (e:=85) #[.int .u8 C.byteV,.slice A322 ((((C.bytesC 1).bytesC 1).bytesR ((C.bytesC 1).byteV)).length) cp323] fun g328 w329 hg330 B331 hu332=>?_
 have r333:=RdB.upd' rd326 hu332 safe0
 have ol334:=lit1 (R:=objR true) (x:=(Obj.mk C.byteV (((C.bytesC 1).bytesC 1).bytesR ((C.bytesC 1).byteV)))) B331 rfl ⟨_,rfl,r333,b8 (by omega)⟩
 refine hld trivial fun hS335=>?_
 have U336:=u1 U304 hu310 im
 have U337:=u1 U336 hu317 im
 have U338:=ut0 U337 hu332
 have r339:=own_stay f91 U338 (fun x hx=>(not_cons (fun e=>(not_old (CurAt.lt hC) U105.size f91) (e ▸ hx)) not0)) (objR.upd8 U338 (safe_cons (CurAt.safe f89 _ (by decide)) safe0))
 refine R0 13 rfl<|Oappg (xs:=L) (ys:=([(Obj.mk C.byteV (((C.bytesC 1).bytesC 1).bytesR ((C.bytesC 1).byteV)))])) (.agg #[.int .u8 0,.slice none 0 0]) 2 32 r339 ol334 (by simp) objR.ones (fun w' hv=>objR.upd8 hv (safe_app (ob_safe _ r339 (by decide)) safe0)) (by (try simp only [List.length_append,List.length_cons,List.length_nil,putW_length]); omega) (le (le (le (le (le hu81.size hu110.size) hu302.size) hu310.size) hu317.size) hu332.size) fun A340 cp341 w342 ho343 hu344=>hld trivial fun hS347=>Rt 14 hS347<|Rt 15 hS347<|?_
 have U348:=u1 hu310 hu317 im
 have U349:=ut0 U348 hu332
 have U350:=ut (Upd.mono (S':=(g :: (ob A++[]))) U349 (ac im all0)) hu344 (all_app (fun x hx=>Or.inl (by simp [hx])) all0)
 have r351:=Upd.blk U350 (not_cons (Ne.symm hne) (not_app (not_old (blk_lt hm) U105.size f91) not0)) r305
 refine R0 16 rfl<|Ost r351 21 (mG c 0 0 0 0 0 0 0 0 0 0 0 nS nS nS nS me kd C0.byteV x25.byteV x44.byteV (.slice A340 ((L++[(Obj.mk C.byteV (((C.bytesC 1).bytesC 1).bytesR ((C.bytesC 1).byteV)))]).length) cp341)) fun w352 B353 hu354=>hld trivial fun hS355=>re<|bn<|tn<|go<|L0<|Oi (((k:Nat) : Int) + 1)<|Pl 1<|nl<|?_
 subst ex320
 have U356:=u1 hu81 hu110 im
 have U357:=ut0 U356 hu302
 have U358:=u1 U357 hu310 im
 have U359:=u1 U358 hu317 im
 have U360:=ut0 U359 hu332
 have U361:=ut U360 hu344 (all_app (ob_new f91 lr) all0)
 have U362:=u1 U361 hu354 im
 have U363:=ut (Upd.mono (S':=(ob A++[])) hu332 all0) hu344 (all_app (fun x hx=>Or.inl (by simp [hx])) all0)
 have U364:=u1 (Upd.mono (S':=(ob A++(gm :: []))) U363 (all_app (fun x hx=>Or.inl (by simp [hx])) all0)) hu354 im
 have r365:=ub1 U348 (Ne.symm hne) r305
 have r366:=own_stay f91 U337 (fun x hx=>(not_cons (fun e=>(not_old (CurAt.lt hC) U105.size f91) (e ▸ hx)) not0)) (objR.upd8 U337 (safe_cons (CurAt.safe f89 _ (by decide)) safe0))
 have r367:=CurAt.upd hc321 U364 (not_app (not_old (CurAt.lt hC) U105.size f91) (not_cons hne not0)) (safe_app (ob_safe _ r366 (by decide)) (safe_cons (safe1 r365 (by decide)) safe0))
 have r368:=own_stay ho343 hu354 (fun x hx=>(not_cons (fun e=>(not_old (blk_lt hm) U105.size ho343) (e ▸ hx)) not0)) (objR.upd8 hu354 (safe_cons (safe1 r351 (by decide)) safe0))
 exact lpe ((k + 1),(((C.bytesC 1).bytesC 1).bytesC ((C.bytesC 1).byteV)),(L++[(Obj.mk C.byteV (((C.bytesC 1).bytesC 1).bytesR ((C.bytesC 1).byteV)))]),A340,cp341) ⟨U362,r367,B353,r368,(by (try dsimp only); omega),(by (try dsimp only); rw [← hobj,show x62.byteV.toNat - k=(x62.byteV.toNat - (k + 1)) + 1 from by omega]; rfl),(by (try dsimp only); (try simp only [List.length_append,List.length_cons,List.length_nil]); omega)⟩ (by omega)
 have r369:=CurAt.old hc109 hu302
 refine  Oc<|m3 (byte_any r369) fun w370 hc371 hu372 hr373=>hld trivial fun hS374=>Rr 9 hS374 (.int .i64 ((C.bytesC 1).byteV)) (fun _ _=>run_eqo (.int .i64 (IntKind.i64.wrap ((C.bytesC 1).byteV))) (by kernel_rfl) (congrArg (Value.int .i64) (i64_in (by omega))))<|?_
 refine R2 4 10 rfl rfl ?_ ?_
 have U375:=ut0 hu110 hu302
 have U376:=u1 U375 hu372 im
 have r377:=ub1 U376 (Ne.symm hne) f90
 refine  Olb r377 21<|hld trivial fun hS378=>R0 10 rfl<|Oc<|sr3 (bytes_any (n:=(C.bytesC 1).byteV) hc371) fun A388 cp389 w379 rd392 hl390 hm391 hc382 hu383=>?_
 have hlb384:=Nat.le_trans (Cur.bytesR_le ((C.bytesC 1).bytesC 1) ((C.bytesC 1).byteV)) (CurAt.len hc371)
 refine ab hc382 fun x385 ex386 hc387=>?_
 refine hld trivial fun hS393=>Rt 11 hS393<|R0 12 rfl<|Olt (m:=1) (e:=85) #[.int .u8 C.byteV,.slice A388 ((((C.bytesC 1).bytesC 1).bytesR ((C.bytesC 1).byteV)).length) cp389] fun g394 w395 hg396 B397 hu398=>?_
 have r399:=RdB.upd' rd392 hu398 safe0
 have ol400:=lit1 (R:=objR true) (x:=(Obj.mk C.byteV (((C.bytesC 1).bytesC 1).bytesR ((C.bytesC 1).byteV)))) B397 rfl ⟨_,rfl,r399,b8 (by omega)⟩
 refine hld trivial fun hS401=>?_
 have U402:=u1 U376 hu383 im
 have U403:=ut0 U402 hu398
 have r404:=own_stay f91 U403 (fun x hx=>(not_cons (fun e=>(not_old (CurAt.lt hC) U105.size f91) (e ▸ hx)) not0)) (objR.upd8 U403 (safe_cons (CurAt.safe f89 _ (by decide)) safe0))
 refine R0 13 rfl<|Oappg (xs:=L) (ys:=([(Obj.mk C.byteV (((C.bytesC 1).bytesC 1).bytesR ((C.bytesC 1).byteV)))])) (.agg #[.int .u8 0,.slice none 0 0]) 2 32 r404 ol400 (by simp) objR.ones (fun w' hv=>objR.upd8 hv (safe_app (ob_safe _ r404 (by decide)) safe0)) (by (try simp only [List.length_append,List.length_cons,List.length_nil,putW_length]); omega) (le (le (le (le (le hu81.size hu110.size) hu302.size) hu372.size) hu383.size) hu398.size) fun A405 cp406 w407 ho408 hu409=>hld trivial fun hS412=>Rt 14 hS412<|Rt 15 hS412<|?_
 have U413:=ut0 hu383 hu398
 have U414:=ut (Upd.mono (S':=(g :: (ob A++[]))) U413 (ac im all0)) hu409 (all_app (fun x hx=>Or.inl (by simp [hx])) all0)
 have r415:=Upd.blk U414 (not_cons (Ne.symm hne) (not_app (not_old (blk_lt hm) U105.size f91) not0)) r377
 refine R0 16 rfl<|Ost r415 21 (mG c 0 0 0 0 0 0 0 0 0 0 0 nS nS nS nS me kd C0.byteV x25.byteV x44.byteV (.slice A405 ((L++[(Obj.mk C.byteV (((C.bytesC 1).bytesC 1).bytesR ((C.bytesC 1).byteV)))]).length) cp406)) fun w416 B417 hu418=>hld trivial fun hS419=>re<|bn<|tn<|go<|L0<|Oi (((k:Nat) : Int) + 1)<|Pl 1<|nl<|?_
 subst ex386
 have U420:=u1 hu81 hu110 im
 have U421:=ut0 U420 hu302
 have U422:=u1 U421 hu372 im
 have U423:=u1 U422 hu383 im
 have U424:=ut0 U423 hu398
 have U425:=ut U424 hu409 (all_app (ob_new f91 lr) all0)
 have U426:=u1 U425 hu418 im
 have U427:=ut (Upd.mono (S':=(ob A++[])) hu398 all0) hu409 (all_app (fun x hx=>Or.inl (by simp [hx])) all0)
 have U428:=u1 (Upd.mono (S':=(ob A++(gm :: []))) U427 (all_app (fun x hx=>Or.inl (by simp [hx])) all0)) hu418 im
 have r429:=ub1 hu383 (Ne.symm hne) r377
 have r430:=own_stay f91 U402 (fun x hx=>(not_cons (fun e=>(not_old (CurAt.lt hC) U105.size f91) (e ▸ hx)) not0)) (objR.upd8 U402 (safe_cons (CurAt.safe f89 _ (by decide)) safe0))
 have r431:=CurAt.upd hc387 U428 (not_app (not_old (CurAt.lt hC) U105.size f91) (not_cons hne not0)) (safe_app (ob_safe _ r430 (by decide)) (safe_cons (safe1 r429 (by decide)) safe0))
 have r432:=own_stay ho408 hu418 (fun x hx=>(not_cons (fun e=>(not_old (blk_lt hm) U105.size ho408) (e ▸ hx)) not0)) (objR.upd8 hu418 (safe_cons (safe1 r415 (by decide)) safe0))
 exact lpe ((k + 1),(((C.bytesC 1).bytesC 1).bytesC ((C.bytesC 1).byteV)),(L++[(Obj.mk C.byteV (((C.bytesC 1).bytesC 1).bytesR ((C.bytesC 1).byteV)))]),A405,cp406) ⟨U426,r431,B417,r432,(by (try dsimp only); omega),(by (try dsimp only); rw [← hobj,show x62.byteV.toNat - k=(x62.byteV.toNat - (k + 1)) + 1 from by omega]; rfl),(by (try dsimp only); (try simp only [List.length_append,List.length_cons,List.length_nil]); omega)⟩ (by omega)
 refine  Oc<|sr3 (bytes_any (n:=(C.bytesC 1).byteV) hc371) fun A442 cp443 w433 rd446 hl444 hm445 hc436 hu437=>?_
 have hlb438:=Nat.le_trans (Cur.bytesR_le ((C.bytesC 1).bytesC 1) ((C.bytesC 1).byteV)) (CurAt.len hc371)
 refine ab hc436 fun x439 ex440 hc441=>?_
 refine hld trivial fun hS447=>Rt 11 hS447<|?_
 refine R2 4 12 rfl rfl ?_ ?_
 have U448:=ut0 hu110 hu302
 have U449:=u1 U448 hu372 im
 have U450:=u1 U449 hu437 im
 have r451:=ub1 U450 (Ne.symm hne) f90
 refine  Olb r451 21<|hld trivial fun hS452=>R0 12 rfl<|Olt (m:=1) (e:=85) #[.int .u8 C.byteV,.slice A442 ((((C.bytesC 1).bytesC 1).bytesR ((C.bytesC 1).byteV)).length) cp443] fun g453 w454 hg455 B456 hu457=>?_
 have r458:=RdB.upd' rd446 hu457 safe0
 have ol459:=lit1 (R:=objR true) (x:=(Obj.mk C.byteV (((C.bytesC 1).bytesC 1).bytesR ((C.bytesC 1).byteV)))) B456 rfl ⟨_,rfl,r458,b8 (by omega)⟩
 refine hld trivial fun hS460=>?_
 have U461:=ut0 U450 hu457
 have r462:=own_stay f91 U461 (fun x hx=>(not_cons (fun e=>(not_old (CurAt.lt hC) U105.size f91) (e ▸ hx)) not0)) (objR.upd8 U461 (safe_cons (CurAt.safe f89 _ (by decide)) safe0))
 refine R0 13 rfl<|Oappg (xs:=L) (ys:=([(Obj.mk C.byteV (((C.bytesC 1).bytesC 1).bytesR ((C.bytesC 1).byteV)))])) (.agg #[.int .u8 0,.slice none 0 0]) 2 32 r462 ol459 (by simp) objR.ones (fun w' hv=>objR.upd8 hv (safe_app (ob_safe _ r462 (by decide)) safe0)) (by (try simp only [List.length_append,List.length_cons,List.length_nil,putW_length]); omega) (le (le (le (le (le hu81.size hu110.size) hu302.size) hu372.size) hu437.size) hu457.size) fun A463 cp464 w465 ho466 hu467=>hld trivial fun hS470=>Rt 14 hS470<|Rt 15 hS470<|?_
 have U471:=ut (Upd.mono (S':=(ob A++[])) hu457 all0) hu467 (all_app (fun x hx=>Or.inl (by simp [hx])) all0)
 have r472:=Upd.blk U471 (not_app (not_old (blk_lt hm) U105.size f91) not0) r451
 refine R0 16 rfl<|Ost r472 21 (mG c 0 0 0 0 0 0 0 0 0 0 0 nS nS nS nS me kd C0.byteV x25.byteV x44.byteV (.slice A463 ((L++[(Obj.mk C.byteV (((C.bytesC 1).bytesC 1).bytesR ((C.bytesC 1).byteV)))]).length) cp464)) fun w473 B474 hu475=>hld trivial fun hS476=>re<|bn<|tn<|go<|L0<|Oi (((k:Nat) : Int) + 1)<|Pl 1<|nl<|?_
 subst ex440
 have U477:=u1 hu81 hu110 im
 have U478:=ut0 U477 hu302
 have U479:=u1 U478 hu372 im
 have U480:=u1 U479 hu437 im
 have U481:=ut0 U480 hu457
 have U482:=ut U481 hu467 (all_app (ob_new f91 lr) all0)
 have U483:=u1 U482 hu475 im
 have U484:=u1 (Upd.mono (S':=(ob A++(gm :: []))) U471 (all_app (fun x hx=>Or.inl (by simp [hx])) all0)) hu475 im
 have r485:=own_stay f91 U450 (fun x hx=>(not_cons (fun e=>(not_old (CurAt.lt hC) U105.size f91) (e ▸ hx)) not0)) (objR.upd8 U450 (safe_cons (CurAt.safe f89 _ (by decide)) safe0))
 have r486:=CurAt.upd hc441 U484 (not_app (not_old (CurAt.lt hC) U105.size f91) (not_cons hne not0)) (safe_app (ob_safe _ r485 (by decide)) (safe_cons (safe1 r451 (by decide)) safe0))
 have r487:=own_stay ho466 hu475 (fun x hx=>(not_cons (fun e=>(not_old (blk_lt hm) U105.size ho466) (e ▸ hx)) not0)) (objR.upd8 hu475 (safe_cons (safe1 r472 (by decide)) safe0))
 exact lpe ((k + 1),(((C.bytesC 1).bytesC 1).bytesC ((C.bytesC 1).byteV)),(L++[(Obj.mk C.byteV (((C.bytesC 1).bytesC 1).bytesR ((C.bytesC 1).byteV)))]),A463,cp464) ⟨U483,r486,B474,r487,(by (try dsimp only); omega),(by (try dsimp only); rw [← hobj,show x62.byteV.toNat - k=(x62.byteV.toNat - (k + 1)) + 1 from by omega]; rfl),(by (try dsimp only); (try simp only [List.length_append,List.length_cons,List.length_nil]); omega)⟩ (by omega)
 refine  Olt (m:=1) (e:=85) #[.int .u8 C.byteV,.slice A442 ((((C.bytesC 1).bytesC 1).bytesR ((C.bytesC 1).byteV)).length) cp443] fun g488 w489 hg490 B491 hu492=>?_
 have r493:=RdB.upd' rd446 hu492 safe0
 have ol494:=lit1 (R:=objR true) (x:=(Obj.mk C.byteV (((C.bytesC 1).bytesC 1).bytesR ((C.bytesC 1).byteV)))) B491 rfl ⟨_,rfl,r493,b8 (by omega)⟩
 refine hld trivial fun hS495=>?_
 have U496:=ut0 hu110 hu302
 have U497:=u1 U496 hu372 im
 have U498:=u1 U497 hu437 im
 have U499:=ut0 U498 hu492
 have r500:=ub1 U499 (Ne.symm hne) f90
 refine R0 4 rfl<|Olb r500 21<|hld trivial fun hS501=>?_
 have r502:=own_stay f91 U499 (fun x hx=>(not_cons (fun e=>(not_old (CurAt.lt hC) U105.size f91) (e ▸ hx)) not0)) (objR.upd8 U499 (safe_cons (CurAt.safe f89 _ (by decide)) safe0))
 refine R0 13 rfl<|Oappg (xs:=L) (ys:=([(Obj.mk C.byteV (((C.bytesC 1).bytesC 1).bytesR ((C.bytesC 1).byteV)))])) (.agg #[.int .u8 0,.slice none 0 0]) 2 32 r502 ol494 (by simp) objR.ones (fun w' hv=>objR.upd8 hv (safe_app (ob_safe _ r502 (by decide)) safe0)) (by (try simp only [List.length_append,List.length_cons,List.length_nil,putW_length]); omega) (le (le (le (le (le hu81.size hu110.size) hu302.size) hu372.size) hu437.size) hu492.size) fun A503 cp504 w505 ho506 hu507=>hld trivial fun hS510=>Rt 14 hS510<|Rt 15 hS510<|?_
 have r511:=Upd.blk hu507 (not_app (not_old (blk_lt hm) U105.size f91) not0) r500
 refine R0 16 rfl<|Ost r511 21 (mG c 0 0 0 0 0 0 0 0 0 0 0 nS nS nS nS me kd C0.byteV x25.byteV x44.byteV (.slice A503 ((L++[(Obj.mk C.byteV (((C.bytesC 1).bytesC 1).bytesR ((C.bytesC 1).byteV)))]).length) cp504)) fun w512 B513 hu514=>hld trivial fun hS515=>re<|bn<|tn<|go<|L0<|Oi (((k:Nat) : Int) + 1)<|Pl 1<|nl<|?_
 subst ex440
 have U516:=u1 hu81 hu110 im
 have U517:=ut0 U516 hu302
 have U518:=u1 U517 hu372 im
 have U519:=u1 U518 hu437 im
 have U520:=ut0 U519 hu492
 have U521:=ut U520 hu507 (all_app (ob_new f91 lr) all0)
 have U522:=u1 U521 hu514 im
 have U523:=ut (Upd.mono (S':=(ob A++[])) hu492 all0) hu507 (all_app (fun x hx=>Or.inl (by simp [hx])) all0)
 have U524:=u1 (Upd.mono (S':=(ob A++(gm :: []))) U523 (all_app (fun x hx=>Or.inl (by simp [hx])) all0)) hu514 im
 have r525:=ub1 U498 (Ne.symm hne) f90
 have r526:=own_stay f91 U498 (fun x hx=>(not_cons (fun e=>(not_old (CurAt.lt hC) U105.size f91) (e ▸ hx)) not0)) (objR.upd8 U498 (safe_cons (CurAt.safe f89 _ (by decide)) safe0))
 have r527:=CurAt.upd hc441 U524 (not_app (not_old (CurAt.lt hC) U105.size f91) (not_cons hne not0)) (safe_app (ob_safe _ r526 (by decide)) (safe_cons (safe1 r525 (by decide)) safe0))
 have r528:=own_stay ho506 hu514 (fun x hx=>(not_cons (fun e=>(not_old (blk_lt hm) U105.size ho506) (e ▸ hx)) not0)) (objR.upd8 hu514 (safe_cons (safe1 r511 (by decide)) safe0))
 exact lpe ((k + 1),(((C.bytesC 1).bytesC 1).bytesC ((C.bytesC 1).byteV)),(L++[(Obj.mk C.byteV (((C.bytesC 1).bytesC 1).bytesR ((C.bytesC 1).byteV)))]),A503,cp504) ⟨U522,r527,B513,r528,(by (try dsimp only); omega),(by (try dsimp only); rw [← hobj,show x62.byteV.toNat - k=(x62.byteV.toNat - (k + 1)) + 1 from by omega]; rfl),(by (try dsimp only); (try simp only [List.length_append,List.length_cons,List.length_nil]); omega)⟩ (by omega)
 have q107p:=of_decide_eq_false q107
 refine xt<|tx<|tx<|bx<|rm (.tuple #[])<|?_
 subst ex77 ex63 ex45 ex26
 have hf:meiObjs kd C0=(C,L):=by
   have h1:objsR ((((((C0.bytesC 1).need (levelB C0.byteV) 6).bytesC 1).need ((((C0.bytesC 1).need (levelB C0.byteV) 6).byteV == 0) || (((C0.bytesC 1).need (levelB C0.byteV) 6).byteV == 255)) 6).bytesC 1).need ((((C0.bytesC 1).need (levelB C0.byteV) 6).byteV != 0) || (((((C0.bytesC 1).need (levelB C0.byteV) 6).bytesC 1).need ((((C0.bytesC 1).need (levelB C0.byteV) 6).byteV == 0) || (((C0.bytesC 1).need (levelB C0.byteV) 6).byteV == 255)) 6).byteV == 0)) 6).byteV.toNat ((((((((C0.bytesC 1).need (levelB C0.byteV) 6).bytesC 1).need ((((C0.bytesC 1).need (levelB C0.byteV) 6).byteV == 0) || (((C0.bytesC 1).need (levelB C0.byteV) 6).byteV == 255)) 6).bytesC 1).need ((((C0.bytesC 1).need (levelB C0.byteV) 6).byteV != 0) || (((((C0.bytesC 1).need (levelB C0.byteV) 6).bytesC 1).need ((((C0.bytesC 1).need (levelB C0.byteV) 6).byteV == 0) || (((C0.bytesC 1).need (levelB C0.byteV) 6).byteV == 255)) 6).byteV == 0)) 6).bytesC 1).need ((kd != 4) || (((((((C0.bytesC 1).need (levelB C0.byteV) 6).bytesC 1).need ((((C0.bytesC 1).need (levelB C0.byteV) 6).byteV == 0) || (((C0.bytesC 1).need (levelB C0.byteV) 6).byteV == 255)) 6).bytesC 1).need ((((C0.bytesC 1).need (levelB C0.byteV) 6).byteV != 0) || (((((C0.bytesC 1).need (levelB C0.byteV) 6).bytesC 1).need ((((C0.bytesC 1).need (levelB C0.byteV) 6).byteV == 0) || (((C0.bytesC 1).need (levelB C0.byteV) 6).byteV == 255)) 6).byteV == 0)) 6).byteV == 1)) 5) []=(C,L):=by
     rw [← hobj,show ((((((C0.bytesC 1).need (levelB C0.byteV) 6).bytesC 1).need ((((C0.bytesC 1).need (levelB C0.byteV) 6).byteV == 0) || (((C0.bytesC 1).need (levelB C0.byteV) 6).byteV == 255)) 6).bytesC 1).need ((((C0.bytesC 1).need (levelB C0.byteV) 6).byteV != 0) || (((((C0.bytesC 1).need (levelB C0.byteV) 6).bytesC 1).need ((((C0.bytesC 1).need (levelB C0.byteV) 6).byteV == 0) || (((C0.bytesC 1).need (levelB C0.byteV) 6).byteV == 255)) 6).byteV == 0)) 6).byteV.toNat - k=0 from by omega]
     rfl
   exact h1
 rw [hf]
 exact ⟨rfl,f89,⟨_,⟨f90,rfl⟩,⟨_,_,_,_,_,rfl,RdG.nil ..,RdG.nil ..,RdG.nil ..,RdG.nil ..,(f91).rd,⟨(b8 (x:=c) (by omega)),(b8 (x:=0) (by omega)),(b16 (x:=0) (by omega)),(b16 (x:=0) (by omega)),(b16 (x:=0) (by omega)),(b16 (x:=0) (by omega)),(b16 (x:=0) (by omega)),(b16 (x:=0) (by omega)),(b16 (x:=0) (by omega)),(b16 (x:=0) (by omega)),(b16 (x:=0) (by omega)),(b16 (x:=0) (by omega)),(b8 (x:=me) (by omega)),(b8 (x:=kd) (by omega)),(b8 (x:=C0.byteV) (by omega)),(b8 (x:=((C0.bytesC 1).need (levelB C0.byteV) 6).byteV) (by omega)),(b8 (x:=((((C0.bytesC 1).need (levelB C0.byteV) 6).bytesC 1).need ((((C0.bytesC 1).need (levelB C0.byteV) 6).byteV == 0) || (((C0.bytesC 1).need (levelB C0.byteV) 6).byteV == 255)) 6).byteV) (by omega))⟩⟩⟩,U106⟩
open Go.RowKit
def meiA (C:Cur) : Cur:=(C.bytesC 1).need (C.byteV == 13 || C.byteV == 14) 8
def meiB (C:Cur) : Cur:=(meiA C).need (decide (((meiA C).l.length:Int)≤251)) 5
def meiD (C:Cur) : Cur:=((meiA C).bytesC 1).need (decide (1≤(meiA C).byteV) && decide ((meiA C).byteV≤4)) 6
def meiForm (dir c:Int) (C:Cur) : Option (Cur × Msg) :=
  if c != 43 then none
  else if C.byteV == 13 then some ((meiB C).bytesC ((meiB C).l.length:Int),{ Msg.zero with code:=c,mei:=C.byteV,data:=(meiB C).bytesR ((meiB C).l.length:Int) })
  else if dir == 1 then some ((meiObjs (meiA C).byteV (meiD C)).1,{ Msg.zero with code:=c,mei:=C.byteV,kind:=(meiA C).byteV,level:=(meiD C).byteV,more:=(mei1 (meiD C)).byteV,next:=(mei2 (meiD C)).byteV,objects:=(meiObjs (meiA C).byteV (meiD C)).2 })
  else some ((meiD C).bytesC 1,{ Msg.zero with code:=c,mei:=C.byteV,kind:=(meiA C).byteV,next:=(meiD C).byteV })
set_option maxRecDepth 100000 in
set_option maxHeartbeats 4000000 in
theorem mei_parse_0 {m:Bool} {A:Option Addr} {cp:Nat} {b:List Int} {w:World} {c:Int} (hcode:B8 c) (hsl:RdB m w (.slice A b.length cp) b) (hb:b.length≤1048576) :
    Calls Tryz.prog 66 #[.int .i64 0,.int .u8 c,.slice A b.length cp] w (PMsg (parseOf meiForm 0 c b) w):=by
 obtain ⟨hcode1,hcode2⟩:=hcode
 have hln:(b.length:Int)≤1048576:=by omega
 refine en 81 Tryz.func66 rfl<|sg<|L0<|Oal mZ fun g10 w11 hg12 B13 hu14=>Pl 1<|nt<|sq<|bk<|sg<|Pl 7<|nt<|?_
 refine c0<|sg<|Pl 3<|nt<|cb ((c != 43)) (fun q15=>?_) (fun q15=>?_)
 have q15p:=ne_of_bnei q15
 refine sg<|Pl 1<|L0<|Osw B13 mZ fun w16 B17 hu18=>Pl 1<|nt<|rt<|br<|tr<|rct B17 (.int .i64 4)<|?_
 have U19:=u1 hu14 hu18 (nr hg12)
 have hs:parseOf meiForm 0 c b=(Msg.zero,4):=by
   unfold parseOf meiForm meiB meiD meiA
   (try simp only [q15,bs,if_true,if_false,decide_true,decide_false,eq_self,true_or,or_true,or_false,false_or,if_true,if_false,i00,i01,i10,i11,reduceIte])
   all_goals rfl
 rw [hs]
 exact bad_res U19
 have q15p:=eq_of_bnei q15
 refine sk<|bn<|tn<|sg<|Pl 1<|?_
 have r20:=RdB.old hsl hu14
 refine L0<|Oc<|e3 (new_any r20 (by omega)) fun g22 w21 hg23 hc24 hu25=>Pl 1<|ng<|Pl 2<|L0<|Oc<|m3 (byte_any hc24) fun w26 hc27 hu28 hr29=>Pl 1<|L0<|Oal mZ fun g30 w31 hg32 B33 hu34=>L0<|Osw B33 (mG c 0 0 0 0 0 0 0 0 0 0 0 nS nS nS nS ((Cur.mk b false 0).byteV) 0 0 0 0 nS) fun w35 B36 hu37=>nt<|sq<|?_
 refine go<|Pl 2<|L0<|Olb B36 16<|Pl 2<|cu 4 [33] 37 (((((Cur.mk b false 0).byteV) == 13) || (((Cur.mk b false 0).byteV) == 14))) (fun K K39=>?_) ?_
 refine bl 33 ((((Cur.mk b false 0).byteV) == 13)) (fun q38=>?_) (fun q38=>?_)
 have q38p:=eq_of_beqi q38
 exact Pl 4<|ce K39 true (by rw [q38]; rfl)
 have q38p:=ne_of_beqi q38
 exact Pl 1<|L1<|Olb B36 16<|Pl 2<|ce K39 (((Cur.mk b false 0).byteV) == 14) (by rw [q38]; rfl)
 have U40:=u1 hu34 hu37 (nr hg32)
 have r41:=CurAt.old hc27 U40
 refine L0<|Oc<|m2 (need_any (((((Cur.mk b false 0).byteV) == 13) || (((Cur.mk b false 0).byteV) == 14))) 8 r41) fun w42 hc43 hu44=>?_
 refine ab hc43 fun x45 ex46 hc47=>?_
 refine nt<|sq<|sg<|Pl 1<|?_
 have ne48:=nb (CurAt.lt hc24) hu28.size hg32
 have r49:=ub1 hu44 (Ne.symm ne48) B36
 refine L0<|Olb r49 16<|Pl 1<|nt<|?_
 have U50:=ut0 hu14 hu25
 have U51:=u1 U50 hu28 (ni hu14.size hg23)
 have U52:=ut0 U51 hu34
 have U53:=u1 U52 hu37 (ni U51.size hg32)
 have U54:=u1 U53 hu44 (ni hu14.size hg23)
 refine cb ((((Cur.mk b false 0).byteV) == 13)) (fun q55=>?_) (fun q55=>?_)
 have q55p:=eq_of_beqi q55
 refine sg<|Pl 2<|L0<|Oc<|mq (left_any hc47)<|?_
 have hl56:=CurAt.len hc47
 refine Pl 1<|L0<|Oc<|m2 (need_any ((decide (((x45.l.length:Nat) : Int)≤251))) 5 hc47) fun w57 hc58 hu59=>?_
 refine ab hc58 fun x60 ex61 hc62=>?_
 refine nt<|go<|Pl 2<|L0<|Oc<|mq (left_any hc62)<|?_
 have hl63:=CurAt.len hc62
 refine L0<|Oc<|sr3 (bytes_any (n:=((x60.l.length:Nat) : Int)) hc62) fun A73 cp74 w64 rd77 hl75 hm76 hc67 hu68=>?_
 have hlb69:=Nat.le_trans (Cur.bytesR_le x60 ((x60.l.length:Nat) : Int)) (CurAt.len hc62)
 refine ab hc67 fun x70 ex71 hc72=>?_
 refine Pl 1<|?_
 have U78:=u1 hu59 hu68 im
 have r79:=ub1 U78 (Ne.symm ne48) r49
 refine L0<|Ost r79 14 (mG c 0 0 0 0 0 0 0 0 0 0 0 nS nS (.slice A73 ((x60.bytesR ((x60.l.length:Nat) : Int)).length) cp74) nS ((Cur.mk b false 0).byteV) 0 0 0 0 nS) fun w80 B81 hu82=>ng<|Pl 1<|?_
 have r83:=CurAt.upd hc72 hu82 (not_cons ne48 not0) (safe_cons (safe1 r79 (by decide)) safe0)
 refine L0<|Oc<|m2 (end_any r83) fun w84 hc85 hu86=>nt<|sq<|sg<|Pl 1<|L0<|Oc<|mq (err_any hc85)<|?_
 have hl87:=CurAt.len hc85
 refine Pl 1<|ng<|Pl 2<|nt<|?_
 have U88:=u1 U54 hu59 (ni hu14.size hg23)
 have U89:=u1 U88 hu68 (ni hu14.size hg23)
 have U90:=u1 U89 hu82 (ni U51.size hg32)
 have U91:=u1 U90 hu86 (ni hu14.size hg23)
 refine cb ((x70.endC.e != 0)) (fun q92=>?_) (fun q92=>?_)
 have q92p:=ne_of_bnei q92
 refine sg<|Pl 2<|?_
 have U93:=u1 hu25 hu28 (nr hg23)
 have U94:=ut0 U93 hu34
 have U95:=u1 U94 hu37 (ni U93.size hg32)
 have U96:=u1 U95 hu44 (nr hg23)
 have U97:=u1 U96 hu59 (nr hg23)
 have U98:=u1 U97 hu68 (nr hg23)
 have U99:=u1 U98 hu82 (ni U93.size hg32)
 have U100:=u1 U99 hu86 (nr hg23)
 have r101:=ub U100 B13
 refine L0<|Osw r101 mZ fun w102 B103 hu104=>Pl 1<|nt<|rt<|tr<|rct B103 (.int .i64 x70.endC.e)<|?_
 subst ex71 ex61 ex46
 have U105:=u1 U91 hu104 (nr hg12)
 have U106:=u1 (Upd.mono (S':=[g30,g22]) hu82 (ac im all0)) hu86 im
 have U107:=u1 (Upd.mono (S':=[g30,g22,g10]) U106 (ac im (ac im all0))) hu104 im
 have r108:=ub U98 B13
 have r109:=RdB.upd' rd77 U107 (safe_cons (safe1 r79 (by decide)) (safe_cons (CurAt.safe hc72 _ (by decide)) (safe_cons (safe1 r108 (by decide)) safe0)))
 have hs:parseOf meiForm 0 c b=finish (Msg.mk c 0 0 0 0 0 0 0 0 0 0 0 [] [] (((((Cur.mk b false 0).bytesC 1).need ((((Cur.mk b false 0).byteV) == 13) || (((Cur.mk b false 0).byteV) == 14)) 8).need (decide ((((((Cur.mk b false 0).bytesC 1).need ((((Cur.mk b false 0).byteV) == 13) || (((Cur.mk b false 0).byteV) == 14)) 8).l.length:Nat) : Int)≤251)) 5).bytesR ((((((Cur.mk b false 0).bytesC 1).need ((((Cur.mk b false 0).byteV) == 13) || (((Cur.mk b false 0).byteV) == 14)) 8).need (decide ((((((Cur.mk b false 0).bytesC 1).need ((((Cur.mk b false 0).byteV) == 13) || (((Cur.mk b false 0).byteV) == 14)) 8).l.length:Nat) : Int)≤251)) 5).l.length:Nat) : Int)) [] ((Cur.mk b false 0).byteV) 0 0 0 0 []) (((((Cur.mk b false 0).bytesC 1).need ((((Cur.mk b false 0).byteV) == 13) || (((Cur.mk b false 0).byteV) == 14)) 8).need (decide ((((((Cur.mk b false 0).bytesC 1).need ((((Cur.mk b false 0).byteV) == 13) || (((Cur.mk b false 0).byteV) == 14)) 8).l.length:Nat) : Int)≤251)) 5).bytesC ((((((Cur.mk b false 0).bytesC 1).need ((((Cur.mk b false 0).byteV) == 13) || (((Cur.mk b false 0).byteV) == 14)) 8).need (decide ((((((Cur.mk b false 0).bytesC 1).need ((((Cur.mk b false 0).byteV) == 13) || (((Cur.mk b false 0).byteV) == 14)) 8).l.length:Nat) : Int)≤251)) 5).l.length:Nat) : Int)):=by
   unfold parseOf meiForm meiB meiD meiA
   (try simp only [q15,q55,q92,bs,if_true,if_false,decide_true,decide_false,eq_self,true_or,or_true,or_false,false_or,if_true,if_false,i00,i01,i10,i11,reduceIte])
   all_goals rfl
 rw [hs]
 exact finish_bad q92p U105
 have q92p:=eq_of_bnei q92
 refine skn<|sg<|?_
 have r110:=ub1 hu86 (Ne.symm ne48) B81
 refine L0<|Olw r110<|?_
 have U111:=u1 hu25 hu28 (nr hg23)
 have U112:=ut0 U111 hu34
 have U113:=u1 U112 hu37 (ni U111.size hg32)
 have U114:=u1 U113 hu44 (nr hg23)
 have U115:=u1 U114 hu59 (nr hg23)
 have U116:=u1 U115 hu68 (nr hg23)
 have U117:=u1 U116 hu82 (ni U111.size hg32)
 have U118:=u1 U117 hu86 (nr hg23)
 have r119:=ub U118 B13
 refine L0<|Osw r119 (mG c 0 0 0 0 0 0 0 0 0 0 0 nS nS (.slice A73 ((x60.bytesR ((x60.l.length:Nat) : Int)).length) cp74) nS ((Cur.mk b false 0).byteV) 0 0 0 0 nS) fun w120 B121 hu122=>Pl 1<|nt<|rt<|rct B121 (.int .i64 0)<|?_
 subst ex71 ex61 ex46
 have U123:=u1 U91 hu122 (nr hg12)
 have U124:=u1 (Upd.mono (S':=[g30,g22]) hu82 (ac im all0)) hu86 im
 have U125:=u1 (Upd.mono (S':=[g30,g22,g10]) U124 (ac im (ac im all0))) hu122 im
 have r126:=ub U116 B13
 have r127:=RdB.upd' rd77 U125 (safe_cons (safe1 r79 (by decide)) (safe_cons (CurAt.safe hc72 _ (by decide)) (safe_cons (safe1 r126 (by decide)) safe0)))
 have hs:parseOf meiForm 0 c b=finish (Msg.mk c 0 0 0 0 0 0 0 0 0 0 0 [] [] (((((Cur.mk b false 0).bytesC 1).need ((((Cur.mk b false 0).byteV) == 13) || (((Cur.mk b false 0).byteV) == 14)) 8).need (decide ((((((Cur.mk b false 0).bytesC 1).need ((((Cur.mk b false 0).byteV) == 13) || (((Cur.mk b false 0).byteV) == 14)) 8).l.length:Nat) : Int)≤251)) 5).bytesR ((((((Cur.mk b false 0).bytesC 1).need ((((Cur.mk b false 0).byteV) == 13) || (((Cur.mk b false 0).byteV) == 14)) 8).need (decide ((((((Cur.mk b false 0).bytesC 1).need ((((Cur.mk b false 0).byteV) == 13) || (((Cur.mk b false 0).byteV) == 14)) 8).l.length:Nat) : Int)≤251)) 5).l.length:Nat) : Int)) [] ((Cur.mk b false 0).byteV) 0 0 0 0 []) (((((Cur.mk b false 0).bytesC 1).need ((((Cur.mk b false 0).byteV) == 13) || (((Cur.mk b false 0).byteV) == 14)) 8).need (decide ((((((Cur.mk b false 0).bytesC 1).need ((((Cur.mk b false 0).byteV) == 13) || (((Cur.mk b false 0).byteV) == 14)) 8).l.length:Nat) : Int)≤251)) 5).bytesC ((((((Cur.mk b false 0).bytesC 1).need ((((Cur.mk b false 0).byteV) == 13) || (((Cur.mk b false 0).byteV) == 14)) 8).need (decide ((((((Cur.mk b false 0).bytesC 1).need ((((Cur.mk b false 0).byteV) == 13) || (((Cur.mk b false 0).byteV) == 14)) 8).l.length:Nat) : Int)≤251)) 5).l.length:Nat) : Int)):=by
   unfold parseOf meiForm meiB meiD meiA
   (try simp only [q15,q55,q92,bs,if_true,if_false,decide_true,decide_false,eq_self,true_or,or_true,or_false,false_or,if_true,if_false,i00,i01,i10,i11,reduceIte])
   all_goals rfl
 rw [hs]
 exact finish_ok q92p ⟨_,_,_,_,_,rfl,RdG.nil ..,RdG.nil ..,r127,RdG.nil ..,RdG.nil ..,⟨(b8 (x:=c) (by omega)),(b8 (x:=0) (by omega)),(b16 (x:=0) (by omega)),(b16 (x:=0) (by omega)),(b16 (x:=0) (by omega)),(b16 (x:=0) (by omega)),(b16 (x:=0) (by omega)),(b16 (x:=0) (by omega)),(b16 (x:=0) (by omega)),(b16 (x:=0) (by omega)),(b16 (x:=0) (by omega)),(b16 (x:=0) (by omega)),(b8 (x:=(Cur.mk b false 0).byteV) (by omega)),(b8 (x:=0) (by omega)),(b8 (x:=0) (by omega)),(b8 (x:=0) (by omega)),(b8 (x:=0) (by omega))⟩⟩ U123
 have q55p:=ne_of_beqi q55
 refine sg<|Pl 1<|L0<|Oc<|m3 (byte_any hc47) fun w128 hc129 hu130 hr131=>Pl 1<|?_
 have r132:=ub1 hu130 (Ne.symm ne48) r49
 refine L0<|Ost r132 17 (mG c 0 0 0 0 0 0 0 0 0 0 0 nS nS nS nS ((Cur.mk b false 0).byteV) x45.byteV 0 0 0 nS) fun w133 B134 hu135=>ng<|Pl 2<|L0<|Olb B134 17<|Pl 2<|cu 4 [59] 63 (((decide (1≤x45.byteV)) && (decide (x45.byteV≤4)))) (fun K K137=>?_) ?_
 refine bl 59 ((decide (1≤x45.byteV))) (fun q136=>?_) (fun q136=>?_)
 have q136p:=of_decide_eq_true q136
 exact Pl 1<|L1<|Olb B134 17<|Pl 2<|ce K137 (decide (x45.byteV≤4)) (by rw [q136]; rfl)
 have q136p:=of_decide_eq_false q136
 exact Pl 4<|ce K137 false (by rw [q136]; rfl)
 have r138:=CurAt.upd hc129 hu135 (not_cons ne48 not0) (safe_cons (safe1 r132 (by decide)) safe0)
 refine L0<|Oc<|m2 (need_any (((decide (1≤x45.byteV)) && (decide (x45.byteV≤4)))) 6 r138) fun w139 hc140 hu141=>?_
 refine ab hc140 fun x142 ex143 hc144=>?_
 refine ng<|Pl 2<|nt<|c0<|go<|Pl 1<|L0<|Oc<|m3 (byte_any hc144) fun w145 hc146 hu147 hr148=>Pl 1<|?_
 have U149:=u1 hu141 hu147 im
 have r150:=ub1 U149 (Ne.symm ne48) B134
 refine L0<|Ost r150 20 (mG c 0 0 0 0 0 0 0 0 0 0 0 nS nS nS nS ((Cur.mk b false 0).byteV) x45.byteV 0 0 x142.byteV nS) fun w151 B152 hu153=>ng<|Pl 1<|?_
 have r154:=CurAt.upd hc146 hu153 (not_cons ne48 not0) (safe_cons (safe1 r150 (by decide)) safe0)
 refine L0<|Oc<|m2 (end_any r154) fun w155 hc156 hu157=>nt<|sq<|sg<|Pl 1<|L0<|Oc<|mq (err_any hc156)<|?_
 have hl158:=CurAt.len hc156
 refine Pl 1<|ng<|Pl 2<|nt<|?_
 have U159:=u1 U54 hu130 (ni hu14.size hg23)
 have U160:=u1 U159 hu135 (ni U51.size hg32)
 have U161:=u1 U160 hu141 (ni hu14.size hg23)
 have U162:=u1 U161 hu147 (ni hu14.size hg23)
 have U163:=u1 U162 hu153 (ni U51.size hg32)
 have U164:=u1 U163 hu157 (ni hu14.size hg23)
 refine cb (((((x142.bytesC 1).endC).e) != 0)) (fun q165=>?_) (fun q165=>?_)
 have q165p:=ne_of_bnei q165
 refine sg<|Pl 2<|?_
 have U166:=u1 hu25 hu28 (nr hg23)
 have U167:=ut0 U166 hu34
 have U168:=u1 U167 hu37 (ni U166.size hg32)
 have U169:=u1 U168 hu44 (nr hg23)
 have U170:=u1 U169 hu130 (nr hg23)
 have U171:=u1 U170 hu135 (ni U166.size hg32)
 have U172:=u1 U171 hu141 (nr hg23)
 have U173:=u1 U172 hu147 (nr hg23)
 have U174:=u1 U173 hu153 (ni U166.size hg32)
 have U175:=u1 U174 hu157 (nr hg23)
 have r176:=ub U175 B13
 refine L0<|Osw r176 mZ fun w177 B178 hu179=>Pl 1<|nt<|rt<|tr<|rct B178 (.int .i64 (((x142.bytesC 1).endC).e))<|?_
 subst ex143 ex46
 have U180:=u1 U164 hu179 (nr hg12)
 have hs:parseOf meiForm 0 c b=finish (Msg.mk c 0 0 0 0 0 0 0 0 0 0 0 [] [] [] [] ((Cur.mk b false 0).byteV) ((((Cur.mk b false 0).bytesC 1).need ((((Cur.mk b false 0).byteV) == 13) || (((Cur.mk b false 0).byteV) == 14)) 8).byteV) 0 0 ((((((Cur.mk b false 0).bytesC 1).need ((((Cur.mk b false 0).byteV) == 13) || (((Cur.mk b false 0).byteV) == 14)) 8).bytesC 1).need ((decide (1≤(((Cur.mk b false 0).bytesC 1).need ((((Cur.mk b false 0).byteV) == 13) || (((Cur.mk b false 0).byteV) == 14)) 8).byteV)) && (decide ((((Cur.mk b false 0).bytesC 1).need ((((Cur.mk b false 0).byteV) == 13) || (((Cur.mk b false 0).byteV) == 14)) 8).byteV≤4))) 6).byteV) []) ((((((Cur.mk b false 0).bytesC 1).need ((((Cur.mk b false 0).byteV) == 13) || (((Cur.mk b false 0).byteV) == 14)) 8).bytesC 1).need ((decide (1≤(((Cur.mk b false 0).bytesC 1).need ((((Cur.mk b false 0).byteV) == 13) || (((Cur.mk b false 0).byteV) == 14)) 8).byteV)) && (decide ((((Cur.mk b false 0).bytesC 1).need ((((Cur.mk b false 0).byteV) == 13) || (((Cur.mk b false 0).byteV) == 14)) 8).byteV≤4))) 6).bytesC 1):=by
   unfold parseOf meiForm meiB meiD meiA
   (try simp only [q15,q55,q165,bs,if_true,if_false,decide_true,decide_false,eq_self,true_or,or_true,or_false,false_or,if_true,if_false,i00,i01,i10,i11,reduceIte])
   all_goals rfl
 rw [hs]
 exact finish_bad q165p U180
 have q165p:=eq_of_bnei q165
 refine skn<|sg<|?_
 have r181:=ub1 hu157 (Ne.symm ne48) B152
 refine L0<|Olw r181<|?_
 have U182:=u1 hu25 hu28 (nr hg23)
 have U183:=ut0 U182 hu34
 have U184:=u1 U183 hu37 (ni U182.size hg32)
 have U185:=u1 U184 hu44 (nr hg23)
 have U186:=u1 U185 hu130 (nr hg23)
 have U187:=u1 U186 hu135 (ni U182.size hg32)
 have U188:=u1 U187 hu141 (nr hg23)
 have U189:=u1 U188 hu147 (nr hg23)
 have U190:=u1 U189 hu153 (ni U182.size hg32)
 have U191:=u1 U190 hu157 (nr hg23)
 have r192:=ub U191 B13
 refine L0<|Osw r192 (mG c 0 0 0 0 0 0 0 0 0 0 0 nS nS nS nS ((Cur.mk b false 0).byteV) x45.byteV 0 0 x142.byteV nS) fun w193 B194 hu195=>Pl 1<|nt<|rt<|rct B194 (.int .i64 0)<|?_
 subst ex143 ex46
 have U196:=u1 U164 hu195 (nr hg12)
 have hs:parseOf meiForm 0 c b=finish (Msg.mk c 0 0 0 0 0 0 0 0 0 0 0 [] [] [] [] ((Cur.mk b false 0).byteV) ((((Cur.mk b false 0).bytesC 1).need ((((Cur.mk b false 0).byteV) == 13) || (((Cur.mk b false 0).byteV) == 14)) 8).byteV) 0 0 ((((((Cur.mk b false 0).bytesC 1).need ((((Cur.mk b false 0).byteV) == 13) || (((Cur.mk b false 0).byteV) == 14)) 8).bytesC 1).need ((decide (1≤(((Cur.mk b false 0).bytesC 1).need ((((Cur.mk b false 0).byteV) == 13) || (((Cur.mk b false 0).byteV) == 14)) 8).byteV)) && (decide ((((Cur.mk b false 0).bytesC 1).need ((((Cur.mk b false 0).byteV) == 13) || (((Cur.mk b false 0).byteV) == 14)) 8).byteV≤4))) 6).byteV) []) ((((((Cur.mk b false 0).bytesC 1).need ((((Cur.mk b false 0).byteV) == 13) || (((Cur.mk b false 0).byteV) == 14)) 8).bytesC 1).need ((decide (1≤(((Cur.mk b false 0).bytesC 1).need ((((Cur.mk b false 0).byteV) == 13) || (((Cur.mk b false 0).byteV) == 14)) 8).byteV)) && (decide ((((Cur.mk b false 0).bytesC 1).need ((((Cur.mk b false 0).byteV) == 13) || (((Cur.mk b false 0).byteV) == 14)) 8).byteV≤4))) 6).bytesC 1):=by
   unfold parseOf meiForm meiB meiD meiA
   (try simp only [q15,q55,q165,bs,if_true,if_false,decide_true,decide_false,eq_self,true_or,or_true,or_false,false_or,if_true,if_false,i00,i01,i10,i11,reduceIte])
   all_goals rfl
 rw [hs]
 exact finish_ok q165p ⟨_,_,_,_,_,rfl,RdG.nil ..,RdG.nil ..,RdG.nil ..,RdG.nil ..,RdG.nil ..,⟨(b8 (x:=c) (by omega)),(b8 (x:=0) (by omega)),(b16 (x:=0) (by omega)),(b16 (x:=0) (by omega)),(b16 (x:=0) (by omega)),(b16 (x:=0) (by omega)),(b16 (x:=0) (by omega)),(b16 (x:=0) (by omega)),(b16 (x:=0) (by omega)),(b16 (x:=0) (by omega)),(b16 (x:=0) (by omega)),(b16 (x:=0) (by omega)),(b8 (x:=(Cur.mk b false 0).byteV) (by omega)),(b8 (x:=(((Cur.mk b false 0).bytesC 1).need ((((Cur.mk b false 0).byteV) == 13) || (((Cur.mk b false 0).byteV) == 14)) 8).byteV) (by omega)),(b8 (x:=0) (by omega)),(b8 (x:=0) (by omega)),(b8 (x:=(((((Cur.mk b false 0).bytesC 1).need ((((Cur.mk b false 0).byteV) == 13) || (((Cur.mk b false 0).byteV) == 14)) 8).bytesC 1).need ((decide (1≤(((Cur.mk b false 0).bytesC 1).need ((((Cur.mk b false 0).byteV) == 13) || (((Cur.mk b false 0).byteV) == 14)) 8).byteV)) && (decide ((((Cur.mk b false 0).bytesC 1).need ((((Cur.mk b false 0).byteV) == 13) || (((Cur.mk b false 0).byteV) == 14)) 8).byteV≤4))) 6).byteV) (by omega))⟩⟩ U196
set_option maxRecDepth 100000 in
set_option maxHeartbeats 4000000 in
theorem mei_parse_1 {m:Bool} {A:Option Addr} {cp:Nat} {b:List Int} {w:World} {c:Int} (hcode:B8 c) (hsl:RdB m w (.slice A b.length cp) b) (hb:b.length≤1048576) :
    Calls Tryz.prog 66 #[.int .i64 1,.int .u8 c,.slice A b.length cp] w (PMsg (parseOf meiForm 1 c b) w):=by
 obtain ⟨hcode1,hcode2⟩:=hcode
 have hln:(b.length:Int)≤1048576:=by omega
 refine en 81 Tryz.func66 rfl<|sg<|L0<|Oal mZ fun g10 w11 hg12 B13 hu14=>Pl 1<|nt<|sq<|bk<|sg<|Pl 7<|nt<|?_
 refine c0<|sg<|Pl 3<|nt<|cb ((c != 43)) (fun q15=>?_) (fun q15=>?_)
 have q15p:=ne_of_bnei q15
 refine sg<|Pl 1<|L0<|Osw B13 mZ fun w16 B17 hu18=>Pl 1<|nt<|rt<|br<|tr<|rct B17 (.int .i64 4)<|?_
 have U19:=u1 hu14 hu18 (nr hg12)
 have hs:parseOf meiForm 1 c b=(Msg.zero,4):=by
   unfold parseOf meiForm meiB meiD meiA
   (try simp only [q15,bs,if_true,if_false,decide_true,decide_false,eq_self,true_or,or_true,or_false,false_or,if_true,if_false,i00,i01,i10,i11,reduceIte])
   all_goals rfl
 rw [hs]
 exact bad_res U19
 have q15p:=eq_of_bnei q15
 refine sk<|bn<|tn<|sg<|Pl 1<|?_
 have r20:=RdB.old hsl hu14
 refine L0<|Oc<|e3 (new_any r20 (by omega)) fun g22 w21 hg23 hc24 hu25=>Pl 1<|ng<|Pl 2<|L0<|Oc<|m3 (byte_any hc24) fun w26 hc27 hu28 hr29=>Pl 1<|L0<|Oal mZ fun g30 w31 hg32 B33 hu34=>L0<|Osw B33 (mG c 0 0 0 0 0 0 0 0 0 0 0 nS nS nS nS ((Cur.mk b false 0).byteV) 0 0 0 0 nS) fun w35 B36 hu37=>nt<|sq<|?_
 refine go<|Pl 2<|L0<|Olb B36 16<|Pl 2<|cu 4 [33] 37 (((((Cur.mk b false 0).byteV) == 13) || (((Cur.mk b false 0).byteV) == 14))) (fun K K39=>?_) ?_
 refine bl 33 ((((Cur.mk b false 0).byteV) == 13)) (fun q38=>?_) (fun q38=>?_)
 have q38p:=eq_of_beqi q38
 exact Pl 4<|ce K39 true (by rw [q38]; rfl)
 have q38p:=ne_of_beqi q38
 exact Pl 1<|L1<|Olb B36 16<|Pl 2<|ce K39 (((Cur.mk b false 0).byteV) == 14) (by rw [q38]; rfl)
 have U40:=u1 hu34 hu37 (nr hg32)
 have r41:=CurAt.old hc27 U40
 refine L0<|Oc<|m2 (need_any (((((Cur.mk b false 0).byteV) == 13) || (((Cur.mk b false 0).byteV) == 14))) 8 r41) fun w42 hc43 hu44=>?_
 refine ab hc43 fun x45 ex46 hc47=>?_
 refine nt<|sq<|sg<|Pl 1<|?_
 have ne48:=nb (CurAt.lt hc24) hu28.size hg32
 have r49:=ub1 hu44 (Ne.symm ne48) B36
 refine L0<|Olb r49 16<|Pl 1<|nt<|?_
 have U50:=ut0 hu14 hu25
 have U51:=u1 U50 hu28 (ni hu14.size hg23)
 have U52:=ut0 U51 hu34
 have U53:=u1 U52 hu37 (ni U51.size hg32)
 have U54:=u1 U53 hu44 (ni hu14.size hg23)
 refine cb ((((Cur.mk b false 0).byteV) == 13)) (fun q55=>?_) (fun q55=>?_)
 have q55p:=eq_of_beqi q55
 refine sg<|Pl 2<|L0<|Oc<|mq (left_any hc47)<|?_
 have hl56:=CurAt.len hc47
 refine Pl 1<|L0<|Oc<|m2 (need_any ((decide (((x45.l.length:Nat) : Int)≤251))) 5 hc47) fun w57 hc58 hu59=>?_
 refine ab hc58 fun x60 ex61 hc62=>?_
 refine nt<|go<|Pl 2<|L0<|Oc<|mq (left_any hc62)<|?_
 have hl63:=CurAt.len hc62
 refine L0<|Oc<|sr3 (bytes_any (n:=((x60.l.length:Nat) : Int)) hc62) fun A73 cp74 w64 rd77 hl75 hm76 hc67 hu68=>?_
 have hlb69:=Nat.le_trans (Cur.bytesR_le x60 ((x60.l.length:Nat) : Int)) (CurAt.len hc62)
 refine ab hc67 fun x70 ex71 hc72=>?_
 refine Pl 1<|?_
 have U78:=u1 hu59 hu68 im
 have r79:=ub1 U78 (Ne.symm ne48) r49
 refine L0<|Ost r79 14 (mG c 0 0 0 0 0 0 0 0 0 0 0 nS nS (.slice A73 ((x60.bytesR ((x60.l.length:Nat) : Int)).length) cp74) nS ((Cur.mk b false 0).byteV) 0 0 0 0 nS) fun w80 B81 hu82=>ng<|Pl 1<|?_
 have r83:=CurAt.upd hc72 hu82 (not_cons ne48 not0) (safe_cons (safe1 r79 (by decide)) safe0)
 refine L0<|Oc<|m2 (end_any r83) fun w84 hc85 hu86=>nt<|sq<|sg<|Pl 1<|L0<|Oc<|mq (err_any hc85)<|?_
 have hl87:=CurAt.len hc85
 refine Pl 1<|ng<|Pl 2<|nt<|?_
 have U88:=u1 U54 hu59 (ni hu14.size hg23)
 have U89:=u1 U88 hu68 (ni hu14.size hg23)
 have U90:=u1 U89 hu82 (ni U51.size hg32)
 have U91:=u1 U90 hu86 (ni hu14.size hg23)
 refine cb ((x70.endC.e != 0)) (fun q92=>?_) (fun q92=>?_)
 have q92p:=ne_of_bnei q92
 refine sg<|Pl 2<|?_
 have U93:=u1 hu25 hu28 (nr hg23)
 have U94:=ut0 U93 hu34
 have U95:=u1 U94 hu37 (ni U93.size hg32)
 have U96:=u1 U95 hu44 (nr hg23)
 have U97:=u1 U96 hu59 (nr hg23)
 have U98:=u1 U97 hu68 (nr hg23)
 have U99:=u1 U98 hu82 (ni U93.size hg32)
 have U100:=u1 U99 hu86 (nr hg23)
 have r101:=ub U100 B13
 refine L0<|Osw r101 mZ fun w102 B103 hu104=>Pl 1<|nt<|rt<|tr<|rct B103 (.int .i64 x70.endC.e)<|?_
 subst ex71 ex61 ex46
 have U105:=u1 U91 hu104 (nr hg12)
 have U106:=u1 (Upd.mono (S':=[g30,g22]) hu82 (ac im all0)) hu86 im
 have U107:=u1 (Upd.mono (S':=[g30,g22,g10]) U106 (ac im (ac im all0))) hu104 im
 have r108:=ub U98 B13
 have r109:=RdB.upd' rd77 U107 (safe_cons (safe1 r79 (by decide)) (safe_cons (CurAt.safe hc72 _ (by decide)) (safe_cons (safe1 r108 (by decide)) safe0)))
 have hs:parseOf meiForm 1 c b=finish (Msg.mk c 0 0 0 0 0 0 0 0 0 0 0 [] [] (((((Cur.mk b false 0).bytesC 1).need ((((Cur.mk b false 0).byteV) == 13) || (((Cur.mk b false 0).byteV) == 14)) 8).need (decide ((((((Cur.mk b false 0).bytesC 1).need ((((Cur.mk b false 0).byteV) == 13) || (((Cur.mk b false 0).byteV) == 14)) 8).l.length:Nat) : Int)≤251)) 5).bytesR ((((((Cur.mk b false 0).bytesC 1).need ((((Cur.mk b false 0).byteV) == 13) || (((Cur.mk b false 0).byteV) == 14)) 8).need (decide ((((((Cur.mk b false 0).bytesC 1).need ((((Cur.mk b false 0).byteV) == 13) || (((Cur.mk b false 0).byteV) == 14)) 8).l.length:Nat) : Int)≤251)) 5).l.length:Nat) : Int)) [] ((Cur.mk b false 0).byteV) 0 0 0 0 []) (((((Cur.mk b false 0).bytesC 1).need ((((Cur.mk b false 0).byteV) == 13) || (((Cur.mk b false 0).byteV) == 14)) 8).need (decide ((((((Cur.mk b false 0).bytesC 1).need ((((Cur.mk b false 0).byteV) == 13) || (((Cur.mk b false 0).byteV) == 14)) 8).l.length:Nat) : Int)≤251)) 5).bytesC ((((((Cur.mk b false 0).bytesC 1).need ((((Cur.mk b false 0).byteV) == 13) || (((Cur.mk b false 0).byteV) == 14)) 8).need (decide ((((((Cur.mk b false 0).bytesC 1).need ((((Cur.mk b false 0).byteV) == 13) || (((Cur.mk b false 0).byteV) == 14)) 8).l.length:Nat) : Int)≤251)) 5).l.length:Nat) : Int)):=by
   unfold parseOf meiForm meiB meiD meiA
   (try simp only [q15,q55,q92,bs,if_true,if_false,decide_true,decide_false,eq_self,true_or,or_true,or_false,false_or,if_true,if_false,i00,i01,i10,i11,reduceIte])
   all_goals rfl
 rw [hs]
 exact finish_bad q92p U105
 have q92p:=eq_of_bnei q92
 refine skn<|sg<|?_
 have r110:=ub1 hu86 (Ne.symm ne48) B81
 refine L0<|Olw r110<|?_
 have U111:=u1 hu25 hu28 (nr hg23)
 have U112:=ut0 U111 hu34
 have U113:=u1 U112 hu37 (ni U111.size hg32)
 have U114:=u1 U113 hu44 (nr hg23)
 have U115:=u1 U114 hu59 (nr hg23)
 have U116:=u1 U115 hu68 (nr hg23)
 have U117:=u1 U116 hu82 (ni U111.size hg32)
 have U118:=u1 U117 hu86 (nr hg23)
 have r119:=ub U118 B13
 refine L0<|Osw r119 (mG c 0 0 0 0 0 0 0 0 0 0 0 nS nS (.slice A73 ((x60.bytesR ((x60.l.length:Nat) : Int)).length) cp74) nS ((Cur.mk b false 0).byteV) 0 0 0 0 nS) fun w120 B121 hu122=>Pl 1<|nt<|rt<|rct B121 (.int .i64 0)<|?_
 subst ex71 ex61 ex46
 have U123:=u1 U91 hu122 (nr hg12)
 have U124:=u1 (Upd.mono (S':=[g30,g22]) hu82 (ac im all0)) hu86 im
 have U125:=u1 (Upd.mono (S':=[g30,g22,g10]) U124 (ac im (ac im all0))) hu122 im
 have r126:=ub U116 B13
 have r127:=RdB.upd' rd77 U125 (safe_cons (safe1 r79 (by decide)) (safe_cons (CurAt.safe hc72 _ (by decide)) (safe_cons (safe1 r126 (by decide)) safe0)))
 have hs:parseOf meiForm 1 c b=finish (Msg.mk c 0 0 0 0 0 0 0 0 0 0 0 [] [] (((((Cur.mk b false 0).bytesC 1).need ((((Cur.mk b false 0).byteV) == 13) || (((Cur.mk b false 0).byteV) == 14)) 8).need (decide ((((((Cur.mk b false 0).bytesC 1).need ((((Cur.mk b false 0).byteV) == 13) || (((Cur.mk b false 0).byteV) == 14)) 8).l.length:Nat) : Int)≤251)) 5).bytesR ((((((Cur.mk b false 0).bytesC 1).need ((((Cur.mk b false 0).byteV) == 13) || (((Cur.mk b false 0).byteV) == 14)) 8).need (decide ((((((Cur.mk b false 0).bytesC 1).need ((((Cur.mk b false 0).byteV) == 13) || (((Cur.mk b false 0).byteV) == 14)) 8).l.length:Nat) : Int)≤251)) 5).l.length:Nat) : Int)) [] ((Cur.mk b false 0).byteV) 0 0 0 0 []) (((((Cur.mk b false 0).bytesC 1).need ((((Cur.mk b false 0).byteV) == 13) || (((Cur.mk b false 0).byteV) == 14)) 8).need (decide ((((((Cur.mk b false 0).bytesC 1).need ((((Cur.mk b false 0).byteV) == 13) || (((Cur.mk b false 0).byteV) == 14)) 8).l.length:Nat) : Int)≤251)) 5).bytesC ((((((Cur.mk b false 0).bytesC 1).need ((((Cur.mk b false 0).byteV) == 13) || (((Cur.mk b false 0).byteV) == 14)) 8).need (decide ((((((Cur.mk b false 0).bytesC 1).need ((((Cur.mk b false 0).byteV) == 13) || (((Cur.mk b false 0).byteV) == 14)) 8).l.length:Nat) : Int)≤251)) 5).l.length:Nat) : Int)):=by
   unfold parseOf meiForm meiB meiD meiA
   (try simp only [q15,q55,q92,bs,if_true,if_false,decide_true,decide_false,eq_self,true_or,or_true,or_false,false_or,if_true,if_false,i00,i01,i10,i11,reduceIte])
   all_goals rfl
 rw [hs]
 exact finish_ok q92p ⟨_,_,_,_,_,rfl,RdG.nil ..,RdG.nil ..,r127,RdG.nil ..,RdG.nil ..,⟨(b8 (x:=c) (by omega)),(b8 (x:=0) (by omega)),(b16 (x:=0) (by omega)),(b16 (x:=0) (by omega)),(b16 (x:=0) (by omega)),(b16 (x:=0) (by omega)),(b16 (x:=0) (by omega)),(b16 (x:=0) (by omega)),(b16 (x:=0) (by omega)),(b16 (x:=0) (by omega)),(b16 (x:=0) (by omega)),(b16 (x:=0) (by omega)),(b8 (x:=(Cur.mk b false 0).byteV) (by omega)),(b8 (x:=0) (by omega)),(b8 (x:=0) (by omega)),(b8 (x:=0) (by omega)),(b8 (x:=0) (by omega))⟩⟩ U123
 have q55p:=ne_of_beqi q55
 refine sg<|Pl 1<|L0<|Oc<|m3 (byte_any hc47) fun w128 hc129 hu130 hr131=>Pl 1<|?_
 have r132:=ub1 hu130 (Ne.symm ne48) r49
 refine L0<|Ost r132 17 (mG c 0 0 0 0 0 0 0 0 0 0 0 nS nS nS nS ((Cur.mk b false 0).byteV) x45.byteV 0 0 0 nS) fun w133 B134 hu135=>ng<|Pl 2<|L0<|Olb B134 17<|Pl 2<|cu 4 [59] 63 (((decide (1≤x45.byteV)) && (decide (x45.byteV≤4)))) (fun K K137=>?_) ?_
 refine bl 59 ((decide (1≤x45.byteV))) (fun q136=>?_) (fun q136=>?_)
 have q136p:=of_decide_eq_true q136
 exact Pl 1<|L1<|Olb B134 17<|Pl 2<|ce K137 (decide (x45.byteV≤4)) (by rw [q136]; rfl)
 have q136p:=of_decide_eq_false q136
 exact Pl 4<|ce K137 false (by rw [q136]; rfl)
 have r138:=CurAt.upd hc129 hu135 (not_cons ne48 not0) (safe_cons (safe1 r132 (by decide)) safe0)
 refine L0<|Oc<|m2 (need_any (((decide (1≤x45.byteV)) && (decide (x45.byteV≤4)))) 6 r138) fun w139 hc140 hu141=>?_
 refine ab hc140 fun x142 ex143 hc144=>?_
 refine ng<|Pl 2<|nt<|c1<|go<|Pl 1<|?_
 have r145:=ub1 hu141 (Ne.symm ne48) B134
 refine L0<|Oc<|m3 (meians_any (c:=c) (me:=(Cur.mk b false 0).byteV) (kd:=x45.byteV) ⟨hcode1,hcode2⟩ (b8 (by omega)) (b8 (by omega)) hc144 r145 ne48) fun w146 hc147 hx152 hu151=>?_
 obtain ⟨cs148,hm149,hM150⟩:=hx152
 refine ng<|Pl 1<|L0<|Oc<|m2 (end_any hc147) fun w153 hc154 hu155=>?_
 refine ab hc154 fun x156 ex157 hc158=>?_
 refine nt<|sq<|sg<|Pl 1<|L0<|Oc<|mq (err_any hc158)<|?_
 have hl159:=CurAt.len hc158
 refine Pl 1<|ng<|Pl 2<|nt<|?_
 have U160:=u1 U54 hu130 (ni hu14.size hg23)
 have U161:=u1 U160 hu135 (ni U51.size hg32)
 have U162:=u1 U161 hu141 (ni hu14.size hg23)
 have U163:=ut U162 hu151 (ac (ni hu14.size hg23) (ac (ni U51.size hg32) all0))
 have U164:=u1 U163 hu155 (ni hu14.size hg23)
 refine cb ((x156.e != 0)) (fun q165=>?_) (fun q165=>?_)
 have q165p:=ne_of_bnei q165
 refine sg<|Pl 2<|?_
 have U166:=u1 hu25 hu28 (nr hg23)
 have U167:=ut0 U166 hu34
 have U168:=u1 U167 hu37 (ni U166.size hg32)
 have U169:=u1 U168 hu44 (nr hg23)
 have U170:=u1 U169 hu130 (nr hg23)
 have U171:=u1 U170 hu135 (ni U166.size hg32)
 have U172:=u1 U171 hu141 (nr hg23)
 have U173:=ut U172 hu151 (ac (nr hg23) (ac (ni U166.size hg32) all0))
 have U174:=u1 U173 hu155 (nr hg23)
 have r175:=ub U174 B13
 refine L0<|Osw r175 mZ fun w176 B177 hu178=>Pl 1<|nt<|rt<|tr<|rct B177 (.int .i64 x156.e)<|?_
 subst ex157 ex143 ex46
 have U179:=u1 U164 hu178 (nr hg12)
 have hs:parseOf meiForm 1 c b=finish ({ Msg.zero with code:=c,mei:=(Cur.mk b false 0).byteV,kind:=(((Cur.mk b false 0).bytesC 1).need ((((Cur.mk b false 0).byteV) == 13) || (((Cur.mk b false 0).byteV) == 14)) 8).byteV,level:=(((((Cur.mk b false 0).bytesC 1).need ((((Cur.mk b false 0).byteV) == 13) || (((Cur.mk b false 0).byteV) == 14)) 8).bytesC 1).need ((decide (1≤(((Cur.mk b false 0).bytesC 1).need ((((Cur.mk b false 0).byteV) == 13) || (((Cur.mk b false 0).byteV) == 14)) 8).byteV)) && (decide ((((Cur.mk b false 0).bytesC 1).need ((((Cur.mk b false 0).byteV) == 13) || (((Cur.mk b false 0).byteV) == 14)) 8).byteV≤4))) 6).byteV,more:=(mei1 (((((Cur.mk b false 0).bytesC 1).need ((((Cur.mk b false 0).byteV) == 13) || (((Cur.mk b false 0).byteV) == 14)) 8).bytesC 1).need ((decide (1≤(((Cur.mk b false 0).bytesC 1).need ((((Cur.mk b false 0).byteV) == 13) || (((Cur.mk b false 0).byteV) == 14)) 8).byteV)) && (decide ((((Cur.mk b false 0).bytesC 1).need ((((Cur.mk b false 0).byteV) == 13) || (((Cur.mk b false 0).byteV) == 14)) 8).byteV≤4))) 6)).byteV,next:=(mei2 (((((Cur.mk b false 0).bytesC 1).need ((((Cur.mk b false 0).byteV) == 13) || (((Cur.mk b false 0).byteV) == 14)) 8).bytesC 1).need ((decide (1≤(((Cur.mk b false 0).bytesC 1).need ((((Cur.mk b false 0).byteV) == 13) || (((Cur.mk b false 0).byteV) == 14)) 8).byteV)) && (decide ((((Cur.mk b false 0).bytesC 1).need ((((Cur.mk b false 0).byteV) == 13) || (((Cur.mk b false 0).byteV) == 14)) 8).byteV≤4))) 6)).byteV,objects:=(meiObjs (((Cur.mk b false 0).bytesC 1).need ((((Cur.mk b false 0).byteV) == 13) || (((Cur.mk b false 0).byteV) == 14)) 8).byteV (((((Cur.mk b false 0).bytesC 1).need ((((Cur.mk b false 0).byteV) == 13) || (((Cur.mk b false 0).byteV) == 14)) 8).bytesC 1).need ((decide (1≤(((Cur.mk b false 0).bytesC 1).need ((((Cur.mk b false 0).byteV) == 13) || (((Cur.mk b false 0).byteV) == 14)) 8).byteV)) && (decide ((((Cur.mk b false 0).bytesC 1).need ((((Cur.mk b false 0).byteV) == 13) || (((Cur.mk b false 0).byteV) == 14)) 8).byteV≤4))) 6)).2 }) ((meiObjs (((Cur.mk b false 0).bytesC 1).need ((((Cur.mk b false 0).byteV) == 13) || (((Cur.mk b false 0).byteV) == 14)) 8).byteV (((((Cur.mk b false 0).bytesC 1).need ((((Cur.mk b false 0).byteV) == 13) || (((Cur.mk b false 0).byteV) == 14)) 8).bytesC 1).need ((decide (1≤(((Cur.mk b false 0).bytesC 1).need ((((Cur.mk b false 0).byteV) == 13) || (((Cur.mk b false 0).byteV) == 14)) 8).byteV)) && (decide ((((Cur.mk b false 0).bytesC 1).need ((((Cur.mk b false 0).byteV) == 13) || (((Cur.mk b false 0).byteV) == 14)) 8).byteV≤4))) 6)).1):=by
   unfold parseOf meiForm meiB meiD meiA
   (try simp only [q15,q55,q165,bs,if_true,if_false,decide_true,decide_false,eq_self,true_or,or_true,or_false,false_or,if_true,if_false,i00,i01,i10,i11,reduceIte])
   all_goals rfl
 rw [hs]
 exact finish_bad q165p U179
 have q165p:=eq_of_bnei q165
 refine skn<|sg<|?_
 have r180:=ub1 hu155 (Ne.symm ne48) hm149.1
 refine L0<|Olw (hz:=(by rw [hm149.2]; exact msg_size)) r180<|?_
 have U181:=u1 hu25 hu28 (nr hg23)
 have U182:=ut0 U181 hu34
 have U183:=u1 U182 hu37 (ni U181.size hg32)
 have U184:=u1 U183 hu44 (nr hg23)
 have U185:=u1 U184 hu130 (nr hg23)
 have U186:=u1 U185 hu135 (ni U181.size hg32)
 have U187:=u1 U186 hu141 (nr hg23)
 have U188:=ut U187 hu151 (ac (nr hg23) (ac (ni U181.size hg32) all0))
 have U189:=u1 U188 hu155 (nr hg23)
 have r190:=ub U189 B13
 refine L0<|Osw (hz:=(by rw [hm149.2]; exact msg_size)) (hv:=hM150.size) (h1:=hM150.one) r190 (cs148) fun w191 B192 hu193=>Pl 1<|nt<|rt<|rctx 22 hm149.2 B192 (.int .i64 0)<|?_
 subst ex157 ex143 ex46
 have U194:=u1 U164 hu193 (nr hg12)
 have hs:parseOf meiForm 1 c b=finish ({ Msg.zero with code:=c,mei:=(Cur.mk b false 0).byteV,kind:=(((Cur.mk b false 0).bytesC 1).need ((((Cur.mk b false 0).byteV) == 13) || (((Cur.mk b false 0).byteV) == 14)) 8).byteV,level:=(((((Cur.mk b false 0).bytesC 1).need ((((Cur.mk b false 0).byteV) == 13) || (((Cur.mk b false 0).byteV) == 14)) 8).bytesC 1).need ((decide (1≤(((Cur.mk b false 0).bytesC 1).need ((((Cur.mk b false 0).byteV) == 13) || (((Cur.mk b false 0).byteV) == 14)) 8).byteV)) && (decide ((((Cur.mk b false 0).bytesC 1).need ((((Cur.mk b false 0).byteV) == 13) || (((Cur.mk b false 0).byteV) == 14)) 8).byteV≤4))) 6).byteV,more:=(mei1 (((((Cur.mk b false 0).bytesC 1).need ((((Cur.mk b false 0).byteV) == 13) || (((Cur.mk b false 0).byteV) == 14)) 8).bytesC 1).need ((decide (1≤(((Cur.mk b false 0).bytesC 1).need ((((Cur.mk b false 0).byteV) == 13) || (((Cur.mk b false 0).byteV) == 14)) 8).byteV)) && (decide ((((Cur.mk b false 0).bytesC 1).need ((((Cur.mk b false 0).byteV) == 13) || (((Cur.mk b false 0).byteV) == 14)) 8).byteV≤4))) 6)).byteV,next:=(mei2 (((((Cur.mk b false 0).bytesC 1).need ((((Cur.mk b false 0).byteV) == 13) || (((Cur.mk b false 0).byteV) == 14)) 8).bytesC 1).need ((decide (1≤(((Cur.mk b false 0).bytesC 1).need ((((Cur.mk b false 0).byteV) == 13) || (((Cur.mk b false 0).byteV) == 14)) 8).byteV)) && (decide ((((Cur.mk b false 0).bytesC 1).need ((((Cur.mk b false 0).byteV) == 13) || (((Cur.mk b false 0).byteV) == 14)) 8).byteV≤4))) 6)).byteV,objects:=(meiObjs (((Cur.mk b false 0).bytesC 1).need ((((Cur.mk b false 0).byteV) == 13) || (((Cur.mk b false 0).byteV) == 14)) 8).byteV (((((Cur.mk b false 0).bytesC 1).need ((((Cur.mk b false 0).byteV) == 13) || (((Cur.mk b false 0).byteV) == 14)) 8).bytesC 1).need ((decide (1≤(((Cur.mk b false 0).bytesC 1).need ((((Cur.mk b false 0).byteV) == 13) || (((Cur.mk b false 0).byteV) == 14)) 8).byteV)) && (decide ((((Cur.mk b false 0).bytesC 1).need ((((Cur.mk b false 0).byteV) == 13) || (((Cur.mk b false 0).byteV) == 14)) 8).byteV≤4))) 6)).2 }) ((meiObjs (((Cur.mk b false 0).bytesC 1).need ((((Cur.mk b false 0).byteV) == 13) || (((Cur.mk b false 0).byteV) == 14)) 8).byteV (((((Cur.mk b false 0).bytesC 1).need ((((Cur.mk b false 0).byteV) == 13) || (((Cur.mk b false 0).byteV) == 14)) 8).bytesC 1).need ((decide (1≤(((Cur.mk b false 0).bytesC 1).need ((((Cur.mk b false 0).byteV) == 13) || (((Cur.mk b false 0).byteV) == 14)) 8).byteV)) && (decide ((((Cur.mk b false 0).bytesC 1).need ((((Cur.mk b false 0).byteV) == 13) || (((Cur.mk b false 0).byteV) == 14)) 8).byteV≤4))) 6)).1):=by
   unfold parseOf meiForm meiB meiD meiA
   (try simp only [q15,q55,q165,bs,if_true,if_false,decide_true,decide_false,eq_self,true_or,or_true,or_false,false_or,if_true,if_false,i00,i01,i10,i11,reduceIte])
   all_goals rfl
 rw [hs]
 have U195:=u1 (Upd.mono (S':=[g22,g10]) hu155 (ac im all0)) hu193 im
 have r196:=ub U188 B13
 have r197:=MsgRd.upd hM150 U195 (safe_cons (CurAt.safe hc147 _ (by decide)) (safe_cons (safe1 r196 (by decide)) safe0))
 exact finish_ok q165p r197 U194
set_option maxRecDepth 100000 in
set_option maxHeartbeats 4000000 in
theorem mei_parse_x {m:Bool} {A:Option Addr} {cp:Nat} {b:List Int} {w:World} {dir c:Int} (hcode:B8 c) (hsl:RdB m w (.slice A b.length cp) b) (hb:b.length≤1048576) (hd:¬ (dir=0∨dir=1)) :
    Calls Tryz.prog 66 #[.int .i64 dir,.int .u8 c,.slice A b.length cp] w (PMsg (parseOf meiForm dir c b) w):=by
 obtain ⟨hcode1,hcode2⟩:=hcode
 have hln:(b.length:Int)≤1048576:=by omega
 have e0:(dir != 0)=true:=by simp; omega
 have e1:(dir != 1)=true:=by simp; omega
 refine en 81 Tryz.func66 rfl<|sg<|L0<|Oal mZ fun g10 w11 hg12 B13 hu14=>Pl 1<|nt<|sq<|bk<|sg<|Pl 3<|sy 14 e0<|Pl 4<|nl<|?_
 refine tn<|ct e1<|sg<|Pl 1<|L0<|Osw B13 mZ fun w15 B16 hu17=>Pl 1<|nt<|rt<|br<|tr<|rct B16 (.int .i64 1)<|?_
 have U18:=u1 hu14 hu17 (nr hg12)
 have hs:parseOf meiForm dir c b=(Msg.zero,1):=by
   unfold parseOf meiForm meiB meiD meiA
   (try simp only [e0,e1,bs,if_true,if_false,decide_true,decide_false,eq_self,true_or,or_true,or_false,false_or,if_true,if_false,i00,i01,i10,i11,reduceIte,hd])
   all_goals rfl
 rw [hs]
 exact bad_res U18
theorem mei_parse {m:Bool} {v:Value} {b:List Int} {w:World} {dir c:Int} (hc:B8 c) (h:RdB m w v b) (hb:b.length≤1048576) :
    Calls Tryz.prog 66 #[.int .i64 dir,.int .u8 c,v] w (PMsg (parseOf meiForm dir c b) w):=by
  obtain ⟨A,cp,rfl,_,_⟩:=h.shape
  by_cases h0:dir=0
  · subst h0; exact mei_parse_0 hc h hb
  by_cases h1:dir=1
  · subst h1; exact mei_parse_1 hc h hb
  exact mei_parse_x hc h hb (by omega)
open Go.RowKit
def hd1 (C:Cur) : Cur:=(C.bytesC 1).need (C.byteV == 6) 9
def hd2 (C:Cur) : Cur:=((hd1 C).wordsC 1).need ((hd1 C).wordV != 0) 6
def hd3 (C:Cur) : Cur:=((hd2 C).wordsC 1).need (decide ((hd2 C).wordV≤9999)) 7
def headC (C:Cur) : Cur:=((hd3 C).wordsC 1).need ((hd3 C).wordV != 0) 5
def headM (C:Cur) : Rec:=⟨(hd1 C).wordV,(hd2 C).wordV,(hd3 C).wordV,[]⟩
def askedS (s:Int) (C:Cur) : Int:=s + (2 + 2 * (hd3 C).wordV)
def askedC (s:Int) (C:Cur) : Cur:=(headC C).need (decide (askedS s C≤245)) 5
def told1 (C:Cur) : Cur:=(C.bytesC 1).need ((C.byteV % 2 == 1 && decide (3≤C.byteV)) && decide (C.byteV≤((C.bytesC 1).l.length:Int))) 5
def told2 (C:Cur) : Cur:=((told1 C).bytesC 1).need ((told1 C).byteV == 6) 9
def toldC (C:Cur) : Cur:=(told2 C).wordsC (Int.tdiv (C.byteV - 1) 2)
def toldM (C:Cur) : Rec:=⟨0,0,0,(told2 C).wordsR (Int.tdiv (C.byteV - 1) 2)⟩
def wrt1 (C:Cur) : Cur:=(headC C).need (decide (2 * (hd3 C).wordV≤((headC C).l.length:Int))) 5
def wrtC (C:Cur) : Cur:=(wrt1 C).wordsC (hd3 C).wordV
def wrtM (C:Cur) : Rec:=⟨(hd1 C).wordV,(hd2 C).wordV,(hd3 C).wordV,(wrt1 C).wordsR (hd3 C).wordV⟩
def PRec (g:Nat) (C':Cur) (r:Rec) (w:World) (e:Ending) (w':World) : Prop:=∃ A c,e = .returned (.agg #[.int .u16 r.file,.int .u16 r.record,.int .u16 r.count,.slice A r.words.length c])∧RdW true w' (.slice A r.words.length c) r.words∧B16 r.file∧B16 r.record∧B16 r.count∧CurAt w' g C'∧Upd [g] w w'
set_option maxRecDepth 100000 in
set_option maxHeartbeats 4000000 in
theorem head_any {g:Nat} {C:Cur} {w:World} (hC:CurAt w g C) : Calls Tryz.prog 125 #[.pointer (some ⟨g,0,none⟩)] w (PRec g (headC C) (headM C) w):=by
 have hlen:=hC.len
 refine en 34 Tryz.func125 rfl<|sg<|L0<|Oal #[.int .u16 0,.int .u16 0,.int .u16 0,.slice none 0 0] fun g10 w11 hg12 B13 hu14=>ng<|Pl 2<|?_
 have r15:=CurAt.old hC hu14
 refine L0<|Oc<|m3 (byte_any r15) fun w16 hc17 hu18 hr19=>Pl 1<|L0<|Oc<|m2 (need_any ((C.byteV == 6)) 9 hc17) fun w20 hc21 hu22=>?_
 refine ab hc21 fun x23 ex24 hc25=>?_
 refine ng<|L0<|Oal #[.int .u16 0,.int .u16 0,.int .u16 0,.slice none 0 0] fun g26 w27 hg28 B29 hu30=>ng<|Pl 1<|?_
 have r31:=CurAt.old hc25 hu30
 refine L0<|Oc<|m3 (word_any r31) fun w32 hc33 hu34 hr35=>Pl 1<|?_
 have ne36:=nb (CurAt.lt hC) (le (le hu14.size hu18.size) hu22.size) hg28
 have r37:=ub1 hu34 (Ne.symm ne36) B29
 refine L0<|Ost r37 0 #[.int .u16 x23.wordV,.int .u16 0,.int .u16 0,.slice none 0 0] fun w38 B39 hu40=>ng<|Pl 2<|L0<|Olb B39 0<|Pl 1<|?_
 have r41:=CurAt.upd hc33 hu40 (not_cons ne36 not0) (safe_cons (safe1 r37 (by decide)) safe0)
 refine L0<|Oc<|m2 (need_any ((x23.wordV != 0)) 6 r41) fun w42 hc43 hu44=>?_
 refine ab hc43 fun x45 ex46 hc47=>?_
 refine ng<|Pl 1<|L0<|Oc<|m3 (word_any hc47) fun w48 hc49 hu50 hr51=>Pl 1<|?_
 have U52:=u1 hu44 hu50 im
 have r53:=ub1 U52 (Ne.symm ne36) B39
 refine L0<|Ost r53 1 #[.int .u16 x23.wordV,.int .u16 x45.wordV,.int .u16 0,.slice none 0 0] fun w54 B55 hu56=>ng<|Pl 2<|L0<|Olb B55 1<|Pl 1<|?_
 have r57:=CurAt.upd hc49 hu56 (not_cons ne36 not0) (safe_cons (safe1 r53 (by decide)) safe0)
 refine L0<|Oc<|m2 (need_any ((decide (x45.wordV≤9999))) 7 r57) fun w58 hc59 hu60=>?_
 refine ab hc59 fun x61 ex62 hc63=>?_
 refine ng<|Pl 1<|L0<|Oc<|m3 (word_any hc63) fun w64 hc65 hu66 hr67=>Pl 1<|?_
 have U68:=u1 hu60 hu66 im
 have r69:=ub1 U68 (Ne.symm ne36) B55
 refine L0<|Ost r69 2 #[.int .u16 x23.wordV,.int .u16 x45.wordV,.int .u16 x61.wordV,.slice none 0 0] fun w70 B71 hu72=>ng<|Pl 2<|L0<|Olb B71 2<|Pl 1<|?_
 have r73:=CurAt.upd hc65 hu72 (not_cons ne36 not0) (safe_cons (safe1 r69 (by decide)) safe0)
 refine L0<|Oc<|m2 (need_any ((x61.wordV != 0)) 5 r73) fun w74 hc75 hu76=>?_
 refine ab hc75 fun x77 ex78 hc79=>?_
 refine ng<|?_
 have r80:=ub1 hu76 (Ne.symm ne36) B71
 refine L0<|Olw r80<|?_
 have U81:=u1 hu18 hu22 im
 have U82:=ut0 U81 hu30
 have U83:=u1 U82 hu34 im
 have U84:=u1 U83 hu40 (ni U81.size hg28)
 have U85:=u1 U84 hu44 im
 have U86:=u1 U85 hu50 im
 have U87:=u1 U86 hu56 (ni U81.size hg28)
 have U88:=u1 U87 hu60 im
 have U89:=u1 U88 hu66 im
 have U90:=u1 U89 hu72 (ni U81.size hg28)
 have U91:=u1 U90 hu76 im
 have ne92:=nb (CurAt.lt hC) lr hg12
 have r93:=ub1 U91 (Ne.symm ne92) B13
 refine L0<|Osw r93 #[.int .u16 x23.wordV,.int .u16 x45.wordV,.int .u16 x61.wordV,.slice none 0 0] fun w94 B95 hu96=>nt<|rt<|rc1 B95<|?_
 subst ex78 ex62 ex46 ex24
 have r97:=CurAt.upd hc79 hu96 (not_cons ne92 not0) (safe_cons (safe1 r93 (by decide)) safe0)
 have U98:=u1 (Upd.mono (S':=[g]) hu14 all0) hu18 im
 have U99:=u1 U98 hu22 im
 have U100:=ut0 U99 hu30
 have U101:=u1 U100 hu34 im
 have U102:=u1 U101 hu40 (ni U99.size hg28)
 have U103:=u1 U102 hu44 im
 have U104:=u1 U103 hu50 im
 have U105:=u1 U104 hu56 (ni U99.size hg28)
 have U106:=u1 U105 hu60 im
 have U107:=u1 U106 hu66 im
 have U108:=u1 U107 hu72 (ni U99.size hg28)
 have U109:=u1 U108 hu76 im
 have U110:=u1 U109 hu96 (nr hg12)
 exact ⟨_,_,rfl,RdG.nil ..,b16 (x:=((C.bytesC 1).need (C.byteV == 6) 9).wordV) (by omega),b16 (x:=((((C.bytesC 1).need (C.byteV == 6) 9).wordsC 1).need (((C.bytesC 1).need (C.byteV == 6) 9).wordV != 0) 6).wordV) (by omega),b16 (x:=((((((C.bytesC 1).need (C.byteV == 6) 9).wordsC 1).need (((C.bytesC 1).need (C.byteV == 6) 9).wordV != 0) 6).wordsC 1).need (decide (((((C.bytesC 1).need (C.byteV == 6) 9).wordsC 1).need (((C.bytesC 1).need (C.byteV == 6) 9).wordV != 0) 6).wordV≤9999)) 7).wordV) (by omega),r97,U110⟩
set_option maxRecDepth 100000 in
set_option maxHeartbeats 4000000 in
theorem ftold_any {g:Nat} {C:Cur} {w:World} (hC:CurAt w g C) : Calls Tryz.prog 128 #[.pointer (some ⟨g,0,none⟩)] w (PRec g (toldC C) (toldM C) w):=by
 have hlen:=hC.len
 refine en 33 Tryz.func128 rfl<|sg<|L0<|Oal #[.int .u16 0,.int .u16 0,.int .u16 0,.slice none 0 0] fun g10 w11 hg12 B13 hu14=>ng<|Pl 1<|?_
 have r15:=CurAt.old hC hu14
 refine L0<|Oc<|m3 (byte_any r15) fun w16 hc17 hu18 hr19=>L0<|Oi C.byteV<|Pl 1<|ng<|Pl 2<|L0<|Oe (.int .i64 (Int.tmod C.byteV 2)) (.int .i64 (C.byteV % 2)) (congrArg (Value.int .i64) (Int.tmod_eq_emod_of_nonneg (by omega)))<|Pl 2<|cu 3 [11] 14 ((((C.byteV % 2) == 1) && (decide (3≤C.byteV)))) (fun K K21=>?_) ?_
 refine bl 11 (((C.byteV % 2) == 1)) (fun q20=>?_) (fun q20=>?_)
 have q20p:=eq_of_beqi q20
 exact Pl 3<|ce K21 (decide (3≤C.byteV)) (by rw [q20]; rfl)
 have q20p:=ne_of_beqi q20
 exact Pl 3<|ce K21 false (by rw [q20]; rfl)
 refine Pl 1<|cu 5 [15] 20 (((((C.byteV % 2) == 1) && (decide (3≤C.byteV))) && (decide (C.byteV≤(((C.bytesC 1).l.length:Nat) : Int))))) (fun K K23=>?_) ?_
 refine bl 15 ((((C.byteV % 2) == 1) && (decide (3≤C.byteV)))) (fun q22=>?_) (fun q22=>?_)
 have q22a:=(and_t q22).1
 have q22b:=(and_t q22).2
 have q22ap:=eq_of_beqi q22a
 have q22bp:=of_decide_eq_true q22b
 refine Pl 2<|L1<|Oc<|mq (left_any hc17)<|?_
 have hl24:=CurAt.len hc17
 exact Pl 2<|ce K23 (decide (C.byteV≤(((C.bytesC 1).l.length:Nat) : Int))) (by rw [q22]; rfl)
 exact Pl 5<|ce K23 false (by rw [q22]; rfl)
 refine L0<|Oc<|m2 (need_any (((((C.byteV % 2) == 1) && (decide (3≤C.byteV))) && (decide (C.byteV≤(((C.bytesC 1).l.length:Nat) : Int))))) 5 hc17) fun w25 hc26 hu27=>?_
 refine ab hc26 fun x28 ex29 hc30=>?_
 refine ng<|Pl 2<|L0<|Oc<|m3 (byte_any hc30) fun w31 hc32 hu33 hr34=>Pl 1<|L0<|Oc<|m2 (need_any ((x28.byteV == 6)) 9 hc32) fun w35 hc36 hu37=>?_
 refine ab hc36 fun x38 ex39 hc40=>?_
 refine ng<|Pl 2<|L0<|Oi (C.byteV - 1)<|L0<|Oe (.int .i64 (IntKind.i64.wrap (Int.tdiv (C.byteV - 1) 2))) (.int .i64 (Int.tdiv (C.byteV - 1) 2)) (congrArg (Value.int .i64) (i64_tdiv (by omega) (by omega)))<|L0<|Oc<|so3 (words_any (n:=(Int.tdiv (C.byteV - 1) 2)) hc40) fun A51 cp52 w41 rd55 hl53 hm54 hc44 hu45=>?_
 refine ab hc44 fun x48 ex49 hc50=>?_
 refine Pl 1<|?_
 have U56:=u1 hu18 hu27 im
 have U57:=u1 U56 hu33 im
 have U58:=u1 U57 hu37 im
 have U59:=u1 U58 hu45 im
 have ne60:=nb (CurAt.lt hC) lr hg12
 have r61:=ub1 U59 (Ne.symm ne60) B13
 refine L0<|Osw r61 #[.int .u16 0,.int .u16 0,.int .u16 0,.slice A51 ((x38.wordsR (Int.tdiv (C.byteV - 1) 2)).length) cp52] fun w62 B63 hu64=>nt<|rt<|rc1 B63<|?_
 subst ex49 ex39 ex29
 have r65:=own_stay rd55 hu64 (fun x hx=>(not_cons (fun e=>(not_old (blk_lt B13) U58.size rd55) (e ▸ hx)) not0)) (fun _ _ h=>h)
 have r66:=CurAt.upd hc50 hu64 (not_cons ne60 not0) (safe_cons (safe1 r61 (by decide)) safe0)
 have U67:=u1 (Upd.mono (S':=[g]) hu14 all0) hu18 im
 have U68:=u1 U67 hu27 im
 have U69:=u1 U68 hu33 im
 have U70:=u1 U69 hu37 im
 have U71:=u1 U70 hu45 im
 have U72:=u1 U71 hu64 (nr hg12)
 exact ⟨_,_,rfl,(r65).rd,b16 (x:=0) (by omega),b16 (x:=0) (by omega),b16 (x:=0) (by omega),r66,U72⟩
set_option maxRecDepth 100000 in
set_option maxHeartbeats 4000000 in
theorem wrt_any {g:Nat} {C:Cur} {w:World} (hC:CurAt w g C) : Calls Tryz.prog 130 #[.pointer (some ⟨g,0,none⟩)] w (PRec g (wrtC C) (wrtM C) w):=by
 have hlen:=hC.len
 refine en 22 Tryz.func130 rfl<|sg<|L0<|Oal #[.int .u16 0,.int .u16 0,.int .u16 0,.slice none 0 0] fun g10 w11 hg12 B13 hu14=>ng<|Pl 1<|?_
 have r15:=CurAt.old hC hu14
 refine L0<|Oc<|ee6 (head_any r15) fun A17 cp18 w16 rd19 hb20 hb21 hb22 hc23 hu24=>?_
 obtain ⟨hb20a,hb20b⟩:=hb20
 obtain ⟨hb21a,hb21b⟩:=hb21
 obtain ⟨hb22a,hb22b⟩:=hb22
 refine L0<|Oal #[.int .u16 0,.int .u16 0,.int .u16 0,.slice none 0 0] fun g25 w26 hg27 B28 hu29=>L0<|Osw B28 #[.int .u16 ((headM C).file),.int .u16 ((headM C).record),.int .u16 ((headM C).count),.slice A17 ((headM C).words.length) cp18] fun w30 B31 hu32=>nt<|sq<|Rg 9 (fun w'=>w'.cell? ⟨g25,2,none⟩=some (.int .u16 ((headM C).count))) fun w42 hu43=>?_
 have r45:=ub hu43 B31
 refine hld (blk_at r45 rfl) fun hS44=>Rt 0 hS44<|Rt 1 hS44<|Rl 2 hS44 (fun _ hs=>hs)<|Rr 3 hS44 (.int .i64 ((headM C).count)) (fun _ _=>run_eqo (.int .i64 (IntKind.i64.wrap ((headM C).count))) (by kernel_rfl) (congrArg (Value.int .i64) (i64_in (by omega))))<|Rr 4 hS44 (.int .i64 (2 * ((headM C).count))) (fun _ _=>run_eqo (.int .i64 (IntKind.i64.wrap (2 * ((headM C).count)))) (by kernel_rfl) (congrArg (Value.int .i64) (IntWalk.i64_in _ (by omega))))<|Rt 5 hS44<|?_
 have U46:=u1 hu29 hu32 (nr hg27)
 have U47:=ut0 U46 hu43
 have r48:=CurAt.old hc23 U47
 refine R0 6 rfl<|Oc<|mq (left_any r48)<|?_
 have hl49:=CurAt.len r48
 refine hld (blk_at r45 rfl) fun hS50=>Rt 7 hS50<|R0 8 rfl<|Oc<|m2 (need_any ((decide ((2 * ((headM C).count))≤(((headC C).l.length:Nat) : Int)))) 5 r48) fun w51 hc52 hu53=>?_
 refine ab hc52 fun x54 ex55 hc56=>?_
 have ne58:=nb (CurAt.lt hC) (le hu14.size hu24.size) hg27
 have r59:=ub1 hu53 (Ne.symm ne58) r45
 refine hld (blk_at r59 rfl) fun hS57=>re<|tn<|sg<|Pl 2<|L0<|Olb r59 2<|L0<|Oi ((headM C).count)<|L0<|Oc<|so3 (words_any (n:=(headM C).count) hc56) fun A67 cp68 w60 rd71 hl69 hm70 hc63 hu64=>Pl 1<|?_
 have r72:=ub1 hu64 (Ne.symm ne58) r59
 refine L0<|Ost r72 3 #[.int .u16 ((headM C).file),.int .u16 ((headM C).record),.int .u16 ((headM C).count),.slice A67 ((x54.wordsR ((headM C).count)).length) cp68] fun w73 B74 hu75=>ng<|L0<|Olw B74<|?_
 have U76:=ut0 hu24 hu29
 have U77:=u1 U76 hu32 (ni hu24.size hg27)
 have U78:=ut0 U77 hu43
 have U79:=u1 U78 hu53 im
 have U80:=u1 U79 hu64 im
 have U81:=u1 U80 hu75 (ni hu24.size hg27)
 have ne82:=nb (CurAt.lt hC) lr hg12
 have r83:=ub1 U81 (Ne.symm ne82) B13
 refine L0<|Osw r83 #[.int .u16 ((headM C).file),.int .u16 ((headM C).record),.int .u16 ((headM C).count),.slice A67 ((x54.wordsR ((headM C).count)).length) cp68] fun w84 B85 hu86=>nt<|rt<|rc1 B85<|?_
 subst ex55
 have U87:=u1 (Upd.mono (S':=[g25,g10]) hu75 (ac im all0)) hu86 im
 have r88:=own_stay rd71 U87 (fun x hx=>(not_cons (fun e=>(not_old (blk_lt B28) (le (le hu32.size hu43.size) hu53.size) rd71) (e ▸ hx)) (not_cons (fun e=>(not_old (blk_lt B13) U79.size rd71) (e ▸ hx)) not0))) (fun _ _ h=>h)
 have r89:=ub1 U80 (Ne.symm ne82) B13
 have r90:=CurAt.upd hc63 U87 (not_cons ne58 (not_cons ne82 not0)) (safe_cons (safe1 r72 (by decide)) (safe_cons (safe1 r89 (by decide)) safe0))
 have U91:=u1 (Upd.mono (S':=[g]) hu14 all0) hu24 im
 have U92:=ut0 U91 hu29
 have U93:=u1 U92 hu32 (ni U91.size hg27)
 have U94:=ut0 U93 hu43
 have U95:=u1 U94 hu53 im
 have U96:=u1 U95 hu64 im
 have U97:=u1 U96 hu75 (ni U91.size hg27)
 have U98:=u1 U97 hu86 (nr hg12)
 exact ⟨_,_,rfl,(r88).rd,b16 (x:=(headM C).file) (by omega),b16 (x:=(headM C).record) (by omega),b16 (x:=(headM C).count) (by omega),r90,U98⟩
set_option maxRecDepth 100000 in
set_option maxHeartbeats 4000000 in
theorem frule2_any {n:Int} {w:World} (hn:0≤n∧n < 256) : Calls Tryz.prog 126 #[.int .i64 n] w (PVal (.bool ((decide (7≤n) && decide (n≤245)) && n % 7 == 0)) w):=by
 refine en 14 Tryz.func126 rfl<|sg<|Pl 1<|ng<|Pl 3<|cu 3 [5] 8 (((decide (7≤n)) && (decide (n≤245)))) (fun K K11=>?_) ?_
 refine bl 5 ((decide (7≤n))) (fun q10=>?_) (fun q10=>?_)
 have q10p:=of_decide_eq_true q10
 exact Pl 3<|ce K11 (decide (n≤245)) (by rw [q10]; rfl)
 have q10p:=of_decide_eq_false q10
 exact Pl 3<|ce K11 false (by rw [q10]; rfl)
 refine Pl 1<|cu 4 [9] 13 ((((decide (7≤n)) && (decide (n≤245))) && ((n % 7) == 0))) (fun K K13=>?_) ?_
 refine bl 9 (((decide (7≤n)) && (decide (n≤245)))) (fun q12=>?_) (fun q12=>?_)
 have q12a:=(and_t q12).1
 have q12b:=(and_t q12).2
 have q12ap:=of_decide_eq_true q12a
 have q12bp:=of_decide_eq_true q12b
 exact Pl 1<|L1<|Oe (.int .i64 (Int.tmod n 7)) (.int .i64 (n % 7)) (congrArg (Value.int .i64) (Int.tmod_eq_emod_of_nonneg (by omega)))<|Pl 2<|ce K13 ((n % 7) == 0) (by rw [q12]; rfl)
 exact Pl 4<|ce K13 false (by rw [q12]; rfl)
 refine Pl 1<|nt<|rt<|rr (.bool (((decide (7≤n)) && (decide (n≤245))) && ((n % 7) == 0)))<|?_
 exact ⟨rfl,(Upd.refl [] _)⟩
set_option maxRecDepth 100000 in
set_option maxHeartbeats 4000000 in
theorem frule3_any {n:Int} {w:World} (hn:0≤n∧n < 256) : Calls Tryz.prog 127 #[.int .i64 n] w (PVal (.bool (decide (4≤n) && decide (n≤245))) w):=by
 refine en 9 Tryz.func127 rfl<|sg<|Pl 1<|ng<|Pl 3<|cu 3 [5] 8 (((decide (4≤n)) && (decide (n≤245)))) (fun K K11=>?_) ?_
 refine bl 5 ((decide (4≤n))) (fun q10=>?_) (fun q10=>?_)
 have q10p:=of_decide_eq_true q10
 exact Pl 3<|ce K11 (decide (n≤245)) (by rw [q10]; rfl)
 have q10p:=of_decide_eq_false q10
 exact Pl 3<|ce K11 false (by rw [q10]; rfl)
 refine Pl 1<|nt<|rt<|rr (.bool ((decide (4≤n)) && (decide (n≤245))))<|?_
 exact ⟨rfl,(Upd.refl [] _)⟩
set_option maxRecDepth 100000 in
set_option maxHeartbeats 4000000 in
theorem frule4_any {n:Int} {w:World} (hn:0≤n∧n < 256) : Calls Tryz.prog 129 #[.int .i64 n] w (PVal (.bool (decide (9≤n) && decide (n≤251))) w):=by
 refine en 9 Tryz.func129 rfl<|sg<|Pl 1<|ng<|Pl 3<|cu 3 [5] 8 (((decide (9≤n)) && (decide (n≤251)))) (fun K K11=>?_) ?_
 refine bl 5 ((decide (9≤n))) (fun q10=>?_) (fun q10=>?_)
 have q10p:=of_decide_eq_true q10
 exact Pl 3<|ce K11 (decide (n≤251)) (by rw [q10]; rfl)
 have q10p:=of_decide_eq_false q10
 exact Pl 3<|ce K11 false (by rw [q10]; rfl)
 refine Pl 1<|nt<|rt<|rr (.bool ((decide (9≤n)) && (decide (n≤251))))<|?_
 exact ⟨rfl,(Upd.refl [] _)⟩
set_option maxRecDepth 100000 in
set_option maxHeartbeats 4000000 in
theorem within_err {e:Int} {w:World}:Calls Tryz.prog 96 #[.int .i64 e] w (PVal (.int .i64 (if e == 2 then 5 else e)) w):=by
 refine en 6 Tryz.func96 rfl<|sg<|Pl 1<|nt<|sq<|sg<|Pl 2<|nt<|cb ((e == 2)) (fun q10=>?_) (fun q10=>?_)
 have q10p:=eq_of_beqi q10
 refine sg<|Pl 1<|nt<|rt<|tr<|rr (.int .i64 5)<|?_
 have hs:(if e == 2 then (5:Int) else e)=5:=by simp only [q10,bs,if_true,if_false,decide_true,decide_false,reduceIte]
 rw [hs]
 exact ⟨rfl,(Upd.refl [] _)⟩
 have q10p:=ne_of_beqi q10
 refine skn<|sg<|Pl 2<|nt<|rt<|rr (.int .i64 e)<|?_
 have hs:(if e == 2 then (5:Int) else e)=e:=by simp only [q10,bs,if_true,if_false,decide_true,decide_false,reduceIte]
 rw [hs]
 exact ⟨rfl,(Upd.refl [] _)⟩
open Go.RowKit
structure WF (F:Fence) (n:Nat) (P:Program) (ops:Array Oper) (Q:Exit→Act→World→Prop) (l:List Oper) (a:Act) (w:World) : Prop where
  out:wpListIn F n P ops Q l a w
def plainF (F:Fence) : Prop:=F=Fence.wide∨∃ l,F=Fence.wide.inRound l
theorem plain_wide:plainF Fence.wide:=.inl rfl
theorem plain_round (l:Nat) : plainF (Fence.wide.inRound l):=.inr ⟨l,rfl⟩
theorem plainF.fn {F:Fence} (h:plainF F) (f:FuncId) : F.fn f:=by
  rcases h with rfl | ⟨l,rfl⟩ <;> trivial
theorem plainF.depth {F:Fence} (h:plainF F) : F.depth=none:=by
  rcases h with rfl | ⟨l,rfl⟩ <;> rfl
section
variable {F:Fence} {n:Nat} {P:Program} {Q:Exit→Act→World→Prop} {a:Act} {w:World} {K:Act→World→Prop} {ops:Array Oper} {rest:List Oper} {o:Oper} {N:Option Tmp}
theorem callsF {f:FuncId} {args:Array Value} {R:Ending→World→Prop} (hF:plainF F) (h:Calls P f args w R) : CallsIn F n P f args w R:=by
  rcases hF with rfl | ⟨l,rfl⟩
  · exact callsIn_wide.2 h
  · exact CallsIn.inRound l (callsIn_wide.2 h)
theorem rowsF {row:String} {args:Array Value} {R:Value→World→Prop} (hF:plainF F) (h:Rows P row args w R) : RowsIn F n P row args w R:=by
  have h0:RowsIn Fence.wide n P row args w R:=fun c cs _=>let ⟨v,w',r,s⟩:=h c cs; ⟨v,w',r,stepsIn_wide.2 s⟩
  rcases hF with rfl | ⟨l,rfl⟩
  · exact h0
  · exact h0
def noDefer:Op→Bool
  | .defer _=>false
  | _=>true
theorem opF (hF:plainF F) (hd:noDefer o.op=true) (h:o.wp P a w K Q) : o.wpIn F n P a w K Q:=by
  refine ⟨fun f _=>hF.fn f,?_⟩
  rw [Oper.semAt_eq _ _ _ (fun c hc=>by rw [hc] at hd; cases hd)]
  unfold Oper.wp at h
  have hdep:∀ {p:Prop},F.depth.isSome=true→p:=fun h=>by rw [hF.depth] at h; cases h
  generalize (execOp a.eval o).run P w=r at h ⊢
  cases r with
  | ok x w' =>
    cases x <;> simp only [Oper.upon,Oper.uponIn] at h ⊢
    case value u=>exact h
    case skip=>exact h
    case defer d=>exact h
    case enter f args=>exact ⟨hdep,callsF hF h⟩
    case row row args=>exact ⟨hdep,rowsF hF h⟩
  | halt x w' =>
    cases x <;> simp only [Oper.upon,Oper.uponIn] at h ⊢
    case panic u=>exact h
theorem Fgo {id:Nat} {l:List Oper} (n:Nat) (h:WF Fence.wide n P l.toArray Q l a w) : (Code.region id l.toArray false).wp P Q a w:=wpIn_wide.1 (wpIn_region_lit h.out)
theorem FgoR {id:Nat} {l:List Oper} (h:WF F n P l.toArray Q l a w) : (Code.region id l.toArray false).wpIn F n P Q a w:=wpIn_region_lit h.out
theorem Fnil (h:Q .normal a w) : WF F n P ops Q [] a w:=⟨h⟩
theorem Fst (hF:plainF F) (hd:noDefer o.op=true) (hw:Region.wanted o (yielded ops a.tmps)=true) (h:OW P o a w (WF F n P ops Q rest) Q) : WF F n P ops Q (o :: rest) a w:=by
  refine ⟨?_⟩
  unfold wpListIn
  rw [if_pos hw]
  exact opF hF hd (ow_next h fun _ _ h=>h.out)
theorem Foff (hF:plainF F) (hw:Region.wanted o (yielded ops a.tmps)=false) (hN:o.dst=N) (h:WF F n P ops Q rest (a.put N undef) w) : WF F n P ops Q (o :: rest) a w:=by
  subst hN
  refine ⟨?_⟩
  unfold wpListIn
  rw [if_neg (by simp [hw])]
  exact ⟨fun f _=>hF.fn f,h.out⟩
theorem Fyield {x:Operand} {opds:Array Operand} {ts:Array TypeId} {l:Nat} {r:Loop} (args:Array Value) (hw:Region.wanted o (yielded ops a.tmps)=true) (hN:o.dst=N) (hop:o.op = .call { callee:=.value x,args:=opds,argTypes:=ts })
    (hx:a.eval x = .func (.yield l) #[] #[]) (hargs:opds.map a.eval=args) (hl:w.heap[l]? = some (.loop r)) (hs:args.size=r.params.size)
    (h:RoundIn Fence.wide (n - 1) P l r.fn ((r.params.zip args).foldl (fun tmps (t,a)=>tmps.setIfInBounds t a) r.tmps) r.assign r.body w (fun e w'=>∃ v,e = .returned v∧WF Fence.wide n P ops Q rest (a.put N v) w')) : WF Fence.wide n P ops Q (o :: rest) a w:=by
  subst hN
  refine ⟨?_⟩
  unfold wpListIn
  rw [if_pos hw]
  refine ⟨fun f _=>trivial,?_⟩
  have hrun:(o.semAt Fence.wide.round a.eval).run P w = .ok (.round l r.fn ((r.params.zip args).foldl (fun tmps (t,a)=>tmps.setIfInBounds t a) r.tmps) r.assign r.body) w:=by
    show (execOp a.eval o).run P w=_
    unfold execOp
    simp only [hop,resolve,hx,Deferred.ofValue,Sem.run_bind,Sem.run_pure,Result.andThen_ok,invoke,hargs]
    have:=run_yield (P:=P) (args:=args) hl hs
    simpa using this
  rw [hrun,Oper.uponIn_round]
  refine ⟨(by simp [Fence.wide]),h.mono fun e w' hh=>?_⟩
  obtain ⟨v,rfl,h2⟩:=hh
  exact h2.out
end
theorem Fyield1 {P:Program} {n:Nat} {ops:Array Oper} {Q:Exit→Act→World→Prop} {rest:List Oper} {o:Oper} {a:Act} {w:World} {N:Option Tmp} {x:Operand} {opds:Array Operand} {ts:Array TypeId} {l:Nat} {r:Loop} (v:Value) (p:Tmp) (hw:Region.wanted o (yielded ops a.tmps)=true) (hN:o.dst=N) (hop:o.op = .call { callee:=.value x,args:=opds,argTypes:=ts })
    (hx:a.eval x = .func (.yield l) #[] #[]) (hargs:opds.map a.eval = #[v]) (hl:w.heap[l]? = some (.loop r)) (hp:r.params = #[p])
    (h:RoundIn Fence.wide (n - 1) P l r.fn (r.tmps.setIfInBounds p v) r.assign r.body w (fun e w'=>∃ u,e = .returned u∧WF Fence.wide n P ops Q rest (a.put N u) w')) : WF Fence.wide n P ops Q (o :: rest) a w:=by
  refine Fyield #[v] hw hN hop hx hargs hl (by rw [hp]; rfl) ?_
  have:((r.params.zip #[v]).foldl (fun tmps (t,a)=>tmps.setIfInBounds t a) r.tmps)=r.tmps.setIfInBounds p v:=by rw [hp]; simp
  rw [this]
  exact h
theorem upd_putObj {w:World} {l:Nat} (o:Go.Obj) : Upd [l] w (w.putObj l o) :=
  ⟨rfl,rfl,rfl,by simp [World.putObj],fun k hk hn=>World.putObj_heap_other (by simpa using hn)⟩
theorem blk_putObj {w:World} {l:Nat} {o:Go.Obj} (o':Go.Obj) (h:w.heap[l]? = some o) : (w.putObj l o').heap[l]? = some o':=World.putObj_heap_same (blk_lt h)
def noCells:Go.Obj→Bool
  | .cells ..=>false
  | _=>true
theorem RdG.updl {α:Type} {m:Bool} {e:TypeId} {sz:Nat} {R:World→α→List Value→Prop} {w w':World} {v:Value} {xs:List α} {l:Nat} {o:Go.Obj}
    (h:RdG m e sz R w v xs) (hu:Upd [l] w w') (hl:w.heap[l]? = some o) (ho:noCells o=true) (hR:∀ x cs,R w x cs→R w' x cs) : RdG m e sz R w' v xs:=by
  obtain ⟨A,c,rfl,h1,h2,h0,h3⟩:=h
  refine ⟨A,c,rfl,h1,h2,h0,fun hp=>?_⟩
  obtain ⟨b,off,cells,t,fr,rfl,hb,ht,hx⟩:=h3 hp
  refine ⟨b,off,cells,t,fr,rfl,?_,ht,fun j x hj=>?_⟩
  · refine hu.blk (fun hbs=>?_) hb
    simp at hbs
    subst hbs
    rw [hl] at hb
    injection hb with hb
    subst hb
    cases ho
  · obtain ⟨cs,hl,hr,hc⟩:=hx j x hj
    exact ⟨cs,hl,hR _ _ hr,hc⟩
theorem RdB.updl {m:Bool} {w w':World} {v:Value} {xs:List Int} {l:Nat} {o:Go.Obj} (h:RdB m w v xs) (hu:Upd [l] w w') (hl:w.heap[l]? = some o) (ho:noCells o=true) : RdB m w' v xs:=RdG.updl h hu hl ho fun _ _ h=>h
theorem RdW.updl {m:Bool} {w w':World} {v:Value} {xs:List Int} {l:Nat} {o:Go.Obj} (h:RdW m w v xs) (hu:Upd [l] w w') (hl:w.heap[l]? = some o) (ho:noCells o=true) : RdW m w' v xs:=RdG.updl h hu hl ho fun _ _ h=>h
theorem recR.updl {m:Bool} {w w':World} {l:Nat} {o:Go.Obj} (hu:Upd [l] w w') (hl:w.heap[l]? = some o) (ho:noCells o=true) (r:Rec) (cs:List Value) (h:recR m w r cs) : recR m w' r cs:=by
  obtain ⟨v,h1,h2,h3⟩:=h
  exact ⟨v,h1,RdW.updl h2 hu hl ho,h3⟩
theorem CurAt.updl {w w':World} {g:Nat} {c:Cur} {l:Nat} {o:Go.Obj} (h:CurAt w g c) (hu:Upd [l] w w') (hg:g ∉ [l]) (hl:w.heap[l]? = some o) (ho:noCells o=true) : CurAt w' g c:=by
  obtain ⟨v,hb,hr,hn⟩:=h
  exact ⟨v,hu.blk hg hb,hr.updl hu hl ho,hn⟩
theorem round_of {n:Nat} {P:Program} {l:Nat} {f:FuncId} {tmps:Array Value} {assign body:Code} {w:World} {r:Loop} {R:Ending→World→Prop}
    (h:assign.wpIn (Fence.wide.inRound l) n P (Exit.then (fun a₁ w₁=>w₁.heap[l]? = some (.loop r)∧r.state = .ready∧∀ w₂,w₂.heap[l]? = some (.loop { r with state:=.busy })→Upd [l] w₁ w₂ →
      body.wpIn (Fence.wide.inRound l) n P (Exit.then (fun _ w₃=>∃ r',w₃.heap[l]? = some (.loop r')∧∀ w₄,w₄.heap[l]? = some (.loop { r' with state:=.ready,pending:=none })→Upd [l] w₃ w₄→R (.returned (.bool true)) w₄) (fun _ _ _=>False)) a₁ w₂) (fun _ _ _=>False)) { tmps:=tmps,defers:=[] } w) :
    RoundIn Fence.wide n P l f tmps assign body w R:=by
  refine roundIn_of_wpIn trivial (Code.wpIn_mono (fun e a w q=>?_) h)
  cases e with
  | normal =>
    obtain ⟨h1,h2,h3⟩:=q
    refine ⟨_,run_beginRound h1 h2,Code.wpIn_mono (fun e a w q=>?_) (h3 _ (blk_putObj _ h1) (upd_putObj _))⟩
    cases e with
    | normal =>
      obtain ⟨r',h4,h5⟩:=q
      exact ⟨_,_,run_endRound none h4,h5 _ (blk_putObj _ h4) (upd_putObj _)⟩
    | _=>exact q.elim
  | _=>exact q.elim
theorem round_at {n:Nat} {P:Program} {l:Nat} {f:FuncId} {tmps:Array Value} {assign body:Code} {w:World} {r:Loop} {R:Ending→World→Prop}
    (hl:w.heap[l]? = some (.loop r))
    (h:assign.wpIn (Fence.wide.inRound l) n P (Exit.then (fun a₁ w₁=>w₁.heap[l]? = some (.loop r)∧r.state = .ready∧∀ w₂,w₂.heap[l]? = some (.loop { r with state:=.busy })→Upd [l] w₁ w₂ →
      body.wpIn (Fence.wide.inRound l) n P (Exit.then (fun _ w₃=>∃ r',w₃.heap[l]? = some (.loop r')∧∀ w₄,w₄.heap[l]? = some (.loop { r' with state:=.ready,pending:=none })→Upd [l] w₃ w₄→R (.returned (.bool true)) w₄) (fun _ _ _=>False)) a₁ w₂) (fun _ _ _=>False)) { tmps:=tmps,defers:=[] } w) :
    RoundIn Fence.wide n P l f tmps assign body w R:=round_of h
theorem wp_range {P:Program} {Q:Exit→Act→World→Prop} {a:Act} {w:World} {g:Operand} {ps:Array Tmp} {assign body:Code} {f:FuncId} {fn:Func} (cap:Array Value)
    (hx : a.eval g = .func (.func f) #[] cap) (hf : P.funcs[f]? = some fn) (hname : (fn.name == "runtime.NumGoroutine") = false) (hb : fn.body.isSome = true)
    (h:∀ fn0 D l w₂,w.heap.size≤D→w.heap.size≤l→D ≠ l→w₂.heap[D]? = some (.deferred (some []))→w₂.heap[l]? = some (.loop { state:=.ready,pending:=none,fn:=fn0,tmps:=a.tmps,params:=ps,assign:=assign,body:=body,defers:=D })→Upd [] w w₂ →
      Calls P f (#[.func (.yield l) #[] #[]]++cap) w₂ (fun e w₃=>∃ v r',e = .returned v∧w₃.heap[l]? = some (.loop r')∧r'.state ≠ .busy∧r'.pending=none∧∀ w₄,Upd [l] w₃ w₄→Q .normal { a with defers:={ target:=.collected D,args:=#[] } :: a.defers } w₄)) :
    (Code.rangeFunc g ps assign body).wp P Q a w:=by
  refine (wpIn_wide (n:=9)).1 (wpIn_rangeFunc fun fn0 _=>?_)
  have h1 : fn.name ≠ "runtime.NumGoroutine" := by simpa using hname
  obtain ⟨cd,hcd⟩:=Option.isSome_iff_exists.1 hb
  refine ⟨w.heap.size + 1,[{ target:=.collected w.heap.size,args:=#[] }],((w.alloc (.deferred (some []))).alloc (.loop { state:=.ready,pending:=none,fn:=fn0,tmps:=a.tmps,params:=ps,assign:=assign,body:=body,defers:=w.heap.size })),
    { target:=.fn (.func f) cap,args:=#[]++#[.func (.yield (w.heap.size + 1)) #[] #[]] },((w.alloc (.deferred (some []))).alloc (.loop { state:=.ready,pending:=none,fn:=fn0,tmps:=a.tmps,params:=ps,assign:=assign,body:=body,defers:=w.heap.size })),
    f,#[.func (.yield (w.heap.size + 1)) #[] #[]]++cap,((w.alloc (.deferred (some []))).alloc (.loop { state:=.ready,pending:=none,fn:=fn0,tmps:=a.tmps,params:=ps,assign:=assign,body:=body,defers:=w.heap.size })),run_enterLoop_outer fn0 a.tmps ps assign body,?_,fun _ _=>trivial,?_,by simp [Fence.wide],?_⟩
  · unfold resolve
    simp only [rangeCall,hx,Deferred.ofValue,Sem.run_pure,List.map_toArray,List.map_cons,List.map_nil]
    rfl
  · simp [invoke,callFunc,hf,h1,hcd]
  · have hD:((w.alloc (.deferred (some []))).alloc (.loop { state:=.ready,pending:=none,fn:=fn0,tmps:=a.tmps,params:=ps,assign:=assign,body:=body,defers:=w.heap.size })).heap[w.heap.size]? = some (.deferred (some [])):=blk_old (blk_new w _) _
    have hl:((w.alloc (.deferred (some []))).alloc (.loop { state:=.ready,pending:=none,fn:=fn0,tmps:=a.tmps,params:=ps,assign:=assign,body:=body,defers:=w.heap.size })).heap[w.heap.size + 1]? = some (.loop { state:=.ready,pending:=none,fn:=fn0,tmps:=a.tmps,params:=ps,assign:=assign,body:=body,defers:=w.heap.size }):=by
      have:=blk_new (w.alloc (.deferred (some []))) (.loop { state:=.ready,pending:=none,fn:=fn0,tmps:=a.tmps,params:=ps,assign:=assign,body:=body,defers:=w.heap.size })
      simpa using this
    refine callsIn_wide.2 ((h fn0 w.heap.size (w.heap.size + 1) _ (Nat.le_refl _) (by omega) (by omega) hD hl (((Upd.refl [] w).alloc _).alloc _)).mono ?_)
    rintro e w₃ ⟨v,r',rfl,h3,h4,h5,h6⟩
    refine ⟨_,_,run_endLoop h3 h4,?_⟩
    rw [h5]
    exact h6 _ (upd_putObj _)
theorem calls_marks {P:Program} {f:FuncId} {fn:Func} {c:Code} {args:Array Value} {w:World} {R:Ending→World→Prop} (hf:P.funcs[f]? = some fn) (hb:fn.body=some c)
    (h:c.wp P (bodyPostM Fence.wide 9 P fn R) { tmps:=args++Array.replicate (fn.ntmps - args.size) undef,defers:=[] } w) : Calls P f args w R :=
  callsIn_wide.1 (callsIn_of_wp_marks hf hb trivial (wpIn_wide.2 h) rfl)
theorem bm_ret {P:Program} {fn:Func} {R:Ending→World→Prop} {a:Act} {w:World} {D:Nat} (hd:a.defers=[{ target:=.collected D,args:=#[] }]) (hD:w.heap[D]? = some (.deferred (some [])))
    (h:∀ w',Upd [D] w w'→∃ v,(results fn a.tmps).run P w' = .ok v w'∧R (.returned v) w') : bodyPostM Fence.wide 9 P fn R .ret a w:=by
  show LeavesInM Fence.wide 9 P fn a.tmps R a.defers .returning w
  rw [hd]
  exact ⟨by simp,.inl ⟨D,_,rfl,run_takeDeferred hD,h _ (upd_putObj _)⟩⟩
theorem bm_ret0 {P:Program} {fn:Func} {R:Ending→World→Prop} {a:Act} {w:World} (hd:a.defers=[]) (h:∃ v,(results fn a.tmps).run P w = .ok v w∧R (.returned v) w) : bodyPostM Fence.wide 9 P fn R .ret a w:=by
  show LeavesInM Fence.wide 9 P fn a.tmps R a.defers .returning w
  rw [hd]
  exact h
open Go.RowKit
structure GF (E:Fence) (m:Nat) (P:Program) (ops:Array Oper) (Q:Exit→Act→World→Prop) (l:List Oper) (n:Nat) (D:List Deferred) (F:Fr) (w:World) : Prop where
  out:∀ a,Ag n D F a→WF E m P ops Q l a w
structure GI (E:Fence) (m:Nat) (P:Program) (c:Code) (Q:Exit→Act→World→Prop) (n:Nat) (D:List Deferred) (F:Fr) (w:World) : Prop where
  out:∀ a,Ag n D F a→c.wpIn E m P Q a w
section
variable {E:Fence} {m:Nat} {P:Program} {Q:Exit→Act→World→Prop} {n:Nat} {D:List Deferred} {F:Fr} {w:World} {ops:Array Oper} {rest l:List Oper} {d:Option Tmp} {op:Op} {t:TypeId} {s:String} {af:Array Edge} {gu:Option (Nat × Bool)} {x y c:Code} {id:Nat}
theorem fgo (m:Nat) (h:GF Fence.wide m P l.toArray Q l n D F w) : GC P (.region id l.toArray false) Q n D F w:=⟨fun a ha=>Fgo m (h.out a ha)⟩
theorem fgr (h:GF E m P l.toArray Q l n D F w) : GI E m P (.region id l.toArray false) Q n D F w:=⟨fun a ha=>FgoR (h.out a ha)⟩
theorem fbk (h:GI E m P c (Exit.inBlock id Q) n D F w) : GI E m P (.block id c) Q n D F w:=⟨fun a ha=>wpIn_block (h.out a ha)⟩
theorem fnl (h:GQ Q .normal n D F w) : GF E m P ops Q [] n D F w:=⟨fun a ha=>Fnil (h.out a ha)⟩
theorem F0w (hE:plainF E) (h:OG P ⟨d,op,t,s,af,gu⟩ n D F w (GF E m P ops Q rest n D) Q) (hw:gOn ops F gu=(true,true)) (hd:noDefer op=true) : GF E m P ops Q (⟨d,op,t,s,af,gu⟩ :: rest) n D F w :=
  ⟨fun a ha=>Fst hE hd (gOn_w ha hw) (h.out a ha _ fun F' w' a' k ha'=>k.out a' ha')⟩
theorem Fp_ (hE:plainF E) {o:Oper} (h:GF E m P ops Q rest n D (st1 P ops w F o) w) (hc:ckL P ops w n 1 (o :: rest) F=exL P ops w 1 (o :: rest) F) (hd:noDefer o.op=true) : GF E m P ops Q (o :: rest) n D F w:=by
  simp only [ckL,exL,List.cons.injEq,Prod.mk.injEq,Bool.and_eq_true] at hc
  obtain ⟨⟨⟨h1,h2,h3⟩,h4⟩,h5⟩:=hc
  refine ⟨fun a ha=>?_⟩
  cases hon:(gOn ops F o.guard).2 with
  | true =>
    rw [hon] at h3 h4
    simp only [cond_true] at h3 h4
    have hst:st1 P ops w F o=pt o.dst (vo P w F o) F:=by simp [st1,hon]
    rw [hst] at h
    exact Fst hE hd (gOn_w ha (Prod.ext h1 hon)) (ow_val (N:=o.dst) (vo P w F o) rfl (by rw [← opIn_ex ha h3]; exact h4) (h.out _ (ha.put h2)))
  | false =>
    have hst:st1 P ops w F o=pt o.dst undef F:=by simp [st1,hon]
    rw [hst] at h
    exact Foff (N:=o.dst) hE (gOn_w ha (Prod.ext h1 hon)) rfl (h.out _ (ha.put h2))
theorem F0 (h:OG P ⟨d,op,t,s,af,gu⟩ n D F w (GF Fence.wide m P ops Q rest n D) Q) (hw:gOn ops F gu=(true,true):=by kernel_rfl) (hd:noDefer op=true:=by kernel_rfl) : GF Fence.wide m P ops Q (⟨d,op,t,s,af,gu⟩ :: rest) n D F w:=F0w plain_wide h hw hd
theorem R0f {q:Nat} (h:OG P ⟨d,op,t,s,af,gu⟩ n D F w (GF (Fence.wide.inRound q) m P ops Q rest n D) Q) (hw:gOn ops F gu=(true,true):=by kernel_rfl) (hd:noDefer op=true:=by kernel_rfl) : GF (Fence.wide.inRound q) m P ops Q (⟨d,op,t,s,af,gu⟩ :: rest) n D F w:=F0w (plain_round _) h hw hd
theorem Fp {o:Oper} (h:GF Fence.wide m P ops Q rest n D (st1 P ops w F o) w) (hc:ckL P ops w n 1 (o :: rest) F=exL P ops w 1 (o :: rest) F:=by kernel_rfl) (hd:noDefer o.op=true:=by kernel_rfl) : GF Fence.wide m P ops Q (o :: rest) n D F w:=Fp_ plain_wide h hc hd
theorem Rpf {q:Nat} {o:Oper} (h:GF (Fence.wide.inRound q) m P ops Q rest n D (st1 P ops w F o) w) (hc:ckL P ops w n 1 (o :: rest) F=exL P ops w 1 (o :: rest) F:=by kernel_rfl) (hd:noDefer o.op=true:=by kernel_rfl) : GF (Fence.wide.inRound q) m P ops Q (o :: rest) n D F w:=Fp_ (plain_round _) h hc hd
theorem blf (j:Nat) (e:Bool) (ht:e=true→GF E m P ops Q l n D ((j,.bool true) :: F) w) (hf:e=false→GF E m P ops Q l n D ((j,.bool false) :: F) w) (hv:lk F j=some (.bool e):=by kernel_rfl) : GF E m P ops Q l n D F w:=by
  refine ⟨fun a ha=>?_⟩
  have key:∀ b,e=b→Ag n D ((j,.bool b) :: F) a:=fun b hb=>⟨ha.sz,ha.df,fun i v hi=>by
    rcases lk_cons hi with ⟨rfl,rfl⟩ | ⟨_,h2⟩
    · rw [← hb]; exact ha.at_ _ _ hv
    · exact ha.at_ _ _ h2⟩
  rcases bool_dich e with q | q
  · exact (ht q).out a (key _ q)
  · exact (hf q).out a (key _ q)
theorem Fy {x:Operand} {opds:Array Operand} {ts:Array TypeId} {q:Nat} {r:Loop} (v:Value) (p:Tmp) (hl:w.heap[q]? = some (.loop r)) (hp:r.params = #[p])
    (h:RoundIn Fence.wide (m - 1) P q r.fn (r.tmps.setIfInBounds p v) r.assign r.body w (fun e w'=>∃ u,e = .returned u∧GF Fence.wide m P ops Q rest n D (pt d u F) w'))
    (hw:gOn ops F gu=(true,true):=by kernel_rfl) (hx:evo F x=some (.func (.yield q) #[] #[]):=by kernel_rfl) (ha:opds.toList.map (evo F)=[some v]:=by kernel_rfl) (hd:dok n d=true:=by kernel_rfl) :
    GF Fence.wide m P ops Q (⟨d,.call { callee:=.value x,args:=opds,argTypes:=ts },t,s,af,gu⟩ :: rest) n D F w :=
  ⟨fun a hag=>Fyield1 v p (gOn_w hag hw) rfl rfl (hag.ev hx) (by apply Array.toList_inj.1; rw [Array.toList_map]; exact ag_args (vs:=[v]) hag ha) hl hp (h.mono fun e w' hh=>by
    obtain ⟨u,rfl,hk⟩:=hh
    exact ⟨u,rfl,hk.out _ (hag.put hd)⟩)⟩
theorem grange {g:Operand} {ps:Array Tmp} {assign body:Code} {f:FuncId} (cap:Array Value)
    (h:∀ a,Ag n D F a→∀ fn0 D' q w₂,w.heap.size≤D'→w.heap.size≤q→D' ≠ q→w₂.heap[D']? = some (.deferred (some []))→w₂.heap[q]? = some (.loop { state:=.ready,pending:=none,fn:=fn0,tmps:=a.tmps,params:=ps,assign:=assign,body:=body,defers:=D' })→Upd [] w w₂ →
      Calls P f (#[.func (.yield q) #[] #[]]++cap) w₂ (fun e w₃=>∃ v r',e = .returned v∧w₃.heap[q]? = some (.loop r')∧r'.state ≠ .busy∧r'.pending=none∧∀ w₄,Upd [q] w₃ w₄→GQ Q .normal n ({ target:=.collected D',args:=#[] } :: D) F w₄))
    (hx:evo F g=some (.func (.func f) #[] cap):=by kernel_rfl) (hf:fnO P f=some (false,true):=by kernel_rfl) : GC P (.rangeFunc g ps assign body) Q n D F w:=by
  obtain ⟨fn,h1,h2,h3⟩:=fnO_some hf
  refine ⟨fun a ha=>wp_range cap (ha.ev hx) h1 h2 h3 fun fn0 D' q w₂ g1 g2 g3 g4 g5 g6=>(h a ha fn0 D' q w₂ g1 g2 g3 g4 g5 g6).mono fun e w₃ hh=>?_⟩
  obtain ⟨v,r',k1,k2,k3,k4,k5⟩:=hh
  exact ⟨v,r',k1,k2,k3,k4,fun w₄ hu=>(k5 w₄ hu).out _ ⟨ha.sz,by rw [ha.df],ha.at_⟩⟩
theorem gri {a:Act} (ha:Ag n D F a) (p:Tmp) {v:Value} (h:GI E m P c Q n [] ((p,v) :: F) w) (hp:Nat.blt p n=true:=by kernel_rfl) : c.wpIn E m P Q { tmps:=a.tmps.setIfInBounds p v,defers:=[] } w:=by
  have h0:Ag n [] F { tmps:=a.tmps,defers:=[] }:=⟨ha.sz,rfl,ha.at_⟩
  exact h.out _ (h0.put (d:=some p) hp)
theorem gr1 {r:Loop} {q:Nat} {c:Code} {Qb:Exit→Act→World→Prop} (h1:w.heap[q]? = some (.loop r)) (h2:r.state = .ready) (h:∀ w₂,w₂.heap[q]? = some (.loop { r with state:=.busy })→Upd [q] w w₂→GI E m P c Qb n D F w₂) :
    GQ (Exit.then (fun a₁ w₁=>w₁.heap[q]? = some (.loop r)∧r.state = .ready∧∀ w₂,w₂.heap[q]? = some (.loop { r with state:=.busy })→Upd [q] w₁ w₂→c.wpIn E m P Qb a₁ w₂) Q) .normal n D F w:=⟨fun a ha=>⟨h1,h2,fun w₂ k1 k2=>(h w₂ k1 k2).out a ha⟩⟩
theorem gr2 {r:Loop} {q:Nat} {Z:World→Prop} (h1:w.heap[q]? = some (.loop r)) (h:∀ w₄,w₄.heap[q]? = some (.loop { r with state:=.ready,pending:=none })→Upd [q] w w₄→Z w₄) :
    GQ (Exit.then (fun _ w₃=>∃ r',w₃.heap[q]? = some (.loop r')∧∀ w₄,w₄.heap[q]? = some (.loop { r' with state:=.ready,pending:=none })→Upd [q] w₃ w₄→Z w₄) Q) .normal n D F w:=⟨fun a ha=>⟨r,h1,h⟩⟩
end
section
variable {P:Program} {n:Nat} {F:Fr} {w:World} {fn:Func} {R:Ending→World→Prop}
theorem enm {f:FuncId} {c:Code} {args:List Value} {w:World} (n:Nat) (hf:P.funcs[f]? = some fn) (hb:fn.body=some c)
    (h:GC P c (bodyPostM Fence.wide 9 P fn R) n [] (zipF 0 args) w) (hn:args.length + (fn.ntmps - args.length)=n:=by kernel_rfl) : Calls P f args.toArray w R:=by
  subst hn
  exact calls_marks hf hb (by simpa using h.out _ (ag0 (args:=args) (m:=fn.ntmps - args.length)))
theorem rmd {D:Nat} (hD:w.heap[D]? = some (.deferred (some []))) (h:∀ w',Upd [D] w w'→GQ (fun _ a w'=>∃ v,(results fn a.tmps).run P w' = .ok v w'∧R (.returned v) w') .ret n [{ target:=.collected D,args:=#[] }] F w') : GQ (bodyPostM Fence.wide 9 P fn R) .ret n [{ target:=.collected D,args:=#[] }] F w :=
  ⟨fun a ha=>bm_ret ha.df hD fun w' hu=>(h w' hu).out a ha⟩
theorem rx {D:List Deferred} {g:Nat} {cs:Array Value} {t:TypeId} {fr:Nat × Nat} (B:w.heap[g]? = some (.cells cs t fr)) (u:Value) (h:R (.returned (.tuple #[.agg cs,u])) w) (hc:rcS P fn.results F=some (some (.pointer (some ⟨g,0,none⟩)),some u,some true,some cs.size):=by kernel_rfl) : GQ (fun _ a w'=>∃ v,(results fn a.tmps).run P w' = .ok v w'∧R (.returned v) w') .ret n D F w :=
  ⟨fun a ha=>⟨_,rct_run ha B rfl hc,h⟩⟩
theorem ry {g:Nat} {cs:Array Value} {t:TypeId} {fr:Nat × Nat} (B:w.heap[g]? = some (.cells cs t fr)) (u:Value) (h:R (.returned (.tuple #[.agg cs,u])) w) (hc:rcS P fn.results F=some (some (.pointer (some ⟨g,0,none⟩)),some u,some true,some cs.size):=by kernel_rfl) : GQ (bodyPostM Fence.wide 9 P fn R) .ret n [] F w :=
  ⟨fun a ha=>bm_ret0 ha.df ⟨_,rct_run ha B rfl hc,h⟩⟩
end
open Go.RowKit
def PRul (mk:Nat→Value) (w:World) (e:Ending) (w':World) : Prop:=∃ gs,e = .returned (.tuple #[mk gs,.bool true])∧w.heap.size≤gs∧w'.heap[gs]? = some (.cells #[.int .i64 0] 3 (0,0))∧Upd [] w w'
def rulA (gs:Nat) : Value:=.agg #[.func (.func 126) #[] #[],.func (.func 124) #[] #[.pointer (some ⟨gs,0,none⟩)]]
def rulT (gs:Nat) : Value:=.agg #[.func (.func 127) #[] #[],.func (.func 128) #[] #[]]
def rulW (gs:Nat) : Value:=.agg #[.func (.func 129) #[] #[],.func (.func 130) #[] #[]]
set_option maxRecDepth 100000 in
set_option maxHeartbeats 4000000 in
theorem rules_A {w:World}:Calls Tryz.prog 91 #[.int .i64 0,.int .u8 20] w (PRul rulA w):=by
 refine en 27 Tryz.func91 rfl<|sg<|L0<|Oal #[.nilFunc,.nilFunc] fun g10 w11 hg12 B13 hu14=>Pl 1<|ng<|L0<|Oal #[.int .i64 0] fun g15 w16 hg17 B18 hu19=>L0<|Ost B18 0 #[.int .i64 0] fun w20 B21 hu22=>nt<|sq<|?_
 refine go<|Pl 2<|nt<|sq<|bk<|sg<|Pl 7<|nt<|c1<|sg<|?_
 refine Pl 2<|?_
 have U23:=u1 hu19 hu22 (nr hg17)
 have r24:=ub U23 B13
 refine L0<|Osw r24 #[.func (.func 126) #[] #[],.func (.func 124) #[] #[.pointer (some ⟨g15,0,none⟩)]] fun w25 B26 hu27=>Pl 1<|nt<|rt<|br<|tr<|rct B26 (.bool true)<|?_
 have ne28:=nb (blk_lt B13) lr hg17
 have r29:=ub1 hu27 (Ne.symm ne28) B21
 have U30:=ut0 hu14 hu19
 have U31:=u1 U30 hu22 (ni hu14.size hg17)
 have U32:=u1 U31 hu27 (nr hg12)
 exact ⟨g15,rfl,(Nat.le_trans hu14.size hg17),r29,U32⟩
set_option maxRecDepth 100000 in
set_option maxHeartbeats 4000000 in
theorem rules_T {w:World}:Calls Tryz.prog 91 #[.int .i64 1,.int .u8 20] w (PRul rulT w):=by
 refine en 27 Tryz.func91 rfl<|sg<|L0<|Oal #[.nilFunc,.nilFunc] fun g10 w11 hg12 B13 hu14=>Pl 1<|ng<|L0<|Oal #[.int .i64 0] fun g15 w16 hg17 B18 hu19=>L0<|Ost B18 0 #[.int .i64 0] fun w20 B21 hu22=>nt<|sq<|?_
 refine go<|Pl 2<|nt<|sq<|bk<|sg<|Pl 7<|nt<|c0<|sg<|?_
 refine Pl 3<|nt<|c1<|sg<|Pl 1<|?_
 have U23:=u1 hu19 hu22 (nr hg17)
 have r24:=ub U23 B13
 refine L0<|Osw r24 #[.func (.func 127) #[] #[],.func (.func 128) #[] #[]] fun w25 B26 hu27=>Pl 1<|nt<|rt<|br<|tr<|rct B26 (.bool true)<|?_
 have ne28:=nb (blk_lt B13) lr hg17
 have r29:=ub1 hu27 (Ne.symm ne28) B21
 have U30:=ut0 hu14 hu19
 have U31:=u1 U30 hu22 (ni hu14.size hg17)
 have U32:=u1 U31 hu27 (nr hg12)
 exact ⟨g15,rfl,(Nat.le_trans hu14.size hg17),r29,U32⟩
set_option maxRecDepth 100000 in
set_option maxHeartbeats 4000000 in
theorem rules_W {dir:Int} {w:World}:Calls Tryz.prog 91 #[.int .i64 dir,.int .u8 21] w (PRul rulW w):=by
 refine en 27 Tryz.func91 rfl<|sg<|L0<|Oal #[.nilFunc,.nilFunc] fun g10 w11 hg12 B13 hu14=>Pl 1<|ng<|L0<|Oal #[.int .i64 0] fun g15 w16 hg17 B18 hu19=>L0<|Ost B18 0 #[.int .i64 0] fun w20 B21 hu22=>nt<|sq<|?_
 refine go<|Pl 2<|nt<|sq<|bk<|sg<|Pl 7<|nt<|c0<|sg<|?_
 refine Pl 3<|nt<|c0<|sg<|Pl 3<|nt<|c1<|sg<|Pl 1<|?_
 have U23:=u1 hu19 hu22 (nr hg17)
 have r24:=ub U23 B13
 refine L0<|Osw r24 #[.func (.func 129) #[] #[],.func (.func 130) #[] #[]] fun w25 B26 hu27=>Pl 1<|nt<|rt<|br<|tr<|rct B26 (.bool true)<|?_
 have ne28:=nb (blk_lt B13) lr hg17
 have r29:=ub1 hu27 (Ne.symm ne28) B21
 have U30:=ut0 hu14 hu19
 have U31:=u1 U30 hu22 (ni hu14.size hg17)
 have U32:=u1 U31 hu27 (nr hg12)
 exact ⟨g15,rfl,(Nat.le_trans hu14.size hg17),r29,U32⟩
set_option maxRecDepth 100000 in
set_option maxHeartbeats 4000000 in
theorem rules_no {dir x:Int} {w:World} (n1:(x == 20)=false) (n2:(x == 21)=false) : Calls Tryz.prog 91 #[.int .i64 dir,.int .u8 x] w (PVal (.tuple #[.agg #[.nilFunc,.nilFunc],.bool false]) w):=by
 refine en 27 Tryz.func91 rfl<|sg<|L0<|Oal #[.nilFunc,.nilFunc] fun g10 w11 hg12 B13 hu14=>Pl 1<|ng<|L0<|Oal #[.int .i64 0] fun g15 w16 hg17 B18 hu19=>L0<|Ost B18 0 #[.int .i64 0] fun w20 B21 hu22=>nt<|sq<|?_
 refine go<|Pl 2<|nt<|sq<|bk<|sg<|Pl 3<|sy 12 n1<|Pl 4<|nt<|c0<|?_
 refine sg<|Pl 3<|nt<|cf n1<|sg<|Pl 3<|nt<|cf n2<|sk<|bn<|?_
 refine tn<|sg<|Pl 1<|?_
 have U23:=u1 hu19 hu22 (nr hg17)
 have r24:=ub U23 B13
 refine L0<|Osw r24 #[.nilFunc,.nilFunc] fun w25 B26 hu27=>Pl 1<|nt<|rt<|rct B26 (.bool false)<|?_
 have U28:=ut0 hu14 hu19
 have U29:=u1 U28 hu22 (ni hu14.size hg17)
 have U30:=u1 U29 hu27 (nr hg12)
 exact ⟨rfl,U30⟩
set_option maxRecDepth 100000 in
set_option maxHeartbeats 4000000 in
theorem full_any {gb:Nat} {f:Fn} {x y:Array Value} {w:World}:Calls Tryz.prog 95 #[.pointer (some ⟨gb,0,none⟩),.func f x y] w (fun e w'=>∃ b1 b2,e = .returned (.func (.func 131) #[] #[.pointer (some ⟨b1,0,none⟩),.pointer (some ⟨b2,0,none⟩)])∧w.heap.size≤b1∧w.heap.size≤b2∧b1 ≠ b2 ∧
      w'.heap[b1]? = some (.cells #[.pointer (some ⟨gb,0,none⟩)] 143 (0,0))∧w'.heap[b2]? = some (.cells #[.func f x y] 158 (0,0))∧Upd [] w w'):=by
 refine en 6 Tryz.func95 rfl<|sg<|L0<|Obx #[.pointer (some ⟨gb,0,none⟩)] fun g10 w11 hg12 B13 hu14=>L0<|Obx #[.func f x y] fun g15 w16 hg17 B18 hu19=>Pl 1<|ng<|Pl 2<|nt<|rt<|?_
 refine rr (.func (.func 131) #[] #[.pointer (some ⟨g10,0,none⟩),.pointer (some ⟨g15,0,none⟩)])<|?_
 have ne20:=nb (blk_lt B13) lr hg17
 have r21:=ub hu19 B13
 have U22:=ut0 hu14 hu19
 exact ⟨g10,g15,rfl,hg12,(Nat.le_trans hu14.size hg17),ne20,r21,B18,U22⟩
set_option maxRecDepth 100000 in
set_option maxHeartbeats 4000000 in
theorem asked_any {g gs:Nat} {s:Int} {C:Cur} {w:World} (hC:CurAt w g C) (hS:w.heap[gs]? = some (.cells #[.int .i64 s] 3 (0,0))) (hne:g ≠ gs) (hs:0≤s∧s≤1000000000000) :
    Calls Tryz.prog 124 #[.pointer (some ⟨g,0,none⟩),.pointer (some ⟨gs,0,none⟩)] w (fun e w'=>∃ A c,e = .returned (.agg #[.int .u16 (headM C).file,.int .u16 (headM C).record,.int .u16 (headM C).count,.slice A (headM C).words.length c])∧RdW true w' (.slice A (headM C).words.length c) (headM C).words∧B16 (headM C).file∧B16 (headM C).record∧B16 (headM C).count∧CurAt w' g (askedC s C)∧w'.heap[gs]? = some (.cells #[.int .i64 (askedS s C)] 3 (0,0))∧Upd [g,gs] w w'):=by
 refine en 19 Tryz.func124 rfl<|sg<|L0<|Oal #[.int .u16 0,.int .u16 0,.int .u16 0,.slice none 0 0] fun g10 w11 hg12 B13 hu14=>ng<|Pl 1<|?_
 have r15:=CurAt.old hC hu14
 refine L0<|Oc<|ee6 (head_any r15) fun A17 cp18 w16 rd19 hb20 hb21 hb22 hc23 hu24=>?_
 obtain ⟨hb20a,hb20b⟩:=hb20
 obtain ⟨hb21a,hb21b⟩:=hb21
 obtain ⟨hb22a,hb22b⟩:=hb22
 refine L0<|Oal #[.int .u16 0,.int .u16 0,.int .u16 0,.slice none 0 0] fun g25 w26 hg27 B28 hu29=>L0<|Osw B28 #[.int .u16 ((headM C).file),.int .u16 ((headM C).record),.int .u16 ((headM C).count),.slice A17 ((headM C).words.length) cp18] fun w30 B31 hu32=>ng<|?_
 have U33:=u1 (Upd.mono (S':=[g]) hu14 all0) hu24 im
 have U34:=ut0 U33 hu29
 have U35:=u1 U34 hu32 (ni U33.size hg27)
 have r36:=ub1 U35 (Ne.symm hne) hS
 refine L0<|Olb r36 0<|Pl 1<|L0<|Olb B31 2<|L0<|Oi ((headM C).count)<|L0<|Oi (2 * ((headM C).count))<|L0<|Oi (2 + (2 * ((headM C).count)))<|L0<|Oi (s + (2 + (2 * ((headM C).count))))<|L0<|Ost r36 0 #[.int .i64 (s + (2 + (2 * ((headM C).count))))] fun w37 B38 hu39=>ng<|Pl 1<|L0<|Olb B38 0<|?_
 refine Pl 1<|?_
 have U40:=u1 hu29 hu32 (nr hg27)
 have U41:=u1 (Upd.mono (S':=[gs]) U40 all0) hu39 im
 have r42:=ub1 U33 (Ne.symm hne) hS
 have r43:=CurAt.upd hc23 U41 (not_cons hne not0) (safe_cons (safe1 r42 (by decide)) safe0)
 refine L0<|Oc<|m2 (need_any ((decide ((s + (2 + (2 * ((headM C).count))))≤245))) 5 r43) fun w44 hc45 hu46=>?_
 refine ab hc45 fun x47 ex48 hc49=>?_
 refine ng<|?_
 have U50:=u1 (Upd.mono (S':=[gs,g]) hu39 (ac im all0)) hu46 im
 have ne51:=nb (CurAt.lt hC) U33.size hg27
 have ne52:=nb (blk_lt hS) U33.size hg27
 have r53:=Upd.blk U50 (not_cons (Ne.symm ne52) (not_cons (Ne.symm ne51) not0)) B31
 refine L0<|Olw r53<|?_
 have U54:=ut0 hu24 hu29
 have U55:=u1 U54 hu32 (ni hu24.size hg27)
 have U56:=u1 (Upd.mono (S':=[g,gs]) U55 (ac im all0)) hu39 im
 have U57:=u1 U56 hu46 im
 have ne58:=nb (blk_lt hS) lr hg12
 have ne59:=nb (CurAt.lt hC) lr hg12
 have r60:=Upd.blk U57 (not_cons (Ne.symm ne59) (not_cons (Ne.symm ne58) not0)) B13
 refine L0<|Osw r60 #[.int .u16 ((headM C).file),.int .u16 ((headM C).record),.int .u16 ((headM C).count),.slice A17 ((headM C).words.length) cp18] fun w61 B62 hu63=>nt<|rt<|rc1 B62<|?_
 subst ex48
 have U64:=u1 (Upd.mono (S':=[gs,g]) U41 (ac im all0)) hu46 im
 have U65:=u1 (Upd.mono (S':=[gs,g,g10]) U64 (ac im (ac im all0))) hu63 im
 have r66:=ub1 hu24 (Ne.symm ne59) B13
 have r67:=RdW.upd' rd19 U65 (safe_cons (safe1 r42 (by decide)) (safe_cons (CurAt.safe hc23 _ (by decide)) (safe_cons (safe1 r66 (by decide)) safe0)))
 have r68:=CurAt.upd hc49 hu63 (not_cons ne59 not0) (safe_cons (safe1 r60 (by decide)) safe0)
 have U69:=u1 (Upd.mono (S':=[g,g10]) hu46 (ac im all0)) hu63 im
 have r70:=Upd.blk U69 (not_cons (Ne.symm hne) (not_cons ne58 not0)) B38
 have U71:=u1 (Upd.mono (S':=[g,gs]) U35 (ac im all0)) hu39 im
 have U72:=u1 U71 hu46 im
 have U73:=u1 U72 hu63 (nr hg12)
 exact ⟨_,_,rfl,r67,b16 (x:=(headM C).file) (by omega),b16 (x:=(headM C).record) (by omega),b16 (x:=(headM C).count) (by omega),r68,r70,U73⟩
def partsC (c:Int) (v:Value) : Array Value:=#[.int .u8 c,.int .u8 0,.int .u16 0,.int .u16 0,.int .u16 0,.int .u16 0,.int .u16 0,.int .u16 0,.int .u16 0,.int .u16 0,.int .u16 0,.int .u16 0,nilS,nilS,nilS,v,.int .u8 0,.int .u8 0,.int .u8 0,.int .u8 0,.int .u8 0,nilS]
structure JR (w0:World) (gb gs gm l:Nat) (c:Int) (r:Loop) (C:Cur) (s:Int) (L:List Rec) (A:Option Addr) (cp:Nat) (W:World) : Prop where
  u:Upd [gb,gs,gm,l] w0 W
  hC:CurAt W gb C
  hS:W.heap[gs]? = some (.cells #[.int .i64 s] 3 (0,0))
  hm:W.heap[gm]? = some (.cells (partsC c (.slice A L.length cp)) 31 (0,0))
  ho:OwnG w0.heap.size 83 4 (recR true) W (.slice A L.length cp) L
  hl:W.heap[l]? = some (.loop r)
def askO (s:Int) (C:Cur) : Int × Cur × Rec:=(askedS s C,askedC s C,headM C)
def toldO (s:Int) (C:Cur) : Int × Cur × Rec:=(s,toldC C,toldM C)
def wrtO (s:Int) (C:Cur) : Int × Cur × Rec:=(s,wrtC C,wrtM C)
def recsR (one:Int→Cur→Int × Cur × Rec) : Nat→Int→Cur→List Rec→Cur × List Rec
  | 0,_,C,L=>(C,L)
  | n + 1,s,C,L =>
    if decide (0 < (C.l.length:Int)) && C.e == 0 then
      (if (one s C).2.1.e != 0 then ((one s C).2.1,L) else recsR one n (one s C).1 (one s C).2.1 (L++[(one s C).2.2]))
    else (C,L)
theorem bytesC_len (C:Cur) (n:Int) : (C.bytesC n).l.length≤C.l.length:=by
  unfold Cur.bytesC
  split
  · unfold Cur.need
    split <;> simp
  · simp
theorem bytesC1_lt (C:Cur) (h:0 < C.l.length) : (C.bytesC 1).l.length < C.l.length:=by
  unfold Cur.bytesC
  split
  · unfold Cur.need
    split <;> simpa using h
  · simp
    omega
theorem need_len (C:Cur) (b:Bool) (e:Int) : (C.need b e).l.length=C.l.length:=by
  unfold Cur.need
  split <;> rfl
theorem wordsC_len (C:Cur) (n:Int) : (C.wordsC n).l.length≤C.l.length:=by
  unfold Cur.wordsC
  split <;> exact bytesC_len ..
theorem headC_lt (C:Cur) (h:0 < C.l.length) : (headC C).l.length < C.l.length:=by
  have h1:(hd1 C).l.length < C.l.length:=by unfold hd1; rw [need_len]; exact bytesC1_lt C h
  have h2:(hd2 C).l.length≤(hd1 C).l.length:=by unfold hd2; rw [need_len]; exact wordsC_len ..
  have h3:(hd3 C).l.length≤(hd2 C).l.length:=by unfold hd3; rw [need_len]; exact wordsC_len ..
  have h4:(headC C).l.length≤(hd3 C).l.length:=by unfold headC; rw [need_len]; exact wordsC_len ..
  omega
theorem askO_lt (s:Int) (C:Cur) (h:0 < C.l.length) : (askO s C).2.1.l.length < C.l.length:=by
  show (askedC s C).l.length < _
  unfold askedC
  rw [need_len]
  exact headC_lt C h
theorem toldO_lt (s:Int) (C:Cur) (h:0 < C.l.length) : (toldO s C).2.1.l.length < C.l.length:=by
  show (toldC C).l.length < _
  have h1:(told1 C).l.length < C.l.length:=by unfold told1; rw [need_len]; exact bytesC1_lt C h
  have h2:(told2 C).l.length≤(told1 C).l.length:=by unfold told2; rw [need_len]; exact bytesC_len ..
  have h3:(toldC C).l.length≤(told2 C).l.length:=by unfold toldC; exact wordsC_len ..
  omega
theorem wrtO_lt (s:Int) (C:Cur) (h:0 < C.l.length) : (wrtO s C).2.1.l.length < C.l.length:=by
  show (wrtC C).l.length < _
  have h1:=headC_lt C h
  have h2:(wrt1 C).l.length=(headC C).l.length:=by unfold wrt1; rw [need_len]
  have h3:(wrtC C).l.length≤(wrt1 C).l.length:=by unfold wrtC; exact wordsC_len ..
  omega
theorem recsR_stop (one:Int→Cur→Int × Cur × Rec) (n:Nat) (s:Int) (C:Cur) (L:List Rec) (h:(decide (0 < (C.l.length:Int)) && C.e == 0)=false) : recsR one n s C L=(C,L):=by
  cases n with
  | zero=>rfl
  | succ n=>simp only [recsR,h,Bool.false_eq_true,if_false]
end Go.Proofs.YtpglhicfhppaiaaGreat
