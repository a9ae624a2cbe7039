/- Contracts of functions, part KA5. -/
import Derived.Test.YtpglhicfhppaiaaGreatKA1
import Derived.Test.YtpglhicfhppaiaaGreatKA2
import Derived.Test.YtpglhicfhppaiaaGreatKA3
import Derived.Test.YtpglhicfhppaiaaGreatKA4
import Derived.OpenShut
import Derived.Below
import Derived.Deep.Slices
import Derived.ChangeArms
import Derived.WideShapes
set_option linter.unusedVariables false
set_option linter.unusedSimpArgs false
namespace Go.Proofs.YtpglhicfhppaiaaGreat
open Go.RowKit
def famW:Nat→Int→Msg→Option (List Int)
  | 1,dir,M=>writeOf parseCoils coilsLay dir M
  | 2,dir,M=>writeOf parseRegs regsLay dir M
  | 3,dir,M=>writeOf parseDiag diagLay dir M
  | 4,dir,M=>writeOf parseFiles filesLay dir M
  | 5,dir,M=>writeOf parseMei meiLay dir M
  | _,_,_=>none
def pduW (dir:Int) (M:Msg) : Option (List Int) :=
  if M.fail != 0 then (if dir != 1 then none else refW M)
  else match famW (cfam M.code) dir M with
    | none=>none
    | some l=>if decide (253≤(l.length:Int)) then none else some ([M.code]++l)
theorem objB_len:∀ (L:List Obj),(∀ r,r∈L→r.value.length≤1024)→(objB L).length≤1026 * L.length
  | [],_=>by simp [objB]
  | r :: L,h=>by
    have h1:=h r (by simp)
    have h2:=objB_len L fun x hx=>h x (by simp [hx])
    simp only [objB,List.length_append,List.length_cons,List.length_nil]
    omega
theorem filesB_len (dir c:Int) : ∀ (L:List Rec),(∀ r,r∈L→r.words.length≤1024)→(filesB dir c L).length≤2064 * L.length
  | [],_=>by simp [filesB]
  | r :: L,h=>by
    have h1:=h r (by simp)
    have h2:=filesB_len dir c L fun x hx=>h x (by simp [hx])
    simp only [filesB,recB]
    repeat' split
    all_goals simp only [List.length_append,List.length_cons,List.length_nil,putW_length]
    all_goals omega
theorem fam_len {M:Msg} (hf:MsgFew M) (dir:Int) : (coilsLay dir M).length≤1048576∧(regsLay dir M).length≤1048576∧(diagLay dir M).length≤1048576∧(meiLay dir M).length≤1048576∧(filesLay dir M).length≤1048576:=by
  have hp:(packB M.bits).length≤1024:=by
    have:=hf.bits
    simp only [packB,List.length_map,List.length_range,many]
    omega
  have h1:=hf.words
  have h2:=hf.data
  have h3:=hf.objects
  have h4:=objB_len M.objects hf.objv
  have h5:=filesB_len dir M.code M.recs hf.recw
  have h6:=hf.recs
  refine ⟨?_,?_,?_,?_,?_⟩
  · unfold coilsLay
    repeat' split
    all_goals simp only [List.length_append,List.length_cons,List.length_nil,putW_length]
    all_goals omega
  · unfold regsLay
    repeat' split
    all_goals simp only [List.length_append,List.length_cons,List.length_nil,putW_length]
    all_goals omega
  · unfold diagLay
    repeat' split
    all_goals simp only [List.length_append,List.length_cons,List.length_nil,putW_length]
    all_goals omega
  · unfold meiLay
    repeat' split
    all_goals simp only [List.length_append,List.length_cons,List.length_nil]
    all_goals omega
  · unfold filesLay
    simp only [List.length_set,List.length_append,List.length_cons,List.length_nil]
    omega
set_option maxRecDepth 100000 in
set_option maxHeartbeats 4000000 in
theorem pdu_write {m:Bool} {cs:Array Value} {M:Msg} {w:World} {dir:Int} (h:MsgRd m w cs.toList M) (hf:MsgFew M) : Calls Tryz.prog 40 #[.int .i64 dir,.agg cs] w (PWrite (pduW dir M) w):=by
 have hM:=h
 obtain ⟨vw,vb,vd,vr,vo,h0,hw,hbt,hd,hr,ho,hR⟩:=h
 obtain rfl:cs=(msgCells M vw vb vd vr vo).toArray:=by apply Array.toList_inj.1; simpa using h0
 clear h0
 obtain ⟨Aw,kw,rfl,_,_⟩:=hw.shape
 obtain ⟨Ab,kb,rfl,_,_⟩:=hbt.shape
 obtain ⟨Ad,kd,rfl,_,_⟩:=hd.shape
 obtain ⟨Ar,kr,rfl,_,_⟩:=hr.shape
 obtain ⟨Ao,ko,rfl,_,_⟩:=ho.shape
 obtain ⟨q0,q1,q2,q3,q4,q5,q6,q7,q8,q9,q10,q11,q16,q17,q18,q19,q20⟩:=hR
 simp only [B8,B16] at q0 q1 q2 q3 q4 q5 q6 q7 q8 q9 q10 q11 q16 q17 q18 q19 q20
 refine en 47 Tryz.func40 rfl<|sg<|L0<|Obx (mG M.code M.fail M.addr M.count M.value M.and_ M.or_ M.addr2 M.sub M.status M.events M.messages (.slice Aw M.words.length kw) (.slice Ab M.bits.length kb) (.slice Ad M.data.length kd) (.slice Ar M.recs.length kr) M.mei M.kind M.level M.more M.next (.slice Ao M.objects.length ko)) fun g10 w11 hg12 B13 hu14=>Pl 2<|nt<|sq<|sg<|Pl 1<|L0<|Olb B13 1<|Pl 1<|nl<|?_
 refine tn<|cb ((M.fail != 0)) (fun q15=>?_) (fun q15=>?_)
 have q15p:=ne_of_bnei q15
 refine sq<|sg<|Pl 2<|nt<|cb ((dir != 1)) (fun q16=>?_) (fun q16=>?_)
 have q16p:=ne_of_bnei q16
 refine sg<|Pl 2<|nt<|rt<|tr<|tr<|rr (.tuple #[.slice none 0 0,.int .i64 1])<|?_
 have hs:pduW dir M=none:=by
   unfold pduW
   (try simp only [q15,q16,bs,if_true,if_false,decide_true,decide_false,reduceIte])
   all_goals rfl
 refine ns_eq hs ?_
 exact ⟨rfl,hu14⟩
 have q16p:=eq_of_bnei q16
 refine skn<|sg<|L0<|Olw B13<|?_
 rcases hwr:refW M with _ | lw
 have r20:=MsgRd.old hM hu14
 have hw17:=ref_write r20
 rw [hwr] at hw17
 refine L0<|Oc<|m1 hw17 fun w18 hu19=>Pl 4<|nt<|rt<|tr<|rr (.tuple #[.slice none 0 0,.int .i64 1])<|?_
 have hs:pduW dir M=none:=by
   unfold pduW
   (try simp only [q15,q16,bs,if_true,if_false,decide_true,decide_false,hwr,reduceIte])
   all_goals rfl
 refine ns_eq hs ?_
 have U21:=ut0 hu14 hu19
 exact ⟨rfl,U21⟩
 have r25:=MsgRd.old hM hu14
 have hw22:=ref_write r25
 rw [hwr] at hw22
 refine L0<|Oc<|so2 hw22 fun A28 cp29 w23 rd32 hl30 hm31 hu24=>Pl 4<|nt<|rt<|tr<|rr (.tuple #[.slice A28 lw.length cp29,.int .i64 0])<|?_
 have hs:pduW dir M=(some lw):=by
   unfold pduW
   (try simp only [q15,q16,bs,if_true,if_false,decide_true,decide_false,hwr,reduceIte])
   all_goals rfl
 refine ns_eq hs ?_
 have U33:=ut0 hu14 hu24
 exact ⟨_,rfl,(OwnG.weaken rd32 hu14.size),U33⟩
 have q15p:=eq_of_bnei q15
 refine skn<|sg<|Pl 1<|L0<|Olb B13 0<|?_
 rcases cfam_dich M.code with ⟨hk,hkf⟩ | ⟨hk,hkf⟩ | ⟨hk,hkf⟩ | ⟨hk,hkf⟩ | ⟨hk,hkf⟩ | ⟨hk,hkf⟩
 have ho34:=of_any (x:=M.code) (w:=w11)
 rw [hkf] at ho34
 refine L0<|Oc<|m1 ho34 fun w35 hu36=>Pl 3<|L0<|Oal #[.nilFunc,.nilFunc] fun g37 w38 hg39 B40 hu41=>L0<|Osw B40 #[.func (.func 58) #[] #[],.func (.func 59) #[] #[]] fun w42 B43 hu44=>Pl 1<|nt<|sq<|sg<|Pl 2<|nt<|c0<|?_
 refine skn<|sg<|Pl 1<|L0<|Olb B43 1<|Pl 1<|?_
 have U45:=ut0 hu36 hu41
 have U46:=u1 U45 hu44 (ni hu36.size hg39)
 have r47:=ub U46 B13
 refine L0<|Olw r47<|?_
 have U48:=ut0 hu14 hu36
 have U49:=ut0 U48 hu41
 have U50:=u1 U49 hu44 (ni U48.size hg39)
 rcases hwr:writeOf parseCoils coilsLay dir M with _ | lw
 have r54:=MsgRd.old hM U50
 have hw51:=coils_write (dir:=dir) r54 hf (fam_len hf dir).1
 rw [hwr] at hw51
 refine L0<|Ocv #[] #[] (args:=#[.int .i64 dir,.agg (mG M.code M.fail M.addr M.count M.value M.and_ M.or_ M.addr2 M.sub M.status M.events M.messages (.slice Aw M.words.length kw) (.slice Ab M.bits.length kb) (.slice Ad M.data.length kd) (.slice Ar M.recs.length kr) M.mei M.kind M.level M.more M.next (.slice Ao M.objects.length ko))])<|m1 hw51 fun w52 hu53=>Pl 5<|nt<|sq<|sg<|Pl 7<|nt<|c1<|sg<|Pl 2<|nl<|?_
 refine tn<|rt<|tr<|rr (.tuple #[.slice none 0 0,.int .i64 1])<|?_
 have hs:pduW dir M=none:=by
   unfold pduW
   (try simp only [q15,bs,if_true,if_false,decide_true,decide_false,hkf,famW,hwr,reduceIte])
   all_goals rfl
 refine ns_eq hs ?_
 have U55:=ut0 U50 hu53
 exact ⟨rfl,U55⟩
 have r59:=MsgRd.old hM U50
 have hw56:=coils_write (dir:=dir) r59 hf (fam_len hf dir).1
 rw [hwr] at hw56
 refine L0<|Ocv #[] #[] (args:=#[.int .i64 dir,.agg (mG M.code M.fail M.addr M.count M.value M.and_ M.or_ M.addr2 M.sub M.status M.events M.messages (.slice Aw M.words.length kw) (.slice Ab M.bits.length kb) (.slice Ad M.data.length kd) (.slice Ar M.recs.length kr) M.mei M.kind M.level M.more M.next (.slice Ao M.objects.length ko))])<|so2 hw56 fun A62 cp63 w57 rd66 hl64 hm65 hu58=>Pl 5<|nt<|sq<|sg<|Pl 7<|nt<|?_
 have U67:=ut0 U50 hu58
 refine cb ((decide (253≤((lw.length:Nat) : Int)))) (fun q68=>?_) (fun q68=>?_)
 have q68p:=of_decide_eq_true q68
 refine sg<|Pl 2<|nt<|rt<|tr<|rr (.tuple #[.slice none 0 0,.int .i64 1])<|?_
 have hs:pduW dir M=none:=by
   unfold pduW
   (try simp only [q15,q68,bs,if_true,if_false,decide_true,decide_false,hkf,famW,hwr,reduceIte])
   all_goals rfl
 refine ns_eq hs ?_
 exact ⟨rfl,U67⟩
 have q68p:=of_decide_eq_false q68
 refine skn<|sg<|Pl 1<|?_
 have r69:=ub hu58 r47
 refine L0<|Olb r69 0<|L0<|Olt (m:=1) (e:=5) #[.int .u8 M.code] fun g70 w71 hg72 B73 hu74=>?_
 have ow75:=litB hg72 (xs:=[M.code]) (by as_aux_lemma=>kernel_rfl) (rng_cons (by omega) rng_nil) (by (try simp only [List.length_cons,List.length_nil]); omega) B73
 refine Pl 1<|?_
 have r76:=own_stay rd66 hu74 (fun x hx=>not0) (fun _ _ h=>h)
 refine L0<|Oapp one_u8 (xs:=([M.code])) (ys:=lw) (.int .u8 0) 1 ow75 (r76).rd (by (try simp only [List.length_append,List.length_cons,List.length_nil,putW_length]); omega) hu74.size fun A77 cp78 w79 ho80 hu81=>Pl 2<|nt<|rt<|rr (.tuple #[.slice A77 (([M.code]++lw).length) cp78,.int .i64 0])<|?_
 have hs:pduW dir M=(some ([M.code]++lw)):=by
   unfold pduW
   (try simp only [q15,q68,bs,if_true,if_false,decide_true,decide_false,hkf,famW,hwr,reduceIte])
   all_goals rfl
 refine ns_eq hs ?_
 have U82:=ut0 U67 hu74
 have U83:=ut U82 hu81 (all_app (ob_new ow75 U67.size) all0)
 exact ⟨_,rfl,(OwnG.weaken ho80 U67.size),U83⟩
 have ho84:=of_any (x:=M.code) (w:=w11)
 rw [hkf] at ho84
 refine L0<|Oc<|m1 ho84 fun w85 hu86=>Pl 3<|L0<|Oal #[.nilFunc,.nilFunc] fun g87 w88 hg89 B90 hu91=>L0<|Osw B90 #[.func (.func 60) #[] #[],.func (.func 61) #[] #[]] fun w92 B93 hu94=>Pl 1<|nt<|sq<|sg<|Pl 2<|nt<|c0<|?_
 refine skn<|sg<|Pl 1<|L0<|Olb B93 1<|Pl 1<|?_
 have U95:=ut0 hu86 hu91
 have U96:=u1 U95 hu94 (ni hu86.size hg89)
 have r97:=ub U96 B13
 refine L0<|Olw r97<|?_
 have U98:=ut0 hu14 hu86
 have U99:=ut0 U98 hu91
 have U100:=u1 U99 hu94 (ni U98.size hg89)
 rcases hwr:writeOf parseRegs regsLay dir M with _ | lw
 have r104:=MsgRd.old hM U100
 have hw101:=regs_write (dir:=dir) r104 hf (fam_len hf dir).2.1
 rw [hwr] at hw101
 refine L0<|Ocv #[] #[] (args:=#[.int .i64 dir,.agg (mG M.code M.fail M.addr M.count M.value M.and_ M.or_ M.addr2 M.sub M.status M.events M.messages (.slice Aw M.words.length kw) (.slice Ab M.bits.length kb) (.slice Ad M.data.length kd) (.slice Ar M.recs.length kr) M.mei M.kind M.level M.more M.next (.slice Ao M.objects.length ko))])<|m1 hw101 fun w102 hu103=>Pl 5<|nt<|sq<|sg<|Pl 7<|nt<|c1<|sg<|Pl 2<|nl<|?_
 refine tn<|rt<|tr<|rr (.tuple #[.slice none 0 0,.int .i64 1])<|?_
 have hs:pduW dir M=none:=by
   unfold pduW
   (try simp only [q15,bs,if_true,if_false,decide_true,decide_false,hkf,famW,hwr,reduceIte])
   all_goals rfl
 refine ns_eq hs ?_
 have U105:=ut0 U100 hu103
 exact ⟨rfl,U105⟩
 have r109:=MsgRd.old hM U100
 have hw106:=regs_write (dir:=dir) r109 hf (fam_len hf dir).2.1
 rw [hwr] at hw106
 refine L0<|Ocv #[] #[] (args:=#[.int .i64 dir,.agg (mG M.code M.fail M.addr M.count M.value M.and_ M.or_ M.addr2 M.sub M.status M.events M.messages (.slice Aw M.words.length kw) (.slice Ab M.bits.length kb) (.slice Ad M.data.length kd) (.slice Ar M.recs.length kr) M.mei M.kind M.level M.more M.next (.slice Ao M.objects.length ko))])<|so2 hw106 fun A112 cp113 w107 rd116 hl114 hm115 hu108=>Pl 5<|nt<|sq<|sg<|Pl 7<|nt<|?_
 have U117:=ut0 U100 hu108
 refine cb ((decide (253≤((lw.length:Nat) : Int)))) (fun q118=>?_) (fun q118=>?_)
 have q118p:=of_decide_eq_true q118
 refine sg<|Pl 2<|nt<|rt<|tr<|rr (.tuple #[.slice none 0 0,.int .i64 1])<|?_
 have hs:pduW dir M=none:=by
   unfold pduW
   (try simp only [q15,q118,bs,if_true,if_false,decide_true,decide_false,hkf,famW,hwr,reduceIte])
   all_goals rfl
 refine ns_eq hs ?_
 exact ⟨rfl,U117⟩
 have q118p:=of_decide_eq_false q118
 refine skn<|sg<|Pl 1<|?_
 have r119:=ub hu108 r97
 refine L0<|Olb r119 0<|L0<|Olt (m:=1) (e:=5) #[.int .u8 M.code] fun g120 w121 hg122 B123 hu124=>?_
 have ow125:=litB hg122 (xs:=[M.code]) (by as_aux_lemma=>kernel_rfl) (rng_cons (by omega) rng_nil) (by (try simp only [List.length_cons,List.length_nil]); omega) B123
 refine Pl 1<|?_
 have r126:=own_stay rd116 hu124 (fun x hx=>not0) (fun _ _ h=>h)
 refine L0<|Oapp one_u8 (xs:=([M.code])) (ys:=lw) (.int .u8 0) 1 ow125 (r126).rd (by (try simp only [List.length_append,List.length_cons,List.length_nil,putW_length]); omega) hu124.size fun A127 cp128 w129 ho130 hu131=>Pl 2<|nt<|rt<|rr (.tuple #[.slice A127 (([M.code]++lw).length) cp128,.int .i64 0])<|?_
 have hs:pduW dir M=(some ([M.code]++lw)):=by
   unfold pduW
   (try simp only [q15,q118,bs,if_true,if_false,decide_true,decide_false,hkf,famW,hwr,reduceIte])
   all_goals rfl
 refine ns_eq hs ?_
 have U132:=ut0 U117 hu124
 have U133:=ut U132 hu131 (all_app (ob_new ow125 U117.size) all0)
 exact ⟨_,rfl,(OwnG.weaken ho130 U117.size),U133⟩
 have ho134:=of_any (x:=M.code) (w:=w11)
 rw [hkf] at ho134
 refine L0<|Oc<|m1 ho134 fun w135 hu136=>Pl 3<|L0<|Oal #[.nilFunc,.nilFunc] fun g137 w138 hg139 B140 hu141=>L0<|Osw B140 #[.func (.func 62) #[] #[],.func (.func 63) #[] #[]] fun w142 B143 hu144=>Pl 1<|nt<|sq<|sg<|Pl 2<|nt<|c0<|?_
 refine skn<|sg<|Pl 1<|L0<|Olb B143 1<|Pl 1<|?_
 have U145:=ut0 hu136 hu141
 have U146:=u1 U145 hu144 (ni hu136.size hg139)
 have r147:=ub U146 B13
 refine L0<|Olw r147<|?_
 have U148:=ut0 hu14 hu136
 have U149:=ut0 U148 hu141
 have U150:=u1 U149 hu144 (ni U148.size hg139)
 rcases hwr:writeOf parseDiag diagLay dir M with _ | lw
 have r154:=MsgRd.old hM U150
 have hw151:=diag_write (dir:=dir) r154 hf (fam_len hf dir).2.2.1
 rw [hwr] at hw151
 refine L0<|Ocv #[] #[] (args:=#[.int .i64 dir,.agg (mG M.code M.fail M.addr M.count M.value M.and_ M.or_ M.addr2 M.sub M.status M.events M.messages (.slice Aw M.words.length kw) (.slice Ab M.bits.length kb) (.slice Ad M.data.length kd) (.slice Ar M.recs.length kr) M.mei M.kind M.level M.more M.next (.slice Ao M.objects.length ko))])<|m1 hw151 fun w152 hu153=>Pl 5<|nt<|sq<|sg<|Pl 7<|nt<|c1<|sg<|Pl 2<|nl<|?_
 refine tn<|rt<|tr<|rr (.tuple #[.slice none 0 0,.int .i64 1])<|?_
 have hs:pduW dir M=none:=by
   unfold pduW
   (try simp only [q15,bs,if_true,if_false,decide_true,decide_false,hkf,famW,hwr,reduceIte])
   all_goals rfl
 refine ns_eq hs ?_
 have U155:=ut0 U150 hu153
 exact ⟨rfl,U155⟩
 have r159:=MsgRd.old hM U150
 have hw156:=diag_write (dir:=dir) r159 hf (fam_len hf dir).2.2.1
 rw [hwr] at hw156
 refine L0<|Ocv #[] #[] (args:=#[.int .i64 dir,.agg (mG M.code M.fail M.addr M.count M.value M.and_ M.or_ M.addr2 M.sub M.status M.events M.messages (.slice Aw M.words.length kw) (.slice Ab M.bits.length kb) (.slice Ad M.data.length kd) (.slice Ar M.recs.length kr) M.mei M.kind M.level M.more M.next (.slice Ao M.objects.length ko))])<|so2 hw156 fun A162 cp163 w157 rd166 hl164 hm165 hu158=>Pl 5<|nt<|sq<|sg<|Pl 7<|nt<|?_
 have U167:=ut0 U150 hu158
 refine cb ((decide (253≤((lw.length:Nat) : Int)))) (fun q168=>?_) (fun q168=>?_)
 have q168p:=of_decide_eq_true q168
 refine sg<|Pl 2<|nt<|rt<|tr<|rr (.tuple #[.slice none 0 0,.int .i64 1])<|?_
 have hs:pduW dir M=none:=by
   unfold pduW
   (try simp only [q15,q168,bs,if_true,if_false,decide_true,decide_false,hkf,famW,hwr,reduceIte])
   all_goals rfl
 refine ns_eq hs ?_
 exact ⟨rfl,U167⟩
 have q168p:=of_decide_eq_false q168
 refine skn<|sg<|Pl 1<|?_
 have r169:=ub hu158 r147
 refine L0<|Olb r169 0<|L0<|Olt (m:=1) (e:=5) #[.int .u8 M.code] fun g170 w171 hg172 B173 hu174=>?_
 have ow175:=litB hg172 (xs:=[M.code]) (by as_aux_lemma=>kernel_rfl) (rng_cons (by omega) rng_nil) (by (try simp only [List.length_cons,List.length_nil]); omega) B173
 refine Pl 1<|?_
 have r176:=own_stay rd166 hu174 (fun x hx=>not0) (fun _ _ h=>h)
 refine L0<|Oapp one_u8 (xs:=([M.code])) (ys:=lw) (.int .u8 0) 1 ow175 (r176).rd (by (try simp only [List.length_append,List.length_cons,List.length_nil,putW_length]); omega) hu174.size fun A177 cp178 w179 ho180 hu181=>Pl 2<|nt<|rt<|rr (.tuple #[.slice A177 (([M.code]++lw).length) cp178,.int .i64 0])<|?_
 have hs:pduW dir M=(some ([M.code]++lw)):=by
   unfold pduW
   (try simp only [q15,q168,bs,if_true,if_false,decide_true,decide_false,hkf,famW,hwr,reduceIte])
   all_goals rfl
 refine ns_eq hs ?_
 have U182:=ut0 U167 hu174
 have U183:=ut U182 hu181 (all_app (ob_new ow175 U167.size) all0)
 exact ⟨_,rfl,(OwnG.weaken ho180 U167.size),U183⟩
 have ho184:=of_any (x:=M.code) (w:=w11)
 rw [hkf] at ho184
 refine L0<|Oc<|m1 ho184 fun w185 hu186=>Pl 3<|L0<|Oal #[.nilFunc,.nilFunc] fun g187 w188 hg189 B190 hu191=>L0<|Osw B190 #[.func (.func 64) #[] #[],.func (.func 65) #[] #[]] fun w192 B193 hu194=>Pl 1<|nt<|sq<|sg<|Pl 2<|nt<|c0<|?_
 refine skn<|sg<|Pl 1<|L0<|Olb B193 1<|Pl 1<|?_
 have U195:=ut0 hu186 hu191
 have U196:=u1 U195 hu194 (ni hu186.size hg189)
 have r197:=ub U196 B13
 refine L0<|Olw r197<|?_
 have U198:=ut0 hu14 hu186
 have U199:=ut0 U198 hu191
 have U200:=u1 U199 hu194 (ni U198.size hg189)
 rcases hwr:writeOf parseFiles filesLay dir M with _ | lw
 have r204:=MsgRd.old hM U200
 have hw201:=files_write (dir:=dir) r204 hf (fam_len hf dir).2.2.2.2
 rw [hwr] at hw201
 refine L0<|Ocv #[] #[] (args:=#[.int .i64 dir,.agg (mG M.code M.fail M.addr M.count M.value M.and_ M.or_ M.addr2 M.sub M.status M.events M.messages (.slice Aw M.words.length kw) (.slice Ab M.bits.length kb) (.slice Ad M.data.length kd) (.slice Ar M.recs.length kr) M.mei M.kind M.level M.more M.next (.slice Ao M.objects.length ko))])<|m1 hw201 fun w202 hu203=>Pl 5<|nt<|sq<|sg<|Pl 7<|nt<|c1<|sg<|Pl 2<|nl<|?_
 refine tn<|rt<|tr<|rr (.tuple #[.slice none 0 0,.int .i64 1])<|?_
 have hs:pduW dir M=none:=by
   unfold pduW
   (try simp only [q15,bs,if_true,if_false,decide_true,decide_false,hkf,famW,hwr,reduceIte])
   all_goals rfl
 refine ns_eq hs ?_
 have U205:=ut0 U200 hu203
 exact ⟨rfl,U205⟩
 have r209:=MsgRd.old hM U200
 have hw206:=files_write (dir:=dir) r209 hf (fam_len hf dir).2.2.2.2
 rw [hwr] at hw206
 refine L0<|Ocv #[] #[] (args:=#[.int .i64 dir,.agg (mG M.code M.fail M.addr M.count M.value M.and_ M.or_ M.addr2 M.sub M.status M.events M.messages (.slice Aw M.words.length kw) (.slice Ab M.bits.length kb) (.slice Ad M.data.length kd) (.slice Ar M.recs.length kr) M.mei M.kind M.level M.more M.next (.slice Ao M.objects.length ko))])<|so2 hw206 fun A212 cp213 w207 rd216 hl214 hm215 hu208=>Pl 5<|nt<|sq<|sg<|Pl 7<|nt<|?_
 have U217:=ut0 U200 hu208
 refine cb ((decide (253≤((lw.length:Nat) : Int)))) (fun q218=>?_) (fun q218=>?_)
 have q218p:=of_decide_eq_true q218
 refine sg<|Pl 2<|nt<|rt<|tr<|rr (.tuple #[.slice none 0 0,.int .i64 1])<|?_
 have hs:pduW dir M=none:=by
   unfold pduW
   (try simp only [q15,q218,bs,if_true,if_false,decide_true,decide_false,hkf,famW,hwr,reduceIte])
   all_goals rfl
 refine ns_eq hs ?_
 exact ⟨rfl,U217⟩
 have q218p:=of_decide_eq_false q218
 refine skn<|sg<|Pl 1<|?_
 have r219:=ub hu208 r197
 refine L0<|Olb r219 0<|L0<|Olt (m:=1) (e:=5) #[.int .u8 M.code] fun g220 w221 hg222 B223 hu224=>?_
 have ow225:=litB hg222 (xs:=[M.code]) (by as_aux_lemma=>kernel_rfl) (rng_cons (by omega) rng_nil) (by (try simp only [List.length_cons,List.length_nil]); omega) B223
 refine Pl 1<|?_
 have r226:=own_stay rd216 hu224 (fun x hx=>not0) (fun _ _ h=>h)
 refine L0<|Oapp one_u8 (xs:=([M.code])) (ys:=lw) (.int .u8 0) 1 ow225 (r226).rd (by (try simp only [List.length_append,List.length_cons,List.length_nil,putW_length]); omega) hu224.size fun A227 cp228 w229 ho230 hu231=>Pl 2<|nt<|rt<|rr (.tuple #[.slice A227 (([M.code]++lw).length) cp228,.int .i64 0])<|?_
 have hs:pduW dir M=(some ([M.code]++lw)):=by
   unfold pduW
   (try simp only [q15,q218,bs,if_true,if_false,decide_true,decide_false,hkf,famW,hwr,reduceIte])
   all_goals rfl
 refine ns_eq hs ?_
 have U232:=ut0 U217 hu224
 have U233:=ut U232 hu231 (all_app (ob_new ow225 U217.size) all0)
 exact ⟨_,rfl,(OwnG.weaken ho230 U217.size),U233⟩
 have ho234:=of_any (x:=M.code) (w:=w11)
 rw [hkf] at ho234
 refine L0<|Oc<|m1 ho234 fun w235 hu236=>Pl 3<|L0<|Oal #[.nilFunc,.nilFunc] fun g237 w238 hg239 B240 hu241=>L0<|Osw B240 #[.func (.func 66) #[] #[],.func (.func 67) #[] #[]] fun w242 B243 hu244=>Pl 1<|nt<|sq<|sg<|Pl 2<|nt<|c0<|?_
 refine skn<|sg<|Pl 1<|L0<|Olb B243 1<|Pl 1<|?_
 have U245:=ut0 hu236 hu241
 have U246:=u1 U245 hu244 (ni hu236.size hg239)
 have r247:=ub U246 B13
 refine L0<|Olw r247<|?_
 have U248:=ut0 hu14 hu236
 have U249:=ut0 U248 hu241
 have U250:=u1 U249 hu244 (ni U248.size hg239)
 rcases hwr:writeOf parseMei meiLay dir M with _ | lw
 have r254:=MsgRd.old hM U250
 have hw251:=mei_write (dir:=dir) r254 hf (fam_len hf dir).2.2.2.1
 rw [hwr] at hw251
 refine L0<|Ocv #[] #[] (args:=#[.int .i64 dir,.agg (mG M.code M.fail M.addr M.count M.value M.and_ M.or_ M.addr2 M.sub M.status M.events M.messages (.slice Aw M.words.length kw) (.slice Ab M.bits.length kb) (.slice Ad M.data.length kd) (.slice Ar M.recs.length kr) M.mei M.kind M.level M.more M.next (.slice Ao M.objects.length ko))])<|m1 hw251 fun w252 hu253=>Pl 5<|nt<|sq<|sg<|Pl 7<|nt<|c1<|sg<|Pl 2<|nl<|?_
 refine tn<|rt<|tr<|rr (.tuple #[.slice none 0 0,.int .i64 1])<|?_
 have hs:pduW dir M=none:=by
   unfold pduW
   (try simp only [q15,bs,if_true,if_false,decide_true,decide_false,hkf,famW,hwr,reduceIte])
   all_goals rfl
 refine ns_eq hs ?_
 have U255:=ut0 U250 hu253
 exact ⟨rfl,U255⟩
 have r259:=MsgRd.old hM U250
 have hw256:=mei_write (dir:=dir) r259 hf (fam_len hf dir).2.2.2.1
 rw [hwr] at hw256
 refine L0<|Ocv #[] #[] (args:=#[.int .i64 dir,.agg (mG M.code M.fail M.addr M.count M.value M.and_ M.or_ M.addr2 M.sub M.status M.events M.messages (.slice Aw M.words.length kw) (.slice Ab M.bits.length kb) (.slice Ad M.data.length kd) (.slice Ar M.recs.length kr) M.mei M.kind M.level M.more M.next (.slice Ao M.objects.length ko))])<|so2 hw256 fun A262 cp263 w257 rd266 hl264 hm265 hu258=>Pl 5<|nt<|sq<|sg<|Pl 7<|nt<|?_
 have U267:=ut0 U250 hu258
 refine cb ((decide (253≤((lw.length:Nat) : Int)))) (fun q268=>?_) (fun q268=>?_)
 have q268p:=of_decide_eq_true q268
 refine sg<|Pl 2<|nt<|rt<|tr<|rr (.tuple #[.slice none 0 0,.int .i64 1])<|?_
 have hs:pduW dir M=none:=by
   unfold pduW
   (try simp only [q15,q268,bs,if_true,if_false,decide_true,decide_false,hkf,famW,hwr,reduceIte])
   all_goals rfl
 refine ns_eq hs ?_
 exact ⟨rfl,U267⟩
 have q268p:=of_decide_eq_false q268
 refine skn<|sg<|Pl 1<|?_
 have r269:=ub hu258 r247
 refine L0<|Olb r269 0<|L0<|Olt (m:=1) (e:=5) #[.int .u8 M.code] fun g270 w271 hg272 B273 hu274=>?_
 have ow275:=litB hg272 (xs:=[M.code]) (by as_aux_lemma=>kernel_rfl) (rng_cons (by omega) rng_nil) (by (try simp only [List.length_cons,List.length_nil]); omega) B273
 refine Pl 1<|?_
 have r276:=own_stay rd266 hu274 (fun x hx=>not0) (fun _ _ h=>h)
 refine L0<|Oapp one_u8 (xs:=([M.code])) (ys:=lw) (.int .u8 0) 1 ow275 (r276).rd (by (try simp only [List.length_append,List.length_cons,List.length_nil,putW_length]); omega) hu274.size fun A277 cp278 w279 ho280 hu281=>Pl 2<|nt<|rt<|rr (.tuple #[.slice A277 (([M.code]++lw).length) cp278,.int .i64 0])<|?_
 have hs:pduW dir M=(some ([M.code]++lw)):=by
   unfold pduW
   (try simp only [q15,q268,bs,if_true,if_false,decide_true,decide_false,hkf,famW,hwr,reduceIte])
   all_goals rfl
 refine ns_eq hs ?_
 have U282:=ut0 U267 hu274
 have U283:=ut U282 hu281 (all_app (ob_new ow275 U267.size) all0)
 exact ⟨_,rfl,(OwnG.weaken ho280 U267.size),U283⟩
 have ho284:=of_any (x:=M.code) (w:=w11)
 rw [hkf] at ho284
 refine L0<|Oc<|m1 ho284 fun w285 hu286=>Pl 3<|L0<|Oal #[.nilFunc,.nilFunc] fun g287 w288 hg289 B290 hu291=>L0<|Osw B290 #[.nilFunc,.nilFunc] fun w292 B293 hu294=>Pl 1<|nt<|sq<|sg<|Pl 2<|nt<|c1<|?_
 refine sg<|Pl 2<|nt<|rt<|tr<|rr (.tuple #[.slice none 0 0,.int .i64 1])<|?_
 have hs:pduW dir M=none:=by
   unfold pduW
   (try simp only [q15,bs,if_true,if_false,decide_true,decide_false,hkf,famW,reduceIte])
   all_goals rfl
 refine ns_eq hs ?_
 have U295:=ut0 hu14 hu286
 have U296:=ut0 U295 hu291
 have U297:=u1 U296 hu294 (ni U295.size hg289)
 exact ⟨rfl,U297⟩
open Go.RowKit
theorem pm_eq {x y:Msg × Int} (h:x=y) {w:World} {e:Ending} {w':World} (k:PMsg y w e w') : PMsg x w e w':=by rw [h]; exact k
def famP:Nat→Int→List Int→Msg × Int
  | 1,dir,b=>parseOf coilsForm dir (b.getD 0 0) (b.drop 1)
  | 2,dir,b=>parseOf regsForm dir (b.getD 0 0) (b.drop 1)
  | 3,dir,b=>parseOf diagForm dir (b.getD 0 0) (b.drop 1)
  | 4,dir,b=>parseOf filesForm dir (b.getD 0 0) (b.drop 1)
  | 5,dir,b=>parseOf meiForm dir (b.getD 0 0) (b.drop 1)
  | _,_,_=>(Msg.zero,4)
def pduP (dir:Int) (b:List Int) : Msg × Int :=
  if dir != 0 && dir != 1 then (Msg.zero,1)
  else if (b.length:Int) == 0 then (Msg.zero,2)
  else if decide (253 < (b.length:Int)) then (Msg.zero,3)
  else if decide (128≤b.getD 0 0) && dir == 1 then refP b
  else famP (cfam (b.getD 0 0)) dir b
set_option maxRecDepth 100000 in
set_option maxHeartbeats 4000000 in
theorem pdu_parse0 {m:Bool} {A:Option Addr} {cp:Nat} {b:List Int} {w:World} {dir:Int} (hsl:RdB m w (.slice A b.length cp) b) (hb:b.length≤1048576) :
    Calls Tryz.prog 162 #[.int .i64 dir,.slice A b.length cp] w (PMsg (pduP dir b) w):=by
 have hln:(b.length:Int)≤1048576:=by omega
 refine en 60 Tryz.func162 rfl<|sg<|L0<|Oal mZ fun g10 w11 hg12 B13 hu14=>Pl 1<|nt<|sq<|bk<|sg<|Pl 3<|cu 3 [11] 14 (((dir != 0) && (dir != 1))) (fun K K16=>?_) ?_
 refine bl 11 ((dir != 0)) (fun q15=>?_) (fun q15=>?_)
 have q15p:=ne_of_bnei q15
 exact Pl 3<|ce K16 (dir != 1) (by rw [q15]; rfl)
 have q15p:=eq_of_bnei q15
 exact Pl 3<|ce K16 false (by rw [q15]; rfl)
 refine Pl 1<|nt<|cb (((dir != 0) && (dir != 1))) (fun q17=>?_) (fun q17=>?_)
 have q17a:=(and_t q17).1
 have q17b:=(and_t q17).2
 have q17ap:=ne_of_bnei q17a
 have q17bp:=ne_of_bnei q17b
 refine sg<|Pl 1<|L0<|Osw B13 mZ fun w18 B19 hu20=>Pl 1<|nt<|rt<|br<|tr<|rct B19 (.int .i64 1)<|?_
 have hs:pduP dir b=(Msg.zero,1):=by
   unfold pduP
   (try simp only [q17,q17a,q17b,bs,if_true,if_false,decide_true,decide_false,famP,reduceIte])
   all_goals rfl
 refine pm_eq hs ?_
 have U21:=u1 hu14 hu20 (nr hg12)
 exact bad_res U21
 refine sg<|Pl 4<|nt<|cb ((((b.length:Nat) : Int) == 0)) (fun q22=>?_) (fun q22=>?_)
 have q22p:=eq_of_beqi q22
 refine sg<|Pl 1<|L0<|Osw B13 mZ fun w23 B24 hu25=>Pl 1<|nt<|rt<|br<|tr<|rct B24 (.int .i64 2)<|?_
 have hs:pduP dir b=(Msg.zero,2):=by
   unfold pduP
   (try simp only [q17,q22,bs,if_true,if_false,decide_true,decide_false,famP,reduceIte])
   all_goals rfl
 refine pm_eq hs ?_
 have U26:=u1 hu14 hu25 (nr hg12)
 exact bad_res U26
 have q22p:=ne_of_beqi q22
 refine sg<|Pl 4<|nt<|cb ((decide (253 < ((b.length:Nat) : Int)))) (fun q27=>?_) (fun q27=>?_)
 have q27p:=of_decide_eq_true q27
 refine sg<|Pl 1<|L0<|Osw B13 mZ fun w28 B29 hu30=>Pl 1<|nt<|rt<|br<|tr<|rct B29 (.int .i64 3)<|?_
 have hs:pduP dir b=(Msg.zero,3):=by
   unfold pduP
   (try simp only [q17,q22,q27,bs,if_true,if_false,decide_true,decide_false,famP,reduceIte])
   all_goals rfl
 refine pm_eq hs ?_
 have U31:=u1 hu14 hu30 (nr hg12)
 exact bad_res U31
 have q27p:=of_decide_eq_false q27
 refine sg<|Pl 1<|?_
 have r32:=RdB.old hsl hu14
 refine x23 (RdB.at_ r32 0 (by omega)) fun b33 o34 hA35 hl36 hr37=>L0<|Oix b.length 0 hA35 (by omega)<|L0<|Old (p:=⟨b33,o34 + 0,none⟩) (v:=.int .u8 (b.getD 0 0)) hl36<|Pl 2<|cu 3 [31] 34 (((decide (128≤(b.getD 0 0))) && (dir == 1))) (fun K K39=>?_) ?_
 refine bl 31 ((decide (128≤(b.getD 0 0)))) (fun q38=>?_) (fun q38=>?_)
 have q38p:=of_decide_eq_true q38
 exact Pl 3<|ce K39 (dir == 1) (by rw [q38]; rfl)
 have q38p:=of_decide_eq_false q38
 exact Pl 3<|ce K39 false (by rw [q38]; rfl)
 refine Pl 1<|nt<|cb (((decide (128≤(b.getD 0 0))) && (dir == 1))) (fun q40=>?_) (fun q40=>?_)
 have q40a:=(and_t q40).1
 have q40b:=(and_t q40).2
 have q40ap:=of_decide_eq_true q40a
 have q40bp:=eq_of_beqi q40b
 refine sg<|Pl 1<|L0<|Oc<|e2 (ref_parse r32 (by omega)) fun cs42 w41 hM43 hu44=>Pl 2<|?_
 have r45:=ub hu44 B13
 refine L0<|Osw (hz:=(by rw [hM43.size]; exact msg_size)) (hv:=hM43.size) (h1:=hM43.one) r45 (cs42) fun w46 B47 hu48=>Pl 1<|nt<|rt<|br<|tr<|rctx 22 hM43.size B47 (.int .i64 (((refP b)).2))<|?_
 have hs:pduP dir b=(refP b):=by
   unfold pduP
   (try simp only [q17,q22,q27,q40,q40a,q40b,bs,if_true,if_false,decide_true,decide_false,famP,reduceIte])
   all_goals rfl
 refine pm_eq hs ?_
 have r49:=MsgRd.upd hM43 hu48 (safe_cons (safe1 r45 (by decide)) safe0)
 have U50:=ut0 hu14 hu44
 have U51:=u1 U50 hu48 (nr hg12)
 exact ⟨_,rfl,r49,U51⟩
 refine sk<|bn<|tn<|sg<|Pl 1<|L0<|Oix b.length 0 hA35 (by omega)<|L0<|Old (p:=⟨b33,o34 + 0,none⟩) (v:=.int .u8 (b.getD 0 0)) hl36<|?_
 rcases cfam_dich (b.getD 0 0) with ⟨hk,hkf⟩ | ⟨hk,hkf⟩ | ⟨hk,hkf⟩ | ⟨hk,hkf⟩ | ⟨hk,hkf⟩ | ⟨hk,hkf⟩
 have ho52:=of_any (x:=(b.getD 0 0)) (w:=w11)
 rw [hkf] at ho52
 refine L0<|Oc<|m1 ho52 fun w53 hu54=>Pl 3<|L0<|Oal #[.nilFunc,.nilFunc] fun g55 w56 hg57 B58 hu59=>L0<|Osw B58 #[.func (.func 58) #[] #[],.func (.func 59) #[] #[]] fun w60 B61 hu62=>Pl 1<|nt<|sq<|sg<|Pl 2<|nt<|c0<|?_
 refine skn<|sq<|?_
 have U83:=ut0 hu54 hu59
 have U84:=u1 U83 hu62 (ni hu54.size hg57)
 have r85:=RdB.old r32 U84
 refine x23 (RdB.at_ r85 0 (by omega)) fun b86 o87 hA88 hl89 hr90=>Rg 13 (fun w'=>w'.cell? ⟨g55,0,none⟩=some (.func (.func 58) #[] #[])∧w'.cell? ⟨b86,o87 + 0,none⟩=some (.int .u8 (b.getD 0 0))) fun w103 hu104=>?_
 have r106:=ub hu104 B61
 refine hld ⟨(blk_at r106 rfl),(uc hu104 hl89)⟩ fun hS105=>Rt 0 hS105<|Rl 1 hS105 (fun _ hs=>hs.1)<|Rt 2 hS105<|Rt 3 hS105<|Ri1 4 hS105 b.length 0 0 rfl hA88 (by omega)<|Rl 5 hS105 (fun _ hs=>hs.2)<|Rt 6 hS105<|x12 (cut_from (P:=Tryz.prog) 27 5 1 Tryz.underlying27 rfl rfl A b.length cp 1 (by omega)) fun A107 hrun108 hrd109=>?_
 have r110:=RdB.old r85 hu104
 refine Rr 7 hS105 (.slice A107 (b.length - 1) (cp - 1)) (fun _ _=>run_cutf (kl:=.i64) (k:=((1:Nat) : Int)) (A:=A) (n:=b.length) (c:=cp) rfl Tryz.underlying27 (by kernel_rfl) (by kernel_rfl) (hrun108 _ _))<|R0 8 rfl<|Ocv #[] #[] (args:=#[.int .i64 dir,.int .u8 (b.getD 0 0),.slice A107 (b.length - 1) (cp - 1)])<|e2 (coils_parse (dir:=dir) (c:=(b.getD 0 0)) (b8 (by omega)) (hrd109 _ _ _ _ _ r110) (by (try simp only [List.length_drop]); omega)) fun cs112 w111 hM113 hu114=>?_
 have r116:=ub hu114 r106
 have U117:=ut0 hu104 hu114
 refine hld ⟨(blk_at r116 rfl),(uc U117 hl89)⟩ fun hS115=>Rt 9 hS115<|Rt 10 hS115<|?_
 have U118:=ut0 U84 hu104
 have U119:=ut0 U118 hu114
 have r120:=ub U119 B13
 refine R0 11 rfl<|Osw (hz:=(by rw [hM113.size]; exact msg_size)) (hv:=hM113.size) (h1:=hM113.one) r120 (cs112) fun w121 B122 hu123=>?_
 have ne125:=nb (blk_lt B13) hu54.size hg57
 have r126:=ub1 hu123 (Ne.symm ne125) r116
 have U127:=u1 (Upd.mono (S':=[g10]) U117 all0) hu123 im
 have U128:=u1 (Upd.mono (S':=[g10]) hu114 all0) hu123 im
 have U129:=u1 (Upd.mono (S':=[g10]) U119 all0) hu123 im
 have U130:=ut0 hu14 hu54
 have U131:=ut0 U130 hu59
 have U132:=u1 U131 hu62 (ni U130.size hg57)
 have U133:=ut0 U132 hu104
 have U134:=ut0 U133 hu114
 have U135:=u1 U134 hu123 (nr hg12)
 have r136:=RdB.old hsl U135
 refine hld ⟨(blk_at r126 rfl),(cB r136 hA88 0 (by omega))⟩ fun hS124=>Rt 12 hS124<|re<|tn<|rt<|rctx 22 hM113.size B122 (.int .i64 (((parseOf coilsForm dir (b.getD 0 0) (b.drop 1))).2))<|?_
 have hs:pduP dir b=(parseOf coilsForm dir (b.getD 0 0) (b.drop 1)):=by
   unfold pduP
   (try simp only [q17,q22,q27,q40,bs,if_true,if_false,decide_true,decide_false,hkf,famP,reduceIte])
   all_goals rfl
 refine pm_eq hs ?_
 have r137:=MsgRd.upd hM113 hu123 (safe_cons (safe1 r120 (by decide)) safe0)
 exact ⟨_,rfl,r137,U135⟩
 have ho138:=of_any (x:=(b.getD 0 0)) (w:=w11)
 rw [hkf] at ho138
 refine L0<|Oc<|m1 ho138 fun w139 hu140=>Pl 3<|L0<|Oal #[.nilFunc,.nilFunc] fun g141 w142 hg143 B144 hu145=>L0<|Osw B144 #[.func (.func 60) #[] #[],.func (.func 61) #[] #[]] fun w146 B147 hu148=>Pl 1<|nt<|sq<|sg<|Pl 2<|nt<|c0<|?_
 refine skn<|sq<|?_
 have U169:=ut0 hu140 hu145
 have U170:=u1 U169 hu148 (ni hu140.size hg143)
 have r171:=RdB.old r32 U170
 refine x23 (RdB.at_ r171 0 (by omega)) fun b172 o173 hA174 hl175 hr176=>Rg 13 (fun w'=>w'.cell? ⟨g141,0,none⟩=some (.func (.func 60) #[] #[])∧w'.cell? ⟨b172,o173 + 0,none⟩=some (.int .u8 (b.getD 0 0))) fun w189 hu190=>?_
 have r192:=ub hu190 B147
 refine hld ⟨(blk_at r192 rfl),(uc hu190 hl175)⟩ fun hS191=>Rt 0 hS191<|Rl 1 hS191 (fun _ hs=>hs.1)<|Rt 2 hS191<|Rt 3 hS191<|Ri1 4 hS191 b.length 0 0 rfl hA174 (by omega)<|Rl 5 hS191 (fun _ hs=>hs.2)<|Rt 6 hS191<|x12 (cut_from (P:=Tryz.prog) 27 5 1 Tryz.underlying27 rfl rfl A b.length cp 1 (by omega)) fun A193 hrun194 hrd195=>?_
 have r196:=RdB.old r171 hu190
 refine Rr 7 hS191 (.slice A193 (b.length - 1) (cp - 1)) (fun _ _=>run_cutf (kl:=.i64) (k:=((1:Nat) : Int)) (A:=A) (n:=b.length) (c:=cp) rfl Tryz.underlying27 (by kernel_rfl) (by kernel_rfl) (hrun194 _ _))<|R0 8 rfl<|Ocv #[] #[] (args:=#[.int .i64 dir,.int .u8 (b.getD 0 0),.slice A193 (b.length - 1) (cp - 1)])<|e2 (regs_parse (dir:=dir) (c:=(b.getD 0 0)) (b8 (by omega)) (hrd195 _ _ _ _ _ r196) (by (try simp only [List.length_drop]); omega)) fun cs198 w197 hM199 hu200=>?_
 have r202:=ub hu200 r192
 have U203:=ut0 hu190 hu200
 refine hld ⟨(blk_at r202 rfl),(uc U203 hl175)⟩ fun hS201=>Rt 9 hS201<|Rt 10 hS201<|?_
 have U204:=ut0 U170 hu190
 have U205:=ut0 U204 hu200
 have r206:=ub U205 B13
 refine R0 11 rfl<|Osw (hz:=(by rw [hM199.size]; exact msg_size)) (hv:=hM199.size) (h1:=hM199.one) r206 (cs198) fun w207 B208 hu209=>?_
 have ne211:=nb (blk_lt B13) hu140.size hg143
 have r212:=ub1 hu209 (Ne.symm ne211) r202
 have U213:=u1 (Upd.mono (S':=[g10]) U203 all0) hu209 im
 have U214:=u1 (Upd.mono (S':=[g10]) hu200 all0) hu209 im
 have U215:=u1 (Upd.mono (S':=[g10]) U205 all0) hu209 im
 have U216:=ut0 hu14 hu140
 have U217:=ut0 U216 hu145
 have U218:=u1 U217 hu148 (ni U216.size hg143)
 have U219:=ut0 U218 hu190
 have U220:=ut0 U219 hu200
 have U221:=u1 U220 hu209 (nr hg12)
 have r222:=RdB.old hsl U221
 refine hld ⟨(blk_at r212 rfl),(cB r222 hA174 0 (by omega))⟩ fun hS210=>Rt 12 hS210<|re<|tn<|rt<|rctx 22 hM199.size B208 (.int .i64 (((parseOf regsForm dir (b.getD 0 0) (b.drop 1))).2))<|?_
 have hs:pduP dir b=(parseOf regsForm dir (b.getD 0 0) (b.drop 1)):=by
   unfold pduP
   (try simp only [q17,q22,q27,q40,bs,if_true,if_false,decide_true,decide_false,hkf,famP,reduceIte])
   all_goals rfl
 refine pm_eq hs ?_
 have r223:=MsgRd.upd hM199 hu209 (safe_cons (safe1 r206 (by decide)) safe0)
 exact ⟨_,rfl,r223,U221⟩
 have ho224:=of_any (x:=(b.getD 0 0)) (w:=w11)
 rw [hkf] at ho224
 refine L0<|Oc<|m1 ho224 fun w225 hu226=>Pl 3<|L0<|Oal #[.nilFunc,.nilFunc] fun g227 w228 hg229 B230 hu231=>L0<|Osw B230 #[.func (.func 62) #[] #[],.func (.func 63) #[] #[]] fun w232 B233 hu234=>Pl 1<|nt<|sq<|sg<|Pl 2<|nt<|c0<|?_
 refine skn<|sq<|?_
 have U255:=ut0 hu226 hu231
 have U256:=u1 U255 hu234 (ni hu226.size hg229)
 have r257:=RdB.old r32 U256
 refine x23 (RdB.at_ r257 0 (by omega)) fun b258 o259 hA260 hl261 hr262=>Rg 13 (fun w'=>w'.cell? ⟨g227,0,none⟩=some (.func (.func 62) #[] #[])∧w'.cell? ⟨b258,o259 + 0,none⟩=some (.int .u8 (b.getD 0 0))) fun w275 hu276=>?_
 have r278:=ub hu276 B233
 refine hld ⟨(blk_at r278 rfl),(uc hu276 hl261)⟩ fun hS277=>Rt 0 hS277<|Rl 1 hS277 (fun _ hs=>hs.1)<|Rt 2 hS277<|Rt 3 hS277<|Ri1 4 hS277 b.length 0 0 rfl hA260 (by omega)<|Rl 5 hS277 (fun _ hs=>hs.2)<|Rt 6 hS277<|x12 (cut_from (P:=Tryz.prog) 27 5 1 Tryz.underlying27 rfl rfl A b.length cp 1 (by omega)) fun A279 hrun280 hrd281=>?_
 have r282:=RdB.old r257 hu276
 refine Rr 7 hS277 (.slice A279 (b.length - 1) (cp - 1)) (fun _ _=>run_cutf (kl:=.i64) (k:=((1:Nat) : Int)) (A:=A) (n:=b.length) (c:=cp) rfl Tryz.underlying27 (by kernel_rfl) (by kernel_rfl) (hrun280 _ _))<|R0 8 rfl<|Ocv #[] #[] (args:=#[.int .i64 dir,.int .u8 (b.getD 0 0),.slice A279 (b.length - 1) (cp - 1)])<|e2 (diag_parse (dir:=dir) (c:=(b.getD 0 0)) (b8 (by omega)) (hrd281 _ _ _ _ _ r282) (by (try simp only [List.length_drop]); omega)) fun cs284 w283 hM285 hu286=>?_
 have r288:=ub hu286 r278
 have U289:=ut0 hu276 hu286
 refine hld ⟨(blk_at r288 rfl),(uc U289 hl261)⟩ fun hS287=>Rt 9 hS287<|Rt 10 hS287<|?_
 have U290:=ut0 U256 hu276
 have U291:=ut0 U290 hu286
 have r292:=ub U291 B13
 refine R0 11 rfl<|Osw (hz:=(by rw [hM285.size]; exact msg_size)) (hv:=hM285.size) (h1:=hM285.one) r292 (cs284) fun w293 B294 hu295=>?_
 have ne297:=nb (blk_lt B13) hu226.size hg229
 have r298:=ub1 hu295 (Ne.symm ne297) r288
 have U299:=u1 (Upd.mono (S':=[g10]) U289 all0) hu295 im
 have U300:=u1 (Upd.mono (S':=[g10]) hu286 all0) hu295 im
 have U301:=u1 (Upd.mono (S':=[g10]) U291 all0) hu295 im
 have U302:=ut0 hu14 hu226
 have U303:=ut0 U302 hu231
 have U304:=u1 U303 hu234 (ni U302.size hg229)
 have U305:=ut0 U304 hu276
 have U306:=ut0 U305 hu286
 have U307:=u1 U306 hu295 (nr hg12)
 have r308:=RdB.old hsl U307
 refine hld ⟨(blk_at r298 rfl),(cB r308 hA260 0 (by omega))⟩ fun hS296=>Rt 12 hS296<|re<|tn<|rt<|rctx 22 hM285.size B294 (.int .i64 (((parseOf diagForm dir (b.getD 0 0) (b.drop 1))).2))<|?_
 have hs:pduP dir b=(parseOf diagForm dir (b.getD 0 0) (b.drop 1)):=by
   unfold pduP
   (try simp only [q17,q22,q27,q40,bs,if_true,if_false,decide_true,decide_false,hkf,famP,reduceIte])
   all_goals rfl
 refine pm_eq hs ?_
 have r309:=MsgRd.upd hM285 hu295 (safe_cons (safe1 r292 (by decide)) safe0)
 exact ⟨_,rfl,r309,U307⟩
 have ho310:=of_any (x:=(b.getD 0 0)) (w:=w11)
 rw [hkf] at ho310
 refine L0<|Oc<|m1 ho310 fun w311 hu312=>Pl 3<|L0<|Oal #[.nilFunc,.nilFunc] fun g313 w314 hg315 B316 hu317=>L0<|Osw B316 #[.func (.func 64) #[] #[],.func (.func 65) #[] #[]] fun w318 B319 hu320=>Pl 1<|nt<|sq<|sg<|Pl 2<|nt<|c0<|?_
 refine skn<|sq<|?_
 have U341:=ut0 hu312 hu317
 have U342:=u1 U341 hu320 (ni hu312.size hg315)
 have r343:=RdB.old r32 U342
 refine x23 (RdB.at_ r343 0 (by omega)) fun b344 o345 hA346 hl347 hr348=>Rg 13 (fun w'=>w'.cell? ⟨g313,0,none⟩=some (.func (.func 64) #[] #[])∧w'.cell? ⟨b344,o345 + 0,none⟩=some (.int .u8 (b.getD 0 0))) fun w361 hu362=>?_
 have r364:=ub hu362 B319
 refine hld ⟨(blk_at r364 rfl),(uc hu362 hl347)⟩ fun hS363=>Rt 0 hS363<|Rl 1 hS363 (fun _ hs=>hs.1)<|Rt 2 hS363<|Rt 3 hS363<|Ri1 4 hS363 b.length 0 0 rfl hA346 (by omega)<|Rl 5 hS363 (fun _ hs=>hs.2)<|Rt 6 hS363<|x12 (cut_from (P:=Tryz.prog) 27 5 1 Tryz.underlying27 rfl rfl A b.length cp 1 (by omega)) fun A365 hrun366 hrd367=>?_
 have r368:=RdB.old r343 hu362
 refine Rr 7 hS363 (.slice A365 (b.length - 1) (cp - 1)) (fun _ _=>run_cutf (kl:=.i64) (k:=((1:Nat) : Int)) (A:=A) (n:=b.length) (c:=cp) rfl Tryz.underlying27 (by kernel_rfl) (by kernel_rfl) (hrun366 _ _))<|R0 8 rfl<|Ocv #[] #[] (args:=#[.int .i64 dir,.int .u8 (b.getD 0 0),.slice A365 (b.length - 1) (cp - 1)])<|e2 (files_parse (dir:=dir) (c:=(b.getD 0 0)) (b8 (by omega)) (hrd367 _ _ _ _ _ r368) (by (try simp only [List.length_drop]); omega)) fun cs370 w369 hM371 hu372=>?_
 have r374:=ub hu372 r364
 have U375:=ut0 hu362 hu372
 refine hld ⟨(blk_at r374 rfl),(uc U375 hl347)⟩ fun hS373=>Rt 9 hS373<|Rt 10 hS373<|?_
 have U376:=ut0 U342 hu362
 have U377:=ut0 U376 hu372
 have r378:=ub U377 B13
 refine R0 11 rfl<|Osw (hz:=(by rw [hM371.size]; exact msg_size)) (hv:=hM371.size) (h1:=hM371.one) r378 (cs370) fun w379 B380 hu381=>?_
 have ne383:=nb (blk_lt B13) hu312.size hg315
 have r384:=ub1 hu381 (Ne.symm ne383) r374
 have U385:=u1 (Upd.mono (S':=[g10]) U375 all0) hu381 im
 have U386:=u1 (Upd.mono (S':=[g10]) hu372 all0) hu381 im
 have U387:=u1 (Upd.mono (S':=[g10]) U377 all0) hu381 im
 have U388:=ut0 hu14 hu312
 have U389:=ut0 U388 hu317
 have U390:=u1 U389 hu320 (ni U388.size hg315)
 have U391:=ut0 U390 hu362
 have U392:=ut0 U391 hu372
 have U393:=u1 U392 hu381 (nr hg12)
 have r394:=RdB.old hsl U393
 refine hld ⟨(blk_at r384 rfl),(cB r394 hA346 0 (by omega))⟩ fun hS382=>Rt 12 hS382<|re<|tn<|rt<|rctx 22 hM371.size B380 (.int .i64 (((parseOf filesForm dir (b.getD 0 0) (b.drop 1))).2))<|?_
 have hs:pduP dir b=(parseOf filesForm dir (b.getD 0 0) (b.drop 1)):=by
   unfold pduP
   (try simp only [q17,q22,q27,q40,bs,if_true,if_false,decide_true,decide_false,hkf,famP,reduceIte])
   all_goals rfl
 refine pm_eq hs ?_
 have r395:=MsgRd.upd hM371 hu381 (safe_cons (safe1 r378 (by decide)) safe0)
 exact ⟨_,rfl,r395,U393⟩
 have ho396:=of_any (x:=(b.getD 0 0)) (w:=w11)
 rw [hkf] at ho396
 refine L0<|Oc<|m1 ho396 fun w397 hu398=>Pl 3<|L0<|Oal #[.nilFunc,.nilFunc] fun g399 w400 hg401 B402 hu403=>L0<|Osw B402 #[.func (.func 66) #[] #[],.func (.func 67) #[] #[]] fun w404 B405 hu406=>Pl 1<|nt<|sq<|sg<|Pl 2<|nt<|c0<|?_
 refine skn<|sq<|?_
 have U427:=ut0 hu398 hu403
 have U428:=u1 U427 hu406 (ni hu398.size hg401)
 have r429:=RdB.old r32 U428
 refine x23 (RdB.at_ r429 0 (by omega)) fun b430 o431 hA432 hl433 hr434=>Rg 13 (fun w'=>w'.cell? ⟨g399,0,none⟩=some (.func (.func 66) #[] #[])∧w'.cell? ⟨b430,o431 + 0,none⟩=some (.int .u8 (b.getD 0 0))) fun w447 hu448=>?_
 have r450:=ub hu448 B405
 refine hld ⟨(blk_at r450 rfl),(uc hu448 hl433)⟩ fun hS449=>Rt 0 hS449<|Rl 1 hS449 (fun _ hs=>hs.1)<|Rt 2 hS449<|Rt 3 hS449<|Ri1 4 hS449 b.length 0 0 rfl hA432 (by omega)<|Rl 5 hS449 (fun _ hs=>hs.2)<|Rt 6 hS449<|x12 (cut_from (P:=Tryz.prog) 27 5 1 Tryz.underlying27 rfl rfl A b.length cp 1 (by omega)) fun A451 hrun452 hrd453=>?_
 have r454:=RdB.old r429 hu448
 refine Rr 7 hS449 (.slice A451 (b.length - 1) (cp - 1)) (fun _ _=>run_cutf (kl:=.i64) (k:=((1:Nat) : Int)) (A:=A) (n:=b.length) (c:=cp) rfl Tryz.underlying27 (by kernel_rfl) (by kernel_rfl) (hrun452 _ _))<|R0 8 rfl<|Ocv #[] #[] (args:=#[.int .i64 dir,.int .u8 (b.getD 0 0),.slice A451 (b.length - 1) (cp - 1)])<|e2 (mei_parse (dir:=dir) (c:=(b.getD 0 0)) (b8 (by omega)) (hrd453 _ _ _ _ _ r454) (by (try simp only [List.length_drop]); omega)) fun cs456 w455 hM457 hu458=>?_
 have r460:=ub hu458 r450
 have U461:=ut0 hu448 hu458
 refine hld ⟨(blk_at r460 rfl),(uc U461 hl433)⟩ fun hS459=>Rt 9 hS459<|Rt 10 hS459<|?_
 have U462:=ut0 U428 hu448
 have U463:=ut0 U462 hu458
 have r464:=ub U463 B13
 refine R0 11 rfl<|Osw (hz:=(by rw [hM457.size]; exact msg_size)) (hv:=hM457.size) (h1:=hM457.one) r464 (cs456) fun w465 B466 hu467=>?_
 have ne469:=nb (blk_lt B13) hu398.size hg401
 have r470:=ub1 hu467 (Ne.symm ne469) r460
 have U471:=u1 (Upd.mono (S':=[g10]) U461 all0) hu467 im
 have U472:=u1 (Upd.mono (S':=[g10]) hu458 all0) hu467 im
 have U473:=u1 (Upd.mono (S':=[g10]) U463 all0) hu467 im
 have U474:=ut0 hu14 hu398
 have U475:=ut0 U474 hu403
 have U476:=u1 U475 hu406 (ni U474.size hg401)
 have U477:=ut0 U476 hu448
 have U478:=ut0 U477 hu458
 have U479:=u1 U478 hu467 (nr hg12)
 have r480:=RdB.old hsl U479
 refine hld ⟨(blk_at r470 rfl),(cB r480 hA432 0 (by omega))⟩ fun hS468=>Rt 12 hS468<|re<|tn<|rt<|rctx 22 hM457.size B466 (.int .i64 (((parseOf meiForm dir (b.getD 0 0) (b.drop 1))).2))<|?_
 have hs:pduP dir b=(parseOf meiForm dir (b.getD 0 0) (b.drop 1)):=by
   unfold pduP
   (try simp only [q17,q22,q27,q40,bs,if_true,if_false,decide_true,decide_false,hkf,famP,reduceIte])
   all_goals rfl
 refine pm_eq hs ?_
 have r481:=MsgRd.upd hM457 hu467 (safe_cons (safe1 r464 (by decide)) safe0)
 exact ⟨_,rfl,r481,U479⟩
 have ho482:=of_any (x:=(b.getD 0 0)) (w:=w11)
 rw [hkf] at ho482
 refine L0<|Oc<|m1 ho482 fun w483 hu484=>Pl 3<|L0<|Oal #[.nilFunc,.nilFunc] fun g485 w486 hg487 B488 hu489=>L0<|Osw B488 #[.nilFunc,.nilFunc] fun w490 B491 hu492=>Pl 1<|nt<|sq<|sg<|Pl 2<|nt<|c1<|?_
 refine sg<|Pl 1<|?_
 have U493:=ut0 hu484 hu489
 have U494:=u1 U493 hu492 (ni hu484.size hg487)
 have r495:=ub U494 B13
 refine L0<|Osw r495 mZ fun w496 B497 hu498=>Pl 1<|nt<|rt<|tr<|rct B497 (.int .i64 4)<|?_
 have hs:pduP dir b=(Msg.zero,4):=by
   unfold pduP
   (try simp only [q17,q22,q27,q40,bs,if_true,if_false,decide_true,decide_false,hkf,famP,reduceIte])
   all_goals rfl
 refine pm_eq hs ?_
 have U499:=ut0 hu14 hu484
 have U500:=ut0 U499 hu489
 have U501:=u1 U500 hu492 (ni U499.size hg487)
 have U502:=u1 U501 hu498 (nr hg12)
 exact bad_res U502
theorem pdu_parse {m:Bool} {v:Value} {b:List Int} {w:World} {dir:Int} (h:RdB m w v b) (hb:b.length≤1048576) : Calls Tryz.prog 162 #[.int .i64 dir,v] w (PMsg (pduP dir b) w):=by
  obtain ⟨A,cp,rfl,_,_⟩:=h.shape
  exact pdu_parse0 h hb
end Go.Proofs.YtpglhicfhppaiaaGreat
namespace Go.Proofs.YtpglhicfhppaiaaGreat
def N1 (C:Cur) : Prop:=C.e ≠ 1
theorem N1.need {C:Cur} {b:Bool} {x:Int} (hx:x ≠ 1) (h:N1 C) : N1 (C.need b x):=by
  unfold N1 Cur.need at *
  split
  · exact hx
  · exact h
theorem N1.bytesC {C:Cur} {n:Int} (h:N1 C) : N1 (C.bytesC n):=by
  unfold Cur.bytesC
  split
  · exact N1.need (by decide) h
  · exact h
theorem N1.wordsC {C:Cur} {n:Int} (h:N1 C) : N1 (C.wordsC n):=by
  unfold Cur.wordsC
  split <;> exact N1.bytesC h
theorem N1.recs {one:Int→Cur→Int × Cur × Rec} (ho:∀ s C,N1 C→N1 (one s C).2.1) : ∀ (n:Nat) (s:Int) (C:Cur) (L:List Rec),N1 C→N1 (recsR one n s C L).1
  | 0,_,_,_,h=>h
  | n + 1,s,C,L,h=>by
    unfold recsR
    split
    · split
      · exact ho s C h
      · exact N1.recs ho n _ _ _ (ho s C h)
    · exact h
theorem N1.endC {C:Cur} (h:N1 C) : N1 C.endC:=by
  unfold Cur.endC
  exact N1.need (by decide) h
end Go.Proofs.YtpglhicfhppaiaaGreat
namespace Go.Proofs.YtpglhicfhppaiaaGreat
theorem code_tab:∀ n:Nat,n < 256→(publicB (n:Int)=pub7 (n:Int))∧(pub7 (n:Int)=false→cfam (n:Int)=0)∧(128≤n→pub7 (n:Int)=false):=by decide +kernel
theorem code_tabI {x:Int} (h:0≤x∧x < 256) : publicB x=pub7 x∧(pub7 x=false→cfam x=0)∧(128≤x→pub7 x=false):=by
  obtain ⟨n,rfl⟩:=Int.eq_ofNat_of_zero_le h.1
  obtain ⟨a,b,c⟩:=code_tab n (by omega)
  exact ⟨a,b,fun h=>c (by omega)⟩
end Go.Proofs.YtpglhicfhppaiaaGreat
namespace Go.Proofs.YtpglhicfhppaiaaGreat
theorem writeOf_some {parse:Int→Int→List Int→Msg × Int} {lay:Int→Msg→List Int} {dir:Int} {M:Msg} {l:List Int} (h:writeOf parse lay dir M=some l) : parse dir M.code l=(M,0)∧l=lay dir M:=by
  unfold writeOf at h
  split at h
  · rename_i hh
    injection h with h
    subst h
    exact ⟨hh,rfl⟩
  · cases h
theorem famW_some {k:Nat} {dir:Int} {M:Msg} {l:List Int} (h:famW k dir M=some l) : k ≠ 0∧famP k dir ([M.code]++l)=(M,0):=by
  unfold famW at h
  split at h
  · exact ⟨by decide,(writeOf_some h).1⟩
  · exact ⟨by decide,(writeOf_some h).1⟩
  · exact ⟨by decide,(writeOf_some h).1⟩
  · exact ⟨by decide,(writeOf_some h).1⟩
  · exact ⟨by decide,(writeOf_some h).1⟩
  · cases h
theorem refW_some {M:Msg} {l:List Int} (h:refW M=some l) : publicB M.code=true∧failureB M.fail=true∧M=refM M.code M.fail∧l=[(M.code + 128) % 256,M.fail]:=by
  unfold refW at h
  split at h
  · cases h
  split at h
  · cases h
  rename_i h1 h2
  injection h with h
  subst h
  have h3:pairB M.code M.fail=true:=by
    cases hp:pairB M.code M.fail
    · rw [hp] at h1; exact absurd rfl h1
    · rfl
  have h4:M=refM M.code M.fail:=by
    by_cases hm:M=refM M.code M.fail
    · exact hm
    · rw [decide_eq_false hm] at h2; exact absurd rfl h2
  unfold pairB at h3
  obtain ⟨h5,h6⟩:=and2 h3
  exact ⟨(and2 h5).2,h6,h4,rfl⟩
theorem pduW_some {dir:Int} {M:Msg} {l:List Int} (hc:0≤M.code∧M.code < 256) (h:pduW dir M=some l) :
    (M.fail ≠ 0∧dir=1∧publicB M.code=true∧failureB M.fail=true∧M=refM M.code M.fail∧l=[M.code + 128,M.fail]∧M.code < 128) ∨
    (M.fail=0∧cfam M.code ≠ 0∧M.code < 128∧∃ l',famW (cfam M.code) dir M=some l'∧l'.length < 253∧l=[M.code]++l'):=by
  obtain ⟨t1,t2,t3⟩:=code_tabI hc
  unfold pduW at h
  split at h
  · rename_i hf
    split at h
    · cases h
    · rename_i hd
      obtain ⟨h1,h2,h3,h4⟩:=refW_some h
      have h5:M.code < 128:=by
        by_cases h6:128≤M.code
        · have:=t3 h6
          rw [← t1,h1] at this
          cases this
        · omega
      refine .inl ⟨by simpa using hf,by simpa using hd,h1,h2,h3,?_,h5⟩
      rw [h4]
      congr 1
      omega
  · rename_i hf
    split at h
    · cases h
    · rename_i l' hl
      split at h
      · cases h
      · rename_i hn
        injection h with h
        have hk:=(famW_some hl).1
        have h5:M.code < 128:=by
          by_cases h6:128≤M.code
          · exact absurd (t2 (t3 h6)) hk
          · omega
        simp only [decide_eq_true_eq] at hn
        exact .inr ⟨by simpa using hf,hk,h5,l',hl,by omega,h.symm⟩
theorem pdu_rt {dir:Int} {M:Msg} {l:List Int} (hd:dir=0∨dir=1) (hc:0≤M.code∧M.code < 256) (hf:0≤M.fail∧M.fail < 256) (h:pduW dir M=some l) : pduP dir l=(M,0):=by
  have hdd:(dir != 0 && dir != 1)=false:=by rcases hd with rfl | rfl <;> rfl
  rcases pduW_some hc h with ⟨h1,rfl,h2,h3,h4,rfl,h5⟩ | ⟨h1,h2,h3,l',h4,h5,rfl⟩
  · have ha:decide (128≤M.code + 128)=true:=by simp; omega
    have hb:(M.code + 128 - 128) % 256=M.code:=by omega
    have hd1:decide (M.code + 128 < 128)=false:=by simp; omega
    unfold pduP
    simp only [List.length_cons,List.length_nil,List.getD_cons_zero,ha]
    show refP [M.code + 128,M.fail]=(M,0)
    unfold refP
    simp only [List.length_cons,List.length_nil,List.getD_cons_zero,List.getD_cons_succ,hb,hd1,h2,h3]
    show (refM M.code M.fail,(0:Int))=(M,0)
    rw [← h4]
  · have ha:(decide (128≤M.code) && dir == 1)=false:=by
      have:decide (128≤M.code)=false:=by simp; omega
      rw [this]; rfl
    have hl0:(((([M.code]++l').length:Nat) : Int) == 0)=false:=by
      simp only [List.length_append,List.length_cons,List.length_nil,beq_eq_false_iff_ne,ne_eq]; omega
    have hl1:decide (253 < ((([M.code]++l').length:Nat) : Int))=false:=by
      simp only [List.length_append,List.length_cons,List.length_nil,decide_eq_false_iff_not]; omega
    have hg:([M.code]++l').getD 0 0=M.code:=rfl
    unfold pduP
    rw [hdd,hl0,hl1,hg,ha]
    exact (famW_some h4).2
theorem pduW_pos {dir:Int} {M:Msg} {l:List Int} (hc:0≤M.code∧M.code < 256) (h:pduW dir M=some l) : 0 < l.length:=by
  rcases pduW_some hc h with ⟨_,_,_,_,_,rfl,_⟩ | ⟨_,_,_,l',_,_,rfl⟩ <;> simp
open Go.RowKit
theorem upd_below {w w':World} (h:Upd [] w w') : Below w.heap.size w w':=⟨h.os,h.tape,h.output,h.size,fun k hk=>h.block k hk (by simp)⟩
theorem wf_u8_rng {n:Int} (h:(Lit.int .u8 n).wf=true) : 0≤n∧n < 256:=by
  have:=bounds_u8 h
  omega
open Go.RowKit
structure SL where
  aw:Option Addr
  kw:Nat
  ab:Option Addr
  kb:Nat
  ad:Option Addr
  kd:Nat
  ar:Option Addr
  kr:Nat
  ao:Option Addr
  ko:Nat
def mcl (M:Msg) (x:SL) : Array Value:=mG M.code M.fail M.addr M.count M.value M.and_ M.or_ M.addr2 M.sub M.status M.events M.messages (.slice x.aw M.words.length x.kw) (.slice x.ab M.bits.length x.kb) (.slice x.ad M.data.length x.kd) (.slice x.ar M.recs.length x.kr) M.mei M.kind M.level M.more M.next (.slice x.ao M.objects.length x.ko)
theorem mcl_of {m:Bool} {w:World} {cs:Array Value} {M:Msg} (h:MsgRd m w cs.toList M) : ∃ x,cs=mcl M x:=by
  obtain ⟨vw,vb,vd,vr,vo,h0,hw,hb,hd,hr,ho,hR⟩:=h
  obtain ⟨aw,kw,rfl,_,_⟩:=hw.shape
  obtain ⟨ab,kb,rfl,_,_⟩:=hb.shape
  obtain ⟨ad,kd,rfl,_,_⟩:=hd.shape
  obtain ⟨ar,kr,rfl,_,_⟩:=hr.shape
  obtain ⟨ao,ko,rfl,_,_⟩:=ho.shape
  refine ⟨⟨aw,kw,ab,kb,ad,kd,ar,kr,ao,ko⟩,?_⟩
  apply Array.toList_inj.1
  rw [h0]
  rfl
theorem MsgRd.rngs {m:Bool} {w:World} {cs:Array Value} {M:Msg} (h:MsgRd m w cs.toList M) : (0≤M.code∧M.code < 256)∧(0≤M.fail∧M.fail < 256):=by
  obtain ⟨vw,vb,vd,vr,vo,h0,hw,hb,hd,hr,ho,hR⟩:=h
  exact ⟨hR.code,hR.fail⟩
open Go.RowKit
section
variable {H:Type} {enc:TypeId × Value→H} {P:Program} {w:World} {base:Nat} {spare:Nat→Bool} {held:Bool}
theorem add_none (b off:Nat) (sp:Option Nat) (n:Nat) (h:sp=none) : (⟨b,off,sp⟩ : Addr).add n=⟨b,off + n,none⟩:=add_mk b off n sp h
theorem cell_spot {b off:Nat} {sp:Option Nat} {v:Value} (h:w.cell? ⟨b,off,sp⟩=some v) : sp=none:=by
  cases sp with
  | none=>rfl
  | some s =>
    unfold World.cell? at h
    simp at h
    split at h <;> cases h
theorem rd_openP {α:Type} {Pd:DataW H→Prop} {R:World→α→List Value→Prop} {t e:TypeId} {sz fuel:Nat} {cs:List Value} {x:DataW H × List MemPlace} (ht:P.underlying t=some (.slice e)) (hsz:P.cellsOf e=sz) (hp:0 < sz)
    (hel:∀ n cs' y,cs'.length=sz→DataW.trod enc P w base spare held n e cs'=some y→Pd y.1→∃ x,R w x cs') (hP:∀ elems spare,x.1 = .slice elems spare→∀ d,d∈elems→Pd d) (h:DataW.trod enc P w base spare held fuel t cs=some x) : ∃ v xs,cs=[v]∧RdG false e sz R w v xs:=by
  rcases Go.Deep.open_slice ht h with ⟨rfl,_⟩ | ⟨a,len,cap,m,n,D,Pl,rfl,_,hl,hm,hmm,hxe,hx⟩
  · exact ⟨_,[],rfl,RdG.nil ..⟩
  have hlm:len≤m:=by rw [hmm]; split <;> omega
  have key:∀ i:Fin len,∃ y:α × List Value,w.cells? base (a.add (i * sz)) sz=some y.2∧y.2.length=sz∧R w y.1 y.2:=fun i=>by
    obtain ⟨cs',h1,h2⟩:=hx i (by omega)
    rw [hsz] at h1
    obtain ⟨_,hlen,_⟩:=World.cells?_some h1
    obtain ⟨y,hy⟩:=hel n cs' _ hlen h2 (hP _ _ (by rw [hxe]) _ (List.mem_map.2 ⟨i.1,List.mem_range.2 i.2,rfl⟩))
    exact ⟨(y,cs'),h1,hlen,hy⟩
  obtain ⟨f,hf⟩:=Classical.axiomOfChoice key
  refine ⟨_,List.ofFn fun i=>(f i).1,rfl,some a,cap,by simp,by simpa using hl,hm,(fun h=>by cases h),fun hpos=>?_⟩
  have hpos':0 < len:=by simpa using hpos
  obtain ⟨b,off,sp⟩:=a
  have hsp:sp=none:=by
    obtain ⟨h1,h2,_⟩:=hf ⟨0,hpos'⟩
    obtain ⟨_,_,h3⟩:=World.cells?_some h1
    have h4:=h3 0 hp
    rw [List.getElem?_eq_getElem (by omega)] at h4
    cases sp with
    | none=>rfl
    | some s =>
      simp [Addr.add] at h4
      exact cell_spot h4
  subst hsp
  have hc:∀ i:Fin len,∀ k u,(f i).2[k]? = some u→w.cell? ⟨b,off + i * sz + k,none⟩=some u:=fun i k u hu=>by
    obtain ⟨h1,h2,_⟩:=hf i
    obtain ⟨_,_,h3⟩:=World.cells?_some h1
    have hk:k < sz:=by have:=(List.getElem?_eq_some_iff.1 hu).1; omega
    have h4:=h3 k hk
    rw [add_none _ _ _ _ rfl,add_none _ _ _ _ rfl] at h4
    rw [h4,hu]
  have h0:∃ u,w.cell? ⟨b,off + 0 * sz + 0,none⟩=some u:=by
    obtain ⟨_,h2,_⟩:=hf ⟨0,hpos'⟩
    exact ⟨_,hc ⟨0,hpos'⟩ 0 _ (List.getElem?_eq_getElem (by omega))⟩
  obtain ⟨u,hu⟩:=h0
  unfold World.cell? at hu
  split at hu
  · rename_i cells t' fr hb
    refine ⟨b,off,cells,t',fr,rfl,hb,fun h=>(by cases h),fun j y hj=>?_⟩
    have hjl:j < len:=by have:=(List.getElem?_eq_some_iff.1 hj).1; simpa using this
    have hy:(f ⟨j,hjl⟩).1=y:=by
      rw [List.getElem?_ofFn] at hj
      simpa [hjl] using hj
    obtain ⟨_,h2,h3⟩:=hf ⟨j,hjl⟩
    refine ⟨(f ⟨j,hjl⟩).2,h2,by rw [← hy]; exact h3,fun i u hi=>?_⟩
    have:=hc ⟨j,hjl⟩ i u hi
    rw [blk_cell hb] at this
    exact this
  · cases hu
theorem rd_open {α:Type} {R:World→α→List Value→Prop} {t e:TypeId} {sz fuel:Nat} {cs:List Value} {x:DataW H × List MemPlace} (ht:P.underlying t=some (.slice e)) (hsz:P.cellsOf e=sz) (hp:0 < sz)
    (hel:∀ n cs' y,cs'.length=sz→DataW.trod enc P w base spare held n e cs'=some y→∃ x,R w x cs') (h:DataW.trod enc P w base spare held fuel t cs=some x) : ∃ v xs,cs=[v]∧RdG false e sz R w v xs :=
  rd_openP (Pd:=fun _=>True) ht hsz hp (fun n cs' y h1 h2 _=>hel n cs' y h1 h2) (fun _ _ _ _ _=>trivial) h
end
section
variable {H:Type} {enc:TypeId × Value→H} {w:World} {base:Nat} {spare:Nat→Bool} {held:Bool} {n:Nat} {y:DataW H × List MemPlace}
theorem wf_u16_rng {n:Int} (h:(Lit.int .u16 n).wf=true) : 0≤n∧n < 65536:=by
  have:=bounds_u16 h
  omega
theorem el_u8 {cs:List Value} (h:DataW.trod enc Tryz.prog w base spare held n 5 cs=some y) : ∃ x,u8R w x cs:=by
  obtain ⟨k,rfl,_,hw⟩:=DataW.trod_int Tryz.underlying5 h
  exact ⟨k,rfl,wf_u8_rng hw⟩
theorem el_u16 {cs:List Value} (h:DataW.trod enc Tryz.prog w base spare held n 22 cs=some y) : ∃ x,u16R w x cs:=by
  obtain ⟨k,rfl,_,hw⟩:=DataW.trod_int Tryz.underlying22 h
  exact ⟨k,rfl,wf_u16_rng hw⟩
theorem el_bool {cs:List Value} (h:DataW.trod enc Tryz.prog w base spare held n 4 cs=some y) : ∃ x,boolR w x cs:=by
  obtain ⟨k,rfl,_⟩:=DataW.trod_bool Tryz.underlying4 h
  exact ⟨k,rfl⟩
theorem sl_u8 {cs:List Value} (h:DataW.trod enc Tryz.prog w base spare held n 27 cs=some y) : ∃ v xs,cs=[v]∧RdB false w v xs:=rd_open Tryz.underlying27 (by kernel_rfl) (by decide) (fun _ _ _ _ h=>el_u8 h) h
theorem sl_u16 {cs:List Value} (h:DataW.trod enc Tryz.prog w base spare held n 25 cs=some y) : ∃ v xs,cs=[v]∧RdW false w v xs:=rd_open Tryz.underlying25 (by kernel_rfl) (by decide) (fun _ _ _ _ h=>el_u16 h) h
theorem sl_bool {cs:List Value} (h:DataW.trod enc Tryz.prog w base spare held n 26 cs=some y) : ∃ v xs,cs=[v]∧RdL false w v xs:=rd_open Tryz.underlying26 (by kernel_rfl) (by decide) (fun _ _ _ _ h=>el_bool h) h
end
open Go.RowKit
theorem peel {cs:List Value} {o:Nat} {v:Value} (h:(cs.drop o).take 1=[v]) : cs.drop o=v :: cs.drop (o + 1):=by
  cases hd:cs.drop o with
  | nil=>rw [hd] at h; cases h
  | cons a l =>
    rw [hd] at h
    have h1:a=v:=by simpa using h
    rw [h1,← List.drop_drop,hd]
    rfl
theorem drop_all {cs:List Value} {n:Nat} (h:cs.length=n) : cs.drop n=[]:=by rw [← h]; simp
section
variable {H:Type} {enc:TypeId × Value→H} {w:World} {base:Nat} {spare:Nat→Bool} {held:Bool} {n:Nat} {y:DataW H × List MemPlace}
theorem el_rec {cs:List Value} (h:DataW.trod enc Tryz.prog w base spare held n 83 cs=some y) : ∃ x,recR false w x cs:=by
  obtain ⟨xs,m,rfl,_,hlen,hxs,hf⟩:=DataW.trod_struct Tryz.underlying83 h
  rw [show Tryz.prog.cellsOf 83=4 from by kernel_rfl] at hlen
  replace hxs:xs.length=4:=hxs.trans (by kernel_rfl)
  obtain ⟨y0,g0⟩ : ∃ y,xs[0]? = some y:=⟨_,List.getElem?_eq_getElem (show 0 < xs.length by omega)⟩
  have f0:DataW.trod enc Tryz.prog w base spare held m 22 ((cs.drop 0).take (Tryz.prog.cellsOf 22))=xs[0]?:=hf 0 _ rfl
  rw [g0] at f0
  rw [show Tryz.prog.cellsOf 22=1 from by kernel_rfl] at f0
  obtain ⟨x0,e0,r0⟩:=el_u16 f0
  obtain ⟨y1,g1⟩ : ∃ y,xs[1]? = some y:=⟨_,List.getElem?_eq_getElem (show 1 < xs.length by omega)⟩
  have f1:DataW.trod enc Tryz.prog w base spare held m 22 ((cs.drop 1).take (Tryz.prog.cellsOf 22))=xs[1]?:=hf 1 _ rfl
  rw [g1] at f1
  rw [show Tryz.prog.cellsOf 22=1 from by kernel_rfl] at f1
  obtain ⟨x1,e1,r1⟩:=el_u16 f1
  obtain ⟨y2,g2⟩ : ∃ y,xs[2]? = some y:=⟨_,List.getElem?_eq_getElem (show 2 < xs.length by omega)⟩
  have f2:DataW.trod enc Tryz.prog w base spare held m 22 ((cs.drop 2).take (Tryz.prog.cellsOf 22))=xs[2]?:=hf 2 _ rfl
  rw [g2] at f2
  rw [show Tryz.prog.cellsOf 22=1 from by kernel_rfl] at f2
  obtain ⟨x2,e2,r2⟩:=el_u16 f2
  obtain ⟨y3,g3⟩ : ∃ y,xs[3]? = some y:=⟨_,List.getElem?_eq_getElem (show 3 < xs.length by omega)⟩
  have f3:DataW.trod enc Tryz.prog w base spare held m 25 ((cs.drop 3).take (Tryz.prog.cellsOf 25))=xs[3]?:=hf 3 _ rfl
  rw [g3] at f3
  rw [show Tryz.prog.cellsOf 25=1 from by kernel_rfl] at f3
  obtain ⟨v3,l3,e3,r3⟩:=sl_u16 f3
  have hcs:cs=[.int .u16 x0,.int .u16 x1,.int .u16 x2,v3]:=by
    show cs.drop 0=_
    rw [peel e0,peel e1,peel e2,peel e3,drop_all hlen]
  subst hcs
  exact ⟨⟨x0,x1,x2,l3⟩,_,rfl,r3,r0,r1,r2⟩
theorem sl_rec {cs:List Value} (h:DataW.trod enc Tryz.prog w base spare held n 28 cs=some y) : ∃ v xs,cs=[v]∧RdR false w v xs:=rd_open Tryz.underlying28 (by kernel_rfl) (by decide) (fun _ _ _ _ h=>el_rec h) h
theorem el_obj {cs:List Value} (h:DataW.trod enc Tryz.prog w base spare held n 85 cs=some y) : ∃ x,objR false w x cs:=by
  obtain ⟨xs,m,rfl,_,hlen,hxs,hf⟩:=DataW.trod_struct Tryz.underlying85 h
  rw [show Tryz.prog.cellsOf 85=2 from by kernel_rfl] at hlen
  replace hxs:xs.length=2:=hxs.trans (by kernel_rfl)
  obtain ⟨y0,g0⟩ : ∃ y,xs[0]? = some y:=⟨_,List.getElem?_eq_getElem (show 0 < xs.length by omega)⟩
  have f0:DataW.trod enc Tryz.prog w base spare held m 5 ((cs.drop 0).take (Tryz.prog.cellsOf 5))=xs[0]?:=hf 0 _ rfl
  rw [g0] at f0
  rw [show Tryz.prog.cellsOf 5=1 from by kernel_rfl] at f0
  obtain ⟨x0,e0,r0⟩:=el_u8 f0
  obtain ⟨y1,g1⟩ : ∃ y,xs[1]? = some y:=⟨_,List.getElem?_eq_getElem (show 1 < xs.length by omega)⟩
  have f1:DataW.trod enc Tryz.prog w base spare held m 27 ((cs.drop 1).take (Tryz.prog.cellsOf 27))=xs[1]?:=hf 1 _ rfl
  rw [g1] at f1
  rw [show Tryz.prog.cellsOf 27=1 from by kernel_rfl] at f1
  obtain ⟨v1,l1,e1,r1⟩:=sl_u8 f1
  have hcs:cs=[.int .u8 x0,v1]:=by
    show cs.drop 0=_
    rw [peel e0,peel e1,drop_all hlen]
  subst hcs
  exact ⟨⟨x0,l1⟩,_,rfl,r1,r0⟩
theorem sl_obj {cs:List Value} (h:DataW.trod enc Tryz.prog w base spare held n 29 cs=some y) : ∃ v xs,cs=[v]∧RdO false w v xs:=rd_open Tryz.underlying29 (by kernel_rfl) (by decide) (fun _ _ _ _ h=>el_obj h) h
set_option maxRecDepth 20000 in
theorem msg_open {cs:List Value} (h:DataW.trod enc Tryz.prog w base spare held n 31 cs=some y) : ∃ M,MsgRd false w cs M:=by
  obtain ⟨xs,m,rfl,_,hlen,hxs,hf⟩:=DataW.trod_struct Tryz.underlying31 h
  rw [show Tryz.prog.cellsOf 31=22 from by kernel_rfl] at hlen
  replace hxs:xs.length=22:=hxs.trans (by kernel_rfl)
  obtain ⟨y0,g0⟩ : ∃ y,xs[0]? = some y:=⟨_,List.getElem?_eq_getElem (show 0 < xs.length by omega)⟩
  have f0:DataW.trod enc Tryz.prog w base spare held m 5 ((cs.drop 0).take (Tryz.prog.cellsOf 5))=xs[0]?:=hf 0 _ rfl
  rw [g0] at f0
  rw [show Tryz.prog.cellsOf 5=1 from by kernel_rfl] at f0
  obtain ⟨x0,e0,r0⟩:=el_u8 f0
  obtain ⟨y1,g1⟩ : ∃ y,xs[1]? = some y:=⟨_,List.getElem?_eq_getElem (show 1 < xs.length by omega)⟩
  have f1:DataW.trod enc Tryz.prog w base spare held m 5 ((cs.drop 1).take (Tryz.prog.cellsOf 5))=xs[1]?:=hf 1 _ rfl
  rw [g1] at f1
  rw [show Tryz.prog.cellsOf 5=1 from by kernel_rfl] at f1
  obtain ⟨x1,e1,r1⟩:=el_u8 f1
  obtain ⟨y2,g2⟩ : ∃ y,xs[2]? = some y:=⟨_,List.getElem?_eq_getElem (show 2 < xs.length by omega)⟩
  have f2:DataW.trod enc Tryz.prog w base spare held m 22 ((cs.drop 2).take (Tryz.prog.cellsOf 22))=xs[2]?:=hf 2 _ rfl
  rw [g2] at f2
  rw [show Tryz.prog.cellsOf 22=1 from by kernel_rfl] at f2
  obtain ⟨x2,e2,r2⟩:=el_u16 f2
  obtain ⟨y3,g3⟩ : ∃ y,xs[3]? = some y:=⟨_,List.getElem?_eq_getElem (show 3 < xs.length by omega)⟩
  have f3:DataW.trod enc Tryz.prog w base spare held m 22 ((cs.drop 3).take (Tryz.prog.cellsOf 22))=xs[3]?:=hf 3 _ rfl
  rw [g3] at f3
  rw [show Tryz.prog.cellsOf 22=1 from by kernel_rfl] at f3
  obtain ⟨x3,e3,r3⟩:=el_u16 f3
  obtain ⟨y4,g4⟩ : ∃ y,xs[4]? = some y:=⟨_,List.getElem?_eq_getElem (show 4 < xs.length by omega)⟩
  have f4:DataW.trod enc Tryz.prog w base spare held m 22 ((cs.drop 4).take (Tryz.prog.cellsOf 22))=xs[4]?:=hf 4 _ rfl
  rw [g4] at f4
  rw [show Tryz.prog.cellsOf 22=1 from by kernel_rfl] at f4
  obtain ⟨x4,e4,r4⟩:=el_u16 f4
  obtain ⟨y5,g5⟩ : ∃ y,xs[5]? = some y:=⟨_,List.getElem?_eq_getElem (show 5 < xs.length by omega)⟩
  have f5:DataW.trod enc Tryz.prog w base spare held m 22 ((cs.drop 5).take (Tryz.prog.cellsOf 22))=xs[5]?:=hf 5 _ rfl
  rw [g5] at f5
  rw [show Tryz.prog.cellsOf 22=1 from by kernel_rfl] at f5
  obtain ⟨x5,e5,r5⟩:=el_u16 f5
  obtain ⟨y6,g6⟩ : ∃ y,xs[6]? = some y:=⟨_,List.getElem?_eq_getElem (show 6 < xs.length by omega)⟩
  have f6:DataW.trod enc Tryz.prog w base spare held m 22 ((cs.drop 6).take (Tryz.prog.cellsOf 22))=xs[6]?:=hf 6 _ rfl
  rw [g6] at f6
  rw [show Tryz.prog.cellsOf 22=1 from by kernel_rfl] at f6
  obtain ⟨x6,e6,r6⟩:=el_u16 f6
  obtain ⟨y7,g7⟩ : ∃ y,xs[7]? = some y:=⟨_,List.getElem?_eq_getElem (show 7 < xs.length by omega)⟩
  have f7:DataW.trod enc Tryz.prog w base spare held m 22 ((cs.drop 7).take (Tryz.prog.cellsOf 22))=xs[7]?:=hf 7 _ rfl
  rw [g7] at f7
  rw [show Tryz.prog.cellsOf 22=1 from by kernel_rfl] at f7
  obtain ⟨x7,e7,r7⟩:=el_u16 f7
  obtain ⟨y8,g8⟩ : ∃ y,xs[8]? = some y:=⟨_,List.getElem?_eq_getElem (show 8 < xs.length by omega)⟩
  have f8:DataW.trod enc Tryz.prog w base spare held m 22 ((cs.drop 8).take (Tryz.prog.cellsOf 22))=xs[8]?:=hf 8 _ rfl
  rw [g8] at f8
  rw [show Tryz.prog.cellsOf 22=1 from by kernel_rfl] at f8
  obtain ⟨x8,e8,r8⟩:=el_u16 f8
  obtain ⟨y9,g9⟩ : ∃ y,xs[9]? = some y:=⟨_,List.getElem?_eq_getElem (show 9 < xs.length by omega)⟩
  have f9:DataW.trod enc Tryz.prog w base spare held m 22 ((cs.drop 9).take (Tryz.prog.cellsOf 22))=xs[9]?:=hf 9 _ rfl
  rw [g9] at f9
  rw [show Tryz.prog.cellsOf 22=1 from by kernel_rfl] at f9
  obtain ⟨x9,e9,r9⟩:=el_u16 f9
  obtain ⟨y10,g10⟩ : ∃ y,xs[10]? = some y:=⟨_,List.getElem?_eq_getElem (show 10 < xs.length by omega)⟩
  have f10:DataW.trod enc Tryz.prog w base spare held m 22 ((cs.drop 10).take (Tryz.prog.cellsOf 22))=xs[10]?:=hf 10 _ rfl
  rw [g10] at f10
  rw [show Tryz.prog.cellsOf 22=1 from by kernel_rfl] at f10
  obtain ⟨x10,e10,r10⟩:=el_u16 f10
  obtain ⟨y11,g11⟩ : ∃ y,xs[11]? = some y:=⟨_,List.getElem?_eq_getElem (show 11 < xs.length by omega)⟩
  have f11:DataW.trod enc Tryz.prog w base spare held m 22 ((cs.drop 11).take (Tryz.prog.cellsOf 22))=xs[11]?:=hf 11 _ rfl
  rw [g11] at f11
  rw [show Tryz.prog.cellsOf 22=1 from by kernel_rfl] at f11
  obtain ⟨x11,e11,r11⟩:=el_u16 f11
  obtain ⟨y12,g12⟩ : ∃ y,xs[12]? = some y:=⟨_,List.getElem?_eq_getElem (show 12 < xs.length by omega)⟩
  have f12:DataW.trod enc Tryz.prog w base spare held m 25 ((cs.drop 12).take (Tryz.prog.cellsOf 25))=xs[12]?:=hf 12 _ rfl
  rw [g12] at f12
  rw [show Tryz.prog.cellsOf 25=1 from by kernel_rfl] at f12
  obtain ⟨v12,l12,e12,r12⟩:=sl_u16 f12
  obtain ⟨y13,g13⟩ : ∃ y,xs[13]? = some y:=⟨_,List.getElem?_eq_getElem (show 13 < xs.length by omega)⟩
  have f13:DataW.trod enc Tryz.prog w base spare held m 26 ((cs.drop 13).take (Tryz.prog.cellsOf 26))=xs[13]?:=hf 13 _ rfl
  rw [g13] at f13
  rw [show Tryz.prog.cellsOf 26=1 from by kernel_rfl] at f13
  obtain ⟨v13,l13,e13,r13⟩:=sl_bool f13
  obtain ⟨y14,g14⟩ : ∃ y,xs[14]? = some y:=⟨_,List.getElem?_eq_getElem (show 14 < xs.length by omega)⟩
  have f14:DataW.trod enc Tryz.prog w base spare held m 27 ((cs.drop 14).take (Tryz.prog.cellsOf 27))=xs[14]?:=hf 14 _ rfl
  rw [g14] at f14
  rw [show Tryz.prog.cellsOf 27=1 from by kernel_rfl] at f14
  obtain ⟨v14,l14,e14,r14⟩:=sl_u8 f14
  obtain ⟨y15,g15⟩ : ∃ y,xs[15]? = some y:=⟨_,List.getElem?_eq_getElem (show 15 < xs.length by omega)⟩
  have f15:DataW.trod enc Tryz.prog w base spare held m 28 ((cs.drop 15).take (Tryz.prog.cellsOf 28))=xs[15]?:=hf 15 _ rfl
  rw [g15] at f15
  rw [show Tryz.prog.cellsOf 28=1 from by kernel_rfl] at f15
  obtain ⟨v15,l15,e15,r15⟩:=sl_rec f15
  obtain ⟨y16,g16⟩ : ∃ y,xs[16]? = some y:=⟨_,List.getElem?_eq_getElem (show 16 < xs.length by omega)⟩
  have f16:DataW.trod enc Tryz.prog w base spare held m 5 ((cs.drop 16).take (Tryz.prog.cellsOf 5))=xs[16]?:=hf 16 _ rfl
  rw [g16] at f16
  rw [show Tryz.prog.cellsOf 5=1 from by kernel_rfl] at f16
  obtain ⟨x16,e16,r16⟩:=el_u8 f16
  obtain ⟨y17,g17⟩ : ∃ y,xs[17]? = some y:=⟨_,List.getElem?_eq_getElem (show 17 < xs.length by omega)⟩
  have f17:DataW.trod enc Tryz.prog w base spare held m 5 ((cs.drop 17).take (Tryz.prog.cellsOf 5))=xs[17]?:=hf 17 _ rfl
  rw [g17] at f17
  rw [show Tryz.prog.cellsOf 5=1 from by kernel_rfl] at f17
  obtain ⟨x17,e17,r17⟩:=el_u8 f17
  obtain ⟨y18,g18⟩ : ∃ y,xs[18]? = some y:=⟨_,List.getElem?_eq_getElem (show 18 < xs.length by omega)⟩
  have f18:DataW.trod enc Tryz.prog w base spare held m 5 ((cs.drop 18).take (Tryz.prog.cellsOf 5))=xs[18]?:=hf 18 _ rfl
  rw [g18] at f18
  rw [show Tryz.prog.cellsOf 5=1 from by kernel_rfl] at f18
  obtain ⟨x18,e18,r18⟩:=el_u8 f18
  obtain ⟨y19,g19⟩ : ∃ y,xs[19]? = some y:=⟨_,List.getElem?_eq_getElem (show 19 < xs.length by omega)⟩
  have f19:DataW.trod enc Tryz.prog w base spare held m 5 ((cs.drop 19).take (Tryz.prog.cellsOf 5))=xs[19]?:=hf 19 _ rfl
  rw [g19] at f19
  rw [show Tryz.prog.cellsOf 5=1 from by kernel_rfl] at f19
  obtain ⟨x19,e19,r19⟩:=el_u8 f19
  obtain ⟨y20,g20⟩ : ∃ y,xs[20]? = some y:=⟨_,List.getElem?_eq_getElem (show 20 < xs.length by omega)⟩
  have f20:DataW.trod enc Tryz.prog w base spare held m 5 ((cs.drop 20).take (Tryz.prog.cellsOf 5))=xs[20]?:=hf 20 _ rfl
  rw [g20] at f20
  rw [show Tryz.prog.cellsOf 5=1 from by kernel_rfl] at f20
  obtain ⟨x20,e20,r20⟩:=el_u8 f20
  obtain ⟨y21,g21⟩ : ∃ y,xs[21]? = some y:=⟨_,List.getElem?_eq_getElem (show 21 < xs.length by omega)⟩
  have f21:DataW.trod enc Tryz.prog w base spare held m 29 ((cs.drop 21).take (Tryz.prog.cellsOf 29))=xs[21]?:=hf 21 _ rfl
  rw [g21] at f21
  rw [show Tryz.prog.cellsOf 29=1 from by kernel_rfl] at f21
  obtain ⟨v21,l21,e21,r21⟩:=sl_obj f21
  have hcs:cs=[.int .u8 x0,.int .u8 x1,.int .u16 x2,.int .u16 x3,.int .u16 x4,.int .u16 x5,.int .u16 x6,.int .u16 x7,.int .u16 x8,.int .u16 x9,.int .u16 x10,.int .u16 x11,v12,v13,v14,v15,.int .u8 x16,.int .u8 x17,.int .u8 x18,.int .u8 x19,.int .u8 x20,v21]:=by
    show cs.drop 0=_
    rw [peel e0,peel e1,peel e2,peel e3,peel e4,peel e5,peel e6,peel e7,peel e8,peel e9,peel e10,peel e11,peel e12,peel e13,peel e14,peel e15,peel e16,peel e17,peel e18,peel e19,peel e20,peel e21,drop_all hlen]
  subst hcs
  exact ⟨⟨x0,x1,x2,x3,x4,x5,x6,x7,x8,x9,x10,x11,l12,l13,l14,l15,x16,x17,x18,x19,x20,l21⟩,v12,v13,v14,v15,v21,rfl,r12,r13,r14,r15,r21,⟨r0,r1,r2,r3,r4,r5,r6,r7,r8,r9,r10,r11,r16,r17,r18,r19,r20⟩⟩
end
open Go.RowKit
theorem cut_h {P:Program} (t e:TypeId) (sz:Nat) {i:TypeInfo} (ht:P.underlying t=some (.slice e)) (hi:P.info? e=some i) (hsz:i.size=sz) (A:Option Addr) (n c:Nat) {k:Int} (h:Nat) (hk:k=(h:Int)) (hh:h≤n) (hc:n≤c) :
    ∃ A':Option Addr,(∀ (kh:IntKind) (W:World),(Instr.slice t (.slice A n c) none (some (.int kh k)) none).run P W = .ok (.slice A' h c) W) ∧
      ∀ {α:Type} (m:Bool) (e':TypeId) (R:World→α→List Value→Prop) (w:World) (xs:List α),RdG m e' sz R w (.slice A n c) xs→RdG m e' sz R w (.slice A' h c) (xs.take h):=by
  subst hk
  obtain ⟨A',h1,h2⟩:=cut_lh (P:=P) t e sz ht hi hsz A n c 0 h (Nat.zero_le _) hh hc
  refine ⟨A',fun kh W=>?_,fun m e' R w xs hr=>by simpa using h2 m e' R w xs hr⟩
  have h3:=h1 .i64 kh W
  have hel:P.elem t=e:=by simp [Program.elem,ht]
  have hu:P.underlying t=some (.slice (P.elem t)):=by rw [hel]; exact ht
  rw [run_slice_h W t A n c hu kh (h:Int) (Int.natCast_nonneg _) (by omega)]
  rw [run_slice_lh W t A n c hu .i64 kh (((0:Nat) : Int)) (h:Int) (Int.natCast_nonneg _) (by omega) (by omega)] at h3
  simpa using h3
theorem run_cuth {o:Oper} {ev:Operand→Value} {P:Program} {w:World} {t:TypeId} {x y:Operand} {A:Option Addr} {n c:Nat} {kl:IntKind} {k:Int} {v:Value} {e:TypeId} (ho:o.op = .slice t x none (some y) none) (ht:P.underlying t=some (.slice e)) (hx:ev x = .slice A n c) (hy:ev y = .int kl k)
    (hr:(Instr.slice t (.slice A n c) none (some (.int kl k)) none).run P w = .ok v w) : (execOp ev o).run P w = .ok (.value v) w:=by
  have hu:(underlying t).run P w = .ok (.slice e) w:=run_underlying ht w
  unfold execOp
  simp only [ho,Option.map_some,Option.map_none,hx,hy,Instr.sliceAt,Sem.run_bind,hu,hr,Result.andThen,Sem.run_pure]
theorem cut_lhI {P:Program} (t e:TypeId) (sz:Nat) {i:TypeInfo} (ht:P.underlying t=some (.slice e)) (hi:P.info? e=some i) (hsz:i.size=sz) (A:Option Addr) (n c:Nat) {lo up:Int} (k h:Nat) (hlo:lo=(k:Int)) (hup:up=(h:Int)) (hk:k≤h) (hh:h≤n) (hc:n≤c) :
    ∃ A':Option Addr,(∀ (kl kh:IntKind) (W:World),(Instr.slice t (.slice A n c) (some (.int kl lo)) (some (.int kh up)) none).run P W = .ok (.slice A' (h - k) (c - k)) W) ∧
      ∀ {α:Type} (m:Bool) (e':TypeId) (R:World→α→List Value→Prop) (w:World) (xs:List α),RdG m e' sz R w (.slice A n c) xs→RdG m e' sz R w (.slice A' (h - k) (c - k)) ((xs.take h).drop k):=by
  subst hlo hup
  exact cut_lh t e sz ht hi hsz A n c k h hk hh hc
theorem run_cutlh {o:Oper} {ev:Operand→Value} {P:Program} {w:World} {t:TypeId} {x y z:Operand} {A:Option Addr} {n c:Nat} {kl kh:IntKind} {lo hi:Int} {v:Value} {e:TypeId} (ho:o.op = .slice t x (some y) (some z) none) (ht:P.underlying t=some (.slice e)) (hx:ev x = .slice A n c) (hy:ev y = .int kl lo) (hz:ev z = .int kh hi)
    (hr:(Instr.slice t (.slice A n c) (some (.int kl lo)) (some (.int kh hi)) none).run P w = .ok v w) : (execOp ev o).run P w = .ok (.value v) w:=by
  have hu:(underlying t).run P w = .ok (.slice e) w:=run_underlying ht w
  unfold execOp
  simp only [ho,Option.map_some,Option.map_none,hx,hy,hz,Instr.sliceAt,Sem.run_bind,hu,hr,Result.andThen,Sem.run_pure]
theorem cut_fromI {P:Program} (t e:TypeId) (sz:Nat) {i:TypeInfo} (ht:P.underlying t=some (.slice e)) (hi:P.info? e=some i) (hsz:i.size=sz) (A:Option Addr) (n c:Nat) {lo:Int} (k:Nat) (hlo:lo=(k:Int)) (hk:k≤n) :
    ∃ A':Option Addr,(∀ (kl:IntKind) (W:World),(Instr.slice t (.slice A n c) (some (.int kl lo)) none none).run P W = .ok (.slice A' (n - k) (c - k)) W) ∧
      ∀ {α:Type} (m:Bool) (e':TypeId) (R:World→α→List Value→Prop) (w:World) (xs:List α),RdG m e' sz R w (.slice A n c) xs→RdG m e' sz R w (.slice A' (n - k) (c - k)) (xs.drop k):=by
  subst hlo
  exact cut_from t e sz ht hi hsz A n c k hk
end Go.Proofs.YtpglhicfhppaiaaGreat
