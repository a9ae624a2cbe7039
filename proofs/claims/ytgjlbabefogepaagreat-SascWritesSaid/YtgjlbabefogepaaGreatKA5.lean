/- Contracts of functions, part KA5. -/
import Derived.Test.YtgjlbabefogepaaGreatKA1
import Derived.Test.YtgjlbabefogepaaGreatKA2
import Derived.Test.YtgjlbabefogepaaGreatKA3
import Derived.Test.YtgjlbabefogepaaGreatKA4
import Derived.OpenShut
import Derived.Below
import Derived.Deep.Slices
import Derived.ChangeArms
import Derived.WideShapes
set_option linter.unusedVariables false
set_option linter.unusedSimpArgs false
namespace Go.Proofs.YtgjlbabefogepaaGreat
open Go.RowKit
def famW:Nat→Int→Msg→Option (List Int)
  | 1,dir,M=>writeOf parseCoils coilsLay dir M
  | 2,dir,M=>writeOf parseRegs regsLay dir M
  | 3,dir,M=>writeOf parseDiag diagLay dir M
  | 4,dir,M=>writeOf parseFiles filesLay dir M
  | 5,dir,M=>writeOf parseMei meiLay dir M
  | _,_,_=>none
def pduW (dir:Int) (M:Msg) : Option (List Int) :=
  if M.fail != 0 then (if dir != 1 then none else refW M)
  else match famW (cfam M.code) dir M with
    | none=>none
    | some l=>if decide (253≤(l.length:Int)) then none else some ([M.code]++l)
theorem objB_len:∀ (L:List Obj),(∀ r,r∈L→r.value.length≤1024)→(objB L).length≤1026 * L.length
  | [],_=>by simp [objB]
  | r :: L,h=>by
    have h1:=h r (by simp)
    have h2:=objB_len L fun x hx=>h x (by simp [hx])
    simp only [objB,List.length_append,List.length_cons,List.length_nil]
    omega
theorem filesB_len (dir c:Int) : ∀ (L:List Rec),(∀ r,r∈L→r.words.length≤1024)→(filesB dir c L).length≤2064 * L.length
  | [],_=>by simp [filesB]
  | r :: L,h=>by
    have h1:=h r (by simp)
    have h2:=filesB_len dir c L fun x hx=>h x (by simp [hx])
    simp only [filesB,recB]
    repeat' split
    all_goals simp only [List.length_append,List.length_cons,List.length_nil,putW_length]
    all_goals omega
theorem fam_len {M:Msg} (hf:MsgFew M) (dir:Int) : (coilsLay dir M).length≤1048576∧(regsLay dir M).length≤1048576∧(diagLay dir M).length≤1048576∧(meiLay dir M).length≤1048576∧(filesLay dir M).length≤1048576:=by
  have hp:(packB M.bits).length≤1024:=by
    have:=hf.bits
    simp only [packB,List.length_map,List.length_range,many]
    omega
  have h1:=hf.words
  have h2:=hf.data
  have h3:=hf.objects
  have h4:=objB_len M.objects hf.objv
  have h5:=filesB_len dir M.code M.recs hf.recw
  have h6:=hf.recs
  refine ⟨?_,?_,?_,?_,?_⟩
  · unfold coilsLay
    repeat' split
    all_goals simp only [List.length_append,List.length_cons,List.length_nil,putW_length]
    all_goals omega
  · unfold regsLay
    repeat' split
    all_goals simp only [List.length_append,List.length_cons,List.length_nil,putW_length]
    all_goals omega
  · unfold diagLay
    repeat' split
    all_goals simp only [List.length_append,List.length_cons,List.length_nil,putW_length]
    all_goals omega
  · unfold meiLay
    repeat' split
    all_goals simp only [List.length_append,List.length_cons,List.length_nil]
    all_goals omega
  · unfold filesLay
    simp only [List.length_set,List.length_append,List.length_cons,List.length_nil]
    omega
set_option maxRecDepth 100000 in
set_option maxHeartbeats 4000000 in
theorem pdu_write {m:Bool} {cs:Array Value} {M:Msg} {w:World} {dir:Int} (h:MsgRd m w cs.toList M) (hf:MsgFew M) : Calls Tryz.prog 47 #[.int .i64 dir,.agg cs] w (PWrite (pduW dir M) w):=by
 have hM:=h
 obtain ⟨vw,vb,vd,vr,vo,h0,hw,hbt,hd,hr,ho,hR⟩:=h
 obtain rfl:cs=(msgCells M vw vb vd vr vo).toArray:=by apply Array.toList_inj.1; simpa using h0
 clear h0
 obtain ⟨Aw,kw,rfl,_,_⟩:=hw.shape
 obtain ⟨Ab,kb,rfl,_,_⟩:=hbt.shape
 obtain ⟨Ad,kd,rfl,_,_⟩:=hd.shape
 obtain ⟨Ar,kr,rfl,_,_⟩:=hr.shape
 obtain ⟨Ao,ko,rfl,_,_⟩:=ho.shape
 obtain ⟨q0,q1,q2,q3,q4,q5,q6,q7,q8,q9,q10,q11,q16,q17,q18,q19,q20⟩:=hR
 simp only [B8,B16] at q0 q1 q2 q3 q4 q5 q6 q7 q8 q9 q10 q11 q16 q17 q18 q19 q20
 refine en 47 Tryz.func47 rfl<|sg<|L0<|Obx (mG M.code M.fail M.addr M.count M.value M.and_ M.or_ M.addr2 M.sub M.status M.events M.messages (.slice Aw M.words.length kw) (.slice Ab M.bits.length kb) (.slice Ad M.data.length kd) (.slice Ar M.recs.length kr) M.mei M.kind M.level M.more M.next (.slice Ao M.objects.length ko)) fun g10 w11 hg12 B13 hu14=>Pl 2<|nt<|sq<|sg<|Pl 1<|L0<|Olb B13 1<|Pl 1<|nl<|?_
 refine tn<|cb ((M.fail != 0)) (fun q15=>?_) (fun q15=>?_)
 have q15p:=ne_of_bnei q15
 refine sq<|sg<|Pl 2<|nt<|cb ((dir != 1)) (fun q16=>?_) (fun q16=>?_)
 have q16p:=ne_of_bnei q16
 refine sg<|Pl 2<|nt<|rt<|tr<|tr<|rr (.tuple #[.slice none 0 0,.int .i64 1])<|?_
 have hs:pduW dir M=none:=by
   unfold pduW
   (try simp only [q15,q16,bs,if_true,if_false,decide_true,decide_false,reduceIte])
   all_goals rfl
 refine ns_eq hs ?_
 exact ⟨rfl,hu14⟩
 have q16p:=eq_of_bnei q16
 refine skn<|sg<|L0<|Olw B13<|?_
 rcases hwr:refW M with _ | lw
 have r20:=MsgRd.old hM hu14
 have hw17:=ref_write r20
 rw [hwr] at hw17
 refine L0<|Oc<|m1 hw17 fun w18 hu19=>Pl 4<|nt<|rt<|tr<|rr (.tuple #[.slice none 0 0,.int .i64 1])<|?_
 have hs:pduW dir M=none:=by
   unfold pduW
   (try simp only [q15,q16,bs,if_true,if_false,decide_true,decide_false,hwr,reduceIte])
   all_goals rfl
 refine ns_eq hs ?_
 have U21:=ut0 hu14 hu19
 exact ⟨rfl,U21⟩
 have r25:=MsgRd.old hM hu14
 have hw22:=ref_write r25
 rw [hwr] at hw22
 refine L0<|Oc<|so2 hw22 fun A28 cp29 w23 rd32 hl30 hm31 hu24=>Pl 4<|nt<|rt<|tr<|rr (.tuple #[.slice A28 lw.length cp29,.int .i64 0])<|?_
 have hs:pduW dir M=(some lw):=by
   unfold pduW
   (try simp only [q15,q16,bs,if_true,if_false,decide_true,decide_false,hwr,reduceIte])
   all_goals rfl
 refine ns_eq hs ?_
 have U33:=ut0 hu14 hu24
 exact ⟨_,rfl,(OwnG.weaken rd32 hu14.size),U33⟩
 have q15p:=eq_of_bnei q15
 refine skn<|sg<|Pl 1<|L0<|Olb B13 0<|?_
 rcases cfam_dich M.code with ⟨hk,hkf⟩ | ⟨hk,hkf⟩ | ⟨hk,hkf⟩ | ⟨hk,hkf⟩ | ⟨hk,hkf⟩ | ⟨hk,hkf⟩
 have ho34:=of_any (x:=M.code) (w:=w11)
 rw [hkf] at ho34
 refine L0<|Oc<|m1 ho34 fun w35 hu36=>Pl 3<|L0<|Oal #[.nilFunc,.nilFunc] fun g37 w38 hg39 B40 hu41=>L0<|Osw B40 #[.func (.func 80) #[] #[],.func (.func 81) #[] #[]] fun w42 B43 hu44=>Pl 1<|nt<|sq<|sg<|Pl 2<|nt<|c0<|?_
 refine skn<|sg<|Pl 1<|L0<|Olb B43 1<|Pl 1<|?_
 have U45:=ut0 hu36 hu41
 have U46:=u1 U45 hu44 (ni hu36.size hg39)
 have r47:=ub U46 B13
 refine L0<|Olw r47<|?_
 have U48:=ut0 hu14 hu36
 have U49:=ut0 U48 hu41
 have U50:=u1 U49 hu44 (ni U48.size hg39)
 rcases hwr:writeOf parseCoils coilsLay dir M with _ | lw
 have r54:=MsgRd.old hM U50
 have hw51:=coils_write (dir:=dir) r54 hf (fam_len hf dir).1
 rw [hwr] at hw51
 refine L0<|Ocv #[] #[] (args:=#[.int .i64 dir,.agg (mG M.code M.fail M.addr M.count M.value M.and_ M.or_ M.addr2 M.sub M.status M.events M.messages (.slice Aw M.words.length kw) (.slice Ab M.bits.length kb) (.slice Ad M.data.length kd) (.slice Ar M.recs.length kr) M.mei M.kind M.level M.more M.next (.slice Ao M.objects.length ko))])<|m1 hw51 fun w52 hu53=>Pl 5<|nt<|sq<|sg<|Pl 7<|nt<|c1<|sg<|Pl 2<|nl<|?_
 refine tn<|rt<|tr<|rr (.tuple #[.slice none 0 0,.int .i64 1])<|?_
 have hs:pduW dir M=none:=by
   unfold pduW
   (try simp only [q15,bs,if_true,if_false,decide_true,decide_false,hkf,famW,hwr,reduceIte])
   all_goals rfl
 refine ns_eq hs ?_
 have U55:=ut0 U50 hu53
 exact ⟨rfl,U55⟩
 have r59:=MsgRd.old hM U50
 have hw56:=coils_write (dir:=dir) r59 hf (fam_len hf dir).1
 rw [hwr] at hw56
 refine L0<|Ocv #[] #[] (args:=#[.int .i64 dir,.agg (mG M.code M.fail M.addr M.count M.value M.and_ M.or_ M.addr2 M.sub M.status M.events M.messages (.slice Aw M.words.length kw) (.slice Ab M.bits.length kb) (.slice Ad M.data.length kd) (.slice Ar M.recs.length kr) M.mei M.kind M.level M.more M.next (.slice Ao M.objects.length ko))])<|so2 hw56 fun A62 cp63 w57 rd66 hl64 hm65 hu58=>Pl 5<|nt<|sq<|sg<|Pl 7<|nt<|?_
 have U67:=ut0 U50 hu58
 refine cb ((decide (253≤((lw.length:Nat) : Int)))) (fun q68=>?_) (fun q68=>?_)
 have q68p:=of_decide_eq_true q68
 refine sg<|Pl 2<|nt<|rt<|tr<|rr (.tuple #[.slice none 0 0,.int .i64 1])<|?_
 have hs:pduW dir M=none:=by
   unfold pduW
   (try simp only [q15,q68,bs,if_true,if_false,decide_true,decide_false,hkf,famW,hwr,reduceIte])
   all_goals rfl
 refine ns_eq hs ?_
 exact ⟨rfl,U67⟩
 have q68p:=of_decide_eq_false q68
 refine skn<|sg<|Pl 1<|?_
 have r69:=ub hu58 r47
 refine L0<|Olb r69 0<|L0<|Olt (m:=1) (e:=5) #[.int .u8 M.code] fun g70 w71 hg72 B73 hu74=>?_
 have ow75:=litB hg72 (xs:=[M.code]) (by as_aux_lemma=>kernel_rfl) (rng_cons (by omega) rng_nil) (by (try simp only [List.length_cons,List.length_nil]); omega) B73
 refine Pl 1<|?_
 have r76:=own_stay rd66 hu74 (fun x hx=>not0) (fun _ _ h=>h)
 refine L0<|Oapp one_u8 (xs:=([M.code])) (ys:=lw) (.int .u8 0) 1 ow75 (r76).rd (by (try simp only [List.length_append,List.length_cons,List.length_nil,putW_length]); omega) hu74.size fun A77 cp78 w79 ho80 hu81=>Pl 2<|nt<|rt<|rr (.tuple #[.slice A77 (([M.code]++lw).length) cp78,.int .i64 0])<|?_
 have hs:pduW dir M=(some ([M.code]++lw)):=by
   unfold pduW
   (try simp only [q15,q68,bs,if_true,if_false,decide_true,decide_false,hkf,famW,hwr,reduceIte])
   all_goals rfl
 refine ns_eq hs ?_
 have U82:=ut0 U67 hu74
 have U83:=ut U82 hu81 (all_app (ob_new ow75 U67.size) all0)
 exact ⟨_,rfl,(OwnG.weaken ho80 U67.size),U83⟩
 have ho84:=of_any (x:=M.code) (w:=w11)
 rw [hkf] at ho84
 refine L0<|Oc<|m1 ho84 fun w85 hu86=>Pl 3<|L0<|Oal #[.nilFunc,.nilFunc] fun g87 w88 hg89 B90 hu91=>L0<|Osw B90 #[.func (.func 82) #[] #[],.func (.func 83) #[] #[]] fun w92 B93 hu94=>Pl 1<|nt<|sq<|sg<|Pl 2<|nt<|c0<|?_
 refine skn<|sg<|Pl 1<|L0<|Olb B93 1<|Pl 1<|?_
 have U95:=ut0 hu86 hu91
 have U96:=u1 U95 hu94 (ni hu86.size hg89)
 have r97:=ub U96 B13
 refine L0<|Olw r97<|?_
 have U98:=ut0 hu14 hu86
 have U99:=ut0 U98 hu91
 have U100:=u1 U99 hu94 (ni U98.size hg89)
 rcases hwr:writeOf parseRegs regsLay dir M with _ | lw
 have r104:=MsgRd.old hM U100
 have hw101:=regs_write (dir:=dir) r104 hf (fam_len hf dir).2.1
 rw [hwr] at hw101
 refine L0<|Ocv #[] #[] (args:=#[.int .i64 dir,.agg (mG M.code M.fail M.addr M.count M.value M.and_ M.or_ M.addr2 M.sub M.status M.events M.messages (.slice Aw M.words.length kw) (.slice Ab M.bits.length kb) (.slice Ad M.data.length kd) (.slice Ar M.recs.length kr) M.mei M.kind M.level M.more M.next (.slice Ao M.objects.length ko))])<|m1 hw101 fun w102 hu103=>Pl 5<|nt<|sq<|sg<|Pl 7<|nt<|c1<|sg<|Pl 2<|nl<|?_
 refine tn<|rt<|tr<|rr (.tuple #[.slice none 0 0,.int .i64 1])<|?_
 have hs:pduW dir M=none:=by
   unfold pduW
   (try simp only [q15,bs,if_true,if_false,decide_true,decide_false,hkf,famW,hwr,reduceIte])
   all_goals rfl
 refine ns_eq hs ?_
 have U105:=ut0 U100 hu103
 exact ⟨rfl,U105⟩
 have r109:=MsgRd.old hM U100
 have hw106:=regs_write (dir:=dir) r109 hf (fam_len hf dir).2.1
 rw [hwr] at hw106
 refine L0<|Ocv #[] #[] (args:=#[.int .i64 dir,.agg (mG M.code M.fail M.addr M.count M.value M.and_ M.or_ M.addr2 M.sub M.status M.events M.messages (.slice Aw M.words.length kw) (.slice Ab M.bits.length kb) (.slice Ad M.data.length kd) (.slice Ar M.recs.length kr) M.mei M.kind M.level M.more M.next (.slice Ao M.objects.length ko))])<|so2 hw106 fun A112 cp113 w107 rd116 hl114 hm115 hu108=>Pl 5<|nt<|sq<|sg<|Pl 7<|nt<|?_
 have U117:=ut0 U100 hu108
 refine cb ((decide (253≤((lw.length:Nat) : Int)))) (fun q118=>?_) (fun q118=>?_)
 have q118p:=of_decide_eq_true q118
 refine sg<|Pl 2<|nt<|rt<|tr<|rr (.tuple #[.slice none 0 0,.int .i64 1])<|?_
 have hs:pduW dir M=none:=by
   unfold pduW
   (try simp only [q15,q118,bs,if_true,if_false,decide_true,decide_false,hkf,famW,hwr,reduceIte])
   all_goals rfl
 refine ns_eq hs ?_
 exact ⟨rfl,U117⟩
 have q118p:=of_decide_eq_false q118
 refine skn<|sg<|Pl 1<|?_
 have r119:=ub hu108 r97
 refine L0<|Olb r119 0<|L0<|Olt (m:=1) (e:=5) #[.int .u8 M.code] fun g120 w121 hg122 B123 hu124=>?_
 have ow125:=litB hg122 (xs:=[M.code]) (by as_aux_lemma=>kernel_rfl) (rng_cons (by omega) rng_nil) (by (try simp only [List.length_cons,List.length_nil]); omega) B123
 refine Pl 1<|?_
 have r126:=own_stay rd116 hu124 (fun x hx=>not0) (fun _ _ h=>h)
 refine L0<|Oapp one_u8 (xs:=([M.code])) (ys:=lw) (.int .u8 0) 1 ow125 (r126).rd (by (try simp only [List.length_append,List.length_cons,List.length_nil,putW_length]); omega) hu124.size fun A127 cp128 w129 ho130 hu131=>Pl 2<|nt<|rt<|rr (.tuple #[.slice A127 (([M.code]++lw).length) cp128,.int .i64 0])<|?_
 have hs:pduW dir M=(some ([M.code]++lw)):=by
   unfold pduW
   (try simp only [q15,q118,bs,if_true,if_false,decide_true,decide_false,hkf,famW,hwr,reduceIte])
   all_goals rfl
 refine ns_eq hs ?_
 have U132:=ut0 U117 hu124
 have U133:=ut U132 hu131 (all_app (ob_new ow125 U117.size) all0)
 exact ⟨_,rfl,(OwnG.weaken ho130 U117.size),U133⟩
 have ho134:=of_any (x:=M.code) (w:=w11)
 rw [hkf] at ho134
 refine L0<|Oc<|m1 ho134 fun w135 hu136=>Pl 3<|L0<|Oal #[.nilFunc,.nilFunc] fun g137 w138 hg139 B140 hu141=>L0<|Osw B140 #[.func (.func 84) #[] #[],.func (.func 85) #[] #[]] fun w142 B143 hu144=>Pl 1<|nt<|sq<|sg<|Pl 2<|nt<|c0<|?_
 refine skn<|sg<|Pl 1<|L0<|Olb B143 1<|Pl 1<|?_
 have U145:=ut0 hu136 hu141
 have U146:=u1 U145 hu144 (ni hu136.size hg139)
 have r147:=ub U146 B13
 refine L0<|Olw r147<|?_
 have U148:=ut0 hu14 hu136
 have U149:=ut0 U148 hu141
 have U150:=u1 U149 hu144 (ni U148.size hg139)
 rcases hwr:writeOf parseDiag diagLay dir M with _ | lw
 have r154:=MsgRd.old hM U150
 have hw151:=diag_write (dir:=dir) r154 hf (fam_len hf dir).2.2.1
 rw [hwr] at hw151
 refine L0<|Ocv #[] #[] (args:=#[.int .i64 dir,.agg (mG M.code M.fail M.addr M.count M.value M.and_ M.or_ M.addr2 M.sub M.status M.events M.messages (.slice Aw M.words.length kw) (.slice Ab M.bits.length kb) (.slice Ad M.data.length kd) (.slice Ar M.recs.length kr) M.mei M.kind M.level M.more M.next (.slice Ao M.objects.length ko))])<|m1 hw151 fun w152 hu153=>Pl 5<|nt<|sq<|sg<|Pl 7<|nt<|c1<|sg<|Pl 2<|nl<|?_
 refine tn<|rt<|tr<|rr (.tuple #[.slice none 0 0,.int .i64 1])<|?_
 have hs:pduW dir M=none:=by
   unfold pduW
   (try simp only [q15,bs,if_true,if_false,decide_true,decide_false,hkf,famW,hwr,reduceIte])
   all_goals rfl
 refine ns_eq hs ?_
 have U155:=ut0 U150 hu153
 exact ⟨rfl,U155⟩
 have r159:=MsgRd.old hM U150
 have hw156:=diag_write (dir:=dir) r159 hf (fam_len hf dir).2.2.1
 rw [hwr] at hw156
 refine L0<|Ocv #[] #[] (args:=#[.int .i64 dir,.agg (mG M.code M.fail M.addr M.count M.value M.and_ M.or_ M.addr2 M.sub M.status M.events M.messages (.slice Aw M.words.length kw) (.slice Ab M.bits.length kb) (.slice Ad M.data.length kd) (.slice Ar M.recs.length kr) M.mei M.kind M.level M.more M.next (.slice Ao M.objects.length ko))])<|so2 hw156 fun A162 cp163 w157 rd166 hl164 hm165 hu158=>Pl 5<|nt<|sq<|sg<|Pl 7<|nt<|?_
 have U167:=ut0 U150 hu158
 refine cb ((decide (253≤((lw.length:Nat) : Int)))) (fun q168=>?_) (fun q168=>?_)
 have q168p:=of_decide_eq_true q168
 refine sg<|Pl 2<|nt<|rt<|tr<|rr (.tuple #[.slice none 0 0,.int .i64 1])<|?_
 have hs:pduW dir M=none:=by
   unfold pduW
   (try simp only [q15,q168,bs,if_true,if_false,decide_true,decide_false,hkf,famW,hwr,reduceIte])
   all_goals rfl
 refine ns_eq hs ?_
 exact ⟨rfl,U167⟩
 have q168p:=of_decide_eq_false q168
 refine skn<|sg<|Pl 1<|?_
 have r169:=ub hu158 r147
 refine L0<|Olb r169 0<|L0<|Olt (m:=1) (e:=5) #[.int .u8 M.code] fun g170 w171 hg172 B173 hu174=>?_
 have ow175:=litB hg172 (xs:=[M.code]) (by as_aux_lemma=>kernel_rfl) (rng_cons (by omega) rng_nil) (by (try simp only [List.length_cons,List.length_nil]); omega) B173
 refine Pl 1<|?_
 have r176:=own_stay rd166 hu174 (fun x hx=>not0) (fun _ _ h=>h)
 refine L0<|Oapp one_u8 (xs:=([M.code])) (ys:=lw) (.int .u8 0) 1 ow175 (r176).rd (by (try simp only [List.length_append,List.length_cons,List.length_nil,putW_length]); omega) hu174.size fun A177 cp178 w179 ho180 hu181=>Pl 2<|nt<|rt<|rr (.tuple #[.slice A177 (([M.code]++lw).length) cp178,.int .i64 0])<|?_
 have hs:pduW dir M=(some ([M.code]++lw)):=by
   unfold pduW
   (try simp only [q15,q168,bs,if_true,if_false,decide_true,decide_false,hkf,famW,hwr,reduceIte])
   all_goals rfl
 refine ns_eq hs ?_
 have U182:=ut0 U167 hu174
 have U183:=ut U182 hu181 (all_app (ob_new ow175 U167.size) all0)
 exact ⟨_,rfl,(OwnG.weaken ho180 U167.size),U183⟩
 have ho184:=of_any (x:=M.code) (w:=w11)
 rw [hkf] at ho184
 refine L0<|Oc<|m1 ho184 fun w185 hu186=>Pl 3<|L0<|Oal #[.nilFunc,.nilFunc] fun g187 w188 hg189 B190 hu191=>L0<|Osw B190 #[.func (.func 86) #[] #[],.func (.func 87) #[] #[]] fun w192 B193 hu194=>Pl 1<|nt<|sq<|sg<|Pl 2<|nt<|c0<|?_
 refine skn<|sg<|Pl 1<|L0<|Olb B193 1<|Pl 1<|?_
 have U195:=ut0 hu186 hu191
 have U196:=u1 U195 hu194 (ni hu186.size hg189)
 have r197:=ub U196 B13
 refine L0<|Olw r197<|?_
 have U198:=ut0 hu14 hu186
 have U199:=ut0 U198 hu191
 have U200:=u1 U199 hu194 (ni U198.size hg189)
 rcases hwr:writeOf parseFiles filesLay dir M with _ | lw
 have r204:=MsgRd.old hM U200
 have hw201:=files_write (dir:=dir) r204 hf (fam_len hf dir).2.2.2.2
 rw [hwr] at hw201
 refine L0<|Ocv #[] #[] (args:=#[.int .i64 dir,.agg (mG M.code M.fail M.addr M.count M.value M.and_ M.or_ M.addr2 M.sub M.status M.events M.messages (.slice Aw M.words.length kw) (.slice Ab M.bits.length kb) (.slice Ad M.data.length kd) (.slice Ar M.recs.length kr) M.mei M.kind M.level M.more M.next (.slice Ao M.objects.length ko))])<|m1 hw201 fun w202 hu203=>Pl 5<|nt<|sq<|sg<|Pl 7<|nt<|c1<|sg<|Pl 2<|nl<|?_
 refine tn<|rt<|tr<|rr (.tuple #[.slice none 0 0,.int .i64 1])<|?_
 have hs:pduW dir M=none:=by
   unfold pduW
   (try simp only [q15,bs,if_true,if_false,decide_true,decide_false,hkf,famW,hwr,reduceIte])
   all_goals rfl
 refine ns_eq hs ?_
 have U205:=ut0 U200 hu203
 exact ⟨rfl,U205⟩
 have r209:=MsgRd.old hM U200
 have hw206:=files_write (dir:=dir) r209 hf (fam_len hf dir).2.2.2.2
 rw [hwr] at hw206
 refine L0<|Ocv #[] #[] (args:=#[.int .i64 dir,.agg (mG M.code M.fail M.addr M.count M.value M.and_ M.or_ M.addr2 M.sub M.status M.events M.messages (.slice Aw M.words.length kw) (.slice Ab M.bits.length kb) (.slice Ad M.data.length kd) (.slice Ar M.recs.length kr) M.mei M.kind M.level M.more M.next (.slice Ao M.objects.length ko))])<|so2 hw206 fun A212 cp213 w207 rd216 hl214 hm215 hu208=>Pl 5<|nt<|sq<|sg<|Pl 7<|nt<|?_
 have U217:=ut0 U200 hu208
 refine cb ((decide (253≤((lw.length:Nat) : Int)))) (fun q218=>?_) (fun q218=>?_)
 have q218p:=of_decide_eq_true q218
 refine sg<|Pl 2<|nt<|rt<|tr<|rr (.tuple #[.slice none 0 0,.int .i64 1])<|?_
 have hs:pduW dir M=none:=by
   unfold pduW
   (try simp only [q15,q218,bs,if_true,if_false,decide_true,decide_false,hkf,famW,hwr,reduceIte])
   all_goals rfl
 refine ns_eq hs ?_
 exact ⟨rfl,U217⟩
 have q218p:=of_decide_eq_false q218
 refine skn<|sg<|Pl 1<|?_
 have r219:=ub hu208 r197
 refine L0<|Olb r219 0<|L0<|Olt (m:=1) (e:=5) #[.int .u8 M.code] fun g220 w221 hg222 B223 hu224=>?_
 have ow225:=litB hg222 (xs:=[M.code]) (by as_aux_lemma=>kernel_rfl) (rng_cons (by omega) rng_nil) (by (try simp only [List.length_cons,List.length_nil]); omega) B223
 refine Pl 1<|?_
 have r226:=own_stay rd216 hu224 (fun x hx=>not0) (fun _ _ h=>h)
 refine L0<|Oapp one_u8 (xs:=([M.code])) (ys:=lw) (.int .u8 0) 1 ow225 (r226).rd (by (try simp only [List.length_append,List.length_cons,List.length_nil,putW_length]); omega) hu224.size fun A227 cp228 w229 ho230 hu231=>Pl 2<|nt<|rt<|rr (.tuple #[.slice A227 (([M.code]++lw).length) cp228,.int .i64 0])<|?_
 have hs:pduW dir M=(some ([M.code]++lw)):=by
   unfold pduW
   (try simp only [q15,q218,bs,if_true,if_false,decide_true,decide_false,hkf,famW,hwr,reduceIte])
   all_goals rfl
 refine ns_eq hs ?_
 have U232:=ut0 U217 hu224
 have U233:=ut U232 hu231 (all_app (ob_new ow225 U217.size) all0)
 exact ⟨_,rfl,(OwnG.weaken ho230 U217.size),U233⟩
 have ho234:=of_any (x:=M.code) (w:=w11)
 rw [hkf] at ho234
 refine L0<|Oc<|m1 ho234 fun w235 hu236=>Pl 3<|L0<|Oal #[.nilFunc,.nilFunc] fun g237 w238 hg239 B240 hu241=>L0<|Osw B240 #[.func (.func 88) #[] #[],.func (.func 89) #[] #[]] fun w242 B243 hu244=>Pl 1<|nt<|sq<|sg<|Pl 2<|nt<|c0<|?_
 refine skn<|sg<|Pl 1<|L0<|Olb B243 1<|Pl 1<|?_
 have U245:=ut0 hu236 hu241
 have U246:=u1 U245 hu244 (ni hu236.size hg239)
 have r247:=ub U246 B13
 refine L0<|Olw r247<|?_
 have U248:=ut0 hu14 hu236
 have U249:=ut0 U248 hu241
 have U250:=u1 U249 hu244 (ni U248.size hg239)
 rcases hwr:writeOf parseMei meiLay dir M with _ | lw
 have r254:=MsgRd.old hM U250
 have hw251:=mei_write (dir:=dir) r254 hf (fam_len hf dir).2.2.2.1
 rw [hwr] at hw251
 refine L0<|Ocv #[] #[] (args:=#[.int .i64 dir,.agg (mG M.code M.fail M.addr M.count M.value M.and_ M.or_ M.addr2 M.sub M.status M.events M.messages (.slice Aw M.words.length kw) (.slice Ab M.bits.length kb) (.slice Ad M.data.length kd) (.slice Ar M.recs.length kr) M.mei M.kind M.level M.more M.next (.slice Ao M.objects.length ko))])<|m1 hw251 fun w252 hu253=>Pl 5<|nt<|sq<|sg<|Pl 7<|nt<|c1<|sg<|Pl 2<|nl<|?_
 refine tn<|rt<|tr<|rr (.tuple #[.slice none 0 0,.int .i64 1])<|?_
 have hs:pduW dir M=none:=by
   unfold pduW
   (try simp only [q15,bs,if_true,if_false,decide_true,decide_false,hkf,famW,hwr,reduceIte])
   all_goals rfl
 refine ns_eq hs ?_
 have U255:=ut0 U250 hu253
 exact ⟨rfl,U255⟩
 have r259:=MsgRd.old hM U250
 have hw256:=mei_write (dir:=dir) r259 hf (fam_len hf dir).2.2.2.1
 rw [hwr] at hw256
 refine L0<|Ocv #[] #[] (args:=#[.int .i64 dir,.agg (mG M.code M.fail M.addr M.count M.value M.and_ M.or_ M.addr2 M.sub M.status M.events M.messages (.slice Aw M.words.length kw) (.slice Ab M.bits.length kb) (.slice Ad M.data.length kd) (.slice Ar M.recs.length kr) M.mei M.kind M.level M.more M.next (.slice Ao M.objects.length ko))])<|so2 hw256 fun A262 cp263 w257 rd266 hl264 hm265 hu258=>Pl 5<|nt<|sq<|sg<|Pl 7<|nt<|?_
 have U267:=ut0 U250 hu258
 refine cb ((decide (253≤((lw.length:Nat) : Int)))) (fun q268=>?_) (fun q268=>?_)
 have q268p:=of_decide_eq_true q268
 refine sg<|Pl 2<|nt<|rt<|tr<|rr (.tuple #[.slice none 0 0,.int .i64 1])<|?_
 have hs:pduW dir M=none:=by
   unfold pduW
   (try simp only [q15,q268,bs,if_true,if_false,decide_true,decide_false,hkf,famW,hwr,reduceIte])
   all_goals rfl
 refine ns_eq hs ?_
 exact ⟨rfl,U267⟩
 have q268p:=of_decide_eq_false q268
 refine skn<|sg<|Pl 1<|?_
 have r269:=ub hu258 r247
 refine L0<|Olb r269 0<|L0<|Olt (m:=1) (e:=5) #[.int .u8 M.code] fun g270 w271 hg272 B273 hu274=>?_
 have ow275:=litB hg272 (xs:=[M.code]) (by as_aux_lemma=>kernel_rfl) (rng_cons (by omega) rng_nil) (by (try simp only [List.length_cons,List.length_nil]); omega) B273
 refine Pl 1<|?_
 have r276:=own_stay rd266 hu274 (fun x hx=>not0) (fun _ _ h=>h)
 refine L0<|Oapp one_u8 (xs:=([M.code])) (ys:=lw) (.int .u8 0) 1 ow275 (r276).rd (by (try simp only [List.length_append,List.length_cons,List.length_nil,putW_length]); omega) hu274.size fun A277 cp278 w279 ho280 hu281=>Pl 2<|nt<|rt<|rr (.tuple #[.slice A277 (([M.code]++lw).length) cp278,.int .i64 0])<|?_
 have hs:pduW dir M=(some ([M.code]++lw)):=by
   unfold pduW
   (try simp only [q15,q268,bs,if_true,if_false,decide_true,decide_false,hkf,famW,hwr,reduceIte])
   all_goals rfl
 refine ns_eq hs ?_
 have U282:=ut0 U267 hu274
 have U283:=ut U282 hu281 (all_app (ob_new ow275 U267.size) all0)
 exact ⟨_,rfl,(OwnG.weaken ho280 U267.size),U283⟩
 have ho284:=of_any (x:=M.code) (w:=w11)
 rw [hkf] at ho284
 refine L0<|Oc<|m1 ho284 fun w285 hu286=>Pl 3<|L0<|Oal #[.nilFunc,.nilFunc] fun g287 w288 hg289 B290 hu291=>L0<|Osw B290 #[.nilFunc,.nilFunc] fun w292 B293 hu294=>Pl 1<|nt<|sq<|sg<|Pl 2<|nt<|c1<|?_
 refine sg<|Pl 2<|nt<|rt<|tr<|rr (.tuple #[.slice none 0 0,.int .i64 1])<|?_
 have hs:pduW dir M=none:=by
   unfold pduW
   (try simp only [q15,bs,if_true,if_false,decide_true,decide_false,hkf,famW,reduceIte])
   all_goals rfl
 refine ns_eq hs ?_
 have U295:=ut0 hu14 hu286
 have U296:=ut0 U295 hu291
 have U297:=u1 U296 hu294 (ni U295.size hg289)
 exact ⟨rfl,U297⟩
open Go.RowKit
theorem pm_eq {x y:Msg × Int} (h:x=y) {w:World} {e:Ending} {w':World} (k:PMsg y w e w') : PMsg x w e w':=by rw [h]; exact k
def famP:Nat→Int→List Int→Msg × Int
  | 1,dir,b=>parseOf coilsForm dir (b.getD 0 0) (b.drop 1)
  | 2,dir,b=>parseOf regsForm dir (b.getD 0 0) (b.drop 1)
  | 3,dir,b=>parseOf diagForm dir (b.getD 0 0) (b.drop 1)
  | 4,dir,b=>parseOf filesForm dir (b.getD 0 0) (b.drop 1)
  | 5,dir,b=>parseOf meiForm dir (b.getD 0 0) (b.drop 1)
  | _,_,_=>(Msg.zero,4)
def pduP (dir:Int) (b:List Int) : Msg × Int :=
  if dir != 0 && dir != 1 then (Msg.zero,1)
  else if (b.length:Int) == 0 then (Msg.zero,2)
  else if decide (253 < (b.length:Int)) then (Msg.zero,3)
  else if decide (128≤b.getD 0 0) && dir == 1 then refP b
  else famP (cfam (b.getD 0 0)) dir b
set_option maxRecDepth 100000 in
set_option maxHeartbeats 4000000 in
theorem pdu_parse0 {m:Bool} {A:Option Addr} {cp:Nat} {b:List Int} {w:World} {dir:Int} (hsl:RdB m w (.slice A b.length cp) b) (hb:b.length≤1048576) :
    Calls Tryz.prog 46 #[.int .i64 dir,.slice A b.length cp] w (PMsg (pduP dir b) w):=by
 have hln:(b.length:Int)≤1048576:=by omega
 refine en 60 Tryz.func46 rfl<|sg<|L0<|Oal mZ fun g10 w11 hg12 B13 hu14=>Pl 1<|nt<|sq<|bk<|sg<|Pl 3<|cu 3 [11] 14 (((dir != 0) && (dir != 1))) (fun K K16=>?_) ?_
 refine bl 11 ((dir != 0)) (fun q15=>?_) (fun q15=>?_)
 have q15p:=ne_of_bnei q15
 exact Pl 3<|ce K16 (dir != 1) (by rw [q15]; rfl)
 have q15p:=eq_of_bnei q15
 exact Pl 3<|ce K16 false (by rw [q15]; rfl)
 refine Pl 1<|nt<|cb (((dir != 0) && (dir != 1))) (fun q17=>?_) (fun q17=>?_)
 have q17a:=(and_t q17).1
 have q17b:=(and_t q17).2
 have q17ap:=ne_of_bnei q17a
 have q17bp:=ne_of_bnei q17b
 refine sg<|Pl 1<|L0<|Osw B13 mZ fun w18 B19 hu20=>Pl 1<|nt<|rt<|br<|tr<|rct B19 (.int .i64 1)<|?_
 have hs:pduP dir b=(Msg.zero,1):=by
   unfold pduP
   (try simp only [q17,q17a,q17b,bs,if_true,if_false,decide_true,decide_false,famP,reduceIte])
   all_goals rfl
 refine pm_eq hs ?_
 have U21:=u1 hu14 hu20 (nr hg12)
 exact bad_res U21
 refine sg<|Pl 4<|nt<|cb ((((b.length:Nat) : Int) == 0)) (fun q22=>?_) (fun q22=>?_)
 have q22p:=eq_of_beqi q22
 refine sg<|Pl 1<|L0<|Osw B13 mZ fun w23 B24 hu25=>Pl 1<|nt<|rt<|br<|tr<|rct B24 (.int .i64 2)<|?_
 have hs:pduP dir b=(Msg.zero,2):=by
   unfold pduP
   (try simp only [q17,q22,bs,if_true,if_false,decide_true,decide_false,famP,reduceIte])
   all_goals rfl
 refine pm_eq hs ?_
 have U26:=u1 hu14 hu25 (nr hg12)
 exact bad_res U26
 have q22p:=ne_of_beqi q22
 refine sg<|Pl 4<|nt<|cb ((decide (253 < ((b.length:Nat) : Int)))) (fun q27=>?_) (fun q27=>?_)
 have q27p:=of_decide_eq_true q27
 refine sg<|Pl 1<|L0<|Osw B13 mZ fun w28 B29 hu30=>Pl 1<|nt<|rt<|br<|tr<|rct B29 (.int .i64 3)<|?_
 have hs:pduP dir b=(Msg.zero,3):=by
   unfold pduP
   (try simp only [q17,q22,q27,bs,if_true,if_false,decide_true,decide_false,famP,reduceIte])
   all_goals rfl
 refine pm_eq hs ?_
 have U31:=u1 hu14 hu30 (nr hg12)
 exact bad_res U31
 have q27p:=of_decide_eq_false q27
 refine sg<|Pl 1<|?_
 have r32:=RdB.old hsl hu14
 refine x23 (RdB.at_ r32 0 (by omega)) fun b33 o34 hA35 hl36 hr37=>L0<|Oix b.length 0 hA35 (by omega)<|L0<|Old (p:=⟨b33,o34 + 0,none⟩) (v:=.int .u8 (b.getD 0 0)) hl36<|Pl 2<|cu 3 [31] 34 (((decide (128≤(b.getD 0 0))) && (dir == 1))) (fun K K39=>?_) ?_
 refine bl 31 ((decide (128≤(b.getD 0 0)))) (fun q38=>?_) (fun q38=>?_)
 have q38p:=of_decide_eq_true q38
 exact Pl 3<|ce K39 (dir == 1) (by rw [q38]; rfl)
 have q38p:=of_decide_eq_false q38
 exact Pl 3<|ce K39 false (by rw [q38]; rfl)
 refine Pl 1<|nt<|cb (((decide (128≤(b.getD 0 0))) && (dir == 1))) (fun q40=>?_) (fun q40=>?_)
 have q40a:=(and_t q40).1
 have q40b:=(and_t q40).2
 have q40ap:=of_decide_eq_true q40a
 have q40bp:=eq_of_beqi q40b
 refine sg<|Pl 1<|L0<|Oc<|e2 (ref_parse r32 (by omega)) fun cs42 w41 hM43 hu44=>Pl 2<|?_
 have r45:=ub hu44 B13
 refine L0<|Osw (hz:=(by rw [hM43.size]; exact msg_size)) (hv:=hM43.size) (h1:=hM43.one) r45 (cs42) fun w46 B47 hu48=>Pl 1<|nt<|rt<|br<|tr<|rctx 22 hM43.size B47 (.int .i64 (((refP b)).2))<|?_
 have hs:pduP dir b=(refP b):=by
   unfold pduP
   (try simp only [q17,q22,q27,q40,q40a,q40b,bs,if_true,if_false,decide_true,decide_false,famP,reduceIte])
   all_goals rfl
 refine pm_eq hs ?_
 have r49:=MsgRd.upd hM43 hu48 (safe_cons (safe1 r45 (by decide)) safe0)
 have U50:=ut0 hu14 hu44
 have U51:=u1 U50 hu48 (nr hg12)
 exact ⟨_,rfl,r49,U51⟩
 refine sk<|bn<|tn<|sg<|Pl 1<|L0<|Oix b.length 0 hA35 (by omega)<|L0<|Old (p:=⟨b33,o34 + 0,none⟩) (v:=.int .u8 (b.getD 0 0)) hl36<|?_
 rcases cfam_dich (b.getD 0 0) with ⟨hk,hkf⟩ | ⟨hk,hkf⟩ | ⟨hk,hkf⟩ | ⟨hk,hkf⟩ | ⟨hk,hkf⟩ | ⟨hk,hkf⟩
 have ho52:=of_any (x:=(b.getD 0 0)) (w:=w11)
 rw [hkf] at ho52
 refine L0<|Oc<|m1 ho52 fun w53 hu54=>Pl 3<|L0<|Oal #[.nilFunc,.nilFunc] fun g55 w56 hg57 B58 hu59=>L0<|Osw B58 #[.func (.func 80) #[] #[],.func (.func 81) #[] #[]] fun w60 B61 hu62=>Pl 1<|nt<|sq<|sg<|Pl 2<|nt<|c0<|?_
 refine skn<|sq<|?_
 have U83:=ut0 hu54 hu59
 have U84:=u1 U83 hu62 (ni hu54.size hg57)
 have r85:=RdB.old r32 U84
 refine x23 (RdB.at_ r85 0 (by omega)) fun b86 o87 hA88 hl89 hr90=>Rg 13 (fun w'=>w'.cell? ⟨g55,0,none⟩=some (.func (.func 80) #[] #[])∧w'.cell? ⟨b86,o87 + 0,none⟩=some (.int .u8 (b.getD 0 0))) fun w103 hu104=>?_
 have r106:=ub hu104 B61
 refine hld ⟨(blk_at r106 rfl),(uc hu104 hl89)⟩ fun hS105=>Rt 0 hS105<|Rl 1 hS105 (fun _ hs=>hs.1)<|Rt 2 hS105<|Rt 3 hS105<|Ri1 4 hS105 b.length 0 0 rfl hA88 (by omega)<|Rl 5 hS105 (fun _ hs=>hs.2)<|Rt 6 hS105<|x12 (cut_from (P:=Tryz.prog) 29 5 1 Tryz.underlying29 rfl rfl A b.length cp 1 (by omega)) fun A107 hrun108 hrd109=>?_
 have r110:=RdB.old r85 hu104
 refine Rr 7 hS105 (.slice A107 (b.length - 1) (cp - 1)) (fun _ _=>run_cutf (kl:=.i64) (k:=((1:Nat) : Int)) (A:=A) (n:=b.length) (c:=cp) rfl Tryz.underlying29 (by kernel_rfl) (by kernel_rfl) (hrun108 _ _))<|R0 8 rfl<|Ocv #[] #[] (args:=#[.int .i64 dir,.int .u8 (b.getD 0 0),.slice A107 (b.length - 1) (cp - 1)])<|e2 (coils_parse (dir:=dir) (c:=(b.getD 0 0)) (b8 (by omega)) (hrd109 _ _ _ _ _ r110) (by (try simp only [List.length_drop]); omega)) fun cs112 w111 hM113 hu114=>?_
 have r116:=ub hu114 r106
 have U117:=ut0 hu104 hu114
 refine hld ⟨(blk_at r116 rfl),(uc U117 hl89)⟩ fun hS115=>Rt 9 hS115<|Rt 10 hS115<|?_
 have U118:=ut0 U84 hu104
 have U119:=ut0 U118 hu114
 have r120:=ub U119 B13
 refine R0 11 rfl<|Osw (hz:=(by rw [hM113.size]; exact msg_size)) (hv:=hM113.size) (h1:=hM113.one) r120 (cs112) fun w121 B122 hu123=>?_
 have ne125:=nb (blk_lt B13) hu54.size hg57
 have r126:=ub1 hu123 (Ne.symm ne125) r116
 have U127:=u1 (Upd.mono (S':=[g10]) U117 all0) hu123 im
 have U128:=u1 (Upd.mono (S':=[g10]) hu114 all0) hu123 im
 have U129:=u1 (Upd.mono (S':=[g10]) U119 all0) hu123 im
 have U130:=ut0 hu14 hu54
 have U131:=ut0 U130 hu59
 have U132:=u1 U131 hu62 (ni U130.size hg57)
 have U133:=ut0 U132 hu104
 have U134:=ut0 U133 hu114
 have U135:=u1 U134 hu123 (nr hg12)
 have r136:=RdB.old hsl U135
 refine hld ⟨(blk_at r126 rfl),(cB r136 hA88 0 (by omega))⟩ fun hS124=>Rt 12 hS124<|re<|tn<|rt<|rctx 22 hM113.size B122 (.int .i64 (((parseOf coilsForm dir (b.getD 0 0) (b.drop 1))).2))<|?_
 have hs:pduP dir b=(parseOf coilsForm dir (b.getD 0 0) (b.drop 1)):=by
   unfold pduP
   (try simp only [q17,q22,q27,q40,bs,if_true,if_false,decide_true,decide_false,hkf,famP,reduceIte])
   all_goals rfl
 refine pm_eq hs ?_
 have r137:=MsgRd.upd hM113 hu123 (safe_cons (safe1 r120 (by decide)) safe0)
 exact ⟨_,rfl,r137,U135⟩
 have ho138:=of_any (x:=(b.getD 0 0)) (w:=w11)
 rw [hkf] at ho138
 refine L0<|Oc<|m1 ho138 fun w139 hu140=>Pl 3<|L0<|Oal #[.nilFunc,.nilFunc] fun g141 w142 hg143 B144 hu145=>L0<|Osw B144 #[.func (.func 82) #[] #[],.func (.func 83) #[] #[]] fun w146 B147 hu148=>Pl 1<|nt<|sq<|sg<|Pl 2<|nt<|c0<|?_
 refine skn<|sq<|?_
 have U169:=ut0 hu140 hu145
 have U170:=u1 U169 hu148 (ni hu140.size hg143)
 have r171:=RdB.old r32 U170
 refine x23 (RdB.at_ r171 0 (by omega)) fun b172 o173 hA174 hl175 hr176=>Rg 13 (fun w'=>w'.cell? ⟨g141,0,none⟩=some (.func (.func 82) #[] #[])∧w'.cell? ⟨b172,o173 + 0,none⟩=some (.int .u8 (b.getD 0 0))) fun w189 hu190=>?_
 have r192:=ub hu190 B147
 refine hld ⟨(blk_at r192 rfl),(uc hu190 hl175)⟩ fun hS191=>Rt 0 hS191<|Rl 1 hS191 (fun _ hs=>hs.1)<|Rt 2 hS191<|Rt 3 hS191<|Ri1 4 hS191 b.length 0 0 rfl hA174 (by omega)<|Rl 5 hS191 (fun _ hs=>hs.2)<|Rt 6 hS191<|x12 (cut_from (P:=Tryz.prog) 29 5 1 Tryz.underlying29 rfl rfl A b.length cp 1 (by omega)) fun A193 hrun194 hrd195=>?_
 have r196:=RdB.old r171 hu190
 refine Rr 7 hS191 (.slice A193 (b.length - 1) (cp - 1)) (fun _ _=>run_cutf (kl:=.i64) (k:=((1:Nat) : Int)) (A:=A) (n:=b.length) (c:=cp) rfl Tryz.underlying29 (by kernel_rfl) (by kernel_rfl) (hrun194 _ _))<|R0 8 rfl<|Ocv #[] #[] (args:=#[.int .i64 dir,.int .u8 (b.getD 0 0),.slice A193 (b.length - 1) (cp - 1)])<|e2 (regs_parse (dir:=dir) (c:=(b.getD 0 0)) (b8 (by omega)) (hrd195 _ _ _ _ _ r196) (by (try simp only [List.length_drop]); omega)) fun cs198 w197 hM199 hu200=>?_
 have r202:=ub hu200 r192
 have U203:=ut0 hu190 hu200
 refine hld ⟨(blk_at r202 rfl),(uc U203 hl175)⟩ fun hS201=>Rt 9 hS201<|Rt 10 hS201<|?_
 have U204:=ut0 U170 hu190
 have U205:=ut0 U204 hu200
 have r206:=ub U205 B13
 refine R0 11 rfl<|Osw (hz:=(by rw [hM199.size]; exact msg_size)) (hv:=hM199.size) (h1:=hM199.one) r206 (cs198) fun w207 B208 hu209=>?_
 have ne211:=nb (blk_lt B13) hu140.size hg143
 have r212:=ub1 hu209 (Ne.symm ne211) r202
 have U213:=u1 (Upd.mono (S':=[g10]) U203 all0) hu209 im
 have U214:=u1 (Upd.mono (S':=[g10]) hu200 all0) hu209 im
 have U215:=u1 (Upd.mono (S':=[g10]) U205 all0) hu209 im
 have U216:=ut0 hu14 hu140
 have U217:=ut0 U216 hu145
 have U218:=u1 U217 hu148 (ni U216.size hg143)
 have U219:=ut0 U218 hu190
 have U220:=ut0 U219 hu200
 have U221:=u1 U220 hu209 (nr hg12)
 have r222:=RdB.old hsl U221
 refine hld ⟨(blk_at r212 rfl),(cB r222 hA174 0 (by omega))⟩ fun hS210=>Rt 12 hS210<|re<|tn<|rt<|rctx 22 hM199.size B208 (.int .i64 (((parseOf regsForm dir (b.getD 0 0) (b.drop 1))).2))<|?_
 have hs:pduP dir b=(parseOf regsForm dir (b.getD 0 0) (b.drop 1)):=by
   unfold pduP
   (try simp only [q17,q22,q27,q40,bs,if_true,if_false,decide_true,decide_false,hkf,famP,reduceIte])
   all_goals rfl
 refine pm_eq hs ?_
 have r223:=MsgRd.upd hM199 hu209 (safe_cons (safe1 r206 (by decide)) safe0)
 exact ⟨_,rfl,r223,U221⟩
 have ho224:=of_any (x:=(b.getD 0 0)) (w:=w11)
 rw [hkf] at ho224
 refine L0<|Oc<|m1 ho224 fun w225 hu226=>Pl 3<|L0<|Oal #[.nilFunc,.nilFunc] fun g227 w228 hg229 B230 hu231=>L0<|Osw B230 #[.func (.func 84) #[] #[],.func (.func 85) #[] #[]] fun w232 B233 hu234=>Pl 1<|nt<|sq<|sg<|Pl 2<|nt<|c0<|?_
 refine skn<|sq<|?_
 have U255:=ut0 hu226 hu231
 have U256:=u1 U255 hu234 (ni hu226.size hg229)
 have r257:=RdB.old r32 U256
 refine x23 (RdB.at_ r257 0 (by omega)) fun b258 o259 hA260 hl261 hr262=>Rg 13 (fun w'=>w'.cell? ⟨g227,0,none⟩=some (.func (.func 84) #[] #[])∧w'.cell? ⟨b258,o259 + 0,none⟩=some (.int .u8 (b.getD 0 0))) fun w275 hu276=>?_
 have r278:=ub hu276 B233
 refine hld ⟨(blk_at r278 rfl),(uc hu276 hl261)⟩ fun hS277=>Rt 0 hS277<|Rl 1 hS277 (fun _ hs=>hs.1)<|Rt 2 hS277<|Rt 3 hS277<|Ri1 4 hS277 b.length 0 0 rfl hA260 (by omega)<|Rl 5 hS277 (fun _ hs=>hs.2)<|Rt 6 hS277<|x12 (cut_from (P:=Tryz.prog) 29 5 1 Tryz.underlying29 rfl rfl A b.length cp 1 (by omega)) fun A279 hrun280 hrd281=>?_
 have r282:=RdB.old r257 hu276
 refine Rr 7 hS277 (.slice A279 (b.length - 1) (cp - 1)) (fun _ _=>run_cutf (kl:=.i64) (k:=((1:Nat) : Int)) (A:=A) (n:=b.length) (c:=cp) rfl Tryz.underlying29 (by kernel_rfl) (by kernel_rfl) (hrun280 _ _))<|R0 8 rfl<|Ocv #[] #[] (args:=#[.int .i64 dir,.int .u8 (b.getD 0 0),.slice A279 (b.length - 1) (cp - 1)])<|e2 (diag_parse (dir:=dir) (c:=(b.getD 0 0)) (b8 (by omega)) (hrd281 _ _ _ _ _ r282) (by (try simp only [List.length_drop]); omega)) fun cs284 w283 hM285 hu286=>?_
 have r288:=ub hu286 r278
 have U289:=ut0 hu276 hu286
 refine hld ⟨(blk_at r288 rfl),(uc U289 hl261)⟩ fun hS287=>Rt 9 hS287<|Rt 10 hS287<|?_
 have U290:=ut0 U256 hu276
 have U291:=ut0 U290 hu286
 have r292:=ub U291 B13
 refine R0 11 rfl<|Osw (hz:=(by rw [hM285.size]; exact msg_size)) (hv:=hM285.size) (h1:=hM285.one) r292 (cs284) fun w293 B294 hu295=>?_
 have ne297:=nb (blk_lt B13) hu226.size hg229
 have r298:=ub1 hu295 (Ne.symm ne297) r288
 have U299:=u1 (Upd.mono (S':=[g10]) U289 all0) hu295 im
 have U300:=u1 (Upd.mono (S':=[g10]) hu286 all0) hu295 im
 have U301:=u1 (Upd.mono (S':=[g10]) U291 all0) hu295 im
 have U302:=ut0 hu14 hu226
 have U303:=ut0 U302 hu231
 have U304:=u1 U303 hu234 (ni U302.size hg229)
 have U305:=ut0 U304 hu276
 have U306:=ut0 U305 hu286
 have U307:=u1 U306 hu295 (nr hg12)
 have r308:=RdB.old hsl U307
 refine hld ⟨(blk_at r298 rfl),(cB r308 hA260 0 (by omega))⟩ fun hS296=>Rt 12 hS296<|re<|tn<|rt<|rctx 22 hM285.size B294 (.int .i64 (((parseOf diagForm dir (b.getD 0 0) (b.drop 1))).2))<|?_
 have hs:pduP dir b=(parseOf diagForm dir (b.getD 0 0) (b.drop 1)):=by
   unfold pduP
   (try simp only [q17,q22,q27,q40,bs,if_true,if_false,decide_true,decide_false,hkf,famP,reduceIte])
   all_goals rfl
 refine pm_eq hs ?_
 have r309:=MsgRd.upd hM285 hu295 (safe_cons (safe1 r292 (by decide)) safe0)
 exact ⟨_,rfl,r309,U307⟩
 have ho310:=of_any (x:=(b.getD 0 0)) (w:=w11)
 rw [hkf] at ho310
 refine L0<|Oc<|m1 ho310 fun w311 hu312=>Pl 3<|L0<|Oal #[.nilFunc,.nilFunc] fun g313 w314 hg315 B316 hu317=>L0<|Osw B316 #[.func (.func 86) #[] #[],.func (.func 87) #[] #[]] fun w318 B319 hu320=>Pl 1<|nt<|sq<|sg<|Pl 2<|nt<|c0<|?_
 refine skn<|sq<|?_
 have U341:=ut0 hu312 hu317
 have U342:=u1 U341 hu320 (ni hu312.size hg315)
 have r343:=RdB.old r32 U342
 refine x23 (RdB.at_ r343 0 (by omega)) fun b344 o345 hA346 hl347 hr348=>Rg 13 (fun w'=>w'.cell? ⟨g313,0,none⟩=some (.func (.func 86) #[] #[])∧w'.cell? ⟨b344,o345 + 0,none⟩=some (.int .u8 (b.getD 0 0))) fun w361 hu362=>?_
 have r364:=ub hu362 B319
 refine hld ⟨(blk_at r364 rfl),(uc hu362 hl347)⟩ fun hS363=>Rt 0 hS363<|Rl 1 hS363 (fun _ hs=>hs.1)<|Rt 2 hS363<|Rt 3 hS363<|Ri1 4 hS363 b.length 0 0 rfl hA346 (by omega)<|Rl 5 hS363 (fun _ hs=>hs.2)<|Rt 6 hS363<|x12 (cut_from (P:=Tryz.prog) 29 5 1 Tryz.underlying29 rfl rfl A b.length cp 1 (by omega)) fun A365 hrun366 hrd367=>?_
 have r368:=RdB.old r343 hu362
 refine Rr 7 hS363 (.slice A365 (b.length - 1) (cp - 1)) (fun _ _=>run_cutf (kl:=.i64) (k:=((1:Nat) : Int)) (A:=A) (n:=b.length) (c:=cp) rfl Tryz.underlying29 (by kernel_rfl) (by kernel_rfl) (hrun366 _ _))<|R0 8 rfl<|Ocv #[] #[] (args:=#[.int .i64 dir,.int .u8 (b.getD 0 0),.slice A365 (b.length - 1) (cp - 1)])<|e2 (files_parse (dir:=dir) (c:=(b.getD 0 0)) (b8 (by omega)) (hrd367 _ _ _ _ _ r368) (by (try simp only [List.length_drop]); omega)) fun cs370 w369 hM371 hu372=>?_
 have r374:=ub hu372 r364
 have U375:=ut0 hu362 hu372
 refine hld ⟨(blk_at r374 rfl),(uc U375 hl347)⟩ fun hS373=>Rt 9 hS373<|Rt 10 hS373<|?_
 have U376:=ut0 U342 hu362
 have U377:=ut0 U376 hu372
 have r378:=ub U377 B13
 refine R0 11 rfl<|Osw (hz:=(by rw [hM371.size]; exact msg_size)) (hv:=hM371.size) (h1:=hM371.one) r378 (cs370) fun w379 B380 hu381=>?_
 have ne383:=nb (blk_lt B13) hu312.size hg315
 have r384:=ub1 hu381 (Ne.symm ne383) r374
 have U385:=u1 (Upd.mono (S':=[g10]) U375 all0) hu381 im
 have U386:=u1 (Upd.mono (S':=[g10]) hu372 all0) hu381 im
 have U387:=u1 (Upd.mono (S':=[g10]) U377 all0) hu381 im
 have U388:=ut0 hu14 hu312
 have U389:=ut0 U388 hu317
 have U390:=u1 U389 hu320 (ni U388.size hg315)
 have U391:=ut0 U390 hu362
 have U392:=ut0 U391 hu372
 have U393:=u1 U392 hu381 (nr hg12)
 have r394:=RdB.old hsl U393
 refine hld ⟨(blk_at r384 rfl),(cB r394 hA346 0 (by omega))⟩ fun hS382=>Rt 12 hS382<|re<|tn<|rt<|rctx 22 hM371.size B380 (.int .i64 (((parseOf filesForm dir (b.getD 0 0) (b.drop 1))).2))<|?_
 have hs:pduP dir b=(parseOf filesForm dir (b.getD 0 0) (b.drop 1)):=by
   unfold pduP
   (try simp only [q17,q22,q27,q40,bs,if_true,if_false,decide_true,decide_false,hkf,famP,reduceIte])
   all_goals rfl
 refine pm_eq hs ?_
 have r395:=MsgRd.upd hM371 hu381 (safe_cons (safe1 r378 (by decide)) safe0)
 exact ⟨_,rfl,r395,U393⟩
 have ho396:=of_any (x:=(b.getD 0 0)) (w:=w11)
 rw [hkf] at ho396
 refine L0<|Oc<|m1 ho396 fun w397 hu398=>Pl 3<|L0<|Oal #[.nilFunc,.nilFunc] fun g399 w400 hg401 B402 hu403=>L0<|Osw B402 #[.func (.func 88) #[] #[],.func (.func 89) #[] #[]] fun w404 B405 hu406=>Pl 1<|nt<|sq<|sg<|Pl 2<|nt<|c0<|?_
 refine skn<|sq<|?_
 have U427:=ut0 hu398 hu403
 have U428:=u1 U427 hu406 (ni hu398.size hg401)
 have r429:=RdB.old r32 U428
 refine x23 (RdB.at_ r429 0 (by omega)) fun b430 o431 hA432 hl433 hr434=>Rg 13 (fun w'=>w'.cell? ⟨g399,0,none⟩=some (.func (.func 88) #[] #[])∧w'.cell? ⟨b430,o431 + 0,none⟩=some (.int .u8 (b.getD 0 0))) fun w447 hu448=>?_
 have r450:=ub hu448 B405
 refine hld ⟨(blk_at r450 rfl),(uc hu448 hl433)⟩ fun hS449=>Rt 0 hS449<|Rl 1 hS449 (fun _ hs=>hs.1)<|Rt 2 hS449<|Rt 3 hS449<|Ri1 4 hS449 b.length 0 0 rfl hA432 (by omega)<|Rl 5 hS449 (fun _ hs=>hs.2)<|Rt 6 hS449<|x12 (cut_from (P:=Tryz.prog) 29 5 1 Tryz.underlying29 rfl rfl A b.length cp 1 (by omega)) fun A451 hrun452 hrd453=>?_
 have r454:=RdB.old r429 hu448
 refine Rr 7 hS449 (.slice A451 (b.length - 1) (cp - 1)) (fun _ _=>run_cutf (kl:=.i64) (k:=((1:Nat) : Int)) (A:=A) (n:=b.length) (c:=cp) rfl Tryz.underlying29 (by kernel_rfl) (by kernel_rfl) (hrun452 _ _))<|R0 8 rfl<|Ocv #[] #[] (args:=#[.int .i64 dir,.int .u8 (b.getD 0 0),.slice A451 (b.length - 1) (cp - 1)])<|e2 (mei_parse (dir:=dir) (c:=(b.getD 0 0)) (b8 (by omega)) (hrd453 _ _ _ _ _ r454) (by (try simp only [List.length_drop]); omega)) fun cs456 w455 hM457 hu458=>?_
 have r460:=ub hu458 r450
 have U461:=ut0 hu448 hu458
 refine hld ⟨(blk_at r460 rfl),(uc U461 hl433)⟩ fun hS459=>Rt 9 hS459<|Rt 10 hS459<|?_
 have U462:=ut0 U428 hu448
 have U463:=ut0 U462 hu458
 have r464:=ub U463 B13
 refine R0 11 rfl<|Osw (hz:=(by rw [hM457.size]; exact msg_size)) (hv:=hM457.size) (h1:=hM457.one) r464 (cs456) fun w465 B466 hu467=>?_
 have ne469:=nb (blk_lt B13) hu398.size hg401
 have r470:=ub1 hu467 (Ne.symm ne469) r460
 have U471:=u1 (Upd.mono (S':=[g10]) U461 all0) hu467 im
 have U472:=u1 (Upd.mono (S':=[g10]) hu458 all0) hu467 im
 have U473:=u1 (Upd.mono (S':=[g10]) U463 all0) hu467 im
 have U474:=ut0 hu14 hu398
 have U475:=ut0 U474 hu403
 have U476:=u1 U475 hu406 (ni U474.size hg401)
 have U477:=ut0 U476 hu448
 have U478:=ut0 U477 hu458
 have U479:=u1 U478 hu467 (nr hg12)
 have r480:=RdB.old hsl U479
 refine hld ⟨(blk_at r470 rfl),(cB r480 hA432 0 (by omega))⟩ fun hS468=>Rt 12 hS468<|re<|tn<|rt<|rctx 22 hM457.size B466 (.int .i64 (((parseOf meiForm dir (b.getD 0 0) (b.drop 1))).2))<|?_
 have hs:pduP dir b=(parseOf meiForm dir (b.getD 0 0) (b.drop 1)):=by
   unfold pduP
   (try simp only [q17,q22,q27,q40,bs,if_true,if_false,decide_true,decide_false,hkf,famP,reduceIte])
   all_goals rfl
 refine pm_eq hs ?_
 have r481:=MsgRd.upd hM457 hu467 (safe_cons (safe1 r464 (by decide)) safe0)
 exact ⟨_,rfl,r481,U479⟩
 have ho482:=of_any (x:=(b.getD 0 0)) (w:=w11)
 rw [hkf] at ho482
 refine L0<|Oc<|m1 ho482 fun w483 hu484=>Pl 3<|L0<|Oal #[.nilFunc,.nilFunc] fun g485 w486 hg487 B488 hu489=>L0<|Osw B488 #[.nilFunc,.nilFunc] fun w490 B491 hu492=>Pl 1<|nt<|sq<|sg<|Pl 2<|nt<|c1<|?_
 refine sg<|Pl 1<|?_
 have U493:=ut0 hu484 hu489
 have U494:=u1 U493 hu492 (ni hu484.size hg487)
 have r495:=ub U494 B13
 refine L0<|Osw r495 mZ fun w496 B497 hu498=>Pl 1<|nt<|rt<|tr<|rct B497 (.int .i64 4)<|?_
 have hs:pduP dir b=(Msg.zero,4):=by
   unfold pduP
   (try simp only [q17,q22,q27,q40,bs,if_true,if_false,decide_true,decide_false,hkf,famP,reduceIte])
   all_goals rfl
 refine pm_eq hs ?_
 have U499:=ut0 hu14 hu484
 have U500:=ut0 U499 hu489
 have U501:=u1 U500 hu492 (ni U499.size hg487)
 have U502:=u1 U501 hu498 (nr hg12)
 exact bad_res U502
theorem pdu_parse {m:Bool} {v:Value} {b:List Int} {w:World} {dir:Int} (h:RdB m w v b) (hb:b.length≤1048576) : Calls Tryz.prog 46 #[.int .i64 dir,v] w (PMsg (pduP dir b) w):=by
  obtain ⟨A,cp,rfl,_,_⟩:=h.shape
  exact pdu_parse0 h hb
end Go.Proofs.YtgjlbabefogepaaGreat
namespace Go.Proofs.YtgjlbabefogepaaGreat
def N1 (C:Cur) : Prop:=C.e ≠ 1
theorem N1.need {C:Cur} {b:Bool} {x:Int} (hx:x ≠ 1) (h:N1 C) : N1 (C.need b x):=by
  unfold N1 Cur.need at *
  split
  · exact hx
  · exact h
theorem N1.bytesC {C:Cur} {n:Int} (h:N1 C) : N1 (C.bytesC n):=by
  unfold Cur.bytesC
  split
  · exact N1.need (by decide) h
  · exact h
theorem N1.wordsC {C:Cur} {n:Int} (h:N1 C) : N1 (C.wordsC n):=by
  unfold Cur.wordsC
  split <;> exact N1.bytesC h
theorem N1.recs {one:Int→Cur→Int × Cur × Rec} (ho:∀ s C,N1 C→N1 (one s C).2.1) : ∀ (n:Nat) (s:Int) (C:Cur) (L:List Rec),N1 C→N1 (recsR one n s C L).1
  | 0,_,_,_,h=>h
  | n + 1,s,C,L,h=>by
    unfold recsR
    split
    · split
      · exact ho s C h
      · exact N1.recs ho n _ _ _ (ho s C h)
    · exact h
theorem N1.objs:∀ (n:Nat) (C:Cur) (L:List Obj),N1 C→N1 (objsR n C L).1
  | 0,_,_,h=>h
  | n + 1,C,L,h=>N1.objs n _ _ (N1.bytesC (N1.bytesC (N1.bytesC h)))
theorem within_ne {x:Int} (h:x ≠ 1) : withinE x ≠ 1:=by
  unfold withinE
  split
  · decide
  · exact h
def Good (c:Int) (r:Cur × Msg) : Prop:=N1 r.1∧r.2.code=c∧r.2.fail=0
theorem coils_good {dir c:Int} {C:Cur} {r:Cur × Msg} (hC:N1 C) (h:coilsForm dir c C=some r) : Good c r:=by
  unfold coilsForm at h
  repeat' split at h
  all_goals first | cases h | skip
  all_goals refine ⟨?_,rfl,rfl⟩
  all_goals simp only [asksR,ctoldR,csetsR,csmR,spanC,spanC1,setsC,toldC2,smC,smC2]
  all_goals repeat' first | with_reducible exact hC | with_reducible apply N1.bytesC | with_reducible apply N1.wordsC | (with_reducible refine N1.need (by decide) ?_)
theorem regs_good {dir c:Int} {C:Cur} {r:Cur × Msg} (hC:N1 C) (h:regsForm dir c C=some r) : Good c r:=by
  unfold regsForm at h
  repeat' split at h
  all_goals first | cases h | skip
  all_goals refine ⟨?_,rfl,rfl⟩
  all_goals simp only [rasksR,rtoldR,roneR,rmanyR,rmaskR,rbothR,raskqR,rqR,rmanyC,rbothC,rspanC,told3,countedC1,both1,both2,q2C,q1C]
  all_goals repeat' first | with_reducible exact hC | with_reducible apply N1.bytesC | with_reducible apply N1.wordsC | (with_reducible refine N1.need (by decide) ?_)
theorem diag_good {dir c:Int} {C:Cur} {r:Cur × Msg} (hC:N1 C) (h:diagForm dir c C=some r) : Good c r:=by
  unfold diagForm lineR answerR at h
  repeat' split at h
  all_goals first | cases h | skip
  all_goals refine ⟨?_,rfl,rfl⟩
  all_goals simp only [line1,line2,ansL,ans12,busyC]
  all_goals repeat' first | with_reducible exact hC | with_reducible apply N1.bytesC | with_reducible apply N1.wordsC | (with_reducible refine N1.need (by decide) ?_)
theorem mei_good {dir c:Int} {C:Cur} {r:Cur × Msg} (hC:N1 C) (h:meiForm dir c C=some r) : Good c r:=by
  unfold meiForm at h
  repeat' split at h
  all_goals first | cases h | skip
  all_goals refine ⟨?_,rfl,rfl⟩
  all_goals simp only [meiA,meiB,meiD,meiObjs,mei1,mei2,mei3,mei4]
  all_goals repeat' first | with_reducible exact hC | with_reducible apply N1.bytesC | with_reducible apply N1.wordsC | with_reducible apply N1.objs | (with_reducible refine N1.need (by decide) ?_)
theorem askO_n1 (s:Int) (C:Cur) (h:N1 C) : N1 (askO s C).2.1:=by
  simp only [askO,askedC,headC,hd1,hd2,hd3]
  repeat' first | with_reducible exact h | with_reducible apply N1.bytesC | with_reducible apply N1.wordsC | (with_reducible refine N1.need (by decide) ?_)
theorem toldO_n1 (s:Int) (C:Cur) (h:N1 C) : N1 (toldO s C).2.1:=by
  simp only [toldO,toldC,told1,told2]
  repeat' first | with_reducible exact h | with_reducible apply N1.bytesC | with_reducible apply N1.wordsC | (with_reducible refine N1.need (by decide) ?_)
theorem wrtO_n1 (s:Int) (C:Cur) (h:N1 C) : N1 (wrtO s C).2.1:=by
  simp only [wrtO,wrtC,wrt1,headC,hd1,hd2,hd3]
  repeat' first | with_reducible exact h | with_reducible apply N1.bytesC | with_reducible apply N1.wordsC | (with_reducible refine N1.need (by decide) ?_)
theorem filesR_n1 {one:Int→Cur→Int × Cur × Rec} (ho:∀ s C,N1 C→N1 (one s C).2.1) (may:Int→Bool) (c:Int) {C:Cur} (hC:N1 C) : N1 (filesR one may c C).1:=by
  unfold filesR fl1
  refine N1.need (within_ne (N1.recs ho _ _ _ _ ?_)) (N1.bytesC (N1.need (by decide) (N1.bytesC hC)))
  show (0:Int) ≠ 1
  decide
theorem files_good {dir c:Int} {C:Cur} {r:Cur × Msg} (hC:N1 C) (h:filesForm dir c C=some r) : Good c r:=by
  unfold filesForm at h
  repeat' split at h
  all_goals first | cases h | skip
  · exact ⟨filesR_n1 askO_n1 _ _ hC,rfl,rfl⟩
  · exact ⟨filesR_n1 toldO_n1 _ _ hC,rfl,rfl⟩
  · exact ⟨filesR_n1 wrtO_n1 _ _ hC,rfl,rfl⟩
theorem N1.endC {C:Cur} (h:N1 C) : N1 C.endC:=by
  unfold Cur.endC
  exact N1.need (by decide) h
theorem parse_good {form:Int→Int→Cur→Option (Cur × Msg)} (hg:∀ {dir c:Int} {C:Cur} {r:Cur × Msg},N1 C→form dir c C=some r→Good c r) {dir c:Int} {b:List Int} (hd:dir=0∨dir=1) {M:Msg} {E:Int} (h:parseOf form dir c b=(M,E)) :
    E ≠ 1∧(E=0→M.code=c∧M.fail=0):=by
  unfold parseOf at h
  rw [if_pos hd] at h
  have h0:N1 ⟨b,false,0⟩:=by show (0:Int) ≠ 1; decide
  split at h
  · injection h with h1 h2
    subst h1 h2
    exact ⟨by decide,fun h=>by cases h⟩
  · rename_i r hr
    obtain ⟨g1,g2,g3⟩:=hg h0 hr
    unfold finish at h
    split at h
    · injection h with h1 h2
      subst h1 h2
      exact ⟨by decide,fun _=>⟨g2,g3⟩⟩
    · rename_i hne
      injection h with h1 h2
      subst h1 h2
      exact ⟨N1.endC g1,fun h=>absurd h hne⟩
end Go.Proofs.YtgjlbabefogepaaGreat
namespace Go.Proofs.YtgjlbabefogepaaGreat
theorem code_tab:∀ n:Nat,n < 256→(publicB (n:Int)=pub7 (n:Int))∧(pub7 (n:Int)=false→cfam (n:Int)=0)∧(128≤n→pub7 (n:Int)=false):=by decide +kernel
theorem code_tabI {x:Int} (h:0≤x∧x < 256) : publicB x=pub7 x∧(pub7 x=false→cfam x=0)∧(128≤x→pub7 x=false):=by
  obtain ⟨n,rfl⟩:=Int.eq_ofNat_of_zero_le h.1
  obtain ⟨a,b,c⟩:=code_tab n (by omega)
  exact ⟨a,b,fun h=>c (by omega)⟩
theorem famP_good {dir:Int} {b:List Int} (hd:dir=0∨dir=1) {k:Nat} {M:Msg} {E:Int} (h:famP k dir b=(M,E)) : E ≠ 1∧(E=0→M.code=b.getD 0 0∧M.fail=0):=by
  unfold famP at h
  split at h
  · exact parse_good (fun hC h=>coils_good hC h) hd h
  · exact parse_good (fun hC h=>regs_good hC h) hd h
  · exact parse_good (fun hC h=>diag_good hC h) hd h
  · exact parse_good (fun hC h=>files_good hC h) hd h
  · exact parse_good (fun hC h=>mei_good hC h) hd h
  · injection h with h1 h2
    subst h1 h2
    exact ⟨by decide,fun h=>by cases h⟩
theorem refP_ok {b:List Int} {M:Msg} (h:refP b=(M,0)) : M=refM ((b.getD 0 0 - 128) % 256) (b.getD 1 0)∧128≤b.getD 0 0∧publicB ((b.getD 0 0 - 128) % 256)=true∧failureB (b.getD 1 0)=true∧b.length=2:=by
  unfold refP at h
  split at h
  · cases h
  split at h
  · cases h
  split at h
  · cases h
  split at h
  · cases h
  split at h
  · cases h
  split at h
  · cases h
  injection h with h1 h2
  simp only [decide_eq_true_eq,Bool.not_eq_true',Bool.not_eq_true,beq_iff_eq,Bool.not_eq_false'] at *
  refine ⟨h1.symm,by omega,by simp_all,by simp_all,by omega⟩
end Go.Proofs.YtgjlbabefogepaaGreat
namespace Go.Proofs.YtgjlbabefogepaaGreat
theorem writeOf_some {parse:Int→Int→List Int→Msg × Int} {lay:Int→Msg→List Int} {dir:Int} {M:Msg} {l:List Int} (h:writeOf parse lay dir M=some l) : parse dir M.code l=(M,0)∧l=lay dir M:=by
  unfold writeOf at h
  split at h
  · rename_i hh
    injection h with h
    subst h
    exact ⟨hh,rfl⟩
  · cases h
theorem famW_some {k:Nat} {dir:Int} {M:Msg} {l:List Int} (h:famW k dir M=some l) : k ≠ 0∧famP k dir ([M.code]++l)=(M,0):=by
  unfold famW at h
  split at h
  · exact ⟨by decide,(writeOf_some h).1⟩
  · exact ⟨by decide,(writeOf_some h).1⟩
  · exact ⟨by decide,(writeOf_some h).1⟩
  · exact ⟨by decide,(writeOf_some h).1⟩
  · exact ⟨by decide,(writeOf_some h).1⟩
  · cases h
theorem refW_some {M:Msg} {l:List Int} (h:refW M=some l) : publicB M.code=true∧failureB M.fail=true∧M=refM M.code M.fail∧l=[(M.code + 128) % 256,M.fail]:=by
  unfold refW at h
  split at h
  · cases h
  split at h
  · cases h
  rename_i h1 h2
  injection h with h
  subst h
  have h3:pairB M.code M.fail=true:=by
    cases hp:pairB M.code M.fail
    · rw [hp] at h1; exact absurd rfl h1
    · rfl
  have h4:M=refM M.code M.fail:=by
    by_cases hm:M=refM M.code M.fail
    · exact hm
    · rw [decide_eq_false hm] at h2; exact absurd rfl h2
  unfold pairB at h3
  obtain ⟨h5,h6⟩:=and2 h3
  exact ⟨(and2 h5).2,h6,h4,rfl⟩
theorem pduW_some {dir:Int} {M:Msg} {l:List Int} (hc:0≤M.code∧M.code < 256) (h:pduW dir M=some l) :
    (M.fail ≠ 0∧dir=1∧publicB M.code=true∧failureB M.fail=true∧M=refM M.code M.fail∧l=[M.code + 128,M.fail]∧M.code < 128) ∨
    (M.fail=0∧cfam M.code ≠ 0∧M.code < 128∧∃ l',famW (cfam M.code) dir M=some l'∧l'.length < 253∧l=[M.code]++l'):=by
  obtain ⟨t1,t2,t3⟩:=code_tabI hc
  unfold pduW at h
  split at h
  · rename_i hf
    split at h
    · cases h
    · rename_i hd
      obtain ⟨h1,h2,h3,h4⟩:=refW_some h
      have h5:M.code < 128:=by
        by_cases h6:128≤M.code
        · have:=t3 h6
          rw [← t1,h1] at this
          cases this
        · omega
      refine .inl ⟨by simpa using hf,by simpa using hd,h1,h2,h3,?_,h5⟩
      rw [h4]
      congr 1
      omega
  · rename_i hf
    split at h
    · cases h
    · rename_i l' hl
      split at h
      · cases h
      · rename_i hn
        injection h with h
        have hk:=(famW_some hl).1
        have h5:M.code < 128:=by
          by_cases h6:128≤M.code
          · exact absurd (t2 (t3 h6)) hk
          · omega
        simp only [decide_eq_true_eq] at hn
        exact .inr ⟨by simpa using hf,hk,h5,l',hl,by omega,h.symm⟩
theorem pdu_rt {dir:Int} {M:Msg} {l:List Int} (hd:dir=0∨dir=1) (hc:0≤M.code∧M.code < 256) (hf:0≤M.fail∧M.fail < 256) (h:pduW dir M=some l) : pduP dir l=(M,0):=by
  have hdd:(dir != 0 && dir != 1)=false:=by rcases hd with rfl | rfl <;> rfl
  rcases pduW_some hc h with ⟨h1,rfl,h2,h3,h4,rfl,h5⟩ | ⟨h1,h2,h3,l',h4,h5,rfl⟩
  · have ha:decide (128≤M.code + 128)=true:=by simp; omega
    have hb:(M.code + 128 - 128) % 256=M.code:=by omega
    have hd1:decide (M.code + 128 < 128)=false:=by simp; omega
    unfold pduP
    simp only [List.length_cons,List.length_nil,List.getD_cons_zero,ha]
    show refP [M.code + 128,M.fail]=(M,0)
    unfold refP
    simp only [List.length_cons,List.length_nil,List.getD_cons_zero,List.getD_cons_succ,hb,hd1,h2,h3]
    show (refM M.code M.fail,(0:Int))=(M,0)
    rw [← h4]
  · have ha:(decide (128≤M.code) && dir == 1)=false:=by
      have:decide (128≤M.code)=false:=by simp; omega
      rw [this]; rfl
    have hl0:(((([M.code]++l').length:Nat) : Int) == 0)=false:=by
      simp only [List.length_append,List.length_cons,List.length_nil,beq_eq_false_iff_ne,ne_eq]; omega
    have hl1:decide (253 < ((([M.code]++l').length:Nat) : Int))=false:=by
      simp only [List.length_append,List.length_cons,List.length_nil,decide_eq_false_iff_not]; omega
    have hg:([M.code]++l').getD 0 0=M.code:=rfl
    unfold pduP
    rw [hdd,hl0,hl1,hg,ha]
    exact (famW_some h4).2
theorem pduW_pos {dir:Int} {M:Msg} {l:List Int} (hc:0≤M.code∧M.code < 256) (h:pduW dir M=some l) : 0 < l.length:=by
  rcases pduW_some hc h with ⟨_,_,_,_,_,rfl,_⟩ | ⟨_,_,_,l',_,_,rfl⟩ <;> simp
theorem first_ok {dir:Int} {M:Msg} {l:List Int} (hc:0≤M.code∧M.code < 256) (h:pduW dir M=some l) (hf:(M.fail != 0)=false) : l.getD 0 0=M.code:=by
  rcases pduW_some hc h with ⟨h1,_⟩ | ⟨_,_,_,l',_,_,rfl⟩
  · simp at hf; omega
  · rfl
open Go.RowKit
theorem upd_below {w w':World} (h:Upd [] w w') : Below w.heap.size w w':=⟨h.os,h.tape,h.output,h.size,fun k hk=>h.block k hk (by simp)⟩
theorem wf_u8_rng {n:Int} (h:(Lit.int .u8 n).wf=true) : 0≤n∧n < 256:=by
  have:=bounds_u8 h
  omega
open Go.RowKit
structure SL where
  aw:Option Addr
  kw:Nat
  ab:Option Addr
  kb:Nat
  ad:Option Addr
  kd:Nat
  ar:Option Addr
  kr:Nat
  ao:Option Addr
  ko:Nat
def mcl (M:Msg) (x:SL) : Array Value:=mG M.code M.fail M.addr M.count M.value M.and_ M.or_ M.addr2 M.sub M.status M.events M.messages (.slice x.aw M.words.length x.kw) (.slice x.ab M.bits.length x.kb) (.slice x.ad M.data.length x.kd) (.slice x.ar M.recs.length x.kr) M.mei M.kind M.level M.more M.next (.slice x.ao M.objects.length x.ko)
theorem mcl_of {m:Bool} {w:World} {cs:Array Value} {M:Msg} (h:MsgRd m w cs.toList M) : ∃ x,cs=mcl M x:=by
  obtain ⟨vw,vb,vd,vr,vo,h0,hw,hb,hd,hr,ho,hR⟩:=h
  obtain ⟨aw,kw,rfl,_,_⟩:=hw.shape
  obtain ⟨ab,kb,rfl,_,_⟩:=hb.shape
  obtain ⟨ad,kd,rfl,_,_⟩:=hd.shape
  obtain ⟨ar,kr,rfl,_,_⟩:=hr.shape
  obtain ⟨ao,ko,rfl,_,_⟩:=ho.shape
  refine ⟨⟨aw,kw,ab,kb,ad,kd,ar,kr,ao,ko⟩,?_⟩
  apply Array.toList_inj.1
  rw [h0]
  rfl
theorem MsgRd.rngs {m:Bool} {w:World} {cs:Array Value} {M:Msg} (h:MsgRd m w cs.toList M) : (0≤M.code∧M.code < 256)∧(0≤M.fail∧M.fail < 256):=by
  obtain ⟨vw,vb,vd,vr,vo,h0,hw,hb,hd,hr,ho,hR⟩:=h
  exact ⟨hR.code,hR.fail⟩
open Go.RowKit
section
variable {H:Type} {enc:TypeId × Value→H} {P:Program} {w:World} {base:Nat} {spare:Nat→Bool} {held:Bool}
theorem add_none (b off:Nat) (sp:Option Nat) (n:Nat) (h:sp=none) : (⟨b,off,sp⟩ : Addr).add n=⟨b,off + n,none⟩:=add_mk b off n sp h
theorem cell_spot {b off:Nat} {sp:Option Nat} {v:Value} (h:w.cell? ⟨b,off,sp⟩=some v) : sp=none:=by
  cases sp with
  | none=>rfl
  | some s =>
    unfold World.cell? at h
    simp at h
    split at h <;> cases h
theorem rd_openP {α:Type} {Pd:DataW H→Prop} {R:World→α→List Value→Prop} {t e:TypeId} {sz fuel:Nat} {cs:List Value} {x:DataW H × List MemPlace} (ht:P.underlying t=some (.slice e)) (hsz:P.cellsOf e=sz) (hp:0 < sz)
    (hel:∀ n cs' y,cs'.length=sz→DataW.trod enc P w base spare held n e cs'=some y→Pd y.1→∃ x,R w x cs') (hP:∀ elems spare,x.1 = .slice elems spare→∀ d,d∈elems→Pd d) (h:DataW.trod enc P w base spare held fuel t cs=some x) : ∃ v xs,cs=[v]∧RdG false e sz R w v xs:=by
  rcases Go.Deep.open_slice ht h with ⟨rfl,_⟩ | ⟨a,len,cap,m,n,D,Pl,rfl,_,hl,hm,hmm,hxe,hx⟩
  · exact ⟨_,[],rfl,RdG.nil ..⟩
  have hlm:len≤m:=by rw [hmm]; split <;> omega
  have key:∀ i:Fin len,∃ y:α × List Value,w.cells? base (a.add (i * sz)) sz=some y.2∧y.2.length=sz∧R w y.1 y.2:=fun i=>by
    obtain ⟨cs',h1,h2⟩:=hx i (by omega)
    rw [hsz] at h1
    obtain ⟨_,hlen,_⟩:=World.cells?_some h1
    obtain ⟨y,hy⟩:=hel n cs' _ hlen h2 (hP _ _ (by rw [hxe]) _ (List.mem_map.2 ⟨i.1,List.mem_range.2 i.2,rfl⟩))
    exact ⟨(y,cs'),h1,hlen,hy⟩
  obtain ⟨f,hf⟩:=Classical.axiomOfChoice key
  refine ⟨_,List.ofFn fun i=>(f i).1,rfl,some a,cap,by simp,by simpa using hl,hm,(fun h=>by cases h),fun hpos=>?_⟩
  have hpos':0 < len:=by simpa using hpos
  obtain ⟨b,off,sp⟩:=a
  have hsp:sp=none:=by
    obtain ⟨h1,h2,_⟩:=hf ⟨0,hpos'⟩
    obtain ⟨_,_,h3⟩:=World.cells?_some h1
    have h4:=h3 0 hp
    rw [List.getElem?_eq_getElem (by omega)] at h4
    cases sp with
    | none=>rfl
    | some s =>
      simp [Addr.add] at h4
      exact cell_spot h4
  subst hsp
  have hc:∀ i:Fin len,∀ k u,(f i).2[k]? = some u→w.cell? ⟨b,off + i * sz + k,none⟩=some u:=fun i k u hu=>by
    obtain ⟨h1,h2,_⟩:=hf i
    obtain ⟨_,_,h3⟩:=World.cells?_some h1
    have hk:k < sz:=by have:=(List.getElem?_eq_some_iff.1 hu).1; omega
    have h4:=h3 k hk
    rw [add_none _ _ _ _ rfl,add_none _ _ _ _ rfl] at h4
    rw [h4,hu]
  have h0:∃ u,w.cell? ⟨b,off + 0 * sz + 0,none⟩=some u:=by
    obtain ⟨_,h2,_⟩:=hf ⟨0,hpos'⟩
    exact ⟨_,hc ⟨0,hpos'⟩ 0 _ (List.getElem?_eq_getElem (by omega))⟩
  obtain ⟨u,hu⟩:=h0
  unfold World.cell? at hu
  split at hu
  · rename_i cells t' fr hb
    refine ⟨b,off,cells,t',fr,rfl,hb,fun h=>(by cases h),fun j y hj=>?_⟩
    have hjl:j < len:=by have:=(List.getElem?_eq_some_iff.1 hj).1; simpa using this
    have hy:(f ⟨j,hjl⟩).1=y:=by
      rw [List.getElem?_ofFn] at hj
      simpa [hjl] using hj
    obtain ⟨_,h2,h3⟩:=hf ⟨j,hjl⟩
    refine ⟨(f ⟨j,hjl⟩).2,h2,by rw [← hy]; exact h3,fun i u hi=>?_⟩
    have:=hc ⟨j,hjl⟩ i u hi
    rw [blk_cell hb] at this
    exact this
  · cases hu
theorem rd_open {α:Type} {R:World→α→List Value→Prop} {t e:TypeId} {sz fuel:Nat} {cs:List Value} {x:DataW H × List MemPlace} (ht:P.underlying t=some (.slice e)) (hsz:P.cellsOf e=sz) (hp:0 < sz)
    (hel:∀ n cs' y,cs'.length=sz→DataW.trod enc P w base spare held n e cs'=some y→∃ x,R w x cs') (h:DataW.trod enc P w base spare held fuel t cs=some x) : ∃ v xs,cs=[v]∧RdG false e sz R w v xs :=
  rd_openP (Pd:=fun _=>True) ht hsz hp (fun n cs' y h1 h2 _=>hel n cs' y h1 h2) (fun _ _ _ _ _=>trivial) h
end
section
variable {H:Type} {enc:TypeId × Value→H} {w:World} {base:Nat} {spare:Nat→Bool} {held:Bool} {n:Nat} {y:DataW H × List MemPlace}
theorem wf_u16_rng {n:Int} (h:(Lit.int .u16 n).wf=true) : 0≤n∧n < 65536:=by
  have:=bounds_u16 h
  omega
theorem el_u8 {cs:List Value} (h:DataW.trod enc Tryz.prog w base spare held n 5 cs=some y) : ∃ x,u8R w x cs:=by
  obtain ⟨k,rfl,_,hw⟩:=DataW.trod_int Tryz.underlying5 h
  exact ⟨k,rfl,wf_u8_rng hw⟩
theorem el_u16 {cs:List Value} (h:DataW.trod enc Tryz.prog w base spare held n 37 cs=some y) : ∃ x,u16R w x cs:=by
  obtain ⟨k,rfl,_,hw⟩:=DataW.trod_int Tryz.underlying37 h
  exact ⟨k,rfl,wf_u16_rng hw⟩
theorem el_bool {cs:List Value} (h:DataW.trod enc Tryz.prog w base spare held n 4 cs=some y) : ∃ x,boolR w x cs:=by
  obtain ⟨k,rfl,_⟩:=DataW.trod_bool Tryz.underlying4 h
  exact ⟨k,rfl⟩
theorem sl_u8 {cs:List Value} (h:DataW.trod enc Tryz.prog w base spare held n 29 cs=some y) : ∃ v xs,cs=[v]∧RdB false w v xs:=rd_open Tryz.underlying29 (by kernel_rfl) (by decide) (fun _ _ _ _ h=>el_u8 h) h
theorem sl_u16 {cs:List Value} (h:DataW.trod enc Tryz.prog w base spare held n 40 cs=some y) : ∃ v xs,cs=[v]∧RdW false w v xs:=rd_open Tryz.underlying40 (by kernel_rfl) (by decide) (fun _ _ _ _ h=>el_u16 h) h
theorem sl_bool {cs:List Value} (h:DataW.trod enc Tryz.prog w base spare held n 41 cs=some y) : ∃ v xs,cs=[v]∧RdL false w v xs:=rd_open Tryz.underlying41 (by kernel_rfl) (by decide) (fun _ _ _ _ h=>el_bool h) h
end
open Go.RowKit
theorem peel {cs:List Value} {o:Nat} {v:Value} (h:(cs.drop o).take 1=[v]) : cs.drop o=v :: cs.drop (o + 1):=by
  cases hd:cs.drop o with
  | nil=>rw [hd] at h; cases h
  | cons a l =>
    rw [hd] at h
    have h1:a=v:=by simpa using h
    rw [h1,← List.drop_drop,hd]
    rfl
theorem drop_all {cs:List Value} {n:Nat} (h:cs.length=n) : cs.drop n=[]:=by rw [← h]; simp
section
variable {H:Type} {enc:TypeId × Value→H} {w:World} {base:Nat} {spare:Nat→Bool} {held:Bool} {n:Nat} {y:DataW H × List MemPlace}
theorem el_rec {cs:List Value} (h:DataW.trod enc Tryz.prog w base spare held n 77 cs=some y) : ∃ x,recR false w x cs:=by
  obtain ⟨xs,m,rfl,_,hlen,hxs,hf⟩:=DataW.trod_struct Tryz.underlying77 h
  rw [show Tryz.prog.cellsOf 77=4 from by kernel_rfl] at hlen
  replace hxs:xs.length=4:=hxs.trans (by kernel_rfl)
  obtain ⟨y0,g0⟩ : ∃ y,xs[0]? = some y:=⟨_,List.getElem?_eq_getElem (show 0 < xs.length by omega)⟩
  have f0:DataW.trod enc Tryz.prog w base spare held m 37 ((cs.drop 0).take (Tryz.prog.cellsOf 37))=xs[0]?:=hf 0 _ rfl
  rw [g0] at f0
  rw [show Tryz.prog.cellsOf 37=1 from by kernel_rfl] at f0
  obtain ⟨x0,e0,r0⟩:=el_u16 f0
  obtain ⟨y1,g1⟩ : ∃ y,xs[1]? = some y:=⟨_,List.getElem?_eq_getElem (show 1 < xs.length by omega)⟩
  have f1:DataW.trod enc Tryz.prog w base spare held m 37 ((cs.drop 1).take (Tryz.prog.cellsOf 37))=xs[1]?:=hf 1 _ rfl
  rw [g1] at f1
  rw [show Tryz.prog.cellsOf 37=1 from by kernel_rfl] at f1
  obtain ⟨x1,e1,r1⟩:=el_u16 f1
  obtain ⟨y2,g2⟩ : ∃ y,xs[2]? = some y:=⟨_,List.getElem?_eq_getElem (show 2 < xs.length by omega)⟩
  have f2:DataW.trod enc Tryz.prog w base spare held m 37 ((cs.drop 2).take (Tryz.prog.cellsOf 37))=xs[2]?:=hf 2 _ rfl
  rw [g2] at f2
  rw [show Tryz.prog.cellsOf 37=1 from by kernel_rfl] at f2
  obtain ⟨x2,e2,r2⟩:=el_u16 f2
  obtain ⟨y3,g3⟩ : ∃ y,xs[3]? = some y:=⟨_,List.getElem?_eq_getElem (show 3 < xs.length by omega)⟩
  have f3:DataW.trod enc Tryz.prog w base spare held m 40 ((cs.drop 3).take (Tryz.prog.cellsOf 40))=xs[3]?:=hf 3 _ rfl
  rw [g3] at f3
  rw [show Tryz.prog.cellsOf 40=1 from by kernel_rfl] at f3
  obtain ⟨v3,l3,e3,r3⟩:=sl_u16 f3
  have hcs:cs=[.int .u16 x0,.int .u16 x1,.int .u16 x2,v3]:=by
    show cs.drop 0=_
    rw [peel e0,peel e1,peel e2,peel e3,drop_all hlen]
  subst hcs
  exact ⟨⟨x0,x1,x2,l3⟩,_,rfl,r3,r0,r1,r2⟩
theorem sl_rec {cs:List Value} (h:DataW.trod enc Tryz.prog w base spare held n 42 cs=some y) : ∃ v xs,cs=[v]∧RdR false w v xs:=rd_open Tryz.underlying42 (by kernel_rfl) (by decide) (fun _ _ _ _ h=>el_rec h) h
theorem el_obj {cs:List Value} (h:DataW.trod enc Tryz.prog w base spare held n 79 cs=some y) : ∃ x,objR false w x cs:=by
  obtain ⟨xs,m,rfl,_,hlen,hxs,hf⟩:=DataW.trod_struct Tryz.underlying79 h
  rw [show Tryz.prog.cellsOf 79=2 from by kernel_rfl] at hlen
  replace hxs:xs.length=2:=hxs.trans (by kernel_rfl)
  obtain ⟨y0,g0⟩ : ∃ y,xs[0]? = some y:=⟨_,List.getElem?_eq_getElem (show 0 < xs.length by omega)⟩
  have f0:DataW.trod enc Tryz.prog w base spare held m 5 ((cs.drop 0).take (Tryz.prog.cellsOf 5))=xs[0]?:=hf 0 _ rfl
  rw [g0] at f0
  rw [show Tryz.prog.cellsOf 5=1 from by kernel_rfl] at f0
  obtain ⟨x0,e0,r0⟩:=el_u8 f0
  obtain ⟨y1,g1⟩ : ∃ y,xs[1]? = some y:=⟨_,List.getElem?_eq_getElem (show 1 < xs.length by omega)⟩
  have f1:DataW.trod enc Tryz.prog w base spare held m 29 ((cs.drop 1).take (Tryz.prog.cellsOf 29))=xs[1]?:=hf 1 _ rfl
  rw [g1] at f1
  rw [show Tryz.prog.cellsOf 29=1 from by kernel_rfl] at f1
  obtain ⟨v1,l1,e1,r1⟩:=sl_u8 f1
  have hcs:cs=[.int .u8 x0,v1]:=by
    show cs.drop 0=_
    rw [peel e0,peel e1,drop_all hlen]
  subst hcs
  exact ⟨⟨x0,l1⟩,_,rfl,r1,r0⟩
theorem sl_obj {cs:List Value} (h:DataW.trod enc Tryz.prog w base spare held n 43 cs=some y) : ∃ v xs,cs=[v]∧RdO false w v xs:=rd_open Tryz.underlying43 (by kernel_rfl) (by decide) (fun _ _ _ _ h=>el_obj h) h
set_option maxRecDepth 20000 in
theorem msg_open {cs:List Value} (h:DataW.trod enc Tryz.prog w base spare held n 45 cs=some y) : ∃ M,MsgRd false w cs M:=by
  obtain ⟨xs,m,rfl,_,hlen,hxs,hf⟩:=DataW.trod_struct Tryz.underlying45 h
  rw [show Tryz.prog.cellsOf 45=22 from by kernel_rfl] at hlen
  replace hxs:xs.length=22:=hxs.trans (by kernel_rfl)
  obtain ⟨y0,g0⟩ : ∃ y,xs[0]? = some y:=⟨_,List.getElem?_eq_getElem (show 0 < xs.length by omega)⟩
  have f0:DataW.trod enc Tryz.prog w base spare held m 5 ((cs.drop 0).take (Tryz.prog.cellsOf 5))=xs[0]?:=hf 0 _ rfl
  rw [g0] at f0
  rw [show Tryz.prog.cellsOf 5=1 from by kernel_rfl] at f0
  obtain ⟨x0,e0,r0⟩:=el_u8 f0
  obtain ⟨y1,g1⟩ : ∃ y,xs[1]? = some y:=⟨_,List.getElem?_eq_getElem (show 1 < xs.length by omega)⟩
  have f1:DataW.trod enc Tryz.prog w base spare held m 5 ((cs.drop 1).take (Tryz.prog.cellsOf 5))=xs[1]?:=hf 1 _ rfl
  rw [g1] at f1
  rw [show Tryz.prog.cellsOf 5=1 from by kernel_rfl] at f1
  obtain ⟨x1,e1,r1⟩:=el_u8 f1
  obtain ⟨y2,g2⟩ : ∃ y,xs[2]? = some y:=⟨_,List.getElem?_eq_getElem (show 2 < xs.length by omega)⟩
  have f2:DataW.trod enc Tryz.prog w base spare held m 37 ((cs.drop 2).take (Tryz.prog.cellsOf 37))=xs[2]?:=hf 2 _ rfl
  rw [g2] at f2
  rw [show Tryz.prog.cellsOf 37=1 from by kernel_rfl] at f2
  obtain ⟨x2,e2,r2⟩:=el_u16 f2
  obtain ⟨y3,g3⟩ : ∃ y,xs[3]? = some y:=⟨_,List.getElem?_eq_getElem (show 3 < xs.length by omega)⟩
  have f3:DataW.trod enc Tryz.prog w base spare held m 37 ((cs.drop 3).take (Tryz.prog.cellsOf 37))=xs[3]?:=hf 3 _ rfl
  rw [g3] at f3
  rw [show Tryz.prog.cellsOf 37=1 from by kernel_rfl] at f3
  obtain ⟨x3,e3,r3⟩:=el_u16 f3
  obtain ⟨y4,g4⟩ : ∃ y,xs[4]? = some y:=⟨_,List.getElem?_eq_getElem (show 4 < xs.length by omega)⟩
  have f4:DataW.trod enc Tryz.prog w base spare held m 37 ((cs.drop 4).take (Tryz.prog.cellsOf 37))=xs[4]?:=hf 4 _ rfl
  rw [g4] at f4
  rw [show Tryz.prog.cellsOf 37=1 from by kernel_rfl] at f4
  obtain ⟨x4,e4,r4⟩:=el_u16 f4
  obtain ⟨y5,g5⟩ : ∃ y,xs[5]? = some y:=⟨_,List.getElem?_eq_getElem (show 5 < xs.length by omega)⟩
  have f5:DataW.trod enc Tryz.prog w base spare held m 37 ((cs.drop 5).take (Tryz.prog.cellsOf 37))=xs[5]?:=hf 5 _ rfl
  rw [g5] at f5
  rw [show Tryz.prog.cellsOf 37=1 from by kernel_rfl] at f5
  obtain ⟨x5,e5,r5⟩:=el_u16 f5
  obtain ⟨y6,g6⟩ : ∃ y,xs[6]? = some y:=⟨_,List.getElem?_eq_getElem (show 6 < xs.length by omega)⟩
  have f6:DataW.trod enc Tryz.prog w base spare held m 37 ((cs.drop 6).take (Tryz.prog.cellsOf 37))=xs[6]?:=hf 6 _ rfl
  rw [g6] at f6
  rw [show Tryz.prog.cellsOf 37=1 from by kernel_rfl] at f6
  obtain ⟨x6,e6,r6⟩:=el_u16 f6
  obtain ⟨y7,g7⟩ : ∃ y,xs[7]? = some y:=⟨_,List.getElem?_eq_getElem (show 7 < xs.length by omega)⟩
  have f7:DataW.trod enc Tryz.prog w base spare held m 37 ((cs.drop 7).take (Tryz.prog.cellsOf 37))=xs[7]?:=hf 7 _ rfl
  rw [g7] at f7
  rw [show Tryz.prog.cellsOf 37=1 from by kernel_rfl] at f7
  obtain ⟨x7,e7,r7⟩:=el_u16 f7
  obtain ⟨y8,g8⟩ : ∃ y,xs[8]? = some y:=⟨_,List.getElem?_eq_getElem (show 8 < xs.length by omega)⟩
  have f8:DataW.trod enc Tryz.prog w base spare held m 37 ((cs.drop 8).take (Tryz.prog.cellsOf 37))=xs[8]?:=hf 8 _ rfl
  rw [g8] at f8
  rw [show Tryz.prog.cellsOf 37=1 from by kernel_rfl] at f8
  obtain ⟨x8,e8,r8⟩:=el_u16 f8
  obtain ⟨y9,g9⟩ : ∃ y,xs[9]? = some y:=⟨_,List.getElem?_eq_getElem (show 9 < xs.length by omega)⟩
  have f9:DataW.trod enc Tryz.prog w base spare held m 37 ((cs.drop 9).take (Tryz.prog.cellsOf 37))=xs[9]?:=hf 9 _ rfl
  rw [g9] at f9
  rw [show Tryz.prog.cellsOf 37=1 from by kernel_rfl] at f9
  obtain ⟨x9,e9,r9⟩:=el_u16 f9
  obtain ⟨y10,g10⟩ : ∃ y,xs[10]? = some y:=⟨_,List.getElem?_eq_getElem (show 10 < xs.length by omega)⟩
  have f10:DataW.trod enc Tryz.prog w base spare held m 37 ((cs.drop 10).take (Tryz.prog.cellsOf 37))=xs[10]?:=hf 10 _ rfl
  rw [g10] at f10
  rw [show Tryz.prog.cellsOf 37=1 from by kernel_rfl] at f10
  obtain ⟨x10,e10,r10⟩:=el_u16 f10
  obtain ⟨y11,g11⟩ : ∃ y,xs[11]? = some y:=⟨_,List.getElem?_eq_getElem (show 11 < xs.length by omega)⟩
  have f11:DataW.trod enc Tryz.prog w base spare held m 37 ((cs.drop 11).take (Tryz.prog.cellsOf 37))=xs[11]?:=hf 11 _ rfl
  rw [g11] at f11
  rw [show Tryz.prog.cellsOf 37=1 from by kernel_rfl] at f11
  obtain ⟨x11,e11,r11⟩:=el_u16 f11
  obtain ⟨y12,g12⟩ : ∃ y,xs[12]? = some y:=⟨_,List.getElem?_eq_getElem (show 12 < xs.length by omega)⟩
  have f12:DataW.trod enc Tryz.prog w base spare held m 40 ((cs.drop 12).take (Tryz.prog.cellsOf 40))=xs[12]?:=hf 12 _ rfl
  rw [g12] at f12
  rw [show Tryz.prog.cellsOf 40=1 from by kernel_rfl] at f12
  obtain ⟨v12,l12,e12,r12⟩:=sl_u16 f12
  obtain ⟨y13,g13⟩ : ∃ y,xs[13]? = some y:=⟨_,List.getElem?_eq_getElem (show 13 < xs.length by omega)⟩
  have f13:DataW.trod enc Tryz.prog w base spare held m 41 ((cs.drop 13).take (Tryz.prog.cellsOf 41))=xs[13]?:=hf 13 _ rfl
  rw [g13] at f13
  rw [show Tryz.prog.cellsOf 41=1 from by kernel_rfl] at f13
  obtain ⟨v13,l13,e13,r13⟩:=sl_bool f13
  obtain ⟨y14,g14⟩ : ∃ y,xs[14]? = some y:=⟨_,List.getElem?_eq_getElem (show 14 < xs.length by omega)⟩
  have f14:DataW.trod enc Tryz.prog w base spare held m 29 ((cs.drop 14).take (Tryz.prog.cellsOf 29))=xs[14]?:=hf 14 _ rfl
  rw [g14] at f14
  rw [show Tryz.prog.cellsOf 29=1 from by kernel_rfl] at f14
  obtain ⟨v14,l14,e14,r14⟩:=sl_u8 f14
  obtain ⟨y15,g15⟩ : ∃ y,xs[15]? = some y:=⟨_,List.getElem?_eq_getElem (show 15 < xs.length by omega)⟩
  have f15:DataW.trod enc Tryz.prog w base spare held m 42 ((cs.drop 15).take (Tryz.prog.cellsOf 42))=xs[15]?:=hf 15 _ rfl
  rw [g15] at f15
  rw [show Tryz.prog.cellsOf 42=1 from by kernel_rfl] at f15
  obtain ⟨v15,l15,e15,r15⟩:=sl_rec f15
  obtain ⟨y16,g16⟩ : ∃ y,xs[16]? = some y:=⟨_,List.getElem?_eq_getElem (show 16 < xs.length by omega)⟩
  have f16:DataW.trod enc Tryz.prog w base spare held m 5 ((cs.drop 16).take (Tryz.prog.cellsOf 5))=xs[16]?:=hf 16 _ rfl
  rw [g16] at f16
  rw [show Tryz.prog.cellsOf 5=1 from by kernel_rfl] at f16
  obtain ⟨x16,e16,r16⟩:=el_u8 f16
  obtain ⟨y17,g17⟩ : ∃ y,xs[17]? = some y:=⟨_,List.getElem?_eq_getElem (show 17 < xs.length by omega)⟩
  have f17:DataW.trod enc Tryz.prog w base spare held m 5 ((cs.drop 17).take (Tryz.prog.cellsOf 5))=xs[17]?:=hf 17 _ rfl
  rw [g17] at f17
  rw [show Tryz.prog.cellsOf 5=1 from by kernel_rfl] at f17
  obtain ⟨x17,e17,r17⟩:=el_u8 f17
  obtain ⟨y18,g18⟩ : ∃ y,xs[18]? = some y:=⟨_,List.getElem?_eq_getElem (show 18 < xs.length by omega)⟩
  have f18:DataW.trod enc Tryz.prog w base spare held m 5 ((cs.drop 18).take (Tryz.prog.cellsOf 5))=xs[18]?:=hf 18 _ rfl
  rw [g18] at f18
  rw [show Tryz.prog.cellsOf 5=1 from by kernel_rfl] at f18
  obtain ⟨x18,e18,r18⟩:=el_u8 f18
  obtain ⟨y19,g19⟩ : ∃ y,xs[19]? = some y:=⟨_,List.getElem?_eq_getElem (show 19 < xs.length by omega)⟩
  have f19:DataW.trod enc Tryz.prog w base spare held m 5 ((cs.drop 19).take (Tryz.prog.cellsOf 5))=xs[19]?:=hf 19 _ rfl
  rw [g19] at f19
  rw [show Tryz.prog.cellsOf 5=1 from by kernel_rfl] at f19
  obtain ⟨x19,e19,r19⟩:=el_u8 f19
  obtain ⟨y20,g20⟩ : ∃ y,xs[20]? = some y:=⟨_,List.getElem?_eq_getElem (show 20 < xs.length by omega)⟩
  have f20:DataW.trod enc Tryz.prog w base spare held m 5 ((cs.drop 20).take (Tryz.prog.cellsOf 5))=xs[20]?:=hf 20 _ rfl
  rw [g20] at f20
  rw [show Tryz.prog.cellsOf 5=1 from by kernel_rfl] at f20
  obtain ⟨x20,e20,r20⟩:=el_u8 f20
  obtain ⟨y21,g21⟩ : ∃ y,xs[21]? = some y:=⟨_,List.getElem?_eq_getElem (show 21 < xs.length by omega)⟩
  have f21:DataW.trod enc Tryz.prog w base spare held m 43 ((cs.drop 21).take (Tryz.prog.cellsOf 43))=xs[21]?:=hf 21 _ rfl
  rw [g21] at f21
  rw [show Tryz.prog.cellsOf 43=1 from by kernel_rfl] at f21
  obtain ⟨v21,l21,e21,r21⟩:=sl_obj f21
  have hcs:cs=[.int .u8 x0,.int .u8 x1,.int .u16 x2,.int .u16 x3,.int .u16 x4,.int .u16 x5,.int .u16 x6,.int .u16 x7,.int .u16 x8,.int .u16 x9,.int .u16 x10,.int .u16 x11,v12,v13,v14,v15,.int .u8 x16,.int .u8 x17,.int .u8 x18,.int .u8 x19,.int .u8 x20,v21]:=by
    show cs.drop 0=_
    rw [peel e0,peel e1,peel e2,peel e3,peel e4,peel e5,peel e6,peel e7,peel e8,peel e9,peel e10,peel e11,peel e12,peel e13,peel e14,peel e15,peel e16,peel e17,peel e18,peel e19,peel e20,peel e21,drop_all hlen]
  subst hcs
  exact ⟨⟨x0,x1,x2,x3,x4,x5,x6,x7,x8,x9,x10,x11,l12,l13,l14,l15,x16,x17,x18,x19,x20,l21⟩,v12,v13,v14,v15,v21,rfl,r12,r13,r14,r15,r21,⟨r0,r1,r2,r3,r4,r5,r6,r7,r8,r9,r10,r11,r16,r17,r18,r19,r20⟩⟩
end
open Go.RowKit
theorem run_rem {P:Program} {w:World} {ev:Operand→Value} {o:Oper} {x y:Operand} {t t':TypeId} {k:IntKind} {a b:Int} (ho:o.op = .binOp .rem t x y t') (hx:ev x = .int k a) (hy:ev y = .int k b) (h0:0≤a) (hb:0 < b) : (execOp ev o).run P w = .ok (.value (.int k (a % b))) w:=by
  have hg:eqGuard .rem t x y (.int k a) (.int k b)=pure ():=rfl
  have hz:(b == 0)=false:=by simpa using Int.ne_of_gt hb
  unfold execOp
  simp only [ho,hx,hy,hg,binOp_rem,Sem.run_bind,Sem.run_pure,Result.andThen,Op.intDiv]
  simp [hz,Int.ne_of_gt hb,Int.tmod_eq_emod_of_nonneg h0,Result.andThen]
theorem rem_rng {x y:Int} (hy:0 < y) : 0≤x % y∧x % y < y:=⟨Int.emod_nonneg _ (Int.ne_of_gt hy),Int.emod_lt_of_pos _ hy⟩
theorem cut_h {P:Program} (t e:TypeId) (sz:Nat) {i:TypeInfo} (ht:P.underlying t=some (.slice e)) (hi:P.info? e=some i) (hsz:i.size=sz) (A:Option Addr) (n c:Nat) {k:Int} (h:Nat) (hk:k=(h:Int)) (hh:h≤n) (hc:n≤c) :
    ∃ A':Option Addr,(∀ (kh:IntKind) (W:World),(Instr.slice t (.slice A n c) none (some (.int kh k)) none).run P W = .ok (.slice A' h c) W) ∧
      ∀ {α:Type} (m:Bool) (e':TypeId) (R:World→α→List Value→Prop) (w:World) (xs:List α),RdG m e' sz R w (.slice A n c) xs→RdG m e' sz R w (.slice A' h c) (xs.take h):=by
  subst hk
  obtain ⟨A',h1,h2⟩:=cut_lh (P:=P) t e sz ht hi hsz A n c 0 h (Nat.zero_le _) hh hc
  refine ⟨A',fun kh W=>?_,fun m e' R w xs hr=>by simpa using h2 m e' R w xs hr⟩
  have h3:=h1 .i64 kh W
  have hel:P.elem t=e:=by simp [Program.elem,ht]
  have hu:P.underlying t=some (.slice (P.elem t)):=by rw [hel]; exact ht
  rw [run_slice_h W t A n c hu kh (h:Int) (Int.natCast_nonneg _) (by omega)]
  rw [run_slice_lh W t A n c hu .i64 kh (((0:Nat) : Int)) (h:Int) (Int.natCast_nonneg _) (by omega) (by omega)] at h3
  simpa using h3
theorem run_cuth {o:Oper} {ev:Operand→Value} {P:Program} {w:World} {t:TypeId} {x y:Operand} {A:Option Addr} {n c:Nat} {kl:IntKind} {k:Int} {v:Value} {e:TypeId} (ho:o.op = .slice t x none (some y) none) (ht:P.underlying t=some (.slice e)) (hx:ev x = .slice A n c) (hy:ev y = .int kl k)
    (hr:(Instr.slice t (.slice A n c) none (some (.int kl k)) none).run P w = .ok v w) : (execOp ev o).run P w = .ok (.value v) w:=by
  have hu:(underlying t).run P w = .ok (.slice e) w:=run_underlying ht w
  unfold execOp
  simp only [ho,Option.map_some,Option.map_none,hx,hy,Instr.sliceAt,Sem.run_bind,hu,hr,Result.andThen,Sem.run_pure]
theorem cut_lhI {P:Program} (t e:TypeId) (sz:Nat) {i:TypeInfo} (ht:P.underlying t=some (.slice e)) (hi:P.info? e=some i) (hsz:i.size=sz) (A:Option Addr) (n c:Nat) {lo up:Int} (k h:Nat) (hlo:lo=(k:Int)) (hup:up=(h:Int)) (hk:k≤h) (hh:h≤n) (hc:n≤c) :
    ∃ A':Option Addr,(∀ (kl kh:IntKind) (W:World),(Instr.slice t (.slice A n c) (some (.int kl lo)) (some (.int kh up)) none).run P W = .ok (.slice A' (h - k) (c - k)) W) ∧
      ∀ {α:Type} (m:Bool) (e':TypeId) (R:World→α→List Value→Prop) (w:World) (xs:List α),RdG m e' sz R w (.slice A n c) xs→RdG m e' sz R w (.slice A' (h - k) (c - k)) ((xs.take h).drop k):=by
  subst hlo hup
  exact cut_lh t e sz ht hi hsz A n c k h hk hh hc
theorem run_cutlh {o:Oper} {ev:Operand→Value} {P:Program} {w:World} {t:TypeId} {x y z:Operand} {A:Option Addr} {n c:Nat} {kl kh:IntKind} {lo hi:Int} {v:Value} {e:TypeId} (ho:o.op = .slice t x (some y) (some z) none) (ht:P.underlying t=some (.slice e)) (hx:ev x = .slice A n c) (hy:ev y = .int kl lo) (hz:ev z = .int kh hi)
    (hr:(Instr.slice t (.slice A n c) (some (.int kl lo)) (some (.int kh hi)) none).run P w = .ok v w) : (execOp ev o).run P w = .ok (.value v) w:=by
  have hu:(underlying t).run P w = .ok (.slice e) w:=run_underlying ht w
  unfold execOp
  simp only [ho,Option.map_some,Option.map_none,hx,hy,hz,Instr.sliceAt,Sem.run_bind,hu,hr,Result.andThen,Sem.run_pure]
theorem cut_fromI {P:Program} (t e:TypeId) (sz:Nat) {i:TypeInfo} (ht:P.underlying t=some (.slice e)) (hi:P.info? e=some i) (hsz:i.size=sz) (A:Option Addr) (n c:Nat) {lo:Int} (k:Nat) (hlo:lo=(k:Int)) (hk:k≤n) :
    ∃ A':Option Addr,(∀ (kl:IntKind) (W:World),(Instr.slice t (.slice A n c) (some (.int kl lo)) none none).run P W = .ok (.slice A' (n - k) (c - k)) W) ∧
      ∀ {α:Type} (m:Bool) (e':TypeId) (R:World→α→List Value→Prop) (w:World) (xs:List α),RdG m e' sz R w (.slice A n c) xs→RdG m e' sz R w (.slice A' (n - k) (c - k)) (xs.drop k):=by
  subst hlo
  exact cut_from t e sz ht hi hsz A n c k hk
open Go.RowKit
set_option maxRecDepth 100000 in
set_option maxHeartbeats 4000000 in
theorem same1_any0 {m m':Bool} {A B:Option Addr} {c d:Nat} {xs ys:List Int} {w:World} (h1:RdB m w (.slice A xs.length c) xs) (h2:RdB m' w (.slice B ys.length d) ys) :
    Calls Tryz.prog 33 #[.slice A xs.length c,.slice B ys.length d] w (PVal (.bool (decide (xs=ys))) w):=by
 refine en 10 Tryz.func33 rfl<|sg<|Pl 1<|ng<|Pl 1<|L0<|Or_ (.string (strOfNums xs)) (run_convB (A:=A) (n:=xs.length) (c:=c) rfl (by kernel_rfl) Tryz.underlying29 Tryz.underlying5 Tryz.underlying9 h1)<|Pl 1<|L0<|Or_ (.string (strOfNums ys)) (run_convB (A:=B) (n:=ys.length) (c:=d) rfl (by kernel_rfl) Tryz.underlying29 Tryz.underlying5 Tryz.underlying9 h2)<|L0<|Or_ (.bool (decide (xs=ys))) (run_strq (a:=(strOfNums xs)) (b:=(strOfNums ys)) rfl (by kernel_rfl) (by kernel_rfl) (str_eq h1 h2))<|Pl 1<|nl<|?_
 refine tn<|rt<|rr (.bool (decide (xs=ys)))<|?_
 exact ⟨rfl,(Upd.refl [] _)⟩
theorem same1_any {m m':Bool} {a b:Value} {xs ys:List Int} {w:World} (h1:RdB m w a xs) (h2:RdB m' w b ys) : Calls Tryz.prog 33 #[a,b] w (PVal (.bool (decide (xs=ys))) w):=by
  obtain ⟨A,c,rfl,_,_⟩:=h1.shape
  obtain ⟨B,d,rfl,_,_⟩:=h2.shape
  exact same1_any0 h1 h2
open Go.RowKit
theorem eq_of_take {α:Type} {xs ys:List α} {k:Nat} (h:xs.take k=ys.take k) (h1:k=xs.length) (h2:xs.length=ys.length) : xs=ys:=by
  rw [List.take_of_length_le (by omega),List.take_of_length_le (by omega)] at h
  exact h
set_option maxRecDepth 100000 in
set_option maxHeartbeats 4000000 in
theorem refWords_any0 {m m':Bool} {A B:Option Addr} {c d:Nat} {xs ys:List Int} {w:World} (h1:RdW m w (.slice A xs.length c) xs) (h2:RdW m' w (.slice B ys.length d) ys) :
    Calls Tryz.prog 50 #[.slice A xs.length c,.slice B ys.length d] w (PVal (.bool (decide (xs=ys))) w):=by
 have hz1:=RdG.len h1
 have hz2:=RdG.len h2
 refine en 26 Tryz.func50 rfl<|sg<|Pl 1<|nt<|sq<|sg<|Pl 5<|nt<|cb ((((xs.length:Nat) : Int) != ((ys.length:Nat) : Int))) (fun q10=>?_) (fun q10=>?_)
 have q10p:=ne_of_bnei q10
 refine sg<|Pl 1<|nt<|rt<|tr<|rr (.bool false)<|?_
 have hs:decide (xs=ys)=false:=decide_eq_false (fun e=>by rw [e] at q10p; omega)
 rw [hs]
 exact ⟨rfl,(Upd.refl [] _)⟩
 have q10p:=eq_of_bnei q10
 refine skn<|sq<|sg<|Pl 1<|nt<|bk<|?_
 refine glp (fun x=>[(0,.slice A xs.length c),(1,.slice B ys.length d),(5,.int .i64 ((x:Nat) : Int))]) (fun (x:Nat) w'=>Upd [] w w'∧(xs.take x=ys.take x)∧(x≤xs.length)) (fun x=>xs.length - x) 0 ⟨Upd.refl _ _,(by (try dsimp only); simp),(by (try dsimp only); omega)⟩ ?_
 rintro k w11 ⟨hu12,p13,p14⟩
 refine wkc [(0,.slice A xs.length c),(1,.slice B ys.length d),(5,.int .i64 ((k:Nat) : Int))] ?_
 have p16:xs.take k=ys.take k:=p13
 have p17:k≤xs.length:=p14
 refine sq<|sg<|Pl 4<|nt<|cb ((decide (((k:Nat) : Int) < ((xs.length:Nat) : Int)))) (fun q18=>?_) (fun q18=>?_)
 have q18p:=of_decide_eq_true q18
 refine skn<|sq<|bk<|sq<|?_
 have r31:=RdW.old h1 hu12
 refine x23 (RdW.at_ r31 k (by omega)) fun b32 o33 hA34 hl35 hr36=>?_
 have r37:=RdW.old h2 hu12
 refine x23 (RdW.at_ r37 k (by omega)) fun b38 o39 hA40 hl41 hr42=>Rg 9 (fun w'=>w'.cell? ⟨b32,o33 + k,none⟩=some (.int .u16 (xs.getD k 0))∧w'.cell? ⟨b38,o39 + k,none⟩=some (.int .u16 (ys.getD k 0))) fun w43 hu44=>hld ⟨(uc hu44 hl35),(uc hu44 hl41)⟩ fun hS45=>Rt 0 hS45<|Rt 1 hS45<|Ri1 2 hS45 xs.length k ((k:Nat) : Int) rfl hA34 (by omega)<|Rl 3 hS45 (fun _ hs=>hs.1)<|Rt 4 hS45<|Rt 5 hS45<|Ri1 6 hS45 ys.length k ((k:Nat) : Int) rfl hA40 (by omega)<|Rl 7 hS45 (fun _ hs=>hs.2)<|Rt 8 hS45<|re<|tn<|?_
 have U46:=ut0 hu12 hu44
 refine cb (((xs.getD k 0) != (ys.getD k 0))) (fun q47=>?_) (fun q47=>?_)
 have q47p:=ne_of_bnei q47
 refine sg<|Pl 1<|nt<|rt<|br<|tr<|tr<|br<|tr<|rr (.bool false)<|?_
 have hs:decide (xs=ys)=false:=decide_eq_false (eqNo (d:=0) k (by simpa using q47))
 rw [hs]
 exact ⟨rfl,U46⟩
 have q47p:=eq_of_bnei q47
 exact sk<|bn<|tn<|go<|Pl 1<|L0<|Oi (((k:Nat) : Int) + 1)<|Pl 1<|nl<|lpe (k + 1) ⟨U46,(eqPre (d:=0) (by omega) (by omega) p16 q47p),(by (try dsimp only); omega)⟩ (by omega)
 have q18p:=of_decide_eq_false q18
 refine xt<|tx<|tx<|bx<|tn<|sg<|Pl 1<|nt<|rt<|rr (.bool true)<|?_
 have hs:decide (xs=ys)=true:=decide_eq_true (eq_of_take p16 (by omega) (by omega))
 rw [hs]
 exact ⟨rfl,hu12⟩
theorem refWords_any {m m':Bool} {a b:Value} {xs ys:List Int} {w:World} (h1:RdW m w a xs) (h2:RdW m' w b ys) : Calls Tryz.prog 50 #[a,b] w (PVal (.bool (decide (xs=ys))) w):=by
  obtain ⟨A,c,rfl,_,_⟩:=h1.shape
  obtain ⟨B,d,rfl,_,_⟩:=h2.shape
  exact refWords_any0 h1 h2
set_option maxRecDepth 100000 in
set_option maxHeartbeats 4000000 in
theorem refBools_any0 {m m':Bool} {A B:Option Addr} {c d:Nat} {xs ys:List Bool} {w:World} (h1:RdL m w (.slice A xs.length c) xs) (h2:RdL m' w (.slice B ys.length d) ys) :
    Calls Tryz.prog 51 #[.slice A xs.length c,.slice B ys.length d] w (PVal (.bool (decide (xs=ys))) w):=by
 have hz1:=RdG.len h1
 have hz2:=RdG.len h2
 refine en 26 Tryz.func51 rfl<|sg<|Pl 1<|nt<|sq<|sg<|Pl 5<|nt<|cb ((((xs.length:Nat) : Int) != ((ys.length:Nat) : Int))) (fun q10=>?_) (fun q10=>?_)
 have q10p:=ne_of_bnei q10
 refine sg<|Pl 1<|nt<|rt<|tr<|rr (.bool false)<|?_
 have hs:decide (xs=ys)=false:=decide_eq_false (fun e=>by rw [e] at q10p; omega)
 rw [hs]
 exact ⟨rfl,(Upd.refl [] _)⟩
 have q10p:=eq_of_bnei q10
 refine skn<|sq<|sg<|Pl 1<|nt<|bk<|?_
 refine glp (fun x=>[(0,.slice A xs.length c),(1,.slice B ys.length d),(5,.int .i64 ((x:Nat) : Int))]) (fun (x:Nat) w'=>Upd [] w w'∧(xs.take x=ys.take x)∧(x≤xs.length)) (fun x=>xs.length - x) 0 ⟨Upd.refl _ _,(by (try dsimp only); simp),(by (try dsimp only); omega)⟩ ?_
 rintro k w11 ⟨hu12,p13,p14⟩
 refine wkc [(0,.slice A xs.length c),(1,.slice B ys.length d),(5,.int .i64 ((k:Nat) : Int))] ?_
 have p16:xs.take k=ys.take k:=p13
 have p17:k≤xs.length:=p14
 refine sq<|sg<|Pl 4<|nt<|cb ((decide (((k:Nat) : Int) < ((xs.length:Nat) : Int)))) (fun q18=>?_) (fun q18=>?_)
 have q18p:=of_decide_eq_true q18
 refine skn<|sq<|bk<|sq<|?_
 have r31:=RdL.old h1 hu12
 refine x22 (RdL.at_ r31 k (by omega)) fun b32 o33 hA34 hl35=>?_
 have r37:=RdL.old h2 hu12
 refine x22 (RdL.at_ r37 k (by omega)) fun b38 o39 hA40 hl41=>Rg 9 (fun w'=>w'.cell? ⟨b32,o33 + k,none⟩=some (.bool (xs.getD k false))∧w'.cell? ⟨b38,o39 + k,none⟩=some (.bool (ys.getD k false))) fun w43 hu44=>hld ⟨(uc hu44 hl35),(uc hu44 hl41)⟩ fun hS45=>Rt 0 hS45<|Rt 1 hS45<|Ri1 2 hS45 xs.length k ((k:Nat) : Int) rfl hA34 (by omega)<|Rl 3 hS45 (fun _ hs=>hs.1)<|Rt 4 hS45<|Rt 5 hS45<|Ri1 6 hS45 ys.length k ((k:Nat) : Int) rfl hA40 (by omega)<|Rl 7 hS45 (fun _ hs=>hs.2)<|Rt 8 hS45<|re<|tn<|?_
 have U46:=ut0 hu12 hu44
 refine cb (((xs.getD k false) != (ys.getD k false))) (fun q47=>?_) (fun q47=>?_)
 refine sg<|Pl 1<|nt<|rt<|br<|tr<|tr<|br<|tr<|rr (.bool false)<|?_
 have hs:decide (xs=ys)=false:=decide_eq_false (eqNo (d:=false) k (by simpa using q47))
 rw [hs]
 exact ⟨rfl,U46⟩
 exact sk<|bn<|tn<|go<|Pl 1<|L0<|Oi (((k:Nat) : Int) + 1)<|Pl 1<|nl<|lpe (k + 1) ⟨U46,(eqPre (d:=false) (by omega) (by omega) p16 (by simpa using q47)),(by (try dsimp only); omega)⟩ (by omega)
 have q18p:=of_decide_eq_false q18
 refine xt<|tx<|tx<|bx<|tn<|sg<|Pl 1<|nt<|rt<|rr (.bool true)<|?_
 have hs:decide (xs=ys)=true:=decide_eq_true (eq_of_take p16 (by omega) (by omega))
 rw [hs]
 exact ⟨rfl,hu12⟩
theorem refBools_any {m m':Bool} {a b:Value} {xs ys:List Bool} {w:World} (h1:RdL m w a xs) (h2:RdL m' w b ys) : Calls Tryz.prog 51 #[a,b] w (PVal (.bool (decide (xs=ys))) w):=by
  obtain ⟨A,c,rfl,_,_⟩:=h1.shape
  obtain ⟨B,d,rfl,_,_⟩:=h2.shape
  exact refBools_any0 h1 h2
open Go.RowKit
theorem take_eq {α:Type} {xs ys:List α} {d:α} {k:Nat} (h:xs.take k=ys.take k) (hk:k < xs.length) (hl:xs.length=ys.length) (he:xs.getD k d=ys.getD k d) : xs.take (k + 1)=ys.take (k + 1):=by
  have hk2:k < ys.length:=by omega
  rw [List.take_succ_eq_append_getElem hk,List.take_succ_eq_append_getElem hk2,h]
  rw [List.getD_eq_getElem?_getD,List.getElem?_eq_getElem hk,List.getD_eq_getElem?_getD,List.getElem?_eq_getElem (by omega)] at he
  simp only [Option.getD_some] at he
  rw [he]
theorem rec_eq {a b:Rec} (h:((((!(decide (a.words=b.words))) || (a.file != b.file)) || (a.record != b.record)) || (a.count != b.count))=false) : a=b:=by
  cases a
  cases b
  simp at h
  simp [h]
theorem obj_eq {a b:Obj} (h:((!(decide (a.value=b.value))) || (a.id != b.id))=false) : a=b:=by
  cases a
  cases b
  simp at h
  simp [h]
theorem obj_eq2 {a b:Obj} (h:(!(decide (a.value=b.value)))=false) (h2:(a.id != b.id)=false) : a=b:=obj_eq (by rw [h,h2]; rfl)
theorem ne_by {A B:Msg} {f:Msg→Msg→Bool} (h:f A B=true) (hf:∀ M,f M M=false) : decide (A=B)=false:=decide_eq_false fun e=>by rw [e,hf] at h; cases h
theorem same7_t {A B:Msg} (h1:((((((((((((A.code != B.code) || (A.fail != B.fail)) || (A.addr != B.addr)) || (A.count != B.count)) || (A.value != B.value)) || (A.and_ != B.and_)) || (A.or_ != B.or_)) || (A.addr2 != B.addr2)) || (A.sub != B.sub)) || (A.status != B.status)) || (A.events != B.events)) || (A.messages != B.messages))=false) (h2:(((((A.mei != B.mei) || (A.kind != B.kind)) || (A.level != B.level)) || (A.more != B.more)) || (A.next != B.next))=false) (h3:(((((!(decide (A.words=B.words))) || (!(decide (A.bits=B.bits)))) || (!(decide (A.data=B.data)))) || (((A.recs.length:Nat) : Int) != ((B.recs.length:Nat) : Int))) || (((A.objects.length:Nat) : Int) != ((B.objects.length:Nat) : Int)))=false) (hr:A.recs.length=B.recs.length→A.recs=B.recs) (ho:A.objects.length=B.objects.length→A.objects=B.objects) : A=B:=by
  cases A
  cases B
  simp only [Bool.or_eq_false_iff,bne_eq_false_iff_eq,Bool.not_eq_false',decide_eq_true_eq] at h1 h2 h3
  simp only at hr ho
  obtain ⟨⟨⟨⟨⟨⟨⟨⟨⟨⟨⟨a1,a2⟩,a3⟩,a4⟩,a5⟩,a6⟩,a7⟩,a8⟩,a9⟩,a10⟩,a11⟩,a12⟩:=h1
  obtain ⟨⟨⟨⟨b1,b2⟩,b3⟩,b4⟩,b5⟩:=h2
  obtain ⟨⟨⟨⟨d1,d2⟩,d3⟩,d4⟩,d5⟩:=h3
  have d4:=hr (by omega)
  have d5:=ho (by omega)
  subst a1 a2 a3 a4 a5 a6 a7 a8 a9 a10 a11 a12 b1 b2 b3 b4 b5 d1 d2 d3 d4 d5
  rfl
set_option maxRecDepth 100000 in
set_option maxHeartbeats 4000000 in
theorem same7_any {m m':Bool} {pc qc:Array Value} {A B:Msg} {w:World} (ha:MsgRd m w pc.toList A) (hb:MsgRd m' w qc.toList B) :
    Calls Tryz.prog 34 #[.agg pc,.agg qc] w (PVal (.bool (decide (A=B))) w):=by
 have pM:=ha
 obtain ⟨pvw,pvb,pvd,pvr,pvo,ph0,phw,phb,phd,phr,pho,pR⟩:=ha
 obtain rfl:pc=(msgCells A pvw pvb pvd pvr pvo).toArray:=by apply Array.toList_inj.1; simpa using ph0
 clear ph0
 obtain ⟨pw,pkw,rfl,_,_⟩:=phw.shape
 obtain ⟨pb,pkb,rfl,_,_⟩:=phb.shape
 obtain ⟨pd,pkd,rfl,_,_⟩:=phd.shape
 obtain ⟨pr,pkr,rfl,_,_⟩:=phr.shape
 obtain ⟨po,pko,rfl,_,_⟩:=pho.shape
 have qM:=hb
 obtain ⟨qvw,qvb,qvd,qvr,qvo,qh0,qhw,qhb,qhd,qhr,qho,qR⟩:=hb
 obtain rfl:qc=(msgCells B qvw qvb qvd qvr qvo).toArray:=by apply Array.toList_inj.1; simpa using qh0
 clear qh0
 obtain ⟨qw,qkw,rfl,_,_⟩:=qhw.shape
 obtain ⟨qb,qkb,rfl,_,_⟩:=qhb.shape
 obtain ⟨qd,qkd,rfl,_,_⟩:=qhd.shape
 obtain ⟨qr,qkr,rfl,_,_⟩:=qhr.shape
 obtain ⟨qo,qko,rfl,_,_⟩:=qho.shape
 have hz1:=RdG.len phr
 have hz2:=RdG.len pho
 refine en 254 Tryz.func34 rfl<|sg<|L0<|Obx (mG A.code A.fail A.addr A.count A.value A.and_ A.or_ A.addr2 A.sub A.status A.events A.messages (.slice pw A.words.length pkw) (.slice pb A.bits.length pkb) (.slice pd A.data.length pkd) (.slice pr A.recs.length pkr) A.mei A.kind A.level A.more A.next (.slice po A.objects.length pko)) fun g10 w11 hg12 B13 hu14=>L0<|Obx (mG B.code B.fail B.addr B.count B.value B.and_ B.or_ B.addr2 B.sub B.status B.events B.messages (.slice qw B.words.length qkw) (.slice qb B.bits.length qkb) (.slice qd B.data.length qkd) (.slice qr B.recs.length qkr) B.mei B.kind B.level B.more B.next (.slice qo B.objects.length qko)) fun g15 w16 hg17 B18 hu19=>Pl 1<|nt<|sq<|sg<|Pl 1<|?_
 have r20:=ub hu19 B13
 refine L0<|Olb r20 0<|Pl 1<|L0<|Olb B18 0<|Pl 2<|cu 6 [19] 25 (((A.code != B.code) || (A.fail != B.fail))) (fun K K22=>?_) ?_
 refine bl 19 ((A.code != B.code)) (fun q21=>?_) (fun q21=>?_)
 have q21p:=ne_of_bnei q21
 exact Pl 6<|ce K22 true (by rw [q21]; rfl)
 have q21p:=eq_of_bnei q21
 exact Pl 1<|L1<|Olb r20 1<|Pl 1<|L1<|Olb B18 1<|Pl 2<|ce K22 (A.fail != B.fail) (by rw [q21]; rfl)
 refine Pl 1<|cu 6 [26] 32 ((((A.code != B.code) || (A.fail != B.fail)) || (A.addr != B.addr))) (fun K K24=>?_) ?_
 refine bl 26 (((A.code != B.code) || (A.fail != B.fail))) (fun q23=>?_) (fun q23=>?_)
 exact Pl 6<|ce K24 true (by rw [q23]; rfl)
 have q23a:=(or_f q23).1
 have q23b:=(or_f q23).2
 have q23ap:=eq_of_bnei q23a
 have q23bp:=eq_of_bnei q23b
 exact Pl 1<|L1<|Olb r20 2<|Pl 1<|L1<|Olb B18 2<|Pl 2<|ce K24 (A.addr != B.addr) (by rw [q23]; rfl)
 refine Pl 1<|cu 6 [33] 39 (((((A.code != B.code) || (A.fail != B.fail)) || (A.addr != B.addr)) || (A.count != B.count))) (fun K K26=>?_) ?_
 refine bl 33 ((((A.code != B.code) || (A.fail != B.fail)) || (A.addr != B.addr))) (fun q25=>?_) (fun q25=>?_)
 exact Pl 6<|ce K26 true (by rw [q25]; rfl)
 have q25a:=(or_f q25).1
 have q25b:=(or_f q25).2
 have q25aa:=(or_f q25a).1
 have q25ab:=(or_f q25a).2
 have q25aap:=eq_of_bnei q25aa
 have q25abp:=eq_of_bnei q25ab
 have q25bp:=eq_of_bnei q25b
 exact Pl 1<|L1<|Olb r20 3<|Pl 1<|L1<|Olb B18 3<|Pl 2<|ce K26 (A.count != B.count) (by rw [q25]; rfl)
 refine Pl 1<|cu 6 [40] 46 ((((((A.code != B.code) || (A.fail != B.fail)) || (A.addr != B.addr)) || (A.count != B.count)) || (A.value != B.value))) (fun K K28=>?_) ?_
 refine bl 40 (((((A.code != B.code) || (A.fail != B.fail)) || (A.addr != B.addr)) || (A.count != B.count))) (fun q27=>?_) (fun q27=>?_)
 exact Pl 6<|ce K28 true (by rw [q27]; rfl)
 have q27a:=(or_f q27).1
 have q27b:=(or_f q27).2
 have q27aa:=(or_f q27a).1
 have q27ab:=(or_f q27a).2
 have q27aaa:=(or_f q27aa).1
 have q27aab:=(or_f q27aa).2
 have q27aaap:=eq_of_bnei q27aaa
 have q27aabp:=eq_of_bnei q27aab
 have q27abp:=eq_of_bnei q27ab
 have q27bp:=eq_of_bnei q27b
 exact Pl 1<|L1<|Olb r20 4<|Pl 1<|L1<|Olb B18 4<|Pl 2<|ce K28 (A.value != B.value) (by rw [q27]; rfl)
 refine Pl 1<|cu 6 [47] 53 (((((((A.code != B.code) || (A.fail != B.fail)) || (A.addr != B.addr)) || (A.count != B.count)) || (A.value != B.value)) || (A.and_ != B.and_))) (fun K K30=>?_) ?_
 refine bl 47 ((((((A.code != B.code) || (A.fail != B.fail)) || (A.addr != B.addr)) || (A.count != B.count)) || (A.value != B.value))) (fun q29=>?_) (fun q29=>?_)
 exact Pl 6<|ce K30 true (by rw [q29]; rfl)
 have q29a:=(or_f q29).1
 have q29b:=(or_f q29).2
 have q29aa:=(or_f q29a).1
 have q29ab:=(or_f q29a).2
 have q29aaa:=(or_f q29aa).1
 have q29aab:=(or_f q29aa).2
 have q29aaaa:=(or_f q29aaa).1
 have q29aaab:=(or_f q29aaa).2
 have q29aaaap:=eq_of_bnei q29aaaa
 have q29aaabp:=eq_of_bnei q29aaab
 have q29aabp:=eq_of_bnei q29aab
 have q29abp:=eq_of_bnei q29ab
 have q29bp:=eq_of_bnei q29b
 exact Pl 1<|L1<|Olb r20 5<|Pl 1<|L1<|Olb B18 5<|Pl 2<|ce K30 (A.and_ != B.and_) (by rw [q29]; rfl)
 refine Pl 1<|cu 6 [54] 60 ((((((((A.code != B.code) || (A.fail != B.fail)) || (A.addr != B.addr)) || (A.count != B.count)) || (A.value != B.value)) || (A.and_ != B.and_)) || (A.or_ != B.or_))) (fun K K32=>?_) ?_
 refine bl 54 (((((((A.code != B.code) || (A.fail != B.fail)) || (A.addr != B.addr)) || (A.count != B.count)) || (A.value != B.value)) || (A.and_ != B.and_))) (fun q31=>?_) (fun q31=>?_)
 exact Pl 6<|ce K32 true (by rw [q31]; rfl)
 have q31a:=(or_f q31).1
 have q31b:=(or_f q31).2
 have q31aa:=(or_f q31a).1
 have q31ab:=(or_f q31a).2
 have q31aaa:=(or_f q31aa).1
 have q31aab:=(or_f q31aa).2
 have q31aaaa:=(or_f q31aaa).1
 have q31aaab:=(or_f q31aaa).2
 have q31aaaaa:=(or_f q31aaaa).1
 have q31aaaab:=(or_f q31aaaa).2
 have q31aaaaap:=eq_of_bnei q31aaaaa
 have q31aaaabp:=eq_of_bnei q31aaaab
 have q31aaabp:=eq_of_bnei q31aaab
 have q31aabp:=eq_of_bnei q31aab
 have q31abp:=eq_of_bnei q31ab
 have q31bp:=eq_of_bnei q31b
 exact Pl 1<|L1<|Olb r20 6<|Pl 1<|L1<|Olb B18 6<|Pl 2<|ce K32 (A.or_ != B.or_) (by rw [q31]; rfl)
 refine Pl 1<|cu 6 [61] 67 (((((((((A.code != B.code) || (A.fail != B.fail)) || (A.addr != B.addr)) || (A.count != B.count)) || (A.value != B.value)) || (A.and_ != B.and_)) || (A.or_ != B.or_)) || (A.addr2 != B.addr2))) (fun K K34=>?_) ?_
 refine bl 61 ((((((((A.code != B.code) || (A.fail != B.fail)) || (A.addr != B.addr)) || (A.count != B.count)) || (A.value != B.value)) || (A.and_ != B.and_)) || (A.or_ != B.or_))) (fun q33=>?_) (fun q33=>?_)
 exact Pl 6<|ce K34 true (by rw [q33]; rfl)
 have q33a:=(or_f q33).1
 have q33b:=(or_f q33).2
 have q33aa:=(or_f q33a).1
 have q33ab:=(or_f q33a).2
 have q33aaa:=(or_f q33aa).1
 have q33aab:=(or_f q33aa).2
 have q33aaaa:=(or_f q33aaa).1
 have q33aaab:=(or_f q33aaa).2
 have q33aaaaa:=(or_f q33aaaa).1
 have q33aaaab:=(or_f q33aaaa).2
 have q33aaaaaa:=(or_f q33aaaaa).1
 have q33aaaaab:=(or_f q33aaaaa).2
 have q33aaaaaap:=eq_of_bnei q33aaaaaa
 have q33aaaaabp:=eq_of_bnei q33aaaaab
 have q33aaaabp:=eq_of_bnei q33aaaab
 have q33aaabp:=eq_of_bnei q33aaab
 have q33aabp:=eq_of_bnei q33aab
 have q33abp:=eq_of_bnei q33ab
 have q33bp:=eq_of_bnei q33b
 exact Pl 1<|L1<|Olb r20 7<|Pl 1<|L1<|Olb B18 7<|Pl 2<|ce K34 (A.addr2 != B.addr2) (by rw [q33]; rfl)
 refine Pl 1<|cu 6 [68] 74 ((((((((((A.code != B.code) || (A.fail != B.fail)) || (A.addr != B.addr)) || (A.count != B.count)) || (A.value != B.value)) || (A.and_ != B.and_)) || (A.or_ != B.or_)) || (A.addr2 != B.addr2)) || (A.sub != B.sub))) (fun K K36=>?_) ?_
 refine bl 68 (((((((((A.code != B.code) || (A.fail != B.fail)) || (A.addr != B.addr)) || (A.count != B.count)) || (A.value != B.value)) || (A.and_ != B.and_)) || (A.or_ != B.or_)) || (A.addr2 != B.addr2))) (fun q35=>?_) (fun q35=>?_)
 exact Pl 6<|ce K36 true (by rw [q35]; rfl)
 have q35a:=(or_f q35).1
 have q35b:=(or_f q35).2
 have q35aa:=(or_f q35a).1
 have q35ab:=(or_f q35a).2
 have q35aaa:=(or_f q35aa).1
 have q35aab:=(or_f q35aa).2
 have q35aaaa:=(or_f q35aaa).1
 have q35aaab:=(or_f q35aaa).2
 have q35aaaaa:=(or_f q35aaaa).1
 have q35aaaab:=(or_f q35aaaa).2
 have q35aaaaaa:=(or_f q35aaaaa).1
 have q35aaaaab:=(or_f q35aaaaa).2
 have q35aaaaaaa:=(or_f q35aaaaaa).1
 have q35aaaaaab:=(or_f q35aaaaaa).2
 have q35aaaaaaap:=eq_of_bnei q35aaaaaaa
 have q35aaaaaabp:=eq_of_bnei q35aaaaaab
 have q35aaaaabp:=eq_of_bnei q35aaaaab
 have q35aaaabp:=eq_of_bnei q35aaaab
 have q35aaabp:=eq_of_bnei q35aaab
 have q35aabp:=eq_of_bnei q35aab
 have q35abp:=eq_of_bnei q35ab
 have q35bp:=eq_of_bnei q35b
 exact Pl 1<|L1<|Olb r20 8<|Pl 1<|L1<|Olb B18 8<|Pl 2<|ce K36 (A.sub != B.sub) (by rw [q35]; rfl)
 refine Pl 1<|cu 6 [75] 81 (((((((((((A.code != B.code) || (A.fail != B.fail)) || (A.addr != B.addr)) || (A.count != B.count)) || (A.value != B.value)) || (A.and_ != B.and_)) || (A.or_ != B.or_)) || (A.addr2 != B.addr2)) || (A.sub != B.sub)) || (A.status != B.status))) (fun K K38=>?_) ?_
 refine bl 75 ((((((((((A.code != B.code) || (A.fail != B.fail)) || (A.addr != B.addr)) || (A.count != B.count)) || (A.value != B.value)) || (A.and_ != B.and_)) || (A.or_ != B.or_)) || (A.addr2 != B.addr2)) || (A.sub != B.sub))) (fun q37=>?_) (fun q37=>?_)
 exact Pl 6<|ce K38 true (by rw [q37]; rfl)
 have q37a:=(or_f q37).1
 have q37b:=(or_f q37).2
 have q37aa:=(or_f q37a).1
 have q37ab:=(or_f q37a).2
 have q37aaa:=(or_f q37aa).1
 have q37aab:=(or_f q37aa).2
 have q37aaaa:=(or_f q37aaa).1
 have q37aaab:=(or_f q37aaa).2
 have q37aaaaa:=(or_f q37aaaa).1
 have q37aaaab:=(or_f q37aaaa).2
 have q37aaaaaa:=(or_f q37aaaaa).1
 have q37aaaaab:=(or_f q37aaaaa).2
 have q37aaaaaaa:=(or_f q37aaaaaa).1
 have q37aaaaaab:=(or_f q37aaaaaa).2
 have q37aaaaaaaa:=(or_f q37aaaaaaa).1
 have q37aaaaaaab:=(or_f q37aaaaaaa).2
 have q37aaaaaaaap:=eq_of_bnei q37aaaaaaaa
 have q37aaaaaaabp:=eq_of_bnei q37aaaaaaab
 have q37aaaaaabp:=eq_of_bnei q37aaaaaab
 have q37aaaaabp:=eq_of_bnei q37aaaaab
 have q37aaaabp:=eq_of_bnei q37aaaab
 have q37aaabp:=eq_of_bnei q37aaab
 have q37aabp:=eq_of_bnei q37aab
 have q37abp:=eq_of_bnei q37ab
 have q37bp:=eq_of_bnei q37b
 exact Pl 1<|L1<|Olb r20 9<|Pl 1<|L1<|Olb B18 9<|Pl 2<|ce K38 (A.status != B.status) (by rw [q37]; rfl)
 refine Pl 1<|cu 6 [82] 88 ((((((((((((A.code != B.code) || (A.fail != B.fail)) || (A.addr != B.addr)) || (A.count != B.count)) || (A.value != B.value)) || (A.and_ != B.and_)) || (A.or_ != B.or_)) || (A.addr2 != B.addr2)) || (A.sub != B.sub)) || (A.status != B.status)) || (A.events != B.events))) (fun K K40=>?_) ?_
 refine bl 82 (((((((((((A.code != B.code) || (A.fail != B.fail)) || (A.addr != B.addr)) || (A.count != B.count)) || (A.value != B.value)) || (A.and_ != B.and_)) || (A.or_ != B.or_)) || (A.addr2 != B.addr2)) || (A.sub != B.sub)) || (A.status != B.status))) (fun q39=>?_) (fun q39=>?_)
 exact Pl 6<|ce K40 true (by rw [q39]; rfl)
 have q39a:=(or_f q39).1
 have q39b:=(or_f q39).2
 have q39aa:=(or_f q39a).1
 have q39ab:=(or_f q39a).2
 have q39aaa:=(or_f q39aa).1
 have q39aab:=(or_f q39aa).2
 have q39aaaa:=(or_f q39aaa).1
 have q39aaab:=(or_f q39aaa).2
 have q39aaaaa:=(or_f q39aaaa).1
 have q39aaaab:=(or_f q39aaaa).2
 have q39aaaaaa:=(or_f q39aaaaa).1
 have q39aaaaab:=(or_f q39aaaaa).2
 have q39aaaaaaa:=(or_f q39aaaaaa).1
 have q39aaaaaab:=(or_f q39aaaaaa).2
 have q39aaaaaaaa:=(or_f q39aaaaaaa).1
 have q39aaaaaaab:=(or_f q39aaaaaaa).2
 have q39aaaaaaaaa:=(or_f q39aaaaaaaa).1
 have q39aaaaaaaab:=(or_f q39aaaaaaaa).2
 have q39aaaaaaaaap:=eq_of_bnei q39aaaaaaaaa
 have q39aaaaaaaabp:=eq_of_bnei q39aaaaaaaab
 have q39aaaaaaabp:=eq_of_bnei q39aaaaaaab
 have q39aaaaaabp:=eq_of_bnei q39aaaaaab
 have q39aaaaabp:=eq_of_bnei q39aaaaab
 have q39aaaabp:=eq_of_bnei q39aaaab
 have q39aaabp:=eq_of_bnei q39aaab
 have q39aabp:=eq_of_bnei q39aab
 have q39abp:=eq_of_bnei q39ab
 have q39bp:=eq_of_bnei q39b
 exact Pl 1<|L1<|Olb r20 10<|Pl 1<|L1<|Olb B18 10<|Pl 2<|ce K40 (A.events != B.events) (by rw [q39]; rfl)
 refine Pl 1<|cu 6 [89] 95 (((((((((((((A.code != B.code) || (A.fail != B.fail)) || (A.addr != B.addr)) || (A.count != B.count)) || (A.value != B.value)) || (A.and_ != B.and_)) || (A.or_ != B.or_)) || (A.addr2 != B.addr2)) || (A.sub != B.sub)) || (A.status != B.status)) || (A.events != B.events)) || (A.messages != B.messages))) (fun K K42=>?_) ?_
 refine bl 89 ((((((((((((A.code != B.code) || (A.fail != B.fail)) || (A.addr != B.addr)) || (A.count != B.count)) || (A.value != B.value)) || (A.and_ != B.and_)) || (A.or_ != B.or_)) || (A.addr2 != B.addr2)) || (A.sub != B.sub)) || (A.status != B.status)) || (A.events != B.events))) (fun q41=>?_) (fun q41=>?_)
 exact Pl 6<|ce K42 true (by rw [q41]; rfl)
 have q41a:=(or_f q41).1
 have q41b:=(or_f q41).2
 have q41aa:=(or_f q41a).1
 have q41ab:=(or_f q41a).2
 have q41aaa:=(or_f q41aa).1
 have q41aab:=(or_f q41aa).2
 have q41aaaa:=(or_f q41aaa).1
 have q41aaab:=(or_f q41aaa).2
 have q41aaaaa:=(or_f q41aaaa).1
 have q41aaaab:=(or_f q41aaaa).2
 have q41aaaaaa:=(or_f q41aaaaa).1
 have q41aaaaab:=(or_f q41aaaaa).2
 have q41aaaaaaa:=(or_f q41aaaaaa).1
 have q41aaaaaab:=(or_f q41aaaaaa).2
 have q41aaaaaaaa:=(or_f q41aaaaaaa).1
 have q41aaaaaaab:=(or_f q41aaaaaaa).2
 have q41aaaaaaaaa:=(or_f q41aaaaaaaa).1
 have q41aaaaaaaab:=(or_f q41aaaaaaaa).2
 have q41aaaaaaaaaa:=(or_f q41aaaaaaaaa).1
 have q41aaaaaaaaab:=(or_f q41aaaaaaaaa).2
 have q41aaaaaaaaaap:=eq_of_bnei q41aaaaaaaaaa
 have q41aaaaaaaaabp:=eq_of_bnei q41aaaaaaaaab
 have q41aaaaaaaabp:=eq_of_bnei q41aaaaaaaab
 have q41aaaaaaabp:=eq_of_bnei q41aaaaaaab
 have q41aaaaaabp:=eq_of_bnei q41aaaaaab
 have q41aaaaabp:=eq_of_bnei q41aaaaab
 have q41aaaabp:=eq_of_bnei q41aaaab
 have q41aaabp:=eq_of_bnei q41aaab
 have q41aabp:=eq_of_bnei q41aab
 have q41abp:=eq_of_bnei q41ab
 have q41bp:=eq_of_bnei q41b
 exact Pl 1<|L1<|Olb r20 11<|Pl 1<|L1<|Olb B18 11<|Pl 2<|ce K42 (A.messages != B.messages) (by rw [q41]; rfl)
 refine nt<|?_
 have U43:=ut0 hu14 hu19
 refine cb (((((((((((((A.code != B.code) || (A.fail != B.fail)) || (A.addr != B.addr)) || (A.count != B.count)) || (A.value != B.value)) || (A.and_ != B.and_)) || (A.or_ != B.or_)) || (A.addr2 != B.addr2)) || (A.sub != B.sub)) || (A.status != B.status)) || (A.events != B.events)) || (A.messages != B.messages))) (fun q44=>?_) (fun q44=>?_)
 refine sg<|Pl 1<|nt<|rt<|tr<|rr (.bool false)<|?_
 have hs:decide (A=B)=false:=ne_by (f:=fun x y=>((((((((((((x.code != y.code) || (x.fail != y.fail)) || (x.addr != y.addr)) || (x.count != y.count)) || (x.value != y.value)) || (x.and_ != y.and_)) || (x.or_ != y.or_)) || (x.addr2 != y.addr2)) || (x.sub != y.sub)) || (x.status != y.status)) || (x.events != y.events)) || (x.messages != y.messages))) q44 (fun M=>by simp)
 rw [hs]
 exact ⟨rfl,U43⟩
 have q44a:=(or_f q44).1
 have q44b:=(or_f q44).2
 have q44aa:=(or_f q44a).1
 have q44ab:=(or_f q44a).2
 have q44aaa:=(or_f q44aa).1
 have q44aab:=(or_f q44aa).2
 have q44aaaa:=(or_f q44aaa).1
 have q44aaab:=(or_f q44aaa).2
 have q44aaaaa:=(or_f q44aaaa).1
 have q44aaaab:=(or_f q44aaaa).2
 have q44aaaaaa:=(or_f q44aaaaa).1
 have q44aaaaab:=(or_f q44aaaaa).2
 have q44aaaaaaa:=(or_f q44aaaaaa).1
 have q44aaaaaab:=(or_f q44aaaaaa).2
 have q44aaaaaaaa:=(or_f q44aaaaaaa).1
 have q44aaaaaaab:=(or_f q44aaaaaaa).2
 have q44aaaaaaaaa:=(or_f q44aaaaaaaa).1
 have q44aaaaaaaab:=(or_f q44aaaaaaaa).2
 have q44aaaaaaaaaa:=(or_f q44aaaaaaaaa).1
 have q44aaaaaaaaab:=(or_f q44aaaaaaaaa).2
 have q44aaaaaaaaaaa:=(or_f q44aaaaaaaaaa).1
 have q44aaaaaaaaaab:=(or_f q44aaaaaaaaaa).2
 have q44aaaaaaaaaaap:=eq_of_bnei q44aaaaaaaaaaa
 have q44aaaaaaaaaabp:=eq_of_bnei q44aaaaaaaaaab
 have q44aaaaaaaaabp:=eq_of_bnei q44aaaaaaaaab
 have q44aaaaaaaabp:=eq_of_bnei q44aaaaaaaab
 have q44aaaaaaabp:=eq_of_bnei q44aaaaaaab
 have q44aaaaaabp:=eq_of_bnei q44aaaaaab
 have q44aaaaabp:=eq_of_bnei q44aaaaab
 have q44aaaabp:=eq_of_bnei q44aaaab
 have q44aaabp:=eq_of_bnei q44aaab
 have q44aabp:=eq_of_bnei q44aab
 have q44abp:=eq_of_bnei q44ab
 have q44bp:=eq_of_bnei q44b
 refine skn<|sq<|sg<|Pl 1<|L0<|Olb r20 16<|Pl 1<|L0<|Olb B18 16<|Pl 2<|cu 6 [101] 107 (((A.mei != B.mei) || (A.kind != B.kind))) (fun K K46=>?_) ?_
 refine bl 101 ((A.mei != B.mei)) (fun q45=>?_) (fun q45=>?_)
 have q45p:=ne_of_bnei q45
 exact Pl 6<|ce K46 true (by rw [q45]; rfl)
 have q45p:=eq_of_bnei q45
 exact Pl 1<|L1<|Olb r20 17<|Pl 1<|L1<|Olb B18 17<|Pl 2<|ce K46 (A.kind != B.kind) (by rw [q45]; rfl)
 refine Pl 1<|cu 6 [108] 114 ((((A.mei != B.mei) || (A.kind != B.kind)) || (A.level != B.level))) (fun K K48=>?_) ?_
 refine bl 108 (((A.mei != B.mei) || (A.kind != B.kind))) (fun q47=>?_) (fun q47=>?_)
 exact Pl 6<|ce K48 true (by rw [q47]; rfl)
 have q47a:=(or_f q47).1
 have q47b:=(or_f q47).2
 have q47ap:=eq_of_bnei q47a
 have q47bp:=eq_of_bnei q47b
 exact Pl 1<|L1<|Olb r20 18<|Pl 1<|L1<|Olb B18 18<|Pl 2<|ce K48 (A.level != B.level) (by rw [q47]; rfl)
 refine Pl 1<|cu 6 [115] 121 (((((A.mei != B.mei) || (A.kind != B.kind)) || (A.level != B.level)) || (A.more != B.more))) (fun K K50=>?_) ?_
 refine bl 115 ((((A.mei != B.mei) || (A.kind != B.kind)) || (A.level != B.level))) (fun q49=>?_) (fun q49=>?_)
 exact Pl 6<|ce K50 true (by rw [q49]; rfl)
 have q49a:=(or_f q49).1
 have q49b:=(or_f q49).2
 have q49aa:=(or_f q49a).1
 have q49ab:=(or_f q49a).2
 have q49aap:=eq_of_bnei q49aa
 have q49abp:=eq_of_bnei q49ab
 have q49bp:=eq_of_bnei q49b
 exact Pl 1<|L1<|Olb r20 19<|Pl 1<|L1<|Olb B18 19<|Pl 2<|ce K50 (A.more != B.more) (by rw [q49]; rfl)
 refine Pl 1<|cu 6 [122] 128 ((((((A.mei != B.mei) || (A.kind != B.kind)) || (A.level != B.level)) || (A.more != B.more)) || (A.next != B.next))) (fun K K52=>?_) ?_
 refine bl 122 (((((A.mei != B.mei) || (A.kind != B.kind)) || (A.level != B.level)) || (A.more != B.more))) (fun q51=>?_) (fun q51=>?_)
 exact Pl 6<|ce K52 true (by rw [q51]; rfl)
 have q51a:=(or_f q51).1
 have q51b:=(or_f q51).2
 have q51aa:=(or_f q51a).1
 have q51ab:=(or_f q51a).2
 have q51aaa:=(or_f q51aa).1
 have q51aab:=(or_f q51aa).2
 have q51aaap:=eq_of_bnei q51aaa
 have q51aabp:=eq_of_bnei q51aab
 have q51abp:=eq_of_bnei q51ab
 have q51bp:=eq_of_bnei q51b
 exact Pl 1<|L1<|Olb r20 20<|Pl 1<|L1<|Olb B18 20<|Pl 2<|ce K52 (A.next != B.next) (by rw [q51]; rfl)
 refine nt<|cb ((((((A.mei != B.mei) || (A.kind != B.kind)) || (A.level != B.level)) || (A.more != B.more)) || (A.next != B.next))) (fun q53=>?_) (fun q53=>?_)
 refine sg<|Pl 1<|nt<|rt<|tr<|rr (.bool false)<|?_
 have hs:decide (A=B)=false:=ne_by (f:=fun x y=>(((((x.mei != y.mei) || (x.kind != y.kind)) || (x.level != y.level)) || (x.more != y.more)) || (x.next != y.next))) q53 (fun M=>by simp)
 rw [hs]
 exact ⟨rfl,U43⟩
 have q53a:=(or_f q53).1
 have q53b:=(or_f q53).2
 have q53aa:=(or_f q53a).1
 have q53ab:=(or_f q53a).2
 have q53aaa:=(or_f q53aa).1
 have q53aab:=(or_f q53aa).2
 have q53aaaa:=(or_f q53aaa).1
 have q53aaab:=(or_f q53aaa).2
 have q53aaaap:=eq_of_bnei q53aaaa
 have q53aaabp:=eq_of_bnei q53aaab
 have q53aabp:=eq_of_bnei q53aab
 have q53abp:=eq_of_bnei q53ab
 have q53bp:=eq_of_bnei q53b
 refine skn<|sg<|Pl 1<|L0<|Olb r20 12<|Pl 1<|L0<|Olb B18 12<|?_
 have r56:=RdW.old phw U43
 have r57:=RdW.old qhw U43
 refine L0<|Oc<|m1 (refWords_any r56 r57) fun w54 hu55=>Pl 1<|ng<|Pl 1<|?_
 have r58:=ub hu55 r20
 refine L0<|Olb r58 13<|Pl 1<|?_
 have r59:=ub hu55 B18
 refine L0<|Olb r59 13<|?_
 have U62:=ut0 U43 hu55
 have r63:=RdL.old phb U62
 have r64:=RdL.old qhb U62
 refine L0<|Oc<|m1 (refBools_any r63 r64) fun w60 hu61=>Pl 1<|ng<|Pl 1<|?_
 have r65:=ub hu61 r58
 refine L0<|Olb r65 14<|Pl 1<|?_
 have r66:=ub hu61 r59
 refine L0<|Olb r66 14<|?_
 have U69:=ut0 U62 hu61
 have r70:=RdB.old phd U69
 have r71:=RdB.old qhd U69
 refine L0<|Oc<|m1 (same1_any r70 r71) fun w67 hu68=>Pl 1<|nt<|sq<|sg<|Pl 3<|cu 3 [146] 149 (((!(decide (A.words=B.words))) || (!(decide (A.bits=B.bits))))) (fun K K73=>?_) ?_
 refine bl 146 ((!(decide (A.words=B.words)))) (fun q72=>?_) (fun q72=>?_)
 have q72n:(decide (A.words=B.words))=false:=by simpa using q72
 have q72np:=of_decide_eq_false q72n
 exact Pl 3<|ce K73 true (by rw [q72]; rfl)
 have q72n:(decide (A.words=B.words))=true:=by simpa using q72
 have q72np:=of_decide_eq_true q72n
 exact Pl 3<|ce K73 (!(decide (A.bits=B.bits))) (by rw [q72]; rfl)
 refine Pl 1<|cu 3 [150] 153 ((((!(decide (A.words=B.words))) || (!(decide (A.bits=B.bits)))) || (!(decide (A.data=B.data))))) (fun K K75=>?_) ?_
 refine bl 150 (((!(decide (A.words=B.words))) || (!(decide (A.bits=B.bits))))) (fun q74=>?_) (fun q74=>?_)
 exact Pl 3<|ce K75 true (by rw [q74]; rfl)
 have q74a:=(or_f q74).1
 have q74b:=(or_f q74).2
 have q74an:(decide (A.words=B.words))=true:=by simpa using q74a
 have q74anp:=of_decide_eq_true q74an
 have q74bn:(decide (A.bits=B.bits))=true:=by simpa using q74b
 have q74bnp:=of_decide_eq_true q74bn
 exact Pl 3<|ce K75 (!(decide (A.data=B.data))) (by rw [q74]; rfl)
 refine Pl 1<|cu 8 [154] 162 (((((!(decide (A.words=B.words))) || (!(decide (A.bits=B.bits)))) || (!(decide (A.data=B.data)))) || (((A.recs.length:Nat) : Int) != ((B.recs.length:Nat) : Int)))) (fun K K77=>?_) ?_
 refine bl 154 ((((!(decide (A.words=B.words))) || (!(decide (A.bits=B.bits)))) || (!(decide (A.data=B.data))))) (fun q76=>?_) (fun q76=>?_)
 exact Pl 8<|ce K77 true (by rw [q76]; rfl)
 have q76a:=(or_f q76).1
 have q76b:=(or_f q76).2
 have q76aa:=(or_f q76a).1
 have q76ab:=(or_f q76a).2
 have q76aan:(decide (A.words=B.words))=true:=by simpa using q76aa
 have q76aanp:=of_decide_eq_true q76aan
 have q76abn:(decide (A.bits=B.bits))=true:=by simpa using q76ab
 have q76abnp:=of_decide_eq_true q76abn
 have q76bn:(decide (A.data=B.data))=true:=by simpa using q76b
 have q76bnp:=of_decide_eq_true q76bn
 refine Pl 1<|?_
 have r78:=ub hu68 r65
 refine L1<|Olb r78 15<|Pl 2<|?_
 have r79:=ub hu68 r66
 exact L1<|Olb r79 15<|Pl 3<|ce K77 (((A.recs.length:Nat) : Int) != ((B.recs.length:Nat) : Int)) (by rw [q76]; rfl)
 refine Pl 1<|cu 8 [163] 171 ((((((!(decide (A.words=B.words))) || (!(decide (A.bits=B.bits)))) || (!(decide (A.data=B.data)))) || (((A.recs.length:Nat) : Int) != ((B.recs.length:Nat) : Int))) || (((A.objects.length:Nat) : Int) != ((B.objects.length:Nat) : Int)))) (fun K K81=>?_) ?_
 refine bl 163 (((((!(decide (A.words=B.words))) || (!(decide (A.bits=B.bits)))) || (!(decide (A.data=B.data)))) || (((A.recs.length:Nat) : Int) != ((B.recs.length:Nat) : Int)))) (fun q80=>?_) (fun q80=>?_)
 exact Pl 8<|ce K81 true (by rw [q80]; rfl)
 have q80a:=(or_f q80).1
 have q80b:=(or_f q80).2
 have q80aa:=(or_f q80a).1
 have q80ab:=(or_f q80a).2
 have q80aaa:=(or_f q80aa).1
 have q80aab:=(or_f q80aa).2
 have q80aaan:(decide (A.words=B.words))=true:=by simpa using q80aaa
 have q80aaanp:=of_decide_eq_true q80aaan
 have q80aabn:(decide (A.bits=B.bits))=true:=by simpa using q80aab
 have q80aabnp:=of_decide_eq_true q80aabn
 have q80abn:(decide (A.data=B.data))=true:=by simpa using q80ab
 have q80abnp:=of_decide_eq_true q80abn
 have q80bp:=eq_of_bnei q80b
 refine Pl 1<|?_
 have r82:=ub hu68 r65
 refine L1<|Olb r82 21<|Pl 2<|?_
 have r83:=ub hu68 r66
 exact L1<|Olb r83 21<|Pl 3<|ce K81 (((A.objects.length:Nat) : Int) != ((B.objects.length:Nat) : Int)) (by rw [q80]; rfl)
 refine nt<|?_
 have U84:=ut0 U69 hu68
 refine cb ((((((!(decide (A.words=B.words))) || (!(decide (A.bits=B.bits)))) || (!(decide (A.data=B.data)))) || (((A.recs.length:Nat) : Int) != ((B.recs.length:Nat) : Int))) || (((A.objects.length:Nat) : Int) != ((B.objects.length:Nat) : Int)))) (fun q85=>?_) (fun q85=>?_)
 refine sg<|Pl 1<|nt<|rt<|tr<|rr (.bool false)<|?_
 have hs:decide (A=B)=false:=ne_by (f:=fun x y=>(((((!(decide (x.words=y.words))) || (!(decide (x.bits=y.bits)))) || (!(decide (x.data=y.data)))) || (((x.recs.length:Nat) : Int) != ((y.recs.length:Nat) : Int))) || (((x.objects.length:Nat) : Int) != ((y.objects.length:Nat) : Int)))) q85 (fun M=>by simp)
 rw [hs]
 exact ⟨rfl,U84⟩
 have q85a:=(or_f q85).1
 have q85b:=(or_f q85).2
 have q85aa:=(or_f q85a).1
 have q85ab:=(or_f q85a).2
 have q85aaa:=(or_f q85aa).1
 have q85aab:=(or_f q85aa).2
 have q85aaaa:=(or_f q85aaa).1
 have q85aaab:=(or_f q85aaa).2
 have q85aaaan:(decide (A.words=B.words))=true:=by simpa using q85aaaa
 have q85aaaanp:=of_decide_eq_true q85aaaan
 have q85aaabn:(decide (A.bits=B.bits))=true:=by simpa using q85aaab
 have q85aaabnp:=of_decide_eq_true q85aaabn
 have q85aabn:(decide (A.data=B.data))=true:=by simpa using q85aab
 have q85aabnp:=of_decide_eq_true q85aabn
 have q85abp:=eq_of_bnei q85ab
 have q85bp:=eq_of_bnei q85b
 refine skn<|sq<|sg<|Pl 1<|nt<|bk<|?_
 refine glp (fun x=>[(2,.pointer (some ⟨g10,0,none⟩)),(3,.pointer (some ⟨g15,0,none⟩)),(8,.int .i64 ((x:Nat) : Int))]) (fun (x:Nat) w'=>Upd [] w67 w'∧(A.recs.take x=B.recs.take x)∧(x≤A.recs.length)) (fun x=>A.recs.length - x) 0 ⟨Upd.refl _ _,(by (try dsimp only); simp),(by (try dsimp only); omega)⟩ ?_
 rintro j w86 ⟨hu87,p88,p89⟩
 refine wkc [(2,.pointer (some ⟨g10,0,none⟩)),(3,.pointer (some ⟨g15,0,none⟩)),(8,.int .i64 ((j:Nat) : Int))] ?_
 have p91:A.recs.take j=B.recs.take j:=p88
 have p92:j≤A.recs.length:=p89
 refine sq<|sg<|Pl 2<|?_
 have U93:=ut0 hu68 hu87
 have r94:=ub U93 r65
 refine L0<|Olb r94 15<|Pl 2<|nt<|?_
 have U95:=ut0 U84 hu87
 refine cb ((decide (((j:Nat) : Int) < ((A.recs.length:Nat) : Int)))) (fun q96=>?_) (fun q96=>?_)
 have q96p:=of_decide_eq_true q96
 refine skn<|sq<|bk<|sg<|Pl 1<|L0<|Olb r94 15<|Pl 1<|x75 (RdR.elt phr j (by omega)) fun b97 o98 cl99 t100 fr101 A102 cp103 hA104 hb105 hv106 hr107 hs108=>L0<|Oixs 4 A.recs.length j hA104 (by omega)<|?_
 have r109:=ub U95 hb105
 refine L0<|Oel [.int .u16 ((A.recs.getD j ⟨0,0,0,[]⟩).file),.int .u16 ((A.recs.getD j ⟨0,0,0,[]⟩).record),.int .u16 ((A.recs.getD j ⟨0,0,0,[]⟩).count),.slice A102 ((A.recs.getD j ⟨0,0,0,[]⟩).words.length) cp103] r109 hs108<|L0<|Oal #[.int .u16 0,.int .u16 0,.int .u16 0,.slice none 0 0] fun g110 w111 hg112 B113 hu114=>L0<|Osw B113 #[.int .u16 ((A.recs.getD j ⟨0,0,0,[]⟩).file),.int .u16 ((A.recs.getD j ⟨0,0,0,[]⟩).record),.int .u16 ((A.recs.getD j ⟨0,0,0,[]⟩).count),.slice A102 ((A.recs.getD j ⟨0,0,0,[]⟩).words.length) cp103] fun w115 B116 hu117=>ng<|Pl 1<|?_
 have U118:=ut0 U93 hu114
 have U119:=u1 U118 hu117 (ni U93.size hg112)
 have r120:=ub U119 r66
 refine L0<|Olb r120 15<|Pl 1<|x75 (RdR.elt qhr j (by omega)) fun b121 o122 cl123 t124 fr125 A126 cp127 hA128 hb129 hv130 hr131 hs132=>L0<|Oixs 4 B.recs.length j hA128 (by omega)<|?_
 have U133:=ut0 U95 hu114
 have U134:=u1 U133 hu117 (ni U95.size hg112)
 have r135:=ub U134 hb129
 refine L0<|Oel [.int .u16 ((B.recs.getD j ⟨0,0,0,[]⟩).file),.int .u16 ((B.recs.getD j ⟨0,0,0,[]⟩).record),.int .u16 ((B.recs.getD j ⟨0,0,0,[]⟩).count),.slice A126 ((B.recs.getD j ⟨0,0,0,[]⟩).words.length) cp127] r135 hs132<|L0<|Oal #[.int .u16 0,.int .u16 0,.int .u16 0,.slice none 0 0] fun g136 w137 hg138 B139 hu140=>L0<|Osw B139 #[.int .u16 ((B.recs.getD j ⟨0,0,0,[]⟩).file),.int .u16 ((B.recs.getD j ⟨0,0,0,[]⟩).record),.int .u16 ((B.recs.getD j ⟨0,0,0,[]⟩).count),.slice A126 ((B.recs.getD j ⟨0,0,0,[]⟩).words.length) cp127] fun w141 B142 hu143=>ng<|Pl 1<|?_
 have U144:=u1 hu140 hu143 (nr hg138)
 have r145:=ub U144 B116
 refine L0<|Olb r145 3<|Pl 1<|L0<|Olb B142 3<|?_
 have U148:=ut0 U134 hu140
 have U149:=u1 U148 hu143 (ni U134.size hg138)
 have r150:=RdW.old hv106 U149
 have r151:=RdW.old hv130 U149
 refine L0<|Oc<|m1 (refWords_any r150 r151) fun w146 hu147=>Pl 1<|ng<|Pl 3<|cu 6 [196] 202 (((!(decide ((A.recs.getD j ⟨0,0,0,[]⟩).words=(B.recs.getD j ⟨0,0,0,[]⟩).words))) || (((A.recs.getD j ⟨0,0,0,[]⟩).file) != ((B.recs.getD j ⟨0,0,0,[]⟩).file)))) (fun K K153=>?_) ?_
 refine bl 196 ((!(decide ((A.recs.getD j ⟨0,0,0,[]⟩).words=(B.recs.getD j ⟨0,0,0,[]⟩).words)))) (fun q152=>?_) (fun q152=>?_)
 have q152n:(decide ((A.recs.getD j ⟨0,0,0,[]⟩).words=(B.recs.getD j ⟨0,0,0,[]⟩).words))=false:=by simpa using q152
 have q152np:=of_decide_eq_false q152n
 exact Pl 6<|ce K153 true (by rw [q152]; rfl)
 have q152n:(decide ((A.recs.getD j ⟨0,0,0,[]⟩).words=(B.recs.getD j ⟨0,0,0,[]⟩).words))=true:=by simpa using q152
 have q152np:=of_decide_eq_true q152n
 refine Pl 1<|?_
 have r154:=ub hu147 r145
 refine L1<|Olb r154 0<|Pl 1<|?_
 have r155:=ub hu147 B142
 exact L1<|Olb r155 0<|Pl 2<|ce K153 (((A.recs.getD j ⟨0,0,0,[]⟩).file) != ((B.recs.getD j ⟨0,0,0,[]⟩).file)) (by rw [q152]; rfl)
 refine Pl 1<|cu 6 [203] 209 ((((!(decide ((A.recs.getD j ⟨0,0,0,[]⟩).words=(B.recs.getD j ⟨0,0,0,[]⟩).words))) || (((A.recs.getD j ⟨0,0,0,[]⟩).file) != ((B.recs.getD j ⟨0,0,0,[]⟩).file))) || (((A.recs.getD j ⟨0,0,0,[]⟩).record) != ((B.recs.getD j ⟨0,0,0,[]⟩).record)))) (fun K K157=>?_) ?_
 refine bl 203 (((!(decide ((A.recs.getD j ⟨0,0,0,[]⟩).words=(B.recs.getD j ⟨0,0,0,[]⟩).words))) || (((A.recs.getD j ⟨0,0,0,[]⟩).file) != ((B.recs.getD j ⟨0,0,0,[]⟩).file)))) (fun q156=>?_) (fun q156=>?_)
 exact Pl 6<|ce K157 true (by rw [q156]; rfl)
 have q156a:=(or_f q156).1
 have q156b:=(or_f q156).2
 have q156an:(decide ((A.recs.getD j ⟨0,0,0,[]⟩).words=(B.recs.getD j ⟨0,0,0,[]⟩).words))=true:=by simpa using q156a
 have q156anp:=of_decide_eq_true q156an
 have q156bp:=eq_of_bnei q156b
 refine Pl 1<|?_
 have r158:=ub hu147 r145
 refine L1<|Olb r158 1<|Pl 1<|?_
 have r159:=ub hu147 B142
 exact L1<|Olb r159 1<|Pl 2<|ce K157 (((A.recs.getD j ⟨0,0,0,[]⟩).record) != ((B.recs.getD j ⟨0,0,0,[]⟩).record)) (by rw [q156]; rfl)
 refine Pl 1<|cu 6 [210] 216 (((((!(decide ((A.recs.getD j ⟨0,0,0,[]⟩).words=(B.recs.getD j ⟨0,0,0,[]⟩).words))) || (((A.recs.getD j ⟨0,0,0,[]⟩).file) != ((B.recs.getD j ⟨0,0,0,[]⟩).file))) || (((A.recs.getD j ⟨0,0,0,[]⟩).record) != ((B.recs.getD j ⟨0,0,0,[]⟩).record))) || (((A.recs.getD j ⟨0,0,0,[]⟩).count) != ((B.recs.getD j ⟨0,0,0,[]⟩).count)))) (fun K K161=>?_) ?_
 refine bl 210 ((((!(decide ((A.recs.getD j ⟨0,0,0,[]⟩).words=(B.recs.getD j ⟨0,0,0,[]⟩).words))) || (((A.recs.getD j ⟨0,0,0,[]⟩).file) != ((B.recs.getD j ⟨0,0,0,[]⟩).file))) || (((A.recs.getD j ⟨0,0,0,[]⟩).record) != ((B.recs.getD j ⟨0,0,0,[]⟩).record)))) (fun q160=>?_) (fun q160=>?_)
 exact Pl 6<|ce K161 true (by rw [q160]; rfl)
 have q160a:=(or_f q160).1
 have q160b:=(or_f q160).2
 have q160aa:=(or_f q160a).1
 have q160ab:=(or_f q160a).2
 have q160aan:(decide ((A.recs.getD j ⟨0,0,0,[]⟩).words=(B.recs.getD j ⟨0,0,0,[]⟩).words))=true:=by simpa using q160aa
 have q160aanp:=of_decide_eq_true q160aan
 have q160abp:=eq_of_bnei q160ab
 have q160bp:=eq_of_bnei q160b
 refine Pl 1<|?_
 have r162:=ub hu147 r145
 refine L1<|Olb r162 2<|Pl 1<|?_
 have r163:=ub hu147 B142
 exact L1<|Olb r163 2<|Pl 2<|ce K161 (((A.recs.getD j ⟨0,0,0,[]⟩).count) != ((B.recs.getD j ⟨0,0,0,[]⟩).count)) (by rw [q160]; rfl)
 refine nt<|?_
 have U164:=ut0 U149 hu147
 refine cb (((((!(decide ((A.recs.getD j ⟨0,0,0,[]⟩).words=(B.recs.getD j ⟨0,0,0,[]⟩).words))) || (((A.recs.getD j ⟨0,0,0,[]⟩).file) != ((B.recs.getD j ⟨0,0,0,[]⟩).file))) || (((A.recs.getD j ⟨0,0,0,[]⟩).record) != ((B.recs.getD j ⟨0,0,0,[]⟩).record))) || (((A.recs.getD j ⟨0,0,0,[]⟩).count) != ((B.recs.getD j ⟨0,0,0,[]⟩).count)))) (fun q165=>?_) (fun q165=>?_)
 refine sg<|Pl 1<|nt<|rt<|br<|tr<|tr<|br<|tr<|rr (.bool false)<|?_
 have hs:decide (A=B)=false:=ne_by (f:=fun x y=>((((!(decide ((x.recs.getD j ⟨0,0,0,[]⟩).words=(y.recs.getD j ⟨0,0,0,[]⟩).words))) || (((x.recs.getD j ⟨0,0,0,[]⟩).file) != ((y.recs.getD j ⟨0,0,0,[]⟩).file))) || (((x.recs.getD j ⟨0,0,0,[]⟩).record) != ((y.recs.getD j ⟨0,0,0,[]⟩).record))) || (((x.recs.getD j ⟨0,0,0,[]⟩).count) != ((y.recs.getD j ⟨0,0,0,[]⟩).count)))) q165 (fun M=>by simp)
 rw [hs]
 exact ⟨rfl,U164⟩
 have q165a:=(or_f q165).1
 have q165b:=(or_f q165).2
 have q165aa:=(or_f q165a).1
 have q165ab:=(or_f q165a).2
 have q165aaa:=(or_f q165aa).1
 have q165aab:=(or_f q165aa).2
 have q165aaan:(decide ((A.recs.getD j ⟨0,0,0,[]⟩).words=(B.recs.getD j ⟨0,0,0,[]⟩).words))=true:=by simpa using q165aaa
 have q165aaanp:=of_decide_eq_true q165aaan
 have q165aabp:=eq_of_bnei q165aab
 have q165abp:=eq_of_bnei q165ab
 have q165bp:=eq_of_bnei q165b
 refine sk<|bn<|tn<|go<|Pl 1<|L0<|Oi (((j:Nat) : Int) + 1)<|Pl 1<|nl<|?_
 have U166:=ut0 hu87 hu114
 have U167:=u1 U166 hu117 (ni hu87.size hg112)
 have U168:=ut0 U167 hu140
 have U169:=u1 U168 hu143 (ni U167.size hg138)
 have U170:=ut0 U169 hu147
 exact lpe (j + 1) ⟨U170,(take_eq (d:=⟨0,0,0,[]⟩) p91 (by omega) (by omega) (rec_eq q165)),(by (try dsimp only); omega)⟩ (by omega)
 have q96p:=of_decide_eq_false q96
 refine xt<|tx<|tx<|bx<|tn<|sq<|sg<|Pl 1<|nt<|bk<|?_
 refine glp (fun x=>[(2,.pointer (some ⟨g10,0,none⟩)),(3,.pointer (some ⟨g15,0,none⟩)),(12,.int .i64 ((x:Nat) : Int))]) (fun (x:Nat) w'=>Upd [] w86 w'∧(A.objects.take x=B.objects.take x)∧(x≤A.objects.length)) (fun x=>A.objects.length - x) 0 ⟨Upd.refl _ _,(by (try dsimp only); simp),(by (try dsimp only); omega)⟩ ?_
 rintro k w171 ⟨hu172,p173,p174⟩
 refine wkc [(2,.pointer (some ⟨g10,0,none⟩)),(3,.pointer (some ⟨g15,0,none⟩)),(12,.int .i64 ((k:Nat) : Int))] ?_
 have p176:A.objects.take k=B.objects.take k:=p173
 have p177:k≤A.objects.length:=p174
 refine sq<|sg<|Pl 2<|?_
 have r178:=ub hu172 r94
 refine L0<|Olb r178 21<|Pl 2<|nt<|?_
 have U179:=ut0 U95 hu172
 refine cb ((decide (((k:Nat) : Int) < ((A.objects.length:Nat) : Int)))) (fun q180=>?_) (fun q180=>?_)
 have q180p:=of_decide_eq_true q180
 refine skn<|sq<|bk<|sq<|x75 (RdO.elt pho k (by omega)) fun b209 o210 cl211 t212 fr213 A214 cp215 hA216 hb217 hv218 hr219 hs220=>x75 (RdO.elt qho k (by omega)) fun b221 o222 cl223 t224 fr225 A226 cp227 hA228 hb229 hv230 hr231 hs232=>Rg 14 (fun w'=>w'.cell? ⟨g10,21,none⟩=some (.slice po A.objects.length pko)∧w'.cell? ⟨b209,o210 + k * 2 + 1,none⟩=some (.slice A214 ((A.objects.getD k ⟨0,[]⟩).value.length) cp215)∧w'.cell? ⟨g15,21,none⟩=some (.slice qo B.objects.length qko)∧w'.cell? ⟨b221,o222 + k * 2 + 1,none⟩=some (.slice A226 ((B.objects.getD k ⟨0,[]⟩).value.length) cp227)) fun w237 hu238=>?_
 have r240:=ub hu238 r178
 have U241:=ut0 U179 hu238
 have r242:=ub U241 hb217
 have U243:=ut0 U93 hu172
 have U244:=ut0 U243 hu238
 have r245:=ub U244 r66
 have r246:=ub U241 hb229
 refine hld ⟨(blk_at r240 rfl),(el_at r242 hs220 1 rfl (by decide)),(blk_at r245 rfl),(el_at r246 hs232 1 rfl (by decide))⟩ fun hS239=>Rt 0 hS239<|Rl 1 hS239 (fun _ hs=>hs.1)<|Rt 2 hS239<|Ri 3 hS239 2 A.objects.length k ((k:Nat) : Int) rfl hA216 (by omega)<|Rt 4 hS239<|Rl 5 hS239 (fun _ hs=>hs.2.1)<|Rt 6 hS239<|Rl 7 hS239 (fun _ hs=>hs.2.2.1)<|Rt 8 hS239<|Ri 9 hS239 2 B.objects.length k ((k:Nat) : Int) rfl hA228 (by omega)<|Rt 10 hS239<|Rl 11 hS239 (fun _ hs=>hs.2.2.2)<|?_
 have r249:=RdB.old hv218 U241
 have r250:=RdB.old hv230 U241
 refine R0 12 rfl<|Oc<|m1 (same1_any r249 r250) fun w247 hu248=>?_
 have r252:=ub hu248 r240
 have r253:=ub hu248 r242
 have r254:=ub hu248 r245
 have r255:=ub hu248 r246
 refine hld ⟨(blk_at r252 rfl),(el_at r253 hs220 1 rfl (by decide)),(blk_at r254 rfl),(el_at r255 hs232 1 rfl (by decide))⟩ fun hS251=>Rt 13 hS251<|re<|tn<|sq<|Rg 17 (fun w'=>w'.cell? ⟨g10,21,none⟩=some (.slice po A.objects.length pko)∧w'.cell? ⟨b209,o210 + k * 2 + 0,none⟩=some (.int .u8 ((A.objects.getD k ⟨0,[]⟩).id))∧w'.cell? ⟨g15,21,none⟩=some (.slice qo B.objects.length qko)∧w'.cell? ⟨b221,o222 + k * 2 + 0,none⟩=some (.int .u8 ((B.objects.getD k ⟨0,[]⟩).id))) fun w260 hu261=>?_
 have r263:=ub hu261 r252
 have r264:=ub hu261 r253
 have r265:=ub hu261 r254
 have r266:=ub hu261 r255
 refine hld ⟨(blk_at r263 rfl),(el_at r264 hs220 0 rfl (by decide)),(blk_at r265 rfl),(el_at r266 hs232 0 rfl (by decide))⟩ fun hS262=>Rt 0 hS262<|Rt 1 hS262<|Rt 2 hS262<|?_
 have U267:=ut0 U241 hu248
 have U268:=ut0 U267 hu261
 refine bla 239 ((!(decide ((A.objects.getD k ⟨0,[]⟩).value=(B.objects.getD k ⟨0,[]⟩).value)))) (fun q269=>?_) (fun q269=>?_)
 have q269n:(decide ((A.objects.getD k ⟨0,[]⟩).value=(B.objects.getD k ⟨0,[]⟩).value))=false:=by simpa using q269
 have q269np:=of_decide_eq_false q269n
 refine Ro 3 hS262<|Ro 4 hS262<|Ro 5 hS262<|Ro 6 hS262<|Ro 7 hS262<|Ro 8 hS262<|Ro 9 hS262<|Ro 10 hS262<|Ro 11 hS262<|Ro 12 hS262<|Ro 13 hS262<|Ro 14 hS262<|Ro 15 hS262<|Rt 16 hS262<|?_
 refine re<|tn<|c1<|sg<|Pl 1<|nt<|rt<|br<|tr<|tr<|br<|tr<|?_
 refine rr (.bool false)<|?_
 have hs:decide (A=B)=false:=ne_by (f:=fun x y=>(!(decide ((x.objects.getD k ⟨0,[]⟩).value=(y.objects.getD k ⟨0,[]⟩).value)))) q269 (fun M=>by simp)
 rw [hs]
 exact ⟨rfl,U268⟩
 have q269n:(decide ((A.objects.getD k ⟨0,[]⟩).value=(B.objects.getD k ⟨0,[]⟩).value))=true:=by simpa using q269
 have q269np:=of_decide_eq_true q269n
 refine Rt 3 hS262<|Rl 4 hS262 (fun _ hs=>hs.1)<|Rt 5 hS262<|Ri 6 hS262 2 A.objects.length k ((k:Nat) : Int) rfl hA216 (by omega)<|Rt 7 hS262<|Rl 8 hS262 (fun _ hs=>hs.2.1)<|Rt 9 hS262<|Rl 10 hS262 (fun _ hs=>hs.2.2.1)<|Rt 11 hS262<|Ri 12 hS262 2 B.objects.length k ((k:Nat) : Int) rfl hA228 (by omega)<|Rt 13 hS262<|Rl 14 hS262 (fun _ hs=>hs.2.2.2)<|Rt 15 hS262<|Rt 16 hS262<|?_
 refine re<|tn<|cb ((((A.objects.getD k ⟨0,[]⟩).id) != ((B.objects.getD k ⟨0,[]⟩).id))) (fun q270=>?_) (fun q270=>?_)
 have q270p:=ne_of_bnei q270
 refine sg<|Pl 1<|nt<|rt<|br<|tr<|tr<|br<|tr<|rr (.bool false)<|?_
 have hs:decide (A=B)=false:=ne_by (f:=fun x y=>(((x.objects.getD k ⟨0,[]⟩).id) != ((y.objects.getD k ⟨0,[]⟩).id))) q270 (fun M=>by simp)
 rw [hs]
 exact ⟨rfl,U268⟩
 have q270p:=eq_of_bnei q270
 refine sk<|bn<|tn<|go<|Pl 1<|L0<|Oi (((k:Nat) : Int) + 1)<|Pl 1<|nl<|?_
 have U271:=ut0 hu172 hu238
 have U272:=ut0 U271 hu248
 have U273:=ut0 U272 hu261
 exact lpe (k + 1) ⟨U273,(take_eq (d:=⟨0,[]⟩) p176 (by omega) (by omega) (obj_eq2 q269 q270)),(by (try dsimp only); omega)⟩ (by omega)
 have q180p:=of_decide_eq_false q180
 refine xt<|tx<|tx<|bx<|tn<|sg<|Pl 1<|nt<|rt<|rr (.bool true)<|?_
 have hs:decide (A=B)=true:=decide_eq_true (same7_t q44 q53 q85 (fun e=>eq_of_take p91 (by omega) e) (fun e=>eq_of_take p176 (by omega) e))
 rw [hs]
 exact ⟨rfl,U179⟩
end Go.Proofs.YtgjlbabefogepaaGreat
namespace Go.Proofs.YtgjlbabefogepaaGreat
def Byt (C:Cur) : Prop:=∀ x,x∈C.l→0≤x∧x < 256
theorem nd_ok {C:Cur} {ok:Bool} {x:Int} (hx:x ≠ 0) (h:(C.need ok x).e=0) : C.e=0∧ok=true:=by
  unfold Cur.need at h
  split at h
  · exact absurd h hx
  · rename_i hh
    refine ⟨h,?_⟩
    cases ok
    · exact absurd ⟨h,rfl⟩ hh
    · rfl
theorem by_ok {C:Cur} {n:Int} (h:(C.bytesC n).e=0) : C.e=0∧C.l=C.bytesR n++(C.bytesC n).l∧((C.bytesR n).length:Int)=n:=by
  unfold Cur.bytesC at h ⊢
  unfold Cur.bytesR
  split at h
  · exfalso
    unfold Cur.need at h
    split at h
    · cases h
    · rename_i hh
      exact hh ⟨h,rfl⟩
  · rename_i hf
    rw [if_neg hf,if_neg hf]
    refine ⟨h,(List.take_append_drop _ _).symm,?_⟩
    unfold Cur.fails at hf
    simp only [Bool.or_eq_true,decide_eq_true_eq,not_or] at hf
    rw [List.length_take]
    omega
theorem putW_takeW:∀ (l:List Int),l.length % 2=0→(∀ x,x∈l→0≤x∧x < 256)→putW (takeW l)=l
  | [],_,_=>rfl
  | [_],h,_=>by simp at h
  | a :: b :: r,h,hr=>by
    have ha:=hr a (by simp)
    have hb:=hr b (by simp)
    simp only [takeW,putW]
    rw [putW_takeW r (by simp at h; omega) (fun x hx=>hr x (by simp [hx]))]
    congr 1
    · omega
    · congr 1
      omega
theorem wo_ok {C:Cur} {n:Int} (hr:Byt C) (h:(C.wordsC n).e=0) : C.e=0∧C.l=putW (C.wordsR n)++(C.wordsC n).l∧((C.wordsR n).length:Int)=n:=by
  unfold Cur.wordsC at h ⊢
  unfold Cur.wordsR
  split at h
  · obtain ⟨_,_,h3⟩:=by_ok h
    omega
  · rename_i hb
    rw [if_neg hb,if_neg hb]
    obtain ⟨h1,h2,h3⟩:=by_ok h
    have h4:(C.bytesR (2 * n)).length % 2=0:=by omega
    have h5:∀ x,x∈C.bytesR (2 * n)→0≤x∧x < 256:=fun x hx=>hr x (by rw [h2]; exact List.mem_append_left _ hx)
    unfold wordTake
    rw [if_pos h4]
    refine ⟨h1,by rw [putW_takeW _ h4 h5]; exact h2,?_⟩
    rw [takeW_length]
    omega
def Eat (C:Cur) (l:List Int) (C':Cur) : Prop:=Byt C→Byt C'∧(C'.e=0→C.e=0∧C.l=l++C'.l)
theorem Eat.trans {A B C:Cur} {l m:List Int} (h:Eat A l B) (k:Eat B m C) : Eat A (l++m) C:=fun hr=>by
  obtain ⟨h1,h2⟩:=h hr
  obtain ⟨k1,k2⟩:=k h1
  refine ⟨k1,fun he=>?_⟩
  obtain ⟨k3,k4⟩:=k2 he
  obtain ⟨h3,h4⟩:=h2 k3
  exact ⟨h3,by rw [h4,k4,List.append_assoc]⟩
theorem Eat.refl (C:Cur) : Eat C [] C:=fun hr=>⟨hr,fun he=>⟨he,rfl⟩⟩
theorem Eat.need {A C:Cur} {l:List Int} {ok:Bool} {x:Int} (h:Eat A l C) (hx:x ≠ 0:=by decide) : Eat A l (C.need ok x):=fun hr=>by
  obtain ⟨h1,h2⟩:=h hr
  refine ⟨fun y hy=>h1 y (by rwa [need_l] at hy),fun he=>?_⟩
  rw [need_l]
  exact h2 (nd_ok hx he).1
theorem Eat.bytes {A C:Cur} {l:List Int} (h:Eat A l C) (n:Int) : Eat A (l++C.bytesR n) (C.bytesC n):=h.trans fun hr=>⟨bytesC_rng hr n,fun he=>⟨(by_ok he).1,(by_ok he).2.1⟩⟩
theorem Eat.words {A C:Cur} {l:List Int} (h:Eat A l C) (n:Int) : Eat A (l++putW (C.wordsR n)) (C.wordsC n):=h.trans fun hr=>⟨wordsC_rng hr n,fun he=>⟨(wo_ok hr he).1,(wo_ok hr he).2.1⟩⟩
theorem one_of {l:List Int} (h:(l.length:Int)=1) : l=[l.getD 0 0]:=by
  match l,h with
  | [a],_=>rfl
  | [],h=>simp at h
  | _ :: _ :: _,h=>simp at h; omega
theorem Eat.byte {A C:Cur} {l:List Int} (h:Eat A l C) : Eat A (l++[C.byteV]) (C.bytesC 1):=h.trans fun hr=>⟨bytesC_rng hr 1,fun he=>by
  obtain ⟨h1,h2,h3⟩:=by_ok he
  refine ⟨h1,?_⟩
  have:=one_of h3
  show C.l=[(C.bytesR 1).getD 0 0]++_
  rw [← this]
  exact h2⟩
theorem Eat.word {A C:Cur} {l:List Int} (h:Eat A l C) : Eat A (l++putW [C.wordV]) (C.wordsC 1):=h.trans fun hr=>⟨wordsC_rng hr 1,fun he=>by
  obtain ⟨h1,h2,h3⟩:=wo_ok hr he
  refine ⟨h1,?_⟩
  have:=one_of h3
  show C.l=putW [(C.wordsR 1).getD 0 0]++_
  rw [← this]
  exact h2⟩
theorem Eat.fin {A C:Cur} {l:List Int} (h:Eat A l C) (hr:Byt A) (he:C.endC.e=0) : C.e=0∧A.l=l:=by
  unfold Cur.endC at he
  obtain ⟨h1,h2⟩:=nd_ok (by decide) he
  obtain ⟨_,h3⟩:=(h hr).2 h1
  have:C.l=[]:=by
    simp only [beq_iff_eq] at h2
    exact List.eq_nil_of_length_eq_zero (by omega)
  exact ⟨h1,by rw [h3,this,List.append_nil]⟩
theorem byteV_rng' {C:Cur} (hr:Byt C) : 0≤C.byteV∧C.byteV < 256:=by
  unfold Cur.byteV
  rw [List.getD_eq_getElem?_getD]
  cases h:(C.bytesR 1)[0]? with
  | none=>simp
  | some x =>
    have hm:x∈C.bytesR 1:=List.mem_of_getElem? h
    have:x∈C.l:=by
      unfold Cur.bytesR at hm
      split at hm
      · cases hm
      · exact List.mem_of_mem_take hm
    exact hr x this
theorem eat_span (C:Cur) (most:Int) : Eat C (putW [C.wordV,(C.wordsC 1).wordV]) (spanC C most):=by
  have:=(((Eat.refl C).word).word)
  exact (this.need).need
theorem bits256:∀ n:Nat,n < 256→(((if ((n:Int) / 2 ^ 0 % 2 == 1) then 1 else 0) + (if ((n:Int) / 2 ^ 1 % 2 == 1) then 2 else 0) + (if ((n:Int) / 2 ^ 2 % 2 == 1) then 4 else 0) + (if ((n:Int) / 2 ^ 3 % 2 == 1) then 8 else 0) + (if ((n:Int) / 2 ^ 4 % 2 == 1) then 16 else 0) + (if ((n:Int) / 2 ^ 5 % 2 == 1) then 32 else 0) + (if ((n:Int) / 2 ^ 6 % 2 == 1) then 64 else 0) + (if ((n:Int) / 2 ^ 7 % 2 == 1) then 128 else 0) : Nat) : Int)=n:=by decide +kernel
theorem byteOf_unpack {x:Int} (hx:0≤x∧x < 256) (f:Nat→Bool) (hf:∀ i,i < 8→f i=(x / 2 ^ i % 2 == 1)) :
    (((if f 0 then 1 else 0) + (if f 1 then 2 else 0) + (if f 2 then 4 else 0) + (if f 3 then 8 else 0) + (if f 4 then 16 else 0) + (if f 5 then 32 else 0) + (if f 6 then 64 else 0) + (if f 7 then 128 else 0) : Nat) : Int)=x:=by
  rw [hf 0 (by decide),hf 1 (by decide),hf 2 (by decide),hf 3 (by decide),hf 4 (by decide),hf 5 (by decide),hf 6 (by decide),hf 7 (by decide)]
  obtain ⟨n,rfl⟩:=Int.eq_ofNat_of_zero_le hx.1
  exact bits256 n (by omega)
theorem pack_unpack {b:List Int} {n:Int} {l:List Bool} (hr:∀ x,x∈b→0≤x∧x < 256) (h:unpackB b n=some l) : packB l=b:=by
  unfold unpackB at h
  split at h
  · rename_i hc
    split at h
    · rename_i hall
      injection h with h
      subst h
      have hlen:((List.range n.toNat).map (bitAt b)).length=n.toNat:=by simp
      have hm:((List.range n.toNat).map (bitAt b)).length=n:=by rw [hlen]; omega
      unfold packB
      rw [hm,← hc.2]
      apply List.ext_getElem
      · simp
      intro j h1 h2
      simp only [List.getElem_map,List.getElem_range]
      have hj:j < b.length:=h2
      have hget:∀ i,i < 8 * b.length→((List.range n.toNat).map (bitAt b)).getD i false=bitAt b i:=fun i hi=>by
        rw [List.getD_eq_getElem?_getD,List.getElem?_map]
        by_cases hin:i < n.toNat
        · rw [List.getElem?_range hin]; rfl
        · rw [List.getElem?_eq_none (by simpa using hin)]
          rw [List.all_eq_true] at hall
          have:=hall i (by simpa using hi)
          simp only [Bool.or_eq_true,decide_eq_true_eq,Bool.not_eq_true'] at this
          rcases this with h3 | h3
          · omega
          · simp [h3]
      have hx:∀ k,k < 8→bitAt b (8 * j + k)=(b[j] / 2 ^ k % 2 == 1):=fun k hk=>by
        unfold bitAt
        rw [show (8 * j + k) / 8=j from by omega,show (8 * j + k) % 8=k from by omega,List.getD_eq_getElem?_getD,List.getElem?_eq_getElem hj]
        rfl
      unfold byteOf
      rw [show (8 * j:Nat)=8 * j + 0 from rfl]
      simp only [hget _ (show 8 * j + 0 < 8 * b.length by omega),hget _ (show 8 * j + 0 + 1 < 8 * b.length by omega),hget _ (show 8 * j + 0 + 2 < 8 * b.length by omega),hget _ (show 8 * j + 0 + 3 < 8 * b.length by omega),hget _ (show 8 * j + 0 + 4 < 8 * b.length by omega),hget _ (show 8 * j + 0 + 5 < 8 * b.length by omega),hget _ (show 8 * j + 0 + 6 < 8 * b.length by omega),hget _ (show 8 * j + 0 + 7 < 8 * b.length by omega)]
      exact byteOf_unpack (hr _ (List.getElem_mem hj)) (fun k=>bitAt b (8 * j + k)) hx
    · cases h
  · cases h
end Go.Proofs.YtgjlbabefogepaaGreat
namespace Go.Proofs.YtgjlbabefogepaaGreat
theorem some_pair {α β:Type} {p:α × β} {a:α} {b:β} (h:some p=some (a,b)) : p.1=a∧p.2=b:=by
  injection h with h
  rw [h]
  exact ⟨rfl,rfl⟩
theorem asks_lb {C:Cur} {most c:Int} (hr:Byt C) (he:(asksR most c C).1.endC.e=0) : putW [C.wordV,(C.wordsC 1).wordV]=C.l:=((eat_span C most).fin hr he).2.symm
theorem ctold_lb {C:Cur} {c:Int} (hr:Byt C) (he:(ctoldR c C).1.endC.e=0) : [(((toldC2 C).bytesR C.byteV).length:Int) % 256]++(toldC2 C).bytesR C.byteV=C.l:=by
  have hbv:=byteV_rng' hr
  have hE:Eat C ([]++[C.byteV]++(toldC2 C).bytesR C.byteV) ((toldC2 C).bytesC C.byteV):=(((Eat.refl C).byte).need).bytes _
  obtain ⟨h1,h2⟩:=hE.fin hr he
  obtain ⟨_,_,h3⟩:=by_ok h1
  rw [h2,h3,Int.emod_eq_of_lt hbv.1 hbv.2]
  rfl
theorem csets_lb {C:Cur} {c:Int} (hr:Byt C) (he:(csetsR c C).1.endC.e=0) : putW [C.wordV,(C.wordsC 1).wordV]=C.l:=by
  have hE:Eat C ([]++putW [C.wordV]++putW [(C.wordsC 1).wordV]) (setsC C):=(((Eat.refl C).word).word).need
  rw [(hE.fin hr he).2]
  rfl
theorem csm_lb {C:Cur} {c:Int} (hr:Byt C) (he:(csmR c C).1.endC.e=0) : (putW [C.wordV,(C.wordsC 1).wordV]++[((packB ((smU C).getD [])).length:Int) % 256])++packB ((smU C).getD [])=C.l:=by
  have hE:Eat C (putW [C.wordV,(C.wordsC 1).wordV]++[(spanC C 1968).byteV]++(smC2 C).bytesR (smK C)) (smC C):=(((((eat_span C 1968).byte).need).bytes _).need)
  obtain ⟨h1,h2⟩:=hE.fin hr he
  obtain ⟨h3,h4⟩:=nd_ok (by decide) h1
  obtain ⟨_,_,h5⟩:=by_ok h3
  obtain ⟨l,hl⟩:=Option.isSome_iff_exists.1 h4
  have hB:∀ x,x∈(smC2 C).bytesR (smK C)→0≤x∧x < 256:=fun x hx=>hr x (by rw [h2]; exact List.mem_append_right _ hx)
  have h6:packB l=(smC2 C).bytesR (smK C):=pack_unpack hB hl
  have hk:0≤smK C∧smK C < 256:=byteV_rng' ((eat_span C 1968) hr).1
  rw [hl]
  show (putW [C.wordV,(C.wordsC 1).wordV]++[((packB l).length:Int) % 256])++packB l=C.l
  rw [h6,h2,h5,Int.emod_eq_of_lt hk.1 hk.2]
  rfl
theorem coils_lb {dir c:Int} {C C':Cur} {M:Msg} (hd:dir=0∨dir=1) (hr:Byt C) (h:coilsForm dir c C=some (C',M)) (he:C'.endC.e=0) : coilsLay dir M=C.l:=by
  unfold coilsForm at h
  split at h
  · rename_i hc
    simp only [Bool.or_eq_true,beq_iff_eq] at hc
    rcases hd with rfl | rfl
    · have h:some (asksR 2000 c C)=some (C',M):=h
      obtain ⟨rfl,rfl⟩:=some_pair h
      rcases hc with rfl | rfl <;> exact asks_lb hr he
    · have h:some (ctoldR c C)=some (C',M):=h
      obtain ⟨rfl,rfl⟩:=some_pair h
      rcases hc with rfl | rfl <;> exact ctold_lb hr he
  split at h
  · rename_i hc
    obtain rfl:c=5:=by simpa using hc
    obtain ⟨rfl,rfl⟩:=some_pair h
    exact csets_lb hr he
  split at h
  · rename_i hc
    obtain rfl:c=15:=by simpa using hc
    rcases hd with rfl | rfl
    · have h:some (csmR 15 C)=some (C',M):=h
      obtain ⟨rfl,rfl⟩:=some_pair h
      exact csm_lb hr he
    · have h:some (asksR 1968 15 C)=some (C',M):=h
      obtain ⟨rfl,rfl⟩:=some_pair h
      exact asks_lb hr he
  · cases h
theorem eat_rspan {A C:Cur} {l:List Int} (h:Eat A l C) (a most:Int) : Eat A (l++putW [C.wordV]) (rspanC C a most):=((h.word).need).need
theorem even2 {n hi:Int} (h:evenIn n hi=true) : n % 2=0∧2≤n∧n≤hi:=by
  unfold evenIn at h
  simp only [Bool.and_eq_true,decide_eq_true_eq,beq_iff_eq] at h
  exact ⟨h.1.1,h.1.2,h.2⟩
theorem rtold_lb {c:Int} {C:Cur} (hr:Byt C) (he:(rtoldR c C).1.endC.e=0) : [(2 * (((told3 C).wordsR (C.byteV / 2)).length:Int)) % 256]++putW ((told3 C).wordsR (C.byteV / 2))=C.l:=by
  have hbv:=byteV_rng' hr
  have hE0:Eat C ([]++[C.byteV]) (told3 C):=((Eat.refl C).byte).need
  have hE:=hE0.words (C.byteV / 2)
  obtain ⟨h1,h2⟩:=hE.fin hr he
  obtain ⟨h3,_,h5⟩:=wo_ok (hE0 hr).1 h1
  obtain ⟨h6,h7,h8⟩:=even2 (nd_ok (by decide) h3).2
  rw [h2,h5,show (2 * (C.byteV / 2)) % 256=C.byteV from by omega]
  rfl
theorem rasks_lb {most c:Int} {C:Cur} (hr:Byt C) (he:(rasksR most c C).1.endC.e=0) : putW [C.wordV,(C.wordsC 1).wordV]=C.l:=by
  rw [((eat_rspan (Eat.refl C).word C.wordV most).fin hr he).2]
  rfl
theorem rone_lb {c:Int} {C:Cur} (hr:Byt C) (he:(roneR c C).1.endC.e=0) : putW [C.wordV,(C.wordsC 1).wordV]=C.l:=by
  rw [(((Eat.refl C).word).word.fin hr he).2]
  rfl
theorem eat_counted {A C:Cur} {l:List Int} (h:Eat A l C) (n:Int) : Eat A (l++[C.byteV]) (countedC1 C n):=(h.byte).need
theorem rmany_lb {c:Int} {C:Cur} (hr:Byt C) (he:(rmanyR c C).1.endC.e=0) : (putW [C.wordV,(C.wordsC 1).wordV]++[(2 * (((rmanyC C).wordsR (C.wordsC 1).wordV).length:Int)) % 256])++putW ((rmanyC C).wordsR (C.wordsC 1).wordV)=C.l:=by
  have hE0:Eat C _ (rspanC (C.wordsC 1) C.wordV 123):=eat_rspan (Eat.refl C).word C.wordV 123
  have hE1:Eat C _ (rmanyC C):=eat_counted hE0 (C.wordsC 1).wordV
  have hbv:=byteV_rng' (hE0 hr).1
  obtain ⟨h1,h2⟩:=(hE1.words (C.wordsC 1).wordV).fin hr he
  obtain ⟨h3,_,h5⟩:=wo_ok (hE1 hr).1 h1
  have h6:=(nd_ok (by decide) h3).2
  simp only [beq_iff_eq] at h6
  rw [h5,← h6,Int.emod_eq_of_lt hbv.1 hbv.2,h2]
  rfl
theorem rmask_lb {c:Int} {C:Cur} (hr:Byt C) (he:(rmaskR c C).1.endC.e=0) : putW [C.wordV,(C.wordsC 1).wordV,((C.wordsC 1).wordsC 1).wordV]=C.l:=by
  rw [(((Eat.refl C).word).word.word.fin hr he).2]
  rfl
theorem rboth_lb {c:Int} {C:Cur} (hr:Byt C) (he:(rbothR c C).1.endC.e=0) : (putW [C.wordV,(C.wordsC 1).wordV,(rspanC (C.wordsC 1) C.wordV 125).wordV,(((rbothC C).wordsR (both1 C).wordV).length:Int) % 65536]++[(2 * (((rbothC C).wordsR (both1 C).wordV).length:Int)) % 256])++putW ((rbothC C).wordsR (both1 C).wordV)=C.l:=by
  have hE0:Eat C _ (both1 C):=(eat_rspan (Eat.refl C).word C.wordV 125).word
  have hE1:Eat C _ (both2 C):=eat_rspan hE0 (rspanC (C.wordsC 1) C.wordV 125).wordV 121
  have hE2:Eat C _ (rbothC C):=eat_counted hE1 (both1 C).wordV
  have hbv:=byteV_rng' (hE1 hr).1
  have hwv:0≤(both1 C).wordV∧(both1 C).wordV < 65536:=wordV_rng (hE0 hr).1
  obtain ⟨h1,h2⟩:=(hE2.words (both1 C).wordV).fin hr he
  obtain ⟨h3,_,h5⟩:=wo_ok (hE2 hr).1 h1
  have h6:=(nd_ok (by decide) h3).2
  simp only [beq_iff_eq] at h6
  rw [h5,Int.emod_eq_of_lt hwv.1 hwv.2,← h6,Int.emod_eq_of_lt hbv.1 hbv.2,h2]
  rfl
theorem raskq_lb {c:Int} {C:Cur} (hr:Byt C) (he:(raskqR c C).1.endC.e=0) : putW [C.wordV]=C.l:=by
  rw [((Eat.refl C).word.fin hr he).2]
  rfl
theorem rq_lb {c:Int} {C:Cur} (hr:Byt C) (he:(rqR c C).1.endC.e=0) : putW [(2 + 2 * (((q2C C).wordsR (q1C C).wordV).length:Int)) % 65536,(((q2C C).wordsR (q1C C).wordV).length:Int) % 65536]++putW ((q2C C).wordsR (q1C C).wordV)=C.l:=by
  have hE0:Eat C _ (q1C C):=((Eat.refl C).word).need
  have hE1:Eat C _ (q2C C):=(hE0.word).need
  have hwc:0≤C.wordV∧C.wordV < 65536:=wordV_rng hr
  have hwv:0≤(q1C C).wordV∧(q1C C).wordV < 65536:=wordV_rng (hE0 hr).1
  obtain ⟨h1,h2⟩:=(hE1.words (q1C C).wordV).fin hr he
  obtain ⟨h3,_,h5⟩:=wo_ok (hE1 hr).1 h1
  have h6:=(nd_ok (by decide) h3).2
  simp only [beq_iff_eq] at h6
  rw [h5,h6,Int.emod_eq_of_lt hwv.1 hwv.2,Int.emod_eq_of_lt hwc.1 hwc.2,h2]
  rfl
theorem regs_lb {dir c:Int} {C C':Cur} {M:Msg} (hd:dir=0∨dir=1) (hr:Byt C) (h:regsForm dir c C=some (C',M)) (he:C'.endC.e=0) : regsLay dir M=C.l:=by
  unfold regsForm at h
  split at h
  · rename_i hc
    simp only [Bool.or_eq_true,beq_iff_eq] at hc
    rcases hd with rfl | rfl
    · have h:some (rasksR 125 c C)=some (C',M):=h
      obtain ⟨rfl,rfl⟩:=some_pair h
      rcases hc with rfl | rfl <;> exact rasks_lb hr he
    · have h:some (rtoldR c C)=some (C',M):=h
      obtain ⟨rfl,rfl⟩:=some_pair h
      rcases hc with rfl | rfl <;> exact rtold_lb hr he
  split at h
  · rename_i hc
    obtain rfl:c=6:=by simpa using hc
    obtain ⟨rfl,rfl⟩:=some_pair h
    rcases hd with rfl | rfl <;> exact rone_lb hr he
  split at h
  · rename_i hc
    obtain rfl:c=16:=by simpa using hc
    rcases hd with rfl | rfl
    · have h:some (rmanyR 16 C)=some (C',M):=h
      obtain ⟨rfl,rfl⟩:=some_pair h
      exact rmany_lb hr he
    · have h:some (rasksR 123 16 C)=some (C',M):=h
      obtain ⟨rfl,rfl⟩:=some_pair h
      exact rasks_lb hr he
  split at h
  · rename_i hc
    obtain rfl:c=22:=by simpa using hc
    obtain ⟨rfl,rfl⟩:=some_pair h
    rcases hd with rfl | rfl <;> exact rmask_lb hr he
  split at h
  · rename_i hc
    obtain rfl:c=23:=by simpa using hc
    rcases hd with rfl | rfl
    · have h:some (rbothR 23 C)=some (C',M):=h
      obtain ⟨rfl,rfl⟩:=some_pair h
      exact rboth_lb hr he
    · have h:some (rtoldR 23 C)=some (C',M):=h
      obtain ⟨rfl,rfl⟩:=some_pair h
      exact rtold_lb hr he
  split at h
  · rename_i hc
    obtain rfl:c=24:=by simpa using hc
    rcases hd with rfl | rfl
    · have h:some (raskqR 24 C)=some (C',M):=h
      obtain ⟨rfl,rfl⟩:=some_pair h
      exact raskq_lb hr he
    · have h:some (rqR 24 C)=some (C',M):=h
      obtain ⟨rfl,rfl⟩:=some_pair h
      exact rq_lb hr he
  · cases h
end Go.Proofs.YtgjlbabefogepaaGreat
namespace Go.Proofs.YtgjlbabefogepaaGreat
theorem Eat.conv {A C:Cur} {l l':List Int} (h:Eat A l C) (k:Byt A→Byt C→C.e=0→l=l') : Eat A l' C:=fun hr=>by
  obtain ⟨h1,h2⟩:=h hr
  refine ⟨h1,fun he=>?_⟩
  rw [← k hr h1 he]
  exact h2 he
theorem line_lb {dir c:Int} {C:Cur} (hr:Byt C) (he:(lineR dir c C).1.endC.e=0) : putW [(lineR dir c C).2.sub]++putW (lineR dir c C).2.words=C.l:=by
  have hE0:Eat C ([]++putW [C.wordV]) (line1 dir C):=((Eat.refl C).word).need
  unfold lineR at he ⊢
  split at he
  · rename_i hw
    rw [if_pos hw]
    exact (((hE0.words 1).need).fin hr he).2.symm
  · rename_i hw
    rw [if_neg hw]
    exact (((hE0.need).words _).fin hr he).2.symm
theorem eat_ansL (C:Cur) (lo hi:Int) : Eat C ([]++[C.byteV]) (ansL C lo hi):=((Eat.refl C).byte).need
theorem eat_busy {A C:Cur} {l:List Int} (h:Eat A l C) : Eat A (l++putW [C.wordV]) (busyC C):=(h.word).need
theorem ans_lb {c:Int} {C:Cur} (hc:c=7∨c=11∨c=12∨c=17) (hr:Byt C) (he:(answerR c C).1.endC.e=0) : diagLay 1 (answerR c C).2=C.l:=by
  have hbv:=byteV_rng' hr
  rcases hc with rfl | rfl | rfl | rfl
  · have he:(C.bytesC 1).endC.e=0:=he
    show [C.byteV % 256]=C.l
    rw [Int.emod_eq_of_lt hbv.1 hbv.2,((Eat.refl C).byte.fin hr he).2]
    rfl
  · have he:((busyC C).wordsC 1).endC.e=0:=he
    show putW [C.wordV,(busyC C).wordV]=C.l
    rw [((eat_busy (Eat.refl C)).word.fin hr he).2]
    rfl
  · have he:((ans12 C).bytesC (C.byteV - 6)).endC.e=0:=he
    have hE:=(((eat_busy (eat_ansL C 6 70)).word).word).bytes (C.byteV - 6)
    obtain ⟨h1,h2⟩:=hE.fin hr he
    obtain ⟨_,_,h3⟩:=by_ok h1
    show ([(6 + (((ans12 C).bytesR (C.byteV - 6)).length:Int)) % 256]++putW [(ansL C 6 70).wordV,(busyC (ansL C 6 70)).wordV,((busyC (ansL C 6 70)).wordsC 1).wordV])++(ans12 C).bytesR (C.byteV - 6)=C.l
    have h4:(((ans12 C).bytesR (C.byteV - 6)).length:Int)=C.byteV - 6:=h3
    rw [h4,show (6 + (C.byteV - 6)) % 256=C.byteV from by omega,h2]
    rfl
  · have he:((ansL C 1 251).bytesC C.byteV).endC.e=0:=he
    have hE:=(eat_ansL C 1 251).bytes C.byteV
    obtain ⟨h1,h2⟩:=hE.fin hr he
    obtain ⟨_,_,h3⟩:=by_ok h1
    show [(((ansL C 1 251).bytesR C.byteV).length:Int) % 256]++(ansL C 1 251).bytesR C.byteV=C.l
    rw [h3,Int.emod_eq_of_lt hbv.1 hbv.2,h2]
    rfl
theorem ask_lb {c:Int} {C:Cur} (hc:c=7∨c=11∨c=12∨c=17) (hr:Byt C) (he:C.endC.e=0) : diagLay 0 { Msg.zero with code:=c }=C.l:=by
  have h:=((Eat.refl C).fin hr he).2
  rcases hc with rfl | rfl | rfl | rfl <;> exact h.symm
theorem diag_lb {dir c:Int} {C C':Cur} {M:Msg} (hd:dir=0∨dir=1) (hr:Byt C) (h:diagForm dir c C=some (C',M)) (he:C'.endC.e=0) : diagLay dir M=C.l:=by
  unfold diagForm at h
  split at h
  · rename_i hc
    obtain rfl:c=8:=by simpa using hc
    obtain ⟨rfl,rfl⟩:=some_pair h
    have hco:(lineR dir 8 C).2.code=8:=by unfold lineR; split <;> rfl
    unfold diagLay
    rw [hco,if_pos (by rfl)]
    exact line_lb hr he
  split at h
  · rename_i hc
    simp only [Bool.or_eq_true,beq_iff_eq] at hc
    have hc:c=7∨c=11∨c=12∨c=17:=by omega
    rcases hd with rfl | rfl
    · have h:some (C,({ Msg.zero with code:=c }:Msg))=some (C',M):=h
      obtain ⟨rfl,rfl⟩:=some_pair h
      exact ask_lb hc hr he
    · have h:some (answerR c C)=some (C',M):=h
      obtain ⟨rfl,rfl⟩:=some_pair h
      exact ans_lb hc hr he
  · cases h
theorem objs_eat:∀ (n:Nat) (C:Cur) (L:List Obj),∃ L',(objsR n C L).2=L++L'∧L'.length=n∧Eat C (objB L') (objsR n C L).1
  | 0,C,L=>⟨[],by simp [objsR],rfl,Eat.refl C⟩
  | n + 1,C,L=>by
    obtain ⟨L',h1,h2,h3⟩:=objs_eat n (((C.bytesC 1).bytesC 1).bytesC (C.bytesC 1).byteV) (L++[⟨C.byteV,((C.bytesC 1).bytesC 1).bytesR (C.bytesC 1).byteV⟩])
    refine ⟨⟨C.byteV,((C.bytesC 1).bytesC 1).bytesR (C.bytesC 1).byteV⟩ :: L',?_,by simp [h2],?_⟩
    · show (objsR n _ _).2=_
      rw [h1]
      simp
    · have hE0:Eat C _ ((C.bytesC 1).bytesC 1):=(Eat.refl C).byte.byte
      have hE1:Eat C (([C.byteV,((((C.bytesC 1).bytesC 1).bytesR (C.bytesC 1).byteV).length:Int) % 256])++((C.bytesC 1).bytesC 1).bytesR (C.bytesC 1).byteV) (((C.bytesC 1).bytesC 1).bytesC (C.bytesC 1).byteV):=(hE0.bytes _).conv fun hr _ he=>by
        have hb:=byteV_rng' ((Eat.refl C).byte hr).1
        rw [(by_ok he).2.2,Int.emod_eq_of_lt hb.1 hb.2]
        rfl
      exact hE1.trans h3
theorem mei_objs {c:Int} {C:Cur} (hr:Byt C) (he:(meiObjs (meiA C).byteV (meiD C)).1.endC.e=0) : [C.byteV,(meiA C).byteV,(meiD C).byteV,(mei1 (meiD C)).byteV,(mei2 (meiD C)).byteV,((meiObjs (meiA C).byteV (meiD C)).2.length:Int) % 256]++objB (meiObjs (meiA C).byteV (meiD C)).2=C.l:=by
  have hE0:Eat C _ (meiA C):=(Eat.refl C).byte.need
  have hE1:Eat C _ (meiD C):=hE0.byte.need
  have hE2:Eat C _ (mei1 (meiD C)):=hE1.byte.need
  have hE3:Eat C _ (mei2 (meiD C)):=hE2.byte.need
  have hE4:Eat C _ (mei3 (meiD C)):=hE3.byte.need
  have hE5:Eat C _ (mei4 (meiA C).byteV (meiD C)):=hE4.byte.need
  obtain ⟨L',h1,h2,h3⟩:=objs_eat (mei3 (meiD C)).byteV.toNat (mei4 (meiA C).byteV (meiD C)) []
  have hb:=byteV_rng' (hE4 hr).1
  have h4:(meiObjs (meiA C).byteV (meiD C)).2=L':=by unfold meiObjs; rw [h1]; rfl
  obtain ⟨_,h5⟩:=(hE5.trans h3).fin hr he
  rw [h4,h2,show (((mei3 (meiD C)).byteV.toNat:Nat) : Int) % 256=(mei3 (meiD C)).byteV from by omega,h5]
  rfl
theorem mei_lb {dir c:Int} {C C':Cur} {M:Msg} (hd:dir=0∨dir=1) (hr:Byt C) (h:meiForm dir c C=some (C',M)) (he:C'.endC.e=0) : meiLay dir M=C.l:=by
  have hE0:Eat C _ (meiA C):=(Eat.refl C).byte.need
  unfold meiForm at h
  split at h
  · cases h
  split at h
  · rename_i hm
    obtain ⟨rfl,rfl⟩:=some_pair h
    have hE1:=(hE0.need (ok:=decide (((meiA C).l.length:Int)≤251)) (x:=5)).bytes ((meiB C).l.length:Int)
    obtain ⟨_,h5⟩:=hE1.fin hr he
    unfold meiLay
    rw [if_pos (show (C.byteV == 13)=true from hm),h5]
    rfl
  rename_i hm
  split at h
  · rename_i hc
    obtain rfl:dir=1:=by simpa using hc
    obtain ⟨rfl,rfl⟩:=some_pair h
    unfold meiLay
    rw [if_neg (show ¬ (C.byteV == 13)=true from hm),if_neg (by decide)]
    exact mei_objs (c:=c) hr he
  · rename_i hc
    obtain rfl:dir=0:=by
      rcases hd with rfl | rfl
      · rfl
      · exact absurd rfl hc
    obtain ⟨rfl,rfl⟩:=some_pair h
    have hE1:Eat C _ (meiD C):=hE0.byte.need
    obtain ⟨_,h5⟩:=hE1.byte.fin hr he
    unfold meiLay
    rw [if_neg (show ¬ (C.byteV == 13)=true from hm),if_pos (by rfl),h5]
    rfl
theorem recs_eat {one:Int→Cur→Int × Cur × Rec} {dir code:Int} (hl:∀ s C,0 < C.l.length→(one s C).2.1.l.length < C.l.length) (hE:∀ s C,Eat C (recB dir code (one s C).2.2) (one s C).2.1) :
    ∀ (n:Nat) (s:Int) (C:Cur) (L:List Rec),C.l.length≤n→Byt C→(recsR one n s C L).1.e=0→∃ L',(recsR one n s C L).2=L++L'∧C.l=filesB dir code L'
  | 0,s,C,L,h,_,_=>⟨[],by simp [recsR],by simpa [filesB] using h⟩
  | n + 1,s,C,L,h,hr,he=>by
    unfold recsR at he ⊢
    split at he
    · rename_i hc
      rw [if_pos hc]
      simp only [Bool.and_eq_true,decide_eq_true_eq,beq_iff_eq] at hc
      have h1:=hl s C (by omega)
      obtain ⟨h2,h3⟩:=hE s C hr
      split at he
      · rename_i hn
        rw [he] at hn
        cases hn
      · rename_i hn
        rw [if_neg hn]
        have h4:(one s C).2.1.e=0:=by simpa using hn
        obtain ⟨L',h5,h6⟩:=recs_eat hl hE n (one s C).1 (one s C).2.1 (L++[(one s C).2.2]) (by omega) h2 he
        refine ⟨(one s C).2.2 :: L',by rw [h5]; simp,?_⟩
        rw [(h3 h4).2,h6]
        rfl
    · rename_i hc
      rw [if_neg hc]
      have he:C.e=0:=he
      refine ⟨[],by simp,?_⟩
      have:C.l=[]:=by
        apply List.eq_nil_of_length_eq_zero
        simp only [he,Bool.and_eq_true,decide_eq_true_eq,beq_self_eq_true,and_true] at hc
        omega
      rw [this]
      rfl
theorem eat_hd1 (C:Cur) : Eat C [6] (hd1 C):=((Eat.refl C).byte.need).conv fun hr _ he=>by
  have h:=(nd_ok (by decide) he).2
  simp only [beq_iff_eq] at h
  rw [h]
  rfl
theorem eat_head (C:Cur) : Eat C ([6]++putW [(headM C).file,(headM C).record,(headM C).count]) (headC C):=by
  have hE1:Eat C _ (hd2 C):=(eat_hd1 C).word.need
  have hE2:Eat C _ (hd3 C):=hE1.word.need
  have hE3:Eat C _ (headC C):=hE2.word.need
  exact hE3
theorem eat_ask (s:Int) (C:Cur) : Eat C (recB 0 20 (askO s C).2.2) (askO s C).2.1:=by
  have h:Eat C _ (askedC s C):=(eat_head C).need
  exact h.conv fun _ _ _=>rfl
theorem eat_wrt (dir s:Int) (C:Cur) : Eat C (recB dir 21 (wrtO s C).2.2) (wrtO s C).2.1:=by
  have h:Eat C _ (wrt1 C):=(eat_head C).need
  exact (h.words (hd3 C).wordV).conv fun _ _ _=>rfl
theorem eat_tld (s:Int) (C:Cur) : Eat C (recB 1 20 (toldO s C).2.2) (toldO s C).2.1:=by
  have hE1:Eat C _ (told1 C):=(Eat.refl C).byte.need
  have hE2:Eat C _ (told2 C):=hE1.byte.need
  refine (hE2.words (Int.tdiv (C.byteV - 1) 2)).conv fun hr _ he=>?_
  obtain ⟨h1,_,h2⟩:=wo_ok (hE2 hr).1 he
  obtain ⟨h3,h4⟩:=nd_ok (by decide) h1
  obtain ⟨h5,h6⟩:=nd_ok (by decide) (by_ok h3).1
  have hb:=byteV_rng' hr
  simp only [Bool.and_eq_true,decide_eq_true_eq,beq_iff_eq] at h4 h6
  have h7:(1 + 2 * (((told2 C).wordsR (Int.tdiv (C.byteV - 1) 2)).length:Int)) % 256=C.byteV:=by
    rw [h2,Int.tdiv_eq_ediv_of_nonneg (by omega)]
    omega
  show _=[(1 + 2 * (((told2 C).wordsR (Int.tdiv (C.byteV - 1) 2)).length:Int)) % 256,6]++putW ((told2 C).wordsR (Int.tdiv (C.byteV - 1) 2))
  rw [h7,h4]
  rfl
theorem filesR_lb {one:Int→Cur→Int × Cur × Rec} {dir code:Int} (hl:∀ s C,0 < C.l.length→(one s C).2.1.l.length < C.l.length) (hE:∀ s C,Eat C (recB dir code (one s C).2.2) (one s C).2.1) {may:Int→Bool} {c:Int} {C:Cur} (hr:Byt C)
    (he:(filesR one may c C).1.endC.e=0) : [((filesB dir code (flR one may C).2).length:Int) % 256]++filesB dir code (flR one may C).2=C.l:=by
  have hE0:Eat C _ (fl1 may C):=(Eat.refl C).byte.need
  have hE1:=hE0.bytes C.byteV
  have hb:=byteV_rng' hr
  unfold Cur.endC at he
  obtain ⟨h0,h00⟩:=nd_ok (by decide) he
  unfold filesR at h0 h00
  have hw:withinE (flR one may C).1.e ≠ 0∨(flR one may C).1.e=0:=by
    by_cases hz:(flR one may C).1.e=0
    · exact Or.inr hz
    · left
      unfold withinE
      split
      · decide
      · exact hz
  have h1:((fl1 may C).bytesC C.byteV).e=0∧(flR one may C).1.e=0:=by
    rcases hw with hw | hw
    · obtain ⟨h2,h3⟩:=nd_ok hw h0
      exact ⟨h2,by simpa using h3⟩
    · rw [hw] at h0
      refine ⟨?_,hw⟩
      unfold Cur.need at h0
      rw [if_neg (by rintro ⟨_,hx⟩; cases hx)] at h0
      exact h0
  obtain ⟨h2,h3,h4⟩:=by_ok h1.1
  have h5:((fl1 may C).bytesC C.byteV).l=[]:=by
    rw [need_l] at h00
    simp only [beq_iff_eq] at h00
    exact List.eq_nil_of_length_eq_zero (by omega)
  have h6:C.l=[C.byteV]++(fl1 may C).bytesR C.byteV:=by
    rw [((hE1 hr).2 h1.1).2,h5]
    simp
  have hB:Byt (flB may C):=fun x hx=>hr x (by rw [h6]; exact List.mem_append_right _ hx)
  obtain ⟨L',h7,h8⟩:=recs_eat hl hE (flB may C).l.length 0 (flB may C) [] (Nat.le_refl _) hB h1.2
  have h9:(flR one may C).2=L':=by unfold flR; rw [h7]; rfl
  have h10:filesB dir code L'=(fl1 may C).bytesR C.byteV:=h8.symm
  rw [h9,h10,h4,Int.emod_eq_of_lt hb.1 hb.2,h6]
theorem filesLay_eq (dir:Int) (M:Msg) : filesLay dir M=[((filesB dir M.code M.recs).length:Int) % 256]++filesB dir M.code M.recs:=by
  unfold filesLay
  simp
theorem files_lb {dir c:Int} {C C':Cur} {M:Msg} (hd:dir=0∨dir=1) (hr:Byt C) (h:filesForm dir c C=some (C',M)) (he:C'.endC.e=0) : filesLay dir M=C.l:=by
  rw [filesLay_eq]
  unfold filesForm at h
  split at h
  · rename_i hc
    obtain rfl:c=20:=by simpa using hc
    rcases hd with rfl | rfl
    · have h:some (filesR askO mayA 20 C)=some (C',M):=h
      obtain ⟨rfl,rfl⟩:=some_pair h
      exact filesR_lb askO_lt eat_ask hr he
    · have h:some (filesR toldO mayT 20 C)=some (C',M):=h
      obtain ⟨rfl,rfl⟩:=some_pair h
      exact filesR_lb toldO_lt eat_tld hr he
  split at h
  · rename_i hc
    obtain rfl:c=21:=by simpa using hc
    obtain ⟨rfl,rfl⟩:=some_pair h
    exact filesR_lb wrtO_lt (eat_wrt dir) hr he
  · cases h
theorem parseOf_lb {form:Int→Int→Cur→Option (Cur × Msg)} {lay:Int→Msg→List Int} (hf:∀ {dir c:Int} {C C':Cur} {M:Msg},(dir=0∨dir=1)→Byt C→form dir c C=some (C',M)→C'.endC.e=0→lay dir M=C.l)
    {dir c:Int} {b:List Int} {M:Msg} (hd:dir=0∨dir=1) (hr:∀ x,x∈b→0≤x∧x < 256) (h:parseOf form dir c b=(M,0)) : lay dir M=b:=by
  unfold parseOf at h
  rw [if_pos hd] at h
  split at h
  · cases h
  · rename_i r hr'
    unfold finish at h
    split at h
    · rename_i he
      injection h with h
      obtain ⟨C',M'⟩:=r
      have h:M'=M:=h
      subst h
      exact hf (C:=⟨b,false,0⟩) hd hr hr' he
    · rename_i he
      injection h with _ h
      exact absurd h he
theorem writeOf_ok {parse:Int→Int→List Int→Msg × Int} {lay:Int→Msg→List Int} {dir:Int} {M:Msg} {l:List Int} (h1:lay dir M=l) (h2:parse dir M.code l=(M,0)) : writeOf parse lay dir M=some l:=by
  unfold writeOf
  rw [h1,if_pos h2]
theorem famW_ok {k:Nat} {dir:Int} {b:List Int} {M:Msg} (hd:dir=0∨dir=1) (hr:∀ x,x∈b→0≤x∧x < 256) (h:famP k dir b=(M,0)) (hc:M.code=b.getD 0 0) : famW k dir M=some (b.drop 1):=by
  have hr':∀ x,x∈b.drop 1→0≤x∧x < 256:=fun x hx=>hr x (List.mem_of_mem_drop hx)
  unfold famP at h
  split at h
  · exact writeOf_ok (parseOf_lb coils_lb hd hr' h) (by rw [hc]; exact h)
  · exact writeOf_ok (parseOf_lb regs_lb hd hr' h) (by rw [hc]; exact h)
  · exact writeOf_ok (parseOf_lb diag_lb hd hr' h) (by rw [hc]; exact h)
  · exact writeOf_ok (parseOf_lb files_lb hd hr' h) (by rw [hc]; exact h)
  · exact writeOf_ok (parseOf_lb mei_lb hd hr' h) (by rw [hc]; exact h)
  · cases h
theorem fail_rng {x:Int} (h:failureB x=true) : (x != 0)=true:=by
  unfold failureB at h
  simp only [decide_eq_true_eq,List.mem_cons,List.not_mem_nil,or_false] at h
  simp only [bne_iff_ne]
  omega
theorem pub_small {x:Int} (h:publicB x=true) : 0 < x∧x < 128:=by
  unfold publicB at h
  simp only [decide_eq_true_eq,List.mem_cons,List.not_mem_nil,or_false] at h
  omega
theorem pdu_back {dir:Int} {b:List Int} {M:Msg} (hd:dir=0∨dir=1) (hr:∀ x,x∈b→0≤x∧x < 256) (h:pduP dir b=(M,0)) : pduW dir M=some b:=by
  unfold pduP at h
  split at h
  · cases h
  split at h
  · cases h
  split at h
  · cases h
  rename_i h1 h2 h3
  simp only [beq_iff_eq] at h2
  simp only [decide_eq_true_eq] at h3
  obtain ⟨x,t,rfl⟩ : ∃ x t,b=x :: t:=by
    cases b with
    | nil=>exact absurd rfl h2
    | cons x t=>exact ⟨x,t,rfl⟩
  have hx:=hr x (by simp)
  split at h
  · rename_i hq
    simp only [Bool.and_eq_true,decide_eq_true_eq,beq_iff_eq] at hq
    obtain ⟨rfl,k1,k2,k3,k4⟩:=refP_ok h
    have k5:=pub_small k2
    unfold pduW
    rw [if_pos (show ((refM _ ((x :: t).getD 1 0)).fail != 0)=true from fail_rng k3)]
    rw [if_neg (by rw [hq.2]; decide)]
    unfold refW
    have k6:pairB (refM (((x :: t).getD 0 0 - 128) % 256) ((x :: t).getD 1 0)).code (refM (((x :: t).getD 0 0 - 128) % 256) ((x :: t).getD 1 0)).fail=true:=by
      show pairB (((x :: t).getD 0 0 - 128) % 256) ((x :: t).getD 1 0)=true
      unfold pairB
      rw [k2,k3]
      have:(((x :: t).getD 0 0 - 128) % 256 != 0)=true:=by simp only [bne_iff_ne]; omega
      rw [this]
      rfl
    rw [k6]
    have k7:decide (refM (((x :: t).getD 0 0 - 128) % 256) ((x :: t).getD 1 0)=refM (refM (((x :: t).getD 0 0 - 128) % 256) ((x :: t).getD 1 0)).code (refM (((x :: t).getD 0 0 - 128) % 256) ((x :: t).getD 1 0)).fail)=true:=decide_eq_true rfl
    rw [k7]
    show some [(((x - 128) % 256) + 128) % 256,(x :: t).getD 1 0]=some (x :: t)
    match t,k4 with
    | [y],_ =>
      rw [show (((x - 128) % 256) + 128) % 256=x from by omega]
      rfl
  · obtain ⟨_,k1⟩:=famP_good hd h
    obtain ⟨k2,k3⟩:=k1 rfl
    have k4:=famW_ok hd hr h k2
    unfold pduW
    rw [if_neg (by rw [k3]; decide),k2,k4]
    show (if decide (253≤(t.length:Int))=true then none else some ([x]++t))=some (x :: t)
    rw [if_neg (by simp only [decide_eq_true_eq]; simp only [List.length_cons] at h3; omega)]
    rfl
end Go.Proofs.YtgjlbabefogepaaGreat
namespace Go.Proofs.YtgjlbabefogepaaGreat
theorem bytesR_le2 (C:Cur) (n:Int) : (C.bytesR n).length≤C.l.length:=by
  unfold Cur.bytesR
  split
  · simp
  · rw [List.length_take]; omega
theorem wordsR_le (C:Cur) (n:Int) : (C.wordsR n).length≤C.l.length:=by
  have h:=bytesR_le2 C (2 * n)
  unfold Cur.wordsR
  split
  · simp
  · unfold wordTake
    split
    · rw [takeW_length]; omega
    · simp
def Sh (C C':Cur) : Prop:=C'.l.length≤C.l.length
theorem Sh.refl (C:Cur) : Sh C C:=Nat.le_refl _
theorem Sh.bytes {A C:Cur} (h:Sh A C) {n:Int}:Sh A (C.bytesC n):=Nat.le_trans (bytesC_len C n) h
theorem Sh.words {A C:Cur} (h:Sh A C) {n:Int}:Sh A (C.wordsC n):=Nat.le_trans (wordsC_len C n) h
theorem Sh.need {A C:Cur} (h:Sh A C) {b:Bool} {e:Int}:Sh A (C.need b e):=by unfold Sh; rw [need_len]; exact h
theorem Sh.bR {A C:Cur} (h:Sh A C) (n:Int) {k:Nat} (hk:A.l.length≤k) : (C.bytesR n).length≤k:=Nat.le_trans (bytesR_le2 C n) (Nat.le_trans h hk)
theorem Sh.wR {A C:Cur} (h:Sh A C) (n:Int) {k:Nat} (hk:A.l.length≤k) : (C.wordsR n).length≤k:=Nat.le_trans (wordsR_le C n) (Nat.le_trans h hk)
theorem few_of {M:Msg} (h1:M.words.length≤252) (h2:M.bits.length≤2016) (h3:M.data.length≤252) (h4:M.recs=[]) (h5:M.objects=[]) : MsgFew M :=
  ⟨by omega,by omega,by omega,by rw [h4]; decide,(by rw [h4]; exact fun r h=>nomatch h),by rw [h5]; decide,(by rw [h5]; exact fun r h=>nomatch h)⟩
theorem few_nil (M:Msg) (h1:M.words=[]) (h2:M.bits=[]) (h3:M.data=[]) (h4:M.recs=[]) (h5:M.objects=[]) : MsgFew M:=few_of (by rw [h1]; decide) (by rw [h2]; decide) (by rw [h3]; decide) h4 h5
theorem sh_span (C:Cur) (m:Int) : Sh C (spanC C m):=((Sh.refl C).words.words.need).need
theorem sh_rspan {A C:Cur} (h:Sh A C) (a m:Int) : Sh A (rspanC C a m):=(h.words.need).need
theorem unpack_len {b:List Int} {n:Int} {l:List Bool} (h:unpackB b n=some l) : l.length≤8 * b.length:=by
  unfold unpackB at h
  split at h
  · rename_i hc
    split at h
    · injection h with h
      subst h
      have:=hc.2
      rw [List.length_map,List.length_range]
      unfold many at this
      split at this <;> omega
    · cases h
  · cases h
theorem coils_few {dir c:Int} {C C':Cur} {M:Msg} (hl:C.l.length≤252) (h:coilsForm dir c C=some (C',M)) : MsgFew M:=by
  unfold coilsForm at h
  repeat' split at h
  all_goals first | (cases h; done) | obtain ⟨rfl,rfl⟩:=some_pair h
  · exact few_nil _ rfl rfl rfl rfl rfl
  · exact few_of (Nat.zero_le _) (Nat.zero_le _) (((Sh.refl C).bytes.need).bR _ hl) rfl rfl
  · exact few_nil _ rfl rfl rfl rfl rfl
  · refine few_of (Nat.zero_le _) ?_ (Nat.zero_le _) rfl rfl
    show ((smU C).getD []).length≤2016
    cases hu:smU C with
    | none=>simp
    | some l =>
      have h1:=unpack_len hu
      have h2:((smC2 C).bytesR (smK C)).length≤252:=((sh_span C 1968).bytes.need).bR _ hl
      simp only [Option.getD_some]
      omega
  · exact few_nil _ rfl rfl rfl rfl rfl
theorem regs_few {dir c:Int} {C C':Cur} {M:Msg} (hl:C.l.length≤252) (h:regsForm dir c C=some (C',M)) : MsgFew M:=by
  unfold regsForm at h
  repeat' split at h
  all_goals first | (cases h; done) | obtain ⟨rfl,rfl⟩:=some_pair h
  · exact few_nil _ rfl rfl rfl rfl rfl
  · exact few_of (((Sh.refl C).bytes.need).wR _ hl) (Nat.zero_le _) (Nat.zero_le _) rfl rfl
  · exact few_nil _ rfl rfl rfl rfl rfl
  · exact few_of (((sh_rspan (Sh.refl C).words _ _).bytes.need).wR _ hl) (Nat.zero_le _) (Nat.zero_le _) rfl rfl
  · exact few_nil _ rfl rfl rfl rfl rfl
  · exact few_nil _ rfl rfl rfl rfl rfl
  · exact few_of (((sh_rspan (sh_rspan (Sh.refl C).words _ _).words _ _).bytes.need).wR _ hl) (Nat.zero_le _) (Nat.zero_le _) rfl rfl
  · exact few_of (((Sh.refl C).bytes.need).wR _ hl) (Nat.zero_le _) (Nat.zero_le _) rfl rfl
  · exact few_nil _ rfl rfl rfl rfl rfl
  · exact few_of ((((Sh.refl C).words.need).words.need).wR _ hl) (Nat.zero_le _) (Nat.zero_le _) rfl rfl
theorem diag_few {dir c:Int} {C C':Cur} {M:Msg} (hl:C.l.length≤252) (h:diagForm dir c C=some (C',M)) : MsgFew M:=by
  unfold diagForm at h
  repeat' split at h
  all_goals first | (cases h; done) | obtain ⟨rfl,rfl⟩:=some_pair h
  · unfold lineR
    split
    · exact few_of (((Sh.refl C).words.need).wR _ hl) (Nat.zero_le _) (Nat.zero_le _) rfl rfl
    · exact few_of (((Sh.refl C).words.need.need).wR _ hl) (Nat.zero_le _) (Nat.zero_le _) rfl rfl
  · unfold answerR
    have h1:Sh C (ansL C 6 70):=(Sh.refl C).bytes.need
    have h2:Sh C (busyC (ansL C 6 70)):=h1.words.need
    repeat' split
    · exact few_nil _ rfl rfl rfl rfl rfl
    · exact few_nil _ rfl rfl rfl rfl rfl
    · exact few_of (Nat.zero_le _) (Nat.zero_le _) (h2.words.words.bR _ hl) rfl rfl
    · exact few_of (Nat.zero_le _) (Nat.zero_le _) (Sh.bR (C:=ansL C 1 251) ((Sh.refl C).bytes.need) _ hl) rfl rfl
    · exact few_nil _ rfl rfl rfl rfl rfl
  · exact few_nil _ rfl rfl rfl rfl rfl
theorem objB_few:∀ (L:List Obj),2 * L.length≤(objB L).length∧∀ o,o∈L→o.value.length≤(objB L).length
  | []=>⟨by simp [objB],fun o h=>nomatch h⟩
  | x :: L=>by
    obtain ⟨h1,h2⟩:=objB_few L
    have h3:(objB (x :: L)).length=2 + x.value.length + (objB L).length:=by simp [objB]; omega
    refine ⟨by rw [h3,List.length_cons]; omega,fun o ho=>?_⟩
    rcases List.mem_cons.1 ho with rfl | ho
    · omega
    · have:=h2 o ho
      omega
theorem mei_few {dir c:Int} {C C':Cur} {M:Msg} (hd:dir=0∨dir=1) (hr:Byt C) (hl:C.l.length≤252) (h:meiForm dir c C=some (C',M)) (he:C'.endC.e=0) : MsgFew M:=by
  have hb:=mei_lb hd hr h he
  have hA:Sh C (meiA C):=(Sh.refl C).bytes.need
  unfold meiForm at h
  repeat' split at h
  all_goals first | (cases h; done) | obtain ⟨rfl,rfl⟩:=some_pair h
  · exact few_of (Nat.zero_le _) (Nat.zero_le _) (Sh.bR (C:=meiB C) hA.need _ hl) rfl rfl
  · rename_i hm hc
    obtain rfl:dir=1:=by simpa using hc
    unfold meiLay at hb
    rw [if_neg (show ¬ (C.byteV == 13)=true from hm),if_neg (by decide)] at hb
    have h1:=congrArg List.length hb
    rw [List.length_append] at h1
    obtain ⟨h2,h3⟩:=objB_few (meiObjs (meiA C).byteV (meiD C)).2
    have h1:6 + (objB (meiObjs (meiA C).byteV (meiD C)).2).length=C.l.length:=h1
    refine ⟨Nat.zero_le _,Nat.zero_le _,Nat.zero_le _,Nat.zero_le _,(fun r h=>nomatch h),?_,?_⟩
    · show (meiObjs (meiA C).byteV (meiD C)).2.length≤128
      omega
    · intro o ho
      have:=h3 o ho
      omega
  · exact few_nil _ rfl rfl rfl rfl rfl
theorem filesB_few {dir code:Int}:∀ (L:List Rec),(∀ r,r∈L→4≤(recB dir code r).length)→4 * L.length≤(filesB dir code L).length∧∀ r,r∈L→r.words.length≤(filesB dir code L).length
  | [],_=>⟨by simp [filesB],fun o h=>nomatch h⟩
  | x :: L,h=>by
    obtain ⟨h1,h2⟩:=filesB_few L fun r hr=>h r (by simp [hr])
    have h3:(filesB dir code (x :: L)).length=(recB dir code x).length + (filesB dir code L).length:=by simp [filesB]
    have h4:=h x (by simp)
    have h5:x.words.length≤(recB dir code x).length:=by
      have:=putW_length x.words
      unfold recB
      rw [List.length_append]
      omega
    refine ⟨by rw [h3,List.length_cons]; omega,fun o ho=>?_⟩
    rcases List.mem_cons.1 ho with rfl | ho
    · omega
    · have:=h2 o ho
      omega
theorem recs_all {one:Int→Cur→Int × Cur × Rec} {P:Rec→Prop} {dir code:Int} (hE:∀ s C,Eat C (recB dir code (one s C).2.2) (one s C).2.1) (hP:∀ s C,Byt C→(one s C).2.1.e=0→P (one s C).2.2) :
    ∀ (n:Nat) (s:Int) (C:Cur) (L:List Rec),Byt C→(recsR one n s C L).1.e=0→(∀ r,r∈L→P r)→∀ r,r∈(recsR one n s C L).2→P r
  | 0,s,C,L,_,_,h=>h
  | n + 1,s,C,L,hr,he,h=>by
    unfold recsR at he ⊢
    split at he
    · rename_i hc
      rw [if_pos hc]
      split at he
      · rename_i hn
        rw [he] at hn
        cases hn
      · rename_i hn
        rw [if_neg hn]
        have h4:(one s C).2.1.e=0:=by simpa using hn
        exact recs_all hE hP n _ _ _ ((hE s C) hr).1 he fun r hr'=>by
          rcases List.mem_append.1 hr' with h5 | h5
          · exact h r h5
          · rw [List.mem_singleton.1 h5]
            exact hP s C hr h4
    · rename_i hc
      rw [if_neg hc]
      exact h
theorem tld_ne (s:Int) (C:Cur) (hr:Byt C) (he:(toldO s C).2.1.e=0) : 4≤(recB 1 20 (toldO s C).2.2).length:=by
  have hE1:Eat C _ (told1 C):=(Eat.refl C).byte.need
  have hE2:Eat C _ (told2 C):=hE1.byte.need
  obtain ⟨h1,_,h2⟩:=wo_ok (hE2 hr).1 (show ((told2 C).wordsC (Int.tdiv (C.byteV - 1) 2)).e=0 from he)
  obtain ⟨h3,_⟩:=nd_ok (by decide) h1
  obtain ⟨_,h6⟩:=nd_ok (by decide) (by_ok h3).1
  simp only [Bool.and_eq_true,decide_eq_true_eq,beq_iff_eq] at h6
  rw [Int.tdiv_eq_ediv_of_nonneg (by omega)] at h2
  have h7:=putW_length ((told2 C).wordsR (Int.tdiv (C.byteV - 1) 2))
  show 4≤([_,6]++putW ((told2 C).wordsR (Int.tdiv (C.byteV - 1) 2))).length
  rw [List.length_append,h7,Int.tdiv_eq_ediv_of_nonneg (by omega)]
  simp only [List.length_cons,List.length_nil]
  omega
theorem ask_ne (dir code:Int) (r:Rec) (h:(code == 20 && dir == 1)=false) : 4≤(recB dir code r).length:=by
  unfold recB
  rw [h]
  simp [putW]
theorem filesR_few {one:Int→Cur→Int × Cur × Rec} {dir code:Int} (hl:∀ s C,0 < C.l.length→(one s C).2.1.l.length < C.l.length) (hE:∀ s C,Eat C (recB dir code (one s C).2.2) (one s C).2.1)
    (hP:∀ s C,Byt C→(one s C).2.1.e=0→4≤(recB dir code (one s C).2.2).length) {may:Int→Bool} {c:Int} {C:Cur} (hr:Byt C) (hl':C.l.length≤252)
    (he:(filesR one may c C).1.endC.e=0) : MsgFew (filesR one may c C).2:=by
  have hb:=filesR_lb hl hE hr he
  have h1:=congrArg List.length hb
  rw [List.length_append] at h1
  have h1:1 + (filesB dir code (flR one may C).2).length=C.l.length:=h1
  have h2:(flR one may C).1.e=0:=by
    unfold Cur.endC at he
    obtain ⟨h0,_⟩:=nd_ok (by decide) he
    unfold filesR at h0
    by_cases hz:(flR one may C).1.e=0
    · exact hz
    · have hw:withinE (flR one may C).1.e ≠ 0:=by
        unfold withinE
        split
        · decide
        · exact hz
      simpa using (nd_ok hw h0).2
  have hB:Byt (flB may C):=fun x hx=>hr x (by
    have h5:x∈(fl1 may C).l:=by
      have:x∈(fl1 may C).bytesR C.byteV:=hx
      unfold Cur.bytesR at this
      split at this
      · cases this
      · exact List.mem_of_mem_take this
    have h6:x∈(C.bytesC 1).l:=by unfold fl1 at h5; rwa [need_l] at h5
    unfold Cur.bytesC at h6
    split at h6
    · rw [need_l] at h6
      cases h6
    · exact List.mem_of_mem_drop h6)
  have h3:=recs_all (P:=fun r=>4≤(recB dir code r).length) hE hP (flB may C).l.length 0 (flB may C) [] hB h2 (fun r h=>nomatch h)
  obtain ⟨h4,h5⟩:=filesB_few (dir:=dir) (code:=code) (flR one may C).2 h3
  refine ⟨Nat.zero_le _,Nat.zero_le _,Nat.zero_le _,?_,?_,Nat.zero_le _,(fun r h=>nomatch h)⟩
  · show (flR one may C).2.length≤64
    omega
  · intro r hr'
    have:=h5 r hr'
    omega
theorem files_few {dir c:Int} {C C':Cur} {M:Msg} (hd:dir=0∨dir=1) (hr:Byt C) (hl:C.l.length≤252) (h:filesForm dir c C=some (C',M)) (he:C'.endC.e=0) : MsgFew M:=by
  unfold filesForm at h
  split at h
  · rename_i hc
    obtain rfl:c=20:=by simpa using hc
    rcases hd with rfl | rfl
    · have h:some (filesR askO mayA 20 C)=some (C',M):=h
      obtain ⟨rfl,rfl⟩:=some_pair h
      exact filesR_few askO_lt eat_ask (fun _ _ _ _=>ask_ne _ _ _ rfl) hr hl he
    · have h:some (filesR toldO mayT 20 C)=some (C',M):=h
      obtain ⟨rfl,rfl⟩:=some_pair h
      exact filesR_few toldO_lt eat_tld tld_ne hr hl he
  split at h
  · rename_i hc
    obtain rfl:c=21:=by simpa using hc
    obtain ⟨rfl,rfl⟩:=some_pair h
    exact filesR_few wrtO_lt (eat_wrt dir) (fun _ _ _ _=>ask_ne _ _ _ rfl) hr hl he
  · cases h
theorem few_zero:MsgFew Msg.zero:=few_nil _ rfl rfl rfl rfl rfl
theorem parse_few1 {form:Int→Int→Cur→Option (Cur × Msg)} (hf:∀ {dir c:Int} {C C':Cur} {M:Msg},(dir=0∨dir=1)→Byt C→C.l.length≤252→form dir c C=some (C',M)→C'.endC.e=0→MsgFew M)
    {dir c:Int} {b:List Int} {M:Msg} {E:Int} (hr:∀ x,x∈b→0≤x∧x < 256) (hl:b.length≤252) (h:parseOf form dir c b=(M,E)) : MsgFew M∧(E ≠ 0→M=Msg.zero):=by
  unfold parseOf at h
  split at h
  · rename_i hd
    split at h
    · injection h with h1 h2
      subst h1 h2
      exact ⟨few_zero,fun _=>rfl⟩
    · rename_i r hr'
      unfold finish at h
      split at h
      · rename_i he
        injection h with h1 h2
        obtain ⟨C',M'⟩:=r
        have h1:M'=M:=h1
        subst h1
        exact ⟨hf (C:=⟨b,false,0⟩) hd hr hl hr' he,fun hE=>absurd h2.symm hE⟩
      · injection h with h1 h2
        subst h1
        exact ⟨few_zero,fun _=>rfl⟩
  · injection h with h1 h2
    subst h1
    exact ⟨few_zero,fun _=>rfl⟩
theorem famP_few {k:Nat} {dir:Int} {b:List Int} {M:Msg} {E:Int} (hr:∀ x,x∈b→0≤x∧x < 256) (hl:b.length≤253) (h:famP k dir b=(M,E)) : MsgFew M∧(E ≠ 0→M=Msg.zero):=by
  have hr':∀ x,x∈b.drop 1→0≤x∧x < 256:=fun x hx=>hr x (List.mem_of_mem_drop hx)
  have hl':(b.drop 1).length≤252:=by rw [List.length_drop]; omega
  unfold famP at h
  split at h
  · exact parse_few1 (fun _ _ hl h _=>coils_few hl h) hr' hl' h
  · exact parse_few1 (fun _ _ hl h _=>regs_few hl h) hr' hl' h
  · exact parse_few1 (fun _ _ hl h _=>diag_few hl h) hr' hl' h
  · exact parse_few1 files_few hr' hl' h
  · exact parse_few1 mei_few hr' hl' h
  · injection h with h1 h2
    subst h1
    exact ⟨few_zero,fun _=>rfl⟩
theorem refP_few {b:List Int} {M:Msg} {E:Int} (h:refP b=(M,E)) : MsgFew M∧(E ≠ 0→M=Msg.zero):=by
  unfold refP at h
  repeat' split at h
  all_goals (injection h with h1 h2; subst h1)
  all_goals first | exact ⟨few_zero,fun _=>rfl⟩ | exact ⟨few_nil _ rfl rfl rfl rfl rfl,fun hE=>absurd h2.symm hE⟩
theorem pduP_few {dir:Int} {b:List Int} {M:Msg} {E:Int} (hr:∀ x,x∈b→0≤x∧x < 256) (h:pduP dir b=(M,E)) : MsgFew M∧(E ≠ 0→M=Msg.zero):=by
  unfold pduP at h
  split at h
  · injection h with h1 h2; subst h1; exact ⟨few_zero,fun _=>rfl⟩
  split at h
  · injection h with h1 h2; subst h1; exact ⟨few_zero,fun _=>rfl⟩
  split at h
  · injection h with h1 h2; subst h1; exact ⟨few_zero,fun _=>rfl⟩
  rename_i h3
  simp only [decide_eq_true_eq] at h3
  split at h
  · exact refP_few h
  · exact famP_few hr (by omega) h
end Go.Proofs.YtgjlbabefogepaaGreat
