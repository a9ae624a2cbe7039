/- The statement AduLengths holds; no condition of its own. -/
import Derived.Test.YtpglhicfhppaiaaGreatKA1
import Derived.Test.YtpglhicfhppaiaaGreatKA2
import Derived.Test.YtpglhicfhppaiaaGreatKA3
import Derived.Test.YtpglhicfhppaiaaGreatKA4
import Derived.Test.YtpglhicfhppaiaaGreatKA5
import Derived.Test.YtpglhicfhppaiaaGreatKB1
import Derived.Test.YtpglhicfhppaiaaGreatKB2
import Derived.Test.YtpglhicfhppaiaaGreatRows
import Derived.WalkKit
import Derived.ProofKit
import Derived.OpenShut
import Derived.ShutString
import Derived.ChangeOld
import Derived.Below
set_option linter.unusedVariables false
set_option linter.unusedSimpArgs false
namespace Go.Proofs.YtpglhicfhppaiaaGreat
open Go.RowKit
set_option maxRecDepth 100000 in
set_option maxHeartbeats 4000000 in
theorem lawAduLengths {w:World} {ans:Bool} {u t:Int} {M:Msg} {xM:SL} {mM:Bool} (hM:MsgRd mM w (mcl M xM).toList M) (hbu:0≤u∧u < 256) (hbt:0≤t∧t < 65536) :
    Calls Tryz.prog 5 #[.bool ans,.agg (fcl u t M xM)] w (PVal (.bool true) w):=by
 have hRM:=hM.rngs
 obtain ⟨hcM,hdM⟩:=hRM
 refine en 91 Tryz.func5 rfl<|sg<|L0<|Obx (fcl u t M xM) fun g10 w11 hg12 B13 hu14=>Pl 1<|ng<|L0<|Oc<|m1 (@awake18 _) fun w15 hu16=>Pl 1<|nt<|sq<|?_
 refine go<|Pl 1<|?_
 have r17:=ub hu16 B13
 refine L0<|Ola r17 2 22<|?_
 have U18:=ut0 hu14 hu16
 have r19:=MsgRd.old hM U18
 refine L0<|Oc<|m1 (few_any r19) fun w20 hu21=>Pl 1<|nt<|sq<|sg<|Pl 2<|nt<|?_
 have U22:=ut0 U18 hu21
 refine cb ((!(fewB M))) (fun q23=>?_) (fun q23=>?_)
 have q23n:(fewB M)=false:=by simpa using q23
 refine sg<|Pl 2<|nt<|rt<|tr<|rr (.bool true)<|?_
 exact ⟨rfl,U22⟩
 have q23n:(fewB M)=true:=by simpa using q23
 refine skn<|sg<|Pl 1<|nt<|sq<|sg<|Pl 1<|nt<|cb (ans) (fun q24=>?_) (fun q24=>?_)
 refine go<|Pl 1<|ng<|Pl 2<|?_
 have r25:=ub hu21 r17
 refine L0<|Ost r25 1 (fcl u 0 M xM) fun w26 B27 hu28=>ng<|Pl 1<|L0<|Olw B27<|?_
 have U29:=u1 (Upd.mono (S':=[g10]) hu21 all0) hu28 im
 have U30:=u1 U22 hu28 (nr hg12)
 have r31:=MsgRd.old hM U30
 refine wo (aduW 0 1 u 0 M) (fun hX33=>?_) (fun l32 hX33=>?_)
 refine L0<|Oc (args:=#[.int .i64 0,.int .i64 1,.agg (fcl u 0 M xM)])<|m1 (adu_write_n r31 (fewB_few q23n) (by omega) (by omega) hX33) fun w34 hu35=>Pl 5<|ng<|Pl 1<|?_
 have r36:=ub hu35 B27
 refine L0<|Olw r36<|?_
 have r37:=MsgRd.old r31 hu35
 have U40:=ut0 U30 hu35
 refine wo (aduW 1 1 u 0 M) (fun hX39=>?_) (fun l38 hX39=>?_)
 refine L0<|Oc (args:=#[.int .i64 1,.int .i64 1,.agg (fcl u 0 M xM)])<|m1 (adu_write_n r37 (fewB_few q23n) (by omega) (by omega) hX39) fun w41 hu42=>Pl 5<|ng<|Pl 1<|?_
 have r43:=ub hu42 r36
 refine L0<|Olw r43<|?_
 have r44:=MsgRd.old r37 hu42
 have U47:=ut0 U40 hu42
 refine wo (aduW 2 1 u 0 M) (fun hX46=>?_) (fun l45 hX46=>?_)
 refine L0<|Oc (args:=#[.int .i64 2,.int .i64 1,.agg (fcl u 0 M xM)])<|m1 (adu_write_n r44 (fewB_few q23n) (by omega) (by omega) hX46) fun w48 hu49=>Pl 5<|nt<|sq<|sg<|Pl 10<|nt<|c1<|sg<|Pl 12<|nl<|?_
 refine tn<|rt<|tr<|rr (.bool true)<|?_
 have U50:=ut0 U47 hu49
 exact ⟨rfl,U50⟩
 have hl51:=aduW_le (r44.rngs).1 hX46
 refine L0<|Oc (args:=#[.int .i64 2,.int .i64 1,.agg (fcl u 0 M xM)])<|e2 (adu_write_s r44 (fewB_few q23n) (by omega) (by omega) hX46) fun v53 w52 ho54 hu55=>?_
 obtain ⟨A56,cp57,rfl,rd59,hg60⟩:=NewB.shape ho54
 refine Pl 5<|nt<|sq<|sg<|Pl 10<|nt<|c1<|sg<|Pl 12<|nl<|?_
 refine tn<|rt<|tr<|rr (.bool false)<|?_
 have hs:false=true:=(adu_all hX46 (by decide) (fun _=>rfl) hX33).elim
 rw [hs]
 have U61:=ut0 U47 hu55
 exact ⟨rfl,U61⟩
 have hl62:=aduW_le (r37.rngs).1 hX39
 refine L0<|Oc (args:=#[.int .i64 1,.int .i64 1,.agg (fcl u 0 M xM)])<|e2 (adu_write_s r37 (fewB_few q23n) (by omega) (by omega) hX39) fun v64 w63 ho65 hu66=>?_
 obtain ⟨A67,cp68,rfl,rd70,hg71⟩:=NewB.shape ho65
 refine Pl 5<|ng<|Pl 1<|?_
 have r72:=ub hu66 r36
 refine L0<|Olw r72<|?_
 have r73:=MsgRd.old r37 hu66
 have U76:=ut0 U40 hu66
 refine wo (aduW 2 1 u 0 M) (fun hX75=>?_) (fun l74 hX75=>?_)
 refine L0<|Oc (args:=#[.int .i64 2,.int .i64 1,.agg (fcl u 0 M xM)])<|m1 (adu_write_n r73 (fewB_few q23n) (by omega) (by omega) hX75) fun w77 hu78=>Pl 5<|nt<|sq<|sg<|Pl 10<|nt<|c1<|sg<|Pl 12<|nl<|?_
 refine tn<|rt<|tr<|rr (.bool false)<|?_
 have hs:false=true:=(adu_all hX39 (by decide) (fun _=>rfl) hX33).elim
 rw [hs]
 have U79:=ut0 U76 hu78
 exact ⟨rfl,U79⟩
 have hl80:=aduW_le (r73.rngs).1 hX75
 refine L0<|Oc (args:=#[.int .i64 2,.int .i64 1,.agg (fcl u 0 M xM)])<|e2 (adu_write_s r73 (fewB_few q23n) (by omega) (by omega) hX75) fun v82 w81 ho83 hu84=>?_
 obtain ⟨A85,cp86,rfl,rd88,hg89⟩:=NewB.shape ho83
 refine Pl 5<|nt<|sq<|sg<|Pl 10<|nt<|c1<|sg<|Pl 12<|nl<|?_
 refine tn<|rt<|tr<|rr (.bool false)<|?_
 have hs:false=true:=(adu_all hX39 (by decide) (fun _=>rfl) hX33).elim
 rw [hs]
 have U90:=ut0 U76 hu84
 exact ⟨rfl,U90⟩
 have hl91:=aduW_le (r31.rngs).1 hX33
 refine L0<|Oc (args:=#[.int .i64 0,.int .i64 1,.agg (fcl u 0 M xM)])<|e2 (adu_write_s r31 (fewB_few q23n) (by omega) (by omega) hX33) fun v93 w92 ho94 hu95=>?_
 obtain ⟨A96,cp97,rfl,rd99,hg100⟩:=NewB.shape ho94
 refine Pl 5<|ng<|Pl 1<|?_
 have r101:=ub hu95 B27
 refine L0<|Olw r101<|?_
 have r102:=MsgRd.old r31 hu95
 have U105:=ut0 U30 hu95
 refine wo (aduW 1 1 u 0 M) (fun hX104=>?_) (fun l103 hX104=>?_)
 refine L0<|Oc (args:=#[.int .i64 1,.int .i64 1,.agg (fcl u 0 M xM)])<|m1 (adu_write_n r102 (fewB_few q23n) (by omega) (by omega) hX104) fun w106 hu107=>Pl 5<|ng<|Pl 1<|?_
 have r108:=ub hu107 r101
 refine L0<|Olw r108<|?_
 have r109:=MsgRd.old r102 hu107
 have U112:=ut0 U105 hu107
 refine wo (aduW 2 1 u 0 M) (fun hX111=>?_) (fun l110 hX111=>?_)
 refine L0<|Oc (args:=#[.int .i64 2,.int .i64 1,.agg (fcl u 0 M xM)])<|m1 (adu_write_n r109 (fewB_few q23n) (by omega) (by omega) hX111) fun w113 hu114=>Pl 5<|nt<|sq<|sg<|Pl 10<|nt<|c1<|sg<|Pl 12<|nl<|?_
 refine tn<|rt<|tr<|rr (.bool false)<|?_
 have hs:false=true:=(adu_all hX33 (by decide) (fun _=>rfl) hX104).elim
 rw [hs]
 have U115:=ut0 U112 hu114
 exact ⟨rfl,U115⟩
 have hl116:=aduW_le (r109.rngs).1 hX111
 refine L0<|Oc (args:=#[.int .i64 2,.int .i64 1,.agg (fcl u 0 M xM)])<|e2 (adu_write_s r109 (fewB_few q23n) (by omega) (by omega) hX111) fun v118 w117 ho119 hu120=>?_
 obtain ⟨A121,cp122,rfl,rd124,hg125⟩:=NewB.shape ho119
 refine Pl 5<|nt<|sq<|sg<|Pl 10<|nt<|c1<|sg<|Pl 12<|nl<|?_
 refine tn<|rt<|tr<|rr (.bool false)<|?_
 have hs:false=true:=(adu_all hX33 (by decide) (fun _=>rfl) hX104).elim
 rw [hs]
 have U126:=ut0 U112 hu120
 exact ⟨rfl,U126⟩
 have hl127:=aduW_le (r102.rngs).1 hX104
 refine L0<|Oc (args:=#[.int .i64 1,.int .i64 1,.agg (fcl u 0 M xM)])<|e2 (adu_write_s r102 (fewB_few q23n) (by omega) (by omega) hX104) fun v129 w128 ho130 hu131=>?_
 obtain ⟨A132,cp133,rfl,rd135,hg136⟩:=NewB.shape ho130
 refine Pl 5<|ng<|Pl 1<|?_
 have r137:=ub hu131 r101
 refine L0<|Olw r137<|?_
 have r138:=MsgRd.old r102 hu131
 have U141:=ut0 U105 hu131
 refine wo (aduW 2 1 u 0 M) (fun hX140=>?_) (fun l139 hX140=>?_)
 refine L0<|Oc (args:=#[.int .i64 2,.int .i64 1,.agg (fcl u 0 M xM)])<|m1 (adu_write_n r138 (fewB_few q23n) (by omega) (by omega) hX140) fun w142 hu143=>Pl 5<|nt<|sq<|sg<|Pl 10<|nt<|c1<|sg<|Pl 12<|nl<|?_
 refine tn<|rt<|tr<|rr (.bool false)<|?_
 have hs:false=true:=(adu_all hX33 (by decide) (fun _=>rfl) hX140).elim
 rw [hs]
 have U144:=ut0 U141 hu143
 exact ⟨rfl,U144⟩
 have hl145:=aduW_le (r138.rngs).1 hX140
 refine L0<|Oc (args:=#[.int .i64 2,.int .i64 1,.agg (fcl u 0 M xM)])<|e2 (adu_write_s r138 (fewB_few q23n) (by omega) (by omega) hX140) fun v147 w146 ho148 hu149=>?_
 obtain ⟨A150,cp151,rfl,rd153,hg154⟩:=NewB.shape ho148
 refine Pl 5<|nt<|sq<|sg<|Pl 10<|nt<|c0<|skn<|sg<|?_
 refine Pl 2<|L0<|Oi (((l32.length:Nat) : Int) - 3)<|Pl 1<|ng<|Pl 5<|L1<|Oi (2 * (((l32.length:Nat) : Int) - 3))<|L1<|Oi ((2 * (((l32.length:Nat) : Int) - 3)) + 7)<|Pl 3<|cu 6 [76] 82 (((((l103.length:Nat) : Int) == ((2 * (((l32.length:Nat) : Int) - 3)) + 7)) && (((l139.length:Nat) : Int) == ((((l32.length:Nat) : Int) - 3) + 7)))) (fun K K156=>?_) ?_
 refine bl 76 ((((l103.length:Nat) : Int) == ((2 * (((l32.length:Nat) : Int) - 3)) + 7))) (fun q155=>?_) (fun q155=>?_)
 have q155p:=eq_of_beqi q155
 exact Pl 3<|L1<|Oi ((((l32.length:Nat) : Int) - 3) + 7)<|Pl 2<|ce K156 (((l139.length:Nat) : Int) == ((((l32.length:Nat) : Int) - 3) + 7)) (by rw [q155]; rfl)
 have q155p:=ne_of_beqi q155
 exact Pl 6<|ce K156 false (by rw [q155]; rfl)
 refine Pl 1<|cu 3 [83] 86 ((((((l103.length:Nat) : Int) == ((2 * (((l32.length:Nat) : Int) - 3)) + 7)) && (((l139.length:Nat) : Int) == ((((l32.length:Nat) : Int) - 3) + 7))) && (decide (1≤(((l32.length:Nat) : Int) - 3))))) (fun K K158=>?_) ?_
 refine bl 83 (((((l103.length:Nat) : Int) == ((2 * (((l32.length:Nat) : Int) - 3)) + 7)) && (((l139.length:Nat) : Int) == ((((l32.length:Nat) : Int) - 3) + 7)))) (fun q157=>?_) (fun q157=>?_)
 have q157a:=(and_t q157).1
 have q157b:=(and_t q157).2
 have q157ap:=eq_of_beqi q157a
 have q157bp:=eq_of_beqi q157b
 exact Pl 3<|ce K158 (decide (1≤(((l32.length:Nat) : Int) - 3))) (by rw [q157]; rfl)
 exact Pl 3<|ce K158 false (by rw [q157]; rfl)
 refine Pl 1<|cu 3 [87] 90 (((((((l103.length:Nat) : Int) == ((2 * (((l32.length:Nat) : Int) - 3)) + 7)) && (((l139.length:Nat) : Int) == ((((l32.length:Nat) : Int) - 3) + 7))) && (decide (1≤(((l32.length:Nat) : Int) - 3)))) && (decide ((((l32.length:Nat) : Int) - 3)≤253)))) (fun K K160=>?_) ?_
 refine bl 87 ((((((l103.length:Nat) : Int) == ((2 * (((l32.length:Nat) : Int) - 3)) + 7)) && (((l139.length:Nat) : Int) == ((((l32.length:Nat) : Int) - 3) + 7))) && (decide (1≤(((l32.length:Nat) : Int) - 3))))) (fun q159=>?_) (fun q159=>?_)
 have q159a:=(and_t q159).1
 have q159b:=(and_t q159).2
 have q159aa:=(and_t q159a).1
 have q159ab:=(and_t q159a).2
 have q159aap:=eq_of_beqi q159aa
 have q159abp:=eq_of_beqi q159ab
 have q159bp:=of_decide_eq_true q159b
 exact Pl 3<|ce K160 (decide ((((l32.length:Nat) : Int) - 3)≤253)) (by rw [q159]; rfl)
 exact Pl 3<|ce K160 false (by rw [q159]; rfl)
 refine Pl 1<|nt<|rt<|rr (.bool ((((((l103.length:Nat) : Int) == ((2 * (((l32.length:Nat) : Int) - 3)) + 7)) && (((l139.length:Nat) : Int) == ((((l32.length:Nat) : Int) - 3) + 7))) && (decide (1≤(((l32.length:Nat) : Int) - 3)))) && (decide ((((l32.length:Nat) : Int) - 3)≤253))))<|?_
 have hs:((((((l103.length:Nat) : Int) == ((2 * (((l32.length:Nat) : Int) - 3)) + 7)) && (((l139.length:Nat) : Int) == ((((l32.length:Nat) : Int) - 3) + 7))) && (decide (1≤(((l32.length:Nat) : Int) - 3)))) && (decide ((((l32.length:Nat) : Int) - 3)≤253)))=true:=by obtain ⟨z1,z2,z3,z4⟩:=adu_lens hcM hX33 hX104 hX140; simp only [Bool.and_eq_true,beq_iff_eq,decide_eq_true_eq]; omega
 rw [hs]
 have U161:=ut0 U141 hu149
 exact ⟨rfl,U161⟩
 refine skn<|sg<|Pl 2<|?_
 have r162:=ub hu21 r17
 refine L0<|Ost r162 1 (fcl u 0 M xM) fun w163 B164 hu165=>ng<|Pl 1<|L0<|Olw B164<|?_
 have U166:=u1 (Upd.mono (S':=[g10]) hu21 all0) hu165 im
 have U167:=u1 U22 hu165 (nr hg12)
 have r168:=MsgRd.old hM U167
 refine wo (aduW 0 0 u 0 M) (fun hX170=>?_) (fun l169 hX170=>?_)
 refine L0<|Oc (args:=#[.int .i64 0,.int .i64 0,.agg (fcl u 0 M xM)])<|m1 (adu_write_n r168 (fewB_few q23n) (by omega) (by omega) hX170) fun w171 hu172=>Pl 5<|ng<|Pl 1<|?_
 have r173:=ub hu172 B164
 refine L0<|Olw r173<|?_
 have r174:=MsgRd.old r168 hu172
 have U177:=ut0 U167 hu172
 refine wo (aduW 1 0 u 0 M) (fun hX176=>?_) (fun l175 hX176=>?_)
 refine L0<|Oc (args:=#[.int .i64 1,.int .i64 0,.agg (fcl u 0 M xM)])<|m1 (adu_write_n r174 (fewB_few q23n) (by omega) (by omega) hX176) fun w178 hu179=>Pl 5<|ng<|Pl 1<|?_
 have r180:=ub hu179 r173
 refine L0<|Olw r180<|?_
 have r181:=MsgRd.old r174 hu179
 have U184:=ut0 U177 hu179
 refine wo (aduW 2 0 u 0 M) (fun hX183=>?_) (fun l182 hX183=>?_)
 refine L0<|Oc (args:=#[.int .i64 2,.int .i64 0,.agg (fcl u 0 M xM)])<|m1 (adu_write_n r181 (fewB_few q23n) (by omega) (by omega) hX183) fun w185 hu186=>Pl 5<|nt<|sq<|sg<|Pl 10<|nt<|c1<|sg<|Pl 12<|nl<|?_
 refine tn<|rt<|tr<|rr (.bool true)<|?_
 have U187:=ut0 U184 hu186
 exact ⟨rfl,U187⟩
 have hl188:=aduW_le (r181.rngs).1 hX183
 refine L0<|Oc (args:=#[.int .i64 2,.int .i64 0,.agg (fcl u 0 M xM)])<|e2 (adu_write_s r181 (fewB_few q23n) (by omega) (by omega) hX183) fun v190 w189 ho191 hu192=>?_
 obtain ⟨A193,cp194,rfl,rd196,hg197⟩:=NewB.shape ho191
 refine Pl 5<|nt<|sq<|sg<|Pl 10<|nt<|c1<|sg<|Pl 12<|nl<|?_
 refine tn<|rt<|tr<|rr (.bool false)<|?_
 have hs:false=true:=(adu_all hX183 (by decide) (fun _=>rfl) hX170).elim
 rw [hs]
 have U198:=ut0 U184 hu192
 exact ⟨rfl,U198⟩
 have hl199:=aduW_le (r174.rngs).1 hX176
 refine L0<|Oc (args:=#[.int .i64 1,.int .i64 0,.agg (fcl u 0 M xM)])<|e2 (adu_write_s r174 (fewB_few q23n) (by omega) (by omega) hX176) fun v201 w200 ho202 hu203=>?_
 obtain ⟨A204,cp205,rfl,rd207,hg208⟩:=NewB.shape ho202
 refine Pl 5<|ng<|Pl 1<|?_
 have r209:=ub hu203 r173
 refine L0<|Olw r209<|?_
 have r210:=MsgRd.old r174 hu203
 have U213:=ut0 U177 hu203
 refine wo (aduW 2 0 u 0 M) (fun hX212=>?_) (fun l211 hX212=>?_)
 refine L0<|Oc (args:=#[.int .i64 2,.int .i64 0,.agg (fcl u 0 M xM)])<|m1 (adu_write_n r210 (fewB_few q23n) (by omega) (by omega) hX212) fun w214 hu215=>Pl 5<|nt<|sq<|sg<|Pl 10<|nt<|c1<|sg<|Pl 12<|nl<|?_
 refine tn<|rt<|tr<|rr (.bool false)<|?_
 have hs:false=true:=(adu_all hX176 (by decide) (fun _=>rfl) hX170).elim
 rw [hs]
 have U216:=ut0 U213 hu215
 exact ⟨rfl,U216⟩
 have hl217:=aduW_le (r210.rngs).1 hX212
 refine L0<|Oc (args:=#[.int .i64 2,.int .i64 0,.agg (fcl u 0 M xM)])<|e2 (adu_write_s r210 (fewB_few q23n) (by omega) (by omega) hX212) fun v219 w218 ho220 hu221=>?_
 obtain ⟨A222,cp223,rfl,rd225,hg226⟩:=NewB.shape ho220
 refine Pl 5<|nt<|sq<|sg<|Pl 10<|nt<|c1<|sg<|Pl 12<|nl<|?_
 refine tn<|rt<|tr<|rr (.bool false)<|?_
 have hs:false=true:=(adu_all hX176 (by decide) (fun _=>rfl) hX170).elim
 rw [hs]
 have U227:=ut0 U213 hu221
 exact ⟨rfl,U227⟩
 have hl228:=aduW_le (r168.rngs).1 hX170
 refine L0<|Oc (args:=#[.int .i64 0,.int .i64 0,.agg (fcl u 0 M xM)])<|e2 (adu_write_s r168 (fewB_few q23n) (by omega) (by omega) hX170) fun v230 w229 ho231 hu232=>?_
 obtain ⟨A233,cp234,rfl,rd236,hg237⟩:=NewB.shape ho231
 refine Pl 5<|ng<|Pl 1<|?_
 have r238:=ub hu232 B164
 refine L0<|Olw r238<|?_
 have r239:=MsgRd.old r168 hu232
 have U242:=ut0 U167 hu232
 refine wo (aduW 1 0 u 0 M) (fun hX241=>?_) (fun l240 hX241=>?_)
 refine L0<|Oc (args:=#[.int .i64 1,.int .i64 0,.agg (fcl u 0 M xM)])<|m1 (adu_write_n r239 (fewB_few q23n) (by omega) (by omega) hX241) fun w243 hu244=>Pl 5<|ng<|Pl 1<|?_
 have r245:=ub hu244 r238
 refine L0<|Olw r245<|?_
 have r246:=MsgRd.old r239 hu244
 have U249:=ut0 U242 hu244
 refine wo (aduW 2 0 u 0 M) (fun hX248=>?_) (fun l247 hX248=>?_)
 refine L0<|Oc (args:=#[.int .i64 2,.int .i64 0,.agg (fcl u 0 M xM)])<|m1 (adu_write_n r246 (fewB_few q23n) (by omega) (by omega) hX248) fun w250 hu251=>Pl 5<|nt<|sq<|sg<|Pl 10<|nt<|c1<|sg<|Pl 12<|nl<|?_
 refine tn<|rt<|tr<|rr (.bool false)<|?_
 have hs:false=true:=(adu_all hX170 (by decide) (fun _=>rfl) hX241).elim
 rw [hs]
 have U252:=ut0 U249 hu251
 exact ⟨rfl,U252⟩
 have hl253:=aduW_le (r246.rngs).1 hX248
 refine L0<|Oc (args:=#[.int .i64 2,.int .i64 0,.agg (fcl u 0 M xM)])<|e2 (adu_write_s r246 (fewB_few q23n) (by omega) (by omega) hX248) fun v255 w254 ho256 hu257=>?_
 obtain ⟨A258,cp259,rfl,rd261,hg262⟩:=NewB.shape ho256
 refine Pl 5<|nt<|sq<|sg<|Pl 10<|nt<|c1<|sg<|Pl 12<|nl<|?_
 refine tn<|rt<|tr<|rr (.bool false)<|?_
 have hs:false=true:=(adu_all hX170 (by decide) (fun _=>rfl) hX241).elim
 rw [hs]
 have U263:=ut0 U249 hu257
 exact ⟨rfl,U263⟩
 have hl264:=aduW_le (r239.rngs).1 hX241
 refine L0<|Oc (args:=#[.int .i64 1,.int .i64 0,.agg (fcl u 0 M xM)])<|e2 (adu_write_s r239 (fewB_few q23n) (by omega) (by omega) hX241) fun v266 w265 ho267 hu268=>?_
 obtain ⟨A269,cp270,rfl,rd272,hg273⟩:=NewB.shape ho267
 refine Pl 5<|ng<|Pl 1<|?_
 have r274:=ub hu268 r238
 refine L0<|Olw r274<|?_
 have r275:=MsgRd.old r239 hu268
 have U278:=ut0 U242 hu268
 refine wo (aduW 2 0 u 0 M) (fun hX277=>?_) (fun l276 hX277=>?_)
 refine L0<|Oc (args:=#[.int .i64 2,.int .i64 0,.agg (fcl u 0 M xM)])<|m1 (adu_write_n r275 (fewB_few q23n) (by omega) (by omega) hX277) fun w279 hu280=>Pl 5<|nt<|sq<|sg<|Pl 10<|nt<|c1<|sg<|Pl 12<|nl<|?_
 refine tn<|rt<|tr<|rr (.bool false)<|?_
 have hs:false=true:=(adu_all hX170 (by decide) (fun _=>rfl) hX277).elim
 rw [hs]
 have U281:=ut0 U278 hu280
 exact ⟨rfl,U281⟩
 have hl282:=aduW_le (r275.rngs).1 hX277
 refine L0<|Oc (args:=#[.int .i64 2,.int .i64 0,.agg (fcl u 0 M xM)])<|e2 (adu_write_s r275 (fewB_few q23n) (by omega) (by omega) hX277) fun v284 w283 ho285 hu286=>?_
 obtain ⟨A287,cp288,rfl,rd290,hg291⟩:=NewB.shape ho285
 refine Pl 5<|nt<|sq<|sg<|Pl 10<|nt<|c0<|skn<|sg<|?_
 refine Pl 2<|L0<|Oi (((l169.length:Nat) : Int) - 3)<|Pl 1<|ng<|Pl 5<|L1<|Oi (2 * (((l169.length:Nat) : Int) - 3))<|L1<|Oi ((2 * (((l169.length:Nat) : Int) - 3)) + 7)<|Pl 3<|cu 6 [76] 82 (((((l240.length:Nat) : Int) == ((2 * (((l169.length:Nat) : Int) - 3)) + 7)) && (((l276.length:Nat) : Int) == ((((l169.length:Nat) : Int) - 3) + 7)))) (fun K K293=>?_) ?_
 refine bl 76 ((((l240.length:Nat) : Int) == ((2 * (((l169.length:Nat) : Int) - 3)) + 7))) (fun q292=>?_) (fun q292=>?_)
 have q292p:=eq_of_beqi q292
 exact Pl 3<|L1<|Oi ((((l169.length:Nat) : Int) - 3) + 7)<|Pl 2<|ce K293 (((l276.length:Nat) : Int) == ((((l169.length:Nat) : Int) - 3) + 7)) (by rw [q292]; rfl)
 have q292p:=ne_of_beqi q292
 exact Pl 6<|ce K293 false (by rw [q292]; rfl)
 refine Pl 1<|cu 3 [83] 86 ((((((l240.length:Nat) : Int) == ((2 * (((l169.length:Nat) : Int) - 3)) + 7)) && (((l276.length:Nat) : Int) == ((((l169.length:Nat) : Int) - 3) + 7))) && (decide (1≤(((l169.length:Nat) : Int) - 3))))) (fun K K295=>?_) ?_
 refine bl 83 (((((l240.length:Nat) : Int) == ((2 * (((l169.length:Nat) : Int) - 3)) + 7)) && (((l276.length:Nat) : Int) == ((((l169.length:Nat) : Int) - 3) + 7)))) (fun q294=>?_) (fun q294=>?_)
 have q294a:=(and_t q294).1
 have q294b:=(and_t q294).2
 have q294ap:=eq_of_beqi q294a
 have q294bp:=eq_of_beqi q294b
 exact Pl 3<|ce K295 (decide (1≤(((l169.length:Nat) : Int) - 3))) (by rw [q294]; rfl)
 exact Pl 3<|ce K295 false (by rw [q294]; rfl)
 refine Pl 1<|cu 3 [87] 90 (((((((l240.length:Nat) : Int) == ((2 * (((l169.length:Nat) : Int) - 3)) + 7)) && (((l276.length:Nat) : Int) == ((((l169.length:Nat) : Int) - 3) + 7))) && (decide (1≤(((l169.length:Nat) : Int) - 3)))) && (decide ((((l169.length:Nat) : Int) - 3)≤253)))) (fun K K297=>?_) ?_
 refine bl 87 ((((((l240.length:Nat) : Int) == ((2 * (((l169.length:Nat) : Int) - 3)) + 7)) && (((l276.length:Nat) : Int) == ((((l169.length:Nat) : Int) - 3) + 7))) && (decide (1≤(((l169.length:Nat) : Int) - 3))))) (fun q296=>?_) (fun q296=>?_)
 have q296a:=(and_t q296).1
 have q296b:=(and_t q296).2
 have q296aa:=(and_t q296a).1
 have q296ab:=(and_t q296a).2
 have q296aap:=eq_of_beqi q296aa
 have q296abp:=eq_of_beqi q296ab
 have q296bp:=of_decide_eq_true q296b
 exact Pl 3<|ce K297 (decide ((((l169.length:Nat) : Int) - 3)≤253)) (by rw [q296]; rfl)
 exact Pl 3<|ce K297 false (by rw [q296]; rfl)
 refine Pl 1<|nt<|rt<|rr (.bool ((((((l240.length:Nat) : Int) == ((2 * (((l169.length:Nat) : Int) - 3)) + 7)) && (((l276.length:Nat) : Int) == ((((l169.length:Nat) : Int) - 3) + 7))) && (decide (1≤(((l169.length:Nat) : Int) - 3)))) && (decide ((((l169.length:Nat) : Int) - 3)≤253))))<|?_
 have hs:((((((l240.length:Nat) : Int) == ((2 * (((l169.length:Nat) : Int) - 3)) + 7)) && (((l276.length:Nat) : Int) == ((((l169.length:Nat) : Int) - 3) + 7))) && (decide (1≤(((l169.length:Nat) : Int) - 3)))) && (decide ((((l169.length:Nat) : Int) - 3)≤253)))=true:=by obtain ⟨z1,z2,z3,z4⟩:=adu_lens hcM hX170 hX241 hX277; simp only [Bool.and_eq_true,beq_iff_eq,decide_eq_true_eq]; omega
 rw [hs]
 have U298:=ut0 U278 hu286
 exact ⟨rfl,U298⟩
end Go.Proofs.YtpglhicfhppaiaaGreat
namespace Go.Proofs.YtpglhicfhppaiaaGreat
open Go.ChangeShapes Go.WideShapes Go.ChangeAt Go.RowKit
theorem own:ownKnob Tryz.prog.godebug=none:=by kernel_rfl
theorem laidOut:laidOutB Tryz.prog=true:=by kernel_rfl
set_option maxRecDepth 100000 in
theorem lifted (os:Os) (started:os.Started) (H:Type) (enc:TypeId × Value→H) :
    ReturnsInHanded {} Tryz.checked os 5 .any (Rows.aduLengthsSpec.pre6 enc Tryz.prog Tryz.f5 Rows.aduLengthsRow.domain false) (Rows.aduLengthsSpec.post enc Tryz.prog Tryz.f5 false true false false):=by
  refine returnsInHanded_of_change (C:=Tryz.checked) own started (by kernel_rfl) Tryz.func5
    (ChangeSpec.witness6 (enc:=enc) (C:=Tryz.checked) false ⟨#[],#[.bool false,.agg #[.int .u8 0,.int .u16 0,.int .u8 0,.int .u8 0,.int .u16 0,.int .u16 0,.int .u16 0,.int .u16 0,.int .u16 0,.int .u16 0,.int .u16 0,.int .u16 0,.int .u16 0,.int .u16 0,.slice none 0 0,.slice none 0 0,.slice none 0 0,.slice none 0 0,.int .u8 0,.int .u8 0,.int .u8 0,.int .u8 0,.int .u8 0,.slice none 0 0]],[]⟩ 8 (by kernel_rfl) (by kernel_rfl) (by kernel_rfl) (by kernel_rfl)) ?_
  intro W base args ds gs before hval0 hW hcnd _
  have hval:∀ (j:Nat) t v,Tryz.f5.params[j]? = some t→args[j]? = some v→Value.okWide Tryz.prog W .any base t v:=hval0
  have hW':=hW
  obtain ⟨p,q,hA0,hV,rfl,hfz,hnd⟩:=hW
  have hA:DataW.TrodAll enc Tryz.prog W 0 (fun _=>true) true Tryz.f5.params.toList args.toList ds p:=hA0
  rw [Tryz.params5] at hA hval
  obtain ⟨v0,vs0,d0,ds0,p0,q0,hargs,rfl,rfl,h0,r0⟩:=trodAll_cons hA
  obtain ⟨v1,vs1,d1,ds1,p1,q1,rfl,rfl,rfl,h1,r1⟩:=trodAll_cons r0
  obtain ⟨rfl,rfl,rfl⟩:=trodAll_nil r1
  obtain rfl:args = #[v0,v1]:=by cases args; simp_all
  obtain ⟨rfl,rfl⟩:=trodVars_none hV
  obtain ⟨a0,rfl,rfl,rfl⟩:=open_bool Tryz.underlying4 (hval 0 4 v0 rfl rfl) h0
  have k1:=h1
  have lt1:∀ x∈p1,x.block < W.heap.size:=by obtain ⟨m,hm⟩:=k1; exact DataW.trod_lt m _ _ _ hm
  obtain ⟨u1,t1,M1,x1,rfl,R1,bu1,bt1⟩:=frm_arg ⟨_,hval 1 33 v1 rfl rfl⟩ h1
  clear hA0 hval0
  refine (lawAduLengths (ans:=a0) R1 bu1 bt1).mono fun e W' ⟨he,hu⟩=>?_
  have bel:=upd_below hu
  subst he
  exact ⟨_,rfl,_,_,_,[],_,[],hW',trodAll_mk1 (shut_bool Tryz.underlying4 _),(trodAll_cons_mk (shut_bool Tryz.underlying4 _) (trodAll_cons_mk (Below.trod laidOut (by kernel_rfl) (of_decide_eq_true (by kernel_rfl)) k1 bel lt1) trodAll_mk0)),rfl,bel.frame _,fun h=>by cases h⟩
theorem over:Rows.aduLengthsRow.holds Tryz.pinned (OpenSpec.ofChange Rows.aduLengthsSpec) :=
  OpenClaim.holds_of_wide 5 Tryz.f5 rfl rfl rfl rfl rfl rfl rfl ⟨rfl,rfl,rfl,rfl,rfl⟩ rfl rfl rfl rfl rfl (by kernel_rfl) Tryz.func5 (by kernel_rfl)
    (of_decide_eq_true (by kernel_rfl)) (by unfold Func.isWrapper; first | (rw [if_pos (by decide +kernel)]; kernel_rfl) | (rw [if_neg (by decide +kernel)]; exact ⟨rfl,rfl⟩))
    (fun os started H enc _=>lifted os started H enc)
theorem proved:Rows.AduLengthsSaid:=over
#print axioms proved
end Go.Proofs.YtpglhicfhppaiaaGreat
