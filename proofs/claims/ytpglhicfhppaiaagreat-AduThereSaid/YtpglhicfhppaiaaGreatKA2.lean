/- Contracts of functions, part KA2. -/
import Derived.Test.YtpglhicfhppaiaaGreatKA1
import Derived.Laws.BytesArg
import Derived.Stop.BytesEq
set_option linter.unusedVariables false
set_option linter.unusedSimpArgs false
namespace Go.Proofs.YtpglhicfhppaiaaGreat
open Go.RowKit
def fewB (M:Msg) : Bool:=(((((decide (M.words.length≤300) && decide (M.bits.length≤2500)) && decide (M.data.length≤300)) && decide (M.recs.length≤50)) && decide (M.objects.length≤100)) && M.recs.all fun r=>decide (r.words.length≤200)) && M.objects.all fun r=>decide (r.value.length≤300)
theorem fewB_few {M:Msg} (h:fewB M=true) : MsgFew M:=by
  unfold fewB at h
  simp only [Bool.and_eq_true,decide_eq_true_eq,List.all_eq_true] at h
  obtain ⟨⟨⟨⟨⟨⟨h1,h2⟩,h3⟩,h4⟩,h5⟩,h6⟩,h7⟩:=h
  exact ⟨by omega,by omega,by omega,by omega,fun r hr=>by have:=h6 r hr; omega,by omega,fun r hr=>by have:=h7 r hr; omega⟩
def few1 (M:Msg) : Bool:=(((((decide (300 < ((M.words.length:Nat) : Int))) || (decide (2500 < ((M.bits.length:Nat) : Int)))) || (decide (300 < ((M.data.length:Nat) : Int)))) || (decide (50 < ((M.recs.length:Nat) : Int)))) || (decide (100 < ((M.objects.length:Nat) : Int))))
theorem few1_t {M:Msg} (h:few1 M=true) : fewB M=false:=by
  cases h2:fewB M
  · rfl
  unfold few1 at h
  unfold fewB at h2
  simp only [Bool.and_eq_true,Bool.or_eq_true,decide_eq_true_eq] at h h2
  omega
theorem all_pre {α:Type} {p:α→Bool} {d:α} {xs:List α} {k:Nat} (h:(xs.take k).all p=true) (hk:k < xs.length) (hp:p (xs.getD k d)=true) : (xs.take (k + 1)).all p=true:=by
  rw [List.take_succ_eq_append_getElem hk,List.all_append]
  rw [List.getD_eq_getElem?_getD,List.getElem?_eq_getElem hk] at hp
  simpa [h] using hp
theorem all_no {α:Type} {p:α→Bool} {d:α} {xs:List α} {k:Nat} (hk:k < xs.length) (hp:p (xs.getD k d)=false) : xs.all p=false:=by
  rw [List.getD_eq_getElem?_getD,List.getElem?_eq_getElem hk] at hp
  rw [Bool.eq_false_iff]
  intro h
  rw [List.all_eq_true] at h
  have:=h xs[k] (List.getElem_mem hk)
  simp only [Option.getD_some] at hp
  rw [hp] at this
  cases this
theorem few_r {M:Msg} {k:Nat} (hk:k < M.recs.length) (h:decide (200 < (((M.recs.getD k ⟨0,0,0,[]⟩).words.length:Nat) : Int))=true) : fewB M=false:=by
  unfold fewB
  rw [all_no (d:=⟨0,0,0,[]⟩) (xs:=M.recs) hk (by simp only [decide_eq_true_eq] at h; simp only [decide_eq_false_iff_not]; omega)]
  simp
theorem few_o {M:Msg} {k:Nat} (hk:k < M.objects.length) (h:decide (300 < (((M.objects.getD k ⟨0,[]⟩).value.length:Nat) : Int))=true) : fewB M=false:=by
  unfold fewB
  rw [all_no (d:=⟨0,[]⟩) (xs:=M.objects) hk (by simp only [decide_eq_true_eq] at h; simp only [decide_eq_false_iff_not]; omega)]
  simp
theorem few_t {M:Msg} {j k:Nat} (h1:few1 M=false) (hj:j=M.recs.length) (hr:(M.recs.take j).all (fun r=>decide (r.words.length≤200))=true) (hk:k=M.objects.length) (ho:(M.objects.take k).all (fun r=>decide (r.value.length≤300))=true) : fewB M=true:=by
  subst hj hk
  rw [List.take_length] at hr ho
  unfold few1 at h1
  simp only [Bool.or_eq_false_iff,decide_eq_false_iff_not] at h1
  unfold fewB
  rw [hr,ho]
  simp only [Bool.and_true,Bool.and_eq_true,decide_eq_true_eq]
  omega
set_option maxRecDepth 100000 in
set_option maxHeartbeats 4000000 in
theorem few_any {m:Bool} {cs:Array Value} {M:Msg} {w:World} (h:MsgRd m w cs.toList M) : Calls Tryz.prog 17 #[.agg cs] w (PVal (.bool (fewB M)) w):=by
 obtain ⟨vw,vb,vd,vr,vo,h0,hw,hbt,hd,hr,ho,hR⟩:=h
 obtain rfl:cs=(msgCells M vw vb vd vr vo).toArray:=by apply Array.toList_inj.1; simpa using h0
 clear h0
 obtain ⟨Aw,kw,rfl,_,_⟩:=hw.shape
 obtain ⟨Ab,kb,rfl,_,_⟩:=hbt.shape
 obtain ⟨Ad,kd,rfl,_,_⟩:=hd.shape
 obtain ⟨Ar,kr,rfl,_,_⟩:=hr.shape
 obtain ⟨Ao,ko,rfl,_,_⟩:=ho.shape
 obtain ⟨q0,q1,q2,q3,q4,q5,q6,q7,q8,q9,q10,q11,q16,q17,q18,q19,q20⟩:=hR
 simp only [B8,B16] at q0 q1 q2 q3 q4 q5 q6 q7 q8 q9 q10 q11 q16 q17 q18 q19 q20
 refine en 63 Tryz.func17 rfl<|sg<|L0<|Obx (mG M.code M.fail M.addr M.count M.value M.and_ M.or_ M.addr2 M.sub M.status M.events M.messages (.slice Aw M.words.length kw) (.slice Ab M.bits.length kb) (.slice Ad M.data.length kd) (.slice Ar M.recs.length kr) M.mei M.kind M.level M.more M.next (.slice Ao M.objects.length ko)) fun g10 w11 hg12 B13 hu14=>Pl 1<|nt<|sq<|sg<|Pl 1<|L0<|Olb B13 12<|Pl 3<|cu 5 [9] 14 (((decide (300 < ((M.words.length:Nat) : Int))) || (decide (2500 < ((M.bits.length:Nat) : Int))))) (fun K K16=>?_) ?_
 refine bl 9 ((decide (300 < ((M.words.length:Nat) : Int)))) (fun q15=>?_) (fun q15=>?_)
 have q15p:=of_decide_eq_true q15
 exact Pl 5<|ce K16 true (by rw [q15]; rfl)
 have q15p:=of_decide_eq_false q15
 exact Pl 1<|L1<|Olb B13 13<|Pl 3<|ce K16 (decide (2500 < ((M.bits.length:Nat) : Int))) (by rw [q15]; rfl)
 refine Pl 1<|cu 5 [15] 20 ((((decide (300 < ((M.words.length:Nat) : Int))) || (decide (2500 < ((M.bits.length:Nat) : Int)))) || (decide (300 < ((M.data.length:Nat) : Int))))) (fun K K18=>?_) ?_
 refine bl 15 (((decide (300 < ((M.words.length:Nat) : Int))) || (decide (2500 < ((M.bits.length:Nat) : Int))))) (fun q17=>?_) (fun q17=>?_)
 exact Pl 5<|ce K18 true (by rw [q17]; rfl)
 have q17a:=(or_f q17).1
 have q17b:=(or_f q17).2
 have q17ap:=of_decide_eq_false q17a
 have q17bp:=of_decide_eq_false q17b
 exact Pl 1<|L1<|Olb B13 14<|Pl 3<|ce K18 (decide (300 < ((M.data.length:Nat) : Int))) (by rw [q17]; rfl)
 refine Pl 1<|cu 5 [21] 26 (((((decide (300 < ((M.words.length:Nat) : Int))) || (decide (2500 < ((M.bits.length:Nat) : Int)))) || (decide (300 < ((M.data.length:Nat) : Int)))) || (decide (50 < ((M.recs.length:Nat) : Int))))) (fun K K20=>?_) ?_
 refine bl 21 ((((decide (300 < ((M.words.length:Nat) : Int))) || (decide (2500 < ((M.bits.length:Nat) : Int)))) || (decide (300 < ((M.data.length:Nat) : Int))))) (fun q19=>?_) (fun q19=>?_)
 exact Pl 5<|ce K20 true (by rw [q19]; rfl)
 have q19a:=(or_f q19).1
 have q19b:=(or_f q19).2
 have q19aa:=(or_f q19a).1
 have q19ab:=(or_f q19a).2
 have q19aap:=of_decide_eq_false q19aa
 have q19abp:=of_decide_eq_false q19ab
 have q19bp:=of_decide_eq_false q19b
 exact Pl 1<|L1<|Olb B13 15<|Pl 3<|ce K20 (decide (50 < ((M.recs.length:Nat) : Int))) (by rw [q19]; rfl)
 refine Pl 1<|cu 5 [27] 32 ((((((decide (300 < ((M.words.length:Nat) : Int))) || (decide (2500 < ((M.bits.length:Nat) : Int)))) || (decide (300 < ((M.data.length:Nat) : Int)))) || (decide (50 < ((M.recs.length:Nat) : Int)))) || (decide (100 < ((M.objects.length:Nat) : Int))))) (fun K K22=>?_) ?_
 refine bl 27 (((((decide (300 < ((M.words.length:Nat) : Int))) || (decide (2500 < ((M.bits.length:Nat) : Int)))) || (decide (300 < ((M.data.length:Nat) : Int)))) || (decide (50 < ((M.recs.length:Nat) : Int))))) (fun q21=>?_) (fun q21=>?_)
 exact Pl 5<|ce K22 true (by rw [q21]; rfl)
 have q21a:=(or_f q21).1
 have q21b:=(or_f q21).2
 have q21aa:=(or_f q21a).1
 have q21ab:=(or_f q21a).2
 have q21aaa:=(or_f q21aa).1
 have q21aab:=(or_f q21aa).2
 have q21aaap:=of_decide_eq_false q21aaa
 have q21aabp:=of_decide_eq_false q21aab
 have q21abp:=of_decide_eq_false q21ab
 have q21bp:=of_decide_eq_false q21b
 exact Pl 1<|L1<|Olb B13 21<|Pl 3<|ce K22 (decide (100 < ((M.objects.length:Nat) : Int))) (by rw [q21]; rfl)
 refine nt<|cb ((((((decide (300 < ((M.words.length:Nat) : Int))) || (decide (2500 < ((M.bits.length:Nat) : Int)))) || (decide (300 < ((M.data.length:Nat) : Int)))) || (decide (50 < ((M.recs.length:Nat) : Int)))) || (decide (100 < ((M.objects.length:Nat) : Int))))) (fun q23=>?_) (fun q23=>?_)
 refine sg<|Pl 1<|nt<|rt<|tr<|rr (.bool false)<|?_
 have hs:fewB M=false:=few1_t q23
 rw [hs]
 exact ⟨rfl,hu14⟩
 have q23a:=(or_f q23).1
 have q23b:=(or_f q23).2
 have q23aa:=(or_f q23a).1
 have q23ab:=(or_f q23a).2
 have q23aaa:=(or_f q23aa).1
 have q23aab:=(or_f q23aa).2
 have q23aaaa:=(or_f q23aaa).1
 have q23aaab:=(or_f q23aaa).2
 have q23aaaap:=of_decide_eq_false q23aaaa
 have q23aaabp:=of_decide_eq_false q23aaab
 have q23aabp:=of_decide_eq_false q23aab
 have q23abp:=of_decide_eq_false q23ab
 have q23bp:=of_decide_eq_false q23b
 refine skn<|sq<|sg<|Pl 1<|nt<|bk<|?_
 refine glp (fun x=>[(1,.pointer (some ⟨g10,0,none⟩)),(3,.int .i64 ((x:Nat) : Int))]) (fun (x:Nat) w'=>Upd [] w11 w'∧((M.recs.take x).all (fun r:Rec=>decide (r.words.length≤200))=true)∧(x≤M.recs.length)) (fun x=>M.recs.length - x) 0 ⟨Upd.refl _ _,(by (try dsimp only); simp),(by (try dsimp only); omega)⟩ ?_
 rintro j w24 ⟨hu25,p26,p27⟩
 refine wkc [(1,.pointer (some ⟨g10,0,none⟩)),(3,.int .i64 ((j:Nat) : Int))] ?_
 have p29:(M.recs.take j).all (fun r:Rec=>decide (r.words.length≤200))=true:=p26
 have p30:j≤M.recs.length:=p27
 refine sq<|sg<|Pl 2<|?_
 have r31:=ub hu25 B13
 refine L0<|Olb r31 15<|Pl 2<|nt<|?_
 have U32:=ut0 hu14 hu25
 refine cb ((decide (((j:Nat) : Int) < ((M.recs.length:Nat) : Int)))) (fun q33=>?_) (fun q33=>?_)
 have q33p:=of_decide_eq_true q33
 refine skn<|sq<|bk<|sg<|Pl 1<|L0<|Olb r31 15<|Pl 1<|x75 (RdR.elt hr j (by omega)) fun b34 o35 cl36 t37 fr38 A39 cp40 hA41 hb42 hv43 hr44 hs45=>L0<|Oixs 4 M.recs.length j hA41 (by omega)<|Pl 1<|?_
 have r46:=ub U32 hb42
 refine L0<|Old (p:=⟨b34,o35 + j * 4 + 3,none⟩) (v:=.slice A39 ((M.recs.getD j ⟨0,0,0,[]⟩).words.length) cp40) (el_at r46 hs45 3 rfl (by decide))<|Pl 2<|nt<|cb ((decide (200 < (((M.recs.getD j ⟨0,0,0,[]⟩).words.length:Nat) : Int)))) (fun q47=>?_) (fun q47=>?_)
 have q47p:=of_decide_eq_true q47
 refine sg<|Pl 1<|nt<|rt<|br<|tr<|tr<|br<|tr<|rr (.bool false)<|?_
 have hs:fewB M=false:=few_r (by omega) q47
 rw [hs]
 exact ⟨rfl,U32⟩
 have q47p:=of_decide_eq_false q47
 exact sk<|bn<|tn<|go<|Pl 1<|L0<|Oi (((j:Nat) : Int) + 1)<|Pl 1<|nl<|lpe (j + 1) ⟨hu25,(all_pre (d:=⟨0,0,0,[]⟩) p29 (by omega) (by simp only [decide_eq_true_eq]; omega)),(by (try dsimp only); omega)⟩ (by omega)
 have q33p:=of_decide_eq_false q33
 refine xt<|tx<|tx<|bx<|tn<|sq<|sg<|Pl 1<|nt<|bk<|?_
 refine glp (fun x=>[(1,.pointer (some ⟨g10,0,none⟩)),(4,.int .i64 ((x:Nat) : Int))]) (fun (x:Nat) w'=>Upd [] w24 w'∧((M.objects.take x).all (fun r:Obj=>decide (r.value.length≤300))=true)∧(x≤M.objects.length)) (fun x=>M.objects.length - x) 0 ⟨Upd.refl _ _,(by (try dsimp only); simp),(by (try dsimp only); omega)⟩ ?_
 rintro k w48 ⟨hu49,p50,p51⟩
 refine wkc [(1,.pointer (some ⟨g10,0,none⟩)),(4,.int .i64 ((k:Nat) : Int))] ?_
 have p53:(M.objects.take k).all (fun r:Obj=>decide (r.value.length≤300))=true:=p50
 have p54:k≤M.objects.length:=p51
 refine sq<|sg<|Pl 2<|?_
 have r55:=ub hu49 r31
 refine L0<|Olb r55 21<|Pl 2<|nt<|?_
 have U56:=ut0 U32 hu49
 refine cb ((decide (((k:Nat) : Int) < ((M.objects.length:Nat) : Int)))) (fun q57=>?_) (fun q57=>?_)
 have q57p:=of_decide_eq_true q57
 refine skn<|sq<|bk<|sg<|Pl 1<|L0<|Olb r55 21<|Pl 1<|x75 (RdO.elt ho k (by omega)) fun b58 o59 cl60 t61 fr62 A63 cp64 hA65 hb66 hv67 hr68 hs69=>L0<|Oixs 2 M.objects.length k hA65 (by omega)<|Pl 1<|?_
 have r70:=ub U56 hb66
 refine L0<|Old (p:=⟨b58,o59 + k * 2 + 1,none⟩) (v:=.slice A63 ((M.objects.getD k ⟨0,[]⟩).value.length) cp64) (el_at r70 hs69 1 rfl (by decide))<|Pl 2<|nt<|cb ((decide (300 < (((M.objects.getD k ⟨0,[]⟩).value.length:Nat) : Int)))) (fun q71=>?_) (fun q71=>?_)
 have q71p:=of_decide_eq_true q71
 refine sg<|Pl 1<|nt<|rt<|br<|tr<|tr<|br<|tr<|rr (.bool false)<|?_
 have hs:fewB M=false:=few_o (by omega) q71
 rw [hs]
 exact ⟨rfl,U56⟩
 have q71p:=of_decide_eq_false q71
 exact sk<|bn<|tn<|go<|Pl 1<|L0<|Oi (((k:Nat) : Int) + 1)<|Pl 1<|nl<|lpe (k + 1) ⟨hu49,(all_pre (d:=⟨0,[]⟩) p53 (by omega) (by simp only [decide_eq_true_eq]; omega)),(by (try dsimp only); omega)⟩ (by omega)
 have q57p:=of_decide_eq_false q57
 refine xt<|tx<|tx<|bx<|tn<|sg<|Pl 1<|nt<|rt<|rr (.bool true)<|?_
 have hs:fewB M=true:=few_t (j:=j) (k:=k) q23 (by omega) p29 (by omega) p53
 rw [hs]
 exact ⟨rfl,U56⟩
open Go.RowKit
def cfam (x:Int) : Nat:=if x=1∨x=2∨x=5∨x=15 then 1 else if x=3∨x=4∨x=6∨x=16∨x=22∨x=23∨x=24 then 2 else if x=7∨x=8∨x=11∨x=12∨x=17 then 3 else if x=20∨x=21 then 4 else if x=43 then 5 else 0
def codecV:Nat→Value
  | 1=>.tuple #[.agg #[.func (.func 58) #[] #[],.func (.func 59) #[] #[]],.bool true]
  | 2=>.tuple #[.agg #[.func (.func 60) #[] #[],.func (.func 61) #[] #[]],.bool true]
  | 3=>.tuple #[.agg #[.func (.func 62) #[] #[],.func (.func 63) #[] #[]],.bool true]
  | 4=>.tuple #[.agg #[.func (.func 64) #[] #[],.func (.func 65) #[] #[]],.bool true]
  | 5=>.tuple #[.agg #[.func (.func 66) #[] #[],.func (.func 67) #[] #[]],.bool true]
  | _=>.tuple #[.agg #[.nilFunc,.nilFunc],.bool false]
theorem cfam_dich (x:Int) : ((x=1∨x=2∨x=5∨x=15)∧cfam x=1)∨((x=3∨x=4∨x=6∨x=16∨x=22∨x=23∨x=24)∧cfam x=2)∨((x=7∨x=8∨x=11∨x=12∨x=17)∧cfam x=3)∨((x=20∨x=21)∧cfam x=4)∨((x=43)∧cfam x=5)∨((¬ x=1∧¬ x=2∧¬ x=5∧¬ x=15∧¬ x=3∧¬ x=4∧¬ x=6∧¬ x=16∧¬ x=22∧¬ x=23∧¬ x=24∧¬ x=7∧¬ x=8∧¬ x=11∧¬ x=12∧¬ x=17∧¬ x=20∧¬ x=21∧¬ x=43)∧cfam x=0):=by
  unfold cfam
  repeat
    split
    · simp_all
  simp_all
def codecs:Array MapEntry:=#[⟨.int .u8 1,.agg #[.func (.func 58) #[] #[],.func (.func 59) #[] #[]],0⟩,⟨.int .u8 2,.agg #[.func (.func 58) #[] #[],.func (.func 59) #[] #[]],1⟩,⟨.int .u8 5,.agg #[.func (.func 58) #[] #[],.func (.func 59) #[] #[]],2⟩,⟨.int .u8 15,.agg #[.func (.func 58) #[] #[],.func (.func 59) #[] #[]],3⟩,⟨.int .u8 3,.agg #[.func (.func 60) #[] #[],.func (.func 61) #[] #[]],4⟩,⟨.int .u8 4,.agg #[.func (.func 60) #[] #[],.func (.func 61) #[] #[]],5⟩,⟨.int .u8 6,.agg #[.func (.func 60) #[] #[],.func (.func 61) #[] #[]],6⟩,⟨.int .u8 16,.agg #[.func (.func 60) #[] #[],.func (.func 61) #[] #[]],7⟩,⟨.int .u8 22,.agg #[.func (.func 60) #[] #[],.func (.func 61) #[] #[]],8⟩,⟨.int .u8 23,.agg #[.func (.func 60) #[] #[],.func (.func 61) #[] #[]],9⟩,⟨.int .u8 24,.agg #[.func (.func 60) #[] #[],.func (.func 61) #[] #[]],10⟩,⟨.int .u8 7,.agg #[.func (.func 62) #[] #[],.func (.func 63) #[] #[]],11⟩,⟨.int .u8 8,.agg #[.func (.func 62) #[] #[],.func (.func 63) #[] #[]],12⟩,⟨.int .u8 11,.agg #[.func (.func 62) #[] #[],.func (.func 63) #[] #[]],13⟩,⟨.int .u8 12,.agg #[.func (.func 62) #[] #[],.func (.func 63) #[] #[]],14⟩,⟨.int .u8 17,.agg #[.func (.func 62) #[] #[],.func (.func 63) #[] #[]],15⟩,⟨.int .u8 20,.agg #[.func (.func 64) #[] #[],.func (.func 65) #[] #[]],16⟩,⟨.int .u8 21,.agg #[.func (.func 64) #[] #[],.func (.func 65) #[] #[]],17⟩,⟨.int .u8 43,.agg #[.func (.func 66) #[] #[],.func (.func 67) #[] #[]],18⟩]
set_option maxRecDepth 100000 in
set_option maxHeartbeats 4000000 in
theorem of_any {x:Int} {w:World}:Calls Tryz.prog 52 #[.int .u8 x] w (PVal (codecV (cfam x)) w):=by
 refine en 44 Tryz.func52 rfl<|sg<|L0<|Oal #[.nilFunc,.nilFunc] fun g10 w11 hg12 B13 hu14=>Pl 1<|ng<|Pl 2<|L0<|Oal #[.nilFunc,.nilFunc] fun g15 w16 hg17 B18 hu19=>L0<|Oal #[.nilFunc,.nilFunc] fun g20 w21 hg22 B23 hu24=>?_
 have r25:=ub hu24 B18
 refine L0<|Osw r25 #[.func (.func 58) #[] #[],.func (.func 59) #[] #[]] fun w26 B27 hu28=>?_
 have ne29:=nb (blk_lt B18) lr hg22
 have r30:=ub1 hu28 (Ne.symm ne29) B23
 refine L0<|Osw r30 #[.func (.func 60) #[] #[],.func (.func 61) #[] #[]] fun w31 B32 hu33=>ng<|Pl 2<|L0<|Oal #[.nilFunc,.nilFunc] fun g34 w35 hg36 B37 hu38=>L0<|Oal #[.nilFunc,.nilFunc] fun g39 w40 hg41 B42 hu43=>?_
 have r44:=ub hu43 B37
 refine L0<|Osw r44 #[.func (.func 62) #[] #[],.func (.func 63) #[] #[]] fun w45 B46 hu47=>?_
 have ne48:=nb (blk_lt B37) lr hg41
 have r49:=ub1 hu47 (Ne.symm ne48) B42
 refine L0<|Osw r49 #[.func (.func 64) #[] #[],.func (.func 65) #[] #[]] fun w50 B51 hu52=>ng<|L0<|Omk fun g53 w54 hg55 B56 hu57=>?_
 have U58:=ut0 hu33 hu38
 have U59:=ut0 U58 hu43
 have U60:=u1 U59 hu47 (ni hu33.size hg36)
 have U61:=u1 U60 hu52 (ni U58.size hg41)
 have U62:=ut0 U61 hu57
 have r63:=ub1 U62 ne29 B27
 refine L0<|Olw r63<|L0<|Oin B56 1 fun w64 B65 hu66=>?_
 have ne67:=nb (blk_lt B18) (le (le (le (le (le (le hu24.size hu28.size) hu33.size) hu38.size) hu43.size) hu47.size) hu52.size) hg55
 have r68:=ub1 hu66 ne67 r63
 refine L0<|Olw r68<|L0<|Oin B65 2 fun w69 B70 hu71=>?_
 have r72:=ub1 hu71 ne67 r68
 refine L0<|Olw r72<|L0<|Oin B70 5 fun w73 B74 hu75=>?_
 have r76:=ub1 hu75 ne67 r72
 refine L0<|Olw r76<|L0<|Oin B74 15 fun w77 B78 hu79=>?_
 have U80:=ut0 hu38 hu43
 have U81:=u1 U80 hu47 (nr hg36)
 have U82:=u1 U81 hu52 (ni hu38.size hg41)
 have U83:=ut0 U82 hu57
 have U84:=u1 U83 hu66 (ni U82.size hg55)
 have U85:=u1 U84 hu71 (ni U82.size hg55)
 have U86:=u1 U85 hu75 (ni U82.size hg55)
 have U87:=u1 U86 hu79 (ni U82.size hg55)
 have r88:=ub U87 B32
 refine L0<|Olw r88<|L0<|Oin B78 3 fun w89 B90 hu91=>?_
 have ne92:=nb (blk_lt B23) (le (le (le (le (le hu28.size hu33.size) hu38.size) hu43.size) hu47.size) hu52.size) hg55
 have r93:=ub1 hu91 ne92 r88
 refine L0<|Olw r93<|L0<|Oin B90 4 fun w94 B95 hu96=>?_
 have r97:=ub1 hu96 ne92 r93
 refine L0<|Olw r97<|L0<|Oin B95 6 fun w98 B99 hu100=>?_
 have r101:=ub1 hu100 ne92 r97
 refine L0<|Olw r101<|L0<|Oin B99 16 fun w102 B103 hu104=>?_
 have r105:=ub1 hu104 ne92 r101
 refine L0<|Olw r105<|L0<|Oin B103 22 fun w106 B107 hu108=>?_
 have r109:=ub1 hu108 ne92 r105
 refine L0<|Olw r109<|L0<|Oin B107 23 fun w110 B111 hu112=>?_
 have r113:=ub1 hu112 ne92 r109
 refine L0<|Olw r113<|L0<|Oin B111 24 fun w114 B115 hu116=>?_
 have U117:=ut0 hu52 hu57
 have U118:=u1 U117 hu66 (ni hu52.size hg55)
 have U119:=u1 U118 hu71 (ni hu52.size hg55)
 have U120:=u1 U119 hu75 (ni hu52.size hg55)
 have U121:=u1 U120 hu79 (ni hu52.size hg55)
 have U122:=u1 U121 hu91 (ni hu52.size hg55)
 have U123:=u1 U122 hu96 (ni hu52.size hg55)
 have U124:=u1 U123 hu100 (ni hu52.size hg55)
 have U125:=u1 U124 hu104 (ni hu52.size hg55)
 have U126:=u1 U125 hu108 (ni hu52.size hg55)
 have U127:=u1 U126 hu112 (ni hu52.size hg55)
 have U128:=u1 U127 hu116 (ni hu52.size hg55)
 have r129:=ub1 U128 ne48 B46
 refine L0<|Olw r129<|L0<|Oin B115 7 fun w130 B131 hu132=>?_
 have ne133:=nb (blk_lt B37) (le (le hu43.size hu47.size) hu52.size) hg55
 have r134:=ub1 hu132 ne133 r129
 refine L0<|Olw r134<|L0<|Oin B131 8 fun w135 B136 hu137=>?_
 have r138:=ub1 hu137 ne133 r134
 refine L0<|Olw r138<|L0<|Oin B136 11 fun w139 B140 hu141=>?_
 have r142:=ub1 hu141 ne133 r138
 refine L0<|Olw r142<|L0<|Oin B140 12 fun w143 B144 hu145=>?_
 have r146:=ub1 hu145 ne133 r142
 refine L0<|Olw r146<|L0<|Oin B144 17 fun w147 B148 hu149=>?_
 have U150:=u1 hu57 hu66 (nr hg55)
 have U151:=u1 U150 hu71 (nr hg55)
 have U152:=u1 U151 hu75 (nr hg55)
 have U153:=u1 U152 hu79 (nr hg55)
 have U154:=u1 U153 hu91 (nr hg55)
 have U155:=u1 U154 hu96 (nr hg55)
 have U156:=u1 U155 hu100 (nr hg55)
 have U157:=u1 U156 hu104 (nr hg55)
 have U158:=u1 U157 hu108 (nr hg55)
 have U159:=u1 U158 hu112 (nr hg55)
 have U160:=u1 U159 hu116 (nr hg55)
 have U161:=u1 U160 hu132 (nr hg55)
 have U162:=u1 U161 hu137 (nr hg55)
 have U163:=u1 U162 hu141 (nr hg55)
 have U164:=u1 U163 hu145 (nr hg55)
 have U165:=u1 U164 hu149 (nr hg55)
 have r166:=ub U165 B51
 refine L0<|Olw r166<|L0<|Oin B148 20 fun w167 B168 hu169=>?_
 have ne170:=nb (blk_lt B42) (le hu47.size hu52.size) hg55
 have r171:=ub1 hu169 ne170 r166
 refine L0<|Olw r171<|L0<|Oin B168 21 fun w172 B173 hu174=>Pl 1<|L0<|Oin B173 43 fun w175 B176 hu177=>Pl 2<|ng<|Pl 2<|?_
 have U178:=ut0 hu14 hu19
 have U179:=ut0 U178 hu24
 have U180:=u1 U179 hu28 (ni hu14.size hg17)
 have U181:=u1 U180 hu33 (ni U178.size hg22)
 have U182:=ut0 U181 hu38
 have U183:=ut0 U182 hu43
 have U184:=u1 U183 hu47 (ni U181.size hg36)
 have U185:=u1 U184 hu52 (ni U182.size hg41)
 have U186:=ut0 U185 hu57
 have U187:=u1 U186 hu66 (ni U185.size hg55)
 have U188:=u1 U187 hu71 (ni U185.size hg55)
 have U189:=u1 U188 hu75 (ni U185.size hg55)
 have U190:=u1 U189 hu79 (ni U185.size hg55)
 have U191:=u1 U190 hu91 (ni U185.size hg55)
 have U192:=u1 U191 hu96 (ni U185.size hg55)
 have U193:=u1 U192 hu100 (ni U185.size hg55)
 have U194:=u1 U193 hu104 (ni U185.size hg55)
 have U195:=u1 U194 hu108 (ni U185.size hg55)
 have U196:=u1 U195 hu112 (ni U185.size hg55)
 have U197:=u1 U196 hu116 (ni U185.size hg55)
 have U198:=u1 U197 hu132 (ni U185.size hg55)
 have U199:=u1 U198 hu137 (ni U185.size hg55)
 have U200:=u1 U199 hu141 (ni U185.size hg55)
 have U201:=u1 U200 hu145 (ni U185.size hg55)
 have U202:=u1 U201 hu149 (ni U185.size hg55)
 have U203:=u1 U202 hu169 (ni U185.size hg55)
 have U204:=u1 U203 hu174 (ni U185.size hg55)
 have U205:=u1 U204 hu177 (ni U185.size hg55)
 rcases cfam_dich x with ⟨hk,hkf⟩ | ⟨hk,hkf⟩ | ⟨hk,hkf⟩ | ⟨hk,hkf⟩ | ⟨hk,hkf⟩ | ⟨hk,hkf⟩
 obtain ⟨ix,hix⟩ : ∃ i,Instr.findNow (.int .u8) (.int .u8 x) codecs.toList 0=some (some (i,.agg #[.func (.func 58) #[] #[],.func (.func 59) #[] #[]])):=by
   rcases hk with rfl | rfl | rfl | rfl
   · exact ⟨0,by kernel_rfl⟩
   · exact ⟨1,by kernel_rfl⟩
   · exact ⟨2,by kernel_rfl⟩
   · exact ⟨3,by kernel_rfl⟩
 refine L0<|Olk (hf:=(fns codecs hix)) B176 x (.agg #[.nilFunc,.nilFunc]) (some (ix,.agg #[.func (.func 58) #[] #[],.func (.func 59) #[] #[]]))<|Pl 3<|L0<|Oal #[.nilFunc,.nilFunc] fun g206 w207 hg208 B209 hu210=>L0<|Osw B209 #[.func (.func 58) #[] #[],.func (.func 59) #[] #[]] fun w211 B212 hu213=>Pl 1<|ng<|L0<|Olw B212<|Pl 1<|?_
 have U214:=ut0 hu19 hu24
 have U215:=u1 U214 hu28 (nr hg17)
 have U216:=u1 U215 hu33 (ni hu19.size hg22)
 have U217:=ut0 U216 hu38
 have U218:=ut0 U217 hu43
 have U219:=u1 U218 hu47 (ni U216.size hg36)
 have U220:=u1 U219 hu52 (ni U217.size hg41)
 have U221:=ut0 U220 hu57
 have U222:=u1 U221 hu66 (ni U220.size hg55)
 have U223:=u1 U222 hu71 (ni U220.size hg55)
 have U224:=u1 U223 hu75 (ni U220.size hg55)
 have U225:=u1 U224 hu79 (ni U220.size hg55)
 have U226:=u1 U225 hu91 (ni U220.size hg55)
 have U227:=u1 U226 hu96 (ni U220.size hg55)
 have U228:=u1 U227 hu100 (ni U220.size hg55)
 have U229:=u1 U228 hu104 (ni U220.size hg55)
 have U230:=u1 U229 hu108 (ni U220.size hg55)
 have U231:=u1 U230 hu112 (ni U220.size hg55)
 have U232:=u1 U231 hu116 (ni U220.size hg55)
 have U233:=u1 U232 hu132 (ni U220.size hg55)
 have U234:=u1 U233 hu137 (ni U220.size hg55)
 have U235:=u1 U234 hu141 (ni U220.size hg55)
 have U236:=u1 U235 hu145 (ni U220.size hg55)
 have U237:=u1 U236 hu149 (ni U220.size hg55)
 have U238:=u1 U237 hu169 (ni U220.size hg55)
 have U239:=u1 U238 hu174 (ni U220.size hg55)
 have U240:=u1 U239 hu177 (ni U220.size hg55)
 have U241:=ut0 U240 hu210
 have U242:=u1 U241 hu213 (ni U240.size hg208)
 have r243:=ub U242 B13
 refine L0<|Osw r243 #[.func (.func 58) #[] #[],.func (.func 59) #[] #[]] fun w244 B245 hu246=>Pl 1<|nt<|rt<|rct B245 (.bool true)<|?_
 rw [hkf]
 have U247:=ut0 U205 hu210
 have U248:=u1 U247 hu213 (ni U205.size hg208)
 have U249:=u1 U248 hu246 (nr hg12)
 exact ⟨rfl,U249⟩
 obtain ⟨ix,hix⟩ : ∃ i,Instr.findNow (.int .u8) (.int .u8 x) codecs.toList 0=some (some (i,.agg #[.func (.func 60) #[] #[],.func (.func 61) #[] #[]])):=by
   rcases hk with rfl | rfl | rfl | rfl | rfl | rfl | rfl
   · exact ⟨4,by kernel_rfl⟩
   · exact ⟨5,by kernel_rfl⟩
   · exact ⟨6,by kernel_rfl⟩
   · exact ⟨7,by kernel_rfl⟩
   · exact ⟨8,by kernel_rfl⟩
   · exact ⟨9,by kernel_rfl⟩
   · exact ⟨10,by kernel_rfl⟩
 refine L0<|Olk (hf:=(fns codecs hix)) B176 x (.agg #[.nilFunc,.nilFunc]) (some (ix,.agg #[.func (.func 60) #[] #[],.func (.func 61) #[] #[]]))<|Pl 3<|L0<|Oal #[.nilFunc,.nilFunc] fun g250 w251 hg252 B253 hu254=>L0<|Osw B253 #[.func (.func 60) #[] #[],.func (.func 61) #[] #[]] fun w255 B256 hu257=>Pl 1<|ng<|L0<|Olw B256<|Pl 1<|?_
 have U258:=ut0 hu19 hu24
 have U259:=u1 U258 hu28 (nr hg17)
 have U260:=u1 U259 hu33 (ni hu19.size hg22)
 have U261:=ut0 U260 hu38
 have U262:=ut0 U261 hu43
 have U263:=u1 U262 hu47 (ni U260.size hg36)
 have U264:=u1 U263 hu52 (ni U261.size hg41)
 have U265:=ut0 U264 hu57
 have U266:=u1 U265 hu66 (ni U264.size hg55)
 have U267:=u1 U266 hu71 (ni U264.size hg55)
 have U268:=u1 U267 hu75 (ni U264.size hg55)
 have U269:=u1 U268 hu79 (ni U264.size hg55)
 have U270:=u1 U269 hu91 (ni U264.size hg55)
 have U271:=u1 U270 hu96 (ni U264.size hg55)
 have U272:=u1 U271 hu100 (ni U264.size hg55)
 have U273:=u1 U272 hu104 (ni U264.size hg55)
 have U274:=u1 U273 hu108 (ni U264.size hg55)
 have U275:=u1 U274 hu112 (ni U264.size hg55)
 have U276:=u1 U275 hu116 (ni U264.size hg55)
 have U277:=u1 U276 hu132 (ni U264.size hg55)
 have U278:=u1 U277 hu137 (ni U264.size hg55)
 have U279:=u1 U278 hu141 (ni U264.size hg55)
 have U280:=u1 U279 hu145 (ni U264.size hg55)
 have U281:=u1 U280 hu149 (ni U264.size hg55)
 have U282:=u1 U281 hu169 (ni U264.size hg55)
 have U283:=u1 U282 hu174 (ni U264.size hg55)
 have U284:=u1 U283 hu177 (ni U264.size hg55)
 have U285:=ut0 U284 hu254
 have U286:=u1 U285 hu257 (ni U284.size hg252)
 have r287:=ub U286 B13
 refine L0<|Osw r287 #[.func (.func 60) #[] #[],.func (.func 61) #[] #[]] fun w288 B289 hu290=>Pl 1<|nt<|rt<|rct B289 (.bool true)<|?_
 rw [hkf]
 have U291:=ut0 U205 hu254
 have U292:=u1 U291 hu257 (ni U205.size hg252)
 have U293:=u1 U292 hu290 (nr hg12)
 exact ⟨rfl,U293⟩
 obtain ⟨ix,hix⟩ : ∃ i,Instr.findNow (.int .u8) (.int .u8 x) codecs.toList 0=some (some (i,.agg #[.func (.func 62) #[] #[],.func (.func 63) #[] #[]])):=by
   rcases hk with rfl | rfl | rfl | rfl | rfl
   · exact ⟨11,by kernel_rfl⟩
   · exact ⟨12,by kernel_rfl⟩
   · exact ⟨13,by kernel_rfl⟩
   · exact ⟨14,by kernel_rfl⟩
   · exact ⟨15,by kernel_rfl⟩
 refine L0<|Olk (hf:=(fns codecs hix)) B176 x (.agg #[.nilFunc,.nilFunc]) (some (ix,.agg #[.func (.func 62) #[] #[],.func (.func 63) #[] #[]]))<|Pl 3<|L0<|Oal #[.nilFunc,.nilFunc] fun g294 w295 hg296 B297 hu298=>L0<|Osw B297 #[.func (.func 62) #[] #[],.func (.func 63) #[] #[]] fun w299 B300 hu301=>Pl 1<|ng<|L0<|Olw B300<|Pl 1<|?_
 have U302:=ut0 hu19 hu24
 have U303:=u1 U302 hu28 (nr hg17)
 have U304:=u1 U303 hu33 (ni hu19.size hg22)
 have U305:=ut0 U304 hu38
 have U306:=ut0 U305 hu43
 have U307:=u1 U306 hu47 (ni U304.size hg36)
 have U308:=u1 U307 hu52 (ni U305.size hg41)
 have U309:=ut0 U308 hu57
 have U310:=u1 U309 hu66 (ni U308.size hg55)
 have U311:=u1 U310 hu71 (ni U308.size hg55)
 have U312:=u1 U311 hu75 (ni U308.size hg55)
 have U313:=u1 U312 hu79 (ni U308.size hg55)
 have U314:=u1 U313 hu91 (ni U308.size hg55)
 have U315:=u1 U314 hu96 (ni U308.size hg55)
 have U316:=u1 U315 hu100 (ni U308.size hg55)
 have U317:=u1 U316 hu104 (ni U308.size hg55)
 have U318:=u1 U317 hu108 (ni U308.size hg55)
 have U319:=u1 U318 hu112 (ni U308.size hg55)
 have U320:=u1 U319 hu116 (ni U308.size hg55)
 have U321:=u1 U320 hu132 (ni U308.size hg55)
 have U322:=u1 U321 hu137 (ni U308.size hg55)
 have U323:=u1 U322 hu141 (ni U308.size hg55)
 have U324:=u1 U323 hu145 (ni U308.size hg55)
 have U325:=u1 U324 hu149 (ni U308.size hg55)
 have U326:=u1 U325 hu169 (ni U308.size hg55)
 have U327:=u1 U326 hu174 (ni U308.size hg55)
 have U328:=u1 U327 hu177 (ni U308.size hg55)
 have U329:=ut0 U328 hu298
 have U330:=u1 U329 hu301 (ni U328.size hg296)
 have r331:=ub U330 B13
 refine L0<|Osw r331 #[.func (.func 62) #[] #[],.func (.func 63) #[] #[]] fun w332 B333 hu334=>Pl 1<|nt<|rt<|rct B333 (.bool true)<|?_
 rw [hkf]
 have U335:=ut0 U205 hu298
 have U336:=u1 U335 hu301 (ni U205.size hg296)
 have U337:=u1 U336 hu334 (nr hg12)
 exact ⟨rfl,U337⟩
 obtain ⟨ix,hix⟩ : ∃ i,Instr.findNow (.int .u8) (.int .u8 x) codecs.toList 0=some (some (i,.agg #[.func (.func 64) #[] #[],.func (.func 65) #[] #[]])):=by
   rcases hk with rfl | rfl
   · exact ⟨16,by kernel_rfl⟩
   · exact ⟨17,by kernel_rfl⟩
 refine L0<|Olk (hf:=(fns codecs hix)) B176 x (.agg #[.nilFunc,.nilFunc]) (some (ix,.agg #[.func (.func 64) #[] #[],.func (.func 65) #[] #[]]))<|Pl 3<|L0<|Oal #[.nilFunc,.nilFunc] fun g338 w339 hg340 B341 hu342=>L0<|Osw B341 #[.func (.func 64) #[] #[],.func (.func 65) #[] #[]] fun w343 B344 hu345=>Pl 1<|ng<|L0<|Olw B344<|Pl 1<|?_
 have U346:=ut0 hu19 hu24
 have U347:=u1 U346 hu28 (nr hg17)
 have U348:=u1 U347 hu33 (ni hu19.size hg22)
 have U349:=ut0 U348 hu38
 have U350:=ut0 U349 hu43
 have U351:=u1 U350 hu47 (ni U348.size hg36)
 have U352:=u1 U351 hu52 (ni U349.size hg41)
 have U353:=ut0 U352 hu57
 have U354:=u1 U353 hu66 (ni U352.size hg55)
 have U355:=u1 U354 hu71 (ni U352.size hg55)
 have U356:=u1 U355 hu75 (ni U352.size hg55)
 have U357:=u1 U356 hu79 (ni U352.size hg55)
 have U358:=u1 U357 hu91 (ni U352.size hg55)
 have U359:=u1 U358 hu96 (ni U352.size hg55)
 have U360:=u1 U359 hu100 (ni U352.size hg55)
 have U361:=u1 U360 hu104 (ni U352.size hg55)
 have U362:=u1 U361 hu108 (ni U352.size hg55)
 have U363:=u1 U362 hu112 (ni U352.size hg55)
 have U364:=u1 U363 hu116 (ni U352.size hg55)
 have U365:=u1 U364 hu132 (ni U352.size hg55)
 have U366:=u1 U365 hu137 (ni U352.size hg55)
 have U367:=u1 U366 hu141 (ni U352.size hg55)
 have U368:=u1 U367 hu145 (ni U352.size hg55)
 have U369:=u1 U368 hu149 (ni U352.size hg55)
 have U370:=u1 U369 hu169 (ni U352.size hg55)
 have U371:=u1 U370 hu174 (ni U352.size hg55)
 have U372:=u1 U371 hu177 (ni U352.size hg55)
 have U373:=ut0 U372 hu342
 have U374:=u1 U373 hu345 (ni U372.size hg340)
 have r375:=ub U374 B13
 refine L0<|Osw r375 #[.func (.func 64) #[] #[],.func (.func 65) #[] #[]] fun w376 B377 hu378=>Pl 1<|nt<|rt<|rct B377 (.bool true)<|?_
 rw [hkf]
 have U379:=ut0 U205 hu342
 have U380:=u1 U379 hu345 (ni U205.size hg340)
 have U381:=u1 U380 hu378 (nr hg12)
 exact ⟨rfl,U381⟩
 obtain ⟨ix,hix⟩ : ∃ i,Instr.findNow (.int .u8) (.int .u8 x) codecs.toList 0=some (some (i,.agg #[.func (.func 66) #[] #[],.func (.func 67) #[] #[]])):=by
   rcases hk with rfl
   · exact ⟨18,by kernel_rfl⟩
 refine L0<|Olk (hf:=(fns codecs hix)) B176 x (.agg #[.nilFunc,.nilFunc]) (some (ix,.agg #[.func (.func 66) #[] #[],.func (.func 67) #[] #[]]))<|Pl 3<|L0<|Oal #[.nilFunc,.nilFunc] fun g382 w383 hg384 B385 hu386=>L0<|Osw B385 #[.func (.func 66) #[] #[],.func (.func 67) #[] #[]] fun w387 B388 hu389=>Pl 1<|ng<|L0<|Olw B388<|Pl 1<|?_
 have U390:=ut0 hu19 hu24
 have U391:=u1 U390 hu28 (nr hg17)
 have U392:=u1 U391 hu33 (ni hu19.size hg22)
 have U393:=ut0 U392 hu38
 have U394:=ut0 U393 hu43
 have U395:=u1 U394 hu47 (ni U392.size hg36)
 have U396:=u1 U395 hu52 (ni U393.size hg41)
 have U397:=ut0 U396 hu57
 have U398:=u1 U397 hu66 (ni U396.size hg55)
 have U399:=u1 U398 hu71 (ni U396.size hg55)
 have U400:=u1 U399 hu75 (ni U396.size hg55)
 have U401:=u1 U400 hu79 (ni U396.size hg55)
 have U402:=u1 U401 hu91 (ni U396.size hg55)
 have U403:=u1 U402 hu96 (ni U396.size hg55)
 have U404:=u1 U403 hu100 (ni U396.size hg55)
 have U405:=u1 U404 hu104 (ni U396.size hg55)
 have U406:=u1 U405 hu108 (ni U396.size hg55)
 have U407:=u1 U406 hu112 (ni U396.size hg55)
 have U408:=u1 U407 hu116 (ni U396.size hg55)
 have U409:=u1 U408 hu132 (ni U396.size hg55)
 have U410:=u1 U409 hu137 (ni U396.size hg55)
 have U411:=u1 U410 hu141 (ni U396.size hg55)
 have U412:=u1 U411 hu145 (ni U396.size hg55)
 have U413:=u1 U412 hu149 (ni U396.size hg55)
 have U414:=u1 U413 hu169 (ni U396.size hg55)
 have U415:=u1 U414 hu174 (ni U396.size hg55)
 have U416:=u1 U415 hu177 (ni U396.size hg55)
 have U417:=ut0 U416 hu386
 have U418:=u1 U417 hu389 (ni U416.size hg384)
 have r419:=ub U418 B13
 refine L0<|Osw r419 #[.func (.func 66) #[] #[],.func (.func 67) #[] #[]] fun w420 B421 hu422=>Pl 1<|nt<|rt<|rct B421 (.bool true)<|?_
 rw [hkf]
 have U423:=ut0 U205 hu386
 have U424:=u1 U423 hu389 (ni U205.size hg384)
 have U425:=u1 U424 hu422 (nr hg12)
 exact ⟨rfl,U425⟩
 refine L0<|Olk (hf:=(fno (q:=.u8) (x:=x) codecs (by unfold codecs; exact findNow_no _ _ (by intro e he; simp only [List.mem_cons,List.not_mem_nil,or_false] at he; obtain ⟨z1,z2,z5,z15,z3,z4,z6,z16,z22,z23,z24,z7,z8,z11,z12,z17,z20,z21,z43⟩:=hk; rcases he with rfl | rfl | rfl | rfl | rfl | rfl | rfl | rfl | rfl | rfl | rfl | rfl | rfl | rfl | rfl | rfl | rfl | rfl | rfl <;> exact ⟨_,rfl,fun h=>by omega⟩)))) B176 x (.agg #[.nilFunc,.nilFunc]) none<|Pl 3<|L0<|Oal #[.nilFunc,.nilFunc] fun g426 w427 hg428 B429 hu430=>L0<|Osw B429 #[.nilFunc,.nilFunc] fun w431 B432 hu433=>Pl 1<|ng<|L0<|Olw B432<|Pl 1<|?_
 have U434:=ut0 hu19 hu24
 have U435:=u1 U434 hu28 (nr hg17)
 have U436:=u1 U435 hu33 (ni hu19.size hg22)
 have U437:=ut0 U436 hu38
 have U438:=ut0 U437 hu43
 have U439:=u1 U438 hu47 (ni U436.size hg36)
 have U440:=u1 U439 hu52 (ni U437.size hg41)
 have U441:=ut0 U440 hu57
 have U442:=u1 U441 hu66 (ni U440.size hg55)
 have U443:=u1 U442 hu71 (ni U440.size hg55)
 have U444:=u1 U443 hu75 (ni U440.size hg55)
 have U445:=u1 U444 hu79 (ni U440.size hg55)
 have U446:=u1 U445 hu91 (ni U440.size hg55)
 have U447:=u1 U446 hu96 (ni U440.size hg55)
 have U448:=u1 U447 hu100 (ni U440.size hg55)
 have U449:=u1 U448 hu104 (ni U440.size hg55)
 have U450:=u1 U449 hu108 (ni U440.size hg55)
 have U451:=u1 U450 hu112 (ni U440.size hg55)
 have U452:=u1 U451 hu116 (ni U440.size hg55)
 have U453:=u1 U452 hu132 (ni U440.size hg55)
 have U454:=u1 U453 hu137 (ni U440.size hg55)
 have U455:=u1 U454 hu141 (ni U440.size hg55)
 have U456:=u1 U455 hu145 (ni U440.size hg55)
 have U457:=u1 U456 hu149 (ni U440.size hg55)
 have U458:=u1 U457 hu169 (ni U440.size hg55)
 have U459:=u1 U458 hu174 (ni U440.size hg55)
 have U460:=u1 U459 hu177 (ni U440.size hg55)
 have U461:=ut0 U460 hu430
 have U462:=u1 U461 hu433 (ni U460.size hg428)
 have r463:=ub U462 B13
 refine L0<|Osw r463 #[.nilFunc,.nilFunc] fun w464 B465 hu466=>Pl 1<|nt<|rt<|rct B465 (.bool false)<|?_
 rw [hkf]
 have U467:=ut0 U205 hu430
 have U468:=u1 U467 hu433 (ni U205.size hg428)
 have U469:=u1 U468 hu466 (nr hg12)
 exact ⟨rfl,U469⟩
open Go.RowKit
theorem run_pairneq {ev:Operand→Value} {o:Oper} {x y:Operand} {t:TypeId} {a b:Int} {w:World} (ho:o.op = .binOp .neq 134 x y t)
    (hx:ev x = .agg #[.int .u8 a,.int .u8 b]) (hy:ev y = .agg #[.int .u8 0,.int .u8 0]) : (execOp ev o).run Tryz.prog w = .ok (.value (.bool ((a != 0) || (b != 0)))) w:=by
  unfold execOp
  rw [ho]
  simp only [hx,hy]
  cases a with
  | ofNat a =>
    cases a with
    | zero =>
      cases b with
      | ofNat b =>
        cases b with
        | zero=>kernel_rfl
        | succ b=>kernel_rfl
      | negSucc b=>kernel_rfl
    | succ a=>kernel_rfl
  | negSucc a=>kernel_rfl
def refM (a b:Int) : Msg:={ Msg.zero with code:=a,fail:=b }
def pairB (a b:Int) : Bool:=(((a != 0) || (b != 0)) && publicB a) && failureB b
set_option maxRecDepth 100000 in
set_option maxHeartbeats 4000000 in
theorem pairof_any {a b:Int} {w:World}:Calls Tryz.prog 57 #[.agg #[.int .u8 a,.int .u8 b]] w (PVal (.agg #[.int .u8 a,.int .u8 b,.int .u16 0,.int .u16 0,.int .u16 0,.int .u16 0,.int .u16 0,.int .u16 0,.int .u16 0,.int .u16 0,.int .u16 0,.int .u16 0,.slice none 0 0,.slice none 0 0,.slice none 0 0,.slice none 0 0,.int .u8 0,.int .u8 0,.int .u8 0,.int .u8 0,.int .u8 0,.slice none 0 0]) w):=by
 refine en 8 Tryz.func57 rfl<|sg<|L0<|Obx #[.int .u8 a,.int .u8 b] fun g10 w11 hg12 B13 hu14=>L0<|Oal mZ fun g15 w16 hg17 B18 hu19=>ng<|Pl 1<|?_
 have r20:=ub hu19 B13
 refine L0<|Olb r20 0<|Pl 1<|L0<|Olb r20 1<|Pl 1<|L0<|Osw B18 (mG a b 0 0 0 0 0 0 0 0 0 0 nS nS nS nS 0 0 0 0 0 nS) fun w21 B22 hu23=>nt<|rt<|rc1 B22<|?_
 have U24:=ut0 hu14 hu19
 have U25:=u1 U24 hu23 (ni hu14.size hg17)
 exact ⟨rfl,U25⟩
set_option maxRecDepth 100000 in
set_option maxHeartbeats 4000000 in
theorem right_any {a b:Int} {w:World}:Calls Tryz.prog 55 #[.agg #[.int .u8 a,.int .u8 b]] w (PVal (.bool (pairB a b)) w):=by
 refine en 16 Tryz.func55 rfl<|sg<|L0<|Obx #[.int .u8 a,.int .u8 b] fun g10 w11 hg12 B13 hu14=>Pl 1<|ng<|L0<|Olw B13<|Pl 1<|L0<|Or_ (.bool ((a != 0) || (b != 0))) (run_pairneq rfl (by kernel_rfl) (by kernel_rfl))<|Pl 1<|bl 6 (((a != 0) || (b != 0))) (fun q15=>?_) (fun q15=>?_)
 refine Pl 1<|L1<|Olb B13 0<|L1<|Oc<|m1 (public_any (x:=a) (w:=_)) fun w16 hu17=>Pl 2<|?_
 have U18:=ut0 hu14 hu17
 refine bl 11 ((publicB a)) (fun q19=>?_) (fun q19=>?_)
 refine Pl 1<|?_
 have r20:=ub hu17 B13
 refine L1<|Olb r20 1<|L1<|Oc<|m1 (failure_any (x:=b) (w:=_)) fun w21 hu22=>Pl 2<|nt<|rt<|rr (.bool (failureB b))<|?_
 have hs:pairB a b=(failureB b):=by
   unfold pairB
   (try simp only [q15,q19,bs,if_true,if_false,decide_true,decide_false])
   done
 rw [hs]
 have U23:=ut0 U18 hu22
 exact ⟨rfl,U23⟩
 refine Pl 5<|nt<|rt<|rr (.bool false)<|?_
 have hs:pairB a b=false:=by
   unfold pairB
   (try simp only [q15,q19,bs,if_true,if_false,decide_true,decide_false])
   done
 rw [hs]
 exact ⟨rfl,U18⟩
 have q15a:=(or_f q15).1
 have q15b:=(or_f q15).2
 have q15ap:=eq_of_bnei q15a
 have q15bp:=eq_of_bnei q15b
 refine Pl 10<|nt<|rt<|rr (.bool false)<|?_
 have hs:pairB a b=false:=by
   unfold pairB
   (try simp only [q15,q15a,q15b,bs,if_true,if_false,decide_true,decide_false])
   done
 rw [hs]
 exact ⟨rfl,hu14⟩
def refP (b:List Int) : Msg × Int :=
  if (b.length:Int) == 0 then (Msg.zero,2)
  else if decide (b.getD 0 0 < 128) then (Msg.zero,4)
  else if !(publicB ((b.getD 0 0 - 128) % 256)) then (Msg.zero,4)
  else if (b.length:Int) == 1 then (Msg.zero,2)
  else if !(failureB (b.getD 1 0)) then (Msg.zero,6)
  else if decide (2 < (b.length:Int)) then (Msg.zero,3)
  else (refM ((b.getD 0 0 - 128) % 256) (b.getD 1 0),0)
set_option maxRecDepth 100000 in
set_option maxHeartbeats 4000000 in
theorem ref_parse0 {m:Bool} {A:Option Addr} {cp:Nat} {b:List Int} {w:World} (hsl:RdB m w (.slice A b.length cp) b) (hb:b.length≤1048576) :
    Calls Tryz.prog 165 #[.slice A b.length cp] w (PMsg (refP b) w):=by
 have hln:(b.length:Int)≤1048576:=by omega
 refine en 49 Tryz.func165 rfl<|sg<|L0<|Oal mZ fun g10 w11 hg12 B13 hu14=>Pl 1<|nt<|sq<|bk<|sg<|Pl 4<|nt<|?_
 refine cb ((((b.length:Nat) : Int) == 0)) (fun q15=>?_) (fun q15=>?_)
 have q15p:=eq_of_beqi q15
 refine sg<|Pl 1<|L0<|Osw B13 mZ fun w16 B17 hu18=>Pl 1<|nt<|rt<|br<|tr<|rct B17 (.int .i64 2)<|?_
 have hs:refP b=(Msg.zero,2):=by
   unfold refP
   (try simp only [q15,bs,if_true,if_false,decide_true,decide_false,Bool.not_eq_true,reduceIte])
   all_goals rfl
 rw [hs]
 have U19:=u1 hu14 hu18 (nr hg12)
 exact bad_res U19
 have q15p:=ne_of_beqi q15
 refine sg<|Pl 1<|?_
 have r20:=RdB.old hsl hu14
 refine x23 (RdB.at_ r20 0 (by omega)) fun b21 o22 hA23 hl24 hr25=>L0<|Oix b.length 0 hA23 (by omega)<|L0<|Old (p:=⟨b21,o22 + 0,none⟩) (v:=.int .u8 (b.getD 0 0)) hl24<|Pl 2<|bl 14 ((decide ((b.getD 0 0) < 128))) (fun q26=>?_) (fun q26=>?_)
 have q26p:=of_decide_eq_true q26
 refine Pl 8<|nt<|c1<|sg<|Pl 1<|L0<|Osw B13 mZ fun w27 B28 hu29=>Pl 1<|nt<|rt<|br<|tr<|?_
 refine rct B28 (.int .i64 4)<|?_
 have hs:refP b=(Msg.zero,4):=by
   unfold refP
   (try simp only [q15,q26,bs,if_true,if_false,decide_true,decide_false,Bool.not_eq_true,reduceIte])
   all_goals rfl
 rw [hs]
 have U30:=u1 hu14 hu29 (nr hg12)
 exact bad_res U30
 have q26p:=of_decide_eq_false q26
 refine Pl 1<|L1<|Oix b.length 0 hA23 (by omega)<|L1<|Old (p:=⟨b21,o22 + 0,none⟩) (v:=.int .u8 (b.getD 0 0)) hl24<|Pl 1<|L1<|Oc<|m1 (public_any (x:=(((b.getD 0 0) - 128) % 256)) (w:=_)) fun w31 hu32=>Pl 3<|nt<|?_
 have U33:=ut0 hu14 hu32
 refine cb ((!(publicB (((b.getD 0 0) - 128) % 256)))) (fun q34=>?_) (fun q34=>?_)
 have q34n:(publicB (((b.getD 0 0) - 128) % 256))=false:=by simpa using q34
 refine sg<|Pl 1<|?_
 have r35:=ub hu32 B13
 refine L0<|Osw r35 mZ fun w36 B37 hu38=>Pl 1<|nt<|rt<|br<|tr<|rct B37 (.int .i64 4)<|?_
 have hs:refP b=(Msg.zero,4):=by
   unfold refP
   (try simp only [q15,q26,q34,q34n,bs,if_true,if_false,decide_true,decide_false,Bool.not_eq_true,reduceIte])
   all_goals rfl
 rw [hs]
 have U39:=u1 U33 hu38 (nr hg12)
 exact bad_res U39
 have q34n:(publicB (((b.getD 0 0) - 128) % 256))=true:=by simpa using q34
 refine sg<|Pl 4<|nt<|cb ((((b.length:Nat) : Int) == 1)) (fun q40=>?_) (fun q40=>?_)
 have q40p:=eq_of_beqi q40
 refine sg<|Pl 1<|?_
 have r41:=ub hu32 B13
 refine L0<|Osw r41 mZ fun w42 B43 hu44=>Pl 1<|nt<|rt<|br<|tr<|rct B43 (.int .i64 2)<|?_
 have hs:refP b=(Msg.zero,2):=by
   unfold refP
   (try simp only [q15,q26,q34,q34n,q40,bs,if_true,if_false,decide_true,decide_false,Bool.not_eq_true,reduceIte])
   all_goals rfl
 rw [hs]
 have U45:=u1 U33 hu44 (nr hg12)
 exact bad_res U45
 have q40p:=ne_of_beqi q40
 refine sg<|Pl 1<|?_
 have r46:=RdB.old r20 hu32
 refine x23 (RdB.at_ r46 1 (by omega)) fun b47 o48 hA49 hl50 hr51=>L0<|Oix b.length 1 hA49 (by omega)<|L0<|Old (p:=⟨b47,o48 + 1,none⟩) (v:=.int .u8 (b.getD 1 0)) hl50<|L0<|Oc<|m1 (failure_any (x:=(b.getD 1 0)) (w:=_)) fun w52 hu53=>Pl 2<|nt<|?_
 have U54:=ut0 U33 hu53
 refine cb ((!(failureB (b.getD 1 0)))) (fun q55=>?_) (fun q55=>?_)
 have q55n:(failureB (b.getD 1 0))=false:=by simpa using q55
 refine sg<|Pl 1<|?_
 have U56:=ut0 hu32 hu53
 have r57:=ub U56 B13
 refine L0<|Osw r57 mZ fun w58 B59 hu60=>Pl 1<|nt<|rt<|br<|tr<|rct B59 (.int .i64 6)<|?_
 have hs:refP b=(Msg.zero,6):=by
   unfold refP
   (try simp only [q15,q26,q34,q34n,q40,q55,q55n,bs,if_true,if_false,decide_true,decide_false,Bool.not_eq_true,reduceIte])
   all_goals rfl
 rw [hs]
 have U61:=u1 U54 hu60 (nr hg12)
 exact bad_res U61
 have q55n:(failureB (b.getD 1 0))=true:=by simpa using q55
 refine sg<|Pl 4<|nt<|cb ((decide (2 < ((b.length:Nat) : Int)))) (fun q62=>?_) (fun q62=>?_)
 have q62p:=of_decide_eq_true q62
 refine sg<|Pl 1<|?_
 have U63:=ut0 hu32 hu53
 have r64:=ub U63 B13
 refine L0<|Osw r64 mZ fun w65 B66 hu67=>Pl 1<|nt<|rt<|br<|tr<|rct B66 (.int .i64 3)<|?_
 have hs:refP b=(Msg.zero,3):=by
   unfold refP
   (try simp only [q15,q26,q34,q34n,q40,q55,q55n,q62,bs,if_true,if_false,decide_true,decide_false,Bool.not_eq_true,reduceIte])
   all_goals rfl
 rw [hs]
 have U68:=u1 U54 hu67 (nr hg12)
 exact bad_res U68
 have q62p:=of_decide_eq_false q62
 refine sk<|bn<|tn<|sq<|?_
 have r88:=RdB.old r46 hu53
 refine x23 (RdB.at_ r88 0 (by omega)) fun b89 o90 hA91 hl92 hr93=>x23 (RdB.at_ r88 1 (by omega)) fun b94 o95 hA96 hl97 hr98=>Rg 11 (fun w'=>w'.cell? ⟨b89,o90 + 0,none⟩=some (.int .u8 (b.getD 0 0))∧w'.cell? ⟨b94,o95 + 1,none⟩=some (.int .u8 (b.getD 1 0))) fun w107 hu108=>hld ⟨(uc hu108 hl92),(uc hu108 hl97)⟩ fun hS109=>Rt 0 hS109<|Ri1 1 hS109 b.length 0 0 rfl hA91 (by omega)<|Rl 2 hS109 (fun _ hs=>hs.1)<|Rt 3 hS109<|Rt 4 hS109<|Ri1 5 hS109 b.length 1 1 rfl hA96 (by omega)<|Rl 6 hS109 (fun _ hs=>hs.2)<|Rt 7 hS109<|R0 8 rfl<|Oc<|m1 (pairof_any (a:=(((b.getD 0 0) - 128) % 256)) (b:=(b.getD 1 0)) (w:=_)) fun w110 hu111=>?_
 have U113:=ut0 hu108 hu111
 refine hld ⟨(uc U113 hl92),(uc U113 hl97)⟩ fun hS112=>?_
 have U114:=ut0 hu32 hu53
 have U115:=ut0 U114 hu108
 have U116:=ut0 U115 hu111
 have r117:=ub U116 B13
 refine R0 9 rfl<|Osw r117 (mG (((b.getD 0 0) - 128) % 256) (b.getD 1 0) 0 0 0 0 0 0 0 0 0 0 nS nS nS nS 0 0 0 0 0 nS) fun w118 B119 hu120=>?_
 have U122:=u1 (Upd.mono (S':=[g10]) U113 all0) hu120 im
 have U123:=ut0 hu53 hu108
 have U124:=ut0 U123 hu111
 have U125:=u1 (Upd.mono (S':=[g10]) U124 all0) hu120 im
 have U126:=u1 (Upd.mono (S':=[g10]) U116 all0) hu120 im
 have U127:=ut0 U54 hu108
 have U128:=ut0 U127 hu111
 have U129:=u1 U128 hu120 (nr hg12)
 have r130:=RdB.old hsl U129
 refine hld ⟨(cB r130 hA91 0 (by omega)),(cB r130 hA96 1 (by omega))⟩ fun hS121=>Rt 10 hS121<|re<|tn<|rt<|rct B119 (.int .i64 0)<|?_
 have hs:refP b=((Msg.mk (((b.getD 0 0) - 128) % 256) (b.getD 1 0) 0 0 0 0 0 0 0 0 0 0 [] [] [] [] 0 0 0 0 0 []),0):=by
   unfold refP
   (try simp only [q15,q26,q34,q34n,q40,q55,q55n,q62,bs,if_true,if_false,decide_true,decide_false,Bool.not_eq_true,reduceIte])
   all_goals rfl
 rw [hs]
 exact ⟨_,rfl,⟨_,_,_,_,_,rfl,RdG.nil ..,RdG.nil ..,RdG.nil ..,RdG.nil ..,RdG.nil ..,⟨(b8 (x:=(((b.getD 0 0) - 128) % 256)) (by omega)),(b8 (x:=(b.getD 1 0)) (by omega)),(b16 (x:=0) (by omega)),(b16 (x:=0) (by omega)),(b16 (x:=0) (by omega)),(b16 (x:=0) (by omega)),(b16 (x:=0) (by omega)),(b16 (x:=0) (by omega)),(b16 (x:=0) (by omega)),(b16 (x:=0) (by omega)),(b16 (x:=0) (by omega)),(b16 (x:=0) (by omega)),(b8 (x:=0) (by omega)),(b8 (x:=0) (by omega)),(b8 (x:=0) (by omega)),(b8 (x:=0) (by omega)),(b8 (x:=0) (by omega))⟩⟩,U129⟩
theorem ref_parse {m:Bool} {v:Value} {b:List Int} {w:World} (h:RdB m w v b) (hb:b.length≤1048576) : Calls Tryz.prog 165 #[v] w (PMsg (refP b) w):=by
  obtain ⟨A,cp,rfl,_,_⟩:=h.shape
  exact ref_parse0 h hb
open Go.RowKit
def coilsLay (dir:Int) (M:Msg) : List Int :=
  if M.code == 5 then putW [M.addr,M.value]
  else if M.code == 15 && dir == 0 then ((putW [M.addr,M.count]++[((packB M.bits).length:Int) % 256])++packB M.bits)
  else if dir == 1 && M.code != 15 then [(M.data.length:Int) % 256]++M.data
  else putW [M.addr,M.count]
set_option maxRecDepth 100000 in
set_option maxHeartbeats 4000000 in
theorem coils_lay_t {m:Bool} {cs:Array Value} {M:Msg} {w:World} {dir:Int} (h:MsgRd m w cs.toList M) (hf:MsgFew M) (hd0:(dir == 0)=true) : Calls Tryz.prog 85 #[.int .i64 dir,.agg cs] w (PLay (coilsLay dir M) w):=by
 obtain ⟨vw,vb,vd,vr,vo,h0,hw,hbt,hd,hr,ho,hR⟩:=h
 obtain rfl:cs=(msgCells M vw vb vd vr vo).toArray:=by apply Array.toList_inj.1; simpa using h0
 clear h0
 obtain ⟨Aw,kw,rfl,_,_⟩:=hw.shape
 obtain ⟨Ab,kb,rfl,_,_⟩:=hbt.shape
 obtain ⟨Ad,kd,rfl,_,_⟩:=hd.shape
 obtain ⟨Ar,kr,rfl,_,_⟩:=hr.shape
 obtain ⟨Ao,ko,rfl,_,_⟩:=ho.shape
 obtain ⟨q0,q1,q2,q3,q4,q5,q6,q7,q8,q9,q10,q11,q16,q17,q18,q19,q20⟩:=hR
 simp only [B8,B16] at q0 q1 q2 q3 q4 q5 q6 q7 q8 q9 q10 q11 q16 q17 q18 q19 q20
 have hf1:=hf.words
 have hf2:=hf.bits
 have hf3:=hf.data
 have hf4:=hf.recs
 have hf5:=hf.objects
 refine en 62 Tryz.func85 rfl<|sg<|L0<|Obx (mG M.code M.fail M.addr M.count M.value M.and_ M.or_ M.addr2 M.sub M.status M.events M.messages (.slice Aw M.words.length kw) (.slice Ab M.bits.length kb) (.slice Ad M.data.length kd) (.slice Ar M.recs.length kr) M.mei M.kind M.level M.more M.next (.slice Ao M.objects.length ko)) fun g10 w11 hg12 B13 hu14=>Pl 1<|nt<|sq<|bk<|sg<|Pl 1<|L0<|Olb B13 0<|Pl 2<|nl<|?_
 refine tn<|cb ((M.code == 5)) (fun q15=>?_) (fun q15=>?_)
 have q15p:=eq_of_beqi q15
 refine sg<|Pl 1<|L0<|Olb B13 2<|Pl 1<|L0<|Olb B13 4<|L0<|Olt (m:=2) (e:=22) #[.int .u16 M.addr,.int .u16 M.value] fun g16 w17 hg18 B19 hu20=>?_
 have ow21:=litW hg18 (xs:=[M.addr,M.value]) (by as_aux_lemma=>kernel_rfl) (rng_cons (by omega) (rng_cons (by omega) rng_nil)) (by (try simp only [List.length_cons,List.length_nil]); omega) B19
 refine L0<|Oc<|so2 (put_any (xs:=[M.addr,M.value]) (ow21).rd (by (try simp only [List.length_cons,List.length_nil]); omega)) fun A26 cp27 w22 rd30 hl28 hm29 hu25=>Pl 1<|nt<|rt<|br<|tr<|rr (.slice A26 ((putW ([M.addr,M.value])).length) cp27)<|?_
 have hs:coilsLay dir M=(putW ([M.addr,M.value])):=by
   unfold coilsLay 
   (try simp only [hd0,q15,bs,if_true,if_false,decide_true,decide_false,reduceIte])
   all_goals rfl
 rw [hs]
 have U31:=ut0 hu14 hu20
 have U32:=ut0 U31 hu25
 exact ⟨_,rfl,(OwnG.weaken rd30 (le hu14.size hu20.size)),U32⟩
 have q15p:=ne_of_beqi q15
 refine sg<|Pl 1<|L0<|Olb B13 0<|Pl 2<|cu 3 [20] 23 (((M.code == 15) && (dir == 0))) (fun K K34=>?_) ?_
 refine bl 20 ((M.code == 15)) (fun q33=>?_) (fun q33=>?_)
 have q33p:=eq_of_beqi q33
 exact Pl 3<|ce K34 (dir == 0) (by rw [q33]; rfl)
 have q33p:=ne_of_beqi q33
 exact Pl 3<|ce K34 false (by rw [q33]; rfl)
 refine Pl 1<|nt<|cb (((M.code == 15) && (dir == 0))) (fun q35=>?_) (fun q35=>?_)
 have q35a:=(and_t q35).1
 have q35b:=(and_t q35).2
 have q35ap:=eq_of_beqi q35a
 have q35bp:=eq_of_beqi q35b
 refine sg<|Pl 1<|L0<|Olb B13 13<|?_
 have r36:=RdL.old hbt hu14
 refine L0<|Oc<|so2 (pack_any (l:=M.bits) r36 (by omega)) fun A41 cp42 w37 rd45 hl43 hm44 hu40=>?_
 have hk46:=packB_le M.bits
 refine Pl 1<|ng<|Pl 1<|?_
 have r47:=ub hu40 B13
 refine L0<|Olb r47 2<|Pl 1<|L0<|Olb r47 3<|L0<|Olt (m:=2) (e:=22) #[.int .u16 M.addr,.int .u16 M.count] fun g48 w49 hg50 B51 hu52=>?_
 have ow53:=litW hg50 (xs:=[M.addr,M.count]) (by as_aux_lemma=>kernel_rfl) (rng_cons (by omega) (rng_cons (by omega) rng_nil)) (by (try simp only [List.length_cons,List.length_nil]); omega) B51
 refine L0<|Oc<|so2 (put_any (xs:=[M.addr,M.count]) (ow53).rd (by (try simp only [List.length_cons,List.length_nil]); omega)) fun A58 cp59 w54 rd62 hl60 hm61 hu57=>Pl 3<|L0<|Olt (m:=1) (e:=5) #[.int .u8 ((((packB M.bits).length:Nat) : Int) % 256)] fun g63 w64 hg65 B66 hu67=>?_
 have ow68:=litB hg65 (xs:=[((((packB M.bits).length:Nat) : Int) % 256)]) (by as_aux_lemma=>kernel_rfl) (rng_cons (by omega) rng_nil) (by (try simp only [List.length_cons,List.length_nil]); omega) B66
 have r69:=own_stay rd62 hu67 (fun x hx=>not0) (fun _ _ h=>h)
 refine L0<|Oapp one_u8 (xs:=(putW ([M.addr,M.count]))) (ys:=([((((packB M.bits).length:Nat) : Int) % 256)])) (.int .u8 0) 1 r69 (ow68).rd (by (try simp only [List.length_append,List.length_cons,List.length_nil,putW_length]); omega) (le hu57.size hu67.size) fun A70 cp71 w72 ho73 hu74=>Pl 1<|?_
 have U75:=ut0 hu52 hu57
 have U76:=ut0 U75 hu67
 have U77:=ut U76 hu74 (all_app (ob_new rd62 hu52.size) all0)
 have r78:=own_stay rd45 U77 (fun x hx=>not0) (fun _ _ h=>h)
 refine L0<|Oapp one_u8 (xs:=((putW ([M.addr,M.count]))++[((((packB M.bits).length:Nat) : Int) % 256)])) (ys:=(packB M.bits)) (.int .u8 0) 1 ho73 (r78).rd (by (try simp only [List.length_append,List.length_cons,List.length_nil,putW_length]); omega) (le (le hu57.size hu67.size) hu74.size) fun A79 cp80 w81 ho82 hu83=>Pl 1<|nt<|rt<|br<|tr<|rr (.slice A79 ((((putW ([M.addr,M.count]))++[((((packB M.bits).length:Nat) : Int) % 256)])++(packB M.bits)).length) cp80)<|?_
 have hs:coilsLay dir M=(((putW ([M.addr,M.count]))++[((((packB M.bits).length:Nat) : Int) % 256)])++(packB M.bits)):=by
   unfold coilsLay 
   (try simp only [q35b,q15,q35,q35a,bs,if_true,if_false,decide_true,decide_false,reduceIte])
   all_goals rfl
 rw [hs]
 have U84:=ut0 hu14 hu40
 have U85:=ut0 U84 hu52
 have U86:=ut0 U85 hu57
 have U87:=ut0 U86 hu67
 have U88:=ut U87 hu74 (all_app (ob_new rd62 U85.size) all0)
 have U89:=ut U88 hu83 (all_app (ob_new ho73 U85.size) all0)
 exact ⟨_,rfl,(OwnG.weaken ho82 (le (le hu14.size hu40.size) hu52.size)),U89⟩
 have q35a:(M.code == 15)=false:=by simpa only [hd0,bs] using q35
 have q35ap:=ne_of_beqi q35a
 refine sg<|Pl 3<|cu 4 [43] 47 (((dir == 1) && (M.code != 15))) (fun K K91=>?_) ?_
 refine bl 43 ((dir == 1)) (fun q90=>?_) (fun q90=>?_)
 have q90p:=eq_of_beqi q90
 exact Pl 1<|L1<|Olb B13 0<|Pl 2<|ce K91 (M.code != 15) (by rw [q90]; rfl)
 have q90p:=ne_of_beqi q90
 exact Pl 4<|ce K91 false (by rw [q90]; rfl)
 refine Pl 1<|nt<|cb (((dir == 1) && (M.code != 15))) (fun q92=>?_) (fun q92=>?_)
 have q92a:=(and_t q92).1
 have q92b:=(and_t q92).2
 have q92ap:=eq_of_beqi q92a
 have q92bp:=ne_of_bnei q92b
 refine sg<|Pl 1<|L0<|Olb B13 14<|Pl 2<|L0<|Olt (m:=1) (e:=5) #[.int .u8 (((M.data.length:Nat) : Int) % 256)] fun g93 w94 hg95 B96 hu97=>?_
 have ow98:=litB hg95 (xs:=[(((M.data.length:Nat) : Int) % 256)]) (by as_aux_lemma=>kernel_rfl) (rng_cons (by omega) rng_nil) (by (try simp only [List.length_cons,List.length_nil]); omega) B96
 refine Pl 1<|?_
 have r99:=ub hu97 B13
 refine L0<|Olb r99 14<|?_
 have U100:=ut0 hu14 hu97
 have r101:=RdB.old hd U100
 refine L0<|Oapp one_u8 (xs:=([(((M.data.length:Nat) : Int) % 256)])) (ys:=M.data) (.int .u8 0) 1 ow98 r101 (by (try simp only [List.length_append,List.length_cons,List.length_nil,putW_length]); omega) hu97.size fun A102 cp103 w104 ho105 hu106=>Pl 1<|nt<|rt<|br<|tr<|rr (.slice A102 (([(((M.data.length:Nat) : Int) % 256)]++M.data).length) cp103)<|?_
 have hs:coilsLay dir M=([(((M.data.length:Nat) : Int) % 256)]++M.data):=by
   unfold coilsLay 
   (try simp only [hd0,q15,q35,q35a,q92,q92a,q92b,bs,if_true,if_false,decide_true,decide_false,reduceIte])
   all_goals rfl
 rw [hs]
 have U107:=ut U100 hu106 (all_app (ob_new ow98 hu14.size) all0)
 exact ⟨_,rfl,(OwnG.weaken ho105 hu14.size),U107⟩
 refine sk<|bn<|tn<|sg<|Pl 1<|L0<|Olb B13 2<|Pl 1<|L0<|Olb B13 3<|L0<|Olt (m:=2) (e:=22) #[.int .u16 M.addr,.int .u16 M.count] fun g108 w109 hg110 B111 hu112=>?_
 have ow113:=litW hg110 (xs:=[M.addr,M.count]) (by as_aux_lemma=>kernel_rfl) (rng_cons (by omega) (rng_cons (by omega) rng_nil)) (by (try simp only [List.length_cons,List.length_nil]); omega) B111
 refine L0<|Oc<|so2 (put_any (xs:=[M.addr,M.count]) (ow113).rd (by (try simp only [List.length_cons,List.length_nil]); omega)) fun A118 cp119 w114 rd122 hl120 hm121 hu117=>Pl 1<|nt<|rt<|rr (.slice A118 ((putW ([M.addr,M.count])).length) cp119)<|?_
 have hs:coilsLay dir M=(putW ([M.addr,M.count])):=by
   unfold coilsLay 
   (try simp only [hd0,q15,q35,q35a,q92,bs,if_true,if_false,decide_true,decide_false,reduceIte])
   all_goals rfl
 rw [hs]
 have U123:=ut0 hu14 hu112
 have U124:=ut0 U123 hu117
 exact ⟨_,rfl,(OwnG.weaken rd122 (le hu14.size hu112.size)),U124⟩
set_option maxRecDepth 100000 in
set_option maxHeartbeats 4000000 in
theorem coils_lay_f {m:Bool} {cs:Array Value} {M:Msg} {w:World} {dir:Int} (h:MsgRd m w cs.toList M) (hf:MsgFew M) (hd0:(dir == 0)=false) : Calls Tryz.prog 85 #[.int .i64 dir,.agg cs] w (PLay (coilsLay dir M) w):=by
 obtain ⟨vw,vb,vd,vr,vo,h0,hw,hbt,hd,hr,ho,hR⟩:=h
 obtain rfl:cs=(msgCells M vw vb vd vr vo).toArray:=by apply Array.toList_inj.1; simpa using h0
 clear h0
 obtain ⟨Aw,kw,rfl,_,_⟩:=hw.shape
 obtain ⟨Ab,kb,rfl,_,_⟩:=hbt.shape
 obtain ⟨Ad,kd,rfl,_,_⟩:=hd.shape
 obtain ⟨Ar,kr,rfl,_,_⟩:=hr.shape
 obtain ⟨Ao,ko,rfl,_,_⟩:=ho.shape
 obtain ⟨q0,q1,q2,q3,q4,q5,q6,q7,q8,q9,q10,q11,q16,q17,q18,q19,q20⟩:=hR
 simp only [B8,B16] at q0 q1 q2 q3 q4 q5 q6 q7 q8 q9 q10 q11 q16 q17 q18 q19 q20
 have hf1:=hf.words
 have hf2:=hf.bits
 have hf3:=hf.data
 have hf4:=hf.recs
 have hf5:=hf.objects
 refine en 62 Tryz.func85 rfl<|sg<|L0<|Obx (mG M.code M.fail M.addr M.count M.value M.and_ M.or_ M.addr2 M.sub M.status M.events M.messages (.slice Aw M.words.length kw) (.slice Ab M.bits.length kb) (.slice Ad M.data.length kd) (.slice Ar M.recs.length kr) M.mei M.kind M.level M.more M.next (.slice Ao M.objects.length ko)) fun g10 w11 hg12 B13 hu14=>Pl 1<|nt<|sq<|bk<|sg<|Pl 1<|L0<|Olb B13 0<|Pl 2<|nl<|?_
 refine tn<|cb ((M.code == 5)) (fun q15=>?_) (fun q15=>?_)
 have q15p:=eq_of_beqi q15
 refine sg<|Pl 1<|L0<|Olb B13 2<|Pl 1<|L0<|Olb B13 4<|L0<|Olt (m:=2) (e:=22) #[.int .u16 M.addr,.int .u16 M.value] fun g16 w17 hg18 B19 hu20=>?_
 have ow21:=litW hg18 (xs:=[M.addr,M.value]) (by as_aux_lemma=>kernel_rfl) (rng_cons (by omega) (rng_cons (by omega) rng_nil)) (by (try simp only [List.length_cons,List.length_nil]); omega) B19
 refine L0<|Oc<|so2 (put_any (xs:=[M.addr,M.value]) (ow21).rd (by (try simp only [List.length_cons,List.length_nil]); omega)) fun A26 cp27 w22 rd30 hl28 hm29 hu25=>Pl 1<|nt<|rt<|br<|tr<|rr (.slice A26 ((putW ([M.addr,M.value])).length) cp27)<|?_
 have hs:coilsLay dir M=(putW ([M.addr,M.value])):=by
   unfold coilsLay 
   (try simp only [hd0,q15,bs,if_true,if_false,decide_true,decide_false,reduceIte])
   all_goals rfl
 rw [hs]
 have U31:=ut0 hu14 hu20
 have U32:=ut0 U31 hu25
 exact ⟨_,rfl,(OwnG.weaken rd30 (le hu14.size hu20.size)),U32⟩
 have q15p:=ne_of_beqi q15
 refine sg<|Pl 1<|L0<|Olb B13 0<|Pl 2<|cu 3 [20] 23 (((M.code == 15) && (dir == 0))) (fun K K34=>?_) ?_
 refine bl 20 ((M.code == 15)) (fun q33=>?_) (fun q33=>?_)
 have q33p:=eq_of_beqi q33
 exact Pl 3<|ce K34 (dir == 0) (by rw [q33]; rfl)
 have q33p:=ne_of_beqi q33
 exact Pl 3<|ce K34 false (by rw [q33]; rfl)
 refine Pl 1<|nt<|?_
 have k35:((M.code == 15) && (dir == 0))=false:=by simp only [hd0,bs]
 refine cf k35<|sg<|Pl 3<|cu 4 [43] 47 (((dir == 1) && (M.code != 15))) (fun K K37=>?_) ?_
 refine bl 43 ((dir == 1)) (fun q36=>?_) (fun q36=>?_)
 have q36p:=eq_of_beqi q36
 exact Pl 1<|L1<|Olb B13 0<|Pl 2<|ce K37 (M.code != 15) (by rw [q36]; rfl)
 have q36p:=ne_of_beqi q36
 exact Pl 4<|ce K37 false (by rw [q36]; rfl)
 refine Pl 1<|nt<|cb (((dir == 1) && (M.code != 15))) (fun q38=>?_) (fun q38=>?_)
 have q38a:=(and_t q38).1
 have q38b:=(and_t q38).2
 have q38ap:=eq_of_beqi q38a
 have q38bp:=ne_of_bnei q38b
 refine sg<|Pl 1<|L0<|Olb B13 14<|Pl 2<|L0<|Olt (m:=1) (e:=5) #[.int .u8 (((M.data.length:Nat) : Int) % 256)] fun g39 w40 hg41 B42 hu43=>?_
 have ow44:=litB hg41 (xs:=[(((M.data.length:Nat) : Int) % 256)]) (by as_aux_lemma=>kernel_rfl) (rng_cons (by omega) rng_nil) (by (try simp only [List.length_cons,List.length_nil]); omega) B42
 refine Pl 1<|?_
 have r45:=ub hu43 B13
 refine L0<|Olb r45 14<|?_
 have U46:=ut0 hu14 hu43
 have r47:=RdB.old hd U46
 refine L0<|Oapp one_u8 (xs:=([(((M.data.length:Nat) : Int) % 256)])) (ys:=M.data) (.int .u8 0) 1 ow44 r47 (by (try simp only [List.length_append,List.length_cons,List.length_nil,putW_length]); omega) hu43.size fun A48 cp49 w50 ho51 hu52=>Pl 1<|nt<|rt<|br<|tr<|rr (.slice A48 (([(((M.data.length:Nat) : Int) % 256)]++M.data).length) cp49)<|?_
 have hs:coilsLay dir M=([(((M.data.length:Nat) : Int) % 256)]++M.data):=by
   unfold coilsLay 
   (try simp only [hd0,q15,k35,q38,q38a,q38b,bs,if_true,if_false,decide_true,decide_false,reduceIte])
   all_goals rfl
 rw [hs]
 have U53:=ut U46 hu52 (all_app (ob_new ow44 hu14.size) all0)
 exact ⟨_,rfl,(OwnG.weaken ho51 hu14.size),U53⟩
 refine sk<|bn<|tn<|sg<|Pl 1<|L0<|Olb B13 2<|Pl 1<|L0<|Olb B13 3<|L0<|Olt (m:=2) (e:=22) #[.int .u16 M.addr,.int .u16 M.count] fun g54 w55 hg56 B57 hu58=>?_
 have ow59:=litW hg56 (xs:=[M.addr,M.count]) (by as_aux_lemma=>kernel_rfl) (rng_cons (by omega) (rng_cons (by omega) rng_nil)) (by (try simp only [List.length_cons,List.length_nil]); omega) B57
 refine L0<|Oc<|so2 (put_any (xs:=[M.addr,M.count]) (ow59).rd (by (try simp only [List.length_cons,List.length_nil]); omega)) fun A64 cp65 w60 rd68 hl66 hm67 hu63=>Pl 1<|nt<|rt<|rr (.slice A64 ((putW ([M.addr,M.count])).length) cp65)<|?_
 have hs:coilsLay dir M=(putW ([M.addr,M.count])):=by
   unfold coilsLay 
   (try simp only [hd0,q15,k35,q38,bs,if_true,if_false,decide_true,decide_false,reduceIte])
   all_goals rfl
 rw [hs]
 have U69:=ut0 hu14 hu58
 have U70:=ut0 U69 hu63
 exact ⟨_,rfl,(OwnG.weaken rd68 (le hu14.size hu58.size)),U70⟩
theorem coils_lay {m:Bool} {cs:Array Value} {M:Msg} {w:World} {dir:Int} (h:MsgRd m w cs.toList M) (hf:MsgFew M) : Calls Tryz.prog 85 #[.int .i64 dir,.agg cs] w (PLay (coilsLay dir M) w):=by
  rcases bool_dich (dir == 0) with h0 | h0
  · exact coils_lay_t h hf h0
  · exact coils_lay_f h hf h0
open Go.RowKit
def PBool (x:Bool) (w:World) (e:Ending) (w':World) : Prop:=e = .returned (.bool x)∧Upd [] w w'
theorem eqPre {α:Type} [DecidableEq α] {xs ys:List α} {d:α} (h:xs.length=ys.length) {k:Nat} (hk:k < xs.length) (hp:xs.take k=ys.take k) (hx:xs.getD k d=ys.getD k d) : xs.take (k + 1)=ys.take (k + 1):=by
  rw [List.take_add_one,List.take_add_one,hp]
  simp only [List.getD_eq_getElem?_getD,List.getElem?_eq_getElem hk,List.getElem?_eq_getElem (h ▸ hk),Option.getD_some] at hx
  simp [List.getElem?_eq_getElem hk,List.getElem?_eq_getElem (h ▸ hk),hx]
theorem eqNo {α:Type} [DecidableEq α] {xs ys:List α} {d:α} (k:Nat) (hx:xs.getD k d ≠ ys.getD k d) : xs ≠ ys:=fun h=>hx (by rw [h])
set_option maxRecDepth 100000 in
theorem eqW_any {m m':Bool} {u v:Value} {xs ys:List Int} {w:World} (hx:RdW m w u xs) (hy:RdW m' w v ys) : Calls Tryz.prog 71 #[u,v] w (PBool (decide (xs=ys)) w):=by
  have hhx:=hx
  have hhy:=hy
  obtain ⟨A,c,rfl,hc1,hc2⟩:=hx.shape
  obtain ⟨B,c',rfl,hd1,hd2⟩:=hy.shape
  have hn:xs.length≤9223372036854775807:=by have:=hc2; unfold maxLen at this; omega
  by_cases hl:xs.length=ys.length
  case neg =>
    have hno:∀ W,Upd [] w W→PBool (decide (xs=ys)) w (.returned (.bool false)) W:=by
      intro W hW
      rw [decide_eq_false (fun h=>hl (by rw [h]))]
      exact ⟨rfl,hW⟩
    have hli:((xs.length:Int) != (ys.length:Int))=true:=by simp; omega
    clear hx hy hhx hhy hl
    go_enter Tryz.func71,Tryz.ntmps71
    go_wp2
    go_ret
    exact hno _ (Upd.refl _ _)
  have hno:∀ W k,xs.getD k 0 ≠ ys.getD k 0→Upd [] w W→PBool (decide (xs=ys)) w (.returned (.bool false)) W:=by
    intro W k hk hW
    rw [decide_eq_false (eqNo k hk)]
    exact ⟨rfl,hW⟩
  have hyes:∀ W,xs.take xs.length=ys.take xs.length→Upd [] w W→PBool (decide (xs=ys)) w (.returned (.bool true)) W:=by
    intro W hk hW
    rw [List.take_length,hl,List.take_length] at hk
    rw [decide_eq_true hk]
    exact ⟨rfl,hW⟩
  revert hno hyes
  generalize PBool (decide (xs=ys)) w=P
  intro hno hyes
  have hli:((xs.length:Int) != (ys.length:Int))=false:=by simp; omega
  have hL:=Lib.hid hl
  clear hx hy hl
  go_enter Tryz.func71,Tryz.ntmps71
  go_wp2
  go_loopw [13] (fun i wr=>∃ k:Nat,k≤xs.length∧i = .int .i64 (k:Int)∧xs.take k=ys.take k∧Upd [] w wr) (fun i _=>xs.length - (intOf i).toNat)
  case atStart=>exact ⟨0,by omega,rfl,by simp,Upd.refl _ _⟩
  case round =>
    obtain ⟨k,hk,rfl,hpre,hu⟩:=hrel
    by_cases hlt:k < xs.length
    · obtain ⟨b,off,rfl,cw0,hr0⟩:=RdW.at_ hhx k hlt
      obtain ⟨b',off',rfl,cw1,hr1⟩:=RdW.at_ hhy k (by have:=hL.out; omega)
      have hlt':k < ys.length:=by have:=hL.out; omega
      have hstep:=fun h=>eqPre (d:=0) hL.out hlt hpre h
      have hno':=fun W h=>hno W k h
      revert cw0 cw1 hstep hno' hr0 hr1
      generalize xs.getD k 0=x0
      generalize ys.getD k 0=y0
      intro cw0 hr0 cw1 hr1 hstep hno'
      have hc0:=hu.cell (by simp) cw0
      have hc1:=hu.cell (by simp) cw1
      have hstep:=Lib.hid hstep
      have hno':=Lib.hid hno'
      clear cw0 cw1 hhx hhy hpre hno hyes
      have hc0:wr.drew.cell? ⟨b,off + k,none⟩=some (.int .u16 x0):=hc0
      have hc1:wr.drew.cell? ⟨b',off' + k,none⟩=some (.int .u16 y0):=hc1
      go_wp2
      refine rg_start (S:=fun w'=>w'.cell? ⟨b,off + k,none⟩=some (.int .u16 x0)∧w'.cell? ⟨b',off' + k,none⟩=some (.int .u16 y0)) (n:=9) #[false,false,false,false,false,false,false,false,false] (by kernel_rfl) rfl rfl ⟨hc0,hc1⟩ (fun hHeld=>?_)
      refine rg_take (i:=0) (N:=some 16) (v:=?_) (a':=?_) #[true,false,false,false,false,false,false,false,false] rfl rfl (by kernel_rfl) (fun _ _ _ h=>h) (Or.inl ⟨by rfl,?_⟩) hHeld ?_ ?_
      rotate_left
      · rintro w' ⟨hs0,hs1⟩
        go_simp
        with_reducible rfl
      rotate_left
      · simp only [Act.put,List.setIfInBounds_toArray,List.set_cons_zero,List.set_cons_succ]
        rfl
      refine rg_take (i:=1) (N:=some 17) (v:=?_) (a':=?_) #[true,true,false,false,false,false,false,false,false] rfl rfl (by kernel_rfl) (fun _ _ _ h=>h) (Or.inl ⟨by rfl,?_⟩) hHeld ?_ ?_
      rotate_left
      · rintro w' ⟨hs0,hs1⟩
        go_simp
        with_reducible rfl
      rotate_left
      · simp only [Act.put,List.setIfInBounds_toArray,List.set_cons_zero,List.set_cons_succ]
        rfl
      refine rg_take (i:=2) (N:=some 18) (v:=?_) (a':=?_) #[true,true,true,false,false,false,false,false,false] rfl rfl (by kernel_rfl) (fun _ _ _ h=>h) (Or.inl ⟨by rfl,?_⟩) hHeld ?_ ?_
      rotate_left
      · rintro w' ⟨hs0,hs1⟩
        go_simp
        with_reducible rfl
      rotate_left
      · simp only [Act.put,List.setIfInBounds_toArray,List.set_cons_zero,List.set_cons_succ]
        rfl
      refine rg_take (i:=3) (N:=some 19) (v:=?_) (a':=?_) #[true,true,true,true,false,false,false,false,false] rfl rfl (by kernel_rfl) (fun _ _ _ h=>h) (Or.inl ⟨by rfl,?_⟩) hHeld ?_ ?_
      rotate_left
      · rintro w' ⟨hs0,hs1⟩
        go_simp
        with_reducible rfl
      rotate_left
      · simp only [Act.put,List.setIfInBounds_toArray,List.set_cons_zero,List.set_cons_succ]
        rfl
      refine rg_take (i:=4) (N:=some 20) (v:=?_) (a':=?_) #[true,true,true,true,true,false,false,false,false] rfl rfl (by kernel_rfl) (fun _ _ _ h=>h) (Or.inl ⟨by rfl,?_⟩) hHeld ?_ ?_
      rotate_left
      · rintro w' ⟨hs0,hs1⟩
        go_simp
        with_reducible rfl
      rotate_left
      · simp only [Act.put,List.setIfInBounds_toArray,List.set_cons_zero,List.set_cons_succ]
        rfl
      refine rg_take (i:=5) (N:=some 21) (v:=?_) (a':=?_) #[true,true,true,true,true,true,false,false,false] rfl rfl (by kernel_rfl) (fun _ _ _ h=>h) (Or.inl ⟨by rfl,?_⟩) hHeld ?_ ?_
      rotate_left
      · rintro w' ⟨hs0,hs1⟩
        go_simp
        with_reducible rfl
      rotate_left
      · simp only [Act.put,List.setIfInBounds_toArray,List.set_cons_zero,List.set_cons_succ]
        rfl
      refine rg_take (i:=6) (N:=some 22) (v:=?_) (a':=?_) #[true,true,true,true,true,true,true,false,false] rfl rfl (by kernel_rfl) (fun _ _ _ h=>h) (Or.inl ⟨by rfl,?_⟩) hHeld ?_ ?_
      rotate_left
      · rintro w' ⟨hs0,hs1⟩
        go_simp
        with_reducible rfl
      rotate_left
      · simp only [Act.put,List.setIfInBounds_toArray,List.set_cons_zero,List.set_cons_succ]
        rfl
      refine rg_take (i:=7) (N:=some 23) (v:=?_) (a':=?_) #[true,true,true,true,true,true,true,true,false] rfl rfl (by kernel_rfl) (fun _ _ _ h=>h) (Or.inl ⟨by rfl,?_⟩) hHeld ?_ ?_
      rotate_left
      · rintro w' ⟨hs0,hs1⟩
        go_simp
        with_reducible rfl
      rotate_left
      · simp only [Act.put,List.setIfInBounds_toArray,List.set_cons_zero,List.set_cons_succ]
        rfl
      refine rg_take (i:=8) (N:=some 24) (v:=?_) (a':=?_) #[true,true,true,true,true,true,true,true,true] rfl rfl (by kernel_rfl) (fun _ _ _ h=>h) (Or.inl ⟨by rfl,?_⟩) hHeld ?_ ?_
      rotate_left
      · rintro w' ⟨hs0,hs1⟩
        go_simp
        with_reducible rfl
      rotate_left
      · simp only [Act.put,List.setIfInBounds_toArray,List.set_cons_zero,List.set_cons_succ]
        rfl
      refine rg_done (by kernel_rfl) ?_
      clear hc0 hc1 hHeld
      go_wp2
      · exact hno'.out _ (by simpa using (show (x0 != y0)=true by assumption)) (hu.drew)
      · go_roundw
        case rel=>exact ⟨k + 1,by omega,by go_num,hstep.out (by simpa using (show (x0 != y0)=false by assumption)),hu.drew⟩
        case measure=>simp [intOf]; omega
    · have hj3:k=xs.length:=by omega
      have H3:=Lib.hid hj3
      rw [hj3] at hpre
      clear hj3 hhx hhy
      go_wp2
      exact hyes _ hpre hu
set_option maxRecDepth 100000 in
theorem eqL_any {m m':Bool} {u v:Value} {xs ys:List Bool} {w:World} (hx:RdL m w u xs) (hy:RdL m' w v ys) : Calls Tryz.prog 72 #[u,v] w (PBool (decide (xs=ys)) w):=by
  have hhx:=hx
  have hhy:=hy
  obtain ⟨A,c,rfl,hc1,hc2⟩:=hx.shape
  obtain ⟨B,c',rfl,hd1,hd2⟩:=hy.shape
  have hn:xs.length≤9223372036854775807:=by have:=hc2; unfold maxLen at this; omega
  by_cases hl:xs.length=ys.length
  case neg =>
    have hno:∀ W,Upd [] w W→PBool (decide (xs=ys)) w (.returned (.bool false)) W:=by
      intro W hW
      rw [decide_eq_false (fun h=>hl (by rw [h]))]
      exact ⟨rfl,hW⟩
    have hli:((xs.length:Int) != (ys.length:Int))=true:=by simp; omega
    clear hx hy hhx hhy hl
    go_enter Tryz.func72,Tryz.ntmps72
    go_wp2
    go_ret
    exact hno _ (Upd.refl _ _)
  have hno:∀ W k,xs.getD k false ≠ ys.getD k false→Upd [] w W→PBool (decide (xs=ys)) w (.returned (.bool false)) W:=by
    intro W k hk hW
    rw [decide_eq_false (eqNo k hk)]
    exact ⟨rfl,hW⟩
  have hyes:∀ W,xs.take xs.length=ys.take xs.length→Upd [] w W→PBool (decide (xs=ys)) w (.returned (.bool true)) W:=by
    intro W hk hW
    rw [List.take_length,hl,List.take_length] at hk
    rw [decide_eq_true hk]
    exact ⟨rfl,hW⟩
  revert hno hyes
  generalize PBool (decide (xs=ys)) w=P
  intro hno hyes
  have hli:((xs.length:Int) != (ys.length:Int))=false:=by simp; omega
  have hL:=Lib.hid hl
  clear hx hy hl
  go_enter Tryz.func72,Tryz.ntmps72
  go_wp2
  go_loopw [13] (fun i wr=>∃ k:Nat,k≤xs.length∧i = .int .i64 (k:Int)∧xs.take k=ys.take k∧Upd [] w wr) (fun i _=>xs.length - (intOf i).toNat)
  case atStart=>exact ⟨0,by omega,rfl,by simp,Upd.refl _ _⟩
  case round =>
    obtain ⟨k,hk,rfl,hpre,hu⟩:=hrel
    by_cases hlt:k < xs.length
    · obtain ⟨b,off,rfl,cw0⟩:=RdL.at_ hhx k hlt
      obtain ⟨b',off',rfl,cw1⟩:=RdL.at_ hhy k (by have:=hL.out; omega)
      have hlt':k < ys.length:=by have:=hL.out; omega
      have hstep:=fun h=>eqPre (d:=false) hL.out hlt hpre h
      have hno':=fun W h=>hno W k h
      revert cw0 cw1 hstep hno' 
      generalize xs.getD k false=x0
      generalize ys.getD k false=y0
      intro cw0 cw1 hstep hno'
      have hc0:=hu.cell (by simp) cw0
      have hc1:=hu.cell (by simp) cw1
      have hstep:=Lib.hid hstep
      have hno':=Lib.hid hno'
      clear cw0 cw1 hhx hhy hpre hno hyes
      have hc0:wr.drew.cell? ⟨b,off + k,none⟩=some (.bool x0):=hc0
      have hc1:wr.drew.cell? ⟨b',off' + k,none⟩=some (.bool y0):=hc1
      go_wp2
      refine rg_start (S:=fun w'=>w'.cell? ⟨b,off + k,none⟩=some (.bool x0)∧w'.cell? ⟨b',off' + k,none⟩=some (.bool y0)) (n:=9) #[false,false,false,false,false,false,false,false,false] (by kernel_rfl) rfl rfl ⟨hc0,hc1⟩ (fun hHeld=>?_)
      refine rg_take (i:=0) (N:=some 16) (v:=?_) (a':=?_) #[true,false,false,false,false,false,false,false,false] rfl rfl (by kernel_rfl) (fun _ _ _ h=>h) (Or.inl ⟨by rfl,?_⟩) hHeld ?_ ?_
      rotate_left
      · rintro w' ⟨hs0,hs1⟩
        go_simp
        with_reducible rfl
      rotate_left
      · simp only [Act.put,List.setIfInBounds_toArray,List.set_cons_zero,List.set_cons_succ]
        rfl
      refine rg_take (i:=1) (N:=some 17) (v:=?_) (a':=?_) #[true,true,false,false,false,false,false,false,false] rfl rfl (by kernel_rfl) (fun _ _ _ h=>h) (Or.inl ⟨by rfl,?_⟩) hHeld ?_ ?_
      rotate_left
      · rintro w' ⟨hs0,hs1⟩
        go_simp
        with_reducible rfl
      rotate_left
      · simp only [Act.put,List.setIfInBounds_toArray,List.set_cons_zero,List.set_cons_succ]
        rfl
      refine rg_take (i:=2) (N:=some 18) (v:=?_) (a':=?_) #[true,true,true,false,false,false,false,false,false] rfl rfl (by kernel_rfl) (fun _ _ _ h=>h) (Or.inl ⟨by rfl,?_⟩) hHeld ?_ ?_
      rotate_left
      · rintro w' ⟨hs0,hs1⟩
        go_simp
        with_reducible rfl
      rotate_left
      · simp only [Act.put,List.setIfInBounds_toArray,List.set_cons_zero,List.set_cons_succ]
        rfl
      refine rg_take (i:=3) (N:=some 19) (v:=?_) (a':=?_) #[true,true,true,true,false,false,false,false,false] rfl rfl (by kernel_rfl) (fun _ _ _ h=>h) (Or.inl ⟨by rfl,?_⟩) hHeld ?_ ?_
      rotate_left
      · rintro w' ⟨hs0,hs1⟩
        go_simp
        with_reducible rfl
      rotate_left
      · simp only [Act.put,List.setIfInBounds_toArray,List.set_cons_zero,List.set_cons_succ]
        rfl
      refine rg_take (i:=4) (N:=some 20) (v:=?_) (a':=?_) #[true,true,true,true,true,false,false,false,false] rfl rfl (by kernel_rfl) (fun _ _ _ h=>h) (Or.inl ⟨by rfl,?_⟩) hHeld ?_ ?_
      rotate_left
      · rintro w' ⟨hs0,hs1⟩
        go_simp
        with_reducible rfl
      rotate_left
      · simp only [Act.put,List.setIfInBounds_toArray,List.set_cons_zero,List.set_cons_succ]
        rfl
      refine rg_take (i:=5) (N:=some 21) (v:=?_) (a':=?_) #[true,true,true,true,true,true,false,false,false] rfl rfl (by kernel_rfl) (fun _ _ _ h=>h) (Or.inl ⟨by rfl,?_⟩) hHeld ?_ ?_
      rotate_left
      · rintro w' ⟨hs0,hs1⟩
        go_simp
        with_reducible rfl
      rotate_left
      · simp only [Act.put,List.setIfInBounds_toArray,List.set_cons_zero,List.set_cons_succ]
        rfl
      refine rg_take (i:=6) (N:=some 22) (v:=?_) (a':=?_) #[true,true,true,true,true,true,true,false,false] rfl rfl (by kernel_rfl) (fun _ _ _ h=>h) (Or.inl ⟨by rfl,?_⟩) hHeld ?_ ?_
      rotate_left
      · rintro w' ⟨hs0,hs1⟩
        go_simp
        with_reducible rfl
      rotate_left
      · simp only [Act.put,List.setIfInBounds_toArray,List.set_cons_zero,List.set_cons_succ]
        rfl
      refine rg_take (i:=7) (N:=some 23) (v:=?_) (a':=?_) #[true,true,true,true,true,true,true,true,false] rfl rfl (by kernel_rfl) (fun _ _ _ h=>h) (Or.inl ⟨by rfl,?_⟩) hHeld ?_ ?_
      rotate_left
      · rintro w' ⟨hs0,hs1⟩
        go_simp
        with_reducible rfl
      rotate_left
      · simp only [Act.put,List.setIfInBounds_toArray,List.set_cons_zero,List.set_cons_succ]
        rfl
      refine rg_take (i:=8) (N:=some 24) (v:=?_) (a':=?_) #[true,true,true,true,true,true,true,true,true] rfl rfl (by kernel_rfl) (fun _ _ _ h=>h) (Or.inl ⟨by rfl,?_⟩) hHeld ?_ ?_
      rotate_left
      · rintro w' ⟨hs0,hs1⟩
        go_simp
        with_reducible rfl
      rotate_left
      · simp only [Act.put,List.setIfInBounds_toArray,List.set_cons_zero,List.set_cons_succ]
        rfl
      refine rg_done (by kernel_rfl) ?_
      clear hc0 hc1 hHeld
      go_wp2
      · exact hno'.out _ (by simpa using (show (x0 != y0)=true by assumption)) (hu.drew)
      · go_roundw
        case rel=>exact ⟨k + 1,by omega,by go_num,hstep.out (by simpa using (show (x0 != y0)=false by assumption)),hu.drew⟩
        case measure=>simp [intOf]; omega
    · have hj3:k=xs.length:=by omega
      have H3:=Lib.hid hj3
      rw [hj3] at hpre
      clear hj3 hhx hhy
      go_wp2
      exact hyes _ hpre hu
open Go.RowKit
theorem RdB.cells {m:Bool} {w:World} {A:Option Addr} {n c:Nat} {xs:List Int} (h:RdB m w (.slice A n c) xs) : (A=none∧xs=[])∨xs=[]∨∃ b off,A=some ⟨b,off,none⟩∧∀ i,i < xs.length→w.cell? ⟨b,off + i,none⟩=some (.int .u8 (xs.getD i 0)):=by
  by_cases h0:xs=[]
  · exact .inr (.inl h0)
  · have hl:0 < xs.length:=List.length_pos_iff.2 h0
    obtain ⟨b,off,rfl,_⟩:=RdB.at_ h 0 hl
    refine .inr (.inr ⟨b,off,rfl,fun i hi=>?_⟩)
    obtain ⟨b',off',hA,hc,_⟩:=RdB.at_ h i hi
    injection hA with hA
    injection hA with h1 h2
    subst h1 h2
    exact hc
theorem run_str {m:Bool} {w:World} {v:Value} {xs:List Int} (h:RdB m w v xs) : (convert 27 9 v).run Tryz.prog w = .ok (.string (strOfNums xs)) w:=by
  have hh:=h
  obtain ⟨A,c,rfl,h1,h2,h0,h3⟩:=hh
  rcases Nat.eq_zero_or_pos xs.length with hz | hz
  · obtain rfl:xs=[]:=List.eq_nil_of_length_eq_zero hz
    cases A with
    | none=>exact run_convert_bytes_nil w _ _ Tryz.underlying27 Tryz.underlying5 _ _ _ Tryz.underlying9
    | some a =>
      rw [run_convert_bytes_string w _ _ _ _ _ _ Tryz.underlying27 Tryz.underlying5 Tryz.underlying9]
      rw [run_bytesToString w a _ c [] (by simp [loadCells,loadCellsFrom,Sem.run_pure])]
      rfl
  · obtain ⟨b,off,cells,t,fr,rfl,hb,ht,hx⟩:=h3 hz
    exact run_convert_bytes_arg w _ _ Tryz.underlying27 Tryz.underlying5 b off _ c xs rfl (fun i hi=>by
      obtain ⟨b',off',hA,hc,_⟩:=RdB.at_ h i hi
      injection hA with hA
      injection hA with h1 h2
      subst h1 h2
      exact hc) _ Tryz.underlying9
theorem str_inj:∀ {xs ys:List Int},(∀ x,x∈xs→0≤x∧x < 256)→(∀ x,x∈ys→0≤x∧x < 256)→(xs.map fun n=>UInt8.ofNat n.toNat)=(ys.map fun n=>UInt8.ofNat n.toNat)→xs=ys
  | [],[],_,_,_=>rfl
  | [],_ :: _,_,_,h=>by simp at h
  | _ :: _,[],_,_,h=>by simp at h
  | x :: xs,y :: ys,hx,hy,h=>by
    simp only [List.map_cons,List.cons.injEq] at h
    have h1:=hx x (by simp)
    have h2:=hy y (by simp)
    have h3:x=y:=by
      have:=congrArg UInt8.toNat h.1
      simp at this
      omega
    rw [h3,str_inj (fun z hz=>hx z (by simp [hz])) (fun z hz=>hy z (by simp [hz])) h.2]
theorem run_streq {m m':Bool} {w w' W:World} {u v:Value} {xs ys:List Int} (hx:RdB m w u xs) (hy:RdB m' w' v ys) : (binOp .eql 9 (.string (strOfNums xs)) (.string (strOfNums ys))).run Tryz.prog W = .ok (.bool (decide (xs=ys))) W:=by
  have e:((strOfNums xs).toList == (strOfNums ys).toList)=decide (xs=ys):=by
    by_cases h:xs=ys
    · subst h; simp
    · rw [decide_eq_false h,beq_eq_false_iff_ne]
      intro h2
      rw [ByteArray.toList_eq,ByteArray.toList_eq] at h2
      exact h (str_inj hx.rng hy.rng h2)
  rw [binOp_string_eql,e]
  rfl
theorem rec_dec {A B:Rec}:decide (A=B)=(decide (A.file=B.file) && (decide (A.record=B.record) && (decide (A.count=B.count) && decide (A.words=B.words)))):=by
  rw [Bool.eq_iff_iff]
  cases A; cases B
  simp
set_option maxRecDepth 100000 in
set_option maxHeartbeats 2000000 in
theorem rec_any {m m':Bool} {ca cb:List Value} {A B:Rec} {w:World} (ha:recR m w A ca) (hb:recR m' w B cb) : Calls Tryz.prog 74 #[.agg ca.toArray,.agg cb.toArray] w (PBool (decide (A=B)) w):=by
  obtain ⟨va,rfl,hwa,hra⟩:=ha
  obtain ⟨vb,rfl,hwb,hrb⟩:=hb
  rw [rec_dec]
  generalize A.file=f1 at *
  generalize A.record=f2 at *
  generalize A.count=f3 at *
  generalize A.words=f4 at *
  generalize B.file=g1 at *
  generalize B.record=g2 at *
  generalize B.count=g3 at *
  generalize B.words=g4 at *
  clear hra hrb
  have hpost:∀ W,Upd [] w W→PBool (decide (f1=g1) && (decide (f2=g2) && (decide (f3=g3) && decide (f4=g4)))) w (.returned (.bool (decide (f1=g1) && (decide (f2=g2) && (decide (f3=g3) && decide (f4=g4)))))) W:=fun W h=>⟨rfl,h⟩
  revert hpost
  generalize PBool (decide (f1=g1) && (decide (f2=g2) && (decide (f3=g3) && decide (f4=g4)))) w=P
  intro hpost
  by_cases h1:f1=g1
  case neg =>
    have e:(decide (f1=g1) && (decide (f2=g2) && (decide (f3=g3) && decide (f4=g4))))=false:=by simp [h1]
    rw [e] at hpost
    have e1:(f1 == g1)=false:=by simpa using h1
    clear h1 e hwa hwb
    replace hpost:=Lib.hid hpost
    go_enter Tryz.func74,Tryz.ntmps74
    go_wp2
    exact hpost.out _ (((Upd.refl [] w).alloc _).alloc _)
  subst h1
  by_cases h1:f2=g2
  case neg =>
    have e:(decide (f1=f1) && (decide (f2=g2) && (decide (f3=g3) && decide (f4=g4))))=false:=by simp [h1]
    rw [e] at hpost
    have e1:(f2 == g2)=false:=by simpa using h1
    clear h1 e hwa hwb
    replace hpost:=Lib.hid hpost
    go_enter Tryz.func74,Tryz.ntmps74
    go_wp2
    exact hpost.out _ (((Upd.refl [] w).alloc _).alloc _)
  subst h1
  by_cases h1:f3=g3
  case neg =>
    have e:(decide (f1=f1) && (decide (f2=f2) && (decide (f3=g3) && decide (f4=g4))))=false:=by simp [h1]
    rw [e] at hpost
    have e1:(f3 == g3)=false:=by simpa using h1
    clear h1 e hwa hwb
    replace hpost:=Lib.hid hpost
    go_enter Tryz.func74,Tryz.ntmps74
    go_wp2
    exact hpost.out _ (((Upd.refl [] w).alloc _).alloc _)
  subst h1
  have e:(decide (f1=f1) && (decide (f2=f2) && (decide (f3=f3) && decide (f4=g4))))=decide (f4=g4):=by simp
  rw [e] at hpost
  clear e
  have hcall:=fun (W:World) (h:Upd [] w W)=>eqW_any (hwa.old h) (hwb.old h)
  replace hpost:=Lib.hid hpost
  go_enter Tryz.func74,Tryz.ntmps74
  go_wp2_with (go_at_call 71; refine (hcall _ (((Upd.refl [] w).alloc _).alloc _)).mono ?_; rintro e w1 ⟨rfl,hu1⟩)
  exact hpost.out _ ((((Upd.refl [] w).alloc _).alloc _).step hu1)
theorem obj_dec {A B:Obj}:decide (A=B)=(decide (A.id=B.id) && decide (A.value=B.value)):=by
  rw [Bool.eq_iff_iff]
  cases A; cases B
  simp
set_option maxRecDepth 100000 in
set_option maxHeartbeats 2000000 in
theorem object_any {m m':Bool} {ca cb:List Value} {A B:Obj} {w:World} (ha:objR m w A ca) (hb:objR m' w B cb) : Calls Tryz.prog 76 #[.agg ca.toArray,.agg cb.toArray] w (PBool (decide (A=B)) w):=by
  obtain ⟨va,rfl,hwa,hra⟩:=ha
  obtain ⟨vb,rfl,hwb,hrb⟩:=hb
  rw [obj_dec]
  generalize A.id=f1 at *
  generalize A.value=f4 at *
  generalize B.id=g1 at *
  generalize B.value=g4 at *
  clear hra hrb
  have hpost:∀ W,Upd [] w W→PBool (decide (f1=g1) && decide (f4=g4)) w (.returned (.bool (decide (f1=g1) && decide (f4=g4)))) W:=fun W h=>⟨rfl,h⟩
  revert hpost
  generalize PBool (decide (f1=g1) && decide (f4=g4)) w=P
  intro hpost
  by_cases h1:f1=g1
  case neg =>
    have e:(decide (f1=g1) && decide (f4=g4))=false:=by simp [h1]
    rw [e] at hpost
    have e1:(f1 == g1)=false:=by simpa using h1
    clear h1 e hwa hwb
    replace hpost:=Lib.hid hpost
    go_enter Tryz.func76,Tryz.ntmps76
    go_wp2
    exact hpost.out _ (((Upd.refl [] w).alloc _).alloc _)
  subst h1
  have e:(decide (f1=f1) && decide (f4=g4))=decide (f4=g4):=by simp
  rw [e] at hpost
  have hu0:Upd [] w ((w.alloc (.cells #[.int .u8 f1,va] 85)).alloc (.cells #[.int .u8 f1,vb] 85)):=((Upd.refl [] w).alloc _).alloc _
  have c1:=run_str (hwa.old hu0)
  have c2:=run_str (hwb.old hu0)
  have c3:=run_streq (hwa.old hu0) (hwb.old hu0) (W:=(w.alloc (.cells #[.int .u8 f1,va] 85)).alloc (.cells #[.int .u8 f1,vb] 85))
  replace hpost:=hpost _ hu0
  generalize strOfNums f4=s1 at *
  generalize strOfNums g4=s2 at *
  generalize decide (f4=g4)=D at *
  clear hu0 hwa hwb e
  rw [binOp_string_eql] at c3
  have c4:(s1.toList == s2.toList)=D:=by simpa [Sem.run_pure] using c3
  clear c3
  replace hpost:=Lib.hid hpost
  go_enter Tryz.func76,Tryz.ntmps76
  go_wp2
  exact hpost.out
open Go.RowKit
theorem RdG.at_ {α:Type} {m:Bool} {e:TypeId} {sz:Nat} {R:World→α→List Value→Prop} {w:World} {A:Option Addr} {n c:Nat} {xs:List α} (h:RdG m e sz R w (.slice A n c) xs) (d:α) (j:Nat) (hj:j < xs.length) :
    ∃ b off cs,A=some ⟨b,off,none⟩∧w.rangeAt b (off + j * sz) cs∧R w (xs.getD j d) cs∧cs.length=sz:=by
  obtain ⟨A',c',hv,h1,h2,h0,h3⟩:=h
  injection hv with e1 e2 e3
  subst e1 e3
  obtain ⟨b,off,cells,t,fr,rfl,hb,ht,hx⟩:=h3 (by omega)
  obtain ⟨cs,h4,h5,h6⟩:=hx j (xs.getD j d) (by simp [List.getD_eq_getElem?_getD,List.getElem?_eq_getElem hj])
  exact ⟨b,off,cs,rfl,fun i u hi=>by rw [blk_cell hb]; exact h6 i u hi,h5,h4⟩
theorem recR.upd0 {m:Bool} {w w':World} (hu:Upd [] w w') {r:Rec} {cs:List Value} (h:recR m w r cs) : recR m w' r cs:=recR.upd hu (Safe.nil _ _ _) r cs h
theorem objR.upd0 {m:Bool} {w w':World} (hu:Upd [] w w') {r:Obj} {cs:List Value} (h:objR m w r cs) : objR m w' r cs:=objR.upd hu (Safe.nil _ _ _) r cs h
theorem range_upd {w w':World} {b o:Nat} {cs:List Value} (h:w.rangeAt b o cs) {S:List Nat} (hu:Upd S w w') (hb:b ∉ S) : w'.rangeAt b o cs:=fun j v hj=>hu.cell hb (h j v hj)
theorem rec_info:(Tryz.prog.info? 83).map (·.zero)=some (some (.agg #[.int .u16 0,.int .u16 0,.int .u16 0,.slice none 0 0])):=by kernel_rfl
theorem rec_size:(Tryz.prog.info? 83).map (·.size)=some 4:=by kernel_rfl
theorem obj_info:(Tryz.prog.info? 85).map (·.zero)=some (some (.agg #[.int .u8 0,.slice none 0 0])):=by kernel_rfl
theorem obj_size:(Tryz.prog.info? 85).map (·.size)=some 2:=by kernel_rfl
theorem recR.one {m:Bool} {w:World} {r:Rec} {cs:List Value} (h:recR m w r cs) : cs.toArray.all (·.oneCell')=true∧cs.length=4:=by
  obtain ⟨v,rfl,h1,_⟩:=h
  obtain ⟨A,c,rfl,_⟩:=h1
  exact ⟨by simp [Value.oneCell'],rfl⟩
theorem objR.one {m:Bool} {w:World} {r:Obj} {cs:List Value} (h:objR m w r cs) : cs.toArray.all (·.oneCell')=true∧cs.length=2:=by
  obtain ⟨v,rfl,h1,_⟩:=h
  obtain ⟨A,c,rfl,_⟩:=h1
  exact ⟨by simp [Value.oneCell'],rfl⟩
set_option maxRecDepth 100000 in
set_option maxHeartbeats 2000000 in
theorem eqR_any {m m':Bool} {u v:Value} {xs ys:List Rec} {w:World} (hx:RdR m w u xs) (hy:RdR m' w v ys) :
    Calls Tryz.prog 73 #[u,v,.func (.func 74) #[] #[]] w (PBool (decide (xs=ys)) w):=by
  have hhx:=hx
  have hhy:=hy
  obtain ⟨A,c,rfl,hc1,hc2⟩:=hx.shape
  obtain ⟨B,c',rfl,hd1,hd2⟩:=hy.shape
  have hn:xs.length≤9223372036854775807:=by have:=hc2; unfold maxLen at this; omega
  by_cases hl:xs.length=ys.length
  case neg =>
    have hno:∀ W,Upd [] w W→PBool (decide (xs=ys)) w (.returned (.bool false)) W:=by
      intro W hW
      rw [decide_eq_false (fun h=>hl (by rw [h]))]
      exact ⟨rfl,hW⟩
    have hli:((xs.length:Int) != (ys.length:Int))=true:=by simp; omega
    clear hx hy hhx hhy hl
    go_enter Tryz.func73,Tryz.ntmps73
    go_wp2
    go_ret
    exact hno _ (Upd.refl _ _)
  have hno:∀ W k,xs.getD k ⟨0,0,0,[]⟩ ≠ ys.getD k ⟨0,0,0,[]⟩→Upd [] w W→PBool (decide (xs=ys)) w (.returned (.bool false)) W:=by
    intro W k hk hW
    rw [decide_eq_false (eqNo k hk)]
    exact ⟨rfl,hW⟩
  have hyes:∀ W,xs.take xs.length=ys.take xs.length→Upd [] w W→PBool (decide (xs=ys)) w (.returned (.bool true)) W:=by
    intro W hk hW
    rw [List.take_length,hl,List.take_length] at hk
    rw [decide_eq_true hk]
    exact ⟨rfl,hW⟩
  revert hno hyes
  generalize PBool (decide (xs=ys)) w=P
  intro hno hyes
  have hli:((xs.length:Int) != (ys.length:Int))=false:=by simp; omega
  have hL:=Lib.hid hl
  clear hx hy hl
  go_enter Tryz.func73,Tryz.ntmps73
  go_wp2
  go_loopw [17] (fun i wr=>∃ k:Nat,k≤xs.length∧i = .int .i64 (k:Int)∧xs.take k=ys.take k∧Upd [] w wr) (fun i _=>xs.length - (intOf i).toNat)
  case atStart=>exact ⟨0,by omega,rfl,by simp,Upd.refl _ _⟩
  case round =>
    obtain ⟨k,hk,rfl,hpre,hu⟩:=hrel
    by_cases hlt:k < xs.length
    · obtain ⟨b,off,ca,rfl,cw0,hr0,hl0⟩:=RdG.at_ hhx ⟨0,0,0,[]⟩ k hlt
      obtain ⟨b',off',cb,rfl,cw1,hr1,hl1⟩:=RdG.at_ hhy ⟨0,0,0,[]⟩ k (by have:=hL.out; omega)
      have hlt':k < ys.length:=by have:=hL.out; omega
      have hstep:=fun h=>eqPre (d:=⟨0,0,0,[]⟩) hL.out hlt hpre h
      have hno':=fun W h=>hno W k h
      revert hstep hno' hr0 hr1
      generalize xs.getD k ⟨0,0,0,[]⟩=x0
      generalize ys.getD k ⟨0,0,0,[]⟩=y0
      intro hr0 hr1 hstep hno'
      have hc0:=Lib.hid (range_upd cw0 hu (by simp))
      have hc1:=Lib.hid (range_upd cw1 hu (by simp))
      replace hstep:=Lib.hid hstep
      replace hno':=Lib.hid hno'
      have ha:=Lib.hid hr0
      have hb:=Lib.hid hr1
      clear cw0 cw1 hhx hhy hpre hno hyes hr0 hr1
      have tok1_0:True:=trivial
      have tok1_1:True:=trivial
      have tok1_2:True:=trivial
      have tok1_3:True:=trivial
      have tok1_4:True:=trivial
      have tok1_5:True:=trivial
      have tok1_6:True:=trivial
      have tok1_7:True:=trivial
      have tok1_8:True:=trivial
      go_wp2_with (first | (have _t:=tok1_0; refine wpList_load_mid rfl 83 _ rfl b (off + k * 4) rfl ca _ hc0.out Tryz.underlying83 rfl (by rw [hl0]; exact rec_size) ?_; clear _t tok1_0) | (have _t:=tok1_1; refine wp_allocw rfl 83 rfl _ rec_info ?_; intro g1 w1 hg1 hB1 hu1; clear _t tok1_1) | (have _t:=tok1_2; refine wp_storew rfl 83 _ _ rfl g1 rfl ca.toArray rfl _ _ hB1 (by simp only [List.size_toArray,hl0]; exact rec_size) (by simp only [List.size_toArray,hl0]; rfl) (recR.one ha.out).1 ?_; intro w2 hB2 hu2; have U2:=hu1.fresh1 hu2 hg1; clear _t tok1_2) | (have _t:=tok1_3; refine wpList_load_mid rfl 83 _ rfl b' (off' + k * 4) rfl cb _ (range_upd hc1.out U2 (by simp)) Tryz.underlying83 rfl (by rw [hl1]; exact rec_size) ?_; clear _t tok1_3) | (have _t:=tok1_4; refine wp_allocw rfl 83 rfl _ rec_info ?_; intro g3 w3 hg3 hB3 hu3; clear _t tok1_4) | (have _t:=tok1_5; refine wp_storew rfl 83 _ _ rfl g3 rfl cb.toArray rfl _ _ hB3 (by simp only [List.size_toArray,hl1]; exact rec_size) (by simp only [List.size_toArray,hl1]; rfl) (recR.one hb.out).1 ?_; intro w4 hB4 hu4; have U4:=hu3.fresh1 hu4 hg3; have hB24:=U4.blk (by simp) hB2; have V4:=hu.step (U2.step U4); clear _t tok1_5) | (have _t:=tok1_6; refine wpList_load_row rfl 83 _ rfl g1 rfl _ _ _ _ hB24 Tryz.underlying83 rfl (by simp only [List.size_toArray,hl0]; exact rec_size) ?_; clear _t tok1_6) | (have _t:=tok1_7; refine wpList_load_row rfl 83 _ rfl g3 rfl _ _ _ _ hB4 Tryz.underlying83 rfl (by simp only [List.size_toArray,hl1]; exact rec_size) ?_; clear _t tok1_7) | (have _t:=tok1_8; go_at_call 74; refine (rec_any (recR.upd0 V4 ha.out) (recR.upd0 V4 hb.out)).mono ?_; rintro e w5 ⟨rfl,hu5⟩; generalize hD:decide (x0=y0)=D; have HD:=Lib.hid hD; clear hD hB24 hB4; clear _t tok1_8))
      · have hD0:(!D)=true:=by assumption
        exact hno'.out _ (by have:=HD.out; intro h; rw [← this,h] at hD0; simp at hD0) (V4.step hu5)
      · have hD0:(!D)=false:=by assumption
        have hxy:x0=y0:=by have:=HD.out; rw [← this] at hD0; simpa using hD0
        go_roundw
        case rel=>exact ⟨k + 1,by omega,by go_num,hstep.out hxy,V4.step hu5⟩
        case measure=>simp [intOf]; omega
    · have hj3:k=xs.length:=by omega
      have H3:=Lib.hid hj3
      rw [hj3] at hpre
      clear hj3 hhx hhy
      go_wp2
      exact hyes _ hpre hu
set_option maxRecDepth 100000 in
set_option maxHeartbeats 2000000 in
theorem eqO_any {m m':Bool} {u v:Value} {xs ys:List Obj} {w:World} (hx:RdO m w u xs) (hy:RdO m' w v ys) :
    Calls Tryz.prog 75 #[u,v,.func (.func 76) #[] #[]] w (PBool (decide (xs=ys)) w):=by
  have hhx:=hx
  have hhy:=hy
  obtain ⟨A,c,rfl,hc1,hc2⟩:=hx.shape
  obtain ⟨B,c',rfl,hd1,hd2⟩:=hy.shape
  have hn:xs.length≤9223372036854775807:=by have:=hc2; unfold maxLen at this; omega
  by_cases hl:xs.length=ys.length
  case neg =>
    have hno:∀ W,Upd [] w W→PBool (decide (xs=ys)) w (.returned (.bool false)) W:=by
      intro W hW
      rw [decide_eq_false (fun h=>hl (by rw [h]))]
      exact ⟨rfl,hW⟩
    have hli:((xs.length:Int) != (ys.length:Int))=true:=by simp; omega
    clear hx hy hhx hhy hl
    go_enter Tryz.func75,Tryz.ntmps75
    go_wp2
    go_ret
    exact hno _ (Upd.refl _ _)
  have hno:∀ W k,xs.getD k ⟨0,[]⟩ ≠ ys.getD k ⟨0,[]⟩→Upd [] w W→PBool (decide (xs=ys)) w (.returned (.bool false)) W:=by
    intro W k hk hW
    rw [decide_eq_false (eqNo k hk)]
    exact ⟨rfl,hW⟩
  have hyes:∀ W,xs.take xs.length=ys.take xs.length→Upd [] w W→PBool (decide (xs=ys)) w (.returned (.bool true)) W:=by
    intro W hk hW
    rw [List.take_length,hl,List.take_length] at hk
    rw [decide_eq_true hk]
    exact ⟨rfl,hW⟩
  revert hno hyes
  generalize PBool (decide (xs=ys)) w=P
  intro hno hyes
  have hli:((xs.length:Int) != (ys.length:Int))=false:=by simp; omega
  have hL:=Lib.hid hl
  clear hx hy hl
  go_enter Tryz.func75,Tryz.ntmps75
  go_wp2
  go_loopw [17] (fun i wr=>∃ k:Nat,k≤xs.length∧i = .int .i64 (k:Int)∧xs.take k=ys.take k∧Upd [] w wr) (fun i _=>xs.length - (intOf i).toNat)
  case atStart=>exact ⟨0,by omega,rfl,by simp,Upd.refl _ _⟩
  case round =>
    obtain ⟨k,hk,rfl,hpre,hu⟩:=hrel
    by_cases hlt:k < xs.length
    · obtain ⟨b,off,ca,rfl,cw0,hr0,hl0⟩:=RdG.at_ hhx ⟨0,[]⟩ k hlt
      obtain ⟨b',off',cb,rfl,cw1,hr1,hl1⟩:=RdG.at_ hhy ⟨0,[]⟩ k (by have:=hL.out; omega)
      have hlt':k < ys.length:=by have:=hL.out; omega
      have hstep:=fun h=>eqPre (d:=⟨0,[]⟩) hL.out hlt hpre h
      have hno':=fun W h=>hno W k h
      revert hstep hno' hr0 hr1
      generalize xs.getD k ⟨0,[]⟩=x0
      generalize ys.getD k ⟨0,[]⟩=y0
      intro hr0 hr1 hstep hno'
      have hc0:=Lib.hid (range_upd cw0 hu (by simp))
      have hc1:=Lib.hid (range_upd cw1 hu (by simp))
      replace hstep:=Lib.hid hstep
      replace hno':=Lib.hid hno'
      have ha:=Lib.hid hr0
      have hb:=Lib.hid hr1
      clear cw0 cw1 hhx hhy hpre hno hyes hr0 hr1
      have tok2_0:True:=trivial
      have tok2_1:True:=trivial
      have tok2_2:True:=trivial
      have tok2_3:True:=trivial
      have tok2_4:True:=trivial
      have tok2_5:True:=trivial
      have tok2_6:True:=trivial
      have tok2_7:True:=trivial
      have tok2_8:True:=trivial
      go_wp2_with (first | (have _t:=tok2_0; refine wpList_load_mid rfl 85 _ rfl b (off + k * 2) rfl ca _ hc0.out Tryz.underlying85 rfl (by rw [hl0]; exact obj_size) ?_; clear _t tok2_0) | (have _t:=tok2_1; refine wp_allocw rfl 85 rfl _ obj_info ?_; intro g1 w1 hg1 hB1 hu1; clear _t tok2_1) | (have _t:=tok2_2; refine wp_storew rfl 85 _ _ rfl g1 rfl ca.toArray rfl _ _ hB1 (by simp only [List.size_toArray,hl0]; exact obj_size) (by simp only [List.size_toArray,hl0]; rfl) (objR.one ha.out).1 ?_; intro w2 hB2 hu2; have U2:=hu1.fresh1 hu2 hg1; clear _t tok2_2) | (have _t:=tok2_3; refine wpList_load_mid rfl 85 _ rfl b' (off' + k * 2) rfl cb _ (range_upd hc1.out U2 (by simp)) Tryz.underlying85 rfl (by rw [hl1]; exact obj_size) ?_; clear _t tok2_3) | (have _t:=tok2_4; refine wp_allocw rfl 85 rfl _ obj_info ?_; intro g3 w3 hg3 hB3 hu3; clear _t tok2_4) | (have _t:=tok2_5; refine wp_storew rfl 85 _ _ rfl g3 rfl cb.toArray rfl _ _ hB3 (by simp only [List.size_toArray,hl1]; exact obj_size) (by simp only [List.size_toArray,hl1]; rfl) (objR.one hb.out).1 ?_; intro w4 hB4 hu4; have U4:=hu3.fresh1 hu4 hg3; have hB24:=U4.blk (by simp) hB2; have V4:=hu.step (U2.step U4); clear _t tok2_5) | (have _t:=tok2_6; refine wpList_load_row rfl 85 _ rfl g1 rfl _ _ _ _ hB24 Tryz.underlying85 rfl (by simp only [List.size_toArray,hl0]; exact obj_size) ?_; clear _t tok2_6) | (have _t:=tok2_7; refine wpList_load_row rfl 85 _ rfl g3 rfl _ _ _ _ hB4 Tryz.underlying85 rfl (by simp only [List.size_toArray,hl1]; exact obj_size) ?_; clear _t tok2_7) | (have _t:=tok2_8; go_at_call 76; refine (object_any (objR.upd0 V4 ha.out) (objR.upd0 V4 hb.out)).mono ?_; rintro e w5 ⟨rfl,hu5⟩; generalize hD:decide (x0=y0)=D; have HD:=Lib.hid hD; clear hD hB24 hB4; clear _t tok2_8))
      · have hD0:(!D)=true:=by assumption
        exact hno'.out _ (by have:=HD.out; intro h; rw [← this,h] at hD0; simp at hD0) (V4.step hu5)
      · have hD0:(!D)=false:=by assumption
        have hxy:x0=y0:=by have:=HD.out; rw [← this] at hD0; simpa using hD0
        go_roundw
        case rel=>exact ⟨k + 1,by omega,by go_num,hstep.out hxy,V4.step hu5⟩
        case measure=>simp [intOf]; omega
    · have hj3:k=xs.length:=by omega
      have H3:=Lib.hid hj3
      rw [hj3] at hpre
      clear hj3 hhx hhy
      go_wp2
      exact hyes _ hpre hu
open Go.RowKit
def plainL (M:Msg) : List Int:=[M.code,M.fail,M.addr,M.count,M.value,M.and_,M.or_,M.addr2,M.sub,M.status,M.events,M.messages,M.mei * 256 + M.kind,M.level * 256 + M.more,M.next]
def plainA (M:Msg) : Array Value:=((plainL M).map (Value.int .u16)).toArray
theorem plain_zero:(Tryz.prog.info? 137).map (·.zero)=some (some (.agg ((List.replicate 15 (Value.int .u16 0)).toArray))):=by kernel_rfl
theorem plain_size:(Tryz.prog.info? 137).map (·.size)=some 15:=by kernel_rfl
theorem build_plain (a0 a1 a2 a3 a4 a5 a6 a7 a8 a9 a10 a11 a12 a13 a14:Int) (w:World) : (Instr.build 137 #[(0,.int .u16 a0),(1,.int .u16 a1),(2,.int .u16 a2),(3,.int .u16 a3),(4,.int .u16 a4),(5,.int .u16 a5),(6,.int .u16 a6),(7,.int .u16 a7),(8,.int .u16 a8),(9,.int .u16 a9),(10,.int .u16 a10),(11,.int .u16 a11),(12,.int .u16 a12),(13,.int .u16 a13),(14,.int .u16 a14)]).run Tryz.prog w
    = .ok (.agg #[.int .u16 a0,.int .u16 a1,.int .u16 a2,.int .u16 a3,.int .u16 a4,.int .u16 a5,.int .u16 a6,.int .u16 a7,.int .u16 a8,.int .u16 a9,.int .u16 a10,.int .u16 a11,.int .u16 a12,.int .u16 a13,.int .u16 a14]) w:=by kernel_rfl
theorem ret_cell {P:Program} {fn:Func} {p:Tmp} {ty:TypeId} (h:fn.results = #[.cell p ty]) {R:Ending→World→Prop} {a:Act} {w:World} (hd0:a.defers=[]) (g:Nat) (t:TypeId) (cs:Array Value) (fr:Nat × Nat) (d:TypeDesc)
    (hp:a.tmps.getD p undef = .pointer (some ⟨g,0,none⟩)) (hg:w.heap[g]? = some (.cells cs t fr))
    (hu:P.underlying ty=some d) (hd:(match d with | .struct _ | .array _ _=>true | _=>false)=true) (hi:(P.info? ty).map (·.size)=some cs.size)
    (hR:R (.returned (.agg cs)) w) : bodyPost P fn R .ret a w:=by
  have hp':a.tmps[p]?.getD undef = .pointer (some ⟨g,0,none⟩):=by simpa using hp
  exact bodyPost_ret (by simp [results,h,hp',asAddr,run_loadVar_row w g t ty cs fr d hg hu hd hi]) hd0 hR
set_option maxRecDepth 100000 in
set_option maxHeartbeats 2000000 in
theorem plain_any {m:Bool} {cs:Array Value} {M:Msg} {w:World} (h:MsgRd m w cs.toList M) : Calls Tryz.prog 70 #[.agg cs] w (PVal (.agg (plainA M)) w):=by
  obtain ⟨vw,vb,vd,vr,vo,h0,_,_,_,_,_,hR⟩:=h
  obtain ⟨c0,c1,c2,c3,c4,c5,c6,c7,c8,c9,c10,c11,l1,l2,l3,l4,c16,c17,c18,c19,c20,l5⟩:=M
  obtain ⟨r0,r1,r2,r3,r4,r5,r6,r7,r8,r9,r10,r11,r16,r17,r18,r19,r20⟩:=hR
  simp only [B8,B16] at r0 r1 r2 r3 r4 r5 r6 r7 r8 r9 r10 r11 r16 r17 r18 r19 r20
  have hpost:∀ W,Upd [] w W→PVal (.agg (plainA ⟨c0,c1,c2,c3,c4,c5,c6,c7,c8,c9,c10,c11,l1,l2,l3,l4,c16,c17,c18,c19,c20,l5⟩)) w (.returned (.agg #[.int .u16 c0,.int .u16 c1,.int .u16 c2,.int .u16 c3,.int .u16 c4,.int .u16 c5,.int .u16 c6,.int .u16 c7,.int .u16 c8,.int .u16 c9,.int .u16 c10,.int .u16 c11,.int .u16 (c16 * 256 + c17),.int .u16 (c18 * 256 + c19),.int .u16 c20])) W:=fun W hW=>⟨rfl,hW⟩
  revert hpost
  generalize PVal (.agg (plainA ⟨c0,c1,c2,c3,c4,c5,c6,c7,c8,c9,c10,c11,l1,l2,l3,l4,c16,c17,c18,c19,c20,l5⟩)) w=P
  intro hpost
  replace hpost:=Lib.hid hpost
  have w0:IntKind.u16.wrap c0=c0:=by show c0 % 65536=c0; omega
  have w1:IntKind.u16.wrap c1=c1:=by show c1 % 65536=c1; omega
  have w16:IntKind.u16.wrap c16=c16:=by show c16 % 65536=c16; omega
  have w17:IntKind.u16.wrap c17=c17:=by show c17 % 65536=c17; omega
  have w18:IntKind.u16.wrap c18=c18:=by show c18 % 65536=c18; omega
  have w19:IntKind.u16.wrap c19=c19:=by show c19 % 65536=c19; omega
  have w20:IntKind.u16.wrap c20=c20:=by show c20 % 65536=c20; omega
  have x1:IntKind.u16.wrap (c16 * 256)=c16 * 256:=by show (c16 * 256) % 65536=c16 * 256; omega
  have x2:IntKind.u16.wrap (c18 * 256)=c18 * 256:=by show (c18 * 256) % 65536=c18 * 256; omega
  have o1:=or_word r16 r17
  have o2:=or_word r18 r19
  have hcs:cs = #[.int .u8 c0,.int .u8 c1,.int .u16 c2,.int .u16 c3,.int .u16 c4,.int .u16 c5,.int .u16 c6,.int .u16 c7,.int .u16 c8,.int .u16 c9,.int .u16 c10,.int .u16 c11,vw,vb,vd,vr,.int .u8 c16,.int .u8 c17,.int .u8 c18,.int .u8 c19,.int .u8 c20,vo]:=by
    apply Array.toList_inj.1
    exact h0
  subst hcs
  have hbp:=build_plain
  clear h0 r0 r1 r2 r3 r4 r5 r6 r7 r8 r9 r10 r11 r16 r17 r18 r19 r20
  go_enter Tryz.func70,Tryz.ntmps70
  have tok1_0:True:=trivial
  have tok1_1:True:=trivial
  have tok1_2:True:=trivial
  go_wp2_with (first | (have _t:=tok1_0; refine wp_boxw rfl 31 _ rfl (.agg #[.int .u8 c0,.int .u8 c1,.int .u16 c2,.int .u16 c3,.int .u16 c4,.int .u16 c5,.int .u16 c6,.int .u16 c7,.int .u16 c8,.int .u16 c9,.int .u16 c10,.int .u16 c11,vw,vb,vd,vr,.int .u8 c16,.int .u8 c17,.int .u8 c18,.int .u8 c19,.int .u8 c20,vo]) rfl ?_; intro g w1 hg hB hu1; clear _t tok1_0) | (have _t:=tok1_1; refine wp_allocw rfl 137 rfl _ plain_zero ?_; intro gp w2 hgp hBp hu2; replace hB:=hu2.blk (by simp) hB; have k0:w2.cell? ⟨g,0,none⟩=some (.int .u8 c0):=(blk_cell hB 0).trans rfl; have k1:w2.cell? ⟨g,1,none⟩=some (.int .u8 c1):=(blk_cell hB 1).trans rfl; have k2:w2.cell? ⟨g,2,none⟩=some (.int .u16 c2):=(blk_cell hB 2).trans rfl; have k3:w2.cell? ⟨g,3,none⟩=some (.int .u16 c3):=(blk_cell hB 3).trans rfl; have k4:w2.cell? ⟨g,4,none⟩=some (.int .u16 c4):=(blk_cell hB 4).trans rfl; have k5:w2.cell? ⟨g,5,none⟩=some (.int .u16 c5):=(blk_cell hB 5).trans rfl; have k6:w2.cell? ⟨g,6,none⟩=some (.int .u16 c6):=(blk_cell hB 6).trans rfl; have k7:w2.cell? ⟨g,7,none⟩=some (.int .u16 c7):=(blk_cell hB 7).trans rfl; have k8:w2.cell? ⟨g,8,none⟩=some (.int .u16 c8):=(blk_cell hB 8).trans rfl; have k9:w2.cell? ⟨g,9,none⟩=some (.int .u16 c9):=(blk_cell hB 9).trans rfl; have k10:w2.cell? ⟨g,10,none⟩=some (.int .u16 c10):=(blk_cell hB 10).trans rfl; have k11:w2.cell? ⟨g,11,none⟩=some (.int .u16 c11):=(blk_cell hB 11).trans rfl; have k16:w2.cell? ⟨g,16,none⟩=some (.int .u8 c16):=(blk_cell hB 16).trans rfl; have k17:w2.cell? ⟨g,17,none⟩=some (.int .u8 c17):=(blk_cell hB 17).trans rfl; have k18:w2.cell? ⟨g,18,none⟩=some (.int .u8 c18):=(blk_cell hB 18).trans rfl; have k19:w2.cell? ⟨g,19,none⟩=some (.int .u8 c19):=(blk_cell hB 19).trans rfl; have k20:w2.cell? ⟨g,20,none⟩=some (.int .u8 c20):=(blk_cell hB 20).trans rfl; clear hB; clear _t tok1_1) | (have _t:=tok1_2; refine wp_storew rfl 137 _ _ rfl gp rfl _ rfl _ _ hBp plain_size rfl (by simp [Value.oneCell']) ?_; intro w3 hB3 hu3; clear _t tok1_2))
  refine ret_cell rfl rfl gp _ _ _ _ rfl hB3 Tryz.underlying137 rfl plain_size ?_
  exact hpost.out _ (hu1.step (hu2.fresh1 hu3 hgp))
open Go.RowKit
theorem all_range_int:∀ (xs ys:List Int),xs.length=ys.length→((List.range xs.length).all fun i=>xs.getD i 0 == ys.getD i 0)=(xs == ys)
  | [],[],_=>rfl
  | x :: xs,y :: ys,h=>by
    have ih:=all_range_int xs ys (by simpa using h)
    rw [List.length_cons,List.range_succ_eq_map,List.all_cons,List.all_map]
    simp only [List.getD_cons_zero,Function.comp_def,List.getD_cons_succ,ih]
    simp [List.cons_beq_cons]
  | [],_ :: _,h=>by simp at h
  | _ :: _,[],h=>by simp at h
theorem run_eql_ints {P:Program} (w:World) (t e:TypeId) (k:IntKind) (n:Nat) (ht:P.underlying t=some (.array n e)) (he:P.underlying e=some (.int k)) (hsz:∀ w,(sizeOf e).run P w = .ok 1 w)
    (xs ys:List Int) (hx:xs.length=n) (hy:ys.length=n) :
    (binOp .eql t (.agg (xs.map (Value.int k)).toArray) (.agg (ys.map (Value.int k)).toArray)).run P w = .ok (.bool (xs == ys)) w:=by
  rw [run_eql_struct]
  suffices h:(Op.equalIn 10000 t (.agg (xs.map (Value.int k)).toArray) (.agg (ys.map (Value.int k)).toArray)).run P w = .ok (xs == ys) w by
    rw [h]
    rfl
  rw [show (10000:Nat)=9998 + 2 from rfl]
  rw [← all_range_int xs ys (hx.trans hy.symm),hx,List.range_eq_range',Op.equalIn]
  simp only [Sem.run_bind,run_underlying ht,Result.andThen_ok,hsz,Std.Legacy.Range.forIn_eq_forIn_range',Std.Legacy.Range.size,Nat.sub_zero,Nat.add_sub_cancel,Nat.div_one]
  have hl:∀ i∈List.range' 0 n 1,i < n:=fun i hi=>by simpa using (List.mem_range'_1.1 hi).2
  generalize List.range' 0 n 1=l at hl ⊢
  induction l with
  | nil=>simp
  | cons i l ih =>
    have hi:i < n:=hl i (by simp)
    have px:(part e (xs.map (Value.int k)).toArray (i * 1)).run P w = .ok (Value.int k (xs.getD i 0)) w:=by
      simp [part,isAgg,run_underlying he,List.getD,List.getElem?_eq_getElem (show i < xs.length by omega)]
    have py:(part e (ys.map (Value.int k)).toArray (i * 1)).run P w = .ok (Value.int k (ys.getD i 0)) w:=by
      simp [part,isAgg,run_underlying he,List.getD,List.getElem?_eq_getElem (show i < ys.length by omega)]
    have pe:(Op.equalIn (9998 + 1) e (Value.int k (xs.getD i 0)) (Value.int k (ys.getD i 0))).run P w = .ok (xs.getD i 0 == ys.getD i 0) w:=run_equalIn_int w 9998 e k k _ _ he
    simp only [List.forIn_cons,Sem.run_bind,px,py,pe,Result.andThen_ok,List.all_cons]
    cases hb:(xs.getD i 0 == ys.getD i 0)
    · simp
    · simp only [Bool.not_true,Bool.false_eq_true,if_false,Sem.run_pure,Result.andThen_ok,Bool.true_and]
      exact ih fun j hj=>hl j (by simp [hj])
theorem plain_eq {A B:Msg} (ha:MsgRng A) (hb:MsgRng B) : plainL A=plainL B ↔ A = { B with words:=A.words,bits:=A.bits,data:=A.data,recs:=A.recs,objects:=A.objects }:=by
  obtain ⟨_,_,_,_,_,_,_,_,_,_,_,_,a1,a2,a3,a4,_⟩:=ha
  obtain ⟨_,_,_,_,_,_,_,_,_,_,_,_,b1,b2,b3,b4,_⟩:=hb
  cases A; cases B
  simp only [B8] at a1 a2 a3 a4 b1 b2 b3 b4
  simp only [plainL,List.cons.injEq,and_true,Msg.mk.injEq,true_and]
  constructor
  · rintro ⟨h1,h2,h3,h4,h5,h6,h7,h8,h9,h10,h11,h12,h13,h14,h15⟩
    refine ⟨h1,h2,h3,h4,h5,h6,h7,h8,h9,h10,h11,h12,?_,?_,?_,?_,h15⟩ <;> omega
  · rintro ⟨h1,h2,h3,h4,h5,h6,h7,h8,h9,h10,h11,h12,h13,h14,h15,h16,h17⟩
    refine ⟨h1,h2,h3,h4,h5,h6,h7,h8,h9,h10,h11,h12,?_,?_,h17⟩ <;> omega
theorem msg_eq {A B:Msg} (ha:MsgRng A) (hb:MsgRng B) : A=B ↔ plainL A=plainL B∧A.words=B.words∧A.bits=B.bits∧A.data=B.data∧A.recs=B.recs∧A.objects=B.objects:=by
  rw [plain_eq ha hb]
  constructor
  · rintro rfl
    exact ⟨rfl,rfl,rfl,rfl,rfl,rfl⟩
  · rintro ⟨h1,h2,h3,h4,h5,h6⟩
    rw [h1,h2,h3,h4,h5,h6]
open Go.RowKit
theorem run_eqplain {ev:Operand→Value} {o:Oper} {x y:Operand} {t:TypeId} {A B:Msg} {w:World} (ho:o.op = .binOp .eql 137 x y t) (hx:ev x = .agg (plainA A)) (hy:ev y = .agg (plainA B)) :
    (execOp ev o).run Tryz.prog w = .ok (.value (.bool (plainL A == plainL B))) w:=by
  have hg:(eqGuard .eql 137 x y (.agg (plainA A)) (.agg (plainA B))).run Tryz.prog w = .ok () w:=run_eqGuard_agg w .eql _ x y _ _ (by kernel_rfl)
  have he:(binOp .eql 137 (.agg (plainA A)) (.agg (plainA B))).run Tryz.prog w = .ok (.bool (plainL A == plainL B)) w:=run_eql_ints (P:=Tryz.prog) w 137 22 .u16 15 Tryz.underlying137 Tryz.underlying22 (fun w=>by kernel_rfl) (plainL A) (plainL B) rfl rfl
  unfold execOp
  simp only [ho,hx,hy,Sem.run_bind,hg,he,Sem.run_pure,Result.andThen]
theorem same_dec {A B:Msg} (ha:MsgRng A) (hb:MsgRng B) : decide (A=B)=(plainL A == plainL B && (decide (A.words=B.words) && (decide (A.bits=B.bits) && (decide (A.data=B.data) && (decide (A.recs=B.recs) && decide (A.objects=B.objects)))))):=by
  rw [Bool.eq_iff_iff]
  simp only [Bool.and_eq_true,decide_eq_true_eq,beq_iff_eq]
  exact msg_eq ha hb
set_option maxRecDepth 100000 in
set_option maxHeartbeats 4000000 in
theorem same_any {m m':Bool} {pc qc:Array Value} {A B:Msg} {w:World} (ha:MsgRd m w pc.toList A) (hb:MsgRd m' w qc.toList B) :
    Calls Tryz.prog 56 #[.agg pc,.agg qc] w (PBool (decide (A=B)) w):=by
 have pM:=ha
 obtain ⟨pvw,pvb,pvd,pvr,pvo,ph0,phw,phb,phd,phr,pho,pR⟩:=ha
 obtain rfl:pc=(msgCells A pvw pvb pvd pvr pvo).toArray:=by apply Array.toList_inj.1; simpa using ph0
 clear ph0
 obtain ⟨pw,pkw,rfl,_,_⟩:=phw.shape
 obtain ⟨pb,pkb,rfl,_,_⟩:=phb.shape
 obtain ⟨pd,pkd,rfl,_,_⟩:=phd.shape
 obtain ⟨pr,pkr,rfl,_,_⟩:=phr.shape
 obtain ⟨po,pko,rfl,_,_⟩:=pho.shape
 have qM:=hb
 obtain ⟨qvw,qvb,qvd,qvr,qvo,qh0,qhw,qhb,qhd,qhr,qho,qR⟩:=hb
 obtain rfl:qc=(msgCells B qvw qvb qvd qvr qvo).toArray:=by apply Array.toList_inj.1; simpa using qh0
 clear qh0
 obtain ⟨qw,qkw,rfl,_,_⟩:=qhw.shape
 obtain ⟨qb,qkb,rfl,_,_⟩:=qhb.shape
 obtain ⟨qd,qkd,rfl,_,_⟩:=qhd.shape
 obtain ⟨qr,qkr,rfl,_,_⟩:=qhr.shape
 obtain ⟨qo,qko,rfl,_,_⟩:=qho.shape
 refine en 47 Tryz.func56 rfl<|sg<|L0<|Obx (mG A.code A.fail A.addr A.count A.value A.and_ A.or_ A.addr2 A.sub A.status A.events A.messages (.slice pw A.words.length pkw) (.slice pb A.bits.length pkb) (.slice pd A.data.length pkd) (.slice pr A.recs.length pkr) A.mei A.kind A.level A.more A.next (.slice po A.objects.length pko)) fun g10 w11 hg12 B13 hu14=>L0<|Obx (mG B.code B.fail B.addr B.count B.value B.and_ B.or_ B.addr2 B.sub B.status B.events B.messages (.slice qw B.words.length qkw) (.slice qb B.bits.length qkb) (.slice qd B.data.length qkd) (.slice qr B.recs.length qkr) B.mei B.kind B.level B.more B.next (.slice qo B.objects.length qko)) fun g15 w16 hg17 B18 hu19=>Pl 1<|nt<|sq<|Rg 43 (fun w'=>w'.heap[g10]? = some (.cells (mG A.code A.fail A.addr A.count A.value A.and_ A.or_ A.addr2 A.sub A.status A.events A.messages (.slice pw A.words.length pkw) (.slice pb A.bits.length pkb) (.slice pd A.data.length pkd) (.slice pr A.recs.length pkr) A.mei A.kind A.level A.more A.next (.slice po A.objects.length pko)) 31 (0,0))∧w'.heap[g15]? = some (.cells (mG B.code B.fail B.addr B.count B.value B.and_ B.or_ B.addr2 B.sub B.status B.events B.messages (.slice qw B.words.length qkw) (.slice qb B.bits.length qkb) (.slice qd B.data.length qkd) (.slice qr B.recs.length qkr) B.mei B.kind B.level B.more B.next (.slice qo B.objects.length qko)) 31 (0,0))∧w'.cell? ⟨g10,12,none⟩=some (.slice pw A.words.length pkw)∧w'.cell? ⟨g15,12,none⟩=some (.slice qw B.words.length qkw)∧w'.cell? ⟨g10,13,none⟩=some (.slice pb A.bits.length pkb)∧w'.cell? ⟨g15,13,none⟩=some (.slice qb B.bits.length qkb)∧w'.cell? ⟨g10,14,none⟩=some (.slice pd A.data.length pkd)∧RdB false w' (.slice pd A.data.length pkd) A.data∧w'.cell? ⟨g15,14,none⟩=some (.slice qd B.data.length qkd)∧RdB false w' (.slice qd B.data.length qkd) B.data∧w'.cell? ⟨g10,15,none⟩=some (.slice pr A.recs.length pkr)∧w'.cell? ⟨g15,15,none⟩=some (.slice qr B.recs.length qkr)∧w'.cell? ⟨g10,21,none⟩=some (.slice po A.objects.length pko)∧w'.cell? ⟨g15,21,none⟩=some (.slice qo B.objects.length qko)) fun w55 hu56=>?_
 have U58:=ut0 hu19 hu56
 have r59:=ub U58 B13
 have r60:=ub hu56 B18
 have U61:=ut0 hu14 hu19
 have U62:=ut0 U61 hu56
 have r63:=RdB.old phd U62
 have r64:=RdB.old qhd U62
 refine hld ⟨r59,r60,(blk_at r59 rfl),(blk_at r60 rfl),(blk_at r59 rfl),(blk_at r60 rfl),(blk_at r59 rfl),(RdG.any r63 (fun _ _ h=>h)),(blk_at r60 rfl),(RdG.any r64 (fun _ _ h=>h)),(blk_at r59 rfl),(blk_at r60 rfl),(blk_at r59 rfl),(blk_at r60 rfl)⟩ fun hS57=>Rr 0 hS57 (.agg (mG A.code A.fail A.addr A.count A.value A.and_ A.or_ A.addr2 A.sub A.status A.events A.messages (.slice pw A.words.length pkw) (.slice pb A.bits.length pkb) (.slice pd A.data.length pkd) (.slice pr A.recs.length pkr) A.mei A.kind A.level A.more A.next (.slice po A.objects.length pko))) (fun w' hs=>lda_o (g:=g10) (off:=0) [.int .u8 A.code,.int .u8 A.fail,.int .u16 A.addr,.int .u16 A.count,.int .u16 A.value,.int .u16 A.and_,.int .u16 A.or_,.int .u16 A.addr2,.int .u16 A.sub,.int .u16 A.status,.int .u16 A.events,.int .u16 A.messages,.slice pw A.words.length pkw,.slice pb A.bits.length pkb,.slice pd A.data.length pkd,.slice pr A.recs.length pkr,.int .u8 A.mei,.int .u8 A.kind,.int .u8 A.level,.int .u8 A.more,.int .u8 A.next,.slice po A.objects.length pko] rfl (by kernel_rfl) hs.1 (by kernel_rfl) (by kernel_rfl) rfl)<|Rr 2 hS57 (.agg (mG B.code B.fail B.addr B.count B.value B.and_ B.or_ B.addr2 B.sub B.status B.events B.messages (.slice qw B.words.length qkw) (.slice qb B.bits.length qkb) (.slice qd B.data.length qkd) (.slice qr B.recs.length qkr) B.mei B.kind B.level B.more B.next (.slice qo B.objects.length qko))) (fun w' hs=>lda_o (g:=g15) (off:=0) [.int .u8 B.code,.int .u8 B.fail,.int .u16 B.addr,.int .u16 B.count,.int .u16 B.value,.int .u16 B.and_,.int .u16 B.or_,.int .u16 B.addr2,.int .u16 B.sub,.int .u16 B.status,.int .u16 B.events,.int .u16 B.messages,.slice qw B.words.length qkw,.slice qb B.bits.length qkb,.slice qd B.data.length qkd,.slice qr B.recs.length qkr,.int .u8 B.mei,.int .u8 B.kind,.int .u8 B.level,.int .u8 B.more,.int .u8 B.next,.slice qo B.objects.length qko] rfl (by kernel_rfl) hs.2.1 (by kernel_rfl) (by kernel_rfl) rfl)<|?_
 have r67:=MsgRd.old pM U62
 refine R0 1 rfl<|Oc<|m1 (plain_any r67) fun w65 hu66=>?_
 have r69:=ub hu66 r59
 have r70:=ub hu66 r60
 have r71:=RdB.old r63 hu66
 have r72:=RdB.old r64 hu66
 refine hld ⟨r69,r70,(blk_at r69 rfl),(blk_at r70 rfl),(blk_at r69 rfl),(blk_at r70 rfl),(blk_at r69 rfl),(RdG.any r71 (fun _ _ h=>h)),(blk_at r70 rfl),(RdG.any r72 (fun _ _ h=>h)),(blk_at r69 rfl),(blk_at r70 rfl),(blk_at r69 rfl),(blk_at r70 rfl)⟩ fun hS68=>?_
 have U75:=ut0 U62 hu66
 have r76:=MsgRd.old qM U75
 refine R0 3 rfl<|Oc<|m1 (plain_any r76) fun w73 hu74=>?_
 have r78:=ub hu74 r69
 have r79:=ub hu74 r70
 have r80:=RdB.old r71 hu74
 have r81:=RdB.old r72 hu74
 refine hld ⟨r78,r79,(blk_at r78 rfl),(blk_at r79 rfl),(blk_at r78 rfl),(blk_at r79 rfl),(blk_at r78 rfl),(RdG.any r80 (fun _ _ h=>h)),(blk_at r79 rfl),(RdG.any r81 (fun _ _ h=>h)),(blk_at r78 rfl),(blk_at r79 rfl),(blk_at r78 rfl),(blk_at r79 rfl)⟩ fun hS77=>Rr 4 hS77 (.bool (plainL A == plainL B)) (fun _ _=>run_eqplain rfl (by kernel_rfl) (by kernel_rfl))<|Rt 5 hS77<|?_
 have U82:=ut0 U75 hu74
 refine bla 10 ((plainL A == plainL B)) (fun q83=>?_) (fun q83=>?_)
 refine Rt 6 hS77<|Rl 7 hS77 (fun _ hs=>hs.2.2.1)<|Rt 8 hS77<|Rl 9 hS77 (fun _ hs=>hs.2.2.2.1)<|?_
 have r86:=RdW.old phw U82
 have r87:=RdW.old qhw U82
 refine R0 10 rfl<|Oc<|m1 (eqW_any r86 r87) fun w84 hu85=>?_
 have r89:=ub hu85 r78
 have r90:=ub hu85 r79
 have r91:=RdB.old r80 hu85
 have r92:=RdB.old r81 hu85
 refine hld ⟨r89,r90,(blk_at r89 rfl),(blk_at r90 rfl),(blk_at r89 rfl),(blk_at r90 rfl),(blk_at r89 rfl),(RdG.any r91 (fun _ _ h=>h)),(blk_at r90 rfl),(RdG.any r92 (fun _ _ h=>h)),(blk_at r89 rfl),(blk_at r90 rfl),(blk_at r89 rfl),(blk_at r90 rfl)⟩ fun hS88=>Rt 11 hS88<|Rt 12 hS88<|?_
 have U93:=ut0 U82 hu85
 refine bla 17 ((decide (A.words=B.words))) (fun q94=>?_) (fun q94=>?_)
 have q94p:=of_decide_eq_true q94
 refine Rt 13 hS88<|Rl 14 hS88 (fun _ hs=>hs.2.2.2.2.1)<|Rt 15 hS88<|Rl 16 hS88 (fun _ hs=>hs.2.2.2.2.2.1)<|?_
 have r97:=RdL.old phb U93
 have r98:=RdL.old qhb U93
 refine R0 17 rfl<|Oc<|m1 (eqL_any r97 r98) fun w95 hu96=>?_
 have r100:=ub hu96 r89
 have r101:=ub hu96 r90
 have r102:=RdB.old r91 hu96
 have r103:=RdB.old r92 hu96
 refine hld ⟨r100,r101,(blk_at r100 rfl),(blk_at r101 rfl),(blk_at r100 rfl),(blk_at r101 rfl),(blk_at r100 rfl),(RdG.any r102 (fun _ _ h=>h)),(blk_at r101 rfl),(RdG.any r103 (fun _ _ h=>h)),(blk_at r100 rfl),(blk_at r101 rfl),(blk_at r100 rfl),(blk_at r101 rfl)⟩ fun hS99=>Rt 18 hS99<|Rt 19 hS99<|?_
 have U104:=ut0 U93 hu96
 refine bla 24 ((decide (A.bits=B.bits))) (fun q105=>?_) (fun q105=>?_)
 have q105p:=of_decide_eq_true q105
 refine Rt 20 hS99<|Rl 21 hS99 (fun _ hs=>hs.2.2.2.2.2.2.1)<|Rr 22 hS99 (.string (strOfNums A.data)) (fun _ hs=>run_convB (A:=pd) (n:=A.data.length) (c:=pkd) rfl (by kernel_rfl) Tryz.underlying27 Tryz.underlying5 Tryz.underlying9 hs.2.2.2.2.2.2.2.1)<|Rt 23 hS99<|Rl 24 hS99 (fun _ hs=>hs.2.2.2.2.2.2.2.2.1)<|Rr 25 hS99 (.string (strOfNums B.data)) (fun _ hs=>run_convB (A:=qd) (n:=B.data.length) (c:=qkd) rfl (by kernel_rfl) Tryz.underlying27 Tryz.underlying5 Tryz.underlying9 hs.2.2.2.2.2.2.2.2.2.1)<|Rr 26 hS99 (.bool (decide (A.data=B.data))) (fun _ _=>run_strq (a:=(strOfNums A.data)) (b:=(strOfNums B.data)) rfl (by kernel_rfl) (by kernel_rfl) (str_eq r102 r103))<|Rt 27 hS99<|Rt 28 hS99<|bla 33 ((decide (A.data=B.data))) (fun q106=>?_) (fun q106=>?_)
 have q106p:=of_decide_eq_true q106
 refine Rt 29 hS99<|Rl 30 hS99 (fun _ hs=>hs.2.2.2.2.2.2.2.2.2.2.1)<|Rt 31 hS99<|Rl 32 hS99 (fun _ hs=>hs.2.2.2.2.2.2.2.2.2.2.2.1)<|?_
 have r109:=RdR.old phr U104
 have r110:=RdR.old qhr U104
 refine R0 33 rfl<|Oc<|m1 (eqR_any r109 r110) fun w107 hu108=>?_
 have r112:=ub hu108 r100
 have r113:=ub hu108 r101
 have r114:=RdB.old r102 hu108
 have r115:=RdB.old r103 hu108
 refine hld ⟨r112,r113,(blk_at r112 rfl),(blk_at r113 rfl),(blk_at r112 rfl),(blk_at r113 rfl),(blk_at r112 rfl),(RdG.any r114 (fun _ _ h=>h)),(blk_at r113 rfl),(RdG.any r115 (fun _ _ h=>h)),(blk_at r112 rfl),(blk_at r113 rfl),(blk_at r112 rfl),(blk_at r113 rfl)⟩ fun hS111=>Rt 34 hS111<|Rt 35 hS111<|?_
 have U116:=ut0 U104 hu108
 refine bla 40 ((decide (A.recs=B.recs))) (fun q117=>?_) (fun q117=>?_)
 have q117p:=of_decide_eq_true q117
 refine Rt 36 hS111<|Rl 37 hS111 (fun _ hs=>hs.2.2.2.2.2.2.2.2.2.2.2.2.1)<|Rt 38 hS111<|Rl 39 hS111 (fun _ hs=>hs.2.2.2.2.2.2.2.2.2.2.2.2.2)<|?_
 have r120:=RdO.old pho U116
 have r121:=RdO.old qho U116
 refine R0 40 rfl<|Oc<|m1 (eqO_any r120 r121) fun w118 hu119=>?_
 have r123:=ub hu119 r112
 have r124:=ub hu119 r113
 have r125:=RdB.old r114 hu119
 have r126:=RdB.old r115 hu119
 refine hld ⟨r123,r124,(blk_at r123 rfl),(blk_at r124 rfl),(blk_at r123 rfl),(blk_at r124 rfl),(blk_at r123 rfl),(RdG.any r125 (fun _ _ h=>h)),(blk_at r124 rfl),(RdG.any r126 (fun _ _ h=>h)),(blk_at r123 rfl),(blk_at r124 rfl),(blk_at r123 rfl),(blk_at r124 rfl)⟩ fun hS122=>Rt 41 hS122<|Rt 42 hS122<|re<|tn<|rt<|rr (.bool (decide (A.objects=B.objects)))<|?_
 have hs:decide (A=B)=(decide (A.objects=B.objects)):=by
   rw [same_dec pR qR]
   (try simp only [q83,q94,q105,q106,q117,bs,if_true,if_false,decide_true,decide_false])
 rw [hs]
 have U127:=ut0 U116 hu119
 exact ⟨rfl,U127⟩
 have q117p:=of_decide_eq_false q117
 refine Ro 36 hS111<|Ro 37 hS111<|Ro 38 hS111<|Ro 39 hS111<|Ro 40 hS111<|Rt 41 hS111<|Rt 42 hS111<|re<|tn<|rt<|rr (.bool false)<|?_
 have hs:decide (A=B)=false:=by
   rw [same_dec pR qR]
   (try simp only [q83,q94,q105,q106,q117,bs,if_true,if_false,decide_true,decide_false])
 rw [hs]
 exact ⟨rfl,U116⟩
 have q106p:=of_decide_eq_false q106
 refine Ro 29 hS99<|Ro 30 hS99<|Ro 31 hS99<|Ro 32 hS99<|Ro 33 hS99<|Rt 34 hS99<|Rt 35 hS99<|Ro 36 hS99<|Ro 37 hS99<|Ro 38 hS99<|Ro 39 hS99<|Ro 40 hS99<|Rt 41 hS99<|Rt 42 hS99<|?_
 refine re<|tn<|rt<|rr (.bool false)<|?_
 have hs:decide (A=B)=false:=by
   rw [same_dec pR qR]
   (try simp only [q83,q94,q105,q106,bs,if_true,if_false,decide_true,decide_false])
 rw [hs]
 exact ⟨rfl,U104⟩
 have q105p:=of_decide_eq_false q105
 refine Ro 20 hS99<|Ro 21 hS99<|Ro 22 hS99<|Ro 23 hS99<|Ro 24 hS99<|Ro 25 hS99<|Ro 26 hS99<|Rt 27 hS99<|Rt 28 hS99<|Ro 29 hS99<|Ro 30 hS99<|Ro 31 hS99<|Ro 32 hS99<|Ro 33 hS99<|?_
 refine Rt 34 hS99<|Rt 35 hS99<|Ro 36 hS99<|Ro 37 hS99<|Ro 38 hS99<|Ro 39 hS99<|Ro 40 hS99<|Rt 41 hS99<|Rt 42 hS99<|re<|tn<|rt<|rr (.bool false)<|?_
 have hs:decide (A=B)=false:=by
   rw [same_dec pR qR]
   (try simp only [q83,q94,q105,bs,if_true,if_false,decide_true,decide_false])
 rw [hs]
 exact ⟨rfl,U104⟩
 have q94p:=of_decide_eq_false q94
 refine Ro 13 hS88<|Ro 14 hS88<|Ro 15 hS88<|Ro 16 hS88<|Ro 17 hS88<|Rt 18 hS88<|Rt 19 hS88<|Ro 20 hS88<|Ro 21 hS88<|Ro 22 hS88<|Ro 23 hS88<|Ro 24 hS88<|Ro 25 hS88<|Ro 26 hS88<|?_
 refine Rt 27 hS88<|Rt 28 hS88<|Ro 29 hS88<|Ro 30 hS88<|Ro 31 hS88<|Ro 32 hS88<|Ro 33 hS88<|Rt 34 hS88<|Rt 35 hS88<|Ro 36 hS88<|Ro 37 hS88<|Ro 38 hS88<|Ro 39 hS88<|Ro 40 hS88<|?_
 refine Rt 41 hS88<|Rt 42 hS88<|re<|tn<|rt<|rr (.bool false)<|?_
 have hs:decide (A=B)=false:=by
   rw [same_dec pR qR]
   (try simp only [q83,q94,bs,if_true,if_false,decide_true,decide_false])
 rw [hs]
 exact ⟨rfl,U93⟩
 refine Ro 6 hS77<|Ro 7 hS77<|Ro 8 hS77<|Ro 9 hS77<|Ro 10 hS77<|Rt 11 hS77<|Rt 12 hS77<|Ro 13 hS77<|Ro 14 hS77<|Ro 15 hS77<|Ro 16 hS77<|Ro 17 hS77<|Rt 18 hS77<|Rt 19 hS77<|?_
 refine Ro 20 hS77<|Ro 21 hS77<|Ro 22 hS77<|Ro 23 hS77<|Ro 24 hS77<|Ro 25 hS77<|Ro 26 hS77<|Rt 27 hS77<|Rt 28 hS77<|Ro 29 hS77<|Ro 30 hS77<|Ro 31 hS77<|Ro 32 hS77<|Ro 33 hS77<|?_
 refine Rt 34 hS77<|Rt 35 hS77<|Ro 36 hS77<|Ro 37 hS77<|Ro 38 hS77<|Ro 39 hS77<|Ro 40 hS77<|Rt 41 hS77<|Rt 42 hS77<|re<|tn<|rt<|rr (.bool false)<|?_
 have hs:decide (A=B)=false:=by
   rw [same_dec pR qR]
   (try simp only [q83,bs,if_true,if_false,decide_true,decide_false])
 rw [hs]
 exact ⟨rfl,U82⟩
open Go.RowKit
def PMkF (Q:World→Ending→World→Prop) (w:World) (e:Ending) (w':World) : Prop:=∃ F free,e = .returned (.func (.func F) #[] free)∧fnO Tryz.prog F=some (false,true)∧Upd [] w w'∧Calls Tryz.prog F free w' (Q w')
set_option maxRecDepth 100000 in
set_option maxHeartbeats 4000000 in
theorem rspan_any {g:Nat} {C:Cur} {w:World} {a most:Int} (hC:CurAt w g C) (ha:0≤a∧a < 65536) :
    Calls Tryz.prog 110 #[.pointer (some ⟨g,0,none⟩),.int .u16 a,.int .i64 most] w (PByte g .i64 65536 C.wordV (rspanC C a most) w):=by
 have hlen:=hC.len
 have hrr:=hC.wordV
 refine en 26 Tryz.func110 rfl<|sg<|Pl 1<|ng<|Pl 1<|L0<|Oc<|m3 (word_any hC) fun w10 hc11 hu12 hr13=>L0<|Oi C.wordV<|Pl 1<|nt<|?_
 refine sg<|Pl 4<|cu 4 [14] 18 (((decide (1≤C.wordV)) && (decide (C.wordV≤most)))) (fun K K15=>?_) ?_
 refine bl 14 ((decide (1≤C.wordV))) (fun q14=>?_) (fun q14=>?_)
 have q14p:=of_decide_eq_true q14
 exact Pl 4<|ce K15 (decide (C.wordV≤most)) (by rw [q14]; rfl)
 have q14p:=of_decide_eq_false q14
 exact Pl 4<|ce K15 false (by rw [q14]; rfl)
 refine L0<|Oc<|m2 (need_any (((decide (1≤C.wordV)) && (decide (C.wordV≤most)))) 5 hc11) fun w16 hc17 hu18=>ng<|Pl 3<|L0<|Oc<|mq (within_any (a:=a) (n:=C.wordV) (by omega))<|L0<|Oc<|m2 (need_any ((within a C.wordV)) 7 hc17) fun w19 hc20 hu21=>ng<|Pl 2<|nl<|?_
 refine tn<|rt<|rr (.int .i64 C.wordV)<|?_
 have hs:rspanC C a most=(((C.wordsC 1).need ((decide (1≤C.wordV)) && (decide (C.wordV≤most))) 5).need (within a C.wordV) 7):=by
   unfold rspanC
   (try simp only [bs,if_true,if_false,decide_true,decide_false,reduceIte])
   all_goals rfl
 rw [hs]
 have U22:=u1 hu12 hu18 im
 have U23:=u1 U22 hu21 im
 exact ⟨rfl,hc20,U23,hrr⟩
set_option maxRecDepth 100000 in
set_option maxHeartbeats 4000000 in
theorem counted_any {g:Nat} {C:Cur} {w:World} {n:Int} (hC:CurAt w g C) (hn:0≤n∧n < 65536) :
    Calls Tryz.prog 116 #[.pointer (some ⟨g,0,none⟩),.int .i64 n] w (fun e w'=>∃ v,e = .returned v∧OwnW w.heap.size w' v ((countedC1 C n).wordsR n)∧CurAt w' g ((countedC1 C n).wordsC n)∧Upd [g] w w'):=by
 have hlen:=hC.len
 refine en 16 Tryz.func116 rfl<|sg<|Pl 1<|ng<|Pl 2<|L0<|Oc<|m3 (byte_any hC) fun w10 hc11 hu12 hr13=>L0<|Oi C.byteV<|Pl 1<|L0<|Oi (2 * n)<|Pl 1<|L0<|Oc<|m2 (need_any ((C.byteV == (2 * n))) 5 hc11) fun w14 hc15 hu16=>?_
 refine ng<|Pl 2<|L0<|Oc<|so3 (words_any (n:=n) hc15) fun A24 cp25 w17 rd28 hl26 hm27 hc20 hu21=>Pl 1<|nt<|rt<|rr (.slice A24 ((((C.bytesC 1).need (C.byteV == (2 * n)) 5).wordsR n).length) cp25)<|?_
 have hs:countedC1 C n=((C.bytesC 1).need (C.byteV == (2 * n)) 5):=by
   unfold countedC1
   (try simp only [bs,if_true,if_false,decide_true,decide_false,reduceIte])
   all_goals rfl
 rw [hs]
 have U29:=u1 hu12 hu16 im
 have U30:=u1 U29 hu21 im
 exact ⟨_,rfl,(OwnG.weaken rd28 (le hu12.size hu16.size)),hc20,U30⟩
set_option maxRecDepth 100000 in
set_option maxHeartbeats 4000000 in
theorem where_any {most:Int} {g gm:Nat} {c:Int} {C:Cur} {w:World} (hcode:B8 c) (hC:CurAt w g C) (hm:w.heap[gm]? = some (.cells (mC c) 31 (0,0))) (hne:g ≠ gm) {bc:Nat} {bm:Nat} (hbc:w.heap[bc]? = some (.cells #[.pointer (some ⟨g,0,none⟩)] 143 (0,0))) (n_bc_g:bc ≠ g) (n_bc_gm:bc ≠ gm) (hbm:w.heap[bm]? = some (.cells #[.pointer (some ⟨gm,0,none⟩)] 145 (0,0))) (n_bm_g:bm ≠ g) (n_bm_gm:bm ≠ gm) :
    Calls Tryz.prog 109 #[.int .i64 most,.pointer (some ⟨bc,0,none⟩),.pointer (some ⟨bm,0,none⟩)] w (PCells g gm (rspanC (C.wordsC 1) C.wordV most) (mG c 0 C.wordV (C.wordsC 1).wordV 0 0 0 0 0 0 0 0 nS nS nS nS 0 0 0 0 0 nS) w):=by
 obtain ⟨hcode1,hcode2⟩:=hcode
 have hlen:=hC.len
 refine en 20 Tryz.func109 rfl<|sq<|Rg 6 (fun w'=>w'.cell? ⟨bm,0,none⟩=some (.pointer (some ⟨gm,0,none⟩))∧w'.cell? ⟨bc,0,none⟩=some (.pointer (some ⟨g,0,none⟩))) fun w18 hu19=>?_
 have r21:=ub hu19 hbm
 have r22:=ub hu19 hbc
 refine hld ⟨(blk_at r21 rfl),(blk_at r22 rfl)⟩ fun hS20=>Rl 0 hS20 (fun _ hs=>hs.1)<|Rl 1 hS20 (fun _ hs=>hs.2)<|?_
 have r23:=CurAt.old hC hu19
 refine R0 2 rfl<|Oc<|m3 (word_any r23) fun w24 hc25 hu26 hr27=>?_
 have r29:=ub1 hu26 n_bm_g r21
 have r30:=ub1 hu26 n_bc_g r22
 refine hld ⟨(blk_at r29 rfl),(blk_at r30 rfl)⟩ fun hS28=>Rt 3 hS28<|Rt 4 hS28<|?_
 have U31:=u1 (Upd.mono (S':=[g]) hu19 all0) hu26 im
 have r32:=ub1 U31 (Ne.symm hne) hm
 refine R0 5 rfl<|Ost r32 2 (mG c 0 C.wordV 0 0 0 0 0 0 0 0 0 nS nS nS nS 0 0 0 0 0 nS) fun w33 B34 hu35=>?_
 have r37:=ub1 hu35 n_bm_gm r29
 have r38:=ub1 hu35 n_bc_gm r30
 refine hld ⟨(blk_at r37 rfl),(blk_at r38 rfl)⟩ fun hS36=>re<|tn<|Rg 12 (fun w'=>w'.cell? ⟨bm,0,none⟩=some (.pointer (some ⟨gm,0,none⟩))∧w'.cell? ⟨bc,0,none⟩=some (.pointer (some ⟨g,0,none⟩))∧w'.cell? ⟨gm,2,none⟩=some (.int .u16 C.wordV)) fun w48 hu49=>?_
 have r51:=ub hu49 r37
 have r52:=ub hu49 r38
 have r53:=ub hu49 B34
 refine hld ⟨(blk_at r51 rfl),(blk_at r52 rfl),(blk_at r53 rfl)⟩ fun hS50=>Rl 0 hS50 (fun _ hs=>hs.1)<|Rl 1 hS50 (fun _ hs=>hs.2.1)<|Rl 2 hS50 (fun _ hs=>hs.1)<|Rt 3 hS50<|Rt 4 hS50<|Rl 5 hS50 (fun _ hs=>hs.2.2)<|Rt 6 hS50<|?_
 have U54:=ut0 hu35 hu49
 have r55:=CurAt.upd hc25 U54 (not_cons hne not0) (safe_cons (safe1 r32 (by decide)) safe0)
 refine R0 7 rfl<|Oc<|m3 (rspan_any (a:=C.wordV) (most:=most) r55 (by omega)) fun w56 hc57 hu58 hr59=>?_
 have r61:=ub1 hu58 n_bm_g r51
 have r62:=ub1 hu58 n_bc_g r52
 have r63:=ub1 hu58 (Ne.symm hne) r53
 refine hld ⟨(blk_at r61 rfl),(blk_at r62 rfl),(blk_at r63 rfl)⟩ fun hS60=>Rr 8 hS60 (.int .u16 ((C.wordsC 1).wordV)) (fun _ _=>run_eqo (.int .u16 (IntKind.u16.wrap ((C.wordsC 1).wordV))) (by kernel_rfl) (congrArg (Value.int .u16) (u16_in (by omega))))<|Rt 9 hS60<|Rt 10 hS60<|R0 11 rfl<|Ost r63 3 (mG c 0 C.wordV ((C.wordsC 1).wordV) 0 0 0 0 0 0 0 0 nS nS nS nS 0 0 0 0 0 nS) fun w64 B65 hu66=>?_
 have r68:=ub1 hu66 n_bm_gm r61
 have r69:=ub1 hu66 n_bc_gm r62
 refine hld ⟨(blk_at r68 rfl),(blk_at r69 rfl),(blk_at B65 rfl)⟩ fun hS67=>re<|rm (.tuple #[])<|?_
 have r70:=CurAt.upd hc57 hu66 (not_cons hne not0) (safe_cons (safe1 r63 (by decide)) safe0)
 have U71:=u1 (Upd.mono (S':=[g,gm]) U31 (ac im all0)) hu35 im
 have U72:=ut0 U71 hu49
 have U73:=u1 U72 hu58 im
 have U74:=u1 U73 hu66 im
 exact ⟨rfl,r70,B65,U74⟩
set_option maxRecDepth 100000 in
set_option maxHeartbeats 4000000 in
theorem rc2 {g gm:Nat} {c:Int} {C:Cur} {w:World} (hcode:B8 c) (hC:CurAt w g C) (hm:w.heap[gm]? = some (.cells (mC c) 31 (0,0))) (hne:g ≠ gm) {bc:Nat} {bm:Nat} {bw:Nat} (hbc:w.heap[bc]? = some (.cells #[.pointer (some ⟨g,0,none⟩)] 143 (0,0))) (n_bc_g:bc ≠ g) (n_bc_gm:bc ≠ gm) (hbm:w.heap[bm]? = some (.cells #[.pointer (some ⟨gm,0,none⟩)] 145 (0,0))) (n_bm_g:bm ≠ g) (n_bm_gm:bm ≠ gm) (hbw:w.heap[bw]? = some (.cells #[.func (.func 109) #[] #[.pointer (some ⟨bc,0,none⟩),.pointer (some ⟨bm,0,none⟩)]] 183 (0,0))) (n_bw_g:bw ≠ g) (n_bw_gm:bw ≠ gm) :
    Calls Tryz.prog 111 #[.pointer (some ⟨bw,0,none⟩)] w (PFormG g gm (rasksR 125 c C).1 (rasksR 125 c C).2 w):=by
 obtain ⟨hcode1,hcode2⟩:=hcode
 have hlen:=hC.len
 refine en 3 Tryz.func111 rfl<|go<|L0<|Olb hbw 0<|L0<|Ocv #[] #[.pointer (some ⟨bc,0,none⟩),.pointer (some ⟨bm,0,none⟩)] (args:=#[.int .i64 125,.pointer (some ⟨bc,0,none⟩),.pointer (some ⟨bm,0,none⟩)])<|m3 (where_any (most:=125) ⟨hcode1,hcode2⟩ hC hm hne hbc n_bc_g n_bc_gm hbm n_bm_g n_bm_gm) fun w10 hc11 B12 hu13=>?_
 have hr14:=(hC).wordV
 have hr15:=wordV_rng (wordsC_rng (hC).rng 1)
 refine nl<|rm (.tuple #[])<|?_
 have hs:rasksR 125 c C=((rspanC (C.wordsC 1) C.wordV 125),(Msg.mk c 0 C.wordV ((C.wordsC 1).wordV) 0 0 0 0 0 0 0 0 [] [] [] [] 0 0 0 0 0 [])):=by
   unfold rasksR
   (try simp only [bs,if_true,if_false,decide_true,decide_false,reduceIte])
   all_goals rfl
 rw [hs]
 exact ⟨rfl,hc11,⟨_,⟨B12,rfl⟩,⟨_,_,_,_,_,rfl,RdG.nil ..,RdG.nil ..,RdG.nil ..,RdG.nil ..,RdG.nil ..,⟨(b8 (x:=c) (by omega)),(b8 (x:=0) (by omega)),(b16 (x:=C.wordV) (by omega)),(b16 (x:=(C.wordsC 1).wordV) (by omega)),(b16 (x:=0) (by omega)),(b16 (x:=0) (by omega)),(b16 (x:=0) (by omega)),(b16 (x:=0) (by omega)),(b16 (x:=0) (by omega)),(b16 (x:=0) (by omega)),(b16 (x:=0) (by omega)),(b16 (x:=0) (by omega)),(b8 (x:=0) (by omega)),(b8 (x:=0) (by omega)),(b8 (x:=0) (by omega)),(b8 (x:=0) (by omega)),(b8 (x:=0) (by omega))⟩⟩⟩,hu13⟩
set_option maxRecDepth 100000 in
set_option maxHeartbeats 4000000 in
theorem rc3 {g gm:Nat} {c:Int} {C:Cur} {w:World} (hcode:B8 c) (hC:CurAt w g C) (hm:w.heap[gm]? = some (.cells (mC c) 31 (0,0))) (hne:g ≠ gm) {bc:Nat} {bm:Nat} (hbc:w.heap[bc]? = some (.cells #[.pointer (some ⟨g,0,none⟩)] 143 (0,0))) (n_bc_g:bc ≠ g) (n_bc_gm:bc ≠ gm) (hbm:w.heap[bm]? = some (.cells #[.pointer (some ⟨gm,0,none⟩)] 145 (0,0))) (n_bm_g:bm ≠ g) (n_bm_gm:bm ≠ gm) :
    Calls Tryz.prog 112 #[.pointer (some ⟨bc,0,none⟩),.pointer (some ⟨bm,0,none⟩)] w (PFormG g gm (rtoldR c C).1 (rtoldR c C).2 w):=by
 obtain ⟨hcode1,hcode2⟩:=hcode
 have hlen:=hC.len
 refine en 26 Tryz.func112 rfl<|sg<|L0<|Olb hbc 0<|L0<|Oc<|m3 (byte_any hC) fun w10 hc11 hu12 hr13=>L0<|Oi C.byteV<|Pl 1<|ng<|?_
 have r14:=ub1 hu12 n_bc_g hbc
 refine L0<|Olb r14 0<|Pl 1<|L0<|Oe (.int .i64 (Int.tmod C.byteV 2)) (.int .i64 (C.byteV % 2)) (congrArg (Value.int .i64) (Int.tmod_eq_emod_of_nonneg (by omega)))<|Pl 2<|cu 3 [10] 13 ((((C.byteV % 2) == 0) && (decide (2≤C.byteV)))) (fun K K16=>?_) ?_
 refine bl 10 (((C.byteV % 2) == 0)) (fun q15=>?_) (fun q15=>?_)
 have q15p:=eq_of_beqi q15
 exact Pl 3<|ce K16 (decide (2≤C.byteV)) (by rw [q15]; rfl)
 have q15p:=ne_of_beqi q15
 exact Pl 3<|ce K16 false (by rw [q15]; rfl)
 refine Pl 1<|cu 3 [14] 17 (((((C.byteV % 2) == 0) && (decide (2≤C.byteV))) && (decide (C.byteV≤250)))) (fun K K18=>?_) ?_
 refine bl 14 ((((C.byteV % 2) == 0) && (decide (2≤C.byteV)))) (fun q17=>?_) (fun q17=>?_)
 have q17a:=(and_t q17).1
 have q17b:=(and_t q17).2
 have q17ap:=eq_of_beqi q17a
 have q17bp:=of_decide_eq_true q17b
 exact Pl 3<|ce K18 (decide (C.byteV≤250)) (by rw [q17]; rfl)
 exact Pl 3<|ce K18 false (by rw [q17]; rfl)
 refine L0<|Oc<|m2 (need_any (((((C.byteV % 2) == 0) && (decide (2≤C.byteV))) && (decide (C.byteV≤250)))) 5 hc11) fun w19 hc20 hu21=>nt<|Rg 8 (fun w'=>w'.cell? ⟨bm,0,none⟩=some (.pointer (some ⟨gm,0,none⟩))∧w'.cell? ⟨bc,0,none⟩=some (.pointer (some ⟨g,0,none⟩))) fun w40 hu41=>?_
 have U43:=u1 hu12 hu21 im
 have U44:=ut0 U43 hu41
 have r45:=ub1 U44 n_bm_g hbm
 have U46:=ut0 hu21 hu41
 have r47:=ub1 U46 n_bc_g r14
 refine hld ⟨(blk_at r45 rfl),(blk_at r47 rfl)⟩ fun hS42=>Rl 0 hS42 (fun _ hs=>hs.1)<|Rl 1 hS42 (fun _ hs=>hs.2)<|Rt 2 hS42<|Rr 3 hS42 (.int .i64 (C.byteV / 2)) (fun _ _=>run_eqo (.int .i64 (IntKind.i64.wrap (Int.tdiv C.byteV 2))) (by kernel_rfl) (congrArg (Value.int .i64) (i64_quo (by omega) (by omega))))<|?_
 have r48:=CurAt.old hc20 hu41
 refine R0 4 rfl<|Oc<|so3 (words_any (n:=(C.byteV / 2)) r48) fun A56 cp57 w49 rd60 hl58 hm59 hc52 hu53=>?_
 have r62:=ub1 hu53 n_bm_g r45
 have r63:=ub1 hu53 n_bc_g r47
 refine hld ⟨(blk_at r62 rfl),(blk_at r63 rfl)⟩ fun hS61=>Rt 5 hS61<|Rt 6 hS61<|?_
 have U64:=u1 U44 hu53 im
 have r65:=ub1 U64 (Ne.symm hne) hm
 refine R0 7 rfl<|Ost r65 12 (mG c 0 0 0 0 0 0 0 0 0 0 0 (.slice A56 ((((C.bytesC 1).need ((((C.byteV % 2) == 0) && (decide (2≤C.byteV))) && (decide (C.byteV≤250))) 5).wordsR (C.byteV / 2)).length) cp57) nS nS nS 0 0 0 0 0 nS) fun w66 B67 hu68=>?_
 have r70:=ub1 hu68 n_bm_gm r62
 have r71:=ub1 hu68 n_bc_gm r63
 refine hld ⟨(blk_at r70 rfl),(blk_at r71 rfl)⟩ fun hS69=>re<|rm (.tuple #[])<|?_
 have r72:=own_stay rd60 hu68 (fun x hx=>(not_cons (fun e=>(not_old (blk_lt hm) U44.size rd60) (e ▸ hx)) not0)) (fun _ _ h=>h)
 have hs:rtoldR c C=((((C.bytesC 1).need ((((C.byteV % 2) == 0) && (decide (2≤C.byteV))) && (decide (C.byteV≤250))) 5).wordsC (C.byteV / 2)),(Msg.mk c 0 0 0 0 0 0 0 0 0 0 0 (((C.bytesC 1).need ((((C.byteV % 2) == 0) && (decide (2≤C.byteV))) && (decide (C.byteV≤250))) 5).wordsR (C.byteV / 2)) [] [] [] 0 0 0 0 0 [])):=by
   unfold rtoldR told3 evenIn
   (try simp only [bs,if_true,if_false,decide_true,decide_false,reduceIte])
   all_goals rfl
 rw [hs]
 have r73:=CurAt.upd hc52 hu68 (not_cons hne not0) (safe_cons (safe1 r65 (by decide)) safe0)
 have U74:=u1 (Upd.mono (S':=[g,gm]) U64 (ac im all0)) hu68 im
 exact ⟨rfl,r73,⟨_,⟨B67,rfl⟩,⟨_,_,_,_,_,rfl,(r72).rd,RdG.nil ..,RdG.nil ..,RdG.nil ..,RdG.nil ..,⟨(b8 (x:=c) (by omega)),(b8 (x:=0) (by omega)),(b16 (x:=0) (by omega)),(b16 (x:=0) (by omega)),(b16 (x:=0) (by omega)),(b16 (x:=0) (by omega)),(b16 (x:=0) (by omega)),(b16 (x:=0) (by omega)),(b16 (x:=0) (by omega)),(b16 (x:=0) (by omega)),(b16 (x:=0) (by omega)),(b16 (x:=0) (by omega)),(b8 (x:=0) (by omega)),(b8 (x:=0) (by omega)),(b8 (x:=0) (by omega)),(b8 (x:=0) (by omega)),(b8 (x:=0) (by omega))⟩⟩⟩,U74⟩
set_option maxRecDepth 100000 in
set_option maxHeartbeats 4000000 in
theorem rc4 {g gm:Nat} {c:Int} {C:Cur} {w:World} (hcode:B8 c) (hC:CurAt w g C) (hm:w.heap[gm]? = some (.cells (mC c) 31 (0,0))) (hne:g ≠ gm) {bc:Nat} {bm:Nat} (hbc:w.heap[bc]? = some (.cells #[.pointer (some ⟨g,0,none⟩)] 143 (0,0))) (n_bc_g:bc ≠ g) (n_bc_gm:bc ≠ gm) (hbm:w.heap[bm]? = some (.cells #[.pointer (some ⟨gm,0,none⟩)] 145 (0,0))) (n_bm_g:bm ≠ g) (n_bm_gm:bm ≠ gm) :
    Calls Tryz.prog 114 #[.pointer (some ⟨bc,0,none⟩),.pointer (some ⟨bm,0,none⟩)] w (PFormG g gm (roneR c C).1 (roneR c C).2 w):=by
 obtain ⟨hcode1,hcode2⟩:=hcode
 have hlen:=hC.len
 refine en 12 Tryz.func114 rfl<|Rg 12 (fun w'=>w'.cell? ⟨bm,0,none⟩=some (.pointer (some ⟨gm,0,none⟩))∧w'.cell? ⟨bc,0,none⟩=some (.pointer (some ⟨g,0,none⟩))) fun w26 hu27=>?_
 have r29:=ub hu27 hbm
 have r30:=ub hu27 hbc
 refine hld ⟨(blk_at r29 rfl),(blk_at r30 rfl)⟩ fun hS28=>Rl 0 hS28 (fun _ hs=>hs.1)<|Rl 1 hS28 (fun _ hs=>hs.1)<|Rl 2 hS28 (fun _ hs=>hs.2)<|Rl 4 hS28 (fun _ hs=>hs.2)<|?_
 have r31:=CurAt.old hC hu27
 refine R0 3 rfl<|Oc<|m3 (word_any r31) fun w32 hc33 hu34 hr35=>?_
 have r37:=ub1 hu34 n_bm_g r29
 have r38:=ub1 hu34 n_bc_g r30
 refine hld ⟨(blk_at r37 rfl),(blk_at r38 rfl)⟩ fun hS36=>R0 5 rfl<|Oc<|m3 (word_any hc33) fun w39 hc40 hu41 hr42=>?_
 have r44:=ub1 hu41 n_bm_g r37
 have r45:=ub1 hu41 n_bc_g r38
 refine hld ⟨(blk_at r44 rfl),(blk_at r45 rfl)⟩ fun hS43=>Rt 6 hS43<|Rt 7 hS43<|?_
 have U46:=u1 (Upd.mono (S':=[g]) hu27 all0) hu34 im
 have U47:=u1 U46 hu41 im
 have r48:=ub1 U47 (Ne.symm hne) hm
 refine R0 8 rfl<|Ost r48 2 (mG c 0 C.wordV 0 0 0 0 0 0 0 0 0 nS nS nS nS 0 0 0 0 0 nS) fun w49 B50 hu51=>?_
 have r53:=ub1 hu51 n_bm_gm r44
 have r54:=ub1 hu51 n_bc_gm r45
 refine hld ⟨(blk_at r53 rfl),(blk_at r54 rfl)⟩ fun hS52=>Rt 9 hS52<|Rt 10 hS52<|R0 11 rfl<|Ost B50 4 (mG c 0 C.wordV 0 ((C.wordsC 1).wordV) 0 0 0 0 0 0 0 nS nS nS nS 0 0 0 0 0 nS) fun w55 B56 hu57=>?_
 have r59:=ub1 hu57 n_bm_gm r53
 have r60:=ub1 hu57 n_bc_gm r54
 refine hld ⟨(blk_at r59 rfl),(blk_at r60 rfl)⟩ fun hS58=>re<|rm (.tuple #[])<|?_
 have hs:roneR c C=(((C.wordsC 1).wordsC 1),(Msg.mk c 0 C.wordV 0 ((C.wordsC 1).wordV) 0 0 0 0 0 0 0 [] [] [] [] 0 0 0 0 0 [])):=by
   unfold roneR
   (try simp only [bs,if_true,if_false,decide_true,decide_false,reduceIte])
   all_goals rfl
 rw [hs]
 have U61:=u1 hu51 hu57 im
 have r62:=CurAt.upd hc40 U61 (not_cons hne not0) (safe_cons (safe1 r48 (by decide)) safe0)
 have U63:=u1 (Upd.mono (S':=[g,gm]) U47 (ac im all0)) hu51 im
 have U64:=u1 U63 hu57 im
 exact ⟨rfl,r62,⟨_,⟨B56,rfl⟩,⟨_,_,_,_,_,rfl,RdG.nil ..,RdG.nil ..,RdG.nil ..,RdG.nil ..,RdG.nil ..,⟨(b8 (x:=c) (by omega)),(b8 (x:=0) (by omega)),(b16 (x:=C.wordV) (by omega)),(b16 (x:=0) (by omega)),(b16 (x:=(C.wordsC 1).wordV) (by omega)),(b16 (x:=0) (by omega)),(b16 (x:=0) (by omega)),(b16 (x:=0) (by omega)),(b16 (x:=0) (by omega)),(b16 (x:=0) (by omega)),(b16 (x:=0) (by omega)),(b16 (x:=0) (by omega)),(b8 (x:=0) (by omega)),(b8 (x:=0) (by omega)),(b8 (x:=0) (by omega)),(b8 (x:=0) (by omega)),(b8 (x:=0) (by omega))⟩⟩⟩,U64⟩
set_option maxRecDepth 100000 in
set_option maxHeartbeats 4000000 in
theorem rc5t {ask:Bool} {g gm:Nat} {c:Int} {C:Cur} {w:World} (hcode:B8 c) (hC:CurAt w g C) (hm:w.heap[gm]? = some (.cells (mC c) 31 (0,0))) (hne:g ≠ gm) {bc:Nat} {bm:Nat} {bw:Nat} {ba:Nat} (hbc:w.heap[bc]? = some (.cells #[.pointer (some ⟨g,0,none⟩)] 143 (0,0))) (n_bc_g:bc ≠ g) (n_bc_gm:bc ≠ gm) (hbm:w.heap[bm]? = some (.cells #[.pointer (some ⟨gm,0,none⟩)] 145 (0,0))) (n_bm_g:bm ≠ g) (n_bm_gm:bm ≠ gm) (hbw:w.heap[bw]? = some (.cells #[.func (.func 109) #[] #[.pointer (some ⟨bc,0,none⟩),.pointer (some ⟨bm,0,none⟩)]] 183 (0,0))) (n_bw_g:bw ≠ g) (n_bw_gm:bw ≠ gm) (hba:w.heap[ba]? = some (.cells #[.bool ask] 4 (0,0))) (n_ba_g:ba ≠ g) (n_ba_gm:ba ≠ gm) (hask:ask=true) :
    Calls Tryz.prog 115 #[.pointer (some ⟨bw,0,none⟩),.pointer (some ⟨ba,0,none⟩),.pointer (some ⟨bc,0,none⟩),.pointer (some ⟨bm,0,none⟩)] w (PFormG g gm (rmanyR c C).1 (rmanyR c C).2 w):=by
 obtain ⟨hcode1,hcode2⟩:=hcode
 have hlen:=hC.len
 refine en 17 Tryz.func115 rfl<|sg<|L0<|Olb hbw 0<|L0<|Ocv #[] #[.pointer (some ⟨bc,0,none⟩),.pointer (some ⟨bm,0,none⟩)] (args:=#[.int .i64 123,.pointer (some ⟨bc,0,none⟩),.pointer (some ⟨bm,0,none⟩)])<|m3 (where_any (most:=123) ⟨hcode1,hcode2⟩ hC hm hne hbc n_bc_g n_bc_gm hbm n_bm_g n_bm_gm) fun w10 hc11 B12 hu13=>?_
 have hr14:=(hC).wordV
 have hr15:=wordV_rng (wordsC_rng (hC).rng 1)
 refine ng<|?_
 have r16:=Upd.blk hu13 (not_cons n_ba_g (not_cons n_ba_gm not0)) hba
 refine L0<|Olb r16 0<|nt<|ct hask<|Rg 11 (fun w'=>w'.cell? ⟨bm,0,none⟩=some (.pointer (some ⟨gm,0,none⟩))∧w'.cell? ⟨bc,0,none⟩=some (.pointer (some ⟨g,0,none⟩))∧w'.cell? ⟨gm,3,none⟩=some (.int .u16 ((C.wordsC 1).wordV))) fun w31 hu32=>?_
 have U34:=ut0 hu13 hu32
 have r35:=Upd.blk U34 (not_cons n_bm_g (not_cons n_bm_gm not0)) hbm
 have r36:=Upd.blk U34 (not_cons n_bc_g (not_cons n_bc_gm not0)) hbc
 have r37:=ub hu32 B12
 refine hld ⟨(blk_at r35 rfl),(blk_at r36 rfl),(blk_at r37 rfl)⟩ fun hS33=>Rl 0 hS33 (fun _ hs=>hs.1)<|Rl 1 hS33 (fun _ hs=>hs.2.1)<|Rl 2 hS33 (fun _ hs=>hs.1)<|Rt 3 hS33<|Rt 4 hS33<|Rl 5 hS33 (fun _ hs=>hs.2.2)<|Rr 6 hS33 (.int .i64 ((C.wordsC 1).wordV)) (fun _ _=>run_eqo (.int .i64 (IntKind.i64.wrap ((C.wordsC 1).wordV))) (by kernel_rfl) (congrArg (Value.int .i64) (i64_in (by omega))))<|?_
 have r38:=CurAt.old hc11 hu32
 refine R0 7 rfl<|Oc<|so3 (counted_any (n:=(C.wordsC 1).wordV) r38 (by omega)) fun A44 cp45 w39 rd48 hl46 hm47 hc42 hu43=>?_
 have r50:=ub1 hu43 n_bm_g r35
 have r51:=ub1 hu43 n_bc_g r36
 have r52:=ub1 hu43 (Ne.symm hne) r37
 refine hld ⟨(blk_at r50 rfl),(blk_at r51 rfl),(blk_at r52 rfl)⟩ fun hS49=>Rt 8 hS49<|Rt 9 hS49<|R0 10 rfl<|Ost r52 12 (mG c 0 C.wordV ((C.wordsC 1).wordV) 0 0 0 0 0 0 0 0 (.slice A44 (((countedC1 (rspanC (C.wordsC 1) C.wordV 123) ((C.wordsC 1).wordV)).wordsR ((C.wordsC 1).wordV)).length) cp45) nS nS nS 0 0 0 0 0 nS) fun w53 B54 hu55=>?_
 have r57:=ub1 hu55 n_bm_gm r50
 have r58:=ub1 hu55 n_bc_gm r51
 refine hld ⟨(blk_at r57 rfl),(blk_at r58 rfl),(blk_at B54 rfl)⟩ fun hS56=>re<|rm (.tuple #[])<|?_
 have r59:=own_stay rd48 hu55 (fun x hx=>(not_cons (fun e=>(not_old (blk_lt hm) U34.size rd48) (e ▸ hx)) not0)) (fun _ _ h=>h)
 have hs:rmanyR c C=(((countedC1 (rspanC (C.wordsC 1) C.wordV 123) ((C.wordsC 1).wordV)).wordsC ((C.wordsC 1).wordV)),(Msg.mk c 0 C.wordV ((C.wordsC 1).wordV) 0 0 0 0 0 0 0 0 ((countedC1 (rspanC (C.wordsC 1) C.wordV 123) ((C.wordsC 1).wordV)).wordsR ((C.wordsC 1).wordV)) [] [] [] 0 0 0 0 0 [])):=by
   unfold rmanyR rmanyC
   (try simp only [hask,bs,if_true,if_false,decide_true,decide_false,reduceIte])
   all_goals rfl
 rw [hs]
 have r60:=CurAt.upd hc42 hu55 (not_cons hne not0) (safe_cons (safe1 r52 (by decide)) safe0)
 have U61:=u1 U34 hu43 im
 have U62:=u1 U61 hu55 im
 exact ⟨rfl,r60,⟨_,⟨B54,rfl⟩,⟨_,_,_,_,_,rfl,(r59).rd,RdG.nil ..,RdG.nil ..,RdG.nil ..,RdG.nil ..,⟨(b8 (x:=c) (by omega)),(b8 (x:=0) (by omega)),(b16 (x:=C.wordV) (by omega)),(b16 (x:=(C.wordsC 1).wordV) (by omega)),(b16 (x:=0) (by omega)),(b16 (x:=0) (by omega)),(b16 (x:=0) (by omega)),(b16 (x:=0) (by omega)),(b16 (x:=0) (by omega)),(b16 (x:=0) (by omega)),(b16 (x:=0) (by omega)),(b16 (x:=0) (by omega)),(b8 (x:=0) (by omega)),(b8 (x:=0) (by omega)),(b8 (x:=0) (by omega)),(b8 (x:=0) (by omega)),(b8 (x:=0) (by omega))⟩⟩⟩,U62⟩
set_option maxRecDepth 100000 in
set_option maxHeartbeats 4000000 in
theorem rc5f {ask:Bool} {g gm:Nat} {c:Int} {C:Cur} {w:World} (hcode:B8 c) (hC:CurAt w g C) (hm:w.heap[gm]? = some (.cells (mC c) 31 (0,0))) (hne:g ≠ gm) {bc:Nat} {bm:Nat} {bw:Nat} {ba:Nat} (hbc:w.heap[bc]? = some (.cells #[.pointer (some ⟨g,0,none⟩)] 143 (0,0))) (n_bc_g:bc ≠ g) (n_bc_gm:bc ≠ gm) (hbm:w.heap[bm]? = some (.cells #[.pointer (some ⟨gm,0,none⟩)] 145 (0,0))) (n_bm_g:bm ≠ g) (n_bm_gm:bm ≠ gm) (hbw:w.heap[bw]? = some (.cells #[.func (.func 109) #[] #[.pointer (some ⟨bc,0,none⟩),.pointer (some ⟨bm,0,none⟩)]] 183 (0,0))) (n_bw_g:bw ≠ g) (n_bw_gm:bw ≠ gm) (hba:w.heap[ba]? = some (.cells #[.bool ask] 4 (0,0))) (n_ba_g:ba ≠ g) (n_ba_gm:ba ≠ gm) (hask:ask=false) :
    Calls Tryz.prog 115 #[.pointer (some ⟨bw,0,none⟩),.pointer (some ⟨ba,0,none⟩),.pointer (some ⟨bc,0,none⟩),.pointer (some ⟨bm,0,none⟩)] w (PFormG g gm (rasksR 123 c C).1 (rasksR 123 c C).2 w):=by
 obtain ⟨hcode1,hcode2⟩:=hcode
 have hlen:=hC.len
 refine en 17 Tryz.func115 rfl<|sg<|L0<|Olb hbw 0<|L0<|Ocv #[] #[.pointer (some ⟨bc,0,none⟩),.pointer (some ⟨bm,0,none⟩)] (args:=#[.int .i64 123,.pointer (some ⟨bc,0,none⟩),.pointer (some ⟨bm,0,none⟩)])<|m3 (where_any (most:=123) ⟨hcode1,hcode2⟩ hC hm hne hbc n_bc_g n_bc_gm hbm n_bm_g n_bm_gm) fun w10 hc11 B12 hu13=>?_
 have hr14:=(hC).wordV
 have hr15:=wordV_rng (wordsC_rng (hC).rng 1)
 refine ng<|?_
 have r16:=Upd.blk hu13 (not_cons n_ba_g (not_cons n_ba_gm not0)) hba
 refine L0<|Olb r16 0<|nt<|cf hask<|sk<|rm (.tuple #[])<|?_
 have hs:rasksR 123 c C=((rspanC (C.wordsC 1) C.wordV 123),(Msg.mk c 0 C.wordV ((C.wordsC 1).wordV) 0 0 0 0 0 0 0 0 [] [] [] [] 0 0 0 0 0 [])):=by
   unfold rasksR
   (try simp only [hask,bs,if_true,if_false,decide_true,decide_false,reduceIte])
   all_goals rfl
 rw [hs]
 exact ⟨rfl,hc11,⟨_,⟨B12,rfl⟩,⟨_,_,_,_,_,rfl,RdG.nil ..,RdG.nil ..,RdG.nil ..,RdG.nil ..,RdG.nil ..,⟨(b8 (x:=c) (by omega)),(b8 (x:=0) (by omega)),(b16 (x:=C.wordV) (by omega)),(b16 (x:=(C.wordsC 1).wordV) (by omega)),(b16 (x:=0) (by omega)),(b16 (x:=0) (by omega)),(b16 (x:=0) (by omega)),(b16 (x:=0) (by omega)),(b16 (x:=0) (by omega)),(b16 (x:=0) (by omega)),(b16 (x:=0) (by omega)),(b16 (x:=0) (by omega)),(b8 (x:=0) (by omega)),(b8 (x:=0) (by omega)),(b8 (x:=0) (by omega)),(b8 (x:=0) (by omega)),(b8 (x:=0) (by omega))⟩⟩⟩,hu13⟩
set_option maxRecDepth 100000 in
set_option maxHeartbeats 4000000 in
theorem rc6 {g gm:Nat} {c:Int} {C:Cur} {w:World} (hcode:B8 c) (hC:CurAt w g C) (hm:w.heap[gm]? = some (.cells (mC c) 31 (0,0))) (hne:g ≠ gm) {bc:Nat} {bm:Nat} (hbc:w.heap[bc]? = some (.cells #[.pointer (some ⟨g,0,none⟩)] 143 (0,0))) (n_bc_g:bc ≠ g) (n_bc_gm:bc ≠ gm) (hbm:w.heap[bm]? = some (.cells #[.pointer (some ⟨gm,0,none⟩)] 145 (0,0))) (n_bm_g:bm ≠ g) (n_bm_gm:bm ≠ gm) :
    Calls Tryz.prog 117 #[.pointer (some ⟨bc,0,none⟩),.pointer (some ⟨bm,0,none⟩)] w (PFormG g gm (rmaskR c C).1 (rmaskR c C).2 w):=by
 obtain ⟨hcode1,hcode2⟩:=hcode
 have hlen:=hC.len
 refine en 17 Tryz.func117 rfl<|Rg 18 (fun w'=>w'.cell? ⟨bm,0,none⟩=some (.pointer (some ⟨gm,0,none⟩))∧w'.cell? ⟨bc,0,none⟩=some (.pointer (some ⟨g,0,none⟩))) fun w34 hu35=>?_
 have r37:=ub hu35 hbm
 have r38:=ub hu35 hbc
 refine hld ⟨(blk_at r37 rfl),(blk_at r38 rfl)⟩ fun hS36=>Rl 0 hS36 (fun _ hs=>hs.1)<|Rl 1 hS36 (fun _ hs=>hs.1)<|Rl 2 hS36 (fun _ hs=>hs.1)<|Rl 3 hS36 (fun _ hs=>hs.2)<|Rl 5 hS36 (fun _ hs=>hs.2)<|Rl 7 hS36 (fun _ hs=>hs.2)<|?_
 have r39:=CurAt.old hC hu35
 refine R0 4 rfl<|Oc<|m3 (word_any r39) fun w40 hc41 hu42 hr43=>?_
 have r45:=ub1 hu42 n_bm_g r37
 have r46:=ub1 hu42 n_bc_g r38
 refine hld ⟨(blk_at r45 rfl),(blk_at r46 rfl)⟩ fun hS44=>R0 6 rfl<|Oc<|m3 (word_any hc41) fun w47 hc48 hu49 hr50=>?_
 have r52:=ub1 hu49 n_bm_g r45
 have r53:=ub1 hu49 n_bc_g r46
 refine hld ⟨(blk_at r52 rfl),(blk_at r53 rfl)⟩ fun hS51=>R0 8 rfl<|Oc<|m3 (word_any hc48) fun w54 hc55 hu56 hr57=>?_
 have r59:=ub1 hu56 n_bm_g r52
 have r60:=ub1 hu56 n_bc_g r53
 refine hld ⟨(blk_at r59 rfl),(blk_at r60 rfl)⟩ fun hS58=>Rt 9 hS58<|Rt 10 hS58<|?_
 have U61:=u1 (Upd.mono (S':=[g]) hu35 all0) hu42 im
 have U62:=u1 U61 hu49 im
 have U63:=u1 U62 hu56 im
 have r64:=ub1 U63 (Ne.symm hne) hm
 refine R0 11 rfl<|Ost r64 2 (mG c 0 C.wordV 0 0 0 0 0 0 0 0 0 nS nS nS nS 0 0 0 0 0 nS) fun w65 B66 hu67=>?_
 have r69:=ub1 hu67 n_bm_gm r59
 have r70:=ub1 hu67 n_bc_gm r60
 refine hld ⟨(blk_at r69 rfl),(blk_at r70 rfl)⟩ fun hS68=>Rt 12 hS68<|Rt 13 hS68<|R0 14 rfl<|Ost B66 5 (mG c 0 C.wordV 0 0 ((C.wordsC 1).wordV) 0 0 0 0 0 0 nS nS nS nS 0 0 0 0 0 nS) fun w71 B72 hu73=>?_
 have r75:=ub1 hu73 n_bm_gm r69
 have r76:=ub1 hu73 n_bc_gm r70
 refine hld ⟨(blk_at r75 rfl),(blk_at r76 rfl)⟩ fun hS74=>Rt 15 hS74<|Rt 16 hS74<|R0 17 rfl<|Ost B72 6 (mG c 0 C.wordV 0 0 ((C.wordsC 1).wordV) (((C.wordsC 1).wordsC 1).wordV) 0 0 0 0 0 nS nS nS nS 0 0 0 0 0 nS) fun w77 B78 hu79=>?_
 have r81:=ub1 hu79 n_bm_gm r75
 have r82:=ub1 hu79 n_bc_gm r76
 refine hld ⟨(blk_at r81 rfl),(blk_at r82 rfl)⟩ fun hS80=>re<|rm (.tuple #[])<|?_
 have hs:rmaskR c C=((((C.wordsC 1).wordsC 1).wordsC 1),(Msg.mk c 0 C.wordV 0 0 ((C.wordsC 1).wordV) (((C.wordsC 1).wordsC 1).wordV) 0 0 0 0 0 [] [] [] [] 0 0 0 0 0 [])):=by
   unfold rmaskR
   (try simp only [bs,if_true,if_false,decide_true,decide_false,reduceIte])
   all_goals rfl
 rw [hs]
 have U83:=u1 hu67 hu73 im
 have U84:=u1 U83 hu79 im
 have r85:=CurAt.upd hc55 U84 (not_cons hne not0) (safe_cons (safe1 r64 (by decide)) safe0)
 have U86:=u1 (Upd.mono (S':=[g,gm]) U63 (ac im all0)) hu67 im
 have U87:=u1 U86 hu73 im
 have U88:=u1 U87 hu79 im
 exact ⟨rfl,r85,⟨_,⟨B78,rfl⟩,⟨_,_,_,_,_,rfl,RdG.nil ..,RdG.nil ..,RdG.nil ..,RdG.nil ..,RdG.nil ..,⟨(b8 (x:=c) (by omega)),(b8 (x:=0) (by omega)),(b16 (x:=C.wordV) (by omega)),(b16 (x:=0) (by omega)),(b16 (x:=0) (by omega)),(b16 (x:=(C.wordsC 1).wordV) (by omega)),(b16 (x:=((C.wordsC 1).wordsC 1).wordV) (by omega)),(b16 (x:=0) (by omega)),(b16 (x:=0) (by omega)),(b16 (x:=0) (by omega)),(b16 (x:=0) (by omega)),(b16 (x:=0) (by omega)),(b8 (x:=0) (by omega)),(b8 (x:=0) (by omega)),(b8 (x:=0) (by omega)),(b8 (x:=0) (by omega)),(b8 (x:=0) (by omega))⟩⟩⟩,U88⟩
set_option maxRecDepth 100000 in
set_option maxHeartbeats 4000000 in
theorem rc7 {g gm:Nat} {c:Int} {C:Cur} {w:World} (hcode:B8 c) (hC:CurAt w g C) (hm:w.heap[gm]? = some (.cells (mC c) 31 (0,0))) (hne:g ≠ gm) {bc:Nat} {bm:Nat} {bw:Nat} (hbc:w.heap[bc]? = some (.cells #[.pointer (some ⟨g,0,none⟩)] 143 (0,0))) (n_bc_g:bc ≠ g) (n_bc_gm:bc ≠ gm) (hbm:w.heap[bm]? = some (.cells #[.pointer (some ⟨gm,0,none⟩)] 145 (0,0))) (n_bm_g:bm ≠ g) (n_bm_gm:bm ≠ gm) (hbw:w.heap[bw]? = some (.cells #[.func (.func 109) #[] #[.pointer (some ⟨bc,0,none⟩),.pointer (some ⟨bm,0,none⟩)]] 183 (0,0))) (n_bw_g:bw ≠ g) (n_bw_gm:bw ≠ gm) :
    Calls Tryz.prog 118 #[.pointer (some ⟨bw,0,none⟩),.pointer (some ⟨bc,0,none⟩),.pointer (some ⟨bm,0,none⟩)] w (PFormG g gm (rbothR c C).1 (rbothR c C).2 w):=by
 obtain ⟨hcode1,hcode2⟩:=hcode
 have hlen:=hC.len
 refine en 21 Tryz.func118 rfl<|sg<|L0<|Olb hbw 0<|L0<|Ocv #[] #[.pointer (some ⟨bc,0,none⟩),.pointer (some ⟨bm,0,none⟩)] (args:=#[.int .i64 125,.pointer (some ⟨bc,0,none⟩),.pointer (some ⟨bm,0,none⟩)])<|m3 (where_any (most:=125) ⟨hcode1,hcode2⟩ hC hm hne hbc n_bc_g n_bc_gm hbm n_bm_g n_bm_gm) fun w10 hc11 B12 hu13=>?_
 have hr14:=(hC).wordV
 have hr15:=wordV_rng (wordsC_rng (hC).rng 1)
 refine nt<|sq<|Rg 6 (fun w'=>w'.cell? ⟨bm,0,none⟩=some (.pointer (some ⟨gm,0,none⟩))∧w'.cell? ⟨bc,0,none⟩=some (.pointer (some ⟨g,0,none⟩))) fun w24 hu25=>?_
 have U27:=ut0 hu13 hu25
 have r28:=Upd.blk U27 (not_cons n_bm_g (not_cons n_bm_gm not0)) hbm
 have r29:=Upd.blk U27 (not_cons n_bc_g (not_cons n_bc_gm not0)) hbc
 refine hld ⟨(blk_at r28 rfl),(blk_at r29 rfl)⟩ fun hS26=>Rl 0 hS26 (fun _ hs=>hs.1)<|Rl 1 hS26 (fun _ hs=>hs.2)<|?_
 have r30:=CurAt.old hc11 hu25
 refine R0 2 rfl<|Oc<|m3 (word_any r30) fun w31 hc32 hu33 hr34=>?_
 have r36:=ub1 hu33 n_bm_g r28
 have r37:=ub1 hu33 n_bc_g r29
 refine hld ⟨(blk_at r36 rfl),(blk_at r37 rfl)⟩ fun hS35=>Rt 3 hS35<|Rt 4 hS35<|?_
 have U38:=u1 (Upd.mono (S':=[g]) hu25 all0) hu33 im
 have r39:=ub1 U38 (Ne.symm hne) B12
 refine R0 5 rfl<|Ost r39 7 (mG c 0 C.wordV ((C.wordsC 1).wordV) 0 0 0 ((rspanC (C.wordsC 1) C.wordV 125).wordV) 0 0 0 0 nS nS nS nS 0 0 0 0 0 nS) fun w40 B41 hu42=>?_
 have r44:=ub1 hu42 n_bm_gm r36
 have r45:=ub1 hu42 n_bc_gm r37
 refine hld ⟨(blk_at r44 rfl),(blk_at r45 rfl)⟩ fun hS43=>re<|tn<|Rg 12 (fun w'=>w'.cell? ⟨bm,0,none⟩=some (.pointer (some ⟨gm,0,none⟩))∧w'.cell? ⟨bc,0,none⟩=some (.pointer (some ⟨g,0,none⟩))∧w'.cell? ⟨gm,7,none⟩=some (.int .u16 ((rspanC (C.wordsC 1) C.wordV 125).wordV))) fun w66 hu67=>?_
 have r69:=ub hu67 r44
 have r70:=ub hu67 r45
 have r71:=ub hu67 B41
 refine hld ⟨(blk_at r69 rfl),(blk_at r70 rfl),(blk_at r71 rfl)⟩ fun hS68=>Rl 0 hS68 (fun _ hs=>hs.1)<|Rl 1 hS68 (fun _ hs=>hs.2.1)<|Rl 2 hS68 (fun _ hs=>hs.2.1)<|Rl 3 hS68 (fun _ hs=>hs.1)<|Rt 4 hS68<|Rt 5 hS68<|Rl 6 hS68 (fun _ hs=>hs.2.2)<|?_
 have U72:=ut0 hu42 hu67
 have r73:=CurAt.upd hc32 U72 (not_cons hne not0) (safe_cons (safe1 r39 (by decide)) safe0)
 refine R0 7 rfl<|Oc<|m3 (rspan_any (a:=(rspanC (C.wordsC 1) C.wordV 125).wordV) (most:=121) r73 (by omega)) fun w74 hc75 hu76 hr77=>?_
 have r79:=ub1 hu76 n_bm_g r69
 have r80:=ub1 hu76 n_bc_g r70
 have r81:=ub1 hu76 (Ne.symm hne) r71
 refine hld ⟨(blk_at r79 rfl),(blk_at r80 rfl),(blk_at r81 rfl)⟩ fun hS78=>R0 8 rfl<|Oc<|so3 (counted_any (n:=((rspanC (C.wordsC 1) C.wordV 125).wordsC 1).wordV) hc75 (by omega)) fun A87 cp88 w82 rd91 hl89 hm90 hc85 hu86=>?_
 have r93:=ub1 hu86 n_bm_g r79
 have r94:=ub1 hu86 n_bc_g r80
 have r95:=ub1 hu86 (Ne.symm hne) r81
 refine hld ⟨(blk_at r93 rfl),(blk_at r94 rfl),(blk_at r95 rfl)⟩ fun hS92=>Rt 9 hS92<|Rt 10 hS92<|R0 11 rfl<|Ost r95 12 (mG c 0 C.wordV ((C.wordsC 1).wordV) 0 0 0 ((rspanC (C.wordsC 1) C.wordV 125).wordV) 0 0 0 0 (.slice A87 (((countedC1 (rspanC ((rspanC (C.wordsC 1) C.wordV 125).wordsC 1) ((rspanC (C.wordsC 1) C.wordV 125).wordV) 121) (((rspanC (C.wordsC 1) C.wordV 125).wordsC 1).wordV)).wordsR (((rspanC (C.wordsC 1) C.wordV 125).wordsC 1).wordV)).length) cp88) nS nS nS 0 0 0 0 0 nS) fun w96 B97 hu98=>?_
 have r100:=ub1 hu98 n_bm_gm r93
 have r101:=ub1 hu98 n_bc_gm r94
 refine hld ⟨(blk_at r100 rfl),(blk_at r101 rfl),(blk_at B97 rfl)⟩ fun hS99=>re<|rm (.tuple #[])<|?_
 have r102:=own_stay rd91 hu98 (fun x hx=>(not_cons (fun e=>(not_old (blk_lt hm) (le (le (le (le (le hu13.size hu25.size) hu33.size) hu42.size) hu67.size) hu76.size) rd91) (e ▸ hx)) not0)) (fun _ _ h=>h)
 have hs:rbothR c C=(((countedC1 (rspanC ((rspanC (C.wordsC 1) C.wordV 125).wordsC 1) ((rspanC (C.wordsC 1) C.wordV 125).wordV) 121) (((rspanC (C.wordsC 1) C.wordV 125).wordsC 1).wordV)).wordsC (((rspanC (C.wordsC 1) C.wordV 125).wordsC 1).wordV)),(Msg.mk c 0 C.wordV ((C.wordsC 1).wordV) 0 0 0 ((rspanC (C.wordsC 1) C.wordV 125).wordV) 0 0 0 0 ((countedC1 (rspanC ((rspanC (C.wordsC 1) C.wordV 125).wordsC 1) ((rspanC (C.wordsC 1) C.wordV 125).wordV) 121) (((rspanC (C.wordsC 1) C.wordV 125).wordsC 1).wordV)).wordsR (((rspanC (C.wordsC 1) C.wordV 125).wordsC 1).wordV)) [] [] [] 0 0 0 0 0 [])):=by
   unfold rbothR rbothC both2 both1
   (try simp only [bs,if_true,if_false,decide_true,decide_false,reduceIte])
   all_goals rfl
 rw [hs]
 have r103:=CurAt.upd hc85 hu98 (not_cons hne not0) (safe_cons (safe1 r95 (by decide)) safe0)
 have U104:=u1 U27 hu33 im
 have U105:=u1 U104 hu42 im
 have U106:=ut0 U105 hu67
 have U107:=u1 U106 hu76 im
 have U108:=u1 U107 hu86 im
 have U109:=u1 U108 hu98 im
 exact ⟨rfl,r103,⟨_,⟨B97,rfl⟩,⟨_,_,_,_,_,rfl,(r102).rd,RdG.nil ..,RdG.nil ..,RdG.nil ..,RdG.nil ..,⟨(b8 (x:=c) (by omega)),(b8 (x:=0) (by omega)),(b16 (x:=C.wordV) (by omega)),(b16 (x:=(C.wordsC 1).wordV) (by omega)),(b16 (x:=0) (by omega)),(b16 (x:=0) (by omega)),(b16 (x:=0) (by omega)),(b16 (x:=(rspanC (C.wordsC 1) C.wordV 125).wordV) (by omega)),(b16 (x:=0) (by omega)),(b16 (x:=0) (by omega)),(b16 (x:=0) (by omega)),(b16 (x:=0) (by omega)),(b8 (x:=0) (by omega)),(b8 (x:=0) (by omega)),(b8 (x:=0) (by omega)),(b8 (x:=0) (by omega)),(b8 (x:=0) (by omega))⟩⟩⟩,U109⟩
set_option maxRecDepth 100000 in
set_option maxHeartbeats 4000000 in
theorem rc8 {g gm:Nat} {c:Int} {C:Cur} {w:World} (hcode:B8 c) (hC:CurAt w g C) (hm:w.heap[gm]? = some (.cells (mC c) 31 (0,0))) (hne:g ≠ gm) {bc:Nat} {bm:Nat} (hbc:w.heap[bc]? = some (.cells #[.pointer (some ⟨g,0,none⟩)] 143 (0,0))) (n_bc_g:bc ≠ g) (n_bc_gm:bc ≠ gm) (hbm:w.heap[bm]? = some (.cells #[.pointer (some ⟨gm,0,none⟩)] 145 (0,0))) (n_bm_g:bm ≠ g) (n_bm_gm:bm ≠ gm) :
    Calls Tryz.prog 119 #[.pointer (some ⟨bc,0,none⟩),.pointer (some ⟨bm,0,none⟩)] w (PFormG g gm (raskqR c C).1 (raskqR c C).2 w):=by
 obtain ⟨hcode1,hcode2⟩:=hcode
 have hlen:=hC.len
 refine en 7 Tryz.func119 rfl<|Rg 6 (fun w'=>w'.cell? ⟨bm,0,none⟩=some (.pointer (some ⟨gm,0,none⟩))∧w'.cell? ⟨bc,0,none⟩=some (.pointer (some ⟨g,0,none⟩))) fun w18 hu19=>?_
 have r21:=ub hu19 hbm
 have r22:=ub hu19 hbc
 refine hld ⟨(blk_at r21 rfl),(blk_at r22 rfl)⟩ fun hS20=>Rl 0 hS20 (fun _ hs=>hs.1)<|Rl 1 hS20 (fun _ hs=>hs.2)<|?_
 have r23:=CurAt.old hC hu19
 refine R0 2 rfl<|Oc<|m3 (word_any r23) fun w24 hc25 hu26 hr27=>?_
 have r29:=ub1 hu26 n_bm_g r21
 have r30:=ub1 hu26 n_bc_g r22
 refine hld ⟨(blk_at r29 rfl),(blk_at r30 rfl)⟩ fun hS28=>Rt 3 hS28<|Rt 4 hS28<|?_
 have U31:=u1 (Upd.mono (S':=[g]) hu19 all0) hu26 im
 have r32:=ub1 U31 (Ne.symm hne) hm
 refine R0 5 rfl<|Ost r32 2 (mG c 0 C.wordV 0 0 0 0 0 0 0 0 0 nS nS nS nS 0 0 0 0 0 nS) fun w33 B34 hu35=>?_
 have r37:=ub1 hu35 n_bm_gm r29
 have r38:=ub1 hu35 n_bc_gm r30
 refine hld ⟨(blk_at r37 rfl),(blk_at r38 rfl)⟩ fun hS36=>re<|rm (.tuple #[])<|?_
 have hs:raskqR c C=((C.wordsC 1),(Msg.mk c 0 C.wordV 0 0 0 0 0 0 0 0 0 [] [] [] [] 0 0 0 0 0 [])):=by
   unfold raskqR
   (try simp only [bs,if_true,if_false,decide_true,decide_false,reduceIte])
   all_goals rfl
 rw [hs]
 have r39:=CurAt.upd hc25 hu35 (not_cons hne not0) (safe_cons (safe1 r32 (by decide)) safe0)
 have U40:=u1 (Upd.mono (S':=[g,gm]) U31 (ac im all0)) hu35 im
 exact ⟨rfl,r39,⟨_,⟨B34,rfl⟩,⟨_,_,_,_,_,rfl,RdG.nil ..,RdG.nil ..,RdG.nil ..,RdG.nil ..,RdG.nil ..,⟨(b8 (x:=c) (by omega)),(b8 (x:=0) (by omega)),(b16 (x:=C.wordV) (by omega)),(b16 (x:=0) (by omega)),(b16 (x:=0) (by omega)),(b16 (x:=0) (by omega)),(b16 (x:=0) (by omega)),(b16 (x:=0) (by omega)),(b16 (x:=0) (by omega)),(b16 (x:=0) (by omega)),(b16 (x:=0) (by omega)),(b16 (x:=0) (by omega)),(b8 (x:=0) (by omega)),(b8 (x:=0) (by omega)),(b8 (x:=0) (by omega)),(b8 (x:=0) (by omega)),(b8 (x:=0) (by omega))⟩⟩⟩,U40⟩
set_option maxRecDepth 100000 in
set_option maxHeartbeats 4000000 in
theorem rc9 {g gm:Nat} {c:Int} {C:Cur} {w:World} (hcode:B8 c) (hC:CurAt w g C) (hm:w.heap[gm]? = some (.cells (mC c) 31 (0,0))) (hne:g ≠ gm) {bc:Nat} {bm:Nat} (hbc:w.heap[bc]? = some (.cells #[.pointer (some ⟨g,0,none⟩)] 143 (0,0))) (n_bc_g:bc ≠ g) (n_bc_gm:bc ≠ gm) (hbm:w.heap[bm]? = some (.cells #[.pointer (some ⟨gm,0,none⟩)] 145 (0,0))) (n_bm_g:bm ≠ g) (n_bm_gm:bm ≠ gm) :
    Calls Tryz.prog 120 #[.pointer (some ⟨bc,0,none⟩),.pointer (some ⟨bm,0,none⟩)] w (PFormG g gm (rqR c C).1 (rqR c C).2 w):=by
 obtain ⟨hcode1,hcode2⟩:=hcode
 have hlen:=hC.len
 refine en 36 Tryz.func120 rfl<|sg<|L0<|Olb hbc 0<|L0<|Oc<|m3 (word_any hC) fun w10 hc11 hu12 hr13=>L0<|Oi C.wordV<|Pl 1<|ng<|?_
 have r14:=ub1 hu12 n_bc_g hbc
 refine L0<|Olb r14 0<|Pl 1<|L0<|Oe (.int .i64 (Int.tmod C.wordV 2)) (.int .i64 (C.wordV % 2)) (congrArg (Value.int .i64) (Int.tmod_eq_emod_of_nonneg (by omega)))<|Pl 2<|cu 3 [11] 14 ((((C.wordV % 2) == 0) && (decide (2≤C.wordV)))) (fun K K16=>?_) ?_
 refine bl 11 (((C.wordV % 2) == 0)) (fun q15=>?_) (fun q15=>?_)
 have q15p:=eq_of_beqi q15
 exact Pl 3<|ce K16 (decide (2≤C.wordV)) (by rw [q15]; rfl)
 have q15p:=ne_of_beqi q15
 exact Pl 3<|ce K16 false (by rw [q15]; rfl)
 refine Pl 1<|cu 3 [15] 18 (((((C.wordV % 2) == 0) && (decide (2≤C.wordV))) && (decide (C.wordV≤64)))) (fun K K18=>?_) ?_
 refine bl 15 ((((C.wordV % 2) == 0) && (decide (2≤C.wordV)))) (fun q17=>?_) (fun q17=>?_)
 have q17a:=(and_t q17).1
 have q17b:=(and_t q17).2
 have q17ap:=eq_of_beqi q17a
 have q17bp:=of_decide_eq_true q17b
 exact Pl 3<|ce K18 (decide (C.wordV≤64)) (by rw [q17]; rfl)
 exact Pl 3<|ce K18 false (by rw [q17]; rfl)
 refine L0<|Oc<|m2 (need_any (((((C.wordV % 2) == 0) && (decide (2≤C.wordV))) && (decide (C.wordV≤64)))) 5 hc11) fun w19 hc20 hu21=>ng<|?_
 have r22:=ub1 hu21 n_bc_g r14
 refine L0<|Olb r22 0<|L0<|Oc<|m3 (word_any hc20) fun w23 hc24 hu25 hr26=>L0<|Oi (((C.wordsC 1).need ((((C.wordV % 2) == 0) && (decide (2≤C.wordV))) && (decide (C.wordV≤64))) 5).wordV)<|Pl 1<|ng<|?_
 have r27:=ub1 hu25 n_bc_g r22
 refine L0<|Olb r27 0<|Pl 1<|L0<|Oi (2 * (((C.wordsC 1).need ((((C.wordV % 2) == 0) && (decide (2≤C.wordV))) && (decide (C.wordV≤64))) 5).wordV))<|L0<|Oi (2 + (2 * (((C.wordsC 1).need ((((C.wordV % 2) == 0) && (decide (2≤C.wordV))) && (decide (C.wordV≤64))) 5).wordV)))<|Pl 2<|L0<|Oc<|m2 (need_any (((2 + (2 * (((C.wordsC 1).need ((((C.wordV % 2) == 0) && (decide (2≤C.wordV))) && (decide (C.wordV≤64))) 5).wordV))) == C.wordV)) 5 hc24) fun w28 hc29 hu30=>nt<|Rg 7 (fun w'=>w'.cell? ⟨bm,0,none⟩=some (.pointer (some ⟨gm,0,none⟩))∧w'.cell? ⟨bc,0,none⟩=some (.pointer (some ⟨g,0,none⟩))) fun w51 hu52=>?_
 have U54:=u1 hu12 hu21 im
 have U55:=u1 U54 hu25 im
 have U56:=u1 U55 hu30 im
 have U57:=ut0 U56 hu52
 have r58:=ub1 U57 n_bm_g hbm
 have U59:=ut0 hu30 hu52
 have r60:=ub1 U59 n_bc_g r27
 refine hld ⟨(blk_at r58 rfl),(blk_at r60 rfl)⟩ fun hS53=>Rl 0 hS53 (fun _ hs=>hs.1)<|Rl 1 hS53 (fun _ hs=>hs.2)<|Rt 2 hS53<|?_
 have r61:=CurAt.old hc29 hu52
 refine R0 3 rfl<|Oc<|so3 (words_any (n:=((C.wordsC 1).need ((((C.wordV % 2) == 0) && (decide (2≤C.wordV))) && (decide (C.wordV≤64))) 5).wordV) r61) fun A69 cp70 w62 rd73 hl71 hm72 hc65 hu66=>?_
 have r75:=ub1 hu66 n_bm_g r58
 have r76:=ub1 hu66 n_bc_g r60
 refine hld ⟨(blk_at r75 rfl),(blk_at r76 rfl)⟩ fun hS74=>Rt 4 hS74<|Rt 5 hS74<|?_
 have U77:=u1 U57 hu66 im
 have r78:=ub1 U77 (Ne.symm hne) hm
 refine R0 6 rfl<|Ost r78 12 (mG c 0 0 0 0 0 0 0 0 0 0 0 (.slice A69 ((((((C.wordsC 1).need ((((C.wordV % 2) == 0) && (decide (2≤C.wordV))) && (decide (C.wordV≤64))) 5).wordsC 1).need ((2 + (2 * (((C.wordsC 1).need ((((C.wordV % 2) == 0) && (decide (2≤C.wordV))) && (decide (C.wordV≤64))) 5).wordV))) == C.wordV) 5).wordsR (((C.wordsC 1).need ((((C.wordV % 2) == 0) && (decide (2≤C.wordV))) && (decide (C.wordV≤64))) 5).wordV)).length) cp70) nS nS nS 0 0 0 0 0 nS) fun w79 B80 hu81=>?_
 have r83:=ub1 hu81 n_bm_gm r75
 have r84:=ub1 hu81 n_bc_gm r76
 refine hld ⟨(blk_at r83 rfl),(blk_at r84 rfl)⟩ fun hS82=>re<|rm (.tuple #[])<|?_
 have r85:=own_stay rd73 hu81 (fun x hx=>(not_cons (fun e=>(not_old (blk_lt hm) U57.size rd73) (e ▸ hx)) not0)) (fun _ _ h=>h)
 have hs:rqR c C=((((((C.wordsC 1).need ((((C.wordV % 2) == 0) && (decide (2≤C.wordV))) && (decide (C.wordV≤64))) 5).wordsC 1).need ((2 + (2 * (((C.wordsC 1).need ((((C.wordV % 2) == 0) && (decide (2≤C.wordV))) && (decide (C.wordV≤64))) 5).wordV))) == C.wordV) 5).wordsC (((C.wordsC 1).need ((((C.wordV % 2) == 0) && (decide (2≤C.wordV))) && (decide (C.wordV≤64))) 5).wordV)),(Msg.mk c 0 0 0 0 0 0 0 0 0 0 0 (((((C.wordsC 1).need ((((C.wordV % 2) == 0) && (decide (2≤C.wordV))) && (decide (C.wordV≤64))) 5).wordsC 1).need ((2 + (2 * (((C.wordsC 1).need ((((C.wordV % 2) == 0) && (decide (2≤C.wordV))) && (decide (C.wordV≤64))) 5).wordV))) == C.wordV) 5).wordsR (((C.wordsC 1).need ((((C.wordV % 2) == 0) && (decide (2≤C.wordV))) && (decide (C.wordV≤64))) 5).wordV)) [] [] [] 0 0 0 0 0 [])):=by
   unfold rqR q2C q1C evenIn
   (try simp only [bs,if_true,if_false,decide_true,decide_false,reduceIte])
   all_goals rfl
 rw [hs]
 have r86:=CurAt.upd hc65 hu81 (not_cons hne not0) (safe_cons (safe1 r78 (by decide)) safe0)
 have U87:=u1 (Upd.mono (S':=[g,gm]) U77 (ac im all0)) hu81 im
 exact ⟨rfl,r86,⟨_,⟨B80,rfl⟩,⟨_,_,_,_,_,rfl,(r85).rd,RdG.nil ..,RdG.nil ..,RdG.nil ..,RdG.nil ..,⟨(b8 (x:=c) (by omega)),(b8 (x:=0) (by omega)),(b16 (x:=0) (by omega)),(b16 (x:=0) (by omega)),(b16 (x:=0) (by omega)),(b16 (x:=0) (by omega)),(b16 (x:=0) (by omega)),(b16 (x:=0) (by omega)),(b16 (x:=0) (by omega)),(b16 (x:=0) (by omega)),(b16 (x:=0) (by omega)),(b16 (x:=0) (by omega)),(b8 (x:=0) (by omega)),(b8 (x:=0) (by omega)),(b8 (x:=0) (by omega)),(b8 (x:=0) (by omega)),(b8 (x:=0) (by omega))⟩⟩⟩,U87⟩
open Go.RowKit
set_option maxRecDepth 100000 in
set_option maxHeartbeats 4000000 in
theorem rform_3_0 {g gm:Nat} {C:Cur} {w:World} (hC:CurAt w g C) (hm:w.heap[gm]? = some (.cells (mC 3) 31 (0,0))) (hne:g ≠ gm) : Calls Tryz.prog 86 #[.int .i64 0,.pointer (some ⟨gm,0,none⟩),.pointer (some ⟨g,0,none⟩)] w (PMkF (fun W=>PFormG g gm (rasksR 125 3 C).1 (rasksR 125 3 C).2 W) w):=by
 refine en 67 Tryz.func86 rfl<|sg<|L0<|Obx #[.pointer (some ⟨gm,0,none⟩)] fun g10 w11 hg12 B13 hu14=>L0<|Obx #[.pointer (some ⟨g,0,none⟩)] fun g15 w16 hg17 B18 hu19=>Pl 1<|ng<|Pl 1<|L0<|Oal #[.nilFunc] fun g20 w21 hg22 B23 hu24=>L0<|Ost B23 0 #[.func (.func 109) #[] #[.pointer (some ⟨g15,0,none⟩),.pointer (some ⟨g10,0,none⟩)]] fun w25 B26 hu27=>nl<|?_
 refine tn<|sg<|Pl 2<|L0<|Oal #[.bool false] fun g28 w29 hg30 B31 hu32=>L0<|Ost B31 0 #[.bool true] fun w33 B34 hu35=>nt<|sq<|sg<|?_
 have U36:=ut0 hu19 hu24
 have U37:=u1 U36 hu27 (ni hu19.size hg22)
 have U38:=ut0 U37 hu32
 have U39:=u1 U38 hu35 (ni U37.size hg30)
 have r40:=ub U39 B13
 refine L0<|Olb r40 0<|Pl 2<|?_
 have U41:=ut0 hu14 hu19
 have U42:=ut0 U41 hu24
 have U43:=u1 U42 hu27 (ni U41.size hg22)
 have U44:=ut0 U43 hu32
 have U45:=u1 U44 hu35 (ni U43.size hg30)
 have r46:=ub U45 hm
 refine L0<|Olb r46 0<|Pl 1<|nt<|bk<|sg<|L0<|Olb B34 0<|Pl 9<|nt<|c1<|sg<|?_
 refine Pl 2<|nt<|rt<|br<|tr<|rr (.func (.func 111) #[] #[.pointer (some ⟨g20,0,none⟩)])<|?_
 have U47:=u1 hu24 hu27 (nr hg22)
 have U48:=ut0 U47 hu32
 have U49:=u1 U48 hu35 (ni U47.size hg30)
 have r50:=ub U49 B18
 have ne51:=nb (CurAt.lt hC) hu14.size hg17
 have ne52:=nb (blk_lt hm) hu14.size hg17
 have ne53:=nb (CurAt.lt hC) lr hg12
 have ne54:=nb (blk_lt hm) lr hg12
 have U55:=u1 hu32 hu35 (nr hg30)
 have r56:=ub U55 B26
 have ne57:=nb (CurAt.lt hC) U41.size hg22
 have ne58:=nb (blk_lt hm) U41.size hg22
 have r59:=CurAt.old hC U45
 exact ⟨_,_,rfl,by kernel_rfl,U45,rc2 (c:=3) ⟨by decide,by decide⟩ r59 r46 hne r50 (Ne.symm ne51) (Ne.symm ne52) r40 (Ne.symm ne53) (Ne.symm ne54) r56 (Ne.symm ne57) (Ne.symm ne58)⟩
set_option maxRecDepth 100000 in
set_option maxHeartbeats 4000000 in
theorem rform_4_0 {g gm:Nat} {C:Cur} {w:World} (hC:CurAt w g C) (hm:w.heap[gm]? = some (.cells (mC 4) 31 (0,0))) (hne:g ≠ gm) : Calls Tryz.prog 86 #[.int .i64 0,.pointer (some ⟨gm,0,none⟩),.pointer (some ⟨g,0,none⟩)] w (PMkF (fun W=>PFormG g gm (rasksR 125 4 C).1 (rasksR 125 4 C).2 W) w):=by
 refine en 67 Tryz.func86 rfl<|sg<|L0<|Obx #[.pointer (some ⟨gm,0,none⟩)] fun g10 w11 hg12 B13 hu14=>L0<|Obx #[.pointer (some ⟨g,0,none⟩)] fun g15 w16 hg17 B18 hu19=>Pl 1<|ng<|Pl 1<|L0<|Oal #[.nilFunc] fun g20 w21 hg22 B23 hu24=>L0<|Ost B23 0 #[.func (.func 109) #[] #[.pointer (some ⟨g15,0,none⟩),.pointer (some ⟨g10,0,none⟩)]] fun w25 B26 hu27=>nl<|?_
 refine tn<|sg<|Pl 2<|L0<|Oal #[.bool false] fun g28 w29 hg30 B31 hu32=>L0<|Ost B31 0 #[.bool true] fun w33 B34 hu35=>nt<|sq<|sg<|?_
 have U36:=ut0 hu19 hu24
 have U37:=u1 U36 hu27 (ni hu19.size hg22)
 have U38:=ut0 U37 hu32
 have U39:=u1 U38 hu35 (ni U37.size hg30)
 have r40:=ub U39 B13
 refine L0<|Olb r40 0<|Pl 2<|?_
 have U41:=ut0 hu14 hu19
 have U42:=ut0 U41 hu24
 have U43:=u1 U42 hu27 (ni U41.size hg22)
 have U44:=ut0 U43 hu32
 have U45:=u1 U44 hu35 (ni U43.size hg30)
 have r46:=ub U45 hm
 refine L0<|Olb r46 0<|Pl 1<|nt<|bk<|sg<|L0<|Olb B34 0<|Pl 9<|nt<|c1<|sg<|?_
 refine Pl 2<|nt<|rt<|br<|tr<|rr (.func (.func 111) #[] #[.pointer (some ⟨g20,0,none⟩)])<|?_
 have U47:=u1 hu24 hu27 (nr hg22)
 have U48:=ut0 U47 hu32
 have U49:=u1 U48 hu35 (ni U47.size hg30)
 have r50:=ub U49 B18
 have ne51:=nb (CurAt.lt hC) hu14.size hg17
 have ne52:=nb (blk_lt hm) hu14.size hg17
 have ne53:=nb (CurAt.lt hC) lr hg12
 have ne54:=nb (blk_lt hm) lr hg12
 have U55:=u1 hu32 hu35 (nr hg30)
 have r56:=ub U55 B26
 have ne57:=nb (CurAt.lt hC) U41.size hg22
 have ne58:=nb (blk_lt hm) U41.size hg22
 have r59:=CurAt.old hC U45
 exact ⟨_,_,rfl,by kernel_rfl,U45,rc2 (c:=4) ⟨by decide,by decide⟩ r59 r46 hne r50 (Ne.symm ne51) (Ne.symm ne52) r40 (Ne.symm ne53) (Ne.symm ne54) r56 (Ne.symm ne57) (Ne.symm ne58)⟩
set_option maxRecDepth 100000 in
set_option maxHeartbeats 4000000 in
theorem rform_3_1 {g gm:Nat} {C:Cur} {w:World} (hC:CurAt w g C) (hm:w.heap[gm]? = some (.cells (mC 3) 31 (0,0))) (hne:g ≠ gm) : Calls Tryz.prog 86 #[.int .i64 1,.pointer (some ⟨gm,0,none⟩),.pointer (some ⟨g,0,none⟩)] w (PMkF (fun W=>PFormG g gm (rtoldR 3 C).1 (rtoldR 3 C).2 W) w):=by
 refine en 67 Tryz.func86 rfl<|sg<|L0<|Obx #[.pointer (some ⟨gm,0,none⟩)] fun g10 w11 hg12 B13 hu14=>L0<|Obx #[.pointer (some ⟨g,0,none⟩)] fun g15 w16 hg17 B18 hu19=>Pl 1<|ng<|Pl 1<|L0<|Oal #[.nilFunc] fun g20 w21 hg22 B23 hu24=>L0<|Ost B23 0 #[.func (.func 109) #[] #[.pointer (some ⟨g15,0,none⟩),.pointer (some ⟨g10,0,none⟩)]] fun w25 B26 hu27=>nl<|?_
 refine tn<|sg<|Pl 2<|L0<|Oal #[.bool false] fun g28 w29 hg30 B31 hu32=>L0<|Ost B31 0 #[.bool false] fun w33 B34 hu35=>nt<|sq<|sg<|?_
 have U36:=ut0 hu19 hu24
 have U37:=u1 U36 hu27 (ni hu19.size hg22)
 have U38:=ut0 U37 hu32
 have U39:=u1 U38 hu35 (ni U37.size hg30)
 have r40:=ub U39 B13
 refine L0<|Olb r40 0<|Pl 2<|?_
 have U41:=ut0 hu14 hu19
 have U42:=ut0 U41 hu24
 have U43:=u1 U42 hu27 (ni U41.size hg22)
 have U44:=ut0 U43 hu32
 have U45:=u1 U44 hu35 (ni U43.size hg30)
 have r46:=ub U45 hm
 refine L0<|Olb r46 0<|Pl 1<|nt<|bk<|sg<|L0<|Olb B34 0<|Pl 9<|nt<|c0<|sq<|sq<|?_
 refine go<|Pl 3<|nt<|c1<|skn<|c1<|sg<|Pl 2<|nt<|rt<|?_
 refine br<|tr<|rr (.func (.func 112) #[] #[.pointer (some ⟨g15,0,none⟩),.pointer (some ⟨g10,0,none⟩)])<|?_
 have U47:=u1 hu24 hu27 (nr hg22)
 have U48:=ut0 U47 hu32
 have U49:=u1 U48 hu35 (ni U47.size hg30)
 have r50:=ub U49 B18
 have ne51:=nb (CurAt.lt hC) hu14.size hg17
 have ne52:=nb (blk_lt hm) hu14.size hg17
 have ne53:=nb (CurAt.lt hC) lr hg12
 have ne54:=nb (blk_lt hm) lr hg12
 have r55:=CurAt.old hC U45
 exact ⟨_,_,rfl,by kernel_rfl,U45,rc3 (c:=3) ⟨by decide,by decide⟩ r55 r46 hne r50 (Ne.symm ne51) (Ne.symm ne52) r40 (Ne.symm ne53) (Ne.symm ne54)⟩
set_option maxRecDepth 100000 in
set_option maxHeartbeats 4000000 in
theorem rform_4_1 {g gm:Nat} {C:Cur} {w:World} (hC:CurAt w g C) (hm:w.heap[gm]? = some (.cells (mC 4) 31 (0,0))) (hne:g ≠ gm) : Calls Tryz.prog 86 #[.int .i64 1,.pointer (some ⟨gm,0,none⟩),.pointer (some ⟨g,0,none⟩)] w (PMkF (fun W=>PFormG g gm (rtoldR 4 C).1 (rtoldR 4 C).2 W) w):=by
 refine en 67 Tryz.func86 rfl<|sg<|L0<|Obx #[.pointer (some ⟨gm,0,none⟩)] fun g10 w11 hg12 B13 hu14=>L0<|Obx #[.pointer (some ⟨g,0,none⟩)] fun g15 w16 hg17 B18 hu19=>Pl 1<|ng<|Pl 1<|L0<|Oal #[.nilFunc] fun g20 w21 hg22 B23 hu24=>L0<|Ost B23 0 #[.func (.func 109) #[] #[.pointer (some ⟨g15,0,none⟩),.pointer (some ⟨g10,0,none⟩)]] fun w25 B26 hu27=>nl<|?_
 refine tn<|sg<|Pl 2<|L0<|Oal #[.bool false] fun g28 w29 hg30 B31 hu32=>L0<|Ost B31 0 #[.bool false] fun w33 B34 hu35=>nt<|sq<|sg<|?_
 have U36:=ut0 hu19 hu24
 have U37:=u1 U36 hu27 (ni hu19.size hg22)
 have U38:=ut0 U37 hu32
 have U39:=u1 U38 hu35 (ni U37.size hg30)
 have r40:=ub U39 B13
 refine L0<|Olb r40 0<|Pl 2<|?_
 have U41:=ut0 hu14 hu19
 have U42:=ut0 U41 hu24
 have U43:=u1 U42 hu27 (ni U41.size hg22)
 have U44:=ut0 U43 hu32
 have U45:=u1 U44 hu35 (ni U43.size hg30)
 have r46:=ub U45 hm
 refine L0<|Olb r46 0<|Pl 1<|nt<|bk<|sg<|L0<|Olb B34 0<|Pl 9<|nt<|c0<|sq<|sq<|?_
 refine go<|Pl 3<|nt<|c0<|sg<|Pl 3<|nt<|c1<|skn<|c1<|?_
 refine sg<|Pl 2<|nt<|rt<|br<|tr<|rr (.func (.func 112) #[] #[.pointer (some ⟨g15,0,none⟩),.pointer (some ⟨g10,0,none⟩)])<|?_
 have U47:=u1 hu24 hu27 (nr hg22)
 have U48:=ut0 U47 hu32
 have U49:=u1 U48 hu35 (ni U47.size hg30)
 have r50:=ub U49 B18
 have ne51:=nb (CurAt.lt hC) hu14.size hg17
 have ne52:=nb (blk_lt hm) hu14.size hg17
 have ne53:=nb (CurAt.lt hC) lr hg12
 have ne54:=nb (blk_lt hm) lr hg12
 have r55:=CurAt.old hC U45
 exact ⟨_,_,rfl,by kernel_rfl,U45,rc3 (c:=4) ⟨by decide,by decide⟩ r55 r46 hne r50 (Ne.symm ne51) (Ne.symm ne52) r40 (Ne.symm ne53) (Ne.symm ne54)⟩
set_option maxRecDepth 100000 in
set_option maxHeartbeats 4000000 in
theorem rform_6_0 {g gm:Nat} {C:Cur} {w:World} (hC:CurAt w g C) (hm:w.heap[gm]? = some (.cells (mC 6) 31 (0,0))) (hne:g ≠ gm) : Calls Tryz.prog 86 #[.int .i64 0,.pointer (some ⟨gm,0,none⟩),.pointer (some ⟨g,0,none⟩)] w (PMkF (fun W=>PFormG g gm (roneR 6 C).1 (roneR 6 C).2 W) w):=by
 refine en 67 Tryz.func86 rfl<|sg<|L0<|Obx #[.pointer (some ⟨gm,0,none⟩)] fun g10 w11 hg12 B13 hu14=>L0<|Obx #[.pointer (some ⟨g,0,none⟩)] fun g15 w16 hg17 B18 hu19=>Pl 1<|ng<|Pl 1<|L0<|Oal #[.nilFunc] fun g20 w21 hg22 B23 hu24=>L0<|Ost B23 0 #[.func (.func 109) #[] #[.pointer (some ⟨g15,0,none⟩),.pointer (some ⟨g10,0,none⟩)]] fun w25 B26 hu27=>nl<|?_
 refine tn<|sg<|Pl 2<|L0<|Oal #[.bool false] fun g28 w29 hg30 B31 hu32=>L0<|Ost B31 0 #[.bool true] fun w33 B34 hu35=>nt<|sq<|sg<|?_
 have U36:=ut0 hu19 hu24
 have U37:=u1 U36 hu27 (ni hu19.size hg22)
 have U38:=ut0 U37 hu32
 have U39:=u1 U38 hu35 (ni U37.size hg30)
 have r40:=ub U39 B13
 refine L0<|Olb r40 0<|Pl 2<|?_
 have U41:=ut0 hu14 hu19
 have U42:=ut0 U41 hu24
 have U43:=u1 U42 hu27 (ni U41.size hg22)
 have U44:=ut0 U43 hu32
 have U45:=u1 U44 hu35 (ni U43.size hg30)
 have r46:=ub U45 hm
 refine L0<|Olb r46 0<|Pl 1<|nt<|bk<|sg<|L0<|Olb B34 0<|Pl 9<|nt<|c0<|sq<|sq<|?_
 refine go<|Pl 3<|nt<|c0<|sg<|Pl 3<|nt<|c0<|go<|Pl 7<|nl<|?_
 refine tn<|c0<|sg<|Pl 3<|nt<|c1<|sg<|Pl 2<|nt<|rt<|?_
 refine br<|tr<|rr (.func (.func 114) #[] #[.pointer (some ⟨g15,0,none⟩),.pointer (some ⟨g10,0,none⟩)])<|?_
 have U47:=u1 hu24 hu27 (nr hg22)
 have U48:=ut0 U47 hu32
 have U49:=u1 U48 hu35 (ni U47.size hg30)
 have r50:=ub U49 B18
 have ne51:=nb (CurAt.lt hC) hu14.size hg17
 have ne52:=nb (blk_lt hm) hu14.size hg17
 have ne53:=nb (CurAt.lt hC) lr hg12
 have ne54:=nb (blk_lt hm) lr hg12
 have r55:=CurAt.old hC U45
 exact ⟨_,_,rfl,by kernel_rfl,U45,rc4 (c:=6) ⟨by decide,by decide⟩ r55 r46 hne r50 (Ne.symm ne51) (Ne.symm ne52) r40 (Ne.symm ne53) (Ne.symm ne54)⟩
set_option maxRecDepth 100000 in
set_option maxHeartbeats 4000000 in
theorem rform_6_1 {g gm:Nat} {C:Cur} {w:World} (hC:CurAt w g C) (hm:w.heap[gm]? = some (.cells (mC 6) 31 (0,0))) (hne:g ≠ gm) : Calls Tryz.prog 86 #[.int .i64 1,.pointer (some ⟨gm,0,none⟩),.pointer (some ⟨g,0,none⟩)] w (PMkF (fun W=>PFormG g gm (roneR 6 C).1 (roneR 6 C).2 W) w):=by
 refine en 67 Tryz.func86 rfl<|sg<|L0<|Obx #[.pointer (some ⟨gm,0,none⟩)] fun g10 w11 hg12 B13 hu14=>L0<|Obx #[.pointer (some ⟨g,0,none⟩)] fun g15 w16 hg17 B18 hu19=>Pl 1<|ng<|Pl 1<|L0<|Oal #[.nilFunc] fun g20 w21 hg22 B23 hu24=>L0<|Ost B23 0 #[.func (.func 109) #[] #[.pointer (some ⟨g15,0,none⟩),.pointer (some ⟨g10,0,none⟩)]] fun w25 B26 hu27=>nl<|?_
 refine tn<|sg<|Pl 2<|L0<|Oal #[.bool false] fun g28 w29 hg30 B31 hu32=>L0<|Ost B31 0 #[.bool false] fun w33 B34 hu35=>nt<|sq<|sg<|?_
 have U36:=ut0 hu19 hu24
 have U37:=u1 U36 hu27 (ni hu19.size hg22)
 have U38:=ut0 U37 hu32
 have U39:=u1 U38 hu35 (ni U37.size hg30)
 have r40:=ub U39 B13
 refine L0<|Olb r40 0<|Pl 2<|?_
 have U41:=ut0 hu14 hu19
 have U42:=ut0 U41 hu24
 have U43:=u1 U42 hu27 (ni U41.size hg22)
 have U44:=ut0 U43 hu32
 have U45:=u1 U44 hu35 (ni U43.size hg30)
 have r46:=ub U45 hm
 refine L0<|Olb r46 0<|Pl 1<|nt<|bk<|sg<|L0<|Olb B34 0<|Pl 9<|nt<|c0<|sq<|sq<|?_
 refine go<|Pl 3<|nt<|c0<|sg<|Pl 3<|nt<|c0<|go<|Pl 7<|nl<|?_
 refine tn<|c0<|sg<|Pl 3<|nt<|c1<|sg<|Pl 2<|nt<|rt<|?_
 refine br<|tr<|rr (.func (.func 114) #[] #[.pointer (some ⟨g15,0,none⟩),.pointer (some ⟨g10,0,none⟩)])<|?_
 have U47:=u1 hu24 hu27 (nr hg22)
 have U48:=ut0 U47 hu32
 have U49:=u1 U48 hu35 (ni U47.size hg30)
 have r50:=ub U49 B18
 have ne51:=nb (CurAt.lt hC) hu14.size hg17
 have ne52:=nb (blk_lt hm) hu14.size hg17
 have ne53:=nb (CurAt.lt hC) lr hg12
 have ne54:=nb (blk_lt hm) lr hg12
 have r55:=CurAt.old hC U45
 exact ⟨_,_,rfl,by kernel_rfl,U45,rc4 (c:=6) ⟨by decide,by decide⟩ r55 r46 hne r50 (Ne.symm ne51) (Ne.symm ne52) r40 (Ne.symm ne53) (Ne.symm ne54)⟩
set_option maxRecDepth 100000 in
set_option maxHeartbeats 4000000 in
theorem rform_16_0 {g gm:Nat} {C:Cur} {w:World} (hC:CurAt w g C) (hm:w.heap[gm]? = some (.cells (mC 16) 31 (0,0))) (hne:g ≠ gm) : Calls Tryz.prog 86 #[.int .i64 0,.pointer (some ⟨gm,0,none⟩),.pointer (some ⟨g,0,none⟩)] w (PMkF (fun W=>PFormG g gm (rmanyR 16 C).1 (rmanyR 16 C).2 W) w):=by
 refine en 67 Tryz.func86 rfl<|sg<|L0<|Obx #[.pointer (some ⟨gm,0,none⟩)] fun g10 w11 hg12 B13 hu14=>L0<|Obx #[.pointer (some ⟨g,0,none⟩)] fun g15 w16 hg17 B18 hu19=>Pl 1<|ng<|Pl 1<|L0<|Oal #[.nilFunc] fun g20 w21 hg22 B23 hu24=>L0<|Ost B23 0 #[.func (.func 109) #[] #[.pointer (some ⟨g15,0,none⟩),.pointer (some ⟨g10,0,none⟩)]] fun w25 B26 hu27=>nl<|?_
 refine tn<|sg<|Pl 2<|L0<|Oal #[.bool false] fun g28 w29 hg30 B31 hu32=>L0<|Ost B31 0 #[.bool true] fun w33 B34 hu35=>nt<|sq<|sg<|?_
 have U36:=ut0 hu19 hu24
 have U37:=u1 U36 hu27 (ni hu19.size hg22)
 have U38:=ut0 U37 hu32
 have U39:=u1 U38 hu35 (ni U37.size hg30)
 have r40:=ub U39 B13
 refine L0<|Olb r40 0<|Pl 2<|?_
 have U41:=ut0 hu14 hu19
 have U42:=ut0 U41 hu24
 have U43:=u1 U42 hu27 (ni U41.size hg22)
 have U44:=ut0 U43 hu32
 have U45:=u1 U44 hu35 (ni U43.size hg30)
 have r46:=ub U45 hm
 refine L0<|Olb r46 0<|Pl 1<|nt<|bk<|sg<|L0<|Olb B34 0<|Pl 9<|nt<|c0<|sq<|sq<|?_
 refine go<|Pl 3<|nt<|c0<|sg<|Pl 3<|nt<|c0<|go<|Pl 7<|nl<|?_
 refine tn<|c0<|sg<|Pl 3<|nt<|c0<|sg<|Pl 3<|nt<|c1<|?_
 refine sg<|Pl 2<|nt<|rt<|br<|tr<|rr (.func (.func 115) #[] #[.pointer (some ⟨g20,0,none⟩),.pointer (some ⟨g28,0,none⟩),.pointer (some ⟨g15,0,none⟩),.pointer (some ⟨g10,0,none⟩)])<|?_
 have U47:=u1 hu24 hu27 (nr hg22)
 have U48:=ut0 U47 hu32
 have U49:=u1 U48 hu35 (ni U47.size hg30)
 have r50:=ub U49 B18
 have ne51:=nb (CurAt.lt hC) hu14.size hg17
 have ne52:=nb (blk_lt hm) hu14.size hg17
 have ne53:=nb (CurAt.lt hC) lr hg12
 have ne54:=nb (blk_lt hm) lr hg12
 have U55:=u1 hu32 hu35 (nr hg30)
 have r56:=ub U55 B26
 have ne57:=nb (CurAt.lt hC) U41.size hg22
 have ne58:=nb (blk_lt hm) U41.size hg22
 have ne59:=nb (CurAt.lt hC) U43.size hg30
 have ne60:=nb (blk_lt hm) U43.size hg30
 have r61:=CurAt.old hC U45
 exact ⟨_,_,rfl,by kernel_rfl,U45,rc5t (c:=16) ⟨by decide,by decide⟩ r61 r46 hne r50 (Ne.symm ne51) (Ne.symm ne52) r40 (Ne.symm ne53) (Ne.symm ne54) r56 (Ne.symm ne57) (Ne.symm ne58) B34 (Ne.symm ne59) (Ne.symm ne60) rfl⟩
set_option maxRecDepth 100000 in
set_option maxHeartbeats 4000000 in
theorem rform_16_1 {g gm:Nat} {C:Cur} {w:World} (hC:CurAt w g C) (hm:w.heap[gm]? = some (.cells (mC 16) 31 (0,0))) (hne:g ≠ gm) : Calls Tryz.prog 86 #[.int .i64 1,.pointer (some ⟨gm,0,none⟩),.pointer (some ⟨g,0,none⟩)] w (PMkF (fun W=>PFormG g gm (rasksR 123 16 C).1 (rasksR 123 16 C).2 W) w):=by
 refine en 67 Tryz.func86 rfl<|sg<|L0<|Obx #[.pointer (some ⟨gm,0,none⟩)] fun g10 w11 hg12 B13 hu14=>L0<|Obx #[.pointer (some ⟨g,0,none⟩)] fun g15 w16 hg17 B18 hu19=>Pl 1<|ng<|Pl 1<|L0<|Oal #[.nilFunc] fun g20 w21 hg22 B23 hu24=>L0<|Ost B23 0 #[.func (.func 109) #[] #[.pointer (some ⟨g15,0,none⟩),.pointer (some ⟨g10,0,none⟩)]] fun w25 B26 hu27=>nl<|?_
 refine tn<|sg<|Pl 2<|L0<|Oal #[.bool false] fun g28 w29 hg30 B31 hu32=>L0<|Ost B31 0 #[.bool false] fun w33 B34 hu35=>nt<|sq<|sg<|?_
 have U36:=ut0 hu19 hu24
 have U37:=u1 U36 hu27 (ni hu19.size hg22)
 have U38:=ut0 U37 hu32
 have U39:=u1 U38 hu35 (ni U37.size hg30)
 have r40:=ub U39 B13
 refine L0<|Olb r40 0<|Pl 2<|?_
 have U41:=ut0 hu14 hu19
 have U42:=ut0 U41 hu24
 have U43:=u1 U42 hu27 (ni U41.size hg22)
 have U44:=ut0 U43 hu32
 have U45:=u1 U44 hu35 (ni U43.size hg30)
 have r46:=ub U45 hm
 refine L0<|Olb r46 0<|Pl 1<|nt<|bk<|sg<|L0<|Olb B34 0<|Pl 9<|nt<|c0<|sq<|sq<|?_
 refine go<|Pl 3<|nt<|c0<|sg<|Pl 3<|nt<|c0<|go<|Pl 7<|nl<|?_
 refine tn<|c0<|sg<|Pl 3<|nt<|c0<|sg<|Pl 3<|nt<|c1<|?_
 refine sg<|Pl 2<|nt<|rt<|br<|tr<|rr (.func (.func 115) #[] #[.pointer (some ⟨g20,0,none⟩),.pointer (some ⟨g28,0,none⟩),.pointer (some ⟨g15,0,none⟩),.pointer (some ⟨g10,0,none⟩)])<|?_
 have U47:=u1 hu24 hu27 (nr hg22)
 have U48:=ut0 U47 hu32
 have U49:=u1 U48 hu35 (ni U47.size hg30)
 have r50:=ub U49 B18
 have ne51:=nb (CurAt.lt hC) hu14.size hg17
 have ne52:=nb (blk_lt hm) hu14.size hg17
 have ne53:=nb (CurAt.lt hC) lr hg12
 have ne54:=nb (blk_lt hm) lr hg12
 have U55:=u1 hu32 hu35 (nr hg30)
 have r56:=ub U55 B26
 have ne57:=nb (CurAt.lt hC) U41.size hg22
 have ne58:=nb (blk_lt hm) U41.size hg22
 have ne59:=nb (CurAt.lt hC) U43.size hg30
 have ne60:=nb (blk_lt hm) U43.size hg30
 have r61:=CurAt.old hC U45
 exact ⟨_,_,rfl,by kernel_rfl,U45,rc5f (c:=16) ⟨by decide,by decide⟩ r61 r46 hne r50 (Ne.symm ne51) (Ne.symm ne52) r40 (Ne.symm ne53) (Ne.symm ne54) r56 (Ne.symm ne57) (Ne.symm ne58) B34 (Ne.symm ne59) (Ne.symm ne60) rfl⟩
set_option maxRecDepth 100000 in
set_option maxHeartbeats 4000000 in
theorem rform_22_0 {g gm:Nat} {C:Cur} {w:World} (hC:CurAt w g C) (hm:w.heap[gm]? = some (.cells (mC 22) 31 (0,0))) (hne:g ≠ gm) : Calls Tryz.prog 86 #[.int .i64 0,.pointer (some ⟨gm,0,none⟩),.pointer (some ⟨g,0,none⟩)] w (PMkF (fun W=>PFormG g gm (rmaskR 22 C).1 (rmaskR 22 C).2 W) w):=by
 refine en 67 Tryz.func86 rfl<|sg<|L0<|Obx #[.pointer (some ⟨gm,0,none⟩)] fun g10 w11 hg12 B13 hu14=>L0<|Obx #[.pointer (some ⟨g,0,none⟩)] fun g15 w16 hg17 B18 hu19=>Pl 1<|ng<|Pl 1<|L0<|Oal #[.nilFunc] fun g20 w21 hg22 B23 hu24=>L0<|Ost B23 0 #[.func (.func 109) #[] #[.pointer (some ⟨g15,0,none⟩),.pointer (some ⟨g10,0,none⟩)]] fun w25 B26 hu27=>nl<|?_
 refine tn<|sg<|Pl 2<|L0<|Oal #[.bool false] fun g28 w29 hg30 B31 hu32=>L0<|Ost B31 0 #[.bool true] fun w33 B34 hu35=>nt<|sq<|sg<|?_
 have U36:=ut0 hu19 hu24
 have U37:=u1 U36 hu27 (ni hu19.size hg22)
 have U38:=ut0 U37 hu32
 have U39:=u1 U38 hu35 (ni U37.size hg30)
 have r40:=ub U39 B13
 refine L0<|Olb r40 0<|Pl 2<|?_
 have U41:=ut0 hu14 hu19
 have U42:=ut0 U41 hu24
 have U43:=u1 U42 hu27 (ni U41.size hg22)
 have U44:=ut0 U43 hu32
 have U45:=u1 U44 hu35 (ni U43.size hg30)
 have r46:=ub U45 hm
 refine L0<|Olb r46 0<|Pl 1<|nt<|bk<|sg<|L0<|Olb B34 0<|Pl 9<|nt<|c0<|sq<|sq<|?_
 refine go<|Pl 3<|nt<|c0<|sg<|Pl 3<|nt<|c0<|go<|Pl 7<|nl<|?_
 refine tn<|c0<|sg<|Pl 3<|nt<|c0<|sg<|Pl 3<|nt<|c0<|?_
 refine sg<|Pl 3<|nt<|c1<|sg<|Pl 2<|nt<|rt<|br<|tr<|?_
 refine rr (.func (.func 117) #[] #[.pointer (some ⟨g15,0,none⟩),.pointer (some ⟨g10,0,none⟩)])<|?_
 have U47:=u1 hu24 hu27 (nr hg22)
 have U48:=ut0 U47 hu32
 have U49:=u1 U48 hu35 (ni U47.size hg30)
 have r50:=ub U49 B18
 have ne51:=nb (CurAt.lt hC) hu14.size hg17
 have ne52:=nb (blk_lt hm) hu14.size hg17
 have ne53:=nb (CurAt.lt hC) lr hg12
 have ne54:=nb (blk_lt hm) lr hg12
 have r55:=CurAt.old hC U45
 exact ⟨_,_,rfl,by kernel_rfl,U45,rc6 (c:=22) ⟨by decide,by decide⟩ r55 r46 hne r50 (Ne.symm ne51) (Ne.symm ne52) r40 (Ne.symm ne53) (Ne.symm ne54)⟩
set_option maxRecDepth 100000 in
set_option maxHeartbeats 4000000 in
theorem rform_22_1 {g gm:Nat} {C:Cur} {w:World} (hC:CurAt w g C) (hm:w.heap[gm]? = some (.cells (mC 22) 31 (0,0))) (hne:g ≠ gm) : Calls Tryz.prog 86 #[.int .i64 1,.pointer (some ⟨gm,0,none⟩),.pointer (some ⟨g,0,none⟩)] w (PMkF (fun W=>PFormG g gm (rmaskR 22 C).1 (rmaskR 22 C).2 W) w):=by
 refine en 67 Tryz.func86 rfl<|sg<|L0<|Obx #[.pointer (some ⟨gm,0,none⟩)] fun g10 w11 hg12 B13 hu14=>L0<|Obx #[.pointer (some ⟨g,0,none⟩)] fun g15 w16 hg17 B18 hu19=>Pl 1<|ng<|Pl 1<|L0<|Oal #[.nilFunc] fun g20 w21 hg22 B23 hu24=>L0<|Ost B23 0 #[.func (.func 109) #[] #[.pointer (some ⟨g15,0,none⟩),.pointer (some ⟨g10,0,none⟩)]] fun w25 B26 hu27=>nl<|?_
 refine tn<|sg<|Pl 2<|L0<|Oal #[.bool false] fun g28 w29 hg30 B31 hu32=>L0<|Ost B31 0 #[.bool false] fun w33 B34 hu35=>nt<|sq<|sg<|?_
 have U36:=ut0 hu19 hu24
 have U37:=u1 U36 hu27 (ni hu19.size hg22)
 have U38:=ut0 U37 hu32
 have U39:=u1 U38 hu35 (ni U37.size hg30)
 have r40:=ub U39 B13
 refine L0<|Olb r40 0<|Pl 2<|?_
 have U41:=ut0 hu14 hu19
 have U42:=ut0 U41 hu24
 have U43:=u1 U42 hu27 (ni U41.size hg22)
 have U44:=ut0 U43 hu32
 have U45:=u1 U44 hu35 (ni U43.size hg30)
 have r46:=ub U45 hm
 refine L0<|Olb r46 0<|Pl 1<|nt<|bk<|sg<|L0<|Olb B34 0<|Pl 9<|nt<|c0<|sq<|sq<|?_
 refine go<|Pl 3<|nt<|c0<|sg<|Pl 3<|nt<|c0<|go<|Pl 7<|nl<|?_
 refine tn<|c0<|sg<|Pl 3<|nt<|c0<|sg<|Pl 3<|nt<|c0<|?_
 refine sg<|Pl 3<|nt<|c1<|sg<|Pl 2<|nt<|rt<|br<|tr<|?_
 refine rr (.func (.func 117) #[] #[.pointer (some ⟨g15,0,none⟩),.pointer (some ⟨g10,0,none⟩)])<|?_
 have U47:=u1 hu24 hu27 (nr hg22)
 have U48:=ut0 U47 hu32
 have U49:=u1 U48 hu35 (ni U47.size hg30)
 have r50:=ub U49 B18
 have ne51:=nb (CurAt.lt hC) hu14.size hg17
 have ne52:=nb (blk_lt hm) hu14.size hg17
 have ne53:=nb (CurAt.lt hC) lr hg12
 have ne54:=nb (blk_lt hm) lr hg12
 have r55:=CurAt.old hC U45
 exact ⟨_,_,rfl,by kernel_rfl,U45,rc6 (c:=22) ⟨by decide,by decide⟩ r55 r46 hne r50 (Ne.symm ne51) (Ne.symm ne52) r40 (Ne.symm ne53) (Ne.symm ne54)⟩
set_option maxRecDepth 100000 in
set_option maxHeartbeats 4000000 in
theorem rform_23_0 {g gm:Nat} {C:Cur} {w:World} (hC:CurAt w g C) (hm:w.heap[gm]? = some (.cells (mC 23) 31 (0,0))) (hne:g ≠ gm) : Calls Tryz.prog 86 #[.int .i64 0,.pointer (some ⟨gm,0,none⟩),.pointer (some ⟨g,0,none⟩)] w (PMkF (fun W=>PFormG g gm (rbothR 23 C).1 (rbothR 23 C).2 W) w):=by
 refine en 67 Tryz.func86 rfl<|sg<|L0<|Obx #[.pointer (some ⟨gm,0,none⟩)] fun g10 w11 hg12 B13 hu14=>L0<|Obx #[.pointer (some ⟨g,0,none⟩)] fun g15 w16 hg17 B18 hu19=>Pl 1<|ng<|Pl 1<|L0<|Oal #[.nilFunc] fun g20 w21 hg22 B23 hu24=>L0<|Ost B23 0 #[.func (.func 109) #[] #[.pointer (some ⟨g15,0,none⟩),.pointer (some ⟨g10,0,none⟩)]] fun w25 B26 hu27=>nl<|?_
 refine tn<|sg<|Pl 2<|L0<|Oal #[.bool false] fun g28 w29 hg30 B31 hu32=>L0<|Ost B31 0 #[.bool true] fun w33 B34 hu35=>nt<|sq<|sg<|?_
 have U36:=ut0 hu19 hu24
 have U37:=u1 U36 hu27 (ni hu19.size hg22)
 have U38:=ut0 U37 hu32
 have U39:=u1 U38 hu35 (ni U37.size hg30)
 have r40:=ub U39 B13
 refine L0<|Olb r40 0<|Pl 2<|?_
 have U41:=ut0 hu14 hu19
 have U42:=ut0 U41 hu24
 have U43:=u1 U42 hu27 (ni U41.size hg22)
 have U44:=ut0 U43 hu32
 have U45:=u1 U44 hu35 (ni U43.size hg30)
 have r46:=ub U45 hm
 refine L0<|Olb r46 0<|Pl 1<|nt<|bk<|sg<|L0<|Olb B34 0<|Pl 9<|nt<|c0<|sq<|sq<|?_
 refine go<|Pl 3<|nt<|c0<|sg<|Pl 3<|nt<|c0<|go<|Pl 3<|L1<|Olb B34 0<|?_
 refine Pl 3<|nt<|c0<|sg<|Pl 3<|nt<|c0<|sg<|Pl 3<|nl<|?_
 refine tn<|c0<|sg<|Pl 3<|nt<|c0<|sg<|Pl 3<|nt<|c1<|?_
 refine sg<|Pl 2<|nt<|rt<|br<|tr<|rr (.func (.func 118) #[] #[.pointer (some ⟨g20,0,none⟩),.pointer (some ⟨g15,0,none⟩),.pointer (some ⟨g10,0,none⟩)])<|?_
 have U47:=u1 hu24 hu27 (nr hg22)
 have U48:=ut0 U47 hu32
 have U49:=u1 U48 hu35 (ni U47.size hg30)
 have r50:=ub U49 B18
 have ne51:=nb (CurAt.lt hC) hu14.size hg17
 have ne52:=nb (blk_lt hm) hu14.size hg17
 have ne53:=nb (CurAt.lt hC) lr hg12
 have ne54:=nb (blk_lt hm) lr hg12
 have U55:=u1 hu32 hu35 (nr hg30)
 have r56:=ub U55 B26
 have ne57:=nb (CurAt.lt hC) U41.size hg22
 have ne58:=nb (blk_lt hm) U41.size hg22
 have r59:=CurAt.old hC U45
 exact ⟨_,_,rfl,by kernel_rfl,U45,rc7 (c:=23) ⟨by decide,by decide⟩ r59 r46 hne r50 (Ne.symm ne51) (Ne.symm ne52) r40 (Ne.symm ne53) (Ne.symm ne54) r56 (Ne.symm ne57) (Ne.symm ne58)⟩
set_option maxRecDepth 100000 in
set_option maxHeartbeats 4000000 in
theorem rform_23_1 {g gm:Nat} {C:Cur} {w:World} (hC:CurAt w g C) (hm:w.heap[gm]? = some (.cells (mC 23) 31 (0,0))) (hne:g ≠ gm) : Calls Tryz.prog 86 #[.int .i64 1,.pointer (some ⟨gm,0,none⟩),.pointer (some ⟨g,0,none⟩)] w (PMkF (fun W=>PFormG g gm (rtoldR 23 C).1 (rtoldR 23 C).2 W) w):=by
 refine en 67 Tryz.func86 rfl<|sg<|L0<|Obx #[.pointer (some ⟨gm,0,none⟩)] fun g10 w11 hg12 B13 hu14=>L0<|Obx #[.pointer (some ⟨g,0,none⟩)] fun g15 w16 hg17 B18 hu19=>Pl 1<|ng<|Pl 1<|L0<|Oal #[.nilFunc] fun g20 w21 hg22 B23 hu24=>L0<|Ost B23 0 #[.func (.func 109) #[] #[.pointer (some ⟨g15,0,none⟩),.pointer (some ⟨g10,0,none⟩)]] fun w25 B26 hu27=>nl<|?_
 refine tn<|sg<|Pl 2<|L0<|Oal #[.bool false] fun g28 w29 hg30 B31 hu32=>L0<|Ost B31 0 #[.bool false] fun w33 B34 hu35=>nt<|sq<|sg<|?_
 have U36:=ut0 hu19 hu24
 have U37:=u1 U36 hu27 (ni hu19.size hg22)
 have U38:=ut0 U37 hu32
 have U39:=u1 U38 hu35 (ni U37.size hg30)
 have r40:=ub U39 B13
 refine L0<|Olb r40 0<|Pl 2<|?_
 have U41:=ut0 hu14 hu19
 have U42:=ut0 U41 hu24
 have U43:=u1 U42 hu27 (ni U41.size hg22)
 have U44:=ut0 U43 hu32
 have U45:=u1 U44 hu35 (ni U43.size hg30)
 have r46:=ub U45 hm
 refine L0<|Olb r46 0<|Pl 1<|nt<|bk<|sg<|L0<|Olb B34 0<|Pl 9<|nt<|c0<|sq<|sq<|?_
 refine go<|Pl 3<|nt<|c0<|sg<|Pl 3<|nt<|c0<|go<|Pl 3<|L1<|Olb B34 0<|?_
 refine Pl 3<|nt<|c1<|sg<|Pl 2<|nt<|rt<|br<|tr<|rr (.func (.func 112) #[] #[.pointer (some ⟨g15,0,none⟩),.pointer (some ⟨g10,0,none⟩)])<|?_
 have U47:=u1 hu24 hu27 (nr hg22)
 have U48:=ut0 U47 hu32
 have U49:=u1 U48 hu35 (ni U47.size hg30)
 have r50:=ub U49 B18
 have ne51:=nb (CurAt.lt hC) hu14.size hg17
 have ne52:=nb (blk_lt hm) hu14.size hg17
 have ne53:=nb (CurAt.lt hC) lr hg12
 have ne54:=nb (blk_lt hm) lr hg12
 have r55:=CurAt.old hC U45
 exact ⟨_,_,rfl,by kernel_rfl,U45,rc3 (c:=23) ⟨by decide,by decide⟩ r55 r46 hne r50 (Ne.symm ne51) (Ne.symm ne52) r40 (Ne.symm ne53) (Ne.symm ne54)⟩
set_option maxRecDepth 100000 in
set_option maxHeartbeats 4000000 in
theorem rform_24_0 {g gm:Nat} {C:Cur} {w:World} (hC:CurAt w g C) (hm:w.heap[gm]? = some (.cells (mC 24) 31 (0,0))) (hne:g ≠ gm) : Calls Tryz.prog 86 #[.int .i64 0,.pointer (some ⟨gm,0,none⟩),.pointer (some ⟨g,0,none⟩)] w (PMkF (fun W=>PFormG g gm (raskqR 24 C).1 (raskqR 24 C).2 W) w):=by
 refine en 67 Tryz.func86 rfl<|sg<|L0<|Obx #[.pointer (some ⟨gm,0,none⟩)] fun g10 w11 hg12 B13 hu14=>L0<|Obx #[.pointer (some ⟨g,0,none⟩)] fun g15 w16 hg17 B18 hu19=>Pl 1<|ng<|Pl 1<|L0<|Oal #[.nilFunc] fun g20 w21 hg22 B23 hu24=>L0<|Ost B23 0 #[.func (.func 109) #[] #[.pointer (some ⟨g15,0,none⟩),.pointer (some ⟨g10,0,none⟩)]] fun w25 B26 hu27=>nl<|?_
 refine tn<|sg<|Pl 2<|L0<|Oal #[.bool false] fun g28 w29 hg30 B31 hu32=>L0<|Ost B31 0 #[.bool true] fun w33 B34 hu35=>nt<|sq<|sg<|?_
 have U36:=ut0 hu19 hu24
 have U37:=u1 U36 hu27 (ni hu19.size hg22)
 have U38:=ut0 U37 hu32
 have U39:=u1 U38 hu35 (ni U37.size hg30)
 have r40:=ub U39 B13
 refine L0<|Olb r40 0<|Pl 2<|?_
 have U41:=ut0 hu14 hu19
 have U42:=ut0 U41 hu24
 have U43:=u1 U42 hu27 (ni U41.size hg22)
 have U44:=ut0 U43 hu32
 have U45:=u1 U44 hu35 (ni U43.size hg30)
 have r46:=ub U45 hm
 refine L0<|Olb r46 0<|Pl 1<|nt<|bk<|sg<|L0<|Olb B34 0<|Pl 9<|nt<|c0<|sq<|sq<|?_
 refine go<|Pl 3<|nt<|c0<|sg<|Pl 3<|nt<|c0<|go<|Pl 7<|nl<|?_
 refine tn<|c0<|sg<|Pl 3<|nt<|c0<|sg<|Pl 3<|nt<|c0<|?_
 refine sg<|Pl 3<|nt<|c0<|sg<|Pl 3<|nt<|c0<|sg<|?_
 refine Pl 3<|L1<|Olb B34 0<|Pl 2<|nt<|c1<|sg<|Pl 2<|nt<|rt<|br<|tr<|?_
 refine rr (.func (.func 119) #[] #[.pointer (some ⟨g15,0,none⟩),.pointer (some ⟨g10,0,none⟩)])<|?_
 have U47:=u1 hu24 hu27 (nr hg22)
 have U48:=ut0 U47 hu32
 have U49:=u1 U48 hu35 (ni U47.size hg30)
 have r50:=ub U49 B18
 have ne51:=nb (CurAt.lt hC) hu14.size hg17
 have ne52:=nb (blk_lt hm) hu14.size hg17
 have ne53:=nb (CurAt.lt hC) lr hg12
 have ne54:=nb (blk_lt hm) lr hg12
 have r55:=CurAt.old hC U45
 exact ⟨_,_,rfl,by kernel_rfl,U45,rc8 (c:=24) ⟨by decide,by decide⟩ r55 r46 hne r50 (Ne.symm ne51) (Ne.symm ne52) r40 (Ne.symm ne53) (Ne.symm ne54)⟩
set_option maxRecDepth 100000 in
set_option maxHeartbeats 4000000 in
theorem rform_24_1 {g gm:Nat} {C:Cur} {w:World} (hC:CurAt w g C) (hm:w.heap[gm]? = some (.cells (mC 24) 31 (0,0))) (hne:g ≠ gm) : Calls Tryz.prog 86 #[.int .i64 1,.pointer (some ⟨gm,0,none⟩),.pointer (some ⟨g,0,none⟩)] w (PMkF (fun W=>PFormG g gm (rqR 24 C).1 (rqR 24 C).2 W) w):=by
 refine en 67 Tryz.func86 rfl<|sg<|L0<|Obx #[.pointer (some ⟨gm,0,none⟩)] fun g10 w11 hg12 B13 hu14=>L0<|Obx #[.pointer (some ⟨g,0,none⟩)] fun g15 w16 hg17 B18 hu19=>Pl 1<|ng<|Pl 1<|L0<|Oal #[.nilFunc] fun g20 w21 hg22 B23 hu24=>L0<|Ost B23 0 #[.func (.func 109) #[] #[.pointer (some ⟨g15,0,none⟩),.pointer (some ⟨g10,0,none⟩)]] fun w25 B26 hu27=>nl<|?_
 refine tn<|sg<|Pl 2<|L0<|Oal #[.bool false] fun g28 w29 hg30 B31 hu32=>L0<|Ost B31 0 #[.bool false] fun w33 B34 hu35=>nt<|sq<|sg<|?_
 have U36:=ut0 hu19 hu24
 have U37:=u1 U36 hu27 (ni hu19.size hg22)
 have U38:=ut0 U37 hu32
 have U39:=u1 U38 hu35 (ni U37.size hg30)
 have r40:=ub U39 B13
 refine L0<|Olb r40 0<|Pl 2<|?_
 have U41:=ut0 hu14 hu19
 have U42:=ut0 U41 hu24
 have U43:=u1 U42 hu27 (ni U41.size hg22)
 have U44:=ut0 U43 hu32
 have U45:=u1 U44 hu35 (ni U43.size hg30)
 have r46:=ub U45 hm
 refine L0<|Olb r46 0<|Pl 1<|nt<|bk<|sg<|L0<|Olb B34 0<|Pl 9<|nt<|c0<|sq<|sq<|?_
 refine go<|Pl 3<|nt<|c0<|sg<|Pl 3<|nt<|c0<|go<|Pl 7<|nl<|?_
 refine tn<|c0<|sg<|Pl 3<|nt<|c0<|sg<|Pl 3<|nt<|c0<|?_
 refine sg<|Pl 3<|nt<|c0<|sg<|Pl 3<|nt<|c0<|sg<|?_
 refine Pl 3<|L1<|Olb B34 0<|Pl 2<|nt<|c0<|sg<|Pl 3<|nt<|c1<|sg<|?_
 refine Pl 2<|nt<|rt<|br<|tr<|rr (.func (.func 120) #[] #[.pointer (some ⟨g15,0,none⟩),.pointer (some ⟨g10,0,none⟩)])<|?_
 have U47:=u1 hu24 hu27 (nr hg22)
 have U48:=ut0 U47 hu32
 have U49:=u1 U48 hu35 (ni U47.size hg30)
 have r50:=ub U49 B18
 have ne51:=nb (CurAt.lt hC) hu14.size hg17
 have ne52:=nb (blk_lt hm) hu14.size hg17
 have ne53:=nb (CurAt.lt hC) lr hg12
 have ne54:=nb (blk_lt hm) lr hg12
 have r55:=CurAt.old hC U45
 exact ⟨_,_,rfl,by kernel_rfl,U45,rc9 (c:=24) ⟨by decide,by decide⟩ r55 r46 hne r50 (Ne.symm ne51) (Ne.symm ne52) r40 (Ne.symm ne53) (Ne.symm ne54)⟩
set_option maxRecDepth 100000 in
set_option maxHeartbeats 4000000 in
theorem rform_no_0 {c:Int} {g gm:Nat} {C:Cur} {w:World} (hC:CurAt w g C) (hm:w.heap[gm]? = some (.cells (mC c) 31 (0,0))) (hne:g ≠ gm) (k3:(c == 3)=false) (k4:(c == 4)=false) (k6:(c == 6)=false) (k16:(c == 16)=false) (k22:(c == 22)=false) (k23:(c == 23)=false) (k24:(c == 24)=false) : Calls Tryz.prog 86 #[.int .i64 0,.pointer (some ⟨gm,0,none⟩),.pointer (some ⟨g,0,none⟩)] w (PVal .nilFunc w):=by
 refine en 67 Tryz.func86 rfl<|sg<|L0<|Obx #[.pointer (some ⟨gm,0,none⟩)] fun g10 w11 hg12 B13 hu14=>L0<|Obx #[.pointer (some ⟨g,0,none⟩)] fun g15 w16 hg17 B18 hu19=>Pl 1<|ng<|Pl 1<|L0<|Oal #[.nilFunc] fun g20 w21 hg22 B23 hu24=>L0<|Ost B23 0 #[.func (.func 109) #[] #[.pointer (some ⟨g15,0,none⟩),.pointer (some ⟨g10,0,none⟩)]] fun w25 B26 hu27=>nl<|?_
 refine tn<|sg<|Pl 2<|L0<|Oal #[.bool false] fun g28 w29 hg30 B31 hu32=>L0<|Ost B31 0 #[.bool true] fun w33 B34 hu35=>nt<|sq<|sg<|?_
 have U36:=ut0 hu19 hu24
 have U37:=u1 U36 hu27 (ni hu19.size hg22)
 have U38:=ut0 U37 hu32
 have U39:=u1 U38 hu35 (ni U37.size hg30)
 have r40:=ub U39 B13
 refine L0<|Olb r40 0<|Pl 2<|?_
 have U41:=ut0 hu14 hu19
 have U42:=ut0 U41 hu24
 have U43:=u1 U42 hu27 (ni U41.size hg22)
 have U44:=ut0 U43 hu32
 have U45:=u1 U44 hu35 (ni U43.size hg30)
 have r46:=ub U45 hm
 refine L0<|Olb r46 0<|Pl 1<|nt<|bk<|sg<|L0<|Olb B34 0<|Pl 4<|sy 22 k3<|Pl 5<|nt<|cf k4<|?_
 refine sq<|sg<|Pl 3<|nt<|cf k3<|sg<|Pl 3<|nt<|cf k4<|go<|?_
 refine Pl 3<|sy 35 k23<|Pl 4<|nt<|c0<|sg<|Pl 3<|nt<|cf k6<|sg<|?_
 refine Pl 3<|nt<|cf k16<|sg<|Pl 3<|nt<|cf k22<|sg<|Pl 3<|nl<|?_
 refine tn<|cf k23<|sg<|Pl 3<|sy 59 k24<|Pl 3<|nt<|c0<|sg<|Pl 3<|nl<|?_
 refine tn<|cf k24<|sk<|bn<|tn<|sg<|Pl 1<|nt<|rt<|rr (.nilFunc)<|?_
 exact ⟨rfl,U45⟩
set_option maxRecDepth 100000 in
set_option maxHeartbeats 4000000 in
theorem rform_no_1 {c:Int} {g gm:Nat} {C:Cur} {w:World} (hC:CurAt w g C) (hm:w.heap[gm]? = some (.cells (mC c) 31 (0,0))) (hne:g ≠ gm) (k3:(c == 3)=false) (k4:(c == 4)=false) (k6:(c == 6)=false) (k16:(c == 16)=false) (k22:(c == 22)=false) (k23:(c == 23)=false) (k24:(c == 24)=false) : Calls Tryz.prog 86 #[.int .i64 1,.pointer (some ⟨gm,0,none⟩),.pointer (some ⟨g,0,none⟩)] w (PVal .nilFunc w):=by
 refine en 67 Tryz.func86 rfl<|sg<|L0<|Obx #[.pointer (some ⟨gm,0,none⟩)] fun g10 w11 hg12 B13 hu14=>L0<|Obx #[.pointer (some ⟨g,0,none⟩)] fun g15 w16 hg17 B18 hu19=>Pl 1<|ng<|Pl 1<|L0<|Oal #[.nilFunc] fun g20 w21 hg22 B23 hu24=>L0<|Ost B23 0 #[.func (.func 109) #[] #[.pointer (some ⟨g15,0,none⟩),.pointer (some ⟨g10,0,none⟩)]] fun w25 B26 hu27=>nl<|?_
 refine tn<|sg<|Pl 2<|L0<|Oal #[.bool false] fun g28 w29 hg30 B31 hu32=>L0<|Ost B31 0 #[.bool false] fun w33 B34 hu35=>nt<|sq<|sg<|?_
 have U36:=ut0 hu19 hu24
 have U37:=u1 U36 hu27 (ni hu19.size hg22)
 have U38:=ut0 U37 hu32
 have U39:=u1 U38 hu35 (ni U37.size hg30)
 have r40:=ub U39 B13
 refine L0<|Olb r40 0<|Pl 2<|?_
 have U41:=ut0 hu14 hu19
 have U42:=ut0 U41 hu24
 have U43:=u1 U42 hu27 (ni U41.size hg22)
 have U44:=ut0 U43 hu32
 have U45:=u1 U44 hu35 (ni U43.size hg30)
 have r46:=ub U45 hm
 refine L0<|Olb r46 0<|Pl 1<|nt<|bk<|sg<|L0<|Olb B34 0<|Pl 9<|nt<|c0<|sq<|sq<|?_
 refine go<|Pl 3<|nt<|cf k3<|sg<|Pl 3<|nt<|cf k4<|go<|Pl 3<|sy 35 k23<|?_
 refine Pl 4<|nt<|c0<|sg<|Pl 3<|nt<|cf k6<|sg<|Pl 3<|nl<|?_
 refine tn<|cf k16<|sg<|Pl 3<|nt<|cf k22<|sg<|Pl 3<|nt<|cf k23<|?_
 refine sg<|Pl 3<|sy 59 k24<|Pl 3<|nt<|c0<|sg<|Pl 3<|nt<|cf k24<|?_
 refine sk<|bn<|tn<|sg<|Pl 1<|nt<|rt<|rr (.nilFunc)<|?_
 exact ⟨rfl,U45⟩
theorem rform_some {dir c:Int} {r:Cur × Msg} {g gm:Nat} {C:Cur} {w:World} (hC:CurAt w g C) (hm:w.heap[gm]? = some (.cells (mC c) 31 (0,0))) (hne:g ≠ gm) (hd:dir=0∨dir=1) (h:regsForm dir c C=some r) : Calls Tryz.prog 86 #[.int .i64 dir,.pointer (some ⟨gm,0,none⟩),.pointer (some ⟨g,0,none⟩)] w (PMkF (fun W=>PFormG g gm r.1 r.2 W) w):=by
  by_cases h3:c=3
  · subst h3
    rcases hd with rfl | rfl
    · obtain rfl:rasksR 125 3 C=r:=Option.some.inj h
      exact rform_3_0 hC hm hne
    · obtain rfl:rtoldR 3 C=r:=Option.some.inj h
      exact rform_3_1 hC hm hne
  by_cases h4:c=4
  · subst h4
    rcases hd with rfl | rfl
    · obtain rfl:rasksR 125 4 C=r:=Option.some.inj h
      exact rform_4_0 hC hm hne
    · obtain rfl:rtoldR 4 C=r:=Option.some.inj h
      exact rform_4_1 hC hm hne
  by_cases h6:c=6
  · subst h6
    rcases hd with rfl | rfl
    · obtain rfl:roneR 6 C=r:=Option.some.inj h
      exact rform_6_0 hC hm hne
    · obtain rfl:roneR 6 C=r:=Option.some.inj h
      exact rform_6_1 hC hm hne
  by_cases h16:c=16
  · subst h16
    rcases hd with rfl | rfl
    · obtain rfl:rmanyR 16 C=r:=Option.some.inj h
      exact rform_16_0 hC hm hne
    · obtain rfl:rasksR 123 16 C=r:=Option.some.inj h
      exact rform_16_1 hC hm hne
  by_cases h22:c=22
  · subst h22
    rcases hd with rfl | rfl
    · obtain rfl:rmaskR 22 C=r:=Option.some.inj h
      exact rform_22_0 hC hm hne
    · obtain rfl:rmaskR 22 C=r:=Option.some.inj h
      exact rform_22_1 hC hm hne
  by_cases h23:c=23
  · subst h23
    rcases hd with rfl | rfl
    · obtain rfl:rbothR 23 C=r:=Option.some.inj h
      exact rform_23_0 hC hm hne
    · obtain rfl:rtoldR 23 C=r:=Option.some.inj h
      exact rform_23_1 hC hm hne
  by_cases h24:c=24
  · subst h24
    rcases hd with rfl | rfl
    · obtain rfl:raskqR 24 C=r:=Option.some.inj h
      exact rform_24_0 hC hm hne
    · obtain rfl:rqR 24 C=r:=Option.some.inj h
      exact rform_24_1 hC hm hne
  exfalso
  unfold regsForm at h
  simp [h3,h4,h6,h16,h22,h23,h24] at h
theorem rform_none {dir c:Int} {g gm:Nat} {C:Cur} {w:World} (hC:CurAt w g C) (hm:w.heap[gm]? = some (.cells (mC c) 31 (0,0))) (hne:g ≠ gm) (hd:dir=0∨dir=1) (h:regsForm dir c C=none) : Calls Tryz.prog 86 #[.int .i64 dir,.pointer (some ⟨gm,0,none⟩),.pointer (some ⟨g,0,none⟩)] w (PVal .nilFunc w):=by
  have k3:(c == 3)=false:=by
    cases hk:(c == 3)
    · rfl
    · obtain rfl:c=3:=by simpa using hk
      rcases hd with rfl | rfl <;> cases h
  have k4:(c == 4)=false:=by
    cases hk:(c == 4)
    · rfl
    · obtain rfl:c=4:=by simpa using hk
      rcases hd with rfl | rfl <;> cases h
  have k6:(c == 6)=false:=by
    cases hk:(c == 6)
    · rfl
    · obtain rfl:c=6:=by simpa using hk
      rcases hd with rfl | rfl <;> cases h
  have k16:(c == 16)=false:=by
    cases hk:(c == 16)
    · rfl
    · obtain rfl:c=16:=by simpa using hk
      rcases hd with rfl | rfl <;> cases h
  have k22:(c == 22)=false:=by
    cases hk:(c == 22)
    · rfl
    · obtain rfl:c=22:=by simpa using hk
      rcases hd with rfl | rfl <;> cases h
  have k23:(c == 23)=false:=by
    cases hk:(c == 23)
    · rfl
    · obtain rfl:c=23:=by simpa using hk
      rcases hd with rfl | rfl <;> cases h
  have k24:(c == 24)=false:=by
    cases hk:(c == 24)
    · rfl
    · obtain rfl:c=24:=by simpa using hk
      rcases hd with rfl | rfl <;> cases h
  rcases hd with rfl | rfl
  · exact rform_no_0 hC hm hne k3 k4 k6 k16 k22 k23 k24
  · exact rform_no_1 hC hm hne k3 k4 k6 k16 k22 k23 k24
open Go.RowKit
set_option maxRecDepth 100000 in
set_option maxHeartbeats 4000000 in
theorem regs_parse_0 {m:Bool} {A:Option Addr} {cp:Nat} {b:List Int} {w:World} {c:Int} (hcode:B8 c) (hsl:RdB m w (.slice A b.length cp) b) (hb:b.length≤1048576) :
    Calls Tryz.prog 60 #[.int .i64 0,.int .u8 c,.slice A b.length cp] w (PMsg (parseOf regsForm 0 c b) w):=by
 obtain ⟨hcode1,hcode2⟩:=hcode
 have hln:(b.length:Int)≤1048576:=by omega
 refine en 40 Tryz.func60 rfl<|sg<|L0<|Oal mZ fun g10 w11 hg12 B13 hu14=>Pl 1<|nt<|sq<|sg<|Pl 6<|nt<|c0<|?_
 refine skn<|sg<|Pl 2<|L0<|Oal mZ fun g15 w16 hg17 B18 hu19=>L0<|Osw B18 (mC c) fun w20 B21 hu22=>ng<|Pl 1<|?_
 have U23:=ut0 hu14 hu19
 have U24:=u1 U23 hu22 (ni hu14.size hg17)
 have r25:=RdB.old hsl U24
 refine L0<|Oc<|e3 (new_any r25 (by omega)) fun g27 w26 hg28 hc29 hu30=>Pl 1<|ng<|Pl 2<|?_
 have U31:=ut0 U24 hu30
 refine wo (regsForm 0 c ⟨b,false,0⟩) (fun hr=>?_) (fun r hr=>?_)
 have r32:=ub hu30 B21
 have ne33:=nb (blk_lt B18) hu22.size hg28
 refine L0<|Oc<|m1 (rform_none (dir:=0) (c:=c) hc29 r32 (Ne.symm ne33) (Or.inl rfl) hr) fun w34 hu35=>Pl 1<|nt<|sq<|sg<|Pl 2<|nt<|c1<|sg<|Pl 1<|?_
 have U36:=u1 hu19 hu22 (nr hg17)
 have U37:=ut0 U36 hu30
 have U38:=ut0 U37 hu35
 have r39:=ub U38 B13
 refine L0<|Osw r39 mZ fun w40 B41 hu42=>Pl 1<|nt<|rt<|tr<|rct B41 (.int .i64 4)<|?_
 have U43:=ut0 U31 hu35
 have U44:=u1 U43 hu42 (nr hg12)
 have hs:parseOf regsForm 0 c b=(Msg.zero,4):=by
   unfold parseOf  
   (try simp only [bs,if_true,if_false,decide_true,decide_false,eq_self,true_or,or_true,or_false,false_or,if_true,if_false,i00,i01,i10,i11,reduceIte,hr])
   all_goals rfl
 rw [hs]
 exact bad_res U44
 have r45:=ub hu30 B21
 have ne46:=nb (blk_lt B18) hu22.size hg28
 refine L0<|Oc<|ee3 (rform_some (dir:=0) (c:=c) hc29 r45 (Ne.symm ne46) (Or.inl rfl) hr) fun F49 fr50 w47 hF51 hu48 hcall52=>Pl 1<|nt<|sq<|sg<|Pl 2<|nt<|c0<|skn<|sq<|?_
 refine go<|Pl 1<|L0<|Ocv (f:=F49) (args:=fr50) (hf:=hF51) #[] fr50<|m3 (hcall52) fun w53 hc54 hx59 hu58=>?_
 obtain ⟨cs55,hm56,hM57⟩:=hx59
 refine ng<|Pl 1<|L0<|Oc<|m2 (end_any hc54) fun w60 hc61 hu62=>nt<|sq<|sg<|Pl 1<|L0<|Oc<|mq (err_any hc61)<|?_
 have hl63:=CurAt.len hc61
 refine Pl 1<|ng<|Pl 2<|nt<|?_
 have U64:=ut0 U31 hu48
 have U65:=ut U64 hu58 (ac (ni U24.size hg28) (ac (ni hu14.size hg17) all0))
 have U66:=u1 U65 hu62 (ni U24.size hg28)
 refine cb ((r.1.endC.e != 0)) (fun q67=>?_) (fun q67=>?_)
 have q67p:=ne_of_bnei q67
 refine sg<|Pl 2<|?_
 have U68:=u1 hu19 hu22 (nr hg17)
 have U69:=ut0 U68 hu30
 have U70:=ut0 U69 hu48
 have U71:=ut U70 hu58 (ac (ni U68.size hg28) (ac (nr hg17) all0))
 have U72:=u1 U71 hu62 (ni U68.size hg28)
 have r73:=ub U72 B13
 refine L0<|Osw r73 mZ fun w74 B75 hu76=>Pl 1<|nt<|rt<|tr<|rct B75 (.int .i64 r.1.endC.e)<|?_
 have U77:=u1 U66 hu76 (nr hg12)
 have hs:parseOf regsForm 0 c b=finish r.2 r.1:=by
   unfold parseOf  
   (try simp only [q67,bs,if_true,if_false,decide_true,decide_false,eq_self,true_or,or_true,or_false,false_or,if_true,if_false,i00,i01,i10,i11,reduceIte,hr])
   all_goals rfl
 rw [hs]
 exact finish_bad q67p U77
 have q67p:=eq_of_bnei q67
 refine skn<|sg<|?_
 have r78:=ub1 hu62 ne46 hm56.1
 refine L0<|Olw (hz:=(by rw [hm56.2]; exact msg_size)) r78<|?_
 have U79:=u1 hu19 hu22 (nr hg17)
 have U80:=ut0 U79 hu30
 have U81:=ut0 U80 hu48
 have U82:=ut U81 hu58 (ac (ni U79.size hg28) (ac (nr hg17) all0))
 have U83:=u1 U82 hu62 (ni U79.size hg28)
 have r84:=ub U83 B13
 refine L0<|Osw (hz:=(by rw [hm56.2]; exact msg_size)) (hv:=hM57.size) (h1:=hM57.one) r84 (cs55) fun w85 B86 hu87=>Pl 1<|nt<|rt<|rctx 22 hm56.2 B86 (.int .i64 0)<|?_
 have U88:=u1 U66 hu87 (nr hg12)
 have hs:parseOf regsForm 0 c b=finish r.2 r.1:=by
   unfold parseOf  
   (try simp only [q67,bs,if_true,if_false,decide_true,decide_false,eq_self,true_or,or_true,or_false,false_or,if_true,if_false,i00,i01,i10,i11,reduceIte,hr])
   all_goals rfl
 rw [hs]
 have U89:=u1 (Upd.mono (S':=[g27,g10]) hu62 (ac im all0)) hu87 im
 have r90:=ub U82 B13
 have r91:=MsgRd.upd hM57 U89 (safe_cons (CurAt.safe hc54 _ (by decide)) (safe_cons (safe1 r90 (by decide)) safe0))
 exact finish_ok q67p r91 U88
set_option maxRecDepth 100000 in
set_option maxHeartbeats 4000000 in
theorem regs_parse_1 {m:Bool} {A:Option Addr} {cp:Nat} {b:List Int} {w:World} {c:Int} (hcode:B8 c) (hsl:RdB m w (.slice A b.length cp) b) (hb:b.length≤1048576) :
    Calls Tryz.prog 60 #[.int .i64 1,.int .u8 c,.slice A b.length cp] w (PMsg (parseOf regsForm 1 c b) w):=by
 obtain ⟨hcode1,hcode2⟩:=hcode
 have hln:(b.length:Int)≤1048576:=by omega
 refine en 40 Tryz.func60 rfl<|sg<|L0<|Oal mZ fun g10 w11 hg12 B13 hu14=>Pl 1<|nt<|sq<|sg<|Pl 6<|nt<|c0<|?_
 refine skn<|sg<|Pl 2<|L0<|Oal mZ fun g15 w16 hg17 B18 hu19=>L0<|Osw B18 (mC c) fun w20 B21 hu22=>ng<|Pl 1<|?_
 have U23:=ut0 hu14 hu19
 have U24:=u1 U23 hu22 (ni hu14.size hg17)
 have r25:=RdB.old hsl U24
 refine L0<|Oc<|e3 (new_any r25 (by omega)) fun g27 w26 hg28 hc29 hu30=>Pl 1<|ng<|Pl 2<|?_
 have U31:=ut0 U24 hu30
 refine wo (regsForm 1 c ⟨b,false,0⟩) (fun hr=>?_) (fun r hr=>?_)
 have r32:=ub hu30 B21
 have ne33:=nb (blk_lt B18) hu22.size hg28
 refine L0<|Oc<|m1 (rform_none (dir:=1) (c:=c) hc29 r32 (Ne.symm ne33) (Or.inr rfl) hr) fun w34 hu35=>Pl 1<|nt<|sq<|sg<|Pl 2<|nt<|c1<|sg<|Pl 1<|?_
 have U36:=u1 hu19 hu22 (nr hg17)
 have U37:=ut0 U36 hu30
 have U38:=ut0 U37 hu35
 have r39:=ub U38 B13
 refine L0<|Osw r39 mZ fun w40 B41 hu42=>Pl 1<|nt<|rt<|tr<|rct B41 (.int .i64 4)<|?_
 have U43:=ut0 U31 hu35
 have U44:=u1 U43 hu42 (nr hg12)
 have hs:parseOf regsForm 1 c b=(Msg.zero,4):=by
   unfold parseOf  
   (try simp only [bs,if_true,if_false,decide_true,decide_false,eq_self,true_or,or_true,or_false,false_or,if_true,if_false,i00,i01,i10,i11,reduceIte,hr])
   all_goals rfl
 rw [hs]
 exact bad_res U44
 have r45:=ub hu30 B21
 have ne46:=nb (blk_lt B18) hu22.size hg28
 refine L0<|Oc<|ee3 (rform_some (dir:=1) (c:=c) hc29 r45 (Ne.symm ne46) (Or.inr rfl) hr) fun F49 fr50 w47 hF51 hu48 hcall52=>Pl 1<|nt<|sq<|sg<|Pl 2<|nt<|c0<|skn<|sq<|?_
 refine go<|Pl 1<|L0<|Ocv (f:=F49) (args:=fr50) (hf:=hF51) #[] fr50<|m3 (hcall52) fun w53 hc54 hx59 hu58=>?_
 obtain ⟨cs55,hm56,hM57⟩:=hx59
 refine ng<|Pl 1<|L0<|Oc<|m2 (end_any hc54) fun w60 hc61 hu62=>nt<|sq<|sg<|Pl 1<|L0<|Oc<|mq (err_any hc61)<|?_
 have hl63:=CurAt.len hc61
 refine Pl 1<|ng<|Pl 2<|nt<|?_
 have U64:=ut0 U31 hu48
 have U65:=ut U64 hu58 (ac (ni U24.size hg28) (ac (ni hu14.size hg17) all0))
 have U66:=u1 U65 hu62 (ni U24.size hg28)
 refine cb ((r.1.endC.e != 0)) (fun q67=>?_) (fun q67=>?_)
 have q67p:=ne_of_bnei q67
 refine sg<|Pl 2<|?_
 have U68:=u1 hu19 hu22 (nr hg17)
 have U69:=ut0 U68 hu30
 have U70:=ut0 U69 hu48
 have U71:=ut U70 hu58 (ac (ni U68.size hg28) (ac (nr hg17) all0))
 have U72:=u1 U71 hu62 (ni U68.size hg28)
 have r73:=ub U72 B13
 refine L0<|Osw r73 mZ fun w74 B75 hu76=>Pl 1<|nt<|rt<|tr<|rct B75 (.int .i64 r.1.endC.e)<|?_
 have U77:=u1 U66 hu76 (nr hg12)
 have hs:parseOf regsForm 1 c b=finish r.2 r.1:=by
   unfold parseOf  
   (try simp only [q67,bs,if_true,if_false,decide_true,decide_false,eq_self,true_or,or_true,or_false,false_or,if_true,if_false,i00,i01,i10,i11,reduceIte,hr])
   all_goals rfl
 rw [hs]
 exact finish_bad q67p U77
 have q67p:=eq_of_bnei q67
 refine skn<|sg<|?_
 have r78:=ub1 hu62 ne46 hm56.1
 refine L0<|Olw (hz:=(by rw [hm56.2]; exact msg_size)) r78<|?_
 have U79:=u1 hu19 hu22 (nr hg17)
 have U80:=ut0 U79 hu30
 have U81:=ut0 U80 hu48
 have U82:=ut U81 hu58 (ac (ni U79.size hg28) (ac (nr hg17) all0))
 have U83:=u1 U82 hu62 (ni U79.size hg28)
 have r84:=ub U83 B13
 refine L0<|Osw (hz:=(by rw [hm56.2]; exact msg_size)) (hv:=hM57.size) (h1:=hM57.one) r84 (cs55) fun w85 B86 hu87=>Pl 1<|nt<|rt<|rctx 22 hm56.2 B86 (.int .i64 0)<|?_
 have U88:=u1 U66 hu87 (nr hg12)
 have hs:parseOf regsForm 1 c b=finish r.2 r.1:=by
   unfold parseOf  
   (try simp only [q67,bs,if_true,if_false,decide_true,decide_false,eq_self,true_or,or_true,or_false,false_or,if_true,if_false,i00,i01,i10,i11,reduceIte,hr])
   all_goals rfl
 rw [hs]
 have U89:=u1 (Upd.mono (S':=[g27,g10]) hu62 (ac im all0)) hu87 im
 have r90:=ub U82 B13
 have r91:=MsgRd.upd hM57 U89 (safe_cons (CurAt.safe hc54 _ (by decide)) (safe_cons (safe1 r90 (by decide)) safe0))
 exact finish_ok q67p r91 U88
set_option maxRecDepth 100000 in
set_option maxHeartbeats 4000000 in
theorem regs_parse_x {m:Bool} {A:Option Addr} {cp:Nat} {b:List Int} {w:World} {dir c:Int} (hcode:B8 c) (hsl:RdB m w (.slice A b.length cp) b) (hb:b.length≤1048576) (hd:¬ (dir=0∨dir=1)) :
    Calls Tryz.prog 60 #[.int .i64 dir,.int .u8 c,.slice A b.length cp] w (PMsg (parseOf regsForm dir c b) w):=by
 obtain ⟨hcode1,hcode2⟩:=hcode
 have hln:(b.length:Int)≤1048576:=by omega
 have e0:(dir != 0)=true:=by simp; omega
 have e1:(dir != 1)=true:=by simp; omega
 refine en 40 Tryz.func60 rfl<|sg<|L0<|Oal mZ fun g10 w11 hg12 B13 hu14=>Pl 1<|nt<|sq<|sg<|Pl 3<|sy 14 e0<|Pl 3<|nl<|?_
 refine tn<|ct e1<|sg<|Pl 1<|L0<|Osw B13 mZ fun w15 B16 hu17=>Pl 1<|nt<|rt<|tr<|rct B16 (.int .i64 1)<|?_
 have U18:=u1 hu14 hu17 (nr hg12)
 have hs:parseOf regsForm dir c b=(Msg.zero,1):=by
   unfold parseOf regsForm 
   (try simp only [e0,e1,bs,if_true,if_false,decide_true,decide_false,eq_self,true_or,or_true,or_false,false_or,if_true,if_false,i00,i01,i10,i11,reduceIte,hd])
   all_goals rfl
 rw [hs]
 exact bad_res U18
theorem regs_parse {m:Bool} {v:Value} {b:List Int} {w:World} {dir c:Int} (hc:B8 c) (h:RdB m w v b) (hb:b.length≤1048576) :
    Calls Tryz.prog 60 #[.int .i64 dir,.int .u8 c,v] w (PMsg (parseOf regsForm dir c b) w):=by
  obtain ⟨A,cp,rfl,_,_⟩:=h.shape
  by_cases h0:dir=0
  · subst h0; exact regs_parse_0 hc h hb
  by_cases h1:dir=1
  · subst h1; exact regs_parse_1 hc h hb
  exact regs_parse_x hc h hb (by omega)
open Go.RowKit
set_option maxRecDepth 100000 in
set_option maxHeartbeats 4000000 in
theorem span_any {most:Int} {g gm:Nat} {c:Int} {C:Cur} {w:World} (hcode:B8 c) (hC:CurAt w g C) (hm:w.heap[gm]? = some (.cells (mC c) 31 (0,0))) (hne:g ≠ gm) :
    Calls Tryz.prog 103 #[.agg #[.pointer (some ⟨g,0,none⟩),.pointer (some ⟨gm,0,none⟩)],.int .u16 most] w (PCells g gm (spanC C most) (mG c 0 C.wordV (C.wordsC 1).wordV 0 0 0 0 0 0 0 0 nS nS nS nS 0 0 0 0 0 nS) w):=by
 obtain ⟨hcode1,hcode2⟩:=hcode
 have hlen:=hC.len
 refine en 51 Tryz.func103 rfl<|sg<|L0<|Obx #[.pointer (some ⟨g,0,none⟩),.pointer (some ⟨gm,0,none⟩)] fun g10 w11 hg12 B13 hu14=>nt<|sq<|Rg 8 (fun w'=>w'.cell? ⟨g10,1,none⟩=some (.pointer (some ⟨gm,0,none⟩))∧w'.cell? ⟨g10,0,none⟩=some (.pointer (some ⟨g,0,none⟩))) fun w25 hu26=>?_
 have r28:=ub hu26 B13
 refine hld ⟨(blk_at r28 rfl),(blk_at r28 rfl)⟩ fun hS27=>Rt 0 hS27<|Rl 1 hS27 (fun _ hs=>hs.1)<|Rt 2 hS27<|Rl 3 hS27 (fun _ hs=>hs.2)<|?_
 have U29:=ut0 hu14 hu26
 have r30:=CurAt.old hC U29
 refine R0 4 rfl<|Oc<|m3 (word_any r30) fun w31 hc32 hu33 hr34=>?_
 have ne36:=nb (CurAt.lt hC) lr hg12
 have r37:=ub1 hu33 (Ne.symm ne36) r28
 refine hld ⟨(blk_at r37 rfl),(blk_at r37 rfl)⟩ fun hS35=>Rt 5 hS35<|Rt 6 hS35<|?_
 have U38:=u1 (Upd.mono (S':=[g]) U29 all0) hu33 im
 have r39:=ub1 U38 (Ne.symm hne) hm
 refine R0 7 rfl<|Ost r39 2 (mG c 0 C.wordV 0 0 0 0 0 0 0 0 0 nS nS nS nS 0 0 0 0 0 nS) fun w40 B41 hu42=>?_
 have ne44:=nb (blk_lt hm) lr hg12
 have r45:=ub1 hu42 (Ne.symm ne44) r37
 refine hld ⟨(blk_at r45 rfl),(blk_at r45 rfl)⟩ fun hS43=>re<|tn<|sq<|Rg 8 (fun w'=>w'.cell? ⟨g10,1,none⟩=some (.pointer (some ⟨gm,0,none⟩))∧w'.cell? ⟨g10,0,none⟩=some (.pointer (some ⟨g,0,none⟩))) fun w55 hu56=>?_
 have r58:=ub hu56 r45
 refine hld ⟨(blk_at r58 rfl),(blk_at r58 rfl)⟩ fun hS57=>Rt 0 hS57<|Rl 1 hS57 (fun _ hs=>hs.1)<|Rt 2 hS57<|Rl 3 hS57 (fun _ hs=>hs.2)<|?_
 have U59:=ut0 hu42 hu56
 have r60:=CurAt.upd hc32 U59 (not_cons hne not0) (safe_cons (safe1 r39 (by decide)) safe0)
 refine R0 4 rfl<|Oc<|m3 (word_any r60) fun w61 hc62 hu63 hr64=>?_
 have r66:=ub1 hu63 (Ne.symm ne36) r58
 refine hld ⟨(blk_at r66 rfl),(blk_at r66 rfl)⟩ fun hS65=>Rt 5 hS65<|Rt 6 hS65<|?_
 have U67:=u1 (Upd.mono (S':=[g]) hu56 all0) hu63 im
 have r68:=ub1 U67 (Ne.symm hne) B41
 refine R0 7 rfl<|Ost r68 3 (mG c 0 C.wordV ((C.wordsC 1).wordV) 0 0 0 0 0 0 0 0 nS nS nS nS 0 0 0 0 0 nS) fun w69 B70 hu71=>?_
 have r73:=ub1 hu71 (Ne.symm ne44) r66
 refine hld ⟨(blk_at r73 rfl),(blk_at r73 rfl)⟩ fun hS72=>re<|tn<|sq<|Rg 18 (fun w'=>w'.cell? ⟨g10,0,none⟩=some (.pointer (some ⟨g,0,none⟩))∧w'.cell? ⟨g10,1,none⟩=some (.pointer (some ⟨gm,0,none⟩))∧w'.cell? ⟨gm,3,none⟩=some (.int .u16 ((C.wordsC 1).wordV))) fun w87 hu88=>?_
 have r90:=ub hu88 r73
 have r91:=ub hu88 B70
 refine hld ⟨(blk_at r90 rfl),(blk_at r90 rfl),(blk_at r91 rfl)⟩ fun hS89=>Rt 0 hS89<|Rl 1 hS89 (fun _ hs=>hs.1)<|Rt 2 hS89<|Rl 3 hS89 (fun _ hs=>hs.2.1)<|Rt 4 hS89<|Rt 5 hS89<|Rl 6 hS89 (fun _ hs=>hs.2.2)<|Rt 7 hS89<|Rt 8 hS89<|?_
 have U92:=u1 (Upd.mono (S':=[g,gm]) U38 (ac im all0)) hu42 im
 have U93:=ut0 U92 hu56
 have U94:=u1 U93 hu63 im
 have U95:=u1 U94 hu71 im
 have U96:=ut0 U95 hu88
 refine bla 26 ((decide (1≤((C.wordsC 1).wordV)))) (fun q97=>?_) (fun q97=>?_)
 have q97p:=of_decide_eq_true q97
 refine Rt 9 hS89<|Rl 10 hS89 (fun _ hs=>hs.2.1)<|Rt 11 hS89<|Rt 12 hS89<|Rl 13 hS89 (fun _ hs=>hs.2.2)<|Rt 14 hS89<|Rt 15 hS89<|Rt 16 hS89<|?_
 have U98:=ut0 hu71 hu88
 have r99:=CurAt.upd hc62 U98 (not_cons hne not0) (safe_cons (safe1 r68 (by decide)) safe0)
 refine R0 17 rfl<|Oc<|m2 (need_any ((decide (((C.wordsC 1).wordV)≤most))) 5 r99) fun w100 hc101 hu102=>?_
 have r104:=ub1 hu102 (Ne.symm ne36) r90
 have r105:=ub1 hu102 (Ne.symm hne) r91
 refine hld ⟨(blk_at r104 rfl),(blk_at r104 rfl),(blk_at r105 rfl)⟩ fun hS103=>re<|tn<|Rg 15 (fun w'=>w'.cell? ⟨g10,0,none⟩=some (.pointer (some ⟨g,0,none⟩))∧w'.cell? ⟨g10,1,none⟩=some (.pointer (some ⟨gm,0,none⟩))∧w'.cell? ⟨gm,2,none⟩=some (.int .u16 C.wordV)∧w'.cell? ⟨gm,3,none⟩=some (.int .u16 ((C.wordsC 1).wordV))) fun w109 hu110=>?_
 have r112:=ub hu110 r104
 have r113:=ub hu110 r105
 refine hld ⟨(blk_at r112 rfl),(blk_at r112 rfl),(blk_at r113 rfl),(blk_at r113 rfl)⟩ fun hS111=>Rt 0 hS111<|Rl 1 hS111 (fun _ hs=>hs.1)<|Rt 2 hS111<|Rl 3 hS111 (fun _ hs=>hs.2.1)<|Rt 4 hS111<|Rt 5 hS111<|Rl 6 hS111 (fun _ hs=>hs.2.2.1)<|Rt 7 hS111<|Rl 8 hS111 (fun _ hs=>hs.2.1)<|Rt 9 hS111<|Rt 10 hS111<|Rl 11 hS111 (fun _ hs=>hs.2.2.2)<|Rr 12 hS111 (.int .i64 ((C.wordsC 1).wordV)) (fun _ _=>run_eqo (.int .i64 (IntKind.i64.wrap ((C.wordsC 1).wordV))) (by kernel_rfl) (congrArg (Value.int .i64) (i64_in (by omega))))<|?_
 refine R0 13 rfl<|Oc<|mq (within_any (a:=C.wordV) (n:=(C.wordsC 1).wordV) (by omega))<|hld ⟨(blk_at r112 rfl),(blk_at r112 rfl),(blk_at r113 rfl),(blk_at r113 rfl)⟩ fun hS114=>?_
 have r115:=CurAt.old hc101 hu110
 refine R0 14 rfl<|Oc<|m2 (need_any ((within C.wordV ((C.wordsC 1).wordV))) 7 r115) fun w116 hc117 hu118=>?_
 have r120:=ub1 hu118 (Ne.symm ne36) r112
 have r121:=ub1 hu118 (Ne.symm hne) r113
 refine hld ⟨(blk_at r120 rfl),(blk_at r120 rfl),(blk_at r121 rfl),(blk_at r121 rfl)⟩ fun hS119=>re<|rm (.tuple #[])<|?_
 have hs:spanC C most=((((C.wordsC 1).wordsC 1).need (decide (((C.wordsC 1).wordV)≤most)) 5).need (within C.wordV ((C.wordsC 1).wordV)) 7):=by
   unfold spanC spanC1
   (try simp only [q97,bs,if_true,if_false,decide_true,decide_false,reduceIte])
   all_goals rfl
 rw [hs]
 have U122:=u1 U96 hu102 im
 have U123:=ut0 U122 hu110
 have U124:=u1 U123 hu118 im
 exact ⟨rfl,hc117,r121,U124⟩
 have q97p:=of_decide_eq_false q97
 refine Ro 9 hS89<|Ro 10 hS89<|Ro 11 hS89<|Ro 12 hS89<|Ro 13 hS89<|Ro 14 hS89<|Ro 15 hS89<|Rt 16 hS89<|?_
 have U125:=ut0 hu71 hu88
 have r126:=CurAt.upd hc62 U125 (not_cons hne not0) (safe_cons (safe1 r68 (by decide)) safe0)
 refine R0 17 rfl<|Oc<|m2 (need_any (false) 5 r126) fun w127 hc128 hu129=>?_
 have r131:=ub1 hu129 (Ne.symm ne36) r90
 have r132:=ub1 hu129 (Ne.symm hne) r91
 refine hld ⟨(blk_at r131 rfl),(blk_at r131 rfl),(blk_at r132 rfl)⟩ fun hS130=>re<|tn<|Rg 15 (fun w'=>w'.cell? ⟨g10,0,none⟩=some (.pointer (some ⟨g,0,none⟩))∧w'.cell? ⟨g10,1,none⟩=some (.pointer (some ⟨gm,0,none⟩))∧w'.cell? ⟨gm,2,none⟩=some (.int .u16 C.wordV)∧w'.cell? ⟨gm,3,none⟩=some (.int .u16 ((C.wordsC 1).wordV))) fun w136 hu137=>?_
 have r139:=ub hu137 r131
 have r140:=ub hu137 r132
 refine hld ⟨(blk_at r139 rfl),(blk_at r139 rfl),(blk_at r140 rfl),(blk_at r140 rfl)⟩ fun hS138=>Rt 0 hS138<|Rl 1 hS138 (fun _ hs=>hs.1)<|Rt 2 hS138<|Rl 3 hS138 (fun _ hs=>hs.2.1)<|Rt 4 hS138<|Rt 5 hS138<|Rl 6 hS138 (fun _ hs=>hs.2.2.1)<|Rt 7 hS138<|Rl 8 hS138 (fun _ hs=>hs.2.1)<|Rt 9 hS138<|Rt 10 hS138<|Rl 11 hS138 (fun _ hs=>hs.2.2.2)<|Rr 12 hS138 (.int .i64 ((C.wordsC 1).wordV)) (fun _ _=>run_eqo (.int .i64 (IntKind.i64.wrap ((C.wordsC 1).wordV))) (by kernel_rfl) (congrArg (Value.int .i64) (i64_in (by omega))))<|?_
 refine R0 13 rfl<|Oc<|mq (within_any (a:=C.wordV) (n:=(C.wordsC 1).wordV) (by omega))<|hld ⟨(blk_at r139 rfl),(blk_at r139 rfl),(blk_at r140 rfl),(blk_at r140 rfl)⟩ fun hS141=>?_
 have r142:=CurAt.old hc128 hu137
 refine R0 14 rfl<|Oc<|m2 (need_any ((within C.wordV ((C.wordsC 1).wordV))) 7 r142) fun w143 hc144 hu145=>?_
 have r147:=ub1 hu145 (Ne.symm ne36) r139
 have r148:=ub1 hu145 (Ne.symm hne) r140
 refine hld ⟨(blk_at r147 rfl),(blk_at r147 rfl),(blk_at r148 rfl),(blk_at r148 rfl)⟩ fun hS146=>re<|rm (.tuple #[])<|?_
 have hs:spanC C most=((((C.wordsC 1).wordsC 1).need false 5).need (within C.wordV ((C.wordsC 1).wordV)) 7):=by
   unfold spanC spanC1
   (try simp only [q97,bs,if_true,if_false,decide_true,decide_false,reduceIte])
   all_goals rfl
 rw [hs]
 have U149:=u1 U96 hu129 im
 have U150:=ut0 U149 hu137
 have U151:=u1 U150 hu145 im
 exact ⟨rfl,hc144,r148,U151⟩
set_option maxRecDepth 100000 in
set_option maxHeartbeats 4000000 in
theorem asksRead_any {g gm:Nat} {c:Int} {C:Cur} {w:World} (hcode:B8 c) (hC:CurAt w g C) (hm:w.heap[gm]? = some (.cells (mC c) 31 (0,0))) (hne:g ≠ gm) :
    Calls Tryz.prog 78 #[.agg #[.pointer (some ⟨g,0,none⟩),.pointer (some ⟨gm,0,none⟩)]] w (PFormG g gm (asksR 2000 c C).1 (asksR 2000 c C).2 w):=by
 obtain ⟨hcode1,hcode2⟩:=hcode
 have hlen:=hC.len
 refine en 4 Tryz.func78 rfl<|sg<|L0<|Obx #[.pointer (some ⟨g,0,none⟩),.pointer (some ⟨gm,0,none⟩)] fun g10 w11 hg12 B13 hu14=>nt<|go<|L0<|Olw B13<|?_
 have r15:=CurAt.old hC hu14
 have r16:=ub hu14 hm
 refine L0<|Oc<|m3 (span_any (most:=2000) ⟨hcode1,hcode2⟩ r15 r16 hne) fun w17 hc18 B19 hu20=>?_
 have hr21:=(r15).wordV
 have hr22:=wordV_rng (wordsC_rng (r15).rng 1)
 refine nl<|rm (.tuple #[])<|?_
 have hs:asksR 2000 c C=((spanC C 2000),(Msg.mk c 0 C.wordV ((C.wordsC 1).wordV) 0 0 0 0 0 0 0 0 [] [] [] [] 0 0 0 0 0 [])):=by
   unfold asksR
   (try simp only [bs,if_true,if_false,decide_true,decide_false,reduceIte])
   all_goals rfl
 rw [hs]
 have U23:=ut (Upd.mono (S':=[g,gm]) hu14 all0) hu20 (ac im (ac im all0))
 exact ⟨rfl,hc18,⟨_,⟨B19,rfl⟩,⟨_,_,_,_,_,rfl,RdG.nil ..,RdG.nil ..,RdG.nil ..,RdG.nil ..,RdG.nil ..,⟨(b8 (x:=c) (by omega)),(b8 (x:=0) (by omega)),(b16 (x:=C.wordV) (by omega)),(b16 (x:=(C.wordsC 1).wordV) (by omega)),(b16 (x:=0) (by omega)),(b16 (x:=0) (by omega)),(b16 (x:=0) (by omega)),(b16 (x:=0) (by omega)),(b16 (x:=0) (by omega)),(b16 (x:=0) (by omega)),(b16 (x:=0) (by omega)),(b16 (x:=0) (by omega)),(b8 (x:=0) (by omega)),(b8 (x:=0) (by omega)),(b8 (x:=0) (by omega)),(b8 (x:=0) (by omega)),(b8 (x:=0) (by omega))⟩⟩⟩,U23⟩
set_option maxRecDepth 100000 in
set_option maxHeartbeats 4000000 in
theorem ctold_any {g gm:Nat} {c:Int} {C:Cur} {w:World} (hcode:B8 c) (hC:CurAt w g C) (hm:w.heap[gm]? = some (.cells (mC c) 31 (0,0))) (hne:g ≠ gm) :
    Calls Tryz.prog 79 #[.agg #[.pointer (some ⟨g,0,none⟩),.pointer (some ⟨gm,0,none⟩)]] w (PFormG g gm (ctoldR c C).1 (ctoldR c C).2 w):=by
 obtain ⟨hcode1,hcode2⟩:=hcode
 have hlen:=hC.len
 refine en 24 Tryz.func79 rfl<|sg<|L0<|Obx #[.pointer (some ⟨g,0,none⟩),.pointer (some ⟨gm,0,none⟩)] fun g10 w11 hg12 B13 hu14=>ng<|Pl 1<|L0<|Olb B13 0<|?_
 have r15:=CurAt.old hC hu14
 refine L0<|Oc<|m3 (byte_any r15) fun w16 hc17 hu18 hr19=>Pl 1<|ng<|Pl 1<|?_
 have ne20:=nb (CurAt.lt hC) lr hg12
 have r21:=ub1 hu18 (Ne.symm ne20) B13
 refine L0<|Olb r21 0<|Pl 3<|cu 3 [10] 13 (((decide (1≤C.byteV)) && (decide (C.byteV≤250)))) (fun K K23=>?_) ?_
 refine bl 10 ((decide (1≤C.byteV))) (fun q22=>?_) (fun q22=>?_)
 have q22p:=of_decide_eq_true q22
 exact Pl 3<|ce K23 (decide (C.byteV≤250)) (by rw [q22]; rfl)
 have q22p:=of_decide_eq_false q22
 exact Pl 3<|ce K23 false (by rw [q22]; rfl)
 refine L0<|Oc<|m2 (need_any (((decide (1≤C.byteV)) && (decide (C.byteV≤250)))) 5 hc17) fun w24 hc25 hu26=>nt<|Rg 10 (fun w'=>w'.cell? ⟨g10,1,none⟩=some (.pointer (some ⟨gm,0,none⟩))∧w'.cell? ⟨g10,0,none⟩=some (.pointer (some ⟨g,0,none⟩))) fun w45 hu46=>?_
 have U48:=ut0 hu26 hu46
 have r49:=ub1 U48 (Ne.symm ne20) r21
 refine hld ⟨(blk_at r49 rfl),(blk_at r49 rfl)⟩ fun hS47=>Rt 0 hS47<|Rl 1 hS47 (fun _ hs=>hs.1)<|Rt 2 hS47<|Rl 3 hS47 (fun _ hs=>hs.2)<|Rt 4 hS47<|Rr 5 hS47 (.int .i64 C.byteV) (fun _ _=>run_eqo (.int .i64 (IntKind.i64.wrap C.byteV)) (by kernel_rfl) (congrArg (Value.int .i64) (i64_in (by omega))))<|?_
 have r50:=CurAt.old hc25 hu46
 refine R0 6 rfl<|Oc<|sr3 (bytes_any (n:=C.byteV) r50) fun A57 cp58 w51 rd61 hl59 hm60 hc54 hu55=>?_
 have hlb56:=Nat.le_trans (Cur.bytesR_le ((C.bytesC 1).need ((decide (1≤C.byteV)) && (decide (C.byteV≤250))) 5) C.byteV) (CurAt.len r50)
 have r63:=ub1 hu55 (Ne.symm ne20) r49
 refine hld ⟨(blk_at r63 rfl),(blk_at r63 rfl)⟩ fun hS62=>Rt 7 hS62<|Rt 8 hS62<|?_
 have U64:=u1 (Upd.mono (S':=[g]) hu14 all0) hu18 im
 have U65:=u1 U64 hu26 im
 have U66:=ut0 U65 hu46
 have U67:=u1 U66 hu55 im
 have r68:=ub1 U67 (Ne.symm hne) hm
 refine R0 9 rfl<|Ost r68 14 (mG c 0 0 0 0 0 0 0 0 0 0 0 nS nS (.slice A57 ((((C.bytesC 1).need ((decide (1≤C.byteV)) && (decide (C.byteV≤250))) 5).bytesR C.byteV).length) cp58) nS 0 0 0 0 0 nS) fun w69 B70 hu71=>?_
 have ne73:=nb (blk_lt hm) lr hg12
 have r74:=ub1 hu71 (Ne.symm ne73) r63
 refine hld ⟨(blk_at r74 rfl),(blk_at r74 rfl)⟩ fun hS72=>re<|rm (.tuple #[])<|?_
 have r75:=RdB.upd' rd61 hu71 (safe_cons (safe1 r68 (by decide)) safe0)
 have hs:ctoldR c C=((((C.bytesC 1).need ((decide (1≤C.byteV)) && (decide (C.byteV≤250))) 5).bytesC C.byteV),(Msg.mk c 0 0 0 0 0 0 0 0 0 0 0 [] [] (((C.bytesC 1).need ((decide (1≤C.byteV)) && (decide (C.byteV≤250))) 5).bytesR C.byteV) [] 0 0 0 0 0 [])):=by
   unfold ctoldR toldC2
   (try simp only [bs,if_true,if_false,decide_true,decide_false,reduceIte])
   all_goals rfl
 rw [hs]
 have r76:=CurAt.upd hc54 hu71 (not_cons hne not0) (safe_cons (safe1 r68 (by decide)) safe0)
 have U77:=u1 (Upd.mono (S':=[g,gm]) U67 (ac im all0)) hu71 im
 exact ⟨rfl,r76,⟨_,⟨B70,rfl⟩,⟨_,_,_,_,_,rfl,RdG.nil ..,RdG.nil ..,r75,RdG.nil ..,RdG.nil ..,⟨(b8 (x:=c) (by omega)),(b8 (x:=0) (by omega)),(b16 (x:=0) (by omega)),(b16 (x:=0) (by omega)),(b16 (x:=0) (by omega)),(b16 (x:=0) (by omega)),(b16 (x:=0) (by omega)),(b16 (x:=0) (by omega)),(b16 (x:=0) (by omega)),(b16 (x:=0) (by omega)),(b16 (x:=0) (by omega)),(b16 (x:=0) (by omega)),(b8 (x:=0) (by omega)),(b8 (x:=0) (by omega)),(b8 (x:=0) (by omega)),(b8 (x:=0) (by omega)),(b8 (x:=0) (by omega))⟩⟩⟩,U77⟩
set_option maxRecDepth 100000 in
set_option maxHeartbeats 4000000 in
theorem csets_any {g gm:Nat} {c:Int} {C:Cur} {w:World} (hcode:B8 c) (hC:CurAt w g C) (hm:w.heap[gm]? = some (.cells (mC c) 31 (0,0))) (hne:g ≠ gm) :
    Calls Tryz.prog 80 #[.agg #[.pointer (some ⟨g,0,none⟩),.pointer (some ⟨gm,0,none⟩)]] w (PFormG g gm (csetsR c C).1 (csetsR c C).2 w):=by
 obtain ⟨hcode1,hcode2⟩:=hcode
 have hlen:=hC.len
 refine en 33 Tryz.func80 rfl<|sg<|L0<|Obx #[.pointer (some ⟨g,0,none⟩),.pointer (some ⟨gm,0,none⟩)] fun g10 w11 hg12 B13 hu14=>nt<|sq<|Rg 8 (fun w'=>w'.cell? ⟨g10,1,none⟩=some (.pointer (some ⟨gm,0,none⟩))∧w'.cell? ⟨g10,0,none⟩=some (.pointer (some ⟨g,0,none⟩))) fun w25 hu26=>?_
 have r28:=ub hu26 B13
 refine hld ⟨(blk_at r28 rfl),(blk_at r28 rfl)⟩ fun hS27=>Rt 0 hS27<|Rl 1 hS27 (fun _ hs=>hs.1)<|Rt 2 hS27<|Rl 3 hS27 (fun _ hs=>hs.2)<|?_
 have U29:=ut0 hu14 hu26
 have r30:=CurAt.old hC U29
 refine R0 4 rfl<|Oc<|m3 (word_any r30) fun w31 hc32 hu33 hr34=>?_
 have ne36:=nb (CurAt.lt hC) lr hg12
 have r37:=ub1 hu33 (Ne.symm ne36) r28
 refine hld ⟨(blk_at r37 rfl),(blk_at r37 rfl)⟩ fun hS35=>Rt 5 hS35<|Rt 6 hS35<|?_
 have U38:=u1 (Upd.mono (S':=[g]) U29 all0) hu33 im
 have r39:=ub1 U38 (Ne.symm hne) hm
 refine R0 7 rfl<|Ost r39 2 (mG c 0 C.wordV 0 0 0 0 0 0 0 0 0 nS nS nS nS 0 0 0 0 0 nS) fun w40 B41 hu42=>?_
 have ne44:=nb (blk_lt hm) lr hg12
 have r45:=ub1 hu42 (Ne.symm ne44) r37
 refine hld ⟨(blk_at r45 rfl),(blk_at r45 rfl)⟩ fun hS43=>re<|tn<|sq<|Rg 8 (fun w'=>w'.cell? ⟨g10,1,none⟩=some (.pointer (some ⟨gm,0,none⟩))∧w'.cell? ⟨g10,0,none⟩=some (.pointer (some ⟨g,0,none⟩))) fun w55 hu56=>?_
 have r58:=ub hu56 r45
 refine hld ⟨(blk_at r58 rfl),(blk_at r58 rfl)⟩ fun hS57=>Rt 0 hS57<|Rl 1 hS57 (fun _ hs=>hs.1)<|Rt 2 hS57<|Rl 3 hS57 (fun _ hs=>hs.2)<|?_
 have U59:=ut0 hu42 hu56
 have r60:=CurAt.upd hc32 U59 (not_cons hne not0) (safe_cons (safe1 r39 (by decide)) safe0)
 refine R0 4 rfl<|Oc<|m3 (word_any r60) fun w61 hc62 hu63 hr64=>?_
 have r66:=ub1 hu63 (Ne.symm ne36) r58
 refine hld ⟨(blk_at r66 rfl),(blk_at r66 rfl)⟩ fun hS65=>Rt 5 hS65<|Rt 6 hS65<|?_
 have U67:=u1 (Upd.mono (S':=[g]) hu56 all0) hu63 im
 have r68:=ub1 U67 (Ne.symm hne) B41
 refine R0 7 rfl<|Ost r68 4 (mG c 0 C.wordV 0 ((C.wordsC 1).wordV) 0 0 0 0 0 0 0 nS nS nS nS 0 0 0 0 0 nS) fun w69 B70 hu71=>?_
 have r73:=ub1 hu71 (Ne.symm ne44) r66
 refine hld ⟨(blk_at r73 rfl),(blk_at r73 rfl)⟩ fun hS72=>re<|tn<|Rg 17 (fun w'=>w'.cell? ⟨g10,0,none⟩=some (.pointer (some ⟨g,0,none⟩))∧w'.cell? ⟨g10,1,none⟩=some (.pointer (some ⟨gm,0,none⟩))∧w'.cell? ⟨gm,4,none⟩=some (.int .u16 ((C.wordsC 1).wordV))) fun w87 hu88=>?_
 have r90:=ub hu88 r73
 have r91:=ub hu88 B70
 refine hld ⟨(blk_at r90 rfl),(blk_at r90 rfl),(blk_at r91 rfl)⟩ fun hS89=>Rt 0 hS89<|Rl 1 hS89 (fun _ hs=>hs.1)<|Rt 2 hS89<|Rl 3 hS89 (fun _ hs=>hs.2.1)<|Rt 4 hS89<|Rt 5 hS89<|Rl 6 hS89 (fun _ hs=>hs.2.2)<|Rt 7 hS89<|Rt 8 hS89<|?_
 have U92:=u1 (Upd.mono (S':=[g,gm]) U38 (ac im all0)) hu42 im
 have U93:=ut0 U92 hu56
 have U94:=u1 U93 hu63 im
 have U95:=u1 U94 hu71 im
 have U96:=ut0 U95 hu88
 refine bla 24 ((((C.wordsC 1).wordV) == 0)) (fun q97=>?_) (fun q97=>?_)
 have q97p:=eq_of_beqi q97
 refine Ro 9 hS89<|Ro 10 hS89<|Ro 11 hS89<|Ro 12 hS89<|Ro 13 hS89<|Ro 14 hS89<|Rt 15 hS89<|?_
 have U98:=ut0 hu71 hu88
 have r99:=CurAt.upd hc62 U98 (not_cons hne not0) (safe_cons (safe1 r68 (by decide)) safe0)
 refine R0 16 rfl<|Oc<|m2 (need_any (true) 6 r99) fun w100 hc101 hu102=>?_
 have r104:=ub1 hu102 (Ne.symm ne36) r90
 have r105:=ub1 hu102 (Ne.symm hne) r91
 refine hld ⟨(blk_at r104 rfl),(blk_at r104 rfl),(blk_at r105 rfl)⟩ fun hS103=>re<|rm (.tuple #[])<|?_
 have hs:csetsR c C=((((C.wordsC 1).wordsC 1).need true 6),(Msg.mk c 0 C.wordV 0 ((C.wordsC 1).wordV) 0 0 0 0 0 0 0 [] [] [] [] 0 0 0 0 0 [])):=by
   unfold csetsR setsC
   (try simp only [q97,bs,if_true,if_false,decide_true,decide_false,reduceIte])
   all_goals rfl
 rw [hs]
 have U106:=u1 U96 hu102 im
 exact ⟨rfl,hc101,⟨_,⟨r105,rfl⟩,⟨_,_,_,_,_,rfl,RdG.nil ..,RdG.nil ..,RdG.nil ..,RdG.nil ..,RdG.nil ..,⟨(b8 (x:=c) (by omega)),(b8 (x:=0) (by omega)),(b16 (x:=C.wordV) (by omega)),(b16 (x:=0) (by omega)),(b16 (x:=(C.wordsC 1).wordV) (by omega)),(b16 (x:=0) (by omega)),(b16 (x:=0) (by omega)),(b16 (x:=0) (by omega)),(b16 (x:=0) (by omega)),(b16 (x:=0) (by omega)),(b16 (x:=0) (by omega)),(b16 (x:=0) (by omega)),(b8 (x:=0) (by omega)),(b8 (x:=0) (by omega)),(b8 (x:=0) (by omega)),(b8 (x:=0) (by omega)),(b8 (x:=0) (by omega))⟩⟩⟩,U106⟩
 have q97p:=ne_of_beqi q97
 refine Rt 9 hS89<|Rl 10 hS89 (fun _ hs=>hs.2.1)<|Rt 11 hS89<|Rt 12 hS89<|Rl 13 hS89 (fun _ hs=>hs.2.2)<|Rt 14 hS89<|Rt 15 hS89<|?_
 have U107:=ut0 hu71 hu88
 have r108:=CurAt.upd hc62 U107 (not_cons hne not0) (safe_cons (safe1 r68 (by decide)) safe0)
 refine R0 16 rfl<|Oc<|m2 (need_any ((((C.wordsC 1).wordV) == 65280)) 6 r108) fun w109 hc110 hu111=>?_
 have r113:=ub1 hu111 (Ne.symm ne36) r90
 have r114:=ub1 hu111 (Ne.symm hne) r91
 refine hld ⟨(blk_at r113 rfl),(blk_at r113 rfl),(blk_at r114 rfl)⟩ fun hS112=>re<|rm (.tuple #[])<|?_
 have hs:csetsR c C=((((C.wordsC 1).wordsC 1).need (((C.wordsC 1).wordV) == 65280) 6),(Msg.mk c 0 C.wordV 0 ((C.wordsC 1).wordV) 0 0 0 0 0 0 0 [] [] [] [] 0 0 0 0 0 [])):=by
   unfold csetsR setsC
   (try simp only [q97,bs,if_true,if_false,decide_true,decide_false,reduceIte])
   all_goals rfl
 rw [hs]
 have U115:=u1 U96 hu111 im
 exact ⟨rfl,hc110,⟨_,⟨r114,rfl⟩,⟨_,_,_,_,_,rfl,RdG.nil ..,RdG.nil ..,RdG.nil ..,RdG.nil ..,RdG.nil ..,⟨(b8 (x:=c) (by omega)),(b8 (x:=0) (by omega)),(b16 (x:=C.wordV) (by omega)),(b16 (x:=0) (by omega)),(b16 (x:=(C.wordsC 1).wordV) (by omega)),(b16 (x:=0) (by omega)),(b16 (x:=0) (by omega)),(b16 (x:=0) (by omega)),(b16 (x:=0) (by omega)),(b16 (x:=0) (by omega)),(b16 (x:=0) (by omega)),(b16 (x:=0) (by omega)),(b8 (x:=0) (by omega)),(b8 (x:=0) (by omega)),(b8 (x:=0) (by omega)),(b8 (x:=0) (by omega)),(b8 (x:=0) (by omega))⟩⟩⟩,U115⟩
set_option maxRecDepth 100000 in
set_option maxHeartbeats 4000000 in
theorem done_any {g gm:Nat} {c:Int} {C:Cur} {w:World} (hcode:B8 c) (hC:CurAt w g C) (hm:w.heap[gm]? = some (.cells (mC c) 31 (0,0))) (hne:g ≠ gm) :
    Calls Tryz.prog 82 #[.agg #[.pointer (some ⟨g,0,none⟩),.pointer (some ⟨gm,0,none⟩)]] w (PFormG g gm (asksR 1968 c C).1 (asksR 1968 c C).2 w):=by
 obtain ⟨hcode1,hcode2⟩:=hcode
 have hlen:=hC.len
 refine en 4 Tryz.func82 rfl<|sg<|L0<|Obx #[.pointer (some ⟨g,0,none⟩),.pointer (some ⟨gm,0,none⟩)] fun g10 w11 hg12 B13 hu14=>nt<|go<|L0<|Olw B13<|?_
 have r15:=CurAt.old hC hu14
 have r16:=ub hu14 hm
 refine L0<|Oc<|m3 (span_any (most:=1968) ⟨hcode1,hcode2⟩ r15 r16 hne) fun w17 hc18 B19 hu20=>?_
 have hr21:=(r15).wordV
 have hr22:=wordV_rng (wordsC_rng (r15).rng 1)
 refine nl<|rm (.tuple #[])<|?_
 have hs:asksR 1968 c C=((spanC C 1968),(Msg.mk c 0 C.wordV ((C.wordsC 1).wordV) 0 0 0 0 0 0 0 0 [] [] [] [] 0 0 0 0 0 [])):=by
   unfold asksR
   (try simp only [bs,if_true,if_false,decide_true,decide_false,reduceIte])
   all_goals rfl
 rw [hs]
 have U23:=ut (Upd.mono (S':=[g,gm]) hu14 all0) hu20 (ac im (ac im all0))
 exact ⟨rfl,hc18,⟨_,⟨B19,rfl⟩,⟨_,_,_,_,_,rfl,RdG.nil ..,RdG.nil ..,RdG.nil ..,RdG.nil ..,RdG.nil ..,⟨(b8 (x:=c) (by omega)),(b8 (x:=0) (by omega)),(b16 (x:=C.wordV) (by omega)),(b16 (x:=(C.wordsC 1).wordV) (by omega)),(b16 (x:=0) (by omega)),(b16 (x:=0) (by omega)),(b16 (x:=0) (by omega)),(b16 (x:=0) (by omega)),(b16 (x:=0) (by omega)),(b16 (x:=0) (by omega)),(b16 (x:=0) (by omega)),(b16 (x:=0) (by omega)),(b8 (x:=0) (by omega)),(b8 (x:=0) (by omega)),(b8 (x:=0) (by omega)),(b8 (x:=0) (by omega)),(b8 (x:=0) (by omega))⟩⟩⟩,U23⟩
set_option maxRecDepth 100000 in
set_option maxHeartbeats 4000000 in
theorem doneC_any {g gm:Nat} {c:Int} {C:Cur} {w:World} (hcode:B8 c) (hC:CurAt w g C) (hm:w.heap[gm]? = some (.cells (mC c) 31 (0,0))) (hne:g ≠ gm) :
    Calls Tryz.prog 82 #[.agg #[.pointer (some ⟨g,0,none⟩),.pointer (some ⟨gm,0,none⟩)]] w (PCells g gm (spanC C 1968) (mG c 0 C.wordV (C.wordsC 1).wordV 0 0 0 0 0 0 0 0 nS nS nS nS 0 0 0 0 0 nS) w):=by
 obtain ⟨hcode1,hcode2⟩:=hcode
 have hlen:=hC.len
 refine en 4 Tryz.func82 rfl<|sg<|L0<|Obx #[.pointer (some ⟨g,0,none⟩),.pointer (some ⟨gm,0,none⟩)] fun g10 w11 hg12 B13 hu14=>nt<|go<|L0<|Olw B13<|?_
 have r15:=CurAt.old hC hu14
 have r16:=ub hu14 hm
 refine L0<|Oc<|m3 (span_any (most:=1968) ⟨hcode1,hcode2⟩ r15 r16 hne) fun w17 hc18 B19 hu20=>?_
 have hr21:=(r15).wordV
 have hr22:=wordV_rng (wordsC_rng (r15).rng 1)
 refine nl<|rm (.tuple #[])<|?_
 have hs:spanC C 1968=(spanC C 1968):=by
   unfold spanC spanC1
   (try simp only [bs,if_true,if_false,decide_true,decide_false,reduceIte])
   all_goals rfl
 rw [hs]
 have U23:=ut (Upd.mono (S':=[g,gm]) hu14 all0) hu20 (ac im (ac im all0))
 exact ⟨rfl,hc18,B19,U23⟩
set_option maxRecDepth 100000 in
set_option maxHeartbeats 4000000 in
theorem csm_any {g gm:Nat} {c:Int} {C:Cur} {w:World} (hcode:B8 c) (hC:CurAt w g C) (hm:w.heap[gm]? = some (.cells (mC c) 31 (0,0))) (hne:g ≠ gm) :
    Calls Tryz.prog 81 #[.agg #[.pointer (some ⟨g,0,none⟩),.pointer (some ⟨gm,0,none⟩)]] w (PFormG g gm (csmR c C).1 (csmR c C).2 w):=by
 obtain ⟨hcode1,hcode2⟩:=hcode
 have hlen:=hC.len
 refine en 46 Tryz.func81 rfl<|sg<|L0<|Obx #[.pointer (some ⟨g,0,none⟩),.pointer (some ⟨gm,0,none⟩)] fun g10 w11 hg12 B13 hu14=>ng<|L0<|Olw B13<|?_
 have r15:=CurAt.old hC hu14
 have r16:=ub hu14 hm
 refine L0<|Oc<|m3 (doneC_any ⟨hcode1,hcode2⟩ r15 r16 hne) fun w17 hc18 B19 hu20=>?_
 have hr21:=(r15).wordV
 have hr22:=wordV_rng (wordsC_rng (r15).rng 1)
 refine ng<|Pl 1<|?_
 have ne23:=nb (blk_lt hm) lr hg12
 have ne24:=nb (CurAt.lt hC) lr hg12
 have r25:=Upd.blk hu20 (not_cons (Ne.symm ne24) (not_cons (Ne.symm ne23) not0)) B13
 refine L0<|Olb r25 0<|L0<|Oc<|m3 (byte_any hc18) fun w26 hc27 hu28 hr29=>L0<|Oi ((spanC C 1968).byteV)<|Pl 1<|nt<|sq<|Rg 12 (fun w'=>w'.cell? ⟨g10,0,none⟩=some (.pointer (some ⟨g,0,none⟩))∧w'.cell? ⟨g10,1,none⟩=some (.pointer (some ⟨gm,0,none⟩))∧w'.cell? ⟨gm,3,none⟩=some (.int .u16 ((C.wordsC 1).wordV))) fun w33 hu34=>?_
 have U36:=ut0 hu28 hu34
 have r37:=ub1 U36 (Ne.symm ne24) r25
 have r38:=ub1 U36 (Ne.symm hne) B19
 refine hld ⟨(blk_at r37 rfl),(blk_at r37 rfl),(blk_at r38 rfl)⟩ fun hS35=>Rt 0 hS35<|Rl 1 hS35 (fun _ hs=>hs.1)<|Rt 2 hS35<|Rt 3 hS35<|Rl 4 hS35 (fun _ hs=>hs.2.1)<|Rt 5 hS35<|Rt 6 hS35<|Rl 7 hS35 (fun _ hs=>hs.2.2)<|Rr 8 hS35 (.int .i64 ((C.wordsC 1).wordV)) (fun _ _=>run_eqo (.int .i64 (IntKind.i64.wrap ((C.wordsC 1).wordV))) (by kernel_rfl) (congrArg (Value.int .i64) (i64_in (by omega))))<|R0 9 rfl<|Oc<|mq (many_any (n:=(C.wordsC 1).wordV) (by omega))<|hld ⟨(blk_at r37 rfl),(blk_at r37 rfl),(blk_at r38 rfl)⟩ fun hS39=>Rt 10 hS39<|?_
 have r40:=CurAt.old hc27 hu34
 refine R0 11 rfl<|Oc<|m2 (need_any ((((spanC C 1968).byteV) == (many ((C.wordsC 1).wordV)))) 5 r40) fun w41 hc42 hu43=>?_
 have r45:=ub1 hu43 (Ne.symm ne24) r37
 have r46:=ub1 hu43 (Ne.symm hne) r38
 refine hld ⟨(blk_at r45 rfl),(blk_at r45 rfl),(blk_at r46 rfl)⟩ fun hS44=>re<|tn<|sq<|Rg 16 (fun w'=>w'.cell? ⟨g10,0,none⟩=some (.pointer (some ⟨g,0,none⟩))∧w'.cell? ⟨g10,1,none⟩=some (.pointer (some ⟨gm,0,none⟩))∧w'.cell? ⟨gm,3,none⟩=some (.int .u16 ((C.wordsC 1).wordV))) fun w67 hu68=>?_
 have r70:=ub hu68 r45
 have r71:=ub hu68 r46
 refine hld ⟨(blk_at r70 rfl),(blk_at r70 rfl),(blk_at r71 rfl)⟩ fun hS69=>Rt 0 hS69<|Rl 1 hS69 (fun _ hs=>hs.1)<|Rt 2 hS69<|Rt 4 hS69<|Rl 5 hS69 (fun _ hs=>hs.2.1)<|Rt 6 hS69<|Rt 7 hS69<|Rl 8 hS69 (fun _ hs=>hs.2.2)<|Rr 9 hS69 (.int .i64 ((C.wordsC 1).wordV)) (fun _ _=>run_eqo (.int .i64 (IntKind.i64.wrap ((C.wordsC 1).wordV))) (by kernel_rfl) (congrArg (Value.int .i64) (i64_in (by omega))))<|?_
 have r72:=CurAt.old hc42 hu68
 refine R0 3 rfl<|Oc<|sr3 (bytes_any (n:=(spanC C 1968).byteV) r72) fun A79 cp80 w73 rd83 hl81 hm82 hc76 hu77=>?_
 have hlb78:=Nat.le_trans (Cur.bytesR_le (((spanC C 1968).bytesC 1).need (((spanC C 1968).byteV) == (many ((C.wordsC 1).wordV))) 5) ((spanC C 1968).byteV)) (CurAt.len r72)
 have r85:=ub1 hu77 (Ne.symm ne24) r70
 have r86:=ub1 hu77 (Ne.symm hne) r71
 refine hld ⟨(blk_at r85 rfl),(blk_at r85 rfl),(blk_at r86 rfl)⟩ fun hS84=>R0 10 rfl<|Oc (args:=#[.slice A79 (((((spanC C 1968).bytesC 1).need (((spanC C 1968).byteV) == (many ((C.wordsC 1).wordV))) 5).bytesR ((spanC C 1968).byteV)).length) cp80,.int .i64 ((C.wordsC 1).wordV)])<|so2 (unpack_any rd83 (by omega) (by omega) (by omega)) fun A91 cp92 w87 rd95 hl93 hm94 hu90=>?_
 have r97:=ub hu90 r85
 have r98:=ub hu90 r86
 refine hld ⟨(blk_at r97 rfl),(blk_at r97 rfl),(blk_at r98 rfl)⟩ fun hS96=>Rt 11 hS96<|Rt 12 hS96<|Rt 13 hS96<|Rt 14 hS96<|Rt 15 hS96<|re<|tn<|sg<|Pl 1<|L0<|Olb r97 0<|Pl 1<|?_
 have r99:=CurAt.old hc76 hu90
 refine L0<|Oc<|m2 (need_any ((unpackB ((((spanC C 1968).bytesC 1).need (((spanC C 1968).byteV) == (many ((C.wordsC 1).wordV))) 5).bytesR ((spanC C 1968).byteV)) ((C.wordsC 1).wordV)).isSome) 6 r99) fun w100 hc101 hu102=>nt<|go<|Pl 1<|?_
 have r103:=ub1 hu102 (Ne.symm ne24) r97
 refine L0<|Olb r103 1<|Pl 3<|?_
 have r104:=ub1 hu102 (Ne.symm hne) r98
 refine L0<|Ost r104 13 (mG c 0 C.wordV ((C.wordsC 1).wordV) 0 0 0 0 0 0 0 0 nS (.slice A91 (((unpackB ((((spanC C 1968).bytesC 1).need (((spanC C 1968).byteV) == (many ((C.wordsC 1).wordV))) 5).bytesR ((spanC C 1968).byteV)) ((C.wordsC 1).wordV)).getD []).length) cp92) nS nS 0 0 0 0 0 nS) fun w105 B106 hu107=>nl<|rm (.tuple #[])<|?_
 have U108:=u1 (Upd.mono (S':=[g,gm]) hu102 (ac im all0)) hu107 im
 have r109:=own_stay rd95 U108 (fun x hx=>(not_cons (fun e=>(not_old (CurAt.lt hC) (le (le (le (le (le (le hu14.size hu20.size) hu28.size) hu34.size) hu43.size) hu68.size) hu77.size) rd95) (e ▸ hx)) (not_cons (fun e=>(not_old (blk_lt hm) (le (le (le (le (le (le hu14.size hu20.size) hu28.size) hu34.size) hu43.size) hu68.size) hu77.size) rd95) (e ▸ hx)) not0))) (fun _ _ h=>h)
 have hs:csmR c C=((((((spanC C 1968).bytesC 1).need (((spanC C 1968).byteV) == (many ((C.wordsC 1).wordV))) 5).bytesC ((spanC C 1968).byteV)).need ((unpackB ((((spanC C 1968).bytesC 1).need (((spanC C 1968).byteV) == (many ((C.wordsC 1).wordV))) 5).bytesR ((spanC C 1968).byteV)) ((C.wordsC 1).wordV)).isSome) 6),(Msg.mk c 0 C.wordV ((C.wordsC 1).wordV) 0 0 0 0 0 0 0 0 [] ((unpackB ((((spanC C 1968).bytesC 1).need (((spanC C 1968).byteV) == (many ((C.wordsC 1).wordV))) 5).bytesR ((spanC C 1968).byteV)) ((C.wordsC 1).wordV)).getD []) [] [] 0 0 0 0 0 [])):=by
   unfold csmR smC smU smC2 smK smN
   (try simp only [bs,if_true,if_false,decide_true,decide_false,reduceIte])
   all_goals rfl
 rw [hs]
 have r110:=CurAt.upd hc101 hu107 (not_cons hne not0) (safe_cons (safe1 r104 (by decide)) safe0)
 have U111:=ut (Upd.mono (S':=[g,gm]) hu14 all0) hu20 (ac im (ac im all0))
 have U112:=u1 U111 hu28 im
 have U113:=ut0 U112 hu34
 have U114:=u1 U113 hu43 im
 have U115:=ut0 U114 hu68
 have U116:=u1 U115 hu77 im
 have U117:=ut0 U116 hu90
 have U118:=u1 U117 hu102 im
 have U119:=u1 U118 hu107 im
 exact ⟨rfl,r110,⟨_,⟨B106,rfl⟩,⟨_,_,_,_,_,rfl,RdG.nil ..,(r109).rd,RdG.nil ..,RdG.nil ..,RdG.nil ..,⟨(b8 (x:=c) (by omega)),(b8 (x:=0) (by omega)),(b16 (x:=C.wordV) (by omega)),(b16 (x:=(C.wordsC 1).wordV) (by omega)),(b16 (x:=0) (by omega)),(b16 (x:=0) (by omega)),(b16 (x:=0) (by omega)),(b16 (x:=0) (by omega)),(b16 (x:=0) (by omega)),(b16 (x:=0) (by omega)),(b16 (x:=0) (by omega)),(b16 (x:=0) (by omega)),(b8 (x:=0) (by omega)),(b8 (x:=0) (by omega)),(b8 (x:=0) (by omega)),(b8 (x:=0) (by omega)),(b8 (x:=0) (by omega))⟩⟩⟩,U119⟩
end Go.Proofs.YtpglhicfhppaiaaGreat
