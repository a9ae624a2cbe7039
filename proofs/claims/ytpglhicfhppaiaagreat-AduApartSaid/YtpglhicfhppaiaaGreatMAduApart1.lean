/- The statement AduApart holds; no condition of its own. -/
import Derived.Test.YtpglhicfhppaiaaGreatKA1
import Derived.Test.YtpglhicfhppaiaaGreatKA2
import Derived.Test.YtpglhicfhppaiaaGreatKA3
import Derived.Test.YtpglhicfhppaiaaGreatKA4
import Derived.Test.YtpglhicfhppaiaaGreatKA5
import Derived.Test.YtpglhicfhppaiaaGreatKB1
import Derived.Test.YtpglhicfhppaiaaGreatKB2
import Derived.Test.YtpglhicfhppaiaaGreatRows
import Derived.WalkKit
import Derived.ProofKit
import Derived.OpenShut
import Derived.ShutString
import Derived.ChangeOld
import Derived.Below
set_option linter.unusedVariables false
set_option linter.unusedSimpArgs false
namespace Go.Proofs.YtpglhicfhppaiaaGreat
open Go.RowKit
set_option maxRecDepth 100000 in
set_option maxHeartbeats 4000000 in
theorem lawAduApart {w:World} {ans:Bool} {u t:Int} {M:Msg} {xM:SL} {mM:Bool} (hM:MsgRd mM w (mcl M xM).toList M) (hbu:0≤u∧u < 256) (hbt:0≤t∧t < 65536) :
    Calls Tryz.prog 4 #[.bool ans,.agg (fcl u t M xM)] w (PVal (.bool true) w):=by
 have hRM:=hM.rngs
 obtain ⟨hcM,hdM⟩:=hRM
 refine en 107 Tryz.func4 rfl<|sg<|L0<|Obx (fcl u t M xM) fun g10 w11 hg12 B13 hu14=>Pl 1<|ng<|L0<|Oc<|m1 (@awake18 _) fun w15 hu16=>Pl 1<|nt<|sq<|?_
 refine go<|Pl 1<|?_
 have r17:=ub hu16 B13
 refine L0<|Ola r17 2 22<|?_
 have U18:=ut0 hu14 hu16
 have r19:=MsgRd.old hM U18
 refine L0<|Oc<|m1 (few_any r19) fun w20 hu21=>Pl 1<|nt<|sq<|sg<|Pl 2<|nt<|?_
 have U22:=ut0 U18 hu21
 refine cb ((!(fewB M))) (fun q23=>?_) (fun q23=>?_)
 have q23n:(fewB M)=false:=by simpa using q23
 refine sg<|Pl 2<|nt<|rt<|tr<|rr (.bool true)<|?_
 exact ⟨rfl,U22⟩
 have q23n:(fewB M)=true:=by simpa using q23
 refine skn<|sg<|Pl 1<|nt<|sq<|sg<|Pl 1<|nt<|cb (ans) (fun q24=>?_) (fun q24=>?_)
 refine go<|Pl 1<|ng<|Pl 2<|?_
 have r25:=ub hu21 r17
 refine L0<|Ost r25 1 (fcl u 0 M xM) fun w26 B27 hu28=>ng<|Pl 1<|L0<|Olw B27<|?_
 have U29:=u1 (Upd.mono (S':=[g10]) hu21 all0) hu28 im
 have U30:=u1 U22 hu28 (nr hg12)
 have r31:=MsgRd.old hM U30
 refine wo (aduW 1 1 u 0 M) (fun hX33=>?_) (fun l32 hX33=>?_)
 refine L0<|Oc (args:=#[.int .i64 1,.int .i64 1,.agg (fcl u 0 M xM)])<|m1 (adu_write_n r31 (fewB_few q23n) (by omega) (by omega) hX33) fun w34 hu35=>Pl 5<|nt<|sq<|sg<|Pl 7<|nt<|c1<|sg<|Pl 6<|nl<|?_
 refine tn<|rt<|tr<|rr (.bool true)<|?_
 have U36:=ut0 U30 hu35
 exact ⟨rfl,U36⟩
 have hl37:=aduW_le (r31.rngs).1 hX33
 refine L0<|Oc (args:=#[.int .i64 1,.int .i64 1,.agg (fcl u 0 M xM)])<|e2 (adu_write_s r31 (fewB_few q23n) (by omega) (by omega) hX33) fun v39 w38 ho40 hu41=>?_
 obtain ⟨A42,cp43,rfl,rd45,hg46⟩:=NewB.shape ho40
 refine Pl 5<|nt<|sq<|sg<|Pl 7<|nt<|?_
 have U47:=ut0 U30 hu41
 refine cb ((decide (((l32.length:Nat) : Int) < 9))) (fun q48=>?_) (fun q48=>?_)
 have q48p:=of_decide_eq_true q48
 refine sg<|Pl 6<|nt<|rt<|tr<|rr (.bool false)<|?_
 have hs:false=true:=by have y:=ascW_le hcM hX33; omega
 rw [hs]
 exact ⟨rfl,U47⟩
 have q48p:=of_decide_eq_false q48
 refine skn<|sg<|Pl 2<|?_
 refine pr (aduP 2 1 l32) fun F55 E56 hX57=>?_
 refine L0<|Oc<|e2 (adu_parse_x hX57 rd45 (by omega)) fun x49 w50 hx58 hu54=>?_
 obtain ⟨hM51,hF52,hF53⟩:=hx58
 refine Pl 3<|L0<|Oal frmZ fun g59 w60 hg61 B62 hu63=>L0<|Osw B62 (fcl F55.unit F55.tid F55.msg x49) fun w64 B65 hu66=>Pl 1<|nt<|sq<|sg<|Pl 1<|nt<|bk<|?_
 have U67:=ut0 U47 hu54
 have U68:=ut0 U67 hu63
 have U69:=u1 U68 hu66 (ni U67.size hg61)
 have U70:=ut0 hu54 hu63
 have U71:=u1 U70 hu66 (ni hu54.size hg61)
 have r72:=RdB.upd' rd45 U71 safe0
 refine glp (fun x=>[(5,.bool true),(8,.slice A42 l32.length cp43),(11,.int .i64 E56),(12,.int .i64 ((x:Nat) : Int))]) (fun (x:Nat) w'=>Upd [] w w'∧w64.heap.size≤w'.heap.size∧RdB true w' (.slice A42 l32.length cp43) l32∧(1≤x)∧(x≤l32.length - 2)) (fun x=>l32.length - x) 1 ⟨U69,lr,r72,(by (try dsimp only); omega),(by (try dsimp only); omega)⟩ ?_
 rintro k w73 ⟨hu74,hz78,f75,p76,p77⟩
 refine wkc [(5,.bool true),(8,.slice A42 l32.length cp43),(11,.int .i64 E56),(12,.int .i64 ((k:Nat) : Int))] ?_
 have f79:RdB true w73 (.slice A42 l32.length cp43) l32:=f75
 have p80:1≤k:=p76
 have p81:k≤l32.length - 2:=p77
 refine sq<|sg<|Pl 3<|L0<|Oi (((l32.length:Nat) : Int) - 2)<|Pl 1<|nt<|?_
 have U82:=ut0 (Upd.refl [] _) hu74
 refine cb ((decide (((k:Nat) : Int) < (((l32.length:Nat) : Int) - 2)))) (fun q83=>?_) (fun q83=>?_)
 have q83p:=of_decide_eq_true q83
 refine skn<|sq<|bk<|sg<|Pl 2<|x23 (RdB.at_ f79 k (by omega)) fun b84 o85 hA86 hl87 hr88=>L0<|Oix l32.length k hA86 (by omega)<|L0<|Old (p:=⟨b84,o85 + k,none⟩) (v:=.int .u8 (l32.getD k 0)) hl87<|Pl 2<|bl 60 ((decide (48≤(l32.getD k 0)))) (fun q89=>?_) (fun q89=>?_)
 have q89p:=of_decide_eq_true q89
 refine Pl 2<|L1<|Oix l32.length k hA86 (by omega)<|L1<|Old (p:=⟨b84,o85 + k,none⟩) (v:=.int .u8 (l32.getD k 0)) hl87<|Pl 3<|bl 67 ((decide ((l32.getD k 0)≤57))) (fun q90=>?_) (fun q90=>?_)
 have q90p:=of_decide_eq_true q90
 refine Pl 14<|ng<|Pl 2<|nt<|c0<|sk<|bn<|tn<|go<|Pl 1<|L0<|Oi (((k:Nat) : Int) + 1)<|?_
 exact Pl 1<|nl<|lpe (k + 1) ⟨U82,hz78,f79,(by (try dsimp only); omega),(by (try dsimp only); omega)⟩ (by omega)
 have q90p:=of_decide_eq_false q90
 refine Pl 2<|L1<|Oix l32.length k hA86 (by omega)<|L1<|Old (p:=⟨b84,o85 + k,none⟩) (v:=.int .u8 (l32.getD k 0)) hl87<|Pl 2<|bl 73 ((decide (65≤(l32.getD k 0)))) (fun q91=>?_) (fun q91=>?_)
 have q91p:=of_decide_eq_true q91
 refine Pl 2<|L1<|Oix l32.length k hA86 (by omega)<|L1<|Old (p:=⟨b84,o85 + k,none⟩) (v:=.int .u8 (l32.getD k 0)) hl87<|Pl 4<|ng<|Pl 2<|nt<|cb ((!(decide ((l32.getD k 0)≤70)))) (fun q92=>?_) (fun q92=>?_)
 have q92n:(decide ((l32.getD k 0)≤70))=false:=by simpa using q92
 have q92np:=of_decide_eq_false q92n
 refine sg<|Pl 1<|nt<|rt<|br<|tr<|tr<|br<|tr<|rr (.bool false)<|?_
 have hs:false=true:=by obtain ⟨z1,z2,z3,z4⟩:=adu_apart (by decide) hbu hcM (fun l hz=>pduW_byts hM (fewB_few q23n) l hz) hX33; have q:=q92n; have z:=z1 k (by omega) (by omega); (try simp only [bs,q23,q23n,q24,q48,q83,q89,q90,q91,q92] at q); simp at q; omega
 rw [hs]
 exact ⟨rfl,U82⟩
 have q92n:(decide ((l32.getD k 0)≤70))=true:=by simpa using q92
 have q92np:=of_decide_eq_true q92n
 exact sk<|bn<|tn<|go<|Pl 1<|L0<|Oi (((k:Nat) : Int) + 1)<|Pl 1<|nl<|lpe (k + 1) ⟨U82,hz78,f79,(by (try dsimp only); omega),(by (try dsimp only); omega)⟩ (by omega)
 have q91p:=of_decide_eq_false q91
 refine Pl 8<|ng<|Pl 2<|nt<|c1<|sg<|Pl 1<|nt<|?_
 refine rt<|br<|tr<|tr<|br<|tr<|rr (.bool false)<|?_
 have hs:false=true:=by obtain ⟨z1,z2,z3,z4⟩:=adu_apart (by decide) hbu hcM (fun l hz=>pduW_byts hM (fewB_few q23n) l hz) hX33; have q:=q91; have z:=z1 k (by omega) (by omega); (try simp only [bs,q23,q23n,q24,q48,q83,q89,q90] at q); simp at q; omega
 rw [hs]
 exact ⟨rfl,U82⟩
 have q89p:=of_decide_eq_false q89
 refine Pl 9<|L1<|Oix l32.length k hA86 (by omega)<|L1<|Old (p:=⟨b84,o85 + k,none⟩) (v:=.int .u8 (l32.getD k 0)) hl87<|Pl 2<|bl 73 ((decide (65≤(l32.getD k 0)))) (fun q93=>?_) (fun q93=>?_)
 have q93p:=of_decide_eq_true q93
 refine Pl 2<|L1<|Oix l32.length k hA86 (by omega)<|L1<|Old (p:=⟨b84,o85 + k,none⟩) (v:=.int .u8 (l32.getD k 0)) hl87<|Pl 4<|ng<|Pl 2<|nt<|cb ((!(decide ((l32.getD k 0)≤70)))) (fun q94=>?_) (fun q94=>?_)
 have q94n:(decide ((l32.getD k 0)≤70))=false:=by simpa using q94
 have q94np:=of_decide_eq_false q94n
 refine sg<|Pl 1<|nt<|rt<|br<|tr<|tr<|br<|tr<|rr (.bool false)<|?_
 have hs:false=true:=by obtain ⟨z1,z2,z3,z4⟩:=adu_apart (by decide) hbu hcM (fun l hz=>pduW_byts hM (fewB_few q23n) l hz) hX33; have q:=q94n; have z:=z1 k (by omega) (by omega); (try simp only [bs,q23,q23n,q24,q48,q83,q89,q93,q94] at q); simp at q; omega
 rw [hs]
 exact ⟨rfl,U82⟩
 have q94n:(decide ((l32.getD k 0)≤70))=true:=by simpa using q94
 have q94np:=of_decide_eq_true q94n
 exact sk<|bn<|tn<|go<|Pl 1<|L0<|Oi (((k:Nat) : Int) + 1)<|Pl 1<|nl<|lpe (k + 1) ⟨U82,hz78,f79,(by (try dsimp only); omega),(by (try dsimp only); omega)⟩ (by omega)
 have q93p:=of_decide_eq_false q93
 refine Pl 8<|ng<|Pl 2<|nt<|c1<|sg<|Pl 1<|nt<|?_
 refine rt<|br<|tr<|tr<|br<|tr<|rr (.bool false)<|?_
 have hs:false=true:=by obtain ⟨z1,z2,z3,z4⟩:=adu_apart (by decide) hbu hcM (fun l hz=>pduW_byts hM (fewB_few q23n) l hz) hX33; have q:=q93; have z:=z1 k (by omega) (by omega); (try simp only [bs,q23,q23n,q24,q48,q83,q89] at q); simp at q; omega
 rw [hs]
 exact ⟨rfl,U82⟩
 have q83p:=of_decide_eq_false q83
 refine xt<|tx<|tx<|bx<|tn<|sg<|Pl 5<|cu 3 [87] 90 (((E56 == 13) || (E56 == 3))) (fun K K96=>?_) ?_
 refine bl 87 ((E56 == 13)) (fun q95=>?_) (fun q95=>?_)
 have q95p:=eq_of_beqi q95
 exact Pl 3<|ce K96 true (by rw [q95]; rfl)
 have q95p:=ne_of_beqi q95
 exact Pl 3<|ce K96 (E56 == 3) (by rw [q95]; rfl)
 refine Pl 2<|bl 92 (((E56 == 13) || (E56 == 3))) (fun q97=>?_) (fun q97=>?_)
 refine Pl 1<|x23 (RdB.at_ f79 0 (by omega)) fun b98 o99 hA100 hl101 hr102=>L1<|Oix l32.length 0 hA100 (by omega)<|L1<|Old (p:=⟨b98,o99 + 0,none⟩) (v:=.int .u8 (l32.getD 0 0)) hl101<|Pl 3<|bl 98 (((l32.getD 0 0) == 58)) (fun q103=>?_) (fun q103=>?_)
 have q103p:=eq_of_beqi q103
 refine Pl 3<|L1<|Oi (((l32.length:Nat) : Int) - 1)<|x23 (RdB.at_ f79 (((((l32.length:Nat) : Int) - 1)).toNat) (by omega)) fun b104 o105 hA106 hl107 hr108=>L1<|Oixj l32.length (((((l32.length:Nat) : Int) - 1)).toNat) (((l32.length:Nat) : Int) - 1) (by omega) hA106 (by omega)<|L1<|Old (p:=⟨b104,o105 + ((((l32.length:Nat) : Int) - 1)).toNat,none⟩) (v:=.int .u8 (l32.getD (((((l32.length:Nat) : Int) - 1)).toNat) 0)) hl107<|Pl 3<|nt<|rt<|rr (.bool ((l32.getD (((((l32.length:Nat) : Int) - 1)).toNat) 0) == 10))<|?_
 have hs:((l32.getD (((((l32.length:Nat) : Int) - 1)).toNat) 0) == 10)=true:=by obtain ⟨z1,z2,z3,z4⟩:=adu_apart (by decide) hbu hcM (fun l hz=>pduW_byts hM (fewB_few q23n) l hz) hX33; rw [show ((((l32.length:Nat) : Int) - 1)).toNat=l32.length - 1 from by omega,z3]; rfl
 rw [hs]
 exact ⟨rfl,U82⟩
 have q103p:=ne_of_beqi q103
 refine Pl 9<|nt<|rt<|rr (.bool false)<|?_
 have hs:false=true:=by obtain ⟨z1,z2,z3,z4⟩:=adu_apart (by decide) hbu hcM (fun l hz=>pduW_byts hM (fewB_few q23n) l hz) hX33; have q:=q103; rw [z2] at q; simp at q
 rw [hs]
 exact ⟨rfl,U82⟩
 have q97a:=(or_f q97).1
 have q97b:=(or_f q97).2
 have q97ap:=ne_of_beqi q97a
 have q97bp:=ne_of_beqi q97b
 refine Pl 15<|nt<|rt<|rr (.bool false)<|?_
 have hs:false=true:=by obtain ⟨z1,z2,z3,z4⟩:=adu_apart (by decide) hbu hcM (fun l hz=>pduW_byts hM (fewB_few q23n) l hz) hX33; have q:=q97; rcases z4 _ _ hX57 with z | z <;> rw [z] at q <;> simp at q
 rw [hs]
 exact ⟨rfl,U82⟩
 refine skn<|sg<|Pl 2<|?_
 have r109:=ub hu21 r17
 refine L0<|Ost r109 1 (fcl u 0 M xM) fun w110 B111 hu112=>ng<|Pl 1<|L0<|Olw B111<|?_
 have U113:=u1 (Upd.mono (S':=[g10]) hu21 all0) hu112 im
 have U114:=u1 U22 hu112 (nr hg12)
 have r115:=MsgRd.old hM U114
 refine wo (aduW 1 0 u 0 M) (fun hX117=>?_) (fun l116 hX117=>?_)
 refine L0<|Oc (args:=#[.int .i64 1,.int .i64 0,.agg (fcl u 0 M xM)])<|m1 (adu_write_n r115 (fewB_few q23n) (by omega) (by omega) hX117) fun w118 hu119=>Pl 5<|nt<|sq<|sg<|Pl 7<|nt<|c1<|sg<|Pl 6<|nl<|?_
 refine tn<|rt<|tr<|rr (.bool true)<|?_
 have U120:=ut0 U114 hu119
 exact ⟨rfl,U120⟩
 have hl121:=aduW_le (r115.rngs).1 hX117
 refine L0<|Oc (args:=#[.int .i64 1,.int .i64 0,.agg (fcl u 0 M xM)])<|e2 (adu_write_s r115 (fewB_few q23n) (by omega) (by omega) hX117) fun v123 w122 ho124 hu125=>?_
 obtain ⟨A126,cp127,rfl,rd129,hg130⟩:=NewB.shape ho124
 refine Pl 5<|nt<|sq<|sg<|Pl 7<|nt<|?_
 have U131:=ut0 U114 hu125
 refine cb ((decide (((l116.length:Nat) : Int) < 9))) (fun q132=>?_) (fun q132=>?_)
 have q132p:=of_decide_eq_true q132
 refine sg<|Pl 6<|nt<|rt<|tr<|rr (.bool false)<|?_
 have hs:false=true:=by have y:=ascW_le hcM hX117; omega
 rw [hs]
 exact ⟨rfl,U131⟩
 have q132p:=of_decide_eq_false q132
 refine skn<|sg<|Pl 2<|?_
 refine pr (aduP 2 0 l116) fun F139 E140 hX141=>?_
 refine L0<|Oc<|e2 (adu_parse_x hX141 rd129 (by omega)) fun x133 w134 hx142 hu138=>?_
 obtain ⟨hM135,hF136,hF137⟩:=hx142
 refine Pl 3<|L0<|Oal frmZ fun g143 w144 hg145 B146 hu147=>L0<|Osw B146 (fcl F139.unit F139.tid F139.msg x133) fun w148 B149 hu150=>Pl 1<|nt<|sq<|sg<|Pl 1<|nt<|bk<|?_
 have U151:=ut0 U131 hu138
 have U152:=ut0 U151 hu147
 have U153:=u1 U152 hu150 (ni U151.size hg145)
 have U154:=ut0 hu138 hu147
 have U155:=u1 U154 hu150 (ni hu138.size hg145)
 have r156:=RdB.upd' rd129 U155 safe0
 refine glp (fun x=>[(5,.bool true),(8,.slice A126 l116.length cp127),(11,.int .i64 E140),(12,.int .i64 ((x:Nat) : Int))]) (fun (x:Nat) w'=>Upd [] w w'∧w148.heap.size≤w'.heap.size∧RdB true w' (.slice A126 l116.length cp127) l116∧(1≤x)∧(x≤l116.length - 2)) (fun x=>l116.length - x) 1 ⟨U153,lr,r156,(by (try dsimp only); omega),(by (try dsimp only); omega)⟩ ?_
 rintro k w157 ⟨hu158,hz162,f159,p160,p161⟩
 refine wkc [(5,.bool true),(8,.slice A126 l116.length cp127),(11,.int .i64 E140),(12,.int .i64 ((k:Nat) : Int))] ?_
 have f163:RdB true w157 (.slice A126 l116.length cp127) l116:=f159
 have p164:1≤k:=p160
 have p165:k≤l116.length - 2:=p161
 refine sq<|sg<|Pl 3<|L0<|Oi (((l116.length:Nat) : Int) - 2)<|Pl 1<|nt<|?_
 have U166:=ut0 (Upd.refl [] _) hu158
 refine cb ((decide (((k:Nat) : Int) < (((l116.length:Nat) : Int) - 2)))) (fun q167=>?_) (fun q167=>?_)
 have q167p:=of_decide_eq_true q167
 refine skn<|sq<|bk<|sg<|Pl 2<|x23 (RdB.at_ f163 k (by omega)) fun b168 o169 hA170 hl171 hr172=>L0<|Oix l116.length k hA170 (by omega)<|L0<|Old (p:=⟨b168,o169 + k,none⟩) (v:=.int .u8 (l116.getD k 0)) hl171<|Pl 2<|bl 60 ((decide (48≤(l116.getD k 0)))) (fun q173=>?_) (fun q173=>?_)
 have q173p:=of_decide_eq_true q173
 refine Pl 2<|L1<|Oix l116.length k hA170 (by omega)<|L1<|Old (p:=⟨b168,o169 + k,none⟩) (v:=.int .u8 (l116.getD k 0)) hl171<|Pl 3<|bl 67 ((decide ((l116.getD k 0)≤57))) (fun q174=>?_) (fun q174=>?_)
 have q174p:=of_decide_eq_true q174
 refine Pl 14<|ng<|Pl 2<|nt<|c0<|sk<|bn<|tn<|go<|Pl 1<|L0<|Oi (((k:Nat) : Int) + 1)<|?_
 exact Pl 1<|nl<|lpe (k + 1) ⟨U166,hz162,f163,(by (try dsimp only); omega),(by (try dsimp only); omega)⟩ (by omega)
 have q174p:=of_decide_eq_false q174
 refine Pl 2<|L1<|Oix l116.length k hA170 (by omega)<|L1<|Old (p:=⟨b168,o169 + k,none⟩) (v:=.int .u8 (l116.getD k 0)) hl171<|Pl 2<|bl 73 ((decide (65≤(l116.getD k 0)))) (fun q175=>?_) (fun q175=>?_)
 have q175p:=of_decide_eq_true q175
 refine Pl 2<|L1<|Oix l116.length k hA170 (by omega)<|L1<|Old (p:=⟨b168,o169 + k,none⟩) (v:=.int .u8 (l116.getD k 0)) hl171<|Pl 4<|ng<|Pl 2<|nt<|cb ((!(decide ((l116.getD k 0)≤70)))) (fun q176=>?_) (fun q176=>?_)
 have q176n:(decide ((l116.getD k 0)≤70))=false:=by simpa using q176
 have q176np:=of_decide_eq_false q176n
 refine sg<|Pl 1<|nt<|rt<|br<|tr<|tr<|br<|tr<|rr (.bool false)<|?_
 have hs:false=true:=by obtain ⟨z1,z2,z3,z4⟩:=adu_apart (by decide) hbu hcM (fun l hz=>pduW_byts hM (fewB_few q23n) l hz) hX117; have q:=q176n; have z:=z1 k (by omega) (by omega); (try simp only [bs,q23,q23n,q24,q132,q167,q173,q174,q175,q176] at q); simp at q; omega
 rw [hs]
 exact ⟨rfl,U166⟩
 have q176n:(decide ((l116.getD k 0)≤70))=true:=by simpa using q176
 have q176np:=of_decide_eq_true q176n
 exact sk<|bn<|tn<|go<|Pl 1<|L0<|Oi (((k:Nat) : Int) + 1)<|Pl 1<|nl<|lpe (k + 1) ⟨U166,hz162,f163,(by (try dsimp only); omega),(by (try dsimp only); omega)⟩ (by omega)
 have q175p:=of_decide_eq_false q175
 refine Pl 8<|ng<|Pl 2<|nt<|c1<|sg<|Pl 1<|nt<|?_
 refine rt<|br<|tr<|tr<|br<|tr<|rr (.bool false)<|?_
 have hs:false=true:=by obtain ⟨z1,z2,z3,z4⟩:=adu_apart (by decide) hbu hcM (fun l hz=>pduW_byts hM (fewB_few q23n) l hz) hX117; have q:=q175; have z:=z1 k (by omega) (by omega); (try simp only [bs,q23,q23n,q24,q132,q167,q173,q174] at q); simp at q; omega
 rw [hs]
 exact ⟨rfl,U166⟩
 have q173p:=of_decide_eq_false q173
 refine Pl 9<|L1<|Oix l116.length k hA170 (by omega)<|L1<|Old (p:=⟨b168,o169 + k,none⟩) (v:=.int .u8 (l116.getD k 0)) hl171<|Pl 2<|bl 73 ((decide (65≤(l116.getD k 0)))) (fun q177=>?_) (fun q177=>?_)
 have q177p:=of_decide_eq_true q177
 refine Pl 2<|L1<|Oix l116.length k hA170 (by omega)<|L1<|Old (p:=⟨b168,o169 + k,none⟩) (v:=.int .u8 (l116.getD k 0)) hl171<|Pl 4<|ng<|Pl 2<|nt<|cb ((!(decide ((l116.getD k 0)≤70)))) (fun q178=>?_) (fun q178=>?_)
 have q178n:(decide ((l116.getD k 0)≤70))=false:=by simpa using q178
 have q178np:=of_decide_eq_false q178n
 refine sg<|Pl 1<|nt<|rt<|br<|tr<|tr<|br<|tr<|rr (.bool false)<|?_
 have hs:false=true:=by obtain ⟨z1,z2,z3,z4⟩:=adu_apart (by decide) hbu hcM (fun l hz=>pduW_byts hM (fewB_few q23n) l hz) hX117; have q:=q178n; have z:=z1 k (by omega) (by omega); (try simp only [bs,q23,q23n,q24,q132,q167,q173,q177,q178] at q); simp at q; omega
 rw [hs]
 exact ⟨rfl,U166⟩
 have q178n:(decide ((l116.getD k 0)≤70))=true:=by simpa using q178
 have q178np:=of_decide_eq_true q178n
 exact sk<|bn<|tn<|go<|Pl 1<|L0<|Oi (((k:Nat) : Int) + 1)<|Pl 1<|nl<|lpe (k + 1) ⟨U166,hz162,f163,(by (try dsimp only); omega),(by (try dsimp only); omega)⟩ (by omega)
 have q177p:=of_decide_eq_false q177
 refine Pl 8<|ng<|Pl 2<|nt<|c1<|sg<|Pl 1<|nt<|?_
 refine rt<|br<|tr<|tr<|br<|tr<|rr (.bool false)<|?_
 have hs:false=true:=by obtain ⟨z1,z2,z3,z4⟩:=adu_apart (by decide) hbu hcM (fun l hz=>pduW_byts hM (fewB_few q23n) l hz) hX117; have q:=q177; have z:=z1 k (by omega) (by omega); (try simp only [bs,q23,q23n,q24,q132,q167,q173] at q); simp at q; omega
 rw [hs]
 exact ⟨rfl,U166⟩
 have q167p:=of_decide_eq_false q167
 refine xt<|tx<|tx<|bx<|tn<|sg<|Pl 5<|cu 3 [87] 90 (((E140 == 13) || (E140 == 3))) (fun K K180=>?_) ?_
 refine bl 87 ((E140 == 13)) (fun q179=>?_) (fun q179=>?_)
 have q179p:=eq_of_beqi q179
 exact Pl 3<|ce K180 true (by rw [q179]; rfl)
 have q179p:=ne_of_beqi q179
 exact Pl 3<|ce K180 (E140 == 3) (by rw [q179]; rfl)
 refine Pl 2<|bl 92 (((E140 == 13) || (E140 == 3))) (fun q181=>?_) (fun q181=>?_)
 refine Pl 1<|x23 (RdB.at_ f163 0 (by omega)) fun b182 o183 hA184 hl185 hr186=>L1<|Oix l116.length 0 hA184 (by omega)<|L1<|Old (p:=⟨b182,o183 + 0,none⟩) (v:=.int .u8 (l116.getD 0 0)) hl185<|Pl 3<|bl 98 (((l116.getD 0 0) == 58)) (fun q187=>?_) (fun q187=>?_)
 have q187p:=eq_of_beqi q187
 refine Pl 3<|L1<|Oi (((l116.length:Nat) : Int) - 1)<|x23 (RdB.at_ f163 (((((l116.length:Nat) : Int) - 1)).toNat) (by omega)) fun b188 o189 hA190 hl191 hr192=>L1<|Oixj l116.length (((((l116.length:Nat) : Int) - 1)).toNat) (((l116.length:Nat) : Int) - 1) (by omega) hA190 (by omega)<|L1<|Old (p:=⟨b188,o189 + ((((l116.length:Nat) : Int) - 1)).toNat,none⟩) (v:=.int .u8 (l116.getD (((((l116.length:Nat) : Int) - 1)).toNat) 0)) hl191<|Pl 3<|nt<|rt<|rr (.bool ((l116.getD (((((l116.length:Nat) : Int) - 1)).toNat) 0) == 10))<|?_
 have hs:((l116.getD (((((l116.length:Nat) : Int) - 1)).toNat) 0) == 10)=true:=by obtain ⟨z1,z2,z3,z4⟩:=adu_apart (by decide) hbu hcM (fun l hz=>pduW_byts hM (fewB_few q23n) l hz) hX117; rw [show ((((l116.length:Nat) : Int) - 1)).toNat=l116.length - 1 from by omega,z3]; rfl
 rw [hs]
 exact ⟨rfl,U166⟩
 have q187p:=ne_of_beqi q187
 refine Pl 9<|nt<|rt<|rr (.bool false)<|?_
 have hs:false=true:=by obtain ⟨z1,z2,z3,z4⟩:=adu_apart (by decide) hbu hcM (fun l hz=>pduW_byts hM (fewB_few q23n) l hz) hX117; have q:=q187; rw [z2] at q; simp at q
 rw [hs]
 exact ⟨rfl,U166⟩
 have q181a:=(or_f q181).1
 have q181b:=(or_f q181).2
 have q181ap:=ne_of_beqi q181a
 have q181bp:=ne_of_beqi q181b
 refine Pl 15<|nt<|rt<|rr (.bool false)<|?_
 have hs:false=true:=by obtain ⟨z1,z2,z3,z4⟩:=adu_apart (by decide) hbu hcM (fun l hz=>pduW_byts hM (fewB_few q23n) l hz) hX117; have q:=q181; rcases z4 _ _ hX141 with z | z <;> rw [z] at q <;> simp at q
 rw [hs]
 exact ⟨rfl,U166⟩
end Go.Proofs.YtpglhicfhppaiaaGreat
namespace Go.Proofs.YtpglhicfhppaiaaGreat
open Go.ChangeShapes Go.WideShapes Go.ChangeAt Go.RowKit
theorem own:ownKnob Tryz.prog.godebug=none:=by kernel_rfl
theorem laidOut:laidOutB Tryz.prog=true:=by kernel_rfl
set_option maxRecDepth 100000 in
theorem lifted (os:Os) (started:os.Started) (H:Type) (enc:TypeId × Value→H) :
    ReturnsInHanded {} Tryz.checked os 4 .any (Rows.aduApartSpec.pre6 enc Tryz.prog Tryz.f4 Rows.aduApartRow.domain false) (Rows.aduApartSpec.post enc Tryz.prog Tryz.f4 false true false false):=by
  refine returnsInHanded_of_change (C:=Tryz.checked) own started (by kernel_rfl) Tryz.func4
    (ChangeSpec.witness6 (enc:=enc) (C:=Tryz.checked) false ⟨#[],#[.bool false,.agg #[.int .u8 0,.int .u16 0,.int .u8 0,.int .u8 0,.int .u16 0,.int .u16 0,.int .u16 0,.int .u16 0,.int .u16 0,.int .u16 0,.int .u16 0,.int .u16 0,.int .u16 0,.int .u16 0,.slice none 0 0,.slice none 0 0,.slice none 0 0,.slice none 0 0,.int .u8 0,.int .u8 0,.int .u8 0,.int .u8 0,.int .u8 0,.slice none 0 0]],[]⟩ 8 (by kernel_rfl) (by kernel_rfl) (by kernel_rfl) (by kernel_rfl)) ?_
  intro W base args ds gs before hval0 hW hcnd _
  have hval:∀ (j:Nat) t v,Tryz.f4.params[j]? = some t→args[j]? = some v→Value.okWide Tryz.prog W .any base t v:=hval0
  have hW':=hW
  obtain ⟨p,q,hA0,hV,rfl,hfz,hnd⟩:=hW
  have hA:DataW.TrodAll enc Tryz.prog W 0 (fun _=>true) true Tryz.f4.params.toList args.toList ds p:=hA0
  rw [Tryz.params4] at hA hval
  obtain ⟨v0,vs0,d0,ds0,p0,q0,hargs,rfl,rfl,h0,r0⟩:=trodAll_cons hA
  obtain ⟨v1,vs1,d1,ds1,p1,q1,rfl,rfl,rfl,h1,r1⟩:=trodAll_cons r0
  obtain ⟨rfl,rfl,rfl⟩:=trodAll_nil r1
  obtain rfl:args = #[v0,v1]:=by cases args; simp_all
  obtain ⟨rfl,rfl⟩:=trodVars_none hV
  obtain ⟨a0,rfl,rfl,rfl⟩:=open_bool Tryz.underlying4 (hval 0 4 v0 rfl rfl) h0
  have k1:=h1
  have lt1:∀ x∈p1,x.block < W.heap.size:=by obtain ⟨m,hm⟩:=k1; exact DataW.trod_lt m _ _ _ hm
  obtain ⟨u1,t1,M1,x1,rfl,R1,bu1,bt1⟩:=frm_arg ⟨_,hval 1 33 v1 rfl rfl⟩ h1
  clear hA0 hval0
  refine (lawAduApart (ans:=a0) R1 bu1 bt1).mono fun e W' ⟨he,hu⟩=>?_
  have bel:=upd_below hu
  subst he
  exact ⟨_,rfl,_,_,_,[],_,[],hW',trodAll_mk1 (shut_bool Tryz.underlying4 _),(trodAll_cons_mk (shut_bool Tryz.underlying4 _) (trodAll_cons_mk (Below.trod laidOut (by kernel_rfl) (of_decide_eq_true (by kernel_rfl)) k1 bel lt1) trodAll_mk0)),rfl,bel.frame _,fun h=>by cases h⟩
theorem over:Rows.aduApartRow.holds Tryz.pinned (OpenSpec.ofChange Rows.aduApartSpec) :=
  OpenClaim.holds_of_wide 4 Tryz.f4 rfl rfl rfl rfl rfl rfl rfl ⟨rfl,rfl,rfl,rfl,rfl⟩ rfl rfl rfl rfl rfl (by kernel_rfl) Tryz.func4 (by kernel_rfl)
    (of_decide_eq_true (by kernel_rfl)) (by unfold Func.isWrapper; first | (rw [if_pos (by decide +kernel)]; kernel_rfl) | (rw [if_neg (by decide +kernel)]; exact ⟨rfl,rfl⟩))
    (fun os started H enc _=>lifted os started H enc)
theorem proved:Rows.AduApartSaid:=over
#print axioms proved
end Go.Proofs.YtpglhicfhppaiaaGreat
