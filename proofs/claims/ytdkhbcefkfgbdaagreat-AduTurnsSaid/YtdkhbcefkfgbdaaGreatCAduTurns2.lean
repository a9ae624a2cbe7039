/- Contracts of functions, part CAduTurns2. -/
import Derived.Test.YtdkhbcefkfgbdaaGreatCAduTurns1
import Derived.Laws.BytesArg
import Derived.Stop.BytesEq
import Derived.Laws.BitsAllLaws
set_option linter.unusedVariables false
set_option linter.unusedSimpArgs false
set_option maxRecDepth 100000
set_option maxHeartbeats 4000000
namespace Go.Proofs.YtdkhbcefkfgbdaaGreat
open Go.RowKit
def cC (dir:Int)(M:aS) : List Int :=
  if M.code==5 then aN [M.addr,M.value]
  else if M.code==15&&dir==0 then ((aN [M.addr,M.count]++[((bP M.bits).length:Int)%256])++bP M.bits)
  else if dir==1&&M.code != 15 then [(M.data.length:Int)%256]++M.data
  else aN [M.addr,M.count]
variable {dir:Int}{m:Md}{w:World}
theorem xl{cs:Array Value}{M:aS}   (h:aH m w cs.toList M)(hf:bh M) : Calls Tryz.prog 147 #[vI dir,.agg cs] w (jP (cC dir M) w):=by
 refine fC h fun Aw kw Ab kb Ad kd Ar kr Ao ko e hw hbt hd hr ho _ _ _ _ _ _ _ _ _ _ q0 q1 q2 q3 q4 q5 q6 q7 q8 q9 ao ap ar av aw az aB=>?_
 subst e
 have hf1:=hf.words
 have hf2:=hf.bits
 have hf3:=hf.data
 have hf4:=hf.recs
 have hf5:=hf.objects
 refine en 62 Tryz.func147 rfl<|sg<|L0<|cY (mG M.code M.fail M.addr M.count M.value M.and_ M.or_ M.addr2 M.sub M.status M.events M.messages (.slice Aw M.words.length kw) (.slice Ab M.bits.length kb) (.slice Ad M.data.length kd) (.slice Ar M.recs.length kr) M.mei M.kind M.level M.more M.next (.slice Ao M.objects.length ko)) fun aF aG aK a b=>ah 1<|sq<|bk<|aq 1<|aC a 0<|Pl 2<|nl<|tn<|cb ((M.code==5)) (fun c=>?_) (fun c=>?_)
 have H:=ag c
 refine aq 1<|aC a 2<|Pl 1<|aC a 4<|L0<|cX (m:=2) (e:=37) #[vW M.addr,vW M.value] fun aM aO I J p=>?_
 have L:=eH I (xs:=[M.addr,M.value]) (by as_aux_lemma=>kernel_rfl) (al (by omega) (al (by omega) aP)) (by(try simp only[List.length_cons,List.length_nil]);omega) J
 refine ay<|dU (cR (xs:=[M.addr,M.value]) (L).rd (by(try simp only[List.length_cons,List.length_nil]);omega)) fun N O aQ P aR aT Q=>ah 1<|rt<|br<|tr<|rr (.slice N ((aN ([M.addr,M.value])).length) O)<|?_
 have hs:cC dir M=(aN ([M.addr,M.value])):=by
   unfold cC
   (try simp only[c,bi,reduceIte])
   all_goals first | rfl | (simp_all;done)
 rw[hs]
 exact⟨_,rfl,(aZ.weaken P (le b.size p.size)),(aJ b (aJ p Q))⟩
 have H:=ai c
 refine aq 1<|aC a 0<|Pl 2<|cu 3 [20] 23 (((M.code==15)&&(dir==0))) (fun K q=>?_) ?_
 refine bl 20 ((M.code==15)) (fun f=>?_) (fun f=>?_)
 have R:=ag f
 exact Pl 3<|ce q (dir==0) (by rw[f];rfl)
 have R:=ai f
 exact Pl 3<|ce q false (by rw[f];rfl)
 refine ah 1<|cb (((M.code==15)&&(dir==0))) (fun d=>?_) (fun d=>?_)
 have r:=(b7 d).1
 have s:=(b7 d).2
 have aW:=ag r
 have aX:=ag s
 refine aq 1<|aC a 13<|?_
 refine ay<|dU (xY (l:=M.bits) (jc.old hbt b) (by omega)) fun aY b0 b1 S b2 b3 j=>?_
 have b4:=zQ M.bits
 refine Pl 1<|aL 1<|?_
 have t:=ub j a
 refine aC t 2<|Pl 1<|aC t 3<|L0<|cX (m:=2) (e:=37) #[vW M.addr,vW M.count] fun b5 b6 T U k=>?_
 have V:=eH T (xs:=[M.addr,M.count]) (by as_aux_lemma=>kernel_rfl) (al (by omega) (al (by omega) aP)) (by(try simp only[List.length_cons,List.length_nil]);omega) U
 refine ay<|dU (cR (xs:=[M.addr,M.count]) (V).rd (by(try simp only[List.length_cons,List.length_nil]);omega)) fun W b8 b9 u ba bb v=>Pl 3<|L0<|cX (m:=1) (e:=5) #[vB (((bP M.bits).length:Int)%256)] fun bc bd X Y n=>?_
 have Z:=cD X (xs:=[(((bP M.bits).length:Int)%256)]) (by as_aux_lemma=>kernel_rfl) (al (by omega) aP) (by(try simp only[List.length_cons,List.length_nil]);omega) Y
 refine L0<|bK be (xs:=(aN ([M.addr,M.count]))) (ys:=([(((bP M.bits).length:Int)%256)])) (vB 0) 1 (au u n (fun x hx=>aE) (fun _ _ h=>h)) (Z).rd (by(try simp only[bM,ax]);omega) (le v.size n.size) fun bf bg bj y a0=>Pl 1<|?_
 have z:=ut v (ut (aI.mono (S':=(ob W++[])) n aD) a0 (am il aD)) (am (aU u lr) aD)
 have A:=aJ k z
 refine L0<|bK be (xs:=((aN ([M.addr,M.count]))++[(((bP M.bits).length:Int)%256)])) (ys:=(bP M.bits)) (vB 0) 1 y ((au S A (fun x hx=>aE) (fun _ _ h=>h))).rd (by(try simp only[bM,ax]);omega) z.size fun a1 a2 bm a3 a4=>ah 1<|rt<|br<|tr<|rr (.slice a1 ((((aN ([M.addr,M.count]))++[(((bP M.bits).length:Int)%256)])++(bP M.bits)).length) a2)<|?_
 have hs:cC dir M=(((aN ([M.addr,M.count]))++[(((bP M.bits).length:Int)%256)])++(bP M.bits)):=by
   unfold cC
   (try simp only[c,d,r,s,bi,reduceIte])
   all_goals first | rfl | (simp_all;done)
 rw[hs]
 exact⟨_,rfl,(aZ.weaken a3 (le (le b.size j.size) k.size)),(aJ b (aJ j (ut A a4 (am (aU y k.size) aD))))⟩
 refine aq 3<|cu 4 [43] 47 (((dir==1)&&(M.code != 15))) (fun K B=>?_) ?_
 refine bl 43 ((dir==1)) (fun g=>?_) (fun g=>?_)
 have a5:=ag g
 exact Pl 1<|L1<|dQ a 0<|Pl 2<|ce B (M.code != 15) (by rw[g];rfl)
 have a5:=ai g
 exact Pl 4<|ce B false (by rw[g];rfl)
 refine ah 1<|cb (((dir==1)&&(M.code != 15))) (fun i=>?_) (fun i=>?_)
 have C:=(b7 i).1
 have D:=(b7 i).2
 have bo:=ag C
 have bp:=aA D
 refine aq 1<|aC a 14<|Pl 2<|L0<|cX (m:=1) (e:=5) #[vB ((M.data.length:Int)%256)] fun bq bs a6 a7 o=>?_
 have E:=cD a6 (xs:=[((M.data.length:Int)%256)]) (by as_aux_lemma=>kernel_rfl) (al (by omega) aP) (by(try simp only[List.length_cons,List.length_nil]);omega) a7
 refine Pl 1<|?_
 refine aC (ub o a) 14<|?_
 have F:=aJ b o
 refine L0<|bK be (xs:=([((M.data.length:Int)%256)])) (ys:=M.data) (vB 0) 1 E (aV.old hd F) (by(try simp only[bM,ax]);omega) o.size fun a8 a9 bt aa ab=>ah 1<|rt<|br<|tr<|rr (.slice a8 (([((M.data.length:Int)%256)]++M.data).length) a9)<|?_
 have hs:cC dir M=([((M.data.length:Int)%256)]++M.data):=by
   unfold cC
   (try simp only[c,d,i,C,D,bi,reduceIte])
   all_goals first | rfl | (simp_all;done)
 rw[hs]
 exact⟨_,rfl,(aZ.weaken aa b.size),(ut F ab (am (aU E b.size) aD))⟩
 refine sk<|bn<|tn<|aq 1<|aC a 2<|Pl 1<|aC a 3<|L0<|cX (m:=2) (e:=37) #[vW M.addr,vW M.count] fun bu bv ac ad G=>?_
 have ae:=eH ac (xs:=[M.addr,M.count]) (by as_aux_lemma=>kernel_rfl) (al (by omega) (al (by omega) aP)) (by(try simp only[List.length_cons,List.length_nil]);omega) ad
 refine ay<|dU (cR (xs:=[M.addr,M.count]) (ae).rd (by(try simp only[List.length_cons,List.length_nil]);omega)) fun af aj bw ak bx bz an=>ah 1<|rt<|rr (.slice af ((aN ([M.addr,M.count])).length) aj)<|?_
 have hs:cC dir M=(aN ([M.addr,M.count])):=by
   unfold cC
   (try simp only[c,d,i,bi,reduceIte])
   all_goals first | rfl | (simp_all;done)
 rw[hs]
 exact⟨_,rfl,(aZ.weaken ak (le b.size G.size)),(aJ b (aJ G an))⟩
open Go.RowKit
def eg (x:Bool)(w:World)(e:Ending)(w':World) : Prop:=e = .returned (.bool x)∧aI [] w w'
variable {α:Type}
theorem pD[DecidableEq α]{xs ys:List α}{d:α}(h:xs.length=ys.length){k:Nat}(hk:k<xs.length)(hp:xs.take k=ys.take k)(hx:xs.getD k d=ys.getD k d) : xs.take (k+1)=ys.take (k+1):=by
  rw[List.take_add_one,List.take_add_one,hp]
  simp only[List.getD_eq_getElem?_getD,List.getElem?_eq_getElem hk,List.getElem?_eq_getElem (h▸hk),Option.getD_some] at hx
  simp[List.getElem?_eq_getElem hk,List.getElem?_eq_getElem (h▸hk),hx]
theorem vZ[DecidableEq α]{xs ys:List α}{d:α}(k:Nat)(hx:xs.getD k d≠ys.getD k d) : xs≠ys:=fun h=>hx (by rw[h])
variable {m':Md}{u v:Value}{xs:List Int}
theorem vi{ys:List Int}  (hx:eF m w u xs)(hy:eF m' w v ys) : Calls Tryz.prog 133 #[u,v] w (eg (decide (xs=ys)) w):=by
  have hhx:=hx
  have hhy:=hy
  obtain⟨A,c,rfl,hc1,hc2⟩:=hx.shape
  obtain⟨B,c',rfl,jd,jO⟩:=hy.shape
  have hn:xs.length≤9223372036854775807:=by have:=hc2;unfold maxLen at this;omega
  by_cases hl:xs.length=ys.length
  case neg =>
    have hno:∀ W,aI [] w W→eg (decide (xs=ys)) w (.returned (.bool false)) W:=by
      intro W hW
      rw[decide_eq_false (fun h=>hl (by rw[h]))]
      exact⟨rfl,hW⟩
    have hli:((xs.length:Int)!=(ys.length:Int))=true:=by simp;omega
    clear hx hy hhx hhy hl
    go_enter Tryz.func133,Tryz.ntmps133
    go_wp2
    go_ret
    exact hno _ (aI.refl _ _)
  have hno:∀ W k,xs.getD k 0≠ys.getD k 0→aI [] w W→eg (decide (xs=ys)) w (.returned (.bool false)) W:=by
    intro W k hk hW
    rw[decide_eq_false (vZ k hk)]
    exact⟨rfl,hW⟩
  have hyes:∀ W,xs.take xs.length=ys.take xs.length→aI [] w W→eg (decide (xs=ys)) w (.returned (.bool true)) W:=by
    intro W hk hW
    rw[List.take_length,hl,List.take_length] at hk
    rw[decide_eq_true hk]
    exact⟨rfl,hW⟩
  revert hno hyes
  generalize eg (decide (xs=ys)) w=P
  intro hno hyes
  have hli:((xs.length:Int)!=(ys.length:Int))=false:=by simp;omega
  have hL:=Lib.hid hl
  clear hx hy hl
  go_enter Tryz.func133,Tryz.ntmps133
  go_wp2
  go_loopw [13] (fun i wr=>∃ k:Nat,k≤xs.length∧i = .int .i64 (k:Int)∧xs.take k=ys.take k∧aI [] w wr) (fun i _=>xs.length-(intOf i).toNat)
  case atStart=>exact⟨0,by omega,rfl,by simp,aI.refl _ _⟩
  case round =>
    obtain⟨k,hk,rfl,hpre,hu⟩:=hrel
    by_cases hlt:k<xs.length
    · obtain⟨b,off,rfl,cw0,hr0⟩:=eF.at_ hhx k hlt
      obtain⟨b',off',rfl,cw1,hr1⟩:=eF.at_ hhy k (by have:=hL.out;omega)
      have hlt':k<ys.length:=by have:=hL.out;omega
      have hstep:=fun h=>pD (d:=0) hL.out hlt hpre h
      have hno':=fun W h=>hno W k h
      revert cw0 cw1 hstep hno' hr0 hr1
      generalize xs.getD k 0=x0
      generalize ys.getD k 0=y0
      intro cw0 hr0 cw1 hr1 hstep hno'
      have hc0:=hu.cell (by simp) cw0
      have hc1:=hu.cell (by simp) cw1
      have hstep:=Lib.hid hstep
      have hno':=Lib.hid hno'
      clear cw0 cw1 hhx hhy hpre hno hyes
      have hc0:wr.drew.cell? ⟨b,off+k,none⟩=some (.int .u16 x0):=hc0
      have hc1:wr.drew.cell? ⟨b',off'+k,none⟩=some (.int .u16 y0):=hc1
      go_wp2
      refine sJ (S:=fun w'=>w'.cell? ⟨b,off+k,none⟩=some (.int .u16 x0)∧w'.cell? ⟨b',off'+k,none⟩=some (.int .u16 y0)) (n:=9) #[false,false,false,false,false,false,false,false,false] (by kernel_rfl) rfl rfl ⟨hc0,hc1⟩ (fun hHeld=>?_)
      refine dO (i:=0) (N:=some 16) (v:=?_) (a':=?_) #[true,false,false,false,false,false,false,false,false] rfl rfl (by kernel_rfl) (fun _ _ _ h=>h) (Or.inl ⟨by rfl,?_⟩) hHeld ?_ ?_
      rotate_left
      · rintro w' ⟨hs0,hs1⟩
        go_simp
        with_reducible rfl
      rotate_left
      · simp only[Act.put,List.setIfInBounds_toArray,List.set_cons_zero,List.set_cons_succ]
        rfl
      refine dO (i:=1) (N:=some 17) (v:=?_) (a':=?_) #[true,true,false,false,false,false,false,false,false] rfl rfl (by kernel_rfl) (fun _ _ _ h=>h) (Or.inl ⟨by rfl,?_⟩) hHeld ?_ ?_
      rotate_left
      · rintro w' ⟨hs0,hs1⟩
        go_simp
        with_reducible rfl
      rotate_left
      · simp only[Act.put,List.setIfInBounds_toArray,List.set_cons_zero,List.set_cons_succ]
        rfl
      refine dO (i:=2) (N:=some 18) (v:=?_) (a':=?_) #[true,true,true,false,false,false,false,false,false] rfl rfl (by kernel_rfl) (fun _ _ _ h=>h) (Or.inl ⟨by rfl,?_⟩) hHeld ?_ ?_
      rotate_left
      · rintro w' ⟨hs0,hs1⟩
        go_simp
        with_reducible rfl
      rotate_left
      · simp only[Act.put,List.setIfInBounds_toArray,List.set_cons_zero,List.set_cons_succ]
        rfl
      refine dO (i:=3) (N:=some 19) (v:=?_) (a':=?_) #[true,true,true,true,false,false,false,false,false] rfl rfl (by kernel_rfl) (fun _ _ _ h=>h) (Or.inl ⟨by rfl,?_⟩) hHeld ?_ ?_
      rotate_left
      · rintro w' ⟨hs0,hs1⟩
        go_simp
        with_reducible rfl
      rotate_left
      · simp only[Act.put,List.setIfInBounds_toArray,List.set_cons_zero,List.set_cons_succ]
        rfl
      refine dO (i:=4) (N:=some 20) (v:=?_) (a':=?_) #[true,true,true,true,true,false,false,false,false] rfl rfl (by kernel_rfl) (fun _ _ _ h=>h) (Or.inl ⟨by rfl,?_⟩) hHeld ?_ ?_
      rotate_left
      · rintro w' ⟨hs0,hs1⟩
        go_simp
        with_reducible rfl
      rotate_left
      · simp only[Act.put,List.setIfInBounds_toArray,List.set_cons_zero,List.set_cons_succ]
        rfl
      refine dO (i:=5) (N:=some 21) (v:=?_) (a':=?_) #[true,true,true,true,true,true,false,false,false] rfl rfl (by kernel_rfl) (fun _ _ _ h=>h) (Or.inl ⟨by rfl,?_⟩) hHeld ?_ ?_
      rotate_left
      · rintro w' ⟨hs0,hs1⟩
        go_simp
        with_reducible rfl
      rotate_left
      · simp only[Act.put,List.setIfInBounds_toArray,List.set_cons_zero,List.set_cons_succ]
        rfl
      refine dO (i:=6) (N:=some 22) (v:=?_) (a':=?_) #[true,true,true,true,true,true,true,false,false] rfl rfl (by kernel_rfl) (fun _ _ _ h=>h) (Or.inl ⟨by rfl,?_⟩) hHeld ?_ ?_
      rotate_left
      · rintro w' ⟨hs0,hs1⟩
        go_simp
        with_reducible rfl
      rotate_left
      · simp only[Act.put,List.setIfInBounds_toArray,List.set_cons_zero,List.set_cons_succ]
        rfl
      refine dO (i:=7) (N:=some 23) (v:=?_) (a':=?_) #[true,true,true,true,true,true,true,true,false] rfl rfl (by kernel_rfl) (fun _ _ _ h=>h) (Or.inl ⟨by rfl,?_⟩) hHeld ?_ ?_
      rotate_left
      · rintro w' ⟨hs0,hs1⟩
        go_simp
        with_reducible rfl
      rotate_left
      · simp only[Act.put,List.setIfInBounds_toArray,List.set_cons_zero,List.set_cons_succ]
        rfl
      refine dO (i:=8) (N:=some 24) (v:=?_) (a':=?_) #[true,true,true,true,true,true,true,true,true] rfl rfl (by kernel_rfl) (fun _ _ _ h=>h) (Or.inl ⟨by rfl,?_⟩) hHeld ?_ ?_
      rotate_left
      · rintro w' ⟨hs0,hs1⟩
        go_simp
        with_reducible rfl
      rotate_left
      · simp only[Act.put,List.setIfInBounds_toArray,List.set_cons_zero,List.set_cons_succ]
        rfl
      refine uI (by kernel_rfl) ?_
      clear hc0 hc1 hHeld
      go_wp2
      · exact hno'.out _ (by simpa using (show(x0 != y0)=true by assumption)) (hu.drew)
      · go_roundw
        case rel=>exact⟨k+1,by omega,by go_num,hstep.out (by simpa using (show(x0 != y0)=false by assumption)),hu.drew⟩
        case measure=>simp[intOf];omega
    · have hj3:k=xs.length:=by omega
      have H3:=Lib.hid hj3
      rw[hj3] at hpre
      clear hj3 hhx hhy
      go_wp2
      exact hyes _ hpre hu
theorem Bf{xs ys:List Bool}  (hx:jc m w u xs)(hy:jc m' w v ys) : Calls Tryz.prog 134 #[u,v] w (eg (decide (xs=ys)) w):=by
  have hhx:=hx
  have hhy:=hy
  obtain⟨A,c,rfl,hc1,hc2⟩:=hx.shape
  obtain⟨B,c',rfl,jd,jO⟩:=hy.shape
  have hn:xs.length≤9223372036854775807:=by have:=hc2;unfold maxLen at this;omega
  by_cases hl:xs.length=ys.length
  case neg =>
    have hno:∀ W,aI [] w W→eg (decide (xs=ys)) w (.returned (.bool false)) W:=by
      intro W hW
      rw[decide_eq_false (fun h=>hl (by rw[h]))]
      exact⟨rfl,hW⟩
    have hli:((xs.length:Int)!=(ys.length:Int))=true:=by simp;omega
    clear hx hy hhx hhy hl
    go_enter Tryz.func134,Tryz.ntmps134
    go_wp2
    go_ret
    exact hno _ (aI.refl _ _)
  have hno:∀ W k,xs.getD k false≠ys.getD k false→aI [] w W→eg (decide (xs=ys)) w (.returned (.bool false)) W:=by
    intro W k hk hW
    rw[decide_eq_false (vZ k hk)]
    exact⟨rfl,hW⟩
  have hyes:∀ W,xs.take xs.length=ys.take xs.length→aI [] w W→eg (decide (xs=ys)) w (.returned (.bool true)) W:=by
    intro W hk hW
    rw[List.take_length,hl,List.take_length] at hk
    rw[decide_eq_true hk]
    exact⟨rfl,hW⟩
  revert hno hyes
  generalize eg (decide (xs=ys)) w=P
  intro hno hyes
  have hli:((xs.length:Int)!=(ys.length:Int))=false:=by simp;omega
  have hL:=Lib.hid hl
  clear hx hy hl
  go_enter Tryz.func134,Tryz.ntmps134
  go_wp2
  go_loopw [13] (fun i wr=>∃ k:Nat,k≤xs.length∧i = .int .i64 (k:Int)∧xs.take k=ys.take k∧aI [] w wr) (fun i _=>xs.length-(intOf i).toNat)
  case atStart=>exact⟨0,by omega,rfl,by simp,aI.refl _ _⟩
  case round =>
    obtain⟨k,hk,rfl,hpre,hu⟩:=hrel
    by_cases hlt:k<xs.length
    · obtain⟨b,off,rfl,cw0⟩:=jc.at_ hhx k hlt
      obtain⟨b',off',rfl,cw1⟩:=jc.at_ hhy k (by have:=hL.out;omega)
      have hlt':k<ys.length:=by have:=hL.out;omega
      have hstep:=fun h=>pD (d:=false) hL.out hlt hpre h
      have hno':=fun W h=>hno W k h
      revert cw0 cw1 hstep hno'
      generalize xs.getD k false=x0
      generalize ys.getD k false=y0
      intro cw0 cw1 hstep hno'
      have hc0:=hu.cell (by simp) cw0
      have hc1:=hu.cell (by simp) cw1
      have hstep:=Lib.hid hstep
      have hno':=Lib.hid hno'
      clear cw0 cw1 hhx hhy hpre hno hyes
      have hc0:wr.drew.cell? ⟨b,off+k,none⟩=some (.bool x0):=hc0
      have hc1:wr.drew.cell? ⟨b',off'+k,none⟩=some (.bool y0):=hc1
      go_wp2
      refine sJ (S:=fun w'=>w'.cell? ⟨b,off+k,none⟩=some (.bool x0)∧w'.cell? ⟨b',off'+k,none⟩=some (.bool y0)) (n:=9) #[false,false,false,false,false,false,false,false,false] (by kernel_rfl) rfl rfl ⟨hc0,hc1⟩ (fun hHeld=>?_)
      refine dO (i:=0) (N:=some 16) (v:=?_) (a':=?_) #[true,false,false,false,false,false,false,false,false] rfl rfl (by kernel_rfl) (fun _ _ _ h=>h) (Or.inl ⟨by rfl,?_⟩) hHeld ?_ ?_
      rotate_left
      · rintro w' ⟨hs0,hs1⟩
        go_simp
        with_reducible rfl
      rotate_left
      · simp only[Act.put,List.setIfInBounds_toArray,List.set_cons_zero,List.set_cons_succ]
        rfl
      refine dO (i:=1) (N:=some 17) (v:=?_) (a':=?_) #[true,true,false,false,false,false,false,false,false] rfl rfl (by kernel_rfl) (fun _ _ _ h=>h) (Or.inl ⟨by rfl,?_⟩) hHeld ?_ ?_
      rotate_left
      · rintro w' ⟨hs0,hs1⟩
        go_simp
        with_reducible rfl
      rotate_left
      · simp only[Act.put,List.setIfInBounds_toArray,List.set_cons_zero,List.set_cons_succ]
        rfl
      refine dO (i:=2) (N:=some 18) (v:=?_) (a':=?_) #[true,true,true,false,false,false,false,false,false] rfl rfl (by kernel_rfl) (fun _ _ _ h=>h) (Or.inl ⟨by rfl,?_⟩) hHeld ?_ ?_
      rotate_left
      · rintro w' ⟨hs0,hs1⟩
        go_simp
        with_reducible rfl
      rotate_left
      · simp only[Act.put,List.setIfInBounds_toArray,List.set_cons_zero,List.set_cons_succ]
        rfl
      refine dO (i:=3) (N:=some 19) (v:=?_) (a':=?_) #[true,true,true,true,false,false,false,false,false] rfl rfl (by kernel_rfl) (fun _ _ _ h=>h) (Or.inl ⟨by rfl,?_⟩) hHeld ?_ ?_
      rotate_left
      · rintro w' ⟨hs0,hs1⟩
        go_simp
        with_reducible rfl
      rotate_left
      · simp only[Act.put,List.setIfInBounds_toArray,List.set_cons_zero,List.set_cons_succ]
        rfl
      refine dO (i:=4) (N:=some 20) (v:=?_) (a':=?_) #[true,true,true,true,true,false,false,false,false] rfl rfl (by kernel_rfl) (fun _ _ _ h=>h) (Or.inl ⟨by rfl,?_⟩) hHeld ?_ ?_
      rotate_left
      · rintro w' ⟨hs0,hs1⟩
        go_simp
        with_reducible rfl
      rotate_left
      · simp only[Act.put,List.setIfInBounds_toArray,List.set_cons_zero,List.set_cons_succ]
        rfl
      refine dO (i:=5) (N:=some 21) (v:=?_) (a':=?_) #[true,true,true,true,true,true,false,false,false] rfl rfl (by kernel_rfl) (fun _ _ _ h=>h) (Or.inl ⟨by rfl,?_⟩) hHeld ?_ ?_
      rotate_left
      · rintro w' ⟨hs0,hs1⟩
        go_simp
        with_reducible rfl
      rotate_left
      · simp only[Act.put,List.setIfInBounds_toArray,List.set_cons_zero,List.set_cons_succ]
        rfl
      refine dO (i:=6) (N:=some 22) (v:=?_) (a':=?_) #[true,true,true,true,true,true,true,false,false] rfl rfl (by kernel_rfl) (fun _ _ _ h=>h) (Or.inl ⟨by rfl,?_⟩) hHeld ?_ ?_
      rotate_left
      · rintro w' ⟨hs0,hs1⟩
        go_simp
        with_reducible rfl
      rotate_left
      · simp only[Act.put,List.setIfInBounds_toArray,List.set_cons_zero,List.set_cons_succ]
        rfl
      refine dO (i:=7) (N:=some 23) (v:=?_) (a':=?_) #[true,true,true,true,true,true,true,true,false] rfl rfl (by kernel_rfl) (fun _ _ _ h=>h) (Or.inl ⟨by rfl,?_⟩) hHeld ?_ ?_
      rotate_left
      · rintro w' ⟨hs0,hs1⟩
        go_simp
        with_reducible rfl
      rotate_left
      · simp only[Act.put,List.setIfInBounds_toArray,List.set_cons_zero,List.set_cons_succ]
        rfl
      refine dO (i:=8) (N:=some 24) (v:=?_) (a':=?_) #[true,true,true,true,true,true,true,true,true] rfl rfl (by kernel_rfl) (fun _ _ _ h=>h) (Or.inl ⟨by rfl,?_⟩) hHeld ?_ ?_
      rotate_left
      · rintro w' ⟨hs0,hs1⟩
        go_simp
        with_reducible rfl
      rotate_left
      · simp only[Act.put,List.setIfInBounds_toArray,List.set_cons_zero,List.set_cons_succ]
        rfl
      refine uI (by kernel_rfl) ?_
      clear hc0 hc1 hHeld
      go_wp2
      · exact hno'.out _ (by simpa using (show(x0 != y0)=true by assumption)) (hu.drew)
      · go_roundw
        case rel=>exact⟨k+1,by omega,by go_num,hstep.out (by simpa using (show(x0 != y0)=false by assumption)),hu.drew⟩
        case measure=>simp[intOf];omega
    · have hj3:k=xs.length:=by omega
      have H3:=Lib.hid hj3
      rw[hj3] at hpre
      clear hj3 hhx hhy
      go_wp2
      exact hyes _ hpre hu
open Go.RowKit
variable {A:Option Addr}
theorem aV.cells{n c:Nat}  (h:aV m w (.slice A n c) xs) : (A=none∧xs=[])∨xs=[]∨∃ b off,A=some ⟨b,off,none⟩∧∀ i,i<xs.length→w.cell? ⟨b,off+i,none⟩=some (.int .u8 (xs.getD i 0)):=by
  by_cases h0:xs=[]
  · exact .inr (.inl h0)
  · have hl:0<xs.length:=List.length_pos_iff.2 h0
    obtain⟨b,off,rfl,_⟩:=aV.at_ h 0 hl
    refine .inr (.inr ⟨b,off,rfl,fun i hi=>?_⟩)
    obtain⟨b',off',hA,hc,_⟩:=aV.at_ h i hi
    injection hA with hA
    injection hA with h1 h2
    subst h1 h2
    exact hc
theorem v6(h:aV m w v xs) : (convert 27 9 v).run Tryz.prog w = .ok (.string (strOfNums xs)) w:=by
  have hh:=h
  obtain⟨A,c,rfl,h1,h2,h0,h3⟩:=hh
  rcases Nat.eq_zero_or_pos xs.length with hz|hz
  · obtain rfl:xs=[]:=List.eq_nil_of_length_eq_zero hz
    cases A with
    | none=>exact run_convert_bytes_nil w _ _ Tryz.underlying27 Tryz.underlying5 _ _ _ Tryz.underlying9
    | some a =>
      rw[run_convert_bytes_string w _ _ _ _ _ _ Tryz.underlying27 Tryz.underlying5 Tryz.underlying9]
      rw[run_bytesToString w a _ c [] (by simp[loadCells,loadCellsFrom,Sem.run_pure])]
      rfl
  · obtain⟨b,off,cells,t,fr,rfl,hb,ht,hx⟩:=h3 hz
    exact run_convert_bytes_arg w _ _ Tryz.underlying27 Tryz.underlying5 b off _ c xs rfl (fun i hi=>by
      obtain⟨b',off',hA,hc,_⟩:=aV.at_ h i hi
      injection hA with hA
      injection hA with h1 h2
      subst h1 h2
      exact hc) _ Tryz.underlying9
theorem vg:∀ {xs ys:List Int},(∀ x,x∈xs→0≤x∧x<256)→(∀ x,x∈ys→0≤x∧x<256)→(xs.map fun n=>UInt8.ofNat n.toNat)=(ys.map fun n=>UInt8.ofNat n.toNat)→xs=ys
  | [],[],_,_,_=>rfl
  | [],_ :: _,_,_,h=>by simp at h
  | _ :: _,[],_,_,h=>by simp at h
  | x :: xs,y :: ys,hx,hy,h=>by
    simp only[List.map_cons,List.cons.injEq] at h
    have h1:=hx x (by simp)
    have h2:=hy y (by simp)
    have h3:x=y:=by
      have:=congrArg UInt8.toNat h.1
      simp at this
      omega
    rw[h3,vg (fun z hz=>hx z (by simp[hz])) (fun z hz=>hy z (by simp[hz])) h.2]
variable {w':World}
theorem wC{W:World}  {ys:List Int}(hx:aV m w u xs)(hy:aV m' w' v ys) : (binOp .eql 9 (.string (strOfNums xs)) (.string (strOfNums ys))).run Tryz.prog W = .ok (.bool (decide (xs=ys))) W:=by
  have e:((strOfNums xs).toList==(strOfNums ys).toList)=decide (xs=ys):=by
    by_cases h:xs=ys
    · subst h;simp
    · rw[decide_eq_false h,beq_eq_false_iff_ne]
      intro h2
      rw[ByteArray.toList_eq,ByteArray.toList_eq] at h2
      exact h (vg hx.rng hy.rng h2)
  rw[binOp_string_eql,e]
  rfl
theorem AT{A B:dl}:decide (A=B)=(decide (A.file=B.file)&&(decide (A.record=B.record)&&(decide (A.count=B.count)&&decide (A.words=B.words)))):=by
  rw[Bool.eq_iff_iff]
  cases A;cases B
  simp
theorem Bj{ca cb:List Value}{A B:dl}  (ha:bH m w A ca)(hb:bH m' w B cb) : Calls Tryz.prog 136 #[.agg ca.toArray,.agg cb.toArray] w (eg (decide (A=B)) w):=by
  obtain⟨va,rfl,hwa,hra⟩:=ha
  obtain⟨vb,rfl,hwb,hrb⟩:=hb
  rw[AT]
  generalize A.file=f1 at *
  generalize A.record=f2 at *
  generalize A.count=f3 at *
  generalize A.words=f4 at *
  generalize B.file=g1 at *
  generalize B.record=g2 at *
  generalize B.count=g3 at *
  generalize B.words=g4 at *
  clear hra hrb
  have hpost:∀ W,aI [] w W→eg (decide (f1=g1)&&(decide (f2=g2)&&(decide (f3=g3)&&decide (f4=g4)))) w (.returned (.bool (decide (f1=g1)&&(decide (f2=g2)&&(decide (f3=g3)&&decide (f4=g4)))))) W:=fun W h=>⟨rfl,h⟩
  revert hpost
  generalize eg (decide (f1=g1)&&(decide (f2=g2)&&(decide (f3=g3)&&decide (f4=g4)))) w=P
  intro hpost
  by_cases h1:f1=g1
  case neg =>
    have e:(decide (f1=g1)&&(decide (f2=g2)&&(decide (f3=g3)&&decide (f4=g4))))=false:=by simp[h1]
    rw[e] at hpost
    have e1:(f1==g1)=false:=by simpa using h1
    clear h1 e hwa hwb
    replace hpost:=Lib.hid hpost
    go_enter Tryz.func136,Tryz.ntmps136
    go_wp2
    exact hpost.out _ (((aI.refl [] w).alloc _).alloc _)
  subst h1
  by_cases h1:f2=g2
  case neg =>
    have e:(decide (f1=f1)&&(decide (f2=g2)&&(decide (f3=g3)&&decide (f4=g4))))=false:=by simp[h1]
    rw[e] at hpost
    have e1:(f2==g2)=false:=by simpa using h1
    clear h1 e hwa hwb
    replace hpost:=Lib.hid hpost
    go_enter Tryz.func136,Tryz.ntmps136
    go_wp2
    exact hpost.out _ (((aI.refl [] w).alloc _).alloc _)
  subst h1
  by_cases h1:f3=g3
  case neg =>
    have e:(decide (f1=f1)&&(decide (f2=f2)&&(decide (f3=g3)&&decide (f4=g4))))=false:=by simp[h1]
    rw[e] at hpost
    have e1:(f3==g3)=false:=by simpa using h1
    clear h1 e hwa hwb
    replace hpost:=Lib.hid hpost
    go_enter Tryz.func136,Tryz.ntmps136
    go_wp2
    exact hpost.out _ (((aI.refl [] w).alloc _).alloc _)
  subst h1
  have e:(decide (f1=f1)&&(decide (f2=f2)&&(decide (f3=f3)&&decide (f4=g4))))=decide (f4=g4):=by simp
  rw[e] at hpost
  clear e
  have hcall:=fun(W:World) (h:aI [] w W)=>vi (hwa.old h) (hwb.old h)
  replace hpost:=Lib.hid hpost
  go_enter Tryz.func136,Tryz.ntmps136
  go_wp2_with (go_at_call 133;refine(hcall _ (((aI.refl [] w).alloc _).alloc _)).mono ?_;rintro e w1 ⟨rfl,hu1⟩)
  exact hpost.out _ ((((aI.refl [] w).alloc _).alloc _).step hu1)
theorem AW{A B:Obj}:decide (A=B)=(decide (A.id=B.id)&&decide (A.value=B.value)):=by
  rw[Bool.eq_iff_iff]
  cases A;cases B
  simp
theorem tR{ca cb:List Value}{A B:Obj}  (ha:dE m w A ca)(hb:dE m' w B cb) : Calls Tryz.prog 138 #[.agg ca.toArray,.agg cb.toArray] w (eg (decide (A=B)) w):=by
  obtain⟨va,rfl,hwa,hra⟩:=ha
  obtain⟨vb,rfl,hwb,hrb⟩:=hb
  rw[AW]
  generalize A.id=f1 at *
  generalize A.value=f4 at *
  generalize B.id=g1 at *
  generalize B.value=g4 at *
  clear hra hrb
  have hpost:∀ W,aI [] w W→eg (decide (f1=g1)&&decide (f4=g4)) w (.returned (.bool (decide (f1=g1)&&decide (f4=g4)))) W:=fun W h=>⟨rfl,h⟩
  revert hpost
  generalize eg (decide (f1=g1)&&decide (f4=g4)) w=P
  intro hpost
  by_cases h1:f1=g1
  case neg =>
    have e:(decide (f1=g1)&&decide (f4=g4))=false:=by simp[h1]
    rw[e] at hpost
    have e1:(f1==g1)=false:=by simpa using h1
    clear h1 e hwa hwb
    replace hpost:=Lib.hid hpost
    go_enter Tryz.func138,Tryz.ntmps138
    go_wp2
    exact hpost.out _ (((aI.refl [] w).alloc _).alloc _)
  subst h1
  have e:(decide (f1=f1)&&decide (f4=g4))=decide (f4=g4):=by simp
  rw[e] at hpost
  have hu0:aI [] w ((w.alloc (.cells #[.int .u8 f1,va] 100)).alloc (.cells #[.int .u8 f1,vb] 100)):=((aI.refl [] w).alloc _).alloc _
  have c1:=v6 (hwa.old hu0)
  have c2:=v6 (hwb.old hu0)
  have c3:=wC (hwa.old hu0) (hwb.old hu0) (W:=(w.alloc (.cells #[.int .u8 f1,va] 100)).alloc (.cells #[.int .u8 f1,vb] 100))
  replace hpost:=hpost _ hu0
  generalize strOfNums f4=s1 at *
  generalize strOfNums g4=s2 at *
  generalize decide (f4=g4)=D at *
  clear hu0 hwa hwb e
  rw[binOp_string_eql] at c3
  have c4:(s1.toList==s2.toList)=D:=by simpa [Sem.run_pure] using c3
  clear c3
  replace hpost:=Lib.hid hpost
  go_enter Tryz.func138,Tryz.ntmps138
  go_wp2
  exact hpost.out
open Go.RowKit
theorem aT.at_{e:TypeId}{sz:Nat}{R:World→α→List Value→Prop}   {n c:Nat}{xs:List α}(h:aT m e sz R w (.slice A n c) xs)(d:α)(j:Nat)(hj:j<xs.length) :
    ∃ b off cs,A=some ⟨b,off,none⟩∧w.rangeAt b (off+j*sz) cs∧R w (xs.getD j d) cs∧cs.length=sz:=by
  obtain⟨A',c',hv,h1,h2,h0,h3⟩:=h
  injection hv with e1 e2 e3
  subst e1 e3
  obtain⟨b,off,cells,t,fr,rfl,hb,ht,hx⟩:=h3 (by omega)
  obtain⟨cs,h4,h5,h6⟩:=hx j (xs.getD j d) (by simp[List.getD_eq_getElem?_getD,List.getElem?_eq_getElem hj])
  exact⟨b,off,cs,rfl,fun i u hi=>by rw[bD hb];exact h6 i u hi,h5,h4⟩
variable {cs:List Value}
theorem bH.upd0(hu:aI [] w w'){r:dl}  (h:bH m w r cs) : bH m w' r cs:=bH.upd hu (dv.nil _ _ _) r cs h
theorem dE.upd0(hu:aI [] w w'){r:Obj}  (h:dE m w r cs) : dE m w' r cs:=dE.upd hu (dv.nil _ _ _) r cs h
theorem gt{b o:Nat}  (h:w.rangeAt b o cs){S:List Nat}(hu:aI S w w')(hb:b∉S) : w'.rangeAt b o cs:=fun j v hj=>hu.cell hb (h j v hj)
theorem sl:(Tryz.prog.info? 98).map (·.zero)=some (some (.agg #[.int .u16 0,.int .u16 0,.int .u16 0,.slice none 0 0])):=by kernel_rfl
theorem iE:(Tryz.prog.info? 98).map (·.size)=some 4:=by kernel_rfl
theorem rZ:(Tryz.prog.info? 100).map (·.zero)=some (some (.agg #[.int .u8 0,.slice none 0 0])):=by kernel_rfl
theorem it:(Tryz.prog.info? 100).map (·.size)=some 2:=by kernel_rfl
theorem bH.one{r:dl}  (h:bH m w r cs) : cs.toArray.all (·.oneCell')=true∧cs.length=4:=by
  obtain⟨v,rfl,h1,_⟩:=h
  obtain⟨A,c,rfl,_⟩:=h1
  exact⟨by simp[Value.oneCell'],rfl⟩
theorem dE.one{r:Obj}  (h:dE m w r cs) : cs.toArray.all (·.oneCell')=true∧cs.length=2:=by
  obtain⟨v,rfl,h1,_⟩:=h
  obtain⟨A,c,rfl,_⟩:=h1
  exact⟨by simp[Value.oneCell'],rfl⟩
theorem Ac{xs ys:List dl}  (hx:oA m w u xs)(hy:oA m' w v ys) :
    Calls Tryz.prog 135 #[u,v,.func (.func 136) #[] #[]] w (eg (decide (xs=ys)) w):=by
  have hhx:=hx
  have hhy:=hy
  obtain⟨A,c,rfl,hc1,hc2⟩:=hx.shape
  obtain⟨B,c',rfl,jd,jO⟩:=hy.shape
  have hn:xs.length≤9223372036854775807:=by have:=hc2;unfold maxLen at this;omega
  by_cases hl:xs.length=ys.length
  case neg =>
    have hno:∀ W,aI [] w W→eg (decide (xs=ys)) w (.returned (.bool false)) W:=by
      intro W hW
      rw[decide_eq_false (fun h=>hl (by rw[h]))]
      exact⟨rfl,hW⟩
    have hli:((xs.length:Int)!=(ys.length:Int))=true:=by simp;omega
    clear hx hy hhx hhy hl
    go_enter Tryz.func135,Tryz.ntmps135
    go_wp2
    go_ret
    exact hno _ (aI.refl _ _)
  have hno:∀ W k,xs.getD k ⟨0,0,0,[]⟩≠ys.getD k ⟨0,0,0,[]⟩→aI [] w W→eg (decide (xs=ys)) w (.returned (.bool false)) W:=by
    intro W k hk hW
    rw[decide_eq_false (vZ k hk)]
    exact⟨rfl,hW⟩
  have hyes:∀ W,xs.take xs.length=ys.take xs.length→aI [] w W→eg (decide (xs=ys)) w (.returned (.bool true)) W:=by
    intro W hk hW
    rw[List.take_length,hl,List.take_length] at hk
    rw[decide_eq_true hk]
    exact⟨rfl,hW⟩
  revert hno hyes
  generalize eg (decide (xs=ys)) w=P
  intro hno hyes
  have hli:((xs.length:Int)!=(ys.length:Int))=false:=by simp;omega
  have hL:=Lib.hid hl
  clear hx hy hl
  go_enter Tryz.func135,Tryz.ntmps135
  go_wp2
  go_loopw [17] (fun i wr=>∃ k:Nat,k≤xs.length∧i = .int .i64 (k:Int)∧xs.take k=ys.take k∧aI [] w wr) (fun i _=>xs.length-(intOf i).toNat)
  case atStart=>exact⟨0,by omega,rfl,by simp,aI.refl _ _⟩
  case round =>
    obtain⟨k,hk,rfl,hpre,hu⟩:=hrel
    by_cases hlt:k<xs.length
    · obtain⟨b,off,ca,rfl,cw0,hr0,hl0⟩:=aT.at_ hhx ⟨0,0,0,[]⟩ k hlt
      obtain⟨b',off',cb,rfl,cw1,hr1,hl1⟩:=aT.at_ hhy ⟨0,0,0,[]⟩ k (by have:=hL.out;omega)
      have hlt':k<ys.length:=by have:=hL.out;omega
      have hstep:=fun h=>pD (d:=⟨0,0,0,[]⟩) hL.out hlt hpre h
      have hno':=fun W h=>hno W k h
      revert hstep hno' hr0 hr1
      generalize xs.getD k ⟨0,0,0,[]⟩=x0
      generalize ys.getD k ⟨0,0,0,[]⟩=y0
      intro hr0 hr1 hstep hno'
      have hc0:=Lib.hid (gt cw0 hu (by simp))
      have hc1:=Lib.hid (gt cw1 hu (by simp))
      replace hstep:=Lib.hid hstep
      replace hno':=Lib.hid hno'
      have ha:=Lib.hid hr0
      have hb:=Lib.hid hr1
      clear cw0 cw1 hhx hhy hpre hno hyes hr0 hr1
      have tok1_0:True:=trivial
      have tok1_1:True:=trivial
      have tok1_2:True:=trivial
      have tok1_3:True:=trivial
      have tok1_4:True:=trivial
      have tok1_5:True:=trivial
      have tok1_6:True:=trivial
      have tok1_7:True:=trivial
      have tok1_8:True:=trivial
      go_wp2_with (first | (have _t:=tok1_0;refine wpList_load_mid rfl 98 _ rfl b (off+k*4) rfl ca _ hc0.out Tryz.underlying98 rfl (by rw[hl0];exact iE) ?_;clear _t tok1_0) | (have _t:=tok1_1;refine io rfl 98 rfl _ sl ?_;intro g1 w1 hg1 hB1 hu1;clear _t tok1_1) | (have _t:=tok1_2;refine ia rfl 98 _ _ rfl g1 rfl ca.toArray rfl _ _ hB1 (by simp only[List.size_toArray,hl0];exact iE) (by simp only[List.size_toArray,hl0];rfl) (bH.one ha.out).1 ?_;intro w2 hB2 hu2;have U2:=hu1.fresh1 hu2 hg1;clear _t tok1_2) | (have _t:=tok1_3;refine wpList_load_mid rfl 98 _ rfl b' (off'+k*4) rfl cb _ (gt hc1.out U2 (by simp)) Tryz.underlying98 rfl (by rw[hl1];exact iE) ?_;clear _t tok1_3) | (have _t:=tok1_4;refine io rfl 98 rfl _ sl ?_;intro g3 w3 hg3 hB3 hu3;clear _t tok1_4) | (have _t:=tok1_5;refine ia rfl 98 _ _ rfl g3 rfl cb.toArray rfl _ _ hB3 (by simp only[List.size_toArray,hl1];exact iE) (by simp only[List.size_toArray,hl1];rfl) (bH.one hb.out).1 ?_;intro w4 hB4 hu4;have U4:=hu3.fresh1 hu4 hg3;have a:=U4.blk (by simp) hB2;have V4:=hu.step (U2.step U4);clear _t tok1_5) | (have _t:=tok1_6;refine wpList_load_row rfl 98 _ rfl g1 rfl _ _ _ _ a Tryz.underlying98 rfl (by simp only[List.size_toArray,hl0];exact iE) ?_;clear _t tok1_6) | (have _t:=tok1_7;refine wpList_load_row rfl 98 _ rfl g3 rfl _ _ _ _ hB4 Tryz.underlying98 rfl (by simp only[List.size_toArray,hl1];exact iE) ?_;clear _t tok1_7) | (have _t:=tok1_8;go_at_call 136;refine(Bj (bH.upd0 V4 ha.out) (bH.upd0 V4 hb.out)).mono ?_;rintro e w5 ⟨rfl,hu5⟩;generalize hD:decide (x0=y0)=D;have HD:=Lib.hid hD;clear hD a hB4;clear _t tok1_8))
      · have hD0:(!D)=true:=by assumption
        exact hno'.out _ (by have:=HD.out;intro h;rw[← this,h] at hD0;simp at hD0) (V4.step hu5)
      · have hD0:(!D)=false:=by assumption
        have hxy:x0=y0:=by have:=HD.out;rw[← this] at hD0;simpa using hD0
        go_roundw
        case rel=>exact⟨k+1,by omega,by go_num,hstep.out hxy,V4.step hu5⟩
        case measure=>simp[intOf];omega
    · have hj3:k=xs.length:=by omega
      have H3:=Lib.hid hj3
      rw[hj3] at hpre
      clear hj3 hhx hhy
      go_wp2
      exact hyes _ hpre hu
theorem AN{xs ys:List Obj}  (hx:qi m w u xs)(hy:qi m' w v ys) :
    Calls Tryz.prog 137 #[u,v,.func (.func 138) #[] #[]] w (eg (decide (xs=ys)) w):=by
  have hhx:=hx
  have hhy:=hy
  obtain⟨A,c,rfl,hc1,hc2⟩:=hx.shape
  obtain⟨B,c',rfl,jd,jO⟩:=hy.shape
  have hn:xs.length≤9223372036854775807:=by have:=hc2;unfold maxLen at this;omega
  by_cases hl:xs.length=ys.length
  case neg =>
    have hno:∀ W,aI [] w W→eg (decide (xs=ys)) w (.returned (.bool false)) W:=by
      intro W hW
      rw[decide_eq_false (fun h=>hl (by rw[h]))]
      exact⟨rfl,hW⟩
    have hli:((xs.length:Int)!=(ys.length:Int))=true:=by simp;omega
    clear hx hy hhx hhy hl
    go_enter Tryz.func137,Tryz.ntmps137
    go_wp2
    go_ret
    exact hno _ (aI.refl _ _)
  have hno:∀ W k,xs.getD k ⟨0,[]⟩≠ys.getD k ⟨0,[]⟩→aI [] w W→eg (decide (xs=ys)) w (.returned (.bool false)) W:=by
    intro W k hk hW
    rw[decide_eq_false (vZ k hk)]
    exact⟨rfl,hW⟩
  have hyes:∀ W,xs.take xs.length=ys.take xs.length→aI [] w W→eg (decide (xs=ys)) w (.returned (.bool true)) W:=by
    intro W hk hW
    rw[List.take_length,hl,List.take_length] at hk
    rw[decide_eq_true hk]
    exact⟨rfl,hW⟩
  revert hno hyes
  generalize eg (decide (xs=ys)) w=P
  intro hno hyes
  have hli:((xs.length:Int)!=(ys.length:Int))=false:=by simp;omega
  have hL:=Lib.hid hl
  clear hx hy hl
  go_enter Tryz.func137,Tryz.ntmps137
  go_wp2
  go_loopw [17] (fun i wr=>∃ k:Nat,k≤xs.length∧i = .int .i64 (k:Int)∧xs.take k=ys.take k∧aI [] w wr) (fun i _=>xs.length-(intOf i).toNat)
  case atStart=>exact⟨0,by omega,rfl,by simp,aI.refl _ _⟩
  case round =>
    obtain⟨k,hk,rfl,hpre,hu⟩:=hrel
    by_cases hlt:k<xs.length
    · obtain⟨b,off,ca,rfl,cw0,hr0,hl0⟩:=aT.at_ hhx ⟨0,[]⟩ k hlt
      obtain⟨b',off',cb,rfl,cw1,hr1,hl1⟩:=aT.at_ hhy ⟨0,[]⟩ k (by have:=hL.out;omega)
      have hlt':k<ys.length:=by have:=hL.out;omega
      have hstep:=fun h=>pD (d:=⟨0,[]⟩) hL.out hlt hpre h
      have hno':=fun W h=>hno W k h
      revert hstep hno' hr0 hr1
      generalize xs.getD k ⟨0,[]⟩=x0
      generalize ys.getD k ⟨0,[]⟩=y0
      intro hr0 hr1 hstep hno'
      have hc0:=Lib.hid (gt cw0 hu (by simp))
      have hc1:=Lib.hid (gt cw1 hu (by simp))
      replace hstep:=Lib.hid hstep
      replace hno':=Lib.hid hno'
      have ha:=Lib.hid hr0
      have hb:=Lib.hid hr1
      clear cw0 cw1 hhx hhy hpre hno hyes hr0 hr1
      have tok2_0:True:=trivial
      have tok2_1:True:=trivial
      have tok2_2:True:=trivial
      have tok2_3:True:=trivial
      have tok2_4:True:=trivial
      have tok2_5:True:=trivial
      have tok2_6:True:=trivial
      have tok2_7:True:=trivial
      have tok2_8:True:=trivial
      go_wp2_with (first | (have _t:=tok2_0;refine wpList_load_mid rfl 100 _ rfl b (off+k*2) rfl ca _ hc0.out Tryz.underlying100 rfl (by rw[hl0];exact it) ?_;clear _t tok2_0) | (have _t:=tok2_1;refine io rfl 100 rfl _ rZ ?_;intro g1 w1 hg1 hB1 hu1;clear _t tok2_1) | (have _t:=tok2_2;refine ia rfl 100 _ _ rfl g1 rfl ca.toArray rfl _ _ hB1 (by simp only[List.size_toArray,hl0];exact it) (by simp only[List.size_toArray,hl0];rfl) (dE.one ha.out).1 ?_;intro w2 hB2 hu2;have U2:=hu1.fresh1 hu2 hg1;clear _t tok2_2) | (have _t:=tok2_3;refine wpList_load_mid rfl 100 _ rfl b' (off'+k*2) rfl cb _ (gt hc1.out U2 (by simp)) Tryz.underlying100 rfl (by rw[hl1];exact it) ?_;clear _t tok2_3) | (have _t:=tok2_4;refine io rfl 100 rfl _ rZ ?_;intro g3 w3 hg3 hB3 hu3;clear _t tok2_4) | (have _t:=tok2_5;refine ia rfl 100 _ _ rfl g3 rfl cb.toArray rfl _ _ hB3 (by simp only[List.size_toArray,hl1];exact it) (by simp only[List.size_toArray,hl1];rfl) (dE.one hb.out).1 ?_;intro w4 hB4 hu4;have U4:=hu3.fresh1 hu4 hg3;have a:=U4.blk (by simp) hB2;have V4:=hu.step (U2.step U4);clear _t tok2_5) | (have _t:=tok2_6;refine wpList_load_row rfl 100 _ rfl g1 rfl _ _ _ _ a Tryz.underlying100 rfl (by simp only[List.size_toArray,hl0];exact it) ?_;clear _t tok2_6) | (have _t:=tok2_7;refine wpList_load_row rfl 100 _ rfl g3 rfl _ _ _ _ hB4 Tryz.underlying100 rfl (by simp only[List.size_toArray,hl1];exact it) ?_;clear _t tok2_7) | (have _t:=tok2_8;go_at_call 138;refine(tR (dE.upd0 V4 ha.out) (dE.upd0 V4 hb.out)).mono ?_;rintro e w5 ⟨rfl,hu5⟩;generalize hD:decide (x0=y0)=D;have HD:=Lib.hid hD;clear hD a hB4;clear _t tok2_8))
      · have hD0:(!D)=true:=by assumption
        exact hno'.out _ (by have:=HD.out;intro h;rw[← this,h] at hD0;simp at hD0) (V4.step hu5)
      · have hD0:(!D)=false:=by assumption
        have hxy:x0=y0:=by have:=HD.out;rw[← this] at hD0;simpa using hD0
        go_roundw
        case rel=>exact⟨k+1,by omega,by go_num,hstep.out hxy,V4.step hu5⟩
        case measure=>simp[intOf];omega
    · have hj3:k=xs.length:=by omega
      have H3:=Lib.hid hj3
      rw[hj3] at hpre
      clear hj3 hhx hhy
      go_wp2
      exact hyes _ hpre hu
open Go.RowKit
def eI (M:aS) : List Int:=[M.code,M.fail,M.addr,M.count,M.value,M.and_,M.or_,M.addr2,M.sub,M.status,M.events,M.messages,M.mei*256+M.kind,M.level*256+M.more,M.next]
def j0 (M:aS) : Array Value:=((eI M).map (Value.int .u16)).toArray
theorem tK:(Tryz.prog.info? 158).map (·.zero)=some (some (.agg ((List.replicate 15 (Value.int .u16 0)).toArray))):=by kernel_rfl
theorem n9:(Tryz.prog.info? 158).map (·.size)=some 15:=by kernel_rfl
theorem sn(a0 a1 a2 a3 a4 a5 a6 a7 a8 a9 a b c d e:Int)(w:World) : (Instr.build 158 #[(0,.int .u16 a0),(1,.int .u16 a1),(2,.int .u16 a2),(3,.int .u16 a3),(4,.int .u16 a4),(5,.int .u16 a5),(6,.int .u16 a6),(7,.int .u16 a7),(8,.int .u16 a8),(9,.int .u16 a9),(10,.int .u16 a),(11,.int .u16 b),(12,.int .u16 c),(13,.int .u16 d),(14,.int .u16 e)]).run Tryz.prog w
    = .ok (.agg #[.int .u16 a0,.int .u16 a1,.int .u16 a2,.int .u16 a3,.int .u16 a4,.int .u16 a5,.int .u16 a6,.int .u16 a7,.int .u16 a8,.int .u16 a9,.int .u16 a,.int .u16 b,.int .u16 c,.int .u16 d,.int .u16 e]) w:=by kernel_rfl
theorem zL{P:Program}{fn:Func}{p:Tmp}{ty:TypeId}(h:fn.results = #[.cell p ty]){R:Ending→World→Prop}{a:Act}  (hd0:a.defers=[])(g:Nat)(t:TypeId)(cs:Array Value)(fr:Nat × Nat)(d:TypeDesc)
    (hp:a.tmps.getD p undef = .pointer (some ⟨g,0,none⟩)) (hg:w.heap[g]? = some (.cells cs t fr))
    (hu:P.underlying ty=some d) (hd:(match d with | .struct _ | .array _ _=>true | _=>false)=true) (hi:(P.info? ty).map (·.size)=some cs.size)
    (hR:R (.returned (.agg cs)) w) : bodyPost P fn R .ret a w:=by
  have hp':a.tmps[p]?.getD undef = .pointer (some ⟨g,0,none⟩):=by simpa using hp
  exact bodyPost_ret (by simp[results,h,hp',asAddr,run_loadVar_row w g t ty cs fr d hg hu hd hi]) hd0 hR
theorem p7{cs:Array Value}{M:aS}  (h:aH m w cs.toList M) : Calls Tryz.prog 132 #[.agg cs] w (bS (.agg (j0 M)) w):=by
  obtain⟨vw,vb,vd,vr,vo,h0,_,_,_,_,_,hR⟩:=h
  obtain⟨c0,c1,c2,c3,c4,c5,c6,c7,c8,c9,f,i,l1,l2,l3,l4,a,c,b,d,e,l5⟩:=M
  obtain⟨r0,r1,r2,r3,r4,r5,r6,r7,r8,r9,o,p,j,k,l,n,q⟩:=hR
  simp only[B8,eR] at r0 r1 r2 r3 r4 r5 r6 r7 r8 r9 o p j k l n q
  have hpost:∀ W,aI [] w W→bS (.agg (j0 ⟨c0,c1,c2,c3,c4,c5,c6,c7,c8,c9,f,i,l1,l2,l3,l4,a,c,b,d,e,l5⟩)) w (.returned (.agg #[.int .u16 c0,.int .u16 c1,.int .u16 c2,.int .u16 c3,.int .u16 c4,.int .u16 c5,.int .u16 c6,.int .u16 c7,.int .u16 c8,.int .u16 c9,.int .u16 f,.int .u16 i,.int .u16 (a*256+c),.int .u16 (b*256+d),.int .u16 e])) W:=fun W hW=>⟨rfl,hW⟩
  revert hpost
  generalize bS (.agg (j0 ⟨c0,c1,c2,c3,c4,c5,c6,c7,c8,c9,f,i,l1,l2,l3,l4,a,c,b,d,e,l5⟩)) w=P
  intro hpost
  replace hpost:=Lib.hid hpost
  have w0:IntKind.u16.wrap c0=c0:=by show c0%65536=c0;omega
  have w1:IntKind.u16.wrap c1=c1:=by show c1%65536=c1;omega
  have r:IntKind.u16.wrap a=a:=by show a%65536=a;omega
  have s:IntKind.u16.wrap c=c:=by show c%65536=c;omega
  have t:IntKind.u16.wrap b=b:=by show b%65536=b;omega
  have u:IntKind.u16.wrap d=d:=by show d%65536=d;omega
  have v:IntKind.u16.wrap e=e:=by show e%65536=e;omega
  have x1:IntKind.u16.wrap (a*256)=a*256:=by show(a*256)%65536=a*256;omega
  have x2:IntKind.u16.wrap (b*256)=b*256:=by show(b*256)%65536=b*256;omega
  have o1:=qC j k
  have o2:=qC l n
  have hcs:cs = #[.int .u8 c0,.int .u8 c1,.int .u16 c2,.int .u16 c3,.int .u16 c4,.int .u16 c5,.int .u16 c6,.int .u16 c7,.int .u16 c8,.int .u16 c9,.int .u16 f,.int .u16 i,vw,vb,vd,vr,.int .u8 a,.int .u8 c,.int .u8 b,.int .u8 d,.int .u8 e,vo]:=by
    apply Array.toList_inj.1
    exact h0
  subst hcs
  have hbp:=sn
  clear h0 r0 r1 r2 r3 r4 r5 r6 r7 r8 r9 o p j k l n q
  go_enter Tryz.func132,Tryz.ntmps132
  have tok1_0:True:=trivial
  have tok1_1:True:=trivial
  have tok1_2:True:=trivial
  go_wp2_with (first | (have _t:=tok1_0;refine Bp rfl 45 _ rfl (.agg #[.int .u8 c0,.int .u8 c1,.int .u16 c2,.int .u16 c3,.int .u16 c4,.int .u16 c5,.int .u16 c6,.int .u16 c7,.int .u16 c8,.int .u16 c9,.int .u16 f,.int .u16 i,vw,vb,vd,vr,.int .u8 a,.int .u8 c,.int .u8 b,.int .u8 d,.int .u8 e,vo]) rfl ?_;intro g w1 hg hB hu1;clear _t tok1_0) | (have _t:=tok1_1;refine io rfl 158 rfl _ tK ?_;intro gp w2 hgp hBp hu2;replace hB:=hu2.blk (by simp) hB;have k0:w2.cell? ⟨g,0,none⟩=some (.int .u8 c0):=(bD hB 0).trans rfl;have k1:w2.cell? ⟨g,1,none⟩=some (.int .u8 c1):=(bD hB 1).trans rfl;have k2:w2.cell? ⟨g,2,none⟩=some (.int .u16 c2):=(bD hB 2).trans rfl;have k3:w2.cell? ⟨g,3,none⟩=some (.int .u16 c3):=(bD hB 3).trans rfl;have k4:w2.cell? ⟨g,4,none⟩=some (.int .u16 c4):=(bD hB 4).trans rfl;have k5:w2.cell? ⟨g,5,none⟩=some (.int .u16 c5):=(bD hB 5).trans rfl;have k6:w2.cell? ⟨g,6,none⟩=some (.int .u16 c6):=(bD hB 6).trans rfl;have k7:w2.cell? ⟨g,7,none⟩=some (.int .u16 c7):=(bD hB 7).trans rfl;have k8:w2.cell? ⟨g,8,none⟩=some (.int .u16 c8):=(bD hB 8).trans rfl;have k9:w2.cell? ⟨g,9,none⟩=some (.int .u16 c9):=(bD hB 9).trans rfl;have x:w2.cell? ⟨g,10,none⟩=some (.int .u16 f):=(bD hB 10).trans rfl;have y:w2.cell? ⟨g,11,none⟩=some (.int .u16 i):=(bD hB 11).trans rfl;have z:w2.cell? ⟨g,16,none⟩=some (.int .u8 a):=(bD hB 16).trans rfl;have A:w2.cell? ⟨g,17,none⟩=some (.int .u8 c):=(bD hB 17).trans rfl;have B:w2.cell? ⟨g,18,none⟩=some (.int .u8 b):=(bD hB 18).trans rfl;have C:w2.cell? ⟨g,19,none⟩=some (.int .u8 d):=(bD hB 19).trans rfl;have D:w2.cell? ⟨g,20,none⟩=some (.int .u8 e):=(bD hB 20).trans rfl;clear hB;clear _t tok1_1) | (have _t:=tok1_2;refine ia rfl 158 _ _ rfl gp rfl _ rfl _ _ hBp n9 rfl (by simp[Value.oneCell']) ?_;intro w3 hB3 hu3;clear _t tok1_2))
  refine zL rfl rfl gp _ _ _ _ rfl hB3 Tryz.underlying158 rfl n9 ?_
  exact hpost.out _ (hu1.step (hu2.fresh1 hu3 hgp))
open Go.RowKit
theorem jU:∀ (xs ys:List Int),xs.length=ys.length→((List.range xs.length).all fun i=>xs.getD i 0==ys.getD i 0)=(xs==ys)
  | [],[],_=>rfl
  | x :: xs,y :: ys,h=>by
    have ih:=jU xs ys (by simpa using h)
    rw[List.length_cons,List.range_succ_eq_map,List.all_cons,List.all_map]
    simp only[List.getD_cons_zero,Function.comp_def,List.getD_cons_succ,ih]
    simp[List.cons_beq_cons]
  | [],_ :: _,h=>by simp at h
  | _ :: _,[],h=>by simp at h
theorem qs{P:Program}(w:World)(t e:TypeId)(k:IntKind)(n:Nat)(ht:P.underlying t=some (.array n e))(he:P.underlying e=some (.int k))(hsz:∀ w,(sizeOf e).run P w = .ok 1 w)
    (xs ys:List Int) (hx:xs.length=n) (hy:ys.length=n) :
    (binOp .eql t (.agg (xs.map (Value.int k)).toArray) (.agg (ys.map (Value.int k)).toArray)).run P w = .ok (.bool (xs==ys)) w:=by
  rw[run_eql_struct]
  suffices h:(Op.equalIn 10000 t (.agg (xs.map (Value.int k)).toArray) (.agg (ys.map (Value.int k)).toArray)).run P w = .ok (xs==ys) w by
    rw[h]
    rfl
  rw[show(10000:Nat)=9998+2 from rfl]
  rw[← jU xs ys (hx.trans hy.symm),hx,List.range_eq_range',Op.equalIn]
  simp only[Sem.run_bind,run_underlying ht,Result.andThen_ok,hsz,Std.Legacy.Range.forIn_eq_forIn_range',Std.Legacy.Range.size,Nat.sub_zero,Nat.add_sub_cancel,Nat.div_one]
  have hl:∀ i∈List.range' 0 n 1,i<n:=fun i hi=>by simpa using (List.mem_range'_1.1 hi).2
  generalize List.range' 0 n 1=l at hl ⊢
  induction l with
  | nil=>simp
  | cons i l ih =>
    have hi:i<n:=hl i (by simp)
    have px:(part e (xs.map (Value.int k)).toArray (i*1)).run P w = .ok (Value.int k (xs.getD i 0)) w:=by
      simp[part,isAgg,run_underlying he,List.getD,List.getElem?_eq_getElem (show i<xs.length by omega)]
    have py:(part e (ys.map (Value.int k)).toArray (i*1)).run P w = .ok (Value.int k (ys.getD i 0)) w:=by
      simp[part,isAgg,run_underlying he,List.getD,List.getElem?_eq_getElem (show i<ys.length by omega)]
    have pe:(Op.equalIn (9998+1) e (Value.int k (xs.getD i 0)) (Value.int k (ys.getD i 0))).run P w = .ok (xs.getD i 0==ys.getD i 0) w:=run_equalIn_int w 9998 e k k _ _ he
    simp only[List.forIn_cons,Sem.run_bind,px,py,pe,Result.andThen_ok,List.all_cons]
    cases hb:(xs.getD i 0==ys.getD i 0)
    · simp
    · simp only[Bool.not_true,Bool.false_eq_true,if_false,Sem.run_pure,Result.andThen_ok,Bool.true_and]
      exact ih fun j hj=>hl j (by simp[hj])
variable {B:aS}
theorem zV{A:aS}(ha:g8 A)(hb:g8 B) : eI A=eI B↔A = { B with words:=A.words,bits:=A.bits,data:=A.data,recs:=A.recs,objects:=A.objects }:=by
  obtain⟨_,_,_,_,_,_,_,_,_,_,_,_,a1,a2,a3,a4,_⟩:=ha
  obtain⟨_,_,_,_,_,_,_,_,_,_,_,_,b1,b2,b3,b4,_⟩:=hb
  cases A;cases B
  simp only[B8] at a1 a2 a3 a4 b1 b2 b3 b4
  simp only[eI,List.cons.injEq,and_true,aS.mk.injEq,true_and]
  constructor
  · rintro⟨h1,h2,h3,h4,h5,h6,h7,h8,h9,a,b,c,e,f,d⟩
    refine⟨h1,h2,h3,h4,h5,h6,h7,h8,h9,a,b,c,?_,?_,?_,?_,d⟩<;>omega
  · rintro⟨h1,h2,h3,h4,h5,h6,h7,h8,h9,a,b,c,e,f,d,h,g⟩
    refine⟨h1,h2,h3,h4,h5,h6,h7,h8,h9,a,b,c,?_,?_,g⟩<;>omega
theorem CJ{A:aS}(ha:g8 A)(hb:g8 B) : A=B↔eI A=eI B∧A.words=B.words∧A.bits=B.bits∧A.data=B.data∧A.recs=B.recs∧A.objects=B.objects:=by
  rw[zV ha hb]
  constructor
  · rintro rfl
    exact⟨rfl,rfl,rfl,rfl,rfl,rfl⟩
  · rintro⟨h1,h2,h3,h4,h5,h6⟩
    rw[h1,h2,h3,h4,h5,h6]
open Go.RowKit
theorem rb{ev:Operand→Value}{o:Oper}{x y:Operand}{t:TypeId}{A:aS}  (ho:o.op = .binOp .eql 158 x y t)(hx:ev x = .agg (j0 A))(hy:ev y = .agg (j0 B)) :
    (execOp ev o).run Tryz.prog w = .ok (.value (.bool (eI A==eI B))) w:=by
  have hg:(eqGuard .eql 158 x y (.agg (j0 A)) (.agg (j0 B))).run Tryz.prog w = .ok () w:=run_eqGuard_agg w .eql _ x y _ _ (by kernel_rfl)
  have he:(binOp .eql 158 (.agg (j0 A)) (.agg (j0 B))).run Tryz.prog w = .ok (.bool (eI A==eI B)) w:=qs (P:=Tryz.prog) w 158 37 .u16 15 Tryz.underlying158 Tryz.underlying37 (fun w=>by kernel_rfl) (eI A) (eI B) rfl rfl
  unfold execOp
  simp only[ho,hx,hy,Sem.run_bind,hg,he,Sem.run_pure,Result.andThen]
theorem iz{A:aS}(ha:g8 A)(hb:g8 B) : decide (A=B)=(eI A==eI B&&(decide (A.words=B.words)&&(decide (A.bits=B.bits)&&(decide (A.data=B.data)&&(decide (A.recs=B.recs)&&decide (A.objects=B.objects)))))):=by
  rw[Bool.eq_iff_iff]
  simp only[Bool.and_eq_true,decide_eq_true_eq,beq_iff_eq]
  exact CJ ha hb
theorem ij{pc qc:Array Value}{A:aS}  (ha:aH m w pc.toList A)(hb:aH m' w qc.toList B) :
    Calls Tryz.prog 94 #[.agg pc,.agg qc] w (eg (decide (A=B)) w):=by
 have pM:=ha
 obtain⟨pvw,pvb,pvd,pvr,pvo,ph0,phw,phb,phd,phr,pho,pR⟩:=ha
 obtain rfl:pc=(ez A pvw pvb pvd pvr pvo).toArray:=by apply Array.toList_inj.1;simpa using ph0
 clear ph0
 obtain⟨pw,pkw,rfl,_,_⟩:=phw.shape
 obtain⟨pb,pkb,rfl,_,_⟩:=phb.shape
 obtain⟨pd,pkd,rfl,_,_⟩:=phd.shape
 obtain⟨pr,pkr,rfl,_,_⟩:=phr.shape
 obtain⟨po,pko,rfl,_,_⟩:=pho.shape
 have qM:=hb
 obtain⟨qvw,qvb,qvd,qvr,qvo,qh0,qhw,qhb,qhd,qhr,qho,qR⟩:=hb
 obtain rfl:qc=(ez B qvw qvb qvd qvr qvo).toArray:=by apply Array.toList_inj.1;simpa using qh0
 clear qh0
 obtain⟨qw,qkw,rfl,_,_⟩:=qhw.shape
 obtain⟨qb,qkb,rfl,_,_⟩:=qhb.shape
 obtain⟨qd,qkd,rfl,_,_⟩:=qhd.shape
 obtain⟨qr,qkr,rfl,_,_⟩:=qhr.shape
 obtain⟨qo,qko,rfl,_,_⟩:=qho.shape
 refine en 47 Tryz.func94 rfl<|sg<|L0<|cY (mG A.code A.fail A.addr A.count A.value A.and_ A.or_ A.addr2 A.sub A.status A.events A.messages (.slice pw A.words.length pkw) (.slice pb A.bits.length pkb) (.slice pd A.data.length pkd) (.slice pr A.recs.length pkr) A.mei A.kind A.level A.more A.next (.slice po A.objects.length pko)) fun k ak al ab ac=>L0<|cY (mG B.code B.fail B.addr B.count B.value B.and_ B.or_ B.addr2 B.sub B.status B.events B.messages (.slice qw B.words.length qkw) (.slice qb B.bits.length qkb) (.slice qd B.data.length qkd) (.slice qr B.recs.length qkr) B.mei B.kind B.level B.more B.next (.slice qo B.objects.length qko)) fun l am an ad X=>ah 1<|sq<|Rg 43 (fun w'=>w'.heap[k]? = some (.cells (mG A.code A.fail A.addr A.count A.value A.and_ A.or_ A.addr2 A.sub A.status A.events A.messages (.slice pw A.words.length pkw) (.slice pb A.bits.length pkb) (.slice pd A.data.length pkd) (.slice pr A.recs.length pkr) A.mei A.kind A.level A.more A.next (.slice po A.objects.length pko)) 45 (0,0))∧w'.heap[l]? = some (.cells (mG B.code B.fail B.addr B.count B.value B.and_ B.or_ B.addr2 B.sub B.status B.events B.messages (.slice qw B.words.length qkw) (.slice qb B.bits.length qkb) (.slice qd B.data.length qkd) (.slice qr B.recs.length qkr) B.mei B.kind B.level B.more B.next (.slice qo B.objects.length qko)) 45 (0,0))∧w'.cell? ⟨k,12,none⟩=some (.slice pw A.words.length pkw)∧w'.cell? ⟨l,12,none⟩=some (.slice qw B.words.length qkw)∧w'.cell? ⟨k,13,none⟩=some (.slice pb A.bits.length pkb)∧w'.cell? ⟨l,13,none⟩=some (.slice qb B.bits.length qkb)∧w'.cell? ⟨k,14,none⟩=some (.slice pd A.data.length pkd)∧aV false w' (.slice pd A.data.length pkd) A.data∧w'.cell? ⟨l,14,none⟩=some (.slice qd B.data.length qkd)∧aV false w' (.slice qd B.data.length qkd) B.data∧w'.cell? ⟨k,15,none⟩=some (.slice pr A.recs.length pkr)∧w'.cell? ⟨l,15,none⟩=some (.slice qr B.recs.length qkr)∧w'.cell? ⟨k,21,none⟩=some (.slice po A.objects.length pko)∧w'.cell? ⟨l,21,none⟩=some (.slice qo B.objects.length qko)) fun ao U=>?_
 have o:=ub (aJ X U) ab
 have p:=ub U ad
 have Q:=aJ (aJ ac X) U
 have Y:=aV.old phd Q
 have Z:=aV.old qhd Q
 refine bv ⟨o,p,(ae o rfl),(ae p rfl),(ae o rfl),(ae p rfl),(ae o rfl),(aT.any Y (fun _ _ h=>h)),(ae p rfl),(aT.any Z (fun _ _ h=>h)),(ae o rfl),(ae p rfl),(ae o rfl),(ae p rfl)⟩ fun a0=>Rr 0 a0 (.agg (mG A.code A.fail A.addr A.count A.value A.and_ A.or_ A.addr2 A.sub A.status A.events A.messages (.slice pw A.words.length pkw) (.slice pb A.bits.length pkb) (.slice pd A.data.length pkd) (.slice pr A.recs.length pkr) A.mei A.kind A.level A.more A.next (.slice po A.objects.length pko))) (fun w' hs=>gS (g:=k) (off:=0) [vB A.code,vB A.fail,vW A.addr,vW A.count,vW A.value,vW A.and_,vW A.or_,vW A.addr2,vW A.sub,vW A.status,vW A.events,vW A.messages,.slice pw A.words.length pkw,.slice pb A.bits.length pkb,.slice pd A.data.length pkd,.slice pr A.recs.length pkr,vB A.mei,vB A.kind,vB A.level,vB A.more,vB A.next,.slice po A.objects.length pko] rfl (by kernel_rfl) hs.1 (by kernel_rfl) (by kernel_rfl) rfl)<|Rr 2 a0 (.agg (mG B.code B.fail B.addr B.count B.value B.and_ B.or_ B.addr2 B.sub B.status B.events B.messages (.slice qw B.words.length qkw) (.slice qb B.bits.length qkb) (.slice qd B.data.length qkd) (.slice qr B.recs.length qkr) B.mei B.kind B.level B.more B.next (.slice qo B.objects.length qko))) (fun w' hs=>gS (g:=l) (off:=0) [vB B.code,vB B.fail,vW B.addr,vW B.count,vW B.value,vW B.and_,vW B.or_,vW B.addr2,vW B.sub,vW B.status,vW B.events,vW B.messages,.slice qw B.words.length qkw,.slice qb B.bits.length qkb,.slice qd B.data.length qkd,.slice qr B.recs.length qkr,vB B.mei,vB B.kind,vB B.level,vB B.more,vB B.next,.slice qo B.objects.length qko] rfl (by kernel_rfl) hs.2.1 (by kernel_rfl) (by kernel_rfl) rfl)<|?_
 refine R0 1 rfl<|Oc<|m1 (p7 (aH.old pM Q)) fun ap I=>?_
 have q:=ub I o
 have r:=ub I p
 have a1:=aV.old Y I
 have a2:=aV.old Z I
 refine bv ⟨q,r,(ae q rfl),(ae r rfl),(ae q rfl),(ae r rfl),(ae q rfl),(aT.any a1 (fun _ _ h=>h)),(ae r rfl),(aT.any a2 (fun _ _ h=>h)),(ae q rfl),(ae r rfl),(ae q rfl),(ae r rfl)⟩ fun aq=>?_
 have a3:=aJ Q I
 refine R0 3 rfl<|Oc<|m1 (p7 (aH.old qM a3)) fun ar J=>?_
 have s:=ub J q
 have t:=ub J r
 have a4:=aV.old a1 J
 have a5:=aV.old a2 J
 refine bv ⟨s,t,(ae s rfl),(ae t rfl),(ae s rfl),(ae t rfl),(ae s rfl),(aT.any a4 (fun _ _ h=>h)),(ae t rfl),(aT.any a5 (fun _ _ h=>h)),(ae s rfl),(ae t rfl),(ae s rfl),(ae t rfl)⟩ fun e=>Rr 4 e (.bool (eI A==eI B)) (fun _ _=>rb rfl (by kernel_rfl) (by kernel_rfl))<|Rt 5 e<|?_
 have R:=aJ a3 J
 refine wc 10 ((eI A==eI B)) (fun u=>?_) (fun u=>?_)
 refine Rt 6 e<|Rl 7 e (fun _ hs=>hs.2.2.1)<|Rt 8 e<|Rl 9 e (fun _ hs=>hs.2.2.2.1)<|?_
 refine R0 10 rfl<|Oc<|m1 (vi (eF.old phw R) (eF.old qhw R)) fun au K=>?_
 have v:=ub K s
 have x:=ub K t
 have a6:=aV.old a4 K
 have a7:=aV.old a5 K
 refine bv ⟨v,x,(ae v rfl),(ae x rfl),(ae v rfl),(ae x rfl),(ae v rfl),(aT.any a6 (fun _ _ h=>h)),(ae x rfl),(aT.any a7 (fun _ _ h=>h)),(ae v rfl),(ae x rfl),(ae v rfl),(ae x rfl)⟩ fun f=>Rt 11 f<|Rt 12 f<|?_
 have S:=aJ R K
 refine wc 17 ((decide (A.words=B.words))) (fun j=>?_) (fun j=>?_)
 have af:=of_decide_eq_true j
 refine Rt 13 f<|Rl 14 f (fun _ hs=>hs.2.2.2.2.1)<|Rt 15 f<|Rl 16 f (fun _ hs=>hs.2.2.2.2.2.1)<|?_
 refine R0 17 rfl<|Oc<|m1 (Bf (jc.old phb S) (jc.old qhb S)) fun av L=>?_
 have y:=ub L v
 have z:=ub L x
 have V:=aV.old a6 L
 have W:=aV.old a7 L
 refine bv ⟨y,z,(ae y rfl),(ae z rfl),(ae y rfl),(ae z rfl),(ae y rfl),(aT.any V (fun _ _ h=>h)),(ae z rfl),(aT.any W (fun _ _ h=>h)),(ae y rfl),(ae z rfl),(ae y rfl),(ae z rfl)⟩ fun d=>Rt 18 d<|Rt 19 d<|?_
 have M:=aJ S L
 refine wc 24 ((decide (A.bits=B.bits))) (fun C=>?_) (fun C=>?_)
 have ag:=of_decide_eq_true C
 refine Rt 20 d<|Rl 21 d (fun _ hs=>hs.2.2.2.2.2.2.1)<|Rr 22 d (.string (strOfNums A.data)) (fun _ hs=>cJ (A:=pd) (n:=A.data.length) (c:=pkd) rfl (by kernel_rfl) Tryz.underlying27 Tryz.underlying5 Tryz.underlying9 hs.2.2.2.2.2.2.2.1)<|Rt 23 d<|Rl 24 d (fun _ hs=>hs.2.2.2.2.2.2.2.2.1)<|Rr 25 d (.string (strOfNums B.data)) (fun _ hs=>cJ (A:=qd) (n:=B.data.length) (c:=qkd) rfl (by kernel_rfl) Tryz.underlying27 Tryz.underlying5 Tryz.underlying9 hs.2.2.2.2.2.2.2.2.2.1)<|Rr 26 d (.bool (decide (A.data=B.data))) (fun _ _=>fX (a:=(strOfNums A.data)) (b:=(strOfNums B.data)) rfl (by kernel_rfl) (by kernel_rfl) (jW V W))<|Rt 27 d<|Rt 28 d<|wc 33 ((decide (A.data=B.data))) (fun F=>?_) (fun F=>?_)
 have ai:=of_decide_eq_true F
 refine Rt 29 d<|Rl 30 d (fun _ hs=>hs.2.2.2.2.2.2.2.2.2.2.1)<|Rt 31 d<|Rl 32 d (fun _ hs=>hs.2.2.2.2.2.2.2.2.2.2.2.1)<|?_
 refine R0 33 rfl<|Oc<|m1 (Ac (oA.old phr M) (oA.old qhr M)) fun aw N=>?_
 have D:=ub N y
 have E:=ub N z
 have a8:=aV.old V N
 have a9:=aV.old W N
 refine bv ⟨D,E,(ae D rfl),(ae E rfl),(ae D rfl),(ae E rfl),(ae D rfl),(aT.any a8 (fun _ _ h=>h)),(ae E rfl),(aT.any a9 (fun _ _ h=>h)),(ae D rfl),(ae E rfl),(ae D rfl),(ae E rfl)⟩ fun i=>Rt 34 i<|Rt 35 i<|?_
 have T:=aJ M N
 refine wc 40 ((decide (A.recs=B.recs))) (fun O=>?_) (fun O=>?_)
 have aj:=of_decide_eq_true O
 refine Rt 36 i<|Rl 37 i (fun _ hs=>hs.2.2.2.2.2.2.2.2.2.2.2.2.1)<|Rt 38 i<|Rl 39 i (fun _ hs=>hs.2.2.2.2.2.2.2.2.2.2.2.2.2)<|?_
 refine R0 40 rfl<|Oc<|m1 (AN (qi.old pho T) (qi.old qho T)) fun ax P=>?_
 have G:=ub P D
 have H:=ub P E
 refine bv ⟨G,H,(ae G rfl),(ae H rfl),(ae G rfl),(ae H rfl),(ae G rfl),(aT.any (aV.old a8 P) (fun _ _ h=>h)),(ae H rfl),(aT.any (aV.old a9 P) (fun _ _ h=>h)),(ae G rfl),(ae H rfl),(ae G rfl),(ae H rfl)⟩ fun aa=>Rt 41 aa<|Rt 42 aa<|re<|tn<|rt<|rr (.bool (decide (A.objects=B.objects)))<|?_
 have hs:decide (A=B)=(decide (A.objects=B.objects)):=by
   rw[iz pR qR]
   (try simp only[u,j,C,F,O,bi])
 rw[hs]
 exact⟨rfl,(aJ T P)⟩
 have aj:=of_decide_eq_false O
 refine Ro 36 i<|Ro 37 i<|Ro 38 i<|Ro 39 i<|Ro 40 i<|Rt 41 i<|Rt 42 i<|re<|tn<|rt<|rr (.bool false)<|?_
 have hs:decide (A=B)=false:=by
   rw[iz pR qR]
   (try simp only[u,j,C,F,O,bi])
 rw[hs]
 exact⟨rfl,T⟩
 have ai:=of_decide_eq_false F
 refine Ro 29 d<|Ro 30 d<|Ro 31 d<|Ro 32 d<|Ro 33 d<|Rt 34 d<|Rt 35 d<|Ro 36 d<|Ro 37 d<|Ro 38 d<|Ro 39 d<|Ro 40 d<|Rt 41 d<|Rt 42 d<|re<|tn<|rt<|rr (.bool false)<|?_
 have hs:decide (A=B)=false:=by
   rw[iz pR qR]
   (try simp only[u,j,C,F,bi])
 rw[hs]
 exact⟨rfl,M⟩
 have ag:=of_decide_eq_false C
 refine Ro 20 d<|Ro 21 d<|Ro 22 d<|Ro 23 d<|Ro 24 d<|Ro 25 d<|Ro 26 d<|Rt 27 d<|Rt 28 d<|Ro 29 d<|Ro 30 d<|Ro 31 d<|Ro 32 d<|Ro 33 d<|Rt 34 d<|Rt 35 d<|Ro 36 d<|Ro 37 d<|Ro 38 d<|Ro 39 d<|Ro 40 d<|Rt 41 d<|Rt 42 d<|re<|tn<|rt<|rr (.bool false)<|?_
 have hs:decide (A=B)=false:=by
   rw[iz pR qR]
   (try simp only[u,j,C,bi])
 rw[hs]
 exact⟨rfl,M⟩
 have af:=of_decide_eq_false j
 refine Ro 13 f<|Ro 14 f<|Ro 15 f<|Ro 16 f<|Ro 17 f<|Rt 18 f<|Rt 19 f<|Ro 20 f<|Ro 21 f<|Ro 22 f<|Ro 23 f<|Ro 24 f<|Ro 25 f<|Ro 26 f<|Rt 27 f<|Rt 28 f<|Ro 29 f<|Ro 30 f<|Ro 31 f<|Ro 32 f<|Ro 33 f<|Rt 34 f<|Rt 35 f<|Ro 36 f<|Ro 37 f<|Ro 38 f<|Ro 39 f<|Ro 40 f<|Rt 41 f<|Rt 42 f<|re<|tn<|rt<|rr (.bool false)<|?_
 have hs:decide (A=B)=false:=by
   rw[iz pR qR]
   (try simp only[u,j,bi])
 rw[hs]
 exact⟨rfl,S⟩
 refine Ro 6 e<|Ro 7 e<|Ro 8 e<|Ro 9 e<|Ro 10 e<|Rt 11 e<|Rt 12 e<|Ro 13 e<|Ro 14 e<|Ro 15 e<|Ro 16 e<|Ro 17 e<|Rt 18 e<|Rt 19 e<|Ro 20 e<|Ro 21 e<|Ro 22 e<|Ro 23 e<|Ro 24 e<|Ro 25 e<|Ro 26 e<|Rt 27 e<|Rt 28 e<|Ro 29 e<|Ro 30 e<|Ro 31 e<|Ro 32 e<|Ro 33 e<|Rt 34 e<|Rt 35 e<|Ro 36 e<|Ro 37 e<|Ro 38 e<|Ro 39 e<|Ro 40 e<|Rt 41 e<|Rt 42 e<|re<|tn<|rt<|rr (.bool false)<|?_
 have hs:decide (A=B)=false:=by
   rw[iz pR qR]
   (try simp only[u,bi])
 rw[hs]
 exact⟨rfl,R⟩
open Go.RowKit
def kf (Q:World→Ending→World→Prop)(w:World)(e:Ending)(w':World) : Prop:=∃ F free,e = .returned (.func (.func F) #[] free)∧D5 Tryz.prog F=some (false,true)∧aI [] w w'∧Calls Tryz.prog F free w' (Q w')
variable {C:ap}{g:Nat}{most:Int}
theorem pf{a:Int}(hC:aj w g C)(ha:0≤a∧a<65536) :
    Calls Tryz.prog 199 #[vP g 0,vW a,vI most] w (pB g .i64 65536 C.wordV (bI C a most) w):=by
 have hlen:=hC.len
 have hrr:=hC.wordV
 refine en 26 Tryz.func199 rfl<|aq 1<|aL 1<|ay<|m3 (bZ hC) fun l d e m=>bp C.wordV<|ah 1<|aq 4<|cu 4 [14] 18 (((decide (1≤C.wordV))&&(decide (C.wordV≤most)))) (fun K c=>?_) ?_
 refine bl 14 ((decide (1≤C.wordV))) (fun b=>?_) (fun b=>?_)
 have f:=of_decide_eq_true b
 exact Pl 4<|ce c (decide (C.wordV≤most)) (by rw[b];rfl)
 have f:=of_decide_eq_false b
 exact Pl 4<|ce c false (by rw[b];rfl)
 refine ay<|m2 (bq (((decide (1≤C.wordV))&&(decide (C.wordV≤most)))) 5 d) fun o h i=>aL 3<|ay<|mq (ki (a:=a) (n:=C.wordV) (by omega))<|ay<|m2 (bq ((dY a C.wordV)) 7 h) fun p j k=>aL 2<|nl<|tn<|rt<|rr (vI C.wordV)<|?_
 exact cI (by unfold bI;(try simp only[bi,reduceIte])<;>rfl) ⟨rfl,j,(u1 e (u1 i k im) im),hrr⟩
theorem lS{n:Int}(hC:aj w g C)(hn:0≤n∧n<65536) :
    Calls Tryz.prog 205 #[vP g 0,vI n] w (fun e w'=>∃ v,e = .returned v∧m8 w.heap.size w' v ((d8 C n).wordsR n)∧aj w' g ((d8 C n).wordsC n)∧aI [g] w w'):=by
 have hlen:=hC.len
 refine en 16 Tryz.func205 rfl<|aq 1<|aL 2<|ay<|m3 (bX hC) fun l c a m=>bp C.byteV<|Pl 1<|bp (2*n)<|Pl 1<|ay<|m2 (bq ((C.byteV==(2*n))) 5 c) fun o d b=>?_
 refine aL 2<|ay<|qk (eU (n:=n) d) fun f h p i q r j k=>ah 1<|rt<|rr (.slice f ((((C.bytesC 1).need (C.byteV==(2*n)) 5).wordsR n).length) h)<|?_
 have hs:d8 C n=((C.bytesC 1).need (C.byteV==(2*n)) 5):=by
   unfold d8
   (try simp only[bi,reduceIte])
   all_goals rfl
 rw[hs]
 exact⟨_,rfl,(aZ.weaken i (le a.size b.size)),j,(u1 a (u1 b k im) im)⟩
variable {bc bm gm:Nat}{c:Int}
theorem jz(hcode:B8 c)(hC:aj w g C)(hm:w.heap[gm]? = some (.cells (mC c) 45 (0,0)))(hne:g≠gm)   (hbc:w.heap[bc]? = some (.cells #[vP g 0] 164 (0,0)))(n_bc_g:bc≠g)(n_bc_gm:bc≠gm)(hbm:w.heap[bm]? = some (.cells #[vP gm 0] 166 (0,0)))(n_bm_g:bm≠g)(n_bm_gm:bm≠gm) :
    Calls Tryz.prog 198 #[vI most,vP bc 0,vP bm 0] w (tL g gm (bI (C.wordsC 1) C.wordV most) (mG c 0 C.wordV (C.wordsC 1).wordV 0 0 0 0 0 0 0 0 nS nS nS nS 0 0 0 0 0 nS) w):=by
 obtain⟨hcode1,hcode2⟩:=hcode
 have hlen:=hC.len
 refine en 20 Tryz.func198 rfl<|sq<|Rg 6 (fun w'=>w'.cell? ⟨bm,0,none⟩=some (vP gm 0)∧w'.cell? ⟨bc,0,none⟩=some (vP g 0)) fun I d=>?_
 have m:=ub d hbm
 have n:=ub d hbc
 refine bv ⟨(ae m rfl),(ae n rfl)⟩ fun o=>Rl 0 o (fun _ hs=>hs.1)<|Rl 1 o (fun _ hs=>hs.2)<|?_
 refine R0 2 rfl<|Oc<|m3 (bZ (aj.old hC d)) fun J F i K=>?_
 have p:=bj i n_bm_g m
 have q:=bj i n_bc_g n
 refine bv ⟨(ae p rfl),(ae q rfl)⟩ fun r=>Rt 3 r<|Rt 4 r<|?_
 have s:=uz d i
 have t:=bj s (Ne.symm hne) hm
 refine R0 5 rfl<|bY t 2 (mG c 0 C.wordV 0 0 0 0 0 0 0 0 0 nS nS nS nS 0 0 0 0 0 nS) fun L G j=>?_
 have u:=bj j n_bm_gm p
 have v:=bj j n_bc_gm q
 refine bv ⟨(ae u rfl),(ae v rfl)⟩ fun M=>re<|tn<|Rg 12 (fun w'=>w'.cell? ⟨bm,0,none⟩=some (vP gm 0)∧w'.cell? ⟨bc,0,none⟩=some (vP g 0)∧w'.cell? ⟨gm,2,none⟩=some (vW C.wordV)) fun N e=>?_
 have x:=ub e u
 have y:=ub e v
 have z:=ub e G
 refine bv ⟨(ae x rfl),(ae y rfl),(ae z rfl)⟩ fun b=>Rl 0 b (fun _ hs=>hs.1)<|Rl 1 b (fun _ hs=>hs.2.1)<|Rl 2 b (fun _ hs=>hs.1)<|Rt 3 b<|Rt 4 b<|Rl 5 b (fun _ hs=>hs.2.2)<|Rt 6 b<|?_
 have A:=aJ j e
 refine R0 7 rfl<|Oc<|m3 (pf (a:=C.wordV) (most:=most) (aj.upd F A (aa hne aE) (av (b9 t (by decide)) aM)) (by omega)) fun O H f P=>?_
 have B:=bj f n_bm_g x
 have D:=bj f n_bc_g y
 have k:=bj f (Ne.symm hne) z
 refine bv ⟨(ae B rfl),(ae D rfl),(ae k rfl)⟩ fun l=>Rr 8 l (vW ((C.wordsC 1).wordV)) (fun _ _=>bO (vW (IntKind.u16.wrap ((C.wordsC 1).wordV))) (by kernel_rfl) (congrArg (Value.int .u16) (jl (by omega))))<|Rt 9 l<|Rt 10 l<|R0 11 rfl<|bY k 3 (mG c 0 C.wordV ((C.wordsC 1).wordV) 0 0 0 0 0 0 0 0 nS nS nS nS 0 0 0 0 0 nS) fun Q E h=>?_
 refine bv ⟨(ae (bj h n_bm_gm B) rfl),(ae (bj h n_bc_gm D) rfl),(ae E rfl)⟩ fun R=>re<|rm (.tuple #[])<|?_
 exact⟨rfl,(aj.upd H h (aa hne aE) (av (b9 k (by decide)) aM)),E,(ui s (ui A (us f h)))⟩
variable {bw:Nat}
theorem F1(hcode:B8 c)(hC:aj w g C)(hm:w.heap[gm]? = some (.cells (mC c) 45 (0,0)))(hne:g≠gm)    (hbc:w.heap[bc]? = some (.cells #[vP g 0] 164 (0,0)))(n_bc_g:bc≠g)(n_bc_gm:bc≠gm)(hbm:w.heap[bm]? = some (.cells #[vP gm 0] 166 (0,0)))(n_bm_g:bm≠g)(n_bm_gm:bm≠gm)(hbw:w.heap[bw]? = some (.cells #[.func (.func 198) #[] #[vP bc 0,vP bm 0]] 218 (0,0)))(n_bw_g:bw≠g)(n_bw_gm:bw≠gm) :
    Calls Tryz.prog 200 #[vP bw 0] w (cO g gm (cn 125 c C).1 (cn 125 c C).2 w):=by
 obtain⟨hcode1,hcode2⟩:=hcode
 have hlen:=hC.len
 refine en 3 Tryz.func200 rfl<|go<|aC hbw 0<|L0<|i8 #[] #[vP bc 0,vP bm 0] (args:=#[vI 125,vP bc 0,vP bm 0])<|m3 (jz (most:=125) ⟨hcode1,hcode2⟩ hC hm hne hbc n_bc_g n_bc_gm hbm n_bm_g n_bm_gm) fun e a b d=>?_
 have f:=(hC).wordV
 have h:=bN (cS (hC).rng 1)
 refine nl<|rm (.tuple #[])<|?_
 have hs:cn 125 c C=((bI (C.wordsC 1) C.wordV 125),(aS.mk c 0 C.wordV ((C.wordsC 1).wordV) 0 0 0 0 0 0 0 0 [] [] [] [] 0 0 0 0 0 [])):=by
   unfold cn
   (try simp only[bi,reduceIte])
   all_goals rfl
 rw[hs]
 exact⟨rfl,a,⟨_,⟨b,rfl⟩,⟨_,_,_,_,_,rfl,aT.nil ..,aT.nil ..,aT.nil ..,aT.nil ..,aT.nil ..,(cP (by omega))⟩⟩,d⟩
theorem Em(hcode:B8 c)(hC:aj w g C)(hm:w.heap[gm]? = some (.cells (mC c) 45 (0,0)))(hne:g≠gm)   (hbc:w.heap[bc]? = some (.cells #[vP g 0] 164 (0,0)))(n_bc_g:bc≠g)(n_bc_gm:bc≠gm)(hbm:w.heap[bm]? = some (.cells #[vP gm 0] 166 (0,0)))(n_bm_g:bm≠g)(n_bm_gm:bm≠gm) :
    Calls Tryz.prog 201 #[vP bc 0,vP bm 0] w (cO g gm (cF c C).1 (cF c C).2 w):=by
 obtain⟨hcode1,hcode2⟩:=hcode
 have hlen:=hC.len
 refine en 26 Tryz.func201 rfl<|sg<|aC hbc 0<|ay<|m3 (bX hC) fun L B k M=>bp C.byteV<|Pl 1<|ng<|?_
 have l:=bj k n_bc_g hbc
 refine aC l 0<|Pl 1<|L0<|Oe (vI (Int.tmod C.byteV 2)) (vI (C.byteV%2)) (congrArg (Value.int .i64) (Int.tmod_eq_emod_of_nonneg (by omega)))<|Pl 2<|cu 3 [10] 13 ((((C.byteV%2)==0)&&(decide (2≤C.byteV)))) (fun K m=>?_) ?_
 refine bl 10 (((C.byteV%2)==0)) (fun a=>?_) (fun a=>?_)
 have D:=ag a
 exact Pl 3<|ce m (decide (2≤C.byteV)) (by rw[a];rfl)
 have D:=ai a
 exact Pl 3<|ce m false (by rw[a];rfl)
 refine Pl 1<|cu 3 [14] 17 (((((C.byteV%2)==0)&&(decide (2≤C.byteV)))&&(decide (C.byteV≤250)))) (fun K o=>?_) ?_
 refine bl 14 ((((C.byteV%2)==0)&&(decide (2≤C.byteV)))) (fun f=>?_) (fun f=>?_)
 exact Pl 3<|ce o (decide (C.byteV≤250)) (by rw[f];rfl)
 exact Pl 3<|ce o false (by rw[f];rfl)
 refine ay<|m2 (bq (((((C.byteV%2)==0)&&(decide (2≤C.byteV)))&&(decide (C.byteV≤250)))) 5 B) fun N E F=>nt<|Rg 8 (fun w'=>w'.cell? ⟨bm,0,none⟩=some (vP gm 0)∧w'.cell? ⟨bc,0,none⟩=some (vP g 0)) fun O p=>?_
 have q:=aJ F p
 have i:=u1 k q im
 have r:=bj i n_bm_g hbm
 have s:=bj q n_bc_g l
 refine bv ⟨(ae r rfl),(ae s rfl)⟩ fun d=>Rl 0 d (fun _ hs=>hs.1)<|Rl 1 d (fun _ hs=>hs.2)<|Rt 2 d<|Rr 3 d (vI (C.byteV/2)) (fun _ _=>bO (vI (IntKind.i64.wrap (Int.tdiv C.byteV 2))) (by kernel_rfl) (congrArg (Value.int .i64) (gW (by omega) (by omega))))<|?_
 refine R0 4 rfl<|Oc<|qk (eU (n:=(C.byteV/2)) (aj.old E p)) fun G H P t Q R I j=>?_
 have u:=bj j n_bm_g r
 have v:=bj j n_bc_g s
 refine bv ⟨(ae u rfl),(ae v rfl)⟩ fun y=>Rt 5 y<|Rt 6 y<|?_
 have z:=u1 i j im
 have A:=bj z (Ne.symm hne) hm
 refine R0 7 rfl<|bY A 12 (mG c 0 0 0 0 0 0 0 0 0 0 0 (.slice G ((((C.bytesC 1).need ((((C.byteV%2)==0)&&(decide (2≤C.byteV)))&&(decide (C.byteV≤250))) 5).wordsR (C.byteV/2)).length) H) nS nS nS 0 0 0 0 0 nS) fun S J b=>?_
 refine bv ⟨(ae (bj b n_bm_gm u) rfl),(ae (bj b n_bc_gm v) rfl)⟩ fun T=>re<|rm (.tuple #[])<|?_
 exact cI (by unfold cF lI jo;(try simp only[bi,reduceIte])<;>rfl) ⟨rfl,(aj.upd I b (aa hne aE) (av (b9 A (by decide)) aM)),⟨_,⟨J,rfl⟩,⟨_,_,_,_,_,rfl,((au t b (fun x hx=>(aa (fun e=>(aO (az hm) i.size t) (e▸hx)) aE)) (fun _ _ h=>h))).rd,aT.nil ..,aT.nil ..,aT.nil ..,aT.nil ..,(cP (by omega))⟩⟩,(us z b)⟩
theorem EU(hcode:B8 c)(hC:aj w g C)(hm:w.heap[gm]? = some (.cells (mC c) 45 (0,0)))(hne:g≠gm)   (hbc:w.heap[bc]? = some (.cells #[vP g 0] 164 (0,0)))(n_bc_g:bc≠g)(n_bc_gm:bc≠gm)(hbm:w.heap[bm]? = some (.cells #[vP gm 0] 166 (0,0)))(n_bm_g:bm≠g)(n_bm_gm:bm≠gm) :
    Calls Tryz.prog 203 #[vP bc 0,vP bm 0] w (cO g gm (eo c C).1 (eo c C).2 w):=by
 obtain⟨hcode1,hcode2⟩:=hcode
 have hlen:=hC.len
 refine en 12 Tryz.func203 rfl<|Rg 12 (fun w'=>w'.cell? ⟨bm,0,none⟩=some (vP gm 0)∧w'.cell? ⟨bc,0,none⟩=some (vP g 0)) fun A a=>?_
 have i:=ub a hbm
 have j:=ub a hbc
 refine bv ⟨(ae i rfl),(ae j rfl)⟩ fun b=>Rl 0 b (fun _ hs=>hs.1)<|Rl 1 b (fun _ hs=>hs.1)<|Rl 2 b (fun _ hs=>hs.2)<|Rl 4 b (fun _ hs=>hs.2)<|?_
 refine R0 3 rfl<|Oc<|m3 (bZ (aj.old hC a)) fun B v d D=>?_
 have k:=bj d n_bm_g i
 have l:=bj d n_bc_g j
 refine bv ⟨(ae k rfl),(ae l rfl)⟩ fun E=>R0 5 rfl<|Oc<|m3 (bZ v) fun F x e G=>?_
 have m:=bj e n_bm_g k
 have n:=bj e n_bc_g l
 refine bv ⟨(ae m rfl),(ae n rfl)⟩ fun o=>Rt 6 o<|Rt 7 o<|?_
 have p:=uz a (u1 d e im)
 have q:=bj p (Ne.symm hne) hm
 refine R0 8 rfl<|bY q 2 (mG c 0 C.wordV 0 0 0 0 0 0 0 0 0 nS nS nS nS 0 0 0 0 0 nS) fun H y f=>?_
 have r:=bj f n_bm_gm m
 have s:=bj f n_bc_gm n
 refine bv ⟨(ae r rfl),(ae s rfl)⟩ fun t=>Rt 9 t<|Rt 10 t<|R0 11 rfl<|bY y 4 (mG c 0 C.wordV 0 ((C.wordsC 1).wordV) 0 0 0 0 0 0 0 nS nS nS nS 0 0 0 0 0 nS) fun I z h=>?_
 refine bv ⟨(ae (bj h n_bm_gm r) rfl),(ae (bj h n_bc_gm s) rfl)⟩ fun J=>re<|rm (.tuple #[])<|?_
 have hs:eo c C=(((C.wordsC 1).wordsC 1),(aS.mk c 0 C.wordV 0 ((C.wordsC 1).wordV) 0 0 0 0 0 0 0 [] [] [] [] 0 0 0 0 0 [])):=by
   unfold eo
   (try simp only[bi,reduceIte])
   all_goals rfl
 rw[hs]
 have u:=u1 f h im
 exact⟨rfl,(aj.upd x u (aa hne aE) (av (b9 q (by decide)) aM)),⟨_,⟨z,rfl⟩,⟨_,_,_,_,_,rfl,aT.nil ..,aT.nil ..,aT.nil ..,aT.nil ..,aT.nil ..,(cP (by omega))⟩⟩,(us p u)⟩
theorem Eg{ask:Bool}     (hcode:B8 c)(hC:aj w g C)(hm:w.heap[gm]? = some (.cells (mC c) 45 (0,0)))(hne:g≠gm)    {ba:Nat}(hbc:w.heap[bc]? = some (.cells #[vP g 0] 164 (0,0)))(n_bc_g:bc≠g)(n_bc_gm:bc≠gm)(hbm:w.heap[bm]? = some (.cells #[vP gm 0] 166 (0,0)))(n_bm_g:bm≠g)(n_bm_gm:bm≠gm)(hbw:w.heap[bw]? = some (.cells #[.func (.func 198) #[] #[vP bc 0,vP bm 0]] 218 (0,0)))(n_bw_g:bw≠g)(n_bw_gm:bw≠gm)(hba:w.heap[ba]? = some (.cells #[.bool ask] 4 (0,0)))(n_ba_g:ba≠g)(n_ba_gm:ba≠gm)(hask:ask=true) :
    Calls Tryz.prog 204 #[vP bw 0,vP ba 0,vP bc 0,vP bm 0] w (cO g gm (dq c C).1 (dq c C).2 w):=by
 obtain⟨hcode1,hcode2⟩:=hcode
 have hlen:=hC.len
 refine en 17 Tryz.func204 rfl<|sg<|aC hbw 0<|L0<|i8 #[] #[vP bc 0,vP bm 0] (args:=#[vI 123,vP bc 0,vP bm 0])<|m3 (jz (most:=123) ⟨hcode1,hcode2⟩ hC hm hne hbc n_bc_g n_bc_gm hbm n_bm_g n_bm_gm) fun B u v k=>?_
 have D:=(hC).wordV
 have E:=bN (cS (hC).rng 1)
 refine ng<|?_
 refine aC (aI.blk k (aa n_ba_g (aa n_ba_gm aE)) hba) 0<|nt<|ct hask<|Rg 11 (fun w'=>w'.cell? ⟨bm,0,none⟩=some (vP gm 0)∧w'.cell? ⟨bc,0,none⟩=some (vP g 0)∧w'.cell? ⟨gm,3,none⟩=some (vW ((C.wordsC 1).wordV))) fun F i=>?_
 have d:=aJ k i
 have l:=aI.blk d (aa n_bm_g (aa n_bm_gm aE)) hbm
 have m:=aI.blk d (aa n_bc_g (aa n_bc_gm aE)) hbc
 have o:=ub i v
 refine bv ⟨(ae l rfl),(ae m rfl),(ae o rfl)⟩ fun a=>Rl 0 a (fun _ hs=>hs.1)<|Rl 1 a (fun _ hs=>hs.2.1)<|Rl 2 a (fun _ hs=>hs.1)<|Rt 3 a<|Rt 4 a<|Rl 5 a (fun _ hs=>hs.2.2)<|Rr 6 a (vI ((C.wordsC 1).wordV)) (fun _ _=>bO (vI (IntKind.i64.wrap ((C.wordsC 1).wordV))) (by kernel_rfl) (congrArg (Value.int .i64) (i64_in (by omega))))<|?_
 refine R0 7 rfl<|Oc<|qk (lS (n:=(C.wordsC 1).wordV) (aj.old u i) (by omega)) fun y z G p H I A f=>?_
 have q:=bj f n_bm_g l
 have r:=bj f n_bc_g m
 have j:=bj f (Ne.symm hne) o
 refine bv ⟨(ae q rfl),(ae r rfl),(ae j rfl)⟩ fun s=>Rt 8 s<|Rt 9 s<|R0 10 rfl<|bY j 12 (mG c 0 C.wordV ((C.wordsC 1).wordV) 0 0 0 0 0 0 0 0 (.slice y (((d8 (bI (C.wordsC 1) C.wordV 123) ((C.wordsC 1).wordV)).wordsR ((C.wordsC 1).wordV)).length) z) nS nS nS 0 0 0 0 0 nS) fun J t b=>?_
 refine bv ⟨(ae (bj b n_bm_gm q) rfl),(ae (bj b n_bc_gm r) rfl),(ae t rfl)⟩ fun K=>re<|rm (.tuple #[])<|?_
 have hs:dq c C=(((d8 (bI (C.wordsC 1) C.wordV 123) ((C.wordsC 1).wordV)).wordsC ((C.wordsC 1).wordV)),(aS.mk c 0 C.wordV ((C.wordsC 1).wordV) 0 0 0 0 0 0 0 0 ((d8 (bI (C.wordsC 1) C.wordV 123) ((C.wordsC 1).wordV)).wordsR ((C.wordsC 1).wordV)) [] [] [] 0 0 0 0 0 [])):=by
   unfold dq js
   (try simp only[hask,bi,reduceIte])
   all_goals rfl
 rw[hs]
 exact⟨rfl,(aj.upd A b (aa hne aE) (av (b9 j (by decide)) aM)),⟨_,⟨t,rfl⟩,⟨_,_,_,_,_,rfl,((au p b (fun x hx=>(aa (fun e=>(aO (az hm) d.size p) (e▸hx)) aE)) (fun _ _ h=>h))).rd,aT.nil ..,aT.nil ..,aT.nil ..,aT.nil ..,(cP (by omega))⟩⟩,(ut d (us f b) (ac im (ac im aD)))⟩
theorem ER{ask:Bool}     (hcode:B8 c)(hC:aj w g C)(hm:w.heap[gm]? = some (.cells (mC c) 45 (0,0)))(hne:g≠gm)    {ba:Nat}(hbc:w.heap[bc]? = some (.cells #[vP g 0] 164 (0,0)))(n_bc_g:bc≠g)(n_bc_gm:bc≠gm)(hbm:w.heap[bm]? = some (.cells #[vP gm 0] 166 (0,0)))(n_bm_g:bm≠g)(n_bm_gm:bm≠gm)(hbw:w.heap[bw]? = some (.cells #[.func (.func 198) #[] #[vP bc 0,vP bm 0]] 218 (0,0)))(n_bw_g:bw≠g)(n_bw_gm:bw≠gm)(hba:w.heap[ba]? = some (.cells #[.bool ask] 4 (0,0)))(n_ba_g:ba≠g)(n_ba_gm:ba≠gm)(hask:ask=false) :
    Calls Tryz.prog 204 #[vP bw 0,vP ba 0,vP bc 0,vP bm 0] w (cO g gm (cn 123 c C).1 (cn 123 c C).2 w):=by
 obtain⟨hcode1,hcode2⟩:=hcode
 have hlen:=hC.len
 refine en 17 Tryz.func204 rfl<|sg<|aC hbw 0<|L0<|i8 #[] #[vP bc 0,vP bm 0] (args:=#[vI 123,vP bc 0,vP bm 0])<|m3 (jz (most:=123) ⟨hcode1,hcode2⟩ hC hm hne hbc n_bc_g n_bc_gm hbm n_bm_g n_bm_gm) fun e b d a=>?_
 have f:=(hC).wordV
 have h:=bN (cS (hC).rng 1)
 refine ng<|?_
 refine aC (aI.blk a (aa n_ba_g (aa n_ba_gm aE)) hba) 0<|nt<|cf hask<|sk<|rm (.tuple #[])<|?_
 have hs:cn 123 c C=((bI (C.wordsC 1) C.wordV 123),(aS.mk c 0 C.wordV ((C.wordsC 1).wordV) 0 0 0 0 0 0 0 0 [] [] [] [] 0 0 0 0 0 [])):=by
   unfold cn
   (try simp only[hask,bi,reduceIte])
   all_goals rfl
 rw[hs]
 exact⟨rfl,b,⟨_,⟨d,rfl⟩,⟨_,_,_,_,_,rfl,aT.nil ..,aT.nil ..,aT.nil ..,aT.nil ..,aT.nil ..,(cP (by omega))⟩⟩,a⟩
theorem F5(hcode:B8 c)(hC:aj w g C)(hm:w.heap[gm]? = some (.cells (mC c) 45 (0,0)))(hne:g≠gm)   (hbc:w.heap[bc]? = some (.cells #[vP g 0] 164 (0,0)))(n_bc_g:bc≠g)(n_bc_gm:bc≠gm)(hbm:w.heap[bm]? = some (.cells #[vP gm 0] 166 (0,0)))(n_bm_g:bm≠g)(n_bm_gm:bm≠gm) :
    Calls Tryz.prog 206 #[vP bc 0,vP bm 0] w (cO g gm (da c C).1 (da c C).2 w):=by
 obtain⟨hcode1,hcode2⟩:=hcode
 have hlen:=hC.len
 refine en 17 Tryz.func206 rfl<|Rg 18 (fun w'=>w'.cell? ⟨bm,0,none⟩=some (vP gm 0)∧w'.cell? ⟨bc,0,none⟩=some (vP g 0)) fun K b=>?_
 have k:=ub b hbm
 have l:=ub b hbc
 refine bv ⟨(ae k rfl),(ae l rfl)⟩ fun a=>Rl 0 a (fun _ hs=>hs.1)<|Rl 1 a (fun _ hs=>hs.1)<|Rl 2 a (fun _ hs=>hs.1)<|Rl 3 a (fun _ hs=>hs.2)<|Rl 5 a (fun _ hs=>hs.2)<|Rl 7 a (fun _ hs=>hs.2)<|?_
 refine R0 4 rfl<|Oc<|m3 (bZ (aj.old hC b)) fun L E d M=>?_
 have m:=bj d n_bm_g k
 have n:=bj d n_bc_g l
 refine bv ⟨(ae m rfl),(ae n rfl)⟩ fun N=>R0 6 rfl<|Oc<|m3 (bZ E) fun O F e P=>?_
 have o:=bj e n_bm_g m
 have p:=bj e n_bc_g n
 refine bv ⟨(ae o rfl),(ae p rfl)⟩ fun Q=>R0 8 rfl<|Oc<|m3 (bZ F) fun R G f S=>?_
 have q:=bj f n_bm_g o
 have r:=bj f n_bc_g p
 refine bv ⟨(ae q rfl),(ae r rfl)⟩ fun s=>Rt 9 s<|Rt 10 s<|?_
 have t:=uz b (u1 d (u1 e f im) im)
 have u:=bj t (Ne.symm hne) hm
 refine R0 11 rfl<|bY u 2 (mG c 0 C.wordV 0 0 0 0 0 0 0 0 0 nS nS nS nS 0 0 0 0 0 nS) fun T H h=>?_
 have v:=bj h n_bm_gm q
 have x:=bj h n_bc_gm r
 refine bv ⟨(ae v rfl),(ae x rfl)⟩ fun y=>Rt 12 y<|Rt 13 y<|R0 14 rfl<|bY H 5 (mG c 0 C.wordV 0 0 ((C.wordsC 1).wordV) 0 0 0 0 0 0 nS nS nS nS 0 0 0 0 0 nS) fun U I i=>?_
 have z:=bj i n_bm_gm v
 have A:=bj i n_bc_gm x
 refine bv ⟨(ae z rfl),(ae A rfl)⟩ fun B=>Rt 15 B<|Rt 16 B<|R0 17 rfl<|bY I 6 (mG c 0 C.wordV 0 0 ((C.wordsC 1).wordV) (((C.wordsC 1).wordsC 1).wordV) 0 0 0 0 0 nS nS nS nS 0 0 0 0 0 nS) fun V J j=>?_
 refine bv ⟨(ae (bj j n_bm_gm z) rfl),(ae (bj j n_bc_gm A) rfl)⟩ fun W=>re<|rm (.tuple #[])<|?_
 have hs:da c C=((((C.wordsC 1).wordsC 1).wordsC 1),(aS.mk c 0 C.wordV 0 0 ((C.wordsC 1).wordV) (((C.wordsC 1).wordsC 1).wordV) 0 0 0 0 0 [] [] [] [] 0 0 0 0 0 [])):=by
   unfold da
   (try simp only[bi,reduceIte])
   all_goals rfl
 rw[hs]
 have D:=u1 h (u1 i j im) im
 exact⟨rfl,(aj.upd G D (aa hne aE) (av (b9 u (by decide)) aM)),⟨_,⟨J,rfl⟩,⟨_,_,_,_,_,rfl,aT.nil ..,aT.nil ..,aT.nil ..,aT.nil ..,aT.nil ..,(cP (by omega))⟩⟩,(us t D)⟩
theorem Fc(hcode:B8 c)(hC:aj w g C)(hm:w.heap[gm]? = some (.cells (mC c) 45 (0,0)))(hne:g≠gm)    (hbc:w.heap[bc]? = some (.cells #[vP g 0] 164 (0,0)))(n_bc_g:bc≠g)(n_bc_gm:bc≠gm)(hbm:w.heap[bm]? = some (.cells #[vP gm 0] 166 (0,0)))(n_bm_g:bm≠g)(n_bm_gm:bm≠gm)(hbw:w.heap[bw]? = some (.cells #[.func (.func 198) #[] #[vP bc 0,vP bm 0]] 218 (0,0)))(n_bw_g:bw≠g)(n_bw_gm:bw≠gm) :
    Calls Tryz.prog 207 #[vP bw 0,vP bc 0,vP bm 0] w (cO g gm (dn c C).1 (dn c C).2 w):=by
 obtain⟨hcode1,hcode2⟩:=hcode
 have hlen:=hC.len
 refine en 21 Tryz.func207 rfl<|sg<|aC hbw 0<|L0<|i8 #[] #[vP bc 0,vP bm 0] (args:=#[vI 125,vP bc 0,vP bm 0])<|m3 (jz (most:=125) ⟨hcode1,hcode2⟩ hC hm hne hbc n_bc_g n_bc_gm hbm n_bm_g n_bm_gm) fun X P Q q=>?_
 have Y:=(hC).wordV
 have Z:=bN (cS (hC).rng 1)
 refine nt<|sq<|Rg 6 (fun w'=>w'.cell? ⟨bm,0,none⟩=some (vP gm 0)∧w'.cell? ⟨bc,0,none⟩=some (vP g 0)) fun a0 k=>?_
 have o:=aJ q k
 have r:=aI.blk o (aa n_bm_g (aa n_bm_gm aE)) hbm
 have s:=aI.blk o (aa n_bc_g (aa n_bc_gm aE)) hbc
 refine bv ⟨(ae r rfl),(ae s rfl)⟩ fun t=>Rl 0 t (fun _ hs=>hs.1)<|Rl 1 t (fun _ hs=>hs.2)<|?_
 refine R0 2 rfl<|Oc<|m3 (bZ (aj.old P k)) fun a1 R d a2=>?_
 have u:=bj d n_bm_g r
 have v:=bj d n_bc_g s
 refine bv ⟨(ae u rfl),(ae v rfl)⟩ fun y=>Rt 3 y<|Rt 4 y<|?_
 have z:=bj (uz k d) (Ne.symm hne) Q
 refine R0 5 rfl<|bY z 7 (mG c 0 C.wordV ((C.wordsC 1).wordV) 0 0 0 ((bI (C.wordsC 1) C.wordV 125).wordV) 0 0 0 0 nS nS nS nS 0 0 0 0 0 nS) fun a3 S l=>?_
 have A:=bj l n_bm_gm u
 have B:=bj l n_bc_gm v
 refine bv ⟨(ae A rfl),(ae B rfl)⟩ fun a4=>re<|tn<|Rg 12 (fun w'=>w'.cell? ⟨bm,0,none⟩=some (vP gm 0)∧w'.cell? ⟨bc,0,none⟩=some (vP g 0)∧w'.cell? ⟨gm,7,none⟩=some (vW ((bI (C.wordsC 1) C.wordV 125).wordV))) fun a5 f=>?_
 have D:=ub f A
 have E:=ub f B
 have F:=ub f S
 refine bv ⟨(ae D rfl),(ae E rfl),(ae F rfl)⟩ fun b=>Rl 0 b (fun _ hs=>hs.1)<|Rl 1 b (fun _ hs=>hs.2.1)<|Rl 2 b (fun _ hs=>hs.2.1)<|Rl 3 b (fun _ hs=>hs.1)<|Rt 4 b<|Rt 5 b<|Rl 6 b (fun _ hs=>hs.2.2)<|?_
 have G:=aJ l f
 refine R0 7 rfl<|Oc<|m3 (pf (a:=(bI (C.wordsC 1) C.wordV 125).wordV) (most:=121) (aj.upd R G (aa hne aE) (av (b9 z (by decide)) aM)) (by omega)) fun a6 T i a7=>?_
 have H:=bj i n_bm_g D
 have I:=bj i n_bc_g E
 have J:=bj i (Ne.symm hne) F
 refine bv ⟨(ae H rfl),(ae I rfl),(ae J rfl)⟩ fun a8=>R0 8 rfl<|Oc<|qk (lS (n:=((bI (C.wordsC 1) C.wordV 125).wordsC 1).wordV) T (by omega)) fun U V a9 K ab ad W m=>?_
 have L:=bj m n_bm_g H
 have M:=bj m n_bc_g I
 have p:=bj m (Ne.symm hne) J
 refine bv ⟨(ae L rfl),(ae M rfl),(ae p rfl)⟩ fun N=>Rt 9 N<|Rt 10 N<|R0 11 rfl<|bY p 12 (mG c 0 C.wordV ((C.wordsC 1).wordV) 0 0 0 ((bI (C.wordsC 1) C.wordV 125).wordV) 0 0 0 0 (.slice U (((d8 (bI ((bI (C.wordsC 1) C.wordV 125).wordsC 1) ((bI (C.wordsC 1) C.wordV 125).wordV) 121) (((bI (C.wordsC 1) C.wordV 125).wordsC 1).wordV)).wordsR (((bI (C.wordsC 1) C.wordV 125).wordsC 1).wordV)).length) V) nS nS nS 0 0 0 0 0 nS) fun af O j=>?_
 refine bv ⟨(ae (bj j n_bm_gm L) rfl),(ae (bj j n_bc_gm M) rfl),(ae O rfl)⟩ fun ag=>re<|rm (.tuple #[])<|?_
 have hs:dn c C=(((d8 (bI ((bI (C.wordsC 1) C.wordV 125).wordsC 1) ((bI (C.wordsC 1) C.wordV 125).wordV) 121) (((bI (C.wordsC 1) C.wordV 125).wordsC 1).wordV)).wordsC (((bI (C.wordsC 1) C.wordV 125).wordsC 1).wordV)),(aS.mk c 0 C.wordV ((C.wordsC 1).wordV) 0 0 0 ((bI (C.wordsC 1) C.wordV 125).wordV) 0 0 0 0 ((d8 (bI ((bI (C.wordsC 1) C.wordV 125).wordsC 1) ((bI (C.wordsC 1) C.wordV 125).wordV) 121) (((bI (C.wordsC 1) C.wordV 125).wordsC 1).wordV)).wordsR (((bI (C.wordsC 1) C.wordV 125).wordsC 1).wordV)) [] [] [] 0 0 0 0 0 [])):=by
   unfold dn j6 rz gC
   (try simp only[bi,reduceIte])
   all_goals rfl
 rw[hs]
 exact⟨rfl,(aj.upd W j (aa hne aE) (av (b9 p (by decide)) aM)),⟨_,⟨O,rfl⟩,⟨_,_,_,_,_,rfl,((au K j (fun x hx=>(aa (fun e=>(aO (az hm) (le (le (le (le (le q.size k.size) d.size) l.size) f.size) i.size) K) (e▸hx)) aE)) (fun _ _ h=>h))).rd,aT.nil ..,aT.nil ..,aT.nil ..,aT.nil ..,(cP (by omega))⟩⟩,(ut o (ui d (ui G (ui i (us m j)))) (ac im (ac im aD)))⟩
theorem Fa(hcode:B8 c)(hC:aj w g C)(hm:w.heap[gm]? = some (.cells (mC c) 45 (0,0)))(hne:g≠gm)   (hbc:w.heap[bc]? = some (.cells #[vP g 0] 164 (0,0)))(n_bc_g:bc≠g)(n_bc_gm:bc≠gm)(hbm:w.heap[bm]? = some (.cells #[vP gm 0] 166 (0,0)))(n_bm_g:bm≠g)(n_bm_gm:bm≠gm) :
    Calls Tryz.prog 208 #[vP bc 0,vP bm 0] w (cO g gm (dp c C).1 (dp c C).2 w):=by
 obtain⟨hcode1,hcode2⟩:=hcode
 have hlen:=hC.len
 refine en 7 Tryz.func208 rfl<|Rg 6 (fun w'=>w'.cell? ⟨bm,0,none⟩=some (vP gm 0)∧w'.cell? ⟨bc,0,none⟩=some (vP g 0)) fun p a=>?_
 have e:=ub a hbm
 have f:=ub a hbc
 refine bv ⟨(ae e rfl),(ae f rfl)⟩ fun h=>Rl 0 h (fun _ hs=>hs.1)<|Rl 1 h (fun _ hs=>hs.2)<|?_
 refine R0 2 rfl<|Oc<|m3 (bZ (aj.old hC a)) fun q n d r=>?_
 have i:=bj d n_bm_g e
 have j:=bj d n_bc_g f
 refine bv ⟨(ae i rfl),(ae j rfl)⟩ fun k=>Rt 3 k<|Rt 4 k<|?_
 have l:=uz a d
 have m:=bj l (Ne.symm hne) hm
 refine R0 5 rfl<|bY m 2 (mG c 0 C.wordV 0 0 0 0 0 0 0 0 0 nS nS nS nS 0 0 0 0 0 nS) fun s o b=>?_
 refine bv ⟨(ae (bj b n_bm_gm i) rfl),(ae (bj b n_bc_gm j) rfl)⟩ fun t=>re<|rm (.tuple #[])<|?_
 have hs:dp c C=((C.wordsC 1),(aS.mk c 0 C.wordV 0 0 0 0 0 0 0 0 0 [] [] [] [] 0 0 0 0 0 [])):=by
   unfold dp
   (try simp only[bi,reduceIte])
   all_goals rfl
 rw[hs]
 exact⟨rfl,(aj.upd n b (aa hne aE) (av (b9 m (by decide)) aM)),⟨_,⟨o,rfl⟩,⟨_,_,_,_,_,rfl,aT.nil ..,aT.nil ..,aT.nil ..,aT.nil ..,aT.nil ..,(cP (by omega))⟩⟩,(us l b)⟩
theorem Fl(hcode:B8 c)(hC:aj w g C)(hm:w.heap[gm]? = some (.cells (mC c) 45 (0,0)))(hne:g≠gm)   (hbc:w.heap[bc]? = some (.cells #[vP g 0] 164 (0,0)))(n_bc_g:bc≠g)(n_bc_gm:bc≠gm)(hbm:w.heap[bm]? = some (.cells #[vP gm 0] 166 (0,0)))(n_bm_g:bm≠g)(n_bm_gm:bm≠gm) :
    Calls Tryz.prog 209 #[vP bc 0,vP bm 0] w (cO g gm (mn c C).1 (mn c C).2 w):=by
 obtain⟨hcode1,hcode2⟩:=hcode
 have hlen:=hC.len
 refine en 36 Tryz.func209 rfl<|sg<|aC hbc 0<|ay<|m3 (bZ hC) fun R G k S=>bp C.wordV<|Pl 1<|ng<|?_
 have l:=bj k n_bc_g hbc
 refine aC l 0<|Pl 1<|L0<|Oe (vI (Int.tmod C.wordV 2)) (vI (C.wordV%2)) (congrArg (Value.int .i64) (Int.tmod_eq_emod_of_nonneg (by omega)))<|Pl 2<|cu 3 [11] 14 ((((C.wordV%2)==0)&&(decide (2≤C.wordV)))) (fun K m=>?_) ?_
 refine bl 11 (((C.wordV%2)==0)) (fun a=>?_) (fun a=>?_)
 have H:=ag a
 exact Pl 3<|ce m (decide (2≤C.wordV)) (by rw[a];rfl)
 have H:=ai a
 exact Pl 3<|ce m false (by rw[a];rfl)
 refine Pl 1<|cu 3 [15] 18 (((((C.wordV%2)==0)&&(decide (2≤C.wordV)))&&(decide (C.wordV≤64)))) (fun K o=>?_) ?_
 refine bl 15 ((((C.wordV%2)==0)&&(decide (2≤C.wordV)))) (fun d=>?_) (fun d=>?_)
 exact Pl 3<|ce o (decide (C.wordV≤64)) (by rw[d];rfl)
 exact Pl 3<|ce o false (by rw[d];rfl)
 refine ay<|m2 (bq (((((C.wordV%2)==0)&&(decide (2≤C.wordV)))&&(decide (C.wordV≤64)))) 5 G) fun T I p=>ng<|?_
 have q:=bj p n_bc_g l
 refine aC q 0<|ay<|m3 (bZ I) fun U J r V=>bp (((C.wordsC 1).need ((((C.wordV%2)==0)&&(decide (2≤C.wordV)))&&(decide (C.wordV≤64))) 5).wordV)<|Pl 1<|ng<|?_
 have s:=bj r n_bc_g q
 refine aC s 0<|Pl 1<|bp (2*(((C.wordsC 1).need ((((C.wordV%2)==0)&&(decide (2≤C.wordV)))&&(decide (C.wordV≤64))) 5).wordV))<|bp (2+(2*(((C.wordsC 1).need ((((C.wordV%2)==0)&&(decide (2≤C.wordV)))&&(decide (C.wordV≤64))) 5).wordV)))<|Pl 2<|ay<|m2 (bq (((2+(2*(((C.wordsC 1).need ((((C.wordV%2)==0)&&(decide (2≤C.wordV)))&&(decide (C.wordV≤64))) 5).wordV)))==C.wordV)) 5 J) fun W L M=>nt<|Rg 7 (fun w'=>w'.cell? ⟨bm,0,none⟩=some (vP gm 0)∧w'.cell? ⟨bc,0,none⟩=some (vP g 0)) fun X t=>?_
 have u:=aJ M t
 have f:=u1 k (u1 p (u1 r u im) im) im
 have v:=bj f n_bm_g hbm
 have y:=bj u n_bc_g s
 refine bv ⟨(ae v rfl),(ae y rfl)⟩ fun i=>Rl 0 i (fun _ hs=>hs.1)<|Rl 1 i (fun _ hs=>hs.2)<|Rt 2 i<|?_
 refine R0 3 rfl<|Oc<|qk (eU (n:=((C.wordsC 1).need ((((C.wordV%2)==0)&&(decide (2≤C.wordV)))&&(decide (C.wordV≤64))) 5).wordV) (aj.old L t)) fun N O Y z Z a0 P j=>?_
 have A:=bj j n_bm_g v
 have B:=bj j n_bc_g y
 refine bv ⟨(ae A rfl),(ae B rfl)⟩ fun D=>Rt 4 D<|Rt 5 D<|?_
 have E:=u1 f j im
 have F:=bj E (Ne.symm hne) hm
 refine R0 6 rfl<|bY F 12 (mG c 0 0 0 0 0 0 0 0 0 0 0 (.slice N ((((((C.wordsC 1).need ((((C.wordV%2)==0)&&(decide (2≤C.wordV)))&&(decide (C.wordV≤64))) 5).wordsC 1).need ((2+(2*(((C.wordsC 1).need ((((C.wordV%2)==0)&&(decide (2≤C.wordV)))&&(decide (C.wordV≤64))) 5).wordV)))==C.wordV) 5).wordsR (((C.wordsC 1).need ((((C.wordV%2)==0)&&(decide (2≤C.wordV)))&&(decide (C.wordV≤64))) 5).wordV)).length) O) nS nS nS 0 0 0 0 0 nS) fun a1 Q b=>?_
 refine bv ⟨(ae (bj b n_bm_gm A) rfl),(ae (bj b n_bc_gm B) rfl)⟩ fun a2=>re<|rm (.tuple #[])<|?_
 exact cI (by unfold mn Bt uC jo;(try simp only[bi,reduceIte])<;>rfl) ⟨rfl,(aj.upd P b (aa hne aE) (av (b9 F (by decide)) aM)),⟨_,⟨Q,rfl⟩,⟨_,_,_,_,_,rfl,((au z b (fun x hx=>(aa (fun e=>(aO (az hm) f.size z) (e▸hx)) aE)) (fun _ _ h=>h))).rd,aT.nil ..,aT.nil ..,aT.nil ..,aT.nil ..,(cP (by omega))⟩⟩,(us E b)⟩
open Go.RowKit
theorem xe(hC:aj w g C)(hm:w.heap[gm]? = some (.cells (mC 3) 45 (0,0)))(hne:g≠gm) : Calls Tryz.prog 148 #[vI 0,vP gm 0,vP g 0] w (kf (fun W=>cO g gm (cn 125 3 C).1 (cn 125 3 C).2 W) w):=by
 refine en 67 Tryz.func148 rfl<|sg<|L0<|cY #[vP gm 0] fun n D f o a=>L0<|cY #[vP g 0] fun p E h q b=>Pl 1<|aL 1<|aK #[.nilFunc] fun r F d s t=>L0<|bY s 0 #[.func (.func 198) #[] #[vP p 0,vP n 0]] fun G u v=>nl<|tn<|aq 2<|aK #[.bool false] fun H I x y z=>L0<|bY y 0 #[.bool true] fun J A B=>nt<|sq<|sg<|?_
 have i:=ud z B x
 have j:=ud t (aJ v i) d
 have k:=aJ b j
 have l:=ub k o
 refine aC l 0<|Pl 2<|?_
 have e:=aJ a k
 have m:=ub e hm
 refine aC m 0<|ah 1<|bk<|sg<|aC A 0<|ah 9<|c1<|aB 2<|rt<|br<|tr<|rr (.func (.func 200) #[] #[vP r 0])<|?_
 exact⟨_,_,rfl,by kernel_rfl,e,F1 (c:=3) ⟨by decide,by decide⟩ (aj.old hC e) m hne (ub j q) (Ne.symm (nb (aj.lt hC) a.size h)) (Ne.symm (nb (az hm) a.size h)) l (Ne.symm (nb (aj.lt hC) lr f)) (Ne.symm (nb (az hm) lr f)) (ub i u) (Ne.symm (nb (aj.lt hC) (le a.size b.size) d)) (Ne.symm (nb (az hm) (le a.size b.size) d))⟩
theorem wW(hC:aj w g C)(hm:w.heap[gm]? = some (.cells (mC 4) 45 (0,0)))(hne:g≠gm) : Calls Tryz.prog 148 #[vI 0,vP gm 0,vP g 0] w (kf (fun W=>cO g gm (cn 125 4 C).1 (cn 125 4 C).2 W) w):=by
 refine en 67 Tryz.func148 rfl<|sg<|L0<|cY #[vP gm 0] fun n D f o a=>L0<|cY #[vP g 0] fun p E h q b=>Pl 1<|aL 1<|aK #[.nilFunc] fun r F d s t=>L0<|bY s 0 #[.func (.func 198) #[] #[vP p 0,vP n 0]] fun G u v=>nl<|tn<|aq 2<|aK #[.bool false] fun H I x y z=>L0<|bY y 0 #[.bool true] fun J A B=>nt<|sq<|sg<|?_
 have i:=ud z B x
 have j:=ud t (aJ v i) d
 have k:=aJ b j
 have l:=ub k o
 refine aC l 0<|Pl 2<|?_
 have e:=aJ a k
 have m:=ub e hm
 refine aC m 0<|ah 1<|bk<|sg<|aC A 0<|ah 9<|c1<|aB 2<|rt<|br<|tr<|rr (.func (.func 200) #[] #[vP r 0])<|?_
 exact⟨_,_,rfl,by kernel_rfl,e,F1 (c:=4) ⟨by decide,by decide⟩ (aj.old hC e) m hne (ub j q) (Ne.symm (nb (aj.lt hC) a.size h)) (Ne.symm (nb (az hm) a.size h)) l (Ne.symm (nb (aj.lt hC) lr f)) (Ne.symm (nb (az hm) lr f)) (ub i u) (Ne.symm (nb (aj.lt hC) (le a.size b.size) d)) (Ne.symm (nb (az hm) (le a.size b.size) d))⟩
theorem vq(hC:aj w g C)(hm:w.heap[gm]? = some (.cells (mC 3) 45 (0,0)))(hne:g≠gm) : Calls Tryz.prog 148 #[vI 1,vP gm 0,vP g 0] w (kf (fun W=>cO g gm (cF 3 C).1 (cF 3 C).2 W) w):=by
 refine en 67 Tryz.func148 rfl<|sg<|L0<|cY #[vP gm 0] fun d z e m a=>L0<|cY #[vP g 0] fun f A h n o=>Pl 1<|aL 1<|aK #[.nilFunc] fun B D p q r=>L0<|bY q 0 #[.func (.func 198) #[] #[vP f 0,vP d 0]] fun E F s=>nl<|tn<|aq 2<|aK #[.bool false] fun G H t u v=>L0<|bY u 0 #[.bool false] fun I x y=>nt<|sq<|sg<|?_
 have i:=ud r (aJ s (ud v y t)) p
 have j:=aJ o i
 have k:=ub j m
 refine aC k 0<|Pl 2<|?_
 have b:=aJ a j
 have l:=ub b hm
 refine aC l 0<|ah 1<|bk<|sg<|aC x 0<|ah 9<|c0<|sq<|sq<|go<|ah 3<|c1<|bu<|c1<|aB 2<|rt<|br<|tr<|rr (.func (.func 201) #[] #[vP f 0,vP d 0])<|?_
 exact⟨_,_,rfl,by kernel_rfl,b,Em (c:=3) ⟨by decide,by decide⟩ (aj.old hC b) l hne (ub i n) (Ne.symm (nb (aj.lt hC) a.size h)) (Ne.symm (nb (az hm) a.size h)) k (Ne.symm (nb (aj.lt hC) lr e)) (Ne.symm (nb (az hm) lr e))⟩
theorem wl(hC:aj w g C)(hm:w.heap[gm]? = some (.cells (mC 4) 45 (0,0)))(hne:g≠gm) : Calls Tryz.prog 148 #[vI 1,vP gm 0,vP g 0] w (kf (fun W=>cO g gm (cF 4 C).1 (cF 4 C).2 W) w):=by
 refine en 67 Tryz.func148 rfl<|sg<|L0<|cY #[vP gm 0] fun d z e m a=>L0<|cY #[vP g 0] fun f A h n o=>Pl 1<|aL 1<|aK #[.nilFunc] fun B D p q r=>L0<|bY q 0 #[.func (.func 198) #[] #[vP f 0,vP d 0]] fun E F s=>nl<|tn<|aq 2<|aK #[.bool false] fun G H t u v=>L0<|bY u 0 #[.bool false] fun I x y=>nt<|sq<|sg<|?_
 have i:=ud r (aJ s (ud v y t)) p
 have j:=aJ o i
 have k:=ub j m
 refine aC k 0<|Pl 2<|?_
 have b:=aJ a j
 have l:=ub b hm
 refine aC l 0<|ah 1<|bk<|sg<|aC x 0<|ah 9<|c0<|sq<|sq<|go<|ah 3<|c0<|aB 3<|c1<|bu<|c1<|aB 2<|rt<|br<|tr<|rr (.func (.func 201) #[] #[vP f 0,vP d 0])<|?_
 exact⟨_,_,rfl,by kernel_rfl,b,Em (c:=4) ⟨by decide,by decide⟩ (aj.old hC b) l hne (ub i n) (Ne.symm (nb (aj.lt hC) a.size h)) (Ne.symm (nb (az hm) a.size h)) k (Ne.symm (nb (aj.lt hC) lr e)) (Ne.symm (nb (az hm) lr e))⟩
theorem vF(hC:aj w g C)(hm:w.heap[gm]? = some (.cells (mC 6) 45 (0,0)))(hne:g≠gm) : Calls Tryz.prog 148 #[vI 0,vP gm 0,vP g 0] w (kf (fun W=>cO g gm (eo 6 C).1 (eo 6 C).2 W) w):=by
 refine en 67 Tryz.func148 rfl<|sg<|L0<|cY #[vP gm 0] fun d z e m a=>L0<|cY #[vP g 0] fun f A h n o=>Pl 1<|aL 1<|aK #[.nilFunc] fun B D p q r=>L0<|bY q 0 #[.func (.func 198) #[] #[vP f 0,vP d 0]] fun E F s=>nl<|tn<|aq 2<|aK #[.bool false] fun G H t u v=>L0<|bY u 0 #[.bool true] fun I x y=>nt<|sq<|sg<|?_
 have i:=ud r (aJ s (ud v y t)) p
 have j:=aJ o i
 have k:=ub j m
 refine aC k 0<|Pl 2<|?_
 have b:=aJ a j
 have l:=ub b hm
 refine aC l 0<|ah 1<|bk<|sg<|aC x 0<|ah 9<|c0<|sq<|sq<|go<|ah 3<|c0<|aB 3<|c0<|go<|Pl 7<|nl<|tn<|c0<|aB 3<|c1<|aB 2<|rt<|br<|tr<|rr (.func (.func 203) #[] #[vP f 0,vP d 0])<|?_
 exact⟨_,_,rfl,by kernel_rfl,b,EU (c:=6) ⟨by decide,by decide⟩ (aj.old hC b) l hne (ub i n) (Ne.symm (nb (aj.lt hC) a.size h)) (Ne.symm (nb (az hm) a.size h)) k (Ne.symm (nb (aj.lt hC) lr e)) (Ne.symm (nb (az hm) lr e))⟩
theorem vm(hC:aj w g C)(hm:w.heap[gm]? = some (.cells (mC 6) 45 (0,0)))(hne:g≠gm) : Calls Tryz.prog 148 #[vI 1,vP gm 0,vP g 0] w (kf (fun W=>cO g gm (eo 6 C).1 (eo 6 C).2 W) w):=by
 refine en 67 Tryz.func148 rfl<|sg<|L0<|cY #[vP gm 0] fun d z e m a=>L0<|cY #[vP g 0] fun f A h n o=>Pl 1<|aL 1<|aK #[.nilFunc] fun B D p q r=>L0<|bY q 0 #[.func (.func 198) #[] #[vP f 0,vP d 0]] fun E F s=>nl<|tn<|aq 2<|aK #[.bool false] fun G H t u v=>L0<|bY u 0 #[.bool false] fun I x y=>nt<|sq<|sg<|?_
 have i:=ud r (aJ s (ud v y t)) p
 have j:=aJ o i
 have k:=ub j m
 refine aC k 0<|Pl 2<|?_
 have b:=aJ a j
 have l:=ub b hm
 refine aC l 0<|ah 1<|bk<|sg<|aC x 0<|ah 9<|c0<|sq<|sq<|go<|ah 3<|c0<|aB 3<|c0<|go<|Pl 7<|nl<|tn<|c0<|aB 3<|c1<|aB 2<|rt<|br<|tr<|rr (.func (.func 203) #[] #[vP f 0,vP d 0])<|?_
 exact⟨_,_,rfl,by kernel_rfl,b,EU (c:=6) ⟨by decide,by decide⟩ (aj.old hC b) l hne (ub i n) (Ne.symm (nb (aj.lt hC) a.size h)) (Ne.symm (nb (az hm) a.size h)) k (Ne.symm (nb (aj.lt hC) lr e)) (Ne.symm (nb (az hm) lr e))⟩
theorem u4(hC:aj w g C)(hm:w.heap[gm]? = some (.cells (mC 16) 45 (0,0)))(hne:g≠gm) : Calls Tryz.prog 148 #[vI 0,vP gm 0,vP g 0] w (kf (fun W=>cO g gm (dq 16 C).1 (dq 16 C).2 W) w):=by
 refine en 67 Tryz.func148 rfl<|sg<|L0<|cY #[vP gm 0] fun j E k t a=>L0<|cY #[vP g 0] fun l F m u b=>Pl 1<|aL 1<|aK #[.nilFunc] fun v G d x e=>L0<|bY x 0 #[.func (.func 198) #[] #[vP l 0,vP j 0]] fun H y f=>nl<|tn<|aq 2<|aK #[.bool false] fun z I h A B=>L0<|bY A 0 #[.bool true] fun J n D=>nt<|sq<|sg<|?_
 have o:=ud B D h
 have p:=ud e (aJ f o) d
 have q:=aJ b p
 have r:=ub q t
 refine aC r 0<|Pl 2<|?_
 have i:=aJ a q
 have s:=ub i hm
 refine aC s 0<|ah 1<|bk<|sg<|aC n 0<|ah 9<|c0<|sq<|sq<|go<|ah 3<|c0<|aB 3<|c0<|go<|Pl 7<|nl<|tn<|c0<|aB 3<|c0<|aB 3<|c1<|aB 2<|rt<|br<|tr<|rr (.func (.func 204) #[] #[vP v 0,vP z 0,vP l 0,vP j 0])<|?_
 exact⟨_,_,rfl,by kernel_rfl,i,Eg (c:=16) ⟨by decide,by decide⟩ (aj.old hC i) s hne (ub p u) (Ne.symm (nb (aj.lt hC) a.size m)) (Ne.symm (nb (az hm) a.size m)) r (Ne.symm (nb (aj.lt hC) lr k)) (Ne.symm (nb (az hm) lr k)) (ub o y) (Ne.symm (nb (aj.lt hC) (le a.size b.size) d)) (Ne.symm (nb (az hm) (le a.size b.size) d)) n (Ne.symm (nb (aj.lt hC) (le (le (le a.size b.size) e.size) f.size) h)) (Ne.symm (nb (az hm) (le (le (le a.size b.size) e.size) f.size) h)) rfl⟩
theorem uo(hC:aj w g C)(hm:w.heap[gm]? = some (.cells (mC 16) 45 (0,0)))(hne:g≠gm) : Calls Tryz.prog 148 #[vI 1,vP gm 0,vP g 0] w (kf (fun W=>cO g gm (cn 123 16 C).1 (cn 123 16 C).2 W) w):=by
 refine en 67 Tryz.func148 rfl<|sg<|L0<|cY #[vP gm 0] fun j E k t a=>L0<|cY #[vP g 0] fun l F m u b=>Pl 1<|aL 1<|aK #[.nilFunc] fun v G d x e=>L0<|bY x 0 #[.func (.func 198) #[] #[vP l 0,vP j 0]] fun H y f=>nl<|tn<|aq 2<|aK #[.bool false] fun z I h A B=>L0<|bY A 0 #[.bool false] fun J n D=>nt<|sq<|sg<|?_
 have o:=ud B D h
 have p:=ud e (aJ f o) d
 have q:=aJ b p
 have r:=ub q t
 refine aC r 0<|Pl 2<|?_
 have i:=aJ a q
 have s:=ub i hm
 refine aC s 0<|ah 1<|bk<|sg<|aC n 0<|ah 9<|c0<|sq<|sq<|go<|ah 3<|c0<|aB 3<|c0<|go<|Pl 7<|nl<|tn<|c0<|aB 3<|c0<|aB 3<|c1<|aB 2<|rt<|br<|tr<|rr (.func (.func 204) #[] #[vP v 0,vP z 0,vP l 0,vP j 0])<|?_
 exact⟨_,_,rfl,by kernel_rfl,i,ER (c:=16) ⟨by decide,by decide⟩ (aj.old hC i) s hne (ub p u) (Ne.symm (nb (aj.lt hC) a.size m)) (Ne.symm (nb (az hm) a.size m)) r (Ne.symm (nb (aj.lt hC) lr k)) (Ne.symm (nb (az hm) lr k)) (ub o y) (Ne.symm (nb (aj.lt hC) (le a.size b.size) d)) (Ne.symm (nb (az hm) (le a.size b.size) d)) n (Ne.symm (nb (aj.lt hC) (le (le (le a.size b.size) e.size) f.size) h)) (Ne.symm (nb (az hm) (le (le (le a.size b.size) e.size) f.size) h)) rfl⟩
theorem uf(hC:aj w g C)(hm:w.heap[gm]? = some (.cells (mC 22) 45 (0,0)))(hne:g≠gm) : Calls Tryz.prog 148 #[vI 0,vP gm 0,vP g 0] w (kf (fun W=>cO g gm (da 22 C).1 (da 22 C).2 W) w):=by
 refine en 67 Tryz.func148 rfl<|sg<|L0<|cY #[vP gm 0] fun d z e m a=>L0<|cY #[vP g 0] fun f A h n o=>Pl 1<|aL 1<|aK #[.nilFunc] fun B D p q r=>L0<|bY q 0 #[.func (.func 198) #[] #[vP f 0,vP d 0]] fun E F s=>nl<|tn<|aq 2<|aK #[.bool false] fun G H t u v=>L0<|bY u 0 #[.bool true] fun I x y=>nt<|sq<|sg<|?_
 have i:=ud r (aJ s (ud v y t)) p
 have j:=aJ o i
 have k:=ub j m
 refine aC k 0<|Pl 2<|?_
 have b:=aJ a j
 have l:=ub b hm
 refine aC l 0<|ah 1<|bk<|sg<|aC x 0<|ah 9<|c0<|sq<|sq<|go<|ah 3<|c0<|aB 3<|c0<|go<|Pl 7<|nl<|tn<|c0<|aB 3<|c0<|aB 3<|c0<|aB 3<|c1<|aB 2<|rt<|br<|tr<|rr (.func (.func 206) #[] #[vP f 0,vP d 0])<|?_
 exact⟨_,_,rfl,by kernel_rfl,b,F5 (c:=22) ⟨by decide,by decide⟩ (aj.old hC b) l hne (ub i n) (Ne.symm (nb (aj.lt hC) a.size h)) (Ne.symm (nb (az hm) a.size h)) k (Ne.symm (nb (aj.lt hC) lr e)) (Ne.symm (nb (az hm) lr e))⟩
theorem tj(hC:aj w g C)(hm:w.heap[gm]? = some (.cells (mC 22) 45 (0,0)))(hne:g≠gm) : Calls Tryz.prog 148 #[vI 1,vP gm 0,vP g 0] w (kf (fun W=>cO g gm (da 22 C).1 (da 22 C).2 W) w):=by
 refine en 67 Tryz.func148 rfl<|sg<|L0<|cY #[vP gm 0] fun d z e m a=>L0<|cY #[vP g 0] fun f A h n o=>Pl 1<|aL 1<|aK #[.nilFunc] fun B D p q r=>L0<|bY q 0 #[.func (.func 198) #[] #[vP f 0,vP d 0]] fun E F s=>nl<|tn<|aq 2<|aK #[.bool false] fun G H t u v=>L0<|bY u 0 #[.bool false] fun I x y=>nt<|sq<|sg<|?_
 have i:=ud r (aJ s (ud v y t)) p
 have j:=aJ o i
 have k:=ub j m
 refine aC k 0<|Pl 2<|?_
 have b:=aJ a j
 have l:=ub b hm
 refine aC l 0<|ah 1<|bk<|sg<|aC x 0<|ah 9<|c0<|sq<|sq<|go<|ah 3<|c0<|aB 3<|c0<|go<|Pl 7<|nl<|tn<|c0<|aB 3<|c0<|aB 3<|c0<|aB 3<|c1<|aB 2<|rt<|br<|tr<|rr (.func (.func 206) #[] #[vP f 0,vP d 0])<|?_
 exact⟨_,_,rfl,by kernel_rfl,b,F5 (c:=22) ⟨by decide,by decide⟩ (aj.old hC b) l hne (ub i n) (Ne.symm (nb (aj.lt hC) a.size h)) (Ne.symm (nb (az hm) a.size h)) k (Ne.symm (nb (aj.lt hC) lr e)) (Ne.symm (nb (az hm) lr e))⟩
theorem ur(hC:aj w g C)(hm:w.heap[gm]? = some (.cells (mC 23) 45 (0,0)))(hne:g≠gm) : Calls Tryz.prog 148 #[vI 0,vP gm 0,vP g 0] w (kf (fun W=>cO g gm (dn 23 C).1 (dn 23 C).2 W) w):=by
 refine en 67 Tryz.func148 rfl<|sg<|L0<|cY #[vP gm 0] fun f D h q a=>L0<|cY #[vP g 0] fun i E j r b=>Pl 1<|aL 1<|aK #[.nilFunc] fun s F d t u=>L0<|bY t 0 #[.func (.func 198) #[] #[vP i 0,vP f 0]] fun G v x=>nl<|tn<|aq 2<|aK #[.bool false] fun H I y z A=>L0<|bY z 0 #[.bool true] fun J k B=>nt<|sq<|sg<|?_
 have l:=ud A B y
 have m:=ud u (aJ x l) d
 have n:=aJ b m
 have o:=ub n q
 refine aC o 0<|Pl 2<|?_
 have e:=aJ a n
 have p:=ub e hm
 refine aC p 0<|ah 1<|bk<|sg<|aC k 0<|ah 9<|c0<|sq<|sq<|go<|ah 3<|c0<|aB 3<|c0<|go<|Pl 3<|L1<|dQ k 0<|ah 3<|c0<|aB 3<|c0<|aq 3<|nl<|tn<|c0<|aB 3<|c0<|aB 3<|c1<|aB 2<|rt<|br<|tr<|rr (.func (.func 207) #[] #[vP s 0,vP i 0,vP f 0])<|?_
 exact⟨_,_,rfl,by kernel_rfl,e,Fc (c:=23) ⟨by decide,by decide⟩ (aj.old hC e) p hne (ub m r) (Ne.symm (nb (aj.lt hC) a.size j)) (Ne.symm (nb (az hm) a.size j)) o (Ne.symm (nb (aj.lt hC) lr h)) (Ne.symm (nb (az hm) lr h)) (ub l v) (Ne.symm (nb (aj.lt hC) (le a.size b.size) d)) (Ne.symm (nb (az hm) (le a.size b.size) d))⟩
theorem th(hC:aj w g C)(hm:w.heap[gm]? = some (.cells (mC 23) 45 (0,0)))(hne:g≠gm) : Calls Tryz.prog 148 #[vI 1,vP gm 0,vP g 0] w (kf (fun W=>cO g gm (cF 23 C).1 (cF 23 C).2 W) w):=by
 refine en 67 Tryz.func148 rfl<|sg<|L0<|cY #[vP gm 0] fun d z e n a=>L0<|cY #[vP g 0] fun f A h o p=>Pl 1<|aL 1<|aK #[.nilFunc] fun B D q r s=>L0<|bY r 0 #[.func (.func 198) #[] #[vP f 0,vP d 0]] fun E F t=>nl<|tn<|aq 2<|aK #[.bool false] fun G H u v x=>L0<|bY v 0 #[.bool false] fun I i y=>nt<|sq<|sg<|?_
 have j:=ud s (aJ t (ud x y u)) q
 have k:=aJ p j
 have l:=ub k n
 refine aC l 0<|Pl 2<|?_
 have b:=aJ a k
 have m:=ub b hm
 refine aC m 0<|ah 1<|bk<|sg<|aC i 0<|ah 9<|c0<|sq<|sq<|go<|ah 3<|c0<|aB 3<|c0<|go<|Pl 3<|L1<|dQ i 0<|ah 3<|c1<|aB 2<|rt<|br<|tr<|rr (.func (.func 201) #[] #[vP f 0,vP d 0])<|?_
 exact⟨_,_,rfl,by kernel_rfl,b,Em (c:=23) ⟨by decide,by decide⟩ (aj.old hC b) m hne (ub j o) (Ne.symm (nb (aj.lt hC) a.size h)) (Ne.symm (nb (az hm) a.size h)) l (Ne.symm (nb (aj.lt hC) lr e)) (Ne.symm (nb (az hm) lr e))⟩
theorem tO(hC:aj w g C)(hm:w.heap[gm]? = some (.cells (mC 24) 45 (0,0)))(hne:g≠gm) : Calls Tryz.prog 148 #[vI 0,vP gm 0,vP g 0] w (kf (fun W=>cO g gm (dp 24 C).1 (dp 24 C).2 W) w):=by
 refine en 67 Tryz.func148 rfl<|sg<|L0<|cY #[vP gm 0] fun d z e n a=>L0<|cY #[vP g 0] fun f A h o p=>Pl 1<|aL 1<|aK #[.nilFunc] fun B D q r s=>L0<|bY r 0 #[.func (.func 198) #[] #[vP f 0,vP d 0]] fun E F t=>nl<|tn<|aq 2<|aK #[.bool false] fun G H u v x=>L0<|bY v 0 #[.bool true] fun I i y=>nt<|sq<|sg<|?_
 have j:=ud s (aJ t (ud x y u)) q
 have k:=aJ p j
 have l:=ub k n
 refine aC l 0<|Pl 2<|?_
 have b:=aJ a k
 have m:=ub b hm
 refine aC m 0<|ah 1<|bk<|sg<|aC i 0<|ah 9<|c0<|sq<|sq<|go<|ah 3<|c0<|aB 3<|c0<|go<|Pl 7<|nl<|tn<|c0<|aB 3<|c0<|aB 3<|c0<|aB 3<|c0<|aB 3<|c0<|aq 3<|L1<|dQ i 0<|ah 2<|c1<|aB 2<|rt<|br<|tr<|rr (.func (.func 208) #[] #[vP f 0,vP d 0])<|?_
 exact⟨_,_,rfl,by kernel_rfl,b,Fa (c:=24) ⟨by decide,by decide⟩ (aj.old hC b) m hne (ub j o) (Ne.symm (nb (aj.lt hC) a.size h)) (Ne.symm (nb (az hm) a.size h)) l (Ne.symm (nb (aj.lt hC) lr e)) (Ne.symm (nb (az hm) lr e))⟩
theorem tv(hC:aj w g C)(hm:w.heap[gm]? = some (.cells (mC 24) 45 (0,0)))(hne:g≠gm) : Calls Tryz.prog 148 #[vI 1,vP gm 0,vP g 0] w (kf (fun W=>cO g gm (mn 24 C).1 (mn 24 C).2 W) w):=by
 refine en 67 Tryz.func148 rfl<|sg<|L0<|cY #[vP gm 0] fun d z e n a=>L0<|cY #[vP g 0] fun f A h o p=>Pl 1<|aL 1<|aK #[.nilFunc] fun B D q r s=>L0<|bY r 0 #[.func (.func 198) #[] #[vP f 0,vP d 0]] fun E F t=>nl<|tn<|aq 2<|aK #[.bool false] fun G H u v x=>L0<|bY v 0 #[.bool false] fun I i y=>nt<|sq<|sg<|?_
 have j:=ud s (aJ t (ud x y u)) q
 have k:=aJ p j
 have l:=ub k n
 refine aC l 0<|Pl 2<|?_
 have b:=aJ a k
 have m:=ub b hm
 refine aC m 0<|ah 1<|bk<|sg<|aC i 0<|ah 9<|c0<|sq<|sq<|go<|ah 3<|c0<|aB 3<|c0<|go<|Pl 7<|nl<|tn<|c0<|aB 3<|c0<|aB 3<|c0<|aB 3<|c0<|aB 3<|c0<|aq 3<|L1<|dQ i 0<|ah 2<|c0<|aB 3<|c1<|aB 2<|rt<|br<|tr<|rr (.func (.func 209) #[] #[vP f 0,vP d 0])<|?_
 exact⟨_,_,rfl,by kernel_rfl,b,Fl (c:=24) ⟨by decide,by decide⟩ (aj.old hC b) m hne (ub j o) (Ne.symm (nb (aj.lt hC) a.size h)) (Ne.symm (nb (az hm) a.size h)) l (Ne.symm (nb (aj.lt hC) lr e)) (Ne.symm (nb (az hm) lr e))⟩
theorem tG(hC:aj w g C)(hm:w.heap[gm]? = some (.cells (mC c) 45 (0,0)))(hne:g≠gm)(k3:(c==3)=false)(k4:(c==4)=false)(k6:(c==6)=false)(f:(c==16)=false)(h:(c==22)=false)(a:(c==23)=false)(b:(c==24)=false) : Calls Tryz.prog 148 #[vI 0,vP gm 0,vP g 0] w (bS .nilFunc w):=by
 refine en 67 Tryz.func148 rfl<|sg<|L0<|cY #[vP gm 0] fun i x y j k=>L0<|cY #[vP g 0] fun l z A B m=>Pl 1<|aL 1<|aK #[.nilFunc] fun D E n o p=>L0<|bY o 0 #[.func (.func 198) #[] #[vP l 0,vP i 0]] fun F G q=>nl<|tn<|aq 2<|aK #[.bool false] fun H I r s t=>L0<|bY s 0 #[.bool true] fun J u v=>nt<|sq<|sg<|?_
 have d:=aJ m (ud p (aJ q (ud t v r)) n)
 refine aC (ub d j) 0<|Pl 2<|?_
 have e:=aJ k d
 exact aC (ub e hm) 0<|ah 1<|bk<|sg<|aC u 0<|Pl 4<|sy 22 k3<|ah 5<|cf k4<|sq<|aB 3<|cf k3<|aB 3<|cf k4<|go<|Pl 3<|sy 35 a<|ah 4<|c0<|aB 3<|cf k6<|aB 3<|cf f<|aB 3<|cf h<|aq 3<|nl<|tn<|cf a<|aq 3<|sy 59 b<|ah 3<|c0<|aq 3<|nl<|tn<|cf b<|sk<|bn<|tn<|aB 1<|rt<|rr (.nilFunc)<|⟨rfl,e⟩
theorem tJ(hC:aj w g C)(hm:w.heap[gm]? = some (.cells (mC c) 45 (0,0)))(hne:g≠gm)(k3:(c==3)=false)(k4:(c==4)=false)(k6:(c==6)=false)(f:(c==16)=false)(h:(c==22)=false)(a:(c==23)=false)(b:(c==24)=false) : Calls Tryz.prog 148 #[vI 1,vP gm 0,vP g 0] w (bS .nilFunc w):=by
 refine en 67 Tryz.func148 rfl<|sg<|L0<|cY #[vP gm 0] fun i x y j k=>L0<|cY #[vP g 0] fun l z A B m=>Pl 1<|aL 1<|aK #[.nilFunc] fun D E n o p=>L0<|bY o 0 #[.func (.func 198) #[] #[vP l 0,vP i 0]] fun F G q=>nl<|tn<|aq 2<|aK #[.bool false] fun H I r s t=>L0<|bY s 0 #[.bool false] fun J u v=>nt<|sq<|sg<|?_
 have d:=aJ m (ud p (aJ q (ud t v r)) n)
 refine aC (ub d j) 0<|Pl 2<|?_
 have e:=aJ k d
 exact aC (ub e hm) 0<|ah 1<|bk<|sg<|aC u 0<|ah 9<|c0<|sq<|sq<|go<|ah 3<|cf k3<|aB 3<|cf k4<|go<|Pl 3<|sy 35 a<|ah 4<|c0<|aB 3<|cf k6<|aq 3<|nl<|tn<|cf f<|aB 3<|cf h<|aB 3<|cf a<|aq 3<|sy 59 b<|ah 3<|c0<|aB 3<|cf b<|sk<|bn<|tn<|aB 1<|rt<|rr (.nilFunc)<|⟨rfl,e⟩
theorem mX{r:ap × aS}    (hC:aj w g C)(hm:w.heap[gm]? = some (.cells (mC c) 45 (0,0)))(hne:g≠gm)(hd:dir=0∨dir=1)(h:aY dir c C=some r) : Calls Tryz.prog 148 #[.int .i64 dir,.pointer (some ⟨gm,0,none⟩),.pointer (some ⟨g,0,none⟩)] w (kf (fun W=>cO g gm r.1 r.2 W) w):=by
  by_cases h3:c=3
  · subst h3
    rcases hd with rfl|rfl
    · obtain rfl:cn 125 3 C=r:=Option.some.inj h
      exact xe hC hm hne
    · obtain rfl:cF 3 C=r:=Option.some.inj h
      exact vq hC hm hne
  by_cases h4:c=4
  · subst h4
    rcases hd with rfl|rfl
    · obtain rfl:cn 125 4 C=r:=Option.some.inj h
      exact wW hC hm hne
    · obtain rfl:cF 4 C=r:=Option.some.inj h
      exact wl hC hm hne
  by_cases h6:c=6
  · subst h6
    rcases hd with rfl|rfl
    · obtain rfl:eo 6 C=r:=Option.some.inj h
      exact vF hC hm hne
    · obtain rfl:eo 6 C=r:=Option.some.inj h
      exact vm hC hm hne
  by_cases a:c=16
  · subst a
    rcases hd with rfl|rfl
    · obtain rfl:dq 16 C=r:=Option.some.inj h
      exact u4 hC hm hne
    · obtain rfl:cn 123 16 C=r:=Option.some.inj h
      exact uo hC hm hne
  by_cases b:c=22
  · subst b
    rcases hd with rfl|rfl
    · obtain rfl:da 22 C=r:=Option.some.inj h
      exact uf hC hm hne
    · obtain rfl:da 22 C=r:=Option.some.inj h
      exact tj hC hm hne
  by_cases d:c=23
  · subst d
    rcases hd with rfl|rfl
    · obtain rfl:dn 23 C=r:=Option.some.inj h
      exact ur hC hm hne
    · obtain rfl:cF 23 C=r:=Option.some.inj h
      exact th hC hm hne
  by_cases e:c=24
  · subst e
    rcases hd with rfl|rfl
    · obtain rfl:dp 24 C=r:=Option.some.inj h
      exact tO hC hm hne
    · obtain rfl:mn 24 C=r:=Option.some.inj h
      exact tv hC hm hne
  exfalso
  unfold aY at h
  simp[h3,h4,h6,a,b,d,e] at h
theorem nA(hC:aj w g C)(hm:w.heap[gm]? = some (.cells (mC c) 45 (0,0)))(hne:g≠gm)(hd:dir=0∨dir=1)(h:aY dir c C=none) : Calls Tryz.prog 148 #[.int .i64 dir,.pointer (some ⟨gm,0,none⟩),.pointer (some ⟨g,0,none⟩)] w (bS .nilFunc w):=by
  have k3:(c==3)=false:=by
    cases hk:(c==3)
    · rfl
    · obtain rfl:c=3:=by simpa using hk
      rcases hd with rfl|rfl<;>cases h
  have k4:(c==4)=false:=by
    cases hk:(c==4)
    · rfl
    · obtain rfl:c=4:=by simpa using hk
      rcases hd with rfl|rfl<;>cases h
  have k6:(c==6)=false:=by
    cases hk:(c==6)
    · rfl
    · obtain rfl:c=6:=by simpa using hk
      rcases hd with rfl|rfl<;>cases h
  have a:(c==16)=false:=by
    cases hk:(c==16)
    · rfl
    · obtain rfl:c=16:=by simpa using hk
      rcases hd with rfl|rfl<;>cases h
  have b:(c==22)=false:=by
    cases hk:(c==22)
    · rfl
    · obtain rfl:c=22:=by simpa using hk
      rcases hd with rfl|rfl<;>cases h
  have d:(c==23)=false:=by
    cases hk:(c==23)
    · rfl
    · obtain rfl:c=23:=by simpa using hk
      rcases hd with rfl|rfl<;>cases h
  have e:(c==24)=false:=by
    cases hk:(c==24)
    · rfl
    · obtain rfl:c=24:=by simpa using hk
      rcases hd with rfl|rfl<;>cases h
  rcases hd with rfl|rfl
  · exact tG hC hm hne k3 k4 k6 a b d e
  · exact tJ hC hm hne k3 k4 k6 a b d e
open Go.RowKit
variable {b:List Int}{cp:Nat}
theorem pJ(hcode:B8 c)(hsl:aV m w (.slice A b.length cp) b)(hb:b.length≤1048576) :
    Calls Tryz.prog 98 #[vI 0,vB c,.slice A b.length cp] w (eN (ak aY 0 c b) w):=by
 obtain⟨hcode1,hcode2⟩:=hcode
 have hln:(b.length:Int)≤1048576:=by omega
 refine en 40 Tryz.func98 rfl<|sg<|aK mZ fun U V k i v=>ah 1<|sq<|aB 6<|c0<|bu<|aq 2<|aK mZ fun W X g l K=>aG l (mC c) fun Y x n=>aL 1<|?_
 have h:=ud K n g
 have o:=aJ v h
 refine ay<|e3 (er (aV.old hsl o) (by omega)) fun Z a0 d y a=>Pl 1<|aL 2<|?_
 have z:=aJ o a
 refine wo (aY 0 c ⟨b,false,0⟩) (fun hr=>?_) (fun r hr=>?_)
 refine ay<|m1 (nA (dir:=0) (c:=c) y (ub a x) (Ne.symm (nb (az l) n.size d)) (Or.inl rfl) hr) fun a1 B=>ah 1<|sq<|aB 2<|c1<|aq 1<|?_
 refine aG (ub (aJ h (aJ a B)) i) mZ fun a2 L M=>ah 1<|b6<|ck L (vI 4)<|?_
 exact cI (by unfold ak;(try simp only[bi,ea,ed,e9,eb,ec,reduceIte,hr])<;>rfl) (cQ (ud z (uz B M) k))
 have C:=nb (az l) n.size d
 refine ay<|sW (mX (dir:=0) (c:=c) y (ub a x) (Ne.symm C) (Or.inl rfl) hr) fun N D a3 O E hcall51=>ah 1<|sq<|aB 2<|c0<|bu<|sq<|go<|Pl 1<|L0<|i8 (f:=N) (args:=D) (hf:=O) #[] D<|m3 (hcall51) fun a4 F P G=>?_
 obtain⟨Q,j,p⟩:=P
 refine aL 1<|ay<|m2 (fk F) fun a5 H q=>nt<|sq<|aq 1<|ay<|mq (cT H)<|?_
 have a6:=aj.len H
 refine Pl 1<|dk 2<|?_
 have s:=uz E (u1 G q im)
 have I:=ut z s (ac (ni o.size d) (ac (ni v.size g) aD))
 have hs:ak aY 0 c b=bC r.2 r.1:=by
   unfold ak
   (try simp only[bi,ea,ed,e9,eb,ec,reduceIte,hr])
   all_goals rfl
 refine cb ((r.1.endC.e != 0)) (fun t=>?_) (fun t=>?_)
 have u:=aA t
 refine aq 2<|?_
 refine aG (ub (ud h (ud a s d) g) i) mZ fun a7 R S=>ah 1<|b6<|ck R (vI r.1.endC.e)<|?_
 rw[hs]
 exact dL u (ud I S k)
 have u:=aF t
 refine bu<|sg<|?_
 refine L0<|cm (hz:=(by rw[j.2];exact aQ)) (bj q C j.1)<|?_
 refine aG (hz:=(by rw[j.2];exact aQ)) (hv:=p.size) (h1:=p.one) (ub (ud h (ud a s d) g) i) (Q) fun a8 T J=>ah 1<|rt<|fO 22 j.2 T (vI 0)<|?_
 rw[hs]
 exact el u (aH.upd p (us q J) (av (aj.safe F _ (by decide)) (av (b9 (ub (ud h (ud a (uz E G) d) g) i) (by decide)) aM))) (ud I J k)
theorem qz(hcode:B8 c)(hsl:aV m w (.slice A b.length cp) b)(hb:b.length≤1048576) :
    Calls Tryz.prog 98 #[vI 1,vB c,.slice A b.length cp] w (eN (ak aY 1 c b) w):=by
 obtain⟨hcode1,hcode2⟩:=hcode
 have hln:(b.length:Int)≤1048576:=by omega
 refine en 40 Tryz.func98 rfl<|sg<|aK mZ fun U V k i v=>ah 1<|sq<|aB 6<|c0<|bu<|aq 2<|aK mZ fun W X g l K=>aG l (mC c) fun Y x n=>aL 1<|?_
 have h:=ud K n g
 have o:=aJ v h
 refine ay<|e3 (er (aV.old hsl o) (by omega)) fun Z a0 d y a=>Pl 1<|aL 2<|?_
 have z:=aJ o a
 refine wo (aY 1 c ⟨b,false,0⟩) (fun hr=>?_) (fun r hr=>?_)
 refine ay<|m1 (nA (dir:=1) (c:=c) y (ub a x) (Ne.symm (nb (az l) n.size d)) (Or.inr rfl) hr) fun a1 B=>ah 1<|sq<|aB 2<|c1<|aq 1<|?_
 refine aG (ub (aJ h (aJ a B)) i) mZ fun a2 L M=>ah 1<|b6<|ck L (vI 4)<|?_
 exact cI (by unfold ak;(try simp only[bi,ea,ed,e9,eb,ec,reduceIte,hr])<;>rfl) (cQ (ud z (uz B M) k))
 have C:=nb (az l) n.size d
 refine ay<|sW (mX (dir:=1) (c:=c) y (ub a x) (Ne.symm C) (Or.inr rfl) hr) fun N D a3 O E hcall51=>ah 1<|sq<|aB 2<|c0<|bu<|sq<|go<|Pl 1<|L0<|i8 (f:=N) (args:=D) (hf:=O) #[] D<|m3 (hcall51) fun a4 F P G=>?_
 obtain⟨Q,j,p⟩:=P
 refine aL 1<|ay<|m2 (fk F) fun a5 H q=>nt<|sq<|aq 1<|ay<|mq (cT H)<|?_
 have a6:=aj.len H
 refine Pl 1<|dk 2<|?_
 have s:=uz E (u1 G q im)
 have I:=ut z s (ac (ni o.size d) (ac (ni v.size g) aD))
 have hs:ak aY 1 c b=bC r.2 r.1:=by
   unfold ak
   (try simp only[bi,ea,ed,e9,eb,ec,reduceIte,hr])
   all_goals rfl
 refine cb ((r.1.endC.e != 0)) (fun t=>?_) (fun t=>?_)
 have u:=aA t
 refine aq 2<|?_
 refine aG (ub (ud h (ud a s d) g) i) mZ fun a7 R S=>ah 1<|b6<|ck R (vI r.1.endC.e)<|?_
 rw[hs]
 exact dL u (ud I S k)
 have u:=aF t
 refine bu<|sg<|?_
 refine L0<|cm (hz:=(by rw[j.2];exact aQ)) (bj q C j.1)<|?_
 refine aG (hz:=(by rw[j.2];exact aQ)) (hv:=p.size) (h1:=p.one) (ub (ud h (ud a s d) g) i) (Q) fun a8 T J=>ah 1<|rt<|fO 22 j.2 T (vI 0)<|?_
 rw[hs]
 exact el u (aH.upd p (us q J) (av (aj.safe F _ (by decide)) (av (b9 (ub (ud h (ud a (uz E G) d) g) i) (by decide)) aM))) (ud I J k)
theorem ql(hcode:B8 c)(hsl:aV m w (.slice A b.length cp) b)(hb:b.length≤1048576)(hd:¬ (dir=0∨dir=1)) :
    Calls Tryz.prog 98 #[vI dir,vB c,.slice A b.length cp] w (eN (ak aY dir c b) w):=by
 obtain⟨hcode1,hcode2⟩:=hcode
 have hln:(b.length:Int)≤1048576:=by omega
 have e0:(dir != 0)=true:=by simp;omega
 have e1:(dir != 1)=true:=by simp;omega
 refine en 40 Tryz.func98 rfl<|sg<|aK mZ fun g h a d e=>ah 1<|sq<|aq 3<|sy 14 e0<|Pl 3<|nl<|tn<|ct e1<|aq 1<|aG d mZ fun i eR f=>ah 1<|b6<|ck eR (vI 1)<|?_
 exact cI (by unfold ak aY;(try simp only[e0,e1,bi,ea,ed,e9,eb,ec,reduceIte,hd])<;>rfl) (cQ (ud e f a))
theorem mJ(hc:B8 c)(h:aV m w v b)(hb:b.length≤1048576) :
    Calls Tryz.prog 98 #[.int .i64 dir,.int .u8 c,v] w (eN (ak aY dir c b) w):=by
  obtain⟨A,cp,rfl,_,_⟩:=h.shape
  by_cases h0:dir=0
  · subst h0;exact pJ hc h hb
  by_cases h1:dir=1
  · subst h1;exact qz hc h hb
  exact ql hc h hb (by omega)
open Go.RowKit
theorem mR(hcode:B8 c)(hC:aj w g C)(hm:w.heap[gm]? = some (.cells (mC c) 45 (0,0)))(hne:g≠gm) :
    Calls Tryz.prog 193 #[.agg #[vP g 0,vP gm 0],vW most] w (tL g gm (cz C most) (mG c 0 C.wordV (C.wordsC 1).wordV 0 0 0 0 0 0 0 0 nS nS nS nS 0 0 0 0 0 nS) w):=by
 obtain⟨hcode1,hcode2⟩:=hcode
 have hlen:=hC.len
 refine en 51 Tryz.func193 rfl<|sg<|L0<|cY #[vP g 0,vP gm 0] fun f ak P a7 a8=>nt<|sq<|Rg 8 (fun w'=>w'.cell? ⟨f,1,none⟩=some (vP gm 0)∧w'.cell? ⟨f,0,none⟩=some (vP g 0)) fun al Q=>?_
 have t:=ub Q a7
 refine bv ⟨(ae t rfl),(ae t rfl)⟩ fun o=>Rt 0 o<|Rl 1 o (fun _ hs=>hs.1)<|Rt 2 o<|Rl 3 o (fun _ hs=>hs.2)<|?_
 have R:=aJ a8 Q
 refine R0 4 rfl<|Oc<|m3 (bZ (aj.old hC R)) fun am a9 S an=>?_
 have h:=nb (aj.lt hC) lr P
 have u:=bj S (Ne.symm h) t
 refine bv ⟨(ae u rfl),(ae u rfl)⟩ fun T=>Rt 5 T<|Rt 6 T<|?_
 have U:=uz R S
 have V:=bj U (Ne.symm hne) hm
 refine R0 7 rfl<|bY V 2 (mG c 0 C.wordV 0 0 0 0 0 0 0 0 0 nS nS nS nS 0 0 0 0 0 nS) fun ao ab W=>?_
 have X:=nb (az hm) lr P
 have v:=bj W (Ne.symm X) u
 refine bv ⟨(ae v rfl),(ae v rfl)⟩ fun aq=>re<|tn<|sq<|Rg 8 (fun w'=>w'.cell? ⟨f,1,none⟩=some (vP gm 0)∧w'.cell? ⟨f,0,none⟩=some (vP g 0)) fun ar x=>?_
 have y:=ub x v
 refine bv ⟨(ae y rfl),(ae y rfl)⟩ fun p=>Rt 0 p<|Rl 1 p (fun _ hs=>hs.1)<|Rt 2 p<|Rl 3 p (fun _ hs=>hs.2)<|?_
 have Y:=aJ W x
 refine R0 4 rfl<|Oc<|m3 (bZ (aj.upd a9 Y (aa hne aE) (av (b9 V (by decide)) aM))) fun au Z z aw=>?_
 have A:=bj z (Ne.symm h) y
 refine bv ⟨(ae A rfl),(ae A rfl)⟩ fun a0=>Rt 5 a0<|Rt 6 a0<|?_
 have B:=bj (uz x z) (Ne.symm hne) ab
 refine R0 7 rfl<|bY B 3 (mG c 0 C.wordV ((C.wordsC 1).wordV) 0 0 0 0 0 0 0 0 nS nS nS nS 0 0 0 0 0 nS) fun ax ac a1=>?_
 have D:=bj a1 (Ne.symm X) A
 refine bv ⟨(ae D rfl),(ae D rfl)⟩ fun ay=>re<|tn<|sq<|Rg 18 (fun w'=>w'.cell? ⟨f,0,none⟩=some (vP g 0)∧w'.cell? ⟨f,1,none⟩=some (vP gm 0)∧w'.cell? ⟨gm,3,none⟩=some (vW ((C.wordsC 1).wordV))) fun aA E=>?_
 have q:=ub E D
 have F:=ub E ac
 refine bv ⟨(ae q rfl),(ae q rfl),(ae F rfl)⟩ fun b=>Rt 0 b<|Rl 1 b (fun _ hs=>hs.1)<|Rt 2 b<|Rl 3 b (fun _ hs=>hs.2.1)<|Rt 4 b<|Rt 5 b<|Rl 6 b (fun _ hs=>hs.2.2)<|Rt 7 b<|Rt 8 b<|?_
 have G:=aJ a1 E
 have a2:=ui U (ui Y (us z G))
 refine wc 26 ((decide (1≤((C.wordsC 1).wordV)))) (fun i=>?_) (fun i=>?_)
 have ad:=of_decide_eq_true i
 refine Rt 9 b<|Rl 10 b (fun _ hs=>hs.2.1)<|Rt 11 b<|Rt 12 b<|Rl 13 b (fun _ hs=>hs.2.2)<|Rt 14 b<|Rt 15 b<|Rt 16 b<|?_
 refine R0 17 rfl<|Oc<|m2 (bq ((decide (((C.wordsC 1).wordV)≤most))) 5 (aj.upd Z G (aa hne aE) (av (b9 B (by decide)) aM))) fun aB af H=>?_
 have I:=bj H (Ne.symm h) q
 have a3:=bj H (Ne.symm hne) F
 refine bv ⟨(ae I rfl),(ae I rfl),(ae a3 rfl)⟩ fun aC=>re<|tn<|Rg 15 (fun w'=>w'.cell? ⟨f,0,none⟩=some (vP g 0)∧w'.cell? ⟨f,1,none⟩=some (vP gm 0)∧w'.cell? ⟨gm,2,none⟩=some (vW C.wordV)∧w'.cell? ⟨gm,3,none⟩=some (vW ((C.wordsC 1).wordV))) fun aD r=>?_
 have j:=ub r I
 have k:=ub r a3
 refine bv ⟨(ae j rfl),(ae j rfl),(ae k rfl),(ae k rfl)⟩ fun d=>Rt 0 d<|Rl 1 d (fun _ hs=>hs.1)<|Rt 2 d<|Rl 3 d (fun _ hs=>hs.2.1)<|Rt 4 d<|Rt 5 d<|Rl 6 d (fun _ hs=>hs.2.2.1)<|Rt 7 d<|Rl 8 d (fun _ hs=>hs.2.1)<|Rt 9 d<|Rt 10 d<|Rl 11 d (fun _ hs=>hs.2.2.2)<|Rr 12 d (vI ((C.wordsC 1).wordV)) (fun _ _=>bO (vI (IntKind.i64.wrap ((C.wordsC 1).wordV))) (by kernel_rfl) (congrArg (Value.int .i64) (i64_in (by omega))))<|R0 13 rfl<|Oc<|mq (ki (a:=C.wordV) (n:=(C.wordsC 1).wordV) (by omega))<|bv ⟨(ae j rfl),(ae j rfl),(ae k rfl),(ae k rfl)⟩ fun aF=>?_
 refine R0 14 rfl<|Oc<|m2 (bq ((dY C.wordV ((C.wordsC 1).wordV))) 7 (aj.old af r)) fun aG ag J=>?_
 have a4:=bj J (Ne.symm h) j
 have K:=bj J (Ne.symm hne) k
 refine bv ⟨(ae a4 rfl),(ae a4 rfl),(ae K rfl),(ae K rfl)⟩ fun aH=>re<|rm (.tuple #[])<|?_
 have hs:cz C most=((((C.wordsC 1).wordsC 1).need (decide (((C.wordsC 1).wordV)≤most)) 5).need (dY C.wordV ((C.wordsC 1).wordV)) 7):=by
   unfold cz km
   (try simp only[i,bi,reduceIte])
   all_goals rfl
 rw[hs]
 exact⟨rfl,ag,K,(u1 a2 (u1 H (uz r J) im) im)⟩
 have ad:=of_decide_eq_false i
 refine Ro 9 b<|Ro 10 b<|Ro 11 b<|Ro 12 b<|Ro 13 b<|Ro 14 b<|Ro 15 b<|Rt 16 b<|?_
 refine R0 17 rfl<|Oc<|m2 (bq (false) 5 (aj.upd Z G (aa hne aE) (av (b9 B (by decide)) aM))) fun aI ah L=>?_
 have M:=bj L (Ne.symm h) q
 have a5:=bj L (Ne.symm hne) F
 refine bv ⟨(ae M rfl),(ae M rfl),(ae a5 rfl)⟩ fun aK=>re<|tn<|Rg 15 (fun w'=>w'.cell? ⟨f,0,none⟩=some (vP g 0)∧w'.cell? ⟨f,1,none⟩=some (vP gm 0)∧w'.cell? ⟨gm,2,none⟩=some (vW C.wordV)∧w'.cell? ⟨gm,3,none⟩=some (vW ((C.wordsC 1).wordV))) fun aL s=>?_
 have l:=ub s M
 have m:=ub s a5
 refine bv ⟨(ae l rfl),(ae l rfl),(ae m rfl),(ae m rfl)⟩ fun e=>Rt 0 e<|Rl 1 e (fun _ hs=>hs.1)<|Rt 2 e<|Rl 3 e (fun _ hs=>hs.2.1)<|Rt 4 e<|Rt 5 e<|Rl 6 e (fun _ hs=>hs.2.2.1)<|Rt 7 e<|Rl 8 e (fun _ hs=>hs.2.1)<|Rt 9 e<|Rt 10 e<|Rl 11 e (fun _ hs=>hs.2.2.2)<|Rr 12 e (vI ((C.wordsC 1).wordV)) (fun _ _=>bO (vI (IntKind.i64.wrap ((C.wordsC 1).wordV))) (by kernel_rfl) (congrArg (Value.int .i64) (i64_in (by omega))))<|R0 13 rfl<|Oc<|mq (ki (a:=C.wordV) (n:=(C.wordsC 1).wordV) (by omega))<|bv ⟨(ae l rfl),(ae l rfl),(ae m rfl),(ae m rfl)⟩ fun aN=>?_
 refine R0 14 rfl<|Oc<|m2 (bq ((dY C.wordV ((C.wordsC 1).wordV))) 7 (aj.old ah s)) fun aO ai N=>?_
 have a6:=bj N (Ne.symm h) l
 have O:=bj N (Ne.symm hne) m
 refine bv ⟨(ae a6 rfl),(ae a6 rfl),(ae O rfl),(ae O rfl)⟩ fun aP=>re<|rm (.tuple #[])<|?_
 have hs:cz C most=((((C.wordsC 1).wordsC 1).need false 5).need (dY C.wordV ((C.wordsC 1).wordV)) 7):=by
   unfold cz km
   (try simp only[i,bi,reduceIte])
   all_goals rfl
 rw[hs]
 exact⟨rfl,ai,O,(u1 a2 (u1 L (uz s N) im) im)⟩
theorem kV(hcode:B8 c)(hC:aj w g C)(hm:w.heap[gm]? = some (.cells (mC c) 45 (0,0)))(hne:g≠gm) :
    Calls Tryz.prog 140 #[.agg #[vP g 0,vP gm 0]] w (cO g gm (ek 2000 c C).1 (ek 2000 c C).2 w):=by
 obtain⟨hcode1,hcode2⟩:=hcode
 have hlen:=hC.len
 refine en 4 Tryz.func140 rfl<|sg<|L0<|cY #[vP g 0,vP gm 0] fun i j k d a=>nt<|go<|L0<|cm d<|?_
 have b:=aj.old hC a
 refine ay<|m3 (mR (most:=2000) ⟨hcode1,hcode2⟩ b (ub a hm) hne) fun l e f h=>?_
 have m:=(b).wordV
 have n:=bN (cS (b).rng 1)
 refine nl<|rm (.tuple #[])<|?_
 exact cI (by unfold ek;(try simp only[bi,reduceIte])<;>rfl) ⟨rfl,e,⟨_,⟨f,rfl⟩,⟨_,_,_,_,_,rfl,aT.nil ..,aT.nil ..,aT.nil ..,aT.nil ..,aT.nil ..,⟨(b8 (x:=c) (by omega)),(b8 (x:=0) (by omega)),(cM (x:=C.wordV) (by omega)),(cM (x:=(C.wordsC 1).wordV) (by omega)),(cM (x:=0) (by omega)),(cM (x:=0) (by omega)),(cM (x:=0) (by omega)),(cM (x:=0) (by omega)),(cM (x:=0) (by omega)),(cM (x:=0) (by omega)),(cM (x:=0) (by omega)),(cM (x:=0) (by omega)),(b8 (x:=0) (by omega)),(b8 (x:=0) (by omega)),(b8 (x:=0) (by omega)),(b8 (x:=0) (by omega)),(b8 (x:=0) (by omega))⟩⟩⟩,(uz a h)⟩
theorem oQ(hcode:B8 c)(hC:aj w g C)(hm:w.heap[gm]? = some (.cells (mC c) 45 (0,0)))(hne:g≠gm) :
    Calls Tryz.prog 141 #[.agg #[vP g 0,vP gm 0]] w (cO g gm (dZ c C).1 (dZ c C).2 w):=by
 obtain⟨hcode1,hcode2⟩:=hcode
 have hlen:=hC.len
 refine en 24 Tryz.func141 rfl<|sg<|L0<|cY #[vP g 0,vP gm 0] fun j L k l m=>aL 1<|aC l 0<|?_
 refine ay<|m3 (bX (aj.old hC m)) fun M A o N=>Pl 1<|aL 1<|?_
 have e:=nb (aj.lt hC) lr k
 have p:=bj o (Ne.symm e) l
 refine aC p 0<|Pl 3<|cu 3 [10] 13 (((decide (1≤C.byteV))&&(decide (C.byteV≤250)))) (fun K q=>?_) ?_
 refine bl 10 ((decide (1≤C.byteV))) (fun b=>?_) (fun b=>?_)
 have B:=of_decide_eq_true b
 exact Pl 3<|ce q (decide (C.byteV≤250)) (by rw[b];rfl)
 have B:=of_decide_eq_false b
 exact Pl 3<|ce q false (by rw[b];rfl)
 refine ay<|m2 (bq (((decide (1≤C.byteV))&&(decide (C.byteV≤250)))) 5 A) fun O D E=>nt<|Rg 10 (fun w'=>w'.cell? ⟨j,1,none⟩=some (vP gm 0)∧w'.cell? ⟨j,0,none⟩=some (vP g 0)) fun P r=>?_
 have s:=aJ E r
 have f:=bj s (Ne.symm e) p
 refine bv ⟨(ae f rfl),(ae f rfl)⟩ fun a=>Rt 0 a<|Rl 1 a (fun _ hs=>hs.1)<|Rt 2 a<|Rl 3 a (fun _ hs=>hs.2)<|Rt 4 a<|Rr 5 a (vI C.byteV) (fun _ _=>bO (vI (IntKind.i64.wrap C.byteV)) (by kernel_rfl) (congrArg (Value.int .i64) (i64_in (by omega))))<|?_
 have t:=aj.old D r
 refine R0 6 rfl<|Oc<|vD (cK (n:=C.byteV) t) fun F G Q H R S I u=>?_
 have T:=Nat.le_trans (ap.bytesR_le ((C.bytesC 1).need ((decide (1≤C.byteV))&&(decide (C.byteV≤250))) 5) C.byteV) (aj.len t)
 have h:=bj u (Ne.symm e) f
 refine bv ⟨(ae h rfl),(ae h rfl)⟩ fun v=>Rt 7 v<|Rt 8 v<|?_
 have y:=uz m (u1 o (u1 s u im) im)
 have i:=bj y (Ne.symm hne) hm
 refine R0 9 rfl<|bY i 14 (mG c 0 0 0 0 0 0 0 0 0 0 0 nS nS (.slice F ((((C.bytesC 1).need ((decide (1≤C.byteV))&&(decide (C.byteV≤250))) 5).bytesR C.byteV).length) G) nS 0 0 0 0 0 nS) fun U J d=>?_
 have z:=bj d (Ne.symm (nb (az hm) lr k)) h
 refine bv ⟨(ae z rfl),(ae z rfl)⟩ fun V=>re<|rm (.tuple #[])<|?_
 exact cI (by unfold dZ ef;(try simp only[bi,reduceIte])<;>rfl) ⟨rfl,(aj.upd I d (aa hne aE) (av (b9 i (by decide)) aM)),⟨_,⟨J,rfl⟩,⟨_,_,_,_,_,rfl,aT.nil ..,aT.nil ..,(aV.upd' H d (av (b9 i (by decide)) aM)),aT.nil ..,aT.nil ..,⟨(b8 (x:=c) (by omega)),(b8 (x:=0) (by omega)),(cM (x:=0) (by omega)),(cM (x:=0) (by omega)),(cM (x:=0) (by omega)),(cM (x:=0) (by omega)),(cM (x:=0) (by omega)),(cM (x:=0) (by omega)),(cM (x:=0) (by omega)),(cM (x:=0) (by omega)),(cM (x:=0) (by omega)),(cM (x:=0) (by omega)),(b8 (x:=0) (by omega)),(b8 (x:=0) (by omega)),(b8 (x:=0) (by omega)),(b8 (x:=0) (by omega)),(b8 (x:=0) (by omega))⟩⟩⟩,(us y d)⟩
theorem oT(hcode:B8 c)(hC:aj w g C)(hm:w.heap[gm]? = some (.cells (mC c) 45 (0,0)))(hne:g≠gm) :
    Calls Tryz.prog 142 #[.agg #[vP g 0,vP gm 0]] w (cO g gm (dM c C).1 (dM c C).2 w):=by
 obtain⟨hcode1,hcode2⟩:=hcode
 have hlen:=hC.len
 refine en 33 Tryz.func142 rfl<|sg<|L0<|cY #[vP g 0,vP gm 0] fun b a0 z S T=>nt<|sq<|Rg 8 (fun w'=>w'.cell? ⟨b,1,none⟩=some (vP gm 0)∧w'.cell? ⟨b,0,none⟩=some (vP g 0)) fun a1 A=>?_
 have j:=ub A S
 refine bv ⟨(ae j rfl),(ae j rfl)⟩ fun e=>Rt 0 e<|Rl 1 e (fun _ hs=>hs.1)<|Rt 2 e<|Rl 3 e (fun _ hs=>hs.2)<|?_
 have B:=aJ T A
 refine R0 4 rfl<|Oc<|m3 (bZ (aj.old hC B)) fun a2 U D a3=>?_
 have f:=nb (aj.lt hC) lr z
 have k:=bj D (Ne.symm f) j
 refine bv ⟨(ae k rfl),(ae k rfl)⟩ fun E=>Rt 5 E<|Rt 6 E<|?_
 have F:=uz B D
 have G:=bj F (Ne.symm hne) hm
 refine R0 7 rfl<|bY G 2 (mG c 0 C.wordV 0 0 0 0 0 0 0 0 0 nS nS nS nS 0 0 0 0 0 nS) fun a4 V H=>?_
 have I:=nb (az hm) lr z
 have l:=bj H (Ne.symm I) k
 refine bv ⟨(ae l rfl),(ae l rfl)⟩ fun a5=>re<|tn<|sq<|Rg 8 (fun w'=>w'.cell? ⟨b,1,none⟩=some (vP gm 0)∧w'.cell? ⟨b,0,none⟩=some (vP g 0)) fun a6 m=>?_
 have n:=ub m l
 refine bv ⟨(ae n rfl),(ae n rfl)⟩ fun h=>Rt 0 h<|Rl 1 h (fun _ hs=>hs.1)<|Rt 2 h<|Rl 3 h (fun _ hs=>hs.2)<|?_
 have J:=aJ H m
 refine R0 4 rfl<|Oc<|m3 (bZ (aj.upd U J (aa hne aE) (av (b9 G (by decide)) aM))) fun a7 K o a8=>?_
 have p:=bj o (Ne.symm f) n
 refine bv ⟨(ae p rfl),(ae p rfl)⟩ fun L=>Rt 5 L<|Rt 6 L<|?_
 have q:=bj (uz m o) (Ne.symm hne) V
 refine R0 7 rfl<|bY q 4 (mG c 0 C.wordV 0 ((C.wordsC 1).wordV) 0 0 0 0 0 0 0 nS nS nS nS 0 0 0 0 0 nS) fun a9 W M=>?_
 have r:=bj M (Ne.symm I) p
 refine bv ⟨(ae r rfl),(ae r rfl)⟩ fun ab=>re<|tn<|Rg 17 (fun w'=>w'.cell? ⟨b,0,none⟩=some (vP g 0)∧w'.cell? ⟨b,1,none⟩=some (vP gm 0)∧w'.cell? ⟨gm,4,none⟩=some (vW ((C.wordsC 1).wordV))) fun ac s=>?_
 have i:=ub s r
 have t:=ub s W
 refine bv ⟨(ae i rfl),(ae i rfl),(ae t rfl)⟩ fun a=>Rt 0 a<|Rl 1 a (fun _ hs=>hs.1)<|Rt 2 a<|Rl 3 a (fun _ hs=>hs.2.1)<|Rt 4 a<|Rt 5 a<|Rl 6 a (fun _ hs=>hs.2.2)<|Rt 7 a<|Rt 8 a<|?_
 have u:=aJ M s
 have N:=ui F (ui J (us o u))
 refine wc 24 ((((C.wordsC 1).wordV)==0)) (fun d=>?_) (fun d=>?_)
 have X:=ag d
 refine Ro 9 a<|Ro 10 a<|Ro 11 a<|Ro 12 a<|Ro 13 a<|Ro 14 a<|Rt 15 a<|?_
 refine R0 16 rfl<|Oc<|m2 (bq (true) 6 (aj.upd K u (aa hne aE) (av (b9 q (by decide)) aM))) fun ad Y v=>?_
 have O:=bj v (Ne.symm f) i
 have P:=bj v (Ne.symm hne) t
 refine bv ⟨(ae O rfl),(ae O rfl),(ae P rfl)⟩ fun af=>re<|rm (.tuple #[])<|?_
 have hs:dM c C=((((C.wordsC 1).wordsC 1).need true 6),(aS.mk c 0 C.wordV 0 ((C.wordsC 1).wordV) 0 0 0 0 0 0 0 [] [] [] [] 0 0 0 0 0 [])):=by
   unfold dM fP
   (try simp only[d,bi,reduceIte])
   all_goals rfl
 rw[hs]
 exact⟨rfl,Y,⟨_,⟨P,rfl⟩,⟨_,_,_,_,_,rfl,aT.nil ..,aT.nil ..,aT.nil ..,aT.nil ..,aT.nil ..,⟨(b8 (x:=c) (by omega)),(b8 (x:=0) (by omega)),(cM (x:=C.wordV) (by omega)),(cM (x:=0) (by omega)),(cM (x:=(C.wordsC 1).wordV) (by omega)),(cM (x:=0) (by omega)),(cM (x:=0) (by omega)),(cM (x:=0) (by omega)),(cM (x:=0) (by omega)),(cM (x:=0) (by omega)),(cM (x:=0) (by omega)),(cM (x:=0) (by omega)),(b8 (x:=0) (by omega)),(b8 (x:=0) (by omega)),(b8 (x:=0) (by omega)),(b8 (x:=0) (by omega)),(b8 (x:=0) (by omega))⟩⟩⟩,(u1 N v im)⟩
 have X:=ai d
 refine Rt 9 a<|Rl 10 a (fun _ hs=>hs.2.1)<|Rt 11 a<|Rt 12 a<|Rl 13 a (fun _ hs=>hs.2.2)<|Rt 14 a<|Rt 15 a<|?_
 refine R0 16 rfl<|Oc<|m2 (bq ((((C.wordsC 1).wordV)==65280)) 6 (aj.upd K u (aa hne aE) (av (b9 q (by decide)) aM))) fun ah Z y=>?_
 have Q:=bj y (Ne.symm f) i
 have R:=bj y (Ne.symm hne) t
 refine bv ⟨(ae Q rfl),(ae Q rfl),(ae R rfl)⟩ fun ak=>re<|rm (.tuple #[])<|?_
 have hs:dM c C=((((C.wordsC 1).wordsC 1).need (((C.wordsC 1).wordV)==65280) 6),(aS.mk c 0 C.wordV 0 ((C.wordsC 1).wordV) 0 0 0 0 0 0 0 [] [] [] [] 0 0 0 0 0 [])):=by
   unfold dM fP
   (try simp only[d,bi,reduceIte])
   all_goals rfl
 rw[hs]
 exact⟨rfl,Z,⟨_,⟨R,rfl⟩,⟨_,_,_,_,_,rfl,aT.nil ..,aT.nil ..,aT.nil ..,aT.nil ..,aT.nil ..,⟨(b8 (x:=c) (by omega)),(b8 (x:=0) (by omega)),(cM (x:=C.wordV) (by omega)),(cM (x:=0) (by omega)),(cM (x:=(C.wordsC 1).wordV) (by omega)),(cM (x:=0) (by omega)),(cM (x:=0) (by omega)),(cM (x:=0) (by omega)),(cM (x:=0) (by omega)),(cM (x:=0) (by omega)),(cM (x:=0) (by omega)),(cM (x:=0) (by omega)),(b8 (x:=0) (by omega)),(b8 (x:=0) (by omega)),(b8 (x:=0) (by omega)),(b8 (x:=0) (by omega)),(b8 (x:=0) (by omega))⟩⟩⟩,(u1 N y im)⟩
theorem zR(hcode:B8 c)(hC:aj w g C)(hm:w.heap[gm]? = some (.cells (mC c) 45 (0,0)))(hne:g≠gm) :
    Calls Tryz.prog 144 #[.agg #[vP g 0,vP gm 0]] w (cO g gm (ek 1968 c C).1 (ek 1968 c C).2 w):=by
 obtain⟨hcode1,hcode2⟩:=hcode
 have hlen:=hC.len
 refine en 4 Tryz.func144 rfl<|sg<|L0<|cY #[vP g 0,vP gm 0] fun i j k d a=>nt<|go<|L0<|cm d<|?_
 have b:=aj.old hC a
 refine ay<|m3 (mR (most:=1968) ⟨hcode1,hcode2⟩ b (ub a hm) hne) fun l e f h=>?_
 have m:=(b).wordV
 have n:=bN (cS (b).rng 1)
 refine nl<|rm (.tuple #[])<|?_
 exact cI (by unfold ek;(try simp only[bi,reduceIte])<;>rfl) ⟨rfl,e,⟨_,⟨f,rfl⟩,⟨_,_,_,_,_,rfl,aT.nil ..,aT.nil ..,aT.nil ..,aT.nil ..,aT.nil ..,⟨(b8 (x:=c) (by omega)),(b8 (x:=0) (by omega)),(cM (x:=C.wordV) (by omega)),(cM (x:=(C.wordsC 1).wordV) (by omega)),(cM (x:=0) (by omega)),(cM (x:=0) (by omega)),(cM (x:=0) (by omega)),(cM (x:=0) (by omega)),(cM (x:=0) (by omega)),(cM (x:=0) (by omega)),(cM (x:=0) (by omega)),(cM (x:=0) (by omega)),(b8 (x:=0) (by omega)),(b8 (x:=0) (by omega)),(b8 (x:=0) (by omega)),(b8 (x:=0) (by omega)),(b8 (x:=0) (by omega))⟩⟩⟩,(uz a h)⟩
theorem xq(hcode:B8 c)(hC:aj w g C)(hm:w.heap[gm]? = some (.cells (mC c) 45 (0,0)))(hne:g≠gm) :
    Calls Tryz.prog 144 #[.agg #[vP g 0,vP gm 0]] w (tL g gm (cz C 1968) (mG c 0 C.wordV (C.wordsC 1).wordV 0 0 0 0 0 0 0 0 nS nS nS nS 0 0 0 0 0 nS) w):=by
 obtain⟨hcode1,hcode2⟩:=hcode
 have hlen:=hC.len
 refine en 4 Tryz.func144 rfl<|sg<|L0<|cY #[vP g 0,vP gm 0] fun i j k d a=>nt<|go<|L0<|cm d<|?_
 have b:=aj.old hC a
 refine ay<|m3 (mR (most:=1968) ⟨hcode1,hcode2⟩ b (ub a hm) hne) fun l e f h=>?_
 have m:=(b).wordV
 have n:=bN (cS (b).rng 1)
 refine nl<|rm (.tuple #[])<|?_
 have hs:cz C 1968=(cz C 1968):=by
   unfold cz km
   (try simp only[bi,reduceIte])
   all_goals rfl
 rw[hs]
 exact⟨rfl,e,f,(uz a h)⟩
theorem BL(hcode:B8 c)(hC:aj w g C)(hm:w.heap[gm]? = some (.cells (mC c) 45 (0,0)))(hne:g≠gm) :
    Calls Tryz.prog 143 #[.agg #[vP g 0,vP gm 0]] w (cO g gm (hG c C).1 (hG c C).2 w):=by
 obtain⟨hcode1,hcode2⟩:=hcode
 have hlen:=hC.len
 refine en 46 Tryz.func143 rfl<|sg<|L0<|cY #[vP g 0,vP gm 0] fun o a3 F G f=>ng<|L0<|cm G<|?_
 have t:=aj.old hC f
 refine ay<|m3 (xq ⟨hcode1,hcode2⟩ t (ub f hm) hne) fun a4 Q R p=>?_
 have a5:=(t).wordV
 have a6:=bN (cS (t).rng 1)
 refine aL 1<|?_
 have i:=nb (aj.lt hC) lr F
 have H:=aI.blk p (aa (Ne.symm i) (aa (Ne.symm (nb (az hm) lr F)) aE)) G
 refine aC H 0<|ay<|m3 (bX Q) fun a7 S u a8=>bp ((cz C 1968).byteV)<|ah 1<|sq<|Rg 12 (fun w'=>w'.cell? ⟨o,0,none⟩=some (vP g 0)∧w'.cell? ⟨o,1,none⟩=some (vP gm 0)∧w'.cell? ⟨gm,3,none⟩=some (vW ((C.wordsC 1).wordV))) fun a9 q=>?_
 have v:=aJ u q
 have j:=bj v (Ne.symm i) H
 have y:=bj v (Ne.symm hne) R
 refine bv ⟨(ae j rfl),(ae j rfl),(ae y rfl)⟩ fun a=>Rt 0 a<|Rl 1 a (fun _ hs=>hs.1)<|Rt 2 a<|Rt 3 a<|Rl 4 a (fun _ hs=>hs.2.1)<|Rt 5 a<|Rt 6 a<|Rl 7 a (fun _ hs=>hs.2.2)<|Rr 8 a (vI ((C.wordsC 1).wordV)) (fun _ _=>bO (vI (IntKind.i64.wrap ((C.wordsC 1).wordV))) (by kernel_rfl) (congrArg (Value.int .i64) (i64_in (by omega))))<|R0 9 rfl<|Oc<|mq (kG (n:=(C.wordsC 1).wordV) (by omega))<|bv ⟨(ae j rfl),(ae j rfl),(ae y rfl)⟩ fun T=>Rt 10 T<|?_
 refine R0 11 rfl<|Oc<|m2 (bq ((((cz C 1968).byteV)==(ep ((C.wordsC 1).wordV)))) 5 (aj.old S q)) fun ab U k=>?_
 have z:=bj k (Ne.symm i) j
 have I:=bj k (Ne.symm hne) y
 refine bv ⟨(ae z rfl),(ae z rfl),(ae I rfl)⟩ fun ad=>re<|tn<|sq<|Rg 16 (fun w'=>w'.cell? ⟨o,0,none⟩=some (vP g 0)∧w'.cell? ⟨o,1,none⟩=some (vP gm 0)∧w'.cell? ⟨gm,3,none⟩=some (vW ((C.wordsC 1).wordV))) fun af d=>?_
 have A:=ub d z
 have J:=ub d I
 refine bv ⟨(ae A rfl),(ae A rfl),(ae J rfl)⟩ fun b=>Rt 0 b<|Rl 1 b (fun _ hs=>hs.1)<|Rt 2 b<|Rt 4 b<|Rl 5 b (fun _ hs=>hs.2.1)<|Rt 6 b<|Rt 7 b<|Rl 8 b (fun _ hs=>hs.2.2)<|Rr 9 b (vI ((C.wordsC 1).wordV)) (fun _ _=>bO (vI (IntKind.i64.wrap ((C.wordsC 1).wordV))) (by kernel_rfl) (congrArg (Value.int .i64) (i64_in (by omega))))<|?_
 have K:=aj.old U d
 refine R0 3 rfl<|Oc<|vD (cK (n:=(cz C 1968).byteV) K) fun V W ag X ai ak Y l=>?_
 have al:=Nat.le_trans (ap.bytesR_le (((cz C 1968).bytesC 1).need (((cz C 1968).byteV)==(ep ((C.wordsC 1).wordV))) 5) ((cz C 1968).byteV)) (aj.len K)
 have B:=bj l (Ne.symm i) A
 have L:=bj l (Ne.symm hne) J
 refine bv ⟨(ae B rfl),(ae B rfl),(ae L rfl)⟩ fun am=>R0 10 rfl<|Oc (args:=#[.slice V (((((cz C 1968).bytesC 1).need (((cz C 1968).byteV)==(ep ((C.wordsC 1).wordV))) 5).bytesR ((cz C 1968).byteV)).length) W,vI ((C.wordsC 1).wordV)])<|dU (tA X (by omega) (by omega) (by omega)) fun Z a0 an D ao ar r=>?_
 have s:=ub r B
 have M:=ub r L
 refine bv ⟨(ae s rfl),(ae s rfl),(ae M rfl)⟩ fun m=>Rt 11 m<|Rt 12 m<|Rt 13 m<|Rt 14 m<|Rt 15 m<|re<|tn<|aq 1<|aC s 0<|Pl 1<|?_
 refine ay<|m2 (bq ((cG ((((cz C 1968).bytesC 1).need (((cz C 1968).byteV)==(ep ((C.wordsC 1).wordV))) 5).bytesR ((cz C 1968).byteV)) ((C.wordsC 1).wordV)).isSome) 6 (aj.old Y r)) fun aw a1 E=>nt<|go<|Pl 1<|?_
 refine aC (bj E (Ne.symm i) s) 1<|Pl 3<|?_
 have N:=bj E (Ne.symm hne) M
 refine L0<|bY N 13 (mG c 0 C.wordV ((C.wordsC 1).wordV) 0 0 0 0 0 0 0 0 nS (.slice Z (((cG ((((cz C 1968).bytesC 1).need (((cz C 1968).byteV)==(ep ((C.wordsC 1).wordV))) 5).bytesR ((cz C 1968).byteV)) ((C.wordsC 1).wordV)).getD []).length) a0) nS nS 0 0 0 0 0 nS) fun ax a2 O=>nl<|rm (.tuple #[])<|?_
 have P:=us E O
 exact cI (by unfold hG sX qK iB oC ti;(try simp only[bi,reduceIte])<;>rfl) ⟨rfl,(aj.upd a1 O (aa hne aE) (av (b9 N (by decide)) aM)),⟨_,⟨a2,rfl⟩,⟨_,_,_,_,_,rfl,aT.nil ..,((au D P (fun x hx=>(aa (fun e=>(aO (aj.lt hC) (le (le (le (le (le (le f.size p.size) u.size) q.size) k.size) d.size) l.size) D) (e▸hx)) (aa (fun e=>(aO (az hm) (le (le (le (le (le (le f.size p.size) u.size) q.size) k.size) d.size) l.size) D) (e▸hx)) aE))) (fun _ _ h=>h))).rd,aT.nil ..,aT.nil ..,aT.nil ..,⟨(b8 (x:=c) (by omega)),(b8 (x:=0) (by omega)),(cM (x:=C.wordV) (by omega)),(cM (x:=(C.wordsC 1).wordV) (by omega)),(cM (x:=0) (by omega)),(cM (x:=0) (by omega)),(cM (x:=0) (by omega)),(cM (x:=0) (by omega)),(cM (x:=0) (by omega)),(cM (x:=0) (by omega)),(cM (x:=0) (by omega)),(cM (x:=0) (by omega)),(b8 (x:=0) (by omega)),(b8 (x:=0) (by omega)),(b8 (x:=0) (by omega)),(b8 (x:=0) (by omega)),(b8 (x:=0) (by omega))⟩⟩⟩,(uz f (ut p (ui v (ui k (uz d (ui l (uz r P))))) (ac im (ac im aD))))⟩
open Go.RowKit
theorem Cf(c:Int) : c=1∨c=2∨c=5∨c=15∨(c≠1∧c≠2∧c≠5∧c≠15):=by omega
theorem oc(hcode:B8 c)(hsl:aV m w (.slice A b.length cp) b)(hb:b.length≤1048576) :
    Calls Tryz.prog 96 #[vI 0,vB c,.slice A b.length cp] w (eN (ak aR 0 c b) w):=by
 obtain⟨hcode1,hcode2⟩:=hcode
 have hln:(b.length:Int)≤1048576:=by omega
 refine en 72 Tryz.func96 rfl<|sg<|aK mZ fun a2 bX K t a3=>ah 1<|sq<|aB 6<|c0<|bu<|aq 2<|aK mZ fun a bY l g ai=>aG g (mC c) fun bZ u i=>aL 1<|?_
 have n:=ud ai i l
 have L:=aJ a3 n
 refine ay<|e3 (er (aV.old hsl L) (by omega)) fun d c2 j o v=>Pl 1<|aK #[.pointer none,.pointer none] fun a4 c3 p a5 N=>aG a5 #[vP d 0,vP a 0] fun c4 al y=>ng<|L0<|Ah fun c5 c6 z am B=>?_
 have O:=ub B al
 refine L0<|cm O<|Pl 1<|L0<|cm O<|Pl 2<|L0<|iI am 1 fun c7 an D=>?_
 have E:=nb (az a5) y.size z
 have P:=bj D E O
 refine L0<|cm P<|Pl 1<|L0<|cm P<|Pl 2<|L0<|iI an 2 fun c8 ao F=>?_
 have Q:=bj F E P
 refine L0<|cm Q<|Pl 1<|L0<|cm Q<|Pl 2<|L0<|iI ao 5 fun c9 ar G=>?_
 have R:=bj G E Q
 refine L0<|cm R<|Pl 1<|L0<|cm R<|Pl 2<|L0<|iI ar 15 fun au r a6=>ah 2<|EY (fun x=>[(6,vP a2 0),(8,vP a 0),(9,vP a4 0)]) (fun(x:ap × Array Value × aS) w'=>aI [d,a] au w'∧aj w' d x.1∧w'.heap[a]? = some (.cells x.2.1 45 (0,0))∧aH true w' x.2.1.toList x.2.2∧(ak aR 0 c b=bC x.2.2 x.1)) ?_ fun H=>?_
 rintro⟨C,cs,M⟩ S ⟨aw,ax,aD,aN,aO⟩
 refine gi [(6,vP a2 0),(8,vP a 0),(9,vP a4 0)] ?_
 have a7:aj S d C:=ax
 have aP:S.heap[a]? = some (.cells cs 45 (0,0)):=aD
 have I:aH true S cs.toList M:=aN
 have T:=aH.size I
 have a8:ak aR 0 c b=bC M C:=aO
 refine aq 1<|?_
 have U:=us a6 aw
 have a9:=nb (aj.lt o) lr p
 have ac:=aI.blk U (aa E (aa (Ne.symm a9) (aa (Ne.symm (nb (az g) (le i.size v.size) p)) aE))) R
 refine aC ac 0<|ay<|m2 (fk a7) fun ca ad J=>nt<|sq<|aq 1<|?_
 refine aC (bj J (Ne.symm a9) ac) 0<|ay<|mq (cT ad)<|?_
 have cc:=aj.len ad
 refine Pl 1<|dk 2<|?_
 have V:=ud v (ud N (us y (ud B (ui D (ui F (ui G (u1 U J im)))) z)) p) j
 have ae:=ud L V (le a3.size l)
 refine cb ((C.endC.e != 0)) (fun W=>?_) (fun W=>?_)
 have X:=aA W
 refine aq 2<|?_
 refine aG (ub (ud n V l) t) mZ fun cd aT aU=>ah 1<|b6<|ck aT (vI C.endC.e)<|?_
 rw[a8]
 exact dL X (ud ae aU K)
 have X:=aF W
 refine bu<|sg<|?_
 refine L0<|cm (hz:=(by rw[T];exact aQ)) (bj J (nb (az g) i.size j) aP)<|?_
 refine aG (hz:=(by rw[T];exact aQ)) (hv:=I.size) (h1:=I.one) (ub (ud n V l) t) (cs) fun ce aW af=>ah 1<|rt<|fO 22 T aW (vI 0)<|?_
 rw[a8]
 exact el X (aH.upd I (us J af) (av (aj.safe a7 _ (by decide)) (av (b9 (ub (ud n (ud v (ud N (us y (ud B (ui D (ui F (ui G U))) z)) p) j) l) t) (by decide)) aM))) (ud ae af K)
 refine aq 2<|?_
 have s:=ud N (aJ y (ud B (u1 D (u1 F (u1 G a6 im) im) im) z)) p
 have k:=aJ v s
 rcases Cf c with hk|hk|hk|hk|hk
 have k1:(c==1)=true:=by rw[hk];rfl
 have k2:(c==2)=false:=by rw[hk];rfl
 have k5:(c==5)=false:=by rw[hk];rfl
 have f:(c==15)=false:=by rw[hk];rfl
 refine L0<|pK (hf:=(by subst hk;kernel_rfl)) r c (.agg #[.nilFunc,.nilFunc]) (some (0,.agg #[.func (.func 140) #[.agg #[vP d 0,vP a 0]] #[],.func (.func 141) #[.agg #[vP d 0,vP a 0]] #[]]))<|Pl 3<|aK #[.nilFunc,.nilFunc] fun cf cg aX aY aZ=>aG aY #[.func (.func 140) #[.agg #[vP d 0,vP a 0]] #[],.func (.func 141) #[.agg #[vP d 0,vP a 0]] #[]] fun ch b0 b1=>ah 1<|sq<|aB 2<|c0<|bu<|aq 2<|aC b0 0<|?_
 have Y:=ud aZ b1 aX
 refine L0<|i8 #[.agg #[vP d 0,vP a 0]] #[] (args:=#[.agg #[vP d 0,vP a 0]])<|m3 (kV (c:=c) ⟨hcode1,hcode2⟩ (aj.old o (aJ s Y)) (ub (aJ k Y) u) (Ne.symm (nb (az g) i.size j))) fun ci b2 b3 b4=>?_
 obtain⟨cj,b5,b7⟩:=b3
 refine ab b2 fun b8 ba bb=>?_
 refine nt<|?_
 exact H (b8,_,(ek 2000 c (ap.mk b false 0)).2) ⟨(uz Y b4),bb,b5.1,b7,by subst ba;unfold ak aR ;(try simp only[bi,ea,ed,e9,eb,ec,reduceIte,k1,k2,k5,f])<;>rfl⟩
 have k1:(c==1)=false:=by rw[hk];rfl
 have k2:(c==2)=true:=by rw[hk];rfl
 have k5:(c==5)=false:=by rw[hk];rfl
 have f:(c==15)=false:=by rw[hk];rfl
 refine L0<|pK (hf:=(by subst hk;kernel_rfl)) r c (.agg #[.nilFunc,.nilFunc]) (some (1,.agg #[.func (.func 140) #[.agg #[vP d 0,vP a 0]] #[],.func (.func 141) #[.agg #[vP d 0,vP a 0]] #[]]))<|Pl 3<|aK #[.nilFunc,.nilFunc] fun cl cn bc bd be=>aG bd #[.func (.func 140) #[.agg #[vP d 0,vP a 0]] #[],.func (.func 141) #[.agg #[vP d 0,vP a 0]] #[]] fun co bf bg=>ah 1<|sq<|aB 2<|c0<|bu<|aq 2<|aC bf 0<|?_
 have Z:=ud be bg bc
 refine L0<|i8 #[.agg #[vP d 0,vP a 0]] #[] (args:=#[.agg #[vP d 0,vP a 0]])<|m3 (kV (c:=c) ⟨hcode1,hcode2⟩ (aj.old o (aJ s Z)) (ub (aJ k Z) u) (Ne.symm (nb (az g) i.size j))) fun cq bh bk bl=>?_
 obtain⟨cr,bm,bn⟩:=bk
 refine ab bh fun bo bp bq=>?_
 refine nt<|?_
 exact H (bo,_,(ek 2000 c (ap.mk b false 0)).2) ⟨(uz Z bl),bq,bm.1,bn,by subst bp;unfold ak aR ;(try simp only[bi,ea,ed,e9,eb,ec,reduceIte,k1,k2,k5,f])<;>rfl⟩
 have k1:(c==1)=false:=by rw[hk];rfl
 have k2:(c==2)=false:=by rw[hk];rfl
 have k5:(c==5)=true:=by rw[hk];rfl
 have f:(c==15)=false:=by rw[hk];rfl
 refine L0<|pK (hf:=(by subst hk;kernel_rfl)) r c (.agg #[.nilFunc,.nilFunc]) (some (2,.agg #[.func (.func 142) #[.agg #[vP d 0,vP a 0]] #[],.func (.func 142) #[.agg #[vP d 0,vP a 0]] #[]]))<|Pl 3<|aK #[.nilFunc,.nilFunc] fun ct cu br bs bt=>aG bs #[.func (.func 142) #[.agg #[vP d 0,vP a 0]] #[],.func (.func 142) #[.agg #[vP d 0,vP a 0]] #[]] fun cv bv bw=>ah 1<|sq<|aB 2<|c0<|bu<|aq 2<|aC bv 0<|?_
 have a0:=ud bt bw br
 refine L0<|i8 #[.agg #[vP d 0,vP a 0]] #[] (args:=#[.agg #[vP d 0,vP a 0]])<|m3 (oT (c:=c) ⟨hcode1,hcode2⟩ (aj.old o (aJ s a0)) (ub (aJ k a0) u) (Ne.symm (nb (az g) i.size j))) fun cw bx bz bA=>?_
 obtain⟨cx,bB,bD⟩:=bz
 refine ab bx fun bE bF bG=>?_
 refine nt<|?_
 exact H (bE,_,(dM c (ap.mk b false 0)).2) ⟨(uz a0 bA),bG,bB.1,bD,by subst bF;unfold ak aR ;(try simp only[bi,ea,ed,e9,eb,ec,reduceIte,k1,k2,k5,f])<;>rfl⟩
 have k1:(c==1)=false:=by rw[hk];rfl
 have k2:(c==2)=false:=by rw[hk];rfl
 have k5:(c==5)=false:=by rw[hk];rfl
 have f:(c==15)=true:=by rw[hk];rfl
 refine L0<|pK (hf:=(by subst hk;kernel_rfl)) r c (.agg #[.nilFunc,.nilFunc]) (some (3,.agg #[.func (.func 143) #[.agg #[vP d 0,vP a 0]] #[],.func (.func 144) #[.agg #[vP d 0,vP a 0]] #[]]))<|Pl 3<|aK #[.nilFunc,.nilFunc] fun cy cz bH bI bJ=>aG bI #[.func (.func 143) #[.agg #[vP d 0,vP a 0]] #[],.func (.func 144) #[.agg #[vP d 0,vP a 0]] #[]] fun cA bK bL=>ah 1<|sq<|aB 2<|c0<|bu<|aq 2<|aC bK 0<|?_
 have a1:=ud bJ bL bH
 refine L0<|i8 #[.agg #[vP d 0,vP a 0]] #[] (args:=#[.agg #[vP d 0,vP a 0]])<|m3 (BL (c:=c) ⟨hcode1,hcode2⟩ (aj.old o (aJ s a1)) (ub (aJ k a1) u) (Ne.symm (nb (az g) i.size j))) fun cB bM bN bO=>?_
 obtain⟨cC,bP,bQ⟩:=bN
 refine nt<|?_
 exact H ((hG c (ap.mk b false 0)).1,_,(hG c (ap.mk b false 0)).2) ⟨(uz a1 bO),bM,bP.1,bQ,by unfold ak aR ;(try simp only[bi,ea,ed,e9,eb,ec,reduceIte,k1,k2,k5,f])<;>rfl⟩
 have k1:(c==1)=false:=by simpa using hk.1
 have k2:(c==2)=false:=by simpa using hk.2.1
 have k5:(c==5)=false:=by simpa using hk.2.2.1
 have f:(c==15)=false:=by simpa using hk.2.2.2
 refine L0<|pK (hf:=(E9 (q:=.u8) (x:=c) #[⟨vB 1,.agg #[.func (.func 140) #[.agg #[vP d 0,vP a 0]] #[],.func (.func 141) #[.agg #[vP d 0,vP a 0]] #[]],0⟩,⟨vB 2,.agg #[.func (.func 140) #[.agg #[vP d 0,vP a 0]] #[],.func (.func 141) #[.agg #[vP d 0,vP a 0]] #[]],1⟩,⟨vB 5,.agg #[.func (.func 142) #[.agg #[vP d 0,vP a 0]] #[],.func (.func 142) #[.agg #[vP d 0,vP a 0]] #[]],2⟩,⟨vB 15,.agg #[.func (.func 143) #[.agg #[vP d 0,vP a 0]] #[],.func (.func 144) #[.agg #[vP d 0,vP a 0]] #[]],3⟩] (gJ _ _ (by intro e he;simp only[List.mem_cons,List.not_mem_nil,or_false] at he;obtain⟨z1,z2,z5,cD⟩:=hk;rcases he with rfl | rfl | rfl | rfl<;>exact⟨_,rfl,fun h=>by simp_all⟩)))) r c (.agg #[.nilFunc,.nilFunc]) none<|Pl 3<|aK #[.nilFunc,.nilFunc] fun cE cF bR bS bT=>aG bS #[.nilFunc,.nilFunc] fun cG cH bU=>ah 1<|sq<|aB 2<|c1<|aq 1<|?_
 have ag:=ud bT bU bR
 refine aG (ub (aJ n (aJ k ag)) t) mZ fun cJ bV bW=>ah 1<|b6<|ck bV (vI 4)<|?_
 exact cI (by unfold ak aR;(try simp only[bi,ea,ed,e9,eb,ec,reduceIte,k1,k2,k5,f])<;>rfl) (cQ (ud (aJ L k) (uz ag bW) K))
theorem oz(hcode:B8 c)(hsl:aV m w (.slice A b.length cp) b)(hb:b.length≤1048576) :
    Calls Tryz.prog 96 #[vI 1,vB c,.slice A b.length cp] w (eN (ak aR 1 c b) w):=by
 obtain⟨hcode1,hcode2⟩:=hcode
 have hln:(b.length:Int)≤1048576:=by omega
 refine en 72 Tryz.func96 rfl<|sg<|aK mZ fun a2 c2 K t a3=>ah 1<|sq<|aB 6<|c0<|bu<|aq 2<|aK mZ fun a c3 l g ai=>aG g (mC c) fun c4 u i=>aL 1<|?_
 have n:=ud ai i l
 have L:=aJ a3 n
 refine ay<|e3 (er (aV.old hsl L) (by omega)) fun d c5 j o v=>Pl 1<|aK #[.pointer none,.pointer none] fun a4 c6 p a5 N=>aG a5 #[vP d 0,vP a 0] fun c7 al y=>ng<|L0<|Ah fun c8 c9 z am B=>?_
 have O:=ub B al
 refine L0<|cm O<|Pl 1<|L0<|cm O<|Pl 2<|L0<|iI am 1 fun ca an D=>?_
 have E:=nb (az a5) y.size z
 have P:=bj D E O
 refine L0<|cm P<|Pl 1<|L0<|cm P<|Pl 2<|L0<|iI an 2 fun cc ao F=>?_
 have Q:=bj F E P
 refine L0<|cm Q<|Pl 1<|L0<|cm Q<|Pl 2<|L0<|iI ao 5 fun cd ar G=>?_
 have R:=bj G E Q
 refine L0<|cm R<|Pl 1<|L0<|cm R<|Pl 2<|L0<|iI ar 15 fun au r a6=>ah 2<|EY (fun x=>[(6,vP a2 0),(8,vP a 0),(9,vP a4 0)]) (fun(x:ap × Array Value × aS) w'=>aI [d,a] au w'∧aj w' d x.1∧w'.heap[a]? = some (.cells x.2.1 45 (0,0))∧aH true w' x.2.1.toList x.2.2∧(ak aR 1 c b=bC x.2.2 x.1)) ?_ fun H=>?_
 rintro⟨C,cs,M⟩ S ⟨aw,ax,aD,aN,aO⟩
 refine gi [(6,vP a2 0),(8,vP a 0),(9,vP a4 0)] ?_
 have a7:aj S d C:=ax
 have aP:S.heap[a]? = some (.cells cs 45 (0,0)):=aD
 have I:aH true S cs.toList M:=aN
 have T:=aH.size I
 have a8:ak aR 1 c b=bC M C:=aO
 refine aq 1<|?_
 have U:=us a6 aw
 have a9:=nb (aj.lt o) lr p
 have ac:=aI.blk U (aa E (aa (Ne.symm a9) (aa (Ne.symm (nb (az g) (le i.size v.size) p)) aE))) R
 refine aC ac 0<|ay<|m2 (fk a7) fun ce ad J=>nt<|sq<|aq 1<|?_
 refine aC (bj J (Ne.symm a9) ac) 0<|ay<|mq (cT ad)<|?_
 have cf:=aj.len ad
 refine Pl 1<|dk 2<|?_
 have V:=ud v (ud N (us y (ud B (ui D (ui F (ui G (u1 U J im)))) z)) p) j
 have ae:=ud L V (le a3.size l)
 refine cb ((C.endC.e != 0)) (fun W=>?_) (fun W=>?_)
 have X:=aA W
 refine aq 2<|?_
 refine aG (ub (ud n V l) t) mZ fun cg aT aU=>ah 1<|b6<|ck aT (vI C.endC.e)<|?_
 rw[a8]
 exact dL X (ud ae aU K)
 have X:=aF W
 refine bu<|sg<|?_
 refine L0<|cm (hz:=(by rw[T];exact aQ)) (bj J (nb (az g) i.size j) aP)<|?_
 refine aG (hz:=(by rw[T];exact aQ)) (hv:=I.size) (h1:=I.one) (ub (ud n V l) t) (cs) fun ch aW af=>ah 1<|rt<|fO 22 T aW (vI 0)<|?_
 rw[a8]
 exact el X (aH.upd I (us J af) (av (aj.safe a7 _ (by decide)) (av (b9 (ub (ud n (ud v (ud N (us y (ud B (ui D (ui F (ui G U))) z)) p) j) l) t) (by decide)) aM))) (ud ae af K)
 refine aq 2<|?_
 have s:=ud N (aJ y (ud B (u1 D (u1 F (u1 G a6 im) im) im) z)) p
 have k:=aJ v s
 rcases Cf c with hk|hk|hk|hk|hk
 have k1:(c==1)=true:=by rw[hk];rfl
 have k2:(c==2)=false:=by rw[hk];rfl
 have k5:(c==5)=false:=by rw[hk];rfl
 have f:(c==15)=false:=by rw[hk];rfl
 refine L0<|pK (hf:=(by subst hk;kernel_rfl)) r c (.agg #[.nilFunc,.nilFunc]) (some (0,.agg #[.func (.func 140) #[.agg #[vP d 0,vP a 0]] #[],.func (.func 141) #[.agg #[vP d 0,vP a 0]] #[]]))<|Pl 3<|aK #[.nilFunc,.nilFunc] fun ci cj aX aY aZ=>aG aY #[.func (.func 140) #[.agg #[vP d 0,vP a 0]] #[],.func (.func 141) #[.agg #[vP d 0,vP a 0]] #[]] fun cl b0 b1=>ah 1<|sq<|aB 2<|c0<|bu<|aq 2<|aC b0 1<|?_
 have Y:=ud aZ b1 aX
 refine L0<|i8 #[.agg #[vP d 0,vP a 0]] #[] (args:=#[.agg #[vP d 0,vP a 0]])<|m3 (oQ (c:=c) ⟨hcode1,hcode2⟩ (aj.old o (aJ s Y)) (ub (aJ k Y) u) (Ne.symm (nb (az g) i.size j))) fun cn b2 b3 b4=>?_
 obtain⟨co,b5,b7⟩:=b3
 refine ab b2 fun b8 ba bb=>?_
 refine nt<|?_
 exact H (b8,_,(dZ c (ap.mk b false 0)).2) ⟨(uz Y b4),bb,b5.1,b7,by subst ba;unfold ak aR ;(try simp only[bi,ea,ed,e9,eb,ec,reduceIte,k1,k2,k5,f])<;>rfl⟩
 have k1:(c==1)=false:=by rw[hk];rfl
 have k2:(c==2)=true:=by rw[hk];rfl
 have k5:(c==5)=false:=by rw[hk];rfl
 have f:(c==15)=false:=by rw[hk];rfl
 refine L0<|pK (hf:=(by subst hk;kernel_rfl)) r c (.agg #[.nilFunc,.nilFunc]) (some (1,.agg #[.func (.func 140) #[.agg #[vP d 0,vP a 0]] #[],.func (.func 141) #[.agg #[vP d 0,vP a 0]] #[]]))<|Pl 3<|aK #[.nilFunc,.nilFunc] fun cq cr bc bd be=>aG bd #[.func (.func 140) #[.agg #[vP d 0,vP a 0]] #[],.func (.func 141) #[.agg #[vP d 0,vP a 0]] #[]] fun ct bf bg=>ah 1<|sq<|aB 2<|c0<|bu<|aq 2<|aC bf 1<|?_
 have Z:=ud be bg bc
 refine L0<|i8 #[.agg #[vP d 0,vP a 0]] #[] (args:=#[.agg #[vP d 0,vP a 0]])<|m3 (oQ (c:=c) ⟨hcode1,hcode2⟩ (aj.old o (aJ s Z)) (ub (aJ k Z) u) (Ne.symm (nb (az g) i.size j))) fun cu bh bk bl=>?_
 obtain⟨cv,bm,bn⟩:=bk
 refine ab bh fun bo bp bq=>?_
 refine nt<|?_
 exact H (bo,_,(dZ c (ap.mk b false 0)).2) ⟨(uz Z bl),bq,bm.1,bn,by subst bp;unfold ak aR ;(try simp only[bi,ea,ed,e9,eb,ec,reduceIte,k1,k2,k5,f])<;>rfl⟩
 have k1:(c==1)=false:=by rw[hk];rfl
 have k2:(c==2)=false:=by rw[hk];rfl
 have k5:(c==5)=true:=by rw[hk];rfl
 have f:(c==15)=false:=by rw[hk];rfl
 refine L0<|pK (hf:=(by subst hk;kernel_rfl)) r c (.agg #[.nilFunc,.nilFunc]) (some (2,.agg #[.func (.func 142) #[.agg #[vP d 0,vP a 0]] #[],.func (.func 142) #[.agg #[vP d 0,vP a 0]] #[]]))<|Pl 3<|aK #[.nilFunc,.nilFunc] fun cw cx br bs bt=>aG bs #[.func (.func 142) #[.agg #[vP d 0,vP a 0]] #[],.func (.func 142) #[.agg #[vP d 0,vP a 0]] #[]] fun cy bv bw=>ah 1<|sq<|aB 2<|c0<|bu<|aq 2<|aC bv 1<|?_
 have a0:=ud bt bw br
 refine L0<|i8 #[.agg #[vP d 0,vP a 0]] #[] (args:=#[.agg #[vP d 0,vP a 0]])<|m3 (oT (c:=c) ⟨hcode1,hcode2⟩ (aj.old o (aJ s a0)) (ub (aJ k a0) u) (Ne.symm (nb (az g) i.size j))) fun cz bx bz bA=>?_
 obtain⟨cA,bB,bD⟩:=bz
 refine ab bx fun bE bF bG=>?_
 refine nt<|?_
 exact H (bE,_,(dM c (ap.mk b false 0)).2) ⟨(uz a0 bA),bG,bB.1,bD,by subst bF;unfold ak aR ;(try simp only[bi,ea,ed,e9,eb,ec,reduceIte,k1,k2,k5,f])<;>rfl⟩
 have k1:(c==1)=false:=by rw[hk];rfl
 have k2:(c==2)=false:=by rw[hk];rfl
 have k5:(c==5)=false:=by rw[hk];rfl
 have f:(c==15)=true:=by rw[hk];rfl
 refine L0<|pK (hf:=(by subst hk;kernel_rfl)) r c (.agg #[.nilFunc,.nilFunc]) (some (3,.agg #[.func (.func 143) #[.agg #[vP d 0,vP a 0]] #[],.func (.func 144) #[.agg #[vP d 0,vP a 0]] #[]]))<|Pl 3<|aK #[.nilFunc,.nilFunc] fun cB cC bH bI bJ=>aG bI #[.func (.func 143) #[.agg #[vP d 0,vP a 0]] #[],.func (.func 144) #[.agg #[vP d 0,vP a 0]] #[]] fun cD bK bL=>ah 1<|sq<|aB 2<|c0<|bu<|aq 2<|aC bK 1<|?_
 have a1:=ud bJ bL bH
 refine L0<|i8 #[.agg #[vP d 0,vP a 0]] #[] (args:=#[.agg #[vP d 0,vP a 0]])<|m3 (zR (c:=c) ⟨hcode1,hcode2⟩ (aj.old o (aJ s a1)) (ub (aJ k a1) u) (Ne.symm (nb (az g) i.size j))) fun cE bM bN bO=>?_
 obtain⟨cF,bP,bQ⟩:=bN
 refine ab bM fun bR bS bT=>?_
 refine nt<|?_
 exact H (bR,_,(ek 1968 c (ap.mk b false 0)).2) ⟨(uz a1 bO),bT,bP.1,bQ,by subst bS;unfold ak aR ;(try simp only[bi,ea,ed,e9,eb,ec,reduceIte,k1,k2,k5,f])<;>rfl⟩
 have k1:(c==1)=false:=by simpa using hk.1
 have k2:(c==2)=false:=by simpa using hk.2.1
 have k5:(c==5)=false:=by simpa using hk.2.2.1
 have f:(c==15)=false:=by simpa using hk.2.2.2
 refine L0<|pK (hf:=(E9 (q:=.u8) (x:=c) #[⟨vB 1,.agg #[.func (.func 140) #[.agg #[vP d 0,vP a 0]] #[],.func (.func 141) #[.agg #[vP d 0,vP a 0]] #[]],0⟩,⟨vB 2,.agg #[.func (.func 140) #[.agg #[vP d 0,vP a 0]] #[],.func (.func 141) #[.agg #[vP d 0,vP a 0]] #[]],1⟩,⟨vB 5,.agg #[.func (.func 142) #[.agg #[vP d 0,vP a 0]] #[],.func (.func 142) #[.agg #[vP d 0,vP a 0]] #[]],2⟩,⟨vB 15,.agg #[.func (.func 143) #[.agg #[vP d 0,vP a 0]] #[],.func (.func 144) #[.agg #[vP d 0,vP a 0]] #[]],3⟩] (gJ _ _ (by intro e he;simp only[List.mem_cons,List.not_mem_nil,or_false] at he;obtain⟨z1,z2,z5,cG⟩:=hk;rcases he with rfl | rfl | rfl | rfl<;>exact⟨_,rfl,fun h=>by simp_all⟩)))) r c (.agg #[.nilFunc,.nilFunc]) none<|Pl 3<|aK #[.nilFunc,.nilFunc] fun cH cJ bU bV bW=>aG bV #[.nilFunc,.nilFunc] fun cK cL bX=>ah 1<|sq<|aB 2<|c1<|aq 1<|?_
 have ag:=ud bW bX bU
 refine aG (ub (aJ n (aJ k ag)) t) mZ fun cM bY bZ=>ah 1<|b6<|ck bY (vI 4)<|?_
 exact cI (by unfold ak aR;(try simp only[bi,ea,ed,e9,eb,ec,reduceIte,k1,k2,k5,f])<;>rfl) (cQ (ud (aJ L k) (uz ag bZ) K))
theorem o8(hcode:B8 c)(hsl:aV m w (.slice A b.length cp) b)(hb:b.length≤1048576)(hd:¬ (dir=0∨dir=1)) :
    Calls Tryz.prog 96 #[vI dir,vB c,.slice A b.length cp] w (eN (ak aR dir c b) w):=by
 obtain⟨hcode1,hcode2⟩:=hcode
 have hln:(b.length:Int)≤1048576:=by omega
 have e0:(dir != 0)=true:=by simp;omega
 have e1:(dir != 1)=true:=by simp;omega
 refine en 72 Tryz.func96 rfl<|sg<|aK mZ fun g h a d e=>ah 1<|sq<|aq 3<|sy 16 e0<|Pl 3<|nl<|tn<|ct e1<|aq 1<|aG d mZ fun i eR f=>ah 1<|b6<|ck eR (vI 1)<|?_
 exact cI (by unfold ak aR;(try simp only[e0,e1,bi,ea,ed,e9,eb,ec,reduceIte,hd])<;>rfl) (cQ (ud e f a))
theorem lO(hc:B8 c)(h:aV m w v b)(hb:b.length≤1048576) :
    Calls Tryz.prog 96 #[.int .i64 dir,.int .u8 c,v] w (eN (ak aR dir c b) w):=by
  obtain⟨A,cp,rfl,_,_⟩:=h.shape
  by_cases h0:dir=0
  · subst h0;exact oc hc h hb
  by_cases h1:dir=1
  · subst h1;exact oz hc h hb
  exact o8 hc h hb (by omega)
open Go.RowKit
def dS (c:ap) : ap:=(c.wordsC 1).need (c.wordV==0 || c.wordV==65535) 6
theorem Dg{v:Int}(h:0≤v∧v<65536) : bits .and .u16 v 255=v%256:=by
  rw[u16_and v 255 h.1 h.2 (by decide) (by decide)]
  show((v.toNat &&& (2 ^ 8-1) : Nat) : Int)=_
  rw[Nat.and_two_pow_sub_one_eq_mod]
  omega
def hY (dir sub v:Int) : Bool:=if (sub==2 || (decide (11≤sub)&&decide (sub≤18)))&&dir==1 then true else if sub==1 then v==0 || v==65280 else if sub==3 then v%256==0 else v==0
theorem sc{c:ap}  (hc:aj w g c) :
    Calls Tryz.prog 212 #[vP g 0] w (pB g .u16 65536 c.wordV (dS c) w):=by
 have hr:=hc.wordV
 refine en 15 Tryz.func212 rfl<|aq 1<|aL 1<|ay<|m3 (bZ hc) fun l d e m=>ah 1<|sq<|go<|Pl 4<|cu 3 [9] 12 (((c.wordV==0)||(c.wordV==65535))) (fun K b=>?_) ?_
 refine bl 9 ((c.wordV==0)) (fun a=>?_) (fun a=>?_)
 have f:=ag a
 exact Pl 3<|ce b true (by rw[a];rfl)
 have f:=ai a
 exact Pl 3<|ce b (c.wordV==65535) (by rw[a];rfl)
 refine ay<|m2 (bq (((c.wordV==0)||(c.wordV==65535))) 6 d) fun n h i=>?_
 refine ab h fun x19 j k=>?_
 refine dk 2<|rt<|rr (vW c.wordV)<|?_
 subst j
 exact⟨rfl,k,(u1 e i im),hr⟩
theorem zp{v:Int}  : Calls Tryz.prog 231 #[vW v] w (bS (.bool (v==0 || v==65280)) w):=by
 refine en 9 Tryz.func231 rfl<|aq 1<|aL 3<|cu 3 [5] 8 (((v==0)||(v==65280))) (fun K b=>?_) ?_
 refine bl 5 ((v==0)) (fun a=>?_) (fun a=>?_)
 have c:=ag a
 exact Pl 3<|ce b true (by rw[a];rfl)
 have c:=ai a
 exact Pl 3<|ce b (v==65280) (by rw[a];rfl)
 exact ah 1<|rt<|rr (.bool ((v==0)||(v==65280)))<|⟨rfl,(aI.refl [] _)⟩
theorem zc{v:Int}  (hv:0≤v∧v<65536) : Calls Tryz.prog 232 #[vW v] w (bS (.bool (v%256==0)) w):=by
 exact en 6 Tryz.func232 rfl<|aq 1<|aL 1<|L0<|Oe (vW (bits .and .u16 v 255)) (vW (v%256)) (congrArg (Value.int .u16) (Dg (by omega)))<|ah 2<|rt<|rr (.bool ((v%256)==0))<|⟨rfl,(aI.refl [] _)⟩
theorem yp{v x:Int}{gb:Nat}  (hB:w.heap[gb]? = some (.cells #[vW v] 37 (0,0))) : Calls Tryz.prog 230 #[vW x,vP gb 0] w (bS (.bool (v==0)) w):=by
 exact en 6 Tryz.func230 rfl<|aq 1<|ng<|aC hB 0<|ah 2<|rt<|rr (.bool (v==0))<|⟨rfl,(aI.refl [] _)⟩
theorem DJ{v:Int}  (hv:0≤v∧v<65536) : Calls Tryz.prog 211 #[vI dir,vW 1,vW v] w (bS (.bool (hY dir 1 v)) w):=by
 refine en 42 Tryz.func211 rfl<|sg<|L0<|cY #[vW v] fun l m n b c=>Pl 1<|aL 2<|ng<|L0<|Ah fun o p d e f=>L0<|iI e 1 fun q g h=>L0<|iI g 3 fun r i j=>Pl 2<|dk 11<|sq<|aB 5<|c0<|bu<|aq 2<|L0<|pK i 1 (.nilFunc) (some (0,.func (.func 231) #[] #[]))<|ah 5<|sq<|aB 2<|c0<|bu<|aq 1<|?_
 have a:=ud f (u1 h j im) d
 refine aC (ub a b) 0<|L0<|i8 #[] #[] (args:=#[vW v])<|m1 (zp) fun s k=>ah 1<|rt<|rr (.bool (v==0 || v==65280))<|?_
 exact cI (by unfold hY;(try simp only[bi,reduceIte])<;>rfl) ⟨rfl,(aJ c (aJ a k))⟩
theorem DG{v:Int}  (hv:0≤v∧v<65536) : Calls Tryz.prog 211 #[vI dir,vW 3,vW v] w (bS (.bool (hY dir 3 v)) w):=by
 refine en 42 Tryz.func211 rfl<|sg<|L0<|cY #[vW v] fun l m n b c=>Pl 1<|aL 2<|ng<|L0<|Ah fun o p d e f=>L0<|iI e 1 fun q g h=>L0<|iI g 3 fun r i j=>Pl 2<|dk 11<|sq<|aB 5<|c0<|bu<|aq 2<|L0<|pK i 3 (.nilFunc) (some (1,.func (.func 232) #[] #[]))<|ah 5<|sq<|aB 2<|c0<|bu<|aq 1<|?_
 have a:=ud f (u1 h j im) d
 refine aC (ub a b) 0<|L0<|i8 #[] #[] (args:=#[vW v])<|m1 (zc hv) fun s k=>ah 1<|rt<|rr (.bool (v%256==0))<|?_
 exact cI (by unfold hY;(try simp only[bi,reduceIte])<;>rfl) ⟨rfl,(aJ c (aJ a k))⟩
theorem CR{sub v:Int}  (hv:0≤v∧v<65536)(h1:sub≠1)(h3:sub≠3) : Calls Tryz.prog 211 #[vI dir,vW sub,vW v] w (bS (.bool (hY dir sub v)) w):=by
 have n1:(sub==1)=false:=by simpa using h1
 have n3:(sub==3)=false:=by simpa using h3
 refine en 42 Tryz.func211 rfl<|sg<|L0<|cY #[vW v] fun f G H o p=>Pl 1<|aL 2<|ng<|L0<|Ah fun I J r s t=>L0<|iI s 1 fun L u y=>L0<|iI u 3 fun M z A=>Pl 2<|aL 3<|cu 7 [17] 24 (((sub==2)||((decide (11≤sub))&&(decide (sub≤18))))) (fun K g=>?_) ?_
 refine bl 17 ((sub==2)) (fun a=>?_) (fun a=>?_)
 have B:=ag a
 exact Pl 7<|ce g true (by rw[a];rfl)
 have B:=ai a
 refine Pl 3<|cu 3 [20] 23 (((decide (11≤sub))&&(decide (sub≤18)))) (fun K i=>?_) ?_
 refine bl 20 ((decide (11≤sub))) (fun b=>?_) (fun b=>?_)
 have C:=of_decide_eq_true b
 exact Pl 3<|ce i (decide (sub≤18)) (by rw[b];rfl)
 have C:=of_decide_eq_false b
 exact Pl 3<|ce i false (by rw[b];rfl)
 exact Pl 1<|ce g ((decide (11≤sub))&&(decide (sub≤18))) (by rw[a];rfl)
 refine ah 1<|sq<|aq 2<|cu 3 [26] 29 ((((sub==2)||((decide (11≤sub))&&(decide (sub≤18))))&&(dir==1))) (fun K j=>?_) ?_
 refine bl 26 (((sub==2)||((decide (11≤sub))&&(decide (sub≤18))))) (fun c=>?_) (fun c=>?_)
 exact Pl 3<|ce j (dir==1) (by rw[c];rfl)
 have D:=(bL c).1
 have N:=(bL c).2
 have O:=ai D
 exact Pl 3<|ce j false (by rw[c];rfl)
 refine nt<|?_
 have k:=ud t (u1 y A im) r
 have l:=aJ p k
 refine cb ((((sub==2)||((decide (11≤sub))&&(decide (sub≤18))))&&(dir==1))) (fun d=>?_) (fun d=>?_)
 have E:=(b7 d).1
 have m:=(b7 d).2
 have P:=ag m
 exact aB 1<|b6<|rr (.bool true)<|cI (by unfold hY;(try simp only[d,E,m,bi,n1,n3,reduceIte])<;>rfl) ⟨rfl,l⟩
 refine bu<|aq 2<|L0<|pK (hf:=(E9 (q:=.u16) (x:=sub) #[⟨vW 1,.func (.func 231) #[] #[],0⟩,⟨vW 3,.func (.func 232) #[] #[],1⟩] (gJ _ _ (by intro e he;simp only[List.mem_cons,List.not_mem_nil,or_false] at he;rcases he with rfl | rfl;exact⟨_,rfl,fun h=>h1 h.symm⟩;exact⟨_,rfl,fun h=>h3 h.symm⟩)))) z sub (.nilFunc) none<|ah 5<|sq<|aq 2<|nl<|tn<|c1<|go<|Pl 2<|aL 1<|?_
 have n:=ub k o
 refine aC n 0<|L0<|i8 #[] #[vP f 0] (args:=#[vW v,vP f 0])<|m1 (yp n) fun Q F=>ah 1<|rt<|rr (.bool (v==0))<|?_
 exact cI (by unfold hY;(try simp only[d,bi,n1,n3,reduceIte])<;>rfl) ⟨rfl,(aJ l F)⟩
theorem Be{sub v:Int}  (hv:0≤v∧v<65536) : Calls Tryz.prog 211 #[.int .i64 dir,.int .u16 sub,.int .u16 v] w (bS (.bool (hY dir sub v)) w):=by
  by_cases h1:sub=1
  · subst h1;exact DJ hv
  by_cases h3:sub=3
  · subst h3;exact DG hv
  exact CR hv h1 h3
open Go.RowKit
def fq (dir:Int)(C:ap) : ap:=(C.wordsC 1).need (fa C.wordV&&(dir==0 || C.wordV != 4)) 8
def l6 (C:ap) : ap:=C.need (((C.l.length:Int)%2==0&&decide (2≤(C.l.length:Int)))&&decide ((C.l.length:Int)≤250)) 5
def eM (dir c:Int)(C:ap) : ap × aS :=
  if C.wordV != 0 then (((fq dir C).wordsC 1).need ((((fq dir C).wordsR 1).length:Int)==1&&hY dir C.wordV (((fq dir C).wordsR 1).getD 0 0)) 6,{ aS.zero with code:=c,sub:=C.wordV,words:=(fq dir C).wordsR 1 })
  else ((l6 (fq dir C)).wordsC (((fq dir C).l.length:Int)/2),{ aS.zero with code:=c,sub:=C.wordV,words:=(l6 (fq dir C)).wordsR (((fq dir C).l.length:Int)/2) })
def fp (C:ap)(lo hi:Int) : ap:=(C.bytesC 1).need (decide (lo≤C.byteV)&&decide (C.byteV≤hi)) 5
def gG (C:ap) : ap:=((dS (fp C 6 70)).wordsC 1).wordsC 1
def cV (c:Int)(C:ap) : ap × aS :=
  if c==7 then (C.bytesC 1,{ aS.zero with code:=c,value:=C.byteV })
  else if c==11 then ((dS C).wordsC 1,{ aS.zero with code:=c,status:=C.wordV,events:=(dS C).wordV })
  else if c==12 then ((gG C).bytesC (C.byteV-6),{ aS.zero with code:=c,status:=(fp C 6 70).wordV,events:=(dS (fp C 6 70)).wordV,messages:=((dS (fp C 6 70)).wordsC 1).wordV,data:=(gG C).bytesR (C.byteV-6) })
  else if c==17 then ((fp C 1 251).bytesC C.byteV,{ aS.zero with code:=c,data:=(fp C 1 251).bytesR C.byteV })
  else (C,{ aS.zero with code:=c })
theorem sf(hcode:B8 c)(hC:aj w g C)(hm:w.heap[gm]? = some (.cells #[vB c,vB 0,vW 0,vW 0,vW 0,vW 0,vW 0,vW 0,vW 0,vW 0,vW 0,vW 0,nS,nS,nS,nS,vB 0,vB 0,vB 0,vB 0,vB 0,nS] 45 (0,0)))(hne:g≠gm) :
    Calls Tryz.prog 150 #[vI dir,vP g 0,vP gm 0] w (cO g gm (eM dir c C).1 (eM dir c C).2 w):=by
 obtain⟨hcode1,hcode2⟩:=hcode
 have hlen:=hC.len
 refine en 84 Tryz.func150 rfl<|aq 2<|ay<|m3 (bZ hC) fun b0 a4 t b1=>Pl 2<|?_
 have J:=bj t (Ne.symm hne) hm
 refine L0<|bY J 8 (mG c 0 0 0 0 0 0 0 C.wordV 0 0 0 nS nS nS nS 0 0 0 0 0 nS) fun b2 eR L=>aL 4<|aC eR 8<|ay<|m1 (yd (x:=C.wordV) (w:=_)) fun b3 r=>Pl 1<|cu 10 [18] 28 (((fa C.wordV)&&((dir==0)||(C.wordV != 4)))) (fun K M=>?_) ?_
 refine bl 18 ((fa C.wordV)) (fun u=>?_) (fun u=>?_)
 refine Pl 3<|cu 6 [21] 27 (((dir==0)||(C.wordV != 4))) (fun K N=>?_) ?_
 refine bl 21 ((dir==0)) (fun j=>?_) (fun j=>?_)
 have a5:=ag j
 exact Pl 6<|ce N true (by rw[j];rfl)
 have a5:=ai j
 refine Pl 3<|?_
 exact L1<|dQ (ub r eR) 8<|Pl 2<|ce N (C.wordV != 4) (by rw[j];rfl)
 exact Pl 1<|ce M ((dir==0)||(C.wordV != 4)) (by rw[u];rfl)
 exact Pl 10<|ce M false (by rw[u];rfl)
 have O:=aJ L r
 refine ay<|m2 (bq (((fa C.wordV)&&((dir==0)||(C.wordV != 4)))) 8 (aj.upd a4 O (aa hne aE) (av (b9 J (by decide)) aM))) fun b4 a6 y=>?_
 refine ab a6 fun x30 z s=>?_
 refine nt<|sq<|aq 3<|?_
 have A:=bj (uz r y) (Ne.symm hne) eR
 refine aC A 8<|ah 1<|?_
 have d:=ui t (us O y)
 refine cb ((C.wordV != 0)) (fun f=>?_) (fun f=>?_)
 have a7:=aA f
 refine aq 2<|ay<|qk (eU (n:=1) s) fun P Q b5 i b8 ba R S=>Pl 2<|?_
 have B:=bj S (Ne.symm hne) A
 refine L0<|bY B 12 (mG c 0 0 0 0 0 0 0 C.wordV 0 0 0 (.slice P ((x30.wordsR 1).length) Q) nS nS nS 0 0 0 0 0 nS) fun bb a8 a9=>nt<|sq<|Rg 22 (fun w'=>w'.cell? ⟨gm,12,none⟩=some (.slice P ((x30.wordsR 1).length) Q)∧w'.cell? ⟨gm,8,none⟩=some (vW C.wordV)) fun bc T=>?_
 have b:=ub T a8
 refine bv ⟨(ae b rfl),(ae b rfl)⟩ fun a=>Rt 0 a<|Rt 1 a<|Rt 2 a<|Rt 3 a<|Rl 4 a (fun _ hs=>hs.1)<|Rt 5 a<|Rt 6 a<|Rt 7 a<|?_
 have k:=aJ a9 T
 have U:=ut d (us S k) (ac im (ac im aD))
 refine wc 47 ((((x30.wordsR 1).length:Int)==1)) (fun m=>?_) (fun m=>?_)
 have ad:=ag m
 refine Rt 8 a<|Rt 9 a<|Rt 10 a<|Rt 11 a<|Rl 12 a (fun _ hs=>hs.2)<|Rt 13 a<|Rt 14 a<|Rt 15 a<|Rl 16 a (fun _ hs=>hs.1)<|?_
 have V:=au i k (fun x hx=>(aa (fun e=>(aO (az hm) d.size i) (e▸hx)) aE)) (fun _ _ h=>h)
 refine fo (eF.at_ (V).rd 0 (by omega)) fun af ak al am bd=>R0 17 rfl<|lc ((x30.wordsR 1).length) 0 al (by omega)<|bv ⟨(ae b rfl),(ae b rfl)⟩ fun be=>R0 18 rfl<|fR (p:=⟨af,ak+0,none⟩) (v:=vW ((x30.wordsR 1).getD 0 0)) am<|bv ⟨(ae b rfl),(ae b rfl)⟩ fun bf=>R0 19 rfl<|Oc<|m1 (Be (dir:=dir) (sub:=C.wordV) (v:=((x30.wordsR 1).getD 0 0)) (by omega)) fun bg D=>?_
 have E:=ub D b
 refine bv ⟨(ae E rfl),(ae E rfl)⟩ fun an=>Rt 20 an<|?_
 refine R0 21 rfl<|Oc<|m2 (bq ((hY dir C.wordV ((x30.wordsR 1).getD 0 0))) 6 (aj.upd R (aJ k D) (aa hne aE) (av (b9 B (by decide)) aM))) fun bh ao W=>?_
 refine ab ao fun bk ar aw=>?_
 have F:=bj W (Ne.symm hne) E
 refine bv ⟨(ae F rfl),(ae F rfl)⟩ fun bm=>re<|tn<|b6<|rr (.tuple #[])<|?_
 subst ar z
 have X:=uz D W
 have hs:eM dir c C=(((((C.wordsC 1).need ((fa C.wordV)&&((dir==0)||(C.wordV != 4))) 8).wordsC 1).need (hY dir C.wordV ((((C.wordsC 1).need ((fa C.wordV)&&((dir==0)||(C.wordV != 4))) 8).wordsR 1).getD 0 0)) 6),(aS.mk c 0 0 0 0 0 0 0 C.wordV 0 0 0 (((C.wordsC 1).need ((fa C.wordV)&&((dir==0)||(C.wordV != 4))) 8).wordsR 1) [] [] [] 0 0 0 0 0 [])):=by
   unfold eM fq l6
   (try simp only[f,m,bi,reduceIte])
   all_goals rfl
 rw[hs]
 exact⟨rfl,aw,⟨_,⟨F,rfl⟩,⟨_,_,_,_,_,rfl,((au V X (fun x hx=>(aa (fun e=>(aO (aj.lt hC) d.size i) (e▸hx)) aE)) (fun _ _ h=>h))).rd,aT.nil ..,aT.nil ..,aT.nil ..,aT.nil ..,(cP (by omega))⟩⟩,(aI.mono (S':=[g,gm]) (u1 U X im) (D4 (Or.inl (by simp)) (Or.inl (by simp))))⟩
 have ad:=ai m
 refine Ro 8 a<|Ro 9 a<|Ro 10 a<|Ro 11 a<|Ro 12 a<|Ro 13 a<|Ro 14 a<|Ro 15 a<|Ro 16 a<|Ro 17 a<|Ro 18 a<|Ro 19 a<|Rt 20 a<|?_
 refine R0 21 rfl<|Oc<|m2 (bq (false) 6 (aj.upd R k (aa hne aE) (av (b9 B (by decide)) aM))) fun bn ax G=>?_
 have H:=bj G (Ne.symm hne) b
 refine bv ⟨(ae H rfl),(ae H rfl)⟩ fun bo=>re<|tn<|b6<|rr (.tuple #[])<|?_
 subst z
 have hs:eM dir c C=(((((C.wordsC 1).need ((fa C.wordV)&&((dir==0)||(C.wordV != 4))) 8).wordsC 1).need false 6),(aS.mk c 0 0 0 0 0 0 0 C.wordV 0 0 0 (((C.wordsC 1).need ((fa C.wordV)&&((dir==0)||(C.wordV != 4))) 8).wordsR 1) [] [] [] 0 0 0 0 0 [])):=by
   unfold eM fq l6
   (try simp only[f,m,bi,reduceIte])
   all_goals rfl
 rw[hs]
 exact⟨rfl,ax,⟨_,⟨H,rfl⟩,⟨_,_,_,_,_,rfl,((au i (us k G) (fun x hx=>(aa (fun e=>(aO (az hm) d.size i) (e▸hx)) (aa (fun e=>(aO (aj.lt hC) d.size i) (e▸hx)) aE))) (fun _ _ h=>h))).rd,aT.nil ..,aT.nil ..,aT.nil ..,aT.nil ..,(cP (by omega))⟩⟩,(aI.mono (S':=[g,gm]) (u1 U G im) (D4 (Or.inl (by simp)) (Or.inl (by simp))))⟩
 have a7:=aF f
 refine bu<|aq 1<|ay<|mq (eO s)<|?_
 have bp:=aj.len s
 refine Pl 1<|aL 2<|L0<|Oe (vI (Int.tmod (x30.l.length:Int) 2)) (vI ((x30.l.length:Int)%2)) (congrArg (Value.int .i64) (Int.tmod_eq_emod_of_nonneg (by omega)))<|Pl 2<|cu 3 [68] 71 (((((x30.l.length:Int)%2)==0)&&(decide (2≤(x30.l.length:Int))))) (fun K Y=>?_) ?_
 refine bl 68 ((((x30.l.length:Int)%2)==0)) (fun o=>?_) (fun o=>?_)
 have aB:=ag o
 exact Pl 3<|ce Y (decide (2≤(x30.l.length:Int))) (by rw[o];rfl)
 have aB:=ai o
 exact Pl 3<|ce Y false (by rw[o];rfl)
 refine Pl 1<|cu 3 [72] 75 ((((((x30.l.length:Int)%2)==0)&&(decide (2≤(x30.l.length:Int))))&&(decide ((x30.l.length:Int)≤250)))) (fun K Z=>?_) ?_
 refine bl 72 (((((x30.l.length:Int)%2)==0)&&(decide (2≤(x30.l.length:Int))))) (fun q=>?_) (fun q=>?_)
 have aG:=(b7 q).1
 have aH:=(b7 q).2
 have br:=ag aG
 have bs:=of_decide_eq_true aH
 exact Pl 3<|ce Z (decide ((x30.l.length:Int)≤250)) (by rw[q];rfl)
 exact Pl 3<|ce Z false (by rw[q];rfl)
 refine ay<|m2 (bq ((((((x30.l.length:Int)%2)==0)&&(decide (2≤(x30.l.length:Int))))&&(decide ((x30.l.length:Int)≤250)))) 5 s) fun bt aK a0=>?_
 refine ab aK fun aN aP aQ=>?_
 refine nt<|go<|Pl 3<|L0<|Oe (vI (IntKind.i64.wrap (Int.tdiv (x30.l.length:Int) 2))) (vI ((x30.l.length:Int)/2)) (congrArg (Value.int .i64) (gW (by omega) (by omega)))<|ay<|qk (eU (n:=((x30.l.length:Int)/2)) aQ) fun aR aU bw a1 bx bz aV aW=>?_
 refine ab aV fun bA aX aY=>?_
 refine Pl 2<|?_
 have a2:=u1 a0 aW im
 have a3:=bj a2 (Ne.symm hne) A
 refine L0<|bY a3 12 (mG c 0 0 0 0 0 0 0 C.wordV 0 0 0 (.slice aR ((aN.wordsR ((x30.l.length:Int)/2)).length) aU) nS nS nS 0 0 0 0 0 nS) fun bB aZ I=>nl<|rm (.tuple #[])<|?_
 subst aX aP z
 have hs:eM dir c C=(((((C.wordsC 1).need ((fa C.wordV)&&((dir==0)||(C.wordV != 4))) 8).need ((((((((C.wordsC 1).need ((fa C.wordV)&&((dir==0)||(C.wordV != 4))) 8).l.length:Nat) : Int)%2)==0)&&(decide (2≤((((C.wordsC 1).need ((fa C.wordV)&&((dir==0)||(C.wordV != 4))) 8).l.length:Nat) : Int))))&&(decide (((((C.wordsC 1).need ((fa C.wordV)&&((dir==0)||(C.wordV != 4))) 8).l.length:Nat) : Int)≤250))) 5).wordsC (((((C.wordsC 1).need ((fa C.wordV)&&((dir==0)||(C.wordV != 4))) 8).l.length:Nat) : Int)/2)),(aS.mk c 0 0 0 0 0 0 0 C.wordV 0 0 0 ((((C.wordsC 1).need ((fa C.wordV)&&((dir==0)||(C.wordV != 4))) 8).need ((((((((C.wordsC 1).need ((fa C.wordV)&&((dir==0)||(C.wordV != 4))) 8).l.length:Nat) : Int)%2)==0)&&(decide (2≤((((C.wordsC 1).need ((fa C.wordV)&&((dir==0)||(C.wordV != 4))) 8).l.length:Nat) : Int))))&&(decide (((((C.wordsC 1).need ((fa C.wordV)&&((dir==0)||(C.wordV != 4))) 8).l.length:Nat) : Int)≤250))) 5).wordsR (((((C.wordsC 1).need ((fa C.wordV)&&((dir==0)||(C.wordV != 4))) 8).l.length:Nat) : Int)/2)) [] [] [] 0 0 0 0 0 [])):=by
   unfold eM fq l6
   (try simp only[f,bi,reduceIte])
   all_goals rfl
 rw[hs]
 exact⟨rfl,(aj.upd aY I (aa hne aE) (av (b9 a3 (by decide)) aM)),⟨_,⟨aZ,rfl⟩,⟨_,_,_,_,_,rfl,((au a1 I (fun x hx=>(aa (fun e=>(aO (az hm) (le (le (le (le t.size L.size) r.size) y.size) a0.size) a1) (e▸hx)) aE)) (fun _ _ h=>h))).rd,aT.nil ..,aT.nil ..,aT.nil ..,aT.nil ..,(cP (by omega))⟩⟩,(aI.mono (S':=[g,gm]) (ut d (us a2 I) (ac im (ac im aD))) (D4 (Or.inl (by simp)) (Or.inl (by simp))))⟩
theorem iR(hcode:B8 c)(hC:aj w g C)(hm:w.heap[gm]? = some (.cells #[vB c,vB 0,vW 0,vW 0,vW 0,vW 0,vW 0,vW 0,vW 0,vW 0,vW 0,vW 0,nS,nS,nS,nS,vB 0,vB 0,vB 0,vB 0,vB 0,nS] 45 (0,0)))(hne:g≠gm) :
    Calls Tryz.prog 151 #[vP g 0,vP gm 0] w (cO g gm (cV c C).1 (cV c C).2 w):=by
 obtain⟨hcode1,hcode2⟩:=hcode
 have hlen:=hC.len
 refine en 84 Tryz.func151 rfl<|aq 3<|aC hm 0<|nt<|bk<|aB 2<|cb ((c==7)) (fun a=>?_) (fun a=>?_)
 have M:=ag a
 refine go<|Pl 2<|ay<|m3 (bX hC) fun aP N m aQ=>L0<|Dk C.byteV<|Pl 2<|?_
 have o:=bj m (Ne.symm hne) hm
 refine L0<|bY o 4 (mG c 0 0 0 C.byteV 0 0 0 0 0 0 0 nS nS nS nS 0 0 0 0 0 nS) fun aR O p=>nl<|bn<|rm (.tuple #[])<|?_
 have hs:cV c C=((C.bytesC 1),(aS.mk c 0 0 0 C.byteV 0 0 0 0 0 0 0 [] [] [] [] 0 0 0 0 0 [])):=by
   unfold cV gG fp
   (try simp only[a,bi,reduceIte])
   all_goals rfl
 rw[hs]
 exact⟨rfl,(aj.upd N p (aa hne aE) (av (b9 o (by decide)) aM)),⟨_,⟨O,rfl⟩,⟨_,_,_,_,_,rfl,aT.nil ..,aT.nil ..,aT.nil ..,aT.nil ..,aT.nil ..,(cP (by omega))⟩⟩,(us m p)⟩
 have M:=ai a
 refine aB 2<|cb ((c==11)) (fun b=>?_) (fun b=>?_)
 have P:=ag b
 refine aq 2<|ay<|m3 (sc hC) fun aU Q q aW=>Pl 2<|?_
 have r:=bj q (Ne.symm hne) hm
 refine L0<|bY r 9 (mG c 0 0 0 0 0 0 0 0 C.wordV 0 0 nS nS nS nS 0 0 0 0 0 nS) fun aX R s=>nt<|go<|Pl 2<|?_
 refine ay<|m3 (bZ (aj.upd Q s (aa hne aE) (av (b9 r (by decide)) aM))) fun aY S t aZ=>Pl 2<|?_
 have u:=bj t (Ne.symm hne) R
 refine L0<|bY u 10 (mG c 0 0 0 0 0 0 0 0 C.wordV ((dS C).wordV) 0 nS nS nS nS 0 0 0 0 0 nS) fun b0 T v=>nl<|bn<|rm (.tuple #[])<|?_
 have hs:cV c C=(((dS C).wordsC 1),(aS.mk c 0 0 0 0 0 0 0 0 C.wordV ((dS C).wordV) 0 [] [] [] [] 0 0 0 0 0 [])):=by
   unfold cV gG fp
   (try simp only[a,b,bi,reduceIte])
   all_goals rfl
 rw[hs]
 exact⟨rfl,(aj.upd S v (aa hne aE) (av (b9 u (by decide)) aM)),⟨_,⟨T,rfl⟩,⟨_,_,_,_,_,rfl,aT.nil ..,aT.nil ..,aT.nil ..,aT.nil ..,aT.nil ..,(cP (by omega))⟩⟩,(ui q (ui s (us t v)))⟩
 have P:=ai b
 refine aB 2<|cb ((c==12)) (fun d=>?_) (fun d=>?_)
 have U:=ag d
 refine aq 1<|ay<|m3 (bX hC) fun b1 V W b2=>bp C.byteV<|Pl 1<|aL 4<|cu 3 [38] 41 (((decide (6≤C.byteV))&&(decide (C.byteV≤70)))) (fun K x=>?_) ?_
 refine bl 38 ((decide (6≤C.byteV))) (fun e=>?_) (fun e=>?_)
 have X:=of_decide_eq_true e
 exact Pl 3<|ce x (decide (C.byteV≤70)) (by rw[e];rfl)
 have X:=of_decide_eq_false e
 exact Pl 3<|ce x false (by rw[e];rfl)
 refine ay<|m2 (bq (((decide (6≤C.byteV))&&(decide (C.byteV≤70)))) 5 V) fun b3 Y Z=>?_
 refine ab Y fun x53 a0 a1=>?_
 refine aL 2<|ay<|m3 (sc a1) fun b4 a2 a3 b5=>Pl 2<|?_
 have y:=u1 W (u1 Z a3 im) im
 have z:=bj y (Ne.symm hne) hm
 refine L0<|bY z 9 (mG c 0 0 0 0 0 0 0 0 x53.wordV 0 0 nS nS nS nS 0 0 0 0 0 nS) fun b6 a4 A=>aL 3<|?_
 refine ay<|m3 (bZ (aj.upd a2 A (aa hne aE) (av (b9 z (by decide)) aM))) fun b7 a5 a6 b8=>Pl 1<|ay<|m3 (bZ a5) fun ba a7 a8 bb=>?_
 refine ab a7 fun nw a9 ac=>?_
 refine Pl 2<|?_
 have B:=u1 a6 a8 im
 have D:=bj B (Ne.symm hne) a4
 refine L0<|bY D 10 (mG c 0 0 0 0 0 0 0 0 x53.wordV ((dS x53).wordV) 0 nS nS nS nS 0 0 0 0 0 nS) fun bc ad ae=>Pl 2<|L0<|bY ad 11 (mG c 0 0 0 0 0 0 0 0 x53.wordV ((dS x53).wordV) (((dS x53).wordsC 1).wordV) nS nS nS nS 0 0 0 0 0 nS) fun bd af ah=>nt<|go<|Pl 3<|bp (C.byteV-6)<|?_
 have E:=u1 ae ah im
 have F:=aj.upd ac E (aa hne aE) (av (b9 D (by decide)) aM)
 refine ay<|vD (cK (n:=(C.byteV-6)) F) fun ak al be am bf bg an G=>?_
 have bh:=Nat.le_trans (ap.bytesR_le nw (C.byteV-6)) (aj.len F)
 refine Pl 2<|?_
 have i:=bj G (Ne.symm hne) af
 refine L0<|bY i 14 (mG c 0 0 0 0 0 0 0 0 x53.wordV ((dS x53).wordV) (((dS x53).wordsC 1).wordV) nS nS (.slice ak ((nw.bytesR (C.byteV-6)).length) al) nS 0 0 0 0 0 nS) fun bm ao j=>nl<|bn<|rm (.tuple #[])<|?_
 subst a9 a0
 have hs:cV c C=(((((dS ((C.bytesC 1).need ((decide (6≤C.byteV))&&(decide (C.byteV≤70))) 5)).wordsC 1).wordsC 1).bytesC (C.byteV-6)),(aS.mk c 0 0 0 0 0 0 0 0 (((C.bytesC 1).need ((decide (6≤C.byteV))&&(decide (C.byteV≤70))) 5).wordV) ((dS ((C.bytesC 1).need ((decide (6≤C.byteV))&&(decide (C.byteV≤70))) 5)).wordV) (((dS ((C.bytesC 1).need ((decide (6≤C.byteV))&&(decide (C.byteV≤70))) 5)).wordsC 1).wordV) [] [] ((((dS ((C.bytesC 1).need ((decide (6≤C.byteV))&&(decide (C.byteV≤70))) 5)).wordsC 1).wordsC 1).bytesR (C.byteV-6)) [] 0 0 0 0 0 [])):=by
   unfold cV gG fp
   (try simp only[a,b,d,bi,reduceIte])
   all_goals rfl
 rw[hs]
 exact⟨rfl,(aj.upd an j (aa hne aE) (av (b9 i (by decide)) aM)),⟨_,⟨ao,rfl⟩,⟨_,_,_,_,_,rfl,aT.nil ..,aT.nil ..,(aV.upd' am j (av (b9 i (by decide)) aM)),aT.nil ..,aT.nil ..,(cP (by omega))⟩⟩,(ui y (ui A (ui B (ui E (us G j)))))⟩
 have U:=ai d
 refine aB 2<|cb ((c==17)) (fun f=>?_) (fun f=>?_)
 have ar:=ag f
 refine aq 1<|ay<|m3 (bX hC) fun bo au aw br=>bp C.byteV<|Pl 1<|aL 4<|cu 3 [73] 76 (((decide (1≤C.byteV))&&(decide (C.byteV≤251)))) (fun K H=>?_) ?_
 refine bl 73 ((decide (1≤C.byteV))) (fun h=>?_) (fun h=>?_)
 have ax:=of_decide_eq_true h
 exact Pl 3<|ce H (decide (C.byteV≤251)) (by rw[h];rfl)
 have ax:=of_decide_eq_false h
 exact Pl 3<|ce H false (by rw[h];rfl)
 refine ay<|m2 (bq (((decide (1≤C.byteV))&&(decide (C.byteV≤251)))) 5 au) fun bs az aA=>?_
 refine ab az fun I aF J=>?_
 refine nt<|go<|Pl 3<|ay<|vD (cK (n:=C.byteV) J) fun aG aH bt aJ bu bv aK aN=>?_
 have bw:=Nat.le_trans (ap.bytesR_le I C.byteV) (aj.len J)
 refine Pl 2<|?_
 have L:=u1 aw (u1 aA aN im) im
 have k:=bj L (Ne.symm hne) hm
 refine L0<|bY k 14 (mG c 0 0 0 0 0 0 0 0 0 0 0 nS nS (.slice aG ((I.bytesR C.byteV).length) aH) nS 0 0 0 0 0 nS) fun bx aO l=>nl<|bn<|rm (.tuple #[])<|?_
 subst aF
 have hs:cV c C=((((C.bytesC 1).need ((decide (1≤C.byteV))&&(decide (C.byteV≤251))) 5).bytesC C.byteV),(aS.mk c 0 0 0 0 0 0 0 0 0 0 0 [] [] (((C.bytesC 1).need ((decide (1≤C.byteV))&&(decide (C.byteV≤251))) 5).bytesR C.byteV) [] 0 0 0 0 0 [])):=by
   unfold cV gG fp
   (try simp only[a,b,d,f,bi,reduceIte])
   all_goals rfl
 rw[hs]
 exact⟨rfl,(aj.upd aK l (aa hne aE) (av (b9 k (by decide)) aM)),⟨_,⟨aO,rfl⟩,⟨_,_,_,_,_,rfl,aT.nil ..,aT.nil ..,(aV.upd' aJ l (av (b9 k (by decide)) aM)),aT.nil ..,aT.nil ..,(cP (by omega))⟩⟩,(us L l)⟩
 have ar:=ai f
 refine sk<|bn<|rm (.tuple #[])<|?_
 have hs:cV c C=(C,(aS.mk c 0 0 0 0 0 0 0 0 0 0 0 [] [] [] [] 0 0 0 0 0 [])):=by
   unfold cV gG fp
   (try simp only[a,b,d,f,bi,reduceIte])
   all_goals rfl
 rw[hs]
 exact⟨rfl,hC,⟨_,⟨hm,rfl⟩,⟨_,_,_,_,_,rfl,aT.nil ..,aT.nil ..,aT.nil ..,aT.nil ..,aT.nil ..,(cP (by omega))⟩⟩,(aI.mono (S':=[g,gm]) (aI.refl [] _) aD)⟩
open Go.RowKit
def bo (dir c:Int)(C:ap) : Option (ap × aS) :=
  if c==8 then some (eM dir c C)
  else if c==7 || c==11 || c==12 || c==17 then (if dir==1 then some (cV c C) else some (C,{ aS.zero with code:=c }))
  else none
theorem qG(hcode:B8 c)(hsl:aV m w (.slice A b.length cp) b)(hb:b.length≤1048576) :
    Calls Tryz.prog 100 #[vI 0,vB c,.slice A b.length cp] w (eN (ak bo 0 c b) w):=by
 obtain⟨hcode1,hcode2⟩:=hcode
 have hln:(b.length:Int)≤1048576:=by omega
 refine en 47 Tryz.func100 rfl<|sg<|aK mZ fun H af t q I=>ah 1<|sq<|aB 6<|c0<|bu<|aq 2<|aK mZ fun a al k u Q=>aG u (mC c) fun am l v=>aL 1<|?_
 have n:=ud Q v k
 have y:=aJ I n
 refine ay<|e3 (er (aV.old hsl y) (by omega)) fun d R r o f=>ah 1<|A7 (fun x=>[(6,vP H 0),(8,vP a 0),(9,vP d 0)]) (fun(x:ap × Array Value × aS) w'=>aI [d,a] R w'∧aj w' d x.1∧w'.heap[a]? = some (.cells x.2.1 45 (0,0))∧aH true w' x.2.1.toList x.2.2∧(ak bo 0 c b=bC x.2.2 x.1)) ?_ ?_
 rintro⟨C,cs,M⟩ z ⟨J,S,T,U,V⟩
 refine gi [(6,vP H 0),(8,vP a 0),(9,vP d 0)] ?_
 have K:aj z d C:=S
 have W:z.heap[a]? = some (.cells cs 45 (0,0)):=T
 have s:aH true z cs.toList M:=U
 have B:=aH.size s
 have L:ak bo 0 c b=bC M C:=V
 refine aq 1<|ay<|m2 (fk K) fun an N D=>nt<|sq<|aq 1<|ay<|mq (cT N)<|?_
 have ao:=aj.len N
 refine Pl 1<|dk 2<|?_
 have E:=ud f (u1 J D im) r
 have O:=ud y E (le I.size k)
 refine cb ((C.endC.e != 0)) (fun F=>?_) (fun F=>?_)
 have G:=aA F
 refine aq 2<|?_
 refine aG (ub (ud n E k) q) mZ fun ar X Y=>ah 1<|b6<|ck X (vI C.endC.e)<|?_
 rw[L]
 exact dL G (ud O Y t)
 have G:=aF F
 refine bu<|sg<|?_
 refine L0<|cm (hz:=(by rw[B];exact aQ)) (bj D (nb (az u) v.size r) W)<|?_
 refine aG (hz:=(by rw[B];exact aQ)) (hv:=s.size) (h1:=s.one) (ub (ud n E k) q) (cs) fun au Z P=>ah 1<|rt<|fO 22 B Z (vI 0)<|?_
 rw[L]
 exact el G (aH.upd s (us D P) (av (aj.safe K _ (by decide)) (av (b9 (ub (ud n (ud f J r) k) q) (by decide)) aM))) (ud O P t)
 refine aB 1<|bk<|aB 2<|?_
 refine cb ((c==8)) (fun g=>?_) (fun g=>?_)
 have a0:=ag g
 refine go<|Pl 2<|?_
 refine ay<|m3 (sf (dir:=0) (c:=c) ⟨hcode1,hcode2⟩ o (ub f l) (Ne.symm (nb (az u) v.size r))) fun aw a1 a2 a3=>?_
 obtain⟨ax,a4,a5⟩:=a2
 refine ab a1 fun x80 a6 a7=>?_
 exact nl<|bn<|jn (x80,_,(eM 0 c (ap.mk b false 0)).2) ⟨a3,a7,a4.1,a5,by subst a6;unfold ak bo ;(try simp only[g,bi,ea,ed,e9,eb,ec,reduceIte])<;>rfl⟩
 have a0:=ai g
 refine sq<|aB 2<|cb ((c==7)) (fun h=>?_) (fun h=>?_)
 have a8:=ag h
 refine bu<|ct h<|aB 2<|c0<|sk<|bn<|?_
 exact jn ((ap.mk b false 0),_,(aS.mk c 0 0 0 0 0 0 0 0 0 0 0 [] [] [] [] 0 0 0 0 0 [])) ⟨(aI.mono (S':=[d,a]) (aI.refl [] _) aD),o,(ub f l),⟨_,_,_,_,_,rfl,aT.nil ..,aT.nil ..,aT.nil ..,aT.nil ..,aT.nil ..,(cP (by omega))⟩,by unfold ak bo ;(try simp only[g,h,bi,ea,ed,e9,eb,ec,reduceIte])<;>rfl⟩
 have a8:=ai h
 refine aB 2<|cb ((c==11)) (fun i=>?_) (fun i=>?_)
 have a9:=ag i
 refine bu<|ct i<|aB 2<|c0<|sk<|bn<|?_
 exact jn ((ap.mk b false 0),_,(aS.mk c 0 0 0 0 0 0 0 0 0 0 0 [] [] [] [] 0 0 0 0 0 [])) ⟨(aI.mono (S':=[d,a]) (aI.refl [] _) aD),o,(ub f l),⟨_,_,_,_,_,rfl,aT.nil ..,aT.nil ..,aT.nil ..,aT.nil ..,aT.nil ..,(cP (by omega))⟩,by unfold ak bo ;(try simp only[g,h,i,bi,ea,ed,e9,eb,ec,reduceIte])<;>rfl⟩
 have a9:=ai i
 refine aB 2<|cb ((c==12)) (fun j=>?_) (fun j=>?_)
 have aa:=ag j
 refine bu<|ct j<|aB 2<|c0<|sk<|bn<|?_
 exact jn ((ap.mk b false 0),_,(aS.mk c 0 0 0 0 0 0 0 0 0 0 0 [] [] [] [] 0 0 0 0 0 [])) ⟨(aI.mono (S':=[d,a]) (aI.refl [] _) aD),o,(ub f l),⟨_,_,_,_,_,rfl,aT.nil ..,aT.nil ..,aT.nil ..,aT.nil ..,aT.nil ..,(cP (by omega))⟩,by unfold ak bo ;(try simp only[g,h,i,j,bi,ea,ed,e9,eb,ec,reduceIte])<;>rfl⟩
 have aa:=ai j
 refine go<|ah 2<|cb ((c==17)) (fun p=>?_) (fun p=>?_)
 have ac:=ag p
 refine aB 2<|c0<|sk<|bn<|?_
 exact jn ((ap.mk b false 0),_,(aS.mk c 0 0 0 0 0 0 0 0 0 0 0 [] [] [] [] 0 0 0 0 0 [])) ⟨(aI.mono (S':=[d,a]) (aI.refl [] _) aD),o,(ub f l),⟨_,_,_,_,_,rfl,aT.nil ..,aT.nil ..,aT.nil ..,aT.nil ..,aT.nil ..,(cP (by omega))⟩,by unfold ak bo ;(try simp only[g,h,i,j,p,bi,ea,ed,e9,eb,ec,reduceIte])<;>rfl⟩
 have ac:=ai p
 refine aq 1<|?_
 refine aG (ub (aJ n f) q) mZ fun aC ad ae=>ah 1<|rt<|br<|tr<|ck ad (vI 4)<|?_
 exact cI (by unfold ak bo;(try simp only[g,h,i,j,p,bi,ea,ed,e9,eb,ec,reduceIte])<;>rfl) (cQ (ud (aJ y f) ae t))
theorem pG(hcode:B8 c)(hsl:aV m w (.slice A b.length cp) b)(hb:b.length≤1048576) :
    Calls Tryz.prog 100 #[vI 1,vB c,.slice A b.length cp] w (eN (ak bo 1 c b) w):=by
 obtain⟨hcode1,hcode2⟩:=hcode
 have hln:(b.length:Int)≤1048576:=by omega
 refine en 47 Tryz.func100 rfl<|sg<|aK mZ fun H bb v t I=>ah 1<|sq<|aB 6<|c0<|bu<|aq 2<|aK mZ fun l bc n i Q=>aG i (mC c) fun bd o j=>aL 1<|?_
 have p:=ud Q j n
 have y:=aJ I p
 refine ay<|e3 (er (aV.old hsl y) (by omega)) fun q R g r a=>ah 1<|A7 (fun x=>[(6,vP H 0),(8,vP l 0),(9,vP q 0)]) (fun(x:ap × Array Value × aS) w'=>aI [q,l] R w'∧aj w' q x.1∧w'.heap[l]? = some (.cells x.2.1 45 (0,0))∧aH true w' x.2.1.toList x.2.2∧(ak bo 1 c b=bC x.2.2 x.1)) ?_ ?_
 rintro⟨C,cs,M⟩ z ⟨J,S,T,U,V⟩
 refine gi [(6,vP H 0),(8,vP l 0),(9,vP q 0)] ?_
 have K:aj z q C:=S
 have W:z.heap[l]? = some (.cells cs 45 (0,0)):=T
 have u:aH true z cs.toList M:=U
 have B:=aH.size u
 have L:ak bo 1 c b=bC M C:=V
 refine aq 1<|ay<|m2 (fk K) fun be N D=>nt<|sq<|aq 1<|ay<|mq (cT N)<|?_
 have bf:=aj.len N
 refine Pl 1<|dk 2<|?_
 have E:=ud a (u1 J D im) g
 have O:=ud y E (le I.size n)
 refine cb ((C.endC.e != 0)) (fun F=>?_) (fun F=>?_)
 have G:=aA F
 refine aq 2<|?_
 refine aG (ub (ud p E n) t) mZ fun bg X Y=>ah 1<|b6<|ck X (vI C.endC.e)<|?_
 rw[L]
 exact dL G (ud O Y v)
 have G:=aF F
 refine bu<|sg<|?_
 refine L0<|cm (hz:=(by rw[B];exact aQ)) (bj D (nb (az i) j.size g) W)<|?_
 refine aG (hz:=(by rw[B];exact aQ)) (hv:=u.size) (h1:=u.one) (ub (ud p E n) t) (cs) fun bh Z P=>ah 1<|rt<|fO 22 B Z (vI 0)<|?_
 rw[L]
 exact el G (aH.upd u (us D P) (av (aj.safe K _ (by decide)) (av (b9 (ub (ud p (ud a J g) n) t) (by decide)) aM))) (ud O P v)
 refine aB 1<|bk<|aB 2<|?_
 refine cb ((c==8)) (fun d=>?_) (fun d=>?_)
 have a0:=ag d
 refine go<|Pl 2<|?_
 refine ay<|m3 (sf (dir:=1) (c:=c) ⟨hcode1,hcode2⟩ r (ub a o) (Ne.symm (nb (az i) j.size g))) fun bl a1 a2 a3=>?_
 obtain⟨bm,a4,a5⟩:=a2
 refine ab a1 fun x80 a6 a7=>?_
 exact nl<|bn<|jn (x80,_,(eM 1 c (ap.mk b false 0)).2) ⟨a3,a7,a4.1,a5,by subst a6;unfold ak bo ;(try simp only[d,bi,ea,ed,e9,eb,ec,reduceIte])<;>rfl⟩
 have a0:=ai d
 refine sq<|aB 2<|cb ((c==7)) (fun f=>?_) (fun f=>?_)
 have a8:=ag f
 refine bu<|ct f<|aB 2<|c1<|go<|Pl 1<|?_
 refine ay<|m3 (iR (c:=c) ⟨hcode1,hcode2⟩ r (ub a o) (Ne.symm (nb (az i) j.size g))) fun bp a9 aa ac=>?_
 obtain⟨bq,ad,ae⟩:=aa
 refine ab a9 fun x93 af al=>?_
 exact nl<|bn<|jn (x93,_,(cV c (ap.mk b false 0)).2) ⟨ac,al,ad.1,ae,by subst af;unfold ak bo ;(try simp only[d,f,bi,ea,ed,e9,eb,ec,reduceIte])<;>rfl⟩
 have a8:=ai f
 refine aB 2<|cb ((c==11)) (fun h=>?_) (fun h=>?_)
 have am:=ag h
 refine bu<|ct h<|aB 2<|c1<|go<|Pl 1<|?_
 refine ay<|m3 (iR (c:=c) ⟨hcode1,hcode2⟩ r (ub a o) (Ne.symm (nb (az i) j.size g))) fun bs an ao ar=>?_
 obtain⟨bt,au,aw⟩:=ao
 refine ab an fun ax aC aD=>?_
 exact nl<|bn<|jn (ax,_,(cV c (ap.mk b false 0)).2) ⟨ar,aD,au.1,aw,by subst aC;unfold ak bo ;(try simp only[d,f,h,bi,ea,ed,e9,eb,ec,reduceIte])<;>rfl⟩
 have am:=ai h
 refine aB 2<|cb ((c==12)) (fun k=>?_) (fun k=>?_)
 have aE:=ag k
 refine bu<|ct k<|aB 2<|c1<|go<|Pl 1<|?_
 refine ay<|m3 (iR (c:=c) ⟨hcode1,hcode2⟩ r (ub a o) (Ne.symm (nb (az i) j.size g))) fun bv aN aO aP=>?_
 obtain⟨bw,aR,aT⟩:=aO
 refine ab aN fun aU aW aX=>?_
 exact nl<|bn<|jn (aU,_,(cV c (ap.mk b false 0)).2) ⟨aP,aX,aR.1,aT,by subst aW;unfold ak bo ;(try simp only[d,f,h,k,bi,ea,ed,e9,eb,ec,reduceIte])<;>rfl⟩
 have aE:=ai k
 refine go<|ah 2<|cb ((c==17)) (fun s=>?_) (fun s=>?_)
 have aY:=ag s
 refine aB 2<|c1<|go<|Pl 1<|?_
 refine ay<|m3 (iR (c:=c) ⟨hcode1,hcode2⟩ r (ub a o) (Ne.symm (nb (az i) j.size g))) fun bx aZ b0 b1=>?_
 obtain⟨bz,b2,b3⟩:=b0
 refine ab aZ fun b4 b5 b7=>?_
 exact nl<|bn<|jn (b4,_,(cV c (ap.mk b false 0)).2) ⟨b1,b7,b2.1,b3,by subst b5;unfold ak bo ;(try simp only[d,f,h,k,s,bi,ea,ed,e9,eb,ec,reduceIte])<;>rfl⟩
 have aY:=ai s
 refine aq 1<|?_
 refine aG (ub (aJ p a) t) mZ fun bA b8 ba=>ah 1<|rt<|br<|tr<|ck b8 (vI 4)<|?_
 exact cI (by unfold ak bo;(try simp only[d,f,h,k,s,bi,ea,ed,e9,eb,ec,reduceIte])<;>rfl) (cQ (ud (aJ y a) ba v))
theorem qu(hcode:B8 c)(hsl:aV m w (.slice A b.length cp) b)(hb:b.length≤1048576)(hd:¬ (dir=0∨dir=1)) :
    Calls Tryz.prog 100 #[vI dir,vB c,.slice A b.length cp] w (eN (ak bo dir c b) w):=by
 obtain⟨hcode1,hcode2⟩:=hcode
 have hln:(b.length:Int)≤1048576:=by omega
 have e0:(dir != 0)=true:=by simp;omega
 have e1:(dir != 1)=true:=by simp;omega
 refine en 47 Tryz.func100 rfl<|sg<|aK mZ fun g h a d e=>ah 1<|sq<|aq 3<|sy 13 e0<|Pl 3<|nl<|tn<|ct e1<|aq 1<|aG d mZ fun i eR f=>ah 1<|b6<|ck eR (vI 1)<|?_
 exact cI (by unfold ak bo;(try simp only[e0,e1,bi,ea,ed,e9,eb,ec,reduceIte,hd])<;>rfl) (cQ (ud e f a))
theorem nq(hc:B8 c)(h:aV m w v b)(hb:b.length≤1048576) :
    Calls Tryz.prog 100 #[.int .i64 dir,.int .u8 c,v] w (eN (ak bo dir c b) w):=by
  obtain⟨A,cp,rfl,_,_⟩:=h.shape
  by_cases h0:dir=0
  · subst h0;exact qG hc h hb
  by_cases h1:dir=1
  · subst h1;exact pG hc h hb
  exact qu hc h hb (by omega)
open Go.RowKit
def eP:Nat→ap→List Obj→ap × List Obj
  | 0,C,L=>(C,L)
  | n+1,C,L=>eP n (((C.bytesC 1).bytesC 1).bytesC (C.bytesC 1).byteV) (L++[⟨C.byteV,((C.bytesC 1).bytesC 1).bytesR (C.bytesC 1).byteV⟩])
def m9 (C:ap) : ap:=(C.bytesC 1).need (co C.byteV) 6
def mc (C:ap) : ap:=((m9 C).bytesC 1).need ((m9 C).byteV==0 || (m9 C).byteV==255) 6
def oJ (C:ap) : ap:=((mc C).bytesC 1).need ((m9 C).byteV != 0 || (mc C).byteV==0) 6
def yV (kd:Int)(C:ap) : ap:=((oJ C).bytesC 1).need (kd != 4 || (oJ C).byteV==1) 5
def dN (kd:Int)(C:ap) : ap × List Obj:=eP (oJ C).byteV.toNat (yV kd C) []
theorem u9{me kd:Int}{C0:ap}  (hcode:B8 c)(hme:B8 me)(hkd:B8 kd)(hC:aj w g C0)(hm:w.heap[gm]? = some (.cells #[vB c,vB 0,vW 0,vW 0,vW 0,vW 0,vW 0,vW 0,vW 0,vW 0,vW 0,vW 0,nS,nS,nS,nS,vB me,vB kd,vB 0,vB 0,vB 0,nS] 45 (0,0)))(hne:g≠gm) :
    Calls Tryz.prog 161 #[vP g 0,vP gm 0] w (cO g gm (dN kd C0).1 { aS.zero with code:=c,mei:=me,kind:=kd,level:=C0.byteV,more:=(m9 C0).byteV,next:=(mc C0).byteV,objects:=(dN kd C0).2 } w):=by
 obtain⟨hcode1,hcode2⟩:=hcode
 obtain⟨hme1,hme2⟩:=hme
 obtain⟨hkd1,hkd2⟩:=hkd
 refine en 92 Tryz.func161 rfl<|aq 2<|ay<|m3 (bX hC) fun cY bT b cZ=>Pl 2<|?_
 have ak:=bj b (Ne.symm hne) hm
 refine L0<|bY ak 18 (mG c 0 0 0 0 0 0 0 0 0 0 0 nS nS nS nS me kd C0.byteV 0 0 nS) fun d0 eR j=>aL 4<|aC eR 18<|ay<|m1 (vn (x:=C0.byteV) (w:=_)) fun d1 d=>?_
 have al:=aJ j d
 refine ay<|m2 (bq ((co C0.byteV)) 6 (aj.upd bT al (aa hne aE) (av (b9 ak (by decide)) aM))) fun d2 bU l=>?_
 refine ab bU fun x25 bV bW=>?_
 refine aL 2<|ay<|m3 (bX bW) fun d3 bZ o d4=>Pl 2<|?_
 have an:=u1 l o im
 have ao:=bj (uz d an) (Ne.symm hne) eR
 refine L0<|bY ao 19 (mG c 0 0 0 0 0 0 0 0 0 0 0 nS nS nS nS me kd C0.byteV x25.byteV 0 nS) fun d5 U f=>aL 4<|aC U 19<|Pl 2<|cu 6 [29] 35 (((x25.byteV==0)||(x25.byteV==255))) (fun K ar=>?_) ?_
 refine bl 29 ((x25.byteV==0)) (fun E=>?_) (fun E=>?_)
 have c0:=ag E
 exact Pl 6<|ce ar true (by rw[E];rfl)
 have c0:=ai E
 exact Pl 3<|L1<|dQ U 19<|Pl 2<|ce ar (x25.byteV==255) (by rw[E];rfl)
 refine ay<|m2 (bq (((x25.byteV==0)||(x25.byteV==255))) 6 (aj.upd bZ f (aa hne aE) (av (b9 ao (by decide)) aM))) fun d7 c1 p=>?_
 refine ab c1 fun x44 c2 c3=>?_
 refine aL 2<|ay<|m3 (bX c3) fun d8 c4 q d9=>Pl 2<|?_
 have aw:=u1 p q im
 have aG:=bj aw (Ne.symm hne) U
 refine L0<|bY aG 20 (mG c 0 0 0 0 0 0 0 0 0 0 0 nS nS nS nS me kd C0.byteV x25.byteV x44.byteV nS) fun da V h=>aL 4<|aC V 19<|Pl 2<|cu 6 [48] 54 (((x25.byteV != 0)||(x44.byteV==0))) (fun K aH=>?_) ?_
 refine bl 48 ((x25.byteV != 0)) (fun F=>?_) (fun F=>?_)
 have c5:=aA F
 exact Pl 6<|ce aH true (by rw[F];rfl)
 have c5:=aF F
 exact Pl 3<|L1<|dQ V 20<|Pl 2<|ce aH (x44.byteV==0) (by rw[F];rfl)
 refine ay<|m2 (bq (((x25.byteV != 0)||(x44.byteV==0))) 6 (aj.upd c4 h (aa hne aE) (av (b9 aG (by decide)) aM))) fun db c6 r=>?_
 refine ab c6 fun x62 c7 c8=>?_
 refine aL 1<|ay<|m3 (bX c8) fun dc c9 s dd=>bp x62.byteV<|Pl 1<|aL 4<|?_
 have aK:=u1 r s im
 have aN:=bj aK (Ne.symm hne) V
 refine aC aN 17<|Pl 2<|cu 3 [65] 68 (((kd != 4)||(x62.byteV==1))) (fun K aP=>?_) ?_
 refine bl 65 ((kd != 4)) (fun G=>?_) (fun G=>?_)
 have ca:=aA G
 exact Pl 3<|ce aP true (by rw[G];rfl)
 have ca:=aF G
 exact Pl 3<|ce aP (x62.byteV==1) (by rw[G];rfl)
 refine ay<|m2 (bq (((kd != 4)||(x62.byteV==1))) 5 c9) fun W cc i=>?_
 refine ab cc fun x76 cd cf=>?_
 refine dk 2<|bk<|?_
 refine je (fun x=>[(0,vP g 0),(1,vP gm 0),(70,vI x62.byteV),(71,vI (x.1:Int))]) (fun(x:Nat × ap × List Obj × Option Addr × Nat) w'=>aI [g,gm] W w'∧aj w' g x.2.1∧w'.heap[gm]? = some (.cells #[vB c,vB 0,vW 0,vW 0,vW 0,vW 0,vW 0,vW 0,vW 0,vW 0,vW 0,vW 0,nS,nS,nS,nS,vB me,vB kd,vB C0.byteV,vB x25.byteV,vB x44.byteV,.slice x.2.2.2.1 x.2.2.1.length x.2.2.2.2] 45 (0,0))∧aZ W.heap.size 100 2 (dE true) w' (.slice x.2.2.2.1 x.2.2.1.length x.2.2.2.2) x.2.2.1∧(x.1≤x62.byteV.toNat)∧(eP (x62.byteV.toNat-x.1) x.2.1 x.2.2.1=eP x62.byteV.toNat x76 [])∧(x.2.2.1.length≤x.1)) (fun x=>x62.byteV.toNat-x.1) (0,x76,[],none,0) ⟨aI.refl _ _,cf,(bj i (Ne.symm hne) aN),aZ.nil ..,(by(try dsimp only);omega),(by(try dsimp only);rw[Nat.sub_zero]),(by(try dsimp only);(try simp only[bM]);omega)⟩ ?_
 rintro⟨k,C,L,A,cp⟩ X ⟨v,cg,ch,ci,cj,ck,cl⟩
 refine gi [(0,vP g 0),(1,vP gm 0),(70,vI x62.byteV),(71,vI (k:Int))] ?_
 have u:aj X g C:=cg
 have D:X.heap[gm]? = some (.cells #[vB c,vB 0,vW 0,vW 0,vW 0,vW 0,vW 0,vW 0,vW 0,vW 0,vW 0,vW 0,nS,nS,nS,nS,vB me,vB kd,vB C0.byteV,vB x25.byteV,vB x44.byteV,.slice A L.length cp] 45 (0,0)):=ch
 have a:aZ W.heap.size 100 2 (dE true) X (.slice A L.length cp) L:=ci
 have de:k≤x62.byteV.toNat:=cj
 have df:eP (x62.byteV.toNat-k) C L=eP x62.byteV.toNat x76 []:=ck
 have dg:L.length≤k:=cl
 have hobj:eP (x62.byteV.toNat-k) C L=eP x62.byteV.toNat x76 []:=by assumption
 refine aB 1<|sq<|?_
 refine cb ((decide ((k:Int)<x62.byteV))) (fun Y=>?_) (fun Y=>?_)
 have cm:=of_decide_eq_true Y
 refine bu<|sq<|bk<|aq 1<|ay<|m3 (bX u) fun dh aQ y di=>ah 1<|Rg 17 (fun w'=>True) fun dj t=>bv trivial fun z=>Rt 0 z<|Rt 1 z<|Rt 2 z<|Rt 3 z<|Rt 5 z<|Rt 6 z<|Rt 7 z<|R2 4 8 rfl rfl ?_ ?_
 have Z:=aJ y t
 have a0:=bj Z (Ne.symm hne) D
 refine  dQ a0 21<|bv trivial fun dl=>?_
 refine R0 8 rfl<|Oc<|m3 (bX (aj.old aQ t)) fun dm aR a1 dn=>bv trivial fun cn=>Rr 9 cn (vI ((C.bytesC 1).byteV)) (fun _ _=>bO (vI (IntKind.i64.wrap ((C.bytesC 1).byteV))) (by kernel_rfl) (congrArg (Value.int .i64) (i64_in (by omega))))<|R0 10 rfl<|Oc<|vD (cK (n:=(C.bytesC 1).byteV) aR) fun cq cr dp cs dq dr ct a2=>?_
 have ds:=Nat.le_trans (ap.bytesR_le ((C.bytesC 1).bytesC 1) ((C.bytesC 1).byteV)) (aj.len aR)
 refine ab ct fun dt cv cw=>?_
 refine bv trivial fun cx=>Rt 11 cx<|R0 12 rfl<|cX (m:=1) (e:=100) #[vB C.byteV,.slice cq ((((C.bytesC 1).bytesC 1).bytesR ((C.bytesC 1).byteV)).length) cr] fun du dv dw cy I=>?_
 have cz:=ma (R:=dE true) (x:=(Obj.mk C.byteV (((C.bytesC 1).bytesC 1).bytesR ((C.bytesC 1).byteV)))) cy rfl ⟨_,rfl,(aV.upd' cs I aM),b8 (x:=C.byteV) (by omega)⟩
 refine bv trivial fun dx=>?_
 have aW:=u1 a1 (aJ a2 I) im
 have a3:=u1 Z aW im
 have aX:=au a a3 (fun x hx=>(aa (fun e=>(aO (aj.lt hC) (le (le (le (le (le (le (le (le (le (le (le b.size j.size) d.size) l.size) o.size) f.size) p.size) q.size) h.size) r.size) s.size) i.size) a) (e▸hx)) aE)) (dE.upd8 a3 (av (aj.safe u _ (by decide)) aM))
 refine R0 13 rfl<|j7 (xs:=L) (ys:=([(Obj.mk C.byteV (((C.bytesC 1).bytesC 1).bytesR ((C.bytesC 1).byteV)))])) (.agg #[vB 0,nS]) 2 32 aX cz (by simp) dE.ones (fun w' hv=>dE.upd8 hv (d6 (dP _ aX (by decide)) aM)) (by(try simp only[bM,ax]);omega) (le (le (le (le (le v.size y.size) t.size) a1.size) a2.size) I.size) fun aY b0 dy b1 b2=>bv trivial fun b3=>Rt 14 b3<|Rt 15 b3<|?_
 have b4:=aI.blk (ut (aI.mono (S':=(g :: (ob A++[]))) aW (ac im aD)) b2 (am il aD)) (aa (Ne.symm hne) (bA (aO (az hm) (le (le (le (le (le (le (le (le (le (le (le b.size j.size) d.size) l.size) o.size) f.size) p.size) q.size) h.size) r.size) s.size) i.size) a) aE)) a0
 refine R0 16 rfl<|bY b4 21 (mG c 0 0 0 0 0 0 0 0 0 0 0 nS nS nS nS me kd C0.byteV x25.byteV x44.byteV (.slice aY ((L++[(Obj.mk C.byteV (((C.bytesC 1).bytesC 1).bytesR ((C.bytesC 1).byteV)))]).length) b0)) fun dz cA a4=>bv trivial fun dA=>re<|bn<|tn<|go<|bp ((k:Int)+1)<|Pl 1<|nl<|?_
 subst cv
 have b5:=u1 (aI.mono (S':=(ob A++(gm :: []))) b2 (am il aD)) a4 im
 have b6:=u1 a1 a2 im
 have b7:=u1 Z b6 im
 exact gK ((k+1),(((C.bytesC 1).bytesC 1).bytesC ((C.bytesC 1).byteV)),(L++[(Obj.mk C.byteV (((C.bytesC 1).bytesC 1).bytesR ((C.bytesC 1).byteV)))]),aY,b0) ⟨(ut v (ut (aI.mono (S':=(g :: (ob A++(gm :: [])))) a3 (ac im aD)) b5 (am il (ac im aD))) (ac im (am (aU a lr) (ac im aD)))),(aj.upd cw (ut (aI.mono (S':=(ob A++(gm :: []))) I aD) b5 (am il (ac im aD))) (bA (aO (aj.lt hC) (le (le (le (le (le (le (le (le (le (le (le b.size j.size) d.size) l.size) o.size) f.size) p.size) q.size) h.size) r.size) s.size) i.size) a) (aa hne aE)) (d6 (dP _ (au a b7 (fun x hx=>(aa (fun e=>(aO (aj.lt hC) (le (le (le (le (le (le (le (le (le (le (le b.size j.size) d.size) l.size) o.size) f.size) p.size) q.size) h.size) r.size) s.size) i.size) a) (e▸hx)) aE)) (dE.upd8 b7 (av (aj.safe u _ (by decide)) aM))) (by decide)) (av (b9 (bj b6 (Ne.symm hne) a0) (by decide)) aM))),cA,(au b1 a4 (fun x hx=>(aa (fun e=>(aO (az hm) (le (le (le (le (le (le (le (le (le (le (le b.size j.size) d.size) l.size) o.size) f.size) p.size) q.size) h.size) r.size) s.size) i.size) b1) (e▸hx)) aE)) (dE.upd8 a4 (av (b9 b4 (by decide)) aM))),(by(try dsimp only);omega),(by(try dsimp only);rw[← hobj,show x62.byteV.toNat-k=(x62.byteV.toNat-(k+1))+1 from by omega];rfl),(by(try dsimp only);(try simp only[bM]);omega)⟩ (by omega)
 refine  Oc<|m3 (bX (aj.old aQ t)) fun dB J B dC=>bv trivial fun cB=>Rr 9 cB (vI ((C.bytesC 1).byteV)) (fun _ _=>bO (vI (IntKind.i64.wrap ((C.bytesC 1).byteV))) (by kernel_rfl) (congrArg (Value.int .i64) (i64_in (by omega))))<|R2 4 10 rfl rfl ?_ ?_
 have a5:=u1 y (uz t B) im
 have a6:=bj a5 (Ne.symm hne) D
 refine  dQ a6 21<|bv trivial fun dD=>R0 10 rfl<|Oc<|vD (cK (n:=(C.bytesC 1).byteV) J) fun cC cD dF cE dG dH cF M=>?_
 have dI:=Nat.le_trans (ap.bytesR_le ((C.bytesC 1).bytesC 1) ((C.bytesC 1).byteV)) (aj.len J)
 refine ab cF fun dJ cG cH=>?_
 refine bv trivial fun cI=>Rt 11 cI<|R0 12 rfl<|cX (m:=1) (e:=100) #[vB C.byteV,.slice cC ((((C.bytesC 1).bytesC 1).bytesR ((C.bytesC 1).byteV)).length) cD] fun dK dL dM cJ N=>?_
 have cL:=ma (R:=dE true) (x:=(Obj.mk C.byteV (((C.bytesC 1).bytesC 1).bytesR ((C.bytesC 1).byteV)))) cJ rfl ⟨_,rfl,(aV.upd' cE N aM),b8 (x:=C.byteV) (by omega)⟩
 refine bv trivial fun dO=>?_
 have ba:=aJ M N
 have a7:=u1 a5 ba im
 have bb:=au a a7 (fun x hx=>(aa (fun e=>(aO (aj.lt hC) (le (le (le (le (le (le (le (le (le (le (le b.size j.size) d.size) l.size) o.size) f.size) p.size) q.size) h.size) r.size) s.size) i.size) a) (e▸hx)) aE)) (dE.upd8 a7 (av (aj.safe u _ (by decide)) aM))
 refine R0 13 rfl<|j7 (xs:=L) (ys:=([(Obj.mk C.byteV (((C.bytesC 1).bytesC 1).bytesR ((C.bytesC 1).byteV)))])) (.agg #[vB 0,nS]) 2 32 bb cL (by simp) dE.ones (fun w' hv=>dE.upd8 hv (d6 (dP _ bb (by decide)) aM)) (by(try simp only[bM,ax]);omega) (le (le (le (le (le v.size y.size) t.size) B.size) M.size) N.size) fun bc bd dR be bf=>bv trivial fun bg=>Rt 14 bg<|Rt 15 bg<|?_
 have bh:=aI.blk (ut (aI.mono (S':=(g :: (ob A++[]))) ba (ac im aD)) bf (am il aD)) (aa (Ne.symm hne) (bA (aO (az hm) (le (le (le (le (le (le (le (le (le (le (le b.size j.size) d.size) l.size) o.size) f.size) p.size) q.size) h.size) r.size) s.size) i.size) a) aE)) a6
 refine R0 16 rfl<|bY bh 21 (mG c 0 0 0 0 0 0 0 0 0 0 0 nS nS nS nS me kd C0.byteV x25.byteV x44.byteV (.slice bc ((L++[(Obj.mk C.byteV (((C.bytesC 1).bytesC 1).bytesR ((C.bytesC 1).byteV)))]).length) bd)) fun dS cN a8=>bv trivial fun dT=>re<|bn<|tn<|go<|bp ((k:Int)+1)<|Pl 1<|nl<|?_
 subst cG
 have bi:=u1 (aI.mono (S':=(ob A++(gm :: []))) bf (am il aD)) a8 im
 have bm:=u1 a5 M im
 exact gK ((k+1),(((C.bytesC 1).bytesC 1).bytesC ((C.bytesC 1).byteV)),(L++[(Obj.mk C.byteV (((C.bytesC 1).bytesC 1).bytesR ((C.bytesC 1).byteV)))]),bc,bd) ⟨(ut v (ut (aI.mono (S':=(g :: (ob A++(gm :: [])))) a7 (ac im aD)) bi (am il (ac im aD))) (ac im (am (aU a lr) (ac im aD)))),(aj.upd cH (ut (aI.mono (S':=(ob A++(gm :: []))) N aD) bi (am il (ac im aD))) (bA (aO (aj.lt hC) (le (le (le (le (le (le (le (le (le (le (le b.size j.size) d.size) l.size) o.size) f.size) p.size) q.size) h.size) r.size) s.size) i.size) a) (aa hne aE)) (d6 (dP _ (au a bm (fun x hx=>(aa (fun e=>(aO (aj.lt hC) (le (le (le (le (le (le (le (le (le (le (le b.size j.size) d.size) l.size) o.size) f.size) p.size) q.size) h.size) r.size) s.size) i.size) a) (e▸hx)) aE)) (dE.upd8 bm (av (aj.safe u _ (by decide)) aM))) (by decide)) (av (b9 (bj M (Ne.symm hne) a6) (by decide)) aM))),cN,(au be a8 (fun x hx=>(aa (fun e=>(aO (az hm) (le (le (le (le (le (le (le (le (le (le (le b.size j.size) d.size) l.size) o.size) f.size) p.size) q.size) h.size) r.size) s.size) i.size) be) (e▸hx)) aE)) (dE.upd8 a8 (av (b9 bh (by decide)) aM))),(by(try dsimp only);omega),(by(try dsimp only);rw[← hobj,show x62.byteV.toNat-k=(x62.byteV.toNat-(k+1))+1 from by omega];rfl),(by(try dsimp only);(try simp only[bM]);omega)⟩ (by omega)
 refine  Oc<|vD (cK (n:=(C.bytesC 1).byteV) J) fun bo br dU bs dV dW cP H=>?_
 have dX:=Nat.le_trans (ap.bytesR_le ((C.bytesC 1).bytesC 1) ((C.bytesC 1).byteV)) (aj.len J)
 refine ab cP fun dY bt bw=>?_
 refine bv trivial fun cQ=>Rt 11 cQ<|R2 4 12 rfl rfl ?_ ?_
 have O:=u1 y (uz t (u1 B H im)) im
 have a9:=bj O (Ne.symm hne) D
 refine  dQ a9 21<|bv trivial fun dZ=>R0 12 rfl<|cX (m:=1) (e:=100) #[vB C.byteV,.slice bo ((((C.bytesC 1).bytesC 1).bytesR ((C.bytesC 1).byteV)).length) br] fun e0 e1 e2 cR P=>?_
 have cS:=ma (R:=dE true) (x:=(Obj.mk C.byteV (((C.bytesC 1).bytesC 1).bytesR ((C.bytesC 1).byteV)))) cR rfl ⟨_,rfl,(aV.upd' bs P aM),b8 (x:=C.byteV) (by omega)⟩
 refine bv trivial fun e3=>?_
 have ad:=aJ O P
 have bz:=au a ad (fun x hx=>(aa (fun e=>(aO (aj.lt hC) (le (le (le (le (le (le (le (le (le (le (le b.size j.size) d.size) l.size) o.size) f.size) p.size) q.size) h.size) r.size) s.size) i.size) a) (e▸hx)) aE)) (dE.upd8 ad (av (aj.safe u _ (by decide)) aM))
 refine R0 13 rfl<|j7 (xs:=L) (ys:=([(Obj.mk C.byteV (((C.bytesC 1).bytesC 1).bytesR ((C.bytesC 1).byteV)))])) (.agg #[vB 0,nS]) 2 32 bz cS (by simp) dE.ones (fun w' hv=>dE.upd8 hv (d6 (dP _ bz (by decide)) aM)) (by(try simp only[bM,ax]);omega) (le (le (le (le (le v.size y.size) t.size) B.size) H.size) P.size) fun bB bC e4 bD bE=>bv trivial fun bF=>Rt 14 bF<|Rt 15 bF<|?_
 have bG:=ut (aI.mono (S':=(ob A++[])) P aD) bE (am il aD)
 have bH:=aI.blk bG (bA (aO (az hm) (le (le (le (le (le (le (le (le (le (le (le b.size j.size) d.size) l.size) o.size) f.size) p.size) q.size) h.size) r.size) s.size) i.size) a) aE) a9
 refine R0 16 rfl<|bY bH 21 (mG c 0 0 0 0 0 0 0 0 0 0 0 nS nS nS nS me kd C0.byteV x25.byteV x44.byteV (.slice bB ((L++[(Obj.mk C.byteV (((C.bytesC 1).bytesC 1).bytesR ((C.bytesC 1).byteV)))]).length) bC)) fun e5 cT Q=>bv trivial fun e6=>re<|bn<|tn<|go<|bp ((k:Int)+1)<|Pl 1<|nl<|?_
 subst bt
 exact gK ((k+1),(((C.bytesC 1).bytesC 1).bytesC ((C.bytesC 1).byteV)),(L++[(Obj.mk C.byteV (((C.bytesC 1).bytesC 1).bytesR ((C.bytesC 1).byteV)))]),bB,bC) ⟨(ut v (ut (aI.mono (S':=(g :: (ob A++(gm :: [])))) ad (ac im aD)) (u1 (aI.mono (S':=(ob A++(gm :: []))) bE (am il aD)) Q im) (am il (ac im aD))) (ac im (am (aU a lr) (ac im aD)))),(aj.upd bw (u1 (aI.mono (S':=(ob A++(gm :: []))) bG (am il aD)) Q im) (bA (aO (aj.lt hC) (le (le (le (le (le (le (le (le (le (le (le b.size j.size) d.size) l.size) o.size) f.size) p.size) q.size) h.size) r.size) s.size) i.size) a) (aa hne aE)) (d6 (dP _ (au a O (fun x hx=>(aa (fun e=>(aO (aj.lt hC) (le (le (le (le (le (le (le (le (le (le (le b.size j.size) d.size) l.size) o.size) f.size) p.size) q.size) h.size) r.size) s.size) i.size) a) (e▸hx)) aE)) (dE.upd8 O (av (aj.safe u _ (by decide)) aM))) (by decide)) (av (b9 a9 (by decide)) aM))),cT,(au bD Q (fun x hx=>(aa (fun e=>(aO (az hm) (le (le (le (le (le (le (le (le (le (le (le b.size j.size) d.size) l.size) o.size) f.size) p.size) q.size) h.size) r.size) s.size) i.size) bD) (e▸hx)) aE)) (dE.upd8 Q (av (b9 bH (by decide)) aM))),(by(try dsimp only);omega),(by(try dsimp only);rw[← hobj,show x62.byteV.toNat-k=(x62.byteV.toNat-(k+1))+1 from by omega];rfl),(by(try dsimp only);(try simp only[bM]);omega)⟩ (by omega)
 refine  cX (m:=1) (e:=100) #[vB C.byteV,.slice bo ((((C.bytesC 1).bytesC 1).bytesR ((C.bytesC 1).byteV)).length) br] fun e7 e8 e9 cU S=>?_
 have cV:=ma (R:=dE true) (x:=(Obj.mk C.byteV (((C.bytesC 1).bytesC 1).bytesR ((C.bytesC 1).byteV)))) cU rfl ⟨_,rfl,(aV.upd' bs S aM),b8 (x:=C.byteV) (by omega)⟩
 refine bv trivial fun ea=>?_
 have T:=u1 y (uz t (u1 B (aJ H S) im)) im
 have bI:=bj T (Ne.symm hne) D
 refine R0 4 rfl<|dQ bI 21<|bv trivial fun eb=>?_
 have bJ:=au a T (fun x hx=>(aa (fun e=>(aO (aj.lt hC) (le (le (le (le (le (le (le (le (le (le (le b.size j.size) d.size) l.size) o.size) f.size) p.size) q.size) h.size) r.size) s.size) i.size) a) (e▸hx)) aE)) (dE.upd8 T (av (aj.safe u _ (by decide)) aM))
 refine R0 13 rfl<|j7 (xs:=L) (ys:=([(Obj.mk C.byteV (((C.bytesC 1).bytesC 1).bytesR ((C.bytesC 1).byteV)))])) (.agg #[vB 0,nS]) 2 32 bJ cV (by simp) dE.ones (fun w' hv=>dE.upd8 hv (d6 (dP _ bJ (by decide)) aM)) (by(try simp only[bM,ax]);omega) (le (le (le (le (le v.size y.size) t.size) B.size) H.size) S.size) fun bK bL ec bN bP=>bv trivial fun bQ=>Rt 14 bQ<|Rt 15 bQ<|?_
 have bR:=aI.blk bP (bA (aO (az hm) (le (le (le (le (le (le (le (le (le (le (le b.size j.size) d.size) l.size) o.size) f.size) p.size) q.size) h.size) r.size) s.size) i.size) a) aE) bI
 refine R0 16 rfl<|bY bR 21 (mG c 0 0 0 0 0 0 0 0 0 0 0 nS nS nS nS me kd C0.byteV x25.byteV x44.byteV (.slice bK ((L++[(Obj.mk C.byteV (((C.bytesC 1).bytesC 1).bytesR ((C.bytesC 1).byteV)))]).length) bL)) fun ed cW ae=>bv trivial fun ee=>re<|bn<|tn<|go<|bp ((k:Int)+1)<|Pl 1<|nl<|?_
 subst bt
 have bS:=u1 (aI.mono (S':=(ob A++(gm :: []))) bP (am il aD)) ae im
 have af:=u1 y (uz t (u1 B H im)) im
 exact gK ((k+1),(((C.bytesC 1).bytesC 1).bytesC ((C.bytesC 1).byteV)),(L++[(Obj.mk C.byteV (((C.bytesC 1).bytesC 1).bytesR ((C.bytesC 1).byteV)))]),bK,bL) ⟨(ut v (ut (aI.mono (S':=(g :: (ob A++(gm :: [])))) T (ac im aD)) bS (am il (ac im aD))) (ac im (am (aU a lr) (ac im aD)))),(aj.upd bw (ut (aI.mono (S':=(ob A++(gm :: []))) S aD) bS (am il (ac im aD))) (bA (aO (aj.lt hC) (le (le (le (le (le (le (le (le (le (le (le b.size j.size) d.size) l.size) o.size) f.size) p.size) q.size) h.size) r.size) s.size) i.size) a) (aa hne aE)) (d6 (dP _ (au a af (fun x hx=>(aa (fun e=>(aO (aj.lt hC) (le (le (le (le (le (le (le (le (le (le (le b.size j.size) d.size) l.size) o.size) f.size) p.size) q.size) h.size) r.size) s.size) i.size) a) (e▸hx)) aE)) (dE.upd8 af (av (aj.safe u _ (by decide)) aM))) (by decide)) (av (b9 (bj af (Ne.symm hne) D) (by decide)) aM))),cW,(au bN ae (fun x hx=>(aa (fun e=>(aO (az hm) (le (le (le (le (le (le (le (le (le (le (le b.size j.size) d.size) l.size) o.size) f.size) p.size) q.size) h.size) r.size) s.size) i.size) bN) (e▸hx)) aE)) (dE.upd8 ae (av (b9 bR (by decide)) aM))),(by(try dsimp only);omega),(by(try dsimp only);rw[← hobj,show x62.byteV.toNat-k=(x62.byteV.toNat-(k+1))+1 from by omega];rfl),(by(try dsimp only);(try simp only[bM]);omega)⟩ (by omega)
 have cm:=of_decide_eq_false Y
 refine xt<|tx<|tx<|bx<|rm (.tuple #[])<|?_
 subst cd c7 c2 bV
 have hf:dN kd C0=(C,L):=by
   have h1:eP ((((((C0.bytesC 1).need (co C0.byteV) 6).bytesC 1).need ((((C0.bytesC 1).need (co C0.byteV) 6).byteV==0)||(((C0.bytesC 1).need (co C0.byteV) 6).byteV==255)) 6).bytesC 1).need ((((C0.bytesC 1).need (co C0.byteV) 6).byteV != 0)||(((((C0.bytesC 1).need (co C0.byteV) 6).bytesC 1).need ((((C0.bytesC 1).need (co C0.byteV) 6).byteV==0)||(((C0.bytesC 1).need (co C0.byteV) 6).byteV==255)) 6).byteV==0)) 6).byteV.toNat ((((((((C0.bytesC 1).need (co C0.byteV) 6).bytesC 1).need ((((C0.bytesC 1).need (co C0.byteV) 6).byteV==0)||(((C0.bytesC 1).need (co C0.byteV) 6).byteV==255)) 6).bytesC 1).need ((((C0.bytesC 1).need (co C0.byteV) 6).byteV != 0)||(((((C0.bytesC 1).need (co C0.byteV) 6).bytesC 1).need ((((C0.bytesC 1).need (co C0.byteV) 6).byteV==0)||(((C0.bytesC 1).need (co C0.byteV) 6).byteV==255)) 6).byteV==0)) 6).bytesC 1).need ((kd != 4)||(((((((C0.bytesC 1).need (co C0.byteV) 6).bytesC 1).need ((((C0.bytesC 1).need (co C0.byteV) 6).byteV==0)||(((C0.bytesC 1).need (co C0.byteV) 6).byteV==255)) 6).bytesC 1).need ((((C0.bytesC 1).need (co C0.byteV) 6).byteV != 0)||(((((C0.bytesC 1).need (co C0.byteV) 6).bytesC 1).need ((((C0.bytesC 1).need (co C0.byteV) 6).byteV==0)||(((C0.bytesC 1).need (co C0.byteV) 6).byteV==255)) 6).byteV==0)) 6).byteV==1)) 5) []=(C,L):=by
     rw[← hobj,show((((((C0.bytesC 1).need (co C0.byteV) 6).bytesC 1).need ((((C0.bytesC 1).need (co C0.byteV) 6).byteV==0)||(((C0.bytesC 1).need (co C0.byteV) 6).byteV==255)) 6).bytesC 1).need ((((C0.bytesC 1).need (co C0.byteV) 6).byteV != 0)||(((((C0.bytesC 1).need (co C0.byteV) 6).bytesC 1).need ((((C0.bytesC 1).need (co C0.byteV) 6).byteV==0)||(((C0.bytesC 1).need (co C0.byteV) 6).byteV==255)) 6).byteV==0)) 6).byteV.toNat-k=0 from by omega]
     rfl
   exact h1
 rw[hf]
 exact⟨rfl,u,⟨_,⟨D,rfl⟩,⟨_,_,_,_,_,rfl,aT.nil ..,aT.nil ..,aT.nil ..,aT.nil ..,(a).rd,⟨(b8 (x:=c) (by omega)),(b8 (x:=0) (by omega)),(cM (x:=0) (by omega)),(cM (x:=0) (by omega)),(cM (x:=0) (by omega)),(cM (x:=0) (by omega)),(cM (x:=0) (by omega)),(cM (x:=0) (by omega)),(cM (x:=0) (by omega)),(cM (x:=0) (by omega)),(cM (x:=0) (by omega)),(cM (x:=0) (by omega)),(b8 (x:=me) (by omega)),(b8 (x:=kd) (by omega)),(b8 (x:=C0.byteV) (by omega)),(b8 (x:=((C0.bytesC 1).need (co C0.byteV) 6).byteV) (by omega)),(b8 (x:=((((C0.bytesC 1).need (co C0.byteV) 6).bytesC 1).need ((((C0.bytesC 1).need (co C0.byteV) 6).byteV==0)||(((C0.bytesC 1).need (co C0.byteV) 6).byteV==255)) 6).byteV) (by omega))⟩⟩⟩,(ui b (ui al (ui an (ui f (ui aw (ui h (ui aK (ui i v))))))))⟩
open Go.RowKit
def dF (C:ap) : ap:=(C.bytesC 1).need (C.byteV==13 || C.byteV==14) 8
def ga (C:ap) : ap:=(dF C).need (decide (((dF C).l.length:Int)≤251)) 5
def eG (C:ap) : ap:=((dF C).bytesC 1).need (decide (1≤(dF C).byteV)&&decide ((dF C).byteV≤4)) 6
def bJ (dir c:Int)(C:ap) : Option (ap × aS) :=
  if c != 43 then none
  else if C.byteV==13 then some ((ga C).bytesC ((ga C).l.length:Int),{ aS.zero with code:=c,mei:=C.byteV,data:=(ga C).bytesR ((ga C).l.length:Int) })
  else if dir==1 then some ((dN (dF C).byteV (eG C)).1,{ aS.zero with code:=c,mei:=C.byteV,kind:=(dF C).byteV,level:=(eG C).byteV,more:=(m9 (eG C)).byteV,next:=(mc (eG C)).byteV,objects:=(dN (dF C).byteV (eG C)).2 })
  else some ((eG C).bytesC 1,{ aS.zero with code:=c,mei:=C.byteV,kind:=(dF C).byteV,next:=(eG C).byteV })
theorem sS(hcode:B8 c)(hsl:aV m w (.slice A b.length cp) b)(hb:b.length≤1048576) :
    Calls Tryz.prog 104 #[vI 0,vB c,.slice A b.length cp] w (eN (ak bJ 0 c b) w):=by
 obtain⟨hcode1,hcode2⟩:=hcode
 have hln:(b.length:Int)≤1048576:=by omega
 refine en 81 Tryz.func104 rfl<|sg<|aK mZ fun S bo v p y=>ah 1<|sq<|bk<|aB 7<|c0<|aB 3<|cb ((c != 43)) (fun f=>?_) (fun f=>?_)
 have ac:=aA f
 refine aq 1<|aG p mZ fun bp ad ae=>ah 1<|rt<|br<|tr<|ck ad (vI 4)<|?_
 exact cI (by unfold ak bJ ga eG dF;(try simp only[f,bi,ea,ed,e9,eb,ec,reduceIte])<;>rfl) (cQ (ud y ae v))
 have ac:=aF f
 refine sk<|bn<|tn<|aq 1<|?_
 refine ay<|e3 (er (aV.old hsl y) (by omega)) fun g bs T z U=>Pl 1<|aL 2<|ay<|m3 (bX z) fun bt af q bv=>Pl 1<|aK mZ fun h bw i al am=>aG al (mG c 0 0 0 0 0 0 0 0 0 0 0 nS nS nS nS ((ap.mk b false 0).byteV) 0 0 0 0 nS) fun bx B an=>nt<|sq<|go<|Pl 2<|aC B 16<|Pl 2<|cu 4 [33] 37 (((((ap.mk b false 0).byteV)==13)||(((ap.mk b false 0).byteV)==14))) (fun K V=>?_) ?_
 refine bl 33 ((((ap.mk b false 0).byteV)==13)) (fun j=>?_) (fun j=>?_)
 have ao:=ag j
 exact Pl 4<|ce V true (by rw[j];rfl)
 have ao:=ai j
 exact Pl 1<|L1<|dQ B 16<|Pl 2<|ce V (((ap.mk b false 0).byteV)==14) (by rw[j];rfl)
 have D:=ud am an i
 refine ay<|m2 (bq (((((ap.mk b false 0).byteV)==13)||(((ap.mk b false 0).byteV)==14))) 8 (aj.old af D)) fun ar au E=>?_
 refine ab au fun x45 r s=>?_
 refine nt<|A7 (fun x=>[(6,vP S 0),(7,vI 0),(8,vP g 0),(9,vP h 0)]) (fun(x:ap × Array Value × aS) w'=>aI [g,h] ar w'∧aj w' g x.1∧w'.heap[h]? = some (.cells x.2.1 45 (0,0))∧aH true w' x.2.1.toList x.2.2∧(ak bJ 0 c b=bC x.2.2 x.1)) ?_ ?_
 rintro⟨C,cs,M⟩ F ⟨W,aw,ax,az,aD⟩
 refine gi [(6,vP S 0),(7,vI 0),(8,vP g 0),(9,vP h 0)] ?_
 have X:aj F g C:=aw
 have aN:F.heap[h]? = some (.cells cs 45 (0,0)):=ax
 have t:aH true F cs.toList M:=az
 have G:=aH.size t
 have Y:ak bJ 0 c b=bC M C:=aD
 refine aq 1<|ay<|m2 (fk X) fun bz Z H=>nt<|sq<|aq 1<|ay<|mq (cT Z)<|?_
 have bA:=aj.len Z
 refine Pl 1<|dk 2<|?_
 have I:=ud U (u1 q (ue D (ui E (u1 W H im)) i) im) T
 have a0:=aJ y I
 refine cb ((C.endC.e != 0)) (fun J=>?_) (fun J=>?_)
 have L:=aA J
 refine aq 2<|?_
 refine aG (ub I p) mZ fun bB aO aP=>ah 1<|b6<|ck aO (vI C.endC.e)<|?_
 subst r
 rw[Y]
 exact dL L (ud a0 aP v)
 have L:=aF J
 refine bu<|sg<|?_
 refine L0<|cm (hz:=(by rw[G];exact aQ)) (bj H (Ne.symm (nb (aj.lt z) q.size i)) aN)<|?_
 refine aG (hz:=(by rw[G];exact aQ)) (hv:=t.size) (h1:=t.one) (ub I p) (cs) fun bD aR a1=>ah 1<|rt<|fO 22 G aR (vI 0)<|?_
 subst r
 rw[Y]
 exact el L (aH.upd t (us H a1) (av (aj.safe X _ (by decide)) (av (b9 (ub (ud U (u1 q (ue D (ui E W) i) im) T) p) (by decide)) aM))) (ud a0 a1 v)
 refine aq 1<|?_
 have a:=nb (aj.lt z) q.size i
 have N:=bj E (Ne.symm a) B
 refine aC N 16<|ah 1<|cb ((((ap.mk b false 0).byteV)==13)) (fun k=>?_) (fun k=>?_)
 have aU:=ag k
 refine aq 2<|ay<|mq (eO s)<|?_
 have bE:=aj.len s
 refine Pl 1<|ay<|m2 (bq ((decide ((x45.l.length:Int)≤251))) 5 s) fun bF aW aX=>?_
 refine ab aW fun d aY u=>?_
 refine nt<|go<|Pl 2<|ay<|mq (eO u)<|?_
 have bG:=aj.len u
 refine ay<|vD (cK (n:=(d.l.length:Int)) u) fun aZ b0 bH b1 bI bK b2 b3=>?_
 have bL:=Nat.le_trans (ap.bytesR_le d (d.l.length:Int)) (aj.len u)
 refine ab b2 fun b4 b5 b7=>?_
 refine Pl 1<|?_
 have a2:=u1 aX b3 im
 have O:=bj a2 (Ne.symm a) N
 refine L0<|bY O 14 (mG c 0 0 0 0 0 0 0 0 0 0 0 nS nS (.slice aZ ((d.bytesR (d.l.length:Int)).length) b0) nS ((ap.mk b false 0).byteV) 0 0 0 0 nS) fun bM b8 P=>nl<|?_
 exact jn (b4,_,(aS.mk c 0 0 0 0 0 0 0 0 0 0 0 [] [] (d.bytesR (d.l.length:Int)) [] ((ap.mk b false 0).byteV) 0 0 0 0 [])) ⟨(us a2 P),(aj.upd b7 P (aa a aE) (av (b9 O (by decide)) aM)),b8,⟨_,_,_,_,_,rfl,aT.nil ..,aT.nil ..,(aV.upd' b1 P (av (b9 O (by decide)) aM)),aT.nil ..,aT.nil ..,(cP (by omega))⟩,by subst b5 aY r;unfold ak bJ ga eG dF;(try simp only[f,k,bi,ea,ed,e9,eb,ec,reduceIte])<;>rfl⟩
 have aU:=ai k
 refine aq 1<|ay<|m3 (bX s) fun bN ba a3 bO=>Pl 1<|?_
 have a4:=bj a3 (Ne.symm a) N
 refine L0<|bY a4 17 (mG c 0 0 0 0 0 0 0 0 0 0 0 nS nS nS nS ((ap.mk b false 0).byteV) x45.byteV 0 0 0 nS) fun bP Q a5=>aL 2<|aC Q 17<|Pl 2<|cu 4 [59] 63 (((decide (1≤x45.byteV))&&(decide (x45.byteV≤4)))) (fun K a6=>?_) ?_
 refine bl 59 ((decide (1≤x45.byteV))) (fun o=>?_) (fun o=>?_)
 have bb:=of_decide_eq_true o
 exact Pl 1<|L1<|dQ Q 17<|Pl 2<|ce a6 (decide (x45.byteV≤4)) (by rw[o];rfl)
 have bb:=of_decide_eq_false o
 exact Pl 4<|ce a6 false (by rw[o];rfl)
 refine ay<|m2 (bq (((decide (1≤x45.byteV))&&(decide (x45.byteV≤4)))) 6 (aj.upd ba a5 (aa a aE) (av (b9 a4 (by decide)) aM))) fun bQ bc bd=>?_
 refine ab bc fun R be bf=>?_
 refine dk 2<|c0<|go<|Pl 1<|ay<|m3 (bX bf) fun bR bg bh bS=>Pl 1<|?_
 have a7:=u1 bd bh im
 have a8:=bj a7 (Ne.symm a) Q
 refine L0<|bY a8 20 (mG c 0 0 0 0 0 0 0 0 0 0 0 nS nS nS nS ((ap.mk b false 0).byteV) x45.byteV 0 0 R.byteV nS) fun bT bm a9=>nl<|?_
 exact jn ((R.bytesC 1),_,(aS.mk c 0 0 0 0 0 0 0 0 0 0 0 [] [] [] [] ((ap.mk b false 0).byteV) x45.byteV 0 0 R.byteV [])) ⟨(ui a3 (ui a5 (us a7 a9))),(aj.upd bg a9 (aa a aE) (av (b9 a8 (by decide)) aM)),bm,⟨_,_,_,_,_,rfl,aT.nil ..,aT.nil ..,aT.nil ..,aT.nil ..,aT.nil ..,(cP (by omega))⟩,by subst be r;unfold ak bJ ga eG dF;(try simp only[f,k,bi,ea,ed,e9,eb,ec,reduceIte])<;>rfl⟩
theorem qP(hcode:B8 c)(hsl:aV m w (.slice A b.length cp) b)(hb:b.length≤1048576) :
    Calls Tryz.prog 104 #[vI 1,vB c,.slice A b.length cp] w (eN (ak bJ 1 c b) w):=by
 obtain⟨hcode1,hcode2⟩:=hcode
 have hln:(b.length:Int)≤1048576:=by omega
 refine en 81 Tryz.func104 rfl<|sg<|aK mZ fun S bo y q z=>ah 1<|sq<|bk<|aB 7<|c0<|aB 3<|cb ((c != 43)) (fun f=>?_) (fun f=>?_)
 have a8:=aA f
 refine aq 1<|aG q mZ fun bp a9 ac=>ah 1<|rt<|br<|tr<|ck a9 (vI 4)<|?_
 exact cI (by unfold ak bJ ga eG dF;(try simp only[f,bi,ea,ed,e9,eb,ec,reduceIte])<;>rfl) (cQ (ud z ac y))
 have a8:=aF f
 refine sk<|bn<|tn<|aq 1<|?_
 refine ay<|e3 (er (aV.old hsl z) (by omega)) fun g bs T B U=>Pl 1<|aL 2<|ay<|m3 (bX B) fun bt ad r bv=>Pl 1<|aK mZ fun h bw i ae af=>aG ae (mG c 0 0 0 0 0 0 0 0 0 0 0 nS nS nS nS ((ap.mk b false 0).byteV) 0 0 0 0 nS) fun bx D al=>nt<|sq<|go<|Pl 2<|aC D 16<|Pl 2<|cu 4 [33] 37 (((((ap.mk b false 0).byteV)==13)||(((ap.mk b false 0).byteV)==14))) (fun K V=>?_) ?_
 refine bl 33 ((((ap.mk b false 0).byteV)==13)) (fun j=>?_) (fun j=>?_)
 have am:=ag j
 exact Pl 4<|ce V true (by rw[j];rfl)
 have am:=ai j
 exact Pl 1<|L1<|dQ D 16<|Pl 2<|ce V (((ap.mk b false 0).byteV)==14) (by rw[j];rfl)
 have E:=ud af al i
 refine ay<|m2 (bq (((((ap.mk b false 0).byteV)==13)||(((ap.mk b false 0).byteV)==14))) 8 (aj.old ad E)) fun an ao F=>?_
 refine ab ao fun x45 s t=>?_
 refine nt<|A7 (fun x=>[(6,vP S 0),(7,vI 0),(8,vP g 0),(9,vP h 0)]) (fun(x:ap × Array Value × aS) w'=>aI [g,h] an w'∧aj w' g x.1∧w'.heap[h]? = some (.cells x.2.1 45 (0,0))∧aH true w' x.2.1.toList x.2.2∧(ak bJ 1 c b=bC x.2.2 x.1)) ?_ ?_
 rintro⟨C,cs,M⟩ G ⟨W,ar,au,aw,ax⟩
 refine gi [(6,vP S 0),(7,vI 0),(8,vP g 0),(9,vP h 0)] ?_
 have X:aj G g C:=ar
 have az:G.heap[h]? = some (.cells cs 45 (0,0)):=au
 have u:aH true G cs.toList M:=aw
 have H:=aH.size u
 have Y:ak bJ 1 c b=bC M C:=ax
 refine aq 1<|ay<|m2 (fk X) fun bz Z I=>nt<|sq<|aq 1<|ay<|mq (cT Z)<|?_
 have bA:=aj.len Z
 refine Pl 1<|dk 2<|?_
 have J:=ud U (u1 r (ue E (ui F (u1 W I im)) i) im) T
 have a0:=aJ z J
 refine cb ((C.endC.e != 0)) (fun L=>?_) (fun L=>?_)
 have N:=aA L
 refine aq 2<|?_
 refine aG (ub J q) mZ fun bB aD aN=>ah 1<|b6<|ck aD (vI C.endC.e)<|?_
 subst s
 rw[Y]
 exact dL N (ud a0 aN y)
 have N:=aF L
 refine bu<|sg<|?_
 refine L0<|cm (hz:=(by rw[H];exact aQ)) (bj I (Ne.symm (nb (aj.lt B) r.size i)) az)<|?_
 refine aG (hz:=(by rw[H];exact aQ)) (hv:=u.size) (h1:=u.one) (ub J q) (cs) fun bD aO a1=>ah 1<|rt<|fO 22 H aO (vI 0)<|?_
 subst s
 rw[Y]
 exact el N (aH.upd u (us I a1) (av (aj.safe X _ (by decide)) (av (b9 (ub (ud U (u1 r (ue E (ui F W) i) im) T) q) (by decide)) aM))) (ud a0 a1 y)
 refine aq 1<|?_
 have a:=nb (aj.lt B) r.size i
 have O:=bj F (Ne.symm a) D
 refine aC O 16<|ah 1<|cb ((((ap.mk b false 0).byteV)==13)) (fun k=>?_) (fun k=>?_)
 have aP:=ag k
 refine aq 2<|ay<|mq (eO t)<|?_
 have bE:=aj.len t
 refine Pl 1<|ay<|m2 (bq ((decide ((x45.l.length:Int)≤251))) 5 t) fun bF aR aU=>?_
 refine ab aR fun d aW v=>?_
 refine nt<|go<|Pl 2<|ay<|mq (eO v)<|?_
 have bG:=aj.len v
 refine ay<|vD (cK (n:=(d.l.length:Int)) v) fun aX aY bH aZ bI bK b0 b1=>?_
 have bL:=Nat.le_trans (ap.bytesR_le d (d.l.length:Int)) (aj.len v)
 refine ab b0 fun b2 b3 b4=>?_
 refine Pl 1<|?_
 have a2:=u1 aU b1 im
 have P:=bj a2 (Ne.symm a) O
 refine L0<|bY P 14 (mG c 0 0 0 0 0 0 0 0 0 0 0 nS nS (.slice aX ((d.bytesR (d.l.length:Int)).length) aY) nS ((ap.mk b false 0).byteV) 0 0 0 0 nS) fun bM b5 Q=>nl<|?_
 exact jn (b2,_,(aS.mk c 0 0 0 0 0 0 0 0 0 0 0 [] [] (d.bytesR (d.l.length:Int)) [] ((ap.mk b false 0).byteV) 0 0 0 0 [])) ⟨(us a2 Q),(aj.upd b4 Q (aa a aE) (av (b9 P (by decide)) aM)),b5,⟨_,_,_,_,_,rfl,aT.nil ..,aT.nil ..,(aV.upd' aZ Q (av (b9 P (by decide)) aM)),aT.nil ..,aT.nil ..,(cP (by omega))⟩,by subst b3 aW s;unfold ak bJ ga eG dF;(try simp only[f,k,bi,ea,ed,e9,eb,ec,reduceIte])<;>rfl⟩
 have aP:=ai k
 refine aq 1<|ay<|m3 (bX t) fun bN b7 a3 bO=>Pl 1<|?_
 have a4:=bj a3 (Ne.symm a) O
 refine L0<|bY a4 17 (mG c 0 0 0 0 0 0 0 0 0 0 0 nS nS nS nS ((ap.mk b false 0).byteV) x45.byteV 0 0 0 nS) fun bP R a5=>aL 2<|aC R 17<|Pl 2<|cu 4 [59] 63 (((decide (1≤x45.byteV))&&(decide (x45.byteV≤4)))) (fun K a6=>?_) ?_
 refine bl 59 ((decide (1≤x45.byteV))) (fun o=>?_) (fun o=>?_)
 have ba:=of_decide_eq_true o
 exact Pl 1<|L1<|dQ R 17<|Pl 2<|ce a6 (decide (x45.byteV≤4)) (by rw[o];rfl)
 have ba:=of_decide_eq_false o
 exact Pl 4<|ce a6 false (by rw[o];rfl)
 refine ay<|m2 (bq (((decide (1≤x45.byteV))&&(decide (x45.byteV≤4)))) 6 (aj.upd b7 a5 (aa a aE) (av (b9 a4 (by decide)) aM))) fun bQ bb a7=>?_
 refine ab bb fun p bc bd=>?_
 refine dk 2<|c1<|go<|Pl 1<|?_
 refine ay<|m3 (u9 (c:=c) (me:=(ap.mk b false 0).byteV) (kd:=x45.byteV) ⟨hcode1,hcode2⟩ (b8 (by omega)) (b8 (by omega)) bd (bj a7 (Ne.symm a) R) a) fun bR be bf bg=>?_
 obtain⟨bS,bh,bm⟩:=bf
 refine nl<|?_
 exact jn ((dN x45.byteV p).1,_,{ aS.zero with code:=c,mei:=(ap.mk b false 0).byteV,kind:=x45.byteV,level:=p.byteV,more:=(m9 p).byteV,next:=(mc p).byteV,objects:=(dN x45.byteV p).2 }) ⟨(ui a3 (ui a5 (ui a7 bg))),be,bh.1,bm,by subst bc s;unfold ak bJ ga eG dF;(try simp only[f,k,bi,ea,ed,e9,eb,ec,reduceIte])<;>rfl⟩
theorem qV(hcode:B8 c)(hsl:aV m w (.slice A b.length cp) b)(hb:b.length≤1048576)(hd:¬ (dir=0∨dir=1)) :
    Calls Tryz.prog 104 #[vI dir,vB c,.slice A b.length cp] w (eN (ak bJ dir c b) w):=by
 obtain⟨hcode1,hcode2⟩:=hcode
 have hln:(b.length:Int)≤1048576:=by omega
 have e0:(dir != 0)=true:=by simp;omega
 have e1:(dir != 1)=true:=by simp;omega
 refine en 81 Tryz.func104 rfl<|sg<|aK mZ fun g h a d e=>ah 1<|sq<|bk<|aq 3<|sy 14 e0<|Pl 4<|nl<|tn<|ct e1<|aq 1<|aG d mZ fun i eR f=>ah 1<|rt<|br<|tr<|ck eR (vI 1)<|?_
 exact cI (by unfold ak bJ ga eG dF;(try simp only[e0,e1,bi,ea,ed,e9,eb,ec,reduceIte,hd])<;>rfl) (cQ (ud e f a))
theorem pn(hc:B8 c)(h:aV m w v b)(hb:b.length≤1048576) :
    Calls Tryz.prog 104 #[.int .i64 dir,.int .u8 c,v] w (eN (ak bJ dir c b) w):=by
  obtain⟨A,cp,rfl,_,_⟩:=h.shape
  by_cases h0:dir=0
  · subst h0;exact sS hc h hb
  by_cases h1:dir=1
  · subst h1;exact qP hc h hb
  exact qV hc h hb (by omega)
end Go.Proofs.YtdkhbcefkfgbdaaGreat
