/- Contracts of functions, part CAduTurns2. -/
import Derived.Test.YtdkhbcefkfgbdaaGreatCAduTurns1
import Derived.Laws.BytesArg
import Derived.Stop.BytesEq
import Derived.Laws.BitsAllLaws
set_option linter.unusedVariables false
set_option linter.unusedSimpArgs false
set_option maxRecDepth 100000
set_option maxHeartbeats 4000000
namespace Go.Proofs.YtdkhbcefkfgbdaaGreat
open Go.RowKit
variable {A:Option Addr}{B:aT}{C:ai}{b xs:List Int}{bc bm bw cp g gm:Nat}{c dir most:Int}{cs:List Value}{m m':Md}{u v:Value}{w w':World}{α:Type}
def cM (dir:Int)(M:aT) : List Int :=
  if M.code==5 then aP [M.addr,M.value]
  else if M.code==15&&dir==0 then ((aP [M.addr,M.count]++[((bZ M.bits).length:Int)%256])++bZ M.bits)
  else if dir==1&&M.code != 15 then [(M.data.length:Int)%256]++M.data
  else aP [M.addr,M.count]
theorem wD{cs:Array Value}{M:aT}   (h:aI m w cs.toList M)(hf:bi M) : Calls Tryz.prog 147 #[vI dir,.agg cs] w (jQ (cM dir M) w):=by
 refine fE h fun Aw kw Ab kb Ad kd Ar kr Ao ko e hw hbt hd hr ho _ _ _ _ _ _ _ _ _ _ q0 q1 q2 q3 q4 q5 q6 q7 q8 q9 an ao ar au av aw aA=>?_
 subst e
 have hf1:=hf.words
 have hf2:=hf.bits
 have hf3:=hf.data
 have hf4:=hf.recs
 have hf5:=hf.objects
 refine en 62 Tryz.func147 rfl<|sg<|L0<|da (mG M.code M.fail M.addr M.count M.value M.and_ M.or_ M.addr2 M.sub M.status M.events M.messages (.slice Aw M.words.length kw) (.slice Ab M.bits.length kb) (.slice Ad M.data.length kd) (.slice Ar M.recs.length kr) M.mei M.kind M.level M.more M.next (.slice Ao M.objects.length ko)) fun aD aG aK a b=>ah 1<|sq<|bk<|ak 1<|aE a 0<|Pl 2<|nl<|tn<|cb ((M.code==5)) (fun c=>?_) (fun c=>?_)
 have H:=ag c
 refine ak 1<|aE a 2<|Pl 1<|aE a 4<|L0<|d9 (m:=2) (e:=37) #[vW M.addr,vW M.value] fun aL aN I J p=>?_
 have L:=eJ I (xs:=[M.addr,M.value]) (by as_aux_lemma=>kernel_rfl) (ap (by omega) (ap (by omega) aR)) (by(try simp only[List.length_cons,List.length_nil]);omega) J
 refine ay<|e9 (cZ (xs:=[M.addr,M.value]) (L).rd (by(try simp only[List.length_cons,List.length_nil]);omega)) fun N O aO P aQ aS Q=>ah 1<|rt<|br<|tr<|rr (.slice N ((aP ([M.addr,M.value])).length) O)<|?_
 have hs:cM dir M=(aP ([M.addr,M.value])):=by
   unfold cM
   (try simp only[c,bj,reduceIte])
   all_goals first | rfl | (simp_all;done)
 rw[hs]
 exact⟨_,rfl,(b7.weaken P (le b.size p.size)),(aJ b (aJ p Q))⟩
 have H:=am c
 refine ak 1<|aE a 0<|Pl 2<|cu 3 [20] 23 (((M.code==15)&&(dir==0))) (fun K q=>?_) ?_
 refine bl 20 ((M.code==15)) (fun f=>?_) (fun f=>?_)
 have R:=ag f
 exact Pl 3<|ce q (dir==0) (by rw[f];rfl)
 have R:=am f
 exact Pl 3<|ce q false (by rw[f];rfl)
 refine ah 1<|cb (((M.code==15)&&(dir==0))) (fun d=>?_) (fun d=>?_)
 have r:=(bB d).1
 have s:=(bB d).2
 have aV:=ag r
 have aW:=ag s
 refine ak 1<|aE a 13<|?_
 refine ay<|e9 (xK (l:=M.bits) (jb.old hbt b) (by omega)) fun aY aZ b0 S b1 b2 j=>?_
 have b3:=zl M.bits
 refine Pl 1<|aM 1<|?_
 have t:=ub j a
 refine aE t 2<|Pl 1<|aE t 3<|L0<|d9 (m:=2) (e:=37) #[vW M.addr,vW M.count] fun b4 b5 T U k=>?_
 have V:=eJ T (xs:=[M.addr,M.count]) (by as_aux_lemma=>kernel_rfl) (ap (by omega) (ap (by omega) aR)) (by(try simp only[List.length_cons,List.length_nil]);omega) U
 refine ay<|e9 (cZ (xs:=[M.addr,M.count]) (V).rd (by(try simp only[List.length_cons,List.length_nil]);omega)) fun W b6 b8 u ba bb v=>Pl 3<|L0<|d9 (m:=1) (e:=5) #[vB (((bZ M.bits).length:Int)%256)] fun bc bd X Y n=>?_
 have Z:=cL X (xs:=[(((bZ M.bits).length:Int)%256)]) (by as_aux_lemma=>kernel_rfl) (ap (by omega) aR) (by(try simp only[List.length_cons,List.length_nil]);omega) Y
 refine L0<|bS b9 (xs:=(aP ([M.addr,M.count]))) (ys:=([(((bZ M.bits).length:Int)%256)])) (vB 0) 1 (ax u n (fun x hx=>aF) (fun _ _ h=>h)) (Z).rd (by(try simp only[bV,aB]);omega) (le v.size n.size) fun be bf bg y a0=>Pl 1<|?_
 have z:=ut v (ut (aH.mono (S':=(ob W++[])) n aC) a0 (aq il aC)) (aq (aU u lr) aC)
 have A:=aJ k z
 refine L0<|bS b9 (xs:=((aP ([M.addr,M.count]))++[(((bZ M.bits).length:Int)%256)])) (ys:=(bZ M.bits)) (vB 0) 1 y ((ax S A (fun x hx=>aF) (fun _ _ h=>h))).rd (by(try simp only[bV,aB]);omega) z.size fun a1 a2 bh a3 a4=>ah 1<|rt<|br<|tr<|rr (.slice a1 ((((aP ([M.addr,M.count]))++[(((bZ M.bits).length:Int)%256)])++(bZ M.bits)).length) a2)<|?_
 have hs:cM dir M=(((aP ([M.addr,M.count]))++[(((bZ M.bits).length:Int)%256)])++(bZ M.bits)):=by
   unfold cM
   (try simp only[c,d,r,s,bj,reduceIte])
   all_goals first | rfl | (simp_all;done)
 rw[hs]
 exact⟨_,rfl,(b7.weaken a3 (le (le b.size j.size) k.size)),(aJ b (aJ j (ut A a4 (aq (aU y k.size) aC))))⟩
 refine ak 3<|cu 4 [43] 47 (((dir==1)&&(M.code != 15))) (fun K B=>?_) ?_
 refine bl 43 ((dir==1)) (fun g=>?_) (fun g=>?_)
 have a5:=ag g
 exact Pl 1<|L1<|dX a 0<|Pl 2<|ce B (M.code != 15) (by rw[g];rfl)
 have a5:=am g
 exact Pl 4<|ce B false (by rw[g];rfl)
 refine ah 1<|cb (((dir==1)&&(M.code != 15))) (fun i=>?_) (fun i=>?_)
 have C:=(bB i).1
 have D:=(bB i).2
 have bm:=ag C
 have bo:=az D
 refine ak 1<|aE a 14<|Pl 2<|L0<|d9 (m:=1) (e:=5) #[vB ((M.data.length:Int)%256)] fun bp bq a6 a7 o=>?_
 have E:=cL a6 (xs:=[((M.data.length:Int)%256)]) (by as_aux_lemma=>kernel_rfl) (ap (by omega) aR) (by(try simp only[List.length_cons,List.length_nil]);omega) a7
 refine Pl 1<|?_
 refine aE (ub o a) 14<|?_
 have F:=aJ b o
 refine L0<|bS b9 (xs:=([((M.data.length:Int)%256)])) (ys:=M.data) (vB 0) 1 E (aX.old hd F) (by(try simp only[bV,aB]);omega) o.size fun a8 a9 bs aa ab=>ah 1<|rt<|br<|tr<|rr (.slice a8 (([((M.data.length:Int)%256)]++M.data).length) a9)<|?_
 have hs:cM dir M=([((M.data.length:Int)%256)]++M.data):=by
   unfold cM
   (try simp only[c,d,i,C,D,bj,reduceIte])
   all_goals first | rfl | (simp_all;done)
 rw[hs]
 exact⟨_,rfl,(b7.weaken aa b.size),(ut F ab (aq (aU E b.size) aC))⟩
 refine sk<|bn<|tn<|ak 1<|aE a 2<|Pl 1<|aE a 3<|L0<|d9 (m:=2) (e:=37) #[vW M.addr,vW M.count] fun bt bu ac ad G=>?_
 have ae:=eJ ac (xs:=[M.addr,M.count]) (by as_aux_lemma=>kernel_rfl) (ap (by omega) (ap (by omega) aR)) (by(try simp only[List.length_cons,List.length_nil]);omega) ad
 refine ay<|e9 (cZ (xs:=[M.addr,M.count]) (ae).rd (by(try simp only[List.length_cons,List.length_nil]);omega)) fun af ai bv aj bw bx al=>ah 1<|rt<|rr (.slice af ((aP ([M.addr,M.count])).length) ai)<|?_
 have hs:cM dir M=(aP ([M.addr,M.count])):=by
   unfold cM
   (try simp only[c,d,i,bj,reduceIte])
   all_goals first | rfl | (simp_all;done)
 rw[hs]
 exact⟨_,rfl,(b7.weaken aj (le b.size G.size)),(aJ b (aJ G al))⟩
open Go.RowKit
def ej (x:Bool)(w:World)(e:Ending)(w':World) : Prop:=e = .returned (.bool x)∧aH [] w w'
theorem oL[DecidableEq α]{xs ys:List α}{d:α}(h:xs.length=ys.length){k:Nat}(hk:k<xs.length)(hp:xs.take k=ys.take k)(hx:xs.getD k d=ys.getD k d) : xs.take (k+1)=ys.take (k+1):=by
  rw[List.take_add_one,List.take_add_one,hp]
  simp only[List.getD_eq_getElem?_getD,List.getElem?_eq_getElem hk,List.getElem?_eq_getElem (h▸hk),Option.getD_some] at hx
  simp[List.getElem?_eq_getElem hk,List.getElem?_eq_getElem (h▸hk),hx]
theorem wq[DecidableEq α]{xs ys:List α}{d:α}(k:Nat)(hx:xs.getD k d≠ys.getD k d) : xs≠ys:=fun h=>hx (by rw[h])
theorem ve{ys:List Int}  (hx:eG m w u xs)(hy:eG m' w v ys) : Calls Tryz.prog 133 #[u,v] w (ej (decide (xs=ys)) w):=by
  have hhx:=hx
  have hhy:=hy
  obtain⟨A,c,rfl,hc1,hc2⟩:=hx.shape
  obtain⟨B,c',rfl,jf,jP⟩:=hy.shape
  have hn:xs.length≤9223372036854775807:=by have:=hc2;unfold maxLen at this;omega
  by_cases hl:xs.length=ys.length
  case neg =>
    have hno:∀ W,aH [] w W→ej (decide (xs=ys)) w (.returned (.bool false)) W:=by
      intro W hW
      rw[decide_eq_false (fun h=>hl (by rw[h]))]
      exact⟨rfl,hW⟩
    have hli:((xs.length:Int)!=(ys.length:Int))=true:=by simp;omega
    clear hx hy hhx hhy hl
    go_enter Tryz.func133,Tryz.ntmps133
    go_wp2
    go_ret
    exact hno _ (aH.refl _ _)
  have hno:∀ W k,xs.getD k 0≠ys.getD k 0→aH [] w W→ej (decide (xs=ys)) w (.returned (.bool false)) W:=by
    intro W k hk hW
    rw[decide_eq_false (wq k hk)]
    exact⟨rfl,hW⟩
  have hyes:∀ W,xs.take xs.length=ys.take xs.length→aH [] w W→ej (decide (xs=ys)) w (.returned (.bool true)) W:=by
    intro W hk hW
    rw[List.take_length,hl,List.take_length] at hk
    rw[decide_eq_true hk]
    exact⟨rfl,hW⟩
  revert hno hyes
  generalize ej (decide (xs=ys)) w=P
  intro hno hyes
  have hli:((xs.length:Int)!=(ys.length:Int))=false:=by simp;omega
  have hL:=Lib.hid hl
  clear hx hy hl
  go_enter Tryz.func133,Tryz.ntmps133
  go_wp2
  go_loopw [13] (fun i wr=>∃ k:Nat,k≤xs.length∧i = .int .i64 (k:Int)∧xs.take k=ys.take k∧aH [] w wr) (fun i _=>xs.length-(intOf i).toNat)
  case atStart=>exact⟨0,by omega,rfl,by simp,aH.refl _ _⟩
  case round =>
    obtain⟨k,hk,rfl,hpre,hu⟩:=hrel
    by_cases hlt:k<xs.length
    · obtain⟨b,off,rfl,cw0,hr0⟩:=eG.at_ hhx k hlt
      obtain⟨b',off',rfl,cw1,hr1⟩:=eG.at_ hhy k (by have:=hL.out;omega)
      have hlt':k<ys.length:=by have:=hL.out;omega
      have hstep:=fun h=>oL (d:=0) hL.out hlt hpre h
      have hno':=fun W h=>hno W k h
      revert cw0 cw1 hstep hno' hr0 hr1
      generalize xs.getD k 0=x0
      generalize ys.getD k 0=y0
      intro cw0 hr0 cw1 hr1 hstep hno'
      have hc0:=hu.cell (by simp) cw0
      have hc1:=hu.cell (by simp) cw1
      have hstep:=Lib.hid hstep
      have hno':=Lib.hid hno'
      clear cw0 cw1 hhx hhy hpre hno hyes
      have hc0:wr.drew.cell? ⟨b,off+k,none⟩=some (.int .u16 x0):=hc0
      have hc1:wr.drew.cell? ⟨b',off'+k,none⟩=some (.int .u16 y0):=hc1
      go_wp2
      refine rq (S:=fun w'=>w'.cell? ⟨b,off+k,none⟩=some (.int .u16 x0)∧w'.cell? ⟨b',off'+k,none⟩=some (.int .u16 y0)) (n:=9) #[false,false,false,false,false,false,false,false,false] (by kernel_rfl) rfl rfl ⟨hc0,hc1⟩ (fun hHeld=>?_)
      refine dP (i:=0) (N:=some 16) (v:=?_) (a':=?_) #[true,false,false,false,false,false,false,false,false] rfl rfl (by kernel_rfl) (fun _ _ _ h=>h) (Or.inl ⟨by rfl,?_⟩) hHeld ?_ ?_
      rotate_left
      · rintro w' ⟨hs0,hs1⟩
        go_simp
        with_reducible rfl
      rotate_left
      · simp only[Act.put,List.setIfInBounds_toArray,List.set_cons_zero,List.set_cons_succ]
        rfl
      refine dP (i:=1) (N:=some 17) (v:=?_) (a':=?_) #[true,true,false,false,false,false,false,false,false] rfl rfl (by kernel_rfl) (fun _ _ _ h=>h) (Or.inl ⟨by rfl,?_⟩) hHeld ?_ ?_
      rotate_left
      · rintro w' ⟨hs0,hs1⟩
        go_simp
        with_reducible rfl
      rotate_left
      · simp only[Act.put,List.setIfInBounds_toArray,List.set_cons_zero,List.set_cons_succ]
        rfl
      refine dP (i:=2) (N:=some 18) (v:=?_) (a':=?_) #[true,true,true,false,false,false,false,false,false] rfl rfl (by kernel_rfl) (fun _ _ _ h=>h) (Or.inl ⟨by rfl,?_⟩) hHeld ?_ ?_
      rotate_left
      · rintro w' ⟨hs0,hs1⟩
        go_simp
        with_reducible rfl
      rotate_left
      · simp only[Act.put,List.setIfInBounds_toArray,List.set_cons_zero,List.set_cons_succ]
        rfl
      refine dP (i:=3) (N:=some 19) (v:=?_) (a':=?_) #[true,true,true,true,false,false,false,false,false] rfl rfl (by kernel_rfl) (fun _ _ _ h=>h) (Or.inl ⟨by rfl,?_⟩) hHeld ?_ ?_
      rotate_left
      · rintro w' ⟨hs0,hs1⟩
        go_simp
        with_reducible rfl
      rotate_left
      · simp only[Act.put,List.setIfInBounds_toArray,List.set_cons_zero,List.set_cons_succ]
        rfl
      refine dP (i:=4) (N:=some 20) (v:=?_) (a':=?_) #[true,true,true,true,true,false,false,false,false] rfl rfl (by kernel_rfl) (fun _ _ _ h=>h) (Or.inl ⟨by rfl,?_⟩) hHeld ?_ ?_
      rotate_left
      · rintro w' ⟨hs0,hs1⟩
        go_simp
        with_reducible rfl
      rotate_left
      · simp only[Act.put,List.setIfInBounds_toArray,List.set_cons_zero,List.set_cons_succ]
        rfl
      refine dP (i:=5) (N:=some 21) (v:=?_) (a':=?_) #[true,true,true,true,true,true,false,false,false] rfl rfl (by kernel_rfl) (fun _ _ _ h=>h) (Or.inl ⟨by rfl,?_⟩) hHeld ?_ ?_
      rotate_left
      · rintro w' ⟨hs0,hs1⟩
        go_simp
        with_reducible rfl
      rotate_left
      · simp only[Act.put,List.setIfInBounds_toArray,List.set_cons_zero,List.set_cons_succ]
        rfl
      refine dP (i:=6) (N:=some 22) (v:=?_) (a':=?_) #[true,true,true,true,true,true,true,false,false] rfl rfl (by kernel_rfl) (fun _ _ _ h=>h) (Or.inl ⟨by rfl,?_⟩) hHeld ?_ ?_
      rotate_left
      · rintro w' ⟨hs0,hs1⟩
        go_simp
        with_reducible rfl
      rotate_left
      · simp only[Act.put,List.setIfInBounds_toArray,List.set_cons_zero,List.set_cons_succ]
        rfl
      refine dP (i:=7) (N:=some 23) (v:=?_) (a':=?_) #[true,true,true,true,true,true,true,true,false] rfl rfl (by kernel_rfl) (fun _ _ _ h=>h) (Or.inl ⟨by rfl,?_⟩) hHeld ?_ ?_
      rotate_left
      · rintro w' ⟨hs0,hs1⟩
        go_simp
        with_reducible rfl
      rotate_left
      · simp only[Act.put,List.setIfInBounds_toArray,List.set_cons_zero,List.set_cons_succ]
        rfl
      refine dP (i:=8) (N:=some 24) (v:=?_) (a':=?_) #[true,true,true,true,true,true,true,true,true] rfl rfl (by kernel_rfl) (fun _ _ _ h=>h) (Or.inl ⟨by rfl,?_⟩) hHeld ?_ ?_
      rotate_left
      · rintro w' ⟨hs0,hs1⟩
        go_simp
        with_reducible rfl
      rotate_left
      · simp only[Act.put,List.setIfInBounds_toArray,List.set_cons_zero,List.set_cons_succ]
        rfl
      refine uY (by kernel_rfl) ?_
      clear hc0 hc1 hHeld
      go_wp2
      · exact hno'.out _ (by simpa using (show(x0 != y0)=true by assumption)) (hu.drew)
      · go_roundw
        case rel=>exact⟨k+1,by omega,by go_num,hstep.out (by simpa using (show(x0 != y0)=false by assumption)),hu.drew⟩
        case measure=>simp[intOf];omega
    · have hj3:k=xs.length:=by omega
      have H3:=Lib.hid hj3
      rw[hj3] at hpre
      clear hj3 hhx hhy
      go_wp2
      exact hyes _ hpre hu
theorem BB{xs ys:List Bool}  (hx:jb m w u xs)(hy:jb m' w v ys) : Calls Tryz.prog 134 #[u,v] w (ej (decide (xs=ys)) w):=by
  have hhx:=hx
  have hhy:=hy
  obtain⟨A,c,rfl,hc1,hc2⟩:=hx.shape
  obtain⟨B,c',rfl,jf,jP⟩:=hy.shape
  have hn:xs.length≤9223372036854775807:=by have:=hc2;unfold maxLen at this;omega
  by_cases hl:xs.length=ys.length
  case neg =>
    have hno:∀ W,aH [] w W→ej (decide (xs=ys)) w (.returned (.bool false)) W:=by
      intro W hW
      rw[decide_eq_false (fun h=>hl (by rw[h]))]
      exact⟨rfl,hW⟩
    have hli:((xs.length:Int)!=(ys.length:Int))=true:=by simp;omega
    clear hx hy hhx hhy hl
    go_enter Tryz.func134,Tryz.ntmps134
    go_wp2
    go_ret
    exact hno _ (aH.refl _ _)
  have hno:∀ W k,xs.getD k false≠ys.getD k false→aH [] w W→ej (decide (xs=ys)) w (.returned (.bool false)) W:=by
    intro W k hk hW
    rw[decide_eq_false (wq k hk)]
    exact⟨rfl,hW⟩
  have hyes:∀ W,xs.take xs.length=ys.take xs.length→aH [] w W→ej (decide (xs=ys)) w (.returned (.bool true)) W:=by
    intro W hk hW
    rw[List.take_length,hl,List.take_length] at hk
    rw[decide_eq_true hk]
    exact⟨rfl,hW⟩
  revert hno hyes
  generalize ej (decide (xs=ys)) w=P
  intro hno hyes
  have hli:((xs.length:Int)!=(ys.length:Int))=false:=by simp;omega
  have hL:=Lib.hid hl
  clear hx hy hl
  go_enter Tryz.func134,Tryz.ntmps134
  go_wp2
  go_loopw [13] (fun i wr=>∃ k:Nat,k≤xs.length∧i = .int .i64 (k:Int)∧xs.take k=ys.take k∧aH [] w wr) (fun i _=>xs.length-(intOf i).toNat)
  case atStart=>exact⟨0,by omega,rfl,by simp,aH.refl _ _⟩
  case round =>
    obtain⟨k,hk,rfl,hpre,hu⟩:=hrel
    by_cases hlt:k<xs.length
    · obtain⟨b,off,rfl,cw0⟩:=jb.at_ hhx k hlt
      obtain⟨b',off',rfl,cw1⟩:=jb.at_ hhy k (by have:=hL.out;omega)
      have hlt':k<ys.length:=by have:=hL.out;omega
      have hstep:=fun h=>oL (d:=false) hL.out hlt hpre h
      have hno':=fun W h=>hno W k h
      revert cw0 cw1 hstep hno'
      generalize xs.getD k false=x0
      generalize ys.getD k false=y0
      intro cw0 cw1 hstep hno'
      have hc0:=hu.cell (by simp) cw0
      have hc1:=hu.cell (by simp) cw1
      have hstep:=Lib.hid hstep
      have hno':=Lib.hid hno'
      clear cw0 cw1 hhx hhy hpre hno hyes
      have hc0:wr.drew.cell? ⟨b,off+k,none⟩=some (.bool x0):=hc0
      have hc1:wr.drew.cell? ⟨b',off'+k,none⟩=some (.bool y0):=hc1
      go_wp2
      refine rq (S:=fun w'=>w'.cell? ⟨b,off+k,none⟩=some (.bool x0)∧w'.cell? ⟨b',off'+k,none⟩=some (.bool y0)) (n:=9) #[false,false,false,false,false,false,false,false,false] (by kernel_rfl) rfl rfl ⟨hc0,hc1⟩ (fun hHeld=>?_)
      refine dP (i:=0) (N:=some 16) (v:=?_) (a':=?_) #[true,false,false,false,false,false,false,false,false] rfl rfl (by kernel_rfl) (fun _ _ _ h=>h) (Or.inl ⟨by rfl,?_⟩) hHeld ?_ ?_
      rotate_left
      · rintro w' ⟨hs0,hs1⟩
        go_simp
        with_reducible rfl
      rotate_left
      · simp only[Act.put,List.setIfInBounds_toArray,List.set_cons_zero,List.set_cons_succ]
        rfl
      refine dP (i:=1) (N:=some 17) (v:=?_) (a':=?_) #[true,true,false,false,false,false,false,false,false] rfl rfl (by kernel_rfl) (fun _ _ _ h=>h) (Or.inl ⟨by rfl,?_⟩) hHeld ?_ ?_
      rotate_left
      · rintro w' ⟨hs0,hs1⟩
        go_simp
        with_reducible rfl
      rotate_left
      · simp only[Act.put,List.setIfInBounds_toArray,List.set_cons_zero,List.set_cons_succ]
        rfl
      refine dP (i:=2) (N:=some 18) (v:=?_) (a':=?_) #[true,true,true,false,false,false,false,false,false] rfl rfl (by kernel_rfl) (fun _ _ _ h=>h) (Or.inl ⟨by rfl,?_⟩) hHeld ?_ ?_
      rotate_left
      · rintro w' ⟨hs0,hs1⟩
        go_simp
        with_reducible rfl
      rotate_left
      · simp only[Act.put,List.setIfInBounds_toArray,List.set_cons_zero,List.set_cons_succ]
        rfl
      refine dP (i:=3) (N:=some 19) (v:=?_) (a':=?_) #[true,true,true,true,false,false,false,false,false] rfl rfl (by kernel_rfl) (fun _ _ _ h=>h) (Or.inl ⟨by rfl,?_⟩) hHeld ?_ ?_
      rotate_left
      · rintro w' ⟨hs0,hs1⟩
        go_simp
        with_reducible rfl
      rotate_left
      · simp only[Act.put,List.setIfInBounds_toArray,List.set_cons_zero,List.set_cons_succ]
        rfl
      refine dP (i:=4) (N:=some 20) (v:=?_) (a':=?_) #[true,true,true,true,true,false,false,false,false] rfl rfl (by kernel_rfl) (fun _ _ _ h=>h) (Or.inl ⟨by rfl,?_⟩) hHeld ?_ ?_
      rotate_left
      · rintro w' ⟨hs0,hs1⟩
        go_simp
        with_reducible rfl
      rotate_left
      · simp only[Act.put,List.setIfInBounds_toArray,List.set_cons_zero,List.set_cons_succ]
        rfl
      refine dP (i:=5) (N:=some 21) (v:=?_) (a':=?_) #[true,true,true,true,true,true,false,false,false] rfl rfl (by kernel_rfl) (fun _ _ _ h=>h) (Or.inl ⟨by rfl,?_⟩) hHeld ?_ ?_
      rotate_left
      · rintro w' ⟨hs0,hs1⟩
        go_simp
        with_reducible rfl
      rotate_left
      · simp only[Act.put,List.setIfInBounds_toArray,List.set_cons_zero,List.set_cons_succ]
        rfl
      refine dP (i:=6) (N:=some 22) (v:=?_) (a':=?_) #[true,true,true,true,true,true,true,false,false] rfl rfl (by kernel_rfl) (fun _ _ _ h=>h) (Or.inl ⟨by rfl,?_⟩) hHeld ?_ ?_
      rotate_left
      · rintro w' ⟨hs0,hs1⟩
        go_simp
        with_reducible rfl
      rotate_left
      · simp only[Act.put,List.setIfInBounds_toArray,List.set_cons_zero,List.set_cons_succ]
        rfl
      refine dP (i:=7) (N:=some 23) (v:=?_) (a':=?_) #[true,true,true,true,true,true,true,true,false] rfl rfl (by kernel_rfl) (fun _ _ _ h=>h) (Or.inl ⟨by rfl,?_⟩) hHeld ?_ ?_
      rotate_left
      · rintro w' ⟨hs0,hs1⟩
        go_simp
        with_reducible rfl
      rotate_left
      · simp only[Act.put,List.setIfInBounds_toArray,List.set_cons_zero,List.set_cons_succ]
        rfl
      refine dP (i:=8) (N:=some 24) (v:=?_) (a':=?_) #[true,true,true,true,true,true,true,true,true] rfl rfl (by kernel_rfl) (fun _ _ _ h=>h) (Or.inl ⟨by rfl,?_⟩) hHeld ?_ ?_
      rotate_left
      · rintro w' ⟨hs0,hs1⟩
        go_simp
        with_reducible rfl
      rotate_left
      · simp only[Act.put,List.setIfInBounds_toArray,List.set_cons_zero,List.set_cons_succ]
        rfl
      refine uY (by kernel_rfl) ?_
      clear hc0 hc1 hHeld
      go_wp2
      · exact hno'.out _ (by simpa using (show(x0 != y0)=true by assumption)) (hu.drew)
      · go_roundw
        case rel=>exact⟨k+1,by omega,by go_num,hstep.out (by simpa using (show(x0 != y0)=false by assumption)),hu.drew⟩
        case measure=>simp[intOf];omega
    · have hj3:k=xs.length:=by omega
      have H3:=Lib.hid hj3
      rw[hj3] at hpre
      clear hj3 hhx hhy
      go_wp2
      exact hyes _ hpre hu
open Go.RowKit
theorem aX.cells{n c:Nat}  (h:aX m w (.slice A n c) xs) : (A=none∧xs=[])∨xs=[]∨∃ b off,A=some ⟨b,off,none⟩∧∀ i,i<xs.length→w.cell? ⟨b,off+i,none⟩=some (.int .u8 (xs.getD i 0)):=by
  by_cases h0:xs=[]
  · exact .inr (.inl h0)
  · have hl:0<xs.length:=List.length_pos_iff.2 h0
    obtain⟨b,off,rfl,_⟩:=aX.at_ h 0 hl
    refine .inr (.inr ⟨b,off,rfl,fun i hi=>?_⟩)
    obtain⟨b',off',hA,hc,_⟩:=aX.at_ h i hi
    injection hA with hA
    injection hA with h1 h2
    subst h1 h2
    exact hc
theorem uU(h:aX m w v xs) : (convert 27 9 v).run Tryz.prog w = .ok (.string (strOfNums xs)) w:=by
  have hh:=h
  obtain⟨A,c,rfl,h1,h2,h0,h3⟩:=hh
  rcases Nat.eq_zero_or_pos xs.length with hz|hz
  · obtain rfl:xs=[]:=List.eq_nil_of_length_eq_zero hz
    cases A with
    | none=>exact run_convert_bytes_nil w _ _ Tryz.underlying27 Tryz.underlying5 _ _ _ Tryz.underlying9
    | some a =>
      rw[run_convert_bytes_string w _ _ _ _ _ _ Tryz.underlying27 Tryz.underlying5 Tryz.underlying9]
      rw[run_bytesToString w a _ c [] (by simp[loadCells,loadCellsFrom,Sem.run_pure])]
      rfl
  · obtain⟨b,off,cells,t,fr,rfl,hb,ht,hx⟩:=h3 hz
    exact run_convert_bytes_arg w _ _ Tryz.underlying27 Tryz.underlying5 b off _ c xs rfl (fun i hi=>by
      obtain⟨b',off',hA,hc,_⟩:=aX.at_ h i hi
      injection hA with hA
      injection hA with h1 h2
      subst h1 h2
      exact hc) _ Tryz.underlying9
theorem vi:∀ {xs ys:List Int},(∀ x,x∈xs→0≤x∧x<256)→(∀ x,x∈ys→0≤x∧x<256)→(xs.map fun n=>UInt8.ofNat n.toNat)=(ys.map fun n=>UInt8.ofNat n.toNat)→xs=ys
  | [],[],_,_,_=>rfl
  | [],_ :: _,_,_,h=>by simp at h
  | _ :: _,[],_,_,h=>by simp at h
  | x :: xs,y :: ys,hx,hy,h=>by
    simp only[List.map_cons,List.cons.injEq] at h
    have h1:=hx x (by simp)
    have h2:=hy y (by simp)
    have h3:x=y:=by
      have:=congrArg UInt8.toNat h.1
      simp at this
      omega
    rw[h3,vi (fun z hz=>hx z (by simp[hz])) (fun z hz=>hy z (by simp[hz])) h.2]
theorem wX{W:World}  {ys:List Int}(hx:aX m w u xs)(hy:aX m' w' v ys) : (binOp .eql 9 (.string (strOfNums xs)) (.string (strOfNums ys))).run Tryz.prog W = .ok (.bool (decide (xs=ys))) W:=by
  have e:((strOfNums xs).toList==(strOfNums ys).toList)=decide (xs=ys):=by
    by_cases h:xs=ys
    · subst h;simp
    · rw[decide_eq_false h,beq_eq_false_iff_ne]
      intro h2
      rw[ByteArray.toList_eq,ByteArray.toList_eq] at h2
      exact h (vi hx.rng hy.rng h2)
  rw[binOp_string_eql,e]
  rfl
theorem BJ{A B:dt}:decide (A=B)=(decide (A.file=B.file)&&(decide (A.record=B.record)&&(decide (A.count=B.count)&&decide (A.words=B.words)))):=by
  rw[Bool.eq_iff_iff]
  cases A;cases B
  simp
theorem Bl{ca cb:List Value}{A B:dt}  (ha:bK m w A ca)(hb:bK m' w B cb) : Calls Tryz.prog 136 #[.agg ca.toArray,.agg cb.toArray] w (ej (decide (A=B)) w):=by
  obtain⟨va,rfl,hwa,hra⟩:=ha
  obtain⟨vb,rfl,hwb,hrb⟩:=hb
  rw[BJ]
  generalize A.file=f1 at *
  generalize A.record=f2 at *
  generalize A.count=f3 at *
  generalize A.words=f4 at *
  generalize B.file=g1 at *
  generalize B.record=g2 at *
  generalize B.count=g3 at *
  generalize B.words=g4 at *
  clear hra hrb
  have hpost:∀ W,aH [] w W→ej (decide (f1=g1)&&(decide (f2=g2)&&(decide (f3=g3)&&decide (f4=g4)))) w (.returned (.bool (decide (f1=g1)&&(decide (f2=g2)&&(decide (f3=g3)&&decide (f4=g4)))))) W:=fun W h=>⟨rfl,h⟩
  revert hpost
  generalize ej (decide (f1=g1)&&(decide (f2=g2)&&(decide (f3=g3)&&decide (f4=g4)))) w=P
  intro hpost
  by_cases h1:f1=g1
  case neg =>
    have e:(decide (f1=g1)&&(decide (f2=g2)&&(decide (f3=g3)&&decide (f4=g4))))=false:=by simp[h1]
    rw[e] at hpost
    have e1:(f1==g1)=false:=by simpa using h1
    clear h1 e hwa hwb
    replace hpost:=Lib.hid hpost
    go_enter Tryz.func136,Tryz.ntmps136
    go_wp2
    exact hpost.out _ (((aH.refl [] w).alloc _).alloc _)
  subst h1
  by_cases h1:f2=g2
  case neg =>
    have e:(decide (f1=f1)&&(decide (f2=g2)&&(decide (f3=g3)&&decide (f4=g4))))=false:=by simp[h1]
    rw[e] at hpost
    have e1:(f2==g2)=false:=by simpa using h1
    clear h1 e hwa hwb
    replace hpost:=Lib.hid hpost
    go_enter Tryz.func136,Tryz.ntmps136
    go_wp2
    exact hpost.out _ (((aH.refl [] w).alloc _).alloc _)
  subst h1
  by_cases h1:f3=g3
  case neg =>
    have e:(decide (f1=f1)&&(decide (f2=f2)&&(decide (f3=g3)&&decide (f4=g4))))=false:=by simp[h1]
    rw[e] at hpost
    have e1:(f3==g3)=false:=by simpa using h1
    clear h1 e hwa hwb
    replace hpost:=Lib.hid hpost
    go_enter Tryz.func136,Tryz.ntmps136
    go_wp2
    exact hpost.out _ (((aH.refl [] w).alloc _).alloc _)
  subst h1
  have e:(decide (f1=f1)&&(decide (f2=f2)&&(decide (f3=f3)&&decide (f4=g4))))=decide (f4=g4):=by simp
  rw[e] at hpost
  clear e
  have hcall:=fun(W:World) (h:aH [] w W)=>ve (hwa.old h) (hwb.old h)
  replace hpost:=Lib.hid hpost
  go_enter Tryz.func136,Tryz.ntmps136
  go_wp2_with (go_at_call 133;refine(hcall _ (((aH.refl [] w).alloc _).alloc _)).mono ?_;rintro e w1 ⟨rfl,hu1⟩)
  exact hpost.out _ ((((aH.refl [] w).alloc _).alloc _).step hu1)
theorem BN{A B:Obj}:decide (A=B)=(decide (A.id=B.id)&&decide (A.value=B.value)):=by
  rw[Bool.eq_iff_iff]
  cases A;cases B
  simp
theorem t4{ca cb:List Value}{A B:Obj}  (ha:dJ m w A ca)(hb:dJ m' w B cb) : Calls Tryz.prog 138 #[.agg ca.toArray,.agg cb.toArray] w (ej (decide (A=B)) w):=by
  obtain⟨va,rfl,hwa,hra⟩:=ha
  obtain⟨vb,rfl,hwb,hrb⟩:=hb
  rw[BN]
  generalize A.id=f1 at *
  generalize A.value=f4 at *
  generalize B.id=g1 at *
  generalize B.value=g4 at *
  clear hra hrb
  have hpost:∀ W,aH [] w W→ej (decide (f1=g1)&&decide (f4=g4)) w (.returned (.bool (decide (f1=g1)&&decide (f4=g4)))) W:=fun W h=>⟨rfl,h⟩
  revert hpost
  generalize ej (decide (f1=g1)&&decide (f4=g4)) w=P
  intro hpost
  by_cases h1:f1=g1
  case neg =>
    have e:(decide (f1=g1)&&decide (f4=g4))=false:=by simp[h1]
    rw[e] at hpost
    have e1:(f1==g1)=false:=by simpa using h1
    clear h1 e hwa hwb
    replace hpost:=Lib.hid hpost
    go_enter Tryz.func138,Tryz.ntmps138
    go_wp2
    exact hpost.out _ (((aH.refl [] w).alloc _).alloc _)
  subst h1
  have e:(decide (f1=f1)&&decide (f4=g4))=decide (f4=g4):=by simp
  rw[e] at hpost
  have hu0:aH [] w ((w.alloc (.cells #[.int .u8 f1,va] 100)).alloc (.cells #[.int .u8 f1,vb] 100)):=((aH.refl [] w).alloc _).alloc _
  have c1:=uU (hwa.old hu0)
  have c2:=uU (hwb.old hu0)
  have c3:=wX (hwa.old hu0) (hwb.old hu0) (W:=(w.alloc (.cells #[.int .u8 f1,va] 100)).alloc (.cells #[.int .u8 f1,vb] 100))
  replace hpost:=hpost _ hu0
  generalize strOfNums f4=s1 at *
  generalize strOfNums g4=s2 at *
  generalize decide (f4=g4)=D at *
  clear hu0 hwa hwb e
  rw[binOp_string_eql] at c3
  have c4:(s1.toList==s2.toList)=D:=by simpa [Sem.run_pure] using c3
  clear c3
  replace hpost:=Lib.hid hpost
  go_enter Tryz.func138,Tryz.ntmps138
  go_wp2
  exact hpost.out
open Go.RowKit
theorem aS.at_{e:TypeId}{sz:Nat}{R:World→α→List Value→Prop}   {n c:Nat}{xs:List α}(h:aS m e sz R w (.slice A n c) xs)(d:α)(j:Nat)(hj:j<xs.length) :
    ∃ b off cs,A=some ⟨b,off,none⟩∧w.rangeAt b (off+j*sz) cs∧R w (xs.getD j d) cs∧cs.length=sz:=by
  obtain⟨A',c',hv,h1,h2,h0,h3⟩:=h
  injection hv with e1 e2 e3
  subst e1 e3
  obtain⟨b,off,cells,t,fr,rfl,hb,ht,hx⟩:=h3 (by omega)
  obtain⟨cs,h4,h5,h6⟩:=hx j (xs.getD j d) (by simp[List.getD_eq_getElem?_getD,List.getElem?_eq_getElem hj])
  exact⟨b,off,cs,rfl,fun i u hi=>by rw[bF hb];exact h6 i u hi,h5,h4⟩
theorem bK.upd0(hu:aH [] w w'){r:dt}  (h:bK m w r cs) : bK m w' r cs:=bK.upd hu (dC.nil _ _ _) r cs h
theorem dJ.upd0(hu:aH [] w w'){r:Obj}  (h:dJ m w r cs) : dJ m w' r cs:=dJ.upd hu (dC.nil _ _ _) r cs h
theorem gr{b o:Nat}  (h:w.rangeAt b o cs){S:List Nat}(hu:aH S w w')(hb:b∉S) : w'.rangeAt b o cs:=fun j v hj=>hu.cell hb (h j v hj)
theorem rT:(Tryz.prog.info? 98).map (·.zero)=some (some (.agg #[.int .u16 0,.int .u16 0,.int .u16 0,.slice none 0 0])):=by kernel_rfl
theorem ir:(Tryz.prog.info? 98).map (·.size)=some 4:=by kernel_rfl
theorem sb:(Tryz.prog.info? 100).map (·.zero)=some (some (.agg #[.int .u8 0,.slice none 0 0])):=by kernel_rfl
theorem iA:(Tryz.prog.info? 100).map (·.size)=some 2:=by kernel_rfl
theorem bK.one{r:dt}  (h:bK m w r cs) : cs.toArray.all (·.oneCell')=true∧cs.length=4:=by
  obtain⟨v,rfl,h1,_⟩:=h
  obtain⟨A,c,rfl,_⟩:=h1
  exact⟨by simp[Value.oneCell'],rfl⟩
theorem dJ.one{r:Obj}  (h:dJ m w r cs) : cs.toArray.all (·.oneCell')=true∧cs.length=2:=by
  obtain⟨v,rfl,h1,_⟩:=h
  obtain⟨A,c,rfl,_⟩:=h1
  exact⟨by simp[Value.oneCell'],rfl⟩
theorem Az{xs ys:List dt}  (hx:oA m w u xs)(hy:oA m' w v ys) :
    Calls Tryz.prog 135 #[u,v,.func (.func 136) #[] #[]] w (ej (decide (xs=ys)) w):=by
  have hhx:=hx
  have hhy:=hy
  obtain⟨A,c,rfl,hc1,hc2⟩:=hx.shape
  obtain⟨B,c',rfl,jf,jP⟩:=hy.shape
  have hn:xs.length≤9223372036854775807:=by have:=hc2;unfold maxLen at this;omega
  by_cases hl:xs.length=ys.length
  case neg =>
    have hno:∀ W,aH [] w W→ej (decide (xs=ys)) w (.returned (.bool false)) W:=by
      intro W hW
      rw[decide_eq_false (fun h=>hl (by rw[h]))]
      exact⟨rfl,hW⟩
    have hli:((xs.length:Int)!=(ys.length:Int))=true:=by simp;omega
    clear hx hy hhx hhy hl
    go_enter Tryz.func135,Tryz.ntmps135
    go_wp2
    go_ret
    exact hno _ (aH.refl _ _)
  have hno:∀ W k,xs.getD k ⟨0,0,0,[]⟩≠ys.getD k ⟨0,0,0,[]⟩→aH [] w W→ej (decide (xs=ys)) w (.returned (.bool false)) W:=by
    intro W k hk hW
    rw[decide_eq_false (wq k hk)]
    exact⟨rfl,hW⟩
  have hyes:∀ W,xs.take xs.length=ys.take xs.length→aH [] w W→ej (decide (xs=ys)) w (.returned (.bool true)) W:=by
    intro W hk hW
    rw[List.take_length,hl,List.take_length] at hk
    rw[decide_eq_true hk]
    exact⟨rfl,hW⟩
  revert hno hyes
  generalize ej (decide (xs=ys)) w=P
  intro hno hyes
  have hli:((xs.length:Int)!=(ys.length:Int))=false:=by simp;omega
  have hL:=Lib.hid hl
  clear hx hy hl
  go_enter Tryz.func135,Tryz.ntmps135
  go_wp2
  go_loopw [17] (fun i wr=>∃ k:Nat,k≤xs.length∧i = .int .i64 (k:Int)∧xs.take k=ys.take k∧aH [] w wr) (fun i _=>xs.length-(intOf i).toNat)
  case atStart=>exact⟨0,by omega,rfl,by simp,aH.refl _ _⟩
  case round =>
    obtain⟨k,hk,rfl,hpre,hu⟩:=hrel
    by_cases hlt:k<xs.length
    · obtain⟨b,off,ca,rfl,cw0,hr0,hl0⟩:=aS.at_ hhx ⟨0,0,0,[]⟩ k hlt
      obtain⟨b',off',cb,rfl,cw1,hr1,hl1⟩:=aS.at_ hhy ⟨0,0,0,[]⟩ k (by have:=hL.out;omega)
      have hlt':k<ys.length:=by have:=hL.out;omega
      have hstep:=fun h=>oL (d:=⟨0,0,0,[]⟩) hL.out hlt hpre h
      have hno':=fun W h=>hno W k h
      revert hstep hno' hr0 hr1
      generalize xs.getD k ⟨0,0,0,[]⟩=x0
      generalize ys.getD k ⟨0,0,0,[]⟩=y0
      intro hr0 hr1 hstep hno'
      have hc0:=Lib.hid (gr cw0 hu (by simp))
      have hc1:=Lib.hid (gr cw1 hu (by simp))
      replace hstep:=Lib.hid hstep
      replace hno':=Lib.hid hno'
      have ha:=Lib.hid hr0
      have hb:=Lib.hid hr1
      clear cw0 cw1 hhx hhy hpre hno hyes hr0 hr1
      have tok1_0:True:=trivial
      have tok1_1:True:=trivial
      have tok1_2:True:=trivial
      have tok1_3:True:=trivial
      have tok1_4:True:=trivial
      have tok1_5:True:=trivial
      have tok1_6:True:=trivial
      have tok1_7:True:=trivial
      have tok1_8:True:=trivial
      go_wp2_with (first | (have _t:=tok1_0;refine wpList_load_mid rfl 98 _ rfl b (off+k*4) rfl ca _ hc0.out Tryz.underlying98 rfl (by rw[hl0];exact ir) ?_;clear _t tok1_0) | (have _t:=tok1_1;refine i9 rfl 98 rfl _ rT ?_;intro g1 w1 hg1 hB1 hu1;clear _t tok1_1) | (have _t:=tok1_2;refine ij rfl 98 _ _ rfl g1 rfl ca.toArray rfl _ _ hB1 (by simp only[List.size_toArray,hl0];exact ir) (by simp only[List.size_toArray,hl0];rfl) (bK.one ha.out).1 ?_;intro w2 hB2 hu2;have U2:=hu1.fresh1 hu2 hg1;clear _t tok1_2) | (have _t:=tok1_3;refine wpList_load_mid rfl 98 _ rfl b' (off'+k*4) rfl cb _ (gr hc1.out U2 (by simp)) Tryz.underlying98 rfl (by rw[hl1];exact ir) ?_;clear _t tok1_3) | (have _t:=tok1_4;refine i9 rfl 98 rfl _ rT ?_;intro g3 w3 hg3 hB3 hu3;clear _t tok1_4) | (have _t:=tok1_5;refine ij rfl 98 _ _ rfl g3 rfl cb.toArray rfl _ _ hB3 (by simp only[List.size_toArray,hl1];exact ir) (by simp only[List.size_toArray,hl1];rfl) (bK.one hb.out).1 ?_;intro w4 hB4 hu4;have U4:=hu3.fresh1 hu4 hg3;have a:=U4.blk (by simp) hB2;have V4:=hu.step (U2.step U4);clear _t tok1_5) | (have _t:=tok1_6;refine wpList_load_row rfl 98 _ rfl g1 rfl _ _ _ _ a Tryz.underlying98 rfl (by simp only[List.size_toArray,hl0];exact ir) ?_;clear _t tok1_6) | (have _t:=tok1_7;refine wpList_load_row rfl 98 _ rfl g3 rfl _ _ _ _ hB4 Tryz.underlying98 rfl (by simp only[List.size_toArray,hl1];exact ir) ?_;clear _t tok1_7) | (have _t:=tok1_8;go_at_call 136;refine(Bl (bK.upd0 V4 ha.out) (bK.upd0 V4 hb.out)).mono ?_;rintro e w5 ⟨rfl,hu5⟩;generalize hD:decide (x0=y0)=D;have HD:=Lib.hid hD;clear hD a hB4;clear _t tok1_8))
      · have hD0:(!D)=true:=by assumption
        exact hno'.out _ (by have:=HD.out;intro h;rw[← this,h] at hD0;simp at hD0) (V4.step hu5)
      · have hD0:(!D)=false:=by assumption
        have hxy:x0=y0:=by have:=HD.out;rw[← this] at hD0;simpa using hD0
        go_roundw
        case rel=>exact⟨k+1,by omega,by go_num,hstep.out hxy,V4.step hu5⟩
        case measure=>simp[intOf];omega
    · have hj3:k=xs.length:=by omega
      have H3:=Lib.hid hj3
      rw[hj3] at hpre
      clear hj3 hhx hhy
      go_wp2
      exact hyes _ hpre hu
theorem By{xs ys:List Obj}  (hx:qA m w u xs)(hy:qA m' w v ys) :
    Calls Tryz.prog 137 #[u,v,.func (.func 138) #[] #[]] w (ej (decide (xs=ys)) w):=by
  have hhx:=hx
  have hhy:=hy
  obtain⟨A,c,rfl,hc1,hc2⟩:=hx.shape
  obtain⟨B,c',rfl,jf,jP⟩:=hy.shape
  have hn:xs.length≤9223372036854775807:=by have:=hc2;unfold maxLen at this;omega
  by_cases hl:xs.length=ys.length
  case neg =>
    have hno:∀ W,aH [] w W→ej (decide (xs=ys)) w (.returned (.bool false)) W:=by
      intro W hW
      rw[decide_eq_false (fun h=>hl (by rw[h]))]
      exact⟨rfl,hW⟩
    have hli:((xs.length:Int)!=(ys.length:Int))=true:=by simp;omega
    clear hx hy hhx hhy hl
    go_enter Tryz.func137,Tryz.ntmps137
    go_wp2
    go_ret
    exact hno _ (aH.refl _ _)
  have hno:∀ W k,xs.getD k ⟨0,[]⟩≠ys.getD k ⟨0,[]⟩→aH [] w W→ej (decide (xs=ys)) w (.returned (.bool false)) W:=by
    intro W k hk hW
    rw[decide_eq_false (wq k hk)]
    exact⟨rfl,hW⟩
  have hyes:∀ W,xs.take xs.length=ys.take xs.length→aH [] w W→ej (decide (xs=ys)) w (.returned (.bool true)) W:=by
    intro W hk hW
    rw[List.take_length,hl,List.take_length] at hk
    rw[decide_eq_true hk]
    exact⟨rfl,hW⟩
  revert hno hyes
  generalize ej (decide (xs=ys)) w=P
  intro hno hyes
  have hli:((xs.length:Int)!=(ys.length:Int))=false:=by simp;omega
  have hL:=Lib.hid hl
  clear hx hy hl
  go_enter Tryz.func137,Tryz.ntmps137
  go_wp2
  go_loopw [17] (fun i wr=>∃ k:Nat,k≤xs.length∧i = .int .i64 (k:Int)∧xs.take k=ys.take k∧aH [] w wr) (fun i _=>xs.length-(intOf i).toNat)
  case atStart=>exact⟨0,by omega,rfl,by simp,aH.refl _ _⟩
  case round =>
    obtain⟨k,hk,rfl,hpre,hu⟩:=hrel
    by_cases hlt:k<xs.length
    · obtain⟨b,off,ca,rfl,cw0,hr0,hl0⟩:=aS.at_ hhx ⟨0,[]⟩ k hlt
      obtain⟨b',off',cb,rfl,cw1,hr1,hl1⟩:=aS.at_ hhy ⟨0,[]⟩ k (by have:=hL.out;omega)
      have hlt':k<ys.length:=by have:=hL.out;omega
      have hstep:=fun h=>oL (d:=⟨0,[]⟩) hL.out hlt hpre h
      have hno':=fun W h=>hno W k h
      revert hstep hno' hr0 hr1
      generalize xs.getD k ⟨0,[]⟩=x0
      generalize ys.getD k ⟨0,[]⟩=y0
      intro hr0 hr1 hstep hno'
      have hc0:=Lib.hid (gr cw0 hu (by simp))
      have hc1:=Lib.hid (gr cw1 hu (by simp))
      replace hstep:=Lib.hid hstep
      replace hno':=Lib.hid hno'
      have ha:=Lib.hid hr0
      have hb:=Lib.hid hr1
      clear cw0 cw1 hhx hhy hpre hno hyes hr0 hr1
      have tok2_0:True:=trivial
      have tok2_1:True:=trivial
      have tok2_2:True:=trivial
      have tok2_3:True:=trivial
      have tok2_4:True:=trivial
      have tok2_5:True:=trivial
      have tok2_6:True:=trivial
      have tok2_7:True:=trivial
      have tok2_8:True:=trivial
      go_wp2_with (first | (have _t:=tok2_0;refine wpList_load_mid rfl 100 _ rfl b (off+k*2) rfl ca _ hc0.out Tryz.underlying100 rfl (by rw[hl0];exact iA) ?_;clear _t tok2_0) | (have _t:=tok2_1;refine i9 rfl 100 rfl _ sb ?_;intro g1 w1 hg1 hB1 hu1;clear _t tok2_1) | (have _t:=tok2_2;refine ij rfl 100 _ _ rfl g1 rfl ca.toArray rfl _ _ hB1 (by simp only[List.size_toArray,hl0];exact iA) (by simp only[List.size_toArray,hl0];rfl) (dJ.one ha.out).1 ?_;intro w2 hB2 hu2;have U2:=hu1.fresh1 hu2 hg1;clear _t tok2_2) | (have _t:=tok2_3;refine wpList_load_mid rfl 100 _ rfl b' (off'+k*2) rfl cb _ (gr hc1.out U2 (by simp)) Tryz.underlying100 rfl (by rw[hl1];exact iA) ?_;clear _t tok2_3) | (have _t:=tok2_4;refine i9 rfl 100 rfl _ sb ?_;intro g3 w3 hg3 hB3 hu3;clear _t tok2_4) | (have _t:=tok2_5;refine ij rfl 100 _ _ rfl g3 rfl cb.toArray rfl _ _ hB3 (by simp only[List.size_toArray,hl1];exact iA) (by simp only[List.size_toArray,hl1];rfl) (dJ.one hb.out).1 ?_;intro w4 hB4 hu4;have U4:=hu3.fresh1 hu4 hg3;have a:=U4.blk (by simp) hB2;have V4:=hu.step (U2.step U4);clear _t tok2_5) | (have _t:=tok2_6;refine wpList_load_row rfl 100 _ rfl g1 rfl _ _ _ _ a Tryz.underlying100 rfl (by simp only[List.size_toArray,hl0];exact iA) ?_;clear _t tok2_6) | (have _t:=tok2_7;refine wpList_load_row rfl 100 _ rfl g3 rfl _ _ _ _ hB4 Tryz.underlying100 rfl (by simp only[List.size_toArray,hl1];exact iA) ?_;clear _t tok2_7) | (have _t:=tok2_8;go_at_call 138;refine(t4 (dJ.upd0 V4 ha.out) (dJ.upd0 V4 hb.out)).mono ?_;rintro e w5 ⟨rfl,hu5⟩;generalize hD:decide (x0=y0)=D;have HD:=Lib.hid hD;clear hD a hB4;clear _t tok2_8))
      · have hD0:(!D)=true:=by assumption
        exact hno'.out _ (by have:=HD.out;intro h;rw[← this,h] at hD0;simp at hD0) (V4.step hu5)
      · have hD0:(!D)=false:=by assumption
        have hxy:x0=y0:=by have:=HD.out;rw[← this] at hD0;simpa using hD0
        go_roundw
        case rel=>exact⟨k+1,by omega,by go_num,hstep.out hxy,V4.step hu5⟩
        case measure=>simp[intOf];omega
    · have hj3:k=xs.length:=by omega
      have H3:=Lib.hid hj3
      rw[hj3] at hpre
      clear hj3 hhx hhy
      go_wp2
      exact hyes _ hpre hu
open Go.RowKit
def eI (M:aT) : List Int:=[M.code,M.fail,M.addr,M.count,M.value,M.and_,M.or_,M.addr2,M.sub,M.status,M.events,M.messages,M.mei*256+M.kind,M.level*256+M.more,M.next]
def iV (M:aT) : Array Value:=((eI M).map (Value.int .u16)).toArray
theorem ul:(Tryz.prog.info? 158).map (·.zero)=some (some (.agg ((List.replicate 15 (Value.int .u16 0)).toArray))):=by kernel_rfl
theorem np:(Tryz.prog.info? 158).map (·.size)=some 15:=by kernel_rfl
theorem s9(a0 a1 a2 a3 a4 a5 a6 a7 a8 a9 a b c d e:Int)(w:World) : (Instr.build 158 #[(0,.int .u16 a0),(1,.int .u16 a1),(2,.int .u16 a2),(3,.int .u16 a3),(4,.int .u16 a4),(5,.int .u16 a5),(6,.int .u16 a6),(7,.int .u16 a7),(8,.int .u16 a8),(9,.int .u16 a9),(10,.int .u16 a),(11,.int .u16 b),(12,.int .u16 c),(13,.int .u16 d),(14,.int .u16 e)]).run Tryz.prog w
    = .ok (.agg #[.int .u16 a0,.int .u16 a1,.int .u16 a2,.int .u16 a3,.int .u16 a4,.int .u16 a5,.int .u16 a6,.int .u16 a7,.int .u16 a8,.int .u16 a9,.int .u16 a,.int .u16 b,.int .u16 c,.int .u16 d,.int .u16 e]) w:=by kernel_rfl
theorem zA{P:Program}{fn:Func}{p:Tmp}{ty:TypeId}(h:fn.results = #[.cell p ty]){R:Ending→World→Prop}{a:Act}  (hd0:a.defers=[])(g:Nat)(t:TypeId)(cs:Array Value)(fr:Nat × Nat)(d:TypeDesc)
    (hp:a.tmps.getD p undef = .pointer (some ⟨g,0,none⟩)) (hg:w.heap[g]? = some (.cells cs t fr))
    (hu:P.underlying ty=some d) (hd:(match d with | .struct _ | .array _ _=>true | _=>false)=true) (hi:(P.info? ty).map (·.size)=some cs.size)
    (hR:R (.returned (.agg cs)) w) : bodyPost P fn R .ret a w:=by
  have hp':a.tmps[p]?.getD undef = .pointer (some ⟨g,0,none⟩):=by simpa using hp
  exact bodyPost_ret (by simp[results,h,hp',asAddr,run_loadVar_row w g t ty cs fr d hg hu hd hi]) hd0 hR
theorem p7{cs:Array Value}{M:aT}  (h:aI m w cs.toList M) : Calls Tryz.prog 132 #[.agg cs] w (cc (.agg (iV M)) w):=by
  obtain⟨vw,vb,vd,vr,vo,h0,_,_,_,_,_,hR⟩:=h
  obtain⟨c0,c1,c2,c3,c4,c5,c6,c7,c8,c9,f,i,l1,l2,l3,l4,a,c,b,d,e,l5⟩:=M
  obtain⟨r0,r1,r2,r3,r4,r5,r6,r7,r8,r9,o,p,j,k,l,n,q⟩:=hR
  simp only[B8,eP] at r0 r1 r2 r3 r4 r5 r6 r7 r8 r9 o p j k l n q
  have hpost:∀ W,aH [] w W→cc (.agg (iV ⟨c0,c1,c2,c3,c4,c5,c6,c7,c8,c9,f,i,l1,l2,l3,l4,a,c,b,d,e,l5⟩)) w (.returned (.agg #[.int .u16 c0,.int .u16 c1,.int .u16 c2,.int .u16 c3,.int .u16 c4,.int .u16 c5,.int .u16 c6,.int .u16 c7,.int .u16 c8,.int .u16 c9,.int .u16 f,.int .u16 i,.int .u16 (a*256+c),.int .u16 (b*256+d),.int .u16 e])) W:=fun W hW=>⟨rfl,hW⟩
  revert hpost
  generalize cc (.agg (iV ⟨c0,c1,c2,c3,c4,c5,c6,c7,c8,c9,f,i,l1,l2,l3,l4,a,c,b,d,e,l5⟩)) w=P
  intro hpost
  replace hpost:=Lib.hid hpost
  have w0:IntKind.u16.wrap c0=c0:=by show c0%65536=c0;omega
  have w1:IntKind.u16.wrap c1=c1:=by show c1%65536=c1;omega
  have r:IntKind.u16.wrap a=a:=by show a%65536=a;omega
  have s:IntKind.u16.wrap c=c:=by show c%65536=c;omega
  have t:IntKind.u16.wrap b=b:=by show b%65536=b;omega
  have u:IntKind.u16.wrap d=d:=by show d%65536=d;omega
  have v:IntKind.u16.wrap e=e:=by show e%65536=e;omega
  have x1:IntKind.u16.wrap (a*256)=a*256:=by show(a*256)%65536=a*256;omega
  have x2:IntKind.u16.wrap (b*256)=b*256:=by show(b*256)%65536=b*256;omega
  have o1:=ql j k
  have o2:=ql l n
  have hcs:cs = #[.int .u8 c0,.int .u8 c1,.int .u16 c2,.int .u16 c3,.int .u16 c4,.int .u16 c5,.int .u16 c6,.int .u16 c7,.int .u16 c8,.int .u16 c9,.int .u16 f,.int .u16 i,vw,vb,vd,vr,.int .u8 a,.int .u8 c,.int .u8 b,.int .u8 d,.int .u8 e,vo]:=by
    apply Array.toList_inj.1
    exact h0
  subst hcs
  have hbp:=s9
  clear h0 r0 r1 r2 r3 r4 r5 r6 r7 r8 r9 o p j k l n q
  go_enter Tryz.func132,Tryz.ntmps132
  have tok1_0:True:=trivial
  have tok1_1:True:=trivial
  have tok1_2:True:=trivial
  go_wp2_with (first | (have _t:=tok1_0;refine Ai rfl 45 _ rfl (.agg #[.int .u8 c0,.int .u8 c1,.int .u16 c2,.int .u16 c3,.int .u16 c4,.int .u16 c5,.int .u16 c6,.int .u16 c7,.int .u16 c8,.int .u16 c9,.int .u16 f,.int .u16 i,vw,vb,vd,vr,.int .u8 a,.int .u8 c,.int .u8 b,.int .u8 d,.int .u8 e,vo]) rfl ?_;intro g w1 hg hB hu1;clear _t tok1_0) | (have _t:=tok1_1;refine i9 rfl 158 rfl _ ul ?_;intro gp w2 hgp hBp hu2;replace hB:=hu2.blk (by simp) hB;have k0:w2.cell? ⟨g,0,none⟩=some (.int .u8 c0):=(bF hB 0).trans rfl;have k1:w2.cell? ⟨g,1,none⟩=some (.int .u8 c1):=(bF hB 1).trans rfl;have k2:w2.cell? ⟨g,2,none⟩=some (.int .u16 c2):=(bF hB 2).trans rfl;have k3:w2.cell? ⟨g,3,none⟩=some (.int .u16 c3):=(bF hB 3).trans rfl;have k4:w2.cell? ⟨g,4,none⟩=some (.int .u16 c4):=(bF hB 4).trans rfl;have k5:w2.cell? ⟨g,5,none⟩=some (.int .u16 c5):=(bF hB 5).trans rfl;have k6:w2.cell? ⟨g,6,none⟩=some (.int .u16 c6):=(bF hB 6).trans rfl;have k7:w2.cell? ⟨g,7,none⟩=some (.int .u16 c7):=(bF hB 7).trans rfl;have k8:w2.cell? ⟨g,8,none⟩=some (.int .u16 c8):=(bF hB 8).trans rfl;have k9:w2.cell? ⟨g,9,none⟩=some (.int .u16 c9):=(bF hB 9).trans rfl;have x:w2.cell? ⟨g,10,none⟩=some (.int .u16 f):=(bF hB 10).trans rfl;have y:w2.cell? ⟨g,11,none⟩=some (.int .u16 i):=(bF hB 11).trans rfl;have z:w2.cell? ⟨g,16,none⟩=some (.int .u8 a):=(bF hB 16).trans rfl;have A:w2.cell? ⟨g,17,none⟩=some (.int .u8 c):=(bF hB 17).trans rfl;have B:w2.cell? ⟨g,18,none⟩=some (.int .u8 b):=(bF hB 18).trans rfl;have C:w2.cell? ⟨g,19,none⟩=some (.int .u8 d):=(bF hB 19).trans rfl;have D:w2.cell? ⟨g,20,none⟩=some (.int .u8 e):=(bF hB 20).trans rfl;clear hB;clear _t tok1_1) | (have _t:=tok1_2;refine ij rfl 158 _ _ rfl gp rfl _ rfl _ _ hBp np rfl (by simp[Value.oneCell']) ?_;intro w3 hB3 hu3;clear _t tok1_2))
  refine zA rfl rfl gp _ _ _ _ rfl hB3 Tryz.underlying158 rfl np ?_
  exact hpost.out _ (hu1.step (hu2.fresh1 hu3 hgp))
open Go.RowKit
theorem jW:∀ (xs ys:List Int),xs.length=ys.length→((List.range xs.length).all fun i=>xs.getD i 0==ys.getD i 0)=(xs==ys)
  | [],[],_=>rfl
  | x :: xs,y :: ys,h=>by
    have ih:=jW xs ys (by simpa using h)
    rw[List.length_cons,List.range_succ_eq_map,List.all_cons,List.all_map]
    simp only[List.getD_cons_zero,Function.comp_def,List.getD_cons_succ,ih]
    simp[List.cons_beq_cons]
  | [],_ :: _,h=>by simp at h
  | _ :: _,[],h=>by simp at h
theorem qF{P:Program}(w:World)(t e:TypeId)(k:IntKind)(n:Nat)(ht:P.underlying t=some (.array n e))(he:P.underlying e=some (.int k))(hsz:∀ w,(sizeOf e).run P w = .ok 1 w)
    (xs ys:List Int) (hx:xs.length=n) (hy:ys.length=n) :
    (binOp .eql t (.agg (xs.map (Value.int k)).toArray) (.agg (ys.map (Value.int k)).toArray)).run P w = .ok (.bool (xs==ys)) w:=by
  rw[run_eql_struct]
  suffices h:(Op.equalIn 10000 t (.agg (xs.map (Value.int k)).toArray) (.agg (ys.map (Value.int k)).toArray)).run P w = .ok (xs==ys) w by
    rw[h]
    rfl
  rw[show(10000:Nat)=9998+2 from rfl]
  rw[← jW xs ys (hx.trans hy.symm),hx,List.range_eq_range',Op.equalIn]
  simp only[Sem.run_bind,run_underlying ht,Result.andThen_ok,hsz,Std.Legacy.Range.forIn_eq_forIn_range',Std.Legacy.Range.size,Nat.sub_zero,Nat.add_sub_cancel,Nat.div_one]
  have hl:∀ i∈List.range' 0 n 1,i<n:=fun i hi=>by simpa using (List.mem_range'_1.1 hi).2
  generalize List.range' 0 n 1=l at hl ⊢
  induction l with
  | nil=>simp
  | cons i l ih =>
    have hi:i<n:=hl i (by simp)
    have px:(part e (xs.map (Value.int k)).toArray (i*1)).run P w = .ok (Value.int k (xs.getD i 0)) w:=by
      simp[part,isAgg,run_underlying he,List.getD,List.getElem?_eq_getElem (show i<xs.length by omega)]
    have py:(part e (ys.map (Value.int k)).toArray (i*1)).run P w = .ok (Value.int k (ys.getD i 0)) w:=by
      simp[part,isAgg,run_underlying he,List.getD,List.getElem?_eq_getElem (show i<ys.length by omega)]
    have pe:(Op.equalIn (9998+1) e (Value.int k (xs.getD i 0)) (Value.int k (ys.getD i 0))).run P w = .ok (xs.getD i 0==ys.getD i 0) w:=run_equalIn_int w 9998 e k k _ _ he
    simp only[List.forIn_cons,Sem.run_bind,px,py,pe,Result.andThen_ok,List.all_cons]
    cases hb:(xs.getD i 0==ys.getD i 0)
    · simp
    · simp only[Bool.not_true,Bool.false_eq_true,if_false,Sem.run_pure,Result.andThen_ok,Bool.true_and]
      exact ih fun j hj=>hl j (by simp[hj])
theorem yL{A:aT}(ha:ga A)(hb:ga B) : eI A=eI B↔A = { B with words:=A.words,bits:=A.bits,data:=A.data,recs:=A.recs,objects:=A.objects }:=by
  obtain⟨_,_,_,_,_,_,_,_,_,_,_,_,a1,a2,a3,a4,_⟩:=ha
  obtain⟨_,_,_,_,_,_,_,_,_,_,_,_,b1,b2,b3,b4,_⟩:=hb
  cases A;cases B
  simp only[B8] at a1 a2 a3 a4 b1 b2 b3 b4
  simp only[eI,List.cons.injEq,and_true,aT.mk.injEq,true_and]
  constructor
  · rintro⟨h1,h2,h3,h4,h5,h6,h7,h8,h9,a,b,c,e,f,d⟩
    refine⟨h1,h2,h3,h4,h5,h6,h7,h8,h9,a,b,c,?_,?_,?_,?_,d⟩<;>omega
  · rintro⟨h1,h2,h3,h4,h5,h6,h7,h8,h9,a,b,c,e,f,d,h,g⟩
    refine⟨h1,h2,h3,h4,h5,h6,h7,h8,h9,a,b,c,?_,?_,g⟩<;>omega
theorem CZ{A:aT}(ha:ga A)(hb:ga B) : A=B↔eI A=eI B∧A.words=B.words∧A.bits=B.bits∧A.data=B.data∧A.recs=B.recs∧A.objects=B.objects:=by
  rw[yL ha hb]
  constructor
  · rintro rfl
    exact⟨rfl,rfl,rfl,rfl,rfl,rfl⟩
  · rintro⟨h1,h2,h3,h4,h5,h6⟩
    rw[h1,h2,h3,h4,h5,h6]
open Go.RowKit
theorem ss{ev:Operand→Value}{o:Oper}{x y:Operand}{t:TypeId}{A:aT}  (ho:o.op = .binOp .eql 158 x y t)(hx:ev x = .agg (iV A))(hy:ev y = .agg (iV B)) :
    (execOp ev o).run Tryz.prog w = .ok (.value (.bool (eI A==eI B))) w:=by
  have hg:(eqGuard .eql 158 x y (.agg (iV A)) (.agg (iV B))).run Tryz.prog w = .ok () w:=run_eqGuard_agg w .eql _ x y _ _ (by kernel_rfl)
  have he:(binOp .eql 158 (.agg (iV A)) (.agg (iV B))).run Tryz.prog w = .ok (.bool (eI A==eI B)) w:=qF (P:=Tryz.prog) w 158 37 .u16 15 Tryz.underlying158 Tryz.underlying37 (fun w=>by kernel_rfl) (eI A) (eI B) rfl rfl
  unfold execOp
  simp only[ho,hx,hy,Sem.run_bind,hg,he,Sem.run_pure,Result.andThen]
theorem ig{A:aT}(ha:ga A)(hb:ga B) : decide (A=B)=(eI A==eI B&&(decide (A.words=B.words)&&(decide (A.bits=B.bits)&&(decide (A.data=B.data)&&(decide (A.recs=B.recs)&&decide (A.objects=B.objects)))))):=by
  rw[Bool.eq_iff_iff]
  simp only[Bool.and_eq_true,decide_eq_true_eq,beq_iff_eq]
  exact CZ ha hb
theorem ii{pc qc:Array Value}{A:aT}  (ha:aI m w pc.toList A)(hb:aI m' w qc.toList B) :
    Calls Tryz.prog 94 #[.agg pc,.agg qc] w (ej (decide (A=B)) w):=by
 have pM:=ha
 obtain⟨pvw,pvb,pvd,pvr,pvo,ph0,phw,phb,phd,phr,pho,pR⟩:=ha
 obtain rfl:pc=(eC A pvw pvb pvd pvr pvo).toArray:=by apply Array.toList_inj.1;simpa using ph0
 clear ph0
 obtain⟨pw,pkw,rfl,_,_⟩:=phw.shape
 obtain⟨pb,pkb,rfl,_,_⟩:=phb.shape
 obtain⟨pd,pkd,rfl,_,_⟩:=phd.shape
 obtain⟨pr,pkr,rfl,_,_⟩:=phr.shape
 obtain⟨po,pko,rfl,_,_⟩:=pho.shape
 have qM:=hb
 obtain⟨qvw,qvb,qvd,qvr,qvo,qh0,qhw,qhb,qhd,qhr,qho,qR⟩:=hb
 obtain rfl:qc=(eC B qvw qvb qvd qvr qvo).toArray:=by apply Array.toList_inj.1;simpa using qh0
 clear qh0
 obtain⟨qw,qkw,rfl,_,_⟩:=qhw.shape
 obtain⟨qb,qkb,rfl,_,_⟩:=qhb.shape
 obtain⟨qd,qkd,rfl,_,_⟩:=qhd.shape
 obtain⟨qr,qkr,rfl,_,_⟩:=qhr.shape
 obtain⟨qo,qko,rfl,_,_⟩:=qho.shape
 refine en 47 Tryz.func94 rfl<|sg<|L0<|da (mG A.code A.fail A.addr A.count A.value A.and_ A.or_ A.addr2 A.sub A.status A.events A.messages (.slice pw A.words.length pkw) (.slice pb A.bits.length pkb) (.slice pd A.data.length pkd) (.slice pr A.recs.length pkr) A.mei A.kind A.level A.more A.next (.slice po A.objects.length pko)) fun k ak al ab ac=>L0<|da (mG B.code B.fail B.addr B.count B.value B.and_ B.or_ B.addr2 B.sub B.status B.events B.messages (.slice qw B.words.length qkw) (.slice qb B.bits.length qkb) (.slice qd B.data.length qkd) (.slice qr B.recs.length qkr) B.mei B.kind B.level B.more B.next (.slice qo B.objects.length qko)) fun l am an ad X=>ah 1<|sq<|Rg 43 (fun w'=>w'.heap[k]? = some (.cells (mG A.code A.fail A.addr A.count A.value A.and_ A.or_ A.addr2 A.sub A.status A.events A.messages (.slice pw A.words.length pkw) (.slice pb A.bits.length pkb) (.slice pd A.data.length pkd) (.slice pr A.recs.length pkr) A.mei A.kind A.level A.more A.next (.slice po A.objects.length pko)) 45 (0,0))∧w'.heap[l]? = some (.cells (mG B.code B.fail B.addr B.count B.value B.and_ B.or_ B.addr2 B.sub B.status B.events B.messages (.slice qw B.words.length qkw) (.slice qb B.bits.length qkb) (.slice qd B.data.length qkd) (.slice qr B.recs.length qkr) B.mei B.kind B.level B.more B.next (.slice qo B.objects.length qko)) 45 (0,0))∧w'.cell? ⟨k,12,none⟩=some (.slice pw A.words.length pkw)∧w'.cell? ⟨l,12,none⟩=some (.slice qw B.words.length qkw)∧w'.cell? ⟨k,13,none⟩=some (.slice pb A.bits.length pkb)∧w'.cell? ⟨l,13,none⟩=some (.slice qb B.bits.length qkb)∧w'.cell? ⟨k,14,none⟩=some (.slice pd A.data.length pkd)∧aX false w' (.slice pd A.data.length pkd) A.data∧w'.cell? ⟨l,14,none⟩=some (.slice qd B.data.length qkd)∧aX false w' (.slice qd B.data.length qkd) B.data∧w'.cell? ⟨k,15,none⟩=some (.slice pr A.recs.length pkr)∧w'.cell? ⟨l,15,none⟩=some (.slice qr B.recs.length qkr)∧w'.cell? ⟨k,21,none⟩=some (.slice po A.objects.length pko)∧w'.cell? ⟨l,21,none⟩=some (.slice qo B.objects.length qko)) fun ao U=>?_
 have o:=ub (aJ X U) ab
 have p:=ub U ad
 have Q:=aJ (aJ ac X) U
 have Y:=aX.old phd Q
 have Z:=aX.old qhd Q
 refine bp ⟨o,p,(ae o rfl),(ae p rfl),(ae o rfl),(ae p rfl),(ae o rfl),(aS.any Y (fun _ _ h=>h)),(ae p rfl),(aS.any Z (fun _ _ h=>h)),(ae o rfl),(ae p rfl),(ae o rfl),(ae p rfl)⟩ fun a0=>Rr 0 a0 (.agg (mG A.code A.fail A.addr A.count A.value A.and_ A.or_ A.addr2 A.sub A.status A.events A.messages (.slice pw A.words.length pkw) (.slice pb A.bits.length pkb) (.slice pd A.data.length pkd) (.slice pr A.recs.length pkr) A.mei A.kind A.level A.more A.next (.slice po A.objects.length pko))) (fun w' hs=>gW (g:=k) (off:=0) [vB A.code,vB A.fail,vW A.addr,vW A.count,vW A.value,vW A.and_,vW A.or_,vW A.addr2,vW A.sub,vW A.status,vW A.events,vW A.messages,.slice pw A.words.length pkw,.slice pb A.bits.length pkb,.slice pd A.data.length pkd,.slice pr A.recs.length pkr,vB A.mei,vB A.kind,vB A.level,vB A.more,vB A.next,.slice po A.objects.length pko] rfl (by kernel_rfl) hs.1 (by kernel_rfl) (by kernel_rfl) rfl)<|Rr 2 a0 (.agg (mG B.code B.fail B.addr B.count B.value B.and_ B.or_ B.addr2 B.sub B.status B.events B.messages (.slice qw B.words.length qkw) (.slice qb B.bits.length qkb) (.slice qd B.data.length qkd) (.slice qr B.recs.length qkr) B.mei B.kind B.level B.more B.next (.slice qo B.objects.length qko))) (fun w' hs=>gW (g:=l) (off:=0) [vB B.code,vB B.fail,vW B.addr,vW B.count,vW B.value,vW B.and_,vW B.or_,vW B.addr2,vW B.sub,vW B.status,vW B.events,vW B.messages,.slice qw B.words.length qkw,.slice qb B.bits.length qkb,.slice qd B.data.length qkd,.slice qr B.recs.length qkr,vB B.mei,vB B.kind,vB B.level,vB B.more,vB B.next,.slice qo B.objects.length qko] rfl (by kernel_rfl) hs.2.1 (by kernel_rfl) (by kernel_rfl) rfl)<|?_
 refine R0 1 rfl<|Oc<|m1 (p7 (aI.old pM Q)) fun ap I=>?_
 have q:=ub I o
 have r:=ub I p
 have a1:=aX.old Y I
 have a2:=aX.old Z I
 refine bp ⟨q,r,(ae q rfl),(ae r rfl),(ae q rfl),(ae r rfl),(ae q rfl),(aS.any a1 (fun _ _ h=>h)),(ae r rfl),(aS.any a2 (fun _ _ h=>h)),(ae q rfl),(ae r rfl),(ae q rfl),(ae r rfl)⟩ fun aq=>?_
 have a3:=aJ Q I
 refine R0 3 rfl<|Oc<|m1 (p7 (aI.old qM a3)) fun ar J=>?_
 have s:=ub J q
 have t:=ub J r
 have a4:=aX.old a1 J
 have a5:=aX.old a2 J
 refine bp ⟨s,t,(ae s rfl),(ae t rfl),(ae s rfl),(ae t rfl),(ae s rfl),(aS.any a4 (fun _ _ h=>h)),(ae t rfl),(aS.any a5 (fun _ _ h=>h)),(ae s rfl),(ae t rfl),(ae s rfl),(ae t rfl)⟩ fun e=>Rr 4 e (.bool (eI A==eI B)) (fun _ _=>ss rfl (by kernel_rfl) (by kernel_rfl))<|Rt 5 e<|?_
 have R:=aJ a3 J
 refine vp 10 ((eI A==eI B)) (fun u=>?_) (fun u=>?_)
 refine Rt 6 e<|Rl 7 e (fun _ hs=>hs.2.2.1)<|Rt 8 e<|Rl 9 e (fun _ hs=>hs.2.2.2.1)<|?_
 refine R0 10 rfl<|Oc<|m1 (ve (eG.old phw R) (eG.old qhw R)) fun au K=>?_
 have v:=ub K s
 have x:=ub K t
 have a6:=aX.old a4 K
 have a7:=aX.old a5 K
 refine bp ⟨v,x,(ae v rfl),(ae x rfl),(ae v rfl),(ae x rfl),(ae v rfl),(aS.any a6 (fun _ _ h=>h)),(ae x rfl),(aS.any a7 (fun _ _ h=>h)),(ae v rfl),(ae x rfl),(ae v rfl),(ae x rfl)⟩ fun f=>Rt 11 f<|Rt 12 f<|?_
 have S:=aJ R K
 refine vp 17 ((decide (A.words=B.words))) (fun j=>?_) (fun j=>?_)
 have af:=of_decide_eq_true j
 refine Rt 13 f<|Rl 14 f (fun _ hs=>hs.2.2.2.2.1)<|Rt 15 f<|Rl 16 f (fun _ hs=>hs.2.2.2.2.2.1)<|?_
 refine R0 17 rfl<|Oc<|m1 (BB (jb.old phb S) (jb.old qhb S)) fun av L=>?_
 have y:=ub L v
 have z:=ub L x
 have V:=aX.old a6 L
 have W:=aX.old a7 L
 refine bp ⟨y,z,(ae y rfl),(ae z rfl),(ae y rfl),(ae z rfl),(ae y rfl),(aS.any V (fun _ _ h=>h)),(ae z rfl),(aS.any W (fun _ _ h=>h)),(ae y rfl),(ae z rfl),(ae y rfl),(ae z rfl)⟩ fun d=>Rt 18 d<|Rt 19 d<|?_
 have M:=aJ S L
 refine vp 24 ((decide (A.bits=B.bits))) (fun C=>?_) (fun C=>?_)
 have ag:=of_decide_eq_true C
 refine Rt 20 d<|Rl 21 d (fun _ hs=>hs.2.2.2.2.2.2.1)<|Rr 22 d (.string (strOfNums A.data)) (fun _ hs=>cS (A:=pd) (n:=A.data.length) (c:=pkd) rfl (by kernel_rfl) Tryz.underlying27 Tryz.underlying5 Tryz.underlying9 hs.2.2.2.2.2.2.2.1)<|Rt 23 d<|Rl 24 d (fun _ hs=>hs.2.2.2.2.2.2.2.2.1)<|Rr 25 d (.string (strOfNums B.data)) (fun _ hs=>cS (A:=qd) (n:=B.data.length) (c:=qkd) rfl (by kernel_rfl) Tryz.underlying27 Tryz.underlying5 Tryz.underlying9 hs.2.2.2.2.2.2.2.2.2.1)<|Rr 26 d (.bool (decide (A.data=B.data))) (fun _ _=>fY (a:=(strOfNums A.data)) (b:=(strOfNums B.data)) rfl (by kernel_rfl) (by kernel_rfl) (jX V W))<|Rt 27 d<|Rt 28 d<|vp 33 ((decide (A.data=B.data))) (fun F=>?_) (fun F=>?_)
 have ai:=of_decide_eq_true F
 refine Rt 29 d<|Rl 30 d (fun _ hs=>hs.2.2.2.2.2.2.2.2.2.2.1)<|Rt 31 d<|Rl 32 d (fun _ hs=>hs.2.2.2.2.2.2.2.2.2.2.2.1)<|?_
 refine R0 33 rfl<|Oc<|m1 (Az (oA.old phr M) (oA.old qhr M)) fun aw N=>?_
 have D:=ub N y
 have E:=ub N z
 have a8:=aX.old V N
 have a9:=aX.old W N
 refine bp ⟨D,E,(ae D rfl),(ae E rfl),(ae D rfl),(ae E rfl),(ae D rfl),(aS.any a8 (fun _ _ h=>h)),(ae E rfl),(aS.any a9 (fun _ _ h=>h)),(ae D rfl),(ae E rfl),(ae D rfl),(ae E rfl)⟩ fun i=>Rt 34 i<|Rt 35 i<|?_
 have T:=aJ M N
 refine vp 40 ((decide (A.recs=B.recs))) (fun O=>?_) (fun O=>?_)
 have aj:=of_decide_eq_true O
 refine Rt 36 i<|Rl 37 i (fun _ hs=>hs.2.2.2.2.2.2.2.2.2.2.2.2.1)<|Rt 38 i<|Rl 39 i (fun _ hs=>hs.2.2.2.2.2.2.2.2.2.2.2.2.2)<|?_
 refine R0 40 rfl<|Oc<|m1 (By (qA.old pho T) (qA.old qho T)) fun ax P=>?_
 have G:=ub P D
 have H:=ub P E
 refine bp ⟨G,H,(ae G rfl),(ae H rfl),(ae G rfl),(ae H rfl),(ae G rfl),(aS.any (aX.old a8 P) (fun _ _ h=>h)),(ae H rfl),(aS.any (aX.old a9 P) (fun _ _ h=>h)),(ae G rfl),(ae H rfl),(ae G rfl),(ae H rfl)⟩ fun aa=>Rt 41 aa<|Rt 42 aa<|re<|tn<|rt<|rr (.bool (decide (A.objects=B.objects)))<|?_
 have hs:decide (A=B)=(decide (A.objects=B.objects)):=by
   rw[ig pR qR]
   (try simp only[u,j,C,F,O,bj])
 rw[hs]
 exact⟨rfl,(aJ T P)⟩
 have aj:=of_decide_eq_false O
 refine Ro 36 i<|Ro 37 i<|Ro 38 i<|Ro 39 i<|Ro 40 i<|Rt 41 i<|Rt 42 i<|re<|tn<|rt<|rr (.bool false)<|?_
 have hs:decide (A=B)=false:=by
   rw[ig pR qR]
   (try simp only[u,j,C,F,O,bj])
 rw[hs]
 exact⟨rfl,T⟩
 have ai:=of_decide_eq_false F
 refine Ro 29 d<|Ro 30 d<|Ro 31 d<|Ro 32 d<|Ro 33 d<|Rt 34 d<|Rt 35 d<|Ro 36 d<|Ro 37 d<|Ro 38 d<|Ro 39 d<|Ro 40 d<|Rt 41 d<|Rt 42 d<|re<|tn<|rt<|rr (.bool false)<|?_
 have hs:decide (A=B)=false:=by
   rw[ig pR qR]
   (try simp only[u,j,C,F,bj])
 rw[hs]
 exact⟨rfl,M⟩
 have ag:=of_decide_eq_false C
 refine Ro 20 d<|Ro 21 d<|Ro 22 d<|Ro 23 d<|Ro 24 d<|Ro 25 d<|Ro 26 d<|Rt 27 d<|Rt 28 d<|Ro 29 d<|Ro 30 d<|Ro 31 d<|Ro 32 d<|Ro 33 d<|Rt 34 d<|Rt 35 d<|Ro 36 d<|Ro 37 d<|Ro 38 d<|Ro 39 d<|Ro 40 d<|Rt 41 d<|Rt 42 d<|re<|tn<|rt<|rr (.bool false)<|?_
 have hs:decide (A=B)=false:=by
   rw[ig pR qR]
   (try simp only[u,j,C,bj])
 rw[hs]
 exact⟨rfl,M⟩
 have af:=of_decide_eq_false j
 refine Ro 13 f<|Ro 14 f<|Ro 15 f<|Ro 16 f<|Ro 17 f<|Rt 18 f<|Rt 19 f<|Ro 20 f<|Ro 21 f<|Ro 22 f<|Ro 23 f<|Ro 24 f<|Ro 25 f<|Ro 26 f<|Rt 27 f<|Rt 28 f<|Ro 29 f<|Ro 30 f<|Ro 31 f<|Ro 32 f<|Ro 33 f<|Rt 34 f<|Rt 35 f<|Ro 36 f<|Ro 37 f<|Ro 38 f<|Ro 39 f<|Ro 40 f<|Rt 41 f<|Rt 42 f<|re<|tn<|rt<|rr (.bool false)<|?_
 have hs:decide (A=B)=false:=by
   rw[ig pR qR]
   (try simp only[u,j,bj])
 rw[hs]
 exact⟨rfl,S⟩
 refine Ro 6 e<|Ro 7 e<|Ro 8 e<|Ro 9 e<|Ro 10 e<|Rt 11 e<|Rt 12 e<|Ro 13 e<|Ro 14 e<|Ro 15 e<|Ro 16 e<|Ro 17 e<|Rt 18 e<|Rt 19 e<|Ro 20 e<|Ro 21 e<|Ro 22 e<|Ro 23 e<|Ro 24 e<|Ro 25 e<|Ro 26 e<|Rt 27 e<|Rt 28 e<|Ro 29 e<|Ro 30 e<|Ro 31 e<|Ro 32 e<|Ro 33 e<|Rt 34 e<|Rt 35 e<|Ro 36 e<|Ro 37 e<|Ro 38 e<|Ro 39 e<|Ro 40 e<|Rt 41 e<|Rt 42 e<|re<|tn<|rt<|rr (.bool false)<|?_
 have hs:decide (A=B)=false:=by
   rw[ig pR qR]
   (try simp only[u,bj])
 rw[hs]
 exact⟨rfl,R⟩
open Go.RowKit
def kk (Q:World→Ending→World→Prop)(w:World)(e:Ending)(w':World) : Prop:=∃ F free,e = .returned (.func (.func F) #[] free)∧CA Tryz.prog F=some (false,true)∧aH [] w w'∧Calls Tryz.prog F free w' (Q w')
theorem pi{a:Int}(hC:al w g C)(ha:0≤a∧a<65536) :
    Calls Tryz.prog 199 #[vP g 0,vW a,vI most] w (pj g .i64 65536 C.wordV (bN C a most) w):=by
 have hlen:=hC.len
 have hrr:=hC.wordV
 refine en 26 Tryz.func199 rfl<|ak 1<|aM 1<|ay<|m3 (ck hC) fun l d e m=>bq C.wordV<|ah 1<|ak 4<|cu 4 [14] 18 (((decide (1≤C.wordV))&&(decide (C.wordV≤most)))) (fun K c=>?_) ?_
 refine bl 14 ((decide (1≤C.wordV))) (fun b=>?_) (fun b=>?_)
 have f:=of_decide_eq_true b
 exact Pl 4<|ce c (decide (C.wordV≤most)) (by rw[b];rfl)
 have f:=of_decide_eq_false b
 exact Pl 4<|ce c false (by rw[b];rfl)
 refine ay<|m2 (bu (((decide (1≤C.wordV))&&(decide (C.wordV≤most)))) 5 d) fun o h i=>aM 3<|ay<|mq (kg (a:=a) (n:=C.wordV) (by omega))<|ay<|m2 (bu ((ee a C.wordV)) 7 h) fun p j k=>aM 2<|nl<|tn<|rt<|rr (vI C.wordV)<|?_
 exact cC (by unfold bN;(try simp only[bj,reduceIte])<;>rfl) ⟨rfl,j,(u1 e (u1 i k im) im),hrr⟩
theorem lM{n:Int}(hC:al w g C)(hn:0≤n∧n<65536) :
    Calls Tryz.prog 205 #[vP g 0,vI n] w (fun e w'=>∃ v,e = .returned v∧mg w.heap.size w' v ((di C n).wordsR n)∧al w' g ((di C n).wordsC n)∧aH [g] w w'):=by
 have hlen:=hC.len
 refine en 16 Tryz.func205 rfl<|ak 1<|aM 2<|ay<|m3 (cl hC) fun l c a m=>bq C.byteV<|Pl 1<|bq (2*n)<|Pl 1<|ay<|m2 (bu ((C.byteV==(2*n))) 5 c) fun o d b=>?_
 refine aM 2<|ay<|qH (f5 (n:=n) d) fun f h p i q r j k=>ah 1<|rt<|rr (.slice f ((((C.bytesC 1).need (C.byteV==(2*n)) 5).wordsR n).length) h)<|?_
 have hs:di C n=((C.bytesC 1).need (C.byteV==(2*n)) 5):=by
   unfold di
   (try simp only[bj,reduceIte])
   all_goals rfl
 rw[hs]
 exact⟨_,rfl,(b7.weaken i (le a.size b.size)),j,(u1 a (u1 b k im) im)⟩
theorem jN(hcode:B8 c)(hC:al w g C)(hm:w.heap[gm]? = some (.cells (mC c) 45 (0,0)))(hne:g≠gm)   (hbc:w.heap[bc]? = some (.cells #[vP g 0] 164 (0,0)))(n_bc_g:bc≠g)(n_bc_gm:bc≠gm)(hbm:w.heap[bm]? = some (.cells #[vP gm 0] 166 (0,0)))(n_bm_g:bm≠g)(n_bm_gm:bm≠gm) :
    Calls Tryz.prog 198 #[vI most,vP bc 0,vP bm 0] w (tt g gm (bN (C.wordsC 1) C.wordV most) (mG c 0 C.wordV (C.wordsC 1).wordV 0 0 0 0 0 0 0 0 nS nS nS nS 0 0 0 0 0 nS) w):=by
 obtain⟨hcode1,hcode2⟩:=hcode
 have hlen:=hC.len
 refine en 20 Tryz.func198 rfl<|sq<|Rg 6 (fun w'=>w'.cell? ⟨bm,0,none⟩=some (vP gm 0)∧w'.cell? ⟨bc,0,none⟩=some (vP g 0)) fun I d=>?_
 have m:=ub d hbm
 have n:=ub d hbc
 refine bp ⟨(ae m rfl),(ae n rfl)⟩ fun o=>Rl 0 o (fun _ hs=>hs.1)<|Rl 1 o (fun _ hs=>hs.2)<|?_
 refine R0 2 rfl<|Oc<|m3 (ck (al.old hC d)) fun J F i K=>?_
 have p:=be i n_bm_g m
 have q:=be i n_bc_g n
 refine bp ⟨(ae p rfl),(ae q rfl)⟩ fun r=>Rt 3 r<|Rt 4 r<|?_
 have s:=uz d i
 have t:=be s (Ne.symm hne) hm
 refine R0 5 rfl<|cm t 2 (mG c 0 C.wordV 0 0 0 0 0 0 0 0 0 nS nS nS nS 0 0 0 0 0 nS) fun L G j=>?_
 have u:=be j n_bm_gm p
 have v:=be j n_bc_gm q
 refine bp ⟨(ae u rfl),(ae v rfl)⟩ fun M=>re<|tn<|Rg 12 (fun w'=>w'.cell? ⟨bm,0,none⟩=some (vP gm 0)∧w'.cell? ⟨bc,0,none⟩=some (vP g 0)∧w'.cell? ⟨gm,2,none⟩=some (vW C.wordV)) fun N e=>?_
 have x:=ub e u
 have y:=ub e v
 have z:=ub e G
 refine bp ⟨(ae x rfl),(ae y rfl),(ae z rfl)⟩ fun b=>Rl 0 b (fun _ hs=>hs.1)<|Rl 1 b (fun _ hs=>hs.2.1)<|Rl 2 b (fun _ hs=>hs.1)<|Rt 3 b<|Rt 4 b<|Rl 5 b (fun _ hs=>hs.2.2)<|Rt 6 b<|?_
 have A:=aJ j e
 refine R0 7 rfl<|Oc<|m3 (pi (a:=C.wordV) (most:=most) (al.upd F A (aa hne aF) (av (b6 t (by decide)) aN)) (by omega)) fun O H f P=>?_
 have B:=be f n_bm_g x
 have D:=be f n_bc_g y
 have k:=be f (Ne.symm hne) z
 refine bp ⟨(ae B rfl),(ae D rfl),(ae k rfl)⟩ fun l=>Rr 8 l (vW ((C.wordsC 1).wordV)) (fun _ _=>bW (vW (IntKind.u16.wrap ((C.wordsC 1).wordV))) (by kernel_rfl) (congrArg (Value.int .u16) (jm (by omega))))<|Rt 9 l<|Rt 10 l<|R0 11 rfl<|cm k 3 (mG c 0 C.wordV ((C.wordsC 1).wordV) 0 0 0 0 0 0 0 0 nS nS nS nS 0 0 0 0 0 nS) fun Q E h=>?_
 refine bp ⟨(ae (be h n_bm_gm B) rfl),(ae (be h n_bc_gm D) rfl),(ae E rfl)⟩ fun R=>re<|rm (.tuple #[])<|?_
 exact⟨rfl,(al.upd H h (aa hne aF) (av (b6 k (by decide)) aN)),E,(ui s (ui A (us f h)))⟩
theorem EU(hcode:B8 c)(hC:al w g C)(hm:w.heap[gm]? = some (.cells (mC c) 45 (0,0)))(hne:g≠gm)    (hbc:w.heap[bc]? = some (.cells #[vP g 0] 164 (0,0)))(n_bc_g:bc≠g)(n_bc_gm:bc≠gm)(hbm:w.heap[bm]? = some (.cells #[vP gm 0] 166 (0,0)))(n_bm_g:bm≠g)(n_bm_gm:bm≠gm)(hbw:w.heap[bw]? = some (.cells #[.func (.func 198) #[] #[vP bc 0,vP bm 0]] 218 (0,0)))(n_bw_g:bw≠g)(n_bw_gm:bw≠gm) :
    Calls Tryz.prog 200 #[vP bw 0] w (cX g gm (cz 125 c C).1 (cz 125 c C).2 w):=by
 obtain⟨hcode1,hcode2⟩:=hcode
 have hlen:=hC.len
 refine en 3 Tryz.func200 rfl<|go<|aE hbw 0<|L0<|i8 #[] #[vP bc 0,vP bm 0] (args:=#[vI 125,vP bc 0,vP bm 0])<|m3 (jN (most:=125) ⟨hcode1,hcode2⟩ hC hm hne hbc n_bc_g n_bc_gm hbm n_bm_g n_bm_gm) fun e a b d=>?_
 have f:=(hC).wordV
 have h:=bU (d7 (hC).rng 1)
 refine nl<|rm (.tuple #[])<|?_
 have hs:cz 125 c C=((bN (C.wordsC 1) C.wordV 125),(aT.mk c 0 C.wordV ((C.wordsC 1).wordV) 0 0 0 0 0 0 0 0 [] [] [] [] 0 0 0 0 0 [])):=by
   unfold cz
   (try simp only[bj,reduceIte])
   all_goals rfl
 rw[hs]
 exact⟨rfl,a,⟨_,⟨b,rfl⟩,⟨_,_,_,_,_,rfl,aS.nil ..,aS.nil ..,aS.nil ..,aS.nil ..,aS.nil ..,(cY (by omega))⟩⟩,d⟩
theorem Ew(hcode:B8 c)(hC:al w g C)(hm:w.heap[gm]? = some (.cells (mC c) 45 (0,0)))(hne:g≠gm)   (hbc:w.heap[bc]? = some (.cells #[vP g 0] 164 (0,0)))(n_bc_g:bc≠g)(n_bc_gm:bc≠gm)(hbm:w.heap[bm]? = some (.cells #[vP gm 0] 166 (0,0)))(n_bm_g:bm≠g)(n_bm_gm:bm≠gm) :
    Calls Tryz.prog 201 #[vP bc 0,vP bm 0] w (cX g gm (cO c C).1 (cO c C).2 w):=by
 obtain⟨hcode1,hcode2⟩:=hcode
 have hlen:=hC.len
 refine en 26 Tryz.func201 rfl<|sg<|aE hbc 0<|ay<|m3 (cl hC) fun L B k M=>bq C.byteV<|Pl 1<|ng<|?_
 have l:=be k n_bc_g hbc
 refine aE l 0<|Pl 1<|L0<|Oe (vI (Int.tmod C.byteV 2)) (vI (C.byteV%2)) (congrArg (Value.int .i64) (Int.tmod_eq_emod_of_nonneg (by omega)))<|Pl 2<|cu 3 [10] 13 ((((C.byteV%2)==0)&&(decide (2≤C.byteV)))) (fun K m=>?_) ?_
 refine bl 10 (((C.byteV%2)==0)) (fun a=>?_) (fun a=>?_)
 have D:=ag a
 exact Pl 3<|ce m (decide (2≤C.byteV)) (by rw[a];rfl)
 have D:=am a
 exact Pl 3<|ce m false (by rw[a];rfl)
 refine Pl 1<|cu 3 [14] 17 (((((C.byteV%2)==0)&&(decide (2≤C.byteV)))&&(decide (C.byteV≤250)))) (fun K o=>?_) ?_
 refine bl 14 ((((C.byteV%2)==0)&&(decide (2≤C.byteV)))) (fun f=>?_) (fun f=>?_)
 exact Pl 3<|ce o (decide (C.byteV≤250)) (by rw[f];rfl)
 exact Pl 3<|ce o false (by rw[f];rfl)
 refine ay<|m2 (bu (((((C.byteV%2)==0)&&(decide (2≤C.byteV)))&&(decide (C.byteV≤250)))) 5 B) fun N E F=>nt<|Rg 8 (fun w'=>w'.cell? ⟨bm,0,none⟩=some (vP gm 0)∧w'.cell? ⟨bc,0,none⟩=some (vP g 0)) fun O p=>?_
 have q:=aJ F p
 have i:=u1 k q im
 have r:=be i n_bm_g hbm
 have s:=be q n_bc_g l
 refine bp ⟨(ae r rfl),(ae s rfl)⟩ fun d=>Rl 0 d (fun _ hs=>hs.1)<|Rl 1 d (fun _ hs=>hs.2)<|Rt 2 d<|Rr 3 d (vI (C.byteV/2)) (fun _ _=>bW (vI (IntKind.i64.wrap (Int.tdiv C.byteV 2))) (by kernel_rfl) (congrArg (Value.int .i64) (gX (by omega) (by omega))))<|?_
 refine R0 4 rfl<|Oc<|qH (f5 (n:=(C.byteV/2)) (al.old E p)) fun G H P t Q R I j=>?_
 have u:=be j n_bm_g r
 have v:=be j n_bc_g s
 refine bp ⟨(ae u rfl),(ae v rfl)⟩ fun y=>Rt 5 y<|Rt 6 y<|?_
 have z:=u1 i j im
 have A:=be z (Ne.symm hne) hm
 refine R0 7 rfl<|cm A 12 (mG c 0 0 0 0 0 0 0 0 0 0 0 (.slice G ((((C.bytesC 1).need ((((C.byteV%2)==0)&&(decide (2≤C.byteV)))&&(decide (C.byteV≤250))) 5).wordsR (C.byteV/2)).length) H) nS nS nS 0 0 0 0 0 nS) fun S J b=>?_
 refine bp ⟨(ae (be b n_bm_gm u) rfl),(ae (be b n_bc_gm v) rfl)⟩ fun T=>re<|rm (.tuple #[])<|?_
 exact cC (by unfold cO m7 jt;(try simp only[bj,reduceIte])<;>rfl) ⟨rfl,(al.upd I b (aa hne aF) (av (b6 A (by decide)) aN)),⟨_,⟨J,rfl⟩,⟨_,_,_,_,_,rfl,((ax t b (fun x hx=>(aa (fun e=>(aL (au hm) i.size t) (e▸hx)) aF)) (fun _ _ h=>h))).rd,aS.nil ..,aS.nil ..,aS.nil ..,aS.nil ..,(cY (by omega))⟩⟩,(us z b)⟩
theorem EV(hcode:B8 c)(hC:al w g C)(hm:w.heap[gm]? = some (.cells (mC c) 45 (0,0)))(hne:g≠gm)   (hbc:w.heap[bc]? = some (.cells #[vP g 0] 164 (0,0)))(n_bc_g:bc≠g)(n_bc_gm:bc≠gm)(hbm:w.heap[bm]? = some (.cells #[vP gm 0] 166 (0,0)))(n_bm_g:bm≠g)(n_bm_gm:bm≠gm) :
    Calls Tryz.prog 203 #[vP bc 0,vP bm 0] w (cX g gm (ei c C).1 (ei c C).2 w):=by
 obtain⟨hcode1,hcode2⟩:=hcode
 have hlen:=hC.len
 refine en 12 Tryz.func203 rfl<|Rg 12 (fun w'=>w'.cell? ⟨bm,0,none⟩=some (vP gm 0)∧w'.cell? ⟨bc,0,none⟩=some (vP g 0)) fun A a=>?_
 have i:=ub a hbm
 have j:=ub a hbc
 refine bp ⟨(ae i rfl),(ae j rfl)⟩ fun b=>Rl 0 b (fun _ hs=>hs.1)<|Rl 1 b (fun _ hs=>hs.1)<|Rl 2 b (fun _ hs=>hs.2)<|Rl 4 b (fun _ hs=>hs.2)<|?_
 refine R0 3 rfl<|Oc<|m3 (ck (al.old hC a)) fun B v d D=>?_
 have k:=be d n_bm_g i
 have l:=be d n_bc_g j
 refine bp ⟨(ae k rfl),(ae l rfl)⟩ fun E=>R0 5 rfl<|Oc<|m3 (ck v) fun F x e G=>?_
 have m:=be e n_bm_g k
 have n:=be e n_bc_g l
 refine bp ⟨(ae m rfl),(ae n rfl)⟩ fun o=>Rt 6 o<|Rt 7 o<|?_
 have p:=uz a (u1 d e im)
 have q:=be p (Ne.symm hne) hm
 refine R0 8 rfl<|cm q 2 (mG c 0 C.wordV 0 0 0 0 0 0 0 0 0 nS nS nS nS 0 0 0 0 0 nS) fun H y f=>?_
 have r:=be f n_bm_gm m
 have s:=be f n_bc_gm n
 refine bp ⟨(ae r rfl),(ae s rfl)⟩ fun t=>Rt 9 t<|Rt 10 t<|R0 11 rfl<|cm y 4 (mG c 0 C.wordV 0 ((C.wordsC 1).wordV) 0 0 0 0 0 0 0 nS nS nS nS 0 0 0 0 0 nS) fun I z h=>?_
 refine bp ⟨(ae (be h n_bm_gm r) rfl),(ae (be h n_bc_gm s) rfl)⟩ fun J=>re<|rm (.tuple #[])<|?_
 have hs:ei c C=(((C.wordsC 1).wordsC 1),(aT.mk c 0 C.wordV 0 ((C.wordsC 1).wordV) 0 0 0 0 0 0 0 [] [] [] [] 0 0 0 0 0 [])):=by
   unfold ei
   (try simp only[bj,reduceIte])
   all_goals rfl
 rw[hs]
 have u:=u1 f h im
 exact⟨rfl,(al.upd x u (aa hne aF) (av (b6 q (by decide)) aN)),⟨_,⟨z,rfl⟩,⟨_,_,_,_,_,rfl,aS.nil ..,aS.nil ..,aS.nil ..,aS.nil ..,aS.nil ..,(cY (by omega))⟩⟩,(us p u)⟩
theorem Ee{ask:Bool}     (hcode:B8 c)(hC:al w g C)(hm:w.heap[gm]? = some (.cells (mC c) 45 (0,0)))(hne:g≠gm)    {ba:Nat}(hbc:w.heap[bc]? = some (.cells #[vP g 0] 164 (0,0)))(n_bc_g:bc≠g)(n_bc_gm:bc≠gm)(hbm:w.heap[bm]? = some (.cells #[vP gm 0] 166 (0,0)))(n_bm_g:bm≠g)(n_bm_gm:bm≠gm)(hbw:w.heap[bw]? = some (.cells #[.func (.func 198) #[] #[vP bc 0,vP bm 0]] 218 (0,0)))(n_bw_g:bw≠g)(n_bw_gm:bw≠gm)(hba:w.heap[ba]? = some (.cells #[.bool ask] 4 (0,0)))(n_ba_g:ba≠g)(n_ba_gm:ba≠gm)(hask:ask=true) :
    Calls Tryz.prog 204 #[vP bw 0,vP ba 0,vP bc 0,vP bm 0] w (cX g gm (dr c C).1 (dr c C).2 w):=by
 obtain⟨hcode1,hcode2⟩:=hcode
 have hlen:=hC.len
 refine en 17 Tryz.func204 rfl<|sg<|aE hbw 0<|L0<|i8 #[] #[vP bc 0,vP bm 0] (args:=#[vI 123,vP bc 0,vP bm 0])<|m3 (jN (most:=123) ⟨hcode1,hcode2⟩ hC hm hne hbc n_bc_g n_bc_gm hbm n_bm_g n_bm_gm) fun B u v k=>?_
 have D:=(hC).wordV
 have E:=bU (d7 (hC).rng 1)
 refine ng<|?_
 refine aE (aH.blk k (aa n_ba_g (aa n_ba_gm aF)) hba) 0<|nt<|ct hask<|Rg 11 (fun w'=>w'.cell? ⟨bm,0,none⟩=some (vP gm 0)∧w'.cell? ⟨bc,0,none⟩=some (vP g 0)∧w'.cell? ⟨gm,3,none⟩=some (vW ((C.wordsC 1).wordV))) fun F i=>?_
 have d:=aJ k i
 have l:=aH.blk d (aa n_bm_g (aa n_bm_gm aF)) hbm
 have m:=aH.blk d (aa n_bc_g (aa n_bc_gm aF)) hbc
 have o:=ub i v
 refine bp ⟨(ae l rfl),(ae m rfl),(ae o rfl)⟩ fun a=>Rl 0 a (fun _ hs=>hs.1)<|Rl 1 a (fun _ hs=>hs.2.1)<|Rl 2 a (fun _ hs=>hs.1)<|Rt 3 a<|Rt 4 a<|Rl 5 a (fun _ hs=>hs.2.2)<|Rr 6 a (vI ((C.wordsC 1).wordV)) (fun _ _=>bW (vI (IntKind.i64.wrap ((C.wordsC 1).wordV))) (by kernel_rfl) (congrArg (Value.int .i64) (i64_in (by omega))))<|?_
 refine R0 7 rfl<|Oc<|qH (lM (n:=(C.wordsC 1).wordV) (al.old u i) (by omega)) fun y z G p H I A f=>?_
 have q:=be f n_bm_g l
 have r:=be f n_bc_g m
 have j:=be f (Ne.symm hne) o
 refine bp ⟨(ae q rfl),(ae r rfl),(ae j rfl)⟩ fun s=>Rt 8 s<|Rt 9 s<|R0 10 rfl<|cm j 12 (mG c 0 C.wordV ((C.wordsC 1).wordV) 0 0 0 0 0 0 0 0 (.slice y (((di (bN (C.wordsC 1) C.wordV 123) ((C.wordsC 1).wordV)).wordsR ((C.wordsC 1).wordV)).length) z) nS nS nS 0 0 0 0 0 nS) fun J t b=>?_
 refine bp ⟨(ae (be b n_bm_gm q) rfl),(ae (be b n_bc_gm r) rfl),(ae t rfl)⟩ fun K=>re<|rm (.tuple #[])<|?_
 have hs:dr c C=(((di (bN (C.wordsC 1) C.wordV 123) ((C.wordsC 1).wordV)).wordsC ((C.wordsC 1).wordV)),(aT.mk c 0 C.wordV ((C.wordsC 1).wordV) 0 0 0 0 0 0 0 0 ((di (bN (C.wordsC 1) C.wordV 123) ((C.wordsC 1).wordV)).wordsR ((C.wordsC 1).wordV)) [] [] [] 0 0 0 0 0 [])):=by
   unfold dr jj
   (try simp only[hask,bj,reduceIte])
   all_goals rfl
 rw[hs]
 exact⟨rfl,(al.upd A b (aa hne aF) (av (b6 j (by decide)) aN)),⟨_,⟨t,rfl⟩,⟨_,_,_,_,_,rfl,((ax p b (fun x hx=>(aa (fun e=>(aL (au hm) d.size p) (e▸hx)) aF)) (fun _ _ h=>h))).rd,aS.nil ..,aS.nil ..,aS.nil ..,aS.nil ..,(cY (by omega))⟩⟩,(ut d (us f b) (ac im (ac im aC)))⟩
theorem Ey{ask:Bool}     (hcode:B8 c)(hC:al w g C)(hm:w.heap[gm]? = some (.cells (mC c) 45 (0,0)))(hne:g≠gm)    {ba:Nat}(hbc:w.heap[bc]? = some (.cells #[vP g 0] 164 (0,0)))(n_bc_g:bc≠g)(n_bc_gm:bc≠gm)(hbm:w.heap[bm]? = some (.cells #[vP gm 0] 166 (0,0)))(n_bm_g:bm≠g)(n_bm_gm:bm≠gm)(hbw:w.heap[bw]? = some (.cells #[.func (.func 198) #[] #[vP bc 0,vP bm 0]] 218 (0,0)))(n_bw_g:bw≠g)(n_bw_gm:bw≠gm)(hba:w.heap[ba]? = some (.cells #[.bool ask] 4 (0,0)))(n_ba_g:ba≠g)(n_ba_gm:ba≠gm)(hask:ask=false) :
    Calls Tryz.prog 204 #[vP bw 0,vP ba 0,vP bc 0,vP bm 0] w (cX g gm (cz 123 c C).1 (cz 123 c C).2 w):=by
 obtain⟨hcode1,hcode2⟩:=hcode
 have hlen:=hC.len
 refine en 17 Tryz.func204 rfl<|sg<|aE hbw 0<|L0<|i8 #[] #[vP bc 0,vP bm 0] (args:=#[vI 123,vP bc 0,vP bm 0])<|m3 (jN (most:=123) ⟨hcode1,hcode2⟩ hC hm hne hbc n_bc_g n_bc_gm hbm n_bm_g n_bm_gm) fun e b d a=>?_
 have f:=(hC).wordV
 have h:=bU (d7 (hC).rng 1)
 refine ng<|?_
 refine aE (aH.blk a (aa n_ba_g (aa n_ba_gm aF)) hba) 0<|nt<|cf hask<|sk<|rm (.tuple #[])<|?_
 have hs:cz 123 c C=((bN (C.wordsC 1) C.wordV 123),(aT.mk c 0 C.wordV ((C.wordsC 1).wordV) 0 0 0 0 0 0 0 0 [] [] [] [] 0 0 0 0 0 [])):=by
   unfold cz
   (try simp only[hask,bj,reduceIte])
   all_goals rfl
 rw[hs]
 exact⟨rfl,b,⟨_,⟨d,rfl⟩,⟨_,_,_,_,_,rfl,aS.nil ..,aS.nil ..,aS.nil ..,aS.nil ..,aS.nil ..,(cY (by omega))⟩⟩,a⟩
theorem EW(hcode:B8 c)(hC:al w g C)(hm:w.heap[gm]? = some (.cells (mC c) 45 (0,0)))(hne:g≠gm)   (hbc:w.heap[bc]? = some (.cells #[vP g 0] 164 (0,0)))(n_bc_g:bc≠g)(n_bc_gm:bc≠gm)(hbm:w.heap[bm]? = some (.cells #[vP gm 0] 166 (0,0)))(n_bm_g:bm≠g)(n_bm_gm:bm≠gm) :
    Calls Tryz.prog 206 #[vP bc 0,vP bm 0] w (cX g gm (dh c C).1 (dh c C).2 w):=by
 obtain⟨hcode1,hcode2⟩:=hcode
 have hlen:=hC.len
 refine en 17 Tryz.func206 rfl<|Rg 18 (fun w'=>w'.cell? ⟨bm,0,none⟩=some (vP gm 0)∧w'.cell? ⟨bc,0,none⟩=some (vP g 0)) fun K b=>?_
 have k:=ub b hbm
 have l:=ub b hbc
 refine bp ⟨(ae k rfl),(ae l rfl)⟩ fun a=>Rl 0 a (fun _ hs=>hs.1)<|Rl 1 a (fun _ hs=>hs.1)<|Rl 2 a (fun _ hs=>hs.1)<|Rl 3 a (fun _ hs=>hs.2)<|Rl 5 a (fun _ hs=>hs.2)<|Rl 7 a (fun _ hs=>hs.2)<|?_
 refine R0 4 rfl<|Oc<|m3 (ck (al.old hC b)) fun L E d M=>?_
 have m:=be d n_bm_g k
 have n:=be d n_bc_g l
 refine bp ⟨(ae m rfl),(ae n rfl)⟩ fun N=>R0 6 rfl<|Oc<|m3 (ck E) fun O F e P=>?_
 have o:=be e n_bm_g m
 have p:=be e n_bc_g n
 refine bp ⟨(ae o rfl),(ae p rfl)⟩ fun Q=>R0 8 rfl<|Oc<|m3 (ck F) fun R G f S=>?_
 have q:=be f n_bm_g o
 have r:=be f n_bc_g p
 refine bp ⟨(ae q rfl),(ae r rfl)⟩ fun s=>Rt 9 s<|Rt 10 s<|?_
 have t:=uz b (u1 d (u1 e f im) im)
 have u:=be t (Ne.symm hne) hm
 refine R0 11 rfl<|cm u 2 (mG c 0 C.wordV 0 0 0 0 0 0 0 0 0 nS nS nS nS 0 0 0 0 0 nS) fun T H h=>?_
 have v:=be h n_bm_gm q
 have x:=be h n_bc_gm r
 refine bp ⟨(ae v rfl),(ae x rfl)⟩ fun y=>Rt 12 y<|Rt 13 y<|R0 14 rfl<|cm H 5 (mG c 0 C.wordV 0 0 ((C.wordsC 1).wordV) 0 0 0 0 0 0 nS nS nS nS 0 0 0 0 0 nS) fun U I i=>?_
 have z:=be i n_bm_gm v
 have A:=be i n_bc_gm x
 refine bp ⟨(ae z rfl),(ae A rfl)⟩ fun B=>Rt 15 B<|Rt 16 B<|R0 17 rfl<|cm I 6 (mG c 0 C.wordV 0 0 ((C.wordsC 1).wordV) (((C.wordsC 1).wordsC 1).wordV) 0 0 0 0 0 nS nS nS nS 0 0 0 0 0 nS) fun V J j=>?_
 refine bp ⟨(ae (be j n_bm_gm z) rfl),(ae (be j n_bc_gm A) rfl)⟩ fun W=>re<|rm (.tuple #[])<|?_
 have hs:dh c C=((((C.wordsC 1).wordsC 1).wordsC 1),(aT.mk c 0 C.wordV 0 0 ((C.wordsC 1).wordV) (((C.wordsC 1).wordsC 1).wordV) 0 0 0 0 0 [] [] [] [] 0 0 0 0 0 [])):=by
   unfold dh
   (try simp only[bj,reduceIte])
   all_goals rfl
 rw[hs]
 have D:=u1 h (u1 i j im) im
 exact⟨rfl,(al.upd G D (aa hne aF) (av (b6 u (by decide)) aN)),⟨_,⟨J,rfl⟩,⟨_,_,_,_,_,rfl,aS.nil ..,aS.nil ..,aS.nil ..,aS.nil ..,aS.nil ..,(cY (by omega))⟩⟩,(us t D)⟩
theorem F7(hcode:B8 c)(hC:al w g C)(hm:w.heap[gm]? = some (.cells (mC c) 45 (0,0)))(hne:g≠gm)    (hbc:w.heap[bc]? = some (.cells #[vP g 0] 164 (0,0)))(n_bc_g:bc≠g)(n_bc_gm:bc≠gm)(hbm:w.heap[bm]? = some (.cells #[vP gm 0] 166 (0,0)))(n_bm_g:bm≠g)(n_bm_gm:bm≠gm)(hbw:w.heap[bw]? = some (.cells #[.func (.func 198) #[] #[vP bc 0,vP bm 0]] 218 (0,0)))(n_bw_g:bw≠g)(n_bw_gm:bw≠gm) :
    Calls Tryz.prog 207 #[vP bw 0,vP bc 0,vP bm 0] w (cX g gm (dv c C).1 (dv c C).2 w):=by
 obtain⟨hcode1,hcode2⟩:=hcode
 have hlen:=hC.len
 refine en 21 Tryz.func207 rfl<|sg<|aE hbw 0<|L0<|i8 #[] #[vP bc 0,vP bm 0] (args:=#[vI 125,vP bc 0,vP bm 0])<|m3 (jN (most:=125) ⟨hcode1,hcode2⟩ hC hm hne hbc n_bc_g n_bc_gm hbm n_bm_g n_bm_gm) fun X P Q q=>?_
 have Y:=(hC).wordV
 have Z:=bU (d7 (hC).rng 1)
 refine nt<|sq<|Rg 6 (fun w'=>w'.cell? ⟨bm,0,none⟩=some (vP gm 0)∧w'.cell? ⟨bc,0,none⟩=some (vP g 0)) fun a0 k=>?_
 have o:=aJ q k
 have r:=aH.blk o (aa n_bm_g (aa n_bm_gm aF)) hbm
 have s:=aH.blk o (aa n_bc_g (aa n_bc_gm aF)) hbc
 refine bp ⟨(ae r rfl),(ae s rfl)⟩ fun t=>Rl 0 t (fun _ hs=>hs.1)<|Rl 1 t (fun _ hs=>hs.2)<|?_
 refine R0 2 rfl<|Oc<|m3 (ck (al.old P k)) fun a1 R d a2=>?_
 have u:=be d n_bm_g r
 have v:=be d n_bc_g s
 refine bp ⟨(ae u rfl),(ae v rfl)⟩ fun y=>Rt 3 y<|Rt 4 y<|?_
 have z:=be (uz k d) (Ne.symm hne) Q
 refine R0 5 rfl<|cm z 7 (mG c 0 C.wordV ((C.wordsC 1).wordV) 0 0 0 ((bN (C.wordsC 1) C.wordV 125).wordV) 0 0 0 0 nS nS nS nS 0 0 0 0 0 nS) fun a3 S l=>?_
 have A:=be l n_bm_gm u
 have B:=be l n_bc_gm v
 refine bp ⟨(ae A rfl),(ae B rfl)⟩ fun a4=>re<|tn<|Rg 12 (fun w'=>w'.cell? ⟨bm,0,none⟩=some (vP gm 0)∧w'.cell? ⟨bc,0,none⟩=some (vP g 0)∧w'.cell? ⟨gm,7,none⟩=some (vW ((bN (C.wordsC 1) C.wordV 125).wordV))) fun a5 f=>?_
 have D:=ub f A
 have E:=ub f B
 have F:=ub f S
 refine bp ⟨(ae D rfl),(ae E rfl),(ae F rfl)⟩ fun b=>Rl 0 b (fun _ hs=>hs.1)<|Rl 1 b (fun _ hs=>hs.2.1)<|Rl 2 b (fun _ hs=>hs.2.1)<|Rl 3 b (fun _ hs=>hs.1)<|Rt 4 b<|Rt 5 b<|Rl 6 b (fun _ hs=>hs.2.2)<|?_
 have G:=aJ l f
 refine R0 7 rfl<|Oc<|m3 (pi (a:=(bN (C.wordsC 1) C.wordV 125).wordV) (most:=121) (al.upd R G (aa hne aF) (av (b6 z (by decide)) aN)) (by omega)) fun a6 T i a7=>?_
 have H:=be i n_bm_g D
 have I:=be i n_bc_g E
 have J:=be i (Ne.symm hne) F
 refine bp ⟨(ae H rfl),(ae I rfl),(ae J rfl)⟩ fun a8=>R0 8 rfl<|Oc<|qH (lM (n:=((bN (C.wordsC 1) C.wordV 125).wordsC 1).wordV) T (by omega)) fun U V a9 K ab ad W m=>?_
 have L:=be m n_bm_g H
 have M:=be m n_bc_g I
 have p:=be m (Ne.symm hne) J
 refine bp ⟨(ae L rfl),(ae M rfl),(ae p rfl)⟩ fun N=>Rt 9 N<|Rt 10 N<|R0 11 rfl<|cm p 12 (mG c 0 C.wordV ((C.wordsC 1).wordV) 0 0 0 ((bN (C.wordsC 1) C.wordV 125).wordV) 0 0 0 0 (.slice U (((di (bN ((bN (C.wordsC 1) C.wordV 125).wordsC 1) ((bN (C.wordsC 1) C.wordV 125).wordV) 121) (((bN (C.wordsC 1) C.wordV 125).wordsC 1).wordV)).wordsR (((bN (C.wordsC 1) C.wordV 125).wordsC 1).wordV)).length) V) nS nS nS 0 0 0 0 0 nS) fun af O j=>?_
 refine bp ⟨(ae (be j n_bm_gm L) rfl),(ae (be j n_bc_gm M) rfl),(ae O rfl)⟩ fun ag=>re<|rm (.tuple #[])<|?_
 have hs:dv c C=(((di (bN ((bN (C.wordsC 1) C.wordV 125).wordsC 1) ((bN (C.wordsC 1) C.wordV 125).wordV) 121) (((bN (C.wordsC 1) C.wordV 125).wordsC 1).wordV)).wordsC (((bN (C.wordsC 1) C.wordV 125).wordsC 1).wordV)),(aT.mk c 0 C.wordV ((C.wordsC 1).wordV) 0 0 0 ((bN (C.wordsC 1) C.wordV 125).wordV) 0 0 0 0 ((di (bN ((bN (C.wordsC 1) C.wordV 125).wordsC 1) ((bN (C.wordsC 1) C.wordV 125).wordV) 121) (((bN (C.wordsC 1) C.wordV 125).wordsC 1).wordV)).wordsR (((bN (C.wordsC 1) C.wordV 125).wordsC 1).wordV)) [] [] [] 0 0 0 0 0 [])):=by
   unfold dv iU rS gK
   (try simp only[bj,reduceIte])
   all_goals rfl
 rw[hs]
 exact⟨rfl,(al.upd W j (aa hne aF) (av (b6 p (by decide)) aN)),⟨_,⟨O,rfl⟩,⟨_,_,_,_,_,rfl,((ax K j (fun x hx=>(aa (fun e=>(aL (au hm) (le (le (le (le (le q.size k.size) d.size) l.size) f.size) i.size) K) (e▸hx)) aF)) (fun _ _ h=>h))).rd,aS.nil ..,aS.nil ..,aS.nil ..,aS.nil ..,(cY (by omega))⟩⟩,(ut o (ui d (ui G (ui i (us m j)))) (ac im (ac im aC)))⟩
theorem Fg(hcode:B8 c)(hC:al w g C)(hm:w.heap[gm]? = some (.cells (mC c) 45 (0,0)))(hne:g≠gm)   (hbc:w.heap[bc]? = some (.cells #[vP g 0] 164 (0,0)))(n_bc_g:bc≠g)(n_bc_gm:bc≠gm)(hbm:w.heap[bm]? = some (.cells #[vP gm 0] 166 (0,0)))(n_bm_g:bm≠g)(n_bm_gm:bm≠gm) :
    Calls Tryz.prog 208 #[vP bc 0,vP bm 0] w (cX g gm (dx c C).1 (dx c C).2 w):=by
 obtain⟨hcode1,hcode2⟩:=hcode
 have hlen:=hC.len
 refine en 7 Tryz.func208 rfl<|Rg 6 (fun w'=>w'.cell? ⟨bm,0,none⟩=some (vP gm 0)∧w'.cell? ⟨bc,0,none⟩=some (vP g 0)) fun p a=>?_
 have e:=ub a hbm
 have f:=ub a hbc
 refine bp ⟨(ae e rfl),(ae f rfl)⟩ fun h=>Rl 0 h (fun _ hs=>hs.1)<|Rl 1 h (fun _ hs=>hs.2)<|?_
 refine R0 2 rfl<|Oc<|m3 (ck (al.old hC a)) fun q n d r=>?_
 have i:=be d n_bm_g e
 have j:=be d n_bc_g f
 refine bp ⟨(ae i rfl),(ae j rfl)⟩ fun k=>Rt 3 k<|Rt 4 k<|?_
 have l:=uz a d
 have m:=be l (Ne.symm hne) hm
 refine R0 5 rfl<|cm m 2 (mG c 0 C.wordV 0 0 0 0 0 0 0 0 0 nS nS nS nS 0 0 0 0 0 nS) fun s o b=>?_
 refine bp ⟨(ae (be b n_bm_gm i) rfl),(ae (be b n_bc_gm j) rfl)⟩ fun t=>re<|rm (.tuple #[])<|?_
 have hs:dx c C=((C.wordsC 1),(aT.mk c 0 C.wordV 0 0 0 0 0 0 0 0 0 [] [] [] [] 0 0 0 0 0 [])):=by
   unfold dx
   (try simp only[bj,reduceIte])
   all_goals rfl
 rw[hs]
 exact⟨rfl,(al.upd n b (aa hne aF) (av (b6 m (by decide)) aN)),⟨_,⟨o,rfl⟩,⟨_,_,_,_,_,rfl,aS.nil ..,aS.nil ..,aS.nil ..,aS.nil ..,aS.nil ..,(cY (by omega))⟩⟩,(us l b)⟩
theorem Fh(hcode:B8 c)(hC:al w g C)(hm:w.heap[gm]? = some (.cells (mC c) 45 (0,0)))(hne:g≠gm)   (hbc:w.heap[bc]? = some (.cells #[vP g 0] 164 (0,0)))(n_bc_g:bc≠g)(n_bc_gm:bc≠gm)(hbm:w.heap[bm]? = some (.cells #[vP gm 0] 166 (0,0)))(n_bm_g:bm≠g)(n_bm_gm:bm≠gm) :
    Calls Tryz.prog 209 #[vP bc 0,vP bm 0] w (cX g gm (mp c C).1 (mp c C).2 w):=by
 obtain⟨hcode1,hcode2⟩:=hcode
 have hlen:=hC.len
 refine en 36 Tryz.func209 rfl<|sg<|aE hbc 0<|ay<|m3 (ck hC) fun R G k S=>bq C.wordV<|Pl 1<|ng<|?_
 have l:=be k n_bc_g hbc
 refine aE l 0<|Pl 1<|L0<|Oe (vI (Int.tmod C.wordV 2)) (vI (C.wordV%2)) (congrArg (Value.int .i64) (Int.tmod_eq_emod_of_nonneg (by omega)))<|Pl 2<|cu 3 [11] 14 ((((C.wordV%2)==0)&&(decide (2≤C.wordV)))) (fun K m=>?_) ?_
 refine bl 11 (((C.wordV%2)==0)) (fun a=>?_) (fun a=>?_)
 have H:=ag a
 exact Pl 3<|ce m (decide (2≤C.wordV)) (by rw[a];rfl)
 have H:=am a
 exact Pl 3<|ce m false (by rw[a];rfl)
 refine Pl 1<|cu 3 [15] 18 (((((C.wordV%2)==0)&&(decide (2≤C.wordV)))&&(decide (C.wordV≤64)))) (fun K o=>?_) ?_
 refine bl 15 ((((C.wordV%2)==0)&&(decide (2≤C.wordV)))) (fun d=>?_) (fun d=>?_)
 exact Pl 3<|ce o (decide (C.wordV≤64)) (by rw[d];rfl)
 exact Pl 3<|ce o false (by rw[d];rfl)
 refine ay<|m2 (bu (((((C.wordV%2)==0)&&(decide (2≤C.wordV)))&&(decide (C.wordV≤64)))) 5 G) fun T I p=>ng<|?_
 have q:=be p n_bc_g l
 refine aE q 0<|ay<|m3 (ck I) fun U J r V=>bq (((C.wordsC 1).need ((((C.wordV%2)==0)&&(decide (2≤C.wordV)))&&(decide (C.wordV≤64))) 5).wordV)<|Pl 1<|ng<|?_
 have s:=be r n_bc_g q
 refine aE s 0<|Pl 1<|bq (2*(((C.wordsC 1).need ((((C.wordV%2)==0)&&(decide (2≤C.wordV)))&&(decide (C.wordV≤64))) 5).wordV))<|bq (2+(2*(((C.wordsC 1).need ((((C.wordV%2)==0)&&(decide (2≤C.wordV)))&&(decide (C.wordV≤64))) 5).wordV)))<|Pl 2<|ay<|m2 (bu (((2+(2*(((C.wordsC 1).need ((((C.wordV%2)==0)&&(decide (2≤C.wordV)))&&(decide (C.wordV≤64))) 5).wordV)))==C.wordV)) 5 J) fun W L M=>nt<|Rg 7 (fun w'=>w'.cell? ⟨bm,0,none⟩=some (vP gm 0)∧w'.cell? ⟨bc,0,none⟩=some (vP g 0)) fun X t=>?_
 have u:=aJ M t
 have f:=u1 k (u1 p (u1 r u im) im) im
 have v:=be f n_bm_g hbm
 have y:=be u n_bc_g s
 refine bp ⟨(ae v rfl),(ae y rfl)⟩ fun i=>Rl 0 i (fun _ hs=>hs.1)<|Rl 1 i (fun _ hs=>hs.2)<|Rt 2 i<|?_
 refine R0 3 rfl<|Oc<|qH (f5 (n:=((C.wordsC 1).need ((((C.wordV%2)==0)&&(decide (2≤C.wordV)))&&(decide (C.wordV≤64))) 5).wordV) (al.old L t)) fun N O Y z Z a0 P j=>?_
 have A:=be j n_bm_g v
 have B:=be j n_bc_g y
 refine bp ⟨(ae A rfl),(ae B rfl)⟩ fun D=>Rt 4 D<|Rt 5 D<|?_
 have E:=u1 f j im
 have F:=be E (Ne.symm hne) hm
 refine R0 6 rfl<|cm F 12 (mG c 0 0 0 0 0 0 0 0 0 0 0 (.slice N ((((((C.wordsC 1).need ((((C.wordV%2)==0)&&(decide (2≤C.wordV)))&&(decide (C.wordV≤64))) 5).wordsC 1).need ((2+(2*(((C.wordsC 1).need ((((C.wordV%2)==0)&&(decide (2≤C.wordV)))&&(decide (C.wordV≤64))) 5).wordV)))==C.wordV) 5).wordsR (((C.wordsC 1).need ((((C.wordV%2)==0)&&(decide (2≤C.wordV)))&&(decide (C.wordV≤64))) 5).wordV)).length) O) nS nS nS 0 0 0 0 0 nS) fun a1 Q b=>?_
 refine bp ⟨(ae (be b n_bm_gm A) rfl),(ae (be b n_bc_gm B) rfl)⟩ fun a2=>re<|rm (.tuple #[])<|?_
 exact cC (by unfold mp AW uQ jt;(try simp only[bj,reduceIte])<;>rfl) ⟨rfl,(al.upd P b (aa hne aF) (av (b6 F (by decide)) aN)),⟨_,⟨Q,rfl⟩,⟨_,_,_,_,_,rfl,((ax z b (fun x hx=>(aa (fun e=>(aL (au hm) f.size z) (e▸hx)) aF)) (fun _ _ h=>h))).rd,aS.nil ..,aS.nil ..,aS.nil ..,aS.nil ..,(cY (by omega))⟩⟩,(us E b)⟩
open Go.RowKit
theorem wG(hC:al w g C)(hm:w.heap[gm]? = some (.cells (mC 3) 45 (0,0)))(hne:g≠gm) : Calls Tryz.prog 148 #[vI 0,vP gm 0,vP g 0] w (kk (fun W=>cX g gm (cz 125 3 C).1 (cz 125 3 C).2 W) w):=by
 refine en 67 Tryz.func148 rfl<|sg<|L0<|da #[vP gm 0] fun n D f o a=>L0<|da #[vP g 0] fun p E h q b=>Pl 1<|aM 1<|aK #[.nilFunc] fun r F d s t=>L0<|cm s 0 #[.func (.func 198) #[] #[vP p 0,vP n 0]] fun G u v=>nl<|tn<|ak 2<|aK #[.bool false] fun H I x y z=>L0<|cm y 0 #[.bool true] fun J A B=>nt<|sq<|sg<|?_
 have i:=ud z B x
 have j:=ud t (aJ v i) d
 have k:=aJ b j
 have l:=ub k o
 refine aE l 0<|Pl 2<|?_
 have e:=aJ a k
 have m:=ub e hm
 refine aE m 0<|ah 1<|bk<|sg<|aE A 0<|ah 9<|c1<|aD 2<|rt<|br<|tr<|rr (.func (.func 200) #[] #[vP r 0])<|?_
 exact⟨_,_,rfl,by kernel_rfl,e,EU (c:=3) ⟨by decide,by decide⟩ (al.old hC e) m hne (ub j q) (Ne.symm (nb (al.lt hC) a.size h)) (Ne.symm (nb (au hm) a.size h)) l (Ne.symm (nb (al.lt hC) lr f)) (Ne.symm (nb (au hm) lr f)) (ub i u) (Ne.symm (nb (al.lt hC) (le a.size b.size) d)) (Ne.symm (nb (au hm) (le a.size b.size) d))⟩
theorem w8(hC:al w g C)(hm:w.heap[gm]? = some (.cells (mC 4) 45 (0,0)))(hne:g≠gm) : Calls Tryz.prog 148 #[vI 0,vP gm 0,vP g 0] w (kk (fun W=>cX g gm (cz 125 4 C).1 (cz 125 4 C).2 W) w):=by
 refine en 67 Tryz.func148 rfl<|sg<|L0<|da #[vP gm 0] fun n D f o a=>L0<|da #[vP g 0] fun p E h q b=>Pl 1<|aM 1<|aK #[.nilFunc] fun r F d s t=>L0<|cm s 0 #[.func (.func 198) #[] #[vP p 0,vP n 0]] fun G u v=>nl<|tn<|ak 2<|aK #[.bool false] fun H I x y z=>L0<|cm y 0 #[.bool true] fun J A B=>nt<|sq<|sg<|?_
 have i:=ud z B x
 have j:=ud t (aJ v i) d
 have k:=aJ b j
 have l:=ub k o
 refine aE l 0<|Pl 2<|?_
 have e:=aJ a k
 have m:=ub e hm
 refine aE m 0<|ah 1<|bk<|sg<|aE A 0<|ah 9<|c1<|aD 2<|rt<|br<|tr<|rr (.func (.func 200) #[] #[vP r 0])<|?_
 exact⟨_,_,rfl,by kernel_rfl,e,EU (c:=4) ⟨by decide,by decide⟩ (al.old hC e) m hne (ub j q) (Ne.symm (nb (al.lt hC) a.size h)) (Ne.symm (nb (au hm) a.size h)) l (Ne.symm (nb (al.lt hC) lr f)) (Ne.symm (nb (au hm) lr f)) (ub i u) (Ne.symm (nb (al.lt hC) (le a.size b.size) d)) (Ne.symm (nb (au hm) (le a.size b.size) d))⟩
theorem ws(hC:al w g C)(hm:w.heap[gm]? = some (.cells (mC 3) 45 (0,0)))(hne:g≠gm) : Calls Tryz.prog 148 #[vI 1,vP gm 0,vP g 0] w (kk (fun W=>cX g gm (cO 3 C).1 (cO 3 C).2 W) w):=by
 refine en 67 Tryz.func148 rfl<|sg<|L0<|da #[vP gm 0] fun d z e m a=>L0<|da #[vP g 0] fun f A h n o=>Pl 1<|aM 1<|aK #[.nilFunc] fun B D p q r=>L0<|cm q 0 #[.func (.func 198) #[] #[vP f 0,vP d 0]] fun E F s=>nl<|tn<|ak 2<|aK #[.bool false] fun G H t u v=>L0<|cm u 0 #[.bool false] fun I x y=>nt<|sq<|sg<|?_
 have i:=ud r (aJ s (ud v y t)) p
 have j:=aJ o i
 have k:=ub j m
 refine aE k 0<|Pl 2<|?_
 have b:=aJ a j
 have l:=ub b hm
 refine aE l 0<|ah 1<|bk<|sg<|aE x 0<|ah 9<|c0<|sq<|sq<|go<|ah 3<|c1<|bo<|c1<|aD 2<|rt<|br<|tr<|rr (.func (.func 201) #[] #[vP f 0,vP d 0])<|?_
 exact⟨_,_,rfl,by kernel_rfl,b,Ew (c:=3) ⟨by decide,by decide⟩ (al.old hC b) l hne (ub i n) (Ne.symm (nb (al.lt hC) a.size h)) (Ne.symm (nb (au hm) a.size h)) k (Ne.symm (nb (al.lt hC) lr e)) (Ne.symm (nb (au hm) lr e))⟩
theorem xc(hC:al w g C)(hm:w.heap[gm]? = some (.cells (mC 4) 45 (0,0)))(hne:g≠gm) : Calls Tryz.prog 148 #[vI 1,vP gm 0,vP g 0] w (kk (fun W=>cX g gm (cO 4 C).1 (cO 4 C).2 W) w):=by
 refine en 67 Tryz.func148 rfl<|sg<|L0<|da #[vP gm 0] fun d z e m a=>L0<|da #[vP g 0] fun f A h n o=>Pl 1<|aM 1<|aK #[.nilFunc] fun B D p q r=>L0<|cm q 0 #[.func (.func 198) #[] #[vP f 0,vP d 0]] fun E F s=>nl<|tn<|ak 2<|aK #[.bool false] fun G H t u v=>L0<|cm u 0 #[.bool false] fun I x y=>nt<|sq<|sg<|?_
 have i:=ud r (aJ s (ud v y t)) p
 have j:=aJ o i
 have k:=ub j m
 refine aE k 0<|Pl 2<|?_
 have b:=aJ a j
 have l:=ub b hm
 refine aE l 0<|ah 1<|bk<|sg<|aE x 0<|ah 9<|c0<|sq<|sq<|go<|ah 3<|c0<|aD 3<|c1<|bo<|c1<|aD 2<|rt<|br<|tr<|rr (.func (.func 201) #[] #[vP f 0,vP d 0])<|?_
 exact⟨_,_,rfl,by kernel_rfl,b,Ew (c:=4) ⟨by decide,by decide⟩ (al.old hC b) l hne (ub i n) (Ne.symm (nb (al.lt hC) a.size h)) (Ne.symm (nb (au hm) a.size h)) k (Ne.symm (nb (al.lt hC) lr e)) (Ne.symm (nb (au hm) lr e))⟩
theorem xk(hC:al w g C)(hm:w.heap[gm]? = some (.cells (mC 6) 45 (0,0)))(hne:g≠gm) : Calls Tryz.prog 148 #[vI 0,vP gm 0,vP g 0] w (kk (fun W=>cX g gm (ei 6 C).1 (ei 6 C).2 W) w):=by
 refine en 67 Tryz.func148 rfl<|sg<|L0<|da #[vP gm 0] fun d z e m a=>L0<|da #[vP g 0] fun f A h n o=>Pl 1<|aM 1<|aK #[.nilFunc] fun B D p q r=>L0<|cm q 0 #[.func (.func 198) #[] #[vP f 0,vP d 0]] fun E F s=>nl<|tn<|ak 2<|aK #[.bool false] fun G H t u v=>L0<|cm u 0 #[.bool true] fun I x y=>nt<|sq<|sg<|?_
 have i:=ud r (aJ s (ud v y t)) p
 have j:=aJ o i
 have k:=ub j m
 refine aE k 0<|Pl 2<|?_
 have b:=aJ a j
 have l:=ub b hm
 refine aE l 0<|ah 1<|bk<|sg<|aE x 0<|ah 9<|c0<|sq<|sq<|go<|ah 3<|c0<|aD 3<|c0<|go<|Pl 7<|nl<|tn<|c0<|aD 3<|c1<|aD 2<|rt<|br<|tr<|rr (.func (.func 203) #[] #[vP f 0,vP d 0])<|?_
 exact⟨_,_,rfl,by kernel_rfl,b,EV (c:=6) ⟨by decide,by decide⟩ (al.old hC b) l hne (ub i n) (Ne.symm (nb (al.lt hC) a.size h)) (Ne.symm (nb (au hm) a.size h)) k (Ne.symm (nb (al.lt hC) lr e)) (Ne.symm (nb (au hm) lr e))⟩
theorem x8(hC:al w g C)(hm:w.heap[gm]? = some (.cells (mC 6) 45 (0,0)))(hne:g≠gm) : Calls Tryz.prog 148 #[vI 1,vP gm 0,vP g 0] w (kk (fun W=>cX g gm (ei 6 C).1 (ei 6 C).2 W) w):=by
 refine en 67 Tryz.func148 rfl<|sg<|L0<|da #[vP gm 0] fun d z e m a=>L0<|da #[vP g 0] fun f A h n o=>Pl 1<|aM 1<|aK #[.nilFunc] fun B D p q r=>L0<|cm q 0 #[.func (.func 198) #[] #[vP f 0,vP d 0]] fun E F s=>nl<|tn<|ak 2<|aK #[.bool false] fun G H t u v=>L0<|cm u 0 #[.bool false] fun I x y=>nt<|sq<|sg<|?_
 have i:=ud r (aJ s (ud v y t)) p
 have j:=aJ o i
 have k:=ub j m
 refine aE k 0<|Pl 2<|?_
 have b:=aJ a j
 have l:=ub b hm
 refine aE l 0<|ah 1<|bk<|sg<|aE x 0<|ah 9<|c0<|sq<|sq<|go<|ah 3<|c0<|aD 3<|c0<|go<|Pl 7<|nl<|tn<|c0<|aD 3<|c1<|aD 2<|rt<|br<|tr<|rr (.func (.func 203) #[] #[vP f 0,vP d 0])<|?_
 exact⟨_,_,rfl,by kernel_rfl,b,EV (c:=6) ⟨by decide,by decide⟩ (al.old hC b) l hne (ub i n) (Ne.symm (nb (al.lt hC) a.size h)) (Ne.symm (nb (au hm) a.size h)) k (Ne.symm (nb (al.lt hC) lr e)) (Ne.symm (nb (au hm) lr e))⟩
theorem tU(hC:al w g C)(hm:w.heap[gm]? = some (.cells (mC 16) 45 (0,0)))(hne:g≠gm) : Calls Tryz.prog 148 #[vI 0,vP gm 0,vP g 0] w (kk (fun W=>cX g gm (dr 16 C).1 (dr 16 C).2 W) w):=by
 refine en 67 Tryz.func148 rfl<|sg<|L0<|da #[vP gm 0] fun j E k t a=>L0<|da #[vP g 0] fun l F m u b=>Pl 1<|aM 1<|aK #[.nilFunc] fun v G d x e=>L0<|cm x 0 #[.func (.func 198) #[] #[vP l 0,vP j 0]] fun H y f=>nl<|tn<|ak 2<|aK #[.bool false] fun z I h A B=>L0<|cm A 0 #[.bool true] fun J n D=>nt<|sq<|sg<|?_
 have o:=ud B D h
 have p:=ud e (aJ f o) d
 have q:=aJ b p
 have r:=ub q t
 refine aE r 0<|Pl 2<|?_
 have i:=aJ a q
 have s:=ub i hm
 refine aE s 0<|ah 1<|bk<|sg<|aE n 0<|ah 9<|c0<|sq<|sq<|go<|ah 3<|c0<|aD 3<|c0<|go<|Pl 7<|nl<|tn<|c0<|aD 3<|c0<|aD 3<|c1<|aD 2<|rt<|br<|tr<|rr (.func (.func 204) #[] #[vP v 0,vP z 0,vP l 0,vP j 0])<|?_
 exact⟨_,_,rfl,by kernel_rfl,i,Ee (c:=16) ⟨by decide,by decide⟩ (al.old hC i) s hne (ub p u) (Ne.symm (nb (al.lt hC) a.size m)) (Ne.symm (nb (au hm) a.size m)) r (Ne.symm (nb (al.lt hC) lr k)) (Ne.symm (nb (au hm) lr k)) (ub o y) (Ne.symm (nb (al.lt hC) (le a.size b.size) d)) (Ne.symm (nb (au hm) (le a.size b.size) d)) n (Ne.symm (nb (al.lt hC) (le (le (le a.size b.size) e.size) f.size) h)) (Ne.symm (nb (au hm) (le (le (le a.size b.size) e.size) f.size) h)) rfl⟩
theorem ta(hC:al w g C)(hm:w.heap[gm]? = some (.cells (mC 16) 45 (0,0)))(hne:g≠gm) : Calls Tryz.prog 148 #[vI 1,vP gm 0,vP g 0] w (kk (fun W=>cX g gm (cz 123 16 C).1 (cz 123 16 C).2 W) w):=by
 refine en 67 Tryz.func148 rfl<|sg<|L0<|da #[vP gm 0] fun j E k t a=>L0<|da #[vP g 0] fun l F m u b=>Pl 1<|aM 1<|aK #[.nilFunc] fun v G d x e=>L0<|cm x 0 #[.func (.func 198) #[] #[vP l 0,vP j 0]] fun H y f=>nl<|tn<|ak 2<|aK #[.bool false] fun z I h A B=>L0<|cm A 0 #[.bool false] fun J n D=>nt<|sq<|sg<|?_
 have o:=ud B D h
 have p:=ud e (aJ f o) d
 have q:=aJ b p
 have r:=ub q t
 refine aE r 0<|Pl 2<|?_
 have i:=aJ a q
 have s:=ub i hm
 refine aE s 0<|ah 1<|bk<|sg<|aE n 0<|ah 9<|c0<|sq<|sq<|go<|ah 3<|c0<|aD 3<|c0<|go<|Pl 7<|nl<|tn<|c0<|aD 3<|c0<|aD 3<|c1<|aD 2<|rt<|br<|tr<|rr (.func (.func 204) #[] #[vP v 0,vP z 0,vP l 0,vP j 0])<|?_
 exact⟨_,_,rfl,by kernel_rfl,i,Ey (c:=16) ⟨by decide,by decide⟩ (al.old hC i) s hne (ub p u) (Ne.symm (nb (al.lt hC) a.size m)) (Ne.symm (nb (au hm) a.size m)) r (Ne.symm (nb (al.lt hC) lr k)) (Ne.symm (nb (au hm) lr k)) (ub o y) (Ne.symm (nb (al.lt hC) (le a.size b.size) d)) (Ne.symm (nb (au hm) (le a.size b.size) d)) n (Ne.symm (nb (al.lt hC) (le (le (le a.size b.size) e.size) f.size) h)) (Ne.symm (nb (au hm) (le (le (le a.size b.size) e.size) f.size) h)) rfl⟩
theorem tw(hC:al w g C)(hm:w.heap[gm]? = some (.cells (mC 22) 45 (0,0)))(hne:g≠gm) : Calls Tryz.prog 148 #[vI 0,vP gm 0,vP g 0] w (kk (fun W=>cX g gm (dh 22 C).1 (dh 22 C).2 W) w):=by
 refine en 67 Tryz.func148 rfl<|sg<|L0<|da #[vP gm 0] fun d z e m a=>L0<|da #[vP g 0] fun f A h n o=>Pl 1<|aM 1<|aK #[.nilFunc] fun B D p q r=>L0<|cm q 0 #[.func (.func 198) #[] #[vP f 0,vP d 0]] fun E F s=>nl<|tn<|ak 2<|aK #[.bool false] fun G H t u v=>L0<|cm u 0 #[.bool true] fun I x y=>nt<|sq<|sg<|?_
 have i:=ud r (aJ s (ud v y t)) p
 have j:=aJ o i
 have k:=ub j m
 refine aE k 0<|Pl 2<|?_
 have b:=aJ a j
 have l:=ub b hm
 refine aE l 0<|ah 1<|bk<|sg<|aE x 0<|ah 9<|c0<|sq<|sq<|go<|ah 3<|c0<|aD 3<|c0<|go<|Pl 7<|nl<|tn<|c0<|aD 3<|c0<|aD 3<|c0<|aD 3<|c1<|aD 2<|rt<|br<|tr<|rr (.func (.func 206) #[] #[vP f 0,vP d 0])<|?_
 exact⟨_,_,rfl,by kernel_rfl,b,EW (c:=22) ⟨by decide,by decide⟩ (al.old hC b) l hne (ub i n) (Ne.symm (nb (al.lt hC) a.size h)) (Ne.symm (nb (au hm) a.size h)) k (Ne.symm (nb (al.lt hC) lr e)) (Ne.symm (nb (au hm) lr e))⟩
theorem tu(hC:al w g C)(hm:w.heap[gm]? = some (.cells (mC 22) 45 (0,0)))(hne:g≠gm) : Calls Tryz.prog 148 #[vI 1,vP gm 0,vP g 0] w (kk (fun W=>cX g gm (dh 22 C).1 (dh 22 C).2 W) w):=by
 refine en 67 Tryz.func148 rfl<|sg<|L0<|da #[vP gm 0] fun d z e m a=>L0<|da #[vP g 0] fun f A h n o=>Pl 1<|aM 1<|aK #[.nilFunc] fun B D p q r=>L0<|cm q 0 #[.func (.func 198) #[] #[vP f 0,vP d 0]] fun E F s=>nl<|tn<|ak 2<|aK #[.bool false] fun G H t u v=>L0<|cm u 0 #[.bool false] fun I x y=>nt<|sq<|sg<|?_
 have i:=ud r (aJ s (ud v y t)) p
 have j:=aJ o i
 have k:=ub j m
 refine aE k 0<|Pl 2<|?_
 have b:=aJ a j
 have l:=ub b hm
 refine aE l 0<|ah 1<|bk<|sg<|aE x 0<|ah 9<|c0<|sq<|sq<|go<|ah 3<|c0<|aD 3<|c0<|go<|Pl 7<|nl<|tn<|c0<|aD 3<|c0<|aD 3<|c0<|aD 3<|c1<|aD 2<|rt<|br<|tr<|rr (.func (.func 206) #[] #[vP f 0,vP d 0])<|?_
 exact⟨_,_,rfl,by kernel_rfl,b,EW (c:=22) ⟨by decide,by decide⟩ (al.old hC b) l hne (ub i n) (Ne.symm (nb (al.lt hC) a.size h)) (Ne.symm (nb (au hm) a.size h)) k (Ne.symm (nb (al.lt hC) lr e)) (Ne.symm (nb (au hm) lr e))⟩
theorem tz(hC:al w g C)(hm:w.heap[gm]? = some (.cells (mC 23) 45 (0,0)))(hne:g≠gm) : Calls Tryz.prog 148 #[vI 0,vP gm 0,vP g 0] w (kk (fun W=>cX g gm (dv 23 C).1 (dv 23 C).2 W) w):=by
 refine en 67 Tryz.func148 rfl<|sg<|L0<|da #[vP gm 0] fun f D h q a=>L0<|da #[vP g 0] fun i E j r b=>Pl 1<|aM 1<|aK #[.nilFunc] fun s F d t u=>L0<|cm t 0 #[.func (.func 198) #[] #[vP i 0,vP f 0]] fun G v x=>nl<|tn<|ak 2<|aK #[.bool false] fun H I y z A=>L0<|cm z 0 #[.bool true] fun J k B=>nt<|sq<|sg<|?_
 have l:=ud A B y
 have m:=ud u (aJ x l) d
 have n:=aJ b m
 have o:=ub n q
 refine aE o 0<|Pl 2<|?_
 have e:=aJ a n
 have p:=ub e hm
 refine aE p 0<|ah 1<|bk<|sg<|aE k 0<|ah 9<|c0<|sq<|sq<|go<|ah 3<|c0<|aD 3<|c0<|go<|Pl 3<|L1<|dX k 0<|ah 3<|c0<|aD 3<|c0<|ak 3<|nl<|tn<|c0<|aD 3<|c0<|aD 3<|c1<|aD 2<|rt<|br<|tr<|rr (.func (.func 207) #[] #[vP s 0,vP i 0,vP f 0])<|?_
 exact⟨_,_,rfl,by kernel_rfl,e,F7 (c:=23) ⟨by decide,by decide⟩ (al.old hC e) p hne (ub m r) (Ne.symm (nb (al.lt hC) a.size j)) (Ne.symm (nb (au hm) a.size j)) o (Ne.symm (nb (al.lt hC) lr h)) (Ne.symm (nb (au hm) lr h)) (ub l v) (Ne.symm (nb (al.lt hC) (le a.size b.size) d)) (Ne.symm (nb (au hm) (le a.size b.size) d))⟩
theorem uo(hC:al w g C)(hm:w.heap[gm]? = some (.cells (mC 23) 45 (0,0)))(hne:g≠gm) : Calls Tryz.prog 148 #[vI 1,vP gm 0,vP g 0] w (kk (fun W=>cX g gm (cO 23 C).1 (cO 23 C).2 W) w):=by
 refine en 67 Tryz.func148 rfl<|sg<|L0<|da #[vP gm 0] fun d z e n a=>L0<|da #[vP g 0] fun f A h o p=>Pl 1<|aM 1<|aK #[.nilFunc] fun B D q r s=>L0<|cm r 0 #[.func (.func 198) #[] #[vP f 0,vP d 0]] fun E F t=>nl<|tn<|ak 2<|aK #[.bool false] fun G H u v x=>L0<|cm v 0 #[.bool false] fun I i y=>nt<|sq<|sg<|?_
 have j:=ud s (aJ t (ud x y u)) q
 have k:=aJ p j
 have l:=ub k n
 refine aE l 0<|Pl 2<|?_
 have b:=aJ a k
 have m:=ub b hm
 refine aE m 0<|ah 1<|bk<|sg<|aE i 0<|ah 9<|c0<|sq<|sq<|go<|ah 3<|c0<|aD 3<|c0<|go<|Pl 3<|L1<|dX i 0<|ah 3<|c1<|aD 2<|rt<|br<|tr<|rr (.func (.func 201) #[] #[vP f 0,vP d 0])<|?_
 exact⟨_,_,rfl,by kernel_rfl,b,Ew (c:=23) ⟨by decide,by decide⟩ (al.old hC b) m hne (ub j o) (Ne.symm (nb (al.lt hC) a.size h)) (Ne.symm (nb (au hm) a.size h)) l (Ne.symm (nb (al.lt hC) lr e)) (Ne.symm (nb (au hm) lr e))⟩
theorem tj(hC:al w g C)(hm:w.heap[gm]? = some (.cells (mC 24) 45 (0,0)))(hne:g≠gm) : Calls Tryz.prog 148 #[vI 0,vP gm 0,vP g 0] w (kk (fun W=>cX g gm (dx 24 C).1 (dx 24 C).2 W) w):=by
 refine en 67 Tryz.func148 rfl<|sg<|L0<|da #[vP gm 0] fun d z e n a=>L0<|da #[vP g 0] fun f A h o p=>Pl 1<|aM 1<|aK #[.nilFunc] fun B D q r s=>L0<|cm r 0 #[.func (.func 198) #[] #[vP f 0,vP d 0]] fun E F t=>nl<|tn<|ak 2<|aK #[.bool false] fun G H u v x=>L0<|cm v 0 #[.bool true] fun I i y=>nt<|sq<|sg<|?_
 have j:=ud s (aJ t (ud x y u)) q
 have k:=aJ p j
 have l:=ub k n
 refine aE l 0<|Pl 2<|?_
 have b:=aJ a k
 have m:=ub b hm
 refine aE m 0<|ah 1<|bk<|sg<|aE i 0<|ah 9<|c0<|sq<|sq<|go<|ah 3<|c0<|aD 3<|c0<|go<|Pl 7<|nl<|tn<|c0<|aD 3<|c0<|aD 3<|c0<|aD 3<|c0<|aD 3<|c0<|ak 3<|L1<|dX i 0<|ah 2<|c1<|aD 2<|rt<|br<|tr<|rr (.func (.func 208) #[] #[vP f 0,vP d 0])<|?_
 exact⟨_,_,rfl,by kernel_rfl,b,Fg (c:=24) ⟨by decide,by decide⟩ (al.old hC b) m hne (ub j o) (Ne.symm (nb (al.lt hC) a.size h)) (Ne.symm (nb (au hm) a.size h)) l (Ne.symm (nb (al.lt hC) lr e)) (Ne.symm (nb (au hm) lr e))⟩
theorem td(hC:al w g C)(hm:w.heap[gm]? = some (.cells (mC 24) 45 (0,0)))(hne:g≠gm) : Calls Tryz.prog 148 #[vI 1,vP gm 0,vP g 0] w (kk (fun W=>cX g gm (mp 24 C).1 (mp 24 C).2 W) w):=by
 refine en 67 Tryz.func148 rfl<|sg<|L0<|da #[vP gm 0] fun d z e n a=>L0<|da #[vP g 0] fun f A h o p=>Pl 1<|aM 1<|aK #[.nilFunc] fun B D q r s=>L0<|cm r 0 #[.func (.func 198) #[] #[vP f 0,vP d 0]] fun E F t=>nl<|tn<|ak 2<|aK #[.bool false] fun G H u v x=>L0<|cm v 0 #[.bool false] fun I i y=>nt<|sq<|sg<|?_
 have j:=ud s (aJ t (ud x y u)) q
 have k:=aJ p j
 have l:=ub k n
 refine aE l 0<|Pl 2<|?_
 have b:=aJ a k
 have m:=ub b hm
 refine aE m 0<|ah 1<|bk<|sg<|aE i 0<|ah 9<|c0<|sq<|sq<|go<|ah 3<|c0<|aD 3<|c0<|go<|Pl 7<|nl<|tn<|c0<|aD 3<|c0<|aD 3<|c0<|aD 3<|c0<|aD 3<|c0<|ak 3<|L1<|dX i 0<|ah 2<|c0<|aD 3<|c1<|aD 2<|rt<|br<|tr<|rr (.func (.func 209) #[] #[vP f 0,vP d 0])<|?_
 exact⟨_,_,rfl,by kernel_rfl,b,Fh (c:=24) ⟨by decide,by decide⟩ (al.old hC b) m hne (ub j o) (Ne.symm (nb (al.lt hC) a.size h)) (Ne.symm (nb (au hm) a.size h)) l (Ne.symm (nb (al.lt hC) lr e)) (Ne.symm (nb (au hm) lr e))⟩
theorem ur(hC:al w g C)(hm:w.heap[gm]? = some (.cells (mC c) 45 (0,0)))(hne:g≠gm)(k3:(c==3)=false)(k4:(c==4)=false)(k6:(c==6)=false)(f:(c==16)=false)(h:(c==22)=false)(a:(c==23)=false)(b:(c==24)=false) : Calls Tryz.prog 148 #[vI 0,vP gm 0,vP g 0] w (cc .nilFunc w):=by
 refine en 67 Tryz.func148 rfl<|sg<|L0<|da #[vP gm 0] fun i x y j k=>L0<|da #[vP g 0] fun l z A B m=>Pl 1<|aM 1<|aK #[.nilFunc] fun D E n o p=>L0<|cm o 0 #[.func (.func 198) #[] #[vP l 0,vP i 0]] fun F G q=>nl<|tn<|ak 2<|aK #[.bool false] fun H I r s t=>L0<|cm s 0 #[.bool true] fun J u v=>nt<|sq<|sg<|?_
 have d:=aJ m (ud p (aJ q (ud t v r)) n)
 refine aE (ub d j) 0<|Pl 2<|?_
 have e:=aJ k d
 exact aE (ub e hm) 0<|ah 1<|bk<|sg<|aE u 0<|Pl 4<|sy 22 k3<|ah 5<|cf k4<|sq<|aD 3<|cf k3<|aD 3<|cf k4<|go<|Pl 3<|sy 35 a<|ah 4<|c0<|aD 3<|cf k6<|aD 3<|cf f<|aD 3<|cf h<|ak 3<|nl<|tn<|cf a<|ak 3<|sy 59 b<|ah 3<|c0<|ak 3<|nl<|tn<|cf b<|sk<|bn<|tn<|aD 1<|rt<|rr (.nilFunc)<|⟨rfl,e⟩
theorem sY(hC:al w g C)(hm:w.heap[gm]? = some (.cells (mC c) 45 (0,0)))(hne:g≠gm)(k3:(c==3)=false)(k4:(c==4)=false)(k6:(c==6)=false)(f:(c==16)=false)(h:(c==22)=false)(a:(c==23)=false)(b:(c==24)=false) : Calls Tryz.prog 148 #[vI 1,vP gm 0,vP g 0] w (cc .nilFunc w):=by
 refine en 67 Tryz.func148 rfl<|sg<|L0<|da #[vP gm 0] fun i x y j k=>L0<|da #[vP g 0] fun l z A B m=>Pl 1<|aM 1<|aK #[.nilFunc] fun D E n o p=>L0<|cm o 0 #[.func (.func 198) #[] #[vP l 0,vP i 0]] fun F G q=>nl<|tn<|ak 2<|aK #[.bool false] fun H I r s t=>L0<|cm s 0 #[.bool false] fun J u v=>nt<|sq<|sg<|?_
 have d:=aJ m (ud p (aJ q (ud t v r)) n)
 refine aE (ub d j) 0<|Pl 2<|?_
 have e:=aJ k d
 exact aE (ub e hm) 0<|ah 1<|bk<|sg<|aE u 0<|ah 9<|c0<|sq<|sq<|go<|ah 3<|cf k3<|aD 3<|cf k4<|go<|Pl 3<|sy 35 a<|ah 4<|c0<|aD 3<|cf k6<|ak 3<|nl<|tn<|cf f<|aD 3<|cf h<|aD 3<|cf a<|ak 3<|sy 59 b<|ah 3<|c0<|aD 3<|cf b<|sk<|bn<|tn<|aD 1<|rt<|rr (.nilFunc)<|⟨rfl,e⟩
theorem nj{r:ai × aT}    (hC:al w g C)(hm:w.heap[gm]? = some (.cells (mC c) 45 (0,0)))(hne:g≠gm)(hd:dir=0∨dir=1)(h:aW dir c C=some r) : Calls Tryz.prog 148 #[.int .i64 dir,.pointer (some ⟨gm,0,none⟩),.pointer (some ⟨g,0,none⟩)] w (kk (fun W=>cX g gm r.1 r.2 W) w):=by
  by_cases h3:c=3
  · subst h3
    rcases hd with rfl|rfl
    · obtain rfl:cz 125 3 C=r:=Option.some.inj h
      exact wG hC hm hne
    · obtain rfl:cO 3 C=r:=Option.some.inj h
      exact ws hC hm hne
  by_cases h4:c=4
  · subst h4
    rcases hd with rfl|rfl
    · obtain rfl:cz 125 4 C=r:=Option.some.inj h
      exact w8 hC hm hne
    · obtain rfl:cO 4 C=r:=Option.some.inj h
      exact xc hC hm hne
  by_cases h6:c=6
  · subst h6
    rcases hd with rfl|rfl
    · obtain rfl:ei 6 C=r:=Option.some.inj h
      exact xk hC hm hne
    · obtain rfl:ei 6 C=r:=Option.some.inj h
      exact x8 hC hm hne
  by_cases a:c=16
  · subst a
    rcases hd with rfl|rfl
    · obtain rfl:dr 16 C=r:=Option.some.inj h
      exact tU hC hm hne
    · obtain rfl:cz 123 16 C=r:=Option.some.inj h
      exact ta hC hm hne
  by_cases b:c=22
  · subst b
    rcases hd with rfl|rfl
    · obtain rfl:dh 22 C=r:=Option.some.inj h
      exact tw hC hm hne
    · obtain rfl:dh 22 C=r:=Option.some.inj h
      exact tu hC hm hne
  by_cases d:c=23
  · subst d
    rcases hd with rfl|rfl
    · obtain rfl:dv 23 C=r:=Option.some.inj h
      exact tz hC hm hne
    · obtain rfl:cO 23 C=r:=Option.some.inj h
      exact uo hC hm hne
  by_cases e:c=24
  · subst e
    rcases hd with rfl|rfl
    · obtain rfl:dx 24 C=r:=Option.some.inj h
      exact tj hC hm hne
    · obtain rfl:mp 24 C=r:=Option.some.inj h
      exact td hC hm hne
  exfalso
  unfold aW at h
  simp[h3,h4,h6,a,b,d,e] at h
theorem nR(hC:al w g C)(hm:w.heap[gm]? = some (.cells (mC c) 45 (0,0)))(hne:g≠gm)(hd:dir=0∨dir=1)(h:aW dir c C=none) : Calls Tryz.prog 148 #[.int .i64 dir,.pointer (some ⟨gm,0,none⟩),.pointer (some ⟨g,0,none⟩)] w (cc .nilFunc w):=by
  have k3:(c==3)=false:=by
    cases hk:(c==3)
    · rfl
    · obtain rfl:c=3:=by simpa using hk
      rcases hd with rfl|rfl<;>cases h
  have k4:(c==4)=false:=by
    cases hk:(c==4)
    · rfl
    · obtain rfl:c=4:=by simpa using hk
      rcases hd with rfl|rfl<;>cases h
  have k6:(c==6)=false:=by
    cases hk:(c==6)
    · rfl
    · obtain rfl:c=6:=by simpa using hk
      rcases hd with rfl|rfl<;>cases h
  have a:(c==16)=false:=by
    cases hk:(c==16)
    · rfl
    · obtain rfl:c=16:=by simpa using hk
      rcases hd with rfl|rfl<;>cases h
  have b:(c==22)=false:=by
    cases hk:(c==22)
    · rfl
    · obtain rfl:c=22:=by simpa using hk
      rcases hd with rfl|rfl<;>cases h
  have d:(c==23)=false:=by
    cases hk:(c==23)
    · rfl
    · obtain rfl:c=23:=by simpa using hk
      rcases hd with rfl|rfl<;>cases h
  have e:(c==24)=false:=by
    cases hk:(c==24)
    · rfl
    · obtain rfl:c=24:=by simpa using hk
      rcases hd with rfl|rfl<;>cases h
  rcases hd with rfl|rfl
  · exact ur hC hm hne k3 k4 k6 a b d e
  · exact sY hC hm hne k3 k4 k6 a b d e
open Go.RowKit
theorem qs(hcode:B8 c)(hsl:aX m w (.slice A b.length cp) b)(hb:b.length≤1048576) :
    Calls Tryz.prog 98 #[vI 0,vB c,.slice A b.length cp] w (eT (aj aW 0 c b) w):=by
 obtain⟨hcode1,hcode2⟩:=hcode
 have hln:(b.length:Int)≤1048576:=by omega
 refine en 40 Tryz.func98 rfl<|sg<|aK mZ fun U V k i v=>ah 1<|sq<|aD 6<|c0<|bo<|ak 2<|aK mZ fun W X g l K=>aG l (mC c) fun Y x n=>aM 1<|?_
 have h:=ud K n g
 have o:=aJ v h
 refine ay<|e3 (et (aX.old hsl o) (by omega)) fun Z a0 d y a=>Pl 1<|aM 2<|?_
 have z:=aJ o a
 refine wo (aW 0 c ⟨b,false,0⟩) (fun hr=>?_) (fun r hr=>?_)
 refine ay<|m1 (nR (dir:=0) (c:=c) y (ub a x) (Ne.symm (nb (au l) n.size d)) (Or.inl rfl) hr) fun a1 B=>ah 1<|sq<|aD 2<|c1<|ak 1<|?_
 refine aG (ub (aJ h (aJ a B)) i) mZ fun a2 L M=>ah 1<|aV<|bH L (vI 4)<|?_
 exact cC (by unfold aj;(try simp only[bj,dQ,dU,dW,dT,dR,reduceIte,hr])<;>rfl) (d6 (ud z (uz B M) k))
 have C:=nb (au l) n.size d
 refine ay<|sW (nj (dir:=0) (c:=c) y (ub a x) (Ne.symm C) (Or.inl rfl) hr) fun N D a3 O E hcall51=>ah 1<|sq<|aD 2<|c0<|bo<|sq<|go<|Pl 1<|L0<|i8 (f:=N) (args:=D) (hf:=O) #[] D<|m3 (hcall51) fun a4 F P G=>?_
 obtain⟨Q,j,p⟩:=P
 refine aM 1<|ay<|m2 (cH F) fun a5 H q=>nt<|sq<|ak 1<|ay<|mq (bL H)<|?_
 have a6:=al.len H
 refine Pl 1<|cN 2<|?_
 have s:=uz E (u1 G q im)
 have I:=ut z s (ac (ni o.size d) (ac (ni v.size g) aC))
 have hs:aj aW 0 c b=bt r.2 r.1:=by
   unfold aj
   (try simp only[bj,dQ,dU,dW,dT,dR,reduceIte,hr])
   all_goals rfl
 refine cb ((r.1.endC.e != 0)) (fun t=>?_) (fun t=>?_)
 have u:=az t
 refine ak 2<|?_
 refine aG (ub (ud h (ud a s d) g) i) mZ fun a7 R S=>ah 1<|aV<|bH R (vI r.1.endC.e)<|?_
 rw[hs]
 exact bI u (ud I S k)
 have u:=aA t
 refine bo<|sg<|?_
 refine L0<|bO (hz:=(by rw[j.2];exact aQ)) (be q C j.1)<|?_
 refine aG (hz:=(by rw[j.2];exact aQ)) (hv:=p.size) (h1:=p.one) (ub (ud h (ud a s d) g) i) (Q) fun a8 T J=>ah 1<|rt<|fh 22 j.2 T (vI 0)<|?_
 rw[hs]
 exact bM u (aI.upd p (us q J) (av (al.safe F _ (by decide)) (av (b6 (ub (ud h (ud a (uz E G) d) g) i) (by decide)) aN))) (ud I J k)
theorem qq(hcode:B8 c)(hsl:aX m w (.slice A b.length cp) b)(hb:b.length≤1048576) :
    Calls Tryz.prog 98 #[vI 1,vB c,.slice A b.length cp] w (eT (aj aW 1 c b) w):=by
 obtain⟨hcode1,hcode2⟩:=hcode
 have hln:(b.length:Int)≤1048576:=by omega
 refine en 40 Tryz.func98 rfl<|sg<|aK mZ fun U V k i v=>ah 1<|sq<|aD 6<|c0<|bo<|ak 2<|aK mZ fun W X g l K=>aG l (mC c) fun Y x n=>aM 1<|?_
 have h:=ud K n g
 have o:=aJ v h
 refine ay<|e3 (et (aX.old hsl o) (by omega)) fun Z a0 d y a=>Pl 1<|aM 2<|?_
 have z:=aJ o a
 refine wo (aW 1 c ⟨b,false,0⟩) (fun hr=>?_) (fun r hr=>?_)
 refine ay<|m1 (nR (dir:=1) (c:=c) y (ub a x) (Ne.symm (nb (au l) n.size d)) (Or.inr rfl) hr) fun a1 B=>ah 1<|sq<|aD 2<|c1<|ak 1<|?_
 refine aG (ub (aJ h (aJ a B)) i) mZ fun a2 L M=>ah 1<|aV<|bH L (vI 4)<|?_
 exact cC (by unfold aj;(try simp only[bj,dQ,dU,dW,dT,dR,reduceIte,hr])<;>rfl) (d6 (ud z (uz B M) k))
 have C:=nb (au l) n.size d
 refine ay<|sW (nj (dir:=1) (c:=c) y (ub a x) (Ne.symm C) (Or.inr rfl) hr) fun N D a3 O E hcall51=>ah 1<|sq<|aD 2<|c0<|bo<|sq<|go<|Pl 1<|L0<|i8 (f:=N) (args:=D) (hf:=O) #[] D<|m3 (hcall51) fun a4 F P G=>?_
 obtain⟨Q,j,p⟩:=P
 refine aM 1<|ay<|m2 (cH F) fun a5 H q=>nt<|sq<|ak 1<|ay<|mq (bL H)<|?_
 have a6:=al.len H
 refine Pl 1<|cN 2<|?_
 have s:=uz E (u1 G q im)
 have I:=ut z s (ac (ni o.size d) (ac (ni v.size g) aC))
 have hs:aj aW 1 c b=bt r.2 r.1:=by
   unfold aj
   (try simp only[bj,dQ,dU,dW,dT,dR,reduceIte,hr])
   all_goals rfl
 refine cb ((r.1.endC.e != 0)) (fun t=>?_) (fun t=>?_)
 have u:=az t
 refine ak 2<|?_
 refine aG (ub (ud h (ud a s d) g) i) mZ fun a7 R S=>ah 1<|aV<|bH R (vI r.1.endC.e)<|?_
 rw[hs]
 exact bI u (ud I S k)
 have u:=aA t
 refine bo<|sg<|?_
 refine L0<|bO (hz:=(by rw[j.2];exact aQ)) (be q C j.1)<|?_
 refine aG (hz:=(by rw[j.2];exact aQ)) (hv:=p.size) (h1:=p.one) (ub (ud h (ud a s d) g) i) (Q) fun a8 T J=>ah 1<|rt<|fh 22 j.2 T (vI 0)<|?_
 rw[hs]
 exact bM u (aI.upd p (us q J) (av (al.safe F _ (by decide)) (av (b6 (ub (ud h (ud a (uz E G) d) g) i) (by decide)) aN))) (ud I J k)
theorem qm(hcode:B8 c)(hsl:aX m w (.slice A b.length cp) b)(hb:b.length≤1048576)(hd:¬ (dir=0∨dir=1)) :
    Calls Tryz.prog 98 #[vI dir,vB c,.slice A b.length cp] w (eT (aj aW dir c b) w):=by
 obtain⟨hcode1,hcode2⟩:=hcode
 have hln:(b.length:Int)≤1048576:=by omega
 have e0:(dir != 0)=true:=by simp;omega
 have e1:(dir != 1)=true:=by simp;omega
 refine en 40 Tryz.func98 rfl<|sg<|aK mZ fun g h a d e=>ah 1<|sq<|ak 3<|sy 14 e0<|Pl 3<|nl<|tn<|ct e1<|ak 1<|aG d mZ fun i eP f=>ah 1<|aV<|bH eP (vI 1)<|?_
 exact cC (by unfold aj aW;(try simp only[e0,e1,bj,dQ,dU,dW,dT,dR,reduceIte,hd])<;>rfl) (d6 (ud e f a))
theorem nw(hc:B8 c)(h:aX m w v b)(hb:b.length≤1048576) :
    Calls Tryz.prog 98 #[.int .i64 dir,.int .u8 c,v] w (eT (aj aW dir c b) w):=by
  obtain⟨A,cp,rfl,_,_⟩:=h.shape
  by_cases h0:dir=0
  · subst h0;exact qs hc h hb
  by_cases h1:dir=1
  · subst h1;exact qq hc h hb
  exact qm hc h hb (by omega)
open Go.RowKit
theorem nB(hcode:B8 c)(hC:al w g C)(hm:w.heap[gm]? = some (.cells (mC c) 45 (0,0)))(hne:g≠gm) :
    Calls Tryz.prog 193 #[.agg #[vP g 0,vP gm 0],vW most] w (tt g gm (bY C most) (mG c 0 C.wordV (C.wordsC 1).wordV 0 0 0 0 0 0 0 0 nS nS nS nS 0 0 0 0 0 nS) w):=by
 obtain⟨hcode1,hcode2⟩:=hcode
 have hlen:=hC.len
 refine en 51 Tryz.func193 rfl<|sg<|L0<|da #[vP g 0,vP gm 0] fun f ak P a7 a8=>nt<|sq<|Rg 8 (fun w'=>w'.cell? ⟨f,1,none⟩=some (vP gm 0)∧w'.cell? ⟨f,0,none⟩=some (vP g 0)) fun am Q=>?_
 have t:=ub Q a7
 refine bp ⟨(ae t rfl),(ae t rfl)⟩ fun o=>Rt 0 o<|Rl 1 o (fun _ hs=>hs.1)<|Rt 2 o<|Rl 3 o (fun _ hs=>hs.2)<|?_
 have R:=aJ a8 Q
 refine R0 4 rfl<|Oc<|m3 (ck (al.old hC R)) fun an a9 S ao=>?_
 have h:=nb (al.lt hC) lr P
 have u:=be S (Ne.symm h) t
 refine bp ⟨(ae u rfl),(ae u rfl)⟩ fun T=>Rt 5 T<|Rt 6 T<|?_
 have U:=uz R S
 have V:=be U (Ne.symm hne) hm
 refine R0 7 rfl<|cm V 2 (mG c 0 C.wordV 0 0 0 0 0 0 0 0 0 nS nS nS nS 0 0 0 0 0 nS) fun ap ab W=>?_
 have X:=nb (au hm) lr P
 have v:=be W (Ne.symm X) u
 refine bp ⟨(ae v rfl),(ae v rfl)⟩ fun aq=>re<|tn<|sq<|Rg 8 (fun w'=>w'.cell? ⟨f,1,none⟩=some (vP gm 0)∧w'.cell? ⟨f,0,none⟩=some (vP g 0)) fun ar x=>?_
 have y:=ub x v
 refine bp ⟨(ae y rfl),(ae y rfl)⟩ fun p=>Rt 0 p<|Rl 1 p (fun _ hs=>hs.1)<|Rt 2 p<|Rl 3 p (fun _ hs=>hs.2)<|?_
 have Y:=aJ W x
 refine R0 4 rfl<|Oc<|m3 (ck (al.upd a9 Y (aa hne aF) (av (b6 V (by decide)) aN))) fun aw Z z ax=>?_
 have A:=be z (Ne.symm h) y
 refine bp ⟨(ae A rfl),(ae A rfl)⟩ fun a0=>Rt 5 a0<|Rt 6 a0<|?_
 have B:=be (uz x z) (Ne.symm hne) ab
 refine R0 7 rfl<|cm B 3 (mG c 0 C.wordV ((C.wordsC 1).wordV) 0 0 0 0 0 0 0 0 nS nS nS nS 0 0 0 0 0 nS) fun ay ac a1=>?_
 have D:=be a1 (Ne.symm X) A
 refine bp ⟨(ae D rfl),(ae D rfl)⟩ fun az=>re<|tn<|sq<|Rg 18 (fun w'=>w'.cell? ⟨f,0,none⟩=some (vP g 0)∧w'.cell? ⟨f,1,none⟩=some (vP gm 0)∧w'.cell? ⟨gm,3,none⟩=some (vW ((C.wordsC 1).wordV))) fun aA E=>?_
 have q:=ub E D
 have F:=ub E ac
 refine bp ⟨(ae q rfl),(ae q rfl),(ae F rfl)⟩ fun b=>Rt 0 b<|Rl 1 b (fun _ hs=>hs.1)<|Rt 2 b<|Rl 3 b (fun _ hs=>hs.2.1)<|Rt 4 b<|Rt 5 b<|Rl 6 b (fun _ hs=>hs.2.2)<|Rt 7 b<|Rt 8 b<|?_
 have G:=aJ a1 E
 have a2:=ui U (ui Y (us z G))
 refine vp 26 ((decide (1≤((C.wordsC 1).wordV)))) (fun i=>?_) (fun i=>?_)
 have ad:=of_decide_eq_true i
 refine Rt 9 b<|Rl 10 b (fun _ hs=>hs.2.1)<|Rt 11 b<|Rt 12 b<|Rl 13 b (fun _ hs=>hs.2.2)<|Rt 14 b<|Rt 15 b<|Rt 16 b<|?_
 refine R0 17 rfl<|Oc<|m2 (bu ((decide (((C.wordsC 1).wordV)≤most))) 5 (al.upd Z G (aa hne aF) (av (b6 B (by decide)) aN))) fun aB af H=>?_
 have I:=be H (Ne.symm h) q
 have a3:=be H (Ne.symm hne) F
 refine bp ⟨(ae I rfl),(ae I rfl),(ae a3 rfl)⟩ fun aC=>re<|tn<|Rg 15 (fun w'=>w'.cell? ⟨f,0,none⟩=some (vP g 0)∧w'.cell? ⟨f,1,none⟩=some (vP gm 0)∧w'.cell? ⟨gm,2,none⟩=some (vW C.wordV)∧w'.cell? ⟨gm,3,none⟩=some (vW ((C.wordsC 1).wordV))) fun aD r=>?_
 have j:=ub r I
 have k:=ub r a3
 refine bp ⟨(ae j rfl),(ae j rfl),(ae k rfl),(ae k rfl)⟩ fun d=>Rt 0 d<|Rl 1 d (fun _ hs=>hs.1)<|Rt 2 d<|Rl 3 d (fun _ hs=>hs.2.1)<|Rt 4 d<|Rt 5 d<|Rl 6 d (fun _ hs=>hs.2.2.1)<|Rt 7 d<|Rl 8 d (fun _ hs=>hs.2.1)<|Rt 9 d<|Rt 10 d<|Rl 11 d (fun _ hs=>hs.2.2.2)<|Rr 12 d (vI ((C.wordsC 1).wordV)) (fun _ _=>bW (vI (IntKind.i64.wrap ((C.wordsC 1).wordV))) (by kernel_rfl) (congrArg (Value.int .i64) (i64_in (by omega))))<|R0 13 rfl<|Oc<|mq (kg (a:=C.wordV) (n:=(C.wordsC 1).wordV) (by omega))<|bp ⟨(ae j rfl),(ae j rfl),(ae k rfl),(ae k rfl)⟩ fun aE=>?_
 refine R0 14 rfl<|Oc<|m2 (bu ((ee C.wordV ((C.wordsC 1).wordV))) 7 (al.old af r)) fun aG ag J=>?_
 have a4:=be J (Ne.symm h) j
 have K:=be J (Ne.symm hne) k
 refine bp ⟨(ae a4 rfl),(ae a4 rfl),(ae K rfl),(ae K rfl)⟩ fun aH=>re<|rm (.tuple #[])<|?_
 have hs:bY C most=((((C.wordsC 1).wordsC 1).need (decide (((C.wordsC 1).wordV)≤most)) 5).need (ee C.wordV ((C.wordsC 1).wordV)) 7):=by
   unfold bY kj
   (try simp only[i,bj,reduceIte])
   all_goals rfl
 rw[hs]
 exact⟨rfl,ag,K,(u1 a2 (u1 H (uz r J) im) im)⟩
 have ad:=of_decide_eq_false i
 refine Ro 9 b<|Ro 10 b<|Ro 11 b<|Ro 12 b<|Ro 13 b<|Ro 14 b<|Ro 15 b<|Rt 16 b<|?_
 refine R0 17 rfl<|Oc<|m2 (bu (false) 5 (al.upd Z G (aa hne aF) (av (b6 B (by decide)) aN))) fun aI ah L=>?_
 have M:=be L (Ne.symm h) q
 have a5:=be L (Ne.symm hne) F
 refine bp ⟨(ae M rfl),(ae M rfl),(ae a5 rfl)⟩ fun aK=>re<|tn<|Rg 15 (fun w'=>w'.cell? ⟨f,0,none⟩=some (vP g 0)∧w'.cell? ⟨f,1,none⟩=some (vP gm 0)∧w'.cell? ⟨gm,2,none⟩=some (vW C.wordV)∧w'.cell? ⟨gm,3,none⟩=some (vW ((C.wordsC 1).wordV))) fun aL s=>?_
 have l:=ub s M
 have m:=ub s a5
 refine bp ⟨(ae l rfl),(ae l rfl),(ae m rfl),(ae m rfl)⟩ fun e=>Rt 0 e<|Rl 1 e (fun _ hs=>hs.1)<|Rt 2 e<|Rl 3 e (fun _ hs=>hs.2.1)<|Rt 4 e<|Rt 5 e<|Rl 6 e (fun _ hs=>hs.2.2.1)<|Rt 7 e<|Rl 8 e (fun _ hs=>hs.2.1)<|Rt 9 e<|Rt 10 e<|Rl 11 e (fun _ hs=>hs.2.2.2)<|Rr 12 e (vI ((C.wordsC 1).wordV)) (fun _ _=>bW (vI (IntKind.i64.wrap ((C.wordsC 1).wordV))) (by kernel_rfl) (congrArg (Value.int .i64) (i64_in (by omega))))<|R0 13 rfl<|Oc<|mq (kg (a:=C.wordV) (n:=(C.wordsC 1).wordV) (by omega))<|bp ⟨(ae l rfl),(ae l rfl),(ae m rfl),(ae m rfl)⟩ fun aM=>?_
 refine R0 14 rfl<|Oc<|m2 (bu ((ee C.wordV ((C.wordsC 1).wordV))) 7 (al.old ah s)) fun aO aj N=>?_
 have a6:=be N (Ne.symm h) l
 have O:=be N (Ne.symm hne) m
 refine bp ⟨(ae a6 rfl),(ae a6 rfl),(ae O rfl),(ae O rfl)⟩ fun aP=>re<|rm (.tuple #[])<|?_
 have hs:bY C most=((((C.wordsC 1).wordsC 1).need false 5).need (ee C.wordV ((C.wordsC 1).wordV)) 7):=by
   unfold bY kj
   (try simp only[i,bj,reduceIte])
   all_goals rfl
 rw[hs]
 exact⟨rfl,aj,O,(u1 a2 (u1 L (uz s N) im) im)⟩
theorem kR(hcode:B8 c)(hC:al w g C)(hm:w.heap[gm]? = some (.cells (mC c) 45 (0,0)))(hne:g≠gm) :
    Calls Tryz.prog 140 #[.agg #[vP g 0,vP gm 0]] w (cX g gm (eL 2000 c C).1 (eL 2000 c C).2 w):=by
 obtain⟨hcode1,hcode2⟩:=hcode
 have hlen:=hC.len
 refine en 4 Tryz.func140 rfl<|sg<|L0<|da #[vP g 0,vP gm 0] fun i j k d a=>nt<|go<|L0<|bO d<|?_
 have b:=al.old hC a
 refine ay<|m3 (nB (most:=2000) ⟨hcode1,hcode2⟩ b (ub a hm) hne) fun l e f h=>?_
 have m:=(b).wordV
 have n:=bU (d7 (b).rng 1)
 refine nl<|rm (.tuple #[])<|?_
 exact cC (by unfold eL;(try simp only[bj,reduceIte])<;>rfl) ⟨rfl,e,⟨_,⟨f,rfl⟩,⟨_,_,_,_,_,rfl,aS.nil ..,aS.nil ..,aS.nil ..,aS.nil ..,aS.nil ..,⟨(b8 (x:=c) (by omega)),(b8 (x:=0) (by omega)),(cT (x:=C.wordV) (by omega)),(cT (x:=(C.wordsC 1).wordV) (by omega)),(cT (x:=0) (by omega)),(cT (x:=0) (by omega)),(cT (x:=0) (by omega)),(cT (x:=0) (by omega)),(cT (x:=0) (by omega)),(cT (x:=0) (by omega)),(cT (x:=0) (by omega)),(cT (x:=0) (by omega)),(b8 (x:=0) (by omega)),(b8 (x:=0) (by omega)),(b8 (x:=0) (by omega)),(b8 (x:=0) (by omega)),(b8 (x:=0) (by omega))⟩⟩⟩,(uz a h)⟩
theorem oO(hcode:B8 c)(hC:al w g C)(hm:w.heap[gm]? = some (.cells (mC c) 45 (0,0)))(hne:g≠gm) :
    Calls Tryz.prog 141 #[.agg #[vP g 0,vP gm 0]] w (cX g gm (eu c C).1 (eu c C).2 w):=by
 obtain⟨hcode1,hcode2⟩:=hcode
 have hlen:=hC.len
 refine en 24 Tryz.func141 rfl<|sg<|L0<|da #[vP g 0,vP gm 0] fun j L k l m=>aM 1<|aE l 0<|?_
 refine ay<|m3 (cl (al.old hC m)) fun M A o N=>Pl 1<|aM 1<|?_
 have e:=nb (al.lt hC) lr k
 have p:=be o (Ne.symm e) l
 refine aE p 0<|Pl 3<|cu 3 [10] 13 (((decide (1≤C.byteV))&&(decide (C.byteV≤250)))) (fun K q=>?_) ?_
 refine bl 10 ((decide (1≤C.byteV))) (fun b=>?_) (fun b=>?_)
 have B:=of_decide_eq_true b
 exact Pl 3<|ce q (decide (C.byteV≤250)) (by rw[b];rfl)
 have B:=of_decide_eq_false b
 exact Pl 3<|ce q false (by rw[b];rfl)
 refine ay<|m2 (bu (((decide (1≤C.byteV))&&(decide (C.byteV≤250)))) 5 A) fun O D E=>nt<|Rg 10 (fun w'=>w'.cell? ⟨j,1,none⟩=some (vP gm 0)∧w'.cell? ⟨j,0,none⟩=some (vP g 0)) fun P r=>?_
 have s:=aJ E r
 have f:=be s (Ne.symm e) p
 refine bp ⟨(ae f rfl),(ae f rfl)⟩ fun a=>Rt 0 a<|Rl 1 a (fun _ hs=>hs.1)<|Rt 2 a<|Rl 3 a (fun _ hs=>hs.2)<|Rt 4 a<|Rr 5 a (vI C.byteV) (fun _ _=>bW (vI (IntKind.i64.wrap C.byteV)) (by kernel_rfl) (congrArg (Value.int .i64) (i64_in (by omega))))<|?_
 have t:=al.old D r
 refine R0 6 rfl<|Oc<|wH (cR (n:=C.byteV) t) fun F G Q H R S I u=>?_
 have T:=Nat.le_trans (ai.bytesR_le ((C.bytesC 1).need ((decide (1≤C.byteV))&&(decide (C.byteV≤250))) 5) C.byteV) (al.len t)
 have h:=be u (Ne.symm e) f
 refine bp ⟨(ae h rfl),(ae h rfl)⟩ fun v=>Rt 7 v<|Rt 8 v<|?_
 have y:=uz m (u1 o (u1 s u im) im)
 have i:=be y (Ne.symm hne) hm
 refine R0 9 rfl<|cm i 14 (mG c 0 0 0 0 0 0 0 0 0 0 0 nS nS (.slice F ((((C.bytesC 1).need ((decide (1≤C.byteV))&&(decide (C.byteV≤250))) 5).bytesR C.byteV).length) G) nS 0 0 0 0 0 nS) fun U J d=>?_
 have z:=be d (Ne.symm (nb (au hm) lr k)) h
 refine bp ⟨(ae z rfl),(ae z rfl)⟩ fun V=>re<|rm (.tuple #[])<|?_
 exact cC (by unfold eu eh;(try simp only[bj,reduceIte])<;>rfl) ⟨rfl,(al.upd I d (aa hne aF) (av (b6 i (by decide)) aN)),⟨_,⟨J,rfl⟩,⟨_,_,_,_,_,rfl,aS.nil ..,aS.nil ..,(aX.upd' H d (av (b6 i (by decide)) aN)),aS.nil ..,aS.nil ..,⟨(b8 (x:=c) (by omega)),(b8 (x:=0) (by omega)),(cT (x:=0) (by omega)),(cT (x:=0) (by omega)),(cT (x:=0) (by omega)),(cT (x:=0) (by omega)),(cT (x:=0) (by omega)),(cT (x:=0) (by omega)),(cT (x:=0) (by omega)),(cT (x:=0) (by omega)),(cT (x:=0) (by omega)),(cT (x:=0) (by omega)),(b8 (x:=0) (by omega)),(b8 (x:=0) (by omega)),(b8 (x:=0) (by omega)),(b8 (x:=0) (by omega)),(b8 (x:=0) (by omega))⟩⟩⟩,(us y d)⟩
theorem oP(hcode:B8 c)(hC:al w g C)(hm:w.heap[gm]? = some (.cells (mC c) 45 (0,0)))(hne:g≠gm) :
    Calls Tryz.prog 142 #[.agg #[vP g 0,vP gm 0]] w (cX g gm (ed c C).1 (ed c C).2 w):=by
 obtain⟨hcode1,hcode2⟩:=hcode
 have hlen:=hC.len
 refine en 33 Tryz.func142 rfl<|sg<|L0<|da #[vP g 0,vP gm 0] fun b a0 z S T=>nt<|sq<|Rg 8 (fun w'=>w'.cell? ⟨b,1,none⟩=some (vP gm 0)∧w'.cell? ⟨b,0,none⟩=some (vP g 0)) fun a1 A=>?_
 have j:=ub A S
 refine bp ⟨(ae j rfl),(ae j rfl)⟩ fun e=>Rt 0 e<|Rl 1 e (fun _ hs=>hs.1)<|Rt 2 e<|Rl 3 e (fun _ hs=>hs.2)<|?_
 have B:=aJ T A
 refine R0 4 rfl<|Oc<|m3 (ck (al.old hC B)) fun a2 U D a3=>?_
 have f:=nb (al.lt hC) lr z
 have k:=be D (Ne.symm f) j
 refine bp ⟨(ae k rfl),(ae k rfl)⟩ fun E=>Rt 5 E<|Rt 6 E<|?_
 have F:=uz B D
 have G:=be F (Ne.symm hne) hm
 refine R0 7 rfl<|cm G 2 (mG c 0 C.wordV 0 0 0 0 0 0 0 0 0 nS nS nS nS 0 0 0 0 0 nS) fun a4 V H=>?_
 have I:=nb (au hm) lr z
 have l:=be H (Ne.symm I) k
 refine bp ⟨(ae l rfl),(ae l rfl)⟩ fun a5=>re<|tn<|sq<|Rg 8 (fun w'=>w'.cell? ⟨b,1,none⟩=some (vP gm 0)∧w'.cell? ⟨b,0,none⟩=some (vP g 0)) fun a6 m=>?_
 have n:=ub m l
 refine bp ⟨(ae n rfl),(ae n rfl)⟩ fun h=>Rt 0 h<|Rl 1 h (fun _ hs=>hs.1)<|Rt 2 h<|Rl 3 h (fun _ hs=>hs.2)<|?_
 have J:=aJ H m
 refine R0 4 rfl<|Oc<|m3 (ck (al.upd U J (aa hne aF) (av (b6 G (by decide)) aN))) fun a7 K o a8=>?_
 have p:=be o (Ne.symm f) n
 refine bp ⟨(ae p rfl),(ae p rfl)⟩ fun L=>Rt 5 L<|Rt 6 L<|?_
 have q:=be (uz m o) (Ne.symm hne) V
 refine R0 7 rfl<|cm q 4 (mG c 0 C.wordV 0 ((C.wordsC 1).wordV) 0 0 0 0 0 0 0 nS nS nS nS 0 0 0 0 0 nS) fun a9 W M=>?_
 have r:=be M (Ne.symm I) p
 refine bp ⟨(ae r rfl),(ae r rfl)⟩ fun ab=>re<|tn<|Rg 17 (fun w'=>w'.cell? ⟨b,0,none⟩=some (vP g 0)∧w'.cell? ⟨b,1,none⟩=some (vP gm 0)∧w'.cell? ⟨gm,4,none⟩=some (vW ((C.wordsC 1).wordV))) fun ac s=>?_
 have i:=ub s r
 have t:=ub s W
 refine bp ⟨(ae i rfl),(ae i rfl),(ae t rfl)⟩ fun a=>Rt 0 a<|Rl 1 a (fun _ hs=>hs.1)<|Rt 2 a<|Rl 3 a (fun _ hs=>hs.2.1)<|Rt 4 a<|Rt 5 a<|Rl 6 a (fun _ hs=>hs.2.2)<|Rt 7 a<|Rt 8 a<|?_
 have u:=aJ M s
 have N:=ui F (ui J (us o u))
 refine vp 24 ((((C.wordsC 1).wordV)==0)) (fun d=>?_) (fun d=>?_)
 have X:=ag d
 refine Ro 9 a<|Ro 10 a<|Ro 11 a<|Ro 12 a<|Ro 13 a<|Ro 14 a<|Rt 15 a<|?_
 refine R0 16 rfl<|Oc<|m2 (bu (true) 6 (al.upd K u (aa hne aF) (av (b6 q (by decide)) aN))) fun ad Y v=>?_
 have O:=be v (Ne.symm f) i
 have P:=be v (Ne.symm hne) t
 refine bp ⟨(ae O rfl),(ae O rfl),(ae P rfl)⟩ fun af=>re<|rm (.tuple #[])<|?_
 have hs:ed c C=((((C.wordsC 1).wordsC 1).need true 6),(aT.mk c 0 C.wordV 0 ((C.wordsC 1).wordV) 0 0 0 0 0 0 0 [] [] [] [] 0 0 0 0 0 [])):=by
   unfold ed fX
   (try simp only[d,bj,reduceIte])
   all_goals rfl
 rw[hs]
 exact⟨rfl,Y,⟨_,⟨P,rfl⟩,⟨_,_,_,_,_,rfl,aS.nil ..,aS.nil ..,aS.nil ..,aS.nil ..,aS.nil ..,⟨(b8 (x:=c) (by omega)),(b8 (x:=0) (by omega)),(cT (x:=C.wordV) (by omega)),(cT (x:=0) (by omega)),(cT (x:=(C.wordsC 1).wordV) (by omega)),(cT (x:=0) (by omega)),(cT (x:=0) (by omega)),(cT (x:=0) (by omega)),(cT (x:=0) (by omega)),(cT (x:=0) (by omega)),(cT (x:=0) (by omega)),(cT (x:=0) (by omega)),(b8 (x:=0) (by omega)),(b8 (x:=0) (by omega)),(b8 (x:=0) (by omega)),(b8 (x:=0) (by omega)),(b8 (x:=0) (by omega))⟩⟩⟩,(u1 N v im)⟩
 have X:=am d
 refine Rt 9 a<|Rl 10 a (fun _ hs=>hs.2.1)<|Rt 11 a<|Rt 12 a<|Rl 13 a (fun _ hs=>hs.2.2)<|Rt 14 a<|Rt 15 a<|?_
 refine R0 16 rfl<|Oc<|m2 (bu ((((C.wordsC 1).wordV)==65280)) 6 (al.upd K u (aa hne aF) (av (b6 q (by decide)) aN))) fun ah Z y=>?_
 have Q:=be y (Ne.symm f) i
 have R:=be y (Ne.symm hne) t
 refine bp ⟨(ae Q rfl),(ae Q rfl),(ae R rfl)⟩ fun aj=>re<|rm (.tuple #[])<|?_
 have hs:ed c C=((((C.wordsC 1).wordsC 1).need (((C.wordsC 1).wordV)==65280) 6),(aT.mk c 0 C.wordV 0 ((C.wordsC 1).wordV) 0 0 0 0 0 0 0 [] [] [] [] 0 0 0 0 0 [])):=by
   unfold ed fX
   (try simp only[d,bj,reduceIte])
   all_goals rfl
 rw[hs]
 exact⟨rfl,Z,⟨_,⟨R,rfl⟩,⟨_,_,_,_,_,rfl,aS.nil ..,aS.nil ..,aS.nil ..,aS.nil ..,aS.nil ..,⟨(b8 (x:=c) (by omega)),(b8 (x:=0) (by omega)),(cT (x:=C.wordV) (by omega)),(cT (x:=0) (by omega)),(cT (x:=(C.wordsC 1).wordV) (by omega)),(cT (x:=0) (by omega)),(cT (x:=0) (by omega)),(cT (x:=0) (by omega)),(cT (x:=0) (by omega)),(cT (x:=0) (by omega)),(cT (x:=0) (by omega)),(cT (x:=0) (by omega)),(b8 (x:=0) (by omega)),(b8 (x:=0) (by omega)),(b8 (x:=0) (by omega)),(b8 (x:=0) (by omega)),(b8 (x:=0) (by omega))⟩⟩⟩,(u1 N y im)⟩
theorem zG(hcode:B8 c)(hC:al w g C)(hm:w.heap[gm]? = some (.cells (mC c) 45 (0,0)))(hne:g≠gm) :
    Calls Tryz.prog 144 #[.agg #[vP g 0,vP gm 0]] w (cX g gm (eL 1968 c C).1 (eL 1968 c C).2 w):=by
 obtain⟨hcode1,hcode2⟩:=hcode
 have hlen:=hC.len
 refine en 4 Tryz.func144 rfl<|sg<|L0<|da #[vP g 0,vP gm 0] fun i j k d a=>nt<|go<|L0<|bO d<|?_
 have b:=al.old hC a
 refine ay<|m3 (nB (most:=1968) ⟨hcode1,hcode2⟩ b (ub a hm) hne) fun l e f h=>?_
 have m:=(b).wordV
 have n:=bU (d7 (b).rng 1)
 refine nl<|rm (.tuple #[])<|?_
 exact cC (by unfold eL;(try simp only[bj,reduceIte])<;>rfl) ⟨rfl,e,⟨_,⟨f,rfl⟩,⟨_,_,_,_,_,rfl,aS.nil ..,aS.nil ..,aS.nil ..,aS.nil ..,aS.nil ..,⟨(b8 (x:=c) (by omega)),(b8 (x:=0) (by omega)),(cT (x:=C.wordV) (by omega)),(cT (x:=(C.wordsC 1).wordV) (by omega)),(cT (x:=0) (by omega)),(cT (x:=0) (by omega)),(cT (x:=0) (by omega)),(cT (x:=0) (by omega)),(cT (x:=0) (by omega)),(cT (x:=0) (by omega)),(cT (x:=0) (by omega)),(cT (x:=0) (by omega)),(b8 (x:=0) (by omega)),(b8 (x:=0) (by omega)),(b8 (x:=0) (by omega)),(b8 (x:=0) (by omega)),(b8 (x:=0) (by omega))⟩⟩⟩,(uz a h)⟩
theorem vY(hcode:B8 c)(hC:al w g C)(hm:w.heap[gm]? = some (.cells (mC c) 45 (0,0)))(hne:g≠gm) :
    Calls Tryz.prog 144 #[.agg #[vP g 0,vP gm 0]] w (tt g gm (bY C 1968) (mG c 0 C.wordV (C.wordsC 1).wordV 0 0 0 0 0 0 0 0 nS nS nS nS 0 0 0 0 0 nS) w):=by
 obtain⟨hcode1,hcode2⟩:=hcode
 have hlen:=hC.len
 refine en 4 Tryz.func144 rfl<|sg<|L0<|da #[vP g 0,vP gm 0] fun i j k d a=>nt<|go<|L0<|bO d<|?_
 have b:=al.old hC a
 refine ay<|m3 (nB (most:=1968) ⟨hcode1,hcode2⟩ b (ub a hm) hne) fun l e f h=>?_
 have m:=(b).wordV
 have n:=bU (d7 (b).rng 1)
 refine nl<|rm (.tuple #[])<|?_
 have hs:bY C 1968=(bY C 1968):=by
   unfold bY kj
   (try simp only[bj,reduceIte])
   all_goals rfl
 rw[hs]
 exact⟨rfl,e,f,(uz a h)⟩
theorem BW(hcode:B8 c)(hC:al w g C)(hm:w.heap[gm]? = some (.cells (mC c) 45 (0,0)))(hne:g≠gm) :
    Calls Tryz.prog 143 #[.agg #[vP g 0,vP gm 0]] w (cX g gm (iP c C).1 (iP c C).2 w):=by
 obtain⟨hcode1,hcode2⟩:=hcode
 have hlen:=hC.len
 refine en 46 Tryz.func143 rfl<|sg<|L0<|da #[vP g 0,vP gm 0] fun o a3 F G f=>ng<|L0<|bO G<|?_
 have t:=al.old hC f
 refine ay<|m3 (vY ⟨hcode1,hcode2⟩ t (ub f hm) hne) fun a4 Q R p=>?_
 have a5:=(t).wordV
 have a6:=bU (d7 (t).rng 1)
 refine aM 1<|?_
 have i:=nb (al.lt hC) lr F
 have H:=aH.blk p (aa (Ne.symm i) (aa (Ne.symm (nb (au hm) lr F)) aF)) G
 refine aE H 0<|ay<|m3 (cl Q) fun a7 S u a8=>bq ((bY C 1968).byteV)<|ah 1<|sq<|Rg 12 (fun w'=>w'.cell? ⟨o,0,none⟩=some (vP g 0)∧w'.cell? ⟨o,1,none⟩=some (vP gm 0)∧w'.cell? ⟨gm,3,none⟩=some (vW ((C.wordsC 1).wordV))) fun a9 q=>?_
 have v:=aJ u q
 have j:=be v (Ne.symm i) H
 have y:=be v (Ne.symm hne) R
 refine bp ⟨(ae j rfl),(ae j rfl),(ae y rfl)⟩ fun a=>Rt 0 a<|Rl 1 a (fun _ hs=>hs.1)<|Rt 2 a<|Rt 3 a<|Rl 4 a (fun _ hs=>hs.2.1)<|Rt 5 a<|Rt 6 a<|Rl 7 a (fun _ hs=>hs.2.2)<|Rr 8 a (vI ((C.wordsC 1).wordV)) (fun _ _=>bW (vI (IntKind.i64.wrap ((C.wordsC 1).wordV))) (by kernel_rfl) (congrArg (Value.int .i64) (i64_in (by omega))))<|R0 9 rfl<|Oc<|mq (kM (n:=(C.wordsC 1).wordV) (by omega))<|bp ⟨(ae j rfl),(ae j rfl),(ae y rfl)⟩ fun T=>Rt 10 T<|?_
 refine R0 11 rfl<|Oc<|m2 (bu ((((bY C 1968).byteV)==(eo ((C.wordsC 1).wordV)))) 5 (al.old S q)) fun ab U k=>?_
 have z:=be k (Ne.symm i) j
 have I:=be k (Ne.symm hne) y
 refine bp ⟨(ae z rfl),(ae z rfl),(ae I rfl)⟩ fun ad=>re<|tn<|sq<|Rg 16 (fun w'=>w'.cell? ⟨o,0,none⟩=some (vP g 0)∧w'.cell? ⟨o,1,none⟩=some (vP gm 0)∧w'.cell? ⟨gm,3,none⟩=some (vW ((C.wordsC 1).wordV))) fun af d=>?_
 have A:=ub d z
 have J:=ub d I
 refine bp ⟨(ae A rfl),(ae A rfl),(ae J rfl)⟩ fun b=>Rt 0 b<|Rl 1 b (fun _ hs=>hs.1)<|Rt 2 b<|Rt 4 b<|Rl 5 b (fun _ hs=>hs.2.1)<|Rt 6 b<|Rt 7 b<|Rl 8 b (fun _ hs=>hs.2.2)<|Rr 9 b (vI ((C.wordsC 1).wordV)) (fun _ _=>bW (vI (IntKind.i64.wrap ((C.wordsC 1).wordV))) (by kernel_rfl) (congrArg (Value.int .i64) (i64_in (by omega))))<|?_
 have K:=al.old U d
 refine R0 3 rfl<|Oc<|wH (cR (n:=(bY C 1968).byteV) K) fun V W ag X aj am Y l=>?_
 have an:=Nat.le_trans (ai.bytesR_le (((bY C 1968).bytesC 1).need (((bY C 1968).byteV)==(eo ((C.wordsC 1).wordV))) 5) ((bY C 1968).byteV)) (al.len K)
 have B:=be l (Ne.symm i) A
 have L:=be l (Ne.symm hne) J
 refine bp ⟨(ae B rfl),(ae B rfl),(ae L rfl)⟩ fun ao=>R0 10 rfl<|Oc (args:=#[.slice V (((((bY C 1968).bytesC 1).need (((bY C 1968).byteV)==(eo ((C.wordsC 1).wordV))) 5).bytesR ((bY C 1968).byteV)).length) W,vI ((C.wordsC 1).wordV)])<|e9 (tb X (by omega) (by omega) (by omega)) fun Z a0 ap D aq ar r=>?_
 have s:=ub r B
 have M:=ub r L
 refine bp ⟨(ae s rfl),(ae s rfl),(ae M rfl)⟩ fun m=>Rt 11 m<|Rt 12 m<|Rt 13 m<|Rt 14 m<|Rt 15 m<|re<|tn<|ak 1<|aE s 0<|Pl 1<|?_
 refine ay<|m2 (bu ((cK ((((bY C 1968).bytesC 1).need (((bY C 1968).byteV)==(eo ((C.wordsC 1).wordV))) 5).bytesR ((bY C 1968).byteV)) ((C.wordsC 1).wordV)).isSome) 6 (al.old Y r)) fun aw a1 E=>nt<|go<|Pl 1<|?_
 refine aE (be E (Ne.symm i) s) 1<|Pl 3<|?_
 have N:=be E (Ne.symm hne) M
 refine L0<|cm N 13 (mG c 0 C.wordV ((C.wordsC 1).wordV) 0 0 0 0 0 0 0 0 nS (.slice Z (((cK ((((bY C 1968).bytesC 1).need (((bY C 1968).byteV)==(eo ((C.wordsC 1).wordV))) 5).bytesR ((bY C 1968).byteV)) ((C.wordsC 1).wordV)).getD []).length) a0) nS nS 0 0 0 0 0 nS) fun az a2 O=>nl<|rm (.tuple #[])<|?_
 have P:=us E O
 exact cC (by unfold iP sV qJ iE oH tN;(try simp only[bj,reduceIte])<;>rfl) ⟨rfl,(al.upd a1 O (aa hne aF) (av (b6 N (by decide)) aN)),⟨_,⟨a2,rfl⟩,⟨_,_,_,_,_,rfl,aS.nil ..,((ax D P (fun x hx=>(aa (fun e=>(aL (al.lt hC) (le (le (le (le (le (le f.size p.size) u.size) q.size) k.size) d.size) l.size) D) (e▸hx)) (aa (fun e=>(aL (au hm) (le (le (le (le (le (le f.size p.size) u.size) q.size) k.size) d.size) l.size) D) (e▸hx)) aF))) (fun _ _ h=>h))).rd,aS.nil ..,aS.nil ..,aS.nil ..,⟨(b8 (x:=c) (by omega)),(b8 (x:=0) (by omega)),(cT (x:=C.wordV) (by omega)),(cT (x:=(C.wordsC 1).wordV) (by omega)),(cT (x:=0) (by omega)),(cT (x:=0) (by omega)),(cT (x:=0) (by omega)),(cT (x:=0) (by omega)),(cT (x:=0) (by omega)),(cT (x:=0) (by omega)),(cT (x:=0) (by omega)),(cT (x:=0) (by omega)),(b8 (x:=0) (by omega)),(b8 (x:=0) (by omega)),(b8 (x:=0) (by omega)),(b8 (x:=0) (by omega)),(b8 (x:=0) (by omega))⟩⟩⟩,(uz f (ut p (ui v (ui k (uz d (ui l (uz r P))))) (ac im (ac im aC))))⟩
open Go.RowKit
theorem Cf(c:Int) : c=1∨c=2∨c=5∨c=15∨(c≠1∧c≠2∧c≠5∧c≠15):=by omega
theorem oz(hcode:B8 c)(hsl:aX m w (.slice A b.length cp) b)(hb:b.length≤1048576) :
    Calls Tryz.prog 96 #[vI 0,vB c,.slice A b.length cp] w (eT (aj aO 0 c b) w):=by
 obtain⟨hcode1,hcode2⟩:=hcode
 have hln:(b.length:Int)≤1048576:=by omega
 refine en 72 Tryz.func96 rfl<|sg<|aK mZ fun cI cJ n k y=>ah 1<|sq<|aD 6<|c0<|bo<|ak 2<|aK mZ fun a cK g o bC=>aG o (mC c) fun cL J p=>aM 1<|?_
 have i:=ud bC p g
 have u:=aJ y i
 refine ay<|e3 (et (aX.old hsl u) (by omega)) fun d cM f s z=>Pl 1<|aK #[.pointer none,.pointer none] fun cO cP r ae bD=>aG ae #[vP d 0,vP a 0] fun cQ bE af=>ng<|L0<|Bb fun cR cS ag bF ai=>?_
 have S:=ub ai bE
 refine L0<|bO S<|Pl 1<|L0<|bO S<|Pl 2<|L0<|iX bF 1 fun cT bG am=>?_
 have t:=nb (au ae) af.size ag
 have T:=be am t S
 refine L0<|bO T<|Pl 1<|L0<|bO T<|Pl 2<|L0<|iX bG 2 fun cU bJ an=>?_
 have U:=be an t T
 refine L0<|bO U<|Pl 1<|L0<|bO U<|Pl 2<|L0<|iX bJ 5 fun cV bK ao=>?_
 have v:=be ao t U
 refine L0<|bO v<|Pl 1<|L0<|bO v<|Pl 2<|L0<|iX bK 15 fun cW B C=>Pl 2<|aM 2<|?_
 have D:=ud bD (aJ af (ud ai (u1 am (u1 an (u1 ao C im) im) im) ag)) r
 have j:=aJ z D
 have E:=aJ u j
 rcases Cf c with hk|hk|hk|hk|hk
 have k1:(c==1)=true:=by rw[hk];rfl
 have k2:(c==2)=false:=by rw[hk];rfl
 have k5:(c==5)=false:=by rw[hk];rfl
 have l:(c==15)=false:=by rw[hk];rfl
 refine L0<|pT (hf:=(by subst hk;kernel_rfl)) B c (.agg #[.nilFunc,.nilFunc]) (some (0,.agg #[.func (.func 140) #[.agg #[vP d 0,vP a 0]] #[],.func (.func 141) #[.agg #[vP d 0,vP a 0]] #[]]))<|Pl 3<|aK #[.nilFunc,.nilFunc] fun cX cY bN bP bQ=>aG bP #[.func (.func 140) #[.agg #[vP d 0,vP a 0]] #[],.func (.func 141) #[.agg #[vP d 0,vP a 0]] #[]] fun cZ bR bS=>ah 1<|sq<|aD 2<|c0<|bo<|ak 2<|aE bR 0<|?_
 have V:=ud bQ bS bN
 have ap:=aJ j V
 have aq:=nb (au o) p.size f
 refine L0<|i8 #[.agg #[vP d 0,vP a 0]] #[] (args:=#[.agg #[vP d 0,vP a 0]])<|m3 (kR (c:=c) ⟨hcode1,hcode2⟩ (al.old s (aJ D V)) (ub ap J) (Ne.symm aq)) fun d0 bT bU ar=>?_
 obtain⟨bV,K,W⟩:=bU
 refine ab bT fun x89 aw ax=>?_
 refine aM 1<|?_
 have aB:=uz V ar
 have aL:=nb (al.lt s) lr r
 have aP:=aH.blk (us C aB) (aa t (aa (Ne.symm aL) (aa (Ne.symm (nb (au o) (le p.size z.size) r)) aF))) v
 refine aE aP 0<|ay<|m2 (cH ax) fun d1 aR L=>nt<|sq<|ak 1<|?_
 refine aE (be L (Ne.symm aL) aP) 0<|ay<|mq (bL aR)<|?_
 have d2:=al.len aR
 refine Pl 1<|cN 2<|?_
 have X:=u1 aB L im
 have aS:=ut E X (ac (ni u.size f) (ac (ni y.size g) aC))
 refine cb ((x89.endC.e != 0)) (fun F=>?_) (fun F=>?_)
 have Y:=az F
 refine ak 2<|?_
 refine aG (ub (ud i (ud j X f) g) k) mZ fun d3 bW bX=>ah 1<|aV<|bH bW (vI x89.endC.e)<|?_
 subst aw
 exact cC (by unfold aj aO;(try simp only[F,bj,dQ,dU,dW,dT,dR,reduceIte,k1,k2,k5,l])<;>rfl) (bI Y (ud aS bX n))
 have Y:=aA F
 refine bo<|sg<|?_
 refine L0<|bO (hz:=(by rw[K.2];exact aQ)) (be L aq K.1)<|?_
 refine aG (hz:=(by rw[K.2];exact aQ)) (hv:=W.size) (h1:=W.one) (ub (ud i (ud j X f) g) k) (bV) fun d4 bY aT=>ah 1<|rt<|fh 22 K.2 bY (vI 0)<|?_
 subst aw
 exact cC (by unfold aj aO;(try simp only[F,bj,dQ,dU,dW,dT,dR,reduceIte,k1,k2,k5,l])<;>rfl) (bM Y (aI.upd W (us L aT) (av (al.safe ax _ (by decide)) (av (b6 (ub (ud i (ud ap ar f) g) k) (by decide)) aN))) (ud aS aT n))
 have k1:(c==1)=false:=by rw[hk];rfl
 have k2:(c==2)=true:=by rw[hk];rfl
 have k5:(c==5)=false:=by rw[hk];rfl
 have l:(c==15)=false:=by rw[hk];rfl
 refine L0<|pT (hf:=(by subst hk;kernel_rfl)) B c (.agg #[.nilFunc,.nilFunc]) (some (1,.agg #[.func (.func 140) #[.agg #[vP d 0,vP a 0]] #[],.func (.func 141) #[.agg #[vP d 0,vP a 0]] #[]]))<|Pl 3<|aK #[.nilFunc,.nilFunc] fun d5 d7 bZ c2 c3=>aG c2 #[.func (.func 140) #[.agg #[vP d 0,vP a 0]] #[],.func (.func 141) #[.agg #[vP d 0,vP a 0]] #[]] fun d8 c4 c5=>ah 1<|sq<|aD 2<|c0<|bo<|ak 2<|aE c4 0<|?_
 have Z:=ud c3 c5 bZ
 have aU:=aJ j Z
 have aW:=nb (au o) p.size f
 refine L0<|i8 #[.agg #[vP d 0,vP a 0]] #[] (args:=#[.agg #[vP d 0,vP a 0]])<|m3 (kR (c:=c) ⟨hcode1,hcode2⟩ (al.old s (aJ D Z)) (ub aU J) (Ne.symm aW)) fun d9 c6 c7 aY=>?_
 obtain⟨c8,M,a0⟩:=c7
 refine ab c6 fun aZ b0 b1=>?_
 refine aM 1<|?_
 have b2:=uz Z aY
 have b3:=nb (al.lt s) lr r
 have b4:=aH.blk (us C b2) (aa t (aa (Ne.symm b3) (aa (Ne.symm (nb (au o) (le p.size z.size) r)) aF))) v
 refine aE b4 0<|ay<|m2 (cH b1) fun da b5 N=>nt<|sq<|ak 1<|?_
 refine aE (be N (Ne.symm b3) b4) 0<|ay<|mq (bL b5)<|?_
 have db:=al.len b5
 refine Pl 1<|cN 2<|?_
 have a1:=u1 b2 N im
 have b7:=ut E a1 (ac (ni u.size f) (ac (ni y.size g) aC))
 refine cb ((aZ.endC.e != 0)) (fun G=>?_) (fun G=>?_)
 have a2:=az G
 refine ak 2<|?_
 refine aG (ub (ud i (ud j a1 f) g) k) mZ fun dc c9 ca=>ah 1<|aV<|bH c9 (vI aZ.endC.e)<|?_
 subst b0
 exact cC (by unfold aj aO;(try simp only[G,bj,dQ,dU,dW,dT,dR,reduceIte,k1,k2,k5,l])<;>rfl) (bI a2 (ud b7 ca n))
 have a2:=aA G
 refine bo<|sg<|?_
 refine L0<|bO (hz:=(by rw[M.2];exact aQ)) (be N aW M.1)<|?_
 refine aG (hz:=(by rw[M.2];exact aQ)) (hv:=a0.size) (h1:=a0.one) (ub (ud i (ud j a1 f) g) k) (c8) fun dd cc b8=>ah 1<|rt<|fh 22 M.2 cc (vI 0)<|?_
 subst b0
 exact cC (by unfold aj aO;(try simp only[G,bj,dQ,dU,dW,dT,dR,reduceIte,k1,k2,k5,l])<;>rfl) (bM a2 (aI.upd a0 (us N b8) (av (al.safe b1 _ (by decide)) (av (b6 (ub (ud i (ud aU aY f) g) k) (by decide)) aN))) (ud b7 b8 n))
 have k1:(c==1)=false:=by rw[hk];rfl
 have k2:(c==2)=false:=by rw[hk];rfl
 have k5:(c==5)=true:=by rw[hk];rfl
 have l:(c==15)=false:=by rw[hk];rfl
 refine L0<|pT (hf:=(by subst hk;kernel_rfl)) B c (.agg #[.nilFunc,.nilFunc]) (some (2,.agg #[.func (.func 142) #[.agg #[vP d 0,vP a 0]] #[],.func (.func 142) #[.agg #[vP d 0,vP a 0]] #[]]))<|Pl 3<|aK #[.nilFunc,.nilFunc] fun de df cd ce cf=>aG ce #[.func (.func 142) #[.agg #[vP d 0,vP a 0]] #[],.func (.func 142) #[.agg #[vP d 0,vP a 0]] #[]] fun dg cg ch=>ah 1<|sq<|aD 2<|c0<|bo<|ak 2<|aE cg 0<|?_
 have a3:=ud cf ch cd
 have b9:=aJ j a3
 have ba:=nb (au o) p.size f
 refine L0<|i8 #[.agg #[vP d 0,vP a 0]] #[] (args:=#[.agg #[vP d 0,vP a 0]])<|m3 (oP (c:=c) ⟨hcode1,hcode2⟩ (al.old s (aJ D a3)) (ub b9 J) (Ne.symm ba)) fun dh ci cj bb=>?_
 obtain⟨ck,O,a4⟩:=cj
 refine ab ci fun bc bd bf=>?_
 refine aM 1<|?_
 have bg:=uz a3 bb
 have bh:=nb (al.lt s) lr r
 have bi:=aH.blk (us C bg) (aa t (aa (Ne.symm bh) (aa (Ne.symm (nb (au o) (le p.size z.size) r)) aF))) v
 refine aE bi 0<|ay<|m2 (cH bf) fun di bk P=>nt<|sq<|ak 1<|?_
 refine aE (be P (Ne.symm bh) bi) 0<|ay<|mq (bL bk)<|?_
 have dj:=al.len bk
 refine Pl 1<|cN 2<|?_
 have a5:=u1 bg P im
 have bl:=ut E a5 (ac (ni u.size f) (ac (ni y.size g) aC))
 refine cb ((bc.endC.e != 0)) (fun H=>?_) (fun H=>?_)
 have a6:=az H
 refine ak 2<|?_
 refine aG (ub (ud i (ud j a5 f) g) k) mZ fun dk cl cm=>ah 1<|aV<|bH cl (vI bc.endC.e)<|?_
 subst bd
 exact cC (by unfold aj aO;(try simp only[H,bj,dQ,dU,dW,dT,dR,reduceIte,k1,k2,k5,l])<;>rfl) (bI a6 (ud bl cm n))
 have a6:=aA H
 refine bo<|sg<|?_
 refine L0<|bO (hz:=(by rw[O.2];exact aQ)) (be P ba O.1)<|?_
 refine aG (hz:=(by rw[O.2];exact aQ)) (hv:=a4.size) (h1:=a4.one) (ub (ud i (ud j a5 f) g) k) (ck) fun dl cn bm=>ah 1<|rt<|fh 22 O.2 cn (vI 0)<|?_
 subst bd
 exact cC (by unfold aj aO;(try simp only[H,bj,dQ,dU,dW,dT,dR,reduceIte,k1,k2,k5,l])<;>rfl) (bM a6 (aI.upd a4 (us P bm) (av (al.safe bf _ (by decide)) (av (b6 (ub (ud i (ud b9 bb f) g) k) (by decide)) aN))) (ud bl bm n))
 have k1:(c==1)=false:=by rw[hk];rfl
 have k2:(c==2)=false:=by rw[hk];rfl
 have k5:(c==5)=false:=by rw[hk];rfl
 have l:(c==15)=true:=by rw[hk];rfl
 refine L0<|pT (hf:=(by subst hk;kernel_rfl)) B c (.agg #[.nilFunc,.nilFunc]) (some (3,.agg #[.func (.func 143) #[.agg #[vP d 0,vP a 0]] #[],.func (.func 144) #[.agg #[vP d 0,vP a 0]] #[]]))<|Pl 3<|aK #[.nilFunc,.nilFunc] fun dm dn co cq cr=>aG cq #[.func (.func 143) #[.agg #[vP d 0,vP a 0]] #[],.func (.func 144) #[.agg #[vP d 0,vP a 0]] #[]] fun dp cs ct=>ah 1<|sq<|aD 2<|c0<|bo<|ak 2<|aE cs 0<|?_
 have a7:=ud cr ct co
 have bn:=aJ j a7
 have bp:=nb (au o) p.size f
 refine L0<|i8 #[.agg #[vP d 0,vP a 0]] #[] (args:=#[.agg #[vP d 0,vP a 0]])<|m3 (BW (c:=c) ⟨hcode1,hcode2⟩ (al.old s (aJ D a7)) (ub bn J) (Ne.symm bp)) fun dq bq cu br=>?_
 obtain⟨cv,Q,a8⟩:=cu
 refine aM 1<|?_
 have bs:=uz a7 br
 have bt:=nb (al.lt s) lr r
 have bu:=aH.blk (us C bs) (aa t (aa (Ne.symm bt) (aa (Ne.symm (nb (au o) (le p.size z.size) r)) aF))) v
 refine aE bu 0<|ay<|m2 (cH bq) fun dr cw R=>?_
 refine ab cw fun bv bw bx=>?_
 refine nt<|sq<|ak 1<|?_
 refine aE (be R (Ne.symm bt) bu) 0<|ay<|mq (bL bx)<|?_
 have ds:=al.len bx
 refine Pl 1<|cN 2<|?_
 have a9:=u1 bs R im
 have bz:=ut E a9 (ac (ni u.size f) (ac (ni y.size g) aC))
 refine cb ((bv.e != 0)) (fun I=>?_) (fun I=>?_)
 have ad:=az I
 refine ak 2<|?_
 refine aG (ub (ud i (ud j a9 f) g) k) mZ fun dt cx cy=>ah 1<|aV<|bH cx (vI bv.e)<|?_
 subst bw
 exact cC (by unfold aj aO;(try simp only[I,bj,dQ,dU,dW,dT,dR,reduceIte,k1,k2,k5,l])<;>rfl) (bI ad (ud bz cy n))
 have ad:=aA I
 refine bo<|sg<|?_
 refine L0<|bO (hz:=(by rw[Q.2];exact aQ)) (be R bp Q.1)<|?_
 refine aG (hz:=(by rw[Q.2];exact aQ)) (hv:=a8.size) (h1:=a8.one) (ub (ud i (ud j a9 f) g) k) (cv) fun du cz bA=>ah 1<|rt<|fh 22 Q.2 cz (vI 0)<|?_
 subst bw
 exact cC (by unfold aj aO;(try simp only[I,bj,dQ,dU,dW,dT,dR,reduceIte,k1,k2,k5,l])<;>rfl) (bM ad (aI.upd a8 (us R bA) (av (al.safe bq _ (by decide)) (av (b6 (ub (ud i (ud bn br f) g) k) (by decide)) aN))) (ud bz bA n))
 have k1:(c==1)=false:=by simpa using hk.1
 have k2:(c==2)=false:=by simpa using hk.2.1
 have k5:(c==5)=false:=by simpa using hk.2.2.1
 have l:(c==15)=false:=by simpa using hk.2.2.2
 refine L0<|pT (hf:=(E0 (q:=.u8) (x:=c) #[⟨vB 1,.agg #[.func (.func 140) #[.agg #[vP d 0,vP a 0]] #[],.func (.func 141) #[.agg #[vP d 0,vP a 0]] #[]],0⟩,⟨vB 2,.agg #[.func (.func 140) #[.agg #[vP d 0,vP a 0]] #[],.func (.func 141) #[.agg #[vP d 0,vP a 0]] #[]],1⟩,⟨vB 5,.agg #[.func (.func 142) #[.agg #[vP d 0,vP a 0]] #[],.func (.func 142) #[.agg #[vP d 0,vP a 0]] #[]],2⟩,⟨vB 15,.agg #[.func (.func 143) #[.agg #[vP d 0,vP a 0]] #[],.func (.func 144) #[.agg #[vP d 0,vP a 0]] #[]],3⟩] (gA _ _ (by intro e he;simp only[List.mem_cons,List.not_mem_nil,or_false] at he;obtain⟨z1,z2,z5,dv⟩:=hk;rcases he with rfl | rfl | rfl | rfl<;>exact⟨_,rfl,fun h=>by simp_all⟩)))) B c (.agg #[.nilFunc,.nilFunc]) none<|Pl 3<|aK #[.nilFunc,.nilFunc] fun dw dx cA cB cD=>aG cB #[.nilFunc,.nilFunc] fun dy dz cE=>ah 1<|sq<|aD 2<|c1<|ak 1<|?_
 have bB:=ud cD cE cA
 refine aG (ub (aJ i (aJ j bB)) k) mZ fun dA cF cG=>ah 1<|aV<|bH cF (vI 4)<|?_
 exact cC (by unfold aj aO;(try simp only[bj,dQ,dU,dW,dT,dR,reduceIte,k1,k2,k5,l])<;>rfl) (d6 (ud E (uz bB cG) n))
theorem oh(hcode:B8 c)(hsl:aX m w (.slice A b.length cp) b)(hb:b.length≤1048576) :
    Calls Tryz.prog 96 #[vI 1,vB c,.slice A b.length cp] w (eT (aj aO 1 c b) w):=by
 obtain⟨hcode1,hcode2⟩:=hcode
 have hln:(b.length:Int)≤1048576:=by omega
 refine en 72 Tryz.func96 rfl<|sg<|aK mZ fun cI cJ n k y=>ah 1<|sq<|aD 6<|c0<|bo<|ak 2<|aK mZ fun a cK g o bC=>aG o (mC c) fun cL J p=>aM 1<|?_
 have i:=ud bC p g
 have u:=aJ y i
 refine ay<|e3 (et (aX.old hsl u) (by omega)) fun d cM f s z=>Pl 1<|aK #[.pointer none,.pointer none] fun cO cP r ae bD=>aG ae #[vP d 0,vP a 0] fun cQ bE af=>ng<|L0<|Bb fun cR cS ag bF ai=>?_
 have S:=ub ai bE
 refine L0<|bO S<|Pl 1<|L0<|bO S<|Pl 2<|L0<|iX bF 1 fun cT bG am=>?_
 have t:=nb (au ae) af.size ag
 have T:=be am t S
 refine L0<|bO T<|Pl 1<|L0<|bO T<|Pl 2<|L0<|iX bG 2 fun cU bJ an=>?_
 have U:=be an t T
 refine L0<|bO U<|Pl 1<|L0<|bO U<|Pl 2<|L0<|iX bJ 5 fun cV bK ao=>?_
 have v:=be ao t U
 refine L0<|bO v<|Pl 1<|L0<|bO v<|Pl 2<|L0<|iX bK 15 fun cW B C=>Pl 2<|aM 2<|?_
 have D:=ud bD (aJ af (ud ai (u1 am (u1 an (u1 ao C im) im) im) ag)) r
 have j:=aJ z D
 have E:=aJ u j
 rcases Cf c with hk|hk|hk|hk|hk
 have k1:(c==1)=true:=by rw[hk];rfl
 have k2:(c==2)=false:=by rw[hk];rfl
 have k5:(c==5)=false:=by rw[hk];rfl
 have l:(c==15)=false:=by rw[hk];rfl
 refine L0<|pT (hf:=(by subst hk;kernel_rfl)) B c (.agg #[.nilFunc,.nilFunc]) (some (0,.agg #[.func (.func 140) #[.agg #[vP d 0,vP a 0]] #[],.func (.func 141) #[.agg #[vP d 0,vP a 0]] #[]]))<|Pl 3<|aK #[.nilFunc,.nilFunc] fun cX cY bN bP bQ=>aG bP #[.func (.func 140) #[.agg #[vP d 0,vP a 0]] #[],.func (.func 141) #[.agg #[vP d 0,vP a 0]] #[]] fun cZ bR bS=>ah 1<|sq<|aD 2<|c0<|bo<|ak 2<|aE bR 1<|?_
 have V:=ud bQ bS bN
 have ap:=aJ j V
 have aq:=nb (au o) p.size f
 refine L0<|i8 #[.agg #[vP d 0,vP a 0]] #[] (args:=#[.agg #[vP d 0,vP a 0]])<|m3 (oO (c:=c) ⟨hcode1,hcode2⟩ (al.old s (aJ D V)) (ub ap J) (Ne.symm aq)) fun d0 bT bU ar=>?_
 obtain⟨bV,K,W⟩:=bU
 refine ab bT fun x89 aw ax=>?_
 refine aM 1<|?_
 have aB:=uz V ar
 have aL:=nb (al.lt s) lr r
 have aP:=aH.blk (us C aB) (aa t (aa (Ne.symm aL) (aa (Ne.symm (nb (au o) (le p.size z.size) r)) aF))) v
 refine aE aP 0<|ay<|m2 (cH ax) fun d1 aR L=>nt<|sq<|ak 1<|?_
 refine aE (be L (Ne.symm aL) aP) 0<|ay<|mq (bL aR)<|?_
 have d2:=al.len aR
 refine Pl 1<|cN 2<|?_
 have X:=u1 aB L im
 have aS:=ut E X (ac (ni u.size f) (ac (ni y.size g) aC))
 refine cb ((x89.endC.e != 0)) (fun F=>?_) (fun F=>?_)
 have Y:=az F
 refine ak 2<|?_
 refine aG (ub (ud i (ud j X f) g) k) mZ fun d3 bW bX=>ah 1<|aV<|bH bW (vI x89.endC.e)<|?_
 subst aw
 exact cC (by unfold aj aO;(try simp only[F,bj,dQ,dU,dW,dT,dR,reduceIte,k1,k2,k5,l])<;>rfl) (bI Y (ud aS bX n))
 have Y:=aA F
 refine bo<|sg<|?_
 refine L0<|bO (hz:=(by rw[K.2];exact aQ)) (be L aq K.1)<|?_
 refine aG (hz:=(by rw[K.2];exact aQ)) (hv:=W.size) (h1:=W.one) (ub (ud i (ud j X f) g) k) (bV) fun d4 bY aT=>ah 1<|rt<|fh 22 K.2 bY (vI 0)<|?_
 subst aw
 exact cC (by unfold aj aO;(try simp only[F,bj,dQ,dU,dW,dT,dR,reduceIte,k1,k2,k5,l])<;>rfl) (bM Y (aI.upd W (us L aT) (av (al.safe ax _ (by decide)) (av (b6 (ub (ud i (ud ap ar f) g) k) (by decide)) aN))) (ud aS aT n))
 have k1:(c==1)=false:=by rw[hk];rfl
 have k2:(c==2)=true:=by rw[hk];rfl
 have k5:(c==5)=false:=by rw[hk];rfl
 have l:(c==15)=false:=by rw[hk];rfl
 refine L0<|pT (hf:=(by subst hk;kernel_rfl)) B c (.agg #[.nilFunc,.nilFunc]) (some (1,.agg #[.func (.func 140) #[.agg #[vP d 0,vP a 0]] #[],.func (.func 141) #[.agg #[vP d 0,vP a 0]] #[]]))<|Pl 3<|aK #[.nilFunc,.nilFunc] fun d5 d7 bZ c2 c3=>aG c2 #[.func (.func 140) #[.agg #[vP d 0,vP a 0]] #[],.func (.func 141) #[.agg #[vP d 0,vP a 0]] #[]] fun d8 c4 c5=>ah 1<|sq<|aD 2<|c0<|bo<|ak 2<|aE c4 1<|?_
 have Z:=ud c3 c5 bZ
 have aU:=aJ j Z
 have aW:=nb (au o) p.size f
 refine L0<|i8 #[.agg #[vP d 0,vP a 0]] #[] (args:=#[.agg #[vP d 0,vP a 0]])<|m3 (oO (c:=c) ⟨hcode1,hcode2⟩ (al.old s (aJ D Z)) (ub aU J) (Ne.symm aW)) fun d9 c6 c7 aY=>?_
 obtain⟨c8,M,a0⟩:=c7
 refine ab c6 fun aZ b0 b1=>?_
 refine aM 1<|?_
 have b2:=uz Z aY
 have b3:=nb (al.lt s) lr r
 have b4:=aH.blk (us C b2) (aa t (aa (Ne.symm b3) (aa (Ne.symm (nb (au o) (le p.size z.size) r)) aF))) v
 refine aE b4 0<|ay<|m2 (cH b1) fun da b5 N=>nt<|sq<|ak 1<|?_
 refine aE (be N (Ne.symm b3) b4) 0<|ay<|mq (bL b5)<|?_
 have db:=al.len b5
 refine Pl 1<|cN 2<|?_
 have a1:=u1 b2 N im
 have b7:=ut E a1 (ac (ni u.size f) (ac (ni y.size g) aC))
 refine cb ((aZ.endC.e != 0)) (fun G=>?_) (fun G=>?_)
 have a2:=az G
 refine ak 2<|?_
 refine aG (ub (ud i (ud j a1 f) g) k) mZ fun dc c9 ca=>ah 1<|aV<|bH c9 (vI aZ.endC.e)<|?_
 subst b0
 exact cC (by unfold aj aO;(try simp only[G,bj,dQ,dU,dW,dT,dR,reduceIte,k1,k2,k5,l])<;>rfl) (bI a2 (ud b7 ca n))
 have a2:=aA G
 refine bo<|sg<|?_
 refine L0<|bO (hz:=(by rw[M.2];exact aQ)) (be N aW M.1)<|?_
 refine aG (hz:=(by rw[M.2];exact aQ)) (hv:=a0.size) (h1:=a0.one) (ub (ud i (ud j a1 f) g) k) (c8) fun dd cc b8=>ah 1<|rt<|fh 22 M.2 cc (vI 0)<|?_
 subst b0
 exact cC (by unfold aj aO;(try simp only[G,bj,dQ,dU,dW,dT,dR,reduceIte,k1,k2,k5,l])<;>rfl) (bM a2 (aI.upd a0 (us N b8) (av (al.safe b1 _ (by decide)) (av (b6 (ub (ud i (ud aU aY f) g) k) (by decide)) aN))) (ud b7 b8 n))
 have k1:(c==1)=false:=by rw[hk];rfl
 have k2:(c==2)=false:=by rw[hk];rfl
 have k5:(c==5)=true:=by rw[hk];rfl
 have l:(c==15)=false:=by rw[hk];rfl
 refine L0<|pT (hf:=(by subst hk;kernel_rfl)) B c (.agg #[.nilFunc,.nilFunc]) (some (2,.agg #[.func (.func 142) #[.agg #[vP d 0,vP a 0]] #[],.func (.func 142) #[.agg #[vP d 0,vP a 0]] #[]]))<|Pl 3<|aK #[.nilFunc,.nilFunc] fun de df cd ce cf=>aG ce #[.func (.func 142) #[.agg #[vP d 0,vP a 0]] #[],.func (.func 142) #[.agg #[vP d 0,vP a 0]] #[]] fun dg cg ch=>ah 1<|sq<|aD 2<|c0<|bo<|ak 2<|aE cg 1<|?_
 have a3:=ud cf ch cd
 have b9:=aJ j a3
 have ba:=nb (au o) p.size f
 refine L0<|i8 #[.agg #[vP d 0,vP a 0]] #[] (args:=#[.agg #[vP d 0,vP a 0]])<|m3 (oP (c:=c) ⟨hcode1,hcode2⟩ (al.old s (aJ D a3)) (ub b9 J) (Ne.symm ba)) fun dh ci cj bb=>?_
 obtain⟨ck,O,a4⟩:=cj
 refine ab ci fun bc bd bf=>?_
 refine aM 1<|?_
 have bg:=uz a3 bb
 have bh:=nb (al.lt s) lr r
 have bi:=aH.blk (us C bg) (aa t (aa (Ne.symm bh) (aa (Ne.symm (nb (au o) (le p.size z.size) r)) aF))) v
 refine aE bi 0<|ay<|m2 (cH bf) fun di bk P=>nt<|sq<|ak 1<|?_
 refine aE (be P (Ne.symm bh) bi) 0<|ay<|mq (bL bk)<|?_
 have dj:=al.len bk
 refine Pl 1<|cN 2<|?_
 have a5:=u1 bg P im
 have bl:=ut E a5 (ac (ni u.size f) (ac (ni y.size g) aC))
 refine cb ((bc.endC.e != 0)) (fun H=>?_) (fun H=>?_)
 have a6:=az H
 refine ak 2<|?_
 refine aG (ub (ud i (ud j a5 f) g) k) mZ fun dk cl cm=>ah 1<|aV<|bH cl (vI bc.endC.e)<|?_
 subst bd
 exact cC (by unfold aj aO;(try simp only[H,bj,dQ,dU,dW,dT,dR,reduceIte,k1,k2,k5,l])<;>rfl) (bI a6 (ud bl cm n))
 have a6:=aA H
 refine bo<|sg<|?_
 refine L0<|bO (hz:=(by rw[O.2];exact aQ)) (be P ba O.1)<|?_
 refine aG (hz:=(by rw[O.2];exact aQ)) (hv:=a4.size) (h1:=a4.one) (ub (ud i (ud j a5 f) g) k) (ck) fun dl cn bm=>ah 1<|rt<|fh 22 O.2 cn (vI 0)<|?_
 subst bd
 exact cC (by unfold aj aO;(try simp only[H,bj,dQ,dU,dW,dT,dR,reduceIte,k1,k2,k5,l])<;>rfl) (bM a6 (aI.upd a4 (us P bm) (av (al.safe bf _ (by decide)) (av (b6 (ub (ud i (ud b9 bb f) g) k) (by decide)) aN))) (ud bl bm n))
 have k1:(c==1)=false:=by rw[hk];rfl
 have k2:(c==2)=false:=by rw[hk];rfl
 have k5:(c==5)=false:=by rw[hk];rfl
 have l:(c==15)=true:=by rw[hk];rfl
 refine L0<|pT (hf:=(by subst hk;kernel_rfl)) B c (.agg #[.nilFunc,.nilFunc]) (some (3,.agg #[.func (.func 143) #[.agg #[vP d 0,vP a 0]] #[],.func (.func 144) #[.agg #[vP d 0,vP a 0]] #[]]))<|Pl 3<|aK #[.nilFunc,.nilFunc] fun dm dn co cq cr=>aG cq #[.func (.func 143) #[.agg #[vP d 0,vP a 0]] #[],.func (.func 144) #[.agg #[vP d 0,vP a 0]] #[]] fun dp cs ct=>ah 1<|sq<|aD 2<|c0<|bo<|ak 2<|aE cs 1<|?_
 have a7:=ud cr ct co
 have bn:=aJ j a7
 have bp:=nb (au o) p.size f
 refine L0<|i8 #[.agg #[vP d 0,vP a 0]] #[] (args:=#[.agg #[vP d 0,vP a 0]])<|m3 (zG (c:=c) ⟨hcode1,hcode2⟩ (al.old s (aJ D a7)) (ub bn J) (Ne.symm bp)) fun dq cu cv bq=>?_
 obtain⟨cw,Q,a8⟩:=cv
 refine ab cu fun br bs bt=>?_
 refine aM 1<|?_
 have bu:=uz a7 bq
 have bv:=nb (al.lt s) lr r
 have bw:=aH.blk (us C bu) (aa t (aa (Ne.symm bv) (aa (Ne.symm (nb (au o) (le p.size z.size) r)) aF))) v
 refine aE bw 0<|ay<|m2 (cH bt) fun dr bx R=>nt<|sq<|ak 1<|?_
 refine aE (be R (Ne.symm bv) bw) 0<|ay<|mq (bL bx)<|?_
 have ds:=al.len bx
 refine Pl 1<|cN 2<|?_
 have a9:=u1 bu R im
 have bz:=ut E a9 (ac (ni u.size f) (ac (ni y.size g) aC))
 refine cb ((br.endC.e != 0)) (fun I=>?_) (fun I=>?_)
 have ad:=az I
 refine ak 2<|?_
 refine aG (ub (ud i (ud j a9 f) g) k) mZ fun dt cx cy=>ah 1<|aV<|bH cx (vI br.endC.e)<|?_
 subst bs
 exact cC (by unfold aj aO;(try simp only[I,bj,dQ,dU,dW,dT,dR,reduceIte,k1,k2,k5,l])<;>rfl) (bI ad (ud bz cy n))
 have ad:=aA I
 refine bo<|sg<|?_
 refine L0<|bO (hz:=(by rw[Q.2];exact aQ)) (be R bp Q.1)<|?_
 refine aG (hz:=(by rw[Q.2];exact aQ)) (hv:=a8.size) (h1:=a8.one) (ub (ud i (ud j a9 f) g) k) (cw) fun du cz bA=>ah 1<|rt<|fh 22 Q.2 cz (vI 0)<|?_
 subst bs
 exact cC (by unfold aj aO;(try simp only[I,bj,dQ,dU,dW,dT,dR,reduceIte,k1,k2,k5,l])<;>rfl) (bM ad (aI.upd a8 (us R bA) (av (al.safe bt _ (by decide)) (av (b6 (ub (ud i (ud bn bq f) g) k) (by decide)) aN))) (ud bz bA n))
 have k1:(c==1)=false:=by simpa using hk.1
 have k2:(c==2)=false:=by simpa using hk.2.1
 have k5:(c==5)=false:=by simpa using hk.2.2.1
 have l:(c==15)=false:=by simpa using hk.2.2.2
 refine L0<|pT (hf:=(E0 (q:=.u8) (x:=c) #[⟨vB 1,.agg #[.func (.func 140) #[.agg #[vP d 0,vP a 0]] #[],.func (.func 141) #[.agg #[vP d 0,vP a 0]] #[]],0⟩,⟨vB 2,.agg #[.func (.func 140) #[.agg #[vP d 0,vP a 0]] #[],.func (.func 141) #[.agg #[vP d 0,vP a 0]] #[]],1⟩,⟨vB 5,.agg #[.func (.func 142) #[.agg #[vP d 0,vP a 0]] #[],.func (.func 142) #[.agg #[vP d 0,vP a 0]] #[]],2⟩,⟨vB 15,.agg #[.func (.func 143) #[.agg #[vP d 0,vP a 0]] #[],.func (.func 144) #[.agg #[vP d 0,vP a 0]] #[]],3⟩] (gA _ _ (by intro e he;simp only[List.mem_cons,List.not_mem_nil,or_false] at he;obtain⟨z1,z2,z5,dv⟩:=hk;rcases he with rfl | rfl | rfl | rfl<;>exact⟨_,rfl,fun h=>by simp_all⟩)))) B c (.agg #[.nilFunc,.nilFunc]) none<|Pl 3<|aK #[.nilFunc,.nilFunc] fun dw dx cA cB cD=>aG cB #[.nilFunc,.nilFunc] fun dy dz cE=>ah 1<|sq<|aD 2<|c1<|ak 1<|?_
 have bB:=ud cD cE cA
 refine aG (ub (aJ i (aJ j bB)) k) mZ fun dA cF cG=>ah 1<|aV<|bH cF (vI 4)<|?_
 exact cC (by unfold aj aO;(try simp only[bj,dQ,dU,dW,dT,dR,reduceIte,k1,k2,k5,l])<;>rfl) (d6 (ud E (uz bB cG) n))
theorem oC(hcode:B8 c)(hsl:aX m w (.slice A b.length cp) b)(hb:b.length≤1048576)(hd:¬ (dir=0∨dir=1)) :
    Calls Tryz.prog 96 #[vI dir,vB c,.slice A b.length cp] w (eT (aj aO dir c b) w):=by
 obtain⟨hcode1,hcode2⟩:=hcode
 have hln:(b.length:Int)≤1048576:=by omega
 have e0:(dir != 0)=true:=by simp;omega
 have e1:(dir != 1)=true:=by simp;omega
 refine en 72 Tryz.func96 rfl<|sg<|aK mZ fun g h a d e=>ah 1<|sq<|ak 3<|sy 16 e0<|Pl 3<|nl<|tn<|ct e1<|ak 1<|aG d mZ fun i eP f=>ah 1<|aV<|bH eP (vI 1)<|?_
 exact cC (by unfold aj aO;(try simp only[e0,e1,bj,dQ,dU,dW,dT,dR,reduceIte,hd])<;>rfl) (d6 (ud e f a))
theorem lJ(hc:B8 c)(h:aX m w v b)(hb:b.length≤1048576) :
    Calls Tryz.prog 96 #[.int .i64 dir,.int .u8 c,v] w (eT (aj aO dir c b) w):=by
  obtain⟨A,cp,rfl,_,_⟩:=h.shape
  by_cases h0:dir=0
  · subst h0;exact oz hc h hb
  by_cases h1:dir=1
  · subst h1;exact oh hc h hb
  exact oC hc h hb (by omega)
open Go.RowKit
def dZ (c:ai) : ai:=(c.wordsC 1).need (c.wordV==0 || c.wordV==65535) 6
theorem CH{v:Int}(h:0≤v∧v<65536) : bits .and .u16 v 255=v%256:=by
  rw[u16_and v 255 h.1 h.2 (by decide) (by decide)]
  show((v.toNat &&& (2 ^ 8-1) : Nat) : Int)=_
  rw[Nat.and_two_pow_sub_one_eq_mod]
  omega
def i4 (dir sub v:Int) : Bool:=if (sub==2 || (decide (11≤sub)&&decide (sub≤18)))&&dir==1 then true else if sub==1 then v==0 || v==65280 else if sub==3 then v%256==0 else v==0
theorem rf{c:ai}  (hc:al w g c) :
    Calls Tryz.prog 212 #[vP g 0] w (pj g .u16 65536 c.wordV (dZ c) w):=by
 have hr:=hc.wordV
 refine en 15 Tryz.func212 rfl<|ak 1<|aM 1<|ay<|m3 (ck hc) fun l d e m=>ah 1<|sq<|go<|Pl 4<|cu 3 [9] 12 (((c.wordV==0)||(c.wordV==65535))) (fun K b=>?_) ?_
 refine bl 9 ((c.wordV==0)) (fun a=>?_) (fun a=>?_)
 have f:=ag a
 exact Pl 3<|ce b true (by rw[a];rfl)
 have f:=am a
 exact Pl 3<|ce b (c.wordV==65535) (by rw[a];rfl)
 refine ay<|m2 (bu (((c.wordV==0)||(c.wordV==65535))) 6 d) fun n h i=>?_
 refine ab h fun x19 j k=>?_
 refine cN 2<|rt<|rr (vW c.wordV)<|?_
 subst j
 exact⟨rfl,k,(u1 e i im),hr⟩
theorem xQ{v:Int}  : Calls Tryz.prog 231 #[vW v] w (cc (.bool (v==0 || v==65280)) w):=by
 refine en 9 Tryz.func231 rfl<|ak 1<|aM 3<|cu 3 [5] 8 (((v==0)||(v==65280))) (fun K b=>?_) ?_
 refine bl 5 ((v==0)) (fun a=>?_) (fun a=>?_)
 have c:=ag a
 exact Pl 3<|ce b true (by rw[a];rfl)
 have c:=am a
 exact Pl 3<|ce b (v==65280) (by rw[a];rfl)
 exact ah 1<|rt<|rr (.bool ((v==0)||(v==65280)))<|⟨rfl,(aH.refl [] _)⟩
theorem yp{v:Int}  (hv:0≤v∧v<65536) : Calls Tryz.prog 232 #[vW v] w (cc (.bool (v%256==0)) w):=by
 exact en 6 Tryz.func232 rfl<|ak 1<|aM 1<|L0<|Oe (vW (bits .and .u16 v 255)) (vW (v%256)) (congrArg (Value.int .u16) (CH (by omega)))<|ah 2<|rt<|rr (.bool ((v%256)==0))<|⟨rfl,(aH.refl [] _)⟩
theorem zh{v x:Int}{gb:Nat}  (hB:w.heap[gb]? = some (.cells #[vW v] 37 (0,0))) : Calls Tryz.prog 230 #[vW x,vP gb 0] w (cc (.bool (v==0)) w):=by
 exact en 6 Tryz.func230 rfl<|ak 1<|ng<|aE hB 0<|ah 2<|rt<|rr (.bool (v==0))<|⟨rfl,(aH.refl [] _)⟩
theorem DN{v:Int}  (hv:0≤v∧v<65536) : Calls Tryz.prog 211 #[vI dir,vW 1,vW v] w (cc (.bool (i4 dir 1 v)) w):=by
 refine en 42 Tryz.func211 rfl<|sg<|L0<|da #[vW v] fun l m n b c=>Pl 1<|aM 2<|ng<|L0<|Bb fun o p d e f=>L0<|iX e 1 fun q g h=>L0<|iX g 3 fun r i j=>Pl 2<|cN 11<|sq<|aD 5<|c0<|bo<|ak 2<|L0<|pT i 1 (.nilFunc) (some (0,.func (.func 231) #[] #[]))<|ah 5<|sq<|aD 2<|c0<|bo<|ak 1<|?_
 have a:=ud f (u1 h j im) d
 refine aE (ub a b) 0<|L0<|i8 #[] #[] (args:=#[vW v])<|m1 (xQ) fun s k=>ah 1<|rt<|rr (.bool (v==0 || v==65280))<|?_
 exact cC (by unfold i4;(try simp only[bj,reduceIte])<;>rfl) ⟨rfl,(aJ c (aJ a k))⟩
theorem Dw{v:Int}  (hv:0≤v∧v<65536) : Calls Tryz.prog 211 #[vI dir,vW 3,vW v] w (cc (.bool (i4 dir 3 v)) w):=by
 refine en 42 Tryz.func211 rfl<|sg<|L0<|da #[vW v] fun l m n b c=>Pl 1<|aM 2<|ng<|L0<|Bb fun o p d e f=>L0<|iX e 1 fun q g h=>L0<|iX g 3 fun r i j=>Pl 2<|cN 11<|sq<|aD 5<|c0<|bo<|ak 2<|L0<|pT i 3 (.nilFunc) (some (1,.func (.func 232) #[] #[]))<|ah 5<|sq<|aD 2<|c0<|bo<|ak 1<|?_
 have a:=ud f (u1 h j im) d
 refine aE (ub a b) 0<|L0<|i8 #[] #[] (args:=#[vW v])<|m1 (yp hv) fun s k=>ah 1<|rt<|rr (.bool (v%256==0))<|?_
 exact cC (by unfold i4;(try simp only[bj,reduceIte])<;>rfl) ⟨rfl,(aJ c (aJ a k))⟩
theorem Cv{sub v:Int}  (hv:0≤v∧v<65536)(h1:sub≠1)(h3:sub≠3) : Calls Tryz.prog 211 #[vI dir,vW sub,vW v] w (cc (.bool (i4 dir sub v)) w):=by
 have n1:(sub==1)=false:=by simpa using h1
 have n3:(sub==3)=false:=by simpa using h3
 refine en 42 Tryz.func211 rfl<|sg<|L0<|da #[vW v] fun f G H o p=>Pl 1<|aM 2<|ng<|L0<|Bb fun I J r s t=>L0<|iX s 1 fun L u y=>L0<|iX u 3 fun M z A=>Pl 2<|aM 3<|cu 7 [17] 24 (((sub==2)||((decide (11≤sub))&&(decide (sub≤18))))) (fun K g=>?_) ?_
 refine bl 17 ((sub==2)) (fun a=>?_) (fun a=>?_)
 have B:=ag a
 exact Pl 7<|ce g true (by rw[a];rfl)
 have B:=am a
 refine Pl 3<|cu 3 [20] 23 (((decide (11≤sub))&&(decide (sub≤18)))) (fun K i=>?_) ?_
 refine bl 20 ((decide (11≤sub))) (fun b=>?_) (fun b=>?_)
 have C:=of_decide_eq_true b
 exact Pl 3<|ce i (decide (sub≤18)) (by rw[b];rfl)
 have C:=of_decide_eq_false b
 exact Pl 3<|ce i false (by rw[b];rfl)
 exact Pl 1<|ce g ((decide (11≤sub))&&(decide (sub≤18))) (by rw[a];rfl)
 refine ah 1<|sq<|ak 2<|cu 3 [26] 29 ((((sub==2)||((decide (11≤sub))&&(decide (sub≤18))))&&(dir==1))) (fun K j=>?_) ?_
 refine bl 26 (((sub==2)||((decide (11≤sub))&&(decide (sub≤18))))) (fun c=>?_) (fun c=>?_)
 exact Pl 3<|ce j (dir==1) (by rw[c];rfl)
 have D:=(bT c).1
 have N:=(bT c).2
 have O:=am D
 exact Pl 3<|ce j false (by rw[c];rfl)
 refine nt<|?_
 have k:=ud t (u1 y A im) r
 have l:=aJ p k
 refine cb ((((sub==2)||((decide (11≤sub))&&(decide (sub≤18))))&&(dir==1))) (fun d=>?_) (fun d=>?_)
 have E:=(bB d).1
 have m:=(bB d).2
 have P:=ag m
 exact aD 1<|aV<|rr (.bool true)<|cC (by unfold i4;(try simp only[d,E,m,bj,n1,n3,reduceIte])<;>rfl) ⟨rfl,l⟩
 refine bo<|ak 2<|L0<|pT (hf:=(E0 (q:=.u16) (x:=sub) #[⟨vW 1,.func (.func 231) #[] #[],0⟩,⟨vW 3,.func (.func 232) #[] #[],1⟩] (gA _ _ (by intro e he;simp only[List.mem_cons,List.not_mem_nil,or_false] at he;rcases he with rfl | rfl;exact⟨_,rfl,fun h=>h1 h.symm⟩;exact⟨_,rfl,fun h=>h3 h.symm⟩)))) z sub (.nilFunc) none<|ah 5<|sq<|ak 2<|nl<|tn<|c1<|go<|Pl 2<|aM 1<|?_
 have n:=ub k o
 refine aE n 0<|L0<|i8 #[] #[vP f 0] (args:=#[vW v,vP f 0])<|m1 (zh n) fun Q F=>ah 1<|rt<|rr (.bool (v==0))<|?_
 exact cC (by unfold i4;(try simp only[d,bj,n1,n3,reduceIte])<;>rfl) ⟨rfl,(aJ l F)⟩
theorem Bx{sub v:Int}  (hv:0≤v∧v<65536) : Calls Tryz.prog 211 #[.int .i64 dir,.int .u16 sub,.int .u16 v] w (cc (.bool (i4 dir sub v)) w):=by
  by_cases h1:sub=1
  · subst h1;exact DN hv
  by_cases h3:sub=3
  · subst h3;exact Dw hv
  exact Cv hv h1 h3
open Go.RowKit
def fu (dir:Int)(C:ai) : ai:=(C.wordsC 1).need (fc C.wordV&&(dir==0 || C.wordV != 4)) 8
def kU (C:ai) : ai:=C.need (((C.l.length:Int)%2==0&&decide (2≤(C.l.length:Int)))&&decide ((C.l.length:Int)≤250)) 5
def eE (dir c:Int)(C:ai) : ai × aT :=
  if C.wordV != 0 then (((fu dir C).wordsC 1).need ((((fu dir C).wordsR 1).length:Int)==1&&i4 dir C.wordV (((fu dir C).wordsR 1).getD 0 0)) 6,{ aT.zero with code:=c,sub:=C.wordV,words:=(fu dir C).wordsR 1 })
  else ((kU (fu dir C)).wordsC (((fu dir C).l.length:Int)/2),{ aT.zero with code:=c,sub:=C.wordV,words:=(kU (fu dir C)).wordsR (((fu dir C).l.length:Int)/2) })
def fs (C:ai)(lo hi:Int) : ai:=(C.bytesC 1).need (decide (lo≤C.byteV)&&decide (C.byteV≤hi)) 5
def gI (C:ai) : ai:=((dZ (fs C 6 70)).wordsC 1).wordsC 1
def cI (c:Int)(C:ai) : ai × aT :=
  if c==7 then (C.bytesC 1,{ aT.zero with code:=c,value:=C.byteV })
  else if c==11 then ((dZ C).wordsC 1,{ aT.zero with code:=c,status:=C.wordV,events:=(dZ C).wordV })
  else if c==12 then ((gI C).bytesC (C.byteV-6),{ aT.zero with code:=c,status:=(fs C 6 70).wordV,events:=(dZ (fs C 6 70)).wordV,messages:=((dZ (fs C 6 70)).wordsC 1).wordV,data:=(gI C).bytesR (C.byteV-6) })
  else if c==17 then ((fs C 1 251).bytesC C.byteV,{ aT.zero with code:=c,data:=(fs C 1 251).bytesR C.byteV })
  else (C,{ aT.zero with code:=c })
theorem ra(hcode:B8 c)(hC:al w g C)(hm:w.heap[gm]? = some (.cells #[vB c,vB 0,vW 0,vW 0,vW 0,vW 0,vW 0,vW 0,vW 0,vW 0,vW 0,vW 0,nS,nS,nS,nS,vB 0,vB 0,vB 0,vB 0,vB 0,nS] 45 (0,0)))(hne:g≠gm) :
    Calls Tryz.prog 150 #[vI dir,vP g 0,vP gm 0] w (cX g gm (eE dir c C).1 (eE dir c C).2 w):=by
 obtain⟨hcode1,hcode2⟩:=hcode
 have hlen:=hC.len
 refine en 84 Tryz.func150 rfl<|ak 2<|ay<|m3 (ck hC) fun aZ a4 s b0=>Pl 2<|?_
 have J:=be s (Ne.symm hne) hm
 refine L0<|cm J 8 (mG c 0 0 0 0 0 0 0 C.wordV 0 0 0 nS nS nS nS 0 0 0 0 0 nS) fun b1 eP L=>aM 4<|aE eP 8<|ay<|m1 (yI (x:=C.wordV) (w:=_)) fun b2 q=>Pl 1<|cu 10 [18] 28 (((fc C.wordV)&&((dir==0)||(C.wordV != 4)))) (fun K M=>?_) ?_
 refine bl 18 ((fc C.wordV)) (fun t=>?_) (fun t=>?_)
 refine Pl 3<|cu 6 [21] 27 (((dir==0)||(C.wordV != 4))) (fun K N=>?_) ?_
 refine bl 21 ((dir==0)) (fun j=>?_) (fun j=>?_)
 have a5:=ag j
 exact Pl 6<|ce N true (by rw[j];rfl)
 have a5:=am j
 refine Pl 3<|?_
 exact L1<|dX (ub q eP) 8<|Pl 2<|ce N (C.wordV != 4) (by rw[j];rfl)
 exact Pl 1<|ce M ((dir==0)||(C.wordV != 4)) (by rw[t];rfl)
 exact Pl 10<|ce M false (by rw[t];rfl)
 have O:=aJ L q
 refine ay<|m2 (bu (((fc C.wordV)&&((dir==0)||(C.wordV != 4)))) 8 (al.upd a4 O (aa hne aF) (av (b6 J (by decide)) aN))) fun b3 a6 u=>?_
 refine ab a6 fun x30 y r=>?_
 refine nt<|sq<|ak 3<|?_
 have z:=be (uz q u) (Ne.symm hne) eP
 refine aE z 8<|ah 1<|?_
 have d:=ui s (us O u)
 refine cb ((C.wordV != 0)) (fun f=>?_) (fun f=>?_)
 have a7:=az f
 refine ak 2<|ay<|qH (f5 (n:=1) r) fun P Q b4 i b5 b7 R S=>Pl 2<|?_
 have A:=be S (Ne.symm hne) z
 refine L0<|cm A 12 (mG c 0 0 0 0 0 0 0 C.wordV 0 0 0 (.slice P ((x30.wordsR 1).length) Q) nS nS nS 0 0 0 0 0 nS) fun b8 a8 a9=>nt<|sq<|Rg 22 (fun w'=>w'.cell? ⟨gm,12,none⟩=some (.slice P ((x30.wordsR 1).length) Q)∧w'.cell? ⟨gm,8,none⟩=some (vW C.wordV)) fun b9 T=>?_
 have b:=ub T a8
 refine bp ⟨(ae b rfl),(ae b rfl)⟩ fun a=>Rt 0 a<|Rt 1 a<|Rt 2 a<|Rt 3 a<|Rl 4 a (fun _ hs=>hs.1)<|Rt 5 a<|Rt 6 a<|Rt 7 a<|?_
 have k:=aJ a9 T
 have U:=ut d (us S k) (ac im (ac im aC))
 refine vp 47 ((((x30.wordsR 1).length:Int)==1)) (fun m=>?_) (fun m=>?_)
 have ad:=ag m
 refine Rt 8 a<|Rt 9 a<|Rt 10 a<|Rt 11 a<|Rl 12 a (fun _ hs=>hs.2)<|Rt 13 a<|Rt 14 a<|Rt 15 a<|Rl 16 a (fun _ hs=>hs.1)<|?_
 have V:=ax i k (fun x hx=>(aa (fun e=>(aL (au hm) d.size i) (e▸hx)) aF)) (fun _ _ h=>h)
 refine ft (eG.at_ (V).rd 0 (by omega)) fun af aj an ao ba=>R0 17 rfl<|l9 ((x30.wordsR 1).length) 0 an (by omega)<|bp ⟨(ae b rfl),(ae b rfl)⟩ fun bb=>R0 18 rfl<|eH (p:=⟨af,aj+0,none⟩) (v:=vW ((x30.wordsR 1).getD 0 0)) ao<|bp ⟨(ae b rfl),(ae b rfl)⟩ fun bc=>R0 19 rfl<|Oc<|m1 (Bx (dir:=dir) (sub:=C.wordV) (v:=((x30.wordsR 1).getD 0 0)) (by omega)) fun bd B=>?_
 have D:=ub B b
 refine bp ⟨(ae D rfl),(ae D rfl)⟩ fun ap=>Rt 20 ap<|?_
 refine R0 21 rfl<|Oc<|m2 (bu ((i4 dir C.wordV ((x30.wordsR 1).getD 0 0))) 6 (al.upd R (aJ k B) (aa hne aF) (av (b6 A (by decide)) aN))) fun bf aq W=>?_
 refine ab aq fun bg ar aw=>?_
 have E:=be W (Ne.symm hne) D
 refine bp ⟨(ae E rfl),(ae E rfl)⟩ fun bh=>re<|tn<|aV<|rr (.tuple #[])<|?_
 subst ar y
 have X:=uz B W
 have hs:eE dir c C=(((((C.wordsC 1).need ((fc C.wordV)&&((dir==0)||(C.wordV != 4))) 8).wordsC 1).need (i4 dir C.wordV ((((C.wordsC 1).need ((fc C.wordV)&&((dir==0)||(C.wordV != 4))) 8).wordsR 1).getD 0 0)) 6),(aT.mk c 0 0 0 0 0 0 0 C.wordV 0 0 0 (((C.wordsC 1).need ((fc C.wordV)&&((dir==0)||(C.wordV != 4))) 8).wordsR 1) [] [] [] 0 0 0 0 0 [])):=by
   unfold eE fu kU
   (try simp only[f,m,bj,reduceIte])
   all_goals rfl
 rw[hs]
 exact⟨rfl,aw,⟨_,⟨E,rfl⟩,⟨_,_,_,_,_,rfl,((ax V X (fun x hx=>(aa (fun e=>(aL (al.lt hC) d.size i) (e▸hx)) aF)) (fun _ _ h=>h))).rd,aS.nil ..,aS.nil ..,aS.nil ..,aS.nil ..,(cY (by omega))⟩⟩,(aH.mono (S':=[g,gm]) (u1 U X im) (D3 (Or.inl (by simp)) (Or.inl (by simp))))⟩
 have ad:=am m
 refine Ro 8 a<|Ro 9 a<|Ro 10 a<|Ro 11 a<|Ro 12 a<|Ro 13 a<|Ro 14 a<|Ro 15 a<|Ro 16 a<|Ro 17 a<|Ro 18 a<|Ro 19 a<|Rt 20 a<|?_
 refine R0 21 rfl<|Oc<|m2 (bu (false) 6 (al.upd R k (aa hne aF) (av (b6 A (by decide)) aN))) fun bi aB F=>?_
 have G:=be F (Ne.symm hne) b
 refine bp ⟨(ae G rfl),(ae G rfl)⟩ fun bk=>re<|tn<|aV<|rr (.tuple #[])<|?_
 subst y
 have hs:eE dir c C=(((((C.wordsC 1).need ((fc C.wordV)&&((dir==0)||(C.wordV != 4))) 8).wordsC 1).need false 6),(aT.mk c 0 0 0 0 0 0 0 C.wordV 0 0 0 (((C.wordsC 1).need ((fc C.wordV)&&((dir==0)||(C.wordV != 4))) 8).wordsR 1) [] [] [] 0 0 0 0 0 [])):=by
   unfold eE fu kU
   (try simp only[f,m,bj,reduceIte])
   all_goals rfl
 rw[hs]
 exact⟨rfl,aB,⟨_,⟨G,rfl⟩,⟨_,_,_,_,_,rfl,((ax i (us k F) (fun x hx=>(aa (fun e=>(aL (au hm) d.size i) (e▸hx)) (aa (fun e=>(aL (al.lt hC) d.size i) (e▸hx)) aF))) (fun _ _ h=>h))).rd,aS.nil ..,aS.nil ..,aS.nil ..,aS.nil ..,(cY (by omega))⟩⟩,(aH.mono (S':=[g,gm]) (u1 U F im) (D3 (Or.inl (by simp)) (Or.inl (by simp))))⟩
 have a7:=aA f
 refine bo<|ak 1<|ay<|mq (eQ r)<|?_
 have bm:=al.len r
 refine Pl 1<|aM 2<|L0<|Oe (vI (Int.tmod (x30.l.length:Int) 2)) (vI ((x30.l.length:Int)%2)) (congrArg (Value.int .i64) (Int.tmod_eq_emod_of_nonneg (by omega)))<|Pl 2<|cu 3 [68] 71 (((((x30.l.length:Int)%2)==0)&&(decide (2≤(x30.l.length:Int))))) (fun K Y=>?_) ?_
 refine bl 68 ((((x30.l.length:Int)%2)==0)) (fun o=>?_) (fun o=>?_)
 have aD:=ag o
 exact Pl 3<|ce Y (decide (2≤(x30.l.length:Int))) (by rw[o];rfl)
 have aD:=am o
 exact Pl 3<|ce Y false (by rw[o];rfl)
 refine Pl 1<|cu 3 [72] 75 ((((((x30.l.length:Int)%2)==0)&&(decide (2≤(x30.l.length:Int))))&&(decide ((x30.l.length:Int)≤250)))) (fun K Z=>?_) ?_
 refine bl 72 (((((x30.l.length:Int)%2)==0)&&(decide (2≤(x30.l.length:Int))))) (fun H=>?_) (fun H=>?_)
 exact Pl 3<|ce Z (decide ((x30.l.length:Int)≤250)) (by rw[H];rfl)
 exact Pl 3<|ce Z false (by rw[H];rfl)
 refine ay<|m2 (bu ((((((x30.l.length:Int)%2)==0)&&(decide (2≤(x30.l.length:Int))))&&(decide ((x30.l.length:Int)≤250)))) 5 r) fun bn aG a0=>?_
 refine ab aG fun aI aK aO=>?_
 refine nt<|go<|Pl 3<|L0<|Oe (vI (IntKind.i64.wrap (Int.tdiv (x30.l.length:Int) 2))) (vI ((x30.l.length:Int)/2)) (congrArg (Value.int .i64) (gX (by omega) (by omega)))<|ay<|qH (f5 (n:=((x30.l.length:Int)/2)) aO) fun aP aQ bq a1 br bs aR aU=>?_
 refine ab aR fun bt aW aX=>?_
 refine Pl 2<|?_
 have a2:=u1 a0 aU im
 have a3:=be a2 (Ne.symm hne) z
 refine L0<|cm a3 12 (mG c 0 0 0 0 0 0 0 C.wordV 0 0 0 (.slice aP ((aI.wordsR ((x30.l.length:Int)/2)).length) aQ) nS nS nS 0 0 0 0 0 nS) fun bv aY I=>nl<|rm (.tuple #[])<|?_
 subst aW aK y
 have hs:eE dir c C=(((((C.wordsC 1).need ((fc C.wordV)&&((dir==0)||(C.wordV != 4))) 8).need ((((((((C.wordsC 1).need ((fc C.wordV)&&((dir==0)||(C.wordV != 4))) 8).l.length:Nat) : Int)%2)==0)&&(decide (2≤((((C.wordsC 1).need ((fc C.wordV)&&((dir==0)||(C.wordV != 4))) 8).l.length:Nat) : Int))))&&(decide (((((C.wordsC 1).need ((fc C.wordV)&&((dir==0)||(C.wordV != 4))) 8).l.length:Nat) : Int)≤250))) 5).wordsC (((((C.wordsC 1).need ((fc C.wordV)&&((dir==0)||(C.wordV != 4))) 8).l.length:Nat) : Int)/2)),(aT.mk c 0 0 0 0 0 0 0 C.wordV 0 0 0 ((((C.wordsC 1).need ((fc C.wordV)&&((dir==0)||(C.wordV != 4))) 8).need ((((((((C.wordsC 1).need ((fc C.wordV)&&((dir==0)||(C.wordV != 4))) 8).l.length:Nat) : Int)%2)==0)&&(decide (2≤((((C.wordsC 1).need ((fc C.wordV)&&((dir==0)||(C.wordV != 4))) 8).l.length:Nat) : Int))))&&(decide (((((C.wordsC 1).need ((fc C.wordV)&&((dir==0)||(C.wordV != 4))) 8).l.length:Nat) : Int)≤250))) 5).wordsR (((((C.wordsC 1).need ((fc C.wordV)&&((dir==0)||(C.wordV != 4))) 8).l.length:Nat) : Int)/2)) [] [] [] 0 0 0 0 0 [])):=by
   unfold eE fu kU
   (try simp only[f,bj,reduceIte])
   all_goals rfl
 rw[hs]
 exact⟨rfl,(al.upd aX I (aa hne aF) (av (b6 a3 (by decide)) aN)),⟨_,⟨aY,rfl⟩,⟨_,_,_,_,_,rfl,((ax a1 I (fun x hx=>(aa (fun e=>(aL (au hm) (le (le (le (le s.size L.size) q.size) u.size) a0.size) a1) (e▸hx)) aF)) (fun _ _ h=>h))).rd,aS.nil ..,aS.nil ..,aS.nil ..,aS.nil ..,(cY (by omega))⟩⟩,(aH.mono (S':=[g,gm]) (ut d (us a2 I) (ac im (ac im aC))) (D3 (Or.inl (by simp)) (Or.inl (by simp))))⟩
theorem iG(hcode:B8 c)(hC:al w g C)(hm:w.heap[gm]? = some (.cells #[vB c,vB 0,vW 0,vW 0,vW 0,vW 0,vW 0,vW 0,vW 0,vW 0,vW 0,vW 0,nS,nS,nS,nS,vB 0,vB 0,vB 0,vB 0,vB 0,nS] 45 (0,0)))(hne:g≠gm) :
    Calls Tryz.prog 151 #[vP g 0,vP gm 0] w (cX g gm (cI c C).1 (cI c C).2 w):=by
 obtain⟨hcode1,hcode2⟩:=hcode
 have hlen:=hC.len
 refine en 84 Tryz.func151 rfl<|ak 3<|aE hm 0<|nt<|bk<|aD 2<|cb ((c==7)) (fun a=>?_) (fun a=>?_)
 have M:=ag a
 refine go<|Pl 2<|ay<|m3 (cl hC) fun aP N m aQ=>L0<|CS C.byteV<|Pl 2<|?_
 have o:=be m (Ne.symm hne) hm
 refine L0<|cm o 4 (mG c 0 0 0 C.byteV 0 0 0 0 0 0 0 nS nS nS nS 0 0 0 0 0 nS) fun aR O p=>nl<|bn<|rm (.tuple #[])<|?_
 have hs:cI c C=((C.bytesC 1),(aT.mk c 0 0 0 C.byteV 0 0 0 0 0 0 0 [] [] [] [] 0 0 0 0 0 [])):=by
   unfold cI gI fs
   (try simp only[a,bj,reduceIte])
   all_goals rfl
 rw[hs]
 exact⟨rfl,(al.upd N p (aa hne aF) (av (b6 o (by decide)) aN)),⟨_,⟨O,rfl⟩,⟨_,_,_,_,_,rfl,aS.nil ..,aS.nil ..,aS.nil ..,aS.nil ..,aS.nil ..,(cY (by omega))⟩⟩,(us m p)⟩
 have M:=am a
 refine aD 2<|cb ((c==11)) (fun b=>?_) (fun b=>?_)
 have P:=ag b
 refine ak 2<|ay<|m3 (rf hC) fun aU Q q aV=>Pl 2<|?_
 have r:=be q (Ne.symm hne) hm
 refine L0<|cm r 9 (mG c 0 0 0 0 0 0 0 0 C.wordV 0 0 nS nS nS nS 0 0 0 0 0 nS) fun aW R s=>nt<|go<|Pl 2<|?_
 refine ay<|m3 (ck (al.upd Q s (aa hne aF) (av (b6 r (by decide)) aN))) fun aY S t aZ=>Pl 2<|?_
 have u:=be t (Ne.symm hne) R
 refine L0<|cm u 10 (mG c 0 0 0 0 0 0 0 0 C.wordV ((dZ C).wordV) 0 nS nS nS nS 0 0 0 0 0 nS) fun b0 T v=>nl<|bn<|rm (.tuple #[])<|?_
 have hs:cI c C=(((dZ C).wordsC 1),(aT.mk c 0 0 0 0 0 0 0 0 C.wordV ((dZ C).wordV) 0 [] [] [] [] 0 0 0 0 0 [])):=by
   unfold cI gI fs
   (try simp only[a,b,bj,reduceIte])
   all_goals rfl
 rw[hs]
 exact⟨rfl,(al.upd S v (aa hne aF) (av (b6 u (by decide)) aN)),⟨_,⟨T,rfl⟩,⟨_,_,_,_,_,rfl,aS.nil ..,aS.nil ..,aS.nil ..,aS.nil ..,aS.nil ..,(cY (by omega))⟩⟩,(ui q (ui s (us t v)))⟩
 have P:=am b
 refine aD 2<|cb ((c==12)) (fun d=>?_) (fun d=>?_)
 have U:=ag d
 refine ak 1<|ay<|m3 (cl hC) fun b1 V W b2=>bq C.byteV<|Pl 1<|aM 4<|cu 3 [38] 41 (((decide (6≤C.byteV))&&(decide (C.byteV≤70)))) (fun K x=>?_) ?_
 refine bl 38 ((decide (6≤C.byteV))) (fun e=>?_) (fun e=>?_)
 have X:=of_decide_eq_true e
 exact Pl 3<|ce x (decide (C.byteV≤70)) (by rw[e];rfl)
 have X:=of_decide_eq_false e
 exact Pl 3<|ce x false (by rw[e];rfl)
 refine ay<|m2 (bu (((decide (6≤C.byteV))&&(decide (C.byteV≤70)))) 5 V) fun b3 Y Z=>?_
 refine ab Y fun x53 a0 a1=>?_
 refine aM 2<|ay<|m3 (rf a1) fun b4 a2 a3 b5=>Pl 2<|?_
 have y:=u1 W (u1 Z a3 im) im
 have z:=be y (Ne.symm hne) hm
 refine L0<|cm z 9 (mG c 0 0 0 0 0 0 0 0 x53.wordV 0 0 nS nS nS nS 0 0 0 0 0 nS) fun b7 a4 A=>aM 3<|?_
 refine ay<|m3 (ck (al.upd a2 A (aa hne aF) (av (b6 z (by decide)) aN))) fun b8 a5 a6 b9=>Pl 1<|ay<|m3 (ck a5) fun ba a7 a8 bb=>?_
 refine ab a7 fun nD a9 ac=>?_
 refine Pl 2<|?_
 have B:=u1 a6 a8 im
 have D:=be B (Ne.symm hne) a4
 refine L0<|cm D 10 (mG c 0 0 0 0 0 0 0 0 x53.wordV ((dZ x53).wordV) 0 nS nS nS nS 0 0 0 0 0 nS) fun bc ad ae=>Pl 2<|L0<|cm ad 11 (mG c 0 0 0 0 0 0 0 0 x53.wordV ((dZ x53).wordV) (((dZ x53).wordsC 1).wordV) nS nS nS nS 0 0 0 0 0 nS) fun bd af ah=>nt<|go<|Pl 3<|bq (C.byteV-6)<|?_
 have E:=u1 ae ah im
 have F:=al.upd ac E (aa hne aF) (av (b6 D (by decide)) aN)
 refine ay<|wH (cR (n:=(C.byteV-6)) F) fun aj an bf ao bg bh ap G=>?_
 have bi:=Nat.le_trans (ai.bytesR_le nD (C.byteV-6)) (al.len F)
 refine Pl 2<|?_
 have i:=be G (Ne.symm hne) af
 refine L0<|cm i 14 (mG c 0 0 0 0 0 0 0 0 x53.wordV ((dZ x53).wordV) (((dZ x53).wordsC 1).wordV) nS nS (.slice aj ((nD.bytesR (C.byteV-6)).length) an) nS 0 0 0 0 0 nS) fun bm aq j=>nl<|bn<|rm (.tuple #[])<|?_
 subst a9 a0
 have hs:cI c C=(((((dZ ((C.bytesC 1).need ((decide (6≤C.byteV))&&(decide (C.byteV≤70))) 5)).wordsC 1).wordsC 1).bytesC (C.byteV-6)),(aT.mk c 0 0 0 0 0 0 0 0 (((C.bytesC 1).need ((decide (6≤C.byteV))&&(decide (C.byteV≤70))) 5).wordV) ((dZ ((C.bytesC 1).need ((decide (6≤C.byteV))&&(decide (C.byteV≤70))) 5)).wordV) (((dZ ((C.bytesC 1).need ((decide (6≤C.byteV))&&(decide (C.byteV≤70))) 5)).wordsC 1).wordV) [] [] ((((dZ ((C.bytesC 1).need ((decide (6≤C.byteV))&&(decide (C.byteV≤70))) 5)).wordsC 1).wordsC 1).bytesR (C.byteV-6)) [] 0 0 0 0 0 [])):=by
   unfold cI gI fs
   (try simp only[a,b,d,bj,reduceIte])
   all_goals rfl
 rw[hs]
 exact⟨rfl,(al.upd ap j (aa hne aF) (av (b6 i (by decide)) aN)),⟨_,⟨aq,rfl⟩,⟨_,_,_,_,_,rfl,aS.nil ..,aS.nil ..,(aX.upd' ao j (av (b6 i (by decide)) aN)),aS.nil ..,aS.nil ..,(cY (by omega))⟩⟩,(ui y (ui A (ui B (ui E (us G j)))))⟩
 have U:=am d
 refine aD 2<|cb ((c==17)) (fun f=>?_) (fun f=>?_)
 have ar:=ag f
 refine ak 1<|ay<|m3 (cl hC) fun bo au aw bp=>bq C.byteV<|Pl 1<|aM 4<|cu 3 [73] 76 (((decide (1≤C.byteV))&&(decide (C.byteV≤251)))) (fun K H=>?_) ?_
 refine bl 73 ((decide (1≤C.byteV))) (fun h=>?_) (fun h=>?_)
 have ax:=of_decide_eq_true h
 exact Pl 3<|ce H (decide (C.byteV≤251)) (by rw[h];rfl)
 have ax:=of_decide_eq_false h
 exact Pl 3<|ce H false (by rw[h];rfl)
 refine ay<|m2 (bu (((decide (1≤C.byteV))&&(decide (C.byteV≤251)))) 5 au) fun br az aA=>?_
 refine ab az fun I aB J=>?_
 refine nt<|go<|Pl 3<|ay<|wH (cR (n:=C.byteV) J) fun aG aI bs aJ bt bv aK aL=>?_
 have bw:=Nat.le_trans (ai.bytesR_le I C.byteV) (al.len J)
 refine Pl 2<|?_
 have L:=u1 aw (u1 aA aL im) im
 have k:=be L (Ne.symm hne) hm
 refine L0<|cm k 14 (mG c 0 0 0 0 0 0 0 0 0 0 0 nS nS (.slice aG ((I.bytesR C.byteV).length) aI) nS 0 0 0 0 0 nS) fun bx aO l=>nl<|bn<|rm (.tuple #[])<|?_
 subst aB
 have hs:cI c C=((((C.bytesC 1).need ((decide (1≤C.byteV))&&(decide (C.byteV≤251))) 5).bytesC C.byteV),(aT.mk c 0 0 0 0 0 0 0 0 0 0 0 [] [] (((C.bytesC 1).need ((decide (1≤C.byteV))&&(decide (C.byteV≤251))) 5).bytesR C.byteV) [] 0 0 0 0 0 [])):=by
   unfold cI gI fs
   (try simp only[a,b,d,f,bj,reduceIte])
   all_goals rfl
 rw[hs]
 exact⟨rfl,(al.upd aK l (aa hne aF) (av (b6 k (by decide)) aN)),⟨_,⟨aO,rfl⟩,⟨_,_,_,_,_,rfl,aS.nil ..,aS.nil ..,(aX.upd' aJ l (av (b6 k (by decide)) aN)),aS.nil ..,aS.nil ..,(cY (by omega))⟩⟩,(us L l)⟩
 have ar:=am f
 refine sk<|bn<|rm (.tuple #[])<|?_
 have hs:cI c C=(C,(aT.mk c 0 0 0 0 0 0 0 0 0 0 0 [] [] [] [] 0 0 0 0 0 [])):=by
   unfold cI gI fs
   (try simp only[a,b,d,f,bj,reduceIte])
   all_goals rfl
 rw[hs]
 exact⟨rfl,hC,⟨_,⟨hm,rfl⟩,⟨_,_,_,_,_,rfl,aS.nil ..,aS.nil ..,aS.nil ..,aS.nil ..,aS.nil ..,(cY (by omega))⟩⟩,(aH.mono (S':=[g,gm]) (aH.refl [] _) aC)⟩
open Go.RowKit
def bf (dir c:Int)(C:ai) : Option (ai × aT) :=
  if c==8 then some (eE dir c C)
  else if c==7 || c==11 || c==12 || c==17 then (if dir==1 then some (cI c C) else some (C,{ aT.zero with code:=c }))
  else none
theorem qg(hcode:B8 c)(hsl:aX m w (.slice A b.length cp) b)(hb:b.length≤1048576) :
    Calls Tryz.prog 100 #[vI 0,vB c,.slice A b.length cp] w (eT (aj bf 0 c b) w):=by
 obtain⟨hcode1,hcode2⟩:=hcode
 have hln:(b.length:Int)≤1048576:=by omega
 refine en 47 Tryz.func100 rfl<|sg<|aK mZ fun b7 b8 h g N=>ah 1<|sq<|aD 6<|c0<|bo<|ak 2<|aK mZ fun b9 ba p O a9=>aG O (mC c) fun bb q P=>aM 1<|?_
 have f:=ud a9 P p
 have l:=aJ N f
 refine ay<|e3 (et (aX.old hsl l) (by omega)) fun bc bd a r d=>ah 1<|sq<|aD 1<|bk<|ak 2<|nl<|tn<|?_
 have o:=aJ l d
 refine cb ((c==8)) (fun i=>?_) (fun i=>?_)
 have aa:=ag i
 refine go<|Pl 2<|?_
 have Q:=nb (au O) P.size a
 refine ay<|m3 (ra (dir:=0) (c:=c) ⟨hcode1,hcode2⟩ r (ub d q) (Ne.symm Q)) fun bg ad ae R=>?_
 obtain⟨af,t,u⟩:=ae
 refine ab ad fun x41 S T=>?_
 refine nl<|bn<|tn<|ak 1<|ay<|m2 (cH T) fun bh U v=>nt<|sq<|ak 1<|ay<|mq (bL U)<|?_
 have bi:=al.len U
 refine Pl 1<|cN 2<|?_
 have x:=u1 R v im
 have V:=ut o x (ac (ni l.size a) (ac (ni N.size p) aC))
 have hs:aj bf 0 c b=bt ((eE 0 c (ai.mk b false 0)).2) ((eE 0 c (ai.mk b false 0)).1):=by
   unfold aj bf
   (try simp only[i,bj,dQ,dU,dW,dT,dR,reduceIte])
   all_goals rfl
 refine cb ((x41.endC.e != 0)) (fun y=>?_) (fun y=>?_)
 have z:=az y
 refine ak 2<|?_
 refine aG (ub (ud f (ud d x a) p) g) mZ fun bl an ao=>ah 1<|aV<|bH an (vI x41.endC.e)<|?_
 subst S
 rw[hs]
 exact bI z (ud V ao h)
 have z:=aA y
 refine bo<|sg<|?_
 refine L0<|bO (hz:=(by rw[t.2];exact aQ)) (be v Q t.1)<|?_
 refine aG (hz:=(by rw[t.2];exact aQ)) (hv:=u.size) (h1:=u.one) (ub (ud f (ud d x a) p) g) (af) fun bm ap W=>ah 1<|rt<|fh 22 t.2 ap (vI 0)<|?_
 subst S
 rw[hs]
 exact bM z (aI.upd u (us v W) (av (al.safe T _ (by decide)) (av (b6 (ub (ud f (ud d R a) p) g) (by decide)) aN))) (ud V W h)
 have aa:=am i
 refine sq<|aD 2<|cb ((c==7)) (fun j=>?_) (fun j=>?_)
 have aq:=ag j
 refine bo<|ct j<|aD 2<|c0<|sk<|bn<|tn<|ak 1<|ay<|m2 (cH r) fun bp X B=>nt<|sq<|ak 1<|ay<|mq (bL X)<|?_
 have bq:=al.len X
 refine Pl 1<|cN 2<|?_
 have Y:=ud o B (le l.size a)
 have hs:aj bf 0 c b=bt (aT.mk c 0 0 0 0 0 0 0 0 0 0 0 [] [] [] [] 0 0 0 0 0 []) (ai.mk b false 0):=by
   unfold aj bf
   (try simp only[i,j,bj,dQ,dU,dW,dT,dR,reduceIte])
   all_goals rfl
 refine cb (((((ai.mk b false 0).endC).e)!=0)) (fun C=>?_) (fun C=>?_)
 have D:=az C
 refine ak 2<|?_
 refine aG (ub (aJ f (ud d B a)) g) mZ fun bs ar aw=>ah 1<|aV<|bH ar (vI (((ai.mk b false 0).endC).e))<|?_
 rw[hs]
 exact bI D (ud Y aw h)
 have D:=aA C
 refine bo<|sg<|?_
 have Z:=ud d B a
 refine L0<|bO (ub Z q)<|?_
 refine aG (ub (aJ f Z) g) (mC c) fun bu ax aB=>ah 1<|rt<|bH ax (vI 0)<|?_
 rw[hs]
 exact bM D ⟨_,_,_,_,_,rfl,aS.nil ..,aS.nil ..,aS.nil ..,aS.nil ..,aS.nil ..,(cY (by omega))⟩ (ud Y aB h)
 have aq:=am j
 refine aD 2<|cb ((c==11)) (fun k=>?_) (fun k=>?_)
 have aE:=ag k
 refine bo<|ct k<|aD 2<|c0<|sk<|bn<|tn<|ak 1<|ay<|m2 (cH r) fun bv a0 E=>nt<|sq<|ak 1<|ay<|mq (bL a0)<|?_
 have bw:=al.len a0
 refine Pl 1<|cN 2<|?_
 have a1:=ud o E (le l.size a)
 have hs:aj bf 0 c b=bt (aT.mk c 0 0 0 0 0 0 0 0 0 0 0 [] [] [] [] 0 0 0 0 0 []) (ai.mk b false 0):=by
   unfold aj bf
   (try simp only[i,j,k,bj,dQ,dU,dW,dT,dR,reduceIte])
   all_goals rfl
 refine cb (((((ai.mk b false 0).endC).e)!=0)) (fun F=>?_) (fun F=>?_)
 have G:=az F
 refine ak 2<|?_
 refine aG (ub (aJ f (ud d E a)) g) mZ fun bx aF aH=>ah 1<|aV<|bH aF (vI (((ai.mk b false 0).endC).e))<|?_
 rw[hs]
 exact bI G (ud a1 aH h)
 have G:=aA F
 refine bo<|sg<|?_
 have a2:=ud d E a
 refine L0<|bO (ub a2 q)<|?_
 refine aG (ub (aJ f a2) g) (mC c) fun bz aL aO=>ah 1<|rt<|bH aL (vI 0)<|?_
 rw[hs]
 exact bM G ⟨_,_,_,_,_,rfl,aS.nil ..,aS.nil ..,aS.nil ..,aS.nil ..,aS.nil ..,(cY (by omega))⟩ (ud a1 aO h)
 have aE:=am k
 refine aD 2<|cb ((c==12)) (fun n=>?_) (fun n=>?_)
 have aP:=ag n
 refine bo<|ct n<|aD 2<|c0<|sk<|bn<|tn<|ak 1<|ay<|m2 (cH r) fun bA a3 H=>nt<|sq<|ak 1<|ay<|mq (bL a3)<|?_
 have bB:=al.len a3
 refine Pl 1<|cN 2<|?_
 have a4:=ud o H (le l.size a)
 have hs:aj bf 0 c b=bt (aT.mk c 0 0 0 0 0 0 0 0 0 0 0 [] [] [] [] 0 0 0 0 0 []) (ai.mk b false 0):=by
   unfold aj bf
   (try simp only[i,j,k,n,bj,dQ,dU,dW,dT,dR,reduceIte])
   all_goals rfl
 refine cb (((((ai.mk b false 0).endC).e)!=0)) (fun I=>?_) (fun I=>?_)
 have J:=az I
 refine ak 2<|?_
 refine aG (ub (aJ f (ud d H a)) g) mZ fun bC aR aU=>ah 1<|aV<|bH aR (vI (((ai.mk b false 0).endC).e))<|?_
 rw[hs]
 exact bI J (ud a4 aU h)
 have J:=aA I
 refine bo<|sg<|?_
 have a5:=ud d H a
 refine L0<|bO (ub a5 q)<|?_
 refine aG (ub (aJ f a5) g) (mC c) fun bD aW aY=>ah 1<|rt<|bH aW (vI 0)<|?_
 rw[hs]
 exact bM J ⟨_,_,_,_,_,rfl,aS.nil ..,aS.nil ..,aS.nil ..,aS.nil ..,aS.nil ..,(cY (by omega))⟩ (ud a4 aY h)
 have aP:=am n
 refine go<|ah 2<|cb ((c==17)) (fun s=>?_) (fun s=>?_)
 have aZ:=ag s
 refine aD 2<|c0<|sk<|bn<|tn<|ak 1<|ay<|m2 (cH r) fun bE a6 K=>nl<|tn<|sq<|ak 1<|ay<|mq (bL a6)<|?_
 have bF:=al.len a6
 refine Pl 1<|cN 2<|?_
 have a7:=ud o K (le l.size a)
 have hs:aj bf 0 c b=bt (aT.mk c 0 0 0 0 0 0 0 0 0 0 0 [] [] [] [] 0 0 0 0 0 []) (ai.mk b false 0):=by
   unfold aj bf
   (try simp only[i,j,k,n,s,bj,dQ,dU,dW,dT,dR,reduceIte])
   all_goals rfl
 refine cb (((((ai.mk b false 0).endC).e)!=0)) (fun L=>?_) (fun L=>?_)
 have M:=az L
 refine ak 2<|?_
 refine aG (ub (aJ f (ud d K a)) g) mZ fun bG b0 b1=>ah 1<|aV<|bH b0 (vI (((ai.mk b false 0).endC).e))<|?_
 rw[hs]
 exact bI M (ud a7 b1 h)
 have M:=aA L
 refine bo<|sg<|?_
 have a8:=ud d K a
 refine L0<|bO (ub a8 q)<|?_
 refine aG (ub (aJ f a8) g) (mC c) fun bJ b2 b3=>ah 1<|rt<|bH b2 (vI 0)<|?_
 rw[hs]
 exact bM M ⟨_,_,_,_,_,rfl,aS.nil ..,aS.nil ..,aS.nil ..,aS.nil ..,aS.nil ..,(cY (by omega))⟩ (ud a7 b3 h)
 have aZ:=am s
 refine ak 1<|?_
 refine aG (ub (aJ f d) g) mZ fun bK b4 b5=>ah 1<|rt<|br<|tr<|bH b4 (vI 4)<|?_
 exact cC (by unfold aj bf;(try simp only[i,j,k,n,s,bj,dQ,dU,dW,dT,dR,reduceIte])<;>rfl) (d6 (ud o b5 h))
theorem pQ(hcode:B8 c)(hsl:aX m w (.slice A b.length cp) b)(hb:b.length≤1048576) :
    Calls Tryz.prog 100 #[vI 1,vB c,.slice A b.length cp] w (eT (aj bf 1 c b) w):=by
 obtain⟨hcode1,hcode2⟩:=hcode
 have hln:(b.length:Int)≤1048576:=by omega
 refine en 47 Tryz.func100 rfl<|sg<|aK mZ fun bW bX i h p=>ah 1<|sq<|aD 6<|c0<|bo<|ak 2<|aK mZ fun bY bZ f q b5=>aG q (mC c) fun c2 t r=>aM 1<|?_
 have g:=ud b5 r f
 have n:=aJ p g
 refine ay<|e3 (et (aX.old hsl n) (by omega)) fun c3 c4 a u d=>ah 1<|sq<|aD 1<|bk<|ak 2<|nl<|tn<|?_
 have s:=aJ n d
 refine cb ((c==8)) (fun j=>?_) (fun j=>?_)
 have b7:=ag j
 refine go<|Pl 2<|?_
 have a2:=nb (au q) r.size a
 refine ay<|m3 (ra (dir:=1) (c:=c) ⟨hcode1,hcode2⟩ u (ub d t) (Ne.symm a2)) fun c5 b8 b9 a3=>?_
 obtain⟨ba,x,D⟩:=b9
 refine ab b8 fun x41 a4 a5=>?_
 refine nl<|bn<|tn<|ak 1<|ay<|m2 (cH a5) fun c6 a6 E=>nt<|sq<|ak 1<|ay<|mq (bL a6)<|?_
 have c7:=al.len a6
 refine Pl 1<|cN 2<|?_
 have F:=u1 a3 E im
 have a7:=ut s F (ac (ni n.size a) (ac (ni p.size f) aC))
 have hs:aj bf 1 c b=bt ((eE 1 c (ai.mk b false 0)).2) ((eE 1 c (ai.mk b false 0)).1):=by
   unfold aj bf
   (try simp only[j,bj,dQ,dU,dW,dT,dR,reduceIte])
   all_goals rfl
 refine cb ((x41.endC.e != 0)) (fun G=>?_) (fun G=>?_)
 have H:=az G
 refine ak 2<|?_
 refine aG (ub (ud g (ud d F a) f) h) mZ fun c8 bb bc=>ah 1<|aV<|bH bb (vI x41.endC.e)<|?_
 subst a4
 rw[hs]
 exact bI H (ud a7 bc i)
 have H:=aA G
 refine bo<|sg<|?_
 refine L0<|bO (hz:=(by rw[x.2];exact aQ)) (be E a2 x.1)<|?_
 refine aG (hz:=(by rw[x.2];exact aQ)) (hv:=D.size) (h1:=D.one) (ub (ud g (ud d F a) f) h) (ba) fun c9 bd a8=>ah 1<|rt<|fh 22 x.2 bd (vI 0)<|?_
 subst a4
 rw[hs]
 exact bM H (aI.upd D (us E a8) (av (al.safe a5 _ (by decide)) (av (b6 (ub (ud g (ud d a3 a) f) h) (by decide)) aN))) (ud a7 a8 i)
 have b7:=am j
 refine sq<|aD 2<|cb ((c==7)) (fun k=>?_) (fun k=>?_)
 have bg:=ag k
 refine bo<|ct k<|aD 2<|c1<|go<|Pl 1<|?_
 have a9:=nb (au q) r.size a
 refine ay<|m3 (iG (c:=c) ⟨hcode1,hcode2⟩ u (ub d t) (Ne.symm a9)) fun ca bh bi aa=>?_
 obtain⟨bl,y,I⟩:=bi
 refine ab bh fun x81 ad ae=>?_
 refine nl<|bn<|tn<|ak 1<|ay<|m2 (cH ae) fun cc af J=>nt<|sq<|ak 1<|ay<|mq (bL af)<|?_
 have cd:=al.len af
 refine Pl 1<|cN 2<|?_
 have K:=u1 aa J im
 have an:=ut s K (ac (ni n.size a) (ac (ni p.size f) aC))
 have hs:aj bf 1 c b=bt ((cI c (ai.mk b false 0)).2) ((cI c (ai.mk b false 0)).1):=by
   unfold aj bf
   (try simp only[j,k,bj,dQ,dU,dW,dT,dR,reduceIte])
   all_goals rfl
 refine cb ((x81.endC.e != 0)) (fun L=>?_) (fun L=>?_)
 have M:=az L
 refine ak 2<|?_
 refine aG (ub (ud g (ud d K a) f) h) mZ fun ce bm bp=>ah 1<|aV<|bH bm (vI x81.endC.e)<|?_
 subst ad
 rw[hs]
 exact bI M (ud an bp i)
 have M:=aA L
 refine bo<|sg<|?_
 refine L0<|bO (hz:=(by rw[y.2];exact aQ)) (be J a9 y.1)<|?_
 refine aG (hz:=(by rw[y.2];exact aQ)) (hv:=I.size) (h1:=I.one) (ub (ud g (ud d K a) f) h) (bl) fun cf bq ao=>ah 1<|rt<|fh 22 y.2 bq (vI 0)<|?_
 subst ad
 rw[hs]
 exact bM M (aI.upd I (us J ao) (av (al.safe ae _ (by decide)) (av (b6 (ub (ud g (ud d aa a) f) h) (by decide)) aN))) (ud an ao i)
 have bg:=am k
 refine aD 2<|cb ((c==11)) (fun l=>?_) (fun l=>?_)
 have bs:=ag l
 refine bo<|ct l<|aD 2<|c1<|go<|Pl 1<|?_
 have ap:=nb (au q) r.size a
 refine ay<|m3 (iG (c:=c) ⟨hcode1,hcode2⟩ u (ub d t) (Ne.symm ap)) fun cg bu bv aq=>?_
 obtain⟨bw,z,N⟩:=bv
 refine ab bu fun ar aw ax=>?_
 refine nl<|bn<|tn<|ak 1<|ay<|m2 (cH ax) fun ch aB O=>nt<|sq<|ak 1<|ay<|mq (bL aB)<|?_
 have ci:=al.len aB
 refine Pl 1<|cN 2<|?_
 have P:=u1 aq O im
 have aE:=ut s P (ac (ni n.size a) (ac (ni p.size f) aC))
 have hs:aj bf 1 c b=bt ((cI c (ai.mk b false 0)).2) ((cI c (ai.mk b false 0)).1):=by
   unfold aj bf
   (try simp only[j,k,l,bj,dQ,dU,dW,dT,dR,reduceIte])
   all_goals rfl
 refine cb ((ar.endC.e != 0)) (fun Q=>?_) (fun Q=>?_)
 have R:=az Q
 refine ak 2<|?_
 refine aG (ub (ud g (ud d P a) f) h) mZ fun cj bx bz=>ah 1<|aV<|bH bx (vI ar.endC.e)<|?_
 subst aw
 rw[hs]
 exact bI R (ud aE bz i)
 have R:=aA Q
 refine bo<|sg<|?_
 refine L0<|bO (hz:=(by rw[z.2];exact aQ)) (be O ap z.1)<|?_
 refine aG (hz:=(by rw[z.2];exact aQ)) (hv:=N.size) (h1:=N.one) (ub (ud g (ud d P a) f) h) (bw) fun ck bA aF=>ah 1<|rt<|fh 22 z.2 bA (vI 0)<|?_
 subst aw
 rw[hs]
 exact bM R (aI.upd N (us O aF) (av (al.safe ax _ (by decide)) (av (b6 (ub (ud g (ud d aq a) f) h) (by decide)) aN))) (ud aE aF i)
 have bs:=am l
 refine aD 2<|cb ((c==12)) (fun o=>?_) (fun o=>?_)
 have bB:=ag o
 refine bo<|ct o<|aD 2<|c1<|go<|Pl 1<|?_
 have aH:=nb (au q) r.size a
 refine ay<|m3 (iG (c:=c) ⟨hcode1,hcode2⟩ u (ub d t) (Ne.symm aH)) fun cl bC bD aL=>?_
 obtain⟨bE,B,S⟩:=bD
 refine ab bC fun aO aP aR=>?_
 refine nl<|bn<|tn<|ak 1<|ay<|m2 (cH aR) fun cm aS T=>nt<|sq<|ak 1<|ay<|mq (bL aS)<|?_
 have cn:=al.len aS
 refine Pl 1<|cN 2<|?_
 have U:=u1 aL T im
 have aT:=ut s U (ac (ni n.size a) (ac (ni p.size f) aC))
 have hs:aj bf 1 c b=bt ((cI c (ai.mk b false 0)).2) ((cI c (ai.mk b false 0)).1):=by
   unfold aj bf
   (try simp only[j,k,l,o,bj,dQ,dU,dW,dT,dR,reduceIte])
   all_goals rfl
 refine cb ((aO.endC.e != 0)) (fun V=>?_) (fun V=>?_)
 have W:=az V
 refine ak 2<|?_
 refine aG (ub (ud g (ud d U a) f) h) mZ fun co bF bG=>ah 1<|aV<|bH bF (vI aO.endC.e)<|?_
 subst aP
 rw[hs]
 exact bI W (ud aT bG i)
 have W:=aA V
 refine bo<|sg<|?_
 refine L0<|bO (hz:=(by rw[B.2];exact aQ)) (be T aH B.1)<|?_
 refine aG (hz:=(by rw[B.2];exact aQ)) (hv:=S.size) (h1:=S.one) (ub (ud g (ud d U a) f) h) (bE) fun cq bJ aU=>ah 1<|rt<|fh 22 B.2 bJ (vI 0)<|?_
 subst aP
 rw[hs]
 exact bM W (aI.upd S (us T aU) (av (al.safe aR _ (by decide)) (av (b6 (ub (ud g (ud d aL a) f) h) (by decide)) aN))) (ud aT aU i)
 have bB:=am o
 refine go<|ah 2<|cb ((c==17)) (fun v=>?_) (fun v=>?_)
 have bK:=ag v
 refine aD 2<|c1<|go<|Pl 1<|?_
 have aW:=nb (au q) r.size a
 refine ay<|m3 (iG (c:=c) ⟨hcode1,hcode2⟩ u (ub d t) (Ne.symm aW)) fun cr bN bP aY=>?_
 obtain⟨bQ,C,X⟩:=bP
 refine ab bN fun aZ b0 b1=>?_
 refine nl<|bn<|tn<|ak 1<|ay<|m2 (cH b1) fun cs b2 Y=>nt<|sq<|ak 1<|ay<|mq (bL b2)<|?_
 have cu:=al.len b2
 refine Pl 1<|cN 2<|?_
 have Z:=u1 aY Y im
 have b3:=ut s Z (ac (ni n.size a) (ac (ni p.size f) aC))
 have hs:aj bf 1 c b=bt ((cI c (ai.mk b false 0)).2) ((cI c (ai.mk b false 0)).1):=by
   unfold aj bf
   (try simp only[j,k,l,o,v,bj,dQ,dU,dW,dT,dR,reduceIte])
   all_goals rfl
 refine cb ((aZ.endC.e != 0)) (fun a0=>?_) (fun a0=>?_)
 have a1:=az a0
 refine ak 2<|?_
 refine aG (ub (ud g (ud d Z a) f) h) mZ fun cv bR bS=>ah 1<|aV<|bH bR (vI aZ.endC.e)<|?_
 subst b0
 rw[hs]
 exact bI a1 (ud b3 bS i)
 have a1:=aA a0
 refine bo<|sg<|?_
 refine L0<|bO (hz:=(by rw[C.2];exact aQ)) (be Y aW C.1)<|?_
 refine aG (hz:=(by rw[C.2];exact aQ)) (hv:=X.size) (h1:=X.one) (ub (ud g (ud d Z a) f) h) (bQ) fun cw bT b4=>ah 1<|rt<|fh 22 C.2 bT (vI 0)<|?_
 subst b0
 rw[hs]
 exact bM a1 (aI.upd X (us Y b4) (av (al.safe b1 _ (by decide)) (av (b6 (ub (ud g (ud d aY a) f) h) (by decide)) aN))) (ud b3 b4 i)
 have bK:=am v
 refine ak 1<|?_
 refine aG (ub (aJ g d) h) mZ fun cx bU bV=>ah 1<|rt<|br<|tr<|bH bU (vI 4)<|?_
 exact cC (by unfold aj bf;(try simp only[j,k,l,o,v,bj,dQ,dU,dW,dT,dR,reduceIte])<;>rfl) (d6 (ud s bV i))
theorem qi(hcode:B8 c)(hsl:aX m w (.slice A b.length cp) b)(hb:b.length≤1048576)(hd:¬ (dir=0∨dir=1)) :
    Calls Tryz.prog 100 #[vI dir,vB c,.slice A b.length cp] w (eT (aj bf dir c b) w):=by
 obtain⟨hcode1,hcode2⟩:=hcode
 have hln:(b.length:Int)≤1048576:=by omega
 have e0:(dir != 0)=true:=by simp;omega
 have e1:(dir != 1)=true:=by simp;omega
 refine en 47 Tryz.func100 rfl<|sg<|aK mZ fun g h a d e=>ah 1<|sq<|ak 3<|sy 13 e0<|Pl 3<|nl<|tn<|ct e1<|ak 1<|aG d mZ fun i eP f=>ah 1<|aV<|bH eP (vI 1)<|?_
 exact cC (by unfold aj bf;(try simp only[e0,e1,bj,dQ,dU,dW,dT,dR,reduceIte,hd])<;>rfl) (d6 (ud e f a))
theorem nL(hc:B8 c)(h:aX m w v b)(hb:b.length≤1048576) :
    Calls Tryz.prog 100 #[.int .i64 dir,.int .u8 c,v] w (eT (aj bf dir c b) w):=by
  obtain⟨A,cp,rfl,_,_⟩:=h.shape
  by_cases h0:dir=0
  · subst h0;exact qg hc h hb
  by_cases h1:dir=1
  · subst h1;exact pQ hc h hb
  exact qi hc h hb (by omega)
open Go.RowKit
def eR:Nat→ai→List Obj→ai × List Obj
  | 0,C,L=>(C,L)
  | n+1,C,L=>eR n (((C.bytesC 1).bytesC 1).bytesC (C.bytesC 1).byteV) (L++[⟨C.byteV,((C.bytesC 1).bytesC 1).bytesR (C.bytesC 1).byteV⟩])
def md (C:ai) : ai:=(C.bytesC 1).need (cA C.byteV) 6
def ma (C:ai) : ai:=((md C).bytesC 1).need ((md C).byteV==0 || (md C).byteV==255) 6
def o9 (C:ai) : ai:=((ma C).bytesC 1).need ((md C).byteV != 0 || (ma C).byteV==0) 6
def zF (kd:Int)(C:ai) : ai:=((o9 C).bytesC 1).need (kd != 4 || (o9 C).byteV==1) 5
def dV (kd:Int)(C:ai) : ai × List Obj:=eR (o9 C).byteV.toNat (zF kd C) []
theorem tF{me kd:Int}{C0:ai}  (hcode:B8 c)(hme:B8 me)(hkd:B8 kd)(hC:al w g C0)(hm:w.heap[gm]? = some (.cells #[vB c,vB 0,vW 0,vW 0,vW 0,vW 0,vW 0,vW 0,vW 0,vW 0,vW 0,vW 0,nS,nS,nS,nS,vB me,vB kd,vB 0,vB 0,vB 0,nS] 45 (0,0)))(hne:g≠gm) :
    Calls Tryz.prog 161 #[vP g 0,vP gm 0] w (cX g gm (dV kd C0).1 { aT.zero with code:=c,mei:=me,kind:=kd,level:=C0.byteV,more:=(md C0).byteV,next:=(ma C0).byteV,objects:=(dV kd C0).2 } w):=by
 obtain⟨hcode1,hcode2⟩:=hcode
 obtain⟨hme1,hme2⟩:=hme
 obtain⟨hkd1,hkd2⟩:=hkd
 refine en 92 Tryz.func161 rfl<|ak 2<|ay<|m3 (cl hC) fun cY bR b cZ=>Pl 2<|?_
 have aj:=be b (Ne.symm hne) hm
 refine L0<|cm aj 18 (mG c 0 0 0 0 0 0 0 0 0 0 0 nS nS nS nS me kd C0.byteV 0 0 nS) fun d0 eP j=>aM 4<|aE eP 18<|ay<|m1 (wP (x:=C0.byteV) (w:=_)) fun d1 d=>?_
 have an:=aJ j d
 refine ay<|m2 (bu ((cA C0.byteV)) 6 (al.upd bR an (aa hne aF) (av (b6 aj (by decide)) aN))) fun d2 bS l=>?_
 refine ab bS fun x25 bT bU=>?_
 refine aM 2<|ay<|m3 (cl bU) fun d3 bX o d4=>Pl 2<|?_
 have ao:=u1 l o im
 have ap:=be (uz d ao) (Ne.symm hne) eP
 refine L0<|cm ap 19 (mG c 0 0 0 0 0 0 0 0 0 0 0 nS nS nS nS me kd C0.byteV x25.byteV 0 nS) fun d5 U f=>aM 4<|aE U 19<|Pl 2<|cu 6 [29] 35 (((x25.byteV==0)||(x25.byteV==255))) (fun K ar=>?_) ?_
 refine bl 29 ((x25.byteV==0)) (fun E=>?_) (fun E=>?_)
 have bY:=ag E
 exact Pl 6<|ce ar true (by rw[E];rfl)
 have bY:=am E
 exact Pl 3<|L1<|dX U 19<|Pl 2<|ce ar (x25.byteV==255) (by rw[E];rfl)
 refine ay<|m2 (bu (((x25.byteV==0)||(x25.byteV==255))) 6 (al.upd bX f (aa hne aF) (av (b6 ap (by decide)) aN))) fun d6 bZ p=>?_
 refine ab bZ fun x44 c0 c1=>?_
 refine aM 2<|ay<|m3 (cl c1) fun d7 c2 q d8=>Pl 2<|?_
 have aw:=u1 p q im
 have aG:=be aw (Ne.symm hne) U
 refine L0<|cm aG 20 (mG c 0 0 0 0 0 0 0 0 0 0 0 nS nS nS nS me kd C0.byteV x25.byteV x44.byteV nS) fun da V h=>aM 4<|aE V 19<|Pl 2<|cu 6 [48] 54 (((x25.byteV != 0)||(x44.byteV==0))) (fun K aI=>?_) ?_
 refine bl 48 ((x25.byteV != 0)) (fun F=>?_) (fun F=>?_)
 have c3:=az F
 exact Pl 6<|ce aI true (by rw[F];rfl)
 have c3:=aA F
 exact Pl 3<|L1<|dX V 20<|Pl 2<|ce aI (x44.byteV==0) (by rw[F];rfl)
 refine ay<|m2 (bu (((x25.byteV != 0)||(x44.byteV==0))) 6 (al.upd c2 h (aa hne aF) (av (b6 aG (by decide)) aN))) fun db c4 r=>?_
 refine ab c4 fun x62 c5 c6=>?_
 refine aM 1<|ay<|m3 (cl c6) fun dd c7 s de=>bq x62.byteV<|Pl 1<|aM 4<|?_
 have aK:=u1 r s im
 have aO:=be aK (Ne.symm hne) V
 refine aE aO 17<|Pl 2<|cu 3 [65] 68 (((kd != 4)||(x62.byteV==1))) (fun K aP=>?_) ?_
 refine bl 65 ((kd != 4)) (fun G=>?_) (fun G=>?_)
 have c8:=az G
 exact Pl 3<|ce aP true (by rw[G];rfl)
 have c8:=aA G
 exact Pl 3<|ce aP (x62.byteV==1) (by rw[G];rfl)
 refine ay<|m2 (bu (((kd != 4)||(x62.byteV==1))) 5 c7) fun W c9 i=>?_
 refine ab c9 fun x76 ca cc=>?_
 refine cN 2<|bk<|?_
 refine je (fun x=>[(0,vP g 0),(1,vP gm 0),(70,vI x62.byteV),(71,vI (x.1:Int))]) (fun(x:Nat × ai × List Obj × Option Addr × Nat) w'=>aH [g,gm] W w'∧al w' g x.2.1∧w'.heap[gm]? = some (.cells #[vB c,vB 0,vW 0,vW 0,vW 0,vW 0,vW 0,vW 0,vW 0,vW 0,vW 0,vW 0,nS,nS,nS,nS,vB me,vB kd,vB C0.byteV,vB x25.byteV,vB x44.byteV,.slice x.2.2.2.1 x.2.2.1.length x.2.2.2.2] 45 (0,0))∧b7 W.heap.size 100 2 (dJ true) w' (.slice x.2.2.2.1 x.2.2.1.length x.2.2.2.2) x.2.2.1∧(x.1≤x62.byteV.toNat)∧(eR (x62.byteV.toNat-x.1) x.2.1 x.2.2.1=eR x62.byteV.toNat x76 [])∧(x.2.2.1.length≤x.1)) (fun x=>x62.byteV.toNat-x.1) (0,x76,[],none,0) ⟨aH.refl _ _,cc,(be i (Ne.symm hne) aO),b7.nil ..,(by(try dsimp only);omega),(by(try dsimp only);rw[Nat.sub_zero]),(by(try dsimp only);(try simp only[bV]);omega)⟩ ?_
 rintro⟨k,C,L,A,cp⟩ X ⟨v,cd,cf,cg,ch,ci,cj⟩
 refine ji [(0,vP g 0),(1,vP gm 0),(70,vI x62.byteV),(71,vI (k:Int))] ?_
 have u:al X g C:=cd
 have D:X.heap[gm]? = some (.cells #[vB c,vB 0,vW 0,vW 0,vW 0,vW 0,vW 0,vW 0,vW 0,vW 0,vW 0,vW 0,nS,nS,nS,nS,vB me,vB kd,vB C0.byteV,vB x25.byteV,vB x44.byteV,.slice A L.length cp] 45 (0,0)):=cf
 have a:b7 W.heap.size 100 2 (dJ true) X (.slice A L.length cp) L:=cg
 have df:k≤x62.byteV.toNat:=ch
 have dg:eR (x62.byteV.toNat-k) C L=eR x62.byteV.toNat x76 []:=ci
 have dh:L.length≤k:=cj
 have hobj:eR (x62.byteV.toNat-k) C L=eR x62.byteV.toNat x76 []:=by assumption
 refine aD 1<|sq<|?_
 refine cb ((decide ((k:Int)<x62.byteV))) (fun Y=>?_) (fun Y=>?_)
 have ck:=of_decide_eq_true Y
 refine bo<|sq<|bk<|ak 1<|ay<|m3 (cl u) fun di aQ y dj=>ah 1<|Rg 17 (fun w'=>True) fun dk t=>bp trivial fun z=>Rt 0 z<|Rt 1 z<|Rt 2 z<|Rt 3 z<|Rt 5 z<|Rt 6 z<|Rt 7 z<|R2 4 8 rfl rfl ?_ ?_
 have Z:=aJ y t
 have a0:=be Z (Ne.symm hne) D
 refine  dX a0 21<|bp trivial fun dl=>?_
 refine R0 8 rfl<|Oc<|m3 (cl (al.old aQ t)) fun dm aR a1 dn=>bp trivial fun cn=>Rr 9 cn (vI ((C.bytesC 1).byteV)) (fun _ _=>bW (vI (IntKind.i64.wrap ((C.bytesC 1).byteV))) (by kernel_rfl) (congrArg (Value.int .i64) (i64_in (by omega))))<|R0 10 rfl<|Oc<|wH (cR (n:=(C.bytesC 1).byteV) aR) fun co cq dp cr dq dr cs a2=>?_
 have ds:=Nat.le_trans (ai.bytesR_le ((C.bytesC 1).bytesC 1) ((C.bytesC 1).byteV)) (al.len aR)
 refine ab cs fun dt ct cv=>?_
 refine bp trivial fun cw=>Rt 11 cw<|R0 12 rfl<|d9 (m:=1) (e:=100) #[vB C.byteV,.slice co ((((C.bytesC 1).bytesC 1).bytesR ((C.bytesC 1).byteV)).length) cq] fun du dv dw cx I=>?_
 have cy:=mb (R:=dJ true) (x:=(Obj.mk C.byteV (((C.bytesC 1).bytesC 1).bytesR ((C.bytesC 1).byteV)))) cx rfl ⟨_,rfl,(aX.upd' cr I aN),b8 (by omega)⟩
 refine bp trivial fun dx=>?_
 have aV:=u1 a1 (aJ a2 I) im
 have a3:=u1 Z aV im
 have aW:=ax a a3 (fun x hx=>(aa (fun e=>(aL (al.lt hC) (le (le (le (le (le (le (le (le (le (le (le b.size j.size) d.size) l.size) o.size) f.size) p.size) q.size) h.size) r.size) s.size) i.size) a) (e▸hx)) aF)) (dJ.upd8 a3 (av (al.safe u _ (by decide)) aN))
 refine R0 13 rfl<|j9 (xs:=L) (ys:=([(Obj.mk C.byteV (((C.bytesC 1).bytesC 1).bytesR ((C.bytesC 1).byteV)))])) (.agg #[vB 0,nS]) 2 32 aW cy (by simp) dJ.ones (fun w' hv=>dJ.upd8 hv (dc (dS _ aW (by decide)) aN)) (by(try simp only[bV,aB]);omega) (le (le (le (le (le v.size y.size) t.size) a1.size) a2.size) I.size) fun aY aZ dy b0 b1=>bp trivial fun b2=>Rt 14 b2<|Rt 15 b2<|?_
 have b3:=aH.blk (ut (aH.mono (S':=(g :: (ob A++[]))) aV (ac im aC)) b1 (aq il aC)) (aa (Ne.symm hne) (bC (aL (au hm) (le (le (le (le (le (le (le (le (le (le (le b.size j.size) d.size) l.size) o.size) f.size) p.size) q.size) h.size) r.size) s.size) i.size) a) aF)) a0
 refine R0 16 rfl<|cm b3 21 (mG c 0 0 0 0 0 0 0 0 0 0 0 nS nS nS nS me kd C0.byteV x25.byteV x44.byteV (.slice aY ((L++[(Obj.mk C.byteV (((C.bytesC 1).bytesC 1).bytesR ((C.bytesC 1).byteV)))]).length) aZ)) fun dz cz a4=>bp trivial fun dA=>re<|bn<|tn<|go<|bq ((k:Int)+1)<|Pl 1<|nl<|?_
 subst ct
 have b4:=u1 (aH.mono (S':=(ob A++(gm :: []))) b1 (aq il aC)) a4 im
 have b5:=u1 a1 a2 im
 have b9:=u1 Z b5 im
 exact gL ((k+1),(((C.bytesC 1).bytesC 1).bytesC ((C.bytesC 1).byteV)),(L++[(Obj.mk C.byteV (((C.bytesC 1).bytesC 1).bytesR ((C.bytesC 1).byteV)))]),aY,aZ) ⟨(ut v (ut (aH.mono (S':=(g :: (ob A++(gm :: [])))) a3 (ac im aC)) b4 (aq il (ac im aC))) (ac im (aq (aU a lr) (ac im aC)))),(al.upd cv (ut (aH.mono (S':=(ob A++(gm :: []))) I aC) b4 (aq il (ac im aC))) (bC (aL (al.lt hC) (le (le (le (le (le (le (le (le (le (le (le b.size j.size) d.size) l.size) o.size) f.size) p.size) q.size) h.size) r.size) s.size) i.size) a) (aa hne aF)) (dc (dS _ (ax a b9 (fun x hx=>(aa (fun e=>(aL (al.lt hC) (le (le (le (le (le (le (le (le (le (le (le b.size j.size) d.size) l.size) o.size) f.size) p.size) q.size) h.size) r.size) s.size) i.size) a) (e▸hx)) aF)) (dJ.upd8 b9 (av (al.safe u _ (by decide)) aN))) (by decide)) (av (b6 (be b5 (Ne.symm hne) a0) (by decide)) aN))),cz,(ax b0 a4 (fun x hx=>(aa (fun e=>(aL (au hm) (le (le (le (le (le (le (le (le (le (le (le b.size j.size) d.size) l.size) o.size) f.size) p.size) q.size) h.size) r.size) s.size) i.size) b0) (e▸hx)) aF)) (dJ.upd8 a4 (av (b6 b3 (by decide)) aN))),(by(try dsimp only);omega),(by(try dsimp only);rw[← hobj,show x62.byteV.toNat-k=(x62.byteV.toNat-(k+1))+1 from by omega];rfl),(by(try dsimp only);(try simp only[bV]);omega)⟩ (by omega)
 refine  Oc<|m3 (cl (al.old aQ t)) fun dB J B dC=>bp trivial fun cB=>Rr 9 cB (vI ((C.bytesC 1).byteV)) (fun _ _=>bW (vI (IntKind.i64.wrap ((C.bytesC 1).byteV))) (by kernel_rfl) (congrArg (Value.int .i64) (i64_in (by omega))))<|R2 4 10 rfl rfl ?_ ?_
 have a5:=u1 y (uz t B) im
 have a6:=be a5 (Ne.symm hne) D
 refine  dX a6 21<|bp trivial fun dD=>R0 10 rfl<|Oc<|wH (cR (n:=(C.bytesC 1).byteV) J) fun cC cD dE cE dF dG cF M=>?_
 have dH:=Nat.le_trans (ai.bytesR_le ((C.bytesC 1).bytesC 1) ((C.bytesC 1).byteV)) (al.len J)
 refine ab cF fun dI cG cH=>?_
 refine bp trivial fun cI=>Rt 11 cI<|R0 12 rfl<|d9 (m:=1) (e:=100) #[vB C.byteV,.slice cC ((((C.bytesC 1).bytesC 1).bytesR ((C.bytesC 1).byteV)).length) cD] fun dK dL dM cJ N=>?_
 have cK:=mb (R:=dJ true) (x:=(Obj.mk C.byteV (((C.bytesC 1).bytesC 1).bytesR ((C.bytesC 1).byteV)))) cJ rfl ⟨_,rfl,(aX.upd' cE N aN),b8 (by omega)⟩
 refine bp trivial fun dN=>?_
 have ba:=aJ M N
 have a7:=u1 a5 ba im
 have bb:=ax a a7 (fun x hx=>(aa (fun e=>(aL (al.lt hC) (le (le (le (le (le (le (le (le (le (le (le b.size j.size) d.size) l.size) o.size) f.size) p.size) q.size) h.size) r.size) s.size) i.size) a) (e▸hx)) aF)) (dJ.upd8 a7 (av (al.safe u _ (by decide)) aN))
 refine R0 13 rfl<|j9 (xs:=L) (ys:=([(Obj.mk C.byteV (((C.bytesC 1).bytesC 1).bytesR ((C.bytesC 1).byteV)))])) (.agg #[vB 0,nS]) 2 32 bb cK (by simp) dJ.ones (fun w' hv=>dJ.upd8 hv (dc (dS _ bb (by decide)) aN)) (by(try simp only[bV,aB]);omega) (le (le (le (le (le v.size y.size) t.size) B.size) M.size) N.size) fun bc bd dO bf bg=>bp trivial fun bh=>Rt 14 bh<|Rt 15 bh<|?_
 have bi:=aH.blk (ut (aH.mono (S':=(g :: (ob A++[]))) ba (ac im aC)) bg (aq il aC)) (aa (Ne.symm hne) (bC (aL (au hm) (le (le (le (le (le (le (le (le (le (le (le b.size j.size) d.size) l.size) o.size) f.size) p.size) q.size) h.size) r.size) s.size) i.size) a) aF)) a6
 refine R0 16 rfl<|cm bi 21 (mG c 0 0 0 0 0 0 0 0 0 0 0 nS nS nS nS me kd C0.byteV x25.byteV x44.byteV (.slice bc ((L++[(Obj.mk C.byteV (((C.bytesC 1).bytesC 1).bytesR ((C.bytesC 1).byteV)))]).length) bd)) fun dP cL a8=>bp trivial fun dQ=>re<|bn<|tn<|go<|bq ((k:Int)+1)<|Pl 1<|nl<|?_
 subst cG
 have bj:=u1 (aH.mono (S':=(ob A++(gm :: []))) bg (aq il aC)) a8 im
 have bm:=u1 a5 M im
 exact gL ((k+1),(((C.bytesC 1).bytesC 1).bytesC ((C.bytesC 1).byteV)),(L++[(Obj.mk C.byteV (((C.bytesC 1).bytesC 1).bytesR ((C.bytesC 1).byteV)))]),bc,bd) ⟨(ut v (ut (aH.mono (S':=(g :: (ob A++(gm :: [])))) a7 (ac im aC)) bj (aq il (ac im aC))) (ac im (aq (aU a lr) (ac im aC)))),(al.upd cH (ut (aH.mono (S':=(ob A++(gm :: []))) N aC) bj (aq il (ac im aC))) (bC (aL (al.lt hC) (le (le (le (le (le (le (le (le (le (le (le b.size j.size) d.size) l.size) o.size) f.size) p.size) q.size) h.size) r.size) s.size) i.size) a) (aa hne aF)) (dc (dS _ (ax a bm (fun x hx=>(aa (fun e=>(aL (al.lt hC) (le (le (le (le (le (le (le (le (le (le (le b.size j.size) d.size) l.size) o.size) f.size) p.size) q.size) h.size) r.size) s.size) i.size) a) (e▸hx)) aF)) (dJ.upd8 bm (av (al.safe u _ (by decide)) aN))) (by decide)) (av (b6 (be M (Ne.symm hne) a6) (by decide)) aN))),cL,(ax bf a8 (fun x hx=>(aa (fun e=>(aL (au hm) (le (le (le (le (le (le (le (le (le (le (le b.size j.size) d.size) l.size) o.size) f.size) p.size) q.size) h.size) r.size) s.size) i.size) bf) (e▸hx)) aF)) (dJ.upd8 a8 (av (b6 bi (by decide)) aN))),(by(try dsimp only);omega),(by(try dsimp only);rw[← hobj,show x62.byteV.toNat-k=(x62.byteV.toNat-(k+1))+1 from by omega];rfl),(by(try dsimp only);(try simp only[bV]);omega)⟩ (by omega)
 refine  Oc<|wH (cR (n:=(C.bytesC 1).byteV) J) fun br bs dR bt dT dU cM H=>?_
 have dW:=Nat.le_trans (ai.bytesR_le ((C.bytesC 1).bytesC 1) ((C.bytesC 1).byteV)) (al.len J)
 refine ab cM fun dY bv bw=>?_
 refine bp trivial fun cO=>Rt 11 cO<|R2 4 12 rfl rfl ?_ ?_
 have O:=u1 y (uz t (u1 B H im)) im
 have a9:=be O (Ne.symm hne) D
 refine  dX a9 21<|bp trivial fun dZ=>R0 12 rfl<|d9 (m:=1) (e:=100) #[vB C.byteV,.slice br ((((C.bytesC 1).bytesC 1).bytesR ((C.bytesC 1).byteV)).length) bs] fun e0 e1 e2 cP P=>?_
 have cQ:=mb (R:=dJ true) (x:=(Obj.mk C.byteV (((C.bytesC 1).bytesC 1).bytesR ((C.bytesC 1).byteV)))) cP rfl ⟨_,rfl,(aX.upd' bt P aN),b8 (by omega)⟩
 refine bp trivial fun e3=>?_
 have ad:=aJ O P
 have bz:=ax a ad (fun x hx=>(aa (fun e=>(aL (al.lt hC) (le (le (le (le (le (le (le (le (le (le (le b.size j.size) d.size) l.size) o.size) f.size) p.size) q.size) h.size) r.size) s.size) i.size) a) (e▸hx)) aF)) (dJ.upd8 ad (av (al.safe u _ (by decide)) aN))
 refine R0 13 rfl<|j9 (xs:=L) (ys:=([(Obj.mk C.byteV (((C.bytesC 1).bytesC 1).bytesR ((C.bytesC 1).byteV)))])) (.agg #[vB 0,nS]) 2 32 bz cQ (by simp) dJ.ones (fun w' hv=>dJ.upd8 hv (dc (dS _ bz (by decide)) aN)) (by(try simp only[bV,aB]);omega) (le (le (le (le (le v.size y.size) t.size) B.size) H.size) P.size) fun bA bB e4 bD bE=>bp trivial fun bF=>Rt 14 bF<|Rt 15 bF<|?_
 have bG:=ut (aH.mono (S':=(ob A++[])) P aC) bE (aq il aC)
 have bH:=aH.blk bG (bC (aL (au hm) (le (le (le (le (le (le (le (le (le (le (le b.size j.size) d.size) l.size) o.size) f.size) p.size) q.size) h.size) r.size) s.size) i.size) a) aF) a9
 refine R0 16 rfl<|cm bH 21 (mG c 0 0 0 0 0 0 0 0 0 0 0 nS nS nS nS me kd C0.byteV x25.byteV x44.byteV (.slice bA ((L++[(Obj.mk C.byteV (((C.bytesC 1).bytesC 1).bytesR ((C.bytesC 1).byteV)))]).length) bB)) fun e5 cS Q=>bp trivial fun e6=>re<|bn<|tn<|go<|bq ((k:Int)+1)<|Pl 1<|nl<|?_
 subst bv
 exact gL ((k+1),(((C.bytesC 1).bytesC 1).bytesC ((C.bytesC 1).byteV)),(L++[(Obj.mk C.byteV (((C.bytesC 1).bytesC 1).bytesR ((C.bytesC 1).byteV)))]),bA,bB) ⟨(ut v (ut (aH.mono (S':=(g :: (ob A++(gm :: [])))) ad (ac im aC)) (u1 (aH.mono (S':=(ob A++(gm :: []))) bE (aq il aC)) Q im) (aq il (ac im aC))) (ac im (aq (aU a lr) (ac im aC)))),(al.upd bw (u1 (aH.mono (S':=(ob A++(gm :: []))) bG (aq il aC)) Q im) (bC (aL (al.lt hC) (le (le (le (le (le (le (le (le (le (le (le b.size j.size) d.size) l.size) o.size) f.size) p.size) q.size) h.size) r.size) s.size) i.size) a) (aa hne aF)) (dc (dS _ (ax a O (fun x hx=>(aa (fun e=>(aL (al.lt hC) (le (le (le (le (le (le (le (le (le (le (le b.size j.size) d.size) l.size) o.size) f.size) p.size) q.size) h.size) r.size) s.size) i.size) a) (e▸hx)) aF)) (dJ.upd8 O (av (al.safe u _ (by decide)) aN))) (by decide)) (av (b6 a9 (by decide)) aN))),cS,(ax bD Q (fun x hx=>(aa (fun e=>(aL (au hm) (le (le (le (le (le (le (le (le (le (le (le b.size j.size) d.size) l.size) o.size) f.size) p.size) q.size) h.size) r.size) s.size) i.size) bD) (e▸hx)) aF)) (dJ.upd8 Q (av (b6 bH (by decide)) aN))),(by(try dsimp only);omega),(by(try dsimp only);rw[← hobj,show x62.byteV.toNat-k=(x62.byteV.toNat-(k+1))+1 from by omega];rfl),(by(try dsimp only);(try simp only[bV]);omega)⟩ (by omega)
 refine  d9 (m:=1) (e:=100) #[vB C.byteV,.slice br ((((C.bytesC 1).bytesC 1).bytesR ((C.bytesC 1).byteV)).length) bs] fun e7 e8 e9 cU S=>?_
 have cV:=mb (R:=dJ true) (x:=(Obj.mk C.byteV (((C.bytesC 1).bytesC 1).bytesR ((C.bytesC 1).byteV)))) cU rfl ⟨_,rfl,(aX.upd' bt S aN),b8 (by omega)⟩
 refine bp trivial fun ea=>?_
 have T:=u1 y (uz t (u1 B (aJ H S) im)) im
 have bI:=be T (Ne.symm hne) D
 refine R0 4 rfl<|dX bI 21<|bp trivial fun eb=>?_
 have bJ:=ax a T (fun x hx=>(aa (fun e=>(aL (al.lt hC) (le (le (le (le (le (le (le (le (le (le (le b.size j.size) d.size) l.size) o.size) f.size) p.size) q.size) h.size) r.size) s.size) i.size) a) (e▸hx)) aF)) (dJ.upd8 T (av (al.safe u _ (by decide)) aN))
 refine R0 13 rfl<|j9 (xs:=L) (ys:=([(Obj.mk C.byteV (((C.bytesC 1).bytesC 1).bytesR ((C.bytesC 1).byteV)))])) (.agg #[vB 0,nS]) 2 32 bJ cV (by simp) dJ.ones (fun w' hv=>dJ.upd8 hv (dc (dS _ bJ (by decide)) aN)) (by(try simp only[bV,aB]);omega) (le (le (le (le (le v.size y.size) t.size) B.size) H.size) S.size) fun bK bL ec bM bN=>bp trivial fun bO=>Rt 14 bO<|Rt 15 bO<|?_
 have bP:=aH.blk bN (bC (aL (au hm) (le (le (le (le (le (le (le (le (le (le (le b.size j.size) d.size) l.size) o.size) f.size) p.size) q.size) h.size) r.size) s.size) i.size) a) aF) bI
 refine R0 16 rfl<|cm bP 21 (mG c 0 0 0 0 0 0 0 0 0 0 0 nS nS nS nS me kd C0.byteV x25.byteV x44.byteV (.slice bK ((L++[(Obj.mk C.byteV (((C.bytesC 1).bytesC 1).bytesR ((C.bytesC 1).byteV)))]).length) bL)) fun ed cW ae=>bp trivial fun ee=>re<|bn<|tn<|go<|bq ((k:Int)+1)<|Pl 1<|nl<|?_
 subst bv
 have bQ:=u1 (aH.mono (S':=(ob A++(gm :: []))) bN (aq il aC)) ae im
 have af:=u1 y (uz t (u1 B H im)) im
 exact gL ((k+1),(((C.bytesC 1).bytesC 1).bytesC ((C.bytesC 1).byteV)),(L++[(Obj.mk C.byteV (((C.bytesC 1).bytesC 1).bytesR ((C.bytesC 1).byteV)))]),bK,bL) ⟨(ut v (ut (aH.mono (S':=(g :: (ob A++(gm :: [])))) T (ac im aC)) bQ (aq il (ac im aC))) (ac im (aq (aU a lr) (ac im aC)))),(al.upd bw (ut (aH.mono (S':=(ob A++(gm :: []))) S aC) bQ (aq il (ac im aC))) (bC (aL (al.lt hC) (le (le (le (le (le (le (le (le (le (le (le b.size j.size) d.size) l.size) o.size) f.size) p.size) q.size) h.size) r.size) s.size) i.size) a) (aa hne aF)) (dc (dS _ (ax a af (fun x hx=>(aa (fun e=>(aL (al.lt hC) (le (le (le (le (le (le (le (le (le (le (le b.size j.size) d.size) l.size) o.size) f.size) p.size) q.size) h.size) r.size) s.size) i.size) a) (e▸hx)) aF)) (dJ.upd8 af (av (al.safe u _ (by decide)) aN))) (by decide)) (av (b6 (be af (Ne.symm hne) D) (by decide)) aN))),cW,(ax bM ae (fun x hx=>(aa (fun e=>(aL (au hm) (le (le (le (le (le (le (le (le (le (le (le b.size j.size) d.size) l.size) o.size) f.size) p.size) q.size) h.size) r.size) s.size) i.size) bM) (e▸hx)) aF)) (dJ.upd8 ae (av (b6 bP (by decide)) aN))),(by(try dsimp only);omega),(by(try dsimp only);rw[← hobj,show x62.byteV.toNat-k=(x62.byteV.toNat-(k+1))+1 from by omega];rfl),(by(try dsimp only);(try simp only[bV]);omega)⟩ (by omega)
 have ck:=of_decide_eq_false Y
 refine xt<|tx<|tx<|bx<|rm (.tuple #[])<|?_
 subst ca c5 c0 bT
 have hf:dV kd C0=(C,L):=by
   have h1:eR ((((((C0.bytesC 1).need (cA C0.byteV) 6).bytesC 1).need ((((C0.bytesC 1).need (cA C0.byteV) 6).byteV==0)||(((C0.bytesC 1).need (cA C0.byteV) 6).byteV==255)) 6).bytesC 1).need ((((C0.bytesC 1).need (cA C0.byteV) 6).byteV != 0)||(((((C0.bytesC 1).need (cA C0.byteV) 6).bytesC 1).need ((((C0.bytesC 1).need (cA C0.byteV) 6).byteV==0)||(((C0.bytesC 1).need (cA C0.byteV) 6).byteV==255)) 6).byteV==0)) 6).byteV.toNat ((((((((C0.bytesC 1).need (cA C0.byteV) 6).bytesC 1).need ((((C0.bytesC 1).need (cA C0.byteV) 6).byteV==0)||(((C0.bytesC 1).need (cA C0.byteV) 6).byteV==255)) 6).bytesC 1).need ((((C0.bytesC 1).need (cA C0.byteV) 6).byteV != 0)||(((((C0.bytesC 1).need (cA C0.byteV) 6).bytesC 1).need ((((C0.bytesC 1).need (cA C0.byteV) 6).byteV==0)||(((C0.bytesC 1).need (cA C0.byteV) 6).byteV==255)) 6).byteV==0)) 6).bytesC 1).need ((kd != 4)||(((((((C0.bytesC 1).need (cA C0.byteV) 6).bytesC 1).need ((((C0.bytesC 1).need (cA C0.byteV) 6).byteV==0)||(((C0.bytesC 1).need (cA C0.byteV) 6).byteV==255)) 6).bytesC 1).need ((((C0.bytesC 1).need (cA C0.byteV) 6).byteV != 0)||(((((C0.bytesC 1).need (cA C0.byteV) 6).bytesC 1).need ((((C0.bytesC 1).need (cA C0.byteV) 6).byteV==0)||(((C0.bytesC 1).need (cA C0.byteV) 6).byteV==255)) 6).byteV==0)) 6).byteV==1)) 5) []=(C,L):=by
     rw[← hobj,show((((((C0.bytesC 1).need (cA C0.byteV) 6).bytesC 1).need ((((C0.bytesC 1).need (cA C0.byteV) 6).byteV==0)||(((C0.bytesC 1).need (cA C0.byteV) 6).byteV==255)) 6).bytesC 1).need ((((C0.bytesC 1).need (cA C0.byteV) 6).byteV != 0)||(((((C0.bytesC 1).need (cA C0.byteV) 6).bytesC 1).need ((((C0.bytesC 1).need (cA C0.byteV) 6).byteV==0)||(((C0.bytesC 1).need (cA C0.byteV) 6).byteV==255)) 6).byteV==0)) 6).byteV.toNat-k=0 from by omega]
     rfl
   exact h1
 rw[hf]
 exact⟨rfl,u,⟨_,⟨D,rfl⟩,⟨_,_,_,_,_,rfl,aS.nil ..,aS.nil ..,aS.nil ..,aS.nil ..,(a).rd,⟨(b8 (x:=c) (by omega)),(b8 (x:=0) (by omega)),(cT (x:=0) (by omega)),(cT (x:=0) (by omega)),(cT (x:=0) (by omega)),(cT (x:=0) (by omega)),(cT (x:=0) (by omega)),(cT (x:=0) (by omega)),(cT (x:=0) (by omega)),(cT (x:=0) (by omega)),(cT (x:=0) (by omega)),(cT (x:=0) (by omega)),(b8 (x:=me) (by omega)),(b8 (x:=kd) (by omega)),(b8 (x:=C0.byteV) (by omega)),(b8 (x:=((C0.bytesC 1).need (cA C0.byteV) 6).byteV) (by omega)),(b8 (x:=((((C0.bytesC 1).need (cA C0.byteV) 6).bytesC 1).need ((((C0.bytesC 1).need (cA C0.byteV) 6).byteV==0)||(((C0.bytesC 1).need (cA C0.byteV) 6).byteV==255)) 6).byteV) (by omega))⟩⟩⟩,(ui b (ui an (ui ao (ui f (ui aw (ui h (ui aK (ui i v))))))))⟩
end Go.Proofs.YtdkhbcefkfgbdaaGreat
